/- Executions of the reference: one attempt of PUT at a leaf. -/
import Derived.Test.YtadnboagdhcedaaGreatDoorGEx14
set_option linter.unusedSimpArgs false
set_option linter.unusedVariables false
namespace Go.Ct
open Go Go.RowKit
theorem mx{a b:ByteArray}(h:a=b):(a.toList==b.toList)=true:=by subst h;simp
theorem oi{a b:ByteArray}(h:¬a=b):(a.toList==b.toList)=false:=by
 rw[beq_eq_false_iff_ne]
 exact λ e=>h (toList_inj e)
section
variable{P:Program}{S:List (Nat×Value)}{G:World->Prop}{d:Nat}{ty t t':TypeId}{pos:String}{af:Array Edge}{gd:Option (Nat×Bool)}{x y:Operand}{a b:ByteArray}
theorem lr(hx:ev S x=.string a)(hy:ev S y=.string b)(h:a=b):aJ P S G ⟨some d,.binOp .eql t x y t',ty,pos,af,gd⟩ (.bool true):=by
 have:=Dk (P:=P) (G:=G) (d:=d) (ty:=ty) (pos:=pos) (af:=af) (gd:=gd) (t:=t) (t':=t') hx hy
 rwa [mx h] at this
theorem im(hx:ev S x=.string a)(hy:ev S y=.string b)(h:¬a=b):aJ P S G ⟨some d,.binOp .eql t x y t',ty,pos,af,gd⟩ (.bool false):=by
 have:=Dk (P:=P) (G:=G) (d:=d) (ty:=ty) (pos:=pos) (af:=af) (gd:=gd) (t:=t) (t':=t') hx hy
 rwa [oi h] at this
end
end Go.Ct
namespace Go.Proofs.YtadnboagdhcedaaGreatDoor
open Go Go.RowKit Go.Ct
section
variable{v:aL}{n c:Nat}{w:World}
theorem Hw(h:nS n c v.c){i b:Int}(e:jN v.c i=some b)(hr:qQ w v.nd v.xs v.ys):Calls Tryz.prog 115 #[v.nd.v,.int .i64 i] w λ e w'=>e=.returned (.tuple #[.int .i64 b,.bool true])/\St w [] [] w':=by
 have:=Ha h i hr
 rwa [e] at this
theorem nh(h:nS n c v.c){i:Int}(e:jN v.c i=none)(hr:qQ w v.nd v.xs v.ys):Calls Tryz.prog 115 #[v.nd.v,.int .i64 i] w λ e w'=>e=.returned (.tuple #[.int .i64 0,.bool false])/\St w [] [] w':=by
 have:=Ha h i hr
 rwa [e] at this
end
section
variable{k:Cl}{bx bm:Nat}{x:XS}{dn:Bool}{rs:Rs}{D:List Nat}{A:Fr}{w:World}{g:Gx}
abbrev Vs(g:Gx)(x:XS)(K:Rs->Int->Tr)(bx bm:Nat)(k:Cl)(dn:Bool)(rs:Rs)(D:List Nat)(w:World)(e:Ending)(w':World):Prop:=∃q:Rs×Int×XS×List aL,e=.returned (.tuple #[.agg ⟨q.1.cells⟩,.int .i64 q.2.1])/\Nx g x q.2.2.1 q.2.2.2 (K q.1 q.2.1) 0/\SF w D (xH k bx bm q.2.2.1 dn rs) [] (aW q.2.2.2) (xW q.2.2.1) w'
set_option maxRecDepth 100000 in
theorem U8(hg:g.Ok)(i m:Int){h:Nat}(hh:h<18446744073709551616)(level:Nat)(hlv:level<=1073741824)(gen:Int)(K:Rs->Int->Tr)(ht:k.t.root<=9223372036854775807)(hi:i<=x.L.length)(hm:m<=x.L.length)(hA:∀f∈aW x.L,f∈A)(hk:(aA x.L m).nd.kind=6)(go:fD g x (kQ k i m h level gen K))(ok:x.Ok)(hs:SF w D (xH k bx bm x dn rs) A [] (xW x) w):Calls Tryz.prog 122 #[.pointer (some ⟨bx,0,none⟩),.int .i64 i,.int .i64 m,.int .u64 (h:Int),.int .i64 (level:Int),.int .i64 gen] w (Vs g x K bx bm k dn rs D w):=by
 have hyl:=pR ok m
 have hlL:=ok.lL
 refine enter Tryz.func122 Tryz.ntmps122 rfl rfl (bX hs) ?_
 simp only[cO]
 refine J0 ?_;refine aN (λ x12=>?_);refine gQ ?_;refine eG [(0,[]),(1,[]),(2,[]),(3,[]),(4,[]),(5,[]),(6,[]),(7,[]),(8,[]),(9,[]),(10,[]),(11,[]),(12,[]),(13,[]),(14,[]),(15,[4,9,14]),(16,[9,14]),(17,[14]),(18,[])] ?_;refine J9 ?_;refine aP ?_;refine bJ (i:=4) (hq:=(aK (k:=2) (vs:=[.int .i64 k.t.root,.bool k.t.ro]) rf dV fX rfl rfl)) (h:=?_);refine uB ?_;refine uB ?_;refine fQ (hfire:=(λ _=>by((repeat (first|exact aM.nil|refine aM.cons (by first|exact eR (hq:=aK (k:=2) (vs:=[.int .i64 k.t.root,.bool k.t.ro]) rf dV fX rfl rfl)|exact fA) ?_));done))) (h:=λ x14=>?_);refine nU (h:=λ _=>?_);refine dh ?_;refine iR ?_;refine aC (cM (hs:=xH k bx bm x dn rs) (os:=xW x) (hc:=λ w hs=>cD m _ hm go ok hs)) (λ x48 h48=>?_);refine aN (λ x17=>?_);refine J5 ?_;refine Az ?_;refine sX ?_
 refine aZ (λ c51=>?_) (λ c51=>?_)
 ·have g1:=h48.1.to (λ _=>if_pos hk)
  refine gU ?_;refine aB ?_;refine aT (cV (hc:=λ w1 hw=>Jc (v:=(aA x.L m)) (n:=0) k.key (ok.qR hw hA m) (ok.ysl m))) (λ x56=>?_);refine aB ?_;refine aE (bL rf rfl) rfl ?_;refine aE (bL rf rfl) rfl ?_;refine J8 ?_;refine F0 ?_;refine aB ?_;refine aC (cM (hs:=xH k bx bm x dn rs) (os:=xW x) (hc:=λ w hs=>uT _ _ hs)) (λ x62 h62=>?_);refine mJ ?_
  refine aZ (λ c63=>?_) (λ c63=>?_)
  ·have g2:=g1.to (λ _=>if_neg (show ¬mR k (dH (aA x.L m).c.ys k.key).isSome ((dH (aA x.L m).c.ys k.key).getD 0)=true from by simpa using c63))
   refine iR ?_;refine aT (cV (hc:=λ w1 hw=>fM _ _ w1)) (λ x66=>?_);refine B5 ?_
   refine bK Tryz.results122 (λ w hw=>?_)
   exact⟨(iH (dH (aA x.L m).c.ys k.key).isSome ((dH (aA x.L m).c.ys k.key).getD 0),1,x,[]),rfl,⟨g2,ok,by simp,Nat.le_refl _,bH _⟩,hw.aS (hF:=by exact aV.nil)⟩
  ·have g2:=g1.to (λ _=>if_pos (show mR k (dH (aA x.L m).c.ys k.key).isSome ((dH (aA x.L m).c.ys k.key).getD 0)=true from by simpa using c63))
   refine bA ?_;refine kV ?_;refine oX ?_;refine aC (cF (hc:=λ w1 hw=>w8 (v:=(aA x.L m)) h48.2 k.key k.val (ok.qR hw hA m) (by omega))) (λ x71 h71=>?_);refine aB ?_;refine aE (bL rf rfl) rfl ?_;refine aE (bL rf rfl) rfl ?_;refine aN (λ x20=>?_);refine mB (λ _=>?_);refine gQ ?_;refine eG [(0,[]),(1,[]),(2,[]),(3,[]),(4,[]),(5,[]),(6,[]),(7,[]),(10,[]),(11,[]),(8,[2]),(9,[]),(12,[]),(13,[]),(14,[]),(15,[]),(16,[])] ?_;refine gP ?_;refine bO ?_;refine gP ?_;refine Kb6 ?_;refine gP ?_;refine aU ?_;refine bC (i:=8) (hq:=(cM (hs:=xH k bx bm x dn rs) (os:=xW x) (A0:=[((Xx (jT (aA x.L m).nd (aA x.L m).xs (aA x.L m).ys k.key k.val) (aA x.L m).nd.hash x71).brA,aG []),((Xx (jT (aA x.L m).nd (aA x.L m).xs (aA x.L m).ys k.key k.val) (aA x.L m).nd.hash x71).prA,dG (Vx (jT (aA x.L m).nd (aA x.L m).xs (aA x.L m).ys k.key k.val)))]) (hA:=zt) (hc:=λ w hs=>fR hg (n:=Xx (jT (aA x.L m).nd (aA x.L m).xs (aA x.L m).ys k.key k.val) (aA x.L m).nd.hash x71) (xs:=[]) (ys:=Vx (jT (aA x.L m).nd (aA x.L m).xs (aA x.L m).ys k.key k.val)) m _ (Wf _ _ _).1 (Wf _ _ _).2 (by decide) (by have:=sq (aA x.L m).xs (aA x.L m).ys (aA x.L m).nd k.key k.val;omega) (s9 _ h48.2.hash) hm (by rw[aAq];exact g2) ok hs))) (h:=λ x82 h82=>?_);refine bC (i:=9) (hq:=(cM (hs:=xH k bx bm x82.2.1 dn rs) (os:=xW x82.2.1) (hc:=λ w hs=>rN hg k.t i m x82.1 _ ht (by have:=h82.len;omega) h82.bd h82.go h82.ok hs))) (h:=λ x83 h83=>?_)
   have hch:=Ch.nx h83 (Ch.nx h82 ((Ch.base (F:=[])).cons (f:=(x71.1,dG (Vx (jT (aA x.L m).nd (aA x.L m).xs (aA x.L m).ys k.key k.val))))))
   have hlc:x.cs.length<=x83.2.1.cs.length:=by have:=h82.lc;have:=h83.lc;omega
   refine cY (i:=12) (hq:=(cV (hc:=λ w1 hw=>nY _ _ _ _ w1))) (h:=λ x86=>?_);refine cJ (i:=13) (hq:=(bL rf rfl)) (h:=?_);refine cJ (i:=14) (hq:=(bL rf rfl)) (h:=?_);refine Ag ?_
   refine bK Tryz.results122 (λ w hw=>?_)
   obtain⟨N,hN,hf⟩:=hch.to (t':=K (qF (dH (aA x.L m).c.ys k.key).isSome ((dH (aA x.L m).c.ys k.key).getD 0)) (if x83.1=true then 1 else 0)) h83 (h83.go) hlc (bH _)
   exact⟨(qF (dH (aA x.L m).c.ys k.key).isSome ((dH (aA x.L m).c.ys k.key).getD 0),(if x83.1=true then 1 else 0),x83.2.1,N),rfl,hN,(hw.eP hf).v1⟩
 ·exact absurd hk c51
set_option maxRecDepth 100000 in
theorem Tn(hg:g.Ok)(i m:Int){h:Nat}(hh:h<18446744073709551616)(level:Nat)(hlv:level<=1073741824)(gen:Int)(K:Rs->Int->Tr)(ht:k.t.root<=9223372036854775807)(hi:i<=x.L.length)(hm:m<=x.L.length)(hA:∀f∈aW x.L,f∈A)(hk:¬(aA x.L m).nd.kind=6)(hl:jN (aA x.L m).c (fS h (level:Int))=none)(go:fD g x (kQ k i m h level gen K))(ok:x.Ok)(hs:SF w D (xH k bx bm x dn rs) A [] (xW x) w):Calls Tryz.prog 122 #[.pointer (some ⟨bx,0,none⟩),.int .i64 i,.int .i64 m,.int .u64 (h:Int),.int .i64 (level:Int),.int .i64 gen] w (Vs g x K bx bm k dn rs D w):=by
 have hyl:=pR ok m
 have hlL:=ok.lL
 refine enter Tryz.func122 Tryz.ntmps122 rfl rfl (bX hs) ?_
 simp only[cO]
 refine J0 ?_;refine aN (λ x12=>?_);refine gQ ?_;refine eG [(0,[]),(1,[]),(2,[]),(3,[]),(4,[]),(5,[]),(6,[]),(7,[]),(8,[]),(9,[]),(10,[]),(11,[]),(12,[]),(13,[]),(14,[]),(15,[4,9,14]),(16,[9,14]),(17,[14]),(18,[])] ?_;refine J9 ?_;refine aP ?_;refine bJ (i:=4) (hq:=(aK (k:=2) (vs:=[.int .i64 k.t.root,.bool k.t.ro]) rf dV fX rfl rfl)) (h:=?_);refine uB ?_;refine uB ?_;refine fQ (hfire:=(λ _=>by((repeat (first|exact aM.nil|refine aM.cons (by first|exact eR (hq:=aK (k:=2) (vs:=[.int .i64 k.t.root,.bool k.t.ro]) rf dV fX rfl rfl)|exact fA) ?_));done))) (h:=λ x14=>?_);refine nU (h:=λ _=>?_);refine dh ?_;refine iR ?_;refine aC (cM (hs:=xH k bx bm x dn rs) (os:=xW x) (hc:=λ w hs=>cD m _ hm go ok hs)) (λ x48 h48=>?_);refine aN (λ x17=>?_);refine J5 ?_;refine Az ?_;refine sX ?_
 refine aZ (λ c51=>?_) (λ c51=>?_)
 ·exact absurd c51 hk
 ·have g0:=h48.1.to (λ _=>if_neg hk)
  have g1:=Is g0 (by rw[hl];rfl)
  refine zS ?_;refine aT (cV (hc:=λ w1 hw=>eH hh (level:Int) w1)) (λ x91=>?_);refine sZ ?_;refine aB ?_;refine bG ?_;refine aN (λ x23=>?_);refine J5 ?_;refine B6 ?_;refine aT (cV (hc:=λ w1 hw=>nh (v:=(aA x.L m)) h48.2 hl (ok.qR hw hA m))) (λ x99=>?_);refine aB ?_;refine aE (bL rf rfl) rfl ?_;refine aE (bL rf rfl) rfl ?_;refine J8 ?_;refine F0 ?_
  refine aH ?_
  (refine aH ?_);(refine aH ?_);refine vu ?_;refine aI ?_
  refine aZ (λ c109=>?_) (λ c109=>?_)
  ·exact nv c109
  ·refine zS ?_
   refine aH ?_
   (refine aH ?_);(refine aH ?_);refine J81 ?_;(refine aH ?_);refine cK ?_;refine sZ ?_;refine aC (cM (hs:=xH k bx bm x dn rs) (os:=xW x) (hc:=λ w hs=>eS 0 (by decide) ok hs)) (λ x122 h122=>?_);refine cH ?_;refine gQ ?_;refine J2 ?_;refine mJ ?_
   refine aZ (λ c125=>?_) (λ c125=>?_)
   ·refine dL ?_;refine gQ ?_;refine Kd1 ?_;refine aC (cM (hs:=xH k bx bm x dn rs) (os:=xW x) (hc:=λ w hs=>uT _ _ hs)) (λ x129 h129=>?_);refine mJ ?_
    refine aZ (λ c130=>?_) (λ c130=>?_)
    ·have g2:=g1.to (λ _=>if_neg (show ¬mR k false 0=true from by simpa using c130))
     refine iR ?_;refine aT (cV (hc:=λ w1 hw=>fM _ _ w1)) (λ x133=>?_);refine B5 ?_
     refine bK Tryz.results122 (λ w hw=>?_)
     exact⟨(iH false 0,1,x,[]),rfl,⟨g2,ok,by simp,Nat.le_refl _,bH _⟩,hw.aS (hF:=by exact aV.nil)⟩
    ·have g2:=g1.to (λ _=>if_pos (show mR k false 0=true from by simpa using c130))
     refine nZ ?_;refine J2 ?_;refine wI ?_;refine J1 ?_
     refine aZ (λ c134=>?_) (λ c134=>?_)
     ·refine aR ?_
      refine dW [28,29,137,138,139,140,141,142,143,144,145] (λ z:Nat×(Int×XS×List aL)×(Option Addr×Nat)×Nd=>[(28,.pointer (some ⟨z.1,0,none⟩))]) (λ z=>Nx g x z.2.1.2.1 z.2.1.2.2 (.alloc (ql (aA x.L m).c (fS h (level:Int)) z.2.1.1) m λ r=>mP k.t i m r λ ok=>K (qF false 0) (if ok=true then 1 else 0)) z.2.1.1/\z.2.2.2=lI (Vq (aA x.L m) (fS h (level:Int)) z.2.1.1) z.2.2.1) (λ z=>[(z.1,.cells ⟨z.2.2.2.cells⟩ 77 (0,0)),(x23,.cells ⟨({Nd.zero with kind:=4,hash:=(h:Int),key:=k.key,val:=k.val}:Nd).cells⟩ 77 (0,0)),(x17,.cells ⟨(aA x.L m).nd.cells⟩ 77 (0,0)),(x14,.cells ⟨[.int .i64 k.t.root,.bool k.t.ro]⟩ 29 (0,0)),(x12,.cells ⟨Rs.zero.cells⟩ 68 (0,0)),(bx,xO k bm z.2.1.2.1 dn rs),(bm,xM z.2.1.2.1)]) (λ z=>(z.2.2.1.1,aG (lD (Vq (aA x.L m) (fS h (level:Int)) z.2.1.1)))::(aW z.2.1.2.2++[])) (λ z=>xW z.2.1.2.1) (by decide) (λ _=>by exact rfl) ?_ (λ z f hx=>?_)
      ·refine gK (.one 0 [] (.one 1 [] (.one 2 [] (.one 3 [] (.two 4 [0] (.two 5 [] (.one 6 [] (.one 7 [] (.one 8 [] (.one 9 [0,3] (.one 10 [] (.one 11 [] .nil)))))) 0 [] (.two 9 [0,3] (.one 5 [] (.one 6 [] (.one 7 [] (.one 8 [] (.one 10 [] (.one 11 [] .nil)))))) 0 [] .nil)) 0 [] (.two 9 [0,3] (.one 4 [0] (.one 5 [] (.one 6 [] (.one 7 [] (.one 8 [] (.one 10 [] (.one 11 [] .nil))))))) 0 [] .nil)))))) ?_
       refine bO ?_;refine gP ?_;refine bO ?_
       refine gW (E:=[4,9]) (by decide +kernel) ((.cons ?_ (.cons ?_ .nil)))
       ·refine kP (i:=4) (hq:=(cM (hs:=xH k bx bm x dn rs) (os:=xW x) (A0:=[(none,aG []),(none,dG [])]) (hc:=λ w hs=>fR hg (n:={Nd.zero with kind:=4,hash:=(h:Int),key:=k.key,val:=k.val}) (xs:=[]) (ys:=[]) 0 _ rfl rfl (by decide) (Nat.zero_le _) (Eo hh) (bH _) (g2) ok hs))) (h:=λ x142 h142=>?_)
        refine gW (E:=[5,9]) (by decide +kernel) ((.cons ?_ (.cons ?_ .nil)))
        ·refine kP (i:=5) (hq:=(cF (hc:=λ w1 hw=>Zd (v:=(aA x.L m)) h48.2 (fS h (level:Int)) x142.1 (ok.qR hw hA m)))) (h:=λ x143 h143=>?_)
         refine aU ?_;refine cJ (i:=7) (hq:=(bL rf rfl)) (h:=?_);refine cJ (i:=8) (hq:=(bL rf rfl)) (h:=?_);refine fQ (h:=λ x28=>?_);refine Ag ?_
         refine eN ((x28,x142,x143,lI (Vq (aA x.L m) (fS h (level:Int)) x142.1) x143)) ?_ (hw1:=λ w hw=>hw.v4)
         ·exact⟨h142,rfl⟩
        ·refine gF (i:=9) (h:=λ x28=>?_)
         refine bC (i:=5) (hq:=(cF (hc:=λ w1 hw=>Zd (v:=(aA x.L m)) h48.2 (fS h (level:Int)) x142.1 (ok.qR hw hA m)))) (h:=λ x143 h143=>?_);refine aU ?_;refine cJ (i:=7) (hq:=(bL rf rfl)) (h:=?_);refine cJ (i:=8) (hq:=(bL rf rfl)) (h:=?_);refine Ag ?_
         refine eN ((x28,x142,x143,lI (Vq (aA x.L m) (fS h (level:Int)) x142.1) x143)) ?_ (hw1:=λ w hw=>hw.v4)
         ·exact⟨h142,rfl⟩
       ·refine gF (i:=9) (h:=λ x28=>?_)
        refine bC (i:=4) (hq:=(cM (hs:=xH k bx bm x dn rs) (os:=xW x) (A0:=[(none,aG []),(none,dG [])]) (hc:=λ w hs=>fR hg (n:={Nd.zero with kind:=4,hash:=(h:Int),key:=k.key,val:=k.val}) (xs:=[]) (ys:=[]) 0 _ rfl rfl (by decide) (Nat.zero_le _) (Eo hh) (bH _) (g2) ok hs))) (h:=λ x142 h142=>?_);refine bC (i:=5) (hq:=(cF (hc:=λ w1 hw=>Zd (v:=(aA x.L m)) h48.2 (fS h (level:Int)) x142.1 (ok.qR hw hA m)))) (h:=λ x143 h143=>?_);refine aU ?_;refine cJ (i:=7) (hq:=(bL rf rfl)) (h:=?_);refine cJ (i:=8) (hq:=(bL rf rfl)) (h:=?_);refine Ag ?_
        refine eN ((x28,x142,x143,lI (Vq (aA x.L m) (fS h (level:Int)) x142.1) x143)) ?_ (hw1:=λ w hw=>hw.v4)
        ·exact⟨h142,rfl⟩
      dsimp only[fY,List.map,List.cons_append,List.nil_append]
      obtain⟨hz,ez⟩:=hx
      have hlz:=hz.len
      have hB:=wu ((ok.nv m).mono (Nat.le_refl _) (Nat.le_refl _) |>.mono hlz hz.lc) hz.bd (fS h (level:Int))
      refine aR ?_;refine eG [(0,[]),(1,[]),(2,[]),(3,[]),(4,[]),(5,[]),(6,[]),(7,[]),(8,[2]),(9,[]),(10,[]),(11,[]),(12,[]),(13,[]),(14,[])] ?_;refine gP ?_;refine bO ?_;refine gP ?_;refine Kb6 ?_;refine aU ?_;refine bC (i:=8) (hq:=(cM (hs:=xH k bx bm z.2.1.2.1 dn rs) (os:=xW z.2.1.2.1) (A0:=[(z.2.2.2.brA,aG (lD (Vq (aA x.L m) (fS h (level:Int)) z.2.1.1))),(z.2.2.2.prA,dG [])]) (hA:=by rw[ez];exact On) (hc:=λ w hs=>fR hg (n:=z.2.2.2) (xs:=lD (Vq (aA x.L m) (fS h (level:Int)) z.2.1.1)) (ys:=[]) m _ (by rw[ez];exact Cr _ _) (by rw[ez];exact Ck _ _) hB.len (Nat.zero_le _) (by rw[ez];exact hB.nvB _) (by omega) (by rw[ez,<- zk h48.2];exact hz.go) hz.ok hs))) (h:=λ x154 h154=>?_);refine bC (i:=9) (hq:=(cM (hs:=xH k bx bm x154.2.1 dn rs) (os:=xW x154.2.1) (hc:=λ w hs=>rN hg k.t i m x154.1 _ ht (by have:=h154.len;omega) h154.bd h154.go h154.ok hs))) (h:=λ x155 h155=>?_)
      have hch:=Ch.nx h155 (Ch.nx h154 (((Ch.base (F:=[])).nx hz).cons (f:=(z.2.2.1.1,aG (lD (Vq (aA x.L m) (fS h (level:Int)) z.2.1.1))))))
      have hlc:x.cs.length<=x155.2.1.cs.length:=by have:=hz.lc;have:=h154.lc;have:=h155.lc;omega
      refine cY (i:=10) (hq:=(cV (hc:=λ w1 hw=>nY _ _ _ _ w1))) (h:=λ x156=>?_);refine cJ (i:=11) (hq:=(bL rf rfl)) (h:=?_);refine cJ (i:=12) (hq:=(bL rf rfl)) (h:=?_);refine Ag ?_
      refine bK Tryz.results122 (λ w hw=>?_)
      obtain⟨N,hN,hf⟩:=hch.to (t':=K (qF false 0) (if x155.1=true then 1 else 0)) h155 (h155.go) hlc (bH _)
      exact⟨(qF false 0,(if x155.1=true then 1 else 0),x155.2.1,N),rfl,hN,(hw.eP hf).v1⟩
     ·exact nv c134
   ·exact nv c125
set_option maxRecDepth 100000 in
theorem Uq(hg:g.Ok)(i m:Int){h:Nat}(hh:h<18446744073709551616)(level:Nat)(hlv:level<=1073741824)(gen:Int)(K:Rs->Int->Tr)(ht:k.t.root<=9223372036854775807)(hi:i<=x.L.length)(hm:m<=x.L.length)(hA:∀f∈aW x.L,f∈A)(hk:¬(aA x.L m).nd.kind=6){b:Int}(hl:jN (aA x.L m).c (fS h (level:Int))=some b)(hi2:(aA x.L b).nd.kind=2)(go:fD g x (kQ k i m h level gen K))(ok:x.Ok)(hs:SF w D (xH k bx bm x dn rs) A [] (xW x) w):Calls Tryz.prog 122 #[.pointer (some ⟨bx,0,none⟩),.int .i64 i,.int .i64 m,.int .u64 (h:Int),.int .i64 (level:Int),.int .i64 gen] w (Vs g x K bx bm k dn rs D w):=by
 have hyl:=pR ok m
 have hlL:=ok.lL
 have hb:b<=x.L.length:=by have:=oW (ok.nv m) (fS h (level:Int));rw[hl] at this;exact this
 refine enter Tryz.func122 Tryz.ntmps122 rfl rfl (bX hs) ?_
 simp only[cO]
 refine J0 ?_;refine aN (λ x12=>?_);refine gQ ?_;refine eG [(0,[]),(1,[]),(2,[]),(3,[]),(4,[]),(5,[]),(6,[]),(7,[]),(8,[]),(9,[]),(10,[]),(11,[]),(12,[]),(13,[]),(14,[]),(15,[4,9,14]),(16,[9,14]),(17,[14]),(18,[])] ?_;refine J9 ?_;refine aP ?_;refine bJ (i:=4) (hq:=(aK (k:=2) (vs:=[.int .i64 k.t.root,.bool k.t.ro]) rf dV fX rfl rfl)) (h:=?_);refine uB ?_;refine uB ?_;refine fQ (hfire:=(λ _=>by((repeat (first|exact aM.nil|refine aM.cons (by first|exact eR (hq:=aK (k:=2) (vs:=[.int .i64 k.t.root,.bool k.t.ro]) rf dV fX rfl rfl)|exact fA) ?_));done))) (h:=λ x14=>?_);refine nU (h:=λ _=>?_);refine dh ?_;refine iR ?_;refine aC (cM (hs:=xH k bx bm x dn rs) (os:=xW x) (hc:=λ w hs=>cD m _ hm go ok hs)) (λ x48 h48=>?_);refine aN (λ x17=>?_);refine J5 ?_;refine Az ?_;refine sX ?_
 refine aZ (λ c51=>?_) (λ c51=>?_)
 ·exact absurd c51 hk
 ·have g0:=h48.1.to (λ _=>if_neg hk)
  have g1:=rU g0 (by rw[hl];rfl)
  rw[hl] at g1
  refine zS ?_;refine aT (cV (hc:=λ w1 hw=>eH hh (level:Int) w1)) (λ x91=>?_);refine sZ ?_;refine aB ?_;refine bG ?_;refine aN (λ x23=>?_);refine J5 ?_;refine B6 ?_;refine aT (cV (hc:=λ w1 hw=>Hw (v:=(aA x.L m)) h48.2 hl (ok.qR hw hA m))) (λ x99=>?_);refine aB ?_;refine aE (bL rf rfl) rfl ?_;refine aE (bL rf rfl) rfl ?_;refine J8 ?_;refine F0 ?_
  (refine Ka6 ?_)
  ((refine Ka6 ?_));((refine aF ?_;refine aC (cM (hs:=xH k bx bm x dn rs) (os:=xW x) (hc:=λ w hs=>cD b _ hb g1 ok hs)) (λ x106 h106=>?_)));refine vu ?_;refine aI ?_
  refine aZ (λ c109=>?_) (λ c109=>?_)
  ·have g2:=h106.1.to (λ _=>if_pos hi2)
   refine J0 ?_;refine bG ?_;refine B5 ?_
   refine bK Tryz.results122 (λ w hw=>?_)
   exact⟨(Rs.zero,2,x,[]),rfl,⟨g2,ok,by simp,Nat.le_refl _,bH _⟩,hw.aS (hF:=by exact aV.nil)⟩
  ·exact absurd hi2 c109
set_option maxRecDepth 100000 in
theorem Ur(hg:g.Ok)(i m:Int){h:Nat}(hh:h<18446744073709551616)(level:Nat)(hlv:level<=1073741824)(gen:Int)(K:Rs->Int->Tr)(ht:k.t.root<=9223372036854775807)(hi:i<=x.L.length)(hm:m<=x.L.length)(hA:∀f∈aW x.L,f∈A)(hk:¬(aA x.L m).nd.kind=6){b:Int}(hl:jN (aA x.L m).c (fS h (level:Int))=some b)(hi2:¬(aA x.L b).nd.kind=2)(he:(aA x.L b).nd.key=k.key)(go:fD g x (kQ k i m h level gen K))(ok:x.Ok)(hs:SF w D (xH k bx bm x dn rs) A [] (xW x) w):Calls Tryz.prog 122 #[.pointer (some ⟨bx,0,none⟩),.int .i64 i,.int .i64 m,.int .u64 (h:Int),.int .i64 (level:Int),.int .i64 gen] w (Vs g x K bx bm k dn rs D w):=by
 have hyl:=pR ok m
 have hlL:=ok.lL
 have hb:b<=x.L.length:=by have:=oW (ok.nv m) (fS h (level:Int));rw[hl] at this;exact this
 refine enter Tryz.func122 Tryz.ntmps122 rfl rfl (bX hs) ?_
 simp only[cO]
 refine J0 ?_;refine aN (λ x12=>?_);refine gQ ?_;refine eG [(0,[]),(1,[]),(2,[]),(3,[]),(4,[]),(5,[]),(6,[]),(7,[]),(8,[]),(9,[]),(10,[]),(11,[]),(12,[]),(13,[]),(14,[]),(15,[4,9,14]),(16,[9,14]),(17,[14]),(18,[])] ?_;refine J9 ?_;refine aP ?_;refine bJ (i:=4) (hq:=(aK (k:=2) (vs:=[.int .i64 k.t.root,.bool k.t.ro]) rf dV fX rfl rfl)) (h:=?_);refine uB ?_;refine uB ?_;refine fQ (hfire:=(λ _=>by((repeat (first|exact aM.nil|refine aM.cons (by first|exact eR (hq:=aK (k:=2) (vs:=[.int .i64 k.t.root,.bool k.t.ro]) rf dV fX rfl rfl)|exact fA) ?_));done))) (h:=λ x14=>?_);refine nU (h:=λ _=>?_);refine dh ?_;refine iR ?_;refine aC (cM (hs:=xH k bx bm x dn rs) (os:=xW x) (hc:=λ w hs=>cD m _ hm go ok hs)) (λ x48 h48=>?_);refine aN (λ x17=>?_);refine J5 ?_;refine Az ?_;refine sX ?_
 refine aZ (λ c51=>?_) (λ c51=>?_)
 ·exact absurd c51 hk
 ·have g0:=h48.1.to (λ _=>if_neg hk)
  have g1:=rU g0 (by rw[hl];rfl)
  rw[hl] at g1
  refine zS ?_;refine aT (cV (hc:=λ w1 hw=>eH hh (level:Int) w1)) (λ x91=>?_);refine sZ ?_;refine aB ?_;refine bG ?_;refine aN (λ x23=>?_);refine J5 ?_;refine B6 ?_;refine aT (cV (hc:=λ w1 hw=>Hw (v:=(aA x.L m)) h48.2 hl (ok.qR hw hA m))) (λ x99=>?_);refine aB ?_;refine aE (bL rf rfl) rfl ?_;refine aE (bL rf rfl) rfl ?_;refine J8 ?_;refine F0 ?_
  (refine Ka6 ?_)
  ((refine Ka6 ?_));((refine aF ?_;refine aC (cM (hs:=xH k bx bm x dn rs) (os:=xW x) (hc:=λ w hs=>cD b _ hb g1 ok hs)) (λ x106 h106=>?_)));refine vu ?_;refine aI ?_
  refine aZ (λ c109=>?_) (λ c109=>?_)
  ·exact absurd c109 hi2
  ·have g3:=(h106.1.to (λ _=>if_neg hi2)).to (λ _=>if_pos he)
   refine zS ?_
   (refine Ka6 ?_)
   ((refine Ka6 ?_));((refine aF ?_;refine aC (cM (hs:=xH k bx bm x dn rs) (os:=xW x) (hc:=λ w hs=>eS b (by omega) ok hs)) (λ x115 h115=>?_)));refine J81 ?_;((refine aF ?_;refine aE (lr rf rf he) rfl ?_));refine cK ?_;refine sZ ?_;refine aC (cM (hs:=xH k bx bm x dn rs) (os:=xW x) (hc:=λ w hs=>eS b (by omega) ok hs)) (λ x122 h122=>?_);refine cH ?_;refine gQ ?_;refine J2 ?_;refine mJ ?_
   refine aZ (λ c125=>?_) (λ c125=>?_)
   ·exact nv c125
   ·refine jM ?_;refine Kd1 ?_;refine aC (cM (hs:=xH k bx bm x dn rs) (os:=xW x) (hc:=λ w hs=>uT _ _ hs)) (λ x129 h129=>?_);refine mJ ?_
    refine aZ (λ c130=>?_) (λ c130=>?_)
    ·have g2:=g3.to (λ _=>if_neg (show ¬mR k true (aA x.L b).nd.val=true from by simpa using c130))
     refine iR ?_;refine aT (cV (hc:=λ w1 hw=>fM _ _ w1)) (λ x133=>?_);refine B5 ?_
     refine bK Tryz.results122 (λ w hw=>?_)
     exact⟨(iH true (aA x.L b).nd.val,1,x,[]),rfl,⟨g2,ok,by simp,Nat.le_refl _,bH _⟩,hw.aS (hF:=by exact aV.nil)⟩
    ·have g2:=g3.to (λ _=>if_pos (show mR k true (aA x.L b).nd.val=true from by simpa using c130))
     refine nZ ?_;refine J2 ?_;refine wI ?_;refine J1 ?_
     refine aZ (λ c134=>?_) (λ c134=>?_)
     ·exact nv c134
     ·refine Ka5 ?_
      refine aZ (λ c159=>?_) (λ c159=>?_)
      ·refine aR ?_;refine eG [(0,[]),(1,[]),(2,[]),(3,[]),(4,[]),(5,[]),(6,[]),(7,[]),(8,[]),(9,[]),(13,[]),(10,[2]),(11,[2]),(12,[]),(14,[]),(15,[]),(16,[]),(17,[]),(18,[])] ?_;refine gP ?_;refine bO ?_;refine gP ?_;refine gP ?_;refine gP ?_;refine bO ?_;refine aU ?_;refine bC (i:=10) (hq:=(cM (hs:=xH k bx bm x dn rs) (os:=xW x) (A0:=[(none,aG []),(none,dG [])]) (hc:=λ w hs=>fR hg (n:={Nd.zero with kind:=4,hash:=(h:Int),key:=k.key,val:=k.val}) (xs:=[]) (ys:=[]) 0 _ rfl rfl (by decide) (Nat.zero_le _) (Eo hh) (bH _) (g2) ok hs))) (h:=λ x171 h171=>?_)
       have hch:=(Ch.base (F:=[])).nx h171
       refine bC (i:=11) (hq:=(cM (hs:=xH k bx bm x171.2.1 dn rs) (os:=xW x171.2.1) (A0:=aW x171.2.1.L) (hA:=Ch.all hch hA) (hc:=λ w hs=>Av hg m (fS h (level:Int)) x171.1 _ (by have:=h171.len;omega) h171.bd (λ f hf=>hf) h171.go h171.ok hs))) (h:=λ x172 h172=>?_);refine bC (i:=12) (hq:=(cM (hs:=xH k bx bm x172.2.1 dn rs) (os:=xW x172.2.1) (hc:=λ w hs=>rN hg k.t i m x172.1 _ ht (by have:=h171.len;have:=h172.len;omega) h172.bd h172.go h172.ok hs))) (h:=λ x173 h173=>?_)
       have hch2:=Ch.nx h173 (Ch.nx h172 hch)
       have hlc:x.cs.length<=x173.2.1.cs.length:=by have:=h171.lc;have:=h172.lc;have:=h173.lc;omega
       refine cY (i:=14) (hq:=(cV (hc:=λ w1 hw=>nY _ _ _ _ w1))) (h:=λ x175=>?_);refine cJ (i:=15) (hq:=(bL rf rfl)) (h:=?_);refine cJ (i:=16) (hq:=(bL rf rfl)) (h:=?_);refine Ag ?_
       refine bK Tryz.results122 (λ w hw=>?_)
       obtain⟨N,hN,hf⟩:=hch2.to (t':=K (qF true (aA x.L b).nd.val) (if x173.1=true then 1 else 0)) h173 (h173.go) hlc (bH _)
       exact⟨(qF true (aA x.L b).nd.val,(if x173.1=true then 1 else 0),x173.2.1,N),rfl,hN,(hw.eP hf).v1⟩
      ·exact nv c159
set_option maxRecDepth 100000 in
theorem Ti(hg:g.Ok)(i m:Int){h:Nat}(hh:h<18446744073709551616)(level:Nat)(hlv:level<=1073741824)(gen:Int)(K:Rs->Int->Tr)(ht:k.t.root<=9223372036854775807)(hi:i<=x.L.length)(hm:m<=x.L.length)(hA:∀f∈aW x.L,f∈A)(hk:¬(aA x.L m).nd.kind=6){b:Int}(hl:jN (aA x.L m).c (fS h (level:Int))=some b)(hi2:¬(aA x.L b).nd.kind=2)(he:¬(aA x.L b).nd.key=k.key)(go:fD g x (kQ k i m h level gen K))(ok:x.Ok)(hs:SF w D (xH k bx bm x dn rs) A [] (xW x) w):Calls Tryz.prog 122 #[.pointer (some ⟨bx,0,none⟩),.int .i64 i,.int .i64 m,.int .u64 (h:Int),.int .i64 (level:Int),.int .i64 gen] w (Vs g x K bx bm k dn rs D w):=by
 have hyl:=pR ok m
 have hlL:=ok.lL
 have hb:b<=x.L.length:=by have:=oW (ok.nv m) (fS h (level:Int));rw[hl] at this;exact this
 refine enter Tryz.func122 Tryz.ntmps122 rfl rfl (bX hs) ?_
 simp only[cO]
 refine J0 ?_;refine aN (λ x12=>?_);refine gQ ?_;refine eG [(0,[]),(1,[]),(2,[]),(3,[]),(4,[]),(5,[]),(6,[]),(7,[]),(8,[]),(9,[]),(10,[]),(11,[]),(12,[]),(13,[]),(14,[]),(15,[4,9,14]),(16,[9,14]),(17,[14]),(18,[])] ?_;refine J9 ?_;refine aP ?_;refine bJ (i:=4) (hq:=(aK (k:=2) (vs:=[.int .i64 k.t.root,.bool k.t.ro]) rf dV fX rfl rfl)) (h:=?_);refine uB ?_;refine uB ?_;refine fQ (hfire:=(λ _=>by((repeat (first|exact aM.nil|refine aM.cons (by first|exact eR (hq:=aK (k:=2) (vs:=[.int .i64 k.t.root,.bool k.t.ro]) rf dV fX rfl rfl)|exact fA) ?_));done))) (h:=λ x14=>?_);refine nU (h:=λ _=>?_);refine dh ?_;refine iR ?_;refine aC (cM (hs:=xH k bx bm x dn rs) (os:=xW x) (hc:=λ w hs=>cD m _ hm go ok hs)) (λ x48 h48=>?_);refine aN (λ x17=>?_);refine J5 ?_;refine Az ?_;refine sX ?_
 refine aZ (λ c51=>?_) (λ c51=>?_)
 ·exact absurd c51 hk
 ·have g0:=h48.1.to (λ _=>if_neg hk)
  have g1:=rU g0 (by rw[hl];rfl)
  rw[hl] at g1
  refine zS ?_;refine aT (cV (hc:=λ w1 hw=>eH hh (level:Int) w1)) (λ x91=>?_);refine sZ ?_;refine aB ?_;refine bG ?_;refine aN (λ x23=>?_);refine J5 ?_;refine B6 ?_;refine aT (cV (hc:=λ w1 hw=>Hw (v:=(aA x.L m)) h48.2 hl (ok.qR hw hA m))) (λ x99=>?_);refine aB ?_;refine aE (bL rf rfl) rfl ?_;refine aE (bL rf rfl) rfl ?_;refine J8 ?_;refine F0 ?_
  (refine Ka6 ?_)
  ((refine Ka6 ?_));((refine aF ?_;refine aC (cM (hs:=xH k bx bm x dn rs) (os:=xW x) (hc:=λ w hs=>cD b _ hb g1 ok hs)) (λ x106 h106=>?_)));refine vu ?_;refine aI ?_
  refine aZ (λ c109=>?_) (λ c109=>?_)
  ·exact absurd c109 hi2
  ·have g3:=(h106.1.to (λ _=>if_neg hi2)).to (λ _=>if_neg he)
   refine zS ?_
   (refine Ka6 ?_)
   ((refine Ka6 ?_));((refine aF ?_;refine aC (cM (hs:=xH k bx bm x dn rs) (os:=xW x) (hc:=λ w hs=>eS b (by omega) ok hs)) (λ x115 h115=>?_)));refine J81 ?_;((refine aF ?_;refine aE (im rf rf he) rfl ?_));refine cK ?_;refine sZ ?_;refine aC (cM (hs:=xH k bx bm x dn rs) (os:=xW x) (hc:=λ w hs=>eS b (by omega) ok hs)) (λ x122 h122=>?_);refine cH ?_;refine gQ ?_;refine J2 ?_;refine mJ ?_
   refine aZ (λ c125=>?_) (λ c125=>?_)
   ·refine dL ?_;refine gQ ?_;refine Kd1 ?_;refine aC (cM (hs:=xH k bx bm x dn rs) (os:=xW x) (hc:=λ w hs=>uT _ _ hs)) (λ x129 h129=>?_);refine mJ ?_
    refine aZ (λ c130=>?_) (λ c130=>?_)
    ·have g2:=g3.to (λ _=>if_neg (show ¬mR k false 0=true from by simpa using c130))
     refine iR ?_;refine aT (cV (hc:=λ w1 hw=>fM _ _ w1)) (λ x133=>?_);refine B5 ?_
     refine bK Tryz.results122 (λ w hw=>?_)
     exact⟨(iH false 0,1,x,[]),rfl,⟨g2,ok,by simp,Nat.le_refl _,bH _⟩,hw.aS (hF:=by exact aV.nil)⟩
    ·have g2:=g3.to (λ _=>if_pos (show mR k false 0=true from by simpa using c130))
     refine nZ ?_;refine J2 ?_;refine wI ?_;refine J1 ?_
     refine aZ (λ c134=>?_) (λ c134=>?_)
     ·exact nv c134
     ·refine Ka5 ?_
      refine aZ (λ c159=>?_) (λ c159=>?_)
      ·exact nv c159
      ·refine lG ?_;refine iR ?_;refine bG ?_;refine oX ?_;refine oX ?_;refine Ey ?_;refine aB ?_;refine aC (cM (hs:=xH k bx bm x dn rs) (os:=xW x) (hc:=λ w hs=>qx hg b hh (level+1) gen _ hb g2 ok hs)) (λ x187 h187=>?_);refine aC (cM (hs:=xH k bx bm x187.2.1 dn rs) (os:=xW x187.2.1) (A0:=[(none,aG []),(none,dG [])]) (hc:=λ w hs=>fR hg (n:={Nd.zero with kind:=2,gen:=gen}) (xs:=[]) (ys:=[]) x187.1 _ rfl rfl (by decide) (Nat.zero_le _) qK h187.bd h187.go h187.ok hs)) (λ x188 h188=>?_)
       have hch:=Ch.nx h188 ((Ch.base (F:=[])).nx h187)
       refine gQ ?_;refine eG [(0,[]),(1,[]),(2,[]),(3,[]),(4,[]),(5,[]),(6,[]),(7,[]),(8,[]),(9,[2]),(10,[]),(11,[]),(12,[]),(13,[]),(14,[]),(15,[])] ?_;refine gP ?_;refine bO ?_;refine gP ?_;refine gP ?_;refine gP ?_;refine bC (i:=9) (hq:=(cM (hs:=xH k bx bm x188.2.1 dn rs) (os:=xW x188.2.1) (A0:=aW x188.2.1.L) (hA:=Ch.all hch hA) (hc:=λ w hs=>Av hg m (fS h (level:Int)) x188.1 _ (by have:=h187.len;have:=h188.len;omega) h188.bd (λ f hf=>hf) h188.go h188.ok hs))) (h:=λ x198 h198=>?_);refine bC (i:=10) (hq:=(cM (hs:=xH k bx bm x198.2.1 dn rs) (os:=xW x198.2.1) (hc:=λ w hs=>rN hg k.t i m x198.1 _ ht (by have:=h187.len;have:=h188.len;have:=h198.len;omega) h198.bd h198.go h198.ok hs))) (h:=λ x199 h199=>?_)
       have hch2:=Ch.nx h199 (Ch.nx h198 hch)
       have hlc:x.cs.length<=x199.2.1.cs.length:=by have:=h187.lc;have:=h188.lc;have:=h198.lc;have:=h199.lc;omega
       refine cY (i:=11) (hq:=(cV (hc:=λ w1 hw=>nY _ _ _ _ w1))) (h:=λ x200=>?_);refine cJ (i:=12) (hq:=(bL rf rfl)) (h:=?_);refine cJ (i:=13) (hq:=(bL rf rfl)) (h:=?_);refine Ag ?_
       refine bK Tryz.results122 (λ w hw=>?_)
       obtain⟨N,hN,hf⟩:=hch2.to (t':=K (qF false 0) (if x199.1=true then 1 else 0)) h199 (h199.go) hlc (bH _)
       exact⟨(qF false 0,(if x199.1=true then 1 else 0),x199.2.1,N),rfl,hN,(hw.eP hf).v1⟩
   ·exact nv c125
theorem Us(hg:g.Ok)(i m:Int){h:Nat}(hh:h<18446744073709551616)(level:Nat)(hlv:level<=1073741824)(gen:Int)(K:Rs->Int->Tr)(ht:k.t.root<=9223372036854775807)(hi:i<=x.L.length)(hm:m<=x.L.length)(hA:∀f∈aW x.L,f∈A)(go:fD g x (kQ k i m h level gen K))(ok:x.Ok)(hs:SF w D (xH k bx bm x dn rs) A [] (xW x) w):Calls Tryz.prog 122 #[.pointer (some ⟨bx,0,none⟩),.int .i64 i,.int .i64 m,.int .u64 (h:Int),.int .i64 (level:Int),.int .i64 gen] w (Vs g x K bx bm k dn rs D w):=by
 by_cases hk:(aA x.L m).nd.kind=6
 ·exact U8 hg i m hh level hlv gen K ht hi hm hA hk go ok hs
 ·cases hl:jN (aA x.L m).c (fS h (level:Int)) with
  | none=>exact Tn hg i m hh level hlv gen K ht hi hm hA hk hl go ok hs
  | some b =>
   by_cases hi2:(aA x.L b).nd.kind=2
   ·exact Uq hg i m hh level hlv gen K ht hi hm hA hk hl hi2 go ok hs
   ·by_cases he:(aA x.L b).nd.key=k.key
    ·exact Ur hg i m hh level hlv gen K ht hi hm hA hk hl hi2 he go ok hs
    ·exact Ti hg i m hh level hlv gen K ht hi hm hA hk hl hi2 he go ok hs
end
end Go.Proofs.YtadnboagdhcedaaGreatDoor

/- Merged. -/
import Derived.Test.YtbajmaoegmbfgaaGreatGEx11
import Derived.Test.YtbajmaoegmbfgaaGreatAuto
set_option linter.unusedSimpArgs false
set_option linter.unusedVariables false
namespace Go.Ct
open Go Go.RowKit
section
theorem nB{a b c:List aQ}:∀f∈aN ((a++b)++c),f.2=[]∨f∈aN c++(aN b++aN a):=λ f hf=>by
 simp only[cX,List.mem_append] at hf ⊢;rcases hf with(h|h)|h;·exact .inr (.inr (.inr h))
 ·exact .inr (.inr (.inl h))
 ·exact .inr (.inl h)
theorem xK{a b c d:List aQ}:∀f∈aN (((a++b)++c)++d),f.2=[]∨f∈aN d++(aN c++(aN b++aN a)):=λ f hf=>by
 simp only[cX,List.mem_append] at hf ⊢;rcases hf with((h|h)|h)|h;·exact .inr (.inr (.inr (.inr h)))
 ·exact .inr (.inr (.inr (.inl h)))
 ·exact .inr (.inr (.inl h))
 ·exact .inr (.inl h)
end
end Go.Ct
namespace Go.Proofs.YtbajmaoegmbfgaaGreat
open Go Go.RowKit Go.Ct
section
section
variable{k:Cl}{bx bm:Nat}{x:XS}{dn:Bool}{rs:Rs}{D:List Nat}{A:Fr}{w:World}{g:Gx}
set_option maxRecDepth 100000 in
theorem aDH(hg:g.Ok){m:Nat}(K:Rs->Tr)(n:Nat)(hn:n<=1073741824)(hm:m<18446744073709551616)(em:k.mask=(m:Int))(ek:k.key.size<=64)(ht:k.t.root<=9223372036854775807)(hA:∀f∈aN x.L,f∈A)(go:gI g x (vN k (jQ k.key m) K n))(ok:x.Ok)(hs:SF w D (xH k bx bm x dn rs) A [] (xW x) w):Calls Tryz.prog 184 #[.pointer (some ⟨bx,0,none⟩)] w λ e w'=>∃q:Rs×XS×List aQ,e=.returned (.agg ⟨q.1.cells⟩)/\Nx g x q.2.1 q.2.2 (K q.1) 0/\SF w D (xH k bx bm q.2.1 dn rs) [] (aN q.2.2) (xW q.2.1) w':=by
 refine enter Tryz.func184 Tryz.ntmps184 rfl rfl (cJ hs) ?_;simp only[cC];refine J0 ?_;refine aJ (λ x2=>?_);refine Qa ?_;refine eR [3,4,13,14,15,16,17,18,19,20,21,22,23,24,25,26,27,28] (λ j:Nat=>[(3,.pointer (some ⟨j,0,none⟩)),(4,.int .u64 (((jQ k.key m):Nat):Int))]) (λ _=>True) (λ j=>[(j,.cells ⟨[.int .i64 k.t.root,.bool k.t.ro]⟩ 29 (0,0)),(x2,.cells ⟨Rs.zero.cells⟩ 64 (0,0)),(bx,xO k bm x dn rs),(bm,xM x)]) (λ _=>[]) (λ _=>xW x) (by decide) (λ _=>by exact rfl) ?_ (λ j f hx=>?_)
 ·refine K0i ?_;refine K0d ?_;refine gL (E:=[15,16]) (by decide +kernel) ((.cons ?_ (.cons ?_ .nil)));·refine Bd (i:=15) (hq:=(cV (hc:=λ w1 hw=>nZ em hm ek w1))) (hfire:=E0i) (h:=λ x28=>?_);refine iP (hfire:=E0a) (h:=λ x3=>?_);refine C1 ?_;refine fC (x3) ?_;·trivial
  ·refine iL (i:=16) (hfire:=E0a) (h:=λ x3=>?_);refine dB (i:=15) (hq:=(cV (hc:=λ w1 hw=>nZ em hm ek w1))) (hfire:=(λ _=>by(refine aL.cons (by exact gD (hq:=aU (k:=2) (vs:=[.int .i64 k.t.root,.bool k.t.ro]) rf cY eD rfl rfl)) ?_;exact aL.nil))) (h:=λ x28=>?_);refine C1 ?_;refine fC (x3) ?_;·trivial
 refine K0a ?_;refine Dj ?_;refine mN [5,6,7,8,9,10,11,12,29,30,31,32,33,34,35,36,37,38,39,40,41,42,43,44,45,46,47,48,49,50,51,52,53,54,55,56,57,58,59,60,61,62,63,64,65,66,67,68,69,70,71,72,73,74,75,76,77,78,79,80,81,82,83,84,85,86,87,88,89,90,91,92,93,94,95,96,97,98,99,100,101] (λ y:Nat×XS×List aQ=>[]) (λ y=>y.1<=n/\Nx g x y.2.1 y.2.2 (vN k (jQ k.key m) K y.1) 0) (λ y=>[(j,.cells ⟨[.int .i64 k.t.root,.bool k.t.ro]⟩ 29 (0,0)),(x2,.cells ⟨Rs.zero.cells⟩ 64 (0,0)),(bx,xO k bm y.2.1 dn rs),(bm,xM y.2.1)]) (λ y=>aN y.2.2) (λ y=>xW y.2.1) (λ y=>y.1) ((n,x,[])) (⟨Nat.le_refl n,Nx.start go ok |>.cR go (bN _)⟩) (λ y f hx=>?_) (hw0:=λ w hw=>hw);refine K0a ?_;obtain⟨hyn,hy⟩:=hx;refine K2i ?_;refine bD (λ c33=>?_) (λ c33=>?_)
 ·obtain⟨fu,hfu,gx⟩:=gI.kV (T:=λ q=>vN k (jQ k.key m) K q) hy.go (by simpa using c33) rfl hg;refine aW ?_;refine cO ?_;refine J2 ?_;refine bO ?_;refine aD (cM (hs:=xH k bx bm y.2.1 dn rs) (os:=xW y.2.1) (hc:=λ w hs=>D5 hg k.t _ ht gx hy.ok hs)) (λ x36 h36=>?_);refine zQ ?_;refine aD (cM (hs:=xH k bx bm x36.2.1 dn rs) (os:=xW x36.2.1) (hc:=λ w hs=>cQ x36.1 _ h36.bd h36.go h36.ok hs)) (λ x39 h39=>?_);refine cP ?_;refine J1 ?_;refine cU ?_;refine Fq ?_;refine mN [5,7,8,9,10,11,12,41,42,43,44,45,46,47,48,49,50,51,52,53,54,55,56,57,58,59,60,61,62,63,64,65,66,67,68,69,70,71,72,73,74,75,76,77,78,79,80,81,82,83,84,85,86,87,88,89,90,91,92,93,94,95,96,97,98,99,100,101] (λ z:Nat×Int×Int×XS×List aQ=>[(5,.int .i64 z.2.1),(7,.int .i64 z.2.2.1),(8,.int .i64 (((fu-z.1):Nat):Int))]) (λ z=>z.1<=fu/\Nx g x z.2.2.2.1 z.2.2.2.2 (sY k (jQ k.key m) K (vN k (jQ k.key m) K fu) (aB x36.2.1.L x36.1).nd.gen z.1 z.2.1 z.2.2.1 (fu-z.1)) z.2.1/\z.2.2.1<=z.2.2.2.1.L.length) (λ z=>[(j,.cells ⟨[.int .i64 k.t.root,.bool k.t.ro]⟩ 29 (0,0)),(x2,.cells ⟨Rs.zero.cells⟩ 64 (0,0)),(bx,xO k bm z.2.2.2.1 dn rs),(bm,xM z.2.2.2.1)]) (λ z=>aN z.2.2.2.2) (λ z=>xW z.2.2.2.1) (λ z=>z.1) ((fu,x36.1,0,x36.2.1,y.2.2++x36.2.2)) (⟨Nat.le_refl fu,(hy.trans h36).cR (show gI g x36.2.1 (sY k (jQ k.key m) K (vN k (jQ k.key m) K fu) (aB x36.2.1.L x36.1).nd.gen fu x36.1 0 (fu-fu)) from(Nat.sub_self fu).symm▸h39.1) h36.bd,bN _⟩) (λ z f hx=>?_) (hw0:=λ w hw=>(hw.eY nR).v6);refine K0a ?_;obtain⟨hzf,hz,hzp⟩:=hx;refine K2i ?_;refine bD (λ c45=>?_) (λ c45=>?_)
  ·obtain⟨fu2,hfu2,gz⟩:=gI.kV (T:=λ q=>(sY k (jQ k.key m) K (vN k (jQ k.key m) K fu) (aB x36.2.1.L x36.1).nd.gen q z.2.1 z.2.2.1 (fu-z.1))) hz.go (by simpa using c45) rfl hg;refine rT ?_;refine J2 ?_;refine Kd0 ?_;refine aD (cM (hs:=xH k bx bm z.2.2.2.1 dn rs) (os:=xW z.2.2.2.1) (hc:=λ w hs=>pS hg k.t z.2.1 _ ht hz.bd gz hz.ok hs)) (λ x51 h51=>?_);have hl51:=h51.len;have hb51:=h51.bd;have hbz:=hz.bd;have hch:=Ch.nx h51 hz.ch;refine jG ?_;refine Kc9 ?_;refine bD (λ c55=>?_) (λ c55=>?_)
   ·refine Xz ?_;refine iS (by exact(fu,x51.2.1,(z.2.2.2.2++x51.2.2))) ?_ (hw1:=λ w hw=>by exact(hw.eY nR).v6)
    ·first
     | exact⟨by show fu<=n;omega,(((hz.trans h51).trans h76).trans h97).cR g4 (bN _)⟩
     | exact⟨by show fu<=n;omega,((hz.trans h51).trans h76).cR g3 (bN _)⟩
     | exact⟨by show fu<=n;omega,((hz.trans h51).trans h68).cR h68.go (bN _)⟩
     | exact⟨by show fu<=n;omega,(hz.trans h51).cR (h51.go.bZ (by assumption)) (bN _)⟩
     | exact⟨by show fu<=n;omega,hz.cR (hz.go.bZ (by simpa using c45)) (bN _)⟩
   ·refine lB ?_;refine jD ?_;refine aD (cM (hs:=xH k bx bm x51.2.1 dn rs) (os:=xW x51.2.1) (hc:=λ w hs=>cQ x51.1 _ h51.bd h51.go h51.ok hs)) (λ x58 h58=>?_);refine cP ?_;refine tG ?_;refine bD (λ c60=>?_) (λ c60=>?_)
    ·have g1:=h58.1.to (λ _=>if_pos c60);refine J2 ?_;refine bO ?_;refine qX ?_;refine qX ?_;refine sV ?_;refine aD (cM (hs:=xH k bx bm x51.2.1 dn rs) (os:=xW x51.2.1) (A0:=aN x51.2.1.L) (hA:=Ch.all hch hA) (hc:=λ w hs=>M1 hg k.t z.2.2.1 z.2.1 (pQ k.key m) ((((fu-z.1):Nat):Int)-1) _ ht (by omega) (by omega) (λ f hf=>hf) g1 h51.ok hs)) (λ x68 h68=>?_);refine aG ?_;refine Xz ?_;refine iS (by exact(fu,x68.2.1,((z.2.2.2.2++x51.2.2)++x68.2.2))) ?_ (hw1:=E0z)
     ·first
      | exact⟨by show fu<=n;omega,(((hz.trans h51).trans h76).trans h97).cR g4 (bN _)⟩
      | exact⟨by show fu<=n;omega,((hz.trans h51).trans h76).cR g3 (bN _)⟩
      | exact⟨by show fu<=n;omega,((hz.trans h51).trans h68).cR h68.go (bN _)⟩
      | exact⟨by show fu<=n;omega,(hz.trans h51).cR (h51.go.bZ (by assumption)) (bN _)⟩
      | exact⟨by show fu<=n;omega,hz.cR (hz.go.bZ (by simpa using c45)) (bN _)⟩
    ·have g1:=h58.1.to (λ _=>if_neg c60);refine Bo ?_;refine qX ?_;refine qX ?_;refine aD (cM (hs:=xH k bx bm x51.2.1 dn rs) (os:=xW x51.2.1) (A0:=aN x51.2.1.L) (hA:=Ch.all hch hA) (hc:=λ w hs=>de hg z.2.1 x51.1 (pQ k.key m) (fu-z.1) (by omega) (aB x36.2.1.L x36.1).nd.gen _ ht (by omega) (by omega) (λ f hf=>hf) g1 h51.ok hs)) (λ x76 h76=>?_);have hl76:=h76.len;have hch2:=Ch.nx h76 hch;refine K0c ?_;refine aJ (λ x10=>?_);refine lW (λ _=>?_);refine jG ?_;refine mP ?_;refine aA ?_;(refine eE 83 (λ g83=>?_) (λ g83=>?_)<;>refine Ka0 ?_);all_goals (refine vY ?_;refine aG ?_)
     all_goals
     refine bD (λ c86=>?_) (λ c86=>?_)
     ·all_goals (refine Ka9 ?_)
      all_goals refine aZ Tryz.results184 (λ w hw=>?_);exact⟨(x76.1,x76.2.2.1,((z.2.2.2.2++x51.2.2)++x76.2.2.2)),rfl,((hz.trans h51).trans h76).cR (by first|exact h76.go.bZ (by assumption)|exact h76.go.to (λ _=>if_pos (by assumption))) (bN _),(hw.eY nB).v4⟩
     ·try exact nv c86
      all_goals have g2:=h76.go.to (λ _=>if_neg (by assumption))
      all_goals (refine lB ?_;refine J2 ?_;refine tG ?_)
      all_goals
       refine bD (λ c89=>?_) (λ c89=>?_)
       ·have g3:=g2.to (λ _=>if_pos (by assumption));refine Xz ?_;refine iS (by exact(fu,x76.2.2.1,((z.2.2.2.2++x51.2.2)++x76.2.2.2))) ?_ (hw1:=E0z)
        ·first
         | exact⟨by show fu<=n;omega,(((hz.trans h51).trans h76).trans h97).cR g4 (bN _)⟩
         | exact⟨by show fu<=n;omega,((hz.trans h51).trans h76).cR g3 (bN _)⟩
         | exact⟨by show fu<=n;omega,((hz.trans h51).trans h68).cR h68.go (bN _)⟩
         | exact⟨by show fu<=n;omega,(hz.trans h51).cR (h51.go.bZ (by assumption)) (bN _)⟩
         | exact⟨by show fu<=n;omega,hz.cR (hz.go.bZ (by simpa using c45)) (bN _)⟩
       ·have g3:=g2.to (λ _=>if_neg (by assumption));refine Bo ?_;refine qX ?_;refine aA ?_;refine aP (cV (hc:=λ w1 hw=>fN (pQ k.key m) (((fu-z.1):Nat):Int) w1)) (λ x95=>?_);refine aA ?_;refine aD (cM (hs:=xH k bx bm x76.2.2.1 dn rs) (os:=xW x76.2.2.1) (A0:=aN x76.2.2.1.L) (hA:=Ch.all hch2 hA) (hc:=λ w hs=>W4 hg z.2.1 x51.1 (eZ (jQ k.key m) (((fu-z.1):Nat):Int)) (aB x36.2.1.L x36.1).nd.gen _ ht (by omega) (by omega) (λ f hf=>hf) g3 h76.ok hs)) (λ x97 h97=>?_);refine Kd9 ?_;refine tG ?_;refine bD (λ c99=>?_) (λ c99=>?_)
        ·have g4:=h97.go.to (λ _=>if_pos (by assumption));refine Xz ?_;refine iS (by exact(fu,x97.2.1,(((z.2.2.2.2++x51.2.2)++x76.2.2.2)++x97.2.2))) ?_ (hw1:=λ w hw=>by exact(hw.eY xK).v6)
         ·first
          | exact⟨by show fu<=n;omega,(((hz.trans h51).trans h76).trans h97).cR g4 (bN _)⟩
          | exact⟨by show fu<=n;omega,((hz.trans h51).trans h76).cR g3 (bN _)⟩
          | exact⟨by show fu<=n;omega,((hz.trans h51).trans h68).cR h68.go (bN _)⟩
          | exact⟨by show fu<=n;omega,(hz.trans h51).cR (h51.go.bZ (by assumption)) (bN _)⟩
          | exact⟨by show fu<=n;omega,hz.cR (hz.go.bZ (by simpa using c45)) (bN _)⟩
        ·have g4:=h97.go.to (λ _=>if_neg (by assumption));refine aW ?_;refine Km ?_;refine J8 ?_;refine Kb6 ?_;refine iS ((z.1-1,x97.1,z.2.1,x97.2.1,(((z.2.2.2.2++x51.2.2)++x76.2.2.2)++x97.2.2))) ?_ (hw1:=λ w hw=>(hw.eY xK).v6)
         ·have e1:z.1-1=fu2:=by omega
          have e2:(fu-z.1)+1=fu-fu2:=by omega
          refine⟨by show z.1-1<=fu;omega,((((hz.trans h51).trans h76).trans h97)).cR ?_ h97.bd,by show z.2.1<=(x97.2.1.L.length:Int);have:=h97.len;omega⟩;show gI g x97.2.1 (sY k (jQ k.key m) K (vN k (jQ k.key m) K fu) (aB x36.2.1.L x36.1).nd.gen (z.1-1) x97.1 z.2.1 (fu-(z.1-1)));rw[e1,<- e2];exact g4
  ·refine Xz ?_;refine iS (by exact(fu,z.2.2.2.1,z.2.2.2.2)) ?_ (hw1:=λ w hw=>by exact hw.v6)
   ·first
    | exact⟨by show fu<=n;omega,(((hz.trans h51).trans h76).trans h97).cR g4 (bN _)⟩
    | exact⟨by show fu<=n;omega,((hz.trans h51).trans h76).cR g3 (bN _)⟩
    | exact⟨by show fu<=n;omega,((hz.trans h51).trans h68).cR h68.go (bN _)⟩
    | exact⟨by show fu<=n;omega,(hz.trans h51).cR (h51.go.bZ (by assumption)) (bN _)⟩
    | exact⟨by show fu<=n;omega,hz.cR (hz.go.bZ (by simpa using c45)) (bN _)⟩
 ·refine K1t ?_;refine Kc0 ?_;refine aZ Tryz.results184 (λ w hw=>?_);exact⟨(Rs.zero,y.2.1,y.2.2),rfl,hy.cR (hy.go.bZ (by simpa using c33)) (bN _),hw.v4⟩
end
end
end Go.Proofs.YtbajmaoegmbfgaaGreat
namespace Go.Ct
open Go Go.RowKit
section
variable{P:Program}{n:Nat}{Q:Exit->Act->World->Prop}{ks:List CK}{ops:Array Oper}{l:List Oper}{S:List (Nat×Value)}{G:World->Prop}
theorem Q5{d:Nat}{op:Op}{ty:TypeId}{pos:String}{af:Array Edge}{j:Nat}{want:Bool}{g:Nat}(hd:Nat.blt d n=true)
  (hj:(ops[j]?).bind (·.dst)=some g) (hg:look S g=undef)
  (h:JL P n Q ks ops l ((d,undef)::S) G):JL P n Q ks ops (⟨some d,op,ty,pos,af,some (j,want)⟩::l) S G:=⟨λ hS w hw=>by
 have hy:yielded ops (eA n S) j=none:=by
  have e:=congrFun (jK (ds:=[]) hS) (.tmp g);simp only[Act.eval,ev,hg] at e;unfold yielded;rw[hj];simp only[Option.bind_some];rw[Array.getD_eq_getD_getElem?] at e;cases h2:(eA n S)[g]? with
  | none=>rfl
  | some u=>rw[h2] at e;simp[undef] at e;subst e;rfl
 refine wpList_step λ K hK=>?_;have hw':Region.wanted ⟨some d,op,ty,pos,af,some (j,want)⟩ (yielded ops (eA n S))=false:=by simp only[Region.wanted,hy];rfl
 simp only[hw',Bool.false_eq_true,if_false,Cu];exact hK _ _ (h.run (hS.cons hd) w hw)⟩
end
end Go.Ct
namespace Go.Proofs.YtbajmaoegmbfgaaGreat
open Go.RowKit Go.Ct
section
theorem Bv{n:Nat}{Q:Exit->Act->World->Prop}{ks:List CK}{ops:Array Oper}{l:List Oper}{S:List (Nat×Value)}{G:World->Prop}{d j g:Nat}{op:Op}{ty:TypeId}{pos:String}{af:Array Edge}{want:Bool}(h:JL Tryz.prog n Q ks ops l ((d,undef)::S) G)(hd:Nat.blt d n=true:=by exact rfl)(hj:(ops[j]?).bind (·.dst)=some g:=by exact rfl)(hg:Ct.look S g=undef:=by exact rfl):JL Tryz.prog n Q ks ops (⟨some d,op,ty,pos,af,some (j,want)⟩::l) S G:=Q5 hd hj hg h
end
end Go.Proofs.YtbajmaoegmbfgaaGreat
namespace Go.Ct
open Go Go.RowKit
section
theorem qL{g:Gx}{x:XS}{r:Int}{K:Nv->Tr}(h:gI g x (.node r K))(hr:r<=x.L.length):gI g x (K (aB x.L r).c):=by have:=h.node hr;rwa [show bE x.nodes r=(aB x.L r).c from(Bg x.L r).symm] at this
section
variable{P:Program}{S:List (Nat×Value)}{G:World->Prop}{d:Nat}{ty t t':TypeId}{pos:String}{af:Array Edge}{gd:Option (Nat×Bool)}{x y:Operand}{a b:ByteArray}
theorem yk(hx:ev S x=.string a)(hy:ev S y=.string b)(h:¬a=b):aM P S G ⟨some d,.binOp .neq t x y t',ty,pos,af,gd⟩ (.bool true):=by have:=Iy (P:=P) (G:=G) (d:=d) (ty:=ty) (pos:=pos) (af:=af) (gd:=gd) (t:=t) (t':=t') hx hy;rwa [bne,aAB h] at this
theorem y0(hx:ev S x=.string a)(hy:ev S y=.string b)(h:a=b):aM P S G ⟨some d,.binOp .neq t x y t',ty,pos,af,gd⟩ (.bool false):=by have:=Iy (P:=P) (G:=G) (d:=d) (ty:=ty) (pos:=pos) (af:=af) (gd:=gd) (t:=t) (t':=t') hx hy;rwa [bne,z7 h] at this
end
end
end Go.Ct
namespace Go.Proofs.YtbajmaoegmbfgaaGreat
open Go.Proofs.Tryz
open Go Go.RowKit Go.Ct
section
theorem xx{m:Nat}{o:Option (Nat×List Int)}{w:World}(h:wS m o){x:Option Addr×Nat}{r:Nv}(e:r=(nN o x).c (nC o) [])(hc:Go.Ct.Cl w x.1 (aH (nC o))):Calls prog 245 #[(nN o x).v] w λ e w'=>e=.returned (.tuple #[.int .i64 ((Na r).getD 0),.bool (Na r).isSome])/\St w [] [] w':=by obtain⟨b,h1,h2⟩:=Qc h x;have:=Lx (n:=nN o x) h1 h2 (Sa h hc);rw[aBV,<- e] at this;exact this
theorem aC6{m:Nat}{o:Option (Nat×List Int)}(h:wS m o){x:Option Addr×Nat}{r:Nv}(e:r=(nN o x).c (nC o) []):(Na r).getD 0<=m:=by
 rw[e,<- aBV];unfold r7;split
 ·refine mU (λ v hv=>?_) 0;cases o with
  | none=>exact(List.not_mem_nil hv).elim
  | some q=>exact(h.out q rfl).2.2 v hv
 ·exact bN _
section
variable{k:Cl}{bx bm:Nat}{x:XS}{dn:Bool}{rs:Rs}{D:List Nat}{A:Fr}{w:World}{g:Gx}
variable{h:Nat}{b:Int}
set_option maxRecDepth 100000 in
theorem Vi(hg:g.Ok)(i m:Int)(hh:h<18446744073709551616)(level:Nat)(hlv:level<=1073741824)(K:Rs->Int->Tr)(ht:k.t.root<=9223372036854775807)(hi:i<=x.L.length)(hm:m<=x.L.length)(hA:∀f∈aN x.L,f∈A)(hk:(aB x.L m).nd.kind=6)(go:gI g x (lA k i m h level K))(ok:x.Ok)(hs:SF w D (xH k bx bm x dn rs) A [] (xW x) w):Calls prog 226 #[.pointer (some ⟨bx,0,none⟩),.int .i64 i,.int .i64 m,.int .u64 (h:Int),.int .i64 (level:Int)] w (dk g x K bx bm k dn rs D w):=by
 refine K0w ?_;intro hyl hlL h48;refine K1r ?_;simp only[cC];refine J0 ?_;refine aJ (λ x10=>?_);refine jG ?_;refine eR [12,13,26,27,28,29,30,31,32,33] (λ j:Nat=>[(12,.pointer (some ⟨j,0,none⟩)),(13,.string k.key)]) (λ _=>True) (λ j=>[(j,.cells ⟨(aB x.L m).nd.cells⟩ 47 (0,0)),(x10,.cells ⟨Rs.zero.cells⟩ 64 (0,0)),(bx,xO k bm x dn rs),(bm,xM x)]) (λ _=>[]) (λ _=>xW x) (by decide) (λ _=>by exact rfl) ?_ (λ j f hx=>?_)
 ·refine K0e ?_;refine gL (E:=[2,8]) (by decide +kernel) ((.cons ?_ (.cons ?_ .nil)));·refine nX (i:=2) (hq:=(cM (hs:=xH k bx bm x dn rs) (os:=xW x) (hc:=λ w hs=>fU m (by omega) ok hs))) (h:=λ x28 h28=>?_);refine iP (h:=λ x12=>?_);refine K2b ?_;·trivial
  ·refine iL (i:=8) (h:=λ x12=>?_);refine bI (i:=2) (hq:=(cM (hs:=xH k bx bm x dn rs) (os:=xW x) (hc:=λ w hs=>fU m (by omega) ok hs))) (h:=λ x28 h28=>?_);refine K2b ?_;·trivial
 refine K0a ?_;refine Kd1 ?_;refine bD (λ c36=>?_) (λ c36=>?_)
 ·have g1:=h48.1.to (λ _=>if_pos hk);refine Kc8 ?_;refine aP (cV (hc:=λ w1 hw=>M7 (v:=(aB x.L m)) (n:=0) k.key (ok.sU hw hA m) (ok.ysl m))) (λ x41=>?_);refine K0c ?_;refine Kb1 ?_;refine Cr ?_;(refine eE 46 (λ g46=>?_) (λ g46=>?_)<;>refine Ka0 ?_);all_goals (refine Kb7 ?_;refine Ka1 ?_;refine Ka1 ?_;refine Ka2 ?_;refine Ka0 ?_)
  all_goals (first|refine Bv ?_|(refine eE 52 (λ g52=>?_) (λ g52=>?_)<;>refine Ka0 ?_))
  all_goals ((first|refine aI ?_|refine Bv ?_|(refine Ka3 ?_));(first|refine aI ?_|refine Bv ?_|(refine aF ?_;refine dO ?_));(first|refine aI ?_|refine Bv ?_|(refine aF ?_;refine aE ?_));(first|refine aI ?_|refine Bv ?_|(refine aF ?_;refine aE ?_));(first|refine aI ?_|refine Bv ?_|(refine aF ?_;refine bO ?_));(first|refine aI ?_|refine Bv ?_|(refine aF ?_;refine lN ?_));(first|refine aI ?_|(refine aF ?_;refine cH ?_));refine Kd8 ?_)
  all_goals
  refine bD (λ c61=>?_) (λ c61=>?_)
  ·try exact nv c61
   all_goals have g2:=g1.to (λ _=>if_pos (show((cL (aB x.L m).c.ys k.key).isSome=false∨(k.only=true/\(cL (aB x.L m).c.ys k.key).getD 0≠k.exp)) from by first|exact Or.inl (by assumption)|exact Or.inr ⟨by assumption,by assumption⟩))
   all_goals (refine jD ?_;refine aP (cV (hc:=λ w1 hw=>gZ _ _ w1)) (λ x64=>?_);refine E8 ?_)
   all_goals refine aZ results226 (λ w hw=>?_);exact⟨(dM (cL (aB x.L m).c.ys k.key).isSome ((cL (aB x.L m).c.ys k.key).getD 0),1,x,[]),rfl,⟨g2,ok,by simp,Nat.le_refl _,bN _⟩,hw.bB (hF:=by exact bA.nil)⟩
  ·try exact nv c61
   all_goals have g2:=g1.to (λ _=>if_neg (show ¬((cL (aB x.L m).c.ys k.key).isSome=false∨(k.only=true/\(cL (aB x.L m).c.ys k.key).getD 0≠k.exp)) from by rintro (h|⟨h,h'⟩)<;>simp_all))
   all_goals (refine aW ?_;refine E4 ?_;refine aD (cF (hc:=λ w1 hw=>aDJ (v:=(aB x.L m)) h48.2 k.key (ok.sU hw hA m) (by omega))) (λ x68 h68=>?_);refine aA ?_;refine aC (bQ rf rfl) rfl ?_;refine aC (bQ rf rfl) rfl ?_;refine aJ (λ x16=>?_);refine lW (λ _=>?_);refine jG ?_;refine eI [(0,[]),(1,[]),(2,[]),(3,[]),(4,[]),(5,[]),(6,[]),(7,[]),(8,[]),(9,[]),(10,[]),(11,[]),(14,[]),(12,[6]),(13,[]),(15,[]),(16,[]),(17,[]),(18,[]),(19,[])] ?_;refine iW ?_;refine J9 ?_;refine aY ?_;refine bU (i:=6) (hq:=(aU (k:=2) (vs:=[.int .i64 k.t.root,.bool k.t.ro]) rf cY eD rfl rfl)) (h:=?_);refine iW ?_;refine aV ?_;refine Kb4 ?_;refine bI (i:=12) (hq:=(cM (hs:=xH k bx bm x dn rs) (os:=xW x) (A0:=[((Ph (rC (aB x.L m).nd (aB x.L m).xs (aB x.L m).ys k.key) (aB x.L m).nd.hash x68).brA,aH []),((Ph (rC (aB x.L m).nd (aB x.L m).xs (aB x.L m).ys k.key) (aB x.L m).nd.hash x68).prA,dF (Jv (rC (aB x.L m).nd (aB x.L m).xs (aB x.L m).ys k.key)))]) (hA:=aCz) (hc:=λ w hs=>iD hg (n:=Ph (rC (aB x.L m).nd (aB x.L m).xs (aB x.L m).ys k.key) (aB x.L m).nd.hash x68) (xs:=[]) (ys:=Jv (rC (aB x.L m).nd (aB x.L m).xs (aB x.L m).ys k.key)) m _ (pi _ _ _).1 (pi _ _ _).2 (by decide) (by have:=aBQ (aB x.L m).xs (aB x.L m).ys (aB x.L m).nd k.key;omega) (aCd _ h48.2.hash) hm (by rw[aEB];exact g2) ok hs))) (hfire:=(λ _=>by(refine fV ?_;refine aL.cons E0h ?_;exact aL.nil))) (h:=λ x83 h83=>?_);refine bI (i:=13) (hq:=(cM (hs:=xH k bx bm x83.2.1 dn rs) (os:=xW x83.2.1) (hc:=λ w hs=>uU hg k.t i m x83.1 _ ht (by have:=h83.len;omega) h83.bd h83.go h83.ok hs))) (h:=λ x84 h84=>?_))
   all_goals have hch:=Ch.nx h84 (Ch.nx h83 ((Ch.base (F:=[])).cons (f:=(x68.1,dF (Jv (rC (aB x.L m).nd (aB x.L m).xs (aB x.L m).ys k.key))))));have hlc:x.cs.length<=x84.2.1.cs.length:=by have:=h83.lc;have:=h84.lc;omega
   all_goals (refine dB (i:=15) (hq:=(cV (hc:=λ w1 hw=>qQ _ _ _ _ w1))) (h:=λ x86=>?_);refine cZ (i:=16) (hq:=(bQ rf rfl)) (h:=?_);refine cZ (i:=17) (hq:=(bQ rf rfl)) (h:=?_);refine C1 ?_)
   all_goals refine aZ results226 (λ w hw=>?_);obtain⟨N,hN,hf⟩:=hch.to (t':=K (oS true ((cL (aB x.L m).c.ys k.key).getD 0)) (if x84.1=true then 1 else 0)) h84 (h84.go) hlc (bN _);exact⟨(oS true ((cL (aB x.L m).c.ys k.key).getD 0),(if x84.1=true then 1 else 0),x84.2.1,N),rfl,hN,(hw.eY hf).v4⟩
 ·exact absurd hk c36
set_option maxRecDepth 100000 in
theorem Tt(hg:g.Ok)(i m:Int)(hh:h<18446744073709551616)(level:Nat)(hlv:level<=1073741824)(K:Rs->Int->Tr)(ht:k.t.root<=9223372036854775807)(hi:i<=x.L.length)(hm:m<=x.L.length)(hA:∀f∈aN x.L,f∈A)(hk:¬(aB x.L m).nd.kind=6)(hl:iU (aB x.L m).c (eZ h (level:Int))=none)(go:gI g x (lA k i m h level K))(ok:x.Ok)(hs:SF w D (xH k bx bm x dn rs) A [] (xW x) w):Calls prog 226 #[.pointer (some ⟨bx,0,none⟩),.int .i64 i,.int .i64 m,.int .u64 (h:Int),.int .i64 (level:Int)] w (dk g x K bx bm k dn rs D w):=by
 refine K0w ?_;intro hyl hlL h48;refine K1r ?_;simp only[cC];refine J0 ?_;refine aJ (λ x10=>?_);refine jG ?_;refine eR [12,13,26,27,28,29,30,31,32,33] (λ j:Nat=>[(12,.pointer (some ⟨j,0,none⟩)),(13,.string k.key)]) (λ _=>True) (λ j=>[(j,.cells ⟨(aB x.L m).nd.cells⟩ 47 (0,0)),(x10,.cells ⟨Rs.zero.cells⟩ 64 (0,0)),(bx,xO k bm x dn rs),(bm,xM x)]) (λ _=>[]) (λ _=>xW x) (by decide) (λ _=>by exact rfl) ?_ (λ j f hx=>?_)
 ·refine K0e ?_;refine gL (E:=[2,8]) (by decide +kernel) ((.cons ?_ (.cons ?_ .nil)));·refine nX (i:=2) (hq:=(cM (hs:=xH k bx bm x dn rs) (os:=xW x) (hc:=λ w hs=>fU m (by omega) ok hs))) (h:=λ x28 h28=>?_);refine iP (h:=λ x12=>?_);refine K2b ?_;·trivial
  ·refine iL (i:=8) (h:=λ x12=>?_);refine bI (i:=2) (hq:=(cM (hs:=xH k bx bm x dn rs) (os:=xW x) (hc:=λ w hs=>fU m (by omega) ok hs))) (h:=λ x28 h28=>?_);refine K2b ?_;·trivial
 refine K0a ?_;refine Kd1 ?_;refine bD (λ c36=>?_) (λ c36=>?_);·exact absurd c36 hk
 ·have g0:=h48.1.to (λ _=>if_neg hk);have g1:=Ob g0 (by rw[hl];rfl);refine K0r ?_;intro x91;refine J1 ?_;refine E4 ?_;refine aP (cV (hc:=λ w1 hw=>zs (v:=(aB x.L m)) h48.2 hl (ok.sU hw hA m))) (λ x95=>?_);refine K0c ?_;refine J8 ?_;refine jD ?_;refine aD (cM (hs:=xH k bx bm x dn rs) (os:=xW x) (hc:=λ w hs=>fU 0 (by decide) ok hs)) (λ x100 h100=>?_);refine aJ (λ x21=>?_);refine J5 ?_;refine Dj ?_;refine jD ?_;refine aI ?_;refine J78 ?_;refine J1 ?_;refine bD (λ c101=>?_) (λ c101=>?_)
  ·exact nv c101
  ·refine J2 ?_;refine Cr ?_;refine aI ?_;refine Z6 ?_;(refine aI ?_);refine Kb9 ?_;refine bD (λ c109=>?_) (λ c109=>?_);·refine J0 ?_;refine aP (cV (hc:=λ w1 hw=>gZ _ _ w1)) (λ x118=>?_);refine E8 ?_;refine aZ results226 (λ w hw=>?_);exact⟨(dM false 0,1,x,[]),rfl,⟨g1,ok,by simp,Nat.le_refl _,bN _⟩,hw.bB (hF:=by exact bA.nil)⟩
   ·exact nv c109
set_option maxRecDepth 100000 in
theorem Uq(hg:g.Ok)(i m:Int)(hh:h<18446744073709551616)(level:Nat)(hlv:level<=1073741824)(K:Rs->Int->Tr)(ht:k.t.root<=9223372036854775807)(hi:i<=x.L.length)(hm:m<=x.L.length)(hA:∀f∈aN x.L,f∈A)(hk:¬(aB x.L m).nd.kind=6)(hl:iU (aB x.L m).c (eZ h (level:Int))=some b)(hi2:(aB x.L b).nd.kind=2)(go:gI g x (lA k i m h level K))(ok:x.Ok)(hs:SF w D (xH k bx bm x dn rs) A [] (xW x) w):Calls prog 226 #[.pointer (some ⟨bx,0,none⟩),.int .i64 i,.int .i64 m,.int .u64 (h:Int),.int .i64 (level:Int)] w (dk g x K bx bm k dn rs D w):=by
 refine K0w ?_;intro hyl hlL h48;have hb:b<=x.L.length:=by have:=mD (ok.nv m) (eZ h (level:Int));rw[hl] at this;exact this
 refine K1r ?_;simp only[cC];refine J0 ?_;refine aJ (λ x10=>?_);refine jG ?_;refine eR [12,13,26,27,28,29,30,31,32,33] (λ j:Nat=>[(12,.pointer (some ⟨j,0,none⟩)),(13,.string k.key)]) (λ _=>True) (λ j=>[(j,.cells ⟨(aB x.L m).nd.cells⟩ 47 (0,0)),(x10,.cells ⟨Rs.zero.cells⟩ 64 (0,0)),(bx,xO k bm x dn rs),(bm,xM x)]) (λ _=>[]) (λ _=>xW x) (by decide) (λ _=>by exact rfl) ?_ (λ j f hx=>?_)
 ·refine K0e ?_;refine gL (E:=[2,8]) (by decide +kernel) ((.cons ?_ (.cons ?_ .nil)));·refine nX (i:=2) (hq:=(cM (hs:=xH k bx bm x dn rs) (os:=xW x) (hc:=λ w hs=>fU m (by omega) ok hs))) (h:=λ x28 h28=>?_);refine iP (h:=λ x12=>?_);refine K2b ?_;·trivial
  ·refine iL (i:=8) (h:=λ x12=>?_);refine bI (i:=2) (hq:=(cM (hs:=xH k bx bm x dn rs) (os:=xW x) (hc:=λ w hs=>fU m (by omega) ok hs))) (h:=λ x28 h28=>?_);refine K2b ?_;·trivial
 refine K0a ?_;refine Kd1 ?_;refine bD (λ c36=>?_) (λ c36=>?_);·exact absurd c36 hk
 ·refine K1u ?_;intro g0 g1;rw[hl] at g1;have g2:=qL g1 hb;refine K0r ?_;intro x91;refine K2d ?_;intro x95;refine K0c ?_;refine K0y ?_;intro x100 h100 x21;(refine aF ?_;refine aE ?_);refine J78 ?_;refine J1 ?_;refine bD (λ c101=>?_) (λ c101=>?_)
  ·have g3:=g2.to (λ _=>if_pos hi2);refine J0 ?_;refine bM ?_;refine E8 ?_;refine aZ results226 (λ w hw=>?_);exact⟨(Rs.zero,2,x,[]),rfl,⟨g3,ok,by simp,Nat.le_refl _,bN _⟩,hw.bB (hF:=by exact bA.nil)⟩
  ·exact absurd hi2 c101
set_option maxRecDepth 100000 in
theorem Vp(hg:g.Ok)(i m:Int)(hh:h<18446744073709551616)(level:Nat)(hlv:level<=1073741824)(K:Rs->Int->Tr)(ht:k.t.root<=9223372036854775807)(hi:i<=x.L.length)(hm:m<=x.L.length)(hA:∀f∈aN x.L,f∈A)(hk:¬(aB x.L m).nd.kind=6)(hl:iU (aB x.L m).c (eZ h (level:Int))=some b)(hi2:¬(aB x.L b).nd.kind=2)(he:¬(aB x.L b).nd.key=k.key)(go:gI g x (lA k i m h level K))(ok:x.Ok)(hs:SF w D (xH k bx bm x dn rs) A [] (xW x) w):Calls prog 226 #[.pointer (some ⟨bx,0,none⟩),.int .i64 i,.int .i64 m,.int .u64 (h:Int),.int .i64 (level:Int)] w (dk g x K bx bm k dn rs D w):=by
 refine K0w ?_;intro hyl hlL h48;have hb:b<=x.L.length:=by have:=mD (ok.nv m) (eZ h (level:Int));rw[hl] at this;exact this
 refine K1r ?_;simp only[cC];refine J0 ?_;refine aJ (λ x10=>?_);refine jG ?_;refine eR [12,13,26,27,28,29,30,31,32,33] (λ j:Nat=>[(12,.pointer (some ⟨j,0,none⟩)),(13,.string k.key)]) (λ _=>True) (λ j=>[(j,.cells ⟨(aB x.L m).nd.cells⟩ 47 (0,0)),(x10,.cells ⟨Rs.zero.cells⟩ 64 (0,0)),(bx,xO k bm x dn rs),(bm,xM x)]) (λ _=>[]) (λ _=>xW x) (by decide) (λ _=>by exact rfl) ?_ (λ j f hx=>?_)
 ·refine K0e ?_;refine gL (E:=[2,8]) (by decide +kernel) ((.cons ?_ (.cons ?_ .nil)));·refine nX (i:=2) (hq:=(cM (hs:=xH k bx bm x dn rs) (os:=xW x) (hc:=λ w hs=>fU m (by omega) ok hs))) (h:=λ x28 h28=>?_);refine iP (h:=λ x12=>?_);refine K2b ?_;·trivial
  ·refine iL (i:=8) (h:=λ x12=>?_);refine bI (i:=2) (hq:=(cM (hs:=xH k bx bm x dn rs) (os:=xW x) (hc:=λ w hs=>fU m (by omega) ok hs))) (h:=λ x28 h28=>?_);refine K2b ?_;·trivial
 refine K0a ?_;refine Kd1 ?_;refine bD (λ c36=>?_) (λ c36=>?_);·exact absurd c36 hk
 ·refine K1u ?_;intro g0 g1;rw[hl] at g1;have g2:=qL g1 hb;refine K0r ?_;intro x91;refine K2d ?_;intro x95;refine K0c ?_;refine K0y ?_;intro x100 h100 x21;(refine aF ?_;refine aE ?_);refine J78 ?_;refine J1 ?_;refine bD (λ c101=>?_) (λ c101=>?_)
  ·exact absurd c101 hi2
  ·have g3:=(g2.to (λ _=>if_neg hi2)).to (λ _=>if_pos he);refine J2 ?_;refine Cr ?_;(refine aF ?_;refine aE ?_);refine Z6 ?_;((refine aF ?_;refine aC (yk rf rf he) rfl ?_));refine Kb9 ?_;refine bD (λ c109=>?_) (λ c109=>?_)
   ·refine J0 ?_;refine aP (cV (hc:=λ w1 hw=>gZ _ _ w1)) (λ x118=>?_);refine E8 ?_;refine aZ results226 (λ w hw=>?_);exact⟨(dM false 0,1,x,[]),rfl,⟨g3,ok,by simp,Nat.le_refl _,bN _⟩,hw.bB (hF:=by exact bA.nil)⟩
   ·exact nv c109
set_option maxRecDepth 100000 in
theorem Vc(hg:g.Ok)(i m:Int)(hh:h<18446744073709551616)(level:Nat)(hlv:level<=1073741824)(K:Rs->Int->Tr)(ht:k.t.root<=9223372036854775807)(hi:i<=x.L.length)(hm:m<=x.L.length)(hA:∀f∈aN x.L,f∈A)(hk:¬(aB x.L m).nd.kind=6)(hl:iU (aB x.L m).c (eZ h (level:Int))=some b)(hi2:¬(aB x.L b).nd.kind=2)(he:(aB x.L b).nd.key=k.key)(go:gI g x (lA k i m h level K))(ok:x.Ok)(hs:SF w D (xH k bx bm x dn rs) A [] (xW x) w):Calls prog 226 #[.pointer (some ⟨bx,0,none⟩),.int .i64 i,.int .i64 m,.int .u64 (h:Int),.int .i64 (level:Int)] w (dk g x K bx bm k dn rs D w):=by
 refine K0w ?_;intro hyl hlL h48;have hb:b<=x.L.length:=by have:=mD (ok.nv m) (eZ h (level:Int));rw[hl] at this;exact this
 refine K1r ?_;simp only[cC];refine J0 ?_;refine aJ (λ x10=>?_);refine jG ?_;refine eR [12,13,26,27,28,29,30,31,32,33] (λ j:Nat=>[(12,.pointer (some ⟨j,0,none⟩)),(13,.string k.key)]) (λ _=>True) (λ j=>[(j,.cells ⟨(aB x.L m).nd.cells⟩ 47 (0,0)),(x10,.cells ⟨Rs.zero.cells⟩ 64 (0,0)),(bx,xO k bm x dn rs),(bm,xM x)]) (λ _=>[]) (λ _=>xW x) (by decide) (λ _=>by exact rfl) ?_ (λ j f hx=>?_)
 ·refine K0e ?_;refine gL (E:=[2,8]) (by decide +kernel) ((.cons ?_ (.cons ?_ .nil)));·refine nX (i:=2) (hq:=(cM (hs:=xH k bx bm x dn rs) (os:=xW x) (hc:=λ w hs=>fU m (by omega) ok hs))) (h:=λ x28 h28=>?_);refine iP (h:=λ x12=>?_);refine K2b ?_;·trivial
  ·refine iL (i:=8) (h:=λ x12=>?_);refine bI (i:=2) (hq:=(cM (hs:=xH k bx bm x dn rs) (os:=xW x) (hc:=λ w hs=>fU m (by omega) ok hs))) (h:=λ x28 h28=>?_);refine K2b ?_;·trivial
 refine K0a ?_;refine Kd1 ?_;refine bD (λ c36=>?_) (λ c36=>?_);·exact absurd c36 hk
 ·refine K1u ?_;intro g0 g1;rw[hl] at g1;have g2:=qL g1 hb;refine K0r ?_;intro x91;refine K2d ?_;intro x95;refine K0c ?_;refine K0y ?_;intro x100 h100 x21;(refine aF ?_;refine aE ?_);refine J78 ?_;refine J1 ?_;refine bD (λ c101=>?_) (λ c101=>?_)
  ·exact absurd c101 hi2
  ·have g3:=(g2.to (λ _=>if_neg hi2)).to (λ _=>if_neg (λ h:¬(aB x.L b).nd.key=k.key=>h he));refine J2 ?_;refine Cr ?_;(refine aF ?_;refine aE ?_);refine Z6 ?_;((refine aF ?_;refine aC (y0 rf rf he) rfl ?_));refine Kb9 ?_;refine bD (λ c109=>?_) (λ c109=>?_)
   ·exact nv c109
   ·refine aT ?_;refine gH [0,1,2,3,4,5,6,7,8,9,10,11,12,13,14,15] ?_;refine zA ?_;refine aV ?_;(refine rcs 125 (λ g125=>?_) (λ g125=>?_)<;>(first|refine iF ?_|(refine aY ?_)));all_goals ((first|refine iF ?_|(refine bV ?_));(first|refine iF ?_|(refine aV ?_));(first|refine iF ?_|(refine uG ?_));(first|refine iF ?_|(refine aY ?_));refine J18 ?_;(first|refine iF ?_|(refine oy ?_));refine lZ ?_;refine J7 ?_)
    all_goals
    refine bD (λ c119=>?_) (λ c119=>?_)
    ·try exact nv c119
     all_goals have g4:=g3.to (λ _=>if_pos (show(k.only=true/\(aB x.L b).nd.val≠k.exp) from⟨by assumption,by assumption⟩))
     all_goals (refine iE ?_;refine aP (cV (hc:=λ w1 hw=>gZ _ _ w1)) (λ x137=>?_);refine E8 ?_)
     all_goals refine aZ results226 (λ w hw=>?_);exact⟨(dM true (aB x.L b).nd.val,1,x,[]),rfl,⟨g4,ok,by simp,Nat.le_refl _,bN _⟩,hw.bB (hF:=by exact bA.nil)⟩
    ·all_goals have g4:=g3.to (λ _=>if_neg (show ¬(k.only=true/\(aB x.L b).nd.val≠k.exp) from by rintro ⟨h,h'⟩;simp_all))
     all_goals (refine pE ?_;refine E4 ?_;refine aD (cF (hc:=λ w1 hw=>aCV (v:=(aB x.L m)) h48.2 (eZ h (level:Int)) (ok.sU hw hA m))) (λ x141 h141=>?_))
     all_goals have hB:=aDO h48.2 (v:=(aB x.L m)) (eZ h (level:Int))
     all_goals (refine aA ?_;refine aC (bQ rf rfl) rfl ?_;refine aC (bQ rf rfl) rfl ?_;refine aJ (λ x22=>?_);refine E8 ?_;refine nJ ?_;refine aP (cV (hc:=λ w1 hw=>xx hB (aAe h48.2 (eZ h (level:Int)) x141) (hw.cl (.new .head)))) (λ x146=>?_))
     all_goals have hso:((Na (Pg (aB x.L m).c (eZ h (level:Int)))).getD 0)<=x.L.length:=aC6 hB (aAe h48.2 (eZ h (level:Int)) x141);have g5:=qL g4 hso
     all_goals (refine aA ?_;refine aC (bQ rf rfl) rfl ?_;refine aC (bQ rf rfl) rfl ?_;refine J8 ?_;refine aT ?_;refine eI [(0,[]),(1,[]),(2,[]),(3,[]),(4,[]),(5,[]),(6,[]),(7,[]),(8,[]),(9,[]),(10,[]),(11,[]),(12,[]),(13,[]),(16,[]),(19,[]),(20,[]),(14,[6,10,20]),(15,[6,20]),(17,[6,20]),(18,[20]),(21,[]),(22,[]),(23,[]),(24,[]),(25,[])] ?_;refine iW ?_;refine J9 ?_;refine aY ?_;refine bU (i:=6) (hq:=(aU (k:=2) (vs:=[.int .i64 k.t.root,.bool k.t.ro]) rf cY eD rfl rfl)) (h:=?_);refine iW ?_;refine aV ?_;refine Kb4 ?_;refine iW ?_;refine mE ?_;refine bI (i:=14) (hq:=(cM (hs:=xH k bx bm x dn rs) (os:=xW x) (hc:=λ w hs=>fU ((Na (Pg (aB x.L m).c (eZ h (level:Int)))).getD 0) (by omega) ok hs))) (hfire:=(λ _=>by(refine fV ?_;(repeat (first|exact aL.nil|refine aL.cons (by first|exact gD (hq:=aU (k:=2) (vs:=[.int .i64 k.t.root,.bool k.t.ro]) rf cY eD rfl rfl)|exact fA) ?_));done))) (h:=λ x163 h163=>?_);refine dB (i:=15) (hq:=(cV (hc:=λ w1 hw=>Wx hB (level:Int) (aB x.L ((Na (Pg (aB x.L m).c (eZ h (level:Int)))).getD 0)).nd (hw.cl (.new .head))))) (hfire:=(λ _=>by((repeat (first|exact aL.nil|refine aL.cons (by first|exact gD (hq:=aU (k:=2) (vs:=[.int .i64 k.t.root,.bool k.t.ro]) rf cY eD rfl rfl)|exact fA) ?_));done))) (h:=λ x164=>?_);refine bI (i:=17) (hq:=(cM (hs:=xH k bx bm x dn rs) (os:=xW x) (A0:=[((So (ic (aB x.L m) (eZ h (level:Int))) x141 (level:Int) (aB x.L ((Na (Pg (aB x.L m).c (eZ h (level:Int)))).getD 0)).nd).brA,aH (cz (ic (aB x.L m) (eZ h (level:Int))) x141 (level:Int) (aB x.L ((Na (Pg (aB x.L m).c (eZ h (level:Int)))).getD 0)).nd)),((So (ic (aB x.L m) (eZ h (level:Int))) x141 (level:Int) (aB x.L ((Na (Pg (aB x.L m).c (eZ h (level:Int)))).getD 0)).nd).prA,dF [])]) (hA:=aAp) (hc:=λ w hs=>iD hg (n:=(So (ic (aB x.L m) (eZ h (level:Int))) x141 (level:Int) (aB x.L ((Na (Pg (aB x.L m).c (eZ h (level:Int)))).getD 0)).nd)) (xs:=(cz (ic (aB x.L m) (eZ h (level:Int))) x141 (level:Int) (aB x.L ((Na (Pg (aB x.L m).c (eZ h (level:Int)))).getD 0)).nd)) (ys:=[]) m _ (jr _ _ _) (j6 _ _ _) (Yr hB _ _ _) (Nat.zero_le _) (Xj hB _ _ (ok.nv ((Na (Pg (aB x.L m).c (eZ h (level:Int)))).getD 0)).hash) hm (by rw[<- aAv,<- aDr h48.2];exact g5) ok hs))) (hfire:=(λ _=>by(refine fV ?_;(repeat (first|exact aL.nil|refine aL.cons (by first|exact gD (hq:=aU (k:=2) (vs:=[.int .i64 k.t.root,.bool k.t.ro]) rf cY eD rfl rfl)|exact fA) ?_));done))) (h:=λ x166 h166=>?_);refine bI (i:=18) (hq:=(cM (hs:=xH k bx bm x166.2.1 dn rs) (os:=xW x166.2.1) (hc:=λ w hs=>uU hg k.t i m x166.1 _ ht (by have:=h166.len;omega) h166.bd h166.go h166.ok hs))) (h:=λ x167 h167=>?_))
     all_goals have hch:=Ch.nx h167 (Ch.nx h166 ((Ch.base (F:=[])).cons (f:=(x141.1,aH (nC (ic (aB x.L m) (eZ h (level:Int))))))));have hlc:x.cs.length<=x167.2.1.cs.length:=by have:=h166.lc;have:=h167.lc;omega
     all_goals (refine dB (i:=21) (hq:=(cV (hc:=λ w1 hw=>qQ _ _ _ _ w1))) (h:=λ x170=>?_);refine cZ (i:=22) (hq:=(bQ rf rfl)) (h:=?_);refine cZ (i:=23) (hq:=(bQ rf rfl)) (h:=?_);refine C1 ?_)
     all_goals refine aZ results226 (λ w hw=>?_);obtain⟨N,hN,hf⟩:=hch.to (t':=K (oS true (aB x.L b).nd.val) (if x167.1=true then 1 else 0)) h167 (h167.go) hlc (bN _);exact⟨(oS true (aB x.L b).nd.val,(if x167.1=true then 1 else 0),x167.2.1,N),rfl,hN,(hw.eY hf).v4⟩
theorem U1(hg:g.Ok)(i m:Int)(hh:h<18446744073709551616)(level:Nat)(hlv:level<=1073741824)(K:Rs->Int->Tr)(ht:k.t.root<=9223372036854775807)(hi:i<=x.L.length)(hm:m<=x.L.length)(hA:∀f∈aN x.L,f∈A)(go:gI g x (lA k i m h level K))(ok:x.Ok)(hs:SF w D (xH k bx bm x dn rs) A [] (xW x) w):Calls prog 226 #[.pointer (some ⟨bx,0,none⟩),.int .i64 i,.int .i64 m,.int .u64 (h:Int),.int .i64 (level:Int)] w (dk g x K bx bm k dn rs D w):=by
 by_cases hk:(aB x.L m).nd.kind=6;·exact Vi hg i m hh level hlv K ht hi hm hA hk go ok hs
 ·cases hl:iU (aB x.L m).c (eZ h (level:Int)) with
  | none=>exact Tt hg i m hh level hlv K ht hi hm hA hk hl go ok hs
  | some b=>
   by_cases hi2:(aB x.L b).nd.kind=2;·exact Uq hg i m hh level hlv K ht hi hm hA hk hl hi2 go ok hs
   ·by_cases he:(aB x.L b).nd.key=k.key;·exact Vc hg i m hh level hlv K ht hi hm hA hk hl hi2 he go ok hs
    ·exact Vp hg i m hh level hlv K ht hi hm hA hk hl hi2 he go ok hs
end
end
end Go.Proofs.YtbajmaoegmbfgaaGreat
namespace Go.Ct
open Go Go.RowKit
section
theorem uQ{a:Option Addr}{cs:List Value}:∀{F:Fr},(a,cs)∈F->Aw F a cs
 | [],h=>(List.not_mem_nil h).elim
 | f::F,h=>by
  rcases List.mem_cons.1 h with rfl|h;·exact .head
  ·exact .tail (uQ h)
end
end Go.Ct
namespace Go.Proofs.YtbajmaoegmbfgaaGreat
open Go Go.RowKit Go.Ct
section
theorem uq{t:dW}{path:List Int}{h:Nat}{K:Tr}{l:Nat}(hl:0<l):upT t path h K l=iM t (path.getD l 0) λ m=>.node m λ nm=>if nm.kind=5 then xU t (path.getD (l-1) 0) (path.getD l 0) h ((l-1:Nat):Int) λ _=>upT t path h K (l-1) else K:=by
 cases l with
 | zero=>omega
 | succ q=>rfl
section
variable{k:Cl}{bx bm:Nat}{x:XS}{dn:Bool}{rs:Rs}{D:List Nat}{A:Fr}{w:World}{g:Gx}
set_option maxRecDepth 100000 in
theorem aDM(hg:g.Ok){path:List Int}{pp:Option Addr}{pc:Nat}{h:Nat}(hh:h<18446744073709551616)(K:Tr)(ht:k.t.root<=9223372036854775807)(hp:∀v∈path,v<=x.L.length)(hp1:1<=path.length)(hp2:path.length<=2147483648)(hA:∀f∈aN x.L,f∈A)(hpA:(pp,aH path)∈A)(go:gI g x (upT k.t path h K (path.length-1)))(ok:x.Ok)(hs:SF w D (xH k bx bm x dn rs) A [] (xW x) w):Calls Tryz.prog 227 #[.pointer (some ⟨bx,0,none⟩),.slice pp path.length pc,.int .u64 (h:Int)] w λ e w'=>∃q:XS×List aQ,e=.returned (.tuple #[])/\Nx g x q.1 q.2 K 0/\SF w D (xH k bx bm q.1 dn rs) [] (aN q.2) (xW q.1) w':=by
 have hpd:∀j,path.getD j 0<=x.L.length:=λ j=>mU hp j;refine enter Tryz.func227 Tryz.ntmps227 rfl rfl (cJ hs) ?_;simp only[cC]
 refine J2 ?_;refine dV ?_;refine aC (jZ (m:=path.length) (n:=1) rf rf (by omega) (by omega)) rfl ?_;refine J1 ?_;refine cO ?_;refine mN [6,7,11,12,13,14,15,16,17,18,19,20,21,22,23,24,25,26,27,28,29,30,31,32,33,34,35,36,37,38,39,40,41,42,43,44,45,46,47,48,49,50,51,52,53,54,55,56,57,58,59,60,61,62] (λ y:Nat×XS×List aQ=>[(6,.int .i64 (y.1:Int))]) (λ y=>y.1<path.length/\Nx g x y.2.1 y.2.2 (upT k.t path h K y.1) 0) (λ y=>[(bx,xO k bm y.2.1 dn rs),(bm,xM y.2.1)]) (λ y=>aN y.2.2) (λ y=>xW y.2.1) (λ y=>y.1) ((path.length-1,x,[])) (⟨by show path.length-1<path.length;omega,Nx.start go ok⟩) (λ y f hx=>?_) (hw0:=λ w hw=>hw);refine K0a ?_;obtain⟨hyl,hy⟩:=hx;refine jS ?_;refine Eo ?_;refine aA ?_;(refine eE 13 (λ g13=>?_) (λ g13=>?_)<;>refine Ka0 ?_);all_goals (refine Kb7 ?_;refine J6 ?_;refine Kc2 ?_)
 all_goals
  refine bD (λ c19=>?_) (λ c19=>?_)
  ·try exact nv c19
   all_goals
    have hy1:0<y.1:=by omega
    have gx:=hy.go.to (λ _=>uq hy1);have hpy:=hpd y.1;have hpz:=hpd (y.1-1);have hlx:=hy.len
   all_goals (refine rT ?_;refine aT ?_;refine gH [0,1,2,3,4,5,6,7,8,9,10,11] ?_;refine aV ?_;refine J9 ?_;refine aY ?_;refine bU (i:=5) (hq:=(aU (k:=2) (vs:=[.int .i64 k.t.root,.bool k.t.ro]) rf cY eD rfl rfl)) (h:=?_);refine iW ?_;refine bU (i:=8) (hq:=(dR (lst:=path) (k:=y.1) rf rf gS fW (.bS (uQ hpA)) (by omega) (by omega))) (h:=?_);refine bU (i:=9) (hq:=(fI (lst:=path) (q:=y.1) rf fW (.bS (uQ hpA)) (by omega))) (h:=?_);refine bI (i:=10) (hq:=(cM (hs:=xH k bx bm y.2.1 dn rs) (os:=xW y.2.1) (hc:=λ w hs=>pS hg k.t (path.getD y.1 0) _ ht (by omega) gx hy.ok hs))) (h:=λ x32 h32=>?_);refine J7 ?_;refine aT ?_;refine mP ?_;refine aA ?_)
   all_goals ((refine eE 37 (λ g37=>?_) (λ g37=>?_)<;>refine Ka0 ?_))
   all_goals (refine Ka0 ?_;(first|refine aI ?_|(refine aF ?_;refine aD (cM (hs:=xH k bx bm x32.2.1 dn rs) (os:=xW x32.2.1) (hc:=λ w hs=>cQ x32.1 _ h32.bd h32.go h32.ok hs)) (λ x40 h40=>?_)));(first|refine aI ?_|(refine aF ?_;refine cP ?_));refine Q3 ?_;refine aG ?_)
   all_goals
    refine bD (λ c43=>?_) (λ c43=>?_);·all_goals refine aZ Tryz.results227 (λ w hw=>?_);exact⟨(x32.2.1,y.2.2++x32.2.2),rfl,(hy.trans h32).cR (by first|exact h32.go.bZ (by assumption)|exact h40.1.to (λ _=>if_neg (by assumption))) (bN _),(hw.eY nR).v4⟩
    ·try exact nv c43
     all_goals have g2:=h40.1.to (λ _=>if_pos (by assumption));have hch:=Ch.nx h32 hy.ch;have hl32:=h32.len
     all_goals (refine aW ?_;refine gH [0,1,2,3,4,5,6,7,8,9,10,11,12,13,14,15,16,17,18] ?_;refine aV ?_;refine J9 ?_;refine aY ?_;refine bU (i:=5) (hq:=(aU (k:=2) (vs:=[.int .i64 k.t.root,.bool k.t.ro]) rf cY eD rfl rfl)) (h:=?_);refine iW ?_;refine cZ (i:=8) (hq:=(jZ (m:=y.1) (n:=1) rf rf (by omega) (by omega))) (h:=?_);refine bU (i:=9) (hq:=(dR (lst:=path) (k:=y.1-1) rf rf gS fW (.bS (uQ hpA)) (by omega) (by omega))) (h:=?_);refine bU (i:=10) (hq:=(fI (lst:=path) (q:=y.1-1) rf fW (.bS (uQ hpA)) (by omega))) (h:=?_);refine iW ?_;refine bU (i:=13) (hq:=(dR (lst:=path) (k:=y.1) rf rf gS fW (.bS (uQ hpA)) (by omega) (by omega))) (h:=?_);refine bU (i:=14) (hq:=(fI (lst:=path) (q:=y.1) rf fW (.bS (uQ hpA)) (by omega))) (h:=?_);refine iW ?_;refine cZ (i:=17) (hq:=(jZ (m:=y.1) (n:=1) rf rf (by omega) (by omega))) (h:=?_);refine bI (i:=18) (hq:=(cM (hs:=xH k bx bm x32.2.1 dn rs) (os:=xW x32.2.1) (A0:=aN x32.2.1.L) (hA:=Ch.all hch hA) (hc:=λ w hs=>M1 hg k.t (path.getD (y.1-1) 0) (path.getD y.1 0) hh ((y.1-1:Nat):Int) _ ht (by omega) (by omega) (λ f hf=>hf) g2 h32.ok hs))) (h:=λ x62 h62=>?_);refine eN ?_;refine eV ?_;refine yG ?_;refine aC (jZ (m:=y.1) (n:=1) rf rf (by omega) (by omega)) rfl ?_;refine J1 ?_)
     all_goals refine iS ((y.1-1,x62.2.1,(y.2.2++x32.2.2)++x62.2.2)) ?_ (hw1:=λ w hw=>(hw.eY nB).v6);·exact⟨by show y.1-1<path.length;omega,((hy.trans h32).trans h62).cR h62.go (bN _)⟩
  ·all_goals refine bR rfl ?_
   all_goals refine Cp Tryz.results227 (λ w hw=>?_);exact⟨(y.2.1,y.2.2),rfl,hy.cR (by first|exact hy.go.bZ (by assumption)|(have e0:y.1=0:=by omega);(have g0:=hy.go);rw[e0] at g0;exact g0) (bN _),hw.v4⟩
end
end
end Go.Proofs.YtbajmaoegmbfgaaGreat
namespace Go.Ct
open Go Go.RowKit
section
theorem aBF{P:Program}{S:List (Nat×Value)}{G:World->Prop}{d:Nat}{ty t t':TypeId}{pos:String}{af:Array Edge}{gd:Option (Nat×Bool)}{x y:Operand}{l:Nat}(hx:ev S x=.int .i64 ((l:Int)-1))(hy:ev S y=.int .i64 0):aM P S G ⟨some d,.call {callee:=.builtin .max,args := #[x,y],argTypes := #[t,t']},ty,pos,af,gd⟩ (.int .i64 ((l-1:Nat):Int)):=⟨λ w _=>by
 have e:(if(0:Int)>(l:Int)-1 then 0 else(l:Int)-1)=((l-1:Nat):Int):=by split<;>omega
 simp[execOp,resolve,invoke,builtin,Builtin.max_,Builtin.max2,hx,hy,e]⟩
end
end Go.Ct
namespace Go.Proofs.YtbajmaoegmbfgaaGreat
open Go.Proofs.Tryz
open Go Go.RowKit Go.Ct
section
section
variable{k:Cl}{bx bm:Nat}{x:XS}{dn:Bool}{rs:Rs}{D:List Nat}{A:Fr}{w:World}{g:Gx}
set_option maxRecDepth 100000 in
set_option maxHeartbeats 2000000 in
theorem aCs(hg:g.Ok){m:Nat}(K:Rs->Tr)(n:Nat)(hn:n<=1073741824)(hm:m<18446744073709551616)(em:k.mask=(m:Int))(ek:k.key.size<=64)(ht:k.t.root<=9223372036854775807)(hA:∀f∈aN x.L,f∈A)(go:gI g x (sA k (jQ k.key m) K n))(ok:x.Ok)(hs:SF w D (xH k bx bm x dn rs) A [] (xW x) w):Calls prog 185 #[.pointer (some ⟨bx,0,none⟩)] w λ e w'=>∃q:Rs×XS×List aQ,e=.returned (.agg ⟨q.1.cells⟩)/\Nx g x q.2.1 q.2.2 (K q.1) 0/\SF w D (xH k bx bm q.2.1 dn rs) [] (aN q.2.2) (xW q.2.1) w':=by
 refine enter func185 ntmps185 rfl rfl (cJ hs) ?_;simp only[cC];refine J0 ?_;refine aJ (λ x2=>?_);refine Qa ?_;refine eR [3,4,12,13,14,15,16,17,18,19,20,21,22,23,24,25,26,27] (λ j:Nat=>[(3,.pointer (some ⟨j,0,none⟩)),(4,.int .u64 (((jQ k.key m):Nat):Int))]) (λ _=>True) (λ j=>[(j,.cells ⟨[.int .i64 k.t.root,.bool k.t.ro]⟩ 29 (0,0)),(x2,.cells ⟨Rs.zero.cells⟩ 64 (0,0)),(bx,xO k bm x dn rs),(bm,xM x)]) (λ _=>[]) (λ _=>xW x) (by decide) (λ _=>by exact rfl) ?_ (λ j f hx=>?_)
 ·refine K0i ?_;refine K0d ?_;refine gL (E:=[15,16]) (by decide +kernel) ((.cons ?_ (.cons ?_ .nil)));·refine Bd (i:=15) (hq:=(cV (hc:=λ w1 hw=>nZ em hm ek w1))) (hfire:=E0i) (h:=λ x27=>?_);refine iP (hfire:=E0a) (h:=λ x3=>?_);refine C1 ?_;refine fC (x3) ?_;·trivial
  ·refine iL (i:=16) (hfire:=E0a) (h:=λ x3=>?_);refine dB (i:=15) (hq:=(cV (hc:=λ w1 hw=>nZ em hm ek w1))) (hfire:=(λ _=>by(refine aL.cons (by exact gD (hq:=aU (k:=2) (vs:=[.int .i64 k.t.root,.bool k.t.ro]) rf cY eD rfl rfl)) ?_;exact aL.nil))) (h:=λ x27=>?_);refine C1 ?_;refine fC (x3) ?_;·trivial
 refine K0a ?_;refine Dj ?_;refine mN [5,6,7,8,9,10,11,28,29,30,31,32,33,34,35,36,37,38,39,40,41,42,43,44,45,46,47,48,49,50,51,52,53,54,55,56,57,58,59,60,61,62,63,64,65,66,67,68,69,70,71,72,73,74,75,76,77,78,79,80,81,82,83,84,85,86,87,88,89,90,91,92,93,94,95,96,97,98,99,100,101,102,103,104,105,106,107,108,109,110,111,112,113] (λ y:Nat×XS×List aQ=>[]) (λ y=>y.1<=n/\Nx g x y.2.1 y.2.2 (sA k (jQ k.key m) K y.1) 0) (λ y=>[(j,.cells ⟨[.int .i64 k.t.root,.bool k.t.ro]⟩ 29 (0,0)),(x2,.cells ⟨Rs.zero.cells⟩ 64 (0,0)),(bx,xO k bm y.2.1 dn rs),(bm,xM y.2.1)]) (λ y=>aN y.2.2) (λ y=>xW y.2.1) (λ y=>y.1) ((n,x,[])) (⟨Nat.le_refl n,Nx.start go ok |>.cR go (bN _)⟩) (λ y f hx=>?_) (hw0:=λ w hw=>hw);refine K0a ?_;obtain⟨hyn,hy⟩:=hx;refine K2i ?_;refine bD (λ c32=>?_) (λ c32=>?_)
 ·obtain⟨fu,hfu,gx⟩:=gI.kV (T:=λ q=>sA k (jQ k.key m) K q) hy.go (by simpa using c32) rfl hg;refine aW ?_;refine cO ?_;refine J2 ?_;refine bO ?_;refine aD (cM (hs:=xH k bx bm y.2.1 dn rs) (os:=xW y.2.1) (hc:=λ w hs=>D5 hg k.t _ ht gx hy.ok hs)) (λ x35 h35=>?_);refine zQ ?_;refine aD (cM (hs:=xH k bx bm x35.2.1 dn rs) (os:=xW x35.2.1) (hc:=λ w hs=>cQ x35.1 _ h35.bd h35.go h35.ok hs)) (λ x38 h38=>?_);refine cP ?_;refine Ka5 ?_;refine aP (Ul (c:=1) (sz:=1) rfl (λ _=>cW (cs:=aH [x35.1]) rG Kg rfl rfl rfl rfl rfl)) (λ x41=>?_);refine J1 ?_;refine Fq ?_;refine mN [5,7,8,9,10,11,42,43,44,45,46,47,48,49,50,51,52,53,54,55,56,57,58,59,60,61,62,63,64,65,66,67,68,69,70,71,72,73,74,75,76,77,78,79,80,81,82,83,84,85,86,87,88,89,90,91,92,93,94,95,96,97,98,99,100,101,102,103,104,105,106,107,108,109,110,111,112,113] (λ z:Nat×Int×List Int×XS×List aQ×Option Addr×Nat=>[(5,.int .i64 z.2.1),(7,.slice z.2.2.2.2.2.1 z.2.2.1.length z.2.2.2.2.2.2),(8,.int .i64 (((fu-z.1):Nat):Int))]) (λ z=>z.1<=fu/\Nx g x z.2.2.2.1 z.2.2.2.2.1 (xQ k (jQ k.key m) K (sA k (jQ k.key m) K fu) (aB x35.2.1.L x35.1).nd.gen z.1 z.2.1 z.2.2.1 (fu-z.1)) z.2.1/\(∀v∈z.2.2.1,v<=z.2.2.2.1.L.length)/\z.2.2.1.length=(fu-z.1)+1) (λ z=>[(j,.cells ⟨[.int .i64 k.t.root,.bool k.t.ro]⟩ 29 (0,0)),(x2,.cells ⟨Rs.zero.cells⟩ 64 (0,0)),(bx,xO k bm z.2.2.2.1 dn rs),(bm,xM z.2.2.2.1)]) (λ z=>aN z.2.2.2.2.1) (λ z=>List.cons ⟨z.2.2.2.2.2.1,aH z.2.2.1,z.2.2.2.2.2.2,37,1⟩ (xW z.2.2.2.1)) (λ z=>z.1) ((fu,x35.1,[x35.1],x35.2.1,y.2.2++x35.2.2,some ⟨x41,0,none⟩,1)) (⟨Nat.le_refl fu,(hy.trans h35).cR (show gI g x35.2.1 (xQ k (jQ k.key m) K (sA k (jQ k.key m) K fu) (aB x35.2.1.L x35.1).nd.gen fu x35.1 [x35.1] (fu-fu)) from(Nat.sub_self fu).symm▸h38.1) h35.bd,λ v hv=>by rw[List.mem_singleton.1 hv];exact h35.bd,by show 1=fu-fu+1;omega⟩) (λ z f hx=>?_) (hw0:=λ w hw=>(hw.eY nR).v6);refine K0a ?_;obtain⟨hzf,hz,hzp,hzl⟩:=hx;refine K2i ?_;refine bD (λ c46=>?_) (λ c46=>?_)
  ·obtain⟨fu2,hfu2,gz⟩:=gI.kV (T:=λ q=>(xQ k (jQ k.key m) K (sA k (jQ k.key m) K fu) (aB x35.2.1.L x35.1).nd.gen q z.2.1 z.2.2.1 (fu-z.1))) hz.go (by simpa using c46) rfl hg;have hpd:∀j,z.2.2.1.getD j 0<=z.2.2.2.1.L.length:=λ j=>mU hzp j;have hpl:=hpd ((fu-z.1)-1);refine rT ?_;refine J2 ?_;refine Kd0 ?_;refine aD (cM (hs:=xH k bx bm z.2.2.2.1 dn rs) (os:=xW z.2.2.2.1) (hc:=λ w hs=>pS hg k.t z.2.1 _ ht hz.bd gz hz.ok hs)) (λ x52 h52=>?_);have hl52:=h52.len;have hb52:=h52.bd;have hbz:=hz.bd;have hch:=Ch.nx h52 hz.ch;refine jG ?_;refine Kc9 ?_;refine bD (λ c56=>?_) (λ c56=>?_)
   ·refine Xz ?_;refine iS (by exact(fu,x52.2.1,(z.2.2.2.2.1++x52.2.2))) ?_ (hw1:=λ w hw=>by exact(hw.eY nR).v6)
    ·first
     | exact⟨by show fu<=n;omega,(((hz.trans h52).trans h81).trans h107).cR g4 (bN _)⟩
     | exact⟨by show fu<=n;omega,((hz.trans h52).trans h81).cR g3 (bN _)⟩
     | exact⟨by show fu<=n;omega,((hz.trans h52).trans h81).cR (h81.go.bZ (by assumption)) (bN _)⟩
     | exact⟨by show fu<=n;omega,((hz.trans h52).trans h74).cR h74.go (bN _)⟩
     | exact⟨by show fu<=n;omega,(hz.trans h52).cR (h52.go.bZ (by assumption)) (bN _)⟩
     | exact⟨by show fu<=n;omega,hz.cR (hz.go.bZ (by simpa using c46)) (bN _)⟩
   ·refine lB ?_;refine jD ?_;refine aD (cM (hs:=xH k bx bm x52.2.1 dn rs) (os:=xW x52.2.1) (hc:=λ w hs=>cQ x52.1 _ h52.bd h52.go h52.ok hs)) (λ x59 h59=>?_);refine cP ?_;refine tG ?_;refine bD (λ c61=>?_) (λ c61=>?_)
    ·have g1:=h59.1.to (λ _=>if_pos c61);refine aT ?_;refine eI [(0,[]),(1,[]),(2,[]),(3,[]),(4,[]),(8,[]),(9,[]),(10,[]),(11,[]),(5,[1]),(6,[]),(7,[]),(12,[])] ?_;refine aV ?_;refine Kb4 ?_;refine Qy ?_;refine iW ?_;refine aV ?_;refine Qy ?_;((refine dB (i:=5) (hq:=(fD (aBF (l:=(fu-z.1)) rf rf))) (h:=λ x67=>?_)));refine bU (i:=6) (hq:=(dR (lst:=z.2.2.1) (k:=(fu-z.1)-1) rf rf gS fW (.own .head) (by omega) (by omega))) (h:=?_);refine bU (i:=7) (hq:=(fI (lst:=z.2.2.1) (q:=(fu-z.1)-1) rf fW (.own .head) (by omega))) (h:=?_);refine bI (i:=12) (hq:=(cM (hs:=xH k bx bm x52.2.1 dn rs) (os:=xW x52.2.1) (A0:=aN x52.2.1.L) (hA:=Ch.all hch hA) (hc:=λ w hs=>M1 hg k.t (z.2.2.1.getD ((fu-z.1)-1) 0) z.2.1 (pQ k.key m) ((((fu-z.1):Nat):Int)-1) _ ht (by omega) (by omega) (λ f hf=>hf) g1 h52.ok hs))) (h:=λ x74 h74=>?_);refine eN ?_;refine Xz ?_;refine iS (by exact(fu,x74.2.1,((z.2.2.2.2.1++x52.2.2)++x74.2.2))) ?_ (hw1:=E0z)
     ·first
      | exact⟨by show fu<=n;omega,(((hz.trans h52).trans h81).trans h107).cR g4 (bN _)⟩
      | exact⟨by show fu<=n;omega,((hz.trans h52).trans h81).cR g3 (bN _)⟩
      | exact⟨by show fu<=n;omega,((hz.trans h52).trans h81).cR (h81.go.bZ (by assumption)) (bN _)⟩
      | exact⟨by show fu<=n;omega,((hz.trans h52).trans h74).cR h74.go (bN _)⟩
      | exact⟨by show fu<=n;omega,(hz.trans h52).cR (h52.go.bZ (by assumption)) (bN _)⟩
      | exact⟨by show fu<=n;omega,hz.cR (hz.go.bZ (by simpa using c46)) (bN _)⟩
    ·have g1:=h59.1.to (λ _=>if_neg c61);refine Bo ?_;refine qX ?_;refine aA ?_;refine aD (cM (hs:=xH k bx bm x52.2.1 dn rs) (os:=xW x52.2.1) (A0:=aN x52.2.1.L) (hA:=Ch.all hch hA) (hc:=λ w hs=>U1 hg z.2.1 x52.1 (pQ k.key m) (fu-z.1) (by omega) _ ht (by omega) (by omega) (λ f hf=>hf) g1 h52.ok hs)) (λ x81 h81=>?_);have hl81:=h81.len;have hch2:=Ch.nx h81 hch;refine K0c ?_;refine aJ (λ x10=>?_);refine lW (λ _=>?_);refine jG ?_;refine Kc9 ?_;refine bD (λ c87=>?_) (λ c87=>?_)
     ·refine Xz ?_;refine iS (by exact(fu,x81.2.2.1,((z.2.2.2.2.1++x52.2.2)++x81.2.2.2))) ?_ (hw1:=E0z)
      ·first
       | exact⟨by show fu<=n;omega,(((hz.trans h52).trans h81).trans h107).cR g4 (bN _)⟩
       | exact⟨by show fu<=n;omega,((hz.trans h52).trans h81).cR g3 (bN _)⟩
       | exact⟨by show fu<=n;omega,((hz.trans h52).trans h81).cR (h81.go.bZ (by assumption)) (bN _)⟩
       | exact⟨by show fu<=n;omega,((hz.trans h52).trans h74).cR h74.go (bN _)⟩
       | exact⟨by show fu<=n;omega,(hz.trans h52).cR (h52.go.bZ (by assumption)) (bN _)⟩
       | exact⟨by show fu<=n;omega,hz.cR (hz.go.bZ (by simpa using c46)) (bN _)⟩
     ·refine lB ?_;refine J2 ?_;refine tG ?_;refine bD (λ c89=>?_) (λ c89=>?_)
      ·have g2:=h81.go.to (λ _=>if_pos (by assumption));refine Kd1 ?_;refine bD (λ c92=>?_) (λ c92=>?_)
       ·have g3:=g2.to (λ _=>if_pos (by assumption));refine yG ?_;refine qX ?_;refine aD (cM (hs:=xH k bx bm x81.2.2.1 dn rs) (os:=xW x81.2.2.1) (A0:=(List.cons (z.2.2.2.2.2.1,aH z.2.2.1) (aN x81.2.2.1.L))) (hA:=bH.cons (.inr (.inr (.inr ⟨_,.head _,rfl,rfl⟩))) (Ch.all hch2 hA)) (hc:=λ w hs=>aDM hg (path:=z.2.2.1) (pQ k.key m) _ ht (λ v hv=>by have:=hzp v hv;omega) (by omega) (by omega) (λ f hf=>List.mem_cons_of_mem _ hf) (List.mem_cons_self ..) g3 h81.ok hs)) (λ x96 h96=>?_);refine aG ?_;refine Ka9 ?_;refine aZ results185 (λ w hw=>?_);first
        | exact⟨(x81.1,x96.1,(((z.2.2.2.2.1++x52.2.2)++x81.2.2.2)++x96.2)),rfl,(((hz.trans h52).trans h81).trans h96).cR h96.go (bN _),(hw.eY xK).v4⟩
        | exact⟨(x81.1,x81.2.2.1,((z.2.2.2.2.1++x52.2.2)++x81.2.2.2)),rfl,((hz.trans h52).trans h81).cR g3 (bN _),(hw.eY nB).v4⟩
       ·have g3:=g2.to (λ _=>if_neg (by assumption));refine aW ?_;refine Ka9 ?_;refine aZ results185 (λ w hw=>?_);first
        | exact⟨(x81.1,x81.2.2.1,((z.2.2.2.2.1++x52.2.2)++x81.2.2.2)),rfl,((hz.trans h52).trans h81).cR g3 (bN _),(hw.eY nB).v4⟩
        | exact⟨(Rs.zero,y.2.1,y.2.2),rfl,hy.cR (hy.go.bZ (by simpa using c32)) (bN _),hw.v4⟩
      ·have g2:=h81.go.to (λ _=>if_neg (by assumption));refine lB ?_;refine J2 ?_;refine tG ?_;refine bD (λ c99=>?_) (λ c99=>?_)
       ·have g3:=g2.to (λ _=>if_pos (by assumption));refine Xz ?_;refine iS (by exact(fu,x81.2.2.1,((z.2.2.2.2.1++x52.2.2)++x81.2.2.2))) ?_ (hw1:=E0z)
        ·first
         | exact⟨by show fu<=n;omega,(((hz.trans h52).trans h81).trans h107).cR g4 (bN _)⟩
         | exact⟨by show fu<=n;omega,((hz.trans h52).trans h81).cR g3 (bN _)⟩
         | exact⟨by show fu<=n;omega,((hz.trans h52).trans h81).cR (h81.go.bZ (by assumption)) (bN _)⟩
         | exact⟨by show fu<=n;omega,((hz.trans h52).trans h74).cR h74.go (bN _)⟩
         | exact⟨by show fu<=n;omega,(hz.trans h52).cR (h52.go.bZ (by assumption)) (bN _)⟩
         | exact⟨by show fu<=n;omega,hz.cR (hz.go.bZ (by simpa using c46)) (bN _)⟩
       ·have g3:=g2.to (λ _=>if_neg (by assumption));refine lB ?_;refine jD ?_;refine qX ?_;refine aA ?_;refine aP (cV (hc:=λ w1 hw=>fN (pQ k.key m) (((fu-z.1):Nat):Int) w1)) (λ x105=>?_);refine aA ?_;refine aD (cM (hs:=xH k bx bm x81.2.2.1 dn rs) (os:=xW x81.2.2.1) (A0:=aN x81.2.2.1.L) (hA:=Ch.all hch2 hA) (hc:=λ w hs=>W4 hg z.2.1 x52.1 (eZ (jQ k.key m) (((fu-z.1):Nat):Int)) (aB x35.2.1.L x35.1).nd.gen _ ht (by omega) (by omega) (λ f hf=>hf) g3 h81.ok hs)) (λ x107 h107=>?_);refine Ka5 ?_;refine tG ?_;refine bD (λ c109=>?_) (λ c109=>?_)
        ·have g4:=h107.go.to (λ _=>if_pos (by assumption));refine Xz ?_;refine iS (by exact(fu,x107.2.1,(((z.2.2.2.2.1++x52.2.2)++x81.2.2.2)++x107.2.2))) ?_ (hw1:=λ w hw=>by exact(hw.eY xK).v6)
         ·first
          | exact⟨by show fu<=n;omega,(((hz.trans h52).trans h81).trans h107).cR g4 (bN _)⟩
          | exact⟨by show fu<=n;omega,((hz.trans h52).trans h81).cR g3 (bN _)⟩
          | exact⟨by show fu<=n;omega,((hz.trans h52).trans h81).cR (h81.go.bZ (by assumption)) (bN _)⟩
          | exact⟨by show fu<=n;omega,((hz.trans h52).trans h74).cR h74.go (bN _)⟩
          | exact⟨by show fu<=n;omega,(hz.trans h52).cR (h52.go.bZ (by assumption)) (bN _)⟩
          | exact⟨by show fu<=n;omega,hz.cR (hz.go.bZ (by simpa using c46)) (bN _)⟩
        ·have g4:=h107.go.to (λ _=>if_neg (by assumption));refine aW ?_;refine Km ?_;refine aP (Ul (c:=1) (sz:=1) rfl (λ _=>cW (cs:=aH [x107.1]) rG Kg rfl rfl rfl rfl rfl)) (λ x112=>?_);(refine fF (λ x113=>?_);try (refine eP (λ h113=>?_)));refine J1 ?_;refine Kb6 ?_;refine iS ((z.1-1,x107.1,z.2.2.1++[x107.1],x107.2.1,(((z.2.2.2.2.1++x52.2.2)++x81.2.2.2)++x107.2.2),x113.1,x113.2)) ?_ (hw1:=λ w hw=>(hw.eY xK).v6)
         ·have e1:z.1-1=fu2:=by omega
          have e2:(fu-z.1)+1=fu-fu2:=by omega
          refine⟨by show z.1-1<=fu;omega,((((hz.trans h52).trans h81).trans h107)).cR ?_ h107.bd,λ v hv=>?_,by show(z.2.2.1++[x107.1]).length=fu-(z.1-1)+1;rw[List.length_append,List.length_singleton];omega⟩;·show gI g x107.2.1 (xQ k (jQ k.key m) K (sA k (jQ k.key m) K fu) (aB x35.2.1.L x35.1).nd.gen (z.1-1) x107.1 (z.2.2.1++[x107.1]) (fu-(z.1-1)));rw[e1,<- e2];exact g4
          ·show v<=(x107.2.1.L.length:Int);have hl107:=h107.len;rcases List.mem_append.1 hv with hv|hv
           ·have:=hzp v hv;omega
           ·rw[List.mem_singleton.1 hv];exact h107.bd
  ·refine Xz ?_;refine iS (by exact(fu,z.2.2.2.1,z.2.2.2.2.1)) ?_ (hw1:=λ w hw=>by exact hw.v6)
   ·first
    | exact⟨by show fu<=n;omega,(((hz.trans h52).trans h81).trans h107).cR g4 (bN _)⟩
    | exact⟨by show fu<=n;omega,((hz.trans h52).trans h81).cR g3 (bN _)⟩
    | exact⟨by show fu<=n;omega,((hz.trans h52).trans h81).cR (h81.go.bZ (by assumption)) (bN _)⟩
    | exact⟨by show fu<=n;omega,((hz.trans h52).trans h74).cR h74.go (bN _)⟩
    | exact⟨by show fu<=n;omega,(hz.trans h52).cR (h52.go.bZ (by assumption)) (bN _)⟩
    | exact⟨by show fu<=n;omega,hz.cR (hz.go.bZ (by simpa using c46)) (bN _)⟩
 ·refine K1t ?_;refine Kc0 ?_;refine aZ results185 (λ w hw=>?_);exact⟨(Rs.zero,y.2.1,y.2.2),rfl,hy.cR (hy.go.bZ (by simpa using c32)) (bN _),hw.v4⟩
end
end
end Go.Proofs.YtbajmaoegmbfgaaGreat
namespace Go.Ct
open Go Go.RowKit
section
theorem da{n c:Nat}:mX n c {(({Nd.zero with kind:=3}:Nd).c [] []) with main:=0,prev:=0,status:=0}:=⟨bN _,bN _,bN _,(λ r hr=>nomatch hr),bN _,bN _,bN _,⟨0,rfl,by decide⟩,⟨0,rfl,by decide⟩⟩
theorem Sb{a b c d e:List aQ}:∀f∈aN ((((a++b)++c)++d)++e),f.2=[]∨f∈aN e++(aN d++(aN c++(aN b++aN a))):=λ f hf=>by
 simp only[cX,List.mem_append] at hf ⊢;rcases hf with(((h|h)|h)|h)|h;·exact .inr (.inr (.inr (.inr (.inr h))))
 ·exact .inr (.inr (.inr (.inr (.inl h))))
 ·exact .inr (.inr (.inr (.inl h)))
 ·exact .inr (.inr (.inl h))
 ·exact .inr (.inl h)
theorem Gf{a b c d e i:List aQ}:∀f∈aN (((((a++b)++c)++d)++e)++i),f.2=[]∨f∈aN i++(aN e++(aN d++(aN c++(aN b++aN a)))):=λ f hf=>by
 simp only[cX,List.mem_append] at hf ⊢;rcases hf with((((h|h)|h)|h)|h)|h;·exact .inr (.inr (.inr (.inr (.inr (.inr h)))))
 ·exact .inr (.inr (.inr (.inr (.inr (.inl h)))))
 ·exact .inr (.inr (.inr (.inr (.inl h))))
 ·exact .inr (.inr (.inr (.inl h)))
 ·exact .inr (.inr (.inl h))
 ·exact .inr (.inl h)
theorem Nx.nil{g:Gx}{x x1 x2:XS}{N:List aQ}{t1 t2:Tr}{b1 b2:Int}(h1:Nx g x x1 N t1 b1)(h2:Nx g x1 x2 [] t2 b2):Nx g x x2 N t2 b2:=⟨h2.go,h2.ok,by rw[h2.ext,h1.ext,List.append_nil],Nat.le_trans h1.lc h2.lc,h2.bd⟩
end
end Go.Ct
namespace Go.Proofs.YtbajmaoegmbfgaaGreat
open Go.Proofs.Tryz
open Go Go.RowKit Go.Ct
section
section
variable{k:Cl}{bx bm:Nat}{x:XS}{dn:Bool}{rs:Rs}{D:List Nat}{A:Fr}{w:World}{g:Gx}
theorem Qh(hg:g.Ok)(m:Int)(K:Rs->Tr)(hm:m<=x.L.length)(go:gI g x (L8 m K))(ok:x.Ok)(hs:SF w D (xH k bx bm x dn rs) A [] (xW x) w):Calls prog 229 #[.pointer (some ⟨bx,0,none⟩),.int .i64 m] w λ e w'=>∃q:Rs×XS×List aQ,e=.returned (.agg ⟨q.1.cells⟩)/\Nx g x q.2.1 q.2.2 (K q.1) 0/\SF w D (xH k bx bm q.2.1 dn rs) [] (aN q.2.2) (xW q.2.1) w':=by refine enter func229 ntmps229 rfl rfl (cJ hs) ?_;simp only[cC];refine K0t ?_;intro x4;refine J2 ?_;refine aD (cM (hs:=xH k bx bm x dn rs) (os:=xW x) (hc:=λ w hs=>r8 hg _ go ok hs)) (λ x7 h7=>?_);refine zQ ?_;refine aA ?_;refine bM ?_;refine aA ?_;refine aD (cM (hs:=xH k bx bm x7.2 dn rs) (os:=xW x7.2) (A0:=[(none,aH []),(none,dF [])]) (hc:=λ w hs=>iD hg (n:={Nd.zero with kind:=2,gen:=x7.1}) (xs:=[]) (ys:=[]) m _ rfl rfl (by decide) (Nat.zero_le _) tP (by have:=h7.len;omega) h7.go h7.ok hs)) (λ x13 h13=>?_);refine aD (cM (hs:=xH k bx bm x13.2.1 dn rs) (os:=xW x13.2.1) (hc:=λ w hs=>Uh hg x13.1 _ h13.bd h13.go h13.ok hs)) (λ x14 h14=>?_);refine bM ?_;refine wU ?_;refine aZ results229 (λ w hw=>?_);exact⟨(Ki x14.1 false,x14.2,x13.2.2),rfl,⟨h14.go,h14.ok,by rw[h14.ext,h13.ext,h7.ext,List.append_nil,List.append_nil],Nat.le_trans h7.lc (Nat.le_trans h13.lc h14.lc),bN _⟩,by rw[List.append_nil] at hw;exact hw.v4⟩
set_option maxRecDepth 100000 in
theorem Gs(hg:g.Ok)(fz:Bool)(K:Rs->Tr)(n:Nat)(ht:k.t.root<=9223372036854775807)(go:gI g x (uP k.t fz K n))(ok:x.Ok)(hs:SF w D (xH k bx bm x dn rs) A [] (xW x) w):Calls prog 186 #[.pointer (some ⟨bx,0,none⟩),.bool fz] w λ e w'=>∃q:Rs×XS×List aQ,e=.returned (.agg ⟨q.1.cells⟩)/\Nx g x q.2.1 q.2.2 (K q.1) 0/\SF w D (xH k bx bm q.2.1 dn rs) [] (aN q.2.2) (xW q.2.1) w':=by
 refine enter func186 ntmps186 rfl rfl (cJ hs) ?_;simp only[cC];refine K0t ?_;intro x4;refine Jw ?_;refine K0o ?_;refine aJ (λ x5=>?_);refine J5 ?_;refine Cm ?_;refine aG ?_;refine bD (λ c16=>?_) (λ c16=>?_)
 ·have g1:=go.to (λ _=>if_pos c16);refine J2 ?_;refine J3 ?_;refine aD (cM (hs:=xH k bx bm x dn rs) (os:=xW x) (hc:=λ w hs=>rD hg k.t.root _ ht g1 ok hs)) (λ x20 h20=>?_);refine Kd9 ?_;refine aG ?_;refine bD (λ c21=>?_) (λ c21=>?_)
  ·have g2:=h20.go.to (λ _=>if_pos c21);refine jD ?_;refine aD (cM (hs:=xH k bx bm x20.2 dn rs) (os:=xW x20.2) (hc:=λ w hs=>Uh hg x20.1 _ h20.bd g2 h20.ok hs)) (λ x24 h24=>?_);refine bM ?_;refine wU ?_;refine aZ results186 (λ w hw=>?_);exact⟨(Ki x24.1 true,x24.2,[]),rfl,(h20.nil h24).cR h24.go (bN _),hw.bB (hF:=by exact bA.nil)⟩
  ·have g2:=h20.go.to (λ _=>if_neg (by rw[c21];decide));refine Bo ?_;refine Kd0 ?_;refine aD (cM (hs:=xH k bx bm x20.2 dn rs) (os:=xW x20.2) (hc:=λ w hs=>pS hg k.t x20.1 _ ht h20.bd g2 h20.ok hs)) (λ x31 h31=>?_);refine aD (cM (hs:=xH k bx bm x31.2.1 dn rs) (os:=xW x31.2.1) (hc:=λ w hs=>Qh hg x31.1 _ h31.bd h31.go h31.ok hs)) (λ x32 h32=>?_);refine J5 ?_;refine aZ results186 (λ w hw=>?_);exact⟨(x32.1,x32.2.1,x31.2.2++x32.2.2),rfl,(h20.trans h31).trans h32,by rw[List.append_nil] at hw;exact(hw.eY nR).v4⟩
 ·have g1:=go.to (λ _=>if_neg (by rw[c16];decide));refine rT ?_;refine mN [7,8,9,33,34,35,36,37,38,39,40,41,42,43,44,45,46,47,48,49,50,51,52,53,54,55,56,57,58,59,60,61,62,63,64,65,66] (λ y:Nat×XS×List aQ=>[]) (λ y=>Nx g x y.2.1 y.2.2 (Jf k.t fz K y.1) 0) (λ y=>[(x5,.cells ⟨[.int .i64 k.t.root,.bool k.t.ro]⟩ 29 (0,0)),(x4,.cells ⟨Rs.zero.cells⟩ 64 (0,0)),(bx,xO k bm y.2.1 dn rs),(bm,xM y.2.1)]) (λ y=>aN y.2.2) (λ y=>xW y.2.1) (λ y=>y.1) ((n,x,[])) (Nx.start g1 ok) (λ y f hx=>?_) (hw0:=λ w hw=>hw);refine K0a ?_;refine K2i ?_;refine bD (λ c37=>?_) (λ c37=>?_)
  ·obtain⟨fu,hfu,gx⟩:=gI.kV (T:=λ q=>Jf k.t fz K q) hx.go (by simpa using c37) rfl hg;refine aW ?_;refine cO ?_;refine J2 ?_;refine bO ?_;refine aD (cM (hs:=xH k bx bm y.2.1 dn rs) (os:=xW y.2.1) (hc:=λ w hs=>D5 hg k.t _ ht gx hx.ok hs)) (λ x40 h40=>?_);refine Ka5 ?_;refine Kd0 ?_;refine aD (cM (hs:=xH k bx bm x40.2.1 dn rs) (os:=xW x40.2.1) (hc:=λ w hs=>pS hg k.t x40.1 _ ht h40.bd h40.go h40.ok hs)) (λ x44 h44=>?_);refine Ka5 ?_;refine aD (cM (hs:=xH k bx bm x44.2.1 dn rs) (os:=xW x44.2.1) (hc:=λ w hs=>r8 hg _ h44.go h44.ok hs)) (λ x46 h46=>?_);have hl44:=h44.len;have hl46:=h46.len;have hb40:=h40.bd;have hb44:=h44.bd;refine jG ?_;refine aT ?_;refine eI [(0,[]),(1,[]),(2,[]),(3,[]),(4,[]),(5,[]),(6,[]),(7,[]),(8,[1]),(9,[]),(10,[])] ?_;refine aV ?_;refine Kb4 ?_;refine iW ?_;refine gM ?_;refine aV ?_;refine bI (i:=8) (hq:=(cM (hs:=xH k bx bm x46.2 dn rs) (os:=xW x46.2) (A0:=[(none,aH []),(none,dF [])]) (hc:=λ w hs=>iD hg (n:={Nd.zero with kind:=2,gen:=x46.1}) (xs:=[]) (ys:=[]) x44.1 _ rfl rfl (by decide) (Nat.zero_le _) tP (by omega) h46.go h46.ok hs))) (h:=λ x55 h55=>?_);refine bI (i:=9) (hq:=(cM (hs:=xH k bx bm x55.2.1 dn rs) (os:=xW x55.2.1) (hc:=λ w hs=>Mk hg k.t x40.1 x44.1 x55.1 _ ht (by have:=h55.len;omega) (by have:=h55.len;omega) h55.bd h55.go h55.ok hs))) (h:=λ x56 h56=>?_);have hl55:=h55.len;have hl56:=h56.len;have hall:=((((hx.trans h40).trans h44).nil h46).trans h55).trans h56;refine Yc ?_;refine eN ?_;refine bD (λ c57=>?_) (λ c57=>?_)
   ·have g3:=h56.go.to (λ _=>if_neg (by simpa using c57));refine K1t ?_;refine iS ((fu,x56.2.1,(((y.2.2++x40.2.2)++x44.2.2)++x55.2.2)++x56.2.2)) ?_ (hw1:=λ w hw=>(hw.eY Sb).v6)
    ·exact hall.cR g3 (bN _)
   ·have g3:=h56.go.to (λ _=>if_pos (by simpa using c57));refine lB ?_;refine J2 ?_;refine aG ?_;refine bD (λ c58=>?_) (λ c58=>?_)
    ·have g4:=g3.to (λ _=>if_pos c58);refine jD ?_;refine aD (cM (hs:=xH k bx bm x56.2.1 dn rs) (os:=xW x56.2.1) (hc:=λ w hs=>Uh hg x40.1 _ (by omega) g4 h56.ok hs)) (λ x61 h61=>?_);refine bM ?_;refine wU ?_;refine aZ results186 (λ w hw=>?_);exact⟨(Ki x61.1 true,x61.2,(((y.2.2++x40.2.2)++x44.2.2)++x55.2.2)++x56.2.2),rfl,(hall.nil h61).cR h61.go (bN _),(hw.eY Sb).v4⟩
    ·have g4:=g3.to (λ _=>if_neg (by rw[c58];decide));refine Bo ?_;refine aD (cM (hs:=xH k bx bm x56.2.1 dn rs) (os:=xW x56.2.1) (hc:=λ w hs=>Qh hg x44.1 _ (by omega) g4 h56.ok hs)) (λ x66 h66=>?_);refine J5 ?_;refine aZ results186 (λ w hw=>?_);exact⟨(x66.1,x66.2.1,((((y.2.2++x40.2.2)++x44.2.2)++x55.2.2)++x56.2.2)++x66.2.2),rfl,hall.trans h66,(hw.eY Gf).v4⟩
  ·refine K1t ?_;refine Kc0 ?_;refine aZ results186 (λ w hw=>?_);exact⟨(Rs.zero,y.2.1,y.2.2),rfl,hx.cR (hx.go.bZ (by simpa using c37)) (bN _),hw.v4⟩
set_option maxRecDepth 100000 in
theorem Wc(hg:g.Ok)(K:Rs->Tr)(n:Nat)(ht:k.t.root<=9223372036854775807)(go:gI g x (wT k.t K n))(ok:x.Ok)(hs:SF w D (xH k bx bm x dn rs) A [] (xW x) w):Calls prog 187 #[.pointer (some ⟨bx,0,none⟩)] w λ e w'=>∃q:Rs×XS×List aQ,e=.returned (.agg ⟨q.1.cells⟩)/\Nx g x q.2.1 q.2.2 (K q.1) 0/\SF w D (xH k bx bm q.2.1 dn rs) [] (aN q.2.2) (xW q.2.1) w':=by
 refine enter func187 ntmps187 rfl rfl (cJ hs) ?_;simp only[cC];refine J0 ?_;refine aJ (λ x2=>?_);refine aG ?_;refine Jw ?_;refine K0o ?_;refine aJ (λ x3=>?_);refine J5 ?_;refine Dj ?_;refine mN [4,5,6,7,13,14,15,16,17,18,19,20,21,22,23,24,25,26,27,28,29,30,31,32,33,34,35,36,37,38,39,40] (λ y:Nat×XS×List aQ=>[]) (λ y=>Nx g x y.2.1 y.2.2 (wT k.t K y.1) 0) (λ y=>[(x3,.cells ⟨[.int .i64 k.t.root,.bool k.t.ro]⟩ 29 (0,0)),(x2,.cells ⟨Rs.zero.cells⟩ 64 (0,0)),(bx,xO k bm y.2.1 dn rs),(bm,xM y.2.1)]) (λ y=>aN y.2.2) (λ y=>xW y.2.1) (λ y=>y.1) ((n,x,[])) (Nx.start go ok) (λ y f hx=>?_) (hw0:=λ w hw=>hw);refine K0a ?_;refine K2i ?_;refine bD (λ c17=>?_) (λ c17=>?_)
 ·obtain⟨fu,hfu,gx⟩:=gI.kV (T:=λ q=>wT k.t K q) hx.go (by simpa using c17) rfl hg;refine aW ?_;refine cO ?_;refine J2 ?_;refine bO ?_;refine aD (cM (hs:=xH k bx bm y.2.1 dn rs) (os:=xW y.2.1) (hc:=λ w hs=>D5 hg k.t _ ht gx hx.ok hs)) (λ x20 h20=>?_);refine Ka5 ?_;refine Kd0 ?_;refine aD (cM (hs:=xH k bx bm x20.2.1 dn rs) (os:=xW x20.2.1) (hc:=λ w hs=>pS hg k.t x20.1 _ ht h20.bd h20.go h20.ok hs)) (λ x24 h24=>?_);refine Ka5 ?_;refine bM ?_;refine aD (cM (hs:=xH k bx bm x24.2.1 dn rs) (os:=xW x24.2.1) (A0:=[(none,aH []),(none,dF [])]) (hc:=λ w hs=>iD hg (n:={Nd.zero with kind:=3}) (xs:=[]) (ys:=[]) 0 _ rfl rfl (by decide) (Nat.zero_le _) da (bN _) h24.go h24.ok hs)) (λ x27 h27=>?_);refine Ka5 ?_;refine aD (cM (hs:=xH k bx bm x27.2.1 dn rs) (os:=xW x27.2.1) (hc:=λ w hs=>r8 hg _ h27.go h27.ok hs)) (λ x29 h29=>?_);have hl24:=h24.len;have hl27:=h27.len;have hl29:=h29.len;have hb20:=h20.bd;have hb24:=h24.bd;have hb27:=h27.bd;refine jG ?_;refine eI [(0,[]),(1,[]),(2,[]),(3,[]),(4,[]),(5,[]),(6,[]),(7,[]),(8,[1]),(9,[])] ?_;refine aV ?_;refine Kb4 ?_;refine iW ?_;refine gM ?_;refine aV ?_;refine bI (i:=8) (hq:=(cM (hs:=xH k bx bm x29.2 dn rs) (os:=xW x29.2) (A0:=[(none,aH []),(none,dF [])]) (hc:=λ w hs=>iD hg (n:={Nd.zero with kind:=2,gen:=x29.1}) (xs:=[]) (ys:=[]) x27.1 _ rfl rfl (by decide) (Nat.zero_le _) tP (by omega) h29.go h29.ok hs))) (h:=λ x38 h38=>?_);refine bI (i:=9) (hq:=(cM (hs:=xH k bx bm x38.2.1 dn rs) (os:=xW x38.2.1) (hc:=λ w hs=>Mk hg k.t x20.1 x24.1 x38.1 _ ht (by have:=h38.len;omega) (by have:=h38.len;omega) h38.bd h38.go h38.ok hs))) (h:=λ x39 h39=>?_);have hall:=((((hx.trans h20).trans h24).trans h27).nil h29).trans h38 |>.trans h39;refine eN ?_;refine bD (λ c39=>?_) (λ c39=>?_)
  ·have g3:=h39.go.to (λ _=>if_pos c39);refine Kc0 ?_;refine aZ results187 (λ w hw=>?_);exact⟨(dM true 0,x39.2.1,((((y.2.2++x20.2.2)++x24.2.2)++x27.2.2)++x38.2.2)++x39.2.2),rfl,hall.cR g3 (bN _),(hw.eY Gf).v4⟩
  ·have g3:=h39.go.to (λ _=>if_neg (by rw[c39];decide));refine pE ?_;refine iS ((fu,x39.2.1,((((y.2.2++x20.2.2)++x24.2.2)++x27.2.2)++x38.2.2)++x39.2.2)) ?_ (hw1:=λ w hw=>(hw.eY Gf).v6)
   ·exact hall.cR g3 (bN _)
 ·refine K1t ?_;refine Kc0 ?_;refine aZ results187 (λ w hw=>?_);exact⟨(Rs.zero,y.2.1,y.2.2),rfl,hx.cR (hx.go.bZ (by simpa using c17)) (bN _),hw.v4⟩
end
end
end Go.Proofs.YtbajmaoegmbfgaaGreat

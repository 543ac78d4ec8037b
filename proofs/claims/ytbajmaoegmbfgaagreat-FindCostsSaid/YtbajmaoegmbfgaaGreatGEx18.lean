/- Merged. -/
import Derived.Test.YtbajmaoegmbfgaaGreatGEx14
import Derived.Test.YtbajmaoegmbfgaaGreatAuto
set_option linter.unusedSimpArgs false
set_option linter.unusedVariables false
namespace Go.Ct
open Go Go.RowKit
section
theorem mP{a b c:List aR}:∀f∈aP ((a++b)++c),f.2=[]∨f∈aP c++(aP b++aP a):=λ f hf=>by
 simp only[cU,List.mem_append] at hf ⊢;rcases hf with(h|h)|h;·exact .inr (.inr (.inr h))
 ·exact .inr (.inr (.inl h))
 ·exact .inr (.inl h)
theorem wP{a b c d:List aR}:∀f∈aP (((a++b)++c)++d),f.2=[]∨f∈aP d++(aP c++(aP b++aP a)):=λ f hf=>by
 simp only[cU,List.mem_append] at hf ⊢;rcases hf with((h|h)|h)|h;·exact .inr (.inr (.inr (.inr h)))
 ·exact .inr (.inr (.inr (.inl h)))
 ·exact .inr (.inr (.inl h))
 ·exact .inr (.inl h)
end
end Go.Ct
namespace Go.Proofs.YtbajmaoegmbfgaaGreat
open Go Go.RowKit Go.Ct
section
section
variable{k:Cl}{bx bm:Nat}{x:XS}{dn:Bool}{rs:Rs}{D:List Nat}{A:Fr}{w:World}{g:Gx}
set_option maxRecDepth 100000 in
theorem aCB(hg:g.Ok){m:Nat}(K:Rs->Tr)(n:Nat)(hn:n<=1073741824)(hm:m<18446744073709551616)(em:k.mask=(m:Int))(ek:k.key.size<=64)(ht:k.t.root<=9223372036854775807)(hA:∀f∈aP x.L,f∈A)(go:gG g x (vK k (jN k.key m) K n))(ok:x.Ok)(hs:SF w D (xH k bx bm x dn rs) A [] (xW x) w):Calls Tryz.prog 184 #[.pointer (some ⟨bx,0,none⟩)] w λ e w'=>∃q:Rs×XS×List aR,e=.returned (.agg ⟨q.1.cells⟩)/\Nx g x q.2.1 q.2.2 (K q.1) 0/\SF w D (xH k bx bm q.2.1 dn rs) [] (aP q.2.2) (xW q.2.1) w':=by
 refine enter Tryz.func184 Tryz.ntmps184 rfl rfl (cI hs) ?_;simp only[cC];refine J0 ?_;refine aJ (λ x2=>?_);refine S8 ?_;refine eY [3,4,13,14,15,16,17,18,19,20,21,22,23,24,25,26,27,28] (λ j:Nat=>[(3,.pointer (some ⟨j,0,none⟩)),(4,.int .u64 (((jN k.key m):Nat):Int))]) (λ _=>True) (λ j=>[(j,.cells ⟨[.int .i64 k.t.root,.bool k.t.ro]⟩ 29 (0,0)),(x2,.cells ⟨Rs.zero.cells⟩ 64 (0,0)),(bx,xO k bm x dn rs),(bm,xM x)]) (λ _=>[]) (λ _=>xW x) (by decide) (λ _=>by exact rfl) ?_ (λ j f hx=>?_)
 ·refine K0g ?_;refine K0d ?_;refine gU (E:=[15,16]) (by decide +kernel) ((.cons ?_ (.cons ?_ .nil)));·refine A4 (i:=15) (hq:=(cV (hc:=λ w1 hw=>nR em hm ek w1))) (hfire:=E0h) (h:=λ x28=>?_);refine iQ (hfire:=E0a) (h:=λ x3=>?_);refine Cq ?_;refine fK (x3) ?_;·trivial
  ·refine iS (i:=16) (hfire:=E0a) (h:=λ x3=>?_);refine dD (i:=15) (hq:=(cV (hc:=λ w1 hw=>nR em hm ek w1))) (hfire:=(λ _=>by(refine aM.cons (by exact gJ (hq:=aU (k:=2) (vs:=[.int .i64 k.t.root,.bool k.t.ro]) rf cY eE rfl rfl)) ?_;exact aM.nil))) (h:=λ x28=>?_);refine Cq ?_;refine fK (x3) ?_;·trivial
 refine K0a ?_;refine Dm ?_;refine nB [5,6,7,8,9,10,11,12,29,30,31,32,33,34,35,36,37,38,39,40,41,42,43,44,45,46,47,48,49,50,51,52,53,54,55,56,57,58,59,60,61,62,63,64,65,66,67,68,69,70,71,72,73,74,75,76,77,78,79,80,81,82,83,84,85,86,87,88,89,90,91,92,93,94,95,96,97,98,99,100,101] (λ y:Nat×XS×List aR=>[]) (λ y=>y.1<=n/\Nx g x y.2.1 y.2.2 (vK k (jN k.key m) K y.1) 0) (λ y=>[(j,.cells ⟨[.int .i64 k.t.root,.bool k.t.ro]⟩ 29 (0,0)),(x2,.cells ⟨Rs.zero.cells⟩ 64 (0,0)),(bx,xO k bm y.2.1 dn rs),(bm,xM y.2.1)]) (λ y=>aP y.2.2) (λ y=>xW y.2.1) (λ y=>y.1) ((n,x,[])) (⟨Nat.le_refl n,Nx.start go ok |>.cP go (bM _)⟩) (λ y f hx=>?_) (hw0:=λ w hw=>hw);refine K0a ?_;obtain⟨hyn,hy⟩:=hx;refine K2a ?_;refine bD (λ c33=>?_) (λ c33=>?_)
 ·obtain⟨fu,hfu,gx⟩:=gG.kJ (T:=λ q=>vK k (jN k.key m) K q) hy.go (by simpa using c33) rfl hg;refine aW ?_;refine cR ?_;refine Kb5 ?_;refine aD (cM (hs:=xH k bx bm y.2.1 dn rs) (os:=xW y.2.1) (hc:=λ w hs=>C6 hg k.t _ ht gx hy.ok hs)) (λ x36 h36=>?_);refine zO ?_;refine aD (cM (hs:=xH k bx bm x36.2.1 dn rs) (os:=xW x36.2.1) (hc:=λ w hs=>cQ x36.1 _ h36.bd h36.go h36.ok hs)) (λ x39 h39=>?_);refine cL ?_;refine J1 ?_;refine cX ?_;refine E9 ?_;refine nB [5,7,8,9,10,11,12,41,42,43,44,45,46,47,48,49,50,51,52,53,54,55,56,57,58,59,60,61,62,63,64,65,66,67,68,69,70,71,72,73,74,75,76,77,78,79,80,81,82,83,84,85,86,87,88,89,90,91,92,93,94,95,96,97,98,99,100,101] (λ z:Nat×Int×Int×XS×List aR=>[(5,.int .i64 z.2.1),(7,.int .i64 z.2.2.1),(8,.int .i64 (((fu-z.1):Nat):Int))]) (λ z=>z.1<=fu/\Nx g x z.2.2.2.1 z.2.2.2.2 (tB k (jN k.key m) K (vK k (jN k.key m) K fu) (aB x36.2.1.L x36.1).nd.gen z.1 z.2.1 z.2.2.1 (fu-z.1)) z.2.1/\z.2.2.1<=z.2.2.2.1.L.length) (λ z=>[(j,.cells ⟨[.int .i64 k.t.root,.bool k.t.ro]⟩ 29 (0,0)),(x2,.cells ⟨Rs.zero.cells⟩ 64 (0,0)),(bx,xO k bm z.2.2.2.1 dn rs),(bm,xM z.2.2.2.1)]) (λ z=>aP z.2.2.2.2) (λ z=>xW z.2.2.2.1) (λ z=>z.1) ((fu,x36.1,0,x36.2.1,y.2.2++x36.2.2)) (⟨Nat.le_refl fu,(hy.trans h36).cP (show gG g x36.2.1 (tB k (jN k.key m) K (vK k (jN k.key m) K fu) (aB x36.2.1.L x36.1).nd.gen fu x36.1 0 (fu-fu)) from(Nat.sub_self fu).symm▸h39.1) h36.bd,bM _⟩) (λ z f hx=>?_) (hw0:=λ w hw=>(hw.fA nM).v6);refine K0a ?_;obtain⟨hzf,hz,hzp⟩:=hx;refine K2a ?_;refine bD (λ c45=>?_) (λ c45=>?_)
  ·obtain⟨fu2,hfu2,gz⟩:=gG.kJ (T:=λ q=>(tB k (jN k.key m) K (vK k (jN k.key m) K fu) (aB x36.2.1.L x36.1).nd.gen q z.2.1 z.2.2.1 (fu-z.1))) hz.go (by simpa using c45) rfl hg;refine sG ?_;refine Kb5 ?_;refine aA ?_;refine aD (cM (hs:=xH k bx bm z.2.2.2.1 dn rs) (os:=xW z.2.2.2.1) (hc:=λ w hs=>pN hg k.t z.2.1 _ ht hz.bd gz hz.ok hs)) (λ x51 h51=>?_);have hl51:=h51.len;have hb51:=h51.bd;have hbz:=hz.bd;have hch:=Ch.nx h51 hz.ch;refine jG ?_;refine Kc7 ?_;refine bD (λ c55=>?_) (λ c55=>?_)
   ·refine az ?_;refine iX (by exact(fu,x51.2.1,(z.2.2.2.2++x51.2.2))) ?_ (hw1:=λ w hw=>by exact(hw.fA nM).v6)
    ·first
     | exact⟨by show fu<=n;omega,(((hz.trans h51).trans h76).trans h97).cP g4 (bM _)⟩
     | exact⟨by show fu<=n;omega,((hz.trans h51).trans h76).cP g3 (bM _)⟩
     | exact⟨by show fu<=n;omega,((hz.trans h51).trans h68).cP h68.go (bM _)⟩
     | exact⟨by show fu<=n;omega,(hz.trans h51).cP (h51.go.bY (by assumption)) (bM _)⟩
     | exact⟨by show fu<=n;omega,hz.cP (hz.go.bY (by simpa using c45)) (bM _)⟩
   ·refine lH ?_;refine iZ ?_;refine aD (cM (hs:=xH k bx bm x51.2.1 dn rs) (os:=xW x51.2.1) (hc:=λ w hs=>cQ x51.1 _ h51.bd h51.go h51.ok hs)) (λ x58 h58=>?_);refine cL ?_;refine tH ?_;refine bD (λ c60=>?_) (λ c60=>?_)
    ·have g1:=h58.1.to (λ _=>if_pos c60);refine Kb5 ?_;refine qL ?_;refine qL ?_;refine tE ?_;refine aD (cM (hs:=xH k bx bm x51.2.1 dn rs) (os:=xW x51.2.1) (A0:=aP x51.2.1.L) (hA:=Ch.all hch hA) (hc:=λ w hs=>N8 hg k.t z.2.2.1 z.2.1 (pK k.key m) ((((fu-z.1):Nat):Int)-1) _ ht (by omega) (by omega) (λ f hf=>hf) g1 h51.ok hs)) (λ x68 h68=>?_);refine aG ?_;refine az ?_;refine iX (by exact(fu,x68.2.1,((z.2.2.2.2++x51.2.2)++x68.2.2))) ?_ (hw1:=E0y)
     ·first
      | exact⟨by show fu<=n;omega,(((hz.trans h51).trans h76).trans h97).cP g4 (bM _)⟩
      | exact⟨by show fu<=n;omega,((hz.trans h51).trans h76).cP g3 (bM _)⟩
      | exact⟨by show fu<=n;omega,((hz.trans h51).trans h68).cP h68.go (bM _)⟩
      | exact⟨by show fu<=n;omega,(hz.trans h51).cP (h51.go.bY (by assumption)) (bM _)⟩
      | exact⟨by show fu<=n;omega,hz.cP (hz.go.bY (by simpa using c45)) (bM _)⟩
    ·have g1:=h58.1.to (λ _=>if_neg c60);refine Ar ?_;refine qL ?_;refine qL ?_;refine aD (cM (hs:=xH k bx bm x51.2.1 dn rs) (os:=xW x51.2.1) (A0:=aP x51.2.1.L) (hA:=Ch.all hch hA) (hc:=λ w hs=>Yx hg z.2.1 x51.1 (pK k.key m) (fu-z.1) (by omega) (aB x36.2.1.L x36.1).nd.gen _ ht (by omega) (by omega) (λ f hf=>hf) g1 h51.ok hs)) (λ x76 h76=>?_);have hl76:=h76.len;have hch2:=Ch.nx h76 hch;refine K0c ?_;refine aJ (λ x10=>?_);refine lU (λ _=>?_);refine jG ?_;refine mY ?_;refine aA ?_;(refine eF 83 (λ g83=>?_) (λ g83=>?_)<;>refine Ka0 ?_);all_goals (refine xF ?_;refine aG ?_)
     all_goals
     refine bD (λ c86=>?_) (λ c86=>?_)
     ·all_goals (refine nG ?_;refine J5 ?_)
      all_goals refine aY Tryz.results184 (λ w hw=>?_);exact⟨(x76.1,x76.2.2.1,((z.2.2.2.2++x51.2.2)++x76.2.2.2)),rfl,((hz.trans h51).trans h76).cP (by first|exact h76.go.bY (by assumption)|exact h76.go.to (λ _=>if_pos (by assumption))) (bM _),(hw.fA mP).v4⟩
     ·try exact nv c86
      all_goals have g2:=h76.go.to (λ _=>if_neg (by assumption))
      all_goals (refine lH ?_;refine J2 ?_;refine tH ?_)
      all_goals
       refine bD (λ c89=>?_) (λ c89=>?_)
       ·have g3:=g2.to (λ _=>if_pos (by assumption));refine az ?_;refine iX (by exact(fu,x76.2.2.1,((z.2.2.2.2++x51.2.2)++x76.2.2.2))) ?_ (hw1:=E0y)
        ·first
         | exact⟨by show fu<=n;omega,(((hz.trans h51).trans h76).trans h97).cP g4 (bM _)⟩
         | exact⟨by show fu<=n;omega,((hz.trans h51).trans h76).cP g3 (bM _)⟩
         | exact⟨by show fu<=n;omega,((hz.trans h51).trans h68).cP h68.go (bM _)⟩
         | exact⟨by show fu<=n;omega,(hz.trans h51).cP (h51.go.bY (by assumption)) (bM _)⟩
         | exact⟨by show fu<=n;omega,hz.cP (hz.go.bY (by simpa using c45)) (bM _)⟩
       ·have g3:=g2.to (λ _=>if_neg (by assumption));refine Ar ?_;refine qL ?_;refine aA ?_;refine aN (cV (hc:=λ w1 hw=>fM (pK k.key m) (((fu-z.1):Nat):Int) w1)) (λ x95=>?_);refine aA ?_;refine aD (cM (hs:=xH k bx bm x76.2.2.1 dn rs) (os:=xW x76.2.2.1) (A0:=aP x76.2.2.1.L) (hA:=Ch.all hch2 hA) (hc:=λ w hs=>Xc hg z.2.1 x51.1 (eZ (jN k.key m) (((fu-z.1):Nat):Int)) (aB x36.2.1.L x36.1).nd.gen _ ht (by omega) (by omega) (λ f hf=>hf) g3 h76.ok hs)) (λ x97 h97=>?_);refine Kc6 ?_;refine tH ?_;refine bD (λ c99=>?_) (λ c99=>?_)
        ·have g4:=h97.go.to (λ _=>if_pos (by assumption));refine az ?_;refine iX (by exact(fu,x97.2.1,(((z.2.2.2.2++x51.2.2)++x76.2.2.2)++x97.2.2))) ?_ (hw1:=λ w hw=>by exact(hw.fA wP).v6)
         ·first
          | exact⟨by show fu<=n;omega,(((hz.trans h51).trans h76).trans h97).cP g4 (bM _)⟩
          | exact⟨by show fu<=n;omega,((hz.trans h51).trans h76).cP g3 (bM _)⟩
          | exact⟨by show fu<=n;omega,((hz.trans h51).trans h68).cP h68.go (bM _)⟩
          | exact⟨by show fu<=n;omega,(hz.trans h51).cP (h51.go.bY (by assumption)) (bM _)⟩
          | exact⟨by show fu<=n;omega,hz.cP (hz.go.bY (by simpa using c45)) (bM _)⟩
        ·have g4:=h97.go.to (λ _=>if_neg (by assumption));refine aW ?_;refine Jl ?_;refine J8 ?_;refine Kb2 ?_;refine iX ((z.1-1,x97.1,z.2.1,x97.2.1,(((z.2.2.2.2++x51.2.2)++x76.2.2.2)++x97.2.2))) ?_ (hw1:=λ w hw=>(hw.fA wP).v6)
         ·have e1:z.1-1=fu2:=by omega
          have e2:(fu-z.1)+1=fu-fu2:=by omega
          refine⟨by show z.1-1<=fu;omega,((((hz.trans h51).trans h76).trans h97)).cP ?_ h97.bd,by show z.2.1<=(x97.2.1.L.length:Int);have:=h97.len;omega⟩;show gG g x97.2.1 (tB k (jN k.key m) K (vK k (jN k.key m) K fu) (aB x36.2.1.L x36.1).nd.gen (z.1-1) x97.1 z.2.1 (fu-(z.1-1)));rw[e1,<- e2];exact g4
  ·refine az ?_;refine iX (by exact(fu,z.2.2.2.1,z.2.2.2.2)) ?_ (hw1:=λ w hw=>by exact hw.v6)
   ·first
    | exact⟨by show fu<=n;omega,(((hz.trans h51).trans h76).trans h97).cP g4 (bM _)⟩
    | exact⟨by show fu<=n;omega,((hz.trans h51).trans h76).cP g3 (bM _)⟩
    | exact⟨by show fu<=n;omega,((hz.trans h51).trans h68).cP h68.go (bM _)⟩
    | exact⟨by show fu<=n;omega,(hz.trans h51).cP (h51.go.bY (by assumption)) (bM _)⟩
    | exact⟨by show fu<=n;omega,hz.cP (hz.go.bY (by simpa using c45)) (bM _)⟩
 ·refine bS rfl ?_;refine Kc2 ?_;refine aY Tryz.results184 (λ w hw=>?_);exact⟨(Rs.zero,y.2.1,y.2.2),rfl,hy.cP (hy.go.bY (by simpa using c33)) (bM _),hw.v4⟩
end
end
end Go.Proofs.YtbajmaoegmbfgaaGreat
namespace Go.Ct
open Go Go.RowKit
section
variable{P:Program}{n:Nat}{Q:Exit->Act->World->Prop}{ks:List CK}{ops:Array Oper}{l:List Oper}{S:List (Nat×Value)}{G:World->Prop}
theorem Rm{d:Nat}{op:Op}{ty:TypeId}{pos:String}{af:Array Edge}{j:Nat}{want:Bool}{g:Nat}(hd:Nat.blt d n=true)
  (hj:(ops[j]?).bind (·.dst)=some g) (hg:look S g=undef)
  (h:JL P n Q ks ops l ((d,undef)::S) G):JL P n Q ks ops (⟨some d,op,ty,pos,af,some (j,want)⟩::l) S G:=⟨λ hS w hw=>by
 have hy:yielded ops (eA n S) j=none:=by
  have e:=congrFun (jK (ds:=[]) hS) (.tmp g);simp only[Act.eval,ev,hg] at e;unfold yielded;rw[hj];simp only[Option.bind_some];rw[Array.getD_eq_getD_getElem?] at e;cases h2:(eA n S)[g]? with
  | none=>rfl
  | some u=>rw[h2] at e;simp[undef] at e;subst e;rfl
 refine wpList_step λ K hK=>?_;have hw':Region.wanted ⟨some d,op,ty,pos,af,some (j,want)⟩ (yielded ops (eA n S))=false:=by simp only[Region.wanted,hy];rfl
 simp only[hw',Bool.false_eq_true,if_false,Cn];exact hK _ _ (h.run (hS.cons hd) w hw)⟩
end
end Go.Ct
namespace Go.Proofs.YtbajmaoegmbfgaaGreat
open Go.RowKit Go.Ct
section
theorem A2{n:Nat}{Q:Exit->Act->World->Prop}{ks:List CK}{ops:Array Oper}{l:List Oper}{S:List (Nat×Value)}{G:World->Prop}{d j g:Nat}{op:Op}{ty:TypeId}{pos:String}{af:Array Edge}{want:Bool}(h:JL Tryz.prog n Q ks ops l ((d,undef)::S) G)(hd:Nat.blt d n=true:=by exact rfl)(hj:(ops[j]?).bind (·.dst)=some g:=by exact rfl)(hg:Ct.look S g=undef:=by exact rfl):JL Tryz.prog n Q ks ops (⟨some d,op,ty,pos,af,some (j,want)⟩::l) S G:=Rm hd hj hg h
end
end Go.Proofs.YtbajmaoegmbfgaaGreat
namespace Go.Ct
open Go Go.RowKit
section
theorem qE{g:Gx}{x:XS}{r:Int}{K:Nv->Tr}(h:gG g x (.node r K))(hr:r<=x.L.length):gG g x (K (aB x.L r).c):=by have:=h.node hr;rwa [show bH x.nodes r=(aB x.L r).c from(Ff x.L r).symm] at this
section
variable{P:Program}{S:List (Nat×Value)}{G:World->Prop}{d:Nat}{ty t t':TypeId}{pos:String}{af:Array Edge}{gd:Option (Nat×Bool)}{x y:Operand}{a b:ByteArray}
theorem y9(hx:ev S x=.string a)(hy:ev S y=.string b)(h:¬a=b):aL P S G ⟨some d,.binOp .neq t x y t',ty,pos,af,gd⟩ (.bool true):=by have:=Ja (P:=P) (G:=G) (d:=d) (ty:=ty) (pos:=pos) (af:=af) (gd:=gd) (t:=t) (t':=t') hx hy;rwa [bne,aAf h] at this
theorem v8(hx:ev S x=.string a)(hy:ev S y=.string b)(h:a=b):aL P S G ⟨some d,.binOp .neq t x y t',ty,pos,af,gd⟩ (.bool false):=by have:=Ja (P:=P) (G:=G) (d:=d) (ty:=ty) (pos:=pos) (af:=af) (gd:=gd) (t:=t) (t':=t') hx hy;rwa [bne,zv h] at this
end
end
end Go.Ct
namespace Go.Proofs.YtbajmaoegmbfgaaGreat
open Go.Proofs.Tryz
open Go Go.RowKit Go.Ct
section
theorem ux{m:Nat}{o:Option (Nat×List Int)}{w:World}(h:xR m o){x:Option Addr×Nat}{r:Nv}(e:r=(nD o x).c (mX o) [])(hc:Go.Ct.Cl w x.1 (aH (mX o))):Calls prog 245 #[(nD o x).v] w λ e w'=>e=.returned (.tuple #[.int .i64 ((Od r).getD 0),.bool (Od r).isSome])/\St w [] [] w':=by obtain⟨b,h1,h2⟩:=Qa h x;have:=Lh (n:=nD o x) h1 h2 (Sb h hc);rw[aAC,<- e] at this;exact this
theorem aDK{m:Nat}{o:Option (Nat×List Int)}(h:xR m o){x:Option Addr×Nat}{r:Nv}(e:r=(nD o x).c (mX o) []):(Od r).getD 0<=m:=by
 rw[e,<- aAC];unfold po;split
 ·refine mV (λ v hv=>?_) 0;cases o with
  | none=>exact(List.not_mem_nil hv).elim
  | some q=>exact(h.out q rfl).2.2 v hv
 ·exact bM _
section
variable{k:Cl}{bx bm:Nat}{x:XS}{dn:Bool}{rs:Rs}{D:List Nat}{A:Fr}{w:World}{g:Gx}
variable{h:Nat}{b:Int}
set_option maxRecDepth 100000 in
theorem Uj(hg:g.Ok)(i m:Int)(hh:h<18446744073709551616)(level:Nat)(hlv:level<=1073741824)(K:Rs->Int->Tr)(ht:k.t.root<=9223372036854775807)(hi:i<=x.L.length)(hm:m<=x.L.length)(hA:∀f∈aP x.L,f∈A)(hk:(aB x.L m).nd.kind=6)(go:gG g x (kY k i m h level K))(ok:x.Ok)(hs:SF w D (xH k bx bm x dn rs) A [] (xW x) w):Calls prog 226 #[.pointer (some ⟨bx,0,none⟩),.int .i64 i,.int .i64 m,.int .u64 (h:Int),.int .i64 (level:Int)] w (cj g x K bx bm k dn rs D w):=by
 refine K0s ?_;intro hyl hlL h48;refine K1l ?_;simp only[cC];refine J0 ?_;refine aJ (λ x10=>?_);refine jG ?_;refine eY [12,13,26,27,28,29,30,31,32,33] (λ j:Nat=>[(12,.pointer (some ⟨j,0,none⟩)),(13,.string k.key)]) (λ _=>True) (λ j=>[(j,.cells ⟨(aB x.L m).nd.cells⟩ 47 (0,0)),(x10,.cells ⟨Rs.zero.cells⟩ 64 (0,0)),(bx,xO k bm x dn rs),(bm,xM x)]) (λ _=>[]) (λ _=>xW x) (by decide) (λ _=>by exact rfl) ?_ (λ j f hx=>?_)
 ·refine K0e ?_;refine gU (E:=[2,8]) (by decide +kernel) ((.cons ?_ (.cons ?_ .nil)));·refine pL (i:=2) (hq:=(cM (hs:=xH k bx bm x dn rs) (os:=xW x) (hc:=λ w hs=>fS m (by omega) ok hs))) (h:=λ x28 h28=>?_);refine iQ (h:=λ x12=>?_);refine K1t ?_;·trivial
  ·refine iS (i:=8) (h:=λ x12=>?_);refine bK (i:=2) (hq:=(cM (hs:=xH k bx bm x dn rs) (os:=xW x) (hc:=λ w hs=>fS m (by omega) ok hs))) (h:=λ x28 h28=>?_);refine K1t ?_;·trivial
 refine K0a ?_;refine Kc8 ?_;refine bD (λ c36=>?_) (λ c36=>?_)
 ·have g1:=h48.1.to (λ _=>if_pos hk);refine Kc3 ?_;refine aN (cV (hc:=λ w1 hw=>M5 (v:=(aB x.L m)) (n:=0) k.key (ok.sM hw hA m) (ok.ysl m))) (λ x41=>?_);refine K0c ?_;refine Kb0 ?_;refine D5 ?_;(refine eF 46 (λ g46=>?_) (λ g46=>?_)<;>refine Ka0 ?_);all_goals (refine Kb6 ?_;refine Ka1 ?_;refine Ka1 ?_;refine Ka2 ?_;refine Ka0 ?_)
  all_goals (first|refine A2 ?_|(refine eF 52 (λ g52=>?_) (λ g52=>?_)<;>refine Ka0 ?_))
  all_goals ((first|refine aI ?_|refine A2 ?_|(refine Ka3 ?_));(first|refine aI ?_|refine A2 ?_|(refine aF ?_;refine dM ?_));(first|refine aI ?_|refine A2 ?_|(refine aF ?_;refine aE ?_));(first|refine aI ?_|refine A2 ?_|(refine aF ?_;refine aE ?_));(first|refine aI ?_|refine A2 ?_|(refine aF ?_;refine bO ?_));(first|refine aI ?_|refine A2 ?_|(refine aF ?_;refine mU ?_));(first|refine aI ?_|(refine aF ?_;refine cH ?_));refine cH ?_;refine aG ?_)
  all_goals
  refine bD (λ c61=>?_) (λ c61=>?_)
  ·try exact nv c61
   all_goals have g2:=g1.to (λ _=>if_pos (show((cK (aB x.L m).c.ys k.key).isSome=false∨(k.only=true/\(cK (aB x.L m).c.ys k.key).getD 0≠k.exp)) from by first|exact Or.inl (by assumption)|exact Or.inr ⟨by assumption,by assumption⟩))
   all_goals (refine iZ ?_;refine aN (cV (hc:=λ w1 hw=>gV _ _ w1)) (λ x64=>?_);refine Fb ?_)
   all_goals refine aY results226 (λ w hw=>?_);exact⟨(dO (cK (aB x.L m).c.ys k.key).isSome ((cK (aB x.L m).c.ys k.key).getD 0),1,x,[]),rfl,⟨g2,ok,by simp,Nat.le_refl _,bM _⟩,hw.bA (hF:=by exact aZ.nil)⟩
  ·try exact nv c61
   all_goals have g2:=g1.to (λ _=>if_neg (show ¬((cK (aB x.L m).c.ys k.key).isSome=false∨(k.only=true/\(cK (aB x.L m).c.ys k.key).getD 0≠k.exp)) from by rintro (h|⟨h,h'⟩)<;>simp_all))
   all_goals (refine aW ?_;refine Fa ?_;refine aD (cF (hc:=λ w1 hw=>aCr (v:=(aB x.L m)) h48.2 k.key (ok.sM hw hA m) (by omega))) (λ x68 h68=>?_);refine aA ?_;refine aC (bQ rf rfl) rfl ?_;refine aC (bQ rf rfl) rfl ?_;refine aJ (λ x16=>?_);refine lU (λ _=>?_);refine jG ?_;refine eM [(0,[]),(1,[]),(2,[]),(3,[]),(4,[]),(5,[]),(6,[]),(7,[]),(8,[]),(9,[]),(10,[]),(11,[]),(14,[]),(12,[6]),(13,[]),(15,[]),(16,[]),(17,[]),(18,[]),(19,[])] ?_;refine iR ?_;refine J9 ?_;refine aX ?_;refine bU (i:=6) (hq:=(aU (k:=2) (vs:=[.int .i64 k.t.root,.bool k.t.ro]) rf cY eE rfl rfl)) (h:=?_);refine iR ?_;refine aT ?_;refine Kb3 ?_;refine bK (i:=12) (hq:=(cM (hs:=xH k bx bm x dn rs) (os:=xW x) (A0:=[((Oy (rL (aB x.L m).nd (aB x.L m).xs (aB x.L m).ys k.key) (aB x.L m).nd.hash x68).brA,aH []),((Oy (rL (aB x.L m).nd (aB x.L m).xs (aB x.L m).ys k.key) (aB x.L m).nd.hash x68).prA,dI (Ji (rL (aB x.L m).nd (aB x.L m).xs (aB x.L m).ys k.key)))]) (hA:=aC0) (hc:=λ w hs=>hU hg (n:=Oy (rL (aB x.L m).nd (aB x.L m).xs (aB x.L m).ys k.key) (aB x.L m).nd.hash x68) (xs:=[]) (ys:=Ji (rL (aB x.L m).nd (aB x.L m).xs (aB x.L m).ys k.key)) m _ (qe _ _ _).1 (qe _ _ _).2 (by decide) (by have:=aBu (aB x.L m).xs (aB x.L m).ys (aB x.L m).nd k.key;omega) (aBq _ h48.2.hash) hm (by rw[aEk];exact g2) ok hs))) (hfire:=(λ _=>by(refine gM ?_;refine aM.cons E0g ?_;exact aM.nil))) (h:=λ x83 h83=>?_);refine bK (i:=13) (hq:=(cM (hs:=xH k bx bm x83.2.1 dn rs) (os:=xW x83.2.1) (hc:=λ w hs=>tY hg k.t i m x83.1 _ ht (by have:=h83.len;omega) h83.bd h83.go h83.ok hs))) (h:=λ x84 h84=>?_))
   all_goals have hch:=Ch.nx h84 (Ch.nx h83 ((Ch.base (F:=[])).cons (f:=(x68.1,dI (Ji (rL (aB x.L m).nd (aB x.L m).xs (aB x.L m).ys k.key))))));have hlc:x.cs.length<=x84.2.1.cs.length:=by have:=h83.lc;have:=h84.lc;omega
   all_goals (refine dD (i:=15) (hq:=(cV (hc:=λ w1 hw=>qN _ _ _ _ w1))) (h:=λ x86=>?_);refine cW (i:=16) (hq:=(bQ rf rfl)) (h:=?_);refine cW (i:=17) (hq:=(bQ rf rfl)) (h:=?_);refine Cq ?_)
   all_goals refine aY results226 (λ w hw=>?_);obtain⟨N,hN,hf⟩:=hch.to (t':=K (oU true ((cK (aB x.L m).c.ys k.key).getD 0)) (if x84.1=true then 1 else 0)) h84 (h84.go) hlc (bM _);exact⟨(oU true ((cK (aB x.L m).c.ys k.key).getD 0),(if x84.1=true then 1 else 0),x84.2.1,N),rfl,hN,(hw.fA hf).v4⟩
 ·exact absurd hk c36
set_option maxRecDepth 100000 in
theorem Tj(hg:g.Ok)(i m:Int)(hh:h<18446744073709551616)(level:Nat)(hlv:level<=1073741824)(K:Rs->Int->Tr)(ht:k.t.root<=9223372036854775807)(hi:i<=x.L.length)(hm:m<=x.L.length)(hA:∀f∈aP x.L,f∈A)(hk:¬(aB x.L m).nd.kind=6)(hl:iO (aB x.L m).c (eZ h (level:Int))=none)(go:gG g x (kY k i m h level K))(ok:x.Ok)(hs:SF w D (xH k bx bm x dn rs) A [] (xW x) w):Calls prog 226 #[.pointer (some ⟨bx,0,none⟩),.int .i64 i,.int .i64 m,.int .u64 (h:Int),.int .i64 (level:Int)] w (cj g x K bx bm k dn rs D w):=by
 refine K0s ?_;intro hyl hlL h48;refine K1l ?_;simp only[cC];refine J0 ?_;refine aJ (λ x10=>?_);refine jG ?_;refine eY [12,13,26,27,28,29,30,31,32,33] (λ j:Nat=>[(12,.pointer (some ⟨j,0,none⟩)),(13,.string k.key)]) (λ _=>True) (λ j=>[(j,.cells ⟨(aB x.L m).nd.cells⟩ 47 (0,0)),(x10,.cells ⟨Rs.zero.cells⟩ 64 (0,0)),(bx,xO k bm x dn rs),(bm,xM x)]) (λ _=>[]) (λ _=>xW x) (by decide) (λ _=>by exact rfl) ?_ (λ j f hx=>?_)
 ·refine K0e ?_;refine gU (E:=[2,8]) (by decide +kernel) ((.cons ?_ (.cons ?_ .nil)));·refine pL (i:=2) (hq:=(cM (hs:=xH k bx bm x dn rs) (os:=xW x) (hc:=λ w hs=>fS m (by omega) ok hs))) (h:=λ x28 h28=>?_);refine iQ (h:=λ x12=>?_);refine K1t ?_;·trivial
  ·refine iS (i:=8) (h:=λ x12=>?_);refine bK (i:=2) (hq:=(cM (hs:=xH k bx bm x dn rs) (os:=xW x) (hc:=λ w hs=>fS m (by omega) ok hs))) (h:=λ x28 h28=>?_);refine K1t ?_;·trivial
 refine K0a ?_;refine Kc8 ?_;refine bD (λ c36=>?_) (λ c36=>?_);·exact absurd c36 hk
 ·have g0:=h48.1.to (λ _=>if_neg hk);have g1:=Mu g0 (by rw[hl];rfl);refine K0o ?_;intro x91;refine J1 ?_;refine Fa ?_;refine aN (cV (hc:=λ w1 hw=>zs (v:=(aB x.L m)) h48.2 hl (ok.sM hw hA m))) (λ x95=>?_);refine K0c ?_;refine J8 ?_;refine iZ ?_;refine aD (cM (hs:=xH k bx bm x dn rs) (os:=xW x) (hc:=λ w hs=>fS 0 (by decide) ok hs)) (λ x100 h100=>?_);refine aJ (λ x21=>?_);refine J5 ?_;refine Dm ?_;refine iZ ?_;refine aI ?_;refine J78 ?_;refine J1 ?_;refine bD (λ c101=>?_) (λ c101=>?_)
  ·exact nv c101
  ·refine J2 ?_;refine D5 ?_;refine aI ?_;refine Zg ?_;(refine aI ?_);refine Kb8 ?_;refine bD (λ c109=>?_) (λ c109=>?_);·refine J0 ?_;refine aN (cV (hc:=λ w1 hw=>gV _ _ w1)) (λ x118=>?_);refine Fb ?_;refine aY results226 (λ w hw=>?_);exact⟨(dO false 0,1,x,[]),rfl,⟨g1,ok,by simp,Nat.le_refl _,bM _⟩,hw.bA (hF:=by exact aZ.nil)⟩
   ·exact nv c109
set_option maxRecDepth 100000 in
theorem Ta(hg:g.Ok)(i m:Int)(hh:h<18446744073709551616)(level:Nat)(hlv:level<=1073741824)(K:Rs->Int->Tr)(ht:k.t.root<=9223372036854775807)(hi:i<=x.L.length)(hm:m<=x.L.length)(hA:∀f∈aP x.L,f∈A)(hk:¬(aB x.L m).nd.kind=6)(hl:iO (aB x.L m).c (eZ h (level:Int))=some b)(hi2:(aB x.L b).nd.kind=2)(go:gG g x (kY k i m h level K))(ok:x.Ok)(hs:SF w D (xH k bx bm x dn rs) A [] (xW x) w):Calls prog 226 #[.pointer (some ⟨bx,0,none⟩),.int .i64 i,.int .i64 m,.int .u64 (h:Int),.int .i64 (level:Int)] w (cj g x K bx bm k dn rs D w):=by
 refine K0s ?_;intro hyl hlL h48;have hb:b<=x.L.length:=by have:=lV (ok.nv m) (eZ h (level:Int));rw[hl] at this;exact this
 refine K1l ?_;simp only[cC];refine J0 ?_;refine aJ (λ x10=>?_);refine jG ?_;refine eY [12,13,26,27,28,29,30,31,32,33] (λ j:Nat=>[(12,.pointer (some ⟨j,0,none⟩)),(13,.string k.key)]) (λ _=>True) (λ j=>[(j,.cells ⟨(aB x.L m).nd.cells⟩ 47 (0,0)),(x10,.cells ⟨Rs.zero.cells⟩ 64 (0,0)),(bx,xO k bm x dn rs),(bm,xM x)]) (λ _=>[]) (λ _=>xW x) (by decide) (λ _=>by exact rfl) ?_ (λ j f hx=>?_)
 ·refine K0e ?_;refine gU (E:=[2,8]) (by decide +kernel) ((.cons ?_ (.cons ?_ .nil)));·refine pL (i:=2) (hq:=(cM (hs:=xH k bx bm x dn rs) (os:=xW x) (hc:=λ w hs=>fS m (by omega) ok hs))) (h:=λ x28 h28=>?_);refine iQ (h:=λ x12=>?_);refine K1t ?_;·trivial
  ·refine iS (i:=8) (h:=λ x12=>?_);refine bK (i:=2) (hq:=(cM (hs:=xH k bx bm x dn rs) (os:=xW x) (hc:=λ w hs=>fS m (by omega) ok hs))) (h:=λ x28 h28=>?_);refine K1t ?_;·trivial
 refine K0a ?_;refine Kc8 ?_;refine bD (λ c36=>?_) (λ c36=>?_);·exact absurd c36 hk
 ·refine K1n ?_;intro g0 g1;rw[hl] at g1;have g2:=qE g1 hb;refine K0o ?_;intro x91;refine K1w ?_;intro x95;refine K0c ?_;refine K0u ?_;intro x100 h100 x21;(refine aF ?_;refine aE ?_);refine J78 ?_;refine J1 ?_;refine bD (λ c101=>?_) (λ c101=>?_)
  ·have g3:=g2.to (λ _=>if_pos hi2);refine J0 ?_;refine bN ?_;refine Fb ?_;refine aY results226 (λ w hw=>?_);exact⟨(Rs.zero,2,x,[]),rfl,⟨g3,ok,by simp,Nat.le_refl _,bM _⟩,hw.bA (hF:=by exact aZ.nil)⟩
  ·exact absurd hi2 c101
set_option maxRecDepth 100000 in
theorem Tn(hg:g.Ok)(i m:Int)(hh:h<18446744073709551616)(level:Nat)(hlv:level<=1073741824)(K:Rs->Int->Tr)(ht:k.t.root<=9223372036854775807)(hi:i<=x.L.length)(hm:m<=x.L.length)(hA:∀f∈aP x.L,f∈A)(hk:¬(aB x.L m).nd.kind=6)(hl:iO (aB x.L m).c (eZ h (level:Int))=some b)(hi2:¬(aB x.L b).nd.kind=2)(he:¬(aB x.L b).nd.key=k.key)(go:gG g x (kY k i m h level K))(ok:x.Ok)(hs:SF w D (xH k bx bm x dn rs) A [] (xW x) w):Calls prog 226 #[.pointer (some ⟨bx,0,none⟩),.int .i64 i,.int .i64 m,.int .u64 (h:Int),.int .i64 (level:Int)] w (cj g x K bx bm k dn rs D w):=by
 refine K0s ?_;intro hyl hlL h48;have hb:b<=x.L.length:=by have:=lV (ok.nv m) (eZ h (level:Int));rw[hl] at this;exact this
 refine K1l ?_;simp only[cC];refine J0 ?_;refine aJ (λ x10=>?_);refine jG ?_;refine eY [12,13,26,27,28,29,30,31,32,33] (λ j:Nat=>[(12,.pointer (some ⟨j,0,none⟩)),(13,.string k.key)]) (λ _=>True) (λ j=>[(j,.cells ⟨(aB x.L m).nd.cells⟩ 47 (0,0)),(x10,.cells ⟨Rs.zero.cells⟩ 64 (0,0)),(bx,xO k bm x dn rs),(bm,xM x)]) (λ _=>[]) (λ _=>xW x) (by decide) (λ _=>by exact rfl) ?_ (λ j f hx=>?_)
 ·refine K0e ?_;refine gU (E:=[2,8]) (by decide +kernel) ((.cons ?_ (.cons ?_ .nil)));·refine pL (i:=2) (hq:=(cM (hs:=xH k bx bm x dn rs) (os:=xW x) (hc:=λ w hs=>fS m (by omega) ok hs))) (h:=λ x28 h28=>?_);refine iQ (h:=λ x12=>?_);refine K1t ?_;·trivial
  ·refine iS (i:=8) (h:=λ x12=>?_);refine bK (i:=2) (hq:=(cM (hs:=xH k bx bm x dn rs) (os:=xW x) (hc:=λ w hs=>fS m (by omega) ok hs))) (h:=λ x28 h28=>?_);refine K1t ?_;·trivial
 refine K0a ?_;refine Kc8 ?_;refine bD (λ c36=>?_) (λ c36=>?_);·exact absurd c36 hk
 ·refine K1n ?_;intro g0 g1;rw[hl] at g1;have g2:=qE g1 hb;refine K0o ?_;intro x91;refine K1w ?_;intro x95;refine K0c ?_;refine K0u ?_;intro x100 h100 x21;(refine aF ?_;refine aE ?_);refine J78 ?_;refine J1 ?_;refine bD (λ c101=>?_) (λ c101=>?_)
  ·exact absurd c101 hi2
  ·have g3:=(g2.to (λ _=>if_neg hi2)).to (λ _=>if_pos he);refine J2 ?_;refine D5 ?_;(refine aF ?_;refine aE ?_);refine Zg ?_;((refine aF ?_;refine aC (y9 rf rf he) rfl ?_));refine Kb8 ?_;refine bD (λ c109=>?_) (λ c109=>?_)
   ·refine J0 ?_;refine aN (cV (hc:=λ w1 hw=>gV _ _ w1)) (λ x118=>?_);refine Fb ?_;refine aY results226 (λ w hw=>?_);exact⟨(dO false 0,1,x,[]),rfl,⟨g3,ok,by simp,Nat.le_refl _,bM _⟩,hw.bA (hF:=by exact aZ.nil)⟩
   ·exact nv c109
set_option maxRecDepth 100000 in
theorem Ux(hg:g.Ok)(i m:Int)(hh:h<18446744073709551616)(level:Nat)(hlv:level<=1073741824)(K:Rs->Int->Tr)(ht:k.t.root<=9223372036854775807)(hi:i<=x.L.length)(hm:m<=x.L.length)(hA:∀f∈aP x.L,f∈A)(hk:¬(aB x.L m).nd.kind=6)(hl:iO (aB x.L m).c (eZ h (level:Int))=some b)(hi2:¬(aB x.L b).nd.kind=2)(he:(aB x.L b).nd.key=k.key)(go:gG g x (kY k i m h level K))(ok:x.Ok)(hs:SF w D (xH k bx bm x dn rs) A [] (xW x) w):Calls prog 226 #[.pointer (some ⟨bx,0,none⟩),.int .i64 i,.int .i64 m,.int .u64 (h:Int),.int .i64 (level:Int)] w (cj g x K bx bm k dn rs D w):=by
 refine K0s ?_;intro hyl hlL h48;have hb:b<=x.L.length:=by have:=lV (ok.nv m) (eZ h (level:Int));rw[hl] at this;exact this
 refine K1l ?_;simp only[cC];refine J0 ?_;refine aJ (λ x10=>?_);refine jG ?_;refine eY [12,13,26,27,28,29,30,31,32,33] (λ j:Nat=>[(12,.pointer (some ⟨j,0,none⟩)),(13,.string k.key)]) (λ _=>True) (λ j=>[(j,.cells ⟨(aB x.L m).nd.cells⟩ 47 (0,0)),(x10,.cells ⟨Rs.zero.cells⟩ 64 (0,0)),(bx,xO k bm x dn rs),(bm,xM x)]) (λ _=>[]) (λ _=>xW x) (by decide) (λ _=>by exact rfl) ?_ (λ j f hx=>?_)
 ·refine K0e ?_;refine gU (E:=[2,8]) (by decide +kernel) ((.cons ?_ (.cons ?_ .nil)));·refine pL (i:=2) (hq:=(cM (hs:=xH k bx bm x dn rs) (os:=xW x) (hc:=λ w hs=>fS m (by omega) ok hs))) (h:=λ x28 h28=>?_);refine iQ (h:=λ x12=>?_);refine K1t ?_;·trivial
  ·refine iS (i:=8) (h:=λ x12=>?_);refine bK (i:=2) (hq:=(cM (hs:=xH k bx bm x dn rs) (os:=xW x) (hc:=λ w hs=>fS m (by omega) ok hs))) (h:=λ x28 h28=>?_);refine K1t ?_;·trivial
 refine K0a ?_;refine Kc8 ?_;refine bD (λ c36=>?_) (λ c36=>?_);·exact absurd c36 hk
 ·refine K1n ?_;intro g0 g1;rw[hl] at g1;have g2:=qE g1 hb;refine K0o ?_;intro x91;refine K1w ?_;intro x95;refine K0c ?_;refine K0u ?_;intro x100 h100 x21;(refine aF ?_;refine aE ?_);refine J78 ?_;refine J1 ?_;refine bD (λ c101=>?_) (λ c101=>?_)
  ·exact absurd c101 hi2
  ·have g3:=(g2.to (λ _=>if_neg hi2)).to (λ _=>if_neg (λ h:¬(aB x.L b).nd.key=k.key=>h he));refine J2 ?_;refine D5 ?_;(refine aF ?_;refine aE ?_);refine Zg ?_;((refine aF ?_;refine aC (v8 rf rf he) rfl ?_));refine Kb8 ?_;refine bD (λ c109=>?_) (λ c109=>?_)
   ·exact nv c109
   ·refine aV ?_;refine gO [0,1,2,3,4,5,6,7,8,9,10,11,12,13,14,15] ?_;refine yX ?_;refine aT ?_;(refine qj 125 (λ g125=>?_) (λ g125=>?_)<;>(first|refine iA ?_|(refine aX ?_)));all_goals ((first|refine iA ?_|(refine bW ?_));(first|refine iA ?_|(refine aT ?_));(first|refine iA ?_|(refine tN ?_));(first|refine iA ?_|(refine aX ?_));refine J18 ?_;(first|refine iA ?_|(refine iq ?_));refine jY ?_;refine J7 ?_)
    all_goals
    refine bD (λ c119=>?_) (λ c119=>?_)
    ·try exact nv c119
     all_goals have g4:=g3.to (λ _=>if_pos (show(k.only=true/\(aB x.L b).nd.val≠k.exp) from⟨by assumption,by assumption⟩))
     all_goals (refine iB ?_;refine aN (cV (hc:=λ w1 hw=>gV _ _ w1)) (λ x137=>?_);refine Fb ?_)
     all_goals refine aY results226 (λ w hw=>?_);exact⟨(dO true (aB x.L b).nd.val,1,x,[]),rfl,⟨g4,ok,by simp,Nat.le_refl _,bM _⟩,hw.bA (hF:=by exact aZ.nil)⟩
    ·all_goals have g4:=g3.to (λ _=>if_neg (show ¬(k.only=true/\(aB x.L b).nd.val≠k.exp) from by rintro ⟨h,h'⟩;simp_all))
     all_goals (refine pP ?_;refine Fa ?_;refine aD (cF (hc:=λ w1 hw=>aDf (v:=(aB x.L m)) h48.2 (eZ h (level:Int)) (ok.sM hw hA m))) (λ x141 h141=>?_))
     all_goals have hB:=aCo h48.2 (v:=(aB x.L m)) (eZ h (level:Int))
     all_goals (refine aA ?_;refine aC (bQ rf rfl) rfl ?_;refine aC (bQ rf rfl) rfl ?_;refine aJ (λ x22=>?_);refine Fb ?_;refine nG ?_;refine aN (cV (hc:=λ w1 hw=>ux hB (zj h48.2 (eZ h (level:Int)) x141) (hw.cl (.new .head)))) (λ x146=>?_))
     all_goals have hso:((Od (O2 (aB x.L m).c (eZ h (level:Int)))).getD 0)<=x.L.length:=aDK hB (zj h48.2 (eZ h (level:Int)) x141);have g5:=qE g4 hso
     all_goals (refine aA ?_;refine aC (bQ rf rfl) rfl ?_;refine aC (bQ rf rfl) rfl ?_;refine J8 ?_;refine aV ?_;refine eM [(0,[]),(1,[]),(2,[]),(3,[]),(4,[]),(5,[]),(6,[]),(7,[]),(8,[]),(9,[]),(10,[]),(11,[]),(12,[]),(13,[]),(16,[]),(19,[]),(20,[]),(14,[6,10,20]),(15,[6,20]),(17,[6,20]),(18,[20]),(21,[]),(22,[]),(23,[]),(24,[]),(25,[])] ?_;refine iR ?_;refine J9 ?_;refine aX ?_;refine bU (i:=6) (hq:=(aU (k:=2) (vs:=[.int .i64 k.t.root,.bool k.t.ro]) rf cY eE rfl rfl)) (h:=?_);refine iR ?_;refine aT ?_;refine Kb3 ?_;refine iR ?_;refine mI ?_;refine bK (i:=14) (hq:=(cM (hs:=xH k bx bm x dn rs) (os:=xW x) (hc:=λ w hs=>fS ((Od (O2 (aB x.L m).c (eZ h (level:Int)))).getD 0) (by omega) ok hs))) (hfire:=(λ _=>by(refine gM ?_;(repeat (first|exact aM.nil|refine aM.cons (by first|exact gJ (hq:=aU (k:=2) (vs:=[.int .i64 k.t.root,.bool k.t.ro]) rf cY eE rfl rfl)|exact fF) ?_));done))) (h:=λ x163 h163=>?_);refine dD (i:=15) (hq:=(cV (hc:=λ w1 hw=>Yj hB (level:Int) (aB x.L ((Od (O2 (aB x.L m).c (eZ h (level:Int)))).getD 0)).nd (hw.cl (.new .head))))) (hfire:=(λ _=>by((repeat (first|exact aM.nil|refine aM.cons (by first|exact gJ (hq:=aU (k:=2) (vs:=[.int .i64 k.t.root,.bool k.t.ro]) rf cY eE rfl rfl)|exact fF) ?_));done))) (h:=λ x164=>?_);refine bK (i:=17) (hq:=(cM (hs:=xH k bx bm x dn rs) (os:=xW x) (A0:=[((Pd (mh (aB x.L m) (eZ h (level:Int))) x141 (level:Int) (aB x.L ((Od (O2 (aB x.L m).c (eZ h (level:Int)))).getD 0)).nd).brA,aH (Y4 (mh (aB x.L m) (eZ h (level:Int))) x141 (level:Int) (aB x.L ((Od (O2 (aB x.L m).c (eZ h (level:Int)))).getD 0)).nd)),((Pd (mh (aB x.L m) (eZ h (level:Int))) x141 (level:Int) (aB x.L ((Od (O2 (aB x.L m).c (eZ h (level:Int)))).getD 0)).nd).prA,dI [])]) (hA:=aAs) (hc:=λ w hs=>hU hg (n:=(Pd (mh (aB x.L m) (eZ h (level:Int))) x141 (level:Int) (aB x.L ((Od (O2 (aB x.L m).c (eZ h (level:Int)))).getD 0)).nd)) (xs:=(Y4 (mh (aB x.L m) (eZ h (level:Int))) x141 (level:Int) (aB x.L ((Od (O2 (aB x.L m).c (eZ h (level:Int)))).getD 0)).nd)) (ys:=[]) m _ (gv _ _ _) (m8 _ _ _) (W7 hB _ _ _) (Nat.zero_le _) (Xy hB _ _ (ok.nv ((Od (O2 (aB x.L m).c (eZ h (level:Int)))).getD 0)).hash) hm (by rw[<- aAg,<- aC3 h48.2];exact g5) ok hs))) (hfire:=(λ _=>by(refine gM ?_;(repeat (first|exact aM.nil|refine aM.cons (by first|exact gJ (hq:=aU (k:=2) (vs:=[.int .i64 k.t.root,.bool k.t.ro]) rf cY eE rfl rfl)|exact fF) ?_));done))) (h:=λ x166 h166=>?_);refine bK (i:=18) (hq:=(cM (hs:=xH k bx bm x166.2.1 dn rs) (os:=xW x166.2.1) (hc:=λ w hs=>tY hg k.t i m x166.1 _ ht (by have:=h166.len;omega) h166.bd h166.go h166.ok hs))) (h:=λ x167 h167=>?_))
     all_goals have hch:=Ch.nx h167 (Ch.nx h166 ((Ch.base (F:=[])).cons (f:=(x141.1,aH (mX (mh (aB x.L m) (eZ h (level:Int))))))));have hlc:x.cs.length<=x167.2.1.cs.length:=by have:=h166.lc;have:=h167.lc;omega
     all_goals (refine dD (i:=21) (hq:=(cV (hc:=λ w1 hw=>qN _ _ _ _ w1))) (h:=λ x170=>?_);refine cW (i:=22) (hq:=(bQ rf rfl)) (h:=?_);refine cW (i:=23) (hq:=(bQ rf rfl)) (h:=?_);refine Cq ?_)
     all_goals refine aY results226 (λ w hw=>?_);obtain⟨N,hN,hf⟩:=hch.to (t':=K (oU true (aB x.L b).nd.val) (if x167.1=true then 1 else 0)) h167 (h167.go) hlc (bM _);exact⟨(oU true (aB x.L b).nd.val,(if x167.1=true then 1 else 0),x167.2.1,N),rfl,hN,(hw.fA hf).v4⟩
theorem T6(hg:g.Ok)(i m:Int)(hh:h<18446744073709551616)(level:Nat)(hlv:level<=1073741824)(K:Rs->Int->Tr)(ht:k.t.root<=9223372036854775807)(hi:i<=x.L.length)(hm:m<=x.L.length)(hA:∀f∈aP x.L,f∈A)(go:gG g x (kY k i m h level K))(ok:x.Ok)(hs:SF w D (xH k bx bm x dn rs) A [] (xW x) w):Calls prog 226 #[.pointer (some ⟨bx,0,none⟩),.int .i64 i,.int .i64 m,.int .u64 (h:Int),.int .i64 (level:Int)] w (cj g x K bx bm k dn rs D w):=by
 by_cases hk:(aB x.L m).nd.kind=6;·exact Uj hg i m hh level hlv K ht hi hm hA hk go ok hs
 ·cases hl:iO (aB x.L m).c (eZ h (level:Int)) with
  | none=>exact Tj hg i m hh level hlv K ht hi hm hA hk hl go ok hs
  | some b=>
   by_cases hi2:(aB x.L b).nd.kind=2;·exact Ta hg i m hh level hlv K ht hi hm hA hk hl hi2 go ok hs
   ·by_cases he:(aB x.L b).nd.key=k.key;·exact Ux hg i m hh level hlv K ht hi hm hA hk hl hi2 he go ok hs
    ·exact Tn hg i m hh level hlv K ht hi hm hA hk hl hi2 he go ok hs
end
end
end Go.Proofs.YtbajmaoegmbfgaaGreat

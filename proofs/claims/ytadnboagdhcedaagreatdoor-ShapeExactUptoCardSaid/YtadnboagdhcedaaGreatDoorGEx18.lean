/- Executions of the reference: PUT. -/
import Derived.Test.YtadnboagdhcedaaGreatDoorEx17
import Derived.Test.YtadnboagdhcedaaGreatDoorAuto

set_option linter.unusedSimpArgs false
set_option linter.unusedVariables false
namespace Go.Ct
section
open Go Go.RowKit
theorem mR{a b c:List aI}:∀f∈bD ((a++b)++c),f.2=[]∨f∈bD c++(bD b++bD a):=λ f hf=>by
 simp only[fH,List.mem_append] at hf ⊢
 rcases hf with(h|h)|h
 ·exact .inr (.inr (.inr h))
 ·exact .inr (.inr (.inl h))
 ·exact .inr (.inl h)
theorem wR{a b c d:List aI}:∀f∈bD (((a++b)++c)++d),f.2=[]∨f∈bD d++(bD c++(bD b++bD a)):=λ f hf=>by
 simp only[fH,List.mem_append] at hf ⊢
 rcases hf with((h|h)|h)|h
 ·exact .inr (.inr (.inr (.inr h)))
 ·exact .inr (.inr (.inr (.inl h)))
 ·exact .inr (.inr (.inl h))
 ·exact .inr (.inl h)
end
end Go.Ct
namespace Go.Proofs.YtadnboagdhcedaaGreatDoor
section
open Go Go.RowKit Go.Ct
section
variable{k:Cl}{bx bm:Nat}{x:XS}{dn:Bool}{rs:Rs}{D:List Nat}{A:Fr}{w:World}{g:Gx}
set_option maxRecDepth 100000 in
theorem aBk(hg:g.Ok){m:Nat}(K:Rs->Tr)(n:Nat)(hn:n<=1073741824)(hm:m<18446744073709551616)(em:k.mask=(m:Int))(ek:k.key.size<=64)(ht:k.t.root<=9223372036854775807)(hA:∀f∈bD x.L,f∈A)(go:gS g x (G0 k (jW k.key m) K n))(ok:x.Ok)(hs:SF w D (xH k bx bm x dn rs) A [] (xW x) w):Calls Tryz.prog 89 #[.pointer (some ⟨bx,0,none⟩)] w λ e w'=>∃q:Rs×XS×List aI,e=.returned (.agg ⟨q.1.cells⟩)/\Nx g x q.2.1 q.2.2 (K q.1) 0/\SF w D (xH k bx bm q.2.1 dn rs) [] (bD q.2.2) (xW q.2.1) w':=by
 refine enter Tryz.func89 Tryz.ntmps89 rfl rfl (cL hs) ?_;simp only[cP]
 refine J0 ?_;refine aT (λ x2=>?_);refine Vy ?_;refine eN [3,4,13,14,15,16,17,18,19,20,21,22,23,24,25,26,27,28] (λ j:Nat=>[(3,.pointer (some ⟨j,0,none⟩)),(4,.int .u64 (((jW k.key m):Nat):Int))]) (λ _=>True) (λ j=>[(j,.cells ⟨[.int .i64 k.t.root,.bool k.t.ro]⟩ 29 (0,0)),(x2,.cells ⟨Rs.zero.cells⟩ 68 (0,0)),(bx,xO k bm x dn rs),(bm,xM x)]) (λ _=>[]) (λ _=>xW x) (by decide) (λ _=>by exact rfl) ?_ (λ j f hx=>?_)
 ·refine K0k ?_;refine K0e ?_;refine fV (E:=[15,16]) (by decide +kernel) ((.cons ?_ (.cons ?_ .nil)))
  ·refine Ga (i:=15) (hq:=(cV (hc:=λ w1 hw=>nU em hm ek w1))) (hfire:=(λ _=>by(refine aG.cons (by exact cG (hq:=aW (k:=2) (vs:=[.int .i64 k.t.root,.bool k.t.ro]) rf dI dR rfl rfl)) ?_;exact aG.nil))) (h:=λ x28=>?_);refine gG (hfire:=(λ _=>by((repeat (first|exact aG.nil|refine aG.cons (by first|exact cG (hq:=aW (k:=2) (vs:=[.int .i64 k.t.root,.bool k.t.ro]) rf dI dR rfl rfl)|exact bY) ?_));done))) (h:=λ x3=>?_);refine Cv ?_;refine eQ (x3) ?_
   ·trivial
  ·refine gW (i:=16) (hfire:=(λ _=>by((repeat (first|exact aG.nil|refine aG.cons (by first|exact cG (hq:=aW (k:=2) (vs:=[.int .i64 k.t.root,.bool k.t.ro]) rf dI dR rfl rfl)|exact bY) ?_));done))) (h:=λ x3=>?_);refine cA (i:=15) (hq:=(cV (hc:=λ w1 hw=>nU em hm ek w1))) (hfire:=(λ _=>by(refine aG.cons (by exact cG (hq:=aW (k:=2) (vs:=[.int .i64 k.t.root,.bool k.t.ro]) rf dI dR rfl rfl)) ?_;exact aG.nil))) (h:=λ x28=>?_);refine Cv ?_;refine eQ (x3) ?_
   ·trivial
 refine K0a ?_;refine Ez ?_;refine kK [5,6,7,8,9,10,11,12,29,30,31,32,33,34,35,36,37,38,39,40,41,42,43,44,45,46,47,48,49,50,51,52,53,54,55,56,57,58,59,60,61,62,63,64,65,66,67,68,69,70,71,72,73,74,75,76,77,78,79,80,81,82,83,84,85,86,87,88,89,90,91,92,93,94,95,96,97,98,99,100,101] (λ y:Nat×XS×List aI=>[]) (λ y=>y.1<=n/\Nx g x y.2.1 y.2.2 (G0 k (jW k.key m) K y.1) 0) (λ y=>[(j,.cells ⟨[.int .i64 k.t.root,.bool k.t.ro]⟩ 29 (0,0)),(x2,.cells ⟨Rs.zero.cells⟩ 68 (0,0)),(bx,xO k bm y.2.1 dn rs),(bm,xM y.2.1)]) (λ y=>bD y.2.2) (λ y=>xW y.2.1) (λ y=>y.1) ((n,x,[])) (⟨Nat.le_refl n,Nx.start go ok |>.cU go (bT _)⟩) (λ y f hx=>?_) (hw0:=λ w hw=>hw);refine K0a ?_;obtain⟨hyn,hy⟩:=hx
 refine K2j ?_;refine bA (λ c33=>?_) (λ c33=>?_)
 ·obtain⟨fu,hfu,gx⟩:=gS.jY (T:=λ q=>G0 k (jW k.key m) K q) hy.go (by simpa using c33) rfl hg
  refine bB ?_;refine cE ?_;refine Kd2 ?_;refine aD (cM (hs:=xH k bx bm y.2.1 dn rs) (os:=xW y.2.1) (hc:=λ w hs=>Cz hg k.t _ ht gx hy.ok hs)) (λ x36 h36=>?_);refine vE ?_;refine aD (cM (hs:=xH k bx bm x36.2.1 dn rs) (os:=xW x36.2.1) (hc:=λ w hs=>cW x36.1 _ h36.bd h36.go h36.ok hs)) (λ x39 h39=>?_);refine cJ ?_;refine J1 ?_;refine cR ?_;refine zR ?_;refine kK [5,7,8,9,10,11,12,41,42,43,44,45,46,47,48,49,50,51,52,53,54,55,56,57,58,59,60,61,62,63,64,65,66,67,68,69,70,71,72,73,74,75,76,77,78,79,80,81,82,83,84,85,86,87,88,89,90,91,92,93,94,95,96,97,98,99,100,101] (λ z:Nat×Int×Int×XS×List aI=>[(5,.int .i64 z.2.1),(7,.int .i64 z.2.2.1),(8,.int .i64 (((fu-z.1):Nat):Int))]) (λ z=>z.1<=fu/\Nx g x z.2.2.2.1 z.2.2.2.2 (Dz k (jW k.key m) K (G0 k (jW k.key m) K fu) (aA x36.2.1.L x36.1).nd.gen z.1 z.2.1 z.2.2.1 (fu-z.1)) z.2.1/\z.2.2.1<=z.2.2.2.1.L.length) (λ z=>[(j,.cells ⟨[.int .i64 k.t.root,.bool k.t.ro]⟩ 29 (0,0)),(x2,.cells ⟨Rs.zero.cells⟩ 68 (0,0)),(bx,xO k bm z.2.2.2.1 dn rs),(bm,xM z.2.2.2.1)]) (λ z=>bD z.2.2.2.2) (λ z=>xW z.2.2.2.1) (λ z=>z.1) ((fu,x36.1,0,x36.2.1,y.2.2++x36.2.2)) (⟨Nat.le_refl fu,(hy.trans h36).cU (show gS g x36.2.1 (Dz k (jW k.key m) K (G0 k (jW k.key m) K fu) (aA x36.2.1.L x36.1).nd.gen fu x36.1 0 (fu-fu)) from(Nat.sub_self fu).symm▸h39.1) h36.bd,bT _⟩) (λ z f hx=>?_) (hw0:=λ w hw=>(hw.fN nS).zA1);refine K0a ?_;obtain⟨hzf,hz,hzp⟩:=hx
  refine K2j ?_;refine bA (λ c45=>?_) (λ c45=>?_)
  ·obtain⟨fu2,hfu2,gz⟩:=gS.jY (T:=λ q=>(Dz k (jW k.key m) K (G0 k (jW k.key m) K fu) (aA x36.2.1.L x36.1).nd.gen q z.2.1 z.2.2.1 (fu-z.1))) hz.go (by simpa using c45) rfl hg
   refine mZ ?_;refine Kd2 ?_;refine aB ?_;refine aD (cM (hs:=xH k bx bm z.2.2.2.1 dn rs) (os:=xW z.2.2.2.1) (hc:=λ w hs=>oU hg k.t z.2.1 _ ht hz.bd gz hz.ok hs)) (λ x51 h51=>?_);have hl51:=h51.len;have hb51:=h51.bd;have hbz:=hz.bd;have hch:=Ch.nx h51 hz.ch;refine gX ?_;refine Kd8 ?_;refine bA (λ c55=>?_) (λ c55=>?_)
   ·refine Zb ?_;refine gT (by exact(fu,x51.2.1,(z.2.2.2.2++x51.2.2))) ?_ (hw1:=λ w hw=>by exact(hw.fN nS).zA1)
    ·first
     | exact⟨by show fu<=n;omega,(((hz.trans h51).trans h76).trans h97).cU g4 (bT _)⟩
     | exact⟨by show fu<=n;omega,((hz.trans h51).trans h76).cU g3 (bT _)⟩
     | exact⟨by show fu<=n;omega,((hz.trans h51).trans h68).cU h68.go (bT _)⟩
     | exact⟨by show fu<=n;omega,(hz.trans h51).cU (h51.go.cB (by assumption)) (bT _)⟩
     | exact⟨by show fu<=n;omega,hz.cU (hz.go.cB (by simpa using c45)) (bT _)⟩
   ·refine jH ?_;refine jJ ?_;refine aD (cM (hs:=xH k bx bm x51.2.1 dn rs) (os:=xW x51.2.1) (hc:=λ w hs=>cW x51.1 _ h51.bd h51.go h51.ok hs)) (λ x58 h58=>?_);refine cJ ?_;refine rW ?_;refine bA (λ c60=>?_) (λ c60=>?_)
    ·have g1:=h58.1.to (λ _=>if_pos c60);refine Kd2 ?_;refine pK ?_;refine pK ?_;refine oQ ?_;refine aD (cM (hs:=xH k bx bm x51.2.1 dn rs) (os:=xW x51.2.1) (A0:=bD x51.2.1.L) (hA:=Ch.all hch hA) (hc:=λ w hs=>M1 hg k.t z.2.2.1 z.2.1 (tK k.key m) ((((fu-z.1):Nat):Int)-1) _ ht (by omega) (by omega) (λ f hf=>hf) g1 h51.ok hs)) (λ x68 h68=>?_);refine aK ?_;refine Zb ?_;refine gT (by exact(fu,x68.2.1,((z.2.2.2.2++x51.2.2)++x68.2.2))) ?_ (hw1:=λ w hw=>by exact(hw.fN mR).zA1)
     ·first
      | exact⟨by show fu<=n;omega,(((hz.trans h51).trans h76).trans h97).cU g4 (bT _)⟩
      | exact⟨by show fu<=n;omega,((hz.trans h51).trans h76).cU g3 (bT _)⟩
      | exact⟨by show fu<=n;omega,((hz.trans h51).trans h68).cU h68.go (bT _)⟩
      | exact⟨by show fu<=n;omega,(hz.trans h51).cU (h51.go.cB (by assumption)) (bT _)⟩
      | exact⟨by show fu<=n;omega,hz.cU (hz.go.cB (by simpa using c45)) (bT _)⟩
    ·have g1:=h58.1.to (λ _=>if_neg c60);refine Cg ?_;refine pK ?_;refine pK ?_;refine aD (cM (hs:=xH k bx bm x51.2.1 dn rs) (os:=xW x51.2.1) (A0:=bD x51.2.1.L) (hA:=Ch.all hch hA) (hc:=λ w hs=>Zi hg z.2.1 x51.1 (tK k.key m) (fu-z.1) (by omega) (aA x36.2.1.L x36.1).nd.gen _ ht (by omega) (by omega) (λ f hf=>hf) g1 h51.ok hs)) (λ x76 h76=>?_);have hl76:=h76.len;have hch2:=Ch.nx h76 hch;refine K0d ?_;refine aT (λ x10=>?_);refine nY (λ _=>?_);refine gX ?_;refine oR ?_;refine aB ?_;(refine eM 83 (λ g83=>?_) (λ g83=>?_)<;>refine Ka0 ?_);all_goals (refine zC ?_;refine aK ?_)
     all_goals
     refine bA (λ c86=>?_) (λ c86=>?_)
     ·all_goals (refine Kb5 ?_)
      all_goals
       refine bK Tryz.results89 (λ w hw=>?_);exact⟨(x76.1,x76.2.2.1,((z.2.2.2.2++x51.2.2)++x76.2.2.2)),rfl,((hz.trans h51).trans h76).cU (by first|exact h76.go.cB (by assumption)|exact h76.go.to (λ _=>if_pos (by assumption))) (bT _),(hw.fN mR).zA0⟩
     ·try exact nv c86
      all_goals
       have g2:=h76.go.to (λ _=>if_neg (by assumption))
      all_goals (refine jH ?_;refine J2 ?_;refine rW ?_)
      all_goals
       refine bA (λ c89=>?_) (λ c89=>?_)
       ·have g3:=g2.to (λ _=>if_pos (by assumption));refine Zb ?_;refine gT (by exact(fu,x76.2.2.1,((z.2.2.2.2++x51.2.2)++x76.2.2.2))) ?_ (hw1:=λ w hw=>by exact(hw.fN mR).zA1)
        ·first
         | exact⟨by show fu<=n;omega,(((hz.trans h51).trans h76).trans h97).cU g4 (bT _)⟩
         | exact⟨by show fu<=n;omega,((hz.trans h51).trans h76).cU g3 (bT _)⟩
         | exact⟨by show fu<=n;omega,((hz.trans h51).trans h68).cU h68.go (bT _)⟩
         | exact⟨by show fu<=n;omega,(hz.trans h51).cU (h51.go.cB (by assumption)) (bT _)⟩
         | exact⟨by show fu<=n;omega,hz.cU (hz.go.cB (by simpa using c45)) (bT _)⟩
       ·have g3:=g2.to (λ _=>if_neg (by assumption));refine Cg ?_;refine pK ?_;refine aB ?_;refine aS (cV (hc:=λ w1 hw=>fF (tK k.key m) (((fu-z.1):Nat):Int) w1)) (λ x95=>?_);refine aB ?_;refine aD (cM (hs:=xH k bx bm x76.2.2.1 dn rs) (os:=xW x76.2.2.1) (A0:=bD x76.2.2.1.L) (hA:=Ch.all hch2 hA) (hc:=λ w hs=>Ve hg z.2.1 x51.1 (iE (jW k.key m) (((fu-z.1):Nat):Int)) (aA x36.2.1.L x36.1).nd.gen _ ht (by omega) (by omega) (λ f hf=>hf) g3 h76.ok hs)) (λ x97 h97=>?_);refine Ke4 ?_;refine rW ?_;refine bA (λ c99=>?_) (λ c99=>?_)
        ·have g4:=h97.go.to (λ _=>if_pos (by assumption));refine Zb ?_;refine gT (by exact(fu,x97.2.1,(((z.2.2.2.2++x51.2.2)++x76.2.2.2)++x97.2.2))) ?_ (hw1:=λ w hw=>by exact(hw.fN wR).zA1)
         ·first
          | exact⟨by show fu<=n;omega,(((hz.trans h51).trans h76).trans h97).cU g4 (bT _)⟩
          | exact⟨by show fu<=n;omega,((hz.trans h51).trans h76).cU g3 (bT _)⟩
          | exact⟨by show fu<=n;omega,((hz.trans h51).trans h68).cU h68.go (bT _)⟩
          | exact⟨by show fu<=n;omega,(hz.trans h51).cU (h51.go.cB (by assumption)) (bT _)⟩
          | exact⟨by show fu<=n;omega,hz.cU (hz.go.cB (by simpa using c45)) (bT _)⟩
        ·have g4:=h97.go.to (λ _=>if_neg (by assumption));refine bB ?_;refine Il ?_;refine J8 ?_;refine Kc2 ?_;refine gT ((z.1-1,x97.1,z.2.1,x97.2.1,(((z.2.2.2.2++x51.2.2)++x76.2.2.2)++x97.2.2))) ?_ (hw1:=λ w hw=>(hw.fN wR).zA1)
         ·have e1:z.1-1=fu2:=by omega
          have e2:(fu-z.1)+1=fu-fu2:=by omega
          refine⟨by show z.1-1<=fu;omega,((((hz.trans h51).trans h76).trans h97)).cU ?_ h97.bd,by show z.2.1<=(x97.2.1.L.length:Int);have:=h97.len;omega⟩
          show gS g x97.2.1 (Dz k (jW k.key m) K (G0 k (jW k.key m) K fu) (aA x36.2.1.L x36.1).nd.gen (z.1-1) x97.1 z.2.1 (fu-(z.1-1)))
          rw[e1,<- e2]
          exact g4
  ·refine Zb ?_;refine gT (by exact(fu,z.2.2.2.1,z.2.2.2.2)) ?_ (hw1:=λ w hw=>by exact hw.zA1)
   ·first
    | exact⟨by show fu<=n;omega,(((hz.trans h51).trans h76).trans h97).cU g4 (bT _)⟩
    | exact⟨by show fu<=n;omega,((hz.trans h51).trans h76).cU g3 (bT _)⟩
    | exact⟨by show fu<=n;omega,((hz.trans h51).trans h68).cU h68.go (bT _)⟩
    | exact⟨by show fu<=n;omega,(hz.trans h51).cU (h51.go.cB (by assumption)) (bT _)⟩
    | exact⟨by show fu<=n;omega,hz.cU (hz.go.cB (by simpa using c45)) (bT _)⟩
 ·refine bM rfl ?_;refine Ke0 ?_;refine bK Tryz.results89 (λ w hw=>?_);exact⟨(Rs.zero,y.2.1,y.2.2),rfl,hy.cU (hy.go.cB (by simpa using c33)) (bT _),hw.zA0⟩
end
end

/- Guards that are not wanted themselves. -/
end Go.Proofs.YtadnboagdhcedaaGreatDoor
namespace Go.Ct
section
open Go Go.RowKit
variable{P:Program}{n:Nat}{Q:Exit->Act->World->Prop}{ks:List CK}{ops:Array Oper}{l:List Oper}{S:List (Nat×Value)}{G:World->Prop}
theorem Qc{d:Nat}{op:Op}{ty:TypeId}{pos:String}{af:Array Edge}{j:Nat}{want:Bool}{g:Nat}(hd:Nat.blt d n=true)
  (hj:(ops[j]?).bind (·.dst)=some g) (hg:look S g=undef)
  (h:JL P n Q ks ops l ((d,undef)::S) G):JL P n Q ks ops (⟨some d,op,ty,pos,af,some (j,want)⟩::l) S G:=⟨λ hS w hw=>by
 have hy:yielded ops (fA n S) j=none:=by
  have e:=congrFun (pL (ds:=[]) hS) (.tmp g);simp only[Act.eval,ev,hg] at e
  unfold yielded
  rw[hj]
  simp only[Option.bind_some]
  rw[Array.getD_eq_getD_getElem?] at e
  cases h2:(fA n S)[g]? with
  | none=>rfl
  | some u=>rw[h2] at e;simp[undef] at e;subst e;rfl
 refine wpList_step λ K hK=>?_
 have hw':Region.wanted ⟨some d,op,ty,pos,af,some (j,want)⟩ (yielded ops (fA n S))=false:=by
  simp only[Region.wanted,hy]
  rfl
 simp only[hw',Bool.false_eq_true,if_false,Lq]
 exact hK _ _ (h.run (hS.cons hd) w hw)⟩
end
end Go.Ct
namespace Go.Proofs.YtadnboagdhcedaaGreatDoor
section
open Go.RowKit Go.Ct
theorem Ca{n:Nat}{Q:Exit->Act->World->Prop}{ks:List CK}{ops:Array Oper}{l:List Oper}{S:List (Nat×Value)}{G:World->Prop}{d j g:Nat}{op:Op}{ty:TypeId}{pos:String}{af:Array Edge}{want:Bool}(h:JL Tryz.prog n Q ks ops l ((d,undef)::S) G)(hd:Nat.blt d n=true:=by exact rfl)(hj:(ops[j]?).bind (·.dst)=some g:=by exact rfl)(hg:Ct.look S g=undef:=by exact rfl):JL Tryz.prog n Q ks ops (⟨some d,op,ty,pos,af,some (j,want)⟩::l) S G:=Qc hd hj hg h
end

/- Executions of the reference: one attempt of DROP at a leaf. -/
end Go.Proofs.YtadnboagdhcedaaGreatDoor
namespace Go.Ct
section
open Go Go.RowKit
theorem pC{g:Gx}{x:XS}{r:Int}{K:Nv->Tr}(h:gS g x (.node r K))(hr:r<=x.L.length):gS g x (K (aA x.L r).c):=by
 have:=h.node hr;rwa [show bH x.nodes r=(aA x.L r).c from(Lo x.L r).symm] at this
section
variable{P:Program}{S:List (Nat×Value)}{G:World->Prop}{d:Nat}{ty t t':TypeId}{pos:String}{af:Array Edge}{gd:Option (Nat×Bool)}{x y:Operand}{a b:ByteArray}
theorem na(hx:ev S x=.string a)(hy:ev S y=.string b)(h:¬a=b):aM P S G ⟨some d,.binOp .neq t x y t',ty,pos,af,gd⟩ (.bool true):=by
 have:=Hb (P:=P) (G:=G) (d:=d) (ty:=ty) (pos:=pos) (af:=af) (gd:=gd) (t:=t) (t':=t') hx hy;rwa [bne,we h] at this
theorem qp(hx:ev S x=.string a)(hy:ev S y=.string b)(h:a=b):aM P S G ⟨some d,.binOp .neq t x y t',ty,pos,af,gd⟩ (.bool false):=by
 have:=Hb (P:=P) (G:=G) (d:=d) (ty:=ty) (pos:=pos) (af:=af) (gd:=gd) (t:=t) (t':=t') hx hy;rwa [bne,ur h] at this
end
end
end Go.Ct
namespace Go.Proofs.YtadnboagdhcedaaGreatDoor
section
open Go Go.RowKit Go.Ct
theorem po{m:Nat}{o:Option (Nat×List Int)}{w:World}(h:wF m o){x:Option Addr×Nat}{r:Nv}(e:r=(nB o x).c (mK o) [])(hc:Go.Ct.Cl w x.1 (aH (mK o))):Calls Tryz.prog 149 #[(nB o x).v] w λ e w'=>e=.returned (.tuple #[.int .i64 ((Ly r).getD 0),.bool (Ly r).isSome])/\St w [] [] w':=by
 obtain⟨b,h1,h2⟩:=N7 h x
 have:=Kh (n:=nB o x) h1 h2 (Q8 h hc);rw[z6,<- e] at this;exact this
theorem aCm{m:Nat}{o:Option (Nat×List Int)}(h:wF m o){x:Option Addr×Nat}{r:Nv}(e:r=(nB o x).c (mK o) []):(Ly r).getD 0<=m:=by
 rw[e,<- z6]
 unfold j8
 split
 ·refine nV (λ v hv=>?_) 0;cases o with
  | none=>exact(List.not_mem_nil hv).elim
  | some q=>exact(h.out q rfl).2.2 v hv
 ·exact bT _
section
variable{k:Cl}{bx bm:Nat}{x:XS}{dn:Bool}{rs:Rs}{D:List Nat}{A:Fr}{w:World}{g:Gx}
set_option maxRecDepth 100000 in
theorem Rw(hg:g.Ok)(i m:Int){h:Nat}(hh:h<18446744073709551616)(level:Nat)(hlv:level<=1073741824)(K:Rs->Int->Tr)(ht:k.t.root<=9223372036854775807)(hi:i<=x.L.length)(hm:m<=x.L.length)(hA:∀f∈bD x.L,f∈A)(hk:(aA x.L m).nd.kind=6)(go:gS g x (kO k i m h level K))(ok:x.Ok)(hs:SF w D (xH k bx bm x dn rs) A [] (xW x) w):Calls Tryz.prog 124 #[.pointer (some ⟨bx,0,none⟩),.int .i64 i,.int .i64 m,.int .u64 (h:Int),.int .i64 (level:Int)] w (Zw g x K bx bm k dn rs D w):=by
 refine K1a ?_;intro hyl hlL h48;refine K1u ?_;simp only[cP]
 refine J0 ?_;refine aT (λ x10=>?_);refine gX ?_;refine eN [12,13,26,27,28,29,30,31,32,33] (λ j:Nat=>[(12,.pointer (some ⟨j,0,none⟩)),(13,.string k.key)]) (λ _=>True) (λ j=>[(j,.cells ⟨(aA x.L m).nd.cells⟩ 77 (0,0)),(x10,.cells ⟨Rs.zero.cells⟩ 68 (0,0)),(bx,xO k bm x dn rs),(bm,xM x)]) (λ _=>[]) (λ _=>xW x) (by decide) (λ _=>by exact rfl) ?_ (λ j f hx=>?_)
 ·refine K0f ?_;refine fV (E:=[2,8]) (by decide +kernel) ((.cons ?_ (.cons ?_ .nil)))
  ·refine mI (i:=2) (hq:=(cM (hs:=xH k bx bm x dn rs) (os:=xW x) (hc:=λ w hs=>gE m (by omega) ok hs))) (h:=λ x28 h28=>?_);refine gG (h:=λ x12=>?_);refine K2d ?_
   ·trivial
  ·refine gW (i:=8) (h:=λ x12=>?_);refine bL (i:=2) (hq:=(cM (hs:=xH k bx bm x dn rs) (os:=xW x) (hc:=λ w hs=>gE m (by omega) ok hs))) (h:=λ x28 h28=>?_);refine K2d ?_
   ·trivial
 refine K0a ?_;refine Ce ?_;refine rW ?_;refine bA (λ c36=>?_) (λ c36=>?_)
 ·have g1:=h48.1.to (λ _=>if_pos hk);refine Ka9 ?_;refine aS (cV (hc:=λ w1 hw=>Ni (v:=(aA x.L m)) (n:=0) k.key (ok.sR hw hA m) (ok.ysl m))) (λ x41=>?_);refine K0d ?_;refine J8 ?_;refine jL ?_;refine C6 ?_;(refine eM 46 (λ g46=>?_) (λ g46=>?_)<;>refine Ka0 ?_);all_goals ((first|refine aJ ?_|(refine aF ?_;refine eR ?_));refine Ka1 ?_;refine Ka1 ?_;refine Ka2 ?_;refine Ka0 ?_)
  all_goals (first|refine Ca ?_|(refine eM 52 (λ g52=>?_) (λ g52=>?_)<;>refine Ka0 ?_))
  all_goals ((first|refine aJ ?_|refine Ca ?_|(refine Ka4 ?_));(first|refine aJ ?_|refine Ca ?_|(refine aF ?_;refine eR ?_));(first|refine aJ ?_|refine Ca ?_|(refine aF ?_;refine aC ?_));(first|refine aJ ?_|refine Ca ?_|(refine aF ?_;refine aC ?_));(first|refine aJ ?_|refine Ca ?_|(refine aF ?_;refine bI ?_));(first|refine aJ ?_|refine Ca ?_|(refine aF ?_;refine iM ?_));(first|refine aJ ?_|(refine aF ?_;refine cI ?_));refine cI ?_;refine aK ?_)
  all_goals
  refine bA (λ c61=>?_) (λ c61=>?_)
  ·try exact nv c61
   all_goals
    have g2:=g1.to (λ _=>if_pos (show((eK (aA x.L m).c.ys k.key).isSome=false∨(k.only=true/\(eK (aA x.L m).c.ys k.key).getD 0≠k.exp)) from by first|exact Or.inl (by assumption)|exact Or.inr ⟨by assumption,by assumption⟩))
   all_goals (refine jJ ?_;refine aS (cV (hc:=λ w1 hw=>hY _ _ w1)) (λ x64=>?_);refine El ?_)
   all_goals
    refine bK Tryz.results124 (λ w hw=>?_);exact⟨(jV (eK (aA x.L m).c.ys k.key).isSome ((eK (aA x.L m).c.ys k.key).getD 0),1,x,[]),rfl,⟨g2,ok,by simp,Nat.le_refl _,bT _⟩,hw.aQ (hF:=by exact aP.nil)⟩
  ·try exact nv c61
   all_goals
    have g2:=g1.to (λ _=>if_neg (show ¬((eK (aA x.L m).c.ys k.key).isSome=false∨(k.only=true/\(eK (aA x.L m).c.ys k.key).getD 0≠k.exp)) from by rintro (h|⟨h,h'⟩)<;>simp_all))
   all_goals (refine bB ?_;refine vP ?_;refine aD (cF (hc:=λ w1 hw=>aBe (v:=(aA x.L m)) h48.2 k.key (ok.sR hw hA m) (by omega))) (λ x68 h68=>?_);refine aB ?_;refine aE (bW rf rfl) rfl ?_;refine aE (bW rf rfl) rfl ?_;refine aT (λ x16=>?_);refine nY (λ _=>?_);refine gX ?_;refine dZ [(0,[]),(1,[]),(2,[]),(3,[]),(4,[]),(5,[]),(6,[]),(7,[]),(8,[]),(9,[]),(10,[]),(11,[]),(14,[]),(12,[6]),(13,[]),(15,[]),(16,[]),(17,[]),(18,[]),(19,[])] ?_;refine iJ ?_;refine J9 ?_;refine aN ?_;refine bJ (i:=6) (hq:=(aW (k:=2) (vs:=[.int .i64 k.t.root,.bool k.t.ro]) rf dI dR rfl rfl)) (h:=?_);refine iJ ?_;refine Kb7 ?_;refine iJ ?_;refine bL (i:=12) (hq:=(cM (hs:=xH k bx bm x dn rs) (os:=xW x) (A0:=[((Nz (pZ (aA x.L m).nd (aA x.L m).xs (aA x.L m).ys k.key) (aA x.L m).nd.hash x68).brA,aH []),((Nz (pZ (aA x.L m).nd (aA x.L m).xs (aA x.L m).ys k.key) (aA x.L m).nd.hash x68).prA,dK (Ie (pZ (aA x.L m).nd (aA x.L m).xs (aA x.L m).ys k.key)))]) (hA:=aB0) (hc:=λ w hs=>iD hg (n:=Nz (pZ (aA x.L m).nd (aA x.L m).xs (aA x.L m).ys k.key) (aA x.L m).nd.hash x68) (xs:=[]) (ys:=Ie (pZ (aA x.L m).nd (aA x.L m).xs (aA x.L m).ys k.key)) m _ (jz _ _ _).1 (jz _ _ _).2 (by decide) (by have:=aAf (aA x.L m).xs (aA x.L m).ys (aA x.L m).nd k.key;omega) (zw _ h48.2.hash) hm (by rw[aCs];exact g2) ok hs))) (hfire:=(λ _=>by(refine cQ ?_;refine aG.cons (by exact cG (hq:=aW (k:=2) (vs:=[.int .i64 k.t.root,.bool k.t.ro]) rf dI dR rfl rfl)) ?_;exact aG.nil))) (h:=λ x83 h83=>?_);refine bL (i:=13) (hq:=(cM (hs:=xH k bx bm x83.2.1 dn rs) (os:=xW x83.2.1) (hc:=λ w hs=>tX hg k.t i m x83.1 _ ht (by have:=h83.len;omega) h83.bd h83.go h83.ok hs))) (h:=λ x84 h84=>?_))
   all_goals
    have hch:=Ch.nx h84 (Ch.nx h83 ((Ch.base (F:=[])).cons (f:=(x68.1,dK (Ie (pZ (aA x.L m).nd (aA x.L m).xs (aA x.L m).ys k.key))))));have hlc:x.cs.length<=x84.2.1.cs.length:=by have:=h83.lc;have:=h84.lc;omega
   all_goals (refine cA (i:=15) (hq:=(cV (hc:=λ w1 hw=>pT _ _ _ _ w1))) (h:=λ x86=>?_);refine cS (i:=16) (hq:=(bW rf rfl)) (h:=?_);refine cS (i:=17) (hq:=(bW rf rfl)) (h:=?_);refine Cv ?_)
   all_goals
    refine bK Tryz.results124 (λ w hw=>?_);obtain⟨N,hN,hf⟩:=hch.to (t':=K (rU true ((eK (aA x.L m).c.ys k.key).getD 0)) (if x84.1=true then 1 else 0)) h84 (h84.go) hlc (bT _)
    exact⟨(rU true ((eK (aA x.L m).c.ys k.key).getD 0),(if x84.1=true then 1 else 0),x84.2.1,N),rfl,hN,(hw.fN hf).zA0⟩
 ·exact absurd hk c36
set_option maxRecDepth 100000 in
theorem Ua(hg:g.Ok)(i m:Int){h:Nat}(hh:h<18446744073709551616)(level:Nat)(hlv:level<=1073741824)(K:Rs->Int->Tr)(ht:k.t.root<=9223372036854775807)(hi:i<=x.L.length)(hm:m<=x.L.length)(hA:∀f∈bD x.L,f∈A)(hk:¬(aA x.L m).nd.kind=6)(hl:mU (aA x.L m).c (iE h (level:Int))=none)(go:gS g x (kO k i m h level K))(ok:x.Ok)(hs:SF w D (xH k bx bm x dn rs) A [] (xW x) w):Calls Tryz.prog 124 #[.pointer (some ⟨bx,0,none⟩),.int .i64 i,.int .i64 m,.int .u64 (h:Int),.int .i64 (level:Int)] w (Zw g x K bx bm k dn rs D w):=by
 refine K1a ?_;intro hyl hlL h48;refine K1u ?_;simp only[cP]
 refine J0 ?_;refine aT (λ x10=>?_);refine gX ?_;refine eN [12,13,26,27,28,29,30,31,32,33] (λ j:Nat=>[(12,.pointer (some ⟨j,0,none⟩)),(13,.string k.key)]) (λ _=>True) (λ j=>[(j,.cells ⟨(aA x.L m).nd.cells⟩ 77 (0,0)),(x10,.cells ⟨Rs.zero.cells⟩ 68 (0,0)),(bx,xO k bm x dn rs),(bm,xM x)]) (λ _=>[]) (λ _=>xW x) (by decide) (λ _=>by exact rfl) ?_ (λ j f hx=>?_)
 ·refine K0f ?_;refine fV (E:=[2,8]) (by decide +kernel) ((.cons ?_ (.cons ?_ .nil)))
  ·refine mI (i:=2) (hq:=(cM (hs:=xH k bx bm x dn rs) (os:=xW x) (hc:=λ w hs=>gE m (by omega) ok hs))) (h:=λ x28 h28=>?_);refine gG (h:=λ x12=>?_);refine K2d ?_
   ·trivial
  ·refine gW (i:=8) (h:=λ x12=>?_);refine bL (i:=2) (hq:=(cM (hs:=xH k bx bm x dn rs) (os:=xW x) (hc:=λ w hs=>gE m (by omega) ok hs))) (h:=λ x28 h28=>?_);refine K2d ?_
   ·trivial
 refine K0a ?_;refine Ce ?_;refine rW ?_;refine bA (λ c36=>?_) (λ c36=>?_)
 ·exact absurd c36 hk
 ·have g0:=h48.1.to (λ _=>if_neg hk);have g1:=K8 g0 (by rw[hl];rfl);refine K0v ?_;intro x91;refine J1 ?_;refine vP ?_;refine aS (cV (hc:=λ w1 hw=>ui (v:=(aA x.L m)) h48.2 hl (ok.sR hw hA m))) (λ x95=>?_);refine K0d ?_;refine J8 ?_;refine jJ ?_;refine aD (cM (hs:=xH k bx bm x dn rs) (os:=xW x) (hc:=λ w hs=>gE 0 (by decide) ok hs)) (λ x100 h100=>?_);refine aT (λ x21=>?_);refine J5 ?_;refine Ez ?_;refine jJ ?_;refine aJ ?_;refine pu ?_;refine J1 ?_;refine bA (λ c101=>?_) (λ c101=>?_)
  ·exact nv c101
  ·refine J2 ?_;refine C6 ?_;refine aJ ?_;refine Zv ?_;(refine aJ ?_);refine Kd0 ?_;refine bA (λ c109=>?_) (λ c109=>?_)
   ·refine J0 ?_;refine aS (cV (hc:=λ w1 hw=>hY _ _ w1)) (λ x118=>?_);refine El ?_;refine bK Tryz.results124 (λ w hw=>?_);exact⟨(jV false 0,1,x,[]),rfl,⟨g1,ok,by simp,Nat.le_refl _,bT _⟩,hw.aQ (hF:=by exact aP.nil)⟩
   ·exact nv c109
set_option maxRecDepth 100000 in
theorem Ts(hg:g.Ok)(i m:Int){h:Nat}(hh:h<18446744073709551616)(level:Nat)(hlv:level<=1073741824)(K:Rs->Int->Tr)(ht:k.t.root<=9223372036854775807)(hi:i<=x.L.length)(hm:m<=x.L.length)(hA:∀f∈bD x.L,f∈A)(hk:¬(aA x.L m).nd.kind=6){b:Int}(hl:mU (aA x.L m).c (iE h (level:Int))=some b)(hi2:(aA x.L b).nd.kind=2)(go:gS g x (kO k i m h level K))(ok:x.Ok)(hs:SF w D (xH k bx bm x dn rs) A [] (xW x) w):Calls Tryz.prog 124 #[.pointer (some ⟨bx,0,none⟩),.int .i64 i,.int .i64 m,.int .u64 (h:Int),.int .i64 (level:Int)] w (Zw g x K bx bm k dn rs D w):=by
 refine K1a ?_;intro hyl hlL h48;have hb:b<=x.L.length:=by have:=qL (ok.nv m) (iE h (level:Int));rw[hl] at this;exact this
 refine K1u ?_;simp only[cP]
 refine J0 ?_;refine aT (λ x10=>?_);refine gX ?_;refine eN [12,13,26,27,28,29,30,31,32,33] (λ j:Nat=>[(12,.pointer (some ⟨j,0,none⟩)),(13,.string k.key)]) (λ _=>True) (λ j=>[(j,.cells ⟨(aA x.L m).nd.cells⟩ 77 (0,0)),(x10,.cells ⟨Rs.zero.cells⟩ 68 (0,0)),(bx,xO k bm x dn rs),(bm,xM x)]) (λ _=>[]) (λ _=>xW x) (by decide) (λ _=>by exact rfl) ?_ (λ j f hx=>?_)
 ·refine K0f ?_;refine fV (E:=[2,8]) (by decide +kernel) ((.cons ?_ (.cons ?_ .nil)))
  ·refine mI (i:=2) (hq:=(cM (hs:=xH k bx bm x dn rs) (os:=xW x) (hc:=λ w hs=>gE m (by omega) ok hs))) (h:=λ x28 h28=>?_);refine gG (h:=λ x12=>?_);refine K2d ?_
   ·trivial
  ·refine gW (i:=8) (h:=λ x12=>?_);refine bL (i:=2) (hq:=(cM (hs:=xH k bx bm x dn rs) (os:=xW x) (hc:=λ w hs=>gE m (by omega) ok hs))) (h:=λ x28 h28=>?_);refine K2d ?_
   ·trivial
 refine K0a ?_;refine Ce ?_;refine rW ?_;refine bA (λ c36=>?_) (λ c36=>?_)
 ·exact absurd c36 hk
 ·refine K1w ?_;intro g0 g1;rw[hl] at g1;have g2:=pC g1 hb;refine K0v ?_;intro x91;refine K2f ?_;intro x95;refine K0d ?_;refine K1c ?_;intro x100 h100 x21;(refine aF ?_;refine aC ?_);refine pu ?_;refine J1 ?_;refine bA (λ c101=>?_) (λ c101=>?_)
  ·have g3:=g2.to (λ _=>if_pos hi2);refine J0 ?_;refine bQ ?_;refine El ?_;refine bK Tryz.results124 (λ w hw=>?_);exact⟨(Rs.zero,2,x,[]),rfl,⟨g3,ok,by simp,Nat.le_refl _,bT _⟩,hw.aQ (hF:=by exact aP.nil)⟩
  ·exact absurd hi2 c101
set_option maxRecDepth 100000 in
theorem Tz(hg:g.Ok)(i m:Int){h:Nat}(hh:h<18446744073709551616)(level:Nat)(hlv:level<=1073741824)(K:Rs->Int->Tr)(ht:k.t.root<=9223372036854775807)(hi:i<=x.L.length)(hm:m<=x.L.length)(hA:∀f∈bD x.L,f∈A)(hk:¬(aA x.L m).nd.kind=6){b:Int}(hl:mU (aA x.L m).c (iE h (level:Int))=some b)(hi2:¬(aA x.L b).nd.kind=2)(he:¬(aA x.L b).nd.key=k.key)(go:gS g x (kO k i m h level K))(ok:x.Ok)(hs:SF w D (xH k bx bm x dn rs) A [] (xW x) w):Calls Tryz.prog 124 #[.pointer (some ⟨bx,0,none⟩),.int .i64 i,.int .i64 m,.int .u64 (h:Int),.int .i64 (level:Int)] w (Zw g x K bx bm k dn rs D w):=by
 refine K1a ?_;intro hyl hlL h48;have hb:b<=x.L.length:=by have:=qL (ok.nv m) (iE h (level:Int));rw[hl] at this;exact this
 refine K1u ?_;simp only[cP]
 refine J0 ?_;refine aT (λ x10=>?_);refine gX ?_;refine eN [12,13,26,27,28,29,30,31,32,33] (λ j:Nat=>[(12,.pointer (some ⟨j,0,none⟩)),(13,.string k.key)]) (λ _=>True) (λ j=>[(j,.cells ⟨(aA x.L m).nd.cells⟩ 77 (0,0)),(x10,.cells ⟨Rs.zero.cells⟩ 68 (0,0)),(bx,xO k bm x dn rs),(bm,xM x)]) (λ _=>[]) (λ _=>xW x) (by decide) (λ _=>by exact rfl) ?_ (λ j f hx=>?_)
 ·refine K0f ?_;refine fV (E:=[2,8]) (by decide +kernel) ((.cons ?_ (.cons ?_ .nil)))
  ·refine mI (i:=2) (hq:=(cM (hs:=xH k bx bm x dn rs) (os:=xW x) (hc:=λ w hs=>gE m (by omega) ok hs))) (h:=λ x28 h28=>?_);refine gG (h:=λ x12=>?_);refine K2d ?_
   ·trivial
  ·refine gW (i:=8) (h:=λ x12=>?_);refine bL (i:=2) (hq:=(cM (hs:=xH k bx bm x dn rs) (os:=xW x) (hc:=λ w hs=>gE m (by omega) ok hs))) (h:=λ x28 h28=>?_);refine K2d ?_
   ·trivial
 refine K0a ?_;refine Ce ?_;refine rW ?_;refine bA (λ c36=>?_) (λ c36=>?_)
 ·exact absurd c36 hk
 ·refine K1w ?_;intro g0 g1;rw[hl] at g1;have g2:=pC g1 hb;refine K0v ?_;intro x91;refine K2f ?_;intro x95;refine K0d ?_;refine K1c ?_;intro x100 h100 x21;(refine aF ?_;refine aC ?_);refine pu ?_;refine J1 ?_;refine bA (λ c101=>?_) (λ c101=>?_)
  ·exact absurd c101 hi2
  ·have g3:=(g2.to (λ _=>if_neg hi2)).to (λ _=>if_pos he);refine J2 ?_;refine C6 ?_;(refine aF ?_;refine aC ?_);refine Zv ?_;((refine aF ?_;refine aE (na rf rf he) rfl ?_));refine Kd0 ?_;refine bA (λ c109=>?_) (λ c109=>?_)
   ·refine J0 ?_;refine aS (cV (hc:=λ w1 hw=>hY _ _ w1)) (λ x118=>?_);refine El ?_;refine bK Tryz.results124 (λ w hw=>?_);exact⟨(jV false 0,1,x,[]),rfl,⟨g3,ok,by simp,Nat.le_refl _,bT _⟩,hw.aQ (hF:=by exact aP.nil)⟩
   ·exact nv c109
set_option maxRecDepth 100000 in
theorem So(hg:g.Ok)(i m:Int){h:Nat}(hh:h<18446744073709551616)(level:Nat)(hlv:level<=1073741824)(K:Rs->Int->Tr)(ht:k.t.root<=9223372036854775807)(hi:i<=x.L.length)(hm:m<=x.L.length)(hA:∀f∈bD x.L,f∈A)(hk:¬(aA x.L m).nd.kind=6){b:Int}(hl:mU (aA x.L m).c (iE h (level:Int))=some b)(hi2:¬(aA x.L b).nd.kind=2)(he:(aA x.L b).nd.key=k.key)(go:gS g x (kO k i m h level K))(ok:x.Ok)(hs:SF w D (xH k bx bm x dn rs) A [] (xW x) w):Calls Tryz.prog 124 #[.pointer (some ⟨bx,0,none⟩),.int .i64 i,.int .i64 m,.int .u64 (h:Int),.int .i64 (level:Int)] w (Zw g x K bx bm k dn rs D w):=by
 refine K1a ?_;intro hyl hlL h48;have hb:b<=x.L.length:=by have:=qL (ok.nv m) (iE h (level:Int));rw[hl] at this;exact this
 refine K1u ?_;simp only[cP]
 refine J0 ?_;refine aT (λ x10=>?_);refine gX ?_;refine eN [12,13,26,27,28,29,30,31,32,33] (λ j:Nat=>[(12,.pointer (some ⟨j,0,none⟩)),(13,.string k.key)]) (λ _=>True) (λ j=>[(j,.cells ⟨(aA x.L m).nd.cells⟩ 77 (0,0)),(x10,.cells ⟨Rs.zero.cells⟩ 68 (0,0)),(bx,xO k bm x dn rs),(bm,xM x)]) (λ _=>[]) (λ _=>xW x) (by decide) (λ _=>by exact rfl) ?_ (λ j f hx=>?_)
 ·refine K0f ?_;refine fV (E:=[2,8]) (by decide +kernel) ((.cons ?_ (.cons ?_ .nil)))
  ·refine mI (i:=2) (hq:=(cM (hs:=xH k bx bm x dn rs) (os:=xW x) (hc:=λ w hs=>gE m (by omega) ok hs))) (h:=λ x28 h28=>?_);refine gG (h:=λ x12=>?_);refine K2d ?_
   ·trivial
  ·refine gW (i:=8) (h:=λ x12=>?_);refine bL (i:=2) (hq:=(cM (hs:=xH k bx bm x dn rs) (os:=xW x) (hc:=λ w hs=>gE m (by omega) ok hs))) (h:=λ x28 h28=>?_);refine K2d ?_
   ·trivial
 refine K0a ?_;refine Ce ?_;refine rW ?_;refine bA (λ c36=>?_) (λ c36=>?_)
 ·exact absurd c36 hk
 ·refine K1w ?_;intro g0 g1;rw[hl] at g1;have g2:=pC g1 hb;refine K0v ?_;intro x91;refine K2f ?_;intro x95;refine K0d ?_;refine K1c ?_;intro x100 h100 x21;(refine aF ?_;refine aC ?_);refine pu ?_;refine J1 ?_;refine bA (λ c101=>?_) (λ c101=>?_)
  ·exact absurd c101 hi2
  ·have g3:=(g2.to (λ _=>if_neg hi2)).to (λ _=>if_neg (λ h:¬(aA x.L b).nd.key=k.key=>h he));refine J2 ?_;refine C6 ?_;(refine aF ?_;refine aC ?_);refine Zv ?_;((refine aF ?_;refine aE (qp rf rf he) rfl ?_));refine Kd0 ?_;refine bA (λ c109=>?_) (λ c109=>?_)
   ·exact nv c109
   ·refine aV ?_;refine gP [0,1,2,3,4,5,6,7,8,9,10,11,12,13,14,15] ?_;refine wC ?_;refine aL ?_;(refine Eu 125 (λ g125=>?_) (λ g125=>?_)<;>(first|refine bX ?_|(refine aN ?_)));all_goals ((first|refine bX ?_|(refine aZ ?_));(first|refine bX ?_|(refine aL ?_));(first|refine bX ?_|(refine nF ?_));(first|refine bX ?_|(refine aN ?_));refine Nu ?_;(first|refine bX ?_|(refine qS ?_));refine eS ?_;refine J7 ?_)
    all_goals
    refine bA (λ c119=>?_) (λ c119=>?_)
    ·try exact nv c119
     all_goals
      have g4:=g3.to (λ _=>if_pos (show(k.only=true/\(aA x.L b).nd.val≠k.exp) from⟨by assumption,by assumption⟩))
     all_goals (refine gH ?_;refine aS (cV (hc:=λ w1 hw=>hY _ _ w1)) (λ x137=>?_);refine El ?_)
     all_goals
      refine bK Tryz.results124 (λ w hw=>?_);exact⟨(jV true (aA x.L b).nd.val,1,x,[]),rfl,⟨g4,ok,by simp,Nat.le_refl _,bT _⟩,hw.aQ (hF:=by exact aP.nil)⟩
    ·all_goals
      have g4:=g3.to (λ _=>if_neg (show ¬(k.only=true/\(aA x.L b).nd.val≠k.exp) from by rintro ⟨h,h'⟩;simp_all))
     all_goals (refine kN ?_;refine vP ?_;refine aD (cF (hc:=λ w1 hw=>aBl (v:=(aA x.L m)) h48.2 (iE h (level:Int)) (ok.sR hw hA m))) (λ x141 h141=>?_))
     all_goals
      have hB:=aBm h48.2 (v:=(aA x.L m)) (iE h (level:Int))
     all_goals (refine aB ?_;refine aE (bW rf rfl) rfl ?_;refine aE (bW rf rfl) rfl ?_;refine aT (λ x22=>?_);refine El ?_;refine iH ?_;refine aS (cV (hc:=λ w1 hw=>po hB (v8 h48.2 (iE h (level:Int)) x141) (hw.cl (.new .head)))) (λ x146=>?_))
     all_goals
      have hso:((Ly (Nr (aA x.L m).c (iE h (level:Int)))).getD 0)<=x.L.length:=aCm hB (v8 h48.2 (iE h (level:Int)) x141);have g5:=pC g4 hso
     all_goals (refine aB ?_;refine aE (bW rf rfl) rfl ?_;refine aE (bW rf rfl) rfl ?_;refine Kd6 ?_;refine dZ [(0,[]),(1,[]),(2,[]),(3,[]),(4,[]),(5,[]),(6,[]),(7,[]),(8,[]),(9,[]),(10,[]),(11,[]),(12,[]),(13,[]),(16,[]),(19,[]),(20,[]),(14,[6,10,20]),(15,[6,20]),(17,[6,20]),(18,[20]),(21,[]),(22,[]),(23,[]),(24,[]),(25,[])] ?_;refine iJ ?_;refine J9 ?_;refine aN ?_;refine bJ (i:=6) (hq:=(aW (k:=2) (vs:=[.int .i64 k.t.root,.bool k.t.ro]) rf dI dR rfl rfl)) (h:=?_);refine iJ ?_;refine Kb7 ?_;refine iJ ?_;refine iJ ?_;refine iT ?_;refine bL (i:=14) (hq:=(cM (hs:=xH k bx bm x dn rs) (os:=xW x) (hc:=λ w hs=>gE ((Ly (Nr (aA x.L m).c (iE h (level:Int)))).getD 0) (by omega) ok hs))) (hfire:=(λ _=>by(refine cQ ?_;(repeat (first|exact aG.nil|refine aG.cons (by first|exact cG (hq:=aW (k:=2) (vs:=[.int .i64 k.t.root,.bool k.t.ro]) rf dI dR rfl rfl)|exact bY) ?_));done))) (h:=λ x163 h163=>?_);refine cA (i:=15) (hq:=(cV (hc:=λ w1 hw=>Vx hB (level:Int) (aA x.L ((Ly (Nr (aA x.L m).c (iE h (level:Int)))).getD 0)).nd (hw.cl (.new .head))))) (hfire:=(λ _=>by((repeat (first|exact aG.nil|refine aG.cons (by first|exact cG (hq:=aW (k:=2) (vs:=[.int .i64 k.t.root,.bool k.t.ro]) rf dI dR rfl rfl)|exact bY) ?_));done))) (h:=λ x164=>?_);refine bL (i:=17) (hq:=(cM (hs:=xH k bx bm x dn rs) (os:=xW x) (A0:=[((Of (ar (aA x.L m) (iE h (level:Int))) x141 (level:Int) (aA x.L ((Ly (Nr (aA x.L m).c (iE h (level:Int)))).getD 0)).nd).brA,aH (Zh (ar (aA x.L m) (iE h (level:Int))) x141 (level:Int) (aA x.L ((Ly (Nr (aA x.L m).c (iE h (level:Int)))).getD 0)).nd)),((Of (ar (aA x.L m) (iE h (level:Int))) x141 (level:Int) (aA x.L ((Ly (Nr (aA x.L m).c (iE h (level:Int)))).getD 0)).nd).prA,dK [])]) (hA:=u6) (hc:=λ w hs=>iD hg (n:=(Of (ar (aA x.L m) (iE h (level:Int))) x141 (level:Int) (aA x.L ((Ly (Nr (aA x.L m).c (iE h (level:Int)))).getD 0)).nd)) (xs:=(Zh (ar (aA x.L m) (iE h (level:Int))) x141 (level:Int) (aA x.L ((Ly (Nr (aA x.L m).c (iE h (level:Int)))).getD 0)).nd)) (ys:=[]) m _ (j7 _ _ _) (ah _ _ _) (U5 hB _ _ _) (Nat.zero_le _) (Wi hB _ _ (ok.nv ((Ly (Nr (aA x.L m).c (iE h (level:Int)))).getD 0)).hash) hm (by rw[<- uq,<- aBK h48.2];exact g5) ok hs))) (hfire:=(λ _=>by(refine cQ ?_;(repeat (first|exact aG.nil|refine aG.cons (by first|exact cG (hq:=aW (k:=2) (vs:=[.int .i64 k.t.root,.bool k.t.ro]) rf dI dR rfl rfl)|exact bY) ?_));done))) (h:=λ x166 h166=>?_);refine bL (i:=18) (hq:=(cM (hs:=xH k bx bm x166.2.1 dn rs) (os:=xW x166.2.1) (hc:=λ w hs=>tX hg k.t i m x166.1 _ ht (by have:=h166.len;omega) h166.bd h166.go h166.ok hs))) (h:=λ x167 h167=>?_))
     all_goals
      have hch:=Ch.nx h167 (Ch.nx h166 ((Ch.base (F:=[])).cons (f:=(x141.1,aH (mK (ar (aA x.L m) (iE h (level:Int))))))));have hlc:x.cs.length<=x167.2.1.cs.length:=by have:=h166.lc;have:=h167.lc;omega
     all_goals (refine cA (i:=21) (hq:=(cV (hc:=λ w1 hw=>pT _ _ _ _ w1))) (h:=λ x170=>?_);refine cS (i:=22) (hq:=(bW rf rfl)) (h:=?_);refine cS (i:=23) (hq:=(bW rf rfl)) (h:=?_);refine Cv ?_)
     all_goals
      refine bK Tryz.results124 (λ w hw=>?_);obtain⟨N,hN,hf⟩:=hch.to (t':=K (rU true (aA x.L b).nd.val) (if x167.1=true then 1 else 0)) h167 (h167.go) hlc (bT _)
      exact⟨(rU true (aA x.L b).nd.val,(if x167.1=true then 1 else 0),x167.2.1,N),rfl,hN,(hw.fN hf).zA0⟩
theorem T6(hg:g.Ok)(i m:Int){h:Nat}(hh:h<18446744073709551616)(level:Nat)(hlv:level<=1073741824)(K:Rs->Int->Tr)(ht:k.t.root<=9223372036854775807)(hi:i<=x.L.length)(hm:m<=x.L.length)(hA:∀f∈bD x.L,f∈A)(go:gS g x (kO k i m h level K))(ok:x.Ok)(hs:SF w D (xH k bx bm x dn rs) A [] (xW x) w):Calls Tryz.prog 124 #[.pointer (some ⟨bx,0,none⟩),.int .i64 i,.int .i64 m,.int .u64 (h:Int),.int .i64 (level:Int)] w (Zw g x K bx bm k dn rs D w):=by
 by_cases hk:(aA x.L m).nd.kind=6
 ·exact Rw hg i m hh level hlv K ht hi hm hA hk go ok hs
 ·cases hl:mU (aA x.L m).c (iE h (level:Int)) with
  | none=>exact Ua hg i m hh level hlv K ht hi hm hA hk hl go ok hs
  | some b =>
   by_cases hi2:(aA x.L b).nd.kind=2
   ·exact Ts hg i m hh level hlv K ht hi hm hA hk hl hi2 go ok hs
   ·by_cases he:(aA x.L b).nd.key=k.key
    ·exact So hg i m hh level hlv K ht hi hm hA hk hl hi2 he go ok hs
    ·exact Tz hg i m hh level hlv K ht hi hm hA hk hl hi2 he go ok hs
end
end

end Go.Proofs.YtadnboagdhcedaaGreatDoor

/- Merged. -/
import Derived.Test.YtbajmaoegmbfgaaGreatEx17
import Derived.Test.YtbajmaoegmbfgaaGreatAuto
set_option linter.unusedSimpArgs false
set_option linter.unusedVariables false
namespace Go.Ct
open Go Go.RowKit
section
theorem mM{a b c:List aU}:∀f∈aL ((a++b)++c),f.2=[]∨f∈aL c++(aL b++aL a):=λ f hf=>by
 simp only[dF,List.mem_append] at hf ⊢
 rcases hf with(h|h)|h
 ·exact .inr (.inr (.inr h))
 ·exact .inr (.inr (.inl h))
 ·exact .inr (.inl h)
theorem wJ{a b c d:List aU}:∀f∈aL (((a++b)++c)++d),f.2=[]∨f∈aL d++(aL c++(aL b++aL a)):=λ f hf=>by
 simp only[dF,List.mem_append] at hf ⊢
 rcases hf with((h|h)|h)|h
 ·exact .inr (.inr (.inr (.inr h)))
 ·exact .inr (.inr (.inr (.inl h)))
 ·exact .inr (.inr (.inl h))
 ·exact .inr (.inl h)
end
end Go.Ct
namespace Go.Proofs.YtbajmaoegmbfgaaGreat
open Go Go.RowKit Go.Ct
section
section
variable{k:Cl}{bx bm:Nat}{x:XS}{dn:Bool}{rs:Rs}{D:List Nat}{A:Fr}{w:World}{g:Gx}
set_option maxRecDepth 100000 in
theorem aB6(hg:g.Ok){m:Nat}(K:Rs->Tr)(n:Nat)(hn:n<=1073741824)(hm:m<18446744073709551616)(em:k.mask=(m:Int))(ek:k.key.size<=64)(ht:k.t.root<=9223372036854775807)(hA:∀f∈aL x.L,f∈A)(go:fS g x (A5 k (mR k.key m) K n))(ok:x.Ok)(hs:SF w D (xH k bx bm x dn rs) A [] (xW x) w):Calls Tryz.prog 184 #[.pointer (some ⟨bx,0,none⟩)] w λ e w'=>∃q:Rs×XS×List aU,e=.returned (.agg ⟨q.1.cells⟩)/\Nx g x q.2.1 q.2.2 (K q.1) 0/\SF w D (xH k bx bm q.2.1 dn rs) [] (aL q.2.2) (xW q.2.1) w':=by
 refine enter Tryz.func184 Tryz.ntmps184 rfl rfl (cH hs) ?_
 simp only[cE]
 refine J0 ?_;refine aJ (λ x2=>?_);refine S3 ?_
 refine eJ [3,4,13,14,15,16,17,18,19,20,21,22,23,24,25,26,27,28] (λ j:Nat=>[(3,.pointer (some ⟨j,0,none⟩)),(4,.int .u64 (((mR k.key m):Nat):Int))]) (λ _=>True) (λ j=>[(j,.cells ⟨[.int .i64 k.t.root,.bool k.t.ro]⟩ 29 (0,0)),(x2,.cells ⟨Rs.zero.cells⟩ 64 (0,0)),(bx,xO k bm x dn rs),(bm,xM x)]) (λ _=>[]) (λ _=>xW x) (by decide) (λ _=>by exact rfl) ?_ (λ j f hx=>?_)
 ·refine iD (.one 0 [] (.one 1 [] (.one 2 [] (.one 3 [] (.one 4 [] (.one 5 [] (.one 6 [] (.one 7 [] (.one 8 [] (.one 9 [] (.one 10 [] (.one 11 [] (.one 12 [] (.one 13 [] (.one 14 [] (.two 15 [4] (.one 16 [4,9,14] (.one 17 [] (.one 18 [] .nil))) 0 [] (.two 16 [4,9,14] (.one 15 [4] (.one 17 [] (.one 18 [] .nil))) 0 [] .nil))))))))))))))))) ?_
  refine J9 ?_;refine aT ?_;refine bT (i:=4) (hq:=(aP (k:=2) (vs:=[.int .i64 k.t.root,.bool k.t.ro]) rf cR eE rfl rfl)) (h:=?_);refine yA ?_;refine yA ?_
  refine iK (E:=[15,16]) (by decide +kernel) ((.cons ?_ (.cons ?_ .nil)))
  ·refine C9 (i:=15) (hq:=(cV (hc:=λ w1 hw=>nA em hm ek w1))) (hfire:=(λ _=>by(refine aQ.cons (by exact iP (hq:=aP (k:=2) (vs:=[.int .i64 k.t.root,.bool k.t.ro]) rf cR eE rfl rfl)) ?_;exact aQ.nil))) (h:=λ x28=>?_)
   refine iE (hfire:=(λ _=>by((repeat (first|exact aQ.nil|refine aQ.cons (by first|exact iP (hq:=aP (k:=2) (vs:=[.int .i64 k.t.root,.bool k.t.ro]) rf cR eE rfl rfl)|exact iF) ?_));done))) (h:=λ x3=>?_);refine Ck ?_
   refine fF (x3) ?_
   ·trivial
  ·refine iC (i:=16) (hfire:=(λ _=>by((repeat (first|exact aQ.nil|refine aQ.cons (by first|exact iP (hq:=aP (k:=2) (vs:=[.int .i64 k.t.root,.bool k.t.ro]) rf cR eE rfl rfl)|exact iF) ?_));done))) (h:=λ x3=>?_)
   refine dC (i:=15) (hq:=(cV (hc:=λ w1 hw=>nA em hm ek w1))) (hfire:=(λ _=>by(refine aQ.cons (by exact iP (hq:=aP (k:=2) (vs:=[.int .i64 k.t.root,.bool k.t.ro]) rf cR eE rfl rfl)) ?_;exact aQ.nil))) (h:=λ x28=>?_);refine Ck ?_
   refine fF (x3) ?_
   ·trivial
 dsimp only[iB,List.map,List.cons_append,List.nil_append]
 refine Cz ?_
 refine nS [5,6,7,8,9,10,11,12,29,30,31,32,33,34,35,36,37,38,39,40,41,42,43,44,45,46,47,48,49,50,51,52,53,54,55,56,57,58,59,60,61,62,63,64,65,66,67,68,69,70,71,72,73,74,75,76,77,78,79,80,81,82,83,84,85,86,87,88,89,90,91,92,93,94,95,96,97,98,99,100,101] (λ y:Nat×XS×List aU=>[]) (λ y=>y.1<=n/\Nx g x y.2.1 y.2.2 (A5 k (mR k.key m) K y.1) 0) (λ y=>[(j,.cells ⟨[.int .i64 k.t.root,.bool k.t.ro]⟩ 29 (0,0)),(x2,.cells ⟨Rs.zero.cells⟩ 64 (0,0)),(bx,xO k bm y.2.1 dn rs),(bm,xM y.2.1)]) (λ y=>aL y.2.2) (λ y=>xW y.2.1) (λ y=>y.1) ((n,x,[])) (⟨Nat.le_refl n,Nx.start go ok |>.cK go (bH _)⟩) (λ y f hx=>?_) (hw0:=λ w hw=>hw)
 dsimp only[iB,List.map,List.cons_append,List.nil_append]
 obtain⟨hyn,hy⟩:=hx
 refine aR ?_;refine lQ ?_;refine pN ?_
 refine bE (λ c33=>?_) (λ c33=>?_)
 ·obtain⟨fu,hfu,gx⟩:=fS.kD (T:=λ q=>A5 k (mR k.key m) K q) hy.go (by simpa using c33) rfl hg
  refine aS ?_;refine cY ?_;refine Kb5 ?_;refine aC (cM (hs:=xH k bx bm y.2.1 dn rs) (os:=xW y.2.1) (hc:=λ w hs=>Bs hg k.t _ ht gx hy.ok hs)) (λ x36 h36=>?_);refine zM ?_;refine aC (cM (hs:=xH k bx bm x36.2.1 dn rs) (os:=xW x36.2.1) (hc:=λ w hs=>cJ x36.1 _ h36.bd h36.go h36.ok hs)) (λ x39 h39=>?_);refine cC ?_;refine J1 ?_;refine cZ ?_;refine Gp ?_
  refine nS [5,7,8,9,10,11,12,41,42,43,44,45,46,47,48,49,50,51,52,53,54,55,56,57,58,59,60,61,62,63,64,65,66,67,68,69,70,71,72,73,74,75,76,77,78,79,80,81,82,83,84,85,86,87,88,89,90,91,92,93,94,95,96,97,98,99,100,101] (λ z:Nat×Int×Int×XS×List aU=>[(5,.int .i64 z.2.1),(7,.int .i64 z.2.2.1),(8,.int .i64 (((fu-z.1):Nat):Int))]) (λ z=>z.1<=fu/\Nx g x z.2.2.2.1 z.2.2.2.2 (Dd k (mR k.key m) K (A5 k (mR k.key m) K fu) (aD x36.2.1.L x36.1).nd.gen z.1 z.2.1 z.2.2.1 (fu-z.1)) z.2.1/\z.2.2.1<=z.2.2.2.1.L.length) (λ z=>[(j,.cells ⟨[.int .i64 k.t.root,.bool k.t.ro]⟩ 29 (0,0)),(x2,.cells ⟨Rs.zero.cells⟩ 64 (0,0)),(bx,xO k bm z.2.2.2.1 dn rs),(bm,xM z.2.2.2.1)]) (λ z=>aL z.2.2.2.2) (λ z=>xW z.2.2.2.1) (λ z=>z.1) ((fu,x36.1,0,x36.2.1,y.2.2++x36.2.2)) (⟨Nat.le_refl fu,(hy.trans h36).cK (show fS g x36.2.1 (Dd k (mR k.key m) K (A5 k (mR k.key m) K fu) (aD x36.2.1.L x36.1).nd.gen fu x36.1 0 (fu-fu)) from(Nat.sub_self fu).symm▸h39.1) h36.bd,bH _⟩) (λ z f hx=>?_) (hw0:=λ w hw=>(hw.fG nC).v6)
  dsimp only[iB,List.map,List.cons_append,List.nil_append]
  obtain⟨hzf,hz,hzp⟩:=hx
  refine aR ?_;refine lQ ?_;refine pN ?_
  refine bE (λ c45=>?_) (λ c45=>?_)
  ·obtain⟨fu2,hfu2,gz⟩:=fS.kD (T:=λ q=>(Dd k (mR k.key m) K (A5 k (mR k.key m) K fu) (aD x36.2.1.L x36.1).nd.gen q z.2.1 z.2.2.1 (fu-z.1))) hz.go (by simpa using c45) rfl hg
   refine sA ?_;refine Kb5 ?_;refine aA ?_;refine aC (cM (hs:=xH k bx bm z.2.2.2.1 dn rs) (os:=xW z.2.2.2.1) (hc:=λ w hs=>oU hg k.t z.2.1 _ ht hz.bd gz hz.ok hs)) (λ x51 h51=>?_)
   have hl51:=h51.len
   have hb51:=h51.bd
   have hbz:=hz.bd
   have hch:=Ch.nx h51 hz.ch
   refine iW ?_;refine Kc0 ?_
   refine bE (λ c55=>?_) (λ c55=>?_)
   ·refine X9 ?_
    refine gU (by exact(fu,x51.2.1,(z.2.2.2.2++x51.2.2))) ?_ (hw1:=λ w hw=>by exact(hw.fG nC).v6)
    ·first
     | exact⟨by show fu<=n;omega,(((hz.trans h51).trans h76).trans h97).cK g4 (bH _)⟩
     | exact⟨by show fu<=n;omega,((hz.trans h51).trans h76).cK g3 (bH _)⟩
     | exact⟨by show fu<=n;omega,((hz.trans h51).trans h68).cK h68.go (bH _)⟩
     | exact⟨by show fu<=n;omega,(hz.trans h51).cK (h51.go.bV (by assumption)) (bH _)⟩
     | exact⟨by show fu<=n;omega,hz.cK (hz.go.bV (by simpa using c45)) (bH _)⟩
   ·refine lW ?_;refine jM ?_;refine aC (cM (hs:=xH k bx bm x51.2.1 dn rs) (os:=xW x51.2.1) (hc:=λ w hs=>cJ x51.1 _ h51.bd h51.go h51.ok hs)) (λ x58 h58=>?_);refine cC ?_;refine uM ?_
    refine bE (λ c60=>?_) (λ c60=>?_)
    ·have g1:=h58.1.to (λ _=>if_pos c60)
     refine Kb5 ?_;refine qJ ?_;refine qJ ?_;refine sB ?_;refine aC (cM (hs:=xH k bx bm x51.2.1 dn rs) (os:=xW x51.2.1) (A0:=aL x51.2.1.L) (hA:=Ch.all hch hA) (hc:=λ w hs=>L5 hg k.t z.2.2.1 z.2.1 (tT k.key m) ((((fu-z.1):Nat):Int)-1) _ ht (by omega) (by omega) (λ f hf=>hf) g1 h51.ok hs)) (λ x68 h68=>?_);refine aG ?_;refine X9 ?_
     refine gU (by exact(fu,x68.2.1,((z.2.2.2.2++x51.2.2)++x68.2.2))) ?_ (hw1:=λ w hw=>by exact(hw.fG mM).v6)
     ·first
      | exact⟨by show fu<=n;omega,(((hz.trans h51).trans h76).trans h97).cK g4 (bH _)⟩
      | exact⟨by show fu<=n;omega,((hz.trans h51).trans h76).cK g3 (bH _)⟩
      | exact⟨by show fu<=n;omega,((hz.trans h51).trans h68).cK h68.go (bH _)⟩
      | exact⟨by show fu<=n;omega,(hz.trans h51).cK (h51.go.bV (by assumption)) (bH _)⟩
      | exact⟨by show fu<=n;omega,hz.cK (hz.go.bV (by simpa using c45)) (bH _)⟩
    ·have g1:=h58.1.to (λ _=>if_neg c60)
     refine D1 ?_;refine qJ ?_;refine qJ ?_;refine aC (cM (hs:=xH k bx bm x51.2.1 dn rs) (os:=xW x51.2.1) (A0:=aL x51.2.1.L) (hA:=Ch.all hch hA) (hc:=λ w hs=>Xt hg z.2.1 x51.1 (tT k.key m) (fu-z.1) (by omega) (aD x36.2.1.L x36.1).nd.gen _ ht (by omega) (by omega) (λ f hf=>hf) g1 h51.ok hs)) (λ x76 h76=>?_)
     have hl76:=h76.len
     have hch2:=Ch.nx h76 hch
     refine aA ?_;refine aB (bP rf rfl) rfl ?_;refine aB (bP rf rfl) rfl ?_;refine aJ (λ x10=>?_);refine lC (λ _=>?_);refine iW ?_;refine lQ ?_;refine aA ?_
     (refine eG 83 (λ g83=>?_) (λ g83=>?_)<;>refine Ka0 ?_)
     all_goals (refine uU ?_;refine aG ?_)
     all_goals
     refine bE (λ c86=>?_) (λ c86=>?_)
     ·all_goals (refine oX ?_;refine J5 ?_)
      all_goals
       refine bB Tryz.results184 (λ w hw=>?_)
       exact⟨(x76.1,x76.2.2.1,((z.2.2.2.2++x51.2.2)++x76.2.2.2)),rfl,((hz.trans h51).trans h76).cK (by first|exact h76.go.bV (by assumption)|exact h76.go.to (λ _=>if_pos (by assumption))) (bH _),(hw.fG mM).v4⟩
     ·try exact nv c86
      all_goals
       have g2:=h76.go.to (λ _=>if_neg (by assumption))
      all_goals (refine lW ?_;refine J2 ?_;refine uM ?_)
      all_goals
       refine bE (λ c89=>?_) (λ c89=>?_)
       ·have g3:=g2.to (λ _=>if_pos (by assumption))
        refine X9 ?_
        refine gU (by exact(fu,x76.2.2.1,((z.2.2.2.2++x51.2.2)++x76.2.2.2))) ?_ (hw1:=λ w hw=>by exact(hw.fG mM).v6)
        ·first
         | exact⟨by show fu<=n;omega,(((hz.trans h51).trans h76).trans h97).cK g4 (bH _)⟩
         | exact⟨by show fu<=n;omega,((hz.trans h51).trans h76).cK g3 (bH _)⟩
         | exact⟨by show fu<=n;omega,((hz.trans h51).trans h68).cK h68.go (bH _)⟩
         | exact⟨by show fu<=n;omega,(hz.trans h51).cK (h51.go.bV (by assumption)) (bH _)⟩
         | exact⟨by show fu<=n;omega,hz.cK (hz.go.bV (by simpa using c45)) (bH _)⟩
       ·have g3:=g2.to (λ _=>if_neg (by assumption))
        refine D1 ?_;refine qJ ?_;refine aA ?_;refine aM (cV (hc:=λ w1 hw=>eY (tT k.key m) (((fu-z.1):Nat):Int) w1)) (λ x95=>?_);refine aA ?_;refine aC (cM (hs:=xH k bx bm x76.2.2.1 dn rs) (os:=xW x76.2.2.1) (A0:=aL x76.2.2.1.L) (hA:=Ch.all hch2 hA) (hc:=λ w hs=>Tx hg z.2.1 x51.1 (gJ (mR k.key m) (((fu-z.1):Nat):Int)) (aD x36.2.1.L x36.1).nd.gen _ ht (by omega) (by omega) (λ f hf=>hf) g3 h76.ok hs)) (λ x97 h97=>?_);refine Kc8 ?_;refine uM ?_
        refine bE (λ c99=>?_) (λ c99=>?_)
        ·have g4:=h97.go.to (λ _=>if_pos (by assumption))
         refine X9 ?_
         refine gU (by exact(fu,x97.2.1,(((z.2.2.2.2++x51.2.2)++x76.2.2.2)++x97.2.2))) ?_ (hw1:=λ w hw=>by exact(hw.fG wJ).v6)
         ·first
          | exact⟨by show fu<=n;omega,(((hz.trans h51).trans h76).trans h97).cK g4 (bH _)⟩
          | exact⟨by show fu<=n;omega,((hz.trans h51).trans h76).cK g3 (bH _)⟩
          | exact⟨by show fu<=n;omega,((hz.trans h51).trans h68).cK h68.go (bH _)⟩
          | exact⟨by show fu<=n;omega,(hz.trans h51).cK (h51.go.bV (by assumption)) (bH _)⟩
          | exact⟨by show fu<=n;omega,hz.cK (hz.go.bV (by simpa using c45)) (bH _)⟩
        ·have g4:=h97.go.to (λ _=>if_neg (by assumption))
         refine aS ?_;refine Jv ?_;refine J8 ?_;refine Kb2 ?_
         refine gU ((z.1-1,x97.1,z.2.1,x97.2.1,(((z.2.2.2.2++x51.2.2)++x76.2.2.2)++x97.2.2))) ?_ (hw1:=λ w hw=>(hw.fG wJ).v6)
         ·have e1:z.1-1=fu2:=by omega
          have e2:(fu-z.1)+1=fu-fu2:=by omega
          refine⟨by show z.1-1<=fu;omega,((((hz.trans h51).trans h76).trans h97)).cK ?_ h97.bd,by show z.2.1<=(x97.2.1.L.length:Int);have:=h97.len;omega⟩
          show fS g x97.2.1 (Dd k (mR k.key m) K (A5 k (mR k.key m) K fu) (aD x36.2.1.L x36.1).nd.gen (z.1-1) x97.1 z.2.1 (fu-(z.1-1)))
          rw[e1,<- e2]
          exact g4
  ·refine X9 ?_
   refine gU (by exact(fu,z.2.2.2.1,z.2.2.2.2)) ?_ (hw1:=λ w hw=>by exact hw.v6)
   ·first
    | exact⟨by show fu<=n;omega,(((hz.trans h51).trans h76).trans h97).cK g4 (bH _)⟩
    | exact⟨by show fu<=n;omega,((hz.trans h51).trans h76).cK g3 (bH _)⟩
    | exact⟨by show fu<=n;omega,((hz.trans h51).trans h68).cK h68.go (bH _)⟩
    | exact⟨by show fu<=n;omega,(hz.trans h51).cK (h51.go.bV (by assumption)) (bH _)⟩
    | exact⟨by show fu<=n;omega,hz.cK (hz.go.bV (by simpa using c45)) (bH _)⟩
 ·refine bR rfl ?_;refine Kb8 ?_
  refine bB Tryz.results184 (λ w hw=>?_)
  exact⟨(Rs.zero,y.2.1,y.2.2),rfl,hy.cK (hy.go.bV (by simpa using c33)) (bH _),hw.v4⟩
end
end
end Go.Proofs.YtbajmaoegmbfgaaGreat
namespace Go.Ct
open Go Go.RowKit
section
variable{P:Program}{n:Nat}{Q:Exit->Act->World->Prop}{ks:List CK}{ops:Array Oper}{l:List Oper}{S:List (Nat×Value)}{G:World->Prop}
theorem Py{d:Nat}{op:Op}{ty:TypeId}{pos:String}{af:Array Edge}{j:Nat}{want:Bool}{g:Nat}(hd:Nat.blt d n=true)
  (hj:(ops[j]?).bind (·.dst)=some g) (hg:look S g=undef)
  (h:JL P n Q ks ops l ((d,undef)::S) G):JL P n Q ks ops (⟨some d,op,ty,pos,af,some (j,want)⟩::l) S G:=⟨λ hS w hw=>by
 have hy:yielded ops (dY n S) j=none:=by
  have e:=congrFun (iY (ds:=[]) hS) (.tmp g)
  simp only[Act.eval,ev,hg] at e
  unfold yielded
  rw[hj]
  simp only[Option.bind_some]
  rw[Array.getD_eq_getD_getElem?] at e
  cases h2:(dY n S)[g]? with
  | none=>rfl
  | some u=>rw[h2] at e;simp[undef] at e;subst e;rfl
 refine wpList_step λ K hK=>?_
 have hw':Region.wanted ⟨some d,op,ty,pos,af,some (j,want)⟩ (yielded ops (dY n S))=false:=by
  simp only[Region.wanted,hy]
  rfl
 simp only[hw',Bool.false_eq_true,if_false,Bo]
 exact hK _ _ (h.run (hS.cons hd) w hw)⟩
end
end Go.Ct
namespace Go.Proofs.YtbajmaoegmbfgaaGreat
open Go.RowKit Go.Ct
section
theorem Aa{n:Nat}{Q:Exit->Act->World->Prop}{ks:List CK}{ops:Array Oper}{l:List Oper}{S:List (Nat×Value)}{G:World->Prop}{d j g:Nat}{op:Op}{ty:TypeId}{pos:String}{af:Array Edge}{want:Bool}(h:JL Tryz.prog n Q ks ops l ((d,undef)::S) G)(hd:Nat.blt d n=true:=by exact rfl)(hj:(ops[j]?).bind (·.dst)=some g:=by exact rfl)(hg:Ct.look S g=undef:=by exact rfl):JL Tryz.prog n Q ks ops (⟨some d,op,ty,pos,af,some (j,want)⟩::l) S G:=Py hd hj hg h
end
end Go.Proofs.YtbajmaoegmbfgaaGreat
namespace Go.Ct
open Go Go.RowKit
section
theorem pE{g:Gx}{x:XS}{r:Int}{K:Nv->Tr}(h:fS g x (.node r K))(hr:r<=x.L.length):fS g x (K (aD x.L r).c):=by
 have:=h.node hr
 rwa [show bD x.nodes r=(aD x.L r).c from(Ej x.L r).symm] at this
section
variable{P:Program}{S:List (Nat×Value)}{G:World->Prop}{d:Nat}{ty t t':TypeId}{pos:String}{af:Array Edge}{gd:Option (Nat×Bool)}{x y:Operand}{a b:ByteArray}
theorem rl(hx:ev S x=.string a)(hy:ev S y=.string b)(h:¬a=b):aK P S G ⟨some d,.binOp .neq t x y t',ty,pos,af,gd⟩ (.bool true):=by
 have:=Fw (P:=P) (G:=G) (d:=d) (ty:=ty) (pos:=pos) (af:=af) (gd:=gd) (t:=t) (t':=t') hx hy
 rwa [bne,vy h] at this
theorem o4(hx:ev S x=.string a)(hy:ev S y=.string b)(h:a=b):aK P S G ⟨some d,.binOp .neq t x y t',ty,pos,af,gd⟩ (.bool false):=by
 have:=Fw (P:=P) (G:=G) (d:=d) (ty:=ty) (pos:=pos) (af:=af) (gd:=gd) (t:=t) (t':=t') hx hy
 rwa [bne,v5 h] at this
end
end
end Go.Ct
namespace Go.Proofs.YtbajmaoegmbfgaaGreat
open Go.Proofs.Tryz (prog)
open Go Go.RowKit Go.Ct
section
theorem pq{m:Nat}{o:Option (Nat×List Int)}{w:World}(h:vQ m o){x:Option Addr×Nat}{r:Nv}(e:r=(mU o x).c (mL o) [])(hc:Go.Ct.Cl w x.1 (aH (mL o))):Calls prog 245 #[(mU o x).v] w λ e w'=>e=.returned (.tuple #[.int .i64 ((K9 r).getD 0),.bool (K9 r).isSome])/\St w [] [] w':=by
 obtain⟨b,h1,h2⟩:=Po h x
 have:=Jd (n:=mU o x) h1 h2 (P0 h hc)
 rw[w6,<- e] at this
 exact this
theorem aAV{m:Nat}{o:Option (Nat×List Int)}(h:vQ m o){x:Option Addr×Nat}{r:Nv}(e:r=(mU o x).c (mL o) []):(K9 r).getD 0<=m:=by
 rw[e,<- w6]
 unfold j8
 split
 ·refine mC (λ v hv=>?_) 0
  cases o with
  | none=>exact(List.not_mem_nil hv).elim
  | some q=>exact(h.out q rfl).2.2 v hv
 ·exact bH _
section
variable{k:Cl}{bx bm:Nat}{x:XS}{dn:Bool}{rs:Rs}{D:List Nat}{A:Fr}{w:World}{g:Gx}
set_option maxRecDepth 100000 in
theorem Sv(hg:g.Ok)(i m:Int){h:Nat}(hh:h<18446744073709551616)(level:Nat)(hlv:level<=1073741824)(K:Rs->Int->Tr)(ht:k.t.root<=9223372036854775807)(hi:i<=x.L.length)(hm:m<=x.L.length)(hA:∀f∈aL x.L,f∈A)(hk:(aD x.L m).nd.kind=6)(go:fS g x (kI k i m h level K))(ok:x.Ok)(hs:SF w D (xH k bx bm x dn rs) A [] (xW x) w):Calls prog 226 #[.pointer (some ⟨bx,0,none⟩),.int .i64 i,.int .i64 m,.int .u64 (h:Int),.int .i64 (level:Int)] w (Ys g x K bx bm k dn rs D w):=by
 have hyl:=rL ok m
 have hlL:=ok.lL
 have h48:fS g x _/\lX x.L.length x.cs.length (aD x.L m).c:=⟨pE go hm,ok.nv m⟩
 refine enter Tryz.func226 Tryz.ntmps226 rfl rfl (cH hs) ?_
 simp only[cE]
 refine J0 ?_;refine aJ (λ x10=>?_);refine iW ?_
 refine eJ [12,13,26,27,28,29,30,31,32,33] (λ j:Nat=>[(12,.pointer (some ⟨j,0,none⟩)),(13,.string k.key)]) (λ _=>True) (λ j=>[(j,.cells ⟨(aD x.L m).nd.cells⟩ 47 (0,0)),(x10,.cells ⟨Rs.zero.cells⟩ 64 (0,0)),(bx,xO k bm x dn rs),(bm,xM x)]) (λ _=>[]) (λ _=>xW x) (by decide) (λ _=>by exact rfl) ?_ (λ j f hx=>?_)
 ·refine iD (.one 0 [] (.one 1 [] (.one 3 [] (.one 4 [] (.one 5 [] (.one 6 [] (.one 7 [] (.two 2 [7] (.one 8 [7] (.one 9 [7] (.one 10 [] .nil))) 0 [] (.two 8 [7] (.one 2 [7] (.one 9 [7] (.one 10 [] .nil))) 0 [] .nil))))))))) ?_
  refine hU ?_;refine yA ?_
  refine iK (E:=[2,8]) (by decide +kernel) ((.cons ?_ (.cons ?_ .nil)))
  ·refine mE (i:=2) (hq:=(cM (hs:=xH k bx bm x dn rs) (os:=xW x) (hc:=λ w hs=>fK m (by omega) ok hs))) (h:=λ x28 h28=>?_)
   refine iE (h:=λ x12=>?_);refine Ck ?_
   refine fF (x12) ?_
   ·trivial
  ·refine iC (i:=8) (h:=λ x12=>?_)
   refine bG (i:=2) (hq:=(cM (hs:=xH k bx bm x dn rs) (os:=xW x) (hc:=λ w hs=>fK m (by omega) ok hs))) (h:=λ x28 h28=>?_);refine Ck ?_
   refine fF (x12) ?_
   ·trivial
 dsimp only[iB,List.map,List.cons_append,List.nil_append]
 refine Kc9 ?_
 refine bE (λ c36=>?_) (λ c36=>?_)
 ·have g1:=h48.1.to (λ _=>if_pos hk)
  refine Kc5 ?_;refine aM (cV (hc:=λ w1 hw=>Kr (v:=(aD x.L m)) (n:=0) k.key (ok.sG hw hA m) (ok.ysl m))) (λ x41=>?_);refine aA ?_;refine aB (bP rf rfl) rfl ?_;refine aB (bP rf rfl) rfl ?_;refine Kc6 ?_;refine Fy ?_
  (refine eG 46 (λ g46=>?_) (λ g46=>?_)<;>refine Ka0 ?_)
  all_goals (refine Kb4 ?_;refine Ka1 ?_;refine Ka1 ?_;refine Ka2 ?_;refine Ka0 ?_)
  all_goals (first|refine Aa ?_|(refine eG 52 (λ g52=>?_) (λ g52=>?_)<;>refine Ka0 ?_))
  all_goals ((first|refine aI ?_|refine Aa ?_|(refine Ka3 ?_));(first|refine aI ?_|refine Aa ?_|(refine aF ?_;refine dG ?_));(first|refine aI ?_|refine Aa ?_|(refine aF ?_;refine aE ?_));(first|refine aI ?_|refine Aa ?_|(refine aF ?_;refine aE ?_));(first|refine aI ?_|refine Aa ?_|(refine aF ?_;refine bO ?_));(first|refine aI ?_|refine Aa ?_|(refine aF ?_;refine mA ?_));(first|refine aI ?_|(refine aF ?_;refine cA ?_));refine cA ?_;refine aG ?_)
  all_goals
  refine bE (λ c61=>?_) (λ c61=>?_)
  ·try exact nv c61
   all_goals
    have g2:=g1.to (λ _=>if_pos (show((dV (aD x.L m).c.ys k.key).isSome=false∨(k.only=true/\(dV (aD x.L m).c.ys k.key).getD 0≠k.exp)) from by first|exact Or.inl (by assumption)|exact Or.inr ⟨by assumption,by assumption⟩))
   all_goals (refine jM ?_;refine aM (cV (hc:=λ w1 hw=>gF _ _ w1)) (λ x64=>?_);refine Dm ?_)
   all_goals
    refine bB Tryz.results226 (λ w hw=>?_)
    exact⟨(jL (dV (aD x.L m).c.ys k.key).isSome ((dV (aD x.L m).c.ys k.key).getD 0),1,x,[]),rfl,⟨g2,ok,by simp,Nat.le_refl _,bH _⟩,hw.aX (hF:=by exact aV.nil)⟩
  ·try exact nv c61
   all_goals
    have g2:=g1.to (λ _=>if_neg (show ¬((dV (aD x.L m).c.ys k.key).isSome=false∨(k.only=true/\(dV (aD x.L m).c.ys k.key).getD 0≠k.exp)) from by rintro (h|⟨h,h'⟩)<;>simp_all))
   all_goals (refine aS ?_;refine Dv ?_;refine aC (cF (hc:=λ w1 hw=>aBS (v:=(aD x.L m)) h48.2 k.key (ok.sG hw hA m) (by omega))) (λ x68 h68=>?_);refine aA ?_;refine aB (bP rf rfl) rfl ?_;refine aB (bP rf rfl) rfl ?_;refine aJ (λ x16=>?_);refine lC (λ _=>?_);refine iW ?_;refine eQ [(0,[]),(1,[]),(2,[]),(3,[]),(4,[]),(5,[]),(6,[]),(7,[]),(8,[]),(9,[]),(10,[]),(11,[]),(14,[]),(12,[6]),(13,[]),(15,[]),(16,[]),(17,[]),(18,[]),(19,[])] ?_;refine hU ?_;refine J9 ?_;refine aT ?_;refine bT (i:=6) (hq:=(aP (k:=2) (vs:=[.int .i64 k.t.root,.bool k.t.ro]) rf cR eE rfl rfl)) (h:=?_);refine hU ?_;refine bC ?_;refine Ka9 ?_;refine bG (i:=12) (hq:=(cM (hs:=xH k bx bm x dn rs) (os:=xW x) (A0:=[((Na (pS (aD x.L m).nd (aD x.L m).xs (aD x.L m).ys k.key) (aD x.L m).nd.hash x68).brA,aH []),((Na (pS (aD x.L m).nd (aD x.L m).xs (aD x.L m).ys k.key) (aD x.L m).nd.hash x68).prA,dE (H5 (pS (aD x.L m).nd (aD x.L m).xs (aD x.L m).ys k.key)))]) (hA:=aAL) (hc:=λ w hs=>gI hg (n:=Na (pS (aD x.L m).nd (aD x.L m).xs (aD x.L m).ys k.key) (aD x.L m).nd.hash x68) (xs:=[]) (ys:=H5 (pS (aD x.L m).nd (aD x.L m).xs (aD x.L m).ys k.key)) m _ (bc _ _ _).1 (bc _ _ _).2 (by decide) (by have:=aAb (aD x.L m).xs (aD x.L m).ys (aD x.L m).nd k.key;omega) (xi _ h48.2.hash) hm (by rw[aCI];exact g2) ok hs))) (hfire:=(λ _=>by(refine iV ?_;refine aQ.cons (by exact iP (hq:=aP (k:=2) (vs:=[.int .i64 k.t.root,.bool k.t.ro]) rf cR eE rfl rfl)) ?_;exact aQ.nil))) (h:=λ x83 h83=>?_);refine bG (i:=13) (hq:=(cM (hs:=xH k bx bm x83.2.1 dn rs) (os:=xW x83.2.1) (hc:=λ w hs=>tE hg k.t i m x83.1 _ ht (by have:=h83.len;omega) h83.bd h83.go h83.ok hs))) (h:=λ x84 h84=>?_))
   all_goals
    have hch:=Ch.nx h84 (Ch.nx h83 ((Ch.base (F:=[])).cons (f:=(x68.1,dE (H5 (pS (aD x.L m).nd (aD x.L m).xs (aD x.L m).ys k.key))))))
    have hlc:x.cs.length<=x84.2.1.cs.length:=by have:=h83.lc;have:=h84.lc;omega
   all_goals (refine dC (i:=15) (hq:=(cV (hc:=λ w1 hw=>pL _ _ _ _ w1))) (h:=λ x86=>?_);refine cP (i:=16) (hq:=(bP rf rfl)) (h:=?_);refine cP (i:=17) (hq:=(bP rf rfl)) (h:=?_);refine Ck ?_)
   all_goals
    refine bB Tryz.results226 (λ w hw=>?_)
    obtain⟨N,hN,hf⟩:=hch.to (t':=K (rT true ((dV (aD x.L m).c.ys k.key).getD 0)) (if x84.1=true then 1 else 0)) h84 (h84.go) hlc (bH _)
    exact⟨(rT true ((dV (aD x.L m).c.ys k.key).getD 0),(if x84.1=true then 1 else 0),x84.2.1,N),rfl,hN,(hw.fG hf).v4⟩
 ·exact absurd hk c36
set_option maxRecDepth 100000 in
theorem Sh(hg:g.Ok)(i m:Int){h:Nat}(hh:h<18446744073709551616)(level:Nat)(hlv:level<=1073741824)(K:Rs->Int->Tr)(ht:k.t.root<=9223372036854775807)(hi:i<=x.L.length)(hm:m<=x.L.length)(hA:∀f∈aL x.L,f∈A)(hk:¬(aD x.L m).nd.kind=6)(hl:kU (aD x.L m).c (gJ h (level:Int))=none)(go:fS g x (kI k i m h level K))(ok:x.Ok)(hs:SF w D (xH k bx bm x dn rs) A [] (xW x) w):Calls prog 226 #[.pointer (some ⟨bx,0,none⟩),.int .i64 i,.int .i64 m,.int .u64 (h:Int),.int .i64 (level:Int)] w (Ys g x K bx bm k dn rs D w):=by
 have hyl:=rL ok m
 have hlL:=ok.lL
 have h48:fS g x _/\lX x.L.length x.cs.length (aD x.L m).c:=⟨pE go hm,ok.nv m⟩
 refine enter Tryz.func226 Tryz.ntmps226 rfl rfl (cH hs) ?_
 simp only[cE]
 refine J0 ?_;refine aJ (λ x10=>?_);refine iW ?_
 refine eJ [12,13,26,27,28,29,30,31,32,33] (λ j:Nat=>[(12,.pointer (some ⟨j,0,none⟩)),(13,.string k.key)]) (λ _=>True) (λ j=>[(j,.cells ⟨(aD x.L m).nd.cells⟩ 47 (0,0)),(x10,.cells ⟨Rs.zero.cells⟩ 64 (0,0)),(bx,xO k bm x dn rs),(bm,xM x)]) (λ _=>[]) (λ _=>xW x) (by decide) (λ _=>by exact rfl) ?_ (λ j f hx=>?_)
 ·refine iD (.one 0 [] (.one 1 [] (.one 3 [] (.one 4 [] (.one 5 [] (.one 6 [] (.one 7 [] (.two 2 [7] (.one 8 [7] (.one 9 [7] (.one 10 [] .nil))) 0 [] (.two 8 [7] (.one 2 [7] (.one 9 [7] (.one 10 [] .nil))) 0 [] .nil))))))))) ?_
  refine hU ?_;refine yA ?_
  refine iK (E:=[2,8]) (by decide +kernel) ((.cons ?_ (.cons ?_ .nil)))
  ·refine mE (i:=2) (hq:=(cM (hs:=xH k bx bm x dn rs) (os:=xW x) (hc:=λ w hs=>fK m (by omega) ok hs))) (h:=λ x28 h28=>?_)
   refine iE (h:=λ x12=>?_);refine Ck ?_
   refine fF (x12) ?_
   ·trivial
  ·refine iC (i:=8) (h:=λ x12=>?_)
   refine bG (i:=2) (hq:=(cM (hs:=xH k bx bm x dn rs) (os:=xW x) (hc:=λ w hs=>fK m (by omega) ok hs))) (h:=λ x28 h28=>?_);refine Ck ?_
   refine fF (x12) ?_
   ·trivial
 dsimp only[iB,List.map,List.cons_append,List.nil_append]
 refine Kc9 ?_
 refine bE (λ c36=>?_) (λ c36=>?_)
 ·exact absurd c36 hk
 ·have g0:=h48.1.to (λ _=>if_neg hk)
  have g1:=Lw g0 (by rw[hl];rfl)
  refine D1 ?_;refine aM (cV (hc:=λ w1 hw=>eY hh (level:Int) w1)) (λ x91=>?_);refine J1 ?_;refine Dv ?_;refine aM (cV (hc:=λ w1 hw=>v7 (v:=(aD x.L m)) h48.2 hl (ok.sG hw hA m))) (λ x95=>?_);refine aA ?_;refine aB (bP rf rfl) rfl ?_;refine aB (bP rf rfl) rfl ?_;refine J8 ?_;refine jM ?_;refine aC (cM (hs:=xH k bx bm x dn rs) (os:=xW x) (hc:=λ w hs=>fK 0 (by decide) ok hs)) (λ x100 h100=>?_);refine aJ (λ x21=>?_);refine J5 ?_;refine Cz ?_;refine jM ?_
  refine aI ?_
  refine zt ?_;refine J1 ?_
  refine bE (λ c101=>?_) (λ c101=>?_)
  ·exact nv c101
  ·refine J2 ?_;refine Fy ?_
   refine aI ?_
   refine aw ?_;(refine aI ?_);refine Kb7 ?_
   refine bE (λ c109=>?_) (λ c109=>?_)
   ·refine J0 ?_;refine aM (cV (hc:=λ w1 hw=>gF _ _ w1)) (λ x118=>?_);refine Dm ?_
    refine bB Tryz.results226 (λ w hw=>?_)
    exact⟨(jL false 0,1,x,[]),rfl,⟨g1,ok,by simp,Nat.le_refl _,bH _⟩,hw.aX (hF:=by exact aV.nil)⟩
   ·exact nv c109
set_option maxRecDepth 100000 in
theorem S4(hg:g.Ok)(i m:Int){h:Nat}(hh:h<18446744073709551616)(level:Nat)(hlv:level<=1073741824)(K:Rs->Int->Tr)(ht:k.t.root<=9223372036854775807)(hi:i<=x.L.length)(hm:m<=x.L.length)(hA:∀f∈aL x.L,f∈A)(hk:¬(aD x.L m).nd.kind=6){b:Int}(hl:kU (aD x.L m).c (gJ h (level:Int))=some b)(hi2:(aD x.L b).nd.kind=2)(go:fS g x (kI k i m h level K))(ok:x.Ok)(hs:SF w D (xH k bx bm x dn rs) A [] (xW x) w):Calls prog 226 #[.pointer (some ⟨bx,0,none⟩),.int .i64 i,.int .i64 m,.int .u64 (h:Int),.int .i64 (level:Int)] w (Ys g x K bx bm k dn rs D w):=by
 have hyl:=rL ok m
 have hlL:=ok.lL
 have h48:fS g x _/\lX x.L.length x.cs.length (aD x.L m).c:=⟨pE go hm,ok.nv m⟩
 have hb:b<=x.L.length:=by have:=qG (ok.nv m) (gJ h (level:Int));rw[hl] at this;exact this
 refine enter Tryz.func226 Tryz.ntmps226 rfl rfl (cH hs) ?_
 simp only[cE]
 refine J0 ?_;refine aJ (λ x10=>?_);refine iW ?_
 refine eJ [12,13,26,27,28,29,30,31,32,33] (λ j:Nat=>[(12,.pointer (some ⟨j,0,none⟩)),(13,.string k.key)]) (λ _=>True) (λ j=>[(j,.cells ⟨(aD x.L m).nd.cells⟩ 47 (0,0)),(x10,.cells ⟨Rs.zero.cells⟩ 64 (0,0)),(bx,xO k bm x dn rs),(bm,xM x)]) (λ _=>[]) (λ _=>xW x) (by decide) (λ _=>by exact rfl) ?_ (λ j f hx=>?_)
 ·refine iD (.one 0 [] (.one 1 [] (.one 3 [] (.one 4 [] (.one 5 [] (.one 6 [] (.one 7 [] (.two 2 [7] (.one 8 [7] (.one 9 [7] (.one 10 [] .nil))) 0 [] (.two 8 [7] (.one 2 [7] (.one 9 [7] (.one 10 [] .nil))) 0 [] .nil))))))))) ?_
  refine hU ?_;refine yA ?_
  refine iK (E:=[2,8]) (by decide +kernel) ((.cons ?_ (.cons ?_ .nil)))
  ·refine mE (i:=2) (hq:=(cM (hs:=xH k bx bm x dn rs) (os:=xW x) (hc:=λ w hs=>fK m (by omega) ok hs))) (h:=λ x28 h28=>?_)
   refine iE (h:=λ x12=>?_);refine Ck ?_
   refine fF (x12) ?_
   ·trivial
  ·refine iC (i:=8) (h:=λ x12=>?_)
   refine bG (i:=2) (hq:=(cM (hs:=xH k bx bm x dn rs) (os:=xW x) (hc:=λ w hs=>fK m (by omega) ok hs))) (h:=λ x28 h28=>?_);refine Ck ?_
   refine fF (x12) ?_
   ·trivial
 dsimp only[iB,List.map,List.cons_append,List.nil_append]
 refine Kc9 ?_
 refine bE (λ c36=>?_) (λ c36=>?_)
 ·exact absurd c36 hk
 ·have g0:=h48.1.to (λ _=>if_neg hk)
  have g1:=tP g0 (by rw[hl];rfl)
  rw[hl] at g1
  have g2:=pE g1 hb
  refine D1 ?_;refine aM (cV (hc:=λ w1 hw=>eY hh (level:Int) w1)) (λ x91=>?_);refine J1 ?_;refine Dv ?_;refine aM (cV (hc:=λ w1 hw=>Ki (v:=(aD x.L m)) h48.2 hl (ok.sG hw hA m))) (λ x95=>?_);refine aA ?_;refine aB (bP rf rfl) rfl ?_;refine aB (bP rf rfl) rfl ?_;refine J8 ?_;refine jM ?_;refine aC (cM (hs:=xH k bx bm x dn rs) (os:=xW x) (hc:=λ w hs=>fK b (by omega) ok hs)) (λ x100 h100=>?_);refine aJ (λ x21=>?_);refine J5 ?_;refine Cz ?_;refine jM ?_
  (refine aF ?_;refine aE ?_)
  refine zt ?_;refine J1 ?_
  refine bE (λ c101=>?_) (λ c101=>?_)
  ·have g3:=g2.to (λ _=>if_pos hi2)
   refine J0 ?_;refine bK ?_;refine Dm ?_
   refine bB Tryz.results226 (λ w hw=>?_)
   exact⟨(Rs.zero,2,x,[]),rfl,⟨g3,ok,by simp,Nat.le_refl _,bH _⟩,hw.aX (hF:=by exact aV.nil)⟩
  ·exact absurd hi2 c101
set_option maxRecDepth 100000 in
theorem Su(hg:g.Ok)(i m:Int){h:Nat}(hh:h<18446744073709551616)(level:Nat)(hlv:level<=1073741824)(K:Rs->Int->Tr)(ht:k.t.root<=9223372036854775807)(hi:i<=x.L.length)(hm:m<=x.L.length)(hA:∀f∈aL x.L,f∈A)(hk:¬(aD x.L m).nd.kind=6){b:Int}(hl:kU (aD x.L m).c (gJ h (level:Int))=some b)(hi2:¬(aD x.L b).nd.kind=2)(he:¬(aD x.L b).nd.key=k.key)(go:fS g x (kI k i m h level K))(ok:x.Ok)(hs:SF w D (xH k bx bm x dn rs) A [] (xW x) w):Calls prog 226 #[.pointer (some ⟨bx,0,none⟩),.int .i64 i,.int .i64 m,.int .u64 (h:Int),.int .i64 (level:Int)] w (Ys g x K bx bm k dn rs D w):=by
 have hyl:=rL ok m
 have hlL:=ok.lL
 have h48:fS g x _/\lX x.L.length x.cs.length (aD x.L m).c:=⟨pE go hm,ok.nv m⟩
 have hb:b<=x.L.length:=by have:=qG (ok.nv m) (gJ h (level:Int));rw[hl] at this;exact this
 refine enter Tryz.func226 Tryz.ntmps226 rfl rfl (cH hs) ?_
 simp only[cE]
 refine J0 ?_;refine aJ (λ x10=>?_);refine iW ?_
 refine eJ [12,13,26,27,28,29,30,31,32,33] (λ j:Nat=>[(12,.pointer (some ⟨j,0,none⟩)),(13,.string k.key)]) (λ _=>True) (λ j=>[(j,.cells ⟨(aD x.L m).nd.cells⟩ 47 (0,0)),(x10,.cells ⟨Rs.zero.cells⟩ 64 (0,0)),(bx,xO k bm x dn rs),(bm,xM x)]) (λ _=>[]) (λ _=>xW x) (by decide) (λ _=>by exact rfl) ?_ (λ j f hx=>?_)
 ·refine iD (.one 0 [] (.one 1 [] (.one 3 [] (.one 4 [] (.one 5 [] (.one 6 [] (.one 7 [] (.two 2 [7] (.one 8 [7] (.one 9 [7] (.one 10 [] .nil))) 0 [] (.two 8 [7] (.one 2 [7] (.one 9 [7] (.one 10 [] .nil))) 0 [] .nil))))))))) ?_
  refine hU ?_;refine yA ?_
  refine iK (E:=[2,8]) (by decide +kernel) ((.cons ?_ (.cons ?_ .nil)))
  ·refine mE (i:=2) (hq:=(cM (hs:=xH k bx bm x dn rs) (os:=xW x) (hc:=λ w hs=>fK m (by omega) ok hs))) (h:=λ x28 h28=>?_)
   refine iE (h:=λ x12=>?_);refine Ck ?_
   refine fF (x12) ?_
   ·trivial
  ·refine iC (i:=8) (h:=λ x12=>?_)
   refine bG (i:=2) (hq:=(cM (hs:=xH k bx bm x dn rs) (os:=xW x) (hc:=λ w hs=>fK m (by omega) ok hs))) (h:=λ x28 h28=>?_);refine Ck ?_
   refine fF (x12) ?_
   ·trivial
 dsimp only[iB,List.map,List.cons_append,List.nil_append]
 refine Kc9 ?_
 refine bE (λ c36=>?_) (λ c36=>?_)
 ·exact absurd c36 hk
 ·have g0:=h48.1.to (λ _=>if_neg hk)
  have g1:=tP g0 (by rw[hl];rfl)
  rw[hl] at g1
  have g2:=pE g1 hb
  refine D1 ?_;refine aM (cV (hc:=λ w1 hw=>eY hh (level:Int) w1)) (λ x91=>?_);refine J1 ?_;refine Dv ?_;refine aM (cV (hc:=λ w1 hw=>Ki (v:=(aD x.L m)) h48.2 hl (ok.sG hw hA m))) (λ x95=>?_);refine aA ?_;refine aB (bP rf rfl) rfl ?_;refine aB (bP rf rfl) rfl ?_;refine J8 ?_;refine jM ?_;refine aC (cM (hs:=xH k bx bm x dn rs) (os:=xW x) (hc:=λ w hs=>fK b (by omega) ok hs)) (λ x100 h100=>?_);refine aJ (λ x21=>?_);refine J5 ?_;refine Cz ?_;refine jM ?_
  (refine aF ?_;refine aE ?_)
  refine zt ?_;refine J1 ?_
  refine bE (λ c101=>?_) (λ c101=>?_)
  ·exact absurd c101 hi2
  ·have g3:=(g2.to (λ _=>if_neg hi2)).to (λ _=>if_pos he)
   refine J2 ?_;refine Fy ?_
   (refine aF ?_;refine aE ?_)
   refine aw ?_;((refine aF ?_;refine aB (rl rf rf he) rfl ?_));refine Kb7 ?_
   refine bE (λ c109=>?_) (λ c109=>?_)
   ·refine J0 ?_;refine aM (cV (hc:=λ w1 hw=>gF _ _ w1)) (λ x118=>?_);refine Dm ?_
    refine bB Tryz.results226 (λ w hw=>?_)
    exact⟨(jL false 0,1,x,[]),rfl,⟨g3,ok,by simp,Nat.le_refl _,bH _⟩,hw.aX (hF:=by exact aV.nil)⟩
   ·exact nv c109
set_option maxRecDepth 100000 in
theorem R8(hg:g.Ok)(i m:Int){h:Nat}(hh:h<18446744073709551616)(level:Nat)(hlv:level<=1073741824)(K:Rs->Int->Tr)(ht:k.t.root<=9223372036854775807)(hi:i<=x.L.length)(hm:m<=x.L.length)(hA:∀f∈aL x.L,f∈A)(hk:¬(aD x.L m).nd.kind=6){b:Int}(hl:kU (aD x.L m).c (gJ h (level:Int))=some b)(hi2:¬(aD x.L b).nd.kind=2)(he:(aD x.L b).nd.key=k.key)(go:fS g x (kI k i m h level K))(ok:x.Ok)(hs:SF w D (xH k bx bm x dn rs) A [] (xW x) w):Calls prog 226 #[.pointer (some ⟨bx,0,none⟩),.int .i64 i,.int .i64 m,.int .u64 (h:Int),.int .i64 (level:Int)] w (Ys g x K bx bm k dn rs D w):=by
 have hyl:=rL ok m
 have hlL:=ok.lL
 have h48:fS g x _/\lX x.L.length x.cs.length (aD x.L m).c:=⟨pE go hm,ok.nv m⟩
 have hb:b<=x.L.length:=by have:=qG (ok.nv m) (gJ h (level:Int));rw[hl] at this;exact this
 refine enter Tryz.func226 Tryz.ntmps226 rfl rfl (cH hs) ?_
 simp only[cE]
 refine J0 ?_;refine aJ (λ x10=>?_);refine iW ?_
 refine eJ [12,13,26,27,28,29,30,31,32,33] (λ j:Nat=>[(12,.pointer (some ⟨j,0,none⟩)),(13,.string k.key)]) (λ _=>True) (λ j=>[(j,.cells ⟨(aD x.L m).nd.cells⟩ 47 (0,0)),(x10,.cells ⟨Rs.zero.cells⟩ 64 (0,0)),(bx,xO k bm x dn rs),(bm,xM x)]) (λ _=>[]) (λ _=>xW x) (by decide) (λ _=>by exact rfl) ?_ (λ j f hx=>?_)
 ·refine iD (.one 0 [] (.one 1 [] (.one 3 [] (.one 4 [] (.one 5 [] (.one 6 [] (.one 7 [] (.two 2 [7] (.one 8 [7] (.one 9 [7] (.one 10 [] .nil))) 0 [] (.two 8 [7] (.one 2 [7] (.one 9 [7] (.one 10 [] .nil))) 0 [] .nil))))))))) ?_
  refine hU ?_;refine yA ?_
  refine iK (E:=[2,8]) (by decide +kernel) ((.cons ?_ (.cons ?_ .nil)))
  ·refine mE (i:=2) (hq:=(cM (hs:=xH k bx bm x dn rs) (os:=xW x) (hc:=λ w hs=>fK m (by omega) ok hs))) (h:=λ x28 h28=>?_)
   refine iE (h:=λ x12=>?_);refine Ck ?_
   refine fF (x12) ?_
   ·trivial
  ·refine iC (i:=8) (h:=λ x12=>?_)
   refine bG (i:=2) (hq:=(cM (hs:=xH k bx bm x dn rs) (os:=xW x) (hc:=λ w hs=>fK m (by omega) ok hs))) (h:=λ x28 h28=>?_);refine Ck ?_
   refine fF (x12) ?_
   ·trivial
 dsimp only[iB,List.map,List.cons_append,List.nil_append]
 refine Kc9 ?_
 refine bE (λ c36=>?_) (λ c36=>?_)
 ·exact absurd c36 hk
 ·have g0:=h48.1.to (λ _=>if_neg hk)
  have g1:=tP g0 (by rw[hl];rfl)
  rw[hl] at g1
  have g2:=pE g1 hb
  refine D1 ?_;refine aM (cV (hc:=λ w1 hw=>eY hh (level:Int) w1)) (λ x91=>?_);refine J1 ?_;refine Dv ?_;refine aM (cV (hc:=λ w1 hw=>Ki (v:=(aD x.L m)) h48.2 hl (ok.sG hw hA m))) (λ x95=>?_);refine aA ?_;refine aB (bP rf rfl) rfl ?_;refine aB (bP rf rfl) rfl ?_;refine J8 ?_;refine jM ?_;refine aC (cM (hs:=xH k bx bm x dn rs) (os:=xW x) (hc:=λ w hs=>fK b (by omega) ok hs)) (λ x100 h100=>?_);refine aJ (λ x21=>?_);refine J5 ?_;refine Cz ?_;refine jM ?_
  (refine aF ?_;refine aE ?_)
  refine zt ?_;refine J1 ?_
  refine bE (λ c101=>?_) (λ c101=>?_)
  ·exact absurd c101 hi2
  ·have g3:=(g2.to (λ _=>if_neg hi2)).to (λ _=>if_neg (λ h:¬(aD x.L b).nd.key=k.key=>h he))
   refine J2 ?_;refine Fy ?_
   (refine aF ?_;refine aE ?_)
   refine aw ?_;((refine aF ?_;refine aB (o4 rf rf he) rfl ?_));refine Kb7 ?_
   refine bE (λ c109=>?_) (λ c109=>?_)
   ·exact nv c109
   ·refine aR ?_;refine gM [0,1,2,3,4,5,6,7,8,9,10,11,12,13,14,15] ?_;refine yA ?_;refine bC ?_
    (refine wa 125 (λ g125=>?_) (λ g125=>?_)<;>(first|refine gL ?_|(refine aT ?_)))
    all_goals ((first|refine gL ?_|(refine bX ?_));(first|refine gL ?_|(refine bC ?_));(first|refine gL ?_|(refine zJ ?_));(first|refine gL ?_|(refine aT ?_));refine J18 ?_;(first|refine gL ?_|(refine kx ?_));refine mF ?_;refine J7 ?_)
    all_goals
    refine bE (λ c119=>?_) (λ c119=>?_)
    ·try exact nv c119
     all_goals
      have g4:=g3.to (λ _=>if_pos (show(k.only=true/\(aD x.L b).nd.val≠k.exp) from⟨by assumption,by assumption⟩))
     all_goals (refine gY ?_;refine aM (cV (hc:=λ w1 hw=>gF _ _ w1)) (λ x137=>?_);refine Dm ?_)
     all_goals
      refine bB Tryz.results226 (λ w hw=>?_)
      exact⟨(jL true (aD x.L b).nd.val,1,x,[]),rfl,⟨g4,ok,by simp,Nat.le_refl _,bH _⟩,hw.aX (hF:=by exact aV.nil)⟩
    ·all_goals
      have g4:=g3.to (λ _=>if_neg (show ¬(k.only=true/\(aD x.L b).nd.val≠k.exp) from by rintro ⟨h,h'⟩;simp_all))
     all_goals (refine pM ?_;refine Dv ?_;refine aC (cF (hc:=λ w1 hw=>aBq (v:=(aD x.L m)) h48.2 (gJ h (level:Int)) (ok.sG hw hA m))) (λ x141 h141=>?_))
     all_goals
      have hB:=aCd h48.2 (v:=(aD x.L m)) (gJ h (level:Int))
     all_goals (refine aA ?_;refine aB (bP rf rfl) rfl ?_;refine aB (bP rf rfl) rfl ?_;refine aJ (λ x22=>?_);refine Dm ?_;refine oX ?_;refine aM (cV (hc:=λ w1 hw=>pq hB (wz h48.2 (gJ h (level:Int)) x141) (hw.cl (.new .head)))) (λ x146=>?_))
     all_goals
      have hso:((K9 (M9 (aD x.L m).c (gJ h (level:Int)))).getD 0)<=x.L.length:=aAV hB (wz h48.2 (gJ h (level:Int)) x141)
      have g5:=pE g4 hso
     all_goals (refine aA ?_;refine aB (bP rf rfl) rfl ?_;refine aB (bP rf rfl) rfl ?_;refine J8 ?_;refine aR ?_;refine eQ [(0,[]),(1,[]),(2,[]),(3,[]),(4,[]),(5,[]),(6,[]),(7,[]),(8,[]),(9,[]),(10,[]),(11,[]),(12,[]),(13,[]),(16,[]),(19,[]),(20,[]),(14,[6,10,20]),(15,[6,20]),(17,[6,20]),(18,[20]),(21,[]),(22,[]),(23,[]),(24,[]),(25,[])] ?_;refine hU ?_;refine J9 ?_;refine aT ?_;refine bT (i:=6) (hq:=(aP (k:=2) (vs:=[.int .i64 k.t.root,.bool k.t.ro]) rf cR eE rfl rfl)) (h:=?_);refine hU ?_;refine bC ?_;refine Ka9 ?_;refine hU ?_;refine pG ?_;refine bG (i:=14) (hq:=(cM (hs:=xH k bx bm x dn rs) (os:=xW x) (hc:=λ w hs=>fK ((K9 (M9 (aD x.L m).c (gJ h (level:Int)))).getD 0) (by omega) ok hs))) (hfire:=(λ _=>by(refine iV ?_;(repeat (first|exact aQ.nil|refine aQ.cons (by first|exact iP (hq:=aP (k:=2) (vs:=[.int .i64 k.t.root,.bool k.t.ro]) rf cR eE rfl rfl)|exact iF) ?_));done))) (h:=λ x163 h163=>?_);refine dC (i:=15) (hq:=(cV (hc:=λ w1 hw=>Uv hB (level:Int) (aD x.L ((K9 (M9 (aD x.L m).c (gJ h (level:Int)))).getD 0)).nd (hw.cl (.new .head))))) (hfire:=(λ _=>by((repeat (first|exact aQ.nil|refine aQ.cons (by first|exact iP (hq:=aP (k:=2) (vs:=[.int .i64 k.t.root,.bool k.t.ro]) rf cR eE rfl rfl)|exact iF) ?_));done))) (h:=λ x164=>?_);refine bG (i:=17) (hq:=(cM (hs:=xH k bx bm x dn rs) (os:=xW x) (A0:=[((P5 (Za (aD x.L m) (gJ h (level:Int))) x141 (level:Int) (aD x.L ((K9 (M9 (aD x.L m).c (gJ h (level:Int)))).getD 0)).nd).brA,aH (Yo (Za (aD x.L m) (gJ h (level:Int))) x141 (level:Int) (aD x.L ((K9 (M9 (aD x.L m).c (gJ h (level:Int)))).getD 0)).nd)),((P5 (Za (aD x.L m) (gJ h (level:Int))) x141 (level:Int) (aD x.L ((K9 (M9 (aD x.L m).c (gJ h (level:Int)))).getD 0)).nd).prA,dE [])]) (hA:=w4) (hc:=λ w hs=>gI hg (n:=(P5 (Za (aD x.L m) (gJ h (level:Int))) x141 (level:Int) (aD x.L ((K9 (M9 (aD x.L m).c (gJ h (level:Int)))).getD 0)).nd)) (xs:=(Yo (Za (aD x.L m) (gJ h (level:Int))) x141 (level:Int) (aD x.L ((K9 (M9 (aD x.L m).c (gJ h (level:Int)))).getD 0)).nd)) (ys:=[]) m _ (Zw _ _ _) (Zk _ _ _) (Vm hB _ _ _) (Nat.zero_le _) (Vp hB _ _ (ok.nv ((K9 (M9 (aD x.L m).c (gJ h (level:Int)))).getD 0)).hash) hm (by rw[<- vb,<- aBN h48.2];exact g5) ok hs))) (hfire:=(λ _=>by(refine iV ?_;(repeat (first|exact aQ.nil|refine aQ.cons (by first|exact iP (hq:=aP (k:=2) (vs:=[.int .i64 k.t.root,.bool k.t.ro]) rf cR eE rfl rfl)|exact iF) ?_));done))) (h:=λ x166 h166=>?_);refine bG (i:=18) (hq:=(cM (hs:=xH k bx bm x166.2.1 dn rs) (os:=xW x166.2.1) (hc:=λ w hs=>tE hg k.t i m x166.1 _ ht (by have:=h166.len;omega) h166.bd h166.go h166.ok hs))) (h:=λ x167 h167=>?_))
     all_goals
      have hch:=Ch.nx h167 (Ch.nx h166 ((Ch.base (F:=[])).cons (f:=(x141.1,aH (mL (Za (aD x.L m) (gJ h (level:Int))))))))
      have hlc:x.cs.length<=x167.2.1.cs.length:=by have:=h166.lc;have:=h167.lc;omega
     all_goals (refine dC (i:=21) (hq:=(cV (hc:=λ w1 hw=>pL _ _ _ _ w1))) (h:=λ x170=>?_);refine cP (i:=22) (hq:=(bP rf rfl)) (h:=?_);refine cP (i:=23) (hq:=(bP rf rfl)) (h:=?_);refine Ck ?_)
     all_goals
      refine bB Tryz.results226 (λ w hw=>?_)
      obtain⟨N,hN,hf⟩:=hch.to (t':=K (rT true (aD x.L b).nd.val) (if x167.1=true then 1 else 0)) h167 (h167.go) hlc (bH _)
      exact⟨(rT true (aD x.L b).nd.val,(if x167.1=true then 1 else 0),x167.2.1,N),rfl,hN,(hw.fG hf).v4⟩
theorem Th(hg:g.Ok)(i m:Int){h:Nat}(hh:h<18446744073709551616)(level:Nat)(hlv:level<=1073741824)(K:Rs->Int->Tr)(ht:k.t.root<=9223372036854775807)(hi:i<=x.L.length)(hm:m<=x.L.length)(hA:∀f∈aL x.L,f∈A)(go:fS g x (kI k i m h level K))(ok:x.Ok)(hs:SF w D (xH k bx bm x dn rs) A [] (xW x) w):Calls prog 226 #[.pointer (some ⟨bx,0,none⟩),.int .i64 i,.int .i64 m,.int .u64 (h:Int),.int .i64 (level:Int)] w (Ys g x K bx bm k dn rs D w):=by
 by_cases hk:(aD x.L m).nd.kind=6
 ·exact Sv hg i m hh level hlv K ht hi hm hA hk go ok hs
 ·cases hl:kU (aD x.L m).c (gJ h (level:Int)) with
  | none=>exact Sh hg i m hh level hlv K ht hi hm hA hk hl go ok hs
  | some b =>
   by_cases hi2:(aD x.L b).nd.kind=2
   ·exact S4 hg i m hh level hlv K ht hi hm hA hk hl hi2 go ok hs
   ·by_cases he:(aD x.L b).nd.key=k.key
    ·exact R8 hg i m hh level hlv K ht hi hm hA hk hl hi2 he go ok hs
    ·exact Su hg i m hh level hlv K ht hi hm hA hk hl hi2 he go ok hs
end
end
end Go.Proofs.YtbajmaoegmbfgaaGreat

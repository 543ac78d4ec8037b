/- Executions of the reference: PUT. -/
import Derived.Test.YtbajmaoegmbfgaaGreatEx17
import Derived.Test.YtbajmaoegmbfgaaGreatAuto

set_option linter.unusedSimpArgs false
set_option linter.unusedVariables false
namespace Go.Ct
section
open Go Go.RowKit
theorem lY{a b c:List aZ}:∀f∈aM ((a++b)++c),f.2=[]∨f∈aM c++(aM b++aM a):=λ f hf=>by
 simp only[cZ,List.mem_append] at hf ⊢
 rcases hf with(h|h)|h
 ·exact .inr (.inr (.inr h))
 ·exact .inr (.inr (.inl h))
 ·exact .inr (.inl h)
theorem vC{a b c d:List aZ}:∀f∈aM (((a++b)++c)++d),f.2=[]∨f∈aM d++(aM c++(aM b++aM a)):=λ f hf=>by
 simp only[cZ,List.mem_append] at hf ⊢
 rcases hf with((h|h)|h)|h
 ·exact .inr (.inr (.inr (.inr h)))
 ·exact .inr (.inr (.inr (.inl h)))
 ·exact .inr (.inr (.inl h))
 ·exact .inr (.inl h)
end
end Go.Ct
namespace Go.Proofs.YtbajmaoegmbfgaaGreat
section
open Go Go.RowKit Go.Ct
section
variable{k:Cl}{bx bm:Nat}{x:XS}{dn:Bool}{rs:Rs}{D:List Nat}{A:Fr}{w:World}{g:Gx}
set_option maxRecDepth 100000 in
theorem aBe(hg:g.Ok){m:Nat}(K:Rs->Tr)(n:Nat)(hn:n<=1073741824)(hm:m<18446744073709551616)(em:k.mask=(m:Int))(ek:k.key.size<=64)(ht:k.t.root<=9223372036854775807)(hA:∀f∈aM x.L,f∈A)(go:fY g x (zC k (jV k.key m) K n))(ok:x.Ok)(hs:SF w D (xH k bx bm x dn rs) A [] (xW x) w):Calls Tryz.prog 184 #[.pointer (some ⟨bx,0,none⟩)] w λ e w'=>∃q:Rs×XS×List aZ,e=.returned (.agg ⟨q.1.cells⟩)/\Nx g x q.2.1 q.2.2 (K q.1) 0/\SF w D (xH k bx bm q.2.1 dn rs) [] (aM q.2.2) (xW q.2.1) w':=by
 refine enter Tryz.func184 Tryz.ntmps184 rfl rfl (bZ hs) ?_
 simp only[bY]
 refine J0 ?_;refine aI (λ x2=>?_);refine Oq ?_
 refine eI [3,4,13,14,15,16,17,18,19,20,21,22,23,24,25,26,27,28] (λ j:Nat=>[(3,.pointer (some ⟨j,0,none⟩)),(4,.int .u64 (((jV k.key m):Nat):Int))]) (λ _=>True) (λ j=>[(j,.cells ⟨[.int .i64 k.t.root,.bool k.t.ro]⟩ 29 (0,0)),(x2,.cells ⟨Rs.zero.cells⟩ 64 (0,0)),(bx,xO k bm x dn rs),(bm,xM x)]) (λ _=>[]) (λ _=>xW x) (by decide) (λ _=>by exact rfl) ?_ (λ j f hx=>?_)
 ·refine iD (.one 0 [] (.one 1 [] (.one 2 [] (.one 3 [] (.one 4 [] (.one 5 [] (.one 6 [] (.one 7 [] (.one 8 [] (.one 9 [] (.one 10 [] (.one 11 [] (.one 12 [] (.one 13 [] (.one 14 [] (.two 15 [4] (.one 16 [4,9,14] (.one 17 [] (.one 18 [] .nil))) 0 [] (.two 16 [4,9,14] (.one 15 [4] (.one 17 [] (.one 18 [] .nil))) 0 [] .nil))))))))))))))))) ?_
  refine J9 ?_;refine aQ ?_;refine bT (i:=4) (hq:=(aN (k:=2) (vs:=[.int .i64 k.t.root,.bool k.t.ro]) rf cL dJ rfl rfl)) (h:=?_);refine xR ?_;refine xR ?_
  refine iK (E:=[15,16]) (by decide +kernel) ((.cons ?_ (.cons ?_ .nil)))
  ·refine Di (i:=15) (hq:=(cV (hc:=λ w1 hw=>nE em hm ek w1))) (hfire:=(λ _=>by(refine aW.cons (by exact iR (hq:=aN (k:=2) (vs:=[.int .i64 k.t.root,.bool k.t.ro]) rf cL dJ rfl rfl)) ?_;exact aW.nil))) (h:=λ x28=>?_)
   refine iE (hfire:=(λ _=>by((repeat (first|exact aW.nil|refine aW.cons (by first|exact iR (hq:=aN (k:=2) (vs:=[.int .i64 k.t.root,.bool k.t.ro]) rf cL dJ rfl rfl)|exact jK) ?_));done))) (h:=λ x3=>?_);refine Cf ?_
   refine fC (x3) ?_
   ·trivial
  ·refine iC (i:=16) (hfire:=(λ _=>by((repeat (first|exact aW.nil|refine aW.cons (by first|exact iR (hq:=aN (k:=2) (vs:=[.int .i64 k.t.root,.bool k.t.ro]) rf cL dJ rfl rfl)|exact jK) ?_));done))) (h:=λ x3=>?_)
   refine cN (i:=15) (hq:=(cV (hc:=λ w1 hw=>nE em hm ek w1))) (hfire:=(λ _=>by(refine aW.cons (by exact iR (hq:=aN (k:=2) (vs:=[.int .i64 k.t.root,.bool k.t.ro]) rf cL dJ rfl rfl)) ?_;exact aW.nil))) (h:=λ x28=>?_);refine Cf ?_
   refine fC (x3) ?_
   ·trivial
 dsimp only[gR,List.map,List.cons_append,List.nil_append]
 refine Dk ?_
 refine nA [5,6,7,8,9,10,11,12,29,30,31,32,33,34,35,36,37,38,39,40,41,42,43,44,45,46,47,48,49,50,51,52,53,54,55,56,57,58,59,60,61,62,63,64,65,66,67,68,69,70,71,72,73,74,75,76,77,78,79,80,81,82,83,84,85,86,87,88,89,90,91,92,93,94,95,96,97,98,99,100,101] (λ y:Nat×XS×List aZ=>[]) (λ y=>y.1<=n/\Nx g x y.2.1 y.2.2 (zC k (jV k.key m) K y.1) 0) (λ y=>[(j,.cells ⟨[.int .i64 k.t.root,.bool k.t.ro]⟩ 29 (0,0)),(x2,.cells ⟨Rs.zero.cells⟩ 64 (0,0)),(bx,xO k bm y.2.1 dn rs),(bm,xM y.2.1)]) (λ y=>aM y.2.2) (λ y=>xW y.2.1) (λ y=>y.1) ((n,x,[])) (⟨Nat.le_refl n,Nx.start go ok |>.cK go (bH _)⟩) (λ y f hx=>?_) (hw0:=λ w hw=>hw)
 dsimp only[gR,List.map,List.cons_append,List.nil_append]
 obtain⟨hyn,hy⟩:=hx
 refine aV ?_;refine lR ?_;refine oX ?_
 refine bE (λ c33=>?_) (λ c33=>?_)
 ·obtain⟨fu,hfu,gx⟩:=fY.jY (T:=λ q=>zC k (jV k.key m) K q) hy.go (by simpa using c33) rfl hg
  refine bB ?_;refine cI ?_;refine J2 ?_;refine bR ?_;refine aC (cM (hs:=xH k bx bm y.2.1 dn rs) (os:=xW y.2.1) (hc:=λ w hs=>Bn hg k.t _ ht gx hy.ok hs)) (λ x36 h36=>?_);refine wJ ?_;refine aC (cM (hs:=xH k bx bm x36.2.1 dn rs) (os:=xW x36.2.1) (hc:=λ w hs=>cJ x36.1 _ h36.bd h36.go h36.ok hs)) (λ x39 h39=>?_);refine cY ?_;refine J1 ?_;refine cR ?_;refine Fs ?_
  refine nA [5,7,8,9,10,11,12,41,42,43,44,45,46,47,48,49,50,51,52,53,54,55,56,57,58,59,60,61,62,63,64,65,66,67,68,69,70,71,72,73,74,75,76,77,78,79,80,81,82,83,84,85,86,87,88,89,90,91,92,93,94,95,96,97,98,99,100,101] (λ z:Nat×Int×Int×XS×List aZ=>[(5,.int .i64 z.2.1),(7,.int .i64 z.2.2.1),(8,.int .i64 (((fu-z.1):Nat):Int))]) (λ z=>z.1<=fu/\Nx g x z.2.2.2.1 z.2.2.2.2 (rW k (jV k.key m) K (zC k (jV k.key m) K fu) (aD x36.2.1.L x36.1).nd.gen z.1 z.2.1 z.2.2.1 (fu-z.1)) z.2.1/\z.2.2.1<=z.2.2.2.1.L.length) (λ z=>[(j,.cells ⟨[.int .i64 k.t.root,.bool k.t.ro]⟩ 29 (0,0)),(x2,.cells ⟨Rs.zero.cells⟩ 64 (0,0)),(bx,xO k bm z.2.2.2.1 dn rs),(bm,xM z.2.2.2.1)]) (λ z=>aM z.2.2.2.2) (λ z=>xW z.2.2.2.1) (λ z=>z.1) ((fu,x36.1,0,x36.2.1,y.2.2++x36.2.2)) (⟨Nat.le_refl fu,(hy.trans h36).cK (show fY g x36.2.1 (rW k (jV k.key m) K (zC k (jV k.key m) K fu) (aD x36.2.1.L x36.1).nd.gen fu x36.1 0 (fu-fu)) from(Nat.sub_self fu).symm▸h39.1) h36.bd,bH _⟩) (λ z f hx=>?_) (hw0:=λ w hw=>(hw.fE mV).back (hF:=by exact aY.all))
  dsimp only[gR,List.map,List.cons_append,List.nil_append]
  obtain⟨hzf,hz,hzp⟩:=hx
  refine aV ?_;refine lR ?_;refine oX ?_
  refine bE (λ c45=>?_) (λ c45=>?_)
  ·obtain⟨fu2,hfu2,gz⟩:=fY.jY (T:=λ q=>(rW k (jV k.key m) K (zC k (jV k.key m) K fu) (aD x36.2.1.L x36.1).nd.gen q z.2.1 z.2.2.1 (fu-z.1))) hz.go (by simpa using c45) rfl hg
   refine qI ?_;refine J2 ?_;refine bR ?_;refine aA ?_;refine aC (cM (hs:=xH k bx bm z.2.2.2.1 dn rs) (os:=xW z.2.2.2.1) (hc:=λ w hs=>oM hg k.t z.2.1 _ ht hz.bd gz hz.ok hs)) (λ x51 h51=>?_)
   have hl51:=h51.len
   have hb51:=h51.bd
   have hbz:=hz.bd
   have hch:=Ch.nx h51 hz.ch
   refine iZ ?_;refine lR ?_;refine aH ?_
   refine bE (λ c55=>?_) (λ c55=>?_)
   ·refine Zo ?_
    refine iJ (by exact(fu,x51.2.1,(z.2.2.2.2++x51.2.2))) ?_ (hw1:=λ w hw=>by exact(hw.fE mV).back (hF:=by exact aY.all))
    ·first
     | exact⟨by show fu<=n;omega,(((hz.trans h51).trans h76).trans h97).cK g4 (bH _)⟩
     | exact⟨by show fu<=n;omega,((hz.trans h51).trans h76).cK g3 (bH _)⟩
     | exact⟨by show fu<=n;omega,((hz.trans h51).trans h68).cK h68.go (bH _)⟩
     | exact⟨by show fu<=n;omega,(hz.trans h51).cK (h51.go.bV (by assumption)) (bH _)⟩
     | exact⟨by show fu<=n;omega,hz.cK (hz.go.bV (by simpa using c45)) (bH _)⟩
   ·refine lA ?_;refine iO ?_;refine aC (cM (hs:=xH k bx bm x51.2.1 dn rs) (os:=xW x51.2.1) (hc:=λ w hs=>cJ x51.1 _ h51.bd h51.go h51.ok hs)) (λ x58 h58=>?_);refine cY ?_;refine uI ?_
    refine bE (λ c60=>?_) (λ c60=>?_)
    ·have g1:=h58.1.to (λ _=>if_pos c60)
     refine J2 ?_;refine bR ?_;refine pY ?_;refine pY ?_;refine uR ?_;refine aC (cM (hs:=xH k bx bm x51.2.1 dn rs) (os:=xW x51.2.1) (A0:=aM x51.2.1.L) (hA:=Ch.all hch hA) (hc:=λ w hs=>Mr hg k.t z.2.2.1 z.2.1 (oE k.key m) ((((fu-z.1):Nat):Int)-1) _ ht (by omega) (by omega) (λ f hf=>hf) g1 h51.ok hs)) (λ x68 h68=>?_);refine aH ?_;refine Zo ?_
     refine iJ (by exact(fu,x68.2.1,((z.2.2.2.2++x51.2.2)++x68.2.2))) ?_ (hw1:=λ w hw=>by exact(hw.fE lY).back (hF:=by exact aY.all))
     ·first
      | exact⟨by show fu<=n;omega,(((hz.trans h51).trans h76).trans h97).cK g4 (bH _)⟩
      | exact⟨by show fu<=n;omega,((hz.trans h51).trans h76).cK g3 (bH _)⟩
      | exact⟨by show fu<=n;omega,((hz.trans h51).trans h68).cK h68.go (bH _)⟩
      | exact⟨by show fu<=n;omega,(hz.trans h51).cK (h51.go.bV (by assumption)) (bH _)⟩
      | exact⟨by show fu<=n;omega,hz.cK (hz.go.bV (by simpa using c45)) (bH _)⟩
    ·have g1:=h58.1.to (λ _=>if_neg c60)
     refine yV ?_;refine pY ?_;refine pY ?_;refine aC (cM (hs:=xH k bx bm x51.2.1 dn rs) (os:=xW x51.2.1) (A0:=aM x51.2.1.L) (hA:=Ch.all hch hA) (hc:=λ w hs=>Y3 hg z.2.1 x51.1 (oE k.key m) (fu-z.1) (by omega) (aD x36.2.1.L x36.1).nd.gen _ ht (by omega) (by omega) (λ f hf=>hf) g1 h51.ok hs)) (λ x76 h76=>?_)
     have hl76:=h76.len
     have hch2:=Ch.nx h76 hch
     refine aA ?_;refine aB (bL rf rfl) rfl ?_;refine aB (bL rf rfl) rfl ?_;refine aI (λ x10=>?_);refine jP (λ _=>?_);refine iZ ?_;refine lR ?_;refine aA ?_
     (refine eM 83 (λ g83=>?_) (λ g83=>?_)<;>(first|refine aJ ?_|(refine aF ?_;refine aA ?_)))
     all_goals (refine zR ?_;refine aH ?_)
     all_goals
     refine bE (λ c86=>?_) (λ c86=>?_)
     ·all_goals (refine pK ?_;refine J5 ?_)
      all_goals
       refine bD Tryz.results184 (λ w hw=>?_)
       exact⟨(x76.1,x76.2.2.1,((z.2.2.2.2++x51.2.2)++x76.2.2.2)),rfl,((hz.trans h51).trans h76).cK (by first|exact h76.go.bV (by assumption)|exact h76.go.to (λ _=>if_pos (by assumption))) (bH _),(hw.fE lY).aU (hF:=by exact aY.all)⟩
     ·try exact nv c86
      all_goals
       have g2:=h76.go.to (λ _=>if_neg (by assumption))
      all_goals (refine lA ?_;refine J2 ?_;refine uI ?_)
      all_goals
       refine bE (λ c89=>?_) (λ c89=>?_)
       ·have g3:=g2.to (λ _=>if_pos (by assumption))
        refine Zo ?_
        refine iJ (by exact(fu,x76.2.2.1,((z.2.2.2.2++x51.2.2)++x76.2.2.2))) ?_ (hw1:=λ w hw=>by exact(hw.fE lY).back (hF:=by exact aY.all))
        ·first
         | exact⟨by show fu<=n;omega,(((hz.trans h51).trans h76).trans h97).cK g4 (bH _)⟩
         | exact⟨by show fu<=n;omega,((hz.trans h51).trans h76).cK g3 (bH _)⟩
         | exact⟨by show fu<=n;omega,((hz.trans h51).trans h68).cK h68.go (bH _)⟩
         | exact⟨by show fu<=n;omega,(hz.trans h51).cK (h51.go.bV (by assumption)) (bH _)⟩
         | exact⟨by show fu<=n;omega,hz.cK (hz.go.bV (by simpa using c45)) (bH _)⟩
       ·have g3:=g2.to (λ _=>if_neg (by assumption))
        refine yV ?_;refine pY ?_;refine aA ?_;refine aR (cV (hc:=λ w1 hw=>eW (oE k.key m) (((fu-z.1):Nat):Int) w1)) (λ x95=>?_);refine aA ?_;refine aC (cM (hs:=xH k bx bm x76.2.2.1 dn rs) (os:=xW x76.2.2.1) (A0:=aM x76.2.2.1.L) (hA:=Ch.all hch2 hA) (hc:=λ w hs=>Wg hg z.2.1 x51.1 (eO (jV k.key m) (((fu-z.1):Nat):Int)) (aD x36.2.1.L x36.1).nd.gen _ ht (by omega) (by omega) (λ f hf=>hf) g3 h76.ok hs)) (λ x97 h97=>?_);refine iZ ?_;refine J2 ?_;refine uI ?_
        refine bE (λ c99=>?_) (λ c99=>?_)
        ·have g4:=h97.go.to (λ _=>if_pos (by assumption))
         refine Zo ?_
         refine iJ (by exact(fu,x97.2.1,(((z.2.2.2.2++x51.2.2)++x76.2.2.2)++x97.2.2))) ?_ (hw1:=λ w hw=>by exact(hw.fE vC).back (hF:=by exact aY.all))
         ·first
          | exact⟨by show fu<=n;omega,(((hz.trans h51).trans h76).trans h97).cK g4 (bH _)⟩
          | exact⟨by show fu<=n;omega,((hz.trans h51).trans h76).cK g3 (bH _)⟩
          | exact⟨by show fu<=n;omega,((hz.trans h51).trans h68).cK h68.go (bH _)⟩
          | exact⟨by show fu<=n;omega,(hz.trans h51).cK (h51.go.bV (by assumption)) (bH _)⟩
          | exact⟨by show fu<=n;omega,hz.cK (hz.go.bV (by simpa using c45)) (bH _)⟩
        ·have g4:=h97.go.to (λ _=>if_neg (by assumption))
         refine bB ?_;refine Me ?_;refine J8 ?_;refine eP ?_;refine yH ?_
         refine iJ ((z.1-1,x97.1,z.2.1,x97.2.1,(((z.2.2.2.2++x51.2.2)++x76.2.2.2)++x97.2.2))) ?_ (hw1:=λ w hw=>(hw.fE vC).back (hF:=by exact aY.all))
         ·have e1:z.1-1=fu2:=by omega
          have e2:(fu-z.1)+1=fu-fu2:=by omega
          refine⟨by show z.1-1<=fu;omega,((((hz.trans h51).trans h76).trans h97)).cK ?_ h97.bd,by show z.2.1<=(x97.2.1.L.length:Int);have:=h97.len;omega⟩
          show fY g x97.2.1 (rW k (jV k.key m) K (zC k (jV k.key m) K fu) (aD x36.2.1.L x36.1).nd.gen (z.1-1) x97.1 z.2.1 (fu-(z.1-1)))
          rw[e1,<- e2]
          exact g4
  ·refine Zo ?_
   refine iJ (by exact(fu,z.2.2.2.1,z.2.2.2.2)) ?_ (hw1:=λ w hw=>by exact hw.back (hF:=by exact aY.all))
   ·first
    | exact⟨by show fu<=n;omega,(((hz.trans h51).trans h76).trans h97).cK g4 (bH _)⟩
    | exact⟨by show fu<=n;omega,((hz.trans h51).trans h76).cK g3 (bH _)⟩
    | exact⟨by show fu<=n;omega,((hz.trans h51).trans h68).cK h68.go (bH _)⟩
    | exact⟨by show fu<=n;omega,(hz.trans h51).cK (h51.go.bV (by assumption)) (bH _)⟩
    | exact⟨by show fu<=n;omega,hz.cK (hz.go.bV (by simpa using c45)) (bH _)⟩
 ·refine bM rfl ?_;refine J0 ?_;refine xS ?_
  refine bD Tryz.results184 (λ w hw=>?_)
  exact⟨(Rs.zero,y.2.1,y.2.2),rfl,hy.cK (hy.go.bV (by simpa using c33)) (bH _),hw.aU (hF:=by exact aY.all)⟩
end
end

/- Guards that are not wanted themselves. -/
end Go.Proofs.YtbajmaoegmbfgaaGreat
namespace Go.Ct
section
open Go Go.RowKit
variable{P:Program}{n:Nat}{Q:Exit->Act->World->Prop}{ks:List CK}{ops:Array Oper}{l:List Oper}{S:List (Nat×Value)}{G:World->Prop}
theorem Oj{d:Nat}{op:Op}{ty:TypeId}{pos:String}{af:Array Edge}{j:Nat}{want:Bool}{g:Nat}(hd:Nat.blt d n=true)
  (hj:(ops[j]?).bind (·.dst)=some g) (hg:look S g=undef)
  (h:JL P n Q ks ops l ((d,undef)::S) G):JL P n Q ks ops (⟨some d,op,ty,pos,af,some (j,want)⟩::l) S G:=⟨λ hS w hw=>by
 have hy:yielded ops (dR n S) j=none:=by
  have e:=congrFun (iV (ds:=[]) hS) (.tmp g)
  simp only[Act.eval,ev,hg] at e
  unfold yielded
  rw[hj]
  simp only[Option.bind_some]
  rw[Array.getD_eq_getD_getElem?] at e
  cases h2:(dR n S)[g]? with
  | none=>rfl
  | some u=>rw[h2] at e;simp[undef] at e;subst e;rfl
 refine wpList_step λ K hK=>?_
 have hw':Region.wanted ⟨some d,op,ty,pos,af,some (j,want)⟩ (yielded ops (dR n S))=false:=by
  simp only[Region.wanted,hy]
  rfl
 simp only[hw',Bool.false_eq_true,if_false,Cc]
 exact hK _ _ (h.run (hS.cons hd) w hw)⟩
end
end Go.Ct
namespace Go.Proofs.YtbajmaoegmbfgaaGreat
section
open Go.RowKit Go.Ct
theorem An{n:Nat}{Q:Exit->Act->World->Prop}{ks:List CK}{ops:Array Oper}{l:List Oper}{S:List (Nat×Value)}{G:World->Prop}{d j g:Nat}{op:Op}{ty:TypeId}{pos:String}{af:Array Edge}{want:Bool}(h:JL Tryz.prog n Q ks ops l ((d,undef)::S) G)(hd:Nat.blt d n=true:=by exact rfl)(hj:(ops[j]?).bind (·.dst)=some g:=by exact rfl)(hg:Ct.look S g=undef:=by exact rfl):JL Tryz.prog n Q ks ops (⟨some d,op,ty,pos,af,some (j,want)⟩::l) S G:=Oj hd hj hg h
end

end Go.Proofs.YtbajmaoegmbfgaaGreat

/- Executions of the reference: PUT. -/
import Derived.Test.YtbajmaoegmbfgaaGreatEx17
import Derived.Test.YtbajmaoegmbfgaaGreatAuto

set_option linter.unusedSimpArgs false
set_option linter.unusedVariables false
namespace Go.Ct
section
open Go Go.RowKit
theorem mJ{a b c:List aP}:∀f∈aL ((a++b)++c),f.2=[]∨f∈aL c++(aL b++aL a):=λ f hf=>by
 simp only[dE,List.mem_append] at hf ⊢
 rcases hf with(h|h)|h
 ·exact .inr (.inr (.inr h))
 ·exact .inr (.inr (.inl h))
 ·exact .inr (.inl h)
theorem vQ{a b c d:List aP}:∀f∈aL (((a++b)++c)++d),f.2=[]∨f∈aL d++(aL c++(aL b++aL a)):=λ f hf=>by
 simp only[dE,List.mem_append] at hf ⊢
 rcases hf with((h|h)|h)|h
 ·exact .inr (.inr (.inr (.inr h)))
 ·exact .inr (.inr (.inr (.inl h)))
 ·exact .inr (.inr (.inl h))
 ·exact .inr (.inl h)
end
end Go.Ct
namespace Go.Proofs.YtbajmaoegmbfgaaGreat
section
open Go Go.RowKit Go.Ct
section
variable{k:Cl}{bx bm:Nat}{x:XS}{dn:Bool}{rs:Rs}{D:List Nat}{A:Fr}{w:World}{g:Gx}
set_option maxRecDepth 100000 in
theorem aB2(hg:g.Ok){m:Nat}(K:Rs->Tr)(n:Nat)(hn:n<=1073741824)(hm:m<18446744073709551616)(em:k.mask=(m:Int))(ek:k.key.size<=64)(ht:k.t.root<=9223372036854775807)(hA:∀f∈aL x.L,f∈A)(go:gD g x (G5 k (mD k.key m) K n))(ok:x.Ok)(hs:SF w D (xH k bx bm x dn rs) A [] (xW x) w):Calls Tryz.prog 184 #[.pointer (some ⟨bx,0,none⟩)] w λ e w'=>∃q:Rs×XS×List aP,e=.returned (.agg ⟨q.1.cells⟩)/\Nx g x q.2.1 q.2.2 (K q.1) 0/\SF w D (xH k bx bm q.2.1 dn rs) [] (aL q.2.2) (xW q.2.1) w':=by
 refine enter Tryz.func184 Tryz.ntmps184 rfl rfl (cD hs) ?_
 simp only[cA]
 refine J0 ?_;refine aJ (λ x2=>?_);refine Rr ?_
 refine dX [3,4,13,14,15,16,17,18,19,20,21,22,23,24,25,26,27,28] (λ j:Nat=>[(3,.pointer (some ⟨j,0,none⟩)),(4,.int .u64 (((mD k.key m):Nat):Int))]) (λ _=>True) (λ j=>[(j,.cells ⟨[.int .i64 k.t.root,.bool k.t.ro]⟩ 29 (0,0)),(x2,.cells ⟨Rs.zero.cells⟩ 64 (0,0)),(bx,xO k bm x dn rs),(bm,xM x)]) (λ _=>[]) (λ _=>xW x) (by decide) (λ _=>by exact rfl) ?_ (λ j f hx=>?_)
 ·refine fR (.one 0 [] (.one 1 [] (.one 2 [] (.one 3 [] (.one 4 [] (.one 5 [] (.one 6 [] (.one 7 [] (.one 8 [] (.one 9 [] (.one 10 [] (.one 11 [] (.one 12 [] (.one 13 [] (.one 14 [] (.two 15 [4] (.one 16 [4,9,14] (.one 17 [] (.one 18 [] .nil))) 0 [] (.two 16 [4,9,14] (.one 15 [4] (.one 17 [] (.one 18 [] .nil))) 0 [] .nil))))))))))))))))) ?_
  refine J9 ?_;refine aU ?_;refine bT (i:=4) (hq:=(aR (k:=2) (vs:=[.int .i64 k.t.root,.bool k.t.ro]) rf cY eF rfl rfl)) (h:=?_);refine yN ?_;refine yN ?_
  refine fD (E:=[15,16]) (by decide +kernel) ((.cons ?_ (.cons ?_ .nil)))
  ·refine Aq (i:=15) (hq:=(cV (hc:=λ w1 hw=>nR em hm ek w1))) (hfire:=(λ _=>by(refine aK.cons (by exact fT (hq:=aR (k:=2) (vs:=[.int .i64 k.t.root,.bool k.t.ro]) rf cY eF rfl rfl)) ?_;exact aK.nil))) (h:=λ x28=>?_)
   refine gJ (hfire:=(λ _=>by((repeat (first|exact aK.nil|refine aK.cons (by first|exact fT (hq:=aR (k:=2) (vs:=[.int .i64 k.t.root,.bool k.t.ro]) rf cY eF rfl rfl)|exact eW) ?_));done))) (h:=λ x3=>?_);refine yQ ?_
   refine eE (x3) ?_
   ·trivial
  ·refine fI (i:=16) (hfire:=(λ _=>by((repeat (first|exact aK.nil|refine aK.cons (by first|exact fT (hq:=aR (k:=2) (vs:=[.int .i64 k.t.root,.bool k.t.ro]) rf cY eF rfl rfl)|exact eW) ?_));done))) (h:=λ x3=>?_)
   refine cO (i:=15) (hq:=(cV (hc:=λ w1 hw=>nR em hm ek w1))) (hfire:=(λ _=>by(refine aK.cons (by exact fT (hq:=aR (k:=2) (vs:=[.int .i64 k.t.root,.bool k.t.ro]) rf cY eF rfl rfl)) ?_;exact aK.nil))) (h:=λ x28=>?_);refine yQ ?_
   refine eE (x3) ?_
   ·trivial
 dsimp only[hX,List.map,List.cons_append,List.nil_append]
 refine Ds ?_
 refine oK [5,6,7,8,9,10,11,12,29,30,31,32,33,34,35,36,37,38,39,40,41,42,43,44,45,46,47,48,49,50,51,52,53,54,55,56,57,58,59,60,61,62,63,64,65,66,67,68,69,70,71,72,73,74,75,76,77,78,79,80,81,82,83,84,85,86,87,88,89,90,91,92,93,94,95,96,97,98,99,100,101] (λ y:Nat×XS×List aP=>[]) (λ y=>y.1<=n/\Nx g x y.2.1 y.2.2 (G5 k (mD k.key m) K y.1) 0) (λ y=>[(j,.cells ⟨[.int .i64 k.t.root,.bool k.t.ro]⟩ 29 (0,0)),(x2,.cells ⟨Rs.zero.cells⟩ 64 (0,0)),(bx,xO k bm y.2.1 dn rs),(bm,xM y.2.1)]) (λ y=>aL y.2.2) (λ y=>xW y.2.1) (λ y=>y.1) ((n,x,[])) (⟨Nat.le_refl n,Nx.start go ok |>.cI go (bL _)⟩) (λ y f hx=>?_) (hw0:=λ w hw=>hw)
 dsimp only[hX,List.map,List.cons_append,List.nil_append]
 obtain⟨hyn,hy⟩:=hx
 refine aS ?_;refine mA ?_;refine pE ?_
 refine bD (λ c33=>?_) (λ c33=>?_)
 ·obtain⟨fu,hfu,gx⟩:=gD.kE (T:=λ q=>G5 k (mD k.key m) K q) hy.go (by simpa using c33) rfl hg
  refine aW ?_;refine dD ?_;refine Kb7 ?_;refine aD (cM (hs:=xH k bx bm y.2.1 dn rs) (os:=xW y.2.1) (hc:=λ w hs=>Cq hg k.t _ ht gx hy.ok hs)) (λ x36 h36=>?_);refine Ai ?_;refine aD (cM (hs:=xH k bx bm x36.2.1 dn rs) (os:=xW x36.2.1) (hc:=λ w hs=>cJ x36.1 _ h36.bd h36.go h36.ok hs)) (λ x39 h39=>?_);refine cC ?_;refine J1 ?_;refine cS ?_;refine Ea ?_
  refine oK [5,7,8,9,10,11,12,41,42,43,44,45,46,47,48,49,50,51,52,53,54,55,56,57,58,59,60,61,62,63,64,65,66,67,68,69,70,71,72,73,74,75,76,77,78,79,80,81,82,83,84,85,86,87,88,89,90,91,92,93,94,95,96,97,98,99,100,101] (λ z:Nat×Int×Int×XS×List aP=>[(5,.int .i64 z.2.1),(7,.int .i64 z.2.2.1),(8,.int .i64 (((fu-z.1):Nat):Int))]) (λ z=>z.1<=fu/\Nx g x z.2.2.2.1 z.2.2.2.2 (Dj k (mD k.key m) K (G5 k (mD k.key m) K fu) (aB x36.2.1.L x36.1).nd.gen z.1 z.2.1 z.2.2.1 (fu-z.1)) z.2.1/\z.2.2.1<=z.2.2.2.1.L.length) (λ z=>[(j,.cells ⟨[.int .i64 k.t.root,.bool k.t.ro]⟩ 29 (0,0)),(x2,.cells ⟨Rs.zero.cells⟩ 64 (0,0)),(bx,xO k bm z.2.2.2.1 dn rs),(bm,xM z.2.2.2.1)]) (λ z=>aL z.2.2.2.2) (λ z=>xW z.2.2.2.1) (λ z=>z.1) ((fu,x36.1,0,x36.2.1,y.2.2++x36.2.2)) (⟨Nat.le_refl fu,(hy.trans h36).cI (show gD g x36.2.1 (Dj k (mD k.key m) K (G5 k (mD k.key m) K fu) (aB x36.2.1.L x36.1).nd.gen fu x36.1 0 (fu-fu)) from(Nat.sub_self fu).symm▸h39.1) h36.bd,bL _⟩) (λ z f hx=>?_) (hw0:=λ w hw=>(hw.eY nS).back (hF:=by exact aV.all))
  dsimp only[hX,List.map,List.cons_append,List.nil_append]
  obtain⟨hzf,hz,hzp⟩:=hx
  refine aS ?_;refine mA ?_;refine pE ?_
  refine bD (λ c45=>?_) (λ c45=>?_)
  ·obtain⟨fu2,hfu2,gz⟩:=gD.kE (T:=λ q=>(Dj k (mD k.key m) K (G5 k (mD k.key m) K fu) (aB x36.2.1.L x36.1).nd.gen q z.2.1 z.2.2.1 (fu-z.1))) hz.go (by simpa using c45) rfl hg
   refine rR ?_;refine Kb7 ?_;refine aA ?_;refine aD (cM (hs:=xH k bx bm z.2.2.2.1 dn rs) (os:=xW z.2.2.2.1) (hc:=λ w hs=>oZ hg k.t z.2.1 _ ht hz.bd gz hz.ok hs)) (λ x51 h51=>?_)
   have hl51:=h51.len
   have hb51:=h51.bd
   have hbz:=hz.bd
   have hch:=Ch.nx h51 hz.ch
   refine iZ ?_;refine Kc4 ?_
   refine bD (λ c55=>?_) (λ c55=>?_)
   ·refine Zq ?_
    refine jG (by exact(fu,x51.2.1,(z.2.2.2.2++x51.2.2))) ?_ (hw1:=λ w hw=>by exact(hw.eY nS).back (hF:=by exact aV.all))
    ·first
     | exact⟨by show fu<=n;omega,(((hz.trans h51).trans h76).trans h97).cI g4 (bL _)⟩
     | exact⟨by show fu<=n;omega,((hz.trans h51).trans h76).cI g3 (bL _)⟩
     | exact⟨by show fu<=n;omega,((hz.trans h51).trans h68).cI h68.go (bL _)⟩
     | exact⟨by show fu<=n;omega,(hz.trans h51).cI (h51.go.bU (by assumption)) (bL _)⟩
     | exact⟨by show fu<=n;omega,hz.cI (hz.go.bU (by simpa using c45)) (bL _)⟩
   ·refine kO ?_;refine jJ ?_;refine aD (cM (hs:=xH k bx bm x51.2.1 dn rs) (os:=xW x51.2.1) (hc:=λ w hs=>cJ x51.1 _ h51.bd h51.go h51.ok hs)) (λ x58 h58=>?_);refine cC ?_;refine sU ?_
    refine bD (λ c60=>?_) (λ c60=>?_)
    ·have g1:=h58.1.to (λ _=>if_pos c60)
     refine Kb7 ?_;refine pV ?_;refine pV ?_;refine rY ?_;refine aD (cM (hs:=xH k bx bm x51.2.1 dn rs) (os:=xW x51.2.1) (A0:=aL x51.2.1.L) (hA:=Ch.all hch hA) (hc:=λ w hs=>Nn hg k.t z.2.2.1 z.2.1 (tS k.key m) ((((fu-z.1):Nat):Int)-1) _ ht (by omega) (by omega) (λ f hf=>hf) g1 h51.ok hs)) (λ x68 h68=>?_);refine aG ?_;refine Zq ?_
     refine jG (by exact(fu,x68.2.1,((z.2.2.2.2++x51.2.2)++x68.2.2))) ?_ (hw1:=λ w hw=>by exact(hw.eY mJ).back (hF:=by exact aV.all))
     ·first
      | exact⟨by show fu<=n;omega,(((hz.trans h51).trans h76).trans h97).cI g4 (bL _)⟩
      | exact⟨by show fu<=n;omega,((hz.trans h51).trans h76).cI g3 (bL _)⟩
      | exact⟨by show fu<=n;omega,((hz.trans h51).trans h68).cI h68.go (bL _)⟩
      | exact⟨by show fu<=n;omega,(hz.trans h51).cI (h51.go.bU (by assumption)) (bL _)⟩
      | exact⟨by show fu<=n;omega,hz.cI (hz.go.bU (by simpa using c45)) (bL _)⟩
    ·have g1:=h58.1.to (λ _=>if_neg c60)
     refine El ?_;refine pV ?_;refine pV ?_;refine aD (cM (hs:=xH k bx bm x51.2.1 dn rs) (os:=xW x51.2.1) (A0:=aL x51.2.1.L) (hA:=Ch.all hch hA) (hc:=λ w hs=>Zl hg z.2.1 x51.1 (tS k.key m) (fu-z.1) (by omega) (aB x36.2.1.L x36.1).nd.gen _ ht (by omega) (by omega) (λ f hf=>hf) g1 h51.ok hs)) (λ x76 h76=>?_)
     have hl76:=h76.len
     have hch2:=Ch.nx h76 hch
     refine aA ?_;refine aC (bP rf rfl) rfl ?_;refine aC (bP rf rfl) rfl ?_;refine aJ (λ x10=>?_);refine kJ (λ _=>?_);refine iZ ?_;refine mA ?_;refine aA ?_
     (refine dZ 83 (λ g83=>?_) (λ g83=>?_)<;>refine Ka0 ?_)
     all_goals (refine xT ?_;refine aG ?_)
     all_goals
     refine bD (λ c86=>?_) (λ c86=>?_)
     ·all_goals (refine nF ?_;refine J5 ?_)
      all_goals
       refine aY Tryz.results184 (λ w hw=>?_)
       exact⟨(x76.1,x76.2.2.1,((z.2.2.2.2++x51.2.2)++x76.2.2.2)),rfl,((hz.trans h51).trans h76).cI (by first|exact h76.go.bU (by assumption)|exact h76.go.to (λ _=>if_pos (by assumption))) (bL _),(hw.eY mJ).aX (hF:=by exact aV.all)⟩
     ·try exact nv c86
      all_goals
       have g2:=h76.go.to (λ _=>if_neg (by assumption))
      all_goals (refine kO ?_;refine J2 ?_;refine sU ?_)
      all_goals
       refine bD (λ c89=>?_) (λ c89=>?_)
       ·have g3:=g2.to (λ _=>if_pos (by assumption))
        refine Zq ?_
        refine jG (by exact(fu,x76.2.2.1,((z.2.2.2.2++x51.2.2)++x76.2.2.2))) ?_ (hw1:=λ w hw=>by exact(hw.eY mJ).back (hF:=by exact aV.all))
        ·first
         | exact⟨by show fu<=n;omega,(((hz.trans h51).trans h76).trans h97).cI g4 (bL _)⟩
         | exact⟨by show fu<=n;omega,((hz.trans h51).trans h76).cI g3 (bL _)⟩
         | exact⟨by show fu<=n;omega,((hz.trans h51).trans h68).cI h68.go (bL _)⟩
         | exact⟨by show fu<=n;omega,(hz.trans h51).cI (h51.go.bU (by assumption)) (bL _)⟩
         | exact⟨by show fu<=n;omega,hz.cI (hz.go.bU (by simpa using c45)) (bL _)⟩
       ·have g3:=g2.to (λ _=>if_neg (by assumption))
        refine El ?_;refine pV ?_;refine aA ?_;refine aN (cV (hc:=λ w1 hw=>fH (tS k.key m) (((fu-z.1):Nat):Int) w1)) (λ x95=>?_);refine aA ?_;refine aD (cM (hs:=xH k bx bm x76.2.2.1 dn rs) (os:=xW x76.2.2.1) (A0:=aL x76.2.2.1.L) (hA:=Ch.all hch2 hA) (hc:=λ w hs=>Uw hg z.2.1 x51.1 (iA (mD k.key m) (((fu-z.1):Nat):Int)) (aB x36.2.1.L x36.1).nd.gen _ ht (by omega) (by omega) (λ f hf=>hf) g3 h76.ok hs)) (λ x97 h97=>?_);refine Kc3 ?_;refine sU ?_
        refine bD (λ c99=>?_) (λ c99=>?_)
        ·have g4:=h97.go.to (λ _=>if_pos (by assumption))
         refine Zq ?_
         refine jG (by exact(fu,x97.2.1,(((z.2.2.2.2++x51.2.2)++x76.2.2.2)++x97.2.2))) ?_ (hw1:=λ w hw=>by exact(hw.eY vQ).back (hF:=by exact aV.all))
         ·first
          | exact⟨by show fu<=n;omega,(((hz.trans h51).trans h76).trans h97).cI g4 (bL _)⟩
          | exact⟨by show fu<=n;omega,((hz.trans h51).trans h76).cI g3 (bL _)⟩
          | exact⟨by show fu<=n;omega,((hz.trans h51).trans h68).cI h68.go (bL _)⟩
          | exact⟨by show fu<=n;omega,(hz.trans h51).cI (h51.go.bU (by assumption)) (bL _)⟩
          | exact⟨by show fu<=n;omega,hz.cI (hz.go.bU (by simpa using c45)) (bL _)⟩
        ·have g4:=h97.go.to (λ _=>if_neg (by assumption))
         refine aW ?_;refine Jc ?_;refine J8 ?_;refine Kb2 ?_
         refine jG ((z.1-1,x97.1,z.2.1,x97.2.1,(((z.2.2.2.2++x51.2.2)++x76.2.2.2)++x97.2.2))) ?_ (hw1:=λ w hw=>(hw.eY vQ).back (hF:=by exact aV.all))
         ·have e1:z.1-1=fu2:=by omega
          have e2:(fu-z.1)+1=fu-fu2:=by omega
          refine⟨by show z.1-1<=fu;omega,((((hz.trans h51).trans h76).trans h97)).cI ?_ h97.bd,by show z.2.1<=(x97.2.1.L.length:Int);have:=h97.len;omega⟩
          show gD g x97.2.1 (Dj k (mD k.key m) K (G5 k (mD k.key m) K fu) (aB x36.2.1.L x36.1).nd.gen (z.1-1) x97.1 z.2.1 (fu-(z.1-1)))
          rw[e1,<- e2]
          exact g4
  ·refine Zq ?_
   refine jG (by exact(fu,z.2.2.2.1,z.2.2.2.2)) ?_ (hw1:=λ w hw=>by exact hw.back (hF:=by exact aV.all))
   ·first
    | exact⟨by show fu<=n;omega,(((hz.trans h51).trans h76).trans h97).cI g4 (bL _)⟩
    | exact⟨by show fu<=n;omega,((hz.trans h51).trans h76).cI g3 (bL _)⟩
    | exact⟨by show fu<=n;omega,((hz.trans h51).trans h68).cI h68.go (bL _)⟩
    | exact⟨by show fu<=n;omega,(hz.trans h51).cI (h51.go.bU (by assumption)) (bL _)⟩
    | exact⟨by show fu<=n;omega,hz.cI (hz.go.bU (by simpa using c45)) (bL _)⟩
 ·refine bR rfl ?_;refine Kc0 ?_
  refine aY Tryz.results184 (λ w hw=>?_)
  exact⟨(Rs.zero,y.2.1,y.2.2),rfl,hy.cI (hy.go.bU (by simpa using c33)) (bL _),hw.aX (hF:=by exact aV.all)⟩
end
end

/- Guards that are not wanted themselves. -/
end Go.Proofs.YtbajmaoegmbfgaaGreat
namespace Go.Ct
section
open Go Go.RowKit
variable{P:Program}{n:Nat}{Q:Exit->Act->World->Prop}{ks:List CK}{ops:Array Oper}{l:List Oper}{S:List (Nat×Value)}{G:World->Prop}
theorem N7{d:Nat}{op:Op}{ty:TypeId}{pos:String}{af:Array Edge}{j:Nat}{want:Bool}{g:Nat}(hd:Nat.blt d n=true)
  (hj:(ops[j]?).bind (·.dst)=some g) (hg:look S g=undef)
  (h:JL P n Q ks ops l ((d,undef)::S) G):JL P n Q ks ops (⟨some d,op,ty,pos,af,some (j,want)⟩::l) S G:=⟨λ hS w hw=>by
 have hy:yielded ops (dS n S) j=none:=by
  have e:=congrFun (jH (ds:=[]) hS) (.tmp g)
  simp only[Act.eval,ev,hg] at e
  unfold yielded
  rw[hj]
  simp only[Option.bind_some]
  rw[Array.getD_eq_getD_getElem?] at e
  cases h2:(dS n S)[g]? with
  | none=>rfl
  | some u=>rw[h2] at e;simp[undef] at e;subst e;rfl
 refine wpList_step λ K hK=>?_
 have hw':Region.wanted ⟨some d,op,ty,pos,af,some (j,want)⟩ (yielded ops (dS n S))=false:=by
  simp only[Region.wanted,hy]
  rfl
 simp only[hw',Bool.false_eq_true,if_false,C8]
 exact hK _ _ (h.run (hS.cons hd) w hw)⟩
end
end Go.Ct
namespace Go.Proofs.YtbajmaoegmbfgaaGreat
section
open Go.RowKit Go.Ct
theorem sA{n:Nat}{Q:Exit->Act->World->Prop}{ks:List CK}{ops:Array Oper}{l:List Oper}{S:List (Nat×Value)}{G:World->Prop}{d j g:Nat}{op:Op}{ty:TypeId}{pos:String}{af:Array Edge}{want:Bool}(h:JL Tryz.prog n Q ks ops l ((d,undef)::S) G)(hd:Nat.blt d n=true:=by exact rfl)(hj:(ops[j]?).bind (·.dst)=some g:=by exact rfl)(hg:Ct.look S g=undef:=by exact rfl):JL Tryz.prog n Q ks ops (⟨some d,op,ty,pos,af,some (j,want)⟩::l) S G:=N7 hd hj hg h
end

/- Executions of the reference: one attempt of DROP at a leaf. -/
end Go.Proofs.YtbajmaoegmbfgaaGreat
namespace Go.Ct
section
open Go Go.RowKit
theorem pF{g:Gx}{x:XS}{r:Int}{K:Nv->Tr}(h:gD g x (.node r K))(hr:r<=x.L.length):gD g x (K (aB x.L r).c):=by
 have:=h.node hr
 rwa [show bQ x.nodes r=(aB x.L r).c from(uH x.L r).symm] at this
section
variable{P:Program}{S:List (Nat×Value)}{G:World->Prop}{d:Nat}{ty t t':TypeId}{pos:String}{af:Array Edge}{gd:Option (Nat×Bool)}{x y:Operand}{a b:ByteArray}
theorem qf(hx:ev S x=.string a)(hy:ev S y=.string b)(h:¬a=b):aM P S G ⟨some d,.binOp .neq t x y t',ty,pos,af,gd⟩ (.bool true):=by
 have:=Is (P:=P) (G:=G) (d:=d) (ty:=ty) (pos:=pos) (af:=af) (gd:=gd) (t:=t) (t':=t') hx hy
 rwa [bne,wb h] at this
theorem oq(hx:ev S x=.string a)(hy:ev S y=.string b)(h:a=b):aM P S G ⟨some d,.binOp .neq t x y t',ty,pos,af,gd⟩ (.bool false):=by
 have:=Is (P:=P) (G:=G) (d:=d) (ty:=ty) (pos:=pos) (af:=af) (gd:=gd) (t:=t) (t':=t') hx hy
 rwa [bne,w7 h] at this
end
end
end Go.Ct
namespace Go.Proofs.YtbajmaoegmbfgaaGreat
section
open Go Go.RowKit Go.Ct
theorem qz{m:Nat}{o:Option (Nat×List Int)}{w:World}(h:wY m o){x:Option Addr×Nat}{r:Nv}(e:r=(nD o x).c (mU o) [])(hc:Go.Ct.Cl w x.1 (aH (mU o))):Calls Tryz.prog 245 #[(nD o x).v] w λ e w'=>e=.returned (.tuple #[.int .i64 ((Lq r).getD 0),.bool (Lq r).isSome])/\St w [] [] w':=by
 obtain⟨b,h1,h2⟩:=P3 h x
 have:=Kj (n:=nD o x) h1 h2 (Qs h hc)
 rw[xo,<- e] at this
 exact this
theorem aAS{m:Nat}{o:Option (Nat×List Int)}(h:wY m o){x:Option Addr×Nat}{r:Nv}(e:r=(nD o x).c (mU o) []):(Lq r).getD 0<=m:=by
 rw[e,<- xo]
 unfold gh
 split
 ·refine mN (λ v hv=>?_) 0
  cases o with
  | none=>exact(List.not_mem_nil hv).elim
  | some q=>exact(h.out q rfl).2.2 v hv
 ·exact bL _
section
variable{k:Cl}{bx bm:Nat}{x:XS}{dn:Bool}{rs:Rs}{D:List Nat}{A:Fr}{w:World}{g:Gx}
set_option maxRecDepth 100000 in
theorem Tg(hg:g.Ok)(i m:Int){h:Nat}(hh:h<18446744073709551616)(level:Nat)(hlv:level<=1073741824)(K:Rs->Int->Tr)(ht:k.t.root<=9223372036854775807)(hi:i<=x.L.length)(hm:m<=x.L.length)(hA:∀f∈aL x.L,f∈A)(hk:(aB x.L m).nd.kind=6)(go:gD g x (kM k i m h level K))(ok:x.Ok)(hs:SF w D (xH k bx bm x dn rs) A [] (xW x) w):Calls Tryz.prog 226 #[.pointer (some ⟨bx,0,none⟩),.int .i64 i,.int .i64 m,.int .u64 (h:Int),.int .i64 (level:Int)] w (Zs g x K bx bm k dn rs D w):=by
 have hyl:=rF ok m
 have hlL:=ok.lL
 have h48:gD g x _/\mB x.L.length x.cs.length (aB x.L m).c:=⟨pF go hm,ok.nv m⟩
 refine enter Tryz.func226 Tryz.ntmps226 rfl rfl (cD hs) ?_
 simp only[cA]
 refine J0 ?_;refine aJ (λ x10=>?_);refine iZ ?_
 refine dX [12,13,26,27,28,29,30,31,32,33] (λ j:Nat=>[(12,.pointer (some ⟨j,0,none⟩)),(13,.string k.key)]) (λ _=>True) (λ j=>[(j,.cells ⟨(aB x.L m).nd.cells⟩ 47 (0,0)),(x10,.cells ⟨Rs.zero.cells⟩ 64 (0,0)),(bx,xO k bm x dn rs),(bm,xM x)]) (λ _=>[]) (λ _=>xW x) (by decide) (λ _=>by exact rfl) ?_ (λ j f hx=>?_)
 ·refine fR (.one 0 [] (.one 1 [] (.one 3 [] (.one 4 [] (.one 5 [] (.one 6 [] (.one 7 [] (.two 2 [7] (.one 8 [7] (.one 9 [7] (.one 10 [] .nil))) 0 [] (.two 8 [7] (.one 2 [7] (.one 9 [7] (.one 10 [] .nil))) 0 [] .nil))))))))) ?_
  refine iF ?_;refine yN ?_
  refine fD (E:=[2,8]) (by decide +kernel) ((.cons ?_ (.cons ?_ .nil)))
  ·refine kC (i:=2) (hq:=(cM (hs:=xH k bx bm x dn rs) (os:=xW x) (hc:=λ w hs=>fS m (by omega) ok hs))) (h:=λ x28 h28=>?_)
   refine gJ (h:=λ x12=>?_);refine yQ ?_
   refine eE (x12) ?_
   ·trivial
  ·refine fI (i:=8) (h:=λ x12=>?_)
   refine bC (i:=2) (hq:=(cM (hs:=xH k bx bm x dn rs) (os:=xW x) (hc:=λ w hs=>fS m (by omega) ok hs))) (h:=λ x28 h28=>?_);refine yQ ?_
   refine eE (x12) ?_
   ·trivial
 dsimp only[hX,List.map,List.cons_append,List.nil_append]
 refine Kc5 ?_
 refine bD (λ c36=>?_) (λ c36=>?_)
 ·have g1:=h48.1.to (λ _=>if_pos hk)
  refine Kd0 ?_;refine aN (cV (hc:=λ w1 hw=>Ld (v:=(aB x.L m)) (n:=0) k.key (ok.sF hw hA m) (ok.ysl m))) (λ x41=>?_);refine aA ?_;refine aC (bP rf rfl) rfl ?_;refine aC (bP rf rfl) rfl ?_;refine Kb4 ?_;refine Bq ?_
  (refine dZ 46 (λ g46=>?_) (λ g46=>?_)<;>refine Ka0 ?_)
  all_goals (refine Kb6 ?_;refine Ka1 ?_;refine Ka1 ?_;refine Ka2 ?_;refine Ka0 ?_)
  all_goals (first|refine sA ?_|(refine dZ 52 (λ g52=>?_) (λ g52=>?_)<;>refine Ka0 ?_))
  all_goals ((first|refine aI ?_|refine sA ?_|(refine Ka3 ?_));(first|refine aI ?_|refine sA ?_|(refine aE ?_;refine dF ?_));(first|refine aI ?_|refine sA ?_|(refine aE ?_;refine aF ?_));(first|refine aI ?_|refine sA ?_|(refine aE ?_;refine aF ?_));(first|refine aI ?_|refine sA ?_|(refine aE ?_;refine bM ?_));(first|refine aI ?_|refine sA ?_|(refine aE ?_;refine kF ?_));(first|refine aI ?_|(refine aE ?_;refine bX ?_));refine bX ?_;refine aG ?_)
  all_goals
  refine bD (λ c61=>?_) (λ c61=>?_)
  ·try exact nv c61
   all_goals
    have g2:=g1.to (λ _=>if_pos (show((dU (aB x.L m).c.ys k.key).isSome=false∨(k.only=true/\(dU (aB x.L m).c.ys k.key).getD 0≠k.exp)) from by first|exact Or.inl (by assumption)|exact Or.inr ⟨by assumption,by assumption⟩))
   all_goals (refine jJ ?_;refine aN (cV (hc:=λ w1 hw=>gX _ _ w1)) (λ x64=>?_);refine Cr ?_)
   all_goals
    refine aY Tryz.results226 (λ w hw=>?_)
    exact⟨(jW (dU (aB x.L m).c.ys k.key).isSome ((dU (aB x.L m).c.ys k.key).getD 0),1,x,[]),rfl,⟨g2,ok,by simp,Nat.le_refl _,bL _⟩,hw.aX (hF:=by exact aV.nil)⟩
  ·try exact nv c61
   all_goals
    have g2:=g1.to (λ _=>if_neg (show ¬((dU (aB x.L m).c.ys k.key).isSome=false∨(k.only=true/\(dU (aB x.L m).c.ys k.key).getD 0≠k.exp)) from by rintro (h|⟨h,h'⟩)<;>simp_all))
   all_goals (refine aW ?_;refine Dg ?_;refine aD (cF (hc:=λ w1 hw=>aB7 (v:=(aB x.L m)) h48.2 k.key (ok.sF hw hA m) (by omega))) (λ x68 h68=>?_);refine aA ?_;refine aC (bP rf rfl) rfl ?_;refine aC (bP rf rfl) rfl ?_;refine aJ (λ x16=>?_);refine kJ (λ _=>?_);refine iZ ?_;refine eG [(0,[]),(1,[]),(2,[]),(3,[]),(4,[]),(5,[]),(6,[]),(7,[]),(8,[]),(9,[]),(10,[]),(11,[]),(14,[]),(12,[6]),(13,[]),(15,[]),(16,[]),(17,[]),(18,[]),(19,[])] ?_;refine iF ?_;refine J9 ?_;refine aU ?_;refine bT (i:=6) (hq:=(aR (k:=2) (vs:=[.int .i64 k.t.root,.bool k.t.ro]) rf cY eF rfl rfl)) (h:=?_);refine iF ?_;refine aT ?_;refine Ka9 ?_;refine bC (i:=12) (hq:=(cM (hs:=xH k bx bm x dn rs) (os:=xW x) (A0:=[((Nt (pY (aB x.L m).nd (aB x.L m).xs (aB x.L m).ys k.key) (aB x.L m).nd.hash x68).brA,aH []),((Nt (pY (aB x.L m).nd (aB x.L m).xs (aB x.L m).ys k.key) (aB x.L m).nd.hash x68).prA,cZ (Iw (pY (aB x.L m).nd (aB x.L m).xs (aB x.L m).ys k.key)))]) (hA:=aAU) (hc:=λ w hs=>hU hg (n:=Nt (pY (aB x.L m).nd (aB x.L m).xs (aB x.L m).ys k.key) (aB x.L m).nd.hash x68) (xs:=[]) (ys:=Iw (pY (aB x.L m).nd (aB x.L m).xs (aB x.L m).ys k.key)) m _ (ka _ _ _).1 (ka _ _ _).2 (by decide) (by have:=xv (aB x.L m).xs (aB x.L m).ys (aB x.L m).nd k.key;omega) (zf _ h48.2.hash) hm (by rw[aCn];exact g2) ok hs))) (hfire:=(λ _=>by(refine gK ?_;refine aK.cons (by exact fT (hq:=aR (k:=2) (vs:=[.int .i64 k.t.root,.bool k.t.ro]) rf cY eF rfl rfl)) ?_;exact aK.nil))) (h:=λ x83 h83=>?_);refine bC (i:=13) (hq:=(cM (hs:=xH k bx bm x83.2.1 dn rs) (os:=xW x83.2.1) (hc:=λ w hs=>uK hg k.t i m x83.1 _ ht (by have:=h83.len;omega) h83.bd h83.go h83.ok hs))) (h:=λ x84 h84=>?_))
   all_goals
    have hch:=Ch.nx h84 (Ch.nx h83 ((Ch.base (F:=[])).cons (f:=(x68.1,cZ (Iw (pY (aB x.L m).nd (aB x.L m).xs (aB x.L m).ys k.key))))))
    have hlc:x.cs.length<=x84.2.1.cs.length:=by have:=h83.lc;have:=h84.lc;omega
   all_goals (refine cO (i:=15) (hq:=(cV (hc:=λ w1 hw=>pT _ _ _ _ w1))) (h:=λ x86=>?_);refine cP (i:=16) (hq:=(bP rf rfl)) (h:=?_);refine cP (i:=17) (hq:=(bP rf rfl)) (h:=?_);refine yQ ?_)
   all_goals
    refine aY Tryz.results226 (λ w hw=>?_)
    obtain⟨N,hN,hf⟩:=hch.to (t':=K (rX true ((dU (aB x.L m).c.ys k.key).getD 0)) (if x84.1=true then 1 else 0)) h84 (h84.go) hlc (bL _)
    exact⟨(rX true ((dU (aB x.L m).c.ys k.key).getD 0),(if x84.1=true then 1 else 0),x84.2.1,N),rfl,hN,(hw.eY hf).aX (hF:=by exact aV.all)⟩
 ·exact absurd hk c36
set_option maxRecDepth 100000 in
theorem Tj(hg:g.Ok)(i m:Int){h:Nat}(hh:h<18446744073709551616)(level:Nat)(hlv:level<=1073741824)(K:Rs->Int->Tr)(ht:k.t.root<=9223372036854775807)(hi:i<=x.L.length)(hm:m<=x.L.length)(hA:∀f∈aL x.L,f∈A)(hk:¬(aB x.L m).nd.kind=6)(hl:mE (aB x.L m).c (iA h (level:Int))=none)(go:gD g x (kM k i m h level K))(ok:x.Ok)(hs:SF w D (xH k bx bm x dn rs) A [] (xW x) w):Calls Tryz.prog 226 #[.pointer (some ⟨bx,0,none⟩),.int .i64 i,.int .i64 m,.int .u64 (h:Int),.int .i64 (level:Int)] w (Zs g x K bx bm k dn rs D w):=by
 have hyl:=rF ok m
 have hlL:=ok.lL
 have h48:gD g x _/\mB x.L.length x.cs.length (aB x.L m).c:=⟨pF go hm,ok.nv m⟩
 refine enter Tryz.func226 Tryz.ntmps226 rfl rfl (cD hs) ?_
 simp only[cA]
 refine J0 ?_;refine aJ (λ x10=>?_);refine iZ ?_
 refine dX [12,13,26,27,28,29,30,31,32,33] (λ j:Nat=>[(12,.pointer (some ⟨j,0,none⟩)),(13,.string k.key)]) (λ _=>True) (λ j=>[(j,.cells ⟨(aB x.L m).nd.cells⟩ 47 (0,0)),(x10,.cells ⟨Rs.zero.cells⟩ 64 (0,0)),(bx,xO k bm x dn rs),(bm,xM x)]) (λ _=>[]) (λ _=>xW x) (by decide) (λ _=>by exact rfl) ?_ (λ j f hx=>?_)
 ·refine fR (.one 0 [] (.one 1 [] (.one 3 [] (.one 4 [] (.one 5 [] (.one 6 [] (.one 7 [] (.two 2 [7] (.one 8 [7] (.one 9 [7] (.one 10 [] .nil))) 0 [] (.two 8 [7] (.one 2 [7] (.one 9 [7] (.one 10 [] .nil))) 0 [] .nil))))))))) ?_
  refine iF ?_;refine yN ?_
  refine fD (E:=[2,8]) (by decide +kernel) ((.cons ?_ (.cons ?_ .nil)))
  ·refine kC (i:=2) (hq:=(cM (hs:=xH k bx bm x dn rs) (os:=xW x) (hc:=λ w hs=>fS m (by omega) ok hs))) (h:=λ x28 h28=>?_)
   refine gJ (h:=λ x12=>?_);refine yQ ?_
   refine eE (x12) ?_
   ·trivial
  ·refine fI (i:=8) (h:=λ x12=>?_)
   refine bC (i:=2) (hq:=(cM (hs:=xH k bx bm x dn rs) (os:=xW x) (hc:=λ w hs=>fS m (by omega) ok hs))) (h:=λ x28 h28=>?_);refine yQ ?_
   refine eE (x12) ?_
   ·trivial
 dsimp only[hX,List.map,List.cons_append,List.nil_append]
 refine Kc5 ?_
 refine bD (λ c36=>?_) (λ c36=>?_)
 ·exact absurd c36 hk
 ·have g0:=h48.1.to (λ _=>if_neg hk)
  have g1:=K8 g0 (by rw[hl];rfl)
  refine El ?_;refine aN (cV (hc:=λ w1 hw=>fH hh (level:Int) w1)) (λ x91=>?_);refine J1 ?_;refine Dg ?_;refine aN (cV (hc:=λ w1 hw=>wq (v:=(aB x.L m)) h48.2 hl (ok.sF hw hA m))) (λ x95=>?_);refine aA ?_;refine aC (bP rf rfl) rfl ?_;refine aC (bP rf rfl) rfl ?_;refine J8 ?_;refine jJ ?_;refine aD (cM (hs:=xH k bx bm x dn rs) (os:=xW x) (hc:=λ w hs=>fS 0 (by decide) ok hs)) (λ x100 h100=>?_);refine aJ (λ x21=>?_);refine J5 ?_;refine Ds ?_;refine jJ ?_
  refine aI ?_
  refine yr ?_;refine J1 ?_
  refine bD (λ c101=>?_) (λ c101=>?_)
  ·exact nv c101
  ·refine J2 ?_;refine Bq ?_
   refine aI ?_
   refine dp ?_;(refine aI ?_);refine Kb9 ?_
   refine bD (λ c109=>?_) (λ c109=>?_)
   ·refine J0 ?_;refine aN (cV (hc:=λ w1 hw=>gX _ _ w1)) (λ x118=>?_);refine Cr ?_
    refine aY Tryz.results226 (λ w hw=>?_)
    exact⟨(jW false 0,1,x,[]),rfl,⟨g1,ok,by simp,Nat.le_refl _,bL _⟩,hw.aX (hF:=by exact aV.nil)⟩
   ·exact nv c109
set_option maxRecDepth 100000 in
theorem Sn(hg:g.Ok)(i m:Int){h:Nat}(hh:h<18446744073709551616)(level:Nat)(hlv:level<=1073741824)(K:Rs->Int->Tr)(ht:k.t.root<=9223372036854775807)(hi:i<=x.L.length)(hm:m<=x.L.length)(hA:∀f∈aL x.L,f∈A)(hk:¬(aB x.L m).nd.kind=6){b:Int}(hl:mE (aB x.L m).c (iA h (level:Int))=some b)(hi2:(aB x.L b).nd.kind=2)(go:gD g x (kM k i m h level K))(ok:x.Ok)(hs:SF w D (xH k bx bm x dn rs) A [] (xW x) w):Calls Tryz.prog 226 #[.pointer (some ⟨bx,0,none⟩),.int .i64 i,.int .i64 m,.int .u64 (h:Int),.int .i64 (level:Int)] w (Zs g x K bx bm k dn rs D w):=by
 have hyl:=rF ok m
 have hlL:=ok.lL
 have h48:gD g x _/\mB x.L.length x.cs.length (aB x.L m).c:=⟨pF go hm,ok.nv m⟩
 have hb:b<=x.L.length:=by have:=qK (ok.nv m) (iA h (level:Int));rw[hl] at this;exact this
 refine enter Tryz.func226 Tryz.ntmps226 rfl rfl (cD hs) ?_
 simp only[cA]
 refine J0 ?_;refine aJ (λ x10=>?_);refine iZ ?_
 refine dX [12,13,26,27,28,29,30,31,32,33] (λ j:Nat=>[(12,.pointer (some ⟨j,0,none⟩)),(13,.string k.key)]) (λ _=>True) (λ j=>[(j,.cells ⟨(aB x.L m).nd.cells⟩ 47 (0,0)),(x10,.cells ⟨Rs.zero.cells⟩ 64 (0,0)),(bx,xO k bm x dn rs),(bm,xM x)]) (λ _=>[]) (λ _=>xW x) (by decide) (λ _=>by exact rfl) ?_ (λ j f hx=>?_)
 ·refine fR (.one 0 [] (.one 1 [] (.one 3 [] (.one 4 [] (.one 5 [] (.one 6 [] (.one 7 [] (.two 2 [7] (.one 8 [7] (.one 9 [7] (.one 10 [] .nil))) 0 [] (.two 8 [7] (.one 2 [7] (.one 9 [7] (.one 10 [] .nil))) 0 [] .nil))))))))) ?_
  refine iF ?_;refine yN ?_
  refine fD (E:=[2,8]) (by decide +kernel) ((.cons ?_ (.cons ?_ .nil)))
  ·refine kC (i:=2) (hq:=(cM (hs:=xH k bx bm x dn rs) (os:=xW x) (hc:=λ w hs=>fS m (by omega) ok hs))) (h:=λ x28 h28=>?_)
   refine gJ (h:=λ x12=>?_);refine yQ ?_
   refine eE (x12) ?_
   ·trivial
  ·refine fI (i:=8) (h:=λ x12=>?_)
   refine bC (i:=2) (hq:=(cM (hs:=xH k bx bm x dn rs) (os:=xW x) (hc:=λ w hs=>fS m (by omega) ok hs))) (h:=λ x28 h28=>?_);refine yQ ?_
   refine eE (x12) ?_
   ·trivial
 dsimp only[hX,List.map,List.cons_append,List.nil_append]
 refine Kc5 ?_
 refine bD (λ c36=>?_) (λ c36=>?_)
 ·exact absurd c36 hk
 ·have g0:=h48.1.to (λ _=>if_neg hk)
  have g1:=sW g0 (by rw[hl];rfl)
  rw[hl] at g1
  have g2:=pF g1 hb
  refine El ?_;refine aN (cV (hc:=λ w1 hw=>fH hh (level:Int) w1)) (λ x91=>?_);refine J1 ?_;refine Dg ?_;refine aN (cV (hc:=λ w1 hw=>Jv (v:=(aB x.L m)) h48.2 hl (ok.sF hw hA m))) (λ x95=>?_);refine aA ?_;refine aC (bP rf rfl) rfl ?_;refine aC (bP rf rfl) rfl ?_;refine J8 ?_;refine jJ ?_;refine aD (cM (hs:=xH k bx bm x dn rs) (os:=xW x) (hc:=λ w hs=>fS b (by omega) ok hs)) (λ x100 h100=>?_);refine aJ (λ x21=>?_);refine J5 ?_;refine Ds ?_;refine jJ ?_
  (refine aE ?_;refine aF ?_)
  refine yr ?_;refine J1 ?_
  refine bD (λ c101=>?_) (λ c101=>?_)
  ·have g3:=g2.to (λ _=>if_pos hi2)
   refine J0 ?_;refine bI ?_;refine Cr ?_
   refine aY Tryz.results226 (λ w hw=>?_)
   exact⟨(Rs.zero,2,x,[]),rfl,⟨g3,ok,by simp,Nat.le_refl _,bL _⟩,hw.aX (hF:=by exact aV.nil)⟩
  ·exact absurd hi2 c101
set_option maxRecDepth 100000 in
theorem Ue(hg:g.Ok)(i m:Int){h:Nat}(hh:h<18446744073709551616)(level:Nat)(hlv:level<=1073741824)(K:Rs->Int->Tr)(ht:k.t.root<=9223372036854775807)(hi:i<=x.L.length)(hm:m<=x.L.length)(hA:∀f∈aL x.L,f∈A)(hk:¬(aB x.L m).nd.kind=6){b:Int}(hl:mE (aB x.L m).c (iA h (level:Int))=some b)(hi2:¬(aB x.L b).nd.kind=2)(he:¬(aB x.L b).nd.key=k.key)(go:gD g x (kM k i m h level K))(ok:x.Ok)(hs:SF w D (xH k bx bm x dn rs) A [] (xW x) w):Calls Tryz.prog 226 #[.pointer (some ⟨bx,0,none⟩),.int .i64 i,.int .i64 m,.int .u64 (h:Int),.int .i64 (level:Int)] w (Zs g x K bx bm k dn rs D w):=by
 have hyl:=rF ok m
 have hlL:=ok.lL
 have h48:gD g x _/\mB x.L.length x.cs.length (aB x.L m).c:=⟨pF go hm,ok.nv m⟩
 have hb:b<=x.L.length:=by have:=qK (ok.nv m) (iA h (level:Int));rw[hl] at this;exact this
 refine enter Tryz.func226 Tryz.ntmps226 rfl rfl (cD hs) ?_
 simp only[cA]
 refine J0 ?_;refine aJ (λ x10=>?_);refine iZ ?_
 refine dX [12,13,26,27,28,29,30,31,32,33] (λ j:Nat=>[(12,.pointer (some ⟨j,0,none⟩)),(13,.string k.key)]) (λ _=>True) (λ j=>[(j,.cells ⟨(aB x.L m).nd.cells⟩ 47 (0,0)),(x10,.cells ⟨Rs.zero.cells⟩ 64 (0,0)),(bx,xO k bm x dn rs),(bm,xM x)]) (λ _=>[]) (λ _=>xW x) (by decide) (λ _=>by exact rfl) ?_ (λ j f hx=>?_)
 ·refine fR (.one 0 [] (.one 1 [] (.one 3 [] (.one 4 [] (.one 5 [] (.one 6 [] (.one 7 [] (.two 2 [7] (.one 8 [7] (.one 9 [7] (.one 10 [] .nil))) 0 [] (.two 8 [7] (.one 2 [7] (.one 9 [7] (.one 10 [] .nil))) 0 [] .nil))))))))) ?_
  refine iF ?_;refine yN ?_
  refine fD (E:=[2,8]) (by decide +kernel) ((.cons ?_ (.cons ?_ .nil)))
  ·refine kC (i:=2) (hq:=(cM (hs:=xH k bx bm x dn rs) (os:=xW x) (hc:=λ w hs=>fS m (by omega) ok hs))) (h:=λ x28 h28=>?_)
   refine gJ (h:=λ x12=>?_);refine yQ ?_
   refine eE (x12) ?_
   ·trivial
  ·refine fI (i:=8) (h:=λ x12=>?_)
   refine bC (i:=2) (hq:=(cM (hs:=xH k bx bm x dn rs) (os:=xW x) (hc:=λ w hs=>fS m (by omega) ok hs))) (h:=λ x28 h28=>?_);refine yQ ?_
   refine eE (x12) ?_
   ·trivial
 dsimp only[hX,List.map,List.cons_append,List.nil_append]
 refine Kc5 ?_
 refine bD (λ c36=>?_) (λ c36=>?_)
 ·exact absurd c36 hk
 ·have g0:=h48.1.to (λ _=>if_neg hk)
  have g1:=sW g0 (by rw[hl];rfl)
  rw[hl] at g1
  have g2:=pF g1 hb
  refine El ?_;refine aN (cV (hc:=λ w1 hw=>fH hh (level:Int) w1)) (λ x91=>?_);refine J1 ?_;refine Dg ?_;refine aN (cV (hc:=λ w1 hw=>Jv (v:=(aB x.L m)) h48.2 hl (ok.sF hw hA m))) (λ x95=>?_);refine aA ?_;refine aC (bP rf rfl) rfl ?_;refine aC (bP rf rfl) rfl ?_;refine J8 ?_;refine jJ ?_;refine aD (cM (hs:=xH k bx bm x dn rs) (os:=xW x) (hc:=λ w hs=>fS b (by omega) ok hs)) (λ x100 h100=>?_);refine aJ (λ x21=>?_);refine J5 ?_;refine Ds ?_;refine jJ ?_
  (refine aE ?_;refine aF ?_)
  refine yr ?_;refine J1 ?_
  refine bD (λ c101=>?_) (λ c101=>?_)
  ·exact absurd c101 hi2
  ·have g3:=(g2.to (λ _=>if_neg hi2)).to (λ _=>if_pos he)
   refine J2 ?_;refine Bq ?_
   (refine aE ?_;refine aF ?_)
   refine dp ?_;((refine aE ?_;refine aC (qf rf rf he) rfl ?_));refine Kb9 ?_
   refine bD (λ c109=>?_) (λ c109=>?_)
   ·refine J0 ?_;refine aN (cV (hc:=λ w1 hw=>gX _ _ w1)) (λ x118=>?_);refine Cr ?_
    refine aY Tryz.results226 (λ w hw=>?_)
    exact⟨(jW false 0,1,x,[]),rfl,⟨g3,ok,by simp,Nat.le_refl _,bL _⟩,hw.aX (hF:=by exact aV.nil)⟩
   ·exact nv c109
set_option maxRecDepth 100000 in
theorem Tm(hg:g.Ok)(i m:Int){h:Nat}(hh:h<18446744073709551616)(level:Nat)(hlv:level<=1073741824)(K:Rs->Int->Tr)(ht:k.t.root<=9223372036854775807)(hi:i<=x.L.length)(hm:m<=x.L.length)(hA:∀f∈aL x.L,f∈A)(hk:¬(aB x.L m).nd.kind=6){b:Int}(hl:mE (aB x.L m).c (iA h (level:Int))=some b)(hi2:¬(aB x.L b).nd.kind=2)(he:(aB x.L b).nd.key=k.key)(go:gD g x (kM k i m h level K))(ok:x.Ok)(hs:SF w D (xH k bx bm x dn rs) A [] (xW x) w):Calls Tryz.prog 226 #[.pointer (some ⟨bx,0,none⟩),.int .i64 i,.int .i64 m,.int .u64 (h:Int),.int .i64 (level:Int)] w (Zs g x K bx bm k dn rs D w):=by
 have hyl:=rF ok m
 have hlL:=ok.lL
 have h48:gD g x _/\mB x.L.length x.cs.length (aB x.L m).c:=⟨pF go hm,ok.nv m⟩
 have hb:b<=x.L.length:=by have:=qK (ok.nv m) (iA h (level:Int));rw[hl] at this;exact this
 refine enter Tryz.func226 Tryz.ntmps226 rfl rfl (cD hs) ?_
 simp only[cA]
 refine J0 ?_;refine aJ (λ x10=>?_);refine iZ ?_
 refine dX [12,13,26,27,28,29,30,31,32,33] (λ j:Nat=>[(12,.pointer (some ⟨j,0,none⟩)),(13,.string k.key)]) (λ _=>True) (λ j=>[(j,.cells ⟨(aB x.L m).nd.cells⟩ 47 (0,0)),(x10,.cells ⟨Rs.zero.cells⟩ 64 (0,0)),(bx,xO k bm x dn rs),(bm,xM x)]) (λ _=>[]) (λ _=>xW x) (by decide) (λ _=>by exact rfl) ?_ (λ j f hx=>?_)
 ·refine fR (.one 0 [] (.one 1 [] (.one 3 [] (.one 4 [] (.one 5 [] (.one 6 [] (.one 7 [] (.two 2 [7] (.one 8 [7] (.one 9 [7] (.one 10 [] .nil))) 0 [] (.two 8 [7] (.one 2 [7] (.one 9 [7] (.one 10 [] .nil))) 0 [] .nil))))))))) ?_
  refine iF ?_;refine yN ?_
  refine fD (E:=[2,8]) (by decide +kernel) ((.cons ?_ (.cons ?_ .nil)))
  ·refine kC (i:=2) (hq:=(cM (hs:=xH k bx bm x dn rs) (os:=xW x) (hc:=λ w hs=>fS m (by omega) ok hs))) (h:=λ x28 h28=>?_)
   refine gJ (h:=λ x12=>?_);refine yQ ?_
   refine eE (x12) ?_
   ·trivial
  ·refine fI (i:=8) (h:=λ x12=>?_)
   refine bC (i:=2) (hq:=(cM (hs:=xH k bx bm x dn rs) (os:=xW x) (hc:=λ w hs=>fS m (by omega) ok hs))) (h:=λ x28 h28=>?_);refine yQ ?_
   refine eE (x12) ?_
   ·trivial
 dsimp only[hX,List.map,List.cons_append,List.nil_append]
 refine Kc5 ?_
 refine bD (λ c36=>?_) (λ c36=>?_)
 ·exact absurd c36 hk
 ·have g0:=h48.1.to (λ _=>if_neg hk)
  have g1:=sW g0 (by rw[hl];rfl)
  rw[hl] at g1
  have g2:=pF g1 hb
  refine El ?_;refine aN (cV (hc:=λ w1 hw=>fH hh (level:Int) w1)) (λ x91=>?_);refine J1 ?_;refine Dg ?_;refine aN (cV (hc:=λ w1 hw=>Jv (v:=(aB x.L m)) h48.2 hl (ok.sF hw hA m))) (λ x95=>?_);refine aA ?_;refine aC (bP rf rfl) rfl ?_;refine aC (bP rf rfl) rfl ?_;refine J8 ?_;refine jJ ?_;refine aD (cM (hs:=xH k bx bm x dn rs) (os:=xW x) (hc:=λ w hs=>fS b (by omega) ok hs)) (λ x100 h100=>?_);refine aJ (λ x21=>?_);refine J5 ?_;refine Ds ?_;refine jJ ?_
  (refine aE ?_;refine aF ?_)
  refine yr ?_;refine J1 ?_
  refine bD (λ c101=>?_) (λ c101=>?_)
  ·exact absurd c101 hi2
  ·have g3:=(g2.to (λ _=>if_neg hi2)).to (λ _=>if_neg (λ h:¬(aB x.L b).nd.key=k.key=>h he))
   refine J2 ?_;refine Bq ?_
   (refine aE ?_;refine aF ?_)
   refine dp ?_;((refine aE ?_;refine aC (oq rf rf he) rfl ?_));refine Kb9 ?_
   refine bD (λ c109=>?_) (λ c109=>?_)
   ·exact nv c109
   ·refine aS ?_;refine gS [0,1,2,3,4,5,6,7,8,9,10,11,12,13,14,15] ?_;refine yN ?_;refine aT ?_
    (refine ra 125 (λ g125=>?_) (λ g125=>?_)<;>(first|refine gA ?_|(refine aU ?_)))
    all_goals ((first|refine gA ?_|(refine bO ?_));(first|refine gA ?_|(refine aT ?_));(first|refine gA ?_|(refine Ab ?_));(first|refine gA ?_|(refine aU ?_));refine J18 ?_;(first|refine gA ?_|(refine a7 ?_));refine mM ?_;refine J7 ?_)
    all_goals
    refine bD (λ c119=>?_) (λ c119=>?_)
    ·try exact nv c119
     all_goals
      have g4:=g3.to (λ _=>if_pos (show(k.only=true/\(aB x.L b).nd.val≠k.exp) from⟨by assumption,by assumption⟩))
     all_goals (refine iB ?_;refine aN (cV (hc:=λ w1 hw=>gX _ _ w1)) (λ x137=>?_);refine Cr ?_)
     all_goals
      refine aY Tryz.results226 (λ w hw=>?_)
      exact⟨(jW true (aB x.L b).nd.val,1,x,[]),rfl,⟨g4,ok,by simp,Nat.le_refl _,bL _⟩,hw.aX (hF:=by exact aV.nil)⟩
    ·all_goals
      have g4:=g3.to (λ _=>if_neg (show ¬(k.only=true/\(aB x.L b).nd.val≠k.exp) from by rintro ⟨h,h'⟩;simp_all))
     all_goals (refine pG ?_;refine Dg ?_;refine aD (cF (hc:=λ w1 hw=>aAT (v:=(aB x.L m)) h48.2 (iA h (level:Int)) (ok.sF hw hA m))) (λ x141 h141=>?_))
     all_goals
      have hB:=aBQ h48.2 (v:=(aB x.L m)) (iA h (level:Int))
     all_goals (refine aA ?_;refine aC (bP rf rfl) rfl ?_;refine aC (bP rf rfl) rfl ?_;refine aJ (λ x22=>?_);refine Cr ?_;refine nF ?_;refine aN (cV (hc:=λ w1 hw=>qz hB (vp h48.2 (iA h (level:Int)) x141) (hw.cl (.new .head)))) (λ x146=>?_))
     all_goals
      have hso:((Lq (Nr (aB x.L m).c (iA h (level:Int)))).getD 0)<=x.L.length:=aAS hB (vp h48.2 (iA h (level:Int)) x141)
      have g5:=pF g4 hso
     all_goals (refine aA ?_;refine aC (bP rf rfl) rfl ?_;refine aC (bP rf rfl) rfl ?_;refine J8 ?_;refine aS ?_;refine eG [(0,[]),(1,[]),(2,[]),(3,[]),(4,[]),(5,[]),(6,[]),(7,[]),(8,[]),(9,[]),(10,[]),(11,[]),(12,[]),(13,[]),(16,[]),(19,[]),(20,[]),(14,[6,10,20]),(15,[6,20]),(17,[6,20]),(18,[20]),(21,[]),(22,[]),(23,[]),(24,[]),(25,[])] ?_;refine iF ?_;refine J9 ?_;refine aU ?_;refine bT (i:=6) (hq:=(aR (k:=2) (vs:=[.int .i64 k.t.root,.bool k.t.ro]) rf cY eF rfl rfl)) (h:=?_);refine iF ?_;refine aT ?_;refine Ka9 ?_;refine iF ?_;refine nA ?_;refine bC (i:=14) (hq:=(cM (hs:=xH k bx bm x dn rs) (os:=xW x) (hc:=λ w hs=>fS ((Lq (Nr (aB x.L m).c (iA h (level:Int)))).getD 0) (by omega) ok hs))) (hfire:=(λ _=>by(refine gK ?_;(repeat (first|exact aK.nil|refine aK.cons (by first|exact fT (hq:=aR (k:=2) (vs:=[.int .i64 k.t.root,.bool k.t.ro]) rf cY eF rfl rfl)|exact eW) ?_));done))) (h:=λ x163 h163=>?_);refine cO (i:=15) (hq:=(cV (hc:=λ w1 hw=>Vt hB (level:Int) (aB x.L ((Lq (Nr (aB x.L m).c (iA h (level:Int)))).getD 0)).nd (hw.cl (.new .head))))) (hfire:=(λ _=>by((repeat (first|exact aK.nil|refine aK.cons (by first|exact fT (hq:=aR (k:=2) (vs:=[.int .i64 k.t.root,.bool k.t.ro]) rf cY eF rfl rfl)|exact eW) ?_));done))) (h:=λ x164=>?_);refine bC (i:=17) (hq:=(cM (hs:=xH k bx bm x dn rs) (os:=xW x) (A0:=[((Qi (dq (aB x.L m) (iA h (level:Int))) x141 (level:Int) (aB x.L ((Lq (Nr (aB x.L m).c (iA h (level:Int)))).getD 0)).nd).brA,aH (Y7 (dq (aB x.L m) (iA h (level:Int))) x141 (level:Int) (aB x.L ((Lq (Nr (aB x.L m).c (iA h (level:Int)))).getD 0)).nd)),((Qi (dq (aB x.L m) (iA h (level:Int))) x141 (level:Int) (aB x.L ((Lq (Nr (aB x.L m).c (iA h (level:Int)))).getD 0)).nd).prA,cZ [])]) (hA:=vj) (hc:=λ w hs=>hU hg (n:=(Qi (dq (aB x.L m) (iA h (level:Int))) x141 (level:Int) (aB x.L ((Lq (Nr (aB x.L m).c (iA h (level:Int)))).getD 0)).nd)) (xs:=(Y7 (dq (aB x.L m) (iA h (level:Int))) x141 (level:Int) (aB x.L ((Lq (Nr (aB x.L m).c (iA h (level:Int)))).getD 0)).nd)) (ys:=[]) m _ (Zz _ _ _) (gu _ _ _) (Vf hB _ _ _) (Nat.zero_le _) (Va hB _ _ (ok.nv ((Lq (Nr (aB x.L m).c (iA h (level:Int)))).getD 0)).hash) hm (by rw[<- w9,<- aBK h48.2];exact g5) ok hs))) (hfire:=(λ _=>by(refine gK ?_;(repeat (first|exact aK.nil|refine aK.cons (by first|exact fT (hq:=aR (k:=2) (vs:=[.int .i64 k.t.root,.bool k.t.ro]) rf cY eF rfl rfl)|exact eW) ?_));done))) (h:=λ x166 h166=>?_);refine bC (i:=18) (hq:=(cM (hs:=xH k bx bm x166.2.1 dn rs) (os:=xW x166.2.1) (hc:=λ w hs=>uK hg k.t i m x166.1 _ ht (by have:=h166.len;omega) h166.bd h166.go h166.ok hs))) (h:=λ x167 h167=>?_))
     all_goals
      have hch:=Ch.nx h167 (Ch.nx h166 ((Ch.base (F:=[])).cons (f:=(x141.1,aH (mU (dq (aB x.L m) (iA h (level:Int))))))))
      have hlc:x.cs.length<=x167.2.1.cs.length:=by have:=h166.lc;have:=h167.lc;omega
     all_goals (refine cO (i:=21) (hq:=(cV (hc:=λ w1 hw=>pT _ _ _ _ w1))) (h:=λ x170=>?_);refine cP (i:=22) (hq:=(bP rf rfl)) (h:=?_);refine cP (i:=23) (hq:=(bP rf rfl)) (h:=?_);refine yQ ?_)
     all_goals
      refine aY Tryz.results226 (λ w hw=>?_)
      obtain⟨N,hN,hf⟩:=hch.to (t':=K (rX true (aB x.L b).nd.val) (if x167.1=true then 1 else 0)) h167 (h167.go) hlc (bL _)
      exact⟨(rX true (aB x.L b).nd.val,(if x167.1=true then 1 else 0),x167.2.1,N),rfl,hN,(hw.eY hf).aX (hF:=by exact aV.all)⟩
theorem Ul(hg:g.Ok)(i m:Int){h:Nat}(hh:h<18446744073709551616)(level:Nat)(hlv:level<=1073741824)(K:Rs->Int->Tr)(ht:k.t.root<=9223372036854775807)(hi:i<=x.L.length)(hm:m<=x.L.length)(hA:∀f∈aL x.L,f∈A)(go:gD g x (kM k i m h level K))(ok:x.Ok)(hs:SF w D (xH k bx bm x dn rs) A [] (xW x) w):Calls Tryz.prog 226 #[.pointer (some ⟨bx,0,none⟩),.int .i64 i,.int .i64 m,.int .u64 (h:Int),.int .i64 (level:Int)] w (Zs g x K bx bm k dn rs D w):=by
 by_cases hk:(aB x.L m).nd.kind=6
 ·exact Tg hg i m hh level hlv K ht hi hm hA hk go ok hs
 ·cases hl:mE (aB x.L m).c (iA h (level:Int)) with
  | none=>exact Tj hg i m hh level hlv K ht hi hm hA hk hl go ok hs
  | some b =>
   by_cases hi2:(aB x.L b).nd.kind=2
   ·exact Sn hg i m hh level hlv K ht hi hm hA hk hl hi2 go ok hs
   ·by_cases he:(aB x.L b).nd.key=k.key
    ·exact Tm hg i m hh level hlv K ht hi hm hA hk hl hi2 he go ok hs
    ·exact Ue hg i m hh level hlv K ht hi hm hA hk hl hi2 he go ok hs
end
end

end Go.Proofs.YtbajmaoegmbfgaaGreat

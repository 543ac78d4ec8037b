/- Merged. -/
import Derived.Test.YtbajmaoegmbfgaaGreatGEx14
import Derived.Test.YtbajmaoegmbfgaaGreatAuto
set_option linter.unusedSimpArgs false
set_option linter.unusedVariables false
namespace Go.Ct
open Go Go.RowKit
section
theorem mX{a b c:List aQ}:∀f∈aN ((a++b)++c),f.2=[]∨f∈aN c++(aN b++aN a):=λ f hf=>by
 simp only[dE,List.mem_append] at hf ⊢
 rcases hf with(h|h)|h
 ·exact .inr (.inr (.inr h))
 ·exact .inr (.inr (.inl h))
 ·exact .inr (.inl h)
theorem vN{a b c d:List aQ}:∀f∈aN (((a++b)++c)++d),f.2=[]∨f∈aN d++(aN c++(aN b++aN a)):=λ f hf=>by
 simp only[dE,List.mem_append] at hf ⊢
 rcases hf with((h|h)|h)|h
 ·exact .inr (.inr (.inr (.inr h)))
 ·exact .inr (.inr (.inr (.inl h)))
 ·exact .inr (.inr (.inl h))
 ·exact .inr (.inl h)
end
end Go.Ct
namespace Go.Proofs.YtbajmaoegmbfgaaGreat
open Go Go.RowKit Go.Ct
section
section
variable{k:Cl}{bx bm:Nat}{x:XS}{dn:Bool}{rs:Rs}{D:List Nat}{A:Fr}{w:World}{g:Gx}
set_option maxRecDepth 100000 in
theorem aCz(hg:g.Ok){m:Nat}(K:Rs->Tr)(n:Nat)(hn:n<=1073741824)(hm:m<18446744073709551616)(em:k.mask=(m:Int))(ek:k.key.size<=64)(ht:k.t.root<=9223372036854775807)(hA:∀f∈aN x.L,f∈A)(go:gE g x (A6 k (mJ k.key m) K n))(ok:x.Ok)(hs:SF w D (xH k bx bm x dn rs) A [] (xW x) w):Calls Tryz.prog 184 #[.pointer (some ⟨bx,0,none⟩)] w λ e w'=>∃q:Rs×XS×List aQ,e=.returned (.agg ⟨q.1.cells⟩)/\Nx g x q.2.1 q.2.2 (K q.1) 0/\SF w D (xH k bx bm q.2.1 dn rs) [] (aN q.2.2) (xW q.2.1) w':=by
 refine enter Tryz.func184 Tryz.ntmps184 rfl rfl (cD hs) ?_
 simp only[cG]
 refine J0 ?_;refine aL (λ x2=>?_);refine Tq ?_
 refine eP [3,4,13,14,15,16,17,18,19,20,21,22,23,24,25,26,27,28] (λ j:Nat=>[(3,.pointer (some ⟨j,0,none⟩)),(4,.int .u64 (((mJ k.key m):Nat):Int))]) (λ _=>True) (λ j=>[(j,.cells ⟨[.int .i64 k.t.root,.bool k.t.ro]⟩ 29 (0,0)),(x2,.cells ⟨Rs.zero.cells⟩ 64 (0,0)),(bx,xO k bm x dn rs),(bm,xM x)]) (λ _=>[]) (λ _=>xW x) (by decide) (λ _=>by exact rfl) ?_ (λ j f hx=>?_)
 ·refine gK (.one 0 [] (.one 1 [] (.one 2 [] (.one 3 [] (.one 4 [] (.one 5 [] (.one 6 [] (.one 7 [] (.one 8 [] (.one 9 [] (.one 10 [] (.one 11 [] (.one 12 [] (.one 13 [] (.one 14 [] (.two 15 [4] (.one 16 [4,9,14] (.one 17 [] (.one 18 [] .nil))) 0 [] (.two 16 [4,9,14] (.one 15 [4] (.one 17 [] (.one 18 [] .nil))) 0 [] .nil))))))))))))))))) ?_
  refine J9 ?_;refine aW ?_;refine bU (i:=4) (hq:=(aU (k:=2) (vs:=[.int .i64 k.t.root,.bool k.t.ro]) rf cS eT rfl rfl)) (h:=?_);refine yJ ?_;refine yJ ?_
  refine gV (E:=[15,16]) (by decide +kernel) ((.cons ?_ (.cons ?_ .nil)))
  ·refine Lj (i:=15) (hq:=(cV (hc:=λ w1 hw=>nS em hm ek w1))) (hfire:=(λ _=>by(refine aK.cons (by exact fL (hq:=aU (k:=2) (vs:=[.int .i64 k.t.root,.bool k.t.ro]) rf cS eT rfl rfl)) ?_;exact aK.nil))) (h:=λ x28=>?_)
   refine gW (hfire:=(λ _=>by((repeat (first|exact aK.nil|refine aK.cons (by first|exact fL (hq:=aU (k:=2) (vs:=[.int .i64 k.t.root,.bool k.t.ro]) rf cS eT rfl rfl)|exact eN) ?_));done))) (h:=λ x3=>?_);refine Bu ?_
   refine fH (x3) ?_
   ·trivial
  ·refine gY (i:=16) (hfire:=(λ _=>by((repeat (first|exact aK.nil|refine aK.cons (by first|exact fL (hq:=aU (k:=2) (vs:=[.int .i64 k.t.root,.bool k.t.ro]) rf cS eT rfl rfl)|exact eN) ?_));done))) (h:=λ x3=>?_)
   refine dC (i:=15) (hq:=(cV (hc:=λ w1 hw=>nS em hm ek w1))) (hfire:=(λ _=>by(refine aK.cons (by exact fL (hq:=aU (k:=2) (vs:=[.int .i64 k.t.root,.bool k.t.ro]) rf cS eT rfl rfl)) ?_;exact aK.nil))) (h:=λ x28=>?_);refine Bu ?_
   refine fH (x3) ?_
   ·trivial
 dsimp only[iC,List.map,List.cons_append,List.nil_append]
 refine D2 ?_
 refine nT [5,6,7,8,9,10,11,12,29,30,31,32,33,34,35,36,37,38,39,40,41,42,43,44,45,46,47,48,49,50,51,52,53,54,55,56,57,58,59,60,61,62,63,64,65,66,67,68,69,70,71,72,73,74,75,76,77,78,79,80,81,82,83,84,85,86,87,88,89,90,91,92,93,94,95,96,97,98,99,100,101] (λ y:Nat×XS×List aQ=>[]) (λ y=>y.1<=n/\Nx g x y.2.1 y.2.2 (A6 k (mJ k.key m) K y.1) 0) (λ y=>[(j,.cells ⟨[.int .i64 k.t.root,.bool k.t.ro]⟩ 29 (0,0)),(x2,.cells ⟨Rs.zero.cells⟩ 64 (0,0)),(bx,xO k bm y.2.1 dn rs),(bm,xM y.2.1)]) (λ y=>aN y.2.2) (λ y=>xW y.2.1) (λ y=>y.1) ((n,x,[])) (⟨Nat.le_refl n,Nx.start go ok |>.cI go (bL _)⟩) (λ y f hx=>?_) (hw0:=λ w hw=>hw)
 dsimp only[iC,List.map,List.cons_append,List.nil_append]
 obtain⟨hyn,hy⟩:=hx
 refine aV ?_;refine mK ?_;refine pE ?_
 refine bC (λ c33=>?_) (λ c33=>?_)
 ·obtain⟨fu,hfu,gx⟩:=gE.kD (T:=λ q=>A6 k (mJ k.key m) K q) hy.go (by simpa using c33) rfl hg
  refine aZ ?_;refine cW ?_;refine Kb3 ?_;refine aE (cM (hs:=xH k bx bm y.2.1 dn rs) (os:=xW y.2.1) (hc:=λ w hs=>Cc hg k.t _ ht gx hy.ok hs)) (λ x36 h36=>?_);refine zZ ?_;refine aE (cM (hs:=xH k bx bm x36.2.1 dn rs) (os:=xW x36.2.1) (hc:=λ w hs=>cH x36.1 _ h36.bd h36.go h36.ok hs)) (λ x39 h39=>?_);refine cB ?_;refine J1 ?_;refine dA ?_;refine D8 ?_
  refine nT [5,7,8,9,10,11,12,41,42,43,44,45,46,47,48,49,50,51,52,53,54,55,56,57,58,59,60,61,62,63,64,65,66,67,68,69,70,71,72,73,74,75,76,77,78,79,80,81,82,83,84,85,86,87,88,89,90,91,92,93,94,95,96,97,98,99,100,101] (λ z:Nat×Int×Int×XS×List aQ=>[(5,.int .i64 z.2.1),(7,.int .i64 z.2.2.1),(8,.int .i64 (((fu-z.1):Nat):Int))]) (λ z=>z.1<=fu/\Nx g x z.2.2.2.1 z.2.2.2.2 (Dk k (mJ k.key m) K (A6 k (mJ k.key m) K fu) (aC x36.2.1.L x36.1).nd.gen z.1 z.2.1 z.2.2.1 (fu-z.1)) z.2.1/\z.2.2.1<=z.2.2.2.1.L.length) (λ z=>[(j,.cells ⟨[.int .i64 k.t.root,.bool k.t.ro]⟩ 29 (0,0)),(x2,.cells ⟨Rs.zero.cells⟩ 64 (0,0)),(bx,xO k bm z.2.2.2.1 dn rs),(bm,xM z.2.2.2.1)]) (λ z=>aN z.2.2.2.2) (λ z=>xW z.2.2.2.1) (λ z=>z.1) ((fu,x36.1,0,x36.2.1,y.2.2++x36.2.2)) (⟨Nat.le_refl fu,(hy.trans h36).cI (show gE g x36.2.1 (Dk k (mJ k.key m) K (A6 k (mJ k.key m) K fu) (aC x36.2.1.L x36.1).nd.gen fu x36.1 0 (fu-fu)) from(Nat.sub_self fu).symm▸h39.1) h36.bd,bL _⟩) (λ z f hx=>?_) (hw0:=λ w hw=>(hw.eX nR).v6)
  dsimp only[iC,List.map,List.cons_append,List.nil_append]
  obtain⟨hzf,hz,hzp⟩:=hx
  refine aV ?_;refine mK ?_;refine pE ?_
  refine bC (λ c45=>?_) (λ c45=>?_)
  ·obtain⟨fu2,hfu2,gz⟩:=gE.kD (T:=λ q=>(Dk k (mJ k.key m) K (A6 k (mJ k.key m) K fu) (aC x36.2.1.L x36.1).nd.gen q z.2.1 z.2.2.1 (fu-z.1))) hz.go (by simpa using c45) rfl hg
   refine rY ?_;refine Kb3 ?_;refine aB ?_;refine aE (cM (hs:=xH k bx bm z.2.2.2.1 dn rs) (os:=xW z.2.2.2.1) (hc:=λ w hs=>pB hg k.t z.2.1 _ ht hz.bd gz hz.ok hs)) (λ x51 h51=>?_)
   have hl51:=h51.len
   have hb51:=h51.bd
   have hbz:=hz.bd
   have hch:=Ch.nx h51 hz.ch
   refine iT ?_;refine Kc3 ?_
   refine bC (λ c55=>?_) (λ c55=>?_)
   ·refine Yn ?_
    refine iO (by exact(fu,x51.2.1,(z.2.2.2.2++x51.2.2))) ?_ (hw1:=λ w hw=>by exact(hw.eX nR).v6)
    ·first
     | exact⟨by show fu<=n;omega,(((hz.trans h51).trans h76).trans h97).cI g4 (bL _)⟩
     | exact⟨by show fu<=n;omega,((hz.trans h51).trans h76).cI g3 (bL _)⟩
     | exact⟨by show fu<=n;omega,((hz.trans h51).trans h68).cI h68.go (bL _)⟩
     | exact⟨by show fu<=n;omega,(hz.trans h51).cI (h51.go.bY (by assumption)) (bL _)⟩
     | exact⟨by show fu<=n;omega,hz.cI (hz.go.bY (by simpa using c45)) (bL _)⟩
   ·refine kZ ?_;refine jF ?_;refine aE (cM (hs:=xH k bx bm x51.2.1 dn rs) (os:=xW x51.2.1) (hc:=λ w hs=>cH x51.1 _ h51.bd h51.go h51.ok hs)) (λ x58 h58=>?_);refine cB ?_;refine uQ ?_
    refine bC (λ c60=>?_) (λ c60=>?_)
    ·have g1:=h58.1.to (λ _=>if_pos c60)
     refine Kb3 ?_;refine pM ?_;refine pM ?_;refine qW ?_;refine aE (cM (hs:=xH k bx bm x51.2.1 dn rs) (os:=xW x51.2.1) (A0:=aN x51.2.1.L) (hA:=Ch.all hch hA) (hc:=λ w hs=>Lu hg k.t z.2.2.1 z.2.1 (uB k.key m) ((((fu-z.1):Nat):Int)-1) _ ht (by omega) (by omega) (λ f hf=>hf) g1 h51.ok hs)) (λ x68 h68=>?_);refine aI ?_;refine Yn ?_
     refine iO (by exact(fu,x68.2.1,((z.2.2.2.2++x51.2.2)++x68.2.2))) ?_ (hw1:=λ w hw=>by exact(hw.eX mX).v6)
     ·first
      | exact⟨by show fu<=n;omega,(((hz.trans h51).trans h76).trans h97).cI g4 (bL _)⟩
      | exact⟨by show fu<=n;omega,((hz.trans h51).trans h76).cI g3 (bL _)⟩
      | exact⟨by show fu<=n;omega,((hz.trans h51).trans h68).cI h68.go (bL _)⟩
      | exact⟨by show fu<=n;omega,(hz.trans h51).cI (h51.go.bY (by assumption)) (bL _)⟩
      | exact⟨by show fu<=n;omega,hz.cI (hz.go.bY (by simpa using c45)) (bL _)⟩
    ·have g1:=h58.1.to (λ _=>if_neg c60)
     refine Du ?_;refine pM ?_;refine pM ?_;refine aE (cM (hs:=xH k bx bm x51.2.1 dn rs) (os:=xW x51.2.1) (A0:=aN x51.2.1.L) (hA:=Ch.all hch hA) (hc:=λ w hs=>Yf hg z.2.1 x51.1 (uB k.key m) (fu-z.1) (by omega) (aC x36.2.1.L x36.1).nd.gen _ ht (by omega) (by omega) (λ f hf=>hf) g1 h51.ok hs)) (λ x76 h76=>?_)
     have hl76:=h76.len
     have hch2:=Ch.nx h76 hch
     refine aB ?_;refine aD (bR rf rfl) rfl ?_;refine aD (bR rf rfl) rfl ?_;refine aL (λ x10=>?_);refine kP (λ _=>?_);refine iT ?_;refine mK ?_;refine aB ?_
     (refine eI 83 (λ g83=>?_) (λ g83=>?_)<;>refine Ka0 ?_)
     all_goals (refine uM ?_;refine aI ?_)
     all_goals
     refine bC (λ c86=>?_) (λ c86=>?_)
     ·all_goals (refine oR ?_;refine J5 ?_)
      all_goals
       refine bD Tryz.results184 (λ w hw=>?_)
       exact⟨(x76.1,x76.2.2.1,((z.2.2.2.2++x51.2.2)++x76.2.2.2)),rfl,((hz.trans h51).trans h76).cI (by first|exact h76.go.bY (by assumption)|exact h76.go.to (λ _=>if_pos (by assumption))) (bL _),(hw.eX mX).v4⟩
     ·try exact nv c86
      all_goals
       have g2:=h76.go.to (λ _=>if_neg (by assumption))
      all_goals (refine kZ ?_;refine J2 ?_;refine uQ ?_)
      all_goals
       refine bC (λ c89=>?_) (λ c89=>?_)
       ·have g3:=g2.to (λ _=>if_pos (by assumption))
        refine Yn ?_
        refine iO (by exact(fu,x76.2.2.1,((z.2.2.2.2++x51.2.2)++x76.2.2.2))) ?_ (hw1:=λ w hw=>by exact(hw.eX mX).v6)
        ·first
         | exact⟨by show fu<=n;omega,(((hz.trans h51).trans h76).trans h97).cI g4 (bL _)⟩
         | exact⟨by show fu<=n;omega,((hz.trans h51).trans h76).cI g3 (bL _)⟩
         | exact⟨by show fu<=n;omega,((hz.trans h51).trans h68).cI h68.go (bL _)⟩
         | exact⟨by show fu<=n;omega,(hz.trans h51).cI (h51.go.bY (by assumption)) (bL _)⟩
         | exact⟨by show fu<=n;omega,hz.cI (hz.go.bY (by simpa using c45)) (bL _)⟩
       ·have g3:=g2.to (λ _=>if_neg (by assumption))
        refine Du ?_;refine pM ?_;refine aB ?_;refine aP (cV (hc:=λ w1 hw=>fM (uB k.key m) (((fu-z.1):Nat):Int) w1)) (λ x95=>?_);refine aB ?_;refine aE (cM (hs:=xH k bx bm x76.2.2.1 dn rs) (os:=xW x76.2.2.1) (A0:=aN x76.2.2.1.L) (hA:=Ch.all hch2 hA) (hc:=λ w hs=>Va hg z.2.1 x51.1 (hU (mJ k.key m) (((fu-z.1):Nat):Int)) (aC x36.2.1.L x36.1).nd.gen _ ht (by omega) (by omega) (λ f hf=>hf) g3 h76.ok hs)) (λ x97 h97=>?_);refine Kc2 ?_;refine uQ ?_
        refine bC (λ c99=>?_) (λ c99=>?_)
        ·have g4:=h97.go.to (λ _=>if_pos (by assumption))
         refine Yn ?_
         refine iO (by exact(fu,x97.2.1,(((z.2.2.2.2++x51.2.2)++x76.2.2.2)++x97.2.2))) ?_ (hw1:=λ w hw=>by exact(hw.eX vN).v6)
         ·first
          | exact⟨by show fu<=n;omega,(((hz.trans h51).trans h76).trans h97).cI g4 (bL _)⟩
          | exact⟨by show fu<=n;omega,((hz.trans h51).trans h76).cI g3 (bL _)⟩
          | exact⟨by show fu<=n;omega,((hz.trans h51).trans h68).cI h68.go (bL _)⟩
          | exact⟨by show fu<=n;omega,(hz.trans h51).cI (h51.go.bY (by assumption)) (bL _)⟩
          | exact⟨by show fu<=n;omega,hz.cI (hz.go.bY (by simpa using c45)) (bL _)⟩
        ·have g4:=h97.go.to (λ _=>if_neg (by assumption))
         refine aZ ?_;refine Jb ?_;refine J8 ?_;refine Ka8 ?_
         refine iO ((z.1-1,x97.1,z.2.1,x97.2.1,(((z.2.2.2.2++x51.2.2)++x76.2.2.2)++x97.2.2))) ?_ (hw1:=λ w hw=>(hw.eX vN).v6)
         ·have e1:z.1-1=fu2:=by omega
          have e2:(fu-z.1)+1=fu-fu2:=by omega
          refine⟨by show z.1-1<=fu;omega,((((hz.trans h51).trans h76).trans h97)).cI ?_ h97.bd,by show z.2.1<=(x97.2.1.L.length:Int);have:=h97.len;omega⟩
          show gE g x97.2.1 (Dk k (mJ k.key m) K (A6 k (mJ k.key m) K fu) (aC x36.2.1.L x36.1).nd.gen (z.1-1) x97.1 z.2.1 (fu-(z.1-1)))
          rw[e1,<- e2]
          exact g4
  ·refine Yn ?_
   refine iO (by exact(fu,z.2.2.2.1,z.2.2.2.2)) ?_ (hw1:=λ w hw=>by exact hw.v6)
   ·first
    | exact⟨by show fu<=n;omega,(((hz.trans h51).trans h76).trans h97).cI g4 (bL _)⟩
    | exact⟨by show fu<=n;omega,((hz.trans h51).trans h76).cI g3 (bL _)⟩
    | exact⟨by show fu<=n;omega,((hz.trans h51).trans h68).cI h68.go (bL _)⟩
    | exact⟨by show fu<=n;omega,(hz.trans h51).cI (h51.go.bY (by assumption)) (bL _)⟩
    | exact⟨by show fu<=n;omega,hz.cI (hz.go.bY (by simpa using c45)) (bL _)⟩
 ·refine bT rfl ?_;refine Kb8 ?_
  refine bD Tryz.results184 (λ w hw=>?_)
  exact⟨(Rs.zero,y.2.1,y.2.2),rfl,hy.cI (hy.go.bY (by simpa using c33)) (bL _),hw.v4⟩
end
end
end Go.Proofs.YtbajmaoegmbfgaaGreat
namespace Go.Ct
open Go Go.RowKit
section
variable{P:Program}{n:Nat}{Q:Exit->Act->World->Prop}{ks:List CK}{ops:Array Oper}{l:List Oper}{S:List (Nat×Value)}{G:World->Prop}
theorem O5{d:Nat}{op:Op}{ty:TypeId}{pos:String}{af:Array Edge}{j:Nat}{want:Bool}{g:Nat}(hd:Nat.blt d n=true)
  (hj:(ops[j]?).bind (·.dst)=some g) (hg:look S g=undef)
  (h:JL P n Q ks ops l ((d,undef)::S) G):JL P n Q ks ops (⟨some d,op,ty,pos,af,some (j,want)⟩::l) S G:=⟨λ hS w hw=>by
 have hy:yielded ops (eA n S) j=none:=by
  have e:=congrFun (jB (ds:=[]) hS) (.tmp g)
  simp only[Act.eval,ev,hg] at e
  unfold yielded
  rw[hj]
  simp only[Option.bind_some]
  rw[Array.getD_eq_getD_getElem?] at e
  cases h2:(eA n S)[g]? with
  | none=>rfl
  | some u=>rw[h2] at e;simp[undef] at e;subst e;rfl
 refine wpList_step λ K hK=>?_
 have hw':Region.wanted ⟨some d,op,ty,pos,af,some (j,want)⟩ (yielded ops (eA n S))=false:=by
  simp only[Region.wanted,hy]
  rfl
 simp only[hw',Bool.false_eq_true,if_false,Cj]
 exact hK _ _ (h.run (hS.cons hd) w hw)⟩
end
end Go.Ct
namespace Go.Proofs.YtbajmaoegmbfgaaGreat
open Go.RowKit Go.Ct
section
theorem Bd{n:Nat}{Q:Exit->Act->World->Prop}{ks:List CK}{ops:Array Oper}{l:List Oper}{S:List (Nat×Value)}{G:World->Prop}{d j g:Nat}{op:Op}{ty:TypeId}{pos:String}{af:Array Edge}{want:Bool}(h:JL Tryz.prog n Q ks ops l ((d,undef)::S) G)(hd:Nat.blt d n=true:=by exact rfl)(hj:(ops[j]?).bind (·.dst)=some g:=by exact rfl)(hg:Ct.look S g=undef:=by exact rfl):JL Tryz.prog n Q ks ops (⟨some d,op,ty,pos,af,some (j,want)⟩::l) S G:=O5 hd hj hg h
end
end Go.Proofs.YtbajmaoegmbfgaaGreat
namespace Go.Ct
open Go Go.RowKit
section
theorem pG{g:Gx}{x:XS}{r:Int}{K:Nv->Tr}(h:gE g x (.node r K))(hr:r<=x.L.length):gE g x (K (aC x.L r).c):=by
 have:=h.node hr
 rwa [show bA x.nodes r=(aC x.L r).c from(qX x.L r).symm] at this
section
variable{P:Program}{S:List (Nat×Value)}{G:World->Prop}{d:Nat}{ty t t':TypeId}{pos:String}{af:Array Edge}{gd:Option (Nat×Bool)}{x y:Operand}{a b:ByteArray}
theorem sr(hx:ev S x=.string a)(hy:ev S y=.string b)(h:¬a=b):aM P S G ⟨some d,.binOp .neq t x y t',ty,pos,af,gd⟩ (.bool true):=by
 have:=Gt (P:=P) (G:=G) (d:=d) (ty:=ty) (pos:=pos) (af:=af) (gd:=gd) (t:=t) (t':=t') hx hy
 rwa [bne,v5 h] at this
theorem oz(hx:ev S x=.string a)(hy:ev S y=.string b)(h:a=b):aM P S G ⟨some d,.binOp .neq t x y t',ty,pos,af,gd⟩ (.bool false):=by
 have:=Gt (P:=P) (G:=G) (d:=d) (ty:=ty) (pos:=pos) (af:=af) (gd:=gd) (t:=t) (t':=t') hx hy
 rwa [bne,vw h] at this
end
end
end Go.Ct
namespace Go.Proofs.YtbajmaoegmbfgaaGreat
open Go.Proofs.Tryz (prog)
open Go Go.RowKit Go.Ct
section
theorem s6{m:Nat}{o:Option (Nat×List Int)}{w:World}(h:wQ m o){x:Option Addr×Nat}{r:Nv}(e:r=(nB o x).c (mI o) [])(hc:Go.Ct.Cl w x.1 (aH (mI o))):Calls prog 245 #[(nB o x).v] w λ e w'=>e=.returned (.tuple #[.int .i64 ((Ni r).getD 0),.bool (Ni r).isSome])/\St w [] [] w':=by
 obtain⟨b,h1,h2⟩:=Qh h x
 have:=Kt (n:=nB o x) h1 h2 (Pa h hc)
 rw[zd,<- e] at this
 exact this
theorem aBt{m:Nat}{o:Option (Nat×List Int)}(h:wQ m o){x:Option Addr×Nat}{r:Nv}(e:r=(nB o x).c (mI o) []):(Ni r).getD 0<=m:=by
 rw[e,<- zd]
 unfold m6
 split
 ·refine mQ (λ v hv=>?_) 0
  cases o with
  | none=>exact(List.not_mem_nil hv).elim
  | some q=>exact(h.out q rfl).2.2 v hv
 ·exact bL _
section
variable{k:Cl}{bx bm:Nat}{x:XS}{dn:Bool}{rs:Rs}{D:List Nat}{A:Fr}{w:World}{g:Gx}
set_option maxRecDepth 100000 in
theorem Tt(hg:g.Ok)(i m:Int){h:Nat}(hh:h<18446744073709551616)(level:Nat)(hlv:level<=1073741824)(K:Rs->Int->Tr)(ht:k.t.root<=9223372036854775807)(hi:i<=x.L.length)(hm:m<=x.L.length)(hA:∀f∈aN x.L,f∈A)(hk:(aC x.L m).nd.kind=6)(go:gE g x (kL k i m h level K))(ok:x.Ok)(hs:SF w D (xH k bx bm x dn rs) A [] (xW x) w):Calls prog 226 #[.pointer (some ⟨bx,0,none⟩),.int .i64 i,.int .i64 m,.int .u64 (h:Int),.int .i64 (level:Int)] w (Z2 g x K bx bm k dn rs D w):=by
 have hyl:=rV ok m
 have hlL:=ok.lL
 have h48:gE g x _/\mC x.L.length x.cs.length (aC x.L m).c:=⟨pG go hm,ok.nv m⟩
 refine enter Tryz.func226 Tryz.ntmps226 rfl rfl (cD hs) ?_
 simp only[cG]
 refine J0 ?_;refine aL (λ x10=>?_);refine iT ?_
 refine eP [12,13,26,27,28,29,30,31,32,33] (λ j:Nat=>[(12,.pointer (some ⟨j,0,none⟩)),(13,.string k.key)]) (λ _=>True) (λ j=>[(j,.cells ⟨(aC x.L m).nd.cells⟩ 47 (0,0)),(x10,.cells ⟨Rs.zero.cells⟩ 64 (0,0)),(bx,xO k bm x dn rs),(bm,xM x)]) (λ _=>[]) (λ _=>xW x) (by decide) (λ _=>by exact rfl) ?_ (λ j f hx=>?_)
 ·refine gK (.one 0 [] (.one 1 [] (.one 3 [] (.one 4 [] (.one 5 [] (.one 6 [] (.one 7 [] (.two 2 [7] (.one 8 [7] (.one 9 [7] (.one 10 [] .nil))) 0 [] (.two 8 [7] (.one 2 [7] (.one 9 [7] (.one 10 [] .nil))) 0 [] .nil))))))))) ?_
  refine iK ?_;refine yJ ?_
  refine gV (E:=[2,8]) (by decide +kernel) ((.cons ?_ (.cons ?_ .nil)))
  ·refine mT (i:=2) (hq:=(cM (hs:=xH k bx bm x dn rs) (os:=xW x) (hc:=λ w hs=>fS m (by omega) ok hs))) (h:=λ x28 h28=>?_)
   refine gW (h:=λ x12=>?_);refine Bu ?_
   refine fH (x12) ?_
   ·trivial
  ·refine gY (i:=8) (h:=λ x12=>?_)
   refine bE (i:=2) (hq:=(cM (hs:=xH k bx bm x dn rs) (os:=xW x) (hc:=λ w hs=>fS m (by omega) ok hs))) (h:=λ x28 h28=>?_);refine Bu ?_
   refine fH (x12) ?_
   ·trivial
 dsimp only[iC,List.map,List.cons_append,List.nil_append]
 refine Kc8 ?_
 refine bC (λ c36=>?_) (λ c36=>?_)
 ·have g1:=h48.1.to (λ _=>if_pos hk)
  refine Kb9 ?_;refine aP (cV (hc:=λ w1 hw=>Lr (v:=(aC x.L m)) (n:=0) k.key (ok.sN hw hA m) (ok.ysl m))) (λ x41=>?_);refine aB ?_;refine aD (bR rf rfl) rfl ?_;refine aD (bR rf rfl) rfl ?_;refine Kb2 ?_;refine Dg ?_
  (refine eI 46 (λ g46=>?_) (λ g46=>?_)<;>refine Ka0 ?_)
  all_goals (refine Kb4 ?_;refine Ka1 ?_;refine Ka1 ?_;refine Ka2 ?_;refine Ka0 ?_)
  all_goals (first|refine Bd ?_|(refine eI 52 (λ g52=>?_) (λ g52=>?_)<;>refine Ka0 ?_))
  all_goals ((first|refine aJ ?_|refine Bd ?_|(refine Ka3 ?_));(first|refine aJ ?_|refine Bd ?_|(refine aF ?_;refine dI ?_));(first|refine aJ ?_|refine Bd ?_|(refine aF ?_;refine aG ?_));(first|refine aJ ?_|refine Bd ?_|(refine aF ?_;refine aG ?_));(first|refine aJ ?_|refine Bd ?_|(refine aF ?_;refine bQ ?_));(first|refine aJ ?_|refine Bd ?_|(refine aF ?_;refine nD ?_));(first|refine aJ ?_|(refine aF ?_;refine cA ?_));refine cA ?_;refine aI ?_)
  all_goals
  refine bC (λ c61=>?_) (λ c61=>?_)
  ·try exact nv c61
   all_goals
    have g2:=g1.to (λ _=>if_pos (show((dY (aC x.L m).c.ys k.key).isSome=false∨(k.only=true/\(dY (aC x.L m).c.ys k.key).getD 0≠k.exp)) from by first|exact Or.inl (by assumption)|exact Or.inr ⟨by assumption,by assumption⟩))
   all_goals (refine jF ?_;refine aP (cV (hc:=λ w1 hw=>gU _ _ w1)) (λ x64=>?_);refine Cg ?_)
   all_goals
    refine bD Tryz.results226 (λ w hw=>?_)
    exact⟨(jO (dY (aC x.L m).c.ys k.key).isSome ((dY (aC x.L m).c.ys k.key).getD 0),1,x,[]),rfl,⟨g2,ok,by simp,Nat.le_refl _,bL _⟩,hw.aY (hF:=by exact aX.nil)⟩
  ·try exact nv c61
   all_goals
    have g2:=g1.to (λ _=>if_neg (show ¬((dY (aC x.L m).c.ys k.key).isSome=false∨(k.only=true/\(dY (aC x.L m).c.ys k.key).getD 0≠k.exp)) from by rintro (h|⟨h,h'⟩)<;>simp_all))
   all_goals (refine aZ ?_;refine D9 ?_;refine aE (cF (hc:=λ w1 hw=>aB5 (v:=(aC x.L m)) h48.2 k.key (ok.sN hw hA m) (by omega))) (λ x68 h68=>?_);refine aB ?_;refine aD (bR rf rfl) rfl ?_;refine aD (bR rf rfl) rfl ?_;refine aL (λ x16=>?_);refine kP (λ _=>?_);refine iT ?_;refine eH [(0,[]),(1,[]),(2,[]),(3,[]),(4,[]),(5,[]),(6,[]),(7,[]),(8,[]),(9,[]),(10,[]),(11,[]),(14,[]),(12,[6]),(13,[]),(15,[]),(16,[]),(17,[]),(18,[]),(19,[])] ?_;refine iK ?_;refine J9 ?_;refine aW ?_;refine bU (i:=6) (hq:=(aU (k:=2) (vs:=[.int .i64 k.t.root,.bool k.t.ro]) rf cS eT rfl rfl)) (h:=?_);refine iK ?_;refine Ka9 ?_;refine iK ?_;refine bE (i:=12) (hq:=(cM (hs:=xH k bx bm x dn rs) (os:=xW x) (A0:=[((N3 (qG (aC x.L m).nd (aC x.L m).xs (aC x.L m).ys k.key) (aC x.L m).nd.hash x68).brA,aH []),((N3 (qG (aC x.L m).nd (aC x.L m).xs (aC x.L m).ys k.key) (aC x.L m).nd.hash x68).prA,cX (Is (qG (aC x.L m).nd (aC x.L m).xs (aC x.L m).ys k.key)))]) (hA:=aBT) (hc:=λ w hs=>gX hg (n:=N3 (qG (aC x.L m).nd (aC x.L m).xs (aC x.L m).ys k.key) (aC x.L m).nd.hash x68) (xs:=[]) (ys:=Is (qG (aC x.L m).nd (aC x.L m).xs (aC x.L m).ys k.key)) m _ (Z7 _ _ _).1 (Z7 _ _ _).2 (by decide) (by have:=y9 (aC x.L m).xs (aC x.L m).ys (aC x.L m).nd k.key;omega) (aAB _ h48.2.hash) hm (by rw[aCO];exact g2) ok hs))) (hfire:=(λ _=>by(refine fA ?_;refine aK.cons (by exact fL (hq:=aU (k:=2) (vs:=[.int .i64 k.t.root,.bool k.t.ro]) rf cS eT rfl rfl)) ?_;exact aK.nil))) (h:=λ x83 h83=>?_);refine bE (i:=13) (hq:=(cM (hs:=xH k bx bm x83.2.1 dn rs) (os:=xW x83.2.1) (hc:=λ w hs=>tH hg k.t i m x83.1 _ ht (by have:=h83.len;omega) h83.bd h83.go h83.ok hs))) (h:=λ x84 h84=>?_))
   all_goals
    have hch:=Ch.nx h84 (Ch.nx h83 ((Ch.base (F:=[])).cons (f:=(x68.1,cX (Is (qG (aC x.L m).nd (aC x.L m).xs (aC x.L m).ys k.key))))))
    have hlc:x.cs.length<=x84.2.1.cs.length:=by have:=h83.lc;have:=h84.lc;omega
   all_goals (refine dC (i:=15) (hq:=(cV (hc:=λ w1 hw=>pS _ _ _ _ w1))) (h:=λ x86=>?_);refine cK (i:=16) (hq:=(bR rf rfl)) (h:=?_);refine cK (i:=17) (hq:=(bR rf rfl)) (h:=?_);refine Bu ?_)
   all_goals
    refine bD Tryz.results226 (λ w hw=>?_)
    obtain⟨N,hN,hf⟩:=hch.to (t':=K (sA true ((dY (aC x.L m).c.ys k.key).getD 0)) (if x84.1=true then 1 else 0)) h84 (h84.go) hlc (bL _)
    exact⟨(sA true ((dY (aC x.L m).c.ys k.key).getD 0),(if x84.1=true then 1 else 0),x84.2.1,N),rfl,hN,(hw.eX hf).v4⟩
 ·exact absurd hk c36
set_option maxRecDepth 100000 in
theorem Uq(hg:g.Ok)(i m:Int){h:Nat}(hh:h<18446744073709551616)(level:Nat)(hlv:level<=1073741824)(K:Rs->Int->Tr)(ht:k.t.root<=9223372036854775807)(hi:i<=x.L.length)(hm:m<=x.L.length)(hA:∀f∈aN x.L,f∈A)(hk:¬(aC x.L m).nd.kind=6)(hl:lI (aC x.L m).c (hU h (level:Int))=none)(go:gE g x (kL k i m h level K))(ok:x.Ok)(hs:SF w D (xH k bx bm x dn rs) A [] (xW x) w):Calls prog 226 #[.pointer (some ⟨bx,0,none⟩),.int .i64 i,.int .i64 m,.int .u64 (h:Int),.int .i64 (level:Int)] w (Z2 g x K bx bm k dn rs D w):=by
 have hyl:=rV ok m
 have hlL:=ok.lL
 have h48:gE g x _/\mC x.L.length x.cs.length (aC x.L m).c:=⟨pG go hm,ok.nv m⟩
 refine enter Tryz.func226 Tryz.ntmps226 rfl rfl (cD hs) ?_
 simp only[cG]
 refine J0 ?_;refine aL (λ x10=>?_);refine iT ?_
 refine eP [12,13,26,27,28,29,30,31,32,33] (λ j:Nat=>[(12,.pointer (some ⟨j,0,none⟩)),(13,.string k.key)]) (λ _=>True) (λ j=>[(j,.cells ⟨(aC x.L m).nd.cells⟩ 47 (0,0)),(x10,.cells ⟨Rs.zero.cells⟩ 64 (0,0)),(bx,xO k bm x dn rs),(bm,xM x)]) (λ _=>[]) (λ _=>xW x) (by decide) (λ _=>by exact rfl) ?_ (λ j f hx=>?_)
 ·refine gK (.one 0 [] (.one 1 [] (.one 3 [] (.one 4 [] (.one 5 [] (.one 6 [] (.one 7 [] (.two 2 [7] (.one 8 [7] (.one 9 [7] (.one 10 [] .nil))) 0 [] (.two 8 [7] (.one 2 [7] (.one 9 [7] (.one 10 [] .nil))) 0 [] .nil))))))))) ?_
  refine iK ?_;refine yJ ?_
  refine gV (E:=[2,8]) (by decide +kernel) ((.cons ?_ (.cons ?_ .nil)))
  ·refine mT (i:=2) (hq:=(cM (hs:=xH k bx bm x dn rs) (os:=xW x) (hc:=λ w hs=>fS m (by omega) ok hs))) (h:=λ x28 h28=>?_)
   refine gW (h:=λ x12=>?_);refine Bu ?_
   refine fH (x12) ?_
   ·trivial
  ·refine gY (i:=8) (h:=λ x12=>?_)
   refine bE (i:=2) (hq:=(cM (hs:=xH k bx bm x dn rs) (os:=xW x) (hc:=λ w hs=>fS m (by omega) ok hs))) (h:=λ x28 h28=>?_);refine Bu ?_
   refine fH (x12) ?_
   ·trivial
 dsimp only[iC,List.map,List.cons_append,List.nil_append]
 refine Kc8 ?_
 refine bC (λ c36=>?_) (λ c36=>?_)
 ·exact absurd c36 hk
 ·have g0:=h48.1.to (λ _=>if_neg hk)
  have g1:=Me g0 (by rw[hl];rfl)
  refine Du ?_;refine aP (cV (hc:=λ w1 hw=>fM hh (level:Int) w1)) (λ x91=>?_);refine J1 ?_;refine D9 ?_;refine aP (cV (hc:=λ w1 hw=>xe (v:=(aC x.L m)) h48.2 hl (ok.sN hw hA m))) (λ x95=>?_);refine aB ?_;refine aD (bR rf rfl) rfl ?_;refine aD (bR rf rfl) rfl ?_;refine J8 ?_;refine jF ?_;refine aE (cM (hs:=xH k bx bm x dn rs) (os:=xW x) (hc:=λ w hs=>fS 0 (by decide) ok hs)) (λ x100 h100=>?_);refine aL (λ x21=>?_);refine J5 ?_;refine D2 ?_;refine jF ?_
  refine aJ ?_
  refine yb ?_;refine J1 ?_
  refine bC (λ c101=>?_) (λ c101=>?_)
  ·exact nv c101
  ·refine J2 ?_;refine Dg ?_
   refine aJ ?_
   refine ig ?_;(refine aJ ?_);refine Kb7 ?_
   refine bC (λ c109=>?_) (λ c109=>?_)
   ·refine J0 ?_;refine aP (cV (hc:=λ w1 hw=>gU _ _ w1)) (λ x118=>?_);refine Cg ?_
    refine bD Tryz.results226 (λ w hw=>?_)
    exact⟨(jO false 0,1,x,[]),rfl,⟨g1,ok,by simp,Nat.le_refl _,bL _⟩,hw.aY (hF:=by exact aX.nil)⟩
   ·exact nv c109
set_option maxRecDepth 100000 in
theorem S4(hg:g.Ok)(i m:Int){h:Nat}(hh:h<18446744073709551616)(level:Nat)(hlv:level<=1073741824)(K:Rs->Int->Tr)(ht:k.t.root<=9223372036854775807)(hi:i<=x.L.length)(hm:m<=x.L.length)(hA:∀f∈aN x.L,f∈A)(hk:¬(aC x.L m).nd.kind=6){b:Int}(hl:lI (aC x.L m).c (hU h (level:Int))=some b)(hi2:(aC x.L b).nd.kind=2)(go:gE g x (kL k i m h level K))(ok:x.Ok)(hs:SF w D (xH k bx bm x dn rs) A [] (xW x) w):Calls prog 226 #[.pointer (some ⟨bx,0,none⟩),.int .i64 i,.int .i64 m,.int .u64 (h:Int),.int .i64 (level:Int)] w (Z2 g x K bx bm k dn rs D w):=by
 have hyl:=rV ok m
 have hlL:=ok.lL
 have h48:gE g x _/\mC x.L.length x.cs.length (aC x.L m).c:=⟨pG go hm,ok.nv m⟩
 have hb:b<=x.L.length:=by have:=pU (ok.nv m) (hU h (level:Int));rw[hl] at this;exact this
 refine enter Tryz.func226 Tryz.ntmps226 rfl rfl (cD hs) ?_
 simp only[cG]
 refine J0 ?_;refine aL (λ x10=>?_);refine iT ?_
 refine eP [12,13,26,27,28,29,30,31,32,33] (λ j:Nat=>[(12,.pointer (some ⟨j,0,none⟩)),(13,.string k.key)]) (λ _=>True) (λ j=>[(j,.cells ⟨(aC x.L m).nd.cells⟩ 47 (0,0)),(x10,.cells ⟨Rs.zero.cells⟩ 64 (0,0)),(bx,xO k bm x dn rs),(bm,xM x)]) (λ _=>[]) (λ _=>xW x) (by decide) (λ _=>by exact rfl) ?_ (λ j f hx=>?_)
 ·refine gK (.one 0 [] (.one 1 [] (.one 3 [] (.one 4 [] (.one 5 [] (.one 6 [] (.one 7 [] (.two 2 [7] (.one 8 [7] (.one 9 [7] (.one 10 [] .nil))) 0 [] (.two 8 [7] (.one 2 [7] (.one 9 [7] (.one 10 [] .nil))) 0 [] .nil))))))))) ?_
  refine iK ?_;refine yJ ?_
  refine gV (E:=[2,8]) (by decide +kernel) ((.cons ?_ (.cons ?_ .nil)))
  ·refine mT (i:=2) (hq:=(cM (hs:=xH k bx bm x dn rs) (os:=xW x) (hc:=λ w hs=>fS m (by omega) ok hs))) (h:=λ x28 h28=>?_)
   refine gW (h:=λ x12=>?_);refine Bu ?_
   refine fH (x12) ?_
   ·trivial
  ·refine gY (i:=8) (h:=λ x12=>?_)
   refine bE (i:=2) (hq:=(cM (hs:=xH k bx bm x dn rs) (os:=xW x) (hc:=λ w hs=>fS m (by omega) ok hs))) (h:=λ x28 h28=>?_);refine Bu ?_
   refine fH (x12) ?_
   ·trivial
 dsimp only[iC,List.map,List.cons_append,List.nil_append]
 refine Kc8 ?_
 refine bC (λ c36=>?_) (λ c36=>?_)
 ·exact absurd c36 hk
 ·have g0:=h48.1.to (λ _=>if_neg hk)
  have g1:=tN g0 (by rw[hl];rfl)
  rw[hl] at g1
  have g2:=pG g1 hb
  refine Du ?_;refine aP (cV (hc:=λ w1 hw=>fM hh (level:Int) w1)) (λ x91=>?_);refine J1 ?_;refine D9 ?_;refine aP (cV (hc:=λ w1 hw=>K1 (v:=(aC x.L m)) h48.2 hl (ok.sN hw hA m))) (λ x95=>?_);refine aB ?_;refine aD (bR rf rfl) rfl ?_;refine aD (bR rf rfl) rfl ?_;refine J8 ?_;refine jF ?_;refine aE (cM (hs:=xH k bx bm x dn rs) (os:=xW x) (hc:=λ w hs=>fS b (by omega) ok hs)) (λ x100 h100=>?_);refine aL (λ x21=>?_);refine J5 ?_;refine D2 ?_;refine jF ?_
  (refine aF ?_;refine aG ?_)
  refine yb ?_;refine J1 ?_
  refine bC (λ c101=>?_) (λ c101=>?_)
  ·have g3:=g2.to (λ _=>if_pos hi2)
   refine J0 ?_;refine bO ?_;refine Cg ?_
   refine bD Tryz.results226 (λ w hw=>?_)
   exact⟨(Rs.zero,2,x,[]),rfl,⟨g3,ok,by simp,Nat.le_refl _,bL _⟩,hw.aY (hF:=by exact aX.nil)⟩
  ·exact absurd hi2 c101
set_option maxRecDepth 100000 in
theorem Sq(hg:g.Ok)(i m:Int){h:Nat}(hh:h<18446744073709551616)(level:Nat)(hlv:level<=1073741824)(K:Rs->Int->Tr)(ht:k.t.root<=9223372036854775807)(hi:i<=x.L.length)(hm:m<=x.L.length)(hA:∀f∈aN x.L,f∈A)(hk:¬(aC x.L m).nd.kind=6){b:Int}(hl:lI (aC x.L m).c (hU h (level:Int))=some b)(hi2:¬(aC x.L b).nd.kind=2)(he:¬(aC x.L b).nd.key=k.key)(go:gE g x (kL k i m h level K))(ok:x.Ok)(hs:SF w D (xH k bx bm x dn rs) A [] (xW x) w):Calls prog 226 #[.pointer (some ⟨bx,0,none⟩),.int .i64 i,.int .i64 m,.int .u64 (h:Int),.int .i64 (level:Int)] w (Z2 g x K bx bm k dn rs D w):=by
 have hyl:=rV ok m
 have hlL:=ok.lL
 have h48:gE g x _/\mC x.L.length x.cs.length (aC x.L m).c:=⟨pG go hm,ok.nv m⟩
 have hb:b<=x.L.length:=by have:=pU (ok.nv m) (hU h (level:Int));rw[hl] at this;exact this
 refine enter Tryz.func226 Tryz.ntmps226 rfl rfl (cD hs) ?_
 simp only[cG]
 refine J0 ?_;refine aL (λ x10=>?_);refine iT ?_
 refine eP [12,13,26,27,28,29,30,31,32,33] (λ j:Nat=>[(12,.pointer (some ⟨j,0,none⟩)),(13,.string k.key)]) (λ _=>True) (λ j=>[(j,.cells ⟨(aC x.L m).nd.cells⟩ 47 (0,0)),(x10,.cells ⟨Rs.zero.cells⟩ 64 (0,0)),(bx,xO k bm x dn rs),(bm,xM x)]) (λ _=>[]) (λ _=>xW x) (by decide) (λ _=>by exact rfl) ?_ (λ j f hx=>?_)
 ·refine gK (.one 0 [] (.one 1 [] (.one 3 [] (.one 4 [] (.one 5 [] (.one 6 [] (.one 7 [] (.two 2 [7] (.one 8 [7] (.one 9 [7] (.one 10 [] .nil))) 0 [] (.two 8 [7] (.one 2 [7] (.one 9 [7] (.one 10 [] .nil))) 0 [] .nil))))))))) ?_
  refine iK ?_;refine yJ ?_
  refine gV (E:=[2,8]) (by decide +kernel) ((.cons ?_ (.cons ?_ .nil)))
  ·refine mT (i:=2) (hq:=(cM (hs:=xH k bx bm x dn rs) (os:=xW x) (hc:=λ w hs=>fS m (by omega) ok hs))) (h:=λ x28 h28=>?_)
   refine gW (h:=λ x12=>?_);refine Bu ?_
   refine fH (x12) ?_
   ·trivial
  ·refine gY (i:=8) (h:=λ x12=>?_)
   refine bE (i:=2) (hq:=(cM (hs:=xH k bx bm x dn rs) (os:=xW x) (hc:=λ w hs=>fS m (by omega) ok hs))) (h:=λ x28 h28=>?_);refine Bu ?_
   refine fH (x12) ?_
   ·trivial
 dsimp only[iC,List.map,List.cons_append,List.nil_append]
 refine Kc8 ?_
 refine bC (λ c36=>?_) (λ c36=>?_)
 ·exact absurd c36 hk
 ·have g0:=h48.1.to (λ _=>if_neg hk)
  have g1:=tN g0 (by rw[hl];rfl)
  rw[hl] at g1
  have g2:=pG g1 hb
  refine Du ?_;refine aP (cV (hc:=λ w1 hw=>fM hh (level:Int) w1)) (λ x91=>?_);refine J1 ?_;refine D9 ?_;refine aP (cV (hc:=λ w1 hw=>K1 (v:=(aC x.L m)) h48.2 hl (ok.sN hw hA m))) (λ x95=>?_);refine aB ?_;refine aD (bR rf rfl) rfl ?_;refine aD (bR rf rfl) rfl ?_;refine J8 ?_;refine jF ?_;refine aE (cM (hs:=xH k bx bm x dn rs) (os:=xW x) (hc:=λ w hs=>fS b (by omega) ok hs)) (λ x100 h100=>?_);refine aL (λ x21=>?_);refine J5 ?_;refine D2 ?_;refine jF ?_
  (refine aF ?_;refine aG ?_)
  refine yb ?_;refine J1 ?_
  refine bC (λ c101=>?_) (λ c101=>?_)
  ·exact absurd c101 hi2
  ·have g3:=(g2.to (λ _=>if_neg hi2)).to (λ _=>if_pos he)
   refine J2 ?_;refine Dg ?_
   (refine aF ?_;refine aG ?_)
   refine ig ?_;((refine aF ?_;refine aD (sr rf rf he) rfl ?_));refine Kb7 ?_
   refine bC (λ c109=>?_) (λ c109=>?_)
   ·refine J0 ?_;refine aP (cV (hc:=λ w1 hw=>gU _ _ w1)) (λ x118=>?_);refine Cg ?_
    refine bD Tryz.results226 (λ w hw=>?_)
    exact⟨(jO false 0,1,x,[]),rfl,⟨g3,ok,by simp,Nat.le_refl _,bL _⟩,hw.aY (hF:=by exact aX.nil)⟩
   ·exact nv c109
set_option maxRecDepth 100000 in
theorem Td(hg:g.Ok)(i m:Int){h:Nat}(hh:h<18446744073709551616)(level:Nat)(hlv:level<=1073741824)(K:Rs->Int->Tr)(ht:k.t.root<=9223372036854775807)(hi:i<=x.L.length)(hm:m<=x.L.length)(hA:∀f∈aN x.L,f∈A)(hk:¬(aC x.L m).nd.kind=6){b:Int}(hl:lI (aC x.L m).c (hU h (level:Int))=some b)(hi2:¬(aC x.L b).nd.kind=2)(he:(aC x.L b).nd.key=k.key)(go:gE g x (kL k i m h level K))(ok:x.Ok)(hs:SF w D (xH k bx bm x dn rs) A [] (xW x) w):Calls prog 226 #[.pointer (some ⟨bx,0,none⟩),.int .i64 i,.int .i64 m,.int .u64 (h:Int),.int .i64 (level:Int)] w (Z2 g x K bx bm k dn rs D w):=by
 have hyl:=rV ok m
 have hlL:=ok.lL
 have h48:gE g x _/\mC x.L.length x.cs.length (aC x.L m).c:=⟨pG go hm,ok.nv m⟩
 have hb:b<=x.L.length:=by have:=pU (ok.nv m) (hU h (level:Int));rw[hl] at this;exact this
 refine enter Tryz.func226 Tryz.ntmps226 rfl rfl (cD hs) ?_
 simp only[cG]
 refine J0 ?_;refine aL (λ x10=>?_);refine iT ?_
 refine eP [12,13,26,27,28,29,30,31,32,33] (λ j:Nat=>[(12,.pointer (some ⟨j,0,none⟩)),(13,.string k.key)]) (λ _=>True) (λ j=>[(j,.cells ⟨(aC x.L m).nd.cells⟩ 47 (0,0)),(x10,.cells ⟨Rs.zero.cells⟩ 64 (0,0)),(bx,xO k bm x dn rs),(bm,xM x)]) (λ _=>[]) (λ _=>xW x) (by decide) (λ _=>by exact rfl) ?_ (λ j f hx=>?_)
 ·refine gK (.one 0 [] (.one 1 [] (.one 3 [] (.one 4 [] (.one 5 [] (.one 6 [] (.one 7 [] (.two 2 [7] (.one 8 [7] (.one 9 [7] (.one 10 [] .nil))) 0 [] (.two 8 [7] (.one 2 [7] (.one 9 [7] (.one 10 [] .nil))) 0 [] .nil))))))))) ?_
  refine iK ?_;refine yJ ?_
  refine gV (E:=[2,8]) (by decide +kernel) ((.cons ?_ (.cons ?_ .nil)))
  ·refine mT (i:=2) (hq:=(cM (hs:=xH k bx bm x dn rs) (os:=xW x) (hc:=λ w hs=>fS m (by omega) ok hs))) (h:=λ x28 h28=>?_)
   refine gW (h:=λ x12=>?_);refine Bu ?_
   refine fH (x12) ?_
   ·trivial
  ·refine gY (i:=8) (h:=λ x12=>?_)
   refine bE (i:=2) (hq:=(cM (hs:=xH k bx bm x dn rs) (os:=xW x) (hc:=λ w hs=>fS m (by omega) ok hs))) (h:=λ x28 h28=>?_);refine Bu ?_
   refine fH (x12) ?_
   ·trivial
 dsimp only[iC,List.map,List.cons_append,List.nil_append]
 refine Kc8 ?_
 refine bC (λ c36=>?_) (λ c36=>?_)
 ·exact absurd c36 hk
 ·have g0:=h48.1.to (λ _=>if_neg hk)
  have g1:=tN g0 (by rw[hl];rfl)
  rw[hl] at g1
  have g2:=pG g1 hb
  refine Du ?_;refine aP (cV (hc:=λ w1 hw=>fM hh (level:Int) w1)) (λ x91=>?_);refine J1 ?_;refine D9 ?_;refine aP (cV (hc:=λ w1 hw=>K1 (v:=(aC x.L m)) h48.2 hl (ok.sN hw hA m))) (λ x95=>?_);refine aB ?_;refine aD (bR rf rfl) rfl ?_;refine aD (bR rf rfl) rfl ?_;refine J8 ?_;refine jF ?_;refine aE (cM (hs:=xH k bx bm x dn rs) (os:=xW x) (hc:=λ w hs=>fS b (by omega) ok hs)) (λ x100 h100=>?_);refine aL (λ x21=>?_);refine J5 ?_;refine D2 ?_;refine jF ?_
  (refine aF ?_;refine aG ?_)
  refine yb ?_;refine J1 ?_
  refine bC (λ c101=>?_) (λ c101=>?_)
  ·exact absurd c101 hi2
  ·have g3:=(g2.to (λ _=>if_neg hi2)).to (λ _=>if_neg (λ h:¬(aC x.L b).nd.key=k.key=>h he))
   refine J2 ?_;refine Dg ?_
   (refine aF ?_;refine aG ?_)
   refine ig ?_;((refine aF ?_;refine aD (oz rf rf he) rfl ?_));refine Kb7 ?_
   refine bC (λ c109=>?_) (λ c109=>?_)
   ·exact nv c109
   ·refine aV ?_;refine gZ [0,1,2,3,4,5,6,7,8,9,10,11,12,13,14,15] ?_;refine yJ ?_;refine aR ?_
    (refine qa 125 (λ g125=>?_) (λ g125=>?_)<;>(first|refine fQ ?_|(refine aW ?_)))
    all_goals ((first|refine fQ ?_|(refine bS ?_));(first|refine fQ ?_|(refine aR ?_));(first|refine fQ ?_|(refine sX ?_));(first|refine fQ ?_|(refine aW ?_));refine J18 ?_;(first|refine fQ ?_|(refine Xi ?_));refine kY ?_;refine J7 ?_)
    all_goals
    refine bC (λ c119=>?_) (λ c119=>?_)
    ·try exact nv c119
     all_goals
      have g4:=g3.to (λ _=>if_pos (show(k.only=true/\(aC x.L b).nd.val≠k.exp) from⟨by assumption,by assumption⟩))
     all_goals (refine iH ?_;refine aP (cV (hc:=λ w1 hw=>gU _ _ w1)) (λ x137=>?_);refine Cg ?_)
     all_goals
      refine bD Tryz.results226 (λ w hw=>?_)
      exact⟨(jO true (aC x.L b).nd.val,1,x,[]),rfl,⟨g4,ok,by simp,Nat.le_refl _,bL _⟩,hw.aY (hF:=by exact aX.nil)⟩
    ·all_goals
      have g4:=g3.to (λ _=>if_neg (show ¬(k.only=true/\(aC x.L b).nd.val≠k.exp) from by rintro ⟨h,h'⟩;simp_all))
     all_goals (refine pF ?_;refine D9 ?_;refine aE (cF (hc:=λ w1 hw=>aBU (v:=(aC x.L m)) h48.2 (hU h (level:Int)) (ok.sN hw hA m))) (λ x141 h141=>?_))
     all_goals
      have hB:=aBG h48.2 (v:=(aC x.L m)) (hU h (level:Int))
     all_goals (refine aB ?_;refine aD (bR rf rfl) rfl ?_;refine aD (bR rf rfl) rfl ?_;refine aL (λ x22=>?_);refine Cg ?_;refine oR ?_;refine aP (cV (hc:=λ w1 hw=>s6 hB (wa h48.2 (hU h (level:Int)) x141) (hw.cl (.new .head)))) (λ x146=>?_))
     all_goals
      have hso:((Ni (N4 (aC x.L m).c (hU h (level:Int)))).getD 0)<=x.L.length:=aBt hB (wa h48.2 (hU h (level:Int)) x141)
      have g5:=pG g4 hso
     all_goals (refine aB ?_;refine aD (bR rf rfl) rfl ?_;refine aD (bR rf rfl) rfl ?_;refine J8 ?_;refine aV ?_;refine eH [(0,[]),(1,[]),(2,[]),(3,[]),(4,[]),(5,[]),(6,[]),(7,[]),(8,[]),(9,[]),(10,[]),(11,[]),(12,[]),(13,[]),(16,[]),(19,[]),(20,[]),(14,[6,10,20]),(15,[6,20]),(17,[6,20]),(18,[20]),(21,[]),(22,[]),(23,[]),(24,[]),(25,[])] ?_;refine iK ?_;refine J9 ?_;refine aW ?_;refine bU (i:=6) (hq:=(aU (k:=2) (vs:=[.int .i64 k.t.root,.bool k.t.ro]) rf cS eT rfl rfl)) (h:=?_);refine iK ?_;refine Ka9 ?_;refine iK ?_;refine iK ?_;refine lK ?_;refine bE (i:=14) (hq:=(cM (hs:=xH k bx bm x dn rs) (os:=xW x) (hc:=λ w hs=>fS ((Ni (N4 (aC x.L m).c (hU h (level:Int)))).getD 0) (by omega) ok hs))) (hfire:=(λ _=>by(refine fA ?_;(repeat (first|exact aK.nil|refine aK.cons (by first|exact fL (hq:=aU (k:=2) (vs:=[.int .i64 k.t.root,.bool k.t.ro]) rf cS eT rfl rfl)|exact eN) ?_));done))) (h:=λ x163 h163=>?_);refine dC (i:=15) (hq:=(cV (hc:=λ w1 hw=>Xe hB (level:Int) (aC x.L ((Ni (N4 (aC x.L m).c (hU h (level:Int)))).getD 0)).nd (hw.cl (.new .head))))) (hfire:=(λ _=>by((repeat (first|exact aK.nil|refine aK.cons (by first|exact fL (hq:=aU (k:=2) (vs:=[.int .i64 k.t.root,.bool k.t.ro]) rf cS eT rfl rfl)|exact eN) ?_));done))) (h:=λ x164=>?_);refine bE (i:=17) (hq:=(cM (hs:=xH k bx bm x dn rs) (os:=xW x) (A0:=[((Ol (Z3 (aC x.L m) (hU h (level:Int))) x141 (level:Int) (aC x.L ((Ni (N4 (aC x.L m).c (hU h (level:Int)))).getD 0)).nd).brA,aH (Yx (Z3 (aC x.L m) (hU h (level:Int))) x141 (level:Int) (aC x.L ((Ni (N4 (aC x.L m).c (hU h (level:Int)))).getD 0)).nd)),((Ol (Z3 (aC x.L m) (hU h (level:Int))) x141 (level:Int) (aC x.L ((Ni (N4 (aC x.L m).c (hU h (level:Int)))).getD 0)).nd).prA,cX [])]) (hA:=wq) (hc:=λ w hs=>gX hg (n:=(Ol (Z3 (aC x.L m) (hU h (level:Int))) x141 (level:Int) (aC x.L ((Ni (N4 (aC x.L m).c (hU h (level:Int)))).getD 0)).nd)) (xs:=(Yx (Z3 (aC x.L m) (hU h (level:Int))) x141 (level:Int) (aC x.L ((Ni (N4 (aC x.L m).c (hU h (level:Int)))).getD 0)).nd)) (ys:=[]) m _ (dq _ _ _) (dy _ _ _) (Wc hB _ _ _) (Nat.zero_le _) (U7 hB _ _ (ok.nv ((Ni (N4 (aC x.L m).c (hU h (level:Int)))).getD 0)).hash) hm (by rw[<- vn,<- aBW h48.2];exact g5) ok hs))) (hfire:=(λ _=>by(refine fA ?_;(repeat (first|exact aK.nil|refine aK.cons (by first|exact fL (hq:=aU (k:=2) (vs:=[.int .i64 k.t.root,.bool k.t.ro]) rf cS eT rfl rfl)|exact eN) ?_));done))) (h:=λ x166 h166=>?_);refine bE (i:=18) (hq:=(cM (hs:=xH k bx bm x166.2.1 dn rs) (os:=xW x166.2.1) (hc:=λ w hs=>tH hg k.t i m x166.1 _ ht (by have:=h166.len;omega) h166.bd h166.go h166.ok hs))) (h:=λ x167 h167=>?_))
     all_goals
      have hch:=Ch.nx h167 (Ch.nx h166 ((Ch.base (F:=[])).cons (f:=(x141.1,aH (mI (Z3 (aC x.L m) (hU h (level:Int))))))))
      have hlc:x.cs.length<=x167.2.1.cs.length:=by have:=h166.lc;have:=h167.lc;omega
     all_goals (refine dC (i:=21) (hq:=(cV (hc:=λ w1 hw=>pS _ _ _ _ w1))) (h:=λ x170=>?_);refine cK (i:=22) (hq:=(bR rf rfl)) (h:=?_);refine cK (i:=23) (hq:=(bR rf rfl)) (h:=?_);refine Bu ?_)
     all_goals
      refine bD Tryz.results226 (λ w hw=>?_)
      obtain⟨N,hN,hf⟩:=hch.to (t':=K (sA true (aC x.L b).nd.val) (if x167.1=true then 1 else 0)) h167 (h167.go) hlc (bL _)
      exact⟨(sA true (aC x.L b).nd.val,(if x167.1=true then 1 else 0),x167.2.1,N),rfl,hN,(hw.eX hf).v4⟩
theorem Tw(hg:g.Ok)(i m:Int){h:Nat}(hh:h<18446744073709551616)(level:Nat)(hlv:level<=1073741824)(K:Rs->Int->Tr)(ht:k.t.root<=9223372036854775807)(hi:i<=x.L.length)(hm:m<=x.L.length)(hA:∀f∈aN x.L,f∈A)(go:gE g x (kL k i m h level K))(ok:x.Ok)(hs:SF w D (xH k bx bm x dn rs) A [] (xW x) w):Calls prog 226 #[.pointer (some ⟨bx,0,none⟩),.int .i64 i,.int .i64 m,.int .u64 (h:Int),.int .i64 (level:Int)] w (Z2 g x K bx bm k dn rs D w):=by
 by_cases hk:(aC x.L m).nd.kind=6
 ·exact Tt hg i m hh level hlv K ht hi hm hA hk go ok hs
 ·cases hl:lI (aC x.L m).c (hU h (level:Int)) with
  | none=>exact Uq hg i m hh level hlv K ht hi hm hA hk hl go ok hs
  | some b =>
   by_cases hi2:(aC x.L b).nd.kind=2
   ·exact S4 hg i m hh level hlv K ht hi hm hA hk hl hi2 go ok hs
   ·by_cases he:(aC x.L b).nd.key=k.key
    ·exact Td hg i m hh level hlv K ht hi hm hA hk hl hi2 he go ok hs
    ·exact Sq hg i m hh level hlv K ht hi hm hA hk hl hi2 he go ok hs
end
end
end Go.Proofs.YtbajmaoegmbfgaaGreat

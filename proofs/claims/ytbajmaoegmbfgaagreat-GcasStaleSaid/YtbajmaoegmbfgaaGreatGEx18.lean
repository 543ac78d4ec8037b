/- Merged. -/
import Derived.Test.YtbajmaoegmbfgaaGreatEx17
import Derived.Test.YtbajmaoegmbfgaaGreatAuto
set_option linter.unusedSimpArgs false
set_option linter.unusedVariables false
namespace Go.Ct
open Go Go.RowKit
section
theorem mL{a b c:List aP}:∀f∈aM ((a++b)++c),f.2=[]∨f∈aM c++(aM b++aM a):=λ f hf=>by
 simp only[dD,List.mem_append] at hf ⊢
 rcases hf with(h|h)|h
 ·exact .inr (.inr (.inr h))
 ·exact .inr (.inr (.inl h))
 ·exact .inr (.inl h)
theorem vM{a b c d:List aP}:∀f∈aM (((a++b)++c)++d),f.2=[]∨f∈aM d++(aM c++(aM b++aM a)):=λ f hf=>by
 simp only[dD,List.mem_append] at hf ⊢
 rcases hf with((h|h)|h)|h
 ·exact .inr (.inr (.inr (.inr h)))
 ·exact .inr (.inr (.inr (.inl h)))
 ·exact .inr (.inr (.inl h))
 ·exact .inr (.inl h)
end
end Go.Ct
namespace Go.Proofs.YtbajmaoegmbfgaaGreat
open Go Go.RowKit Go.Ct
section
section
variable{k:Cl}{bx bm:Nat}{x:XS}{dn:Bool}{rs:Rs}{D:List Nat}{A:Fr}{w:World}{g:Gx}
set_option maxRecDepth 100000 in
theorem aAK(hg:g.Ok){m:Nat}(K:Rs->Tr)(n:Nat)(hn:n<=1073741824)(hm:m<18446744073709551616)(em:k.mask=(m:Int))(ek:k.key.size<=64)(ht:k.t.root<=9223372036854775807)(hA:∀f∈aM x.L,f∈A)(go:gF g x (zU k (mJ k.key m) K n))(ok:x.Ok)(hs:SF w D (xH k bx bm x dn rs) A [] (xW x) w):Calls Tryz.prog 184 #[.pointer (some ⟨bx,0,none⟩)] w λ e w'=>∃q:Rs×XS×List aP,e=.returned (.agg ⟨q.1.cells⟩)/\Nx g x q.2.1 q.2.2 (K q.1) 0/\SF w D (xH k bx bm q.2.1 dn rs) [] (aM q.2.2) (xW q.2.1) w':=by
 refine enter Tryz.func184 Tryz.ntmps184 rfl rfl (cB hs) ?_
 simp only[cC]
 refine J0 ?_;refine aK (λ x2=>?_);refine Qo ?_
 refine eO [3,4,13,14,15,16,17,18,19,20,21,22,23,24,25,26,27,28] (λ j:Nat=>[(3,.pointer (some ⟨j,0,none⟩)),(4,.int .u64 (((mJ k.key m):Nat):Int))]) (λ _=>True) (λ j=>[(j,.cells ⟨[.int .i64 k.t.root,.bool k.t.ro]⟩ 29 (0,0)),(x2,.cells ⟨Rs.zero.cells⟩ 64 (0,0)),(bx,xO k bm x dn rs),(bm,xM x)]) (λ _=>[]) (λ _=>xW x) (by decide) (λ _=>by exact rfl) ?_ (λ j f hx=>?_)
 ·refine gI (.one 0 [] (.one 1 [] (.one 2 [] (.one 3 [] (.one 4 [] (.one 5 [] (.one 6 [] (.one 7 [] (.one 8 [] (.one 9 [] (.one 10 [] (.one 11 [] (.one 12 [] (.one 13 [] (.one 14 [] (.two 15 [4] (.one 16 [4,9,14] (.one 17 [] (.one 18 [] .nil))) 0 [] (.two 16 [4,9,14] (.one 15 [4] (.one 17 [] (.one 18 [] .nil))) 0 [] .nil))))))))))))))))) ?_
  refine J9 ?_;refine aU ?_;refine bV (i:=4) (hq:=(aT (k:=2) (vs:=[.int .i64 k.t.root,.bool k.t.ro]) rf dC eT rfl rfl)) (h:=?_);refine yD ?_;refine yD ?_
  refine gR (E:=[15,16]) (by decide +kernel) ((.cons ?_ (.cons ?_ .nil)))
  ·refine Ki (i:=15) (hq:=(cV (hc:=λ w1 hw=>nS em hm ek w1))) (hfire:=(λ _=>by(refine aJ.cons (by exact fC (hq:=aT (k:=2) (vs:=[.int .i64 k.t.root,.bool k.t.ro]) rf dC eT rfl rfl)) ?_;exact aJ.nil))) (h:=λ x28=>?_)
   refine gU (hfire:=(λ _=>by((repeat (first|exact aJ.nil|refine aJ.cons (by first|exact fC (hq:=aT (k:=2) (vs:=[.int .i64 k.t.root,.bool k.t.ro]) rf dC eT rfl rfl)|exact eG) ?_));done))) (h:=λ x3=>?_);refine Bw ?_
   refine fH (x3) ?_
   ·trivial
  ·refine gW (i:=16) (hfire:=(λ _=>by((repeat (first|exact aJ.nil|refine aJ.cons (by first|exact fC (hq:=aT (k:=2) (vs:=[.int .i64 k.t.root,.bool k.t.ro]) rf dC eT rfl rfl)|exact eG) ?_));done))) (h:=λ x3=>?_)
   refine cR (i:=15) (hq:=(cV (hc:=λ w1 hw=>nS em hm ek w1))) (hfire:=(λ _=>by(refine aJ.cons (by exact fC (hq:=aT (k:=2) (vs:=[.int .i64 k.t.root,.bool k.t.ro]) rf dC eT rfl rfl)) ?_;exact aJ.nil))) (h:=λ x28=>?_);refine Bw ?_
   refine fH (x3) ?_
   ·trivial
 dsimp only[hY,List.map,List.cons_append,List.nil_append]
 refine Cw ?_
 refine nT [5,6,7,8,9,10,11,12,29,30,31,32,33,34,35,36,37,38,39,40,41,42,43,44,45,46,47,48,49,50,51,52,53,54,55,56,57,58,59,60,61,62,63,64,65,66,67,68,69,70,71,72,73,74,75,76,77,78,79,80,81,82,83,84,85,86,87,88,89,90,91,92,93,94,95,96,97,98,99,100,101] (λ y:Nat×XS×List aP=>[]) (λ y=>y.1<=n/\Nx g x y.2.1 y.2.2 (zU k (mJ k.key m) K y.1) 0) (λ y=>[(j,.cells ⟨[.int .i64 k.t.root,.bool k.t.ro]⟩ 29 (0,0)),(x2,.cells ⟨Rs.zero.cells⟩ 64 (0,0)),(bx,xO k bm y.2.1 dn rs),(bm,xM y.2.1)]) (λ y=>aM y.2.2) (λ y=>xW y.2.1) (λ y=>y.1) ((n,x,[])) (⟨Nat.le_refl n,Nx.start go ok |>.cH go (bK _)⟩) (λ y f hx=>?_) (hw0:=λ w hw=>hw)
 dsimp only[hY,List.map,List.cons_append,List.nil_append]
 obtain⟨hyn,hy⟩:=hx
 refine aV ?_;refine mD ?_;refine oV ?_
 refine bC (λ c33=>?_) (λ c33=>?_)
 ·obtain⟨fu,hfu,gx⟩:=gF.kD (T:=λ q=>zU k (mJ k.key m) K q) hy.go (by simpa using c33) rfl hg
  refine aZ ?_;refine cS ?_;refine Kb3 ?_;refine aD (cM (hs:=xH k bx bm y.2.1 dn rs) (os:=xW y.2.1) (hc:=λ w hs=>Bf hg k.t _ ht gx hy.ok hs)) (λ x36 h36=>?_);refine zS ?_;refine aD (cM (hs:=xH k bx bm x36.2.1 dn rs) (os:=xW x36.2.1) (hc:=λ w hs=>cG x36.1 _ h36.bd h36.go h36.ok hs)) (λ x39 h39=>?_);refine cE ?_;refine J1 ?_;refine cX ?_;refine Ex ?_
  refine nT [5,7,8,9,10,11,12,41,42,43,44,45,46,47,48,49,50,51,52,53,54,55,56,57,58,59,60,61,62,63,64,65,66,67,68,69,70,71,72,73,74,75,76,77,78,79,80,81,82,83,84,85,86,87,88,89,90,91,92,93,94,95,96,97,98,99,100,101] (λ z:Nat×Int×Int×XS×List aP=>[(5,.int .i64 z.2.1),(7,.int .i64 z.2.2.1),(8,.int .i64 (((fu-z.1):Nat):Int))]) (λ z=>z.1<=fu/\Nx g x z.2.2.2.1 z.2.2.2.2 (C3 k (mJ k.key m) K (zU k (mJ k.key m) K fu) (aB x36.2.1.L x36.1).nd.gen z.1 z.2.1 z.2.2.1 (fu-z.1)) z.2.1/\z.2.2.1<=z.2.2.2.1.L.length) (λ z=>[(j,.cells ⟨[.int .i64 k.t.root,.bool k.t.ro]⟩ 29 (0,0)),(x2,.cells ⟨Rs.zero.cells⟩ 64 (0,0)),(bx,xO k bm z.2.2.2.1 dn rs),(bm,xM z.2.2.2.1)]) (λ z=>aM z.2.2.2.2) (λ z=>xW z.2.2.2.1) (λ z=>z.1) ((fu,x36.1,0,x36.2.1,y.2.2++x36.2.2)) (⟨Nat.le_refl fu,(hy.trans h36).cH (show gF g x36.2.1 (C3 k (mJ k.key m) K (zU k (mJ k.key m) K fu) (aB x36.2.1.L x36.1).nd.gen fu x36.1 0 (fu-fu)) from(Nat.sub_self fu).symm▸h39.1) h36.bd,bK _⟩) (λ z f hx=>?_) (hw0:=λ w hw=>(hw.eW nG).v6)
  dsimp only[hY,List.map,List.cons_append,List.nil_append]
  obtain⟨hzf,hz,hzp⟩:=hx
  refine aV ?_;refine mD ?_;refine oV ?_
  refine bC (λ c45=>?_) (λ c45=>?_)
  ·obtain⟨fu2,hfu2,gz⟩:=gF.kD (T:=λ q=>(C3 k (mJ k.key m) K (zU k (mJ k.key m) K fu) (aB x36.2.1.L x36.1).nd.gen q z.2.1 z.2.2.1 (fu-z.1))) hz.go (by simpa using c45) rfl hg
   refine rX ?_;refine Kb3 ?_;refine aA ?_;refine aD (cM (hs:=xH k bx bm z.2.2.2.1 dn rs) (os:=xW z.2.2.2.1) (hc:=λ w hs=>oY hg k.t z.2.1 _ ht hz.bd gz hz.ok hs)) (λ x51 h51=>?_)
   have hl51:=h51.len
   have hb51:=h51.bd
   have hbz:=hz.bd
   have hch:=Ch.nx h51 hz.ch
   refine jF ?_;refine Kc1 ?_
   refine bC (λ c55=>?_) (λ c55=>?_)
   ·refine Xx ?_
    refine iS (by exact(fu,x51.2.1,(z.2.2.2.2++x51.2.2))) ?_ (hw1:=λ w hw=>by exact(hw.eW nG).v6)
    ·first
     | exact⟨by show fu<=n;omega,(((hz.trans h51).trans h76).trans h97).cH g4 (bK _)⟩
     | exact⟨by show fu<=n;omega,((hz.trans h51).trans h76).cH g3 (bK _)⟩
     | exact⟨by show fu<=n;omega,((hz.trans h51).trans h68).cH h68.go (bK _)⟩
     | exact⟨by show fu<=n;omega,(hz.trans h51).cH (h51.go.bX (by assumption)) (bK _)⟩
     | exact⟨by show fu<=n;omega,hz.cH (hz.go.bX (by simpa using c45)) (bK _)⟩
   ·refine kW ?_;refine jG ?_;refine aD (cM (hs:=xH k bx bm x51.2.1 dn rs) (os:=xW x51.2.1) (hc:=λ w hs=>cG x51.1 _ h51.bd h51.go h51.ok hs)) (λ x58 h58=>?_);refine cE ?_;refine uI ?_
    refine bC (λ c60=>?_) (λ c60=>?_)
    ·have g1:=h58.1.to (λ _=>if_pos c60)
     refine Kb3 ?_;refine pK ?_;refine pK ?_;refine rD ?_;refine aD (cM (hs:=xH k bx bm x51.2.1 dn rs) (os:=xW x51.2.1) (A0:=aM x51.2.1.L) (hA:=Ch.all hch hA) (hc:=λ w hs=>Mo hg k.t z.2.2.1 z.2.1 (tT k.key m) ((((fu-z.1):Nat):Int)-1) _ ht (by omega) (by omega) (λ f hf=>hf) g1 h51.ok hs)) (λ x68 h68=>?_);refine aH ?_;refine Xx ?_
     refine iS (by exact(fu,x68.2.1,((z.2.2.2.2++x51.2.2)++x68.2.2))) ?_ (hw1:=λ w hw=>by exact(hw.eW mL).v6)
     ·first
      | exact⟨by show fu<=n;omega,(((hz.trans h51).trans h76).trans h97).cH g4 (bK _)⟩
      | exact⟨by show fu<=n;omega,((hz.trans h51).trans h76).cH g3 (bK _)⟩
      | exact⟨by show fu<=n;omega,((hz.trans h51).trans h68).cH h68.go (bK _)⟩
      | exact⟨by show fu<=n;omega,(hz.trans h51).cH (h51.go.bX (by assumption)) (bK _)⟩
      | exact⟨by show fu<=n;omega,hz.cH (hz.go.bX (by simpa using c45)) (bK _)⟩
    ·have g1:=h58.1.to (λ _=>if_neg c60)
     refine Dc ?_;refine pK ?_;refine pK ?_;refine aD (cM (hs:=xH k bx bm x51.2.1 dn rs) (os:=xW x51.2.1) (A0:=aM x51.2.1.L) (hA:=Ch.all hch hA) (hc:=λ w hs=>X3 hg z.2.1 x51.1 (tT k.key m) (fu-z.1) (by omega) (aB x36.2.1.L x36.1).nd.gen _ ht (by omega) (by omega) (λ f hf=>hf) g1 h51.ok hs)) (λ x76 h76=>?_)
     have hl76:=h76.len
     have hch2:=Ch.nx h76 hch
     refine aA ?_;refine aC (bO rf rfl) rfl ?_;refine aC (bO rf rfl) rfl ?_;refine aK (λ x10=>?_);refine kQ (λ _=>?_);refine jF ?_;refine mD ?_;refine aA ?_
     (refine eJ 83 (λ g83=>?_) (λ g83=>?_)<;>refine Ka0 ?_)
     all_goals (refine wX ?_;refine aH ?_)
     all_goals
     refine bC (λ c86=>?_) (λ c86=>?_)
     ·all_goals (refine nI ?_;refine J5 ?_)
      all_goals
       refine bE Tryz.results184 (λ w hw=>?_)
       exact⟨(x76.1,x76.2.2.1,((z.2.2.2.2++x51.2.2)++x76.2.2.2)),rfl,((hz.trans h51).trans h76).cH (by first|exact h76.go.bX (by assumption)|exact h76.go.to (λ _=>if_pos (by assumption))) (bK _),(hw.eW mL).v4⟩
     ·try exact nv c86
      all_goals
       have g2:=h76.go.to (λ _=>if_neg (by assumption))
      all_goals (refine kW ?_;refine J2 ?_;refine uI ?_)
      all_goals
       refine bC (λ c89=>?_) (λ c89=>?_)
       ·have g3:=g2.to (λ _=>if_pos (by assumption))
        refine Xx ?_
        refine iS (by exact(fu,x76.2.2.1,((z.2.2.2.2++x51.2.2)++x76.2.2.2))) ?_ (hw1:=λ w hw=>by exact(hw.eW mL).v6)
        ·first
         | exact⟨by show fu<=n;omega,(((hz.trans h51).trans h76).trans h97).cH g4 (bK _)⟩
         | exact⟨by show fu<=n;omega,((hz.trans h51).trans h76).cH g3 (bK _)⟩
         | exact⟨by show fu<=n;omega,((hz.trans h51).trans h68).cH h68.go (bK _)⟩
         | exact⟨by show fu<=n;omega,(hz.trans h51).cH (h51.go.bX (by assumption)) (bK _)⟩
         | exact⟨by show fu<=n;omega,hz.cH (hz.go.bX (by simpa using c45)) (bK _)⟩
       ·have g3:=g2.to (λ _=>if_neg (by assumption))
        refine Dc ?_;refine pK ?_;refine aA ?_;refine aQ (cV (hc:=λ w1 hw=>fJ (tT k.key m) (((fu-z.1):Nat):Int) w1)) (λ x95=>?_);refine aA ?_;refine aD (cM (hs:=xH k bx bm x76.2.2.1 dn rs) (os:=xW x76.2.2.1) (A0:=aM x76.2.2.1.L) (hA:=Ch.all hch2 hA) (hc:=λ w hs=>U2 hg z.2.1 x51.1 (gY (mJ k.key m) (((fu-z.1):Nat):Int)) (aB x36.2.1.L x36.1).nd.gen _ ht (by omega) (by omega) (λ f hf=>hf) g3 h76.ok hs)) (λ x97 h97=>?_);refine jF ?_;refine J2 ?_;refine uI ?_
        refine bC (λ c99=>?_) (λ c99=>?_)
        ·have g4:=h97.go.to (λ _=>if_pos (by assumption))
         refine Xx ?_
         refine iS (by exact(fu,x97.2.1,(((z.2.2.2.2++x51.2.2)++x76.2.2.2)++x97.2.2))) ?_ (hw1:=λ w hw=>by exact(hw.eW vM).v6)
         ·first
          | exact⟨by show fu<=n;omega,(((hz.trans h51).trans h76).trans h97).cH g4 (bK _)⟩
          | exact⟨by show fu<=n;omega,((hz.trans h51).trans h76).cH g3 (bK _)⟩
          | exact⟨by show fu<=n;omega,((hz.trans h51).trans h68).cH h68.go (bK _)⟩
          | exact⟨by show fu<=n;omega,(hz.trans h51).cH (h51.go.bX (by assumption)) (bK _)⟩
          | exact⟨by show fu<=n;omega,hz.cH (hz.go.bX (by simpa using c45)) (bK _)⟩
        ·have g4:=h97.go.to (λ _=>if_neg (by assumption))
         refine aZ ?_;refine Iz ?_;refine J8 ?_;refine Kb2 ?_
         refine iS ((z.1-1,x97.1,z.2.1,x97.2.1,(((z.2.2.2.2++x51.2.2)++x76.2.2.2)++x97.2.2))) ?_ (hw1:=λ w hw=>(hw.eW vM).v6)
         ·have e1:z.1-1=fu2:=by omega
          have e2:(fu-z.1)+1=fu-fu2:=by omega
          refine⟨by show z.1-1<=fu;omega,((((hz.trans h51).trans h76).trans h97)).cH ?_ h97.bd,by show z.2.1<=(x97.2.1.L.length:Int);have:=h97.len;omega⟩
          show gF g x97.2.1 (C3 k (mJ k.key m) K (zU k (mJ k.key m) K fu) (aB x36.2.1.L x36.1).nd.gen (z.1-1) x97.1 z.2.1 (fu-(z.1-1)))
          rw[e1,<- e2]
          exact g4
  ·refine Xx ?_
   refine iS (by exact(fu,z.2.2.2.1,z.2.2.2.2)) ?_ (hw1:=λ w hw=>by exact hw.v6)
   ·first
    | exact⟨by show fu<=n;omega,(((hz.trans h51).trans h76).trans h97).cH g4 (bK _)⟩
    | exact⟨by show fu<=n;omega,((hz.trans h51).trans h76).cH g3 (bK _)⟩
    | exact⟨by show fu<=n;omega,((hz.trans h51).trans h68).cH h68.go (bK _)⟩
    | exact⟨by show fu<=n;omega,(hz.trans h51).cH (h51.go.bX (by assumption)) (bK _)⟩
    | exact⟨by show fu<=n;omega,hz.cH (hz.go.bX (by simpa using c45)) (bK _)⟩
 ·refine bP rfl ?_;refine Kb8 ?_
  refine bE Tryz.results184 (λ w hw=>?_)
  exact⟨(Rs.zero,y.2.1,y.2.2),rfl,hy.cH (hy.go.bX (by simpa using c33)) (bK _),hw.v4⟩
end
end
end Go.Proofs.YtbajmaoegmbfgaaGreat
namespace Go.Ct
open Go Go.RowKit
section
variable{P:Program}{n:Nat}{Q:Exit->Act->World->Prop}{ks:List CK}{ops:Array Oper}{l:List Oper}{S:List (Nat×Value)}{G:World->Prop}
theorem Qk{d:Nat}{op:Op}{ty:TypeId}{pos:String}{af:Array Edge}{j:Nat}{want:Bool}{g:Nat}(hd:Nat.blt d n=true)
  (hj:(ops[j]?).bind (·.dst)=some g) (hg:look S g=undef)
  (h:JL P n Q ks ops l ((d,undef)::S) G):JL P n Q ks ops (⟨some d,op,ty,pos,af,some (j,want)⟩::l) S G:=⟨λ hS w hw=>by
 have hy:yielded ops (dW n S) j=none:=by
  have e:=congrFun (jA (ds:=[]) hS) (.tmp g)
  simp only[Act.eval,ev,hg] at e
  unfold yielded
  rw[hj]
  simp only[Option.bind_some]
  rw[Array.getD_eq_getD_getElem?] at e
  cases h2:(dW n S)[g]? with
  | none=>rfl
  | some u=>rw[h2] at e;simp[undef] at e;subst e;rfl
 refine wpList_step λ K hK=>?_
 have hw':Region.wanted ⟨some d,op,ty,pos,af,some (j,want)⟩ (yielded ops (dW n S))=false:=by
  simp only[Region.wanted,hy]
  rfl
 simp only[hw',Bool.false_eq_true,if_false,Cj]
 exact hK _ _ (h.run (hS.cons hd) w hw)⟩
end
end Go.Ct
namespace Go.Proofs.YtbajmaoegmbfgaaGreat
open Go.RowKit Go.Ct
section
theorem A2{n:Nat}{Q:Exit->Act->World->Prop}{ks:List CK}{ops:Array Oper}{l:List Oper}{S:List (Nat×Value)}{G:World->Prop}{d j g:Nat}{op:Op}{ty:TypeId}{pos:String}{af:Array Edge}{want:Bool}(h:JL Tryz.prog n Q ks ops l ((d,undef)::S) G)(hd:Nat.blt d n=true:=by exact rfl)(hj:(ops[j]?).bind (·.dst)=some g:=by exact rfl)(hg:Ct.look S g=undef:=by exact rfl):JL Tryz.prog n Q ks ops (⟨some d,op,ty,pos,af,some (j,want)⟩::l) S G:=Qk hd hj hg h
end
end Go.Proofs.YtbajmaoegmbfgaaGreat
namespace Go.Ct
open Go Go.RowKit
section
theorem pD{g:Gx}{x:XS}{r:Int}{K:Nv->Tr}(h:gF g x (.node r K))(hr:r<=x.L.length):gF g x (K (aB x.L r).c):=by
 have:=h.node hr
 rwa [show aS x.nodes r=(aB x.L r).c from(rA x.L r).symm] at this
section
variable{P:Program}{S:List (Nat×Value)}{G:World->Prop}{d:Nat}{ty t t':TypeId}{pos:String}{af:Array Edge}{gd:Option (Nat×Bool)}{x y:Operand}{a b:ByteArray}
theorem sr(hx:ev S x=.string a)(hy:ev S y=.string b)(h:¬a=b):aL P S G ⟨some d,.binOp .neq t x y t',ty,pos,af,gd⟩ (.bool true):=by
 have:=Hp (P:=P) (G:=G) (d:=d) (ty:=ty) (pos:=pos) (af:=af) (gd:=gd) (t:=t) (t':=t') hx hy
 rwa [bne,uu h] at this
theorem qc(hx:ev S x=.string a)(hy:ev S y=.string b)(h:a=b):aL P S G ⟨some d,.binOp .neq t x y t',ty,pos,af,gd⟩ (.bool false):=by
 have:=Hp (P:=P) (G:=G) (d:=d) (ty:=ty) (pos:=pos) (af:=af) (gd:=gd) (t:=t) (t':=t') hx hy
 rwa [bne,ve h] at this
end
end
end Go.Ct
namespace Go.Proofs.YtbajmaoegmbfgaaGreat
open Go.Proofs.Tryz (prog)
open Go Go.RowKit Go.Ct
section
theorem ra{m:Nat}{o:Option (Nat×List Int)}{w:World}(h:vV m o){x:Option Addr×Nat}{r:Nv}(e:r=(mY o x).c (mP o) [])(hc:Go.Ct.Cl w x.1 (aG (mP o))):Calls prog 245 #[(mY o x).v] w λ e w'=>e=.returned (.tuple #[.int .i64 ((Lr r).getD 0),.bool (Lr r).isSome])/\St w [] [] w':=by
 obtain⟨b,h1,h2⟩:=P3 h x
 have:=K1 (n:=mY o x) h1 h2 (P8 h hc)
 rw[xv,<- e] at this
 exact this
theorem aBB{m:Nat}{o:Option (Nat×List Int)}(h:vV m o){x:Option Addr×Nat}{r:Nv}(e:r=(mY o x).c (mP o) []):(Lr r).getD 0<=m:=by
 rw[e,<- xv]
 unfold Zt
 split
 ·refine mM (λ v hv=>?_) 0
  cases o with
  | none=>exact(List.not_mem_nil hv).elim
  | some q=>exact(h.out q rfl).2.2 v hv
 ·exact bK _
section
variable{k:Cl}{bx bm:Nat}{x:XS}{dn:Bool}{rs:Rs}{D:List Nat}{A:Fr}{w:World}{g:Gx}
set_option maxRecDepth 100000 in
theorem R8(hg:g.Ok)(i m:Int){h:Nat}(hh:h<18446744073709551616)(level:Nat)(hlv:level<=1073741824)(K:Rs->Int->Tr)(ht:k.t.root<=9223372036854775807)(hi:i<=x.L.length)(hm:m<=x.L.length)(hA:∀f∈aM x.L,f∈A)(hk:(aB x.L m).nd.kind=6)(go:gF g x (kO k i m h level K))(ok:x.Ok)(hs:SF w D (xH k bx bm x dn rs) A [] (xW x) w):Calls prog 226 #[.pointer (some ⟨bx,0,none⟩),.int .i64 i,.int .i64 m,.int .u64 (h:Int),.int .i64 (level:Int)] w (Zq g x K bx bm k dn rs D w):=by
 have hyl:=rK ok m
 have hlL:=ok.lL
 have h48:gF g x _/\lX x.L.length x.cs.length (aB x.L m).c:=⟨pD go hm,ok.nv m⟩
 refine enter Tryz.func226 Tryz.ntmps226 rfl rfl (cB hs) ?_
 simp only[cC]
 refine J0 ?_;refine aK (λ x10=>?_);refine jF ?_
 refine eO [12,13,26,27,28,29,30,31,32,33] (λ j:Nat=>[(12,.pointer (some ⟨j,0,none⟩)),(13,.string k.key)]) (λ _=>True) (λ j=>[(j,.cells ⟨(aB x.L m).nd.cells⟩ 47 (0,0)),(x10,.cells ⟨Rs.zero.cells⟩ 64 (0,0)),(bx,xO k bm x dn rs),(bm,xM x)]) (λ _=>[]) (λ _=>xW x) (by decide) (λ _=>by exact rfl) ?_ (λ j f hx=>?_)
 ·refine gI (.one 0 [] (.one 1 [] (.one 3 [] (.one 4 [] (.one 5 [] (.one 6 [] (.one 7 [] (.two 2 [7] (.one 8 [7] (.one 9 [7] (.one 10 [] .nil))) 0 [] (.two 8 [7] (.one 2 [7] (.one 9 [7] (.one 10 [] .nil))) 0 [] .nil))))))))) ?_
  refine iL ?_;refine yD ?_
  refine gR (E:=[2,8]) (by decide +kernel) ((.cons ?_ (.cons ?_ .nil)))
  ·refine mN (i:=2) (hq:=(cM (hs:=xH k bx bm x dn rs) (os:=xW x) (hc:=λ w hs=>fO m (by omega) ok hs))) (h:=λ x28 h28=>?_)
   refine gU (h:=λ x12=>?_);refine Bw ?_
   refine fH (x12) ?_
   ·trivial
  ·refine gW (i:=8) (h:=λ x12=>?_)
   refine bB (i:=2) (hq:=(cM (hs:=xH k bx bm x dn rs) (os:=xW x) (hc:=λ w hs=>fO m (by omega) ok hs))) (h:=λ x28 h28=>?_);refine Bw ?_
   refine fH (x12) ?_
   ·trivial
 dsimp only[hY,List.map,List.cons_append,List.nil_append]
 refine Kc7 ?_
 refine bC (λ c36=>?_) (λ c36=>?_)
 ·have g1:=h48.1.to (λ _=>if_pos hk)
  refine Kb9 ?_;refine aQ (cV (hc:=λ w1 hw=>M2 (v:=(aB x.L m)) (n:=0) k.key (ok.sA hw hA m) (ok.ysl m))) (λ x41=>?_);refine aA ?_;refine aC (bO rf rfl) rfl ?_;refine aC (bO rf rfl) rfl ?_;refine Kb1 ?_;refine Dg ?_
  (refine eJ 46 (λ g46=>?_) (λ g46=>?_)<;>refine Ka0 ?_)
  all_goals (refine Kb4 ?_;refine Ka1 ?_;refine Ka1 ?_;refine Ka2 ?_;refine Ka0 ?_)
  all_goals (first|refine A2 ?_|(refine eJ 52 (λ g52=>?_) (λ g52=>?_)<;>refine Ka0 ?_))
  all_goals ((first|refine aI ?_|refine A2 ?_|(refine Ka3 ?_));(first|refine aI ?_|refine A2 ?_|(refine aE ?_;refine dF ?_));(first|refine aI ?_|refine A2 ?_|(refine aE ?_;refine aF ?_));(first|refine aI ?_|refine A2 ?_|(refine aE ?_;refine aF ?_));(first|refine aI ?_|refine A2 ?_|(refine aE ?_;refine bR ?_));(first|refine aI ?_|refine A2 ?_|(refine aE ?_;refine nD ?_));(first|refine aI ?_|(refine aE ?_;refine cD ?_));refine cD ?_;refine aH ?_)
  all_goals
  refine bC (λ c61=>?_) (λ c61=>?_)
  ·try exact nv c61
   all_goals
    have g2:=g1.to (λ _=>if_pos (show((dV (aB x.L m).c.ys k.key).isSome=false∨(k.only=true/\(dV (aB x.L m).c.ys k.key).getD 0≠k.exp)) from by first|exact Or.inl (by assumption)|exact Or.inr ⟨by assumption,by assumption⟩))
   all_goals (refine jG ?_;refine aQ (cV (hc:=λ w1 hw=>gQ _ _ w1)) (λ x64=>?_);refine Br ?_)
   all_goals
    refine bE Tryz.results226 (λ w hw=>?_)
    exact⟨(jN (dV (aB x.L m).c.ys k.key).isSome ((dV (aB x.L m).c.ys k.key).getD 0),1,x,[]),rfl,⟨g2,ok,by simp,Nat.le_refl _,bK _⟩,hw.aX (hF:=by exact aY.nil)⟩
  ·try exact nv c61
   all_goals
    have g2:=g1.to (λ _=>if_neg (show ¬((dV (aB x.L m).c.ys k.key).isSome=false∨(k.only=true/\(dV (aB x.L m).c.ys k.key).getD 0≠k.exp)) from by rintro (h|⟨h,h'⟩)<;>simp_all))
   all_goals (refine aZ ?_;refine Dn ?_;refine aD (cF (hc:=λ w1 hw=>aCf (v:=(aB x.L m)) h48.2 k.key (ok.sA hw hA m) (by omega))) (λ x68 h68=>?_);refine aA ?_;refine aC (bO rf rfl) rfl ?_;refine aC (bO rf rfl) rfl ?_;refine aK (λ x16=>?_);refine kQ (λ _=>?_);refine jF ?_;refine eC [(0,[]),(1,[]),(2,[]),(3,[]),(4,[]),(5,[]),(6,[]),(7,[]),(8,[]),(9,[]),(10,[]),(11,[]),(14,[]),(12,[6]),(13,[]),(15,[]),(16,[]),(17,[]),(18,[]),(19,[])] ?_;refine iL ?_;refine J9 ?_;refine aU ?_;refine bV (i:=6) (hq:=(aT (k:=2) (vs:=[.int .i64 k.t.root,.bool k.t.ro]) rf dC eT rfl rfl)) (h:=?_);refine iL ?_;refine aN ?_;refine Ka9 ?_;refine bB (i:=12) (hq:=(cM (hs:=xH k bx bm x dn rs) (os:=xW x) (A0:=[((N4 (qC (aB x.L m).nd (aB x.L m).xs (aB x.L m).ys k.key) (aB x.L m).nd.hash x68).brA,aG []),((N4 (qC (aB x.L m).nd (aB x.L m).xs (aB x.L m).ys k.key) (aB x.L m).nd.hash x68).prA,cY (Ij (qC (aB x.L m).nd (aB x.L m).xs (aB x.L m).ys k.key)))]) (hA:=aA7) (hc:=λ w hs=>gV hg (n:=N4 (qC (aB x.L m).nd (aB x.L m).xs (aB x.L m).ys k.key) (aB x.L m).nd.hash x68) (xs:=[]) (ys:=Ij (qC (aB x.L m).nd (aB x.L m).xs (aB x.L m).ys k.key)) m _ (cu _ _ _).1 (cu _ _ _).2 (by decide) (by have:=aAt (aB x.L m).xs (aB x.L m).ys (aB x.L m).nd k.key;omega) (y5 _ h48.2.hash) hm (by rw[aCA];exact g2) ok hs))) (hfire:=(λ _=>by(refine eY ?_;refine aJ.cons (by exact fC (hq:=aT (k:=2) (vs:=[.int .i64 k.t.root,.bool k.t.ro]) rf dC eT rfl rfl)) ?_;exact aJ.nil))) (h:=λ x83 h83=>?_);refine bB (i:=13) (hq:=(cM (hs:=xH k bx bm x83.2.1 dn rs) (os:=xW x83.2.1) (hc:=λ w hs=>tB hg k.t i m x83.1 _ ht (by have:=h83.len;omega) h83.bd h83.go h83.ok hs))) (h:=λ x84 h84=>?_))
   all_goals
    have hch:=Ch.nx h84 (Ch.nx h83 ((Ch.base (F:=[])).cons (f:=(x68.1,cY (Ij (qC (aB x.L m).nd (aB x.L m).xs (aB x.L m).ys k.key))))))
    have hlc:x.cs.length<=x84.2.1.cs.length:=by have:=h83.lc;have:=h84.lc;omega
   all_goals (refine cR (i:=15) (hq:=(cV (hc:=λ w1 hw=>pL _ _ _ _ w1))) (h:=λ x86=>?_);refine cJ (i:=16) (hq:=(bO rf rfl)) (h:=?_);refine cJ (i:=17) (hq:=(bO rf rfl)) (h:=?_);refine Bw ?_)
   all_goals
    refine bE Tryz.results226 (λ w hw=>?_)
    obtain⟨N,hN,hf⟩:=hch.to (t':=K (sN true ((dV (aB x.L m).c.ys k.key).getD 0)) (if x84.1=true then 1 else 0)) h84 (h84.go) hlc (bK _)
    exact⟨(sN true ((dV (aB x.L m).c.ys k.key).getD 0),(if x84.1=true then 1 else 0),x84.2.1,N),rfl,hN,(hw.eW hf).v4⟩
 ·exact absurd hk c36
set_option maxRecDepth 100000 in
theorem Ut(hg:g.Ok)(i m:Int){h:Nat}(hh:h<18446744073709551616)(level:Nat)(hlv:level<=1073741824)(K:Rs->Int->Tr)(ht:k.t.root<=9223372036854775807)(hi:i<=x.L.length)(hm:m<=x.L.length)(hA:∀f∈aM x.L,f∈A)(hk:¬(aB x.L m).nd.kind=6)(hl:lA (aB x.L m).c (gY h (level:Int))=none)(go:gF g x (kO k i m h level K))(ok:x.Ok)(hs:SF w D (xH k bx bm x dn rs) A [] (xW x) w):Calls prog 226 #[.pointer (some ⟨bx,0,none⟩),.int .i64 i,.int .i64 m,.int .u64 (h:Int),.int .i64 (level:Int)] w (Zq g x K bx bm k dn rs D w):=by
 have hyl:=rK ok m
 have hlL:=ok.lL
 have h48:gF g x _/\lX x.L.length x.cs.length (aB x.L m).c:=⟨pD go hm,ok.nv m⟩
 refine enter Tryz.func226 Tryz.ntmps226 rfl rfl (cB hs) ?_
 simp only[cC]
 refine J0 ?_;refine aK (λ x10=>?_);refine jF ?_
 refine eO [12,13,26,27,28,29,30,31,32,33] (λ j:Nat=>[(12,.pointer (some ⟨j,0,none⟩)),(13,.string k.key)]) (λ _=>True) (λ j=>[(j,.cells ⟨(aB x.L m).nd.cells⟩ 47 (0,0)),(x10,.cells ⟨Rs.zero.cells⟩ 64 (0,0)),(bx,xO k bm x dn rs),(bm,xM x)]) (λ _=>[]) (λ _=>xW x) (by decide) (λ _=>by exact rfl) ?_ (λ j f hx=>?_)
 ·refine gI (.one 0 [] (.one 1 [] (.one 3 [] (.one 4 [] (.one 5 [] (.one 6 [] (.one 7 [] (.two 2 [7] (.one 8 [7] (.one 9 [7] (.one 10 [] .nil))) 0 [] (.two 8 [7] (.one 2 [7] (.one 9 [7] (.one 10 [] .nil))) 0 [] .nil))))))))) ?_
  refine iL ?_;refine yD ?_
  refine gR (E:=[2,8]) (by decide +kernel) ((.cons ?_ (.cons ?_ .nil)))
  ·refine mN (i:=2) (hq:=(cM (hs:=xH k bx bm x dn rs) (os:=xW x) (hc:=λ w hs=>fO m (by omega) ok hs))) (h:=λ x28 h28=>?_)
   refine gU (h:=λ x12=>?_);refine Bw ?_
   refine fH (x12) ?_
   ·trivial
  ·refine gW (i:=8) (h:=λ x12=>?_)
   refine bB (i:=2) (hq:=(cM (hs:=xH k bx bm x dn rs) (os:=xW x) (hc:=λ w hs=>fO m (by omega) ok hs))) (h:=λ x28 h28=>?_);refine Bw ?_
   refine fH (x12) ?_
   ·trivial
 dsimp only[hY,List.map,List.cons_append,List.nil_append]
 refine Kc7 ?_
 refine bC (λ c36=>?_) (λ c36=>?_)
 ·exact absurd c36 hk
 ·have g0:=h48.1.to (λ _=>if_neg hk)
  have g1:=M5 g0 (by rw[hl];rfl)
  refine Dc ?_;refine aQ (cV (hc:=λ w1 hw=>fJ hh (level:Int) w1)) (λ x91=>?_);refine J1 ?_;refine Dn ?_;refine aQ (cV (hc:=λ w1 hw=>ux (v:=(aB x.L m)) h48.2 hl (ok.sA hw hA m))) (λ x95=>?_);refine aA ?_;refine aC (bO rf rfl) rfl ?_;refine aC (bO rf rfl) rfl ?_;refine J8 ?_;refine jG ?_;refine aD (cM (hs:=xH k bx bm x dn rs) (os:=xW x) (hc:=λ w hs=>fO 0 (by decide) ok hs)) (λ x100 h100=>?_);refine aK (λ x21=>?_);refine J5 ?_;refine Cw ?_;refine jG ?_
  refine aI ?_
  refine J78 ?_;refine J1 ?_
  refine bC (λ c101=>?_) (λ c101=>?_)
  ·exact nv c101
  ·refine J2 ?_;refine Dg ?_
   refine aI ?_
   refine db ?_;(refine aI ?_);refine Kb7 ?_
   refine bC (λ c109=>?_) (λ c109=>?_)
   ·refine J0 ?_;refine aQ (cV (hc:=λ w1 hw=>gQ _ _ w1)) (λ x118=>?_);refine Br ?_
    refine bE Tryz.results226 (λ w hw=>?_)
    exact⟨(jN false 0,1,x,[]),rfl,⟨g1,ok,by simp,Nat.le_refl _,bK _⟩,hw.aX (hF:=by exact aY.nil)⟩
   ·exact nv c109
set_option maxRecDepth 100000 in
theorem Ty(hg:g.Ok)(i m:Int){h:Nat}(hh:h<18446744073709551616)(level:Nat)(hlv:level<=1073741824)(K:Rs->Int->Tr)(ht:k.t.root<=9223372036854775807)(hi:i<=x.L.length)(hm:m<=x.L.length)(hA:∀f∈aM x.L,f∈A)(hk:¬(aB x.L m).nd.kind=6){b:Int}(hl:lA (aB x.L m).c (gY h (level:Int))=some b)(hi2:(aB x.L b).nd.kind=2)(go:gF g x (kO k i m h level K))(ok:x.Ok)(hs:SF w D (xH k bx bm x dn rs) A [] (xW x) w):Calls prog 226 #[.pointer (some ⟨bx,0,none⟩),.int .i64 i,.int .i64 m,.int .u64 (h:Int),.int .i64 (level:Int)] w (Zq g x K bx bm k dn rs D w):=by
 have hyl:=rK ok m
 have hlL:=ok.lL
 have h48:gF g x _/\lX x.L.length x.cs.length (aB x.L m).c:=⟨pD go hm,ok.nv m⟩
 have hb:b<=x.L.length:=by have:=pV (ok.nv m) (gY h (level:Int));rw[hl] at this;exact this
 refine enter Tryz.func226 Tryz.ntmps226 rfl rfl (cB hs) ?_
 simp only[cC]
 refine J0 ?_;refine aK (λ x10=>?_);refine jF ?_
 refine eO [12,13,26,27,28,29,30,31,32,33] (λ j:Nat=>[(12,.pointer (some ⟨j,0,none⟩)),(13,.string k.key)]) (λ _=>True) (λ j=>[(j,.cells ⟨(aB x.L m).nd.cells⟩ 47 (0,0)),(x10,.cells ⟨Rs.zero.cells⟩ 64 (0,0)),(bx,xO k bm x dn rs),(bm,xM x)]) (λ _=>[]) (λ _=>xW x) (by decide) (λ _=>by exact rfl) ?_ (λ j f hx=>?_)
 ·refine gI (.one 0 [] (.one 1 [] (.one 3 [] (.one 4 [] (.one 5 [] (.one 6 [] (.one 7 [] (.two 2 [7] (.one 8 [7] (.one 9 [7] (.one 10 [] .nil))) 0 [] (.two 8 [7] (.one 2 [7] (.one 9 [7] (.one 10 [] .nil))) 0 [] .nil))))))))) ?_
  refine iL ?_;refine yD ?_
  refine gR (E:=[2,8]) (by decide +kernel) ((.cons ?_ (.cons ?_ .nil)))
  ·refine mN (i:=2) (hq:=(cM (hs:=xH k bx bm x dn rs) (os:=xW x) (hc:=λ w hs=>fO m (by omega) ok hs))) (h:=λ x28 h28=>?_)
   refine gU (h:=λ x12=>?_);refine Bw ?_
   refine fH (x12) ?_
   ·trivial
  ·refine gW (i:=8) (h:=λ x12=>?_)
   refine bB (i:=2) (hq:=(cM (hs:=xH k bx bm x dn rs) (os:=xW x) (hc:=λ w hs=>fO m (by omega) ok hs))) (h:=λ x28 h28=>?_);refine Bw ?_
   refine fH (x12) ?_
   ·trivial
 dsimp only[hY,List.map,List.cons_append,List.nil_append]
 refine Kc7 ?_
 refine bC (λ c36=>?_) (λ c36=>?_)
 ·exact absurd c36 hk
 ·have g0:=h48.1.to (λ _=>if_neg hk)
  have g1:=uA g0 (by rw[hl];rfl)
  rw[hl] at g1
  have g2:=pD g1 hb
  refine Dc ?_;refine aQ (cV (hc:=λ w1 hw=>fJ hh (level:Int) w1)) (λ x91=>?_);refine J1 ?_;refine Dn ?_;refine aQ (cV (hc:=λ w1 hw=>Ky (v:=(aB x.L m)) h48.2 hl (ok.sA hw hA m))) (λ x95=>?_);refine aA ?_;refine aC (bO rf rfl) rfl ?_;refine aC (bO rf rfl) rfl ?_;refine J8 ?_;refine jG ?_;refine aD (cM (hs:=xH k bx bm x dn rs) (os:=xW x) (hc:=λ w hs=>fO b (by omega) ok hs)) (λ x100 h100=>?_);refine aK (λ x21=>?_);refine J5 ?_;refine Cw ?_;refine jG ?_
  (refine aE ?_;refine aF ?_)
  refine J78 ?_;refine J1 ?_
  refine bC (λ c101=>?_) (λ c101=>?_)
  ·have g3:=g2.to (λ _=>if_pos hi2)
   refine J0 ?_;refine bN ?_;refine Br ?_
   refine bE Tryz.results226 (λ w hw=>?_)
   exact⟨(Rs.zero,2,x,[]),rfl,⟨g3,ok,by simp,Nat.le_refl _,bK _⟩,hw.aX (hF:=by exact aY.nil)⟩
  ·exact absurd hi2 c101
set_option maxRecDepth 100000 in
theorem Ub(hg:g.Ok)(i m:Int){h:Nat}(hh:h<18446744073709551616)(level:Nat)(hlv:level<=1073741824)(K:Rs->Int->Tr)(ht:k.t.root<=9223372036854775807)(hi:i<=x.L.length)(hm:m<=x.L.length)(hA:∀f∈aM x.L,f∈A)(hk:¬(aB x.L m).nd.kind=6){b:Int}(hl:lA (aB x.L m).c (gY h (level:Int))=some b)(hi2:¬(aB x.L b).nd.kind=2)(he:¬(aB x.L b).nd.key=k.key)(go:gF g x (kO k i m h level K))(ok:x.Ok)(hs:SF w D (xH k bx bm x dn rs) A [] (xW x) w):Calls prog 226 #[.pointer (some ⟨bx,0,none⟩),.int .i64 i,.int .i64 m,.int .u64 (h:Int),.int .i64 (level:Int)] w (Zq g x K bx bm k dn rs D w):=by
 have hyl:=rK ok m
 have hlL:=ok.lL
 have h48:gF g x _/\lX x.L.length x.cs.length (aB x.L m).c:=⟨pD go hm,ok.nv m⟩
 have hb:b<=x.L.length:=by have:=pV (ok.nv m) (gY h (level:Int));rw[hl] at this;exact this
 refine enter Tryz.func226 Tryz.ntmps226 rfl rfl (cB hs) ?_
 simp only[cC]
 refine J0 ?_;refine aK (λ x10=>?_);refine jF ?_
 refine eO [12,13,26,27,28,29,30,31,32,33] (λ j:Nat=>[(12,.pointer (some ⟨j,0,none⟩)),(13,.string k.key)]) (λ _=>True) (λ j=>[(j,.cells ⟨(aB x.L m).nd.cells⟩ 47 (0,0)),(x10,.cells ⟨Rs.zero.cells⟩ 64 (0,0)),(bx,xO k bm x dn rs),(bm,xM x)]) (λ _=>[]) (λ _=>xW x) (by decide) (λ _=>by exact rfl) ?_ (λ j f hx=>?_)
 ·refine gI (.one 0 [] (.one 1 [] (.one 3 [] (.one 4 [] (.one 5 [] (.one 6 [] (.one 7 [] (.two 2 [7] (.one 8 [7] (.one 9 [7] (.one 10 [] .nil))) 0 [] (.two 8 [7] (.one 2 [7] (.one 9 [7] (.one 10 [] .nil))) 0 [] .nil))))))))) ?_
  refine iL ?_;refine yD ?_
  refine gR (E:=[2,8]) (by decide +kernel) ((.cons ?_ (.cons ?_ .nil)))
  ·refine mN (i:=2) (hq:=(cM (hs:=xH k bx bm x dn rs) (os:=xW x) (hc:=λ w hs=>fO m (by omega) ok hs))) (h:=λ x28 h28=>?_)
   refine gU (h:=λ x12=>?_);refine Bw ?_
   refine fH (x12) ?_
   ·trivial
  ·refine gW (i:=8) (h:=λ x12=>?_)
   refine bB (i:=2) (hq:=(cM (hs:=xH k bx bm x dn rs) (os:=xW x) (hc:=λ w hs=>fO m (by omega) ok hs))) (h:=λ x28 h28=>?_);refine Bw ?_
   refine fH (x12) ?_
   ·trivial
 dsimp only[hY,List.map,List.cons_append,List.nil_append]
 refine Kc7 ?_
 refine bC (λ c36=>?_) (λ c36=>?_)
 ·exact absurd c36 hk
 ·have g0:=h48.1.to (λ _=>if_neg hk)
  have g1:=uA g0 (by rw[hl];rfl)
  rw[hl] at g1
  have g2:=pD g1 hb
  refine Dc ?_;refine aQ (cV (hc:=λ w1 hw=>fJ hh (level:Int) w1)) (λ x91=>?_);refine J1 ?_;refine Dn ?_;refine aQ (cV (hc:=λ w1 hw=>Ky (v:=(aB x.L m)) h48.2 hl (ok.sA hw hA m))) (λ x95=>?_);refine aA ?_;refine aC (bO rf rfl) rfl ?_;refine aC (bO rf rfl) rfl ?_;refine J8 ?_;refine jG ?_;refine aD (cM (hs:=xH k bx bm x dn rs) (os:=xW x) (hc:=λ w hs=>fO b (by omega) ok hs)) (λ x100 h100=>?_);refine aK (λ x21=>?_);refine J5 ?_;refine Cw ?_;refine jG ?_
  (refine aE ?_;refine aF ?_)
  refine J78 ?_;refine J1 ?_
  refine bC (λ c101=>?_) (λ c101=>?_)
  ·exact absurd c101 hi2
  ·have g3:=(g2.to (λ _=>if_neg hi2)).to (λ _=>if_pos he)
   refine J2 ?_;refine Dg ?_
   (refine aE ?_;refine aF ?_)
   refine db ?_;((refine aE ?_;refine aC (sr rf rf he) rfl ?_));refine Kb7 ?_
   refine bC (λ c109=>?_) (λ c109=>?_)
   ·refine J0 ?_;refine aQ (cV (hc:=λ w1 hw=>gQ _ _ w1)) (λ x118=>?_);refine Br ?_
    refine bE Tryz.results226 (λ w hw=>?_)
    exact⟨(jN false 0,1,x,[]),rfl,⟨g3,ok,by simp,Nat.le_refl _,bK _⟩,hw.aX (hF:=by exact aY.nil)⟩
   ·exact nv c109
set_option maxRecDepth 100000 in
theorem Ts(hg:g.Ok)(i m:Int){h:Nat}(hh:h<18446744073709551616)(level:Nat)(hlv:level<=1073741824)(K:Rs->Int->Tr)(ht:k.t.root<=9223372036854775807)(hi:i<=x.L.length)(hm:m<=x.L.length)(hA:∀f∈aM x.L,f∈A)(hk:¬(aB x.L m).nd.kind=6){b:Int}(hl:lA (aB x.L m).c (gY h (level:Int))=some b)(hi2:¬(aB x.L b).nd.kind=2)(he:(aB x.L b).nd.key=k.key)(go:gF g x (kO k i m h level K))(ok:x.Ok)(hs:SF w D (xH k bx bm x dn rs) A [] (xW x) w):Calls prog 226 #[.pointer (some ⟨bx,0,none⟩),.int .i64 i,.int .i64 m,.int .u64 (h:Int),.int .i64 (level:Int)] w (Zq g x K bx bm k dn rs D w):=by
 have hyl:=rK ok m
 have hlL:=ok.lL
 have h48:gF g x _/\lX x.L.length x.cs.length (aB x.L m).c:=⟨pD go hm,ok.nv m⟩
 have hb:b<=x.L.length:=by have:=pV (ok.nv m) (gY h (level:Int));rw[hl] at this;exact this
 refine enter Tryz.func226 Tryz.ntmps226 rfl rfl (cB hs) ?_
 simp only[cC]
 refine J0 ?_;refine aK (λ x10=>?_);refine jF ?_
 refine eO [12,13,26,27,28,29,30,31,32,33] (λ j:Nat=>[(12,.pointer (some ⟨j,0,none⟩)),(13,.string k.key)]) (λ _=>True) (λ j=>[(j,.cells ⟨(aB x.L m).nd.cells⟩ 47 (0,0)),(x10,.cells ⟨Rs.zero.cells⟩ 64 (0,0)),(bx,xO k bm x dn rs),(bm,xM x)]) (λ _=>[]) (λ _=>xW x) (by decide) (λ _=>by exact rfl) ?_ (λ j f hx=>?_)
 ·refine gI (.one 0 [] (.one 1 [] (.one 3 [] (.one 4 [] (.one 5 [] (.one 6 [] (.one 7 [] (.two 2 [7] (.one 8 [7] (.one 9 [7] (.one 10 [] .nil))) 0 [] (.two 8 [7] (.one 2 [7] (.one 9 [7] (.one 10 [] .nil))) 0 [] .nil))))))))) ?_
  refine iL ?_;refine yD ?_
  refine gR (E:=[2,8]) (by decide +kernel) ((.cons ?_ (.cons ?_ .nil)))
  ·refine mN (i:=2) (hq:=(cM (hs:=xH k bx bm x dn rs) (os:=xW x) (hc:=λ w hs=>fO m (by omega) ok hs))) (h:=λ x28 h28=>?_)
   refine gU (h:=λ x12=>?_);refine Bw ?_
   refine fH (x12) ?_
   ·trivial
  ·refine gW (i:=8) (h:=λ x12=>?_)
   refine bB (i:=2) (hq:=(cM (hs:=xH k bx bm x dn rs) (os:=xW x) (hc:=λ w hs=>fO m (by omega) ok hs))) (h:=λ x28 h28=>?_);refine Bw ?_
   refine fH (x12) ?_
   ·trivial
 dsimp only[hY,List.map,List.cons_append,List.nil_append]
 refine Kc7 ?_
 refine bC (λ c36=>?_) (λ c36=>?_)
 ·exact absurd c36 hk
 ·have g0:=h48.1.to (λ _=>if_neg hk)
  have g1:=uA g0 (by rw[hl];rfl)
  rw[hl] at g1
  have g2:=pD g1 hb
  refine Dc ?_;refine aQ (cV (hc:=λ w1 hw=>fJ hh (level:Int) w1)) (λ x91=>?_);refine J1 ?_;refine Dn ?_;refine aQ (cV (hc:=λ w1 hw=>Ky (v:=(aB x.L m)) h48.2 hl (ok.sA hw hA m))) (λ x95=>?_);refine aA ?_;refine aC (bO rf rfl) rfl ?_;refine aC (bO rf rfl) rfl ?_;refine J8 ?_;refine jG ?_;refine aD (cM (hs:=xH k bx bm x dn rs) (os:=xW x) (hc:=λ w hs=>fO b (by omega) ok hs)) (λ x100 h100=>?_);refine aK (λ x21=>?_);refine J5 ?_;refine Cw ?_;refine jG ?_
  (refine aE ?_;refine aF ?_)
  refine J78 ?_;refine J1 ?_
  refine bC (λ c101=>?_) (λ c101=>?_)
  ·exact absurd c101 hi2
  ·have g3:=(g2.to (λ _=>if_neg hi2)).to (λ _=>if_neg (λ h:¬(aB x.L b).nd.key=k.key=>h he))
   refine J2 ?_;refine Dg ?_
   (refine aE ?_;refine aF ?_)
   refine db ?_;((refine aE ?_;refine aC (qc rf rf he) rfl ?_));refine Kb7 ?_
   refine bC (λ c109=>?_) (λ c109=>?_)
   ·exact nv c109
   ·refine aV ?_;refine gZ [0,1,2,3,4,5,6,7,8,9,10,11,12,13,14,15] ?_;refine yD ?_;refine aN ?_
    (refine n7 125 (λ g125=>?_) (λ g125=>?_)<;>(first|refine fN ?_|(refine aU ?_)))
    all_goals ((first|refine fN ?_|(refine bT ?_));(first|refine fN ?_|(refine aN ?_));(first|refine fN ?_|(refine sY ?_));(first|refine fN ?_|(refine aU ?_));refine w4 ?_;(first|refine fN ?_|(refine me ?_));refine jD ?_;refine J7 ?_)
    all_goals
    refine bC (λ c119=>?_) (λ c119=>?_)
    ·try exact nv c119
     all_goals
      have g4:=g3.to (λ _=>if_pos (show(k.only=true/\(aB x.L b).nd.val≠k.exp) from⟨by assumption,by assumption⟩))
     all_goals (refine iI ?_;refine aQ (cV (hc:=λ w1 hw=>gQ _ _ w1)) (λ x137=>?_);refine Br ?_)
     all_goals
      refine bE Tryz.results226 (λ w hw=>?_)
      exact⟨(jN true (aB x.L b).nd.val,1,x,[]),rfl,⟨g4,ok,by simp,Nat.le_refl _,bK _⟩,hw.aX (hF:=by exact aY.nil)⟩
    ·all_goals
      have g4:=g3.to (λ _=>if_neg (show ¬(k.only=true/\(aB x.L b).nd.val≠k.exp) from by rintro ⟨h,h'⟩;simp_all))
     all_goals (refine pI ?_;refine Dn ?_;refine aD (cF (hc:=λ w1 hw=>aBm (v:=(aB x.L m)) h48.2 (gY h (level:Int)) (ok.sA hw hA m))) (λ x141 h141=>?_))
     all_goals
      have hB:=aBf h48.2 (v:=(aB x.L m)) (gY h (level:Int))
     all_goals (refine aA ?_;refine aC (bO rf rfl) rfl ?_;refine aC (bO rf rfl) rfl ?_;refine aK (λ x22=>?_);refine Br ?_;refine nI ?_;refine aQ (cV (hc:=λ w1 hw=>ra hB (vr h48.2 (gY h (level:Int)) x141) (hw.cl (.new .head)))) (λ x146=>?_))
     all_goals
      have hso:((Lr (Ny (aB x.L m).c (gY h (level:Int)))).getD 0)<=x.L.length:=aBB hB (vr h48.2 (gY h (level:Int)) x141)
      have g5:=pD g4 hso
     all_goals (refine aA ?_;refine aC (bO rf rfl) rfl ?_;refine aC (bO rf rfl) rfl ?_;refine J8 ?_;refine aV ?_;refine eC [(0,[]),(1,[]),(2,[]),(3,[]),(4,[]),(5,[]),(6,[]),(7,[]),(8,[]),(9,[]),(10,[]),(11,[]),(12,[]),(13,[]),(16,[]),(19,[]),(20,[]),(14,[6,10,20]),(15,[6,20]),(17,[6,20]),(18,[20]),(21,[]),(22,[]),(23,[]),(24,[]),(25,[])] ?_;refine iL ?_;refine J9 ?_;refine aU ?_;refine bV (i:=6) (hq:=(aT (k:=2) (vs:=[.int .i64 k.t.root,.bool k.t.ro]) rf dC eT rfl rfl)) (h:=?_);refine iL ?_;refine aN ?_;refine Ka9 ?_;refine iL ?_;refine lH ?_;refine bB (i:=14) (hq:=(cM (hs:=xH k bx bm x dn rs) (os:=xW x) (hc:=λ w hs=>fO ((Lr (Ny (aB x.L m).c (gY h (level:Int)))).getD 0) (by omega) ok hs))) (hfire:=(λ _=>by(refine eY ?_;(repeat (first|exact aJ.nil|refine aJ.cons (by first|exact fC (hq:=aT (k:=2) (vs:=[.int .i64 k.t.root,.bool k.t.ro]) rf dC eT rfl rfl)|exact eG) ?_));done))) (h:=λ x163 h163=>?_);refine cR (i:=15) (hq:=(cV (hc:=λ w1 hw=>Uz hB (level:Int) (aB x.L ((Lr (Ny (aB x.L m).c (gY h (level:Int)))).getD 0)).nd (hw.cl (.new .head))))) (hfire:=(λ _=>by((repeat (first|exact aJ.nil|refine aJ.cons (by first|exact fC (hq:=aT (k:=2) (vs:=[.int .i64 k.t.root,.bool k.t.ro]) rf dC eT rfl rfl)|exact eG) ?_));done))) (h:=λ x164=>?_);refine bB (i:=17) (hq:=(cM (hs:=xH k bx bm x dn rs) (os:=xW x) (A0:=[((Qa (dr (aB x.L m) (gY h (level:Int))) x141 (level:Int) (aB x.L ((Lr (Ny (aB x.L m).c (gY h (level:Int)))).getD 0)).nd).brA,aG (X9 (dr (aB x.L m) (gY h (level:Int))) x141 (level:Int) (aB x.L ((Lr (Ny (aB x.L m).c (gY h (level:Int)))).getD 0)).nd)),((Qa (dr (aB x.L m) (gY h (level:Int))) x141 (level:Int) (aB x.L ((Lr (Ny (aB x.L m).c (gY h (level:Int)))).getD 0)).nd).prA,cY [])]) (hA:=wu) (hc:=λ w hs=>gV hg (n:=(Qa (dr (aB x.L m) (gY h (level:Int))) x141 (level:Int) (aB x.L ((Lr (Ny (aB x.L m).c (gY h (level:Int)))).getD 0)).nd)) (xs:=(X9 (dr (aB x.L m) (gY h (level:Int))) x141 (level:Int) (aB x.L ((Lr (Ny (aB x.L m).c (gY h (level:Int)))).getD 0)).nd)) (ys:=[]) m _ (ij _ _ _) (lr _ _ _) (Vb hB _ _ _) (Nat.zero_le _) (Vm hB _ _ (ok.nv ((Lr (Ny (aB x.L m).c (gY h (level:Int)))).getD 0)).hash) hm (by rw[<- vm,<- aBj h48.2];exact g5) ok hs))) (hfire:=(λ _=>by(refine eY ?_;(repeat (first|exact aJ.nil|refine aJ.cons (by first|exact fC (hq:=aT (k:=2) (vs:=[.int .i64 k.t.root,.bool k.t.ro]) rf dC eT rfl rfl)|exact eG) ?_));done))) (h:=λ x166 h166=>?_);refine bB (i:=18) (hq:=(cM (hs:=xH k bx bm x166.2.1 dn rs) (os:=xW x166.2.1) (hc:=λ w hs=>tB hg k.t i m x166.1 _ ht (by have:=h166.len;omega) h166.bd h166.go h166.ok hs))) (h:=λ x167 h167=>?_))
     all_goals
      have hch:=Ch.nx h167 (Ch.nx h166 ((Ch.base (F:=[])).cons (f:=(x141.1,aG (mP (dr (aB x.L m) (gY h (level:Int))))))))
      have hlc:x.cs.length<=x167.2.1.cs.length:=by have:=h166.lc;have:=h167.lc;omega
     all_goals (refine cR (i:=21) (hq:=(cV (hc:=λ w1 hw=>pL _ _ _ _ w1))) (h:=λ x170=>?_);refine cJ (i:=22) (hq:=(bO rf rfl)) (h:=?_);refine cJ (i:=23) (hq:=(bO rf rfl)) (h:=?_);refine Bw ?_)
     all_goals
      refine bE Tryz.results226 (λ w hw=>?_)
      obtain⟨N,hN,hf⟩:=hch.to (t':=K (sN true (aB x.L b).nd.val) (if x167.1=true then 1 else 0)) h167 (h167.go) hlc (bK _)
      exact⟨(sN true (aB x.L b).nd.val,(if x167.1=true then 1 else 0),x167.2.1,N),rfl,hN,(hw.eW hf).v4⟩
theorem T9(hg:g.Ok)(i m:Int){h:Nat}(hh:h<18446744073709551616)(level:Nat)(hlv:level<=1073741824)(K:Rs->Int->Tr)(ht:k.t.root<=9223372036854775807)(hi:i<=x.L.length)(hm:m<=x.L.length)(hA:∀f∈aM x.L,f∈A)(go:gF g x (kO k i m h level K))(ok:x.Ok)(hs:SF w D (xH k bx bm x dn rs) A [] (xW x) w):Calls prog 226 #[.pointer (some ⟨bx,0,none⟩),.int .i64 i,.int .i64 m,.int .u64 (h:Int),.int .i64 (level:Int)] w (Zq g x K bx bm k dn rs D w):=by
 by_cases hk:(aB x.L m).nd.kind=6
 ·exact R8 hg i m hh level hlv K ht hi hm hA hk go ok hs
 ·cases hl:lA (aB x.L m).c (gY h (level:Int)) with
  | none=>exact Ut hg i m hh level hlv K ht hi hm hA hk hl go ok hs
  | some b =>
   by_cases hi2:(aB x.L b).nd.kind=2
   ·exact Ty hg i m hh level hlv K ht hi hm hA hk hl hi2 go ok hs
   ·by_cases he:(aB x.L b).nd.key=k.key
    ·exact Ts hg i m hh level hlv K ht hi hm hA hk hl hi2 he go ok hs
    ·exact Ub hg i m hh level hlv K ht hi hm hA hk hl hi2 he go ok hs
end
end
end Go.Proofs.YtbajmaoegmbfgaaGreat

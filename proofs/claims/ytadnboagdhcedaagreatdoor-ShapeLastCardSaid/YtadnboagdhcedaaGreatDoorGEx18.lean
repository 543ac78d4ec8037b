/- Executions of the reference: PUT. -/
import Derived.Test.YtadnboagdhcedaaGreatDoorEx17
import Derived.Test.YtadnboagdhcedaaGreatDoorAuto

set_option linter.unusedSimpArgs false
set_option linter.unusedVariables false
namespace Go.Ct
section
open Go Go.RowKit
theorem kD{a b c:List aK}:∀f∈aY ((a++b)++c),f.2=[]∨f∈aY c++(aY b++aY a):=λ f hf=>by
 simp only[dL,List.mem_append] at hf ⊢
 rcases hf with(h|h)|h
 ·exact .inr (.inr (.inr h))
 ·exact .inr (.inr (.inl h))
 ·exact .inr (.inl h)
theorem tT{a b c d:List aK}:∀f∈aY (((a++b)++c)++d),f.2=[]∨f∈aY d++(aY c++(aY b++aY a)):=λ f hf=>by
 simp only[dL,List.mem_append] at hf ⊢
 rcases hf with((h|h)|h)|h
 ·exact .inr (.inr (.inr (.inr h)))
 ·exact .inr (.inr (.inr (.inl h)))
 ·exact .inr (.inr (.inl h))
 ·exact .inr (.inl h)
end
end Go.Ct
namespace Go.Proofs.YtadnboagdhcedaaGreatDoor
section
open Go Go.RowKit Go.Ct
section
variable{k:Cl}{bx bm:Nat}{x:XS}{dn:Bool}{rs:Rs}{D:List Nat}{A:Fr}{w:World}{g:Gx}
set_option maxRecDepth 100000 in
theorem ua(hg:g.Ok){m:Nat}(K:Rs->Tr)(n:Nat)(hn:n<=1073741824)(hm:m<18446744073709551616)(em:k.mask=(m:Int))(ek:k.key.size<=64)(ht:k.t.root<=9223372036854775807)(hA:∀f∈aY x.L,f∈A)(go:eU g x (yG k (jP k.key m) K n))(ok:x.Ok)(hs:SF w D (xH k bx bm x dn rs) A [] (xW x) w):Calls Tryz.prog 89 #[.pointer (some ⟨bx,0,none⟩)] w λ e w'=>∃q:Rs×XS×List aK,e=.returned (.agg ⟨q.1.cells⟩)/\Nx g x q.2.1 q.2.2 (K q.1) 0/\SF w D (xH k bx bm q.2.1 dn rs) [] (aY q.2.2) (xW q.2.1) w':=by
 refine enter Tryz.func89 Tryz.ntmps89 rfl rfl (cA hs) ?_
 simp only[cR]
 refine J0 ?_;refine aP (λ x2=>?_);refine Xs ?_
 refine eL [3,4,13,14,15,16,17,18,19,20,21,22,23,24,25,26,27,28] (λ j:Nat=>[(3,.pointer (some ⟨j,0,none⟩)),(4,.int .u64 (((jP k.key m):Nat):Int))]) (λ _=>True) (λ j=>[(j,.cells ⟨[.int .i64 k.t.root,.bool k.t.ro]⟩ 29 (0,0)),(x2,.cells ⟨Rs.zero.cells⟩ 68 (0,0)),(bx,xO k bm x dn rs),(bm,xM x)]) (λ _=>[]) (λ _=>xW x) (by decide) (λ _=>by exact rfl) ?_ (λ j f hx=>?_)
 ·refine gV (.one 0 [] (.one 1 [] (.one 2 [] (.one 3 [] (.one 4 [] (.one 5 [] (.one 6 [] (.one 7 [] (.one 8 [] (.one 9 [] (.one 10 [] (.one 11 [] (.one 12 [] (.one 13 [] (.one 14 [] (.two 15 [4] (.one 16 [4,9,14] (.one 17 [] (.one 18 [] .nil))) 0 [] (.two 16 [4,9,14] (.one 15 [4] (.one 17 [] (.one 18 [] .nil))) 0 [] .nil))))))))))))))))) ?_
  refine J9 ?_;refine aQ ?_;refine bM (i:=4) (hq:=(aL (k:=2) (vs:=[.int .i64 k.t.root,.bool k.t.ro]) rf fN gX rfl rfl)) (h:=?_);refine tA ?_;refine tA ?_
  refine kH (E:=[15,16]) (by decide +kernel) ((.cons ?_ (.cons ?_ .nil)))
  ·refine Lk (i:=15) (hq:=(cV (hc:=λ w1 hw=>lK em hm ek w1))) (hfire:=(λ _=>by(refine aM.cons (by exact eI (hq:=aL (k:=2) (vs:=[.int .i64 k.t.root,.bool k.t.ro]) rf fN gX rfl rfl)) ?_;exact aM.nil))) (h:=λ x28=>?_)
   refine fS (hfire:=(λ _=>by((repeat (first|exact aM.nil|refine aM.cons (by first|exact eI (hq:=aL (k:=2) (vs:=[.int .i64 k.t.root,.bool k.t.ro]) rf fN gX rfl rfl)|exact eT) ?_));done))) (h:=λ x3=>?_);refine zF ?_
   refine gA (x3) ?_
   ·trivial
  ·refine jL (i:=16) (hfire:=(λ _=>by((repeat (first|exact aM.nil|refine aM.cons (by first|exact eI (hq:=aL (k:=2) (vs:=[.int .i64 k.t.root,.bool k.t.ro]) rf fN gX rfl rfl)|exact eT) ?_));done))) (h:=λ x3=>?_)
   refine dG (i:=15) (hq:=(cV (hc:=λ w1 hw=>lK em hm ek w1))) (hfire:=(λ _=>by(refine aM.cons (by exact eI (hq:=aL (k:=2) (vs:=[.int .i64 k.t.root,.bool k.t.ro]) rf fN gX rfl rfl)) ?_;exact aM.nil))) (h:=λ x28=>?_);refine zF ?_
   refine gA (x3) ?_
   ·trivial
 dsimp only[gG,List.map,List.cons_append,List.nil_append]
 refine Cc ?_
 refine mP [5,6,7,8,9,10,11,12,29,30,31,32,33,34,35,36,37,38,39,40,41,42,43,44,45,46,47,48,49,50,51,52,53,54,55,56,57,58,59,60,61,62,63,64,65,66,67,68,69,70,71,72,73,74,75,76,77,78,79,80,81,82,83,84,85,86,87,88,89,90,91,92,93,94,95,96,97,98,99,100,101] (λ y:Nat×XS×List aK=>[]) (λ y=>y.1<=n/\Nx g x y.2.1 y.2.2 (yG k (jP k.key m) K y.1) 0) (λ y=>[(j,.cells ⟨[.int .i64 k.t.root,.bool k.t.ro]⟩ 29 (0,0)),(x2,.cells ⟨Rs.zero.cells⟩ 68 (0,0)),(bx,xO k bm y.2.1 dn rs),(bm,xM y.2.1)]) (λ y=>aY y.2.2) (λ y=>xW y.2.1) (λ y=>y.1) ((n,x,[])) (⟨Nat.le_refl n,Nx.start go ok |>.cC go (bE _)⟩) (λ y f hx=>?_) (hw0:=λ w hw=>hw)
 dsimp only[gG,List.map,List.cons_append,List.nil_append]
 obtain⟨hyn,hy⟩:=hx
 refine aS ?_;refine mV ?_;refine lX ?_
 refine aZ (λ c33=>?_) (λ c33=>?_)
 ·obtain⟨fu,hfu,gx⟩:=eU.iN (T:=λ q=>yG k (jP k.key m) K q) hy.go (by simpa using c33) rfl hg
  refine bA ?_;refine bV ?_;refine Ka9 ?_;refine aC (cM (hs:=xH k bx bm y.2.1 dn rs) (os:=xW y.2.1) (hc:=λ w hs=>zN hg k.t _ ht gx hy.ok hs)) (λ x36 h36=>?_);refine tZ ?_;refine aC (cM (hs:=xH k bx bm x36.2.1 dn rs) (os:=xW x36.2.1) (hc:=λ w hs=>cB x36.1 _ h36.bd h36.go h36.ok hs)) (λ x39 h39=>?_);refine cE ?_;refine J1 ?_;refine cN ?_;refine K5 ?_
  refine mP [5,7,8,9,10,11,12,41,42,43,44,45,46,47,48,49,50,51,52,53,54,55,56,57,58,59,60,61,62,63,64,65,66,67,68,69,70,71,72,73,74,75,76,77,78,79,80,81,82,83,84,85,86,87,88,89,90,91,92,93,94,95,96,97,98,99,100,101] (λ z:Nat×Int×Int×XS×List aK=>[(5,.int .i64 z.2.1),(7,.int .i64 z.2.2.1),(8,.int .i64 (((fu-z.1):Nat):Int))]) (λ z=>z.1<=fu/\Nx g x z.2.2.2.1 z.2.2.2.2 (zP k (jP k.key m) K (yG k (jP k.key m) K fu) (aA x36.2.1.L x36.1).nd.gen z.1 z.2.1 z.2.2.1 (fu-z.1)) z.2.1/\z.2.2.1<=z.2.2.2.1.L.length) (λ z=>[(j,.cells ⟨[.int .i64 k.t.root,.bool k.t.ro]⟩ 29 (0,0)),(x2,.cells ⟨Rs.zero.cells⟩ 68 (0,0)),(bx,xO k bm z.2.2.2.1 dn rs),(bm,xM z.2.2.2.1)]) (λ z=>aY z.2.2.2.2) (λ z=>xW z.2.2.2.1) (λ z=>z.1) ((fu,x36.1,0,x36.2.1,y.2.2++x36.2.2)) (⟨Nat.le_refl fu,(hy.trans h36).cC (show eU g x36.2.1 (zP k (jP k.key m) K (yG k (jP k.key m) K fu) (aA x36.2.1.L x36.1).nd.gen fu x36.1 0 (fu-fu)) from(Nat.sub_self fu).symm▸h39.1) h36.bd,bE _⟩) (λ z f hx=>?_) (hw0:=λ w hw=>(hw.eG lB).v1)
  dsimp only[gG,List.map,List.cons_append,List.nil_append]
  obtain⟨hzf,hz,hzp⟩:=hx
  refine aS ?_;refine mV ?_;refine lX ?_
  refine aZ (λ c45=>?_) (λ c45=>?_)
  ·obtain⟨fu2,hfu2,gz⟩:=eU.iN (T:=λ q=>(zP k (jP k.key m) K (yG k (jP k.key m) K fu) (aA x36.2.1.L x36.1).nd.gen q z.2.1 z.2.2.1 (fu-z.1))) hz.go (by simpa using c45) rfl hg
   refine oW ?_;refine Ka9 ?_;refine aB ?_;refine aC (cM (hs:=xH k bx bm z.2.2.2.1 dn rs) (os:=xW z.2.2.2.1) (hc:=λ w hs=>mQ hg k.t z.2.1 _ ht hz.bd gz hz.ok hs)) (λ x51 h51=>?_)
   have hl51:=h51.len
   have hb51:=h51.bd
   have hbz:=hz.bd
   have hch:=Ch.nx h51 hz.ch
   refine gK ?_;refine Kc4 ?_
   refine aZ (λ c55=>?_) (λ c55=>?_)
   ·refine Um ?_
    refine gI (by exact(fu,x51.2.1,(z.2.2.2.2++x51.2.2))) ?_ (hw1:=λ w hw=>by exact(hw.eG lB).v1)
    ·first
     | exact⟨by show fu<=n;omega,(((hz.trans h51).trans h76).trans h97).cC g4 (bE _)⟩
     | exact⟨by show fu<=n;omega,((hz.trans h51).trans h76).cC g3 (bE _)⟩
     | exact⟨by show fu<=n;omega,((hz.trans h51).trans h68).cC h68.go (bE _)⟩
     | exact⟨by show fu<=n;omega,(hz.trans h51).cC (h51.go.bO (by assumption)) (bE _)⟩
     | exact⟨by show fu<=n;omega,hz.cC (hz.go.bO (by simpa using c45)) (bE _)⟩
   ·refine jD ?_;refine iF ?_;refine aC (cM (hs:=xH k bx bm x51.2.1 dn rs) (os:=xW x51.2.1) (hc:=λ w hs=>cB x51.1 _ h51.bd h51.go h51.ok hs)) (λ x58 h58=>?_);refine cE ?_;refine rR ?_
    refine aZ (λ c60=>?_) (λ c60=>?_)
    ·have g1:=h58.1.to (λ _=>if_pos c60)
     refine Ka9 ?_;refine nB ?_;refine nB ?_;refine oP ?_;refine aC (cM (hs:=xH k bx bm x51.2.1 dn rs) (os:=xW x51.2.1) (A0:=aY x51.2.1.L) (hA:=Ch.all hch hA) (hc:=λ w hs=>Is hg k.t z.2.2.1 z.2.1 (pV k.key m) ((((fu-z.1):Nat):Int)-1) _ ht (by omega) (by omega) (λ f hf=>hf) g1 h51.ok hs)) (λ x68 h68=>?_);refine aI ?_;refine Um ?_
     refine gI (by exact(fu,x68.2.1,((z.2.2.2.2++x51.2.2)++x68.2.2))) ?_ (hw1:=λ w hw=>by exact(hw.eG kD).v1)
     ·first
      | exact⟨by show fu<=n;omega,(((hz.trans h51).trans h76).trans h97).cC g4 (bE _)⟩
      | exact⟨by show fu<=n;omega,((hz.trans h51).trans h76).cC g3 (bE _)⟩
      | exact⟨by show fu<=n;omega,((hz.trans h51).trans h68).cC h68.go (bE _)⟩
      | exact⟨by show fu<=n;omega,(hz.trans h51).cC (h51.go.bO (by assumption)) (bE _)⟩
      | exact⟨by show fu<=n;omega,hz.cC (hz.go.bO (by simpa using c45)) (bE _)⟩
    ·have g1:=h58.1.to (λ _=>if_neg c60)
     refine yT ?_;refine nB ?_;refine nB ?_;refine aC (cM (hs:=xH k bx bm x51.2.1 dn rs) (os:=xW x51.2.1) (A0:=aY x51.2.1.L) (hA:=Ch.all hch hA) (hc:=λ w hs=>Sw hg z.2.1 x51.1 (pV k.key m) (fu-z.1) (by omega) (aA x36.2.1.L x36.1).nd.gen _ ht (by omega) (by omega) (λ f hf=>hf) g1 h51.ok hs)) (λ x76 h76=>?_)
     have hl76:=h76.len
     have hch2:=Ch.nx h76 hch
     refine aB ?_;refine aE (bI rf rfl) rfl ?_;refine aE (bI rf rfl) rfl ?_;refine aP (λ x10=>?_);refine lN (λ _=>?_);refine gK ?_;refine mV ?_;refine aB ?_
     (refine eR 83 (λ g83=>?_) (λ g83=>?_)<;>refine Ka1 ?_)
     all_goals (refine wQ ?_;refine aI ?_)
     all_goals
     refine aZ (λ c86=>?_) (λ c86=>?_)
     ·all_goals (refine Kb1 ?_)
      all_goals
       refine bJ Tryz.results89 (λ w hw=>?_)
       exact⟨(x76.1,x76.2.2.1,((z.2.2.2.2++x51.2.2)++x76.2.2.2)),rfl,((hz.trans h51).trans h76).cC (by first|exact h76.go.bO (by assumption)|exact h76.go.to (λ _=>if_pos (by assumption))) (bE _),(hw.eG kD).z7⟩
     ·try exact nv c86
      all_goals
       have g2:=h76.go.to (λ _=>if_neg (by assumption))
      all_goals (refine jD ?_;refine J2 ?_;refine rR ?_)
      all_goals
       refine aZ (λ c89=>?_) (λ c89=>?_)
       ·have g3:=g2.to (λ _=>if_pos (by assumption))
        refine Um ?_
        refine gI (by exact(fu,x76.2.2.1,((z.2.2.2.2++x51.2.2)++x76.2.2.2))) ?_ (hw1:=λ w hw=>by exact(hw.eG kD).v1)
        ·first
         | exact⟨by show fu<=n;omega,(((hz.trans h51).trans h76).trans h97).cC g4 (bE _)⟩
         | exact⟨by show fu<=n;omega,((hz.trans h51).trans h76).cC g3 (bE _)⟩
         | exact⟨by show fu<=n;omega,((hz.trans h51).trans h68).cC h68.go (bE _)⟩
         | exact⟨by show fu<=n;omega,(hz.trans h51).cC (h51.go.bO (by assumption)) (bE _)⟩
         | exact⟨by show fu<=n;omega,hz.cC (hz.go.bO (by simpa using c45)) (bE _)⟩
       ·have g3:=g2.to (λ _=>if_neg (by assumption))
        refine yT ?_;refine nB ?_;refine aB ?_;refine aR (cV (hc:=λ w1 hw=>dZ (pV k.key m) (((fu-z.1):Nat):Int) w1)) (λ x95=>?_);refine aB ?_;refine aC (cM (hs:=xH k bx bm x76.2.2.1 dn rs) (os:=xW x76.2.2.1) (A0:=aY x76.2.2.1.L) (hA:=Ch.all hch2 hA) (hc:=λ w hs=>Qo hg z.2.1 x51.1 (fM (jP k.key m) (((fu-z.1):Nat):Int)) (aA x36.2.1.L x36.1).nd.gen _ ht (by omega) (by omega) (λ f hf=>hf) g3 h76.ok hs)) (λ x97 h97=>?_);refine gK ?_;refine J2 ?_;refine rR ?_
        refine aZ (λ c99=>?_) (λ c99=>?_)
        ·have g4:=h97.go.to (λ _=>if_pos (by assumption))
         refine Um ?_
         refine gI (by exact(fu,x97.2.1,(((z.2.2.2.2++x51.2.2)++x76.2.2.2)++x97.2.2))) ?_ (hw1:=λ w hw=>by exact(hw.eG tT).v1)
         ·first
          | exact⟨by show fu<=n;omega,(((hz.trans h51).trans h76).trans h97).cC g4 (bE _)⟩
          | exact⟨by show fu<=n;omega,((hz.trans h51).trans h76).cC g3 (bE _)⟩
          | exact⟨by show fu<=n;omega,((hz.trans h51).trans h68).cC h68.go (bE _)⟩
          | exact⟨by show fu<=n;omega,(hz.trans h51).cC (h51.go.bO (by assumption)) (bE _)⟩
          | exact⟨by show fu<=n;omega,hz.cC (hz.go.bO (by simpa using c45)) (bE _)⟩
        ·have g4:=h97.go.to (λ _=>if_neg (by assumption))
         refine bA ?_;refine Mc ?_;refine J8 ?_;refine eV ?_;refine Ba ?_
         refine gI ((z.1-1,x97.1,z.2.1,x97.2.1,(((z.2.2.2.2++x51.2.2)++x76.2.2.2)++x97.2.2))) ?_ (hw1:=λ w hw=>(hw.eG tT).v1)
         ·have e1:z.1-1=fu2:=by omega
          have e2:(fu-z.1)+1=fu-fu2:=by omega
          refine⟨by show z.1-1<=fu;omega,((((hz.trans h51).trans h76).trans h97)).cC ?_ h97.bd,by show z.2.1<=(x97.2.1.L.length:Int);have:=h97.len;omega⟩
          show eU g x97.2.1 (zP k (jP k.key m) K (yG k (jP k.key m) K fu) (aA x36.2.1.L x36.1).nd.gen (z.1-1) x97.1 z.2.1 (fu-(z.1-1)))
          rw[e1,<- e2]
          exact g4
  ·refine Um ?_
   refine gI (by exact(fu,z.2.2.2.1,z.2.2.2.2)) ?_ (hw1:=λ w hw=>by exact hw.v1)
   ·first
    | exact⟨by show fu<=n;omega,(((hz.trans h51).trans h76).trans h97).cC g4 (bE _)⟩
    | exact⟨by show fu<=n;omega,((hz.trans h51).trans h76).cC g3 (bE _)⟩
    | exact⟨by show fu<=n;omega,((hz.trans h51).trans h68).cC h68.go (bE _)⟩
    | exact⟨by show fu<=n;omega,(hz.trans h51).cC (h51.go.bO (by assumption)) (bE _)⟩
    | exact⟨by show fu<=n;omega,hz.cC (hz.go.bO (by simpa using c45)) (bE _)⟩
 ·refine bG rfl ?_;refine J0 ?_;refine yH ?_
  refine bJ Tryz.results89 (λ w hw=>?_)
  exact⟨(Rs.zero,y.2.1,y.2.2),rfl,hy.cC (hy.go.bO (by simpa using c33)) (bE _),hw.z7⟩
end
end

/- Guards that are not wanted themselves. -/
end Go.Proofs.YtadnboagdhcedaaGreatDoor
namespace Go.Ct
section
open Go Go.RowKit
variable{P:Program}{n:Nat}{Q:Exit->Act->World->Prop}{ks:List CK}{ops:Array Oper}{l:List Oper}{S:List (Nat×Value)}{G:World->Prop}
theorem Lz{d:Nat}{op:Op}{ty:TypeId}{pos:String}{af:Array Edge}{j:Nat}{want:Bool}{g:Nat}(hd:Nat.blt d n=true)
  (hj:(ops[j]?).bind (·.dst)=some g) (hg:look S g=undef)
  (h:JL P n Q ks ops l ((d,undef)::S) G):JL P n Q ks ops (⟨some d,op,ty,pos,af,some (j,want)⟩::l) S G:=⟨λ hS w hw=>by
 have hy:yielded ops (dM n S) j=none:=by
  have e:=congrFun (nD (ds:=[]) hS) (.tmp g)
  simp only[Act.eval,ev,hg] at e
  unfold yielded
  rw[hj]
  simp only[Option.bind_some]
  rw[Array.getD_eq_getD_getElem?] at e
  cases h2:(dM n S)[g]? with
  | none=>rfl
  | some u=>rw[h2] at e;simp[undef] at e;subst e;rfl
 refine wpList_step λ K hK=>?_
 have hw':Region.wanted ⟨some d,op,ty,pos,af,some (j,want)⟩ (yielded ops (dM n S))=false:=by
  simp only[Region.wanted,hy]
  rfl
 simp only[hw',Bool.false_eq_true,if_false,I4]
 exact hK _ _ (h.run (hS.cons hd) w hw)⟩
end
end Go.Ct
namespace Go.Proofs.YtadnboagdhcedaaGreatDoor
section
open Go.RowKit Go.Ct
theorem Cy{n:Nat}{Q:Exit->Act->World->Prop}{ks:List CK}{ops:Array Oper}{l:List Oper}{S:List (Nat×Value)}{G:World->Prop}{d j g:Nat}{op:Op}{ty:TypeId}{pos:String}{af:Array Edge}{want:Bool}(h:JL Tryz.prog n Q ks ops l ((d,undef)::S) G)(hd:Nat.blt d n=true:=by exact rfl)(hj:(ops[j]?).bind (·.dst)=some g:=by exact rfl)(hg:Ct.look S g=undef:=by exact rfl):JL Tryz.prog n Q ks ops (⟨some d,op,ty,pos,af,some (j,want)⟩::l) S G:=Lz hd hj hg h
end

end Go.Proofs.YtadnboagdhcedaaGreatDoor

/- Executions of the reference: PUT. -/
import Derived.Test.YtbajmaoegmbfgaaGreatEx17
import Derived.Test.YtbajmaoegmbfgaaGreatAuto

set_option linter.unusedSimpArgs false
set_option linter.unusedVariables false
namespace Go.Ct
section
open Go Go.RowKit
theorem gU{a b c:List aX}:∀f∈aR ((a++b)++c),f.2=[]∨f∈aR c++(aR b++aR a):=λ f hf=>by
 simp only[eI,List.mem_append] at hf ⊢
 rcases hf with(h|h)|h
 ·exact .inr (.inr (.inr h))
 ·exact .inr (.inr (.inl h))
 ·exact .inr (.inl h)
theorem iG{a b c d:List aX}:∀f∈aR (((a++b)++c)++d),f.2=[]∨f∈aR d++(aR c++(aR b++aR a)):=λ f hf=>by
 simp only[eI,List.mem_append] at hf ⊢
 rcases hf with((h|h)|h)|h
 ·exact .inr (.inr (.inr (.inr h)))
 ·exact .inr (.inr (.inr (.inl h)))
 ·exact .inr (.inr (.inl h))
 ·exact .inr (.inl h)
end
end Go.Ct
namespace Go.Proofs.YtbajmaoegmbfgaaGreat
section
open Go Go.RowKit Go.Ct
section
variable{k:Cl}{bx bm:Nat}{x:XS}{dn:Bool}{rs:Rs}{D:List Nat}{A:Fr}{w:World}{g:Gx}
set_option maxRecDepth 100000 in
theorem xi(hg:g.Ok){m:Nat}(K:Rs->Tr)(n:Nat)(hn:n<=1073741824)(hm:m<18446744073709551616)(em:k.mask=(m:Int))(ek:k.key.size<=64)(ht:k.t.root<=9223372036854775807)(hA:∀f∈aR x.L,f∈A)(go:gL g x (F5 k (mR k.key m) K n))(ok:x.Ok)(hs:SF w D (xH k bx bm x dn rs) A [] (xW x) w):Calls Tryz.prog 184 #[.pointer (some ⟨bx,0,none⟩)] w λ e w'=>∃q:Rs×XS×List aX,e=.returned (.agg ⟨q.1.cells⟩)/\Nx g x q.2.1 q.2.2 (K q.1) 0/\SF w D (xH k bx bm q.2.1 dn rs) [] (aR q.2.2) (xW q.2.1) w':=by
  refine enter Tryz.func184 Tryz.ntmps184 rfl rfl (cK hs) ?_
  simp only[cN]
  all_goals (refine J0 ?_;refine aJ (λ x2=>?_);refine Hs ?_)
  all_goals
   refine eZ [3,4,13,14,15,16,17,18,19,20,21,22,23,24,25,26,27,28] (λ j:Nat=>[(3,.pointer (some ⟨j,0,none⟩)),(4,.int .u64 (((mR k.key m):Nat):Int))]) (λ _=>True) (λ j=>[(j,.cells ⟨[.int .i64 k.t.root,.bool k.t.ro]⟩ 29 (0,0)),(x2,.cells ⟨Rs.zero.cells⟩ 64 (0,0)),(bx,xO k bm x dn rs),(bm,xM x)]) (λ _=>[]) (λ _=>xW x) (by decide) (λ _=>by exact rfl) ?_ (λ j f hx=>?_)
   · refine iE (.one 0 [] (.one 1 [] (.one 2 [] (.one 3 [] (.one 4 [] (.one 5 [] (.one 6 [] (.one 7 [] (.one 8 [] (.one 9 [] (.one 10 [] (.one 11 [] (.one 12 [] (.one 13 [] (.one 14 [] (.two 15 [4] (.one 16 [4,9,14] (.one 17 [] (.one 18 [] .nil))) 0 [] (.two 16 [4,9,14] (.one 15 [4] (.one 17 [] (.one 18 [] .nil))) 0 [] .nil))))))))))))))))) ?_
     all_goals (refine J9 ?_;refine aT ?_;refine bS (i:=4) (hq:=(aL (k:=2) (vs:=[.int .i64 k.t.root,.bool k.t.ro]) rf bQ cD rfl rfl)) (h:=?_);refine uD ?_;refine uD ?_)
     all_goals
      refine iM (E:=[15,16]) (by decide +kernel) ((.cons ?_ (.cons ?_ .nil)))
      · refine Cg (i:=15) (hq:=(cV (hc:=λ w1 hw=>nK em hm ek w1))) (hfire:=(λ _=>by first|(refine aI.cons (by first|exact dM (hq:=aL (k:=2) (vs:=[.int .i64 k.t.root,.bool k.t.ro]) rf bQ cD rfl rfl)|exact a_un) ?_;exact aI.nil)|(refine bT ?_;refine aI.cons (by first|exact dM (hq:=aL (k:=2) (vs:=[.int .i64 k.t.root,.bool k.t.ro]) rf bQ cD rfl rfl)|exact a_un) ?_;exact aI.nil))) (h:=λ x28=>?_)
        all_goals (refine iD (hfire:=(λ _=>by first|((repeat (first|exact aI.nil|refine aI.cons (by first|exact dM (hq:=aL (k:=2) (vs:=[.int .i64 k.t.root,.bool k.t.ro]) rf bQ cD rfl rfl)|exact eT|exact a_un) ?_));done)|(refine bT ?_;(repeat (first|exact aI.nil|refine aI.cons (by first|exact dM (hq:=aL (k:=2) (vs:=[.int .i64 k.t.root,.bool k.t.ro]) rf bQ cD rfl rfl)|exact eT|exact a_un) ?_));done))) (h:=λ x3=>?_);refine A6 ?_)
        all_goals
         refine fR (x3) ?_
         · trivial
      · refine hY (i:=16) (hfire:=(λ _=>by first|((repeat (first|exact aI.nil|refine aI.cons (by first|exact dM (hq:=aL (k:=2) (vs:=[.int .i64 k.t.root,.bool k.t.ro]) rf bQ cD rfl rfl)|exact eT|exact a_un) ?_));done)|(refine bT ?_;(repeat (first|exact aI.nil|refine aI.cons (by first|exact dM (hq:=aL (k:=2) (vs:=[.int .i64 k.t.root,.bool k.t.ro]) rf bQ cD rfl rfl)|exact eT|exact a_un) ?_));done))) (h:=λ x3=>?_)
        all_goals (refine cL (i:=15) (hq:=(cV (hc:=λ w1 hw=>nK em hm ek w1))) (hfire:=(λ _=>by first|(refine aI.cons (by first|exact dM (hq:=aL (k:=2) (vs:=[.int .i64 k.t.root,.bool k.t.ro]) rf bQ cD rfl rfl)|exact a_un) ?_;exact aI.nil)|(refine bT ?_;refine aI.cons (by first|exact dM (hq:=aL (k:=2) (vs:=[.int .i64 k.t.root,.bool k.t.ro]) rf bQ cD rfl rfl)|exact a_un) ?_;exact aI.nil))) (h:=λ x28=>?_);refine A6 ?_)
        all_goals
         refine fR (x3) ?_
         · trivial
   dsimp only[iL,List.map,List.cons_append,List.nil_append]
  all_goals refine Da ?_
  all_goals
   refine oR [5,6,7,8,9,10,11,12,29,30,31,32,33,34,35,36,37,38,39,40,41,42,43,44,45,46,47,48,49,50,51,52,53,54,55,56,57,58,59,60,61,62,63,64,65,66,67,68,69,70,71,72,73,74,75,76,77,78,79,80,81,82,83,84,85,86,87,88,89,90,91,92,93,94,95,96,97,98,99,100,101] (λ y:Nat×XS×List aX=>[]) (λ y=>y.1<=n/\Nx g x y.2.1 y.2.2 (F5 k (mR k.key m) K y.1) 0) (λ y=>[(j,.cells ⟨[.int .i64 k.t.root,.bool k.t.ro]⟩ 29 (0,0)),(x2,.cells ⟨Rs.zero.cells⟩ 64 (0,0)),(bx,xO k bm y.2.1 dn rs),(bm,xM y.2.1)]) (λ y=>aR y.2.2) (λ y=>xW y.2.1) (λ y=>y.1) ((n,x,[])) (⟨Nat.le_refl n,Nx.start go ok |>.cQ go (bM _)⟩) (λ y f hx=>?_) (hw0:=λ w hw=>hw)
   dsimp only[iL,List.map,List.cons_append,List.nil_append]
   obtain⟨hyn,hy⟩:=hx
   all_goals (refine aW ?_;refine kY ?_;refine qT ?_)
   all_goals
    refine bG (λ c33=>?_) (λ c33=>?_)
    · all_goals
       obtain⟨fu,hfu,gx⟩:=gL.kB (T:=λ q=>F5 k (mR k.key m) K q) hy.go (by simpa using c33) rfl hg
      all_goals (refine bD ?_;refine dE ?_;refine J2 ?_;refine bX ?_;refine aC (cM (hs:=xH k bx bm y.2.1 dn rs) (os:=xW y.2.1) (hc:=λ w hs=>Bc hg k.t _ ht gx hy.ok hs)) (λ x36 h36=>?_);refine xT ?_;refine aC (cM (hs:=xH k bx bm x36.2.1 dn rs) (os:=xW x36.2.1) (hc:=λ w hs=>cR x36.1 _ h36.bd h36.go h36.ok hs)) (λ x39 h39=>?_);refine dF ?_;refine J1 ?_;refine dC ?_;refine Hu ?_)
      all_goals
       refine oR [5,7,8,9,10,11,12,41,42,43,44,45,46,47,48,49,50,51,52,53,54,55,56,57,58,59,60,61,62,63,64,65,66,67,68,69,70,71,72,73,74,75,76,77,78,79,80,81,82,83,84,85,86,87,88,89,90,91,92,93,94,95,96,97,98,99,100,101] (λ z:Nat×Int×Int×XS×List aX=>[(5,.int .i64 z.2.1),(7,.int .i64 z.2.2.1),(8,.int .i64 (((fu-z.1):Nat):Int))]) (λ z=>z.1<=fu/\Nx g x z.2.2.2.1 z.2.2.2.2 (Cp k (mR k.key m) K (F5 k (mR k.key m) K fu) (aD x36.2.1.L x36.1).nd.gen z.1 z.2.1 z.2.2.1 (fu-z.1)) z.2.1/\z.2.2.1<=z.2.2.2.1.L.length) (λ z=>[(j,.cells ⟨[.int .i64 k.t.root,.bool k.t.ro]⟩ 29 (0,0)),(x2,.cells ⟨Rs.zero.cells⟩ 64 (0,0)),(bx,xO k bm z.2.2.2.1 dn rs),(bm,xM z.2.2.2.1)]) (λ z=>aR z.2.2.2.2) (λ z=>xW z.2.2.2.1) (λ z=>z.1) ((fu,x36.1,0,x36.2.1,y.2.2++x36.2.2)) (⟨Nat.le_refl fu,(hy.trans h36).cQ (show gL g x36.2.1 (Cp k (mR k.key m) K (F5 k (mR k.key m) K fu) (aD x36.2.1.L x36.1).nd.gen fu x36.1 0 (fu-fu)) from(Nat.sub_self fu).symm▸h39.1) h36.bd,bM _⟩) (λ z f hx=>?_) (hw0:=λ w hw=>(hw.dY fQ).back (hF:=by exact aV.all))
       dsimp only[iL,List.map,List.cons_append,List.nil_append]
       obtain⟨hzf,hz,hzp⟩:=hx
       all_goals (refine aW ?_;refine kY ?_;refine qT ?_)
       all_goals
        refine bG (λ c45=>?_) (λ c45=>?_)
        · all_goals
           obtain⟨fu2,hfu2,gz⟩:=gL.kB (T:=λ q=>(Cp k (mR k.key m) K (F5 k (mR k.key m) K fu) (aD x36.2.1.L x36.1).nd.gen q z.2.1 z.2.2.1 (fu-z.1))) hz.go (by simpa using c45) rfl hg
          all_goals (refine qD ?_;refine J2 ?_;refine bX ?_;refine aA ?_;refine aC (cM (hs:=xH k bx bm z.2.2.2.1 dn rs) (os:=xW z.2.2.2.1) (hc:=λ w hs=>oK hg k.t z.2.1 _ ht hz.bd gz hz.ok hs)) (λ x51 h51=>?_))
          all_goals
           have hl51:=h51.len
           have hb51:=h51.bd
           have hbz:=hz.bd
           have hch:=Ch.nx h51 hz.ch
          all_goals (refine jM ?_;refine kY ?_;refine aH ?_)
          all_goals
           refine bG (λ c55=>?_) (λ c55=>?_)
           · all_goals refine Xq ?_
             all_goals
              refine jJ (by first|exact(fu,x97.2.1,(((z.2.2.2.2++x51.2.2)++x76.2.2.2)++x97.2.2))|exact(fu,x76.2.2.1,((z.2.2.2.2++x51.2.2)++x76.2.2.2))|exact(fu,x68.2.1,((z.2.2.2.2++x51.2.2)++x68.2.2))|exact(fu,x51.2.1,(z.2.2.2.2++x51.2.2))|exact(fu,z.2.2.2.1,z.2.2.2.2)) ?_ (hw1:=λ w hw=>by first|exact(hw.dY iG).back (hF:=by exact aV.all)|exact(hw.dY gU).back (hF:=by exact aV.all)|exact(hw.dY fQ).back (hF:=by exact aV.all)|exact hw.back (hF:=by exact aV.all))
              · first
                 | exact⟨by show fu<=n;omega,(((hz.trans h51).trans h76).trans h97).cQ g4 (bM _)⟩
                 | exact⟨by show fu<=n;omega,((hz.trans h51).trans h76).cQ g3 (bM _)⟩
                 | exact⟨by show fu<=n;omega,((hz.trans h51).trans h68).cQ h68.go (bM _)⟩
                 | exact⟨by show fu<=n;omega,(hz.trans h51).cQ (h51.go.cA (by assumption)) (bM _)⟩
                 | exact⟨by show fu<=n;omega,hz.cQ (hz.go.cA (by simpa using c45)) (bM _)⟩
           · all_goals (refine lG ?_;refine jN ?_;refine aC (cM (hs:=xH k bx bm x51.2.1 dn rs) (os:=xW x51.2.1) (hc:=λ w hs=>cR x51.1 _ h51.bd h51.go h51.ok hs)) (λ x58 h58=>?_);refine dF ?_;refine uS ?_)
             all_goals
              refine bG (λ c60=>?_) (λ c60=>?_)
              · all_goals
                 have g1:=h58.1.to (λ _=>if_pos c60)
                all_goals (refine J2 ?_;refine bX ?_;refine qA ?_;refine qA ?_;refine rS ?_;refine aC (cM (hs:=xH k bx bm x51.2.1 dn rs) (os:=xW x51.2.1) (A0:=aR x51.2.1.L) (hA:=Ch.all hch hA) (hc:=λ w hs=>Kf hg k.t z.2.2.1 z.2.1 (sU k.key m) ((((fu-z.1):Nat):Int)-1) _ ht (by omega) (by omega) (λ f hf=>hf) g1 h51.ok hs)) (λ x68 h68=>?_);refine aH ?_;refine Xq ?_)
                all_goals
                 refine jJ (by first|exact(fu,x97.2.1,(((z.2.2.2.2++x51.2.2)++x76.2.2.2)++x97.2.2))|exact(fu,x76.2.2.1,((z.2.2.2.2++x51.2.2)++x76.2.2.2))|exact(fu,x68.2.1,((z.2.2.2.2++x51.2.2)++x68.2.2))|exact(fu,x51.2.1,(z.2.2.2.2++x51.2.2))|exact(fu,z.2.2.2.1,z.2.2.2.2)) ?_ (hw1:=λ w hw=>by first|exact(hw.dY iG).back (hF:=by exact aV.all)|exact(hw.dY gU).back (hF:=by exact aV.all)|exact(hw.dY fQ).back (hF:=by exact aV.all)|exact hw.back (hF:=by exact aV.all))
                 · first
                    | exact⟨by show fu<=n;omega,(((hz.trans h51).trans h76).trans h97).cQ g4 (bM _)⟩
                    | exact⟨by show fu<=n;omega,((hz.trans h51).trans h76).cQ g3 (bM _)⟩
                    | exact⟨by show fu<=n;omega,((hz.trans h51).trans h68).cQ h68.go (bM _)⟩
                    | exact⟨by show fu<=n;omega,(hz.trans h51).cQ (h51.go.cA (by assumption)) (bM _)⟩
                    | exact⟨by show fu<=n;omega,hz.cQ (hz.go.cA (by simpa using c45)) (bM _)⟩
              · all_goals
                 have g1:=h58.1.to (λ _=>if_neg c60)
                all_goals (refine Ck ?_;refine qA ?_;refine qA ?_;refine aC (cM (hs:=xH k bx bm x51.2.1 dn rs) (os:=xW x51.2.1) (A0:=aR x51.2.1.L) (hA:=Ch.all hch hA) (hc:=λ w hs=>Vl hg z.2.1 x51.1 (sU k.key m) (fu-z.1) (by omega) (aD x36.2.1.L x36.1).nd.gen _ ht (by omega) (by omega) (λ f hf=>hf) g1 h51.ok hs)) (λ x76 h76=>?_))
                all_goals
                 have hl76:=h76.len
                 have hch2:=Ch.nx h76 hch
                all_goals (refine aA ?_;refine aB (bU rf rfl) rfl ?_;refine aB (bU rf rfl) rfl ?_;refine aJ (λ x10=>?_);refine jD (λ _=>?_);refine jM ?_;refine kY ?_;refine aA ?_)
                all_goals ((refine fS 83 (λ g83=>?_) (λ g83=>?_)<;>(first|refine aN ?_|(refine aF ?_;refine aA ?_))))
                all_goals (refine zM ?_;refine aH ?_)
                all_goals
                 refine bG (λ c86=>?_) (λ c86=>?_)
                 · all_goals (refine qF ?_;refine J5 ?_)
                   all_goals
                    refine bE Tryz.results184 (λ w hw=>?_)
                    exact⟨(x76.1,x76.2.2.1,((z.2.2.2.2++x51.2.2)++x76.2.2.2)),rfl,((hz.trans h51).trans h76).cQ (by first|exact h76.go.cA (by assumption)|exact h76.go.to (λ _=>if_pos (by assumption))) (bM _),(hw.dY gU).aS (hF:=by exact aV.all)⟩
                 · try exact nv c86
                   all_goals
                    have g2:=h76.go.to (λ _=>if_neg (by assumption))
                   all_goals (refine lG ?_;refine J2 ?_;refine uS ?_)
                   all_goals
                    refine bG (λ c89=>?_) (λ c89=>?_)
                    · all_goals
                       have g3:=g2.to (λ _=>if_pos (by assumption))
                      all_goals refine Xq ?_
                      all_goals
                       refine jJ (by first|exact(fu,x97.2.1,(((z.2.2.2.2++x51.2.2)++x76.2.2.2)++x97.2.2))|exact(fu,x76.2.2.1,((z.2.2.2.2++x51.2.2)++x76.2.2.2))|exact(fu,x68.2.1,((z.2.2.2.2++x51.2.2)++x68.2.2))|exact(fu,x51.2.1,(z.2.2.2.2++x51.2.2))|exact(fu,z.2.2.2.1,z.2.2.2.2)) ?_ (hw1:=λ w hw=>by first|exact(hw.dY iG).back (hF:=by exact aV.all)|exact(hw.dY gU).back (hF:=by exact aV.all)|exact(hw.dY fQ).back (hF:=by exact aV.all)|exact hw.back (hF:=by exact aV.all))
                       · first
                          | exact⟨by show fu<=n;omega,(((hz.trans h51).trans h76).trans h97).cQ g4 (bM _)⟩
                          | exact⟨by show fu<=n;omega,((hz.trans h51).trans h76).cQ g3 (bM _)⟩
                          | exact⟨by show fu<=n;omega,((hz.trans h51).trans h68).cQ h68.go (bM _)⟩
                          | exact⟨by show fu<=n;omega,(hz.trans h51).cQ (h51.go.cA (by assumption)) (bM _)⟩
                          | exact⟨by show fu<=n;omega,hz.cQ (hz.go.cA (by simpa using c45)) (bM _)⟩
                    · all_goals
                       have g3:=g2.to (λ _=>if_neg (by assumption))
                      all_goals (refine Ck ?_;refine qA ?_;refine aA ?_;refine aY (cV (hc:=λ w1 hw=>fU (sU k.key m) (((fu-z.1):Nat):Int) w1)) (λ x95=>?_);refine aA ?_;refine aC (cM (hs:=xH k bx bm x76.2.2.1 dn rs) (os:=xW x76.2.2.1) (A0:=aR x76.2.2.1.L) (hA:=Ch.all hch2 hA) (hc:=λ w hs=>Ux hg z.2.1 x51.1 (gZ (mR k.key m) (((fu-z.1):Nat):Int)) (aD x36.2.1.L x36.1).nd.gen _ ht (by omega) (by omega) (λ f hf=>hf) g3 h76.ok hs)) (λ x97 h97=>?_);refine jM ?_;refine J2 ?_;refine uS ?_)
                      all_goals
                       refine bG (λ c99=>?_) (λ c99=>?_)
                       · all_goals
                          have g4:=h97.go.to (λ _=>if_pos (by assumption))
                         all_goals refine Xq ?_
                         all_goals
                          refine jJ (by first|exact(fu,x97.2.1,(((z.2.2.2.2++x51.2.2)++x76.2.2.2)++x97.2.2))|exact(fu,x76.2.2.1,((z.2.2.2.2++x51.2.2)++x76.2.2.2))|exact(fu,x68.2.1,((z.2.2.2.2++x51.2.2)++x68.2.2))|exact(fu,x51.2.1,(z.2.2.2.2++x51.2.2))|exact(fu,z.2.2.2.1,z.2.2.2.2)) ?_ (hw1:=λ w hw=>by first|exact(hw.dY iG).back (hF:=by exact aV.all)|exact(hw.dY gU).back (hF:=by exact aV.all)|exact(hw.dY fQ).back (hF:=by exact aV.all)|exact hw.back (hF:=by exact aV.all))
                          · first
                             | exact⟨by show fu<=n;omega,(((hz.trans h51).trans h76).trans h97).cQ g4 (bM _)⟩
                             | exact⟨by show fu<=n;omega,((hz.trans h51).trans h76).cQ g3 (bM _)⟩
                             | exact⟨by show fu<=n;omega,((hz.trans h51).trans h68).cQ h68.go (bM _)⟩
                             | exact⟨by show fu<=n;omega,(hz.trans h51).cQ (h51.go.cA (by assumption)) (bM _)⟩
                             | exact⟨by show fu<=n;omega,hz.cQ (hz.go.cA (by simpa using c45)) (bM _)⟩
                       · all_goals
                          have g4:=h97.go.to (λ _=>if_neg (by assumption))
                         all_goals (refine bD ?_;refine Ic ?_;refine J8 ?_;refine fT ?_;refine zL ?_)
                         all_goals
                          refine jJ ((z.1-1,x97.1,z.2.1,x97.2.1,(((z.2.2.2.2++x51.2.2)++x76.2.2.2)++x97.2.2))) ?_ (hw1:=λ w hw=>(hw.dY iG).back (hF:=by exact aV.all))
                          · have e1:z.1-1=fu2:=by omega
                            have e2:(fu-z.1)+1=fu-fu2:=by omega
                            refine⟨by show z.1-1<=fu;omega,((((hz.trans h51).trans h76).trans h97)).cQ ?_ h97.bd,by show z.2.1<=(x97.2.1.L.length:Int);have:=h97.len;omega⟩
                            show gL g x97.2.1 (Cp k (mR k.key m) K (F5 k (mR k.key m) K fu) (aD x36.2.1.L x36.1).nd.gen (z.1-1) x97.1 z.2.1 (fu-(z.1-1)))
                            rw[e1,<- e2]
                            exact g4
        · all_goals refine Xq ?_
          all_goals
           refine jJ (by first|exact(fu,x97.2.1,(((z.2.2.2.2++x51.2.2)++x76.2.2.2)++x97.2.2))|exact(fu,x76.2.2.1,((z.2.2.2.2++x51.2.2)++x76.2.2.2))|exact(fu,x68.2.1,((z.2.2.2.2++x51.2.2)++x68.2.2))|exact(fu,x51.2.1,(z.2.2.2.2++x51.2.2))|exact(fu,z.2.2.2.1,z.2.2.2.2)) ?_ (hw1:=λ w hw=>by first|exact(hw.dY iG).back (hF:=by exact aV.all)|exact(hw.dY gU).back (hF:=by exact aV.all)|exact(hw.dY fQ).back (hF:=by exact aV.all)|exact hw.back (hF:=by exact aV.all))
           · first
              | exact⟨by show fu<=n;omega,(((hz.trans h51).trans h76).trans h97).cQ g4 (bM _)⟩
              | exact⟨by show fu<=n;omega,((hz.trans h51).trans h76).cQ g3 (bM _)⟩
              | exact⟨by show fu<=n;omega,((hz.trans h51).trans h68).cQ h68.go (bM _)⟩
              | exact⟨by show fu<=n;omega,(hz.trans h51).cQ (h51.go.cA (by assumption)) (bM _)⟩
              | exact⟨by show fu<=n;omega,hz.cQ (hz.go.cA (by simpa using c45)) (bM _)⟩
    · all_goals (refine bV rfl ?_;refine J0 ?_;refine wJ ?_)
      all_goals
       refine bE Tryz.results184 (λ w hw=>?_)
       exact⟨(Rs.zero,y.2.1,y.2.2),rfl,hy.cQ (hy.go.cA (by simpa using c33)) (bM _),hw.aS (hF:=by exact aV.all)⟩
end
end

/- Guards that are not wanted themselves. -/
end Go.Proofs.YtbajmaoegmbfgaaGreat
namespace Go.Ct
section
open Go Go.RowKit
variable{P:Program}{n:Nat}{Q:Exit->Act->World->Prop}{ks:List CK}{ops:Array Oper}{l:List Oper}{S:List (Nat×Value)}{G:World->Prop}
theorem O2{d:Nat}{op:Op}{ty:TypeId}{pos:String}{af:Array Edge}{j:Nat}{want:Bool}{g:Nat}(hd:Nat.blt d n=true)
  (hj:(ops[j]?).bind (·.dst)=some g) (hg:look S g=undef)
  (h:JL P n Q ks ops l ((d,undef)::S) G):JL P n Q ks ops (⟨some d,op,ty,pos,af,some (j,want)⟩::l) S G:=⟨λ hS w hw=>by
 have hy:yielded ops (eO n S) j=none:=by
  have e:=congrFun (jG (ds:=[]) hS) (.tmp g)
  simp only[Act.eval,ev,hg] at e
  unfold yielded
  rw[hj]
  simp only[Option.bind_some]
  rw[Array.getD_eq_getD_getElem?] at e
  cases h2:(eO n S)[g]? with
  | none=>rfl
  | some u=>rw[h2] at e;simp[undef] at e;subst e;rfl
 refine wpList_step λ K hK=>?_
 have hw':Region.wanted ⟨some d,op,ty,pos,af,some (j,want)⟩ (yielded ops (eO n S))=false:=by
  simp only[Region.wanted,hy]
  rfl
 simp only[hw',Bool.false_eq_true,if_false,Bo]
 exact hK _ _ (h.run (hS.cons hd) w hw)⟩
end
end Go.Ct
namespace Go.Proofs.YtbajmaoegmbfgaaGreat
section
open Go.RowKit Go.Ct
theorem Au{n:Nat}{Q:Exit->Act->World->Prop}{ks:List CK}{ops:Array Oper}{l:List Oper}{S:List (Nat×Value)}{G:World->Prop}{d j g:Nat}{op:Op}{ty:TypeId}{pos:String}{af:Array Edge}{want:Bool}(h:JL Tryz.prog n Q ks ops l ((d,undef)::S) G)(hd:Nat.blt d n=true:=by exact rfl)(hj:(ops[j]?).bind (·.dst)=some g:=by exact rfl)(hg:Ct.look S g=undef:=by exact rfl):JL Tryz.prog n Q ks ops (⟨some d,op,ty,pos,af,some (j,want)⟩::l) S G:=O2 hd hj hg h
end

end Go.Proofs.YtbajmaoegmbfgaaGreat

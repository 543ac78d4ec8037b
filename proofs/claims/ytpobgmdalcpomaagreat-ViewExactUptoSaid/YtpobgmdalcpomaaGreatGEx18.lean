/- Executions of the reference: PUT. -/
import Derived.Test.YtpobgmdalcpomaaGreatEx17
import Derived.Test.YtpobgmdalcpomaaGreatAuto

set_option linter.unusedSimpArgs false
set_option linter.unusedVariables false
namespace Go.Ct
section
open Go Go.RowKit
theorem gP{a b c:List aQ}:∀f∈bG ((a++b)++c),f.2=[]∨f∈bG c++(bG b++bG a):=λ f hf=>by
 simp only[fC,List.mem_append] at hf ⊢
 rcases hf with(h|h)|h
 ·exact .inr (.inr (.inr h))
 ·exact .inr (.inr (.inl h))
 ·exact .inr (.inl h)
theorem hZ{a b c d:List aQ}:∀f∈bG (((a++b)++c)++d),f.2=[]∨f∈bG d++(bG c++(bG b++bG a)):=λ f hf=>by
 simp only[fC,List.mem_append] at hf ⊢
 rcases hf with((h|h)|h)|h
 ·exact .inr (.inr (.inr (.inr h)))
 ·exact .inr (.inr (.inr (.inl h)))
 ·exact .inr (.inr (.inl h))
 ·exact .inr (.inl h)
end
end Go.Ct
namespace Go.Proofs.YtpobgmdalcpomaaGreat
section
open Go Go.RowKit Go.Ct
section
variable{k:Cl}{bx bm:Nat}{x:XS}{dn:Bool}{rs:Rs}{D:List Nat}{A:Fr}{w:World}{g:Gx}
set_option maxRecDepth 100000 in
theorem va(hg:g.Ok){m:Nat}(K:Rs->Tr)(n:Nat)(hn:n<=1073741824)(hm:m<18446744073709551616)(em:k.mask=(m:Int))(ek:k.key.size<=64)(ht:k.t.root<=9223372036854775807)(hA:∀f∈bG x.L,f∈A)(go:gC g x (Fl k (lP k.key m) K n))(ok:x.Ok)(hs:SF w D (xH k bx bm x dn rs) A [] (xW x) w):Calls Tryz.prog 84 #[.pointer (some ⟨bx,0,none⟩)] w λ e w'=>∃q:Rs×XS×List aQ,e=.returned (.agg ⟨q.1.cells⟩)/\Nx g x q.2.1 q.2.2 (K q.1) 0/\SF w D (xH k bx bm q.2.1 dn rs) [] (bG q.2.2) (xW q.2.1) w':=by
  refine enter Tryz.func84 Tryz.ntmps84 rfl rfl (cN hs) ?_
  simp only[dB]
  all_goals (refine J0 ?_;refine aY (λ x2=>?_);refine Iz ?_)
  all_goals
   refine fH [3,4,13,14,15,16,17,18,19,20,21,22,23,24,25,26,27,28] (λ j:Nat=>[(3,.pointer (some ⟨j,0,none⟩)),(4,.int .u64 (((lP k.key m):Nat):Int))]) (λ _=>True) (λ j=>[(j,.cells ⟨[.int .i64 k.t.root,.bool k.t.ro]⟩ 33 (0,0)),(x2,.cells ⟨Rs.zero.cells⟩ 81 (0,0)),(bx,xO k bm x dn rs),(bm,xM x)]) (λ _=>[]) (λ _=>xW x) (by decide) (λ _=>by exact rfl) ?_ (λ j f hx=>?_)
   · refine gU (.one 0 [] (.one 1 [] (.one 2 [] (.one 3 [] (.one 4 [] (.one 5 [] (.one 6 [] (.one 7 [] (.one 8 [] (.one 9 [] (.one 10 [] (.one 11 [] (.one 12 [] (.one 13 [] (.one 14 [] (.two 15 [4] (.one 16 [4,9,14] (.one 17 [] (.one 18 [] .nil))) 0 [] (.two 16 [4,9,14] (.one 15 [4] (.one 17 [] (.one 18 [] .nil))) 0 [] .nil))))))))))))))))) ?_
     all_goals (refine J9 ?_;refine aX ?_;refine bP (i:=4) (hq:=(aM (k:=2) (vs:=[.int .i64 k.t.root,.bool k.t.ro]) rf cQ dS rfl rfl)) (h:=?_);refine tO ?_;refine tO ?_)
     all_goals
      refine gS (E:=[15,16]) (by decide +kernel) ((.cons ?_ (.cons ?_ .nil)))
      · (refine mI (i:=15) (hq:=(cV (hc:=λ w1 hw=>mS em hm ek w1))) (hfire:=(λ _=>by first|(refine aI.cons (by first|exact dC (hq:=aM (k:=2) (vs:=[.int .i64 k.t.root,.bool k.t.ro]) rf cQ dS rfl rfl)|exact a_un) ?_;exact aI.nil)|(refine bK ?_;refine aI.cons (by first|exact dC (hq:=aM (k:=2) (vs:=[.int .i64 k.t.root,.bool k.t.ro]) rf cQ dS rfl rfl)|exact a_un) ?_;exact aI.nil))) (h:=λ x28=>?_);try (refine aK (λ h28=>?_)))
        all_goals (refine iM (hfire:=(λ _=>by first|((repeat (first|exact aI.nil|refine aI.cons (by first|exact dC (hq:=aM (k:=2) (vs:=[.int .i64 k.t.root,.bool k.t.ro]) rf cQ dS rfl rfl)|exact cL|exact a_un) ?_));done)|(refine bK ?_;(repeat (first|exact aI.nil|refine aI.cons (by first|exact dC (hq:=aM (k:=2) (vs:=[.int .i64 k.t.root,.bool k.t.ro]) rf cQ dS rfl rfl)|exact cL|exact a_un) ?_));done))) (h:=λ x3=>?_);refine Bp ?_)
        all_goals
         refine fM (x3) ?_
         · trivial
      · refine iL (i:=16) (hfire:=(λ _=>by first|((repeat (first|exact aI.nil|refine aI.cons (by first|exact dC (hq:=aM (k:=2) (vs:=[.int .i64 k.t.root,.bool k.t.ro]) rf cQ dS rfl rfl)|exact cL|exact a_un) ?_));done)|(refine bK ?_;(repeat (first|exact aI.nil|refine aI.cons (by first|exact dC (hq:=aM (k:=2) (vs:=[.int .i64 k.t.root,.bool k.t.ro]) rf cQ dS rfl rfl)|exact cL|exact a_un) ?_));done))) (h:=λ x3=>?_)
        all_goals (((refine bA (i:=15) (hq:=(cV (hc:=λ w1 hw=>mS em hm ek w1))) (hfire:=(λ _=>by first|(refine aI.cons (by first|exact dC (hq:=aM (k:=2) (vs:=[.int .i64 k.t.root,.bool k.t.ro]) rf cQ dS rfl rfl)|exact a_un) ?_;exact aI.nil)|(refine bK ?_;refine aI.cons (by first|exact dC (hq:=aM (k:=2) (vs:=[.int .i64 k.t.root,.bool k.t.ro]) rf cQ dS rfl rfl)|exact a_un) ?_;exact aI.nil))) (h:=λ x28=>?_);try (refine aK (λ h28=>?_))));refine Bp ?_)
        all_goals
         refine fM (x3) ?_
         · trivial
   dsimp only[gW,List.map,List.cons_append,List.nil_append]
  all_goals refine C6 ?_
  all_goals
   refine lO [5,6,7,8,9,10,11,12,29,30,31,32,33,34,35,36,37,38,39,40,41,42,43,44,45,46,47,48,49,50,51,52,53,54,55,56,57,58,59,60,61,62,63,64,65,66,67,68,69,70,71,72,73,74,75,76,77,78,79,80,81,82,83,84,85,86,87,88,89,90,91,92,93,94,95,96,97,98,99,100,101] (λ y:Nat×XS×List aQ=>[]) (λ y=>y.1<=n/\Nx g x y.2.1 y.2.2 (Fl k (lP k.key m) K y.1) 0) (λ y=>[(j,.cells ⟨[.int .i64 k.t.root,.bool k.t.ro]⟩ 33 (0,0)),(x2,.cells ⟨Rs.zero.cells⟩ 81 (0,0)),(bx,xO k bm y.2.1 dn rs),(bm,xM y.2.1)]) (λ y=>bG y.2.2) (λ y=>xW y.2.1) (λ y=>y.1) ((n,x,[])) (⟨Nat.le_refl n,Nx.start go ok |>.cX go (bS _)⟩) (λ y f hx=>?_) (hw0:=λ w hw=>hw)
   dsimp only[gW,List.map,List.cons_append,List.nil_append]
   obtain⟨hyn,hy⟩:=hx
   all_goals (refine aT ?_;refine kZ ?_;refine kD ?_)
   all_goals
    refine bF (λ c33=>?_) (λ c33=>?_)
    · try exact nv c33
      all_goals
       obtain⟨fu,hfu,gx⟩:=gC.jT (T:=λ q=>Fl k (lP k.key m) K q) hy.go (by simpa using c33) rfl hg
      all_goals (refine aZ ?_;refine cZ ?_;refine J2 ?_;refine bJ ?_;(refine aF (cM (hs:=xH k bx bm y.2.1 dn rs) (os:=xW y.2.1) (hc:=λ w hs=>A4 hg k.t _ ht gx hy.ok hs)) (λ x36=>?_);try (refine aB (λ h36=>?_)));refine yQ ?_;(refine aF (cM (hs:=xH k bx bm x36.2.1 dn rs) (os:=xW x36.2.1) (hc:=λ w hs=>cY x36.1 _ h36.bd h36.go h36.ok hs)) (λ x39=>?_);try (refine aB (λ h39=>?_)));refine cP ?_;refine J1 ?_;refine dH ?_;refine Cq ?_)
      all_goals
       refine lO [5,7,8,9,10,11,12,41,42,43,44,45,46,47,48,49,50,51,52,53,54,55,56,57,58,59,60,61,62,63,64,65,66,67,68,69,70,71,72,73,74,75,76,77,78,79,80,81,82,83,84,85,86,87,88,89,90,91,92,93,94,95,96,97,98,99,100,101] (λ z:Nat×Int×Int×XS×List aQ=>[(5,.int .i64 z.2.1),(7,.int .i64 z.2.2.1),(8,.int .i64 (((fu-z.1):Nat):Int))]) (λ z=>z.1<=fu/\Nx g x z.2.2.2.1 z.2.2.2.2 (Ck k (lP k.key m) K (Fl k (lP k.key m) K fu) (aD x36.2.1.L x36.1).nd.gen z.1 z.2.1 z.2.2.1 (fu-z.1)) z.2.1/\z.2.2.1<=z.2.2.2.1.L.length) (λ z=>[(j,.cells ⟨[.int .i64 k.t.root,.bool k.t.ro]⟩ 33 (0,0)),(x2,.cells ⟨Rs.zero.cells⟩ 81 (0,0)),(bx,xO k bm z.2.2.2.1 dn rs),(bm,xM z.2.2.2.1)]) (λ z=>bG z.2.2.2.2) (λ z=>xW z.2.2.2.1) (λ z=>z.1) ((fu,x36.1,0,x36.2.1,y.2.2++x36.2.2)) (⟨Nat.le_refl fu,(hy.trans h36).cX (show gC g x36.2.1 (Ck k (lP k.key m) K (Fl k (lP k.key m) K fu) (aD x36.2.1.L x36.1).nd.gen fu x36.1 0 (fu-fu)) from(Nat.sub_self fu).symm▸h39.1) h36.bd,bS _⟩) (λ z f hx=>?_) (hw0:=λ w hw=>(hw.dO fL).back (hF:=by exact aW.all))
       dsimp only[gW,List.map,List.cons_append,List.nil_append]
       obtain⟨hzf,hz,hzp⟩:=hx
       all_goals (refine aT ?_;refine kZ ?_;refine kD ?_)
       all_goals
        refine bF (λ c45=>?_) (λ c45=>?_)
        · try exact nv c45
          all_goals
           obtain⟨fu2,hfu2,gz⟩:=gC.jT (T:=λ q=>(Ck k (lP k.key m) K (Fl k (lP k.key m) K fu) (aD x36.2.1.L x36.1).nd.gen q z.2.1 z.2.2.1 (fu-z.1))) hz.go (by simpa using c45) rfl hg
          all_goals (refine oD ?_;refine J2 ?_;refine bJ ?_;refine aA ?_;(refine aF (cM (hs:=xH k bx bm z.2.2.2.1 dn rs) (os:=xW z.2.2.2.1) (hc:=λ w hs=>nT hg k.t z.2.1 _ ht hz.bd gz hz.ok hs)) (λ x51=>?_);try (refine aB (λ h51=>?_))))
          all_goals
           have hl51:=h51.len
           have hb51:=h51.bd
           have hbz:=hz.bd
           have hch:=Ch.nx h51 hz.ch
          all_goals (refine iI ?_;refine kZ ?_;refine aN ?_)
          all_goals
           refine bF (λ c55=>?_) (λ c55=>?_)
           · try exact nv c55
             all_goals refine Wh ?_
             all_goals
              refine gY (by first|exact(fu,x97.2.1,(((z.2.2.2.2++x51.2.2)++x76.2.2.2)++x97.2.2))|exact(fu,x76.2.2.1,((z.2.2.2.2++x51.2.2)++x76.2.2.2))|exact(fu,x68.2.1,((z.2.2.2.2++x51.2.2)++x68.2.2))|exact(fu,x51.2.1,(z.2.2.2.2++x51.2.2))|exact(fu,z.2.2.2.1,z.2.2.2.2)) ?_ (hw1:=λ w hw=>by first|exact(hw.dO hZ).back (hF:=by exact aW.all)|exact(hw.dO gP).back (hF:=by exact aW.all)|exact(hw.dO fL).back (hF:=by exact aW.all)|exact hw.back (hF:=by exact aW.all))
              · first
                 | exact⟨by show fu<=n;omega,(((hz.trans h51).trans h76).trans h97).cX g4 (bS _)⟩
                 | exact⟨by show fu<=n;omega,((hz.trans h51).trans h76).cX g3 (bS _)⟩
                 | exact⟨by show fu<=n;omega,((hz.trans h51).trans h68).cX h68.go (bS _)⟩
                 | exact⟨by show fu<=n;omega,(hz.trans h51).cX (h51.go.cA (by assumption)) (bS _)⟩
                 | exact⟨by show fu<=n;omega,hz.cX (hz.go.cA (by simpa using c45)) (bS _)⟩
           · try exact nv c55
             all_goals (refine iW ?_;refine jE ?_;(refine aF (cM (hs:=xH k bx bm x51.2.1 dn rs) (os:=xW x51.2.1) (hc:=λ w hs=>cY x51.1 _ h51.bd h51.go h51.ok hs)) (λ x58=>?_);try (refine aB (λ h58=>?_)));refine cP ?_;refine tE ?_)
             all_goals
              refine bF (λ c60=>?_) (λ c60=>?_)
              · try exact nv c60
                all_goals
                 have g1:=h58.1.to (λ _=>if_pos c60)
                all_goals (refine J2 ?_;refine bJ ?_;refine oI ?_;refine oI ?_;refine kN ?_;(refine aF (cM (hs:=xH k bx bm x51.2.1 dn rs) (os:=xW x51.2.1) (A0:=bG x51.2.1.L) (hA:=Ch.all hch hA) (hc:=λ w hs=>I5 hg k.t z.2.2.1 z.2.1 (sA k.key m) ((((fu-z.1):Nat):Int)-1) _ ht (by omega) (by omega) (λ f hf=>hf) g1 h51.ok hs)) (λ x68=>?_);try (refine aB (λ h68=>?_)));refine aN ?_;refine Wh ?_)
                all_goals
                 refine gY (by first|exact(fu,x97.2.1,(((z.2.2.2.2++x51.2.2)++x76.2.2.2)++x97.2.2))|exact(fu,x76.2.2.1,((z.2.2.2.2++x51.2.2)++x76.2.2.2))|exact(fu,x68.2.1,((z.2.2.2.2++x51.2.2)++x68.2.2))|exact(fu,x51.2.1,(z.2.2.2.2++x51.2.2))|exact(fu,z.2.2.2.1,z.2.2.2.2)) ?_ (hw1:=λ w hw=>by first|exact(hw.dO hZ).back (hF:=by exact aW.all)|exact(hw.dO gP).back (hF:=by exact aW.all)|exact(hw.dO fL).back (hF:=by exact aW.all)|exact hw.back (hF:=by exact aW.all))
                 · first
                    | exact⟨by show fu<=n;omega,(((hz.trans h51).trans h76).trans h97).cX g4 (bS _)⟩
                    | exact⟨by show fu<=n;omega,((hz.trans h51).trans h76).cX g3 (bS _)⟩
                    | exact⟨by show fu<=n;omega,((hz.trans h51).trans h68).cX h68.go (bS _)⟩
                    | exact⟨by show fu<=n;omega,(hz.trans h51).cX (h51.go.cA (by assumption)) (bS _)⟩
                    | exact⟨by show fu<=n;omega,hz.cX (hz.go.cA (by simpa using c45)) (bS _)⟩
              · try exact nv c60
                all_goals
                 have g1:=h58.1.to (λ _=>if_neg c60)
                all_goals (refine Ak ?_;refine oI ?_;refine oI ?_;(refine aF (cM (hs:=xH k bx bm x51.2.1 dn rs) (os:=xW x51.2.1) (A0:=bG x51.2.1.L) (hA:=Ch.all hch hA) (hc:=λ w hs=>Ug hg z.2.1 x51.1 (sA k.key m) (fu-z.1) (by omega) (aD x36.2.1.L x36.1).nd.gen _ ht (by omega) (by omega) (λ f hf=>hf) g1 h51.ok hs)) (λ x76=>?_);try (refine aB (λ h76=>?_))))
                all_goals
                 have hl76:=h76.len
                 have hch2:=Ch.nx h76 hch
                all_goals (refine aA ?_;refine aH (bX rf rfl) rfl ?_;refine aH (bX rf rfl) rfl ?_;refine aY (λ x10=>?_);refine nA (λ _=>?_);refine iI ?_;refine kZ ?_;refine aA ?_)
                all_goals (first|refine aG ?_|(refine aC ?_;refine aA ?_)|(refine dG 83 (λ g83=>?_) (λ g83=>?_)<;>(first|refine aG ?_|(refine aC ?_;refine aA ?_))))
                all_goals (refine rM ?_;refine aN ?_)
                all_goals
                 refine bF (λ c86=>?_) (λ c86=>?_)
                 · try exact nv c86
                   all_goals (refine iU ?_;refine J5 ?_)
                   all_goals
                    refine bH Tryz.results84 (λ w hw=>?_)
                    exact⟨(x76.1,x76.2.2.1,((z.2.2.2.2++x51.2.2)++x76.2.2.2)),rfl,((hz.trans h51).trans h76).cX (by first|exact h76.go.cA (by assumption)|exact h76.go.to (λ _=>if_pos (by assumption))) (bS _),(hw.dO gP).aV (hF:=by exact aW.all)⟩
                 · try exact nv c86
                   all_goals
                    have g2:=h76.go.to (λ _=>if_neg (by assumption))
                   all_goals (refine iW ?_;refine J2 ?_;refine tE ?_)
                   all_goals
                    refine bF (λ c89=>?_) (λ c89=>?_)
                    · try exact nv c89
                      all_goals
                       have g3:=g2.to (λ _=>if_pos (by assumption))
                      all_goals refine Wh ?_
                      all_goals
                       refine gY (by first|exact(fu,x97.2.1,(((z.2.2.2.2++x51.2.2)++x76.2.2.2)++x97.2.2))|exact(fu,x76.2.2.1,((z.2.2.2.2++x51.2.2)++x76.2.2.2))|exact(fu,x68.2.1,((z.2.2.2.2++x51.2.2)++x68.2.2))|exact(fu,x51.2.1,(z.2.2.2.2++x51.2.2))|exact(fu,z.2.2.2.1,z.2.2.2.2)) ?_ (hw1:=λ w hw=>by first|exact(hw.dO hZ).back (hF:=by exact aW.all)|exact(hw.dO gP).back (hF:=by exact aW.all)|exact(hw.dO fL).back (hF:=by exact aW.all)|exact hw.back (hF:=by exact aW.all))
                       · first
                          | exact⟨by show fu<=n;omega,(((hz.trans h51).trans h76).trans h97).cX g4 (bS _)⟩
                          | exact⟨by show fu<=n;omega,((hz.trans h51).trans h76).cX g3 (bS _)⟩
                          | exact⟨by show fu<=n;omega,((hz.trans h51).trans h68).cX h68.go (bS _)⟩
                          | exact⟨by show fu<=n;omega,(hz.trans h51).cX (h51.go.cA (by assumption)) (bS _)⟩
                          | exact⟨by show fu<=n;omega,hz.cX (hz.go.cA (by simpa using c45)) (bS _)⟩
                    · try exact nv c89
                      all_goals
                       have g3:=g2.to (λ _=>if_neg (by assumption))
                      all_goals (refine Ak ?_;refine oI ?_;refine aA ?_;(refine aF (cV (hc:=λ w1 hw=>fN (sA k.key m) (((fu-z.1):Nat):Int) w1)) (λ x95=>?_);try (refine aB (λ h95=>?_)));refine aA ?_;(refine aF (cM (hs:=xH k bx bm x76.2.2.1 dn rs) (os:=xW x76.2.2.1) (A0:=bG x76.2.2.1.L) (hA:=Ch.all hch2 hA) (hc:=λ w hs=>Ty hg z.2.1 x51.1 (gZ (lP k.key m) (((fu-z.1):Nat):Int)) (aD x36.2.1.L x36.1).nd.gen _ ht (by omega) (by omega) (λ f hf=>hf) g3 h76.ok hs)) (λ x97=>?_);try (refine aB (λ h97=>?_)));refine iI ?_;refine J2 ?_;refine tE ?_)
                      all_goals
                       refine bF (λ c99=>?_) (λ c99=>?_)
                       · try exact nv c99
                         all_goals
                          have g4:=h97.go.to (λ _=>if_pos (by assumption))
                         all_goals refine Wh ?_
                         all_goals
                          refine gY (by first|exact(fu,x97.2.1,(((z.2.2.2.2++x51.2.2)++x76.2.2.2)++x97.2.2))|exact(fu,x76.2.2.1,((z.2.2.2.2++x51.2.2)++x76.2.2.2))|exact(fu,x68.2.1,((z.2.2.2.2++x51.2.2)++x68.2.2))|exact(fu,x51.2.1,(z.2.2.2.2++x51.2.2))|exact(fu,z.2.2.2.1,z.2.2.2.2)) ?_ (hw1:=λ w hw=>by first|exact(hw.dO hZ).back (hF:=by exact aW.all)|exact(hw.dO gP).back (hF:=by exact aW.all)|exact(hw.dO fL).back (hF:=by exact aW.all)|exact hw.back (hF:=by exact aW.all))
                          · first
                             | exact⟨by show fu<=n;omega,(((hz.trans h51).trans h76).trans h97).cX g4 (bS _)⟩
                             | exact⟨by show fu<=n;omega,((hz.trans h51).trans h76).cX g3 (bS _)⟩
                             | exact⟨by show fu<=n;omega,((hz.trans h51).trans h68).cX h68.go (bS _)⟩
                             | exact⟨by show fu<=n;omega,(hz.trans h51).cX (h51.go.cA (by assumption)) (bS _)⟩
                             | exact⟨by show fu<=n;omega,hz.cX (hz.go.cA (by simpa using c45)) (bS _)⟩
                       · try exact nv c99
                         all_goals
                          have g4:=h97.go.to (λ _=>if_neg (by assumption))
                         all_goals (refine aZ ?_;refine Fk ?_;refine J8 ?_;refine eV ?_;refine uH ?_)
                         all_goals
                          refine gY ((z.1-1,x97.1,z.2.1,x97.2.1,(((z.2.2.2.2++x51.2.2)++x76.2.2.2)++x97.2.2))) ?_ (hw1:=λ w hw=>(hw.dO hZ).back (hF:=by exact aW.all))
                          · have e1:z.1-1=fu2:=by omega
                            have e2:(fu-z.1)+1=fu-fu2:=by omega
                            refine⟨by show z.1-1<=fu;omega,((((hz.trans h51).trans h76).trans h97)).cX ?_ h97.bd,by show z.2.1<=(x97.2.1.L.length:Int);have:=h97.len;omega⟩
                            show gC g x97.2.1 (Ck k (lP k.key m) K (Fl k (lP k.key m) K fu) (aD x36.2.1.L x36.1).nd.gen (z.1-1) x97.1 z.2.1 (fu-(z.1-1)))
                            rw[e1,<- e2]
                            exact g4
        · try exact nv c45
          all_goals refine Wh ?_
          all_goals
           refine gY (by first|exact(fu,x97.2.1,(((z.2.2.2.2++x51.2.2)++x76.2.2.2)++x97.2.2))|exact(fu,x76.2.2.1,((z.2.2.2.2++x51.2.2)++x76.2.2.2))|exact(fu,x68.2.1,((z.2.2.2.2++x51.2.2)++x68.2.2))|exact(fu,x51.2.1,(z.2.2.2.2++x51.2.2))|exact(fu,z.2.2.2.1,z.2.2.2.2)) ?_ (hw1:=λ w hw=>by first|exact(hw.dO hZ).back (hF:=by exact aW.all)|exact(hw.dO gP).back (hF:=by exact aW.all)|exact(hw.dO fL).back (hF:=by exact aW.all)|exact hw.back (hF:=by exact aW.all))
           · first
              | exact⟨by show fu<=n;omega,(((hz.trans h51).trans h76).trans h97).cX g4 (bS _)⟩
              | exact⟨by show fu<=n;omega,((hz.trans h51).trans h76).cX g3 (bS _)⟩
              | exact⟨by show fu<=n;omega,((hz.trans h51).trans h68).cX h68.go (bS _)⟩
              | exact⟨by show fu<=n;omega,(hz.trans h51).cX (h51.go.cA (by assumption)) (bS _)⟩
              | exact⟨by show fu<=n;omega,hz.cX (hz.go.cA (by simpa using c45)) (bS _)⟩
    · try exact nv c33
      all_goals (refine bQ rfl ?_;refine J0 ?_;refine zN ?_)
      all_goals
       refine bH Tryz.results84 (λ w hw=>?_)
       exact⟨(Rs.zero,y.2.1,y.2.2),rfl,hy.cX (hy.go.cA (by simpa using c33)) (bS _),hw.aV (hF:=by exact aW.all)⟩
end
end

/- Guards that are not wanted themselves. -/
end Go.Proofs.YtpobgmdalcpomaaGreat
namespace Go.Ct
section
open Go Go.RowKit
variable{P:Program}{n:Nat}{Q:Exit->Act->World->Prop}{ks:List CK}{ops:Array Oper}{l:List Oper}{S:List (Nat×Value)}{G:World->Prop}
theorem Mq{d:Nat}{op:Op}{ty:TypeId}{pos:String}{af:Array Edge}{j:Nat}{want:Bool}{g:Nat}(hd:Nat.blt d n=true)
  (hj:(ops[j]?).bind (·.dst)=some g) (hg:look S g=undef)
  (h:JL P n Q ks ops l ((d,undef)::S) G):JL P n Q ks ops (⟨some d,op,ty,pos,af,some (j,want)⟩::l) S G:=⟨λ hS w hw=>by
 have hy:yielded ops (eX n S) j=none:=by
  have e:=congrFun (oL (ds:=[]) hS) (.tmp g)
  simp only[Act.eval,ev,hg] at e
  unfold yielded
  rw[hj]
  simp only[Option.bind_some]
  rw[Array.getD_eq_getD_getElem?] at e
  cases h2:(eX n S)[g]? with
  | none=>rfl
  | some u=>rw[h2] at e;simp[undef] at e;subst e;rfl
 refine wpList_step λ K hK=>?_
 have hw':Region.wanted ⟨some d,op,ty,pos,af,some (j,want)⟩ (yielded ops (eX n S))=false:=by
  simp only[Region.wanted,hy]
  rfl
 simp only[hw',Bool.false_eq_true,if_false,La]
 exact hK _ _ (h.run (hS.cons hd) w hw)⟩
end
end Go.Ct
namespace Go.Proofs.YtpobgmdalcpomaaGreat
section
open Go.RowKit Go.Ct
theorem fE{n:Nat}{Q:Exit->Act->World->Prop}{ks:List CK}{ops:Array Oper}{l:List Oper}{S:List (Nat×Value)}{G:World->Prop}{d j g:Nat}{op:Op}{ty:TypeId}{pos:String}{af:Array Edge}{want:Bool}(h:JL Tryz.prog n Q ks ops l ((d,undef)::S) G)(hd:Nat.blt d n=true:=by exact rfl)(hj:(ops[j]?).bind (·.dst)=some g:=by exact rfl)(hg:Ct.look S g=undef:=by exact rfl):JL Tryz.prog n Q ks ops (⟨some d,op,ty,pos,af,some (j,want)⟩::l) S G:=Mq hd hj hg h
end

end Go.Proofs.YtpobgmdalcpomaaGreat

/- Executions of the reference: COPY, SNAPSHOT, CLEAR. -/
import Derived.Test.YtbajmaoegmbfgaaGreatGEx20
set_option linter.unusedSimpArgs false
set_option linter.unusedVariables false
namespace Go.Ct
open Go Go.RowKit
theorem Wh{n c:Nat}:mU n c {(({Nd.zero with kind:=3}:Nd).c [] []) with main:=0,prev:=0,status:=0}:=⟨bM _,bM _,bM _,(λ r hr=>nomatch hr),bM _,bM _,bM _,⟨0,rfl,by decide⟩,⟨0,rfl,by decide⟩⟩
theorem Oz{a b c d e:List aX}:∀f∈aR ((((a++b)++c)++d)++e),f.2=[]∨f∈aR e++(aR d++(aR c++(aR b++aR a))):=λ f hf=>by
 simp only[eI,List.mem_append] at hf ⊢
 rcases hf with(((h|h)|h)|h)|h
 ·exact .inr (.inr (.inr (.inr (.inr h))))
 ·exact .inr (.inr (.inr (.inr (.inl h))))
 ·exact .inr (.inr (.inr (.inl h)))
 ·exact .inr (.inr (.inl h))
 ·exact .inr (.inl h)
theorem Fz{a b c d e i:List aX}:∀f∈aR (((((a++b)++c)++d)++e)++i),f.2=[]∨f∈aR i++(aR e++(aR d++(aR c++(aR b++aR a)))):=λ f hf=>by
 simp only[eI,List.mem_append] at hf ⊢
 rcases hf with((((h|h)|h)|h)|h)|h
 ·exact .inr (.inr (.inr (.inr (.inr (.inr h)))))
 ·exact .inr (.inr (.inr (.inr (.inr (.inl h)))))
 ·exact .inr (.inr (.inr (.inr (.inl h))))
 ·exact .inr (.inr (.inr (.inl h)))
 ·exact .inr (.inr (.inl h))
 ·exact .inr (.inl h)
theorem Nx.nil{g:Gx}{x x1 x2:XS}{N:List aX}{t1 t2:Tr}{b1 b2:Int}(h1:Nx g x x1 N t1 b1)(h2:Nx g x1 x2 [] t2 b2):Nx g x x2 N t2 b2:=⟨h2.go,h2.ok,by rw[h2.ext,h1.ext,List.append_nil],Nat.le_trans h1.lc h2.lc,h2.bd⟩
end Go.Ct
namespace Go.Proofs.YtbajmaoegmbfgaaGreat
open Go Go.RowKit Go.Ct
section
variable{k:Cl}{bx bm:Nat}{x:XS}{dn:Bool}{rs:Rs}{D:List Nat}{A:Fr}{w:World}{g:Gx}
theorem Od(hg:g.Ok)(m:Int)(K:Rs->Tr)(hm:m<=x.L.length)(go:gL g x (Pm m K))(ok:x.Ok)(hs:SF w D (xH k bx bm x dn rs) A [] (xW x) w):Calls Tryz.prog 229 #[.pointer (some ⟨bx,0,none⟩),.int .i64 m] w λ e w'=>∃q:Rs×XS×List aX,e=.returned (.agg ⟨q.1.cells⟩)/\Nx g x q.2.1 q.2.2 (K q.1) 0/\SF w D (xH k bx bm q.2.1 dn rs) [] (aR q.2.2) (xW q.2.1) w':=by
 refine enter Tryz.func229 Tryz.ntmps229 rfl rfl (cK hs) ?_
 simp only[cN]
 all_goals (refine J0 ?_;refine aJ (λ x4=>?_);refine aH ?_;refine J2 ?_;refine aC (cM (hs:=xH k bx bm x dn rs) (os:=xW x) (hc:=λ w hs=>bk hg _ go ok hs)) (λ x7 h7=>?_);refine xT ?_;refine aA ?_;refine bO ?_;refine aA ?_;refine aC (cM (hs:=xH k bx bm x7.2 dn rs) (os:=xW x7.2) (A0:=[(none,aG []),(none,dW [])]) (hc:=λ w hs=>gX hg (n:={Nd.zero with kind:=2,gen:=x7.1}) (xs:=[]) (ys:=[]) m _ rfl rfl (by decide) (Nat.zero_le _) rU (by have:=h7.len;omega) h7.go h7.ok hs)) (λ x13 h13=>?_);refine aC (cM (hs:=xH k bx bm x13.2.1 dn rs) (os:=xW x13.2.1) (hc:=λ w hs=>Qj hg x13.1 _ h13.bd h13.go h13.ok hs)) (λ x14 h14=>?_);refine bO ?_;refine wJ ?_)
 all_goals
 refine bE Tryz.results229 (λ w hw=>?_)
 exact⟨(Ns x14.1 false,x14.2,x13.2.2),rfl,⟨h14.go,h14.ok,by rw[h14.ext,h13.ext,h7.ext,List.append_nil,List.append_nil],Nat.le_trans h7.lc (Nat.le_trans h13.lc h14.lc),bM _⟩,by rw[List.append_nil] at hw;exact hw.aS (hF:=by exact aV.all)⟩
set_option maxRecDepth 100000 in
theorem E1(hg:g.Ok)(fz:Bool)(K:Rs->Tr)(n:Nat)(ht:k.t.root<=9223372036854775807)(go:gL g x (sY k.t fz K n))(ok:x.Ok)(hs:SF w D (xH k bx bm x dn rs) A [] (xW x) w):Calls Tryz.prog 186 #[.pointer (some ⟨bx,0,none⟩),.bool fz] w λ e w'=>∃q:Rs×XS×List aX,e=.returned (.agg ⟨q.1.cells⟩)/\Nx g x q.2.1 q.2.2 (K q.1) 0/\SF w D (xH k bx bm q.2.1 dn rs) [] (aR q.2.2) (xW q.2.1) w':=by
  refine enter Tryz.func186 Tryz.ntmps186 rfl rfl (cK hs) ?_
  simp only[cN]
  all_goals (refine J0 ?_;refine aJ (λ x4=>?_);refine aH ?_;refine Bt ?_;refine aE ?_;refine aB (aL (k:=2) (vs:=[.int .i64 k.t.root,.bool k.t.ro]) rf bQ cD rfl rfl) rfl ?_;refine aJ (λ x5=>?_);refine J5 ?_;refine Cs ?_;refine aH ?_)
  all_goals
   refine bG (λ c16=>?_) (λ c16=>?_)
   · all_goals
      have g1:=go.to (λ _=>if_pos c16)
     all_goals (refine J2 ?_;refine J3 ?_;refine aC (cM (hs:=xH k bx bm x dn rs) (os:=xW x) (hc:=λ w hs=>pX hg k.t.root _ ht g1 ok hs)) (λ x20 h20=>?_);refine jM ?_;refine J2 ?_;refine aH ?_)
     all_goals
      refine bG (λ c21=>?_) (λ c21=>?_)
      · all_goals
         have g2:=h20.go.to (λ _=>if_pos c21)
        all_goals (refine jN ?_;refine aC (cM (hs:=xH k bx bm x20.2 dn rs) (os:=xW x20.2) (hc:=λ w hs=>Qj hg x20.1 _ h20.bd g2 h20.ok hs)) (λ x24 h24=>?_);refine bO ?_;refine wJ ?_)
        all_goals
         refine bE Tryz.results186 (λ w hw=>?_)
         exact⟨(Ns x24.1 true,x24.2,[]),rfl,(h20.nil h24).cQ h24.go (bM _),hw.aS (hF:=by exact aV.nil)⟩
      · all_goals
         have g2:=h20.go.to (λ _=>if_neg (by rw[c21];decide))
        all_goals (refine Ck ?_;refine bX ?_;refine aA ?_;refine aC (cM (hs:=xH k bx bm x20.2 dn rs) (os:=xW x20.2) (hc:=λ w hs=>oK hg k.t x20.1 _ ht h20.bd g2 h20.ok hs)) (λ x31 h31=>?_);refine aC (cM (hs:=xH k bx bm x31.2.1 dn rs) (os:=xW x31.2.1) (hc:=λ w hs=>Od hg x31.1 _ h31.bd h31.go h31.ok hs)) (λ x32 h32=>?_);refine J5 ?_)
        all_goals
         refine bE Tryz.results186 (λ w hw=>?_)
         exact⟨(x32.1,x32.2.1,x31.2.2++x32.2.2),rfl,(h20.trans h31).trans h32,by rw[List.append_nil] at hw;exact(hw.dY fQ).aS (hF:=by exact aV.all)⟩
   · all_goals
      have g1:=go.to (λ _=>if_neg (by rw[c16];decide))
     all_goals refine qD ?_
     all_goals
      refine oR [7,8,9,33,34,35,36,37,38,39,40,41,42,43,44,45,46,47,48,49,50,51,52,53,54,55,56,57,58,59,60,61,62,63,64,65,66] (λ y:Nat×XS×List aX=>[]) (λ y=>Nx g x y.2.1 y.2.2 (Jl k.t fz K y.1) 0) (λ y=>[(x5,.cells ⟨[.int .i64 k.t.root,.bool k.t.ro]⟩ 29 (0,0)),(x4,.cells ⟨Rs.zero.cells⟩ 64 (0,0)),(bx,xO k bm y.2.1 dn rs),(bm,xM y.2.1)]) (λ y=>aR y.2.2) (λ y=>xW y.2.1) (λ y=>y.1) ((n,x,[])) (Nx.start g1 ok) (λ y f hx=>?_) (hw0:=λ w hw=>hw)
      dsimp only[iL,List.map,List.cons_append,List.nil_append]
      all_goals (refine aW ?_;refine kY ?_;refine qT ?_)
      all_goals
       refine bG (λ c37=>?_) (λ c37=>?_)
       · all_goals
          obtain⟨fu,hfu,gx⟩:=gL.kB (T:=λ q=>Jl k.t fz K q) hx.go (by simpa using c37) rfl hg
         all_goals (refine bD ?_;refine dE ?_;refine J2 ?_;refine bX ?_;refine aC (cM (hs:=xH k bx bm y.2.1 dn rs) (os:=xW y.2.1) (hc:=λ w hs=>Bc hg k.t _ ht gx hx.ok hs)) (λ x40 h40=>?_);refine J1 ?_;refine J2 ?_;refine bX ?_;refine aA ?_;refine aC (cM (hs:=xH k bx bm x40.2.1 dn rs) (os:=xW x40.2.1) (hc:=λ w hs=>oK hg k.t x40.1 _ ht h40.bd h40.go h40.ok hs)) (λ x44 h44=>?_);refine J1 ?_;refine J2 ?_;refine aC (cM (hs:=xH k bx bm x44.2.1 dn rs) (os:=xW x44.2.1) (hc:=λ w hs=>bk hg _ h44.go h44.ok hs)) (λ x46 h46=>?_))
         all_goals
          have hl44:=h44.len
          have hl46:=h46.len
          have hb40:=h40.bd
          have hb44:=h44.bd
         all_goals (refine jM ?_;refine aW ?_;refine dX [(0,[]),(1,[]),(2,[]),(3,[]),(4,[]),(5,[]),(6,[]),(7,[]),(8,[1]),(9,[]),(10,[])] ?_;refine aQ ?_;refine bR ?_;refine iP ?_;refine iP ?_;refine iK ?_;refine aQ ?_;refine bA (i:=8) (hq:=(cM (hs:=xH k bx bm x46.2 dn rs) (os:=xW x46.2) (A0:=[(none,aG []),(none,dW [])]) (hc:=λ w hs=>gX hg (n:={Nd.zero with kind:=2,gen:=x46.1}) (xs:=[]) (ys:=[]) x44.1 _ rfl rfl (by decide) (Nat.zero_le _) rU (by omega) h46.go h46.ok hs))) (h:=λ x55 h55=>?_);refine bA (i:=9) (hq:=(cM (hs:=xH k bx bm x55.2.1 dn rs) (os:=xW x55.2.1) (hc:=λ w hs=>Lb hg k.t x40.1 x44.1 x55.1 _ ht (by have:=h55.len;omega) (by have:=h55.len;omega) h55.bd h55.go h55.ok hs))) (h:=λ x56 h56=>?_))
         all_goals
          have hl55:=h55.len
          have hl56:=h56.len
          have hall:=((((hx.trans h40).trans h44).nil h46).trans h55).trans h56
         all_goals (refine G6 ?_;refine eC ?_)
         all_goals
          refine bG (λ c57=>?_) (λ c57=>?_)
          · all_goals
             have g3:=h56.go.to (λ _=>if_neg (by simpa using c57))
            all_goals refine bV rfl ?_
            all_goals
             refine jJ ((fu,x56.2.1,(((y.2.2++x40.2.2)++x44.2.2)++x55.2.2)++x56.2.2)) ?_ (hw1:=λ w hw=>(hw.dY Oz).back (hF:=by exact aV.all))
             · exact hall.cQ g3 (bM _)
          · all_goals
             have g3:=h56.go.to (λ _=>if_pos (by simpa using c57))
            all_goals (refine lG ?_;refine J2 ?_;refine aH ?_)
            all_goals
             refine bG (λ c58=>?_) (λ c58=>?_)
             · all_goals
                have g4:=g3.to (λ _=>if_pos c58)
               all_goals (refine jN ?_;refine aC (cM (hs:=xH k bx bm x56.2.1 dn rs) (os:=xW x56.2.1) (hc:=λ w hs=>Qj hg x40.1 _ (by omega) g4 h56.ok hs)) (λ x61 h61=>?_);refine bO ?_;refine wJ ?_)
               all_goals
                refine bE Tryz.results186 (λ w hw=>?_)
                exact⟨(Ns x61.1 true,x61.2,(((y.2.2++x40.2.2)++x44.2.2)++x55.2.2)++x56.2.2),rfl,(hall.nil h61).cQ h61.go (bM _),(hw.dY Oz).aS (hF:=by exact aV.all)⟩
             · all_goals
                have g4:=g3.to (λ _=>if_neg (by rw[c58];decide))
               all_goals (refine Ck ?_;refine aC (cM (hs:=xH k bx bm x56.2.1 dn rs) (os:=xW x56.2.1) (hc:=λ w hs=>Od hg x44.1 _ (by omega) g4 h56.ok hs)) (λ x66 h66=>?_);refine J5 ?_)
               all_goals
                refine bE Tryz.results186 (λ w hw=>?_)
                exact⟨(x66.1,x66.2.1,((((y.2.2++x40.2.2)++x44.2.2)++x55.2.2)++x56.2.2)++x66.2.2),rfl,hall.trans h66,(hw.dY Fz).aS (hF:=by exact aV.all)⟩
       · all_goals (refine bV rfl ?_;refine J0 ?_;refine wJ ?_)
         all_goals
          refine bE Tryz.results186 (λ w hw=>?_)
          exact⟨(Rs.zero,y.2.1,y.2.2),rfl,hx.cQ (hx.go.cA (by simpa using c37)) (bM _),hw.aS (hF:=by exact aV.all)⟩
set_option maxRecDepth 100000 in
theorem Va(hg:g.Ok)(K:Rs->Tr)(n:Nat)(ht:k.t.root<=9223372036854775807)(go:gL g x (yS k.t K n))(ok:x.Ok)(hs:SF w D (xH k bx bm x dn rs) A [] (xW x) w):Calls Tryz.prog 187 #[.pointer (some ⟨bx,0,none⟩)] w λ e w'=>∃q:Rs×XS×List aX,e=.returned (.agg ⟨q.1.cells⟩)/\Nx g x q.2.1 q.2.2 (K q.1) 0/\SF w D (xH k bx bm q.2.1 dn rs) [] (aR q.2.2) (xW q.2.1) w':=by
  refine enter Tryz.func187 Tryz.ntmps187 rfl rfl (cK hs) ?_
  simp only[cN]
  all_goals (refine J0 ?_;refine aJ (λ x2=>?_);refine aH ?_;refine Bt ?_;refine aE ?_;refine aB (aL (k:=2) (vs:=[.int .i64 k.t.root,.bool k.t.ro]) rf bQ cD rfl rfl) rfl ?_;refine aJ (λ x3=>?_);refine J5 ?_;refine Da ?_)
  all_goals
   refine oR [4,5,6,7,13,14,15,16,17,18,19,20,21,22,23,24,25,26,27,28,29,30,31,32,33,34,35,36,37,38,39,40] (λ y:Nat×XS×List aX=>[]) (λ y=>Nx g x y.2.1 y.2.2 (yS k.t K y.1) 0) (λ y=>[(x3,.cells ⟨[.int .i64 k.t.root,.bool k.t.ro]⟩ 29 (0,0)),(x2,.cells ⟨Rs.zero.cells⟩ 64 (0,0)),(bx,xO k bm y.2.1 dn rs),(bm,xM y.2.1)]) (λ y=>aR y.2.2) (λ y=>xW y.2.1) (λ y=>y.1) ((n,x,[])) (Nx.start go ok) (λ y f hx=>?_) (hw0:=λ w hw=>hw)
   dsimp only[iL,List.map,List.cons_append,List.nil_append]
   all_goals (refine aW ?_;refine kY ?_;refine qT ?_)
   all_goals
    refine bG (λ c17=>?_) (λ c17=>?_)
    · all_goals
       obtain⟨fu,hfu,gx⟩:=gL.kB (T:=λ q=>yS k.t K q) hx.go (by simpa using c17) rfl hg
      all_goals (refine bD ?_;refine dE ?_;refine J2 ?_;refine bX ?_;refine aC (cM (hs:=xH k bx bm y.2.1 dn rs) (os:=xW y.2.1) (hc:=λ w hs=>Bc hg k.t _ ht gx hx.ok hs)) (λ x20 h20=>?_);refine J1 ?_;refine J2 ?_;refine bX ?_;refine aA ?_;refine aC (cM (hs:=xH k bx bm x20.2.1 dn rs) (os:=xW x20.2.1) (hc:=λ w hs=>oK hg k.t x20.1 _ ht h20.bd h20.go h20.ok hs)) (λ x24 h24=>?_);refine J1 ?_;refine J2 ?_;refine bO ?_;refine aC (cM (hs:=xH k bx bm x24.2.1 dn rs) (os:=xW x24.2.1) (A0:=[(none,aG []),(none,dW [])]) (hc:=λ w hs=>gX hg (n:={Nd.zero with kind:=3}) (xs:=[]) (ys:=[]) 0 _ rfl rfl (by decide) (Nat.zero_le _) Wh (bM _) h24.go h24.ok hs)) (λ x27 h27=>?_);refine J1 ?_;refine J2 ?_;refine aC (cM (hs:=xH k bx bm x27.2.1 dn rs) (os:=xW x27.2.1) (hc:=λ w hs=>bk hg _ h27.go h27.ok hs)) (λ x29 h29=>?_))
      all_goals
       have hl24:=h24.len
       have hl27:=h27.len
       have hl29:=h29.len
       have hb20:=h20.bd
       have hb24:=h24.bd
       have hb27:=h27.bd
      all_goals (refine jM ?_;refine dX [(0,[]),(1,[]),(2,[]),(3,[]),(4,[]),(5,[]),(6,[]),(7,[]),(8,[1]),(9,[])] ?_;refine aQ ?_;refine bR ?_;refine iP ?_;refine iP ?_;refine iK ?_;refine aQ ?_;refine bA (i:=8) (hq:=(cM (hs:=xH k bx bm x29.2 dn rs) (os:=xW x29.2) (A0:=[(none,aG []),(none,dW [])]) (hc:=λ w hs=>gX hg (n:={Nd.zero with kind:=2,gen:=x29.1}) (xs:=[]) (ys:=[]) x27.1 _ rfl rfl (by decide) (Nat.zero_le _) rU (by omega) h29.go h29.ok hs))) (h:=λ x38 h38=>?_);refine bA (i:=9) (hq:=(cM (hs:=xH k bx bm x38.2.1 dn rs) (os:=xW x38.2.1) (hc:=λ w hs=>Lb hg k.t x20.1 x24.1 x38.1 _ ht (by have:=h38.len;omega) (by have:=h38.len;omega) h38.bd h38.go h38.ok hs))) (h:=λ x39 h39=>?_))
      all_goals
       have hall:=((((hx.trans h20).trans h24).trans h27).nil h29).trans h38 |>.trans h39
      all_goals refine eC ?_
      all_goals
       refine bG (λ c39=>?_) (λ c39=>?_)
       · all_goals
          have g3:=h39.go.to (λ _=>if_pos c39)
         all_goals (refine J0 ?_;refine wJ ?_)
         all_goals
          refine bE Tryz.results187 (λ w hw=>?_)
          exact⟨(jX true 0,x39.2.1,((((y.2.2++x20.2.2)++x24.2.2)++x27.2.2)++x38.2.2)++x39.2.2),rfl,hall.cQ g3 (bM _),(hw.dY Fz).aS (hF:=by exact aV.all)⟩
       · all_goals
          have g3:=h39.go.to (λ _=>if_neg (by rw[c39];decide))
         all_goals refine oD ?_
         all_goals
          refine jJ ((fu,x39.2.1,((((y.2.2++x20.2.2)++x24.2.2)++x27.2.2)++x38.2.2)++x39.2.2)) ?_ (hw1:=λ w hw=>(hw.dY Fz).back (hF:=by exact aV.all))
          · exact hall.cQ g3 (bM _)
    · all_goals (refine bV rfl ?_;refine J0 ?_;refine wJ ?_)
      all_goals
       refine bE Tryz.results187 (λ w hw=>?_)
       exact⟨(Rs.zero,y.2.1,y.2.2),rfl,hx.cQ (hx.go.cA (by simpa using c17)) (bM _),hw.aS (hF:=by exact aV.all)⟩
end
end Go.Proofs.YtbajmaoegmbfgaaGreat

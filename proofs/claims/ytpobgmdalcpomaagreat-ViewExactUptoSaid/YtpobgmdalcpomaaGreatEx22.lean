/- Executions of the reference: COPY, SNAPSHOT, CLEAR. -/
import Derived.Test.YtpobgmdalcpomaaGreatGEx20
set_option linter.unusedSimpArgs false
set_option linter.unusedVariables false
namespace Go.Ct
open Go Go.RowKit
theorem Vj{n c:Nat}:oM n c {(({Nd.zero with kind:=3}:Nd).c [] []) with main:=0,prev:=0,status:=0}:=⟨bS _,bS _,bS _,(λ r hr=>nomatch hr),bS _,bS _,bS _,⟨0,rfl,by decide⟩,⟨0,rfl,by decide⟩⟩
theorem L6{a b c d e:List aQ}:∀f∈bG ((((a++b)++c)++d)++e),f.2=[]∨f∈bG e++(bG d++(bG c++(bG b++bG a))):=λ f hf=>by
 simp only[fC,List.mem_append] at hf ⊢
 rcases hf with(((h|h)|h)|h)|h
 ·exact .inr (.inr (.inr (.inr (.inr h))))
 ·exact .inr (.inr (.inr (.inr (.inl h))))
 ·exact .inr (.inr (.inr (.inl h)))
 ·exact .inr (.inr (.inl h))
 ·exact .inr (.inl h)
theorem Eo{a b c d e i:List aQ}:∀f∈bG (((((a++b)++c)++d)++e)++i),f.2=[]∨f∈bG i++(bG e++(bG d++(bG c++(bG b++bG a)))):=λ f hf=>by
 simp only[fC,List.mem_append] at hf ⊢
 rcases hf with((((h|h)|h)|h)|h)|h
 ·exact .inr (.inr (.inr (.inr (.inr (.inr h)))))
 ·exact .inr (.inr (.inr (.inr (.inr (.inl h)))))
 ·exact .inr (.inr (.inr (.inr (.inl h))))
 ·exact .inr (.inr (.inr (.inl h)))
 ·exact .inr (.inr (.inl h))
 ·exact .inr (.inl h)
theorem Nx.nil{g:Gx}{x x1 x2:XS}{N:List aQ}{t1 t2:Tr}{b1 b2:Int}(h1:Nx g x x1 N t1 b1)(h2:Nx g x1 x2 [] t2 b2):Nx g x x2 N t2 b2:=⟨h2.go,h2.ok,by rw[h2.ext,h1.ext,List.append_nil],Nat.le_trans h1.lc h2.lc,h2.bd⟩
end Go.Ct
namespace Go.Proofs.YtpobgmdalcpomaaGreat
open Go Go.RowKit Go.Ct
section
variable{k:Cl}{bx bm:Nat}{x:XS}{dn:Bool}{rs:Rs}{D:List Nat}{A:Fr}{w:World}{g:Gx}
theorem Ol(hg:g.Ok)(m:Int)(K:Rs->Tr)(hm:m<=x.L.length)(go:gC g x (Mi m K))(ok:x.Ok)(hs:SF w D (xH k bx bm x dn rs) A [] (xW x) w):Calls Tryz.prog 122 #[.pointer (some ⟨bx,0,none⟩),.int .i64 m] w λ e w'=>∃q:Rs×XS×List aQ,e=.returned (.agg ⟨q.1.cells⟩)/\Nx g x q.2.1 q.2.2 (K q.1) 0/\SF w D (xH k bx bm q.2.1 dn rs) [] (bG q.2.2) (xW q.2.1) w':=by
 refine enter Tryz.func122 Tryz.ntmps122 rfl rfl (cN hs) ?_
 simp only[dB]
 all_goals (refine J0 ?_;refine aY (λ x4=>?_);refine aN ?_;refine J2 ?_;(refine aF (cM (hs:=xH k bx bm x dn rs) (os:=xW x) (hc:=λ w hs=>Xf hg _ go ok hs)) (λ x7=>?_);try (refine aB (λ h7=>?_)));refine yQ ?_;refine aA ?_;refine bV ?_;refine aA ?_;(refine aF (cM (hs:=xH k bx bm x7.2 dn rs) (os:=xW x7.2) (A0:=[(none,aJ []),(none,dI [])]) (hc:=λ w hs=>gT hg (n:={Nd.zero with kind:=2,gen:=x7.1}) (xs:=[]) (ys:=[]) m _ rfl rfl (by decide) (Nat.zero_le _) qW (by have:=h7.len;omega) h7.go h7.ok hs)) (λ x13=>?_);try (refine aB (λ h13=>?_)));(refine aF (cM (hs:=xH k bx bm x13.2.1 dn rs) (os:=xW x13.2.1) (hc:=λ w hs=>Pk hg x13.1 _ h13.bd h13.go h13.ok hs)) (λ x14=>?_);try (refine aB (λ h14=>?_)));refine bV ?_;refine zN ?_)
 all_goals
 refine bH Tryz.results122 (λ w hw=>?_)
 exact⟨(Lz x14.1 false,x14.2,x13.2.2),rfl,⟨h14.go,h14.ok,by rw[h14.ext,h13.ext,h7.ext,List.append_nil,List.append_nil],Nat.le_trans h7.lc (Nat.le_trans h13.lc h14.lc),bS _⟩,by rw[List.append_nil] at hw;exact hw.aV (hF:=by exact aW.all)⟩
set_option maxRecDepth 100000 in
theorem E1(hg:g.Ok)(fz:Bool)(K:Rs->Tr)(n:Nat)(ht:k.t.root<=9223372036854775807)(go:gC g x (rV k.t fz K n))(ok:x.Ok)(hs:SF w D (xH k bx bm x dn rs) A [] (xW x) w):Calls Tryz.prog 86 #[.pointer (some ⟨bx,0,none⟩),.bool fz] w λ e w'=>∃q:Rs×XS×List aQ,e=.returned (.agg ⟨q.1.cells⟩)/\Nx g x q.2.1 q.2.2 (K q.1) 0/\SF w D (xH k bx bm q.2.1 dn rs) [] (bG q.2.2) (xW q.2.1) w':=by
  refine enter Tryz.func86 Tryz.ntmps86 rfl rfl (cN hs) ?_
  simp only[dB]
  all_goals (refine J0 ?_;refine aY (λ x4=>?_);refine aN ?_;refine wV ?_;refine aE ?_;refine aH (aM (k:=2) (vs:=[.int .i64 k.t.root,.bool k.t.ro]) rf cQ dS rfl rfl) rfl ?_;refine aY (λ x5=>?_);refine J5 ?_;refine Aj ?_;refine aN ?_)
  all_goals
   refine bF (λ c16=>?_) (λ c16=>?_)
   · try exact nv c16
     all_goals
      have g1:=go.to (λ _=>if_pos c16)
     all_goals (refine J2 ?_;refine J3 ?_;(refine aF (cM (hs:=xH k bx bm x dn rs) (os:=xW x) (hc:=λ w hs=>pD hg k.t.root _ ht g1 ok hs)) (λ x20=>?_);try (refine aB (λ h20=>?_)));refine iI ?_;refine J2 ?_;refine aN ?_)
     all_goals
      refine bF (λ c21=>?_) (λ c21=>?_)
      · try exact nv c21
        all_goals
         have g2:=h20.go.to (λ _=>if_pos c21)
        all_goals (refine jE ?_;(refine aF (cM (hs:=xH k bx bm x20.2 dn rs) (os:=xW x20.2) (hc:=λ w hs=>Pk hg x20.1 _ h20.bd g2 h20.ok hs)) (λ x24=>?_);try (refine aB (λ h24=>?_)));refine bV ?_;refine zN ?_)
        all_goals
         refine bH Tryz.results86 (λ w hw=>?_)
         exact⟨(Lz x24.1 true,x24.2,[]),rfl,(h20.nil h24).cX h24.go (bS _),hw.aV (hF:=by exact aW.nil)⟩
      · try exact nv c21
        all_goals
         have g2:=h20.go.to (λ _=>if_neg (by rw[c21];decide))
        all_goals (refine Ak ?_;refine bJ ?_;refine aA ?_;(refine aF (cM (hs:=xH k bx bm x20.2 dn rs) (os:=xW x20.2) (hc:=λ w hs=>nT hg k.t x20.1 _ ht h20.bd g2 h20.ok hs)) (λ x31=>?_);try (refine aB (λ h31=>?_)));(refine aF (cM (hs:=xH k bx bm x31.2.1 dn rs) (os:=xW x31.2.1) (hc:=λ w hs=>Ol hg x31.1 _ h31.bd h31.go h31.ok hs)) (λ x32=>?_);try (refine aB (λ h32=>?_)));refine J5 ?_)
        all_goals
         refine bH Tryz.results86 (λ w hw=>?_)
         exact⟨(x32.1,x32.2.1,x31.2.2++x32.2.2),rfl,(h20.trans h31).trans h32,by rw[List.append_nil] at hw;exact(hw.dO fL).aV (hF:=by exact aW.all)⟩
   · try exact nv c16
     all_goals
      have g1:=go.to (λ _=>if_neg (by rw[c16];decide))
     all_goals refine oD ?_
     all_goals
      refine lO [7,8,9,33,34,35,36,37,38,39,40,41,42,43,44,45,46,47,48,49,50,51,52,53,54,55,56,57,58,59,60,61,62,63,64,65,66] (λ y:Nat×XS×List aQ=>[]) (λ y=>Nx g x y.2.1 y.2.2 (Ib k.t fz K y.1) 0) (λ y=>[(x5,.cells ⟨[.int .i64 k.t.root,.bool k.t.ro]⟩ 33 (0,0)),(x4,.cells ⟨Rs.zero.cells⟩ 81 (0,0)),(bx,xO k bm y.2.1 dn rs),(bm,xM y.2.1)]) (λ y=>bG y.2.2) (λ y=>xW y.2.1) (λ y=>y.1) ((n,x,[])) (Nx.start g1 ok) (λ y f hx=>?_) (hw0:=λ w hw=>hw)
      dsimp only[gW,List.map,List.cons_append,List.nil_append]
      all_goals (refine aT ?_;refine kZ ?_;refine kD ?_)
      all_goals
       refine bF (λ c37=>?_) (λ c37=>?_)
       · try exact nv c37
         all_goals
          obtain⟨fu,hfu,gx⟩:=gC.jT (T:=λ q=>Ib k.t fz K q) hx.go (by simpa using c37) rfl hg
         all_goals (refine aZ ?_;refine cZ ?_;refine J2 ?_;refine bJ ?_;(refine aF (cM (hs:=xH k bx bm y.2.1 dn rs) (os:=xW y.2.1) (hc:=λ w hs=>A4 hg k.t _ ht gx hx.ok hs)) (λ x40=>?_);try (refine aB (λ h40=>?_)));refine J1 ?_;refine J2 ?_;refine bJ ?_;refine aA ?_;(refine aF (cM (hs:=xH k bx bm x40.2.1 dn rs) (os:=xW x40.2.1) (hc:=λ w hs=>nT hg k.t x40.1 _ ht h40.bd h40.go h40.ok hs)) (λ x44=>?_);try (refine aB (λ h44=>?_)));refine J1 ?_;refine J2 ?_;(refine aF (cM (hs:=xH k bx bm x44.2.1 dn rs) (os:=xW x44.2.1) (hc:=λ w hs=>Xf hg _ h44.go h44.ok hs)) (λ x46=>?_);try (refine aB (λ h46=>?_))))
         all_goals
          have hl44:=h44.len
          have hl46:=h46.len
          have hb40:=h40.bd
          have hb44:=h44.bd
         all_goals (refine iI ?_;refine aT ?_;refine dL [(0,[]),(1,[]),(2,[]),(3,[]),(4,[]),(5,[]),(6,[]),(7,[]),(8,[1]),(9,[]),(10,[])] ?_;refine aL ?_;refine bT ?_;refine gD ?_;refine gD ?_;refine eT ?_;refine aL ?_;((refine bA (i:=8) (hq:=(cM (hs:=xH k bx bm x46.2 dn rs) (os:=xW x46.2) (A0:=[(none,aJ []),(none,dI [])]) (hc:=λ w hs=>gT hg (n:={Nd.zero with kind:=2,gen:=x46.1}) (xs:=[]) (ys:=[]) x44.1 _ rfl rfl (by decide) (Nat.zero_le _) qW (by omega) h46.go h46.ok hs))) (h:=λ x55=>?_);try (refine aK (λ h55=>?_))));((refine bA (i:=9) (hq:=(cM (hs:=xH k bx bm x55.2.1 dn rs) (os:=xW x55.2.1) (hc:=λ w hs=>K4 hg k.t x40.1 x44.1 x55.1 _ ht (by have:=h55.len;omega) (by have:=h55.len;omega) h55.bd h55.go h55.ok hs))) (h:=λ x56=>?_);try (refine aK (λ h56=>?_)))))
         all_goals
          have hl55:=h55.len
          have hl56:=h56.len
          have hall:=((((hx.trans h40).trans h44).nil h46).trans h55).trans h56
         all_goals (refine bp ?_;refine eO ?_)
         all_goals
          refine bF (λ c57=>?_) (λ c57=>?_)
          · try exact nv c57
            all_goals
             have g3:=h56.go.to (λ _=>if_neg (by simpa using c57))
            all_goals refine bQ rfl ?_
            all_goals
             refine gY ((fu,x56.2.1,(((y.2.2++x40.2.2)++x44.2.2)++x55.2.2)++x56.2.2)) ?_ (hw1:=λ w hw=>(hw.dO L6).back (hF:=by exact aW.all))
             · exact hall.cX g3 (bS _)
          · try exact nv c57
            all_goals
             have g3:=h56.go.to (λ _=>if_pos (by simpa using c57))
            all_goals (refine iW ?_;refine J2 ?_;refine aN ?_)
            all_goals
             refine bF (λ c58=>?_) (λ c58=>?_)
             · try exact nv c58
               all_goals
                have g4:=g3.to (λ _=>if_pos c58)
               all_goals (refine jE ?_;(refine aF (cM (hs:=xH k bx bm x56.2.1 dn rs) (os:=xW x56.2.1) (hc:=λ w hs=>Pk hg x40.1 _ (by omega) g4 h56.ok hs)) (λ x61=>?_);try (refine aB (λ h61=>?_)));refine bV ?_;refine zN ?_)
               all_goals
                refine bH Tryz.results86 (λ w hw=>?_)
                exact⟨(Lz x61.1 true,x61.2,(((y.2.2++x40.2.2)++x44.2.2)++x55.2.2)++x56.2.2),rfl,(hall.nil h61).cX h61.go (bS _),(hw.dO L6).aV (hF:=by exact aW.all)⟩
             · try exact nv c58
               all_goals
                have g4:=g3.to (λ _=>if_neg (by rw[c58];decide))
               all_goals (refine Ak ?_;(refine aF (cM (hs:=xH k bx bm x56.2.1 dn rs) (os:=xW x56.2.1) (hc:=λ w hs=>Ol hg x44.1 _ (by omega) g4 h56.ok hs)) (λ x66=>?_);try (refine aB (λ h66=>?_)));refine J5 ?_)
               all_goals
                refine bH Tryz.results86 (λ w hw=>?_)
                exact⟨(x66.1,x66.2.1,((((y.2.2++x40.2.2)++x44.2.2)++x55.2.2)++x56.2.2)++x66.2.2),rfl,hall.trans h66,(hw.dO Eo).aV (hF:=by exact aW.all)⟩
       · try exact nv c37
         all_goals (refine bQ rfl ?_;refine J0 ?_;refine zN ?_)
         all_goals
          refine bH Tryz.results86 (λ w hw=>?_)
          exact⟨(Rs.zero,y.2.1,y.2.2),rfl,hx.cX (hx.go.cA (by simpa using c37)) (bS _),hw.aV (hF:=by exact aW.all)⟩
set_option maxRecDepth 100000 in
theorem T1(hg:g.Ok)(K:Rs->Tr)(n:Nat)(ht:k.t.root<=9223372036854775807)(go:gC g x (yJ k.t K n))(ok:x.Ok)(hs:SF w D (xH k bx bm x dn rs) A [] (xW x) w):Calls Tryz.prog 87 #[.pointer (some ⟨bx,0,none⟩)] w λ e w'=>∃q:Rs×XS×List aQ,e=.returned (.agg ⟨q.1.cells⟩)/\Nx g x q.2.1 q.2.2 (K q.1) 0/\SF w D (xH k bx bm q.2.1 dn rs) [] (bG q.2.2) (xW q.2.1) w':=by
  refine enter Tryz.func87 Tryz.ntmps87 rfl rfl (cN hs) ?_
  simp only[dB]
  all_goals (refine J0 ?_;refine aY (λ x2=>?_);refine aN ?_;refine wV ?_;refine aE ?_;refine aH (aM (k:=2) (vs:=[.int .i64 k.t.root,.bool k.t.ro]) rf cQ dS rfl rfl) rfl ?_;refine aY (λ x3=>?_);refine J5 ?_;refine C6 ?_)
  all_goals
   refine lO [4,5,6,7,13,14,15,16,17,18,19,20,21,22,23,24,25,26,27,28,29,30,31,32,33,34,35,36,37,38,39,40] (λ y:Nat×XS×List aQ=>[]) (λ y=>Nx g x y.2.1 y.2.2 (yJ k.t K y.1) 0) (λ y=>[(x3,.cells ⟨[.int .i64 k.t.root,.bool k.t.ro]⟩ 33 (0,0)),(x2,.cells ⟨Rs.zero.cells⟩ 81 (0,0)),(bx,xO k bm y.2.1 dn rs),(bm,xM y.2.1)]) (λ y=>bG y.2.2) (λ y=>xW y.2.1) (λ y=>y.1) ((n,x,[])) (Nx.start go ok) (λ y f hx=>?_) (hw0:=λ w hw=>hw)
   dsimp only[gW,List.map,List.cons_append,List.nil_append]
   all_goals (refine aT ?_;refine kZ ?_;refine kD ?_)
   all_goals
    refine bF (λ c17=>?_) (λ c17=>?_)
    · try exact nv c17
      all_goals
       obtain⟨fu,hfu,gx⟩:=gC.jT (T:=λ q=>yJ k.t K q) hx.go (by simpa using c17) rfl hg
      all_goals (refine aZ ?_;refine cZ ?_;refine J2 ?_;refine bJ ?_;(refine aF (cM (hs:=xH k bx bm y.2.1 dn rs) (os:=xW y.2.1) (hc:=λ w hs=>A4 hg k.t _ ht gx hx.ok hs)) (λ x20=>?_);try (refine aB (λ h20=>?_)));refine J1 ?_;refine J2 ?_;refine bJ ?_;refine aA ?_;(refine aF (cM (hs:=xH k bx bm x20.2.1 dn rs) (os:=xW x20.2.1) (hc:=λ w hs=>nT hg k.t x20.1 _ ht h20.bd h20.go h20.ok hs)) (λ x24=>?_);try (refine aB (λ h24=>?_)));refine J1 ?_;refine J2 ?_;refine bV ?_;(refine aF (cM (hs:=xH k bx bm x24.2.1 dn rs) (os:=xW x24.2.1) (A0:=[(none,aJ []),(none,dI [])]) (hc:=λ w hs=>gT hg (n:={Nd.zero with kind:=3}) (xs:=[]) (ys:=[]) 0 _ rfl rfl (by decide) (Nat.zero_le _) Vj (bS _) h24.go h24.ok hs)) (λ x27=>?_);try (refine aB (λ h27=>?_)));refine J1 ?_;refine J2 ?_;(refine aF (cM (hs:=xH k bx bm x27.2.1 dn rs) (os:=xW x27.2.1) (hc:=λ w hs=>Xf hg _ h27.go h27.ok hs)) (λ x29=>?_);try (refine aB (λ h29=>?_))))
      all_goals
       have hl24:=h24.len
       have hl27:=h27.len
       have hl29:=h29.len
       have hb20:=h20.bd
       have hb24:=h24.bd
       have hb27:=h27.bd
      all_goals (refine iI ?_;refine dL [(0,[]),(1,[]),(2,[]),(3,[]),(4,[]),(5,[]),(6,[]),(7,[]),(8,[1]),(9,[])] ?_;refine aL ?_;refine bT ?_;refine gD ?_;refine gD ?_;refine eT ?_;refine aL ?_;((refine bA (i:=8) (hq:=(cM (hs:=xH k bx bm x29.2 dn rs) (os:=xW x29.2) (A0:=[(none,aJ []),(none,dI [])]) (hc:=λ w hs=>gT hg (n:={Nd.zero with kind:=2,gen:=x29.1}) (xs:=[]) (ys:=[]) x27.1 _ rfl rfl (by decide) (Nat.zero_le _) qW (by omega) h29.go h29.ok hs))) (h:=λ x38=>?_);try (refine aK (λ h38=>?_))));((refine bA (i:=9) (hq:=(cM (hs:=xH k bx bm x38.2.1 dn rs) (os:=xW x38.2.1) (hc:=λ w hs=>K4 hg k.t x20.1 x24.1 x38.1 _ ht (by have:=h38.len;omega) (by have:=h38.len;omega) h38.bd h38.go h38.ok hs))) (h:=λ x39=>?_);try (refine aK (λ h39=>?_)))))
      all_goals
       have hall:=((((hx.trans h20).trans h24).trans h27).nil h29).trans h38 |>.trans h39
      all_goals refine eO ?_
      all_goals
       refine bF (λ c39=>?_) (λ c39=>?_)
       · try exact nv c39
         all_goals
          have g3:=h39.go.to (λ _=>if_pos c39)
         all_goals (refine J0 ?_;refine zN ?_)
         all_goals
          refine bH Tryz.results87 (λ w hw=>?_)
          exact⟨(jR true 0,x39.2.1,((((y.2.2++x20.2.2)++x24.2.2)++x27.2.2)++x38.2.2)++x39.2.2),rfl,hall.cX g3 (bS _),(hw.dO Eo).aV (hF:=by exact aW.all)⟩
       · try exact nv c39
         all_goals
          have g3:=h39.go.to (λ _=>if_neg (by rw[c39];decide))
         all_goals refine mN ?_
         all_goals
          refine gY ((fu,x39.2.1,((((y.2.2++x20.2.2)++x24.2.2)++x27.2.2)++x38.2.2)++x39.2.2)) ?_ (hw1:=λ w hw=>(hw.dO Eo).back (hF:=by exact aW.all))
          · exact hall.cX g3 (bS _)
    · try exact nv c17
      all_goals (refine bQ rfl ?_;refine J0 ?_;refine zN ?_)
      all_goals
       refine bH Tryz.results87 (λ w hw=>?_)
       exact⟨(Rs.zero,y.2.1,y.2.2),rfl,hx.cX (hx.go.cA (by simpa using c17)) (bS _),hw.aV (hF:=by exact aW.all)⟩
end
end Go.Proofs.YtpobgmdalcpomaaGreat

/- Executions of the reference: one attempt of PUT at a leaf. -/
import Derived.Test.YtpobgmdalcpomaaGreatGEx14
set_option linter.unusedSimpArgs false
set_option linter.unusedVariables false
namespace Go.Ct
open Go Go.RowKit
theorem mg{a b:ByteArray}(h:a=b):(a.toList==b.toList)=true:=by subst h;simp
theorem ny{a b:ByteArray}(h:¬a=b):(a.toList==b.toList)=false:=by
 rw[beq_eq_false_iff_ne]
 exact λ e=>h (toList_inj e)
section
variable{P:Program}{S:List (Nat×Value)}{G:World->Prop}{d:Nat}{ty t t':TypeId}{pos:String}{af:Array Edge}{gd:Option (Nat×Bool)}{x y:Operand}{a b:ByteArray}
theorem im(hx:ev S x=.string a)(hy:ev S y=.string b)(h:a=b):aS P S G ⟨some d,.binOp .eql t x y t',ty,pos,af,gd⟩ (.bool true):=by
 have:=Fq (P:=P) (G:=G) (d:=d) (ty:=ty) (pos:=pos) (af:=af) (gd:=gd) (t:=t) (t':=t') hx hy
 rwa [mg h] at this
theorem fj(hx:ev S x=.string a)(hy:ev S y=.string b)(h:¬a=b):aS P S G ⟨some d,.binOp .eql t x y t',ty,pos,af,gd⟩ (.bool false):=by
 have:=Fq (P:=P) (G:=G) (d:=d) (ty:=ty) (pos:=pos) (af:=af) (gd:=gd) (t:=t) (t':=t') hx hy
 rwa [ny h] at this
end
end Go.Ct
namespace Go.Proofs.YtpobgmdalcpomaaGreat
open Go Go.RowKit Go.Ct
section
variable{v:aQ}{n c:Nat}{w:World}
theorem Is(h:oM n c v.c){i b:Int}(e:mB v.c i=some b)(hr:pQ w v.nd v.xs v.ys):Calls Tryz.prog 110 #[v.nd.v,.int .i64 i] w λ e w'=>e=.returned (.tuple #[.int .i64 b,.bool true])/\St w [] [] w':=by
 have:=Ih h i hr
 rwa [e] at this
theorem lq(h:oM n c v.c){i:Int}(e:mB v.c i=none)(hr:pQ w v.nd v.xs v.ys):Calls Tryz.prog 110 #[v.nd.v,.int .i64 i] w λ e w'=>e=.returned (.tuple #[.int .i64 0,.bool false])/\St w [] [] w':=by
 have:=Ih h i hr
 rwa [e] at this
end
section
variable{k:Cl}{bx bm:Nat}{x:XS}{dn:Bool}{rs:Rs}{D:List Nat}{A:Fr}{w:World}{g:Gx}
abbrev We(g:Gx)(x:XS)(K:Rs->Int->Tr)(bx bm:Nat)(k:Cl)(dn:Bool)(rs:Rs)(D:List Nat)(w:World)(e:Ending)(w':World):Prop:=∃q:Rs×Int×XS×List aQ,e=.returned (.tuple #[.agg ⟨q.1.cells⟩,.int .i64 q.2.1])/\Nx g x q.2.2.1 q.2.2.2 (K q.1 q.2.1) 0/\SF w D (xH k bx bm q.2.2.1 dn rs) [] (bG q.2.2.2) (xW q.2.2.1) w'
set_option maxRecDepth 100000 in
theorem Va(hg:g.Ok)(i m:Int){h:Nat}(hh:h<18446744073709551616)(level:Nat)(hlv:level<=1073741824)(gen:Int)(K:Rs->Int->Tr)(ht:k.t.root<=9223372036854775807)(hi:i<=x.L.length)(hm:m<=x.L.length)(hA:∀f∈bG x.L,f∈A)(hk:(aD x.L m).nd.kind=6)(go:gC g x (lT k i m h level gen K))(ok:x.Ok)(hs:SF w D (xH k bx bm x dn rs) A [] (xW x) w):Calls Tryz.prog 117 #[.pointer (some ⟨bx,0,none⟩),.int .i64 i,.int .i64 m,.int .u64 (h:Int),.int .i64 (level:Int),.int .i64 gen] w (We g x K bx bm k dn rs D w):=by
  have hyl:=qG ok m
  have hlL:=ok.lL
  refine enter Tryz.func117 Tryz.ntmps117 rfl rfl (cN hs) ?_
  simp only[dB]
  all_goals (refine J0 ?_;refine aY (λ x12=>?_);refine iI ?_;refine dL [(0,[]),(1,[]),(2,[]),(3,[]),(4,[]),(5,[]),(6,[]),(7,[]),(8,[]),(9,[]),(10,[]),(11,[]),(12,[]),(13,[]),(14,[]),(15,[4,9,14]),(16,[9,14]),(17,[14]),(18,[])] ?_;refine J9 ?_;refine aX ?_;refine bP (i:=4) (hq:=(aM (k:=2) (vs:=[.int .i64 k.t.root,.bool k.t.ro]) rf cQ dS rfl rfl)) (h:=?_);refine tO ?_;refine tO ?_;refine iM (hfire:=(λ _=>by first|((repeat (first|exact aI.nil|refine aI.cons (by first|exact dC (hq:=aM (k:=2) (vs:=[.int .i64 k.t.root,.bool k.t.ro]) rf cQ dS rfl rfl)|exact cL|exact a_un) ?_));done)|(refine bK ?_;(repeat (first|exact aI.nil|refine aI.cons (by first|exact dC (hq:=aM (k:=2) (vs:=[.int .i64 k.t.root,.bool k.t.ro]) rf cQ dS rfl rfl)|exact cL|exact a_un) ?_));done))) (h:=λ x14=>?_);refine gV (h:=λ _=>?_);refine Oi ?_;refine jE ?_;(refine aF (cM (hs:=xH k bx bm x dn rs) (os:=xW x) (hc:=λ w hs=>cY m _ hm go ok hs)) (λ x48=>?_);try (refine aB (λ h48=>?_)));refine aY (λ x17=>?_);refine J5 ?_;refine Aj ?_;refine tE ?_)
  all_goals
   refine bF (λ c51=>?_) (λ c51=>?_)
   · try exact nv c51
     all_goals
      have g1:=h48.1.to (λ _=>if_pos hk)
     all_goals (refine gR ?_;refine aA ?_;(refine aF (cV (hc:=λ w1 hw=>Iu (v:=(aD x.L m)) (n:=0) k.key (ok.rJ hw hA m) (ok.zi m))) (λ x56=>?_);try (refine aB (λ h56=>?_)));refine aA ?_;refine aH (bX rf rfl) rfl ?_;refine aH (bX rf rfl) rfl ?_;refine J8 ?_;refine Cy ?_;refine aA ?_;(refine aF (cM (hs:=xH k bx bm x dn rs) (os:=xW x) (hc:=λ w hs=>wQ _ _ hs)) (λ x62=>?_);try (refine aB (λ h62=>?_)));refine kD ?_)
     all_goals
      refine bF (λ c63=>?_) (λ c63=>?_)
      · try exact nv c63
        all_goals
         have g2:=g1.to (λ _=>if_neg (show ¬nG k (eI (aD x.L m).c.ys k.key).isSome ((eI (aD x.L m).c.ys k.key).getD 0)=true from by simpa using c63))
        all_goals (refine jE ?_;(refine aF (cV (hc:=λ w1 hw=>gM _ _ w1)) (λ x66=>?_);try (refine aB (λ h66=>?_)));refine Cw ?_)
        all_goals
         refine bH Tryz.results117 (λ w hw=>?_)
         exact⟨(jR (eI (aD x.L m).c.ys k.key).isSome ((eI (aD x.L m).c.ys k.key).getD 0),1,x,[]),rfl,⟨g2,ok,by simp,Nat.le_refl _,bS _⟩,hw.aV (hF:=by exact aW.nil)⟩
      · try exact nv c63
        all_goals
         have g2:=g1.to (λ _=>if_pos (show nG k (eI (aD x.L m).c.ys k.key).isSome ((eI (aD x.L m).c.ys k.key).getD 0)=true from by simpa using c63))
        all_goals (refine aZ ?_;refine iU ?_;refine oI ?_;(refine aF (cF (hc:=λ w1 hw=>xf (v:=(aD x.L m)) h48.2 k.key k.val (ok.rJ hw hA m) (by omega))) (λ x71=>?_);try (refine aB (λ h71=>?_)));refine aA ?_;refine aH (bX rf rfl) rfl ?_;refine aH (bX rf rfl) rfl ?_;refine aY (λ x20=>?_);refine nA (λ _=>?_);refine iI ?_;refine dL [(0,[]),(1,[]),(2,[]),(3,[]),(4,[]),(5,[]),(6,[]),(7,[]),(10,[]),(11,[]),(8,[2]),(9,[]),(12,[]),(13,[]),(14,[]),(15,[]),(16,[])] ?_;refine gD ?_;refine bT ?_;refine gD ?_;refine aL ?_;refine bT ?_;refine gD ?_;refine aL ?_;((refine bA (i:=8) (hq:=(cM (hs:=xH k bx bm x dn rs) (os:=xW x) (A0:=[((ap (kS (aD x.L m).nd (aD x.L m).xs (aD x.L m).ys k.key k.val) (aD x.L m).nd.hash x71).brA,aJ []),((ap (kS (aD x.L m).nd (aD x.L m).xs (aD x.L m).ys k.key k.val) (aD x.L m).nd.hash x71).prA,dI (Wg (kS (aD x.L m).nd (aD x.L m).xs (aD x.L m).ys k.key k.val)))]) (hA:=vl) (hc:=λ w hs=>gT hg (n:=ap (kS (aD x.L m).nd (aD x.L m).xs (aD x.L m).ys k.key k.val) (aD x.L m).nd.hash x71) (xs:=[]) (ys:=Wg (kS (aD x.L m).nd (aD x.L m).xs (aD x.L m).ys k.key k.val)) m _ (Xu _ _ _).1 (Xu _ _ _).2 (by decide) (by have:=qa (aD x.L m).xs (aD x.L m).ys (aD x.L m).nd k.key k.val;omega) (pa _ h48.2.hash) hm (by rw[yn];exact g2) ok hs))) (h:=λ x82=>?_);try (refine aK (λ h82=>?_))));((refine bA (i:=9) (hq:=(cM (hs:=xH k bx bm x82.2.1 dn rs) (os:=xW x82.2.1) (hc:=λ w hs=>sY hg k.t i m x82.1 _ ht (by have:=h82.len;omega) h82.bd h82.go h82.ok hs))) (h:=λ x83=>?_);try (refine aK (λ h83=>?_)))))
        all_goals
         have hch:=Ch.nx h83 (Ch.nx h82 ((Ch.base (F:=[])).cons (f:=(x71.1,dI (Wg (kS (aD x.L m).nd (aD x.L m).xs (aD x.L m).ys k.key k.val))))))
         have hlc:x.cs.length<=x83.2.1.cs.length:=by have:=h82.lc;have:=h83.lc;omega
        all_goals (((refine bA (i:=12) (hq:=(cV (hc:=λ w1 hw=>oU _ _ _ _ w1))) (h:=λ x86=>?_);try (refine aK (λ h86=>?_))));refine cI (i:=13) (hq:=(bX rf rfl)) (h:=?_);refine cI (i:=14) (hq:=(bX rf rfl)) (h:=?_);refine Bp ?_)
        all_goals
         refine bH Tryz.results117 (λ w hw=>?_)
         obtain⟨N,hN,hf⟩:=hch.to (t':=K (qY (eI (aD x.L m).c.ys k.key).isSome ((eI (aD x.L m).c.ys k.key).getD 0)) (if x83.1=true then 1 else 0)) h83 (h83.go) hlc (bS _)
         exact⟨(qY (eI (aD x.L m).c.ys k.key).isSome ((eI (aD x.L m).c.ys k.key).getD 0),(if x83.1=true then 1 else 0),x83.2.1,N),rfl,hN,(hw.dO hf).aV (hF:=by exact aW.all)⟩
   · try exact nv c51
     all_goals
      exact absurd hk c51
set_option maxRecDepth 100000 in
theorem U6(hg:g.Ok)(i m:Int){h:Nat}(hh:h<18446744073709551616)(level:Nat)(hlv:level<=1073741824)(gen:Int)(K:Rs->Int->Tr)(ht:k.t.root<=9223372036854775807)(hi:i<=x.L.length)(hm:m<=x.L.length)(hA:∀f∈bG x.L,f∈A)(hk:¬(aD x.L m).nd.kind=6)(hl:mB (aD x.L m).c (gZ h (level:Int))=none)(go:gC g x (lT k i m h level gen K))(ok:x.Ok)(hs:SF w D (xH k bx bm x dn rs) A [] (xW x) w):Calls Tryz.prog 117 #[.pointer (some ⟨bx,0,none⟩),.int .i64 i,.int .i64 m,.int .u64 (h:Int),.int .i64 (level:Int),.int .i64 gen] w (We g x K bx bm k dn rs D w):=by
  have hyl:=qG ok m
  have hlL:=ok.lL
  refine enter Tryz.func117 Tryz.ntmps117 rfl rfl (cN hs) ?_
  simp only[dB]
  all_goals (refine J0 ?_;refine aY (λ x12=>?_);refine iI ?_;refine dL [(0,[]),(1,[]),(2,[]),(3,[]),(4,[]),(5,[]),(6,[]),(7,[]),(8,[]),(9,[]),(10,[]),(11,[]),(12,[]),(13,[]),(14,[]),(15,[4,9,14]),(16,[9,14]),(17,[14]),(18,[])] ?_;refine J9 ?_;refine aX ?_;refine bP (i:=4) (hq:=(aM (k:=2) (vs:=[.int .i64 k.t.root,.bool k.t.ro]) rf cQ dS rfl rfl)) (h:=?_);refine tO ?_;refine tO ?_;refine iM (hfire:=(λ _=>by first|((repeat (first|exact aI.nil|refine aI.cons (by first|exact dC (hq:=aM (k:=2) (vs:=[.int .i64 k.t.root,.bool k.t.ro]) rf cQ dS rfl rfl)|exact cL|exact a_un) ?_));done)|(refine bK ?_;(repeat (first|exact aI.nil|refine aI.cons (by first|exact dC (hq:=aM (k:=2) (vs:=[.int .i64 k.t.root,.bool k.t.ro]) rf cQ dS rfl rfl)|exact cL|exact a_un) ?_));done))) (h:=λ x14=>?_);refine gV (h:=λ _=>?_);refine Oi ?_;refine jE ?_;(refine aF (cM (hs:=xH k bx bm x dn rs) (os:=xW x) (hc:=λ w hs=>cY m _ hm go ok hs)) (λ x48=>?_);try (refine aB (λ h48=>?_)));refine aY (λ x17=>?_);refine J5 ?_;refine Aj ?_;refine tE ?_)
  all_goals
   refine bF (λ c51=>?_) (λ c51=>?_)
   · try exact nv c51
     all_goals
      exact absurd c51 hk
   · try exact nv c51
     all_goals
      have g0:=h48.1.to (λ _=>if_neg hk)
      have g1:=Ke g0 (by rw[hl];rfl)
     all_goals (refine Ak ?_;(refine aF (cV (hc:=λ w1 hw=>fN hh (level:Int) w1)) (λ x91=>?_);try (refine aB (λ h91=>?_)));refine yQ ?_;refine aA ?_;refine bV ?_;refine aY (λ x23=>?_);refine J5 ?_;refine rK ?_;(refine aF (cV (hc:=λ w1 hw=>lq (v:=(aD x.L m)) h48.2 hl (ok.rJ hw hA m))) (λ x99=>?_);try (refine aB (λ h99=>?_)));refine aA ?_;refine aH (bX rf rfl) rfl ?_;refine aH (bX rf rfl) rfl ?_;refine J8 ?_;refine Cy ?_)
     all_goals (first|refine aG ?_|(refine aC ?_;refine aA ?_)|(refine dG 103 (λ g103=>?_) (λ g103=>?_)<;>(first|refine aG ?_|(refine aC ?_;refine aA ?_))))
     all_goals ((first|refine aG ?_|(refine aC ?_;refine aA ?_));((first|refine aG ?_|(refine aC ?_;(refine aF (cM (hs:=xH k bx bm x dn rs) (os:=xW x) (hc:=λ w hs=>fK 0 (by decide) ok hs)) (λ x106=>?_);try (refine aB (λ h106=>?_))))));refine tz ?_;refine aN ?_)
     all_goals
      refine bF (λ c109=>?_) (λ c109=>?_)
      · try exact nv c109
      · try exact nv c109
        all_goals refine Ak ?_
        all_goals (first|refine aG ?_|(refine aC ?_;refine aA ?_)|(refine dG 112 (λ g112=>?_) (λ g112=>?_)<;>(first|refine aG ?_|(refine aC ?_;refine aA ?_))))
        all_goals ((first|refine aG ?_|(refine aC ?_;refine aA ?_));((first|refine aG ?_|(refine aC ?_;(refine aF (cM (hs:=xH k bx bm x dn rs) (os:=xW x) (hc:=λ w hs=>fK 0 (by decide) ok hs)) (λ x115=>?_);try (refine aB (λ h115=>?_))))));refine xz ?_;(first|refine aG ?_|(refine aC ?_;refine Zz ?_));refine cH ?_;refine yQ ?_;(refine aF (cM (hs:=xH k bx bm x dn rs) (os:=xW x) (hc:=λ w hs=>fK 0 (by decide) ok hs)) (λ x122=>?_);try (refine aB (λ h122=>?_)));refine cP ?_;refine iI ?_;refine J2 ?_;refine kD ?_)
        all_goals
         refine bF (λ c125=>?_) (λ c125=>?_)
         · try exact nv c125
           all_goals (refine dD ?_;refine iI ?_;refine jE ?_;refine aA ?_;(refine aF (cM (hs:=xH k bx bm x dn rs) (os:=xW x) (hc:=λ w hs=>wQ _ _ hs)) (λ x129=>?_);try (refine aB (λ h129=>?_)));refine kD ?_)
           all_goals
            refine bF (λ c130=>?_) (λ c130=>?_)
            · try exact nv c130
              all_goals
               have g2:=g1.to (λ _=>if_neg (show ¬nG k false 0=true from by simpa using c130))
              all_goals (refine jE ?_;(refine aF (cV (hc:=λ w1 hw=>gM _ _ w1)) (λ x133=>?_);try (refine aB (λ h133=>?_)));refine Cw ?_)
              all_goals
               refine bH Tryz.results117 (λ w hw=>?_)
               exact⟨(jR false 0,1,x,[]),rfl,⟨g2,ok,by simp,Nat.le_refl _,bS _⟩,hw.aV (hF:=by exact aW.nil)⟩
            · try exact nv c130
              all_goals
               have g2:=g1.to (λ _=>if_pos (show nG k false 0=true from by simpa using c130))
              all_goals (refine oD ?_;refine J2 ?_;refine xL ?_;refine J1 ?_)
              all_goals
               refine bF (λ c134=>?_) (λ c134=>?_)
               · try exact nv c134
                 all_goals refine aT ?_
                 all_goals
                  refine fH [28,29,137,138,139,140,141,142,143,144,145] (λ z:Nat×(Int×XS×List aQ)×(Option Addr×Nat)×Nd=>[(28,.pointer (some ⟨z.1,0,none⟩))]) (λ z=>Nx g x z.2.1.2.1 z.2.1.2.2 (.alloc (oc (aD x.L m).c (gZ h (level:Int)) z.2.1.1) m λ r=>nP k.t i m r λ ok=>K (qY false 0) (if ok=true then 1 else 0)) z.2.1.1/\z.2.2.2=mF (Wi (aD x.L m) (gZ h (level:Int)) z.2.1.1) z.2.2.1) (λ z=>[(z.1,.cells ⟨z.2.2.2.cells⟩ 59 (0,0)),(x23,.cells ⟨({Nd.zero with kind:=4,hash:=(h:Int),key:=k.key,val:=k.val}:Nd).cells⟩ 59 (0,0)),(x17,.cells ⟨(aD x.L m).nd.cells⟩ 59 (0,0)),(x14,.cells ⟨[.int .i64 k.t.root,.bool k.t.ro]⟩ 33 (0,0)),(x12,.cells ⟨Rs.zero.cells⟩ 81 (0,0)),(bx,xO k bm z.2.1.2.1 dn rs),(bm,xM z.2.1.2.1)]) (λ z=>(z.2.2.1.1,aJ (lU (Wi (aD x.L m) (gZ h (level:Int)) z.2.1.1)))::(bG z.2.1.2.2++[])) (λ z=>xW z.2.1.2.1) (by decide) (λ _=>by exact rfl) ?_ (λ z f hx=>?_)
                  · refine gU (.one 0 [] (.one 1 [] (.one 2 [] (.one 3 [] (.two 4 [0] (.two 5 [] (.one 6 [] (.one 7 [] (.one 8 [] (.one 9 [0,3] (.one 10 [] (.one 11 [] .nil)))))) 0 [] (.two 9 [0,3] (.one 5 [] (.one 6 [] (.one 7 [] (.one 8 [] (.one 10 [] (.one 11 [] .nil)))))) 0 [] .nil)) 0 [] (.two 9 [0,3] (.one 4 [0] (.one 5 [] (.one 6 [] (.one 7 [] (.one 8 [] (.one 10 [] (.one 11 [] .nil))))))) 0 [] .nil)))))) ?_
                    all_goals (refine bT ?_;refine gD ?_;refine bT ?_)
                    all_goals
                     refine gS (E:=[4,9]) (by decide +kernel) ((.cons ?_ (.cons ?_ .nil)))
                     · (refine mI (i:=4) (hq:=(cM (hs:=xH k bx bm x dn rs) (os:=xW x) (A0:=[(none,aJ []),(none,dI [])]) (hc:=λ w hs=>gT hg (n:={Nd.zero with kind:=4,hash:=(h:Int),key:=k.key,val:=k.val}) (xs:=[]) (ys:=[]) 0 _ rfl rfl (by decide) (Nat.zero_le _) (Ex hh) (bS _) (g2) ok hs))) (h:=λ x142=>?_);try (refine aK (λ h142=>?_)))
                       all_goals
                        refine gS (E:=[5,9]) (by decide +kernel) ((.cons ?_ (.cons ?_ .nil)))
                        · (refine mI (i:=5) (hq:=(cF (hc:=λ w1 hw=>Xa (v:=(aD x.L m)) h48.2 (gZ h (level:Int)) x142.1 (ok.rJ hw hA m)))) (h:=λ x143=>?_);try (refine aK (λ h143=>?_)))
                          all_goals (refine aL ?_;refine cI (i:=7) (hq:=(bX rf rfl)) (h:=?_);refine cI (i:=8) (hq:=(bX rf rfl)) (h:=?_);refine iM (h:=λ x28=>?_);refine Bp ?_)
                          all_goals
                           refine fM ((x28,x142,x143,mF (Wi (aD x.L m) (gZ h (level:Int)) x142.1) x143)) ?_ (hw1:=λ w hw=>hw.back (hF:=by exact aW.all))
                           · exact⟨h142,rfl⟩
                        · refine iL (i:=9) (h:=λ x28=>?_)
                          all_goals (((refine bA (i:=5) (hq:=(cF (hc:=λ w1 hw=>Xa (v:=(aD x.L m)) h48.2 (gZ h (level:Int)) x142.1 (ok.rJ hw hA m)))) (h:=λ x143=>?_);try (refine aK (λ h143=>?_))));refine aL ?_;refine cI (i:=7) (hq:=(bX rf rfl)) (h:=?_);refine cI (i:=8) (hq:=(bX rf rfl)) (h:=?_);refine Bp ?_)
                          all_goals
                           refine fM ((x28,x142,x143,mF (Wi (aD x.L m) (gZ h (level:Int)) x142.1) x143)) ?_ (hw1:=λ w hw=>hw.back (hF:=by exact aW.all))
                           · exact⟨h142,rfl⟩
                     · refine iL (i:=9) (h:=λ x28=>?_)
                       all_goals (((refine bA (i:=4) (hq:=(cM (hs:=xH k bx bm x dn rs) (os:=xW x) (A0:=[(none,aJ []),(none,dI [])]) (hc:=λ w hs=>gT hg (n:={Nd.zero with kind:=4,hash:=(h:Int),key:=k.key,val:=k.val}) (xs:=[]) (ys:=[]) 0 _ rfl rfl (by decide) (Nat.zero_le _) (Ex hh) (bS _) (g2) ok hs))) (h:=λ x142=>?_);try (refine aK (λ h142=>?_))));((refine bA (i:=5) (hq:=(cF (hc:=λ w1 hw=>Xa (v:=(aD x.L m)) h48.2 (gZ h (level:Int)) x142.1 (ok.rJ hw hA m)))) (h:=λ x143=>?_);try (refine aK (λ h143=>?_))));refine aL ?_;refine cI (i:=7) (hq:=(bX rf rfl)) (h:=?_);refine cI (i:=8) (hq:=(bX rf rfl)) (h:=?_);refine Bp ?_)
                       all_goals
                        refine fM ((x28,x142,x143,mF (Wi (aD x.L m) (gZ h (level:Int)) x142.1) x143)) ?_ (hw1:=λ w hw=>hw.back (hF:=by exact aW.all))
                        · exact⟨h142,rfl⟩
                  dsimp only[gW,List.map,List.cons_append,List.nil_append]
                  obtain⟨hz,ez⟩:=hx
                  have hlz:=hz.len
                  have hB:=xa ((ok.nv m).mono (Nat.le_refl _) (Nat.le_refl _) |>.mono hlz hz.lc) hz.bd (gZ h (level:Int))
                 all_goals (refine aT ?_;refine dL [(0,[]),(1,[]),(2,[]),(3,[]),(4,[]),(5,[]),(6,[]),(7,[]),(8,[2]),(9,[]),(10,[]),(11,[]),(12,[]),(13,[]),(14,[])] ?_;refine gD ?_;refine bT ?_;refine gD ?_;refine aL ?_;refine bT ?_;refine aL ?_;((refine bA (i:=8) (hq:=(cM (hs:=xH k bx bm z.2.1.2.1 dn rs) (os:=xW z.2.1.2.1) (A0:=[(z.2.2.2.brA,aJ (lU (Wi (aD x.L m) (gZ h (level:Int)) z.2.1.1))),(z.2.2.2.prA,dI [])]) (hA:=by rw[ez];exact O3) (hc:=λ w hs=>gT hg (n:=z.2.2.2) (xs:=lU (Wi (aD x.L m) (gZ h (level:Int)) z.2.1.1)) (ys:=[]) m _ (by rw[ez];exact De _ _) (by rw[ez];exact C8 _ _) hB.len (Nat.zero_le _) (by rw[ez];exact hB.zn _) (by omega) (by rw[ez,<- u9 h48.2];exact hz.go) hz.ok hs))) (h:=λ x154=>?_);try (refine aK (λ h154=>?_))));((refine bA (i:=9) (hq:=(cM (hs:=xH k bx bm x154.2.1 dn rs) (os:=xW x154.2.1) (hc:=λ w hs=>sY hg k.t i m x154.1 _ ht (by have:=h154.len;omega) h154.bd h154.go h154.ok hs))) (h:=λ x155=>?_);try (refine aK (λ h155=>?_)))))
                 all_goals
                  have hch:=Ch.nx h155 (Ch.nx h154 (((Ch.base (F:=[])).nx hz).cons (f:=(z.2.2.1.1,aJ (lU (Wi (aD x.L m) (gZ h (level:Int)) z.2.1.1))))))
                  have hlc:x.cs.length<=x155.2.1.cs.length:=by have:=hz.lc;have:=h154.lc;have:=h155.lc;omega
                 all_goals (((refine bA (i:=10) (hq:=(cV (hc:=λ w1 hw=>oU _ _ _ _ w1))) (h:=λ x156=>?_);try (refine aK (λ h156=>?_))));refine cI (i:=11) (hq:=(bX rf rfl)) (h:=?_);refine cI (i:=12) (hq:=(bX rf rfl)) (h:=?_);refine Bp ?_)
                 all_goals
                  refine bH Tryz.results117 (λ w hw=>?_)
                  obtain⟨N,hN,hf⟩:=hch.to (t':=K (qY false 0) (if x155.1=true then 1 else 0)) h155 (h155.go) hlc (bS _)
                  exact⟨(qY false 0,(if x155.1=true then 1 else 0),x155.2.1,N),rfl,hN,(hw.dO hf).aV (hF:=by exact aW.all)⟩
               · try exact nv c134
         · try exact nv c125
set_option maxRecDepth 100000 in
theorem Up(hg:g.Ok)(i m:Int){h:Nat}(hh:h<18446744073709551616)(level:Nat)(hlv:level<=1073741824)(gen:Int)(K:Rs->Int->Tr)(ht:k.t.root<=9223372036854775807)(hi:i<=x.L.length)(hm:m<=x.L.length)(hA:∀f∈bG x.L,f∈A)(hk:¬(aD x.L m).nd.kind=6){b:Int}(hl:mB (aD x.L m).c (gZ h (level:Int))=some b)(hi2:(aD x.L b).nd.kind=2)(go:gC g x (lT k i m h level gen K))(ok:x.Ok)(hs:SF w D (xH k bx bm x dn rs) A [] (xW x) w):Calls Tryz.prog 117 #[.pointer (some ⟨bx,0,none⟩),.int .i64 i,.int .i64 m,.int .u64 (h:Int),.int .i64 (level:Int),.int .i64 gen] w (We g x K bx bm k dn rs D w):=by
  have hyl:=qG ok m
  have hlL:=ok.lL
  have hb:b<=x.L.length:=by have:=pB (ok.nv m) (gZ h (level:Int));rw[hl] at this;exact this
  refine enter Tryz.func117 Tryz.ntmps117 rfl rfl (cN hs) ?_
  simp only[dB]
  all_goals (refine J0 ?_;refine aY (λ x12=>?_);refine iI ?_;refine dL [(0,[]),(1,[]),(2,[]),(3,[]),(4,[]),(5,[]),(6,[]),(7,[]),(8,[]),(9,[]),(10,[]),(11,[]),(12,[]),(13,[]),(14,[]),(15,[4,9,14]),(16,[9,14]),(17,[14]),(18,[])] ?_;refine J9 ?_;refine aX ?_;refine bP (i:=4) (hq:=(aM (k:=2) (vs:=[.int .i64 k.t.root,.bool k.t.ro]) rf cQ dS rfl rfl)) (h:=?_);refine tO ?_;refine tO ?_;refine iM (hfire:=(λ _=>by first|((repeat (first|exact aI.nil|refine aI.cons (by first|exact dC (hq:=aM (k:=2) (vs:=[.int .i64 k.t.root,.bool k.t.ro]) rf cQ dS rfl rfl)|exact cL|exact a_un) ?_));done)|(refine bK ?_;(repeat (first|exact aI.nil|refine aI.cons (by first|exact dC (hq:=aM (k:=2) (vs:=[.int .i64 k.t.root,.bool k.t.ro]) rf cQ dS rfl rfl)|exact cL|exact a_un) ?_));done))) (h:=λ x14=>?_);refine gV (h:=λ _=>?_);refine Oi ?_;refine jE ?_;(refine aF (cM (hs:=xH k bx bm x dn rs) (os:=xW x) (hc:=λ w hs=>cY m _ hm go ok hs)) (λ x48=>?_);try (refine aB (λ h48=>?_)));refine aY (λ x17=>?_);refine J5 ?_;refine Aj ?_;refine tE ?_)
  all_goals
   refine bF (λ c51=>?_) (λ c51=>?_)
   · try exact nv c51
     all_goals
      exact absurd c51 hk
   · try exact nv c51
     all_goals
      have g0:=h48.1.to (λ _=>if_neg hk)
      have g1:=sV g0 (by rw[hl];rfl)
      rw[hl] at g1
     all_goals (refine Ak ?_;(refine aF (cV (hc:=λ w1 hw=>fN hh (level:Int) w1)) (λ x91=>?_);try (refine aB (λ h91=>?_)));refine yQ ?_;refine aA ?_;refine bV ?_;refine aY (λ x23=>?_);refine J5 ?_;refine rK ?_;(refine aF (cV (hc:=λ w1 hw=>Is (v:=(aD x.L m)) h48.2 hl (ok.rJ hw hA m))) (λ x99=>?_);try (refine aB (λ h99=>?_)));refine aA ?_;refine aH (bX rf rfl) rfl ?_;refine aH (bX rf rfl) rfl ?_;refine J8 ?_;refine Cy ?_)
     all_goals (first|refine aG ?_|(refine aC ?_;refine aA ?_)|(refine dG 103 (λ g103=>?_) (λ g103=>?_)<;>(first|refine aG ?_|(refine aC ?_;refine aA ?_))))
     all_goals ((first|refine aG ?_|(refine aC ?_;refine aA ?_));((first|refine aG ?_|(refine aC ?_;(refine aF (cM (hs:=xH k bx bm x dn rs) (os:=xW x) (hc:=λ w hs=>cY b _ hb g1 ok hs)) (λ x106=>?_);try (refine aB (λ h106=>?_))))));refine tz ?_;refine aN ?_)
     all_goals
      refine bF (λ c109=>?_) (λ c109=>?_)
      · try exact nv c109
        all_goals
         have g2:=h106.1.to (λ _=>if_pos hi2)
        all_goals (refine J0 ?_;refine bV ?_;refine Cw ?_)
        all_goals
         refine bH Tryz.results117 (λ w hw=>?_)
         exact⟨(Rs.zero,2,x,[]),rfl,⟨g2,ok,by simp,Nat.le_refl _,bS _⟩,hw.aV (hF:=by exact aW.nil)⟩
      · try exact nv c109
        all_goals
         exact absurd hi2 c109
set_option maxRecDepth 100000 in
theorem Uv(hg:g.Ok)(i m:Int){h:Nat}(hh:h<18446744073709551616)(level:Nat)(hlv:level<=1073741824)(gen:Int)(K:Rs->Int->Tr)(ht:k.t.root<=9223372036854775807)(hi:i<=x.L.length)(hm:m<=x.L.length)(hA:∀f∈bG x.L,f∈A)(hk:¬(aD x.L m).nd.kind=6){b:Int}(hl:mB (aD x.L m).c (gZ h (level:Int))=some b)(hi2:¬(aD x.L b).nd.kind=2)(he:(aD x.L b).nd.key=k.key)(go:gC g x (lT k i m h level gen K))(ok:x.Ok)(hs:SF w D (xH k bx bm x dn rs) A [] (xW x) w):Calls Tryz.prog 117 #[.pointer (some ⟨bx,0,none⟩),.int .i64 i,.int .i64 m,.int .u64 (h:Int),.int .i64 (level:Int),.int .i64 gen] w (We g x K bx bm k dn rs D w):=by
  have hyl:=qG ok m
  have hlL:=ok.lL
  have hb:b<=x.L.length:=by have:=pB (ok.nv m) (gZ h (level:Int));rw[hl] at this;exact this
  refine enter Tryz.func117 Tryz.ntmps117 rfl rfl (cN hs) ?_
  simp only[dB]
  all_goals (refine J0 ?_;refine aY (λ x12=>?_);refine iI ?_;refine dL [(0,[]),(1,[]),(2,[]),(3,[]),(4,[]),(5,[]),(6,[]),(7,[]),(8,[]),(9,[]),(10,[]),(11,[]),(12,[]),(13,[]),(14,[]),(15,[4,9,14]),(16,[9,14]),(17,[14]),(18,[])] ?_;refine J9 ?_;refine aX ?_;refine bP (i:=4) (hq:=(aM (k:=2) (vs:=[.int .i64 k.t.root,.bool k.t.ro]) rf cQ dS rfl rfl)) (h:=?_);refine tO ?_;refine tO ?_;refine iM (hfire:=(λ _=>by first|((repeat (first|exact aI.nil|refine aI.cons (by first|exact dC (hq:=aM (k:=2) (vs:=[.int .i64 k.t.root,.bool k.t.ro]) rf cQ dS rfl rfl)|exact cL|exact a_un) ?_));done)|(refine bK ?_;(repeat (first|exact aI.nil|refine aI.cons (by first|exact dC (hq:=aM (k:=2) (vs:=[.int .i64 k.t.root,.bool k.t.ro]) rf cQ dS rfl rfl)|exact cL|exact a_un) ?_));done))) (h:=λ x14=>?_);refine gV (h:=λ _=>?_);refine Oi ?_;refine jE ?_;(refine aF (cM (hs:=xH k bx bm x dn rs) (os:=xW x) (hc:=λ w hs=>cY m _ hm go ok hs)) (λ x48=>?_);try (refine aB (λ h48=>?_)));refine aY (λ x17=>?_);refine J5 ?_;refine Aj ?_;refine tE ?_)
  all_goals
   refine bF (λ c51=>?_) (λ c51=>?_)
   · try exact nv c51
     all_goals
      exact absurd c51 hk
   · try exact nv c51
     all_goals
      have g0:=h48.1.to (λ _=>if_neg hk)
      have g1:=sV g0 (by rw[hl];rfl)
      rw[hl] at g1
     all_goals (refine Ak ?_;(refine aF (cV (hc:=λ w1 hw=>fN hh (level:Int) w1)) (λ x91=>?_);try (refine aB (λ h91=>?_)));refine yQ ?_;refine aA ?_;refine bV ?_;refine aY (λ x23=>?_);refine J5 ?_;refine rK ?_;(refine aF (cV (hc:=λ w1 hw=>Is (v:=(aD x.L m)) h48.2 hl (ok.rJ hw hA m))) (λ x99=>?_);try (refine aB (λ h99=>?_)));refine aA ?_;refine aH (bX rf rfl) rfl ?_;refine aH (bX rf rfl) rfl ?_;refine J8 ?_;refine Cy ?_)
     all_goals (first|refine aG ?_|(refine aC ?_;refine aA ?_)|(refine dG 103 (λ g103=>?_) (λ g103=>?_)<;>(first|refine aG ?_|(refine aC ?_;refine aA ?_))))
     all_goals ((first|refine aG ?_|(refine aC ?_;refine aA ?_));((first|refine aG ?_|(refine aC ?_;(refine aF (cM (hs:=xH k bx bm x dn rs) (os:=xW x) (hc:=λ w hs=>cY b _ hb g1 ok hs)) (λ x106=>?_);try (refine aB (λ h106=>?_))))));refine tz ?_;refine aN ?_)
     all_goals
      refine bF (λ c109=>?_) (λ c109=>?_)
      · try exact nv c109
        all_goals
         exact absurd c109 hi2
      · try exact nv c109
        all_goals
         have g3:=(h106.1.to (λ _=>if_neg hi2)).to (λ _=>if_pos he)
        all_goals refine Ak ?_
        all_goals (first|refine aG ?_|(refine aC ?_;refine aA ?_)|(refine dG 112 (λ g112=>?_) (λ g112=>?_)<;>(first|refine aG ?_|(refine aC ?_;refine aA ?_))))
        all_goals ((first|refine aG ?_|(refine aC ?_;refine aA ?_));((first|refine aG ?_|(refine aC ?_;(refine aF (cM (hs:=xH k bx bm x dn rs) (os:=xW x) (hc:=λ w hs=>fK b (by omega) ok hs)) (λ x115=>?_);try (refine aB (λ h115=>?_))))));refine xz ?_;(first|refine aG ?_|(refine aC ?_;refine aH (im rf rf he) rfl ?_));refine cH ?_;refine yQ ?_;(refine aF (cM (hs:=xH k bx bm x dn rs) (os:=xW x) (hc:=λ w hs=>fK b (by omega) ok hs)) (λ x122=>?_);try (refine aB (λ h122=>?_)));refine cP ?_;refine iI ?_;refine J2 ?_;refine kD ?_)
        all_goals
         refine bF (λ c125=>?_) (λ c125=>?_)
         · try exact nv c125
         · try exact nv c125
           all_goals (refine iW ?_;refine jE ?_;refine aA ?_;(refine aF (cM (hs:=xH k bx bm x dn rs) (os:=xW x) (hc:=λ w hs=>wQ _ _ hs)) (λ x129=>?_);try (refine aB (λ h129=>?_)));refine kD ?_)
           all_goals
            refine bF (λ c130=>?_) (λ c130=>?_)
            · try exact nv c130
              all_goals
               have g2:=g3.to (λ _=>if_neg (show ¬nG k true (aD x.L b).nd.val=true from by simpa using c130))
              all_goals (refine jE ?_;(refine aF (cV (hc:=λ w1 hw=>gM _ _ w1)) (λ x133=>?_);try (refine aB (λ h133=>?_)));refine Cw ?_)
              all_goals
               refine bH Tryz.results117 (λ w hw=>?_)
               exact⟨(jR true (aD x.L b).nd.val,1,x,[]),rfl,⟨g2,ok,by simp,Nat.le_refl _,bS _⟩,hw.aV (hF:=by exact aW.nil)⟩
            · try exact nv c130
              all_goals
               have g2:=g3.to (λ _=>if_pos (show nG k true (aD x.L b).nd.val=true from by simpa using c130))
              all_goals (refine oD ?_;refine J2 ?_;refine xL ?_;refine J1 ?_)
              all_goals
               refine bF (λ c134=>?_) (λ c134=>?_)
               · try exact nv c134
               · try exact nv c134
                 all_goals (refine J2 ?_;refine J1 ?_)
                 all_goals
                  refine bF (λ c159=>?_) (λ c159=>?_)
                  · try exact nv c159
                    all_goals (refine aT ?_;refine dL [(0,[]),(1,[]),(2,[]),(3,[]),(4,[]),(5,[]),(6,[]),(7,[]),(8,[]),(9,[]),(13,[]),(10,[2]),(11,[2]),(12,[]),(14,[]),(15,[]),(16,[]),(17,[]),(18,[])] ?_;refine gD ?_;refine bT ?_;refine gD ?_;refine gD ?_;refine gD ?_;refine bT ?_;refine aL ?_;((refine bA (i:=10) (hq:=(cM (hs:=xH k bx bm x dn rs) (os:=xW x) (A0:=[(none,aJ []),(none,dI [])]) (hc:=λ w hs=>gT hg (n:={Nd.zero with kind:=4,hash:=(h:Int),key:=k.key,val:=k.val}) (xs:=[]) (ys:=[]) 0 _ rfl rfl (by decide) (Nat.zero_le _) (Ex hh) (bS _) (g2) ok hs))) (h:=λ x171=>?_);try (refine aK (λ h171=>?_)))))
                    all_goals
                     have hch:=(Ch.base (F:=[])).nx h171
                    all_goals (((refine bA (i:=11) (hq:=(cM (hs:=xH k bx bm x171.2.1 dn rs) (os:=xW x171.2.1) (A0:=bG x171.2.1.L) (hA:=Ch.all hch hA) (hc:=λ w hs=>Ao hg m (gZ h (level:Int)) x171.1 _ (by have:=h171.len;omega) h171.bd (λ f hf=>hf) h171.go h171.ok hs))) (h:=λ x172=>?_);try (refine aK (λ h172=>?_))));((refine bA (i:=12) (hq:=(cM (hs:=xH k bx bm x172.2.1 dn rs) (os:=xW x172.2.1) (hc:=λ w hs=>sY hg k.t i m x172.1 _ ht (by have:=h171.len;have:=h172.len;omega) h172.bd h172.go h172.ok hs))) (h:=λ x173=>?_);try (refine aK (λ h173=>?_)))))
                    all_goals
                     have hch2:=Ch.nx h173 (Ch.nx h172 hch)
                     have hlc:x.cs.length<=x173.2.1.cs.length:=by have:=h171.lc;have:=h172.lc;have:=h173.lc;omega
                    all_goals (((refine bA (i:=14) (hq:=(cV (hc:=λ w1 hw=>oU _ _ _ _ w1))) (h:=λ x175=>?_);try (refine aK (λ h175=>?_))));refine cI (i:=15) (hq:=(bX rf rfl)) (h:=?_);refine cI (i:=16) (hq:=(bX rf rfl)) (h:=?_);refine Bp ?_)
                    all_goals
                     refine bH Tryz.results117 (λ w hw=>?_)
                     obtain⟨N,hN,hf⟩:=hch2.to (t':=K (qY true (aD x.L b).nd.val) (if x173.1=true then 1 else 0)) h173 (h173.go) hlc (bS _)
                     exact⟨(qY true (aD x.L b).nd.val,(if x173.1=true then 1 else 0),x173.2.1,N),rfl,hN,(hw.dO hf).aV (hF:=by exact aW.all)⟩
                  · try exact nv c159
set_option maxRecDepth 100000 in
theorem V8(hg:g.Ok)(i m:Int){h:Nat}(hh:h<18446744073709551616)(level:Nat)(hlv:level<=1073741824)(gen:Int)(K:Rs->Int->Tr)(ht:k.t.root<=9223372036854775807)(hi:i<=x.L.length)(hm:m<=x.L.length)(hA:∀f∈bG x.L,f∈A)(hk:¬(aD x.L m).nd.kind=6){b:Int}(hl:mB (aD x.L m).c (gZ h (level:Int))=some b)(hi2:¬(aD x.L b).nd.kind=2)(he:¬(aD x.L b).nd.key=k.key)(go:gC g x (lT k i m h level gen K))(ok:x.Ok)(hs:SF w D (xH k bx bm x dn rs) A [] (xW x) w):Calls Tryz.prog 117 #[.pointer (some ⟨bx,0,none⟩),.int .i64 i,.int .i64 m,.int .u64 (h:Int),.int .i64 (level:Int),.int .i64 gen] w (We g x K bx bm k dn rs D w):=by
  have hyl:=qG ok m
  have hlL:=ok.lL
  have hb:b<=x.L.length:=by have:=pB (ok.nv m) (gZ h (level:Int));rw[hl] at this;exact this
  refine enter Tryz.func117 Tryz.ntmps117 rfl rfl (cN hs) ?_
  simp only[dB]
  all_goals (refine J0 ?_;refine aY (λ x12=>?_);refine iI ?_;refine dL [(0,[]),(1,[]),(2,[]),(3,[]),(4,[]),(5,[]),(6,[]),(7,[]),(8,[]),(9,[]),(10,[]),(11,[]),(12,[]),(13,[]),(14,[]),(15,[4,9,14]),(16,[9,14]),(17,[14]),(18,[])] ?_;refine J9 ?_;refine aX ?_;refine bP (i:=4) (hq:=(aM (k:=2) (vs:=[.int .i64 k.t.root,.bool k.t.ro]) rf cQ dS rfl rfl)) (h:=?_);refine tO ?_;refine tO ?_;refine iM (hfire:=(λ _=>by first|((repeat (first|exact aI.nil|refine aI.cons (by first|exact dC (hq:=aM (k:=2) (vs:=[.int .i64 k.t.root,.bool k.t.ro]) rf cQ dS rfl rfl)|exact cL|exact a_un) ?_));done)|(refine bK ?_;(repeat (first|exact aI.nil|refine aI.cons (by first|exact dC (hq:=aM (k:=2) (vs:=[.int .i64 k.t.root,.bool k.t.ro]) rf cQ dS rfl rfl)|exact cL|exact a_un) ?_));done))) (h:=λ x14=>?_);refine gV (h:=λ _=>?_);refine Oi ?_;refine jE ?_;(refine aF (cM (hs:=xH k bx bm x dn rs) (os:=xW x) (hc:=λ w hs=>cY m _ hm go ok hs)) (λ x48=>?_);try (refine aB (λ h48=>?_)));refine aY (λ x17=>?_);refine J5 ?_;refine Aj ?_;refine tE ?_)
  all_goals
   refine bF (λ c51=>?_) (λ c51=>?_)
   · try exact nv c51
     all_goals
      exact absurd c51 hk
   · try exact nv c51
     all_goals
      have g0:=h48.1.to (λ _=>if_neg hk)
      have g1:=sV g0 (by rw[hl];rfl)
      rw[hl] at g1
     all_goals (refine Ak ?_;(refine aF (cV (hc:=λ w1 hw=>fN hh (level:Int) w1)) (λ x91=>?_);try (refine aB (λ h91=>?_)));refine yQ ?_;refine aA ?_;refine bV ?_;refine aY (λ x23=>?_);refine J5 ?_;refine rK ?_;(refine aF (cV (hc:=λ w1 hw=>Is (v:=(aD x.L m)) h48.2 hl (ok.rJ hw hA m))) (λ x99=>?_);try (refine aB (λ h99=>?_)));refine aA ?_;refine aH (bX rf rfl) rfl ?_;refine aH (bX rf rfl) rfl ?_;refine J8 ?_;refine Cy ?_)
     all_goals (first|refine aG ?_|(refine aC ?_;refine aA ?_)|(refine dG 103 (λ g103=>?_) (λ g103=>?_)<;>(first|refine aG ?_|(refine aC ?_;refine aA ?_))))
     all_goals ((first|refine aG ?_|(refine aC ?_;refine aA ?_));((first|refine aG ?_|(refine aC ?_;(refine aF (cM (hs:=xH k bx bm x dn rs) (os:=xW x) (hc:=λ w hs=>cY b _ hb g1 ok hs)) (λ x106=>?_);try (refine aB (λ h106=>?_))))));refine tz ?_;refine aN ?_)
     all_goals
      refine bF (λ c109=>?_) (λ c109=>?_)
      · try exact nv c109
        all_goals
         exact absurd c109 hi2
      · try exact nv c109
        all_goals
         have g3:=(h106.1.to (λ _=>if_neg hi2)).to (λ _=>if_neg he)
        all_goals refine Ak ?_
        all_goals (first|refine aG ?_|(refine aC ?_;refine aA ?_)|(refine dG 112 (λ g112=>?_) (λ g112=>?_)<;>(first|refine aG ?_|(refine aC ?_;refine aA ?_))))
        all_goals ((first|refine aG ?_|(refine aC ?_;refine aA ?_));((first|refine aG ?_|(refine aC ?_;(refine aF (cM (hs:=xH k bx bm x dn rs) (os:=xW x) (hc:=λ w hs=>fK b (by omega) ok hs)) (λ x115=>?_);try (refine aB (λ h115=>?_))))));refine xz ?_;(first|refine aG ?_|(refine aC ?_;refine aH (fj rf rf he) rfl ?_));refine cH ?_;refine yQ ?_;(refine aF (cM (hs:=xH k bx bm x dn rs) (os:=xW x) (hc:=λ w hs=>fK b (by omega) ok hs)) (λ x122=>?_);try (refine aB (λ h122=>?_)));refine cP ?_;refine iI ?_;refine J2 ?_;refine kD ?_)
        all_goals
         refine bF (λ c125=>?_) (λ c125=>?_)
         · try exact nv c125
           all_goals (refine dD ?_;refine iI ?_;refine jE ?_;refine aA ?_;(refine aF (cM (hs:=xH k bx bm x dn rs) (os:=xW x) (hc:=λ w hs=>wQ _ _ hs)) (λ x129=>?_);try (refine aB (λ h129=>?_)));refine kD ?_)
           all_goals
            refine bF (λ c130=>?_) (λ c130=>?_)
            · try exact nv c130
              all_goals
               have g2:=g3.to (λ _=>if_neg (show ¬nG k false 0=true from by simpa using c130))
              all_goals (refine jE ?_;(refine aF (cV (hc:=λ w1 hw=>gM _ _ w1)) (λ x133=>?_);try (refine aB (λ h133=>?_)));refine Cw ?_)
              all_goals
               refine bH Tryz.results117 (λ w hw=>?_)
               exact⟨(jR false 0,1,x,[]),rfl,⟨g2,ok,by simp,Nat.le_refl _,bS _⟩,hw.aV (hF:=by exact aW.nil)⟩
            · try exact nv c130
              all_goals
               have g2:=g3.to (λ _=>if_pos (show nG k false 0=true from by simpa using c130))
              all_goals (refine oD ?_;refine J2 ?_;refine xL ?_;refine J1 ?_)
              all_goals
               refine bF (λ c134=>?_) (λ c134=>?_)
               · try exact nv c134
               · try exact nv c134
                 all_goals (refine J2 ?_;refine J1 ?_)
                 all_goals
                  refine bF (λ c159=>?_) (λ c159=>?_)
                  · try exact nv c159
                  · try exact nv c159
                    all_goals (refine mN ?_;refine jE ?_;refine bV ?_;refine oI ?_;refine oI ?_;refine rB ?_;refine aA ?_;(refine aF (cM (hs:=xH k bx bm x dn rs) (os:=xW x) (hc:=λ w hs=>ta hg b hh (level+1) gen _ hb g2 ok hs)) (λ x187=>?_);try (refine aB (λ h187=>?_)));(refine aF (cM (hs:=xH k bx bm x187.2.1 dn rs) (os:=xW x187.2.1) (A0:=[(none,aJ []),(none,dI [])]) (hc:=λ w hs=>gT hg (n:={Nd.zero with kind:=2,gen:=gen}) (xs:=[]) (ys:=[]) x187.1 _ rfl rfl (by decide) (Nat.zero_le _) qW h187.bd h187.go h187.ok hs)) (λ x188=>?_);try (refine aB (λ h188=>?_))))
                    all_goals
                     have hch:=Ch.nx h188 ((Ch.base (F:=[])).nx h187)
                    all_goals (refine iI ?_;refine dL [(0,[]),(1,[]),(2,[]),(3,[]),(4,[]),(5,[]),(6,[]),(7,[]),(8,[]),(9,[2]),(10,[]),(11,[]),(12,[]),(13,[]),(14,[]),(15,[])] ?_;refine gD ?_;refine bT ?_;refine gD ?_;refine gD ?_;refine gD ?_;((refine bA (i:=9) (hq:=(cM (hs:=xH k bx bm x188.2.1 dn rs) (os:=xW x188.2.1) (A0:=bG x188.2.1.L) (hA:=Ch.all hch hA) (hc:=λ w hs=>Ao hg m (gZ h (level:Int)) x188.1 _ (by have:=h187.len;have:=h188.len;omega) h188.bd (λ f hf=>hf) h188.go h188.ok hs))) (h:=λ x198=>?_);try (refine aK (λ h198=>?_))));((refine bA (i:=10) (hq:=(cM (hs:=xH k bx bm x198.2.1 dn rs) (os:=xW x198.2.1) (hc:=λ w hs=>sY hg k.t i m x198.1 _ ht (by have:=h187.len;have:=h188.len;have:=h198.len;omega) h198.bd h198.go h198.ok hs))) (h:=λ x199=>?_);try (refine aK (λ h199=>?_)))))
                    all_goals
                     have hch2:=Ch.nx h199 (Ch.nx h198 hch)
                     have hlc:x.cs.length<=x199.2.1.cs.length:=by have:=h187.lc;have:=h188.lc;have:=h198.lc;have:=h199.lc;omega
                    all_goals (((refine bA (i:=11) (hq:=(cV (hc:=λ w1 hw=>oU _ _ _ _ w1))) (h:=λ x200=>?_);try (refine aK (λ h200=>?_))));refine cI (i:=12) (hq:=(bX rf rfl)) (h:=?_);refine cI (i:=13) (hq:=(bX rf rfl)) (h:=?_);refine Bp ?_)
                    all_goals
                     refine bH Tryz.results117 (λ w hw=>?_)
                     obtain⟨N,hN,hf⟩:=hch2.to (t':=K (qY false 0) (if x199.1=true then 1 else 0)) h199 (h199.go) hlc (bS _)
                     exact⟨(qY false 0,(if x199.1=true then 1 else 0),x199.2.1,N),rfl,hN,(hw.dO hf).aV (hF:=by exact aW.all)⟩
         · try exact nv c125
theorem Ug(hg:g.Ok)(i m:Int){h:Nat}(hh:h<18446744073709551616)(level:Nat)(hlv:level<=1073741824)(gen:Int)(K:Rs->Int->Tr)(ht:k.t.root<=9223372036854775807)(hi:i<=x.L.length)(hm:m<=x.L.length)(hA:∀f∈bG x.L,f∈A)(go:gC g x (lT k i m h level gen K))(ok:x.Ok)(hs:SF w D (xH k bx bm x dn rs) A [] (xW x) w):Calls Tryz.prog 117 #[.pointer (some ⟨bx,0,none⟩),.int .i64 i,.int .i64 m,.int .u64 (h:Int),.int .i64 (level:Int),.int .i64 gen] w (We g x K bx bm k dn rs D w):=by
 by_cases hk:(aD x.L m).nd.kind=6
 ·exact Va hg i m hh level hlv gen K ht hi hm hA hk go ok hs
 ·cases hl:mB (aD x.L m).c (gZ h (level:Int)) with
  | none=>exact U6 hg i m hh level hlv gen K ht hi hm hA hk hl go ok hs
  | some b =>
   by_cases hi2:(aD x.L b).nd.kind=2
   ·exact Up hg i m hh level hlv gen K ht hi hm hA hk hl hi2 go ok hs
   ·by_cases he:(aD x.L b).nd.key=k.key
    ·exact Uv hg i m hh level hlv gen K ht hi hm hA hk hl hi2 he go ok hs
    ·exact V8 hg i m hh level hlv gen K ht hi hm hA hk hl hi2 he go ok hs
end
end Go.Proofs.YtpobgmdalcpomaaGreat

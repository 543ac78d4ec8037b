/- Executions of the reference: ROOT, SETTLE, READ. -/
import Derived.Test.YtadnboagdhcedaaGreatDoorGEx4

set_option linter.unusedSimpArgs false
set_option linter.unusedVariables false
namespace Go.Ct
section
open Go Go.RowKit
theorem Ch.zp{g:Gx}{x0 x x':XS}{F:Fr}{t:Tr}{b:Int}(h:Nx g x x' [] t b)(hc:Ch x0 x F):Ch x0 x' F:=by
 have:=Ch.nx h hc;exact this
theorem pJ.i64{n c:Nat}{v:aI}(h:pJ n c v.c)(hn:n<=137438953600)(hc:c<=137438953600):v.nd.bO<=9223372036854775807/\v.nd.new<=9223372036854775807/\v.nd.exp<=9223372036854775807/\v.nd.main<=9223372036854775807/\v.nd.prev<=9223372036854775807/\v.nd.status<=9223372036854775807:=by
 have h1:v.nd.bO<=n:=h.bO;have h2:v.nd.new<=n:=h.new;have h3:v.nd.exp<=n:=h.exp;have h4:v.nd.main<=c:=h.main;have h5:v.nd.prev<=c:=h.prev;have h6:v.nd.status<=c:=h.status;omega
end
end Go.Ct
namespace Go.Proofs.YtadnboagdhcedaaGreatDoor
section
open Go Go.RowKit Go.Ct
section
variable{k:Cl}{bx bm:Nat}{x:XS}{dn:Bool}{rs:Rs}{D:List Nat}{A:Fr}{w:World}{g:Gx}
abbrev N3(t:iS):Value:=.agg ⟨[.int .i64 t.root,.bool t.ro]⟩
theorem F9(v s:Int)(K:Int->Tr)(hv:v<=x.L.length)(go:gS g x (aAd v s K))(ok:x.Ok)(hs:SF w D (xH k bx bm x dn rs) A [] (xW x) w):Calls Tryz.prog 113 #[.pointer (some ⟨bx,0,none⟩),.int .i64 v,.int .i64 s] w λ e w'=>∃q:Int,e=.returned (.int .i64 q)/\(gS g x (K q)/\q<=x.L.length)/\SF w D (xH k bx bm x dn rs) [] [] (xW x) w':=by
 refine enter Tryz.func113 Tryz.ntmps113 rfl rfl (cL hs) ?_;simp only[cP]
 refine Kb4 ?_;refine rW ?_;refine bA (λ c8=>?_) (λ c8=>?_)
 ·refine jJ ?_;refine aD (cM (hs:=xH k bx bm x dn rs) (os:=xW x) (hc:=λ w hs=>cW v _ hv go ok hs)) (λ x11 h11=>?_);refine cJ ?_;refine J1 ?_;refine aR Tryz.results113 (λ w hw=>?_);exact⟨_,rfl,⟨h11.1.to (λ _=>by rw[if_pos (by assumption)];rfl),h11.2.new⟩,hw.aQ⟩
 ·refine Cg ?_;refine aD (cM (hs:=xH k bx bm x dn rs) (os:=xW x) (hc:=λ w hs=>cW v _ hv go ok hs)) (λ x15 h15=>?_);refine cJ ?_;refine J1 ?_;refine aR Tryz.results113 (λ w hw=>?_);exact⟨_,rfl,⟨h15.1.to (λ _=>by rw[if_neg (by assumption)];rfl),h15.2.bO⟩,hw.aQ⟩
theorem xv(hg:g.Ok)(t:iS)(K:Int->Tr)(ht:t.root<=9223372036854775807)(go:gS g x (Uy t K))(ok:x.Ok)(hs:SF w D (xH k bx bm x dn rs) A [] (xW x) w):Calls Tryz.prog 141 #[.pointer (some ⟨bx,0,none⟩),N3 t] w λ e w'=>∃q:Int×XS,e=.returned (.int .i64 q.1)/\Nx g x q.2 [] (K q.1) q.1/\SF w D (xH k bx bm q.2 dn rs) [] [] (xW q.2) w':=by
 refine enter Tryz.func141 Tryz.ntmps141 rfl rfl (cL hs) ?_;simp only[cP]
 simp only[N3]
 refine K1r ?_;intro x3;refine Ka6 ?_;refine J3 ?_;refine aD (cM (hs:=xH k bx bm x dn rs) (os:=xW x) (hc:=λ w hs=>qM hg t.root _ ht go ok hs)) (λ x11 h11=>?_);refine gX ?_;refine oR ?_;refine aB ?_;(refine eM 16 (λ g16=>?_) (λ g16=>?_)<;>refine Ka0 ?_);all_goals (refine Ka0 ?_;(first|refine aJ ?_|(refine aF ?_;refine aD (cM (hs:=xH k bx bm x11.2 dn rs) (os:=xW x11.2) (hc:=λ w hs=>cW x11.1 _ h11.bd h11.go h11.ok hs)) (λ x19 h19=>?_)));refine J87 ?_;refine aK ?_)
 all_goals
 refine bA (λ c22=>?_) (λ c22=>?_)
 ·all_goals (refine Ka5 ?_)
  all_goals
   refine aR Tryz.results141 (λ w hw=>?_);exact⟨x11,rfl,h11.cU (by first|exact h11.go.cB (by assumption)|exact h19.1.to (λ _=>if_pos (by assumption))) h11.bd,hw.aQ⟩
 ·try exact nv c22
  all_goals
   have g1:=h19.1.to (λ _=>if_neg c22);have hb1:=h19.2.i64 h11.ok.lL h11.ok.lc
  all_goals (refine Cg ?_;refine aB ?_;refine aD (cM (hs:=xH k bx bm x11.2 dn rs) (os:=xW x11.2) (hc:=λ w hs=>cW x11.1 _ h11.bd g1 h11.ok hs)) (λ x27 h27=>?_);refine cJ ?_;refine aD (cM (hs:=xH k bx bm x11.2 dn rs) (os:=xW x11.2) (hc:=λ w hs=>qM hg (aA x11.2.L x11.1).nd.status _ hb1.2.2.2.2.2 h27.1 h11.ok hs)) (λ x29 h29=>?_);refine gX ?_)
  all_goals
   refine eN [6,30,31,32,33,34,35,36,37,38,39,40,41,42,43] (λ q:Int×XS=>[(6,.int .i64 q.1)]) (λ q=>Nx g x q.2 [] (Kt t x11.1 q.1 K) 0/\x11.1<=q.2.L.length) (λ q=>[(x3,.cells ⟨[.int .i64 t.root,.bool t.ro]⟩ 29 (0,0)),(bx,xO k bm q.2 dn rs),(bm,xM q.2)]) (λ _=>[]) (λ q=>xW q.2) (by decide) (λ _=>by exact rfl) ?_ (λ q f hx=>?_)
   ·refine aV ?_;refine zT ?_;refine rW ?_;refine bA (λ c31=>?_) (λ c31=>?_)
    ·have g2:=h29.go.to (λ _=>if_pos c31);have hv2:x11.1<=x29.2.L.length:=by have:=h29.len;have:=h11.bd;omega
     refine Ke5 ?_;refine aD (cM (hs:=xH k bx bm x29.2 dn rs) (os:=xW x29.2) (hc:=λ w hs=>cW x11.1 _ hv2 g2 h29.ok hs)) (λ x35 h35=>?_);refine cJ ?_;refine aD (cM (hs:=xH k bx bm x29.2 dn rs) (os:=xW x29.2) (hc:=λ w hs=>wZ hg (aA x29.2.L x11.1).nd.status 0 2 _ (h35.2.i64 h29.ok.lL h29.ok.lc).2.2.2.2.2 (by have:=h29.ok.two;omega) h35.1 h29.ok hs)) (λ x37 h37=>?_);refine aK ?_;refine zT ?_;refine pK ?_;refine aD (cM (hs:=xH k bx bm x37.2 dn rs) (os:=xW x37.2) (hc:=λ w hs=>cW x11.1 _ (by have:=h37.len;omega) h37.go h37.ok hs)) (λ x41 h41=>?_);refine cJ ?_;refine aD (cM (hs:=xH k bx bm x37.2 dn rs) (os:=xW x37.2) (hc:=λ w hs=>qM hg (aA x37.2.L x11.1).nd.status _ (h41.2.i64 h37.ok.lL h37.ok.lc).2.2.2.2.2 h41.1 h37.ok hs)) (λ x43 h43=>?_);refine J1 ?_;refine eQ (x43) ?_
     ·exact⟨(h11.trans (h29.trans (h37.trans h43))).cU h43.go (bT _),by have:=h37.len;have:=h43.len;omega⟩
    ·have g2:=h29.go.to (λ _=>if_neg c31);have hv2:x11.1<=x29.2.L.length:=by have:=h29.len;have:=h11.bd;omega
     refine bB ?_;refine eQ (x29) ?_
     ·exact⟨(h11.trans h29).cU g2 (bT _),hv2⟩
   refine K0a ?_
  all_goals (refine Ke5 ?_;refine aD (cM (hs:=xH k bx bm q.2 dn rs) (os:=xW q.2) (hc:=λ w hs=>F9 x11.1 q.1 _ hx.2 hx.1.go hx.1.ok hs)) (λ x47 h47=>?_);refine Ka6 ?_;refine J3 ?_;refine pK ?_;refine aD (cM (hs:=xH k bx bm q.2 dn rs) (os:=xW q.2) (hc:=λ w hs=>wZ hg t.root x11.1 x47 _ ht h47.2 h47.1 hx.1.ok hs)) (λ x53 h53=>?_);refine aK ?_;refine Ka5 ?_)
  all_goals
   refine aR Tryz.results141 (λ w hw=>?_);exact⟨(x47,x53.2),rfl,(hx.1.trans h53).cU h53.go (by have:=h53.len;have:=h47.2;omega),hw.aQ⟩
end
end

/- Executions of the reference: SETTLE, READ, GCAS. -/
end Go.Proofs.YtadnboagdhcedaaGreatDoor
namespace Go.Ct
section
theorem bh{n c:Nat}{p:Int}(h:p<=n):pJ n c {(({Nd.zero with kind:=7,bO:=p}:Nd).c [] []) with main:=0,prev:=0,status:=0}:=⟨h,bT _,bT _,(λ r hr=>nomatch hr),bT _,bT _,bT _,⟨0,rfl,by decide⟩,⟨0,rfl,by decide⟩⟩
end
end Go.Ct
namespace Go.Proofs.YtadnboagdhcedaaGreatDoor
section
open Go Go.RowKit Go.Ct
section
variable{k:Cl}{bx bm:Nat}{x:XS}{dn:Bool}{rs:Rs}{D:List Nat}{A:Fr}{w:World}{g:Gx}
theorem Ob(hg:g.Ok)(t:iS)(i m:Int)(K:Int->Tr)(ht:t.root<=9223372036854775807)(hi:i<=x.L.length)(hm:m<=x.L.length)(go:gS g x (A4 t i m K))(ok:x.Ok)(hs:SF w D (xH k bx bm x dn rs) A [] (xW x) w):Calls Tryz.prog 108 #[.pointer (some ⟨bx,0,none⟩),N3 t,.int .i64 i,.int .i64 m] w λ e w'=>∃q:Int×XS×List aI,e=.returned (.int .i64 q.1)/\Nx g x q.2.1 q.2.2 (K q.1) q.1/\SF w D (xH k bx bm q.2.1 dn rs) [] (bD q.2.2) (xW q.2.1) w':=by
 refine enter Tryz.func108 Tryz.ntmps108 rfl rfl (cL hs) ?_;simp only[cP]
 simp only[N3]
 refine J0 ?_;refine bF (λ x5=>?_);refine vE ?_;refine aB ?_;refine aD (cM (hs:=xH k bx bm x dn rs) (os:=xW x) (hc:=λ w hs=>cW m _ hm go ok hs)) (λ x14 h14=>?_);refine cJ ?_;refine aD (cM (hs:=xH k bx bm x dn rs) (os:=xW x) (hc:=λ w hs=>qM hg (aA x.L m).nd.prev _ (h14.2.i64 ok.lL ok.lc).2.2.2.2.1 h14.1 ok hs)) (λ x16 h16=>?_);refine gX ?_;refine oR ?_;refine aB ?_;(refine eM 21 (λ g21=>?_) (λ g21=>?_)<;>refine Ka0 ?_);all_goals (refine zC ?_;refine aK ?_)
 all_goals
 refine bA (λ c24=>?_) (λ c24=>?_)
 ·all_goals (refine Ka5 ?_)
  all_goals
   refine aR Tryz.results108 (λ w hw=>?_);exact⟨(m,x16.2,[]),rfl,h16.cU (by first|exact h16.go.cB (by assumption)|exact h16.go.to (λ _=>if_pos (by assumption))) (by have:=h16.len;omega),hw.zA0⟩
 ·try exact nv c24
  all_goals
   have g1:=h16.go.to (λ _=>if_neg c24);have hl16:=h16.len
  all_goals refine jH ?_
  all_goals
   refine eN [8,9,10,26,27,28,29,30,31,32,33,34,35,36,37,38,39,40,41,42,43,44,45,46,47,48,49,50,51,52,53,54,55,56,57,58,59,60,61,62,63,64,65,66,67,68,69,70,71,72,73,74,75,76,77] (λ q:Int×XS×List aI=>[(9,.int .i64 q.1)]) (λ q=>Nx g x q.2.1 q.2.2 (ku i m q.1 K) 0/\q.1<=q.2.1.L.length) (λ q=>[(x5,.cells ⟨[.int .i64 t.root,.bool t.ro]⟩ 29 (0,0)),(bx,xO k bm q.2.1 dn rs),(bm,xM q.2.1)]) (λ q=>bD q.2.2) (λ q=>xW q.2.1) (by decide) (λ _=>by exact rfl) ?_ (λ q f hx=>?_)
   ·refine aV ?_;refine Il ?_;refine aD (cM (hs:=xH k bx bm x16.2 dn rs) (os:=xW x16.2) (hc:=λ w hs=>cW x16.1 _ h16.bd g1 h16.ok hs)) (λ x28 h28=>?_);refine aD (c0 (V:=.bool) (hc:=λ w1 hw=>xZ (aA x16.2.L x16.1).nd w1)) (λ x29 h29=>?_);refine aK ?_;refine bA (λ c29=>?_) (λ c29=>?_)
    ·have g2:=h28.1.to (λ _=>if_pos (show cC (aA x16.2.L x16.1).c from h29.1 c29));refine D6 ?_;refine eN [10,30,31,32,33,34,35,36,37,38,39,40,41,42,43] (λ y:Bool×XS=>[(10,.bool y.1)]) (λ y=>Nx g x y.2 [] (Gn i m x16.1 y.1 K) 0/\x16.1<=y.2.L.length) (λ y=>[(x5,.cells ⟨[.int .i64 t.root,.bool t.ro]⟩ 29 (0,0)),(bx,xO k bm y.2 dn rs),(bm,xM y.2)]) (λ _=>[]) (λ y=>xW y.2) (by decide) (λ _=>by exact rfl) ?_ (λ y f hx=>?_)
     ·refine aV ?_;refine dM ?_;refine J3 ?_;refine lA ?_;refine bA (λ c32=>?_) (λ c32=>?_)
      ·have g3:=g2.to (λ _=>if_neg (by simpa using c32));refine Il ?_;refine bI ?_;refine aD (cM (hs:=xH k bx bm x16.2 dn rs) (os:=xW x16.2) (hc:=λ w hs=>xv hg t _ ht g3 h16.ok hs)) (λ x36 h36=>?_);refine aD (cM (hs:=xH k bx bm x36.2 dn rs) (os:=xW x36.2) (hc:=λ w hs=>cW x36.1 _ h36.bd h36.go h36.ok hs)) (λ x37 h37=>?_);refine cJ ?_;refine pK ?_;refine aD (cM (hs:=xH k bx bm x36.2 dn rs) (os:=xW x36.2) (hc:=λ w hs=>cW i _ (by have:=h36.len;omega) h37.1 h36.ok hs)) (λ x41 h41=>?_);refine cJ ?_;refine Oa ?_;refine eQ (((aA x36.2.L x36.1).nd.gen==(aA x36.2.L i).nd.gen,x36.2)) ?_
       ·exact⟨(h16.trans h36).cU h41.1 (bT _),(show x16.1<=(x36.2.L.length:Int) by have:=h36.len;have:=h16.bd;omega)⟩
      ·have g3:=g2.to (λ _=>if_pos (by simpa using c32));refine bB ?_;refine eQ ((false,x16.2)) ?_
       ·exact⟨h16.cU g3 (bT _),h16.bd⟩
     refine K0a ?_;have hly:=hx.1.len;refine aV ?_;refine eN [44,45,46,47,48,49,50,51,52,53,54,55,56,57,58,59,60,61,62] (λ z:XS×List aI=>[]) (λ z=>Nx g x z.1 z.2 (vL i m K) 0) (λ z=>[(x5,.cells ⟨[.int .i64 t.root,.bool t.ro]⟩ 29 (0,0)),(bx,xO k bm z.1 dn rs),(bm,xM z.1)]) (λ z=>bD z.2) (λ z=>xW z.1) (by decide) (λ _=>by exact rfl) ?_ (λ z f hx=>?_)
     ·refine aV ?_;refine zT ?_;refine aK ?_;refine bA (λ c44=>?_) (λ c44=>?_)
      ·have g4:=hx.1.go.to (λ _=>if_pos c44);refine zT ?_;refine pK ?_;refine aD (cM (hs:=xH k bx bm y.2 dn rs) (os:=xW y.2) (hc:=λ w hs=>cW m _ (by omega) g4 hx.1.ok hs)) (λ x48 h48=>?_);refine cJ ?_;refine aB ?_;refine aD (cM (hs:=xH k bx bm y.2 dn rs) (os:=xW y.2) (hc:=λ w hs=>wZ hg (aA y.2.L m).nd.prev x16.1 0 _ (h48.2.i64 hx.1.ok.lL hx.1.ok.lc).2.2.2.2.1 (bT _) h48.1 hx.1.ok hs)) (λ x51 h51=>?_);refine aK ?_;refine eQ ((x51.2,[])) ?_ (hw1:=λ w hw=>hw.zA1)
       ·exact(hx.1.trans h51).cU h51.go (bT _)
      ·have g4:=hx.1.go.to (λ _=>if_neg (by rw[c44];decide));refine zT ?_;refine pK ?_;refine aD (cM (hs:=xH k bx bm y.2 dn rs) (os:=xW y.2) (hc:=λ w hs=>cW m _ (by omega) g4 hx.1.ok hs)) (λ x55 h55=>?_);refine cJ ?_;refine pK ?_;refine aB ?_;refine bQ ?_;refine aD (cM (hs:=xH k bx bm y.2 dn rs) (os:=xW y.2) (A0:=[(none,aH []),(none,dK [])]) (hc:=λ w hs=>iD hg (n:={Nd.zero with kind:=7,bO:=x16.1}) (xs:=[]) (ys:=[]) 0 _ rfl rfl (by decide) (Nat.zero_le _) (bh hx.2) (bT _) h55.1 hx.1.ok hs)) (λ x61 h61=>?_);refine aD (cM (hs:=xH k bx bm x61.2.1 dn rs) (os:=xW x61.2.1) (hc:=λ w hs=>wZ hg (aA y.2.L m).nd.prev x16.1 x61.1 _ (h55.2.i64 hx.1.ok.lL hx.1.ok.lc).2.2.2.2.1 h61.bd h61.go h61.ok hs)) (λ x62 h62=>?_);refine aK ?_;refine eQ ((x62.2,x61.2.2)) ?_ (hw1:=λ w hw=>by rw[List.append_nil] at hw;exact hw.zA1)
       ·exact(hx.1.trans (h61.trans h62)).ext' h62.go (bT _)
     refine K0a ?_;have hlz:=hx.len;refine Ke5 ?_;refine aD (cM (hs:=xH k bx bm z.1 dn rs) (os:=xW z.1) (hc:=λ w hs=>cW m _ (by omega) hx.go hx.ok hs)) (λ x66 h66=>?_);refine cJ ?_;refine aD (cM (hs:=xH k bx bm z.1 dn rs) (os:=xW z.1) (hc:=λ w hs=>qM hg (aA z.1.L m).nd.prev _ (h66.2.i64 hx.ok.lL hx.ok.lc).2.2.2.2.1 h66.1 hx.ok hs)) (λ x68 h68=>?_);refine J1 ?_;refine oR ?_;refine aB ?_;(refine eM 73 (λ g73=>?_) (λ g73=>?_)<;>refine Ka0 ?_);all_goals (refine zC ?_;refine aK ?_)
     all_goals
     refine bA (λ c76=>?_) (λ c76=>?_)
     ·all_goals (refine Ka5 ?_)
      all_goals
       refine aR Tryz.results108 (λ w hw=>?_);exact⟨(m,x68.2,z.2),rfl,(hx.trans h68).ext' (by first|exact h68.go.cB (by assumption)|exact h68.go.to (λ _=>if_pos (by assumption))) (by have:=h68.len;omega),hw.zA0⟩
     ·try exact nv c76
      all_goals
       have g5:=h68.go.to (λ _=>if_neg c76)
      all_goals refine bB ?_
      all_goals
       refine eQ ((x68.1,x68.2,z.2)) ?_ (hw1:=λ w hw=>hw.zA1)
       ·exact⟨(hx.trans h68).ext' g5 (bT _),h68.bd⟩
    ·have g2:=h28.1.to (λ _=>if_neg (show ¬cC (aA x16.2.L x16.1).c from λ h=>absurd (h29.2 h) (by rw[c29];decide)));refine bB ?_;refine eQ ((x16.1,x16.2,[])) ?_ (hw1:=λ w hw=>hw.zA1)
     ·exact⟨h16.cU g2 (bT _),h16.bd⟩
   refine K0a ?_;have hlq:=hx.1.len
  all_goals (refine Ke5 ?_;refine aD (cM (hs:=xH k bx bm q.2.1 dn rs) (os:=xW q.2.1) (hc:=λ w hs=>cW i _ (by omega) hx.1.go hx.1.ok hs)) (λ x81 h81=>?_);refine cJ ?_;refine pK ?_;refine aB ?_;refine aD (cM (hs:=xH k bx bm q.2.1 dn rs) (os:=xW q.2.1) (hc:=λ w hs=>cW q.1 _ hx.2 h81.1 hx.1.ok hs)) (λ x86 h86=>?_);refine cJ ?_;refine aD (cM (hs:=xH k bx bm q.2.1 dn rs) (os:=xW q.2.1) (hc:=λ w hs=>wZ hg (aA q.2.1.L i).nd.main m (aA q.2.1.L q.1).nd.bO _ (h81.2.i64 hx.1.ok.lL hx.1.ok.lc).2.2.2.1 h86.2.bO h86.1 hx.1.ok hs)) (λ x88 h88=>?_);refine aK ?_;refine jJ ?_;refine aD (cM (hs:=xH k bx bm x88.2 dn rs) (os:=xW x88.2) (hc:=λ w hs=>cW q.1 _ (by have:=h88.len;omega) h88.go h88.ok hs)) (λ x91 h91=>?_);refine cJ ?_;refine J1 ?_)
  all_goals
   refine aR Tryz.results108 (λ w hw=>?_);exact⟨((aA x88.2.L q.1).nd.bO,x88.2,q.2.2),rfl,(hx.1.trans h88).ext' h91.1 h91.2.bO,hw.zA0⟩
end
end

/- Executions of the reference: READ, DECIDE, HELP, GCAS, RDCSS. -/
end Go.Proofs.YtadnboagdhcedaaGreatDoor
namespace Go.Ct
section
theorem iw{n c:Nat}{a b d:Int}(h1:a<=n)(h2:b<=n)(h3:d<=n):pJ n c {(({Nd.zero with kind:=8,bO:=a,exp:=b,new:=d}:Nd).c [] []) with main:=0,prev:=0,status:=0}:=⟨h1,h2,h3,(λ r hr=>nomatch hr),bT _,bT _,bT _,⟨0,rfl,by decide⟩,⟨0,rfl,by decide⟩⟩
end
end Go.Ct
namespace Go.Proofs.YtadnboagdhcedaaGreatDoor
section
open Go Go.RowKit Go.Ct
section
variable{k:Cl}{bx bm:Nat}{x:XS}{dn:Bool}{rs:Rs}{D:List Nat}{A:Fr}{w:World}{g:Gx}
theorem oU(hg:g.Ok)(t:iS)(i:Int)(K:Int->Tr)(ht:t.root<=9223372036854775807)(hi:i<=x.L.length)(go:gS g x (pA t i K))(ok:x.Ok)(hs:SF w D (xH k bx bm x dn rs) A [] (xW x) w):Calls Tryz.prog 82 #[.pointer (some ⟨bx,0,none⟩),N3 t,.int .i64 i] w λ e w'=>∃q:Int×XS×List aI,e=.returned (.int .i64 q.1)/\Nx g x q.2.1 q.2.2 (K q.1) q.1/\SF w D (xH k bx bm q.2.1 dn rs) [] (bD q.2.2) (xW q.2.1) w':=by
 refine enter Tryz.func82 Tryz.ntmps82 rfl rfl (cL hs) ?_;simp only[cP]
 simp only[N3]
 refine J0 ?_;refine bF (λ x4=>?_);refine gX ?_;refine dZ [(0,[]),(1,[]),(2,[]),(3,[]),(4,[]),(5,[]),(6,[1]),(7,[]),(8,[1]),(9,[]),(10,[])] ?_;refine Kb7 ?_;refine iJ ?_;refine iJ ?_;refine bL (i:=6) (hq:=(cM (hs:=xH k bx bm x dn rs) (os:=xW x) (hc:=λ w hs=>cW i _ hi go ok hs))) (h:=λ x13 h13=>?_);refine lO ?_;refine bL (i:=8) (hq:=(cM (hs:=xH k bx bm x dn rs) (os:=xW x) (hc:=λ w hs=>qM hg (aA x.L i).nd.main _ (h13.2.i64 ok.lL ok.lc).2.2.2.1 h13.1 ok hs))) (h:=λ x15 h15=>?_);refine bL (i:=9) (hq:=(cM (hs:=xH k bx bm x15.2 dn rs) (os:=xW x15.2) (hc:=λ w hs=>Ob hg t i x15.1 _ ht (by have:=h15.len;omega) h15.bd h15.go h15.ok hs))) (h:=λ x16 h16=>?_);refine J7 ?_;refine aR Tryz.results82 (λ w hw=>?_);exact⟨x16,rfl,h15.trans h16,by rw[List.append_nil] at hw;exact hw.zA0⟩
theorem Qm(hg:g.Ok)(t:iS)(v:Int)(K:Tr)(ht:t.root<=9223372036854775807)(hv:v<=x.L.length)(go:gS g x (B0 t v K))(ok:x.Ok)(hs:SF w D (xH k bx bm x dn rs) A [] (xW x) w):Calls Tryz.prog 112 #[.pointer (some ⟨bx,0,none⟩),N3 t,.int .i64 v] w λ e w'=>∃q:XS×List aI,e=.returned (.tuple #[])/\Nx g x q.1 q.2 K 0/\SF w D (xH k bx bm q.1 dn rs) [] (bD q.2) (xW q.1) w':=by
 refine enter Tryz.func112 Tryz.ntmps112 rfl rfl (cL hs) ?_;simp only[cP]
 simp only[N3]
 refine J0 ?_;refine bF (λ x4=>?_);refine aK ?_;refine D6 ?_;refine aV ?_;refine dZ [(0,[]),(1,[]),(2,[]),(3,[]),(7,[]),(8,[]),(4,[1]),(5,[]),(6,[]),(9,[]),(10,[]),(11,[])] ?_;refine Kb7 ?_;refine iJ ?_;refine iJ ?_;refine bL (i:=4) (hq:=(cM (hs:=xH k bx bm x dn rs) (os:=xW x) (hc:=λ w hs=>cW v _ hv go ok hs))) (h:=λ x11 h11=>?_);refine lO ?_;refine bL (i:=6) (hq:=(cM (hs:=xH k bx bm x dn rs) (os:=xW x) (hc:=λ w hs=>oU hg t (aA x.L v).nd.bO _ ht h11.2.bO h11.1 ok hs))) (h:=λ x13 h13=>?_);refine bL (i:=9) (hq:=(cM (hs:=xH k bx bm x13.2.1 dn rs) (os:=xW x13.2.1) (hc:=λ w hs=>cW v _ (by have:=h13.len;omega) h13.go h13.ok hs))) (h:=λ x16 h16=>?_);refine lO ?_;refine jQ ?_;refine dJ ?_;refine bA (λ c18=>?_) (λ c18=>?_)
 ·have gx:gS g x13.2.1 (.node v λ n3=>.rP n3.status 0 1 λ _=>K):=h16.1.to (λ _=>by rw[show x13.1=(aA x13.2.1.L v).c.exp from c18];simp only[if_true]);have h2e:(1:Int)<=x13.2.1.L.length:=by have:=h13.ok.two;omega
  refine dM ?_;refine J1 ?_;refine zT ?_;refine pK ?_;refine aD (cM (hs:=xH k bx bm x13.2.1 dn rs) (os:=xW x13.2.1) (hc:=λ w hs=>cW v _ (by have:=h13.len;omega) gx h13.ok hs)) (λ x22 h22=>?_);refine cJ ?_;refine aB ?_;(refine aS (by exact cM (hs:=xH k bx bm x13.2.1 dn rs) (os:=xW x13.2.1) (hc:=λ w hs=>wZ hg (aA x13.2.1.L v).nd.status 0 1 _ (h22.2.i64 h13.ok.lL h13.ok.lc).2.2.2.2.2 h2e h22.1 h13.ok hs)) (λ x25=>?_);try (refine fL (λ h25=>?_)));refine aK ?_;refine Hq Tryz.results112 (λ w hw=>?_);rw[List.append_nil] at hw;exact⟨(x25.2,x13.2.2),rfl,(h13.trans h25).ext' h25.go (bT _),hw.zA0⟩
 ·have gx:gS g x13.2.1 (.node v λ n3=>.rP n3.status 0 2 λ _=>K):=h16.1.to (λ _=>by simp only[if_neg (show ¬x13.1=(aA x13.2.1.L v).c.exp from c18)]);have h2e:(2:Int)<=x13.2.1.L.length:=by have:=h13.ok.two;omega
  refine bB ?_;refine zT ?_;refine pK ?_;refine aD (cM (hs:=xH k bx bm x13.2.1 dn rs) (os:=xW x13.2.1) (hc:=λ w hs=>cW v _ (by have:=h13.len;omega) gx h13.ok hs)) (λ x22 h22=>?_);refine cJ ?_;refine aB ?_;(refine aS (by exact cM (hs:=xH k bx bm x13.2.1 dn rs) (os:=xW x13.2.1) (hc:=λ w hs=>wZ hg (aA x13.2.1.L v).nd.status 0 2 _ (h22.2.i64 h13.ok.lL h13.ok.lc).2.2.2.2.2 h2e h22.1 h13.ok hs)) (λ x25=>?_);try (refine fL (λ h25=>?_)));refine aK ?_;refine Hq Tryz.results112 (λ w hw=>?_);rw[List.append_nil] at hw;exact⟨(x25.2,x13.2.2),rfl,(h13.trans h25).ext' h25.go (bT _),hw.zA0⟩
theorem Cz(hg:g.Ok)(t:iS)(K:Int->Tr)(ht:t.root<=9223372036854775807)(go:gS g x (zQ t K))(ok:x.Ok)(hs:SF w D (xH k bx bm x dn rs) A [] (xW x) w):Calls Tryz.prog 84 #[.pointer (some ⟨bx,0,none⟩),N3 t] w λ e w'=>∃q:Int×XS×List aI,e=.returned (.int .i64 q.1)/\Nx g x q.2.1 q.2.2 (K q.1) q.1/\SF w D (xH k bx bm q.2.1 dn rs) [] (bD q.2.2) (xW q.2.1) w':=by
 refine enter Tryz.func84 Tryz.ntmps84 rfl rfl (cL hs) ?_;simp only[cP]
 simp only[N3]
 refine K1r ?_;intro x3;refine Ka6 ?_;refine J3 ?_;refine aD (cM (hs:=xH k bx bm x dn rs) (os:=xW x) (hc:=λ w hs=>qM hg t.root _ ht go ok hs)) (λ x11 h11=>?_);refine gX ?_;refine oR ?_;refine aB ?_;(refine eM 16 (λ g16=>?_) (λ g16=>?_)<;>refine Ka0 ?_);all_goals (refine Ka0 ?_;(first|refine aJ ?_|(refine aF ?_;refine aD (cM (hs:=xH k bx bm x11.2 dn rs) (os:=xW x11.2) (hc:=λ w hs=>cW x11.1 _ h11.bd h11.go h11.ok hs)) (λ x19 h19=>?_)));refine J87 ?_;refine aK ?_)
 all_goals
 refine bA (λ c22=>?_) (λ c22=>?_)
 ·all_goals (refine Ka5 ?_)
  all_goals
   refine aR Tryz.results84 (λ w hw=>?_);exact⟨(x11.1,x11.2,[]),rfl,h11.cU (by first|exact h11.go.cB (by assumption)|exact h19.1.to (λ _=>if_pos (by assumption))) h11.bd,hw.aQ (hF:=by exact aP.nil)⟩
 ·try exact nv c22
  all_goals
   have g1:=h19.1.to (λ _=>if_neg c22);have hb1:=h19.2.i64 h11.ok.lL h11.ok.lc
  all_goals (refine Cg ?_;refine aB ?_;refine aD (cM (hs:=xH k bx bm x11.2 dn rs) (os:=xW x11.2) (hc:=λ w hs=>cW x11.1 _ h11.bd g1 h11.ok hs)) (λ x27 h27=>?_);refine cJ ?_;refine aD (cM (hs:=xH k bx bm x11.2 dn rs) (os:=xW x11.2) (hc:=λ w hs=>qM hg (aA x11.2.L x11.1).nd.status _ hb1.2.2.2.2.2 h27.1 h11.ok hs)) (λ x29 h29=>?_);refine gX ?_)
  all_goals
   refine eN [6,30,31,32,33,34,35,36,37,38,39,40,41] (λ q:Int×XS×List aI=>[(6,.int .i64 q.1)]) (λ q=>Nx g x q.2.1 q.2.2 (Kt t x11.1 q.1 K) 0/\x11.1<=q.2.1.L.length) (λ q=>[(x3,.cells ⟨[.int .i64 t.root,.bool t.ro]⟩ 29 (0,0)),(bx,xO k bm q.2.1 dn rs),(bm,xM q.2.1)]) (λ q=>bD q.2.2) (λ q=>xW q.2.1) (by decide) (λ _=>by exact rfl) ?_ (λ q f hx=>?_)
   ·refine aV ?_;refine zT ?_;refine rW ?_;refine bA (λ c31=>?_) (λ c31=>?_)
    ·have g2:=h29.go.to (λ _=>if_pos c31);have hv2:x11.1<=x29.2.L.length:=by have:=h29.len;have:=h11.bd;omega
     refine Kd2 ?_;refine aB ?_;refine aD (cM (hs:=xH k bx bm x29.2 dn rs) (os:=xW x29.2) (hc:=λ w hs=>Qm hg t x11.1 _ ht hv2 g2 h29.ok hs)) (λ x35 h35=>?_);refine aK ?_;refine zT ?_;refine pK ?_;refine aD (cM (hs:=xH k bx bm x35.1 dn rs) (os:=xW x35.1) (hc:=λ w hs=>cW x11.1 _ (by have:=h35.len;omega) h35.go h35.ok hs)) (λ x39 h39=>?_);refine cJ ?_;refine aD (cM (hs:=xH k bx bm x35.1 dn rs) (os:=xW x35.1) (hc:=λ w hs=>qM hg (aA x35.1.L x11.1).nd.status _ (h39.2.i64 h35.ok.lL h35.ok.lc).2.2.2.2.2 h39.1 h35.ok hs)) (λ x41 h41=>?_);refine J1 ?_;refine eQ ((x41.1,x41.2,x35.2)) ?_ (hw1:=λ w hw=>by rw[List.append_nil] at hw;exact hw.zA1)
     ·exact⟨((h11.trans h29).trans (h35.trans h41)).ext' h41.go (bT _),(show x11.1<=(x41.2.L.length:Int) by have:=h35.len;have:=h41.len;omega)⟩
    ·have g2:=h29.go.to (λ _=>if_neg c31);have hv2:x11.1<=x29.2.L.length:=by have:=h29.len;have:=h11.bd;omega
     refine bB ?_;refine eQ ((x29.1,x29.2,[])) ?_ (hw1:=λ w hw=>hw.back (hF:=by exact aP.nil))
     ·exact⟨(h11.trans h29).cU g2 (bT _),hv2⟩
   refine K0a ?_
  all_goals (refine Ke5 ?_;refine aD (cM (hs:=xH k bx bm q.2.1 dn rs) (os:=xW q.2.1) (hc:=λ w hs=>F9 x11.1 q.1 _ hx.2 hx.1.go hx.1.ok hs)) (λ x45 h45=>?_);refine Ka6 ?_;refine J3 ?_;refine pK ?_;refine aD (cM (hs:=xH k bx bm q.2.1 dn rs) (os:=xW q.2.1) (hc:=λ w hs=>wZ hg t.root x11.1 x45 _ ht h45.2 h45.1 hx.1.ok hs)) (λ x51 h51=>?_);refine aK ?_;refine Ka5 ?_)
  all_goals
   refine aR Tryz.results84 (λ w hw=>?_);exact⟨(x45,x51.2,q.2.2),rfl,(hx.1.trans h51).ext' h51.go (by have:=h51.len;have:=h45.2;omega),hw.zA0⟩
theorem tX(hg:g.Ok)(t:iS)(i bO n:Int)(K:Bool->Tr)(ht:t.root<=9223372036854775807)(hi:i<=x.L.length)(hn:n<=x.L.length)(go:gS g x (oP t i bO n K))(ok:x.Ok)(hs:SF w D (xH k bx bm x dn rs) A [] (xW x) w):Calls Tryz.prog 83 #[.pointer (some ⟨bx,0,none⟩),N3 t,.int .i64 i,.int .i64 bO,.int .i64 n] w λ e w'=>∃q:Bool×XS×List aI,e=.returned (.bool q.1)/\Nx g x q.2.1 q.2.2 (K q.1) 0/\SF w D (xH k bx bm q.2.1 dn rs) [] (bD q.2.2) (xW q.2.1) w':=by
 refine enter Tryz.func83 Tryz.ntmps83 rfl rfl (cL hs) ?_;simp only[cP]
 simp only[N3]
 refine J0 ?_;refine bF (λ x6=>?_);refine gX ?_;refine Ke5 ?_;refine aD (cM (hs:=xH k bx bm x dn rs) (os:=xW x) (hc:=λ w hs=>cW i _ hi go ok hs)) (λ x15 h15=>?_);refine cJ ?_;refine pK ?_;refine aD (cM (hs:=xH k bx bm x dn rs) (os:=xW x) (hc:=λ w hs=>wZ hg (aA x.L i).nd.main bO n _ (h15.2.i64 ok.lL ok.lc).2.2.2.1 hn h15.1 ok hs)) (λ x19 h19=>?_);refine lA ?_;refine bA (λ c20=>?_) (λ c20=>?_)
 ·refine cR ?_;refine aR Tryz.results83 (λ w hw=>?_);exact⟨(false,x19.2,[]),rfl,h19.cU (h19.go.to (λ _=>if_neg (by simpa using c20))) (bT _),hw.aQ (hF:=by exact aP.nil)⟩
 ·have g1:=h19.go.to (λ _=>if_pos (by simpa using c20));have hl19:=h19.len;refine Kb3 ?_;refine bI ?_;refine pK ?_;refine aD (cM (hs:=xH k bx bm x19.2 dn rs) (os:=xW x19.2) (hc:=λ w hs=>Ob hg t i n _ ht (by omega) (by omega) g1 h19.ok hs)) (λ x25 h25=>?_);refine J1 ?_;refine oR ?_;refine C6 ?_;(refine eM 31 (λ g31=>?_) (λ g31=>?_)<;>refine Ka0 ?_);all_goals (refine Ka0 ?_;refine zC ?_;refine J1 ?_)
  all_goals
  refine aR Tryz.results83 (λ w hw=>?_);rw[List.append_nil] at hw
  first
   | exact⟨(x25.1==n,x25.2.1,x25.2.2),rfl,(h19.trans h25).cU h25.go (bT _),hw.zA0⟩
   | exact⟨(false,x25.2.1,x25.2.2),rfl,(h19.trans h25).cU (h25.go.cB (by assumption)) (bT _),hw.zA0⟩
end
end

end Go.Proofs.YtadnboagdhcedaaGreatDoor

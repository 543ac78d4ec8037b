/- Executions of the reference: ROOT, SETTLE, READ. -/
import Derived.Test.YtbajmaoegmbfgaaGreatGEx4

set_option linter.unusedSimpArgs false
set_option linter.unusedVariables false
namespace Go.Ct
section
open Go Go.RowKit
theorem Ch.sj{g:Gx}{x0 x x':XS}{F:Fr}{t:Tr}{b:Int}(h:Nx g x x' [] t b)(hc:Ch x0 x F):Ch x0 x' F:=by
 have:=Ch.nx h hc
 exact this
theorem mU.i64{n c:Nat}{v:aX}(h:mU n c v.c)(hn:n<=137438953600)(hc:c<=137438953600):v.nd.bF<=9223372036854775807/\v.nd.new<=9223372036854775807/\v.nd.exp<=9223372036854775807/\v.nd.main<=9223372036854775807/\v.nd.prev<=9223372036854775807/\v.nd.status<=9223372036854775807:=by
 have h1:v.nd.bF<=n:=h.bF
 have h2:v.nd.new<=n:=h.new
 have h3:v.nd.exp<=n:=h.exp
 have h4:v.nd.main<=c:=h.main
 have h5:v.nd.prev<=c:=h.prev
 have h6:v.nd.status<=c:=h.status
 omega
end
end Go.Ct
namespace Go.Proofs.YtbajmaoegmbfgaaGreat
section
open Go Go.RowKit Go.Ct
section
variable{k:Cl}{bx bm:Nat}{x:XS}{dn:Bool}{rs:Rs}{D:List Nat}{A:Fr}{w:World}{g:Gx}
abbrev Mg(t:gY):Value:=.agg ⟨[.int .i64 t.root,.bool t.ro]⟩
theorem G8(v s:Int)(K:Int->Tr)(hv:v<=x.L.length)(go:gL g x (w5 v s K))(ok:x.Ok)(hs:SF w D (xH k bx bm x dn rs) A [] (xW x) w):Calls Tryz.prog 214 #[.pointer (some ⟨bx,0,none⟩),.int .i64 v,.int .i64 s] w λ e w'=>∃q:Int,e=.returned (.int .i64 q)/\(gL g x (K q)/\q<=x.L.length)/\SF w D (xH k bx bm x dn rs) [] [] (xW x) w':=by
 refine enter Tryz.func214 Tryz.ntmps214 rfl rfl (cK hs) ?_
 simp only[cN]
 all_goals (refine dC ?_;refine lW ?_;refine uS ?_)
 all_goals
 refine bG (λ c8=>?_) (λ c8=>?_)
 ·all_goals (refine jN ?_;refine aC (cM (hs:=xH k bx bm x dn rs) (os:=xW x) (hc:=λ w hs=>cR v _ hv go ok hs)) (λ x11 h11=>?_);refine dF ?_;refine J1 ?_)
  all_goals
   refine aU Tryz.results214 (λ w hw=>?_)
   exact⟨_,rfl,⟨h11.1.to (λ _=>by rw[if_pos (by assumption)];rfl),h11.2.new⟩,hw.aS⟩
 ·all_goals (refine Ck ?_;refine aC (cM (hs:=xH k bx bm x dn rs) (os:=xW x) (hc:=λ w hs=>cR v _ hv go ok hs)) (λ x15 h15=>?_);refine dF ?_;refine J1 ?_)
  all_goals
   refine aU Tryz.results214 (λ w hw=>?_)
   exact⟨_,rfl,⟨h15.1.to (λ _=>by rw[if_neg (by assumption)];rfl),h15.2.bF⟩,hw.aS⟩
theorem v9(hg:g.Ok)(t:gY)(K:Int->Tr)(ht:t.root<=9223372036854775807)(go:gL g x (Jo t K))(ok:x.Ok)(hs:SF w D (xH k bx bm x dn rs) A [] (xW x) w):Calls Tryz.prog 239 #[.pointer (some ⟨bx,0,none⟩),Mg t] w λ e w'=>∃q:Int×XS,e=.returned (.int .i64 q.1)/\Nx g x q.2 [] (K q.1) q.1/\SF w D (xH k bx bm q.2 dn rs) [] [] (xW q.2) w':=by
 refine enter Tryz.func239 Tryz.ntmps239 rfl rfl (cK hs) ?_
 simp only[cN]
 simp only[Mg]
 all_goals (refine J0 ?_;refine bW (λ x3=>?_);refine J1 ?_;refine J2 ?_;refine J3 ?_;refine aC (cM (hs:=xH k bx bm x dn rs) (os:=xW x) (hc:=λ w hs=>pX hg t.root _ ht go ok hs)) (λ x11 h11=>?_);refine jM ?_;refine kY ?_;refine aA ?_)
 all_goals ((refine fS 16 (λ g16=>?_) (λ g16=>?_)<;>(first|refine aN ?_|(refine aF ?_;refine aA ?_))))
 all_goals ((first|refine aN ?_|(refine aF ?_;refine aA ?_));(first|refine aN ?_|(refine aF ?_;refine aC (cM (hs:=xH k bx bm x11.2 dn rs) (os:=xW x11.2) (hc:=λ w hs=>cR x11.1 _ h11.bd h11.go h11.ok hs)) (λ x19 h19=>?_)));refine xa ?_;refine aH ?_)
 all_goals
 refine bG (λ c22=>?_) (λ c22=>?_)
 ·all_goals (refine J2 ?_;refine J1 ?_)
  all_goals
   refine aU Tryz.results239 (λ w hw=>?_)
   exact⟨x11,rfl,h11.cQ (by first|exact h11.go.cA (by assumption)|exact h19.1.to (λ _=>if_pos (by assumption))) h11.bd,hw.aS⟩
 ·try exact nv c22
  all_goals
   have g1:=h19.1.to (λ _=>if_neg c22)
   have hb1:=h19.2.i64 h11.ok.lL h11.ok.lc
  all_goals (refine Ck ?_;refine aA ?_;refine aC (cM (hs:=xH k bx bm x11.2 dn rs) (os:=xW x11.2) (hc:=λ w hs=>cR x11.1 _ h11.bd g1 h11.ok hs)) (λ x27 h27=>?_);refine dF ?_;refine aC (cM (hs:=xH k bx bm x11.2 dn rs) (os:=xW x11.2) (hc:=λ w hs=>pX hg (aD x11.2.L x11.1).nd.status _ hb1.2.2.2.2.2 h27.1 h11.ok hs)) (λ x29 h29=>?_);refine jM ?_)
  all_goals
   refine eZ [6,30,31,32,33,34,35,36,37,38,39,40,41,42,43] (λ q:Int×XS=>[(6,.int .i64 q.1)]) (λ q=>Nx g x q.2 [] (mV t x11.1 q.1 K) 0/\x11.1<=q.2.L.length) (λ q=>[(x3,.cells ⟨[.int .i64 t.root,.bool t.ro]⟩ 29 (0,0)),(bx,xO k bm q.2 dn rs),(bm,xM q.2)]) (λ _=>[]) (λ q=>xW q.2) (by decide) (λ _=>by exact rfl) ?_ (λ q f hx=>?_)
   ·all_goals (refine aW ?_)
    all_goals (refine zK ?_;refine uS ?_)
    all_goals
    refine bG (λ c31=>?_) (λ c31=>?_)
    ·all_goals
      have g2:=h29.go.to (λ _=>if_pos c31)
      have hv2:x11.1<=x29.2.L.length:=by have:=h29.len;have:=h11.bd;omega
     all_goals (refine jN ?_;refine aA ?_;refine aC (cM (hs:=xH k bx bm x29.2 dn rs) (os:=xW x29.2) (hc:=λ w hs=>cR x11.1 _ hv2 g2 h29.ok hs)) (λ x35 h35=>?_);refine dF ?_;refine aC (cM (hs:=xH k bx bm x29.2 dn rs) (os:=xW x29.2) (hc:=λ w hs=>rY hg (aD x29.2.L x11.1).nd.status 0 2 _ (h35.2.i64 h29.ok.lL h29.ok.lc).2.2.2.2.2 (by have:=h29.ok.two;omega) h35.1 h29.ok hs)) (λ x37 h37=>?_);refine aH ?_;refine zK ?_;refine qA ?_;refine aC (cM (hs:=xH k bx bm x37.2 dn rs) (os:=xW x37.2) (hc:=λ w hs=>cR x11.1 _ (by have:=h37.len;omega) h37.go h37.ok hs)) (λ x41 h41=>?_);refine dF ?_;refine aC (cM (hs:=xH k bx bm x37.2 dn rs) (os:=xW x37.2) (hc:=λ w hs=>pX hg (aD x37.2.L x11.1).nd.status _ (h41.2.i64 h37.ok.lL h37.ok.lc).2.2.2.2.2 h41.1 h37.ok hs)) (λ x43 h43=>?_);refine J1 ?_)
     all_goals
      refine fR (x43) ?_
      ·exact⟨(h11.trans (h29.trans (h37.trans h43))).cQ h43.go (bM _),by have:=h37.len;have:=h43.len;omega⟩
    ·all_goals
      have g2:=h29.go.to (λ _=>if_neg c31)
      have hv2:x11.1<=x29.2.L.length:=by have:=h29.len;have:=h11.bd;omega
     all_goals refine bD ?_
     all_goals
      refine fR (x29) ?_
      ·exact⟨(h11.trans h29).cQ g2 (bM _),hv2⟩
   dsimp only[iL,List.map,List.cons_append,List.nil_append]
  all_goals (refine jN ?_;refine aA ?_;refine aC (cM (hs:=xH k bx bm q.2 dn rs) (os:=xW q.2) (hc:=λ w hs=>G8 x11.1 q.1 _ hx.2 hx.1.go hx.1.ok hs)) (λ x47 h47=>?_);refine J1 ?_;refine J2 ?_;refine J3 ?_;refine qA ?_;refine aC (cM (hs:=xH k bx bm q.2 dn rs) (os:=xW q.2) (hc:=λ w hs=>rY hg t.root x11.1 x47 _ ht h47.2 h47.1 hx.1.ok hs)) (λ x53 h53=>?_);refine aH ?_;refine J2 ?_;refine J1 ?_)
  all_goals
   refine aU Tryz.results239 (λ w hw=>?_)
   exact⟨(x47,x53.2),rfl,(hx.1.trans h53).cQ h53.go (by have:=h53.len;have:=h47.2;omega),hw.aS⟩
end
end

/- Executions of the reference: SETTLE, READ, GCAS. -/
end Go.Proofs.YtbajmaoegmbfgaaGreat
namespace Go.Ct
section
theorem Z7{n c:Nat}{p:Int}(h:p<=n):mU n c {(({Nd.zero with kind:=7,bF:=p}:Nd).c [] []) with main:=0,prev:=0,status:=0}:=⟨h,bM _,bM _,(λ r hr=>nomatch hr),bM _,bM _,bM _,⟨0,rfl,by decide⟩,⟨0,rfl,by decide⟩⟩
end
end Go.Ct
namespace Go.Proofs.YtbajmaoegmbfgaaGreat
section
open Go Go.RowKit Go.Ct
section
variable{k:Cl}{bx bm:Nat}{x:XS}{dn:Bool}{rs:Rs}{D:List Nat}{A:Fr}{w:World}{g:Gx}
theorem O3(hg:g.Ok)(t:gY)(i m:Int)(K:Int->Tr)(ht:t.root<=9223372036854775807)(hi:i<=x.L.length)(hm:m<=x.L.length)(go:gL g x (sJ t i m K))(ok:x.Ok)(hs:SF w D (xH k bx bm x dn rs) A [] (xW x) w):Calls Tryz.prog 209 #[.pointer (some ⟨bx,0,none⟩),Mg t,.int .i64 i,.int .i64 m] w λ e w'=>∃q:Int×XS×List aX,e=.returned (.int .i64 q.1)/\Nx g x q.2.1 q.2.2 (K q.1) q.1/\SF w D (xH k bx bm q.2.1 dn rs) [] (aR q.2.2) (xW q.2.1) w':=by
  refine enter Tryz.func209 Tryz.ntmps209 rfl rfl (cK hs) ?_
  simp only[cN]
  simp only[Mg]
  all_goals (refine J0 ?_;refine bW (λ x5=>?_);refine xT ?_;refine aA ?_;refine aC (cM (hs:=xH k bx bm x dn rs) (os:=xW x) (hc:=λ w hs=>cR m _ hm go ok hs)) (λ x14 h14=>?_);refine dF ?_;refine aC (cM (hs:=xH k bx bm x dn rs) (os:=xW x) (hc:=λ w hs=>pX hg (aD x.L m).nd.prev _ (h14.2.i64 ok.lL ok.lc).2.2.2.2.1 h14.1 ok hs)) (λ x16 h16=>?_);refine jM ?_;refine kY ?_;refine aA ?_)
  all_goals ((refine fS 21 (λ g21=>?_) (λ g21=>?_)<;>(first|refine aN ?_|(refine aF ?_;refine aA ?_))))
  all_goals (refine zM ?_;refine aH ?_)
  all_goals
   refine bG (λ c24=>?_) (λ c24=>?_)
   · all_goals (refine J2 ?_;refine J1 ?_)
     all_goals
      refine aU Tryz.results209 (λ w hw=>?_)
      exact⟨(m,x16.2,[]),rfl,h16.cQ (by first|exact h16.go.cA (by assumption)|exact h16.go.to (λ _=>if_pos (by assumption))) (by have:=h16.len;omega),hw.aS (hF:=by first|exact aV.all|exact aV.nil)⟩
   · try exact nv c24
     all_goals
      have g1:=h16.go.to (λ _=>if_neg c24)
      have hl16:=h16.len
     all_goals refine lG ?_
     all_goals
      refine eZ [8,9,10,26,27,28,29,30,31,32,33,34,35,36,37,38,39,40,41,42,43,44,45,46,47,48,49,50,51,52,53,54,55,56,57,58,59,60,61,62,63,64,65,66,67,68,69,70,71,72,73,74,75,76,77] (λ q:Int×XS×List aX=>[(9,.int .i64 q.1)]) (λ q=>Nx g x q.2.1 q.2.2 (Ol i m q.1 K) 0/\q.1<=q.2.1.L.length) (λ q=>[(x5,.cells ⟨[.int .i64 t.root,.bool t.ro]⟩ 29 (0,0)),(bx,xO k bm q.2.1 dn rs),(bm,xM q.2.1)]) (λ q=>aR q.2.2) (λ q=>xW q.2.1) (by decide) (λ _=>by exact rfl) ?_ (λ q f hx=>?_)
      · all_goals (refine aW ?_)
        all_goals (refine Ic ?_;refine aC (cM (hs:=xH k bx bm x16.2 dn rs) (os:=xW x16.2) (hc:=λ w hs=>cR x16.1 _ h16.bd g1 h16.ok hs)) (λ x28 h28=>?_);refine aC (c0 (V:=.bool) (hc:=λ w1 hw=>Wy (aD x16.2.L x16.1).nd w1)) (λ x29 h29=>?_);refine aH ?_)
        all_goals
         refine bG (λ c29=>?_) (λ c29=>?_)
         · all_goals
            have g2:=h28.1.to (λ _=>if_pos (show eV (aD x16.2.L x16.1).c from h29.1 c29))
           all_goals refine H5 ?_
           all_goals
            refine eZ [10,30,31,32,33,34,35,36,37,38,39,40,41,42,43] (λ y:Bool×XS=>[(10,.bool y.1)]) (λ y=>Nx g x y.2 [] (qW i m x16.1 y.1 K) 0/\x16.1<=y.2.L.length) (λ y=>[(x5,.cells ⟨[.int .i64 t.root,.bool t.ro]⟩ 29 (0,0)),(bx,xO k bm y.2 dn rs),(bm,xM y.2)]) (λ _=>[]) (λ y=>xW y.2) (by decide) (λ _=>by exact rfl) ?_ (λ y f hx=>?_)
            · all_goals (refine aW ?_)
              all_goals (refine eR ?_;refine J3 ?_;refine qT ?_)
              all_goals
               refine bG (λ c32=>?_) (λ c32=>?_)
               · all_goals
                  have g3:=g2.to (λ _=>if_neg (by simpa using c32))
                 all_goals (refine Ic ?_;refine bX ?_;refine aC (cM (hs:=xH k bx bm x16.2 dn rs) (os:=xW x16.2) (hc:=λ w hs=>v9 hg t _ ht g3 h16.ok hs)) (λ x36 h36=>?_);refine aC (cM (hs:=xH k bx bm x36.2 dn rs) (os:=xW x36.2) (hc:=λ w hs=>cR x36.1 _ h36.bd h36.go h36.ok hs)) (λ x37 h37=>?_);refine dF ?_;refine qA ?_;refine aC (cM (hs:=xH k bx bm x36.2 dn rs) (os:=xW x36.2) (hc:=λ w hs=>cR i _ (by have:=h36.len;omega) h37.1 h36.ok hs)) (λ x41 h41=>?_);refine dF ?_;refine S2 ?_)
                 all_goals
                  refine fR (((aD x36.2.L x36.1).nd.gen==(aD x36.2.L i).nd.gen,x36.2)) ?_
                  · exact⟨(h16.trans h36).cQ h41.1 (bM _),(show x16.1<=(x36.2.L.length:Int) by have:=h36.len;have:=h16.bd;omega)⟩
               · all_goals
                  have g3:=g2.to (λ _=>if_pos (by simpa using c32))
                 all_goals refine bD ?_
                 all_goals
                  refine fR ((false,x16.2)) ?_
                  · exact⟨h16.cQ g3 (bM _),h16.bd⟩
            dsimp only[iL,List.map,List.cons_append,List.nil_append]
            have hly:=hx.1.len
           all_goals refine aW ?_
           all_goals
            refine eZ [44,45,46,47,48,49,50,51,52,53,54,55,56,57,58,59,60,61,62] (λ z:XS×List aX=>[]) (λ z=>Nx g x z.1 z.2 (jY i m K) 0) (λ z=>[(x5,.cells ⟨[.int .i64 t.root,.bool t.ro]⟩ 29 (0,0)),(bx,xO k bm z.1 dn rs),(bm,xM z.1)]) (λ z=>aR z.2) (λ z=>xW z.1) (by decide) (λ _=>by exact rfl) ?_ (λ z f hx=>?_)
            · all_goals (refine aW ?_)
              all_goals (refine zK ?_;refine aH ?_)
              all_goals
               refine bG (λ c44=>?_) (λ c44=>?_)
               · all_goals
                  have g4:=hx.1.go.to (λ _=>if_pos c44)
                 all_goals (refine zK ?_;refine qA ?_;refine aC (cM (hs:=xH k bx bm y.2 dn rs) (os:=xW y.2) (hc:=λ w hs=>cR m _ (by omega) g4 hx.1.ok hs)) (λ x48 h48=>?_);refine dF ?_;refine aA ?_;refine aC (cM (hs:=xH k bx bm y.2 dn rs) (os:=xW y.2) (hc:=λ w hs=>rY hg (aD y.2.L m).nd.prev x16.1 0 _ (h48.2.i64 hx.1.ok.lL hx.1.ok.lc).2.2.2.2.1 (bM _) h48.1 hx.1.ok hs)) (λ x51 h51=>?_);refine aH ?_)
                 all_goals
                  refine fR ((x51.2,[])) ?_ (hw1:=λ w hw=>hw.back (hF:=by first|exact aV.all|exact aV.nil))
                  · exact(hx.1.trans h51).cQ h51.go (bM _)
               · all_goals
                  have g4:=hx.1.go.to (λ _=>if_neg (by rw[c44];decide))
                 all_goals (refine zK ?_;refine qA ?_;refine aC (cM (hs:=xH k bx bm y.2 dn rs) (os:=xW y.2) (hc:=λ w hs=>cR m _ (by omega) g4 hx.1.ok hs)) (λ x55 h55=>?_);refine dF ?_;refine qA ?_;refine aA ?_;refine bO ?_;refine aC (cM (hs:=xH k bx bm y.2 dn rs) (os:=xW y.2) (A0:=[(none,aG []),(none,dW [])]) (hc:=λ w hs=>gX hg (n:={Nd.zero with kind:=7,bF:=x16.1}) (xs:=[]) (ys:=[]) 0 _ rfl rfl (by decide) (Nat.zero_le _) (Z7 hx.2) (bM _) h55.1 hx.1.ok hs)) (λ x61 h61=>?_);refine aC (cM (hs:=xH k bx bm x61.2.1 dn rs) (os:=xW x61.2.1) (hc:=λ w hs=>rY hg (aD y.2.L m).nd.prev x16.1 x61.1 _ (h55.2.i64 hx.1.ok.lL hx.1.ok.lc).2.2.2.2.1 h61.bd h61.go h61.ok hs)) (λ x62 h62=>?_);refine aH ?_)
                 all_goals
                  refine fR ((x62.2,x61.2.2)) ?_ (hw1:=λ w hw=>by rw[List.append_nil] at hw;exact hw.back (hF:=by first|exact aV.all|exact aV.nil))
                  · exact(hx.1.trans (h61.trans h62)).ext' h62.go (bM _)
            dsimp only[iL,List.map,List.cons_append,List.nil_append]
            have hlz:=hx.len
           all_goals (refine jN ?_;refine aA ?_;refine aC (cM (hs:=xH k bx bm z.1 dn rs) (os:=xW z.1) (hc:=λ w hs=>cR m _ (by omega) hx.go hx.ok hs)) (λ x66 h66=>?_);refine dF ?_;refine aC (cM (hs:=xH k bx bm z.1 dn rs) (os:=xW z.1) (hc:=λ w hs=>pX hg (aD z.1.L m).nd.prev _ (h66.2.i64 hx.ok.lL hx.ok.lc).2.2.2.2.1 h66.1 hx.ok hs)) (λ x68 h68=>?_);refine J1 ?_;refine kY ?_;refine aA ?_)
           all_goals ((refine fS 73 (λ g73=>?_) (λ g73=>?_)<;>(first|refine aN ?_|(refine aF ?_;refine aA ?_))))
           all_goals (refine zM ?_;refine aH ?_)
           all_goals
            refine bG (λ c76=>?_) (λ c76=>?_)
            · all_goals (refine J2 ?_;refine J1 ?_)
              all_goals
               refine aU Tryz.results209 (λ w hw=>?_)
               exact⟨(m,x68.2,z.2),rfl,(hx.trans h68).ext' (by first|exact h68.go.cA (by assumption)|exact h68.go.to (λ _=>if_pos (by assumption))) (by have:=h68.len;omega),hw.aS (hF:=by first|exact aV.all|exact aV.nil)⟩
            · try exact nv c76
              all_goals
               have g5:=h68.go.to (λ _=>if_neg c76)
              all_goals refine bD ?_
              all_goals
               refine fR ((x68.1,x68.2,z.2)) ?_ (hw1:=λ w hw=>hw.back (hF:=by first|exact aV.all|exact aV.nil))
               · exact⟨(hx.trans h68).ext' g5 (bM _),h68.bd⟩
         · all_goals
            have g2:=h28.1.to (λ _=>if_neg (show ¬eV (aD x16.2.L x16.1).c from λ h=>absurd (h29.2 h) (by rw[c29];decide)))
           all_goals refine bD ?_
           all_goals
            refine fR ((x16.1,x16.2,[])) ?_ (hw1:=λ w hw=>hw.back (hF:=by first|exact aV.all|exact aV.nil))
            · exact⟨h16.cQ g2 (bM _),h16.bd⟩
      dsimp only[iL,List.map,List.cons_append,List.nil_append]
      have hlq:=hx.1.len
     all_goals (refine jN ?_;refine aA ?_;refine aC (cM (hs:=xH k bx bm q.2.1 dn rs) (os:=xW q.2.1) (hc:=λ w hs=>cR i _ (by omega) hx.1.go hx.1.ok hs)) (λ x81 h81=>?_);refine dF ?_;refine qA ?_;refine aA ?_;refine aC (cM (hs:=xH k bx bm q.2.1 dn rs) (os:=xW q.2.1) (hc:=λ w hs=>cR q.1 _ hx.2 h81.1 hx.1.ok hs)) (λ x86 h86=>?_);refine dF ?_;refine aC (cM (hs:=xH k bx bm q.2.1 dn rs) (os:=xW q.2.1) (hc:=λ w hs=>rY hg (aD q.2.1.L i).nd.main m (aD q.2.1.L q.1).nd.bF _ (h81.2.i64 hx.1.ok.lL hx.1.ok.lc).2.2.2.1 h86.2.bF h86.1 hx.1.ok hs)) (λ x88 h88=>?_);refine aH ?_;refine jN ?_;refine aC (cM (hs:=xH k bx bm x88.2 dn rs) (os:=xW x88.2) (hc:=λ w hs=>cR q.1 _ (by have:=h88.len;omega) h88.go h88.ok hs)) (λ x91 h91=>?_);refine dF ?_;refine J1 ?_)
     all_goals
      refine aU Tryz.results209 (λ w hw=>?_)
      exact⟨((aD x88.2.L q.1).nd.bF,x88.2,q.2.2),rfl,(hx.1.trans h88).ext' h91.1 h91.2.bF,hw.aS (hF:=by first|exact aV.all|exact aV.nil)⟩
end
end

/- Executions of the reference: READ, DECIDE, HELP, GCAS, RDCSS. -/
end Go.Proofs.YtbajmaoegmbfgaaGreat
namespace Go.Ct
section
theorem Z4{n c:Nat}{a b d:Int}(h1:a<=n)(h2:b<=n)(h3:d<=n):mU n c {(({Nd.zero with kind:=8,bF:=a,exp:=b,new:=d}:Nd).c [] []) with main:=0,prev:=0,status:=0}:=⟨h1,h2,h3,(λ r hr=>nomatch hr),bM _,bM _,bM _,⟨0,rfl,by decide⟩,⟨0,rfl,by decide⟩⟩
end
end Go.Ct
namespace Go.Proofs.YtbajmaoegmbfgaaGreat
section
open Go Go.RowKit Go.Ct
section
variable{k:Cl}{bx bm:Nat}{x:XS}{dn:Bool}{rs:Rs}{D:List Nat}{A:Fr}{w:World}{g:Gx}
theorem oK(hg:g.Ok)(t:gY)(i:Int)(K:Int->Tr)(ht:t.root<=9223372036854775807)(hi:i<=x.L.length)(go:gL g x (nV t i K))(ok:x.Ok)(hs:SF w D (xH k bx bm x dn rs) A [] (xW x) w):Calls Tryz.prog 177 #[.pointer (some ⟨bx,0,none⟩),Mg t,.int .i64 i] w λ e w'=>∃q:Int×XS×List aX,e=.returned (.int .i64 q.1)/\Nx g x q.2.1 q.2.2 (K q.1) q.1/\SF w D (xH k bx bm q.2.1 dn rs) [] (aR q.2.2) (xW q.2.1) w':=by
 refine enter Tryz.func177 Tryz.ntmps177 rfl rfl (cK hs) ?_
 simp only[cN]
 simp only[Mg]
 all_goals (refine J0 ?_;refine bW (λ x4=>?_);refine jM ?_;refine dX [(0,[]),(1,[]),(2,[]),(3,[]),(4,[]),(5,[]),(6,[1]),(7,[]),(8,[1]),(9,[]),(10,[])] ?_;refine aQ ?_;refine bR ?_;refine iP ?_;refine iP ?_;refine bA (i:=6) (hq:=(cM (hs:=xH k bx bm x dn rs) (os:=xW x) (hc:=λ w hs=>cR i _ hi go ok hs))) (h:=λ x13 h13=>?_);refine xP ?_;refine bA (i:=8) (hq:=(cM (hs:=xH k bx bm x dn rs) (os:=xW x) (hc:=λ w hs=>pX hg (aD x.L i).nd.main _ (h13.2.i64 ok.lL ok.lc).2.2.2.1 h13.1 ok hs))) (h:=λ x15 h15=>?_);refine bA (i:=9) (hq:=(cM (hs:=xH k bx bm x15.2 dn rs) (os:=xW x15.2) (hc:=λ w hs=>O3 hg t i x15.1 _ ht (by have:=h15.len;omega) h15.bd h15.go h15.ok hs))) (h:=λ x16 h16=>?_);refine J7 ?_)
 all_goals
 refine aU Tryz.results177 (λ w hw=>?_)
 exact⟨x16,rfl,h15.trans h16,by rw[List.append_nil] at hw;exact hw.aS (hF:=by exact aV.all)⟩
theorem O4(hg:g.Ok)(t:gY)(v:Int)(K:Tr)(ht:t.root<=9223372036854775807)(hv:v<=x.L.length)(go:gL g x (oO t v K))(ok:x.Ok)(hs:SF w D (xH k bx bm x dn rs) A [] (xW x) w):Calls Tryz.prog 213 #[.pointer (some ⟨bx,0,none⟩),Mg t,.int .i64 v] w λ e w'=>∃q:XS×List aX,e=.returned (.tuple #[])/\Nx g x q.1 q.2 K 0/\SF w D (xH k bx bm q.1 dn rs) [] (aR q.2) (xW q.1) w':=by
 refine enter Tryz.func213 Tryz.ntmps213 rfl rfl (cK hs) ?_
 simp only[cN]
 simp only[Mg]
 all_goals (refine J0 ?_;refine bW (λ x4=>?_);refine aH ?_;refine H5 ?_;refine aW ?_;refine dX [(0,[]),(1,[]),(2,[]),(3,[]),(7,[]),(8,[]),(4,[1]),(5,[]),(6,[]),(9,[]),(10,[]),(11,[])] ?_;refine aQ ?_;refine bR ?_;refine iP ?_;refine iP ?_;refine bA (i:=4) (hq:=(cM (hs:=xH k bx bm x dn rs) (os:=xW x) (hc:=λ w hs=>cR v _ hv go ok hs))) (h:=λ x11 h11=>?_);refine xP ?_;refine bA (i:=6) (hq:=(cM (hs:=xH k bx bm x dn rs) (os:=xW x) (hc:=λ w hs=>oK hg t (aD x.L v).nd.bF _ ht h11.2.bF h11.1 ok hs))) (h:=λ x13 h13=>?_);refine bA (i:=9) (hq:=(cM (hs:=xH k bx bm x13.2.1 dn rs) (os:=xW x13.2.1) (hc:=λ w hs=>cR v _ (by have:=h13.len;omega) h13.go h13.ok hs))) (h:=λ x16 h16=>?_);refine xP ?_;refine kQ ?_;refine eC ?_)
 all_goals
 refine bG (λ c18=>?_) (λ c18=>?_)
 ·all_goals
   have gx:gL g x13.2.1 (.node v λ n3=>.kX n3.status 0 1 λ _=>K):=h16.1.to (λ _=>by rw[show x13.1=(aD x13.2.1.L v).c.exp from c18];simp only[if_true])
   have h2e:(1:Int)<=x13.2.1.L.length:=by have:=h13.ok.two;omega
  all_goals (refine eR ?_;refine J1 ?_;refine zK ?_;refine qA ?_;refine aC (cM (hs:=xH k bx bm x13.2.1 dn rs) (os:=xW x13.2.1) (hc:=λ w hs=>cR v _ (by have:=h13.len;omega) gx h13.ok hs)) (λ x22 h22=>?_);refine dF ?_;refine aA ?_;(refine aY (by first|exact cM (hs:=xH k bx bm x13.2.1 dn rs) (os:=xW x13.2.1) (hc:=λ w hs=>rY hg (aD x13.2.1.L v).nd.status 0 1 _ (h22.2.i64 h13.ok.lL h13.ok.lc).2.2.2.2.2 h2e h22.1 h13.ok hs)|exact cM (hs:=xH k bx bm x13.2.1 dn rs) (os:=xW x13.2.1) (hc:=λ w hs=>rY hg (aD x13.2.1.L v).nd.status 0 2 _ (h22.2.i64 h13.ok.lL h13.ok.lc).2.2.2.2.2 h2e h22.1 h13.ok hs)) (λ x25=>?_);try (refine eA (λ h25=>?_)));refine aH ?_)
  all_goals
   refine Di Tryz.results213 (λ w hw=>?_)
   rw[List.append_nil] at hw
   exact⟨(x25.2,x13.2.2),rfl,(h13.trans h25).ext' h25.go (bM _),hw.aS (hF:=by exact aV.all)⟩
 ·all_goals
   have gx:gL g x13.2.1 (.node v λ n3=>.kX n3.status 0 2 λ _=>K):=h16.1.to (λ _=>by simp only[if_neg (show ¬x13.1=(aD x13.2.1.L v).c.exp from c18)])
   have h2e:(2:Int)<=x13.2.1.L.length:=by have:=h13.ok.two;omega
  all_goals (refine bD ?_;refine zK ?_;refine qA ?_;refine aC (cM (hs:=xH k bx bm x13.2.1 dn rs) (os:=xW x13.2.1) (hc:=λ w hs=>cR v _ (by have:=h13.len;omega) gx h13.ok hs)) (λ x22 h22=>?_);refine dF ?_;refine aA ?_;(refine aY (by first|exact cM (hs:=xH k bx bm x13.2.1 dn rs) (os:=xW x13.2.1) (hc:=λ w hs=>rY hg (aD x13.2.1.L v).nd.status 0 1 _ (h22.2.i64 h13.ok.lL h13.ok.lc).2.2.2.2.2 h2e h22.1 h13.ok hs)|exact cM (hs:=xH k bx bm x13.2.1 dn rs) (os:=xW x13.2.1) (hc:=λ w hs=>rY hg (aD x13.2.1.L v).nd.status 0 2 _ (h22.2.i64 h13.ok.lL h13.ok.lc).2.2.2.2.2 h2e h22.1 h13.ok hs)) (λ x25=>?_);try (refine eA (λ h25=>?_)));refine aH ?_)
  all_goals
   refine Di Tryz.results213 (λ w hw=>?_)
   rw[List.append_nil] at hw
   exact⟨(x25.2,x13.2.2),rfl,(h13.trans h25).ext' h25.go (bM _),hw.aS (hF:=by exact aV.all)⟩
theorem Bc(hg:g.Ok)(t:gY)(K:Int->Tr)(ht:t.root<=9223372036854775807)(go:gL g x (pV t K))(ok:x.Ok)(hs:SF w D (xH k bx bm x dn rs) A [] (xW x) w):Calls Tryz.prog 179 #[.pointer (some ⟨bx,0,none⟩),Mg t] w λ e w'=>∃q:Int×XS×List aX,e=.returned (.int .i64 q.1)/\Nx g x q.2.1 q.2.2 (K q.1) q.1/\SF w D (xH k bx bm q.2.1 dn rs) [] (aR q.2.2) (xW q.2.1) w':=by
 refine enter Tryz.func179 Tryz.ntmps179 rfl rfl (cK hs) ?_
 simp only[cN]
 simp only[Mg]
 all_goals (refine J0 ?_;refine bW (λ x3=>?_);refine J1 ?_;refine J2 ?_;refine J3 ?_;refine aC (cM (hs:=xH k bx bm x dn rs) (os:=xW x) (hc:=λ w hs=>pX hg t.root _ ht go ok hs)) (λ x11 h11=>?_);refine jM ?_;refine kY ?_;refine aA ?_)
 all_goals ((refine fS 16 (λ g16=>?_) (λ g16=>?_)<;>(first|refine aN ?_|(refine aF ?_;refine aA ?_))))
 all_goals ((first|refine aN ?_|(refine aF ?_;refine aA ?_));(first|refine aN ?_|(refine aF ?_;refine aC (cM (hs:=xH k bx bm x11.2 dn rs) (os:=xW x11.2) (hc:=λ w hs=>cR x11.1 _ h11.bd h11.go h11.ok hs)) (λ x19 h19=>?_)));refine xa ?_;refine aH ?_)
 all_goals
 refine bG (λ c22=>?_) (λ c22=>?_)
 ·all_goals (refine J2 ?_;refine J1 ?_)
  all_goals
   refine aU Tryz.results179 (λ w hw=>?_)
   exact⟨(x11.1,x11.2,[]),rfl,h11.cQ (by first|exact h11.go.cA (by assumption)|exact h19.1.to (λ _=>if_pos (by assumption))) h11.bd,hw.aS (hF:=by exact aV.nil)⟩
 ·try exact nv c22
  all_goals
   have g1:=h19.1.to (λ _=>if_neg c22)
   have hb1:=h19.2.i64 h11.ok.lL h11.ok.lc
  all_goals (refine Ck ?_;refine aA ?_;refine aC (cM (hs:=xH k bx bm x11.2 dn rs) (os:=xW x11.2) (hc:=λ w hs=>cR x11.1 _ h11.bd g1 h11.ok hs)) (λ x27 h27=>?_);refine dF ?_;refine aC (cM (hs:=xH k bx bm x11.2 dn rs) (os:=xW x11.2) (hc:=λ w hs=>pX hg (aD x11.2.L x11.1).nd.status _ hb1.2.2.2.2.2 h27.1 h11.ok hs)) (λ x29 h29=>?_);refine jM ?_)
  all_goals
   refine eZ [6,30,31,32,33,34,35,36,37,38,39,40,41] (λ q:Int×XS×List aX=>[(6,.int .i64 q.1)]) (λ q=>Nx g x q.2.1 q.2.2 (mV t x11.1 q.1 K) 0/\x11.1<=q.2.1.L.length) (λ q=>[(x3,.cells ⟨[.int .i64 t.root,.bool t.ro]⟩ 29 (0,0)),(bx,xO k bm q.2.1 dn rs),(bm,xM q.2.1)]) (λ q=>aR q.2.2) (λ q=>xW q.2.1) (by decide) (λ _=>by exact rfl) ?_ (λ q f hx=>?_)
   ·all_goals (refine aW ?_)
    all_goals (refine zK ?_;refine uS ?_)
    all_goals
    refine bG (λ c31=>?_) (λ c31=>?_)
    ·all_goals
      have g2:=h29.go.to (λ _=>if_pos c31)
      have hv2:x11.1<=x29.2.L.length:=by have:=h29.len;have:=h11.bd;omega
     all_goals (refine J2 ?_;refine bX ?_;refine aA ?_;refine aC (cM (hs:=xH k bx bm x29.2 dn rs) (os:=xW x29.2) (hc:=λ w hs=>O4 hg t x11.1 _ ht hv2 g2 h29.ok hs)) (λ x35 h35=>?_);refine aH ?_;refine zK ?_;refine qA ?_;refine aC (cM (hs:=xH k bx bm x35.1 dn rs) (os:=xW x35.1) (hc:=λ w hs=>cR x11.1 _ (by have:=h35.len;omega) h35.go h35.ok hs)) (λ x39 h39=>?_);refine dF ?_;refine aC (cM (hs:=xH k bx bm x35.1 dn rs) (os:=xW x35.1) (hc:=λ w hs=>pX hg (aD x35.1.L x11.1).nd.status _ (h39.2.i64 h35.ok.lL h35.ok.lc).2.2.2.2.2 h39.1 h35.ok hs)) (λ x41 h41=>?_);refine J1 ?_)
     all_goals
      refine fR ((x41.1,x41.2,x35.2)) ?_ (hw1:=λ w hw=>by rw[List.append_nil] at hw;exact hw.back (hF:=by exact aV.all))
      ·exact⟨((h11.trans h29).trans (h35.trans h41)).ext' h41.go (bM _),(show x11.1<=(x41.2.L.length:Int) by have:=h35.len;have:=h41.len;omega)⟩
    ·all_goals
      have g2:=h29.go.to (λ _=>if_neg c31)
      have hv2:x11.1<=x29.2.L.length:=by have:=h29.len;have:=h11.bd;omega
     all_goals refine bD ?_
     all_goals
      refine fR ((x29.1,x29.2,[])) ?_ (hw1:=λ w hw=>hw.back (hF:=by exact aV.nil))
      ·exact⟨(h11.trans h29).cQ g2 (bM _),hv2⟩
   dsimp only[iL,List.map,List.cons_append,List.nil_append]
  all_goals (refine jN ?_;refine aA ?_;refine aC (cM (hs:=xH k bx bm q.2.1 dn rs) (os:=xW q.2.1) (hc:=λ w hs=>G8 x11.1 q.1 _ hx.2 hx.1.go hx.1.ok hs)) (λ x45 h45=>?_);refine J1 ?_;refine J2 ?_;refine J3 ?_;refine qA ?_;refine aC (cM (hs:=xH k bx bm q.2.1 dn rs) (os:=xW q.2.1) (hc:=λ w hs=>rY hg t.root x11.1 x45 _ ht h45.2 h45.1 hx.1.ok hs)) (λ x51 h51=>?_);refine aH ?_;refine J2 ?_;refine J1 ?_)
  all_goals
   refine aU Tryz.results179 (λ w hw=>?_)
   exact⟨(x45,x51.2,q.2.2),rfl,(hx.1.trans h51).ext' h51.go (by have:=h51.len;have:=h45.2;omega),hw.aS (hF:=by exact aV.all)⟩
theorem sO(hg:g.Ok)(t:gY)(i bF n:Int)(K:Bool->Tr)(ht:t.root<=9223372036854775807)(hi:i<=x.L.length)(hn:n<=x.L.length)(go:gL g x (oB t i bF n K))(ok:x.Ok)(hs:SF w D (xH k bx bm x dn rs) A [] (xW x) w):Calls Tryz.prog 178 #[.pointer (some ⟨bx,0,none⟩),Mg t,.int .i64 i,.int .i64 bF,.int .i64 n] w λ e w'=>∃q:Bool×XS×List aX,e=.returned (.bool q.1)/\Nx g x q.2.1 q.2.2 (K q.1) 0/\SF w D (xH k bx bm q.2.1 dn rs) [] (aR q.2.2) (xW q.2.1) w':=by
 refine enter Tryz.func178 Tryz.ntmps178 rfl rfl (cK hs) ?_
 simp only[cN]
 simp only[Mg]
 all_goals (refine J0 ?_;refine bW (λ x6=>?_);refine jM ?_;refine jN ?_;refine aA ?_;refine aC (cM (hs:=xH k bx bm x dn rs) (os:=xW x) (hc:=λ w hs=>cR i _ hi go ok hs)) (λ x15 h15=>?_);refine dF ?_;refine qA ?_;refine aC (cM (hs:=xH k bx bm x dn rs) (os:=xW x) (hc:=λ w hs=>rY hg (aD x.L i).nd.main bF n _ (h15.2.i64 ok.lL ok.lc).2.2.2.1 hn h15.1 ok hs)) (λ x19 h19=>?_);refine qT ?_)
 all_goals
 refine bG (λ c20=>?_) (λ c20=>?_)
 ·all_goals refine dC ?_
  all_goals
   refine aU Tryz.results178 (λ w hw=>?_)
   exact⟨(false,x19.2,[]),rfl,h19.cQ (h19.go.to (λ _=>if_neg (by simpa using c20))) (bM _),hw.aS (hF:=by exact aV.nil)⟩
 ·all_goals
   have g1:=h19.go.to (λ _=>if_pos (by simpa using c20))
   have hl19:=h19.len
  all_goals (refine bD ?_;refine J2 ?_;refine bX ?_;refine qA ?_;refine aC (cM (hs:=xH k bx bm x19.2 dn rs) (os:=xW x19.2) (hc:=λ w hs=>O3 hg t i n _ ht (by omega) (by omega) g1 h19.ok hs)) (λ x25 h25=>?_);refine J1 ?_;refine kY ?_;refine Hp ?_)
  all_goals ((refine fS 31 (λ g31=>?_) (λ g31=>?_)<;>(first|refine aN ?_|(refine aF ?_;refine aA ?_))))
  all_goals ((first|refine aN ?_|(refine aF ?_;refine aA ?_));refine zM ?_;refine J1 ?_)
  all_goals
   refine aU Tryz.results178 (λ w hw=>?_)
   rw[List.append_nil] at hw
   first
   | exact⟨(x25.1==n,x25.2.1,x25.2.2),rfl,(h19.trans h25).cQ h25.go (bM _),hw.aS (hF:=by exact aV.all)⟩
   | exact⟨(false,x25.2.1,x25.2.2),rfl,(h19.trans h25).cQ (h25.go.cA (by first|assumption|simp_all)) (bM _),hw.aS (hF:=by exact aV.all)⟩
end
end

end Go.Proofs.YtbajmaoegmbfgaaGreat

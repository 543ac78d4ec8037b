/- Executions of the reference: ROOT, SETTLE, READ. -/
import Derived.Test.YtpobgmdalcpomaaGreatGEx5

set_option linter.unusedSimpArgs false
set_option linter.unusedVariables false
namespace Go.Ct
open Go Go.RowKit
theorem Ch.nx0{g:Gx}{x0 x x':XS}{F:Fr}{t:Tr}{b:Int}(h:Nx g x x' [] t b)(hc:Ch x0 x F):Ch x0 x' F:=by
 have:=Ch.nx h hc
 exact this
theorem NvB.i64{n c:Nat}{v:NdV}(h:NvB n c v.c)(hn:n<=137438953600)(hc:c<=137438953600):v.nd.old<=9223372036854775807/\v.nd.new<=9223372036854775807/\v.nd.exp<=9223372036854775807/\v.nd.main<=9223372036854775807/\v.nd.prev<=9223372036854775807/\v.nd.status<=9223372036854775807:=by
 have h1:v.nd.old<=n:=h.old
 have h2:v.nd.new<=n:=h.new
 have h3:v.nd.exp<=n:=h.exp
 have h4:v.nd.main<=c:=h.main
 have h5:v.nd.prev<=c:=h.prev
 have h6:v.nd.status<=c:=h.status
 omega
end Go.Ct
namespace Go.Proofs.YtpobgmdalcpomaaGreat
open Go Go.RowKit Go.Ct
section
variable{k:Cl}{bx bm:Nat}{x:XS}{dn:Bool}{rs:Rs}{D:List Nat}{A:Fr}{w:World}{g:Gx}
abbrev trV(t:Tri):Value:=.agg ⟨[.int .i64 t.root,.bool t.ro]⟩
theorem winner_c(v s:Int)(K:Int->Tr)(hv:v<=x.L.length)(go:Go' g x (winT v s K))(ok:x.Ok)(hs:SF w D (xH k bx bm x dn rs) A [] (xW x) w):Calls Tryz.prog 108 #[.pointer (some ⟨bx,0,none⟩),.int .i64 v,.int .i64 s] w λ e w'=>∃q:Int,e=.returned (.int .i64 q)/\(Go' g x (K q)/\q<=x.L.length)/\SF w D (xH k bx bm x dn rs) [] [] (xW x) w':=by
 refine enter Tryz.func108 Tryz.ntmps108 rfl rfl (xOpen2 hs) ?_
 simp only[mkS]
 all_goals (refine J10 ?_;refine J32 ?_;refine J50 ?_)
 all_goals
 refine kif (λ c8=>?_) (λ c8=>?_)
 ·try exact nv c8
  all_goals (refine J11 ?_;(refine j_own (cM (hs:=xH k bx bm x dn rs) (os:=xW x) (hc:=λ w hs=>node_c v _ hv go ok hs)) (λ x11=>?_);try (refine l_fact (λ h11=>?_)));refine j_field ?_;refine J1 ?_)
  all_goals
   refine k_rv Tryz.results108 (λ w hw=>?_)
   exact⟨_,rfl,⟨h11.1.to (λ _=>by rw[if_pos (by assumption)];rfl),h11.2.new⟩,hw.finH⟩
 ·try exact nv c8
  all_goals (refine J58 ?_;(refine j_own (cM (hs:=xH k bx bm x dn rs) (os:=xW x) (hc:=λ w hs=>node_c v _ hv go ok hs)) (λ x15=>?_);try (refine l_fact (λ h15=>?_)));refine j_field ?_;refine J1 ?_)
  all_goals
   refine k_rv Tryz.results108 (λ w hw=>?_)
   exact⟨_,rfl,⟨h15.1.to (λ _=>by rw[if_neg (by assumption)];rfl),h15.2.old⟩,hw.finH⟩
theorem root_c(hg:g.Ok)(t:Tri)(K:Int->Tr)(ht:t.root<=9223372036854775807)(go:Go' g x (rootT t K))(ok:x.Ok)(hs:SF w D (xH k bx bm x dn rs) A [] (xW x) w):Calls Tryz.prog 132 #[.pointer (some ⟨bx,0,none⟩),trV t] w λ e w'=>∃q:Int×XS,e=.returned (.int .i64 q.1)/\Nx g x q.2 [] (K q.1) q.1/\SF w D (xH k bx bm q.2 dn rs) [] [] (xW q.2) w':=by
 refine enter Tryz.func132 Tryz.ntmps132 rfl rfl (xOpen2 hs) ?_
 simp only[mkS]
 simp only[trV]
 all_goals (refine J0 ?_;refine j_box (λ x3=>?_);refine J1 ?_;refine J2 ?_;refine J3 ?_;(refine j_own (cM (hs:=xH k bx bm x dn rs) (os:=xW x) (hc:=λ w hs=>load_c hg t.root _ ht go ok hs)) (λ x11=>?_);try (refine l_fact (λ h11=>?_)));refine J27 ?_;refine J26 ?_;refine j_move ?_)
 all_goals (first|refine j_un ?_|(refine j_yes ?_;refine j_move ?_)|(refine lcs 16 (λ g16=>?_) (λ g16=>?_)<;>(first|refine j_un ?_|(refine j_yes ?_;refine j_move ?_))))
 all_goals ((first|refine j_un ?_|(refine j_yes ?_;refine j_move ?_));((first|refine j_un ?_|(refine j_yes ?_;(refine j_own (cM (hs:=xH k bx bm x11.2 dn rs) (os:=xW x11.2) (hc:=λ w hs=>node_c x11.1 _ h11.bd h11.go h11.ok hs)) (λ x19=>?_);try (refine l_fact (λ h19=>?_))))));refine J87 ?_;refine l_nil ?_)
 all_goals
 refine kif (λ c22=>?_) (λ c22=>?_)
 ·try exact nv c22
  all_goals (refine J2 ?_;refine J1 ?_)
  all_goals
   refine k_rv Tryz.results132 (λ w hw=>?_)
   exact⟨x11,rfl,h11.weak (by first|exact h11.go.stopped (by assumption)|exact h19.1.to (λ _=>if_pos (by assumption))) h11.bd,hw.finH⟩
 ·try exact nv c22
  all_goals
   have g1:=h19.1.to (λ _=>if_neg c22)
   have hb1:=h19.2.i64 h11.ok.lL h11.ok.lc
  all_goals (refine J58 ?_;refine j_move ?_;(refine j_own (cM (hs:=xH k bx bm x11.2 dn rs) (os:=xW x11.2) (hc:=λ w hs=>node_c x11.1 _ h11.bd g1 h11.ok hs)) (λ x27=>?_);try (refine l_fact (λ h27=>?_)));refine j_field ?_;(refine j_own (cM (hs:=xH k bx bm x11.2 dn rs) (os:=xW x11.2) (hc:=λ w hs=>load_c hg (nodeV x11.2.L x11.1).nd.status _ hb1.2.2.2.2.2 h27.1 h11.ok hs)) (λ x29=>?_);try (refine l_fact (λ h29=>?_)));refine J27 ?_)
  all_goals
   refine k_joinG [6,30,31,32,33,34,35,36,37,38,39,40,41,42,43] (λ q:Int×XS=>[(6,.int .i64 q.1)]) (λ q=>Nx g x q.2 [] (cmpT t x11.1 q.1 K) 0/\x11.1<=q.2.L.length) (λ q=>[(x3,.cells ⟨[.int .i64 t.root,.bool t.ro]⟩ 33 (0,0)),(bx,xO k bm q.2 dn rs),(bm,xM q.2)]) (λ _=>[]) (λ q=>xW q.2) (by decide) (λ _=>by exact rfl) ?_ (λ q f hx=>?_)
   ·all_goals (refine k_seq ?_)
    all_goals (refine J20 ?_;refine J50 ?_)
    all_goals
    refine kif (λ c31=>?_) (λ c31=>?_)
    ·try exact nv c31
     all_goals
      have g2:=h29.go.to (λ _=>if_pos c31)
      have hv2:x11.1<=x29.2.L.length:=by have:=h29.len;have:=h11.bd;omega
     all_goals (refine J11 ?_;refine j_move ?_;(refine j_own (cM (hs:=xH k bx bm x29.2 dn rs) (os:=xW x29.2) (hc:=λ w hs=>node_c x11.1 _ hv2 g2 h29.ok hs)) (λ x35=>?_);try (refine l_fact (λ h35=>?_)));refine j_field ?_;(refine j_own (cM (hs:=xH k bx bm x29.2 dn rs) (os:=xW x29.2) (hc:=λ w hs=>cas_c hg (nodeV x29.2.L x11.1).nd.status 0 2 _ (h35.2.i64 h29.ok.lL h29.ok.lc).2.2.2.2.2 (by have:=h29.ok.two;omega) h35.1 h29.ok hs)) (λ x37=>?_);try (refine l_fact (λ h37=>?_)));refine l_nil ?_;refine J20 ?_;refine J35 ?_;(refine j_own (cM (hs:=xH k bx bm x37.2 dn rs) (os:=xW x37.2) (hc:=λ w hs=>node_c x11.1 _ (by have:=h37.len;omega) h37.go h37.ok hs)) (λ x41=>?_);try (refine l_fact (λ h41=>?_)));refine j_field ?_;(refine j_own (cM (hs:=xH k bx bm x37.2 dn rs) (os:=xW x37.2) (hc:=λ w hs=>load_c hg (nodeV x37.2.L x11.1).nd.status _ (h41.2.i64 h37.ok.lL h37.ok.lc).2.2.2.2.2 h41.1 h37.ok hs)) (λ x43=>?_);try (refine l_fact (λ h43=>?_)));refine J1 ?_)
     all_goals
      refine k_rj (x43) ?_
      ·exact⟨(h11.trans (h29.trans (h37.trans h43))).weak h43.go (Int.natCast_nonneg _),by have:=h37.len;have:=h43.len;omega⟩
    ·try exact nv c31
     all_goals
      have g2:=h29.go.to (λ _=>if_neg c31)
      have hv2:x11.1<=x29.2.L.length:=by have:=h29.len;have:=h11.bd;omega
     all_goals refine k_skip ?_
     all_goals
      refine k_rj (x29) ?_
      ·exact⟨(h11.trans h29).weak g2 (Int.natCast_nonneg _),hv2⟩
   dsimp only[mkU,List.map,List.cons_append,List.nil_append]
  all_goals (refine J11 ?_;refine j_move ?_;(refine j_own (cM (hs:=xH k bx bm q.2 dn rs) (os:=xW q.2) (hc:=λ w hs=>winner_c x11.1 q.1 _ hx.2 hx.1.go hx.1.ok hs)) (λ x47=>?_);try (refine l_fact (λ h47=>?_)));refine J1 ?_;refine J2 ?_;refine J3 ?_;refine J35 ?_;(refine j_own (cM (hs:=xH k bx bm q.2 dn rs) (os:=xW q.2) (hc:=λ w hs=>cas_c hg t.root x11.1 x47 _ ht h47.2 h47.1 hx.1.ok hs)) (λ x53=>?_);try (refine l_fact (λ h53=>?_)));refine l_nil ?_;refine J2 ?_;refine J1 ?_)
  all_goals
   refine k_rv Tryz.results132 (λ w hw=>?_)
   exact⟨(x47,x53.2),rfl,(hx.1.trans h53).weak h53.go (by have:=h53.len;have:=h47.2;omega),hw.finH⟩
end
end Go.Proofs.YtpobgmdalcpomaaGreat

/- Executions of the reference: SETTLE, READ, GCAS. -/
namespace Go.Ct
theorem nvB_fail{n c:Nat}{p:Int}(h:p<=n):NvB n c {(({Nd.zero with kind:=7,old:=p}:Nd).c [] []) with main:=0,prev:=0,status:=0}:=⟨h,Int.natCast_nonneg _,Int.natCast_nonneg _,(λ r hr=>nomatch hr),Int.natCast_nonneg _,Int.natCast_nonneg _,Int.natCast_nonneg _,⟨0,rfl,by decide⟩,⟨0,rfl,by decide⟩⟩
end Go.Ct
namespace Go.Proofs.YtpobgmdalcpomaaGreat
open Go Go.RowKit Go.Ct
section
variable{k:Cl}{bx bm:Nat}{x:XS}{dn:Bool}{rs:Rs}{D:List Nat}{A:Fr}{w:World}{g:Gx}
theorem settle_c(hg:g.Ok)(t:Tri)(i m:Int)(K:Int->Tr)(ht:t.root<=9223372036854775807)(hi:i<=x.L.length)(hm:m<=x.L.length)(go:Go' g x (settleT t i m K))(ok:x.Ok)(hs:SF w D (xH k bx bm x dn rs) A [] (xW x) w):Calls Tryz.prog 103 #[.pointer (some ⟨bx,0,none⟩),trV t,.int .i64 i,.int .i64 m] w λ e w'=>∃q:Int×XS×List NdV,e=.returned (.int .i64 q.1)/\Nx g x q.2.1 q.2.2 (K q.1) q.1/\SF w D (xH k bx bm q.2.1 dn rs) [] (famF q.2.2) (xW q.2.1) w':=by
  refine enter Tryz.func103 Tryz.ntmps103 rfl rfl (xOpen2 hs) ?_
  simp only[mkS]
  simp only[trV]
  all_goals (refine J0 ?_;refine j_box (λ x5=>?_);refine J73 ?_;refine j_move ?_;(refine j_own (cM (hs:=xH k bx bm x dn rs) (os:=xW x) (hc:=λ w hs=>node_c m _ hm go ok hs)) (λ x14=>?_);try (refine l_fact (λ h14=>?_)));refine j_field ?_;(refine j_own (cM (hs:=xH k bx bm x dn rs) (os:=xW x) (hc:=λ w hs=>load_c hg (nodeV x.L m).nd.prev _ (h14.2.i64 ok.lL ok.lc).2.2.2.2.1 h14.1 ok hs)) (λ x16=>?_);try (refine l_fact (λ h16=>?_)));refine J27 ?_;refine J26 ?_;refine j_move ?_)
  all_goals (first|refine j_un ?_|(refine j_yes ?_;refine j_move ?_)|(refine lcs 21 (λ g21=>?_) (λ g21=>?_)<;>(first|refine j_un ?_|(refine j_yes ?_;refine j_move ?_))))
  all_goals (refine J12 ?_;refine l_nil ?_)
  all_goals
   refine kif (λ c24=>?_) (λ c24=>?_)
   · try exact nv c24
     all_goals (refine J2 ?_;refine J1 ?_)
     all_goals
      refine k_rv Tryz.results103 (λ w hw=>?_)
      exact⟨(m,x16.2,[]),rfl,h16.weak (by first|exact h16.go.stopped (by assumption)|exact h16.go.to (λ _=>if_pos (by assumption))) (by have:=h16.len;omega),hw.finH (hF:=by first|exact FSub.all|exact FSub.nil)⟩
   · try exact nv c24
     all_goals
      have g1:=h16.go.to (λ _=>if_neg c24)
      have hl16:=h16.len
     all_goals refine J16 ?_
     all_goals
      refine k_joinG [8,9,10,26,27,28,29,30,31,32,33,34,35,36,37,38,39,40,41,42,43,44,45,46,47,48,49,50,51,52,53,54,55,56,57,58,59,60,61,62,63,64,65,66,67,68,69,70,71,72,73,74,75,76,77] (λ q:Int×XS×List NdV=>[(9,.int .i64 q.1)]) (λ q=>Nx g x q.2.1 q.2.2 (finT i m q.1 K) 0/\q.1<=q.2.1.L.length) (λ q=>[(x5,.cells ⟨[.int .i64 t.root,.bool t.ro]⟩ 33 (0,0)),(bx,xO k bm q.2.1 dn rs),(bm,xM q.2.1)]) (λ q=>famF q.2.2) (λ q=>xW q.2.1) (by decide) (λ _=>by exact rfl) ?_ (λ q f hx=>?_)
      · all_goals (refine k_seq ?_)
        all_goals (refine J76 ?_;(refine j_own (cM (hs:=xH k bx bm x16.2 dn rs) (os:=xW x16.2) (hc:=λ w hs=>node_c x16.1 _ h16.bd g1 h16.ok hs)) (λ x28=>?_);try (refine l_fact (λ h28=>?_)));(refine j_own (c0 (V:=.bool) (hc:=λ w1 hw=>refMain_c (nodeV x16.2.L x16.1).nd w1)) (λ x29=>?_);try (refine l_fact (λ h29=>?_)));refine l_nil ?_)
        all_goals
         refine kif (λ c29=>?_) (λ c29=>?_)
         · try exact nv c29
           all_goals
            have g2:=h28.1.to (λ _=>if_pos (show MainK (nodeV x16.2.L x16.1).c from h29.1 c29))
           all_goals refine J75 ?_
           all_goals
            refine k_joinG [10,30,31,32,33,34,35,36,37,38,39,40,41,42,43] (λ y:Bool×XS=>[(10,.bool y.1)]) (λ y=>Nx g x y.2 [] (commT i m x16.1 y.1 K) 0/\x16.1<=y.2.L.length) (λ y=>[(x5,.cells ⟨[.int .i64 t.root,.bool t.ro]⟩ 33 (0,0)),(bx,xO k bm y.2 dn rs),(bm,xM y.2)]) (λ _=>[]) (λ y=>xW y.2) (by decide) (λ _=>by exact rfl) ?_ (λ y f hx=>?_)
            · all_goals (refine k_seq ?_)
              all_goals (refine k_region ?_;refine J3 ?_;refine J33 ?_)
              all_goals
               refine kif (λ c32=>?_) (λ c32=>?_)
               · try exact nv c32
                 all_goals
                  have g3:=g2.to (λ _=>if_neg (by simpa using c32))
                 all_goals (refine J76 ?_;refine j_load ?_;(refine j_own (cM (hs:=xH k bx bm x16.2 dn rs) (os:=xW x16.2) (hc:=λ w hs=>root_c hg t _ ht g3 h16.ok hs)) (λ x36=>?_);try (refine l_fact (λ h36=>?_)));(refine j_own (cM (hs:=xH k bx bm x36.2 dn rs) (os:=xW x36.2) (hc:=λ w hs=>node_c x36.1 _ h36.bd h36.go h36.ok hs)) (λ x37=>?_);try (refine l_fact (λ h37=>?_)));refine j_field ?_;refine J35 ?_;(refine j_own (cM (hs:=xH k bx bm x36.2 dn rs) (os:=xW x36.2) (hc:=λ w hs=>node_c i _ (by have:=h36.len;omega) h37.1 h36.ok hs)) (λ x41=>?_);try (refine l_fact (λ h41=>?_)));refine j_field ?_;refine J28 ?_)
                 all_goals
                  refine k_rj (((nodeV x36.2.L x36.1).nd.gen==(nodeV x36.2.L i).nd.gen,x36.2)) ?_
                  · exact⟨(h16.trans h36).weak h41.1 (Int.natCast_nonneg _),(show x16.1<=(x36.2.L.length:Int) by have:=h36.len;have:=h16.bd;omega)⟩
               · try exact nv c32
                 all_goals
                  have g3:=g2.to (λ _=>if_pos (by simpa using c32))
                 all_goals refine k_skip ?_
                 all_goals
                  refine k_rj ((false,x16.2)) ?_
                  · exact⟨h16.weak g3 (Int.natCast_nonneg _),h16.bd⟩
            dsimp only[mkU,List.map,List.cons_append,List.nil_append]
            have hly:=hx.1.len
           all_goals refine k_seq ?_
           all_goals
            refine k_joinG [44,45,46,47,48,49,50,51,52,53,54,55,56,57,58,59,60,61,62] (λ z:XS×List NdV=>[]) (λ z=>Nx g x z.1 z.2 (settle2T i m K) 0) (λ z=>[(x5,.cells ⟨[.int .i64 t.root,.bool t.ro]⟩ 33 (0,0)),(bx,xO k bm z.1 dn rs),(bm,xM z.1)]) (λ z=>famF z.2) (λ z=>xW z.1) (by decide) (λ _=>by exact rfl) ?_ (λ z f hx=>?_)
            · all_goals (refine k_seq ?_)
              all_goals (refine J20 ?_;refine l_nil ?_)
              all_goals
               refine kif (λ c44=>?_) (λ c44=>?_)
               · try exact nv c44
                 all_goals
                  have g4:=hx.1.go.to (λ _=>if_pos c44)
                 all_goals (refine J20 ?_;refine J35 ?_;(refine j_own (cM (hs:=xH k bx bm y.2 dn rs) (os:=xW y.2) (hc:=λ w hs=>node_c m _ (by omega) g4 hx.1.ok hs)) (λ x48=>?_);try (refine l_fact (λ h48=>?_)));refine j_field ?_;refine j_move ?_;(refine j_own (cM (hs:=xH k bx bm y.2 dn rs) (os:=xW y.2) (hc:=λ w hs=>cas_c hg (nodeV y.2.L m).nd.prev x16.1 0 _ (h48.2.i64 hx.1.ok.lL hx.1.ok.lc).2.2.2.2.1 (Int.natCast_nonneg _) h48.1 hx.1.ok hs)) (λ x51=>?_);try (refine l_fact (λ h51=>?_)));refine l_nil ?_)
                 all_goals
                  refine k_rj ((x51.2,[])) ?_ (hw1:=λ w hw=>hw.back (hF:=by first|exact FSub.all|exact FSub.nil))
                  · exact(hx.1.trans h51).weak h51.go (Int.natCast_nonneg _)
               · try exact nv c44
                 all_goals
                  have g4:=hx.1.go.to (λ _=>if_neg (by rw[c44];decide))
                 all_goals (refine J20 ?_;refine J35 ?_;(refine j_own (cM (hs:=xH k bx bm y.2 dn rs) (os:=xW y.2) (hc:=λ w hs=>node_c m _ (by omega) g4 hx.1.ok hs)) (λ x55=>?_);try (refine l_fact (λ h55=>?_)));refine j_field ?_;refine J35 ?_;refine j_move ?_;refine j_build ?_;(refine j_own (cM (hs:=xH k bx bm y.2 dn rs) (os:=xW y.2) (A0:=[(none,refsC []),(none,prC [])]) (hc:=λ w hs=>alloc_c hg (n:={Nd.zero with kind:=7,old:=x16.1}) (xs:=[]) (ys:=[]) 0 _ rfl rfl (by decide) (Nat.zero_le _) (nvB_fail hx.2) (Int.natCast_nonneg _) h55.1 hx.1.ok hs)) (λ x61=>?_);try (refine l_fact (λ h61=>?_)));(refine j_own (cM (hs:=xH k bx bm x61.2.1 dn rs) (os:=xW x61.2.1) (hc:=λ w hs=>cas_c hg (nodeV y.2.L m).nd.prev x16.1 x61.1 _ (h55.2.i64 hx.1.ok.lL hx.1.ok.lc).2.2.2.2.1 h61.bd h61.go h61.ok hs)) (λ x62=>?_);try (refine l_fact (λ h62=>?_)));refine l_nil ?_)
                 all_goals
                  refine k_rj ((x62.2,x61.2.2)) ?_ (hw1:=λ w hw=>by rw[List.append_nil] at hw;exact hw.back (hF:=by first|exact FSub.all|exact FSub.nil))
                  · exact(hx.1.trans (h61.trans h62)).ext' h62.go (Int.natCast_nonneg _)
            dsimp only[mkU,List.map,List.cons_append,List.nil_append]
            have hlz:=hx.len
           all_goals (refine J11 ?_;refine j_move ?_;(refine j_own (cM (hs:=xH k bx bm z.1 dn rs) (os:=xW z.1) (hc:=λ w hs=>node_c m _ (by omega) hx.go hx.ok hs)) (λ x66=>?_);try (refine l_fact (λ h66=>?_)));refine j_field ?_;(refine j_own (cM (hs:=xH k bx bm z.1 dn rs) (os:=xW z.1) (hc:=λ w hs=>load_c hg (nodeV z.1.L m).nd.prev _ (h66.2.i64 hx.ok.lL hx.ok.lc).2.2.2.2.1 h66.1 hx.ok hs)) (λ x68=>?_);try (refine l_fact (λ h68=>?_)));refine J1 ?_;refine J26 ?_;refine j_move ?_)
           all_goals (first|refine j_un ?_|(refine j_yes ?_;refine j_move ?_)|(refine lcs 73 (λ g73=>?_) (λ g73=>?_)<;>(first|refine j_un ?_|(refine j_yes ?_;refine j_move ?_))))
           all_goals (refine J12 ?_;refine l_nil ?_)
           all_goals
            refine kif (λ c76=>?_) (λ c76=>?_)
            · try exact nv c76
              all_goals (refine J2 ?_;refine J1 ?_)
              all_goals
               refine k_rv Tryz.results103 (λ w hw=>?_)
               exact⟨(m,x68.2,z.2),rfl,(hx.trans h68).ext' (by first|exact h68.go.stopped (by assumption)|exact h68.go.to (λ _=>if_pos (by assumption))) (by have:=h68.len;omega),hw.finH (hF:=by first|exact FSub.all|exact FSub.nil)⟩
            · try exact nv c76
              all_goals
               have g5:=h68.go.to (λ _=>if_neg c76)
              all_goals refine k_skip ?_
              all_goals
               refine k_rj ((x68.1,x68.2,z.2)) ?_ (hw1:=λ w hw=>hw.back (hF:=by first|exact FSub.all|exact FSub.nil))
               · exact⟨(hx.trans h68).ext' g5 (Int.natCast_nonneg _),h68.bd⟩
         · try exact nv c29
           all_goals
            have g2:=h28.1.to (λ _=>if_neg (show ¬MainK (nodeV x16.2.L x16.1).c from λ h=>absurd (h29.2 h) (by rw[c29];decide)))
           all_goals refine k_skip ?_
           all_goals
            refine k_rj ((x16.1,x16.2,[])) ?_ (hw1:=λ w hw=>hw.back (hF:=by first|exact FSub.all|exact FSub.nil))
            · exact⟨h16.weak g2 (Int.natCast_nonneg _),h16.bd⟩
      dsimp only[mkU,List.map,List.cons_append,List.nil_append]
      have hlq:=hx.1.len
     all_goals (refine J11 ?_;refine j_move ?_;(refine j_own (cM (hs:=xH k bx bm q.2.1 dn rs) (os:=xW q.2.1) (hc:=λ w hs=>node_c i _ (by omega) hx.1.go hx.1.ok hs)) (λ x81=>?_);try (refine l_fact (λ h81=>?_)));refine j_field ?_;refine J35 ?_;refine j_move ?_;(refine j_own (cM (hs:=xH k bx bm q.2.1 dn rs) (os:=xW q.2.1) (hc:=λ w hs=>node_c q.1 _ hx.2 h81.1 hx.1.ok hs)) (λ x86=>?_);try (refine l_fact (λ h86=>?_)));refine j_field ?_;(refine j_own (cM (hs:=xH k bx bm q.2.1 dn rs) (os:=xW q.2.1) (hc:=λ w hs=>cas_c hg (nodeV q.2.1.L i).nd.main m (nodeV q.2.1.L q.1).nd.old _ (h81.2.i64 hx.1.ok.lL hx.1.ok.lc).2.2.2.1 h86.2.old h86.1 hx.1.ok hs)) (λ x88=>?_);try (refine l_fact (λ h88=>?_)));refine l_nil ?_;refine J11 ?_;(refine j_own (cM (hs:=xH k bx bm x88.2 dn rs) (os:=xW x88.2) (hc:=λ w hs=>node_c q.1 _ (by have:=h88.len;omega) h88.go h88.ok hs)) (λ x91=>?_);try (refine l_fact (λ h91=>?_)));refine j_field ?_;refine J1 ?_)
     all_goals
      refine k_rv Tryz.results103 (λ w hw=>?_)
      exact⟨((nodeV x88.2.L q.1).nd.old,x88.2,q.2.2),rfl,(hx.1.trans h88).ext' h91.1 h91.2.old,hw.finH (hF:=by first|exact FSub.all|exact FSub.nil)⟩
end
end Go.Proofs.YtpobgmdalcpomaaGreat

/- Executions of the reference: READ, DECIDE, HELP, GCAS, RDCSS. -/
namespace Go.Ct
theorem nvB_desc{n c:Nat}{a b d:Int}(h1:a<=n)(h2:b<=n)(h3:d<=n):NvB n c {(({Nd.zero with kind:=8,old:=a,exp:=b,new:=d}:Nd).c [] []) with main:=0,prev:=0,status:=0}:=⟨h1,h2,h3,(λ r hr=>nomatch hr),Int.natCast_nonneg _,Int.natCast_nonneg _,Int.natCast_nonneg _,⟨0,rfl,by decide⟩,⟨0,rfl,by decide⟩⟩
end Go.Ct
namespace Go.Proofs.YtpobgmdalcpomaaGreat
open Go Go.RowKit Go.Ct
section
variable{k:Cl}{bx bm:Nat}{x:XS}{dn:Bool}{rs:Rs}{D:List Nat}{A:Fr}{w:World}{g:Gx}
theorem read_c(hg:g.Ok)(t:Tri)(i:Int)(K:Int->Tr)(ht:t.root<=9223372036854775807)(hi:i<=x.L.length)(go:Go' g x (readT t i K))(ok:x.Ok)(hs:SF w D (xH k bx bm x dn rs) A [] (xW x) w):Calls Tryz.prog 77 #[.pointer (some ⟨bx,0,none⟩),trV t,.int .i64 i] w λ e w'=>∃q:Int×XS×List NdV,e=.returned (.int .i64 q.1)/\Nx g x q.2.1 q.2.2 (K q.1) q.1/\SF w D (xH k bx bm q.2.1 dn rs) [] (famF q.2.2) (xW q.2.1) w':=by
 refine enter Tryz.func77 Tryz.ntmps77 rfl rfl (xOpen2 hs) ?_
 simp only[mkS]
 simp only[trV]
 all_goals (refine J0 ?_;refine j_box (λ x4=>?_);refine J27 ?_;refine k_dp [(0,[]),(1,[]),(2,[]),(3,[]),(4,[]),(5,[]),(6,[1]),(7,[]),(8,[1]),(9,[]),(10,[])] ?_;refine r_move ?_;refine r_load ?_;refine J17 ?_;refine J17 ?_;((refine r_own (i:=6) (hq:=(cM (hs:=xH k bx bm x dn rs) (os:=xW x) (hc:=λ w hs=>node_c i _ hi go ok hs))) (h:=λ x13=>?_);try (refine r_fact (λ h13=>?_))));refine r_field ?_;((refine r_own (i:=8) (hq:=(cM (hs:=xH k bx bm x dn rs) (os:=xW x) (hc:=λ w hs=>load_c hg (nodeV x.L i).nd.main _ (h13.2.i64 ok.lL ok.lc).2.2.2.1 h13.1 ok hs))) (h:=λ x15=>?_);try (refine r_fact (λ h15=>?_))));((refine r_own (i:=9) (hq:=(cM (hs:=xH k bx bm x15.2 dn rs) (os:=xW x15.2) (hc:=λ w hs=>settle_c hg t i x15.1 _ ht (by have:=h15.len;omega) h15.bd h15.go h15.ok hs))) (h:=λ x16=>?_);try (refine r_fact (λ h16=>?_))));refine J7 ?_)
 all_goals
 refine k_rv Tryz.results77 (λ w hw=>?_)
 exact⟨x16,rfl,h15.trans h16,by rw[List.append_nil] at hw;exact hw.finH (hF:=by exact FSub.all)⟩
theorem decide_c(hg:g.Ok)(t:Tri)(v:Int)(K:Tr)(ht:t.root<=9223372036854775807)(hv:v<=x.L.length)(go:Go' g x (decideT t v K))(ok:x.Ok)(hs:SF w D (xH k bx bm x dn rs) A [] (xW x) w):Calls Tryz.prog 107 #[.pointer (some ⟨bx,0,none⟩),trV t,.int .i64 v] w λ e w'=>∃q:XS×List NdV,e=.returned (.tuple #[])/\Nx g x q.1 q.2 K 0/\SF w D (xH k bx bm q.1 dn rs) [] (famF q.2) (xW q.1) w':=by
 refine enter Tryz.func107 Tryz.ntmps107 rfl rfl (xOpen2 hs) ?_
 simp only[mkS]
 simp only[trV]
 all_goals (refine J0 ?_;refine j_box (λ x4=>?_);refine l_nil ?_;refine J75 ?_;refine k_seq ?_;refine k_dp [(0,[]),(1,[]),(2,[]),(3,[]),(7,[]),(8,[]),(4,[1]),(5,[]),(6,[]),(9,[]),(10,[]),(11,[])] ?_;refine r_move ?_;refine r_load ?_;refine J17 ?_;refine J17 ?_;((refine r_own (i:=4) (hq:=(cM (hs:=xH k bx bm x dn rs) (os:=xW x) (hc:=λ w hs=>node_c v _ hv go ok hs))) (h:=λ x11=>?_);try (refine r_fact (λ h11=>?_))));refine r_field ?_;((refine r_own (i:=6) (hq:=(cM (hs:=xH k bx bm x dn rs) (os:=xW x) (hc:=λ w hs=>read_c hg t (nodeV x.L v).nd.old _ ht h11.2.old h11.1 ok hs))) (h:=λ x13=>?_);try (refine r_fact (λ h13=>?_))));((refine r_own (i:=9) (hq:=(cM (hs:=xH k bx bm x13.2.1 dn rs) (os:=xW x13.2.1) (hc:=λ w hs=>node_c v _ (by have:=h13.len;omega) h13.go h13.ok hs))) (h:=λ x16=>?_);try (refine r_fact (λ h16=>?_))));refine r_field ?_;refine r_eql ?_;refine r_fin ?_)
 all_goals
 refine kif (λ c18=>?_) (λ c18=>?_)
 ·try exact nv c18
  all_goals
   have gx:Go' g x13.2.1 (.node v λ n3=>.cas n3.status 0 1 λ _=>K):=h16.1.to (λ _=>by rw[show x13.1=(nodeV x13.2.1.L v).c.exp from c18];simp only[if_true])
   have h2e:(1:Int)<=x13.2.1.L.length:=by have:=h13.ok.two;omega
  all_goals (refine k_region ?_;refine J1 ?_;refine J20 ?_;refine J35 ?_;(refine j_own (cM (hs:=xH k bx bm x13.2.1 dn rs) (os:=xW x13.2.1) (hc:=λ w hs=>node_c v _ (by have:=h13.len;omega) gx h13.ok hs)) (λ x22=>?_);try (refine l_fact (λ h22=>?_)));refine j_field ?_;refine j_move ?_;(refine j_own (by first|exact cM (hs:=xH k bx bm x13.2.1 dn rs) (os:=xW x13.2.1) (hc:=λ w hs=>cas_c hg (nodeV x13.2.1.L v).nd.status 0 1 _ (h22.2.i64 h13.ok.lL h13.ok.lc).2.2.2.2.2 h2e h22.1 h13.ok hs)|exact cM (hs:=xH k bx bm x13.2.1 dn rs) (os:=xW x13.2.1) (hc:=λ w hs=>cas_c hg (nodeV x13.2.1.L v).nd.status 0 2 _ (h22.2.i64 h13.ok.lL h13.ok.lc).2.2.2.2.2 h2e h22.1 h13.ok hs)) (λ x25=>?_);try (refine l_fact (λ h25=>?_)));refine l_nil ?_)
  all_goals
   refine k_et Tryz.results107 (λ w hw=>?_)
   rw[List.append_nil] at hw
   exact⟨(x25.2,x13.2.2),rfl,(h13.trans h25).ext' h25.go (Int.natCast_nonneg _),hw.finH (hF:=by exact FSub.all)⟩
 ·try exact nv c18
  all_goals
   have gx:Go' g x13.2.1 (.node v λ n3=>.cas n3.status 0 2 λ _=>K):=h16.1.to (λ _=>by simp only[if_neg (show ¬x13.1=(nodeV x13.2.1.L v).c.exp from c18)])
   have h2e:(2:Int)<=x13.2.1.L.length:=by have:=h13.ok.two;omega
  all_goals (refine k_skip ?_;refine J20 ?_;refine J35 ?_;(refine j_own (cM (hs:=xH k bx bm x13.2.1 dn rs) (os:=xW x13.2.1) (hc:=λ w hs=>node_c v _ (by have:=h13.len;omega) gx h13.ok hs)) (λ x22=>?_);try (refine l_fact (λ h22=>?_)));refine j_field ?_;refine j_move ?_;(refine j_own (by first|exact cM (hs:=xH k bx bm x13.2.1 dn rs) (os:=xW x13.2.1) (hc:=λ w hs=>cas_c hg (nodeV x13.2.1.L v).nd.status 0 1 _ (h22.2.i64 h13.ok.lL h13.ok.lc).2.2.2.2.2 h2e h22.1 h13.ok hs)|exact cM (hs:=xH k bx bm x13.2.1 dn rs) (os:=xW x13.2.1) (hc:=λ w hs=>cas_c hg (nodeV x13.2.1.L v).nd.status 0 2 _ (h22.2.i64 h13.ok.lL h13.ok.lc).2.2.2.2.2 h2e h22.1 h13.ok hs)) (λ x25=>?_);try (refine l_fact (λ h25=>?_)));refine l_nil ?_)
  all_goals
   refine k_et Tryz.results107 (λ w hw=>?_)
   rw[List.append_nil] at hw
   exact⟨(x25.2,x13.2.2),rfl,(h13.trans h25).ext' h25.go (Int.natCast_nonneg _),hw.finH (hF:=by exact FSub.all)⟩
theorem help_c(hg:g.Ok)(t:Tri)(K:Int->Tr)(ht:t.root<=9223372036854775807)(go:Go' g x (helpT t K))(ok:x.Ok)(hs:SF w D (xH k bx bm x dn rs) A [] (xW x) w):Calls Tryz.prog 79 #[.pointer (some ⟨bx,0,none⟩),trV t] w λ e w'=>∃q:Int×XS×List NdV,e=.returned (.int .i64 q.1)/\Nx g x q.2.1 q.2.2 (K q.1) q.1/\SF w D (xH k bx bm q.2.1 dn rs) [] (famF q.2.2) (xW q.2.1) w':=by
 refine enter Tryz.func79 Tryz.ntmps79 rfl rfl (xOpen2 hs) ?_
 simp only[mkS]
 simp only[trV]
 all_goals (refine J0 ?_;refine j_box (λ x3=>?_);refine J1 ?_;refine J2 ?_;refine J3 ?_;(refine j_own (cM (hs:=xH k bx bm x dn rs) (os:=xW x) (hc:=λ w hs=>load_c hg t.root _ ht go ok hs)) (λ x11=>?_);try (refine l_fact (λ h11=>?_)));refine J27 ?_;refine J26 ?_;refine j_move ?_)
 all_goals (first|refine j_un ?_|(refine j_yes ?_;refine j_move ?_)|(refine lcs 16 (λ g16=>?_) (λ g16=>?_)<;>(first|refine j_un ?_|(refine j_yes ?_;refine j_move ?_))))
 all_goals ((first|refine j_un ?_|(refine j_yes ?_;refine j_move ?_));((first|refine j_un ?_|(refine j_yes ?_;(refine j_own (cM (hs:=xH k bx bm x11.2 dn rs) (os:=xW x11.2) (hc:=λ w hs=>node_c x11.1 _ h11.bd h11.go h11.ok hs)) (λ x19=>?_);try (refine l_fact (λ h19=>?_))))));refine J87 ?_;refine l_nil ?_)
 all_goals
 refine kif (λ c22=>?_) (λ c22=>?_)
 ·try exact nv c22
  all_goals (refine J2 ?_;refine J1 ?_)
  all_goals
   refine k_rv Tryz.results79 (λ w hw=>?_)
   exact⟨(x11.1,x11.2,[]),rfl,h11.weak (by first|exact h11.go.stopped (by assumption)|exact h19.1.to (λ _=>if_pos (by assumption))) h11.bd,hw.finH (hF:=by exact FSub.nil)⟩
 ·try exact nv c22
  all_goals
   have g1:=h19.1.to (λ _=>if_neg c22)
   have hb1:=h19.2.i64 h11.ok.lL h11.ok.lc
  all_goals (refine J58 ?_;refine j_move ?_;(refine j_own (cM (hs:=xH k bx bm x11.2 dn rs) (os:=xW x11.2) (hc:=λ w hs=>node_c x11.1 _ h11.bd g1 h11.ok hs)) (λ x27=>?_);try (refine l_fact (λ h27=>?_)));refine j_field ?_;(refine j_own (cM (hs:=xH k bx bm x11.2 dn rs) (os:=xW x11.2) (hc:=λ w hs=>load_c hg (nodeV x11.2.L x11.1).nd.status _ hb1.2.2.2.2.2 h27.1 h11.ok hs)) (λ x29=>?_);try (refine l_fact (λ h29=>?_)));refine J27 ?_)
  all_goals
   refine k_joinG [6,30,31,32,33,34,35,36,37,38,39,40,41] (λ q:Int×XS×List NdV=>[(6,.int .i64 q.1)]) (λ q=>Nx g x q.2.1 q.2.2 (cmpT t x11.1 q.1 K) 0/\x11.1<=q.2.1.L.length) (λ q=>[(x3,.cells ⟨[.int .i64 t.root,.bool t.ro]⟩ 33 (0,0)),(bx,xO k bm q.2.1 dn rs),(bm,xM q.2.1)]) (λ q=>famF q.2.2) (λ q=>xW q.2.1) (by decide) (λ _=>by exact rfl) ?_ (λ q f hx=>?_)
   ·all_goals (refine k_seq ?_)
    all_goals (refine J20 ?_;refine J50 ?_)
    all_goals
    refine kif (λ c31=>?_) (λ c31=>?_)
    ·try exact nv c31
     all_goals
      have g2:=h29.go.to (λ _=>if_pos c31)
      have hv2:x11.1<=x29.2.L.length:=by have:=h29.len;have:=h11.bd;omega
     all_goals (refine J2 ?_;refine j_load ?_;refine j_move ?_;(refine j_own (cM (hs:=xH k bx bm x29.2 dn rs) (os:=xW x29.2) (hc:=λ w hs=>decide_c hg t x11.1 _ ht hv2 g2 h29.ok hs)) (λ x35=>?_);try (refine l_fact (λ h35=>?_)));refine l_nil ?_;refine J20 ?_;refine J35 ?_;(refine j_own (cM (hs:=xH k bx bm x35.1 dn rs) (os:=xW x35.1) (hc:=λ w hs=>node_c x11.1 _ (by have:=h35.len;omega) h35.go h35.ok hs)) (λ x39=>?_);try (refine l_fact (λ h39=>?_)));refine j_field ?_;(refine j_own (cM (hs:=xH k bx bm x35.1 dn rs) (os:=xW x35.1) (hc:=λ w hs=>load_c hg (nodeV x35.1.L x11.1).nd.status _ (h39.2.i64 h35.ok.lL h35.ok.lc).2.2.2.2.2 h39.1 h35.ok hs)) (λ x41=>?_);try (refine l_fact (λ h41=>?_)));refine J1 ?_)
     all_goals
      refine k_rj ((x41.1,x41.2,x35.2)) ?_ (hw1:=λ w hw=>by rw[List.append_nil] at hw;exact hw.back (hF:=by exact FSub.all))
      ·exact⟨((h11.trans h29).trans (h35.trans h41)).ext' h41.go (Int.natCast_nonneg _),(show x11.1<=(x41.2.L.length:Int) by have:=h35.len;have:=h41.len;omega)⟩
    ·try exact nv c31
     all_goals
      have g2:=h29.go.to (λ _=>if_neg c31)
      have hv2:x11.1<=x29.2.L.length:=by have:=h29.len;have:=h11.bd;omega
     all_goals refine k_skip ?_
     all_goals
      refine k_rj ((x29.1,x29.2,[])) ?_ (hw1:=λ w hw=>hw.back (hF:=by exact FSub.nil))
      ·exact⟨(h11.trans h29).weak g2 (Int.natCast_nonneg _),hv2⟩
   dsimp only[mkU,List.map,List.cons_append,List.nil_append]
  all_goals (refine J11 ?_;refine j_move ?_;(refine j_own (cM (hs:=xH k bx bm q.2.1 dn rs) (os:=xW q.2.1) (hc:=λ w hs=>winner_c x11.1 q.1 _ hx.2 hx.1.go hx.1.ok hs)) (λ x45=>?_);try (refine l_fact (λ h45=>?_)));refine J1 ?_;refine J2 ?_;refine J3 ?_;refine J35 ?_;(refine j_own (cM (hs:=xH k bx bm q.2.1 dn rs) (os:=xW q.2.1) (hc:=λ w hs=>cas_c hg t.root x11.1 x45 _ ht h45.2 h45.1 hx.1.ok hs)) (λ x51=>?_);try (refine l_fact (λ h51=>?_)));refine l_nil ?_;refine J2 ?_;refine J1 ?_)
  all_goals
   refine k_rv Tryz.results79 (λ w hw=>?_)
   exact⟨(x45,x51.2,q.2.2),rfl,(hx.1.trans h51).ext' h51.go (by have:=h51.len;have:=h45.2;omega),hw.finH (hF:=by exact FSub.all)⟩
theorem gcas_c(hg:g.Ok)(t:Tri)(i old n:Int)(K:Bool->Tr)(ht:t.root<=9223372036854775807)(hi:i<=x.L.length)(hn:n<=x.L.length)(go:Go' g x (gcasT t i old n K))(ok:x.Ok)(hs:SF w D (xH k bx bm x dn rs) A [] (xW x) w):Calls Tryz.prog 78 #[.pointer (some ⟨bx,0,none⟩),trV t,.int .i64 i,.int .i64 old,.int .i64 n] w λ e w'=>∃q:Bool×XS×List NdV,e=.returned (.bool q.1)/\Nx g x q.2.1 q.2.2 (K q.1) 0/\SF w D (xH k bx bm q.2.1 dn rs) [] (famF q.2.2) (xW q.2.1) w':=by
 refine enter Tryz.func78 Tryz.ntmps78 rfl rfl (xOpen2 hs) ?_
 simp only[mkS]
 simp only[trV]
 all_goals (refine J0 ?_;refine j_box (λ x6=>?_);refine J27 ?_;refine J11 ?_;refine j_move ?_;(refine j_own (cM (hs:=xH k bx bm x dn rs) (os:=xW x) (hc:=λ w hs=>node_c i _ hi go ok hs)) (λ x15=>?_);try (refine l_fact (λ h15=>?_)));refine j_field ?_;refine J35 ?_;(refine j_own (cM (hs:=xH k bx bm x dn rs) (os:=xW x) (hc:=λ w hs=>cas_c hg (nodeV x.L i).nd.main old n _ (h15.2.i64 ok.lL ok.lc).2.2.2.1 hn h15.1 ok hs)) (λ x19=>?_);try (refine l_fact (λ h19=>?_)));refine J33 ?_)
 all_goals
 refine kif (λ c20=>?_) (λ c20=>?_)
 ·try exact nv c20
  all_goals refine J10 ?_
  all_goals
   refine k_rv Tryz.results78 (λ w hw=>?_)
   exact⟨(false,x19.2,[]),rfl,h19.weak (h19.go.to (λ _=>if_neg (by simpa using c20))) (Int.natCast_nonneg _),hw.finH (hF:=by exact FSub.nil)⟩
 ·try exact nv c20
  all_goals
   have g1:=h19.go.to (λ _=>if_pos (by simpa using c20))
   have hl19:=h19.len
  all_goals (refine k_skip ?_;refine J2 ?_;refine j_load ?_;refine J35 ?_;(refine j_own (cM (hs:=xH k bx bm x19.2 dn rs) (os:=xW x19.2) (hc:=λ w hs=>settle_c hg t i n _ ht (by omega) (by omega) g1 h19.ok hs)) (λ x25=>?_);try (refine l_fact (λ h25=>?_)));refine J1 ?_;refine J26 ?_;refine J59 ?_)
  all_goals (first|refine j_un ?_|(refine j_yes ?_;refine j_move ?_)|(refine lcs 31 (λ g31=>?_) (λ g31=>?_)<;>(first|refine j_un ?_|(refine j_yes ?_;refine j_move ?_))))
  all_goals ((first|refine j_un ?_|(refine j_yes ?_;refine j_move ?_));refine J12 ?_;refine J1 ?_)
  all_goals
   refine k_rv Tryz.results78 (λ w hw=>?_)
   rw[List.append_nil] at hw
   first
   | exact⟨(x25.1==n,x25.2.1,x25.2.2),rfl,(h19.trans h25).weak h25.go (Int.natCast_nonneg _),hw.finH (hF:=by exact FSub.all)⟩
   | exact⟨(false,x25.2.1,x25.2.2),rfl,(h19.trans h25).weak (h25.go.stopped (by first|assumption|simp_all)) (Int.natCast_nonneg _),hw.finH (hF:=by exact FSub.all)⟩
end
end Go.Proofs.YtpobgmdalcpomaaGreat

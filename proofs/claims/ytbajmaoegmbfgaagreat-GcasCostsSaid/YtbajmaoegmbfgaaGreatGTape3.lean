/- A node out of a tape. -/
import Derived.Test.YtbajmaoegmbfgaaGreatGTape
import Derived.Test.YtbajmaoegmbfgaaGreatGAr9
import Derived.Test.YtbajmaoegmbfgaaGreatGBr

set_option linter.unusedSimpArgs false
set_option linter.unusedVariables false
namespace Go.Proofs.YtbajmaoegmbfgaaGreat
section
open Go.RowKit Go.Ct
end

/- Memories that come out of tapes are proper. -/
section
open Go.Ct
end

/- A memory out of a tape. -/
end Go.Proofs.YtbajmaoegmbfgaaGreat
namespace Go.Ct
section
end
end Go.Ct
namespace Go.Proofs.YtbajmaoegmbfgaaGreat
section
open Go.RowKit Go.Ct
end

/- Proper states: the walk through the reference's check. -/
end Go.Proofs.YtbajmaoegmbfgaaGreat
namespace Go.Ct
section
theorem Hi{n:Nd}:(fX n).isSome=true↔n.kind=2∨n.kind=3∨n.kind=5∨n.kind=6∨n.kind=8:=by
 unfold fX
 split
 ·simp_all
 ·split
  ·simp_all;omega
  ·split
   ·simp_all
   ·simp_all
def uh(n:Nd):Int:=Go.IntKind.i64.wrap (Go.IntKind.i64.wrap (n.main+n.prev)+n.status)
theorem kw{n:Nd}{xs:List Int}{ys:List Pr}(h:cC n xs ys)(hr:NdR n){c:Int}(hc:fX n=some c):uh n=c:=by
 obtain⟨e,h1,h2,h3,_⟩:=h
 have e':=zK.1 e
 obtain⟨_,m1,m2,m3⟩:=hr
 simp only[Nd.c,Nv.mk.injEq] at e'
 obtain⟨_,_,em,_,_,_,_,_,_,ep,_,_,_,es⟩:=e'
 unfold fX at hc
 unfold uh
 split at hc
 ·rename_i hk
  simp only[Option.some.injEq] at hc
  have a:n.prev=0:=by rw[ep];simp[Nd.own,hk,Nd.zero]
  have b:n.status=0:=by rw[es];simp[Nd.own,hk,Nd.zero]
  rw[wrap_i64 (i:=n.main+n.prev) (by omega) (by omega),wrap_i64 (by omega) (by omega)]
  omega
 ·split at hc
  ·rename_i hk
   simp only[Option.some.injEq] at hc
   have a:n.main=0:=by rw[em];rcases hk with hk|hk|hk<;>simp[Nd.own,hk,Nd.zero]
   have b:n.status=0:=by rw[es];rcases hk with hk|hk|hk<;>simp[Nd.own,hk,Nd.zero]
   rw[wrap_i64 (i:=n.main+n.prev) (by omega) (by omega),wrap_i64 (by omega) (by omega)]
   omega
  ·split at hc
   ·rename_i hk
    simp only[Option.some.injEq] at hc
    have a:n.main=0:=by rw[em];simp[Nd.own,hk,Nd.zero]
    have b:n.prev=0:=by rw[ep];simp[Nd.own,hk,Nd.zero]
    rw[wrap_i64 (i:=n.main+n.prev) (by omega) (by omega),wrap_i64 (by omega) (by omega)]
    omega
   ·cases hc
end
end Go.Ct
namespace Go.Proofs.YtbajmaoegmbfgaaGreat
section
open Go.RowKit Go.Ct
theorem G0{xs:List Int}{N c:Nat}{a:Option Addr}{w:World}(ha:Cl w a (aG xs))(hx:xs.length<4611686018427387904) :
  Calls Tryz.prog 125 #[.int .i64 ((N:Nat):Int),.slice a xs.length c] w λ e w'=>∃r:Bool,e=.returned (.bool r)/\(r=true↔∀i,i<xs.length->Ds (xs.getD i 0) N)/\St w [] [] w':=by
 refine enter Tryz.func125 Tryz.ntmps125 rfl rfl (SF.s1 ha) ?_
 simp only[cD]
 refine Ha ?_;refine Dn ?_
 refine hY [4,5,6,7,8,9,10,11,12,13,14,15,16,17,18,19,20,21,22,23,24] (λ k=>[(5,.int .i64 ((k:Nat):Int))]) (λ k=>k<=xs.length/\∀i,i<k->Ds (xs.getD i 0) N) (λ k=>xs.length-k) (0) (⟨Nat.zero_le _,λ i hi=>absurd hi (Nat.not_lt_zero i)⟩) ?_ (λ k f hx=>?_)
 ·repeat (first|exact bG _|refine bA (by exact rfl) ?_)
 dsimp only[iA,List.map,List.cons_append,List.nil_append]
 refine A6 ?_;refine dJ ?_;refine Cf ?_
 refine aZ (λ c9=>?_) (λ c9=>?_)
 ·refine rR ?_;refine jA ?_;refine Qq ?_;refine Az ?_
  (refine dX 17 (λ g17=>?_) (λ g17=>?_)<;>(first|refine aI ?_|(refine aE ?_;refine aA ?_)))
  all_goals ((first|refine aI ?_|(refine aE ?_;refine aA ?_));(first|refine aI ?_|(refine aE ?_;refine gC ?_));refine fv ?_;refine zJ ?_;refine aH ?_)
  all_goals
  refine aZ (λ c24=>?_) (λ c24=>?_)
  ·all_goals refine cP ?_
   all_goals
    refine aQ Tryz.results125 (λ w hw=>?_)
    exact⟨false,rfl,⟨(λ h=>nomatch h),λ h=>by have h1:=h k (by omega);obtain⟨h2,h3⟩:=h1;exfalso;omega⟩,hw.done⟩
  ·try exact nv c24
   all_goals (refine oP ?_;refine uT ?_)
   all_goals
    refine fD (k+1) ?_ ?_ ?_
    ·omega
    ·repeat' (first|exact bG _|refine bA ?_ ?_)
     exact rfl
    ·exact⟨by omega,λ i hi=>by rcases Nat.lt_succ_iff_lt_or_eq.1 hi with h|rfl;exact hx.2 i h;exact⟨by omega,by omega⟩⟩
 ·refine bR rfl ?_;refine cP ?_
  refine aQ Tryz.results125 (λ w hw=>?_)
  exact⟨true,rfl,⟨λ _ i hi=>hx.2 i (by omega),λ _=>rfl⟩,hw.done⟩
theorem Z9(n:Nd)(w:World):Calls Tryz.prog 127 #[.int .i64 n.kind] w λ e w'=>e=.returned (.bool (fX n).isSome)/\St w [] [] w':=by
 refine enter Tryz.func127 Tryz.ntmps127 rfl rfl (SF.s0 w) ?_
 simp only[cD]
 refine cP ?_;refine J2 ?_;refine lK ?_;refine aA ?_
 (refine dX 5 (λ g5=>?_) (λ g5=>?_)<;>(first|refine aI ?_|(refine aE ?_;refine aA ?_)))
 all_goals (refine vW ?_;refine aA ?_)
 all_goals (first|refine aI ?_|(refine dX 9 (λ g9=>?_) (λ g9=>?_)<;>(first|refine aI ?_|(refine aE ?_;refine aA ?_))))
 all_goals (refine vW ?_;refine aA ?_)
 all_goals (first|refine aI ?_|(refine dX 13 (λ g13=>?_) (λ g13=>?_)<;>(first|refine aI ?_|(refine aE ?_;refine aA ?_))))
 all_goals (refine vW ?_;refine aA ?_)
 all_goals (first|refine aI ?_|(refine dX 17 (λ g17=>?_) (λ g17=>?_)<;>(first|refine aI ?_|(refine aE ?_;refine aA ?_))))
 all_goals (refine vW ?_;refine J1 ?_)
 all_goals
 refine aQ Tryz.results127 (λ w hw=>?_)
 refine⟨?_,hw.done⟩
 first|(rw[Hi.2 (by omega)];rfl)|(rw[show(fX n).isSome=(n.kind==8) from by rw[Bool.eq_iff_iff,beq_iff_eq,Hi];omega];rfl)
theorem Wn(n:Nd)(w:World):Calls Tryz.prog 128 #[n.v] w λ e w'=>e=.returned (.int .i64 (uh n))/\St w [] [] w':=by
 refine enter Tryz.func128 Tryz.ntmps128 rfl rfl (SF.s0 w) ?_
 simp only[cD]
 simp only[Nd.v,Nd.cells]
 refine J0 ?_;refine bK (λ x1=>?_);refine J1 ?_;refine hZ ?_;refine J3 ?_;refine aC (nS rf rf) rfl ?_;refine J3 ?_;refine aC (nS rf rf) rfl ?_;refine J1 ?_
 refine aQ Tryz.results128 (λ w hw=>?_)
 exact⟨rfl,hw.done⟩
set_option maxRecDepth 100000 in
theorem Pp{L:List aP}{cs:List Int}{gen:Int}{pn pc:Option Addr}{cn cc:Nat}{w:World}(h:qT w L cs pn pc)(hR:H5 L)(hL:L.length<=274877906944)(hC:cs.length<=274877906944) :
    Calls Tryz.prog 82 #[.agg ⟨[.slice pn L.length cn,.slice pc cs.length cc,.int .i64 gen]⟩] w λ e w'=>∃r:Bool,e=.returned (.bool r)/\(r=true↔fY L cs gen)/\St w [] [] w':=by
  refine enter Tryz.func82 Tryz.ntmps82 rfl rfl h.start ?_
  simp only[cD]
  refine J0 ?_;refine bK (λ x1=>?_);refine J1 ?_;refine hZ ?_;refine dJ ?_;refine iO ?_;refine J2 ?_;refine Az ?_
  (refine dX 13 (λ g13=>?_) (λ g13=>?_)<;>(first|refine aI ?_|(refine aE ?_;refine aF ?_)))
  all_goals ((first|refine aI ?_|(refine aE ?_;refine bP ?_));(first|refine aI ?_|(refine aE ?_;refine aC (sB (k:=0) rf rf gA eP fin (by omega) (by omega)) rfl ?_));(first|refine aI ?_|(refine aE ?_;refine aF ?_));(first|refine aI ?_|(refine aE ?_;refine aC (vD (q:=0) rf fR fin (by omega)) rfl ?_));refine Q9 ?_;refine aA ?_)
  all_goals (first|refine aI ?_|(refine dX 21 (λ g21=>?_) (λ g21=>?_)<;>(first|refine aI ?_|(refine aE ?_;refine aF ?_))))
  all_goals ((first|refine aI ?_|(refine aE ?_;refine bP ?_));(first|refine aI ?_|(refine aE ?_;refine aC (sB (k:=1) rf rf gA eP fin (by omega) (by omega)) rfl ?_));(first|refine aI ?_|(refine aE ?_;refine aF ?_));(first|refine aI ?_|(refine aE ?_;refine aC (vD (q:=1) rf fR fin (by omega)) rfl ?_));refine Q9 ?_;refine aA ?_)
  all_goals (first|refine aI ?_|(refine dX 29 (λ g29=>?_) (λ g29=>?_)<;>(first|refine aI ?_|(refine aE ?_;refine aF ?_))))
  all_goals (refine yf ?_;refine aA ?_)
  all_goals (first|refine aI ?_|(refine dX 34 (λ g34=>?_) (λ g34=>?_)<;>(first|refine aI ?_|(refine aE ?_;refine aA ?_))))
  all_goals (refine J6 ?_;(first|refine aI ?_|(refine aE ?_;refine aD (c0 (V:=.bool) (hc:=λ w1 hw=>G0 (hw.cl (.bJ (.tail .head))) (by omega))) (λ x38 h38=>?_)));refine Mv ?_;refine aH ?_)
  all_goals
   refine aZ (λ c40=>?_) (λ c40=>?_)
   · all_goals refine cP ?_
     all_goals
      refine aQ Tryz.results82 (λ w hw=>?_)
      exact⟨false,rfl,⟨(λ h=>nomatch h),λ hp=>by
       have h1:=hp.two
       have h2:=hp.gen0
       have h3:=hp.m0
       have h4:=hp.m1
       first|omega|(have h5:=h38.2 hp.cells;simp_all)⟩,hw.done⟩
   · try exact nv c40
     all_goals (refine aX ?_;refine hZ ?_;refine dJ ?_;refine vR (λ x44=>?_);refine iO ?_;refine Dn ?_)
     all_goals
      refine oI [2,5,6,7,45,46,47,48,49,50,51,52,53,54,55,56,57,58,59,60,61,62,63,64,65,66,67,68,69,70,71,72,73,74,75,76,77,78,79,80,81,82,83,84,85,86,87,88,89,90,91,92,93,94,95,96,97,98,99,100,101,102,103,104,105,106,107,108,109] (λ y:Nat×List Bool=>[(5,.int .i64 ((y.1:Nat):Int))]) (λ y=>y.1<=L.length/\marks cs.length (L.take y.1)=some y.2/\∀i,i<y.1->mL gen L.length (L.getD i aP.zero)) (λ _=>_) (λ _=>_) (λ y=>[⟨some ⟨x44,0,none⟩,jI y.2,cs.length,4,1⟩]) (λ y=>L.length-y.1) ((0,List.replicate cs.length false)) (⟨Nat.zero_le _,rfl,λ i hi=>absurd hi (Nat.not_lt_zero i)⟩) (λ y f hx=>?_)
      dsimp only[iA,List.map,List.cons_append,List.nil_append]
      have hu:=A9 hx.2.1
      refine A6 ?_;refine Cf ?_
      refine aZ (λ c47=>?_) (λ c47=>?_)
      · obtain⟨⟨bm,hbm,hbm2⟩,hr1,hr2,hr3⟩:=hR _ (fO (L:=L) (k:=y.1) (by omega))
        refine rR ?_;refine hZ ?_;refine aA ?_;refine Qq ?_;refine aJ (λ x6=>?_);refine J5 ?_;refine aS ?_;refine oC ?_;refine aD (c0 (V:=.bool) (hc:=λ w1 hw=>zE hbm hbm2 (hw.Qj h.fit (by omega)))) (λ x56 h56=>?_);refine Cb ?_
        (refine dX 58 (λ g58=>?_) (λ g58=>?_)<;>(first|refine aI ?_|(refine aE ?_;refine aF ?_)))
        all_goals (refine Ci ?_;refine zJ ?_;refine aA ?_)
        all_goals (first|refine aI ?_|(refine dX 65 (λ g65=>?_) (λ g65=>?_)<;>(first|refine aI ?_|(refine aE ?_;refine aA ?_))))
        all_goals (refine J6 ?_;(first|refine aI ?_|(refine aE ?_;refine aD (c0 (V:=.bool) (hc:=λ w1 hw=>by rw[(hw.Qj h.fit (k:=y.1) (by omega)).brN];exact G0 (hw.Qj h.fit (by omega)).br (hw.Qj h.fit (by omega)).brS)) (λ x69 h69=>?_)));refine Mv ?_;refine aA ?_)
        all_goals (first|refine aI ?_|(refine dX 72 (λ g72=>?_) (λ g72=>?_)<;>(first|refine aI ?_|(refine aE ?_;refine aA ?_))))
        all_goals (refine J6 ?_;refine J6 ?_;refine J6 ?_;(first|refine aI ?_|(refine aE ?_;refine eZ (λ x80=>?_)));(first|refine aI ?_|(refine aE ?_;refine aD (c0 (V:=.bool) (hc:=λ w1 hw=>G0 (xs:=[(L.getD y.1 aP.zero).nd.bJ,(L.getD y.1 aP.zero).nd.exp,(L.getD y.1 aP.zero).nd.new]) (hw.cl (.new .head)) (by simp only[List.length_cons,List.length_nil];decide))) (λ x81 h81=>?_)));refine Mv ?_;refine aH ?_)
        all_goals
         refine aZ (λ c83=>?_) (λ c83=>?_)
         · all_goals refine cP ?_
           all_goals
            refine aQ Tryz.results82 (λ w hw=>?_)
            refine⟨false,rfl,⟨(λ h=>nomatch h),λ hp=>?_⟩,hw.done⟩
            obtain⟨q1,q2,q3,q4,q5,q6⟩:=hp.nodes y.1 (by omega)
            first|(exfalso;omega)|(have:=h56.2 q1;simp_all;done)|(have:=h81.2 (λ i hi=>by simp only[List.length_cons,List.length_nil] at hi;rcases(show i=0∨i=1∨i=2 by omega) with rfl|rfl|rfl;exact q4;exact q5;exact q6);simp_all;done)
         · try exact nv c83
           all_goals
            have hrr:=h81.1 c83
            have hok:mL gen L.length (L.getD y.1 aP.zero):=⟨h56.1 g58,by omega,h69.1 g72,hrr 0 (by simp),hrr 1 (by simp),hrr 2 (by simp)⟩
           all_goals (refine kK ?_;refine hZ ?_;refine aN (cV (hc:=λ w1 hw=>Z9 (L.getD y.1 aP.zero).nd w1)) (λ x86=>?_);refine oU ?_)
           all_goals
            refine aZ (λ c87=>?_) (λ c87=>?_)
            · have hmk:eI (some y.2) (L.getD y.1 aP.zero).nd=some y.2:=by
               have e:fX (L.getD y.1 aP.zero).nd=none:=by cases hq:fX (L.getD y.1 aP.zero).nd<;>simp_all
               simp only[eI,e]
              refine bR rfl ?_;refine uT ?_
              refine jG ((y.1+1,(eI (some y.2) (L.getD y.1 aP.zero).nd).getD y.2)) ?_ (hw1:=λ w hw=>by rw[hmk];exact hw.back (hO:=by exact List.Sublist.refl _))
              · refine⟨by omega,by rw[nI (by omega),hx.2.1,hmk];rfl,λ i hi=>?_⟩
                rcases Nat.lt_succ_iff_lt_or_eq.1 hi with h|rfl
                · exact hx.2.2 i h
                · exact hok
            · obtain⟨c,hc⟩:∃c,fX (L.getD y.1 aP.zero).nd=some c:=Option.isSome_iff_exists.1 c87
              have hs:=kw hok.1 ⟨⟨bm,hbm,hbm2⟩,hr1,hr2,hr3⟩ hc
              refine aX ?_;refine oC ?_;refine aN (cV (hc:=λ w1 hw=>Wn (L.getD y.1 aP.zero).nd w1)) (λ x89=>?_);refine iO ?_;refine J2 ?_;refine Az ?_
              (refine dX 92 (λ g92=>?_) (λ g92=>?_)<;>(first|refine aI ?_|(refine aE ?_;refine aA ?_)))
              all_goals (refine Rh ?_;refine zJ ?_;refine aA ?_)
              all_goals (first|refine aI ?_|(refine dX 99 (λ g99=>?_) (λ g99=>?_)<;>(first|refine aI ?_|(refine aE ?_;refine aA ?_))))
              all_goals ((first|refine aI ?_|(refine aE ?_;refine aA ?_));(first|refine aI ?_|(refine aE ?_;refine aC (Mr rf rf (by omega) (by omega)) rfl ?_));(first|refine aI ?_|(refine aE ?_;refine aC (nW rf rf gA fR fin (by omega) (by omega)) rfl ?_));(first|refine aI ?_|(refine aE ?_;refine aC (Ah rf fR fin (by omega)) rfl ?_));refine bY ?_;refine aH ?_)
              all_goals
               refine aZ (λ c105=>?_) (λ c105=>?_)
               · all_goals refine cP ?_
                 all_goals
                  refine aQ Tryz.results82 (λ w hw=>?_)
                  refine⟨false,rfl,⟨(λ h=>nomatch h),λ hp=>?_⟩,hw.done⟩
                  have hm:marks cs.length (L.take (y.1+1))=none:=by
                   rw[nI (by omega),hx.2.1]
                   simp only[eI,hc]
                   refine if_neg λ hh=>?_
                   obtain⟨q1,q2,q3⟩:=hh
                   first|(exfalso;omega)|(exfalso;rw[hs,q3] at c105;cases c105)
                  exact absurd (Fi hm) hp.marks
               · try exact nv c105
                 all_goals
                  rw[hs] at c105 g92 g99
                  have hmk:eI (some y.2) (L.getD y.1 aP.zero).nd=some (y.2.set (c-1).toNat true):=by
                   simp only[eI,hc]
                   rw[if_pos ⟨by omega,by omega,c105⟩]
                 all_goals (refine aX ?_;refine Ih ?_;refine aC (Mr rf rf (by omega) (by omega)) rfl ?_;refine aC (nW rf rf gA fR fin (by omega) (by omega)) rfl ?_;refine J5 ?_;refine fF ?_;refine uT ?_)
                 all_goals
                  refine jG ((y.1+1,(eI (some y.2) (L.getD y.1 aP.zero).nd).getD y.2)) ?_ (hw1:=λ w hw=>by rw[hmk];(rw[hs] at hw;exact hw.back (hO:=by exact List.Sublist.refl _)))
                  · refine⟨by omega,by rw[nI (by omega),hx.2.1,hmk];rfl,λ i hi=>?_⟩
                    rcases Nat.lt_succ_iff_lt_or_eq.1 hi with h|rfl
                    · exact hx.2.2 i h
                    · exact hok
      · refine bR rfl ?_;refine cP ?_
        refine aQ Tryz.results82 (λ w hw=>?_)
        have hy:y.1=L.length:=by omega
        have hmm:marks cs.length L=some y.2:=by have:=hx.2.1;rwa [hy,List.take_length] at this
        exact⟨true,rfl,⟨λ _=>⟨by omega,by omega,by omega,by omega,h38.1 (by simp_all),λ i hi=>hx.2.2 i (by omega),by rw[hmm];exact λ h=>nomatch h⟩,λ _=>rfl⟩,hw.done⟩
end

end Go.Proofs.YtbajmaoegmbfgaaGreat

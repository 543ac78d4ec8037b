/- Proper states: the walk through the reference's check. -/
import Derived.Test.YtpobgmdalcpomaaGreatGBitsE
import Derived.Test.YtpobgmdalcpomaaGreatGVw6
import Derived.Test.YtpobgmdalcpomaaGreatGPl1

set_option linter.unusedSimpArgs false
set_option linter.unusedVariables false
namespace Go.Ct
section
theorem Et{n:Nd}:(dR n).isSome=true↔n.kind=2∨n.kind=3∨n.kind=5∨n.kind=6∨n.kind=8:=by
 unfold dR
 split
 ·simp_all
 ·split
  ·simp_all;omega
  ·split
   ·simp_all
   ·simp_all
def q0(n:Nd):Int:=Go.IntKind.i64.wrap (Go.IntKind.i64.wrap (n.main+n.prev)+n.status)
theorem jc{n:Nd}{xs:List Int}{ys:List Pr}(h:bL n xs ys)(hr:y0 n){c:Int}(hc:dR n=some c):q0 n=c:=by
 obtain⟨e,h1,h2,h3,_⟩:=h
 have e':=zL.1 e
 obtain⟨_,m1,m2,m3⟩:=hr
 simp only[Nd.c,Nv.mk.injEq] at e'
 obtain⟨_,_,em,_,_,_,_,_,_,ep,_,_,_,es⟩:=e'
 unfold dR at hc
 unfold q0
 split at hc
 ·rename_i hk
  simp only[Option.some.injEq] at hc
  have a:n.prev=0:=by rw[ep];simp[Nd.own,hk,Nd.zero]
  have b:n.status=0:=by rw[es];simp[Nd.own,hk,Nd.zero]
  rw[wrap_i64 (i:=n.main+n.prev) (by omega) (by omega),wrap_i64 (by omega) (by omega)]
  omega
 ·split at hc
  ·rename_i hk
   simp only[Option.some.injEq] at hc
   have a:n.main=0:=by rw[em];rcases hk with hk|hk|hk<;>simp[Nd.own,hk,Nd.zero]
   have b:n.status=0:=by rw[es];rcases hk with hk|hk|hk<;>simp[Nd.own,hk,Nd.zero]
   rw[wrap_i64 (i:=n.main+n.prev) (by omega) (by omega),wrap_i64 (by omega) (by omega)]
   omega
  ·split at hc
   ·rename_i hk
    simp only[Option.some.injEq] at hc
    have a:n.main=0:=by rw[em];simp[Nd.own,hk,Nd.zero]
    have b:n.prev=0:=by rw[ep];simp[Nd.own,hk,Nd.zero]
    rw[wrap_i64 (i:=n.main+n.prev) (by omega) (by omega),wrap_i64 (by omega) (by omega)]
    omega
   ·cases hc
end
end Go.Ct
namespace Go.Proofs.YtpobgmdalcpomaaGreat
section
open Go.RowKit Go.Ct
theorem Dk{xs:List Int}{N c:Nat}{a:Option Addr}{w:World}(ha:Cl w a (aJ xs))(hx:xs.length<4611686018427387904) :
  Calls Tryz.prog 69 #[.int .i64 ((N:Nat):Int),.slice a xs.length c] w λ e w'=>∃r:Bool,e=.returned (.bool r)/\(r=true↔∀i,i<xs.length->B5 (xs.getD i 0) N)/\St w [] [] w':=by
 refine enter Tryz.func69 Tryz.ntmps69 rfl rfl (SF.s1 ha) ?_
 simp only[dB]
 all_goals (refine Be ?_;refine Cq ?_)
 all_goals
 refine gE [4,5,6,7,8,9,10,11,12,13,14,15,16,17,18,19,20,21,22,23,24] (λ k=>[(5,.int .i64 ((k:Nat):Int))]) (λ k=>k<=xs.length/\∀i,i<k->B5 (xs.getD i 0) N) (λ k=>xs.length-k) (0) (⟨Nat.zero_le _,λ i hi=>absurd hi (Nat.not_lt_zero i)⟩) ?_ (λ k f hx=>?_)
 ·repeat (first|exact bI _|refine bE (by first|exact rfl|(conv=>{lhs;whnf};simp;done)) ?_)
 dsimp only[gW,List.map,List.cons_append,List.nil_append]
 all_goals (refine Cy ?_;refine dW ?_;refine uQ ?_)
 all_goals
  refine bF (λ c9=>?_) (λ c9=>?_)
  ·try exact nv c9
   all_goals (refine oD ?_;refine jE ?_;refine Dc ?_;refine Am ?_)
   all_goals (first|refine aG ?_|(refine aC ?_;refine aA ?_)|(refine dG 17 (λ g17=>?_) (λ g17=>?_)<;>(first|refine aG ?_|(refine aC ?_;refine aA ?_))))
   all_goals ((first|refine aG ?_|(refine aC ?_;refine aA ?_));(first|refine aG ?_|(refine aC ?_;refine gG ?_));refine cq ?_;refine xV ?_;refine aN ?_)
   all_goals
   refine bF (λ c24=>?_) (λ c24=>?_)
   ·try exact nv c24
    all_goals refine dH ?_
    all_goals
     refine aR Tryz.results69 (λ w hw=>?_)
     exact⟨false,rfl,⟨(λ h=>nomatch h),λ h=>by have h1:=h k (by omega);obtain⟨h2,h3⟩:=h1;exfalso;omega⟩,hw.done⟩
   ·try exact nv c24
    all_goals (refine mN ?_;refine uH ?_)
    all_goals
     refine fD (k+1) ?_ ?_ ?_
     ·first|omega|(simp only[];omega)
     ·repeat' (first|exact bI _|refine bE ?_ ?_)
      all_goals (first|exact rfl|(conv=>{lhs;whnf};simp;done)|(conv=>{lhs;whnf};congr 1;omega))
     ·exact⟨by omega,λ i hi=>by rcases Nat.lt_succ_iff_lt_or_eq.1 hi with h|rfl;exact hx.2 i h;exact⟨by omega,by omega⟩⟩
  ·try exact nv c9
   all_goals (refine bQ rfl ?_;refine dH ?_)
   all_goals
   refine aR Tryz.results69 (λ w hw=>?_)
   exact⟨true,rfl,⟨λ _ i hi=>hx.2 i (by omega),λ _=>rfl⟩,hw.done⟩
theorem ae(n:Nd)(w:World):Calls Tryz.prog 71 #[.int .i64 n.kind] w λ e w'=>e=.returned (.bool (dR n).isSome)/\St w [] [] w':=by
 refine enter Tryz.func71 Tryz.ntmps71 rfl rfl (SF.s0 w) ?_
 simp only[dB]
 all_goals (refine dH ?_;refine J2 ?_;refine kV ?_;refine aA ?_)
 all_goals (first|refine aG ?_|(refine aC ?_;refine aA ?_)|(refine dG 5 (λ g5=>?_) (λ g5=>?_)<;>(first|refine aG ?_|(refine aC ?_;refine aA ?_))))
 all_goals (refine rM ?_;refine aA ?_)
 all_goals (first|refine aG ?_|(refine aC ?_;refine aA ?_)|(refine dG 9 (λ g9=>?_) (λ g9=>?_)<;>(first|refine aG ?_|(refine aC ?_;refine aA ?_))))
 all_goals (refine rM ?_;refine aA ?_)
 all_goals (first|refine aG ?_|(refine aC ?_;refine aA ?_)|(refine dG 13 (λ g13=>?_) (λ g13=>?_)<;>(first|refine aG ?_|(refine aC ?_;refine aA ?_))))
 all_goals (refine rM ?_;refine aA ?_)
 all_goals (first|refine aG ?_|(refine aC ?_;refine aA ?_)|(refine dG 17 (λ g17=>?_) (λ g17=>?_)<;>(first|refine aG ?_|(refine aC ?_;refine aA ?_))))
 all_goals (refine rM ?_;refine J1 ?_)
 all_goals
 refine aR Tryz.results71 (λ w hw=>?_)
 refine⟨?_,hw.done⟩
 first|(rw[Et.2 (by omega)];rfl)|(rw[show(dR n).isSome=(n.kind==8) from by rw[Bool.eq_iff_iff,beq_iff_eq,Et];omega];rfl)
theorem Vh(n:Nd)(w:World):Calls Tryz.prog 72 #[n.v] w λ e w'=>e=.returned (.int .i64 (q0 n))/\St w [] [] w':=by
 refine enter Tryz.func72 Tryz.ntmps72 rfl rfl (SF.s0 w) ?_
 simp only[dB]
 simp only[Nd.v,Nd.cells]
 all_goals (refine J0 ?_;refine bM (λ x1=>?_);refine J1 ?_;refine gR ?_;refine J3 ?_;refine aH (tC rf rf) rfl ?_;refine J3 ?_;refine aH (tC rf rf) rfl ?_;refine J1 ?_)
 all_goals
 refine aR Tryz.results72 (λ w hw=>?_)
 exact⟨rfl,hw.done⟩
set_option maxRecDepth 100000 in
theorem Cm{L:List aQ}{cs:List Int}{gen:Int}{pn pc:Option Addr}{cn cc:Nat}{w:World}(h:fV w L cs pn pc)(hR:lD L)(hL:L.length<=274877906944)(hC:cs.length<=274877906944) :
    Calls Tryz.prog 59 #[.agg ⟨[.slice pn L.length cn,.slice pc cs.length cc,.int .i64 gen]⟩] w λ e w'=>∃r:Bool,e=.returned (.bool r)/\(r=true↔dK L cs gen)/\St w [] [] w':=by
  refine enter Tryz.func59 Tryz.ntmps59 rfl rfl h.start ?_
  simp only[dB]
  all_goals (refine J0 ?_;refine bM (λ x1=>?_);refine J1 ?_;refine gR ?_;refine dW ?_;refine iI ?_;refine J2 ?_;refine Am ?_)
  all_goals (first|refine aG ?_|(refine aC ?_;refine aE ?_)|(refine dG 13 (λ g13=>?_) (λ g13=>?_)<;>(first|refine aG ?_|(refine aC ?_;refine aE ?_))))
  all_goals ((first|refine aG ?_|(refine aC ?_;refine bJ ?_));(first|refine aG ?_|(refine aC ?_;refine aH (qX (k:=0) rf rf fG dS fin (by omega) (by omega)) rfl ?_));(first|refine aG ?_|(refine aC ?_;refine aE ?_));(first|refine aG ?_|(refine aC ?_;refine aH (vB (q:=0) rf bU fin (by omega)) rfl ?_));refine U8 ?_;refine aA ?_)
  all_goals (first|refine aG ?_|(refine aC ?_;refine aE ?_)|(refine dG 21 (λ g21=>?_) (λ g21=>?_)<;>(first|refine aG ?_|(refine aC ?_;refine aE ?_))))
  all_goals ((first|refine aG ?_|(refine aC ?_;refine bJ ?_));(first|refine aG ?_|(refine aC ?_;refine aH (qX (k:=1) rf rf fG dS fin (by omega) (by omega)) rfl ?_));(first|refine aG ?_|(refine aC ?_;refine aE ?_));(first|refine aG ?_|(refine aC ?_;refine aH (vB (q:=1) rf bU fin (by omega)) rfl ?_));refine U8 ?_;refine aA ?_)
  all_goals (first|refine aG ?_|(refine aC ?_;refine aE ?_)|(refine dG 29 (λ g29=>?_) (λ g29=>?_)<;>(first|refine aG ?_|(refine aC ?_;refine aE ?_))))
  all_goals (refine ou ?_;refine aA ?_)
  all_goals (first|refine aG ?_|(refine aC ?_;refine aA ?_)|(refine dG 34 (λ g34=>?_) (λ g34=>?_)<;>(first|refine aG ?_|(refine aC ?_;refine aA ?_))))
  all_goals (refine J6 ?_;((first|refine aG ?_|(refine aC ?_;(refine aF (c0 (V:=.bool) (hc:=λ w1 hw=>Dk (hw.cl (.cE (.tail .head))) (by omega))) (λ x38=>?_);try (refine aB (λ h38=>?_))))));refine Ju ?_;refine aN ?_)
  all_goals
   refine bF (λ c40=>?_) (λ c40=>?_)
   · try exact nv c40
     all_goals refine dH ?_
     all_goals
      refine aR Tryz.results59 (λ w hw=>?_)
      exact⟨false,rfl,⟨(λ h=>nomatch h),λ hp=>by
       have h1:=hp.two
       have h2:=hp.gen0
       have h3:=hp.m0
       have h4:=hp.m1
       first|omega|(have h5:=h38.2 hp.cells;simp_all)⟩,hw.done⟩
   · try exact nv c40
     all_goals (refine aZ ?_;refine gR ?_;refine dW ?_;refine pV (λ x44=>?_);refine iI ?_;refine Cq ?_)
     all_goals
      refine lO [2,5,6,7,45,46,47,48,49,50,51,52,53,54,55,56,57,58,59,60,61,62,63,64,65,66,67,68,69,70,71,72,73,74,75,76,77,78,79,80,81,82,83,84,85,86,87,88,89,90,91,92,93,94,95,96,97,98,99,100,101,102,103,104,105,106,107,108,109] (λ y:Nat×List Bool=>[(5,.int .i64 ((y.1:Nat):Int))]) (λ y=>y.1<=L.length/\marks cs.length (L.take y.1)=some y.2/\∀i,i<y.1->kG gen L.length (L.getD i aQ.zero)) (λ _=>_) (λ _=>_) (λ y=>[⟨some ⟨x44,0,none⟩,iR y.2,cs.length,4,1⟩]) (λ y=>L.length-y.1) ((0,List.replicate cs.length false)) (⟨Nat.zero_le _,rfl,λ i hi=>absurd hi (Nat.not_lt_zero i)⟩) (λ y f hx=>?_)
      dsimp only[gW,List.map,List.cons_append,List.nil_append]
      have hu:=Bb hx.2.1
      all_goals (refine Cy ?_;refine uQ ?_)
      all_goals
       refine bF (λ c47=>?_) (λ c47=>?_)
       · try exact nv c47
         all_goals
          obtain⟨⟨bm,hbm,hbm2⟩,hr1,hr2,hr3⟩:=hR _ (fX (L:=L) (k:=y.1) (by omega))
         all_goals (refine oD ?_;refine gR ?_;refine aA ?_;refine Dc ?_;refine aY (λ x6=>?_);refine J5 ?_;refine aT ?_;refine iU ?_;(refine aF (c0 (V:=.bool) (hc:=λ w1 hw=>yO hbm hbm2 (hw.Mu h.fit (by omega)))) (λ x56=>?_);try (refine aB (λ h56=>?_)));refine As ?_)
         all_goals (first|refine aG ?_|(refine aC ?_;refine aE ?_)|(refine dG 58 (λ g58=>?_) (λ g58=>?_)<;>(first|refine aG ?_|(refine aC ?_;refine aE ?_))))
         all_goals (refine Ax ?_;refine xV ?_;refine aA ?_)
         all_goals (first|refine aG ?_|(refine aC ?_;refine aA ?_)|(refine dG 65 (λ g65=>?_) (λ g65=>?_)<;>(first|refine aG ?_|(refine aC ?_;refine aA ?_))))
         all_goals (refine J6 ?_;((first|refine aG ?_|(refine aC ?_;(refine aF (c0 (V:=.bool) (hc:=λ w1 hw=>by rw[(hw.Mu h.fit (k:=y.1) (by omega)).brN];exact Dk (hw.Mu h.fit (by omega)).br (hw.Mu h.fit (by omega)).brS)) (λ x69=>?_);try (refine aB (λ h69=>?_))))));refine Ju ?_;refine aA ?_)
         all_goals (first|refine aG ?_|(refine aC ?_;refine aA ?_)|(refine dG 72 (λ g72=>?_) (λ g72=>?_)<;>(first|refine aG ?_|(refine aC ?_;refine aA ?_))))
         all_goals (refine J6 ?_;refine J6 ?_;refine J6 ?_;(first|refine aG ?_|(refine aC ?_;refine fA (λ x80=>?_)));((first|refine aG ?_|(refine aC ?_;(refine aF (c0 (V:=.bool) (hc:=λ w1 hw=>Dk (xs:=[(L.getD y.1 aQ.zero).nd.cE,(L.getD y.1 aQ.zero).nd.exp,(L.getD y.1 aQ.zero).nd.new]) (hw.cl (.new .head)) (by simp only[List.length_cons,List.length_nil];decide))) (λ x81=>?_);try (refine aB (λ h81=>?_))))));refine Ju ?_;refine aN ?_)
         all_goals
          refine bF (λ c83=>?_) (λ c83=>?_)
          · try exact nv c83
            all_goals refine dH ?_
            all_goals
             refine aR Tryz.results59 (λ w hw=>?_)
             refine⟨false,rfl,⟨(λ h=>nomatch h),λ hp=>?_⟩,hw.done⟩
             obtain⟨q1,q2,q3,q4,q5,q6⟩:=hp.nodes y.1 (by omega)
             first|(exfalso;omega)|(have:=h56.2 q1;simp_all;done)|(have:=h69.2 q3;simp_all;done)|(have:=h81.2 (λ i hi=>by simp only[List.length_cons,List.length_nil] at hi;rcases(show i=0∨i=1∨i=2 by omega) with rfl|rfl|rfl;exact q4;exact q5;exact q6);simp_all;done)
          · try exact nv c83
            all_goals
             have hrr:=h81.1 c83
             have hok:kG gen L.length (L.getD y.1 aQ.zero):=⟨h56.1 g58,by omega,h69.1 g72,hrr 0 (by simp),hrr 1 (by simp),hrr 2 (by simp)⟩
            all_goals (refine iW ?_;refine gR ?_;(refine aF (cV (hc:=λ w1 hw=>ae (L.getD y.1 aQ.zero).nd w1)) (λ x86=>?_);try (refine aB (λ h86=>?_)));refine kD ?_)
            all_goals
             refine bF (λ c87=>?_) (λ c87=>?_)
             · try exact nv c87
               all_goals
                have hmk:fB (some y.2) (L.getD y.1 aQ.zero).nd=some y.2:=by
                 have e:dR (L.getD y.1 aQ.zero).nd=none:=by cases hq:dR (L.getD y.1 aQ.zero).nd<;>simp_all
                 simp only[fB,e]
               all_goals (refine bQ rfl ?_;refine uH ?_)
               all_goals
                refine gY ((y.1+1,(fB (some y.2) (L.getD y.1 aQ.zero).nd).getD y.2)) ?_ (hw1:=λ w hw=>by rw[hmk];first|exact hw.back (hO:=by exact List.Sublist.refl _)|(rw[hs] at hw;exact hw.back (hO:=by exact List.Sublist.refl _)))
                · refine⟨by omega,by rw[mL (by omega),hx.2.1,hmk];rfl,λ i hi=>?_⟩
                  rcases Nat.lt_succ_iff_lt_or_eq.1 hi with h|rfl
                  · exact hx.2.2 i h
                  · exact hok
             · try exact nv c87
               all_goals
                obtain⟨c,hc⟩:∃c,dR (L.getD y.1 aQ.zero).nd=some c:=Option.isSome_iff_exists.1 c87
                have hs:=jc hok.1 ⟨⟨bm,hbm,hbm2⟩,hr1,hr2,hr3⟩ hc
               all_goals (refine aZ ?_;refine iU ?_;(refine aF (cV (hc:=λ w1 hw=>Vh (L.getD y.1 aQ.zero).nd w1)) (λ x89=>?_);try (refine aB (λ h89=>?_)));refine iI ?_;refine J2 ?_;refine Am ?_)
               all_goals (first|refine aG ?_|(refine aC ?_;refine aA ?_)|(refine dG 92 (λ g92=>?_) (λ g92=>?_)<;>(first|refine aG ?_|(refine aC ?_;refine aA ?_))))
               all_goals (refine Li ?_;refine xV ?_;refine aA ?_)
               all_goals (first|refine aG ?_|(refine aC ?_;refine aA ?_)|(refine dG 99 (λ g99=>?_) (λ g99=>?_)<;>(first|refine aG ?_|(refine aC ?_;refine aA ?_))))
               all_goals ((first|refine aG ?_|(refine aC ?_;refine aA ?_));(first|refine aG ?_|(refine aC ?_;refine aH (K0 rf rf (by omega) (by omega)) rfl ?_));(first|refine aG ?_|(refine aC ?_;refine aH (kT rf rf fG bU fin (by omega) (by omega)) rfl ?_));(first|refine aG ?_|(refine aC ?_;refine aH (vS rf bU fin (by omega)) rfl ?_));refine cH ?_;refine aN ?_)
               all_goals
                refine bF (λ c105=>?_) (λ c105=>?_)
                · try exact nv c105
                  all_goals refine dH ?_
                  all_goals
                   refine aR Tryz.results59 (λ w hw=>?_)
                   refine⟨false,rfl,⟨(λ h=>nomatch h),λ hp=>?_⟩,hw.done⟩
                   have hm:marks cs.length (L.take (y.1+1))=none:=by
                    rw[mL (by omega),hx.2.1]
                    simp only[fB,hc]
                    refine if_neg λ hh=>?_
                    obtain⟨q1,q2,q3⟩:=hh
                    first|(exfalso;omega)|(exfalso;rw[hs,q3] at c105;cases c105)
                   exact absurd (Ef hm) hp.marks
                · try exact nv c105
                  all_goals
                   rw[hs] at c105 g92 g99
                   have hmk:fB (some y.2) (L.getD y.1 aQ.zero).nd=some (y.2.set (c-1).toNat true):=by
                    simp only[fB,hc]
                    rw[if_pos ⟨by omega,by omega,c105⟩]
                  all_goals (refine aZ ?_;refine Fk ?_;refine aH (K0 rf rf (by omega) (by omega)) rfl ?_;refine aH (kT rf rf fG bU fin (by omega) (by omega)) rfl ?_;refine J5 ?_;refine eV ?_;refine uH ?_)
                  all_goals
                   refine gY ((y.1+1,(fB (some y.2) (L.getD y.1 aQ.zero).nd).getD y.2)) ?_ (hw1:=λ w hw=>by rw[hmk];first|exact hw.back (hO:=by exact List.Sublist.refl _)|(rw[hs] at hw;exact hw.back (hO:=by exact List.Sublist.refl _)))
                   · refine⟨by omega,by rw[mL (by omega),hx.2.1,hmk];rfl,λ i hi=>?_⟩
                     rcases Nat.lt_succ_iff_lt_or_eq.1 hi with h|rfl
                     · exact hx.2.2 i h
                     · exact hok
       · try exact nv c47
         all_goals (refine bQ rfl ?_;refine dH ?_)
         all_goals
          refine aR Tryz.results59 (λ w hw=>?_)
          have hy:y.1=L.length:=by omega
          have hmm:marks cs.length L=some y.2:=by have:=hx.2.1;rwa [hy,List.take_length] at this
          exact⟨true,rfl,⟨λ _=>⟨by omega,by omega,by omega,by omega,h38.1 (by simp_all),λ i hi=>hx.2.2 i (by omega),by rw[hmm];exact λ h=>nomatch h⟩,λ _=>rfl⟩,hw.done⟩
end

/- Places of a trie: the same I-nodes and pairs as the views'. -/
end Go.Proofs.YtpobgmdalcpomaaGreat
namespace Go.Ct
section
def qi(o:Option (List Pl×List Pr))(s:List Int)(v:Option (List Int))(c:List Pr):Prop:=match v with
 | none=>o=none
 | some l=>∃q,o=some q/\l=s++q.1.map Pl.i/\q.2=c
theorem K3{N:List Nv}{f:Int->List Int->List Int->Option (List Pl×List Pr)}{g:Int->List Int->Option (List Int)}{h:Int->List Pr}(hf:∀b w s,qi (f b w s) s (g b s) (h b)) :
  ∀(xs way idx:List Int) (j:Nat) (s:List Int),qi (B8 N f way idx xs j s) s (kE N g xs s) (lN N h xs)
 | [],_,_,_,s=>⟨([],[]),rfl,by simp,rfl⟩
 | b::r,way,idx,j,s=>by
  by_cases h4:(cG N b).kind=4
  ·have ih:=K3 (N:=N) hf r way idx (j+1) s
   simp only[B8,kE,lN,if_pos h4]
   cases hv:kE N g r s with
   | none=>rw[hv] at ih;unfold qi at ih ⊢;simp only at ih ⊢;rw[ih];rfl
   | some l =>
    rw[hv] at ih
    obtain⟨q,e1,e2,e3⟩:=ih
    exact⟨(q.1,((cG N b).key,(cG N b).val)::q.2),by rw[e1];rfl,e2,by rw[<- e3];rfl⟩
  by_cases h2:(cG N b).kind=2
  ·have hb:=hf b (way++[idx.getD j 0]) s
   simp only[B8,kE,lN,if_neg h4,if_pos h2]
   cases hg:g b s with
   | none=>rw[hg] at hb;unfold qi at hb ⊢;simp only[Option.bind_none] at hb ⊢;rw[hb];rfl
   | some l =>
    rw[hg] at hb
    obtain⟨p,e1,e2,e3⟩:=hb
    subst e2
    have ih:=K3 (N:=N) hf r way idx (j+1) (s++p.1.map Pl.i)
    simp only[Option.bind_some]
    rw[e1,Option.bind_some]
    cases hv:kE N g r (s++p.1.map Pl.i) with
    | none=>rw[hv] at ih;unfold qi at ih ⊢;simp only at ih ⊢;rw[ih];rfl
    | some l =>
     rw[hv] at ih
     obtain⟨q,f1,f2,f3⟩:=ih
     exact⟨(p.1++q.1,p.2++q.2),by rw[f1];rfl,by rw[f2];simp,by rw[<- f3,<- e3]⟩
  ·simp only[B8,kE,if_neg h4,if_neg h2]
   rfl
theorem S2{N:List Nv}{cs:List Int}(hP:∀m,(cG N m).kind=5∨(cG N m).kind=6->(cG N m).xs=[]) :
  ∀(n:Nat) (a:Int) (lv:Nat) (i:Int) (way s:List Int),qi (By N cs n a lv i way s) s (zY N cs n i s) (yW N cs n i)
 | 0,_,_,_,_,_=>rfl
 | n+1,a,lv,i,way,s=>by
  by_cases hi:i∈s
  ·rw[Nw hi]
   unfold zY
   rw[if_pos hi]
   rfl
  cases hb:eR N cs i with
  | none =>
   rw[N0 (by rw[hb];rfl)]
   unfold zY
   rw[if_neg hi,hb]
   rfl
  | some m =>
   have hc:yW N cs (n+1) i=rR (cG N m)++lN N (yW N cs n) (cG N m).xs:=by simp only[yW,hb]
   rw[hc]
   unfold zY
   rw[if_neg hi,hb,Option.bind_some]
   by_cases h5:(cG N m).kind=5∨(cG N m).kind=6
   ·rw[Jr hi hb h5,hP m h5]
    exact⟨_,rfl,rfl,(List.append_nil _).symm⟩
   ·rw[ns hi hb h5]
    have ho:rR (cG N m)=[]:=by
     unfold rR
     rw[if_neg (λ e=>h5 (.inl e)),if_neg (λ e=>h5 (.inr e))]
    rw[ho,List.nil_append]
    have:=K3 (N:=N) (f:=λ b w s=>By N cs n i (lv+1) b w s) (g:=zY N cs n) (h:=yW N cs n) (λ b w s=>S2 hP n i (lv+1) b w s) (cG N m).xs way (pJ (cG N m).bm.toNat 64) 0 (s++[i])
    cases hv:kE N (zY N cs n) (cG N m).xs (s++[i]) with
    | none=>rw[hv] at this;unfold qi at this ⊢;simp only at this ⊢;rw[this];rfl
    | some l =>
     rw[hv] at this
     obtain⟨q,e1,e2,e3⟩:=this
     exact⟨(⟨i,m,a,lv,way⟩::q.1,q.2),by rw[e1];rfl,by rw[e2];simp,e3⟩
theorem G9{α:Type}:∀(l m:List α),l.Nodup->(∀a∈l,a∈m)->l.length<=m.length
 | [],_,_,_=>Nat.zero_le _
 | a::l,m,hn,hs=>by
  classical
  have hn:=List.nodup_cons.1 hn
  have ha:=hs a (List.mem_cons_self ..)
  have:=G9 l (m.erase a) hn.2 λ b hb=>by
   have h1:=hs b (List.mem_cons_of_mem _ hb)
   exact(List.mem_erase_of_ne (λ(e:b=a)=>hn.1 (e▸hb))).2 h1
  have h2:=List.length_erase_of_mem ha
  have h3:=List.length_pos_of_mem ha
  rw[List.length_cons]
  omega
theorem Q5{N:List Nv}{f:Int->List Int->List Int->Option (List Pl×List Pr)}{P:Int->Prop}(hf:∀b w s q,f b w s=some q->s.Nodup->(s++q.1.map Pl.i).Nodup/\∀j∈q.1.map Pl.i,P j) :
  ∀(xs way idx:List Int) (j:Nat) (s:List Int) (q:List Pl×List Pr),B8 N f way idx xs j s=some q->s.Nodup->(s++q.1.map Pl.i).Nodup/\∀k∈q.1.map Pl.i,P k
 | [],_,_,_,s,q,h,hs=>by cases h;exact⟨by simpa using hs,λ k hk=>nomatch hk⟩
 | b::r,way,idx,j,s,q,h,hs=>by
  unfold B8 at h
  split at h
  ·obtain⟨p,hp,rfl⟩:=Option.map_eq_some_iff.1 h
   exact Q5 hf r way idx (j+1) s p hp hs
  split at h
  ·obtain⟨p,hp,h⟩:=Option.bind_eq_some_iff.1 h
   obtain⟨t,ht,rfl⟩:=Option.map_eq_some_iff.1 h
   obtain⟨h1,h2⟩:=hf _ _ _ _ hp hs
   obtain⟨h3,h4⟩:=Q5 hf r way idx (j+1) _ t ht h1
   refine⟨by rw[List.map_append,<- List.append_assoc];exact h3,λ k hk=>?_⟩
   rw[List.map_append] at hk
   exact(List.mem_append.1 hk).elim (h2 k) (h4 k)
  ·cases h
theorem Zj{N:List Nv}{cs:List Int}:∀(n:Nat) (a:Int) (lv:Nat) (i:Int) (way s:List Int) (q:List Pl×List Pr),By N cs n a lv i way s=some q->s.Nodup->(s++q.1.map Pl.i).Nodup/\∀j∈q.1.map Pl.i,1<=j/\j<=N.length
 | 0,_,_,_,_,_,_,h,_=>nomatch h
 | n+1,a,lv,i,way,s,q,h,hs=>by
  unfold By at h
  split at h
  ·cases h
  rename_i hi
  obtain⟨m,hm,h⟩:=Option.bind_eq_some_iff.1 h
  have hk:=eS (N:=N) (i:=i) (by rw[(rD hm).1];decide)
  have hs2:(s++[i]).Nodup:=List.nodup_append.2 ⟨hs,by simp,λ x hx y hy=>by rw[List.mem_singleton.1 hy];intro e;exact hi (e▸hx)⟩
  split at h
  ·cases h
   exact⟨hs2,λ j hj=>by rw[List.mem_singleton.1 hj];exact hk⟩
  ·obtain⟨t,ht,rfl⟩:=Option.map_eq_some_iff.1 h
   obtain⟨h1,h2⟩:=Q5 (λ b w s q=>Zj n i (lv+1) b w s q) _ _ _ _ _ _ ht hs2
   refine⟨by rw[List.append_assoc] at h1;exact h1,λ j hj=>?_⟩
   rcases List.mem_cons.1 hj with rfl|hj
   ·exact hk
   ·exact h2 j hj
theorem Ut{N:List Nv}{cs:List Int}{n lv:Nat}{a i:Int}{way:List Int}{q:List Pl×List Pr}(h:By N cs n a lv i way []=some q):q.1.length<=N.length:=by
 obtain⟨h1,h2⟩:=Zj n a lv i way [] q h List.nodup_nil
 have:=G9 (q.1.map Pl.i) ((List.range N.length).map λ k=>((k+1:Nat):Int)) h1 λ j hj=>by
  have:=h2 j hj
  exact List.mem_map.2 ⟨(j-1).toNat,List.mem_range.2 (by omega),by omega⟩
 simpa using this
theorem Kv{N:List Nv}{C:Nat}{f:Int->List Int->List Int->Option (List Pl×List Pr)}(hf:∀b w s q,f b w s=some q->q.2.length<=q.1.length*C) :
  ∀(xs way idx:List Int) (j:Nat) (s:List Int) (q:List Pl×List Pr),B8 N f way idx xs j s=some q->q.2.length<=q.1.length*C+xs.length
 | [],_,_,_,s,q,h=>by cases h;exact Nat.zero_le _
 | b::r,way,idx,j,s,q,h=>by
  unfold B8 at h
  split at h
  ·obtain⟨p,hp,rfl⟩:=Option.map_eq_some_iff.1 h
   have:=Kv hf r way idx (j+1) s p hp
   simp only[List.length_cons]
   omega
  split at h
  ·obtain⟨p,hp,h⟩:=Option.bind_eq_some_iff.1 h
   obtain⟨t,ht,rfl⟩:=Option.map_eq_some_iff.1 h
   have h1:=hf _ _ _ _ hp
   have h2:=Kv hf r way idx (j+1) _ t ht
   simp only[List.length_append,List.length_cons,Nat.add_mul]
   omega
  ·cases h
theorem S3{N:List Nv}{cs:List Int}{B:Nat}(hN:∀m,(cG N m).ys.length<=B/\(cG N m).xs.length<=64):∀(n:Nat) (a:Int) (lv:Nat) (i:Int) (way s:List Int) (q:List Pl×List Pr),By N cs n a lv i way s=some q->q.2.length<=q.1.length*(B+64)
 | 0,_,_,_,_,_,_,h=>nomatch h
 | n+1,a,lv,i,way,s,q,h=>by
  unfold By at h
  split at h
  ·cases h
  obtain⟨m,hm,h⟩:=Option.bind_eq_some_iff.1 h
  have h1:=(hN m).1
  have h2:=(hN m).2
  split at h
  ·cases h
   have:(rR (cG N m)).length<=B+1:=by
    unfold rR
    split
    ·simp
    split
    ·omega
    ·simp
   simp only[List.length_cons,List.length_nil]
   omega
  ·obtain⟨t,ht,rfl⟩:=Option.map_eq_some_iff.1 h
   have:=Kv (λ b w s q=>S3 hN n i (lv+1) b w s q) _ _ _ _ _ _ ht
   simp only[List.length_cons,Nat.add_mul] at this ⊢
   omega
end

end Go.Ct

/- Proper states: the walk through the reference's check. -/
import Derived.Test.YtadnboagdhcedaaGreatDoorGBits
import Derived.Test.YtadnboagdhcedaaGreatDoorGPaX
set_option linter.unusedSimpArgs false
set_option linter.unusedVariables false
namespace Go.Ct
theorem Fa{n:Nd}:(gD n).isSome=true↔n.kind=2∨n.kind=3∨n.kind=5∨n.kind=6∨n.kind=8:=by
 unfold gD
 split
 ·simp_all
 ·split
  ·simp_all;omega
  ·split
   ·simp_all
   ·simp_all
def yc(n:Nd):Int:=Go.IntKind.i64.wrap (Go.IntKind.i64.wrap (n.main+n.prev)+n.status)
theorem rm{n:Nd}{xs:List Int}{ys:List Pr}(h:cK n xs ys)(hr:NdR n){c:Int}(hc:gD n=some c):yc n=c:=by
 obtain⟨e,h1,h2,h3,_⟩:=h
 have e':=wA.1 e
 obtain⟨_,m1,m2,m3⟩:=hr
 simp only[Nd.c,Nv.mk.injEq] at e'
 obtain⟨_,_,em,_,_,_,_,_,_,ep,_,_,_,es⟩:=e'
 unfold gD at hc
 unfold yc
 split at hc
 ·rename_i hk
  simp only[Option.some.injEq] at hc
  have a:n.prev=0:=by rw[ep];simp[Nd.own,hk,Nd.zero]
  have b:n.status=0:=by rw[es];simp[Nd.own,hk,Nd.zero]
  rw[wrap_i64 (i:=n.main+n.prev) (by omega) (by omega),wrap_i64 (by omega) (by omega)]
  omega
 ·split at hc
  ·rename_i hk
   simp only[Option.some.injEq] at hc
   have a:n.main=0:=by rw[em];rcases hk with hk|hk|hk<;>simp[Nd.own,hk,Nd.zero]
   have b:n.status=0:=by rw[es];rcases hk with hk|hk|hk<;>simp[Nd.own,hk,Nd.zero]
   rw[wrap_i64 (i:=n.main+n.prev) (by omega) (by omega),wrap_i64 (by omega) (by omega)]
   omega
  ·split at hc
   ·rename_i hk
    simp only[Option.some.injEq] at hc
    have a:n.main=0:=by rw[em];simp[Nd.own,hk,Nd.zero]
    have b:n.prev=0:=by rw[ep];simp[Nd.own,hk,Nd.zero]
    rw[wrap_i64 (i:=n.main+n.prev) (by omega) (by omega),wrap_i64 (by omega) (by omega)]
    omega
   ·cases hc
end Go.Ct
namespace Go.Proofs.YtadnboagdhcedaaGreatDoor
open Go.RowKit Go.Ct
theorem Ib{xs:List Int}{N c:Nat}{a:Option Addr}{w:World}(ha:Cl w a (aH xs))(hx:xs.length<4611686018427387904) :
  Calls Tryz.prog 101 #[.int .i64 ((N:Nat):Int),.slice a xs.length c] w λ e w'=>∃r:Bool,e=.returned (.bool r)/\(r=true↔∀i,i<xs.length->Eg (xs.getD i 0) N)/\St w [] [] w':=by
 refine enter Tryz.func101 Tryz.ntmps101 rfl rfl (SF.s1 ha) ?_
 simp only[cP]
 refine Ke3 ?_
 refine fK [4,5,6,7,8,9,10,11,12,13,14,15,16,17,18,19,20,21,22,23,24] (λ k=>[(5,.int .i64 ((k:Nat):Int))]) (λ k=>k<=xs.length/\∀i,i<k->Eg (xs.getD i 0) N) (λ k=>xs.length-k) (0) (⟨Nat.zero_le _,λ i hi=>absurd hi (Nat.not_lt_zero i)⟩) ?_ (λ k f hx=>?_)
 ·repeat (first|exact bC _|refine aY (by exact rfl) ?_)
 dsimp only[gC,List.map,List.cons_append,List.nil_append]
 refine Kd7 ?_
 refine bA (λ c9=>?_) (λ c9=>?_)
 ·refine mZ ?_;refine jJ ?_;refine Pb ?_;refine zB ?_
  (refine eM 17 (λ g17=>?_) (λ g17=>?_)<;>refine Ka0 ?_)
  all_goals (refine Ka0 ?_;(first|refine aJ ?_|(refine aF ?_;refine eA ?_));refine Zv ?_;refine Kb2 ?_)
  all_goals
  refine bA (λ c24=>?_) (λ c24=>?_)
  ·all_goals refine cR ?_
   all_goals
    refine aR Tryz.results101 (λ w hw=>?_)
    exact⟨false,rfl,⟨(λ h=>nomatch h),λ h=>by have h1:=h k (by omega);obtain⟨h2,h3⟩:=h1;exfalso;omega⟩,hw.done⟩
  ·try exact nv c24
   all_goals (refine Kc1 ?_)
   all_goals
    refine dW (k+1) ?_ ?_ ?_
    ·omega
    ·repeat' (first|exact bC _|refine aY ?_ ?_)
     exact rfl
    ·exact⟨by omega,λ i hi=>by rcases Nat.lt_succ_iff_lt_or_eq.1 hi with h|rfl;exact hx.2 i h;exact⟨by omega,by omega⟩⟩
 ·refine bM rfl ?_;refine cR ?_
  refine aR Tryz.results101 (λ w hw=>?_)
  exact⟨true,rfl,⟨λ _ i hi=>hx.2 i (by omega),λ _=>rfl⟩,hw.done⟩
theorem aa(n:Nd)(w:World):Calls Tryz.prog 103 #[.int .i64 n.kind] w λ e w'=>e=.returned (.bool (gD n).isSome)/\St w [] [] w':=by
 refine enter Tryz.func103 Tryz.ntmps103 rfl rfl (SF.s0 w) ?_
 simp only[cP]
 refine cR ?_;refine J2 ?_;refine lC ?_;refine aB ?_
 (refine eM 5 (λ g5=>?_) (λ g5=>?_)<;>refine Ka0 ?_)
 all_goals (refine Kc8 ?_)
 all_goals (first|refine aJ ?_|(refine eM 9 (λ g9=>?_) (λ g9=>?_)<;>refine Ka0 ?_))
 all_goals (refine Kc8 ?_)
 all_goals (first|refine aJ ?_|(refine eM 13 (λ g13=>?_) (λ g13=>?_)<;>refine Ka0 ?_))
 all_goals (refine Kc8 ?_)
 all_goals (first|refine aJ ?_|(refine eM 17 (λ g17=>?_) (λ g17=>?_)<;>refine Ka0 ?_))
 all_goals (refine zC ?_;refine J1 ?_)
 all_goals
 refine aR Tryz.results103 (λ w hw=>?_)
 refine⟨?_,hw.done⟩
 first|(rw[Fa.2 (by omega)];rfl)|(rw[show(gD n).isSome=(n.kind==8) from by rw[Bool.eq_iff_iff,beq_iff_eq,Fa];omega];rfl)
theorem Y5(n:Nd)(w:World):Calls Tryz.prog 104 #[n.v] w λ e w'=>e=.returned (.int .i64 (yc n))/\St w [] [] w':=by
 refine enter Tryz.func104 Tryz.ntmps104 rfl rfl (SF.s0 w) ?_
 simp only[cP]
 simp only[Nd.v,Nd.cells]
 refine J0 ?_;refine bF (λ x1=>?_);refine J1 ?_;refine gH ?_;refine J3 ?_;refine aE (sO rf rf) rfl ?_;refine J3 ?_;refine aE (sO rf rf) rfl ?_;refine J1 ?_
 refine aR Tryz.results104 (λ w hw=>?_)
 exact⟨rfl,hw.done⟩
set_option maxRecDepth 100000 in
theorem Pp{L:List aI}{cs:List Int}{gen:Int}{pn pc:Option Addr}{cn cc:Nat}{w:World}(h:eP w L cs pn pc)(hR:iG L)(hL:L.length<=274877906944)(hC:cs.length<=274877906944) :
    Calls Tryz.prog 75 #[.agg ⟨[.slice pn L.length cn,.slice pc cs.length cc,.int .i64 gen]⟩] w λ e w'=>∃r:Bool,e=.returned (.bool r)/\(r=true↔cO L cs gen)/\St w [] [] w':=by
  refine enter Tryz.func75 Tryz.ntmps75 rfl rfl h.start ?_
  simp only[cP]
  refine J0 ?_;refine bF (λ x1=>?_);refine J1 ?_;refine gH ?_;refine dE ?_;refine Ke4 ?_;refine zB ?_
  (refine eM 13 (λ g13=>?_) (λ g13=>?_)<;>refine Ka1 ?_)
  all_goals (refine Ka2 ?_;(first|refine aJ ?_|(refine aF ?_;refine aE (iC (k:=0) rf rf eC dR fin (by omega) (by omega)) rfl ?_));refine Ka1 ?_;(first|refine aJ ?_|(refine aF ?_;refine aE (wQ (q:=0) rf dC fin (by omega)) rfl ?_));refine Rq ?_;refine aB ?_)
  all_goals (first|refine aJ ?_|(refine eM 21 (λ g21=>?_) (λ g21=>?_)<;>refine Ka1 ?_))
  all_goals (refine Ka2 ?_;(first|refine aJ ?_|(refine aF ?_;refine aE (iC (k:=1) rf rf eC dR fin (by omega) (by omega)) rfl ?_));refine Ka1 ?_;(first|refine aJ ?_|(refine aF ?_;refine aE (wQ (q:=1) rf dC fin (by omega)) rfl ?_));refine Rq ?_;refine aB ?_)
  all_goals (first|refine aJ ?_|(refine eM 29 (λ g29=>?_) (λ g29=>?_)<;>refine Ka1 ?_))
  all_goals (refine xw ?_;refine aB ?_)
  all_goals (first|refine aJ ?_|(refine eM 34 (λ g34=>?_) (λ g34=>?_)<;>refine Ka0 ?_))
  all_goals (refine J6 ?_;(first|refine aJ ?_|(refine aF ?_;refine aD (c0 (V:=.bool) (hc:=λ w1 hw=>Ib (hw.cl (.bO (.tail .head))) (by omega))) (λ x38 h38=>?_)));refine Kd5 ?_)
  all_goals
   refine bA (λ c40=>?_) (λ c40=>?_)
   · all_goals refine cR ?_
     all_goals
      refine aR Tryz.results75 (λ w hw=>?_)
      exact⟨false,rfl,⟨(λ h=>nomatch h),λ hp=>by
       have h1:=hp.two
       have h2:=hp.gen0
       have h3:=hp.m0
       have h4:=hp.m1
       first|omega|(have h5:=h38.2 hp.cells;simp_all)⟩,hw.done⟩
   · try exact nv c40
     all_goals (refine bB ?_;refine gH ?_;refine dE ?_;refine wW (λ x44=>?_);refine gX ?_;refine zR ?_)
     all_goals
      refine kK [2,5,6,7,45,46,47,48,49,50,51,52,53,54,55,56,57,58,59,60,61,62,63,64,65,66,67,68,69,70,71,72,73,74,75,76,77,78,79,80,81,82,83,84,85,86,87,88,89,90,91,92,93,94,95,96,97,98,99,100,101,102,103,104,105,106,107,108,109] (λ y:Nat×List Bool=>[(5,.int .i64 ((y.1:Nat):Int))]) (λ y=>y.1<=L.length/\marks cs.length (L.take y.1)=some y.2/\∀i,i<y.1->kI gen L.length (L.getD i aI.zero)) (λ _=>_) (λ _=>_) (λ y=>[⟨some ⟨x44,0,none⟩,iV y.2,cs.length,4,1⟩]) (λ y=>L.length-y.1) ((0,List.replicate cs.length false)) (⟨Nat.zero_le _,rfl,λ i hi=>absurd hi (Nat.not_lt_zero i)⟩) (λ y f hx=>?_)
      dsimp only[gC,List.map,List.cons_append,List.nil_append]
      have hu:=yN hx.2.1
      refine B8 ?_;refine rJ ?_
      refine bA (λ c47=>?_) (λ c47=>?_)
      · obtain⟨⟨bm,hbm,hbm2⟩,hr1,hr2,hr3⟩:=hR _ (eE (L:=L) (k:=y.1) (by omega))
        refine mZ ?_;refine Ka9 ?_;refine Pb ?_;refine aT (λ x6=>?_);refine J5 ?_;refine aV ?_;refine iH ?_;refine aD (c0 (V:=.bool) (hc:=λ w1 hw=>Af hbm hbm2 (hw.Ov h.fit (by omega)))) (λ x56 h56=>?_);refine C6 ?_
        (refine eM 58 (λ g58=>?_) (λ g58=>?_)<;>refine Ka1 ?_)
        all_goals (refine Ao ?_;refine Aj ?_;refine aB ?_)
        all_goals (first|refine aJ ?_|(refine eM 65 (λ g65=>?_) (λ g65=>?_)<;>refine Ka0 ?_))
        all_goals (refine J6 ?_;(first|refine aJ ?_|(refine aF ?_;refine aD (c0 (V:=.bool) (hc:=λ w1 hw=>by rw[(hw.Ov h.fit (k:=y.1) (by omega)).brN];exact Ib (hw.Ov h.fit (by omega)).br (hw.Ov h.fit (by omega)).brS)) (λ x69 h69=>?_)));refine Nq ?_;refine aB ?_)
        all_goals (first|refine aJ ?_|(refine eM 72 (λ g72=>?_) (λ g72=>?_)<;>refine Ka0 ?_))
        all_goals (refine J6 ?_;refine J6 ?_;refine J6 ?_;(first|refine aJ ?_|(refine aF ?_;refine fD (λ x80=>?_)));(first|refine aJ ?_|(refine aF ?_;refine aD (c0 (V:=.bool) (hc:=λ w1 hw=>Ib (xs:=[(L.getD y.1 aI.zero).nd.bO,(L.getD y.1 aI.zero).nd.exp,(L.getD y.1 aI.zero).nd.new]) (hw.cl (.new .head)) (by simp only[List.length_cons,List.length_nil];decide))) (λ x81 h81=>?_)));refine Kd5 ?_)
        all_goals
         refine bA (λ c83=>?_) (λ c83=>?_)
         · all_goals refine cR ?_
           all_goals
            refine aR Tryz.results75 (λ w hw=>?_)
            refine⟨false,rfl,⟨(λ h=>nomatch h),λ hp=>?_⟩,hw.done⟩
            obtain⟨q1,q2,q3,q4,q5,q6⟩:=hp.nodes y.1 (by omega)
            first|(exfalso;omega)|(have:=h56.2 q1;simp_all;done)|(have:=h81.2 (λ i hi=>by simp only[List.length_cons,List.length_nil] at hi;rcases(show i=0∨i=1∨i=2 by omega) with rfl|rfl|rfl;exact q4;exact q5;exact q6);simp_all;done)
         · try exact nv c83
           all_goals
            have hrr:=h81.1 c83
            have hok:kI gen L.length (L.getD y.1 aI.zero):=⟨h56.1 g58,by omega,h69.1 g72,hrr 0 (by simp),hrr 1 (by simp),hrr 2 (by simp)⟩
           all_goals (refine jH ?_;refine gH ?_;refine aS (cV (hc:=λ w1 hw=>aa (L.getD y.1 aI.zero).nd w1)) (λ x86=>?_);refine lA ?_)
           all_goals
            refine bA (λ c87=>?_) (λ c87=>?_)
            · have hmk:eZ (some y.2) (L.getD y.1 aI.zero).nd=some y.2:=by
               have e:gD (L.getD y.1 aI.zero).nd=none:=by cases hq:gD (L.getD y.1 aI.zero).nd<;>simp_all
               simp only[eZ,e]
              refine bM rfl ?_;refine sK ?_
              refine gT ((y.1+1,(eZ (some y.2) (L.getD y.1 aI.zero).nd).getD y.2)) ?_ (hw1:=λ w hw=>by rw[hmk];exact hw.back (hO:=by exact List.Sublist.refl _))
              · refine⟨by omega,by rw[lU (by omega),hx.2.1,hmk];rfl,λ i hi=>?_⟩
                rcases Nat.lt_succ_iff_lt_or_eq.1 hi with h|rfl
                · exact hx.2.2 i h
                · exact hok
            · obtain⟨c,hc⟩:∃c,gD (L.getD y.1 aI.zero).nd=some c:=Option.isSome_iff_exists.1 c87
              have hs:=rm hok.1 ⟨⟨bm,hbm,hbm2⟩,hr1,hr2,hr3⟩ hc
              refine bB ?_;refine iH ?_;refine aS (cV (hc:=λ w1 hw=>Y5 (L.getD y.1 aI.zero).nd w1)) (λ x89=>?_);refine Ke4 ?_;refine zB ?_
              (refine eM 92 (λ g92=>?_) (λ g92=>?_)<;>refine Ka0 ?_)
              all_goals (refine Ny ?_;refine Aj ?_;refine aB ?_)
              all_goals (first|refine aJ ?_|(refine eM 99 (λ g99=>?_) (λ g99=>?_)<;>refine Ka0 ?_))
              all_goals (refine Ka0 ?_;(first|refine aJ ?_|(refine aF ?_;refine aE (Ls rf rf (by omega) (by omega)) rfl ?_));(first|refine aJ ?_|(refine aF ?_;refine aE (lE rf rf eC dC fin (by omega) (by omega)) rfl ?_));(first|refine aJ ?_|(refine aF ?_;refine aE (yC rf dC fin (by omega)) rfl ?_));refine cI ?_;refine aK ?_)
              all_goals
               refine bA (λ c105=>?_) (λ c105=>?_)
               · all_goals refine cR ?_
                 all_goals
                  refine aR Tryz.results75 (λ w hw=>?_)
                  refine⟨false,rfl,⟨(λ h=>nomatch h),λ hp=>?_⟩,hw.done⟩
                  have hm:marks cs.length (L.take (y.1+1))=none:=by
                   rw[lU (by omega),hx.2.1]
                   simp only[eZ,hc]
                   refine if_neg λ hh=>?_
                   obtain⟨q1,q2,q3⟩:=hh
                   first|(exfalso;omega)|(exfalso;rw[hs,q3] at c105;cases c105)
                  exact absurd (zU hm) hp.marks
               · try exact nv c105
                 all_goals
                  rw[hs] at c105 g92 g99
                  have hmk:eZ (some y.2) (L.getD y.1 aI.zero).nd=some (y.2.set (c-1).toNat true):=by
                   simp only[eZ,hc]
                   rw[if_pos ⟨by omega,by omega,c105⟩]
                 all_goals (refine bB ?_;refine Il ?_;refine aE (Ls rf rf (by omega) (by omega)) rfl ?_;refine aE (lE rf rf eC dC fin (by omega) (by omega)) rfl ?_;refine J5 ?_;refine Kc2 ?_)
                 all_goals
                  refine gT ((y.1+1,(eZ (some y.2) (L.getD y.1 aI.zero).nd).getD y.2)) ?_ (hw1:=λ w hw=>by rw[hmk];(rw[hs] at hw;exact hw.back (hO:=by exact List.Sublist.refl _)))
                  · refine⟨by omega,by rw[lU (by omega),hx.2.1,hmk];rfl,λ i hi=>?_⟩
                    rcases Nat.lt_succ_iff_lt_or_eq.1 hi with h|rfl
                    · exact hx.2.2 i h
                    · exact hok
      · refine bM rfl ?_;refine cR ?_
        refine aR Tryz.results75 (λ w hw=>?_)
        have hy:y.1=L.length:=by omega
        have hmm:marks cs.length L=some y.2:=by have:=hx.2.1;rwa [hy,List.take_length] at this
        exact⟨true,rfl,⟨λ _=>⟨by omega,by omega,by omega,by omega,h38.1 (by simp_all),λ i hi=>hx.2.2 i (by omega),by rw[hmm];exact λ h=>nomatch h⟩,λ _=>rfl⟩,hw.done⟩
end Go.Proofs.YtadnboagdhcedaaGreatDoor

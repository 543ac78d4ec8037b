/- Merged. -/
import Derived.Test.YtbajmaoegmbfgaaGreatGPa1
import Derived.Test.YtbajmaoegmbfgaaGreatGAr8
set_option linter.unusedSimpArgs false
set_option linter.unusedVariables false
namespace Go.Proofs.YtbajmaoegmbfgaaGreat
section
open Go.RowKit Go.Ct
end
section
open Go.Ct
end
end Go.Proofs.YtbajmaoegmbfgaaGreat
namespace Go.Ct
section
end
end Go.Ct
namespace Go.Proofs.YtbajmaoegmbfgaaGreat
open Go.RowKit Go.Ct
section
end
end Go.Proofs.YtbajmaoegmbfgaaGreat
namespace Go.Ct
section
theorem Im{n:Nd}:(gK n).isSome=true↔n.kind=2∨n.kind=3∨n.kind=5∨n.kind=6∨n.kind=8:=by
 unfold gK;split;·simp_all
 ·split;·simp_all;omega
  ·split;·simp_all
   ·simp_all
def aBc(n:Nd):Int:=Go.IntKind.i64.wrap (Go.IntKind.i64.wrap (n.main+n.prev)+n.status)
theorem yd{n:Nd}{xs:List Int}{ys:List Pr}(h:cK n xs ys)(hr:NdR n){c:Int}(hc:gK n=some c):aBc n=c:=by
 obtain⟨e,h1,h2,h3,_⟩:=h;have e':=rS.1 e;obtain⟨_,m1,m2,m3⟩:=hr;simp only[Nd.c,Nv.mk.injEq] at e';obtain⟨_,_,em,_,_,_,_,_,_,ep,_,_,_,es⟩:=e';unfold gK at hc;unfold aBc;split at hc
 ·rename_i hk;simp only[Option.some.injEq] at hc;have a:n.prev=0:=by rw[ep];simp[Nd.own,hk,Nd.zero]
  have b:n.status=0:=by rw[es];simp[Nd.own,hk,Nd.zero]
  rw[wrap_i64 (i:=n.main+n.prev) (by omega) (by omega),wrap_i64 (by omega) (by omega)];omega
 ·split at hc
  ·rename_i hk;simp only[Option.some.injEq] at hc;have a:n.main=0:=by rw[em];rcases hk with hk|hk|hk<;>simp[Nd.own,hk,Nd.zero]
   have b:n.status=0:=by rw[es];rcases hk with hk|hk|hk<;>simp[Nd.own,hk,Nd.zero]
   rw[wrap_i64 (i:=n.main+n.prev) (by omega) (by omega),wrap_i64 (by omega) (by omega)];omega
  ·split at hc
   ·rename_i hk;simp only[Option.some.injEq] at hc;have a:n.main=0:=by rw[em];simp[Nd.own,hk,Nd.zero]
    have b:n.prev=0:=by rw[ep];simp[Nd.own,hk,Nd.zero]
    rw[wrap_i64 (i:=n.main+n.prev) (by omega) (by omega),wrap_i64 (by omega) (by omega)];omega
   ·cases hc
end
end Go.Ct
namespace Go.Proofs.YtbajmaoegmbfgaaGreat
open Go.Proofs.Tryz
open Go.RowKit Go.Ct
section
theorem Hd{xs:List Int}{N c:Nat}{a:Option Addr}{w:World}(ha:Cl w a (aH xs))(hx:xs.length<4611686018427387904) :
  Calls prog 125 #[.int .i64 ((N:Nat):Int),.slice a xs.length c] w λ e w'=>∃r:Bool,e=.returned (.bool r)/\(r=true↔∀i,i<xs.length->Fs (xs.getD i 0) N)/\St w [] [] w':=by
 refine enter func125 ntmps125 rfl rfl (SF.s1 ha) ?_;simp only[cC];refine Je ?_;refine Fq ?_;refine gF [4,5,6,7,8,9,10,11,12,13,14,15,16,17,18,19,20,21,22,23,24] (λ k=>[(5,.int .i64 ((k:Nat):Int))]) (λ k=>k<=xs.length/\∀i,i<k->Fs (xs.getD i 0) N) (λ k=>xs.length-k) (0) (⟨Nat.zero_le _,λ i hi=>absurd hi (Nat.not_lt_zero i)⟩) ?_ (λ k f hx=>?_);·repeat (first|exact bF _|refine aX (by exact rfl) ?_)
 dsimp only[gY,List.map,List.cons_append,List.nil_append];refine D1 ?_;refine dV ?_;refine wF ?_;refine bD (λ c9=>?_) (λ c9=>?_)
 ·refine rT ?_;refine jD ?_;refine Qv ?_;refine A1 ?_;(refine eE 17 (λ g17=>?_) (λ g17=>?_)<;>refine Ka0 ?_);all_goals (refine Ka0 ?_;refine Kd4 ?_;refine Ka8 ?_)
  all_goals
  refine bD (λ c24=>?_) (λ c24=>?_)
  ·all_goals refine cU ?_
   all_goals refine aS results125 (λ w hw=>?_);exact⟨false,rfl,⟨(λ h=>nomatch h),λ h=>by have h1:=h k (by omega);obtain⟨h2,h3⟩:=h1;exfalso;omega⟩,hw.done⟩
  ·try exact nv c24
   all_goals (refine Kc3 ?_)
   all_goals
    refine eG (k+1) ?_ ?_ ?_;·omega
    ·repeat' (first|exact bF _|refine aX ?_ ?_)
     exact rfl
    ·exact⟨by omega,λ i hi=>by rcases Nat.lt_succ_iff_lt_or_eq.1 hi with h|rfl;exact hx.2 i h;exact⟨by omega,by omega⟩⟩
 ·refine bR rfl ?_;refine cU ?_;refine aS results125 (λ w hw=>?_);exact⟨true,rfl,⟨λ _ i hi=>hx.2 i (by omega),λ _=>rfl⟩,hw.done⟩
theorem qj(n:Nd)(w:World):Calls prog 127 #[.int .i64 n.kind] w λ e w'=>e=.returned (.bool (gK n).isSome)/\St w [] [] w':=by
 refine enter func127 ntmps127 rfl rfl (SF.s0 w) ?_;simp only[cC];refine Kb5 ?_;refine mJ ?_;refine aA ?_;(refine eE 5 (λ g5=>?_) (λ g5=>?_)<;>refine Ka0 ?_);all_goals (refine Kb2 ?_)
 all_goals (first|refine aI ?_|(refine eE 9 (λ g9=>?_) (λ g9=>?_)<;>refine Ka0 ?_))
 all_goals (refine Kb2 ?_)
 all_goals (first|refine aI ?_|(refine eE 13 (λ g13=>?_) (λ g13=>?_)<;>refine Ka0 ?_))
 all_goals (refine Kb2 ?_)
 all_goals (first|refine aI ?_|(refine eE 17 (λ g17=>?_) (λ g17=>?_)<;>refine Ka0 ?_))
 all_goals (refine vY ?_;refine J1 ?_)
 all_goals
 refine aS results127 (λ w hw=>?_);refine⟨?_,hw.done⟩;first|(rw[Im.2 (by omega)];rfl)|(rw[show(gK n).isSome=(n.kind==8) from by rw[Bool.eq_iff_iff,beq_iff_eq,Im];omega];rfl)
theorem Y5(n:Nd)(w:World):Calls prog 128 #[n.v] w λ e w'=>e=.returned (.int .i64 (aBc n))/\St w [] [] w':=by refine enter func128 ntmps128 rfl rfl (SF.s0 w) ?_;simp only[cC];simp only[Nd.v,Nd.cells];refine J0 ?_;refine bJ (λ x1=>?_);refine J1 ?_;refine iE ?_;refine J3 ?_;refine aC (oR rf rf) rfl ?_;refine J3 ?_;refine aC (oR rf rf) rfl ?_;refine J1 ?_;refine aS results128 (λ w hw=>?_);exact⟨rfl,hw.done⟩
set_option maxRecDepth 100000 in
theorem P7{L:List aQ}{cs:List Int}{gen:Int}{pn pc:Option Addr}{cn cc:Nat}{w:World}(h:nM w L cs pn pc)(hR:Kn L)(hL:L.length<=274877906944)(hC:cs.length<=274877906944) :
    Calls prog 82 #[.agg ⟨[.slice pn L.length cn,.slice pc cs.length cc,.int .i64 gen]⟩] w λ e w'=>∃r:Bool,e=.returned (.bool r)/\(r=true↔fS L cs gen)/\St w [] [] w':=by
     refine enter func82 ntmps82 rfl rfl h.start ?_;simp only[cC];refine J0 ?_;refine bJ (λ x1=>?_);refine J1 ?_;refine iE ?_;refine dV ?_;refine Kd9 ?_;refine A1 ?_;(refine eE 13 (λ g13=>?_) (λ g13=>?_)<;>refine Ka1 ?_);all_goals (refine Ka2 ?_;(first|refine aI ?_|(refine aF ?_;refine aC (tB (k:=0) rf rf gS eD fin (by omega) (by omega)) rfl ?_));refine Ka1 ?_;(first|refine aI ?_|(refine aF ?_;refine aC (wE (q:=0) rf fW fin (by omega)) rfl ?_));refine Q3 ?_;refine aA ?_)
     all_goals (first|refine aI ?_|(refine eE 21 (λ g21=>?_) (λ g21=>?_)<;>refine Ka1 ?_))
     all_goals (refine Ka2 ?_;(first|refine aI ?_|(refine aF ?_;refine aC (tB (k:=1) rf rf gS eD fin (by omega) (by omega)) rfl ?_));refine Ka1 ?_;(first|refine aI ?_|(refine aF ?_;refine aC (wE (q:=1) rf fW fin (by omega)) rfl ?_));refine Q3 ?_;refine aA ?_)
     all_goals (first|refine aI ?_|(refine eE 29 (λ g29=>?_) (λ g29=>?_)<;>refine Ka1 ?_))
     all_goals (refine J89 ?_;refine aA ?_)
     all_goals (first|refine aI ?_|(refine eE 34 (λ g34=>?_) (λ g34=>?_)<;>refine Ka0 ?_))
     all_goals (refine J6 ?_;(first|refine aI ?_|(refine aF ?_;refine aD (c0 (V:=.bool) (hc:=λ w1 hw=>Hd (hw.cl (.bS (.tail .head))) (by omega))) (λ x38 h38=>?_)));refine Kc2 ?_)
     all_goals
      refine bD (λ c40=>?_) (λ c40=>?_)
      ·all_goals refine cU ?_
       all_goals refine aS results82 (λ w hw=>?_);exact⟨false,rfl,⟨(λ h=>nomatch h),λ hp=>by have h1:=hp.two;have h2:=hp.gen0;have h3:=hp.m0;have h4:=hp.m1;first|omega|(have h5:=h38.2 hp.cells;simp_all)⟩,hw.done⟩
      ·try exact nv c40
       all_goals (refine aW ?_;refine iE ?_;refine dV ?_;refine sM (λ x44=>?_);refine jG ?_;refine Fq ?_)
       all_goals
        refine mN [2,5,6,7,45,46,47,48,49,50,51,52,53,54,55,56,57,58,59,60,61,62,63,64,65,66,67,68,69,70,71,72,73,74,75,76,77,78,79,80,81,82,83,84,85,86,87,88,89,90,91,92,93,94,95,96,97,98,99,100,101,102,103,104,105,106,107,108,109] (λ y:Nat×List Bool=>[(5,.int .i64 ((y.1:Nat):Int))]) (λ y=>y.1<=L.length/\marks cs.length (L.take y.1)=some y.2/\∀i,i<y.1->nK gen L.length (L.getD i aQ.zero)) (λ _=>_) (λ _=>_) (λ y=>[⟨some ⟨x44,0,none⟩,jY y.2,cs.length,4,1⟩]) (λ y=>L.length-y.1) ((0,List.replicate cs.length false)) (⟨Nat.zero_le _,rfl,λ i hi=>absurd hi (Nat.not_lt_zero i)⟩) (λ y f hx=>?_);dsimp only[gY,List.map,List.cons_append,List.nil_append];have hu:=C5 hx.2.1;refine D1 ?_;refine wF ?_;refine bD (λ c47=>?_) (λ c47=>?_)
        ·obtain⟨⟨bm,hbm,hbm2⟩,hr1,hr2,hr3⟩:=hR _ (fH (L:=L) (k:=y.1) (by omega));refine rT ?_;refine Kc8 ?_;refine Qv ?_;refine aJ (λ x6=>?_);refine J5 ?_;refine aT ?_;refine nJ ?_;refine aD (c0 (V:=.bool) (hc:=λ w1 hw=>Ab hbm hbm2 (hw.Rw h.fit (by omega)))) (λ x56 h56=>?_);refine Cr ?_;(refine eE 58 (λ g58=>?_) (λ g58=>?_)<;>refine Ka1 ?_);all_goals (refine B8 ?_;refine B7 ?_;refine aA ?_)
         all_goals (first|refine aI ?_|(refine eE 65 (λ g65=>?_) (λ g65=>?_)<;>refine Ka0 ?_))
         all_goals (refine J6 ?_;(first|refine aI ?_|(refine aF ?_;refine aD (c0 (V:=.bool) (hc:=λ w1 hw=>by rw[(hw.Rw h.fit (k:=y.1) (by omega)).brN];exact Hd (hw.Rw h.fit (by omega)).br (hw.Rw h.fit (by omega)).brS)) (λ x69 h69=>?_)));refine Oh ?_;refine aA ?_)
         all_goals (first|refine aI ?_|(refine eE 72 (λ g72=>?_) (λ g72=>?_)<;>refine Ka0 ?_))
         all_goals (refine J6 ?_;refine J6 ?_;refine J6 ?_;(first|refine aI ?_|(refine aF ?_;refine fJ (λ x80=>?_)));(first|refine aI ?_|(refine aF ?_;refine aD (c0 (V:=.bool) (hc:=λ w1 hw=>Hd (xs:=[(L.getD y.1 aQ.zero).nd.bS,(L.getD y.1 aQ.zero).nd.exp,(L.getD y.1 aQ.zero).nd.new]) (hw.cl (.new .head)) (by simp only[List.length_cons,List.length_nil];decide))) (λ x81 h81=>?_)));refine Kc2 ?_)
         all_goals
          refine bD (λ c83=>?_) (λ c83=>?_)
          ·all_goals refine cU ?_
           all_goals refine aS results82 (λ w hw=>?_);refine⟨false,rfl,⟨(λ h=>nomatch h),λ hp=>?_⟩,hw.done⟩;obtain⟨q1,q2,q3,q4,q5,q6⟩:=hp.nodes y.1 (by omega);first|(exfalso;omega)|(have:=h56.2 q1;simp_all;done)|(have:=h81.2 (λ i hi=>by simp only[List.length_cons,List.length_nil] at hi;rcases(show i=0∨i=1∨i=2 by omega) with rfl|rfl|rfl;exact q4;exact q5;exact q6);simp_all;done)
          ·try exact nv c83
           all_goals have hrr:=h81.1 c83;have hok:nK gen L.length (L.getD y.1 aQ.zero):=⟨h56.1 g58,by omega,h69.1 g72,hrr 0 (by simp),hrr 1 (by simp),hrr 2 (by simp)⟩
           all_goals (refine lB ?_;refine iE ?_;refine aP (cV (hc:=λ w1 hw=>qj (L.getD y.1 aQ.zero).nd w1)) (λ x86=>?_);refine oG ?_)
           all_goals
            refine bD (λ c87=>?_) (λ c87=>?_)
            ·have hmk:eW (some y.2) (L.getD y.1 aQ.zero).nd=some y.2:=by
              have e:gK (L.getD y.1 aQ.zero).nd=none:=by cases hq:gK (L.getD y.1 aQ.zero).nd<;>simp_all
              simp only[eW,e]
             refine bR rfl ?_;refine vF ?_;refine iS ((y.1+1,(eW (some y.2) (L.getD y.1 aQ.zero).nd).getD y.2)) ?_ (hw1:=λ w hw=>by rw[hmk];exact hw.back (hO:=E0m))
             ·refine⟨by omega,by rw[oD (by omega),hx.2.1,hmk];rfl,λ i hi=>?_⟩;rcases Nat.lt_succ_iff_lt_or_eq.1 hi with h|rfl;·exact hx.2.2 i h
              ·exact hok
            ·obtain⟨c,hc⟩:∃c,gK (L.getD y.1 aQ.zero).nd=some c:=Option.isSome_iff_exists.1 c87;have hs:=yd hok.1 ⟨⟨bm,hbm,hbm2⟩,hr1,hr2,hr3⟩ hc;refine aW ?_;refine nJ ?_;refine aP (cV (hc:=λ w1 hw=>Y5 (L.getD y.1 aQ.zero).nd w1)) (λ x89=>?_);refine Kd9 ?_;refine A1 ?_;(refine eE 92 (λ g92=>?_) (λ g92=>?_)<;>refine Ka0 ?_);all_goals (refine Ts ?_;refine B7 ?_;refine aA ?_)
             all_goals (first|refine aI ?_|(refine eE 99 (λ g99=>?_) (λ g99=>?_)<;>refine Ka0 ?_))
             all_goals (refine Ka0 ?_;(first|refine aI ?_|(refine aF ?_;refine aC (Np rf rf (by omega) (by omega)) rfl ?_));(first|refine aI ?_|(refine aF ?_;refine aC (oT rf rf gS fW fin (by omega) (by omega)) rfl ?_));(first|refine aI ?_|(refine aF ?_;refine aC (Br rf fW fin (by omega)) rfl ?_));refine Kd8 ?_)
             all_goals
              refine bD (λ c105=>?_) (λ c105=>?_)
              ·all_goals refine cU ?_
               all_goals
                refine aS results82 (λ w hw=>?_);refine⟨false,rfl,⟨(λ h=>nomatch h),λ hp=>?_⟩,hw.done⟩;have hm:marks cs.length (L.take (y.1+1))=none:=by rw[oD (by omega),hx.2.1];simp only[eW,hc];refine if_neg λ hh=>?_;obtain⟨q1,q2,q3⟩:=hh;first|(exfalso;omega)|(exfalso;rw[hs,q3] at c105;cases c105)
                exact absurd (Gq hm) hp.marks
              ·try exact nv c105
               all_goals rw[hs] at c105 g92 g99;have hmk:eW (some y.2) (L.getD y.1 aQ.zero).nd=some (y.2.set (c-1).toNat true):=by simp only[eW,hc];rw[if_pos ⟨by omega,by omega,c105⟩]
               all_goals (refine aW ?_;refine Km ?_;refine aC (Np rf rf (by omega) (by omega)) rfl ?_;refine aC (oT rf rf gS fW fin (by omega) (by omega)) rfl ?_;refine J5 ?_;refine Kb6 ?_)
               all_goals
                refine iS ((y.1+1,(eW (some y.2) (L.getD y.1 aQ.zero).nd).getD y.2)) ?_ (hw1:=λ w hw=>by rw[hmk];(rw[hs] at hw;exact hw.back (hO:=E0m)))
                ·refine⟨by omega,by rw[oD (by omega),hx.2.1,hmk];rfl,λ i hi=>?_⟩;rcases Nat.lt_succ_iff_lt_or_eq.1 hi with h|rfl;·exact hx.2.2 i h
                 ·exact hok
        ·refine bR rfl ?_;refine cU ?_;refine aS results82 (λ w hw=>?_);have hy:y.1=L.length:=by omega
         have hmm:marks cs.length L=some y.2:=by have:=hx.2.1;rwa [hy,List.take_length] at this
         exact⟨true,rfl,⟨λ _=>⟨by omega,by omega,by omega,by omega,h38.1 (by simp_all),λ i hi=>hx.2.2 i (by omega),by rw[hmm];exact λ h=>nomatch h⟩,λ _=>rfl⟩,hw.done⟩
end
end Go.Proofs.YtbajmaoegmbfgaaGreat

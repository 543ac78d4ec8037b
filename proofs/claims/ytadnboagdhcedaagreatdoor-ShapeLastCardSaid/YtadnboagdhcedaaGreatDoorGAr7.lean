/- Proper states: the program's check. -/
import Derived.Test.YtadnboagdhcedaaGreatDoorGNode3
import Derived.Test.YtadnboagdhcedaaGreatDoorAuto

set_option linter.unusedSimpArgs false
set_option linter.unusedVariables false
namespace Go.Ct
section
def gD(n:Nd):Option Int:=if n.kind=2 then some n.main else if n.kind=3∨n.kind=5∨n.kind=6 then some n.prev else if n.kind=8 then some n.status else none
def eJ(u:Option (List Bool))(n:Nd):Option (List Bool) :=
 match u with
 | none=>none
 | some u=>match gD n with
  | none=>some u
  | some c=>if 1<=c/\c<=u.length/\u.getD (c-1).toNat false=false then some (u.set (c-1).toNat true) else none
def marks(m:Nat)(L:List aK):Option (List Bool):=L.foldl (λ u v=>eJ u v.nd) (some (List.replicate m false))
theorem rD{m:Nat}{L:List aK}{k:Nat}(h:k<L.length):marks m (L.take (k+1))=eJ (marks m (L.take k)) (L.getD k aK.zero).nd:=by
 rw[marks,List.take_succ_eq_append_getElem h,List.foldl_append,fQ,List.getElem?_eq_getElem h]
 rfl
theorem C1{m:Nat}{L:List aK}{k:Nat}(h:marks m (L.take k)=none):marks m L=none:=by
 have e:L=L.take k++L.drop k:=(List.take_append_drop k L).symm
 rw[e,marks,List.foldl_append]
 rw[marks] at h
 rw[h]
 generalize L.drop k=l
 induction l with
 | nil=>rfl
 | cons v l ih=>exact ih
theorem yF{m:Nat}:∀{L:List aK} {u:List Bool},marks m L=some u->u.length=m:=by
 intro L
 have key:∀(l:List aK) (u0:Option (List Bool)),(∀u,u0=some u->u.length=m)->∀u,l.foldl (λ u v=>eJ u v.nd) u0=some u->u.length=m:=by
  intro l
  induction l with
  | nil=>intro u0 h u hu;exact h u hu
  | cons v l ih =>
   intro u0 h u hu
   refine ih (eJ u0 v.nd) (λ u1 h1=>?_) u hu
   cases u0 with
   | none=>simp[eJ] at h1
   | some u2 =>
    have:=h u2 rfl
    simp only[eJ] at h1
    cases hc:gD v.nd with
    | none=>rw[hc] at h1;simp only[Option.some.injEq] at h1;rw[<- h1];exact this
    | some c =>
     rw[hc] at h1
     simp only at h1
     split at h1
     ·simp only[Option.some.injEq] at h1;rw[<- h1,List.length_set];exact this
     ·cases h1
 intro u hu
 exact key L _ (λ u h=>by simp only[Option.some.injEq] at h;rw[<- h];simp) u hu
def C9(r:Int)(n:Nat):Prop:=0<=r/\r<=(n:Int)
instance (r:Int) (n:Nat):Decidable (C9 r n):=inferInstanceAs (Decidable (0<=r/\r<=(n:Int)))
theorem p8{r:Int}{n:Nat}(h:0<=r):decide (C9 r n)=decide (r<=(n:Int)):=by
 by_cases h2:r<=(n:Int)
 ·rw[decide_eq_true h2,decide_eq_true ⟨h,h2⟩]
 ·rw[decide_eq_false h2,decide_eq_false λ h3=>h2 h3.2]
def Mz(n:Nd)(xs:List Int)(N:Nat):Prop:=(∀i,i<xs.length->C9 (xs.getD i 0) N)/\C9 n.bL N/\C9 n.exp N/\C9 n.new N
def lE(gen:Int)(N:Nat)(v:aK):Prop:=bY v.nd v.xs v.ys/\v.nd.gen<=gen/\Mz v.nd v.xs N
structure dH(L:List aK)(cs:List Int)(gen:Int):Prop where
 two:2<=L.length
 gen0:0<=gen
 m0:(L.getD 0 aK.zero).nd.kind=1
 m1:(L.getD 1 aK.zero).nd.kind=1
 cells:∀i,i<cs.length->C9 (cs.getD i 0) L.length
 nodes:∀i,i<L.length->lE gen L.length (L.getD i aK.zero)
 marks:marks cs.length L≠none
end
end Go.Ct
namespace Go.Proofs.YtadnboagdhcedaaGreatDoor
section
open Go.RowKit Go.Ct
theorem sP(r:Int)(n:Nat)(w:World):Calls Tryz.prog 130 #[.int .i64 r,.int .i64 ((n:Nat):Int)] w λ e w'=>e=.returned (.bool (decide (C9 r n)))/\St w [] [] w':=by
 refine enter Tryz.func130 Tryz.ntmps130 rfl rfl (SF.s0 w) ?_
 simp only[cR]
 refine cN ?_;refine J2 ?_;refine lU ?_;refine aB ?_
 (refine eR 7 (λ g7=>?_) (λ g7=>?_)<;>refine Ka1 ?_)
 all_goals (refine Ka1 ?_;(first|refine aH ?_|(refine aF ?_;refine Ao ?_));refine Kc7 ?_)
 all_goals
 refine aN Tryz.results130 (λ w hw=>?_)
 refine⟨?_,hw.done⟩
 first|(rw[decide_eq_false (show ¬C9 r n from λ h=>by have:=h.1;have:=h.2;omega)];rfl)|(rw[p8 (by omega)];rfl)
theorem Ia{n:Nd}{xs:List Int}{N:Nat}{w:World}(e1:n.brN=xs.length)(ha:Cl w n.brA (aG xs))(hx:xs.length<4611686018427387904) :
  Calls Tryz.prog 132 #[n.v,.int .i64 ((N:Nat):Int)] w λ e w'=>∃r:Bool,e=.returned (.bool r)/\(r=true↔Mz n xs N)/\St w [] [] w':=by
 refine enter Tryz.func132 Tryz.ntmps132 rfl rfl (SF.s1 ha) ?_
 simp only[cR]
 simp only[Nd.v,Nd.cells,e1]
 refine J0 ?_;refine bP (λ x2=>?_);refine gK ?_;refine gN ?_;refine Kb8 ?_
 refine mP [4,6,10,11,12,13,14,15,16,17,18] (λ k=>[(10,.int .i64 ((k:Nat):Int))]) (λ k=>k<=xs.length/\∀i,i<k->C9 (xs.getD i 0) N) (λ k=>_) (λ _=>_) (λ _=>_) (λ k=>xs.length-k) (0) (⟨Nat.zero_le _,λ i hi=>absurd hi (Nat.not_lt_zero i)⟩) (λ k f hx=>?_)
 dsimp only[gG,List.map,List.cons_append,List.nil_append]
 refine Kb4 ?_
 refine aZ (λ c11=>?_) (λ c11=>?_)
 ·refine oW ?_;refine J0 ?_;refine Ue ?_;refine tZ ?_;refine aR (cV (hc:=λ w1 hw=>sP _ N w1)) (λ x16=>?_);refine lX ?_
  refine aZ (λ c17=>?_) (λ c17=>?_)
  ·refine cN ?_
   refine aN Tryz.results132 (λ w hw=>?_)
   exact⟨false,rfl,⟨(λ h=>nomatch h),λ h=>absurd (h.1 k (by omega)) (by assumption)⟩,hw.done⟩
  ·refine Kc3 ?_
   refine gI (k+1) ?_
   ·exact⟨by omega,λ i hi=>by rcases Nat.lt_succ_iff_lt_or_eq.1 hi with h|rfl;exact hx.2 i h;assumption⟩
 ·refine bG rfl ?_;refine gN ?_;refine aB ?_;refine aR (cV (hc:=λ w1 hw=>sP _ N w1)) (λ x22=>?_);refine aB ?_
  (refine eR 23 (λ g23=>?_) (λ g23=>?_)<;>refine Ka0 ?_)
  all_goals (refine ll ?_;(first|refine aH ?_|(refine aF ?_;refine aR (cV (hc:=λ w1 hw=>sP _ N w1)) (λ x27=>?_)));refine cU ?_;refine aB ?_)
  all_goals (first|refine aH ?_|(refine eR 29 (λ g29=>?_) (λ g29=>?_)<;>refine Ka0 ?_))
  all_goals (refine ll ?_;(first|refine aH ?_|(refine aF ?_;refine aR (cV (hc:=λ w1 hw=>sP _ N w1)) (λ x33=>?_)));refine Kc7 ?_)
  all_goals
  refine aN Tryz.results132 (λ w hw=>?_)
  have hall:∀i,i<xs.length->C9 (xs.getD i 0) N:=λ i hi=>hx.2 i (by omega)
  first|exact⟨_,rfl,by simp_all[Mz],hw.done⟩
theorem Xw(n:Nd)(w:World):Calls Tryz.prog 133 #[n.v] w λ e w'=>e=.returned (.tuple #[.int .i64 ((gD n).getD 0),.bool (gD n).isSome])/\St w [] [] w':=by
 refine enter Tryz.func133 Tryz.ntmps133 rfl rfl (SF.s0 w) ?_
 simp only[cR]
 simp only[Nd.v,Nd.cells]
 refine J0 ?_;refine bP (λ x1=>?_);refine J8 ?_;refine Cc ?_;refine gN ?_;refine M2 ?_
 refine aZ (λ c4=>?_) (λ c4=>?_)
 ·refine gN ?_;refine J8 ?_
  refine bJ Tryz.results133 (λ w hw=>?_)
  refine⟨?_,hw.done⟩
  (rw[show gD n=some n.main by simp[gD,c4]];rfl)
 ·refine kU ?_;refine aC (c0 (V:=.bool) (hc:=λ w1 hw=>Du n w1)) (λ x12 h12=>?_);refine J1 ?_
  refine aZ (λ c10=>?_) (λ c10=>?_)
  ·have k22:n.kind=3∨n.kind=5∨n.kind=6:=h12.1 c10
   refine gN ?_;refine J8 ?_
   refine bJ Tryz.results133 (λ w hw=>?_)
   refine⟨?_,hw.done⟩
   (rw[show gD n=some n.prev by simp only[gD];rw[if_neg c4,if_pos k22]];rfl)
  ·have k22:¬(n.kind=3∨n.kind=5∨n.kind=6):=λ k=>by rw[h12.2 k] at c10;cases c10
   refine gN ?_;refine M2 ?_
   refine aZ (λ c15=>?_) (λ c15=>?_)
   ·refine gN ?_;refine J8 ?_
    refine bJ Tryz.results133 (λ w hw=>?_)
    refine⟨?_,hw.done⟩
    (rw[show gD n=some n.status by simp only[gD];rw[if_neg c4,if_neg k22,if_pos c15]];rfl)
   ·refine lC ?_;refine Es ?_
    refine bJ Tryz.results133 (λ w hw=>?_)
    refine⟨?_,hw.done⟩
    (rw[show gD n=none by simp only[gD];rw[if_neg c4,if_neg k22,if_neg c15]];rfl)
end

/- Proper states: the walk through the program's check. -/
section
open Go.RowKit Go.Ct
set_option maxRecDepth 100000 in
theorem La{L:List aK}{cs:List Int}{gen:Int}{pn pc:Option Addr}{cn cc:Nat}{w:World}(h:hY w L cs pn pc)(hL:L.length<=274877906944)(hC:cs.length<=274877906944) :
    Calls Tryz.prog 96 #[.agg ⟨[.slice pn L.length cn,.slice pc cs.length cc,.int .i64 gen]⟩] w λ e w'=>∃r:Bool,e=.returned (.bool r)/\(r=true↔dH L cs gen)/\St w [] [] w':=by
  refine enter Tryz.func96 Tryz.ntmps96 rfl rfl h.start ?_
  simp only[cR]
  refine J0 ?_;refine bP (λ x1=>?_);refine gK ?_;refine gN ?_;refine dF ?_;refine Gq ?_
  (refine eR 14 (λ g14=>?_) (λ g14=>?_)<;>refine Ka0 ?_)
  all_goals (refine s4 ?_;refine aI ?_)
  all_goals
   refine aZ (λ c18=>?_) (λ c18=>?_)
   · all_goals refine cN ?_
     all_goals
      refine aN Tryz.results96 (λ w hw=>?_)
      exact⟨false,rfl,⟨(λ h=>nomatch h),λ hp=>by have h1:=hp.two;have h2:=hp.gen0;exfalso;omega⟩,hw.done⟩
   · try exact nv c18
     all_goals (refine jD ?_;refine gN ?_;refine aE (lV (k:=0) rf rf fK gX fin (by omega) (by omega)) rfl ?_;refine aD ?_;refine aE (D7 (q:=0) rf fX fin (by omega)) rfl ?_;refine jE ?_;refine aB ?_)
     all_goals ((refine eR 25 (λ g25=>?_) (λ g25=>?_)<;>refine Ka0 ?_))
     all_goals (refine Ka2 ?_;(first|refine aH ?_|(refine aF ?_;refine aE (lV (k:=1) rf rf fK gX fin (by omega) (by omega)) rfl ?_));refine Ka0 ?_;(first|refine aH ?_|(refine aF ?_;refine aE (D7 (q:=1) rf fX fin (by omega)) rfl ?_));refine S8 ?_;refine aI ?_)
     all_goals
      refine aZ (λ c32=>?_) (λ c32=>?_)
      · all_goals refine cN ?_
        all_goals
         refine aN Tryz.results96 (λ w hw=>?_)
         exact⟨false,rfl,⟨(λ h=>nomatch h),λ hp=>by have h1:=hp.m0;have h2:=hp.m1;exfalso;omega⟩,hw.done⟩
      · try exact nv c32
        all_goals (refine jD ?_;refine gN ?_;refine Kb8 ?_)
        all_goals
         refine eS [2,4,36,37,38,39,40,41,42,43,44,45,46] (λ k=>[(36,.int .i64 ((k:Nat):Int))]) (λ k=>k<=cs.length/\∀i,i<k->C9 (cs.getD i 0) L.length) (λ k=>cs.length-k) (0) (⟨Nat.zero_le _,λ i hi=>absurd hi (Nat.not_lt_zero i)⟩) ?_ (λ k f hx=>?_)
         · repeat (first|exact bB _|refine aW (by exact rfl) ?_)
         dsimp only[gG,List.map,List.cons_append,List.nil_append]
         refine Kb4 ?_
         refine aZ (λ c37=>?_) (λ c37=>?_)
         · refine oW ?_;refine J0 ?_;refine Ue ?_;refine Ka4 ?_;refine Tt ?_;refine aR (cV (hc:=λ w1 hw=>sP _ _ w1)) (λ x44=>?_);refine lX ?_
           refine aZ (λ c45=>?_) (λ c45=>?_)
           · refine cN ?_
             refine aN Tryz.results96 (λ w hw=>?_)
             exact⟨false,rfl,⟨(λ h=>nomatch h),λ hp=>absurd (hp.cells k (by omega)) (by assumption)⟩,hw.done⟩
           · refine Kc3 ?_
             refine dJ (k+1) ?_ ?_ ?_
             · omega
             · repeat' (first|exact bB _|refine aW ?_ ?_)
               exact rfl
             · exact⟨by omega,λ i hi=>by rcases Nat.lt_succ_iff_lt_or_eq.1 hi with h|rfl;exact hx.2 i h;assumption⟩
         · refine bG rfl ?_;refine gN ?_;refine dF ?_;refine Ai (λ x50=>?_);refine gK ?_;refine gN ?_;refine Kb8 ?_
           have hcells:∀i,i<cs.length->C9 (cs.getD i 0) L.length:=λ i hi=>hx.2 i (by omega)
           clear hx
           refine mP [2,7,8,9,54,55,56,57,58,59,60,61,62,63,64,65,66,67,68,69,70,71,72,73,74,75,76,77,78,79,80,81,82,83,84,85,86,87,88,89,90,91,92,93,94,95,96,97,98,99,100,101,102,103] (λ y:Nat×List Bool=>[(54,.int .i64 ((y.1:Nat):Int))]) (λ y=>y.1<=L.length/\marks cs.length (L.take y.1)=some y.2/\∀i,i<y.1->lE gen L.length (L.getD i aK.zero)) (λ _=>_) (λ _=>_) (λ y=>[⟨some ⟨x50,0,none⟩,hJ y.2,cs.length,4,1⟩]) (λ y=>L.length-y.1) ((0,List.replicate cs.length false)) (⟨Nat.zero_le _,rfl,λ i hi=>absurd hi (Nat.not_lt_zero i)⟩) (λ y f hx=>?_)
           dsimp only[gG,List.map,List.cons_append,List.nil_append]
           have hu:=yF hx.2.1
           refine Kb4 ?_
           refine aZ (λ c55=>?_) (λ c55=>?_)
           · refine oW ?_;refine J0 ?_;refine Ue ?_;refine aP (λ x7=>?_);refine J5 ?_;refine aS ?_;refine kU ?_;refine aC (c0 (V:=.bool) (hc:=λ w1 hw=>Tk (hw.ai h.fit (by omega)))) (λ x59 h59=>?_);refine El ?_
             (refine eR 61 (λ g61=>?_) (λ g61=>?_)<;>refine Ka0 ?_)
             all_goals (refine yC ?_;refine Fl ?_;refine aB ?_)
             all_goals (first|refine aH ?_|(refine eR 68 (λ g68=>?_) (λ g68=>?_)<;>refine Ka2 ?_))
             all_goals (refine Uf ?_;(first|refine aH ?_|(refine aF ?_;refine aC (c0 (V:=.bool) (hc:=λ w1 hw=>Ia (hw.ai h.fit (by omega)).brN (hw.ai h.fit (by omega)).br (hw.ai h.fit (by omega)).brS)) (λ x73 h73=>?_)));refine Qx ?_;refine aI ?_)
             all_goals
              refine aZ (λ c75=>?_) (λ c75=>?_)
              · all_goals refine cN ?_
                all_goals
                 refine aN Tryz.results96 (λ w hw=>?_)
                 refine⟨false,rfl,⟨(λ h=>nomatch h),λ hp=>?_⟩,hw.done⟩
                 obtain⟨q1,q2,q3⟩:=hp.nodes y.1 (by omega)
                 first|(exfalso;omega)|(have:=h59.2 q1;simp_all;done) 
              · try exact nv c75
                all_goals
                 have hok:lE gen L.length (L.getD y.1 aK.zero):=⟨h59.1 (by simp_all),by omega,h73.1 (by simp_all)⟩
                all_goals (refine bA ?_;refine kU ?_;refine aR (cV (hc:=λ w1 hw=>Xw (L.getD y.1 aK.zero).nd w1)) (λ x78=>?_);refine Kb6 ?_;refine lX ?_)
                all_goals
                 refine aZ (λ c82=>?_) (λ c82=>?_)
                 · have hmk:eJ (some y.2) (L.getD y.1 aK.zero).nd=some y.2:=by
                    have e:gD (L.getD y.1 aK.zero).nd=none:=by cases hq:gD (L.getD y.1 aK.zero).nd<;>simp_all
                    simp only[eJ,e]
                   refine bG rfl ?_;refine Ka5 ?_
                   refine gI ((y.1+1,(eJ (some y.2) (L.getD y.1 aK.zero).nd).getD y.2)) ?_ (hw1:=λ w hw=>by rw[hmk];exact hw.back)
                   · refine⟨by omega,by rw[rD (by omega),hx.2.1,hmk];rfl,λ i hi=>?_⟩
                     rcases Nat.lt_succ_iff_lt_or_eq.1 hi with h|rfl
                     · exact hx.2.2 i h
                     · exact hok
                 · obtain⟨c,hc⟩:∃c,gD (L.getD y.1 aK.zero).nd=some c:=Option.isSome_iff_exists.1 c82
                   rw[hc,Option.getD_some]
                   refine jD ?_;refine J2 ?_;refine Gq ?_
                   (refine eR 85 (λ g85=>?_) (λ g85=>?_)<;>refine Ka1 ?_)
                   all_goals (refine Uf ?_;refine Fl ?_;refine aB ?_)
                   all_goals (first|refine aH ?_|(refine eR 92 (λ g92=>?_) (λ g92=>?_)<;>refine Ka1 ?_))
                   all_goals (refine Ka1 ?_;(first|refine aH ?_|(refine aF ?_;refine aE (Vo rf rf (by omega) (by omega)) rfl ?_));(first|refine aH ?_|(refine aF ?_;refine aE (sR rf rf fK fX fin (by omega) (by omega)) rfl ?_));(first|refine aH ?_|(refine aF ?_;refine aE (G9 rf fX fin (by omega)) rfl ?_));refine cU ?_;refine aI ?_)
                   all_goals
                    refine aZ (λ c98=>?_) (λ c98=>?_)
                    · all_goals refine cN ?_
                      all_goals
                       refine aN Tryz.results96 (λ w hw=>?_)
                       refine⟨false,rfl,⟨(λ h=>nomatch h),λ hp=>?_⟩,hw.done⟩
                       have hm:marks cs.length (L.take (y.1+1))=none:=by
                        rw[rD (by omega),hx.2.1]
                        simp only[eJ,hc]
                        refine if_neg λ hh=>?_
                        obtain⟨q1,q2,q3⟩:=hh
                        first|(exfalso;omega)|(exfalso;rw[q3] at c98;cases c98)
                       exact absurd (C1 hm) hp.marks
                    · try exact nv c98
                      all_goals
                       have hmk:eJ (some y.2) (L.getD y.1 aK.zero).nd=some (y.2.set (c-1).toNat true):=by
                        simp only[eJ,hc]
                        rw[if_pos ⟨by omega,by omega,c98⟩]
                      all_goals (refine bA ?_;refine Mc ?_;refine aE (Vo rf rf (by omega) (by omega)) rfl ?_;refine aE (sR rf rf fK fX fin (by omega) (by omega)) rfl ?_;refine J5 ?_;refine eV ?_;refine Ka5 ?_)
                      all_goals
                       refine gI ((y.1+1,(eJ (some y.2) (L.getD y.1 aK.zero).nd).getD y.2)) ?_ (hw1:=λ w hw=>by rw[hmk];exact hw.back)
                       · refine⟨by omega,by rw[rD (by omega),hx.2.1,hmk];rfl,λ i hi=>?_⟩
                         rcases Nat.lt_succ_iff_lt_or_eq.1 hi with h|rfl
                         · exact hx.2.2 i h
                         · exact hok
           · refine bG rfl ?_;refine cN ?_
             refine aN Tryz.results96 (λ w hw=>?_)
             have hy:y.1=L.length:=by omega
             have hmm:marks cs.length L=some y.2:=by have:=hx.2.1;rwa [hy,List.take_length] at this
             exact⟨true,rfl,⟨λ _=>⟨by omega,by omega,by omega,by omega,hcells,λ i hi=>hx.2.2 i (by omega),by rw[hmm];exact λ h=>nomatch h⟩,λ _=>rfl⟩,hw.done⟩
end

/- An arena with a state. -/
end Go.Proofs.YtadnboagdhcedaaGreatDoor
namespace Go.Ct
section
theorem Dg{n:Nd}{xs:List Int}{ys:List Pr}(h:bY n xs ys)(hk:n.kind=1):n.c xs ys=cK.c:=by
 have e:=wD.1 h.1
 rw[e]
 simp[Nd.own,Nd.fI,Nd.eZ,hk,Nd.c,aK.c,cK,Nd.zero]
theorem dH.all{L L':List aK}{cs:List Int}{gen:Int}(h:dH L cs gen)(h2:L'.map aK.c=(L.drop 2).map aK.c):(oh L').map aK.c=L.map aK.c:=by
 have h0:=h.nodes 0 (by have:=h.two;omega)
 have h1:=h.nodes 1 (by have:=h.two;omega)
 have e0:(L.getD 0 aK.zero).c=cK.c:=Dg h0.1 h.m0
 have e1:(L.getD 1 aK.zero).c=cK.c:=Dg h1.1 h.m1
 have h3:=h.two
 match L,h3 with
 | a::b::r,_ =>
  simp only[List.getD_cons_zero,List.getD_cons_succ] at e0 e1
  simp only[List.drop_succ_cons,List.drop_zero] at h2
  simp only[oh,List.map_cons,h2,e0,e1]
end
end Go.Ct
namespace Go.Proofs.YtadnboagdhcedaaGreatDoor
section
open Go.RowKit Go.Ct
theorem ou{L:List aK}{cs:List Int}{gen:Int}{pn pc:Option Addr}{cn cc:Nat}{w:World}(h:hY w L cs pn pc)(hL:L.length<=274877906944)(hC:cs.length<=274877906944)(hp:¬dH L cs gen) :
  Calls Tryz.prog 68 #[.agg ⟨[.slice pn L.length cn,.slice pc cs.length cc,.int .i64 gen]⟩] w λ e w'=>e=.returned (.tuple #[.pointer none,.int .i64 1])/\St w [] [] w':=by
 refine enter Tryz.func68 Tryz.ntmps68 rfl rfl h.start ?_
 simp only[cR]
 refine J0 ?_;refine bP (λ x1=>?_);refine J8 ?_;refine aS ?_;refine kU ?_;refine aC (c0 (V:=.bool) (hc:=λ w1 hw=>La ⟨hw.cl (.bL .head),hw.cl (.bL (.tail .head)),λ f hf=>(hw.bL f (List.mem_cons_of_mem _ (List.mem_cons_of_mem _ hf))).1,h.fit⟩ hL hC)) (λ x8 h8=>?_);refine lX ?_
 refine aZ (λ c9=>?_) (λ c9=>?_)
 ·refine Es ?_
  refine bJ Tryz.results68 (λ w hw=>?_)
  exact⟨rfl,hw.done⟩
 ·exact absurd (h8.1 c9) hp
theorem qw{L:List aK}{cs:List Int}{gen:Int}{pn pc:Option Addr}{cn cc:Nat}{w:World}(h:hY w L cs pn pc)(hL:L.length<=274877906944)(hC:cs.length<=274877906944)(hcn:L.length<=cn)(hp:dH L cs gen) :
  Calls Tryz.prog 68 #[.agg ⟨[.slice pn L.length cn,.slice pc cs.length cc,.int .i64 gen]⟩] w λ e w'=>∃x:Nat×List aK×(Option Addr×Nat)×(Option Addr×Nat),e=.returned (.tuple #[.pointer (some ⟨x.1,0,none⟩),.int .i64 0]) /\
   ((oh x.2.1).map aK.c=L.map aK.c/\Fits x.2.1)/\SF w [] [(x.1,aO x.2.1 cs gen 0 x.2.2.1.1 x.2.2.1.2 x.2.2.2.1 x.2.2.2.2)] [] (aY x.2.1) (mW x.2.1 cs x.2.2.1.1 x.2.2.1.2 x.2.2.2.1 x.2.2.2.2) w':=by
 have h2L:=hp.two
 refine enter Tryz.func68 Tryz.ntmps68 rfl rfl h.start ?_
 simp only[cR]
 refine J0 ?_;refine bP (λ x1=>?_);refine J8 ?_;refine aS ?_;refine kU ?_;refine aC (c0 (V:=.bool) (hc:=λ w1 hw=>La ⟨hw.cl (.bL .head),hw.cl (.bL (.tail .head)),λ f hf=>(hw.bL f (List.mem_cons_of_mem _ (List.mem_cons_of_mem _ hf))).1,h.fit⟩ hL hC)) (λ x8 h8=>?_);refine lX ?_
 refine aZ (λ c9=>?_) (λ c9=>?_)
 ·exact absurd hp (λ hp=>by rw[h8.2 hp] at c9;cases c9)
 ·refine jD ?_;refine eD [(0,[]),(1,[]),(3,[]),(4,[]),(2,[4]),(5,[]),(6,[]),(7,[])] ?_;refine lR ?_;refine lR ?_;refine bS (i:=2) (hq:=(cj (Hc:=λ _=>[]) (Fc:=λ _=>[]) (hc:=λ w1 hw=>Mh (hw.cl fin) hC))) (h:=λ x12 h12=>?_);refine qV ?_;refine X7 (h:=λ x16=>?_);refine J7 ?_;refine J2 ?_;refine Tt ?_;refine aE (iJ (n:=2) rf rf (by omega) (by omega)) rfl ?_;refine Ai (λ x22=>?_);refine lj ?_;refine yU ?_;(refine aR (eb (k:=2) rf rf fK (by exact rM rfl) (by omega) fin hcn rfl) (λ x27=>?_));refine Kb8 ?_
  refine mP [6,29,30,31,32,33,34,35,36,37,38,39,40,41,42,43,44] (λ y:List aK×Option Addr×Nat=>[(29,.int .i64 ((y.1.length:Nat):Int))]) (λ y=>y.1.map aK.c=((L.drop 2).take y.1.length).map aK.c/\y.1.length<=L.length-2/\Fits y.1) (λ y=>[(x16,.cells ⟨[.slice y.2.1 y.1.length y.2.2,.slice x12.1 cs.length x12.2,.int .i64 gen,.int .i64 0]⟩ 153 (0,0)),(x1,.cells ⟨[.slice pn L.length cn,.slice pc cs.length cc,.int .i64 gen]⟩ 25 (0,0))]) (λ y=>aY y.1) (λ y=>[⟨y.2.1,jC y.1,y.2.2,77,14⟩,⟨x12.1,aG cs,x12.2,62,1⟩]) (λ y=>L.length-2-y.1.length) (([],some ⟨x22,0,none⟩,L.length-2)) (⟨rfl,Nat.zero_le _,λ _ h=>(List.not_mem_nil h).elim⟩) (λ y f hx=>?_) (hw0:=λ w hw=>hw.back)
  dsimp only[gG,List.map,List.cons_append,List.nil_append]
  refine Kb4 ?_
  refine aZ (λ c30=>?_) (λ c30=>?_)
  ·refine oW ?_;refine J0 ?_;refine aE (lV rf rf fK gX fin (by omega) (by rw[List.length_drop];omega)) rfl ?_;refine aE (Qy rf gX fin (by rw[List.length_drop];omega)) rfl ?_;refine aP (λ x6=>?_);refine J5 ?_;refine eD [(0,[]),(1,[]),(2,[]),(3,[]),(4,[]),(5,[]),(6,[4]),(7,[4]),(8,[]),(9,[]),(10,[]),(11,[])] ?_;refine yb ?_;refine bN ?_;refine bS (i:=6) (hq:=(cF (V:=λ p:Option Addr×Option Addr=>.agg ⟨(((L.drop 2).getD y.1.length aK.zero).at_ p.1 p.2).nd.cells⟩) (hc:=λ w1 hw=>jd (hw.zq (L:=L) (λ f hf=>.inr (.inl (List.mem_cons_of_mem _ (List.mem_cons_of_mem _ (List.mem_cons_of_mem _ hf))))) h.fit (List.mem_of_mem_drop (eN (by rw[List.length_drop];omega)))) (h.fit _ (List.mem_of_mem_drop (eN (by rw[List.length_drop];omega)))).brS (h.fit _ (List.mem_of_mem_drop (eN (by rw[List.length_drop];omega)))).prS))) (h:=λ x39 h39=>?_);refine cQ (h:=λ x40=>?_);((refine dG (i:=8) (hq:=(bH.fG (ja (((L.drop 2).getD y.1.length aK.zero).at_ x39.1 x39.2) rf rf A5 rfl fin Ux rfl fK om) yA)) (h:=λ x41=>?_);try (refine fP (λ h41=>?_))));refine J88 ?_;refine eV ?_;refine Ka5 ?_
   refine gI ((y.1++[((L.drop 2).getD y.1.length aK.zero).at_ x39.1 x39.2],x41.1,x41.2)) ?_ (hw1:=λ w hw=>by
    have h3:=hw.u9 (L:=y.1) (v:=((L.drop 2).getD y.1.length aK.zero).at_ x39.1 x39.2) (F':=[]) (List.mem_cons_of_mem _ (List.mem_cons_self ..)) (List.mem_cons_of_mem _ (List.mem_cons_of_mem _ (List.mem_cons_self ..))) (λ f hf=>List.mem_cons_of_mem _ (List.mem_cons_of_mem _ (List.mem_cons_of_mem _ hf)))
    have h4:=h3.sub (H':=[_,_]) (by repeat (first|exact List.Sublist.refl _|apply List.Sublist.cons)) aX.all (List.Sublist.refl _)
    simpa using h4) (hμ:=by simp only[List.length_append,List.length_cons,List.length_nil];omega)
   ·have hlt:y.1.length<(L.drop 2).length:=by rw[List.length_drop];omega
    refine⟨?_,by simp only[List.length_append,List.length_cons,List.length_nil];omega,λ v hv=>?_⟩
    ·rw[List.map_append,hx.1,List.length_append,List.length_singleton,List.take_succ_eq_append_getElem hlt,List.map_append,fQ,List.getElem?_eq_getElem hlt]
     rfl
    ·rcases List.mem_append.1 hv with hv|hv
     ·exact hx.2.2 v hv
     ·simp only[List.mem_singleton] at hv
      subst hv
      exact aK.pb (h.fit _ (List.mem_of_mem_drop (eN hlt))) _ _
  ·refine bG rfl ?_;refine J2 ?_;refine J8 ?_
   refine bJ Tryz.results68 (λ w hw=>?_)
   have hlen:y.1.length=L.length-2:=by omega
   refine⟨(x16,y.1,(y.2.1,y.2.2),(x12.1,x12.2)),rfl,⟨hp.all (by rw[hx.1,hlen,List.take_of_length_le (by rw[List.length_drop];omega)]),hx.2.2⟩,?_⟩
   exact hw.ret (by repeat (first|exact List.nil_sublist _|apply List.Sublist.cons_cons)) aX.all (List.Sublist.refl _)
end

/- Proper states: a node more. -/
end Go.Proofs.YtadnboagdhcedaaGreatDoor
namespace Go.Ct
section
theorem Mi{u u':List Bool}{n:Nd}(h:eJ (some u) n=some u'):eJ (some (u++[false])) n=some (u'++[false]):=by
 simp only[eJ] at h ⊢
 cases hc:gD n with
 | none=>rw[hc] at h;simp only[Option.some.injEq] at h;rw[h]
 | some c =>
  rw[hc] at h
  simp only at h ⊢
  split at h
  ·rename_i hh
   simp only[Option.some.injEq] at h
   have hlt:(c-1).toNat<u.length:=by omega
   rw[if_pos ⟨hh.1,by simp only[List.length_append,List.length_cons,List.length_nil];omega,by rw[fQ,List.getElem?_append_left hlt,<- fQ];exact hh.2.2⟩,List.set_append_left _ _ hlt,h]
  ·cases h
theorem No{m:Nat}:∀{L:List aK} {u:List Bool},marks m L=some u->marks (m+1) L=some (u++[false]):=by
 have key:∀(l:List aK) (u0:List Bool) (u:List Bool),l.foldl (λ u v=>eJ u v.nd) (some u0)=some u->l.foldl (λ u v=>eJ u v.nd) (some (u0++[false]))=some (u++[false]):=by
  intro l
  induction l with
  | nil=>intro u0 u h;simp only[List.foldl_nil,Option.some.injEq] at h ⊢;rw[h]
  | cons v l ih =>
   intro u0 u h
   simp only[List.foldl_cons] at h ⊢
   cases hm:eJ (some u0) v.nd with
   | none =>
    rw[hm] at h
    exfalso
    have:∀l:List aK,l.foldl (λ u v=>eJ u v.nd) none=none:=λ l=>by
     induction l with
     | nil=>rfl
     | cons v l ih=>exact ih
    rw[this] at h
    cases h
   | some u1 =>
    rw[hm] at h
    rw[Mi hm]
    exact ih u1 u h
 intro L u h
 have:=key L _ u h
 rw[marks,List.replicate_succ',this]
theorem Dr{m:Nat}{L:List aK}{v:aK}:marks m (L++[v])=eJ (marks m L) v.nd:=by rw[marks,List.foldl_append];rfl
theorem zC{L:List aK}{v:aK}{i:Nat}(h:i<L.length+1):(L++[v]).getD i aK.zero=if i<L.length then L.getD i aK.zero else v:=by
 rw[fQ]
 split
 ·rename_i hi
  rw[List.getElem?_append_left hi,<- fQ]
 ·rename_i hi
  rw[List.getElem?_append_right (by omega),show i-L.length=0 by omega]
  rfl
theorem C9.mono{r:Int}{n m:Nat}(h:C9 r n)(hm:n<=m):C9 r m:=⟨h.1,Int.le_trans h.2 (by omega)⟩
theorem lE.mono{gen:Int}{n m:Nat}{v:aK}(h:lE gen n v)(hm:n<=m):lE gen m v:=⟨h.1,h.2.1,λ i hi=>(h.2.2.1 i hi).mono hm,h.2.2.2.1.mono hm,h.2.2.2.2.1.mono hm,h.2.2.2.2.2.mono hm⟩
theorem Lt{L:List aK}{cs:List Int}{gen init:Int}{v:aK}(h:dH L cs gen)(hv:lE gen (L.length+1) v)(hi:C9 init L.length){k:Int}(hk:(gD v.nd=none/\fZ k cs init=cs)∨(gD v.nd=some ((cs.length+1:Nat):Int)/\fZ k cs init=cs++[init])) :
  dH (L++[v]) (fZ k cs init) gen:=by
 have hlen:(L++[v]).length=L.length+1:=by simp
 have h2:=h.two
 have nodes:∀i,i<(L++[v]).length->lE gen (L++[v]).length ((L++[v]).getD i aK.zero):=λ i hi=>by
  rw[hlen] at hi ⊢
  rw[zC hi]
  split
  ·exact(h.nodes i (by assumption)).mono (by omega)
  ·exact hv
 have k0:((L++[v]).getD 0 aK.zero).nd.kind=1:=by rw[zC (by omega),if_pos (by omega)];exact h.m0
 have k1:((L++[v]).getD 1 aK.zero).nd.kind=1:=by rw[zC (by omega),if_pos (by omega)];exact h.m1
 cases hm:marks cs.length L with
 | none=>exact absurd hm h.marks
 | some u =>
  have hu:=yF hm
  rcases hk with⟨e1,e2⟩|⟨e1,e2⟩
  ·rw[e2]
   refine⟨by omega,h.gen0,k0,k1,λ i hi=>(h.cells i hi).mono (by omega),nodes,?_⟩
   rw[Dr,hm]
   simp only[eJ,e1]
   exact λ h=>nomatch h
  ·rw[e2]
   refine⟨by omega,h.gen0,k0,k1,λ i hi'=>?_,nodes,?_⟩
   ·rw[fQ]
    by_cases hlt:i<cs.length
    ·rw[List.getElem?_append_left hlt,<- fQ]
     exact(h.cells i hlt).mono (by omega)
    ·simp only[List.length_append,List.length_cons,List.length_nil] at hi'
     rw[List.getElem?_append_right (by omega),show i-cs.length=0 by omega]
     exact hi.mono (by omega)
   ·rw[Dr,show(cs++[init]).length=cs.length+1 by simp,No hm]
    simp only[eJ,e1]
    have e3:(((cs.length+1:Nat):Int)-1).toNat=cs.length:=by omega
    rw[e3,if_pos ⟨by omega,by simp only[List.length_append,List.length_cons,List.length_nil];omega,by rw[fQ,List.getElem?_append_right (by omega),hu,Nat.sub_self];rfl⟩]
    exact λ h=>nomatch h
structure NdR(n:Nd):Prop where
 bm:∃b:Nat,n.bm=(b:Int)/\b<18446744073709551616
 main:n.main<=9223372036854775807
 prev:n.prev<=9223372036854775807
 status:n.status<=9223372036854775807
def vV(L:List aK):Prop:=∀v∈L,NdR v.nd
end

/- Tapes: choices out of a list of numbers. -/
end Go.Ct
namespace Go.Proofs.YtadnboagdhcedaaGreatDoor
section
open Go.RowKit Go.Ct
def An:List ByteArray:=[⟨#[97]⟩,⟨#[98]⟩,⟨#[99]⟩,⟨#[100]⟩,⟨#[97,98]⟩,⟨#[]⟩,⟨#[98,48]⟩,⟨#[107,101,121]⟩]
end

end Go.Proofs.YtadnboagdhcedaaGreatDoor

/- The reference of shape, part 2: the branches of a C-node. -/
import Derived.Test.YtadnboagdhcedaaGreatDoorGSh9
import Derived.Test.YtadnboagdhcedaaGreatDoorGJoin

set_option linter.unusedSimpArgs false
set_option linter.unusedVariables false
namespace Go.Proofs.YtadnboagdhcedaaGreatDoor
section
open Go Go.RowKit Go.Ct
def Np(L:List aI)(m:Nat)(V:aI)(u:List Nat)(j:Nat):Prop:=(aA L (V.xs.getD j 0)).nd.kind=4->uD m (aA L (V.xs.getD j 0)).nd.hash (aA L (V.xs.getD j 0)).nd.key u/\sl (aA L (V.xs.getD j 0)).nd.hash.toNat u.length=((fZ V.nd.bm.toNat 64).getD j 0).toNat
theorem Xr{h k:Nat}{u:List Nat}:fQ h (u++[k])↔fQ h u/\sl h u.length=k:=⟨Jr,λ⟨h1,h2⟩ j hj=>by
 rw[List.length_append,List.length_singleton] at hj
 by_cases e:j=u.length
 ·subst e
  rw[gF,List.getElem?_append_right (Nat.le_refl _),Nat.sub_self,h2]
  rfl
 ·rw[gF,List.getElem?_append_left (by omega),<- gF]
  exact h1 j (by omega)⟩
theorem H0{u:List Nat}{x:Int}(h:0<=x):nA u++[x]=nA (u++[x.toNat]):=by
 simp only[nA,List.map_append,List.map_cons,List.map_nil]
 rw[show((x.toNat:Nat):Int)=x by omega]
theorem yy{L:List aI}{V:aI}{lv:Nat}(h3:V.nd.kind=3)(h0:0<lv)(h:V.xs.length=0):¬C9 L V lv:=λ hp=>(hp h3 h0).1 (List.eq_nil_of_length_eq_zero h)
theorem aCC{L:List aI}{V:aI}{lv:Nat}(h:¬0<lv):C9 L V lv:=λ _ h0=>absurd h0 h
theorem aCv{L:List aI}{V:aI}{lv:Nat}(h:V.xs.length≠0)(h1:V.xs.length≠1):C9 L V lv:=λ _ _=>⟨λ e=>h (by rw[e];rfl),λ b e=>absurd (by rw[e];rfl) h1⟩
theorem az{L:List aI}{V:aI}{lv:Nat}(h3:V.nd.kind=3)(h0:0<lv)(h1:V.xs.length=1):(!((aA L (V.xs.getD 0 0)).nd.kind==2))=true↔¬C9 L V lv:=by
 obtain⟨b,hb⟩:=List.length_eq_one_iff.1 h1
 have e:V.xs.getD 0 0=b:=by rw[hb];rfl
 rw[e]
 simp only[Bool.not_eq_true',beq_eq_false_iff_ne,ne_eq]
 refine⟨λ h hp=>h ((hp h3 h0).2 b hb),λ h hk=>h λ _ _=>⟨by rw[hb];simp,λ c hc=>?_⟩⟩
 rw[hb] at hc
 cases hc
 exact hk
section
variable{L:List aI}{V:aI}{m h2 j:Nat}{u:List Nat}{ix:List Int}
theorem aCz{L:List aI}{V:aI}{lv:Nat}(h3:V.nd.kind=3)(h0:0<lv)(h1:V.xs.length=1)(h:(aA L (V.xs.getD 0 0)).nd.kind=2):C9 L V lv:=Classical.byContradiction λ hn=>by
 have:=(az h3 h0 h1).2 hn;rw[h] at this;exact absurd this (by decide)
theorem Og(k4:(aA L (V.xs.getD j 0)).nd.kind=4)(hh:(aA L (V.xs.getD j 0)).nd.hash=((h2:Nat):Int))(e:(fZ V.nd.bm.toNat 64).getD j 0=ix.getD j 0):Np L m V u j↔fQ h2 (u++[(ix.getD j 0).toNat])/\((jW (aA L (V.xs.getD j 0)).nd.key m:Nat):Int)=(aA L (V.xs.getD j 0)).nd.hash:=by
 unfold Np uD
 rw[Xr,e,hh,Int.toNat_natCast]
 exact⟨λ h=>⟨⟨(h k4).1.2,(h k4).2⟩,(h k4).1.1⟩,λ h _=>⟨⟨h.2,h.1.1⟩,h.1.2⟩⟩
theorem K3(k4:¬(aA L (V.xs.getD j 0)).nd.kind=4):false=true↔¬Np L m V u j:=⟨λ h=>(nomatch h),λ h=>absurd (λ h4=>absurd h4 k4) h⟩
theorem M4{q:Bool}(k4:(aA L (V.xs.getD j 0)).nd.kind=4)(hh:(aA L (V.xs.getD j 0)).nd.hash=((h2:Nat):Int))(e:(fZ V.nd.bm.toNat 64).getD j 0=ix.getD j 0)(hq:q=true↔fQ h2 (u++[(ix.getD j 0).toNat]))(h:¬q=true):true=true↔¬Np L m V u j:=⟨λ _ hp=>h (hq.2 ((Og k4 hh e).1 hp).1),λ _=>rfl⟩
theorem Lg{q:Bool}(k4:(aA L (V.xs.getD j 0)).nd.kind=4)(hh:(aA L (V.xs.getD j 0)).nd.hash=((h2:Nat):Int))(e:(fZ V.nd.bm.toNat 64).getD j 0=ix.getD j 0)(hq:q=true↔fQ h2 (u++[(ix.getD j 0).toNat]))(h:q=true):(!(((jW (aA L (V.xs.getD j 0)).nd.key m:Nat):Int)==(aA L (V.xs.getD j 0)).nd.hash))=true↔¬Np L m V u j:=by
 rw[Og k4 hh e]
 simp only[Bool.not_eq_true',beq_eq_false_iff_ne,ne_eq,hq.1 h,true_and]
end
theorem aAU{L:List aI}(ok:tM L){V:aI}(hV:V∈L)(h3:V.nd.kind=3):∃ix:List Int,(∀w:World,Calls Tryz.prog 78 #[.int .u64 V.nd.bm] w λ e w'=>∃x:Option Addr×Nat,e=.returned (.slice x.1 ix.length x.2)/\True/\SF w [] [] [] [(x.1,aH ix)] [] w')/\V.xs.length=ix.length/\ix.length<=64/\(∀y,0<=ix.getD y 0)/\∀y,(fZ V.nd.bm.toNat 64).getD y 0=ix.getD y 0:=by
 obtain⟨bt,hbt,hbl,hb3,_⟩:=ok.bm V hV
 have e:V.nd.bm.toNat=bt:=by omega
 refine⟨fZ bt 64,λ w=>zP rfl hbl hbt w,?_,?_,λ y=>xG _ _ _,λ y=>by rw[e]⟩
 ·rw[hb3 h3,pN]
 ·rw[pN];exact oY bt 64
theorem sP{a:Option Addr}{c h n:Nat}{hv:Int}{u:List Nat}{cs:List Int}{w:World}(e:hv=((h:Nat):Int))(en:n=u.length)(hh:h<18446744073709551616)(ha:Go.Ct.Cl w a (aH cs))(ec:cs=nA u)(hu:u.length<=11):Calls Tryz.prog 62 #[.int .u64 hv,.slice a n c] w λ e w'=>∃q:Bool,e=.returned (.bool q)/\(q=true↔fQ h u)/\St w [] [] w':=by
 subst e en ec
 exact ji hh ha hu
section
variable{L:List aI}{cs:List Int}{gen:Int}{m:Nat}{pn pc wp:Option Addr}{cn cc wc:Nat}{w:World}
set_option maxRecDepth 100000 in
set_option maxHeartbeats 4000000 in
theorem Pq(h:eP w L cs pn pc)(ok:tM L){V:aI}(hV:V∈L)(h3:V.nd.kind=3){u:List Nat}(hu:u.length<=10){i r a:Int}(hW:Go.Ct.Cl w wp (aH (nA u)))(hm:m<18446744073709551616) :
    Calls Tryz.prog 61 #[iF L cs gen pn cn pc cc,.agg ⟨[.int .i64 i,.int .i64 r,.int .i64 a,.int .i64 ((u.length:Nat):Int),.slice wp u.length wc]⟩,V.nd.v,.int .u64 ((m:Nat):Int)] w λ e w'=>∃q:Bool,e=.returned (.bool q)/\(q=true↔C9 L V u.length/\∀j,j<V.xs.length->Np L m V u j)/\St w [] [] w':=by
  have hf:=ok.fit V hV;have hn:=hf.brN;have hl:=ok.len;have hbr:(V.nd.brA,aH V.xs)∈bD L:=gK.2 ⟨V,hV,by simp[aI.fr]⟩;obtain⟨ix,hIx,hxi,hle,hnn,hie⟩:=aAU ok hV h3
  have hxm:∀j,j<V.xs.length->V.xs.getD j 0<=9223372036854775807:=λ j hj=>by
    have:=ok.br V hV (V.xs.getD j 0) (by rw[gF,List.getElem?_eq_getElem hj];exact List.getElem_mem _);omega
  have hwl:(nA u).length=u.length:=xK u
  refine enter Tryz.func61 Tryz.ntmps61 rfl rfl (SF.begin (A:=(wp,aH (nA u))::(pn,fX L)::(pc,aH cs)::bD L) (λ f hf=>by
rcases List.mem_cons.1 hf with rfl|hf
· exact hW
rcases List.mem_cons.1 hf with rfl|hf
· exact h.nds
rcases List.mem_cons.1 hf with rfl|hf
· exact h.cls
· exact h.O9 f hf)) ?_
  simp only[cP]
  simp only[iF,Nd.v,Nd.cells]
  all_goals (refine J0 ?_;refine bF (λ x4=>?_);refine bF (λ x5=>?_);refine bF (λ x6=>?_);refine gX ?_)
  all_goals
   refine eN [8,12,13,14,15,16,17,18,19,20,21,22,23,24,25,26,27,28,29,30,31,32,33,34,35,36] (λ _:Unit=>[]) (λ _=>C9 L V u.length) (λ _=>[(x6,.cells ⟨V.nd.cells⟩ 77 (0,0)),(x5,.cells ⟨[.int .i64 i,.int .i64 r,.int .i64 a,.int .i64 ((u.length:Nat):Int),.slice wp u.length wc]⟩ 102 (0,0)),(x4,.cells ⟨[.slice pn L.length cn,.slice pc cs.length cc,.int .i64 gen]⟩ 25 (0,0))]) (λ _=>[]) (λ _=>[]) (by decide) (λ _=>by exact rfl) ?_ (λ z f hx=>?_)
   · all_goals (refine aV ?_)
     all_goals (refine gP [0,1,2,3,4,5,6,7,8,9,10,11,12,13,14,15,16,17,18,19,20,21,22,23,24] ?_;refine iT ?_;refine Qa ?_;refine aL ?_)
     all_goals ((refine Eu 15 (λ g15=>?_) (λ g15=>?_)<;>(try (first|contradiction|(exfalso;omega)))<;>(first|refine bX ?_|(refine aN ?_))))
     all_goals ((first|refine bX ?_|(refine aZ ?_));(first|refine bX ?_|(refine iW ?_));(first|refine bX ?_|(refine jQ ?_));(first|refine bX ?_|(refine aL ?_)))
     all_goals (first|refine bX ?_|(refine Eu 20 (λ g20=>?_) (λ g20=>?_)<;>(try (first|contradiction|(exfalso;omega)))<;>(first|refine bX ?_|(refine aN ?_))))
     all_goals ((first|refine bX ?_|(refine aZ ?_));(first|refine bX ?_|(refine iW ?_));(first|refine bX ?_|(refine jQ ?_));(first|refine bX ?_|(refine aL ?_)))
     all_goals (first|refine bX ?_|(refine Eu 25 (λ g25=>?_) (λ g25=>?_)<;>(try (first|contradiction|(exfalso;omega)))<;>(first|refine bX ?_|(refine aZ ?_))))
     all_goals (refine Nu ?_;(first|refine bX ?_|(refine bJ (i:=17) (hq:=(bE (lst:=V.xs) (k:=0) rf rf eC wn (.bO (nP.eI (List.mem_cons_of_mem _ (List.mem_cons_of_mem _ (List.mem_cons_of_mem _ hbr))))) (by omega) (by omega))) (h:=?_)));(first|refine bX ?_|(refine bJ (i:=18) (hq:=(bP (lst:=V.xs) (q:=0) rf wn (.bO (nP.eI (List.mem_cons_of_mem _ (List.mem_cons_of_mem _ (List.mem_cons_of_mem _ hbr))))) (by omega))) (h:=?_)));(first|refine bX ?_|(refine cA (i:=19) (hq:=(cV (hc:=λ w1 hw=>jR (gen:=gen) (cn:=cn) (cc:=cc) (hw.kB (.inr (.inl (.tail _ (.head _)))) (.inr (.inl (.tail _ (.tail _ (.head _))))) (λ f hf=>.inr (.inl (.tail _ (.tail _ (.tail _ hf))))) h.fit) (V.xs.getD 0 0) (hxm 0 (by omega)) hl))) (h:=λ x31=>?_)));(first|refine bX ?_|(refine lO ?_));(first|refine bX ?_|(refine qS ?_));(first|refine bX ?_|(refine eS ?_));(first|refine bX ?_|(refine eS ?_));refine eS ?_;refine dJ ?_)
     all_goals
      refine bA (λ c36=>?_) (λ c36=>?_)
      · try exact nv c36
        all_goals try (first|contradiction|(exfalso;omega))
        all_goals refine cR ?_
        all_goals
         refine aR Tryz.results61 (λ w hw=>?_);exact⟨false,rfl,⟨λ h=>(nomatch h),λ hp=>absurd hp.1 (by first|exact yy h3 (by omega) (by omega)|exact(az h3 (by omega) (by omega)).1 (by simpa using c36))⟩,hw.done⟩
      · try exact nv c36
        all_goals try (first|contradiction|(exfalso;omega))
        all_goals refine bB ?_
        all_goals
         refine eQ (()) ?_ (hw1:=λ w hw=>hw)
         · first|exact aCC (by omega)|exact aCv (by omega) (by omega)|exact aCz h3 (by omega) (by omega) (by simpa using c36)
   refine K0a ?_;have hz:=hx
  all_goals (refine gH ?_;refine aD (cF (hc:=λ w1 hw=>hIx w1)) (λ x39 h39=>?_);refine gX ?_;refine zR ?_)
  all_goals
   refine kK [8,10,11,40,41,42,43,44,45,46,47,48,49,50,51,52,53,54,55,56,57,58,59,60,61,62,63,64,65,66,67,68,69,70,71,72,73,74,75,76,77,78,79,80,81] (λ y:Nat=>[(10,.int .i64 ((y:Nat):Int))]) (λ y=>y<=V.xs.length/\∀k,k<y->Np L m V u k) (λ _=>_) (λ _=>[(x39.1,aH ix)]) (λ _=>_) (λ y=>V.xs.length-y) (0) (⟨Nat.zero_le _,λ k hk=>absurd hk (Nat.not_lt_zero k)⟩) (λ y f hx=>?_) (hw0:=λ w hw=>hw);refine K0a ?_;have hy:=hx;all_goals (refine jL ?_;refine I3 ?_;refine rJ ?_)
   all_goals
    refine bA (λ c44=>?_) (λ c44=>?_)
    · all_goals try (first|contradiction|(exfalso;omega))
      all_goals
       have hyl:y<V.xs.length:=by omega
       obtain⟨k,hk,hkl,hkm⟩:=ok.at hV (j:=y) hyl
       obtain⟨h2,hh2,hh2l⟩:=ok.hash _ hkm
       have hixy:0<=ix.getD y 0:=hnn y;have hhv:(aA L (V.xs.getD y 0)).nd.hash=((h2:Nat):Int):=by rw[hk];exact hh2
       have hke:(aA L (V.xs.getD y 0)).nd.kind=4->(aA L (V.xs.getD y 0)).nd.key.size<=64:=by rw[hk];exact λ h=>ok.key _ hkm (.inl h)
      all_goals (refine mZ ?_;refine aV ?_)
      all_goals
       refine Bt [11,47,48,49,50,51,52,53] (λ z2:Nat=>[(53,(aA L (V.xs.getD y 0)).nd.v),(11,.pointer (some ⟨z2,0,none⟩))]) (λ _=>True) (λ z2=>[(z2,.cells ⟨(aA L (V.xs.getD y 0)).nd.cells⟩ 77 (0,0))]) (λ _=>[]) (λ _=>[]) (by decide) (λ _=>by exact rfl) (λ _=>by simp only[List.nil_append,List.cons_append];exact rfl) (λ _=>by simp only[List.nil_append,List.cons_append];exact rfl) (λ _=>by simp only[List.nil_append,List.cons_append];exact rfl) ?_ (λ z2 f hx=>?_)
       · refine K1t ?_;all_goals (refine aZ ?_;refine Kd1 ?_;refine bJ (i:=4) (hq:=(bE (lst:=V.xs) (k:=y) rf rf eC wn (.bO (nP.eI (List.mem_cons_of_mem _ (List.mem_cons_of_mem _ (List.mem_cons_of_mem _ hbr))))) (by omega) (by omega))) (h:=?_);refine bJ (i:=5) (hq:=(bP (lst:=V.xs) (q:=y) rf wn (.bO (nP.eI (List.mem_cons_of_mem _ (List.mem_cons_of_mem _ (List.mem_cons_of_mem _ hbr))))) (by omega))) (h:=?_))
         all_goals
          refine fV (E:=[6,7]) (by decide +kernel) ((.cons ?_ (.cons ?_ .nil)))
          · refine Ga (i:=6) (hq:=(cV (hc:=λ w1 hw=>jR (gen:=gen) (cn:=cn) (cc:=cc) (hw.kB (.inr (.inl (.tail _ (.head _)))) (.inr (.inl (.tail _ (.tail _ (.head _))))) (λ f hf=>.inr (.inl (.tail _ (.tail _ (.tail _ hf))))) h.fit) (V.xs.getD y 0) (hxm y (by omega)) hl))) (h:=λ x53=>?_);all_goals (refine gG (hfire:=(λ _=>by first|((repeat (first|exact aG.nil|refine aG.cons (by first|exact bY|exact cG (hq:=bE (lst:=V.xs) (k:=y) rf rf eC wn (.bO (nP.eI (List.mem_cons_of_mem _ (List.mem_cons_of_mem _ (List.mem_cons_of_mem _ hbr))))) (by omega) (by omega))|exact cG (hq:=bP (lst:=V.xs) (q:=y) rf wn (.bO (nP.eI (List.mem_cons_of_mem _ (List.mem_cons_of_mem _ (List.mem_cons_of_mem _ hbr))))) (by omega))|exact a_un) ?_));done)|(refine cQ ?_;(repeat (first|exact aG.nil|refine aG.cons (by first|exact bY|exact cG (hq:=bE (lst:=V.xs) (k:=y) rf rf eC wn (.bO (nP.eI (List.mem_cons_of_mem _ (List.mem_cons_of_mem _ (List.mem_cons_of_mem _ hbr))))) (by omega) (by omega))|exact cG (hq:=bP (lst:=V.xs) (q:=y) rf wn (.bO (nP.eI (List.mem_cons_of_mem _ (List.mem_cons_of_mem _ (List.mem_cons_of_mem _ hbr))))) (by omega))|exact a_un) ?_));done))) (h:=λ x11=>?_);refine vF ?_)
            all_goals
             refine eQ (x11) ?_ (hw1:=λ w hw=>hw.zA1)
             · trivial
          · refine gW (i:=7) (hfire:=(λ _=>by first|((repeat (first|exact aG.nil|refine aG.cons (by first|exact bY|exact cG (hq:=bE (lst:=V.xs) (k:=y) rf rf eC wn (.bO (nP.eI (List.mem_cons_of_mem _ (List.mem_cons_of_mem _ (List.mem_cons_of_mem _ hbr))))) (by omega) (by omega))|exact cG (hq:=bP (lst:=V.xs) (q:=y) rf wn (.bO (nP.eI (List.mem_cons_of_mem _ (List.mem_cons_of_mem _ (List.mem_cons_of_mem _ hbr))))) (by omega))|exact a_un) ?_));done)|(refine cQ ?_;(repeat (first|exact aG.nil|refine aG.cons (by first|exact bY|exact cG (hq:=bE (lst:=V.xs) (k:=y) rf rf eC wn (.bO (nP.eI (List.mem_cons_of_mem _ (List.mem_cons_of_mem _ (List.mem_cons_of_mem _ hbr))))) (by omega) (by omega))|exact cG (hq:=bP (lst:=V.xs) (q:=y) rf wn (.bO (nP.eI (List.mem_cons_of_mem _ (List.mem_cons_of_mem _ (List.mem_cons_of_mem _ hbr))))) (by omega))|exact a_un) ?_));done))) (h:=λ x11=>?_);all_goals (refine cA (i:=6) (hq:=(cV (hc:=λ w1 hw=>jR (gen:=gen) (cn:=cn) (cc:=cc) (hw.kB (.inr (.inl (.tail _ (.head _)))) (.inr (.inl (.tail _ (.tail _ (.head _))))) (λ f hf=>.inr (.inl (.tail _ (.tail _ (.tail _ hf))))) h.fit) (V.xs.getD y 0) (hxm y (by omega)) hl))) (h:=λ x53=>?_);refine vF ?_)
            all_goals
             refine eQ (x11) ?_ (hw1:=λ w hw=>hw.zA1)
             · trivial
       refine K0a ?_
      all_goals refine aV ?_
      all_goals
       refine Bt [54,55,56,57,58,59,60,61,62,63,64,65,66,67,68,69,70,71,72,73,74,75,76,77,78,79,80,81] (λ z3:Bool=>[(81,.bool z3)]) (λ z3=>z3=true↔¬Np L m V u y) (λ _=>[]) (λ _=>[]) (λ _=>[]) (by decide) (λ _=>by exact rfl) (λ _=>by simp only[List.nil_append,List.cons_append];exact rfl) (λ _=>by simp only[List.nil_append,List.cons_append];exact rfl) (λ _=>by simp only[List.nil_append,List.cons_append];exact rfl) ?_ (λ z3 f hx=>?_)
       · by_cases k4:(aA L (V.xs.getD y 0)).nd.kind=4
         · refine fY (.one 0 [] (.one 1 [] (.one 2 [] (.one 3 [] (.one 4 [] (.one 5 [] (.one 7 [] (.one 8 [] (.one 10 [] (.one 11 [] (.one 12 [] (.one 13 [] (.two 6 [5,8,12,13] (.two 9 [5,12,13] (.one 14 [5,8] (.one 15 [5] (.one 16 [] (.one 17 [] (.one 18 [] (.one 19 [] (.one 20 [] (.one 21 [] (.one 23 [] (.one 24 [] (.one 22 [24] (.one 25 [] (.one 26 [] (.one 27 [] .nil)))))))))))))) 0 [] (.two 14 [5,8] (.one 9 [5,12,13] (.one 15 [5] (.one 16 [] (.one 17 [] (.one 18 [] (.one 19 [] (.one 20 [] (.one 21 [] (.one 23 [] (.one 24 [] (.one 22 [24] (.one 25 [] (.one 26 [] (.one 27 [] .nil)))))))))))))) 0 [] .nil)) 0 [] (.two 14 [5,8] (.one 6 [5,8,12,13] (.one 9 [5,12,13] (.one 15 [5] (.one 16 [] (.one 17 [] (.one 18 [] (.one 19 [] (.one 20 [] (.one 21 [] (.one 23 [] (.one 24 [] (.one 22 [24] (.one 25 [] (.one 26 [] (.one 27 [] .nil))))))))))))))) 0 [] .nil)))))))))))))) ?_;all_goals (refine iT ?_;refine jQ ?_;refine aL ?_)
           all_goals ((refine Eu 57 (λ g57=>?_) (λ g57=>?_)<;>(try (first|contradiction|(exfalso;omega)))<;>((refine aN ?_))))
           all_goals (((refine aZ ?_));refine Nu ?_;((refine aL ?_));((refine aL ?_));((refine bJ (i:=12) (hq:=(bE (lst:=ix) (k:=y) rf rf eC wn (by first|exact .new .head|exact .new (.tail .head)) (by omega) (by omega))) (h:=?_)));((refine bJ (i:=13) (hq:=(bP (lst:=ix) (q:=y) rf wn (by first|exact .new .head|exact .new (.tail .head)) (by omega))) (h:=?_))))
           all_goals
            refine fV (E:=[6,14]) (by decide +kernel) ((.cons ?_ (.cons ?_ .nil)))
            · refine vJ (i:=6) (hfire:=(λ _=>by first|(refine aG.cons (by exact bY) ?_;refine aG.cons (by exact bY) ?_;refine aG.cons (by exact cG (hq:=bE (lst:=ix) (k:=y) rf rf eC wn (by first|exact .new .head|exact .new (.tail .head)) (by omega) (by omega))) ?_;refine aG.cons (by exact cG (hq:=bP (lst:=ix) (q:=y) rf wn (by first|exact .new .head|exact .new (.tail .head)) (by omega))) ?_;exact aG.nil)|(refine cQ ?_;refine aG.cons (by exact bY) ?_;refine aG.cons (by exact bY) ?_;refine aG.cons (by exact cG (hq:=bE (lst:=ix) (k:=y) rf rf eC wn (by first|exact .new .head|exact .new (.tail .head)) (by omega) (by omega))) ?_;refine aG.cons (by exact cG (hq:=bP (lst:=ix) (q:=y) rf wn (by first|exact .new .head|exact .new (.tail .head)) (by omega))) ?_;exact aG.nil))) (h:=λ x60=>?_)
              all_goals
               refine fV (E:=[9,14]) (by decide +kernel) ((.cons ?_ (.cons ?_ .nil)))
               · (refine Gg (i:=9) (hfire:=(λ _=>by first|(refine aG.cons (by exact bY) ?_;refine aG.cons (by exact cG (hq:=bE (lst:=ix) (k:=y) rf rf eC wn (by first|exact .new .head|exact .new (.tail .head)) (by omega) (by omega))) ?_;refine aG.cons (by exact cG (hq:=bP (lst:=ix) (q:=y) rf wn (by first|exact .new .head|exact .new (.tail .head)) (by omega))) ?_;exact aG.nil)|(refine cQ ?_;refine aG.cons (by exact bY) ?_;refine aG.cons (by exact cG (hq:=bE (lst:=ix) (k:=y) rf rf eC wn (by first|exact .new .head|exact .new (.tail .head)) (by omega) (by omega))) ?_;refine aG.cons (by exact cG (hq:=bP (lst:=ix) (q:=y) rf wn (by first|exact .new .head|exact .new (.tail .head)) (by omega))) ?_;exact aG.nil))) (h:=λ x63=>?_);try (refine dO (λ h63=>?_)));all_goals (((refine dA (hfire:=(λ _=>by first|(refine aG.cons (by exact bY) ?_;refine aG.cons (by exact bY) ?_;exact aG.nil)|(refine cQ ?_;refine aG.cons (by exact bY) ?_;refine aG.cons (by exact bY) ?_;exact aG.nil))) (h:=λ x68=>?_)));((((refine fP (h:=λ x69=>?_);try (refine dO (λ h69=>?_))))));((refine bL (i:=16) (hq:=(c0 (V:=.bool) (hc:=λ w1 hw=>sP (u:=u++[(ix.getD y 0).toNat]) (h:=h2) hhv (by rw[List.length_append,List.length_singleton];omega) hh2l (hw.cl (.own .head)) (by rw[List.nil_append];exact H0 hixy) (by rw[List.length_append,List.length_singleton];omega)))) (h:=λ x70 h70=>?_)));((refine zJ ?_));((refine aL ?_)))
                 all_goals ((refine Eu 72 (λ g72=>?_) (λ g72=>?_)<;>(try (first|contradiction|(exfalso;omega)))<;>(first|refine bX ?_|(refine aN ?_))))
                 all_goals ((first|refine bX ?_|(refine aZ ?_));(first|refine bX ?_|(refine aL ?_));refine Nu ?_;(first|refine bX ?_|(refine cA (i:=22) (hq:=(cV (hc:=λ w1 hw=>pM _ hm (by have:=hke g57;omega) w1))) (h:=λ x76=>?_)));(first|refine bX ?_|(refine qS ?_));((refine eS ?_));refine eS ?_;refine dJ ?_)
                 all_goals
                  refine K0c ?_
                  · first|exact K3 g57|exact M4 g57 hhv (hie y) h70 (by simpa using g72)|exact Lg g57 hhv (hie y) h70 (by simpa using g72)
               · refine jE (i:=14) (hfire:=(λ _=>by first|(refine aG.cons (by exact bY) ?_;refine aG.cons (by exact bY) ?_;exact aG.nil)|(refine cQ ?_;refine aG.cons (by exact bY) ?_;refine aG.cons (by exact bY) ?_;exact aG.nil))) (h:=λ x68=>?_);all_goals (((((refine fP (hfire:=(λ _=>by first|(refine aG.cons (by exact bY) ?_;refine aG.cons (by exact cG (hq:=bE (lst:=ix) (k:=y) rf rf eC wn (by first|exact .new .head|exact .new (.tail .head)) (by omega) (by omega))) ?_;refine aG.cons (by exact cG (hq:=bP (lst:=ix) (q:=y) rf wn (by first|exact .new .head|exact .new (.tail .head)) (by omega))) ?_;exact aG.nil)|(refine cQ ?_;refine aG.cons (by exact bY) ?_;refine aG.cons (by exact cG (hq:=bE (lst:=ix) (k:=y) rf rf eC wn (by first|exact .new .head|exact .new (.tail .head)) (by omega) (by omega))) ?_;refine aG.cons (by exact cG (hq:=bP (lst:=ix) (q:=y) rf wn (by first|exact .new .head|exact .new (.tail .head)) (by omega))) ?_;exact aG.nil))) (h:=λ x63=>?_);try (refine dO (λ h63=>?_))))));((((refine fP (h:=λ x69=>?_);try (refine dO (λ h69=>?_))))));((refine bL (i:=16) (hq:=(c0 (V:=.bool) (hc:=λ w1 hw=>sP (u:=u++[(ix.getD y 0).toNat]) (h:=h2) hhv (by rw[List.length_append,List.length_singleton];omega) hh2l (hw.cl (.own .head)) (by rw[List.nil_append];exact H0 hixy) (by rw[List.length_append,List.length_singleton];omega)))) (h:=λ x70 h70=>?_)));((refine zJ ?_));((refine aL ?_)))
                 all_goals ((refine Eu 72 (λ g72=>?_) (λ g72=>?_)<;>(try (first|contradiction|(exfalso;omega)))<;>(first|refine bX ?_|(refine aN ?_))))
                 all_goals ((first|refine bX ?_|(refine aZ ?_));(first|refine bX ?_|(refine aL ?_));refine Nu ?_;(first|refine bX ?_|(refine cA (i:=22) (hq:=(cV (hc:=λ w1 hw=>pM _ hm (by have:=hke g57;omega) w1))) (h:=λ x76=>?_)));(first|refine bX ?_|(refine qS ?_));((refine eS ?_));refine eS ?_;refine dJ ?_)
                 all_goals
                  refine K0c ?_
                  · first|exact K3 g57|exact M4 g57 hhv (hie y) h70 (by simpa using g72)|exact Lg g57 hhv (hie y) h70 (by simpa using g72)
            · refine jE (i:=14) (hfire:=(λ _=>by first|(refine aG.cons (by exact bY) ?_;refine aG.cons (by exact bY) ?_;exact aG.nil)|(refine cQ ?_;refine aG.cons (by exact bY) ?_;refine aG.cons (by exact bY) ?_;exact aG.nil))) (h:=λ x68=>?_);all_goals (((refine Az (hfire:=(λ _=>by first|(refine aG.cons (by exact bY) ?_;refine aG.cons (by exact bY) ?_;refine aG.cons (by exact cG (hq:=bE (lst:=ix) (k:=y) rf rf eC wn (by first|exact .new .head|exact .new (.tail .head)) (by omega) (by omega))) ?_;refine aG.cons (by exact cG (hq:=bP (lst:=ix) (q:=y) rf wn (by first|exact .new .head|exact .new (.tail .head)) (by omega))) ?_;exact aG.nil)|(refine cQ ?_;refine aG.cons (by exact bY) ?_;refine aG.cons (by exact bY) ?_;refine aG.cons (by exact cG (hq:=bE (lst:=ix) (k:=y) rf rf eC wn (by first|exact .new .head|exact .new (.tail .head)) (by omega) (by omega))) ?_;refine aG.cons (by exact cG (hq:=bP (lst:=ix) (q:=y) rf wn (by first|exact .new .head|exact .new (.tail .head)) (by omega))) ?_;exact aG.nil))) (h:=λ x60=>?_)));((((refine fP (hfire:=(λ _=>by first|(refine aG.cons (by exact bY) ?_;refine aG.cons (by exact cG (hq:=bE (lst:=ix) (k:=y) rf rf eC wn (by first|exact .new .head|exact .new (.tail .head)) (by omega) (by omega))) ?_;refine aG.cons (by exact cG (hq:=bP (lst:=ix) (q:=y) rf wn (by first|exact .new .head|exact .new (.tail .head)) (by omega))) ?_;exact aG.nil)|(refine cQ ?_;refine aG.cons (by exact bY) ?_;refine aG.cons (by exact cG (hq:=bE (lst:=ix) (k:=y) rf rf eC wn (by first|exact .new .head|exact .new (.tail .head)) (by omega) (by omega))) ?_;refine aG.cons (by exact cG (hq:=bP (lst:=ix) (q:=y) rf wn (by first|exact .new .head|exact .new (.tail .head)) (by omega))) ?_;exact aG.nil))) (h:=λ x63=>?_);try (refine dO (λ h63=>?_))))));((((refine fP (h:=λ x69=>?_);try (refine dO (λ h69=>?_))))));((refine bL (i:=16) (hq:=(c0 (V:=.bool) (hc:=λ w1 hw=>sP (u:=u++[(ix.getD y 0).toNat]) (h:=h2) hhv (by rw[List.length_append,List.length_singleton];omega) hh2l (hw.cl (.own .head)) (by rw[List.nil_append];exact H0 hixy) (by rw[List.length_append,List.length_singleton];omega)))) (h:=λ x70 h70=>?_)));((refine zJ ?_));((refine aL ?_)))
              all_goals ((refine Eu 72 (λ g72=>?_) (λ g72=>?_)<;>(try (first|contradiction|(exfalso;omega)))<;>(first|refine bX ?_|(refine aN ?_))))
              all_goals ((first|refine bX ?_|(refine aZ ?_));(first|refine bX ?_|(refine aL ?_));refine Nu ?_;(first|refine bX ?_|(refine cA (i:=22) (hq:=(cV (hc:=λ w1 hw=>pM _ hm (by have:=hke g57;omega) w1))) (h:=λ x76=>?_)));(first|refine bX ?_|(refine qS ?_));((refine eS ?_));refine eS ?_;refine dJ ?_)
              all_goals
               refine K0c ?_
               · first|exact K3 g57|exact M4 g57 hhv (hie y) h70 (by simpa using g72)|exact Lg g57 hhv (hie y) h70 (by simpa using g72)
         · refine gP [0,1,2,3,4,5,6,7,8,9,10,11,12,13,14,15,16,17,18,19,20,21,22,23,24,25,26,27] ?_;all_goals (refine iT ?_;refine jQ ?_;refine aL ?_)
           all_goals ((refine Eu 57 (λ g57=>absurd g57 k4) (λ g57=>?_);refine bX ?_))
           all_goals (refine bX ?_;refine bX ?_;refine bX ?_;refine bX ?_;refine bX ?_;refine bX ?_;refine bX ?_;refine bX ?_;refine bX ?_;refine bX ?_;refine bX ?_;refine bX ?_;refine bX ?_;refine bX ?_;refine bX ?_;refine bX ?_;refine bX ?_;refine bX ?_;refine bX ?_;refine bX ?_;refine bX ?_;refine bX ?_;refine eS ?_;refine dJ ?_)
           all_goals
            refine K0c ?_
            · first|exact K3 g57|exact M4 g57 hhv (hie y) h70 (by simpa using g72)|exact Lg g57 hhv (hie y) h70 (by simpa using g72)
       refine K0a ?_;have hz3:=hx
      all_goals
       refine bA (λ c81=>?_) (λ c81=>?_)
       · all_goals try (first|contradiction|(exfalso;omega))
         all_goals refine cR ?_
         all_goals
          refine aR Tryz.results61 (λ w hw=>?_);exact⟨false,rfl,⟨λ h=>(nomatch h),λ hp=>absurd (hp.2 y hyl) (hz3.1 (by simpa using c81))⟩,hw.done⟩
       · all_goals try (first|contradiction|(exfalso;omega))
         all_goals (refine Kc1 ?_)
         all_goals
          refine K2b ?_
          · exact⟨by omega,Ds hy.2 (Classical.byContradiction λ h=>by have:=hz3.2 h;simp_all)⟩
    · all_goals try (first|contradiction|(exfalso;omega))
      all_goals (refine bM rfl ?_;refine cR ?_)
      all_goals
       refine aR Tryz.results61 (λ w hw=>?_);exact⟨true,rfl,⟨λ _=>⟨hz,λ j hj=>hy.2 j (by omega)⟩,λ _=>rfl⟩,hw.done⟩
end
end

/- The reference of shape, part 3: whether a place is good. -/
section
open Go Go.RowKit Go.Ct
def A9(L:List aI)(m:Nat)(V:aI)(u:List Nat)(i a:Int):Prop:=(a<=0∨(aA L i).nd.gen<=(aA L a).nd.gen)/\mT V.nd.kind u.length/\C9 L V u.length/\pHs L m V u
section
variable{L:List aI}{m h:Nat}{V:aI}{u:List Nat}{i a:Int}
theorem aCS(h:¬(a<=0∨(aA L i).nd.gen<=(aA L a).nd.gen)):¬A9 L m V u i a:=λ g=>h g.1
theorem gv3(hg:a<=0∨(aA L i).nd.gen<=(aA L a).nd.gen)(k:V.nd.kind=3)(hl:u.length<11):A9 L m V u i a↔C9 L V u.length/\∀j,j<V.xs.length->Np L m V u j :=
 ⟨λ g=>⟨g.2.2.1,λ j hj=>g.2.2.2.h3 k j hj⟩,λ⟨h1,h2⟩=>⟨hg,.inl ⟨k,hl⟩,h1,⟨λ k5=>by omega,λ k6=>by omega,λ _ j hj=>h2 j hj⟩⟩⟩
theorem aCu(k:V.nd.kind=3)(hl:¬u.length<11):¬A9 L m V u i a:=λ g=>by
 have:=g.2.1;unfold mT at this;omega
theorem gv5(hg:a<=0∨(aA L i).nd.gen<=(aA L a).nd.gen)(k:V.nd.kind=5)(hl:0<u.length)(hh:V.nd.hash=((h:Nat):Int)):A9 L m V u i a↔fQ h u/\((jW V.nd.key m:Nat):Int)=V.nd.hash:=by
 refine⟨λ g=>?_,λ⟨h1,h2⟩=>⟨hg,.inr (.inl ⟨k,hl⟩),λ k3=>by omega,⟨λ _=>⟨h2,?_⟩,λ k6=>by omega,λ k3=>by omega⟩⟩⟩
 ·have:=g.2.2.2.h5 k;have h3:=this.2;rw[hh,Int.toNat_natCast] at h3;exact⟨h3,this.1⟩
 ·rw[hh,Int.toNat_natCast]
  exact h1
theorem aCI(k:V.nd.kind=5)(hl:¬0<u.length):¬A9 L m V u i a:=λ g=>by
 have:=g.2.1;unfold mT at this;omega
theorem gv6(hg:a<=0∨(aA L i).nd.gen<=(aA L a).nd.gen)(k:V.nd.kind=6)(hl:u.length=11)(hh:V.nd.hash=((h:Nat):Int))(h0:V.nd.kind=6->V.ys≠[]):A9 L m V u i a↔fQ h u/\∀p∈V.ys,((jW p.1 m:Nat):Int)=V.nd.hash:=by
 refine⟨λ g=>⟨?_,λ p hp=>(g.2.2.2.h6 k p hp).1⟩,λ⟨h1,h2⟩=>⟨hg,.inr (.inr ⟨k,hl⟩),λ k3=>by omega,⟨λ k5=>by omega,λ _ p hp=>⟨h2 p hp,?_⟩,λ k3=>by omega⟩⟩⟩
 ·obtain⟨p,hp⟩:=List.exists_mem_of_ne_nil _ (h0 k)
  have h3:=(g.2.2.2.h6 k p hp).2;rw[hh,Int.toNat_natCast] at h3;exact h3
 ·rw[hh,Int.toNat_natCast]
  exact h1
theorem aCJ(k:V.nd.kind=6)(hl:¬u.length=11):¬A9 L m V u i a:=λ g=>by
 have:=g.2.1;unfold mT at this;omega
theorem Yq{p:Prop}(h:¬p):false=true↔p:=⟨λ e=>(nomatch e),λ e=>absurd e h⟩
end
section
variable{L:List aI}{cs:List Int}{gen:Int}{m:Nat}{pn pc wp:Option Addr}{cn cc wc:Nat}{w:World}
set_option maxRecDepth 100000 in
set_option maxHeartbeats 1000000 in
theorem qz(h:eP w L cs pn pc)(ok:tM L){V:aI}{i r a:Int}(hr:aA L r=V)(hV:V∈L)(hM:V.nd.kind=3∨V.nd.kind=5∨V.nd.kind=6)(h6:V.nd.kind=6->V.ys≠[]){u:List Nat}(hu:u.length<=11)(b1:i<=9223372036854775807)(b2:r<=9223372036854775807)(b3:a<=9223372036854775807)(hW:Go.Ct.Cl w wp (aH (nA u)))(hm:m<18446744073709551616) :
  Calls Tryz.prog 44 #[iF L cs gen pn cn pc cc,.agg ⟨[.int .i64 i,.int .i64 r,.int .i64 a,.int .i64 ((u.length:Nat):Int),.slice wp u.length wc]⟩,.int .u64 ((m:Nat):Int)] w λ e w'=>∃q:Bool,e=.returned (.bool q)/\(q=true↔A9 L m V u i a)/\St w [] [] w':=by
 have hf:=ok.fit V hV;have hps:=hf.prS;have hpn:=hf.prN;have hl:=ok.len;obtain⟨hh,hhe,hhl⟩:=ok.hash V hV
 have hpr:(V.nd.prA,dK V.ys)∈bD L:=gK.2 ⟨V,hV,by simp[aI.fr]⟩
 refine enter Tryz.func44 Tryz.ntmps44 rfl rfl (SF.begin (A:=(wp,aH (nA u))::(pn,fX L)::(pc,aH cs)::bD L) (λ f hf=>by
rcases List.mem_cons.1 hf with rfl|hf
·exact hW
rcases List.mem_cons.1 hf with rfl|hf
·exact h.nds
rcases List.mem_cons.1 hf with rfl|hf
·exact h.cls
·exact h.O9 f hf)) ?_
 simp only[cP]
 simp only[iF]
 all_goals (refine J0 ?_;refine bF (λ x3=>?_);refine bF (λ x4=>?_);refine J1 ?_;refine iH ?_;refine J3 ?_;refine aS (cV (v:=V.nd.v) (hc:=λ w1 hw=>by have h9:=jR (gen:=gen) (cn:=cn) (cc:=cc) (hw.kB (.inr (.inl (.tail _ (.head _)))) (.inr (.inl (.tail _ (.tail _ (.head _))))) (λ f hf=>.inr (.inl (.tail _ (.tail _ (.tail _ hf))))) h.fit) r b2 hl;rw[hr] at h9;exact h9)) (λ x11=>?_);refine aT (λ x7=>?_);refine J5 ?_;refine aV ?_;refine aV ?_;refine dZ [(0,[]),(1,[]),(2,[]),(3,[]),(4,[]),(5,[]),(6,[]),(9,[]),(10,[]),(11,[]),(7,[9,11]),(8,[]),(12,[]),(13,[]),(14,[]),(15,[])] ?_;refine iT ?_;refine Qa ?_;refine aL ?_)
 all_goals ((refine Eu 15 (λ g15=>?_) (λ g15=>?_)<;>(try (first|contradiction|(exfalso;omega)))<;>(first|refine bX ?_|(refine aZ ?_))))
 all_goals (refine Nu ?_;(first|refine bX ?_|(refine aZ ?_));refine Nu ?_;(first|refine bX ?_|(refine cA (i:=7) (hq:=(cV (hc:=λ w1 hw=>jR (gen:=gen) (cn:=cn) (cc:=cc) (hw.kB (.inr (.inl (.tail _ (.head _)))) (.inr (.inl (.tail _ (.tail _ (.head _))))) (λ f hf=>.inr (.inl (.tail _ (.tail _ (.tail _ hf))))) h.fit) i b1 hl))) (h:=λ x19=>?_)));(first|refine bX ?_|(refine lO ?_));(first|refine bX ?_|(refine cA (i:=12) (hq:=(cV (hc:=λ w1 hw=>jR (gen:=gen) (cn:=cn) (cc:=cc) (hw.kB (.inr (.inl (.tail _ (.head _)))) (.inr (.inl (.tail _ (.tail _ (.head _))))) (λ f hf=>.inr (.inl (.tail _ (.tail _ (.tail _ hf))))) h.fit) a b3 hl))) (h:=λ x24=>?_)));(first|refine bX ?_|(refine lO ?_));(first|refine bX ?_|(refine Qa ?_));refine eS ?_;refine dJ ?_)
 all_goals
 refine bA (λ c27=>?_) (λ c27=>?_)
 ·try exact nv c27
  all_goals try (first|contradiction|(exfalso;omega))
  all_goals refine cR ?_
  all_goals
   refine aR Tryz.results44 (λ w hw=>?_);exact⟨false,rfl,Yq (aCS (by omega)),hw.done⟩
 ·all_goals try (first|contradiction|(exfalso;omega))
  all_goals (refine jH ?_;refine gH ?_;refine Kd4 ?_)
  all_goals
   refine bA (λ c30=>?_) (λ c30=>?_)
   ·all_goals try (first|contradiction|(exfalso;omega))
    all_goals (refine gH ?_;refine zB ?_)
    all_goals ((refine eM 35 (λ g35=>?_) (λ g35=>?_)<;>(try (first|contradiction|(exfalso;omega)))<;>refine Ka2 ?_))
    all_goals (refine Ka2 ?_;refine Zv ?_;(first|refine aJ ?_|(refine aF ?_;refine aD (c0 (V:=.bool) (hc:=λ w1 hw=>Pq (gen:=gen) (cn:=cn) (cc:=cc) (hw.kB (.inr (.inl (.tail _ (.head _)))) (.inr (.inl (.tail _ (.tail _ (.head _))))) (λ f hf=>.inr (.inl (.tail _ (.tail _ (.tail _ hf))))) h.fit) ok hV c30 (by omega) (hw.cl (.bO .head)) hm)) (λ x40 h40=>?_)));refine Kd0 ?_)
    all_goals
    refine aR Tryz.results44 (λ w hw=>?_);first
    | exact⟨x40,rfl,h40.trans (gv3 (by omega) c30 (by omega)).symm,hw.done⟩
    | exact⟨false,rfl,Yq (aCu c30 (by omega)),hw.done⟩
   ·all_goals try (first|contradiction|(exfalso;omega))
    all_goals refine jM ?_
    all_goals
    refine bA (λ c42=>?_) (λ c42=>?_)
    ·all_goals try (first|contradiction|(exfalso;omega))
     all_goals (refine aV ?_;refine dZ [(0,[]),(1,[]),(2,[]),(3,[]),(4,[]),(5,[]),(6,[]),(7,[]),(8,[]),(9,[]),(10,[]),(11,[]),(12,[]),(13,[]),(15,[]),(16,[]),(14,[16]),(17,[]),(18,[]),(19,[])] ?_;refine iT ?_;refine Qa ?_;refine aL ?_)
     all_goals ((refine Eu 47 (λ g47=>?_) (λ g47=>?_)<;>(try (first|contradiction|(exfalso;omega)))<;>(first|refine bX ?_|(refine aN ?_))))
     all_goals ((first|refine bX ?_|(refine aZ ?_));refine Nu ?_;(first|refine bX ?_|(refine bL (i:=8) (hq:=(c0 (V:=.bool) (hc:=λ w1 hw=>sP hhe rfl hhl (hw.cl (.bO .head)) rfl hu))) (h:=λ x52 h52=>?_)));refine Ke7 ?_)
     all_goals (first|refine bX ?_|(refine Eu 54 (λ g54=>?_) (λ g54=>?_)<;>(try (first|contradiction|(exfalso;omega)))<;>(first|refine bX ?_|(refine aN ?_))))
     all_goals ((first|refine bX ?_|(refine aZ ?_));(first|refine bX ?_|(refine aL ?_));refine Nu ?_;(first|refine bX ?_|(refine cA (i:=14) (hq:=(cV (hc:=λ w1 hw=>pM V.nd.key hm (by have:=ok.key V hV (.inr c42);omega) w1))) (h:=λ x58=>?_)));refine Tl ?_;refine J7 ?_)
     all_goals
      refine aR Tryz.results44 (λ w hw=>?_);first
      | exact⟨false,rfl,Yq (aCI c42 (by omega)),hw.done⟩
      | exact⟨false,rfl,Yq (λ g=>by have:=h52.2 ((gv5 (by omega) c42 (by omega) hhe).1 g).1;simp_all),hw.done⟩
      | exact⟨_,rfl,⟨λ e=>(gv5 (by omega) c42 (by omega) hhe).2 ⟨h52.1 (by simpa using g54),by simpa using e⟩,λ g=>by simpa using((gv5 (by omega) c42 (by omega) hhe).1 g).2⟩,hw.done⟩
    ·all_goals try (first|contradiction|(exfalso;omega))
     all_goals (refine kN ?_;refine gH ?_;refine lC ?_;refine aB ?_)
     all_goals ((refine eM 66 (λ g66=>?_) (λ g66=>?_)<;>(try (first|contradiction|(exfalso;omega)))<;>refine Ka1 ?_))
     all_goals (refine Ao ?_;(first|refine aJ ?_|(refine aF ?_;refine aD (c0 (V:=.bool) (hc:=λ w1 hw=>sP hhe rfl hhl (hw.cl (.bO .head)) rfl hu)) (λ x71 h71=>?_)));refine Kc4 ?_)
     all_goals (first|refine aJ ?_|(refine eM 73 (λ g73=>?_) (λ g73=>?_)<;>(try (first|contradiction|(exfalso;omega)))<;>refine Ka1 ?_))
     all_goals (refine Zv ?_;refine J6 ?_;(first|refine aJ ?_|(refine aF ?_;refine aD (c0 (V:=.bool) (hc:=λ w1 hw=>by rw[hpn];exact Xv (hw.cl (.bO (nP.eI (List.mem_cons_of_mem _ (List.mem_cons_of_mem _ (List.mem_cons_of_mem _ hpr)))))) hps hm (ok.ys V hV))) (λ x79 h79=>?_)));refine Kd0 ?_)
     all_goals
      refine aR Tryz.results44 (λ w hw=>?_);first
      | exact⟨false,rfl,Yq (aCJ (by omega) (by omega)),hw.done⟩
      | exact⟨false,rfl,Yq (λ g=>by have:=h71.2 ((gv6 (by omega) (by omega) (by omega) hhe h6).1 g).1;simp_all),hw.done⟩
      | exact⟨x79,rfl,⟨λ e=>(gv6 (by omega) (by omega) (by omega) hhe h6).2 ⟨h71.1 (by simpa using g73),h79.1 e⟩,λ g=>h79.2 ((gv6 (by omega) (by omega) (by omega) hhe h6).1 g).2⟩,hw.done⟩
end
end

/- Places of a trie: their lists in memory; steps of the loop over the branches. -/
end Go.Proofs.YtadnboagdhcedaaGreatDoor
namespace Go.Ct
section
open Go Go.RowKit
structure sJ where
 p:Pl
 wp:Option Addr
 wc:Nat
def sJ.cells(v:sJ):List Value:=[.int .i64 v.p.i,.int .i64 v.p.m,.int .i64 v.p.a,.int .i64 ((v.p.lv:Nat):Int),.slice v.wp v.p.way.length v.wc]
def qQ(l:List sJ):List Value:=l.flatMap sJ.cells
def Ik(l:List sJ):Fr:=l.map λ v=>(v.wp,aH v.p.way)
theorem xF:∀l:List sJ,(qQ l).length=l.length*5
 | []=>rfl
 | v::l=>by simp only[qQ,List.flatMap_cons,List.length_append] at *;rw[show(List.flatMap sJ.cells l).length=l.length*5 from xF l];simp[sJ.cells];omega
theorem O8(l l2:List sJ):qQ (l++l2)=qQ l++qQ l2:=by simp[qQ]
theorem Be:∀l:List sJ,(qQ l).all (·.oneCell')=true
 | []=>rfl
 | v::l=>by simp only[qQ,List.flatMap_cons,List.all_append];rw[show(List.flatMap sJ.cells l).all (·.oneCell')=true from Be l];rfl
section
variable{N:List Nv}{f:Int->List Int->List Int->Option (List Pl×List Pr)}{way idx xs s s2:List Int}{j:Nat}{r:List Pl×List Pr}
def B5(N:List Nv)(f:Int->List Int->List Int->Option (List Pl×List Pr))(way idx xs s:List Int)(j:Nat)(tl:List Pl)(ps:List Pr):Prop :=
 yQ N f way idx xs 0 s=(yQ N f way idx (xs.drop j) j (s++tl.map Pl.i)).map λ q=>(tl++q.1,ps++q.2)
theorem B5.zero:B5 N f way idx xs s 0 [] []:=by
 unfold B5
 simp only[List.drop_zero,List.map_nil,List.append_nil,List.nil_append]
 cases yQ N f way idx xs 0 s<;>rfl
theorem E3{xs:List Int}{j:Nat}(h:j<xs.length):xs.drop j=xs.getD j 0::xs.drop (j+1):=by
 rw[List.drop_eq_getElem_cons h,gF,List.getElem?_eq_getElem h];rfl
theorem B5.single{tl:List Pl}{ps:List Pr}(h:B5 N f way idx xs s j tl ps)(hj:j<xs.length)(hk:(bH N (xs.getD j 0)).kind=4):B5 N f way idx xs s (j+1) tl (ps++[((bH N (xs.getD j 0)).key,(bH N (xs.getD j 0)).val)]):=by
 unfold B5 at h ⊢
 rw[h,E3 hj]
 simp only[yQ,hk,if_true]
 cases yQ N f way idx (xs.drop (j+1)) (j+1) (s++tl.map Pl.i)<;>simp
theorem B5.inner{tl:List Pl}{ps:List Pr}(h:B5 N f way idx xs s j tl ps)(hj:j<xs.length)(hk:(bH N (xs.getD j 0)).kind=2)(hf:f (xs.getD j 0) (way++[idx.getD j 0]) (s++tl.map Pl.i)=some r):B5 N f way idx xs s (j+1) (tl++r.1) (ps++r.2):=by
 unfold B5 at h ⊢;rw[h,E3 hj];have h4:¬(bH N (xs.getD j 0)).kind=4:=by omega
 simp only[yQ,h4,hk,if_true,if_false,hf,Option.bind_some,List.map_append,List.append_assoc]
 cases yQ N f way idx (xs.drop (j+1)) (j+1) (s++(tl.map Pl.i++r.1.map Pl.i))<;>simp
theorem B5.fail{tl:List Pl}{ps:List Pr}(h:B5 N f way idx xs s j tl ps)(hj:j<xs.length)(hk:(bH N (xs.getD j 0)).kind=2)(hf:f (xs.getD j 0) (way++[idx.getD j 0]) (s++tl.map Pl.i)=none):yQ N f way idx xs 0 s=none:=by
 unfold B5 at h;rw[h,E3 hj];have h4:¬(bH N (xs.getD j 0)).kind=4:=by omega
 simp only[yQ,h4,hk,if_true,if_false,hf,Option.bind_none,Option.map_none,reduceCtorEq,show ¬((2:Int)=4) by decide]
theorem B5.bad{tl:List Pl}{ps:List Pr}(h:B5 N f way idx xs s j tl ps)(hj:j<xs.length)(hk:(bH N (xs.getD j 0)).kind≠4)(hk2:(bH N (xs.getD j 0)).kind≠2):yQ N f way idx xs 0 s=none:=by
 unfold B5 at h
 rw[h,E3 hj]
 simp only[yQ,hk,hk2,if_false,Option.map_none]
theorem B5.done{tl:List Pl}{ps:List Pr}(h:B5 N f way idx xs s j tl ps)(hj:xs.length<=j):yQ N f way idx xs 0 s=some (tl,ps):=by
 unfold B5 at h
 rw[h,List.drop_eq_nil_of_le hj]
 simp[yQ]
end
section
variable{N:List Nv}{cs:List Int}{a i m:Int}{lv n:Nat}{way s:List Int}
theorem Ps(h:i∈s):∀{n:Nat},tU N cs n a lv i way s=none
 | 0=>rfl
 | _+1=>if_pos h
theorem Qv(h:(dB N cs i).isSome=false):∀{n:Nat},tU N cs n a lv i way s=none
 | 0=>rfl
 | n+1=>by
  unfold tU
  cases hb:dB N cs i with
  | none=>split<;>rfl
  | some m=>rw[hb] at h;cases h
theorem Nb(h:¬i∈s)(h2:dB N cs i=some m)(h3:(bH N m).kind=5∨(bH N m).kind=6):tU N cs (n+1) a lv i way s=some ([⟨i,m,a,lv,way⟩],Qy (bH N m)):=by
 unfold tU
 rw[if_neg h,h2,Option.bind_some,if_pos h3]
theorem us(h:¬i∈s)(h2:dB N cs i=some m)(h3:¬((bH N m).kind=5∨(bH N m).kind=6)):tU N cs (n+1) a lv i way s=(yQ N (λ b w s=>tU N cs n i (lv+1) b w s) way (fZ (bH N m).bm.toNat 64) (bH N m).xs 0 (s++[i])).map λ q=>(⟨i,m,a,lv,way⟩::q.1,q.2):=by
 rw[tU]
 rw[if_neg h,h2,Option.bind_some,if_neg h3]
end
end

/- Literals of lists that may be changed. -/
section
open Go Go.RowKit
section
variable{P:Program}{S:List (Nat×Value)}{G:World->Prop}{d:Nat}{ty t t' e:TypeId}{pos:String}{af:Array Edge}{gd:Option (Nat×Bool)}{x y:Operand}{w0 w:World}{M:List Nat}{H:List (Nat×Obj)}{A F:Fr}{O:List Ow}{a:Option Addr}
theorem SF.aCZ{b c sz:Nat}{cs:List Value}{T:TypeId}(h:SF w0 M ((b,.cells ⟨cs⟩ T (0,0))::H) A F O w)(hl:cs.length=c*sz):SF w0 M H A F (⟨some ⟨b,0,none⟩,cs,c,T,sz⟩::O) w:=by
 have hp:(Ks H (⟨some ⟨b,0,none⟩,cs,c,T,sz⟩::O)).Perm (Ks ((b,.cells ⟨cs⟩ T (0,0))::H) O):=by
  unfold Ks
  simp only[List.flatMap_cons,iQ,List.map_cons,List.cons_append,List.nil_append]
  exact List.perm_middle
 have hb:=h.st.has (b,.cells ⟨cs⟩ T (0,0)) (List.mem_cons_self ..);have hn:=h.st.new (b,.cells ⟨cs⟩ T (0,0)) (List.mem_cons_self ..);refine⟨h.st.sub (List.sublist_cons_self ..),λ f hf=>⟨(h.bO f hf).1,λ hc hm=>(h.bO f hf).2 hc (hp.mem_iff.1 hm)⟩,λ f hf=>⟨(h.new f hf).1,λ hc=>⟨λ hm=>((h.new f hf).2 hc).1 (hp.mem_iff.1 hm),((h.new f hf).2 hc).2⟩⟩,λ o ho=>?_,hp.nodup_iff.2 h.dis⟩;rcases List.mem_cons.1 ho with rfl|ho
 ·refine⟨.inr ⟨b,[],rfl,by simpa using hb,by simpa using hl⟩,λ k hk=>?_⟩
  simp only[iQ,List.mem_singleton] at hk
  subst hk
  exact hn.symm
 ·exact h.own o ho
theorem Px{len:Nat}{parts:List (Nat×Operand)}{ps:List (Nat×Value)}{zc cs:List Value}{sz:Nat}(he:dY P t e zc)(hv:jT S parts=ps)(hlen:ps.length=len)(hidx:ps.map Prod.fst=List.range' 0 ps.length)(h1:(ps.all λ p=>Nat.beq (nJ p.2).length zc.length)=true)
  (hpos:(Nat.blt 0 len&&Nat.blt 0 zc.length&&Nat.ble (len*zc.length) 16777216)=true) (hcs:D7 ps=cs) (hsz:cs.length=len*sz) :
  aX P S (SF w0 M H A F O) ⟨some d,.buildSlice t len ⟨parts⟩,ty,pos,af,gd⟩ Nat (λ b=>.slice (some ⟨b,0,none⟩) len len) (λ b=>SF w0 M H A F (⟨some ⟨b,0,none⟩,cs,len,e,sz⟩::O)) :=
 (jI λ _=>cX he hv hlen hidx h1 hpos hcs).conv λ b w h=>h.aCZ hsz
end
end

end Go.Ct

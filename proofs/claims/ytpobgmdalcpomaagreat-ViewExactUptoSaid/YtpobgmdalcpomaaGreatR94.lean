/- The reference of views: the root, main nodes, places, contents and I-nodes of a trie. -/
import Derived.Test.YtpobgmdalcpomaaGreatR93
import Derived.Test.YtpobgmdalcpomaaGreatGVw6
import Derived.Test.YtpobgmdalcpomaaGreatGArP
import Derived.Test.YtpobgmdalcpomaaGreatGBitsE
set_option linter.unusedSimpArgs false
set_option linter.unusedVariables false
namespace Go.Proofs.YtpobgmdalcpomaaGreat
open Go Go.RowKit Go.Ct
section
variable{L:List aQ}{cs:List Int}{gen:Int}{pn pc:Option Addr}{cn cc:Nat}{w:World}
theorem X8(L:List aQ)(r:Int):aD L r=aQ.zero∨∃k,k<L.length/\aD L r=L.getD k aQ.zero:=by
 unfold aD
 split
 ·exact .inr ⟨(r-1).toNat,by omega,rfl⟩
 ·exact .inl rfl
theorem Ay(hp:dK L cs gen)(hr:lD L)(r:Int):∃b:Nat,b<18446744073709551616/\(aD L r).nd.bm=(b:Int)/\((aD L r).nd.kind=3->(aD L r).xs.length=hJ b 64):=by
 rcases X8 L r with e|⟨k,hk,e⟩
 ·rw[e];exact⟨0,by decide,rfl,λ h=>absurd h (by decide)⟩
 ·rw[e]
  obtain⟨b,hb,hlt⟩:=(hr _ (fX hk)).bm
  refine⟨b,hlt,hb,λ h3=>?_⟩
  have:=(sB h3 (hp.nodes k hk).1).1
  rw[hb,qZ hlt] at this
  omega
theorem Hh(hp:dK L cs gen){r:Int}(h:(aD L r).nd.kind≠3):(aD L r).xs=[]:=by
 rcases X8 L r with e|⟨k,hk,e⟩
 ·rw[e];rfl
 ·rw[e] at h ⊢
  exact(hp.nodes k hk).1.1.2.2.2.2.1.trans (if_neg (by simpa using h))
theorem Ui(hp:dK L cs gen)(hr:lD L)(r:Int):(aD L r).xs.length<=64:=by
 by_cases h:(aD L r).nd.kind=3
 ·obtain⟨b,_,_,h3⟩:=Ay hp hr r
  rw[h3 h]
  exact xY _ _
 ·rw[Hh hp h];decide
theorem yC(hp:dK L cs gen)(hr:lD L){B:Nat}(hB:∀v∈L,v.ys.length<=B)(hb:(L.length+1)*(B+64)<=549755813888):zg L B:=by
 refine⟨λ r=>⟨?_,Ui hp hr r⟩,hb⟩
 rcases X8 L r with e|⟨k,hk,e⟩
 ·rw[e];exact Nat.zero_le _
 ·rw[e];exact hB _ (fX hk)
theorem Vn(hp:dK L cs gen)(m:Int)(h:(cG (L.map aQ.c) m).kind=5∨(cG (L.map aQ.c) m).kind=6):(cG (L.map aQ.c) m).xs=[]:=by
 rw[jX]
 rw[bD] at h
 exact Hh hp (show(aD L m).nd.kind≠3 from λ e=>by have h2:(aD L m).nd.kind=5∨(aD L m).nd.kind=6:=h;omega)
theorem zR(h:fV w L cs pn pc)(hr:lD L)(hl:L.length<=274877906944)(hc:cs.length<=274877906944)(c:Int)(ro:Bool)(hi:c<=9223372036854775807):Calls Tryz.prog 43 #[kJ L cs gen pn cn pc cc,.agg ⟨[.int .i64 c,.bool ro]⟩] w λ e w'=>e=.returned (.tuple #[.int .i64 ((Hy L cs gen (fU (L.map aQ.c) cs c)).getD 0),.bool (Hy L cs gen (fU (L.map aQ.c) cs c)).isSome])/\St w [] [] w':=by
 refine enter Tryz.func43 Tryz.ntmps43 rfl rfl h.start ?_
 simp only[dB]
 simp only[kJ]
 all_goals (refine J0 ?_;refine bM (λ x2=>?_);refine bM (λ x3=>?_);refine J8 ?_;refine aT ?_;refine iU ?_;(refine aF (c0 (V:=.bool) (hc:=λ w1 hw=>Cm (h.kC hw) hr hl hc)) (λ x7=>?_);try (refine aB (λ h7=>?_)));refine kD ?_)
 all_goals
 refine bF (λ c8=>?_) (λ c8=>?_)
 ·try exact nv c8
  all_goals
   have hn:¬dK L cs gen:=λ hp=>by rw[h7.2 hp] at c8;cases c8
  all_goals refine qE ?_
  all_goals
   refine bH Tryz.results43 (λ w hw=>?_)
   unfold Hy
   rw[if_neg hn]
   exact⟨rfl,hw.done⟩
 ·try exact nv c8
  all_goals
   have hp:dK L cs gen:=h7.1 (by simpa using c8)
  all_goals (refine aZ ?_;refine iU ?_;refine bJ ?_;(refine aF (cV (hc:=λ w1 hw=>ie (h.kC hw) (sO hp hr hl) hl hc c ro hi)) (λ x11=>?_);try (refine aB (λ h11=>?_)));refine ul ?_;refine J8 ?_)
  all_goals
   refine bH Tryz.results43 (λ w hw=>?_)
   unfold Hy
   rw[if_pos hp]
   exact⟨rfl,hw.done⟩
theorem M4(h:fV w L cs pn pc)(hr:lD L)(hl:L.length<=274877906944)(hc:cs.length<=274877906944)(i:Int)(hi:i<=9223372036854775807):Calls Tryz.prog 44 #[kJ L cs gen pn cn pc cc,.int .i64 i] w λ e w'=>e=.returned (.tuple #[.int .i64 ((Hy L cs gen (eR (L.map aQ.c) cs i)).getD 0),.bool (Hy L cs gen (eR (L.map aQ.c) cs i)).isSome])/\St w [] [] w':=by
 refine enter Tryz.func44 Tryz.ntmps44 rfl rfl h.start ?_
 simp only[dB]
 simp only[kJ]
 all_goals (refine J0 ?_;refine bM (λ x2=>?_);refine J8 ?_;refine aT ?_;refine iU ?_;(refine aF (c0 (V:=.bool) (hc:=λ w1 hw=>Cm (h.kC hw) hr hl hc)) (λ x7=>?_);try (refine aB (λ h7=>?_)));refine kD ?_)
 all_goals
 refine bF (λ c8=>?_) (λ c8=>?_)
 ·try exact nv c8
  all_goals
   have hn:¬dK L cs gen:=λ hp=>by rw[h7.2 hp] at c8;cases c8
  all_goals refine qE ?_
  all_goals
   refine bH Tryz.results44 (λ w hw=>?_)
   unfold Hy
   rw[if_neg hn]
   exact⟨rfl,hw.done⟩
 ·try exact nv c8
  all_goals
   have hp:dK L cs gen:=h7.1 (by simpa using c8)
  all_goals (refine aZ ?_;refine rK ?_;(refine aF (cV (hc:=λ w1 hw=>Kz (h.kC hw) (sO hp hr hl) hl hc i hi)) (λ x11=>?_);try (refine aB (λ h11=>?_)));refine ul ?_;refine J8 ?_)
  all_goals
   refine bH Tryz.results44 (λ w hw=>?_)
   unfold Hy
   rw[if_pos hp]
   exact⟨rfl,hw.done⟩
open Classical in
noncomputable def Ss (L:List aQ) (cs:List Int) (gen:Int) (c:Int):Option (List Pl×List Pr):=if dK L cs gen then(fU (L.map aQ.c) cs c).bind λ r=>By (L.map aQ.c) cs 12 0 0 r [] [] else none
theorem Qu(hp:dK L cs gen){c:Int}:Ss L cs gen c=(fU (L.map aQ.c) cs c).bind λ r=>By (L.map aQ.c) cs 12 0 0 r [] []:=if_pos hp
theorem Xl{c:Int}:(nN L cs gen c=none/\Ss L cs gen c=none)∨∃l q,nN L cs gen c=some l/\Ss L cs gen c=some q/\l=q.1.map Pl.i/\q.2=yW (L.map aQ.c) cs 12 (l.headD 0):=by
 by_cases hp:dK L cs gen
 ·rw[zC hp,Qu hp]
  cases hr:fU (L.map aQ.c) cs c with
  | none=>exact .inl ⟨rfl,rfl⟩
  | some r =>
   simp only[Option.bind_some]
   have h:=S2 (N:=L.map aQ.c) (cs:=cs) (Vn hp) 12 0 0 r [] []
   cases hv:zY (L.map aQ.c) cs 12 r [] with
   | none=>rw[hv] at h;exact .inl ⟨rfl,h⟩
   | some l =>
    rw[hv] at h
    obtain⟨q,e1,e2,e3⟩:=h
    obtain⟨t,ht⟩:=Kp 12 r [] l hv
    refine .inr ⟨l,q,rfl,e1,e2,?_⟩
    rw[ht,e3]
    rfl
 ·refine .inl ⟨?_,if_neg hp⟩
  unfold nN
  exact if_neg hp
theorem Hk{B:Nat}{wp:Option Addr}{wc:Nat}{o:Option (List Pl×List Pr)}{x:Cp}(h:Lc L B wp wc [] o x):(o=none->x.ok=false)/\∀q,o=some q->x.ok=true/\x.l.map qM.p=q.1/\x.ps=q.2/\(x.own=false->(x.pp,dI x.ps)∈bG L)/\x.l.length<=L.length+1:=by
 refine⟨λ e=>?_,λ q e=>?_⟩
 ·subst e;exact h.2
 ·subst e
  obtain⟨h1,h2,h3,h4,h5,h6,h7⟩:=h.2
  refine⟨h1,h2,h3,h5,?_⟩
  have:=h6.len
  rw[List.nil_append,List.length_map,<- h2,List.length_map] at this
  exact this
theorem Di(h:fV w L cs pn pc)(hr:lD L)(hl:L.length<=274877906944)(hc:cs.length<=274877906944){B:Nat}(hB:∀v∈L,v.ys.length<=B)(hBl:(L.length+1)*(B+64)<=549755813888)(c:Int)(ro:Bool)(hi:c<=9223372036854775807)(hn:Ss L cs gen c=none):Calls Tryz.prog 40 #[kJ L cs gen pn cn pc cc,.agg ⟨[.int .i64 c,.bool ro]⟩] w λ e w'=>e=.returned (.tuple #[.slice none 0 0,.slice none 0 0,.bool false])/\St w [] [] w':=by
  refine enter Tryz.func40 Tryz.ntmps40 rfl rfl h.start ?_
  simp only[dB]
  simp only[kJ]
  all_goals (refine J0 ?_;refine bM (λ x2=>?_);refine bM (λ x3=>?_);refine eJ (λ _=>?_);refine J8 ?_;refine iU ?_;refine bJ ?_;(refine aF (cV (hc:=λ w1 hw=>zR (h.kC hw) hr hl hc c ro hi)) (λ x14=>?_);try (refine aB (λ h14=>?_)));refine pZ ?_;refine J8 ?_;refine jS ?_;refine kD ?_)
  all_goals
   refine bF (λ c18=>?_) (λ c18=>?_)
   · try exact nv c18
     all_goals (refine J0 ?_;refine eJ (λ _=>?_);refine J8 ?_)
     all_goals
      refine bH Tryz.results40 (λ w hw=>?_)
      first
       | exact⟨rfl,hw.done⟩
   · try exact nv c18
     all_goals
      have hp:dK L cs gen:=by
       by_cases hp:dK L cs gen
       · exact hp
       · exfalso;unfold Hy at c18;rw[if_neg hp] at c18;simp at c18
      have hb:=sO hp hr hl
      have hir:Hy L cs gen (fU (L.map aQ.c) cs c)=fU (L.map aQ.c) cs c:=if_pos hp
      rw[hir] at c18 ⊢
      obtain⟨r,hrt⟩:=Option.isSome_iff_exists.1 (show(fU (L.map aQ.c) cs c).isSome=true by simpa using c18)
      obtain⟨k,rfl,hk⟩:=zE hrt
      rw[Qu hp,hrt,Option.bind_some] at hn
      rw[hrt,Option.getD_some]
     all_goals (refine iW ?_;refine dL [(0,[]),(1,[]),(2,[]),(3,[]),(4,[]),(5,[]),(6,[]),(7,[0]),(8,[]),(9,[]),(10,[]),(11,[]),(12,[]),(13,[]),(14,[]),(15,[])] ?_;refine bT ?_;refine aL ?_;refine eT ?_;refine jP ?_;refine jD ?_;refine tG ?_;refine qA (h:=λ x27=>?_);((refine bA (i:=8) (hq:=(cM (hs:=[]) (os:=[cj L x27 (List.replicate (L.length+1) false)]) (hA:=dA.cons (.inr (.inl (.head _))) (dA.cons (.inr (.inl (.tail _ (.head _)))) (dA.cons (.inl rfl) (dA.of λ f hf=>.inr (.inl (.tail _ (.tail _ hf))))))) (hc:=λ w1 hs=>E5 h.fit hb hl hc (Ay hp hr) B x27 (yC hp hr hB hBl) 12 0 rfl k 0 0 [] none 0 [] _ _ w1 hk rfl (Nat.le_refl _) (Vs.zero _) hs))) (h:=λ x28=>?_);try (refine aK (λ h28=>?_))));refine aL ?_;refine gH ?_;refine gH ?_;refine gH ?_;refine mT (h:=λ _=>?_);refine Oi ?_;refine jS ?_;refine kD ?_)
     all_goals
      refine bF (λ c33=>?_) (λ c33=>?_)
      · try exact nv c33
        all_goals (refine J0 ?_;refine eJ (λ _=>?_);refine J8 ?_)
        all_goals
         refine bH Tryz.results40 (λ w hw=>?_)
         first
          | exact⟨rfl,hw.done⟩
          | (exfalso;have h1:=(Hk h28).1 hn;rw[h1] at c33;simp at c33;done)
      · try exact nv c33
        all_goals (refine Ak ?_;refine eJ (λ _=>?_);refine J8 ?_)
        all_goals
         refine bH Tryz.results40 (λ w hw=>?_)
         first
          | exact⟨rfl,hw.done⟩
          | (exfalso;have h1:=(Hk h28).1 hn;rw[h1] at c33;simp at c33;done)
theorem Fu(h:fV w L cs pn pc)(hr:lD L)(hl:L.length<=274877906944)(hc:cs.length<=274877906944){B:Nat}(hB:∀v∈L,v.ys.length<=B)(hBl:(L.length+1)*(B+64)<=549755813888)(c:Int)(ro:Bool)(hi:c<=9223372036854775807){q:List Pl×List Pr}(hn:Ss L cs gen c=some q):Calls Tryz.prog 40 #[kJ L cs gen pn cn pc cc,.agg ⟨[.int .i64 c,.bool ro]⟩] w λ e w'=>∃x:Cp,e=.returned (.tuple #[.slice x.lp x.l.length x.lc,.slice x.pp x.ps.length x.pc,.bool true])/\(x.l.map qM.p=q.1/\x.ps=q.2/\(x.own=false->(x.pp,dI x.ps)∈bG L)/\x.l.length<=L.length+1)/\SF w [] [] [] x.fr [] w':=by
  have hp:dK L cs gen:=by
    unfold Ss at hn
    split at hn
    · assumption
    · cases hn
  have hb:=sO hp hr hl
  rw[Qu hp] at hn
  obtain⟨r,hrt,hn⟩:=Option.bind_eq_some_iff.1 hn
  obtain⟨k,rfl,hk⟩:=zE hrt
  have hir:Hy L cs gen (fU (L.map aQ.c) cs c)=some ((k+1:Nat):Int):=by unfold Hy;rw[if_pos hp,hrt]
  refine enter Tryz.func40 Tryz.ntmps40 rfl rfl h.start ?_
  simp only[dB]
  simp only[kJ]
  all_goals (refine J0 ?_;refine bM (λ x2=>?_);refine bM (λ x3=>?_);refine eJ (λ _=>?_);refine J8 ?_;refine iU ?_;refine bJ ?_;(refine aF (cV (hc:=λ w1 hw=>by have:=zR (gen:=gen) (cn:=cn) (cc:=cc) (h.kC hw) hr hl hc c ro hi;rw[hir] at this;exact this)) (λ x14=>?_);try (refine aB (λ h14=>?_)));refine pZ ?_;refine J8 ?_;refine jS ?_;refine kD ?_)
  all_goals
   refine bF (λ c18=>?_) (λ c18=>?_)
   · try exact nv c18
     all_goals
      simp at c18
     all_goals (refine J0 ?_;refine eJ (λ _=>?_);refine J8 ?_)
     all_goals
      refine bH Tryz.results40 (λ w hw=>?_)
      obtain⟨h1,h2,h3,h4,h5⟩:=(Hk h28).2 _ hn
      rw[List.append_nil] at hw
      exact⟨x28,rfl,⟨h2,h3,h4,h5⟩,hw.aV (hF:=aW.all)⟩
   · try exact nv c18
     all_goals (refine iW ?_;refine dL [(0,[]),(1,[]),(2,[]),(3,[]),(4,[]),(5,[]),(6,[]),(7,[0]),(8,[]),(9,[]),(10,[]),(11,[]),(12,[]),(13,[]),(14,[]),(15,[])] ?_;refine bT ?_;refine aL ?_;refine eT ?_;refine jP ?_;refine jD ?_;refine tG ?_;refine qA (h:=λ x27=>?_);((refine bA (i:=8) (hq:=(cM (hs:=[]) (os:=[cj L x27 (List.replicate (L.length+1) false)]) (hA:=dA.cons (.inr (.inl (.head _))) (dA.cons (.inr (.inl (.tail _ (.head _)))) (dA.cons (.inl rfl) (dA.of λ f hf=>.inr (.inl (.tail _ (.tail _ hf))))))) (hc:=λ w1 hs=>E5 h.fit hb hl hc (Ay hp hr) B x27 (yC hp hr hB hBl) 12 0 rfl k 0 0 [] none 0 [] _ _ w1 hk rfl (Nat.le_refl _) (Vs.zero _) hs))) (h:=λ x28=>?_);try (refine aK (λ h28=>?_))));refine aL ?_;refine gH ?_;refine gH ?_;refine gH ?_;refine mT (h:=λ _=>?_);refine Oi ?_;refine jS ?_;refine kD ?_)
     all_goals
      refine bF (λ c33=>?_) (λ c33=>?_)
      · try exact nv c33
        all_goals
         exfalso;rw[((Hk h28).2 _ hn).1] at c33;simp at c33
        all_goals (refine J0 ?_;refine eJ (λ _=>?_);refine J8 ?_)
        all_goals
         refine bH Tryz.results40 (λ w hw=>?_)
         obtain⟨h1,h2,h3,h4,h5⟩:=(Hk h28).2 _ hn
         rw[List.append_nil] at hw
         exact⟨x28,rfl,⟨h2,h3,h4,h5⟩,hw.aV (hF:=aW.all)⟩
      · try exact nv c33
        all_goals (refine Ak ?_;refine eJ (λ _=>?_);refine J8 ?_)
        all_goals
         refine bH Tryz.results40 (λ w hw=>?_)
         obtain⟨h1,h2,h3,h4,h5⟩:=(Hk h28).2 _ hn
         rw[List.append_nil] at hw
         exact⟨x28,rfl,⟨h2,h3,h4,h5⟩,hw.aV (hF:=aW.all)⟩
theorem X7(h:fV w L cs pn pc)(hr:lD L)(hl:L.length<=274877906944)(hc:cs.length<=274877906944){B:Nat}(hB:∀v∈L,v.ys.length<=B)(hBl:(L.length+1)*(B+64)<=549755813888)(c:Int)(ro:Bool)(hi:c<=9223372036854775807)(hn:Ss L cs gen c=none):Calls Tryz.prog 45 #[kJ L cs gen pn cn pc cc,.agg ⟨[.int .i64 c,.bool ro]⟩] w λ e w'=>e=.returned (.tuple #[.slice none 0 0,.int .i64 1])/\St w [] [] w':=by
 refine enter Tryz.func45 Tryz.ntmps45 rfl rfl h.start ?_
 simp only[dB]
 simp only[kJ]
 all_goals (refine J0 ?_;refine bM (λ x2=>?_);refine bM (λ x3=>?_);refine J8 ?_;refine iU ?_;refine bJ ?_;(refine aF (cV (hc:=λ w1 hw=>Di (h.kC hw) hr hl hc hB hBl c ro hi hn)) (λ x12=>?_);try (refine aB (λ h12=>?_)));refine pZ ?_;refine oV ?_;refine eJ (λ _=>?_);refine J8 ?_;refine jS ?_;refine kD ?_)
 all_goals
 refine bF (λ c17=>?_) (λ c17=>?_)
 ·try exact nv c17
  all_goals refine qE ?_
  all_goals
   refine bH Tryz.results45 (λ w hw=>?_)
   exact⟨rfl,hw.done⟩
 ·try exact nv c17
  all_goals (refine aZ ?_;refine J2 ?_;refine J8 ?_)
  all_goals
   refine bH Tryz.results45 (λ w hw=>?_)
   exact⟨rfl,hw.done⟩
theorem Zk(h:fV w L cs pn pc)(hr:lD L)(hl:L.length<=274877906944)(hc:cs.length<=274877906944){B:Nat}(hB:∀v∈L,v.ys.length<=B)(hBl:(L.length+1)*(B+64)<=549755813888)(c:Int)(ro:Bool)(hi:c<=9223372036854775807){q:List Pl×List Pr}(hn:Ss L cs gen c=some q):Calls Tryz.prog 45 #[kJ L cs gen pn cn pc cc,.agg ⟨[.int .i64 c,.bool ro]⟩] w λ e w'=>∃x:Cp,e=.returned (.tuple #[.slice x.pp x.ps.length x.pc,.int .i64 0])/\(x.ps=q.2/\(x.own=false->(x.pp,dI x.ps)∈bG L))/\SF w [] [] [] x.pf [] w':=by
 refine enter Tryz.func45 Tryz.ntmps45 rfl rfl h.start ?_
 simp only[dB]
 simp only[kJ]
 all_goals (refine J0 ?_;refine bM (λ x2=>?_);refine bM (λ x3=>?_);refine J8 ?_;refine iU ?_;refine bJ ?_;(refine aF (cF (hc:=λ w1 hw=>Fu (h.kC hw) hr hl hc hB hBl c ro hi hn)) (λ x12=>?_);try (refine aB (λ h12=>?_)));refine pZ ?_;refine oV ?_;refine eJ (λ _=>?_);refine J8 ?_;refine jS ?_;refine kD ?_)
 all_goals
 refine bF (λ c17=>?_) (λ c17=>?_)
 ·try exact nv c17
  all_goals refine qE ?_
  all_goals
   refine bH Tryz.results45 (λ w hw=>?_)
   exact⟨x12,rfl,⟨h12.2.1,h12.2.2.1⟩,(hw.dO (F':=x12.pf) λ f hf=>.inr (List.mem_append_left _ (List.mem_cons_of_mem _ (List.mem_append_right _ hf)))).aV (hF:=aW.all)⟩
 ·try exact nv c17
  all_goals (refine aZ ?_;refine J2 ?_;refine J8 ?_)
  all_goals
   refine bH Tryz.results45 (λ w hw=>?_)
   exact⟨x12,rfl,⟨h12.2.1,h12.2.2.1⟩,(hw.dO (F':=x12.pf) λ f hf=>.inr (List.mem_append_left _ (List.mem_cons_of_mem _ (List.mem_append_right _ hf)))).aV (hF:=aW.all)⟩
theorem kv{l:List qM}{y:Nat}{d:qM}(h:y<l.length):((l.map qM.p).map Pl.i).take (y+1)=((l.map qM.p).map Pl.i).take y++[(l.getD y d).p.i]:=by
 rw[List.take_add_one,List.getElem?_map,List.getElem?_map,List.getElem?_eq_getElem h,gdg,List.getElem?_eq_getElem h]
 rfl
theorem Uz(h:fV w L cs pn pc)(hr:lD L)(hl:L.length<=274877906944)(hc:cs.length<=274877906944){B:Nat}(hB:∀v∈L,v.ys.length<=B)(hBl:(L.length+1)*(B+64)<=549755813888)(c:Int)(ro:Bool)(hi:c<=9223372036854775807)(hn:Ss L cs gen c=none):Calls Tryz.prog 46 #[kJ L cs gen pn cn pc cc,.agg ⟨[.int .i64 c,.bool ro]⟩] w λ e w'=>e=.returned (.tuple #[.slice none 0 0,.int .i64 1])/\St w [] [] w':=by
 refine enter Tryz.func46 Tryz.ntmps46 rfl rfl h.start ?_
 simp only[dB]
 simp only[kJ]
 all_goals (refine J0 ?_;refine bM (λ x2=>?_);refine bM (λ x3=>?_);refine J8 ?_;refine iU ?_;refine bJ ?_;(refine aF (cV (hc:=λ w1 hw=>Di (h.kC hw) hr hl hc hB hBl c ro hi hn)) (λ x14=>?_);try (refine aB (λ h14=>?_)));refine pZ ?_;refine oV ?_;refine eJ (λ _=>?_);refine J8 ?_;refine jS ?_;refine kD ?_)
 all_goals
 refine bF (λ c19=>?_) (λ c19=>?_)
 ·try exact nv c19
  all_goals refine qE ?_
  all_goals
   refine bH Tryz.results46 (λ w hw=>?_)
   exact⟨rfl,hw.done⟩
 ·try exact nv c19
  all_goals
   (first|exact nv c19|simp at c19)
theorem Un(h:fV w L cs pn pc)(hr:lD L)(hl:L.length<=274877906944)(hc:cs.length<=274877906944){B:Nat}(hB:∀v∈L,v.ys.length<=B)(hBl:(L.length+1)*(B+64)<=549755813888)(c:Int)(ro:Bool)(hi:c<=9223372036854775807){q:List Pl×List Pr}(hn:Ss L cs gen c=some q):Calls Tryz.prog 46 #[kJ L cs gen pn cn pc cc,.agg ⟨[.int .i64 c,.bool ro]⟩] w λ e w'=>∃x:Option Addr×Nat,e=.returned (.tuple #[.slice x.1 (q.1.map Pl.i).length x.2,.int .i64 0])/\True/\SF w [] [] [] [(x.1,aJ (q.1.map Pl.i))] [] w':=by
 refine enter Tryz.func46 Tryz.ntmps46 rfl rfl (h.start.jK 52 1) ?_
 simp only[dB]
 simp only[kJ]
 all_goals (refine J0 ?_;refine bM (λ x2=>?_);refine bM (λ x3=>?_);refine J8 ?_;refine iU ?_;refine bJ ?_;(refine aF (cF (hc:=λ w1 hw=>Fu (h.kC hw) hr hl hc hB hBl c ro hi hn)) (λ x14=>?_);try (refine aB (λ h14=>?_)));refine pZ ?_;refine oV ?_;refine eJ (λ _=>?_);refine J8 ?_;refine jS ?_;refine kD ?_)
 all_goals
 refine bF (λ c19=>?_) (λ c19=>?_)
 ·try exact nv c19
  all_goals refine qE ?_
  all_goals
   refine bH Tryz.results46 (λ w hw=>?_)
   have e2:y.1=x14.l.length:=by omega
   have e3:((x14.l.map qM.p).map Pl.i).take y.1=q.1.map Pl.i:=by rw[e2,<- h14.1,List.take_of_length_le (by simp)]
   rw[e3] at hw ⊢
   exact⟨y.2,rfl,trivial,(hw.freeze .head).fin⟩
 ·try exact nv c19
  all_goals (refine aZ ?_;refine Be ?_;refine Cq ?_)
  all_goals
   refine lO [9,10,20,21,22,23,24,25,26,27,28,29,30,31,32,33] (λ y:Nat×Option Addr×Nat=>[(9,.slice y.2.1 (((x14.l.map qM.p).map Pl.i).take y.1).length y.2.2),(10,.int .i64 ((y.1:Nat):Int))]) (λ y=>y.1<=x14.l.length) (λ _=>_) (λ y=>x14.fr++[]) (λ y=>[⟨y.2.1,aJ (((x14.l.map qM.p).map Pl.i).take y.1),y.2.2,52,1⟩]) (λ y=>x14.l.length-y.1) ((0,none,0)) (Nat.zero_le _) (λ y f hx=>?_) (hw0:=λ w hw=>hw.back (hF:=aW.all))
   dsimp only[gW,List.map,List.cons_append,List.nil_append]
   have htl:(((x14.l.map qM.p).map Pl.i).take y.1).length=y.1:=by rw[List.length_take,List.length_map,List.length_map];exact Nat.min_eq_left hx
   all_goals (refine Cy ?_;refine dW ?_;refine uQ ?_)
   all_goals
   refine bF (λ c23=>?_) (λ c23=>?_)
   ·try exact nv c23
    all_goals (refine oD ?_;refine xU ?_;refine oI ?_;refine aH (Xr (lst:=x14.l) (g:=qM.cells) (sz:=5) (k:=y.1) (λ _=>rfl) (by decide) rf rf fG dS (.new (tD.jB (List.mem_append_left _ (List.mem_cons_self ..)))) (by omega) (by omega)) rfl ?_;refine aE ?_;refine aH (Yv (lst:=x14.l) (g:=qM.cells) (sz:=5) (q:=y.1) (j:=0) (v:=.int .i64 (x14.l.getD y.1 ⟨⟨0,0,0,0,[]⟩,none,0⟩).p.i) ⟨⟨0,0,0,0,[]⟩,none,0⟩ (λ _=>rfl) rf bU (by decide) rfl (.new (tD.jB (List.mem_append_left _ (List.mem_cons_self ..)))) (by omega)) rfl ?_;refine fA (λ x32=>?_);(refine dM (λ x33=>?_);try (refine aB (λ h33=>?_)));refine J1 ?_;refine eV ?_;refine uH ?_)
    all_goals
     refine jU ((y.1+1,x33)) ?_ ?_ (by repeat (first|(with_reducible exact vQ.refl)|refine vQ.cons (by exact rfl) ?_)) ?_ (λ w hw=>by rw[kv (d:=⟨⟨0,0,0,0,[]⟩,none,0⟩) (by omega)];exact hw.back (hF:=aW.jM λ f hf=>List.mem_cons_of_mem _ hf))
     ·first|omega|(simp only[];omega)
     ·repeat' (first|exact bI _|refine bE ?_ ?_)
      all_goals (first|exact rfl|(rw[kv (d:=⟨⟨0,0,0,0,[]⟩,none,0⟩) (by omega),List.length_append];exact rfl)|(conv=>{lhs;whnf};congr 1;omega))
     ·(show y.1+1<=_;omega)
   ·try exact nv c23
    all_goals (refine bQ rfl ?_;refine J2 ?_;refine J8 ?_)
    all_goals
     refine bH Tryz.results46 (λ w hw=>?_)
     have e2:y.1=x14.l.length:=by omega
     have e3:((x14.l.map qM.p).map Pl.i).take y.1=q.1.map Pl.i:=by rw[e2,<- h14.1,List.take_of_length_le (by simp)]
     rw[e3] at hw ⊢
     exact⟨y.2,rfl,trivial,(hw.freeze .head).fin⟩
end
end Go.Proofs.YtpobgmdalcpomaaGreat

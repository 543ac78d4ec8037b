/- The program's shape, part 6: well-formed places. -/
import Derived.Test.YtadnboagdhcedaaGreatDoorGKw8
import Derived.Test.YtadnboagdhcedaaGreatDoorGWo3

set_option linter.unusedSimpArgs false
set_option linter.unusedVariables false
namespace Go.Ct
section
theorem qh{lv k:Nat}{u:List Nat}{a b c:Nd}(h:u.length<11):(Je lv u a b c).set (1+u.length) (.int .i64 ((k:Nat):Int))=Je lv (u++[k]) a b c:=by
 unfold Je
 rw[Nat.add_comm 1 u.length,List.set_cons_succ,List.set_append_left _ _ (by rw[mF];exact h),dz h]
end
end Go.Ct
namespace Go.Proofs.YtadnboagdhcedaaGreatDoor
section
open Go Go.RowKit Go.Ct
theorem jq{L:List aL}{m:Nat}{R:Int}{u:List Nat}:WFn (L.map aL.c) m (cA (L.map aL.c) R) u↔oJ (aA L R).nd.kind u.length/\j2 L (aA L R) u.length/\pHs L m (aA L R) u:=by
 have e:∀b,cA (L.map aL.c) b=(aA L b).c:=cI L
 constructor
 ·intro h
  have h3:=h.h3
  have hb:=h.br
  simp only[e] at h h3 hb
  exact⟨h.kd,hb,h.h5,h.h6,h3⟩
 ·rintro ⟨h1,h2,h3⟩
  have h4:=h3.h3
  refine⟨?_,?_,?_,?_,?_⟩
  ·rw[e];exact h1
  ·simp only[e];exact h2
  ·rw[e];exact h3.h5
  ·rw[e];exact h3.h6
  ·simp only[e];exact h4
section
variable{L:List aL}{cs:List Int}{gen:Int}{m:Nat}{pn pc:Option Addr}{cn cc:Nat}
def yJ(L:List aL)(cs:List Int):Prop:=∀i R,eK (L.map aL.c) cs i=some R->∃r:Nat,R=((r+1:Nat):Int)/\r<L.length/\MnO L cs (aA L i).nd r/\bT (aA L R).c
def WfC(L:List aL)(cs:List Int)(gen:Int)(m:Nat)(pn:Option Addr)(cn:Nat)(pc:Option Addr)(cc:Nat)(n:Nat):Prop :=
 ∀{w:World} {D:List Nat} {bk:Nat} {i R:Int} {u:List Nat} {c:Nd},SF w D [(bk,jU L cs gen m pn cn pc cc)] (vD L cs pn pc) [] [] w->eK (L.map aL.c) cs i=some R->Nt (L.map aL.c) cs n i->u.length+n<=12 ->
  Calls Tryz.prog 37 #[.pointer (some ⟨bk,0,none⟩),.agg ⟨Je u.length u (aA L i).nd (aA L R).nd c⟩] w λ e w'=>∃r:Bool,e=.returned (.bool r)/\(r=true↔Vw (L.map aL.c) cs m n i u c.gen)/\SF w D [(bk,jU L cs gen m pn cn pc cc)] [] [] [] w'
theorem ir{n:Nat}{i R:Int}{u:List Nat}{g:Int}(hb:eK (L.map aL.c) cs i=some R):Vw (L.map aL.c) cs m (n+1) i u g↔(oJ (aA L R).nd.kind u.length/\j2 L (aA L R) u.length/\pHs L m (aA L R) u)/\(u.length=0∨(aA L i).nd.gen<=g)/\∀j,j<(aA L R).xs.length->(aA L ((aA L R).xs.getD j 0)).nd.kind=2->Vw (L.map aL.c) cs m n ((aA L R).xs.getD j 0) (u++[((jZ (aA L R).nd.bm.toNat 64).getD j 0).toNat]) (aA L i).nd.gen:=by
 have e:∀b,cA (L.map aL.c) b=(aA L b).c:=cI L
 rw[<- jq]
 simp only[Vw]
 have eu:(u=[])↔u.length=0:=List.length_eq_zero_iff.symm
 constructor
 ·rintro ⟨R',h1,h2,h3,h4⟩
  rw[hb] at h1
  cases h1
  refine⟨h2,?_,?_⟩
  ·rw[<- eu];rw[e] at h3;exact h3
  ·simp only[e] at h4;exact h4
 ·rintro ⟨h2,h3,h4⟩
  refine⟨R,hb,h2,?_,?_⟩
  ·rw[e,eu];exact h3
  ·simp only[e];exact h4
set_option maxRecDepth 100000 in
set_option maxHeartbeats 800000 in
theorem dy(ok:B6 L)(hM:yJ L cs)(hm:m<18446744073709551616)(hc:cs.length<=274877906944){n:Nat}(ih:WfC L cs gen m pn cn pc cc n):WfC L cs gen m pn cn pc cc (n+1):=by
  intro w D bk i R u c hs hb ht hun
  obtain⟨r,hR,hrl,hmo,hmk⟩:=hM i R hb
  obtain⟨V,hVe⟩:∃V,V=aA L R:=⟨_,rfl⟩
  have hV:V∈L:=by rw[hVe,hR,fO hrl];exact eV hrl
  have hVk:V.nd.kind=3∨V.nd.kind=5∨V.nd.kind=6:=by rw[hVe];exact hmk
  obtain⟨R',hb',hbr⟩:=ht
  rw[hb] at hb'
  cases hb'
  rw[cI L R] at hbr
  have hiff:=ir (m:=m) (n:=n) (u:=u) (g:=c.gen) hb
  rw[hiff]
  rw[<- hVe] at hbr ⊢
  have hf:=ok.fit V hV
  have hn:=hf.brN
  have hl:=ok.len
  obtain⟨bt,hbt,hbl,hb3,hb0⟩:=ok.bm V hV
  have hmem:=I6 (cs:=cs) (pn:=pn) (pc:=pc) hV
  have hil:=uY bt 64
  have hxl:V.nd.kind≠3->bt=0:=hb0
  obtain⟨ix,hix⟩:∃ix,ix=jZ bt 64:=⟨_,rfl⟩
  have hixe:jZ V.nd.bm.toNat 64=ix:=by rw[hix,hbt];rfl
  rw[<- hix] at hil
  rw[hixe]
  have hcl:=uG bt 64
  have hx0:V.nd.kind≠3->V.xs=[]:=ok.no V hV
  have hI:∀w1:World,Go.Ct.Cl w1 (some ⟨0,0,none⟩) (nG iB)->Calls Tryz.prog 58 #[.int .u64 V.nd.bm] w1 λ e w'=>∃x:Option Addr×Nat,e=.returned (.slice x.1 ix.length x.2)/\True/\SF w1 [] [] [] [(x.1,aG ix)] [] w':=λ w1 h=>by rw[hbt,hix];exact A2 hbl h
  have hi3:0<ix.length->V.nd.kind=3:=λ h=>Classical.byContradiction λ h3=>by have h0:=hb0 h3;rw[h0,Go.Ct.pX] at hil;omega
  have hlen:V.nd.kind=3->V.xs.length=ix.length:=λ h3=>by have:=hb3 h3;omega
  have hinn:∀y,0<=ix.getD y 0:=λ y=>by rw[hix];exact K5 _ _ _
  have hix64:ix.length<=64:=by omega
  clear hixe hix hil hcl hb0 hb3 hxl hiff
  refine enter Tryz.func37 Tryz.ntmps37 rfl rfl hs ?_
  simp only[cP]
  refine J0 ?_;refine bP (λ x3=>?_);refine gP ?_;refine kN ?_;refine aC (c0 (V:=.bool) (hc:=λ w1 hw=>j8 _ _ _ _ _ w1)) (λ x10 h10=>?_);refine C4 ?_
  (refine eF 12 (λ g12=>?_) (λ g12=>?_)<;>refine Ka0 ?_)
  all_goals (refine Ka2 ?_;(first|refine aH ?_|(refine aF ?_;refine aC (cM (V:=.bool) (hs:=[(bk,jU L cs gen m pn cn pc cc)]) (os:=[]) (hs':=λ _=>[(bk,jU L cs gen m pn cn pc cc)]) (os':=λ _=>[]) (Fc:=λ _=>[]) (A0:=vD L cs pn pc) (hA:=bQ.of λ f hf=>.inr (.inl hf)) (hc:=λ w1 hw=>ti hw hV hf (ok.br V hV) hl)) (λ x15 h15=>?_)));refine Rx ?_;refine aB ?_)
  all_goals (first|refine aH ?_|(refine eF 18 (λ g18=>?_) (λ g18=>?_)<;>refine Ka0 ?_))
  all_goals (refine Ka2 ?_;(first|refine aH ?_|(refine aF ?_;refine aC (cM (V:=.bool) (hs:=[(bk,jU L cs gen m pn cn pc cc)]) (os:=[]) (hs':=λ _=>[(bk,jU L cs gen m pn cn pc cc)]) (os':=λ _=>[]) (Fc:=λ _=>[]) (A0:=vD L cs pn pc) (hA:=bQ.of λ f hf=>.inr (.inl hf)) (hc:=λ w1 hw=>zh hw ok hV hVk hm (by omega) (λ h3=>by have hk:=h10.1 (by(simpa using g12;done));unfold oJ at hk;omega))) (λ x21 h21=>?_)));refine Rx ?_;refine aB ?_)
  all_goals (first|refine aH ?_|(refine eF 24 (λ g24=>?_) (λ g24=>?_)<;>refine Ka2 ?_))
  all_goals ((first|refine aH ?_|(refine aF ?_;refine aC (c0 (V:=.bool) (hc:=λ w1 hw=>ux _ _ _ _ _ w1)) (λ x26 h26=>?_)));refine Rx ?_;refine aI ?_)
  all_goals
   refine aZ (λ c28=>?_) (λ c28=>?_)
   · all_goals try (first|contradiction|(exfalso;omega))
     all_goals refine cQ ?_
     all_goals
      refine aQ Tryz.results37 (λ w hw=>?_)
      refine⟨false,rfl,⟨λ h=>(nomatch h),λ hp=>?_⟩,hw.aT⟩
      obtain⟨⟨q1,q2,q3⟩,q4,_⟩:=hp
      exfalso
      first
       | (have:=h10.2 q1;simp_all;done)
       | (have:=h15.2 q2;simp_all;done)
       | (have:=h21.2 q3;simp_all;done)
       | (have:=h26.2 q4;simp_all;done)
   · try exact nv c28
     all_goals
      have p1:oJ V.nd.kind u.length:=h10.1 (by(simpa using g12;done))
      have p2:j2 L V u.length:=h15.1 (by(simpa using g18;done))
      have p3:pHs L m V u:=h21.1 (by(simpa using g24;done))
      have p4:u.length=0∨(aA L i).nd.gen<=c.gen:=h26.1 (by(simpa using c28;done))
     all_goals (refine jM ?_;refine J0 ?_;refine Kb7 ?_;refine aC (cF (hc:=λ w1 hw=>hI w1 (hw.cl (.bM (.tail (.tail .head)))))) (λ x32 h32=>?_);refine Kb8 ?_)
     all_goals
      refine lE [4,5,6,7,8,34,35,36,37,38,39,40,41,42,43,44,45,46,47,48,49,50,51,52,53,54,55,56,57,58,59,60,61,62,63,64,65,66,67,68,69,70,71] (λ y:Nat=>[(34,.int .i64 ((y:Nat):Int))]) (λ y=>y<=ix.length/\∀j,j<y->(aA L (V.xs.getD j 0)).nd.kind=2->Vw (L.map aL.c) cs m n (V.xs.getD j 0) (u++[(ix.getD j 0).toNat]) (aA L i).nd.gen) (λ _=>_) (λ _=>[(x32.1,aG ix)]) (λ _=>_) (λ y=>ix.length-y) (0) (⟨Nat.zero_le _,λ k hk=>absurd hk (Nat.not_lt_zero k)⟩) (λ y f hx=>?_) (hw0:=λ w hw=>hw)
      dsimp only[fY,List.map,List.cons_append,List.nil_append]
      refine Kb4 ?_
      refine aZ (λ c35=>?_) (λ c35=>?_)
      · try (first|contradiction|(exfalso;omega))
        have hyx:=hx.2
        have hk3:V.nd.kind=3:=hi3 (by omega)
        have hxl3:=hlen hk3
        have hyl:y<V.xs.length:=by omega
        have hu10:u.length<=10:=by unfold oJ at p1;omega
        obtain⟨k,hk,hkl,hkm⟩:=ok.at hV (j:=y) hyl
        have hixy:=hinn y
        have hixk:ix.getD y 0=(((ix.getD y 0).toNat:Nat):Int):=(Int.toNat_of_nonneg hixy).symm
        have hbb:=hbr (V.xs.getD y 0) (by show _∈V.xs;rw[fM,List.getElem?_eq_getElem hyl];exact List.getElem_mem _)
        rw[cI L,hk] at hbb
        refine oE ?_;refine J2 ?_;refine aE (cB (lst:=ix) (k:=y) rf rf fE wn (.new .head) (by omega) (by omega)) rfl ?_;refine aE (cU (lst:=ix) (q:=y) rf wn (.new .head) (by omega)) rfl ?_;refine J8 ?_;refine J2 ?_;refine Kb7 ?_;refine aB ?_;refine aE (cB (lst:=V.xs) (k:=y) rf rf fE wn (.bM (vQ.kX hmem)) (by omega) (by omega)) rfl ?_;refine aE (cU (lst:=V.xs) (q:=y) rf wn (.bM (vQ.kX hmem)) (by omega)) rfl ?_;refine aC (cM (V:=λ _:Unit=>(aA L ((k+1:Nat):Int)).nd.v) (hs:=[(bk,jU L cs gen m pn cn pc cc)]) (os:=[]) (hs':=λ _=>[(bk,jU L cs gen m pn cn pc cc)]) (os':=λ _=>[]) (Fc:=λ _=>[]) (A0:=vD L cs pn pc) (hA:=bQ.of λ f hf=>.inr (.inl hf)) (hc:=λ w1 hw=>by rw[hk];exact jN hw hkl hl)) (λ x46 h46=>?_);refine aP (λ x7=>?_);refine J5 ?_;refine An ?_;refine Kc0 ?_
        refine aZ (λ c49=>?_) (λ c49=>?_)
        · try (first|contradiction|(exfalso;omega))
          refine bI rfl ?_;refine Ka5 ?_
          refine gC (y+1) ?_ (hw1:=λ w hw=>hw.v6)
          · exact⟨by omega,Me hyx (λ h2=>by rw[hk] at h2 ⊢;exact absurd h2 c49)⟩
        · try (first|contradiction|(exfalso;omega))
          have hk2:(aA L ((k+1:Nat):Int)).nd.kind=2:=by exact c49
          have ht2:Nt (L.map aL.c) cs n ((k+1:Nat):Int):=(hbb.resolve_left (λ h=>by have h':(aA L ((k+1:Nat):Int)).nd.kind=4:=h;omega)).2
          obtain⟨R2,hR2⟩:∃R2,eK (L.map aL.c) cs ((k+1:Nat):Int)=some R2:=by
           cases n with
           | zero=>exact ht2.elim
           | succ n=>obtain⟨R2,h,_⟩:=ht2;exact⟨R2,h⟩
          obtain⟨r2,hr2,hr2l,hmo2,hmk2⟩:=hM _ _ hR2
          refine jM ?_
          refine dV [8,50,51,52,53,54,55,56,57,58,59,60,61] (λ j:Nat=>[(8,.pointer (some ⟨j,0,none⟩))]) (λ _=>True) (λ j=>[(j,.cells ⟨Je (u.length+1) u (aA L ((k+1:Nat):Int)).nd (aA L ((r2+1:Nat):Int)).nd (aA L i).nd⟩ 93 (0,0)),(x7,.cells ⟨(aA L ((k+1:Nat):Int)).nd.cells⟩ 77 (0,0)),(x3,.cells ⟨Je u.length u (aA L i).nd V.nd c⟩ 93 (0,0)),(bk,jU L cs gen m pn cn pc cc)]) (λ _=>[(x32.1,aG ix)]) (λ _=>[]) (by decide) (λ _=>by exact rfl) ?_ (λ j f hx=>?_)
          · refine gK (.one 0 [] (.one 1 [] (.one 2 [] (.one 3 [] (.one 4 [] (.one 5 [] (.one 6 [] (.one 7 [] (.one 9 [] (.one 10 [] (.two 8 [1,4,5,10] (.one 11 [] (.one 12 [1,4,5,7,10] (.one 13 [] .nil))) 0 [] (.two 12 [1,4,5,7,10] (.one 8 [1,4,5,10] (.one 11 [] (.one 13 [] .nil))) 0 [] .nil)))))))))))) ?_
            refine mB ?_;refine cJ (i:=2) (hq:=(lU (m:=u.length) (n:=1) rf rf (by omega))) (h:=?_);refine aM ?_;refine bH (i:=4) (hq:=(aK (k:=11) (vs:=Sf u) rf dU (by kernel_rfl) (by exact rfl) (mF u))) (h:=?_);refine bO ?_;refine Kb6 ?_;refine aM ?_;refine bH (i:=10) (hq:=(aK (k:=14) (vs:=(aA L i).nd.cells) rf dU fX (by exact rfl) rfl)) (h:=?_)
            refine gY (E:=[8,12]) (by decide +kernel) ((.cons ?_ (.cons ?_ .nil)))
            · refine kU (i:=8) (hq:=(cM (V:=λ _:Unit=>(aA L ((r2+1:Nat):Int)).nd.v) (hs:=[(bk,jU L cs gen m pn cn pc cc)]) (os:=[]) (hs':=λ _=>[(bk,jU L cs gen m pn cn pc cc)]) (os':=λ _=>[]) (Fc:=λ _=>[]) (A0:=vD L cs pn pc) (hA:=bQ.of λ f hf=>.inr (.inl hf)) (hc:=λ w1 hw=>yQ hw hmo2 hr2l hl hc))) (hfire:=(λ _=>by(refine hJ ?_;(repeat (first|exact aN.nil|refine aN.cons (by first|exact fB|exact eR (hq:=aK (k:=11) (vs:=Sf u) rf dU (by kernel_rfl) (by exact rfl) (mF u))|exact eR (hq:=aK (k:=14) (vs:=(aA L i).nd.cells) rf dU fX (by exact rfl) rfl)) ?_));done))) (h:=λ x58 h58=>?_)
              refine cJ (i:=11) (hq:=(yK (vs:=[(0,.int .i64 ((u.length+1:Nat):Int)),(1,.agg ⟨Sf u⟩),(2,.agg ⟨(aA L ((k+1:Nat):Int)).nd.cells⟩),(3,(aA L ((r2+1:Nat):Int)).nd.v),(4,.agg ⟨(aA L i).nd.cells⟩)]) (cs:=Je (u.length+1) u (aA L ((k+1:Nat):Int)).nd (aA L ((r2+1:Nat):Int)).nd (aA L i).nd) (gZ rfl) (by exact rfl) (by kernel_rfl) (by kernel_rfl))) (h:=?_);refine fS (hfire:=(λ _=>by((repeat (first|exact aN.nil|refine aN.cons (by first|exact fB|exact eR (hq:=aK (k:=11) (vs:=Sf u) rf dU (by kernel_rfl) (by exact rfl) (mF u))|exact eR (hq:=aK (k:=14) (vs:=(aA L i).nd.cells) rf dU fX (by exact rfl) rfl)) ?_));done))) (h:=λ x8=>?_);refine zG ?_
              refine eO (x8) ?_ (hw1:=λ w hw=>hw)
              · trivial
            · refine gB (i:=12) (hfire:=(λ _=>by((repeat (first|exact aN.nil|refine aN.cons (by first|exact fB|exact eR (hq:=aK (k:=11) (vs:=Sf u) rf dU (by kernel_rfl) (by exact rfl) (mF u))|exact eR (hq:=aK (k:=14) (vs:=(aA L i).nd.cells) rf dU fX (by exact rfl) rfl)) ?_));done))) (h:=λ x8=>?_)
              refine bC (i:=8) (hq:=(cM (V:=λ _:Unit=>(aA L ((r2+1:Nat):Int)).nd.v) (hs:=[(bk,jU L cs gen m pn cn pc cc)]) (os:=[]) (hs':=λ _=>[(bk,jU L cs gen m pn cn pc cc)]) (os':=λ _=>[]) (Fc:=λ _=>[]) (A0:=vD L cs pn pc) (hA:=bQ.of λ f hf=>.inr (.inl hf)) (hc:=λ w1 hw=>yQ hw hmo2 hr2l hl hc))) (hfire:=(λ _=>by(refine hJ ?_;(repeat (first|exact aN.nil|refine aN.cons (by first|exact fB|exact eR (hq:=aK (k:=11) (vs:=Sf u) rf dU (by kernel_rfl) (by exact rfl) (mF u))|exact eR (hq:=aK (k:=14) (vs:=(aA L i).nd.cells) rf dU fX (by exact rfl) rfl)) ?_));done))) (h:=λ x58 h58=>?_);refine cJ (i:=11) (hq:=(yK (vs:=[(0,.int .i64 ((u.length+1:Nat):Int)),(1,.agg ⟨Sf u⟩),(2,.agg ⟨(aA L ((k+1:Nat):Int)).nd.cells⟩),(3,(aA L ((r2+1:Nat):Int)).nd.v),(4,.agg ⟨(aA L i).nd.cells⟩)]) (cs:=Je (u.length+1) u (aA L ((k+1:Nat):Int)).nd (aA L ((r2+1:Nat):Int)).nd (aA L i).nd) (gZ rfl) (by exact rfl) (by kernel_rfl) (by kernel_rfl))) (h:=?_);refine zG ?_
              refine eO (x8) ?_ (hw1:=λ w hw=>hw)
              · trivial
          dsimp only[fY,List.map,List.cons_append,List.nil_append]
          refine gU ?_;refine aB ?_;refine aD ?_;refine aE (R9 (e:=3) (n:=11) (k:=u.length) (b:=j) (o:=1) rf rf (by kernel_rfl) (by kernel_rfl) (by omega)) rfl ?_;refine kA (sW λ _=>dZ (off:=1+u.length) (cs:=Je (u.length+1) u (aA L ((k+1:Nat):Int)).nd (aA L ((r2+1:Nat):Int)).nd (aA L i).nd) (v:=.int .i64 (((ix.getD y 0).toNat:Nat):Int)) (cs':=Je (u.length+1) (u++[(ix.getD y 0).toNat]) (aA L ((k+1:Nat):Int)).nd (aA L ((r2+1:Nat):Int)).nd (aA L i).nd) rf dU (by rw[<- hixk];exact rfl) rfl gA (Nat.ble_eq_true_of_le (show 1+u.length+1<=54 by omega)) (qh (by omega)) xA) (λ _=>?_);refine aI ?_;refine Kb0 ?_;refine aC (cM (V:=.bool) (hs:=[(bk,jU L cs gen m pn cn pc cc)]) (os:=[]) (hs':=λ _=>[(bk,jU L cs gen m pn cn pc cc)]) (os':=λ _=>[]) (Fc:=λ _=>[]) (A0:=vD L cs pn pc) (hA:=bQ.of λ f hf=>.inr (.inl hf)) (hc:=λ w1 hw=>by have h9:=ih (i:=((k+1:Nat):Int)) (R:=((r2+1:Nat):Int)) (u:=u++[(ix.getD y 0).toNat]) (c:=(aA L i).nd) hw (by rw[hR2,hr2]) ht2 (by rw[List.length_append,List.length_singleton];omega);rw[List.length_append,List.length_singleton] at h9;exact h9)) (λ x69 h69=>?_);refine mS ?_
          refine aZ (λ c70=>?_) (λ c70=>?_)
          · try (first|contradiction|(exfalso;omega))
            refine cQ ?_
            refine aQ Tryz.results37 (λ w hw=>?_)
            refine⟨false,rfl,⟨λ h=>(nomatch h),λ hp=>?_⟩,hw.aT⟩
            have h9:=hp.2.2 y hyl
            rw[hk] at h9
            have h12:=h69.2 (h9 hk2)
            exfalso
            rw[h12] at c70
            first
             | exact absurd c70 (by decide)
             | (simp at c70;done)
          · try (first|contradiction|(exfalso;omega))
            refine Kc4 ?_
            refine gC (y+1) ?_ (hw1:=λ w hw=>hw.v6)
            · exact⟨by omega,Me hyx (λ h2=>by rw[hk] at h2 ⊢;(exact h69.1 (by(simpa using c70;done))))⟩
      · try (first|contradiction|(exfalso;omega))
        refine bI rfl ?_;refine cQ ?_
        refine aQ Tryz.results37 (λ w hw=>?_)
        refine⟨true,rfl,⟨λ _=>⟨⟨p1,p2,p3⟩,p4,λ j hj h2=>hx.2 j ?_ h2⟩,λ _=>rfl⟩,hw.aT⟩
        have hy:y=ix.length:=by omega
        by_cases h3:V.nd.kind=3
        · have:=hlen h3;omega
        · have:=hf.brN
          exact absurd hj (by rw[show V.xs=[] from hx0 h3];simp)
theorem aw(ok:B6 L)(hM:yJ L cs)(hm:m<18446744073709551616)(hc:cs.length<=274877906944):∀n,WfC L cs gen m pn cn pc cc n
 | 0=>λ _ _ ht _=>ht.elim
 | n+1=>dy ok hM hm hc (aw ok hM hm hc n)
end
end

/- Views: which nodes have been visited; lists of nodes. -/
end Go.Proofs.YtadnboagdhcedaaGreatDoor
namespace Go.Ct
section
open Go Go.RowKit
def V2(n:Nat)(vs:List Bool)(l:List Int):Prop:=vs.length=n/\(∀k,k<n->(vs.getD k false=true↔((k+1:Nat):Int)∈l))/\l.length+vs.count false=n
theorem V2.zero(n:Nat):V2 n (List.replicate n false) []:=⟨by simp,λ k hk=>by simp[fM,hk],by simp⟩
theorem count_set:∀(vs:List Bool) (k:Nat),k<vs.length->vs.getD k false=false->(vs.set k true).count false+1=vs.count false
 | [],_,h,_=>by simp at h
 | b::vs,0,_,h=>by
  have e:b=false:=by simpa using h
  subst e
  simp
 | b::vs,k+1,h,h2=>by
  have:=count_set vs k (by simpa using h) (by simpa using h2)
  rw[List.set_cons_succ,List.count_cons,List.count_cons]
  omega
theorem V2.set{n k:Nat}{vs:List Bool}{l:List Int}(h:V2 n vs l)(hk:k<n)(hf:vs.getD k false=false):V2 n (vs.set k true) (l++[((k+1:Nat):Int)]):=by
 have h1:=h.1
 refine⟨by simp[h.1],λ j hj=>?_,?_⟩
 ·have h2:=h.2.1 j hj
  rw[fM] at h2
  rw[fM,List.getElem?_set]
  by_cases e:k=j
  ·subst e
   simp[show k<vs.length by omega]
  ·rw[if_neg e,h2]
   simp only[List.mem_append,List.mem_singleton]
   constructor
   ·exact .inl
   ·rintro (h3|h3)
    ·exact h3
    ·omega
 ·have:=count_set vs k (by omega) hf
  have:=h.2.2
  simp only[List.length_append,List.length_cons,List.length_nil]
  omega
theorem V2.len{n:Nat}{vs:List Bool}{l:List Int}(h:V2 n vs l):l.length<=n:=by have:=h.2.2;omega
theorem Vk{N:List Nv}{r:Int}(h:bT (cA N r)):1<=r/\r<=N.length:=dD (by unfold bT at h;omega)
theorem iz{L:List aL}{r:Int}(h:1<=r/\r<=L.length):((aA L r).nd.brA,aG (aA L r).xs)∈aV L:=by
 unfold aA
 rw[if_pos h]
 exact I0 (by omega)
theorem Cs(L:List aL)(r:Int):(cA (L.map aL.c) r).xs=(aA L r).xs:=by rw[cI];rfl
theorem Sm{L:List aL}{cs:List Int}{c r:Int}(h:fN (L.map aL.c) cs c=some r):∃k:Nat,r=((k+1:Nat):Int)/\k<L.length:=by
 unfold fN at h
 split at h
 ·rename_i hk
  cases h
  have:=dD (N:=L.map aL.c) (i:=pF (L.map aL.c) cs c) (by omega)
  rw[List.length_map] at this
  exact⟨(pF (L.map aL.c) cs c-1).toNat,by omega,by omega⟩
 ·cases h
end

/- Views: the I-nodes of a trie are visited. -/
section
open Go Go.RowKit
structure VQ where
 l:List Int
 vs:List Bool
 p:Option Addr
 c:Nat
def jr(o:Option (List Int))(b:Bool)(q:VQ):Prop:=match o with|some l=>b=true/\q.l=l|none=>b=false
theorem Rg{N:List Nv}{f:Int->List Int->Option (List Int)}{xs l l2:List Int}{k:Nat}(hk:k<xs.length)(h:jL N f (xs.take k) l=some l2):jL N f xs l=jL N f (xs.getD k 0::xs.drop (k+1)) l2:=by
 have e:xs=xs.take k++(xs.getD k 0::xs.drop (k+1)):=by
  rw[fM,List.getElem?_eq_getElem hk,Option.getD_some,<- List.drop_eq_getElem_cons hk,List.take_append_drop]
 rw[e,uR,<- e,h]
 rfl
theorem vA{N:List Nv}{f:Int->List Int->Option (List Int)}{xs l l2 l3:List Int}{k:Nat}(hk:k<xs.length)(h:jL N f (xs.take k) l=some l2)(h2:jL N f [xs.getD k 0] l2=some l3):jL N f (xs.take (k+1)) l=some l3:=by
 rw[List.take_add_one,List.getElem?_eq_getElem hk,uR,h]
 rw[fM,List.getElem?_eq_getElem hk] at h2
 exact h2
theorem bp{N:List Nv}{f:Int->List Int->Option (List Int)}{b:Int}{l:List Int}(h:(cA N b).kind=4):jL N f [b] l=some l:=by simp[jL,h]
theorem Xw{N:List Nv}{f:Int->List Int->Option (List Int)}{b:Int}{l l2:List Int}(h:(cA N b).kind=2)(hf:f b l=some l2):jL N f [b] l=some l2:=by simp[jL,h,hf]
theorem j5{N:List Nv}{f:Int->List Int->Option (List Int)}{b:Int}{r l:List Int}(h:(cA N b).kind≠4)(h2:(cA N b).kind≠2):jL N f (b::r) l=none:=by simp[jL,h,h2]
theorem vj{N:List Nv}{f:Int->List Int->Option (List Int)}{b:Int}{r l:List Int}(h:(cA N b).kind=2)(hf:f b l=none):jL N f (b::r) l=none:=by simp[jL,h,hf]
theorem Xq{N:List Nv}{cs:List Int}{i:Int}{l:List Int}(h:i∈l):∀{n:Nat},A7 N cs n i l=none
 | 0=>rfl
 | n+1=>by unfold A7;rw[if_pos h]
theorem Zc{N:List Nv}{cs:List Int}{i:Int}{l:List Int}{n:Nat}(h:¬i∈l)(h2:(eK N cs i).isSome=false):A7 N cs (n+1) i l=none:=by
 unfold A7
 rw[if_neg h]
 cases hb:eK N cs i with
 | none=>rfl
 | some m=>rw[hb] at h2;cases h2
theorem Dy{N:List Nv}{cs:List Int}{i m:Int}{l:List Int}{n:Nat}(h:¬i∈l)(h2:eK N cs i=some m):A7 N cs (n+1) i l=jL N (A7 N cs n) (cA N m).xs (l++[i]):=by
 unfold A7
 rw[if_neg h,h2]
 rfl
end
end Go.Ct
namespace Go.Proofs.YtadnboagdhcedaaGreatDoor
section
open Go Go.RowKit Go.Ct
section
variable{L:List aL}{cs:List Int}{gen:Int}{pn pc:Option Addr}{cn cc:Nat}{w:World}
theorem Ju(h:gS w L cs pn pc)(hb:yr L cs)(hl:L.length<=274877906944)(hc:cs.length<=274877906944)(c:Int)(ro:Bool)(hi:c<=9223372036854775807):Calls Tryz.prog 53 #[pW L cs gen pn cn pc cc,.agg ⟨[.int .i64 c,.bool ro]⟩] w λ e w'=>e=.returned (.tuple #[.int .i64 ((fN (L.map aL.c) cs c).getD 0),.bool (fN (L.map aL.c) cs c).isSome])/\St w [] [] w':=by
 refine enter Tryz.func53 Tryz.ntmps53 rfl rfl h.start ?_
 simp only[cP]
 simp only[pW]
 refine J0 ?_;refine bP (λ x2=>?_);refine bP (λ x3=>?_);refine J8 ?_;refine kN ?_;refine J3 ?_;refine aU (cV (hc:=λ w1 hw=>Cf (h.Fa hw) c hi hc)) (λ x11=>?_);refine gP ?_;refine Bx ?_;refine aU (cV (hc:=λ w1 hw=>rX (h.Fa hw) (bV cs c) (hb.cs _) hl)) (λ x14=>?_);refine aP (λ x7=>?_);refine J5 ?_;refine gU ?_;refine sX ?_
 refine aZ (λ c17=>?_) (λ c17=>?_)
 ·refine gU ?_;refine J1 ?_;refine kN ?_;refine J3 ?_;refine aU (cV (hc:=λ w1 hw=>Cf (h.Fa hw) (aA L (bV cs c)).nd.status (hb.status _) hc)) (λ x23=>?_);refine sX ?_
  refine aZ (λ c24=>?_) (λ c24=>?_)
  ·refine dJ ?_;refine J3 ?_;refine gP ?_;refine Bx ?_;refine aU (cV (hc:=λ w1 hw=>rX (h.Fa hw) _ (by exact hb.new _) hl)) (λ x29=>?_);refine cG ?_;refine Kc0 ?_
   refine aZ (λ c31=>?_) (λ c31=>?_)
   ·refine F5 ?_
    refine bK Tryz.results53 (λ w hw=>?_)
    refine⟨?_,hw.done⟩
    unfold fN pF
    simp only[cI,bT,aL.c,Nd.c]
    simp_all
    rfl
   ·refine bA ?_;refine J2 ?_;refine J8 ?_
    refine bK Tryz.results53 (λ w hw=>?_)
    refine⟨?_,hw.done⟩
    unfold fN pF
    simp only[cI,bT,aL.c,Nd.c]
    simp_all
    rfl
  ·refine jM ?_;refine Bx ?_;refine aU (cV (hc:=λ w1 hw=>rX (h.Fa hw) _ (by exact hb.bM _) hl)) (λ x29=>?_);refine cG ?_;refine Kc0 ?_
   refine aZ (λ c31=>?_) (λ c31=>?_)
   ·refine F5 ?_
    refine bK Tryz.results53 (λ w hw=>?_)
    refine⟨?_,hw.done⟩
    unfold fN pF
    simp only[cI,bT,aL.c,Nd.c]
    simp_all
    rfl
   ·refine bA ?_;refine J2 ?_;refine J8 ?_
    refine bK Tryz.results53 (λ w hw=>?_)
    refine⟨?_,hw.done⟩
    unfold fN pF
    simp only[cI,bT,aL.c,Nd.c]
    simp_all
    rfl
 ·refine jM ?_;refine Bx ?_;refine aU (cV (hc:=λ w1 hw=>rX (h.Fa hw) _ (by exact hb.cs _) hl)) (λ x29=>?_);refine cG ?_;refine Kc0 ?_
  refine aZ (λ c31=>?_) (λ c31=>?_)
  ·refine F5 ?_
   refine bK Tryz.results53 (λ w hw=>?_)
   refine⟨?_,hw.done⟩
   unfold fN pF
   simp only[cI,bT,aL.c,Nd.c]
   simp_all
   rfl
  ·refine bA ?_;refine J2 ?_;refine J8 ?_
   refine bK Tryz.results53 (λ w hw=>?_)
   refine⟨?_,hw.done⟩
   unfold fN pF
   simp only[cI,bT,aL.c,Nd.c]
   simp_all
   rfl
abbrev n5(L:List aL)(cs:List Int)(gen:Int)(pn:Option Addr)(cn:Nat)(pc:Option Addr)(cc:Nat)(pv:Nat)(q:VQ)(pp:Option Addr)(ps:List Pr)(cp:Nat):Obj:=.cells ⟨[.slice pn L.length cn,.slice pc cs.length cc,.int .i64 gen,.slice (some ⟨pv,0,none⟩) L.length L.length,.slice q.p q.l.length q.c,.slice pp ps.length cp]⟩ 122 (0,0)
abbrev oq(L:List aL)(pv:Nat)(q:VQ):List Ow:=[⟨some ⟨pv,0,none⟩,iH q.vs,L.length,4,1⟩,⟨q.p,aG q.l,q.c,62,1⟩]
theorem qu{w0:World}{D:List Nat}{b pv:Nat}{q:VQ}{pp:Option Addr}{ps:List Pr}{cp:Nat}{A F:Fr}(h:SF w0 D [(b,n5 L cs gen pn cn pc cc pv q pp ps cp)] A F (oq L pv q) w) :
  SF w0 D [(b,.cells ⟨[.slice pn L.length cn,.slice pc cs.length cc,.int .i64 gen,.slice (some ⟨pv,0,none⟩) L.length L.length,.slice q.p q.l.length q.c,.slice pp ps.length cp]⟩ 122 (0,0))] A F [⟨some ⟨pv,0,none⟩,iH q.vs,L.length,4,1⟩,⟨q.p,aG q.l,q.c,62,1⟩] w:=h
def r7(L:List aL)(cs:List Int)(gen:Int)(pn:Option Addr)(cn:Nat)(pc:Option Addr)(cc:Nat)(b pv:Nat)(pp:Option Addr)(ps:List Pr)(cp:Nat)(n:Nat):Prop:=∀(lvl:Nat),lvl+n=12->∀(k:Nat) (q:VQ) (D:List Nat) (w:World),k<L.length->V2 L.length q.vs q.l->SF w D [(b,n5 L cs gen pn cn pc cc pv q pp ps cp)] ((pn,gR L)::(pc,aG cs)::aV L) [] (oq L pv q) w ->
  Calls Tryz.prog 67 #[.pointer (some ⟨b,0,none⟩),.int .i64 ((k+1:Nat):Int),.int .i64 ((lvl:Nat):Int)] w λ e w'=>∃x:Bool×VQ,e=.returned (.bool x.1)/\(jr (A7 (L.map aL.c) cs n ((k+1:Nat):Int) q.l) x.1 x.2/\V2 L.length x.2.vs x.2.l)/\SF w D [(b,n5 L cs gen pn cn pc cc pv x.2 pp ps cp)] [] [] (oq L pv x.2) w'
theorem Lj(h0:Fits L)(hb:yr L cs)(hl:L.length<=274877906944)(hc:cs.length<=274877906944)(b pv:Nat)(pp:Option Addr)(ps:List Pr)(cp:Nat)(n:Nat)(ih:∀m,n=m+1->r7 L cs gen pn cn pc cc b pv pp ps cp m):r7 L cs gen pn cn pc cc b pv pp ps cp n:=by
  intro lvl hn k q D w hk hv hs
  have hvl:=hv.1
  have hvn:=hv.len
  refine enter Tryz.func67 Tryz.ntmps67 rfl rfl (qu hs) ?_
  simp only[cP]
  refine Ka7 ?_;refine wE ?_;refine aB ?_
  (refine eF 13 (λ g13=>?_) (λ g13=>?_)<;>refine Ka0 ?_)
  all_goals ((first|refine aH ?_|(refine aF ?_;refine dL ?_));refine J6 ?_;refine J68 ?_;(first|refine aH ?_|(refine aF ?_;refine aE (uL (k:=k) rf rf fE gA fin (by omega) (by omega)) rfl ?_));(first|refine aH ?_|(refine aF ?_;refine aE (Jk (q:=k) rf gA fin (by omega)) rfl ?_));refine cH ?_;refine aI ?_)
  all_goals
   refine aZ (λ c22=>?_) (λ c22=>?_)
   · all_goals try (first|(exact abt)|(exfalso;omega))
     all_goals refine cQ ?_
     all_goals
      refine aQ Tryz.results67 (λ w hw=>?_)
      first
       | exact⟨(false,q),rfl,⟨by rw[Xq ((hv.2.1 k hk).1 (by assumption))];exact rfl,hv⟩,hw.aT⟩
       | exact⟨(false,q),rfl,⟨by rw[show n=0 by omega];exact rfl,hv⟩,hw.aT⟩
   · try exact nv c22
     all_goals
      obtain⟨m,rfl⟩:∃m,n=m+1:=⟨n-1,by omega⟩
      have hnot:¬(((k+1:Nat):Int)∈q.l):=λ hm=>by have:=(hv.2.1 k hk).2 hm;simp_all
      have hv2:=hv.set hk (by simp_all)
     all_goals (refine vi ?_;refine aB ?_;refine pC ?_;refine aE (uL (k:=k) rf rf fE gA fin (by omega) (by omega)) rfl ?_;refine J5 ?_;refine iQ ?_;refine dL ?_;refine J3 ?_;refine aB ?_;refine fF (λ x36=>?_);(refine eL (λ x37=>?_);try (refine eZ (λ h37=>?_)));refine a8 ?_;refine Fo ?_;refine aE (aK (k:=3) rf dU fX (by simp only[List.drop_zero,List.take_succ_cons,List.take_zero];exact rfl) rfl) rfl ?_;refine aB ?_;refine aU (cV (hc:=λ w1 hw=>ik (hw.tH (.inr (.inl (.head _))) (.inr (.inl (.tail _ (.head _)))) (λ f hf=>.inr (.inl (.tail _ (.tail _ hf)))) h0) hb hl hc ((k+1:Nat):Int) (by omega))) (λ x46=>?_);refine Kb9 ?_;refine mS ?_)
     all_goals
      refine aZ (λ c50=>?_) (λ c50=>?_)
      · try (first|(exact abt)|(exfalso;omega))
        refine cQ ?_
        refine aQ Tryz.results67 (λ w hw=>?_)
        rw[show q.l.length+1=(q.l++[((k+1:Nat):Int)]).length by simp] at hw
        exact⟨(false,⟨q.l++[((k+1:Nat):Int)],q.vs.set k true,x37.1,x37.2⟩),rfl,⟨by rw[Zc hnot (by simpa using c50)];exact rfl,hv2⟩,hw.aT⟩
      · try (first|(exact abt)|(exfalso;omega))
        obtain⟨r,hr⟩:=Option.isSome_iff_exists.1 (show(eK (L.map aL.c) cs ((k+1:Nat):Int)).isSome=true by simpa using c50)
        rw[hr,Option.getD_some]
        have hfr:=Ux h0 r
        have hri:=Vk (Vi hr).2
        rw[List.length_map] at hri
        have hrr:r<=9223372036854775807:=by omega
        have hbn:=hfr.brN
        have hbs:=hfr.brS
        have hfm:=iz hri
        have hbr:=hb.br r
        refine jM ?_;refine Fo ?_;refine aE (aK (k:=3) rf dU fX (by simp only[List.drop_zero,List.take_succ_cons,List.take_zero];exact rfl) rfl) rfl ?_;refine aB ?_;refine aU (cV (hc:=λ w1 hw=>rX (hw.tH (.inr (.inl (.head _))) (.inr (.inl (.tail _ (.head _)))) (λ f hf=>.inr (.inl (.tail _ (.tail _ hf)))) h0) _ (by omega) hl)) (λ x56=>?_);refine cG ?_;refine Kb8 ?_
        refine lE [6,10,59,60,61,62,63,64,65,66,67,68,69,70,71,72,73,74,75,76,77,78,79,80] (λ y:Nat×VQ=>[(59,.int .i64 ((y.1:Nat):Int))]) (λ y=>y.1<=(aA L r).xs.length/\jL (L.map aL.c) (A7 (L.map aL.c) cs m) ((aA L r).xs.take y.1) (q.l++[((k+1:Nat):Int)])=some y.2.l/\V2 L.length y.2.vs y.2.l) (λ y=>[(b,n5 L cs gen pn cn pc cc pv y.2 pp ps cp)]) (λ _=>_) (λ y=>oq L pv y.2) (λ y=>(aA L r).xs.length-y.1) ((0,⟨q.l++[((k+1:Nat):Int)],q.vs.set k true,x37.1,x37.2⟩)) (⟨Nat.zero_le _,rfl,hv2⟩) (λ y f hx=>?_) (hw0:=λ w hw=>by rw[show q.l.length+1=(q.l++[((k+1:Nat):Int)]).length by simp] at hw;exact hw.back)
        dsimp only[fY,List.map,List.cons_append,List.nil_append]
        have hyn:=hx.2.2.len
        have hyl:=hx.2.2.1
        refine Kb4 ?_
        refine aZ (λ c60=>?_) (λ c60=>?_)
        · try (first|(exact abt)|(exfalso;omega))
          have hbk:(aA L r).xs.getD y.1 0<=9223372036854775807:=hbr _ (by rw[fM,List.getElem?_eq_getElem (by omega)];exact List.getElem_mem _)
          refine Kc9 ?_;refine aE (cB (k:=y.1) rf rf fE gA (.bM (.tail (.tail (vQ.kX hfm)))) (by omega) (by omega)) rfl ?_;refine aE (cU (q:=y.1) rf gA (.bM (.tail (.tail (vQ.kX hfm)))) (by omega)) rfl ?_;refine J1 ?_;refine Fo ?_;refine aE (aK (k:=3) rf dU fX (by simp only[List.drop_zero,List.take_succ_cons,List.take_zero];exact rfl) rfl) rfl ?_;refine aB ?_;refine aU (cV (hc:=λ w1 hw=>rX (hw.tH (.inr (.inl (.head _))) (.inr (.inl (.tail _ (.head _)))) (λ f hf=>.inr (.inl (.tail _ (.tail _ hf)))) h0) _ (by omega) hl)) (λ x68=>?_);refine cG ?_;refine Kc3 ?_;refine jC ?_
          refine aZ (λ c70=>?_) (λ c70=>?_)
          · try (first|(exact abt)|(exfalso;omega))
            refine lM ?_;refine eT ?_;refine Ka5 ?_
            refine gC ((by exact(y.1+1,y.2))) ?_
            · first
               | exact⟨by omega,vA (by omega) hx.2.1 (by rw[hj.1];exact Xw hkd hvq),h78.2⟩
               | exact⟨by omega,vA (by omega) hx.2.1 (bp (by rw[cI];exact c70)),hx.2.2⟩
          · try (first|(exact abt)|(exfalso;omega))
            refine jC ?_
            refine aZ (λ c72=>?_) (λ c72=>?_)
            · try (first|(exact abt)|(exfalso;omega))
              obtain⟨j,hj⟩:∃j:Nat,(aA L r).xs.getD y.1 0=((j+1:Nat):Int)/\j<L.length:=by
               have:=dD (N:=L.map aL.c) (i:=(aA L r).xs.getD y.1 0) (by rw[cI];show(aA L ((aA L r).xs.getD y.1 0)).nd.kind≠0;omega)
               rw[List.length_map] at this
               exact⟨((aA L r).xs.getD y.1 0-1).toNat,by omega,by omega⟩
              have hkd:(cA (L.map aL.c) ((aA L r).xs.getD y.1 0)).kind=2:=by rw[cI];exact c72
              rw[hj.1] at hkd ⊢
              refine Kd1 ?_;refine E9 ?_;refine aC (cM (hs:=[(b,n5 L cs gen pn cn pc cc pv y.2 pp ps cp)]) (os:=oq L pv y.2) (hc:=λ w1 hs=>ih m rfl (lvl+1) (by omega) j y.2 _ w1 hj.2 hx.2.2 hs)) (λ x78 h78=>?_);refine mS ?_
              refine aZ (λ c79=>?_) (λ c79=>?_)
              · try (first|(exact abt)|(exfalso;omega))
                refine cQ ?_
                refine aQ Tryz.results67 (λ w hw=>?_)
                have hvq:A7 (L.map aL.c) cs m ((j+1:Nat):Int) y.2.l=none:=by
                 have h1:=h78.1
                 unfold jr at h1
                 split at h1
                 · exfalso;simp_all
                 · assumption
                exact⟨(false,x78.2),rfl,⟨by rw[Dy hnot hr,Cs,Rg (by omega) hx.2.1,hj.1,vj hkd hvq];exact rfl,h78.2⟩,hw.aT⟩
              · try (first|(exact abt)|(exfalso;omega))
                have hvq:A7 (L.map aL.c) cs m ((j+1:Nat):Int) y.2.l=some x78.2.l:=by
                 have h1:=h78.1
                 unfold jr at h1
                 split at h1
                 · rename_i l e
                   rw[e,h1.2]
                 · exfalso;simp_all
                refine lM ?_;refine eT ?_;refine Ka5 ?_
                refine gC ((by exact(y.1+1,x78.2))) ?_
                · first
                   | exact⟨by omega,vA (by omega) hx.2.1 (by rw[hj.1];exact Xw hkd hvq),h78.2⟩
                   | exact⟨by omega,vA (by omega) hx.2.1 (bp (by rw[cI];exact c70)),hx.2.2⟩
            · try (first|(exact abt)|(exfalso;omega))
              refine cQ ?_
              refine aQ Tryz.results67 (λ w hw=>?_)
              exact⟨(false,y.2),rfl,⟨by rw[Dy hnot hr,Cs,Rg (by omega) hx.2.1,j5 (by rw[cI];exact c70) (by rw[cI];exact c72)];exact rfl,hx.2.2⟩,hw.aT⟩
        · try (first|(exact abt)|(exfalso;omega))
          refine bI rfl ?_;refine cQ ?_
          refine aQ Tryz.results67 (λ w hw=>?_)
          refine⟨(true,y.2),rfl,⟨?_,hx.2.2⟩,hw.aT⟩
          have e2:=hx.2.1
          rw[List.take_of_length_le (by omega)] at e2
          rw[Dy hnot hr,Cs,e2]
          exact⟨rfl,rfl⟩
theorem Kj(h0:Fits L)(hb:yr L cs)(hl:L.length<=274877906944)(hc:cs.length<=274877906944)(b pv:Nat)(pp:Option Addr)(ps:List Pr)(cp:Nat):∀n,r7 L cs gen pn cn pc cc b pv pp ps cp n
 | 0=>Lj h0 hb hl hc b pv pp ps cp 0 λ m e=>nomatch e
 | n+1=>Lj h0 hb hl hc b pv pp ps cp (n+1) λ m e=>by cases e;exact Kj h0 hb hl hc b pv pp ps cp n
end
end

end Go.Proofs.YtadnboagdhcedaaGreatDoor

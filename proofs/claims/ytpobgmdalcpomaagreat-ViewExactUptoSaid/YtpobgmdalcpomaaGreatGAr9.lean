/- An arena with a state. -/
import Derived.Test.YtpobgmdalcpomaaGreatGAr5
import Derived.Test.YtpobgmdalcpomaaGreatAuto
import Derived.Test.YtpobgmdalcpomaaGreatGMem

set_option linter.unusedSimpArgs false
set_option linter.unusedVariables false
namespace Go.Ct
section
theorem Er{n:Nd}{xs:List Int}{ys:List Pr}(h:bL n xs ys)(hk:n.kind=1):n.c xs ys=dE.c:=by
 have e:=zL.1 h.1
 rw[e]
 simp[Nd.own,Nd.jY,Nd.jF,hk,Nd.c,aQ.c,dE,Nd.zero]
theorem dK.all{L L':List aQ}{cs:List Int}{gen:Int}(h:dK L cs gen)(h2:L'.map aQ.c=(L.drop 2).map aQ.c):(tg L').map aQ.c=L.map aQ.c:=by
 have h0:=h.nodes 0 (by have:=h.two;omega)
 have h1:=h.nodes 1 (by have:=h.two;omega)
 have e0:(L.getD 0 aQ.zero).c=dE.c:=Er h0.1 h.m0
 have e1:(L.getD 1 aQ.zero).c=dE.c:=Er h1.1 h.m1
 have h3:=h.two
 match L,h3 with
 | a::b::r,_ =>
  simp only[List.getD_cons_zero,List.getD_cons_succ] at e0 e1
  simp only[List.drop_succ_cons,List.drop_zero] at h2
  simp only[tg,List.map_cons,h2,e0,e1]
end
end Go.Ct
namespace Go.Proofs.YtpobgmdalcpomaaGreat
section
open Go.RowKit Go.Ct
theorem te{L:List aQ}{cs:List Int}{gen:Int}{pn pc:Option Addr}{cn cc:Nat}{w:World}(h:fV w L cs pn pc)(hL:L.length<=274877906944)(hC:cs.length<=274877906944)(hp:¬dK L cs gen) :
  Calls Tryz.prog 56 #[.agg ⟨[.slice pn L.length cn,.slice pc cs.length cc,.int .i64 gen]⟩] w λ e w'=>e=.returned (.tuple #[.pointer none,.int .i64 1])/\St w [] [] w':=by
 refine enter Tryz.func56 Tryz.ntmps56 rfl rfl h.start ?_
 simp only[dB]
 all_goals (refine J0 ?_;refine bM (λ x1=>?_);refine J8 ?_;refine aT ?_;refine iU ?_;(refine aF (c0 (V:=.bool) (hc:=λ w1 hw=>Oo ⟨hw.cl (.cE .head),hw.cl (.cE (.tail .head)),λ f hf=>(hw.cE f (List.mem_cons_of_mem _ (List.mem_cons_of_mem _ hf))).1,h.fit⟩ hL hC)) (λ x8=>?_);try (refine aB (λ h8=>?_)));refine kD ?_)
 all_goals
 refine bF (λ c9=>?_) (λ c9=>?_)
 ·try exact nv c9
  all_goals refine qE ?_
  all_goals
   refine bH Tryz.results56 (λ w hw=>?_)
   exact⟨rfl,hw.done⟩
 ·try exact nv c9
  all_goals
   exact absurd (h8.1 c9) hp
  all_goals (refine iW ?_;refine dL [(0,[]),(1,[]),(3,[]),(4,[]),(2,[4]),(5,[]),(6,[]),(7,[])] ?_;refine jP ?_;refine jP ?_;((refine bA (i:=2) (hq:=(NO)) (h:=λ x12=>?_);try (refine aK (λ h12=>?_))));refine eT ?_;refine Tk (h:=λ x16=>?_);refine J7 ?_;refine J2 ?_;refine Gh ?_;refine j_sub ?_;refine pV (λ x22=>?_);refine Lj ?_;refine Aj ?_;(refine j_sliceL (λ x27=>?_);try (refine aB (λ h27=>?_)));refine dW ?_;refine uM ?_;refine cZ ?_)
  all_goals
   refine gE [6,29,30,31,32,33,34,35,36,37,38,39,40,41,42,43,44] (λ y:Nat=>[]) (λ y=>True) (λ y=>0) (0) (trivial) ?_ (λ k f hx=>?_)
   ·repeat (first|exact bI _|refine bE (by first|exact rfl|(conv=>{lhs;whnf};simp;done)) ?_)
   dsimp only[gW,List.map,List.cons_append,List.nil_append]
   all_goals (refine J0 ?_;refine uQ ?_;refine aT ?_)
   all_goals
   refine bF (λ c30=>?_) (λ c30=>?_)
   ·try exact nv c30
    all_goals (refine oD ?_;refine J0 ?_;refine Dc ?_;refine aY (λ x6=>?_);refine J5 ?_;refine dL [(0,[]),(1,[]),(2,[]),(3,[]),(4,[]),(5,[]),(6,[4]),(7,[4]),(8,[]),(9,[]),(10,[]),(11,[])] ?_;refine Gg ?_;refine bT ?_;((refine bA (i:=6) (hq:=(NO)) (h:=λ x39=>?_);try (refine aK (λ h39=>?_))));refine bB (h:=λ x40=>?_);((refine cR (h:=λ x41=>?_);try (refine aK (λ h41=>?_))));refine Il ?_;refine eV ?_;refine Ld ?_;refine uM ?_)
    all_goals
     refine fD (0) ?_ ?_ ?_
     ·first|omega|(simp only[];omega)
     ·repeat' (first|exact bI _|refine bE ?_ ?_)
      all_goals (first|exact rfl|(conv=>{lhs;whnf};simp;done)|(conv=>{lhs;whnf};congr 1;omega))
     ·trivial
   ·try exact nv c30
    all_goals (refine bQ rfl ?_;refine J2 ?_;refine J8 ?_)
    all_goals
     refine bH Tryz.results56 (λ w hw=>?_)
     exact⟨rfl,hw.done⟩
theorem td{L:List aQ}{cs:List Int}{gen:Int}{pn pc:Option Addr}{cn cc:Nat}{w:World}(h:fV w L cs pn pc)(hL:L.length<=274877906944)(hC:cs.length<=274877906944)(hcn:L.length<=cn)(hp:dK L cs gen) :
  Calls Tryz.prog 56 #[.agg ⟨[.slice pn L.length cn,.slice pc cs.length cc,.int .i64 gen]⟩] w λ e w'=>∃x:Nat×List aQ×(Option Addr×Nat)×(Option Addr×Nat),e=.returned (.tuple #[.pointer (some ⟨x.1,0,none⟩),.int .i64 0]) /\
   ((tg x.2.1).map aQ.c=L.map aQ.c/\Fits x.2.1)/\SF w [] [(x.1,aO x.2.1 cs gen 0 x.2.2.1.1 x.2.2.1.2 x.2.2.2.1 x.2.2.2.2)] [] (bG x.2.1) (mW x.2.1 cs x.2.2.1.1 x.2.2.1.2 x.2.2.2.1 x.2.2.2.2) w':=by
 have h2L:=hp.two
 refine enter Tryz.func56 Tryz.ntmps56 rfl rfl h.start ?_
 simp only[dB]
 all_goals (refine J0 ?_;refine bM (λ x1=>?_);refine J8 ?_;refine aT ?_;refine iU ?_;(refine aF (c0 (V:=.bool) (hc:=λ w1 hw=>Oo ⟨hw.cl (.cE .head),hw.cl (.cE (.tail .head)),λ f hf=>(hw.cE f (List.mem_cons_of_mem _ (List.mem_cons_of_mem _ hf))).1,h.fit⟩ hL hC)) (λ x8=>?_);try (refine aB (λ h8=>?_)));refine kD ?_)
 all_goals
 refine bF (λ c9=>?_) (λ c9=>?_)
 ·try exact nv c9
  all_goals
   exact absurd hp (λ hp=>by rw[h8.2 hp] at c9;cases c9)
  all_goals refine qE ?_
  all_goals
   refine bH Tryz.results56 (λ w hw=>?_)
   have hlen:y.1.length=L.length-2:=by omega
   refine⟨(x16,y.1,(y.2.1,y.2.2),(x12.1,x12.2)),rfl,⟨hp.all (by rw[hx.1,hlen,List.take_of_length_le (by rw[List.length_drop];omega)]),hx.2.2⟩,?_⟩
   exact hw.ret (by repeat (first|exact List.nil_sublist _|apply List.Sublist.cons_cons|apply List.Sublist.cons)) aW.all (List.Sublist.refl _)
 ·try exact nv c9
  all_goals (refine iW ?_;refine dL [(0,[]),(1,[]),(3,[]),(4,[]),(2,[4]),(5,[]),(6,[]),(7,[])] ?_;refine jP ?_;refine jP ?_;((refine bA (i:=2) (hq:=(Y0 (Hc:=λ _=>[]) (Fc:=λ _=>[]) (hc:=λ w1 hw=>P6 (hw.cl fin) hC))) (h:=λ x12=>?_);try (refine aK (λ h12=>?_))));refine eT ?_;refine Tk (h:=λ x16=>?_);refine J7 ?_;refine J2 ?_;refine Gh ?_;refine aH (fP (n:=2) rf rf (by omega) (by omega)) rfl ?_;refine pV (λ x22=>?_);refine Lj ?_;refine Aj ?_;(refine aF (kj (k:=2) rf rf fG (by exact tB rfl) (by omega) fin hcn rfl) (λ x27=>?_);try (refine aB (λ h27=>?_)));refine dW ?_;refine uM ?_;refine cZ ?_)
  all_goals
   refine lO [6,29,30,31,32,33,34,35,36,37,38,39,40,41,42,43,44] (λ y:List aQ×Option Addr×Nat=>[(29,.int .i64 ((y.1.length:Nat):Int))]) (λ y=>y.1.map aQ.c=((L.drop 2).take y.1.length).map aQ.c/\y.1.length<=L.length-2/\Fits y.1) (λ y=>[(x16,.cells ⟨[.slice y.2.1 y.1.length y.2.2,.slice x12.1 cs.length x12.2,.int .i64 gen,.int .i64 0]⟩ 128 (0,0)),(x1,.cells ⟨[.slice pn L.length cn,.slice pc cs.length cc,.int .i64 gen]⟩ 41 (0,0))]) (λ y=>bG y.1) (λ y=>[⟨y.2.1,iD y.1,y.2.2,59,14⟩,⟨x12.1,aJ cs,x12.2,52,1⟩]) (λ y=>L.length-2-y.1.length) (([],some ⟨x22,0,none⟩,L.length-2)) (⟨rfl,Nat.zero_le _,λ _ h=>(List.not_mem_nil h).elim⟩) (λ y f hx=>?_) (hw0:=λ w hw=>hw.back)
   dsimp only[gW,List.map,List.cons_append,List.nil_append]
   all_goals (refine J0 ?_;refine uQ ?_;refine aT ?_)
   all_goals
   refine bF (λ c30=>?_) (λ c30=>?_)
   ·try exact nv c30
    all_goals (refine oD ?_;refine J0 ?_;refine aH (qX rf rf fG dS fin (by omega) (by rw[List.length_drop];omega)) rfl ?_;refine aH (Ts rf dS fin (by rw[List.length_drop];omega)) rfl ?_;refine aY (λ x6=>?_);refine J5 ?_;refine dL [(0,[]),(1,[]),(2,[]),(3,[]),(4,[]),(5,[]),(6,[4]),(7,[4]),(8,[]),(9,[]),(10,[]),(11,[])] ?_;refine Gg ?_;refine bT ?_;((refine bA (i:=6) (hq:=(cF (V:=λ p:Option Addr×Option Addr=>.agg ⟨(((L.drop 2).getD y.1.length aQ.zero).at_ p.1 p.2).nd.cells⟩) (hc:=λ w1 hw=>gu (hw.y5 (L:=L) (λ f hf=>.inr (.inl (List.mem_cons_of_mem _ (List.mem_cons_of_mem _ (List.mem_cons_of_mem _ hf))))) h.fit (List.mem_of_mem_drop (fX (by rw[List.length_drop];omega)))) (h.fit _ (List.mem_of_mem_drop (fX (by rw[List.length_drop];omega)))).brS (h.fit _ (List.mem_of_mem_drop (fX (by rw[List.length_drop];omega)))).prS))) (h:=λ x39=>?_);try (refine aK (λ h39=>?_))));refine bB (h:=λ x40=>?_);((refine bA (i:=8) (hq:=(aP.eL (j2 (((L.drop 2).getD y.1.length aQ.zero).at_ x39.1 x39.2) rf rf dZ rfl fin Lo rfl fG om) dV)) (h:=λ x41=>?_);try (refine aK (λ h41=>?_))));refine Il ?_;refine eV ?_;refine Ld ?_;refine uM ?_)
    all_goals
     refine gY ((y.1++[((L.drop 2).getD y.1.length aQ.zero).at_ x39.1 x39.2],x41.1,x41.2)) ?_ (hw1:=λ w hw=>by
      have h3:=hw.us (L:=y.1) (v:=((L.drop 2).getD y.1.length aQ.zero).at_ x39.1 x39.2) (F':=[]) (List.mem_cons_of_mem _ (List.mem_cons_self ..)) (List.mem_cons_of_mem _ (List.mem_cons_of_mem _ (List.mem_cons_self ..))) (λ f hf=>List.mem_cons_of_mem _ (List.mem_cons_of_mem _ (List.mem_cons_of_mem _ hf)))
      have h4:=h3.sub (H':=[_,_]) (by repeat (first|exact List.Sublist.refl _|apply List.Sublist.cons)) aW.all (List.Sublist.refl _)
      simpa using h4) (hμ:=by simp only[List.length_append,List.length_cons,List.length_nil];omega)
     ·have hlt:y.1.length<(L.drop 2).length:=by rw[List.length_drop];omega
      refine⟨?_,by simp only[List.length_append,List.length_cons,List.length_nil];omega,λ v hv=>?_⟩
      ·rw[List.map_append,hx.1,List.length_append,List.length_singleton,List.take_succ_eq_append_getElem hlt,List.map_append,gdg,List.getElem?_eq_getElem hlt]
       rfl
      ·rcases List.mem_append.1 hv with hv|hv
       ·exact hx.2.2 v hv
       ·simp only[List.mem_singleton] at hv
        subst hv
        exact aQ.su (h.fit _ (List.mem_of_mem_drop (fX hlt))) _ _
   ·try exact nv c30
    all_goals (refine bQ rfl ?_;refine J2 ?_;refine J8 ?_)
    all_goals
     refine bH Tryz.results56 (λ w hw=>?_)
     have hlen:y.1.length=L.length-2:=by omega
     refine⟨(x16,y.1,(y.2.1,y.2.2),(x12.1,x12.2)),rfl,⟨hp.all (by rw[hx.1,hlen,List.take_of_length_le (by rw[List.length_drop];omega)]),hx.2.2⟩,?_⟩
     exact hw.ret (by repeat (first|exact List.nil_sublist _|apply List.Sublist.cons_cons|apply List.Sublist.cons)) aW.all (List.Sublist.refl _)
end

/- Proper states: a node more. -/
end Go.Proofs.YtpobgmdalcpomaaGreat
namespace Go.Ct
section
theorem P2{u u':List Bool}{n:Nd}(h:fB (some u) n=some u'):fB (some (u++[false])) n=some (u'++[false]):=by
 simp only[fB] at h ⊢
 cases hc:dR n with
 | none=>rw[hc] at h;simp only[Option.some.injEq] at h;rw[h]
 | some c =>
  rw[hc] at h
  simp only at h ⊢
  split at h
  ·rename_i hh
   simp only[Option.some.injEq] at h
   have hlt:(c-1).toNat<u.length:=by omega
   rw[if_pos ⟨hh.1,by simp only[List.length_append,List.length_cons,List.length_nil];omega,by rw[gdg,List.getElem?_append_left hlt,<- gdg];exact hh.2.2⟩,List.set_append_left _ _ hlt,h]
  ·cases h
theorem O6{m:Nat}:∀{L:List aQ} {u:List Bool},marks m L=some u->marks (m+1) L=some (u++[false]):=by
 have key:∀(l:List aQ) (u0:List Bool) (u:List Bool),l.foldl (λ u v=>fB u v.nd) (some u0)=some u->l.foldl (λ u v=>fB u v.nd) (some (u0++[false]))=some (u++[false]):=by
  intro l
  induction l with
  | nil=>intro u0 u h;simp only[List.foldl_nil,Option.some.injEq] at h ⊢;rw[h]
  | cons v l ih =>
   intro u0 u h
   simp only[List.foldl_cons] at h ⊢
   cases hm:fB (some u0) v.nd with
   | none =>
    rw[hm] at h
    exfalso
    have:∀l:List aQ,l.foldl (λ u v=>fB u v.nd) none=none:=λ l=>by
     induction l with
     | nil=>rfl
     | cons v l ih=>exact ih
    rw[this] at h
    cases h
   | some u1 =>
    rw[hm] at h
    rw[P2 hm]
    exact ih u1 u h
 intro L u h
 have:=key L _ u h
 rw[marks,List.replicate_succ',this]
theorem Gb{m:Nat}{L:List aQ}{v:aQ}:marks m (L++[v])=fB (marks m L) v.nd:=by rw[marks,List.foldl_append];rfl
theorem A3{L:List aQ}{v:aQ}{i:Nat}(h:i<L.length+1):(L++[v]).getD i aQ.zero=if i<L.length then L.getD i aQ.zero else v:=by
 rw[gdg]
 split
 ·rename_i hi
  rw[List.getElem?_append_left hi,<- gdg]
 ·rename_i hi
  rw[List.getElem?_append_right (by omega),show i-L.length=0 by omega]
  rfl
theorem B5.mono{r:Int}{n m:Nat}(h:B5 r n)(hm:n<=m):B5 r m:=⟨h.1,Int.le_trans h.2 (by omega)⟩
theorem kG.mono{gen:Int}{n m:Nat}{v:aQ}(h:kG gen n v)(hm:n<=m):kG gen m v:=⟨h.1,h.2.1,λ i hi=>(h.2.2.1 i hi).mono hm,h.2.2.2.1.mono hm,h.2.2.2.2.1.mono hm,h.2.2.2.2.2.mono hm⟩
theorem Nj{L:List aQ}{cs:List Int}{gen init:Int}{v:aQ}(h:dK L cs gen)(hv:kG gen (L.length+1) v)(hi:B5 init L.length){k:Int}(hk:(dR v.nd=none/\eQ k cs init=cs)∨(dR v.nd=some ((cs.length+1:Nat):Int)/\eQ k cs init=cs++[init])) :
  dK (L++[v]) (eQ k cs init) gen:=by
 have hlen:(L++[v]).length=L.length+1:=by simp
 have h2:=h.two
 have nodes:∀i,i<(L++[v]).length->kG gen (L++[v]).length ((L++[v]).getD i aQ.zero):=λ i hi=>by
  rw[hlen] at hi ⊢
  rw[A3 hi]
  split
  ·exact(h.nodes i (by assumption)).mono (by omega)
  ·exact hv
 have k0:((L++[v]).getD 0 aQ.zero).nd.kind=1:=by rw[A3 (by omega),if_pos (by omega)];exact h.m0
 have k1:((L++[v]).getD 1 aQ.zero).nd.kind=1:=by rw[A3 (by omega),if_pos (by omega)];exact h.m1
 cases hm:marks cs.length L with
 | none=>exact absurd hm h.marks
 | some u =>
  have hu:=Bb hm
  rcases hk with⟨e1,e2⟩|⟨e1,e2⟩
  ·rw[e2]
   refine⟨by omega,h.gen0,k0,k1,λ i hi=>(h.cells i hi).mono (by omega),nodes,?_⟩
   rw[Gb,hm]
   simp only[fB,e1]
   exact λ h=>nomatch h
  ·rw[e2]
   refine⟨by omega,h.gen0,k0,k1,λ i hi'=>?_,nodes,?_⟩
   ·rw[gdg]
    by_cases hlt:i<cs.length
    ·rw[List.getElem?_append_left hlt,<- gdg]
     exact(h.cells i hlt).mono (by omega)
    ·simp only[List.length_append,List.length_cons,List.length_nil] at hi'
     rw[List.getElem?_append_right (by omega),show i-cs.length=0 by omega]
     exact hi.mono (by omega)
   ·rw[Gb,show(cs++[init]).length=cs.length+1 by simp,O6 hm]
    simp only[fB,e1]
    have e3:(((cs.length+1:Nat):Int)-1).toNat=cs.length:=by omega
    rw[e3,if_pos ⟨by omega,by simp only[List.length_append,List.length_cons,List.length_nil];omega,by rw[gdg,List.getElem?_append_right (by omega),hu,Nat.sub_self];rfl⟩]
    exact λ h=>nomatch h
structure y0(n:Nd):Prop where
 bm:∃b:Nat,n.bm=(b:Int)/\b<18446744073709551616
 main:n.main<=9223372036854775807
 prev:n.prev<=9223372036854775807
 status:n.status<=9223372036854775807
def lD(L:List aQ):Prop:=∀v∈L,y0 v.nd
end

/- Tapes: choices out of a list of numbers. -/
end Go.Ct
namespace Go.Proofs.YtpobgmdalcpomaaGreat
section
open Go.RowKit Go.Ct
abbrev O5:=Z1 99
abbrev jw(w:World):=Ki w 99
theorem m9(v n:Int)(w:World)(hn:IntKind.u64.wrap n≠0):Calls Tryz.prog 15 #[.int .i64 v,.int .i64 n] w λ e w'=>e=.returned (.int .i64 (yI v n))/\St w [] [] w':=by
 refine enter Tryz.func15 Tryz.ntmps15 rfl rfl (SF.s0 w) ?_
 simp only[dB]
 all_goals (refine dH ?_;refine J2 ?_;refine lI ?_;refine aA ?_;refine lI ?_;refine mz ?_;refine lI ?_;refine J1 ?_)
 all_goals
 refine aR Tryz.results15 (λ w hw=>?_)
 exact⟨rfl,hw.done⟩
theorem wo{l:List Int}{a:Option Addr}{c:Nat}{w:World}:Calls Tryz.prog 13 #[.slice a l.length c] w λ e w' =>
  ∃b:Nat,e=.returned (.pointer (some ⟨b,0,none⟩))/\True/\SF w [] [(b,O5 a l c 0)] [] [] [] w':=by
 refine enter Tryz.func13 Tryz.ntmps13 rfl rfl (SF.s0 w) ?_
 simp only[dB]
 all_goals (refine dH ?_;refine J2 ?_;refine bV ?_;refine bM (λ x5=>?_);refine J1 ?_)
 all_goals
 refine aR Tryz.results13 (λ w hw=>?_)
 exact⟨x5,rfl,trivial,hw.aV⟩
theorem fO{l:List Int}{a:Option Addr}{b c k:Nat}{w:World}(n:Int)(ht:jw w b a l c k)(h0:0<n)(h1:n<=9223372036854775807) :
  Calls Tryz.prog 29 #[.pointer (some ⟨b,0,none⟩),.int .i64 n] w λ e w' =>
  ∃v:Nat,e=.returned (.int .i64 ((v:Nat):Int))/\((v:Int)<n/\v=ye l k n)/\SF w [b] ((b,O5 a l c (nS l k))::[]) [] [] [] w':=by
 have hl:=ht.len
 have hu:IntKind.u64.wrap n≠0:=by rw[wrap_u64];omega
 refine enter Tryz.func29 Tryz.ntmps29 rfl rfl ht.start ?_
 simp only[dB]
 all_goals (refine Be ?_;refine aT ?_;refine eE [0,1,2,3,4,5,6,7,8,9] ?_;refine mY ?_;refine jD ?_;refine vz ?_;refine eO ?_)
 all_goals
 refine bF (λ c14=>?_) (λ c14=>?_)
 ·try exact nv c14
  all_goals refine dH ?_
  all_goals
   refine aR Tryz.results29 (λ w hw=>?_)
   exact⟨0,rfl,⟨by omega,by simp only[ye];rw[if_neg (by omega)]⟩,by simp only[nS];rw[if_neg (by omega)];exact hw.aV⟩
 ·try exact nv c14
  all_goals (refine Rt ?_;refine rB ?_;refine Lj ?_;refine aT ?_;refine eE [0,1,2,3,4,5,6,7,8,9,10,11,12,13] ?_;refine mY ?_;refine kU ?_;refine Cv ?_;refine aL ?_;((refine bA (i:=12) (hq:=(cV (hc:=λ w1 hw=>m9 (l.getD (k+1-1) 0) n w1 hu))) (h:=λ x34=>?_);try (refine aK (λ h34=>?_))));refine J7 ?_)
  all_goals
   refine aR Tryz.results29 (λ w hw=>?_)
   have hb:=yB (v:=l.getD k 0) h0 h1
   exact⟨(yI (l.getD k 0) n).toNat,by rw[Int.toNat_of_nonneg hb.1];rfl,⟨by omega,by simp only[ye];rw[if_pos (by omega)]⟩,by simp only[nS];rw[if_pos (by omega)];exact hw.aV⟩
def kW:List ByteArray:=[⟨#[97]⟩,⟨#[98]⟩,⟨#[99]⟩,⟨#[100]⟩,⟨#[97,98]⟩,⟨#[]⟩,⟨#[98,48]⟩,⟨#[107,101,121]⟩]
theorem m7{l:List Int}{a:Option Addr}{b c k:Nat}{w:World}(ht:jw w b a l c k) :
  Calls Tryz.prog 49 #[.pointer (some ⟨b,0,none⟩)] w λ e w' =>
  ∃v:Nat,e=.returned (.string (kW.getD v ⟨#[]⟩))/\(v<8/\v=ye l k 8)/\SF w [b] ((b,O5 a l c (nS l k))::[]) [] [] [] w':=by
 refine enter Tryz.func49 Tryz.ntmps49 rfl rfl ht.start ?_
 simp only[dB]
 all_goals (refine dH ?_;refine J0 ?_;refine fA (λ x3=>?_);refine aA ?_;(refine aF (xJ (hc:=λ w1 hw=>fO 8 (hw.tape cQ fin ht.len) (by decide) (by decide))) (λ x5=>?_);try (refine aB (λ h5=>?_)));refine aH (ak (lst:=kW) rf rf fG bU fin (by omega) (by simp only[kW,List.length_cons,List.length_nil];omega)) rfl ?_;refine aH (fy (lst:=kW) rf bU fin (by simp only[kW,List.length_cons,List.length_nil];omega)) rfl ?_;refine J1 ?_)
 all_goals
 refine aR Tryz.results49 (λ w hw=>?_)
 exact⟨x5,rfl,⟨by omega,h5.2⟩,hw.aV⟩
end

/- Bits of 64 bit numbers: plain laws. -/
end Go.Proofs.YtpobgmdalcpomaaGreat
namespace Go.Ct
section
open Go Go.RowKit
theorem mP{n:Nat}(h:n<18446744073709551616):IntKind.u64.wrap ((n:Nat):Int)=(n:Int):=by
 have h2:IntKind.u64.wrap (n:Int)=(n:Int)%18446744073709551616:=by simp[IntKind.wrap,IntKind.signed,IntKind.bits]
 omega
theorem An(n:Nat)(h:n<18446744073709551616):(BitVec.ofInt IntKind.u64.bits (n:Int)).toNat=n:=by
 show(BitVec.ofInt 64 (n:Int)).toNat=n
 rw[BitVec.toNat_ofInt]
 omega
theorem pK{n m:Nat}(hn:n<18446744073709551616)(hm:m<18446744073709551616):pF .u64 (n:Int) (m:Int)=((n &&& m:Nat):Int):=by
 unfold pF
 rw[BitVec.toNat_and,An n hn,An m hm]
 exact mP (Nat.lt_of_le_of_lt Nat.and_le_left hn)
theorem j7{n m:Nat}(hn:n<18446744073709551616)(hm:m<18446744073709551616):xe .u64 (n:Int) (m:Int)=((n ||| m:Nat):Int):=by
 unfold xe
 rw[BitVec.toNat_or,An n hn,An m hm]
 exact mP (Nat.or_lt_two_pow (n:=64) hn hm)
theorem Zf{n m:Nat}(hn:n<18446744073709551616)(hm:m<18446744073709551616):ji .u64 (n:Int) (m:Int)=((n ^^^ m:Nat):Int):=by
 unfold ji
 rw[BitVec.toNat_xor,An n hn,An m hm]
 exact mP (Nat.xor_lt_two_pow (n:=64) hn hm)
theorem pI{n i:Nat}(hi:i<=64):pL .u64 (n:Int) (i:Int)=((n >>> i:Nat):Int):=by
 unfold pL
 rw[Int.toNat_natCast,show min i IntKind.u64.bits=i from Nat.min_eq_left hi,Nat.shiftRight_eq_div_pow]
 have:(2:Int)^i=((2^i:Nat):Int):=by simp
 rw[this,Int.fdiv_eq_ediv_of_nonneg _ (bS _)]
 rfl
theorem Xd{i:Nat}(hi:i<64):Y1 .u64 1 (i:Int)=((2^i:Nat):Int):=by
 unfold Y1
 rw[Int.toNat_natCast,show min i IntKind.u64.bits=i from Nat.min_eq_left (Nat.le_of_lt hi),Int.one_mul]
 have:(2:Int)^i=((2^i:Nat):Int):=by simp
 rw[this]
 refine mP ?_
 have:=Nat.pow_lt_pow_right (a:=2) (by decide) hi
 omega
def hJ(n:Nat):Nat->Nat
 | 0=>0
 | k+1=>hJ n k+if n.testBit k then 1 else 0
theorem xY(n:Nat):∀k,hJ n k<=k
 | 0=>Nat.le_refl _
 | k+1=>by have:=xY n k;simp only[hJ];split<;>omega
theorem Ir{n m:Nat}:∀{k:Nat},(∀i,i<k->n.testBit i=m.testBit i)->hJ n k=hJ m k
 | 0,_=>rfl
 | k+1,h=>by simp only[hJ];rw[Ir λ i hi=>h i (Nat.lt_succ_of_lt hi),h k (Nat.lt_succ_self k)]
theorem Tp(n:Nat)(a:Nat):∀k,hJ n (a+k)=hJ n a+hJ (n >>> a) k
 | 0=>rfl
 | k+1=>by
  rw[<- Nat.add_assoc]
  simp only[hJ,Tp n a k,Nat.testBit_shiftRight]
  omega
theorem kY{h l i:Nat}(hl:l<256):(256*h+l).testBit i=if i<8 then l.testBit i else h.testBit (i-8):=Nat.testBit_two_pow_mul_add h (i:=8) hl i
theorem bb{h l:Nat}(hl:l<256)(k:Nat):hJ (256*h+l) (8+k)=hJ l 8+hJ h k:=by
 rw[Tp]
 congr 1
 ·exact Ir λ i hi=>by rw[kY hl,if_pos hi]
 ·rw[Nat.shiftRight_eq_div_pow,show 2^8=256 from rfl]
  congr 1
  omega
theorem Bi{a b c d:Nat}(hb:b<256)(hd:d<256):(256*a+b) &&& (256*c+d)=256*(a &&& c)+(b &&& d):=by
 have hbd:b &&& d<256:=Nat.lt_of_le_of_lt Nat.and_le_left hb
 refine Nat.eq_of_testBit_eq λ i=>?_
 rw[Nat.testBit_and,kY hb,kY hd,kY hbd]
 split
 ·rw[Nat.testBit_and]
 ·rw[Nat.testBit_and]
theorem Ht{a b s:Nat}(hb:b<256)(hs:s<=8):(256*a+b) >>> s=256*(a >>> s)+((a%2^s)*2^(8-s)+b >>> s):=by
 simp only[Nat.shiftRight_eq_div_pow]
 have h1:256=2^s*2^(8-s):=by rw[<- Nat.pow_add];rw[show s+(8-s)=8 by omega]
 have h2:=Nat.div_add_mod a (2^s)
 have hp:0<2^s:=Nat.two_pow_pos s
 have h3:256*a+b=2^s*(2^(8-s)*a)+b:=by rw[h1,Nat.mul_assoc]
 rw[h3,Nat.mul_add_div hp]
 have h4:2^(8-s)*a=256*(a/2^s)+a%2^s*2^(8-s):=by
  conv=>lhs;rw[<- h2]
  rw[h1,Nat.mul_add,Nat.mul_comm (a%2^s),<- Nat.mul_assoc,Nat.mul_comm (2^(8-s)) (2^s)]
 omega
def kP(s:Nat)(m:Nat)(n:Nat):Nat:=((n >>> s) &&& m)+(n &&& m)
theorem fq{a b s d:Nat}(hb:b<256)(hs:s<=8)(hd:d<2^(8-s)):((a%2^s)*2^(8-s)+b >>> s) &&& d=(b >>> s) &&& d:=by
 have hbs:b >>> s<2^(8-s):=by
  rw[Nat.shiftRight_eq_div_pow]
  refine Nat.div_lt_of_lt_mul ?_
  rw[<- Nat.pow_add,show s+(8-s)=8 by omega]
  exact hb
 refine Nat.eq_of_testBit_eq λ i=>?_
 rw[Nat.testBit_and,Nat.testBit_and,Nat.mul_comm,Nat.testBit_two_pow_mul_add _ hbs]
 split
 ·rfl
 ·rename_i h
  have:d.testBit i=false:=Nat.testBit_lt_two_pow (Nat.lt_of_lt_of_le hd (Nat.pow_le_pow_right (by decide) (by omega)))
  rw[this];simp
theorem Dh{s m a b d:Nat}(hb:b<256)(hs:s<=8)(hs0:0<s)(hd:d<2^(8-s)):kP s (256*m+d) (256*a+b)=256*kP s m a+kP s d b:=by
 have hd':d<256:=Nat.lt_of_lt_of_le hd (Nat.pow_le_pow_right (n:=2) (by decide) (show 8-s<=8 by omega))
 have hL:(a%2^s)*2^(8-s)+b >>> s<256:=by
  have h1:256=2^s*2^(8-s):=by rw[<- Nat.pow_add];rw[show s+(8-s)=8 by omega]
  have h2:a%2^s<2^s:=Nat.mod_lt _ (Nat.two_pow_pos s)
  have h3:b >>> s<2^(8-s):=by
   rw[Nat.shiftRight_eq_div_pow]
   refine Nat.div_lt_of_lt_mul ?_
   rw[<- Nat.pow_add,show s+(8-s)=8 by omega]
   exact hb
  have h4:(a%2^s+1)*2^(8-s)<=2^s*2^(8-s):=Nat.mul_le_mul_right _ h2
  rw[Nat.add_mul,Nat.one_mul] at h4
  omega
 unfold kP
 rw[Ht hb hs,Bi hL hd',Bi hb hd',fq hb hs hd]
 omega
def lr(l:Nat):Nat:=(((kP 2 51 (kP 1 85 l)) >>> 4)+kP 2 51 (kP 1 85 l)) &&& 15
theorem dx:∀l,l<256->kP 1 85 l<256/\kP 2 51 (kP 1 85 l)<256/\kP 2 51 (kP 1 85 l)%16<=4/\kP 2 51 (kP 1 85 l)/16<=4/\lr l=hJ l 8:=by decide +kernel
def rJ(d:Nat):Nat->Nat
 | 0=>0
 | k+1=>256*rJ d k+d
theorem Eg:∀(k n:Nat),n<256^k ->
  ∃r,(∀q,q=(kP 2 (rJ 51 k) (kP 1 (rJ 85 k) n))->(((q >>> 4)+q) &&& rJ 15 k)=r/\q<256^k/\q%16<=4)/\(∃ps:List Nat,ps.length=k/\(∀p∈ps,p<=8)/\r=ps.foldr (λ p acc=>p+256*acc) 0/\ps.sum=hJ n (8*k))
 | 0,n,h=>⟨0,λ q hq=>by
   have h0:n=0:=by simpa using h
   subst h0
   subst hq
   simp[kP,rJ],[],rfl,by simp,rfl,by simp[hJ]⟩
 | k+1,n,h=>by
  have hl:n%256<256:=Nat.mod_lt _ (by decide)
  have hn:n=256*(n/256)+n%256:=(Nat.div_add_mod n 256).symm
  have hk:n/256<256^k:=by
   refine Nat.div_lt_of_lt_mul ?_
   rw[Nat.mul_comm,<- Nat.pow_succ];exact h
  obtain⟨r,h1,ps,h2,h3,h4,h5⟩:=Eg k (n/256) hk
  obtain⟨b1,b2,b3,b4,b5⟩:=dx (n%256) hl
  obtain⟨q1,q2,q3⟩:=h1 _ rfl
  generalize hQ:kP 2 (rJ 51 k) (kP 1 (rJ 85 k) (n/256))=Q at *
  refine⟨256*r+hJ (n%256) 8,λ q hq=>?_,hJ (n%256) 8::ps,by simp[h2],?_,?_,?_⟩
  ·have e:q=256*Q+kP 2 51 (kP 1 85 (n%256)):=by
    rw[hq]
    have e0:kP 1 (rJ 85 (k+1)) n=256*kP 1 (rJ 85 k) (n/256)+kP 1 85 (n%256):=by
     have:=Dh (s:=1) (m:=rJ 85 k) (a:=n/256) hl (by decide) (by decide) (show 85<2^(8-1) by decide)
     rw[<- hn] at this
     exact this
    rw[e0,<- hQ]
    exact Dh (s:=2) (m:=rJ 51 k) b1 (by decide) (by decide) (show 51<2^(8-2) by decide)
   generalize hB:kP 2 51 (kP 1 85 (n%256))=B at *
   have hones:((B >>> 4)+B) &&& 15=hJ (n%256) 8:=by rw[<- b5,lr,hB]
   have e4:q >>> 4=256*(Q >>> 4)+((Q%16)*16+B >>> 4):=by rw[e];exact Ht (s:=4) b2 (by decide)
   have eB:B >>> 4=B/16:=by rw[Nat.shiftRight_eq_div_pow]
   have hlow:(Q%16)*16+B >>> 4+B<256:=by rw[eB];omega
   have hsum:q >>> 4+q=256*(Q >>> 4+Q)+((Q%16)*16+B >>> 4+B):=by rw[e4,e];omega
   refine⟨?_,?_,?_⟩
   ·rw[hsum]
    show(256*(Q >>> 4+Q)+_) &&& (256*rJ 15 k+15)=_
    rw[Bi hlow (by decide),q1,<- hones]
    congr 1
    rw[Nat.and_two_pow_sub_one_eq_mod _ 4,Nat.and_two_pow_sub_one_eq_mod _ 4]
    omega
   ·rw[e,Nat.pow_succ];omega
   ·rw[e];omega
  ·intro p hp
   rcases List.mem_cons.1 hp with rfl|hp
   ·exact xY _ 8
   ·exact h3 p hp
  ·simp only[List.foldr_cons,<- h4];omega
  ·rw[List.sum_cons,h5]
   conv=>rhs;rw[hn]
   rw[show 8*(k+1)=8+8*k by omega,bb hl]
end

end Go.Ct

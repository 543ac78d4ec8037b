/- An arena with a state. -/
import Derived.Test.YtadnboagdhcedaaGreatDoorGAr5
import Derived.Test.YtadnboagdhcedaaGreatDoorAuto

set_option linter.unusedSimpArgs false
set_option linter.unusedVariables false
namespace Go.Ct
section
theorem Fj{n:Nd}{xs:List Int}{ys:List Pr}(h:bY n xs ys)(hk:n.kind=1):n.c xs ys=cN.c:=by
 have e:=xT.1 h.1
 rw[e]
 simp[Nd.own,Nd.fO,Nd.fG,hk,Nd.c,aL.c,cN,Nd.zero]
theorem dM.all{L L':List aL}{cs:List Int}{gen:Int}(h:dM L cs gen)(h2:L'.map aL.c=(L.drop 2).map aL.c):(qj L').map aL.c=L.map aL.c:=by
 have h0:=h.nodes 0 (by have:=h.two;omega)
 have h1:=h.nodes 1 (by have:=h.two;omega)
 have e0:(L.getD 0 aL.zero).c=cN.c:=Fj h0.1 h.m0
 have e1:(L.getD 1 aL.zero).c=cN.c:=Fj h1.1 h.m1
 have h3:=h.two
 match L,h3 with
 | a::b::r,_ =>
  simp only[List.getD_cons_zero,List.getD_cons_succ] at e0 e1
  simp only[List.drop_succ_cons,List.drop_zero] at h2
  simp only[qj,List.map_cons,h2,e0,e1]
end
end Go.Ct
namespace Go.Proofs.YtadnboagdhcedaaGreatDoor
section
open Go.RowKit Go.Ct
theorem q0{L:List aL}{cs:List Int}{gen:Int}{pn pc:Option Addr}{cn cc:Nat}{w:World}(h:iQ w L cs pn pc)(hL:L.length<=274877906944)(hC:cs.length<=274877906944)(hp:¬dM L cs gen) :
  Calls Tryz.prog 68 #[.agg ⟨[.slice pn L.length cn,.slice pc cs.length cc,.int .i64 gen]⟩] w λ e w'=>e=.returned (.tuple #[.pointer none,.int .i64 1])/\St w [] [] w':=by
 refine enter Tryz.func68 Tryz.ntmps68 rfl rfl h.start ?_
 simp only[cO]
 refine J0 ?_;refine bQ (λ x1=>?_);refine J8 ?_;refine aR ?_;refine kV ?_;refine aC (c0 (V:=.bool) (hc:=λ w1 hw=>Nf ⟨hw.cl (.bM .head),hw.cl (.bM (.tail .head)),λ f hf=>(hw.bM f (List.mem_cons_of_mem _ (List.mem_cons_of_mem _ hf))).1,h.fit⟩ hL hC)) (λ x8 h8=>?_);refine mJ ?_
 refine aZ (λ c9=>?_) (λ c9=>?_)
 ·refine Gc ?_
  refine bK Tryz.results68 (λ w hw=>?_)
  exact⟨rfl,hw.done⟩
 ·exact absurd (h8.1 c9) hp
theorem u7{L:List aL}{cs:List Int}{gen:Int}{pn pc:Option Addr}{cn cc:Nat}{w:World}(h:iQ w L cs pn pc)(hL:L.length<=274877906944)(hC:cs.length<=274877906944)(hcn:L.length<=cn)(hp:dM L cs gen) :
  Calls Tryz.prog 68 #[.agg ⟨[.slice pn L.length cn,.slice pc cs.length cc,.int .i64 gen]⟩] w λ e w'=>∃x:Nat×List aL×(Option Addr×Nat)×(Option Addr×Nat),e=.returned (.tuple #[.pointer (some ⟨x.1,0,none⟩),.int .i64 0]) /\
   ((qj x.2.1).map aL.c=L.map aL.c/\Fits x.2.1)/\SF w [] [(x.1,aO x.2.1 cs gen 0 x.2.2.1.1 x.2.2.1.2 x.2.2.2.1 x.2.2.2.2)] [] (aW x.2.1) (mW x.2.1 cs x.2.2.1.1 x.2.2.1.2 x.2.2.2.1 x.2.2.2.2) w':=by
 have h2L:=hp.two
 refine enter Tryz.func68 Tryz.ntmps68 rfl rfl h.start ?_
 simp only[cO]
 refine J0 ?_;refine bQ (λ x1=>?_);refine J8 ?_;refine aR ?_;refine kV ?_;refine aC (c0 (V:=.bool) (hc:=λ w1 hw=>Nf ⟨hw.cl (.bM .head),hw.cl (.bM (.tail .head)),λ f hf=>(hw.bM f (List.mem_cons_of_mem _ (List.mem_cons_of_mem _ hf))).1,h.fit⟩ hL hC)) (λ x8 h8=>?_);refine mJ ?_
 refine aZ (λ c9=>?_) (λ c9=>?_)
 ·exact absurd hp (λ hp=>by rw[h8.2 hp] at c9;cases c9)
 ·refine jM ?_;refine eG [(0,[]),(1,[]),(3,[]),(4,[]),(2,[4]),(5,[]),(6,[]),(7,[])] ?_;refine mF ?_;refine mF ?_;refine bC (i:=2) (hq:=(Z5 (Hc:=λ _=>[]) (Fc:=λ _=>[]) (hc:=λ w1 hw=>O0 (hw.cl fin) hC))) (h:=λ x12 h12=>?_);refine jC ?_;refine bz (h:=λ x16=>?_);refine J7 ?_;refine J2 ?_;refine Li ?_;refine aE (iV (n:=2) rf rf (by omega) (by omega)) rfl ?_;refine Bt (λ x22=>?_);refine Vr ?_;refine Az ?_;(refine aT (kw (k:=2) rf rf fC (by exact sA rfl) (by omega) fin hcn rfl) (λ x27=>?_));refine Kb5 ?_
  refine kZ [6,29,30,31,32,33,34,35,36,37,38,39,40,41,42,43,44] (λ y:List aL×Option Addr×Nat=>[(29,.int .i64 ((y.1.length:Nat):Int))]) (λ y=>y.1.map aL.c=((L.drop 2).take y.1.length).map aL.c/\y.1.length<=L.length-2/\Fits y.1) (λ y=>[(x16,.cells ⟨[.slice y.2.1 y.1.length y.2.2,.slice x12.1 cs.length x12.2,.int .i64 gen,.int .i64 0]⟩ 153 (0,0)),(x1,.cells ⟨[.slice pn L.length cn,.slice pc cs.length cc,.int .i64 gen]⟩ 25 (0,0))]) (λ y=>aW y.1) (λ y=>[⟨y.2.1,gR y.1,y.2.2,77,14⟩,⟨x12.1,aG cs,x12.2,62,1⟩]) (λ y=>L.length-2-y.1.length) (([],some ⟨x22,0,none⟩,L.length-2)) (⟨rfl,Nat.zero_le _,λ _ h=>(List.not_mem_nil h).elim⟩) (λ y f hx=>?_) (hw0:=λ w hw=>hw.back)
  dsimp only[fY,List.map,List.cons_append,List.nil_append]
  refine Kb3 ?_
  refine aZ (λ c30=>?_) (λ c30=>?_)
  ·refine Kc5 ?_;refine aE (nC rf rf fC fX fin (by omega) (by rw[List.length_drop];omega)) rfl ?_;refine aE (Sk rf fX fin (by rw[List.length_drop];omega)) rfl ?_;refine aN (λ x6=>?_);refine J5 ?_;refine eG [(0,[]),(1,[]),(2,[]),(3,[]),(4,[]),(5,[]),(6,[4]),(7,[4]),(8,[]),(9,[]),(10,[]),(11,[])] ?_;refine ud ?_;refine bO ?_;refine bC (i:=6) (hq:=(cF (V:=λ p:Option Addr×Option Addr=>.agg ⟨(((L.drop 2).getD y.1.length aL.zero).at_ p.1 p.2).nd.cells⟩) (hc:=λ w1 hw=>k9 (hw.aAf (L:=L) (λ f hf=>.inr (.inl (List.mem_cons_of_mem _ (List.mem_cons_of_mem _ (List.mem_cons_of_mem _ hf))))) h.fit (List.mem_of_mem_drop (eT (by rw[List.length_drop];omega)))) (h.fit _ (List.mem_of_mem_drop (eT (by rw[List.length_drop];omega)))).brS (h.fit _ (List.mem_of_mem_drop (eT (by rw[List.length_drop];omega)))).prS))) (h:=λ x39 h39=>?_);refine cU (h:=λ x40=>?_);((refine cY (i:=8) (hq:=(bI.eZ (me (((L.drop 2).getD y.1.length aL.zero).at_ x39.1 x39.2) rf rf Cc rfl fin Xf rfl fC om) xN)) (h:=λ x41=>?_);try (refine fW (λ h41=>?_))));refine J88 ?_;refine eX ?_;refine Ka3 ?_
   refine fV ((y.1++[((L.drop 2).getD y.1.length aL.zero).at_ x39.1 x39.2],x41.1,x41.2)) ?_ (hw1:=λ w hw=>by
    have h3:=hw.xv (L:=y.1) (v:=((L.drop 2).getD y.1.length aL.zero).at_ x39.1 x39.2) (F':=[]) (List.mem_cons_of_mem _ (List.mem_cons_self ..)) (List.mem_cons_of_mem _ (List.mem_cons_of_mem _ (List.mem_cons_self ..))) (λ f hf=>List.mem_cons_of_mem _ (List.mem_cons_of_mem _ (List.mem_cons_of_mem _ hf)))
    have h4:=h3.sub (H':=[_,_]) (by repeat (first|exact List.Sublist.refl _|apply List.Sublist.cons)) aV.all (List.Sublist.refl _)
    simpa using h4) (hμ:=by simp only[List.length_append,List.length_cons,List.length_nil];omega)
   ·have hlt:y.1.length<(L.drop 2).length:=by rw[List.length_drop];omega
    refine⟨?_,by simp only[List.length_append,List.length_cons,List.length_nil];omega,λ v hv=>?_⟩
    ·rw[List.map_append,hx.1,List.length_append,List.length_singleton,List.take_succ_eq_append_getElem hlt,List.map_append,fI,List.getElem?_eq_getElem hlt]
     rfl
    ·rcases List.mem_append.1 hv with hv|hv
     ·exact hx.2.2 v hv
     ·simp only[List.mem_singleton] at hv
      subst hv
      exact aL.rb (h.fit _ (List.mem_of_mem_drop (eT hlt))) _ _
  ·refine bF rfl ?_;refine J2 ?_;refine J8 ?_
   refine bK Tryz.results68 (λ w hw=>?_)
   have hlen:y.1.length=L.length-2:=by omega
   refine⟨(x16,y.1,(y.2.1,y.2.2),(x12.1,x12.2)),rfl,⟨hp.all (by rw[hx.1,hlen,List.take_of_length_le (by rw[List.length_drop];omega)]),hx.2.2⟩,?_⟩
   exact hw.ret (by repeat (first|exact List.nil_sublist _|apply List.Sublist.cons_cons)) aV.all (List.Sublist.refl _)
end

/- Proper states: a node more. -/
end Go.Proofs.YtadnboagdhcedaaGreatDoor
namespace Go.Ct
section
theorem Po{u u':List Bool}{n:Nd}(h:eQ (some u) n=some u'):eQ (some (u++[false])) n=some (u'++[false]):=by
 simp only[eQ] at h ⊢
 cases hc:gM n with
 | none=>rw[hc] at h;simp only[Option.some.injEq] at h;rw[h]
 | some c =>
  rw[hc] at h
  simp only at h ⊢
  split at h
  ·rename_i hh
   simp only[Option.some.injEq] at h
   have hlt:(c-1).toNat<u.length:=by omega
   rw[if_pos ⟨hh.1,by simp only[List.length_append,List.length_cons,List.length_nil];omega,by rw[fI,List.getElem?_append_left hlt,<- fI];exact hh.2.2⟩,List.set_append_left _ _ hlt,h]
  ·cases h
theorem P6{m:Nat}:∀{L:List aL} {u:List Bool},marks m L=some u->marks (m+1) L=some (u++[false]):=by
 have key:∀(l:List aL) (u0:List Bool) (u:List Bool),l.foldl (λ u v=>eQ u v.nd) (some u0)=some u->l.foldl (λ u v=>eQ u v.nd) (some (u0++[false]))=some (u++[false]):=by
  intro l
  induction l with
  | nil=>intro u0 u h;simp only[List.foldl_nil,Option.some.injEq] at h ⊢;rw[h]
  | cons v l ih =>
   intro u0 u h
   simp only[List.foldl_cons] at h ⊢
   cases hm:eQ (some u0) v.nd with
   | none =>
    rw[hm] at h
    exfalso
    have:∀l:List aL,l.foldl (λ u v=>eQ u v.nd) none=none:=λ l=>by
     induction l with
     | nil=>rfl
     | cons v l ih=>exact ih
    rw[this] at h
    cases h
   | some u1 =>
    rw[hm] at h
    rw[Po hm]
    exact ih u1 u h
 intro L u h
 have:=key L _ u h
 rw[marks,List.replicate_succ',this]
theorem En{m:Nat}{L:List aL}{v:aL}:marks m (L++[v])=eQ (marks m L) v.nd:=by rw[marks,List.foldl_append];rfl
theorem An{L:List aL}{v:aL}{i:Nat}(h:i<L.length+1):(L++[v]).getD i aL.zero=if i<L.length then L.getD i aL.zero else v:=by
 rw[fI]
 split
 ·rename_i hi
  rw[List.getElem?_append_left hi,<- fI]
 ·rename_i hi
  rw[List.getElem?_append_right (by omega),show i-L.length=0 by omega]
  rfl
theorem Da.mono{r:Int}{n m:Nat}(h:Da r n)(hm:n<=m):Da r m:=⟨h.1,Int.le_trans h.2 (by omega)⟩
theorem mA.mono{gen:Int}{n m:Nat}{v:aL}(h:mA gen n v)(hm:n<=m):mA gen m v:=⟨h.1,h.2.1,λ i hi=>(h.2.2.1 i hi).mono hm,h.2.2.2.1.mono hm,h.2.2.2.2.1.mono hm,h.2.2.2.2.2.mono hm⟩
theorem Lt{L:List aL}{cs:List Int}{gen init:Int}{v:aL}(h:dM L cs gen)(hv:mA gen (L.length+1) v)(hi:Da init L.length){k:Int}(hk:(gM v.nd=none/\gH k cs init=cs)∨(gM v.nd=some ((cs.length+1:Nat):Int)/\gH k cs init=cs++[init])) :
  dM (L++[v]) (gH k cs init) gen:=by
 have hlen:(L++[v]).length=L.length+1:=by simp
 have h2:=h.two
 have nodes:∀i,i<(L++[v]).length->mA gen (L++[v]).length ((L++[v]).getD i aL.zero):=λ i hi=>by
  rw[hlen] at hi ⊢
  rw[An hi]
  split
  ·exact(h.nodes i (by assumption)).mono (by omega)
  ·exact hv
 have k0:((L++[v]).getD 0 aL.zero).nd.kind=1:=by rw[An (by omega),if_pos (by omega)];exact h.m0
 have k1:((L++[v]).getD 1 aL.zero).nd.kind=1:=by rw[An (by omega),if_pos (by omega)];exact h.m1
 cases hm:marks cs.length L with
 | none=>exact absurd hm h.marks
 | some u =>
  have hu:=Aj hm
  rcases hk with⟨e1,e2⟩|⟨e1,e2⟩
  ·rw[e2]
   refine⟨by omega,h.gen0,k0,k1,λ i hi=>(h.cells i hi).mono (by omega),nodes,?_⟩
   rw[En,hm]
   simp only[eQ,e1]
   exact λ h=>nomatch h
  ·rw[e2]
   refine⟨by omega,h.gen0,k0,k1,λ i hi'=>?_,nodes,?_⟩
   ·rw[fI]
    by_cases hlt:i<cs.length
    ·rw[List.getElem?_append_left hlt,<- fI]
     exact(h.cells i hlt).mono (by omega)
    ·simp only[List.length_append,List.length_cons,List.length_nil] at hi'
     rw[List.getElem?_append_right (by omega),show i-cs.length=0 by omega]
     exact hi.mono (by omega)
   ·rw[En,show(cs++[init]).length=cs.length+1 by simp,P6 hm]
    simp only[eQ,e1]
    have e3:(((cs.length+1:Nat):Int)-1).toNat=cs.length:=by omega
    rw[e3,if_pos ⟨by omega,by simp only[List.length_append,List.length_cons,List.length_nil];omega,by rw[fI,List.getElem?_append_right (by omega),hu,Nat.sub_self];rfl⟩]
    exact λ h=>nomatch h
structure NdR(n:Nd):Prop where
 bm:∃b:Nat,n.bm=(b:Int)/\b<18446744073709551616
 main:n.main<=9223372036854775807
 prev:n.prev<=9223372036854775807
 status:n.status<=9223372036854775807
def vX(L:List aL):Prop:=∀v∈L,NdR v.nd
end

/- Tapes: choices out of a list of numbers. -/
end Go.Ct
namespace Go.Proofs.YtadnboagdhcedaaGreatDoor
section
open Go.RowKit Go.Ct
abbrev O4:=Xt 106
abbrev gq(w:World):=Ir w 106
theorem ya(v n:Int)(w:World)(hn:IntKind.u64.wrap n≠0):Calls Tryz.prog 31 #[.int .i64 v,.int .i64 n] w λ e w'=>e=.returned (.int .i64 (Um v n))/\St w [] [] w':=by
 refine enter Tryz.func31 Tryz.ntmps31 rfl rfl (SF.s0 w) ?_
 simp only[cO]
 refine cQ ?_;refine J2 ?_;refine iE ?_;refine aB ?_;refine iE ?_;refine zi ?_;refine iE ?_;refine J1 ?_
 refine aQ Tryz.results31 (λ w hw=>?_)
 exact⟨rfl,hw.done⟩
theorem yy{l:List Int}{a:Option Addr}{c:Nat}{w:World}:Calls Tryz.prog 21 #[.slice a l.length c] w λ e w' =>
  ∃b:Nat,e=.returned (.pointer (some ⟨b,0,none⟩))/\True/\SF w [] [(b,O4 a l c 0)] [] [] [] w':=by
 refine enter Tryz.func21 Tryz.ntmps21 rfl rfl (SF.s0 w) ?_
 simp only[cO]
 refine cQ ?_;refine J2 ?_;refine bG ?_;refine bQ (λ x5=>?_);refine J1 ?_
 refine aQ Tryz.results21 (λ w hw=>?_)
 exact⟨x5,rfl,trivial,hw.aS⟩
theorem eJ{l:List Int}{a:Option Addr}{b c k:Nat}{w:World}(n:Int)(ht:gq w b a l c k)(h0:0<n)(h1:n<=9223372036854775807) :
  Calls Tryz.prog 26 #[.pointer (some ⟨b,0,none⟩),.int .i64 n] w λ e w' =>
  ∃v:Nat,e=.returned (.int .i64 ((v:Nat):Int))/\((v:Int)<n/\v=tvN l k n)/\SF w [b] ((b,O4 a l c (nD l k))::[]) [] [] [] w':=by
 have hl:=ht.len
 have hu:IntKind.u64.wrap n≠0:=by rw[wrap_u64];omega
 refine enter Tryz.func26 Tryz.ntmps26 rfl rfl ht.start ?_
 simp only[cO]
 refine F4 ?_;refine aR ?_;refine fJ [0,1,2,3,4,5,6,7,8,9] ?_;refine Cx ?_;refine lN ?_;refine yc ?_;refine dS ?_
 refine aZ (λ c14=>?_) (λ c14=>?_)
 ·refine cQ ?_
  refine aQ Tryz.results26 (λ w hw=>?_)
  exact⟨0,rfl,⟨by omega,by simp only[tvN];rw[if_neg (by omega)]⟩,by simp only[nD];rw[if_neg (by omega)];exact hw.aS⟩
 ·refine um ?_;refine Ey ?_;refine Vr ?_;refine aR ?_;refine fJ [0,1,2,3,4,5,6,7,8,9,10,11,12,13] ?_;refine Cx ?_;refine tX ?_;refine Qs ?_;refine aU ?_;refine cY (i:=12) (hq:=(cV (hc:=λ w1 hw=>ya (l.getD (k+1-1) 0) n w1 hu))) (h:=λ x34=>?_);refine J7 ?_
  refine aQ Tryz.results26 (λ w hw=>?_)
  have hb:=P8 (v:=l.getD k 0) h0 h1
  exact⟨(Um (l.getD k 0) n).toNat,by rw[Int.toNat_of_nonneg hb.1];rfl,⟨by omega,by simp only[tvN];rw[if_pos (by omega)]⟩,by simp only[nD];rw[if_pos (by omega)];exact hw.aS⟩
def kN:List ByteArray:=[⟨#[97]⟩,⟨#[98]⟩,⟨#[99]⟩,⟨#[100]⟩,⟨#[97,98]⟩,⟨#[]⟩,⟨#[98,48]⟩,⟨#[107,101,121]⟩]
theorem oj{l:List Int}{a:Option Addr}{b c k:Nat}{w:World}(ht:gq w b a l c k) :
  Calls Tryz.prog 48 #[.pointer (some ⟨b,0,none⟩)] w λ e w' =>
  ∃v:Nat,e=.returned (.string (kN.getD v ⟨#[]⟩))/\(v<8/\v=tvN l k 8)/\SF w [b] ((b,O4 a l c (nD l k))::[]) [] [] [] w':=by
 refine enter Tryz.func48 Tryz.ntmps48 rfl rfl ht.start ?_
 simp only[cO]
 refine cQ ?_;refine J0 ?_;refine fF (λ x3=>?_);refine aB ?_;refine aC (wF (hc:=λ w1 hw=>eJ 8 (hw.tape dV fin ht.len) (by decide) (by decide))) (λ x5 h5=>?_);refine aE (Wz (lst:=kN) rf rf fC gB fin (by omega) (by simp only[kN,List.length_cons,List.length_nil];omega)) rfl ?_;refine aE (mi (lst:=kN) rf gB fin (by simp only[kN,List.length_cons,List.length_nil];omega)) rfl ?_;refine J1 ?_
 refine aQ Tryz.results48 (λ w hw=>?_)
 exact⟨x5,rfl,⟨by omega,h5.2⟩,hw.aS⟩
end

end Go.Proofs.YtadnboagdhcedaaGreatDoor

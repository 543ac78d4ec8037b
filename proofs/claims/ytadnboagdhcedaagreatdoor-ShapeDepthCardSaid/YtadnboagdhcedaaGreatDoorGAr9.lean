/- An arena with a state. -/
import Derived.Test.YtadnboagdhcedaaGreatDoorGAr5
import Derived.Test.YtadnboagdhcedaaGreatDoorAuto
import Derived.Test.YtadnboagdhcedaaGreatDoorGFun
import Derived.Test.YtadnboagdhcedaaGreatDoorGJoin

set_option linter.unusedSimpArgs false
set_option linter.unusedVariables false
namespace Go.Ct
section
theorem Ef{n:Nd}{xs:List Int}{ys:List Pr}(h:bY n xs ys)(hk:n.kind=1):n.c xs ys=cN.c:=by
 have e:=yE.1 h.1
 rw[e]
 simp[Nd.own,Nd.fQ,Nd.fH,hk,Nd.c,aL.c,cN,Nd.zero]
theorem dM.all{L L':List aL}{cs:List Int}{gen:Int}(h:dM L cs gen)(h2:L'.map aL.c=(L.drop 2).map aL.c):(vn L').map aL.c=L.map aL.c:=by
 have h0:=h.nodes 0 (by have:=h.two;omega)
 have h1:=h.nodes 1 (by have:=h.two;omega)
 have e0:(L.getD 0 aL.zero).c=cN.c:=Ef h0.1 h.m0
 have e1:(L.getD 1 aL.zero).c=cN.c:=Ef h1.1 h.m1
 have h3:=h.two
 match L,h3 with
 | a::b::r,_ =>
  simp only[List.getD_cons_zero,List.getD_cons_succ] at e0 e1
  simp only[List.drop_succ_cons,List.drop_zero] at h2
  simp only[vn,List.map_cons,h2,e0,e1]
end
end Go.Ct
namespace Go.Proofs.YtadnboagdhcedaaGreatDoor
section
open Go.RowKit Go.Ct
theorem tp{L:List aL}{cs:List Int}{gen:Int}{pn pc:Option Addr}{cn cc:Nat}{w:World}(h:gS w L cs pn pc)(hL:L.length<=274877906944)(hC:cs.length<=274877906944)(hp:¬dM L cs gen) :
  Calls Tryz.prog 68 #[.agg ⟨[.slice pn L.length cn,.slice pc cs.length cc,.int .i64 gen]⟩] w λ e w'=>e=.returned (.tuple #[.pointer none,.int .i64 1])/\St w [] [] w':=by
 refine enter Tryz.func68 Tryz.ntmps68 rfl rfl h.start ?_
 simp only[cP]
 refine J0 ?_;refine bP (λ x1=>?_);refine J8 ?_;refine aR ?_;refine kN ?_;refine aC (c0 (V:=.bool) (hc:=λ w1 hw=>M2 ⟨hw.cl (.bM .head),hw.cl (.bM (.tail .head)),λ f hf=>(hw.bM f (List.mem_cons_of_mem _ (List.mem_cons_of_mem _ hf))).1,h.fit⟩ hL hC)) (λ x8 h8=>?_);refine mS ?_
 refine aZ (λ c9=>?_) (λ c9=>?_)
 ·refine F5 ?_
  refine bK Tryz.results68 (λ w hw=>?_)
  exact⟨rfl,hw.done⟩
 ·exact absurd (h8.1 c9) hp
theorem s6{L:List aL}{cs:List Int}{gen:Int}{pn pc:Option Addr}{cn cc:Nat}{w:World}(h:gS w L cs pn pc)(hL:L.length<=274877906944)(hC:cs.length<=274877906944)(hcn:L.length<=cn)(hp:dM L cs gen) :
  Calls Tryz.prog 68 #[.agg ⟨[.slice pn L.length cn,.slice pc cs.length cc,.int .i64 gen]⟩] w λ e w'=>∃x:Nat×List aL×(Option Addr×Nat)×(Option Addr×Nat),e=.returned (.tuple #[.pointer (some ⟨x.1,0,none⟩),.int .i64 0]) /\
   ((vn x.2.1).map aL.c=L.map aL.c/\Fits x.2.1)/\SF w [] [(x.1,aO x.2.1 cs gen 0 x.2.2.1.1 x.2.2.1.2 x.2.2.2.1 x.2.2.2.2)] [] (aV x.2.1) (mW x.2.1 cs x.2.2.1.1 x.2.2.1.2 x.2.2.2.1 x.2.2.2.2) w':=by
 have h2L:=hp.two
 refine enter Tryz.func68 Tryz.ntmps68 rfl rfl h.start ?_
 simp only[cP]
 refine J0 ?_;refine bP (λ x1=>?_);refine J8 ?_;refine aR ?_;refine kN ?_;refine aC (c0 (V:=.bool) (hc:=λ w1 hw=>M2 ⟨hw.cl (.bM .head),hw.cl (.bM (.tail .head)),λ f hf=>(hw.bM f (List.mem_cons_of_mem _ (List.mem_cons_of_mem _ hf))).1,h.fit⟩ hL hC)) (λ x8 h8=>?_);refine mS ?_
 refine aZ (λ c9=>?_) (λ c9=>?_)
 ·exact absurd hp (λ hp=>by rw[h8.2 hp] at c9;cases c9)
 ·refine jM ?_;refine eG [(0,[]),(1,[]),(3,[]),(4,[]),(2,[4]),(5,[]),(6,[]),(7,[])] ?_;refine mB ?_;refine mB ?_;refine bC (i:=2) (hq:=(V0 (Hc:=λ _=>[]) (Fc:=λ _=>[]) (hc:=λ w1 hw=>N8 (hw.cl fin) hC))) (h:=λ x12 h12=>?_);refine jF ?_;refine Xo (h:=λ x16=>?_);refine J7 ?_;refine J2 ?_;refine Mx ?_;refine aE (iV (n:=2) rf rf (by omega) (by omega)) rfl ?_;refine Bo (λ x22=>?_);refine a8 ?_;refine An ?_;(refine aU (mv (k:=2) rf rf fE (by exact sB rfl) (by omega) fin hcn rfl) (λ x27=>?_));refine Kb8 ?_
  refine lE [6,29,30,31,32,33,34,35,36,37,38,39,40,41,42,43,44] (λ y:List aL×Option Addr×Nat=>[(29,.int .i64 ((y.1.length:Nat):Int))]) (λ y=>y.1.map aL.c=((L.drop 2).take y.1.length).map aL.c/\y.1.length<=L.length-2/\Fits y.1) (λ y=>[(x16,.cells ⟨[.slice y.2.1 y.1.length y.2.2,.slice x12.1 cs.length x12.2,.int .i64 gen,.int .i64 0]⟩ 153 (0,0)),(x1,.cells ⟨[.slice pn L.length cn,.slice pc cs.length cc,.int .i64 gen]⟩ 25 (0,0))]) (λ y=>aV y.1) (λ y=>[⟨y.2.1,gR y.1,y.2.2,77,14⟩,⟨x12.1,aG cs,x12.2,62,1⟩]) (λ y=>L.length-2-y.1.length) (([],some ⟨x22,0,none⟩,L.length-2)) (⟨rfl,Nat.zero_le _,λ _ h=>(List.not_mem_nil h).elim⟩) (λ y f hx=>?_) (hw0:=λ w hw=>hw.back)
  dsimp only[fY,List.map,List.cons_append,List.nil_append]
  refine Kb4 ?_
  refine aZ (λ c30=>?_) (λ c30=>?_)
  ·refine Kc9 ?_;refine aE (mV rf rf fE fX fin (by omega) (by rw[List.length_drop];omega)) rfl ?_;refine aE (S5 rf fX fin (by rw[List.length_drop];omega)) rfl ?_;refine aP (λ x6=>?_);refine J5 ?_;refine eG [(0,[]),(1,[]),(2,[]),(3,[]),(4,[]),(5,[]),(6,[4]),(7,[4]),(8,[]),(9,[]),(10,[]),(11,[])] ?_;refine uo ?_;refine bO ?_;refine bC (i:=6) (hq:=(cF (V:=λ p:Option Addr×Option Addr=>.agg ⟨(((L.drop 2).getD y.1.length aL.zero).at_ p.1 p.2).nd.cells⟩) (hc:=λ w1 hw=>fv (hw.aAF (L:=L) (λ f hf=>.inr (.inl (List.mem_cons_of_mem _ (List.mem_cons_of_mem _ (List.mem_cons_of_mem _ hf))))) h.fit (List.mem_of_mem_drop (eV (by rw[List.length_drop];omega)))) (h.fit _ (List.mem_of_mem_drop (eV (by rw[List.length_drop];omega)))).brS (h.fit _ (List.mem_of_mem_drop (eV (by rw[List.length_drop];omega)))).prS))) (h:=λ x39 h39=>?_);refine cW (h:=λ x40=>?_);((refine cX (i:=8) (hq:=(bJ.fA (j7 (((L.drop 2).getD y.1.length aL.zero).at_ x39.1 x39.2) rf rf B5 rfl fin Yx rfl fE om) xB)) (h:=λ x41=>?_);try (refine fW (λ h41=>?_))));refine J88 ?_;refine eT ?_;refine Ka5 ?_
   refine gC ((y.1++[((L.drop 2).getD y.1.length aL.zero).at_ x39.1 x39.2],x41.1,x41.2)) ?_ (hw1:=λ w hw=>by
    have h3:=hw.zn (L:=y.1) (v:=((L.drop 2).getD y.1.length aL.zero).at_ x39.1 x39.2) (F':=[]) (List.mem_cons_of_mem _ (List.mem_cons_self ..)) (List.mem_cons_of_mem _ (List.mem_cons_of_mem _ (List.mem_cons_self ..))) (λ f hf=>List.mem_cons_of_mem _ (List.mem_cons_of_mem _ (List.mem_cons_of_mem _ hf)))
    have h4:=h3.sub (H':=[_,_]) (by repeat (first|exact List.Sublist.refl _|apply List.Sublist.cons)) aW.all (List.Sublist.refl _)
    simpa using h4) (hμ:=by simp only[List.length_append,List.length_cons,List.length_nil];omega)
   ·have hlt:y.1.length<(L.drop 2).length:=by rw[List.length_drop];omega
    refine⟨?_,by simp only[List.length_append,List.length_cons,List.length_nil];omega,λ v hv=>?_⟩
    ·rw[List.map_append,hx.1,List.length_append,List.length_singleton,List.take_succ_eq_append_getElem hlt,List.map_append,fM,List.getElem?_eq_getElem hlt]
     rfl
    ·rcases List.mem_append.1 hv with hv|hv
     ·exact hx.2.2 v hv
     ·simp only[List.mem_singleton] at hv
      subst hv
      exact aL.qv (h.fit _ (List.mem_of_mem_drop (eV hlt))) _ _
  ·refine bI rfl ?_;refine J2 ?_;refine J8 ?_
   refine bK Tryz.results68 (λ w hw=>?_)
   have hlen:y.1.length=L.length-2:=by omega
   refine⟨(x16,y.1,(y.2.1,y.2.2),(x12.1,x12.2)),rfl,⟨hp.all (by rw[hx.1,hlen,List.take_of_length_le (by rw[List.length_drop];omega)]),hx.2.2⟩,?_⟩
   exact hw.ret (by repeat (first|exact List.nil_sublist _|apply List.Sublist.cons_cons)) aW.all (List.Sublist.refl _)
end

/- Proper states: a node more. -/
end Go.Proofs.YtadnboagdhcedaaGreatDoor
namespace Go.Ct
section
theorem O6{u u':List Bool}{n:Nd}(h:eQ (some u) n=some u'):eQ (some (u++[false])) n=some (u'++[false]):=by
 simp only[eQ] at h ⊢
 cases hc:gO n with
 | none=>rw[hc] at h;simp only[Option.some.injEq] at h;rw[h]
 | some c =>
  rw[hc] at h
  simp only at h ⊢
  split at h
  ·rename_i hh
   simp only[Option.some.injEq] at h
   have hlt:(c-1).toNat<u.length:=by omega
   rw[if_pos ⟨hh.1,by simp only[List.length_append,List.length_cons,List.length_nil];omega,by rw[fM,List.getElem?_append_left hlt,<- fM];exact hh.2.2⟩,List.set_append_left _ _ hlt,h]
  ·cases h
theorem Qh{m:Nat}:∀{L:List aL} {u:List Bool},marks m L=some u->marks (m+1) L=some (u++[false]):=by
 have key:∀(l:List aL) (u0:List Bool) (u:List Bool),l.foldl (λ u v=>eQ u v.nd) (some u0)=some u->l.foldl (λ u v=>eQ u v.nd) (some (u0++[false]))=some (u++[false]):=by
  intro l
  induction l with
  | nil=>intro u0 u h;simp only[List.foldl_nil,Option.some.injEq] at h ⊢;rw[h]
  | cons v l ih =>
   intro u0 u h
   simp only[List.foldl_cons] at h ⊢
   cases hm:eQ (some u0) v.nd with
   | none =>
    rw[hm] at h
    exfalso
    have:∀l:List aL,l.foldl (λ u v=>eQ u v.nd) none=none:=λ l=>by
     induction l with
     | nil=>rfl
     | cons v l ih=>exact ih
    rw[this] at h
    cases h
   | some u1 =>
    rw[hm] at h
    rw[O6 hm]
    exact ih u1 u h
 intro L u h
 have:=key L _ u h
 rw[marks,List.replicate_succ',this]
theorem Dz{m:Nat}{L:List aL}{v:aL}:marks m (L++[v])=eQ (marks m L) v.nd:=by rw[marks,List.foldl_append];rfl
theorem Ao{L:List aL}{v:aL}{i:Nat}(h:i<L.length+1):(L++[v]).getD i aL.zero=if i<L.length then L.getD i aL.zero else v:=by
 rw[fM]
 split
 ·rename_i hi
  rw[List.getElem?_append_left hi,<- fM]
 ·rename_i hi
  rw[List.getElem?_append_right (by omega),show i-L.length=0 by omega]
  rfl
theorem Db.mono{r:Int}{n m:Nat}(h:Db r n)(hm:n<=m):Db r m:=⟨h.1,Int.le_trans h.2 (by omega)⟩
theorem lW.mono{gen:Int}{n m:Nat}{v:aL}(h:lW gen n v)(hm:n<=m):lW gen m v:=⟨h.1,h.2.1,λ i hi=>(h.2.2.1 i hi).mono hm,h.2.2.2.1.mono hm,h.2.2.2.2.1.mono hm,h.2.2.2.2.2.mono hm⟩
theorem Ls{L:List aL}{cs:List Int}{gen init:Int}{v:aL}(h:dM L cs gen)(hv:lW gen (L.length+1) v)(hi:Db init L.length){k:Int}(hk:(gO v.nd=none/\gG k cs init=cs)∨(gO v.nd=some ((cs.length+1:Nat):Int)/\gG k cs init=cs++[init])) :
  dM (L++[v]) (gG k cs init) gen:=by
 have hlen:(L++[v]).length=L.length+1:=by simp
 have h2:=h.two
 have nodes:∀i,i<(L++[v]).length->lW gen (L++[v]).length ((L++[v]).getD i aL.zero):=λ i hi=>by
  rw[hlen] at hi ⊢
  rw[Ao hi]
  split
  ·exact(h.nodes i (by assumption)).mono (by omega)
  ·exact hv
 have k0:((L++[v]).getD 0 aL.zero).nd.kind=1:=by rw[Ao (by omega),if_pos (by omega)];exact h.m0
 have k1:((L++[v]).getD 1 aL.zero).nd.kind=1:=by rw[Ao (by omega),if_pos (by omega)];exact h.m1
 cases hm:marks cs.length L with
 | none=>exact absurd hm h.marks
 | some u =>
  have hu:=Av hm
  rcases hk with⟨e1,e2⟩|⟨e1,e2⟩
  ·rw[e2]
   refine⟨by omega,h.gen0,k0,k1,λ i hi=>(h.cells i hi).mono (by omega),nodes,?_⟩
   rw[Dz,hm]
   simp only[eQ,e1]
   exact λ h=>nomatch h
  ·rw[e2]
   refine⟨by omega,h.gen0,k0,k1,λ i hi'=>?_,nodes,?_⟩
   ·rw[fM]
    by_cases hlt:i<cs.length
    ·rw[List.getElem?_append_left hlt,<- fM]
     exact(h.cells i hlt).mono (by omega)
    ·simp only[List.length_append,List.length_cons,List.length_nil] at hi'
     rw[List.getElem?_append_right (by omega),show i-cs.length=0 by omega]
     exact hi.mono (by omega)
   ·rw[Dz,show(cs++[init]).length=cs.length+1 by simp,Qh hm]
    simp only[eQ,e1]
    have e3:(((cs.length+1:Nat):Int)-1).toNat=cs.length:=by omega
    rw[e3,if_pos ⟨by omega,by simp only[List.length_append,List.length_cons,List.length_nil];omega,by rw[fM,List.getElem?_append_right (by omega),hu,Nat.sub_self];rfl⟩]
    exact λ h=>nomatch h
structure NdR(n:Nd):Prop where
 bm:∃b:Nat,n.bm=(b:Int)/\b<18446744073709551616
 main:n.main<=9223372036854775807
 prev:n.prev<=9223372036854775807
 status:n.status<=9223372036854775807
def uM(L:List aL):Prop:=∀v∈L,NdR v.nd
end

/- Tapes: choices out of a list of numbers. -/
end Go.Ct
namespace Go.Proofs.YtadnboagdhcedaaGreatDoor
section
open Go.RowKit Go.Ct
abbrev Oa:=cd 106
abbrev mq(w:World):=Ir w 106
theorem yc(v n:Int)(w:World)(hn:IntKind.u64.wrap n≠0):Calls Tryz.prog 31 #[.int .i64 v,.int .i64 n] w λ e w'=>e=.returned (.int .i64 (Uh v n))/\St w [] [] w':=by
 refine enter Tryz.func31 Tryz.ntmps31 rfl rfl (SF.s0 w) ?_
 simp only[cP]
 refine cQ ?_;refine J2 ?_;refine iE ?_;refine aB ?_;refine iE ?_;refine zo ?_;refine iE ?_;refine J1 ?_
 refine aQ Tryz.results31 (λ w hw=>?_)
 exact⟨rfl,hw.done⟩
theorem z8{l:List Int}{a:Option Addr}{c:Nat}{w:World}:Calls Tryz.prog 21 #[.slice a l.length c] w λ e w' =>
  ∃b:Nat,e=.returned (.pointer (some ⟨b,0,none⟩))/\True/\SF w [] [(b,Oa a l c 0)] [] [] [] w':=by
 refine enter Tryz.func21 Tryz.ntmps21 rfl rfl (SF.s0 w) ?_
 simp only[cP]
 refine cQ ?_;refine J2 ?_;refine bD ?_;refine bP (λ x5=>?_);refine J1 ?_
 refine aQ Tryz.results21 (λ w hw=>?_)
 exact⟨x5,rfl,trivial,hw.aT⟩
theorem eI{l:List Int}{a:Option Addr}{b c k:Nat}{w:World}(n:Int)(ht:mq w b a l c k)(h0:0<n)(h1:n<=9223372036854775807) :
  Calls Tryz.prog 26 #[.pointer (some ⟨b,0,none⟩),.int .i64 n] w λ e w' =>
  ∃v:Nat,e=.returned (.int .i64 ((v:Nat):Int))/\((v:Int)<n/\v=tvN l k n)/\SF w [b] ((b,Oa a l c (mY l k))::[]) [] [] [] w':=by
 have hl:=ht.len
 have hu:IntKind.u64.wrap n≠0:=by rw[wrap_u64];omega
 refine enter Tryz.func26 Tryz.ntmps26 rfl rfl ht.start ?_
 simp only[cP]
 refine F2 ?_;refine aR ?_;refine fK [0,1,2,3,4,5,6,7,8,9] ?_;refine Cc ?_;refine lK ?_;refine zb ?_;refine dW ?_
 refine aZ (λ c14=>?_) (λ c14=>?_)
 ·refine cQ ?_
  refine aQ Tryz.results26 (λ w hw=>?_)
  exact⟨0,rfl,⟨by omega,by simp only[tvN];rw[if_neg (by omega)]⟩,by simp only[mY];rw[if_neg (by omega)];exact hw.aT⟩
 ·refine vi ?_;refine E9 ?_;refine a8 ?_;refine aR ?_;refine fK [0,1,2,3,4,5,6,7,8,9,10,11,12,13] ?_;refine Cc ?_;refine uH ?_;refine Sr ?_;refine aS ?_;refine cX (i:=12) (hq:=(cV (hc:=λ w1 hw=>yc (l.getD (k+1-1) 0) n w1 hu))) (h:=λ x34=>?_);refine J7 ?_
  refine aQ Tryz.results26 (λ w hw=>?_)
  have hb:=Pd (v:=l.getD k 0) h0 h1
  exact⟨(Uh (l.getD k 0) n).toNat,by rw[Int.toNat_of_nonneg hb.1];rfl,⟨by omega,by simp only[tvN];rw[if_pos (by omega)]⟩,by simp only[mY];rw[if_pos (by omega)];exact hw.aT⟩
def jI:List ByteArray:=[⟨#[97]⟩,⟨#[98]⟩,⟨#[99]⟩,⟨#[100]⟩,⟨#[97,98]⟩,⟨#[]⟩,⟨#[98,48]⟩,⟨#[107,101,121]⟩]
theorem pf{l:List Int}{a:Option Addr}{b c k:Nat}{w:World}(ht:mq w b a l c k) :
  Calls Tryz.prog 48 #[.pointer (some ⟨b,0,none⟩)] w λ e w' =>
  ∃v:Nat,e=.returned (.string (jI.getD v ⟨#[]⟩))/\(v<8/\v=tvN l k 8)/\SF w [b] ((b,Oa a l c (mY l k))::[]) [] [] [] w':=by
 refine enter Tryz.func48 Tryz.ntmps48 rfl rfl ht.start ?_
 simp only[cP]
 refine cQ ?_;refine J0 ?_;refine fF (λ x3=>?_);refine aB ?_;refine aC (vY (hc:=λ w1 hw=>eI 8 (hw.tape dU fin ht.len) (by decide) (by decide))) (λ x5 h5=>?_);refine aE (Nj (lst:=jI) rf rf fE gA fin (by omega) (by simp only[jI,List.length_cons,List.length_nil];omega)) rfl ?_;refine aE (R6 (lst:=jI) rf gA fin (by simp only[jI,List.length_cons,List.length_nil];omega)) rfl ?_;refine J1 ?_
 refine aQ Tryz.results48 (λ w hw=>?_)
 exact⟨x5,rfl,⟨by omega,h5.2⟩,hw.aT⟩
end

/- Bits of 64 bit numbers: plain laws. -/
end Go.Proofs.YtadnboagdhcedaaGreatDoor
namespace Go.Ct
section
open Go Go.RowKit
theorem kJ{n:Nat}(h:n<18446744073709551616):IntKind.u64.wrap ((n:Nat):Int)=(n:Int):=by
 have h2:IntKind.u64.wrap (n:Int)=(n:Int)%18446744073709551616:=by simp[IntKind.wrap,IntKind.signed,IntKind.bits]
 omega
theorem Ah(n:Nat)(h:n<18446744073709551616):(BitVec.ofInt IntKind.u64.bits (n:Int)).toNat=n:=by
 show(BitVec.ofInt 64 (n:Int)).toNat=n
 rw[BitVec.toNat_ofInt]
 omega
theorem lD{n m:Nat}(hn:n<18446744073709551616)(hm:m<18446744073709551616):nI .u64 (n:Int) (m:Int)=((n &&& m:Nat):Int):=by
 unfold nI
 rw[BitVec.toNat_and,Ah n hn,Ah m hm]
 exact kJ (Nat.lt_of_le_of_lt Nat.and_le_left hn)
theorem fj{n m:Nat}(hn:n<18446744073709551616)(hm:m<18446744073709551616):z7 .u64 (n:Int) (m:Int)=((n ||| m:Nat):Int):=by
 unfold z7
 rw[BitVec.toNat_or,Ah n hn,Ah m hm]
 exact kJ (Nat.or_lt_two_pow (n:=64) hn hm)
theorem Zh{n m:Nat}(hn:n<18446744073709551616)(hm:m<18446744073709551616):fh .u64 (n:Int) (m:Int)=((n ^^^ m:Nat):Int):=by
 unfold fh
 rw[BitVec.toNat_xor,Ah n hn,Ah m hm]
 exact kJ (Nat.xor_lt_two_pow (n:=64) hn hm)
theorem kY{n i:Nat}(hi:i<=64):nQ .u64 (n:Int) (i:Int)=((n >>> i:Nat):Int):=by
 unfold nQ
 rw[Int.toNat_natCast,show min i IntKind.u64.bits=i from Nat.min_eq_left hi,Nat.shiftRight_eq_div_pow]
 have:(2:Int)^i=((2^i:Nat):Int):=by simp
 rw[this,Int.fdiv_eq_ediv_of_nonneg _ (bF _)]
 rfl
theorem Ya{i:Nat}(hi:i<64):Wc .u64 1 (i:Int)=((2^i:Nat):Int):=by
 unfold Wc
 rw[Int.toNat_natCast,show min i IntKind.u64.bits=i from Nat.min_eq_left (Nat.le_of_lt hi),Int.one_mul]
 have:(2:Int)^i=((2^i:Nat):Int):=by simp
 rw[this]
 refine kJ ?_
 have:=Nat.pow_lt_pow_right (a:=2) (by decide) hi
 omega
def eM(n:Nat):Nat->Nat
 | 0=>0
 | k+1=>eM n k+if n.testBit k then 1 else 0
theorem uG(n:Nat):∀k,eM n k<=k
 | 0=>Nat.le_refl _
 | k+1=>by have:=uG n k;simp only[eM];split<;>omega
theorem H6{n m:Nat}:∀{k:Nat},(∀i,i<k->n.testBit i=m.testBit i)->eM n k=eM m k
 | 0,_=>rfl
 | k+1,h=>by simp only[eM];rw[H6 λ i hi=>h i (Nat.lt_succ_of_lt hi),h k (Nat.lt_succ_self k)]
theorem pX:∀k,eM 0 k=0
 | 0=>rfl
 | k+1=>by simp[eM,pX k]
theorem Qn(n:Nat)(a:Nat):∀k,eM n (a+k)=eM n a+eM (n >>> a) k
 | 0=>rfl
 | k+1=>by
  rw[<- Nat.add_assoc]
  simp only[eM,Qn n a k,Nat.testBit_shiftRight]
  omega
theorem jW{h l i:Nat}(hl:l<256):(256*h+l).testBit i=if i<8 then l.testBit i else h.testBit (i-8):=Nat.testBit_two_pow_mul_add h (i:=8) hl i
theorem db{h l:Nat}(hl:l<256)(k:Nat):eM (256*h+l) (8+k)=eM l 8+eM h k:=by
 rw[Qn]
 congr 1
 ·exact H6 λ i hi=>by rw[jW hl,if_pos hi]
 ·rw[Nat.shiftRight_eq_div_pow,show 2^8=256 from rfl]
  congr 1
  omega
theorem zK{a b c d:Nat}(hb:b<256)(hd:d<256):(256*a+b) &&& (256*c+d)=256*(a &&& c)+(b &&& d):=by
 have hbd:b &&& d<256:=Nat.lt_of_le_of_lt Nat.and_le_left hb
 refine Nat.eq_of_testBit_eq λ i=>?_
 rw[Nat.testBit_and,jW hb,jW hd,jW hbd]
 split
 ·rw[Nat.testBit_and]
 ·rw[Nat.testBit_and]
theorem Hj{a b s:Nat}(hb:b<256)(hs:s<=8):(256*a+b) >>> s=256*(a >>> s)+((a%2^s)*2^(8-s)+b >>> s):=by
 simp only[Nat.shiftRight_eq_div_pow]
 have h1:256=2^s*2^(8-s):=by rw[<- Nat.pow_add];rw[show s+(8-s)=8 by omega]
 have h2:=Nat.div_add_mod a (2^s)
 have hp:0<2^s:=Nat.two_pow_pos s
 have h3:256*a+b=2^s*(2^(8-s)*a)+b:=by rw[h1,Nat.mul_assoc]
 rw[h3,Nat.mul_add_div hp]
 have h4:2^(8-s)*a=256*(a/2^s)+a%2^s*2^(8-s):=by
  conv=>lhs;rw[<- h2]
  rw[h1,Nat.mul_add,Nat.mul_comm (a%2^s),<- Nat.mul_assoc,Nat.mul_comm (2^(8-s)) (2^s)]
 omega
def jJ(s:Nat)(m:Nat)(n:Nat):Nat:=((n >>> s) &&& m)+(n &&& m)
theorem iw{a b s d:Nat}(hb:b<256)(hs:s<=8)(hd:d<2^(8-s)):((a%2^s)*2^(8-s)+b >>> s) &&& d=(b >>> s) &&& d:=by
 have hbs:b >>> s<2^(8-s):=by
  rw[Nat.shiftRight_eq_div_pow]
  refine Nat.div_lt_of_lt_mul ?_
  rw[<- Nat.pow_add,show s+(8-s)=8 by omega]
  exact hb
 refine Nat.eq_of_testBit_eq λ i=>?_
 rw[Nat.testBit_and,Nat.testBit_and,Nat.mul_comm,Nat.testBit_two_pow_mul_add _ hbs]
 split
 ·rfl
 ·rename_i h
  have:d.testBit i=false:=Nat.testBit_lt_two_pow (Nat.lt_of_lt_of_le hd (Nat.pow_le_pow_right (by decide) (by omega)))
  rw[this];simp
theorem Du{s m a b d:Nat}(hb:b<256)(hs:s<=8)(hs0:0<s)(hd:d<2^(8-s)):jJ s (256*m+d) (256*a+b)=256*jJ s m a+jJ s d b:=by
 have hd':d<256:=Nat.lt_of_lt_of_le hd (Nat.pow_le_pow_right (n:=2) (by decide) (show 8-s<=8 by omega))
 have hL:(a%2^s)*2^(8-s)+b >>> s<256:=by
  have h1:256=2^s*2^(8-s):=by rw[<- Nat.pow_add];rw[show s+(8-s)=8 by omega]
  have h2:a%2^s<2^s:=Nat.mod_lt _ (Nat.two_pow_pos s)
  have h3:b >>> s<2^(8-s):=by
   rw[Nat.shiftRight_eq_div_pow]
   refine Nat.div_lt_of_lt_mul ?_
   rw[<- Nat.pow_add,show s+(8-s)=8 by omega]
   exact hb
  have h4:(a%2^s+1)*2^(8-s)<=2^s*2^(8-s):=Nat.mul_le_mul_right _ h2
  rw[Nat.add_mul,Nat.one_mul] at h4
  omega
 unfold jJ
 rw[Hj hb hs,zK hL hd',zK hb hd',iw hb hs hd]
 omega
def qf(l:Nat):Nat:=(((jJ 2 51 (jJ 1 85 l)) >>> 4)+jJ 2 51 (jJ 1 85 l)) &&& 15
theorem jz:∀l,l<256->jJ 1 85 l<256/\jJ 2 51 (jJ 1 85 l)<256/\jJ 2 51 (jJ 1 85 l)%16<=4/\jJ 2 51 (jJ 1 85 l)/16<=4/\qf l=eM l 8:=by decide +kernel
def qQ(d:Nat):Nat->Nat
 | 0=>0
 | k+1=>256*qQ d k+d
theorem Cp:∀(k n:Nat),n<256^k ->
  ∃r,(∀q,q=(jJ 2 (qQ 51 k) (jJ 1 (qQ 85 k) n))->(((q >>> 4)+q) &&& qQ 15 k)=r/\q<256^k/\q%16<=4)/\(∃ps:List Nat,ps.length=k/\(∀p∈ps,p<=8)/\r=ps.foldr (λ p acc=>p+256*acc) 0/\ps.sum=eM n (8*k))
 | 0,n,h=>⟨0,λ q hq=>by
   have h0:n=0:=by simpa using h
   subst h0
   subst hq
   simp[jJ,qQ],[],rfl,by simp,rfl,by simp[eM]⟩
 | k+1,n,h=>by
  have hl:n%256<256:=Nat.mod_lt _ (by decide)
  have hn:n=256*(n/256)+n%256:=(Nat.div_add_mod n 256).symm
  have hk:n/256<256^k:=by
   refine Nat.div_lt_of_lt_mul ?_
   rw[Nat.mul_comm,<- Nat.pow_succ];exact h
  obtain⟨r,h1,ps,h2,h3,h4,h5⟩:=Cp k (n/256) hk
  obtain⟨b1,b2,b3,b4,b5⟩:=jz (n%256) hl
  obtain⟨q1,q2,q3⟩:=h1 _ rfl
  generalize hQ:jJ 2 (qQ 51 k) (jJ 1 (qQ 85 k) (n/256))=Q at *
  refine⟨256*r+eM (n%256) 8,λ q hq=>?_,eM (n%256) 8::ps,by simp[h2],?_,?_,?_⟩
  ·have e:q=256*Q+jJ 2 51 (jJ 1 85 (n%256)):=by
    rw[hq]
    have e0:jJ 1 (qQ 85 (k+1)) n=256*jJ 1 (qQ 85 k) (n/256)+jJ 1 85 (n%256):=by
     have:=Du (s:=1) (m:=qQ 85 k) (a:=n/256) hl (by decide) (by decide) (show 85<2^(8-1) by decide)
     rw[<- hn] at this
     exact this
    rw[e0,<- hQ]
    exact Du (s:=2) (m:=qQ 51 k) b1 (by decide) (by decide) (show 51<2^(8-2) by decide)
   generalize hB:jJ 2 51 (jJ 1 85 (n%256))=B at *
   have hones:((B >>> 4)+B) &&& 15=eM (n%256) 8:=by rw[<- b5,qf,hB]
   have e4:q >>> 4=256*(Q >>> 4)+((Q%16)*16+B >>> 4):=by rw[e];exact Hj (s:=4) b2 (by decide)
   have eB:B >>> 4=B/16:=by rw[Nat.shiftRight_eq_div_pow]
   have hlow:(Q%16)*16+B >>> 4+B<256:=by rw[eB];omega
   have hsum:q >>> 4+q=256*(Q >>> 4+Q)+((Q%16)*16+B >>> 4+B):=by rw[e4,e];omega
   refine⟨?_,?_,?_⟩
   ·rw[hsum]
    show(256*(Q >>> 4+Q)+_) &&& (256*qQ 15 k+15)=_
    rw[zK hlow (by decide),q1,<- hones]
    congr 1
    rw[Nat.and_two_pow_sub_one_eq_mod _ 4,Nat.and_two_pow_sub_one_eq_mod _ 4]
    omega
   ·rw[e,Nat.pow_succ];omega
   ·rw[e];omega
  ·intro p hp
   rcases List.mem_cons.1 hp with rfl|hp
   ·exact uG _ 8
   ·exact h3 p hp
  ·simp only[List.foldr_cons,<- h4];omega
  ·rw[List.sum_cons,h5]
   conv=>rhs;rw[hn]
   rw[show 8*(k+1)=8+8*k by omega,db hl]
end

/- The last step of OnesCount64: numbers alone. -/
section
theorem aAS{x a b:Nat}(ha:a<256)(h:x=a+256*b):x/256=b:=by omega
theorem aAG{x a b:Nat}(ha:a<65536)(h:x=a+65536*b):x/65536=b:=by omega
theorem aAs{x a b:Nat}(ha:a<4294967296)(h:x=a+4294967296*b):x/4294967296=b:=by omega
theorem tk{t p s B:Nat}(e:t=p+256*s)(hp:p<=8)(hs:s<=B):t<=8+256*B:=by omega
theorem fa{r t1 t2 t3 p0 p1 p2:Nat}(e0:r=p0+256*t1)(e1:t1=p1+256*t2)(e2:t2=p2+256*t3):r+t1=((p0+p1)+256*(p1+p2))+65536*(t2+t3):=by omega
theorem ca{p0 p1 p2:Nat}(g0:p0<=8)(g1:p1<=8)(g2:p2<=8):(p0+p1)+256*(p1+p2)<65536:=by omega
theorem fb0{t2 t3 t4 t5 t6 t7 p2 p3 p4 p5 p6:Nat}(e2:t2=p2+256*t3)(e3:t3=p3+256*t4)(e4:t4=p4+256*t5)(e5:t5=p5+256*t6)(e6:t6=p6+256*t7):t2+t3+t4+t5=(p2+p3+p4+p5)+256*(p3+p4+p5+p6)+65536*(t4+t5+t6+t7):=by
 subst e6
 omega
theorem fb{r t1 t2 t3 t4 t5 t6 t7 p0 p1 p2 p3 p4 p5 p6:Nat}(f4:r+t1=((p0+p1)+256*(p1+p2))+65536*(t2+t3))(e2:t2=p2+256*t3)(e3:t3=p3+256*t4)(e4:t4=p4+256*t5)(e5:t5=p5+256*t6)(e6:t6=p6+256*t7) :
  r+t1+(t2+t3)=((p0+p1+p2+p3)+256*(p1+p2+p3+p4)+65536*(p2+p3+p4+p5)+16777216*(p3+p4+p5+p6))+4294967296*(t4+t5+t6+t7):=by
 have h1:=fb0 e2 e3 e4 e5 e6
 have h2:t2+t3=(p2+p3)+256*(t3+t4):=by clear h1 f4 e4 e5 e6;omega
 have h3:t3+t4=(p3+p4)+256*(t4+t5):=by clear h1 h2 f4 e2 e5 e6;omega
 clear e2 e3 e4 e5 e6
 omega
theorem cb{p0 p1 p2 p3 p4 p5 p6:Nat}(g0:p0<=8)(g1:p1<=8)(g2:p2<=8)(g3:p3<=8)(g4:p4<=8)(g5:p5<=8)(g6:p6<=8):(p0+p1+p2+p3)+256*(p1+p2+p3+p4)+65536*(p2+p3+p4+p5)+16777216*(p3+p4+p5+p6)<4294967296:=by omega
theorem fc{r t1:Nat}(b0:r<=8+256*(8+256*(8+256*(8+256*(8+256*(8+256*(8+256*8)))))))(b1:t1<=8+256*(8+256*(8+256*(8+256*(8+256*(8+256*8)))))):r+t1<9223372036854775808:=by omega
theorem fd{r t1 t2 t3:Nat}(b0:r<=8+256*(8+256*(8+256*(8+256*(8+256*(8+256*(8+256*8)))))))(b1:t1<=8+256*(8+256*(8+256*(8+256*(8+256*(8+256*8))))))(b2:t2<=8+256*(8+256*(8+256*(8+256*(8+256*8)))))(b3:t3<=8+256*(8+256*(8+256*(8+256*8)))):r+t1+(t2+t3)<9223372036854775808:=by omega
theorem fe{p1 p2 p3 p4 p5 p6 t4 t5 t6 t7:Nat}(g1:p1<=8)(g2:p2<=8)(g3:p3<=8)(g4:p4<=8)(g5:p5<=8)(g6:p6<=8)(b4:t4<=8+256*(8+256*(8+256*8)))(b5:t5<=8+256*(8+256*8))(b6:t6<=8+256*8)(b7:t7<=8) :
  (p1+p2+p3+p4)+256*(p2+p3+p4+p5)+65536*(p3+p4+p5+p6)+16777216*(t4+t5+t6+t7)+(t5+t6+t7)<36028797018963968:=by omega
theorem ff{p0 p1 p2 p3 p4 p5 p6 p7 t4 t5 t6 t7:Nat}(e4:t4=p4+256*t5)(e5:t5=p5+256*t6)(e6:t6=p6+256*t7)(e7:t7=p7) :
  ((p0+p1+p2+p3)+256*(p1+p2+p3+p4)+65536*(p2+p3+p4+p5)+16777216*(p3+p4+p5+p6))+4294967296*(t4+t5+t6+t7)+(t4+t5+t6+t7) =
   (p0+p1+p2+p3+p4+p5+p6+p7)+256*((p1+p2+p3+p4)+256*(p2+p3+p4+p5)+65536*(p3+p4+p5+p6)+16777216*(t4+t5+t6+t7)+(t5+t6+t7)):=by
 have h:t4+t5+t6+t7=(p4+p5+p6+p7)+256*(t5+t6+t7):=by omega
 generalize t4+t5+t6+t7=s at *
 clear e4 e5 e6 e7
 omega
theorem Wo{p0 p1 p2 p3 p4 p5 p6 p7 r t1 t2 t3 t4 t5 t6 t7:Nat}(g0:p0<=8)(g1:p1<=8)(g2:p2<=8)(g3:p3<=8)(g4:p4<=8)(g5:p5<=8)(g6:p6<=8)(g7:p7<=8)
  (e0:r=p0+256*t1) (e1:t1=p1+256*t2) (e2:t2=p2+256*t3) (e3:t3=p3+256*t4) (e4:t4=p4+256*t5) (e5:t5=p5+256*t6) (e6:t6=p6+256*t7) (e7:t7=p7) :
  r+r/256<9223372036854775808/\(r+r/256)+(r+r/256)/65536<9223372036854775808/\∃K,K<36028797018963968/\((r+r/256)+(r+r/256)/65536)+((r+r/256)+(r+r/256)/65536)/4294967296=(p0+p1+p2+p3+p4+p5+p6+p7)+256*K:=by
 have b7:t7<=8:=by rw[e7];exact g7
 have b6:=tk e6 g6 b7
 have b5:=tk e5 g5 b6
 have b4:=tk e4 g4 b5
 have b3:=tk e3 g3 b4
 have b2:=tk e2 g2 b3
 have b1:=tk e1 g1 b2
 have b0:=tk e0 g0 b1
 have f4:r+t1=((p0+p1)+256*(p1+p2))+65536*(t2+t3):=fa e0 e1 e2
 have c4:(p0+p1)+256*(p1+p2)<65536:=ca g0 g1 g2
 have f5:r+t1+(t2+t3)=((p0+p1+p2+p3)+256*(p1+p2+p3+p4)+65536*(p2+p3+p4+p5)+16777216*(p3+p4+p5+p6))+4294967296*(t4+t5+t6+t7):=fb f4 e2 e3 e4 e5 e6
 have c5:=cb g0 g1 g2 g3 g4 g5 g6
 rw[aAS (Nat.lt_of_le_of_lt g0 (by decide)) e0,aAG c4 f4,aAs c5 f5]
 refine⟨fc b0 b1,fd b0 b1 b2 b3,(p1+p2+p3+p4)+256*(p2+p3+p4+p5)+65536*(p3+p4+p5+p6)+16777216*(t4+t5+t6+t7)+(t5+t6+t7),?_,?_⟩
 ·exact fe g1 g2 g3 g4 g5 g6 b4 b5 b6 b7
 ·rw[f5];exact ff e4 e5 e6 e7
end

/- Bits, the second part. -/
section
open Go Go.RowKit
theorem r6{c K:Nat}(hc:c<=64)(hK:K<36028797018963968):nI .i64 (IntKind.i64.wrap ((c+256*K:Nat):Int)) 127=(c:Int):=by
 rw[wrap_i64 (by omega) (by omega)]
 unfold nI
 have h1:(BitVec.ofInt IntKind.i64.bits ((c+256*K:Nat):Int)).toNat=c+256*K:=by
  show(BitVec.ofInt 64 ((c+256*K:Nat):Int)).toNat=_
  rw[BitVec.toNat_ofInt]
  omega
 have h2:(BitVec.ofInt IntKind.i64.bits 127).toNat=127:=by decide
 rw[BitVec.toNat_and,h1,h2,show(127:Nat)=2^7-1 from rfl,Nat.and_two_pow_sub_one_eq_mod]
 have h3:(c+256*K)%2^7=c:=by omega
 rw[h3]
 exact wrap_i64 (by omega) (by omega)
theorem nW{n:Nat}(hn:n<18446744073709551616):wI (n:Int)=((eM n 64:Nat):Int):=by
 obtain⟨r,h1,ps,h2,h3,h4,h5⟩:=Cp 8 n hn
 obtain⟨q1,q2,_⟩:=h1 _ rfl
 match ps,h2 with
 | [p0,p1,p2,p3,p4,p5,p6,p7],_ =>
  simp only[List.mem_cons,List.not_mem_nil,or_false,forall_eq_or_imp,forall_eq] at h3
  simp only[List.foldr_cons,List.foldr_nil] at h4
  simp only[List.sum_cons,List.sum_nil] at h5
  obtain⟨g0,g1,g2,g3,g4,g5,g6,g7⟩:=h3
  have b5:jJ 1 6148914691236517205 n<18446744073709551616:=by
   unfold jJ
   have h1:(n >>> 1) &&& 6148914691236517205<=6148914691236517205:=Nat.and_le_right
   have h2:n &&& 6148914691236517205<=6148914691236517205:=Nat.and_le_right
   omega
  have e1:∀m:Nat,m<18446744073709551616->IntKind.u64.wrap (nI .u64 (nQ .u64 (m:Int) 1) 6148914691236517205+nI .u64 (m:Int) 6148914691236517205)=((jJ 1 6148914691236517205 m:Nat):Int):=λ m hm=>by
   have hs:m >>> 1<18446744073709551616:=Nat.lt_of_le_of_lt (Nat.shiftRight_le _ _) hm
   have r1:nQ .u64 (m:Int) 1=((m >>> 1:Nat):Int):=kY (i:=1) (by decide)
   have a1:nI .u64 ((m >>> 1:Nat):Int) 6148914691236517205=(((m >>> 1) &&& 6148914691236517205:Nat):Int):=lD hs (m:=6148914691236517205) (by decide)
   have a2:nI .u64 (m:Int) 6148914691236517205=((m &&& 6148914691236517205:Nat):Int):=lD hm (m:=6148914691236517205) (by decide)
   rw[r1,a1,a2,<- Int.natCast_add]
   refine kJ ?_
   have h1:(m >>> 1) &&& 6148914691236517205<=6148914691236517205:=Nat.and_le_right
   have h2:m &&& 6148914691236517205<=6148914691236517205:=Nat.and_le_right
   omega
  have e2:∀m:Nat,m<18446744073709551616->IntKind.u64.wrap (nI .u64 (nQ .u64 (m:Int) 2) 3689348814741910323+nI .u64 (m:Int) 3689348814741910323)=((jJ 2 3689348814741910323 m:Nat):Int):=λ m hm=>by
   have hs:m >>> 2<18446744073709551616:=Nat.lt_of_le_of_lt (Nat.shiftRight_le _ _) hm
   have r1:nQ .u64 (m:Int) 2=((m >>> 2:Nat):Int):=kY (i:=2) (by decide)
   have a1:nI .u64 ((m >>> 2:Nat):Int) 3689348814741910323=(((m >>> 2) &&& 3689348814741910323:Nat):Int):=lD hs (m:=3689348814741910323) (by decide)
   have a2:nI .u64 (m:Int) 3689348814741910323=((m &&& 3689348814741910323:Nat):Int):=lD hm (m:=3689348814741910323) (by decide)
   rw[r1,a1,a2,<- Int.natCast_add]
   refine kJ ?_
   have h1:(m >>> 2) &&& 3689348814741910323<=3689348814741910323:=Nat.and_le_right
   have h2:m &&& 3689348814741910323<=3689348814741910323:=Nat.and_le_right
   omega
  have m5:qQ 85 8=6148914691236517205:=by decide
  have m3:qQ 51 8=3689348814741910323:=by decide
  have mf:qQ 15 8=1085102592571150095:=by decide
  rw[m5,m3] at q1 q2
  rw[mf] at q1
  unfold wI
  simp only[]
  rw[e1 n hn,e2 _ b5]
  generalize jJ 2 3689348814741910323 (jJ 1 6148914691236517205 n)=Q at *
  have hQ:Q<18446744073709551616:=q2
  have hr:r<18446744073709551616:=by rw[<- q1];exact Nat.lt_of_le_of_lt Nat.and_le_right (by decide)
  have e3:nI .u64 (IntKind.u64.wrap (nQ .u64 (Q:Int) 4+(Q:Int))) 1085102592571150095=(r:Int):=by
   have r1:nQ .u64 (Q:Int) 4=((Q >>> 4:Nat):Int):=kY (i:=4) (by decide)
   rw[r1,<- Int.natCast_add]
   have h2:IntKind.u64.wrap ((Q >>> 4+Q:Nat):Int)=(((Q >>> 4+Q)%18446744073709551616:Nat):Int):=by
    have:IntKind.u64.wrap ((Q >>> 4+Q:Nat):Int)=((Q >>> 4+Q:Nat):Int)%18446744073709551616:=by simp[IntKind.wrap,IntKind.signed,IntKind.bits]
    rw[this];omega
   rw[h2]
   have a1:=lD (n:=(Q >>> 4+Q)%18446744073709551616) (m:=1085102592571150095) (Nat.mod_lt _ (by decide)) (by decide)
   refine a1.trans ?_
   rw[<- q1]
   congr 1
   refine Nat.eq_of_testBit_eq λ i=>?_
   rw[Nat.testBit_and,Nat.testBit_and,show(18446744073709551616:Nat)=2^64 from rfl,Nat.testBit_mod_two_pow]
   by_cases hi:i<64
   ·simp[hi]
   ·have:(1085102592571150095:Nat).testBit i=false:=Nat.testBit_lt_two_pow (Nat.lt_of_lt_of_le (by decide:(1085102592571150095:Nat)<2^64) (Nat.pow_le_pow_right (by decide) (by omega)))
    rw[this];simp
  rw[e3]
  have s1:∀m:Nat,nQ .u64 (m:Int) 8=((m/256:Nat):Int):=λ m=>by
   have:nQ .u64 (m:Int) 8=((m >>> 8:Nat):Int):=kY (i:=8) (by decide)
   rw[this,Nat.shiftRight_eq_div_pow]
  have s2:∀m:Nat,nQ .u64 (m:Int) 16=((m/65536:Nat):Int):=λ m=>by
   have:nQ .u64 (m:Int) 16=((m >>> 16:Nat):Int):=kY (i:=16) (by decide)
   rw[this,Nat.shiftRight_eq_div_pow]
  have s3:∀m:Nat,nQ .u64 (m:Int) 32=((m/4294967296:Nat):Int):=λ m=>by
   have:nQ .u64 (m:Int) 32=((m >>> 32:Nat):Int):=kY (i:=32) (by decide)
   rw[this,Nat.shiftRight_eq_div_pow]
  have w64:∀m:Nat,m<9223372036854775808->IntKind.u64.wrap ((m:Nat):Int)=(m:Int):=λ m hm=>kJ (by omega)
  have hs:eM n 64=p0+p1+p2+p3+p4+p5+p6+p7:=by rw[show(64:Nat)=8*8 from rfl,<- h5];omega
  have hc:=uG n 64
  have hx:=Wo (t7:=p7) (t6:=p6+256*p7) (t5:=p5+256*(p6+256*p7)) (t4:=p4+256*(p5+256*(p6+256*p7))) (t3:=p3+256*(p4+256*(p5+256*(p6+256*p7)))) (t2:=p2+256*(p3+256*(p4+256*(p5+256*(p6+256*p7))))) (t1:=p1+256*(p2+256*(p3+256*(p4+256*(p5+256*(p6+256*p7)))))) (r:=r) g0 g1 g2 g3 g4 g5 g6 g7 (by rw[h4];rfl) rfl rfl rfl rfl rfl rfl rfl
  clear h4 q1 q2 e3 e1 e2 b5 h1 hr hQ hn m5 m3 mf h5
  obtain⟨x4,x5,K,hK,x6⟩:=hx
  rw[s1,<- Int.natCast_add,w64 _ x4,s2,<- Int.natCast_add,w64 _ x5,s3,<- Int.natCast_add,x6,<- hs,w64 _ (by omega)]
  exact r6 hc hK
end

/- The functions on bitmaps. -/
section
open Go Go.RowKit
def oC(n:Nat)(i:Int):Bool:=decide (0<=i)&&(decide (i<64)&&n.testBit i.toNat)
theorem jk(n:Nat){i:Int}(h:i<0):oC n i=false:=by simp[oC];omega
theorem Tg(n:Nat){i:Int}(h:64<=i):oC n i=false:=by simp[oC];omega
theorem xU(n:Nat){i:Int}(h0:0<=i)(h1:i<64):oC n i=n.testBit i.toNat:=by simp[oC,h0,h1]
theorem jd{n:Nat}(hn:n<18446744073709551616){i:Int}(h0:0<=i)(h1:i<64):(nI .u64 (nQ .u64 (n:Int) i) 1==1)=oC n i:=by
 obtain⟨k,rfl⟩:=Int.eq_ofNat_of_zero_le h0
 rw[xU n h0 h1,kY (by omega)]
 have h2:nI .u64 ((n >>> k:Nat):Int) 1=(((n >>> k) &&& 1:Nat):Int):=lD (Nat.lt_of_le_of_lt (Nat.shiftRight_le _ _) hn) (m:=1) (by decide)
 rw[h2]
 simp only[Int.toNat_natCast,Nat.testBit,Nat.and_comm 1]
 rw[Nat.and_one_is_mod]
 rcases Nat.mod_two_eq_zero_or_one (n >>> k) with h|h<;>rw[h]<;>rfl
def pQ(n:Nat)(i:Int):Nat:=eM n (min i.toNat 64)
def dH(n:Nat)(i:Int):Nat:=if 0<=i/\i<64 then n ||| 2^i.toNat else n
def uA(n:Nat)(i:Int):Nat:=if 0<=i/\i<64 then n ^^^ (n &&& 2^i.toNat) else n
theorem Z6{n:Nat}(hn:n<18446744073709551616){i:Int}(h0:0<=i)(h1:i<64):z7 .u64 (n:Int) (Wc .u64 1 i)=((dH n i:Nat):Int):=by
 obtain⟨k,rfl⟩:=Int.eq_ofNat_of_zero_le h0
 have hp:=Nat.pow_lt_pow_right (a:=2) (by decide) (show k<64 by omega)
 rw[Ya (by omega),fj hn (by omega),dH,if_pos ⟨h0,h1⟩]
 rfl
theorem yB{n:Nat}(hn:n<18446744073709551616)(i:Int):dH n i<18446744073709551616:=by
 unfold dH
 split
 ·rename_i h
  have hp:=Nat.pow_lt_pow_right (a:=2) (by decide) (show i.toNat<64 by omega)
  exact Nat.or_lt_two_pow (n:=64) hn hp
 ·exact hn
end
end Go.Ct
namespace Go.Proofs.YtadnboagdhcedaaGreatDoor
section
open Go.RowKit Go.Ct
theorem Ni{n:Nat}(hn:n<18446744073709551616)(i:Int)(w:World):Calls Tryz.prog 106 #[.int .u64 (n:Int),.int .i64 i] w λ e w'=>e=.returned (.bool (oC n i))/\St w [] [] w':=by
 refine enter Tryz.func106 Tryz.ntmps106 rfl rfl (SF.s0 w) ?_
 simp only[cP]
 refine cQ ?_;refine J2 ?_;refine mT ?_;refine aB ?_
 (refine eF 7 (λ g7=>?_) (λ g7=>?_)<;>refine Ka0 ?_)
 all_goals (refine nj ?_;refine aB ?_)
 all_goals (first|refine aH ?_|(refine eF 11 (λ g11=>?_) (λ g11=>?_)<;>refine Ka0 ?_))
 all_goals (refine Ka0 ?_;(first|refine aH ?_|(refine aF ?_;refine iE ?_));(first|refine aH ?_|(refine aF ?_;refine Bi ?_));(first|refine aH ?_|(refine aF ?_;refine yR ?_));refine zH ?_;refine J1 ?_)
 all_goals
 refine aQ Tryz.results106 (λ w hw=>?_)
 first|(rw[jk n (by omega)];exact⟨rfl,hw.done⟩)|(rw[Tg n (by omega)];exact⟨rfl,hw.done⟩)|(rw[<- jd hn (by omega) (by omega)];exact⟨rfl,hw.done⟩)
theorem My{n:Nat}(hn:n<18446744073709551616)(i:Int)(w:World):Calls Tryz.prog 147 #[.int .u64 (n:Int),.int .i64 i] w λ e w'=>e=.returned (.int .i64 ((pQ n i:Nat):Int))/\St w [] [] w':=by
 refine enter Tryz.func147 Tryz.ntmps147 rfl rfl (SF.s0 w) ?_
 simp only[cP]
 refine cQ ?_;refine F2 ?_;refine Gh ?_
 refine eY [5,6,7,8,9,10,11,12,13,14,15,16,17,18,19,20] (λ k=>[(5,.int .i64 ((eM n k:Nat):Int)),(6,.int .i64 ((k:Nat):Int))]) (λ k=>k<=64/\(k:Int)<=max i 0) (λ k=>64-k) (0) (⟨by decide,by omega⟩) ?_ (λ k f hx=>?_)
 ·repeat (first|exact bB _|refine aY (by exact rfl) ?_)
 dsimp only[fY,List.map,List.cons_append,List.nil_append]
 have hcl:=uG n k
 refine kR ?_;refine Ec ?_
 (refine eF 9 (λ g9=>?_) (λ g9=>?_)<;>refine Ka0 ?_)
 all_goals (refine Ka0 ?_;refine nj ?_;refine aI ?_)
 all_goals
 refine aZ (λ c13=>?_) (λ c13=>?_)
 ·try exact nv c13
  all_goals (refine oE ?_;refine iQ ?_;refine aU (cV (hc:=λ w1 hw=>Ni hn (k:Int) w1)) (λ x18=>?_);refine aI ?_)
  all_goals
   refine aZ (λ c18=>?_) (λ c18=>?_)
   ·refine Ab ?_;refine Kd0 ?_
    refine dO (k+1) ?_ ?_ ?_
    ·omega
    ·repeat' (first|exact bB _|refine aY ?_ ?_)
     all_goals (first|exact rfl|(rw[xU n (by omega) (by omega),Int.toNat_natCast] at *;conv=>{lhs;whnf};congr 2;simp only[eM];simp_all;done))
    ·omega
   ·refine lM ?_;refine Ab ?_
    refine dO (k+1) ?_ ?_ ?_
    ·omega
    ·repeat' (first|exact bB _|refine aY ?_ ?_)
     all_goals (first|exact rfl|(rw[xU n (by omega) (by omega),Int.toNat_natCast] at *;conv=>{lhs;whnf};congr 2;simp only[eM];simp_all;done))
    ·omega
 ·all_goals (refine bI rfl ?_;refine Ka6 ?_)
  all_goals
   refine aQ Tryz.results147 (λ w hw=>?_)
   have:pQ n i=eM n k:=by unfold pQ;congr 1;omega
   rw[this]
   exact⟨rfl,hw.done⟩
theorem Pa{n:Nat}(hn:n<18446744073709551616)(w:World):Calls Tryz.prog 138 #[.int .u64 (n:Int)] w λ e w'=>e=.returned (.int .i64 ((eM n 64:Nat):Int))/\St w [] [] w':=by
 refine enter Tryz.func138 Tryz.ntmps138 rfl rfl (SF.s0 w) ?_
 simp only[cP]
 refine cQ ?_;refine J2 ?_;refine aU (cV (hc:=λ w1 hw=>My hn 64 w1)) (λ x4=>?_);refine J1 ?_
 refine aQ Tryz.results138 (λ w hw=>?_)
 exact⟨rfl,hw.done⟩
theorem Z5{n:Nat}(hn:n<18446744073709551616)(w:World):Calls Tryz.prog 73 #[.int .u64 (n:Int)] w λ e w'=>e=.returned (.int .i64 ((eM n 64:Nat):Int))/\St w [] [] w':=by
 rw[<- nW hn];exact Sq _ w
theorem lQ{n:Nat}(hn:n<18446744073709551616)(i:Int)(w:World):Calls Tryz.prog 164 #[.int .u64 (n:Int),.int .i64 i] w λ e w'=>e=.returned (.int .u64 ((dH n i:Nat):Int))/\St w [] [] w':=by
 refine enter Tryz.func164 Tryz.ntmps164 rfl rfl (SF.s0 w) ?_
 simp only[cP]
 refine Ka7 ?_;refine Ec ?_
 (refine eF 7 (λ g7=>?_) (λ g7=>?_)<;>refine Ka0 ?_)
 all_goals (refine Kb5 ?_)
 all_goals
 refine aZ (λ c10=>?_) (λ c10=>?_)
 ·all_goals (refine Ka6 ?_)
  all_goals
   refine aQ Tryz.results164 (λ w hw=>?_)
   (rw[show dH n i=n by unfold dH;rw[if_neg (by omega)]];exact⟨rfl,hw.done⟩)
 ·try exact nv c10
  all_goals (refine Ag ?_;refine iE ?_;refine xe ?_;refine aAV ?_;refine J1 ?_)
  all_goals
   refine aQ Tryz.results164 (λ w hw=>?_)
   (rw[<- Z6 hn (by omega) (by omega)];exact⟨rfl,hw.done⟩)
end

/- Nodes and lists of pairs out of tapes. -/
end Go.Proofs.YtadnboagdhcedaaGreatDoor
namespace Go.Ct
section
end
end Go.Ct
namespace Go.Proofs.YtadnboagdhcedaaGreatDoor
section
open Go.RowKit Go.Ct
end

/- A node out of a tape. -/
section
open Go.RowKit Go.Ct
end

/- Memories that come out of tapes are proper. -/
section
open Go.Ct
end

/- A memory out of a tape. -/
end Go.Proofs.YtadnboagdhcedaaGreatDoor
namespace Go.Ct
section
end
end Go.Ct
namespace Go.Proofs.YtadnboagdhcedaaGreatDoor
section
open Go.RowKit Go.Ct
end

/- Loads out of lists that are known. -/
end Go.Proofs.YtadnboagdhcedaaGreatDoor
namespace Go.Ct
section
open Go Go.RowKit
section
variable{P:Program}{S:List (Nat×Value)}{w0 w w':World}{M:List Nat}{H:List (Nat×Obj)}{A F:Fr}{O:List Ow}{d:Nat}{ty t:TypeId}{pos:String}{af:Array Edge}{gd:Option (Nat×Bool)}{x y:Operand}{v:Value}
theorem ba{a:Option Addr}{cs vs:List Value}{q k:Nat}(hx:ev S x=.pointer (some ⟨cR a,dX a+q,none⟩))(ht:jP P t k=true)(hf:pI A F O a cs)(hv:(cs.drop q).take k=vs)(hl:vs.length=k) :
  aJ P S (SF w0 M H A F O) ⟨some d,.load t x,ty,pos,af,gd⟩ (.agg ⟨vs⟩):=⟨λ w hw=>by
 have hcl:=hw.cl hf
 obtain⟨dd,hu,hm,hi⟩:=iF ht
 have hagg:(isAgg t).run P w=.ok true w:=by
  unfold isAgg
  rw[Sem.run_bind,run_underlying hu w]
  cases dd<;>simp_all
 have hc:(loadCells ⟨cR a,dX a+q,none⟩ k).run P w=.ok ⟨vs⟩ w:=by
  have:=run_loadCells_list (P:=P) w ⟨cR a,dX a+q,none⟩ vs (λ j z hz=>by
   subst hv
   have hj:=(List.getElem?_eq_some_iff.1 hz).1
   have h2:cs[q+j]?=some z:=by
    rw[List.getElem?_take_of_lt (by simp at hj;omega),List.getElem?_drop] at hz
    exact hz
   rw[Addr.add_lit,show dX a+q+j=dX a+(q+j) by omega]
   exact(hcl.at_ _ _ h2).2)
  rw[hl] at this
  simpa using this
 cases hq':P.info? t with
 | none=>rw[hq'] at hi;simp at hi
 | some i =>
  have hs:i.size=k:=by rw[hq'] at hi;simpa using hi
  simp[execOp,hx,Instr.loadAt,Instr.sureAddr,loadVar,hagg,Go.sizeOf,typeInfo,hq',hs,hc]⟩
end
end

end Go.Ct

/- An arena with a state. -/
import Derived.Test.YtbajmaoegmbfgaaGreatGNode4
import Derived.Test.YtbajmaoegmbfgaaGreatAuto
import Derived.Test.YtbajmaoegmbfgaaGreatGLst3
import Derived.Test.YtbajmaoegmbfgaaGreatGJoin
import Derived.Defers
import Derived.Recover

set_option linter.unusedSimpArgs false
set_option linter.unusedVariables false
namespace Go.Ct
section
theorem E6{n:Nd}{xs:List Int}{ys:List Pr}(h:bI n xs ys)(hk:n.kind=1):n.c xs ys=fW.c:=by
 have e:=vK.1 h.1
 rw[e]
 simp[Nd.own,Nd.kA,Nd.jK,hk,Nd.c,aX.c,fW,Nd.zero]
theorem mD.all{L L':List aX}{cs:List Int}{gen:Int}(h:mD L cs gen)(h2:L'.map aX.c=(L.drop 2).map aX.c):(dG L').map aX.c=L.map aX.c:=by
 have h0:=h.nodes 0 (by have:=h.two;omega)
 have h1:=h.nodes 1 (by have:=h.two;omega)
 have e0:(L.getD 0 aX.zero).c=fW.c:=E6 h0.1 h.m0
 have e1:(L.getD 1 aX.zero).c=fW.c:=E6 h1.1 h.m1
 have h3:=h.two
 match L,h3 with
 | a::b::r,_ =>
  simp only[List.getD_cons_zero,List.getD_cons_succ] at e0 e1
  simp only[List.drop_succ_cons,List.drop_zero] at h2
  simp only[dG,List.map_cons,h2,e0,e1]
end
end Go.Ct
namespace Go.Proofs.YtbajmaoegmbfgaaGreat
section
open Go.RowKit Go.Ct
theorem aAx{L:List aX}{cs:List Int}{gen:Int}{pn pc:Option Addr}{cn cc:Nat}{w:World}(h:C8 w L cs pn pc)(hL:L.length<=274877906944)(hC:cs.length<=274877906944)(hp:¬mD L cs gen) :
  Calls Tryz.prog 71 #[.agg ⟨[.slice pn L.length cn,.slice pc cs.length cc,.int .i64 gen]⟩] w λ e w'=>e=.returned (.tuple #[.pointer none,.int .i64 1])/\St w [] [] w':=by
 refine enter Tryz.func71 Tryz.ntmps71 rfl rfl h.start ?_
 simp only[cN]
 all_goals (refine J0 ?_;refine bW (λ x1=>?_);refine J8 ?_;refine aW ?_;refine qF ?_;refine aC (c0 (V:=.bool) (hc:=λ w1 hw=>Np ⟨hw.cl (.bF .head),hw.cl (.bF (.tail .head)),λ f hf=>(hw.bF f (List.mem_cons_of_mem _ (List.mem_cons_of_mem _ hf))).1,h.fit⟩ hL hC)) (λ x8 h8=>?_);refine qT ?_)
 all_goals
 refine bG (λ c9=>?_) (λ c9=>?_)
 ·all_goals refine dh ?_
  all_goals
   refine bE Tryz.results71 (λ w hw=>?_)
   exact⟨rfl,hw.done⟩
 ·all_goals
   exact absurd (h8.1 c9) hp
  all_goals (refine lG ?_;refine dX [(0,[]),(1,[]),(3,[]),(4,[]),(2,[4]),(5,[]),(6,[]),(7,[])] ?_;refine nA ?_;refine nA ?_;((refine cL (i:=2) (hq:=(NO)) (h:=λ x12=>?_);try (refine cW (λ h12=>?_))));refine iK ?_;refine rj (h:=λ x16=>?_);refine J7 ?_;refine J2 ?_;refine Hr ?_;refine j_sub ?_;refine qU (λ x22=>?_);refine D5 ?_;refine Cs ?_;(refine j_sliceL (λ x27=>?_);try (refine eA (λ h27=>?_)));refine eH ?_;refine B5 ?_;refine dE ?_)
  all_goals
   refine fZ [6,29,30,31,32,33,34,35,36,37,38,39,40,41,42,43,44] (λ y:Nat=>[]) (λ y=>True) (λ y=>0) (0) (trivial) ?_ (λ k f hx=>?_)
   ·repeat (first|exact bK _|refine bC (by first|exact rfl|(conv=>{lhs;whnf};simp;done)) ?_)
   dsimp only[iL,List.map,List.cons_append,List.nil_append]
   all_goals (refine J0 ?_;refine yQ ?_;refine aW ?_)
   all_goals
   refine bG (λ c30=>?_) (λ c30=>?_)
   ·try exact nv c30
    all_goals (refine qD ?_;refine J0 ?_;refine S9 ?_;refine aJ (λ x6=>?_);refine J5 ?_;refine dX [(0,[]),(1,[]),(2,[]),(3,[]),(4,[]),(5,[]),(6,[4]),(7,[4]),(8,[]),(9,[]),(10,[]),(11,[])] ?_;refine Qh ?_;refine bR ?_;((refine cL (i:=6) (hq:=(NO)) (h:=λ x39=>?_);try (refine cW (λ h39=>?_))));refine bL (h:=λ x40=>?_);((refine kJ (h:=λ x41=>?_);try (refine cW (λ h41=>?_))));refine iy ?_;refine fT ?_;refine Ss ?_;refine B5 ?_)
    all_goals
     refine eU (0) ?_ ?_ ?_
     ·first|omega|(simp only[];omega)
     ·repeat' (first|exact bK _|refine bC ?_ ?_)
      all_goals (first|exact rfl|(conv=>{lhs;whnf};simp;done)|(conv=>{lhs;whnf};congr 1;omega))
     ·trivial
   ·try exact nv c30
    all_goals (refine bV rfl ?_;refine J2 ?_;refine J8 ?_)
    all_goals
     refine bE Tryz.results71 (λ w hw=>?_)
     exact⟨rfl,hw.done⟩
theorem bg{L:List aX}{cs:List Int}{gen:Int}{pn pc:Option Addr}{cn cc:Nat}{w:World}(h:C8 w L cs pn pc)(hL:L.length<=274877906944)(hC:cs.length<=274877906944)(hcn:L.length<=cn)(hp:mD L cs gen) :
  Calls Tryz.prog 71 #[.agg ⟨[.slice pn L.length cn,.slice pc cs.length cc,.int .i64 gen]⟩] w λ e w'=>∃x:Nat×List aX×(Option Addr×Nat)×(Option Addr×Nat),e=.returned (.tuple #[.pointer (some ⟨x.1,0,none⟩),.int .i64 0]) /\
   ((dG x.2.1).map aX.c=L.map aX.c/\Fits x.2.1)/\SF w [] [(x.1,aO x.2.1 cs gen 0 x.2.2.1.1 x.2.2.1.2 x.2.2.2.1 x.2.2.2.2)] [] (aR x.2.1) (mW x.2.1 cs x.2.2.1.1 x.2.2.1.2 x.2.2.2.1 x.2.2.2.2) w':=by
 have h2L:=hp.two
 refine enter Tryz.func71 Tryz.ntmps71 rfl rfl h.start ?_
 simp only[cN]
 all_goals (refine J0 ?_;refine bW (λ x1=>?_);refine J8 ?_;refine aW ?_;refine qF ?_;refine aC (c0 (V:=.bool) (hc:=λ w1 hw=>Np ⟨hw.cl (.bF .head),hw.cl (.bF (.tail .head)),λ f hf=>(hw.bF f (List.mem_cons_of_mem _ (List.mem_cons_of_mem _ hf))).1,h.fit⟩ hL hC)) (λ x8 h8=>?_);refine qT ?_)
 all_goals
 refine bG (λ c9=>?_) (λ c9=>?_)
 ·all_goals
   exact absurd hp (λ hp=>by rw[h8.2 hp] at c9;cases c9)
  all_goals refine dh ?_
  all_goals
   refine bE Tryz.results71 (λ w hw=>?_)
   have hlen:y.1.length=L.length-2:=by omega
   refine⟨(x16,y.1,(y.2.1,y.2.2),(x12.1,x12.2)),rfl,⟨hp.all (by rw[hx.1,hlen,List.take_of_length_le (by rw[List.length_drop];omega)]),hx.2.2⟩,?_⟩
   exact hw.ret (by repeat (first|exact List.nil_sublist _|apply List.Sublist.cons_cons|apply List.Sublist.cons)) aV.all (List.Sublist.refl _)
 ·all_goals (refine lG ?_;refine dX [(0,[]),(1,[]),(3,[]),(4,[]),(2,[4]),(5,[]),(6,[]),(7,[])] ?_;refine nA ?_;refine nA ?_;refine bA (i:=2) (hq:=(P8 (Hc:=λ _=>[]) (Fc:=λ _=>[]) (hc:=λ w1 hw=>yZ (hw.cl fin) hC))) (h:=λ x12 h12=>?_);refine iK ?_;refine rj (h:=λ x16=>?_);refine J7 ?_;refine J2 ?_;refine Hr ?_;refine aB (gJ (n:=2) rf rf (by omega) (by omega)) rfl ?_;refine qU (λ x22=>?_);refine D5 ?_;refine Cs ?_;(refine aY (od (k:=2) rf rf gK (by exact tV rfl) (by omega) fin hcn rfl) (λ x27=>?_);try (refine eA (λ h27=>?_)));refine eH ?_;refine B5 ?_;refine dE ?_)
  all_goals
   refine oR [6,29,30,31,32,33,34,35,36,37,38,39,40,41,42,43,44] (λ y:List aX×Option Addr×Nat=>[(29,.int .i64 ((y.1.length:Nat):Int))]) (λ y=>y.1.map aX.c=((L.drop 2).take y.1.length).map aX.c/\y.1.length<=L.length-2/\Fits y.1) (λ y=>[(x16,.cells ⟨[.slice y.2.1 y.1.length y.2.2,.slice x12.1 cs.length x12.2,.int .i64 gen,.int .i64 0]⟩ 139 (0,0)),(x1,.cells ⟨[.slice pn L.length cn,.slice pc cs.length cc,.int .i64 gen]⟩ 52 (0,0))]) (λ y=>aR y.1) (λ y=>[⟨y.2.1,iO y.1,y.2.2,47,14⟩,⟨x12.1,aG cs,x12.2,37,1⟩]) (λ y=>L.length-2-y.1.length) (([],some ⟨x22,0,none⟩,L.length-2)) (⟨rfl,Nat.zero_le _,λ _ h=>(List.not_mem_nil h).elim⟩) (λ y f hx=>?_) (hw0:=λ w hw=>hw.back)
   dsimp only[iL,List.map,List.cons_append,List.nil_append]
   all_goals (refine J0 ?_;refine yQ ?_;refine aW ?_)
   all_goals
   refine bG (λ c30=>?_) (λ c30=>?_)
   ·all_goals (refine qD ?_;refine J0 ?_;refine aB (zX rf rf gK cD fin (by omega) (by rw[List.length_drop];omega)) rfl ?_;refine aB (Vi rf cD fin (by rw[List.length_drop];omega)) rfl ?_;refine aJ (λ x6=>?_);refine J5 ?_;refine dX [(0,[]),(1,[]),(2,[]),(3,[]),(4,[]),(5,[]),(6,[4]),(7,[4]),(8,[]),(9,[]),(10,[]),(11,[])] ?_;refine Qh ?_;refine bR ?_;refine bA (i:=6) (hq:=(cF (V:=λ p:Option Addr×Option Addr=>.agg ⟨(((L.drop 2).getD y.1.length aX.zero).at_ p.1 p.2).nd.cells⟩) (hc:=λ w1 hw=>U8 (hw.uh (L:=L) (λ f hf=>.inr (.inl (List.mem_cons_of_mem _ (List.mem_cons_of_mem _ (List.mem_cons_of_mem _ hf))))) h.fit (List.mem_of_mem_drop (iU (by rw[List.length_drop];omega)))) (h.fit _ (List.mem_of_mem_drop (iU (by rw[List.length_drop];omega)))).brS (h.fit _ (List.mem_of_mem_drop (iU (by rw[List.length_drop];omega)))).prS))) (h:=λ x39 h39=>?_);refine bL (h:=λ x40=>?_);((refine cL (i:=8) (hq:=(aM.eJ (Sl (((L.drop 2).getD y.1.length aX.zero).at_ x39.1 x39.2) rf rf dV rfl fin Iu rfl gK om) dU)) (h:=λ x41=>?_);try (refine cW (λ h41=>?_))));refine iy ?_;refine fT ?_;refine Ss ?_;refine B5 ?_)
    all_goals
     refine jJ ((y.1++[((L.drop 2).getD y.1.length aX.zero).at_ x39.1 x39.2],x41.1,x41.2)) ?_ (hw1:=λ w hw=>by
      have h3:=hw.ru (L:=y.1) (v:=((L.drop 2).getD y.1.length aX.zero).at_ x39.1 x39.2) (F':=[]) (List.mem_cons_of_mem _ (List.mem_cons_self ..)) (List.mem_cons_of_mem _ (List.mem_cons_of_mem _ (List.mem_cons_self ..))) (λ f hf=>List.mem_cons_of_mem _ (List.mem_cons_of_mem _ (List.mem_cons_of_mem _ hf)))
      have h4:=h3.sub (H':=[_,_]) (by repeat (first|exact List.Sublist.refl _|apply List.Sublist.cons)) aV.all (List.Sublist.refl _)
      simpa using h4) (hμ:=by simp only[List.length_append,List.length_cons,List.length_nil];omega)
     ·have hlt:y.1.length<(L.drop 2).length:=by rw[List.length_drop];omega
      refine⟨?_,by simp only[List.length_append,List.length_cons,List.length_nil];omega,λ v hv=>?_⟩
      ·rw[List.map_append,hx.1,List.length_append,List.length_singleton,List.take_succ_eq_append_getElem hlt,List.map_append,lB,List.getElem?_eq_getElem hlt]
       rfl
      ·rcases List.mem_append.1 hv with hv|hv
       ·exact hx.2.2 v hv
       ·simp only[List.mem_singleton] at hv
        subst hv
        exact aX.dk (h.fit _ (List.mem_of_mem_drop (iU hlt))) _ _
   ·all_goals (refine bV rfl ?_;refine J2 ?_;refine J8 ?_)
    all_goals
     refine bE Tryz.results71 (λ w hw=>?_)
     have hlen:y.1.length=L.length-2:=by omega
     refine⟨(x16,y.1,(y.2.1,y.2.2),(x12.1,x12.2)),rfl,⟨hp.all (by rw[hx.1,hlen,List.take_of_length_le (by rw[List.length_drop];omega)]),hx.2.2⟩,?_⟩
     exact hw.ret (by repeat (first|exact List.nil_sublist _|apply List.Sublist.cons_cons|apply List.Sublist.cons)) aV.all (List.Sublist.refl _)
end

/- Tapes: choices out of a list of numbers. -/
section
open Go.RowKit Go.Ct
abbrev De:=ij 114
abbrev mn(w:World):=L8 w 114
theorem yp(v n:Int)(w:World)(hn:IntKind.u64.wrap n≠0):Calls Tryz.prog 46 #[.int .i64 v,.int .i64 n] w λ e w'=>e=.returned (.int .i64 (Wx v n))/\St w [] [] w':=by
 refine enter Tryz.func46 Tryz.ntmps46 rfl rfl (SF.s0 w) ?_
 simp only[cN]
 all_goals (refine dC ?_;refine J2 ?_;refine lP ?_;refine aA ?_;refine lP ?_;refine qu ?_;refine lP ?_;refine J1 ?_)
 all_goals
 refine aU Tryz.results46 (λ w hw=>?_)
 exact⟨rfl,hw.done⟩
theorem ib{l:List Int}{a:Option Addr}{c:Nat}{w:World}:Calls Tryz.prog 21 #[.slice a l.length c] w λ e w' =>
  ∃b:Nat,e=.returned (.pointer (some ⟨b,0,none⟩))/\True/\SF w [] [(b,De a l c 0)] [] [] [] w':=by
 refine enter Tryz.func21 Tryz.ntmps21 rfl rfl (SF.s0 w) ?_
 simp only[cN]
 all_goals (refine dC ?_;refine J2 ?_;refine bO ?_;refine bW (λ x5=>?_);refine J1 ?_)
 all_goals
 refine aU Tryz.results21 (λ w hw=>?_)
 exact⟨x5,rfl,trivial,hw.aS⟩
theorem fF{l:List Int}{a:Option Addr}{b c k:Nat}{w:World}(n:Int)(ht:mn w b a l c k)(h0:0<n)(h1:n<=9223372036854775807) :
  Calls Tryz.prog 22 #[.pointer (some ⟨b,0,none⟩),.int .i64 n] w λ e w' =>
  ∃v:Nat,e=.returned (.int .i64 ((v:Nat):Int))/\((v:Int)<n/\v=tvN l k n)/\SF w [b] ((b,De a l c (lD l k))::[]) [] [] [] w':=by
 have hl:=ht.len
 have hu:IntKind.u64.wrap n≠0:=by rw[wrap_u64];omega
 refine enter Tryz.func22 Tryz.ntmps22 rfl rfl ht.start ?_
 simp only[cN]
 all_goals (refine H5 ?_;refine aW ?_;refine fL [0,1,2,3,4,5,6,7,8,9] ?_;refine qC ?_;refine mP ?_;refine zt ?_;refine eC ?_)
 all_goals
 refine bG (λ c14=>?_) (λ c14=>?_)
 ·all_goals refine dC ?_
  all_goals
   refine aU Tryz.results22 (λ w hw=>?_)
   exact⟨0,rfl,⟨by omega,by simp only[tvN];rw[if_neg (by omega)]⟩,by simp only[lD];rw[if_neg (by omega)];exact hw.aS⟩
 ·all_goals (refine Qi ?_;refine sC ?_;refine D5 ?_;refine aW ?_;refine fL [0,1,2,3,4,5,6,7,8,9,10,11,12,13] ?_;refine qC ?_;refine uZ ?_;refine Hq ?_;refine aQ ?_;refine cL (i:=12) (hq:=(cV (hc:=λ w1 hw=>yp (l.getD (k+1-1) 0) n w1 hu))) (h:=λ x34=>?_);refine J7 ?_)
  all_goals
   refine aU Tryz.results22 (λ w hw=>?_)
   have hb:=Ry (v:=l.getD k 0) h0 h1
   exact⟨(Wx (l.getD k 0) n).toNat,by rw[Int.toNat_of_nonneg hb.1];rfl,⟨by omega,by simp only[tvN];rw[if_pos (by omega)]⟩,by simp only[lD];rw[if_pos (by omega)];exact hw.aS⟩
def mZ:List ByteArray:=[⟨#[97]⟩,⟨#[98]⟩,⟨#[99]⟩,⟨#[100]⟩,⟨#[97,98]⟩,⟨#[]⟩,⟨#[98,48]⟩,⟨#[107,101,121]⟩]
theorem qh{l:List Int}{a:Option Addr}{b c k:Nat}{w:World}(ht:mn w b a l c k) :
  Calls Tryz.prog 59 #[.pointer (some ⟨b,0,none⟩)] w λ e w' =>
  ∃v:Nat,e=.returned (.string (mZ.getD v ⟨#[]⟩))/\(v<8/\v=tvN l k 8)/\SF w [b] ((b,De a l c (lD l k))::[]) [] [] [] w':=by
 refine enter Tryz.func59 Tryz.ntmps59 rfl rfl ht.start ?_
 simp only[cN]
 all_goals (refine dC ?_;refine J0 ?_;refine iH (λ x3=>?_);refine aA ?_;refine aC (uR (hc:=λ w1 hw=>fF 8 (hw.tape bQ fin ht.len) (by decide) (by decide))) (λ x5 h5=>?_);refine aB (Zs (lst:=mZ) rf rf gK cG fin (by omega) (by simp only[mZ,List.length_cons,List.length_nil];omega)) rfl ?_;refine aB (m6 (lst:=mZ) rf cG fin (by simp only[mZ,List.length_cons,List.length_nil];omega)) rfl ?_;refine J1 ?_)
 all_goals
 refine aU Tryz.results59 (λ w hw=>?_)
 exact⟨x5,rfl,⟨by omega,h5.2⟩,hw.aS⟩
end

/- States are compared. -/
end Go.Proofs.YtbajmaoegmbfgaaGreat
namespace Go.Ct
section
theorem Yf{L1 L2:List aX}(h:L1.length=L2.length):L1.map aX.c=L2.map aX.c↔∀i,i<L1.length->(L1.getD i aX.zero).c=(L2.getD i aX.zero).c:=by
 constructor
 ·intro e i hi
  have h1:(L1.map aX.c)[i]?=(L2.map aX.c)[i]?:=by rw[e]
  rw[List.getElem?_map,List.getElem?_map,List.getElem?_eq_getElem hi,List.getElem?_eq_getElem (h▸hi)] at h1
  rw[lB,lB,List.getElem?_eq_getElem hi,List.getElem?_eq_getElem (h▸hi)]
  simpa using h1
 ·intro e
  refine List.ext_getElem? λ i=>?_
  rw[List.getElem?_map,List.getElem?_map]
  by_cases hi:i<L1.length
  ·have h1:=e i hi
   rw[lB,lB,List.getElem?_eq_getElem hi,List.getElem?_eq_getElem (h▸hi)] at h1
   rw[List.getElem?_eq_getElem hi,List.getElem?_eq_getElem (h▸hi)]
   simpa using h1
  ·rw[List.getElem?_eq_none (by omega),List.getElem?_eq_none (by omega)]
def Rm(L1 L2:List aX)(c1 c2:List Int)(g1 g2:Int):Prop:=L1.map aX.c=L2.map aX.c/\g1=g2/\c1=c2
end
end Go.Ct
namespace Go.Proofs.YtbajmaoegmbfgaaGreat
section
open Go.RowKit Go.Ct
theorem Qt{L1 L2:List aX}{cs1 cs2:List Int}{pn1 pc1 pn2 pc2:Option Addr}{w:World}(h1:C8 w L1 cs1 pn1 pc1)(h2:C8 w L2 cs2 pn2 pc2) :
  SF w [] [] ((pn1,iO L1)::(pc1,aG cs1)::(pn2,iO L2)::(pc2,aG cs2)::(aR L1++aR L2)) [] [] w:=SF.begin λ f hf=>by
 rcases List.mem_cons.1 hf with rfl|hf
 ·exact h1.nds
 rcases List.mem_cons.1 hf with rfl|hf
 ·exact h1.cls
 rcases List.mem_cons.1 hf with rfl|hf
 ·exact h2.nds
 rcases List.mem_cons.1 hf with rfl|hf
 ·exact h2.cls
 rcases List.mem_append.1 hf with hf|hf
 ·exact h1.fam f hf
 ·exact h2.fam f hf
theorem ra{f1 f2 f3 f4 f:Option Addr×List Value}{F:Fr}(h:f∈F):f∈f1::f2::f3::f4::F:=List.mem_cons_of_mem _ (List.mem_cons_of_mem _ (List.mem_cons_of_mem _ (List.mem_cons_of_mem _ h)))
theorem uq{L1 L2:List aX}{cs1 cs2:List Int}{g1 g2:Int}{pn1 pc1 pn2 pc2:Option Addr}{n1 n2 c1 c2:Nat}{w:World}(h1:C8 w L1 cs1 pn1 pc1)(h2:C8 w L2 cs2 pn2 pc2)(hL1:L1.length<=274877906944)(hL2:L2.length<=274877906944)(hc1:cs1.length<=274877906944) :
  Calls Tryz.prog 62 #[.agg ⟨[.slice pn1 L1.length n1,.slice pc1 cs1.length c1,.int .i64 g1]⟩,.agg ⟨[.slice pn2 L2.length n2,.slice pc2 cs2.length c2,.int .i64 g2]⟩] w λ e w'=>∃r:Bool,e=.returned (.bool r)/\(r=true↔Rm L1 L2 cs1 cs2 g1 g2)/\St w [] [] w':=by
 refine enter Tryz.func62 Tryz.ntmps62 rfl rfl (Qt h1 h2) ?_
 simp only[cN]
 all_goals (refine J0 ?_;refine bW (λ x2=>?_);refine bW (λ x3=>?_);refine jM ?_;refine iZ ?_;refine eH ?_;refine Hr ?_;refine pP ?_;refine aA ?_)
 all_goals ((refine fS 13 (λ g13=>?_) (λ g13=>?_)<;>(first|refine aN ?_|(refine aF ?_;refine aE ?_))))
 all_goals (refine A5 ?_;refine Sj ?_;refine aA ?_)
 all_goals (first|refine aN ?_|(refine fS 20 (λ g20=>?_) (λ g20=>?_)<;>(first|refine aN ?_|(refine aF ?_;refine aE ?_))))
 all_goals (refine A5 ?_;(first|refine aN ?_|(refine aF ?_;refine aY (cV (hc:=λ w1 hw=>bs (hw.cl (.bF (.tail .head))) (hw.cl (.bF (.tail (.tail (.tail .head))))) (by omega))) (λ x25=>?_)));refine Sg ?_;refine aH ?_)
 all_goals
 refine bG (λ c27=>?_) (λ c27=>?_)
 ·all_goals refine dC ?_
  all_goals
   refine aU Tryz.results62 (λ w hw=>?_)
   exact⟨false,rfl,⟨(λ h=>nomatch h),λ hs=>by
   have e1:=congrArg List.length hs.1
   simp only[List.length_map] at e1
   have e2:=hs.2.1
   have e3:=hs.2.2
   first|omega|(subst e3;simp at c27)⟩,hw.done⟩
 ·try exact nv c27
  all_goals (refine lG ?_;refine Hu ?_)
  all_goals
   have hlen:L1.length=L2.length:=by omega
   refine fZ [4,5,28,29,30,31,32,33,34,35,36,37,38,39,40,41,42,43,44,45,46] (λ k=>[(5,.int .i64 ((k:Nat):Int))]) (λ k=>k<=L1.length/\∀i,i<k->(L1.getD i aX.zero).c=(L2.getD i aX.zero).c) (λ k=>L1.length-k) (0) (⟨Nat.zero_le _,λ i hi=>absurd hi (Nat.not_lt_zero i)⟩) ?_ (λ k f hx=>?_)
   ·repeat (first|exact bK _|refine bC (by first|exact rfl|(conv=>{lhs;whnf};simp;done)) ?_)
   dsimp only[iL,List.map,List.cons_append,List.nil_append]
   all_goals (refine lW ?_;refine Hr ?_;refine yQ ?_)
   all_goals
   refine bG (λ c32=>?_) (λ c32=>?_)
   ·all_goals (refine qD ?_;refine aW ?_;refine fL [0,1,2,3,4,5,6,7,8,9,10,11] ?_;refine nA ?_;refine aQ ?_;refine Hq ?_;refine nA ?_;refine aQ ?_;refine Hq ?_;refine bA (i:=10) (hq:=(c0 (V:=.bool) (hc:=λ w1 hw=>S7 (hw.uh (L:=L1) (λ f hf=>.inr (.inl (ra (List.mem_append_left _ hf)))) h1.fit (iU (k:=k) (by omega))) (hw.uh (L:=L2) (λ f hf=>.inr (.inl (ra (List.mem_append_right _ hf)))) h2.fit (iU (k:=k) (by omega)))))) (h:=λ x45 h45=>?_);refine G6 ?_;refine eC ?_)
    all_goals
     refine bG (λ c46=>?_) (λ c46=>?_)
     ·all_goals refine dC ?_
      all_goals
      refine aU Tryz.results62 (λ w hw=>?_)
      exact⟨false,rfl,⟨(λ h=>nomatch h),λ hs=>by
       have h1:=(Yf hlen).1 hs.1 k (by omega)
       rw[h45.2 (vK.2 h1)] at c46
       cases c46⟩,hw.done⟩
     ·all_goals (refine oD ?_;refine zL ?_)
      all_goals
      refine eU (k+1) ?_ ?_ ?_
      ·first|omega|(simp only[];omega)
      ·repeat' (first|exact bK _|refine bC ?_ ?_)
       all_goals (first|exact rfl|(conv=>{lhs;whnf};simp;done)|(conv=>{lhs;whnf};congr 1;omega))
      ·exact⟨by omega,λ i hi=>by rcases Nat.lt_succ_iff_lt_or_eq.1 hi with h|rfl;exact hx.2 i h;exact vK.1 (h45.1 c46)⟩
   ·all_goals (refine bV rfl ?_;refine dC ?_)
    all_goals
     refine aU Tryz.results62 (λ w hw=>?_)
     exact⟨true,rfl,⟨λ _=>⟨(Yf hlen).2 λ i hi=>hx.2 i (by omega),by omega,by simpa using c27⟩,λ _=>rfl⟩,hw.done⟩
theorem Ln{L1 L2:List aX}{cs1 cs2:List Int}{g1 g2:Int}{pn1 pc1 pn2 pc2:Option Addr}{n1 n2 c1 c2:Nat}{w:World}(h1:C8 w L1 cs1 pn1 pc1)(h2:C8 w L2 cs2 pn2 pc2)(hL1:L1.length<=274877906944)(hL2:L2.length<=274877906944)(hc1:cs1.length<=274877906944)(h:Rm L1 L2 cs1 cs2 g1 g2) :
  Calls Tryz.prog 62 #[.agg ⟨[.slice pn1 L1.length n1,.slice pc1 cs1.length c1,.int .i64 g1]⟩,.agg ⟨[.slice pn2 L2.length n2,.slice pc2 cs2.length c2,.int .i64 g2]⟩] w λ e w'=>e=.returned (.bool true)/\St w [] [] w' :=
 (uq h1 h2 hL1 hL2 hc1).mono λ e w' ⟨r,he,hr,hst⟩=>⟨by rw[he,hr.2 h],hst⟩
end

/- Nodes of arenas, written out. -/
end Go.Proofs.YtbajmaoegmbfgaaGreat
namespace Go.Ct
section
open Go Go.RowKit
end
end Go.Ct
namespace Go.Proofs.YtbajmaoegmbfgaaGreat
section
open Go.RowKit Go.Ct
section
variable{w:World}{D:List Nat}{b:Nat}{L:List aX}{cs:List Int}{gen acc:Int}{pn pc:Option Addr}{cn cc:Nat}{A:Fr}
end
end

/- Calls through interfaces. -/
end Go.Proofs.YtbajmaoegmbfgaaGreat
namespace Go.Ct
section
open Go Go.RowKit
section
variable{P:Program}{S:List (Nat×Value)}{G:World->Prop}{d:Nat}{ty t t2:TypeId}{pos:String}{af:Array Edge}{gd:Option (Nat×Bool)}{x y:Operand}{dst:Option Nat}{v:Value}
theorem Un{f:FuncId}{xs:List Operand}{at_:Array TypeId}{vs:List Value}{t:TypeId}{pv:Value}{name:String}(hx:ev S x=.iface t pv)(ha:qV S xs=vs)(hm:∀w,(callMethod (.iface t pv) name ⟨vs⟩).run P w=.ok (.enter f ⟨pv::vs⟩) w)(w:World) :
  (execOp (ev S) ⟨dst,.call {callee:=.invoke x name,args:=⟨xs⟩,argTypes:=at_},ty,pos,af,gd⟩).run P w=.ok (.enter f ⟨pv::vs⟩) w:=by
 subst ha
 have hm':(xs.map (ev S)).toArray=⟨qV S xs⟩:=by rw[Ds]
 have:=hm w
 simp only[execOp,resolve,hx]
 simp[invoke,hm',this]
theorem qk(hx:ev S x=v)(h:∀w,(Instr.makeInterface t v).run P w=.ok (.iface t v) w):aP P S G ⟨some d,.makeInterface t x,ty,pos,af,gd⟩ (.iface t v):=⟨λ w _=>by
 simp[execOp,hx,h w]⟩
theorem Cq{b off:Nat}(hx:ev S x=.iface t (.pointer (some ⟨b,off,none⟩))):aP P S G ⟨some d,.nilCheck x,ty,pos,af,gd⟩ (.iface t (.pointer (some ⟨b,off,none⟩))):=⟨λ w _=>by
 simp[execOp,hx]⟩
end
end
end Go.Ct
namespace Go.Proofs.YtbajmaoegmbfgaaGreat
section
open Go Go.RowKit Go.Ct
theorem Na(p:Option Addr)(a:Value)(w:World):(callMethod (.iface 42 (.pointer p)) "Node" #[a]).run Tryz.prog w=.ok (.enter 36 #[.pointer p,a]) w:=by kernel_rfl
theorem wS(p:Option Addr)(a b:Value)(w:World):(callMethod (.iface 42 (.pointer p)) "Alloc" #[a,b]).run Tryz.prog w=.ok (.enter 29 #[.pointer p,a,b]) w:=by kernel_rfl
theorem Jj(p:Option Addr)(w:World):(Instr.makeInterface 42 (.pointer p)).run Tryz.prog w=.ok (.iface 42 (.pointer p)) w:=by kernel_rfl
section
variable{S:List (Nat×Value)}{w0 w:World}{M:List Nat}{H:List (Nat×Obj)}{A F:Fr}{O:List Ow}{ty:TypeId}{pos:String}{af:Array Edge}{gd:Option (Nat×Bool)}{X:Type}{V:X->Value}
theorem xf{φ:X->Prop}{hs H':List (Nat×Obj)}{os O':List Ow}{hs' H1:X->List (Nat×Obj)}{os' O1:X->List Ow}{Fc F1:X->Fr}{A0:Fr}{is js:List Nat}{f:FuncId}{recv:Operand}{t:TypeId}{pv:Value}{name:String}{xs:List Operand}{at_:Array TypeId}{vs:List Value}{dst:Option Nat}
  (hx:ev S recv=.iface t pv:=by(conv=>{lhs;whnf}))
  (ha:qV S xs=vs:=by(repeat (first|exact cP _|(apply cC;focus ((conv=>{lhs;whnf});try exact rfl))));first|done|fail) (hm:∀w,(callMethod (.iface t pv) name ⟨vs⟩).run Tryz.prog w=.ok (.enter f ⟨pv::vs⟩) w)
  (hc:∀w,SF w (Ks hs os) hs A0 [] os w->Calls Tryz.prog f ⟨pv::vs⟩ w λ e w'=>∃x,e=.returned (V x)/\φ x/\SF w (Ks hs os) (hs' x) [] (Fc x) (os' x) w')
  (hH:lX H is hs H':=by(repeat (first|exact lX.nil|(apply lX.cons;(focus ((repeat (first|exact yL.head|apply yL.tail));done));simp only[qE])));first|done|fail)
  (hO:lX O js os O':=by(repeat (first|exact lX.nil|(apply lX.cons;(focus ((repeat (first|exact yL.head|apply yL.tail));done));simp only[qE])));first|done|fail)
  (hA:bB A F O' A0:=by(repeat (first|exact bB.of (λ _ h=>Or.inr (Or.inl h))|exact bB.nil|(refine bB.cons (by first|exact Or.inl rfl|exact Or.inr (Or.inr (Or.inl (by simp)))|exact Or.inr (Or.inl (by simp))|exact Or.inr (Or.inr (Or.inr (by simp)))) ?_)));first|done|fail)
  (hl1:∀x,is.length=(hs' x).length:=by intro x;exact rfl) (hl2:∀x,js.length=(os' x).length:=by intro x;exact rfl)
  (hH1:∀x,jA is (hs' x) H'=H1 x:=by intro x;first|(simp only[jA,qX];exact rfl)|exact rfl) (hF1:∀x,Fc x++F=F1 x:=by intro x;first|(simp only[List.nil_append,List.cons_append];exact rfl)|exact rfl) (hO1:∀x,jA js (os' x) O'=O1 x:=by intro x;simp only[jA,qX,mW];exact rfl) :
  aM Tryz.prog S (SF w0 M H A F O) ⟨dst,.call {callee:=.invoke recv name,args:=⟨xs⟩,argTypes:=at_},ty,pos,af,gd⟩ X V (λ x w=>φ x/\SF w0 M (H1 x) A (F1 x) (O1 x) w) :=
 hJ (Un hx ha hm) λ w hw=>(hc w (hw.pE hH hO hA)).mono λ _ _ ⟨x,he,hx,hs⟩=>⟨x,he,hx,by
  have:=hw.xG (hs':=hs' x) (Hc:=[]) (os':=os' x) (Oc:=[]) hH hO (by simpa using hs) (hl1 x) (hl2 x)
  rw[<- hH1 x,<- hF1 x,<- hO1 x]
  simpa using this⟩
theorem aAf{φ:X->Prop}{hs H':List (Nat×Obj)}{os O':List Ow}{hs' H1:X->List (Nat×Obj)}{os' Oc O1:X->List Ow}{Fc F1:X->Fr}{A0:Fr}{is js:List Nat}{f:FuncId}{recv:Operand}{t:TypeId}{pv:Value}{name:String}{xs:List Operand}{at_:Array TypeId}{vs:List Value}{dst:Option Nat}
  (hx:ev S recv=.iface t pv:=by(conv=>{lhs;whnf}))
  (ha:qV S xs=vs:=by(repeat (first|exact cP _|(apply cC;focus ((conv=>{lhs;whnf});try exact rfl))));first|done|fail) (hm:∀w,(callMethod (.iface t pv) name ⟨vs⟩).run Tryz.prog w=.ok (.enter f ⟨pv::vs⟩) w)
  (hc:∀w,SF w (Ks hs os) hs A0 [] os w->Calls Tryz.prog f ⟨pv::vs⟩ w λ e w'=>∃x,e=.returned (V x)/\φ x/\SF w (Ks hs os) (hs' x) [] (Fc x) (os' x++Oc x) w')
  (hH:lX H is hs H':=by(repeat (first|exact lX.nil|(apply lX.cons;(focus ((repeat (first|exact yL.head|apply yL.tail));done));simp only[qE])));first|done|fail)
  (hO:lX O js os O':=by(repeat (first|exact lX.nil|(apply lX.cons;(focus ((repeat (first|exact yL.head|apply yL.tail));done));simp only[qE])));first|done|fail)
  (hA:bB A F O' A0:=by(repeat (first|exact bB.of (λ _ h=>Or.inr (Or.inl h))|exact bB.nil|(refine bB.cons (by first|exact Or.inl rfl|exact Or.inr (Or.inr (Or.inl (by simp)))|exact Or.inr (Or.inl (by simp))|exact Or.inr (Or.inr (Or.inr (by simp)))) ?_)));first|done|fail)
  (hl1:∀x,is.length=(hs' x).length:=by intro x;exact rfl) (hl2:∀x,js.length=(os' x).length:=by intro x;exact rfl)
  (hH1:∀x,jA is (hs' x) H'=H1 x:=by intro x;first|(simp only[jA,qX];exact rfl)|exact rfl) (hF1:∀x,Fc x++F=F1 x:=by intro x;first|(simp only[List.nil_append,List.cons_append];exact rfl)|exact rfl) (hO1:∀x,Oc x++jA js (os' x) O'=O1 x:=by intro x;simp only[jA,qX,mW,List.nil_append,List.cons_append];exact rfl) :
  aM Tryz.prog S (SF w0 M H A F O) ⟨dst,.call {callee:=.invoke recv name,args:=⟨xs⟩,argTypes:=at_},ty,pos,af,gd⟩ X V (λ x w=>φ x/\SF w0 M (H1 x) A (F1 x) (O1 x) w) :=
 hJ (Un hx ha hm) λ w hw=>(hc w (hw.pE hH hO hA)).mono λ _ _ ⟨x,he,hx,hs⟩=>⟨x,he,hx,by
  have:=hw.xG (hs':=hs' x) (Hc:=[]) (os':=os' x) (Oc:=Oc x) hH hO (by simpa using hs) (hl1 x) (hl2 x)
  rw[<- hH1 x,<- hF1 x,<- hO1 x]
  simpa using this⟩
end
end

/- A store of several cells into a known block. -/
end Go.Proofs.YtbajmaoegmbfgaaGreat
namespace Go.Ct
section
open Go Go.RowKit
section
variable{P:Program}{n:Nat}{ds:List Deferred}{Q:Exit->Act->World->Prop}{ks:List CK}{S:List (Nat×Value)}{G:World->Prop}{ops:Array Oper}{l:List Oper}
variable{w0:World}{M:List Nat}{H:List (Nat×Obj)}{A F:Fr}{O:List Ow}
variable{d:Nat}{ty t:TypeId}{pos:String}{af:Array Edge}{gd:Option (Nat×Bool)}{dst:Option Nat}{x y:Operand}{v:Value}{w w':World}
theorem lO{b off i:Nat}{vs bF cs:List Value}{T:TypeId}{H':List (Nat×Obj)}(hx:ev S x=.pointer (some ⟨b,off,none⟩))(ha:At H i b (.cells ⟨bF⟩ T (0,0)))(hy:ev S y=.agg ⟨vs⟩)(h1:vs.all (·.oneCell')=true)
  (ht:jT P t vs.length=true) (hl:off+vs.length<=bF.length) (hcs:bF.take off++vs++bF.drop (off+vs.length)=cs) (hH:setAt H i (.cells ⟨cs⟩ T (0,0))=H') :
  aM P S (St w0 M H) ⟨none,.store t x y,ty,pos,af,gd⟩ Unit (λ _=>undef) (λ _=>St w0 M H') :=
 xC (λ w hw=>by
  subst hH hcs
  have hb:=hw.at ha
  obtain⟨dd,hu,hm,hi⟩:=iV ht
  have hst:=run_storeCells_at (P:=P) b off T vs 0 ⟨bF⟩ w hb (by simpa using hl) (by simpa using h1)
  simp only[Nat.add_zero] at hst
  refine⟨w.setRow b ⟨bF.take off++vs++bF.drop (off+vs.length)⟩,?_,hw.write ha rfl rfl rfl (by simp) (λ k hk=>setRow_other w b k _ hk) (setRow_heap w b ⟨bF⟩ _ T (0,0) hb)⟩
  cases hq':P.info? t with
  | none=>rw[hq'] at hi;simp at hi
  | some inf =>
   have hs:inf.size=vs.length:=by rw[hq'] at hi;simpa using hi
   simp[execOp,hx,hy,Instr.storeAt,Instr.sureAddr,storeVar,sizeOf,typeInfo,hq',hs,Value.cells,hst])
end
end

/- Loads out of lists that are known. -/
section
open Go Go.RowKit
section
variable{P:Program}{S:List (Nat×Value)}{w0 w w':World}{M:List Nat}{H:List (Nat×Obj)}{A F:Fr}{O:List Ow}{d:Nat}{ty t:TypeId}{pos:String}{af:Array Edge}{gd:Option (Nat×Bool)}{x y:Operand}{v:Value}
theorem Ei{a:Option Addr}{cs vs:List Value}{q k:Nat}(hx:ev S x=.pointer (some ⟨dI a,fC a+q,none⟩))(ht:jT P t k=true)(hf:rD A F O a cs)(hv:(cs.drop q).take k=vs)(hl:vs.length=k) :
  aP P S (SF w0 M H A F O) ⟨some d,.load t x,ty,pos,af,gd⟩ (.agg ⟨vs⟩):=⟨λ w hw=>by
 have hcl:=hw.cl hf
 obtain⟨dd,hu,hm,hi⟩:=iV ht
 have hagg:(isAgg t).run P w=.ok true w:=by
  unfold isAgg
  rw[Sem.run_bind,run_underlying hu w]
  cases dd<;>simp_all
 have hc:(loadCells ⟨dI a,fC a+q,none⟩ k).run P w=.ok ⟨vs⟩ w:=by
  have:=run_loadCells_list (P:=P) w ⟨dI a,fC a+q,none⟩ vs (λ j z hz=>by
   subst hv
   have hj:=(List.getElem?_eq_some_iff.1 hz).1
   have h2:cs[q+j]?=some z:=by
    rw[List.getElem?_take_of_lt (by simp at hj;omega),List.getElem?_drop] at hz
    exact hz
   rw[Addr.add_lit,show fC a+q+j=fC a+(q+j) by omega]
   exact(hcl.at_ _ _ h2).2)
  rw[hl] at this
  simpa using this
 cases hq':P.info? t with
 | none=>rw[hq'] at hi;simp at hi
 | some i =>
  have hs:i.size=k:=by rw[hq'] at hi;simpa using hi
  simp[execOp,hx,Instr.loadAt,Instr.sureAddr,loadVar,hagg,Go.sizeOf,typeInfo,hq',hs,hc]⟩
theorem Zt{a:Option Addr}{cs:List Value}{q:Nat}{v:Value}(hx:ev S x=.pointer (some ⟨dI a,fC a+q,none⟩))(ht:one P t=true)(hf:rD A F O a cs)(hq:cs[q]?=some v) :
  aP P S (SF w0 M H A F O) ⟨some d,.load t x,ty,pos,af,gd⟩ v:=qL hx ht (λ w hw=>hw.cl hf) hq
end
end

/- The engine, part 13: function values that capture, deferred calls, and blocks that are frozen. -/
section
open Go Go.RowKit
structure KD(P:Program)(n:Nat)(ds:List Deferred)(Q:Exit->Act->World->Prop)(ks:List CK)(S:List (Nat×Value))(G:World->Prop):Prop where
 run:C5 n S->∀w,G w->runK P Q ks .normal ⟨eO n S,ds⟩ w
structure LD(P:Program)(n:Nat)(ds:List Deferred)(Q:Exit->Act->World->Prop)(ks:List CK)(ops:Array Oper)(l:List Oper)(S:List (Nat×Value))(G:World->Prop):Prop where
 run:C5 n S->∀w,G w->wpList P ops (runK P Q ks) l ⟨eO n S,ds⟩ w
section
variable{P:Program}{n:Nat}{ds:List Deferred}{Q:Exit->Act->World->Prop}{ks:List CK}{S:List (Nat×Value)}{G:World->Prop}{ops:Array Oper}{l:List Oper}
theorem dS{x y:Code}(h:KD P n ds Q (.code x::.code y::ks) S G):KD P n ds Q (.code (.seq x y)::ks) S G:=⟨λ hS w hw=>by
 have:=h.run hS w hw
 simp only[runK] at this ⊢
 rw[Iq] at this
 exact wp_seq this⟩
theorem oN(h:KD P n ds Q ks S G):KD P n ds Q (.code .skip::ks) S G:=⟨λ hS w hw=>wp_skip (h.run hS w hw)⟩
theorem yM{c:Operand}{x y:Code}{t:Bool}(ht:t=true->KD P n ds Q (.code x::ks) S G)
  (hf:t=false->KD P n ds Q (.code y::ks) S G) (hc:ev S c=.bool t:=by exact rfl):KD P n ds Q (.code (.cond c x y)::ks) S G:=⟨λ hS w hw =>
 wp_cond_split (by rw[jG hS];exact hc) (λ h=>(ht h).run hS w hw) (λ h=>(hf h).run hS w hw)⟩
theorem cE{id:Nat}{l:List Oper}(h:LD P n ds Q ks l.toArray l S G):KD P n ds Q (.code (.region id l.toArray false)::ks) S G :=
 ⟨λ hS w hw=>wp_region_lit (h.run hS w hw)⟩
theorem xL{φ:Prop}(h:φ->LD P n ds Q ks ops l S G):LD P n ds Q ks ops l S (λ w=>φ/\G w):=⟨λ hS w hw=>(h hw.1).run hS w hw.2⟩
theorem eX(h:KD P n ds Q ks S G):LD P n ds Q ks ops [] S G:=⟨h.run⟩
theorem vn(h:C5 n S->∀w,G w->Q .ret ⟨eO n S,ds⟩ w):KD P n ds Q (.code .ret::ks) S G:=⟨λ hS w hw=>wp_ret (vD (h hS w hw))⟩
theorem fH{d:Nat}{op:Op}{ty:TypeId}{pos:String}{af:Array Edge}{v:Value}(hrun:aP P S G ⟨some d,op,ty,pos,af,none⟩ v)(hd:Nat.blt d n=true)
  (h:LD P n ds Q ks ops l ((d,v)::S) G):LD P n ds Q ks ops (⟨some d,op,ty,pos,af,none⟩::l) S G:=⟨λ hS w hw =>
 wpList_plain rfl λ K hK=>by
  unfold Oper.wp
  rw[jG hS,hrun.run w hw]
  simp only[Oper.upon,Bo]
  exact hK _ _ (h.run (hS.cons hd) w hw)⟩
theorem D7{X:Type}{V:X->Value}{G':X->World->Prop}{d:Nat}{op:Op}{ty:TypeId}{pos:String}{af:Array Edge}(hrun:aM P S G ⟨some d,op,ty,pos,af,none⟩ X V G')(hd:Nat.blt d n=true)
  (h:∀x,LD P n ds Q ks ops l ((d,V x)::S) (G' x)):LD P n ds Q ks ops (⟨some d,op,ty,pos,af,none⟩::l) S G:=⟨λ hS w hw =>
 wpList_plain rfl λ K hK=>by
  unfold Oper.wp
  rw[jG hS]
  refine(hrun.run w hw).upon λ x w' hg=>?_
  rw[Bo]
  exact hK _ _ ((h x).run (hS.cons hd) w' hg)⟩
theorem O9{X:Type}{V:X->Value}{G':X->World->Prop}{op:Op}{ty:TypeId}{pos:String}{af:Array Edge}(hrun:aM P S G ⟨none,op,ty,pos,af,none⟩ X V G')
  (h:∀x,LD P n ds Q ks ops l S (G' x)):LD P n ds Q ks ops (⟨none,op,ty,pos,af,none⟩::l) S G:=⟨λ hS w hw =>
 wpList_plain rfl λ K hK=>by
  unfold Oper.wp
  rw[jG hS]
  exact(hrun.run w hw).upon λ x w' hg=>hK _ _ ((h x).run hS w' hg)⟩
theorem Qf{n:Nat}{S:List (Nat×Value)}{ops:Array Oper}{j g:Nat}{t:Bool}(hS:C5 n S)(hj:(ops[j]?).bind (·.dst)=some g)(hg:look S g=.bool t):yielded ops (eO n S) j=some t:=by
 have e:=congrFun (jG (ds:=[]) hS) (.tmp g)
 simp only[Act.eval,ev,hg] at e
 unfold yielded
 rw[hj]
 simp only[Option.bind_some]
 rw[Array.getD_eq_getD_getElem?] at e
 cases h2:(eO n S)[g]? with
 | none=>rw[h2] at e;simp[undef] at e
 | some u=>rw[h2] at e;simp at e;subst e;rfl
theorem Vq{d:Nat}{op:Op}{ty:TypeId}{pos:String}{af:Array Edge}{j:Nat}{want:Bool}{g:Nat}
  (hj:(ops[j]?).bind (·.dst)=some g) (hg:look S g=.bool want)
  (h:LD P n ds Q ks ops (⟨some d,op,ty,pos,af,none⟩::l) S G):LD P n ds Q ks ops (⟨some d,op,ty,pos,af,some (j,want)⟩::l) S G:=⟨λ hS w hw=>by
 have hy:=Qf hS hj hg
 have:=h.run hS w hw
 unfold wpList at this ⊢
 rw[if_pos (by simp[Region.wanted])] at this
 rw[if_pos (by simp[Region.wanted,hy])]
 exact this⟩
theorem Ez{x:Operand}{f:FuncId}{cap:Array Value}{ty:TypeId}{pos:String}{af:Array Edge}(hx:ev S x=.func (.func f) #[] cap)
  (h:LD P n (⟨.fn (.func f) cap,#[]⟩::ds) Q ks ops l S G):LD P n ds Q ks ops (⟨none,.defer {callee:=.value x,args:=⟨[]⟩,argTypes:=⟨[]⟩},ty,pos,af,none⟩::l) S G:=⟨λ hS w hw =>
 wpList_plain rfl λ K hK=>by
  unfold Oper.wp
  rw[jG hS]
  have hr:(execOp (ev S) ⟨none,.defer {callee:=.value x,args:=⟨[]⟩,argTypes:=⟨[]⟩},ty,pos,af,none⟩).run P w=.ok (.defer ⟨.fn (.func f) cap,#[]⟩) w:=by
   simp[execOp,resolve,hx,Deferred.ofValue]
  rw[hr]
  exact hK _ _ (h.run hS w hw)⟩
theorem Rz{P:Program}{f:FuncId}{fn:Func}{c:Code}{args:Array Value}{w:World}{R:Ending->World->Prop}{n:Nat}{G:World->Prop}
  (hf:P.funcs[f]?=some fn) (hn:fn.ntmps=n) (hb:fn.body=some c) (hlen:Nat.ble args.size n=true) (hG:G w)
  (h:KD P n [] (bodyPostD P fn R) [.code c] (cN 0 args.toList) G):Calls P f args w R:=by
 subst hn
 have hl:args.size<=fn.ntmps:=Nat.le_of_ble_eq_true hlen
 refine calls_of_wp_defers hf hb ?_
 rw[N5 _ _ hl]
 exact h.run (Ly _ _ _ (by simpa using hl)) w hG
def Idle(P:Program)(g:FuncId)(cap:Array Value):Prop:=∀w,CallsD P g cap .returning w λ e u' w'=>e=.returned (.tuple #[])/\u'=.returning/\w'=w
variable{w0:World}{M:List Nat}{H:List (Nat×Obj)}{A F:Fr}{O:List Ow}
theorem mB{fn:Func}{R:Ending->World->Prop}{rs:List ResultVar}{vs:List Value}{g:FuncId}{cap:Array Value}(hi:Idle P g cap)(hp:plain P g=true)(hr:fn.results=⟨rs⟩)(hv:kG P S H rs vs)(h:∀w,SF w0 M H A F O w->R (.returned (qP vs)) w) :
  KD P n [⟨.fn (.func g) cap,#[]⟩] (bodyPostD P fn R) (.code .ret::ks) S (SF w0 M H A F O) :=
 vn λ hS w hw=>by
  refine leaves_cons (f:=g) (args:=cap) (by simp) (by simp[invoke,tA hp]) ?_
  refine(hi w).mono ?_
  rintro e u' w' ⟨rfl,rfl,rfl⟩
  exact⟨_,Kd hS hw.st hr hv,h _ hw⟩
variable{d:Nat}{ty t:TypeId}{pos:String}{af:Array Edge}{gd:Option (Nat×Bool)}{dst:Option Nat}{x y:Operand}{v:Value}{w w':World}
theorem cI{fn:Fn}{cap:List Operand}{vs:List Value}(hc:qV S cap=vs):aP P S G ⟨some d,.makeFunc fn ⟨[]⟩ ⟨cap⟩,ty,pos,af,gd⟩ (.func fn #[] ⟨vs⟩):=⟨λ w _=>by
 subst hc
 have hm:(cap.map (ev S)).toArray=⟨qV S cap⟩:=by rw[Ds]
 simp only[execOp,List.map_toArray,List.map_nil,hm]
 rfl⟩
theorem wU{fn:Fn}{a b:Array Value}{t':TypeId}(hx:ev S x=.func fn a b)(hy:ev S y=.nilFunc)(h:∀w,(binOp .eql t (.func fn a b) .nilFunc).run P w=.ok (.bool false) w):aP P S G ⟨some d,.binOp .eql t x y t',ty,pos,af,gd⟩ (.bool false):=⟨λ w _=>by
 simp[execOp,hx,hy,h w,eqGuard]⟩
theorem D6{pv:Value}{t2 t':TypeId}(hx:ev S x=.iface t2 pv)(hy:ev S y=.nilIface)(h:∀w,(binOp .neq t (.iface t2 pv) .nilIface).run P w=.ok (.bool true) w):aP P S G ⟨some d,.binOp .neq t x y t',ty,pos,af,gd⟩ (.bool true):=⟨λ w _=>by
 simp[execOp,hx,hy,h w,eqGuard]⟩
theorem j3{f:FuncId}{cap:List Value}{os:List Operand}{at_:Array TypeId}{vs:List Value}(hx:ev S x=.func (.func f) #[] ⟨cap⟩)(hp:plain P f=true)(ha:qV S os=vs)(w:World) :
  (execOp (ev S) ⟨dst,.call {callee:=.value x,args:=⟨os⟩,argTypes:=at_},ty,pos,af,gd⟩).run P w=.ok (.enter f ⟨vs++cap⟩) w:=by
 subst ha
 have hm:(os.map (ev S)).toArray=⟨qV S os⟩:=by rw[Ds]
 simp[execOp,resolve,hx,Deferred.ofValue,invoke,tA hp,hm]
theorem Nf{α:Type}:∀(l:List α) (i:Nat),(qE l i).Sublist l
 | [],_=>List.Sublist.refl _
 | _::_,0=>List.sublist_cons_self ..
 | _::r,i+1=>(Nf r i).cons_cons _
theorem At.perm{H:List (Nat×Obj)}{i b:Nat}{o:Obj}(h:At H i b o):H.Perm ((b,o)::qE H i):=by
 induction h with
 | head=>exact List.Perm.refl _
 | tail _ ih=>exact(ih.cons _).trans (List.Perm.swap _ _ _)
theorem SF.dB(h:SF w0 M H A F O w){i b:Nat}{cs:List Value}{T:TypeId}(ha:At H i b (.cells ⟨cs⟩ T (0,0))):SF w0 M (qE H i) A ((some ⟨b,0,none⟩,cs)::F) O w:=by
 have hp:=h.perm ha.perm.symm (List.Perm.refl _)
 have hs:(Ks (qE H i) O).Sublist (Ks ((b,.cells ⟨cs⟩ T (0,0))::qE H i) O):=by
  unfold Ks
  exact((List.sublist_cons_self ..).map _).append (List.Sublist.refl _)
 have hd:=hp.dis
 have hb:b∉Ks (qE H i) O:=by
  unfold Ks at hd ⊢
  simp only[List.map_cons,List.cons_append,List.nodup_cons] at hd
  exact hd.1
 refine⟨h.st.sub (Nf H i),λ f hf=>⟨(hp.bF f hf).1,λ hc hm=>(hp.bF f hf).2 hc (hs.subset hm)⟩,λ f hf=>?_,h.own,hp.dis.sublist hs⟩
 rcases List.mem_cons.1 hf with rfl|hf
 ·refine⟨Cl.block (pre:=[]) (rest:=[]) (T:=T) (fr:=(0,0)) (by simpa using h.st.at ha) rfl,λ _=>⟨hb,?_⟩⟩
  exact(h.st.new _ ha.mem).symm
 ·exact⟨(h.new f hf).1,λ hc=>⟨λ hm=>((hp.new f hf).2 hc).1 (hs.subset hm),((h.new f hf).2 hc).2⟩⟩
end
end

end Go.Ct

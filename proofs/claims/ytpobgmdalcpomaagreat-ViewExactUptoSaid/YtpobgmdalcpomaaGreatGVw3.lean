/- Views: the I-nodes of a trie are visited. -/
import Derived.Test.YtpobgmdalcpomaaGreatGRs0
import Derived.Test.YtpobgmdalcpomaaGreatGNode2

set_option linter.unusedSimpArgs false
set_option linter.unusedVariables false
namespace Go.Ct
section
open Go Go.RowKit
def Ov(n:Nat)(vs:List Bool)(l:List Int):Prop:=vs.length=n/\(∀k,k<n->(vs.getD k false=true↔((k+1:Nat):Int)∈l))/\l.length+vs.count false=n
theorem Ov.zero(n:Nat):Ov n (List.replicate n false) []:=⟨by simp,λ k hk=>by simp[gdg,hk],by simp⟩
theorem count_set:∀(vs:List Bool) (k:Nat),k<vs.length->vs.getD k false=false->(vs.set k true).count false+1=vs.count false
 | [],_,h,_=>by simp at h
 | b::vs,0,_,h=>by
  have e:b=false:=by simpa using h
  subst e
  simp
 | b::vs,k+1,h,h2=>by
  have:=count_set vs k (by simpa using h) (by simpa using h2)
  rw[List.set_cons_succ,List.count_cons,List.count_cons]
  omega
theorem Ov.set{n k:Nat}{vs:List Bool}{l:List Int}(h:Ov n vs l)(hk:k<n)(hf:vs.getD k false=false):Ov n (vs.set k true) (l++[((k+1:Nat):Int)]):=by
 have h1:=h.1
 refine⟨by simp[h.1],λ j hj=>?_,?_⟩
 ·have h2:=h.2.1 j hj
  rw[gdg] at h2
  rw[gdg,List.getElem?_set]
  by_cases e:k=j
  ·subst e
   simp[show k<vs.length by omega]
  ·rw[if_neg e,h2]
   simp only[List.mem_append,List.mem_singleton]
   constructor
   ·exact .inl
   ·rintro (h3|h3)
    ·exact h3
    ·omega
 ·have:=count_set vs k (by omega) hf
  have:=h.2.2
  simp only[List.length_append,List.length_cons,List.length_nil]
  omega
theorem Ov.len{n:Nat}{vs:List Bool}{l:List Int}(h:Ov n vs l):l.length<=n:=by have:=h.2.2;omega
structure VQ where
 l:List Int
 vs:List Bool
 p:Option Addr
 c:Nat
def ik(o:Option (List Int))(b:Bool)(q:VQ):Prop:=match o with|some l=>b=true/\q.l=l|none=>b=false
theorem T5{N:List Nv}{f:Int->List Int->Option (List Int)}{xs l l2:List Int}{k:Nat}(hk:k<xs.length)(h:kE N f (xs.take k) l=some l2):kE N f xs l=kE N f (xs.getD k 0::xs.drop (k+1)) l2:=by
 have e:xs=xs.take k++(xs.getD k 0::xs.drop (k+1)):=by
  rw[gdg,List.getElem?_eq_getElem hk,Option.getD_some,<- List.drop_eq_getElem_cons hk,List.take_append_drop]
 rw[e,zK,<- e,h]
 rfl
theorem vZ{N:List Nv}{f:Int->List Int->Option (List Int)}{xs l l2 l3:List Int}{k:Nat}(hk:k<xs.length)(h:kE N f (xs.take k) l=some l2)(h2:kE N f [xs.getD k 0] l2=some l3):kE N f (xs.take (k+1)) l=some l3:=by
 rw[List.take_add_one,List.getElem?_eq_getElem hk,zK,h]
 rw[gdg,List.getElem?_eq_getElem hk] at h2
 exact h2
theorem Xb{N:List Nv}{f:Int->List Int->Option (List Int)}{b:Int}{l:List Int}(h:(cG N b).kind=4):kE N f [b] l=some l:=by simp[kE,h]
theorem Yk{N:List Nv}{f:Int->List Int->Option (List Int)}{b:Int}{l l2:List Int}(h:(cG N b).kind=2)(hf:f b l=some l2):kE N f [b] l=some l2:=by simp[kE,h,hf]
theorem ia{N:List Nv}{f:Int->List Int->Option (List Int)}{b:Int}{r l:List Int}(h:(cG N b).kind≠4)(h2:(cG N b).kind≠2):kE N f (b::r) l=none:=by simp[kE,h,h2]
theorem tj{N:List Nv}{f:Int->List Int->Option (List Int)}{b:Int}{r l:List Int}(h:(cG N b).kind=2)(hf:f b l=none):kE N f (b::r) l=none:=by simp[kE,h,hf]
theorem Au{N:List Nv}{r:Int}(h:cK (cG N r)):1<=r/\r<=N.length:=eS (by unfold cK at h;omega)
theorem Ko{L:List aQ}{r:Int}(h:1<=r/\r<=L.length):((aD L r).nd.brA,aJ (aD L r).xs)∈bG L:=by
 unfold aD
 rw[if_pos h]
 exact Kd (by omega)
theorem Tu{L:List aQ}{r:Int}(h:1<=r/\r<=L.length):((aD L r).nd.prA,dI (aD L r).ys)∈bG L:=by
 unfold aD
 rw[if_pos h]
 exact Iw (by omega)
theorem jX(L:List aQ)(r:Int):(cG (L.map aQ.c) r).xs=(aD L r).xs:=by rw[bD];rfl
theorem aa{N:List Nv}{cs:List Int}{i:Int}{l:List Int}(h:i∈l):∀{n:Nat},zY N cs n i l=none
 | 0=>rfl
 | n+1=>by unfold zY;rw[if_pos h]
theorem Yz{N:List Nv}{cs:List Int}{i:Int}{l:List Int}{n:Nat}(h:¬i∈l)(h2:(eR N cs i).isSome=false):zY N cs (n+1) i l=none:=by
 unfold zY
 rw[if_neg h]
 cases hb:eR N cs i with
 | none=>rfl
 | some m=>rw[hb] at h2;cases h2
theorem Fv{N:List Nv}{cs:List Int}{i m:Int}{l:List Int}{n:Nat}(h:¬i∈l)(h2:eR N cs i=some m):zY N cs (n+1) i l=kE N (zY N cs n) (cG N m).xs (l++[i]):=by
 unfold zY
 rw[if_neg h,h2]
 rfl
end
end Go.Ct
namespace Go.Proofs.YtpobgmdalcpomaaGreat
section
open Go Go.RowKit Go.Ct
section
variable{L:List aQ}{cs:List Int}{gen:Int}{pn pc:Option Addr}{cn cc:Nat}{w:World}
theorem I4(h:fV w L cs pn pc)(hb:V9 L cs)(hl:L.length<=274877906944)(hc:cs.length<=274877906944)(c:Int)(ro:Bool)(hi:c<=9223372036854775807):Calls Tryz.prog 47 #[kJ L cs gen pn cn pc cc,.agg ⟨[.int .i64 c,.bool ro]⟩] w λ e w'=>e=.returned (.tuple #[.int .i64 ((fU (L.map aQ.c) cs c).getD 0),.bool (fU (L.map aQ.c) cs c).isSome])/\St w [] [] w':=by
 refine enter Tryz.func47 Tryz.ntmps47 rfl rfl h.start ?_
 simp only[dB]
 simp only[kJ]
 all_goals (refine J0 ?_;refine bM (λ x2=>?_);refine bM (λ x3=>?_);refine J8 ?_;refine iU ?_;refine J3 ?_;(refine aF (cV (hc:=λ w1 hw=>Cz (h.kC hw) c hi hc)) (λ x11=>?_);try (refine aB (λ h11=>?_)));refine iI ?_;refine rK ?_;(refine aF (cV (hc:=λ w1 hw=>oH (h.kC hw) (bY cs c) (hb.cs _) hl)) (λ x14=>?_);try (refine aB (λ h14=>?_)));refine aY (λ x7=>?_);refine J5 ?_;refine gR ?_;refine tE ?_)
 all_goals
 refine bF (λ c17=>?_) (λ c17=>?_)
 ·try exact nv c17
  all_goals (refine gR ?_;refine J1 ?_;refine iU ?_;refine J3 ?_;(refine aF (cV (hc:=λ w1 hw=>Cz (h.kC hw) (aD L (bY cs c)).nd.status (hb.status _) hc)) (λ x23=>?_);try (refine aB (λ h23=>?_)));refine tE ?_)
  all_goals
   refine bF (λ c24=>?_) (λ c24=>?_)
   ·try exact nv c24
    all_goals (refine dD ?_;refine J3 ?_;refine iI ?_;refine rK ?_;(refine aF (cV (hc:=λ w1 hw=>oH (h.kC hw) _ (by first|exact hb.cs _|exact hb.cE _|exact hb.new _) hl)) (λ x29=>?_);try (refine aB (λ h29=>?_)));refine cP ?_;refine lY ?_;refine aN ?_)
    all_goals
    refine bF (λ c31=>?_) (λ c31=>?_)
    ·try exact nv c31
     all_goals refine qE ?_
     all_goals
      refine bH Tryz.results47 (λ w hw=>?_)
      refine⟨?_,hw.done⟩
      unfold fU oB
      simp only[bD,cK,aQ.c,Nd.c]
      simp_all
      all_goals rfl
    ·try exact nv c31
     all_goals (refine aZ ?_;refine J2 ?_;refine J8 ?_)
     all_goals
      refine bH Tryz.results47 (λ w hw=>?_)
      refine⟨?_,hw.done⟩
      unfold fU oB
      simp only[bD,cK,aQ.c,Nd.c]
      simp_all
      all_goals rfl
   ·try exact nv c24
    all_goals (refine iW ?_;refine rK ?_;(refine aF (cV (hc:=λ w1 hw=>oH (h.kC hw) _ (by first|exact hb.cs _|exact hb.cE _|exact hb.new _) hl)) (λ x29=>?_);try (refine aB (λ h29=>?_)));refine cP ?_;refine lY ?_;refine aN ?_)
    all_goals
    refine bF (λ c31=>?_) (λ c31=>?_)
    ·try exact nv c31
     all_goals refine qE ?_
     all_goals
      refine bH Tryz.results47 (λ w hw=>?_)
      refine⟨?_,hw.done⟩
      unfold fU oB
      simp only[bD,cK,aQ.c,Nd.c]
      simp_all
      all_goals rfl
    ·try exact nv c31
     all_goals (refine aZ ?_;refine J2 ?_;refine J8 ?_)
     all_goals
      refine bH Tryz.results47 (λ w hw=>?_)
      refine⟨?_,hw.done⟩
      unfold fU oB
      simp only[bD,cK,aQ.c,Nd.c]
      simp_all
      all_goals rfl
 ·try exact nv c17
  all_goals (refine iW ?_;refine rK ?_;(refine aF (cV (hc:=λ w1 hw=>oH (h.kC hw) _ (by first|exact hb.cs _|exact hb.cE _|exact hb.new _) hl)) (λ x29=>?_);try (refine aB (λ h29=>?_)));refine cP ?_;refine lY ?_;refine aN ?_)
  all_goals
   refine bF (λ c31=>?_) (λ c31=>?_)
   ·try exact nv c31
    all_goals refine qE ?_
    all_goals
    refine bH Tryz.results47 (λ w hw=>?_)
    refine⟨?_,hw.done⟩
    unfold fU oB
    simp only[bD,cK,aQ.c,Nd.c]
    simp_all
    all_goals rfl
   ·try exact nv c31
    all_goals (refine aZ ?_;refine J2 ?_;refine J8 ?_)
    all_goals
    refine bH Tryz.results47 (λ w hw=>?_)
    refine⟨?_,hw.done⟩
    unfold fU oB
    simp only[bD,cK,aQ.c,Nd.c]
    simp_all
    all_goals rfl
abbrev nu(L:List aQ)(cs:List Int)(gen:Int)(pn:Option Addr)(cn:Nat)(pc:Option Addr)(cc:Nat)(pv:Nat)(q:VQ)(pp:Option Addr)(ps:List Pr)(cp:Nat):Obj:=.cells ⟨[.slice pn L.length cn,.slice pc cs.length cc,.int .i64 gen,.slice (some ⟨pv,0,none⟩) L.length L.length,.slice q.p q.l.length q.c,.slice pp ps.length cp]⟩ 93 (0,0)
abbrev ng(L:List aQ)(pv:Nat)(q:VQ):List Ow:=[⟨some ⟨pv,0,none⟩,iR q.vs,L.length,4,1⟩,⟨q.p,aJ q.l,q.c,52,1⟩]
theorem ot{w0:World}{D:List Nat}{b pv:Nat}{q:VQ}{pp:Option Addr}{ps:List Pr}{cp:Nat}{A F:Fr}(h:SF w0 D [(b,nu L cs gen pn cn pc cc pv q pp ps cp)] A F (ng L pv q) w) :
  SF w0 D [(b,.cells ⟨[.slice pn L.length cn,.slice pc cs.length cc,.int .i64 gen,.slice (some ⟨pv,0,none⟩) L.length L.length,.slice q.p q.l.length q.c,.slice pp ps.length cp]⟩ 93 (0,0))] A F [⟨some ⟨pv,0,none⟩,iR q.vs,L.length,4,1⟩,⟨q.p,aJ q.l,q.c,52,1⟩] w:=h
def qt(L:List aQ)(cs:List Int)(gen:Int)(pn:Option Addr)(cn:Nat)(pc:Option Addr)(cc:Nat)(b pv:Nat)(pp:Option Addr)(ps:List Pr)(cp:Nat)(n:Nat):Prop:=∀(lvl:Nat),lvl+n=12->∀(k:Nat) (q:VQ) (D:List Nat) (w:World),k<L.length->Ov L.length q.vs q.l->SF w D [(b,nu L cs gen pn cn pc cc pv q pp ps cp)] ((pn,iD L)::(pc,aJ cs)::bG L) [] (ng L pv q) w ->
  Calls Tryz.prog 53 #[.pointer (some ⟨b,0,none⟩),.int .i64 ((k+1:Nat):Int),.int .i64 ((lvl:Nat):Int)] w λ e w'=>∃x:Bool×VQ,e=.returned (.bool x.1)/\(ik (zY (L.map aQ.c) cs n ((k+1:Nat):Int) q.l) x.1 x.2/\Ov L.length x.2.vs x.2.l)/\SF w D [(b,nu L cs gen pn cn pc cc pv x.2 pp ps cp)] [] [] (ng L pv x.2) w'
theorem N3(h0:Fits L)(hb:V9 L cs)(hl:L.length<=274877906944)(hc:cs.length<=274877906944)(b pv:Nat)(pp:Option Addr)(ps:List Pr)(cp:Nat)(n:Nat)(ih:∀m,n=m+1->qt L cs gen pn cn pc cc b pv pp ps cp m):qt L cs gen pn cn pc cc b pv pp ps cp n:=by
  intro lvl hn k q D w hk hv hs
  have hvl:=hv.1
  have hvn:=hv.len
  refine enter Tryz.func53 Tryz.ntmps53 rfl rfl (ot hs) ?_
  simp only[dB]
  all_goals (refine dH ?_;refine jS ?_;refine xG ?_;refine aA ?_)
  all_goals (first|refine aG ?_|(refine aC ?_;refine aA ?_)|(refine dG 13 (λ g13=>?_) (λ g13=>?_)<;>(try (first|(exact absurd (by assumption) (by decide:¬(true=false)))|(exfalso;omega)))<;>(first|refine aG ?_|(refine aC ?_;refine aA ?_))))
  all_goals ((first|refine aG ?_|(refine aC ?_;refine eF ?_));refine J6 ?_;refine zt ?_;(first|refine aG ?_|(refine aC ?_;refine aH (kT (k:=k) rf rf fG bU fin (by omega) (by omega)) rfl ?_));(first|refine aG ?_|(refine aC ?_;refine aH (vS (q:=k) rf bU fin (by omega)) rfl ?_));refine cH ?_;refine aN ?_)
  all_goals
   refine bF (λ c22=>?_) (λ c22=>?_)
   · try exact nv c22
     all_goals try (first|(exact absurd (by assumption) (by decide:¬(true=false)))|(exfalso;omega))
     all_goals refine dH ?_
     all_goals
      refine aR Tryz.results53 (λ w hw=>?_)
      first
       | exact⟨(false,q),rfl,⟨by rw[aa ((hv.2.1 k hk).1 (by assumption))];exact rfl,hv⟩,hw.aV⟩
       | exact⟨(false,q),rfl,⟨by rw[show n=0 by omega];exact rfl,hv⟩,hw.aV⟩
   · try exact nv c22
     all_goals try (first|(exact absurd (by assumption) (by decide:¬(true=false)))|(exfalso;omega))
     all_goals
      obtain⟨m,rfl⟩:∃m,n=m+1:=⟨n-1,by omega⟩
      have hnot:¬(((k+1:Nat):Int)∈q.l):=λ hm=>by have:=(hv.2.1 k hk).2 hm;simp_all
      have hv2:=hv.set hk (by simp_all)
     all_goals (refine Rt ?_;refine aA ?_;refine kN ?_;refine aH (kT (k:=k) rf rf fG bU fin (by omega) (by omega)) rfl ?_;refine J5 ?_;refine jE ?_;refine eF ?_;refine J3 ?_;refine aA ?_;refine fA (λ x36=>?_);(refine dM (λ x37=>?_);try (refine aB (λ h37=>?_)));refine Lj ?_;refine wV ?_;refine aH (aM (k:=3) rf cQ dS (by simp only[List.drop_zero,List.take_succ_cons,List.take_zero];exact rfl) rfl) rfl ?_;refine aA ?_;(refine aF (cV (hc:=λ w1 hw=>Js (hw.rE (.inr (.inl (.head _))) (.inr (.inl (.tail _ (.head _)))) (λ f hf=>.inr (.inl (.tail _ (.tail _ hf)))) h0) hb hl hc ((k+1:Nat):Int) (by omega))) (λ x46=>?_);try (refine aB (λ h46=>?_)));refine pZ ?_;refine J8 ?_;refine jS ?_;refine kD ?_)
     all_goals
      refine bF (λ c50=>?_) (λ c50=>?_)
      · try exact nv c50
        all_goals try (first|(exact absurd (by assumption) (by decide:¬(true=false)))|(exfalso;omega))
        all_goals refine dH ?_
        all_goals
         refine aR Tryz.results53 (λ w hw=>?_)
         rw[show q.l.length+1=(q.l++[((k+1:Nat):Int)]).length by simp] at hw
         exact⟨(false,⟨q.l++[((k+1:Nat):Int)],q.vs.set k true,x37.1,x37.2⟩),rfl,⟨by rw[Yz hnot (by simpa using c50)];exact rfl,hv2⟩,hw.aV⟩
      · try exact nv c50
        all_goals try (first|(exact absurd (by assumption) (by decide:¬(true=false)))|(exfalso;omega))
        all_goals
         obtain⟨r,hr⟩:=Option.isSome_iff_exists.1 (show(eR (L.map aQ.c) cs ((k+1:Nat):Int)).isSome=true by simpa using c50)
         rw[hr,Option.getD_some]
         have hfr:=Aq h0 r
         have hri:=Au (rD hr).2
         rw[List.length_map] at hri
         have hrr:r<=9223372036854775807:=by omega
         have hbn:=hfr.brN
         have hbs:=hfr.brS
         have hfm:=Ko hri
         have hbr:=hb.br r
        all_goals (refine iW ?_;refine wV ?_;refine aH (aM (k:=3) rf cQ dS (by simp only[List.drop_zero,List.take_succ_cons,List.take_zero];exact rfl) rfl) rfl ?_;refine aA ?_;(refine aF (cV (hc:=λ w1 hw=>oH (hw.rE (.inr (.inl (.head _))) (.inr (.inl (.tail _ (.head _)))) (λ f hf=>.inr (.inl (.tail _ (.tail _ hf)))) h0) _ (by omega) hl)) (λ x56=>?_);try (refine aB (λ h56=>?_)));refine cP ?_;refine dW ?_;refine uM ?_;refine cZ ?_)
        all_goals
         refine lO [6,10,59,60,61,62,63,64,65,66,67,68,69,70,71,72,73,74,75,76,77,78,79,80] (λ y:Nat×VQ=>[(59,.int .i64 ((y.1:Nat):Int))]) (λ y=>y.1<=(aD L r).xs.length/\kE (L.map aQ.c) (zY (L.map aQ.c) cs m) ((aD L r).xs.take y.1) (q.l++[((k+1:Nat):Int)])=some y.2.l/\Ov L.length y.2.vs y.2.l) (λ y=>[(b,nu L cs gen pn cn pc cc pv y.2 pp ps cp)]) (λ _=>_) (λ y=>ng L pv y.2) (λ y=>(aD L r).xs.length-y.1) ((0,⟨q.l++[((k+1:Nat):Int)],q.vs.set k true,x37.1,x37.2⟩)) (⟨Nat.zero_le _,rfl,hv2⟩) (λ y f hx=>?_) (hw0:=λ w hw=>by rw[show q.l.length+1=(q.l++[((k+1:Nat):Int)]).length by simp] at hw;exact hw.back)
         dsimp only[gW,List.map,List.cons_append,List.nil_append]
         have hyn:=hx.2.2.len
         have hyl:=hx.2.2.1
         all_goals (refine J0 ?_;refine uQ ?_;refine aT ?_)
         all_goals
          refine bF (λ c60=>?_) (λ c60=>?_)
          · try exact nv c60
            all_goals try (first|(exact absurd (by assumption) (by decide:¬(true=false)))|(exfalso;omega))
            all_goals
             have hbk:(aD L r).xs.getD y.1 0<=9223372036854775807:=hbr _ (by rw[gdg,List.getElem?_eq_getElem (by omega)];exact List.getElem_mem _)
            all_goals (refine oD ?_;refine J0 ?_;refine aH (bW (k:=y.1) rf rf fG bU (.cE (.tail (.tail (tD.jB hfm)))) (by omega) (by omega)) rfl ?_;refine aH (cJ (q:=y.1) rf bU (.cE (.tail (.tail (tD.jB hfm)))) (by omega)) rfl ?_;refine J1 ?_;refine wV ?_;refine aH (aM (k:=3) rf cQ dS (by simp only[List.drop_zero,List.take_succ_cons,List.take_zero];exact rfl) rfl) rfl ?_;refine aA ?_;(refine aF (cV (hc:=λ w1 hw=>oH (hw.rE (.inr (.inl (.head _))) (.inr (.inl (.tail _ (.head _)))) (λ f hf=>.inr (.inl (.tail _ (.tail _ hf)))) h0) _ (by omega) hl)) (λ x68=>?_);try (refine aB (λ h68=>?_)));refine cP ?_;refine aN ?_;refine cZ ?_;refine kK ?_)
            all_goals
             refine bF (λ c70=>?_) (λ c70=>?_)
             · try exact nv c70
               all_goals try (first|(exact absurd (by assumption) (by decide:¬(true=false)))|(exfalso;omega))
               all_goals (refine mN ?_;refine eV ?_;refine Ld ?_;refine uM ?_)
               all_goals
                refine gY ((by first|exact(y.1+1,x78.2)|exact(y.1+1,y.2))) ?_
                · first
                   | exact⟨by omega,vZ (by omega) hx.2.1 (by rw[hj.1];exact Yk hkd hvq),h78.2⟩
                   | exact⟨by omega,vZ (by omega) hx.2.1 (Xb (by rw[bD];exact c70)),hx.2.2⟩
             · try exact nv c70
               all_goals try (first|(exact absurd (by assumption) (by decide:¬(true=false)))|(exfalso;omega))
               all_goals refine kK ?_
               all_goals
                refine bF (λ c72=>?_) (λ c72=>?_)
                · try exact nv c72
                  all_goals try (first|(exact absurd (by assumption) (by decide:¬(true=false)))|(exfalso;omega))
                  all_goals
                   obtain⟨j,hj⟩:∃j:Nat,(aD L r).xs.getD y.1 0=((j+1:Nat):Int)/\j<L.length:=by
                    have:=eS (N:=L.map aQ.c) (i:=(aD L r).xs.getD y.1 0) (by rw[bD];show(aD L ((aD L r).xs.getD y.1 0)).nd.kind≠0;omega)
                    rw[List.length_map] at this
                    exact⟨((aD L r).xs.getD y.1 0-1).toNat,by omega,by omega⟩
                   have hkd:(cG (L.map aQ.c) ((aD L r).xs.getD y.1 0)).kind=2:=by rw[bD];exact c72
                   rw[hj.1] at hkd ⊢
                  all_goals (refine jE ?_;refine aA ?_;refine rB ?_;(refine aF (cM (hs:=[(b,nu L cs gen pn cn pc cc pv y.2 pp ps cp)]) (os:=ng L pv y.2) (hc:=λ w1 hs=>ih m rfl (lvl+1) (by omega) j y.2 _ w1 hj.2 hx.2.2 hs)) (λ x78=>?_);try (refine aB (λ h78=>?_)));refine kD ?_)
                  all_goals
                   refine bF (λ c79=>?_) (λ c79=>?_)
                   · try exact nv c79
                     all_goals try (first|(exact absurd (by assumption) (by decide:¬(true=false)))|(exfalso;omega))
                     all_goals refine dH ?_
                     all_goals
                      refine aR Tryz.results53 (λ w hw=>?_)
                      have hvq:zY (L.map aQ.c) cs m ((j+1:Nat):Int) y.2.l=none:=by
                       have h1:=h78.1
                       unfold ik at h1
                       split at h1
                       · exfalso;simp_all
                       · assumption
                      exact⟨(false,x78.2),rfl,⟨by rw[Fv hnot hr,jX,T5 (by omega) hx.2.1,hj.1,tj hkd hvq];exact rfl,h78.2⟩,hw.aV⟩
                   · try exact nv c79
                     all_goals try (first|(exact absurd (by assumption) (by decide:¬(true=false)))|(exfalso;omega))
                     all_goals
                      have hvq:zY (L.map aQ.c) cs m ((j+1:Nat):Int) y.2.l=some x78.2.l:=by
                       have h1:=h78.1
                       unfold ik at h1
                       split at h1
                       · rename_i l e
                         rw[e,h1.2]
                       · exfalso;simp_all
                     all_goals (refine mN ?_;refine eV ?_;refine Ld ?_;refine uM ?_)
                     all_goals
                      refine gY ((by first|exact(y.1+1,x78.2)|exact(y.1+1,y.2))) ?_
                      · first
                         | exact⟨by omega,vZ (by omega) hx.2.1 (by rw[hj.1];exact Yk hkd hvq),h78.2⟩
                         | exact⟨by omega,vZ (by omega) hx.2.1 (Xb (by rw[bD];exact c70)),hx.2.2⟩
                · try exact nv c72
                  all_goals try (first|(exact absurd (by assumption) (by decide:¬(true=false)))|(exfalso;omega))
                  all_goals refine dH ?_
                  all_goals
                   refine aR Tryz.results53 (λ w hw=>?_)
                   exact⟨(false,y.2),rfl,⟨by rw[Fv hnot hr,jX,T5 (by omega) hx.2.1,ia (by rw[bD];exact c70) (by rw[bD];exact c72)];exact rfl,hx.2.2⟩,hw.aV⟩
          · try exact nv c60
            all_goals try (first|(exact absurd (by assumption) (by decide:¬(true=false)))|(exfalso;omega))
            all_goals (refine bQ rfl ?_;refine dH ?_)
            all_goals
             refine aR Tryz.results53 (λ w hw=>?_)
             refine⟨(true,y.2),rfl,⟨?_,hx.2.2⟩,hw.aV⟩
             have e2:=hx.2.1
             rw[List.take_of_length_le (by omega)] at e2
             rw[Fv hnot hr,jX,e2]
             exact⟨rfl,rfl⟩
theorem Kh(h0:Fits L)(hb:V9 L cs)(hl:L.length<=274877906944)(hc:cs.length<=274877906944)(b pv:Nat)(pp:Option Addr)(ps:List Pr)(cp:Nat):∀n,qt L cs gen pn cn pc cc b pv pp ps cp n
 | 0=>N3 h0 hb hl hc b pv pp ps cp 0 λ m e=>nomatch e
 | n+1=>N3 h0 hb hl hc b pv pp ps cp (n+1) λ m e=>by cases e;exact Kh h0 hb hl hc b pv pp ps cp n
end
end

/- The reference of views: a node, a cell, the root, the main node of an I-node. -/
section
open Go Go.RowKit Go.Ct
section
variable{L:List aQ}{cs:List Int}{gen:Int}{pn pc:Option Addr}{cn cc:Nat}{w:World}
theorem qc(h:fV w L cs pn pc)(r:Int)(hr:r<1):Calls Tryz.prog 64 #[kJ L cs gen pn cn pc cc,.int .i64 r] w λ e w'=>e=.returned (aD L r).nd.v/\St w [] [] w':=by
 refine enter Tryz.func64 Tryz.ntmps64 rfl rfl h.start ?_
 simp only[dB]
 all_goals (refine J0 ?_;refine bM (λ x2=>?_);refine aY (λ x4=>?_);refine aN ?_;refine jS ?_;refine Am ?_)
 all_goals (first|refine aG ?_|(refine aC ?_;refine aA ?_)|(refine dG 7 (λ g7=>?_) (λ g7=>?_)<;>(try (exfalso;omega))<;>(first|refine aG ?_|(refine aC ?_;refine aA ?_))))
 all_goals (refine Li ?_;refine xV ?_;refine aN ?_)
 all_goals
 refine bF (λ c13=>?_) (λ c13=>?_)
 ·try exact nv c13
  all_goals try (exfalso;omega)
  all_goals (refine J0 ?_;refine zN ?_)
  all_goals
   refine bH Tryz.results64 (λ w hw=>?_)
   exact⟨by rw[jC (by omega)];rfl,hw.done⟩
 ·try exact nv c13
  all_goals try (exfalso;omega)
  all_goals (refine aZ ?_;refine gR ?_;refine aA ?_;refine kN ?_;refine Dc ?_;refine J5 ?_)
  all_goals
   refine bH Tryz.results64 (λ w hw=>?_)
   exact⟨by rw[jC (by omega)];rfl,hw.done⟩
theorem rq(h:fV w L cs pn pc){k:Nat}(hk:(k:Int)<9223372036854775807)(hl:L.length<=274877906944):Calls Tryz.prog 64 #[kJ L cs gen pn cn pc cc,.int .i64 ((k+1:Nat):Int)] w λ e w'=>e=.returned (aD L ((k+1:Nat):Int)).nd.v/\St w [] [] w':=by
 refine enter Tryz.func64 Tryz.ntmps64 rfl rfl h.start ?_
 simp only[dB]
 all_goals (refine J0 ?_;refine bM (λ x2=>?_);refine aY (λ x4=>?_);refine aN ?_;refine jS ?_;refine Am ?_)
 all_goals (first|refine aG ?_|(refine aC ?_;refine aA ?_)|(refine dG 7 (λ g7=>?_) (λ g7=>?_)<;>(try (exfalso;omega))<;>(first|refine aG ?_|(refine aC ?_;refine aA ?_))))
 all_goals (refine Li ?_;refine xV ?_;refine aN ?_)
 all_goals
 refine bF (λ c13=>?_) (λ c13=>?_)
 ·try exact nv c13
  all_goals try (exfalso;omega)
  all_goals (refine J0 ?_;refine zN ?_)
  all_goals
   refine bH Tryz.results64 (λ w hw=>?_)
   first|exact⟨by rw[jC (by omega)];rfl,hw.done⟩|exact⟨by rw[pC (by omega)];rfl,hw.done⟩
 ·try exact nv c13
  all_goals try (exfalso;omega)
  all_goals (refine aZ ?_;refine gR ?_;refine aA ?_;refine kN ?_;refine Dc ?_;refine J5 ?_)
  all_goals
   refine bH Tryz.results64 (λ w hw=>?_)
   first|exact⟨by rw[jC (by omega)];rfl,hw.done⟩|exact⟨by rw[pC (by omega)];rfl,hw.done⟩
theorem pG(h:fV w L cs pn pc)(r:Int)(hr:r<=9223372036854775807)(hl:L.length<=274877906944):Calls Tryz.prog 64 #[kJ L cs gen pn cn pc cc,.int .i64 r] w λ e w'=>e=.returned (aD L r).nd.v/\St w [] [] w':=by
 rcases Int.lt_or_le r 1 with h1|h1
 ·exact qc h r h1
 ·obtain⟨k,rfl⟩:∃k:Nat,r=((k+1:Nat):Int):=⟨(r-1).toNat,by omega⟩
  exact rq h (by omega) hl
theorem Xq(h:fV w L cs pn pc)(r:Int)(hr:r<1):Calls Tryz.prog 73 #[kJ L cs gen pn cn pc cc,.int .i64 r] w λ e w'=>e=.returned (.int .i64 (bY cs r))/\St w [] [] w':=by
 refine enter Tryz.func73 Tryz.ntmps73 rfl rfl h.start ?_
 simp only[dB]
 all_goals (refine J0 ?_;refine bM (λ x2=>?_);refine iI ?_;refine J2 ?_;refine Am ?_)
 all_goals (first|refine aG ?_|(refine aC ?_;refine aA ?_)|(refine dG 7 (λ g7=>?_) (λ g7=>?_)<;>(try (exfalso;omega))<;>(first|refine aG ?_|(refine aC ?_;refine aA ?_))))
 all_goals (refine Li ?_;refine xV ?_;refine aN ?_)
 all_goals
 refine bF (λ c13=>?_) (λ c13=>?_)
 ·try exact nv c13
  all_goals try (exfalso;omega)
  all_goals refine dH ?_
  all_goals
   refine aR Tryz.results73 (λ w hw=>?_)
   exact⟨by rw[jH (by omega)];rfl,hw.done⟩
 ·try exact nv c13
  all_goals try (exfalso;omega)
  all_goals (refine aZ ?_;refine gR ?_;refine aA ?_;refine kN ?_;refine Dc ?_;refine J1 ?_)
  all_goals
   refine aR Tryz.results73 (λ w hw=>?_)
   exact⟨by rw[jH (by omega)];rfl,hw.done⟩
theorem Xm(h:fV w L cs pn pc){k:Nat}(hk:(k:Int)<9223372036854775807)(hl:cs.length<=274877906944):Calls Tryz.prog 73 #[kJ L cs gen pn cn pc cc,.int .i64 ((k+1:Nat):Int)] w λ e w'=>e=.returned (.int .i64 (bY cs ((k+1:Nat):Int)))/\St w [] [] w':=by
 refine enter Tryz.func73 Tryz.ntmps73 rfl rfl h.start ?_
 simp only[dB]
 all_goals (refine J0 ?_;refine bM (λ x2=>?_);refine iI ?_;refine J2 ?_;refine Am ?_)
 all_goals (first|refine aG ?_|(refine aC ?_;refine aA ?_)|(refine dG 7 (λ g7=>?_) (λ g7=>?_)<;>(try (exfalso;omega))<;>(first|refine aG ?_|(refine aC ?_;refine aA ?_))))
 all_goals (refine Li ?_;refine xV ?_;refine aN ?_)
 all_goals
 refine bF (λ c13=>?_) (λ c13=>?_)
 ·try exact nv c13
  all_goals try (exfalso;omega)
  all_goals refine dH ?_
  all_goals
   refine aR Tryz.results73 (λ w hw=>?_)
   first|exact⟨by rw[jH (by omega)];rfl,hw.done⟩|exact⟨by rw[nC (by omega)];rfl,hw.done⟩
 ·try exact nv c13
  all_goals try (exfalso;omega)
  all_goals (refine aZ ?_;refine gR ?_;refine aA ?_;refine kN ?_;refine Dc ?_;refine J1 ?_)
  all_goals
   refine aR Tryz.results73 (λ w hw=>?_)
   first|exact⟨by rw[jH (by omega)];rfl,hw.done⟩|exact⟨by rw[nC (by omega)];rfl,hw.done⟩
theorem C3(h:fV w L cs pn pc)(r:Int)(hr:r<=9223372036854775807)(hl:cs.length<=274877906944):Calls Tryz.prog 73 #[kJ L cs gen pn cn pc cc,.int .i64 r] w λ e w'=>e=.returned (.int .i64 (bY cs r))/\St w [] [] w':=by
 rcases Int.lt_or_le r 1 with h1|h1
 ·exact Xq h r h1
 ·obtain⟨k,rfl⟩:∃k:Nat,r=((k+1:Nat):Int):=⟨(r-1).toNat,by omega⟩
  exact Xm h (by omega) hl
theorem Kz(h:fV w L cs pn pc)(hb:V9 L cs)(hl:L.length<=274877906944)(hc:cs.length<=274877906944)(i:Int)(hi:i<=9223372036854775807):Calls Tryz.prog 61 #[kJ L cs gen pn cn pc cc,.int .i64 i] w λ e w'=>e=.returned (.tuple #[.int .i64 ((eR (L.map aQ.c) cs i).getD 0),.bool (eR (L.map aQ.c) cs i).isSome])/\St w [] [] w':=by
 refine enter Tryz.func61 Tryz.ntmps61 rfl rfl h.start ?_
 simp only[dB]
 simp only[kJ]
 all_goals (refine J0 ?_;refine bM (λ x2=>?_);refine J8 ?_;refine aT ?_;refine rK ?_;(refine aF (cV (hc:=λ w1 hw=>pG (h.kC hw) i hi hl)) (λ x10=>?_);try (refine aB (λ h10=>?_)));refine cP ?_;refine lY ?_;refine aN ?_)
 all_goals
 refine bF (λ c12=>?_) (λ c12=>?_)
 ·try exact nv c12
  all_goals refine qE ?_
  all_goals
   refine bH Tryz.results61 (λ w hw=>?_)
   refine⟨?_,hw.done⟩
   unfold eR oF mH nL
   simp only[bD,cK,aQ.c,Nd.c]
   simp_all
   all_goals rfl
 ·try exact nv c12
  all_goals (refine iW ?_;refine dL [(0,[]),(1,[]),(2,[]),(3,[0]),(4,[]),(5,[]),(6,[])] ?_;refine bT ?_;refine bT ?_;refine aL ?_;((refine bA (i:=3) (hq:=(cV (hc:=λ w1 hw=>pG (h.kC hw) i hi hl))) (h:=λ x16=>?_);try (refine aK (λ h16=>?_))));refine vT ?_;((refine bA (i:=5) (hq:=(cV (hc:=λ w1 hw=>C3 (h.kC hw) (aD L i).nd.main (hb.main i) hc))) (h:=λ x18=>?_);try (refine aK (λ h18=>?_))));refine J7 ?_;refine aT ?_;refine rK ?_;(refine aF (cV (hc:=λ w1 hw=>pG (h.kC hw) (bY cs (aD L i).nd.main) (hb.cs _) hl)) (λ x21=>?_);try (refine aB (λ h21=>?_)));(refine aF (c0 (V:=.bool) (hc:=λ w1 hw=>wC _ w1)) (λ x22=>?_);try (refine aB (λ h22=>?_)));refine kD ?_)
  all_goals
   refine bF (λ c23=>?_) (λ c23=>?_)
   ·try exact nv c23
    all_goals refine qE ?_
    all_goals
    refine bH Tryz.results61 (λ w hw=>?_)
    refine⟨?_,hw.done⟩
    unfold eR oF mH nL
    simp only[bD,cK,aQ.c,Nd.c]
    simp_all
    all_goals rfl
   ·try exact nv c23
    all_goals (refine iW ?_;refine dL [(0,[]),(1,[]),(2,[]),(3,[0]),(4,[]),(5,[]),(6,[])] ?_;refine bT ?_;refine bT ?_;refine aL ?_;((refine bA (i:=3) (hq:=(cV (hc:=λ w1 hw=>pG (h.kC hw) (bY cs (aD L i).nd.main) (hb.cs _) hl))) (h:=λ x27=>?_);try (refine aK (λ h27=>?_))));refine vT ?_;((refine bA (i:=5) (hq:=(cV (hc:=λ w1 hw=>C3 (h.kC hw) (aD L (bY cs (aD L i).nd.main)).nd.prev (hb.prev _) hc))) (h:=λ x29=>?_);try (refine aK (λ h29=>?_))));refine J7 ?_;refine C6 ?_;refine J2 ?_;refine P0 ?_)
    all_goals
    refine bF (λ c30=>?_) (λ c30=>?_)
    ·try exact nv c30
     all_goals (refine J2 ?_;refine J8 ?_)
     all_goals
      refine bH Tryz.results61 (λ w hw=>?_)
      refine⟨?_,hw.done⟩
      unfold eR oF mH nL
      simp only[bD,cK,aQ.c,Nd.c]
      simp_all
      all_goals rfl
    ·try exact nv c30
     all_goals (refine rK ?_;(refine aF (cV (hc:=λ w1 hw=>pG (h.kC hw) (bY cs (aD L (bY cs (aD L i).nd.main)).nd.prev) (hb.cs _) hl)) (λ x37=>?_);try (refine aB (λ h37=>?_)));refine cP ?_;refine P0 ?_)
     all_goals
      refine bF (λ c34=>?_) (λ c34=>?_)
      ·try exact nv c34
       all_goals (refine dD ?_;refine bJ ?_;refine aA ?_;(refine aF (cV (hc:=λ w1 hw=>pG (h.kC hw) (bY cs (aD L (bY cs (aD L i).nd.main)).nd.prev) (hb.cs _) hl)) (λ x42=>?_);try (refine aB (λ h42=>?_)));refine cP ?_;refine J1 ?_;refine eV ?_;refine aT ?_;refine rK ?_;(refine aF (cV (hc:=λ w1 hw=>pG (h.kC hw) _ (by first|exact hb.cs _|exact hb.cE _) hl)) (λ x46=>?_);try (refine aB (λ h46=>?_)));(refine aF (c0 (V:=.bool) (hc:=λ w1 hw=>wC _ w1)) (λ x47=>?_);try (refine aB (λ h47=>?_)));refine kD ?_)
       all_goals
       refine bF (λ c48=>?_) (λ c48=>?_)
       ·try exact nv c48
        all_goals refine qE ?_
        all_goals
         refine bH Tryz.results61 (λ w hw=>?_)
         refine⟨?_,hw.done⟩
         unfold eR oF mH nL
         simp only[bD,cK,aQ.c,Nd.c]
         simp_all
         all_goals rfl
       ·try exact nv c48
        all_goals (refine aZ ?_;refine J2 ?_;refine J8 ?_)
        all_goals
         refine bH Tryz.results61 (λ w hw=>?_)
         refine⟨?_,hw.done⟩
         unfold eR oF mH nL
         simp only[bD,cK,aQ.c,Nd.c]
         simp_all
         all_goals rfl
      ·try exact nv c34
       all_goals (refine mN ?_;refine aT ?_;refine rK ?_;(refine aF (cV (hc:=λ w1 hw=>pG (h.kC hw) _ (by first|exact hb.cs _|exact hb.cE _) hl)) (λ x46=>?_);try (refine aB (λ h46=>?_)));(refine aF (c0 (V:=.bool) (hc:=λ w1 hw=>wC _ w1)) (λ x47=>?_);try (refine aB (λ h47=>?_)));refine kD ?_)
       all_goals
       refine bF (λ c48=>?_) (λ c48=>?_)
       ·try exact nv c48
        all_goals refine qE ?_
        all_goals
         refine bH Tryz.results61 (λ w hw=>?_)
         refine⟨?_,hw.done⟩
         unfold eR oF mH nL
         simp only[bD,cK,aQ.c,Nd.c]
         simp_all
         all_goals rfl
       ·try exact nv c48
        all_goals (refine aZ ?_;refine J2 ?_;refine J8 ?_)
        all_goals
         refine bH Tryz.results61 (λ w hw=>?_)
         refine⟨?_,hw.done⟩
         unfold eR oF mH nL
         simp only[bD,cK,aQ.c,Nd.c]
         simp_all
         all_goals rfl
theorem ie(h:fV w L cs pn pc)(hb:V9 L cs)(hl:L.length<=274877906944)(hc:cs.length<=274877906944)(c:Int)(ro:Bool)(hi:c<=9223372036854775807):Calls Tryz.prog 60 #[kJ L cs gen pn cn pc cc,.agg ⟨[.int .i64 c,.bool ro]⟩] w λ e w'=>e=.returned (.tuple #[.int .i64 ((fU (L.map aQ.c) cs c).getD 0),.bool (fU (L.map aQ.c) cs c).isSome])/\St w [] [] w':=by
 refine enter Tryz.func60 Tryz.ntmps60 rfl rfl h.start ?_
 simp only[dB]
 simp only[kJ]
 all_goals (refine J0 ?_;refine bM (λ x2=>?_);refine bM (λ x3=>?_);refine J8 ?_;refine iU ?_;refine J3 ?_;(refine aF (cV (hc:=λ w1 hw=>C3 (h.kC hw) c hi hc)) (λ x11=>?_);try (refine aB (λ h11=>?_)));refine iI ?_;refine rK ?_;(refine aF (cV (hc:=λ w1 hw=>pG (h.kC hw) (bY cs c) (hb.cs _) hl)) (λ x14=>?_);try (refine aB (λ h14=>?_)));refine aY (λ x7=>?_);refine J5 ?_;refine gR ?_;refine tE ?_)
 all_goals
 refine bF (λ c17=>?_) (λ c17=>?_)
 ·try exact nv c17
  all_goals (refine gR ?_;refine J1 ?_;refine iU ?_;refine J3 ?_;(refine aF (cV (hc:=λ w1 hw=>C3 (h.kC hw) (aD L (bY cs c)).nd.status (hb.status _) hc)) (λ x23=>?_);try (refine aB (λ h23=>?_)));refine tE ?_)
  all_goals
   refine bF (λ c24=>?_) (λ c24=>?_)
   ·try exact nv c24
    all_goals (refine dD ?_;refine J3 ?_;refine iI ?_;refine rK ?_;(refine aF (cV (hc:=λ w1 hw=>pG (h.kC hw) _ (by first|exact hb.cs _|exact hb.cE _|exact hb.new _) hl)) (λ x29=>?_);try (refine aB (λ h29=>?_)));refine cP ?_;refine lY ?_;refine aN ?_)
    all_goals
    refine bF (λ c31=>?_) (λ c31=>?_)
    ·try exact nv c31
     all_goals refine qE ?_
     all_goals
      refine bH Tryz.results60 (λ w hw=>?_)
      refine⟨?_,hw.done⟩
      unfold fU oB
      simp only[bD,cK,aQ.c,Nd.c]
      simp_all
      all_goals rfl
    ·try exact nv c31
     all_goals (refine aZ ?_;refine J2 ?_;refine J8 ?_)
     all_goals
      refine bH Tryz.results60 (λ w hw=>?_)
      refine⟨?_,hw.done⟩
      unfold fU oB
      simp only[bD,cK,aQ.c,Nd.c]
      simp_all
      all_goals rfl
   ·try exact nv c24
    all_goals (refine iW ?_;refine rK ?_;(refine aF (cV (hc:=λ w1 hw=>pG (h.kC hw) _ (by first|exact hb.cs _|exact hb.cE _|exact hb.new _) hl)) (λ x29=>?_);try (refine aB (λ h29=>?_)));refine cP ?_;refine lY ?_;refine aN ?_)
    all_goals
    refine bF (λ c31=>?_) (λ c31=>?_)
    ·try exact nv c31
     all_goals refine qE ?_
     all_goals
      refine bH Tryz.results60 (λ w hw=>?_)
      refine⟨?_,hw.done⟩
      unfold fU oB
      simp only[bD,cK,aQ.c,Nd.c]
      simp_all
      all_goals rfl
    ·try exact nv c31
     all_goals (refine aZ ?_;refine J2 ?_;refine J8 ?_)
     all_goals
      refine bH Tryz.results60 (λ w hw=>?_)
      refine⟨?_,hw.done⟩
      unfold fU oB
      simp only[bD,cK,aQ.c,Nd.c]
      simp_all
      all_goals rfl
 ·try exact nv c17
  all_goals (refine iW ?_;refine rK ?_;(refine aF (cV (hc:=λ w1 hw=>pG (h.kC hw) _ (by first|exact hb.cs _|exact hb.cE _|exact hb.new _) hl)) (λ x29=>?_);try (refine aB (λ h29=>?_)));refine cP ?_;refine lY ?_;refine aN ?_)
  all_goals
   refine bF (λ c31=>?_) (λ c31=>?_)
   ·try exact nv c31
    all_goals refine qE ?_
    all_goals
    refine bH Tryz.results60 (λ w hw=>?_)
    refine⟨?_,hw.done⟩
    unfold fU oB
    simp only[bD,cK,aQ.c,Nd.c]
    simp_all
    all_goals rfl
   ·try exact nv c31
    all_goals (refine aZ ?_;refine J2 ?_;refine J8 ?_)
    all_goals
    refine bH Tryz.results60 (λ w hw=>?_)
    refine⟨?_,hw.done⟩
    unfold fU oB
    simp only[bD,cK,aQ.c,Nd.c]
    simp_all
    all_goals rfl
end
end

end Go.Proofs.YtpobgmdalcpomaaGreat

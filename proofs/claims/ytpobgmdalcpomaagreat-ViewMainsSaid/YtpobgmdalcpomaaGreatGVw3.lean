/- Views: the I-nodes of a trie are visited. -/
import Derived.Test.YtpobgmdalcpomaaGreatGLe1

set_option linter.unusedSimpArgs false
set_option linter.unusedVariables false
namespace Go.Ct
open Go Go.RowKit
def Vis(n:Nat)(vs:List Bool)(l:List Int):Prop:=vs.length=n/\(∀k,k<n->(vs.getD k false=true↔((k+1:Nat):Int)∈l))/\l.length+vs.count false=n
theorem Vis.zero(n:Nat):Vis n (List.replicate n false) []:=⟨by simp,λ k hk=>by simp[List.getD_eq_getElem?_getD,hk],by simp⟩
theorem count_set:∀(vs:List Bool) (k:Nat),k<vs.length->vs.getD k false=false->(vs.set k true).count false+1=vs.count false
 | [],_,h,_=>by simp at h
 | b::vs,0,_,h=>by
  have e:b=false:=by simpa using h
  subst e
  simp
 | b::vs,k+1,h,h2=>by
  have:=count_set vs k (by simpa using h) (by simpa using h2)
  rw[List.set_cons_succ,List.count_cons,List.count_cons]
  omega
theorem Vis.set{n k:Nat}{vs:List Bool}{l:List Int}(h:Vis n vs l)(hk:k<n)(hf:vs.getD k false=false):Vis n (vs.set k true) (l++[((k+1:Nat):Int)]):=by
 have h1:=h.1
 refine⟨by simp[h.1],λ j hj=>?_,?_⟩
 ·have h2:=h.2.1 j hj
  rw[List.getD_eq_getElem?_getD] at h2
  rw[List.getD_eq_getElem?_getD,List.getElem?_set]
  by_cases e:k=j
  ·subst e
   simp[show k<vs.length by omega]
  ·rw[if_neg e,h2]
   simp only[List.mem_append,List.mem_singleton]
   constructor
   ·exact .inl
   ·rintro (h3|h3)
    ·exact h3
    ·omega
 ·have:=count_set vs k (by omega) hf
  have:=h.2.2
  simp only[List.length_append,List.length_cons,List.length_nil]
  omega
theorem Vis.len{n:Nat}{vs:List Bool}{l:List Int}(h:Vis n vs l):l.length<=n:=by have:=h.2.2;omega
structure VQ where
 l:List Int
 vs:List Bool
 p:Option Addr
 c:Nat
def VisR(o:Option (List Int))(b:Bool)(q:VQ):Prop:=match o with|some l=>b=true/\q.l=l|none=>b=false
theorem visB_at{N:List Nv}{f:Int->List Int->Option (List Int)}{xs l l2:List Int}{k:Nat}(hk:k<xs.length)(h:visB N f (xs.take k) l=some l2):visB N f xs l=visB N f (xs.getD k 0::xs.drop (k+1)) l2:=by
 have e:xs=xs.take k++(xs.getD k 0::xs.drop (k+1)):=by
  rw[List.getD_eq_getElem?_getD,List.getElem?_eq_getElem hk,Option.getD_some,<- List.drop_eq_getElem_cons hk,List.take_append_drop]
 rw[e,visB_app,<- e,h]
 rfl
theorem visB_next{N:List Nv}{f:Int->List Int->Option (List Int)}{xs l l2 l3:List Int}{k:Nat}(hk:k<xs.length)(h:visB N f (xs.take k) l=some l2)(h2:visB N f [xs.getD k 0] l2=some l3):visB N f (xs.take (k+1)) l=some l3:=by
 rw[List.take_add_one,List.getElem?_eq_getElem hk,visB_app,h]
 rw[List.getD_eq_getElem?_getD,List.getElem?_eq_getElem hk] at h2
 exact h2
theorem visB_s{N:List Nv}{f:Int->List Int->Option (List Int)}{b:Int}{l:List Int}(h:(ndAt N b).kind=4):visB N f [b] l=some l:=by simp[visB,h]
theorem visB_i{N:List Nv}{f:Int->List Int->Option (List Int)}{b:Int}{l l2:List Int}(h:(ndAt N b).kind=2)(hf:f b l=some l2):visB N f [b] l=some l2:=by simp[visB,h,hf]
theorem visB_no{N:List Nv}{f:Int->List Int->Option (List Int)}{b:Int}{r l:List Int}(h:(ndAt N b).kind≠4)(h2:(ndAt N b).kind≠2):visB N f (b::r) l=none:=by simp[visB,h,h2]
theorem visB_f{N:List Nv}{f:Int->List Int->Option (List Int)}{b:Int}{r l:List Int}(h:(ndAt N b).kind=2)(hf:f b l=none):visB N f (b::r) l=none:=by simp[visB,h,hf]
theorem mainK_in'{N:List Nv}{r:Int}(h:MainK (ndAt N r)):1<=r/\r<=N.length:=kind_in (by unfold MainK at h;omega)
theorem famV_br{L:List NdV}{r:Int}(h:1<=r/\r<=L.length):((nodeV L r).nd.brA,refsC (nodeV L r).xs)∈famF L:=by
 unfold nodeV
 rw[if_pos h]
 exact famF_br (by omega)
theorem famV_pr{L:List NdV}{r:Int}(h:1<=r/\r<=L.length):((nodeV L r).nd.prA,prC (nodeV L r).ys)∈famF L:=by
 unfold nodeV
 rw[if_pos h]
 exact famF_pr (by omega)
theorem nodeV_xs(L:List NdV)(r:Int):(ndAt (L.map NdV.c) r).xs=(nodeV L r).xs:=by rw[nodeV_c'];rfl
theorem vis_seen{N:List Nv}{cs:List Int}{i:Int}{l:List Int}(h:i∈l):∀{n:Nat},vis N cs n i l=none
 | 0=>rfl
 | n+1=>by unfold vis;rw[if_pos h]
theorem vis_none{N:List Nv}{cs:List Int}{i:Int}{l:List Int}{n:Nat}(h:¬i∈l)(h2:(bodyO N cs i).isSome=false):vis N cs (n+1) i l=none:=by
 unfold vis
 rw[if_neg h]
 cases hb:bodyO N cs i with
 | none=>rfl
 | some m=>rw[hb] at h2;cases h2
theorem vis_some{N:List Nv}{cs:List Int}{i m:Int}{l:List Int}{n:Nat}(h:¬i∈l)(h2:bodyO N cs i=some m):vis N cs (n+1) i l=visB N (vis N cs n) (ndAt N m).xs (l++[i]):=by
 unfold vis
 rw[if_neg h,h2]
 rfl
end Go.Ct
namespace Go.Proofs.YtpobgmdalcpomaaGreat
open Go Go.RowKit Go.Ct
section
variable{L:List NdV}{cs:List Int}{gen:Int}{pn pc:Option Addr}{cn cc:Nat}{w:World}
theorem vRoot_c(h:StAt w L cs pn pc)(hb:StB L cs)(hl:L.length<=274877906944)(hc:cs.length<=274877906944)(c:Int)(ro:Bool)(hi:c<=9223372036854775807):Calls Tryz.prog 47 #[stG L cs gen pn cn pc cc,.agg ⟨[.int .i64 c,.bool ro]⟩] w λ e w'=>e=.returned (.tuple #[.int .i64 ((rootO (L.map NdV.c) cs c).getD 0),.bool (rootO (L.map NdV.c) cs c).isSome])/\St w [] [] w':=by
 refine enter Tryz.func47 Tryz.ntmps47 rfl rfl h.start ?_
 simp only[mkS]
 simp only[stG]
 all_goals (refine J0 ?_;refine j_box (λ x2=>?_);refine j_box (λ x3=>?_);refine J8 ?_;refine J25 ?_;refine J3 ?_;(refine j_own (cV (hc:=λ w1 hw=>vCell_c (h.of0 hw) c hi hc)) (λ x11=>?_);try (refine l_fact (λ h11=>?_)));refine J27 ?_;refine J71 ?_;(refine j_own (cV (hc:=λ w1 hw=>vAt_c (h.of0 hw) (cellV cs c) (hb.cs _) hl)) (λ x14=>?_);try (refine l_fact (λ h14=>?_)));refine j_alloc (λ x7=>?_);refine J5 ?_;refine J24 ?_;refine J50 ?_)
 all_goals
 refine kif (λ c17=>?_) (λ c17=>?_)
 ·try exact nv c17
  all_goals (refine J24 ?_;refine J1 ?_;refine J25 ?_;refine J3 ?_;(refine j_own (cV (hc:=λ w1 hw=>vCell_c (h.of0 hw) (nodeV L (cellV cs c)).nd.status (hb.status _) hc)) (λ x23=>?_);try (refine l_fact (λ h23=>?_)));refine J50 ?_)
  all_goals
   refine kif (λ c24=>?_) (λ c24=>?_)
   ·try exact nv c24
    all_goals (refine k_region ?_;refine J3 ?_;refine J27 ?_;refine J71 ?_;(refine j_own (cV (hc:=λ w1 hw=>vAt_c (h.of0 hw) _ (by first|exact hb.cs _|exact hb.old _|exact hb.new _) hl)) (λ x29=>?_);try (refine l_fact (λ h29=>?_)));refine j_field ?_;refine j_neq ?_;refine l_nil ?_)
    all_goals
    refine kif (λ c31=>?_) (λ c31=>?_)
    ·try exact nv c31
     all_goals refine J66 ?_
     all_goals
      refine k_rt Tryz.results47 (λ w hw=>?_)
      refine⟨?_,hw.done⟩
      unfold rootO rootP
      simp only[nodeV_c',MainK,NdV.c,Nd.c]
      simp_all
      all_goals rfl
    ·try exact nv c31
     all_goals (refine k_skip ?_;refine J2 ?_;refine J8 ?_)
     all_goals
      refine k_rt Tryz.results47 (λ w hw=>?_)
      refine⟨?_,hw.done⟩
      unfold rootO rootP
      simp only[nodeV_c',MainK,NdV.c,Nd.c]
      simp_all
      all_goals rfl
   ·try exact nv c24
    all_goals (refine J16 ?_;refine J71 ?_;(refine j_own (cV (hc:=λ w1 hw=>vAt_c (h.of0 hw) _ (by first|exact hb.cs _|exact hb.old _|exact hb.new _) hl)) (λ x29=>?_);try (refine l_fact (λ h29=>?_)));refine j_field ?_;refine j_neq ?_;refine l_nil ?_)
    all_goals
    refine kif (λ c31=>?_) (λ c31=>?_)
    ·try exact nv c31
     all_goals refine J66 ?_
     all_goals
      refine k_rt Tryz.results47 (λ w hw=>?_)
      refine⟨?_,hw.done⟩
      unfold rootO rootP
      simp only[nodeV_c',MainK,NdV.c,Nd.c]
      simp_all
      all_goals rfl
    ·try exact nv c31
     all_goals (refine k_skip ?_;refine J2 ?_;refine J8 ?_)
     all_goals
      refine k_rt Tryz.results47 (λ w hw=>?_)
      refine⟨?_,hw.done⟩
      unfold rootO rootP
      simp only[nodeV_c',MainK,NdV.c,Nd.c]
      simp_all
      all_goals rfl
 ·try exact nv c17
  all_goals (refine J16 ?_;refine J71 ?_;(refine j_own (cV (hc:=λ w1 hw=>vAt_c (h.of0 hw) _ (by first|exact hb.cs _|exact hb.old _|exact hb.new _) hl)) (λ x29=>?_);try (refine l_fact (λ h29=>?_)));refine j_field ?_;refine j_neq ?_;refine l_nil ?_)
  all_goals
   refine kif (λ c31=>?_) (λ c31=>?_)
   ·try exact nv c31
    all_goals refine J66 ?_
    all_goals
    refine k_rt Tryz.results47 (λ w hw=>?_)
    refine⟨?_,hw.done⟩
    unfold rootO rootP
    simp only[nodeV_c',MainK,NdV.c,Nd.c]
    simp_all
    all_goals rfl
   ·try exact nv c31
    all_goals (refine k_skip ?_;refine J2 ?_;refine J8 ?_)
    all_goals
    refine k_rt Tryz.results47 (λ w hw=>?_)
    refine⟨?_,hw.done⟩
    unfold rootO rootP
    simp only[nodeV_c',MainK,NdV.c,Nd.c]
    simp_all
    all_goals rfl
abbrev trO(L:List NdV)(cs:List Int)(gen:Int)(pn:Option Addr)(cn:Nat)(pc:Option Addr)(cc:Nat)(pv:Nat)(q:VQ)(pp:Option Addr)(ps:List Pr)(cp:Nat):Obj:=.cells ⟨[.slice pn L.length cn,.slice pc cs.length cc,.int .i64 gen,.slice (some ⟨pv,0,none⟩) L.length L.length,.slice q.p q.l.length q.c,.slice pp ps.length cp]⟩ 93 (0,0)
abbrev trW(L:List NdV)(pv:Nat)(q:VQ):List Ow:=[⟨some ⟨pv,0,none⟩,boolsC q.vs,L.length,4,1⟩,⟨q.p,refsC q.l,q.c,52,1⟩]
theorem trOpen{w0:World}{D:List Nat}{b pv:Nat}{q:VQ}{pp:Option Addr}{ps:List Pr}{cp:Nat}{A F:Fr}(h:SF w0 D [(b,trO L cs gen pn cn pc cc pv q pp ps cp)] A F (trW L pv q) w) :
  SF w0 D [(b,.cells ⟨[.slice pn L.length cn,.slice pc cs.length cc,.int .i64 gen,.slice (some ⟨pv,0,none⟩) L.length L.length,.slice q.p q.l.length q.c,.slice pp ps.length cp]⟩ 93 (0,0))] A F [⟨some ⟨pv,0,none⟩,boolsC q.vs,L.length,4,1⟩,⟨q.p,refsC q.l,q.c,52,1⟩] w:=h
def VisC(L:List NdV)(cs:List Int)(gen:Int)(pn:Option Addr)(cn:Nat)(pc:Option Addr)(cc:Nat)(b pv:Nat)(pp:Option Addr)(ps:List Pr)(cp:Nat)(n:Nat):Prop:=∀(lvl:Nat),lvl+n=12->∀(k:Nat) (q:VQ) (D:List Nat) (w:World),k<L.length->Vis L.length q.vs q.l->SF w D [(b,trO L cs gen pn cn pc cc pv q pp ps cp)] ((pn,nvC L)::(pc,refsC cs)::famF L) [] (trW L pv q) w ->
  Calls Tryz.prog 53 #[.pointer (some ⟨b,0,none⟩),.int .i64 ((k+1:Nat):Int),.int .i64 ((lvl:Nat):Int)] w λ e w'=>∃x:Bool×VQ,e=.returned (.bool x.1)/\(VisR (vis (L.map NdV.c) cs n ((k+1:Nat):Int) q.l) x.1 x.2/\Vis L.length x.2.vs x.2.l)/\SF w D [(b,trO L cs gen pn cn pc cc pv x.2 pp ps cp)] [] [] (trW L pv x.2) w'
theorem visit1_c(h0:Fits L)(hb:StB L cs)(hl:L.length<=274877906944)(hc:cs.length<=274877906944)(b pv:Nat)(pp:Option Addr)(ps:List Pr)(cp:Nat)(n:Nat)(ih:∀m,n=m+1->VisC L cs gen pn cn pc cc b pv pp ps cp m):VisC L cs gen pn cn pc cc b pv pp ps cp n:=by
  intro lvl hn k q D w hk hv hs
  have hvl:=hv.1
  have hvn:=hv.len
  refine enter Tryz.func53 Tryz.ntmps53 rfl rfl (trOpen hs) ?_
  simp only[mkS]
  all_goals (refine J10 ?_;refine J32 ?_;refine j_gtr ?_;refine j_move ?_)
  all_goals (first|refine j_un ?_|(refine j_yes ?_;refine j_move ?_)|(refine lcs 13 (λ g13=>?_) (λ g13=>?_)<;>(try (first|(exact absurd (by assumption) (by decide:¬(true=false)))|(exfalso;omega)))<;>(first|refine j_un ?_|(refine j_yes ?_;refine j_move ?_))))
  all_goals ((first|refine j_un ?_|(refine j_yes ?_;refine j_nilCheck ?_));refine J6 ?_;refine J68 ?_;(first|refine j_un ?_|(refine j_yes ?_;refine l_quiet (o_indexB (k:=k) rf rf sl1 on1 fin (by omega) (by omega)) rfl ?_));(first|refine j_un ?_|(refine j_yes ?_;refine l_quiet (o_loadB (q:=k) rf on1 fin (by omega)) rfl ?_));refine j_pick ?_;refine l_nil ?_)
  all_goals
   refine kif (λ c22=>?_) (λ c22=>?_)
   · try exact nv c22
     all_goals try (first|(exact absurd (by assumption) (by decide:¬(true=false)))|(exfalso;omega))
     all_goals refine J10 ?_
     all_goals
      refine k_rv Tryz.results53 (λ w hw=>?_)
      first
       | exact⟨(false,q),rfl,⟨by rw[vis_seen ((hv.2.1 k hk).1 (by assumption))];exact rfl,hv⟩,hw.finH⟩
       | exact⟨(false,q),rfl,⟨by rw[show n=0 by omega];exact rfl,hv⟩,hw.finH⟩
   · try exact nv c22
     all_goals try (first|(exact absurd (by assumption) (by decide:¬(true=false)))|(exfalso;omega))
     all_goals
      obtain⟨m,rfl⟩:∃m,n=m+1:=⟨n-1,by omega⟩
      have hnot:¬(((k+1:Nat):Int)∈q.l):=λ hm=>by have:=(hv.2.1 k hk).2 hm;simp_all
      have hv2:=hv.set hk (by simp_all)
     all_goals (refine J83 ?_;refine j_move ?_;refine j_dec ?_;refine l_quiet (o_indexB (k:=k) rf rf sl1 on1 fin (by omega) (by omega)) rfl ?_;refine J5 ?_;refine J11 ?_;refine j_nilCheck ?_;refine J3 ?_;refine j_move ?_;refine j_buildSlice (λ x36=>?_);(refine j_append (λ x37=>?_);try (refine l_fact (λ h37=>?_)));refine J61 ?_;refine J45 ?_;refine l_quiet (o_loadPart (k:=3) rf atT ag1 (by simp only[List.drop_zero,List.take_succ_cons,List.take_zero];exact rfl) rfl) rfl ?_;refine j_move ?_;(refine j_own (cV (hc:=λ w1 hw=>vMain_c (hw.stAt (.inr (.inl (.head _))) (.inr (.inl (.tail _ (.head _)))) (λ f hf=>.inr (.inl (.tail _ (.tail _ hf)))) h0) hb hl hc ((k+1:Nat):Int) (by omega))) (λ x46=>?_);try (refine l_fact (λ h46=>?_)));refine J82 ?_;refine J8 ?_;refine J32 ?_;refine J33 ?_)
     all_goals
      refine kif (λ c50=>?_) (λ c50=>?_)
      · try exact nv c50
        all_goals try (first|(exact absurd (by assumption) (by decide:¬(true=false)))|(exfalso;omega))
        all_goals refine J10 ?_
        all_goals
         refine k_rv Tryz.results53 (λ w hw=>?_)
         rw[show q.l.length+1=(q.l++[((k+1:Nat):Int)]).length by simp] at hw
         exact⟨(false,⟨q.l++[((k+1:Nat):Int)],q.vs.set k true,x37.1,x37.2⟩),rfl,⟨by rw[vis_none hnot (by simpa using c50)];exact rfl,hv2⟩,hw.finH⟩
      · try exact nv c50
        all_goals try (first|(exact absurd (by assumption) (by decide:¬(true=false)))|(exfalso;omega))
        all_goals
         obtain⟨r,hr⟩:=Option.isSome_iff_exists.1 (show(bodyO (L.map NdV.c) cs ((k+1:Nat):Int)).isSome=true by simpa using c50)
         rw[hr,Option.getD_some]
         have hfr:=fit_nodeV h0 r
         have hri:=mainK_in' (body_kind hr).2
         rw[List.length_map] at hri
         have hrr:r<=9223372036854775807:=by omega
         have hbn:=hfr.brN
         have hbs:=hfr.brS
         have hfm:=famV_br hri
         have hbr:=hb.br r
        all_goals (refine J16 ?_;refine J45 ?_;refine l_quiet (o_loadPart (k:=3) rf atT ag1 (by simp only[List.drop_zero,List.take_succ_cons,List.take_zero];exact rfl) rfl) rfl ?_;refine j_move ?_;(refine j_own (cV (hc:=λ w1 hw=>vAt_c (hw.stAt (.inr (.inl (.head _))) (.inr (.inl (.tail _ (.head _)))) (λ f hf=>.inr (.inl (.tail _ (.tail _ hf)))) h0) _ (by omega) hl)) (λ x56=>?_);try (refine l_fact (λ h56=>?_)));refine j_field ?_;refine j_len ?_;refine J44 ?_;refine k_block ?_)
        all_goals
         refine k_lp [6,10,59,60,61,62,63,64,65,66,67,68,69,70,71,72,73,74,75,76,77,78,79,80] (λ y:Nat×VQ=>[(59,.int .i64 ((y.1:Nat):Int))]) (λ y=>y.1<=(nodeV L r).xs.length/\visB (L.map NdV.c) (vis (L.map NdV.c) cs m) ((nodeV L r).xs.take y.1) (q.l++[((k+1:Nat):Int)])=some y.2.l/\Vis L.length y.2.vs y.2.l) (λ y=>[(b,trO L cs gen pn cn pc cc pv y.2 pp ps cp)]) (λ _=>_) (λ y=>trW L pv y.2) (λ y=>(nodeV L r).xs.length-y.1) ((0,⟨q.l++[((k+1:Nat):Int)],q.vs.set k true,x37.1,x37.2⟩)) (⟨Nat.zero_le _,rfl,hv2⟩) (λ y f hx=>?_) (hw0:=λ w hw=>by rw[show q.l.length+1=(q.l++[((k+1:Nat):Int)]).length by simp] at hw;exact hw.back)
         dsimp only[mkU,List.map,List.cons_append,List.nil_append]
         have hyn:=hx.2.2.len
         have hyl:=hx.2.2.1
         all_goals (refine J0 ?_;refine J47 ?_;refine k_seq ?_)
         all_goals
          refine kif (λ c60=>?_) (λ c60=>?_)
          · try exact nv c60
            all_goals try (first|(exact absurd (by assumption) (by decide:¬(true=false)))|(exfalso;omega))
            all_goals
             have hbk:(nodeV L r).xs.getD y.1 0<=9223372036854775807:=hbr _ (by rw[List.getD_eq_getElem?_getD,List.getElem?_eq_getElem (by omega)];exact List.getElem_mem _)
            all_goals (refine J37 ?_;refine J0 ?_;refine l_quiet (o_indexR (k:=y.1) rf rf sl1 on1 (.old (.tail (.tail (FAt.of_mem hfm)))) (by omega) (by omega)) rfl ?_;refine l_quiet (o_loadR (q:=y.1) rf on1 (.old (.tail (.tail (FAt.of_mem hfm)))) (by omega)) rfl ?_;refine J1 ?_;refine J45 ?_;refine l_quiet (o_loadPart (k:=3) rf atT ag1 (by simp only[List.drop_zero,List.take_succ_cons,List.take_zero];exact rfl) rfl) rfl ?_;refine j_move ?_;(refine j_own (cV (hc:=λ w1 hw=>vAt_c (hw.stAt (.inr (.inl (.head _))) (.inr (.inl (.tail _ (.head _)))) (λ f hf=>.inr (.inl (.tail _ (.tail _ hf)))) h0) _ (by omega) hl)) (λ x68=>?_);try (refine l_fact (λ h68=>?_)));refine j_field ?_;refine l_nil ?_;refine k_block ?_;refine J39 ?_)
            all_goals
             refine kif (λ c70=>?_) (λ c70=>?_)
             · try exact nv c70
               all_goals try (first|(exact absurd (by assumption) (by decide:¬(true=false)))|(exfalso;omega))
               all_goals (refine J34 ?_;refine k_blk ?_;refine J77 ?_;refine J44 ?_)
               all_goals
                refine k_rd ((by first|exact(y.1+1,x78.2)|exact(y.1+1,y.2))) ?_
                · first
                   | exact⟨by omega,visB_next (by omega) hx.2.1 (by rw[hj.1];exact visB_i hkd hvq),h78.2⟩
                   | exact⟨by omega,visB_next (by omega) hx.2.1 (visB_s (by rw[nodeV_c'];exact c70)),hx.2.2⟩
             · try exact nv c70
               all_goals try (first|(exact absurd (by assumption) (by decide:¬(true=false)))|(exfalso;omega))
               all_goals refine J39 ?_
               all_goals
                refine kif (λ c72=>?_) (λ c72=>?_)
                · try exact nv c72
                  all_goals try (first|(exact absurd (by assumption) (by decide:¬(true=false)))|(exfalso;omega))
                  all_goals
                   obtain⟨j,hj⟩:∃j:Nat,(nodeV L r).xs.getD y.1 0=((j+1:Nat):Int)/\j<L.length:=by
                    have:=kind_in (N:=L.map NdV.c) (i:=(nodeV L r).xs.getD y.1 0) (by rw[nodeV_c'];show(nodeV L ((nodeV L r).xs.getD y.1 0)).nd.kind≠0;omega)
                    rw[List.length_map] at this
                    exact⟨((nodeV L r).xs.getD y.1 0-1).toNat,by omega,by omega⟩
                   have hkd:(ndAt (L.map NdV.c) ((nodeV L r).xs.getD y.1 0)).kind=2:=by rw[nodeV_c'];exact c72
                   rw[hj.1] at hkd ⊢
                  all_goals (refine J11 ?_;refine j_move ?_;refine j_inc ?_;(refine j_own (cM (hs:=[(b,trO L cs gen pn cn pc cc pv y.2 pp ps cp)]) (os:=trW L pv y.2) (hc:=λ w1 hs=>ih m rfl (lvl+1) (by omega) j y.2 _ w1 hj.2 hx.2.2 hs)) (λ x78=>?_);try (refine l_fact (λ h78=>?_)));refine J33 ?_)
                  all_goals
                   refine kif (λ c79=>?_) (λ c79=>?_)
                   · try exact nv c79
                     all_goals try (first|(exact absurd (by assumption) (by decide:¬(true=false)))|(exfalso;omega))
                     all_goals refine J10 ?_
                     all_goals
                      refine k_rv Tryz.results53 (λ w hw=>?_)
                      have hvq:vis (L.map NdV.c) cs m ((j+1:Nat):Int) y.2.l=none:=by
                       have h1:=h78.1
                       unfold VisR at h1
                       split at h1
                       · exfalso;simp_all
                       · assumption
                      exact⟨(false,x78.2),rfl,⟨by rw[vis_some hnot hr,nodeV_xs,visB_at (by omega) hx.2.1,hj.1,visB_f hkd hvq];exact rfl,h78.2⟩,hw.finH⟩
                   · try exact nv c79
                     all_goals try (first|(exact absurd (by assumption) (by decide:¬(true=false)))|(exfalso;omega))
                     all_goals
                      have hvq:vis (L.map NdV.c) cs m ((j+1:Nat):Int) y.2.l=some x78.2.l:=by
                       have h1:=h78.1
                       unfold VisR at h1
                       split at h1
                       · rename_i l e
                         rw[e,h1.2]
                       · exfalso;simp_all
                     all_goals (refine J34 ?_;refine k_blk ?_;refine J77 ?_;refine J44 ?_)
                     all_goals
                      refine k_rd ((by first|exact(y.1+1,x78.2)|exact(y.1+1,y.2))) ?_
                      · first
                         | exact⟨by omega,visB_next (by omega) hx.2.1 (by rw[hj.1];exact visB_i hkd hvq),h78.2⟩
                         | exact⟨by omega,visB_next (by omega) hx.2.1 (visB_s (by rw[nodeV_c'];exact c70)),hx.2.2⟩
                · try exact nv c72
                  all_goals try (first|(exact absurd (by assumption) (by decide:¬(true=false)))|(exfalso;omega))
                  all_goals refine J10 ?_
                  all_goals
                   refine k_rv Tryz.results53 (λ w hw=>?_)
                   exact⟨(false,y.2),rfl,⟨by rw[vis_some hnot hr,nodeV_xs,visB_at (by omega) hx.2.1,visB_no (by rw[nodeV_c'];exact c70) (by rw[nodeV_c'];exact c72)];exact rfl,hx.2.2⟩,hw.finH⟩
          · try exact nv c60
            all_goals try (first|(exact absurd (by assumption) (by decide:¬(true=false)))|(exfalso;omega))
            all_goals (refine k_exit rfl ?_;refine J10 ?_)
            all_goals
             refine k_rv Tryz.results53 (λ w hw=>?_)
             refine⟨(true,y.2),rfl,⟨?_,hx.2.2⟩,hw.finH⟩
             have e2:=hx.2.1
             rw[List.take_of_length_le (by omega)] at e2
             rw[vis_some hnot hr,nodeV_xs,e2]
             exact⟨rfl,rfl⟩
theorem visit_c(h0:Fits L)(hb:StB L cs)(hl:L.length<=274877906944)(hc:cs.length<=274877906944)(b pv:Nat)(pp:Option Addr)(ps:List Pr)(cp:Nat):∀n,VisC L cs gen pn cn pc cc b pv pp ps cp n
 | 0=>visit1_c h0 hb hl hc b pv pp ps cp 0 λ m e=>nomatch e
 | n+1=>visit1_c h0 hb hl hc b pv pp ps cp (n+1) λ m e=>by cases e;exact visit_c h0 hb hl hc b pv pp ps cp n
end
end Go.Proofs.YtpobgmdalcpomaaGreat

/- Views: Contents and Inner. -/
namespace Go.Proofs.YtpobgmdalcpomaaGreat
open Go Go.RowKit Go.Ct
section
variable{L:List NdV}{cs:List Int}{gen:Int}{pn pc:Option Addr}{cn cc:Nat}{w:World}
theorem vProper_ok(h:StAt w L cs pn pc)(hl:L.length<=274877906944)(hc:cs.length<=274877906944)(hcn:L.length<=cn)(hp:Proper L cs gen):Calls Tryz.prog 41 #[stG L cs gen pn cn pc cc] w λ e w'=>e=.returned (.bool true)/\St w [] [] w':=by
 refine enter Tryz.func41 Tryz.ntmps41 rfl rfl h.start ?_
 simp only[mkS]
 simp only[stG]
 all_goals (refine J0 ?_;refine j_box (λ x1=>?_);refine J1 ?_;refine J25 ?_;(refine j_own (cFH (hc:=λ w1 hw=>ofOk_c (h.of0 hw) hl hc hcn hp)) (λ x7=>?_);try (refine l_fact (λ h7=>?_)));refine J82 ?_;refine J8 ?_;refine J2 ?_;refine J28 ?_)
 all_goals
 refine k_rv Tryz.results41 (λ w hw=>?_)
 exact⟨rfl,hw.done⟩
theorem vProper_no(h:StAt w L cs pn pc)(hl:L.length<=274877906944)(hc:cs.length<=274877906944)(hp:¬Proper L cs gen):Calls Tryz.prog 41 #[stG L cs gen pn cn pc cc] w λ e w'=>e=.returned (.bool false)/\St w [] [] w':=by
 refine enter Tryz.func41 Tryz.ntmps41 rfl rfl h.start ?_
 simp only[mkS]
 simp only[stG]
 all_goals (refine J0 ?_;refine j_box (λ x1=>?_);refine J1 ?_;refine J25 ?_;(refine j_own (cV (hc:=λ w1 hw=>ofNo_c (h.of0 hw) hl hc hp)) (λ x7=>?_);try (refine l_fact (λ h7=>?_)));refine J82 ?_;refine J8 ?_;refine J2 ?_;refine J28 ?_)
 all_goals
 refine k_rv Tryz.results41 (λ w hw=>?_)
 exact⟨rfl,hw.done⟩
theorem vProper_c(h:StAt w L cs pn pc)(hl:L.length<=274877906944)(hc:cs.length<=274877906944)(hcn:L.length<=cn):Calls Tryz.prog 41 #[stG L cs gen pn cn pc cc] w λ e w'=>∃r:Bool,e=.returned (.bool r)/\(r=true↔Proper L cs gen)/\St w [] [] w':=by
 by_cases hp:Proper L cs gen
 ·exact(vProper_ok h hl hc hcn hp).mono λ _ _ h=>⟨true,h.1,⟨λ _=>hp,λ _=>rfl⟩,h.2⟩
 ·exact(vProper_no h hl hc hp).mono λ _ _ h=>⟨false,h.1,⟨(λ h=>nomatch h),λ h=>absurd h hp⟩,h.2⟩
theorem stB_of(hp:Proper L cs gen)(hr:Rngs L)(hl:L.length<=274877906944):StB L cs:=by
 have hd:∀x:Int,Ins x L.length->x<=9223372036854775807:=λ x h=>by have:=h.2;omega
 refine⟨λ c=>?_,λ r=>?_,λ r=>?_,λ r=>?_,λ r=>?_,λ r=>?_,λ r=>?_⟩
 ·unfold cellV
  split
  ·exact hd _ (hp.cells _ (by omega))
  ·decide
 ·unfold nodeV
  split
  ·exact hd _ (hp.nodes (r-1).toNat (by omega)).2.2.2.1
  ·decide
 ·unfold nodeV
  split
  ·exact hd _ (hp.nodes (r-1).toNat (by omega)).2.2.2.2.2
  ·decide
 ·unfold nodeV
  split
  ·exact(hr _ (getD_mem (by omega))).main
  ·decide
 ·unfold nodeV
  split
  ·exact(hr _ (getD_mem (by omega))).prev
  ·decide
 ·unfold nodeV
  split
  ·exact(hr _ (getD_mem (by omega))).status
  ·decide
 ·unfold nodeV
  split
  ·intro b hb
   obtain⟨i,hi,rfl⟩:=List.mem_iff_getElem.1 hb
   have:=(hp.nodes (r-1).toNat (by omega)).2.2.1 i hi
   rw[List.getD_eq_getElem?_getD,List.getElem?_eq_getElem hi] at this
   exact hd _ this
  ·intro b hb
   cases hb
open Classical in
noncomputable def travO (L:List NdV) (cs:List Int) (gen:Int) (c:Int):Option (List Int):=if Proper L cs gen then(rootO (L.map NdV.c) cs c).bind λ r=>vis (L.map NdV.c) cs 12 r [] else none
theorem travO_if(hp:Proper L cs gen){c:Int}:travO L cs gen c=(rootO (L.map NdV.c) cs c).bind λ r=>vis (L.map NdV.c) cs 12 r []:=if_pos hp
theorem root_in{c r:Int}(h:rootO (L.map NdV.c) cs c=some r):∃k:Nat,r=((k+1:Nat):Int)/\k<L.length:=by
 unfold rootO at h
 split at h
 ·rename_i hk
  cases h
  have:=kind_in (N:=L.map NdV.c) (i:=rootP (L.map NdV.c) cs c) (by omega)
  rw[List.length_map] at this
  exact⟨(rootP (L.map NdV.c) cs c-1).toNat,by omega,by omega⟩
 ·cases h
theorem trav_dead{o:Option (List Int)}{b:Bool}{q:VQ}{P:Prop}(h:VisR o b q/\P)(ho:o=none)(hb:b=true):False:=by
 have h1:=h.1
 rw[ho,hb] at h1
 exact nomatch (show true=false from h1)
theorem traverse_no(h:StAt w L cs pn pc)(hr:Rngs L)(hl:L.length<=274877906944)(hc:cs.length<=274877906944)(hcn:L.length<=cn)(c:Int)(ro:Bool)(hi:c<=9223372036854775807)(hn:travO L cs gen c=none):Calls Tryz.prog 33 #[stG L cs gen pn cn pc cc,.agg ⟨[.int .i64 c,.bool ro]⟩] w λ e w'=>e=.returned (.tuple #[.pointer none,.bool false])/\St w [] [] w':=by
  refine enter Tryz.func33 Tryz.ntmps33 rfl rfl (h.start.nilOwn 52 1) ?_
  simp only[mkS]
  simp only[stG]
  all_goals (refine J0 ?_;refine j_box (λ x2=>?_);refine j_box (λ x3=>?_);refine J8 ?_;refine k_seq ?_;refine J25 ?_;(refine j_own (c0 (V:=.bool) (hc:=λ w1 hw=>vProper_c (h.of0 hw) hl hc hcn)) (λ x10=>?_);try (refine l_fact (λ h10=>?_)));refine J33 ?_)
  all_goals
   refine kif (λ c11=>?_) (λ c11=>?_)
   · try exact nv c11
     all_goals refine J66 ?_
     all_goals
      refine k_rt Tryz.results33 (λ w hw=>?_)
      first
       | exact⟨rfl,hw.done⟩
   · try exact nv c11
     all_goals
      have hp:Proper L cs gen:=h10.1 (by simpa using c11)
      have hb:=stB_of hp hr hl
      rw[travO_if hp] at hn
     all_goals (refine k_skip ?_;refine J25 ?_;refine j_load ?_;(refine j_own (cV (hc:=λ w1 hw=>vRoot_c (h.of0 hw) hb hl hc c ro hi)) (λ x15=>?_);try (refine l_fact (λ h15=>?_)));refine J82 ?_;refine J8 ?_;refine J32 ?_;refine J33 ?_)
     all_goals
      refine kif (λ c19=>?_) (λ c19=>?_)
      · try exact nv c19
        all_goals refine J66 ?_
        all_goals
         refine k_rt Tryz.results33 (λ w hw=>?_)
         first
          | exact⟨rfl,hw.done⟩
      · try exact nv c19
        all_goals
         obtain⟨r,hrt⟩:=Option.isSome_iff_exists.1 (show(rootO (L.map NdV.c) cs c).isSome=true by simpa using c19)
         obtain⟨k,rfl,hk⟩:=root_in hrt
         rw[hrt,Option.bind_some] at hn
         rw[hrt,Option.getD_some]
        all_goals (refine J16 ?_;refine k_dp [(0,[]),(1,[]),(2,[]),(3,[]),(4,[0]),(5,[]),(6,[]),(7,[])] ?_;refine r_load ?_;refine J15 ?_;refine r_len ?_;refine r_makeSlice (h:=λ x24=>?_);refine r_build ?_;refine r_box (h:=λ x26=>?_);refine J7 ?_;refine J65 ?_;(refine j_own (cM (hs:=[(x26,trO L cs gen pn cn pc cc x24 ⟨[],List.replicate L.length false,none,0⟩ none [] 0)]) (os:=trW L x24 ⟨[],List.replicate L.length false,none,0⟩) (hc:=λ w1 hs=>visit_c h.fit hb hl hc x26 x24 none [] 0 12 0 rfl k ⟨[],List.replicate L.length false,none,0⟩ _ w1 hk (Vis.zero _) hs)) (λ x29=>?_);try (refine l_fact (λ h29=>?_)));refine J33 ?_)
        all_goals
         refine kif (λ c30=>?_) (λ c30=>?_)
         · try exact nv c30
           all_goals refine J66 ?_
           all_goals
            refine k_rt Tryz.results33 (λ w hw=>?_)
            first
             | exact⟨rfl,hw.done⟩
             | exact(trav_dead h29 hn (by simpa using c30)).elim
         · try exact nv c30
           all_goals (refine k_skip ?_;refine J2 ?_;refine J8 ?_)
           all_goals
            refine k_rt Tryz.results33 (λ w hw=>?_)
            first
             | exact⟨rfl,hw.done⟩
             | exact(trav_dead h29 hn (by simpa using c30)).elim
theorem traverse_ok(h:StAt w L cs pn pc)(hr:Rngs L)(hl:L.length<=274877906944)(hc:cs.length<=274877906944)(hcn:L.length<=cn)(c:Int)(ro:Bool)(hi:c<=9223372036854775807){l:List Int}(hn:travO L cs gen c=some l):Calls Tryz.prog 33 #[stG L cs gen pn cn pc cc,.agg ⟨[.int .i64 c,.bool ro]⟩] w λ e w'=>∃x:Nat×Nat×VQ,e=.returned (.tuple #[.pointer (some ⟨x.1,0,none⟩),.bool true])/\(x.2.2.l=l/\l.length<=L.length)/\SF w [] [(x.1,trO L cs gen pn cn pc cc x.2.1 x.2.2 none [] 0)] [] [] (trW L x.2.1 x.2.2) w':=by
  have hp:Proper L cs gen:=by
    unfold travO at hn
    split at hn
    · assumption
    · cases hn
  have hb:=stB_of hp hr hl
  rw[travO_if hp] at hn
  obtain⟨r,hrt,hn⟩:=Option.bind_eq_some_iff.1 hn
  obtain⟨k,rfl,hk⟩:=root_in hrt
  refine enter Tryz.func33 Tryz.ntmps33 rfl rfl (h.start.nilOwn 52 1) ?_
  simp only[mkS]
  simp only[stG]
  all_goals (refine J0 ?_;refine j_box (λ x2=>?_);refine j_box (λ x3=>?_);refine J8 ?_;refine k_seq ?_;refine J25 ?_;(refine j_own (cV (hc:=λ w1 hw=>vProper_ok (h.of0 hw) hl hc hcn hp)) (λ x10=>?_);try (refine l_fact (λ h10=>?_)));refine J33 ?_)
  all_goals
   refine kif (λ c11=>?_) (λ c11=>?_)
   · try exact nv c11
     all_goals refine J66 ?_
     all_goals
      refine k_rt Tryz.results33 (λ w hw=>?_)
      have h1:=h29.1
      rw[hn] at h1
      exact⟨(x26,x24,x29.2),rfl,⟨h1.2,by rw[<- h1.2];exact h29.2.len⟩,hw.ret (List.Sublist.cons_cons _ (List.nil_sublist _)) (FSub.ofSub λ f hf=>(List.not_mem_nil hf).elim) (List.Sublist.refl _)⟩
   · try exact nv c11
     all_goals (refine k_skip ?_;refine J25 ?_;refine j_load ?_;(refine j_own (cV (hc:=λ w1 hw=>by have:=vRoot_c (gen:=gen) (cn:=cn) (cc:=cc) (h.of0 hw) hb hl hc c ro hi;rw[hrt] at this;exact this)) (λ x15=>?_);try (refine l_fact (λ h15=>?_)));refine J82 ?_;refine J8 ?_;refine J32 ?_;refine J33 ?_)
     all_goals
      refine kif (λ c19=>?_) (λ c19=>?_)
      · try exact nv c19
        all_goals
         simp at c19
        all_goals refine J66 ?_
        all_goals
         refine k_rt Tryz.results33 (λ w hw=>?_)
         have h1:=h29.1
         rw[hn] at h1
         exact⟨(x26,x24,x29.2),rfl,⟨h1.2,by rw[<- h1.2];exact h29.2.len⟩,hw.ret (List.Sublist.cons_cons _ (List.nil_sublist _)) (FSub.ofSub λ f hf=>(List.not_mem_nil hf).elim) (List.Sublist.refl _)⟩
      · try exact nv c19
        all_goals (refine J16 ?_;refine k_dp [(0,[]),(1,[]),(2,[]),(3,[]),(4,[0]),(5,[]),(6,[]),(7,[])] ?_;refine r_load ?_;refine J15 ?_;refine r_len ?_;refine r_makeSlice (h:=λ x24=>?_);refine r_build ?_;refine r_box (h:=λ x26=>?_);refine J7 ?_;refine J65 ?_;(refine j_own (cM (hs:=[(x26,trO L cs gen pn cn pc cc x24 ⟨[],List.replicate L.length false,none,0⟩ none [] 0)]) (os:=trW L x24 ⟨[],List.replicate L.length false,none,0⟩) (hc:=λ w1 hs=>visit_c h.fit hb hl hc x26 x24 none [] 0 12 0 rfl k ⟨[],List.replicate L.length false,none,0⟩ _ w1 hk (Vis.zero _) hs)) (λ x29=>?_);try (refine l_fact (λ h29=>?_)));refine J33 ?_)
        all_goals
         refine kif (λ c30=>?_) (λ c30=>?_)
         · try exact nv c30
           all_goals
            exfalso
            have h1:=h29.1
            rw[hn] at h1
            have h2:=h1.1
            simp_all
           all_goals refine J66 ?_
           all_goals
            refine k_rt Tryz.results33 (λ w hw=>?_)
            have h1:=h29.1
            rw[hn] at h1
            exact⟨(x26,x24,x29.2),rfl,⟨h1.2,by rw[<- h1.2];exact h29.2.len⟩,hw.ret (List.Sublist.cons_cons _ (List.nil_sublist _)) (FSub.ofSub λ f hf=>(List.not_mem_nil hf).elim) (List.Sublist.refl _)⟩
         · try exact nv c30
           all_goals (refine k_skip ?_;refine J2 ?_;refine J8 ?_)
           all_goals
            refine k_rt Tryz.results33 (λ w hw=>?_)
            have h1:=h29.1
            rw[hn] at h1
            exact⟨(x26,x24,x29.2),rfl,⟨h1.2,by rw[<- h1.2];exact h29.2.len⟩,hw.ret (List.Sublist.cons_cons _ (List.nil_sublist _)) (FSub.ofSub λ f hf=>(List.not_mem_nil hf).elim) (List.Sublist.refl _)⟩
end
end Go.Proofs.YtpobgmdalcpomaaGreat

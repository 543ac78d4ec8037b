/- Merged. -/
import Derived.Test.YtdnklbipddigbaaGreatGVp1
import Derived.Test.YtdnklbipddigbaaGreatGPa1
set_option linter.unusedSimpArgs false
set_option linter.unusedVariables false
namespace Go.Proofs.YtdnklbipddigbaaGreat
open Go.Proofs.Tryz (prog)
section
open Go Go.RowKit Go.Ct
section
variable{L:List NdV}{cs:List Int}{gen:Int}{pn pc:Option Addr}{cn cc:Nat}{w:World}
theorem vProper_ok(h:StAt w L cs pn pc)(hl:L.length<=274877906944)(hc:cs.length<=274877906944)(hcn:L.length<=cn)(hp:Proper L cs gen):Calls prog 51 #[stG L cs gen pn cn pc cc] w λ e w'=>e=.returned (.bool true)/\St w [] [] w':=by refine enter Tryz.func51 Tryz.ntmps51 rfl rfl h.start ?_;simp only[mkS];simp only[stG];refine J0 ?_;refine j_box (λ x1=>?_);refine J1 ?_;refine J25 ?_;refine j_ownF (cFH (hc:=λ w1 hw=>ofOk_c (h.of0 hw) hl hc hcn hp)) (λ x7 h7=>?_);refine Kb4 ?_;refine J2 ?_;refine J28 ?_;refine k_rv Tryz.results51 (λ w hw=>?_);exact⟨rfl,hw.done⟩
theorem vProper_no(h:StAt w L cs pn pc)(hl:L.length<=274877906944)(hc:cs.length<=274877906944)(hp:¬Proper L cs gen):Calls prog 51 #[stG L cs gen pn cn pc cc] w λ e w'=>e=.returned (.bool false)/\St w [] [] w':=by refine enter Tryz.func51 Tryz.ntmps51 rfl rfl h.start ?_;simp only[mkS];simp only[stG];refine J0 ?_;refine j_box (λ x1=>?_);refine J1 ?_;refine J25 ?_;refine j_own (cV (hc:=λ w1 hw=>ofNo_c (h.of0 hw) hl hc hp)) (λ x7=>?_);refine Kb4 ?_;refine J2 ?_;refine J28 ?_;refine k_rv Tryz.results51 (λ w hw=>?_);exact⟨rfl,hw.done⟩
theorem vProper_c(h:StAt w L cs pn pc)(hl:L.length<=274877906944)(hc:cs.length<=274877906944)(hcn:L.length<=cn):Calls prog 51 #[stG L cs gen pn cn pc cc] w λ e w'=>∃r:Bool,e=.returned (.bool r)/\(r=true↔Proper L cs gen)/\St w [] [] w':=by
 by_cases hp:Proper L cs gen;·exact(vProper_ok h hl hc hcn hp).mono λ _ _ h=>⟨true,h.1,⟨λ _=>hp,λ _=>rfl⟩,h.2⟩
 ·exact(vProper_no h hl hc hp).mono λ _ _ h=>⟨false,h.1,⟨(λ h=>nomatch h),λ h=>absurd h hp⟩,h.2⟩
theorem stB_of(hp:Proper L cs gen)(hr:Rngs L)(hl:L.length<=274877906944):StB L cs:=by
 have hd:∀x:Int,Ins x L.length->x<=9223372036854775807:=λ x h=>by have:=h.2;omega
 refine⟨λ c=>?_,λ r=>?_,λ r=>?_,λ r=>?_,λ r=>?_,λ r=>?_,λ r=>?_⟩
 ·unfold cellV;split;·exact hd _ (hp.cells _ (by omega))
  ·decide
 ·unfold nodeV;split;·exact hd _ (hp.nodes (r-1).toNat (by omega)).2.2.2.1
  ·decide
 ·unfold nodeV;split;·exact hd _ (hp.nodes (r-1).toNat (by omega)).2.2.2.2.2
  ·decide
 ·unfold nodeV;split;·exact(hr _ (getD_mem (by omega))).main
  ·decide
 ·unfold nodeV;split;·exact(hr _ (getD_mem (by omega))).prev
  ·decide
 ·unfold nodeV;split;·exact(hr _ (getD_mem (by omega))).status
  ·decide
 ·unfold nodeV;split;·intro b hb;obtain⟨i,hi,rfl⟩:=List.mem_iff_getElem.1 hb;have:=(hp.nodes (r-1).toNat (by omega)).2.2.1 i hi;rw[gdg,List.getElem?_eq_getElem hi] at this;exact hd _ this
  ·intro b hb;cases hb
open Classical in
noncomputable def travO (L:List NdV) (cs:List Int) (gen:Int) (c:Int):Option (List Int):=if Proper L cs gen then(rootO (L.map NdV.c) cs c).bind λ r=>vis (L.map NdV.c) cs 12 r [] else none
theorem travO_if(hp:Proper L cs gen){c:Int}:travO L cs gen c=(rootO (L.map NdV.c) cs c).bind λ r=>vis (L.map NdV.c) cs 12 r []:=if_pos hp
theorem trav_dead{o:Option (List Int)}{b:Bool}{q:VQ}{P:Prop}(h:VisR o b q/\P)(ho:o=none)(hb:b=true):False:=by have h1:=h.1;rw[ho,hb] at h1;exact nomatch (show true=false from h1)
theorem traverse_no(h:StAt w L cs pn pc)(hr:Rngs L)(hl:L.length<=274877906944)(hc:cs.length<=274877906944)(hcn:L.length<=cn)(c:Int)(ro:Bool)(hi:c<=9223372036854775807)(hn:travO L cs gen c=none):Calls prog 95 #[stG L cs gen pn cn pc cc,.agg ⟨[.int .i64 c,.bool ro]⟩] w λ e w'=>e=.returned (.tuple #[.pointer none,.bool false])/\St w [] [] w':=by
 refine enter Tryz.func95 Tryz.ntmps95 rfl rfl (h.start.nilOwn 28 1) ?_;simp only[mkS];simp only[stG];refine J0 ?_;refine j_box (λ x2=>?_);refine j_box (λ x3=>?_);refine Kd8 ?_;refine J25 ?_;refine j_ownF (c0 (V:=.bool) (hc:=λ w1 hw=>vProper_c (h.of0 hw) hl hc hcn)) (λ x10 h10=>?_);refine J33 ?_;refine kif (λ c11=>?_) (λ c11=>?_)
 ·refine J66 ?_;refine k_rt Tryz.results95 (λ w hw=>?_)
  first
  | exact⟨rfl,hw.done⟩
 ·have hp:Proper L cs gen:=h10.1 (by simpa using c11);have hb:=stB_of hp hr hl;rw[travO_if hp] at hn;refine Kc5 ?_;refine j_load ?_;refine j_own (cV (hc:=λ w1 hw=>vRoot_c (h.of0 hw) hb hl hc c ro hi)) (λ x15=>?_);refine Kb9 ?_;refine J33 ?_;refine kif (λ c19=>?_) (λ c19=>?_)
  ·refine J66 ?_;refine k_rt Tryz.results95 (λ w hw=>?_)
   first
   | exact⟨rfl,hw.done⟩
  ·obtain⟨r,hrt⟩:=Option.isSome_iff_exists.1 (show(rootO (L.map NdV.c) cs c).isSome=true by simpa using c19);obtain⟨k,rfl,hk⟩:=root_in hrt;rw[hrt,Option.bind_some] at hn;rw[hrt,Option.getD_some];refine J16 ?_;refine k_dp [(0,[]),(1,[]),(2,[]),(3,[]),(4,[0]),(5,[]),(6,[]),(7,[])] ?_;refine r_load ?_;refine J15 ?_;refine r_len ?_;refine r_makeSlice (h:=λ x24=>?_);refine r_build ?_;refine r_box (h:=λ x26=>?_);refine J7 ?_;refine J65 ?_;refine j_ownF (cM (hs:=[(x26,trO L cs gen pn cn pc cc x24 ⟨[],List.replicate L.length false,none,0⟩ none [] 0)]) (os:=trW L x24 ⟨[],List.replicate L.length false,none,0⟩) (hc:=λ w1 hs=>visit_c h.fit hb hl hc x26 x24 none [] 0 12 0 rfl k ⟨[],List.replicate L.length false,none,0⟩ _ w1 hk (Vis.zero _) hs)) (λ x29 h29=>?_);refine J33 ?_;refine kif (λ c30=>?_) (λ c30=>?_)
   ·refine J66 ?_;refine k_rt Tryz.results95 (λ w hw=>?_)
    first
    | exact⟨rfl,hw.done⟩
    | exact(trav_dead h29 hn (by simpa using c30)).elim
   ·refine Kf5 ?_;refine k_rt Tryz.results95 (λ w hw=>?_)
    first
    | exact⟨rfl,hw.done⟩
    | exact(trav_dead h29 hn (by simpa using c30)).elim
theorem traverse_ok(h:StAt w L cs pn pc)(hr:Rngs L)(hl:L.length<=274877906944)(hc:cs.length<=274877906944)(hcn:L.length<=cn)(c:Int)(ro:Bool)(hi:c<=9223372036854775807){l:List Int}(hn:travO L cs gen c=some l):Calls prog 95 #[stG L cs gen pn cn pc cc,.agg ⟨[.int .i64 c,.bool ro]⟩] w λ e w'=>∃x:Nat×Nat×VQ,e=.returned (.tuple #[.pointer (some ⟨x.1,0,none⟩),.bool true])/\(x.2.2.l=l/\l.length<=L.length)/\SF w [] [(x.1,trO L cs gen pn cn pc cc x.2.1 x.2.2 none [] 0)] [] [] (trW L x.2.1 x.2.2) w':=by
 have hp:Proper L cs gen:=by
  unfold travO at hn;split at hn;·assumption
  ·cases hn
 have hb:=stB_of hp hr hl;rw[travO_if hp] at hn;obtain⟨r,hrt,hn⟩:=Option.bind_eq_some_iff.1 hn;obtain⟨k,rfl,hk⟩:=root_in hrt;refine enter Tryz.func95 Tryz.ntmps95 rfl rfl (h.start.nilOwn 28 1) ?_;simp only[mkS];simp only[stG];refine J0 ?_;refine j_box (λ x2=>?_);refine j_box (λ x3=>?_);refine Kd8 ?_;refine J25 ?_;refine j_own (cV (hc:=λ w1 hw=>vProper_ok (h.of0 hw) hl hc hcn hp)) (λ x10=>?_);refine J33 ?_;refine kif (λ c11=>?_) (λ c11=>?_);·exact nv c11
 ·refine Kc5 ?_;refine j_load ?_;refine j_own (cV (hc:=λ w1 hw=>by have:=vRoot_c (gen:=gen) (cn:=cn) (cc:=cc) (h.of0 hw) hb hl hc c ro hi;rw[hrt] at this;exact this)) (λ x15=>?_);refine Kb9 ?_;refine J33 ?_;refine kif (λ c19=>?_) (λ c19=>?_);·simp at c19
  ·refine J16 ?_;refine k_dp [(0,[]),(1,[]),(2,[]),(3,[]),(4,[0]),(5,[]),(6,[]),(7,[])] ?_;refine r_load ?_;refine J15 ?_;refine r_len ?_;refine r_makeSlice (h:=λ x24=>?_);refine r_build ?_;refine r_box (h:=λ x26=>?_);refine J7 ?_;refine J65 ?_;refine j_ownF (cM (hs:=[(x26,trO L cs gen pn cn pc cc x24 ⟨[],List.replicate L.length false,none,0⟩ none [] 0)]) (os:=trW L x24 ⟨[],List.replicate L.length false,none,0⟩) (hc:=λ w1 hs=>visit_c h.fit hb hl hc x26 x24 none [] 0 12 0 rfl k ⟨[],List.replicate L.length false,none,0⟩ _ w1 hk (Vis.zero _) hs)) (λ x29 h29=>?_);refine J33 ?_;refine kif (λ c30=>?_) (λ c30=>?_);·exfalso;have h1:=h29.1;rw[hn] at h1;have h2:=h1.1;simp_all
   ·refine Kf5 ?_;refine k_rt Tryz.results95 (λ w hw=>?_);have h1:=h29.1;rw[hn] at h1;exact⟨(x26,x24,x29.2),rfl,⟨h1.2,by rw[<- h1.2];exact h29.2.len⟩,hw.ret (List.Sublist.cons_cons _ (List.nil_sublist _)) (FSub.ofSub λ f hf=>(List.not_mem_nil hf).elim) (List.Sublist.refl _)⟩
end
end
end Go.Proofs.YtdnklbipddigbaaGreat
namespace Go.Ct
open Go Go.RowKit
section
structure PQ where
 ps:List Pr
 p:Option Addr
 c:Nat
def Seen(N:List Nv)(cs:List Int)(n:Nat)(i:Int):Prop:=∃l l2,vis N cs n i l=some l2
theorem seen_branch{N:List Nv}{cs:List Int}{n:Nat}{xs l l2:List Int}(h:visB N (vis N cs n) xs l=some l2):∀b∈xs,(ndAt N b).kind=4∨((ndAt N b).kind=2/\Seen N cs n b):=by
 induction xs generalizing l with
 | nil=>intro b hb;cases hb
 | cons a r ih=>
  unfold visB at h;split at h
  ·rename_i hk;intro b hb;rcases List.mem_cons.1 hb with rfl|hb;·exact .inl hk
   ·exact ih h b hb
  split at h
  ·rename_i hk;obtain⟨l3,h3,h⟩:=Option.bind_eq_some_iff.1 h;intro b hb;rcases List.mem_cons.1 hb with rfl|hb;·exact .inr ⟨hk,l,l3,h3⟩
   ·exact ih h b hb
  ·cases h
theorem seen_body{N:List Nv}{cs:List Int}{n:Nat}{i:Int}(h:Seen N cs n i):∃m k,n=k+1/\bodyO N cs i=some m/\∀b∈(ndAt N m).xs,(ndAt N b).kind=4∨((ndAt N b).kind=2/\Seen N cs k b):=by
 obtain⟨l,l2,h⟩:=h;cases n with
 | zero=>cases h
 | succ k=>
  unfold vis at h;split at h;·cases h
  obtain⟨m,hm,h⟩:=Option.bind_eq_some_iff.1 h;exact⟨m,k,rfl,hm,seen_branch h⟩
theorem col_body{N:List Nv}{cs:List Int}{n:Nat}{i m:Int}(h:bodyO N cs i=some m):col N cs (n+1) i=ownP (ndAt N m)++colB N (col N cs n) (ndAt N m).xs:=by unfold col;rw[h]
theorem colB_next{N:List Nv}{f:Int->List Pr}{xs:List Int}{k:Nat}(hk:k<xs.length):colB N f (xs.take (k+1))=colB N f (xs.take k)++colB N f [xs.getD k 0]:=by rw[List.take_add_one,List.getElem?_eq_getElem hk,colB_app,gdg,List.getElem?_eq_getElem hk];rfl
theorem colB_le{N:List Nv}{f:Int->List Pr}{xs:List Int}{k:Nat}(hk:k<xs.length):(colB N f (xs.take k)).length+(colB N f [xs.getD k 0]).length<=(colB N f xs).length:=by
 have e:colB N f xs=colB N f (xs.take (k+1))++colB N f (xs.drop (k+1)):=by rw[<- colB_app,List.take_append_drop]
 rw[e,colB_next hk];simp only[List.length_append];omega
theorem colB_s{N:List Nv}{f:Int->List Pr}{b:Int}(h:(ndAt N b).kind=4):colB N f [b]=[((ndAt N b).key,(ndAt N b).val)]:=by simp[colB,h]
theorem colB_i{N:List Nv}{f:Int->List Pr}{b:Int}(h:(ndAt N b).kind=2):colB N f [b]=f b:=by simp[colB,h]
end
end Go.Ct
namespace Go.Proofs.YtdnklbipddigbaaGreat
open Go Go.RowKit Go.Ct
section
section
variable{L:List NdV}{cs:List Int}{gen:Int}{pn pc:Option Addr}{cn cc:Nat}{w:World}
abbrev tcO(L:List NdV)(cs:List Int)(gen:Int)(pn:Option Addr)(cn:Nat)(pc:Option Addr)(cc:Nat)(v1 v2:Value)(q:PQ):Obj:=.cells ⟨[.slice pn L.length cn,.slice pc cs.length cc,.int .i64 gen,v1,v2,.slice q.p q.ps.length q.c]⟩ 161 (0,0)
abbrev tcW(q:PQ):List Ow:=[⟨q.p,prC q.ps,q.c,106,2⟩]
theorem tcOpen{w0:World}{D:List Nat}{b:Nat}{q:PQ}{v1 v2:Value}{A F:Fr}(h:SF w0 D [(b,tcO L cs gen pn cn pc cc v1 v2 q)] A F (tcW q) w) :
  SF w0 D [(b,.cells ⟨[.slice pn L.length cn,.slice pc cs.length cc,.int .i64 gen,v1,v2,.slice q.p q.ps.length q.c]⟩ 161 (0,0))] A F [⟨q.p,prC q.ps,q.c,106,2⟩] w:=h
def ColC(L:List NdV)(cs:List Int)(gen:Int)(pn:Option Addr)(cn:Nat)(pc:Option Addr)(cc:Nat)(b:Nat)(v1 v2:Value)(n:Nat):Prop:=∀(i:Int) (q:PQ) (D:List Nat) (w:World),i<=9223372036854775807->Seen (L.map NdV.c) cs n i->q.ps.length+(col (L.map NdV.c) cs n i).length<=549755813888->SF w D [(b,tcO L cs gen pn cn pc cc v1 v2 q)] ((pn,nvC L)::(pc,refsC cs)::famF L) [] (tcW q) w ->
  Calls Tryz.prog 96 #[.pointer (some ⟨b,0,none⟩),.int .i64 i] w λ e w'=>∃x:PQ,e=.returned (.tuple #[])/\x.ps=q.ps++col (L.map NdV.c) cs n i/\SF w D [(b,tcO L cs gen pn cn pc cc v1 v2 x)] [] [] (tcW x) w'
theorem collect1_c(h0:Fits L)(hb:StB L cs)(hl:L.length<=274877906944)(hc:cs.length<=274877906944)(b:Nat)(v1 v2:Value)(n:Nat)(ih:∀m,n=m+1->ColC L cs gen pn cn pc cc b v1 v2 m):ColC L cs gen pn cn pc cc b v1 v2 n:=by
 intro i q D w hi hs hq hsf;obtain⟨r,m,rfl,hr,hbr⟩:=seen_body hs;have hri:=mainK_in' (body_kind hr).2;rw[List.length_map] at hri;have hfr:=fit_nodeV h0 r;have hbn:=hfr.brN;have hbs:=hfr.brS;have hpn:=hfr.prN;have hps2:=hfr.prS;have hfm:=famV_br hri;have hfp:=famV_pr hri;have hbb:=hb.br r;rw[nodeV_xs] at hbr;have hown:ownP (ndAt (L.map NdV.c) r)=ownP (nodeV L r).c:=by rw[nodeV_c']
 rw[col_body hr,nodeV_xs,hown,List.length_append] at hq;refine enter Tryz.func96 Tryz.ntmps96 rfl rfl (tcOpen hsf) ?_;simp only[mkS];refine J45 ?_;refine l_quiet (o_loadPart (k:=3) rf atT ag1 (by simp only[List.drop_zero,List.take_succ_cons,List.take_zero];exact rfl) rfl) rfl ?_;refine j_move ?_;refine j_own (cV (hc:=λ w1 hw=>by have:=vMain_c (gen:=gen) (cn:=cn) (cc:=cc) (hw.stAt (.inr (.inl (.head _))) (.inr (.inl (.tail _ (.head _)))) (λ f hf=>.inr (.inl (.tail _ (.tail _ hf)))) h0) hb hl hc i hi;rw[hr] at this;exact this)) (λ x16=>?_);refine Kb4 ?_;refine J45 ?_;refine l_quiet (o_loadPart (k:=3) rf atT ag1 (by simp only[List.drop_zero,List.take_succ_cons,List.take_zero];exact rfl) rfl) rfl ?_;refine j_move ?_;refine j_own (cV (hc:=λ w1 hw=>vAt_c (hw.stAt (.inr (.inl (.head _))) (.inr (.inl (.tail _ (.head _)))) (λ f hf=>.inr (.inl (.tail _ (.tail _ hf)))) h0) r (by omega) hl)) (λ x24=>?_);refine j_alloc (λ x6=>?_);refine J5 ?_;refine J72 ?_;refine Kd2 ?_;refine J39 ?_;refine kif (λ c27=>?_) (λ c27=>?_)
 ·try (first|(exact abt)|(exfalso;omega))
  have ho:ownP (nodeV L r).c=[((nodeV L r).nd.key,(nodeV L r).nd.val)]:=if_pos c27;have hol:=congrArg List.length ho;simp only[List.length_cons,List.length_nil] at hol;refine k_dp [(0,[]),(1,[]),(2,[]),(3,[]),(4,[]),(5,[]),(6,[]),(7,[]),(8,[]),(9,[]),(10,[4]),(11,[]),(12,[]),(13,[]),(14,[])] ?_;refine J67 ?_;refine J15 ?_;refine J15 ?_;refine r_build ?_;refine r_buildSlice (h:=λ x39=>?_);((refine r_append (h:=λ x40=>?_);try (refine r_fact (λ h40=>?_))));refine J88 ?_;refine k_blk ?_;refine J24 ?_;refine Kc7 ?_;refine k_lp [8,9,58,59,60,61,62,63,64,65,66,67,68,69,70,71,72,73,74,75,76,77,78,79,80,81,82,83,84,85,86,87,88] (λ y:Nat×PQ=>[(58,.int .i64 ((y.1:Nat):Int))]) (λ y=>y.1<=(nodeV L r).xs.length/\y.2.ps=q.ps++(ownP (nodeV L r).c++colB (L.map NdV.c) (col (L.map NdV.c) cs m) ((nodeV L r).xs.take y.1))) (λ y=>[(x6,.cells ⟨(nodeV L r).nd.cells⟩ 45 (0,0)),(b,tcO L cs gen pn cn pc cc v1 v2 y.2)]) (λ _=>_) (λ y=>[⟨y.2.p,prC y.2.ps,y.2.c,106,2⟩]) (λ y=>(nodeV L r).xs.length-y.1) ((by exact(0,⟨q.ps++[((nodeV L r).nd.key,(nodeV L r).nd.val)],x40.1,x40.2⟩))) (⟨Nat.zero_le _,by rw[ho];simp[colB]⟩) (λ y f hx=>?_) (hw0:=λ w hw=>by(rw[show q.ps.length+1=(q.ps++[((nodeV L r).nd.key,(nodeV L r).nd.val)]).length by simp] at hw;exact hw.back));dsimp only[mkU,List.map,List.cons_append,List.nil_append];have hyl:=congrArg List.length hx.2;simp only[List.length_append] at hyl;have hps:=hx.1;refine Ke2 ?_;refine kif (λ c59=>?_) (λ c59=>?_)
  ·try (first|(exact abt)|(exfalso;omega))
   have hcl:=colB_le (N:=L.map NdV.c) (f:=col (L.map NdV.c) cs m) (xs:=(nodeV L r).xs) (k:=y.1) (by omega);have hin:(nodeV L r).xs.getD y.1 0∈(nodeV L r).xs:=by rw[gdg,List.getElem?_eq_getElem (by omega)];exact List.getElem_mem _
   have hbk:=hbb _ hin;have hbs2:=hbr _ hin;rw[nodeV_c'] at hbs2;refine Kf4 ?_;refine l_quiet (o_indexR (k:=y.1) rf rf sl1 on1 (.old (.tail (.tail (FAt.of_mem hfm)))) (by omega) (by omega)) rfl ?_;refine l_quiet (o_loadR (q:=y.1) rf on1 (.old (.tail (.tail (FAt.of_mem hfm)))) (by omega)) rfl ?_;refine J27 ?_;refine J45 ?_;refine l_quiet (o_loadPart (k:=3) rf atT ag1 (by simp only[List.drop_zero,List.take_succ_cons,List.take_zero];exact rfl) rfl) rfl ?_;refine j_move ?_;refine j_own (cV (hc:=λ w1 hw=>vAt_c (hw.stAt (.inr (.inl (.head _))) (.inr (.inl (.tail _ (.head _)))) (λ f hf=>.inr (.inl (.tail _ (.tail _ hf)))) h0) _ (by omega) hl)) (λ x67=>?_);refine j_alloc (λ x9=>?_);refine J5 ?_;refine J24 ?_;refine J50 ?_;refine kif (λ c70=>?_) (λ c70=>?_)
   ·try (first|(exact abt)|(exfalso;omega))
    have hk4:(ndAt (L.map NdV.c) ((nodeV L r).xs.getD y.1 0)).kind=4:=by rw[nodeV_c'];exact c70
    rw[colB_s hk4] at hcl;simp only[List.length_cons,List.length_nil] at hcl;refine k_seq ?_;refine k_dp [(0,[]),(1,[]),(2,[]),(3,[]),(4,[]),(5,[]),(6,[]),(7,[]),(8,[]),(9,[]),(10,[4]),(11,[]),(12,[]),(13,[]),(14,[])] ?_;refine J67 ?_;refine J15 ?_;refine J15 ?_;refine r_build ?_;refine r_buildSlice (h:=λ x81=>?_);((refine r_append (h:=λ x82=>?_);try (refine r_fact (λ h82=>?_))));refine J88 ?_;refine k_exit rfl ?_;refine Kb6 ?_;refine k_rd ((by exact(y.1+1,⟨y.2.ps++[((nodeV L ((nodeV L r).xs.getD y.1 0)).nd.key,(nodeV L ((nodeV L r).xs.getD y.1 0)).nd.val)],x82.1,x82.2⟩))) ?_ (hw1:=λ w hw=>by(rw[show y.2.ps.length+1=(y.2.ps++[((nodeV L ((nodeV L r).xs.getD y.1 0)).nd.key,(nodeV L ((nodeV L r).xs.getD y.1 0)).nd.val)]).length by simp] at hw;exact hw.back))
    ·first
      | exact⟨by omega,by rw[colB_next (by omega),colB_s hk4,nodeV_c',hx.2];simp only[List.append_assoc];exact rfl⟩
      | exact⟨by omega,by rw[colB_next (by omega),colB_i hk2.1,h87,hx.2];simp only[List.append_assoc]⟩
   ·try (first|(exact abt)|(exfalso;omega))
    have hk2:(ndAt (L.map NdV.c) ((nodeV L r).xs.getD y.1 0)).kind=2/\Seen (L.map NdV.c) cs m ((nodeV L r).xs.getD y.1 0):=by
     rcases hbs2 with h4|h2;·exact absurd h4 c70
     ·rw[nodeV_c'];exact h2
    rw[colB_i hk2.1] at hcl;refine k_skip ?_;refine J76 ?_;refine j_ownF (cM (hs:=[(b,tcO L cs gen pn cn pc cc v1 v2 y.2)]) (os:=tcW y.2) (hc:=λ w1 hs=>ih m rfl ((nodeV L r).xs.getD y.1 0) y.2 _ w1 hbk hk2.2 (by omega) hs)) (λ x87 h87=>?_);refine l_nil ?_;refine k_blk ?_;refine Kb6 ?_;refine k_rd ((by exact(y.1+1,x87))) ?_ (hw1:=λ w hw=>by exact hw.back)
    ·first
      | exact⟨by omega,by rw[colB_next (by omega),colB_s hk4,nodeV_c',hx.2];simp only[List.append_assoc];exact rfl⟩
      | exact⟨by omega,by rw[colB_next (by omega),colB_i hk2.1,h87,hx.2];simp only[List.append_assoc]⟩
  ·try (first|(exact abt)|(exfalso;omega))
   refine k_exit rfl ?_;refine k_et Tryz.results96 (λ w hw=>?_);refine⟨y.2,rfl,?_,hw.finH⟩;have e2:=hx.2;rw[List.take_of_length_le (by omega)] at e2;rw[col_body hr,nodeV_xs,hown,e2]
 ·try (first|(exact abt)|(exfalso;omega))
  refine J39 ?_;refine kif (λ c43=>?_) (λ c43=>?_)
  ·try (first|(exact abt)|(exfalso;omega))
   have ho:ownP (nodeV L r).c=(nodeV L r).ys:=(if_neg (show ¬(nodeV L r).nd.kind=5 by simpa using c27)).trans (if_pos c43);have hol:=congrArg List.length ho;refine k_dq [0,1,2,3,4,5,6,7,8,9,10] ?_;refine J67 ?_;refine J15 ?_;((refine r_own (i:=7) (hq:=(Loud.convOF (o_appP (l:=q.ps) (l2:=(nodeV L r).ys) rf rf oaT rfl (.old (.tail (.tail (FAt.of_mem hfp)))) hpn.symm ep1 sl1 (by omega)) co1)) (h:=λ x52=>?_);try (refine r_fact (λ h52=>?_))));refine J88 ?_;refine k_blk ?_;refine J24 ?_;refine Kc7 ?_;refine k_lp [8,9,58,59,60,61,62,63,64,65,66,67,68,69,70,71,72,73,74,75,76,77,78,79,80,81,82,83,84,85,86,87,88] (λ y:Nat×PQ=>[(58,.int .i64 ((y.1:Nat):Int))]) (λ y=>y.1<=(nodeV L r).xs.length/\y.2.ps=q.ps++(ownP (nodeV L r).c++colB (L.map NdV.c) (col (L.map NdV.c) cs m) ((nodeV L r).xs.take y.1))) (λ y=>[(x6,.cells ⟨(nodeV L r).nd.cells⟩ 45 (0,0)),(b,tcO L cs gen pn cn pc cc v1 v2 y.2)]) (λ _=>_) (λ y=>[⟨y.2.p,prC y.2.ps,y.2.c,106,2⟩]) (λ y=>(nodeV L r).xs.length-y.1) ((by exact(0,⟨q.ps++(nodeV L r).ys,x52.1,x52.2⟩))) (⟨Nat.zero_le _,by rw[ho];simp[colB]⟩) (λ y f hx=>?_) (hw0:=λ w hw=>by(rw[show q.ps.length+(nodeV L r).nd.prN=(q.ps++(nodeV L r).ys).length by rw[List.length_append,hpn]] at hw;exact hw.back));dsimp only[mkU,List.map,List.cons_append,List.nil_append];have hyl:=congrArg List.length hx.2;simp only[List.length_append] at hyl;have hps:=hx.1;refine Ke2 ?_;refine kif (λ c59=>?_) (λ c59=>?_)
   ·try (first|(exact abt)|(exfalso;omega))
    have hcl:=colB_le (N:=L.map NdV.c) (f:=col (L.map NdV.c) cs m) (xs:=(nodeV L r).xs) (k:=y.1) (by omega);have hin:(nodeV L r).xs.getD y.1 0∈(nodeV L r).xs:=by rw[gdg,List.getElem?_eq_getElem (by omega)];exact List.getElem_mem _
    have hbk:=hbb _ hin;have hbs2:=hbr _ hin;rw[nodeV_c'] at hbs2;refine Kf4 ?_;refine l_quiet (o_indexR (k:=y.1) rf rf sl1 on1 (.old (.tail (.tail (FAt.of_mem hfm)))) (by omega) (by omega)) rfl ?_;refine l_quiet (o_loadR (q:=y.1) rf on1 (.old (.tail (.tail (FAt.of_mem hfm)))) (by omega)) rfl ?_;refine J27 ?_;refine J45 ?_;refine l_quiet (o_loadPart (k:=3) rf atT ag1 (by simp only[List.drop_zero,List.take_succ_cons,List.take_zero];exact rfl) rfl) rfl ?_;refine j_move ?_;refine j_own (cV (hc:=λ w1 hw=>vAt_c (hw.stAt (.inr (.inl (.head _))) (.inr (.inl (.tail _ (.head _)))) (λ f hf=>.inr (.inl (.tail _ (.tail _ hf)))) h0) _ (by omega) hl)) (λ x67=>?_);refine j_alloc (λ x9=>?_);refine J5 ?_;refine J24 ?_;refine J50 ?_;refine kif (λ c70=>?_) (λ c70=>?_)
    ·try (first|(exact abt)|(exfalso;omega))
     have hk4:(ndAt (L.map NdV.c) ((nodeV L r).xs.getD y.1 0)).kind=4:=by rw[nodeV_c'];exact c70
     rw[colB_s hk4] at hcl;simp only[List.length_cons,List.length_nil] at hcl;refine k_seq ?_;refine k_dp [(0,[]),(1,[]),(2,[]),(3,[]),(4,[]),(5,[]),(6,[]),(7,[]),(8,[]),(9,[]),(10,[4]),(11,[]),(12,[]),(13,[]),(14,[])] ?_;refine J67 ?_;refine J15 ?_;refine J15 ?_;refine r_build ?_;refine r_buildSlice (h:=λ x81=>?_);((refine r_append (h:=λ x82=>?_);try (refine r_fact (λ h82=>?_))));refine J88 ?_;refine k_exit rfl ?_;refine Kb6 ?_;refine k_rd ((by exact(y.1+1,⟨y.2.ps++[((nodeV L ((nodeV L r).xs.getD y.1 0)).nd.key,(nodeV L ((nodeV L r).xs.getD y.1 0)).nd.val)],x82.1,x82.2⟩))) ?_ (hw1:=λ w hw=>by(rw[show y.2.ps.length+1=(y.2.ps++[((nodeV L ((nodeV L r).xs.getD y.1 0)).nd.key,(nodeV L ((nodeV L r).xs.getD y.1 0)).nd.val)]).length by simp] at hw;exact hw.back))
     ·first
       | exact⟨by omega,by rw[colB_next (by omega),colB_s hk4,nodeV_c',hx.2];simp only[List.append_assoc];exact rfl⟩
       | exact⟨by omega,by rw[colB_next (by omega),colB_i hk2.1,h87,hx.2];simp only[List.append_assoc]⟩
    ·try (first|(exact abt)|(exfalso;omega))
     have hk2:(ndAt (L.map NdV.c) ((nodeV L r).xs.getD y.1 0)).kind=2/\Seen (L.map NdV.c) cs m ((nodeV L r).xs.getD y.1 0):=by
      rcases hbs2 with h4|h2;·exact absurd h4 c70
      ·rw[nodeV_c'];exact h2
     rw[colB_i hk2.1] at hcl;refine k_skip ?_;refine J76 ?_;refine j_ownF (cM (hs:=[(b,tcO L cs gen pn cn pc cc v1 v2 y.2)]) (os:=tcW y.2) (hc:=λ w1 hs=>ih m rfl ((nodeV L r).xs.getD y.1 0) y.2 _ w1 hbk hk2.2 (by omega) hs)) (λ x87 h87=>?_);refine l_nil ?_;refine k_blk ?_;refine Kb6 ?_;refine k_rd ((by exact(y.1+1,x87))) ?_ (hw1:=λ w hw=>by exact hw.back)
     ·first
       | exact⟨by omega,by rw[colB_next (by omega),colB_s hk4,nodeV_c',hx.2];simp only[List.append_assoc];exact rfl⟩
       | exact⟨by omega,by rw[colB_next (by omega),colB_i hk2.1,h87,hx.2];simp only[List.append_assoc]⟩
   ·try (first|(exact abt)|(exfalso;omega))
    refine k_exit rfl ?_;refine k_et Tryz.results96 (λ w hw=>?_);refine⟨y.2,rfl,?_,hw.finH⟩;have e2:=hx.2;rw[List.take_of_length_le (by omega)] at e2;rw[col_body hr,nodeV_xs,hown,e2]
  ·try (first|(exact abt)|(exfalso;omega))
   have ho:ownP (nodeV L r).c=[]:=(if_neg (show ¬(nodeV L r).nd.kind=5 by simpa using c27)).trans (if_neg (show ¬(nodeV L r).nd.kind=6 by simpa using c43));refine J34 ?_;refine J24 ?_;refine Kc7 ?_;refine k_lp [8,9,58,59,60,61,62,63,64,65,66,67,68,69,70,71,72,73,74,75,76,77,78,79,80,81,82,83,84,85,86,87,88] (λ y:Nat×PQ=>[(58,.int .i64 ((y.1:Nat):Int))]) (λ y=>y.1<=(nodeV L r).xs.length/\y.2.ps=q.ps++(ownP (nodeV L r).c++colB (L.map NdV.c) (col (L.map NdV.c) cs m) ((nodeV L r).xs.take y.1))) (λ y=>[(x6,.cells ⟨(nodeV L r).nd.cells⟩ 45 (0,0)),(b,tcO L cs gen pn cn pc cc v1 v2 y.2)]) (λ _=>_) (λ y=>[⟨y.2.p,prC y.2.ps,y.2.c,106,2⟩]) (λ y=>(nodeV L r).xs.length-y.1) ((by exact(0,q))) (⟨Nat.zero_le _,by rw[ho];simp[colB]⟩) (λ y f hx=>?_) (hw0:=λ w hw=>by exact hw.back);dsimp only[mkU,List.map,List.cons_append,List.nil_append];have hyl:=congrArg List.length hx.2;simp only[List.length_append] at hyl;have hps:=hx.1;refine Ke2 ?_;refine kif (λ c59=>?_) (λ c59=>?_)
   ·try (first|(exact abt)|(exfalso;omega))
    have hcl:=colB_le (N:=L.map NdV.c) (f:=col (L.map NdV.c) cs m) (xs:=(nodeV L r).xs) (k:=y.1) (by omega);have hin:(nodeV L r).xs.getD y.1 0∈(nodeV L r).xs:=by rw[gdg,List.getElem?_eq_getElem (by omega)];exact List.getElem_mem _
    have hbk:=hbb _ hin;have hbs2:=hbr _ hin;rw[nodeV_c'] at hbs2;refine Kf4 ?_;refine l_quiet (o_indexR (k:=y.1) rf rf sl1 on1 (.old (.tail (.tail (FAt.of_mem hfm)))) (by omega) (by omega)) rfl ?_;refine l_quiet (o_loadR (q:=y.1) rf on1 (.old (.tail (.tail (FAt.of_mem hfm)))) (by omega)) rfl ?_;refine J27 ?_;refine J45 ?_;refine l_quiet (o_loadPart (k:=3) rf atT ag1 (by simp only[List.drop_zero,List.take_succ_cons,List.take_zero];exact rfl) rfl) rfl ?_;refine j_move ?_;refine j_own (cV (hc:=λ w1 hw=>vAt_c (hw.stAt (.inr (.inl (.head _))) (.inr (.inl (.tail _ (.head _)))) (λ f hf=>.inr (.inl (.tail _ (.tail _ hf)))) h0) _ (by omega) hl)) (λ x67=>?_);refine j_alloc (λ x9=>?_);refine J5 ?_;refine J24 ?_;refine J50 ?_;refine kif (λ c70=>?_) (λ c70=>?_)
    ·try (first|(exact abt)|(exfalso;omega))
     have hk4:(ndAt (L.map NdV.c) ((nodeV L r).xs.getD y.1 0)).kind=4:=by rw[nodeV_c'];exact c70
     rw[colB_s hk4] at hcl;simp only[List.length_cons,List.length_nil] at hcl;refine k_seq ?_;refine k_dp [(0,[]),(1,[]),(2,[]),(3,[]),(4,[]),(5,[]),(6,[]),(7,[]),(8,[]),(9,[]),(10,[4]),(11,[]),(12,[]),(13,[]),(14,[])] ?_;refine J67 ?_;refine J15 ?_;refine J15 ?_;refine r_build ?_;refine r_buildSlice (h:=λ x81=>?_);((refine r_append (h:=λ x82=>?_);try (refine r_fact (λ h82=>?_))));refine J88 ?_;refine k_exit rfl ?_;refine Kb6 ?_;refine k_rd ((by exact(y.1+1,⟨y.2.ps++[((nodeV L ((nodeV L r).xs.getD y.1 0)).nd.key,(nodeV L ((nodeV L r).xs.getD y.1 0)).nd.val)],x82.1,x82.2⟩))) ?_ (hw1:=λ w hw=>by(rw[show y.2.ps.length+1=(y.2.ps++[((nodeV L ((nodeV L r).xs.getD y.1 0)).nd.key,(nodeV L ((nodeV L r).xs.getD y.1 0)).nd.val)]).length by simp] at hw;exact hw.back))
     ·first
       | exact⟨by omega,by rw[colB_next (by omega),colB_s hk4,nodeV_c',hx.2];simp only[List.append_assoc];exact rfl⟩
       | exact⟨by omega,by rw[colB_next (by omega),colB_i hk2.1,h87,hx.2];simp only[List.append_assoc]⟩
    ·try (first|(exact abt)|(exfalso;omega))
     have hk2:(ndAt (L.map NdV.c) ((nodeV L r).xs.getD y.1 0)).kind=2/\Seen (L.map NdV.c) cs m ((nodeV L r).xs.getD y.1 0):=by
      rcases hbs2 with h4|h2;·exact absurd h4 c70
      ·rw[nodeV_c'];exact h2
     rw[colB_i hk2.1] at hcl;refine k_skip ?_;refine J76 ?_;refine j_ownF (cM (hs:=[(b,tcO L cs gen pn cn pc cc v1 v2 y.2)]) (os:=tcW y.2) (hc:=λ w1 hs=>ih m rfl ((nodeV L r).xs.getD y.1 0) y.2 _ w1 hbk hk2.2 (by omega) hs)) (λ x87 h87=>?_);refine l_nil ?_;refine k_blk ?_;refine Kb6 ?_;refine k_rd ((by exact(y.1+1,x87))) ?_ (hw1:=λ w hw=>by exact hw.back)
     ·first
       | exact⟨by omega,by rw[colB_next (by omega),colB_s hk4,nodeV_c',hx.2];simp only[List.append_assoc];exact rfl⟩
       | exact⟨by omega,by rw[colB_next (by omega),colB_i hk2.1,h87,hx.2];simp only[List.append_assoc]⟩
   ·try (first|(exact abt)|(exfalso;omega))
    refine k_exit rfl ?_;refine k_et Tryz.results96 (λ w hw=>?_);refine⟨y.2,rfl,?_,hw.finH⟩;have e2:=hx.2;rw[List.take_of_length_le (by omega)] at e2;rw[col_body hr,nodeV_xs,hown,e2]
theorem collect_c(h0:Fits L)(hb:StB L cs)(hl:L.length<=274877906944)(hc:cs.length<=274877906944)(b:Nat)(v1 v2:Value):∀n,ColC L cs gen pn cn pc cc b v1 v2 n
 | 0=>collect1_c h0 hb hl hc b v1 v2 0 λ m e=>nomatch e
 | n+1=>collect1_c h0 hb hl hc b v1 v2 (n+1) λ m e=>by cases e;exact collect_c h0 hb hl hc b v1 v2 n
end
end
end Go.Proofs.YtdnklbipddigbaaGreat

/- Merged. -/
import Derived.Test.YtdnklbipddigbaaGreatGWo6
import Derived.Test.YtdnklbipddigbaaGreatGPc2
import Derived.Test.YtdnklbipddigbaaGreatGKw5
set_option linter.unusedSimpArgs false
set_option linter.unusedVariables false
namespace Go.Proofs.YtdnklbipddigbaaGreat
open Go Go.RowKit Go.Ct
section
def tN(v:Int):Nd:={Nd.zero with kind:=5,key:=⟨#[110,101,119]⟩,val:=v}
structure VpH(N:List Nv)(cs:List Int)(i c m:Int):Prop where
 ki:(ndAt N i).kind=2
 i2:i<=N.length
 ec:(ndAt N i).main=c
 c1:1<=c
 c2:c<=cs.length
 em:cellV cs c=m
 m1:1<=m
 m2:m<=N.length
 km:MainK (ndAt N m)
 p0:cellV cs (ndAt N m).prev=0
 p2:(ndAt N m).prev<=cs.length
def vN1(N:List Nv)(cs:List Int)(v:Int):List Nv:=N++[alNv ((tN v).c [] []) cs.length]
def vC2(N:List Nv)(cs:List Int)(c m:Int):List Int:=casL (cs++[m]) c m ((N.length+1:Nat):Int)
def vC3(N:List Nv)(cs:List Int)(c m:Int):List Int:=casL (vC2 N cs c m) ((cs.length+1:Nat):Int) m 0
def vN4(N:List Nv)(cs:List Int)(c m v:Int):List Nv:=vN1 N cs v++[alNv (failV m) (vC3 N cs c m).length]
def vC4(N:List Nv)(cs:List Int)(c m:Int):List Int:=casL (vC3 N cs c m) ((cs.length+1:Nat):Int) 0 ((N.length+1+1:Nat):Int)
theorem casOk_cell{cs:List Int}{c o:Int}(h1:1<=c)(h2:c<=cs.length)(h:cellV cs c=o):CasOk cs c o:=⟨h1,h2,by unfold cellV at h;rwa [if_pos ⟨h1,h2⟩] at h⟩
theorem body_of{N:List Nv}{cs:List Int}{i x p r:Int}(h1:(ndAt N i).kind=2)(h2:cellV cs (ndAt N i).main=x)(h3:MainK (ndAt N x))(h4:cellV cs (ndAt N x).prev=p)(h5:(p=0/\r=x)∨(p≠0/\(if(ndAt N p).kind=7 then(ndAt N p).old else p)=r/\MainK (ndAt N r))):bodyO N cs i=some r:=by
 have e1:bodyM N cs i=x:=h2;have e2:bodyP N cs i=p:=by unfold bodyP;rw[e1,h4]
 unfold bodyO;rw[e1,e2,if_pos ⟨h1,h3⟩];rcases h5 with⟨h5,h6⟩|⟨h5,h6,h7⟩;·rw[if_pos h5,h6]
 ·have e3:bodyQ N cs i=r:=by unfold bodyQ;rw[e2,h6]
  rw[if_neg h5,e3,if_pos h7]
section
variable{N:List Nv}{cs:List Int}{i c m v gen:Int}
theorem VpH.cs1(h:VpH N cs i c m):cellV (cs++[m]) ((cs.length+1:Nat):Int)=m:=by rw[cellV_at (by simp),gdg,List.getElem?_append_right (Nat.le_refl _),Nat.sub_self];rfl
theorem VpH.at1(h:VpH N cs i c m){r:Int}(hr:r<=N.length):ndAt (vN1 N cs v) r=ndAt N r:=ndAt_app hr
theorem VpH.new1(h:VpH N cs i c m):ndAt (vN1 N cs v) ((N.length+1:Nat):Int)=alNv ((tN v).c [] []) cs.length:=ndAt_last _ _
theorem VpH.len1(h:VpH N cs i c m):(cs++[m]).length=cs.length+1:=by simp
theorem VpH.ok2(h:VpH N cs i c m):CasOk (cs++[m]) c m:=casOk_cell h.c1 (by rw[h.len1];have:=h.c2;omega) (by rw[cellV_app h.c2];exact h.em)
theorem VpH.c2l(h:VpH N cs i c m):(vC2 N cs c m).length=cs.length+1:=by unfold vC2;rw[casL_length,h.len1]
theorem VpH.cell2(h:VpH N cs i c m)(x:Int):cellV (vC2 N cs c m) x=if x=c then((N.length+1:Nat):Int) else cellV (cs++[m]) x:=cellV_cas h.ok2 x
theorem VpH.ne(h:VpH N cs i c m):((cs.length+1:Nat):Int)≠c:=by have:=h.c2;omega
theorem VpH.ok3(h:VpH N cs i c m):CasOk (vC2 N cs c m) ((cs.length+1:Nat):Int) m:=casOk_cell (by omega) (by rw[h.c2l];omega) (by rw[h.cell2,if_neg h.ne,h.cs1])
theorem VpH.c3l(h:VpH N cs i c m):(vC3 N cs c m).length=cs.length+1:=by unfold vC3;rw[casL_length,h.c2l]
theorem VpH.cell3(h:VpH N cs i c m)(x:Int):cellV (vC3 N cs c m) x=if x=((cs.length+1:Nat):Int) then 0 else cellV (vC2 N cs c m) x:=cellV_cas h.ok3 x
theorem VpH.ok4(h:VpH N cs i c m):CasOk (vC3 N cs c m) ((cs.length+1:Nat):Int) 0:=casOk_cell (by omega) (by rw[h.c3l];omega) (by rw[h.cell3,if_pos rfl])
theorem VpH.cell4(h:VpH N cs i c m)(x:Int):cellV (vC4 N cs c m) x=if x=((cs.length+1:Nat):Int) then((N.length+1+1:Nat):Int) else cellV (vC3 N cs c m) x:=cellV_cas h.ok4 x
theorem main5{c:Nat}:MainK (alNv ((tN v).c [] []) c):=.inr (.inl rfl)
theorem prev5{c:Nat}:(alNv ((tN v).c [] []) c).prev=((c+1:Nat):Int):=rfl
theorem mainNo7{n:Nv}(h:MainK n):¬n.kind=7:=by unfold MainK at h;omega
theorem VpH.b1(h:VpH N cs i c m):bodyO (vN1 N cs v) (cs++[m]) i=some m :=body_of (x:=m) (p:=0) (by rw[h.at1 h.i2];exact h.ki) (by rw[h.at1 h.i2,h.ec,cellV_app h.c2];exact h.em) (by rw[h.at1 h.m2];exact h.km) (by rw[h.at1 h.m2,cellV_app h.p2];exact h.p0) (.inl ⟨rfl,rfl⟩)
theorem VpH.b2(h:VpH N cs i c m):bodyO (vN1 N cs v) (vC2 N cs c m) i=some m :=body_of (x:=((N.length+1:Nat):Int)) (p:=m) (by rw[h.at1 h.i2];exact h.ki) (by rw[h.at1 h.i2,h.ec,h.cell2,if_pos rfl]) (by rw[h.new1];exact main5) (by rw[h.new1,prev5,h.cell2,if_neg h.ne,h.cs1]) (.inr ⟨by have:=h.m1;omega,by rw[h.at1 h.m2,if_neg (mainNo7 h.km)],by rw[h.at1 h.m2];exact h.km⟩)
theorem VpH.b3(h:VpH N cs i c m):bodyO (vN1 N cs v) (vC3 N cs c m) i=some ((N.length+1:Nat):Int) :=body_of (x:=((N.length+1:Nat):Int)) (p:=0) (by rw[h.at1 h.i2];exact h.ki) (by rw[h.at1 h.i2,h.ec,h.cell3,if_neg (Ne.symm h.ne),h.cell2,if_pos rfl]) (by rw[h.new1];exact main5) (by rw[h.new1,prev5,h.cell3,if_pos rfl]) (.inl ⟨rfl,rfl⟩)
theorem VpH.n1l(h:VpH N cs i c m):(vN1 N cs v).length=N.length+1:=by unfold vN1;simp
theorem VpH.at4(h:VpH N cs i c m){r:Int}(hr:r<=((N.length+1:Nat):Int)):ndAt (vN4 N cs c m v) r=ndAt (vN1 N cs v) r:=ndAt_app (by rw[h.n1l];exact hr)
theorem VpH.fail4(h:VpH N cs i c m):ndAt (vN4 N cs c m v) ((N.length+1+1:Nat):Int)=alNv (failV m) (vC3 N cs c m).length:=by have:=ndAt_last (vN1 N cs v) (alNv (failV m) (vC3 N cs c m).length);rwa [h.n1l] at this
theorem VpH.b4(h:VpH N cs i c m):bodyO (vN4 N cs c m v) (vC4 N cs c m) i=some m:=by
 have hi:i<=((N.length+1:Nat):Int):=by have:=h.i2;omega
 have hm:m<=((N.length+1:Nat):Int):=by have:=h.m2;omega
 exact body_of (x:=((N.length+1:Nat):Int)) (p:=((N.length+1+1:Nat):Int)) (by rw[h.at4 hi,h.at1 h.i2];exact h.ki) (by rw[h.at4 hi,h.at1 h.i2,h.ec,h.cell4,if_neg (Ne.symm h.ne),h.cell3,if_neg (Ne.symm h.ne),h.cell2,if_pos rfl]) (by rw[h.at4 (Int.le_refl _),h.new1];exact main5) (by rw[h.at4 (Int.le_refl _),h.new1,prev5,h.cell4,if_pos rfl]) (.inr ⟨by omega,by rw[h.fail4];rfl,by rw[h.at4 hm,h.at1 h.m2];exact h.km⟩)
theorem VpH.p1(h:VpH N cs i c m)(hp:ProperN N cs gen)(hg:0<=gen):ProperN (vN1 N cs v) (cs++[m]) gen :=hp.push (n:=(tN v).c [] []) (ok_tomb hg (by decide)) ⟨by have:=h.m1;omega,h.m2⟩
theorem VpH.q2(h:VpH N cs i c m)(hp:ProperN N cs gen)(hg:0<=gen):ProperN (vN1 N cs v) (vC2 N cs c m) gen:=ProperN.cas (h.p1 hp hg) (by omega) (by rw[h.n1l];exact Int.le_refl _)
theorem VpH.q3(h:VpH N cs i c m)(hp:ProperN N cs gen)(hg:0<=gen):ProperN (vN1 N cs v) (vC3 N cs c m) gen:=ProperN.cas (h.q2 hp hg) (Int.le_refl _) (by omega)
theorem VpH.q4(h:VpH N cs i c m)(hp:ProperN N cs gen)(hg:0<=gen):ProperN (vN4 N cs c m v) (vC4 N cs c m) gen:=by have h1:ProperN (vN4 N cs c m v) (vC3 N cs c m) gen:=ProperN.push (h.q3 (v:=v) hp hg) (n:=failV m) (init:=0) (ok_fail hg h.m1 (by have:=h.m2;rw[h.n1l];omega)) ⟨Int.le_refl _,by omega⟩;exact ProperN.cas h1 (by omega) (by show _<=((vN1 N cs v++[_]).length:Int);rw[List.length_append,h.n1l];simp)
end
theorem QS.vp{H:ByteArray->Nat}{M:Mm}{ts:List Tri}{σ:Kw}{i m:Int}(q:QS H M ts σ)(hi:(ndAt M.nodes i).kind=2)(hb:bodyO M.nodes M.cs i=some m):VpH M.nodes M.cs i (ndAt M.nodes i).main m:=by obtain⟨h1,h2,h3,h4⟩:=q.main hi;obtain⟨_,h5⟩:=q.body hb;rw[h5] at h3 h4;have hir:=kind_in (N:=M.nodes) (i:=i) (by rw[hi];decide);have hmr:=kind_in (N:=M.nodes) (i:=m) (by unfold MainK at h3;omega);have em:=q.mm;subst em;exact⟨hi,hir.2,rfl,h1,h2,h5,hmr.1,hmr.2,h3,h4,(q.inv.prevCell h3).2.1⟩
end
end Go.Proofs.YtdnklbipddigbaaGreat
namespace Go.Ct
open Go Go.RowKit
section
structure VQ where
 l:List Int
 vs:List Bool
 p:Option Addr
 c:Nat
def VisR(o:Option (List Int))(b:Bool)(q:VQ):Prop:=match o with|some l=>b=true/\q.l=l|none=>b=false
theorem visB_at{N:List Nv}{f:Int->List Int->Option (List Int)}{xs l l2:List Int}{k:Nat}(hk:k<xs.length)(h:visB N f (xs.take k) l=some l2):visB N f xs l=visB N f (xs.getD k 0::xs.drop (k+1)) l2:=by
 have e:xs=xs.take k++(xs.getD k 0::xs.drop (k+1)):=by rw[gdg,List.getElem?_eq_getElem hk,Option.getD_some,<- List.drop_eq_getElem_cons hk,List.take_append_drop]
 rw[e,visB_app,<- e,h];rfl
theorem visB_next{N:List Nv}{f:Int->List Int->Option (List Int)}{xs l l2 l3:List Int}{k:Nat}(hk:k<xs.length)(h:visB N f (xs.take k) l=some l2)(h2:visB N f [xs.getD k 0] l2=some l3):visB N f (xs.take (k+1)) l=some l3:=by rw[List.take_add_one,List.getElem?_eq_getElem hk,visB_app,h];rw[gdg,List.getElem?_eq_getElem hk] at h2;exact h2
theorem visB_s{N:List Nv}{f:Int->List Int->Option (List Int)}{b:Int}{l:List Int}(h:(ndAt N b).kind=4):visB N f [b] l=some l:=by simp[visB,h]
theorem visB_i{N:List Nv}{f:Int->List Int->Option (List Int)}{b:Int}{l l2:List Int}(h:(ndAt N b).kind=2)(hf:f b l=some l2):visB N f [b] l=some l2:=by simp[visB,h,hf]
theorem visB_no{N:List Nv}{f:Int->List Int->Option (List Int)}{b:Int}{r l:List Int}(h:(ndAt N b).kind≠4)(h2:(ndAt N b).kind≠2):visB N f (b::r) l=none:=by simp[visB,h,h2]
theorem visB_f{N:List Nv}{f:Int->List Int->Option (List Int)}{b:Int}{r l:List Int}(h:(ndAt N b).kind=2)(hf:f b l=none):visB N f (b::r) l=none:=by simp[visB,h,hf]
theorem vis_seen{N:List Nv}{cs:List Int}{i:Int}{l:List Int}(h:i∈l):∀{n:Nat},vis N cs n i l=none
 | 0=>rfl
 | n+1=>by unfold vis;rw[if_pos h]
theorem vis_none{N:List Nv}{cs:List Int}{i:Int}{l:List Int}{n:Nat}(h:¬i∈l)(h2:(bodyO N cs i).isSome=false):vis N cs (n+1) i l=none:=by
 unfold vis;rw[if_neg h];cases hb:bodyO N cs i with
 | none=>rfl
 | some m=>rw[hb] at h2;cases h2
theorem vis_some{N:List Nv}{cs:List Int}{i m:Int}{l:List Int}{n:Nat}(h:¬i∈l)(h2:bodyO N cs i=some m):vis N cs (n+1) i l=visB N (vis N cs n) (ndAt N m).xs (l++[i]):=by unfold vis;rw[if_neg h,h2];rfl
end
end Go.Ct
namespace Go.Proofs.YtdnklbipddigbaaGreat
open Go Go.RowKit Go.Ct
section
section
variable{L:List NdV}{cs:List Int}{gen:Int}{pn pc:Option Addr}{cn cc:Nat}{w:World}
theorem vRoot_c(h:StAt w L cs pn pc)(hb:StB L cs)(hl:L.length<=274877906944)(hc:cs.length<=274877906944)(c:Int)(ro:Bool)(hi:c<=9223372036854775807):Calls Tryz.prog 141 #[stG L cs gen pn cn pc cc,.agg ⟨[.int .i64 c,.bool ro]⟩] w λ e w'=>e=.returned (.tuple #[.int .i64 ((rootO (L.map NdV.c) cs c).getD 0),.bool (rootO (L.map NdV.c) cs c).isSome])/\St w [] [] w':=by
 refine enter Tryz.func141 Tryz.ntmps141 rfl rfl h.start ?_;simp only[mkS];simp only[stG];refine J0 ?_;refine j_box (λ x2=>?_);refine j_box (λ x3=>?_);refine J8 ?_;refine J25 ?_;refine J3 ?_;refine j_own (cV (hc:=λ w1 hw=>vCell_c (h.of0 hw) c hi hc)) (λ x11=>?_);refine J27 ?_;refine J71 ?_;refine j_own (cV (hc:=λ w1 hw=>vAt_c (h.of0 hw) (cellV cs c) (hb.cs _) hl)) (λ x14=>?_);refine j_alloc (λ x7=>?_);refine J5 ?_;refine J24 ?_;refine J50 ?_;refine kif (λ c17=>?_) (λ c17=>?_)
 ·refine J24 ?_;refine J1 ?_;refine J25 ?_;refine J3 ?_;refine j_own (cV (hc:=λ w1 hw=>vCell_c (h.of0 hw) (nodeV L (cellV cs c)).nd.status (hb.status _) hc)) (λ x23=>?_);refine J50 ?_;refine kif (λ c24=>?_) (λ c24=>?_)
  ·refine k_region ?_;refine J3 ?_;refine J27 ?_;refine J71 ?_;refine j_own (cV (hc:=λ w1 hw=>vAt_c (h.of0 hw) _ (by exact hb.new _) hl)) (λ x29=>?_);refine j_field ?_;refine Kb3 ?_;refine kif (λ c31=>?_) (λ c31=>?_);·refine J66 ?_;refine k_rt Tryz.results141 (λ w hw=>?_);refine⟨?_,hw.done⟩;unfold rootO rootP;simp only[nodeV_c',MainK,NdV.c,Nd.c];simp_all;rfl
   ·refine Kf5 ?_;refine k_rt Tryz.results141 (λ w hw=>?_);refine⟨?_,hw.done⟩;unfold rootO rootP;simp only[nodeV_c',MainK,NdV.c,Nd.c];simp_all;rfl
  ·refine J16 ?_;refine J71 ?_;refine j_own (cV (hc:=λ w1 hw=>vAt_c (h.of0 hw) _ (by exact hb.old _) hl)) (λ x29=>?_);refine j_field ?_;refine Kb3 ?_;refine kif (λ c31=>?_) (λ c31=>?_);·refine J66 ?_;refine k_rt Tryz.results141 (λ w hw=>?_);refine⟨?_,hw.done⟩;unfold rootO rootP;simp only[nodeV_c',MainK,NdV.c,Nd.c];simp_all;rfl
   ·refine Kf5 ?_;refine k_rt Tryz.results141 (λ w hw=>?_);refine⟨?_,hw.done⟩;unfold rootO rootP;simp only[nodeV_c',MainK,NdV.c,Nd.c];simp_all;rfl
 ·refine J16 ?_;refine J71 ?_;refine j_own (cV (hc:=λ w1 hw=>vAt_c (h.of0 hw) _ (by exact hb.cs _) hl)) (λ x29=>?_);refine j_field ?_;refine Kb3 ?_;refine kif (λ c31=>?_) (λ c31=>?_);·refine J66 ?_;refine k_rt Tryz.results141 (λ w hw=>?_);refine⟨?_,hw.done⟩;unfold rootO rootP;simp only[nodeV_c',MainK,NdV.c,Nd.c];simp_all;rfl
  ·refine Kf5 ?_;refine k_rt Tryz.results141 (λ w hw=>?_);refine⟨?_,hw.done⟩;unfold rootO rootP;simp only[nodeV_c',MainK,NdV.c,Nd.c];simp_all;rfl
abbrev trO(L:List NdV)(cs:List Int)(gen:Int)(pn:Option Addr)(cn:Nat)(pc:Option Addr)(cc:Nat)(pv:Nat)(q:VQ)(pp:Option Addr)(ps:List Pr)(cp:Nat):Obj:=.cells ⟨[.slice pn L.length cn,.slice pc cs.length cc,.int .i64 gen,.slice (some ⟨pv,0,none⟩) L.length L.length,.slice q.p q.l.length q.c,.slice pp ps.length cp]⟩ 161 (0,0)
abbrev trW(L:List NdV)(pv:Nat)(q:VQ):List Ow:=[⟨some ⟨pv,0,none⟩,boolsC q.vs,L.length,4,1⟩,⟨q.p,refsC q.l,q.c,28,1⟩]
theorem trOpen{w0:World}{D:List Nat}{b pv:Nat}{q:VQ}{pp:Option Addr}{ps:List Pr}{cp:Nat}{A F:Fr}(h:SF w0 D [(b,trO L cs gen pn cn pc cc pv q pp ps cp)] A F (trW L pv q) w) :
  SF w0 D [(b,.cells ⟨[.slice pn L.length cn,.slice pc cs.length cc,.int .i64 gen,.slice (some ⟨pv,0,none⟩) L.length L.length,.slice q.p q.l.length q.c,.slice pp ps.length cp]⟩ 161 (0,0))] A F [⟨some ⟨pv,0,none⟩,boolsC q.vs,L.length,4,1⟩,⟨q.p,refsC q.l,q.c,28,1⟩] w:=h
def VisC(L:List NdV)(cs:List Int)(gen:Int)(pn:Option Addr)(cn:Nat)(pc:Option Addr)(cc:Nat)(b pv:Nat)(pp:Option Addr)(ps:List Pr)(cp:Nat)(n:Nat):Prop:=∀(lvl:Nat),lvl+n=12->∀(k:Nat) (q:VQ) (D:List Nat) (w:World),k<L.length->Vis L.length q.vs q.l->SF w D [(b,trO L cs gen pn cn pc cc pv q pp ps cp)] ((pn,nvC L)::(pc,refsC cs)::famF L) [] (trW L pv q) w ->
  Calls Tryz.prog 142 #[.pointer (some ⟨b,0,none⟩),.int .i64 ((k+1:Nat):Int),.int .i64 ((lvl:Nat):Int)] w λ e w'=>∃x:Bool×VQ,e=.returned (.bool x.1)/\(VisR (vis (L.map NdV.c) cs n ((k+1:Nat):Int) q.l) x.1 x.2/\Vis L.length x.2.vs x.2.l)/\SF w D [(b,trO L cs gen pn cn pc cc pv x.2 pp ps cp)] [] [] (trW L pv x.2) w'
theorem visit1_c(h0:Fits L)(hb:StB L cs)(hl:L.length<=274877906944)(hc:cs.length<=274877906944)(b pv:Nat)(pp:Option Addr)(ps:List Pr)(cp:Nat)(n:Nat)(ih:∀m,n=m+1->VisC L cs gen pn cn pc cc b pv pp ps cp m):VisC L cs gen pn cn pc cc b pv pp ps cp n:=by
 intro lvl hn k q D w hk hv hs;have hvl:=hv.1;have hvn:=hv.len;refine enter Tryz.func142 Tryz.ntmps142 rfl rfl (trOpen hs) ?_;simp only[mkS];refine Kc2 ?_;refine j_gtr ?_;refine j_move ?_;(refine lcs 13 (λ g13=>?_) (λ g13=>?_)<;>refine Ka0 ?_);all_goals (refine Kf2 ?_;refine J6 ?_;refine J68 ?_;(first|refine j_un ?_|(refine j_yes ?_;refine l_quiet (o_indexB (k:=k) rf rf sl1 on1 fin (by omega) (by omega)) rfl ?_));(first|refine j_un ?_|(refine j_yes ?_;refine l_quiet (o_loadB (q:=k) rf on1 fin (by omega)) rfl ?_));refine Ke8 ?_)
 all_goals
  refine kif (λ c22=>?_) (λ c22=>?_)
  ·all_goals try (first|(exact abt)|(exfalso;omega))
   all_goals refine J10 ?_
   all_goals
    refine k_rv Tryz.results142 (λ w hw=>?_)
    first
     | exact⟨(false,q),rfl,⟨by rw[vis_seen ((hv.2.1 k hk).1 (by assumption))];exact rfl,hv⟩,hw.finH⟩
     | exact⟨(false,q),rfl,⟨by rw[show n=0 by omega];exact rfl,hv⟩,hw.finH⟩
  ·try exact nv c22
   all_goals
    obtain⟨m,rfl⟩:∃m,n=m+1:=⟨n-1,by omega⟩;have hnot:¬(((k+1:Nat):Int)∈q.l):=λ hm=>by have:=(hv.2.1 k hk).2 hm;simp_all
    have hv2:=hv.set hk (by simp_all)
   all_goals (refine J83 ?_;refine j_move ?_;refine j_dec ?_;refine l_quiet (o_indexB (k:=k) rf rf sl1 on1 fin (by omega) (by omega)) rfl ?_;refine J5 ?_;refine J11 ?_;refine j_nilCheck ?_;refine Ke9 ?_;refine j_buildSlice (λ x36=>?_);(refine j_append (λ x37=>?_);try (refine l_fact (λ h37=>?_)));refine J61 ?_;refine J45 ?_;refine l_quiet (o_loadPart (k:=3) rf atT ag1 (by simp only[List.drop_zero,List.take_succ_cons,List.take_zero];exact rfl) rfl) rfl ?_;refine j_move ?_;refine j_own (cV (hc:=λ w1 hw=>vMain_c (hw.stAt (.inr (.inl (.head _))) (.inr (.inl (.tail _ (.head _)))) (λ f hf=>.inr (.inl (.tail _ (.tail _ hf)))) h0) hb hl hc ((k+1:Nat):Int) (by omega))) (λ x46=>?_);refine Kb9 ?_;refine J33 ?_)
   all_goals
    refine kif (λ c50=>?_) (λ c50=>?_)
    ·try (first|(exact abt)|(exfalso;omega))
     refine J10 ?_;refine k_rv Tryz.results142 (λ w hw=>?_);rw[show q.l.length+1=(q.l++[((k+1:Nat):Int)]).length by simp] at hw;exact⟨(false,⟨q.l++[((k+1:Nat):Int)],q.vs.set k true,x37.1,x37.2⟩),rfl,⟨by rw[vis_none hnot (by simpa using c50)];exact rfl,hv2⟩,hw.finH⟩
    ·try (first|(exact abt)|(exfalso;omega))
     obtain⟨r,hr⟩:=Option.isSome_iff_exists.1 (show(bodyO (L.map NdV.c) cs ((k+1:Nat):Int)).isSome=true by simpa using c50);rw[hr,Option.getD_some];have hfr:=fit_nodeV h0 r;have hri:=mainK_in' (body_kind hr).2;rw[List.length_map] at hri;have hrr:r<=9223372036854775807:=by omega
     have hbn:=hfr.brN;have hbs:=hfr.brS;have hfm:=famV_br hri;have hbr:=hb.br r;refine J16 ?_;refine J45 ?_;refine l_quiet (o_loadPart (k:=3) rf atT ag1 (by simp only[List.drop_zero,List.take_succ_cons,List.take_zero];exact rfl) rfl) rfl ?_;refine j_move ?_;refine j_own (cV (hc:=λ w1 hw=>vAt_c (hw.stAt (.inr (.inl (.head _))) (.inr (.inl (.tail _ (.head _)))) (λ f hf=>.inr (.inl (.tail _ (.tail _ hf)))) h0) _ (by omega) hl)) (λ x56=>?_);refine j_field ?_;refine Kc7 ?_;refine k_lp [6,10,59,60,61,62,63,64,65,66,67,68,69,70,71,72,73,74,75,76,77,78,79,80] (λ y:Nat×VQ=>[(59,.int .i64 ((y.1:Nat):Int))]) (λ y=>y.1<=(nodeV L r).xs.length/\visB (L.map NdV.c) (vis (L.map NdV.c) cs m) ((nodeV L r).xs.take y.1) (q.l++[((k+1:Nat):Int)])=some y.2.l/\Vis L.length y.2.vs y.2.l) (λ y=>[(b,trO L cs gen pn cn pc cc pv y.2 pp ps cp)]) (λ _=>_) (λ y=>trW L pv y.2) (λ y=>(nodeV L r).xs.length-y.1) ((0,⟨q.l++[((k+1:Nat):Int)],q.vs.set k true,x37.1,x37.2⟩)) (⟨Nat.zero_le _,rfl,hv2⟩) (λ y f hx=>?_) (hw0:=λ w hw=>by rw[show q.l.length+1=(q.l++[((k+1:Nat):Int)]).length by simp] at hw;exact hw.back);dsimp only[mkU,List.map,List.cons_append,List.nil_append];have hyn:=hx.2.2.len;have hyl:=hx.2.2.1;refine Ke2 ?_;refine kif (λ c60=>?_) (λ c60=>?_)
     ·try (first|(exact abt)|(exfalso;omega))
      have hbk:(nodeV L r).xs.getD y.1 0<=9223372036854775807:=hbr _ (by rw[gdg,List.getElem?_eq_getElem (by omega)];exact List.getElem_mem _);refine Kf4 ?_;refine l_quiet (o_indexR (k:=y.1) rf rf sl1 on1 (.old (.tail (.tail (FAt.of_mem hfm)))) (by omega) (by omega)) rfl ?_;refine l_quiet (o_loadR (q:=y.1) rf on1 (.old (.tail (.tail (FAt.of_mem hfm)))) (by omega)) rfl ?_;refine J1 ?_;refine J45 ?_;refine l_quiet (o_loadPart (k:=3) rf atT ag1 (by simp only[List.drop_zero,List.take_succ_cons,List.take_zero];exact rfl) rfl) rfl ?_;refine j_move ?_;refine j_own (cV (hc:=λ w1 hw=>vAt_c (hw.stAt (.inr (.inl (.head _))) (.inr (.inl (.tail _ (.head _)))) (λ f hf=>.inr (.inl (.tail _ (.tail _ hf)))) h0) _ (by omega) hl)) (λ x68=>?_);refine j_field ?_;refine Kd2 ?_;refine J39 ?_;refine kif (λ c70=>?_) (λ c70=>?_)
      ·try (first|(exact abt)|(exfalso;omega))
       refine J34 ?_;refine k_blk ?_;refine Kb6 ?_;refine k_rd ((by exact(y.1+1,y.2))) ?_
       ·first
         | exact⟨by omega,visB_next (by omega) hx.2.1 (by rw[hj.1];exact visB_i hkd hvq),h78.2⟩
         | exact⟨by omega,visB_next (by omega) hx.2.1 (visB_s (by rw[nodeV_c'];exact c70)),hx.2.2⟩
      ·try (first|(exact abt)|(exfalso;omega))
       refine J39 ?_;refine kif (λ c72=>?_) (λ c72=>?_)
       ·try (first|(exact abt)|(exfalso;omega))
        obtain⟨j,hj⟩:∃j:Nat,(nodeV L r).xs.getD y.1 0=((j+1:Nat):Int)/\j<L.length:=by have:=kind_in (N:=L.map NdV.c) (i:=(nodeV L r).xs.getD y.1 0) (by rw[nodeV_c'];show(nodeV L ((nodeV L r).xs.getD y.1 0)).nd.kind≠0;omega);rw[List.length_map] at this;exact⟨((nodeV L r).xs.getD y.1 0-1).toNat,by omega,by omega⟩
        have hkd:(ndAt (L.map NdV.c) ((nodeV L r).xs.getD y.1 0)).kind=2:=by rw[nodeV_c'];exact c72
        rw[hj.1] at hkd ⊢;refine Kc0 ?_;refine j_inc ?_;refine j_ownF (cM (hs:=[(b,trO L cs gen pn cn pc cc pv y.2 pp ps cp)]) (os:=trW L pv y.2) (hc:=λ w1 hs=>ih m rfl (lvl+1) (by omega) j y.2 _ w1 hj.2 hx.2.2 hs)) (λ x78 h78=>?_);refine J33 ?_;refine kif (λ c79=>?_) (λ c79=>?_)
        ·try (first|(exact abt)|(exfalso;omega))
         refine J10 ?_;refine k_rv Tryz.results142 (λ w hw=>?_);have hvq:vis (L.map NdV.c) cs m ((j+1:Nat):Int) y.2.l=none:=by
          have h1:=h78.1;unfold VisR at h1;split at h1;·exfalso;simp_all
          ·assumption
         exact⟨(false,x78.2),rfl,⟨by rw[vis_some hnot hr,nodeV_xs,visB_at (by omega) hx.2.1,hj.1,visB_f hkd hvq];exact rfl,h78.2⟩,hw.finH⟩
        ·try (first|(exact abt)|(exfalso;omega))
         have hvq:vis (L.map NdV.c) cs m ((j+1:Nat):Int) y.2.l=some x78.2.l:=by
          have h1:=h78.1;unfold VisR at h1;split at h1;·rename_i l e;rw[e,h1.2]
          ·exfalso;simp_all
         refine J34 ?_;refine k_blk ?_;refine Kb6 ?_;refine k_rd ((by exact(y.1+1,x78.2))) ?_
         ·first
           | exact⟨by omega,visB_next (by omega) hx.2.1 (by rw[hj.1];exact visB_i hkd hvq),h78.2⟩
           | exact⟨by omega,visB_next (by omega) hx.2.1 (visB_s (by rw[nodeV_c'];exact c70)),hx.2.2⟩
       ·try (first|(exact abt)|(exfalso;omega))
        refine J10 ?_;refine k_rv Tryz.results142 (λ w hw=>?_);exact⟨(false,y.2),rfl,⟨by rw[vis_some hnot hr,nodeV_xs,visB_at (by omega) hx.2.1,visB_no (by rw[nodeV_c'];exact c70) (by rw[nodeV_c'];exact c72)];exact rfl,hx.2.2⟩,hw.finH⟩
     ·try (first|(exact abt)|(exfalso;omega))
      refine k_exit rfl ?_;refine J10 ?_;refine k_rv Tryz.results142 (λ w hw=>?_);refine⟨(true,y.2),rfl,⟨?_,hx.2.2⟩,hw.finH⟩;have e2:=hx.2.1;rw[List.take_of_length_le (by omega)] at e2;rw[vis_some hnot hr,nodeV_xs,e2];exact⟨rfl,rfl⟩
theorem visit_c(h0:Fits L)(hb:StB L cs)(hl:L.length<=274877906944)(hc:cs.length<=274877906944)(b pv:Nat)(pp:Option Addr)(ps:List Pr)(cp:Nat):∀n,VisC L cs gen pn cn pc cc b pv pp ps cp n
 | 0=>visit1_c h0 hb hl hc b pv pp ps cp 0 λ m e=>nomatch e
 | n+1=>visit1_c h0 hb hl hc b pv pp ps cp (n+1) λ m e=>by cases e;exact visit_c h0 hb hl hc b pv pp ps cp n
end
end
end Go.Proofs.YtdnklbipddigbaaGreat

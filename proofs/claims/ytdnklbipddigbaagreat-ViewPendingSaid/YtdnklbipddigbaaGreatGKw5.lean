/- Merged. -/
import Derived.Test.YtdnklbipddigbaaGreatGPc2
import Derived.Test.YtdnklbipddigbaaGreatGVw1
import Derived.Test.YtdnklbipddigbaaGreatGAr9
import Derived.Test.YtdnklbipddigbaaGreatGBits
import Derived.Test.YtdnklbipddigbaaGreatGNode4
import Derived.Test.YtdnklbipddigbaaGreatGMst
set_option linter.unusedSimpArgs false
set_option linter.unusedVariables false
namespace Go.Proofs.YtdnklbipddigbaaGreat
open Go.Ct
section
def ctR(ro:Bool):CT:=if ro=true then .rort else .root
def TrieOk(σ:Kw)(t:Tri):Prop:=1<=t.root/\t.root<=σ.cl/\σ.ct t.root=ctR t.ro
def InG(σ:Kw)(i:Int)(w:List Nat)(g:Int):Prop:=IsI σ i w/\(σ.nd i).gen=g
section
variable{H:ByteArray->Nat}{Q:Rs->Kw->Prop}{σ τ υ:Kw}{i m p g:Int}{w:List Nat}{t:Tri}
theorem TrieOk.up(h:TrieOk σ t)(l:Le σ τ):TrieOk τ t:=⟨h.1,by have:=h.2.1;have:=l.cl;omega,by rw[l.ct _ h.2.1];exact h.2.2⟩
theorem InG.up(h:InG σ i w g)(l:Le σ τ):InG τ i w g:=⟨h.1.up l,by rw[l.nd h.1.in.2];exact h.2⟩
theorem InG.in(h:InG σ i w g):1<=i/\i<=σ.len:=h.1.in
theorem InG.cur(i1:Inv H σ)(h:InG σ i w g):IsM σ (σ.ce (σ.nd i).main) w g:=by have hc:=i1.mainCell h.1.1;have:=((i1.ce _ hc.1 hc.2.1).main i hc.2.2).2;rwa [h.1.2,h.2] at this
theorem casNo{cs:List Int}{c o:Int}(h1:1<=c)(h2:c<=cs.length)(h:¬CasOk cs c o):cellV cs c≠o:=λ e=>h ⟨h1,h2,by unfold cellV at e;rwa [if_pos ⟨h1,h2⟩] at e⟩
theorem alloc_wt{n:Nv}{c:Int}{k:Int->Tr}(i0:Inv H σ)(hn:NewOk H σ n w g)(hc:InOk σ n c w g)
  (hk:∀υ r cl,Le σ υ->Inv H υ->r=((σ.len+1:Nat):Int)->υ.mm=σ.mm.push n c->υ.nd r=alNv n cl->υ.way r=w->υ.gb r=g->1<=r->r<=υ.len->WT H Q (k r) υ):WT H Q (.alloc n c k) σ:=by
 obtain⟨υ,l2,i2,e2,e3,e4,e5⟩:=al_ok i0 hn hc;refine⟨υ,l2,i2,e2,hk υ _ σ.cl l2 i2 rfl e2 e3 e4 e5 (by omega) ?_⟩;have:υ.len=σ.len+1:=by simp only[Kw.len,e2,Mm.push,List.length_append,List.length_cons,List.length_nil]
 omega
structure Pend(σ:Kw)(m p:Int):Prop where
 mkd:MainK (σ.nd m)
 pk:MainK (σ.nd p)
 pm:PrevM σ m p
 ce:σ.ce (σ.nd m).prev=p∨σ.ce (σ.nd m).prev=0∨((σ.nd (σ.ce (σ.nd m).prev)).kind=7/\(σ.nd (σ.ce (σ.nd m).prev)).old=p)
theorem PrevM.up(i0:Inv H σ)(hm:MainK (σ.nd m))(h:PrevM σ m p)(l:Le σ τ):PrevM τ m p:=by have hr:1<=m/\m<=σ.len:=mainK_in hm;exact⟨by rw[l.way m hr.2,l.gb m hr.2];exact h.1.up l,Settled.up i0 h.1.1 h.2 l⟩
theorem Pend.up(i0:Inv H σ)(i1:Inv H τ)(h:Pend σ m p)(l:Le σ τ):Pend τ m p:=by
 have hr:1<=m/\m<=σ.len:=mainK_in h.mkd;have hp:1<=p/\p<=σ.len:=mainK_in h.pk;have hc:=i0.prevCell h.mkd;have hx:=l.nxt hc.1 hc.2.1 hc.2.2;refine⟨by rw[l.nd hr.2];exact h.mkd,by rw[l.nd hp.2];exact h.pk,h.pm.up i0 h.mkd l,?_⟩;rw[l.nd hr.2];rcases h.ce with e|e|⟨e1,e2⟩
 ·rw[e] at hx;rcases hx.2 h.pk with h1|h1|h1;·exact .inl h1
  ·exact .inr (.inl h1)
  ·exact .inr (.inr h1)
 ·rw[e] at hx;exact .inr (.inl (hx.1 (mk_dec (.inl (nd_zero _)))))
 ·have e3:=hx.1 (mk_dec (.inr (.inl e1)));rw[e3];rw[l.nd (kind_in (N:=σ.mm.nodes) (i:=σ.ce (σ.nd m).prev) (by rw[e1];decide)).2];exact .inr (.inr ⟨e1,e2⟩)
theorem Pend.cell(i0:Inv H σ)(h:Pend σ m p):1<=(σ.nd m).prev/\(σ.nd m).prev<=σ.cl/\σ.ct (σ.nd m).prev=.prev m:=i0.prevCell h.mkd
theorem Inv.desc(i0:Inv H σ){v:Int}(h:(σ.nd v).kind=8):v<=σ.len/\IsI σ (σ.nd v).old []/\IsI σ (σ.nd v).new []/\1<=(σ.nd v).status/\(σ.nd v).status<=σ.cl/\σ.ct (σ.nd v).status=.stat v:=by have hr:1<=v/\v<=σ.len:=kind_in (N:=σ.mm.nodes) (i:=v) (by rw[h];decide);have hn:=i0.nd v hr.1 hr.2;have h8:=hn.k8 h;exact⟨hr.2,h8.1,h8.2.1,h8.2.2.1,hn.bd.status,h8.2.2.2⟩
theorem TrieOk.rw(hT:TrieOk σ t)(hr:t.ro=false):σ.ct t.root=.root:=by rw[hT.2.2,hr];rfl
theorem stat_set{v s:Int}(i0:Inv H σ)(h:(σ.nd v).kind=8)(hs:s=1∨s=2){o:Int}(l1:Le σ τ)(i1:Inv H τ):SetOk τ (σ.nd v).status o s:=by
 have hd:=i0.desc h;have e:τ.ct (σ.nd v).status=.stat v:=by rw[l1.ct _ hd.2.2.2.2.1];exact hd.2.2.2.2.2
 refine⟨by omega,by have:=i1.two;omega,λ i' h=>?_,λ m' h=>?_,λ d h=>.inr hs,λ h=>?_,λ h=>?_⟩<;>rw[e] at h<;>cases h
theorem rootV(hT:TrieOk σ t)(i0:Inv H σ):σ.ce t.root<=σ.len/\(IsI σ (σ.ce t.root) []∨((σ.nd (σ.ce t.root)).kind=8/\t.ro=false)):=by
 have h:=i0.ce _ hT.1 hT.2.1;refine⟨h.hi,?_⟩;cases hr:t.ro with
 | true=>exact .inl (h.rort (by rw[hT.2.2,hr];rfl))
 | false=>
  rcases h.root (hT.rw hr) with h1|h1;·exact .inl h1
  ·exact .inr ⟨h1,rfl⟩
theorem TrieOk.roI(hT:TrieOk σ t)(i0:Inv H σ)(hr:t.ro=true):IsI σ (σ.ce t.root) []:=(i0.ce _ hT.1 hT.2.1).rort (by rw[hT.2.2,hr];rfl)
theorem main_set{n o:Int}(i0:Inv H σ)(hi:InG σ i w g)(hn:IsM σ n w g)(l1:Le σ τ)(i1:Inv H τ):SetOk τ (σ.nd i).main o n:=by
 have hc:=i0.mainCell hi.1.1;have e:τ.ct (σ.nd i).main=.main i:=by rw[l1.ct _ hc.2.1];exact hc.2.2
 have hn1:=hn.up l1;refine⟨by have:=hn1.in;omega,hn1.in.2,λ i' h=>?_,λ m' h=>?_,λ d h=>?_,λ h=>?_,λ h=>?_⟩<;>rw[e] at h;·cases h;have:=hi.up l1;rw[this.1.2,this.2];exact hn1
 ·cases h
 ·cases h
 ·cases h
 ·cases h
end
end
end Go.Proofs.YtdnklbipddigbaaGreat
namespace Go.Ct
open Go Go.RowKit
section
theorem StAt.of0{L:List NdV}{cs:List Int}{pn pc:Option Addr}{w w0:World}{M:List Nat}{H:List (Nat×Obj)}{F:Fr}{O:List Ow}(h:StAt w0 L cs pn pc)(hw:SF w0 M H ((pn,nvC L)::(pc,refsC cs)::famF L) F O w):StAt w L cs pn pc:=hw.stAt (.inr (.inl (.head _))) (.inr (.inl (.tail _ (.head _)))) (λ f hf=>.inr (.inl (.tail _ (.tail _ hf)))) h.fit
theorem nodeV_c'(L:List NdV)(r:Int):ndAt (L.map NdV.c) r=(nodeV L r).c:=(nodeV_c L r).symm
end
end Go.Ct
namespace Go.Proofs.YtdnklbipddigbaaGreat
open Go.Proofs.Tryz (prog)
open Go Go.RowKit Go.Ct
section
section
variable{L:List NdV}{cs:List Int}{gen:Int}{pn pc:Option Addr}{cn cc:Nat}{w:World}
abbrev stG(L:List NdV)(cs:List Int)(gen:Int)(pn:Option Addr)(cn:Nat)(pc:Option Addr)(cc:Nat):Value:=.agg ⟨[.slice pn L.length cn,.slice pc cs.length cc,.int .i64 gen]⟩
theorem vAt_no(h:StAt w L cs pn pc)(r:Int)(hr:r<1):Calls prog 93 #[stG L cs gen pn cn pc cc,.int .i64 r] w λ e w'=>e=.returned (nodeV L r).nd.v/\St w [] [] w':=by
 refine enter Tryz.func93 Tryz.ntmps93 rfl rfl h.start ?_;simp only[mkS];refine J0 ?_;refine j_box (λ x2=>?_);refine j_alloc (λ x4=>?_);refine l_nil ?_;refine Ke4 ?_;(refine lcs 7 (λ g7=>?_) (λ g7=>?_)<;>(try (exfalso;omega))<;>(refine j_un ?_));refine Ke5 ?_;refine kif (λ c13=>?_) (λ c13=>?_)
 ·try (exfalso;omega)
  refine Kf3 ?_;refine k_rt Tryz.results93 (λ w hw=>?_);exact⟨by rw[nodeV_no (by omega)];rfl,hw.done⟩
 ·exact nv c13
theorem vAt_at(h:StAt w L cs pn pc){k:Nat}(hk:(k:Int)<9223372036854775807)(hl:L.length<=274877906944):Calls prog 93 #[stG L cs gen pn cn pc cc,.int .i64 ((k+1:Nat):Int)] w λ e w'=>e=.returned (nodeV L ((k+1:Nat):Int)).nd.v/\St w [] [] w':=by
 refine enter Tryz.func93 Tryz.ntmps93 rfl rfl h.start ?_;simp only[mkS];refine J0 ?_;refine j_box (λ x2=>?_);refine j_alloc (λ x4=>?_);refine l_nil ?_;refine Ke4 ?_;(refine Ka3 ?_);refine Ke5 ?_;refine kif (λ c13=>?_) (λ c13=>?_)
 ·try (exfalso;omega)
  refine Kf3 ?_;refine k_rt Tryz.results93 (λ w hw=>?_);(exact⟨by rw[nodeV_no (by omega)];rfl,hw.done⟩)
 ·try (exfalso;omega)
  refine k_skip ?_;refine Kc4 ?_;refine j_dec ?_;refine J53 ?_;refine J5 ?_;refine k_rt Tryz.results93 (λ w hw=>?_);(exact⟨by rw[nodeV_at (by omega)];rfl,hw.done⟩)
theorem vAt_c(h:StAt w L cs pn pc)(r:Int)(hr:r<=9223372036854775807)(hl:L.length<=274877906944):Calls prog 93 #[stG L cs gen pn cn pc cc,.int .i64 r] w λ e w'=>e=.returned (nodeV L r).nd.v/\St w [] [] w':=by
 rcases Int.lt_or_le r 1 with h1|h1;·exact vAt_no h r h1
 ·obtain⟨k,rfl⟩:∃k:Nat,r=((k+1:Nat):Int):=⟨(r-1).toNat,by omega⟩;exact vAt_at h (by omega) hl
theorem vCell_no(h:StAt w L cs pn pc)(r:Int)(hr:r<1):Calls prog 94 #[stG L cs gen pn cn pc cc,.int .i64 r] w λ e w'=>e=.returned (.int .i64 (cellV cs r))/\St w [] [] w':=by
 refine enter Tryz.func94 Tryz.ntmps94 rfl rfl h.start ?_;simp only[mkS];refine J0 ?_;refine j_box (λ x2=>?_);refine Ke3 ?_;refine J64 ?_;(refine lcs 7 (λ g7=>?_) (λ g7=>?_)<;>(try (exfalso;omega))<;>(refine j_un ?_));refine Ke5 ?_;refine kif (λ c13=>?_) (λ c13=>?_)
 ·try (exfalso;omega)
  refine J10 ?_;refine k_rv Tryz.results94 (λ w hw=>?_);exact⟨by rw[cellV_no (by omega)];rfl,hw.done⟩
 ·exact nv c13
theorem vCell_at(h:StAt w L cs pn pc){k:Nat}(hk:(k:Int)<9223372036854775807)(hl:cs.length<=274877906944):Calls prog 94 #[stG L cs gen pn cn pc cc,.int .i64 ((k+1:Nat):Int)] w λ e w'=>e=.returned (.int .i64 (cellV cs ((k+1:Nat):Int)))/\St w [] [] w':=by
 refine enter Tryz.func94 Tryz.ntmps94 rfl rfl h.start ?_;simp only[mkS];refine J0 ?_;refine j_box (λ x2=>?_);refine Ke3 ?_;refine J64 ?_;(refine Ka3 ?_);refine Ke5 ?_;refine kif (λ c13=>?_) (λ c13=>?_)
 ·try (exfalso;omega)
  refine J10 ?_;refine k_rv Tryz.results94 (λ w hw=>?_);(exact⟨by rw[cellV_no (by omega)];rfl,hw.done⟩)
 ·try (exfalso;omega)
  refine k_skip ?_;refine Kc4 ?_;refine j_dec ?_;refine J53 ?_;refine J1 ?_;refine k_rv Tryz.results94 (λ w hw=>?_);(exact⟨by rw[cellV_at (by omega)];rfl,hw.done⟩)
theorem vCell_c(h:StAt w L cs pn pc)(r:Int)(hr:r<=9223372036854775807)(hl:cs.length<=274877906944):Calls prog 94 #[stG L cs gen pn cn pc cc,.int .i64 r] w λ e w'=>e=.returned (.int .i64 (cellV cs r))/\St w [] [] w':=by
 rcases Int.lt_or_le r 1 with h1|h1;·exact vCell_no h r h1
 ·obtain⟨k,rfl⟩:∃k:Nat,r=((k+1:Nat):Int):=⟨(r-1).toNat,by omega⟩;exact vCell_at h (by omega) hl
structure StB(L:List NdV)(cs:List Int):Prop where
 cs:∀c,cellV cs c<=9223372036854775807
 old:∀r,(nodeV L r).nd.old<=9223372036854775807
 new:∀r,(nodeV L r).nd.new<=9223372036854775807
 main:∀r,(nodeV L r).nd.main<=9223372036854775807
 prev:∀r,(nodeV L r).nd.prev<=9223372036854775807
 status:∀r,(nodeV L r).nd.status<=9223372036854775807
 br:∀r,∀b∈(nodeV L r).xs,b<=9223372036854775807
theorem vMain_c(h:StAt w L cs pn pc)(hb:StB L cs)(hl:L.length<=274877906944)(hc:cs.length<=274877906944)(i:Int)(hi:i<=9223372036854775807):Calls prog 52 #[stG L cs gen pn cn pc cc,.int .i64 i] w λ e w'=>e=.returned (.tuple #[.int .i64 ((bodyO (L.map NdV.c) cs i).getD 0),.bool (bodyO (L.map NdV.c) cs i).isSome])/\St w [] [] w':=by
 refine enter Tryz.func52 Tryz.ntmps52 rfl rfl h.start ?_;simp only[mkS];simp only[stG];refine J0 ?_;refine j_box (λ x2=>?_);refine J8 ?_;refine J71 ?_;refine j_own (cV (hc:=λ w1 hw=>vAt_c (h.of0 hw) i hi hl)) (λ x12=>?_);refine j_alloc (λ x6=>?_);refine J5 ?_;refine J72 ?_;refine Kb3 ?_;refine kif (λ c15=>?_) (λ c15=>?_);·refine J66 ?_;refine k_rt Tryz.results52 (λ w hw=>?_);refine⟨?_,hw.done⟩;unfold bodyO bodyQ bodyP bodyM;simp only[nodeV_c',MainK,NdV.c,Nd.c];simp_all;rfl
 ·refine Kc5 ?_;refine J3 ?_;refine j_own (cV (hc:=λ w1 hw=>vCell_c (h.of0 hw) (nodeV L i).nd.main (hb.main i) hc)) (λ x19=>?_);refine J27 ?_;refine J71 ?_;refine j_own (cV (hc:=λ w1 hw=>vAt_c (h.of0 hw) (cellV cs (nodeV L i).nd.main) (hb.cs _) hl)) (λ x22=>?_);refine j_ownF (c0 (V:=.bool) (hc:=λ w1 hw=>main_c _ w1)) (λ x23 h23=>?_);refine J33 ?_;refine kif (λ c24=>?_) (λ c24=>?_);·refine J66 ?_;refine k_rt Tryz.results52 (λ w hw=>?_);refine⟨?_,hw.done⟩;unfold bodyO bodyQ bodyP bodyM;simp only[nodeV_c',MainK,NdV.c,Nd.c];simp_all;rfl
  ·refine J16 ?_;refine k_dp [(0,[]),(1,[]),(2,[]),(3,[0]),(4,[]),(5,[]),(6,[])] ?_;refine r_load ?_;refine Ke0 ?_;refine r_own (i:=3) (hq:=(cV (hc:=λ w1 hw=>vAt_c (h.of0 hw) (cellV cs (nodeV L i).nd.main) (hb.cs _) hl))) (h:=λ x28=>?_);refine r_field ?_;refine r_own (i:=5) (hq:=(cV (hc:=λ w1 hw=>vCell_c (h.of0 hw) (nodeV L (cellV cs (nodeV L i).nd.main)).nd.prev (hb.prev _) hc))) (h:=λ x30=>?_);refine J7 ?_;refine J32 ?_;refine J50 ?_;refine kif (λ c32=>?_) (λ c32=>?_);·refine J2 ?_;refine J8 ?_;refine k_rt Tryz.results52 (λ w hw=>?_);refine⟨?_,hw.done⟩;unfold bodyO bodyQ bodyP bodyM;simp only[nodeV_c',MainK,NdV.c,Nd.c];simp_all;rfl
   ·refine J16 ?_;refine J71 ?_;refine j_own (cV (hc:=λ w1 hw=>vAt_c (h.of0 hw) (cellV cs (nodeV L (cellV cs (nodeV L i).nd.main)).nd.prev) (hb.cs _) hl)) (λ x36=>?_);refine j_alloc (λ x9=>?_);refine J5 ?_;refine J24 ?_;refine J50 ?_;refine kif (λ c39=>?_) (λ c39=>?_)
    ·refine k_region ?_;refine J3 ?_;refine J27 ?_;refine J71 ?_;refine j_own (cV (hc:=λ w1 hw=>vAt_c (h.of0 hw) _ (by exact hb.old _) hl)) (λ x44=>?_);refine j_ownF (c0 (V:=.bool) (hc:=λ w1 hw=>main_c _ w1)) (λ x45 h45=>?_);refine J33 ?_;refine kif (λ c46=>?_) (λ c46=>?_);·refine J66 ?_;refine k_rt Tryz.results52 (λ w hw=>?_);refine⟨?_,hw.done⟩;unfold bodyO bodyQ bodyP bodyM;simp only[nodeV_c',MainK,NdV.c,Nd.c];simp_all;rfl
     ·refine Kf5 ?_;refine k_rt Tryz.results52 (λ w hw=>?_);refine⟨?_,hw.done⟩;unfold bodyO bodyQ bodyP bodyM;simp only[nodeV_c',MainK,NdV.c,Nd.c];simp_all;rfl
    ·refine J16 ?_;refine J71 ?_;refine j_own (cV (hc:=λ w1 hw=>vAt_c (h.of0 hw) _ (by exact hb.cs _) hl)) (λ x44=>?_);refine j_ownF (c0 (V:=.bool) (hc:=λ w1 hw=>main_c _ w1)) (λ x45 h45=>?_);refine J33 ?_;refine kif (λ c46=>?_) (λ c46=>?_);·refine J66 ?_;refine k_rt Tryz.results52 (λ w hw=>?_);refine⟨?_,hw.done⟩;unfold bodyO bodyQ bodyP bodyM;simp only[nodeV_c',MainK,NdV.c,Nd.c];simp_all;rfl
     ·refine Kf5 ?_;refine k_rt Tryz.results52 (λ w hw=>?_);refine⟨?_,hw.done⟩;unfold bodyO bodyQ bodyP bodyM;simp only[nodeV_c',MainK,NdV.c,Nd.c];simp_all;rfl
end
end
section
section
variable{L:List NdV}{cs:List Int}{gen:Int}{pn pc:Option Addr}{cn cc:Nat}{w:World}
theorem rAt_no(h:StAt w L cs pn pc)(r:Int)(hr:r<1):Calls prog 109 #[stG L cs gen pn cn pc cc,.int .i64 r] w λ e w'=>e=.returned (nodeV L r).nd.v/\St w [] [] w':=by
 refine enter Tryz.func109 Tryz.ntmps109 rfl rfl h.start ?_;simp only[mkS];refine J0 ?_;refine j_box (λ x2=>?_);refine j_alloc (λ x4=>?_);refine l_nil ?_;refine Ke4 ?_;(refine lcs 7 (λ g7=>?_) (λ g7=>?_)<;>(try (exfalso;omega))<;>(refine j_un ?_));refine Ke5 ?_;refine kif (λ c13=>?_) (λ c13=>?_)
 ·try (exfalso;omega)
  refine Kf3 ?_;refine k_rt Tryz.results109 (λ w hw=>?_);exact⟨by rw[nodeV_no (by omega)];rfl,hw.done⟩
 ·exact nv c13
theorem rAt_at(h:StAt w L cs pn pc){k:Nat}(hk:(k:Int)<9223372036854775807)(hl:L.length<=274877906944):Calls prog 109 #[stG L cs gen pn cn pc cc,.int .i64 ((k+1:Nat):Int)] w λ e w'=>e=.returned (nodeV L ((k+1:Nat):Int)).nd.v/\St w [] [] w':=by
 refine enter Tryz.func109 Tryz.ntmps109 rfl rfl h.start ?_;simp only[mkS];refine J0 ?_;refine j_box (λ x2=>?_);refine j_alloc (λ x4=>?_);refine l_nil ?_;refine Ke4 ?_;(refine Ka3 ?_);refine Ke5 ?_;refine kif (λ c13=>?_) (λ c13=>?_)
 ·try (exfalso;omega)
  refine Kf3 ?_;refine k_rt Tryz.results109 (λ w hw=>?_);(exact⟨by rw[nodeV_no (by omega)];rfl,hw.done⟩)
 ·try (exfalso;omega)
  refine k_skip ?_;refine Kc4 ?_;refine j_dec ?_;refine J53 ?_;refine J5 ?_;refine k_rt Tryz.results109 (λ w hw=>?_);(exact⟨by rw[nodeV_at (by omega)];rfl,hw.done⟩)
theorem rAt_c(h:StAt w L cs pn pc)(r:Int)(hr:r<=9223372036854775807)(hl:L.length<=274877906944):Calls prog 109 #[stG L cs gen pn cn pc cc,.int .i64 r] w λ e w'=>e=.returned (nodeV L r).nd.v/\St w [] [] w':=by
 rcases Int.lt_or_le r 1 with h1|h1;·exact rAt_no h r h1
 ·obtain⟨k,rfl⟩:∃k:Nat,r=((k+1:Nat):Int):=⟨(r-1).toNat,by omega⟩;exact rAt_at h (by omega) hl
theorem rCell_no(h:StAt w L cs pn pc)(r:Int)(hr:r<1):Calls prog 110 #[stG L cs gen pn cn pc cc,.int .i64 r] w λ e w'=>e=.returned (.int .i64 (cellV cs r))/\St w [] [] w':=by
 refine enter Tryz.func110 Tryz.ntmps110 rfl rfl h.start ?_;simp only[mkS];refine J0 ?_;refine j_box (λ x2=>?_);refine Ke3 ?_;refine J64 ?_;(refine lcs 7 (λ g7=>?_) (λ g7=>?_)<;>(try (exfalso;omega))<;>(refine j_un ?_));refine Ke5 ?_;refine kif (λ c13=>?_) (λ c13=>?_)
 ·try (exfalso;omega)
  refine J10 ?_;refine k_rv Tryz.results110 (λ w hw=>?_);exact⟨by rw[cellV_no (by omega)];rfl,hw.done⟩
 ·exact nv c13
theorem rCell_at(h:StAt w L cs pn pc){k:Nat}(hk:(k:Int)<9223372036854775807)(hl:cs.length<=274877906944):Calls prog 110 #[stG L cs gen pn cn pc cc,.int .i64 ((k+1:Nat):Int)] w λ e w'=>e=.returned (.int .i64 (cellV cs ((k+1:Nat):Int)))/\St w [] [] w':=by
 refine enter Tryz.func110 Tryz.ntmps110 rfl rfl h.start ?_;simp only[mkS];refine J0 ?_;refine j_box (λ x2=>?_);refine Ke3 ?_;refine J64 ?_;(refine Ka3 ?_);refine Ke5 ?_;refine kif (λ c13=>?_) (λ c13=>?_)
 ·try (exfalso;omega)
  refine J10 ?_;refine k_rv Tryz.results110 (λ w hw=>?_);(exact⟨by rw[cellV_no (by omega)];rfl,hw.done⟩)
 ·try (exfalso;omega)
  refine k_skip ?_;refine Kc4 ?_;refine j_dec ?_;refine J53 ?_;refine J1 ?_;refine k_rv Tryz.results110 (λ w hw=>?_);(exact⟨by rw[cellV_at (by omega)];rfl,hw.done⟩)
theorem rCell_c(h:StAt w L cs pn pc)(r:Int)(hr:r<=9223372036854775807)(hl:cs.length<=274877906944):Calls prog 110 #[stG L cs gen pn cn pc cc,.int .i64 r] w λ e w'=>e=.returned (.int .i64 (cellV cs r))/\St w [] [] w':=by
 rcases Int.lt_or_le r 1 with h1|h1;·exact rCell_no h r h1
 ·obtain⟨k,rfl⟩:∃k:Nat,r=((k+1:Nat):Int):=⟨(r-1).toNat,by omega⟩;exact rCell_at h (by omega) hl
theorem rBody_c(h:StAt w L cs pn pc)(hb:StB L cs)(hl:L.length<=274877906944)(hc:cs.length<=274877906944)(i:Int)(hi:i<=9223372036854775807):Calls prog 69 #[stG L cs gen pn cn pc cc,.int .i64 i] w λ e w'=>e=.returned (.tuple #[.int .i64 ((bodyO (L.map NdV.c) cs i).getD 0),.bool (bodyO (L.map NdV.c) cs i).isSome])/\St w [] [] w':=by
 refine enter Tryz.func69 Tryz.ntmps69 rfl rfl h.start ?_;simp only[mkS];simp only[stG];refine J0 ?_;refine j_box (λ x2=>?_);refine Kd8 ?_;refine J71 ?_;refine j_own (cV (hc:=λ w1 hw=>rAt_c (h.of0 hw) i hi hl)) (λ x10=>?_);refine j_field ?_;refine Kb3 ?_;refine kif (λ c12=>?_) (λ c12=>?_);·refine J66 ?_;refine k_rt Tryz.results69 (λ w hw=>?_);refine⟨?_,hw.done⟩;unfold bodyO bodyQ bodyP bodyM;simp only[nodeV_c',MainK,NdV.c,Nd.c];simp_all;rfl
 ·refine J16 ?_;refine k_dp [(0,[]),(1,[]),(2,[]),(3,[0]),(4,[]),(5,[]),(6,[])] ?_;refine r_load ?_;refine Ke0 ?_;refine r_own (i:=3) (hq:=(cV (hc:=λ w1 hw=>rAt_c (h.of0 hw) i hi hl))) (h:=λ x16=>?_);refine r_field ?_;refine r_own (i:=5) (hq:=(cV (hc:=λ w1 hw=>rCell_c (h.of0 hw) (nodeV L i).nd.main (hb.main i) hc))) (h:=λ x18=>?_);refine J7 ?_;refine k_seq ?_;refine J71 ?_;refine j_own (cV (hc:=λ w1 hw=>rAt_c (h.of0 hw) (cellV cs (nodeV L i).nd.main) (hb.cs _) hl)) (λ x21=>?_);refine j_ownF (c0 (V:=.bool) (hc:=λ w1 hw=>refMain_c _ w1)) (λ x22 h22=>?_);refine J33 ?_;refine kif (λ c23=>?_) (λ c23=>?_);·refine J66 ?_;refine k_rt Tryz.results69 (λ w hw=>?_);refine⟨?_,hw.done⟩;unfold bodyO bodyQ bodyP bodyM;simp only[nodeV_c',MainK,NdV.c,Nd.c];simp_all;rfl
  ·refine J16 ?_;refine k_dp [(0,[]),(1,[]),(2,[]),(3,[0]),(4,[]),(5,[]),(6,[])] ?_;refine r_load ?_;refine Ke0 ?_;refine r_own (i:=3) (hq:=(cV (hc:=λ w1 hw=>rAt_c (h.of0 hw) (cellV cs (nodeV L i).nd.main) (hb.cs _) hl))) (h:=λ x27=>?_);refine r_field ?_;refine r_own (i:=5) (hq:=(cV (hc:=λ w1 hw=>rCell_c (h.of0 hw) (nodeV L (cellV cs (nodeV L i).nd.main)).nd.prev (hb.prev _) hc))) (h:=λ x29=>?_);refine J7 ?_;refine J62 ?_;refine J2 ?_;refine J28 ?_;refine kif (λ c30=>?_) (λ c30=>?_);·refine J2 ?_;refine J8 ?_;refine k_rt Tryz.results69 (λ w hw=>?_);refine⟨?_,hw.done⟩;unfold bodyO bodyQ bodyP bodyM;simp only[nodeV_c',MainK,NdV.c,Nd.c];simp_all;rfl
   ·refine J71 ?_;refine j_own (cV (hc:=λ w1 hw=>rAt_c (h.of0 hw) (cellV cs (nodeV L (cellV cs (nodeV L i).nd.main)).nd.prev) (hb.cs _) hl)) (λ x37=>?_);refine j_field ?_;refine J28 ?_;refine kif (λ c34=>?_) (λ c34=>?_)
    ·refine k_region ?_;refine Kb1 ?_;refine j_own (cV (hc:=λ w1 hw=>rAt_c (h.of0 hw) (cellV cs (nodeV L (cellV cs (nodeV L i).nd.main)).nd.prev) (hb.cs _) hl)) (λ x42=>?_);refine j_field ?_;refine J1 ?_;refine k_blk ?_;refine k_seq ?_;refine J71 ?_;refine j_own (cV (hc:=λ w1 hw=>rAt_c (h.of0 hw) _ (by exact hb.old _) hl)) (λ x46=>?_);refine j_ownF (c0 (V:=.bool) (hc:=λ w1 hw=>refMain_c _ w1)) (λ x47 h47=>?_);refine J33 ?_;refine kif (λ c48=>?_) (λ c48=>?_);·refine J66 ?_;refine k_rt Tryz.results69 (λ w hw=>?_);refine⟨?_,hw.done⟩;unfold bodyO bodyQ bodyP bodyM;simp only[nodeV_c',MainK,NdV.c,Nd.c];simp_all;rfl
     ·refine Kf5 ?_;refine k_rt Tryz.results69 (λ w hw=>?_);refine⟨?_,hw.done⟩;unfold bodyO bodyQ bodyP bodyM;simp only[nodeV_c',MainK,NdV.c,Nd.c];simp_all;rfl
    ·refine J34 ?_;refine k_seq ?_;refine J71 ?_;refine j_own (cV (hc:=λ w1 hw=>rAt_c (h.of0 hw) _ (by exact hb.cs _) hl)) (λ x46=>?_);refine j_ownF (c0 (V:=.bool) (hc:=λ w1 hw=>refMain_c _ w1)) (λ x47 h47=>?_);refine J33 ?_;refine kif (λ c48=>?_) (λ c48=>?_);·refine J66 ?_;refine k_rt Tryz.results69 (λ w hw=>?_);refine⟨?_,hw.done⟩;unfold bodyO bodyQ bodyP bodyM;simp only[nodeV_c',MainK,NdV.c,Nd.c];simp_all;rfl
     ·refine Kf5 ?_;refine k_rt Tryz.results69 (λ w hw=>?_);refine⟨?_,hw.done⟩;unfold bodyO bodyQ bodyP bodyM;simp only[nodeV_c',MainK,NdV.c,Nd.c];simp_all;rfl
theorem rRoot_c(h:StAt w L cs pn pc)(hb:StB L cs)(hl:L.length<=274877906944)(hc:cs.length<=274877906944)(c:Int)(ro:Bool)(hi:c<=9223372036854775807):Calls prog 72 #[stG L cs gen pn cn pc cc,.agg ⟨[.int .i64 c,.bool ro]⟩] w λ e w'=>e=.returned (.tuple #[.int .i64 ((rootO (L.map NdV.c) cs c).getD 0),.bool (rootO (L.map NdV.c) cs c).isSome])/\St w [] [] w':=by
 refine enter Tryz.func72 Tryz.ntmps72 rfl rfl h.start ?_;simp only[mkS];simp only[stG];refine J0 ?_;refine j_box (λ x2=>?_);refine j_box (λ x3=>?_);refine J8 ?_;refine J25 ?_;refine J3 ?_;refine j_own (cV (hc:=λ w1 hw=>rCell_c (h.of0 hw) c hi hc)) (λ x11=>?_);refine J27 ?_;refine J71 ?_;refine j_own (cV (hc:=λ w1 hw=>rAt_c (h.of0 hw) (cellV cs c) (hb.cs _) hl)) (λ x14=>?_);refine j_alloc (λ x7=>?_);refine J5 ?_;refine J24 ?_;refine J50 ?_;refine kif (λ c17=>?_) (λ c17=>?_)
 ·refine J24 ?_;refine J1 ?_;refine J25 ?_;refine J3 ?_;refine j_own (cV (hc:=λ w1 hw=>rCell_c (h.of0 hw) (nodeV L (cellV cs c)).nd.status (hb.status _) hc)) (λ x23=>?_);refine J50 ?_;refine kif (λ c24=>?_) (λ c24=>?_)
  ·refine k_region ?_;refine J3 ?_;refine J27 ?_;refine J71 ?_;refine j_own (cV (hc:=λ w1 hw=>rAt_c (h.of0 hw) _ (by exact hb.new _) hl)) (λ x29=>?_);refine j_field ?_;refine Kb3 ?_;refine kif (λ c31=>?_) (λ c31=>?_);·refine J66 ?_;refine k_rt Tryz.results72 (λ w hw=>?_);refine⟨?_,hw.done⟩;unfold rootO rootP;simp only[nodeV_c',MainK,NdV.c,Nd.c];simp_all;rfl
   ·refine Kf5 ?_;refine k_rt Tryz.results72 (λ w hw=>?_);refine⟨?_,hw.done⟩;unfold rootO rootP;simp only[nodeV_c',MainK,NdV.c,Nd.c];simp_all;rfl
  ·refine J16 ?_;refine J71 ?_;refine j_own (cV (hc:=λ w1 hw=>rAt_c (h.of0 hw) _ (by exact hb.old _) hl)) (λ x29=>?_);refine j_field ?_;refine Kb3 ?_;refine kif (λ c31=>?_) (λ c31=>?_);·refine J66 ?_;refine k_rt Tryz.results72 (λ w hw=>?_);refine⟨?_,hw.done⟩;unfold rootO rootP;simp only[nodeV_c',MainK,NdV.c,Nd.c];simp_all;rfl
   ·refine Kf5 ?_;refine k_rt Tryz.results72 (λ w hw=>?_);refine⟨?_,hw.done⟩;unfold rootO rootP;simp only[nodeV_c',MainK,NdV.c,Nd.c];simp_all;rfl
 ·refine J16 ?_;refine J71 ?_;refine j_own (cV (hc:=λ w1 hw=>rAt_c (h.of0 hw) _ (by exact hb.cs _) hl)) (λ x29=>?_);refine j_field ?_;refine Kb3 ?_;refine kif (λ c31=>?_) (λ c31=>?_);·refine J66 ?_;refine k_rt Tryz.results72 (λ w hw=>?_);refine⟨?_,hw.done⟩;unfold rootO rootP;simp only[nodeV_c',MainK,NdV.c,Nd.c];simp_all;rfl
  ·refine Kf5 ?_;refine k_rt Tryz.results72 (λ w hw=>?_);refine⟨?_,hw.done⟩;unfold rootO rootP;simp only[nodeV_c',MainK,NdV.c,Nd.c];simp_all;rfl
end
end
end Go.Proofs.YtdnklbipddigbaaGreat
namespace Go.Ct
open Go Go.RowKit
section
def Vis(n:Nat)(vs:List Bool)(l:List Int):Prop:=vs.length=n/\(∀k,k<n->(vs.getD k false=true↔((k+1:Nat):Int)∈l))/\l.length+vs.count false=n
theorem Vis.zero(n:Nat):Vis n (List.replicate n false) []:=⟨by simp,λ k hk=>by simp[gdg,hk],by simp⟩
theorem count_set:∀(vs:List Bool) (k:Nat),k<vs.length->vs.getD k false=false->(vs.set k true).count false+1=vs.count false
 | [],_,h,_=>by simp at h
 | b::vs,0,_,h=>by
  have e:b=false:=by simpa using h
  subst e
  simp
 | b::vs,k+1,h,h2=>by
  have:=count_set vs k (by simpa using h) (by simpa using h2)
  rw[List.set_cons_succ,List.count_cons,List.count_cons]
  omega
theorem Vis.set{n k:Nat}{vs:List Bool}{l:List Int}(h:Vis n vs l)(hk:k<n)(hf:vs.getD k false=false):Vis n (vs.set k true) (l++[((k+1:Nat):Int)]):=by
 have h1:=h.1;refine⟨by simp[h.1],λ j hj=>?_,?_⟩
 ·have h2:=h.2.1 j hj;rw[gdg] at h2;rw[gdg,List.getElem?_set];by_cases e:k=j;·subst e;simp[show k<vs.length by omega]
  ·rw[if_neg e,h2];simp only[List.mem_append,List.mem_singleton];constructor;·exact .inl
   ·rintro (h3|h3);·exact h3
    ·omega
 ·have:=count_set vs k (by omega) hf;have:=h.2.2;simp only[List.length_append,List.length_cons,List.length_nil];omega
theorem Vis.len{n:Nat}{vs:List Bool}{l:List Int}(h:Vis n vs l):l.length<=n:=by have:=h.2.2;omega
theorem mainK_in'{N:List Nv}{r:Int}(h:MainK (ndAt N r)):1<=r/\r<=N.length:=kind_in (by unfold MainK at h;omega)
theorem famV_br{L:List NdV}{r:Int}(h:1<=r/\r<=L.length):((nodeV L r).nd.brA,refsC (nodeV L r).xs)∈famF L:=by unfold nodeV;rw[if_pos h];exact famF_br (by omega)
theorem famV_pr{L:List NdV}{r:Int}(h:1<=r/\r<=L.length):((nodeV L r).nd.prA,prC (nodeV L r).ys)∈famF L:=by unfold nodeV;rw[if_pos h];exact famF_pr (by omega)
theorem nodeV_xs(L:List NdV)(r:Int):(ndAt (L.map NdV.c) r).xs=(nodeV L r).xs:=by rw[nodeV_c'];rfl
theorem root_in{L:List NdV}{cs:List Int}{c r:Int}(h:rootO (L.map NdV.c) cs c=some r):∃k:Nat,r=((k+1:Nat):Int)/\k<L.length:=by
 unfold rootO at h;split at h;·rename_i hk;cases h;have:=kind_in (N:=L.map NdV.c) (i:=rootP (L.map NdV.c) cs c) (by omega);rw[List.length_map] at this;exact⟨(rootP (L.map NdV.c) cs c-1).toNat,by omega,by omega⟩
 ·cases h
end
section
structure Pl where
 i:Int
 m:Int
 a:Int
 lv:Nat
 way:List Int
def idxF(b:Nat):Nat->List Int
 | 0=>[]
 | k+1=>idxF b k++(if b.testBit k then [(k:Int)] else [])
def plB(N:List Nv)(f:Int->List Int->List Int->Option (List Pl×List Pr))(way idx:List Int):List Int->Nat->List Int->Option (List Pl×List Pr)
 | [],_,_=>some ([],[])
 | b::r,j,s=>if(ndAt N b).kind=4 then(plB N f way idx r (j+1) s).map λ q=>(q.1,((ndAt N b).key,(ndAt N b).val)::q.2)
  else if(ndAt N b).kind=2 then(f b (way++[idx.getD j 0]) s).bind λ p=>(plB N f way idx r (j+1) (s++p.1.map Pl.i)).map λ q=>(p.1++q.1,p.2++q.2)
  else none
def plc(N:List Nv)(cs:List Int):Nat->Int->Nat->Int->List Int->List Int->Option (List Pl×List Pr)
 | 0,_,_,_,_,_=>none
 | n+1,a,lv,i,way,s=>if i∈s then none else(bodyO N cs i).bind λ m =>
  if(ndAt N m).kind=5∨(ndAt N m).kind=6 then some ([⟨i,m,a,lv,way⟩],ownP (ndAt N m))
  else(plB N (λ b w s=>plc N cs n i (lv+1) b w s) way (idxF (ndAt N m).bm.toNat 64) (ndAt N m).xs 0 (s++[i])).map λ q=>(⟨i,m,a,lv,way⟩::q.1,q.2)
end
section
theorem idxF_len(b:Nat):∀k,(idxF b k).length=cnt b k
 | 0=>rfl
 | k+1=>by simp only[idxF,List.length_append,idxF_len b k,cnt];split<;>simp_all
end
end Go.Ct
namespace Go.Proofs.YtdnklbipddigbaaGreat
open Go Go.RowKit Go.Ct
section
theorem refIndices_c{n:Nat}(hn:n<18446744073709551616)(w:World):Calls Tryz.prog 140 #[.int .u64 (n:Int)] w λ e w'=>∃x:Option Addr×Nat,e=.returned (.slice x.1 (idxF n 64).length x.2)/\True/\SF w [] [] [] [(x.1,refsC (idxF n 64))] [] w':=by
 refine enter Tryz.func140 Tryz.ntmps140 rfl rfl ((SF.s0 w).nilOwn 3 1) ?_;simp only[mkS];refine J10 ?_;refine J75 ?_;refine J69 ?_;refine k_lp [3,4,5,6,7,8,9,10,11,12,13,14,15] (λ y:Nat×Option Addr×Nat=>[(3,.slice y.2.1 (idxF n y.1).length y.2.2),(4,.int .i64 ((y.1:Nat):Int))]) (λ y=>y.1<=64) (λ _=>_) (λ _=>_) (λ y=>[⟨y.2.1,refsC (idxF n y.1),y.2.2,3,1⟩]) (λ y=>64-y.1) ((0,none,0)) (by decide) (λ y f hx=>?_);dsimp only[mkU,List.map,List.cons_append,List.nil_append];have hcl:=cnt_le n y.1;have hil:=idxF_len n y.1;refine J32 ?_;refine J47 ?_;refine kif (λ c6=>?_) (λ c6=>?_)
 ·refine J37 ?_;refine J11 ?_;refine j_own (cV (hc:=λ w1 hw=>refHas_c hn (y.1:Int) w1)) (λ x11=>?_);refine l_nil ?_;refine kif (λ c11=>?_) (λ c11=>?_)
  ·have e1:idxF n (y.1+1)=idxF n y.1++[(y.1:Int)]:=by rw[hasI_in n (by omega) (by omega),Int.toNat_natCast] at c11;simp only[idxF,c11,if_true]
   refine J76 ?_;refine j_buildSlice (λ x14=>?_);(refine j_append (λ x15=>?_);try (refine l_fact (λ h15=>?_)));refine J1 ?_;refine Kb5 ?_;refine k_roundF ((by exact(y.1+1,x15))) ?_ ?_ (by repeat (first|(with_reducible exact Pre.refl)|refine Pre.cons (by exact rfl) ?_)) ?_ (λ w hw=>by simp only[e1];exact hw.back);·omega
   ·repeat' (first|exact knows_nil _|refine knows_cons ?_ ?_)
    all_goals (first|exact rfl|(simp only[e1];(conv=>{lhs;whnf};simp;done)))
   ·(show y.1+1<=64;omega)
  ·have e1:idxF n (y.1+1)=idxF n y.1:=by rw[hasI_in n (by omega) (by omega),Int.toNat_natCast] at c11;simp only[idxF,c11];simp
   refine Kd1 ?_;refine k_roundF ((by exact(y.1+1,y.2))) ?_ ?_ (by repeat (first|(with_reducible exact Pre.refl)|refine Pre.cons (by exact rfl) ?_)) ?_ (λ w hw=>by simp only[e1];exact hw.back);·omega
   ·repeat' (first|exact knows_nil _|refine knows_cons ?_ ?_)
    all_goals (first|exact rfl|(simp only[e1];exact rfl))
   ·(show y.1+1<=64;omega)
 ·refine k_exit rfl ?_;refine Kb2 ?_;refine k_rv Tryz.results140 (λ w hw=>?_);have e2:y.1=64:=by omega
  rw[e2] at hw ⊢;generalize idxF n 64=B at hw ⊢;exact⟨y.2,rfl,trivial,SF.frz hw.finH⟩
theorem refIndicesE_c{n:Nat}{b:Int}{ix:List Int}(hi:ix=idxF n 64)(hn:n<18446744073709551616)(e:b=(n:Int))(w:World):Calls Tryz.prog 140 #[.int .u64 b] w λ e w'=>∃x:Option Addr×Nat,e=.returned (.slice x.1 ix.length x.2)/\True/\SF w [] [] [] [(x.1,refsC ix)] [] w':=by rw[hi,e];with_reducible exact refIndices_c hn w
end
end Go.Proofs.YtdnklbipddigbaaGreat
namespace Go.Ct
open Go Go.RowKit
section
structure PlV where
 p:Pl
 wp:Option Addr
 wc:Nat
def PlV.cells(v:PlV):List Value:=[.int .i64 v.p.i,.int .i64 v.p.m,.int .i64 v.p.a,.int .i64 ((v.p.lv:Nat):Int),.slice v.wp v.p.way.length v.wc]
def plsC(l:List PlV):List Value:=l.flatMap PlV.cells
def famW(l:List PlV):Fr:=l.map λ v=>(v.wp,refsC v.p.way)
theorem plsC_length:∀l:List PlV,(plsC l).length=l.length*5
 | []=>rfl
 | v::l=>by simp only[plsC,List.flatMap_cons,List.length_append] at *;rw[show(List.flatMap PlV.cells l).length=l.length*5 from plsC_length l];simp[PlV.cells];omega
theorem plsC_append(l l2:List PlV):plsC (l++l2)=plsC l++plsC l2:=by simp[plsC]
theorem oneCells_pls:∀l:List PlV,(plsC l).all (·.oneCell')=true
 | []=>rfl
 | v::l=>by simp only[plsC,List.flatMap_cons,List.all_append];rw[show(List.flatMap PlV.cells l).all (·.oneCell')=true from oneCells_pls l];rfl
section
variable{N:List Nv}{f:Int->List Int->List Int->Option (List Pl×List Pr)}{way idx xs s s2:List Int}{j:Nat}{r:List Pl×List Pr}
def PlB(N:List Nv)(f:Int->List Int->List Int->Option (List Pl×List Pr))(way idx xs s:List Int)(j:Nat)(tl:List Pl)(ps:List Pr):Prop :=plB N f way idx xs 0 s=(plB N f way idx (xs.drop j) j (s++tl.map Pl.i)).map λ q=>(tl++q.1,ps++q.2)
theorem PlB.zero:PlB N f way idx xs s 0 [] []:=by unfold PlB;simp only[List.drop_zero,List.map_nil,List.append_nil,List.nil_append];cases plB N f way idx xs 0 s<;>rfl
theorem drop_at{xs:List Int}{j:Nat}(h:j<xs.length):xs.drop j=xs.getD j 0::xs.drop (j+1):=by rw[List.drop_eq_getElem_cons h,gdg,List.getElem?_eq_getElem h];rfl
theorem PlB.single{tl:List Pl}{ps:List Pr}(h:PlB N f way idx xs s j tl ps)(hj:j<xs.length)(hk:(ndAt N (xs.getD j 0)).kind=4):PlB N f way idx xs s (j+1) tl (ps++[((ndAt N (xs.getD j 0)).key,(ndAt N (xs.getD j 0)).val)]):=by unfold PlB at h ⊢;rw[h,drop_at hj];simp only[plB,hk,if_true];cases plB N f way idx (xs.drop (j+1)) (j+1) (s++tl.map Pl.i)<;>simp
theorem PlB.inner{tl:List Pl}{ps:List Pr}(h:PlB N f way idx xs s j tl ps)(hj:j<xs.length)(hk:(ndAt N (xs.getD j 0)).kind=2)(hf:f (xs.getD j 0) (way++[idx.getD j 0]) (s++tl.map Pl.i)=some r):PlB N f way idx xs s (j+1) (tl++r.1) (ps++r.2):=by
 unfold PlB at h ⊢;rw[h,drop_at hj];have h4:¬(ndAt N (xs.getD j 0)).kind=4:=by omega
 simp only[plB,h4,hk,if_true,if_false,hf,Option.bind_some,List.map_append,List.append_assoc];cases plB N f way idx (xs.drop (j+1)) (j+1) (s++(tl.map Pl.i++r.1.map Pl.i))<;>simp
theorem PlB.fail{tl:List Pl}{ps:List Pr}(h:PlB N f way idx xs s j tl ps)(hj:j<xs.length)(hk:(ndAt N (xs.getD j 0)).kind=2)(hf:f (xs.getD j 0) (way++[idx.getD j 0]) (s++tl.map Pl.i)=none):plB N f way idx xs 0 s=none:=by
 unfold PlB at h;rw[h,drop_at hj];have h4:¬(ndAt N (xs.getD j 0)).kind=4:=by omega
 simp only[plB,h4,hk,if_true,if_false,hf,Option.bind_none,Option.map_none,reduceCtorEq,show ¬((2:Int)=4) by decide]
theorem PlB.bad{tl:List Pl}{ps:List Pr}(h:PlB N f way idx xs s j tl ps)(hj:j<xs.length)(hk:(ndAt N (xs.getD j 0)).kind≠4)(hk2:(ndAt N (xs.getD j 0)).kind≠2):plB N f way idx xs 0 s=none:=by unfold PlB at h;rw[h,drop_at hj];simp only[plB,hk,hk2,if_false,Option.map_none]
theorem PlB.done{tl:List Pl}{ps:List Pr}(h:PlB N f way idx xs s j tl ps)(hj:xs.length<=j):plB N f way idx xs 0 s=some (tl,ps):=by unfold PlB at h;rw[h,List.drop_eq_nil_of_le hj];simp[plB]
end
section
variable{N:List Nv}{cs:List Int}{a i m:Int}{lv n:Nat}{way s:List Int}
theorem plc_seen(h:i∈s):∀{n:Nat},plc N cs n a lv i way s=none
 | 0=>rfl
 | _+1=>if_pos h
theorem plc_none(h:(bodyO N cs i).isSome=false):∀{n:Nat},plc N cs n a lv i way s=none
 | 0=>rfl
 | n+1=>by
  unfold plc;cases hb:bodyO N cs i with
  | none=>split<;>rfl
  | some m=>rw[hb] at h;cases h
theorem plc_own(h:¬i∈s)(h2:bodyO N cs i=some m)(h3:(ndAt N m).kind=5∨(ndAt N m).kind=6):plc N cs (n+1) a lv i way s=some ([⟨i,m,a,lv,way⟩],ownP (ndAt N m)):=by unfold plc;rw[if_neg h,h2,Option.bind_some,if_pos h3]
theorem plc_c(h:¬i∈s)(h2:bodyO N cs i=some m)(h3:¬((ndAt N m).kind=5∨(ndAt N m).kind=6)):plc N cs (n+1) a lv i way s=(plB N (λ b w s=>plc N cs n i (lv+1) b w s) way (idxF (ndAt N m).bm.toNat 64) (ndAt N m).xs 0 (s++[i])).map λ q=>(⟨i,m,a,lv,way⟩::q.1,q.2):=by rw[plc];rw[if_neg h,h2,Option.bind_some,if_neg h3]
end
end
section
section
variable{P:Program}{S:List (Nat×Value)}{G:World->Prop}{d:Nat}{ty t t' e:TypeId}{pos:String}{af:Array Edge}{gd:Option (Nat×Bool)}{x y:Operand}{w0 w:World}{M:List Nat}{H:List (Nat×Obj)}{A F:Fr}{O:List Ow}{a:Option Addr}
theorem SF.ownB{b c sz:Nat}{cs:List Value}{T:TypeId}(h:SF w0 M ((b,.cells ⟨cs⟩ T (0,0))::H) A F O w)(hl:cs.length=c*sz):SF w0 M H A F (⟨some ⟨b,0,none⟩,cs,c,T,sz⟩::O) w:=by
 have hp:(Ks H (⟨some ⟨b,0,none⟩,cs,c,T,sz⟩::O)).Perm (Ks ((b,.cells ⟨cs⟩ T (0,0))::H) O):=by unfold Ks;simp only[List.flatMap_cons,oblk,List.map_cons,List.cons_append,List.nil_append];exact List.perm_middle
 have hb:=h.st.has (b,.cells ⟨cs⟩ T (0,0)) (List.mem_cons_self ..);have hn:=h.st.new (b,.cells ⟨cs⟩ T (0,0)) (List.mem_cons_self ..);refine⟨h.st.sub (List.sublist_cons_self ..),λ f hf=>⟨(h.old f hf).1,λ hc hm=>(h.old f hf).2 hc (hp.mem_iff.1 hm)⟩,λ f hf=>⟨(h.new f hf).1,λ hc=>⟨λ hm=>((h.new f hf).2 hc).1 (hp.mem_iff.1 hm),((h.new f hf).2 hc).2⟩⟩,λ o ho=>?_,hp.nodup_iff.2 h.dis⟩;rcases List.mem_cons.1 ho with rfl|ho;·refine⟨.inr ⟨b,[],rfl,by simpa using hb,by simpa using hl⟩,λ k hk=>?_⟩;simp only[oblk,List.mem_singleton] at hk;subst hk;exact hn.symm
 ·exact h.own o ho
theorem o_buildO{len:Nat}{parts:List (Nat×Operand)}{ps:List (Nat×Value)}{zc cs:List Value}{sz:Nat}(he:ElemIs P t e zc)(hv:opParts S parts=ps)(hlen:ps.length=len)(hidx:ps.map Prod.fst=List.range' 0 ps.length)(h1:(ps.all λ p=>Nat.beq (cellsL p.2).length zc.length)=true)
  (hpos:(Nat.blt 0 len&&Nat.blt 0 zc.length&&Nat.ble (len*zc.length) 16777216)=true) (hcs:flatP ps=cs) (hsz:cs.length=len*sz) :
  Loud P S (SF w0 M H A F O) ⟨some d,.buildSlice t len ⟨parts⟩,ty,pos,af,gd⟩ Nat (λ b=>.slice (some ⟨b,0,none⟩) len len) (λ b=>SF w0 M H A F (⟨some ⟨b,0,none⟩,cs,len,e,sz⟩::O)) :=
 (lSF λ _=>o_buildSlice he hv hlen hidx h1 hpos hcs).conv λ b w h=>h.ownB hsz
end
end
end Go.Ct

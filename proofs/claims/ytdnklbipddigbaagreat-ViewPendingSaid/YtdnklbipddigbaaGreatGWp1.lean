/- Merged. -/
import Derived.Test.YtdnklbipddigbaaGreatGWo6
import Derived.Test.YtdnklbipddigbaaGreatGWf1
import Derived.Test.YtdnklbipddigbaaGreatGVp1
import Derived.Test.YtdnklbipddigbaaGreatGVw6
import Derived.Test.YtdnklbipddigbaaGreatGPc2
import Derived.Test.YtdnklbipddigbaaGreatGMst
import Derived.Test.YtdnklbipddigbaaGreatGAr9
import Derived.Test.YtdnklbipddigbaaGreatGSlices
import Derived.Test.YtdnklbipddigbaaGreatGOpen
set_option linter.unusedSimpArgs false
set_option linter.unusedVariables false
namespace Go.Proofs.YtdnklbipddigbaaGreat
open Go Go.RowKit Go.Ct
section
def PlOk(z:XS)(p:Pl):Prop:=(ndAt (z.L.map NdV.c) p.i).kind=2/\bodyO (z.L.map NdV.c) z.cs p.i=some p.m
theorem PlOk.in{z:XS}{p:Pl}(h:PlOk z p):1<=p.i/\p.i<=z.L.length:=by have:=kind_in (N:=z.L.map NdV.c) (i:=p.i) (by have:=h.1;omega);rwa [List.length_map] at this
theorem body_main{N:List Nv}{cs:List Int}{i m:Int}(h:bodyO N cs i=some m):MainK (ndAt N m):=by
 unfold bodyO at h;split at h
 ·rename_i h1;split at h;·cases h;exact h1.2
  ·split at h;·cases h;assumption
   ·cases h
 ·cases h
theorem PlOk.mk{z:XS}{p:Pl}(h:PlOk z p):MainK (ndAt (z.L.map NdV.c) p.m):=body_main h.2
theorem PlOk.inm{z:XS}{p:Pl}(h:PlOk z p):1<=p.m/\p.m<=z.L.length:=by have:=kind_in (N:=z.L.map NdV.c) (i:=p.m) (by have:=h.mk;unfold MainK at this;omega);rwa [List.length_map] at this
abbrev plv0:PlV:=⟨⟨0,0,0,0,[]⟩,none,0⟩
def PlIn(z:XS)(t:Tri)(p:Pl):Prop:=∃r q,rootO (z.L.map NdV.c) z.cs t.root=some r/\plc (z.L.map NdV.c) z.cs 12 0 0 r [] []=some q/\p∈q.1
theorem wPlace_c{bw bm tp m B C E:Nat}{W:Wd}{t:Tri}{l:List Int}{a:Option Addr}{c pos:Nat}{D:List Nat}{A:Fr}{w:World}(hW:WOk m B C E W)(hB:B<=3000000000)(ht:t∈W.ts)(hrt:t.root<=9223372036854775807)(hl:l.length<=17592186043904)(hA:∀f∈famF W.z.L,f∈A)(hT:(a,refsC l)∈A)
    (hs:SF w D [(tp,tpO a l c pos),(bw,wobj bm (m:Int) W.pt W.ts.length W.kt W.pe (exB W.ex).length W.ke),(bm,xM W.z)] A [] (memW W.z) w) :
    Calls Tryz.prog 10 #[.pointer (some ⟨bw,0,none⟩),.agg ⟨[.int .i64 t.root,.bool t.ro]⟩,.pointer (some ⟨tp,0,none⟩)] w λ e w'=>∃v:PlV,e=.returned (.tuple #[.agg ⟨v.cells⟩,.bool true])/\(PlOk W.z v.p/\PlIn W.z t v.p) /\
      SF w D [(tp,tpO a l c (tiN l pos)),(bw,wobj bm (m:Int) W.pt W.ts.length W.kt W.pe (exB W.ex).length W.ke),(bm,xM W.z)] [] [] (memW W.z) w':=by
  obtain⟨r,q,hro,hpl,hne,hq⟩:=world_place hW ht;obtain⟨s1,s2,s3⟩:=hW.sz;have hys:=world_ysQ hW;have hpr:=world_proper hW;refine enter Tryz.func10 Tryz.ntmps10 rfl rfl hs ?_;simp only[mkS];refine J0 ?_;refine j_box (λ x4=>?_);refine j_alloc (λ x6=>?_);refine J27 ?_;refine k_dq [0,1,2,3,4,5,6,7,8,9,10,11,12,13,14,15] ?_;refine J14 ?_;refine J4 ?_;refine r_ownQ (i:=6) (hq:=(o_loadPart (k:=3) rf atT ag1 (by simp only[List.drop_zero,List.take_succ_cons,List.take_zero];exact rfl) rfl)) (h:=?_);refine r_load ?_;refine r_ownF (i:=8) (hq:=(cFH (V:=λ x:PlX=>.tuple #[.slice x.lp x.l.length x.lc,.slice x.pp x.ps.length x.pc,.bool true]) (Hc:=λ _=>[]) (Fc:=λ x=>x.fr) (F1:=λ x=>x.fr) (Oc:=λ _=>[]) (hF1:=λ x=>List.append_nil _) (hc:=λ w1 hw=>rPlacesP_c (B:=8) hpr (hw.stAt (.inr (.inr (.inr ⟨_,.head _,rfl,rfl⟩))) (.inr (.inr (.inr ⟨_,.tail _ (.head _),rfl,rfl⟩))) (λ f hf=>.inr (.inl (hA f hf))) hW.z.fit) (rngs_o2 hW.z) (by omega) (by omega) hys (by omega) _ _ hrt hro hpl))) (h:=λ x20 h20=>?_);obtain⟨hx1,hx2⟩:=h20;have hln:0<x20.l.length:=by have:=congrArg List.length hx1;rw[List.length_map] at this;have:=List.length_pos_iff.2 hne;omega
  refine Kd0 ?_;refine r_extract ?_;refine r_assignL (h:=λ _=>?_);refine J55 ?_;refine J32 ?_;refine J59 ?_;(refine Ka3 ?_);((refine j_yes ?_;refine j_len ?_));refine J12 ?_;refine l_nil ?_;refine kif (λ c30=>?_) (λ c30=>?_)
  · exfalso;have c30':x20.l.length=0:=by simpa using c30
    omega
  · refine J58 ?_;refine j_move ?_;refine j_len ?_;refine j_ownF (cF1 (hc:=λ w1 hw=>next_c x20.l.length (hw.tape atT (.old (FAt.of_mem hT)) hl) (by omega) (by omega))) (λ x36 h36=>?_);refine l_quiet (o_indexG (lst:=x20.l) (g:=PlV.cells) (sz:=5) (k:=x36) (λ _=>rfl) (by decide) rf rf sl1 ag1 (.new (FAt.of_mem (List.mem_cons_self ..))) (by omega) (by omega)) rfl ?_;refine l_quiet (o_loadG (lst:=x20.l) (g:=PlV.cells) (sz:=5) (q:=x36) plv0 (λ _=>rfl) rf ag1 (.new (FAt.of_mem (List.mem_cons_self ..))) (by omega)) rfl ?_;refine J46 ?_
    refine k_rt Tryz.results10 (λ w hw=>?_)
    have hmem:(x20.l.getD x36 plv0).p∈q.1:=by rw[<- hx1,List.mem_map];exact⟨x20.l.getD x36 plv0,by rw[gdg,List.getElem?_eq_getElem (show x36<x20.l.length by omega)];exact List.getElem_mem _,rfl⟩
    refine⟨x20.l.getD x36 plv0,rfl,⟨hq _ hmem,r,q,hro,hpl,hmem⟩,?_⟩
    · exact hw.ret (by repeat (first|exact List.Sublist.refl _|apply List.Sublist.cons)) FSub.nil (List.Sublist.refl _)
end
section
end
section
section
variable{L:List NdV}{cs:List Int}{gen:Int}{pn pc:Option Addr}{cn cc:Nat}{w:World}
end
theorem one_beq(x:Int):Ending.returned (tupleOf [Value.bool (x==x)])=.returned (.bool true):=by rw[beq_self_eq_true];rfl
abbrev plOc(v:PlV):Obj:=.cells ⟨v.cells⟩ 30 (0,0)
abbrev zW(W:Wd)(z:XS):Wd:=⟨z,W.ts,W.pt,W.kt,[],none,0⟩
end
section
theorem QS.pn{H:ByteArray->Nat}{M:Mm}{ts:List Tri}{σ:Kw}(q:QS H M ts σ):ProperN M.nodes M.cs M.gen:=by have em:=q.mm;subst em;exact q.inv.prop
def fN(m:Int):Nd:={Nd.zero with kind:=7,old:=m}
structure VG(L:List NdV)(cs:List Int)(gen i r:Int):Prop where
 p:Proper L cs gen
 b:bodyO (L.map NdV.c) cs i=some r
 f:Fits L
 r:Rngs L
section
variable{L:List NdV}{cs:List Int}{gen i c m v:Int}
theorem rngs_add{u:NdV}(h:Rngs L)(hu:NdR u.nd):Rngs (L++[u]):=λ x hx=>by
 rcases List.mem_append.1 hx with hx|hx;·exact h x hx
 ·rw[List.mem_singleton.1 hx];exact hu
theorem fits_one{u:NdV}(h:Fits L)(hu:u.Fit):Fits (L++[u]):=λ x hx=>by
 rcases List.mem_append.1 hx with hx|hx;·exact h x hx
 ·rw[List.mem_singleton.1 hx];exact hu
theorem ndr_t{k:Nat}{x:AX}(hk:k<=1000000000000):NdR (alV (tN v) [] [] k x).nd:=⟨⟨0,rfl,by decide⟩,show(0:Int)<=_ by decide,show((k+1:Nat):Int)<=_ by omega,show(0:Int)<=_ by decide⟩
theorem ndr_f{k:Nat}{x:AX}:NdR (alV (fN m) [] [] k x).nd:=⟨⟨0,rfl,by decide⟩,show(0:Int)<=_ by decide,show(0:Int)<=_ by decide,show(0:Int)<=_ by decide⟩
def pL1(L:List NdV)(cs:List Int)(v:Int)(x:AX):List NdV:=L++[alV (tN v) [] [] cs.length x]
def pC2(L:List NdV)(cs:List Int)(c m:Int):List Int:=casL (cs++[m]) c m ((L.length+1:Nat):Int)
def pC3(L:List NdV)(cs:List Int)(c m:Int):List Int:=casL (pC2 L cs c m) ((cs.length+1:Nat):Int) m 0
def pL4(L:List NdV)(cs:List Int)(c m v:Int)(x y:AX):List NdV:=pL1 L cs v x++[alV (fN m) [] [] (pC3 L cs c m).length y]
def pC4(L:List NdV)(cs:List Int)(c m:Int):List Int:=casL (pC3 L cs c m) ((cs.length+1:Nat):Int) 0 ((L.length+1+1:Nat):Int)
theorem pL1_map{x:AX}:(pL1 L cs v x).map NdV.c=vN1 (L.map NdV.c) cs v:=by unfold pL1;rw[List.map_append];rfl
theorem pC2_eq:pC2 L cs c m=vC2 (L.map NdV.c) cs c m:=by unfold pC2 vC2;rw[List.length_map]
theorem pC3_eq:pC3 L cs c m=vC3 (L.map NdV.c) cs c m:=by unfold pC3 vC3;rw[pC2_eq]
theorem pC4_eq:pC4 L cs c m=vC4 (L.map NdV.c) cs c m:=by unfold pC4 vC4;rw[pC3_eq,List.length_map]
theorem pL4_map{x y:AX}:(pL4 L cs c m v x y).map NdV.c=vN4 (L.map NdV.c) cs c m v:=by unfold pL4;rw[List.map_append,pL1_map,pC3_eq];rfl
theorem pL1_len{x:AX}:(pL1 L cs v x).length=L.length+1:=by unfold pL1;simp
theorem pL4_len{x y:AX}:(pL4 L cs c m v x y).length=L.length+1+1:=by unfold pL4;rw[List.length_append,pL1_len];rfl
variable(h:VpH (L.map NdV.c) cs i c m)
include h
theorem pc2_len:(pC2 L cs c m).length=cs.length+1:=by rw[pC2_eq];exact h.c2l
theorem pc3_len:(pC3 L cs c m).length=cs.length+1:=by rw[pC3_eq];exact h.c3l
theorem pc4_len:(pC4 L cs c m).length=cs.length+1:=by unfold pC4;rw[casL_length];exact pc3_len h
theorem ld1:cellV (cs++[m]) c=m:=by rw[cellV_app h.c2];exact h.em
variable(hp:ProperN (L.map NdV.c) cs gen)(hg:0<=gen)(hf:Fits L)(hr:Rngs L)(hc:cs.length<=1000000000000)
include hp hg hf hr hc
theorem vg1{x:AX}:VG (pL1 L cs v x) (cs++[m]) gen i m:=⟨(h.p1 hp hg).to pL1_map,by rw[pL1_map];exact h.b1,fits_one hf (fit_al (by decide) (by decide)),rngs_add hr (ndr_t hc)⟩
theorem vg2{x:AX}:VG (pL1 L cs v x) (pC2 L cs c m) gen i m:=⟨by rw[pC2_eq];exact(h.q2 hp hg).to pL1_map,by rw[pL1_map,pC2_eq];exact h.b2,fits_one hf (fit_al (by decide) (by decide)),rngs_add hr (ndr_t hc)⟩
theorem vg3{x:AX}:VG (pL1 L cs v x) (pC3 L cs c m) gen i ((L.length+1:Nat):Int):=⟨by rw[pC3_eq];exact(h.q3 hp hg).to pL1_map,by rw[pL1_map,pC3_eq,h.b3,List.length_map],fits_one hf (fit_al (by decide) (by decide)),rngs_add hr (ndr_t hc)⟩
theorem vg4{x y:AX}:VG (pL4 L cs c m v x y) (pC4 L cs c m) gen i m:=⟨by rw[pC4_eq];exact(h.q4 hp hg).to pL4_map,by rw[pL4_map,pC4_eq];exact h.b4,fits_one (fits_one hf (fit_al (by decide) (by decide))) (fit_al (by decide) (by decide)),rngs_add (rngs_add hr (ndr_t hc)) ndr_f⟩
end
section
variable{L:List NdV}{cs:List Int}{gen:Int}{pn pc:Option Addr}{cn cc:Nat}{w:World}
theorem vMainP_c{i r:Int}(g:VG L cs gen i r)(h:StAt w L cs pn pc)(hl:L.length<=274877906944)(hc:cs.length<=274877906944)(hcn:L.length<=cn)(hi:i<=9223372036854775807):Calls Tryz.prog 14 #[stG L cs gen pn cn pc cc,.int .i64 i] w λ e w'=>e=.returned (.tuple #[.int .i64 r,.bool true])/\St w [] [] w':=by
 have:=vMainG_c (gen:=gen) (cc:=cc) h g.r hl hc hcn i hi;have e:inP L cs gen (bodyO (L.map NdV.c) cs i)=some r:=by unfold inP;rw[if_pos g.p,g.b]
 rw[e] at this;exact this
end
end
end Go.Proofs.YtdnklbipddigbaaGreat
namespace Go.Ct
section
def awN:List Nv:=[markV.c,markV.c,alNv (({Nd.zero with kind:=4,hash:=3,key:=⟨#[97]⟩,val:=9}:Nd).c [] []) 0,alNv (({Nd.zero with kind:=3,bm:=8}:Nd).c [3] []) 0,alNv (({Nd.zero with kind:=2,gen:=1}:Nd).c [] []) 1]
theorem bv_aw:BV 8 [3]:=⟨by decide,by decide,λ i hi=>by
 have:i=0:=by simp at hi;omega
 subst this;decide⟩
theorem aw_proper:ProperN awN [0,4,5] 1:=by
 have h0:=properN_new (gen:=1) (by decide);have h1:=h0.push (init:=0) (n:=({Nd.zero with kind:=4,hash:=3,key:=⟨#[97]⟩,val:=9}:Nd).c [] []) (ok_single (by decide) (by decide)) ⟨by decide,by decide⟩;have h2:=h1.push (init:=0) (n:=({Nd.zero with kind:=3,bm:=8}:Nd).c [3] []) (ok_cnode (b:=8) (by decide) bv_aw (λ r hr=>by rw[List.mem_singleton.1 hr];decide)) ⟨by decide,by decide⟩
 have h3:=h2.push (init:=4) (n:=({Nd.zero with kind:=2,gen:=1}:Nd).c [] []) (ok_inner (by decide) (by decide)) ⟨by decide,by decide⟩;exact h3.cell (init:=5) ⟨by decide,by decide⟩
theorem aw_root:rootO awN [0,4,5] 3=some 5:=by decide +kernel
theorem aw_vis:vis awN [0,4,5] 12 5 []=some [5]:=by decide +kernel
theorem aw_col:col awN [0,4,5] 12 5=[(⟨#[97]⟩,9)]:=by decide +kernel
end
end Go.Ct
namespace Go.Proofs.YtdnklbipddigbaaGreat
open Go Go.RowKit Go.Ct
section
theorem trav_aw{L:List NdV}(hL:L.map NdV.c=awN):travO L [0,4,5] 1 3=some [5]:=by rw[travO_if (aw_proper.to hL),hL,aw_root];exact aw_vis
abbrev awL(x1 x2 x3:AX):List NdV:=[markV,markV,alV {Nd.zero with kind:=4,hash:=3,key:=⟨#[97]⟩,val:=9} [] [] 0 x1,alV {Nd.zero with kind:=3,bm:=8} [3] [] 0 x2,alV {Nd.zero with kind:=2,gen:=1} [] [] 1 x3]
theorem awL_c(x1 x2 x3:AX):(awL x1 x2 x3).map NdV.c=awN:=rfl
theorem awL_fit(x1 x2 x3:AX):Fits (awL x1 x2 x3):=λ v hv=>by
 simp only[List.mem_cons,List.not_mem_nil,or_false] at hv;rcases hv with rfl|rfl|rfl|rfl|rfl;·exact fit_mark
 ·exact fit_mark
 ·exact fit_al (by decide) (by decide)
 ·exact fit_al (by decide) (by decide)
 ·exact fit_al (by decide) (by decide)
theorem awL_rng(x1 x2 x3:AX):Rngs (awL x1 x2 x3):=λ v hv=>by
 simp only[List.mem_cons,List.not_mem_nil,or_false] at hv;rcases hv with rfl|rfl|rfl|rfl|rfl;·exact⟨⟨0,rfl,by decide⟩,by simp[alV,markV,Nd.zero],by simp[alV,markV,Nd.zero],by simp[alV,markV,Nd.zero]⟩
 ·exact⟨⟨0,rfl,by decide⟩,by simp[alV,markV,Nd.zero],by simp[alV,markV,Nd.zero],by simp[alV,markV,Nd.zero]⟩
 ·exact⟨⟨0,rfl,by decide⟩,by simp[alV,markV,Nd.zero],by simp[alV,markV,Nd.zero],by simp[alV,markV,Nd.zero]⟩
 ·exact⟨⟨8,rfl,by decide⟩,by simp[alV,markV,Nd.zero],by simp[alV,markV,Nd.zero],by simp[alV,markV,Nd.zero]⟩
 ·exact⟨⟨0,rfl,by decide⟩,by simp[alV,markV,Nd.zero],by simp[alV,markV,Nd.zero],by simp[alV,markV,Nd.zero]⟩
theorem awL_fam{x1 x2 x3:AX}{A F:Fr}{O:List Ow}(h1:∀f∈(alV {Nd.zero with kind:=4,hash:=3,key:=⟨#[97]⟩,val:=9} [] [] 0 x1).fr,f∈F)(h2:∀f∈(alV {Nd.zero with kind:=3,bm:=8} [3] [] 0 x2).fr,f∈F)(h3:∀f∈(alV {Nd.zero with kind:=2,gen:=1} [] [] 1 x3).fr,f∈F):∀f∈famF (awL x1 x2 x3),Has A F O f:=λ f hf=>by
 obtain⟨v,hv,hf⟩:=mem_famF.1 hf;simp only[List.mem_cons,List.not_mem_nil,or_false] at hv;rcases hv with rfl|rfl|rfl|rfl|rfl;·simp only[NdV.fr,List.mem_cons,List.not_mem_nil,or_false] at hf;rcases hf with rfl|rfl<;>exact .inl rfl
 ·simp only[NdV.fr,List.mem_cons,List.not_mem_nil,or_false] at hf;rcases hf with rfl|rfl<;>exact .inl rfl
 ·exact .inr (.inr (.inl (h1 f hf)))
 ·exact .inr (.inr (.inl (h2 f hf)))
 ·exact .inr (.inr (.inl (h3 f hf)))
theorem contAw_c{x1 x2 x3:AX}{pn pc:Option Addr}{cn cc:Nat}{w:World}(h:StAt w (awL x1 x2 x3) [0,4,5] pn pc)(hcn:(awL x1 x2 x3).length<=cn):Calls Tryz.prog 53 #[stG (awL x1 x2 x3) [0,4,5] 1 pn cn pc cc,.agg ⟨[.int .i64 3,.bool false]⟩] w λ e w'=>∃x:Option Addr×Nat,e=.returned (.tuple #[.slice x.1 1 x.2,.int .i64 0])/\True/\SF w [] [] [] [(x.1,prC [(⟨#[97]⟩,9)])] [] w':=by have e:col ((awL x1 x2 x3).map NdV.c) [0,4,5] 12 (List.headD [5] 0)=[(⟨#[97]⟩,9)]:=aw_col;have:=vCont_ok (gen:=1) (cn:=cn) (cc:=cc) h (awL_rng x1 x2 x3) (show(5:Nat)<=274877906944 by decide) (by decide) hcn 3 false (by decide) (trav_aw (awL_c x1 x2 x3)) (by rw[e];decide);rw[e] at this;exact this
theorem innerAw_c{x1 x2 x3:AX}{pn pc:Option Addr}{cn cc:Nat}{w:World}(h:StAt w (awL x1 x2 x3) [0,4,5] pn pc)(hcn:(awL x1 x2 x3).length<=cn):Calls Tryz.prog 54 #[stG (awL x1 x2 x3) [0,4,5] 1 pn cn pc cc,.agg ⟨[.int .i64 3,.bool false]⟩] w λ e w'=>∃x:Option Addr×Nat,e=.returned (.tuple #[.slice x.1 1 x.2,.int .i64 0])/\True/\SF w [] [] [] [(x.1,refsC [5])] [] w' :=(vInner_ok (gen:=1) (cn:=cn) (cc:=cc) h (awL_rng x1 x2 x3) (show(5:Nat)<=274877906944 by decide) (by decide) hcn 3 false (by decide) (trav_aw (awL_c x1 x2 x3))).mono λ _ _ ⟨x,h1,_,h3⟩=>⟨x,h1,trivial,h3⟩
set_option maxRecDepth 100000 in
theorem awake9_c(w:World):Calls Tryz.prog 17 #[] w λ e w'=>e=.returned (.bool true)/\St w [] [] w':=by refine enter Tryz.func17 Tryz.ntmps17 rfl rfl (SF.s0 w) ?_;simp only[mkS];refine J10 ?_;refine J0 ?_;refine j_ownF (cFH (Fc:=λ _=>[]) (hc:=λ w1 hw=>mNew_c w1)) (λ x9 h9=>?_);refine Ka7 ?_;refine j_build ?_;refine j_ownF (cM (A0:=[(none,refsC []),(none,prC [])]) (hc:=λ w hs=>mAlloc_c (L:=[markV,markV]) (cs:=[]) (n:={Nd.zero with kind:=4,hash:=3,key:=⟨#[97]⟩,val:=9}) (xs:=[]) (ys:=[]) 0 hs rfl rfl (by decide) (by decide) (by decide) (by decide))) (λ x12 h12=>?_);refine J73 ?_;refine j_own (lSFF (λ _=>o_buildSlice (cs:=refsC [3]) elem_ref pa1 rfl rfl rfl rfl rfl)) (λ x15=>?_);refine j_build ?_;refine j_ownF (cM (A0:=[(some ⟨x15,0,none⟩,refsC [3]),(none,prC [])]) (hc:=λ w hs=>mAlloc_c (L:=[markV,markV,alV {Nd.zero with kind:=4,hash:=3,key:=⟨#[97]⟩,val:=9} [] [] 0 x12]) (cs:=[]) (n:={Nd.zero with kind:=3,bm:=8,brA:=some ⟨x15,0,none⟩,brN:=1,brC:=1}) (xs:=[3]) (ys:=[]) 0 hs rfl rfl (by decide) (by decide) (show(3:Nat)<=274877906944 by decide) (by decide))) (λ x17 h17=>?_);refine J1 ?_;refine J45 ?_;refine J23 ?_;refine J11 ?_;refine j_build ?_;refine j_move ?_;refine j_ownF (cM (A0:=[(none,refsC []),(none,prC [])]) (hc:=λ w hs=>mAlloc_c (L:=[markV,markV,alV {Nd.zero with kind:=4,hash:=3,key:=⟨#[97]⟩,val:=9} [] [] 0 x12,alV {Nd.zero with kind:=3,bm:=8} [3] [] 0 x17]) (cs:=[0]) (n:={Nd.zero with kind:=2,gen:=1}) (xs:=[]) (ys:=[]) 4 hs rfl rfl (by decide) (by decide) (show(4:Nat)<=274877906944 by decide) (by decide))) (λ x26 h26=>?_);refine j_ownF (cM (hc:=λ w hs=>mNewCell_c (L:=awL x12 x17 x26) (cs:=[0,4]) 5 hs (by decide))) (λ x27 h27=>?_);refine j_build ?_;refine j_alloc (λ x4=>?_);refine J5 ?_;refine k_seq ?_;refine k_dq [0,1,2,3,4,5,6,7,8,9,10] ?_;refine J9 ?_;refine r_ownQ (i:=3) (hq:=(o_loadPart (k:=3) rf atT ag1 (by simp only[List.drop_zero,List.take_succ_cons,List.take_zero];exact rfl) rfl)) (h:=?_);refine r_load ?_;refine r_ownF (i:=5) (hq:=(cF (V:=λ x:Option Addr×Nat=>.tuple #[.slice x.1 1 x.2,.int .i64 0]) (hc:=λ w1 hw=>contAw_c (hw.stAt (.inr (.inr (.inr ⟨_,.head _,rfl,rfl⟩))) (.inr (.inr (.inr ⟨_,.tail _ (.head _),rfl,rfl⟩))) (awL_fam (λ f hf=>by exact List.mem_append_right _ (List.mem_append_right _ (List.mem_cons_of_mem _ (List.mem_append_left _ hf)))) (λ f hf=>by exact List.mem_append_right _ (List.mem_append_left _ hf)) (λ f hf=>by exact List.mem_append_left _ hf)) (awL_fit x12 x17 x26)) (hw.capV .head)))) (h:=λ x35 h35=>?_);refine Kd0 ?_;refine J55 ?_;refine k_seq ?_;refine k_dq [0,1,2,3,4,5,6,7,8,9,10] ?_;refine J9 ?_;refine r_ownQ (i:=3) (hq:=(o_loadPart (k:=3) rf atT ag1 (by simp only[List.drop_zero,List.take_succ_cons,List.take_zero];exact rfl) rfl)) (h:=?_);refine r_load ?_;refine r_ownF (i:=5) (hq:=(cF (V:=λ x:Option Addr×Nat=>.tuple #[.slice x.1 1 x.2,.int .i64 0]) (hc:=λ w1 hw=>innerAw_c (hw.stAt (.inr (.inr (.inr ⟨_,.head _,rfl,rfl⟩))) (.inr (.inr (.inr ⟨_,.tail _ (.head _),rfl,rfl⟩))) (awL_fam (λ f hf=>by exact List.mem_cons_of_mem _ (List.mem_append_right _ (List.mem_append_right _ (List.mem_cons_of_mem _ (List.mem_append_left _ hf))))) (λ f hf=>by exact List.mem_cons_of_mem _ (List.mem_append_right _ (List.mem_append_left _ hf))) (λ f hf=>by exact List.mem_cons_of_mem _ (List.mem_append_left _ hf))) (awL_fit x12 x17 x26)) (hw.capV .head)))) (h:=λ x44 h44=>?_);refine Kd0 ?_;refine J55 ?_;refine J2 ?_;refine Kd4 ?_;(refine Ka3 ?_);((refine j_yes ?_;refine j_build ?_));((refine j_yes ?_;refine j_own (lSFF (λ _=>o_buildSlice (cs:=prC [(⟨#[97]⟩,9)]) elem_pair pa1 rfl rfl rfl rfl rfl)) (λ x52=>?_)));((refine j_yes ?_;refine j_own (cV (hc:=λ w1 hw=>prs_c (xs:=[(⟨#[97]⟩,9)]) (ys:=[(⟨#[97]⟩,9)]) (hw.cl fin) (hw.cl fin) (by decide))) (λ x53=>?_)));refine Ka4 ?_;(refine Ka3 ?_);refine Ka5 ?_;(refine Ka3 ?_);((refine j_yes ?_;refine j_own (lSFF (λ _=>o_buildSlice (cs:=refsC [5]) elem_ref pa1 rfl rfl rfl rfl rfl)) (λ x61=>?_)));((refine j_yes ?_;refine j_own (cV (hc:=λ w1 hw=>refs_c (xs:=[5]) (ys:=[5]) (hw.cl fin) (hw.cl fin) (by decide))) (λ x62=>?_)));refine Kc6 ?_;refine k_rv Tryz.results17 (λ w hw=>?_);exact⟨rfl,hw.done⟩
end
end Go.Proofs.YtdnklbipddigbaaGreat

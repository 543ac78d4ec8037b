/- Views: Contents, Inner, Root, Main. -/
import Derived.Test.YtpobgmdalcpomaaGreatVw5
import Derived.Test.YtpobgmdalcpomaaGreatGPc2
import Derived.Test.YtpobgmdalcpomaaGreatGJoin
import Derived.Test.YtpobgmdalcpomaaGreatGAr9
import Derived.Test.YtpobgmdalcpomaaGreatGRs0
import Derived.Test.YtpobgmdalcpomaaGreatGOpen

set_option linter.unusedSimpArgs false
set_option linter.unusedVariables false
namespace Go.Proofs.YtpobgmdalcpomaaGreat
open Go Go.RowKit Go.Ct
section
variable{L:List NdV}{cs:List Int}{gen:Int}{pn pc:Option Addr}{cn cc:Nat}{w:World}
theorem travO_some{c:Int}{l:List Int}(h:travO L cs gen c=some l):Proper L cs gen/\∃r t,rootO (L.map NdV.c) cs c=some r/\vis (L.map NdV.c) cs 12 r []=some (r::t)/\l=r::t:=by
 unfold travO at h
 split at h
 ·rename_i hp
  obtain⟨r,hr,h⟩:=Option.bind_eq_some_iff.1 h
  obtain⟨t,ht⟩:=vis_pre 12 r [] l h
  rw[List.nil_append] at ht
  exact⟨hp,r,t,hr,by rw[h,ht],ht⟩
 ·cases h
theorem vInner_ok(h:StAt w L cs pn pc)(hr:Rngs L)(hl:L.length<=274877906944)(hc:cs.length<=274877906944)(hcn:L.length<=cn)(c:Int)(ro:Bool)(hi:c<=9223372036854775807){l:List Int}(hn:travO L cs gen c=some l):Calls Tryz.prog 23 #[stG L cs gen pn cn pc cc,.agg ⟨[.int .i64 c,.bool ro]⟩] w λ e w'=>∃x:Option Addr×Nat,e=.returned (.tuple #[.slice x.1 l.length x.2,.int .i64 0])/\l.length<=L.length/\SF w [] [] [] [(x.1,refsC l)] [] w':=by
 refine enter Tryz.func23 Tryz.ntmps23 rfl rfl h.start ?_
 simp only[mkS]
 simp only[stG]
 all_goals (refine J0 ?_;refine j_box (λ x2=>?_);refine j_box (λ x3=>?_);refine J8 ?_;refine J25 ?_;refine j_load ?_;(refine j_own (cFH (Fc:=λ _=>[]) (hc:=λ w1 hw=>traverse_ok (h.of0 hw) hr hl hc hcn c ro hi hn)) (λ x11=>?_);try (refine l_fact (λ h11=>?_)));refine J82 ?_;refine J8 ?_;refine J32 ?_;refine J33 ?_)
 all_goals
 refine kif (λ c15=>?_) (λ c15=>?_)
 ·try exact nv c15
  all_goals refine J66 ?_
  all_goals
   refine k_rt Tryz.results23 (λ w hw=>?_)
   obtain⟨e1,e2⟩:=h11
   rw[e1] at hw ⊢
   exact⟨(x11.2.2.p,x11.2.2.c),rfl,e2,(hw.freeze (.tail .head)).fin⟩
 ·try exact nv c15
  all_goals (refine J83 ?_;refine J8 ?_)
  all_goals
   refine k_rt Tryz.results23 (λ w hw=>?_)
   obtain⟨e1,e2⟩:=h11
   rw[e1] at hw ⊢
   exact⟨(x11.2.2.p,x11.2.2.c),rfl,e2,(hw.freeze (.tail .head)).fin⟩
theorem vCont_ok(h:StAt w L cs pn pc)(hr:Rngs L)(hl:L.length<=274877906944)(hc:cs.length<=274877906944)(hcn:L.length<=cn)(c:Int)(ro:Bool)(hi:c<=9223372036854775807){l:List Int}(hn:travO L cs gen c=some l)(hpl:(col (L.map NdV.c) cs 12 (l.headD 0)).length<=549755813888):Calls Tryz.prog 8 #[stG L cs gen pn cn pc cc,.agg ⟨[.int .i64 c,.bool ro]⟩] w λ e w'=>∃x:Option Addr×Nat,e=.returned (.tuple #[.slice x.1 (col (L.map NdV.c) cs 12 (l.headD 0)).length x.2,.int .i64 0])/\True/\SF w [] [] [] [(x.1,prC (col (L.map NdV.c) cs 12 (l.headD 0)))] [] w':=by
 obtain⟨hp,r,t,hrt,hv,e⟩:=travO_some hn
 have hb:=stB_of hp hr hl
 obtain⟨k,hk,hkl⟩:=root_in hrt
 subst e
 refine enter Tryz.func8 Tryz.ntmps8 rfl rfl (h.start.nilOwn 47 2) ?_
 simp only[mkS]
 simp only[stG]
 all_goals (refine J0 ?_;refine j_box (λ x2=>?_);refine j_box (λ x3=>?_);refine J8 ?_;refine J25 ?_;refine j_load ?_;(refine j_own (cFH (Fc:=λ _=>[]) (hc:=λ w1 hw=>traverse_ok (h.of0 hw) hr hl hc hcn c ro hi hn)) (λ x11=>?_);try (refine l_fact (λ h11=>?_)));refine J82 ?_;refine J8 ?_;refine J32 ?_;refine J33 ?_)
 all_goals
 refine kif (λ c15=>?_) (λ c15=>?_)
 ·try exact nv c15
  all_goals refine J66 ?_
  all_goals
   refine k_rt Tryz.results8 (λ w hw=>?_)
   have e4:x23.ps=col (L.map NdV.c) cs 12 ((List.cons r t).headD 0):=by simpa using h23
   rw[e4] at hw ⊢
   exact⟨(x23.p,x23.c),rfl,trivial,(hw.freeze (.tail (.tail .head))).fin⟩
 ·try exact nv c15
  all_goals
   obtain⟨e1,e2⟩:=h11
   have e3:x11.2.2.l.length=(List.cons r t).length:=by rw[e1]
   rw[List.length_cons] at e3
  all_goals (refine J58 ?_;refine j_nilCheck ?_;refine J3 ?_;refine l_quiet (o_indexR (k:=0) (lst:=x11.2.2.l) rf rf sl1 on1 fin (by omega) (by omega)) rfl ?_;refine l_quiet (o_loadR (q:=0) (lst:=x11.2.2.l) rf on1 fin (by omega)) rfl ?_;(refine j_own (cM (hs:=[(x11.1,tcO L cs gen pn cn pc cc (.slice (some ⟨x11.2.1,0,none⟩) L.length L.length) (.slice x11.2.2.p x11.2.2.l.length x11.2.2.c) ⟨[],none,0⟩)]) (os:=tcW ⟨[],none,0⟩) (hc:=λ w1 hs=>by have:=collect_c (gen:=gen) (cn:=cn) (cc:=cc) h.fit hb hl hc x11.1 (.slice (some ⟨x11.2.1,0,none⟩) L.length L.length) (.slice x11.2.2.p x11.2.2.l.length x11.2.2.c) 12 r ⟨[],none,0⟩ _ w1 (by omega) ⟨[],_,hv⟩ (by simpa using hpl) hs;rw[e1];exact this)) (λ x23=>?_);try (refine l_fact (λ h23=>?_)));refine l_nil ?_;refine J26 ?_;refine J8 ?_)
  all_goals
   refine k_rt Tryz.results8 (λ w hw=>?_)
   have e4:x23.ps=col (L.map NdV.c) cs 12 ((List.cons r t).headD 0):=by simpa using h23
   rw[e4] at hw ⊢
   exact⟨(x23.p,x23.c),rfl,trivial,(hw.freeze (.tail (.tail .head))).fin⟩
end
end Go.Proofs.YtpobgmdalcpomaaGreat

/- Views: the sanity check. -/
namespace Go.Ct
def awN:List Nv:=[markV.c,markV.c,alNv (({Nd.zero with kind:=4,hash:=3,key:=⟨#[97]⟩,val:=9}:Nd).c [] []) 0,alNv (({Nd.zero with kind:=3,bm:=8}:Nd).c [3] []) 0,alNv (({Nd.zero with kind:=2,gen:=1}:Nd).c [] []) 1]
theorem bv_aw:BV 8 [3]:=⟨by decide,by decide,λ i hi=>by
 have:i=0:=by simp at hi;omega
 subst this
 decide⟩
theorem aw_proper:ProperN awN [0,4,5] 1:=by
 have h0:=properN_new (gen:=1) (by decide)
 have h1:=h0.push (init:=0) (n:=({Nd.zero with kind:=4,hash:=3,key:=⟨#[97]⟩,val:=9}:Nd).c [] []) (ok_single (by decide) (by decide)) ⟨by decide,by decide⟩
 have h2:=h1.push (init:=0) (n:=({Nd.zero with kind:=3,bm:=8}:Nd).c [3] []) (ok_cnode (b:=8) (by decide) bv_aw (λ r hr=>by rw[List.mem_singleton.1 hr];decide)) ⟨by decide,by decide⟩
 have h3:=h2.push (init:=4) (n:=({Nd.zero with kind:=2,gen:=1}:Nd).c [] []) (ok_inner (by decide) (by decide)) ⟨by decide,by decide⟩
 exact h3.cell (init:=5) ⟨by decide,by decide⟩
theorem aw_root:rootO awN [0,4,5] 3=some 5:=by decide +kernel
theorem aw_vis:vis awN [0,4,5] 12 5 []=some [5]:=by decide +kernel
theorem aw_col:col awN [0,4,5] 12 5=[(⟨#[97]⟩,9)]:=by decide +kernel
end Go.Ct
namespace Go.Proofs.YtpobgmdalcpomaaGreat
open Go Go.RowKit Go.Ct
theorem trav_aw{L:List NdV}(hL:L.map NdV.c=awN):travO L [0,4,5] 1 3=some [5]:=by
 rw[travO_if (aw_proper.to hL),hL,aw_root]
 exact aw_vis
abbrev awL(x1 x2 x3:AX):List NdV:=[markV,markV,alV {Nd.zero with kind:=4,hash:=3,key:=⟨#[97]⟩,val:=9} [] [] 0 x1,alV {Nd.zero with kind:=3,bm:=8} [3] [] 0 x2,alV {Nd.zero with kind:=2,gen:=1} [] [] 1 x3]
theorem awL_c(x1 x2 x3:AX):(awL x1 x2 x3).map NdV.c=awN:=rfl
theorem awL_fit(x1 x2 x3:AX):Fits (awL x1 x2 x3):=λ v hv=>by
 simp only[List.mem_cons,List.not_mem_nil,or_false] at hv
 rcases hv with rfl|rfl|rfl|rfl|rfl
 ·exact fit_mark
 ·exact fit_mark
 ·exact fit_al (by decide) (by decide)
 ·exact fit_al (by decide) (by decide)
 ·exact fit_al (by decide) (by decide)
theorem awL_rng(x1 x2 x3:AX):Rngs (awL x1 x2 x3):=λ v hv=>by
 simp only[List.mem_cons,List.not_mem_nil,or_false] at hv
 rcases hv with rfl|rfl|rfl|rfl|rfl
 ·exact⟨⟨0,rfl,by decide⟩,by simp[alV,markV,Nd.zero],by simp[alV,markV,Nd.zero],by simp[alV,markV,Nd.zero]⟩
 ·exact⟨⟨0,rfl,by decide⟩,by simp[alV,markV,Nd.zero],by simp[alV,markV,Nd.zero],by simp[alV,markV,Nd.zero]⟩
 ·exact⟨⟨0,rfl,by decide⟩,by simp[alV,markV,Nd.zero],by simp[alV,markV,Nd.zero],by simp[alV,markV,Nd.zero]⟩
 ·exact⟨⟨8,rfl,by decide⟩,by simp[alV,markV,Nd.zero],by simp[alV,markV,Nd.zero],by simp[alV,markV,Nd.zero]⟩
 ·exact⟨⟨0,rfl,by decide⟩,by simp[alV,markV,Nd.zero],by simp[alV,markV,Nd.zero],by simp[alV,markV,Nd.zero]⟩
theorem awL_fam{x1 x2 x3:AX}{A F:Fr}{O:List Ow}(h1:∀f∈(alV {Nd.zero with kind:=4,hash:=3,key:=⟨#[97]⟩,val:=9} [] [] 0 x1).fr,f∈F)(h2:∀f∈(alV {Nd.zero with kind:=3,bm:=8} [3] [] 0 x2).fr,f∈F)(h3:∀f∈(alV {Nd.zero with kind:=2,gen:=1} [] [] 1 x3).fr,f∈F):∀f∈famF (awL x1 x2 x3),Has A F O f:=λ f hf=>by
 obtain⟨v,hv,hf⟩:=mem_famF.1 hf
 simp only[List.mem_cons,List.not_mem_nil,or_false] at hv
 rcases hv with rfl|rfl|rfl|rfl|rfl
 ·simp only[NdV.fr,List.mem_cons,List.not_mem_nil,or_false] at hf;rcases hf with rfl|rfl<;>exact .inl rfl
 ·simp only[NdV.fr,List.mem_cons,List.not_mem_nil,or_false] at hf;rcases hf with rfl|rfl<;>exact .inl rfl
 ·exact .inr (.inr (.inl (h1 f hf)))
 ·exact .inr (.inr (.inl (h2 f hf)))
 ·exact .inr (.inr (.inl (h3 f hf)))
theorem contAw_c{x1 x2 x3:AX}{pn pc:Option Addr}{cn cc:Nat}{w:World}(h:StAt w (awL x1 x2 x3) [0,4,5] pn pc)(hcn:(awL x1 x2 x3).length<=cn):Calls Tryz.prog 8 #[stG (awL x1 x2 x3) [0,4,5] 1 pn cn pc cc,.agg ⟨[.int .i64 3,.bool false]⟩] w λ e w'=>∃x:Option Addr×Nat,e=.returned (.tuple #[.slice x.1 1 x.2,.int .i64 0])/\True/\SF w [] [] [] [(x.1,prC [(⟨#[97]⟩,9)])] [] w':=by
 have e:col ((awL x1 x2 x3).map NdV.c) [0,4,5] 12 (List.headD [5] 0)=[(⟨#[97]⟩,9)]:=aw_col
 have:=vCont_ok (gen:=1) (cn:=cn) (cc:=cc) h (awL_rng x1 x2 x3) (show(5:Nat)<=274877906944 by decide) (by decide) hcn 3 false (by decide) (trav_aw (awL_c x1 x2 x3)) (by rw[e];decide)
 rw[e] at this
 exact this
theorem innerAw_c{x1 x2 x3:AX}{pn pc:Option Addr}{cn cc:Nat}{w:World}(h:StAt w (awL x1 x2 x3) [0,4,5] pn pc)(hcn:(awL x1 x2 x3).length<=cn):Calls Tryz.prog 23 #[stG (awL x1 x2 x3) [0,4,5] 1 pn cn pc cc,.agg ⟨[.int .i64 3,.bool false]⟩] w λ e w'=>∃x:Option Addr×Nat,e=.returned (.tuple #[.slice x.1 1 x.2,.int .i64 0])/\True/\SF w [] [] [] [(x.1,refsC [5])] [] w' :=
 (vInner_ok (gen:=1) (cn:=cn) (cc:=cc) h (awL_rng x1 x2 x3) (show(5:Nat)<=274877906944 by decide) (by decide) hcn 3 false (by decide) (trav_aw (awL_c x1 x2 x3))).mono λ _ _ ⟨x,h1,_,h3⟩=>⟨x,h1,trivial,h3⟩
set_option maxRecDepth 100000 in
theorem awake9_c(w:World):Calls Tryz.prog 11 #[] w λ e w'=>e=.returned (.bool true)/\St w [] [] w':=by
 refine enter Tryz.func11 Tryz.ntmps11 rfl rfl (SF.s0 w) ?_
 simp only[mkS]
 all_goals (refine J10 ?_;refine J0 ?_;(refine j_own (cFH (Fc:=λ _=>[]) (hc:=λ w1 hw=>mNew_c w1)) (λ x9=>?_);try (refine l_fact (λ h9=>?_)));refine J1 ?_;refine J2 ?_;refine j_build ?_;(refine j_own (cM (A0:=[(none,refsC []),(none,prC [])]) (hc:=λ w hs=>mAlloc_c (L:=[markV,markV]) (cs:=[]) (n:={Nd.zero with kind:=4,hash:=3,key:=⟨#[97]⟩,val:=9}) (xs:=[]) (ys:=[]) 0 hs rfl rfl (by decide) (by decide) (by decide) (by decide))) (λ x12=>?_);try (refine l_fact (λ h12=>?_)));refine J73 ?_;refine j_own (lSFF (λ _=>o_buildSlice (cs:=refsC [3]) elem_ref pa1 rfl rfl rfl rfl rfl)) (λ x15=>?_);refine j_build ?_;(refine j_own (cM (A0:=[(some ⟨x15,0,none⟩,refsC [3]),(none,prC [])]) (hc:=λ w hs=>mAlloc_c (L:=[markV,markV,alV {Nd.zero with kind:=4,hash:=3,key:=⟨#[97]⟩,val:=9} [] [] 0 x12]) (cs:=[]) (n:={Nd.zero with kind:=3,bm:=8,brA:=some ⟨x15,0,none⟩,brN:=1,brC:=1}) (xs:=[3]) (ys:=[]) 0 hs rfl rfl (by decide) (by decide) (show(3:Nat)<=274877906944 by decide) (by decide))) (λ x17=>?_);try (refine l_fact (λ h17=>?_)));refine J1 ?_;refine J45 ?_;refine J23 ?_;refine J11 ?_;refine j_build ?_;refine j_move ?_;(refine j_own (cM (A0:=[(none,refsC []),(none,prC [])]) (hc:=λ w hs=>mAlloc_c (L:=[markV,markV,alV {Nd.zero with kind:=4,hash:=3,key:=⟨#[97]⟩,val:=9} [] [] 0 x12,alV {Nd.zero with kind:=3,bm:=8} [3] [] 0 x17]) (cs:=[0]) (n:={Nd.zero with kind:=2,gen:=1}) (xs:=[]) (ys:=[]) 4 hs rfl rfl (by decide) (by decide) (show(4:Nat)<=274877906944 by decide) (by decide))) (λ x26=>?_);try (refine l_fact (λ h26=>?_)));(refine j_own (cM (hc:=λ w hs=>mNewCell_c (L:=awL x12 x17 x26) (cs:=[0,4]) 5 hs (by decide))) (λ x27=>?_);try (refine l_fact (λ h27=>?_)));refine j_build ?_;refine j_alloc (λ x4=>?_);refine J5 ?_;refine k_seq ?_;refine k_dq [0,1,2,3,4,5,6,7,8,9,10] ?_;refine J9 ?_;refine r_ownQ (i:=3) (hq:=(o_loadPart (k:=3) rf atT ag1 (by simp only[List.drop_zero,List.take_succ_cons,List.take_zero];exact rfl) rfl)) (h:=?_);refine r_load ?_;((refine r_own (i:=5) (hq:=(cF (V:=λ x:Option Addr×Nat=>.tuple #[.slice x.1 1 x.2,.int .i64 0]) (hc:=λ w1 hw=>contAw_c (hw.stAt (.inr (.inr (.inr ⟨_,.head _,rfl,rfl⟩))) (.inr (.inr (.inr ⟨_,.tail _ (.head _),rfl,rfl⟩))) (awL_fam (λ f hf=>by first|exact List.mem_append_right _ (List.mem_append_right _ (List.mem_cons_of_mem _ (List.mem_append_left _ hf)))|simp_all) (λ f hf=>by first|exact List.mem_append_right _ (List.mem_append_left _ hf)|simp_all) (λ f hf=>by first|exact List.mem_append_left _ hf|simp_all)) (awL_fit x12 x17 x26)) (hw.capV .head)))) (h:=λ x35=>?_);try (refine r_fact (λ h35=>?_))));refine r_move ?_;refine r_extract ?_;refine r_extract ?_;refine J55 ?_;refine k_seq ?_;refine k_dq [0,1,2,3,4,5,6,7,8,9,10] ?_;refine J9 ?_;refine r_ownQ (i:=3) (hq:=(o_loadPart (k:=3) rf atT ag1 (by simp only[List.drop_zero,List.take_succ_cons,List.take_zero];exact rfl) rfl)) (h:=?_);refine r_load ?_;((refine r_own (i:=5) (hq:=(cF (V:=λ x:Option Addr×Nat=>.tuple #[.slice x.1 1 x.2,.int .i64 0]) (hc:=λ w1 hw=>innerAw_c (hw.stAt (.inr (.inr (.inr ⟨_,.head _,rfl,rfl⟩))) (.inr (.inr (.inr ⟨_,.tail _ (.head _),rfl,rfl⟩))) (awL_fam (λ f hf=>by first|exact List.mem_cons_of_mem _ (List.mem_append_right _ (List.mem_append_right _ (List.mem_cons_of_mem _ (List.mem_append_left _ hf))))|simp_all) (λ f hf=>by first|exact List.mem_cons_of_mem _ (List.mem_append_right _ (List.mem_append_left _ hf))|simp_all) (λ f hf=>by first|exact List.mem_cons_of_mem _ (List.mem_append_left _ hf)|simp_all)) (awL_fit x12 x17 x26)) (hw.capV .head)))) (h:=λ x44=>?_);try (refine r_fact (λ h44=>?_))));refine r_move ?_;refine r_extract ?_;refine r_extract ?_;refine J55 ?_;refine J2 ?_;refine j_eql ?_;refine j_move ?_)
 all_goals (first|refine j_un ?_|(refine j_yes ?_;refine j_move ?_)|(refine lcs 49 (λ g49=>?_) (λ g49=>?_)<;>(first|refine j_un ?_|(refine j_yes ?_;refine j_move ?_))))
 all_goals ((first|refine j_un ?_|(refine j_yes ?_;refine j_build ?_));(first|refine j_un ?_|(refine j_yes ?_;refine j_own (lSFF (λ _=>o_buildSlice (cs:=prC [(⟨#[97]⟩,9)]) elem_pair pa1 rfl rfl rfl rfl rfl)) (λ x52=>?_)));((first|refine j_un ?_|(refine j_yes ?_;(refine j_own (cV (hc:=λ w1 hw=>prs_c (xs:=[(⟨#[97]⟩,9)]) (ys:=[(⟨#[97]⟩,9)]) (hw.cl fin) (hw.cl fin) (by decide))) (λ x53=>?_);try (refine l_fact (λ h53=>?_))))));refine j_pick ?_;refine j_move ?_)
 all_goals (first|refine j_un ?_|(refine j_yes ?_;refine j_move ?_)|(refine lcs 55 (λ g55=>?_) (λ g55=>?_)<;>(first|refine j_un ?_|(refine j_yes ?_;refine j_move ?_))))
 all_goals (refine J12 ?_;refine j_move ?_)
 all_goals (first|refine j_un ?_|(refine j_yes ?_;refine j_move ?_)|(refine lcs 59 (λ g59=>?_) (λ g59=>?_)<;>(first|refine j_un ?_|(refine j_yes ?_;refine j_move ?_))))
 all_goals ((first|refine j_un ?_|(refine j_yes ?_;refine j_own (lSFF (λ _=>o_buildSlice (cs:=refsC [5]) elem_ref pa1 rfl rfl rfl rfl rfl)) (λ x61=>?_)));((first|refine j_un ?_|(refine j_yes ?_;(refine j_own (cV (hc:=λ w1 hw=>refs_c (xs:=[5]) (ys:=[5]) (hw.cl fin) (hw.cl fin) (by decide))) (λ x62=>?_);try (refine l_fact (λ h62=>?_))))));refine j_pick ?_;refine J1 ?_)
 all_goals
 refine k_rv Tryz.results11 (λ w hw=>?_)
 exact⟨rfl,hw.done⟩
end Go.Proofs.YtpobgmdalcpomaaGreat

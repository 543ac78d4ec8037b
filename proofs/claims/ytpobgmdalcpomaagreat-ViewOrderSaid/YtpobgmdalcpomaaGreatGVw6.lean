/- Views: Contents, Inner, Root, Main. -/
import Derived.Test.YtpobgmdalcpomaaGreatVw5
import Derived.Test.YtpobgmdalcpomaaGreatGPc2
import Derived.Test.YtpobgmdalcpomaaGreatGJoin
import Derived.Test.YtpobgmdalcpomaaGreatGAr9
import Derived.Test.YtpobgmdalcpomaaGreatGRs0
import Derived.Test.YtpobgmdalcpomaaGreatGOpen
import Derived.Test.YtpobgmdalcpomaaGreatWo7
import Derived.Test.YtpobgmdalcpomaaGreatGLe1

set_option linter.unusedSimpArgs false
set_option linter.unusedVariables false
namespace Go.Proofs.YtpobgmdalcpomaaGreat
open Go Go.RowKit Go.Ct
section
variable{L:List NdV}{cs:List Int}{gen:Int}{pn pc:Option Addr}{cn cc:Nat}{w:World}
theorem travO_some{c:Int}{l:List Int}(h:travO L cs gen c=some l):Proper L cs gen/\∃r t,rootO (L.map NdV.c) cs c=some r/\vis (L.map NdV.c) cs 12 r []=some (r::t)/\l=r::t:=by
 unfold travO at h
 split at h
 ·rename_i hp
  obtain⟨r,hr,h⟩:=Option.bind_eq_some_iff.1 h
  obtain⟨t,ht⟩:=vis_pre 12 r [] l h
  rw[List.nil_append] at ht
  exact⟨hp,r,t,hr,by rw[h,ht],ht⟩
 ·cases h
theorem vInner_ok(h:StAt w L cs pn pc)(hr:Rngs L)(hl:L.length<=274877906944)(hc:cs.length<=274877906944)(hcn:L.length<=cn)(c:Int)(ro:Bool)(hi:c<=9223372036854775807){l:List Int}(hn:travO L cs gen c=some l):Calls Tryz.prog 23 #[stG L cs gen pn cn pc cc,.agg ⟨[.int .i64 c,.bool ro]⟩] w λ e w'=>∃x:Option Addr×Nat,e=.returned (.tuple #[.slice x.1 l.length x.2,.int .i64 0])/\l.length<=L.length/\SF w [] [] [] [(x.1,refsC l)] [] w':=by
 refine enter Tryz.func23 Tryz.ntmps23 rfl rfl h.start ?_
 simp only[mkS]
 simp only[stG]
 all_goals (refine J0 ?_;refine j_box (λ x2=>?_);refine j_box (λ x3=>?_);refine J8 ?_;refine J25 ?_;refine j_load ?_;(refine j_own (cFH (Fc:=λ _=>[]) (hc:=λ w1 hw=>traverse_ok (h.of0 hw) hr hl hc hcn c ro hi hn)) (λ x11=>?_);try (refine l_fact (λ h11=>?_)));refine J82 ?_;refine J8 ?_;refine J32 ?_;refine J33 ?_)
 all_goals
 refine kif (λ c15=>?_) (λ c15=>?_)
 ·try exact nv c15
  all_goals refine J66 ?_
  all_goals
   refine k_rt Tryz.results23 (λ w hw=>?_)
   obtain⟨e1,e2⟩:=h11
   rw[e1] at hw ⊢
   exact⟨(x11.2.2.p,x11.2.2.c),rfl,e2,(hw.freeze (.tail .head)).fin⟩
 ·try exact nv c15
  all_goals (refine J83 ?_;refine J8 ?_)
  all_goals
   refine k_rt Tryz.results23 (λ w hw=>?_)
   obtain⟨e1,e2⟩:=h11
   rw[e1] at hw ⊢
   exact⟨(x11.2.2.p,x11.2.2.c),rfl,e2,(hw.freeze (.tail .head)).fin⟩
theorem vCont_ok(h:StAt w L cs pn pc)(hr:Rngs L)(hl:L.length<=274877906944)(hc:cs.length<=274877906944)(hcn:L.length<=cn)(c:Int)(ro:Bool)(hi:c<=9223372036854775807){l:List Int}(hn:travO L cs gen c=some l)(hpl:(col (L.map NdV.c) cs 12 (l.headD 0)).length<=137438953472):Calls Tryz.prog 8 #[stG L cs gen pn cn pc cc,.agg ⟨[.int .i64 c,.bool ro]⟩] w λ e w'=>∃x:Option Addr×Nat,e=.returned (.tuple #[.slice x.1 (col (L.map NdV.c) cs 12 (l.headD 0)).length x.2,.int .i64 0])/\True/\SF w [] [] [] [(x.1,prC (col (L.map NdV.c) cs 12 (l.headD 0)))] [] w':=by
 obtain⟨hp,r,t,hrt,hv,e⟩:=travO_some hn
 have hb:=stB_of hp hr hl
 obtain⟨k,hk,hkl⟩:=root_in hrt
 subst e
 refine enter Tryz.func8 Tryz.ntmps8 rfl rfl (h.start.nilOwn 47 2) ?_
 simp only[mkS]
 simp only[stG]
 all_goals (refine J0 ?_;refine j_box (λ x2=>?_);refine j_box (λ x3=>?_);refine J8 ?_;refine J25 ?_;refine j_load ?_;(refine j_own (cFH (Fc:=λ _=>[]) (hc:=λ w1 hw=>traverse_ok (h.of0 hw) hr hl hc hcn c ro hi hn)) (λ x11=>?_);try (refine l_fact (λ h11=>?_)));refine J82 ?_;refine J8 ?_;refine J32 ?_;refine J33 ?_)
 all_goals
 refine kif (λ c15=>?_) (λ c15=>?_)
 ·try exact nv c15
  all_goals refine J66 ?_
  all_goals
   refine k_rt Tryz.results8 (λ w hw=>?_)
   have e4:x23.ps=col (L.map NdV.c) cs 12 ((List.cons r t).headD 0):=by simpa using h23
   rw[e4] at hw ⊢
   exact⟨(x23.p,x23.c),rfl,trivial,(hw.freeze (.tail (.tail .head))).fin⟩
 ·try exact nv c15
  all_goals
   obtain⟨e1,e2⟩:=h11
   have e3:x11.2.2.l.length=(List.cons r t).length:=by rw[e1]
   rw[List.length_cons] at e3
  all_goals (refine J58 ?_;refine j_nilCheck ?_;refine J3 ?_;refine l_quiet (o_indexR (k:=0) (lst:=x11.2.2.l) rf rf sl1 on1 fin (by omega) (by omega)) rfl ?_;refine l_quiet (o_loadR (q:=0) (lst:=x11.2.2.l) rf on1 fin (by omega)) rfl ?_;(refine j_own (cM (hs:=[(x11.1,tcO L cs gen pn cn pc cc (.slice (some ⟨x11.2.1,0,none⟩) L.length L.length) (.slice x11.2.2.p x11.2.2.l.length x11.2.2.c) ⟨[],none,0⟩)]) (os:=tcW ⟨[],none,0⟩) (hc:=λ w1 hs=>by have:=collect_c (gen:=gen) (cn:=cn) (cc:=cc) h.fit hb hl hc x11.1 (.slice (some ⟨x11.2.1,0,none⟩) L.length L.length) (.slice x11.2.2.p x11.2.2.l.length x11.2.2.c) 12 r ⟨[],none,0⟩ _ w1 (by omega) ⟨[],_,hv⟩ (by simpa using hpl) hs;rw[e1];exact this)) (λ x23=>?_);try (refine l_fact (λ h23=>?_)));refine l_nil ?_;refine J26 ?_;refine J8 ?_)
  all_goals
   refine k_rt Tryz.results8 (λ w hw=>?_)
   have e4:x23.ps=col (L.map NdV.c) cs 12 ((List.cons r t).headD 0):=by simpa using h23
   rw[e4] at hw ⊢
   exact⟨(x23.p,x23.c),rfl,trivial,(hw.freeze (.tail (.tail .head))).fin⟩
end
end Go.Proofs.YtpobgmdalcpomaaGreat

/- Views: the sanity check. -/
namespace Go.Ct
def awN:List Nv:=[markV.c,markV.c,alNv (({Nd.zero with kind:=4,hash:=3,key:=⟨#[97]⟩,val:=9}:Nd).c [] []) 0,alNv (({Nd.zero with kind:=3,bm:=8}:Nd).c [3] []) 0,alNv (({Nd.zero with kind:=2,gen:=1}:Nd).c [] []) 1]
theorem bv_aw:BV 8 [3]:=⟨by decide,by decide,λ i hi=>by
 have:i=0:=by simp at hi;omega
 subst this
 decide⟩
theorem aw_proper:ProperN awN [0,4,5] 1:=by
 have h0:=properN_new (gen:=1) (by decide)
 have h1:=h0.push (init:=0) (n:=({Nd.zero with kind:=4,hash:=3,key:=⟨#[97]⟩,val:=9}:Nd).c [] []) (ok_single (by decide) (by decide)) ⟨by decide,by decide⟩
 have h2:=h1.push (init:=0) (n:=({Nd.zero with kind:=3,bm:=8}:Nd).c [3] []) (ok_cnode (b:=8) (by decide) bv_aw (λ r hr=>by rw[List.mem_singleton.1 hr];decide)) ⟨by decide,by decide⟩
 have h3:=h2.push (init:=4) (n:=({Nd.zero with kind:=2,gen:=1}:Nd).c [] []) (ok_inner (by decide) (by decide)) ⟨by decide,by decide⟩
 exact h3.cell (init:=5) ⟨by decide,by decide⟩
theorem aw_root:rootO awN [0,4,5] 3=some 5:=by decide +kernel
theorem aw_vis:vis awN [0,4,5] 12 5 []=some [5]:=by decide +kernel
theorem aw_col:col awN [0,4,5] 12 5=[(⟨#[97]⟩,9)]:=by decide +kernel
end Go.Ct
namespace Go.Proofs.YtpobgmdalcpomaaGreat
open Go Go.RowKit Go.Ct
theorem trav_aw{L:List NdV}(hL:L.map NdV.c=awN):travO L [0,4,5] 1 3=some [5]:=by
 rw[travO_if (aw_proper.to hL),hL,aw_root]
 exact aw_vis
abbrev awL(x1 x2 x3:AX):List NdV:=[markV,markV,alV {Nd.zero with kind:=4,hash:=3,key:=⟨#[97]⟩,val:=9} [] [] 0 x1,alV {Nd.zero with kind:=3,bm:=8} [3] [] 0 x2,alV {Nd.zero with kind:=2,gen:=1} [] [] 1 x3]
theorem awL_c(x1 x2 x3:AX):(awL x1 x2 x3).map NdV.c=awN:=rfl
theorem awL_fit(x1 x2 x3:AX):Fits (awL x1 x2 x3):=λ v hv=>by
 simp only[List.mem_cons,List.not_mem_nil,or_false] at hv
 rcases hv with rfl|rfl|rfl|rfl|rfl
 ·exact fit_mark
 ·exact fit_mark
 ·exact fit_al (by decide) (by decide)
 ·exact fit_al (by decide) (by decide)
 ·exact fit_al (by decide) (by decide)
theorem awL_rng(x1 x2 x3:AX):Rngs (awL x1 x2 x3):=λ v hv=>by
 simp only[List.mem_cons,List.not_mem_nil,or_false] at hv
 rcases hv with rfl|rfl|rfl|rfl|rfl
 ·exact⟨⟨0,rfl,by decide⟩,by simp[alV,markV,Nd.zero],by simp[alV,markV,Nd.zero],by simp[alV,markV,Nd.zero]⟩
 ·exact⟨⟨0,rfl,by decide⟩,by simp[alV,markV,Nd.zero],by simp[alV,markV,Nd.zero],by simp[alV,markV,Nd.zero]⟩
 ·exact⟨⟨0,rfl,by decide⟩,by simp[alV,markV,Nd.zero],by simp[alV,markV,Nd.zero],by simp[alV,markV,Nd.zero]⟩
 ·exact⟨⟨8,rfl,by decide⟩,by simp[alV,markV,Nd.zero],by simp[alV,markV,Nd.zero],by simp[alV,markV,Nd.zero]⟩
 ·exact⟨⟨0,rfl,by decide⟩,by simp[alV,markV,Nd.zero],by simp[alV,markV,Nd.zero],by simp[alV,markV,Nd.zero]⟩
theorem awL_fam{x1 x2 x3:AX}{A F:Fr}{O:List Ow}(h1:∀f∈(alV {Nd.zero with kind:=4,hash:=3,key:=⟨#[97]⟩,val:=9} [] [] 0 x1).fr,f∈F)(h2:∀f∈(alV {Nd.zero with kind:=3,bm:=8} [3] [] 0 x2).fr,f∈F)(h3:∀f∈(alV {Nd.zero with kind:=2,gen:=1} [] [] 1 x3).fr,f∈F):∀f∈famF (awL x1 x2 x3),Has A F O f:=λ f hf=>by
 obtain⟨v,hv,hf⟩:=mem_famF.1 hf
 simp only[List.mem_cons,List.not_mem_nil,or_false] at hv
 rcases hv with rfl|rfl|rfl|rfl|rfl
 ·simp only[NdV.fr,List.mem_cons,List.not_mem_nil,or_false] at hf;rcases hf with rfl|rfl<;>exact .inl rfl
 ·simp only[NdV.fr,List.mem_cons,List.not_mem_nil,or_false] at hf;rcases hf with rfl|rfl<;>exact .inl rfl
 ·exact .inr (.inr (.inl (h1 f hf)))
 ·exact .inr (.inr (.inl (h2 f hf)))
 ·exact .inr (.inr (.inl (h3 f hf)))
theorem contAw_c{x1 x2 x3:AX}{pn pc:Option Addr}{cn cc:Nat}{w:World}(h:StAt w (awL x1 x2 x3) [0,4,5] pn pc)(hcn:(awL x1 x2 x3).length<=cn):Calls Tryz.prog 8 #[stG (awL x1 x2 x3) [0,4,5] 1 pn cn pc cc,.agg ⟨[.int .i64 3,.bool false]⟩] w λ e w'=>∃x:Option Addr×Nat,e=.returned (.tuple #[.slice x.1 1 x.2,.int .i64 0])/\True/\SF w [] [] [] [(x.1,prC [(⟨#[97]⟩,9)])] [] w':=by
 have e:col ((awL x1 x2 x3).map NdV.c) [0,4,5] 12 (List.headD [5] 0)=[(⟨#[97]⟩,9)]:=aw_col
 have:=vCont_ok (gen:=1) (cn:=cn) (cc:=cc) h (awL_rng x1 x2 x3) (show(5:Nat)<=274877906944 by decide) (by decide) hcn 3 false (by decide) (trav_aw (awL_c x1 x2 x3)) (by rw[e];decide)
 rw[e] at this
 exact this
theorem innerAw_c{x1 x2 x3:AX}{pn pc:Option Addr}{cn cc:Nat}{w:World}(h:StAt w (awL x1 x2 x3) [0,4,5] pn pc)(hcn:(awL x1 x2 x3).length<=cn):Calls Tryz.prog 23 #[stG (awL x1 x2 x3) [0,4,5] 1 pn cn pc cc,.agg ⟨[.int .i64 3,.bool false]⟩] w λ e w'=>∃x:Option Addr×Nat,e=.returned (.tuple #[.slice x.1 1 x.2,.int .i64 0])/\True/\SF w [] [] [] [(x.1,refsC [5])] [] w' :=
 (vInner_ok (gen:=1) (cn:=cn) (cc:=cc) h (awL_rng x1 x2 x3) (show(5:Nat)<=274877906944 by decide) (by decide) hcn 3 false (by decide) (trav_aw (awL_c x1 x2 x3))).mono λ _ _ ⟨x,h1,_,h3⟩=>⟨x,h1,trivial,h3⟩
set_option maxRecDepth 100000 in
theorem awake9_c(w:World):Calls Tryz.prog 11 #[] w λ e w'=>e=.returned (.bool true)/\St w [] [] w':=by
 refine enter Tryz.func11 Tryz.ntmps11 rfl rfl (SF.s0 w) ?_
 simp only[mkS]
 all_goals (refine J10 ?_;refine J0 ?_;(refine j_own (cFH (Fc:=λ _=>[]) (hc:=λ w1 hw=>mNew_c w1)) (λ x9=>?_);try (refine l_fact (λ h9=>?_)));refine J1 ?_;refine J2 ?_;refine j_build ?_;(refine j_own (cM (A0:=[(none,refsC []),(none,prC [])]) (hc:=λ w hs=>mAlloc_c (L:=[markV,markV]) (cs:=[]) (n:={Nd.zero with kind:=4,hash:=3,key:=⟨#[97]⟩,val:=9}) (xs:=[]) (ys:=[]) 0 hs rfl rfl (by decide) (by decide) (by decide) (by decide))) (λ x12=>?_);try (refine l_fact (λ h12=>?_)));refine J73 ?_;refine j_own (lSFF (λ _=>o_buildSlice (cs:=refsC [3]) elem_ref pa1 rfl rfl rfl rfl rfl)) (λ x15=>?_);refine j_build ?_;(refine j_own (cM (A0:=[(some ⟨x15,0,none⟩,refsC [3]),(none,prC [])]) (hc:=λ w hs=>mAlloc_c (L:=[markV,markV,alV {Nd.zero with kind:=4,hash:=3,key:=⟨#[97]⟩,val:=9} [] [] 0 x12]) (cs:=[]) (n:={Nd.zero with kind:=3,bm:=8,brA:=some ⟨x15,0,none⟩,brN:=1,brC:=1}) (xs:=[3]) (ys:=[]) 0 hs rfl rfl (by decide) (by decide) (show(3:Nat)<=274877906944 by decide) (by decide))) (λ x17=>?_);try (refine l_fact (λ h17=>?_)));refine J1 ?_;refine J45 ?_;refine J23 ?_;refine J11 ?_;refine j_build ?_;refine j_move ?_;(refine j_own (cM (A0:=[(none,refsC []),(none,prC [])]) (hc:=λ w hs=>mAlloc_c (L:=[markV,markV,alV {Nd.zero with kind:=4,hash:=3,key:=⟨#[97]⟩,val:=9} [] [] 0 x12,alV {Nd.zero with kind:=3,bm:=8} [3] [] 0 x17]) (cs:=[0]) (n:={Nd.zero with kind:=2,gen:=1}) (xs:=[]) (ys:=[]) 4 hs rfl rfl (by decide) (by decide) (show(4:Nat)<=274877906944 by decide) (by decide))) (λ x26=>?_);try (refine l_fact (λ h26=>?_)));(refine j_own (cM (hc:=λ w hs=>mNewCell_c (L:=awL x12 x17 x26) (cs:=[0,4]) 5 hs (by decide))) (λ x27=>?_);try (refine l_fact (λ h27=>?_)));refine j_build ?_;refine j_alloc (λ x4=>?_);refine J5 ?_;refine k_seq ?_;refine k_dq [0,1,2,3,4,5,6,7,8,9,10] ?_;refine J9 ?_;refine r_ownQ (i:=3) (hq:=(o_loadPart (k:=3) rf atT ag1 (by simp only[List.drop_zero,List.take_succ_cons,List.take_zero];exact rfl) rfl)) (h:=?_);refine r_load ?_;((refine r_own (i:=5) (hq:=(cF (V:=λ x:Option Addr×Nat=>.tuple #[.slice x.1 1 x.2,.int .i64 0]) (hc:=λ w1 hw=>contAw_c (hw.stAt (.inr (.inr (.inr ⟨_,.head _,rfl,rfl⟩))) (.inr (.inr (.inr ⟨_,.tail _ (.head _),rfl,rfl⟩))) (awL_fam (λ f hf=>by first|exact List.mem_append_right _ (List.mem_append_right _ (List.mem_cons_of_mem _ (List.mem_append_left _ hf)))|simp_all) (λ f hf=>by first|exact List.mem_append_right _ (List.mem_append_left _ hf)|simp_all) (λ f hf=>by first|exact List.mem_append_left _ hf|simp_all)) (awL_fit x12 x17 x26)) (hw.capV .head)))) (h:=λ x35=>?_);try (refine r_fact (λ h35=>?_))));refine r_move ?_;refine r_extract ?_;refine r_extract ?_;refine J55 ?_;refine k_seq ?_;refine k_dq [0,1,2,3,4,5,6,7,8,9,10] ?_;refine J9 ?_;refine r_ownQ (i:=3) (hq:=(o_loadPart (k:=3) rf atT ag1 (by simp only[List.drop_zero,List.take_succ_cons,List.take_zero];exact rfl) rfl)) (h:=?_);refine r_load ?_;((refine r_own (i:=5) (hq:=(cF (V:=λ x:Option Addr×Nat=>.tuple #[.slice x.1 1 x.2,.int .i64 0]) (hc:=λ w1 hw=>innerAw_c (hw.stAt (.inr (.inr (.inr ⟨_,.head _,rfl,rfl⟩))) (.inr (.inr (.inr ⟨_,.tail _ (.head _),rfl,rfl⟩))) (awL_fam (λ f hf=>by first|exact List.mem_cons_of_mem _ (List.mem_append_right _ (List.mem_append_right _ (List.mem_cons_of_mem _ (List.mem_append_left _ hf))))|simp_all) (λ f hf=>by first|exact List.mem_cons_of_mem _ (List.mem_append_right _ (List.mem_append_left _ hf))|simp_all) (λ f hf=>by first|exact List.mem_cons_of_mem _ (List.mem_append_left _ hf)|simp_all)) (awL_fit x12 x17 x26)) (hw.capV .head)))) (h:=λ x44=>?_);try (refine r_fact (λ h44=>?_))));refine r_move ?_;refine r_extract ?_;refine r_extract ?_;refine J55 ?_;refine J2 ?_;refine j_eql ?_;refine j_move ?_)
 all_goals (first|refine j_un ?_|(refine j_yes ?_;refine j_move ?_)|(refine lcs 49 (λ g49=>?_) (λ g49=>?_)<;>(first|refine j_un ?_|(refine j_yes ?_;refine j_move ?_))))
 all_goals ((first|refine j_un ?_|(refine j_yes ?_;refine j_build ?_));(first|refine j_un ?_|(refine j_yes ?_;refine j_own (lSFF (λ _=>o_buildSlice (cs:=prC [(⟨#[97]⟩,9)]) elem_pair pa1 rfl rfl rfl rfl rfl)) (λ x52=>?_)));((first|refine j_un ?_|(refine j_yes ?_;(refine j_own (cV (hc:=λ w1 hw=>prs_c (xs:=[(⟨#[97]⟩,9)]) (ys:=[(⟨#[97]⟩,9)]) (hw.cl fin) (hw.cl fin) (by decide))) (λ x53=>?_);try (refine l_fact (λ h53=>?_))))));refine j_pick ?_;refine j_move ?_)
 all_goals (first|refine j_un ?_|(refine j_yes ?_;refine j_move ?_)|(refine lcs 55 (λ g55=>?_) (λ g55=>?_)<;>(first|refine j_un ?_|(refine j_yes ?_;refine j_move ?_))))
 all_goals (refine J12 ?_;refine j_move ?_)
 all_goals (first|refine j_un ?_|(refine j_yes ?_;refine j_move ?_)|(refine lcs 59 (λ g59=>?_) (λ g59=>?_)<;>(first|refine j_un ?_|(refine j_yes ?_;refine j_move ?_))))
 all_goals ((first|refine j_un ?_|(refine j_yes ?_;refine j_own (lSFF (λ _=>o_buildSlice (cs:=refsC [5]) elem_ref pa1 rfl rfl rfl rfl rfl)) (λ x61=>?_)));((first|refine j_un ?_|(refine j_yes ?_;(refine j_own (cV (hc:=λ w1 hw=>refs_c (xs:=[5]) (ys:=[5]) (hw.cl fin) (hw.cl fin) (by decide))) (λ x62=>?_);try (refine l_fact (λ h62=>?_))))));refine j_pick ?_;refine J1 ?_)
 all_goals
 refine k_rv Tryz.results11 (λ w hw=>?_)
 exact⟨rfl,hw.done⟩
end Go.Proofs.YtpobgmdalcpomaaGreat

/- Worlds: what is seen of their tries. -/
namespace Go.Ct
open Go Go.RowKit
open Classical in
theorem nodup_le{α:Type}:∀(l m:List α),l.Nodup->(∀a∈l,a∈m)->l.length<=m.length
 | [],_,_,_=>Nat.zero_le _
 | a::l,m,hn,hs=>by
  have hn:=List.nodup_cons.1 hn
  have ha:=hs a (List.mem_cons_self ..)
  have:=nodup_le l (m.erase a) hn.2 λ b hb=>by
   have hb2:=hs b (List.mem_cons_of_mem _ hb)
   exact(List.mem_erase_of_ne (λ e=>hn.1 (by rw[<- e];exact hb))).2 hb2
  rw[List.length_erase_of_mem ha] at this
  have:=List.length_pos_of_mem ha
  simp only[List.length_cons]
  omega
end Go.Ct
namespace Go.Proofs.YtpobgmdalcpomaaGreat
open Go Go.RowKit Go.Ct
structure Seen(m:Nat)(z:XS)(t:Tri)(r:Int)(l:List Int):Prop where
 root:rootO (z.L.map NdV.c) z.cs t.root=some r
 trav:travO z.L z.cs z.gen t.root=some (r::l)
 nd:(r::l).Nodup
 body:∀j∈r::l,(bodyO (z.L.map NdV.c) z.cs j).isSome=true
 keys:∀p∈col (z.L.map NdV.c) z.cs 12 r,p.1∈keys8
 ord:(col (z.L.map NdV.c) z.cs 12 r).Pairwise λ p q=>lessB (hsK p.1 m) p.1 (hsK q.1 m) q.1=true
 len:(col (z.L.map NdV.c) z.cs 12 r).length<=8
 inl:∀j∈r::l,1<=j/\j<=z.L.length
theorem lessB_irrefl(h:Nat)(k:ByteArray):lessB h k h k=false:=by
 have:com h h=11:=(com_is (l:=11) (by decide) (λ _ _=>rfl) (λ h=>absurd h (by decide))).symm
 unfold lessB
 rw[this,if_neg (by decide)]
 exact sless_irrefl k
theorem seen_ok{m B C E:Nat}{W:Wd}(h:WOk m B C E W){t:Tri}(ht:t∈W.ts):∃r l,Seen m W.z t r l:=by
 obtain⟨σ,hi⟩:=h.wr.inv
 have i0:=hi.inv
 have e1:σ.mm.nodes=W.z.L.map NdV.c:=by rw[hi.mm];rfl
 have e2:σ.mm.cs=W.z.cs:=by rw[hi.mm];rfl
 have e3:σ.mm.gen=W.z.gen:=by rw[hi.mm];rfl
 obtain⟨r,hr,hir⟩:=root_ok i0 (hi.ts t ht)
 have hig:InG σ r [] (σ.nd r).gen:=⟨hir,rfl⟩
 obtain⟨v,hv,hb,hn⟩:=vis_ok i0 12 r [] _ [] hig (by decide) (λ j hj=>nomatch hj)
 obtain⟨hc1,hc2⟩:=col_ok i0 12 r [] _ hig
 have hp:Proper W.z.L W.z.cs W.z.gen:=by have:=i0.prop;rw[e2,e3] at this;exact this.to e1.symm
 rw[e1,e2] at hr hv hc1 hc2
 rw[List.nil_append] at hv
 obtain⟨l,hl⟩:=vis_pre 12 r [] v hv
 rw[List.nil_append] at hl
 subst hl
 have hk:∀p∈col (W.z.L.map NdV.c) W.z.cs 12 r,p.1∈keys8/\H8 m p.1=hsK p.1 m:=λ p hp=>by
  have:=h8_lt rfl (hc1 p hp).2
  exact⟨this.1,this.2.symm⟩
 have hord:(col (W.z.L.map NdV.c) W.z.cs 12 r).Pairwise λ p q=>lessB (hsK p.1 m) p.1 (hsK q.1 m) q.1=true :=
  hc2.imp_of_mem λ{a b} ha hb hab=>by unfold PLt at hab;rwa [(hk a ha).2,(hk b hb).2] at hab
 refine⟨r,l,hr,?_,hn,λ j hj=>?_,λ p hp=>(hk p hp).1,hord,?_,λ j hj=>?_⟩
 ·rw[travO_if hp,hr];exact hv
 ·obtain⟨_,_,_,hbd⟩:=hb j hj
  rw[e1,e2] at hbd;exact hbd
 ·have hnd:((col (W.z.L.map NdV.c) W.z.cs 12 r).map Prod.fst).Nodup:=by
   unfold List.Nodup
   rw[List.pairwise_map]
   exact hord.imp λ{a b} hab e=>by rw[e,lessB_irrefl] at hab;cases hab
  have:=nodup_le _ keys8 hnd λ k hk'=>by
   obtain⟨p,hp,rfl⟩:=List.mem_map.1 hk'
   exact(hk p hp).1
  rw[List.length_map] at this
  exact this
 ·obtain⟨_,_,hk2,_⟩:=hb j hj
  have:=kind_in (N:=σ.mm.nodes) (i:=j) (by have:=hk2;simp only[Kw.nd] at this;rw[this];decide)
  rw[e1,List.length_map] at this
  exact this
theorem rngs_ok{x:XS}(h:x.Ok):Rngs x.L:=λ v hv=>by
 have hb:=h.nd v hv
 have h1:=hb.main
 have h2:=hb.prev
 have h3:=hb.status
 have h4:=h.lc
 have e1:v.c.main=v.nd.main:=rfl
 have e2:v.c.prev=v.nd.prev:=rfl
 have e3:v.c.status=v.nd.status:=rfl
 exact⟨hb.bm,by omega,by omega,by omega⟩
end Go.Proofs.YtpobgmdalcpomaaGreat

/- ViewOrder: the walk. -/
namespace Go.Proofs.YtpobgmdalcpomaaGreat
open Go Go.RowKit Go.Ct
theorem SF.mem4{w0 w:World}{M:List Nat}{H:List (Nat×Obj)}{A F:Fr}{O:List Ow}{a b c:Ow}{L:List NdV}{p:Option Addr}{k:Nat}{T:TypeId}(h:SF w0 M H A F (a::b::⟨p,nvC L,k,T,14⟩::c::O) w):L.length<=k:=h.capV (.tail (.tail .head))
theorem keys8_sz{k:ByteArray}(h:k∈keys8):k.size<=3:=by
 simp only[keys8,List.mem_cons,List.not_mem_nil,or_false] at h
 rcases h with rfl|rfl|rfl|rfl|rfl|rfl|rfl|rfl<;>decide
theorem getD_mem_pr{l:List Pr}{k:Nat}(h:k<l.length):l.getD k (⟨#[]⟩,0)∈l:=by
 rw[List.getD_eq_getElem?_getD,List.getElem?_eq_getElem h];exact List.getElem_mem h
theorem ord_at{m:Nat}{l:List Pr}(h:l.Pairwise λ p q=>lessB (hsK p.1 m) p.1 (hsK q.1 m) q.1=true){k:Nat}(h1:1<=k)(h2:k<l.length):lessB (hsK (l.getD (k-1) (⟨#[]⟩,0)).1 m) (l.getD (k-1) (⟨#[]⟩,0)).1 (hsK (l.getD k (⟨#[]⟩,0)).1 m) (l.getD k (⟨#[]⟩,0)).1=true:=by
 rw[getD_get h2,getD_get (show k-1<l.length by omega)]
 exact List.pairwise_iff_getElem.1 h (k-1) k (by omega) h2 (by omega)
set_option maxRecDepth 100000 in
set_option maxHeartbeats 1000000 in
theorem viewOrder_c{l:List Int}{a:Option Addr}{c:Nat}{w:World}(ha:Go.Ct.Cl w a (refsC l))(hl:l.length<=17592186043904) :
    Calls Tryz.prog 3 #[.slice a l.length c] w λ e w'=>e=.returned (.bool true)/\St w [] [] w':=by
  refine enter Tryz.func3 Tryz.ntmps3 rfl rfl (SF.s1 ha) ?_
  simp only[mkS]
  all_goals (refine J10 ?_;refine J2 ?_;(refine j_own (cFH (Hc:=λ q:Nat×Nat×Nat×Wd=>wH q.2.2.1 q.1 q.2.1 q.2.2.2) (H1:=λ q=>(q.1,wobj q.2.1 (q.2.2.1:Int) q.2.2.2.pt q.2.2.2.ts.length q.2.2.2.kt q.2.2.2.pe (exB q.2.2.2.ex).length q.2.2.2.ke)::(q.2.1,xM q.2.2.2.z)::exH q.2.1 q.2.2.2.ex) (Fc:=λ q=>famF q.2.2.2.z.L) (F1:=λ q=>famF q.2.2.2.z.L) (Oc:=λ q=>wO q.2.2.2) (O1:=λ q=>⟨q.2.2.2.pt,trC q.2.2.2.ts,q.2.2.2.kt,33,2⟩::⟨q.2.2.2.pe,ptC (exB q.2.2.2.ex),q.2.2.2.ke,86,1⟩::⟨q.2.2.2.z.pn,nvC q.2.2.2.z.L,q.2.2.2.z.cn,59,14⟩::⟨q.2.2.2.z.pc,refsC q.2.2.2.z.cs,q.2.2.2.z.cc,52,1⟩::exO q.2.2.2.ex) (hH1:=λ q=>List.append_nil _) (hF1:=λ q=>List.append_nil _) (hO1:=λ q=>List.append_nil _) (hc:=λ w1 hw=>worlds_c (hw.cl fin) hl)) (λ x10=>?_);try (refine l_fact (λ h10=>?_))))
  all_goals
   have hm:=h10.1
   have hW:=h10.2
   have htl:=hW.tl
   obtain⟨s1,s2,s3⟩:=hW.sz
  all_goals (refine J27 ?_;refine J26 ?_;refine j_len ?_;refine J44 ?_;refine k_block ?_)
  all_goals
   refine k_lp [2,5,6,7,8,16,17,18,19,20,21,22,23,24,25,26,27,28,29,30,31,32,33,34,35,36,37,38,39,40,41,42,43,44,45,46,47,48,49,50,51,52,53,54,55,56,57,58,59,60,61,62,63,64,65,66,67,68,69,70,71,72,73,74] (λ y:Nat=>[(16,.int .i64 ((y:Nat):Int))]) (λ y=>y<=x10.2.2.2.ts.length) (λ y=>(x10.1,wobj x10.2.1 (x10.2.2.1:Int) x10.2.2.2.pt x10.2.2.2.ts.length x10.2.2.2.kt x10.2.2.2.pe (exB x10.2.2.2.ex).length x10.2.2.2.ke)::(x10.2.1,xM x10.2.2.2.z)::exH x10.2.1 x10.2.2.2.ex) (λ y=>famF x10.2.2.2.z.L) (λ y=>⟨x10.2.2.2.pt,trC x10.2.2.2.ts,x10.2.2.2.kt,33,2⟩::⟨x10.2.2.2.pe,ptC (exB x10.2.2.2.ex),x10.2.2.2.ke,86,1⟩::⟨x10.2.2.2.z.pn,nvC x10.2.2.2.z.L,x10.2.2.2.z.cn,59,14⟩::⟨x10.2.2.2.z.pc,refsC x10.2.2.2.z.cs,x10.2.2.2.z.cc,52,1⟩::exO x10.2.2.2.ex) (λ y=>x10.2.2.2.ts.length-y) (0) (Nat.zero_le _) (λ y f hx=>?_) (hw0:=λ w hw=>hw.back (hF:=FSub.all))
   dsimp only[mkU,List.map,List.cons_append,List.nil_append]
   all_goals (refine J0 ?_;refine J47 ?_;refine k_seq ?_)
   all_goals
    refine kif (λ c17=>?_) (λ c17=>?_)
    · try exact nv c17
      all_goals try (exfalso;omega)
      all_goals
       obtain⟨r,il,hs⟩:=seen_ok hW (getD_trm (ts:=x10.2.2.2.ts) (j:=y) (by omega))
       have hr:=hW.root (by decide) (getD_trm (ts:=x10.2.2.2.ts) (j:=y) (by omega))
       have hlen:=hs.len
       have hlh:(col (x10.2.2.2.z.L.map NdV.c) x10.2.2.2.z.cs 12 ((List.cons r il).headD 0)).length=(col (x10.2.2.2.z.L.map NdV.c) x10.2.2.2.z.cs 12 r).length:=rfl
      all_goals (refine J37 ?_;refine J0 ?_;refine l_quiet (o_ix2 (cs:=trC x10.2.2.2.ts) (k:=y) rf rf sl1 ag1 (.own .head) (by omega) (by rw[trC_length];omega)) rfl ?_;refine l_quiet (o_ldTr (ts:=x10.2.2.2.ts) (q:=y) rf ag1 (.own .head) (by omega)) rfl ?_;refine j_alloc (λ x5=>?_);refine J5 ?_;refine k_seq ?_;refine k_dq [0,1,2,3,4,5,6,7,8,9,10,11,12,13] ?_;refine J14 ?_;refine J4 ?_;refine r_ownQ (i:=6) (hq:=(o_loadPart (k:=3) rf atT ag1 (by simp only[List.drop_zero,List.take_succ_cons,List.take_zero];exact rfl) rfl)) (h:=?_);refine r_load ?_;((refine r_own (i:=8) (hq:=(cF (Fc:=λ x:Option Addr×Nat=>[(x.1,prC (col (x10.2.2.2.z.L.map NdV.c) x10.2.2.2.z.cs 12 r))]) (F1:=λ x:Option Addr×Nat=>(x.1,prC (col (x10.2.2.2.z.L.map NdV.c) x10.2.2.2.z.cs 12 r))::famF x10.2.2.2.z.L) (hF1:=λ x=>rfl) (hc:=λ w1 hw=>vCont_ok (h:=hw.stAt (.inr (.inr (.inr ⟨_,.tail _ (.tail _ (.head _)),rfl,rfl⟩))) (.inr (.inr (.inr ⟨_,.tail _ (.tail _ (.tail _ (.head _))),rfl,rfl⟩))) (λ f hf=>.inr (.inr (.inl hf))) hW.z.fit) (rngs_ok hW.z) (by omega) (by omega) (SF.mem4 hw) _ _ hr hs.trav (by show(col (x10.2.2.2.z.L.map NdV.c) x10.2.2.2.z.cs 12 r).length<=_;omega)))) (h:=λ x29=>?_);try (refine r_fact (λ h29=>?_))));refine r_move ?_;refine r_extract ?_;refine r_extract ?_;refine J55 ?_;refine J32 ?_;refine j_neq ?_;refine l_nil ?_)
      all_goals
       refine kif (λ c33=>?_) (λ c33=>?_)
       · try exact nv c33
         all_goals try (exfalso;omega)
         all_goals
          exact absurd rfl c33
       · try exact nv c33
         all_goals try (exfalso;omega)
         all_goals (refine k_skip ?_;refine J69 ?_)
         all_goals
          refine k_lp [2,8,34,35,36,37,38,39,40,41,42,43,44,45,46,47,48,49,50,51,52,53,54,55,56,57,58,59,60,61,62,63,64,65,66,67,68,69,70,71,72,73] (λ z:Nat=>[(8,.int .i64 ((z:Nat):Int))]) (λ z=>1<=z) (λ _=>_) (λ _=>(x29.1,prC (col (x10.2.2.2.z.L.map NdV.c) x10.2.2.2.z.cs 12 r))::famF x10.2.2.2.z.L) (λ _=>_) (λ z=>10-z) (1) (Nat.le_refl 1) (λ z f hx=>?_) (hw0:=λ w hw=>hw)
          dsimp only[mkU,List.map,List.cons_append,List.nil_append]
          all_goals (refine J65 ?_;refine j_len ?_;refine J47 ?_)
          all_goals
           refine kif (λ c37=>?_) (λ c37=>?_)
           · try exact nv c37
             all_goals try (exfalso;omega)
             all_goals (refine J37 ?_;refine k_seq ?_;refine k_dp [(0,[]),(1,[]),(2,[]),(3,[]),(4,[]),(5,[]),(6,[]),(7,[]),(8,[]),(9,[]),(11,[]),(12,[]),(13,[]),(14,[]),(15,[]),(16,[]),(17,[]),(18,[]),(19,[]),(20,[]),(21,[]),(22,[]),(23,[]),(24,[]),(25,[]),(27,[]),(28,[]),(29,[]),(30,[]),(31,[]),(10,[14,16,19,21,25,29,31]),(26,[14,16,29,31]),(32,[]),(33,[])] ?_;refine J17 ?_;refine r_ownP (i:=2) (hq:=(o_subN (m:=z) (n:=1) rf rf (by omega) (by omega))) (h:=?_);refine r_ownQ (i:=3) (hq:=(o_indexP (k:=z-1) (lst:=col (x10.2.2.2.z.L.map NdV.c) x10.2.2.2.z.cs 12 r) rf rf sl1 ag1 (.new .head) (by omega) (by omega))) (h:=?_);refine r_fieldAddr ?_;refine r_ownQ (i:=5) (hq:=(o_loadPk (q:=z-1) (lst:=col (x10.2.2.2.z.L.map NdV.c) x10.2.2.2.z.cs 12 r) rf on1 (.new .head) (by omega))) (h:=?_);refine J14 ?_;refine J17 ?_;refine r_ownP (i:=13) (hq:=(o_subN (m:=z) (n:=1) rf rf (by omega) (by omega))) (h:=?_);refine r_ownQ (i:=14) (hq:=(o_indexP (k:=z-1) (lst:=col (x10.2.2.2.z.L.map NdV.c) x10.2.2.2.z.cs 12 r) rf rf sl1 ag1 (.new .head) (by omega) (by omega))) (h:=?_);refine r_fieldAddr ?_;refine r_ownQ (i:=16) (hq:=(o_loadPk (q:=z-1) (lst:=col (x10.2.2.2.z.L.map NdV.c) x10.2.2.2.z.cs 12 r) rf on1 (.new .head) (by omega))) (h:=?_);refine J17 ?_;refine r_ownQ (i:=19) (hq:=(o_indexP (k:=z) (lst:=col (x10.2.2.2.z.L.map NdV.c) x10.2.2.2.z.cs 12 r) rf rf sl1 ag1 (.new .head) (by omega) (by omega))) (h:=?_);refine r_fieldAddr ?_;refine r_ownQ (i:=21) (hq:=(o_loadPk (q:=z) (lst:=col (x10.2.2.2.z.L.map NdV.c) x10.2.2.2.z.cs 12 r) rf on1 (.new .head) (by omega))) (h:=?_);refine J14 ?_;refine J17 ?_;refine r_ownQ (i:=29) (hq:=(o_indexP (k:=z) (lst:=col (x10.2.2.2.z.L.map NdV.c) x10.2.2.2.z.cs 12 r) rf rf sl1 ag1 (.new .head) (by omega) (by omega))) (h:=?_);refine r_fieldAddr ?_;refine r_ownQ (i:=31) (hq:=(o_loadPk (q:=z) (lst:=col (x10.2.2.2.z.L.map NdV.c) x10.2.2.2.z.cs 12 r) rf on1 (.new .head) (by omega))) (h:=?_);((refine r_own (i:=10) (hq:=(cV (hc:=λ w1 hw=>refHash_c ((col (x10.2.2.2.z.L.map NdV.c) x10.2.2.2.z.cs 12 r).getD (z-1) (⟨#[]⟩,0)).1 hm (by have:=keys8_sz (hs.keys _ (getD_mem_pr (k:=z-1) (by omega)));omega) w1))) (hfire:=(λ _=>by first|((repeat (first|exact FireAll.nil|refine FireAll.cons (by first|exact a_own (hq:=o_indexP (k:=z-1) (lst:=col (x10.2.2.2.z.L.map NdV.c) x10.2.2.2.z.cs 12 r) rf rf sl1 ag1 (.new .head) (by omega) (by omega))|exact a_own (hq:=o_loadPk (q:=z-1) (lst:=col (x10.2.2.2.z.L.map NdV.c) x10.2.2.2.z.cs 12 r) rf on1 (.new .head) (by omega))|exact a_own (hq:=o_indexP (k:=z) (lst:=col (x10.2.2.2.z.L.map NdV.c) x10.2.2.2.z.cs 12 r) rf rf sl1 ag1 (.new .head) (by omega) (by omega))|exact a_own (hq:=o_loadPk (q:=z) (lst:=col (x10.2.2.2.z.L.map NdV.c) x10.2.2.2.z.cs 12 r) rf on1 (.new .head) (by omega))|exact a_load|exact a_un) ?_));done)|(refine fireall_fact ?_;(repeat (first|exact FireAll.nil|refine FireAll.cons (by first|exact a_own (hq:=o_indexP (k:=z-1) (lst:=col (x10.2.2.2.z.L.map NdV.c) x10.2.2.2.z.cs 12 r) rf rf sl1 ag1 (.new .head) (by omega) (by omega))|exact a_own (hq:=o_loadPk (q:=z-1) (lst:=col (x10.2.2.2.z.L.map NdV.c) x10.2.2.2.z.cs 12 r) rf on1 (.new .head) (by omega))|exact a_own (hq:=o_indexP (k:=z) (lst:=col (x10.2.2.2.z.L.map NdV.c) x10.2.2.2.z.cs 12 r) rf rf sl1 ag1 (.new .head) (by omega) (by omega))|exact a_own (hq:=o_loadPk (q:=z) (lst:=col (x10.2.2.2.z.L.map NdV.c) x10.2.2.2.z.cs 12 r) rf on1 (.new .head) (by omega))|exact a_load|exact a_un) ?_));done))) (h:=λ x50=>?_);try (refine r_fact (λ h50=>?_))));((refine r_own (i:=26) (hq:=(cV (hc:=λ w1 hw=>refHash_c ((col (x10.2.2.2.z.L.map NdV.c) x10.2.2.2.z.cs 12 r).getD z (⟨#[]⟩,0)).1 hm (by have:=keys8_sz (hs.keys _ (getD_mem_pr (k:=z) (by omega)));omega) w1))) (hfire:=(λ _=>by first|((repeat (first|exact FireAll.nil|refine FireAll.cons (by first|exact a_own (hq:=o_indexP (k:=z-1) (lst:=col (x10.2.2.2.z.L.map NdV.c) x10.2.2.2.z.cs 12 r) rf rf sl1 ag1 (.new .head) (by omega) (by omega))|exact a_own (hq:=o_loadPk (q:=z-1) (lst:=col (x10.2.2.2.z.L.map NdV.c) x10.2.2.2.z.cs 12 r) rf on1 (.new .head) (by omega))|exact a_own (hq:=o_indexP (k:=z) (lst:=col (x10.2.2.2.z.L.map NdV.c) x10.2.2.2.z.cs 12 r) rf rf sl1 ag1 (.new .head) (by omega) (by omega))|exact a_own (hq:=o_loadPk (q:=z) (lst:=col (x10.2.2.2.z.L.map NdV.c) x10.2.2.2.z.cs 12 r) rf on1 (.new .head) (by omega))|exact a_un) ?_));done)|(refine fireall_fact ?_;(repeat (first|exact FireAll.nil|refine FireAll.cons (by first|exact a_own (hq:=o_indexP (k:=z-1) (lst:=col (x10.2.2.2.z.L.map NdV.c) x10.2.2.2.z.cs 12 r) rf rf sl1 ag1 (.new .head) (by omega) (by omega))|exact a_own (hq:=o_loadPk (q:=z-1) (lst:=col (x10.2.2.2.z.L.map NdV.c) x10.2.2.2.z.cs 12 r) rf on1 (.new .head) (by omega))|exact a_own (hq:=o_indexP (k:=z) (lst:=col (x10.2.2.2.z.L.map NdV.c) x10.2.2.2.z.cs 12 r) rf rf sl1 ag1 (.new .head) (by omega) (by omega))|exact a_own (hq:=o_loadPk (q:=z) (lst:=col (x10.2.2.2.z.L.map NdV.c) x10.2.2.2.z.cs 12 r) rf on1 (.new .head) (by omega))|exact a_un) ?_));done))) (h:=λ x66=>?_);try (refine r_fact (λ h66=>?_))));((refine r_own (i:=32) (hq:=(cV (hc:=λ w1 hw=>less_c (hsK_lt _ _) (hsK_lt _ _) _ _ w1))) (h:=λ x72=>?_);try (refine r_fact (λ h72=>?_))));refine r_not ?_;refine r_fin ?_)
             all_goals
              refine kif (λ c73=>?_) (λ c73=>?_)
              · try exact nv c73
                all_goals try (exfalso;omega)
                all_goals
                 have hlt:=ord_at hs.ord (k:=z) (by omega) (by omega)
                 rw[hlt] at c73
                 cases c73
              · try exact nv c73
                all_goals try (exfalso;omega)
                all_goals (refine J34 ?_;refine J70 ?_)
                all_goals
                 refine k_rd (z+1) ?_ (hw1:=λ w hw=>hw)
                 · show 1<=z+1;omega
           · try exact nv c37
             all_goals try (exfalso;omega)
             all_goals (refine J84 ?_;refine k_region ?_;refine l_quiet (o_addN (m:=y) (n:=1) rf rf (by omega)) rfl ?_;refine J44 ?_)
             all_goals
              refine k_rd (y+1) ?_ (hw1:=λ w hw=>hw.back (hF:=FSub.ofSub λ f hf=>List.mem_cons_of_mem _ hf))
              · show y+1<=_;omega
    · try exact nv c17
      all_goals try (exfalso;omega)
      all_goals (refine k_exit rfl ?_;refine J0 ?_;(refine j_own (cV (hc:=λ w1 hw=>awake9_c w1)) (λ x75=>?_);try (refine l_fact (λ h75=>?_)));refine J1 ?_)
      all_goals
       refine k_rv Tryz.results3 (λ w hw=>?_)
       exact⟨rfl,hw.done⟩
end Go.Proofs.YtpobgmdalcpomaaGreat

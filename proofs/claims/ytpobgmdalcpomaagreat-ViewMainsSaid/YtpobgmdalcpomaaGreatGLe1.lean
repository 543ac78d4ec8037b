/- The order of keys. -/
import Derived.Test.YtpobgmdalcpomaaGreatGBr6
import Derived.Test.YtpobgmdalcpomaaGreatGKw6
import Derived.Test.YtpobgmdalcpomaaGreatGAr9

set_option linter.unusedSimpArgs false
set_option linter.unusedVariables false
namespace Go.Ct
open Go Go.RowKit
def lessB(h:Nat)(a:ByteArray)(k:Nat)(b:ByteArray):Bool:=if com h k<11 then decide (sl h (com h k)<sl k (com h k)) else sless a b
end Go.Ct
namespace Go.Proofs.YtpobgmdalcpomaaGreat
open Go Go.RowKit Go.Ct
end Go.Proofs.YtpobgmdalcpomaaGreat

/- Tries that keep the labels: their I-nodes and their contents. -/
namespace Go.Proofs.YtpobgmdalcpomaaGreat
open Go.RowKit Go.Ct
section
variable{H:ByteArray->Nat}{σ:Kw}{i m p g:Int}{w:List Nat}{t:Tri}
theorem body_ok(i0:Inv H σ)(hi:InG σ i w g):∃p,bodyO σ.mm.nodes σ.mm.cs i=some p/\IsM σ p w g:=by
 have hm:=hi.cur i0
 have hc:=i0.prevCell hm.1
 have hp:=(i0.ce _ hc.1 hc.2.1).prev _ hc.2.2
 have e1:bodyM σ.mm.nodes σ.mm.cs i=σ.ce (σ.nd i).main:=rfl
 have e2:bodyP σ.mm.nodes σ.mm.cs i=σ.ce (σ.nd (σ.ce (σ.nd i).main)).prev:=rfl
 have e3:bodyQ σ.mm.nodes σ.mm.cs i=if(σ.nd (bodyP σ.mm.nodes σ.mm.cs i)).kind=7 then(σ.nd (bodyP σ.mm.nodes σ.mm.cs i)).old else bodyP σ.mm.nodes σ.mm.cs i:=rfl
 unfold bodyO
 rw[if_pos ⟨hi.1.1,by rw[e1];exact hm.1⟩]
 have key:∀q,PrevM σ (σ.ce (σ.nd i).main) q->IsM σ q w g:=λ q hq=>by have:=hq.1;rw[hm.2.1] at this;exact this.le hm.2.2
 by_cases h0:bodyP σ.mm.nodes σ.mm.cs i=0
 ·rw[if_pos h0,e1]
  exact⟨_,rfl,hm⟩
 ·rw[if_neg h0,e3]
  rw[e2] at h0 ⊢
  rcases hp.2 with h|h|h
  ·exact absurd h h0
  ·have hk:=h.1.1
   rw[if_neg (MainK.ne0 hk).2.1,if_pos hk]
   exact⟨_,rfl,key _ h⟩
  ·rw[if_pos h.1,if_pos h.2.1.1]
   exact⟨_,rfl,key _ h.2⟩
theorem root_ok(i0:Inv H σ)(hT:TrieOk σ t):∃r,rootO σ.mm.nodes σ.mm.cs t.root=some r/\IsI σ r []:=by
 have hv:=(rootV hT i0).2
 have e:rootP σ.mm.nodes σ.mm.cs t.root=if(σ.nd (σ.ce t.root)).kind=8 then(if σ.ce (σ.nd (σ.ce t.root)).status=1 then(σ.nd (σ.ce t.root)).new else(σ.nd (σ.ce t.root)).old) else σ.ce t.root:=rfl
 have key:∀r,rootP σ.mm.nodes σ.mm.cs t.root=r->IsI σ r []->∃r,rootO σ.mm.nodes σ.mm.cs t.root=some r/\IsI σ r []:=λ r er hr=>⟨r,by unfold rootO;rw[er];exact if_pos hr.1,hr⟩
 rcases hv with h|h
 ·exact key _ (e.trans (if_neg (by rw[h.1];decide))) h
 ·have hd:=i0.desc h.1
  by_cases hs:σ.ce (σ.nd (σ.ce t.root)).status=1
  ·exact key _ (e.trans ((if_pos h.1).trans (if_pos hs))) hd.2.2.1
  ·exact key _ (e.trans ((if_pos h.1).trans (if_neg hs))) hd.2.1
theorem IsM.noxs(i0:Inv H σ)(h:IsM σ m w g)(h3:(σ.nd m).kind≠3):(σ.nd m).xs=[]:=by
 have hn:=i0.nd m h.in.1 h.in.2
 have he:(σ.nd m).xs=(σ.nd m).nd.xsOwn (σ.nd m).xs:=congrArg Nv.xs (ndEq_iff.1 hn.valid.1)
 rw[he]
 unfold Nd.xsOwn
 exact if_neg (by simpa[Nv.nd] using h3)
theorem CNode.lof{b:Nat}{xs:List Int}(h:CNode σ m w g b xs):lOf (mOf b xs) 64=xs:=(of_mOf h.bv).2
def Bel(σ:Kw)(w:List Nat)(j:Int):Prop:=∃v,σ.way j=w++v/\(σ.nd j).kind=2/\(bodyO σ.mm.nodes σ.mm.cs j).isSome=true
theorem Bel.up{k:Nat}{j:Int}(h:Bel σ (w++[k]) j):Bel σ w j:=by
 obtain⟨v,h1,h2⟩:=h
 exact⟨k::v,by rw[h1,List.append_assoc];rfl,h2⟩
theorem app_inj{a b:Nat}{w u v:List Nat}(h:w++[a]++u=w++[b]++v):a=b:=by
 rw[List.append_assoc,List.append_assoc] at h
 have:=List.append_cancel_left h
 simpa using(List.cons.inj this).1
theorem vis_ok(i0:Inv H σ):∀(n:Nat) (i:Int) (w:List Nat) (g:Int) (l:List Int),InG σ i w g->12<=w.length+n->(∀j∈l,¬∃v,σ.way j=w++v)->∃r,vis σ.mm.nodes σ.mm.cs n i l=some (l++r)/\(∀j∈r,Bel σ w j)/\r.Nodup
 | 0,i,w,g,l,hi,hn,_=>by have:=(hi.gens i0).2.2;omega
 | n+1,i,w,g,l,hi,hn,hl=>by
  obtain⟨p,hp,hm⟩:=body_ok i0 hi
  have hbi:Bel σ w i:=⟨[],by rw[hi.1.2,List.append_nil],hi.1.1,by rw[hp];rfl⟩
  unfold vis
  rw[if_neg (λ h=>hl i h ⟨[],by rw[hi.1.2,List.append_nil]⟩),hp]
  show ∃r,visB σ.mm.nodes (vis σ.mm.nodes σ.mm.cs n) (σ.nd p).xs (l++[i])=some (l++r)/\_
  by_cases h3:(σ.nd p).kind=3
  ·have hc:=hm.cnode i0 h3
   have key:∀k,k<=64->∃r,visB σ.mm.nodes (vis σ.mm.nodes σ.mm.cs n) (lOf (mOf (σ.nd p).bm.toNat (σ.nd p).xs) k) (l++[i])=some (l++[i]++r)/\(∀j∈r,∃k',k'<k/\Bel σ (w++[k']) j)/\r.Nodup:=by
    intro k
    induction k with
    | zero=>intro _;exact⟨[],by simp[lOf,visB],(λ j hj=>nomatch hj),List.nodup_nil⟩
    | succ k ih =>
     intro hk
     obtain⟨r,h1,h2,h4⟩:=ih (by omega)
     simp only[lOf]
     rw[visB_app,h1]
     cases hmo:mOf (σ.nd p).bm.toNat (σ.nd p).xs k with
     | none=>exact⟨r,by simp[visB],(λ j hj=>by obtain⟨k',h5,h6⟩:=h2 j hj;exact⟨k',by omega,h6⟩),h4⟩
     | some b =>
      have hb:=hc.br k (by omega) b hmo
      show ∃r',visB σ.mm.nodes (vis σ.mm.nodes σ.mm.cs n) [b] (l++[i]++r)=some (l++[i]++r')/\(∀j∈r',∃k',k'<k+1/\Bel σ (w++[k']) j)/\r'.Nodup
      rcases hb with hb|hb
      ·refine⟨r,?_,(λ j hj=>by obtain⟨k',h5,h6⟩:=h2 j hj;exact⟨k',by omega,h6⟩),h4⟩
       simp only[visB]
       rw[if_pos hb.1]
      ·have hbg:InG σ b (w++[k]) (σ.nd b).gen:=⟨⟨hb.1,hb.2.1⟩,rfl⟩
       obtain⟨r2,h5,h6,h7⟩:=vis_ok i0 n b (w++[k]) _ (l++[i]++r) hbg (by rw[List.length_append,List.length_singleton];omega) (λ j hj=>by
        rintro ⟨v,hv⟩
        rcases List.mem_append.1 hj with hj|hj
        ·rcases List.mem_append.1 hj with hj|hj
         ·exact hl j hj ⟨k::v,by rw[hv,List.append_assoc];rfl⟩
         ·rw[List.mem_singleton.1 hj,hi.1.2] at hv
          have:=congrArg List.length hv
          simp at this
        ·obtain⟨k',h5,v',h6,_⟩:=h2 j hj
         rw[h6] at hv
         have:=app_inj hv
         omega)
       refine⟨r++r2,?_,λ j hj=>?_,?_⟩
       ·simp only[visB]
        rw[if_neg (by rw[hb.1];decide),if_pos hb.1,h5]
        simp[visB]
       ·rcases List.mem_append.1 hj with hj|hj
        ·obtain⟨k',h8,h9⟩:=h2 j hj;exact⟨k',by omega,h9⟩
        ·exact⟨k,by omega,h6 j hj⟩
       ·refine List.nodup_append.2 ⟨h4,h7,λ a ha b' hb' e=>?_⟩
        subst e
        obtain⟨k',h8,v,h9,_⟩:=h2 a ha
        obtain⟨v2,h10,_⟩:=h6 a hb'
        rw[h9] at h10
        have:=app_inj h10
        omega
   obtain⟨r,h1,h2,h4⟩:=key 64 (Nat.le_refl _)
   rw[hc.lof] at h1
   refine⟨i::r,by rw[h1];simp,λ j hj=>?_,?_⟩
   ·rcases List.mem_cons.1 hj with rfl|hj
    ·exact hbi
    ·obtain⟨k',_,h6⟩:=h2 j hj;exact h6.up
   ·refine List.nodup_cons.2 ⟨λ hj=>?_,h4⟩
    obtain⟨k',_,v,h6,_⟩:=h2 i hj
    rw[hi.1.2] at h6
    have:=congrArg List.length h6
    simp at this
  ·rw[hm.noxs i0 h3]
   exact⟨[i],rfl,(λ j hj=>by rw[List.mem_singleton.1 hj];exact hbi),by simp⟩
def PLt(H:ByteArray->Nat)(p q:Pr):Prop:=lessB (H p.1) p.1 (H q.1) q.1=true
theorem plt_way{a b:Nat}{ka kb:ByteArray}{k l:Nat}(ha:Under a (w++[k]))(hb:Under b (w++[l]))(hw:w.length<=10)(hkl:k<l):lessB a ka b kb=true:=by
 have e1:∀j,j<w.length->sl a j=sl b j:=λ j hj=>by rw[under_pre ha j hj,under_pre hb j hj]
 have e2:sl a w.length=k:=by
  have:=ha w.length (by simp)
  rw[this];simp[List.getD_eq_getElem?_getD]
 have e3:sl b w.length=l:=by
  have:=hb w.length (by simp)
  rw[this];simp[List.getD_eq_getElem?_getD]
 have ec:w.length=com a b:=com_is (by omega) e1 (λ _=>by omega)
 unfold lessB
 rw[<- ec,if_pos (by omega),e2,e3]
 exact decide_eq_true hkl
theorem plt_same{h:Nat}{ka kb:ByteArray}(hs:sless ka kb=true):lessB h ka h kb=true:=by
 have:com h h=11:=(com_is (l:=11) (by decide) (λ _ _=>rfl) (λ h=>absurd h (by decide))).symm
 unfold lessB
 rw[this,if_neg (by decide)];exact hs
theorem col_ok(i0:Inv H σ):∀(n:Nat) (i:Int) (w:List Nat) (g:Int),InG σ i w g->(∀p∈col σ.mm.nodes σ.mm.cs n i,Under (H p.1) w/\H p.1<18446744073709551616)/\(col σ.mm.nodes σ.mm.cs n i).Pairwise (PLt H)
 | 0,i,w,g,hi=>⟨(λ p hp=>nomatch hp),List.Pairwise.nil⟩
 | n+1,i,w,g,hi=>by
  obtain⟨p,hp,hm⟩:=body_ok i0 hi
  unfold col
  rw[hp]
  show(∀q∈ownP (σ.nd p)++colB σ.mm.nodes (col σ.mm.nodes σ.mm.cs n) (σ.nd p).xs,_)/\(ownP (σ.nd p)++colB σ.mm.nodes (col σ.mm.nodes σ.mm.cs n) (σ.nd p).xs).Pairwise _
  rcases hm.1 with h3|h5|h6
  ·have hc:=hm.cnode i0 h3
   have ho:ownP (σ.nd p)=[]:=by unfold ownP;rw[if_neg (by omega),if_neg (by omega)]
   rw[ho,List.nil_append]
   have key:∀k,k<=64->(∀q∈colB σ.mm.nodes (col σ.mm.nodes σ.mm.cs n) (lOf (mOf (σ.nd p).bm.toNat (σ.nd p).xs) k),(∃k',k'<k/\Under (H q.1) (w++[k']))/\H q.1<18446744073709551616)/\(colB σ.mm.nodes (col σ.mm.nodes σ.mm.cs n) (lOf (mOf (σ.nd p).bm.toNat (σ.nd p).xs) k)).Pairwise (PLt H):=by
    intro k
    induction k with
    | zero=>intro _;exact⟨λ q hq=>by simp[lOf,colB] at hq,by simp[lOf,colB]⟩
    | succ k ih =>
     intro hk
     obtain⟨h1,h2⟩:=ih (by omega)
     simp only[lOf]
     rw[colB_app]
     have hnew:∀q∈colB σ.mm.nodes (col σ.mm.nodes σ.mm.cs n) (mOf (σ.nd p).bm.toNat (σ.nd p).xs k).toList,Under (H q.1) (w++[k])/\H q.1<18446744073709551616:=by
      intro q hq
      cases hmo:mOf (σ.nd p).bm.toNat (σ.nd p).xs k with
      | none=>rw[hmo] at hq;simp[colB] at hq
      | some b =>
       rw[hmo] at hq
       simp only[Option.toList,colB,List.append_nil] at hq
       rcases hc.br k (by omega) b hmo with hb|hb
       ·rw[if_pos hb.1] at hq
        rw[List.mem_singleton.1 hq]
        have hlf:=i0.leaf (.inl hb.1)
        have e:H (σ.nd b).key=(σ.nd b).hash.toNat:=hlf.ha
        exact⟨by show Under (H (σ.nd b).key) _;rw[e];exact hb.2,by show H (σ.nd b).key<_;rw[e];exact hlf.hl⟩
       ·rw[if_neg (by rw[hb.1];decide)] at hq
        exact(col_ok i0 n b (w++[k]) _ ⟨⟨hb.1,hb.2.1⟩,rfl⟩).1 q hq
     have hpw:(colB σ.mm.nodes (col σ.mm.nodes σ.mm.cs n) (mOf (σ.nd p).bm.toNat (σ.nd p).xs k).toList).Pairwise (PLt H):=by
      cases hmo:mOf (σ.nd p).bm.toNat (σ.nd p).xs k with
      | none=>simp[colB]
      | some b =>
       simp only[Option.toList,colB,List.append_nil]
       rcases hc.br k (by omega) b hmo with hb|hb
       ·rw[if_pos hb.1];exact List.pairwise_singleton _ _
       ·rw[if_neg (by rw[hb.1];decide)]
        exact(col_ok i0 n b (w++[k]) _ ⟨⟨hb.1,hb.2.1⟩,rfl⟩).2
     refine⟨λ q hq=>?_,List.pairwise_append.2 ⟨h2,hpw,λ a ha b hb=>?_⟩⟩
     ·rcases List.mem_append.1 hq with hq|hq
      ·obtain⟨⟨k',h3,h4⟩,h5⟩:=h1 q hq;exact⟨⟨k',by omega,h4⟩,h5⟩
      ·exact⟨⟨k,by omega,(hnew q hq).1⟩,(hnew q hq).2⟩
     ·obtain⟨⟨k',h3,h4⟩,_⟩:=h1 a ha
      exact plt_way h4 (hnew b hb).1 hc.wl h3
   obtain⟨h1,h2⟩:=key 64 (Nat.le_refl _)
   rw[hc.lof] at h1 h2
   exact⟨λ q hq=>by obtain⟨⟨k',_,h4⟩,h5⟩:=h1 q hq;exact⟨under_pre h4,h5⟩,h2⟩
  ·have ho:ownP (σ.nd p)=[((σ.nd p).key,(σ.nd p).val)]:=by unfold ownP;rw[if_pos h5]
   rw[ho,hm.noxs i0 (by omega)]
   have hlf:=i0.leaf (.inr h5)
   have e:H (σ.nd p).key=(σ.nd p).hash.toNat:=hlf.ha
   have hu:=((i0.nd p hm.in.1 hm.in.2).k5 h5).2.2.2.1
   rw[hm.2.1] at hu
   refine⟨λ q hq=>?_,List.pairwise_singleton _ _⟩
   have hq':q=((σ.nd p).key,(σ.nd p).val):=by simpa[colB] using hq
   rw[hq']
   exact⟨by show Under (H (σ.nd p).key) _;rw[e];exact hu,by show H (σ.nd p).key<_;rw[e];exact hlf.hl⟩
  ·have ho:ownP (σ.nd p)=(σ.nd p).ys:=by unfold ownP;rw[if_neg (by omega),if_pos h6]
   rw[ho,hm.noxs i0 (by omega)]
   have hln:=hm.lnode i0 h6
   refine⟨λ q hq=>?_,?_⟩
   ·have hq':q∈(σ.nd p).ys:=by simpa[colB] using hq
    rw[hln.ha q hq'];exact⟨hln.un,hln.hl⟩
   ·simp only[colB,List.append_nil]
    exact hln.sa.imp_of_mem λ ha hb hs=>by unfold PLt;rw[hln.ha _ ha,hln.ha _ hb];exact plt_same hs
end
end Go.Proofs.YtpobgmdalcpomaaGreat

/- Views: the root of a trie, the main node of an I-node. -/
namespace Go.Ct
open Go Go.RowKit
theorem StAt.of0{L:List NdV}{cs:List Int}{pn pc:Option Addr}{w w0:World}{M:List Nat}{H:List (Nat×Obj)}{F:Fr}{O:List Ow}(h:StAt w0 L cs pn pc)(hw:SF w0 M H ((pn,nvC L)::(pc,refsC cs)::famF L) F O w):StAt w L cs pn pc:=hw.stAt (.inr (.inl (.head _))) (.inr (.inl (.tail _ (.head _)))) (λ f hf=>.inr (.inl (.tail _ (.tail _ hf)))) h.fit
theorem nodeV_c'(L:List NdV)(r:Int):ndAt (L.map NdV.c) r=(nodeV L r).c:=(nodeV_c L r).symm
end Go.Ct
namespace Go.Proofs.YtpobgmdalcpomaaGreat
open Go Go.RowKit Go.Ct
section
variable{L:List NdV}{cs:List Int}{gen:Int}{pn pc:Option Addr}{cn cc:Nat}{w:World}
abbrev stG(L:List NdV)(cs:List Int)(gen:Int)(pn:Option Addr)(cn:Nat)(pc:Option Addr)(cc:Nat):Value:=.agg ⟨[.slice pn L.length cn,.slice pc cs.length cc,.int .i64 gen]⟩
theorem vAt_no(h:StAt w L cs pn pc)(r:Int)(hr:r<1):Calls Tryz.prog 54 #[stG L cs gen pn cn pc cc,.int .i64 r] w λ e w'=>e=.returned (nodeV L r).nd.v/\St w [] [] w':=by
 refine enter Tryz.func54 Tryz.ntmps54 rfl rfl h.start ?_
 simp only[mkS]
 all_goals (refine J0 ?_;refine j_box (λ x2=>?_);refine j_alloc (λ x4=>?_);refine l_nil ?_;refine J32 ?_;refine J64 ?_)
 all_goals (first|refine j_un ?_|(refine j_yes ?_;refine j_move ?_)|(refine lcs 7 (λ g7=>?_) (λ g7=>?_)<;>(try (exfalso;omega))<;>(first|refine j_un ?_|(refine j_yes ?_;refine j_move ?_))))
 all_goals (refine J43 ?_;refine J22 ?_;refine l_nil ?_)
 all_goals
 refine kif (λ c13=>?_) (λ c13=>?_)
 ·try exact nv c13
  all_goals try (exfalso;omega)
  all_goals (refine J0 ?_;refine J52 ?_)
  all_goals
   refine k_rt Tryz.results54 (λ w hw=>?_)
   exact⟨by rw[nodeV_no (by omega)];rfl,hw.done⟩
 ·try exact nv c13
  all_goals try (exfalso;omega)
  all_goals (refine k_skip ?_;refine J24 ?_;refine j_move ?_;refine j_dec ?_;refine J53 ?_;refine J5 ?_)
  all_goals
   refine k_rt Tryz.results54 (λ w hw=>?_)
   exact⟨by rw[nodeV_no (by omega)];rfl,hw.done⟩
theorem vAt_at(h:StAt w L cs pn pc){k:Nat}(hk:(k:Int)<9223372036854775807)(hl:L.length<=274877906944):Calls Tryz.prog 54 #[stG L cs gen pn cn pc cc,.int .i64 ((k+1:Nat):Int)] w λ e w'=>e=.returned (nodeV L ((k+1:Nat):Int)).nd.v/\St w [] [] w':=by
 refine enter Tryz.func54 Tryz.ntmps54 rfl rfl h.start ?_
 simp only[mkS]
 all_goals (refine J0 ?_;refine j_box (λ x2=>?_);refine j_alloc (λ x4=>?_);refine l_nil ?_;refine J32 ?_;refine J64 ?_)
 all_goals (first|refine j_un ?_|(refine j_yes ?_;refine j_move ?_)|(refine lcs 7 (λ g7=>?_) (λ g7=>?_)<;>(try (exfalso;omega))<;>(first|refine j_un ?_|(refine j_yes ?_;refine j_move ?_))))
 all_goals (refine J43 ?_;refine J22 ?_;refine l_nil ?_)
 all_goals
 refine kif (λ c13=>?_) (λ c13=>?_)
 ·try exact nv c13
  all_goals try (exfalso;omega)
  all_goals (refine J0 ?_;refine J52 ?_)
  all_goals
   refine k_rt Tryz.results54 (λ w hw=>?_)
   first|exact⟨by rw[nodeV_no (by omega)];rfl,hw.done⟩|exact⟨by rw[nodeV_at (by omega)];rfl,hw.done⟩
 ·try exact nv c13
  all_goals try (exfalso;omega)
  all_goals (refine k_skip ?_;refine J24 ?_;refine j_move ?_;refine j_dec ?_;refine J53 ?_;refine J5 ?_)
  all_goals
   refine k_rt Tryz.results54 (λ w hw=>?_)
   first|exact⟨by rw[nodeV_no (by omega)];rfl,hw.done⟩|exact⟨by rw[nodeV_at (by omega)];rfl,hw.done⟩
theorem vAt_c(h:StAt w L cs pn pc)(r:Int)(hr:r<=9223372036854775807)(hl:L.length<=274877906944):Calls Tryz.prog 54 #[stG L cs gen pn cn pc cc,.int .i64 r] w λ e w'=>e=.returned (nodeV L r).nd.v/\St w [] [] w':=by
 rcases Int.lt_or_le r 1 with h1|h1
 ·exact vAt_no h r h1
 ·obtain⟨k,rfl⟩:∃k:Nat,r=((k+1:Nat):Int):=⟨(r-1).toNat,by omega⟩
  exact vAt_at h (by omega) hl
theorem vCell_no(h:StAt w L cs pn pc)(r:Int)(hr:r<1):Calls Tryz.prog 57 #[stG L cs gen pn cn pc cc,.int .i64 r] w λ e w'=>e=.returned (.int .i64 (cellV cs r))/\St w [] [] w':=by
 refine enter Tryz.func57 Tryz.ntmps57 rfl rfl h.start ?_
 simp only[mkS]
 all_goals (refine J0 ?_;refine j_box (λ x2=>?_);refine J27 ?_;refine J2 ?_;refine J64 ?_)
 all_goals (first|refine j_un ?_|(refine j_yes ?_;refine j_move ?_)|(refine lcs 7 (λ g7=>?_) (λ g7=>?_)<;>(try (exfalso;omega))<;>(first|refine j_un ?_|(refine j_yes ?_;refine j_move ?_))))
 all_goals (refine J43 ?_;refine J22 ?_;refine l_nil ?_)
 all_goals
 refine kif (λ c13=>?_) (λ c13=>?_)
 ·try exact nv c13
  all_goals try (exfalso;omega)
  all_goals refine J10 ?_
  all_goals
   refine k_rv Tryz.results57 (λ w hw=>?_)
   exact⟨by rw[cellV_no (by omega)];rfl,hw.done⟩
 ·try exact nv c13
  all_goals try (exfalso;omega)
  all_goals (refine k_skip ?_;refine J24 ?_;refine j_move ?_;refine j_dec ?_;refine J53 ?_;refine J1 ?_)
  all_goals
   refine k_rv Tryz.results57 (λ w hw=>?_)
   exact⟨by rw[cellV_no (by omega)];rfl,hw.done⟩
theorem vCell_at(h:StAt w L cs pn pc){k:Nat}(hk:(k:Int)<9223372036854775807)(hl:cs.length<=274877906944):Calls Tryz.prog 57 #[stG L cs gen pn cn pc cc,.int .i64 ((k+1:Nat):Int)] w λ e w'=>e=.returned (.int .i64 (cellV cs ((k+1:Nat):Int)))/\St w [] [] w':=by
 refine enter Tryz.func57 Tryz.ntmps57 rfl rfl h.start ?_
 simp only[mkS]
 all_goals (refine J0 ?_;refine j_box (λ x2=>?_);refine J27 ?_;refine J2 ?_;refine J64 ?_)
 all_goals (first|refine j_un ?_|(refine j_yes ?_;refine j_move ?_)|(refine lcs 7 (λ g7=>?_) (λ g7=>?_)<;>(try (exfalso;omega))<;>(first|refine j_un ?_|(refine j_yes ?_;refine j_move ?_))))
 all_goals (refine J43 ?_;refine J22 ?_;refine l_nil ?_)
 all_goals
 refine kif (λ c13=>?_) (λ c13=>?_)
 ·try exact nv c13
  all_goals try (exfalso;omega)
  all_goals refine J10 ?_
  all_goals
   refine k_rv Tryz.results57 (λ w hw=>?_)
   first|exact⟨by rw[cellV_no (by omega)];rfl,hw.done⟩|exact⟨by rw[cellV_at (by omega)];rfl,hw.done⟩
 ·try exact nv c13
  all_goals try (exfalso;omega)
  all_goals (refine k_skip ?_;refine J24 ?_;refine j_move ?_;refine j_dec ?_;refine J53 ?_;refine J1 ?_)
  all_goals
   refine k_rv Tryz.results57 (λ w hw=>?_)
   first|exact⟨by rw[cellV_no (by omega)];rfl,hw.done⟩|exact⟨by rw[cellV_at (by omega)];rfl,hw.done⟩
theorem vCell_c(h:StAt w L cs pn pc)(r:Int)(hr:r<=9223372036854775807)(hl:cs.length<=274877906944):Calls Tryz.prog 57 #[stG L cs gen pn cn pc cc,.int .i64 r] w λ e w'=>e=.returned (.int .i64 (cellV cs r))/\St w [] [] w':=by
 rcases Int.lt_or_le r 1 with h1|h1
 ·exact vCell_no h r h1
 ·obtain⟨k,rfl⟩:∃k:Nat,r=((k+1:Nat):Int):=⟨(r-1).toNat,by omega⟩
  exact vCell_at h (by omega) hl
structure StB(L:List NdV)(cs:List Int):Prop where
 cs:∀c,cellV cs c<=9223372036854775807
 old:∀r,(nodeV L r).nd.old<=9223372036854775807
 new:∀r,(nodeV L r).nd.new<=9223372036854775807
 main:∀r,(nodeV L r).nd.main<=9223372036854775807
 prev:∀r,(nodeV L r).nd.prev<=9223372036854775807
 status:∀r,(nodeV L r).nd.status<=9223372036854775807
 br:∀r,∀b∈(nodeV L r).xs,b<=9223372036854775807
theorem vMain_c(h:StAt w L cs pn pc)(hb:StB L cs)(hl:L.length<=274877906944)(hc:cs.length<=274877906944)(i:Int)(hi:i<=9223372036854775807):Calls Tryz.prog 42 #[stG L cs gen pn cn pc cc,.int .i64 i] w λ e w'=>e=.returned (.tuple #[.int .i64 ((bodyO (L.map NdV.c) cs i).getD 0),.bool (bodyO (L.map NdV.c) cs i).isSome])/\St w [] [] w':=by
 refine enter Tryz.func42 Tryz.ntmps42 rfl rfl h.start ?_
 simp only[mkS]
 simp only[stG]
 all_goals (refine J0 ?_;refine j_box (λ x2=>?_);refine J8 ?_;refine J71 ?_;(refine j_own (cV (hc:=λ w1 hw=>vAt_c (h.of0 hw) i hi hl)) (λ x12=>?_);try (refine l_fact (λ h12=>?_)));refine j_alloc (λ x6=>?_);refine J5 ?_;refine J72 ?_;refine j_neq ?_;refine l_nil ?_)
 all_goals
 refine kif (λ c15=>?_) (λ c15=>?_)
 ·try exact nv c15
  all_goals refine J66 ?_
  all_goals
   refine k_rt Tryz.results42 (λ w hw=>?_)
   refine⟨?_,hw.done⟩
   unfold bodyO bodyQ bodyP bodyM
   simp only[nodeV_c',MainK,NdV.c,Nd.c]
   simp_all
   all_goals rfl
 ·try exact nv c15
  all_goals (refine k_skip ?_;refine J25 ?_;refine J3 ?_;(refine j_own (cV (hc:=λ w1 hw=>vCell_c (h.of0 hw) (nodeV L i).nd.main (hb.main i) hc)) (λ x19=>?_);try (refine l_fact (λ h19=>?_)));refine J27 ?_;refine J71 ?_;(refine j_own (cV (hc:=λ w1 hw=>vAt_c (h.of0 hw) (cellV cs (nodeV L i).nd.main) (hb.cs _) hl)) (λ x22=>?_);try (refine l_fact (λ h22=>?_)));(refine j_own (c0 (V:=.bool) (hc:=λ w1 hw=>main_c _ w1)) (λ x23=>?_);try (refine l_fact (λ h23=>?_)));refine J33 ?_)
  all_goals
   refine kif (λ c24=>?_) (λ c24=>?_)
   ·try exact nv c24
    all_goals refine J66 ?_
    all_goals
    refine k_rt Tryz.results42 (λ w hw=>?_)
    refine⟨?_,hw.done⟩
    unfold bodyO bodyQ bodyP bodyM
    simp only[nodeV_c',MainK,NdV.c,Nd.c]
    simp_all
    all_goals rfl
   ·try exact nv c24
    all_goals (refine J16 ?_;refine k_dp [(0,[]),(1,[]),(2,[]),(3,[0]),(4,[]),(5,[]),(6,[])] ?_;refine r_load ?_;refine r_load ?_;refine r_move ?_;((refine r_own (i:=3) (hq:=(cV (hc:=λ w1 hw=>vAt_c (h.of0 hw) (cellV cs (nodeV L i).nd.main) (hb.cs _) hl))) (h:=λ x28=>?_);try (refine r_fact (λ h28=>?_))));refine r_field ?_;((refine r_own (i:=5) (hq:=(cV (hc:=λ w1 hw=>vCell_c (h.of0 hw) (nodeV L (cellV cs (nodeV L i).nd.main)).nd.prev (hb.prev _) hc))) (h:=λ x30=>?_);try (refine r_fact (λ h30=>?_))));refine J7 ?_;refine J32 ?_;refine J50 ?_)
    all_goals
    refine kif (λ c32=>?_) (λ c32=>?_)
    ·try exact nv c32
     all_goals (refine J2 ?_;refine J8 ?_)
     all_goals
      refine k_rt Tryz.results42 (λ w hw=>?_)
      refine⟨?_,hw.done⟩
      unfold bodyO bodyQ bodyP bodyM
      simp only[nodeV_c',MainK,NdV.c,Nd.c]
      simp_all
      all_goals rfl
    ·try exact nv c32
     all_goals (refine J16 ?_;refine J71 ?_;(refine j_own (cV (hc:=λ w1 hw=>vAt_c (h.of0 hw) (cellV cs (nodeV L (cellV cs (nodeV L i).nd.main)).nd.prev) (hb.cs _) hl)) (λ x36=>?_);try (refine l_fact (λ h36=>?_)));refine j_alloc (λ x9=>?_);refine J5 ?_;refine J24 ?_;refine J50 ?_)
     all_goals
      refine kif (λ c39=>?_) (λ c39=>?_)
      ·try exact nv c39
       all_goals (refine k_region ?_;refine J3 ?_;refine J27 ?_;refine J71 ?_;(refine j_own (cV (hc:=λ w1 hw=>vAt_c (h.of0 hw) _ (by first|exact hb.cs _|exact hb.old _) hl)) (λ x44=>?_);try (refine l_fact (λ h44=>?_)));(refine j_own (c0 (V:=.bool) (hc:=λ w1 hw=>main_c _ w1)) (λ x45=>?_);try (refine l_fact (λ h45=>?_)));refine J33 ?_)
       all_goals
       refine kif (λ c46=>?_) (λ c46=>?_)
       ·try exact nv c46
        all_goals refine J66 ?_
        all_goals
         refine k_rt Tryz.results42 (λ w hw=>?_)
         refine⟨?_,hw.done⟩
         unfold bodyO bodyQ bodyP bodyM
         simp only[nodeV_c',MainK,NdV.c,Nd.c]
         simp_all
         all_goals rfl
       ·try exact nv c46
        all_goals (refine k_skip ?_;refine J2 ?_;refine J8 ?_)
        all_goals
         refine k_rt Tryz.results42 (λ w hw=>?_)
         refine⟨?_,hw.done⟩
         unfold bodyO bodyQ bodyP bodyM
         simp only[nodeV_c',MainK,NdV.c,Nd.c]
         simp_all
         all_goals rfl
      ·try exact nv c39
       all_goals (refine J16 ?_;refine J71 ?_;(refine j_own (cV (hc:=λ w1 hw=>vAt_c (h.of0 hw) _ (by first|exact hb.cs _|exact hb.old _) hl)) (λ x44=>?_);try (refine l_fact (λ h44=>?_)));(refine j_own (c0 (V:=.bool) (hc:=λ w1 hw=>main_c _ w1)) (λ x45=>?_);try (refine l_fact (λ h45=>?_)));refine J33 ?_)
       all_goals
       refine kif (λ c46=>?_) (λ c46=>?_)
       ·try exact nv c46
        all_goals refine J66 ?_
        all_goals
         refine k_rt Tryz.results42 (λ w hw=>?_)
         refine⟨?_,hw.done⟩
         unfold bodyO bodyQ bodyP bodyM
         simp only[nodeV_c',MainK,NdV.c,Nd.c]
         simp_all
         all_goals rfl
       ·try exact nv c46
        all_goals (refine k_skip ?_;refine J2 ?_;refine J8 ?_)
        all_goals
         refine k_rt Tryz.results42 (λ w hw=>?_)
         refine⟨?_,hw.done⟩
         unfold bodyO bodyQ bodyP bodyM
         simp only[nodeV_c',MainK,NdV.c,Nd.c]
         simp_all
         all_goals rfl
end
end Go.Proofs.YtpobgmdalcpomaaGreat

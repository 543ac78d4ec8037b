/- Worlds: what is seen of their tries. -/
import Derived.Test.YtpobgmdalcpomaaGreatWo7
import Derived.Test.YtpobgmdalcpomaaGreatGLe1
import Derived.Test.YtpobgmdalcpomaaGreatGVw6

set_option linter.unusedSimpArgs false
set_option linter.unusedVariables false
namespace Go.Ct
open Go Go.RowKit
open Classical in
theorem nodup_le{α:Type}:∀(l m:List α),l.Nodup->(∀a∈l,a∈m)->l.length<=m.length
 | [],_,_,_=>Nat.zero_le _
 | a::l,m,hn,hs=>by
  have hn:=List.nodup_cons.1 hn
  have ha:=hs a (List.mem_cons_self ..)
  have:=nodup_le l (m.erase a) hn.2 λ b hb=>by
   have hb2:=hs b (List.mem_cons_of_mem _ hb)
   exact(List.mem_erase_of_ne (λ e=>hn.1 (by rw[<- e];exact hb))).2 hb2
  rw[List.length_erase_of_mem ha] at this
  have:=List.length_pos_of_mem ha
  simp only[List.length_cons]
  omega
end Go.Ct
namespace Go.Proofs.YtpobgmdalcpomaaGreat
open Go Go.RowKit Go.Ct
structure Seen(m:Nat)(z:XS)(t:Tri)(r:Int)(l:List Int):Prop where
 root:rootO (z.L.map NdV.c) z.cs t.root=some r
 trav:travO z.L z.cs z.gen t.root=some (r::l)
 nd:(r::l).Nodup
 body:∀j∈r::l,(bodyO (z.L.map NdV.c) z.cs j).isSome=true
 keys:∀p∈col (z.L.map NdV.c) z.cs 12 r,p.1∈keys8
 ord:(col (z.L.map NdV.c) z.cs 12 r).Pairwise λ p q=>lessB (hsK p.1 m) p.1 (hsK q.1 m) q.1=true
 len:(col (z.L.map NdV.c) z.cs 12 r).length<=8
 inl:∀j∈r::l,1<=j/\j<=z.L.length
theorem lessB_irrefl(h:Nat)(k:ByteArray):lessB h k h k=false:=by
 have:com h h=11:=(com_is (l:=11) (by decide) (λ _ _=>rfl) (λ h=>absurd h (by decide))).symm
 unfold lessB
 rw[this,if_neg (by decide)]
 exact sless_irrefl k
theorem seen_ok{m B C E:Nat}{W:Wd}(h:WOk m B C E W){t:Tri}(ht:t∈W.ts):∃r l,Seen m W.z t r l:=by
 obtain⟨σ,hi⟩:=h.wr.inv
 have i0:=hi.inv
 have e1:σ.mm.nodes=W.z.L.map NdV.c:=by rw[hi.mm];rfl
 have e2:σ.mm.cs=W.z.cs:=by rw[hi.mm];rfl
 have e3:σ.mm.gen=W.z.gen:=by rw[hi.mm];rfl
 obtain⟨r,hr,hir⟩:=root_ok i0 (hi.ts t ht)
 have hig:InG σ r [] (σ.nd r).gen:=⟨hir,rfl⟩
 obtain⟨v,hv,hb,hn⟩:=vis_ok i0 12 r [] _ [] hig (by decide) (λ j hj=>nomatch hj)
 obtain⟨hc1,hc2⟩:=col_ok i0 12 r [] _ hig
 have hp:Proper W.z.L W.z.cs W.z.gen:=by have:=i0.prop;rw[e2,e3] at this;exact this.to e1.symm
 rw[e1,e2] at hr hv hc1 hc2
 rw[List.nil_append] at hv
 obtain⟨l,hl⟩:=vis_pre 12 r [] v hv
 rw[List.nil_append] at hl
 subst hl
 have hk:∀p∈col (W.z.L.map NdV.c) W.z.cs 12 r,p.1∈keys8/\H8 m p.1=hsK p.1 m:=λ p hp=>by
  have:=h8_lt rfl (hc1 p hp).2
  exact⟨this.1,this.2.symm⟩
 have hord:(col (W.z.L.map NdV.c) W.z.cs 12 r).Pairwise λ p q=>lessB (hsK p.1 m) p.1 (hsK q.1 m) q.1=true :=
  hc2.imp_of_mem λ{a b} ha hb hab=>by unfold PLt at hab;rwa [(hk a ha).2,(hk b hb).2] at hab
 refine⟨r,l,hr,?_,hn,λ j hj=>?_,λ p hp=>(hk p hp).1,hord,?_,λ j hj=>?_⟩
 ·rw[travO_if hp,hr];exact hv
 ·obtain⟨_,_,_,hbd⟩:=hb j hj
  rw[e1,e2] at hbd;exact hbd
 ·have hnd:((col (W.z.L.map NdV.c) W.z.cs 12 r).map Prod.fst).Nodup:=by
   unfold List.Nodup
   rw[List.pairwise_map]
   exact hord.imp λ{a b} hab e=>by rw[e,lessB_irrefl] at hab;cases hab
  have:=nodup_le _ keys8 hnd λ k hk'=>by
   obtain⟨p,hp,rfl⟩:=List.mem_map.1 hk'
   exact(hk p hp).1
  rw[List.length_map] at this
  exact this
 ·obtain⟨_,_,hk2,_⟩:=hb j hj
  have:=kind_in (N:=σ.mm.nodes) (i:=j) (by have:=hk2;simp only[Kw.nd] at this;rw[this];decide)
  rw[e1,List.length_map] at this
  exact this
theorem rngs_ok{x:XS}(h:x.Ok):Rngs x.L:=λ v hv=>by
 have hb:=h.nd v hv
 have h1:=hb.main
 have h2:=hb.prev
 have h3:=hb.status
 have h4:=h.lc
 have e1:v.c.main=v.nd.main:=rfl
 have e2:v.c.prev=v.nd.prev:=rfl
 have e3:v.c.status=v.nd.status:=rfl
 exact⟨hb.bm,by omega,by omega,by omega⟩
end Go.Proofs.YtpobgmdalcpomaaGreat

/- ViewOrder: the walk. -/
namespace Go.Proofs.YtpobgmdalcpomaaGreat
open Go Go.RowKit Go.Ct
theorem SF.mem4{w0 w:World}{M:List Nat}{H:List (Nat×Obj)}{A F:Fr}{O:List Ow}{a b c:Ow}{L:List NdV}{p:Option Addr}{k:Nat}{T:TypeId}(h:SF w0 M H A F (a::b::⟨p,nvC L,k,T,14⟩::c::O) w):L.length<=k:=h.capV (.tail (.tail .head))
end Go.Proofs.YtpobgmdalcpomaaGreat

/- Views: Root, Main. -/
namespace Go.Proofs.YtpobgmdalcpomaaGreat
open Go Go.RowKit Go.Ct
section
variable{L:List NdV}{cs:List Int}{gen:Int}{pn pc:Option Addr}{cn cc:Nat}{w:World}
open Classical in
noncomputable def inP (L:List NdV) (cs:List Int) (gen:Int) (o:Option Int):Option Int:=if Proper L cs gen then o else none
theorem vRootG_c(h:StAt w L cs pn pc)(hr:Rngs L)(hl:L.length<=274877906944)(hc:cs.length<=274877906944)(hcn:L.length<=cn)(c:Int)(ro:Bool)(hi:c<=9223372036854775807):Calls Tryz.prog 24 #[stG L cs gen pn cn pc cc,.agg ⟨[.int .i64 c,.bool ro]⟩] w λ e w'=>e=.returned (.tuple #[.int .i64 ((inP L cs gen (rootO (L.map NdV.c) cs c)).getD 0),.bool (inP L cs gen (rootO (L.map NdV.c) cs c)).isSome])/\St w [] [] w':=by
 refine enter Tryz.func24 Tryz.ntmps24 rfl rfl h.start ?_
 simp only[mkS]
 simp only[stG]
 all_goals (refine J0 ?_;refine j_box (λ x2=>?_);refine j_box (λ x3=>?_);refine J8 ?_;refine k_seq ?_;refine J25 ?_;(refine j_own (c0 (V:=.bool) (hc:=λ w1 hw=>vProper_c (h.of0 hw) hl hc hcn)) (λ x7=>?_);try (refine l_fact (λ h7=>?_)));refine J33 ?_)
 all_goals
 refine kif (λ c8=>?_) (λ c8=>?_)
 ·try exact nv c8
  all_goals
   have hn:¬Proper L cs gen:=λ hp=>by rw[h7.2 hp] at c8;cases c8
  all_goals refine J66 ?_
  all_goals
   refine k_rt Tryz.results24 (λ w hw=>?_)
   unfold inP
   rw[if_neg hn]
   exact⟨rfl,hw.done⟩
 ·try exact nv c8
  all_goals
   have hp:Proper L cs gen:=h7.1 (by simpa using c8)
  all_goals (refine k_skip ?_;refine J25 ?_;refine j_load ?_;(refine j_own (cV (hc:=λ w1 hw=>vRoot_c (h.of0 hw) (stB_of hp hr hl) hl hc c ro hi)) (λ x11=>?_);try (refine l_fact (λ h11=>?_)));refine J54 ?_;refine J8 ?_)
  all_goals
   refine k_rt Tryz.results24 (λ w hw=>?_)
   unfold inP
   rw[if_pos hp]
   exact⟨rfl,hw.done⟩
theorem vMainG_c(h:StAt w L cs pn pc)(hr:Rngs L)(hl:L.length<=274877906944)(hc:cs.length<=274877906944)(hcn:L.length<=cn)(i:Int)(hi:i<=9223372036854775807):Calls Tryz.prog 18 #[stG L cs gen pn cn pc cc,.int .i64 i] w λ e w'=>e=.returned (.tuple #[.int .i64 ((inP L cs gen (bodyO (L.map NdV.c) cs i)).getD 0),.bool (inP L cs gen (bodyO (L.map NdV.c) cs i)).isSome])/\St w [] [] w':=by
 refine enter Tryz.func18 Tryz.ntmps18 rfl rfl h.start ?_
 simp only[mkS]
 simp only[stG]
 all_goals (refine J0 ?_;refine j_box (λ x2=>?_);refine J8 ?_;refine k_seq ?_;refine J25 ?_;(refine j_own (c0 (V:=.bool) (hc:=λ w1 hw=>vProper_c (h.of0 hw) hl hc hcn)) (λ x7=>?_);try (refine l_fact (λ h7=>?_)));refine J33 ?_)
 all_goals
 refine kif (λ c8=>?_) (λ c8=>?_)
 ·try exact nv c8
  all_goals
   have hn:¬Proper L cs gen:=λ hp=>by rw[h7.2 hp] at c8;cases c8
  all_goals refine J66 ?_
  all_goals
   refine k_rt Tryz.results18 (λ w hw=>?_)
   unfold inP
   rw[if_neg hn]
   exact⟨rfl,hw.done⟩
 ·try exact nv c8
  all_goals
   have hp:Proper L cs gen:=h7.1 (by simpa using c8)
  all_goals (refine k_skip ?_;refine J71 ?_;(refine j_own (cV (hc:=λ w1 hw=>vMain_c (h.of0 hw) (stB_of hp hr hl) hl hc i hi)) (λ x11=>?_);try (refine l_fact (λ h11=>?_)));refine J54 ?_;refine J8 ?_)
  all_goals
   refine k_rt Tryz.results18 (λ w hw=>?_)
   unfold inP
   rw[if_pos hp]
   exact⟨rfl,hw.done⟩
end
end Go.Proofs.YtpobgmdalcpomaaGreat

/- ViewMains: the walk. -/
namespace Go.Proofs.YtpobgmdalcpomaaGreat
open Go Go.RowKit Go.Ct
theorem nd_at{l:List Int}(h:l.Nodup){i j:Nat}(hi:i<j)(hj:j<l.length):l.getD i 0≠l.getD j 0:=by
 rw[List.getD_eq_getElem?_getD,List.getD_eq_getElem?_getD,List.getElem?_eq_getElem hj,List.getElem?_eq_getElem (show i<l.length by omega)]
 exact List.pairwise_iff_getElem.1 h i j (by omega) hj hi
theorem getD_memZ{l:List Int}{k:Nat}(h:k<l.length):l.getD k 0∈l:=by
 rw[List.getD_eq_getElem?_getD,List.getElem?_eq_getElem h];exact List.getElem_mem h
theorem Seen.proper{m:Nat}{z:XS}{t:Tri}{r:Int}{l:List Int}(h:Seen m z t r l):Proper z.L z.cs z.gen:=(travO_some h.trav).1
theorem Seen.root2{m:Nat}{z:XS}{t:Tri}{r:Int}{l:List Int}(h:Seen m z t r l):inP z.L z.cs z.gen (rootO (z.L.map NdV.c) z.cs t.root)=some r:=by unfold inP;rw[if_pos h.proper];exact h.root
theorem Seen.main2{m:Nat}{z:XS}{t:Tri}{r:Int}{l:List Int}(h:Seen m z t r l){j:Int}(hj:j∈r::l):(inP z.L z.cs z.gen (bodyO (z.L.map NdV.c) z.cs j)).isSome=true:=by unfold inP;rw[if_pos h.proper];exact h.body j hj
theorem tup_root{o:Option Int}{r:Int}(h:o=some r):(.tuple #[.int .i64 (o.getD 0),.bool o.isSome]:Value)=.tuple #[.int .i64 r,.bool true]:=by rw[h];rfl
theorem tup_main{o:Option Int}(h:o.isSome=true):(.tuple #[.int .i64 (o.getD 0),.bool o.isSome]:Value)=.tuple #[.int .i64 (o.getD 0),.bool true]:=by rw[h]
set_option maxRecDepth 100000 in
set_option maxHeartbeats 1000000 in
theorem viewMains_c{l:List Int}{a:Option Addr}{c:Nat}{w:World}(ha:Go.Ct.Cl w a (refsC l))(hl:l.length<=17592186043904) :
    Calls Tryz.prog 6 #[.slice a l.length c] w λ e w'=>e=.returned (.bool true)/\St w [] [] w':=by
  refine enter Tryz.func6 Tryz.ntmps6 rfl rfl (SF.s1 ha) ?_
  simp only[mkS]
  all_goals (refine J10 ?_;refine J2 ?_;(refine j_own (cFH (Hc:=λ q:Nat×Nat×Nat×Wd=>wH q.2.2.1 q.1 q.2.1 q.2.2.2) (H1:=λ q=>(q.1,wobj q.2.1 (q.2.2.1:Int) q.2.2.2.pt q.2.2.2.ts.length q.2.2.2.kt q.2.2.2.pe (exB q.2.2.2.ex).length q.2.2.2.ke)::(q.2.1,xM q.2.2.2.z)::exH q.2.1 q.2.2.2.ex) (Fc:=λ q=>famF q.2.2.2.z.L) (F1:=λ q=>famF q.2.2.2.z.L) (Oc:=λ q=>wO q.2.2.2) (O1:=λ q=>⟨q.2.2.2.pt,trC q.2.2.2.ts,q.2.2.2.kt,33,2⟩::⟨q.2.2.2.pe,ptC (exB q.2.2.2.ex),q.2.2.2.ke,86,1⟩::⟨q.2.2.2.z.pn,nvC q.2.2.2.z.L,q.2.2.2.z.cn,59,14⟩::⟨q.2.2.2.z.pc,refsC q.2.2.2.z.cs,q.2.2.2.z.cc,52,1⟩::exO q.2.2.2.ex) (hH1:=λ q=>List.append_nil _) (hF1:=λ q=>List.append_nil _) (hO1:=λ q=>List.append_nil _) (hc:=λ w1 hw=>worlds_c (hw.cl fin) hl)) (λ x15=>?_);try (refine l_fact (λ h15=>?_))))
  all_goals
   have hm:=h15.1
   have hW:=h15.2
   have htl:=hW.tl
   obtain⟨s1,s2,s3⟩:=hW.sz
  all_goals (refine J27 ?_;refine J26 ?_;refine j_len ?_;refine J44 ?_;refine k_block ?_)
  all_goals
   refine k_lp [2,5,6,7,8,9,10,11,12,13,21,22,23,24,25,26,27,28,29,30,31,32,33,34,35,36,37,38,39,40,41,42,43,44,45,46,47,48,49,50,51,52,53,54,55,56,57,58,59,60,61,62,63,64,65,66,67,68,69,70,71,72,73,74,75,76,77,78,79,80,81,82,83,84,85,86,87,88,89,90,91,92,93,94,95,96,97,98,99,100,101,102,103,104] (λ y:Nat=>[(21,.int .i64 ((y:Nat):Int))]) (λ y=>y<=x15.2.2.2.ts.length) (λ y=>(x15.1,wobj x15.2.1 (x15.2.2.1:Int) x15.2.2.2.pt x15.2.2.2.ts.length x15.2.2.2.kt x15.2.2.2.pe (exB x15.2.2.2.ex).length x15.2.2.2.ke)::(x15.2.1,xM x15.2.2.2.z)::exH x15.2.1 x15.2.2.2.ex) (λ y=>famF x15.2.2.2.z.L) (λ y=>⟨x15.2.2.2.pt,trC x15.2.2.2.ts,x15.2.2.2.kt,33,2⟩::⟨x15.2.2.2.pe,ptC (exB x15.2.2.2.ex),x15.2.2.2.ke,86,1⟩::⟨x15.2.2.2.z.pn,nvC x15.2.2.2.z.L,x15.2.2.2.z.cn,59,14⟩::⟨x15.2.2.2.z.pc,refsC x15.2.2.2.z.cs,x15.2.2.2.z.cc,52,1⟩::exO x15.2.2.2.ex) (λ y=>x15.2.2.2.ts.length-y) (0) (Nat.zero_le _) (λ y f hx=>?_) (hw0:=λ w hw=>hw.back (hF:=FSub.all))
   dsimp only[mkU,List.map,List.cons_append,List.nil_append]
   all_goals (refine J0 ?_;refine J47 ?_;refine k_seq ?_)
   all_goals
    refine kif (λ c22=>?_) (λ c22=>?_)
    · try exact nv c22
      all_goals try (exfalso;omega)
      all_goals
       obtain⟨r,il,hs⟩:=seen_ok hW (getD_trm (ts:=x15.2.2.2.ts) (j:=y) (by omega))
       have hr:=hW.root (by decide) (getD_trm (ts:=x15.2.2.2.ts) (j:=y) (by omega))
       have hlen:(List.cons r il).length=il.length+1:=rfl
      all_goals (refine J37 ?_;refine J0 ?_;refine l_quiet (o_ix2 (cs:=trC x15.2.2.2.ts) (k:=y) rf rf sl1 ag1 (.own .head) (by omega) (by rw[trC_length];omega)) rfl ?_;refine l_quiet (o_ldTr (ts:=x15.2.2.2.ts) (q:=y) rf ag1 (.own .head) (by omega)) rfl ?_;refine j_alloc (λ x5=>?_);refine J5 ?_;refine k_seq ?_;refine k_dq [0,1,2,3,4,5,6,7,8,9,10,11,12,13] ?_;refine J14 ?_;refine J4 ?_;refine r_ownQ (i:=6) (hq:=(o_loadPart (k:=3) rf atT ag1 (by simp only[List.drop_zero,List.take_succ_cons,List.take_zero];exact rfl) rfl)) (h:=?_);refine r_load ?_;((refine r_own (i:=8) (hq:=(cF (Fc:=λ x:Option Addr×Nat=>[(x.1,refsC (List.cons r il))]) (F1:=λ x:Option Addr×Nat=>(x.1,refsC (List.cons r il))::famF x15.2.2.2.z.L) (hF1:=λ x=>rfl) (hc:=λ w1 hw=>vInner_ok (h:=hw.stAt (.inr (.inr (.inr ⟨_,.tail _ (.tail _ (.head _)),rfl,rfl⟩))) (.inr (.inr (.inr ⟨_,.tail _ (.tail _ (.tail _ (.head _))),rfl,rfl⟩))) (λ f hf=>.inr (.inr (.inl hf))) hW.z.fit) (rngs_ok hW.z) (by omega) (by omega) (SF.mem4 hw) _ _ hr hs.trav))) (h:=λ x34=>?_);try (refine r_fact (λ h34=>?_))));refine r_move ?_;refine r_extract ?_;refine r_extract ?_;refine J55 ?_;refine k_seq ?_;refine k_dq [0,1,2,3,4,5,6,7,8,9,10,11,12,13] ?_;refine J14 ?_;refine J4 ?_;refine r_ownQ (i:=6) (hq:=(o_loadPart (k:=3) rf atT ag1 (by simp only[List.drop_zero,List.take_succ_cons,List.take_zero];exact rfl) rfl)) (h:=?_);refine r_load ?_;((refine r_own (i:=8) (hq:=(cV (v:=.tuple #[.int .i64 r,.bool true]) (hc:=λ w1 hw=>by rw[<- tup_root hs.root2];exact vRootG_c (hw.stAt (.inr (.inr (.inr ⟨_,.tail _ (.tail _ (.head _)),rfl,rfl⟩))) (.inr (.inr (.inr ⟨_,.tail _ (.tail _ (.tail _ (.head _))),rfl,rfl⟩))) (λ f hf=>.inr (.inr (.inl (List.mem_cons_of_mem _ hf)))) hW.z.fit) (rngs_ok hW.z) (by omega) (by omega) (SF.mem4 hw) _ _ hr))) (h:=λ x46=>?_);try (refine r_fact (λ h46=>?_))));refine r_move ?_;refine r_extract ?_;refine r_extract ?_;refine J55 ?_;refine J32 ?_;refine j_neq ?_;refine j_move ?_)
      all_goals (first|refine j_un ?_|(refine j_yes ?_;refine j_move ?_)|(refine lcs 51 (λ g51=>?_) (λ g51=>?_)<;>(try (exfalso;omega))<;>(first|refine j_un ?_|(refine j_yes ?_;refine j_move ?_))))
      all_goals (refine J31 ?_;refine j_move ?_)
      all_goals (first|refine j_un ?_|(refine j_yes ?_;refine j_move ?_)|(refine lcs 55 (λ g55=>?_) (λ g55=>?_)<;>(try (exfalso;omega))<;>(first|refine j_un ?_|(refine j_yes ?_;refine j_move ?_))))
      all_goals ((first|refine j_un ?_|(refine j_yes ?_;refine j_len ?_));refine J12 ?_;refine j_move ?_)
      all_goals (first|refine j_un ?_|(refine j_yes ?_;refine j_move ?_)|(refine lcs 60 (λ g60=>?_) (λ g60=>?_)<;>(try (exfalso;omega))<;>(first|refine j_un ?_|(refine j_yes ?_;refine j_move ?_))))
      all_goals ((first|refine j_un ?_|(refine j_yes ?_;refine l_quiet (o_indexR (k:=0) (lst:=List.cons r il) rf rf sl1 on1 (.new .head) (by omega) (by omega)) rfl ?_));(first|refine j_un ?_|(refine j_yes ?_;refine l_quiet (o_ld1 (cs:=refsC (List.cons r il)) (q:=0) (v:=.int .i64 r) rf on1 (.new .head) rfl) rfl ?_));(first|refine j_un ?_|(refine j_yes ?_;refine j_move ?_));refine J38 ?_;refine l_nil ?_)
      all_goals
       refine kif (λ c66=>?_) (λ c66=>?_)
       · try exact nv c66
         all_goals try (exfalso;omega)
         all_goals refine J10 ?_
         all_goals
          refine k_rv Tryz.results6 (λ w hw=>?_)
          exact⟨rfl,hw.done⟩
       · try exact nv c66
         all_goals try (exfalso;omega)
         all_goals (refine k_skip ?_;refine J2 ?_;refine j_len ?_;refine J44 ?_;refine k_block ?_)
         all_goals
          refine k_lp [2,10,11,12,13,69,70,71,72,73,74,75,76,77,78,79,80,81,82,83,84,85,86,87,88,89,90,91,92,93,94,95,96,97,98,99,100,101,102,103] (λ z:Nat=>[(69,.int .i64 ((z:Nat):Int))]) (λ z=>z<=(List.cons r il).length) (λ _=>_) (λ _=>(x34.1,refsC (List.cons r il))::famF x15.2.2.2.z.L) (λ _=>_) (λ z=>(List.cons r il).length-z) (0) (Nat.zero_le _) (λ z f hx=>?_) (hw0:=λ w hw=>hw)
          dsimp only[mkU,List.map,List.cons_append,List.nil_append]
          all_goals (refine J0 ?_;refine J47 ?_;refine k_seq ?_)
          all_goals
           refine kif (λ c70=>?_) (λ c70=>?_)
           · try exact nv c70
             all_goals try (exfalso;omega)
             all_goals (refine J37 ?_;refine J2 ?_;refine J27 ?_;refine k_seq ?_;refine k_dq [0,1,2,3,4,5,6,7,8,9,10,11,12,13,14,15,16] ?_;refine J14 ?_;refine J4 ?_;refine r_ownQ (i:=6) (hq:=(o_loadPart (k:=3) rf atT ag1 (by simp only[List.drop_zero,List.take_succ_cons,List.take_zero];exact rfl) rfl)) (h:=?_);refine J17 ?_;refine r_ownQ (i:=9) (hq:=(o_indexR (k:=z) (lst:=List.cons r il) rf rf sl1 on1 (.new .head) (by omega) (by omega))) (h:=?_);refine r_ownQ (i:=10) (hq:=(o_loadR (q:=z) (lst:=List.cons r il) rf on1 (.new .head) (by omega))) (h:=?_);((refine r_own (i:=11) (hq:=(cV (v:=.tuple #[.int .i64 ((inP x15.2.2.2.z.L x15.2.2.2.z.cs x15.2.2.2.z.gen (bodyO (x15.2.2.2.z.L.map NdV.c) x15.2.2.2.z.cs ((List.cons r il).getD z 0))).getD 0),.bool true]) (hc:=λ w1 hw=>by rw[<- tup_main (hs.main2 (getD_memZ (k:=z) (by omega)))];exact vMainG_c (hw.stAt (.inr (.inr (.inr ⟨_,.tail _ (.tail _ (.head _)),rfl,rfl⟩))) (.inr (.inr (.inr ⟨_,.tail _ (.tail _ (.tail _ (.head _))),rfl,rfl⟩))) (λ f hf=>.inr (.inr (.inl (List.mem_cons_of_mem _ hf)))) hW.z.fit) (rngs_ok hW.z) (by omega) (by omega) (SF.mem4 hw) _ (by have:=hs.inl _ (getD_memZ (k:=z) (by omega));omega)))) (h:=λ x84=>?_);try (refine r_fact (λ h84=>?_))));refine r_move ?_;refine r_extract ?_;refine r_extract ?_;refine J55 ?_;refine J2 ?_;refine J33 ?_)
             all_goals
              refine kif (λ c88=>?_) (λ c88=>?_)
              · try exact nv c88
                all_goals try (exfalso;omega)
                all_goals refine J10 ?_
                all_goals
                 refine k_rv Tryz.results6 (λ w hw=>?_)
                 exact⟨rfl,hw.done⟩
              · try exact nv c88
                all_goals try (exfalso;omega)
                all_goals (refine k_skip ?_;refine J69 ?_)
                all_goals
                 refine k_lp [2,13,89,90,91,92,93,94,95,96,97,98,99,100,101,102] (λ u:Nat=>[(13,.int .i64 ((u:Nat):Int))]) (λ u=>u<=z) (λ _=>_) (λ _=>(x34.1,refsC (List.cons r il))::famF x15.2.2.2.z.L) (λ _=>_) (λ u=>z-u) (0) (Nat.zero_le _) (λ u f hx=>?_) (hw0:=λ w hw=>hw)
                 dsimp only[mkU,List.map,List.cons_append,List.nil_append]
                 all_goals (refine J65 ?_;refine J47 ?_)
                 all_goals
                  refine kif (λ c91=>?_) (λ c91=>?_)
                  · try exact nv c91
                    all_goals try (exfalso;omega)
                    all_goals (refine J37 ?_;refine k_seq ?_;refine k_dq [0,1,2,3,4,5,6,7,8] ?_;refine J17 ?_;refine r_ownQ (i:=2) (hq:=(o_indexR (k:=u) (lst:=List.cons r il) rf rf sl1 on1 (.new .head) (by omega) (by omega))) (h:=?_);refine r_ownQ (i:=3) (hq:=(o_loadR (q:=u) (lst:=List.cons r il) rf on1 (.new .head) (by omega))) (h:=?_);refine J17 ?_;refine r_ownQ (i:=6) (hq:=(o_indexR (k:=z) (lst:=List.cons r il) rf rf sl1 on1 (.new .head) (by omega) (by omega))) (h:=?_);refine r_ownQ (i:=7) (hq:=(o_loadR (q:=z) (lst:=List.cons r il) rf on1 (.new .head) (by omega))) (h:=?_);refine r_eql ?_;refine r_fin ?_)
                    all_goals
                     refine kif (λ c102=>?_) (λ c102=>?_)
                     · try exact nv c102
                       all_goals try (exfalso;omega)
                       all_goals
                        exact absurd c102 (nd_at hs.nd (by omega) (by omega))
                     · try exact nv c102
                       all_goals try (exfalso;omega)
                       all_goals (refine J34 ?_;refine J70 ?_)
                       all_goals
                        refine k_rd (u+1) ?_ (hw1:=λ w hw=>hw)
                        · show u+1<=z;omega
                  · try exact nv c91
                    all_goals try (exfalso;omega)
                    all_goals (refine J84 ?_;refine k_region ?_;refine l_quiet (o_addN (m:=z) (n:=1) rf rf (by omega)) rfl ?_;refine J44 ?_)
                    all_goals
                     refine k_rd (z+1) ?_ (hw1:=λ w hw=>hw)
                     · show z+1<=_;omega
           · try exact nv c70
             all_goals try (exfalso;omega)
             all_goals (refine J84 ?_;refine k_region ?_;refine l_quiet (o_addN (m:=y) (n:=1) rf rf (by omega)) rfl ?_;refine J44 ?_)
             all_goals
              refine k_rd (y+1) ?_ (hw1:=λ w hw=>hw.back (hF:=FSub.ofSub λ f hf=>List.mem_cons_of_mem _ hf))
              · show y+1<=_;omega
    · try exact nv c22
      all_goals try (exfalso;omega)
      all_goals (refine k_exit rfl ?_;refine J0 ?_;(refine j_own (cV (hc:=λ w1 hw=>awake9_c w1)) (λ x105=>?_);try (refine l_fact (λ h105=>?_)));refine J1 ?_)
      all_goals
       refine k_rv Tryz.results6 (λ w hw=>?_)
       exact⟨rfl,hw.done⟩
end Go.Proofs.YtpobgmdalcpomaaGreat

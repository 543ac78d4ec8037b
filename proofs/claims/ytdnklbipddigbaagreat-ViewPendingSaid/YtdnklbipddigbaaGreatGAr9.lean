/- Merged. -/
import Derived.Test.YtdnklbipddigbaaGreatGRs0
set_option linter.unusedSimpArgs false
set_option linter.unusedVariables false
namespace Go.Ct
section
theorem valid_mark{n:Nd}{xs:List Int}{ys:List Pr}(h:NdValid n xs ys)(hk:n.kind=1):n.c xs ys=markV.c:=by have e:=ndEq_iff.1 h.1;rw[e];simp[Nd.own,Nd.xsOwn,Nd.ysOwn,hk,Nd.c,NdV.c,markV,Nd.zero]
theorem Proper.all{L L':List NdV}{cs:List Int}{gen:Int}(h:Proper L cs gen)(h2:L'.map NdV.c=(L.drop 2).map NdV.c):(allV L').map NdV.c=L.map NdV.c:=by
 have h0:=h.nodes 0 (by have:=h.two;omega);have h1:=h.nodes 1 (by have:=h.two;omega);have e0:(L.getD 0 NdV.zero).c=markV.c:=valid_mark h0.1 h.m0;have e1:(L.getD 1 NdV.zero).c=markV.c:=valid_mark h1.1 h.m1;have h3:=h.two;match L,h3 with
 | a::b::r,_=>simp only[List.getD_cons_zero,List.getD_cons_succ] at e0 e1;simp only[List.drop_succ_cons,List.drop_zero] at h2;simp only[allV,List.map_cons,h2,e0,e1]
end
end Go.Ct
namespace Go.Proofs.YtdnklbipddigbaaGreat
open Go.RowKit Go.Ct
section
theorem ofNo_c{L:List NdV}{cs:List Int}{gen:Int}{pn pc:Option Addr}{cn cc:Nat}{w:World}(h:StAt w L cs pn pc)(hL:L.length<=274877906944)(hC:cs.length<=274877906944)(hp:¬Proper L cs gen) :
  Calls Tryz.prog 57 #[.agg ⟨[.slice pn L.length cn,.slice pc cs.length cc,.int .i64 gen]⟩] w λ e w'=>e=.returned (.tuple #[.pointer none,.int .i64 1])/\St w [] [] w':=by
 refine enter Tryz.func57 Tryz.ntmps57 rfl rfl h.start ?_;simp only[mkS];refine J0 ?_;refine j_box (λ x1=>?_);refine Kd8 ?_;refine J25 ?_;refine j_ownF (c0 (V:=.bool) (hc:=λ w1 hw=>proper_c ⟨hw.cl (.old .head),hw.cl (.old (.tail .head)),λ f hf=>(hw.old f (List.mem_cons_of_mem _ (List.mem_cons_of_mem _ hf))).1,h.fit⟩ hL hC)) (λ x8 h8=>?_);refine J33 ?_;refine kif (λ c9=>?_) (λ c9=>?_);·refine J66 ?_;refine k_rt Tryz.results57 (λ w hw=>?_);exact⟨rfl,hw.done⟩
 ·exact absurd (h8.1 c9) hp
theorem ofOk_c{L:List NdV}{cs:List Int}{gen:Int}{pn pc:Option Addr}{cn cc:Nat}{w:World}(h:StAt w L cs pn pc)(hL:L.length<=274877906944)(hC:cs.length<=274877906944)(hcn:L.length<=cn)(hp:Proper L cs gen) :
  Calls Tryz.prog 57 #[.agg ⟨[.slice pn L.length cn,.slice pc cs.length cc,.int .i64 gen]⟩] w λ e w'=>∃x:Nat×List NdV×(Option Addr×Nat)×(Option Addr×Nat),e=.returned (.tuple #[.pointer (some ⟨x.1,0,none⟩),.int .i64 0]) /\
   ((allV x.2.1).map NdV.c=L.map NdV.c/\Fits x.2.1)/\SF w [] [(x.1,aO x.2.1 cs gen 0 x.2.2.1.1 x.2.2.1.2 x.2.2.2.1 x.2.2.2.2)] [] (famF x.2.1) (mW x.2.1 cs x.2.2.1.1 x.2.2.1.2 x.2.2.2.1 x.2.2.2.2) w':=by
 have h2L:=hp.two;refine enter Tryz.func57 Tryz.ntmps57 rfl rfl h.start ?_;simp only[mkS];refine J0 ?_;refine j_box (λ x1=>?_);refine Kd8 ?_;refine J25 ?_;refine j_ownF (c0 (V:=.bool) (hc:=λ w1 hw=>proper_c ⟨hw.cl (.old .head),hw.cl (.old (.tail .head)),λ f hf=>(hw.old f (List.mem_cons_of_mem _ (List.mem_cons_of_mem _ hf))).1,h.fit⟩ hL hC)) (λ x8 h8=>?_);refine J33 ?_;refine kif (λ c9=>?_) (λ c9=>?_);·exact absurd hp (λ hp=>by rw[h8.2 hp] at c9;cases c9)
 ·refine J16 ?_;refine k_dp [(0,[]),(1,[]),(3,[]),(4,[]),(2,[4]),(5,[]),(6,[]),(7,[])] ?_;refine J15 ?_;refine J15 ?_;refine r_ownF (i:=2) (hq:=(cFH (Hc:=λ _=>[]) (Fc:=λ _=>[]) (hc:=λ w1 hw=>slCloneR_c (hw.cl fin) hC))) (h:=λ x12 h12=>?_);refine r_build ?_;refine r_box (h:=λ x16=>?_);refine J7 ?_;refine J2 ?_;refine J85 ?_;refine l_quiet (o_subN (n:=2) rf rf (by omega) (by omega)) rfl ?_;refine j_makeSlice (λ x22=>?_);refine J61 ?_;refine J72 ?_;(refine j_own (o_tailV (k:=2) rf rf sl1 (by exact sz_of rfl) (by omega) fin hcn rfl) (λ x27=>?_));refine Kc7 ?_;refine k_lp [6,29,30,31,32,33,34,35,36,37,38,39,40,41,42,43,44] (λ y:List NdV×Option Addr×Nat=>[(29,.int .i64 ((y.1.length:Nat):Int))]) (λ y=>y.1.map NdV.c=((L.drop 2).take y.1.length).map NdV.c/\y.1.length<=L.length-2/\Fits y.1) (λ y=>[(x16,.cells ⟨[.slice y.2.1 y.1.length y.2.2,.slice x12.1 cs.length x12.2,.int .i64 gen,.int .i64 0]⟩ 129 (0,0)),(x1,.cells ⟨[.slice pn L.length cn,.slice pc cs.length cc,.int .i64 gen]⟩ 52 (0,0))]) (λ y=>famF y.1) (λ y=>[⟨y.2.1,nvC y.1,y.2.2,45,14⟩,⟨x12.1,refsC cs,x12.2,28,1⟩]) (λ y=>L.length-2-y.1.length) (([],some ⟨x22,0,none⟩,L.length-2)) (⟨rfl,Nat.zero_le _,λ _ h=>(List.not_mem_nil h).elim⟩) (λ y f hx=>?_) (hw0:=λ w hw=>hw.back);dsimp only[mkU,List.map,List.cons_append,List.nil_append];refine Ke2 ?_;refine kif (λ c30=>?_) (λ c30=>?_)
  ·refine Kf4 ?_;refine l_quiet (o_indexV rf rf sl1 ag1 fin (by omega) (by rw[List.length_drop];omega)) rfl ?_;refine l_quiet (o_loadV rf ag1 fin (by rw[List.length_drop];omega)) rfl ?_;refine j_alloc (λ x6=>?_);refine J5 ?_;refine k_dp [(0,[]),(1,[]),(2,[]),(3,[]),(4,[]),(5,[]),(6,[4]),(7,[4]),(8,[]),(9,[]),(10,[]),(11,[])] ?_;refine J67 ?_;refine r_load ?_;refine r_ownF (i:=6) (hq:=(cF (V:=λ p:Option Addr×Option Addr=>.agg ⟨(((L.drop 2).getD y.1.length NdV.zero).at_ p.1 p.2).nd.cells⟩) (hc:=λ w1 hw=>clone_c (hw.repF (L:=L) (λ f hf=>.inr (.inl (List.mem_cons_of_mem _ (List.mem_cons_of_mem _ (List.mem_cons_of_mem _ hf))))) h.fit (List.mem_of_mem_drop (getD_mem (by rw[List.length_drop];omega)))) (h.fit _ (List.mem_of_mem_drop (getD_mem (by rw[List.length_drop];omega)))).brS (h.fit _ (List.mem_of_mem_drop (getD_mem (by rw[List.length_drop];omega)))).prS))) (h:=λ x39 h39=>?_);refine r_buildSlice (h:=λ x40=>?_);((refine r_own (i:=8) (hq:=(Loud.convOF (o_appV1 (((L.drop 2).getD y.1.length NdV.zero).at_ x39.1 x39.2) rf rf oaT rfl fin en1 rfl sl1 om) co1)) (h:=λ x41=>?_);try (refine r_fact (λ h41=>?_))));refine J88 ?_;refine k_blk ?_;refine Kb6 ?_
   refine k_rd ((y.1++[((L.drop 2).getD y.1.length NdV.zero).at_ x39.1 x39.2],x41.1,x41.2)) ?_ (hw1:=λ w hw=>by
    have h3:=hw.pushF (L:=y.1) (v:=((L.drop 2).getD y.1.length NdV.zero).at_ x39.1 x39.2) (F':=[]) (List.mem_cons_of_mem _ (List.mem_cons_self ..)) (List.mem_cons_of_mem _ (List.mem_cons_of_mem _ (List.mem_cons_self ..))) (λ f hf=>List.mem_cons_of_mem _ (List.mem_cons_of_mem _ (List.mem_cons_of_mem _ hf)))
    have h4:=h3.sub (H':=[_,_]) (by repeat (first|exact List.Sublist.refl _|apply List.Sublist.cons)) FSub.all (List.Sublist.refl _);simpa using h4) (hμ:=by simp only[List.length_append,List.length_cons,List.length_nil];omega)
   ·have hlt:y.1.length<(L.drop 2).length:=by rw[List.length_drop];omega
    refine⟨?_,by simp only[List.length_append,List.length_cons,List.length_nil];omega,λ v hv=>?_⟩;·rw[List.map_append,hx.1,List.length_append,List.length_singleton,List.take_succ_eq_append_getElem hlt,List.map_append,gdg,List.getElem?_eq_getElem hlt];rfl
    ·rcases List.mem_append.1 hv with hv|hv;·exact hx.2.2 v hv
     ·simp only[List.mem_singleton] at hv;subst hv;exact NdV.at_fit (h.fit _ (List.mem_of_mem_drop (getD_mem hlt))) _ _
  ·refine k_exit rfl ?_;refine J2 ?_;refine J8 ?_;refine k_rt Tryz.results57 (λ w hw=>?_);have hlen:y.1.length=L.length-2:=by omega
   refine⟨(x16,y.1,(y.2.1,y.2.2),(x12.1,x12.2)),rfl,⟨hp.all (by rw[hx.1,hlen,List.take_of_length_le (by rw[List.length_drop];omega)]),hx.2.2⟩,?_⟩;exact hw.ret (by repeat (first|exact List.nil_sublist _|apply List.Sublist.cons_cons)) FSub.all (List.Sublist.refl _)
end
end Go.Proofs.YtdnklbipddigbaaGreat
namespace Go.Ct
section
theorem markS_grow{u u':List Bool}{n:Nd}(h:markS (some u) n=some u'):markS (some (u++[false])) n=some (u'++[false]):=by
 simp only[markS] at h ⊢;cases hc:cellK n with
 | none=>rw[hc] at h;simp only[Option.some.injEq] at h;rw[h]
 | some c=>
  rw[hc] at h;simp only at h ⊢;split at h
  ·rename_i hh;simp only[Option.some.injEq] at h;have hlt:(c-1).toNat<u.length:=by omega
   rw[if_pos ⟨hh.1,by simp only[List.length_append,List.length_cons,List.length_nil];omega,by rw[gdg,List.getElem?_append_left hlt,<- gdg];exact hh.2.2⟩,List.set_append_left _ _ hlt,h]
  ·cases h
theorem marks_grow{m:Nat}:∀{L:List NdV} {u:List Bool},marks m L=some u->marks (m+1) L=some (u++[false]):=by
 have key:∀(l:List NdV) (u0:List Bool) (u:List Bool),l.foldl (λ u v=>markS u v.nd) (some u0)=some u->l.foldl (λ u v=>markS u v.nd) (some (u0++[false]))=some (u++[false]):=by
  intro l;induction l with
  | nil=>intro u0 u h;simp only[List.foldl_nil,Option.some.injEq] at h ⊢;rw[h]
  | cons v l ih=>
   intro u0 u h;simp only[List.foldl_cons] at h ⊢;cases hm:markS (some u0) v.nd with
   | none=>
    rw[hm] at h;exfalso;have:∀l:List NdV,l.foldl (λ u v=>markS u v.nd) none=none:=λ l=>by
     induction l with
     | nil=>rfl
     | cons v l ih=>exact ih
    rw[this] at h;cases h
   | some u1=>rw[hm] at h;rw[markS_grow hm];exact ih u1 u h
 intro L u h;have:=key L _ u h;rw[marks,List.replicate_succ',this]
theorem marks_push{m:Nat}{L:List NdV}{v:NdV}:marks m (L++[v])=markS (marks m L) v.nd:=by rw[marks,List.foldl_append];rfl
theorem getD_push{L:List NdV}{v:NdV}{i:Nat}(h:i<L.length+1):(L++[v]).getD i NdV.zero=if i<L.length then L.getD i NdV.zero else v:=by
 rw[gdg];split;·rename_i hi;rw[List.getElem?_append_left hi,<- gdg]
 ·rename_i hi;rw[List.getElem?_append_right (by omega),show i-L.length=0 by omega];rfl
theorem Ins.mono{r:Int}{n m:Nat}(h:Ins r n)(hm:n<=m):Ins r m:=⟨h.1,Int.le_trans h.2 (by omega)⟩
theorem NdOk.mono{gen:Int}{n m:Nat}{v:NdV}(h:NdOk gen n v)(hm:n<=m):NdOk gen m v:=⟨h.1,h.2.1,λ i hi=>(h.2.2.1 i hi).mono hm,h.2.2.2.1.mono hm,h.2.2.2.2.1.mono hm,h.2.2.2.2.2.mono hm⟩
theorem proper_push{L:List NdV}{cs:List Int}{gen init:Int}{v:NdV}(h:Proper L cs gen)(hv:NdOk gen (L.length+1) v)(hi:Ins init L.length){k:Int}(hk:(cellK v.nd=none/\alCs k cs init=cs)∨(cellK v.nd=some ((cs.length+1:Nat):Int)/\alCs k cs init=cs++[init])) :
  Proper (L++[v]) (alCs k cs init) gen:=by
 have hlen:(L++[v]).length=L.length+1:=by simp
 have h2:=h.two;have nodes:∀i,i<(L++[v]).length->NdOk gen (L++[v]).length ((L++[v]).getD i NdV.zero):=λ i hi=>by
  rw[hlen] at hi ⊢;rw[getD_push hi];split;·exact(h.nodes i (by assumption)).mono (by omega)
  ·exact hv
 have k0:((L++[v]).getD 0 NdV.zero).nd.kind=1:=by rw[getD_push (by omega),if_pos (by omega)];exact h.m0
 have k1:((L++[v]).getD 1 NdV.zero).nd.kind=1:=by rw[getD_push (by omega),if_pos (by omega)];exact h.m1
 cases hm:marks cs.length L with
 | none=>exact absurd hm h.marks
 | some u=>
  have hu:=marks_len hm;rcases hk with⟨e1,e2⟩|⟨e1,e2⟩;·rw[e2];refine⟨by omega,h.gen0,k0,k1,λ i hi=>(h.cells i hi).mono (by omega),nodes,?_⟩;rw[marks_push,hm];simp only[markS,e1];exact λ h=>nomatch h
  ·rw[e2];refine⟨by omega,h.gen0,k0,k1,λ i hi'=>?_,nodes,?_⟩
   ·rw[gdg];by_cases hlt:i<cs.length;·rw[List.getElem?_append_left hlt,<- gdg];exact(h.cells i hlt).mono (by omega)
    ·simp only[List.length_append,List.length_cons,List.length_nil] at hi';rw[List.getElem?_append_right (by omega),show i-cs.length=0 by omega];exact hi.mono (by omega)
   ·rw[marks_push,show(cs++[init]).length=cs.length+1 by simp,marks_grow hm];simp only[markS,e1];have e3:(((cs.length+1:Nat):Int)-1).toNat=cs.length:=by omega
    rw[e3,if_pos ⟨by omega,by simp only[List.length_append,List.length_cons,List.length_nil];omega,by rw[gdg,List.getElem?_append_right (by omega),hu,Nat.sub_self];rfl⟩];exact λ h=>nomatch h
structure NdR(n:Nd):Prop where
 bm:∃b:Nat,n.bm=(b:Int)/\b<18446744073709551616
 main:n.main<=9223372036854775807
 prev:n.prev<=9223372036854775807
 status:n.status<=9223372036854775807
def Rngs(L:List NdV):Prop:=∀v∈L,NdR v.nd
end
section
inductive Tr where
 | done (r:Rs)
 | load (c:Int) (k:Int->Tr)
 | cas (c o n:Int) (k:Bool->Tr)
 | alloc (n:Nv) (i:Int) (k:Int->Tr)
 | cell (i:Int) (k:Int->Tr)
 | gen (k:Int->Tr)
 | node (r:Int) (k:Nv->Tr)
 | stuck
structure Mm where
 nodes:List Nv
 cs:List Int
 gen:Int
def Nv.zero:Nv:=NdV.zero.c
def ndAt(L:List Nv)(r:Int):Nv:=if 1<=r/\r<=L.length then L.getD (r-1).toNat Nv.zero else Nv.zero
theorem nodeV_c(L:List NdV)(r:Int):(nodeV L r).c=ndAt (L.map NdV.c) r:=by
 unfold nodeV ndAt;rw[List.length_map];split
 ·rename_i h;have h2:(r-1).toNat<L.length:=by omega
  simp only[gdg,List.getElem?_map,List.getElem?_eq_getElem h2,Option.map_some,Option.getD_some]
 ·rfl
theorem ndAt_app{L N:List Nv}{r:Int}(h:r<=L.length):ndAt (L++N) r=ndAt L r:=by
 unfold ndAt;by_cases h1:1<=r;·rw[if_pos ⟨h1,by simp;omega⟩,if_pos ⟨h1,h⟩,gdg,gdg,List.getElem?_append_left (by omega)]
 ·rw[if_neg (by omega),if_neg (by omega)]
def alNv(n:Nv)(c:Nat):Nv:={n with main:=if n.kind=2 then((c+1:Nat):Int) else 0,prev:=if n.kind=3∨n.kind=5∨n.kind=6 then((c+1:Nat):Int) else 0,status:=if n.kind=8 then((c+1:Nat):Int) else 0}
def Mm.push(s:Mm)(n:Nv)(i:Int):Mm:=⟨s.nodes++[alNv n s.cs.length],alCs n.kind s.cs i,s.gen⟩
inductive Sp:Tr->Mm->Tr->Mm->Prop where
 | alloc (n i k s):Sp (.alloc n i k) s (k ((s.nodes.length+1:Nat):Int)) (s.push n i)
 | cell (i k s):Sp (.cell i k) s (k ((s.cs.length+1:Nat):Int)) ⟨s.nodes,s.cs++[i],s.gen⟩
 | gen (k s):Sp (.gen k) s (k (s.gen+1)) ⟨s.nodes,s.cs,s.gen+1⟩
 | node (r:Int) (k s) (h:r<=s.nodes.length):Sp (.node r k) s (k (ndAt s.nodes r)) s
inductive Lp:Tr->Mm->Tr->Mm->Prop where
 | load (c k s):Lp (.load c k) s (k (cellV s.cs c)) s
 | cas (c o n k s) (b:Bool) (hb:b=true↔CasOk s.cs c o):Lp (.cas c o n k) s (k b) ⟨s.nodes,casL s.cs c o n,s.gen⟩
inductive Rc:Nat->Tr->Mm->Tr->Mm->Prop where
 | refl (t s):Rc 0 t s t s
 | sil {j t s t1 s1 t2 s2}:Rc j t s t1 s1->Sp t1 s1 t2 s2->Rc j t s t2 s2
 | loud {j t s t1 s1 t2 s2}:Rc j t s t1 s1->Lp t1 s1 t2 s2->Rc (j+1) t s t2 s2
inductive Wk(L:List Nv):Tr->List Int->List Int->List Int->List Int->Tr->Prop where
 | nil (t):Wk L t [] [] [] [] t
 | load {c k v gs ms cl gn R}:Wk L (k v) gs ms cl gn R->Wk L (.load c k) (v::gs) ms cl gn R
 | cas {c o n k v gs ms cl gn R}:Wk L (k (v==1)) gs ms cl gn R->Wk L (.cas c o n k) (v::gs) ms cl gn R
 | alloc {n i k r gs ms cl gn R}:Wk L (k r) gs ms cl gn R->Wk L (.alloc n i k) gs (r::ms) cl gn R
 | cell {i k r gs ms cl gn R}:Wk L (k r) gs ms cl gn R->Wk L (.cell i k) gs ms (r::cl) gn R
 | gen {k r gs ms cl gn R}:Wk L (k r) gs ms cl gn R->Wk L (.gen k) gs ms cl (r::gn) R
 | node {r:Int} {k gs ms cl gn R}:r<=L.length->Wk L (k (ndAt L r)) gs ms cl gn R->Wk L (.node r k) gs ms cl gn R
theorem Wk.mono{L N:List Nv}{t R:Tr}{gs ms cl gn:List Int}(h:Wk L t gs ms cl gn R):Wk (L++N) t gs ms cl gn R:=by
 induction h with
 | nil t=>exact .nil t
 | load _ ih=>exact .load ih
 | cas _ ih=>exact .cas ih
 | alloc _ ih=>exact .alloc ih
 | cell _ ih=>exact .cell ih
 | gen _ ih=>exact .gen ih
 | node h _ ih=>exact .node (by simp;omega) (by rw[ndAt_app h];exact ih)
theorem Wk.trans{L:List Nv}{t t1 R:Tr}{gs ms cl gn gs' ms' cl' gn':List Int}(h:Wk L t gs ms cl gn t1)(h2:Wk L t1 gs' ms' cl' gn' R):Wk L t (gs++gs') (ms++ms') (cl++cl') (gn++gn') R:=by
 induction h with
 | nil t=>exact h2
 | load _ ih=>exact .load (ih h2)
 | cas _ ih=>exact .cas (ih h2)
 | alloc _ ih=>exact .alloc (ih h2)
 | cell _ ih=>exact .cell (ih h2)
 | gen _ ih=>exact .gen (ih h2)
 | node h _ ih=>exact .node h (ih h2)
def Tame:Tr->Nat->Nat->Prop
 | .done _,_,_=>True
 | .stuck,_,_=>False
 | .load _ _,0,_=>True
 | .load _ k,n+1,_=>∀v,Tame (k v) n 64
 | .cas _ _ _ _,0,_=>True
 | .cas _ _ _ k,n+1,_=>∀v,Tame (k v) n 64
 | .alloc _ _ _,_,0=>False
 | .alloc _ _ k,n,c+1=>∀v,Tame (k v) n c
 | .cell _ _,_,0=>False
 | .cell _ k,n,c+1=>∀v,Tame (k v) n c
 | .gen _,_,0=>False
 | .gen k,n,c+1=>∀v,Tame (k v) n c
 | .node _ k,n,c=>∀v,Tame (k v) n c
theorem Wk.tame{L:List Nv}{t R:Tr}{gs ms cl gn:List Int}(h:Wk L t gs ms cl gn R):∀{n c:Nat},c<=64->Tame t n c->gs.length<=n->∃c',Tame R (n-gs.length) c'/\c'<=64/\ms.length+cl.length+gn.length+c'<=c+64*gs.length:=by
 induction h with
 | nil t=>intro n c hc ht _;exact⟨c,ht,hc,by simp⟩
 | load _ ih=>
  intro n c hc ht hn;cases n with
  | zero=>simp at hn
  | succ n=>obtain⟨c',h1,h2,h3⟩:=ih (Nat.le_refl 64) (ht _) (by simpa using hn);exact⟨c',by simpa using h1,h2,by simp only[List.length_cons];omega⟩
 | cas _ ih=>
  intro n c hc ht hn;cases n with
  | zero=>simp at hn
  | succ n=>obtain⟨c',h1,h2,h3⟩:=ih (Nat.le_refl 64) (ht _) (by simpa using hn);exact⟨c',by simpa using h1,h2,by simp only[List.length_cons];omega⟩
 | alloc _ ih=>
  intro n c hc ht hn;cases c with
  | zero=>exact ht.elim
  | succ c=>obtain⟨c',h1,h2,h3⟩:=ih (by omega) (ht _) hn;exact⟨c',h1,h2,by simp only[List.length_cons];omega⟩
 | cell _ ih=>
  intro n c hc ht hn;cases c with
  | zero=>exact ht.elim
  | succ c=>obtain⟨c',h1,h2,h3⟩:=ih (by omega) (ht _) hn;exact⟨c',h1,h2,by simp only[List.length_cons];omega⟩
 | gen _ ih=>
  intro n c hc ht hn;cases c with
  | zero=>exact ht.elim
  | succ c=>obtain⟨c',h1,h2,h3⟩:=ih (by omega) (ht _) hn;exact⟨c',h1,h2,by simp only[List.length_cons];omega⟩
 | node _ _ ih=>intro n c hc ht hn;exact ih hc (ht _) hn
theorem Rc.tame{j:Nat}{t t':Tr}{s s':Mm}(h:Rc j t s t' s'):∀{n c:Nat},c<=64->Tame t n c->j<=n->∃c',Tame t' (n-j) c'/\c'<=64/\s.nodes.length<=s'.nodes.length/\s'.nodes.length+c'<=s.nodes.length+c+64*j/\s'.cs.length+c'<=s.cs.length+c+64*j/\s'.gen+c'<=s.gen+c+64*j:=by
 induction h with
 | refl t s=>intro n c hc ht _;exact⟨c,ht,hc,by omega,by omega,by omega,by omega⟩
 | @sil j t s t1 s1 t2 s2 _ hs ih=>
  intro n c hc ht hn;obtain⟨c',h1,h2,h3,h4,h5,h6⟩:=ih hc ht hn;cases hs with
  | alloc nn i k s=>
   cases c' with
   | zero=>exact h1.elim
   | succ c'=>have hl:=alCs_length (k:=nn.kind) (cs:=s1.cs) (init:=i);exact⟨c',h1 _,by omega,by simp[Mm.push];omega,by simp[Mm.push];omega,by simp only[Mm.push];omega,by simp only[Mm.push];omega⟩
  | cell i k s=>
   cases c' with
   | zero=>exact h1.elim
   | succ c'=>exact⟨c',h1 _,by omega,by simpa using h3,by simp;omega,by simp;omega,by simp;omega⟩
  | gen k s=>
   cases c' with
   | zero=>exact h1.elim
   | succ c'=>exact⟨c',h1 _,by omega,by simpa using h3,by simp;omega,by simp;omega,by simp;omega⟩
  | node r k s h=>exact⟨c',h1 _,h2,h3,h4,h5,h6⟩
 | loud _ hs ih=>
  intro n c hc ht hn;obtain⟨c',h1,h2,h3,h4,h5,h6⟩:=ih hc ht (by omega);rename_i j _ _ _ _ _ _ _;obtain⟨d,hd⟩:∃d,n-j=d+1:=⟨n-j-1,by omega⟩;rw[hd] at h1;have e:n-(j+1)=d:=by omega
  rw[e];cases hs with
  | load c k s=>exact⟨64,h1 _,Nat.le_refl _,h3,by omega,by omega,by omega⟩
  | cas c o nn k s b hb=>exact⟨64,h1 _,Nat.le_refl _,h3,by simp only;omega,by simp only[casL_length];omega,by simp only;omega⟩
end
end Go.Ct

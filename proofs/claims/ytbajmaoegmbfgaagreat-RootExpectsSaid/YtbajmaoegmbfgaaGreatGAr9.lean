/- An arena with a state. -/
import Derived.Test.YtbajmaoegmbfgaaGreatGNode4
import Derived.Test.YtbajmaoegmbfgaaGreatGAr2

set_option linter.unusedSimpArgs false
set_option linter.unusedVariables false
namespace Go.Ct
section
theorem Hh{n:Nd}{xs:List Int}{ys:List Pr}(h:cA n xs ys)(hk:n.kind=1):n.c xs ys=eU.c:=by
 have e:=Au.1 h.1
 rw[e]
 simp[Nd.own,Nd.jP,Nd.iT,hk,Nd.c,aU.c,eU,Nd.zero]
theorem iO.all{L L':List aU}{cs:List Int}{gen:Int}(h:iO L cs gen)(h2:L'.map aU.c=(L.drop 2).map aU.c):(dJ L').map aU.c=L.map aU.c:=by
 have h0:=h.nodes 0 (by have:=h.two;omega)
 have h1:=h.nodes 1 (by have:=h.two;omega)
 have e0:(L.getD 0 aU.zero).c=eU.c:=Hh h0.1 h.m0
 have e1:(L.getD 1 aU.zero).c=eU.c:=Hh h1.1 h.m1
 have h3:=h.two
 match L,h3 with
 | a::b::r,_ =>
  simp only[List.getD_cons_zero,List.getD_cons_succ] at e0 e1
  simp only[List.drop_succ_cons,List.drop_zero] at h2
  simp only[dJ,List.map_cons,h2,e0,e1]
end
end Go.Ct
namespace Go.Proofs.YtbajmaoegmbfgaaGreat
section
open Go.RowKit Go.Ct
theorem aBP{L:List aU}{cs:List Int}{gen:Int}{pn pc:Option Addr}{cn cc:Nat}{w:World}(h:rU w L cs pn pc)(hL:L.length<=274877906944)(hC:cs.length<=274877906944)(hp:¬iO L cs gen) :
  Calls Tryz.prog 71 #[.agg ⟨[.slice pn L.length cn,.slice pc cs.length cc,.int .i64 gen]⟩] w λ e w'=>e=.returned (.tuple #[.pointer none,.int .i64 1])/\St w [] [] w':=by
 refine enter Tryz.func71 Tryz.ntmps71 rfl rfl h.start ?_
 simp only[cD]
 refine J0 ?_;refine bO (λ x1=>?_);refine J8 ?_;refine aR ?_;refine oI ?_;refine aD (c0 (V:=.bool) (hc:=λ w1 hw=>Pc ⟨hw.cl (.aZ .head),hw.cl (.aZ (.tail .head)),λ f hf=>(hw.aZ f (List.mem_cons_of_mem _ (List.mem_cons_of_mem _ hf))).1,h.fit⟩ hL hC)) (λ x8 h8=>?_);refine pD ?_
 refine bC (λ c9=>?_) (λ c9=>?_)
 ·refine Na ?_
  refine bA Tryz.results71 (λ w hw=>?_)
  exact⟨rfl,hw.done⟩
 ·exact absurd (h8.1 c9) hp
theorem dw{L:List aU}{cs:List Int}{gen:Int}{pn pc:Option Addr}{cn cc:Nat}{w:World}(h:rU w L cs pn pc)(hL:L.length<=274877906944)(hC:cs.length<=274877906944)(hcn:L.length<=cn)(hp:iO L cs gen) :
  Calls Tryz.prog 71 #[.agg ⟨[.slice pn L.length cn,.slice pc cs.length cc,.int .i64 gen]⟩] w λ e w'=>∃x:Nat×List aU×(Option Addr×Nat)×(Option Addr×Nat),e=.returned (.tuple #[.pointer (some ⟨x.1,0,none⟩),.int .i64 0]) /\
   ((dJ x.2.1).map aU.c=L.map aU.c/\Fits x.2.1)/\SF w [] [(x.1,aO x.2.1 cs gen 0 x.2.2.1.1 x.2.2.1.2 x.2.2.2.1 x.2.2.2.2)] [] (aL x.2.1) (mW x.2.1 cs x.2.2.1.1 x.2.2.1.2 x.2.2.2.1 x.2.2.2.2) w':=by
 have h2L:=hp.two
 refine enter Tryz.func71 Tryz.ntmps71 rfl rfl h.start ?_
 simp only[cD]
 refine J0 ?_;refine bO (λ x1=>?_);refine J8 ?_;refine aR ?_;refine oI ?_;refine aD (c0 (V:=.bool) (hc:=λ w1 hw=>Pc ⟨hw.cl (.aZ .head),hw.cl (.aZ (.tail .head)),λ f hf=>(hw.aZ f (List.mem_cons_of_mem _ (List.mem_cons_of_mem _ hf))).1,h.fit⟩ hL hC)) (λ x8 h8=>?_);refine pD ?_
 refine bC (λ c9=>?_) (λ c9=>?_)
 ·exact absurd hp (λ hp=>by rw[h8.2 hp] at c9;cases c9)
 ·refine lI ?_;refine eM [(0,[]),(1,[]),(3,[]),(4,[]),(2,[4]),(5,[]),(6,[]),(7,[])] ?_;refine oW ?_;refine oW ?_;refine bG (i:=2) (hq:=(Zf (Hc:=λ _=>[]) (Fc:=λ _=>[]) (hc:=λ w1 hw=>Rv (hw.cl fin) hC))) (h:=λ x12 h12=>?_);refine lZ ?_;refine aAF (h:=λ x16=>?_);refine J7 ?_;refine J2 ?_;refine P6 ?_;refine aB (jA (n:=2) rf rf (by omega) (by omega)) rfl ?_;refine uW (λ x22=>?_);refine K8 ?_;refine Ds ?_;(refine aM (q9 (k:=2) rf rf gQ (by exact uA rfl) (by omega) fin hcn rfl) (λ x27=>?_));refine dY ?_;refine Lw ?_;refine cY ?_
  refine oJ [6,29,30,31,32,33,34,35,36,37,38,39,40,41,42,43,44] (λ y:List aU×Option Addr×Nat=>[(29,.int .i64 ((y.1.length:Nat):Int))]) (λ y=>y.1.map aU.c=((L.drop 2).take y.1.length).map aU.c/\y.1.length<=L.length-2/\Fits y.1) (λ y=>[(x16,.cells ⟨[.slice y.2.1 y.1.length y.2.2,.slice x12.1 cs.length x12.2,.int .i64 gen,.int .i64 0]⟩ 139 (0,0)),(x1,.cells ⟨[.slice pn L.length cn,.slice pc cs.length cc,.int .i64 gen]⟩ 52 (0,0))]) (λ y=>aL y.1) (λ y=>[⟨y.2.1,iR y.1,y.2.2,47,14⟩,⟨x12.1,aH cs,x12.2,37,1⟩]) (λ y=>L.length-2-y.1.length) (([],some ⟨x22,0,none⟩,L.length-2)) (⟨rfl,Nat.zero_le _,λ _ h=>(List.not_mem_nil h).elim⟩) (λ y f hx=>?_) (hw0:=λ w hw=>hw.back)
  dsimp only[gZ,List.map,List.cons_append,List.nil_append]
  refine J0 ?_;refine C5 ?_;refine aR ?_
  refine bC (λ c30=>?_) (λ c30=>?_)
  ·refine tB ?_;refine J0 ?_;refine aB (rX rf rf gQ eH fin (by omega) (by rw[List.length_drop];omega)) rfl ?_;refine aB (U0 rf eH fin (by rw[List.length_drop];omega)) rfl ?_;refine aJ (λ x6=>?_);refine J5 ?_;refine eM [(0,[]),(1,[]),(2,[]),(3,[]),(4,[]),(5,[]),(6,[4]),(7,[4]),(8,[]),(9,[]),(10,[]),(11,[])] ?_;refine Vn ?_;refine bY ?_;refine bG (i:=6) (hq:=(cF (V:=λ p:Option Addr×Option Addr=>.agg ⟨(((L.drop 2).getD y.1.length aU.zero).at_ p.1 p.2).nd.cells⟩) (hc:=λ w1 hw=>Ul (hw.aBF (L:=L) (λ f hf=>.inr (.inl (List.mem_cons_of_mem _ (List.mem_cons_of_mem _ (List.mem_cons_of_mem _ hf))))) h.fit (List.mem_of_mem_drop (fX (by rw[List.length_drop];omega)))) (h.fit _ (List.mem_of_mem_drop (fX (by rw[List.length_drop];omega)))).brS (h.fit _ (List.mem_of_mem_drop (fX (by rw[List.length_drop];omega)))).prS))) (h:=λ x39 h39=>?_);refine cJ (h:=λ x40=>?_);((refine dB (i:=8) (hq:=(bD.eT (oo (((L.drop 2).getD y.1.length aU.zero).at_ x39.1 x39.2) rf rf Aq rfl fin Su rfl gQ om) xC)) (h:=λ x41=>?_);try (refine fH (λ h41=>?_))));refine zn ?_;refine fG ?_;refine ki ?_;refine Lw ?_
   refine iJ ((y.1++[((L.drop 2).getD y.1.length aU.zero).at_ x39.1 x39.2],x41.1,x41.2)) ?_ (hw1:=λ w hw=>by
    have h3:=hw.aAm (L:=y.1) (v:=((L.drop 2).getD y.1.length aU.zero).at_ x39.1 x39.2) (F':=[]) (List.mem_cons_of_mem _ (List.mem_cons_self ..)) (List.mem_cons_of_mem _ (List.mem_cons_of_mem _ (List.mem_cons_self ..))) (λ f hf=>List.mem_cons_of_mem _ (List.mem_cons_of_mem _ (List.mem_cons_of_mem _ hf)))
    have h4:=h3.sub (H':=[_,_]) (by repeat (first|exact List.Sublist.refl _|apply List.Sublist.cons)) aY.all (List.Sublist.refl _)
    simpa using h4) (hμ:=by simp only[List.length_append,List.length_cons,List.length_nil];omega)
   ·have hlt:y.1.length<(L.drop 2).length:=by rw[List.length_drop];omega
    refine⟨?_,by simp only[List.length_append,List.length_cons,List.length_nil];omega,λ v hv=>?_⟩
    ·rw[List.map_append,hx.1,List.length_append,List.length_singleton,List.take_succ_eq_append_getElem hlt,List.map_append,jK,List.getElem?_eq_getElem hlt]
     rfl
    ·rcases List.mem_append.1 hv with hv|hv
     ·exact hx.2.2 v hv
     ·simp only[List.mem_singleton] at hv
      subst hv
      exact aU.yf (h.fit _ (List.mem_of_mem_drop (fX hlt))) _ _
  ·refine bS rfl ?_;refine J2 ?_;refine J8 ?_
   refine bA Tryz.results71 (λ w hw=>?_)
   have hlen:y.1.length=L.length-2:=by omega
   refine⟨(x16,y.1,(y.2.1,y.2.2),(x12.1,x12.2)),rfl,⟨hp.all (by rw[hx.1,hlen,List.take_of_length_le (by rw[List.length_drop];omega)]),hx.2.2⟩,?_⟩
   exact hw.ret (by repeat (first|exact List.nil_sublist _|apply List.Sublist.cons_cons)) aY.all (List.Sublist.refl _)
end

/- Proper states: a node more. -/
end Go.Proofs.YtbajmaoegmbfgaaGreat
namespace Go.Ct
section
theorem Qq{u u':List Bool}{n:Nd}(h:eG (some u) n=some u'):eG (some (u++[false])) n=some (u'++[false]):=by
 simp only[eG] at h ⊢
 cases hc:fM n with
 | none=>rw[hc] at h;simp only[Option.some.injEq] at h;rw[h]
 | some c =>
  rw[hc] at h
  simp only at h ⊢
  split at h
  ·rename_i hh
   simp only[Option.some.injEq] at h
   have hlt:(c-1).toNat<u.length:=by omega
   rw[if_pos ⟨hh.1,by simp only[List.length_append,List.length_cons,List.length_nil];omega,by rw[jK,List.getElem?_append_left hlt,<- jK];exact hh.2.2⟩,List.set_append_left _ _ hlt,h]
  ·cases h
theorem Sy{m:Nat}:∀{L:List aU} {u:List Bool},marks m L=some u->marks (m+1) L=some (u++[false]):=by
 have key:∀(l:List aU) (u0:List Bool) (u:List Bool),l.foldl (λ u v=>eG u v.nd) (some u0)=some u->l.foldl (λ u v=>eG u v.nd) (some (u0++[false]))=some (u++[false]):=by
  intro l
  induction l with
  | nil=>intro u0 u h;simp only[List.foldl_nil,Option.some.injEq] at h ⊢;rw[h]
  | cons v l ih =>
   intro u0 u h
   simp only[List.foldl_cons] at h ⊢
   cases hm:eG (some u0) v.nd with
   | none =>
    rw[hm] at h
    exfalso
    have:∀l:List aU,l.foldl (λ u v=>eG u v.nd) none=none:=λ l=>by
     induction l with
     | nil=>rfl
     | cons v l ih=>exact ih
    rw[this] at h
    cases h
   | some u1 =>
    rw[hm] at h
    rw[Qq hm]
    exact ih u1 u h
 intro L u h
 have:=key L _ u h
 rw[marks,List.replicate_succ',this]
theorem Es{m:Nat}{L:List aU}{v:aU}:marks m (L++[v])=eG (marks m L) v.nd:=by rw[marks,List.foldl_append];rfl
theorem A7{L:List aU}{v:aU}{i:Nat}(h:i<L.length+1):(L++[v]).getD i aU.zero=if i<L.length then L.getD i aU.zero else v:=by
 rw[jK]
 split
 ·rename_i hi
  rw[List.getElem?_append_left hi,<- jK]
 ·rename_i hi
  rw[List.getElem?_append_right (by omega),show i-L.length=0 by omega]
  rfl
theorem Db.mono{r:Int}{n m:Nat}(h:Db r n)(hm:n<=m):Db r m:=⟨h.1,Int.le_trans h.2 (by omega)⟩
theorem mF.mono{gen:Int}{n m:Nat}{v:aU}(h:mF gen n v)(hm:n<=m):mF gen m v:=⟨h.1,h.2.1,λ i hi=>(h.2.2.1 i hi).mono hm,h.2.2.2.1.mono hm,h.2.2.2.2.1.mono hm,h.2.2.2.2.2.mono hm⟩
theorem P4{L:List aU}{cs:List Int}{gen init:Int}{v:aU}(h:iO L cs gen)(hv:mF gen (L.length+1) v)(hi:Db init L.length){k:Int}(hk:(fM v.nd=none/\eQ k cs init=cs)∨(fM v.nd=some ((cs.length+1:Nat):Int)/\eQ k cs init=cs++[init])) :
  iO (L++[v]) (eQ k cs init) gen:=by
 have hlen:(L++[v]).length=L.length+1:=by simp
 have h2:=h.two
 have nodes:∀i,i<(L++[v]).length->mF gen (L++[v]).length ((L++[v]).getD i aU.zero):=λ i hi=>by
  rw[hlen] at hi ⊢
  rw[A7 hi]
  split
  ·exact(h.nodes i (by assumption)).mono (by omega)
  ·exact hv
 have k0:((L++[v]).getD 0 aU.zero).nd.kind=1:=by rw[A7 (by omega),if_pos (by omega)];exact h.m0
 have k1:((L++[v]).getD 1 aU.zero).nd.kind=1:=by rw[A7 (by omega),if_pos (by omega)];exact h.m1
 cases hm:marks cs.length L with
 | none=>exact absurd hm h.marks
 | some u =>
  have hu:=Bm hm
  rcases hk with⟨e1,e2⟩|⟨e1,e2⟩
  ·rw[e2]
   refine⟨by omega,h.gen0,k0,k1,λ i hi=>(h.cells i hi).mono (by omega),nodes,?_⟩
   rw[Es,hm]
   simp only[eG,e1]
   exact λ h=>nomatch h
  ·rw[e2]
   refine⟨by omega,h.gen0,k0,k1,λ i hi'=>?_,nodes,?_⟩
   ·rw[jK]
    by_cases hlt:i<cs.length
    ·rw[List.getElem?_append_left hlt,<- jK]
     exact(h.cells i hlt).mono (by omega)
    ·simp only[List.length_append,List.length_cons,List.length_nil] at hi'
     rw[List.getElem?_append_right (by omega),show i-cs.length=0 by omega]
     exact hi.mono (by omega)
   ·rw[Es,show(cs++[init]).length=cs.length+1 by simp,Sy hm]
    simp only[eG,e1]
    have e3:(((cs.length+1:Nat):Int)-1).toNat=cs.length:=by omega
    rw[e3,if_pos ⟨by omega,by simp only[List.length_append,List.length_cons,List.length_nil];omega,by rw[jK,List.getElem?_append_right (by omega),hu,Nat.sub_self];rfl⟩]
    exact λ h=>nomatch h
structure NdR(n:Nd):Prop where
 bm:∃b:Nat,n.bm=(b:Int)/\b<18446744073709551616
 main:n.main<=9223372036854775807
 prev:n.prev<=9223372036854775807
 status:n.status<=9223372036854775807
def Vm(L:List aU):Prop:=∀v∈L,NdR v.nd
end

/- Procedures as trees; what an execution of the reference remembers of one. -/
section
inductive Tr where
 | done (r:Rs)
 | load (c:Int) (k:Int->Tr)
 | iS (c o n:Int) (k:Bool->Tr)
 | alloc (n:Nv) (i:Int) (k:Int->Tr)
 | cell (i:Int) (k:Int->Tr)
 | gen (k:Int->Tr)
 | node (r:Int) (k:Nv->Tr)
 | stuck
structure Mm where
 nodes:List Nv
 cs:List Int
 gen:Int
def Nv.zero:Nv:=aU.zero.c
def bF(L:List Nv)(r:Int):Nv:=if 1<=r/\r<=L.length then L.getD (r-1).toNat Nv.zero else Nv.zero
theorem D4(L:List aU)(r:Int):(aC L r).c=bF (L.map aU.c) r:=by
 unfold aC bF
 rw[List.length_map]
 split
 ·rename_i h
  have h2:(r-1).toNat<L.length:=by omega
  simp only[jK,List.getElem?_map,List.getElem?_eq_getElem h2,Option.map_some,Option.getD_some]
 ·rfl
theorem sC{L N:List Nv}{r:Int}(h:r<=L.length):bF (L++N) r=bF L r:=by
 unfold bF
 by_cases h1:1<=r
 ·rw[if_pos ⟨h1,by simp;omega⟩,if_pos ⟨h1,h⟩,jK,jK,List.getElem?_append_left (by omega)]
 ·rw[if_neg (by omega),if_neg (by omega)]
def cW(n:Nv)(c:Nat):Nv:={n with main:=if n.kind=2 then((c+1:Nat):Int) else 0,prev:=if n.kind=3∨n.kind=5∨n.kind=6 then((c+1:Nat):Int) else 0,status:=if n.kind=8 then((c+1:Nat):Int) else 0}
def Mm.push(s:Mm)(n:Nv)(i:Int):Mm:=⟨s.nodes++[cW n s.cs.length],eQ n.kind s.cs i,s.gen⟩
inductive Sp:Tr->Mm->Tr->Mm->Prop where
 | alloc (n i k s):Sp (.alloc n i k) s (k ((s.nodes.length+1:Nat):Int)) (s.push n i)
 | cell (i k s):Sp (.cell i k) s (k ((s.cs.length+1:Nat):Int)) ⟨s.nodes,s.cs++[i],s.gen⟩
 | gen (k s):Sp (.gen k) s (k (s.gen+1)) ⟨s.nodes,s.cs,s.gen+1⟩
 | node (r:Int) (k s) (h:r<=s.nodes.length):Sp (.node r k) s (k (bF s.nodes r)) s
inductive Lp:Tr->Mm->Tr->Mm->Prop where
 | load (c k s):Lp (.load c k) s (k (aQ s.cs c)) s
 | iS (c o n k s) (b:Bool) (hb:b=true↔fW s.cs c o):Lp (.iS c o n k) s (k b) ⟨s.nodes,dZ s.cs c o n,s.gen⟩
inductive Rc:Nat->Tr->Mm->Tr->Mm->Prop where
 | refl (t s):Rc 0 t s t s
 | jH {j t s t1 s1 t2 s2}:Rc j t s t1 s1->Sp t1 s1 t2 s2->Rc j t s t2 s2
 | loud {j t s t1 s1 t2 s2}:Rc j t s t1 s1->Lp t1 s1 t2 s2->Rc (j+1) t s t2 s2
inductive Wk(L:List Nv):Tr->List Int->List Int->List Int->List Int->Tr->Prop where
 | nil (t):Wk L t [] [] [] [] t
 | load {c k v gs ms cl gn R}:Wk L (k v) gs ms cl gn R->Wk L (.load c k) (v::gs) ms cl gn R
 | iS {c o n k v gs ms cl gn R}:Wk L (k (v==1)) gs ms cl gn R->Wk L (.iS c o n k) (v::gs) ms cl gn R
 | alloc {n i k r gs ms cl gn R}:Wk L (k r) gs ms cl gn R->Wk L (.alloc n i k) gs (r::ms) cl gn R
 | cell {i k r gs ms cl gn R}:Wk L (k r) gs ms cl gn R->Wk L (.cell i k) gs ms (r::cl) gn R
 | gen {k r gs ms cl gn R}:Wk L (k r) gs ms cl gn R->Wk L (.gen k) gs ms cl (r::gn) R
 | node {r:Int} {k gs ms cl gn R}:r<=L.length->Wk L (k (bF L r)) gs ms cl gn R->Wk L (.node r k) gs ms cl gn R
theorem Wk.mono{L N:List Nv}{t R:Tr}{gs ms cl gn:List Int}(h:Wk L t gs ms cl gn R):Wk (L++N) t gs ms cl gn R:=by
 induction h with
 | nil t=>exact .nil t
 | load _ ih=>exact .load ih
 | iS _ ih=>exact .iS ih
 | alloc _ ih=>exact .alloc ih
 | cell _ ih=>exact .cell ih
 | gen _ ih=>exact .gen ih
 | node h _ ih=>exact .node (by simp;omega) (by rw[sC h];exact ih)
theorem Wk.trans{L:List Nv}{t t1 R:Tr}{gs ms cl gn gs' ms' cl' gn':List Int}(h:Wk L t gs ms cl gn t1)(h2:Wk L t1 gs' ms' cl' gn' R):Wk L t (gs++gs') (ms++ms') (cl++cl') (gn++gn') R:=by
 induction h with
 | nil t=>exact h2
 | load _ ih=>exact .load (ih h2)
 | iS _ ih=>exact .iS (ih h2)
 | alloc _ ih=>exact .alloc (ih h2)
 | cell _ ih=>exact .cell (ih h2)
 | gen _ ih=>exact .gen (ih h2)
 | node h _ ih=>exact .node h (ih h2)
def bR:Tr->Nat->Nat->Prop
 | .done _,_,_=>True
 | .stuck,_,_=>False
 | .load _ _,0,_=>True
 | .load _ k,n+1,_=>∀v,bR (k v) n 64
 | .iS _ _ _ _,0,_=>True
 | .iS _ _ _ k,n+1,_=>∀v,bR (k v) n 64
 | .alloc _ _ _,_,0=>False
 | .alloc _ _ k,n,c+1=>∀v,bR (k v) n c
 | .cell _ _,_,0=>False
 | .cell _ k,n,c+1=>∀v,bR (k v) n c
 | .gen _,_,0=>False
 | .gen k,n,c+1=>∀v,bR (k v) n c
 | .node _ k,n,c=>∀v,bR (k v) n c
theorem Wk.vH{L:List Nv}{t R:Tr}{gs ms cl gn:List Int}(h:Wk L t gs ms cl gn R):∀{n c:Nat},c<=64->bR t n c->gs.length<=n->∃c',bR R (n-gs.length) c'/\c'<=64/\ms.length+cl.length+gn.length+c'<=c+64*gs.length:=by
 induction h with
 | nil t=>intro n c hc ht _;exact⟨c,ht,hc,by simp⟩
 | load _ ih =>
  intro n c hc ht hn
  cases n with
  | zero=>simp at hn
  | succ n =>
   obtain⟨c',h1,h2,h3⟩:=ih (Nat.le_refl 64) (ht _) (by simpa using hn)
   exact⟨c',by simpa using h1,h2,by simp only[List.length_cons];omega⟩
 | iS _ ih =>
  intro n c hc ht hn
  cases n with
  | zero=>simp at hn
  | succ n =>
   obtain⟨c',h1,h2,h3⟩:=ih (Nat.le_refl 64) (ht _) (by simpa using hn)
   exact⟨c',by simpa using h1,h2,by simp only[List.length_cons];omega⟩
 | alloc _ ih =>
  intro n c hc ht hn
  cases c with
  | zero=>exact ht.elim
  | succ c =>
   obtain⟨c',h1,h2,h3⟩:=ih (by omega) (ht _) hn
   exact⟨c',h1,h2,by simp only[List.length_cons];omega⟩
 | cell _ ih =>
  intro n c hc ht hn
  cases c with
  | zero=>exact ht.elim
  | succ c =>
   obtain⟨c',h1,h2,h3⟩:=ih (by omega) (ht _) hn
   exact⟨c',h1,h2,by simp only[List.length_cons];omega⟩
 | gen _ ih =>
  intro n c hc ht hn
  cases c with
  | zero=>exact ht.elim
  | succ c =>
   obtain⟨c',h1,h2,h3⟩:=ih (by omega) (ht _) hn
   exact⟨c',h1,h2,by simp only[List.length_cons];omega⟩
 | node _ _ ih=>intro n c hc ht hn;exact ih hc (ht _) hn
theorem Rc.vH{j:Nat}{t t':Tr}{s s':Mm}(h:Rc j t s t' s'):∀{n c:Nat},c<=64->bR t n c->j<=n->∃c',bR t' (n-j) c'/\c'<=64/\s.nodes.length<=s'.nodes.length/\s'.nodes.length+c'<=s.nodes.length+c+64*j/\s'.cs.length+c'<=s.cs.length+c+64*j/\s'.gen+c'<=s.gen+c+64*j:=by
 induction h with
 | refl t s=>intro n c hc ht _;exact⟨c,ht,hc,by omega,by omega,by omega,by omega⟩
 | @jH j t s t1 s1 t2 s2 _ hs ih =>
  intro n c hc ht hn
  obtain⟨c',h1,h2,h3,h4,h5,h6⟩:=ih hc ht hn
  cases hs with
  | alloc nn i k s =>
   cases c' with
   | zero=>exact h1.elim
   | succ c' =>
    have hl:=jO (k:=nn.kind) (cs:=s1.cs) (init:=i)
    exact⟨c',h1 _,by omega,by simp[Mm.push];omega,by simp[Mm.push];omega,by simp only[Mm.push];omega,by simp only[Mm.push];omega⟩
  | cell i k s =>
   cases c' with
   | zero=>exact h1.elim
   | succ c'=>exact⟨c',h1 _,by omega,by simpa using h3,by simp;omega,by simp;omega,by simp;omega⟩
  | gen k s =>
   cases c' with
   | zero=>exact h1.elim
   | succ c'=>exact⟨c',h1 _,by omega,by simpa using h3,by simp;omega,by simp;omega,by simp;omega⟩
  | node r k s h=>exact⟨c',h1 _,h2,h3,h4,h5,h6⟩
 | loud _ hs ih =>
  intro n c hc ht hn
  obtain⟨c',h1,h2,h3,h4,h5,h6⟩:=ih hc ht (by omega)
  rename_i j _ _ _ _ _ _ _
  obtain⟨d,hd⟩:∃d,n-j=d+1:=⟨n-j-1,by omega⟩
  rw[hd] at h1
  have e:n-(j+1)=d:=by omega
  rw[e]
  cases hs with
  | load c k s=>exact⟨64,h1 _,Nat.le_refl _,h3,by omega,by omega,by omega⟩
  | iS c o nn k s b hb=>exact⟨64,h1 _,Nat.le_refl _,h3,by simp only;omega,by simp only[eI];omega,by simp only;omega⟩
end

/- An execution of the reference: its state, and how it stands to a tree. -/
section
open Go Go.RowKit
structure XS where
 L:List aU
 cs:List Int
 gen:Int
 acc:Int
 pn:Option Addr
 cn:Nat
 pc:Option Addr
 cc:Nat
 got:List Int
 made:List Int
 cel:List Int
 gns:List Int
 pg:Option Addr
 kg:Nat
 pm:Option Addr
 km:Nat
 pl:Option Addr
 kl:Nat
 pe:Option Addr
 ke:Nat
 a:Nat
 m:Nat
 c:Nat
 g:Nat
 fr:Nat
 st:Bool
 nx:Ac
def XS.nodes(x:XS):List Nv:=x.L.map aU.c
def XS.mm(x:XS):Mm:=⟨x.L.map aU.c,x.cs,x.gen⟩
structure Gx where
 T:Tr
 R:Tr
 s:Mm
 fr:Nat
 N:Nat
structure Gx.Ok(g:Gx):Prop where
 vH:bR g.T g.N 64
 tameR:∃n,g.fr<=n/\bR g.R n 64
 hN:g.N<=1073741824
 hf:g.fr<=1
 hs:g.s.nodes.length<=137438953472/\g.s.cs.length<=137438953472/\g.s.gen<=137438953472
structure GdR(g:Gx)(x:XS)(t R:Tr):Prop where
 pre:Wk x.nodes g.T (x.got.take x.a) (x.made.take x.m) (x.cel.take x.c) (x.gns.take x.g) t
 suf:Wk x.nodes t (x.got.drop x.a) (x.made.drop x.m) (x.cel.drop x.c) (x.gns.drop x.g) R
 rc:Rc (g.fr-x.fr) g.R g.s R x.mm
 hf:x.fr<=g.fr
 la:x.a<=x.got.length
 lm:x.m<=x.made.length
 lc:x.c<=x.cel.length
 lg:x.g<=x.gns.length
 hN:x.got.length+x.fr=g.N
def Gd(g:Gx)(x:XS)(t:Tr):Prop:=∃R,GdR g x t R
def Tr.acc:Tr->Option Ac
 | .load c _=>some ⟨1,c,0,0⟩
 | .iS c o n _=>some ⟨2,c,o,n⟩
 | _=>none
structure xk(g:Gx)(x:XS)(R:Tr):Prop where
 ac:R.acc=some x.nx
 wk:Wk x.nodes g.T x.got x.made x.cel x.gns R
 rc:Rc g.fr g.R g.s R x.mm
 hN:x.got.length=g.N
def aAE(g:Gx)(x:XS):Prop:=∃R,xk g x R
def fN(g:Gx)(x:XS)(t:Tr):Prop:=(x.st=false/\Gd g x t)∨(x.st=true/\aAE g x)
theorem fN.bU{g:Gx}{x:XS}{t t':Tr}(h:fN g x t)(hs:x.st=true):fN g x t':=by
 rcases h with h|h
 ·rw[hs] at h;exact nomatch h.1
 ·exact .inr h
theorem fN.run{g:Gx}{x:XS}{t:Tr}(h:fN g x t)(hs:x.st=false):Gd g x t:=by
 rcases h with h|h
 ·exact h.2
 ·rw[hs] at h;exact nomatch h.1
theorem fN.to{g:Gx}{x:XS}{t t':Tr}(h:fN g x t)(e:x.st=false->t=t'):fN g x t':=by
 rcases h with h|h
 ·exact .inl ⟨h.1,e h.1▸h.2⟩
 ·exact .inr h
theorem drop_cons{l:List Int}{k:Nat}(h:k<l.length):l.drop k=l.getD k 0::l.drop (k+1):=by
 rw[List.drop_eq_getElem_cons h]
 simp[jK,h]
theorem lH{l:List Int}{k:Nat}(h:k<l.length):l.take (k+1)=l.take k++[l.getD k 0]:=by
 rw[List.take_add_one]
 simp[jK,h]
theorem Wk.uc{L:List Nv}{c:Int}{k:Int->Tr}(v:Int):Wk L (.load c k) [v] [] [] [] (k v):=.load (.nil _)
theorem Wk.aAR{L:List Nv}{c o n:Int}{k:Bool->Tr}(v:Int):Wk L (.iS c o n k) [v] [] [] [] (k (v==1)):=.iS (.nil _)
theorem Wk.fv{L:List Nv}{n:Nv}{i:Int}{k:Int->Tr}(v:Int):Wk L (.alloc n i k) [] [v] [] [] (k v):=.alloc (.nil _)
theorem Wk.Ja{L:List Nv}{i:Int}{k:Int->Tr}(v:Int):Wk L (.cell i k) [] [] [v] [] (k v):=.cell (.nil _)
theorem Wk.aAl{L:List Nv}{k:Int->Tr}(v:Int):Wk L (.gen k) [] [] [] [v] (k v):=.gen (.nil _)
theorem Wk.node1{L:List Nv}{r:Int}{k:Nv->Tr}(h:r<=L.length):Wk L (.node r k) [] [] [] [] (k (bF L r)):=.node h (.nil _)
section
variable{g:Gx}{x:XS}{c o n i r:Int}{k:Int->Tr}{kb:Bool->Tr}{kn:Nv->Tr}{nn:Nv}{t R:Tr}
theorem GdR.full(h:GdR g x t R):Wk x.nodes g.T x.got x.made x.cel x.gns R:=by
 have:=h.pre.trans h.suf
 simpa only[List.take_append_drop] using this
theorem wQ{l:List Int}{k:Nat}(h:l.drop k=[])(h2:k<=l.length):k=l.length:=by
 have:=List.drop_eq_nil_iff.1 h;omega
theorem Gd.G0(h:Gd g x (.load c k))(ha:x.a<x.got.length):Gd g {x with a:=x.a+1} (k (x.got.getD x.a 0)):=by
 obtain⟨R,h⟩:=h
 have hs:=h.suf
 rw[drop_cons ha] at hs
 have hp:=h.pre.trans (Wk.uc (x.got.getD x.a 0))
 simp only[List.append_nil] at hp
 rw[<- lH ha] at hp
 cases hs with
 | load hs=>exact⟨R,hp,hs,h.rc,h.hf,ha,h.lm,h.lc,h.lg,h.hN⟩
theorem Gd.Lc(h:Gd g x (.iS c o n kb))(ha:x.a<x.got.length):Gd g {x with a:=x.a+1} (kb (x.got.getD x.a 0==1)):=by
 obtain⟨R,h⟩:=h
 have hs:=h.suf
 rw[drop_cons ha] at hs
 have hp:=h.pre.trans (Wk.aAR (x.got.getD x.a 0))
 simp only[List.append_nil] at hp
 rw[<- lH ha] at hp
 cases hs with
 | iS hs=>exact⟨R,hp,hs,h.rc,h.hf,ha,h.lm,h.lc,h.lg,h.hN⟩
structure AtR(g:Gx)(x:XS)(t:Tr):Prop where
 wk:Wk x.nodes g.T x.got x.made x.cel x.gns t
 rc:Rc (g.fr-x.fr) g.R g.s t x.mm
 hf:x.fr<=g.fr
 ea:x.a=x.got.length
 em:x.m=x.made.length
 ec:x.c=x.cel.length
 eg:x.g=x.gns.length
 hN:x.got.length+x.fr=g.N
theorem AtR.aA0(h:AtR g x t):Gd g x t:=by
 refine⟨t,?_,?_,h.rc,h.hf,by rw[h.ea];exact Nat.le_refl _,by rw[h.em];exact Nat.le_refl _,by rw[h.ec];exact Nat.le_refl _,by rw[h.eg];exact Nat.le_refl _,h.hN⟩
 ·rw[h.ea,h.em,h.ec,h.eg];simpa using h.wk
 ·rw[h.ea,h.em,h.ec,h.eg];simpa using Wk.nil t
theorem GdR.atR(h:GdR g x t t)(h1:x.got.drop x.a=[])(h2:x.made.drop x.m=[])(h3:x.cel.drop x.c=[])(h4:x.gns.drop x.g=[]):AtR g x t :=
 ⟨h.full,h.rc,h.hf,wQ h1 h.la,wQ h2 h.lm,wQ h3 h.lc,wQ h4 h.lg,h.hN⟩
theorem Gd.qs(h:Gd g x (.load c k))(ha:¬x.a<x.got.length):AtR g x (.load c k):=by
 obtain⟨R,h⟩:=h
 have hs:=h.suf
 have e:x.got.drop x.a=[]:=List.drop_eq_nil_iff.2 (by omega)
 rw[e] at hs
 generalize e2:x.made.drop x.m=l2 at hs
 generalize e3:x.cel.drop x.c=l3 at hs
 generalize e4:x.gns.drop x.g=l4 at hs
 cases hs
 exact h.atR e e2 e3 e4
theorem Gd.xi(h:Gd g x (.iS c o n kb))(ha:¬x.a<x.got.length):AtR g x (.iS c o n kb):=by
 obtain⟨R,h⟩:=h
 have hs:=h.suf
 have e:x.got.drop x.a=[]:=List.drop_eq_nil_iff.2 (by omega)
 rw[e] at hs
 generalize e2:x.made.drop x.m=l2 at hs
 generalize e3:x.cel.drop x.c=l3 at hs
 generalize e4:x.gns.drop x.g=l4 at hs
 cases hs
 exact h.atR e e2 e3 e4
theorem AtR.stop{y:XS}(h:AtR g x t)(h0:x.fr=0)(ht:t.acc=some y.nx)(hs:y.st=true)(e1:y.got=x.got)(e2:y.made=x.made)(e3:y.cel=x.cel)(e4:y.gns=x.gns)(e5:y.L=x.L)(e6:y.cs=x.cs)(e7:y.gen=x.gen):fN g y t:=by
 refine .inr ⟨hs,t,ht,?_,?_,?_⟩
 ·simp only[XS.nodes,e1,e2,e3,e4,e5];exact h.wk
 ·have:=h.rc
  rw[h0] at this
  simpa only[XS.mm,e5,e6,e7,Nat.sub_zero] using this
 ·rw[e1];have:=h.hN;omega
theorem AtR.now{y:XS}{t':Tr}{v:Int}(h:AtR g x t)(h0:0<x.fr)(hw:∀L,Wk L t [v] [] [] [] t')(hl:Lp t x.mm t' y.mm)
  (hs:y.st=false) (e1:y.got=x.got++[v]) (e2:y.made=x.made) (e3:y.cel=x.cel) (e4:y.gns=x.gns) (e5:y.L=x.L) (e8:y.fr=x.fr-1) (e9:y.a=x.a+1) (em:y.m=x.m) (ec:y.c=x.c) (eg:y.g=x.g):fN g y t':=by
 refine .inl ⟨hs,AtR.aA0 ⟨?_,?_,by have:=h.hf;omega,by rw[e9,e1,h.ea];simp,by rw[em,e2,h.em],by rw[ec,e3,h.ec],by rw[eg,e4,h.eg],by rw[e1,e8];have:=h.hN;simp;omega⟩⟩
 ·have:=h.wk.trans (hw x.nodes)
  simp only[List.append_nil] at this
  simp only[XS.nodes,e1,e2,e3,e4,e5];exact this
 ·have:=h.rc.loud hl
  rwa [show g.fr-x.fr+1=g.fr-y.fr by have:=h.hf;omega] at this
theorem Gd.alloc_old(h:Gd g x (.alloc nn i k))(ha:x.m<x.made.length):Gd g {x with m:=x.m+1} (k (x.made.getD x.m 0)):=by
 obtain⟨R,h⟩:=h
 have hs:=h.suf
 rw[drop_cons ha] at hs
 have hp:=h.pre.trans (Wk.fv (x.made.getD x.m 0))
 simp only[List.append_nil] at hp
 rw[<- lH ha] at hp
 generalize e0:x.got.drop x.a=l0 at hs
 generalize e1:x.cel.drop x.c=l1 at hs
 generalize e2:x.gns.drop x.g=l2 at hs
 cases hs with
 | alloc hs=>exact⟨R,hp,by simp only[];rw[e0,e1,e2];exact hs,h.rc,h.hf,h.la,ha,h.lc,h.lg,h.hN⟩
theorem Gd.Z5(h:Gd g x (.alloc nn i k))(ha:x.m=x.made.length):AtR g x (.alloc nn i k):=by
 obtain⟨R,h⟩:=h
 have hs:=h.suf
 have e:x.made.drop x.m=[]:=List.drop_eq_nil_iff.2 (by omega)
 rw[e] at hs
 generalize e2:x.got.drop x.a=l2 at hs
 generalize e3:x.cel.drop x.c=l3 at hs
 generalize e4:x.gns.drop x.g=l4 at hs
 cases hs
 exact h.atR e2 e e3 e4
theorem Gd.Hn(h:Gd g x (.cell i k))(ha:x.c<x.cel.length):Gd g {x with c:=x.c+1} (k (x.cel.getD x.c 0)):=by
 obtain⟨R,h⟩:=h
 have hs:=h.suf
 rw[drop_cons ha] at hs
 have hp:=h.pre.trans (Wk.Ja (x.cel.getD x.c 0))
 simp only[List.append_nil] at hp
 rw[<- lH ha] at hp
 generalize e0:x.got.drop x.a=l0 at hs
 generalize e1:x.made.drop x.m=l1 at hs
 generalize e2:x.gns.drop x.g=l2 at hs
 cases hs with
 | cell hs=>exact⟨R,hp,by simp only[];rw[e0,e1,e2];exact hs,h.rc,h.hf,h.la,h.lm,ha,h.lg,h.hN⟩
theorem Gd.o4(h:Gd g x (.cell i k))(ha:x.c=x.cel.length):AtR g x (.cell i k):=by
 obtain⟨R,h⟩:=h
 have hs:=h.suf
 have e:x.cel.drop x.c=[]:=List.drop_eq_nil_iff.2 (by omega)
 rw[e] at hs
 generalize e2:x.got.drop x.a=l2 at hs
 generalize e3:x.made.drop x.m=l3 at hs
 generalize e4:x.gns.drop x.g=l4 at hs
 cases hs
 exact h.atR e2 e3 e e4
theorem Gd.Kq(h:Gd g x (.gen k))(ha:x.g<x.gns.length):Gd g {x with g:=x.g+1} (k (x.gns.getD x.g 0)):=by
 obtain⟨R,h⟩:=h
 have hs:=h.suf
 rw[drop_cons ha] at hs
 have hp:=h.pre.trans (Wk.aAl (x.gns.getD x.g 0))
 simp only[List.append_nil] at hp
 rw[<- lH ha] at hp
 generalize e0:x.got.drop x.a=l0 at hs
 generalize e1:x.made.drop x.m=l1 at hs
 generalize e2:x.cel.drop x.c=l2 at hs
 cases hs with
 | gen hs=>exact⟨R,hp,by simp only[];rw[e0,e1,e2];exact hs,h.rc,h.hf,h.la,h.lm,h.lc,ha,h.hN⟩
theorem Gd.w5(h:Gd g x (.gen k))(ha:x.g=x.gns.length):AtR g x (.gen k):=by
 obtain⟨R,h⟩:=h
 have hs:=h.suf
 have e:x.gns.drop x.g=[]:=List.drop_eq_nil_iff.2 (by omega)
 rw[e] at hs
 generalize e2:x.got.drop x.a=l2 at hs
 generalize e3:x.made.drop x.m=l3 at hs
 generalize e4:x.cel.drop x.c=l4 at hs
 cases hs
 exact h.atR e2 e3 e4 e
theorem Gd.node(h:Gd g x (.node r kn))(hr:r<=x.L.length):Gd g x (kn (bF x.nodes r)):=by
 have hr':r<=x.nodes.length:=by simpa[XS.nodes] using hr
 obtain⟨R,h⟩:=h
 have hs:=h.suf
 have hp:=h.pre.trans (Wk.node1 (k:=kn) hr')
 simp only[List.append_nil] at hp
 generalize e1:x.got.drop x.a=l1 at hs
 generalize e2:x.made.drop x.m=l2 at hs
 generalize e3:x.cel.drop x.c=l3 at hs
 generalize e4:x.gns.drop x.g=l4 at hs
 cases hs with
 | nil=>exact⟨_,hp,by rw[e1,e2,e3,e4];exact .nil _,h.rc.jH (.node r kn x.mm (by simpa[XS.mm] using hr)),h.hf,h.la,h.lm,h.lc,h.lg,h.hN⟩
 | node _ hs=>exact⟨R,hp,by rw[e1,e2,e3,e4];exact hs,h.rc,h.hf,h.la,h.lm,h.lc,h.lg,h.hN⟩
theorem fN.node(h:fN g x (.node r kn))(hr:r<=x.L.length):fN g x (kn (bF x.nodes r)):=by
 rcases h with h|h
 ·exact .inl ⟨h.1,h.2.node hr⟩
 ·exact .inr h
theorem AtR.jH{y:XS}{t':Tr}{ms cl gn:List Int}{N:List aU}(h:AtR g x t)(hw:∀L,Wk L t [] ms cl gn t')(hl:Sp t x.mm t' y.mm)
  (hs:y.st=false) (e1:y.got=x.got) (e2:y.made=x.made++ms) (e3:y.cel=x.cel++cl) (e4:y.gns=x.gns++gn) (e5:y.L=x.L++N) (e8:y.fr=x.fr) (e9:y.a=x.a) (em:y.m=x.m+ms.length) (ec:y.c=x.c+cl.length) (eg:y.g=x.g+gn.length):fN g y t':=by
 refine .inl ⟨hs,AtR.aA0 ⟨?_,?_,by rw[e8];exact h.hf,by rw[e9,e1,h.ea],by rw[em,e2,h.em];simp,by rw[ec,e3,h.ec];simp,by rw[eg,e4,h.eg];simp,by rw[e1,e8];exact h.hN⟩⟩
 ·have:=(h.wk.trans (hw x.nodes)).mono (N:=N.map aU.c)
  simp only[List.append_nil] at this
  have e:y.nodes=x.nodes++N.map aU.c:=by simp[XS.nodes,e5]
  rw[e,e1,e2,e3,e4];exact this
 ·rw[e8];exact h.rc.jH hl
theorem AtR.room(hg:g.Ok)(h:AtR g x t):∃n c,bR t n c/\c<=64/\x.L.length+c<=137438953600/\x.cs.length+c<=137438953600/\x.gen+c<=137438953600/\x.made.length<=137438953472/\x.cel.length<=137438953472/\x.gns.length<=137438953472:=by
 obtain⟨n,h1,h2⟩:=hg.tameR
 have hf:=hg.hf
 obtain⟨c',t1,t2,_,t3,t4,t5⟩:=h.rc.vH (Nat.le_refl 64) h2 (by omega)
 obtain⟨c2,_,_,u3⟩:=h.wk.vH (Nat.le_refl 64) hg.vH (by have:=h.hN;omega)
 have:=hg.hs
 have:=hg.hN
 have:=h.hN
 simp only[XS.mm,List.length_map] at t3 t4 t5
 refine⟨_,c',t1,t2,by omega,by omega,by omega,by omega,by omega,by omega⟩
theorem Gd.Vo(hg:g.Ok)(h:Gd g x .stuck):False:=by
 obtain⟨R,h⟩:=h
 obtain⟨c2,u1,_,_⟩:=h.pre.vH (Nat.le_refl 64) hg.vH (by have:=h.hN;have:=h.la;simp;omega)
 exact u1
end
end

/- An execution of the reference: what is kept by every function. -/
section
open Go Go.RowKit
structure lJ(n c:Nat)(v:Nv):Prop where
 aZ:v.aZ<=n
 exp:v.exp<=n
 new:v.new<=n
 br:∀r∈v.xs,r<=n
 main:v.main<=c
 prev:v.prev<=c
 status:v.status<=c
 bm:∃b:Nat,v.bm=(b:Int)/\b<18446744073709551616
 hash:∃b:Nat,v.hash=(b:Int)/\b<18446744073709551616
theorem lJ.mono{n c n' c':Nat}{v:Nv}(h:lJ n c v)(h1:n<=n')(h2:c<=c'):lJ n' c' v :=
 ⟨by have:=h.aZ;omega,by have:=h.exp;omega,by have:=h.new;omega,λ r hr=>by have:=h.br r hr;omega,by have:=h.main;omega,by have:=h.prev;omega,by have:=h.status;omega,h.bm,h.hash⟩
theorem Oj(n c:Nat):lJ n c Nv.zero:=⟨bH _,bH _,bH _,(λ r hr=>nomatch hr),bH _,bH _,bH _,⟨0,rfl,by decide⟩,⟨0,rfl,by decide⟩⟩
structure XS.Ok(x:XS):Prop where
 fit:Fits x.L
 nd:∀v∈x.L,lJ x.L.length x.cs.length v.c
 cs:∀v∈x.cs,v<=x.L.length
 got:∀v∈x.got,v<=x.L.length
 made:∀v∈x.made,v<=x.L.length
 two:2<=x.L.length
 lL:x.L.length<=137438953600
 lc:x.cs.length<=137438953600
 lg:x.got.length<=1073741824
 la:x.a<=x.got.length
 lm:x.m<=x.made.length
 lk:x.c<=x.cel.length
 le:x.g<=x.gns.length
 fr:x.fr<=1
 ys:∀v∈x.L,v.ys.length<=x.L.length
 gen0:0<=x.gen
 ms:∀i j:Nat,i<j->j<x.made.length->x.made.getD i 0<x.made.getD j 0
 m1:∀v∈x.made,1<=v
theorem lX{l:List Int}{n:Nat}(h:∀v∈l,v<=n)(k:Nat):l.getD k 0<=n:=by
 rw[jK]
 cases hk:l[k]? with
 | none=>exact bH n
 | some v=>exact h v (List.mem_of_getElem? hk)
theorem XS.Ok.nv{x:XS}(h:x.Ok)(r:Int):lJ x.L.length x.cs.length (aC x.L r).c:=by
 unfold aC
 split
 ·exact h.nd _ (fX (by omega))
 ·exact Oj _ _
theorem XS.Ok.cell{x:XS}(h:x.Ok)(c:Int):aQ x.cs c<=x.L.length:=by
 unfold aQ
 split
 ·exact lX h.cs _
 ·exact bH _
structure Nx(g:Gx)(x x':XS)(N:List aU)(t:Tr)(b:Int):Prop where
 go:fN g x' t
 ok:x'.Ok
 ext:x'.L=x.L++N
 lc:x.cs.length<=x'.cs.length
 bd:b<=x'.L.length
def Ch(x0 x:XS)(F:Fr):Prop:=∃N,x.L=x0.L++N/\∀f∈aL N,f.2=[]∨f∈F
theorem Ch.base{x0:XS}{F:Fr}:Ch x0 x0 F:=⟨[],by simp,λ f hf=>by simp[aL] at hf⟩
theorem Ch.ext{x0 x x':XS}{F:Fr}{N:List aU}(h:Ch x0 x F)(e:x'.L=x.L++N):Ch x0 x' (aL N++F):=by
 obtain⟨M,h1,h2⟩:=h
 refine⟨M++N,by rw[e,h1,List.append_assoc],λ f hf=>?_⟩
 rw[dE] at hf
 rcases List.mem_append.1 hf with hf|hf
 ·exact(h2 f hf).imp_right λ h=>List.mem_append_right _ h
 ·exact .inr (List.mem_append_left _ hf)
theorem Ch.nx{g:Gx}{x0 x x':XS}{F:Fr}{N:List aU}{t:Tr}{b:Int}(h:Nx g x x' N t b)(hc:Ch x0 x F):Ch x0 x' (aL N++F):=hc.ext h.ext
theorem Ch.cons{x0 x:XS}{F:Fr}{f:Option Addr×List Value}(h:Ch x0 x F):Ch x0 x (f::F):=by
 obtain⟨M,h1,h2⟩:=h
 exact⟨M,h1,λ g hg=>(h2 g hg).imp_right λ h=>List.mem_cons_of_mem _ h⟩
theorem Ch.all{x0 x:XS}{A F:Fr}{O:List Ow}(h:Ch x0 x F)(hA:∀f∈aL x0.L,f∈A):bJ A F O (aL x.L):=by
 obtain⟨M,h1,h2⟩:=h
 refine .of λ f hf=>?_
 rw[h1,dE] at hf
 rcases List.mem_append.1 hf with hf|hf
 ·exact .inr (.inl (hA f hf))
 ·exact(h2 f hf).imp_right λ h=>.inr (.inl h)
theorem SF.ij{w0 w:World}{M:List Nat}{H:List (Nat×Obj)}{A F:Fr}{O:List Ow}{x0 x:XS}(h:SF w0 M H A F O w)(hc:Ch x0 x F)(hA:∀f∈aL x0.L,f∈A)(ok:x.Ok)(r:Int):sB w (aC x.L r).nd (aC x.L r).xs (aC x.L r).ys:=by
 unfold aC
 split
 ·have hv:=fX (L:=x.L) (k:=(r-1).toNat) (by omega)
  have hk:=(hc.all (O:=O) hA).get
  generalize x.L.getD (r-1).toNat aU.zero=v at hv ⊢
  exact(ok.fit _ hv).rD (h.clH (hk (v.nd.brA,aH v.xs) (rK.2 ⟨v,hv,by simp[aU.fr]⟩))) (h.clH (hk (v.nd.prA,dD v.ys) (rK.2 ⟨v,hv,by simp[aU.fr]⟩)))
 ·exact dt.rD (Cl.nil _ _) (Cl.nil _ _)
end

end Go.Ct

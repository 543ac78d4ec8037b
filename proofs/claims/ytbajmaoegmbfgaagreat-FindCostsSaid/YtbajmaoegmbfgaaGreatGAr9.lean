/- Merged. -/
import Derived.Test.YtbajmaoegmbfgaaGreatGAr4
import Derived.Test.YtbajmaoegmbfgaaGreatGJoin
set_option linter.unusedSimpArgs false
set_option linter.unusedVariables false
namespace Go.Ct
section
theorem Gl{n:Nd}{xs:List Int}{ys:List Pr}(h:cJ n xs ys)(hk:n.kind=1):n.c xs ys=fG.c:=by have e:=xP.1 h.1;rw[e];simp[Nd.own,Nd.jR,Nd.jP,hk,Nd.c,aR.c,fG,Nd.zero]
theorem fW.all{L L':List aR}{cs:List Int}{gen:Int}(h:fW L cs gen)(h2:L'.map aR.c=(L.drop 2).map aR.c):(cO L').map aR.c=L.map aR.c:=by
 have h0:=h.nodes 0 (by have:=h.two;omega);have h1:=h.nodes 1 (by have:=h.two;omega);have e0:(L.getD 0 aR.zero).c=fG.c:=Gl h0.1 h.m0;have e1:(L.getD 1 aR.zero).c=fG.c:=Gl h1.1 h.m1;have h3:=h.two;match L,h3 with
 | a::b::r,_=>simp only[List.getD_cons_zero,List.getD_cons_succ] at e0 e1;simp only[List.drop_succ_cons,List.drop_zero] at h2;simp only[cO,List.map_cons,h2,e0,e1]
end
end Go.Ct
namespace Go.Proofs.YtbajmaoegmbfgaaGreat
open Go.Proofs.Tryz
open Go.RowKit Go.Ct
section
variable{cs:List Int}{gen:Int}{pn pc:Option Addr}{cn cc:Nat}{w:World}
theorem aEB{L:List aR}(h:rQ w L cs pn pc)(hL:L.length<=274877906944)(hC:cs.length<=274877906944)(hp:¬fW L cs gen) :
  Calls prog 71 #[.agg ⟨[.slice pn L.length cn,.slice pc cs.length cc,.int .i64 gen]⟩] w λ e w'=>e=.returned (.tuple #[.pointer none,.int .i64 1])/\St w [] [] w':=by
 refine enter func71 ntmps71 rfl rfl h.start ?_;simp only[cC];refine K1c ?_;intro x1 x8 h8;refine bD (λ c9=>?_) (λ c9=>?_);·refine Iu ?_;refine aY results71 (λ w hw=>?_);exact⟨rfl,hw.done⟩
 ·exact absurd (h8.1 c9) hp
theorem gh{L:List aR}(h:rQ w L cs pn pc)(hL:L.length<=274877906944)(hC:cs.length<=274877906944)(hcn:L.length<=cn)(hp:fW L cs gen) :
  Calls prog 71 #[.agg ⟨[.slice pn L.length cn,.slice pc cs.length cc,.int .i64 gen]⟩] w λ e w'=>∃x:Nat×List aR×(Option Addr×Nat)×(Option Addr×Nat),e=.returned (.tuple #[.pointer (some ⟨x.1,0,none⟩),.int .i64 0]) /\
   ((cO x.2.1).map aR.c=L.map aR.c/\Fits x.2.1)/\SF w [] [(x.1,aO x.2.1 cs gen 0 x.2.2.1.1 x.2.2.1.2 x.2.2.2.1 x.2.2.2.2)] [] (aP x.2.1) (mW x.2.1 cs x.2.2.1.1 x.2.2.1.2 x.2.2.2.1 x.2.2.2.2) w':=by
 have h2L:=hp.two;refine enter func71 ntmps71 rfl rfl h.start ?_;simp only[cC]
 refine K1c ?_;intro x1 x8 h8;refine bD (λ c9=>?_) (λ c9=>?_);·exact absurd hp (λ hp=>by rw[h8.2 hp] at c9;cases c9)
 ·refine lH ?_;refine eM [(0,[]),(1,[]),(3,[]),(4,[]),(2,[4]),(5,[]),(6,[]),(7,[])] ?_;refine mI ?_;refine mI ?_;refine bK (i:=2) (hq:=(Zv (Hc:=λ _=>[]) (Fc:=λ _=>[]) (hc:=λ w1 hw=>Vb (hw.cl fin) hC))) (h:=λ x12 h12=>?_);refine iI ?_;refine mg (h:=λ x16=>?_);refine J7 ?_;refine J2 ?_;refine Sx ?_;refine aC (jX (n:=2) rf rf (by omega) (by omega)) rfl ?_;refine xL (λ x22=>?_);refine O0 ?_;refine B9 ?_;(refine aN (ta (k:=2) rf rf gS (by exact uS rfl) (by omega) fin hcn rfl) (λ x27=>?_));refine K1p ?_;refine nB [6,29,30,31,32,33,34,35,36,37,38,39,40,41,42,43,44] (λ y:List aR×Option Addr×Nat=>[(29,.int .i64 ((y.1.length:Nat):Int))]) (λ y=>y.1.map aR.c=((L.drop 2).take y.1.length).map aR.c/\y.1.length<=L.length-2/\Fits y.1) (λ y=>[(x16,.cells ⟨[.slice y.2.1 y.1.length y.2.2,.slice x12.1 cs.length x12.2,.int .i64 gen,.int .i64 0]⟩ 139 (0,0)),(x1,.cells ⟨[.slice pn L.length cn,.slice pc cs.length cc,.int .i64 gen]⟩ 52 (0,0))]) (λ y=>aP y.1) (λ y=>[⟨y.2.1,jB y.1,y.2.2,47,14⟩,⟨x12.1,aH cs,x12.2,37,1⟩]) (λ y=>L.length-2-y.1.length) (([],some ⟨x22,0,none⟩,L.length-2)) (⟨rfl,Nat.zero_le _,λ _ h=>(List.not_mem_nil h).elim⟩) (λ y f hx=>?_) (hw0:=λ w hw=>hw.back);refine K0a ?_;refine K1b ?_;refine bD (λ c30=>?_) (λ c30=>?_)
  ·refine sG ?_;refine J0 ?_;refine aC (sP rf rf gS eE fin (by omega) E0n) rfl ?_;refine aC (Wl rf eE fin E0n) rfl ?_;refine aJ (λ x6=>?_);refine J5 ?_;refine eM [(0,[]),(1,[]),(2,[]),(3,[]),(4,[]),(5,[]),(6,[4]),(7,[4]),(8,[]),(9,[]),(10,[]),(11,[])] ?_;refine cg ?_;refine bW ?_;refine bK (i:=6) (hq:=(cF (V:=λ p:Option Addr×Option Addr=>.agg ⟨(((L.drop 2).getD y.1.length aR.zero).at_ p.1 p.2).nd.cells⟩) (hc:=λ w1 hw=>W2 (hw.aEj (L:=L) (λ f hf=>.inr (.inl (List.mem_cons_of_mem _ (List.mem_cons_of_mem _ (List.mem_cons_of_mem _ hf))))) h.fit (List.mem_of_mem_drop (fZ E0n))) (h.fit _ (List.mem_of_mem_drop (fZ E0n))).brS (h.fit _ (List.mem_of_mem_drop (fZ E0n))).prS))) (h:=λ x39 h39=>?_);refine cG (h:=λ x40=>?_);((refine dD (i:=8) (hq:=(bE.eW (ua (((L.drop 2).getD y.1.length aR.zero).at_ x39.1 x39.2) rf rf Al rfl fin P9 rfl gS om) vS)) (h:=λ x41=>?_);try (refine eL (λ h41=>?_))));refine J88 ?_;refine eV ?_;refine mq ?_;refine Jm ?_
   refine iX ((y.1++[((L.drop 2).getD y.1.length aR.zero).at_ x39.1 x39.2],x41.1,x41.2)) ?_ (hw1:=λ w hw=>by
    have h3:=hw.aDq (L:=y.1) (v:=((L.drop 2).getD y.1.length aR.zero).at_ x39.1 x39.2) (F':=[]) (List.mem_cons_of_mem _ (List.mem_cons_self ..)) (List.mem_cons_of_mem _ (List.mem_cons_of_mem _ (List.mem_cons_self ..))) (λ f hf=>List.mem_cons_of_mem _ (List.mem_cons_of_mem _ (List.mem_cons_of_mem _ hf)));have h4:=h3.sub (H':=[_,_]) E0l aZ.all (List.Sublist.refl _)
    simpa using h4) (hμ:=by simp only[List.length_append,List.length_cons,List.length_nil];omega)
   ·have hlt:y.1.length<(L.drop 2).length:=by rw[List.length_drop];omega
    refine⟨?_,by simp only[List.length_append,List.length_cons,List.length_nil];omega,λ v hv=>?_⟩;·rw[List.map_append,hx.1,List.length_append,List.length_singleton,List.take_succ_eq_append_getElem hlt,List.map_append,jA,List.getElem?_eq_getElem hlt];rfl
    ·rcases List.mem_append.1 hv with hv|hv;·exact hx.2.2 v hv
     ·simp only[List.mem_singleton] at hv;subst hv;exact aR.ji (h.fit _ (List.mem_of_mem_drop (fZ hlt))) _ _
  ·refine bS rfl ?_;refine J2 ?_;refine J8 ?_;refine aY results71 (λ w hw=>?_);have hlen:y.1.length=L.length-2:=by omega
   refine⟨(x16,y.1,(y.2.1,y.2.2),(x12.1,x12.2)),rfl,⟨hp.all (by rw[hx.1,hlen,List.take_of_length_le E0n]),hx.2.2⟩,?_⟩;exact hw.ret (by repeat (first|exact List.nil_sublist _|apply List.Sublist.cons_cons)) aZ.all (List.Sublist.refl _)
end
end Go.Proofs.YtbajmaoegmbfgaaGreat
namespace Go.Ct
open Go Go.RowKit
section
theorem Uq{u u':List Bool}{n:Nd}(h:eU (some u) n=some u'):eU (some (u++[false])) n=some (u'++[false]):=by
 simp only[eU] at h ⊢;cases hc:gI n with
 | none=>rw[hc] at h;simp only[Option.some.injEq] at h;rw[h]
 | some c=>
  rw[hc] at h;simp only at h ⊢;split at h
  ·rename_i hh;simp only[Option.some.injEq] at h;have hlt:(c-1).toNat<u.length:=by omega
   rw[if_pos ⟨hh.1,by simp only[List.length_append,List.length_cons,List.length_nil];omega,by rw[jA,List.getElem?_append_left hlt,<- jA];exact hh.2.2⟩,List.set_append_left _ _ hlt,h]
  ·cases h
theorem Vo{m:Nat}:∀{L:List aR} {u:List Bool},marks m L=some u->marks (m+1) L=some (u++[false]):=by
 have key:∀(l:List aR) (u0:List Bool) (u:List Bool),l.foldl (λ u v=>eU u v.nd) (some u0)=some u->l.foldl (λ u v=>eU u v.nd) (some (u0++[false]))=some (u++[false]):=by
  intro l;induction l with
  | nil=>intro u0 u h;simp only[List.foldl_nil,Option.some.injEq] at h ⊢;rw[h]
  | cons v l ih=>
   intro u0 u h;simp only[List.foldl_cons] at h ⊢;cases hm:eU (some u0) v.nd with
   | none=>
    rw[hm] at h;exfalso;have:∀l:List aR,l.foldl (λ u v=>eU u v.nd) none=none:=λ l=>by
     induction l with
     | nil=>rfl
     | cons v l ih=>exact ih
    rw[this] at h;cases h
   | some u1=>rw[hm] at h;rw[Uq hm];exact ih u1 u h
 intro L u h;have:=key L _ u h;rw[marks,List.replicate_succ',this]
theorem I0{m:Nat}{L:List aR}{v:aR}:marks m (L++[v])=eU (marks m L) v.nd:=by rw[marks,List.foldl_append];rfl
theorem Dc{L:List aR}{v:aR}{i:Nat}(h:i<L.length+1):(L++[v]).getD i aR.zero=if i<L.length then L.getD i aR.zero else v:=by
 rw[jA];split;·rename_i hi;rw[List.getElem?_append_left hi,<- jA]
 ·rename_i hi;rw[List.getElem?_append_right (by omega),show i-L.length=0 by omega];rfl
theorem E3.mono{r:Int}{n m:Nat}(h:E3 r n)(hm:n<=m):E3 r m:=⟨h.1,Int.le_trans h.2 (by omega)⟩
theorem nF.mono{gen:Int}{n m:Nat}{v:aR}(h:nF gen n v)(hm:n<=m):nF gen m v:=⟨h.1,h.2.1,λ i hi=>(h.2.2.1 i hi).mono hm,h.2.2.2.1.mono hm,h.2.2.2.2.1.mono hm,h.2.2.2.2.2.mono hm⟩
theorem R6{L:List aR}{cs:List Int}{gen init:Int}{v:aR}(h:fW L cs gen)(hv:nF gen (L.length+1) v)(hi:E3 init L.length){k:Int}(hk:(gI v.nd=none/\fJ k cs init=cs)∨(gI v.nd=some ((cs.length+1:Nat):Int)/\fJ k cs init=cs++[init])) :
  fW (L++[v]) (fJ k cs init) gen:=by
 have hlen:(L++[v]).length=L.length+1:=by simp
 have h2:=h.two;have nodes:∀i,i<(L++[v]).length->nF gen (L++[v]).length ((L++[v]).getD i aR.zero):=λ i hi=>by
  rw[hlen] at hi ⊢;rw[Dc hi];split;·exact(h.nodes i (by assumption)).mono (by omega)
  ·exact hv
 have k0:((L++[v]).getD 0 aR.zero).nd.kind=1:=by rw[Dc (by omega),if_pos (by omega)];exact h.m0
 have k1:((L++[v]).getD 1 aR.zero).nd.kind=1:=by rw[Dc (by omega),if_pos (by omega)];exact h.m1
 cases hm:marks cs.length L with
 | none=>exact absurd hm h.marks
 | some u=>
  have hu:=Db hm;rcases hk with⟨e1,e2⟩|⟨e1,e2⟩
  ·rw[e2];refine⟨by omega,h.gen0,k0,k1,λ i hi=>(h.cells i hi).mono (by omega),nodes,?_⟩;rw[I0,hm];simp only[eU,e1];exact λ h=>nomatch h
  ·rw[e2];refine⟨by omega,h.gen0,k0,k1,λ i hi'=>?_,nodes,?_⟩
   ·rw[jA];by_cases hlt:i<cs.length;·rw[List.getElem?_append_left hlt,<- jA];exact(h.cells i hlt).mono (by omega)
    ·simp only[List.length_append,List.length_cons,List.length_nil] at hi';rw[List.getElem?_append_right (by omega),show i-cs.length=0 by omega];exact hi.mono (by omega)
   ·rw[I0,show(cs++[init]).length=cs.length+1 by simp,Vo hm];simp only[eU,e1];have e3:(((cs.length+1:Nat):Int)-1).toNat=cs.length:=by omega
    rw[e3,if_pos ⟨by omega,by simp only[List.length_append,List.length_cons,List.length_nil];omega,by rw[jA,List.getElem?_append_right (by omega),hu,Nat.sub_self];rfl⟩];exact λ h=>nomatch h
structure NdR(n:Nd):Prop where
 bm:∃b:Nat,n.bm=(b:Int)/\b<18446744073709551616
 main:n.main<=9223372036854775807
 prev:n.prev<=9223372036854775807
 status:n.status<=9223372036854775807
def Kc(L:List aR):Prop:=∀v∈L,NdR v.nd
end
section
inductive Tr where
 | done (r:Rs)
 | load (c:Int) (k:Int->Tr)
 | kH (c o n:Int) (k:Bool->Tr)
 | alloc (n:Nv) (i:Int) (k:Int->Tr)
 | cell (i:Int) (k:Int->Tr)
 | gen (k:Int->Tr)
 | node (r:Int) (k:Nv->Tr)
 | stuck
structure Mm where
 nodes:List Nv
 cs:List Int
 gen:Int
def Nv.zero:Nv:=aR.zero.c
def bH(L:List Nv)(r:Int):Nv:=if 1<=r/\r<=L.length then L.getD (r-1).toNat Nv.zero else Nv.zero
theorem Ff(L:List aR)(r:Int):(aB L r).c=bH (L.map aR.c) r:=by
 unfold aB bH;rw[List.length_map];split
 ·rename_i h;have h2:(r-1).toNat<L.length:=by omega
  simp only[jA,List.getElem?_map,List.getElem?_eq_getElem h2,Option.map_some,Option.getD_some]
 ·rfl
theorem I2{L N:List Nv}{r:Int}(h:r<=L.length):bH (L++N) r=bH L r:=by
 unfold bH;by_cases h1:1<=r;·rw[if_pos ⟨h1,by simp;omega⟩,if_pos ⟨h1,h⟩,jA,jA,List.getElem?_append_left (by omega)]
 ·rw[if_neg (by omega),if_neg (by omega)]
def dJ(n:Nv)(c:Nat):Nv:={n with main:=if n.kind=2 then((c+1:Nat):Int) else 0,prev:=if n.kind=3∨n.kind=5∨n.kind=6 then((c+1:Nat):Int) else 0,status:=if n.kind=8 then((c+1:Nat):Int) else 0}
def Mm.push(s:Mm)(n:Nv)(i:Int):Mm:=⟨s.nodes++[dJ n s.cs.length],fJ n.kind s.cs i,s.gen⟩
inductive Sp:Tr->Mm->Tr->Mm->Prop where
 | alloc (n i k s):Sp (.alloc n i k) s (k ((s.nodes.length+1:Nat):Int)) (s.push n i)
 | cell (i k s):Sp (.cell i k) s (k ((s.cs.length+1:Nat):Int)) ⟨s.nodes,s.cs++[i],s.gen⟩
 | gen (k s):Sp (.gen k) s (k (s.gen+1)) ⟨s.nodes,s.cs,s.gen+1⟩
 | node (r:Int) (k s) (h:r<=s.nodes.length):Sp (.node r k) s (k (bH s.nodes r)) s
inductive Lp:Tr->Mm->Tr->Mm->Prop where
 | load (c k s):Lp (.load c k) s (k (bJ s.cs c)) s
 | kH (c o n k s) (b:Bool) (hb:b=true↔iJ s.cs c o):Lp (.kH c o n k) s (k b) ⟨s.nodes,eK s.cs c o n,s.gen⟩
inductive Rc:Nat->Tr->Mm->Tr->Mm->Prop where
 | refl (t s):Rc 0 t s t s
 | eD {j t s t1 s1 t2 s2}:Rc j t s t1 s1->Sp t1 s1 t2 s2->Rc j t s t2 s2
 | loud {j t s t1 s1 t2 s2}:Rc j t s t1 s1->Lp t1 s1 t2 s2->Rc (j+1) t s t2 s2
inductive Wk(L:List Nv):Tr->List Int->List Int->List Int->List Int->Tr->Prop where
 | nil (t):Wk L t [] [] [] [] t
 | load {c k v gs ms cl gn R}:Wk L (k v) gs ms cl gn R->Wk L (.load c k) (v::gs) ms cl gn R
 | kH {c o n k v gs ms cl gn R}:Wk L (k (v==1)) gs ms cl gn R->Wk L (.kH c o n k) (v::gs) ms cl gn R
 | alloc {n i k r gs ms cl gn R}:Wk L (k r) gs ms cl gn R->Wk L (.alloc n i k) gs (r::ms) cl gn R
 | cell {i k r gs ms cl gn R}:Wk L (k r) gs ms cl gn R->Wk L (.cell i k) gs ms (r::cl) gn R
 | gen {k r gs ms cl gn R}:Wk L (k r) gs ms cl gn R->Wk L (.gen k) gs ms cl (r::gn) R
 | node {r:Int} {k gs ms cl gn R}:r<=L.length->Wk L (k (bH L r)) gs ms cl gn R->Wk L (.node r k) gs ms cl gn R
theorem Wk.mono{L N:List Nv}{t R:Tr}{gs ms cl gn:List Int}(h:Wk L t gs ms cl gn R):Wk (L++N) t gs ms cl gn R:=by
 induction h with
 | nil t=>exact .nil t
 | load _ ih=>exact .load ih
 | kH _ ih=>exact .kH ih
 | alloc _ ih=>exact .alloc ih
 | cell _ ih=>exact .cell ih
 | gen _ ih=>exact .gen ih
 | node h _ ih=>exact .node (by simp;omega) (by rw[I2 h];exact ih)
theorem Wk.trans{L:List Nv}{t t1 R:Tr}{gs ms cl gn gs' ms' cl' gn':List Int}(h:Wk L t gs ms cl gn t1)(h2:Wk L t1 gs' ms' cl' gn' R):Wk L t (gs++gs') (ms++ms') (cl++cl') (gn++gn') R:=by
 induction h with
 | nil t=>exact h2
 | load _ ih=>exact .load (ih h2)
 | kH _ ih=>exact .kH (ih h2)
 | alloc _ ih=>exact .alloc (ih h2)
 | cell _ ih=>exact .cell (ih h2)
 | gen _ ih=>exact .gen (ih h2)
 | node h _ ih=>exact .node h (ih h2)
def bV:Tr->Nat->Nat->Prop
 | .done _,_,_=>True
 | .stuck,_,_=>False
 | .load _ _,0,_=>True
 | .load _ k,n+1,_=>∀v,bV (k v) n 64
 | .kH _ _ _ _,0,_=>True
 | .kH _ _ _ k,n+1,_=>∀v,bV (k v) n 64
 | .alloc _ _ _,_,0=>False
 | .alloc _ _ k,n,c+1=>∀v,bV (k v) n c
 | .cell _ _,_,0=>False
 | .cell _ k,n,c+1=>∀v,bV (k v) n c
 | .gen _,_,0=>False
 | .gen k,n,c+1=>∀v,bV (k v) n c
 | .node _ k,n,c=>∀v,bV (k v) n c
theorem Wk.wC{L:List Nv}{t R:Tr}{gs ms cl gn:List Int}(h:Wk L t gs ms cl gn R):∀{n c:Nat},c<=64->bV t n c->gs.length<=n->∃c',bV R (n-gs.length) c'/\c'<=64/\ms.length+cl.length+gn.length+c'<=c+64*gs.length:=by
 induction h with
 | nil t=>intro n c hc ht _;exact⟨c,ht,hc,by simp⟩
 | load _ ih=>
  intro n c hc ht hn;cases n with
  | zero=>simp at hn
  | succ n=>obtain⟨c',h1,h2,h3⟩:=ih (Nat.le_refl 64) (ht _) (by simpa using hn);exact⟨c',by simpa using h1,h2,by simp only[List.length_cons];omega⟩
 | kH _ ih=>
  intro n c hc ht hn;cases n with
  | zero=>simp at hn
  | succ n=>obtain⟨c',h1,h2,h3⟩:=ih (Nat.le_refl 64) (ht _) (by simpa using hn);exact⟨c',by simpa using h1,h2,by simp only[List.length_cons];omega⟩
 | alloc _ ih=>
  intro n c hc ht hn;cases c with
  | zero=>exact ht.elim
  | succ c=>obtain⟨c',h1,h2,h3⟩:=ih (by omega) (ht _) hn;exact⟨c',h1,h2,by simp only[List.length_cons];omega⟩
 | cell _ ih=>
  intro n c hc ht hn;cases c with
  | zero=>exact ht.elim
  | succ c=>obtain⟨c',h1,h2,h3⟩:=ih (by omega) (ht _) hn;exact⟨c',h1,h2,by simp only[List.length_cons];omega⟩
 | gen _ ih=>
  intro n c hc ht hn;cases c with
  | zero=>exact ht.elim
  | succ c=>obtain⟨c',h1,h2,h3⟩:=ih (by omega) (ht _) hn;exact⟨c',h1,h2,by simp only[List.length_cons];omega⟩
 | node _ _ ih=>intro n c hc ht hn;exact ih hc (ht _) hn
theorem Rc.wC{j:Nat}{t t':Tr}{s s':Mm}(h:Rc j t s t' s'):∀{n c:Nat},c<=64->bV t n c->j<=n->∃c',bV t' (n-j) c'/\c'<=64/\s.nodes.length<=s'.nodes.length/\s'.nodes.length+c'<=s.nodes.length+c+64*j/\s'.cs.length+c'<=s.cs.length+c+64*j/\s'.gen+c'<=s.gen+c+64*j:=by
 induction h with
 | refl t s=>intro n c hc ht _;exact⟨c,ht,hc,by omega,by omega,by omega,by omega⟩
 | @eD j t s t1 s1 t2 s2 _ hs ih=>
  intro n c hc ht hn;obtain⟨c',h1,h2,h3,h4,h5,h6⟩:=ih hc ht hn;cases hs with
  | alloc nn i k s=>
   cases c' with
   | zero=>exact h1.elim
   | succ c'=>have hl:=mF (k:=nn.kind) (cs:=s1.cs) (init:=i);exact⟨c',h1 _,by omega,by simp[Mm.push];omega,by simp[Mm.push];omega,by simp only[Mm.push];omega,by simp only[Mm.push];omega⟩
  | cell i k s=>
   cases c' with
   | zero=>exact h1.elim
   | succ c'=>exact⟨c',h1 _,by omega,by simpa using h3,by simp;omega,by simp;omega,by simp;omega⟩
  | gen k s=>
   cases c' with
   | zero=>exact h1.elim
   | succ c'=>exact⟨c',h1 _,by omega,by simpa using h3,by simp;omega,by simp;omega,by simp;omega⟩
  | node r k s h=>exact⟨c',h1 _,h2,h3,h4,h5,h6⟩
 | loud _ hs ih=>
  intro n c hc ht hn;obtain⟨c',h1,h2,h3,h4,h5,h6⟩:=ih hc ht (by omega);rename_i j _ _ _ _ _ _ _;obtain⟨d,hd⟩:∃d,n-j=d+1:=⟨n-j-1,by omega⟩;rw[hd] at h1;have e:n-(j+1)=d:=by omega
  rw[e];cases hs with
  | load c k s=>exact⟨64,h1 _,Nat.le_refl _,h3,by omega,by omega,by omega⟩
  | kH c o nn k s b hb=>exact⟨64,h1 _,Nat.le_refl _,h3,by simp only;omega,by simp only[gN];omega,by simp only;omega⟩
end
section
structure XS where
 L:List aR
 cs:List Int
 gen:Int
 acc:Int
 pn:Option Addr
 cn:Nat
 pc:Option Addr
 cc:Nat
 got:List Int
 made:List Int
 cel:List Int
 gns:List Int
 pg:Option Addr
 kg:Nat
 pm:Option Addr
 km:Nat
 pl:Option Addr
 kl:Nat
 pe:Option Addr
 ke:Nat
 a:Nat
 m:Nat
 c:Nat
 g:Nat
 fr:Nat
 st:Bool
 nx:Ac
def XS.nodes(x:XS):List Nv:=x.L.map aR.c
def XS.mm(x:XS):Mm:=⟨x.L.map aR.c,x.cs,x.gen⟩
structure Gx where
 T:Tr
 R:Tr
 s:Mm
 fr:Nat
 N:Nat
structure Gx.Ok(g:Gx):Prop where
 wC:bV g.T g.N 64
 tameR:∃n,g.fr<=n/\bV g.R n 64
 hN:g.N<=1073741824
 hf:g.fr<=1
 hs:g.s.nodes.length<=137438953472/\g.s.cs.length<=137438953472/\g.s.gen<=137438953472
structure GdR(g:Gx)(x:XS)(t R:Tr):Prop where
 pre:Wk x.nodes g.T (x.got.take x.a) (x.made.take x.m) (x.cel.take x.c) (x.gns.take x.g) t
 suf:Wk x.nodes t (x.got.drop x.a) (x.made.drop x.m) (x.cel.drop x.c) (x.gns.drop x.g) R
 rc:Rc (g.fr-x.fr) g.R g.s R x.mm
 hf:x.fr<=g.fr
 la:x.a<=x.got.length
 lm:x.m<=x.made.length
 lc:x.c<=x.cel.length
 lg:x.g<=x.gns.length
 hN:x.got.length+x.fr=g.N
def Gd(g:Gx)(x:XS)(t:Tr):Prop:=∃R,GdR g x t R
def Tr.acc:Tr->Option Ac
 | .load c _=>some ⟨1,c,0,0⟩
 | .kH c o n _=>some ⟨2,c,o,n⟩
 | _=>none
structure aBl(g:Gx)(x:XS)(R:Tr):Prop where
 ac:R.acc=some x.nx
 wk:Wk x.nodes g.T x.got x.made x.cel x.gns R
 rc:Rc g.fr g.R g.s R x.mm
 hN:x.got.length=g.N
def aDL(g:Gx)(x:XS):Prop:=∃R,aBl g x R
def gG(g:Gx)(x:XS)(t:Tr):Prop:=(x.st=false/\Gd g x t)∨(x.st=true/\aDL g x)
variable{g:Gx}{x:XS}{t t':Tr}{l:List Int}{k:Nat}{L:List Nv}{c i:Int}
theorem gG.bY(h:gG g x t)(hs:x.st=true):gG g x t':=by
 rcases h with h|h;·rw[hs] at h;exact nomatch h.1
 ·exact .inr h
theorem gG.run(h:gG g x t)(hs:x.st=false):Gd g x t:=by
 rcases h with h|h;·exact h.2
 ·rw[hs] at h;exact nomatch h.1
theorem gG.to(h:gG g x t)(e:x.st=false->t=t'):gG g x t':=by
 rcases h with h|h;·exact .inl ⟨h.1,e h.1▸h.2⟩
 ·exact .inr h
theorem drop_cons(h:k<l.length):l.drop k=l.getD k 0::l.drop (k+1):=by rw[List.drop_eq_getElem_cons h];simp[jA,h]
theorem mD(h:k<l.length):l.take (k+1)=l.take k++[l.getD k 0]:=by rw[List.take_add_one];simp[jA,h]
theorem Wk.zf{k:Int->Tr}(v:Int):Wk L (.load c k) [v] [] [] [] (k v):=.load (.nil _)
theorem Wk.aDt{o n:Int}{k:Bool->Tr}(v:Int):Wk L (.kH c o n k) [v] [] [] [] (k (v==1)):=.kH (.nil _)
theorem Wk.r9{n:Nv}{k:Int->Tr}(v:Int):Wk L (.alloc n i k) [] [v] [] [] (k v):=.alloc (.nil _)
theorem Wk.Lx{k:Int->Tr}(v:Int):Wk L (.cell i k) [] [] [v] [] (k v):=.cell (.nil _)
theorem Wk.aDC{k:Int->Tr}(v:Int):Wk L (.gen k) [] [] [] [v] (k v):=.gen (.nil _)
theorem Wk.node1{r:Int}{k:Nv->Tr}(h:r<=L.length):Wk L (.node r k) [] [] [] [] (k (bH L r)):=.node h (.nil _)
section
variable{g:Gx}{x:XS}{c o n i r:Int}{k:Int->Tr}{kb:Bool->Tr}{kn:Nv->Tr}{nn:Nv}{t R:Tr}
theorem GdR.full(h:GdR g x t R):Wk x.nodes g.T x.got x.made x.cel x.gns R:=by have:=h.pre.trans h.suf;simpa only[List.take_append_drop] using this
theorem yP{l:List Int}{k:Nat}(h:l.drop k=[])(h2:k<=l.length):k=l.length:=by have:=List.drop_eq_nil_iff.1 h;omega
theorem Gd.H7(h:Gd g x (.load c k))(ha:x.a<x.got.length):Gd g {x with a:=x.a+1} (k (x.got.getD x.a 0)):=by
 obtain⟨R,h⟩:=h;have hs:=h.suf;rw[drop_cons ha] at hs;have hp:=h.pre.trans (Wk.zf (x.got.getD x.a 0));simp only[List.append_nil] at hp
 rw[<- mD ha] at hp;cases hs with
 | load hs=>exact⟨R,hp,hs,h.rc,h.hf,ha,h.lm,h.lc,h.lg,h.hN⟩
theorem Gd.Nw(h:Gd g x (.kH c o n kb))(ha:x.a<x.got.length):Gd g {x with a:=x.a+1} (kb (x.got.getD x.a 0==1)):=by
 obtain⟨R,h⟩:=h;have hs:=h.suf;rw[drop_cons ha] at hs;have hp:=h.pre.trans (Wk.aDt (x.got.getD x.a 0));simp only[List.append_nil] at hp
 rw[<- mD ha] at hp;cases hs with
 | kH hs=>exact⟨R,hp,hs,h.rc,h.hf,ha,h.lm,h.lc,h.lg,h.hN⟩
structure AtR(g:Gx)(x:XS)(t:Tr):Prop where
 wk:Wk x.nodes g.T x.got x.made x.cel x.gns t
 rc:Rc (g.fr-x.fr) g.R g.s t x.mm
 hf:x.fr<=g.fr
 ea:x.a=x.got.length
 em:x.m=x.made.length
 ec:x.c=x.cel.length
 eg:x.g=x.gns.length
 hN:x.got.length+x.fr=g.N
theorem AtR.aDw(h:AtR g x t):Gd g x t:=by
 refine⟨t,?_,?_,h.rc,h.hf,by rw[h.ea];exact Nat.le_refl _,by rw[h.em];exact Nat.le_refl _,by rw[h.ec];exact Nat.le_refl _,by rw[h.eg];exact Nat.le_refl _,h.hN⟩;·rw[h.ea,h.em,h.ec,h.eg];simpa using h.wk
 ·rw[h.ea,h.em,h.ec,h.eg];simpa using Wk.nil t
theorem GdR.atR(h:GdR g x t t)(h1:x.got.drop x.a=[])(h2:x.made.drop x.m=[])(h3:x.cel.drop x.c=[])(h4:x.gns.drop x.g=[]):AtR g x t :=⟨h.full,h.rc,h.hf,yP h1 h.la,yP h2 h.lm,yP h3 h.lc,yP h4 h.lg,h.hN⟩
theorem Gd.vm(h:Gd g x (.load c k))(ha:¬x.a<x.got.length):AtR g x (.load c k):=by
 obtain⟨R,h⟩:=h;have hs:=h.suf;have e:x.got.drop x.a=[]:=List.drop_eq_nil_iff.2 (by omega);rw[e] at hs;generalize e2:x.made.drop x.m=l2 at hs;generalize e3:x.cel.drop x.c=l3 at hs;generalize e4:x.gns.drop x.g=l4 at hs;cases hs
 exact h.atR e e2 e3 e4
theorem Gd.aCc(h:Gd g x (.kH c o n kb))(ha:¬x.a<x.got.length):AtR g x (.kH c o n kb):=by
 obtain⟨R,h⟩:=h;have hs:=h.suf;have e:x.got.drop x.a=[]:=List.drop_eq_nil_iff.2 (by omega);rw[e] at hs;generalize e2:x.made.drop x.m=l2 at hs;generalize e3:x.cel.drop x.c=l3 at hs;generalize e4:x.gns.drop x.g=l4 at hs;cases hs
 exact h.atR e e2 e3 e4
theorem AtR.stop{y:XS}(h:AtR g x t)(h0:x.fr=0)(ht:t.acc=some y.nx)(hs:y.st=true)(e1:y.got=x.got)(e2:y.made=x.made)(e3:y.cel=x.cel)(e4:y.gns=x.gns)(e5:y.L=x.L)(e6:y.cs=x.cs)(e7:y.gen=x.gen):gG g y t:=by
 refine .inr ⟨hs,t,ht,?_,?_,?_⟩;·simp only[XS.nodes,e1,e2,e3,e4,e5];exact h.wk
 ·have:=h.rc;rw[h0] at this;simpa only[XS.mm,e5,e6,e7,Nat.sub_zero] using this
 ·rw[e1];have:=h.hN;omega
theorem AtR.now{y:XS}{t':Tr}{v:Int}(h:AtR g x t)(h0:0<x.fr)(hw:∀L,Wk L t [v] [] [] [] t')(hl:Lp t x.mm t' y.mm)
  (hs:y.st=false) (e1:y.got=x.got++[v]) (e2:y.made=x.made) (e3:y.cel=x.cel) (e4:y.gns=x.gns) (e5:y.L=x.L) (e8:y.fr=x.fr-1) (e9:y.a=x.a+1) (em:y.m=x.m) (ec:y.c=x.c) (eg:y.g=x.g):gG g y t':=by
 refine .inl ⟨hs,AtR.aDw ⟨?_,?_,by have:=h.hf;omega,by rw[e9,e1,h.ea];simp,by rw[em,e2,h.em],by rw[ec,e3,h.ec],by rw[eg,e4,h.eg],by rw[e1,e8];have:=h.hN;simp;omega⟩⟩;·have:=h.wk.trans (hw x.nodes);simp only[List.append_nil] at this;simp only[XS.nodes,e1,e2,e3,e4,e5];exact this
 ·have:=h.rc.loud hl;rwa [show g.fr-x.fr+1=g.fr-y.fr by have:=h.hf;omega] at this
theorem Gd.alloc_old(h:Gd g x (.alloc nn i k))(ha:x.m<x.made.length):Gd g {x with m:=x.m+1} (k (x.made.getD x.m 0)):=by
 obtain⟨R,h⟩:=h;have hs:=h.suf;rw[drop_cons ha] at hs;have hp:=h.pre.trans (Wk.r9 (x.made.getD x.m 0));simp only[List.append_nil] at hp
 rw[<- mD ha] at hp;generalize e0:x.got.drop x.a=l0 at hs;generalize e1:x.cel.drop x.c=l1 at hs;generalize e2:x.gns.drop x.g=l2 at hs;cases hs with
 | alloc hs=>exact⟨R,hp,by simp only[];rw[e0,e1,e2];exact hs,h.rc,h.hf,h.la,ha,h.lc,h.lg,h.hN⟩
theorem Gd.jy(h:Gd g x (.alloc nn i k))(ha:x.m=x.made.length):AtR g x (.alloc nn i k):=by
 obtain⟨R,h⟩:=h;have hs:=h.suf;have e:x.made.drop x.m=[]:=List.drop_eq_nil_iff.2 (by omega);rw[e] at hs;generalize e2:x.got.drop x.a=l2 at hs;generalize e3:x.cel.drop x.c=l3 at hs;generalize e4:x.gns.drop x.g=l4 at hs;cases hs
 exact h.atR e2 e e3 e4
theorem Gd.Gz(h:Gd g x (.cell i k))(ha:x.c<x.cel.length):Gd g {x with c:=x.c+1} (k (x.cel.getD x.c 0)):=by
 obtain⟨R,h⟩:=h;have hs:=h.suf;rw[drop_cons ha] at hs;have hp:=h.pre.trans (Wk.Lx (x.cel.getD x.c 0));simp only[List.append_nil] at hp
 rw[<- mD ha] at hp;generalize e0:x.got.drop x.a=l0 at hs;generalize e1:x.made.drop x.m=l1 at hs;generalize e2:x.gns.drop x.g=l2 at hs;cases hs with
 | cell hs=>exact⟨R,hp,by simp only[];rw[e0,e1,e2];exact hs,h.rc,h.hf,h.la,h.lm,ha,h.lg,h.hN⟩
theorem Gd.yl(h:Gd g x (.cell i k))(ha:x.c=x.cel.length):AtR g x (.cell i k):=by
 obtain⟨R,h⟩:=h;have hs:=h.suf;have e:x.cel.drop x.c=[]:=List.drop_eq_nil_iff.2 (by omega);rw[e] at hs;generalize e2:x.got.drop x.a=l2 at hs;generalize e3:x.made.drop x.m=l3 at hs;generalize e4:x.gns.drop x.g=l4 at hs;cases hs
 exact h.atR e2 e3 e e4
theorem Gd.Nh(h:Gd g x (.gen k))(ha:x.g<x.gns.length):Gd g {x with g:=x.g+1} (k (x.gns.getD x.g 0)):=by
 obtain⟨R,h⟩:=h;have hs:=h.suf;rw[drop_cons ha] at hs;have hp:=h.pre.trans (Wk.aDC (x.gns.getD x.g 0));simp only[List.append_nil] at hp
 rw[<- mD ha] at hp;generalize e0:x.got.drop x.a=l0 at hs;generalize e1:x.made.drop x.m=l1 at hs;generalize e2:x.cel.drop x.c=l2 at hs;cases hs with
 | gen hs=>exact⟨R,hp,by simp only[];rw[e0,e1,e2];exact hs,h.rc,h.hf,h.la,h.lm,h.lc,ha,h.hN⟩
theorem Gd.aBd(h:Gd g x (.gen k))(ha:x.g=x.gns.length):AtR g x (.gen k):=by
 obtain⟨R,h⟩:=h;have hs:=h.suf;have e:x.gns.drop x.g=[]:=List.drop_eq_nil_iff.2 (by omega);rw[e] at hs;generalize e2:x.got.drop x.a=l2 at hs;generalize e3:x.made.drop x.m=l3 at hs;generalize e4:x.cel.drop x.c=l4 at hs;cases hs
 exact h.atR e2 e3 e4 e
theorem Gd.node(h:Gd g x (.node r kn))(hr:r<=x.L.length):Gd g x (kn (bH x.nodes r)):=by
 have hr':r<=x.nodes.length:=by simpa[XS.nodes] using hr
 obtain⟨R,h⟩:=h;have hs:=h.suf;have hp:=h.pre.trans (Wk.node1 (k:=kn) hr');simp only[List.append_nil] at hp
 generalize e1:x.got.drop x.a=l1 at hs;generalize e2:x.made.drop x.m=l2 at hs;generalize e3:x.cel.drop x.c=l3 at hs;generalize e4:x.gns.drop x.g=l4 at hs;cases hs with
 | nil=>exact⟨_,hp,by rw[e1,e2,e3,e4];exact .nil _,h.rc.eD (.node r kn x.mm (by simpa[XS.mm] using hr)),h.hf,h.la,h.lm,h.lc,h.lg,h.hN⟩
 | node _ hs=>exact⟨R,hp,by rw[e1,e2,e3,e4];exact hs,h.rc,h.hf,h.la,h.lm,h.lc,h.lg,h.hN⟩
theorem gG.node(h:gG g x (.node r kn))(hr:r<=x.L.length):gG g x (kn (bH x.nodes r)):=by
 rcases h with h|h;·exact .inl ⟨h.1,h.2.node hr⟩
 ·exact .inr h
theorem AtR.eD{y:XS}{t':Tr}{ms cl gn:List Int}{N:List aR}(h:AtR g x t)(hw:∀L,Wk L t [] ms cl gn t')(hl:Sp t x.mm t' y.mm)
  (hs:y.st=false) (e1:y.got=x.got) (e2:y.made=x.made++ms) (e3:y.cel=x.cel++cl) (e4:y.gns=x.gns++gn) (e5:y.L=x.L++N) (e8:y.fr=x.fr) (e9:y.a=x.a) (em:y.m=x.m+ms.length) (ec:y.c=x.c+cl.length) (eg:y.g=x.g+gn.length):gG g y t':=by
 refine .inl ⟨hs,AtR.aDw ⟨?_,?_,by rw[e8];exact h.hf,by rw[e9,e1,h.ea],by rw[em,e2,h.em];simp,by rw[ec,e3,h.ec];simp,by rw[eg,e4,h.eg];simp,by rw[e1,e8];exact h.hN⟩⟩
 ·have:=(h.wk.trans (hw x.nodes)).mono (N:=N.map aR.c);simp only[List.append_nil] at this;have e:y.nodes=x.nodes++N.map aR.c:=by simp[XS.nodes,e5]
  rw[e,e1,e2,e3,e4];exact this
 ·rw[e8];exact h.rc.eD hl
theorem AtR.room(hg:g.Ok)(h:AtR g x t):∃n c,bV t n c/\c<=64/\x.L.length+c<=137438953600/\x.cs.length+c<=137438953600/\x.gen+c<=137438953600/\x.made.length<=137438953472/\x.cel.length<=137438953472/\x.gns.length<=137438953472:=by
 obtain⟨n,h1,h2⟩:=hg.tameR;have hf:=hg.hf;obtain⟨c',t1,t2,_,t3,t4,t5⟩:=h.rc.wC (Nat.le_refl 64) h2 (by omega);obtain⟨c2,_,_,u3⟩:=h.wk.wC (Nat.le_refl 64) hg.wC (by have:=h.hN;omega);have:=hg.hs;have:=hg.hN;have:=h.hN;simp only[XS.mm,List.length_map] at t3 t4 t5
 refine⟨_,c',t1,t2,by omega,by omega,by omega,by omega,by omega,by omega⟩
theorem Gd.Z4(hg:g.Ok)(h:Gd g x .stuck):False:=by obtain⟨R,h⟩:=h;obtain⟨c2,u1,_,_⟩:=h.pre.wC (Nat.le_refl 64) hg.wC (by have:=h.hN;have:=h.la;simp;omega);exact u1
end
end
section
structure mT(n c:Nat)(v:Nv):Prop where
 bR:v.bR<=n
 exp:v.exp<=n
 new:v.new<=n
 br:∀r∈v.xs,r<=n
 main:v.main<=c
 prev:v.prev<=c
 status:v.status<=c
 bm:∃b:Nat,v.bm=(b:Int)/\b<18446744073709551616
 hash:∃b:Nat,v.hash=(b:Int)/\b<18446744073709551616
theorem mT.mono{n c n' c':Nat}{v:Nv}(h:mT n c v)(h1:n<=n')(h2:c<=c'):mT n' c' v :=⟨by have:=h.bR;omega,by have:=h.exp;omega,by have:=h.new;omega,λ r hr=>by have:=h.br r hr;omega,by have:=h.main;omega,by have:=h.prev;omega,by have:=h.status;omega,h.bm,h.hash⟩
theorem Sn(n c:Nat):mT n c Nv.zero:=⟨bM _,bM _,bM _,(λ r hr=>nomatch hr),bM _,bM _,bM _,⟨0,rfl,by decide⟩,⟨0,rfl,by decide⟩⟩
structure XS.Ok(x:XS):Prop where
 fit:Fits x.L
 nd:∀v∈x.L,mT x.L.length x.cs.length v.c
 cs:∀v∈x.cs,v<=x.L.length
 got:∀v∈x.got,v<=x.L.length
 made:∀v∈x.made,v<=x.L.length
 two:2<=x.L.length
 lL:x.L.length<=137438953600
 lc:x.cs.length<=137438953600
 lg:x.got.length<=1073741824
 la:x.a<=x.got.length
 lm:x.m<=x.made.length
 lk:x.c<=x.cel.length
 le:x.g<=x.gns.length
 fr:x.fr<=1
 ys:∀v∈x.L,v.ys.length<=x.L.length
 gen0:0<=x.gen
 ms:∀i j:Nat,i<j->j<x.made.length->x.made.getD i 0<x.made.getD j 0
 m1:∀v∈x.made,1<=v
theorem mV{l:List Int}{n:Nat}(h:∀v∈l,v<=n)(k:Nat):l.getD k 0<=n:=by
 rw[jA];cases hk:l[k]? with
 | none=>exact bM n
 | some v=>exact h v (List.mem_of_getElem? hk)
theorem XS.Ok.nv{x:XS}(h:x.Ok)(r:Int):mT x.L.length x.cs.length (aB x.L r).c:=by
 unfold aB;split;·exact h.nd _ (fZ (by omega))
 ·exact Sn _ _
theorem XS.Ok.cell{x:XS}(h:x.Ok)(c:Int):bJ x.cs c<=x.L.length:=by
 unfold bJ;split;·exact mV h.cs _
 ·exact bM _
structure Nx(g:Gx)(x x':XS)(N:List aR)(t:Tr)(b:Int):Prop where
 go:gG g x' t
 ok:x'.Ok
 ext:x'.L=x.L++N
 lc:x.cs.length<=x'.cs.length
 bd:b<=x'.L.length
def Ch(x0 x:XS)(F:Fr):Prop:=∃N,x.L=x0.L++N/\∀f∈aP N,f.2=[]∨f∈F
variable{x0 x x':XS}{F A:Fr}{O:List Ow}
theorem Ch.base:Ch x0 x0 F:=⟨[],by simp,λ f hf=>by simp[aP] at hf⟩
theorem Ch.ext{N:List aR}(h:Ch x0 x F)(e:x'.L=x.L++N):Ch x0 x' (aP N++F):=by
 obtain⟨M,h1,h2⟩:=h;refine⟨M++N,by rw[e,h1,List.append_assoc],λ f hf=>?_⟩;rw[cU] at hf;rcases List.mem_append.1 hf with hf|hf;·exact(h2 f hf).imp_right λ h=>List.mem_append_right _ h
 ·exact .inr (List.mem_append_left _ hf)
theorem Ch.nx{g:Gx}{N:List aR}{t:Tr}{b:Int}(h:Nx g x x' N t b)(hc:Ch x0 x F):Ch x0 x' (aP N++F):=hc.ext h.ext
theorem Ch.cons{f:Option Addr×List Value}(h:Ch x0 x F):Ch x0 x (f::F):=by obtain⟨M,h1,h2⟩:=h;exact⟨M,h1,λ g hg=>(h2 g hg).imp_right λ h=>List.mem_cons_of_mem _ h⟩
theorem Ch.all(h:Ch x0 x F)(hA:∀f∈aP x0.L,f∈A):bG A F O (aP x.L):=by
 obtain⟨M,h1,h2⟩:=h;refine .of λ f hf=>?_;rw[h1,cU] at hf;rcases List.mem_append.1 hf with hf|hf
 ·exact .inr (.inl (hA f hf))
 ·exact(h2 f hf).imp_right λ h=>.inr (.inl h)
theorem SF.oc{w0 w:World}{M:List Nat}{H:List (Nat×Obj)}(h:SF w0 M H A F O w)(hc:Ch x0 x F)(hA:∀f∈aP x0.L,f∈A)(ok:x.Ok)(r:Int):sE w (aB x.L r).nd (aB x.L r).xs (aB x.L r).ys:=by
 unfold aB;split;·have hv:=fZ (L:=x.L) (k:=(r-1).toNat) (by omega);have hk:=(hc.all (O:=O) hA).get;generalize x.L.getD (r-1).toNat aR.zero=v at hv ⊢;exact(ok.fit _ hv).sM (h.clH (hk (v.nd.brA,aH v.xs) (tF.2 ⟨v,hv,by simp[aR.fr]⟩))) (h.clH (hk (v.nd.prA,dI v.ys) (tF.2 ⟨v,hv,by simp[aR.fr]⟩)))
 ·exact R8.sM (Cl.nil _ _) (Cl.nil _ _)
end
end Go.Ct

/- Accesses and results. -/
import Derived.Test.YtpobgmdalcpomaaGreatGAr2
import Derived.Test.YtpobgmdalcpomaaGreatGAr9

set_option linter.unusedSimpArgs false
set_option linter.unusedVariables false
namespace Go.Ct
section
open Go Go.RowKit
structure Ac where
 k:Int
 c:Int
 o:Int
 n:Int
structure Rs where
 err:Int
 found:Bool
 val:Int
 key:ByteArray
 hJ:Int
 ref:Int
 root:Int
 ro:Bool
abbrev Ac.cells(a:Ac):List Value:=[.int .i64 a.k,.int .i64 a.c,.int .i64 a.o,.int .i64 a.n]
abbrev Rs.cells(r:Rs):List Value:=[.int .i64 r.err,.bool r.found,.int .u64 r.val,.string r.key,.int .i64 r.hJ,.int .i64 r.ref,.int .i64 r.root,.bool r.ro]
abbrev Rs.zero:Rs:=⟨0,false,0,⟨#[]⟩,0,0,0,false⟩
abbrev Ac.zero:Ac:=⟨0,0,0,0⟩
end

/- Procedures as trees; what an execution of the reference remembers of one. -/
section
inductive Tr where
 | done (r:Rs)
 | load (c:Int) (k:Int->Tr)
 | qN (c o n:Int) (k:Bool->Tr)
 | alloc (n:Nv) (i:Int) (k:Int->Tr)
 | cell (i:Int) (k:Int->Tr)
 | gen (k:Int->Tr)
 | node (r:Int) (k:Nv->Tr)
 | stuck
structure Mm where
 nodes:List Nv
 cs:List Int
 gen:Int
def Nv.zero:Nv:=aQ.zero.c
def cG(L:List Nv)(r:Int):Nv:=if 1<=r/\r<=L.length then L.getD (r-1).toNat Nv.zero else Nv.zero
theorem K5(L:List aQ)(r:Int):(aD L r).c=cG (L.map aQ.c) r:=by
 unfold aD cG
 rw[List.length_map]
 split
 ·rename_i h
  have h2:(r-1).toNat<L.length:=by omega
  simp only[gdg,List.getElem?_map,List.getElem?_eq_getElem h2,Option.map_some,Option.getD_some]
 ·rfl
theorem My{L N:List Nv}{r:Int}(h:r<=L.length):cG (L++N) r=cG L r:=by
 unfold cG
 by_cases h1:1<=r
 ·rw[if_pos ⟨h1,by simp;omega⟩,if_pos ⟨h1,h⟩,gdg,gdg,List.getElem?_append_left (by omega)]
 ·rw[if_neg (by omega),if_neg (by omega)]
def eN(n:Nv)(c:Nat):Nv:={n with main:=if n.kind=2 then((c+1:Nat):Int) else 0,prev:=if n.kind=3∨n.kind=5∨n.kind=6 then((c+1:Nat):Int) else 0,status:=if n.kind=8 then((c+1:Nat):Int) else 0}
def Mm.push(s:Mm)(n:Nv)(i:Int):Mm:=⟨s.nodes++[eN n s.cs.length],eQ n.kind s.cs i,s.gen⟩
inductive Sp:Tr->Mm->Tr->Mm->Prop where
 | alloc (n i k s):Sp (.alloc n i k) s (k ((s.nodes.length+1:Nat):Int)) (s.push n i)
 | cell (i k s):Sp (.cell i k) s (k ((s.cs.length+1:Nat):Int)) ⟨s.nodes,s.cs++[i],s.gen⟩
 | gen (k s):Sp (.gen k) s (k (s.gen+1)) ⟨s.nodes,s.cs,s.gen+1⟩
 | node (r:Int) (k s) (h:r<=s.nodes.length):Sp (.node r k) s (k (cG s.nodes r)) s
inductive Lp:Tr->Mm->Tr->Mm->Prop where
 | load (c k s):Lp (.load c k) s (k (bY s.cs c)) s
 | qN (c o n k s) (b:Bool) (hb:b=true↔nE s.cs c o):Lp (.qN c o n k) s (k b) ⟨s.nodes,iJ s.cs c o n,s.gen⟩
inductive Rc:Nat->Tr->Mm->Tr->Mm->Prop where
 | refl (t s):Rc 0 t s t s
 | Td {j t s t1 s1 t2 s2}:Rc j t s t1 s1->Sp t1 s1 t2 s2->Rc j t s t2 s2
 | loud {j t s t1 s1 t2 s2}:Rc j t s t1 s1->Lp t1 s1 t2 s2->Rc (j+1) t s t2 s2
inductive Wk(L:List Nv):Tr->List Int->List Int->List Int->List Int->Tr->Prop where
 | nil (t):Wk L t [] [] [] [] t
 | load {c k v gs ms cl gn R}:Wk L (k v) gs ms cl gn R->Wk L (.load c k) (v::gs) ms cl gn R
 | qN {c o n k v gs ms cl gn R}:Wk L (k (v==1)) gs ms cl gn R->Wk L (.qN c o n k) (v::gs) ms cl gn R
 | alloc {n i k r gs ms cl gn R}:Wk L (k r) gs ms cl gn R->Wk L (.alloc n i k) gs (r::ms) cl gn R
 | cell {i k r gs ms cl gn R}:Wk L (k r) gs ms cl gn R->Wk L (.cell i k) gs ms (r::cl) gn R
 | gen {k r gs ms cl gn R}:Wk L (k r) gs ms cl gn R->Wk L (.gen k) gs ms cl (r::gn) R
 | node {r:Int} {k gs ms cl gn R}:r<=L.length->Wk L (k (cG L r)) gs ms cl gn R->Wk L (.node r k) gs ms cl gn R
theorem Wk.mono{L N:List Nv}{t R:Tr}{gs ms cl gn:List Int}(h:Wk L t gs ms cl gn R):Wk (L++N) t gs ms cl gn R:=by
 induction h with
 | nil t=>exact .nil t
 | load _ ih=>exact .load ih
 | qN _ ih=>exact .qN ih
 | alloc _ ih=>exact .alloc ih
 | cell _ ih=>exact .cell ih
 | gen _ ih=>exact .gen ih
 | node h _ ih=>exact .node (by simp;omega) (by rw[My h];exact ih)
theorem Wk.trans{L:List Nv}{t t1 R:Tr}{gs ms cl gn gs' ms' cl' gn':List Int}(h:Wk L t gs ms cl gn t1)(h2:Wk L t1 gs' ms' cl' gn' R):Wk L t (gs++gs') (ms++ms') (cl++cl') (gn++gn') R:=by
 induction h with
 | nil t=>exact h2
 | load _ ih=>exact .load (ih h2)
 | qN _ ih=>exact .qN (ih h2)
 | alloc _ ih=>exact .alloc (ih h2)
 | cell _ ih=>exact .cell (ih h2)
 | gen _ ih=>exact .gen (ih h2)
 | node h _ ih=>exact .node h (ih h2)
def cO:Tr->Nat->Nat->Prop
 | .done _,_,_=>True
 | .stuck,_,_=>False
 | .load _ _,0,_=>True
 | .load _ k,n+1,_=>∀v,cO (k v) n 64
 | .qN _ _ _ _,0,_=>True
 | .qN _ _ _ k,n+1,_=>∀v,cO (k v) n 64
 | .alloc _ _ _,_,0=>False
 | .alloc _ _ k,n,c+1=>∀v,cO (k v) n c
 | .cell _ _,_,0=>False
 | .cell _ k,n,c+1=>∀v,cO (k v) n c
 | .gen _,_,0=>False
 | .gen k,n,c+1=>∀v,cO (k v) n c
 | .node _ k,n,c=>∀v,cO (k v) n c
theorem Wk.vM{L:List Nv}{t R:Tr}{gs ms cl gn:List Int}(h:Wk L t gs ms cl gn R):∀{n c:Nat},c<=64->cO t n c->gs.length<=n->∃c',cO R (n-gs.length) c'/\c'<=64/\ms.length+cl.length+gn.length+c'<=c+64*gs.length:=by
 induction h with
 | nil t=>intro n c hc ht _;exact⟨c,ht,hc,by simp⟩
 | load _ ih =>
  intro n c hc ht hn
  cases n with
  | zero=>simp at hn
  | succ n =>
   obtain⟨c',h1,h2,h3⟩:=ih (Nat.le_refl 64) (ht _) (by simpa using hn)
   exact⟨c',by simpa using h1,h2,by simp only[List.length_cons];omega⟩
 | qN _ ih =>
  intro n c hc ht hn
  cases n with
  | zero=>simp at hn
  | succ n =>
   obtain⟨c',h1,h2,h3⟩:=ih (Nat.le_refl 64) (ht _) (by simpa using hn)
   exact⟨c',by simpa using h1,h2,by simp only[List.length_cons];omega⟩
 | alloc _ ih =>
  intro n c hc ht hn
  cases c with
  | zero=>exact ht.elim
  | succ c =>
   obtain⟨c',h1,h2,h3⟩:=ih (by omega) (ht _) hn
   exact⟨c',h1,h2,by simp only[List.length_cons];omega⟩
 | cell _ ih =>
  intro n c hc ht hn
  cases c with
  | zero=>exact ht.elim
  | succ c =>
   obtain⟨c',h1,h2,h3⟩:=ih (by omega) (ht _) hn
   exact⟨c',h1,h2,by simp only[List.length_cons];omega⟩
 | gen _ ih =>
  intro n c hc ht hn
  cases c with
  | zero=>exact ht.elim
  | succ c =>
   obtain⟨c',h1,h2,h3⟩:=ih (by omega) (ht _) hn
   exact⟨c',h1,h2,by simp only[List.length_cons];omega⟩
 | node _ _ ih=>intro n c hc ht hn;exact ih hc (ht _) hn
theorem Rc.vM{j:Nat}{t t':Tr}{s s':Mm}(h:Rc j t s t' s'):∀{n c:Nat},c<=64->cO t n c->j<=n->∃c',cO t' (n-j) c'/\c'<=64/\s.nodes.length<=s'.nodes.length/\s'.nodes.length+c'<=s.nodes.length+c+64*j/\s'.cs.length+c'<=s.cs.length+c+64*j/\s'.gen+c'<=s.gen+c+64*j:=by
 induction h with
 | refl t s=>intro n c hc ht _;exact⟨c,ht,hc,by omega,by omega,by omega,by omega⟩
 | @Td j t s t1 s1 t2 s2 _ hs ih =>
  intro n c hc ht hn
  obtain⟨c',h1,h2,h3,h4,h5,h6⟩:=ih hc ht hn
  cases hs with
  | alloc nn i k s =>
   cases c' with
   | zero=>exact h1.elim
   | succ c' =>
    have hl:=B1 (k:=nn.kind) (cs:=s1.cs) (init:=i)
    exact⟨c',h1 _,by omega,by simp[Mm.push];omega,by simp[Mm.push];omega,by simp only[Mm.push];omega,by simp only[Mm.push];omega⟩
  | cell i k s =>
   cases c' with
   | zero=>exact h1.elim
   | succ c'=>exact⟨c',h1 _,by omega,by simpa using h3,by simp;omega,by simp;omega,by simp;omega⟩
  | gen k s =>
   cases c' with
   | zero=>exact h1.elim
   | succ c'=>exact⟨c',h1 _,by omega,by simpa using h3,by simp;omega,by simp;omega,by simp;omega⟩
  | node r k s h=>exact⟨c',h1 _,h2,h3,h4,h5,h6⟩
 | loud _ hs ih =>
  intro n c hc ht hn
  obtain⟨c',h1,h2,h3,h4,h5,h6⟩:=ih hc ht (by omega)
  rename_i j _ _ _ _ _ _ _
  obtain⟨d,hd⟩:∃d,n-j=d+1:=⟨n-j-1,by omega⟩
  rw[hd] at h1
  have e:n-(j+1)=d:=by omega
  rw[e]
  cases hs with
  | load c k s=>exact⟨64,h1 _,Nat.le_refl _,h3,by omega,by omega,by omega⟩
  | qN c o nn k s b hb=>exact⟨64,h1 _,Nat.le_refl _,h3,by simp only;omega,by simp only[nQ];omega,by simp only;omega⟩
end

/- The contents of a trie in a state: what is computed. -/
section
def cK(n:Nv):Prop:=n.kind=3∨n.kind=5∨n.kind=6
instance (n:Nv):Decidable (cK n):=by unfold cK;exact inferInstance
def oB(N:List Nv)(cs:List Int)(c:Int):Int:=if(cG N (bY cs c)).kind=8 then(if bY cs (cG N (bY cs c)).status=1 then(cG N (bY cs c)).new else(cG N (bY cs c)).cE) else bY cs c
def fU(N:List Nv)(cs:List Int)(c:Int):Option Int:=if(cG N (oB N cs c)).kind=2 then some (oB N cs c) else none
def nL(N:List Nv)(cs:List Int)(i:Int):Int:=bY cs (cG N i).main
def mH(N:List Nv)(cs:List Int)(i:Int):Int:=bY cs (cG N (nL N cs i)).prev
def oF(N:List Nv)(cs:List Int)(i:Int):Int:=if(cG N (mH N cs i)).kind=7 then(cG N (mH N cs i)).cE else mH N cs i
def eR(N:List Nv)(cs:List Int)(i:Int):Option Int :=
 if(cG N i).kind=2/\cK (cG N (nL N cs i)) then
  if mH N cs i=0 then some (nL N cs i) else if cK (cG N (oF N cs i)) then some (oF N cs i) else none
 else none
def kE(N:List Nv)(f:Int->List Int->Option (List Int)):List Int->List Int->Option (List Int)
 | [],l=>some l
 | b::r,l=>if(cG N b).kind=4 then kE N f r l else if(cG N b).kind=2 then(f b l).bind (kE N f r) else none
def zY(N:List Nv)(cs:List Int):Nat->Int->List Int->Option (List Int)
 | 0,_,_=>none
 | n+1,i,l=>if i∈l then none else(eR N cs i).bind λ m=>kE N (zY N cs n) (cG N m).xs (l++[i])
def rR(v:Nv):List Pr:=if v.kind=5 then [(v.key,v.val)] else if v.kind=6 then v.ys else []
def lN(N:List Nv)(f:Int->List Pr):List Int->List Pr
 | []=>[]
 | b::r=>(if(cG N b).kind=4 then [((cG N b).key,(cG N b).val)] else f b)++lN N f r
def yW(N:List Nv)(cs:List Int):Nat->Int->List Pr
 | 0,_=>[]
 | n+1,i=>match eR N cs i with
  | none=>[]
  | some m=>rR (cG N m)++lN N (yW N cs n) (cG N m).xs
theorem zK{N:List Nv}{f:Int->List Int->Option (List Int)}:∀(a b l:List Int),kE N f (a++b) l=(kE N f a l).bind (kE N f b)
 | [],b,l=>rfl
 | x::a,b,l=>by
  simp only[List.cons_append,kE]
  split
  ·exact zK a b l
  split
  ·cases f x l with
   | none=>rfl
   | some l2=>exact zK a b l2
  ·rfl
theorem Eh{N:List Nv}{f:Int->List Pr}:∀(a b:List Int),lN N f (a++b)=lN N f a++lN N f b
 | [],b=>rfl
 | x::a,b=>by simp only[List.cons_append,lN,Eh a b,List.append_assoc]
theorem rD{N:List Nv}{cs:List Int}{i m:Int}(h:eR N cs i=some m):(cG N i).kind=2/\cK (cG N m):=by
 unfold eR at h
 split at h
 ·rename_i h1
  split at h
  ·cases h;exact h1
  split at h
  ·cases h;exact⟨h1.1,by assumption⟩
  ·cases h
 ·cases h
theorem eS{N:List Nv}{i:Int}(h:(cG N i).kind≠0):1<=i/\i<=N.length:=by
 unfold cG at h
 split at h
 ·assumption
 ·exact absurd rfl h
theorem Kp{N:List Nv}{cs:List Int}:∀(n:Nat) (i:Int) (l l2:List Int),zY N cs n i l=some l2->∃r,l2=l++i::r
 | 0,_,_,_,h=>nomatch h
 | n+1,i,l,l2,h=>by
  unfold zY at h
  split at h
  ·cases h
  obtain⟨m,_,h⟩:=Option.bind_eq_some_iff.1 h
  have key:∀(xs l l2:List Int),kE N (zY N cs n) xs l=some l2->∃r,l2=l++r:=by
   intro xs
   induction xs with
   | nil=>intro l l2 h;cases h;exact⟨[],by simp⟩
   | cons b r ih =>
    intro l l2 h
    unfold kE at h
    split at h
    ·exact ih l l2 h
    split at h
    ·obtain⟨l3,h3,h⟩:=Option.bind_eq_some_iff.1 h
     obtain⟨r1,rfl⟩:=Kp n b l l3 h3
     obtain⟨r2,rfl⟩:=ih _ _ h
     exact⟨b::r1++r2,by simp⟩
    ·cases h
  obtain⟨r,rfl⟩:=key _ _ _ h
  exact⟨r,by simp⟩
end

/- Views: the root of a trie, the main node of an I-node. -/
section
open Go Go.RowKit
theorem fV.kC{L:List aQ}{cs:List Int}{pn pc:Option Addr}{w w0:World}{M:List Nat}{H:List (Nat×Obj)}{F:Fr}{O:List Ow}(h:fV w0 L cs pn pc)(hw:SF w0 M H ((pn,iD L)::(pc,aJ cs)::bG L) F O w):fV w L cs pn pc:=hw.rE (.inr (.inl (.head _))) (.inr (.inl (.tail _ (.head _)))) (λ f hf=>.inr (.inl (.tail _ (.tail _ hf)))) h.fit
theorem bD(L:List aQ)(r:Int):cG (L.map aQ.c) r=(aD L r).c:=(K5 L r).symm
end
end Go.Ct
namespace Go.Proofs.YtpobgmdalcpomaaGreat
section
open Go Go.RowKit Go.Ct
section
variable{L:List aQ}{cs:List Int}{gen:Int}{pn pc:Option Addr}{cn cc:Nat}{w:World}
abbrev kJ(L:List aQ)(cs:List Int)(gen:Int)(pn:Option Addr)(cn:Nat)(pc:Option Addr)(cc:Nat):Value:=.agg ⟨[.slice pn L.length cn,.slice pc cs.length cc,.int .i64 gen]⟩
theorem qe(h:fV w L cs pn pc)(r:Int)(hr:r<1):Calls Tryz.prog 54 #[kJ L cs gen pn cn pc cc,.int .i64 r] w λ e w'=>e=.returned (aD L r).nd.v/\St w [] [] w':=by
 refine enter Tryz.func54 Tryz.ntmps54 rfl rfl h.start ?_
 simp only[dB]
 all_goals (refine J0 ?_;refine bM (λ x2=>?_);refine aY (λ x4=>?_);refine aN ?_;refine jS ?_;refine Am ?_)
 all_goals (first|refine aG ?_|(refine aC ?_;refine aA ?_)|(refine dG 7 (λ g7=>?_) (λ g7=>?_)<;>(try (exfalso;omega))<;>(first|refine aG ?_|(refine aC ?_;refine aA ?_))))
 all_goals (refine Li ?_;refine xV ?_;refine aN ?_)
 all_goals
 refine bF (λ c13=>?_) (λ c13=>?_)
 ·try exact nv c13
  all_goals try (exfalso;omega)
  all_goals (refine J0 ?_;refine zN ?_)
  all_goals
   refine bH Tryz.results54 (λ w hw=>?_)
   exact⟨by rw[jC (by omega)];rfl,hw.done⟩
 ·try exact nv c13
  all_goals try (exfalso;omega)
  all_goals (refine aZ ?_;refine gR ?_;refine aA ?_;refine kN ?_;refine Dc ?_;refine J5 ?_)
  all_goals
   refine bH Tryz.results54 (λ w hw=>?_)
   exact⟨by rw[jC (by omega)];rfl,hw.done⟩
theorem ra(h:fV w L cs pn pc){k:Nat}(hk:(k:Int)<9223372036854775807)(hl:L.length<=274877906944):Calls Tryz.prog 54 #[kJ L cs gen pn cn pc cc,.int .i64 ((k+1:Nat):Int)] w λ e w'=>e=.returned (aD L ((k+1:Nat):Int)).nd.v/\St w [] [] w':=by
 refine enter Tryz.func54 Tryz.ntmps54 rfl rfl h.start ?_
 simp only[dB]
 all_goals (refine J0 ?_;refine bM (λ x2=>?_);refine aY (λ x4=>?_);refine aN ?_;refine jS ?_;refine Am ?_)
 all_goals (first|refine aG ?_|(refine aC ?_;refine aA ?_)|(refine dG 7 (λ g7=>?_) (λ g7=>?_)<;>(try (exfalso;omega))<;>(first|refine aG ?_|(refine aC ?_;refine aA ?_))))
 all_goals (refine Li ?_;refine xV ?_;refine aN ?_)
 all_goals
 refine bF (λ c13=>?_) (λ c13=>?_)
 ·try exact nv c13
  all_goals try (exfalso;omega)
  all_goals (refine J0 ?_;refine zN ?_)
  all_goals
   refine bH Tryz.results54 (λ w hw=>?_)
   first|exact⟨by rw[jC (by omega)];rfl,hw.done⟩|exact⟨by rw[pC (by omega)];rfl,hw.done⟩
 ·try exact nv c13
  all_goals try (exfalso;omega)
  all_goals (refine aZ ?_;refine gR ?_;refine aA ?_;refine kN ?_;refine Dc ?_;refine J5 ?_)
  all_goals
   refine bH Tryz.results54 (λ w hw=>?_)
   first|exact⟨by rw[jC (by omega)];rfl,hw.done⟩|exact⟨by rw[pC (by omega)];rfl,hw.done⟩
theorem oH(h:fV w L cs pn pc)(r:Int)(hr:r<=9223372036854775807)(hl:L.length<=274877906944):Calls Tryz.prog 54 #[kJ L cs gen pn cn pc cc,.int .i64 r] w λ e w'=>e=.returned (aD L r).nd.v/\St w [] [] w':=by
 rcases Int.lt_or_le r 1 with h1|h1
 ·exact qe h r h1
 ·obtain⟨k,rfl⟩:∃k:Nat,r=((k+1:Nat):Int):=⟨(r-1).toNat,by omega⟩
  exact ra h (by omega) hl
theorem Y3(h:fV w L cs pn pc)(r:Int)(hr:r<1):Calls Tryz.prog 57 #[kJ L cs gen pn cn pc cc,.int .i64 r] w λ e w'=>e=.returned (.int .i64 (bY cs r))/\St w [] [] w':=by
 refine enter Tryz.func57 Tryz.ntmps57 rfl rfl h.start ?_
 simp only[dB]
 all_goals (refine J0 ?_;refine bM (λ x2=>?_);refine iI ?_;refine J2 ?_;refine Am ?_)
 all_goals (first|refine aG ?_|(refine aC ?_;refine aA ?_)|(refine dG 7 (λ g7=>?_) (λ g7=>?_)<;>(try (exfalso;omega))<;>(first|refine aG ?_|(refine aC ?_;refine aA ?_))))
 all_goals (refine Li ?_;refine xV ?_;refine aN ?_)
 all_goals
 refine bF (λ c13=>?_) (λ c13=>?_)
 ·try exact nv c13
  all_goals try (exfalso;omega)
  all_goals refine dH ?_
  all_goals
   refine aR Tryz.results57 (λ w hw=>?_)
   exact⟨by rw[jH (by omega)];rfl,hw.done⟩
 ·try exact nv c13
  all_goals try (exfalso;omega)
  all_goals (refine aZ ?_;refine gR ?_;refine aA ?_;refine kN ?_;refine Dc ?_;refine J1 ?_)
  all_goals
   refine aR Tryz.results57 (λ w hw=>?_)
   exact⟨by rw[jH (by omega)];rfl,hw.done⟩
theorem ba(h:fV w L cs pn pc){k:Nat}(hk:(k:Int)<9223372036854775807)(hl:cs.length<=274877906944):Calls Tryz.prog 57 #[kJ L cs gen pn cn pc cc,.int .i64 ((k+1:Nat):Int)] w λ e w'=>e=.returned (.int .i64 (bY cs ((k+1:Nat):Int)))/\St w [] [] w':=by
 refine enter Tryz.func57 Tryz.ntmps57 rfl rfl h.start ?_
 simp only[dB]
 all_goals (refine J0 ?_;refine bM (λ x2=>?_);refine iI ?_;refine J2 ?_;refine Am ?_)
 all_goals (first|refine aG ?_|(refine aC ?_;refine aA ?_)|(refine dG 7 (λ g7=>?_) (λ g7=>?_)<;>(try (exfalso;omega))<;>(first|refine aG ?_|(refine aC ?_;refine aA ?_))))
 all_goals (refine Li ?_;refine xV ?_;refine aN ?_)
 all_goals
 refine bF (λ c13=>?_) (λ c13=>?_)
 ·try exact nv c13
  all_goals try (exfalso;omega)
  all_goals refine dH ?_
  all_goals
   refine aR Tryz.results57 (λ w hw=>?_)
   first|exact⟨by rw[jH (by omega)];rfl,hw.done⟩|exact⟨by rw[nC (by omega)];rfl,hw.done⟩
 ·try exact nv c13
  all_goals try (exfalso;omega)
  all_goals (refine aZ ?_;refine gR ?_;refine aA ?_;refine kN ?_;refine Dc ?_;refine J1 ?_)
  all_goals
   refine aR Tryz.results57 (λ w hw=>?_)
   first|exact⟨by rw[jH (by omega)];rfl,hw.done⟩|exact⟨by rw[nC (by omega)];rfl,hw.done⟩
theorem Cz(h:fV w L cs pn pc)(r:Int)(hr:r<=9223372036854775807)(hl:cs.length<=274877906944):Calls Tryz.prog 57 #[kJ L cs gen pn cn pc cc,.int .i64 r] w λ e w'=>e=.returned (.int .i64 (bY cs r))/\St w [] [] w':=by
 rcases Int.lt_or_le r 1 with h1|h1
 ·exact Y3 h r h1
 ·obtain⟨k,rfl⟩:∃k:Nat,r=((k+1:Nat):Int):=⟨(r-1).toNat,by omega⟩
  exact ba h (by omega) hl
structure V9(L:List aQ)(cs:List Int):Prop where
 cs:∀c,bY cs c<=9223372036854775807
 cE:∀r,(aD L r).nd.cE<=9223372036854775807
 new:∀r,(aD L r).nd.new<=9223372036854775807
 main:∀r,(aD L r).nd.main<=9223372036854775807
 prev:∀r,(aD L r).nd.prev<=9223372036854775807
 status:∀r,(aD L r).nd.status<=9223372036854775807
 br:∀r,∀b∈(aD L r).xs,b<=9223372036854775807
theorem Js(h:fV w L cs pn pc)(hb:V9 L cs)(hl:L.length<=274877906944)(hc:cs.length<=274877906944)(i:Int)(hi:i<=9223372036854775807):Calls Tryz.prog 42 #[kJ L cs gen pn cn pc cc,.int .i64 i] w λ e w'=>e=.returned (.tuple #[.int .i64 ((eR (L.map aQ.c) cs i).getD 0),.bool (eR (L.map aQ.c) cs i).isSome])/\St w [] [] w':=by
 refine enter Tryz.func42 Tryz.ntmps42 rfl rfl h.start ?_
 simp only[dB]
 simp only[kJ]
 all_goals (refine J0 ?_;refine bM (λ x2=>?_);refine J8 ?_;refine rK ?_;(refine aF (cV (hc:=λ w1 hw=>oH (h.kC hw) i hi hl)) (λ x12=>?_);try (refine aB (λ h12=>?_)));refine aY (λ x6=>?_);refine J5 ?_;refine Aj ?_;refine lY ?_;refine aN ?_)
 all_goals
 refine bF (λ c15=>?_) (λ c15=>?_)
 ·try exact nv c15
  all_goals refine qE ?_
  all_goals
   refine bH Tryz.results42 (λ w hw=>?_)
   refine⟨?_,hw.done⟩
   unfold eR oF mH nL
   simp only[bD,cK,aQ.c,Nd.c]
   simp_all
   all_goals rfl
 ·try exact nv c15
  all_goals (refine aZ ?_;refine iU ?_;refine J3 ?_;(refine aF (cV (hc:=λ w1 hw=>Cz (h.kC hw) (aD L i).nd.main (hb.main i) hc)) (λ x19=>?_);try (refine aB (λ h19=>?_)));refine iI ?_;refine rK ?_;(refine aF (cV (hc:=λ w1 hw=>oH (h.kC hw) (bY cs (aD L i).nd.main) (hb.cs _) hl)) (λ x22=>?_);try (refine aB (λ h22=>?_)));(refine aF (c0 (V:=.bool) (hc:=λ w1 hw=>Kj _ w1)) (λ x23=>?_);try (refine aB (λ h23=>?_)));refine kD ?_)
  all_goals
   refine bF (λ c24=>?_) (λ c24=>?_)
   ·try exact nv c24
    all_goals refine qE ?_
    all_goals
    refine bH Tryz.results42 (λ w hw=>?_)
    refine⟨?_,hw.done⟩
    unfold eR oF mH nL
    simp only[bD,cK,aQ.c,Nd.c]
    simp_all
    all_goals rfl
   ·try exact nv c24
    all_goals (refine iW ?_;refine dL [(0,[]),(1,[]),(2,[]),(3,[0]),(4,[]),(5,[]),(6,[])] ?_;refine bT ?_;refine bT ?_;refine aL ?_;((refine bA (i:=3) (hq:=(cV (hc:=λ w1 hw=>oH (h.kC hw) (bY cs (aD L i).nd.main) (hb.cs _) hl))) (h:=λ x28=>?_);try (refine aK (λ h28=>?_))));refine vT ?_;((refine bA (i:=5) (hq:=(cV (hc:=λ w1 hw=>Cz (h.kC hw) (aD L (bY cs (aD L i).nd.main)).nd.prev (hb.prev _) hc))) (h:=λ x30=>?_);try (refine aK (λ h30=>?_))));refine J7 ?_;refine jS ?_;refine tE ?_)
    all_goals
    refine bF (λ c32=>?_) (λ c32=>?_)
    ·try exact nv c32
     all_goals (refine J2 ?_;refine J8 ?_)
     all_goals
      refine bH Tryz.results42 (λ w hw=>?_)
      refine⟨?_,hw.done⟩
      unfold eR oF mH nL
      simp only[bD,cK,aQ.c,Nd.c]
      simp_all
      all_goals rfl
    ·try exact nv c32
     all_goals (refine iW ?_;refine rK ?_;(refine aF (cV (hc:=λ w1 hw=>oH (h.kC hw) (bY cs (aD L (bY cs (aD L i).nd.main)).nd.prev) (hb.cs _) hl)) (λ x36=>?_);try (refine aB (λ h36=>?_)));refine aY (λ x9=>?_);refine J5 ?_;refine gR ?_;refine tE ?_)
     all_goals
      refine bF (λ c39=>?_) (λ c39=>?_)
      ·try exact nv c39
       all_goals (refine dD ?_;refine J3 ?_;refine iI ?_;refine rK ?_;(refine aF (cV (hc:=λ w1 hw=>oH (h.kC hw) _ (by first|exact hb.cs _|exact hb.cE _) hl)) (λ x44=>?_);try (refine aB (λ h44=>?_)));(refine aF (c0 (V:=.bool) (hc:=λ w1 hw=>Kj _ w1)) (λ x45=>?_);try (refine aB (λ h45=>?_)));refine kD ?_)
       all_goals
       refine bF (λ c46=>?_) (λ c46=>?_)
       ·try exact nv c46
        all_goals refine qE ?_
        all_goals
         refine bH Tryz.results42 (λ w hw=>?_)
         refine⟨?_,hw.done⟩
         unfold eR oF mH nL
         simp only[bD,cK,aQ.c,Nd.c]
         simp_all
         all_goals rfl
       ·try exact nv c46
        all_goals (refine aZ ?_;refine J2 ?_;refine J8 ?_)
        all_goals
         refine bH Tryz.results42 (λ w hw=>?_)
         refine⟨?_,hw.done⟩
         unfold eR oF mH nL
         simp only[bD,cK,aQ.c,Nd.c]
         simp_all
         all_goals rfl
      ·try exact nv c39
       all_goals (refine iW ?_;refine rK ?_;(refine aF (cV (hc:=λ w1 hw=>oH (h.kC hw) _ (by first|exact hb.cs _|exact hb.cE _) hl)) (λ x44=>?_);try (refine aB (λ h44=>?_)));(refine aF (c0 (V:=.bool) (hc:=λ w1 hw=>Kj _ w1)) (λ x45=>?_);try (refine aB (λ h45=>?_)));refine kD ?_)
       all_goals
       refine bF (λ c46=>?_) (λ c46=>?_)
       ·try exact nv c46
        all_goals refine qE ?_
        all_goals
         refine bH Tryz.results42 (λ w hw=>?_)
         refine⟨?_,hw.done⟩
         unfold eR oF mH nL
         simp only[bD,cK,aQ.c,Nd.c]
         simp_all
         all_goals rfl
       ·try exact nv c46
        all_goals (refine aZ ?_;refine J2 ?_;refine J8 ?_)
        all_goals
         refine bH Tryz.results42 (λ w hw=>?_)
         refine⟨?_,hw.done⟩
         unfold eR oF mH nL
         simp only[bD,cK,aQ.c,Nd.c]
         simp_all
         all_goals rfl
end
end

end Go.Proofs.YtpobgmdalcpomaaGreat

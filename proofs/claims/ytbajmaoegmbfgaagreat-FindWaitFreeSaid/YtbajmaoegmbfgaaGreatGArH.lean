/- Proper states: a node more. -/
import Derived.Test.YtbajmaoegmbfgaaGreatGAr8
import Derived.Test.YtbajmaoegmbfgaaGreatGDfr

set_option linter.unusedSimpArgs false
set_option linter.unusedVariables false
namespace Go.Ct
section
theorem Sh{u u':List Bool}{n:Nd}(h:fN (some u) n=some u'):fN (some (u++[false])) n=some (u'++[false]):=by
 simp only[fN] at h ⊢
 cases hc:jO n with
 | none=>rw[hc] at h;simp only[Option.some.injEq] at h;rw[h]
 | some c =>
  rw[hc] at h
  simp only at h ⊢
  split at h
  ·rename_i hh
   simp only[Option.some.injEq] at h
   have hlt:(c-1).toNat<u.length:=by omega
   rw[if_pos ⟨hh.1,by simp only[List.length_append,List.length_cons,List.length_nil];omega,by rw[kQ,List.getElem?_append_left hlt,<- kQ];exact hh.2.2⟩,List.set_append_left _ _ hlt,h]
  ·cases h
theorem Rb{m:Nat}:∀{L:List aZ} {u:List Bool},marks m L=some u->marks (m+1) L=some (u++[false]):=by
 have key:∀(l:List aZ) (u0:List Bool) (u:List Bool),l.foldl (λ u v=>fN u v.nd) (some u0)=some u->l.foldl (λ u v=>fN u v.nd) (some (u0++[false]))=some (u++[false]):=by
  intro l
  induction l with
  | nil=>intro u0 u h;simp only[List.foldl_nil,Option.some.injEq] at h ⊢;rw[h]
  | cons v l ih =>
   intro u0 u h
   simp only[List.foldl_cons] at h ⊢
   cases hm:fN (some u0) v.nd with
   | none =>
    rw[hm] at h
    exfalso
    have:∀l:List aZ,l.foldl (λ u v=>fN u v.nd) none=none:=λ l=>by
     induction l with
     | nil=>rfl
     | cons v l ih=>exact ih
    rw[this] at h
    cases h
   | some u1 =>
    rw[hm] at h
    rw[Sh hm]
    exact ih u1 u h
 intro L u h
 have:=key L _ u h
 rw[marks,List.replicate_succ',this]
theorem Hb{m:Nat}{L:List aZ}{v:aZ}:marks m (L++[v])=fN (marks m L) v.nd:=by rw[marks,List.foldl_append];rfl
theorem Cn{L:List aZ}{v:aZ}{i:Nat}(h:i<L.length+1):(L++[v]).getD i aZ.zero=if i<L.length then L.getD i aZ.zero else v:=by
 rw[kQ]
 split
 ·rename_i hi
  rw[List.getElem?_append_left hi,<- kQ]
 ·rename_i hi
  rw[List.getElem?_append_right (by omega),show i-L.length=0 by omega]
  rfl
theorem Ip.mono{r:Int}{n m:Nat}(h:Ip r n)(hm:n<=m):Ip r m:=⟨h.1,Int.le_trans h.2 (by omega)⟩
theorem nT.mono{gen:Int}{n m:Nat}{v:aZ}(h:nT gen n v)(hm:n<=m):nT gen m v:=⟨h.1,h.2.1,λ i hi=>(h.2.2.1 i hi).mono hm,h.2.2.2.1.mono hm,h.2.2.2.2.1.mono hm,h.2.2.2.2.2.mono hm⟩
theorem N3{L:List aZ}{cs:List Int}{gen init:Int}{v:aZ}(h:jW L cs gen)(hv:nT gen (L.length+1) v)(hi:Ip init L.length){k:Int}(hk:(jO v.nd=none/\fX k cs init=cs)∨(jO v.nd=some ((cs.length+1:Nat):Int)/\fX k cs init=cs++[init])) :
  jW (L++[v]) (fX k cs init) gen:=by
 have hlen:(L++[v]).length=L.length+1:=by simp
 have h2:=h.two
 have nodes:∀i,i<(L++[v]).length->nT gen (L++[v]).length ((L++[v]).getD i aZ.zero):=λ i hi=>by
  rw[hlen] at hi ⊢
  rw[Cn hi]
  split
  ·exact(h.nodes i (by assumption)).mono (by omega)
  ·exact hv
 have k0:((L++[v]).getD 0 aZ.zero).nd.kind=1:=by rw[Cn (by omega),if_pos (by omega)];exact h.m0
 have k1:((L++[v]).getD 1 aZ.zero).nd.kind=1:=by rw[Cn (by omega),if_pos (by omega)];exact h.m1
 cases hm:marks cs.length L with
 | none=>exact absurd hm h.marks
 | some u =>
  have hu:=Je hm
  rcases hk with⟨e1,e2⟩|⟨e1,e2⟩
  ·rw[e2]
   refine⟨by omega,h.gen0,k0,k1,λ i hi=>(h.cells i hi).mono (by omega),nodes,?_⟩
   rw[Hb,hm]
   simp only[fN,e1]
   exact λ h=>nomatch h
  ·rw[e2]
   refine⟨by omega,h.gen0,k0,k1,λ i hi'=>?_,nodes,?_⟩
   ·rw[kQ]
    by_cases hlt:i<cs.length
    ·rw[List.getElem?_append_left hlt,<- kQ]
     exact(h.cells i hlt).mono (by omega)
    ·simp only[List.length_append,List.length_cons,List.length_nil] at hi'
     rw[List.getElem?_append_right (by omega),show i-cs.length=0 by omega]
     exact hi.mono (by omega)
   ·rw[Hb,show(cs++[init]).length=cs.length+1 by simp,Rb hm]
    simp only[fN,e1]
    have e3:(((cs.length+1:Nat):Int)-1).toNat=cs.length:=by omega
    rw[e3,if_pos ⟨by omega,by simp only[List.length_append,List.length_cons,List.length_nil];omega,by rw[kQ,List.getElem?_append_right (by omega),hu,Nat.sub_self];rfl⟩]
    exact λ h=>nomatch h
structure NdR(n:Nd):Prop where
 bm:∃b:Nat,n.bm=(b:Int)/\b<18446744073709551616
 main:n.main<=9223372036854775807
 prev:n.prev<=9223372036854775807
 status:n.status<=9223372036854775807
end

/- Procedures as trees; what an execution of the reference remembers of one. -/
section
inductive Tr where
 | done (r:Rs)
 | load (c:Int) (k:Int->Tr)
 | jN (c o n:Int) (k:Bool->Tr)
 | alloc (n:Nv) (i:Int) (k:Int->Tr)
 | cell (i:Int) (k:Int->Tr)
 | gen (k:Int->Tr)
 | node (r:Int) (k:Nv->Tr)
 | stuck
structure Mm where
 nodes:List Nv
 cs:List Int
 gen:Int
def Nv.zero:Nv:=aZ.zero.c
def eA(L:List Nv)(r:Int):Nv:=if 1<=r/\r<=L.length then L.getD (r-1).toNat Nv.zero else Nv.zero
theorem Lw(L:List aZ)(r:Int):(aD L r).c=eA (L.map aZ.c) r:=by
 unfold aD eA
 rw[List.length_map]
 split
 ·rename_i h
  have h2:(r-1).toNat<L.length:=by omega
  simp only[kQ,List.getElem?_map,List.getElem?_eq_getElem h2,Option.map_some,Option.getD_some]
 ·rfl
theorem Fe{L N:List Nv}{r:Int}(h:r<=L.length):eA (L++N) r=eA L r:=by
 unfold eA
 by_cases h1:1<=r
 ·rw[if_pos ⟨h1,by simp;omega⟩,if_pos ⟨h1,h⟩,kQ,kQ,List.getElem?_append_left (by omega)]
 ·rw[if_neg (by omega),if_neg (by omega)]
def dK(n:Nv)(c:Nat):Nv:={n with main:=if n.kind=2 then((c+1:Nat):Int) else 0,prev:=if n.kind=3∨n.kind=5∨n.kind=6 then((c+1:Nat):Int) else 0,status:=if n.kind=8 then((c+1:Nat):Int) else 0}
def Mm.push(s:Mm)(n:Nv)(i:Int):Mm:=⟨s.nodes++[dK n s.cs.length],fX n.kind s.cs i,s.gen⟩
inductive Sp:Tr->Mm->Tr->Mm->Prop where
 | alloc (n i k s):Sp (.alloc n i k) s (k ((s.nodes.length+1:Nat):Int)) (s.push n i)
 | cell (i k s):Sp (.cell i k) s (k ((s.cs.length+1:Nat):Int)) ⟨s.nodes,s.cs++[i],s.gen⟩
 | gen (k s):Sp (.gen k) s (k (s.gen+1)) ⟨s.nodes,s.cs,s.gen+1⟩
 | node (r:Int) (k s) (h:r<=s.nodes.length):Sp (.node r k) s (k (eA s.nodes r)) s
inductive Lp:Tr->Mm->Tr->Mm->Prop where
 | load (c k s):Lp (.load c k) s (k (cS s.cs c)) s
 | jN (c o n k s) (b:Bool) (hb:b=true↔iI s.cs c o):Lp (.jN c o n k) s (k b) ⟨s.nodes,eD s.cs c o n,s.gen⟩
inductive Rc:Nat->Tr->Mm->Tr->Mm->Prop where
 | refl (t s):Rc 0 t s t s
 | eV {j t s t1 s1 t2 s2}:Rc j t s t1 s1->Sp t1 s1 t2 s2->Rc j t s t2 s2
 | loud {j t s t1 s1 t2 s2}:Rc j t s t1 s1->Lp t1 s1 t2 s2->Rc (j+1) t s t2 s2
inductive Wk(L:List Nv):Tr->List Int->List Int->List Int->List Int->Tr->Prop where
 | nil (t):Wk L t [] [] [] [] t
 | load {c k v gs ms cl gn R}:Wk L (k v) gs ms cl gn R->Wk L (.load c k) (v::gs) ms cl gn R
 | jN {c o n k v gs ms cl gn R}:Wk L (k (v==1)) gs ms cl gn R->Wk L (.jN c o n k) (v::gs) ms cl gn R
 | alloc {n i k r gs ms cl gn R}:Wk L (k r) gs ms cl gn R->Wk L (.alloc n i k) gs (r::ms) cl gn R
 | cell {i k r gs ms cl gn R}:Wk L (k r) gs ms cl gn R->Wk L (.cell i k) gs ms (r::cl) gn R
 | gen {k r gs ms cl gn R}:Wk L (k r) gs ms cl gn R->Wk L (.gen k) gs ms cl (r::gn) R
 | node {r:Int} {k gs ms cl gn R}:r<=L.length->Wk L (k (eA L r)) gs ms cl gn R->Wk L (.node r k) gs ms cl gn R
theorem Wk.mono{L N:List Nv}{t R:Tr}{gs ms cl gn:List Int}(h:Wk L t gs ms cl gn R):Wk (L++N) t gs ms cl gn R:=by
 induction h with
 | nil t=>exact .nil t
 | load _ ih=>exact .load ih
 | jN _ ih=>exact .jN ih
 | alloc _ ih=>exact .alloc ih
 | cell _ ih=>exact .cell ih
 | gen _ ih=>exact .gen ih
 | node h _ ih=>exact .node (by simp;omega) (by rw[Fe h];exact ih)
theorem Wk.trans{L:List Nv}{t t1 R:Tr}{gs ms cl gn gs' ms' cl' gn':List Int}(h:Wk L t gs ms cl gn t1)(h2:Wk L t1 gs' ms' cl' gn' R):Wk L t (gs++gs') (ms++ms') (cl++cl') (gn++gn') R:=by
 induction h with
 | nil t=>exact h2
 | load _ ih=>exact .load (ih h2)
 | jN _ ih=>exact .jN (ih h2)
 | alloc _ ih=>exact .alloc (ih h2)
 | cell _ ih=>exact .cell (ih h2)
 | gen _ ih=>exact .gen (ih h2)
 | node h _ ih=>exact .node h (ih h2)
def bQ:Tr->Nat->Nat->Prop
 | .done _,_,_=>True
 | .stuck,_,_=>False
 | .load _ _,0,_=>True
 | .load _ k,n+1,_=>∀v,bQ (k v) n 64
 | .jN _ _ _ _,0,_=>True
 | .jN _ _ _ k,n+1,_=>∀v,bQ (k v) n 64
 | .alloc _ _ _,_,0=>False
 | .alloc _ _ k,n,c+1=>∀v,bQ (k v) n c
 | .cell _ _,_,0=>False
 | .cell _ k,n,c+1=>∀v,bQ (k v) n c
 | .gen _,_,0=>False
 | .gen k,n,c+1=>∀v,bQ (k v) n c
 | .node _ k,n,c=>∀v,bQ (k v) n c
theorem Wk.rX{L:List Nv}{t R:Tr}{gs ms cl gn:List Int}(h:Wk L t gs ms cl gn R):∀{n c:Nat},c<=64->bQ t n c->gs.length<=n->∃c',bQ R (n-gs.length) c'/\c'<=64/\ms.length+cl.length+gn.length+c'<=c+64*gs.length:=by
 induction h with
 | nil t=>intro n c hc ht _;exact⟨c,ht,hc,by simp⟩
 | load _ ih =>
  intro n c hc ht hn
  cases n with
  | zero=>simp at hn
  | succ n =>
   obtain⟨c',h1,h2,h3⟩:=ih (Nat.le_refl 64) (ht _) (by simpa using hn)
   exact⟨c',by simpa using h1,h2,by simp only[List.length_cons];omega⟩
 | jN _ ih =>
  intro n c hc ht hn
  cases n with
  | zero=>simp at hn
  | succ n =>
   obtain⟨c',h1,h2,h3⟩:=ih (Nat.le_refl 64) (ht _) (by simpa using hn)
   exact⟨c',by simpa using h1,h2,by simp only[List.length_cons];omega⟩
 | alloc _ ih =>
  intro n c hc ht hn
  cases c with
  | zero=>exact ht.elim
  | succ c =>
   obtain⟨c',h1,h2,h3⟩:=ih (by omega) (ht _) hn
   exact⟨c',h1,h2,by simp only[List.length_cons];omega⟩
 | cell _ ih =>
  intro n c hc ht hn
  cases c with
  | zero=>exact ht.elim
  | succ c =>
   obtain⟨c',h1,h2,h3⟩:=ih (by omega) (ht _) hn
   exact⟨c',h1,h2,by simp only[List.length_cons];omega⟩
 | gen _ ih =>
  intro n c hc ht hn
  cases c with
  | zero=>exact ht.elim
  | succ c =>
   obtain⟨c',h1,h2,h3⟩:=ih (by omega) (ht _) hn
   exact⟨c',h1,h2,by simp only[List.length_cons];omega⟩
 | node _ _ ih=>intro n c hc ht hn;exact ih hc (ht _) hn
theorem Rc.rX{j:Nat}{t t':Tr}{s s':Mm}(h:Rc j t s t' s'):∀{n c:Nat},c<=64->bQ t n c->j<=n->∃c',bQ t' (n-j) c'/\c'<=64/\s.nodes.length<=s'.nodes.length/\s'.nodes.length+c'<=s.nodes.length+c+64*j/\s'.cs.length+c'<=s.cs.length+c+64*j/\s'.gen+c'<=s.gen+c+64*j:=by
 induction h with
 | refl t s=>intro n c hc ht _;exact⟨c,ht,hc,by omega,by omega,by omega,by omega⟩
 | @eV j t s t1 s1 t2 s2 _ hs ih =>
  intro n c hc ht hn
  obtain⟨c',h1,h2,h3,h4,h5,h6⟩:=ih hc ht hn
  cases hs with
  | alloc nn i k s =>
   cases c' with
   | zero=>exact h1.elim
   | succ c' =>
    have hl:=lP (k:=nn.kind) (cs:=s1.cs) (init:=i)
    exact⟨c',h1 _,by omega,by simp[Mm.push];omega,by simp[Mm.push];omega,by simp only[Mm.push];omega,by simp only[Mm.push];omega⟩
  | cell i k s =>
   cases c' with
   | zero=>exact h1.elim
   | succ c'=>exact⟨c',h1 _,by omega,by simpa using h3,by simp;omega,by simp;omega,by simp;omega⟩
  | gen k s =>
   cases c' with
   | zero=>exact h1.elim
   | succ c'=>exact⟨c',h1 _,by omega,by simpa using h3,by simp;omega,by simp;omega,by simp;omega⟩
  | node r k s h=>exact⟨c',h1 _,h2,h3,h4,h5,h6⟩
 | loud _ hs ih =>
  intro n c hc ht hn
  obtain⟨c',h1,h2,h3,h4,h5,h6⟩:=ih hc ht (by omega)
  rename_i j _ _ _ _ _ _ _
  obtain⟨d,hd⟩:∃d,n-j=d+1:=⟨n-j-1,by omega⟩
  rw[hd] at h1
  have e:n-(j+1)=d:=by omega
  rw[e]
  cases hs with
  | load c k s=>exact⟨64,h1 _,Nat.le_refl _,h3,by omega,by omega,by omega⟩
  | jN c o nn k s b hb=>exact⟨64,h1 _,Nat.le_refl _,h3,by simp only;omega,by simp only[gT];omega,by simp only;omega⟩
end

end Go.Ct

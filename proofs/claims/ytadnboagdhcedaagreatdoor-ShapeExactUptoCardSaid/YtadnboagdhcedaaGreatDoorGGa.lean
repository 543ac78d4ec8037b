/- The engine: arrays. -/
import Derived.Test.YtadnboagdhcedaaGreatDoorFz
import Derived.Test.YtadnboagdhcedaaGreatDoorGJoin
import Derived.Test.YtadnboagdhcedaaGreatDoorGNode4
import Derived.Test.YtadnboagdhcedaaGreatDoorGBits

set_option linter.unusedSimpArgs false
set_option linter.unusedVariables false
namespace Go.Ct
section
open Go Go.RowKit
section
variable{P:Program}{S:List (Nat×Value)}{G:World->Prop}{d:Nat}{ty t e:TypeId}{pos:String}{af:Array Edge}{gd:Option (Nat×Bool)}{x y:Operand}{w0:World}{M:List Nat}{H:List (Nat×Obj)}{A F:Fr}{O:List Ow}{a:Option Addr}
theorem V5{n k b o:Nat}{kk:IntKind}(hx:ev S x=.pointer (some ⟨b,o,none⟩))(hy:ev S y=.int kk ((k:Nat):Int))(ht:P.underlying t=some (.array n e))(hs:one P e=true)(h1:k<n) :
  aM P S G ⟨some d,.indexAddr t x y,ty,pos,af,gd⟩ (.pointer (some ⟨b,o+k,none⟩)):=⟨λ w _=>by
 have he:P.elem t=e:=by simp[Program.elem,ht]
 have hn:P.arrayLen t=n:=by simp[Program.arrayLen,ht]
 have key:(Instr.indexAt t (.pointer (some ⟨b,o,none⟩)) (.int kk ((k:Nat):Int))).run P w=.ok (.pointer (some ⟨b,o+k,none⟩)) w:=by
  rw[run_indexAt_array w t ⟨b,o,none⟩ kk (k:Int) (by rw[he,hn];exact ht),hn,if_pos ⟨by omega,by omega⟩,he]
  have hsz:(P.info? e).map (·.size)=some 1:=by
   unfold one at hs
   cases hi:P.info? e with
   | none=>simp[hi] at hs
   | some i =>
    cases hu:P.underlying e with
    | none=>simp[hi,hu] at hs
    | some dd=>simp only[hi,hu,Bool.and_eq_true,beq_iff_eq] at hs;simp[hs.1]
  cases hi:P.info? e with
  | none=>rw[hi] at hsz;simp at hsz
  | some info =>
   rw[hi] at hsz
   simp only[Option.map_some,Option.some.injEq] at hsz
   simp[Go.sizeOf,typeInfo,hi,hsz,Addr.add_lit]
 simp[execOp,hx,hy,key]⟩
def oH(l:List Nat):List Value:=l.map λ k=>.int .u8 ((k:Nat):Int)
theorem Uo{l:List Nat}{k:Nat}(h:k<l.length):(oH l)[k]?=some (.int .u8 ((l.getD k 0:Nat):Int)):=by simp[oH,h,List.getD]
theorem py{lst:List Nat}{b o q:Nat}(hx:ev S x=.pointer (some ⟨b,o+q,none⟩))(ht:one P t=true)(hf:pS A F O (some ⟨b,o,none⟩) (oH lst))(hq:q<lst.length) :
  aM P S (SF w0 M H A F O) ⟨some d,.load t x,ty,pos,af,gd⟩ (.int .u8 ((lst.getD q 0:Nat):Int)):=mJ (a:=some ⟨b,o,none⟩) hx ht (λ w hw=>hw.cl hf) (Uo hq)
end
end

/- Accesses and results. -/
section
open Go Go.RowKit
structure Ac where
 k:Int
 c:Int
 o:Int
 n:Int
structure Rs where
 err:Int
 found:Bool
 val:Int
 key:ByteArray
 gB:Int
 ref:Int
 root:Int
 ro:Bool
abbrev Ac.cells(a:Ac):List Value:=[.int .i64 a.k,.int .i64 a.c,.int .i64 a.o,.int .i64 a.n]
abbrev Rs.cells(r:Rs):List Value:=[.int .i64 r.err,.bool r.found,.int .u64 r.val,.string r.key,.int .i64 r.gB,.int .i64 r.ref,.int .i64 r.root,.bool r.ro]
abbrev Rs.zero:Rs:=⟨0,false,0,⟨#[]⟩,0,0,0,false⟩
abbrev Ac.zero:Ac:=⟨0,0,0,0⟩
end

/- Procedures as trees; what an execution of the reference remembers of one. -/
section
inductive Tr where
 | done (r:Rs)
 | load (c:Int) (k:Int->Tr)
 | rP (c o n:Int) (k:Bool->Tr)
 | alloc (n:Nv) (i:Int) (k:Int->Tr)
 | cell (i:Int) (k:Int->Tr)
 | gen (k:Int->Tr)
 | node (r:Int) (k:Nv->Tr)
 | stuck
structure Mm where
 nodes:List Nv
 cs:List Int
 gen:Int
def Nv.zero:Nv:=aI.zero.c
def bH(L:List Nv)(r:Int):Nv:=if 1<=r/\r<=L.length then L.getD (r-1).toNat Nv.zero else Nv.zero
theorem Lo(L:List aI)(r:Int):(aA L r).c=bH (L.map aI.c) r:=by
 unfold aA bH
 rw[List.length_map]
 split
 ·rename_i h
  have h2:(r-1).toNat<L.length:=by omega
  simp only[gF,List.getElem?_map,List.getElem?_eq_getElem h2,Option.map_some,Option.getD_some]
 ·rfl
theorem Ra{L N:List Nv}{r:Int}(h:r<=L.length):bH (L++N) r=bH L r:=by
 unfold bH
 by_cases h1:1<=r
 ·rw[if_pos ⟨h1,by simp;omega⟩,if_pos ⟨h1,h⟩,gF,gF,List.getElem?_append_left (by omega)]
 ·rw[if_neg (by omega),if_neg (by omega)]
def eH(n:Nv)(c:Nat):Nv:={n with main:=if n.kind=2 then((c+1:Nat):Int) else 0,prev:=if n.kind=3∨n.kind=5∨n.kind=6 then((c+1:Nat):Int) else 0,status:=if n.kind=8 then((c+1:Nat):Int) else 0}
def Mm.push(s:Mm)(n:Nv)(i:Int):Mm:=⟨s.nodes++[eH n s.cs.length],kU n.kind s.cs i,s.gen⟩
inductive Sp:Tr->Mm->Tr->Mm->Prop where
 | alloc (n i k s):Sp (.alloc n i k) s (k ((s.nodes.length+1:Nat):Int)) (s.push n i)
 | cell (i k s):Sp (.cell i k) s (k ((s.cs.length+1:Nat):Int)) ⟨s.nodes,s.cs++[i],s.gen⟩
 | gen (k s):Sp (.gen k) s (k (s.gen+1)) ⟨s.nodes,s.cs,s.gen+1⟩
 | node (r:Int) (k s) (h:r<=s.nodes.length):Sp (.node r k) s (k (bH s.nodes r)) s
inductive Lp:Tr->Mm->Tr->Mm->Prop where
 | load (c k s):Lp (.load c k) s (k (bV s.cs c)) s
 | rP (c o n k s) (b:Bool) (hb:b=true↔nD s.cs c o):Lp (.rP c o n k) s (k b) ⟨s.nodes,iR s.cs c o n,s.gen⟩
inductive Rc:Nat->Tr->Mm->Tr->Mm->Prop where
 | refl (t s):Rc 0 t s t s
 | Um {j t s t1 s1 t2 s2}:Rc j t s t1 s1->Sp t1 s1 t2 s2->Rc j t s t2 s2
 | loud {j t s t1 s1 t2 s2}:Rc j t s t1 s1->Lp t1 s1 t2 s2->Rc (j+1) t s t2 s2
inductive Wk(L:List Nv):Tr->List Int->List Int->List Int->List Int->Tr->Prop where
 | nil (t):Wk L t [] [] [] [] t
 | load {c k v gs ms cl gn R}:Wk L (k v) gs ms cl gn R->Wk L (.load c k) (v::gs) ms cl gn R
 | rP {c o n k v gs ms cl gn R}:Wk L (k (v==1)) gs ms cl gn R->Wk L (.rP c o n k) (v::gs) ms cl gn R
 | alloc {n i k r gs ms cl gn R}:Wk L (k r) gs ms cl gn R->Wk L (.alloc n i k) gs (r::ms) cl gn R
 | cell {i k r gs ms cl gn R}:Wk L (k r) gs ms cl gn R->Wk L (.cell i k) gs ms (r::cl) gn R
 | gen {k r gs ms cl gn R}:Wk L (k r) gs ms cl gn R->Wk L (.gen k) gs ms cl (r::gn) R
 | node {r:Int} {k gs ms cl gn R}:r<=L.length->Wk L (k (bH L r)) gs ms cl gn R->Wk L (.node r k) gs ms cl gn R
theorem Wk.mono{L N:List Nv}{t R:Tr}{gs ms cl gn:List Int}(h:Wk L t gs ms cl gn R):Wk (L++N) t gs ms cl gn R:=by
 induction h with
 | nil t=>exact .nil t
 | load _ ih=>exact .load ih
 | rP _ ih=>exact .rP ih
 | alloc _ ih=>exact .alloc ih
 | cell _ ih=>exact .cell ih
 | gen _ ih=>exact .gen ih
 | node h _ ih=>exact .node (by simp;omega) (by rw[Ra h];exact ih)
theorem Wk.trans{L:List Nv}{t t1 R:Tr}{gs ms cl gn gs' ms' cl' gn':List Int}(h:Wk L t gs ms cl gn t1)(h2:Wk L t1 gs' ms' cl' gn' R):Wk L t (gs++gs') (ms++ms') (cl++cl') (gn++gn') R:=by
 induction h with
 | nil t=>exact h2
 | load _ ih=>exact .load (ih h2)
 | rP _ ih=>exact .rP (ih h2)
 | alloc _ ih=>exact .alloc (ih h2)
 | cell _ ih=>exact .cell (ih h2)
 | gen _ ih=>exact .gen (ih h2)
 | node h _ ih=>exact .node h (ih h2)
def cN:Tr->Nat->Nat->Prop
 | .done _,_,_=>True
 | .stuck,_,_=>False
 | .load _ _,0,_=>True
 | .load _ k,n+1,_=>∀v,cN (k v) n 64
 | .rP _ _ _ _,0,_=>True
 | .rP _ _ _ k,n+1,_=>∀v,cN (k v) n 64
 | .alloc _ _ _,_,0=>False
 | .alloc _ _ k,n,c+1=>∀v,cN (k v) n c
 | .cell _ _,_,0=>False
 | .cell _ k,n,c+1=>∀v,cN (k v) n c
 | .gen _,_,0=>False
 | .gen k,n,c+1=>∀v,cN (k v) n c
 | .node _ k,n,c=>∀v,cN (k v) n c
theorem Wk.xB{L:List Nv}{t R:Tr}{gs ms cl gn:List Int}(h:Wk L t gs ms cl gn R):∀{n c:Nat},c<=64->cN t n c->gs.length<=n->∃c',cN R (n-gs.length) c'/\c'<=64/\ms.length+cl.length+gn.length+c'<=c+64*gs.length:=by
 induction h with
 | nil t=>intro n c hc ht _;exact⟨c,ht,hc,by simp⟩
 | load _ ih =>
  intro n c hc ht hn
  cases n with
  | zero=>simp at hn
  | succ n =>
   obtain⟨c',h1,h2,h3⟩:=ih (Nat.le_refl 64) (ht _) (by simpa using hn)
   exact⟨c',by simpa using h1,h2,by simp only[List.length_cons];omega⟩
 | rP _ ih =>
  intro n c hc ht hn
  cases n with
  | zero=>simp at hn
  | succ n =>
   obtain⟨c',h1,h2,h3⟩:=ih (Nat.le_refl 64) (ht _) (by simpa using hn)
   exact⟨c',by simpa using h1,h2,by simp only[List.length_cons];omega⟩
 | alloc _ ih =>
  intro n c hc ht hn
  cases c with
  | zero=>exact ht.elim
  | succ c =>
   obtain⟨c',h1,h2,h3⟩:=ih (by omega) (ht _) hn
   exact⟨c',h1,h2,by simp only[List.length_cons];omega⟩
 | cell _ ih =>
  intro n c hc ht hn
  cases c with
  | zero=>exact ht.elim
  | succ c =>
   obtain⟨c',h1,h2,h3⟩:=ih (by omega) (ht _) hn
   exact⟨c',h1,h2,by simp only[List.length_cons];omega⟩
 | gen _ ih =>
  intro n c hc ht hn
  cases c with
  | zero=>exact ht.elim
  | succ c =>
   obtain⟨c',h1,h2,h3⟩:=ih (by omega) (ht _) hn
   exact⟨c',h1,h2,by simp only[List.length_cons];omega⟩
 | node _ _ ih=>intro n c hc ht hn;exact ih hc (ht _) hn
theorem Rc.xB{j:Nat}{t t':Tr}{s s':Mm}(h:Rc j t s t' s'):∀{n c:Nat},c<=64->cN t n c->j<=n->∃c',cN t' (n-j) c'/\c'<=64/\s.nodes.length<=s'.nodes.length/\s'.nodes.length+c'<=s.nodes.length+c+64*j/\s'.cs.length+c'<=s.cs.length+c+64*j/\s'.gen+c'<=s.gen+c+64*j:=by
 induction h with
 | refl t s=>intro n c hc ht _;exact⟨c,ht,hc,by omega,by omega,by omega,by omega⟩
 | @Um j t s t1 s1 t2 s2 _ hs ih =>
  intro n c hc ht hn
  obtain⟨c',h1,h2,h3,h4,h5,h6⟩:=ih hc ht hn
  cases hs with
  | alloc nn i k s =>
   cases c' with
   | zero=>exact h1.elim
   | succ c' =>
    have hl:=Dx (k:=nn.kind) (cs:=s1.cs) (init:=i);exact⟨c',h1 _,by omega,by simp[Mm.push];omega,by simp[Mm.push];omega,by simp only[Mm.push];omega,by simp only[Mm.push];omega⟩
  | cell i k s =>
   cases c' with
   | zero=>exact h1.elim
   | succ c'=>exact⟨c',h1 _,by omega,by simpa using h3,by simp;omega,by simp;omega,by simp;omega⟩
  | gen k s =>
   cases c' with
   | zero=>exact h1.elim
   | succ c'=>exact⟨c',h1 _,by omega,by simpa using h3,by simp;omega,by simp;omega,by simp;omega⟩
  | node r k s h=>exact⟨c',h1 _,h2,h3,h4,h5,h6⟩
 | loud _ hs ih =>
  intro n c hc ht hn
  obtain⟨c',h1,h2,h3,h4,h5,h6⟩:=ih hc ht (by omega)
  rename_i j _ _ _ _ _ _ _
  obtain⟨d,hd⟩:∃d,n-j=d+1:=⟨n-j-1,by omega⟩
  rw[hd] at h1;have e:n-(j+1)=d:=by omega
  rw[e]
  cases hs with
  | load c k s=>exact⟨64,h1 _,Nat.le_refl _,h3,by omega,by omega,by omega⟩
  | rP c o nn k s b hb=>exact⟨64,h1 _,Nat.le_refl _,h3,by simp only;omega,by simp only[oI];omega,by simp only;omega⟩
end

/- The contents of a trie in a state: what is computed. -/
section
def cC(n:Nv):Prop:=n.kind=3∨n.kind=5∨n.kind=6
instance (n:Nv):Decidable (cC n):=by unfold cC;exact inferInstance
def lG(N:List Nv)(cs:List Int)(c:Int):Int:=if(bH N (bV cs c)).kind=8 then(if bV cs (bH N (bV cs c)).status=1 then(bH N (bV cs c)).new else(bH N (bV cs c)).bO) else bV cs c
def eD(N:List Nv)(cs:List Int)(c:Int):Option Int:=if(bH N (lG N cs c)).kind=2 then some (lG N cs c) else none
def kC(N:List Nv)(cs:List Int)(i:Int):Int:=bV cs (bH N i).main
def hX(N:List Nv)(cs:List Int)(i:Int):Int:=bV cs (bH N (kC N cs i)).prev
def jU(N:List Nv)(cs:List Int)(i:Int):Int:=if(bH N (hX N cs i)).kind=7 then(bH N (hX N cs i)).bO else hX N cs i
def dB(N:List Nv)(cs:List Int)(i:Int):Option Int :=
 if(bH N i).kind=2/\cC (bH N (kC N cs i)) then
  if hX N cs i=0 then some (kC N cs i) else if cC (bH N (jU N cs i)) then some (jU N cs i) else none
 else none
def iZ(N:List Nv)(f:Int->List Int->Option (List Int)):List Int->List Int->Option (List Int)
 | [],l=>some l
 | b::r,l=>if(bH N b).kind=4 then iZ N f r l else if(bH N b).kind=2 then(f b l).bind (iZ N f r) else none
def yX(N:List Nv)(cs:List Int):Nat->Int->List Int->Option (List Int)
 | 0,_,_=>none
 | n+1,i,l=>if i∈l then none else(dB N cs i).bind λ m=>iZ N (yX N cs n) (bH N m).xs (l++[i])
def Qy(v:Nv):List Pr:=if v.kind=5 then [(v.key,v.val)] else if v.kind=6 then v.ys else []
def Zj(N:List Nv)(f:Int->List Pr):List Int->List Pr
 | []=>[]
 | b::r=>(if(bH N b).kind=4 then [((bH N b).key,(bH N b).val)] else f b)++Zj N f r
def za(N:List Nv)(cs:List Int):Nat->Int->List Pr
 | 0,_=>[]
 | n+1,i=>match dB N cs i with
  | none=>[]
  | some m=>Qy (bH N m)++Zj N (za N cs n) (bH N m).xs
theorem wE{N:List Nv}{f:Int->List Int->Option (List Int)}:∀(a b l:List Int),iZ N f (a++b) l=(iZ N f a l).bind (iZ N f b)
 | [],b,l=>rfl
 | x::a,b,l=>by
  simp only[List.cons_append,iZ]
  split
  ·exact wE a b l
  split
  ·cases f x l with
   | none=>rfl
   | some l2=>exact wE a b l2
  ·rfl
theorem nM{N:List Nv}{cs:List Int}{i m:Int}(h:dB N cs i=some m):(bH N i).kind=2/\cC (bH N m):=by
 unfold dB at h
 split at h
 ·rename_i h1
  split at h
  ·cases h;exact h1
  split at h
  ·cases h;exact⟨h1.1,by assumption⟩
  ·cases h
 ·cases h
theorem eF{N:List Nv}{i:Int}(h:(bH N i).kind≠0):1<=i/\i<=N.length:=by
 unfold bH at h
 split at h
 ·assumption
 ·exact absurd rfl h
theorem Na{N:List Nv}{cs:List Int}:∀(n:Nat) (i:Int) (l l2:List Int),yX N cs n i l=some l2->∃r,l2=l++i::r
 | 0,_,_,_,h=>nomatch h
 | n+1,i,l,l2,h=>by
  unfold yX at h
  split at h
  ·cases h
  obtain⟨m,_,h⟩:=Option.bind_eq_some_iff.1 h
  have key:∀(xs l l2:List Int),iZ N (yX N cs n) xs l=some l2->∃r,l2=l++r:=by
   intro xs
   induction xs with
   | nil=>intro l l2 h;cases h;exact⟨[],by simp⟩
   | cons b r ih =>
    intro l l2 h
    unfold iZ at h
    split at h
    ·exact ih l l2 h
    split at h
    ·obtain⟨l3,h3,h⟩:=Option.bind_eq_some_iff.1 h
     obtain⟨r1,rfl⟩:=Na n b l l3 h3
     obtain⟨r2,rfl⟩:=ih _ _ h
     exact⟨b::r1++r2,by simp⟩
    ·cases h
  obtain⟨r,rfl⟩:=key _ _ _ h
  exact⟨r,by simp⟩
end

/- Places of a trie in a state: what is computed (plain). -/
section
structure Pl where
 i:Int
 m:Int
 a:Int
 lv:Nat
 way:List Int
def fZ(b:Nat):Nat->List Int
 | 0=>[]
 | k+1=>fZ b k++(if b.testBit k then [(k:Int)] else [])
def yQ(N:List Nv)(f:Int->List Int->List Int->Option (List Pl×List Pr))(way idx:List Int):List Int->Nat->List Int->Option (List Pl×List Pr)
 | [],_,_=>some ([],[])
 | b::r,j,s=>if(bH N b).kind=4 then(yQ N f way idx r (j+1) s).map λ q=>(q.1,((bH N b).key,(bH N b).val)::q.2)
  else if(bH N b).kind=2 then(f b (way++[idx.getD j 0]) s).bind λ p=>(yQ N f way idx r (j+1) (s++p.1.map Pl.i)).map λ q=>(p.1++q.1,p.2++q.2)
  else none
def tU(N:List Nv)(cs:List Int):Nat->Int->Nat->Int->List Int->List Int->Option (List Pl×List Pr)
 | 0,_,_,_,_,_=>none
 | n+1,a,lv,i,way,s=>if i∈s then none else(dB N cs i).bind λ m =>
  if(bH N m).kind=5∨(bH N m).kind=6 then some ([⟨i,m,a,lv,way⟩],Qy (bH N m))
  else(yQ N (λ b w s=>tU N cs n i (lv+1) b w s) way (fZ (bH N m).bm.toNat 64) (bH N m).xs 0 (s++[i])).map λ q=>(⟨i,m,a,lv,way⟩::q.1,q.2)
end

/- Bits: the lowest bit of a number, and the number without it. -/
section
structure Wu(b t:Nat):Prop where
 at_:b.testBit t=true
 lt:∀k,k<t->b.testBit k=false
theorem aAo{b n:Nat}(h0:0<b)(hn:b<2^n):∃t,t<n/\Wu b t:=by
 have key:∀m,(∃t,t<m/\Wu b t)∨∀k,k<m->b.testBit k=false:=by
  intro m
  induction m with
  | zero=>exact .inr λ k hk=>absurd hk (Nat.not_lt_zero k)
  | succ m ih =>
   rcases ih with⟨t,h1,h2⟩|ih
   ·exact .inl ⟨t,by omega,h2⟩
   ·cases hb:b.testBit m with
    | true=>exact .inl ⟨m,Nat.lt_succ_self m,hb,ih⟩
    | false =>
     refine .inr λ k hk=>?_;by_cases e:k=m
     ·rw[e];exact hb
     ·exact ih k (by omega)
 rcases key n with h|h
 ·exact h
 ·have:b=0:=by
   refine Nat.eq_of_testBit_eq λ i=>?_;rw[Nat.zero_testBit];by_cases hi:i<n
   ·exact h i hi
   ·exact Nat.testBit_lt_two_pow (Nat.lt_of_lt_of_le hn (Nat.pow_le_pow_right (by decide) (by omega)))
  omega
theorem Wu.form{b t:Nat}(h:Wu b t):∃c,b=2^t*(2*c)+2^t:=by
 have hz:b%2^t=0:=by
  refine Nat.eq_of_testBit_eq λ i=>?_;rw[Nat.testBit_mod_two_pow,Nat.zero_testBit];by_cases hi:i<t
  ·rw[h.lt i hi];simp
  ·simp[hi]
 have ho:b/2^t%2=1:=by
  have:=h.at_;rw[Nat.testBit_eq_decide_div_mod_eq] at this;simpa using this
 refine⟨b/2^t/2,?_⟩;have e1:b=2^t*(b/2^t):=by have:=Nat.div_add_mod b (2^t);omega
 have e2:b/2^t=2*(b/2^t/2)+1:=by omega
 rw[<- Nat.mul_add_one,<- e2]
 exact e1
theorem Wu.pred{b t:Nat}(h:Wu b t)(k:Nat):(b-1).testBit k=if k<t then true else if k=t then false else b.testBit k:=by
 obtain⟨c,e⟩:=h.form
 have hp:0<2^t:=Nat.two_pow_pos t;have e1:b-1=2^t*(2*c)+(2^t-1):=by omega
 have e2:b=2^t*(2*c+1)+0:=by rw[Nat.mul_add_one];omega
 rw[e1,Nat.testBit_two_pow_mul_add _ (by omega)]
 split
 ·rename_i hk;rw[Nat.testBit_two_pow_sub_one];simp[hk]
 ·split
  ·rename_i hk;rw[hk,Nat.sub_self,Nat.testBit_zero];simp
  ·rename_i h1 h2
   rw[e2,Nat.testBit_two_pow_mul_add _ hp,if_neg h1]
   obtain⟨j,hj⟩:∃j,k-t=j+1:=⟨k-t-1,by omega⟩
   rw[hj,Nat.testBit_succ,Nat.testBit_succ]
   congr 1
   omega
theorem Wu.clear{b t:Nat}(h:Wu b t)(k:Nat):(b &&& (b-1)).testBit k=(b.testBit k&&decide (k≠t)):=by
 rw[Nat.testBit_and,h.pred]
 split
 ·rename_i hk;rw[h.lt k hk];rfl
 ·split
  ·rename_i hk;simp[hk]
  ·rename_i hk;simp[hk]
theorem Wu.neg{b t n:Nat}(h:Wu b t)(hb:b<2^n):b &&& (2^n-b)=2^t:=by
 have hb0:b≠0:=λ e=>by have:=h.at_;rw[e,Nat.zero_testBit] at this;cases this
 have htn:t<n:=by
  rcases Nat.lt_or_ge t n with h1|h1
  ·exact h1
  ·have:=Nat.testBit_lt_two_pow (i:=t) (Nat.lt_of_lt_of_le hb (Nat.pow_le_pow_right (by decide) h1));rw[h.at_] at this;cases this
 refine Nat.eq_of_testBit_eq λ k=>?_;have e:2^n-b=2^n-((b-1)+1):=by omega
 rw[Nat.testBit_and,e,Nat.testBit_two_pow_sub_succ (by omega),h.pred,Nat.testBit_two_pow]
 split
 ·rename_i hk;rw[h.lt k hk];simp;omega
 ·split
  ·rename_i hk;rw[hk,h.at_];simp[htn]
  ·rename_i h1 h2
   cases hb2:b.testBit k<;>simp<;>omega
theorem Qj{b b' t:Nat}(h:Wu b t)(hc:∀k,b'.testBit k=(b.testBit k&&decide (k≠t))):∀n,t<n->fZ b n=(t:Int)::fZ b' n
 | 0,hn=>absurd hn (Nat.not_lt_zero t)
 | n+1,hn=>by
  have none:∀(a:Nat) m,(∀k,k<m->a.testBit k=false)->fZ a m=[]:=by
   intro a m
   induction m with
   | zero=>intro _;rfl
   | succ m ih=>intro hk;simp only[fZ];rw[ih λ k h=>hk k (by omega),hk m (by omega)];rfl
  simp only[fZ]
  by_cases e:t=n
  ·subst e
   rw[none b t h.lt,none b' t λ k hk=>by rw[hc,h.lt k hk];rfl,h.at_,hc]
   simp
  ·rw[Qj h hc n (by omega),hc];have:decide (n≠t)=true:=by simp;omega
   rw[this,Bool.and_true]
   rfl
end

end Go.Ct

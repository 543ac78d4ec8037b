/- The rules of one operation, in a frame that has deferred calls. Written by a program. -/
import Derived.Test.YtbajmaoegmbfgaaGreatGAr9
import Derived.Test.YtbajmaoegmbfgaaGreatGAr2
import Derived.Test.YtbajmaoegmbfgaaGreatGNode2
import Derived.Lib.Bytealg
import Derived.Laws.Externs

set_option linter.unusedSimpArgs false
set_option linter.unusedVariables false
namespace Go.Proofs.YtbajmaoegmbfgaaGreat
section
open Go Go.RowKit Go.Ct
variable{n:Nat}{Q:Exit->Act->World->Prop}{ks:List CK}{S:List (Nat×Value)}{ops:Array Oper}{l ol:List Oper}{pl:pD}{LL:List Nat}{Dl Dp Dq:List Nat}
variable{w0:World}{M:List Nat}{H:List (Nat×Obj)}{A F:Fr}{O:List Ow}{G:World->Prop}{i d:Nat}{v:Value}{op:Op}{ty:TypeId}{pos:String}{af:Array Edge}{gd:Option (Nat×Bool)}{X:Type}{V:X->Value}{G':X->World->Prop}{j g:Nat}{want t:Bool}
variable{ds:List Deferred}
theorem gO(h:LD Tryz.prog n ds Q ks ops l ((d,v)::S) G)(hq:aP Tryz.prog S G ⟨some d,op,ty,pos,af,none⟩ v:=by exact Rq wn)(hd:Nat.blt d n=true:=by exact rfl):LD Tryz.prog n ds Q ks ops (⟨some d,op,ty,pos,af,none⟩::l) S G:=fH hq hd h
theorem T6(h:LD Tryz.prog n ds Q ks ops l ((d,v)::S) G)(hq:aP Tryz.prog S G ⟨some d,op,ty,pos,af,none⟩ v:=by first|exact E3 rf wn|exact Gu rf wn|exact o_pick_b rf rf rf)(hd:Nat.blt d n=true:=by exact rfl):LD Tryz.prog n ds Q ks ops (⟨some d,op,ty,pos,af,none⟩::l) S G:=fH hq hd h
theorem cJ(h:LD Tryz.prog n ds Q ks ops l ((d,v)::S) G)(hq:aP Tryz.prog S G ⟨some d,op,ty,pos,af,none⟩ v:=by first|exact tK rf xd|exact qG rf xd)(hd:Nat.blt d n=true:=by exact rfl):LD Tryz.prog n ds Q ks ops (⟨some d,op,ty,pos,af,none⟩::l) S G:=fH hq hd h
theorem gH(h:LD Tryz.prog n ds Q ks ops l ((d,v)::S) G)(hq:aP Tryz.prog S G ⟨some d,op,ty,pos,af,none⟩ v:=by exact Jy)(hd:Nat.blt d n=true:=by exact rfl):LD Tryz.prog n ds Q ks ops (⟨some d,op,ty,pos,af,none⟩::l) S G:=fH hq hd h
theorem Z9(h:LD Tryz.prog n ds Q ks ops l ((d,v)::S) G)(hq:aP Tryz.prog S G ⟨some d,op,ty,pos,af,none⟩ v:=by exact ab)(hd:Nat.blt d n=true:=by exact rfl):LD Tryz.prog n ds Q ks ops (⟨some d,op,ty,pos,af,none⟩::l) S G:=fH hq hd h
theorem ig(h:∀x,LD Tryz.prog n ds Q ks ops l ((d,V x)::S) (G' x))(hq:aM Tryz.prog S G ⟨some d,op,ty,pos,af,none⟩ X V G':=by first|exact dR λ _=>Zk rf|exact dR λ _=>Qb rf rfl)(hd:Nat.blt d n=true:=by exact rfl):LD Tryz.prog n ds Q ks ops (⟨some d,op,ty,pos,af,none⟩::l) S G:=D7 hq hd h
theorem vJ(h:∀x,LD Tryz.prog n ds Q ks ops l ((d,V x)::S) (G' x))(hq:aM Tryz.prog S G ⟨some d,op,ty,pos,af,none⟩ X V G':=by exact Du)(hd:Nat.blt d n=true:=by exact rfl):LD Tryz.prog n ds Q ks ops (⟨some d,op,ty,pos,af,none⟩::l) S G:=D7 hq hd h
theorem nD(h:∀x,LD Tryz.prog n ds Q ks ops l ((d,V x)::S) (G' x))(hq:aM Tryz.prog S G ⟨some d,op,ty,pos,af,none⟩ X V G':=by exact iN (Hi wn))(hd:Nat.blt d n=true:=by exact rfl):LD Tryz.prog n ds Q ks ops (⟨some d,op,ty,pos,af,none⟩::l) S G:=D7 hq hd h
theorem vG(h:∀x,LD Tryz.prog n ds Q ks ops l S (G' x))(hq:aM Tryz.prog S G ⟨none,op,ty,pos,af,none⟩ X V G':=by exact Ka):LD Tryz.prog n ds Q ks ops (⟨none,op,ty,pos,af,none⟩::l) S G:=O9 hq h
theorem A3{φ:X->Prop}(hq:aM Tryz.prog S G ⟨some d,op,ty,pos,af,none⟩ X V (λ x w=>φ x/\G' x w))(h:∀x,φ x->LD Tryz.prog n ds Q ks ops l ((d,V x)::S) (G' x))(hd:Nat.blt d n=true:=by exact rfl):LD Tryz.prog n ds Q ks ops (⟨some d,op,ty,pos,af,none⟩::l) S G:=D7 hq hd λ x=>xL (h x)
theorem xJ(hq:aM Tryz.prog S G ⟨none,op,ty,pos,af,none⟩ X V G')(h:∀x,LD Tryz.prog n ds Q ks ops l S (G' x)):LD Tryz.prog n ds Q ks ops (⟨none,op,ty,pos,af,none⟩::l) S G:=O9 hq h
theorem jR(h:LD Tryz.prog n ds Q ks ops (⟨some d,op,ty,pos,af,none⟩::l) S G)(hj:(ops[j]?).bind (·.dst)=some g:=by exact rfl)(hg:Ct.look S g=.bool want:=by exact rfl):LD Tryz.prog n ds Q ks ops (⟨some d,op,ty,pos,af,some (j,want)⟩::l) S G:=Vq hj hg h
end

/- Accesses and results. -/
end Go.Proofs.YtbajmaoegmbfgaaGreat
namespace Go.Ct
section
open Go Go.RowKit
structure Ac where
 k:Int
 c:Int
 o:Int
 n:Int
structure Rs where
 err:Int
 found:Bool
 val:Int
 key:ByteArray
 gW:Int
 ref:Int
 root:Int
 ro:Bool
abbrev Ac.cells(a:Ac):List Value:=[.int .i64 a.k,.int .i64 a.c,.int .i64 a.o,.int .i64 a.n]
abbrev Rs.cells(r:Rs):List Value:=[.int .i64 r.err,.bool r.found,.int .u64 r.val,.string r.key,.int .i64 r.gW,.int .i64 r.ref,.int .i64 r.root,.bool r.ro]
abbrev Rs.zero:Rs:=⟨0,false,0,⟨#[]⟩,0,0,0,false⟩
abbrev Ac.zero:Ac:=⟨0,0,0,0⟩
end

/- Tasks: codes. -/
section
open Go Go.RowKit
abbrev Clo:=Option (FuncId×List Value)
abbrev fnV:Clo->Value
 | none=>.nilFunc
 | some p=>.func (.func p.1) #[] ⟨p.2⟩
structure Cd where
 a:Ac
 f:Clo
 g:Clo
 r:Rs
abbrev Cd.cells(c:Cd):List Value:=[.int .i64 c.a.k,.int .i64 c.a.c,.int .i64 c.a.o,.int .i64 c.a.n,fnV c.f,fnV c.g,.int .i64 c.r.err,.bool c.r.found,.int .u64 c.r.val,.string c.r.key,.int .i64 c.r.gW,.int .i64 c.r.ref,.int .i64 c.r.root,.bool c.r.ro]
abbrev yT(r:Rs):Cd:=⟨⟨0,0,0,0⟩,none,none,r⟩
abbrev nJ(c:Int)(f:FuncId)(cap:List Value):Cd:=⟨⟨1,c,0,0⟩,some (f,cap),none,⟨0,false,0,⟨#[]⟩,0,0,0,false⟩⟩
abbrev tY(c o n:Int)(g:FuncId)(cap:List Value):Cd:=⟨⟨2,c,o,n⟩,none,some (g,cap),⟨0,false,0,⟨#[]⟩,0,0,0,false⟩⟩
theorem cO(c:Cd):c.cells.all (·.oneCell')=true:=by
 obtain⟨a,f,g,r⟩:=c
 cases f<;>cases g<;>rfl
def gu(cs:List Int)(c o:Int):Bool:=decide (1<=c/\c<=(cs.length:Int)/\cs.getD (c-1).toNat 0=o)
theorem wI{cs:List Int}{c o:Int}{r:Bool}(h:r=true↔kR cs c o):r=gu cs c o:=by
 rw[Bool.eq_iff_iff,h]
 unfold gu kR
 rw[decide_eq_true_eq]
end
end Go.Ct
namespace Go.Proofs.YtbajmaoegmbfgaaGreat
section
open Go.RowKit Go.Ct
theorem Sf(r:Rs)(w:World):Calls Tryz.prog 77 #[.agg ⟨r.cells⟩] w λ e w'=>e=.returned (.agg ⟨(yT r).cells⟩)/\St w [] [] w':=by
 refine enter Tryz.func77 Tryz.ntmps77 rfl rfl (SF.s0 w) ?_
 simp only[cN]
 all_goals (refine J0 ?_;refine bW (λ x1=>?_);refine aJ (λ x2=>?_);refine aH ?_;refine qF ?_;refine wJ ?_)
 all_goals
 refine bE Tryz.results77 (λ w hw=>?_)
 exact⟨rfl,hw.done⟩
theorem nP(c:Int)(f:FuncId)(cap:List Value)(w:World):Calls Tryz.prog 130 #[.int .i64 c,.func (.func f) #[] ⟨cap⟩] w λ e w'=>e=.returned (.agg ⟨(nJ c f cap).cells⟩)/\St w [] [] w':=by
 refine enter Tryz.func130 Tryz.ntmps130 rfl rfl (SF.s0 w) ?_
 simp only[cN]
 all_goals (refine J0 ?_;refine aJ (λ x4=>?_);refine aH ?_;refine J2 ?_;refine bO ?_;refine aA ?_;refine wJ ?_)
 all_goals
 refine bE Tryz.results130 (λ w hw=>?_)
 exact⟨rfl,hw.done⟩
theorem tM(c o n:Int)(f:FuncId)(cap:List Value)(w:World):Calls Tryz.prog 119 #[.int .i64 c,.int .i64 o,.int .i64 n,.func (.func f) #[] ⟨cap⟩] w λ e w'=>e=.returned (.agg ⟨(tY c o n f cap).cells⟩)/\St w [] [] w':=by
 refine enter Tryz.func119 Tryz.ntmps119 rfl rfl (SF.s0 w) ?_
 simp only[cN]
 all_goals (refine J0 ?_;refine aJ (λ x8=>?_);refine aH ?_;refine jN ?_;refine aA ?_;refine bO ?_;refine aA ?_;refine wJ ?_)
 all_goals
 refine bE Tryz.results119 (λ w hw=>?_)
 exact⟨rfl,hw.done⟩
end

/- Tasks: calls through the store, of function values; what is deferred does nothing. -/
section
open Go Go.RowKit Go.Ct
theorem eb(p:Option Addr)(a:Value)(w:World):(callMethod (.iface 42 (.pointer p)) "Load" #[a]).run Tryz.prog w=.ok (.enter 35 #[.pointer p,a]) w:=by kernel_rfl
theorem ji(p:Option Addr)(a b c:Value)(w:World):(callMethod (.iface 42 (.pointer p)) "CAS" #[a,b,c]).run Tryz.prog w=.ok (.enter 279 #[.pointer p,a,b,c]) w:=by kernel_rfl
theorem qM(p:Option Addr)(w:World):(binOp .neq 123 (.iface 42 (.pointer p)) .nilIface).run Tryz.prog w=.ok (.bool true) w:=by kernel_rfl
theorem z7(f:Fn)(a b:Array Value)(w:World):(binOp .eql 135 (.func f a b) .nilFunc).run Tryz.prog w=.ok (.bool false) w:=by kernel_rfl
theorem cx(f:Fn)(a b:Array Value)(w:World):(binOp .eql 129 (.func f a b) .nilFunc).run Tryz.prog w=.ok (.bool false) w:=by kernel_rfl
theorem q7(f:Fn)(a b:Array Value)(w:World):(binOp .eql 130 (.func f a b) .nilFunc).run Tryz.prog w=.ok (.bool false) w:=by kernel_rfl
theorem Qe(p:Option Addr):Idle Tryz.prog 161 #[.pointer p]:=λ w=>by
 refine callsD_of_wpS Tryz.func161 rfl λ c₀ cs hu=>?_
 apply wpS_seq
 apply wpS_region
 simp[wpOpsS,go_sem,recoverD,hu,Tryz.ntmps161,Exit.thenS]
 refine wpS_cond (t:=false) (by simp[Act.eval,Array.replicate]) ?_
 simp only[Bool.false_eq_true,if_false]
 refine wpS_of_wp (wp_skip ?_)
 cases c₀
 simp_all[bodyPostS,results,Tryz.results161]
theorem gQ(p:Option Addr):Idle Tryz.prog 129 #[.pointer p]:=λ w=>by
 refine callsD_of_wpS Tryz.func129 rfl λ c₀ cs hu=>?_
 apply wpS_seq
 apply wpS_region
 simp[wpOpsS,go_sem,recoverD,hu,Tryz.ntmps129,Exit.thenS]
 refine wpS_cond (t:=false) (by simp[Act.eval,Array.replicate]) ?_
 simp only[Bool.false_eq_true,if_false]
 refine wpS_of_wp (wp_skip ?_)
 cases c₀
 simp_all[bodyPostS,results,Tryz.results129]
section
variable{S:List (Nat×Value)}{w0 w:World}{M:List Nat}{H:List (Nat×Obj)}{A F:Fr}{O:List Ow}{ty:TypeId}{pos:String}{af:Array Edge}{gd:Option (Nat×Bool)}{X:Type}{V:X->Value}
end
end

/- Tasks: calls of function values that change known blocks. -/
section
open Go Go.RowKit Go.Ct
section
variable{S:List (Nat×Value)}{w0 w:World}{M:List Nat}{H:List (Nat×Obj)}{A F:Fr}{O:List Ow}{ty:TypeId}{pos:String}{af:Array Edge}{gd:Option (Nat×Bool)}{X:Type}{V:X->Value}
end
end

/- Pairs: valid lists are maps. -/
section
open Go.RowKit Go.Ct
theorem u4{a b c:ByteArray}(h:eG a b=true)(h2:eG c b=false):eG a c=true:=by
 cases hb:eG b c with
 | true=>exact lT h hb
 | false=>have:=qK hb h2;subst this;exact h
theorem wi{a b c:ByteArray}(h:eG b a=false)(h2:eG c b=false):eG c a=false:=by
 cases hc:eG c a with
 | false=>rfl
 | true=>have:=u4 hc h;rw[this] at h2;cases h2
theorem rB{a b:ByteArray}(h:eG a b=true):a≠b:=λ e=>by subst e;rw[Ak] at h;cases h
theorem Yg{a b:ByteArray}(h:eG b a=false)(hn:a≠b):eG a b=true:=by
 cases hb:eG a b with
 | true=>rfl
 | false=>exact absurd (qK hb h) hn
def SA(l:List Pr):Prop:=l.Pairwise λ p q=>eG p.1 q.1=true
theorem Vc{l:List Pr}(h:qx l):∀d i,i+d+1<l.length->eG (l.getD i (⟨#[]⟩,0)).1 (l.getD (i+d+1) (⟨#[]⟩,0)).1=true
 | 0,i,hi=>by have:=h (i+1) (by omega) hi;rwa [Nat.add_sub_cancel] at this
 | d+1,i,hi=>lT (Vc h d i (by omega)) (by have:=h (i+(d+1)+1) (by omega) hi;rwa [Nat.add_sub_cancel] at this)
theorem iX{l:List Pr}{i:Nat}(h:i<l.length):l.getD i (⟨#[]⟩,0)=l[i]:=by simp[List.getD,List.getElem?_eq_getElem h]
theorem pL{l:List Pr}:qx l↔SA l:=by
 constructor
 ·intro h
  refine List.pairwise_iff_getElem.2 λ i j hi hj hij=>?_
  have:=Vc h (j-i-1) i (by omega)
  rw[show i+(j-i-1)+1=j by omega,iX hi,iX hj] at this
  exact this
 ·intro h i h1 hi
  rw[iX (by omega),iX hi]
  exact List.pairwise_iff_getElem.1 h (i-1) i (by omega) hi (by omega)
def rJ:List Pr->ByteArray->Option Int
 | [],_=>none
 | p::l,k=>if p.1=k then some p.2 else rJ l k
theorem pJ{l:List Pr}{k:ByteArray}(h:∀p∈l,p.1≠k):rJ l k=none:=by
 induction l with
 | nil=>rfl
 | cons p l ih=>exact(if_neg (h p (.head _))).trans (ih λ q hq=>h q (.tail _ hq))
theorem Zf:∀{l m:List Pr},SA l->SA m->(∀k,rJ l k=rJ m k)->l=m
 | [],[],_,_,_=>rfl
 | [],q::m,_,_,h=>by have:=h q.1;simp[rJ] at this
 | p::l,[],_,_,h=>by have:=h p.1;simp[rJ] at this
 | p::l,q::m,h1,h2,h=>by
  have h1':=List.pairwise_cons.1 h1
  have h2':=List.pairwise_cons.1 h2
  have e1:eG p.1 q.1=false:=by
   cases hb:eG p.1 q.1 with
   | false=>rfl
   | true =>
    have:rJ (q::m) p.1=none:=pJ λ x hx=>by
     rcases List.mem_cons.1 hx with rfl|hx
     ·exact(rB hb).symm
     ·exact(rB (lT hb (h2'.1 x hx))).symm
    have h':=h p.1
    rw[this] at h';simp[rJ] at h'
  have e2:eG q.1 p.1=false:=by
   cases hb:eG q.1 p.1 with
   | false=>rfl
   | true =>
    have:rJ (p::l) q.1=none:=pJ λ x hx=>by
     rcases List.mem_cons.1 hx with rfl|hx
     ·exact(rB hb).symm
     ·exact(rB (lT hb (h1'.1 x hx))).symm
    have h':=h q.1
    rw[this] at h';simp[rJ] at h'
  have ek:=qK e1 e2
  have ev:p.2=q.2:=by have:=h p.1;simpa[rJ,ek] using this
  have et:l=m:=Zf h1'.2 h2'.2 λ k=>by
   by_cases hk:p.1=k
   ·subst hk
    rw[pJ λ x hx=>(rB (h1'.1 x hx)).symm,pJ λ x hx=>by rw[ek];exact(rB (h2'.1 x hx)).symm]
   ·have:=h k
    rw[rJ,rJ,if_neg hk,if_neg (by rw[<- ek];exact hk)] at this
    exact this
  rw[et,show p=q from Prod.ext ek ev]
def mG:List Pr->ByteArray->Int->List Pr
 | [],k,v=>[(k,v)]
 | p::l,k,v=>if eG p.1 k=true then p::mG l k v else if p.1=k then(k,v)::l else(k,v)::p::l
def jC(l:List Pr)(k:ByteArray):List Pr:=l.filter λ p=>decide (p.1≠k)
theorem As{l:List Pr}{k:ByteArray}{v:Int}:∀{q:Pr},q∈mG l k v->q=(k,v)∨q∈l:=by
 induction l with
 | nil=>intro q h;rw[mG,List.mem_singleton] at h;exact .inl h
 | cons p l ih =>
  intro q h
  rw[mG] at h
  split at h
  ·rcases List.mem_cons.1 h with rfl|h
   ·exact .inr (.head _)
   ·exact(ih h).imp id (.tail _)
  ·split at h
   ·exact(List.mem_cons.1 h).imp id (.tail _)
   ·exact List.mem_cons.1 h
theorem xN{k:ByteArray}{v:Int}:∀{l:List Pr},SA l->SA (mG l k v)
 | [],_=>List.pairwise_singleton _ _
 | p::l,h=>by
  have h':=List.pairwise_cons.1 h
  rw[mG]
  split
  ·next hlt =>
   refine List.pairwise_cons.2 ⟨λ q hq=>?_,xN h'.2⟩
   rcases As hq with rfl|hq
   ·exact hlt
   ·exact h'.1 q hq
  ·next hlt =>
   split
   ·next he =>
    subst he
    exact List.pairwise_cons.2 ⟨λ q hq=>h'.1 q hq,h'.2⟩
   ·next hne =>
    have hkp:eG k p.1=true:=Yg (by simpa using hlt) (λ e=>hne e.symm)
    refine List.pairwise_cons.2 ⟨λ q hq=>?_,h⟩
    rcases List.mem_cons.1 hq with rfl|hq
    ·exact hkp
    ·exact lT hkp (h'.1 q hq)
theorem Ey{k:ByteArray}{v:Int}(j:ByteArray):∀{l:List Pr},SA l->rJ (mG l k v) j=if j=k then some v else rJ l j
 | [],_=>by
  simp only[mG,rJ]
  by_cases h:j=k
  ·rw[if_pos h,if_pos h.symm]
  ·rw[if_neg h,if_neg λ e=>h e.symm]
 | p::l,h=>by
  have h':=List.pairwise_cons.1 h
  have ih:=Ey (k:=k) (v:=v) j h'.2
  rw[mG]
  split
  ·next hlt =>
   rw[rJ,ih,rJ]
   by_cases hj:j=k
   ·rw[if_pos hj,if_pos hj,if_neg λ e=>rB hlt (e.trans hj)]
   ·rw[if_neg hj,if_neg hj]
  ·split
   ·next he =>
    rw[rJ,rJ]
    by_cases hj:j=k
    ·rw[if_pos hj,if_pos hj.symm]
    ·rw[if_neg hj,if_neg λ e=>hj e.symm,if_neg λ e=>hj (e.symm.trans he)]
   ·rw[rJ]
    by_cases hj:j=k
    ·rw[if_pos hj,if_pos hj.symm]
    ·rw[if_neg hj,if_neg λ e=>hj e.symm]
theorem vY{l:List Pr}(k:ByteArray)(h:SA l):SA (jC l k):=h.sublist List.filter_sublist
theorem Vp(l:List Pr)(k j:ByteArray):rJ (jC l k) j=if j=k then none else rJ l j:=by
 unfold jC
 induction l with
 | nil=>simp[rJ]
 | cons p l ih =>
  rw[List.filter_cons]
  by_cases hp:p.1=k
  ·rw[if_neg (by simp[hp]),ih,rJ]
   by_cases hj:j=k
   ·rw[if_pos hj,if_pos hj]
   ·rw[if_neg hj,if_neg hj,if_neg λ e=>hj (e.symm.trans hp)]
  ·rw[if_pos (by simp[hp]),rJ,ih,rJ]
   by_cases hj:j=k
   ·rw[if_pos hj,if_pos hj,if_neg λ e=>hp (e.trans hj)]
   ·rw[if_neg hj,if_neg hj]
theorem Nz{l:List Pr}(h:SA l)(k:ByteArray)(v:Int):mG (jC l k) k v=mG l k v :=
 Zf (xN (vY k h)) (xN h) λ j=>by
  rw[Ey j (vY k h),Ey j h,Vp]
  by_cases hj:j=k
  ·rw[if_pos hj,if_pos hj]
  ·rw[if_neg hj,if_neg hj,if_neg hj]
structure Oy(l:List Pr)(k:ByteArray)(i:Nat):Prop where
 le:i<=l.length
 lo:∀j,j<i->eG (l.getD j (⟨#[]⟩,0)).1 k=true
 hi:∀j,i<=j->j<l.length->eG (l.getD j (⟨#[]⟩,0)).1 k=false
theorem Oy.tl{p:Pr}{l:List Pr}{k:ByteArray}{i:Nat}(h:Oy (p::l) k (i+1)):eG p.1 k=true/\Oy l k i :=
 ⟨h.lo 0 (by omega),⟨by have:=h.le;simp at this;omega,λ j hj=>h.lo (j+1) (by omega),λ j h1 h2=>h.hi (j+1) (by omega) (by simp;omega)⟩⟩
theorem Uz{k:ByteArray}{v:Int}:∀{l:List Pr} {i:Nat},Oy l k i->¬(i<l.length/\(l.getD i (⟨#[]⟩,0)).1=k)->mG l k v=l.take i++(k,v)::l.drop i
 | [],i,h,_=>by have:=h.le;simp at this;subst this;rfl
 | p::l,0,h,hn=>by
  have:eG p.1 k=false:=h.hi 0 (Nat.le_refl _) (by simp)
  rw[mG,if_neg (by rw[this];decide),if_neg λ e:p.1=k=>hn ⟨by simp,e⟩]
  rfl
 | p::l,i+1,h,hn=>by
  rw[mG,if_pos h.tl.1,Uz h.tl.2 λ hh=>hn ⟨by simp;omega,hh.2⟩]
  rfl
theorem di{k:ByteArray}:∀{l:List Pr} {v:Int},rJ l k=some v->∃i,i<l.length/\(l.getD i (⟨#[]⟩,0)).1=k
 | [],_,h=>by cases h
 | p::l,v,h=>by
  rw[rJ] at h
  split at h
  ·next he=>exact⟨0,by simp,he⟩
  ·obtain⟨i,h1,h2⟩:=di h
   exact⟨i+1,by simp;omega,h2⟩
theorem wZ{k:ByteArray}{v:Int}:∀{l:List Pr},SA l->(mG l k v).length=if(rJ l k).isSome=true then l.length else l.length+1
 | [],_=>rfl
 | p::l,h=>by
  have h':=List.pairwise_cons.1 h
  rw[mG]
  split
  ·next hlt =>
   rw[List.length_cons,wZ h'.2,rJ,if_neg (rB hlt)]
   split<;>rfl
  ·next hlt =>
   split
   ·next he=>rw[rJ,if_pos he];rfl
   ·next hne =>
    have hkp:eG k p.1=true:=Yg (by simpa using hlt) (λ e=>hne e.symm)
    rw[rJ,if_neg hne,pJ λ q hq=>(rB (lT hkp (h'.1 q hq))).symm]
    rfl
theorem Nt{k:ByteArray}:∀{l:List Pr},SA l->(jC l k).length=if(rJ l k).isSome=true then l.length-1 else l.length
 | [],_=>rfl
 | p::l,h=>by
  have h':=List.pairwise_cons.1 h
  have ih:=Nt (k:=k) h'.2
  unfold jC at ih ⊢
  rw[List.filter_cons]
  by_cases hp:p.1=k
  ·have hn:∀q∈l,q.1≠k:=λ q hq=>by rw[<- hp];exact(rB (h'.1 q hq)).symm
   rw[if_neg (by simp[hp]),rJ,if_pos hp,List.filter_eq_self.2 λ q hq=>by simpa using hn q hq]
   rfl
  ·rw[if_pos (by simp[hp]),List.length_cons,ih,rJ,if_neg hp]
   split
   ·next hs =>
    have:1<=l.length:=by
     cases hf:rJ l k with
     | none=>rw[hf] at hs;cases hs
     | some v=>obtain⟨i,hi,_⟩:=di hf;omega
    rw[List.length_cons];omega
   ·rfl
def Dc(l:List Pr):List Pr:=l.foldl (λ acc p=>mG acc p.1 p.2) []
theorem wA(l:List Pr)(p:Pr):Dc (l++[p])=mG (Dc l) p.1 p.2:=by unfold Dc;rw[List.foldl_append];rfl
theorem O8{α:Type}{Q:List α->Prop}(h0:Q [])(h1:∀l x,Q l->Q (l++[x]))(l:List α):Q l:=by
 have key:∀m:List α,Q m.reverse:=λ m=>by
  induction m with
  | nil=>exact h0
  | cons x m ih=>rw[List.reverse_cons];exact h1 _ _ ih
 have:=key l.reverse
 rwa [List.reverse_reverse] at this
theorem du(l:List Pr):SA (Dc l):=by
 induction l using O8 with
 | h0=>exact List.Pairwise.nil
 | h1 l x ih=>rw[wA];exact xN ih
theorem Uh(l:List Pr):(Dc l).length<=l.length:=by
 induction l using O8 with
 | h0=>exact Nat.le_refl _
 | h1 l x ih =>
  rw[wA,wZ (du l),List.length_append,List.length_singleton]
  split<;>omega
end

/- Pairs: comparing, searching; Find, Put, Drop. -/
end Go.Proofs.YtbajmaoegmbfgaaGreat
namespace Go.Ct
section
open Go Go.RowKit
variable{P:Program}{S:List (Nat×Value)}{w0 w:World}{M:List Nat}{H:List (Nat×Obj)}{A F:Fr}{O:List Ow}
theorem bU{G:World->Prop}{d:Nat}{ty:TypeId}{pos:String}{af:Array Edge}{gd:Option (Nat×Bool)}{x:Operand}{vs:List Value}{k:Nat}{v:Value}(hx:ev S x=.tuple ⟨vs⟩)(hk:vs[k]?=some v):aP P S G ⟨some d,.extract x k,ty,pos,af,gd⟩ v:=⟨λ w _=>by
 simp[execOp,hx,Instr.extract,hk]⟩
end
end Go.Ct
namespace Go.Proofs.YtbajmaoegmbfgaaGreat
section
open Go.RowKit Go.Ct
theorem zk{l:List Pr}{k:ByteArray}{h:Nat}(hs:SA l)(hc:eG (l.getD h (⟨#[]⟩,0)).1 k=false)(j:Nat)(h1:h<=j)(hj:j<l.length):eG (l.getD j (⟨#[]⟩,0)).1 k=false:=by
 rcases Nat.lt_or_eq_of_le h1 with h2|rfl
 ·have:=List.pairwise_iff_getElem.1 hs h j (by omega) hj h2
  rw[<- iX,<- iX] at this
  exact wi hc (C1 this)
 ·exact hc
end

/- Pairs: Find, Put, Drop of the program. -/
end Go.Proofs.YtbajmaoegmbfgaaGreat
namespace Go.Ct
section
open Go Go.RowKit
section
variable{P:Program}{n:Nat}{S:List (Nat×Value)}
variable{w0 w w':World}{M:List Nat}{H H':List (Nat×Obj)}{A F F':Fr}{O O':List Ow}{G:World->Prop}
variable{d:Nat}{ty:TypeId}{pos:String}{af:Array Edge}{gd:Option (Nat×Bool)}{dst:Option Nat}{x y z:Operand}{t t2 e:TypeId}{p a:Option Addr}{i m k c c2:Nat}
def w8(a:Option Addr)(k c:Nat):Option Addr:=if c=k then a else a.map (·.add (2*k))
theorem cr(hx:ev S x=.slice a m c)(hy:ev S y=.int .i64 ((k:Nat):Int))(ht:P.underlying t=some (.slice e))(hs:(P.info? e).map (·.size)=some 2)(hk:k<=m)(hmc:m<=c) :
  aP P S G ⟨some d,.slice t x (some y) none none,ty,pos,af,gd⟩ (.slice (w8 a k c) (m-k) (c-k)):=⟨λ w _=>by
 have he:P.elem t=e:=by simp[Program.elem,ht]
 have ht':P.underlying t=some (.slice (P.elem t)):=by rw[he];exact ht
 cases hi:P.info? e with
 | none=>simp[hi] at hs
 | some inf =>
  have hs':inf.size=2:=by simpa[hi] using hs
  have hr:=run_slice_l (P:=P) w t a m c ht' .i64 (k:Int) (by omega) (by omega)
  refine Y3 (v:=.slice (w8 a k c) (m-k) (c-k)) ?_
  simp[hx,hy,run_sliceAt_slice w t _ _ _ _ ht',hr,he,sizeOf,typeInfo,hi,hs',sliced,w8,Nat.mul_comm]⟩
theorem SF.aAq(h:SF w0 M H A F O w){l:List Pr}(hf:rD A F [] a (dW l))(hc:l.length<=c):SF w0 M H ((w8 a k c,dW (l.drop k))::A) F O w:=by
 have e:dW (l.drop k)=(dW l).drop (2*k):=by rw[My]
 rw[e]
 refine h.iq hf (λ hn=>?_) (λ h=>by rw[h];simp) (λ w hc'=>?_)
 ·unfold w8
  split
  ·rfl
  ·cases a with
   | none=>rfl
   | some a =>
    obtain⟨b,o,s⟩:=a
    simp only[Option.map_some,dI,Addr.add]
    split<;>rfl
 ·unfold w8
  split
  ·rename_i heq
   have:(dW l).drop (2*k)=[]:=List.drop_eq_nil_of_le (by rw[gV];omega)
   rw[this]
   exact Cl.nil _ _
  ·exact hc'.drop _
end
end
end Go.Ct
namespace Go.Proofs.YtbajmaoegmbfgaaGreat
section
open Go.RowKit Go.Ct
section
variable{l:List Pr}{a:Option Addr}{c:Nat}{k:ByteArray}{v:Int}{w:World}
open Classical in
noncomputable def eN (l:List Pr) (k:ByteArray):Option Int:=if SA l then rJ l k else none
open Classical in
noncomputable def Nu (l:List Pr) (k:ByteArray) (v:Int):List Pr:=if SA l then mG l k v else []
open Classical in
noncomputable def rM (l:List Pr) (k:ByteArray):List Pr:=if SA l then jC l k else []
def ph(w:World)(m:List Pr)(e:Ending)(w':World):Prop:=∃x:Option Addr×Nat,e=.returned (.slice x.1 m.length x.2)/\m.length<=x.2/\SF w [] [] [] [] [⟨x.1,dW m,x.2,164,2⟩] w'
def Vr(w:World)(m:List Pr)(e:Ending)(w':World):Prop:=∃x:Option Addr×Nat,e=.returned (.slice x.1 m.length x.2)/\m.length<=x.2/\SF w [] [] [] [(x.1,dW m)] [] w'
theorem ph.R7{w:World}{m:List Pr}{e:Ending}{w':World}(h:ph w m e w'):Vr w m e w':=by
 obtain⟨x,h1,h2,h3⟩:=h
 exact⟨x,h1,h2,h3.freeze .head (by simp)⟩
end
end

end Go.Proofs.YtbajmaoegmbfgaaGreat

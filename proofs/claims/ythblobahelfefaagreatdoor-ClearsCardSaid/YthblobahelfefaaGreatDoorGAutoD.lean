/- Merged. -/
import Derived.Test.YthblobahelfefaaGreatDoorGAr5
import Derived.Test.YthblobahelfefaaGreatDoorGJoin
import Derived.Test.YthblobahelfefaaGreatDoorGSlices
set_option linter.unusedSimpArgs false
set_option linter.unusedVariables false
namespace Go.Proofs.YthblobahelfefaaGreatDoor
open Go.Proofs.Tryz
open Go Go.RowKit Go.Ct
section
variable{n:Nat}{Q:Exit->Act->World->Prop}{ks:List CK}{S:List (Nat×Value)}{ops:Array Oper}{l ol:List Oper}{pl:nP}{LL:List Nat}{Dl Dp Dq:List Nat}
variable{w0:World}{M:List Nat}{H:List (Nat×Obj)}{A F:Fr}{O:List Ow}{G:World->Prop}{i d:Nat}{v:Value}{op:Op}{ty:TypeId}{pos:String}{af:Array Edge}{gd:Option (Nat×Bool)}{X:Type}{V:X->Value}{G':X->World->Prop}{j g:Nat}{want t:Bool}
variable{ds:List Deferred}
theorem kI(h:LD prog n ds Q ks ops l ((d,v)::S) G)(hq:aH prog S G ⟨some d,op,ty,pos,af,none⟩ v:=by exact Vp wn)(hd:Nat.blt d n=true:=by exact rfl):LD prog n ds Q ks ops (⟨some d,op,ty,pos,af,none⟩::l) S G:=fL hq hd h
theorem wx(h:LD prog n ds Q ks ops l ((d,v)::S) G)(hq:aH prog S G ⟨some d,op,ty,pos,af,none⟩ v:=by first|exact Hs rf wn|exact I3 rf wn|exact o_pick_b rf rf rf)(hd:Nat.blt d n=true:=by exact rfl):LD prog n ds Q ks ops (⟨some d,op,ty,pos,af,none⟩::l) S G:=fL hq hd h
theorem eI(h:LD prog n ds Q ks ops l ((d,v)::S) G)(hq:aH prog S G ⟨some d,op,ty,pos,af,none⟩ v:=by first|exact sM rf fl1|exact pU rf fl1)(hd:Nat.blt d n=true:=by exact rfl):LD prog n ds Q ks ops (⟨some d,op,ty,pos,af,none⟩::l) S G:=fL hq hd h
theorem mV(h:LD prog n ds Q ks ops l ((d,v)::S) G)(hq:aH prog S G ⟨some d,op,ty,pos,af,none⟩ v:=by exact O7)(hd:Nat.blt d n=true:=by exact rfl):LD prog n ds Q ks ops (⟨some d,op,ty,pos,af,none⟩::l) S G:=fL hq hd h
theorem od(h:LD prog n ds Q ks ops l ((d,v)::S) G)(hq:aH prog S G ⟨some d,op,ty,pos,af,none⟩ v:=by exact M2)(hd:Nat.blt d n=true:=by exact rfl):LD prog n ds Q ks ops (⟨some d,op,ty,pos,af,none⟩::l) S G:=fL hq hd h
theorem jt(h:LD prog n ds Q ks ops l ((d,v)::S) G)(hq:aH prog S G ⟨some d,op,ty,pos,af,none⟩ v:=by exact tf)(hd:Nat.blt d n=true:=by exact rfl):LD prog n ds Q ks ops (⟨some d,op,ty,pos,af,none⟩::l) S G:=fL hq hd h
theorem qj(h:∀x,LD prog n ds Q ks ops l ((d,V x)::S) (G' x))(hq:aQ prog S G ⟨some d,op,ty,pos,af,none⟩ X V G':=by first|exact cK λ _=>Yi rf|exact cK λ _=>N9 rf rfl)(hd:Nat.blt d n=true:=by exact rfl):LD prog n ds Q ks ops (⟨some d,op,ty,pos,af,none⟩::l) S G:=E5 hq hd h
theorem qQ(h:∀x,LD prog n ds Q ks ops l ((d,V x)::S) (G' x))(hq:aQ prog S G ⟨some d,op,ty,pos,af,none⟩ X V G':=by exact Fh)(hd:Nat.blt d n=true:=by exact rfl):LD prog n ds Q ks ops (⟨some d,op,ty,pos,af,none⟩::l) S G:=E5 hq hd h
theorem sH(h:∀x,LD prog n ds Q ks ops l ((d,V x)::S) (G' x))(hq:aQ prog S G ⟨some d,op,ty,pos,af,none⟩ X V G':=by exact jL (F4 wn))(hd:Nat.blt d n=true:=by exact rfl):LD prog n ds Q ks ops (⟨some d,op,ty,pos,af,none⟩::l) S G:=E5 hq hd h
theorem Rf(h:∀x,LD prog n ds Q ks ops l S (G' x))(hq:aQ prog S G ⟨none,op,ty,pos,af,none⟩ X V G':=by exact Md):LD prog n ds Q ks ops (⟨none,op,ty,pos,af,none⟩::l) S G:=S5 hq h
theorem rZ{φ:X->Prop}(hq:aQ prog S G ⟨some d,op,ty,pos,af,none⟩ X V (λ x w=>φ x/\G' x w))(h:∀x,φ x->LD prog n ds Q ks ops l ((d,V x)::S) (G' x))(hd:Nat.blt d n=true:=by exact rfl):LD prog n ds Q ks ops (⟨some d,op,ty,pos,af,none⟩::l) S G:=E5 hq hd λ x=>aAW (h x)
theorem Fm(hq:aQ prog S G ⟨none,op,ty,pos,af,none⟩ X V G')(h:∀x,LD prog n ds Q ks ops l S (G' x)):LD prog n ds Q ks ops (⟨none,op,ty,pos,af,none⟩::l) S G:=S5 hq h
theorem uT(h:LD prog n ds Q ks ops (⟨some d,op,ty,pos,af,none⟩::l) S G)(hj:(ops[j]?).bind (·.dst)=some g:=by exact rfl)(hg:Ct.look S g=.bool want:=by exact rfl):LD prog n ds Q ks ops (⟨some d,op,ty,pos,af,some (j,want)⟩::l) S G:=df hj hg h
end
end Go.Proofs.YthblobahelfefaaGreatDoor
namespace Go.Ct
open Go Go.RowKit
section
structure Ac where
 k:Int
 c:Int
 o:Int
 n:Int
structure Rs where
 err:Int
 found:Bool
 val:Int
 key:ByteArray
 iD:Int
 ref:Int
 root:Int
 ro:Bool
abbrev Ac.cells(a:Ac):List Value:=[.int .i64 a.k,.int .i64 a.c,.int .i64 a.o,.int .i64 a.n]
abbrev Rs.cells(r:Rs):List Value:=[.int .i64 r.err,.bool r.found,.int .u64 r.val,.string r.key,.int .i64 r.iD,.int .i64 r.ref,.int .i64 r.root,.bool r.ro]
abbrev Rs.zero:Rs:=⟨0,false,0,⟨#[]⟩,0,0,0,false⟩
end
section
end
section
inductive Tr where
 | done (r:Rs)
 | load (c:Int) (k:Int->Tr)
 | qG (c o n:Int) (k:Bool->Tr)
 | alloc (n:Nv) (i:Int) (k:Int->Tr)
 | cell (i:Int) (k:Int->Tr)
 | gen (k:Int->Tr)
 | node (r:Int) (k:Nv->Tr)
 | stuck
abbrev Pv:=(Nat×Go.Obj)×Ow
structure Mm where
 nodes:List Nv
 cs:List Int
 gen:Int
 pv:Pv
def Nv.zero:Nv:=dJ.zero.c
def aB(L:List Nv)(r:Int):Nv:=if 1<=r/\r<=L.length then L.getD (r-1).toNat Nv.zero else Nv.zero
theorem Wu(L:List dJ)(r:Int):(aV L r).c=aB (L.map dJ.c) r:=by
 unfold aV aB;rw[List.length_map];split
 ·rename_i h;have h2:(r-1).toNat<L.length:=by omega
  simp only[Ss,List.getElem?_map,List.getElem?_eq_getElem h2,Option.map_some,Option.getD_some]
 ·rfl
theorem Px{L N:List Nv}{r:Int}(h:r<=L.length):aB (L++N) r=aB L r:=by
 unfold aB;by_cases h1:1<=r;·rw[if_pos ⟨h1,by simp;omega⟩,if_pos ⟨h1,h⟩,Ss,Ss,List.getElem?_append_left (by omega)]
 ·rw[if_neg (by omega),if_neg (by omega)]
def mM(n:Nv)(c:Nat):Nv:={n with main:=if n.kind=2 then((c+1:Nat):Int) else 0,prev:=if n.kind=3∨n.kind=5∨n.kind=6 then((c+1:Nat):Int) else 0,status:=if n.kind=8 then((c+1:Nat):Int) else 0}
def Mm.push(s:Mm)(n:Nv)(i:Int):Mm:=⟨s.nodes++[mM n s.cs.length],gJ n.kind s.cs i,s.gen,s.pv⟩
end
section
def Ic(cs:List Int)(c o:Int):Bool:=decide (1<=c/\c<=(cs.length:Int)/\cs.getD (c-1).toNat 0=o)
theorem V4{cs:List Int}{c o:Int}{r:Bool}(h:r=true↔xU cs c o):r=Ic cs c o:=by rw[Bool.eq_iff_iff,h];unfold Ic xU;rw[decide_eq_true_eq]
def iR:Tr->Mm->Tr×Mm
 | .alloc n i k,s=>iR (k ((s.nodes.length+1:Nat):Int)) (s.push n i)
 | .cell i k,s=>iR (k ((s.cs.length+1:Nat):Int)) ⟨s.nodes,s.cs++[i],s.gen,s.pv⟩
 | .gen k,s=>iR (k (s.gen+1)) ⟨s.nodes,s.cs,s.gen+1,s.pv⟩
 | .node r k,s=>iR (k (aB s.nodes r)) s
 | t,s=>(t,s)
def nxT:Tr->Mm->Tr×Mm
 | .load c k,s=>(k (aL s.cs c),s)
 | .qG c o n k,s=>(k (Ic s.cs c o),⟨s.nodes,gG s.cs c o n,s.gen,s.pv⟩)
 | t,s=>(t,s)
def mJ(p:Tr×Mm):Tr×Mm:=iR (nxT p.1 p.2).1 (nxT p.1 p.2).2
def Tr.live:Tr->Bool
 | .done _=>false
 | _=>true
end
section
abbrev Clo:=Option (FuncId×List Value)
abbrev fnV:Clo->Value
 | none=>.nilFunc
 | some p=>.func (.func p.1) #[] ⟨p.2⟩
structure Cd where
 a:Ac
 f:Clo
 g:Clo
 r:Rs
abbrev Cd.cells(c:Cd):List Value:=[.int .i64 c.a.k,.int .i64 c.a.c,.int .i64 c.a.o,.int .i64 c.a.n,fnV c.f,fnV c.g,.int .i64 c.r.err,.bool c.r.found,.int .u64 c.r.val,.string c.r.key,.int .i64 c.r.iD,.int .i64 c.r.ref,.int .i64 c.r.root,.bool c.r.ro]
abbrev eS(r:Rs):Cd:=⟨⟨0,0,0,0⟩,none,none,r⟩
abbrev lL(c:Int)(f:FuncId)(cap:List Value):Cd:=⟨⟨1,c,0,0⟩,some (f,cap),none,⟨0,false,0,⟨#[]⟩,0,0,0,false⟩⟩
abbrev qS(c o n:Int)(g:FuncId)(cap:List Value):Cd:=⟨⟨2,c,o,n⟩,none,some (g,cap),⟨0,false,0,⟨#[]⟩,0,0,0,false⟩⟩
theorem aW(c:Cd):c.cells.all (·.oneCell')=true:=by obtain⟨a,f,g,r⟩:=c;cases f<;>cases g<;>rfl
end
end Go.Ct
namespace Go.Proofs.YthblobahelfefaaGreatDoor
open Go.Proofs.Tryz
section
open Go.RowKit Go.Ct
theorem rP(r:Rs)(w:World):Calls prog 69 #[.agg ⟨r.cells⟩] w λ e w'=>e=.returned (.agg ⟨(eS r).cells⟩)/\St w [] [] w':=by refine enter func69 ntmps69 rfl rfl (SF.s0 w) ?_;simp only[bY];refine K1r ?_;intro x1 x2;refine tB ?_;refine P1 ?_;refine bJ results69 (λ w hw=>?_);exact⟨rfl,hw.done⟩
theorem lH(c:Int)(f:FuncId)(cap:List Value)(w:World):Calls prog 105 #[.int .i64 c,.func (.func f) #[] ⟨cap⟩] w λ e w'=>e=.returned (.agg ⟨(lL c f cap).cells⟩)/\St w [] [] w':=by refine enter func105 ntmps105 rfl rfl (SF.s0 w) ?_;simp only[bY];refine K1h ?_;intro x4;refine aC ?_;refine J2 ?_;refine bX ?_;refine aD ?_;refine P1 ?_;refine bJ results105 (λ w hw=>?_);exact⟨rfl,hw.done⟩
theorem qB(c o n:Int)(f:FuncId)(cap:List Value)(w:World):Calls prog 175 #[.int .i64 c,.int .i64 o,.int .i64 n,.func (.func f) #[] ⟨cap⟩] w λ e w'=>e=.returned (.agg ⟨(qS c o n f cap).cells⟩)/\St w [] [] w':=by refine enter func175 ntmps175 rfl rfl (SF.s0 w) ?_;simp only[bY];refine J0 ?_;refine aI (λ x8=>?_);refine aC ?_;refine lV ?_;refine aD ?_;refine bX ?_;refine aD ?_;refine P1 ?_;refine bJ results175 (λ w hw=>?_);exact⟨rfl,hw.done⟩
end
section
open Go Go.RowKit Go.Ct
theorem qg(p:Option Addr)(a:Value)(w:World):(callMethod (.iface 51 (.pointer p)) "Load" #[a]).run prog w=.ok (.enter 335 #[.pointer p,a]) w:=by kernel_rfl
theorem xd(p:Option Addr)(a b c:Value)(w:World):(callMethod (.iface 51 (.pointer p)) "CAS" #[a,b,c]).run prog w=.ok (.enter 334 #[.pointer p,a,b,c]) w:=by kernel_rfl
theorem uC(p:Option Addr)(w:World):(binOp .neq 126 (.iface 51 (.pointer p)) .nilIface).run prog w=.ok (.bool true) w:=by kernel_rfl
theorem aEv(f:Fn)(a b:Array Value)(w:World):(binOp .eql 174 (.func f a b) .nilFunc).run prog w=.ok (.bool false) w:=by kernel_rfl
theorem aEk(f:Fn)(a b:Array Value)(w:World):(binOp .eql 141 (.func f a b) .nilFunc).run prog w=.ok (.bool false) w:=by kernel_rfl
theorem aEl(f:Fn)(a b:Array Value)(w:World):(binOp .eql 142 (.func f a b) .nilFunc).run prog w=.ok (.bool false) w:=by kernel_rfl
theorem Tu(p:Option Addr):Idle prog 134 #[.pointer p]:=λ w=>by refine callsD_of_wpS func134 rfl λ c₀ cs hu=>?_;apply wpS_seq;apply wpS_region;simp[wpOpsS,go_sem,recoverD,hu,ntmps134,Exit.thenS];refine wpS_cond (t:=false) E1i ?_;simp only[Bool.false_eq_true,if_false];refine wpS_of_wp (wp_skip ?_);cases c₀;simp_all[bodyPostS,results,results134]
theorem xQ(p:Option Addr):Idle prog 81 #[.pointer p]:=λ w=>by refine callsD_of_wpS func81 rfl λ c₀ cs hu=>?_;apply wpS_seq;apply wpS_region;simp[wpOpsS,go_sem,recoverD,hu,ntmps81,Exit.thenS];refine wpS_cond (t:=false) E1i ?_;simp only[Bool.false_eq_true,if_false];refine wpS_of_wp (wp_skip ?_);cases c₀;simp_all[bodyPostS,results,results81]
section
variable{S:List (Nat×Value)}{w0 w:World}{M:List Nat}{H:List (Nat×Obj)}{A F:Fr}{O:List Ow}{ty:TypeId}{pos:String}{af:Array Edge}{gd:Option (Nat×Bool)}{X:Type}{V:X->Value}
end
end
section
open Go Go.RowKit Go.Ct
section
variable{S:List (Nat×Value)}{w0 w:World}{M:List Nat}{H:List (Nat×Obj)}{A F:Fr}{O:List Ow}{ty:TypeId}{pos:String}{af:Array Edge}{gd:Option (Nat×Bool)}{X:Type}{V:X->Value}
end
end
section
open Go.RowKit Go.Ct
variable{a b c:ByteArray}
theorem Ux(h:cG a b=true)(h2:cG c b=false):cG a c=true:=by
 cases hb:cG b c with
 | true=>exact iT h hb
 | false=>have:=vQ hb h2;subst this;exact h
theorem nj(h:cG b a=false)(h2:cG c b=false):cG c a=false:=by
 cases hc:cG c a with
 | false=>rfl
 | true=>have:=Ux hc h;rw[this] at h2;cases h2
theorem lK(h:cG a b=true):a≠b:=λ e=>by subst e;rw[Bw] at h;cases h
theorem I2(h:cG b a=false)(hn:a≠b):cG a b=true:=by
 cases hb:cG a b with
 | true=>rfl
 | false=>exact absurd (vQ hb h) hn
def SA(l:List Pr):Prop:=l.Pairwise λ p q=>cG p.1 q.1=true
instance (l:List Pr):Decidable (SA l):=inferInstanceAs (Decidable (l.Pairwise _))
theorem Xc{l:List Pr}(h:Asc l):∀d i,i+d+1<l.length->cG (l.getD i (⟨#[]⟩,0)).1 (l.getD (i+d+1) (⟨#[]⟩,0)).1=true
 | 0,i,hi=>by have:=h (i+1) (by omega) hi;rwa [Nat.add_sub_cancel] at this
 | d+1,i,hi=>iT (Xc h d i (by omega)) (by have:=h (i+(d+1)+1) (by omega) hi;rwa [Nat.add_sub_cancel] at this)
theorem iM{l:List Pr}{i:Nat}(h:i<l.length):l.getD i (⟨#[]⟩,0)=l[i]:=by simp[List.getD,List.getElem?_eq_getElem h]
theorem Cb{l:List Pr}:Asc l↔SA l:=by
 constructor;·intro h;refine List.pairwise_iff_getElem.2 λ i j hi hj hij=>?_;have:=Xc h (j-i-1) i (by omega);rw[show i+(j-i-1)+1=j by omega,iM hi,iM hj] at this;exact this
 ·intro h i h1 hi;rw[iM (by omega),iM hi];exact List.pairwise_iff_getElem.1 h (i-1) i (by omega) hi (by omega)
def tR:List Pr->ByteArray->Option Int
 | [],_=>none
 | p::l,k=>if p.1=k then some p.2 else tR l k
theorem nJ{l:List Pr}{k:ByteArray}(h:∀p∈l,p.1≠k):tR l k=none:=by
 induction l with
 | nil=>rfl
 | cons p l ih=>exact(if_neg (h p (.head _))).trans (ih λ q hq=>h q (.tail _ hq))
theorem mn:∀{l m:List Pr},SA l->SA m->(∀k,tR l k=tR m k)->l=m
 | [],[],_,_,_=>rfl
 | [],q::m,_,_,h=>by have:=h q.1;simp[tR] at this
 | p::l,[],_,_,h=>by have:=h p.1;simp[tR] at this
 | p::l,q::m,h1,h2,h=>by
  have h1':=List.pairwise_cons.1 h1;have h2':=List.pairwise_cons.1 h2
  have e1:cG p.1 q.1=false:=by
   cases hb:cG p.1 q.1 with
   | false=>rfl
   | true=>
    have:tR (q::m) p.1=none:=nJ λ x hx=>by
     rcases List.mem_cons.1 hx with rfl|hx;·exact(lK hb).symm
     ·exact(lK (iT hb (h2'.1 x hx))).symm
    have h':=h p.1;rw[this] at h';simp[tR] at h'
  have e2:cG q.1 p.1=false:=by
   cases hb:cG q.1 p.1 with
   | false=>rfl
   | true=>
    have:tR (p::l) q.1=none:=nJ λ x hx=>by
     rcases List.mem_cons.1 hx with rfl|hx;·exact(lK hb).symm
     ·exact(lK (iT hb (h1'.1 x hx))).symm
    have h':=h q.1;rw[this] at h';simp[tR] at h'
  have ek:=vQ e1 e2;have ev:p.2=q.2:=by have:=h p.1;simpa[tR,ek] using this
  have et:l=m:=mn h1'.2 h2'.2 λ k=>by
   by_cases hk:p.1=k;·subst hk;rw[nJ λ x hx=>(lK (h1'.1 x hx)).symm,nJ λ x hx=>by rw[ek];exact(lK (h2'.1 x hx)).symm]
   ·have:=h k;rw[tR,tR,if_neg hk,if_neg (by rw[<- ek];exact hk)] at this;exact this
  rw[et,show p=q from Prod.ext ek ev]
def pE:List Pr->ByteArray->Int->List Pr
 | [],k,v=>[(k,v)]
 | p::l,k,v=>if cG p.1 k=true then p::pE l k v else if p.1=k then(k,v)::l else(k,v)::p::l
theorem R1{l:List Pr}{k:ByteArray}{v:Int}:∀{q:Pr},q∈pE l k v->q=(k,v)∨q∈l:=by
 induction l with
 | nil=>intro q h;rw[pE,List.mem_singleton] at h;exact .inl h
 | cons p l ih=>
  intro q h;rw[pE] at h;split at h
  ·rcases List.mem_cons.1 h with rfl|h;·exact .inr (.head _)
   ·exact(ih h).imp id (.tail _)
  ·split at h;·exact(List.mem_cons.1 h).imp id (.tail _)
   ·exact List.mem_cons.1 h
theorem Wp{k:ByteArray}{v:Int}:∀{l:List Pr},SA l->SA (pE l k v)
 | [],_=>List.pairwise_singleton _ _
 | p::l,h=>by
  have h':=List.pairwise_cons.1 h;rw[pE];split
  ·next hlt =>
   refine List.pairwise_cons.2 ⟨λ q hq=>?_,Wp h'.2⟩;rcases R1 hq with rfl|hq
   ·exact hlt
   ·exact h'.1 q hq
  ·next hlt =>
   split
   ·next he =>
    subst he;exact List.pairwise_cons.2 ⟨λ q hq=>h'.1 q hq,h'.2⟩
   ·next hne =>
    have hkp:cG k p.1=true:=I2 (by simpa using hlt) (λ e=>hne e.symm);refine List.pairwise_cons.2 ⟨λ q hq=>?_,h⟩;rcases List.mem_cons.1 hq with rfl|hq
    ·exact hkp
    ·exact iT hkp (h'.1 q hq)
theorem Bi{k:ByteArray}{v:Int}(j:ByteArray):∀{l:List Pr},SA l->tR (pE l k v) j=if j=k then some v else tR l j
 | [],_=>by
  simp only[pE,tR]
  by_cases h:j=k
  ·rw[if_pos h,if_pos h.symm]
  ·rw[if_neg h,if_neg λ e=>h e.symm]
 | p::l,h=>by
  have h':=List.pairwise_cons.1 h;have ih:=Bi (k:=k) (v:=v) j h'.2;rw[pE];split
  ·next hlt =>
   rw[tR,ih,tR]
   by_cases hj:j=k
   ·rw[if_pos hj,if_pos hj,if_neg λ e=>lK hlt (e.trans hj)]
   ·rw[if_neg hj,if_neg hj]
  ·split
   ·next he =>
    rw[tR,tR]
    by_cases hj:j=k
    ·rw[if_pos hj,if_pos hj.symm]
    ·rw[if_neg hj,if_neg λ e=>hj e.symm,if_neg λ e=>hj (e.symm.trans he)]
   ·rw[tR]
    by_cases hj:j=k
    ·rw[if_pos hj,if_pos hj.symm]
    ·rw[if_neg hj,if_neg λ e=>hj e.symm]
structure uX(l:List Pr)(k:ByteArray)(i:Nat):Prop where
 le:i<=l.length
 lo:∀j,j<i->cG (l.getD j (⟨#[]⟩,0)).1 k=true
 hi:∀j,i<=j->j<l.length->cG (l.getD j (⟨#[]⟩,0)).1 k=false
theorem uX.tl{p:Pr}{l:List Pr}{k:ByteArray}{i:Nat}(h:uX (p::l) k (i+1)):cG p.1 k=true/\uX l k i :=⟨h.lo 0 (by omega),⟨by have:=h.le;simp at this;omega,λ j hj=>h.lo (j+1) (by omega),λ j h1 h2=>h.hi (j+1) (by omega) (by simp;omega)⟩⟩
theorem Ln{k:ByteArray}{v:Int}:∀{l:List Pr} {i:Nat},uX l k i->i<l.length->(l.getD i (⟨#[]⟩,0)).1=k->pE l k v=l.set i ((l.getD i (⟨#[]⟩,0)).1,v)
 | [],i,_,h,_=>by simp at h
 | p::l,0,h,_,he=>by
  have he:p.1=k:=he;have:cG p.1 k=false:=by rw[he];exact Bw k
  rw[pE,if_neg (by rw[this];decide),if_pos he,List.set_cons_zero,<- he]
  rfl
 | p::l,i+1,h,hi,he=>by
  rw[pE,if_pos h.tl.1,List.set_cons_succ,Ln h.tl.2 (by simp at hi;omega) he]
  rfl
theorem Zc{k:ByteArray}{v:Int}:∀{l:List Pr} {i:Nat},uX l k i->¬(i<l.length/\(l.getD i (⟨#[]⟩,0)).1=k)->pE l k v=l.take i++(k,v)::l.drop i
 | [],i,h,_=>by have:=h.le;simp at this;subst this;rfl
 | p::l,0,h,hn=>by
  have:cG p.1 k=false:=h.hi 0 (Nat.le_refl _) (by simp);rw[pE,if_neg (by rw[this];decide),if_neg λ e:p.1=k=>hn ⟨by simp,e⟩];rfl
 | p::l,i+1,h,hn=>by
  rw[pE,if_pos h.tl.1,Zc h.tl.2 λ hh=>hn ⟨by simp;omega,hh.2⟩]
  rfl
theorem B7{k:ByteArray}:∀{l:List Pr} {i:Nat},SA l->uX l k i->¬(i<l.length/\(l.getD i (⟨#[]⟩,0)).1=k)->∀p∈l,p.1≠k
 | [],_,_,_,_=>by simp
 | p::l,0,hs,h,hn=>by
  have h':=List.pairwise_cons.1 hs;have h0:cG p.1 k=false:=h.hi 0 (Nat.le_refl _) (by simp);have hne:p.1≠k:=λ e=>hn ⟨by simp,e⟩;have hlt:=I2 h0 (λ e=>hne e.symm);intro q hq
  rcases List.mem_cons.1 hq with rfl|hq
  ·exact hne
  ·exact(lK (iT hlt (h'.1 q hq))).symm
 | p::l,i+1,hs,h,hn=>by
  have:=B7 (List.pairwise_cons.1 hs).2 h.tl.2 λ hh=>hn ⟨by simp;omega,hh.2⟩;intro q hq
  rcases List.mem_cons.1 hq with rfl|hq
  ·exact lK h.tl.1
  ·exact this q hq
theorem Ce{k:ByteArray}:∀{l:List Pr} {i:Nat},uX l k i->i<l.length->(l.getD i (⟨#[]⟩,0)).1=k->tR l k=some (l.getD i (⟨#[]⟩,0)).2
 | [],i,_,h,_=>by simp at h
 | p::l,0,h,_,he=>if_pos he
 | p::l,i+1,h,hi,he=>(if_neg (lK h.tl.1)).trans (Ce h.tl.2 (by simp at hi;omega) he)
theorem E8{k:ByteArray}{v:Int}:∀{l:List Pr},SA l->(pE l k v).length=if(tR l k).isSome=true then l.length else l.length+1
 | [],_=>rfl
 | p::l,h=>by
  have h':=List.pairwise_cons.1 h;rw[pE];split
  ·next hlt =>
   rw[List.length_cons,E8 h'.2,tR,if_neg (lK hlt)];split<;>rfl
  ·next hlt =>
   split;·next he=>rw[tR,if_pos he];rfl
   ·next hne =>
    have hkp:cG k p.1=true:=I2 (by simpa using hlt) (λ e=>hne e.symm);rw[tR,if_neg hne,nJ λ q hq=>(lK (iT hkp (h'.1 q hq))).symm];rfl
def yN(l:List Pr):List Pr:=l.foldl (λ acc p=>pE acc p.1 p.2) []
theorem uV(l:List Pr)(p:Pr):yN (l++[p])=pE (yN l) p.1 p.2:=by unfold yN;rw[List.foldl_append];rfl
def sW(l:List Pr)(k:ByteArray):Option Int:=((l.filter λ p=>decide (p.1=k)).getLast?).map (·.2)
theorem Gt(l:List Pr)(p:Pr)(k:ByteArray):sW (l++[p]) k=if k=p.1 then some p.2 else sW l k:=by
 unfold sW;rw[List.filter_append];by_cases h:p.1=k;·rw[if_pos h.symm];simp[h]
 ·rw[if_neg λ e=>h e.symm];simp[h]
theorem It{α:Type}{Q:List α->Prop}(h0:Q [])(h1:∀l x,Q l->Q (l++[x]))(l:List α):Q l:=by
 have key:∀m:List α,Q m.reverse:=λ m=>by
  induction m with
  | nil=>exact h0
  | cons x m ih=>rw[List.reverse_cons];exact h1 _ _ ih
 have:=key l.reverse;rwa [List.reverse_reverse] at this
theorem Mo(l:List Pr):SA (yN l):=by
 induction l using It with
 | h0=>exact List.Pairwise.nil
 | h1 l x ih=>rw[uV];exact Wp ih
theorem aAF(l:List Pr)(k:ByteArray):tR (yN l) k=sW l k:=by
 induction l using It with
 | h0=>rfl
 | h1 l x ih=>rw[uV,Bi k (Mo l),Gt,ih]
theorem W3(l:List Pr):(yN l).length<=l.length:=by
 induction l using It with
 | h0=>exact Nat.le_refl _
 | h1 l x ih=>rw[uV,E8 (Mo l),List.length_append,List.length_singleton];split<;>omega
def WS(l:List Pr):Prop:=l.Pairwise λ p q=>cG q.1 p.1=false
def Nk(l m:List Pr):Prop:=∀k:ByteArray,l.filter (λ p=>decide (p.1=k))=m.filter λ p=>decide (p.1=k)
variable{l m:List Pr}
theorem Nk.rfl:Nk l l:=λ _=>.refl _
theorem Nk.trans{l m n:List Pr}(h:Nk l m)(h2:Nk m n):Nk l n:=λ k=>(h k).trans (h2 k)
theorem Nk.dg{a b c d:List Pr}(h:Nk a b)(h2:Nk c d):Nk (a++c) (b++d):=λ k=>by rw[List.filter_append,List.filter_append,h k,h2 k]
theorem Nk.last(h:Nk l m)(k:ByteArray):sW l k=sW m k:=by unfold sW;rw[h k]
theorem j9(h:∀p∈l,∀q∈m,p.1≠q.1):Nk (l++m) (m++l):=λ k=>by
 rw[List.filter_append,List.filter_append];by_cases hl:∃p∈l,p.1=k
 ·obtain⟨p,hp,rfl⟩:=hl;have e:m.filter (λ q=>decide (q.1=p.1))=[]:=List.filter_eq_nil_iff.2 λ q hq=>by simpa using(h p hp q hq).symm
  rw[e,List.append_nil,List.nil_append]
 ·have e:l.filter (λ q=>decide (q.1=k))=[]:=List.filter_eq_nil_iff.2 λ p hp=>by simpa using λ e=>hl ⟨p,hp,e⟩
  rw[e,List.append_nil,List.nil_append]
def iZ:List Pr->List Pr
 | []=>[]
 | [p]=>[p]
 | p::q::l=>if q.1=p.1 then iZ (q::l) else p::iZ (q::l)
theorem Dx:∀{l:List Pr} {x:Pr},x∈iZ l->x∈l
 | [],_,h=>h
 | [_],_,h=>h
 | p::q::l,x,h=>by
  rw[iZ] at h;split at h;·exact .tail _ (Dx h)
  ·rcases List.mem_cons.1 h with rfl|h;·exact .head _
   ·exact .tail _ (Dx h)
theorem Pg:∀{l:List Pr},WS l->SA (iZ l)
 | [],_=>List.Pairwise.nil
 | [_],_=>List.pairwise_singleton _ _
 | p::q::l,h=>by
  have h':=List.pairwise_cons.1 h;have ih:=Pg h'.2;have h2:=List.pairwise_cons.1 h'.2;rw[iZ];split
  ·exact ih
  ·next hne =>
   have hpq:=I2 (h'.1 q (.head _)) (λ e=>hne e.symm);refine List.pairwise_cons.2 ⟨λ x hx=>?_,ih⟩;rcases List.mem_cons.1 (Dx hx) with rfl|hx
   ·exact hpq
   ·exact Ux hpq (h2.1 x hx)
theorem Lz:∀{l:List Pr},WS l->∀k,tR (iZ l) k=sW l k
 | [],_,_=>rfl
 | [p],_,k=>by
  rw[iZ,tR,show [p]=[]++[p] from rfl,Gt,show sW [] k=none from rfl,tR]
  by_cases h:p.1=k
  ·rw[if_pos h,if_pos h.symm]
  ·rw[if_neg h,if_neg λ e=>h e.symm]
 | p::q::l,h,k=>by
  have h':=List.pairwise_cons.1 h;have ih:=Lz h'.2 k;have h2:=List.pairwise_cons.1 h'.2;rw[iZ];split
  ·next he =>
   rw[ih]
   unfold sW
   rw[List.filter_cons (x:=p)]
   by_cases hp:p.1=k
   ·rw[if_pos (by simp[hp]),List.filter_cons,if_pos (by simp[he,hp]),List.getLast?_cons_cons]
   ·rw[if_neg (by simp[hp])]
  ·next hne =>
   rw[tR,ih];have hpq:=I2 (h'.1 q (.head _)) (λ e=>hne e.symm);by_cases hp:p.1=k
   ·rw[if_pos hp]
    unfold sW
    rw[List.filter_cons,if_pos (by simp[hp]),List.filter_eq_nil_iff.2 λ x hx=>by
     rw[<- hp]
     rcases List.mem_cons.1 hx with rfl|hx
     ·simpa using(lK hpq).symm
     ·simpa using(lK (Ux hpq (h2.1 x hx))).symm]
    rfl
   ·rw[if_neg hp]
    unfold sW
    rw[List.filter_cons (x:=p),if_neg (by simp[hp])]
theorem na{l m:List Pr}(h:WS m)(hs:Nk m l):iZ m=yN l :=mn (Pg h) (Mo l) λ k=>by rw[Lz h,aAF,hs.last]
end
end Go.Proofs.YthblobahelfefaaGreatDoor

/- Pairs: comparing, searching; Find, Put, Drop. -/
import Derived.Test.YtpobgmdalcpomaaGreatGPa1
import Derived.Lib.Bytealg
import Derived.Laws.Externs

set_option linter.unusedSimpArgs false
set_option linter.unusedVariables false
namespace Go.Ct
section
open Go Go.RowKit
variable{P:Program}{S:List (Nat×Value)}{w0 w:World}{M:List Nat}{H:List (Nat×Obj)}{A F:Fr}{O:List Ow}
theorem bX{G:World->Prop}{d:Nat}{ty:TypeId}{pos:String}{af:Array Edge}{gd:Option (Nat×Bool)}{x:Operand}{vs:List Value}{k:Nat}{v:Value}(hx:ev S x=.tuple ⟨vs⟩)(hk:vs[k]?=some v):aS P S G ⟨some d,.extract x k,ty,pos,af,gd⟩ v:=⟨λ w _=>by
 simp[execOp,hx,Instr.extract,hk]⟩
end
end Go.Ct
namespace Go.Proofs.YtpobgmdalcpomaaGreat
section
open Go.RowKit Go.Ct
theorem xc{l:List Pr}{k:ByteArray}{h:Nat}(hs:SA l)(hc:eC (l.getD h (⟨#[]⟩,0)).1 k=false)(j:Nat)(h1:h<=j)(hj:j<l.length):eC (l.getD j (⟨#[]⟩,0)).1 k=false:=by
 rcases Nat.lt_or_eq_of_le h1 with h2|rfl
 ·have:=List.pairwise_iff_getElem.1 hs h j (by omega) hj h2
  rw[<- iT,<- iT] at this
  exact tf hc (B4 this)
 ·exact hc
end

/- Pairs: Find, Put, Drop of the program. -/
end Go.Proofs.YtpobgmdalcpomaaGreat
namespace Go.Ct
section
open Go Go.RowKit
section
variable{P:Program}{n:Nat}{S:List (Nat×Value)}
variable{w0 w w':World}{M:List Nat}{H H':List (Nat×Obj)}{A F F':Fr}{O O':List Ow}{G:World->Prop}
variable{d:Nat}{ty:TypeId}{pos:String}{af:Array Edge}{gd:Option (Nat×Bool)}{dst:Option Nat}{x y z:Operand}{t t2 e:TypeId}{p a:Option Addr}{i m k c c2:Nat}
def ud(a:Option Addr)(k c:Nat):Option Addr:=if c=k then a else a.map (·.add (2*k))
theorem an(hx:ev S x=.slice a m c)(hy:ev S y=.int .i64 ((k:Nat):Int))(ht:P.underlying t=some (.slice e))(hs:(P.info? e).map (·.size)=some 2)(hk:k<=m)(hmc:m<=c) :
  aS P S G ⟨some d,.slice t x (some y) none none,ty,pos,af,gd⟩ (.slice (ud a k c) (m-k) (c-k)):=⟨λ w _=>by
 have he:P.elem t=e:=by simp[Program.elem,ht]
 have ht':P.underlying t=some (.slice (P.elem t)):=by rw[he];exact ht
 cases hi:P.info? e with
 | none=>simp[hi] at hs
 | some inf =>
  have hs':inf.size=2:=by simpa[hi] using hs
  have hr:=run_slice_l (P:=P) w t a m c ht' .i64 (k:Int) (by omega) (by omega)
  refine Yj (v:=.slice (ud a k c) (m-k) (c-k)) ?_
  simp[hx,hy,run_sliceAt_slice w t _ _ _ _ ht',hr,he,sizeOf,typeInfo,hi,hs',sliced,ud,Nat.mul_comm]⟩
theorem SF.w8(h:SF w0 M H A F O w){l:List Pr}(hf:pP A F [] a (dI l))(hc:l.length<=c):SF w0 M H ((ud a k c,dI (l.drop k))::A) F O w:=by
 have e:dI (l.drop k)=(dI l).drop (2*k):=by rw[Oe]
 rw[e]
 refine h.Qj hf (λ hn=>?_) (λ h=>by rw[h];simp) (λ w hc'=>?_)
 ·unfold ud
  split
  ·rfl
  ·cases a with
   | none=>rfl
   | some a =>
    obtain⟨b,o,s⟩:=a
    simp only[Option.map_some,dJ,Addr.add]
    split<;>rfl
 ·unfold ud
  split
  ·rename_i heq
   have:(dI l).drop (2*k)=[]:=List.drop_eq_nil_of_le (by rw[gQ];omega)
   rw[this]
   exact Cl.nil _ _
  ·exact hc'.drop _
end
end
end Go.Ct
namespace Go.Proofs.YtpobgmdalcpomaaGreat
section
open Go.RowKit Go.Ct
section
variable{l:List Pr}{a:Option Addr}{c:Nat}{k:ByteArray}{v:Int}{w:World}
open Classical in
noncomputable def eI (l:List Pr) (k:ByteArray):Option Int:=if SA l then qP l k else none
open Classical in
noncomputable def Mk (l:List Pr) (k:ByteArray) (v:Int):List Pr:=if SA l then lZ l k v else []
open Classical in
noncomputable def rH (l:List Pr) (k:ByteArray):List Pr:=if SA l then iX l k else []
def ju(w:World)(m:List Pr)(e:Ending)(w':World):Prop:=∃x:Option Addr×Nat,e=.returned (.slice x.1 m.length x.2)/\m.length<=x.2/\SF w [] [] [] [] [⟨x.1,dI m,x.2,47,2⟩] w'
def Vd(w:World)(m:List Pr)(e:Ending)(w':World):Prop:=∃x:Option Addr×Nat,e=.returned (.slice x.1 m.length x.2)/\m.length<=x.2/\SF w [] [] [] [(x.1,dI m)] [] w'
theorem ju.cg{w:World}{m:List Pr}{e:Ending}{w':World}(h:ju w m e w'):Vd w m e w':=by
 obtain⟨x,h1,h2,h3⟩:=h
 exact⟨x,h1,h2,h3.freeze .head (by simp)⟩
end
end

/- Pairs: the reference's Find, Put, Drop, Of, Equal. -/
section
open Go.RowKit Go.Ct
section
variable{l:List Pr}{a:Option Addr}{c:Nat}{k:ByteArray}{v:Int}{w:World}
theorem n6{l:List Pr}{k:ByteArray}:∀{i:Nat},i<l.length->(∀j,j<i->(l.getD j (⟨#[]⟩,0)).1≠k)->(l.getD i (⟨#[]⟩,0)).1=k->qP l k=some (l.getD i (⟨#[]⟩,0)).2:=by
 induction l with
 | nil=>intro i h;simp at h
 | cons p l ih =>
  intro i h hn he
  cases i with
  | zero=>exact if_pos he
  | succ i =>
   refine(if_neg (hn 0 (by omega))).trans ?_
   exact ih (by simp at h;omega) (λ j hj=>hn (j+1) (by omega)) he
theorem dk{l:List Pr}{k:ByteArray}(h:∀j,j<l.length->(l.getD j (⟨#[]⟩,0)).1≠k):qP l k=none:=pM λ p hp=>by
 obtain⟨j,hj,rfl⟩:=List.getElem_of_mem hp
 have:=h j hj
 rwa [iT hj] at this
theorem Hd(k:ByteArray)(ha:Cl w a (dI l))(hlen:l.length<=1099511627775) :
  Calls Tryz.prog 116 #[.slice a l.length c,.string k] w λ e w'=>e=.returned (.tuple #[.int .u64 ((eI l k).getD 0),.bool (eI l k).isSome])/\St w [] [] w':=by
 refine enter Tryz.func116 Tryz.ntmps116 rfl rfl (SF.s1 ha) ?_
 simp only[dB]
 all_goals (refine qE ?_;refine aT ?_;refine Cq ?_)
 all_goals
 refine gE [4,5,6,7,8,9,10,11,12,13,14,15,16,17,18,19,20,21,22,23,24,25,26,27,28] (λ k=>[(6,.int .i64 ((k:Nat):Int))]) (λ i=>i<=l.length/\(i≠0->SA l)/\∀j,j<i->(l.getD j (⟨#[]⟩,0)).1≠k) (λ k=>l.length-k) (0) (⟨Nat.zero_le _,λ h=>absurd rfl h,λ j hj=>absurd hj (Nat.not_lt_zero j)⟩) ?_ (λ i f hx=>?_)
 ·repeat (first|exact bI _|refine bE (by first|exact rfl|(conv=>{lhs;whnf};simp;done)) ?_)
 dsimp only[gW,List.map,List.cons_append,List.nil_append]
 all_goals (refine Cy ?_;refine dW ?_;refine Am ?_)
 all_goals (first|refine aG ?_|(refine aC ?_;refine aA ?_)|(refine dG 11 (λ g11=>?_) (λ g11=>?_)<;>(first|refine aG ?_|(refine aC ?_;refine aA ?_))))
 all_goals (((first|refine aG ?_|(refine aC ?_;(refine aF (c0 (V:=.bool) (hc:=λ w1 hw=>mC (hw.cl fin) (by omega))) (λ x13=>?_);try (refine aB (λ h13=>?_))))));refine cH ?_;refine aN ?_)
 all_goals
  refine bF (λ c14=>?_) (λ c14=>?_)
  ·try exact nv c14
   all_goals (refine oD ?_;refine jE ?_;refine gG ?_;refine J3 ?_;refine aA ?_;refine Zz ?_;refine aN ?_)
   all_goals
   refine bF (λ c23=>?_) (λ c23=>?_)
   ·try exact nv c23
    all_goals (refine jE ?_;refine gG ?_;refine J3 ?_;refine J8 ?_)
    all_goals
     refine bH Tryz.results116 (λ w hw=>?_)
     rw[show eI l k=some (l.getD i (⟨#[]⟩,0)).2 from(if_pos (nY.1 (h13.1 (by simp_all)))).trans (n6 (by omega) hx.2.2 c23)];exact⟨rfl,hw.done⟩
   ·try exact nv c23
    all_goals (refine mN ?_;refine uH ?_)
    all_goals
     refine fD (i+1) ?_ ?_ ?_
     ·first|omega|(simp only[];omega)
     ·repeat' (first|exact bI _|refine bE ?_ ?_)
      all_goals (first|exact rfl|(conv=>{lhs;whnf};simp;done)|(conv=>{lhs;whnf};congr 1;omega))
     ·exact⟨by omega,λ _=>nY.1 (h13.1 (by simp_all)),λ j hj=>by rcases Nat.lt_succ_iff_lt_or_eq.1 hj with h|rfl;exact hx.2.2 j h;assumption⟩
  ·try exact nv c14
   all_goals (refine bQ rfl ?_;refine qE ?_)
   all_goals
   refine bH Tryz.results116 (λ w hw=>?_)
   first
   | (rw[show eI l k=none from if_neg λ hs=>by have:=h13.2 (nY.2 hs);simp_all];exact⟨rfl,hw.done⟩)
   | (rw[show eI l k=none by unfold eI;split;exact dk λ j hj=>hx.2.2 j (by omega);rfl];exact⟨rfl,hw.done⟩)
theorem K9{l:List Pr}{i:Nat}(hi:i<l.length)(k:ByteArray):(l.take (i+1)).filter (λ p=>decide (p.1≠k))=(l.take i).filter (λ p=>decide (p.1≠k))++(if(l.getD i (⟨#[]⟩,0)).1≠k then [l.getD i (⟨#[]⟩,0)] else []):=by
 rw[List.take_add_one,List.getElem?_eq_getElem hi,iT hi,List.filter_append]
 congr 1
 by_cases h:l[i].1=k<;>simp[h]
theorem Ea{l:List Pr}{i:Nat}(hi:i<l.length)(k:ByteArray):iX (l.take (i+1)) k=if(l.getD i (⟨#[]⟩,0)).1=k then iX (l.take i) k else iX (l.take i) k++[l.getD i (⟨#[]⟩,0)]:=by
 unfold iX
 rw[K9 hi k]
 by_cases h:(l.getD i (⟨#[]⟩,0)).1=k
 ·rw[if_neg λ hn=>hn h,if_pos h,List.append_nil]
 ·rw[if_pos h,if_neg h]
theorem L5(k:ByteArray)(ha:Cl w a (dI l))(hlen:l.length<=200000000000) :
  Calls Tryz.prog 153 #[.slice a l.length c,.string k] w (ju w (iX l k)):=by
 refine enter Tryz.func153 Tryz.ntmps153 rfl rfl (SF.s1 ha) ?_
 simp only[dB]
 all_goals (refine dH ?_;refine Be ?_;refine Cq ?_)
 all_goals
 refine lO [5,6,7,8,9,10,11,12,13,14,15,16,17,18,19,20,21,22,23,24,25,26] (λ z:Nat×Option Addr×List Pr×Nat=>[(6,.int .i64 ((z.1:Nat):Int)),(5,.slice z.2.1 z.2.2.1.length z.2.2.2)]) (λ z=>z.1<=l.length/\z.2.2.1.length<=z.2.2.2/\z.2.2.1=iX (l.take z.1) k/\z.2.2.1.length<=z.1) (λ _=>_) (λ _=>_) (λ z=>[⟨z.2.1,dI z.2.2.1,z.2.2.2,47,2⟩]) (λ z=>l.length-z.1) ((0,none,[],0)) (⟨Nat.zero_le _,Nat.le_refl _,rfl,Nat.le_refl _⟩) (λ z f hx=>?_) (hw0:=λ w hw=>(hw.jK 47 2).back)
 dsimp only[gW,List.map,List.cons_append,List.nil_append]
 all_goals (refine Cy ?_;refine dW ?_;refine uQ ?_)
 all_goals
  refine bF (λ c10=>?_) (λ c10=>?_)
  ·try exact nv c10
   all_goals (refine oD ?_;refine jE ?_;refine gG ?_;refine J3 ?_;refine aA ?_;refine Z4 ?_;refine aN ?_)
   all_goals
   refine bF (λ c19=>?_) (λ c19=>?_)
   ·try exact nv c19
    all_goals (refine xU ?_;refine oI ?_;refine Dc ?_;refine fA (λ x25=>?_);(refine dM (λ x26=>?_);try (refine aB (λ h26=>?_)));refine J1 ?_;refine eV ?_;refine uH ?_)
    all_goals
     refine gY ((by first|exact(z.1+1,x26.1,z.2.2.1++[l.getD z.1 (⟨#[]⟩,0)],x26.2)|exact(z.1+1,z.2.1,z.2.2.1,z.2.2.2))) ?_ (hw1:=λ w hw=>by first|exact hw.back (hO:=by exact List.Sublist.refl _)|(rw[show z.2.2.1.length+1=(z.2.2.1++[l.getD z.1 (⟨#[]⟩,0)]).length by simp] at hw;exact hw.back (hO:=by exact List.Sublist.refl _)))
     ·obtain⟨q1,q2,q3,q4⟩:=hx
      have hdt:=Ea (l:=l) (i:=z.1) (by omega) k
      first
      | exact⟨by show z.1+1<=l.length;omega,by simp only[List.length_append,List.length_cons,List.length_nil];omega,by rw[if_neg (by assumption),<- q3] at hdt;exact hdt.symm,by simp only[List.length_append,List.length_cons,List.length_nil];omega⟩
      | exact⟨by show z.1+1<=l.length;omega,q2,by rw[if_pos (by assumption),<- q3] at hdt;exact hdt.symm,by show z.2.2.1.length<=z.1+1;omega⟩
   ·try exact nv c19
    all_goals (refine mN ?_;refine uH ?_)
    all_goals
     refine gY ((by first|exact(z.1+1,x26.1,z.2.2.1++[l.getD z.1 (⟨#[]⟩,0)],x26.2)|exact(z.1+1,z.2.1,z.2.2.1,z.2.2.2))) ?_ (hw1:=λ w hw=>by first|exact hw.back (hO:=by exact List.Sublist.refl _)|(rw[show z.2.2.1.length+1=(z.2.2.1++[l.getD z.1 (⟨#[]⟩,0)]).length by simp] at hw;exact hw.back (hO:=by exact List.Sublist.refl _)))
     ·obtain⟨q1,q2,q3,q4⟩:=hx
      have hdt:=Ea (l:=l) (i:=z.1) (by omega) k
      first
      | exact⟨by show z.1+1<=l.length;omega,by simp only[List.length_append,List.length_cons,List.length_nil];omega,by rw[if_neg (by assumption),<- q3] at hdt;exact hdt.symm,by simp only[List.length_append,List.length_cons,List.length_nil];omega⟩
      | exact⟨by show z.1+1<=l.length;omega,q2,by rw[if_pos (by assumption),<- q3] at hdt;exact hdt.symm,by show z.2.2.1.length<=z.1+1;omega⟩
  ·try exact nv c10
   all_goals (refine bQ rfl ?_;refine J2 ?_;refine J1 ?_)
   all_goals
   refine aR Tryz.results153 (λ w hw=>?_)
   obtain⟨q1,q2,q3,q4⟩:=hx
   have e:z.2.2.1=iX l k:=by rw[q3,List.take_of_length_le (by omega)]
   rw[<- e]
   exact⟨(z.2.1,z.2.2.2),rfl,q2,hw.aV⟩
theorem lH{l:List Pr}{i:Nat}(hi:i<l.length):l.take (i+1)=l.take i++[l.getD i (⟨#[]⟩,0)]:=by
 rw[List.take_add_one,List.getElem?_eq_getElem hi,iT hi];rfl
theorem Ze(p:Pr)(ha:Cl w a (dI l))(hc:l.length<=c)(hs:SA l)(hn:∀q∈l,q.1≠p.1)(hlen:l.length<=200000000000) :
    Calls Tryz.prog 152 #[.slice a l.length c,.agg ⟨[.string p.1,.int .u64 p.2]⟩] w (ju w (lZ l p.1 p.2)):=by
  refine enter Tryz.func152 Tryz.ntmps152 rfl rfl (SF.s1 ha) ?_
  simp only[dB]
  all_goals (refine J0 ?_;refine bM (λ x3=>?_);refine J1 ?_;refine Be ?_;refine Cq ?_)
  all_goals
   refine lO [5,6,8,9,10,11,12,13,14,15,16,17,18,19,20,21,22,23,24,25,26,27,28,29,30] (λ z:Nat×Option Addr×List Pr×Nat=>[(6,.int .i64 ((z.1:Nat):Int)),(5,.slice z.2.1 z.2.2.1.length z.2.2.2)]) (λ z=>z.1<=l.length/\z.2.2.1.length<=z.2.2.2/\z.2.2.1=l.take z.1/\z.2.2.1.length=z.1/\∀j,j<z.1->eC (l.getD j (⟨#[]⟩,0)).1 p.1=true) (λ z=>[(x3,.cells ⟨[.string p.1,.int .u64 p.2]⟩ 47 (0,0))]) (λ _=>_) (λ z=>[⟨z.2.1,dI z.2.2.1,z.2.2.2,47,2⟩]) (λ z=>l.length-z.1) ((0,none,[],0)) (⟨Nat.zero_le _,Nat.le_refl _,rfl,rfl,λ j hj=>absurd hj (Nat.not_lt_zero j)⟩) (λ z f hx=>?_) (hw0:=λ w hw=>(hw.jK 47 2).back)
   dsimp only[gW,List.map,List.cons_append,List.nil_append]
   all_goals (refine aT ?_;refine aT ?_;refine eE [0,1,2,3,4,5,6,7,8,9,10,11,12,13] ?_;refine gD ?_;refine jD ?_;refine Br ?_;refine aL ?_)
   all_goals (first|refine cB ?_|(refine aL ?_)|(refine wT 12 (λ g12=>?_) (λ g12=>?_)<;>(first|refine cB ?_|(refine aL ?_))))
   all_goals ((first|refine cB ?_|(refine aL ?_));(first|refine cB ?_|(refine iY ?_));refine xl ?_;refine xl ?_;(first|refine cB ?_|(refine Xw ?_));refine hU ?_;refine eO ?_)
   all_goals
    refine bF (λ c21=>?_) (λ c21=>?_)
    · try exact nv c21
      all_goals (refine oD ?_;refine xU ?_;refine oI ?_;refine Dc ?_;refine fA (λ x29=>?_);(refine aF (by first|exact aP.eL (C1 rf rf dZ rfl fin (by exact jV rfl) fG (by omega)) (by intro x;simp only[kB];exact rfl)|exact aP.eL (yF (l2:=l.drop z.2.2.1.length) rf rf dZ (by simp;done) fin (by rw[List.length_drop]) (by exact jV rfl) fG (by omega)) (by intro x;simp only[kB];exact rfl)) (λ x30=>?_);try (refine aB (λ h30=>?_)));refine J1 ?_;refine eV ?_;refine uH ?_)
      all_goals
       refine gY ((z.1+1,x30.1,z.2.2.1++[l.getD z.1 (⟨#[]⟩,0)],x30.2)) ?_ (hw1:=λ w hw=>hw.back (hO:=by exact List.Sublist.refl _))
       · obtain⟨q1,q2,q3,q4,q5⟩:=hx
         refine⟨by show z.1+1<=l.length;omega,by simp only[List.length_append,List.length_cons,List.length_nil];omega,by rw[lH (by omega),<- q3],by simp only[List.length_append,List.length_cons,List.length_nil];omega,λ j hj=>?_⟩
         rcases Nat.lt_succ_iff_lt_or_eq.1 hj with h|rfl
         · exact q5 j h
         · exact c21
    · try exact nv c21
      all_goals
       refine qk (λ w hw=>hw.w8 (k:=z.2.2.1.length) (c:=c) fin hc) ?_
      all_goals (refine bQ rfl ?_;refine J2 ?_;refine dW ?_;refine iI ?_;refine eE [0,1,4,5,6,2,3,7,8] ?_;refine aL ?_;refine bT ?_;refine gD ?_;refine cI (i:=6) (hq:=(an (k:=z.2.2.1.length) rf rf fG (by exact tB rfl) (by omega) (by omega))) (h:=?_);refine bB (h:=λ x35=>?_);((refine bA (i:=3) (hq:=(by first|exact aP.eL (C1 rf rf dZ rfl fin (by exact jV rfl) fG (by omega)) (by intro x;simp only[kB];exact rfl)|exact aP.eL (yF (l2:=l.drop z.2.2.1.length) rf rf dZ (by simp;done) fin (by rw[List.length_drop]) (by exact jV rfl) fG (by omega)) (by intro x;simp only[kB];exact rfl))) (h:=λ x36=>?_);try (refine aK (λ h36=>?_))));((refine bA (i:=7) (hq:=(by first|exact aP.eL (C1 rf rf dZ rfl fin (by exact jV rfl) fG (by omega)) (by intro x;simp only[kB];exact rfl)|exact aP.eL (yF (l2:=l.drop z.2.2.1.length) rf rf dZ (by simp;done) fin (by rw[List.length_drop]) (by exact jV rfl) fG (by omega)) (by intro x;simp only[kB];exact rfl))) (h:=λ x40=>?_);try (refine aK (λ h40=>?_))));refine J7 ?_)
      all_goals
       refine aR Tryz.results152 (λ w hw=>?_)
       obtain⟨q1,q2,q3,q4,q5⟩:=hx
       have hp:Oh l p.1 z.1:=⟨q1,q5,by first|exact xc hs c21|(intro j h1 h2;omega)⟩
       have e:lZ l p.1 p.2=z.2.2.1++[(p.1,p.2)]++l.drop z.2.2.1.length:=by
        rw[Sb hp λ hh=>?_,q4,<- q3,List.append_assoc]
        · rfl
        · exact hn _ (by rw[iT hh.1];exact List.getElem_mem hh.1) hh.2
       have e2:(z.2.2.1++[(p.1,p.2)]++l.drop z.2.2.1.length).length=z.2.2.1.length+1+(l.length-z.2.2.1.length):=by rw[List.length_append,List.length_append,List.length_drop];rfl
       rw[e]
       exact⟨x40,by rw[e2];rfl,by rw[e2];exact h40,hw.aV⟩
theorem uW(k:ByteArray)(ha:Cl w a (dI l))(hlen:l.length<=200000000000) :
  Calls Tryz.prog 153 #[.slice a l.length c,.string k] w (Vd w (iX l k)):=(L5 k ha hlen).mono λ _ _ h=>h.cg
theorem Mc(p:Pr)(ha:Cl w a (dI l))(hc:l.length<=c)(hs:SA l)(hn:∀q∈l,q.1≠p.1)(hlen:l.length<=200000000000) :
  Calls Tryz.prog 152 #[.slice a l.length c,.agg ⟨[.string p.1,.int .u64 p.2]⟩] w (Vd w (lZ l p.1 p.2)):=(Ze p ha hc hs hn hlen).mono λ _ _ h=>h.cg
theorem Io{l:List Pr}{k:ByteArray}:∀q∈iX l k,q.1≠k:=λ q hq=>by simpa using(List.mem_filter.1 hq).2
theorem Em(l:List Pr)(k:ByteArray):(iX l k).length<=l.length:=List.length_filter_le _ _
theorem Wq(k:ByteArray)(v:Int)(ha:Cl w a (dI l))(hlen:l.length<=200000000000) :
  Calls Tryz.prog 149 #[.slice a l.length c,.string k,.int .u64 v] w (Vd w (Mk l k v)):=by
 have hdl:=Em l k
 refine enter Tryz.func149 Tryz.ntmps149 rfl rfl (SF.s1 ha) ?_
 simp only[dB]
 all_goals (refine dH ?_;refine jS ?_;(refine aF (c0 (V:=.bool) (hc:=λ w1 hw=>mC (hw.cl fin) (by omega))) (λ x8=>?_);try (refine aB (λ h8=>?_)));refine kD ?_)
 all_goals
 refine bF (λ c9=>?_) (λ c9=>?_)
 ·try exact nv c9
  all_goals refine dH ?_
  all_goals
   refine aR Tryz.results149 (λ w hw=>?_)
   rw[show Mk l k v=[] from if_neg λ hs=>by rw[h8.2 (nY.2 hs)] at c9;cases c9];exact⟨(none,0),rfl,Nat.le_refl _,(hw.Jn none).fin⟩
 ·try exact nv c9
  all_goals
   have hs:SA l:=nY.1 (h8.1 (by simpa using c9))
  all_goals (refine Ak ?_;(refine aF (cF (hc:=λ w1 hw=>uW k (hw.cl fin) hlen)) (λ x12=>?_);try (refine aB (λ h12=>?_)));refine oI ?_;refine bV ?_;(refine aF (cF (hc:=λ w1 hw=>Mc (k,v) (hw.cl fin) h12 (uP k hs) Io (by omega))) (λ x16=>?_);try (refine aB (λ h16=>?_)));refine J1 ?_)
  all_goals
   refine aR Tryz.results149 (λ w hw=>?_)
   rw[show Mk l k v=lZ (iX l k) k v from(if_pos hs).trans (Mo hs k v).symm];exact⟨x16,rfl,h16,hw.fin⟩
theorem Vo(k:ByteArray)(ha:Cl w a (dI l))(hlen:l.length<=200000000000) :
  Calls Tryz.prog 151 #[.slice a l.length c,.string k] w (Vd w (rH l k)):=by
 refine enter Tryz.func151 Tryz.ntmps151 rfl rfl (SF.s1 ha) ?_
 simp only[dB]
 all_goals (refine dH ?_;refine jS ?_;(refine aF (c0 (V:=.bool) (hc:=λ w1 hw=>mC (hw.cl fin) (by omega))) (λ x6=>?_);try (refine aB (λ h6=>?_)));refine kD ?_)
 all_goals
 refine bF (λ c7=>?_) (λ c7=>?_)
 ·try exact nv c7
  all_goals refine dH ?_
  all_goals
   refine aR Tryz.results151 (λ w hw=>?_)
   rw[show rH l k=[] from if_neg λ hs=>by rw[h6.2 (nY.2 hs)] at c7;cases c7];exact⟨(none,0),rfl,Nat.le_refl _,(hw.Jn none).fin⟩
 ·try exact nv c7
  all_goals
   have hs:SA l:=nY.1 (h6.1 (by simpa using c7))
  all_goals (refine Ak ?_;(refine aF (cF (hc:=λ w1 hw=>uW k (hw.cl fin) hlen)) (λ x10=>?_);try (refine aB (λ h10=>?_)));refine J1 ?_)
  all_goals
   refine aR Tryz.results151 (λ w hw=>?_)
   rw[show rH l k=iX l k from if_pos hs];exact⟨x10,rfl,h10,hw.fin⟩
theorem j3(ha:Cl w a (dI l))(hlen:l.length<=200000000000) :
    Calls Tryz.prog 155 #[.slice a l.length c] w (Vd w (Cu l)):=by
  refine enter Tryz.func155 Tryz.ntmps155 rfl rfl (SF.s1 ha) ?_
  simp only[dB]
  all_goals (refine dH ?_;refine Be ?_;refine Cq ?_)
  all_goals
   refine lO [3,4,5,6,7,8,9,10,11,12,13,14,15,16,17,18,19,20,21,22] (λ z:Nat×Option Addr×List Pr×Nat=>[(4,.int .i64 ((z.1:Nat):Int)),(3,.slice z.2.1 z.2.2.1.length z.2.2.2)]) (λ z=>z.1<=l.length/\z.2.2.1.length<=z.2.2.2/\z.2.2.1=Cu (l.take z.1)/\z.2.2.1.length<=z.1/\SA z.2.2.1) (λ _=>_) (λ z=>[(z.2.1,dI z.2.2.1)]) (λ _=>_) (λ z=>l.length-z.1) ((0,none,[],0)) (⟨Nat.zero_le _,Nat.le_refl _,rfl,Nat.le_refl _,List.Pairwise.nil⟩) (λ z f hx=>?_) (hw0:=λ w hw=>(hw.Jn none).back)
   dsimp only[gW,List.map,List.cons_append,List.nil_append]
   all_goals (refine Cy ?_;refine dW ?_;refine uQ ?_)
   all_goals
    refine bF (λ c8=>?_) (λ c8=>?_)
    · try exact nv c8
      all_goals
       have hdl:=Em z.2.2.1 (l.getD z.1 (⟨#[]⟩,0)).1
      all_goals (refine oD ?_;refine dL [(0,[]),(1,[]),(2,[]),(3,[]),(4,[]),(5,[]),(7,[]),(8,[]),(9,[]),(10,[]),(6,[9,10]),(11,[]),(12,[])] ?_;refine gD ?_;refine aL ?_;refine iY ?_;refine jP ?_;refine gD ?_;refine Cv ?_;((refine bA (i:=6) (hq:=(cF (hc:=λ w1 hw=>uW (l.getD z.1 (⟨#[]⟩,0)).1 (hw.cl fin) (by omega)))) (h:=λ x17=>?_);try (refine aK (λ h17=>?_))));((refine bA (i:=11) (hq:=(cF (hc:=λ w1 hw=>Mc (l.getD z.1 (⟨#[]⟩,0)) (hw.cl fin) h17 (uP _ hx.2.2.2.2) Io (by omega)))) (h:=λ x22=>?_);try (refine aK (λ h22=>?_))));refine J7 ?_;refine eV ?_;refine uH ?_)
      all_goals
       refine gY ((z.1+1,x22.1,lZ (iX z.2.2.1 (l.getD z.1 (⟨#[]⟩,0)).1) (l.getD z.1 (⟨#[]⟩,0)).1 (l.getD z.1 (⟨#[]⟩,0)).2,x22.2)) ?_
       · obtain⟨q1,q2,q3,q4,q5⟩:=hx
         have e:=Mo q5 (l.getD z.1 (⟨#[]⟩,0)).1 (l.getD z.1 (⟨#[]⟩,0)).2
         have hl:=wK (k:=(l.getD z.1 (⟨#[]⟩,0)).1) (v:=(l.getD z.1 (⟨#[]⟩,0)).2) q5
         rw[e] at h22
         refine⟨by show z.1+1<=l.length;omega,by show(lZ _ _ _).length<=_;rw[e];exact h22,?_,?_,?_⟩
         · show lZ _ _ _=_
           rw[e,lH (by omega),uB,<- q3]
         · show(lZ _ _ _).length<=z.1+1
           rw[e,hl];split<;>omega
         · show SA (lZ _ _ _)
           rw[e];exact wJ q5
    · try exact nv c8
      all_goals (refine bQ rfl ?_;refine J2 ?_;refine J1 ?_)
      all_goals
       refine aR Tryz.results155 (λ w hw=>?_)
       obtain⟨q1,q2,q3,q4,q5⟩:=hx
       have e:z.2.2.1=Cu l:=by rw[q3,List.take_of_length_le (by omega)]
       rw[<- e]
       exact⟨(z.2.1,z.2.2.2),rfl,q2,hw.fin⟩
end
end

end Go.Proofs.YtpobgmdalcpomaaGreat

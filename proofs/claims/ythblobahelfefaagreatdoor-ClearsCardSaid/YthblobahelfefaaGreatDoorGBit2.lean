/- Merged. -/
import Derived.Test.YthblobahelfefaaGreatDoorGPa2
import Derived.Test.YthblobahelfefaaGreatDoorGAr5
import Derived.Test.YthblobahelfefaaGreatDoorAuto
import Derived.Test.YthblobahelfefaaGreatDoorGSlices
set_option linter.unusedSimpArgs false
set_option linter.unusedVariables false
namespace Go.Ct
open Go Go.RowKit
section
def tU(n:Nat)(i:Int):Bool:=decide (0<=i)&&(decide (i<64)&&n.testBit i.toNat)
theorem Mi(n:Nat){i:Int}(h0:0<=i)(h1:i<64):tU n i=n.testBit i.toNat:=by simp[tU,h0,h1]
theorem aA2{n:Nat}(hn:n<18446744073709551616){i:Int}(h0:0<=i)(h1:i<64):(mA .u64 (mG .u64 (n:Int) i) 1==1)=tU n i:=by
 obtain⟨k,rfl⟩:=Int.eq_ofNat_of_zero_le h0;rw[Mi n h0 h1,nD (by omega)];have h2:mA .u64 ((n >>> k:Nat):Int) 1=(((n >>> k) &&& 1:Nat):Int):=nI (Nat.lt_of_le_of_lt (Nat.shiftRight_le _ _) hn) (m:=1) (by decide);rw[h2];simp only[Int.toNat_natCast,Nat.testBit,Nat.and_comm 1]
 rw[Nat.and_one_is_mod];rcases Nat.mod_two_eq_zero_or_one (n >>> k) with h|h<;>rw[h]<;>rfl
def iK(n:Nat)(i:Int):Nat:=iD n (min i.toNat 64)
theorem um(n:Nat){i:Nat}:∀k,i<=k->iD (n &&& (2^i-1)) k=iD n i:=by
 intro k hk;obtain⟨d,rfl⟩:=Nat.exists_eq_add_of_le hk;clear hk;induction d with
 | zero=>exact Cz λ j hj=>by rw[Nat.testBit_and,Nat.testBit_two_pow_sub_one];simp;intro _;omega
 | succ d ih=>rw[<- Nat.add_assoc];simp only[iD,ih,Nat.testBit_and,Nat.testBit_two_pow_sub_one];simp
theorem yw{n:Nat}(hn:n<18446744073709551616){i:Int}(h0:0<i)(h1:i<64):Ef (mA .u64 (n:Int) (IntKind.u64.wrap (Kd .u64 1 i-1)))=((iK n i:Nat):Int):=by
 obtain⟨k,rfl⟩:=Int.eq_ofNat_of_zero_le (Int.le_of_lt h0);have hp:=Nat.pow_lt_pow_right (a:=2) (by decide) (show k<64 by omega);have hp0:=Nat.two_pow_pos k;rw[Sw (by omega)];have e:((2^k:Nat):Int)-1=((2^k-1:Nat):Int):=by omega
 rw[e,lT (by omega),nI hn (by omega),vY (Nat.lt_of_le_of_lt Nat.and_le_left hn),um n 64 (by omega)];unfold iK;rw[Int.toNat_natCast,Nat.min_eq_left (by omega)]
def dF(n:Nat)(i:Int):Nat:=if 0<=i/\i<64 then n ||| 2^i.toNat else n
theorem qh{n:Nat}(hn:n<18446744073709551616){i:Int}(h0:0<=i)(h1:i<64):rOr .u64 (n:Int) (Kd .u64 1 i)=((dF n i:Nat):Int):=by obtain⟨k,rfl⟩:=Int.eq_ofNat_of_zero_le h0;have hp:=Nat.pow_lt_pow_right (a:=2) (by decide) (show k<64 by omega);rw[Sw (by omega),zq hn (by omega),dF,if_pos ⟨h0,h1⟩];rfl
theorem Bf{n:Nat}(hn:n<18446744073709551616)(i:Int):dF n i<18446744073709551616:=by
 unfold dF;split;·rename_i h;have hp:=Nat.pow_lt_pow_right (a:=2) (by decide) (show i.toNat<64 by omega);exact Nat.or_lt_two_pow (n:=64) hn hp
 ·exact hn
end
end Go.Ct
namespace Go.Proofs.YthblobahelfefaaGreatDoor
open Go.Proofs.Tryz
open Go.RowKit Go.Ct
section
theorem Lr(i:Int)(w:World):Calls prog 222 #[.int .i64 i] w λ e w'=>e=.returned (.bool (decide (0<=i/\i<64)))/\St w [] [] w':=by
 refine enter func222 ntmps222 rfl rfl (SF.s0 w) ?_;simp only[bY];refine Kc1 ?_;refine kZ ?_;refine aD ?_;(refine kT 5 (λ g5=>?_) (λ g5=>?_)<;>refine Ka0 ?_);all_goals (refine vb ?_;refine J1 ?_)
 all_goals
 refine aP results222 (λ w hw=>?_);first|(rw[decide_eq_false (by omega)];exact⟨rfl,hw.done⟩)|(rw[show decide (0<=i/\i<64)=decide (i<64) by simp;omega];exact⟨rfl,hw.done⟩)
theorem jx{n:Nat}(hn:n<18446744073709551616)(i:Int)(w:World):Calls prog 180 #[.int .u64 (n:Int),.int .i64 i] w λ e w'=>e=.returned (.bool (tU n i))/\St w [] [] w':=by
 refine enter func180 ntmps180 rfl rfl (SF.s0 w) ?_;simp only[bY];refine Kc1 ?_;refine aK (cV (hc:=λ w1 hw=>Lr i w1)) (λ x6=>?_);refine aD ?_;(refine kT 7 (λ g7=>?_) (λ g7=>?_)<;>refine Ka0 ?_);all_goals (refine Ka0 ?_;(first|refine bG ?_|(refine aG ?_;refine eR ?_));(first|refine bG ?_|(refine aG ?_;refine Iq ?_));(first|refine bG ?_|(refine aG ?_;refine D3 ?_));refine Ja ?_;refine J1 ?_)
 all_goals
 refine aP results180 (λ w hw=>?_);first|(rw[<- aA2 hn (by omega) (by omega)];exact⟨rfl,hw.done⟩)|(rw[show tU n i=false by simp[tU];omega];exact⟨rfl,hw.done⟩)
theorem il{n:Nat}(hn:n<18446744073709551616)(w:World):Calls prog 223 #[.int .u64 (n:Int)] w λ e w'=>e=.returned (.int .i64 ((iD n 64:Nat):Int))/\St w [] [] w':=by rw[<- vY hn];exact Mz _ w
theorem sh{n:Nat}(hn:n<18446744073709551616)(i:Int)(w:World):Calls prog 181 #[.int .u64 (n:Int),.int .i64 i] w λ e w'=>e=.returned (.int .i64 ((iK n i:Nat):Int))/\St w [] [] w':=by
 refine enter func181 ntmps181 rfl rfl (SF.s0 w) ?_;simp only[bY];refine Ka5 ?_;refine xW ?_;refine aC ?_;refine aX (λ c6=>?_) (λ c6=>?_);·refine cC ?_;refine aP results181 (λ w hw=>?_);(rw[show iK n i=0 by unfold iK;rw[show min i.toNat 64=0 by omega];rfl];exact⟨rfl,hw.done⟩)
 ·refine mD ?_;refine J2 ?_;refine kZ ?_;refine aC ?_;refine aX (λ c8=>?_) (λ c8=>?_);·refine J2 ?_;(refine aK (by exact cV (hc:=λ w1 hw=>il hn w1)) (λ x10=>?_));refine J1 ?_;refine aP results181 (λ w hw=>?_);(rw[show iK n i=iD n 64 by unfold iK;congr 1;omega];exact⟨rfl,hw.done⟩)
  ·refine Ix ?_;refine eR ?_;refine aBO ?_;refine aBa ?_;refine D3 ?_;(refine aK (by exact cV (hc:=λ w1 hw=>Mz (mA .u64 (n:Int) (IntKind.u64.wrap (Kd .u64 1 i-1))) w1)) (λ x17=>?_));refine J1 ?_;refine aP results181 (λ w hw=>?_);(rw[<- yw hn (by omega) (by omega)];exact⟨rfl,hw.done⟩)
theorem aDY{n:Nat}(hn:n<18446744073709551616)(i:Int)(w:World):Calls prog 297 #[.int .u64 (n:Int),.int .i64 i] w λ e w'=>e=.returned (.int .u64 ((dF n i:Nat):Int))/\St w [] [] w':=by
 refine enter func297 ntmps297 rfl rfl (SF.s0 w) ?_;simp only[bY];refine Ka5 ?_;refine aK (cV (hc:=λ w1 hw=>Lr i w1)) (λ x6=>?_);refine pG ?_;refine aX (λ c7=>?_) (λ c7=>?_);·refine Kc4 ?_;refine aP results297 (λ w hw=>?_);(rw[show dF n i=n by unfold dF;rw[if_neg (by omega)]];exact⟨rfl,hw.done⟩)
 ·refine Ix ?_;refine eR ?_;refine aBO ?_;refine aF8 ?_;refine J1 ?_;refine aP results297 (λ w hw=>?_);(rw[<- qh hn (by omega) (by omega)];exact⟨rfl,hw.done⟩)
end
end Go.Proofs.YthblobahelfefaaGreatDoor
namespace Go.Ct
open Go Go.RowKit
section
def Ti(b:Nat)(xs:List Int)(k:Nat):Option Int:=if b.testBit k=true then some (xs.getD (iD b k) 0) else none
def vg(m:Nat->Option Int):Nat->Nat
 | 0=>0
 | k+1=>if(m k).isSome=true then vg m k ||| 2^k else vg m k
def lOf(m:Nat->Option Int):Nat->List Int
 | 0=>[]
 | k+1=>lOf m k++(m k).toList
def iB(m:Nat->Option Int)(i:Nat)(o:Option Int)(k:Nat):Option Int:=if k=i then o else m k
structure BV(b:Nat)(xs:List Int):Prop where
 lt:b<18446744073709551616
 len:xs.length=iD b 64
 pos:∀i,i<xs.length->1<=xs.getD i 0
theorem Ws(m:Nat->Option Int)(j:Nat):∀k,(vg m k).testBit j=(decide (j<k)&&(m j).isSome)
 | 0=>by simp[vg]
 | k+1=>by
  have ih:=Ws m j k;simp only[vg];by_cases hjk:j=k
  ·subst hjk;by_cases h:(m j).isSome=true;·rw[if_pos h,Nat.testBit_or,Nat.testBit_two_pow];simp[h]
   ·rw[if_neg h,ih];simp at h;simp[h]
  ·have h2:(2^k).testBit j=false:=by rw[Nat.testBit_two_pow];exact decide_eq_false (λ h=>hjk h.symm)
   split;·rw[Nat.testBit_or,ih,h2,Bool.or_false];congr 1;exact decide_eq_decide.2 (by omega)
   ·rw[ih];congr 1;exact decide_eq_decide.2 (by omega)
theorem nz(m:Nat->Option Int):∀k,vg m k<2^k
 | 0=>by simp[vg]
 | k+1=>by
  have ih:=nz m k;have h2:2^(k+1)=2^k+2^k:=by rw[Nat.pow_succ];omega
  simp only[vg];split;·refine Nat.or_lt_two_pow (by omega) ?_;have:=Nat.two_pow_pos k;omega
  ·omega
theorem vJ(b:Nat)(k:Nat):∀d,iD b k<=iD b (k+d)
 | 0=>Nat.le_refl _
 | d+1=>by have:=vJ b k d;rw[<- Nat.add_assoc];simp only[iD];omega
theorem B3{b k n:Nat}(h:k<n)(hb:b.testBit k=true):iD b k<iD b n:=by obtain⟨d,rfl⟩:=Nat.exists_eq_add_of_le (Nat.succ_le_of_lt h);have:=vJ b (k+1) d;simp only[iD,hb,if_true] at this;exact this
theorem aAd{b:Nat}{xs:List Int}(h:xs.length=iD b 64):∀k,k<=64->lOf (Ti b xs) k=xs.take (iD b k)
 | 0,_=>by simp[lOf,iD]
 | k+1,hk=>by
  have ih:=aAd h k (by omega);simp only[lOf,ih,Ti,iD];split;·rename_i hb;have:=B3 (n:=64) (by omega) hb;rw[List.take_add_one,Option.toList,Ss,List.getElem?_eq_getElem (by omega)];rfl
  ·simp
theorem Br{b b' i:Nat}(h:b.testBit i=false)(hb:∀j,j<64->b'.testBit j=(b.testBit j||decide (j=i))):∀k,k<=64->iD b' k=iD b k+if i<k then 1 else 0
 | 0,_=>rfl
 | k+1,hk=>by
  have ih:=Br h hb k (by omega);simp only[iD,ih,hb k (by omega)];by_cases hki:k=i;·subst hki;simp[h]
  ·have:decide (k=i)=false:=decide_eq_false hki;rw[this,Bool.or_false];have e:(i<k+1)↔(i<k):=by omega
   simp only[e];omega
def sO(xs:List Int)(p:Nat)(r:Int):List Int:=xs.take p++r::xs.drop p
def B8(xs:List Int)(p:Nat)(r:Int):List Int:=xs.take p++r::xs.drop (p+1)
variable{xs:List Int}{p:Nat}
theorem Sq(hp:p<=xs.length)(r:Int):(sO xs p r).length=xs.length+1:=by simp[sO];omega
theorem Sa(hp:p<xs.length)(r:Int):(B8 xs p r).length=xs.length:=by simp[B8];omega
theorem Wf(hp:p<=xs.length)(r:Int)(q:Nat):(sO xs p r).getD q 0=if q<p then xs.getD q 0 else if q=p then r else xs.getD (q-1) 0:=by
 simp only[sO,Ss];by_cases h1:q<p;·rw[if_pos h1,List.getElem?_append_left (by simp;omega),List.getElem?_take_of_lt h1]
 ·rw[if_neg h1,List.getElem?_append_right (by simp;omega)];have:(xs.take p).length=p:=by simp;omega
  rw[this];by_cases h2:q=p;·subst h2;simp
  ·obtain⟨d,hd⟩:∃d,q-p=d+1:=⟨q-p-1,by omega⟩;rw[if_neg h2,hd,List.getElem?_cons_succ,List.getElem?_drop];congr 2;omega
theorem Xb(hp:p<xs.length)(r:Int)(q:Nat):(B8 xs p r).getD q 0=if q=p then r else xs.getD q 0:=by
 simp only[B8,Ss];by_cases h1:q<p;·rw[if_neg (by omega),List.getElem?_append_left (by simp;omega),List.getElem?_take_of_lt h1]
 ·rw[List.getElem?_append_right (by simp;omega)];have:(xs.take p).length=p:=by simp;omega
  rw[this];by_cases h2:q=p;·subst h2;simp
  ·obtain⟨d,hd⟩:∃d,q-p=d+1:=⟨q-p-1,by omega⟩;rw[if_neg h2,hd,List.getElem?_cons_succ,List.getElem?_drop];congr 2;omega
theorem K9{ys:List Int}(h:∀i,i<xs.length->1<=xs.getD i 0)(hy:∀j,j<ys.length->1<=ys.getD j 0∨∃i,i<xs.length/\ys.getD j 0=xs.getD i 0):∀j,j<ys.length->1<=ys.getD j 0:=λ j hj=>by
 rcases hy j hj with h1|⟨i,hi,he⟩;·exact h1
 ·rw[he];exact h i hi
section
variable{b i:Nat}{xs:List Int}{r:Int}
theorem qI(b i:Nat)(j:Nat):(b ||| 2^i).testBit j=(b.testBit j||decide (j=i)):=by rw[Nat.testBit_or,Nat.testBit_two_pow];congr 1;exact decide_eq_decide.2 eq_comm
theorem Nm(h:BV b xs)(hi:i<64)(hb:b.testBit i=false)(hr:1<=r):BV (b ||| 2^i) (sO xs (iD b i) r)/\∀k,k<64->Ti (b ||| 2^i) (sO xs (iD b i) r) k=iB (Ti b xs) i (some r) k:=by
 have hc:=Br hb (λ j _=>qI b i j)
 have hp:iD b i<=xs.length:=by obtain⟨d,hd⟩:=Nat.exists_eq_add_of_le (Nat.le_of_lt hi);rw[h.len,hd];exact vJ b i d
 refine⟨⟨Nat.or_lt_two_pow (n:=64) h.lt (Nat.pow_lt_pow_right (a:=2) (by decide) hi),?_,K9 h.pos λ j hj=>?_⟩,λ k hk=>?_⟩;·rw[Sq hp,hc 64 (Nat.le_refl _),if_pos hi,h.len]
 ·rw[Sq hp] at hj;rw[Wf hp];by_cases h1:j<iD b i;·rw[if_pos h1];exact .inr ⟨j,by omega,rfl⟩
  ·rw[if_neg h1];by_cases h2:j=iD b i;·rw[if_pos h2];exact .inl hr
   ·rw[if_neg h2];exact .inr ⟨j-1,by omega,rfl⟩
 ·simp only[Ti,iB];rw[qI,hc k (by omega),Wf hp];by_cases hki:k=i;·subst hki;simp
  ·rw[if_neg hki,decide_eq_false hki,Bool.or_false];by_cases hbk:b.testBit k=true
   ·rw[if_pos hbk,if_pos hbk];congr 1;by_cases hlt:k<i;·have:=B3 hlt hbk;rw[if_neg (show ¬i<k by omega),if_pos (by omega)];rfl
    ·have:iD b i<=iD b k:=by obtain⟨d,hd⟩:=Nat.exists_eq_add_of_le (show i<=k by omega);rw[hd];exact vJ b i d
     rw[if_pos (show i<k by omega),if_neg (by omega),if_neg (by omega)];rfl
   ·rw[if_neg hbk,if_neg hbk]
theorem ux(h:BV b xs)(hi:i<64)(hb:b.testBit i=true)(hr:1<=r):BV b (B8 xs (iD b i) r)/\∀k,k<64->Ti b (B8 xs (iD b i) r) k=iB (Ti b xs) i (some r) k:=by
 have hp:iD b i<xs.length:=by rw[h.len];exact B3 hi hb
 refine⟨⟨h.lt,by rw[Sa hp,h.len],K9 h.pos λ j hj=>?_⟩,λ k hk=>?_⟩
 ·rw[Sa hp] at hj;rw[Xb hp];by_cases h2:j=iD b i;·rw[if_pos h2];exact .inl hr
  ·rw[if_neg h2];exact .inr ⟨j,hj,rfl⟩
 ·simp only[Ti,iB];rw[Xb hp];by_cases hki:k=i;·subst hki;rw[if_pos hb,if_pos rfl,if_pos rfl]
  ·rw[if_neg hki];by_cases hbk:b.testBit k=true
   ·rw[if_pos hbk,if_pos hbk,if_neg];rcases Nat.lt_or_gt_of_ne hki with hlt|hlt;·have:=B3 hlt hbk;omega
    ·have:=B3 hlt hb;omega
   ·rw[if_neg hbk,if_neg hbk]
end
end
section
variable{w0 w:World}{M:List Nat}{H:List (Nat×Obj)}{A F:Fr}{O:List Ow}
end
end Go.Ct
namespace Go.Proofs.YthblobahelfefaaGreatDoor
open Go.RowKit Go.Ct
section
theorem Ve{n:Nd}{xs:List Int}{ys:List Pr}(h:n.kind=3)(hv:eW n xs ys):(xs.length:Int)=Ef n.bm/\Pos xs:=by obtain⟨_,_,_,_,hv⟩:=hv;rcases hv with h1|⟨h1,_⟩|⟨_,h2,h3⟩|⟨h1|h1,_⟩|⟨h1,_⟩|⟨h1,_⟩|⟨h1,_⟩;all_goals first|exact⟨h2,h3⟩|(rw[h] at h1;exact absurd h1 (by decide))
end
section
end
end Go.Proofs.YthblobahelfefaaGreatDoor
namespace Go.Ct
open Go Go.RowKit
section
end
end Go.Ct
namespace Go.Proofs.YthblobahelfefaaGreatDoor
open Go.Proofs.Tryz
open Go.RowKit Go.Ct
section
def CV(n:Nd)(xs:List Int)(ys:List Pr):Prop:=n.kind=3/\eW n xs ys
theorem CV.bv{n:Nd}{xs:List Int}{ys:List Pr}{b:Nat}(h:CV n xs ys)(hb:n.bm=(b:Int))(hb2:b<18446744073709551616):BV b xs:=by obtain⟨h1,h2⟩:=Ve h.1 h.2;rw[hb,vY hb2] at h1;exact⟨hb2,by omega,h2⟩
instance (n:Nd) (ys:List Pr):Decidable (ys=n.lS ys):=if h:(n.kind==6)=true then isTrue (by unfold Nd.lS;rw[if_pos h]) else decidable_of_iff (ys=[]) (by unfold Nd.lS;rw[if_neg h])
instance (n:Nd) (xs:List Int) (ys:List Pr):Decidable (M8 n n.own xs (n.oZ xs) ys (n.lS ys)):=inferInstanceAs (Decidable (n.kind=n.own.kind/\n.gen=n.own.gen/\n.main=n.own.main/\n.bm=n.own.bm/\xs=n.oZ xs/\n.hash=n.own.hash/\n.key=n.own.key/\n.val=n.own.val/\ys=n.lS ys/\n.prev=n.own.prev/\n.old=n.own.old/\n.exp=n.own.exp/\n.new=n.own.new/\n.status=n.own.status))
instance (l:List Int):Decidable (Pos l):=inferInstanceAs (Decidable (∀i,i<l.length->1<=l.getD i 0))
instance (l:List Pr):Decidable (oh l):=inferInstanceAs (Decidable (∀i,i<l.length->(l.getD i (⟨#[]⟩,0)).1.size<=64))
instance (l:List Pr):Decidable (Asc l):=decidable_of_iff (∀i,i<l.length->1<=i->cG (l.getD (i-1) (⟨#[]⟩,0)).1 (l.getD i (⟨#[]⟩,0)).1=true) ⟨λ h i a b=>h i b a,λ h i a b=>h i b a⟩
instance (n:Nd) (xs:List Int) (ys:List Pr):Decidable (eW n xs ys):=inferInstanceAs (Decidable (_/\_))
instance (n:Nd) (xs:List Int) (ys:List Pr):Decidable (CV n xs ys):=inferInstanceAs (Decidable (_/\_))
def Y0(n:Nd)(xs:List Int)(ys:List Pr)(b:Nat)(i:Int):Option Int:=if CV n xs ys/\tU b i=true then some (xs.getD (iK b i) 0) else none
theorem wO{b:Nat}{i:Int}(h:tU b i=true):0<=i/\i<64/\b.testBit i.toNat=true/\iK b i=iD b i.toNat:=by simp only[tU,Bool.and_eq_true,decide_eq_true_eq] at h;exact⟨h.1,h.2.1,h.2.2,by unfold iK;congr 1;omega⟩
theorem aBl{b:Nat}{xs:List Int}(h:BV b xs){i:Int}(hh:tU b i=true):iK b i<xs.length:=by obtain⟨h1,h2,h3,h4⟩:=wO hh;rw[h4,h.len];exact B3 (by omega) h3
section
variable{n:Nd}{xs:List Int}{ys:List Pr}{w:World}{b:Nat}
theorem Qg(hr:Jy w n xs ys):Calls prog 179 #[n.v] w λ e w'=>∃r:Bool,e=.returned (.bool r)/\(r=true↔CV n xs ys)/\St w [] [] w':=by
 refine enter func179 ntmps179 rfl rfl (SF.s0 w) ?_;simp only[bY];simp only[Nd.v,Nd.cells];refine J0 ?_;refine bC (λ x1=>?_);refine J1 ?_;refine gP ?_;refine tL ?_;refine aD ?_;(refine kT 6 (λ g6=>?_) (λ g6=>?_)<;>refine Kb9 ?_);all_goals ((first|refine bG ?_|(refine aG ?_;refine aJ (c0 (V:=.bool) (hc:=λ w1 hw=>Km (n:=n) (hr.lB hw.done))) (λ x8 h8=>?_)));refine dG ?_;refine J1 ?_)
 all_goals
 refine aP results179 (λ w hw=>?_);refine⟨_,rfl,?_,hw.done⟩;simp_all[CV]
theorem mc(i:Int)(hb:n.bm=(b:Int))(hb2:b<18446744073709551616)(hr:Jy w n xs ys):Calls prog 144 #[n.v,.int .i64 i] w λ e w'=>e=.returned (.tuple #[.int .i64 ((Y0 n xs ys b i).getD 0),.bool (Y0 n xs ys b i).isSome])/\St w [] [] w':=by
 have e1:=hr.brN;refine enter func144 ntmps144 rfl rfl (SF.s2 hr.br hr.pr) ?_;simp only[bY]
 simp only[Nd.v,Nd.cells,hb,e1];refine J0 ?_;refine bC (λ x2=>?_);refine J8 ?_;refine aU ?_;refine tB ?_;refine aJ (c0 (V:=.bool) (hc:=λ w1 hw=>by rw[<- e1,<- hb];exact Qg (n:=n) (hr.lB hw.done))) (λ x7 h7=>?_);refine fl ?_;(refine kT 9 (λ g9=>?_) (λ g9=>?_)<;>refine Ka1 ?_);all_goals (refine J29 ?_;(first|refine bG ?_|(refine aG ?_;refine aK (cV (hc:=λ w1 hw=>jx hb2 i w1)) (λ x13=>?_)));refine y7 ?_;refine aC ?_)
 all_goals
 refine aX (λ c15=>?_) (λ c15=>?_)
 ·all_goals refine Pa ?_
  all_goals refine bJ results144 (λ w hw=>?_);rw[show Y0 n xs ys b i=none from if_neg (by simp_all)];exact⟨rfl,hw.done⟩
 ·try exact nv c15
  all_goals have hcv:CV n xs ys:=h7.1 (by simpa using g9);have hpl:=aBl (hcv.bv hb hb2) c15
  all_goals (refine mD ?_;refine eQ [(0,[]),(1,[]),(2,[]),(3,[]),(4,[]),(5,[1]),(6,[]),(7,[]),(8,[]),(9,[])] ?_;refine Kb8 ?_;refine aR ?_;refine cB (i:=5) (hq:=(cV (hc:=λ w1 hw=>sh hb2 i w1))) (h:=λ x21=>?_);refine J48 ?_;refine mg ?_)
  all_goals refine bJ results144 (λ w hw=>?_);rw[show Y0 n xs ys b i=some (xs.getD (iK b i) 0) from if_pos ⟨hcv,c15⟩];exact⟨rfl,hw.done⟩
end
end
section
def cn(b:Nat)(xs:List Int)(x:Option Addr×Nat):Nd:={Nd.zero with kind:=3,bm:=(b:Int),brA:=x.1,brN:=xs.length,brC:=x.2}
theorem aBF{b:Nat}{xs:List Int}(h:BV b xs)(x:Option Addr×Nat){p:Int}(hp:0<=p):CV {cn b xs x with prev:=p} xs [] :=⟨rfl,by simp[M8,Nd.own,Nd.oZ,Nd.lS,cn],by simp[cn,Nd.zero],hp,by simp[cn,Nd.zero],.inr (.inr (.inl ⟨rfl,by show(xs.length:Int)=Ef (b:Int);rw[vY h.lt,h.len],h.pos⟩))⟩
theorem aDm{b:Nat}{xs:List Int}(h:BV b xs)(x:Option Addr×Nat):CV (cn b xs x) xs []:=aBF h x (p:=0) (Int.le_refl _)
end
end Go.Proofs.YthblobahelfefaaGreatDoor
namespace Go.Ct
section
end
end Go.Ct
namespace Go.Proofs.YthblobahelfefaaGreatDoor
open Go.Proofs.Tryz
open Go.RowKit Go.Ct
section
end
section
section
variable{n s:Nd}{xs:List Int}{ys:List Pr}{w:World}{b:Nat}
def LV(n:Nd)(xs:List Int)(ys:List Pr):Prop:=n.kind=6/\eW n xs ys
theorem Ro(hr:Jy w n xs ys):Calls prog 280 #[n.v] w λ e w'=>∃r:Bool,e=.returned (.bool r)/\(r=true↔LV n xs ys)/\St w [] [] w':=by
 refine enter func280 ntmps280 rfl rfl (SF.s0 w) ?_;simp only[bY];simp only[Nd.v,Nd.cells];refine J0 ?_;refine bC (λ x1=>?_);refine J1 ?_;refine gP ?_;refine tL ?_;refine aD ?_;(refine kT 6 (λ g6=>?_) (λ g6=>?_)<;>refine Kb9 ?_);all_goals ((first|refine bG ?_|(refine aG ?_;refine aJ (c0 (V:=.bool) (hc:=λ w1 hw=>Km (n:=n) (hr.lB hw.done))) (λ x8 h8=>?_)));refine dG ?_;refine J1 ?_)
 all_goals
 refine aP results280 (λ w hw=>?_);refine⟨_,rfl,?_,hw.done⟩;simp_all[LV]
end
end
section
def grN(o:Option (List Pr))(h:Int)(x:Option Addr×Nat):Nd:=match o with|some m=>{Nd.zero with kind:=6,hash:=h,prA:=x.1,prN:=m.length,cY:=x.2}|none=>Nd.zero
def ie(o:Option (List Pr)):List Pr:=o.getD []
instance (n:Nd) (xs:List Int) (ys:List Pr):Decidable (LV n xs ys):=inferInstanceAs (Decidable (_/\_))
def iF(n:Nd)(xs:List Int)(ys:List Pr)(k:ByteArray)(v:Int):Option (List Pr):=if LV n xs ys/\k.size<=64 then some (Jo ys k v) else none
def aFV(w:World)(o:Option (List Pr))(h:Int)(e:Ending)(w':World):Prop:=∃x:Option Addr×Nat,e=.returned (.tuple #[(grN o h x).v,.bool o.isSome])/\(ie o).length<=x.2/\SF w [] [] [] [(x.1,cY (ie o))] [] w'
section
variable{n s:Nd}{xs:List Int}{ys:List Pr}{w:World}{b:Nat}
theorem Yq(k:ByteArray)(v:Int)(hr:Jy w n xs ys)(hc:ys.length<=n.cY)(hy:ys.length<=150000000000):Calls prog 253 #[n.v,.string k,.int .u64 v] w (aFV w (iF n xs ys k v) n.hash):=by
 have e2:=hr.prN;have hp:=We ys k v;refine enter func253 ntmps253 rfl rfl (SF.s1 hr.pr) ?_;simp only[bY]
 simp only[Nd.v,Nd.cells,e2];refine K1m ?_;intro x3;refine aI (λ x6=>?_);refine nN ?_;refine tB ?_;refine aJ (c0 (V:=.bool) (hc:=λ w1 hw=>by rw[<- e2];exact Ro (n:=n) (hr.lB hw.done))) (λ x9 h9=>?_);refine fl ?_;(refine kT 11 (λ g11=>?_) (λ g11=>?_)<;>refine Ka0 ?_);all_goals ((first|refine bG ?_|(refine aG ?_;refine lW ?_));refine vd ?_;refine aC ?_)
 all_goals
 refine aX (λ c15=>?_) (λ c15=>?_)
 ·all_goals (refine J0 ?_;refine bX ?_;refine J46 ?_)
  all_goals refine bJ results253 (λ w hw=>?_);rw[show iF n xs ys k v=none from if_neg (by rintro ⟨t1,t2⟩;have:=h9.2 t1;clear hw;first|omega|(simp_all;done))];exact⟨(none,0),rfl,Nat.le_refl _,(hw.aC3 none).fin⟩
 ·try exact nv c15
  all_goals (refine mD ?_;refine eQ [(0,[]),(1,[]),(2,[]),(3,[]),(4,[]),(5,[]),(6,[1]),(7,[]),(8,[]),(9,[])] ?_;refine Kb8 ?_;refine Bx ?_;refine bS (i:=6) (hq:=(cF (hc:=λ w1 hw=>yt (l:=ys) k v (hw.cl fin) hc (by omega)))) (h:=λ x23 h23=>?_);refine bS (i:=7) (hq:=(cF (hc:=λ w1 hw=>qe (h:=n.hash) (hw.cl fin) (by omega)))) (h:=λ x24 h24=>?_);refine J40 ?_)
  all_goals refine bJ results253 (λ w hw=>?_);rw[show iF n xs ys k v=some (Jo ys k v) from if_pos ⟨h9.1 (by clear hw;simp_all),by omega⟩];exact⟨(x24,(Jo ys k v).length),rfl,Nat.le_refl _,hw.fin⟩
end
end
end Go.Proofs.YthblobahelfefaaGreatDoor

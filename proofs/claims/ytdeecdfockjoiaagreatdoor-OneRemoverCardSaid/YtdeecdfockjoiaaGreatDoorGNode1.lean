/- Merged. -/
import Derived.Test.YtdeecdfockjoiaaGreatDoorGFun
import Derived.Test.YtdeecdfockjoiaaGreatDoorAuto
import Derived.Test.YtdeecdfockjoiaaGreatDoorGSlices
import Derived.Test.YtdeecdfockjoiaaGreatDoorGPa2
set_option linter.unusedSimpArgs false
set_option linter.unusedVariables false
namespace Go.Proofs.YtdeecdfockjoiaaGreatDoor
open Go.Proofs.Tryz
open Go.RowKit Go.Ct
section
theorem aCt(n:Nd)(w:World):Calls prog 263 #[n.v] w λ e w'=>e=.returned n.own.v/\St w [] [] w':=by
 refine enter func263 ntmps263 rfl rfl (SF.s0 w) ?_;simp only[cN];refine J0 ?_;refine bC (λ x1=>?_);refine aJ (λ x2=>?_);refine aE ?_;refine jN ?_;refine cI ?_;refine aJ (λ x3=>?_);refine J5 ?_;refine Ga ?_;refine Kb6 ?_;refine Oy ?_;refine Oy ?_;refine Oy ?_;refine Oy ?_;refine Oy ?_;refine Oy ?_;refine Oy ?_;refine aL ?_;refine Kd5 ?_;refine aX (λ c9=>?_) (λ c9=>?_);·refine K1z ?_;refine aL ?_;refine eO [(0,[]),(1,[]),(2,[]),(3,[]),(4,[]),(5,[3]),(6,[]),(7,[])] ?_;refine Kc6 ?_;refine bQ ?_;refine gm ?_;refine L8 ?_;refine K1z ?_;refine Ke7 ?_;refine bF results263 (λ w hw=>?_);exact⟨by simp only[Nd.own,beq_iff_eq, *,if_true,if_false];rfl,hw.done⟩
 ·refine lL ?_;refine kT ?_;refine aX (λ c11=>?_) (λ c11=>?_);·refine K1z ?_;refine K0r ?_;intro w hw;exact⟨by simp only[Nd.own,beq_iff_eq, *,if_true,if_false];rfl,hw.done⟩
  ·refine lL ?_;refine kT ?_;refine aX (λ c13=>?_) (λ c13=>?_);·refine K1z ?_;refine eC ?_;refine J3 ?_;refine Qd ?_;refine eN ?_;refine K0r ?_;intro w hw;exact⟨by simp only[Nd.own,beq_iff_eq, *,if_true,if_false];rfl,hw.done⟩
   ·refine lL ?_;refine kT ?_;refine aX (λ c15=>?_) (λ c15=>?_);·refine K1z ?_;refine K0r ?_;intro w hw;exact⟨by simp only[Nd.own,beq_iff_eq, *,if_true,if_false];rfl,hw.done⟩
    ·refine lL ?_;refine kT ?_;refine aX (λ c17=>?_) (λ c17=>?_);·refine K1z ?_;refine K0r ?_;intro w hw;exact⟨by simp only[Nd.own,beq_iff_eq, *,if_true,if_false];rfl,hw.done⟩
     ·refine lL ?_;refine kT ?_;refine aX (λ c19=>?_) (λ c19=>?_);·refine K1z ?_;refine eO [(0,[]),(1,[]),(2,[]),(3,[]),(4,[]),(5,[]),(6,[]),(7,[3,5]),(8,[]),(9,[5]),(10,[]),(11,[])] ?_;refine Kc6 ?_;refine hY ?_;refine bQ ?_;refine gm ?_;refine gm ?_;refine L8 ?_;refine eN ?_;refine jN ?_;refine Qd ?_;refine K1z ?_;refine Ke7 ?_;refine bF results263 (λ w hw=>?_);exact⟨by simp only[Nd.own,beq_iff_eq, *,if_true,if_false];rfl,hw.done⟩
      ·refine bG ?_;refine kT ?_;refine aX (λ c21=>?_) (λ c21=>?_);·refine K1z ?_;refine jN ?_;refine Qd ?_;refine K1z ?_;refine Ke7 ?_;refine bF results263 (λ w hw=>?_);exact⟨by simp only[Nd.own,beq_iff_eq, *,if_true,if_false];rfl,hw.done⟩
       ·refine bG ?_;refine K1z ?_;refine Ke7 ?_;refine bF results263 (λ w hw=>?_);exact⟨by simp only[Nd.own,beq_iff_eq, *,if_true,if_false];rfl,hw.done⟩
end
section
theorem aA3{a b:Nd}{x1 x2:List Int}{y1 y2:List Pr}{w:World}(ha:Cp w a x1 y1)(hb:Cp w b x2 y2) :
  Calls prog 262 #[a.v,b.v] w λ e w'=>∃r:Bool,e=.returned (.bool r)/\(r=true↔Kf a b x1 x2 y1 y2)/\St w [] [] w':=by
 have e1:=ha.brN;have e2:=hb.brN;have e3:=ha.prN;have e4:=hb.prN;refine enter func262 ntmps262 rfl rfl (SF.s0 w) ?_;simp only[cN]
 refine J0 ?_;refine bC (λ x2=>?_);refine bC (λ x3=>?_);refine lX ?_;refine Yp (by dsimp only[List.append]) ?_;refine J3 ?_;refine J3 ?_;refine Kb2 ?_;(refine mN 10 (λ g10=>?_) (λ g10=>?_)<;>refine Ka5 ?_);all_goals (refine Y1 ?_;refine Ke8 ?_)
 all_goals (first|refine aZ ?_|(refine mN 17 (λ g17=>?_) (λ g17=>?_)<;>refine Ka5 ?_))
 all_goals (refine Y1 ?_;refine Ke8 ?_)
 all_goals (first|refine aZ ?_|(refine mN 24 (λ g24=>?_) (λ g24=>?_)<;>refine Ka5 ?_))
 all_goals (refine Y1 ?_;refine Ke8 ?_)
 all_goals (first|refine aZ ?_|(refine mN 31 (λ g31=>?_) (λ g31=>?_)<;>refine Ka5 ?_))
 all_goals (refine Y1 ?_;(first|refine aZ ?_|(refine aF ?_;refine aH (cV (hc:=λ w1 hw=>by simp only[e1,e2];exact qs (ha.br.jR hw.st) (hb.br.jR hw.st) ha.brS)) (λ x36=>?_)));refine Kb3 ?_)
 all_goals (first|refine aZ ?_|(refine mN 38 (λ g38=>?_) (λ g38=>?_)<;>refine Ka5 ?_))
 all_goals (refine Y1 ?_;refine Ke8 ?_)
 all_goals (first|refine aZ ?_|(refine mN 45 (λ g45=>?_) (λ g45=>?_)<;>refine Ka5 ?_))
 all_goals (refine Y1 ?_;(first|refine aZ ?_|(refine aF ?_;refine xm ?_));refine Kb3 ?_)
 all_goals (first|refine aZ ?_|(refine mN 52 (λ g52=>?_) (λ g52=>?_)<;>refine Ka5 ?_))
 all_goals (refine Y1 ?_;refine Ke8 ?_)
 all_goals (first|refine aZ ?_|(refine mN 59 (λ g59=>?_) (λ g59=>?_)<;>refine Ka5 ?_))
 all_goals (refine Y1 ?_;(first|refine aZ ?_|(refine aF ?_;refine aH (cV (hc:=λ w1 hw=>by simp only[e3,e4];exact aAo (ha.pr.jR hw.st) (hb.pr.jR hw.st) ha.prS)) (λ x64=>?_)));refine Kb3 ?_)
 all_goals (first|refine aZ ?_|(refine mN 66 (λ g66=>?_) (λ g66=>?_)<;>refine Ka5 ?_))
 all_goals (refine Y1 ?_;refine Ke8 ?_)
 all_goals (first|refine aZ ?_|(refine mN 73 (λ g73=>?_) (λ g73=>?_)<;>refine Ka5 ?_))
 all_goals (refine Y1 ?_;refine Ke8 ?_)
 all_goals (first|refine aZ ?_|(refine mN 80 (λ g80=>?_) (λ g80=>?_)<;>refine Ka5 ?_))
 all_goals (refine Y1 ?_;refine Ke8 ?_)
 all_goals (first|refine aZ ?_|(refine mN 87 (λ g87=>?_) (λ g87=>?_)<;>refine Ka5 ?_))
 all_goals (refine Y1 ?_;refine Ke8 ?_)
 all_goals (first|refine aZ ?_|(refine mN 94 (λ g94=>?_) (λ g94=>?_)<;>refine Ka5 ?_))
 all_goals (refine Y1 ?_;refine Co ?_;refine J1 ?_)
 all_goals
 refine bJ results262 (λ w hw=>?_);exact⟨_,rfl,by simp_all[Kf],hw.done⟩
theorem fl(a:Nd)(w:World):Calls prog 179 #[a.v] w λ e w'=>∃r:Bool,e=.returned (.bool r)/\(r=true↔(a.kind=3∨a.kind=5∨a.kind=6))/\St w [] [] w':=by
 refine enter func179 ntmps179 rfl rfl (SF.s0 w) ?_;simp only[cN];refine J0 ?_;refine bC (λ x1=>?_);refine lX ?_;refine K3i ?_;refine aX (λ c5=>?_) (λ c5=>?_)
 ·refine bG ?_;refine aX (λ c5=>?_) (λ c5=>?_);·refine eD ?_;refine bJ results179 (λ w hw=>?_);exact⟨_,rfl,by simp_all,hw.done⟩
  ·refine Ke6 ?_;refine bJ results179 (λ w hw=>?_);exact⟨_,rfl,by simp_all,hw.done⟩
 ·refine kT ?_;refine aX (λ c5=>?_) (λ c5=>?_)
  ·refine bG ?_;refine aX (λ c5=>?_) (λ c5=>?_);·refine eD ?_;refine bJ results179 (λ w hw=>?_);exact⟨_,rfl,by simp_all,hw.done⟩
   ·refine Ke6 ?_;refine bJ results179 (λ w hw=>?_);exact⟨_,rfl,by simp_all,hw.done⟩
  ·refine eC ?_;refine Sx ?_;refine aX (λ c5=>?_) (λ c5=>?_);·refine eD ?_;refine bJ results179 (λ w hw=>?_);exact⟨_,rfl,by simp_all,hw.done⟩
   ·refine Ke6 ?_;refine bJ results179 (λ w hw=>?_);exact⟨_,rfl,by simp_all,hw.done⟩
end
section
theorem zp(b:Int)(w:World):Calls prog 266 #[.int .u64 b] w λ e w'=>e=.returned (.int .i64 (Ep b))/\St w [] [] w':=by refine enter func266 ntmps266 rfl rfl (SF.s0 w) ?_;simp only[cN];refine Kd3 ?_;refine Gu ?_;refine Es ?_;refine aB ?_;refine Es ?_;refine rQ ?_;refine Kb7 ?_;refine Gu ?_;refine Es ?_;refine aB ?_;refine Es ?_;refine rQ ?_;refine Kb7 ?_;refine Gu ?_;refine aB ?_;refine rQ ?_;refine Es ?_;refine Jo ?_;refine Gu ?_;refine rQ ?_;refine Jo ?_;refine Gu ?_;refine rQ ?_;refine Jo ?_;refine Gu ?_;refine rQ ?_;refine Kb7 ?_;refine fR ?_;refine Es ?_;refine J1 ?_;refine bJ results266 (λ w hw=>?_);exact⟨rfl,hw.done⟩
theorem Mf(b:Int)(w:World):Calls prog 215 #[.int .u64 b] w λ e w'=>e=.returned (.int .i64 (Ep b))/\St w [] [] w':=by refine enter func215 ntmps215 rfl rfl (SF.s0 w) ?_;simp only[cN];refine Kd3 ?_;refine aH (cV (hc:=λ w1 hw=>zp b w1)) (λ x4=>?_);refine J1 ?_;refine bJ results215 (λ w hw=>?_);exact⟨rfl,hw.done⟩
theorem Ll{n:Nd}{xs:List Int}{ys:List Pr}{w:World}(hr:Cp w n xs ys) :
  Calls prog 213 #[n.v] w λ e w'=>∃r:Bool,e=.returned (.bool r)/\(r=true↔fW n xs ys)/\St w [] [] w':=by
 have e1:=hr.brN;have e2:=hr.prN;refine enter func213 ntmps213 rfl rfl (SF.s0 w) ?_;simp only[cN]
 refine J0 ?_;refine bC (λ x1=>?_);refine lX ?_;refine aL ?_;refine eO [(0,[]),(1,[]),(2,[0]),(3,[]),(4,[])] ?_;refine bH ?_;refine bH ?_;refine bR (i:=2) (hq:=(cV (hc:=λ w1 hw=>aCt n w1))) (h:=λ x5=>?_);refine bE (i:=3) (hq:=(c0 (V:=.bool) (hc:=λ w1 hw=>aA3 (hr.jR hw.st) (hr.jR hw.st).own))) (h:=λ x6 h6=>?_);refine aCf ?_;refine dA ?_;refine aX (λ c7=>?_) (λ c7=>?_);·refine eD ?_;refine K3q ?_;intro w hw;refine⟨_,rfl,?_,hw.done⟩;(simp_all[fW];done)
 ·refine lL ?_;refine jN ?_;refine Ph ?_;(refine mN 11 (λ g11=>?_) (λ g11=>?_)<;>refine Ka5 ?_);all_goals (refine J89 ?_;refine aB ?_)
  all_goals (first|refine aZ ?_|(refine mN 16 (λ g16=>?_) (λ g16=>?_)<;>refine Ka5 ?_))
  all_goals (refine J89 ?_;refine aE ?_)
  all_goals
  refine aX (λ c20=>?_) (λ c20=>?_)
  ·all_goals refine eD ?_
   all_goals refine K3q ?_;intro w hw;refine⟨_,rfl,?_,hw.done⟩;(simp_all[fW];omega)
  ·try exact nv c20
   all_goals (refine lL ?_;refine jN ?_;refine Kb6 ?_;refine Oy ?_;refine Oy ?_;refine Oy ?_;refine Oy ?_;refine bB ?_;refine Oy ?_;refine Oy ?_;refine Oy ?_;refine aL ?_;refine Kd5 ?_)
   all_goals
    refine aX (λ c23=>?_) (λ c23=>?_);·refine K1z ?_;refine aL ?_;refine eD ?_;refine K3q ?_;intro w hw;refine⟨_,rfl,?_,hw.done⟩;(simp_all[fW];done)
    ·refine lL ?_;refine kT ?_;refine aX (λ c25=>?_) (λ c25=>?_);·refine K1z ?_;refine Ga ?_;refine iF ?_;refine J1 ?_;refine K3q ?_;intro w hw;refine⟨_,rfl,?_,hw.done⟩;(simp_all[fW];done)
     ·refine lL ?_;refine kT ?_;refine aX (λ c27=>?_) (λ c27=>?_)
      ·refine K1z ?_;refine aL ?_;refine aL ?_;refine eO [(0,[]),(1,[]),(2,[]),(3,[]),(4,[]),(5,[1]),(6,[]),(7,[]),(8,[]),(9,[]),(10,[]),(11,[]),(12,[])] ?_;refine hY ?_;refine Cb ?_;refine hY ?_;refine bR (i:=5) (hq:=(cV (hc:=λ w1 hw=>Mf n.bm w1))) (h:=λ x47=>?_);refine uB ?_;refine aP ?_;(refine rcs 49 (λ g49=>?_) (λ g49=>?_)<;>(first|refine kN ?_|(refine bQ ?_)));all_goals ((first|refine kN ?_|(refine bH ?_));(first|refine kN ?_|(refine bE (i:=10) (hq:=(c0 (V:=.bool) (hc:=λ w1 hw=>by rw[e1];exact Ut (hr.br.jR hw.st) hr.brS))) (h:=λ x52 h52=>?_)));refine jJ ?_;refine J7 ?_)
       all_goals
       refine K3q ?_;intro w hw;refine⟨_,rfl,?_,hw.done⟩;(simp_all[fW];done)
      ·refine lL ?_;refine kT ?_;refine aX (λ c29=>?_) (λ c29=>?_);·refine bg ?_;refine Ga ?_;refine pW ?_;refine yC ?_;refine J1 ?_;refine K3q ?_;intro w hw;refine⟨_,rfl,?_,hw.done⟩;(simp_all[fW];omega)
       ·refine lL ?_;refine kT ?_;refine aX (λ c31=>?_) (λ c31=>?_);·refine K1z ?_;refine Ga ?_;refine pW ?_;refine yC ?_;refine J1 ?_;refine K3q ?_;intro w hw;refine⟨_,rfl,?_,hw.done⟩;(simp_all[fW];omega)
        ·refine lL ?_;refine kT ?_;refine aX (λ c33=>?_) (λ c33=>?_)
         ·refine K1z ?_;refine Ga ?_;refine cP ?_;refine iF ?_;refine aB ?_;(refine mN 62 (λ g62=>?_) (λ g62=>?_)<;>refine Ka5 ?_);all_goals (refine Kf0 ?_;(first|refine aZ ?_|(refine aF ?_;refine aI (c0 (V:=.bool) (hc:=λ w1 hw=>by rw[e2];exact rS (hr.pr.jR hw.st) hr.prS)) (λ x65 h65=>?_)));refine Kb3 ?_)
          all_goals (first|refine aZ ?_|(refine mN 67 (λ g67=>?_) (λ g67=>?_)<;>refine Ka5 ?_))
          all_goals (refine Kf0 ?_;(first|refine aZ ?_|(refine aF ?_;refine aI (c0 (V:=.bool) (hc:=λ w1 hw=>by rw[e2];exact Pw (hr.pr.jR hw.st) hr.prS)) (λ x70 h70=>?_)));refine bY ?_;refine J1 ?_)
          all_goals
          refine K3q ?_;intro w hw;refine⟨_,rfl,?_,hw.done⟩;first|(simp_all[fW];done)|(simp_all[fW];omega)
         ·refine lL ?_;refine kT ?_;refine aX (λ c35=>?_) (λ c35=>?_)
          ·refine K1z ?_;refine jN ?_;refine Ph ?_;(refine mN 75 (λ g75=>?_) (λ g75=>?_)<;>refine Ka5 ?_);all_goals (refine J89 ?_;refine aE ?_)
           all_goals
           refine aX (λ c79=>?_) (λ c79=>?_)
           ·all_goals refine eD ?_
            all_goals refine K3q ?_;intro w hw;refine⟨_,rfl,?_,hw.done⟩;(simp_all[fW];omega)
           ·try exact nv c79
            all_goals (refine rL ?_;refine Ga ?_;refine iF ?_;refine J1 ?_)
            all_goals refine K3q ?_;intro w hw;refine⟨_,rfl,?_,hw.done⟩;(simp_all[fW];done)
          ·refine bG ?_;refine kT ?_;refine aX (λ c37=>?_) (λ c37=>?_);·refine K1z ?_;refine Ga ?_;refine iF ?_;refine J1 ?_;refine K3q ?_;intro w hw;refine⟨_,rfl,?_,hw.done⟩;(simp_all[fW];done)
           ·refine bG ?_;refine K1z ?_;refine eD ?_;refine K3q ?_;intro w hw;refine⟨_,rfl,?_,hw.done⟩;(simp_all[fW];done)
end
end Go.Proofs.YtdeecdfockjoiaaGreatDoor
namespace Go.Ct
open Go Go.RowKit
section
def sQ(n:Nat)(i:Int):Bool:=decide (0<=i)&&(decide (i<64)&&n.testBit i.toNat)
theorem N8(n:Nat){i:Int}(h0:0<=i)(h1:i<64):sQ n i=n.testBit i.toNat:=by simp[sQ,h0,h1]
theorem rm{n:Nat}(hn:n<18446744073709551616){i:Int}(h0:0<=i)(h1:i<64):(oN .u64 (oK .u64 (n:Int) i) 1==1)=sQ n i:=by
 obtain⟨k,rfl⟩:=Int.eq_ofNat_of_zero_le h0;rw[N8 n h0 h1,oE (by omega)];have h2:oN .u64 ((n >>> k:Nat):Int) 1=(((n >>> k) &&& 1:Nat):Int):=oD (Nat.lt_of_le_of_lt (Nat.shiftRight_le _ _) hn) (m:=1) (by decide);rw[h2];simp only[Int.toNat_natCast,Nat.testBit,Nat.and_comm 1]
 rw[Nat.and_one_is_mod];rcases Nat.mod_two_eq_zero_or_one (n >>> k) with h|h<;>rw[h]<;>rfl
def iD(n:Nat)(i:Int):Nat:=jG n (min i.toNat 64)
theorem mb(n:Nat){i:Nat}:∀k,i<=k->jG (n &&& (2^i-1)) k=jG n i:=by
 intro k hk;obtain⟨d,rfl⟩:=Nat.exists_eq_add_of_le hk;clear hk;induction d with
 | zero=>exact Eb λ j hj=>by rw[Nat.testBit_and,Nat.testBit_two_pow_sub_one];simp;intro _;omega
 | succ d ih=>rw[<- Nat.add_assoc];simp only[jG,ih,Nat.testBit_and,Nat.testBit_two_pow_sub_one];simp
theorem uh{n:Nat}(hn:n<18446744073709551616){i:Int}(h0:0<i)(h1:i<64):Ep (oN .u64 (n:Int) (IntKind.u64.wrap (M1 .u64 1 i-1)))=((iD n i:Nat):Int):=by
 obtain⟨k,rfl⟩:=Int.eq_ofNat_of_zero_le (Int.le_of_lt h0);have hp:=Nat.pow_lt_pow_right (a:=2) (by decide) (show k<64 by omega);have hp0:=Nat.two_pow_pos k;rw[Hf (by omega)];have e:((2^k:Nat):Int)-1=((2^k-1:Nat):Int):=by omega
 rw[e,lF (by omega),oD hn (by omega),xD (Nat.lt_of_le_of_lt Nat.and_le_left hn),mb n 64 (by omega)];unfold iD;rw[Int.toNat_natCast,Nat.min_eq_left (by omega)]
def eI(n:Nat)(i:Int):Nat:=if 0<=i/\i<64 then n ||| 2^i.toNat else n
def kG(n:Nat)(i:Int):Nat:=if 0<=i/\i<64 then n ^^^ (n &&& 2^i.toNat) else n
theorem jw{n:Nat}(hn:n<18446744073709551616){i:Int}(h0:0<=i)(h1:i<64):rOr .u64 (n:Int) (M1 .u64 1 i)=((eI n i:Nat):Int):=by obtain⟨k,rfl⟩:=Int.eq_ofNat_of_zero_le h0;have hp:=Nat.pow_lt_pow_right (a:=2) (by decide) (show k<64 by omega);rw[Hf (by omega),vt hn (by omega),eI,if_pos ⟨h0,h1⟩];rfl
theorem Qw{n:Nat}(hn:n<18446744073709551616){i:Int}(h0:0<=i)(h1:i<64):Cc .u64 (n:Int) (M1 .u64 1 i)=((kG n i:Nat):Int):=by
 obtain⟨k,rfl⟩:=Int.eq_ofNat_of_zero_le h0;have hp:=Nat.pow_lt_pow_right (a:=2) (by decide) (show k<64 by omega);rw[Hf (by omega),kG,if_pos ⟨h0,h1⟩,Int.toNat_natCast];unfold Cc;have e:(BitVec.ofInt IntKind.u64.bits (n:Int) &&& ~~~ BitVec.ofInt IntKind.u64.bits ((2^k:Nat):Int)).toNat=n ^^^ (n &&& 2^k):=by
  refine Nat.eq_of_testBit_eq λ j=>?_;have b1:=vN n hn;have b2:=vN (2^k) (by omega);rw[BitVec.testBit_toNat,BitVec.getLsbD_and,BitVec.getLsbD_not,<- BitVec.testBit_toNat,<- BitVec.testBit_toNat,b1,b2,Nat.testBit_xor,Nat.testBit_and];by_cases hj:j<64
  ·have:decide (j<IntKind.u64.bits)=true:=decide_eq_true hj;rw[this];cases n.testBit j<;>cases (2^k).testBit j<;>rfl
  ·have:n.testBit j=false:=Nat.testBit_lt_two_pow (Nat.lt_of_lt_of_le hn (Nat.pow_le_pow_right (n:=2) (by decide) (show 64<=j by omega)));rw[this];rfl
 rw[e];refine lF (Nat.xor_lt_two_pow (n:=64) hn (Nat.lt_of_le_of_lt Nat.and_le_left hn))
theorem A7{n:Nat}(hn:n<18446744073709551616)(i:Int):eI n i<18446744073709551616:=by
 unfold eI;split;·rename_i h;have hp:=Nat.pow_lt_pow_right (a:=2) (by decide) (show i.toNat<64 by omega);exact Nat.or_lt_two_pow (n:=64) hn hp
 ·exact hn
end
end Go.Ct
namespace Go.Proofs.YtdeecdfockjoiaaGreatDoor
open Go.Proofs.Tryz
open Go.RowKit Go.Ct
section
variable{n:Nat}
theorem Dz(i:Int)(w:World):Calls prog 214 #[.int .i64 i] w λ e w'=>e=.returned (.bool (decide (0<=i/\i<64)))/\St w [] [] w':=by
 refine enter func214 ntmps214 rfl rfl (SF.s0 w) ?_;simp only[cN];refine Kd3 ?_;refine iF ?_;refine aB ?_;(refine mN 5 (λ g5=>?_) (λ g5=>?_)<;>refine Ka3 ?_);all_goals (refine Cn ?_;refine J1 ?_)
 all_goals
 refine bJ results214 (λ w hw=>?_);first|(rw[decide_eq_false (by omega)];exact⟨rfl,hw.done⟩)|(rw[show decide (0<=i/\i<64)=decide (i<64) by simp;omega];exact⟨rfl,hw.done⟩)
theorem W8(hn:n<18446744073709551616)(i:Int)(w:World):Calls prog 174 #[.int .u64 (n:Int),.int .i64 i] w λ e w'=>e=.returned (.bool (sQ n i))/\St w [] [] w':=by
 refine enter func174 ntmps174 rfl rfl (SF.s0 w) ?_;simp only[cN];refine Kd3 ?_;refine aH (cV (hc:=λ w1 hw=>Dz i w1)) (λ x6=>?_);refine aB ?_;(refine mN 7 (λ g7=>?_) (λ g7=>?_)<;>refine Ka3 ?_);all_goals (refine Ka3 ?_;(first|refine aZ ?_|(refine aF ?_;refine fR ?_));(first|refine aZ ?_|(refine aF ?_;refine Gu ?_));(first|refine aZ ?_|(refine aF ?_;refine Es ?_));refine Co ?_;refine J1 ?_)
 all_goals
 refine bJ results174 (λ w hw=>?_);first|(rw[<- rm hn (by omega) (by omega)];exact⟨rfl,hw.done⟩)|(rw[show sQ n i=false by simp[sQ];omega];exact⟨rfl,hw.done⟩)
theorem n9(hn:n<18446744073709551616)(w:World):Calls prog 215 #[.int .u64 (n:Int)] w λ e w'=>e=.returned (.int .i64 ((jG n 64:Nat):Int))/\St w [] [] w':=by rw[<- xD hn];exact Mf _ w
theorem Xp(hn:n<18446744073709551616)(i:Int)(w:World):Calls prog 175 #[.int .u64 (n:Int),.int .i64 i] w λ e w'=>e=.returned (.int .i64 ((iD n i:Nat):Int))/\St w [] [] w':=by
 refine enter func175 ntmps175 rfl rfl (SF.s0 w) ?_;simp only[cN];refine Ka9 ?_;refine yC ?_;refine aE ?_;refine aX (λ c6=>?_) (λ c6=>?_);·refine eD ?_;refine bJ results175 (λ w hw=>?_);(rw[show iD n i=0 by unfold iD;rw[show min i.toNat 64=0 by omega];rfl];exact⟨rfl,hw.done⟩)
 ·refine lL ?_;refine J2 ?_;refine iF ?_;refine aE ?_;refine aX (λ c8=>?_) (λ c8=>?_);·refine J2 ?_;(refine aH (by exact cV (hc:=λ w1 hw=>n9 hn w1)) (λ x10=>?_));refine J1 ?_;refine bJ results175 (λ w hw=>?_);(rw[show iD n i=jG n 64 by unfold iD;congr 1;omega];exact⟨rfl,hw.done⟩)
  ·refine yO ?_;refine fR ?_;refine n8 ?_;refine y7 ?_;refine Es ?_;(refine aH (by exact cV (hc:=λ w1 hw=>Mf (oN .u64 (n:Int) (IntKind.u64.wrap (M1 .u64 1 i-1))) w1)) (λ x17=>?_));refine J1 ?_;refine bJ results175 (λ w hw=>?_);(rw[<- uh hn (by omega) (by omega)];exact⟨rfl,hw.done⟩)
theorem aAK(hn:n<18446744073709551616)(i:Int)(w:World):Calls prog 300 #[.int .u64 (n:Int),.int .i64 i] w λ e w'=>e=.returned (.int .u64 ((eI n i:Nat):Int))/\St w [] [] w':=by
 refine enter func300 ntmps300 rfl rfl (SF.s0 w) ?_;simp only[cN];refine Ka9 ?_;refine aH (cV (hc:=λ w1 hw=>Dz i w1)) (λ x6=>?_);refine pU ?_;refine aX (λ c7=>?_) (λ c7=>?_);·refine Kd6 ?_;refine bJ results300 (λ w hw=>?_);(rw[show eI n i=n by unfold eI;rw[if_neg (by omega)]];exact⟨rfl,hw.done⟩)
 ·refine yO ?_;refine fR ?_;refine n8 ?_;refine aDE ?_;refine J1 ?_;refine bJ results300 (λ w hw=>?_);(rw[<- jw hn (by omega) (by omega)];exact⟨rfl,hw.done⟩)
theorem Zo(hn:n<18446744073709551616)(i:Int)(w:World):Calls prog 310 #[.int .u64 (n:Int),.int .i64 i] w λ e w'=>e=.returned (.int .u64 ((kG n i:Nat):Int))/\St w [] [] w':=by
 refine enter func310 ntmps310 rfl rfl (SF.s0 w) ?_;simp only[cN];refine Ka9 ?_;refine aH (cV (hc:=λ w1 hw=>Dz i w1)) (λ x6=>?_);refine pU ?_;refine aX (λ c7=>?_) (λ c7=>?_);·refine Kd6 ?_;refine bJ results310 (λ w hw=>?_);(rw[show kG n i=n by unfold kG;rw[if_neg (by omega)]];exact⟨rfl,hw.done⟩)
 ·refine yO ?_;refine fR ?_;refine n8 ?_;refine nl ?_;refine J1 ?_;refine bJ results310 (λ w hw=>?_);(rw[<- Qw hn (by omega) (by omega)];exact⟨rfl,hw.done⟩)
end
end Go.Proofs.YtdeecdfockjoiaaGreatDoor
namespace Go.Ct
open Go Go.RowKit
section
def G8(b:Nat)(xs:List Int)(k:Nat):Option Int:=if b.testBit k=true then some (xs.getD (jG b k) 0) else none
def bOf(m:Nat->Option Int):Nat->Nat
 | 0=>0
 | k+1=>if(m k).isSome=true then bOf m k ||| 2^k else bOf m k
def lOf(m:Nat->Option Int):Nat->List Int
 | 0=>[]
 | k+1=>lOf m k++(m k).toList
def yz(m:Nat->Option Int)(i:Nat)(o:Option Int)(k:Nat):Option Int:=if k=i then o else m k
structure BV(b:Nat)(xs:List Int):Prop where
 lt:b<18446744073709551616
 len:xs.length=jG b 64
 pos:∀i,i<xs.length->1<=xs.getD i 0
theorem vf(m:Nat->Option Int)(j:Nat):∀k,(bOf m k).testBit j=(decide (j<k)&&(m j).isSome)
 | 0=>by simp[bOf]
 | k+1=>by
  have ih:=vf m j k;simp only[bOf];by_cases hjk:j=k
  ·subst hjk;by_cases h:(m j).isSome=true;·rw[if_pos h,Nat.testBit_or,Nat.testBit_two_pow];simp[h]
   ·rw[if_neg h,ih];simp at h;simp[h]
  ·have h2:(2^k).testBit j=false:=by rw[Nat.testBit_two_pow];exact decide_eq_false (λ h=>hjk h.symm)
   split;·rw[Nat.testBit_or,ih,h2,Bool.or_false];congr 1;exact decide_eq_decide.2 (by omega)
   ·rw[ih];congr 1;exact decide_eq_decide.2 (by omega)
theorem vS(b:Nat)(k:Nat):∀d,jG b k<=jG b (k+d)
 | 0=>Nat.le_refl _
 | d+1=>by have:=vS b k d;rw[<- Nat.add_assoc];simp only[jG];omega
theorem pY{b k n:Nat}(h:k<n)(hb:b.testBit k=true):jG b k<jG b n:=by obtain⟨d,rfl⟩:=Nat.exists_eq_add_of_le (Nat.succ_le_of_lt h);have:=vS b (k+1) d;simp only[jG,hb,if_true] at this;exact this
theorem wv{b:Nat}{xs:List Int}(h:xs.length=jG b 64):∀k,k<=64->lOf (G8 b xs) k=xs.take (jG b k)
 | 0,_=>by simp[lOf,jG]
 | k+1,hk=>by
  have ih:=wv h k (by omega);simp only[lOf,ih,G8,jG];split;·rename_i hb;have:=pY (n:=64) (by omega) hb;rw[List.take_add_one,Option.toList,Gp,List.getElem?_eq_getElem (by omega)];rfl
  ·simp
theorem Jh{b b' i:Nat}(h:b.testBit i=false)(hb:∀j,j<64->b'.testBit j=(b.testBit j||decide (j=i))):∀k,k<=64->jG b' k=jG b k+if i<k then 1 else 0
 | 0,_=>rfl
 | k+1,hk=>by
  have ih:=Jh h hb k (by omega);simp only[jG,ih,hb k (by omega)];by_cases hki:k=i;·subst hki;simp[h]
  ·have:decide (k=i)=false:=decide_eq_false hki;rw[this,Bool.or_false];have e:(i<k+1)↔(i<k):=by omega
   simp only[e];omega
def tW(xs:List Int)(p:Nat)(r:Int):List Int:=xs.take p++r::xs.drop p
def Ds(xs:List Int)(p:Nat)(r:Int):List Int:=xs.take p++r::xs.drop (p+1)
def D3(xs:List Int)(p:Nat):List Int:=xs.take p++xs.drop (p+1)
variable{xs:List Int}{p:Nat}
theorem Rh(hp:p<=xs.length)(r:Int):(tW xs p r).length=xs.length+1:=by simp[tW];omega
theorem R0(hp:p<xs.length)(r:Int):(Ds xs p r).length=xs.length:=by simp[Ds];omega
theorem P6(hp:p<xs.length):(D3 xs p).length+1=xs.length:=by simp[D3];omega
theorem Yc(hp:p<=xs.length)(r:Int)(q:Nat):(tW xs p r).getD q 0=if q<p then xs.getD q 0 else if q=p then r else xs.getD (q-1) 0:=by
 simp only[tW,Gp];by_cases h1:q<p;·rw[if_pos h1,List.getElem?_append_left (by simp;omega),List.getElem?_take_of_lt h1]
 ·rw[if_neg h1,List.getElem?_append_right (by simp;omega)];have:(xs.take p).length=p:=by simp;omega
  rw[this];by_cases h2:q=p;·subst h2;simp
  ·obtain⟨d,hd⟩:∃d,q-p=d+1:=⟨q-p-1,by omega⟩;rw[if_neg h2,hd,List.getElem?_cons_succ,List.getElem?_drop];congr 2;omega
theorem Vv(hp:p<xs.length)(r:Int)(q:Nat):(Ds xs p r).getD q 0=if q=p then r else xs.getD q 0:=by
 simp only[Ds,Gp];by_cases h1:q<p;·rw[if_neg (by omega),List.getElem?_append_left (by simp;omega),List.getElem?_take_of_lt h1]
 ·rw[List.getElem?_append_right (by simp;omega)];have:(xs.take p).length=p:=by simp;omega
  rw[this];by_cases h2:q=p;·subst h2;simp
  ·obtain⟨d,hd⟩:∃d,q-p=d+1:=⟨q-p-1,by omega⟩;rw[if_neg h2,hd,List.getElem?_cons_succ,List.getElem?_drop];congr 2;omega
theorem W3(hp:p<xs.length)(q:Nat):(D3 xs p).getD q 0=if q<p then xs.getD q 0 else xs.getD (q+1) 0:=by
 simp only[D3,Gp];by_cases h1:q<p;·rw[if_pos h1,List.getElem?_append_left (by simp;omega),List.getElem?_take_of_lt h1]
 ·rw[if_neg h1,List.getElem?_append_right (by simp;omega)];have:(xs.take p).length=p:=by simp;omega
  rw[this,List.getElem?_drop];congr 2;omega
theorem Dx{ys:List Int}(h:∀i,i<xs.length->1<=xs.getD i 0)(hy:∀j,j<ys.length->1<=ys.getD j 0∨∃i,i<xs.length/\ys.getD j 0=xs.getD i 0):∀j,j<ys.length->1<=ys.getD j 0:=λ j hj=>by
 rcases hy j hj with h1|⟨i,hi,he⟩;·exact h1
 ·rw[he];exact h i hi
section
variable{b i:Nat}{xs:List Int}{r:Int}
theorem R1(b i:Nat)(j:Nat):(b ||| 2^i).testBit j=(b.testBit j||decide (j=i)):=by rw[Nat.testBit_or,Nat.testBit_two_pow];congr 1;exact decide_eq_decide.2 eq_comm
theorem vV(b i:Nat)(j:Nat):(b ^^^ (b &&& 2^i)).testBit j=(b.testBit j&&!decide (j=i)):=by rw[Nat.testBit_xor,Nat.testBit_and,Nat.testBit_two_pow];have:decide (i=j)=decide (j=i):=decide_eq_decide.2 eq_comm;rw[this];cases b.testBit j<;>cases decide (j=i)<;>rfl
theorem Ob(h:BV b xs)(hi:i<64)(hb:b.testBit i=false)(hr:1<=r):BV (b ||| 2^i) (tW xs (jG b i) r)/\∀k,k<64->G8 (b ||| 2^i) (tW xs (jG b i) r) k=yz (G8 b xs) i (some r) k:=by
 have hc:=Jh hb (λ j _=>R1 b i j)
 have hp:jG b i<=xs.length:=by obtain⟨d,hd⟩:=Nat.exists_eq_add_of_le (Nat.le_of_lt hi);rw[h.len,hd];exact vS b i d
 refine⟨⟨Nat.or_lt_two_pow (n:=64) h.lt (Nat.pow_lt_pow_right (a:=2) (by decide) hi),?_,Dx h.pos λ j hj=>?_⟩,λ k hk=>?_⟩;·rw[Rh hp,hc 64 (Nat.le_refl _),if_pos hi,h.len]
 ·rw[Rh hp] at hj;rw[Yc hp];by_cases h1:j<jG b i;·rw[if_pos h1];exact .inr ⟨j,by omega,rfl⟩
  ·rw[if_neg h1];by_cases h2:j=jG b i;·rw[if_pos h2];exact .inl hr
   ·rw[if_neg h2];exact .inr ⟨j-1,by omega,rfl⟩
 ·simp only[G8,yz];rw[R1,hc k (by omega),Yc hp];by_cases hki:k=i;·subst hki;simp
  ·rw[if_neg hki,decide_eq_false hki,Bool.or_false];by_cases hbk:b.testBit k=true
   ·rw[if_pos hbk,if_pos hbk];congr 1;by_cases hlt:k<i;·have:=pY hlt hbk;rw[if_neg (show ¬i<k by omega),if_pos (by omega)];rfl
    ·have:jG b i<=jG b k:=by obtain⟨d,hd⟩:=Nat.exists_eq_add_of_le (show i<=k by omega);rw[hd];exact vS b i d
     rw[if_pos (show i<k by omega),if_neg (by omega),if_neg (by omega)];rfl
   ·rw[if_neg hbk,if_neg hbk]
theorem eb(h:BV b xs)(hi:i<64)(hb:b.testBit i=true)(hr:1<=r):BV b (Ds xs (jG b i) r)/\∀k,k<64->G8 b (Ds xs (jG b i) r) k=yz (G8 b xs) i (some r) k:=by
 have hp:jG b i<xs.length:=by rw[h.len];exact pY hi hb
 refine⟨⟨h.lt,by rw[R0 hp,h.len],Dx h.pos λ j hj=>?_⟩,λ k hk=>?_⟩
 ·rw[R0 hp] at hj;rw[Vv hp];by_cases h2:j=jG b i;·rw[if_pos h2];exact .inl hr
  ·rw[if_neg h2];exact .inr ⟨j,hj,rfl⟩
 ·simp only[G8,yz];rw[Vv hp];by_cases hki:k=i;·subst hki;rw[if_pos hb,if_pos rfl,if_pos rfl]
  ·rw[if_neg hki];by_cases hbk:b.testBit k=true
   ·rw[if_pos hbk,if_pos hbk,if_neg];rcases Nat.lt_or_gt_of_ne hki with hlt|hlt;·have:=pY hlt hbk;omega
    ·have:=pY hlt hb;omega
   ·rw[if_neg hbk,if_neg hbk]
theorem gq(h:BV b xs)(hi:i<64)(hb:b.testBit i=true):BV (b ^^^ (b &&& 2^i)) (D3 xs (jG b i))/\∀k,k<64->G8 (b ^^^ (b &&& 2^i)) (D3 xs (jG b i)) k=yz (G8 b xs) i none k:=by
 have hp:jG b i<xs.length:=by rw[h.len];exact pY hi hb
 have hb':(b ^^^ (b &&& 2^i)).testBit i=false:=by rw[vV];simp
 have hc:=Jh (b':=b) hb' (λ j _=>by
  rw[vV];by_cases hji:j=i;·subst hji;simp[hb]
  ·rw[decide_eq_false hji];simp)
 refine⟨⟨Nat.xor_lt_two_pow (n:=64) h.lt (Nat.lt_of_le_of_lt Nat.and_le_left h.lt),?_,Dx h.pos λ j hj=>?_⟩,λ k hk=>?_⟩;·have:=P6 hp;have:=hc 64 (Nat.le_refl _);rw[if_pos hi] at this;have:=h.len;omega
 ·have:=P6 hp;rw[W3 hp];by_cases h1:j<jG b i;·rw[if_pos h1];exact .inr ⟨j,by omega,rfl⟩
  ·rw[if_neg h1];exact .inr ⟨j+1,by omega,rfl⟩
 ·simp only[G8,yz];have hck:=hc k (by omega);rw[vV,W3 hp];by_cases hki:k=i;·subst hki;simp
  ·rw[if_neg hki,decide_eq_false hki,Bool.not_false,Bool.and_true];by_cases hbk:b.testBit k=true
   ·rw[if_pos hbk,if_pos hbk];congr 1;by_cases hlt:k<i;·have:=pY hlt hbk;rw[if_neg (show ¬i<k by omega)] at hck;rw[if_pos (by omega),hck];rfl
    ·have:=pY (show i<k by omega) hb;rw[if_pos (show i<k by omega)] at hck;rw[if_neg (by omega),hck]
   ·rw[if_neg hbk,if_neg hbk]
end
end
end Go.Ct

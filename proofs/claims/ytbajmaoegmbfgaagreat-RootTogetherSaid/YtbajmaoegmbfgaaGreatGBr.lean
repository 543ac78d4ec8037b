/- C-nodes are maps: the plain laws. -/
import Derived.Test.YtbajmaoegmbfgaaGreatGBitsE
import Derived.Test.YtbajmaoegmbfgaaGreatAuto

set_option linter.unusedSimpArgs false
set_option linter.unusedVariables false
namespace Go.Ct
section
open Go Go.RowKit
def sO(b:Nat)(xs:List Int)(k:Nat):Option Int:=if b.testBit k=true then some (xs.getD (gH b k) 0) else none
def Be(m:Nat->Option Int):Nat->Nat
 | 0=>0
 | k+1=>if(m k).isSome=true then Be m k ||| 2^k else Be m k
def qW(m:Nat->Option Int):Nat->List Int
 | 0=>[]
 | k+1=>qW m k++(m k).toList
def Mz(m:Nat->Option Int)(i:Nat)(o:Option Int)(k:Nat):Option Int:=if k=i then o else m k
structure BV(b:Nat)(xs:List Int):Prop where
 lt:b<18446744073709551616
 len:xs.length=gH b 64
 pos:∀i,i<xs.length->1<=xs.getD i 0
theorem Um(m:Nat->Option Int)(j:Nat):∀k,(Be m k).testBit j=(decide (j<k)&&(m j).isSome)
 | 0=>by simp[Be]
 | k+1=>by
  have ih:=Um m j k
  simp only[Be]
  by_cases hjk:j=k
  ·subst hjk
   by_cases h:(m j).isSome=true
   ·rw[if_pos h,Nat.testBit_or,Nat.testBit_two_pow];simp[h]
   ·rw[if_neg h,ih];simp at h;simp[h]
  ·have h2:(2^k).testBit j=false:=by rw[Nat.testBit_two_pow];exact decide_eq_false (λ h=>hjk h.symm)
   split
   ·rw[Nat.testBit_or,ih,h2,Bool.or_false]
    congr 1
    exact decide_eq_decide.2 (by omega)
   ·rw[ih]
    congr 1
    exact decide_eq_decide.2 (by omega)
theorem di(m:Nat->Option Int):∀k,Be m k<2^k
 | 0=>by simp[Be]
 | k+1=>by
  have ih:=di m k
  have h2:2^(k+1)=2^k+2^k:=by rw[Nat.pow_succ];omega
  simp only[Be]
  split
  ·refine Nat.or_lt_two_pow (by omega) ?_
   have:=Nat.two_pow_pos k
   omega
  ·omega
theorem Br{xs:List Int}{i:Nat}(h:i<xs.length):xs.getD i 0∈xs:=by
 rw[kH,List.getElem?_eq_getElem h]
 exact List.getElem_mem h
theorem P6{m m':Nat->Option Int}:∀n,(∀k,k<n->m k=m' k)->Be m n=Be m' n/\qW m n=qW m' n
 | 0,_=>⟨rfl,rfl⟩
 | n+1,h=>by
  obtain⟨h1,h2⟩:=P6 n λ k hk=>h k (by omega)
  simp only[Be,qW,h1,h2,h n (by omega),and_self]
theorem wB(b:Nat)(k:Nat):∀d,gH b k<=gH b (k+d)
 | 0=>Nat.le_refl _
 | d+1=>by have:=wB b k d;rw[<- Nat.add_assoc];simp only[gH];omega
theorem nZ{b k n:Nat}(h:k<n)(hb:b.testBit k=true):gH b k<gH b n:=by
 obtain⟨d,rfl⟩:=Nat.exists_eq_add_of_le (Nat.succ_le_of_lt h)
 have:=wB b (k+1) d
 simp only[gH,hb,if_true] at this
 exact this
theorem U0{b:Nat}{xs:List Int}(h:xs.length=gH b 64):∀k,k<=64->qW (sO b xs) k=xs.take (gH b k)
 | 0,_=>by simp[qW,gH]
 | k+1,hk=>by
  have ih:=U0 h k (by omega)
  simp only[qW,ih,sO,gH]
  split
  ·rename_i hb
   have:=nZ (n:=64) (by omega) hb
   rw[List.take_add_one,Option.toList,kH,List.getElem?_eq_getElem (by omega)]
   rfl
  ·simp
theorem cx{b:Nat}{xs:List Int}(h:BV b xs):Be (sO b xs) 64=b/\qW (sO b xs) 64=xs:=by
 refine⟨Nat.eq_of_testBit_eq λ j=>?_,?_⟩
 ·rw[Um]
  by_cases hj:j<64
  ·rw[decide_eq_true hj,Bool.true_and]
   unfold sO
   cases hb:b.testBit j<;>simp
  ·rw[decide_eq_false hj,Bool.false_and]
   exact(Nat.testBit_lt_two_pow (Nat.lt_of_lt_of_le h.lt (Nat.pow_le_pow_right (n:=2) (by decide) (show 64<=j by omega)))).symm
 ·rw[U0 h.len 64 (Nat.le_refl _),<- h.len,List.take_length]
theorem Bd{b b' i:Nat}(h:b.testBit i=false)(hb:∀j,j<64->b'.testBit j=(b.testBit j||decide (j=i))):∀k,k<=64->gH b' k=gH b k+if i<k then 1 else 0
 | 0,_=>rfl
 | k+1,hk=>by
  have ih:=Bd h hb k (by omega)
  simp only[gH,ih,hb k (by omega)]
  by_cases hki:k=i
  ·subst hki
   simp[h]
  ·have:decide (k=i)=false:=decide_eq_false hki
   rw[this,Bool.or_false]
   have e:(i<k+1)↔(i<k):=by omega
   simp only[e]
   omega
def wD(xs:List Int)(p:Nat)(r:Int):List Int:=xs.take p++r::xs.drop p
def zJ(xs:List Int)(p:Nat)(r:Int):List Int:=xs.take p++r::xs.drop (p+1)
def rV(xs:List Int)(p:Nat):List Int:=xs.take p++xs.drop (p+1)
theorem Ff{xs:List Int}{p:Nat}(hp:p<=xs.length)(r:Int):(wD xs p r).length=xs.length+1:=by
 simp[wD];omega
theorem vG{xs:List Int}{p:Nat}(hp:p<xs.length)(r:Int):(zJ xs p r).length=xs.length:=by
 simp[zJ];omega
theorem Hi{xs:List Int}{p:Nat}(hp:p<xs.length):(rV xs p).length+1=xs.length:=by
 simp[rV];omega
theorem Vs{xs:List Int}{p:Nat}(hp:p<=xs.length)(r:Int)(q:Nat):(wD xs p r).getD q 0=if q<p then xs.getD q 0 else if q=p then r else xs.getD (q-1) 0:=by
 simp only[wD,kH]
 by_cases h1:q<p
 ·rw[if_pos h1,List.getElem?_append_left (by simp;omega),List.getElem?_take_of_lt h1]
 ·rw[if_neg h1,List.getElem?_append_right (by simp;omega)]
  have:(xs.take p).length=p:=by simp;omega
  rw[this]
  by_cases h2:q=p
  ·subst h2;simp
  ·obtain⟨d,hd⟩:∃d,q-p=d+1:=⟨q-p-1,by omega⟩
   rw[if_neg h2,hd,List.getElem?_cons_succ,List.getElem?_drop]
   congr 2
   omega
theorem Mh{xs:List Int}{p:Nat}(hp:p<xs.length)(r:Int)(q:Nat):(zJ xs p r).getD q 0=if q=p then r else xs.getD q 0:=by
 simp only[zJ,kH]
 by_cases h1:q<p
 ·rw[if_neg (by omega),List.getElem?_append_left (by simp;omega),List.getElem?_take_of_lt h1]
 ·rw[List.getElem?_append_right (by simp;omega)]
  have:(xs.take p).length=p:=by simp;omega
  rw[this]
  by_cases h2:q=p
  ·subst h2;simp
  ·obtain⟨d,hd⟩:∃d,q-p=d+1:=⟨q-p-1,by omega⟩
   rw[if_neg h2,hd,List.getElem?_cons_succ,List.getElem?_drop]
   congr 2
   omega
theorem Uf{xs:List Int}{p:Nat}(hp:p<xs.length)(q:Nat):(rV xs p).getD q 0=if q<p then xs.getD q 0 else xs.getD (q+1) 0:=by
 simp only[rV,kH]
 by_cases h1:q<p
 ·rw[if_pos h1,List.getElem?_append_left (by simp;omega),List.getElem?_take_of_lt h1]
 ·rw[if_neg h1,List.getElem?_append_right (by simp;omega)]
  have:(xs.take p).length=p:=by simp;omega
  rw[this,List.getElem?_drop]
  congr 2
  omega
theorem Bh{xs ys:List Int}(h:∀i,i<xs.length->1<=xs.getD i 0)(hy:∀j,j<ys.length->1<=ys.getD j 0∨∃i,i<xs.length/\ys.getD j 0=xs.getD i 0):∀j,j<ys.length->1<=ys.getD j 0:=λ j hj=>by
 rcases hy j hj with h1|⟨i,hi,he⟩
 ·exact h1
 ·rw[he];exact h i hi
section
variable{b i:Nat}{xs:List Int}{r:Int}
theorem Ah(b i:Nat)(j:Nat):(b ||| 2^i).testBit j=(b.testBit j||decide (j=i)):=by
 rw[Nat.testBit_or,Nat.testBit_two_pow]
 congr 1
 exact decide_eq_decide.2 eq_comm
theorem vB(b i:Nat)(j:Nat):(b ^^^ (b &&& 2^i)).testBit j=(b.testBit j&&!decide (j=i)):=by
 rw[Nat.testBit_xor,Nat.testBit_and,Nat.testBit_two_pow]
 have:decide (i=j)=decide (j=i):=decide_eq_decide.2 eq_comm
 rw[this]
 cases b.testBit j<;>cases decide (j=i)<;>rfl
theorem Ga(h:BV b xs)(hi:i<64)(hb:b.testBit i=false)(hr:1<=r):BV (b ||| 2^i) (wD xs (gH b i) r)/\∀k,k<64->sO (b ||| 2^i) (wD xs (gH b i) r) k=Mz (sO b xs) i (some r) k:=by
 have hc:=Bd hb (λ j _=>Ah b i j)
 have hp:gH b i<=xs.length:=by
  obtain⟨d,hd⟩:=Nat.exists_eq_add_of_le (Nat.le_of_lt hi)
  rw[h.len,hd]
  exact wB b i d
 refine⟨⟨Nat.or_lt_two_pow (n:=64) h.lt (Nat.pow_lt_pow_right (a:=2) (by decide) hi),?_,Bh h.pos λ j hj=>?_⟩,λ k hk=>?_⟩
 ·rw[Ff hp,hc 64 (Nat.le_refl _),if_pos hi,h.len]
 ·rw[Ff hp] at hj
  rw[Vs hp]
  by_cases h1:j<gH b i
  ·rw[if_pos h1];exact .inr ⟨j,by omega,rfl⟩
  ·rw[if_neg h1]
   by_cases h2:j=gH b i
   ·rw[if_pos h2];exact .inl hr
   ·rw[if_neg h2];exact .inr ⟨j-1,by omega,rfl⟩
 ·simp only[sO,Mz]
  rw[Ah,hc k (by omega),Vs hp]
  by_cases hki:k=i
  ·subst hki;simp
  ·rw[if_neg hki,decide_eq_false hki,Bool.or_false]
   by_cases hbk:b.testBit k=true
   ·rw[if_pos hbk,if_pos hbk]
    congr 1
    by_cases hlt:k<i
    ·have:=nZ hlt hbk
     rw[if_neg (show ¬i<k by omega),if_pos (by omega)]
     rfl
    ·have:gH b i<=gH b k:=by
      obtain⟨d,hd⟩:=Nat.exists_eq_add_of_le (show i<=k by omega)
      rw[hd];exact wB b i d
     rw[if_pos (show i<k by omega),if_neg (by omega),if_neg (by omega)]
     rfl
   ·rw[if_neg hbk,if_neg hbk]
theorem S6(h:BV b xs)(hi:i<64)(hb:b.testBit i=true)(hr:1<=r):BV b (zJ xs (gH b i) r)/\∀k,k<64->sO b (zJ xs (gH b i) r) k=Mz (sO b xs) i (some r) k:=by
 have hp:gH b i<xs.length:=by rw[h.len];exact nZ hi hb
 refine⟨⟨h.lt,by rw[vG hp,h.len],Bh h.pos λ j hj=>?_⟩,λ k hk=>?_⟩
 ·rw[vG hp] at hj
  rw[Mh hp]
  by_cases h2:j=gH b i
  ·rw[if_pos h2];exact .inl hr
  ·rw[if_neg h2];exact .inr ⟨j,hj,rfl⟩
 ·simp only[sO,Mz]
  rw[Mh hp]
  by_cases hki:k=i
  ·subst hki;rw[if_pos hb,if_pos rfl,if_pos rfl]
  ·rw[if_neg hki]
   by_cases hbk:b.testBit k=true
   ·rw[if_pos hbk,if_pos hbk,if_neg]
    rcases Nat.lt_or_gt_of_ne hki with hlt|hlt
    ·have:=nZ hlt hbk;omega
    ·have:=nZ hlt hb;omega
   ·rw[if_neg hbk,if_neg hbk]
theorem R9(h:BV b xs)(hi:i<64)(hb:b.testBit i=true):BV (b ^^^ (b &&& 2^i)) (rV xs (gH b i))/\∀k,k<64->sO (b ^^^ (b &&& 2^i)) (rV xs (gH b i)) k=Mz (sO b xs) i none k:=by
 have hp:gH b i<xs.length:=by rw[h.len];exact nZ hi hb
 have hb':(b ^^^ (b &&& 2^i)).testBit i=false:=by rw[vB];simp
 have hc:=Bd (b':=b) hb' (λ j _=>by
  rw[vB]
  by_cases hji:j=i
  ·subst hji;simp[hb]
  ·rw[decide_eq_false hji];simp)
 refine⟨⟨Nat.xor_lt_two_pow (n:=64) h.lt (Nat.lt_of_le_of_lt Nat.and_le_left h.lt),?_,Bh h.pos λ j hj=>?_⟩,λ k hk=>?_⟩
 ·have:=Hi hp
  have:=hc 64 (Nat.le_refl _)
  rw[if_pos hi] at this
  have:=h.len
  omega
 ·have:=Hi hp
  rw[Uf hp]
  by_cases h1:j<gH b i
  ·rw[if_pos h1];exact .inr ⟨j,by omega,rfl⟩
  ·rw[if_neg h1];exact .inr ⟨j+1,by omega,rfl⟩
 ·simp only[sO,Mz]
  have hck:=hc k (by omega)
  rw[vB,Uf hp]
  by_cases hki:k=i
  ·subst hki;simp
  ·rw[if_neg hki,decide_eq_false hki,Bool.not_false,Bool.and_true]
   by_cases hbk:b.testBit k=true
   ·rw[if_pos hbk,if_pos hbk]
    congr 1
    by_cases hlt:k<i
    ·have:=nZ hlt hbk
     rw[if_neg (show ¬i<k by omega)] at hck
     rw[if_pos (by omega),hck]
     rfl
    ·have:=nZ (show i<k by omega) hb
     rw[if_pos (show i<k by omega)] at hck
     rw[if_neg (by omega),hck]
   ·rw[if_neg hbk,if_neg hbk]
end
end

/- What is known of a list, in short. -/
section
open Go Go.RowKit
variable{w0 w:World}{M:List Nat}{H:List (Nat×Obj)}{A F:Fr}{O:List Ow}
end
end Go.Ct
namespace Go.Proofs.YtbajmaoegmbfgaaGreat
section
open Go.RowKit Go.Ct
theorem zE{n:Nd}{xs:List Int}{ys:List Pr}(h:n.kind=3)(hv:cA n xs ys):(xs.length:Int)=yN n.bm/\Pos xs:=by
 obtain⟨_,_,_,_,hv⟩:=hv
 rcases hv with h1|⟨h1,_⟩|⟨_,h2,h3⟩|⟨h1|h1,_⟩|⟨h1,_⟩|⟨h1,_⟩|⟨h1,_⟩
 all_goals first|exact⟨h2,h3⟩|(rw[h] at h1;exact absurd h1 (by decide))
end

/- The reference's Valid. -/
section
open Go.RowKit Go.Ct
theorem yc (n : Nd) (h1 : 1 ≤ n.kind) (h8 : n.kind ≤ 8) (w : World) : Calls Tryz.prog 169 #[n.v] w fun e w' => e = .returned n.own.v ∧ St w [] [] w' := by
  refine enter Tryz.func169 Tryz.ntmps169 rfl rfl (SF.s0 w) ?_
  simp only [bX]
  refine J0 ?_; refine bL (fun x1 => ?_); refine aI (fun x2 => ?_); refine aG ?_; refine D7 ?_; refine aG ?_; refine cZ ?_; refine lM ?_
  refine bC (fun c5 => ?_) (fun c5 => ?_)
  · refine gM ?_; refine uO ?_
    refine bB Tryz.results169 (fun w hw => ?_)
    (exact ⟨by simp only [Nd.own, beq_iff_eq, *, if_true, if_false]; rfl, hw.done⟩)
  · refine lM ?_
    refine bC (fun c10 => ?_) (fun c10 => ?_)
    · refine gM ?_; refine J3 ?_; refine J3 ?_; refine uO ?_
      refine bB Tryz.results169 (fun w hw => ?_)
      (exact ⟨by simp only [Nd.own, beq_iff_eq, *, if_true, if_false]; rfl, hw.done⟩)
    · refine lM ?_
      refine bC (fun c19 => ?_) (fun c19 => ?_)
      · refine gM ?_; refine J3 ?_; refine J3 ?_; refine J3 ?_; refine uO ?_
        refine bB Tryz.results169 (fun w hw => ?_)
        (exact ⟨by simp only [Nd.own, beq_iff_eq, *, if_true, if_false]; rfl, hw.done⟩)
      · refine lM ?_
        refine bC (fun c30 => ?_) (fun c30 => ?_)
        · refine gM ?_; refine J3 ?_; refine J3 ?_; refine J3 ?_; refine uO ?_
          refine bB Tryz.results169 (fun w hw => ?_)
          (exact ⟨by simp only [Nd.own, beq_iff_eq, *, if_true, if_false]; rfl, hw.done⟩)
        · refine lM ?_
          refine bC (fun c41 => ?_) (fun c41 => ?_)
          · refine gM ?_; refine J3 ?_; refine J3 ?_; refine J3 ?_; refine J3 ?_; refine uO ?_
            refine bB Tryz.results169 (fun w hw => ?_)
            (exact ⟨by simp only [Nd.own, beq_iff_eq, *, if_true, if_false]; rfl, hw.done⟩)
          · refine lM ?_
            refine bC (fun c54 => ?_) (fun c54 => ?_)
            · refine gM ?_; refine J3 ?_; refine J3 ?_; refine J3 ?_; refine uO ?_
              refine bB Tryz.results169 (fun w hw => ?_)
              (exact ⟨by simp only [Nd.own, beq_iff_eq, *, if_true, if_false]; rfl, hw.done⟩)
            · refine lM ?_
              refine bC (fun c65 => ?_) (fun c65 => ?_)
              · refine gM ?_; refine J3 ?_; refine uO ?_
                refine bB Tryz.results169 (fun w hw => ?_)
                (exact ⟨by simp only [Nd.own, beq_iff_eq, *, if_true, if_false]; rfl, hw.done⟩)
              · refine lM ?_
                refine bC (fun c72 => ?_) (fun c72 => ?_)
                · refine gM ?_; refine J3 ?_; refine J3 ?_; refine J3 ?_; refine J3 ?_; refine uO ?_
                  refine bB Tryz.results169 (fun w hw => ?_)
                  (exact ⟨by simp only [Nd.own, beq_iff_eq, *, if_true, if_false]; rfl, hw.done⟩)
                · refine oF ?_; refine J0 ?_; refine uO ?_
                  refine bB Tryz.results169 (fun w hw => ?_)
                  (exfalso; omega)
theorem gv{n:Nd}{xs:List Int}{ys:List Pr}(h:n.kind=3){k:Nat}(hk:k<xs.length)(hx:xs.getD k 0<1):false=true↔cA n xs ys:=by
 simp only[Bool.false_eq_true,false_iff]
 intro hv
 have:=(zE h hv).2 k hk
 omega
theorem qd{n:Nd}{xs:List Int}{ys:List Pr}{c:Int}(h:n.kind=3)(he:rT n n.own xs (n.jM xs) ys (n.jC ys))(h1:0<=n.main)(h2:0<=n.prev)(h3:0<=n.status)(eo:yN n.bm=c)(hp:Pos xs):((xs.length:Int)==c)=true↔cA n xs ys:=by
 rw[beq_iff_eq,<- eo]
 exact⟨λ hl=>⟨he,h1,h2,h3,.inr (.inr (.inl ⟨h,hl,hp⟩))⟩,λ hv=>(zE h hv).1⟩
theorem zP{n:Nd}{xs:List Int}{ys:List Pr}{w:World}{b:Nat}(hb:n.bm=(b:Int))(hb2:b<18446744073709551616)(hr:rK w n xs ys) :
  Calls Tryz.prog 126 #[n.v] w λ e w'=>∃r:Bool,e=.returned (.bool r)/\(r=true↔cA n xs ys)/\St w [] [] w':=by
 have e1:=hr.brN;have e2:=hr.prN
 obtain⟨kind,gen,main,bm,brA,brN,brC,hash,key,val,prA,prN,prK,prev,bD,exp,new,status⟩:=n
 simp only at e1 e2 hb
 subst e1 e2 hb
 have eo:yN (b:Int)=((gH b 64:Nat):Int):=wY hb2
 have hxl:=hr.brS
 refine enter Tryz.func126 Tryz.ntmps126 rfl rfl (SF.s2 hr.br hr.pr) ?_
 simp only[bX]
 simp only[Nd.v,Nd.cells]
 refine J0 ?_;refine bL (λ x1=>?_);refine hZ ?_;refine aT ?_;refine dV [(0,[]),(1,[]),(2,[]),(3,[]),(4,[]),(5,[]),(6,[]),(7,[]),(8,[]),(9,[]),(10,[]),(11,[9]),(12,[]),(13,[]),(14,[]),(15,[]),(16,[]),(17,[]),(18,[]),(19,[]),(20,[]),(21,[]),(22,[]),(23,[]),(24,[]),(25,[]),(26,[]),(27,[]),(28,[]),(29,[])] ?_;refine nS ?_;refine Bc ?_;refine aM ?_
 (refine Y0 7 (λ g7=>?_) (λ g7=>?_)<;>(first|refine cU ?_|(refine aQ ?_)))
 all_goals ((first|refine cU ?_|(refine bK ?_));(first|refine cU ?_|(refine z7 ?_));refine eD ?_;refine aM ?_)
 all_goals (first|refine cU ?_|(refine Y0 12 (λ g12=>?_) (λ g12=>?_)<;>(first|refine cU ?_|(refine bK ?_))))
 all_goals ((first|refine cU ?_|(refine bK ?_));(first|refine cU ?_|(refine cB (i:=11) (hq:=(cV (hc:=λ w1 hw=>yc (⟨kind,gen,main,(b:Int),brA,xs.length,brC,hash,key,val,prA,ys.length,prK,prev,bD,exp,new,status⟩:Nd) (show(1:Int)<=kind by omega) (show kind<=8 by omega) w1))) (h:=λ x15=>?_)));(first|refine cU ?_|(refine aZ (i:=12) (hq:=(c0 (V:=.bool) (hc:=λ w1 hw=>V2 (a:=(⟨kind,gen,main,(b:Int),brA,xs.length,brC,hash,key,val,prA,ys.length,prK,prev,bD,exp,new,status⟩:Nd)) (b:=((⟨kind,gen,main,(b:Int),brA,xs.length,brC,hash,key,val,prA,ys.length,prK,prev,bD,exp,new,status⟩:Nd)).own) (hr.fT hw.done) (hr.fT hw.done).own))) (h:=λ x16 h16=>?_)));(first|refine cU ?_|(refine Fl ?_));refine eD ?_;refine aM ?_)
 all_goals (first|refine cU ?_|(refine Y0 19 (λ g19=>?_) (λ g19=>?_)<;>(first|refine cU ?_|(refine aQ ?_))))
 all_goals ((first|refine cU ?_|(refine bK ?_));(first|refine cU ?_|(refine Bc ?_));refine eD ?_;refine aM ?_)
 all_goals (first|refine cU ?_|(refine Y0 24 (λ g24=>?_) (λ g24=>?_)<;>(first|refine cU ?_|(refine aQ ?_))))
 all_goals ((first|refine cU ?_|(refine bK ?_));(first|refine cU ?_|(refine Bc ?_));refine eD ?_;refine aM ?_)
 all_goals (first|refine cU ?_|(refine Y0 29 (λ g29=>?_) (λ g29=>?_)<;>(first|refine cU ?_|(refine aQ ?_))))
 all_goals ((first|refine cU ?_|(refine bK ?_));(first|refine cU ?_|(refine Bc ?_));refine eD ?_;refine eA ?_)
 all_goals
 refine bC (λ c33=>?_) (λ c33=>?_)
 ·all_goals refine cR ?_
  all_goals
   refine aR Tryz.results126 (λ w hw=>?_)
   refine⟨_,rfl,?_,hw.done⟩
   first|(simp_all[cA];done)|(simp_all[cA];omega)
 ·try exact nv c33
  all_goals (refine kG ?_;refine gM ?_;refine aG ?_;refine cZ ?_;refine lM ?_)
  all_goals
   refine bC (λ c36=>?_) (λ c36=>?_)
   ·refine gM ?_;refine nI ?_;refine J1 ?_
    refine aR Tryz.results126 (λ w hw=>?_)
    refine⟨_,rfl,?_,hw.done⟩
    (simp_all[cA];done)
   ·refine lM ?_
    refine bC (λ c41=>?_) (λ c41=>?_)
    ·refine aT ?_;refine En ?_
     refine fN [2,3,43,44,45,46,47,48,49,50,51,52,53,54,55] (λ k=>[(3,.int .i64 ((k:Nat):Int))]) (λ k=>k<=xs.length/\∀i,i<k->1<=xs.getD i 0) (λ k=>xs.length-k) (0) (⟨Nat.zero_le _,λ i hi=>absurd hi (Nat.not_lt_zero i)⟩) ?_ (λ k f hx=>?_)
     ·repeat (first|exact bJ _|refine bE (by exact rfl) ?_)
     dsimp only[gP,List.map,List.cons_append,List.nil_append]
     refine kY ?_;refine Nk ?_;refine yU ?_
     refine bC (λ c47=>?_) (λ c47=>?_)
     ·refine qG ?_;refine gM ?_;refine aA ?_;refine Qp ?_;refine yU ?_
      refine bC (λ c55=>?_) (λ c55=>?_)
      ·refine cR ?_
       refine aR Tryz.results126 (λ w hw=>?_)
       refine⟨_,rfl,?_,hw.done⟩
       exact gv c41 (k:=k) (by omega) (by assumption)
      ·refine oF ?_;refine xV ?_
       refine eJ (k+1) ?_ ?_ ?_
       ·omega
       ·repeat' (first|exact bJ _|refine bE ?_ ?_)
        exact rfl
       ·exact⟨by omega,λ i hi=>by rcases Nat.lt_succ_iff_lt_or_eq.1 hi with h|rfl;exact hx.2 i h;omega⟩
     ·refine bO rfl ?_;refine aT ?_;refine dV [(0,[]),(1,[]),(2,[]),(3,[]),(4,[]),(5,[1]),(6,[]),(7,[])] ?_;refine nS ?_;refine oG ?_;refine nS ?_;refine cB (i:=5) (hq:=(cV (hc:=λ w1 hw=>Rg hb2 w1))) (h:=λ x61=>?_);refine lT ?_;refine J7 ?_
      refine aR Tryz.results126 (λ w hw=>?_)
      refine⟨_,rfl,?_,hw.done⟩
      exact qd c41 (h16.1 (by simpa using g19)) (show 0<=main by omega) (show 0<=prev by omega) (show 0<=status by omega) eo (λ i hi=>hx.2 i (by omega))
    ·refine aT ?_;refine lM ?_
     refine bC (λ c63=>?_) (λ c63=>?_)
     ·refine aX ?_
      refine bC (λ c63=>?_) (λ c63=>?_)
      ·refine gM ?_;refine lX ?_;refine Ba ?_;refine J1 ?_
       refine aR Tryz.results126 (λ w hw=>?_)
       refine⟨_,rfl,?_,hw.done⟩
       (simp_all[cA];omega)
      ·refine lM ?_
       refine bC (λ c70=>?_) (λ c70=>?_)
       ·refine gM ?_;refine dE ?_;refine nI ?_;refine aA ?_
        (refine eI 76 (λ g76=>?_) (λ g76=>?_)<;>(first|refine aJ ?_|(refine aF ?_;refine aE ?_)))
        all_goals ((first|refine aJ ?_|(refine aF ?_;refine bN ?_));(first|refine aJ ?_|(refine aF ?_;refine aC (c0 (V:=.bool) (hc:=λ w1 hw=>lY (hw.cl fin) hr.prS)) (λ x79 h79=>?_)));refine cJ ?_;refine aA ?_)
        all_goals (first|refine aJ ?_|(refine eI 81 (λ g81=>?_) (λ g81=>?_)<;>(first|refine aJ ?_|(refine aF ?_;refine aE ?_))))
        all_goals ((first|refine aJ ?_|(refine aF ?_;refine bN ?_));(first|refine aJ ?_|(refine aF ?_;refine aC (c0 (V:=.bool) (hc:=λ w1 hw=>av (hw.cl fin) hr.prS)) (λ x84 h84=>?_)));refine cJ ?_;refine J1 ?_)
        all_goals
        refine aR Tryz.results126 (λ w hw=>?_)
        refine⟨_,rfl,?_,hw.done⟩
        (simp_all[cA];done)
       ·refine lM ?_
        refine bC (λ c86=>?_) (λ c86=>?_)
        ·refine gM ?_;refine nI ?_;refine J1 ?_
         refine aR Tryz.results126 (λ w hw=>?_)
         refine⟨_,rfl,?_,hw.done⟩
         (simp_all[cA];done)
        ·refine lM ?_
         refine bC (λ c91=>?_) (λ c91=>?_)
         ·refine gM ?_;refine nI ?_;refine aA ?_
          (refine eI 96 (λ g96=>?_) (λ g96=>?_)<;>(first|refine aJ ?_|(refine aF ?_;refine aE ?_)))
          all_goals (refine J86 ?_;refine cJ ?_;refine aA ?_)
          all_goals (first|refine aJ ?_|(refine eI 101 (λ g101=>?_) (λ g101=>?_)<;>(first|refine aJ ?_|(refine aF ?_;refine aE ?_))))
          all_goals (refine J86 ?_;refine cJ ?_;refine J1 ?_)
          all_goals
          refine aR Tryz.results126 (λ w hw=>?_)
          refine⟨_,rfl,?_,hw.done⟩
          (simp_all[cA];done)
         ·refine oF ?_;refine cR ?_
          refine aR Tryz.results126 (λ w hw=>?_)
          refine⟨_,rfl,?_,hw.done⟩
          (simp_all[cA];done)
     ·refine dG ?_;refine Qq ?_
      refine bC (λ c63=>?_) (λ c63=>?_)
      ·refine gM ?_;refine lX ?_;refine Ba ?_;refine J1 ?_
       refine aR Tryz.results126 (λ w hw=>?_)
       refine⟨_,rfl,?_,hw.done⟩
       (simp_all[cA];omega)
      ·refine lM ?_
       refine bC (λ c70=>?_) (λ c70=>?_)
       ·refine gM ?_;refine dE ?_;refine nI ?_;refine aA ?_
        (refine eI 76 (λ g76=>?_) (λ g76=>?_)<;>(first|refine aJ ?_|(refine aF ?_;refine aE ?_)))
        all_goals ((first|refine aJ ?_|(refine aF ?_;refine bN ?_));(first|refine aJ ?_|(refine aF ?_;refine aC (c0 (V:=.bool) (hc:=λ w1 hw=>lY (hw.cl fin) hr.prS)) (λ x79 h79=>?_)));refine cJ ?_;refine aA ?_)
        all_goals (first|refine aJ ?_|(refine eI 81 (λ g81=>?_) (λ g81=>?_)<;>(first|refine aJ ?_|(refine aF ?_;refine aE ?_))))
        all_goals ((first|refine aJ ?_|(refine aF ?_;refine bN ?_));(first|refine aJ ?_|(refine aF ?_;refine aC (c0 (V:=.bool) (hc:=λ w1 hw=>av (hw.cl fin) hr.prS)) (λ x84 h84=>?_)));refine cJ ?_;refine J1 ?_)
        all_goals
        refine aR Tryz.results126 (λ w hw=>?_)
        refine⟨_,rfl,?_,hw.done⟩
        first|(simp_all[cA];done)|(simp_all[cA];omega)
       ·refine lM ?_
        refine bC (λ c86=>?_) (λ c86=>?_)
        ·refine gM ?_;refine nI ?_;refine J1 ?_
         refine aR Tryz.results126 (λ w hw=>?_)
         refine⟨_,rfl,?_,hw.done⟩
         (simp_all[cA];done)
        ·refine lM ?_
         refine bC (λ c91=>?_) (λ c91=>?_)
         ·refine gM ?_;refine nI ?_;refine aA ?_
          (refine eI 96 (λ g96=>?_) (λ g96=>?_)<;>(first|refine aJ ?_|(refine aF ?_;refine aE ?_)))
          all_goals (refine J86 ?_;refine cJ ?_;refine aA ?_)
          all_goals (first|refine aJ ?_|(refine eI 101 (λ g101=>?_) (λ g101=>?_)<;>(first|refine aJ ?_|(refine aF ?_;refine aE ?_))))
          all_goals (refine J86 ?_;refine cJ ?_;refine J1 ?_)
          all_goals
          refine aR Tryz.results126 (λ w hw=>?_)
          refine⟨_,rfl,?_,hw.done⟩
          first|(simp_all[cA];done)|(simp_all[cA];omega)
         ·refine oF ?_;refine cR ?_
          refine aR Tryz.results126 (λ w hw=>?_)
          refine⟨_,rfl,?_,hw.done⟩
          (simp_all[cA];omega)
end

end Go.Proofs.YtbajmaoegmbfgaaGreat

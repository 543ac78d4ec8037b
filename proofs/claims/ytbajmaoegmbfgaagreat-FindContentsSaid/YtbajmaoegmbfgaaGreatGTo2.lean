/- Merged. -/
import Derived.Test.YtbajmaoegmbfgaaGreatGPa1
import Derived.Test.YtbajmaoegmbfgaaGreatGNode2
import Derived.Test.YtbajmaoegmbfgaaGreatGJoin
import Derived.Test.YtbajmaoegmbfgaaGreatGAr8
set_option linter.unusedSimpArgs false
set_option linter.unusedVariables false
namespace Go.Proofs.YtbajmaoegmbfgaaGreat
open Go.Proofs.Tryz
section
open Go.RowKit Go.Ct
def sb(o:Option (List Pr))(h:Int)(x:Option Addr×Nat):Nd:=match o with|some m=>{Nd.zero with kind:=6,hash:=h,prA:=x.1,prN:=m.length,dF:=x.2}|none=>Nd.zero
def di(o:Option (List Pr)):List Pr:=o.getD []
def Ph(o:Option (List Pr))(h:Int)(x:Option Addr×Nat):Nd:=match o with|some m=>if m.length=1 then{Nd.zero with kind:=5,hash:=h,key:=(m.getD 0 (⟨#[]⟩,0)).1,val:=(m.getD 0 (⟨#[]⟩,0)).2} else{Nd.zero with kind:=6,hash:=h,prA:=x.1,prN:=m.length,dF:=x.2}|none=>Nd.zero
def Jv(o:Option (List Pr)):List Pr:=match o with|some m=>if m.length=1 then [] else m|none=>[]
open Classical in
noncomputable def lS (n:Nd) (xs:List Int) (ys:List Pr) (k:ByteArray) (v:Int):Option (List Pr):=if LV n xs ys/\k.size<=64 then some (Rr ys k v) else none
open Classical in
noncomputable def rC (n:Nd) (xs:List Int) (ys:List Pr) (k:ByteArray):Option (List Pr):=if LV n xs ys/\(cL ys k).isSome=true then some (sW ys k) else none
def aCC(w:World)(o:Option (List Pr))(h:Int)(e:Ending)(w':World):Prop:=∃x:Option Addr×Nat,e=.returned (.tuple #[(sb o h x).v,.bool o.isSome])/\(di o).length<=x.2/\SF w [] [] [] [(x.1,dF (di o))] [] w'
def aCD(w:World)(o:Option (List Pr))(h:Int)(e:Ending)(w':World):Prop:=∃x:Option Addr×Nat,e=.returned (.tuple #[(Ph o h x).v,.bool o.isSome])/\(Jv o).length<=x.2/\SF w [] [] [] [(x.1,dF (Jv o))] [] w'
section
variable{n s:Nd}{xs:List Int}{ys:List Pr}{w:World}{b:Nat}
theorem Tn(k:ByteArray)(v:Int)(hb:n.bm=(b:Int))(hb2:b<18446744073709551616)(hr:sG w n xs ys)(hy:ys.length<=150000000000):Calls prog 247 #[n.v,.string k,.int .u64 v] w (aCC w (lS n xs ys k v) n.hash):=by
 have e2:=hr.prN;refine enter func247 ntmps247 rfl rfl (SF.s1 hr.pr) ?_;simp only[cC]
 simp only[Nd.v,Nd.cells,e2];refine K1m ?_;intro x3;refine aJ (λ x6=>?_);refine jG ?_;refine nJ ?_;refine aD (c0 (V:=.bool) (hc:=λ w1 hw=>by rw[<- e2];exact S3 (n:=n) hb hb2 (hr.gB hw.done))) (λ x9 h9=>?_);refine Cr ?_;(refine eE 11 (λ g11=>?_) (λ g11=>?_)<;>refine Ka0 ?_);all_goals ((first|refine aI ?_|(refine aF ?_;refine kW ?_));refine Ka8 ?_)
 all_goals
 refine bD (λ c15=>?_) (λ c15=>?_)
 ·all_goals (refine J0 ?_;refine bM ?_;refine E8 ?_)
  all_goals refine aZ results247 (λ w hw=>?_);rw[show lS n xs ys k v=none from if_neg (by rintro ⟨t1,t2⟩;have:=h9.2 t1;clear hw;first|omega|(simp_all;done))];exact⟨(none,0),rfl,Nat.le_refl _,(hw.Oj none).fin⟩
 ·try exact nv c15
  all_goals (refine lB ?_;refine eI [(0,[]),(1,[]),(2,[]),(3,[]),(4,[]),(5,[]),(6,[1]),(7,[]),(8,[]),(9,[])] ?_;refine mE ?_;refine mE ?_;refine iW ?_;refine bI (i:=6) (hq:=(cF (hc:=λ w1 hw=>dr (l:=ys) k v (hw.cl fin) (by omega)))) (h:=λ x23 h23=>?_);refine gM ?_;refine C1 ?_)
  all_goals refine aZ results247 (λ w hw=>?_);rw[show lS n xs ys k v=some (Rr ys k v) from if_pos ⟨h9.1 (by clear hw;simp_all),by omega⟩];exact⟨x23,rfl,h23,hw.fin⟩
theorem Q6(k:ByteArray)(hb:n.bm=(b:Int))(hb2:b<18446744073709551616)(hr:sG w n xs ys)(hy:ys.length<=150000000000):Calls prog 251 #[n.v,.string k] w (aCD w (rC n xs ys k) n.hash):=by
 have e2:=hr.prN;refine enter func251 ntmps251 rfl rfl (SF.s1 hr.pr) ?_;simp only[cC]
 simp only[Nd.v,Nd.cells,e2];refine J0 ?_;refine bJ (λ x2=>?_);refine aJ (λ x4=>?_);refine jG ?_;refine Kc8 ?_;refine aP (cV (hc:=λ w1 hw=>Dh (l:=ys) k (hw.cl fin) (by omega))) (λ x13=>?_);refine K0c ?_;refine J8 ?_;refine nJ ?_;refine aD (c0 (V:=.bool) (hc:=λ w1 hw=>by rw[<- e2];exact S3 (n:=n) hb hb2 (hr.gB hw.done))) (λ x17 h17=>?_);refine Cr ?_;(refine eE 19 (λ g19=>?_) (λ g19=>?_)<;>refine Ka0 ?_);all_goals (refine Kc2 ?_)
 all_goals
 refine bD (λ c22=>?_) (λ c22=>?_)
 ·all_goals (refine J0 ?_;refine bM ?_;refine E8 ?_)
  all_goals refine aZ results251 (λ w hw=>?_);rw[show rC n xs ys k=none from if_neg (by rintro ⟨t1,t2⟩;have:=h17.2 t1;clear hw;simp_all)];exact⟨(none,0),rfl,Nat.le_refl _,(hw.Oj none).fin⟩
 ·try exact nv c22
  all_goals (refine aW ?_;refine Kc8 ?_;refine aD (cF (hc:=λ w1 hw=>Z1 (l:=ys) k (hw.cl fin) (by omega))) (λ x27 h27=>?_);refine Kd9 ?_;refine dV ?_;refine tG ?_)
  all_goals
   refine bD (λ c30=>?_) (λ c30=>?_)
   ·refine aT ?_;refine gH [0,1,2,3,4,5,6,7,8,9,10,11,12] ?_;refine Ke0 ?_;refine bU (i:=3) (hq:=(H9 (k:=0) rf rf gS eD fin (by omega) (by omega))) (h:=?_);refine Ke0 ?_;refine bU (i:=7) (hq:=(H9 (k:=0) rf rf gS eD fin (by omega) (by omega))) (h:=?_);refine aY ?_;refine bU (i:=9) (hq:=(R8 (q:=0) (lst:=sW ys k) rf fW fin (by omega))) (h:=?_);refine gM ?_;refine C1 ?_;refine aZ results251 (λ w hw=>?_);have e1:(sW ys k).length=1:=by omega
    rw[show rC n xs ys k=some (sW ys k) from if_pos ⟨h17.1 (by clear hw;simp_all),by clear hw;simp_all⟩];exact⟨(none,0),by simp only[Ph,if_pos e1];rfl,by simp only[Jv,if_pos e1];exact Nat.le_refl _,by simp only[Jv,if_pos e1];exact(hw.Oj none).fin⟩
   ·refine aW ?_;refine Kc8 ?_;refine bM ?_;refine E8 ?_;refine aZ results251 (λ w hw=>?_);have e1:¬(sW ys k).length=1:=by omega
    rw[show rC n xs ys k=some (sW ys k) from if_pos ⟨h17.1 (by clear hw;simp_all),by clear hw;simp_all⟩];exact⟨x27,by simp only[Ph,if_neg e1];rfl,by simp only[Jv,if_neg e1];exact h27,by simp only[Jv,if_neg e1];exact hw.fin⟩
end
end
end Go.Proofs.YtbajmaoegmbfgaaGreat
namespace Go.Ct
open Go Go.RowKit
section
section
variable{P:Program}{n:Nat}{S:List (Nat×Value)}
variable{w0 w w':World}{M:List Nat}{H H':List (Nat×Obj)}{A F F':Fr}{O O':List Ow}{G:World->Prop}
variable{d:Nat}{ty:TypeId}{pos:String}{af:Array Edge}{gd:Option (Nat×Bool)}{dst:Option Nat}{x y z:Operand}{t t2 e:TypeId}{p a:Option Addr}{i m k c c2:Nat}
end
end
end Go.Ct
namespace Go.Proofs.YtbajmaoegmbfgaaGreat
open Go.Proofs.Tryz
section
open Go Go.RowKit Go.Ct
end
section
open Go.RowKit Go.Ct
open Classical in
noncomputable def q9 (n:Nd) (xs:List Int) (ys:List Pr) (b:Nat) (i r:Int):Option (Nat×List Int):=if CV n xs ys/\(0<=i/\i<64)/\1<=r/\oZ b i=false then some (dY b i,vM xs (mM b i) r) else none
open Classical in
noncomputable def s8 (n:Nd) (xs:List Int) (ys:List Pr) (b:Nat) (i r:Int):Option (Nat×List Int):=if CV n xs ys/\1<=r/\oZ b i=true then some (b,rV xs (mM b i) r) else none
open Classical in
noncomputable def tc (n:Nd) (xs:List Int) (ys:List Pr) (b:Nat) (i:Int):Option (Nat×List Int):=if CV n xs ys/\oZ b i=true then some (wB b i,tE xs (mM b i)) else none
def nN(o:Option (Nat×List Int))(x:Option Addr×Nat):Nd:=match o with|some q=>cn q.1 q.2 x|none=>Nd.zero
def nC(o:Option (Nat×List Int)):List Int:=match o with|some q=>q.2|none=>[]
def Zv(w:World)(o:Option (Nat×List Int))(e:Ending)(w':World):Prop:=∃x:Option Addr×Nat,e=.returned (.tuple #[(nN o x).v,.bool o.isSome])/\(nC o).length<=x.2/\SF w [] [] [] [(x.1,aH (nC o))] [] w'
section
variable{n:Nd}{xs:List Int}{ys:List Pr}{w:World}{b:Nat}
end
end
section
open Go.RowKit Go.Ct
def gV(b:Nat)(xs:List Int)(i:Nat)(r:Int):Nat->Option Int:=Lk (nW b xs) i (if 0<r then some r else none)
theorem oW{m:Nat->Option Int}{k:Nat}{v:Int}(h:m k=some v)(hk:k<64):dY (Cj m k) (k:Int)=Cj m (k+1)/\oM m k++[v]=oM m (k+1):=by simp only[Cj,oM,h,dY,Option.isSome_some,if_true,Option.toList,Int.toNat_natCast,and_true];exact if_pos (by omega)
theorem pL{m:Nat->Option Int}{k:Nat}(h:m k=none):Cj m k=Cj m (k+1)/\oM m k=oM m (k+1):=by simp[Cj,oM,h]
theorem Ce(m:Nat->Option Int){k:Nat}(hk:k<=64):Cj m k<18446744073709551616:=Nat.lt_of_lt_of_le (my m k) (Nat.pow_le_pow_right (n:=2) (by decide) hk)
theorem Wo(m:Nat->Option Int):∀k,(oM m k).length<=k
 | 0=>Nat.le_refl _
 | k+1=>by have:=Wo m k;simp only[oM,List.length_append];cases m k<;>simp<;>omega
section
variable{n:Nd}{xs:List Int}{ys:List Pr}{w:World}{b:Nat}
variable{k i:Nat}{r:Int}{o:Option Int}
theorem Yd(hcv:CV n xs ys)(hk:k<64):Fj n xs ys b (k:Int)=nW b xs k:=by
 unfold Fj nW;have h1:oZ b (k:Int)=b.testBit k:=by rw[uJ b (by omega) (by omega),Int.toNat_natCast]
 have h2:mM b (k:Int)=fQ b k:=by unfold mM;rw[Int.toNat_natCast,Nat.min_eq_left (by omega)]
 rw[h1,h2];by_cases h:b.testBit k=true<;>simp[h,hcv]
theorem F4(hcv:CV n xs ys)(hk:k<64)(h:(k:Int)≠(i:Int)):gV b xs i r k=Fj n xs ys b (k:Int):=by rw[Yd hcv hk];exact if_neg (by omega)
theorem Gc(h:(k:Int)=(i:Int)):gV b xs i r k=if 0<r then some r else none:=if_pos (by omega)
theorem Ys(h:o.isSome=true):o=some (o.getD 0):=by cases o<;>simp_all
theorem Wg(h:o.isSome=false):o=none:=by cases o<;>simp_all
set_option maxHeartbeats 800000 in
theorem Mn(i:Nat)(r:Int)(_hi:i<64)(hcv:CV n xs ys)(hb:n.bm=(b:Int))(hb2:b<18446744073709551616)(hr:sG w n xs ys) :
    Calls prog 244 #[n.v,.int .i64 (i:Int),.int .i64 r] w λ e w'=>∃x:Option Addr×Nat,e=.returned (cn (Cj (gV b xs i r) 64) (oM (gV b xs i r) 64) x).v/\(oM (gV b xs i r) 64).length<=x.2/\SF w [] [] [] [(x.1,aH (oM (gV b xs i r) 64))] [] w':=by
     have e1:=hr.brN;refine enter func244 ntmps244 rfl rfl (SF.s2 hr.br hr.pr) ?_;simp only[cC]
     simp only[Nd.v,Nd.cells];refine K1m ?_;intro x3;refine aJ (λ x6=>?_);refine aG ?_;refine J0 ?_;refine bM ?_;refine aJ (λ x7=>?_);refine J5 ?_;refine aT ?_;refine Fq ?_;refine mN [8,9,10,12,13,14,15,16,17,18,19,20,21,22,23,24,25,26,27,28,29,30,31,32,33,34,35,36,37,38,39] (λ y:Nat×Option Addr×Nat=>[(8,.int .i64 ((y.1:Nat):Int))]) (λ y=>y.1<=64/\(oM (gV b xs i r) y.1).length<=y.2.2) (λ y=>[(x7,.cells ⟨[.int .i64 3,.int .i64 0,.int .i64 0,.int .u64 ((Cj (gV b xs i r) y.1:Nat):Int),.slice y.2.1 (oM (gV b xs i r) y.1).length y.2.2,.int .u64 0,.string ⟨#[]⟩,.int .u64 0,.slice none 0 0,.int .i64 0,.int .i64 0,.int .i64 0,.int .i64 0,.int .i64 0]⟩ 47),(x6,.cells ⟨Nd.zero.cells⟩ 47),(x3,.cells ⟨n.cells⟩ 47)]) (λ _=>_) (λ y=>[⟨y.2.1,aH (oM (gV b xs i r) y.1),y.2.2,37,1⟩]) (λ y=>64-y.1) ((0,none,0)) (⟨Nat.zero_le _,Nat.le_refl _⟩) (λ y f hx=>?_) (hw0:=λ w hw=>(hw.kQ 37 1).back);refine K0a ?_;have hll:=Wo (gV b xs i r) y.1;refine jS ?_;refine wF ?_;refine bD (λ c13=>?_) (λ c13=>?_)
     ·refine rT ?_;refine E4 ?_;refine aP (cV (hc:=λ w1 hw=>oV (n:=n) (y.1:Int) hb hb2 (hr.gB hw.done))) (λ x19=>?_);refine K1l ?_;refine D1 ?_;refine tG ?_;refine bD (λ c24=>?_) (λ c24=>?_)
      ·refine Km ?_;refine Eo ?_;refine J8 ?_;refine J2 ?_;refine aG ?_;refine bD (λ c28=>?_) (λ c28=>?_)
       ·first
         | have hm:gV b xs i r y.1=some r:=by rw[Gc c24,if_pos (by omega)]
         | have hm:gV b xs i r y.1=some ((Fj n xs ys b (y.1:Int)).getD 0):=by rw[F4 hcv (by omega) c24];exact Ys c28
        refine eR [29,30,31,32,33,34,35,36,37,38,39] (λ z:Nat×Option Addr×Nat=>[]) (λ z=>(oM (gV b xs i r) y.1).length+1<=z.2.2) (λ z=>[(x7,.cells ⟨[.int .i64 3,.int .i64 0,.int .i64 0,.int .u64 ((Cj (gV b xs i r) (y.1+1):Nat):Int),.slice z.2.1 (oM (gV b xs i r) (y.1+1)).length z.2.2,.int .u64 0,.string ⟨#[]⟩,.int .u64 0,.slice none 0 0,.int .i64 0,.int .i64 0,.int .i64 0,.int .i64 0,.int .i64 0]⟩ 47),(x6,.cells ⟨Nd.zero.cells⟩ 47),(x3,.cells ⟨n.cells⟩ 47)]) (λ z=>[]) (λ z=>[⟨z.2.1,aH (oM (gV b xs i r) (y.1+1)),z.2.2,37,1⟩]) (by decide) (λ _=>by exact rfl) ?_ (λ z f hx=>?_)
        ·refine K0v ?_;refine gL (E:=[3,7]) (by decide +kernel) ((.cons ?_ (.cons ?_ .nil)));·refine Bd (i:=3) (hq:=(cV (hc:=λ w1 hw=>nU (Ce (gV b xs i r) (k:=y.1) (by omega)) (y.1:Int) w1))) (h:=λ x32=>?_);refine aY ?_;refine cE (h:=λ x36=>?_);((refine mZ (h:=λ x37=>?_);try (refine eK (λ h37=>?_))));refine K0j ?_;·exact h37
         ·refine nF (i:=7) (h:=λ x36=>?_);refine dB (i:=3) (hq:=(cV (hc:=λ w1 hw=>nU (Ce (gV b xs i r) (k:=y.1) (by omega)) (y.1:Int) w1))) (h:=λ x32=>?_);refine aY ?_;((refine mZ (h:=λ x37=>?_);try (refine eK (λ h37=>?_))));refine K0j ?_;·exact h37
        refine K0a ?_;refine Kb6 ?_;refine iS ((by exact(y.1+1,z.2))) ?_ (hw1:=λ w hw=>by exact hw.back)
        ·first
          | exact⟨by omega,by have k2:=(oW hm (by omega)).2;simp only[];rw[<- k2,List.length_append];exact hx⟩
          | exact⟨by omega,by simp only[];rw[<- (pL hm).2];exact hx.2⟩
       ·have hm:gV b xs i r y.1=none:=by
         first
          | (rw[Gc c24,if_neg (by omega)];done)
          | (rw[F4 hcv (by omega) c24];exact Wg c28)
        refine Kc3 ?_;refine iS ((by exact(y.1+1,y.2))) ?_ (hw1:=λ w hw=>by(rw[(pL hm).1,(pL hm).2] at hw;exact hw.back))
        ·first
          | exact⟨by omega,by have k2:=(oW hm (by omega)).2;simp only[];rw[<- k2,List.length_append];exact hx⟩
          | exact⟨by omega,by simp only[];rw[<- (pL hm).2];exact hx.2⟩
      ·refine Kb3 ?_;refine aG ?_;refine bD (λ c28=>?_) (λ c28=>?_)
       ·first
         | have hm:gV b xs i r y.1=some r:=by rw[Gc c24,if_pos (by omega)]
         | have hm:gV b xs i r y.1=some ((Fj n xs ys b (y.1:Int)).getD 0):=by rw[F4 hcv (by omega) c24];exact Ys c28
        refine eR [29,30,31,32,33,34,35,36,37,38,39] (λ z:Nat×Option Addr×Nat=>[]) (λ z=>(oM (gV b xs i r) y.1).length+1<=z.2.2) (λ z=>[(x7,.cells ⟨[.int .i64 3,.int .i64 0,.int .i64 0,.int .u64 ((Cj (gV b xs i r) (y.1+1):Nat):Int),.slice z.2.1 (oM (gV b xs i r) (y.1+1)).length z.2.2,.int .u64 0,.string ⟨#[]⟩,.int .u64 0,.slice none 0 0,.int .i64 0,.int .i64 0,.int .i64 0,.int .i64 0,.int .i64 0]⟩ 47),(x6,.cells ⟨Nd.zero.cells⟩ 47),(x3,.cells ⟨n.cells⟩ 47)]) (λ z=>[]) (λ z=>[⟨z.2.1,aH (oM (gV b xs i r) (y.1+1)),z.2.2,37,1⟩]) (by decide) (λ _=>by exact rfl) ?_ (λ z f hx=>?_)
        ·refine K0v ?_;refine gL (E:=[3,7]) (by decide +kernel) ((.cons ?_ (.cons ?_ .nil)));·refine Bd (i:=3) (hq:=(cV (hc:=λ w1 hw=>nU (Ce (gV b xs i r) (k:=y.1) (by omega)) (y.1:Int) w1))) (h:=λ x32=>?_);refine aY ?_;refine cE (h:=λ x36=>?_);((refine mZ (h:=λ x37=>?_);try (refine eK (λ h37=>?_))));refine K0j ?_;·exact h37
         ·refine nF (i:=7) (h:=λ x36=>?_);refine dB (i:=3) (hq:=(cV (hc:=λ w1 hw=>nU (Ce (gV b xs i r) (k:=y.1) (by omega)) (y.1:Int) w1))) (h:=λ x32=>?_);refine aY ?_;((refine mZ (h:=λ x37=>?_);try (refine eK (λ h37=>?_))));refine K0j ?_;·exact h37
        refine K0a ?_;refine Kb6 ?_;refine iS ((by exact(y.1+1,z.2))) ?_ (hw1:=λ w hw=>by exact hw.back)
        ·first
          | exact⟨by omega,by have k2:=(oW hm (by omega)).2;simp only[];rw[<- k2,List.length_append];exact hx⟩
          | exact⟨by omega,by simp only[];rw[<- (pL hm).2];exact hx.2⟩
       ·have hm:gV b xs i r y.1=none:=by
         first
          | (rw[Gc c24,if_neg (by omega)];done)
          | (rw[F4 hcv (by omega) c24];exact Wg c28)
        refine Kc3 ?_;refine iS ((by exact(y.1+1,y.2))) ?_ (hw1:=λ w hw=>by(rw[(pL hm).1,(pL hm).2] at hw;exact hw.back))
        ·first
          | exact⟨by omega,by have k2:=(oW hm (by omega)).2;simp only[];rw[<- k2,List.length_append];exact hx⟩
          | exact⟨by omega,by simp only[];rw[<- (pL hm).2];exact hx.2⟩
     ·refine K1t ?_;refine Ka9 ?_;refine aZ results244 (λ w hw=>?_);have hy:y.1=64:=by omega
      rw[hy] at hw hx ⊢;generalize Cj (gV b xs i r) 64=B at hw ⊢;generalize oM (gV b xs i r) 64=L at hw hx ⊢;exact⟨y.2,rfl,hx.2,SF.frz hw.bB⟩
end
end
section
open Go.RowKit Go.Ct
variable{b k:Nat}{xs:List Int}{r:Int}
theorem of_eq{m:Nat->Option Int}(h:BV b xs/\∀k,k<64->nW b xs k=m k):Cj m 64=b/\oM m 64=xs:=by obtain⟨h1,h2⟩:=Pt 64 λ k hk=>(h.2 k hk).symm;obtain⟨h3,h4⟩:=U0 h.1;exact⟨h1.trans h3,h2.trans h4⟩
theorem qP(b:Nat)(hk:k<64):dY b (k:Int)=b ||| 2^k:=by unfold dY;rw[if_pos (by omega),Int.toNat_natCast]
theorem uF(b:Nat)(hk:k<64):wB b (k:Int)=b ^^^ (b &&& 2^k):=by unfold wB;rw[if_pos (by omega),Int.toNat_natCast]
theorem pJ(b:Nat)(hk:k<64):mM b (k:Int)=fQ b k:=by unfold mM;rw[Int.toNat_natCast,Nat.min_eq_left (by omega)]
theorem rL(b:Nat)(hk:k<64):oZ b (k:Int)=b.testBit k:=by rw[uJ b (by omega) (by omega),Int.toNat_natCast]
theorem Ze(h:BV b xs)(hk:k<64)(hb:oZ b (k:Int)=false)(hr:1<=r):Cj (gV b xs k r) 64=dY b (k:Int)/\oM (gV b xs k r) 64=vM xs (mM b (k:Int)) r:=by rw[rL b hk] at hb;rw[qP b hk,pJ b hk];unfold gV;rw[if_pos (by omega)];exact of_eq (Ix h hk hb hr)
theorem Y9(h:BV b xs)(hk:k<64)(hb:oZ b (k:Int)=true)(hr:1<=r):Cj (gV b xs k r) 64=b/\oM (gV b xs k r) 64=rV xs (mM b (k:Int)) r:=by rw[rL b hk] at hb;rw[pJ b hk];unfold gV;rw[if_pos (by omega)];exact of_eq (Vh h hk hb hr)
theorem Zm(h:BV b xs)(hk:k<64)(hb:oZ b (k:Int)=true):Cj (gV b xs k 0) 64=wB b (k:Int)/\oM (gV b xs k 0) 64=tE xs (mM b (k:Int)):=by rw[rL b hk] at hb;rw[uF b hk,pJ b hk];unfold gV;rw[if_neg (by omega)];exact of_eq (Ug h hk hb)
section
variable{n:Nd}{xs:List Int}{ys:List Pr}{w:World}{b:Nat}
theorem Cc{i:Int}(h:(Fj n xs ys b i).isSome=true):CV n xs ys/\oZ b i=true:=by
 unfold Fj at h;split at h;·assumption
 ·cases h
theorem I7{i:Int}(h:(Fj n xs ys b i).isSome=false)(hcv:CV n xs ys):oZ b i=false:=by
 unfold Fj at h;split at h;·cases h
 ·rename_i hn;cases hh:oZ b i with
  | false=>rfl
  | true=>exact absurd ⟨hcv,hh⟩ hn
theorem Jx(i r:Int)(hb:n.bm=(b:Int))(hb2:b<18446744073709551616)(hr:sG w n xs ys):Calls prog 249 #[n.v,.int .i64 i,.int .i64 r] w (Zv w (q9 n xs ys b i r)):=by
 refine enter func249 ntmps249 rfl rfl (SF.s2 hr.br hr.pr) ?_;simp only[cC];simp only[Nd.v,Nd.cells];refine K1m ?_;intro x3;refine aJ (λ x6=>?_);refine jG ?_;refine E4 ?_;refine aP (cV (hc:=λ w1 hw=>oV (n:=n) i hb hb2 (hr.gB hw.done))) (λ x13=>?_);refine K1l ?_;refine nJ ?_;refine aD (c0 (V:=.bool) (hc:=λ w1 hw=>nj (n:=n) hb hb2 (hr.gB hw.done))) (λ x17 h17=>?_);refine Cr ?_;(refine eE 19 (λ g19=>?_) (λ g19=>?_)<;>refine Ka0 ?_);all_goals (refine Kc1 ?_)
 all_goals (first|refine aI ?_|(refine eE 22 (λ g22=>?_) (λ g22=>?_)<;>refine Ka0 ?_))
 all_goals (refine xz ?_;refine aA ?_)
 all_goals (first|refine aI ?_|(refine eE 26 (λ g26=>?_) (λ g26=>?_)<;>refine Ka0 ?_))
 all_goals (refine B7 ?_;refine aA ?_)
 all_goals (first|refine aI ?_|(refine eE 30 (λ g30=>?_) (λ g30=>?_)<;>refine Ka0 ?_))
 all_goals (refine xz ?_;refine aG ?_)
 all_goals
 refine bD (λ c33=>?_) (λ c33=>?_)
 ·all_goals (refine J0 ?_;refine bM ?_;refine E8 ?_)
  all_goals refine aZ results249 (λ w hw=>?_);rw[show q9 n xs ys b i r=none from if_neg (by rintro ⟨k1,⟨k2,k3⟩,k4,k5⟩;clear hw;first|omega|exact absurd (Cc g22).2 (by simp[k5])|exact absurd (h17.2 k1) (by simp_all))];exact⟨(none,0),rfl,Nat.le_refl _,(hw.Oj none).fin⟩
 ·try exact nv c33
  all_goals
   have hcv:=h17.1 (by simpa using g19);have hh:=I7 g22 hcv;obtain⟨k,rfl⟩:=Int.eq_ofNat_of_zero_le (show 0<=i by omega)
   have hk:=Ze (hcv.bv hb hb2) (k:=k) (by omega) hh (r:=r) (by omega)
  all_goals (refine aW ?_;refine nJ ?_;refine qX ?_;refine aD (cF (hc:=λ w1 hw=>by have:=Mn (w:=w1) k r (by omega) hcv hb hb2 (hr.gB hw.done);rw[hk.1,hk.2] at this;exact this)) (λ x38 h38=>?_);refine E8 ?_)
  all_goals refine aZ results249 (λ w hw=>?_);rw[show q9 n xs ys b (k:Int) r=some (dY b (k:Int),vM xs (mM b (k:Int)) r) from if_pos ⟨hcv,⟨by omega,by omega⟩,by omega,hh⟩];exact⟨x38,rfl,h38,hw.fin⟩
theorem N9(i r:Int)(hb:n.bm=(b:Int))(hb2:b<18446744073709551616)(hr:sG w n xs ys):Calls prog 220 #[n.v,.int .i64 i,.int .i64 r] w (Zv w (s8 n xs ys b i r)):=by
 refine enter func220 ntmps220 rfl rfl (SF.s2 hr.br hr.pr) ?_;simp only[cC];simp only[Nd.v,Nd.cells];refine K1m ?_;intro x3;refine aJ (λ x6=>?_);refine jG ?_;refine E4 ?_;refine aP (cV (hc:=λ w1 hw=>oV (n:=n) i hb hb2 (hr.gB hw.done))) (λ x13=>?_);refine K1l ?_;refine J2 ?_;refine Cr ?_;(refine eE 18 (λ g18=>?_) (λ g18=>?_)<;>refine Ka0 ?_);all_goals (refine xz ?_;refine aG ?_)
 all_goals
 refine bD (λ c21=>?_) (λ c21=>?_)
 ·all_goals (refine J0 ?_;refine bM ?_;refine E8 ?_)
  all_goals refine aZ results220 (λ w hw=>?_);rw[show s8 n xs ys b i r=none from if_neg (by rintro ⟨k1,k4,k5⟩;clear hw;first|omega|exact absurd (I7 (by simpa using g18) k1) (by simp[k5]))];exact⟨(none,0),rfl,Nat.le_refl _,(hw.Oj none).fin⟩
 ·try exact nv c21
  all_goals
   have hc:=Cc (by simpa using g18);have hcv:=hc.1;have hh:=hc.2;obtain⟨q1,q2,_,_⟩:=tJ hh
   obtain⟨k,rfl⟩:=Int.eq_ofNat_of_zero_le q1;have hk:=Y9 (hcv.bv hb hb2) (k:=k) (by omega) hh (r:=r) (by omega)
  all_goals (refine aW ?_;refine nJ ?_;refine qX ?_;refine aD (cF (hc:=λ w1 hw=>by have:=Mn (w:=w1) k r (by omega) hcv hb hb2 (hr.gB hw.done);rw[hk.1,hk.2] at this;exact this)) (λ x26 h26=>?_);refine E8 ?_)
  all_goals refine aZ results220 (λ w hw=>?_);rw[show s8 n xs ys b (k:Int) r=some (b,rV xs (mM b (k:Int)) r) from if_pos ⟨hcv,by omega,hh⟩];exact⟨x26,rfl,h26,hw.fin⟩
theorem N5(i:Int)(hb:n.bm=(b:Int))(hb2:b<18446744073709551616)(hr:sG w n xs ys):Calls prog 252 #[n.v,.int .i64 i] w (Zv w (tc n xs ys b i)):=by
 refine enter func252 ntmps252 rfl rfl (SF.s2 hr.br hr.pr) ?_;simp only[cC];simp only[Nd.v,Nd.cells];refine J0 ?_;refine bJ (λ x2=>?_);refine aJ (λ x4=>?_);refine jG ?_;refine E4 ?_;refine aP (cV (hc:=λ w1 hw=>oV (n:=n) i hb hb2 (hr.gB hw.done))) (λ x11=>?_);refine K1l ?_;refine J2 ?_;refine oG ?_;refine bD (λ c15=>?_) (λ c15=>?_);·refine J0 ?_;refine bM ?_;refine E8 ?_;refine aZ results252 (λ w hw=>?_);rw[show tc n xs ys b i=none from if_neg (by rintro ⟨k1,k5⟩;clear hw;exact absurd (I7 c15 k1) (by simp[k5]))];exact⟨(none,0),rfl,Nat.le_refl _,(hw.Oj none).fin⟩
 ·have hc:=Cc c15;have hcv:=hc.1;have hh:=hc.2;obtain⟨q1,q2,_,_⟩:=tJ hh
  obtain⟨k,rfl⟩:=Int.eq_ofNat_of_zero_le q1;have hk:=Zm (hcv.bv hb hb2) (k:=k) (by omega) hh;refine aW ?_;refine E4 ?_;refine aD (cF (hc:=λ w1 hw=>by have:=Mn (w:=w1) k 0 (by omega) hcv hb hb2 (hr.gB hw.done);rw[hk.1,hk.2] at this;exact this)) (λ x19 h19=>?_);refine E8 ?_;refine aZ results252 (λ w hw=>?_);rw[show tc n xs ys b (k:Int)=some (wB b (k:Int),tE xs (mM b (k:Int))) from if_pos ⟨hcv,hh⟩];exact⟨x19,rfl,h19,hw.fin⟩
end
end
end Go.Proofs.YtbajmaoegmbfgaaGreat
namespace Go.Ct
section
theorem ie{L1 L2:List aQ}(h:L1.length=L2.length):L1.map aQ.c=L2.map aQ.c↔∀i,i<L1.length->(L1.getD i aQ.zero).c=(L2.getD i aQ.zero).c:=by
 constructor
 ·intro e i hi;have h1:(L1.map aQ.c)[i]?=(L2.map aQ.c)[i]?:=by rw[e]
  rw[List.getElem?_map,List.getElem?_map,List.getElem?_eq_getElem hi,List.getElem?_eq_getElem (h▸hi)] at h1;rw[iX,iX,List.getElem?_eq_getElem hi,List.getElem?_eq_getElem (h▸hi)];simpa using h1
 ·intro e;refine List.ext_getElem? λ i=>?_;rw[List.getElem?_map,List.getElem?_map];by_cases hi:i<L1.length;·have h1:=e i hi;rw[iX,iX,List.getElem?_eq_getElem hi,List.getElem?_eq_getElem (h▸hi)] at h1;rw[List.getElem?_eq_getElem hi,List.getElem?_eq_getElem (h▸hi)];simpa using h1
  ·rw[List.getElem?_eq_none (by omega),List.getElem?_eq_none (by omega)]
def j2(L1 L2:List aQ)(c1 c2:List Int)(g1 g2:Int):Prop:=L1.map aQ.c=L2.map aQ.c/\g1=g2/\c1=c2
end
end Go.Ct
namespace Go.Proofs.YtbajmaoegmbfgaaGreat
open Go.Proofs.Tryz
open Go.RowKit Go.Ct
section
variable{cs1 cs2:List Int}{pn1 pc1 pn2 pc2:Option Addr}{w:World}{g1 g2:Int}{n1 n2 c1 c2:Nat}
theorem Tk{L1 L2:List aQ}(h1:nM w L1 cs1 pn1 pc1)(h2:nM w L2 cs2 pn2 pc2) :
  SF w [] [] ((pn1,iH L1)::(pc1,aH cs1)::(pn2,iH L2)::(pc2,aH cs2)::(aN L1++aN L2)) [] [] w:=SF.begin λ f hf=>by
 rcases List.mem_cons.1 hf with rfl|hf;·exact h1.nds
 rcases List.mem_cons.1 hf with rfl|hf;·exact h1.cls
 rcases List.mem_cons.1 hf with rfl|hf;·exact h2.nds
 rcases List.mem_cons.1 hf with rfl|hf;·exact h2.cls
 rcases List.mem_append.1 hf with hf|hf;·exact h1.fam f hf
 ·exact h2.fam f hf
theorem aAt{f1 f2 f3 f4 f:Option Addr×List Value}{F:Fr}(h:f∈F):f∈f1::f2::f3::f4::F:=List.mem_cons_of_mem _ (List.mem_cons_of_mem _ (List.mem_cons_of_mem _ (List.mem_cons_of_mem _ h)))
theorem aBm{L1 L2:List aQ}(h1:nM w L1 cs1 pn1 pc1)(h2:nM w L2 cs2 pn2 pc2)(hL1:L1.length<=274877906944)(hL2:L2.length<=274877906944)(hc1:cs1.length<=274877906944) :
  Calls prog 62 #[.agg ⟨[.slice pn1 L1.length n1,.slice pc1 cs1.length c1,.int .i64 g1]⟩,.agg ⟨[.slice pn2 L2.length n2,.slice pc2 cs2.length c2,.int .i64 g2]⟩] w λ e w'=>∃r:Bool,e=.returned (.bool r)/\(r=true↔j2 L1 L2 cs1 cs2 g1 g2)/\St w [] [] w':=by
 refine enter func62 ntmps62 rfl rfl (Tk h1 h2) ?_;simp only[cC];refine K1i ?_;intro x2 x3;refine jG ?_;refine iE ?_;refine dV ?_;refine Pb ?_;refine lN ?_;refine aA ?_;(refine eE 13 (λ g13=>?_) (λ g13=>?_)<;>refine Ka1 ?_);all_goals (refine B8 ?_;refine Q3 ?_;refine aA ?_)
 all_goals (first|refine aI ?_|(refine eE 20 (λ g20=>?_) (λ g20=>?_)<;>refine Ka1 ?_))
 all_goals (refine B8 ?_;(first|refine aI ?_|(refine aF ?_;refine aP (cV (hc:=λ w1 hw=>l9 (hw.cl (.bS (.tail .head))) (hw.cl (.bS (.tail (.tail (.tail .head))))) (by omega))) (λ x25=>?_)));refine Kc2 ?_)
 all_goals
 refine bD (λ c27=>?_) (λ c27=>?_)
 ·all_goals refine cU ?_
  all_goals
   refine aS results62 (λ w hw=>?_);exact⟨false,rfl,⟨(λ h=>nomatch h),λ hs=>by
   have e1:=congrArg List.length hs.1;simp only[List.length_map] at e1;have e2:=hs.2.1;have e3:=hs.2.2
   first|omega|(subst e3;simp at c27)⟩,hw.done⟩
 ·try exact nv c27
  all_goals (refine lB ?_;refine Fq ?_)
  all_goals
   have hlen:L1.length=L2.length:=by omega
   refine gF [4,5,28,29,30,31,32,33,34,35,36,37,38,39,40,41,42,43,44,45,46] (λ k=>[(5,.int .i64 ((k:Nat):Int))]) (λ k=>k<=L1.length/\∀i,i<k->(L1.getD i aQ.zero).c=(L2.getD i aQ.zero).c) (λ k=>L1.length-k) (0) (⟨Nat.zero_le _,λ i hi=>absurd hi (Nat.not_lt_zero i)⟩) ?_ (λ k f hx=>?_);·repeat (first|exact bF _|refine aX (by exact rfl) ?_)
   refine K0a ?_;refine jS ?_;refine Pb ?_;refine wF ?_;refine bD (λ c32=>?_) (λ c32=>?_)
   ·refine rT ?_;refine aT ?_;refine K0x ?_;refine Ke0 ?_;refine Pe ?_;refine Ke0 ?_;refine Pe ?_;refine bI (i:=10) (hq:=(c0 (V:=.bool) (hc:=λ w1 hw=>W9 (hw.aA1 (L:=L1) (λ f hf=>.inr (.inl (aAt (List.mem_append_left _ hf)))) h1.fit (fH (k:=k) (by omega))) (hw.aA1 (L:=L2) (λ f hf=>.inr (.inl (aAt (List.mem_append_right _ hf)))) h2.fit (fH (k:=k) (by omega)))))) (h:=λ x45 h45=>?_);refine Yc ?_;refine eN ?_;refine bD (λ c46=>?_) (λ c46=>?_)
    ·refine cU ?_;refine aS results62 (λ w hw=>?_);exact⟨false,rfl,⟨(λ h=>nomatch h),λ hs=>by
     have h1:=(ie hlen).1 hs.1 k (by omega);rw[h45.2 (rS.2 h1)] at c46;cases c46⟩,hw.done⟩
    ·refine Kc3 ?_;refine eG (k+1) ?_ ?_ ?_;·omega
     ·repeat' (first|exact bF _|refine aX ?_ ?_)
      exact rfl
     ·exact⟨by omega,λ i hi=>by rcases Nat.lt_succ_iff_lt_or_eq.1 hi with h|rfl;exact hx.2 i h;exact rS.1 (h45.1 c46)⟩
   ·refine K2q ?_;refine aS results62 (λ w hw=>?_);exact⟨true,rfl,⟨λ _=>⟨(ie hlen).2 λ i hi=>hx.2 i (by omega),by omega,by simpa using c27⟩,λ _=>rfl⟩,hw.done⟩
theorem zi{L1 L2:List aQ}(h1:nM w L1 cs1 pn1 pc1)(h2:nM w L2 cs2 pn2 pc2)(hL1:L1.length<=274877906944)(hL2:L2.length<=274877906944)(hc1:cs1.length<=274877906944)(h:j2 L1 L2 cs1 cs2 g1 g2) :
  Calls prog 62 #[.agg ⟨[.slice pn1 L1.length n1,.slice pc1 cs1.length c1,.int .i64 g1]⟩,.agg ⟨[.slice pn2 L2.length n2,.slice pc2 cs2.length c2,.int .i64 g2]⟩] w λ e w'=>e=.returned (.bool true)/\St w [] [] w' :=
 (aBm h1 h2 hL1 hL2 hc1).mono λ e w' ⟨r,he,hr,hst⟩=>⟨by rw[he,hr.2 h],hst⟩
end
end Go.Proofs.YtbajmaoegmbfgaaGreat
namespace Go.Ct
section
def Nv.nd(v:Nv):Nd:=⟨v.kind,v.gen,v.main,v.bm,none,v.xs.length,0,v.hash,v.key,v.val,none,v.ys.length,0,v.prev,v.bS,v.exp,v.new,v.status⟩
def Nv.dv(v:Nv):aQ:=⟨v.nd,v.xs,v.ys⟩
theorem Nv.aEn(v:Nv):v.dv.c=v:=rfl
theorem aBH(N:List Nv):(N.map Nv.dv).map aQ.c=N:=by rw[List.map_map];exact(List.map_congr_left (λ v _=>Nv.aEn v)).trans (List.map_id N)
theorem Nj{n:Nd}{xs:List Int}{ys:List Pr}:cK n xs ys↔cK (n.c xs ys).nd xs ys:=by
 have e:sX n n.own xs (n.jV xs) ys (n.jR ys)↔sX (n.c xs ys).nd (n.c xs ys).nd.own xs ((n.c xs ys).nd.jV xs) ys ((n.c xs ys).nd.jR ys):=by
  rw[rS,rS];have e1:n.own.c (n.jV xs) (n.jR ys)=(n.c xs ys).nd.own.c ((n.c xs ys).nd.jV xs) ((n.c xs ys).nd.jR ys):=by
   have hx:(n.c xs ys).nd.jV xs=n.jV xs:=rfl;have hy:(n.c xs ys).nd.jR ys=n.jR ys:=rfl;have hk:(n.c xs ys).nd.kind=n.kind:=rfl;rw[hx,hy];unfold Nd.own;rw[hk];repeat' split
   all_goals rfl
  rw[e1];exact Iff.rfl
 unfold cK;rw[e];exact Iff.rfl
theorem aAU{gen:Int}{n:Nat}{u v:aQ}(h:u.c=v.c)(hu:nK gen n u):nK gen n v:=by
 have key:∀v:aQ,nK gen n v↔nK gen n v.c.dv:=λ v=>by unfold nK;rw[Nj (n:=v.nd)];exact Iff.rfl
 rw[key,<- h,<- key];exact hu
theorem u5{m:Nat}{L1 L2:List aQ}(h:L1.map aQ.c=L2.map aQ.c):marks m L1=marks m L2:=by
 have key:∀L:List aQ,marks m L=(L.map aQ.c).foldl (λ u c=>eW u c.nd) (some (List.replicate m false)):=λ L=>by unfold marks;rw[List.foldl_map];rfl
 rw[key,key,h]
theorem cu{L1 L2:List aQ}{cs:List Int}{gen:Int}(h:L1.map aQ.c=L2.map aQ.c)(hp:fS L1 cs gen):fS L2 cs gen:=by
 have hl:L1.length=L2.length:=by simpa using congrArg List.length h
 have hi:=(ie hl).1 h;have h2:=hp.two;refine⟨by omega,hp.gen0,?_,?_,λ i h=>by have:=hp.cells i h;rwa [hl] at this,λ i h=>?_,by rw[<- u5 h];exact hp.marks⟩
 ·have:=congrArg Nv.kind (hi 0 (by omega));exact this.symm.trans hp.m0
 ·have:=congrArg Nv.kind (hi 1 (by omega));exact this.symm.trans hp.m1
 ·have:=hp.nodes i (by omega);rw[<- hl];exact aAU (hi i (by omega)) this
def gN(N:List Nv)(cs:List Int)(gen:Int):Prop:=fS (N.map Nv.dv) cs gen
variable{N:List Nv}{cs:List Int}{gen init:Int}
theorem gN.to(h:gN N cs gen){L:List aQ}(hl:L.map aQ.c=N):fS L cs gen:=cu (by rw[aBH,hl]) h
theorem gN.push{n:Nv}(h:gN N cs gen)(hv:nK gen (N.length+1) (dI n cs.length).dv)(hi:Fs init N.length):gN (N++[dI n cs.length]) (fL n.kind cs init) gen:=by
 have hm:(N.map Nv.dv).length=N.length:=by simp
 have:=Qs (v:=(dI n cs.length).dv) (k:=n.kind) (init:=init) h (by rw[hm];exact hv) (by rw[hm];exact hi) (by
  have e:(dI n cs.length).dv.nd.kind=n.kind:=rfl;unfold gK fL;rw[e];by_cases h2:n.kind=2;·right;rw[if_pos h2,if_pos (.inl h2)];exact⟨by show some (if n.kind=2 then _ else _)=_;rw[if_pos h2],rfl⟩
  rw[if_neg h2];by_cases h3:n.kind=3∨n.kind=5∨n.kind=6;·right;rw[if_pos h3,if_pos (by omega)];exact⟨by show some (if n.kind=3∨n.kind=5∨n.kind=6 then _ else _)=_;rw[if_pos h3],rfl⟩
  rw[if_neg h3];by_cases h8:n.kind=8;·right;rw[if_pos h8,if_pos (by omega)];exact⟨by show some (if n.kind=8 then _ else _)=_;rw[if_pos h8],rfl⟩
  ·left;rw[if_neg h8,if_neg (by omega)];exact⟨rfl,rfl⟩)
 unfold gN;rw[List.map_append];exact this
theorem gN.cell(h:gN N cs gen)(hi:Fs init N.length):gN N (cs++[init]) gen:=by
 have hm:(N.map Nv.dv).length=N.length:=by simp
 refine⟨h.two,h.gen0,h.m0,h.m1,λ i hi'=>?_,h.nodes,?_⟩
 ·rw[iX];rw[List.length_append,List.length_cons,List.length_nil] at hi';by_cases hl:i<cs.length;·rw[List.getElem?_append_left hl,<- iX];exact h.cells i hl
  ·rw[List.getElem?_append_right (by omega),show i-cs.length=0 by omega,hm];exact hi
 ·have key:∀(l:List aQ) (m:Nat) (u:List Bool),l.foldl (λ u v=>eW u v.nd) (some u)≠none->l.foldl (λ u v=>eW u v.nd) (some (u++[false]))≠none:=by
   intro l;induction l with
   | nil=>intro _ u _ h;cases h
   | cons v l ih=>
    intro m u hu;rw[List.foldl_cons] at hu ⊢;have hnone:∀l:List aQ,l.foldl (λ u v=>eW u v.nd) none=none:=λ l=>by
     induction l with
     | nil=>rfl
     | cons v l ih=>exact ih
    cases hc:gK v.nd with
    | none=>rw[show eW (some u) v.nd=some u by simp[eW,hc]] at hu;rw[show eW (some (u++[false])) v.nd=some (u++[false]) by simp[eW,hc]];exact ih m u hu
    | some c=>
     by_cases hc3:1<=c/\c<=u.length/\u.getD (c-1).toNat false=false
     ·obtain⟨c1,c2,c3⟩:=hc3;have hlt:(c-1).toNat<u.length:=by omega
      have e1:(u++[false]).getD (c-1).toNat false=u.getD (c-1).toNat false:=by rw[iX,iX,List.getElem?_append_left hlt]
      have e2:eW (some u) v.nd=some (u.set (c-1).toNat true):=by show(match gK v.nd with|none=>_|some c=>_)=_;rw[hc];exact if_pos ⟨c1,c2,c3⟩
      have e3:eW (some (u++[false])) v.nd=some (u.set (c-1).toNat true++[false]):=by show(match gK v.nd with|none=>_|some c=>_)=_;rw[hc,<- List.set_append_left _ _ hlt];exact if_pos ⟨c1,by rw[List.length_append,List.length_cons,List.length_nil];omega,by rw[e1];exact c3⟩
      rw[e2] at hu;rw[e3];exact ih m _ hu
     ·have e2:eW (some u) v.nd=none:=by show(match gK v.nd with|none=>_|some c=>_)=_;rw[hc];exact if_neg hc3
      rw[e2,hnone] at hu;exact absurd rfl hu
  have:=key (N.map Nv.dv) 0 (List.replicate cs.length false) h.marks;unfold marks;rw[List.length_append,List.length_cons,List.length_nil,List.replicate_succ'];exact this
end
end Go.Ct
namespace Go.Proofs.YtbajmaoegmbfgaaGreat
open Go.RowKit Go.Ct
section
variable{n:Nd}{xs:List Int}{ys:List Pr}
theorem y4:CV n xs ys↔CV (n.c xs ys).nd xs ys:=by unfold CV;rw[Nj (n:=n)];exact Iff.rfl
theorem aEj:LV n xs ys↔LV (n.c xs ys).nd xs ys:=by unfold LV;rw[Nj (n:=n)];exact Iff.rfl
theorem qd:CV (n.c xs ys).nd (n.c xs ys).xs (n.c xs ys).ys=CV n xs ys:=propext y4.symm
theorem aC8:LV (n.c xs ys).nd (n.c xs ys).xs (n.c xs ys).ys=LV n xs ys:=propext aEj.symm
def Ck(b:Nat)(xs:List Int):Nv:=(cn b xs (none,0)).c xs []
noncomputable def iU (v:Nv) (i:Int):Option Int:=Fj v.nd v.xs v.ys v.bm.toNat i
noncomputable def Na (v:Nv):Option Int:=r7 v.nd v.xs v.ys
def Ke(o:Option (Nat×List Int)):Nv:=match o with|some q=>Ck q.1 q.2|none=>Nv.zero
noncomputable def nh (v:Nv) (i r:Int):Nv:=Ke (q9 v.nd v.xs v.ys v.bm.toNat i r)
noncomputable def Up (v:Nv) (i r:Int):Nv:=Ke (s8 v.nd v.xs v.ys v.bm.toNat i r)
noncomputable def Pg (v:Nv) (i:Int):Nv:=Ke (tc v.nd v.xs v.ys v.bm.toNat i)
def tmV(s:Nv):Nv:=(tmb s.nd).c [] []
noncomputable def coV (v:Nv) (level:Int) (s:Nv):Nv:=if Tw v.nd v.xs v.ys level s.nd=true then tmV s else v
def unV(v:Nv):Nv:=(Gp v.nd).c [] []
noncomputable def grV (v:Nv) (k:ByteArray) (u:Int):Nv:=(sb (lS v.nd v.xs v.ys k u) v.hash (none,0)).c [] (di (lS v.nd v.xs v.ys k u))
noncomputable def xh (v:Nv) (k:ByteArray):Nv:=(Ph (rC v.nd v.xs v.ys k) v.hash (none,0)).c [] (Jv (rC v.nd v.xs v.ys k))
section
variable{n s:Nd}{xs:List Int}{ys:List Pr}{b:Nat}
theorem aBt(hb:n.bm=(b:Int))(i:Int):Fj n xs ys b i=iU (n.c xs ys) i:=by
 have e:(n.c xs ys).bm.toNat=b:=by show n.bm.toNat=b;omega
 unfold iU Fj;rw[e];rw[qd (n:=n)];rfl
theorem aBV:r7 n xs ys=Na (n.c xs ys):=by unfold Na r7;rw[qd (n:=n)];rfl
theorem Jc(o:Option (Nat×List Int))(x:Option Addr×Nat):(nN o x).c (nC o) []=Ke o:=by cases o<;>rfl
theorem aEg(hb:n.bm=(b:Int))(i r:Int):Ke (q9 n xs ys b i r)=nh (n.c xs ys) i r:=by
 have e:(n.c xs ys).bm.toNat=b:=by show n.bm.toNat=b;omega
 unfold nh q9;rw[e];rw[qd (n:=n)];rfl
theorem aDy(hb:n.bm=(b:Int))(i r:Int):Ke (s8 n xs ys b i r)=Up (n.c xs ys) i r:=by
 have e:(n.c xs ys).bm.toNat=b:=by show n.bm.toNat=b;omega
 unfold Up s8;rw[e];rw[qd (n:=n)];rfl
theorem aDg(hb:n.bm=(b:Int))(i:Int):Ke (tc n xs ys b i)=Pg (n.c xs ys) i:=by
 have e:(n.c xs ys).bm.toNat=b:=by show n.bm.toNat=b;omega
 unfold Pg tc;rw[e];rw[qd (n:=n)];rfl
theorem aEx(level:Int):(reN (Tw n xs ys level s) n s).c (ta (Tw n xs ys level s) xs) (ta (Tw n xs ys level s) ys)=coV (n.c xs ys) level (s.c [] []):=by
 have e:Tw (n.c xs ys).nd xs ys level (s.c [] []).nd=Tw n xs ys level s:=by unfold Tw;rw[aBV (n:=n)];rfl
 have e':Tw (n.c xs ys).nd (n.c xs ys).xs (n.c xs ys).ys level (s.c [] []).nd=Tw n xs ys level s:=e;unfold coV reN ta;rw[e'];split<;>rfl
theorem aCB:(Gp n).c [] []=unV (n.c xs ys):=by unfold unV Gp;show _=Nd.c (if n.kind=5 then _ else _) _ _;split<;>rfl
theorem aEC(k:ByteArray)(u:Int)(x:Option Addr×Nat):(sb (lS n xs ys k u) n.hash x).c [] (di (lS n xs ys k u))=grV (n.c xs ys) k u:=by
 have e':lS (n.c xs ys).nd (n.c xs ys).xs (n.c xs ys).ys k u=lS n xs ys k u:=by unfold lS;rw[aC8 (n:=n)];rfl
 unfold grV;rw[e'];cases lS n xs ys k u<;>rfl
theorem aEB(k:ByteArray)(x:Option Addr×Nat):(Ph (rC n xs ys k) n.hash x).c [] (Jv (rC n xs ys k))=xh (n.c xs ys) k:=by
 have e':rC (n.c xs ys).nd (n.c xs ys).xs (n.c xs ys).ys k=rC n xs ys k:=by unfold rC;rw[aC8 (n:=n)];rfl
 unfold xh;rw[e'];cases rC n xs ys k with
 | none=>rfl
 | some m=>unfold Ph;simp only[Jv];split<;>rfl
end
end
end Go.Proofs.YtbajmaoegmbfgaaGreat
namespace Go.Ct
open Go Go.RowKit
section
def sl(h l:Nat):Nat:=(h >>> (6*l))%64
theorem xN(h l:Nat):sl h l<64:=Nat.mod_lt _ (by decide)
theorem m6(h l:Nat):(h >>> (6*l)) &&& 63=sl h l:=Nat.and_two_pow_sub_one_eq_mod _ 6
theorem Oy(h j:Nat):(h >>> (6*j))/64=h >>> (6*(j+1)):=by rw[show 6*(j+1)=6*j+6 by omega,Nat.shiftRight_add,Nat.shiftRight_eq_div_pow (h >>> (6*j)) 6]
def Jo(h k:Nat):Nat->Nat->Nat
 | 0,l=>l
 | n+1,l=>if sl h l=sl k l then Jo h k n (l+1) else l
def kX(h k:Nat):Nat:=Jo h k 11 0
theorem yM(h k:Nat):∀n l,l<=Jo h k n l/\Jo h k n l<=l+n/\(∀i,l<=i->i<Jo h k n l->sl h i=sl k i)/\(Jo h k n l<l+n->sl h (Jo h k n l)≠sl k (Jo h k n l))
 | 0,l=>⟨Nat.le_refl _,Nat.le_refl _,λ i h1 h2=>absurd h2 (by simp only[Jo];omega),λ h=>absurd h (by simp only[Jo];omega)⟩
 | n+1,l=>by
  simp only[Jo];split
  ·rename_i he;obtain⟨h1,h2,h3,h4⟩:=yM h k n (l+1);refine⟨by omega,by omega,λ i hi hi2=>?_,λ hlt=>h4 (by omega)⟩;rcases Nat.lt_or_eq_of_le hi with hi|rfl;·exact h3 i (by omega) hi2
   ·exact he
  ·rename_i he;exact⟨Nat.le_refl _,by omega,λ i h1 h2=>absurd h2 (by omega),λ _=>he⟩
theorem Aa(h k:Nat):kX h k<=11:=by have:=(yM h k 11 0).2.1;unfold kX;omega
theorem T5{h k i:Nat}(hi:i<kX h k):sl h i=sl k i:=(yM h k 11 0).2.2.1 i (Nat.zero_le _) hi
theorem Nz{h k:Nat}(hc:kX h k<11):sl h (kX h k)≠sl k (kX h k):=(yM h k 11 0).2.2.2 (by unfold kX at hc;omega)
theorem Ni{h k l:Nat}(hl:l<=11)(h1:∀i,i<l->sl h i=sl k i)(h2:l<11->sl h l≠sl k l):l=kX h k:=by
 rcases Nat.lt_trichotomy l (kX h k) with h3|h3|h3;·exact absurd (T5 h3) (h2 (by have:=Aa h k;omega))
 ·exact h3
 ·exact absurd (h1 _ h3) (Nz (by omega))
theorem aCp{P:Program}{S:List (Nat×Value)}{G:World->Prop}{d:Nat}{ty t t':TypeId}{pos:String}{af:Array Edge}{gd:Option (Nat×Bool)}{x y:Operand}{a b:Nat}(hx:ev S x=.int .u64 (a:Int))(hy:ev S y=.int .u64 (b:Int))(h0:b≠0)(ha:a<18446744073709551616):aM P S G ⟨some d,.binOp .quo t x y t',ty,pos,af,gd⟩ (.int .u64 ((a/b:Nat):Int)):=⟨λ w _=>by
 have h1:((b:Nat):Int)≠0:=by omega
 have h2:(a:Int).tdiv (b:Int)=((a/b:Nat):Int):=by rw[Int.tdiv_eq_ediv_of_nonneg (by omega)];rfl
 have h3:IntKind.u64.wrap ((a/b:Nat):Int)=((a/b:Nat):Int):=by have h4:=Nat.div_le_self a b;generalize a/b=q at h4 ⊢;rw[wrap_u64];omega
 simp only[execOp,hx,hy,eqGuard_at_int,binOp,Op.intDiv];simp[h0,h2];exact h3⟩
section
variable{P:Program}{S:List (Nat×Value)}{G:World->Prop}{d:Nat}{ty t t':TypeId}{pos:String}{af:Array Edge}{gd:Option (Nat×Bool)}{x y:Operand}{a b i:Nat}{k':IntKind}
theorem vb(hx:ev S x=.int .i64 (a:Int))(hy:ev S y=.int .i64 (b:Int))(h:a*b<=9223372036854775807):aM P S G ⟨some d,.binOp .mul t x y t',ty,pos,af,gd⟩ (.int .i64 ((a*b:Nat):Int)):=by have:=zt (P:=P) (G:=G) (d:=d) (ty:=ty) (pos:=pos) (af:=af) (gd:=gd) (t:=t) (t':=t') hx hy;rw[<- Int.natCast_mul,wrap_i64 (by omega) (by omega)] at this;exact this
theorem aBB(hx:ev S x=.int .u64 (a:Int))(hy:ev S y=.int k' (i:Int))(h:i<=64):aM P S G ⟨some d,.binOp .shr t x y t',ty,pos,af,gd⟩ (.int .u64 ((a >>> i:Nat):Int)):=by have:=qt (P:=P) (G:=G) (d:=d) (ty:=ty) (pos:=pos) (af:=af) (gd:=gd) (t:=t) (t':=t') hx hy (by omega);rwa [pA h] at this
theorem Uo(hx:ev S x=.int .u64 (a:Int))(hy:ev S y=.int .u64 (b:Int))(ha:a<18446744073709551616)(hb:b<18446744073709551616):aM P S G ⟨some d,.binOp .and t x y t',ty,pos,af,gd⟩ (.int .u64 ((a &&& b:Nat):Int)):=by have:=aAE (P:=P) (G:=G) (d:=d) (ty:=ty) (pos:=pos) (af:=af) (gd:=gd) (t:=t) (t':=t') hx hy;rwa [pC ha hb] at this
theorem aBG(hx:ev S x=.int .u64 (a:Int))(hy:ev S y=.int .u64 (b:Int))(h0:b≠0):aM P S G ⟨some d,.binOp .rem t x y t',ty,pos,af,gd⟩ (.int .u64 ((a%b:Nat):Int)):=by have:=im (P:=P) (G:=G) (d:=d) (ty:=ty) (pos:=pos) (af:=af) (gd:=gd) (t:=t) (t':=t') hx hy (by omega);rwa [Int.tmod_eq_emod_of_nonneg (by omega),<- Int.natCast_emod] at this
end
end
end Go.Ct
namespace Go.Proofs.YtbajmaoegmbfgaaGreat
open Go.Proofs.Tryz
open Go.RowKit Go.Ct
section
theorem Zr{h l:Nat}(hh:h<18446744073709551616)(hl:l<=10)(w:World):Calls prog 150 #[.int .u64 (h:Int),.int .i64 (l:Int)] w λ e w'=>e=.returned (.int .i64 ((sl h l:Nat):Int))/\St w [] [] w':=by
 have hsl:(h >>> (6*l)) &&& 63<64:=by rw[m6];exact xN h l
 refine enter func150 ntmps150 rfl rfl (SF.s0 w) ?_;simp only[cC];refine Ka7 ?_;refine A1 ?_;(refine Ka3 ?_);((refine aF ?_;refine lQ ?_));refine Kd8 ?_;refine bD (λ c10=>?_) (λ c10=>?_);·try (exfalso;omega)
 ·try (exfalso;omega)
  refine Bo ?_;refine aC (vb (a:=6) (b:=l) rf rf (by omega)) rfl ?_;refine gX ?_;refine aC (aBB (i:=6*l) rf rf (by omega)) rfl ?_;refine aC (Uo (b:=63) rf rf (Nat.lt_of_le_of_lt (Nat.shiftRight_le _ _) hh) (by decide)) rfl ?_;refine gX ?_;refine J1 ?_;refine aS results150 (λ w hw=>?_);exact⟨by rw[m6];rfl,hw.done⟩
theorem qZ{h l:Nat}(hh:h<18446744073709551616)(hl:l<=10)(w:World):Calls prog 218 #[.int .u64 (h:Int),.int .i64 (l:Int)] w λ e w'=>e=.returned (.int .i64 ((sl h l:Nat):Int))/\St w [] [] w':=by
 refine enter func218 ntmps218 rfl rfl (SF.s0 w) ?_;simp only[cC];refine Ka7 ?_;refine A1 ?_;(refine Ka3 ?_);refine Ka8 ?_;refine bD (λ c10=>?_) (λ c10=>?_);·try (exfalso;omega)
 ·try (exfalso;omega)
  refine rT ?_;refine gF [0,1,11,12,13,14,15,16] (λ y:Nat=>[(1,.int .i64 ((l-y:Nat):Int)),(0,.int .u64 ((h >>> (6*y):Nat):Int))]) (λ y=>y<=l) (λ y=>l-y) (0) (Nat.zero_le _) ?_ (λ y f hx=>?_);·repeat (first|exact bF _|refine aX (by exact rfl) ?_)
  refine K0a ?_;refine jS ?_;refine Eo ?_;refine aG ?_;refine bD (λ c12=>?_) (λ c12=>?_)
  ·try (exfalso;omega)
   refine rT ?_;refine yG ?_;refine aP (fD (aCp (b:=64) rf rf (by decide) (Nat.lt_of_le_of_lt (Nat.shiftRight_le _ _) hh))) (λ x16=>?_);refine J1 ?_;refine eV ?_;refine yG ?_;refine sV ?_;refine J1 ?_;refine eG (y+1) ?_ ?_ ?_;·omega
   ·repeat' (first|exact bF _|refine aX ?_ ?_)
    all_goals (first|exact rfl|(conv=>{lhs;whnf};rw[Oy];done))
   ·omega
  ·try (exfalso;omega)
   refine K1t ?_;refine J2 ?_;refine aC (aBG (b:=64) rf rf (by decide)) rfl ?_;refine gX ?_;refine J1 ?_;refine aS results218 (λ w hw=>?_);have hy:y=l:=by omega
   subst hy;exact⟨rfl,hw.done⟩
theorem Pv{h k:Nat}(hh:h<18446744073709551616)(hk:k<18446744073709551616)(w:World):Calls prog 260 #[.int .u64 (h:Int),.int .u64 (k:Int)] w λ e w'=>e=.returned (.int .i64 ((kX h k:Nat):Int))/\St w [] [] w':=by
 refine enter func260 ntmps260 rfl rfl (SF.s0 w) ?_;simp only[cC];refine cU ?_;refine cU ?_;refine Dj ?_;refine gF [5,6,7,8,9,10,11,12,13,14,15,16,17,18] (λ y:Nat=>[(5,.int .i64 ((y:Nat):Int))]) (λ y=>y<=11/\∀i,i<y->sl h i=sl k i) (λ y=>11-y) (0) (⟨Nat.zero_le _,λ i hi=>absurd hi (Nat.not_lt_zero i)⟩) ?_ (λ y f hx=>?_);·repeat (first|exact bF _|refine aX (by exact rfl) ?_)
 refine K0a ?_;refine jS ?_;refine xR ?_;refine aA ?_;(refine eE 8 (λ g8=>?_) (λ g8=>?_)<;>refine Ka0 ?_);all_goals (refine Ka0 ?_;(first|refine aI ?_|(refine aF ?_;refine aP (cV (hc:=λ w1 hw=>qZ (l:=y) hh (by omega) w1)) (λ x11=>?_)));refine Ka0 ?_;refine Ka0 ?_;(first|refine aI ?_|(refine aF ?_;refine aP (cV (hc:=λ w1 hw=>qZ (l:=y) hk (by omega) w1)) (λ x14=>?_)));refine vY ?_;refine aG ?_)
 all_goals
 refine bD (λ c16=>?_) (λ c16=>?_)
 ·try exact nv c16
  all_goals (refine aW ?_;refine cO ?_;refine vF ?_;refine eV ?_)
  all_goals
   refine eG (y+1) ?_ ?_ ?_;·omega
   ·repeat' (first|exact bF _|refine aX ?_ ?_)
    exact rfl
   ·exact⟨by omega,λ i hi=>by rcases Nat.lt_succ_iff_lt_or_eq.1 hi with h|rfl;exact hx.2 i h;omega⟩
 ·all_goals try (exfalso;omega)
  all_goals (refine bR rfl ?_;refine Ka4 ?_)
  all_goals refine aS results260 (λ w hw=>?_);exact⟨by rw[<- Ni (h:=h) (k:=k) hx.1 hx.2 (λ _=>by omega)];rfl,hw.done⟩
end
end Go.Proofs.YtbajmaoegmbfgaaGreat

/- Tombs: Grown, Shrunk: both sides; agrees. -/
import Derived.Test.YtpobgmdalcpomaaGreatGBr2
import Derived.Test.YtpobgmdalcpomaaGreatGSlices2
import Derived.Test.YtpobgmdalcpomaaGreatGJoin

set_option linter.unusedSimpArgs false
set_option linter.unusedVariables false
namespace Go.Proofs.YtpobgmdalcpomaaGreat
open Go.RowKit Go.Ct
def grN(o:Option (List Pr))(h:Int)(x:Option Addr×Nat):Nd:=match o with|some m=>{Nd.zero with kind:=6,hash:=h,prA:=x.1,prN:=m.length,prC:=x.2}|none=>Nd.zero
def grL(o:Option (List Pr)):List Pr:=o.getD []
def shN(o:Option (List Pr))(h:Int)(x:Option Addr×Nat):Nd:=match o with|some m=>if m.length=1 then{Nd.zero with kind:=5,hash:=h,key:=(m.getD 0 (⟨#[]⟩,0)).1,val:=(m.getD 0 (⟨#[]⟩,0)).2} else{Nd.zero with kind:=6,hash:=h,prA:=x.1,prN:=m.length,prC:=x.2}|none=>Nd.zero
def shL(o:Option (List Pr)):List Pr:=match o with|some m=>if m.length=1 then [] else m|none=>[]
open Classical in
noncomputable def growO (n:Nd) (xs:List Int) (ys:List Pr) (k:ByteArray) (v:Int):Option (List Pr):=if LV n xs ys/\k.size<=64 then some (putO ys k v) else none
open Classical in
noncomputable def shrO (n:Nd) (xs:List Int) (ys:List Pr) (k:ByteArray):Option (List Pr):=if LV n xs ys/\(findO ys k).isSome=true then some (dropO ys k) else none
def GRes(w:World)(o:Option (List Pr))(h:Int)(e:Ending)(w':World):Prop:=∃x:Option Addr×Nat,e=.returned (.tuple #[(grN o h x).v,.bool o.isSome])/\(grL o).length<=x.2/\SF w [] [] [] [(x.1,prC (grL o))] [] w'
def HRes(w:World)(o:Option (List Pr))(h:Int)(e:Ending)(w':World):Prop:=∃x:Option Addr×Nat,e=.returned (.tuple #[(shN o h x).v,.bool o.isSome])/\(shL o).length<=x.2/\SF w [] [] [] [(x.1,prC (shL o))] [] w'
section
variable{n s:Nd}{xs:List Int}{ys:List Pr}{w:World}{b:Nat}
theorem refGrown_c(k:ByteArray)(v:Int)(hb:n.bm=(b:Int))(hb2:b<18446744073709551616)(hr:Rep w n xs ys)(hy:ys.length<=150000000000):Calls Tryz.prog 138 #[n.v,.string k,.int .u64 v] w (GRes w (growO n xs ys k v) n.hash):=by
 have e2:=hr.prN
 refine enter Tryz.func138 Tryz.ntmps138 rfl rfl (SF.s1 hr.pr) ?_
 simp only[mkS]
 simp only[Nd.v,Nd.cells,e2]
 all_goals (refine J0 ?_;refine j_box (λ x3=>?_);refine j_alloc (λ x6=>?_);refine J27 ?_;refine J25 ?_;(refine j_own (c0 (V:=.bool) (hc:=λ w1 hw=>by rw[<- e2];exact refLst_c (n:=n) hb hb2 (hr.keep0 hw.done))) (λ x9=>?_);try (refine l_fact (λ h9=>?_)));refine J59 ?_)
 all_goals (first|refine j_un ?_|(refine j_yes ?_;refine j_move ?_)|(refine lcs 11 (λ g11=>?_) (λ g11=>?_)<;>(first|refine j_un ?_|(refine j_yes ?_;refine j_move ?_))))
 all_goals ((first|refine j_un ?_|(refine j_yes ?_;refine j_lenStr ?_));refine J22 ?_;refine l_nil ?_)
 all_goals
 refine kif (λ c15=>?_) (λ c15=>?_)
 ·try exact nv c15
  all_goals (refine J0 ?_;refine j_build ?_;refine J46 ?_)
  all_goals
   refine k_rt Tryz.results138 (λ w hw=>?_)
   rw[show growO n xs ys k v=none from if_neg (by rintro ⟨t1,t2⟩;have:=h9.2 t1;clear hw;first|omega|(simp_all;done)|(simp_all;omega))];exact⟨(none,0),rfl,Nat.le_refl _,(hw.fnil none).fin⟩
 ·try exact nv c15
  all_goals (refine J16 ?_;refine k_dp [(0,[]),(1,[]),(2,[]),(3,[]),(4,[]),(5,[]),(6,[1]),(7,[]),(8,[]),(9,[])] ?_;refine J15 ?_;refine J15 ?_;refine J17 ?_;((refine r_own (i:=6) (hq:=(cF (hc:=λ w1 hw=>refPut_c (l:=ys) k v (hw.cl fin) (by omega)))) (h:=λ x23=>?_);try (refine r_fact (λ h23=>?_))));refine r_build ?_;refine J40 ?_)
  all_goals
   refine k_rt Tryz.results138 (λ w hw=>?_)
   rw[show growO n xs ys k v=some (putO ys k v) from if_pos ⟨h9.1 (by clear hw;simp_all),by omega⟩];exact⟨x23,rfl,h23,hw.fin⟩
theorem refShrunk_c(k:ByteArray)(hb:n.bm=(b:Int))(hb2:b<18446744073709551616)(hr:Rep w n xs ys)(hy:ys.length<=150000000000):Calls Tryz.prog 142 #[n.v,.string k] w (HRes w (shrO n xs ys k) n.hash):=by
 have e2:=hr.prN
 refine enter Tryz.func142 Tryz.ntmps142 rfl rfl (SF.s1 hr.pr) ?_
 simp only[mkS]
 simp only[Nd.v,Nd.cells,e2]
 all_goals (refine J0 ?_;refine j_box (λ x2=>?_);refine j_alloc (λ x4=>?_);refine J27 ?_;refine J24 ?_;refine j_move ?_;(refine j_own (cV (hc:=λ w1 hw=>refFind_c (l:=ys) k (hw.cl fin) (by omega))) (λ x13=>?_);try (refine l_fact (λ h13=>?_)));refine j_move ?_;refine l_quiet (o_extr rf rfl) rfl ?_;refine l_quiet (o_extr rf rfl) rfl ?_;refine J8 ?_;refine J25 ?_;(refine j_own (c0 (V:=.bool) (hc:=λ w1 hw=>by rw[<- e2];exact refLst_c (n:=n) hb hb2 (hr.keep0 hw.done))) (λ x17=>?_);try (refine l_fact (λ h17=>?_)));refine J59 ?_)
 all_goals (first|refine j_un ?_|(refine j_yes ?_;refine j_move ?_)|(refine lcs 19 (λ g19=>?_) (λ g19=>?_)<;>(first|refine j_un ?_|(refine j_yes ?_;refine j_move ?_))))
 all_goals (refine J31 ?_;refine l_nil ?_)
 all_goals
 refine kif (λ c22=>?_) (λ c22=>?_)
 ·try exact nv c22
  all_goals (refine J0 ?_;refine j_build ?_;refine J46 ?_)
  all_goals
   refine k_rt Tryz.results142 (λ w hw=>?_)
   rw[show shrO n xs ys k=none from if_neg (by rintro ⟨t1,t2⟩;have:=h17.2 t1;clear hw;simp_all)];exact⟨(none,0),rfl,Nat.le_refl _,(hw.fnil none).fin⟩
 ·try exact nv c22
  all_goals (refine k_skip ?_;refine J24 ?_;refine j_move ?_;(refine j_own (cF (hc:=λ w1 hw=>refDrop_c (l:=ys) k (hw.cl fin) (by omega))) (λ x27=>?_);try (refine l_fact (λ h27=>?_)));refine J27 ?_;refine J2 ?_;refine j_len ?_;refine J50 ?_)
  all_goals
   refine kif (λ c30=>?_) (λ c30=>?_)
   ·try exact nv c30
    all_goals (refine k_seq ?_;refine k_dq [0,1,2,3,4,5,6,7,8,9,10,11,12] ?_;refine J15 ?_;refine r_move ?_;refine r_ownQ (i:=3) (hq:=(o_indexP (k:=0) rf rf sl1 ag1 fin (by omega) (by omega))) (h:=?_);refine J15 ?_;refine r_move ?_;refine r_ownQ (i:=7) (hq:=(o_indexP (k:=0) rf rf sl1 ag1 fin (by omega) (by omega))) (h:=?_);refine r_fieldAddr ?_;refine r_ownQ (i:=9) (hq:=(o_loadPv (q:=0) (lst:=dropO ys k) rf on1 fin (by omega))) (h:=?_);refine r_build ?_;refine J40 ?_)
    all_goals
    refine k_rt Tryz.results142 (λ w hw=>?_)
    have e1:(dropO ys k).length=1:=by omega
    rw[show shrO n xs ys k=some (dropO ys k) from if_pos ⟨h17.1 (by clear hw;simp_all),by clear hw;simp_all⟩];exact⟨(none,0),by simp only[shN,if_pos e1];rfl,by simp only[shL,if_pos e1];exact Nat.le_refl _,by simp only[shL,if_pos e1];exact(hw.fnil none).fin⟩
   ·try exact nv c30
    all_goals (refine k_skip ?_;refine J24 ?_;refine j_move ?_;refine j_build ?_;refine J46 ?_)
    all_goals
    refine k_rt Tryz.results142 (λ w hw=>?_)
    have e1:¬(dropO ys k).length=1:=by omega
    rw[show shrO n xs ys k=some (dropO ys k) from if_pos ⟨h17.1 (by clear hw;simp_all),by clear hw;simp_all⟩];exact⟨x27,by simp only[shN,if_neg e1];rfl,by simp only[shL,if_neg e1];exact h27,by simp only[shL,if_neg e1];exact hw.fin⟩
end
end Go.Proofs.YtpobgmdalcpomaaGreat

/- Branches: lists of lists, joined; the C-node of them. -/
namespace Go.Ct
open Go Go.RowKit
section
variable{P:Program}{n:Nat}{S:List (Nat×Value)}
variable{w0 w w':World}{M:List Nat}{H H':List (Nat×Obj)}{A F F':Fr}{O O':List Ow}{G:World->Prop}
variable{d:Nat}{ty:TypeId}{pos:String}{af:Array Edge}{gd:Option (Nat×Bool)}{dst:Option Nat}{x y z:Operand}{t t2 e:TypeId}{p a:Option Addr}{i m k c c2:Nat}
end
end Go.Ct
namespace Go.Proofs.YtpobgmdalcpomaaGreat
open Go Go.RowKit Go.Ct
end Go.Proofs.YtpobgmdalcpomaaGreat

/- Branches: Inserted, Updated, Removed. -/
namespace Go.Proofs.YtpobgmdalcpomaaGreat
open Go.RowKit Go.Ct
open Classical in
noncomputable def inO (n:Nd) (xs:List Int) (ys:List Pr) (b:Nat) (i r:Int):Option (Nat×List Int):=if CV n xs ys/\(0<=i/\i<64)/\1<=r/\hasI b i=false then some (withI b i,insL xs (posN b i) r) else none
open Classical in
noncomputable def upO (n:Nd) (xs:List Int) (ys:List Pr) (b:Nat) (i r:Int):Option (Nat×List Int):=if CV n xs ys/\1<=r/\hasI b i=true then some (b,updL xs (posN b i) r) else none
open Classical in
noncomputable def reO (n:Nd) (xs:List Int) (ys:List Pr) (b:Nat) (i:Int):Option (Nat×List Int):=if CV n xs ys/\hasI b i=true then some (withoutI b i,remL xs (posN b i)) else none
def resN(o:Option (Nat×List Int))(x:Option Addr×Nat):Nd:=match o with|some q=>cn q.1 q.2 x|none=>Nd.zero
def resL(o:Option (Nat×List Int)):List Int:=match o with|some q=>q.2|none=>[]
def CRes(w:World)(o:Option (Nat×List Int))(e:Ending)(w':World):Prop:=∃x:Option Addr×Nat,e=.returned (.tuple #[(resN o x).v,.bool o.isSome])/\(resL o).length<=x.2/\SF w [] [] [] [(x.1,refsC (resL o))] [] w'
section
variable{n:Nd}{xs:List Int}{ys:List Pr}{w:World}{b:Nat}
end
end Go.Proofs.YtpobgmdalcpomaaGreat

/- Branches: the reference's build, Inserted, Updated, Removed. -/
namespace Go.Proofs.YtpobgmdalcpomaaGreat
open Go.RowKit Go.Ct
def updR(b:Nat)(xs:List Int)(i:Nat)(r:Int):Nat->Option Int:=upd (mOf b xs) i (if 0<r then some r else none)
theorem bOf_some{m:Nat->Option Int}{k:Nat}{v:Int}(h:m k=some v)(hk:k<64):withI (bOf m k) (k:Int)=bOf m (k+1)/\lOf m k++[v]=lOf m (k+1):=by
 simp only[bOf,lOf,h,withI,Option.isSome_some,if_true,Option.toList,Int.toNat_natCast,and_true]
 exact if_pos (by omega)
theorem bOf_none{m:Nat->Option Int}{k:Nat}(h:m k=none):bOf m k=bOf m (k+1)/\lOf m k=lOf m (k+1):=by
 simp[bOf,lOf,h]
theorem bOf_lt64(m:Nat->Option Int){k:Nat}(hk:k<=64):bOf m k<18446744073709551616:=Nat.lt_of_lt_of_le (bOf_lt m k) (Nat.pow_le_pow_right (n:=2) (by decide) hk)
theorem lOf_len(m:Nat->Option Int):∀k,(lOf m k).length<=k
 | 0=>Nat.le_refl _
 | k+1=>by have:=lOf_len m k;simp only[lOf,List.length_append];cases m k<;>simp<;>omega
section
variable{n:Nd}{xs:List Int}{ys:List Pr}{w:World}{b:Nat}
theorem lkO_mOf(hcv:CV n xs ys){k:Nat}(hk:k<64):lkO n xs ys b (k:Int)=mOf b xs k:=by
 unfold lkO mOf
 have h1:hasI b (k:Int)=b.testBit k:=by rw[hasI_in b (by omega) (by omega),Int.toNat_natCast]
 have h2:posN b (k:Int)=cnt b k:=by unfold posN;rw[Int.toNat_natCast,Nat.min_eq_left (by omega)]
 rw[h1,h2]
 by_cases h:b.testBit k=true<;>simp[h,hcv]
theorem updR_ne{i k:Nat}{r:Int}(hcv:CV n xs ys)(hk:k<64)(h:(k:Int)≠(i:Int)):updR b xs i r k=lkO n xs ys b (k:Int):=by
 rw[lkO_mOf hcv hk]
 exact if_neg (by omega)
theorem updR_eq{i k:Nat}{r:Int}(h:(k:Int)=(i:Int)):updR b xs i r k=if 0<r then some r else none:=if_pos (by omega)
theorem some_of{o:Option Int}(h:o.isSome=true):o=some (o.getD 0):=by cases o<;>simp_all
theorem none_of{o:Option Int}(h:o.isSome=false):o=none:=by cases o<;>simp_all
set_option maxHeartbeats 800000 in
theorem build_c(i:Nat)(r:Int)(_hi:i<64)(hcv:CV n xs ys)(hb:n.bm=(b:Int))(hb2:b<18446744073709551616)(hr:Rep w n xs ys) :
    Calls Tryz.prog 135 #[n.v,.int .i64 (i:Int),.int .i64 r] w λ e w'=>∃x:Option Addr×Nat,e=.returned (cn (bOf (updR b xs i r) 64) (lOf (updR b xs i r) 64) x).v/\(lOf (updR b xs i r) 64).length<=x.2/\SF w [] [] [] [(x.1,refsC (lOf (updR b xs i r) 64))] [] w':=by
  have e1:=hr.brN
  refine enter Tryz.func135 Tryz.ntmps135 rfl rfl (SF.s2 hr.br hr.pr) ?_
  simp only[mkS]
  simp only[Nd.v,Nd.cells]
  all_goals (refine J0 ?_;refine j_box (λ x3=>?_);refine j_alloc (λ x6=>?_);refine l_nil ?_;refine J0 ?_;refine j_build ?_;refine j_alloc (λ x7=>?_);refine J5 ?_;refine k_seq ?_;refine J69 ?_)
  all_goals
   refine k_lp [8,9,10,12,13,14,15,16,17,18,19,20,21,22,23,24,25,26,27,28,29,30,31,32,33,34,35,36,37,38,39] (λ y:Nat×Option Addr×Nat=>[(8,.int .i64 ((y.1:Nat):Int))]) (λ y=>y.1<=64/\(lOf (updR b xs i r) y.1).length<=y.2.2) (λ y=>[(x7,.cells ⟨[.int .i64 3,.int .i64 0,.int .i64 0,.int .u64 ((bOf (updR b xs i r) y.1:Nat):Int),.slice y.2.1 (lOf (updR b xs i r) y.1).length y.2.2,.int .u64 0,.string ⟨#[]⟩,.int .u64 0,.slice none 0 0,.int .i64 0,.int .i64 0,.int .i64 0,.int .i64 0,.int .i64 0]⟩ 59),(x6,.cells ⟨Nd.zero.cells⟩ 59),(x3,.cells ⟨n.cells⟩ 59)]) (λ _=>_) (λ y=>[⟨y.2.1,refsC (lOf (updR b xs i r) y.1),y.2.2,52,1⟩]) (λ y=>64-y.1) ((0,none,0)) (⟨Nat.zero_le _,Nat.le_refl _⟩) (λ y f hx=>?_) (hw0:=λ w hw=>(hw.nilOwn 52 1).back)
   dsimp only[mkU,List.map,List.cons_append,List.nil_append]
   have hll:=lOf_len (updR b xs i r) y.1
   all_goals (refine J32 ?_;refine J47 ?_)
   all_goals
    refine kif (λ c13=>?_) (λ c13=>?_)
    · try exact nv c13
      all_goals (refine J37 ?_;refine J71 ?_;(refine j_own (cV (hc:=λ w1 hw=>refLookup_c (n:=n) (y.1:Int) hb hb2 (hr.keep0 hw.done))) (λ x19=>?_);try (refine l_fact (λ h19=>?_)));refine j_move ?_;refine l_quiet (o_extract rf rfl) rfl ?_;refine l_quiet (o_extract rf rfl) rfl ?_;refine J8 ?_;refine J65 ?_;refine J50 ?_)
      all_goals
       refine kif (λ c24=>?_) (λ c24=>?_)
       · try exact nv c24
         all_goals (refine J76 ?_;refine j_gtr ?_;refine J8 ?_;refine J2 ?_;refine l_nil ?_)
         all_goals
          refine kif (λ c28=>?_) (λ c28=>?_)
          · try exact nv c28
            all_goals
             first
              | have hm:updR b xs i r y.1=some r:=by rw[updR_eq c24,if_pos (by omega)]
              | have hm:updR b xs i r y.1=some ((lkO n xs ys b (y.1:Int)).getD 0):=by rw[updR_ne hcv (by omega) c24];exact some_of c28
            all_goals
             refine k_joinG [29,30,31,32,33,34,35,36,37,38,39] (λ z:Nat×Option Addr×Nat=>[]) (λ z=>(lOf (updR b xs i r) y.1).length+1<=z.2.2) (λ z=>[(x7,.cells ⟨[.int .i64 3,.int .i64 0,.int .i64 0,.int .u64 ((bOf (updR b xs i r) (y.1+1):Nat):Int),.slice z.2.1 (lOf (updR b xs i r) (y.1+1)).length z.2.2,.int .u64 0,.string ⟨#[]⟩,.int .u64 0,.slice none 0 0,.int .i64 0,.int .i64 0,.int .i64 0,.int .i64 0,.int .i64 0]⟩ 59),(x6,.cells ⟨Nd.zero.cells⟩ 59),(x3,.cells ⟨n.cells⟩ 59)]) (λ z=>[]) (λ z=>[⟨z.2.1,refsC (lOf (updR b xs i r) (y.1+1)),z.2.2,52,1⟩]) (by decide) (λ _=>by exact rfl) ?_ (λ z f hx=>?_)
             · refine k_drawF (.one 0 [] (.one 1 [] (.one 2 [] (.one 4 [] (.one 5 [] (.one 6 [] (.two 3 [5] (.one 9 [] (.one 7 [1,5] (.one 8 [] (.one 10 [] (.one 11 [] (.one 12 [] .nil)))))) 0 [] (.two 7 [1,5] (.one 3 [5] (.one 9 [] (.one 8 [] (.one 10 [] (.one 11 [] (.one 12 [] .nil)))))) 0 [] .nil)))))))) ?_
               all_goals (refine J15 ?_;refine r_move ?_;refine J15 ?_;refine r_move ?_)
               all_goals
                refine r_many (E:=[3,7]) (by decide +kernel) ((.cons ?_ (.cons ?_ .nil)))
                · (refine s_own (i:=3) (hq:=(cV (hc:=λ w1 hw=>refWith_c (bOf_lt64 (updR b xs i r) (k:=y.1) (by omega)) (y.1:Int) w1))) (h:=λ x32=>?_);try (refine r_fact (λ h32=>?_)))
                  all_goals (refine r_fieldAddr ?_;refine r_buildSlice (h:=λ x36=>?_);((refine r_append (h:=λ x37=>?_);try (refine r_fact (λ h37=>?_))));refine J51 ?_;refine J19 ?_)
                  all_goals
                   refine k_rj ((0,x37)) ?_ (hw1:=λ w hw=>by obtain⟨k1,k2⟩:=bOf_some hm (by omega);rw[k1,show(lOf (updR b xs i r) y.1).length+1=(lOf (updR b xs i r) (y.1+1)).length by rw[<- k2];simp,k2] at hw;exact hw.back)
                   · exact h37
                · refine s_buildSlice (i:=7) (h:=λ x36=>?_)
                  all_goals (((refine r_own (i:=3) (hq:=(cV (hc:=λ w1 hw=>refWith_c (bOf_lt64 (updR b xs i r) (k:=y.1) (by omega)) (y.1:Int) w1))) (h:=λ x32=>?_);try (refine r_fact (λ h32=>?_))));refine r_fieldAddr ?_;((refine r_append (h:=λ x37=>?_);try (refine r_fact (λ h37=>?_))));refine J51 ?_;refine J19 ?_)
                  all_goals
                   refine k_rj ((0,x37)) ?_ (hw1:=λ w hw=>by obtain⟨k1,k2⟩:=bOf_some hm (by omega);rw[k1,show(lOf (updR b xs i r) y.1).length+1=(lOf (updR b xs i r) (y.1+1)).length by rw[<- k2];simp,k2] at hw;exact hw.back)
                   · exact h37
             dsimp only[mkU,List.map,List.cons_append,List.nil_append]
            all_goals (refine k_blk ?_;refine J70 ?_)
            all_goals
             refine k_rd ((by first|exact(y.1+1,z.2)|exact(y.1+1,y.2))) ?_ (hw1:=λ w hw=>by first|(rw[(bOf_none hm).1,(bOf_none hm).2] at hw;exact hw.back)|exact hw.back)
             · first
                | exact⟨by omega,by have k2:=(bOf_some hm (by omega)).2;simp only[];rw[<- k2,List.length_append];exact hx⟩
                | exact⟨by omega,by simp only[];rw[<- (bOf_none hm).2];exact hx.2⟩
          · try exact nv c28
            all_goals
             have hm:updR b xs i r y.1=none:=by
              first
               | (rw[updR_eq c24,if_neg (by omega)];done)
               | (rw[updR_ne hcv (by omega) c24];exact none_of c28)
            all_goals (refine J34 ?_;refine J70 ?_)
            all_goals
             refine k_rd ((by first|exact(y.1+1,z.2)|exact(y.1+1,y.2))) ?_ (hw1:=λ w hw=>by first|(rw[(bOf_none hm).1,(bOf_none hm).2] at hw;exact hw.back)|exact hw.back)
             · first
                | exact⟨by omega,by have k2:=(bOf_some hm (by omega)).2;simp only[];rw[<- k2,List.length_append];exact hx⟩
                | exact⟨by omega,by simp only[];rw[<- (bOf_none hm).2];exact hx.2⟩
       · try exact nv c24
         all_goals (refine k_skip ?_;refine J2 ?_;refine l_nil ?_)
         all_goals
          refine kif (λ c28=>?_) (λ c28=>?_)
          · try exact nv c28
            all_goals
             first
              | have hm:updR b xs i r y.1=some r:=by rw[updR_eq c24,if_pos (by omega)]
              | have hm:updR b xs i r y.1=some ((lkO n xs ys b (y.1:Int)).getD 0):=by rw[updR_ne hcv (by omega) c24];exact some_of c28
            all_goals
             refine k_joinG [29,30,31,32,33,34,35,36,37,38,39] (λ z:Nat×Option Addr×Nat=>[]) (λ z=>(lOf (updR b xs i r) y.1).length+1<=z.2.2) (λ z=>[(x7,.cells ⟨[.int .i64 3,.int .i64 0,.int .i64 0,.int .u64 ((bOf (updR b xs i r) (y.1+1):Nat):Int),.slice z.2.1 (lOf (updR b xs i r) (y.1+1)).length z.2.2,.int .u64 0,.string ⟨#[]⟩,.int .u64 0,.slice none 0 0,.int .i64 0,.int .i64 0,.int .i64 0,.int .i64 0,.int .i64 0]⟩ 59),(x6,.cells ⟨Nd.zero.cells⟩ 59),(x3,.cells ⟨n.cells⟩ 59)]) (λ z=>[]) (λ z=>[⟨z.2.1,refsC (lOf (updR b xs i r) (y.1+1)),z.2.2,52,1⟩]) (by decide) (λ _=>by exact rfl) ?_ (λ z f hx=>?_)
             · refine k_drawF (.one 0 [] (.one 1 [] (.one 2 [] (.one 4 [] (.one 5 [] (.one 6 [] (.two 3 [5] (.one 9 [] (.one 7 [1,5] (.one 8 [] (.one 10 [] (.one 11 [] (.one 12 [] .nil)))))) 0 [] (.two 7 [1,5] (.one 3 [5] (.one 9 [] (.one 8 [] (.one 10 [] (.one 11 [] (.one 12 [] .nil)))))) 0 [] .nil)))))))) ?_
               all_goals (refine J15 ?_;refine r_move ?_;refine J15 ?_;refine r_move ?_)
               all_goals
                refine r_many (E:=[3,7]) (by decide +kernel) ((.cons ?_ (.cons ?_ .nil)))
                · (refine s_own (i:=3) (hq:=(cV (hc:=λ w1 hw=>refWith_c (bOf_lt64 (updR b xs i r) (k:=y.1) (by omega)) (y.1:Int) w1))) (h:=λ x32=>?_);try (refine r_fact (λ h32=>?_)))
                  all_goals (refine r_fieldAddr ?_;refine r_buildSlice (h:=λ x36=>?_);((refine r_append (h:=λ x37=>?_);try (refine r_fact (λ h37=>?_))));refine J51 ?_;refine J19 ?_)
                  all_goals
                   refine k_rj ((0,x37)) ?_ (hw1:=λ w hw=>by obtain⟨k1,k2⟩:=bOf_some hm (by omega);rw[k1,show(lOf (updR b xs i r) y.1).length+1=(lOf (updR b xs i r) (y.1+1)).length by rw[<- k2];simp,k2] at hw;exact hw.back)
                   · exact h37
                · refine s_buildSlice (i:=7) (h:=λ x36=>?_)
                  all_goals (((refine r_own (i:=3) (hq:=(cV (hc:=λ w1 hw=>refWith_c (bOf_lt64 (updR b xs i r) (k:=y.1) (by omega)) (y.1:Int) w1))) (h:=λ x32=>?_);try (refine r_fact (λ h32=>?_))));refine r_fieldAddr ?_;((refine r_append (h:=λ x37=>?_);try (refine r_fact (λ h37=>?_))));refine J51 ?_;refine J19 ?_)
                  all_goals
                   refine k_rj ((0,x37)) ?_ (hw1:=λ w hw=>by obtain⟨k1,k2⟩:=bOf_some hm (by omega);rw[k1,show(lOf (updR b xs i r) y.1).length+1=(lOf (updR b xs i r) (y.1+1)).length by rw[<- k2];simp,k2] at hw;exact hw.back)
                   · exact h37
             dsimp only[mkU,List.map,List.cons_append,List.nil_append]
            all_goals (refine k_blk ?_;refine J70 ?_)
            all_goals
             refine k_rd ((by first|exact(y.1+1,z.2)|exact(y.1+1,y.2))) ?_ (hw1:=λ w hw=>by first|(rw[(bOf_none hm).1,(bOf_none hm).2] at hw;exact hw.back)|exact hw.back)
             · first
                | exact⟨by omega,by have k2:=(bOf_some hm (by omega)).2;simp only[];rw[<- k2,List.length_append];exact hx⟩
                | exact⟨by omega,by simp only[];rw[<- (bOf_none hm).2];exact hx.2⟩
          · try exact nv c28
            all_goals
             have hm:updR b xs i r y.1=none:=by
              first
               | (rw[updR_eq c24,if_neg (by omega)];done)
               | (rw[updR_ne hcv (by omega) c24];exact none_of c28)
            all_goals (refine J34 ?_;refine J70 ?_)
            all_goals
             refine k_rd ((by first|exact(y.1+1,z.2)|exact(y.1+1,y.2))) ?_ (hw1:=λ w hw=>by first|(rw[(bOf_none hm).1,(bOf_none hm).2] at hw;exact hw.back)|exact hw.back)
             · first
                | exact⟨by omega,by have k2:=(bOf_some hm (by omega)).2;simp only[];rw[<- k2,List.length_append];exact hx⟩
                | exact⟨by omega,by simp only[];rw[<- (bOf_none hm).2];exact hx.2⟩
    · try exact nv c13
      all_goals (refine k_exit rfl ?_;refine J25 ?_;refine J5 ?_)
      all_goals
       refine k_rt Tryz.results135 (λ w hw=>?_)
       have hy:y.1=64:=by omega
       rw[hy] at hw hx ⊢
       generalize bOf (updR b xs i r) 64=B at hw ⊢
       generalize lOf (updR b xs i r) 64=L at hw hx ⊢
       exact⟨y.2,rfl,hx.2,SF.frz hw.finH⟩
end
end Go.Proofs.YtpobgmdalcpomaaGreat

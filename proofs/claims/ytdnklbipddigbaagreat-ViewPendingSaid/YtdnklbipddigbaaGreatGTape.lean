/- Merged. -/
import Derived.Test.YtdnklbipddigbaaGreatAuto
import Derived.Test.YtdnklbipddigbaaGreatGNode4
import Derived.Test.YtdnklbipddigbaaGreatGPa1
import Derived.Test.YtdnklbipddigbaaGreatGNode8
set_option linter.unusedSimpArgs false
set_option linter.unusedVariables false
namespace Go.Proofs.YtdnklbipddigbaaGreat
open Go.RowKit Go.Ct
section
abbrev tpO:=tapeO 94
abbrev TpAt(w:World):=TapeAt w 94
theorem mod_c(v n:Int)(w:World)(hn:IntKind.u64.wrap n≠0):Calls Tryz.prog 11 #[.int .i64 v,.int .i64 n] w λ e w'=>e=.returned (.int .i64 (modv v n))/\St w [] [] w':=by refine enter Tryz.func11 Tryz.ntmps11 rfl rfl (SF.s0 w) ?_;simp only[mkS];refine J10 ?_;refine J2 ?_;refine j_convert ?_;refine j_move ?_;refine j_convert ?_;refine j_rem ?_;refine j_convert ?_;refine J1 ?_;refine k_rv Tryz.results11 (λ w hw=>?_);exact⟨rfl,hw.done⟩
theorem new_c{l:List Int}{a:Option Addr}{c:Nat}{w:World}:Calls Tryz.prog 9 #[.slice a l.length c] w λ e w' =>
  ∃b:Nat,e=.returned (.pointer (some ⟨b,0,none⟩))/\True/\SF w [] [(b,tpO a l c 0)] [] [] [] w':=by refine enter Tryz.func9 Tryz.ntmps9 rfl rfl (SF.s0 w) ?_;simp only[mkS];refine J10 ?_;refine J2 ?_;refine j_build ?_;refine j_box (λ x5=>?_);refine J1 ?_;refine k_rv Tryz.results9 (λ w hw=>?_);exact⟨x5,rfl,trivial,hw.finH⟩
theorem next_c{l:List Int}{a:Option Addr}{b c k:Nat}{w:World}(n:Int)(ht:TpAt w b a l c k)(h0:0<n)(h1:n<=9223372036854775807) :
  Calls Tryz.prog 18 #[.pointer (some ⟨b,0,none⟩),.int .i64 n] w λ e w' =>
  ∃v:Nat,e=.returned (.int .i64 ((v:Nat):Int))/\((v:Int)<n/\v=tvN l k n)/\SF w [b] ((b,tpO a l c (tiN l k))::[]) [] [] [] w':=by
 have hl:=ht.len;have hu:IntKind.u64.wrap n≠0:=by rw[wrap_u64];omega
 refine enter Tryz.func18 Tryz.ntmps18 rfl rfl ht.start ?_;simp only[mkS];refine J75 ?_;refine k_seq ?_;refine k_dq [0,1,2,3,4,5,6,7,8,9] ?_;refine Kf1 ?_;refine r_geq ?_;refine r_fin ?_;refine kif (λ c14=>?_) (λ c14=>?_);·refine J10 ?_;refine k_rv Tryz.results18 (λ w hw=>?_);exact⟨0,rfl,⟨by omega,by simp only[tvN];rw[if_neg (by omega)]⟩,by simp only[tiN];rw[if_neg (by omega)];exact hw.finH⟩
 ·refine J83 ?_;refine j_inc ?_;refine J61 ?_;refine k_seq ?_;refine k_dq [0,1,2,3,4,5,6,7,8,9,10,11,12,13] ?_;refine J42 ?_;refine r_dec ?_;refine J48 ?_;refine r_move ?_;refine r_own (i:=12) (hq:=(cV (hc:=λ w1 hw=>mod_c (l.getD (k+1-1) 0) n w1 hu))) (h:=λ x34=>?_);refine J7 ?_;refine k_rv Tryz.results18 (λ w hw=>?_);have hb:=modv_bound (v:=l.getD k 0) h0 h1;exact⟨(modv (l.getD k 0) n).toNat,by rw[Int.toNat_of_nonneg hb.1];rfl,⟨by omega,by simp only[tvN];rw[if_pos (by omega)]⟩,by simp only[tiN];rw[if_pos (by omega)];exact hw.finH⟩
def keys8:List ByteArray:=[⟨#[97]⟩,⟨#[98]⟩,⟨#[99]⟩,⟨#[100]⟩,⟨#[97,98]⟩,⟨#[]⟩,⟨#[98,48]⟩,⟨#[107,101,121]⟩]
theorem key_c{l:List Int}{a:Option Addr}{b c k:Nat}{w:World}(ht:TpAt w b a l c k) :
  Calls Tryz.prog 80 #[.pointer (some ⟨b,0,none⟩)] w λ e w' =>
  ∃v:Nat,e=.returned (.string (keys8.getD v ⟨#[]⟩))/\(v<8/\v=tvN l k 8)/\SF w [b] ((b,tpO a l c (tiN l k))::[]) [] [] [] w':=by refine enter Tryz.func80 Tryz.ntmps80 rfl rfl ht.start ?_;simp only[mkS];refine J10 ?_;refine J0 ?_;refine j_buildSlice (λ x3=>?_);refine j_move ?_;refine j_ownF (cF1 (hc:=λ w1 hw=>next_c 8 (hw.tape atT fin ht.len) (by decide) (by decide))) (λ x5 h5=>?_);refine l_quiet (o_indexS (lst:=keys8) rf rf sl1 on1 fin (by omega) (by simp only[keys8,List.length_cons,List.length_nil];omega)) rfl ?_;refine l_quiet (o_loadS (lst:=keys8) rf on1 fin (by simp only[keys8,List.length_cons,List.length_nil];omega)) rfl ?_;refine J1 ?_;refine k_rv Tryz.results80 (λ w hw=>?_);exact⟨x5,rfl,⟨by omega,h5.2⟩,hw.finH⟩
end
end Go.Proofs.YtdnklbipddigbaaGreat
namespace Go.Ct
section
end
end Go.Ct
namespace Go.Proofs.YtdnklbipddigbaaGreat
open Go.Proofs.Tryz (prog)
section
open Go.RowKit Go.Ct
end
section
open Go.RowKit Go.Ct
def tmb(s:Nd):Nd:={Nd.zero with kind:=5,hash:=s.hash,key:=s.key,val:=s.val}
def unN(n:Nd):Nd:=if n.kind=5 then{Nd.zero with kind:=4,hash:=n.hash,key:=n.key,val:=n.val} else Nd.zero
theorem refUntombed_c(n:Nd)(w:World):Calls prog 211 #[n.v] w λ e w'=>e=.returned (.tuple #[(unN n).v,.bool (decide (n.kind=5))])/\St w [] [] w':=by
 refine enter Tryz.func211 Tryz.ntmps211 rfl rfl (SF.s0 w) ?_;simp only[mkS];simp only[Nd.v,Nd.cells];refine J0 ?_;refine j_box (λ x1=>?_);refine j_alloc (λ x2=>?_);refine J27 ?_;refine J24 ?_;refine Kb3 ?_;refine kif (λ c6=>?_) (λ c6=>?_);·refine J0 ?_;refine Kd9 ?_;refine k_rt Tryz.results211 (λ w hw=>?_);exact⟨by rw[show unN n=Nd.zero from if_neg (by assumption),decide_eq_false (by assumption)];rfl,hw.done⟩
 ·refine k_skip ?_;refine J24 ?_;refine J3 ?_;refine J3 ?_;refine Kd9 ?_;refine k_rt Tryz.results211 (λ w hw=>?_);exact⟨by rw[show unN n={Nd.zero with kind:=4,hash:=n.hash,key:=n.key,val:=n.val} from if_pos (by omega),decide_eq_true (by omega)];rfl,hw.done⟩
section
variable{n s:Nd}{xs:List Int}{ys:List Pr}{w:World}{b:Nat}
def LV(n:Nd)(xs:List Int)(ys:List Pr):Prop:=n.kind=6/\NdValid n xs ys
theorem refLst_c(hb:n.bm=(b:Int))(hb2:b<18446744073709551616)(hr:Rep w n xs ys):Calls prog 243 #[n.v] w λ e w'=>∃r:Bool,e=.returned (.bool r)/\(r=true↔LV n xs ys)/\St w [] [] w':=by
 refine enter Tryz.func243 Tryz.ntmps243 rfl rfl (SF.s0 w) ?_;simp only[mkS];simp only[Nd.v,Nd.cells];refine J0 ?_;refine j_box (λ x1=>?_);refine J1 ?_;refine J24 ?_;refine Kd4 ?_;(refine lcs 6 (λ g6=>?_) (λ g6=>?_)<;>refine Ka2 ?_);all_goals ((first|refine j_un ?_|(refine j_yes ?_;refine j_ownF (c0 (V:=.bool) (hc:=λ w1 hw=>refValid_c (n:=n) hb hb2 (hr.keep0 hw.done))) (λ x8 h8=>?_)));refine Kc6 ?_)
 all_goals
 refine k_rv Tryz.results243 (λ w hw=>?_);refine⟨_,rfl,?_,hw.done⟩;simp_all[LV]
open Classical in
noncomputable def coT (n:Nd) (xs:List Int) (ys:List Pr) (level:Int) (s:Nd):Bool:=decide ((soO n xs ys).isSome=true/\0<level/\s.kind=4)
def reN(t:Bool)(n s:Nd):Nd:=if t=true then tmb s else n
def coX{α:Type}(t:Bool)(l:List α):List α:=if t=true then [] else l
theorem refContracted_c(level:Int)(s:Nd)(hb:n.bm=(b:Int))(hb2:b<18446744073709551616)(hr:Rep w n xs ys):Calls prog 213 #[n.v,.int .i64 level,s.v] w λ e w'=>e=.returned (reN (coT n xs ys level s) n s).v/\St w [] [] w':=by
 refine enter Tryz.func213 Tryz.ntmps213 rfl rfl (SF.s0 w) ?_;simp only[mkS];simp only[Nd.v,Nd.cells];refine J0 ?_;refine j_box (λ x3=>?_);refine j_box (λ x5=>?_);refine j_alloc (λ x6=>?_);refine J80 ?_;refine J25 ?_;refine j_own (cV (hc:=λ w1 hw=>refSole_c (n:=n) hb hb2 (hr.keep0 hw.done))) (λ x11=>?_);refine j_move ?_;refine l_quiet (o_extr rf rfl) rfl ?_;refine l_quiet (o_extr rf rfl) rfl ?_;refine J8 ?_;refine J11 ?_;(refine lcs 15 (λ g15=>?_) (λ g15=>?_)<;>refine Ka0 ?_);all_goals (refine Ke7 ?_)
 all_goals (first|refine j_un ?_|(refine lcs 19 (λ g19=>?_) (λ g19=>?_)<;>refine Ka1 ?_))
 all_goals (refine J78 ?_;refine l_nil ?_)
 all_goals
 refine kif (λ c23=>?_) (λ c23=>?_)
 ·try exact nv c23
  all_goals (refine J24 ?_;refine J3 ?_;refine J3 ?_;refine J52 ?_)
  all_goals refine k_rt Tryz.results213 (λ w hw=>?_);rw[show coT n xs ys level s=true from decide_eq_true ⟨by assumption,by omega,by omega⟩];exact⟨rfl,hw.done⟩
 ·all_goals (refine Kc5 ?_;refine J5 ?_)
  all_goals refine k_rt Tryz.results213 (λ w hw=>?_);rw[show coT n xs ys level s=false from decide_eq_false (by rintro ⟨t1,t2,t3⟩;first|omega|(clear hw;simp_all;done))];exact⟨rfl,hw.done⟩
end
end
section
open Go.RowKit Go.Ct
def grN(o:Option (List Pr))(h:Int)(x:Option Addr×Nat):Nd:=match o with|some m=>{Nd.zero with kind:=6,hash:=h,prA:=x.1,prN:=m.length,prC:=x.2}|none=>Nd.zero
def grL(o:Option (List Pr)):List Pr:=o.getD []
def shN(o:Option (List Pr))(h:Int)(x:Option Addr×Nat):Nd:=match o with|some m=>if m.length=1 then{Nd.zero with kind:=5,hash:=h,key:=(m.getD 0 (⟨#[]⟩,0)).1,val:=(m.getD 0 (⟨#[]⟩,0)).2} else{Nd.zero with kind:=6,hash:=h,prA:=x.1,prN:=m.length,prC:=x.2}|none=>Nd.zero
def shL(o:Option (List Pr)):List Pr:=match o with|some m=>if m.length=1 then [] else m|none=>[]
open Classical in
noncomputable def growO (n:Nd) (xs:List Int) (ys:List Pr) (k:ByteArray) (v:Int):Option (List Pr):=if LV n xs ys/\k.size<=64 then some (putO ys k v) else none
open Classical in
noncomputable def shrO (n:Nd) (xs:List Int) (ys:List Pr) (k:ByteArray):Option (List Pr):=if LV n xs ys/\(findO ys k).isSome=true then some (dropO ys k) else none
def GRes(w:World)(o:Option (List Pr))(h:Int)(e:Ending)(w':World):Prop:=∃x:Option Addr×Nat,e=.returned (.tuple #[(grN o h x).v,.bool o.isSome])/\(grL o).length<=x.2/\SF w [] [] [] [(x.1,prC (grL o))] [] w'
def HRes(w:World)(o:Option (List Pr))(h:Int)(e:Ending)(w':World):Prop:=∃x:Option Addr×Nat,e=.returned (.tuple #[(shN o h x).v,.bool o.isSome])/\(shL o).length<=x.2/\SF w [] [] [] [(x.1,prC (shL o))] [] w'
section
variable{n s:Nd}{xs:List Int}{ys:List Pr}{w:World}{b:Nat}
theorem refGrown_c(k:ByteArray)(v:Int)(hb:n.bm=(b:Int))(hb2:b<18446744073709551616)(hr:Rep w n xs ys)(hy:ys.length<=150000000000):Calls prog 235 #[n.v,.string k,.int .u64 v] w (GRes w (growO n xs ys k v) n.hash):=by
 have e2:=hr.prN;refine enter Tryz.func235 Tryz.ntmps235 rfl rfl (SF.s1 hr.pr) ?_;simp only[mkS];simp only[Nd.v,Nd.cells,e2];refine J0 ?_;refine j_box (λ x3=>?_);refine j_alloc (λ x6=>?_);refine J27 ?_;refine J25 ?_;refine j_ownF (c0 (V:=.bool) (hc:=λ w1 hw=>by rw[<- e2];exact refLst_c (n:=n) hb hb2 (hr.keep0 hw.done))) (λ x9 h9=>?_);refine J59 ?_;(refine lcs 11 (λ g11=>?_) (λ g11=>?_)<;>refine Ka0 ?_);all_goals ((first|refine j_un ?_|(refine j_yes ?_;refine j_lenStr ?_));refine Ka6 ?_)
 all_goals
 refine kif (λ c15=>?_) (λ c15=>?_)
 ·all_goals (refine J0 ?_;refine Kd9 ?_)
  all_goals refine k_rt Tryz.results235 (λ w hw=>?_);rw[show growO n xs ys k v=none from if_neg (by rintro ⟨t1,t2⟩;have:=h9.2 t1;clear hw;first|omega|(simp_all;done))];exact⟨(none,0),rfl,Nat.le_refl _,(hw.fnil none).fin⟩
 ·try exact nv c15
  all_goals (refine J16 ?_;refine k_dp [(0,[]),(1,[]),(2,[]),(3,[]),(4,[]),(5,[]),(6,[1]),(7,[]),(8,[]),(9,[])] ?_;refine J15 ?_;refine J15 ?_;refine J17 ?_;refine r_ownF (i:=6) (hq:=(cF (hc:=λ w1 hw=>refPut_c (l:=ys) k v (hw.cl fin) (by omega)))) (h:=λ x23 h23=>?_);refine r_build ?_;refine J40 ?_)
  all_goals refine k_rt Tryz.results235 (λ w hw=>?_);rw[show growO n xs ys k v=some (putO ys k v) from if_pos ⟨h9.1 (by clear hw;simp_all),by omega⟩];exact⟨x23,rfl,h23,hw.fin⟩
theorem refShrunk_c(k:ByteArray)(hb:n.bm=(b:Int))(hb2:b<18446744073709551616)(hr:Rep w n xs ys)(hy:ys.length<=150000000000):Calls prog 239 #[n.v,.string k] w (HRes w (shrO n xs ys k) n.hash):=by
 have e2:=hr.prN;refine enter Tryz.func239 Tryz.ntmps239 rfl rfl (SF.s1 hr.pr) ?_;simp only[mkS];simp only[Nd.v,Nd.cells,e2];refine J0 ?_;refine j_box (λ x2=>?_);refine j_alloc (λ x4=>?_);refine J27 ?_;refine Kc4 ?_;refine j_own (cV (hc:=λ w1 hw=>refFind_c (l:=ys) k (hw.cl fin) (by omega))) (λ x13=>?_);refine j_move ?_;refine l_quiet (o_extr rf rfl) rfl ?_;refine l_quiet (o_extr rf rfl) rfl ?_;refine J8 ?_;refine J25 ?_;refine j_ownF (c0 (V:=.bool) (hc:=λ w1 hw=>by rw[<- e2];exact refLst_c (n:=n) hb hb2 (hr.keep0 hw.done))) (λ x17 h17=>?_);refine J59 ?_;(refine lcs 19 (λ g19=>?_) (λ g19=>?_)<;>refine Ka0 ?_);all_goals (refine Kd3 ?_)
 all_goals
 refine kif (λ c22=>?_) (λ c22=>?_)
 ·all_goals (refine J0 ?_;refine Kd9 ?_)
  all_goals refine k_rt Tryz.results239 (λ w hw=>?_);rw[show shrO n xs ys k=none from if_neg (by rintro ⟨t1,t2⟩;have:=h17.2 t1;clear hw;simp_all)];exact⟨(none,0),rfl,Nat.le_refl _,(hw.fnil none).fin⟩
 ·try exact nv c22
  all_goals (refine k_skip ?_;refine Kc4 ?_;refine j_ownF (cF (hc:=λ w1 hw=>refDrop_c (l:=ys) k (hw.cl fin) (by omega))) (λ x27 h27=>?_);refine Ke3 ?_;refine j_len ?_;refine J50 ?_)
  all_goals
   refine kif (λ c30=>?_) (λ c30=>?_)
   ·refine k_seq ?_;refine k_dq [0,1,2,3,4,5,6,7,8,9,10,11,12] ?_;refine Kf7 ?_;refine r_ownQ (i:=3) (hq:=(o_indexP (k:=0) rf rf sl1 ag1 fin (by omega) (by omega))) (h:=?_);refine Kf7 ?_;refine r_ownQ (i:=7) (hq:=(o_indexP (k:=0) rf rf sl1 ag1 fin (by omega) (by omega))) (h:=?_);refine r_fieldAddr ?_;refine r_ownQ (i:=9) (hq:=(o_loadPv (q:=0) (lst:=dropO ys k) rf on1 fin (by omega))) (h:=?_);refine r_build ?_;refine J40 ?_;refine k_rt Tryz.results239 (λ w hw=>?_);have e1:(dropO ys k).length=1:=by omega
    rw[show shrO n xs ys k=some (dropO ys k) from if_pos ⟨h17.1 (by clear hw;simp_all),by clear hw;simp_all⟩];exact⟨(none,0),by simp only[shN,if_pos e1];rfl,by simp only[shL,if_pos e1];exact Nat.le_refl _,by simp only[shL,if_pos e1];exact(hw.fnil none).fin⟩
   ·refine k_skip ?_;refine Kc4 ?_;refine Kd9 ?_;refine k_rt Tryz.results239 (λ w hw=>?_);have e1:¬(dropO ys k).length=1:=by omega
    rw[show shrO n xs ys k=some (dropO ys k) from if_pos ⟨h17.1 (by clear hw;simp_all),by clear hw;simp_all⟩];exact⟨x27,by simp only[shN,if_neg e1];rfl,by simp only[shL,if_neg e1];exact h27,by simp only[shL,if_neg e1];exact hw.fin⟩
end
end
end Go.Proofs.YtdnklbipddigbaaGreat
namespace Go.Ct
open Go Go.RowKit
section
section
variable{P:Program}{n:Nat}{S:List (Nat×Value)}
variable{w0 w w':World}{M:List Nat}{H H':List (Nat×Obj)}{A F F':Fr}{O O':List Ow}{G:World->Prop}
variable{d:Nat}{ty:TypeId}{pos:String}{af:Array Edge}{gd:Option (Nat×Bool)}{dst:Option Nat}{x y z:Operand}{t t2 e:TypeId}{p a:Option Addr}{i m k c c2:Nat}
end
end
end Go.Ct
namespace Go.Proofs.YtdnklbipddigbaaGreat
section
open Go Go.RowKit Go.Ct
end
section
open Go.RowKit Go.Ct
open Classical in
noncomputable def inO (n:Nd) (xs:List Int) (ys:List Pr) (b:Nat) (i r:Int):Option (Nat×List Int):=if CV n xs ys/\(0<=i/\i<64)/\1<=r/\hasI b i=false then some (withI b i,insL xs (posN b i) r) else none
open Classical in
noncomputable def upO (n:Nd) (xs:List Int) (ys:List Pr) (b:Nat) (i r:Int):Option (Nat×List Int):=if CV n xs ys/\1<=r/\hasI b i=true then some (b,updL xs (posN b i) r) else none
open Classical in
noncomputable def reO (n:Nd) (xs:List Int) (ys:List Pr) (b:Nat) (i:Int):Option (Nat×List Int):=if CV n xs ys/\hasI b i=true then some (withoutI b i,remL xs (posN b i)) else none
def resN(o:Option (Nat×List Int))(x:Option Addr×Nat):Nd:=match o with|some q=>cn q.1 q.2 x|none=>Nd.zero
def resL(o:Option (Nat×List Int)):List Int:=match o with|some q=>q.2|none=>[]
def CRes(w:World)(o:Option (Nat×List Int))(e:Ending)(w':World):Prop:=∃x:Option Addr×Nat,e=.returned (.tuple #[(resN o x).v,.bool o.isSome])/\(resL o).length<=x.2/\SF w [] [] [] [(x.1,refsC (resL o))] [] w'
section
variable{n:Nd}{xs:List Int}{ys:List Pr}{w:World}{b:Nat}
end
end
end Go.Proofs.YtdnklbipddigbaaGreat

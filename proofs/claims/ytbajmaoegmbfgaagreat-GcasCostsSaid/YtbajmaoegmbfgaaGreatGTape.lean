/- Tapes: choices out of a list of numbers. -/
import Derived.Test.YtbajmaoegmbfgaaGreatAuto
import Derived.Test.YtbajmaoegmbfgaaGreatGNode1
import Derived.Test.YtbajmaoegmbfgaaGreatGPa1
import Derived.Test.YtbajmaoegmbfgaaGreatGBr

set_option linter.unusedSimpArgs false
set_option linter.unusedVariables false
namespace Go.Proofs.YtbajmaoegmbfgaaGreat
section
open Go.RowKit Go.Ct
abbrev Jw:=aw 114
abbrev nu(w:World):=K1 w 114
theorem zm(v n:Int)(w:World)(hn:IntKind.u64.wrap n≠0):Calls Tryz.prog 46 #[.int .i64 v,.int .i64 n] w λ e w'=>e=.returned (.int .i64 (X4 v n))/\St w [] [] w':=by
 refine enter Tryz.func46 Tryz.ntmps46 rfl rfl (SF.s0 w) ?_
 simp only[cD]
 refine cP ?_;refine J2 ?_;refine mZ ?_;refine aA ?_;refine mZ ?_;refine zp ?_;refine mZ ?_;refine J1 ?_
 refine aQ Tryz.results46 (λ w hw=>?_)
 exact⟨rfl,hw.done⟩
theorem s7{l:List Int}{a:Option Addr}{c:Nat}{w:World}:Calls Tryz.prog 21 #[.slice a l.length c] w λ e w' =>
  ∃b:Nat,e=.returned (.pointer (some ⟨b,0,none⟩))/\True/\SF w [] [(b,Jw a l c 0)] [] [] [] w':=by
 refine enter Tryz.func21 Tryz.ntmps21 rfl rfl (SF.s0 w) ?_
 simp only[cD]
 refine cP ?_;refine J2 ?_;refine bM ?_;refine bK (λ x5=>?_);refine J1 ?_
 refine aQ Tryz.results21 (λ w hw=>?_)
 exact⟨x5,rfl,trivial,hw.aV⟩
theorem eL{l:List Int}{a:Option Addr}{b c k:Nat}{w:World}(n:Int)(ht:nu w b a l c k)(h0:0<n)(h1:n<=9223372036854775807) :
  Calls Tryz.prog 22 #[.pointer (some ⟨b,0,none⟩),.int .i64 n] w λ e w' =>
  ∃v:Nat,e=.returned (.int .i64 ((v:Nat):Int))/\((v:Int)<n/\v=tvN l k n)/\SF w [b] ((b,Jw a l c (mM l k))::[]) [] [] [] w':=by
 have hl:=ht.len
 have hu:IntKind.u64.wrap n≠0:=by rw[wrap_u64];omega
 refine enter Tryz.func22 Tryz.ntmps22 rfl rfl ht.start ?_
 simp only[cD]
 refine Ha ?_;refine aS ?_;refine gM [0,1,2,3,4,5,6,7,8,9] ?_;refine D2 ?_;refine nV ?_;refine aAw ?_;refine eJ ?_
 refine aZ (λ c14=>?_) (λ c14=>?_)
 ·refine cP ?_
  refine aQ Tryz.results22 (λ w hw=>?_)
  exact⟨0,rfl,⟨by omega,by simp only[tvN];rw[if_neg (by omega)]⟩,by simp only[mM];rw[if_neg (by omega)];exact hw.aV⟩
 ·refine sc ?_;refine F6 ?_;refine Py ?_;refine aS ?_;refine gM [0,1,2,3,4,5,6,7,8,9,10,11,12,13] ?_;refine D2 ?_;refine Oa ?_;refine Rr ?_;refine aT ?_;refine cL (i:=12) (hq:=(cV (hc:=λ w1 hw=>zm (l.getD (k+1-1) 0) n w1 hu))) (h:=λ x34=>?_);refine J7 ?_
  refine aQ Tryz.results22 (λ w hw=>?_)
  have hb:=Sx (v:=l.getD k 0) h0 h1
  exact⟨(X4 (l.getD k 0) n).toNat,by rw[Int.toNat_of_nonneg hb.1];rfl,⟨by omega,by simp only[tvN];rw[if_pos (by omega)]⟩,by simp only[mM];rw[if_pos (by omega)];exact hw.aV⟩
def kO:List ByteArray:=[⟨#[97]⟩,⟨#[98]⟩,⟨#[99]⟩,⟨#[100]⟩,⟨#[97,98]⟩,⟨#[]⟩,⟨#[98,48]⟩,⟨#[107,101,121]⟩]
theorem sj{l:List Int}{a:Option Addr}{b c k:Nat}{w:World}(ht:nu w b a l c k) :
  Calls Tryz.prog 59 #[.pointer (some ⟨b,0,none⟩)] w λ e w' =>
  ∃v:Nat,e=.returned (.string (kO.getD v ⟨#[]⟩))/\(v<8/\v=tvN l k 8)/\SF w [b] ((b,Jw a l c (mM l k))::[]) [] [] [] w':=by
 refine enter Tryz.func59 Tryz.ntmps59 rfl rfl ht.start ?_
 simp only[cD]
 refine cP ?_;refine J0 ?_;refine eZ (λ x3=>?_);refine aA ?_;refine aD (vC (hc:=λ w1 hw=>eL 8 (hw.tape cX fin ht.len) (by decide) (by decide))) (λ x5 h5=>?_);refine aC (Zf (lst:=kO) rf rf gA fR fin (by omega) (by simp only[kO,List.length_cons,List.length_nil];omega)) rfl ?_;refine aC (nk (lst:=kO) rf fR fin (by simp only[kO,List.length_cons,List.length_nil];omega)) rfl ?_;refine J1 ?_
 refine aQ Tryz.results59 (λ w hw=>?_)
 exact⟨x5,rfl,⟨by omega,h5.2⟩,hw.aV⟩
end

/- Nodes and lists of pairs out of tapes. -/
end Go.Proofs.YtbajmaoegmbfgaaGreat
namespace Go.Ct
section
end
end Go.Ct
namespace Go.Proofs.YtbajmaoegmbfgaaGreat
section
open Go.RowKit Go.Ct
end

/- Tombs: Untombed, Contracted, Grown, Shrunk: both sides. -/
section
open Go.RowKit Go.Ct
def tmb(s:Nd):Nd:={Nd.zero with kind:=5,hash:=s.hash,key:=s.key,val:=s.val}
def Fo(n:Nd):Nd:=if n.kind=5 then{Nd.zero with kind:=4,hash:=n.hash,key:=n.key,val:=n.val} else Nd.zero
theorem Ig(n:Nd)(w:World):Calls Tryz.prog 219 #[n.v] w λ e w'=>e=.returned (.tuple #[(Fo n).v,.bool (decide (n.kind=5))])/\St w [] [] w':=by
 refine enter Tryz.func219 Tryz.ntmps219 rfl rfl (SF.s0 w) ?_
 simp only[cD]
 simp only[Nd.v,Nd.cells]
 refine J0 ?_;refine bK (λ x1=>?_);refine aJ (λ x2=>?_);refine iO ?_;refine hZ ?_;refine lU ?_;refine aH ?_
 refine aZ (λ c6=>?_) (λ c6=>?_)
 ·refine J0 ?_;refine bM ?_;refine Bi ?_
  refine aY Tryz.results219 (λ w hw=>?_)
  exact⟨by rw[show Fo n=Nd.zero from if_neg (by assumption),decide_eq_false (by assumption)];rfl,hw.done⟩
 ·refine aX ?_;refine hZ ?_;refine J3 ?_;refine J3 ?_;refine bM ?_;refine Bi ?_
  refine aY Tryz.results219 (λ w hw=>?_)
  exact⟨by rw[show Fo n={Nd.zero with kind:=4,hash:=n.hash,key:=n.key,val:=n.val} from if_pos (by omega),decide_eq_true (by omega)];rfl,hw.done⟩
section
variable{n s:Nd}{xs:List Int}{ys:List Pr}{w:World}{b:Nat}
def LV(n:Nd)(xs:List Int)(ys:List Pr):Prop:=n.kind=6/\cC n xs ys
theorem Qb(hb:n.bm=(b:Int))(hb2:b<18446744073709551616)(hr:rX w n xs ys):Calls Tryz.prog 255 #[n.v] w λ e w'=>∃r:Bool,e=.returned (.bool r)/\(r=true↔LV n xs ys)/\St w [] [] w':=by
 refine enter Tryz.func255 Tryz.ntmps255 rfl rfl (SF.s0 w) ?_
 simp only[cD]
 simp only[Nd.v,Nd.cells]
 refine J0 ?_;refine bK (λ x1=>?_);refine J1 ?_;refine hZ ?_;refine lK ?_;refine aA ?_
 (refine dX 6 (λ g6=>?_) (λ g6=>?_)<;>(first|refine aI ?_|(refine aE ?_;refine bP ?_)))
 all_goals ((first|refine aI ?_|(refine aE ?_;refine aD (c0 (V:=.bool) (hc:=λ w1 hw=>zE (n:=n) hb hb2 (hr.fW hw.done))) (λ x8 h8=>?_)));refine bY ?_;refine J1 ?_)
 all_goals
 refine aQ Tryz.results255 (λ w hw=>?_)
 refine⟨_,rfl,?_,hw.done⟩
 simp_all[LV]
open Classical in
noncomputable def Ti (n:Nd) (xs:List Int) (ys:List Pr) (level:Int) (s:Nd):Bool:=decide ((j1 n xs ys).isSome=true/\0<level/\s.kind=4)
def th(t:Bool)(n s:Nd):Nd:=if t=true then tmb s else n
def ka{α:Type}(t:Bool)(l:List α):List α:=if t=true then [] else l
theorem Du(level:Int)(s:Nd)(hb:n.bm=(b:Int))(hb2:b<18446744073709551616)(hr:rX w n xs ys):Calls Tryz.prog 221 #[n.v,.int .i64 level,s.v] w λ e w'=>e=.returned (th (Ti n xs ys level s) n s).v/\St w [] [] w':=by
 refine enter Tryz.func221 Tryz.ntmps221 rfl rfl (SF.s0 w) ?_
 simp only[cD]
 simp only[Nd.v,Nd.cells]
 refine J0 ?_;refine bK (λ x3=>?_);refine bK (λ x5=>?_);refine aJ (λ x6=>?_);refine Ru ?_;refine oC ?_;refine aN (cV (hc:=λ w1 hw=>Io (n:=n) hb hb2 (hr.fW hw.done))) (λ x11=>?_);refine aA ?_;refine aC (bQ rf rfl) rfl ?_;refine aC (bQ rf rfl) rfl ?_;refine J8 ?_;refine jA ?_
 (refine dX 15 (λ g15=>?_) (λ g15=>?_)<;>(first|refine aI ?_|(refine aE ?_;refine aA ?_)))
 all_goals (refine zJ ?_;refine aA ?_)
 all_goals (first|refine aI ?_|(refine dX 19 (λ g19=>?_) (λ g19=>?_)<;>(first|refine aI ?_|(refine aE ?_;refine aF ?_))))
 all_goals (refine u9 ?_;refine aH ?_)
 all_goals
 refine aZ (λ c23=>?_) (λ c23=>?_)
 ·try exact nv c23
  all_goals (refine hZ ?_;refine J3 ?_;refine J3 ?_;refine vL ?_)
  all_goals
   refine aY Tryz.results221 (λ w hw=>?_)
   rw[show Ti n xs ys level s=true from decide_eq_true ⟨by assumption,by omega,by omega⟩];exact⟨rfl,hw.done⟩
 ·all_goals (refine aX ?_;refine oC ?_;refine J5 ?_)
  all_goals
   refine aY Tryz.results221 (λ w hw=>?_)
   rw[show Ti n xs ys level s=false from decide_eq_false (by rintro ⟨t1,t2,t3⟩;first|omega|(clear hw;simp_all;done))];exact⟨rfl,hw.done⟩
end
end

/- Tombs: Grown, Shrunk: both sides; agrees. -/
section
open Go.RowKit Go.Ct
def dk(o:Option (List Pr))(h:Int)(x:Option Addr×Nat):Nd:=match o with|some m=>{Nd.zero with kind:=6,hash:=h,prA:=x.1,prN:=m.length,cR:=x.2}|none=>Nd.zero
def Ya(o:Option (List Pr)):List Pr:=o.getD []
def Mz(o:Option (List Pr))(h:Int)(x:Option Addr×Nat):Nd:=match o with|some m=>if m.length=1 then{Nd.zero with kind:=5,hash:=h,key:=(m.getD 0 (⟨#[]⟩,0)).1,val:=(m.getD 0 (⟨#[]⟩,0)).2} else{Nd.zero with kind:=6,hash:=h,prA:=x.1,prN:=m.length,cR:=x.2}|none=>Nd.zero
def Hy(o:Option (List Pr)):List Pr:=match o with|some m=>if m.length=1 then [] else m|none=>[]
open Classical in
noncomputable def kR (n:Nd) (xs:List Int) (ys:List Pr) (k:ByteArray) (v:Int):Option (List Pr):=if LV n xs ys/\k.size<=64 then some (Oo ys k v) else none
open Classical in
noncomputable def pF (n:Nd) (xs:List Int) (ys:List Pr) (k:ByteArray):Option (List Pr):=if LV n xs ys/\(dO ys k).isSome=true then some (rF ys k) else none
def zj(w:World)(o:Option (List Pr))(h:Int)(e:Ending)(w':World):Prop:=∃x:Option Addr×Nat,e=.returned (.tuple #[(dk o h x).v,.bool o.isSome])/\(Ya o).length<=x.2/\SF w [] [] [] [(x.1,cR (Ya o))] [] w'
def aAm(w:World)(o:Option (List Pr))(h:Int)(e:Ending)(w':World):Prop:=∃x:Option Addr×Nat,e=.returned (.tuple #[(Mz o h x).v,.bool o.isSome])/\(Hy o).length<=x.2/\SF w [] [] [] [(x.1,cR (Hy o))] [] w'
section
variable{n s:Nd}{xs:List Int}{ys:List Pr}{w:World}{b:Nat}
theorem Rk(k:ByteArray)(v:Int)(hb:n.bm=(b:Int))(hb2:b<18446744073709551616)(hr:rX w n xs ys)(hy:ys.length<=150000000000):Calls Tryz.prog 247 #[n.v,.string k,.int .u64 v] w (zj w (kR n xs ys k v) n.hash):=by
 have e2:=hr.prN
 refine enter Tryz.func247 Tryz.ntmps247 rfl rfl (SF.s1 hr.pr) ?_
 simp only[cD]
 simp only[Nd.v,Nd.cells,e2]
 refine J0 ?_;refine bK (λ x3=>?_);refine aJ (λ x6=>?_);refine iO ?_;refine oC ?_;refine aD (c0 (V:=.bool) (hc:=λ w1 hw=>by rw[<- e2];exact Qb (n:=n) hb hb2 (hr.fW hw.done))) (λ x9 h9=>?_);refine Cb ?_
 (refine dX 11 (λ g11=>?_) (λ g11=>?_)<;>(first|refine aI ?_|(refine aE ?_;refine aA ?_)))
 all_goals ((first|refine aI ?_|(refine aE ?_;refine mD ?_));refine zJ ?_;refine aH ?_)
 all_goals
 refine aZ (λ c15=>?_) (λ c15=>?_)
 ·all_goals (refine J0 ?_;refine bM ?_;refine Bi ?_)
  all_goals
   refine aY Tryz.results247 (λ w hw=>?_)
   rw[show kR n xs ys k v=none from if_neg (by rintro ⟨t1,t2⟩;have:=h9.2 t1;clear hw;first|omega|(simp_all;done))];exact⟨(none,0),rfl,Nat.le_refl _,(hw.Mg none).fin⟩
 ·try exact nv c15
  all_goals (refine kK ?_;refine dZ [(0,[]),(1,[]),(2,[]),(3,[]),(4,[]),(5,[]),(6,[1]),(7,[]),(8,[]),(9,[])] ?_;refine mI ?_;refine mI ?_;refine gV ?_;refine bB (i:=6) (hq:=(cF (hc:=λ w1 hw=>jv (l:=ys) k v (hw.cl fin) (by omega)))) (h:=λ x23 h23=>?_);refine iT ?_;refine A1 ?_)
  all_goals
   refine aY Tryz.results247 (λ w hw=>?_)
   rw[show kR n xs ys k v=some (Oo ys k v) from if_pos ⟨h9.1 (by clear hw;simp_all),by omega⟩];exact⟨x23,rfl,h23,hw.fin⟩
theorem N4(k:ByteArray)(hb:n.bm=(b:Int))(hb2:b<18446744073709551616)(hr:rX w n xs ys)(hy:ys.length<=150000000000):Calls Tryz.prog 251 #[n.v,.string k] w (aAm w (pF n xs ys k) n.hash):=by
 have e2:=hr.prN
 refine enter Tryz.func251 Tryz.ntmps251 rfl rfl (SF.s1 hr.pr) ?_
 simp only[cD]
 simp only[Nd.v,Nd.cells,e2]
 refine J0 ?_;refine bK (λ x2=>?_);refine aJ (λ x4=>?_);refine iO ?_;refine hZ ?_;refine aA ?_;refine aN (cV (hc:=λ w1 hw=>I6 (l:=ys) k (hw.cl fin) (by omega))) (λ x13=>?_);refine aA ?_;refine aC (bQ rf rfl) rfl ?_;refine aC (bQ rf rfl) rfl ?_;refine J8 ?_;refine oC ?_;refine aD (c0 (V:=.bool) (hc:=λ w1 hw=>by rw[<- e2];exact Qb (n:=n) hb hb2 (hr.fW hw.done))) (λ x17 h17=>?_);refine Cb ?_
 (refine dX 19 (λ g19=>?_) (λ g19=>?_)<;>(first|refine aI ?_|(refine aE ?_;refine aA ?_)))
 all_goals (refine Mv ?_;refine aH ?_)
 all_goals
 refine aZ (λ c22=>?_) (λ c22=>?_)
 ·all_goals (refine J0 ?_;refine bM ?_;refine Bi ?_)
  all_goals
   refine aY Tryz.results251 (λ w hw=>?_)
   rw[show pF n xs ys k=none from if_neg (by rintro ⟨t1,t2⟩;have:=h17.2 t1;clear hw;simp_all)];exact⟨(none,0),rfl,Nat.le_refl _,(hw.Mg none).fin⟩
 ·try exact nv c22
  all_goals (refine aX ?_;refine hZ ?_;refine aA ?_;refine aD (cF (hc:=λ w1 hw=>W4 (l:=ys) k (hw.cl fin) (by omega))) (λ x27 h27=>?_);refine iO ?_;refine J2 ?_;refine dJ ?_;refine sH ?_)
  all_goals
   refine aZ (λ c30=>?_) (λ c30=>?_)
   ·refine aS ?_;refine gM [0,1,2,3,4,5,6,7,8,9,10,11,12] ?_;refine mI ?_;refine aT ?_;refine bU (i:=3) (hq:=(E6 (k:=0) rf rf gA eP fin (by omega) (by omega))) (h:=?_);refine mI ?_;refine aT ?_;refine bU (i:=7) (hq:=(E6 (k:=0) rf rf gA eP fin (by omega) (by omega))) (h:=?_);refine aU ?_;refine bU (i:=9) (hq:=(O3 (q:=0) (lst:=rF ys k) rf fR fin (by omega))) (h:=?_);refine iT ?_;refine A1 ?_
    refine aY Tryz.results251 (λ w hw=>?_)
    have e1:(rF ys k).length=1:=by omega
    rw[show pF n xs ys k=some (rF ys k) from if_pos ⟨h17.1 (by clear hw;simp_all),by clear hw;simp_all⟩];exact⟨(none,0),by simp only[Mz,if_pos e1];rfl,by simp only[Hy,if_pos e1];exact Nat.le_refl _,by simp only[Hy,if_pos e1];exact(hw.Mg none).fin⟩
   ·refine aX ?_;refine hZ ?_;refine aA ?_;refine bM ?_;refine Bi ?_
    refine aY Tryz.results251 (λ w hw=>?_)
    have e1:¬(rF ys k).length=1:=by omega
    rw[show pF n xs ys k=some (rF ys k) from if_pos ⟨h17.1 (by clear hw;simp_all),by clear hw;simp_all⟩];exact⟨x27,by simp only[Mz,if_neg e1];rfl,by simp only[Hy,if_neg e1];exact h27,by simp only[Hy,if_neg e1];exact hw.fin⟩
end
end

/- Branches: lists of lists, joined; the C-node of them. -/
end Go.Proofs.YtbajmaoegmbfgaaGreat
namespace Go.Ct
section
open Go Go.RowKit
section
variable{P:Program}{n:Nat}{S:List (Nat×Value)}
variable{w0 w w':World}{M:List Nat}{H H':List (Nat×Obj)}{A F F':Fr}{O O':List Ow}{G:World->Prop}
variable{d:Nat}{ty:TypeId}{pos:String}{af:Array Edge}{gd:Option (Nat×Bool)}{dst:Option Nat}{x y z:Operand}{t t2 e:TypeId}{p a:Option Addr}{i m k c c2:Nat}
end
end
end Go.Ct
namespace Go.Proofs.YtbajmaoegmbfgaaGreat
section
open Go Go.RowKit Go.Ct
end

/- Branches: Inserted, Updated, Removed. -/
section
open Go.RowKit Go.Ct
open Classical in
noncomputable def j6 (n:Nd) (xs:List Int) (ys:List Pr) (b:Nat) (i r:Int):Option (Nat×List Int):=if CV n xs ys/\(0<=i/\i<64)/\1<=r/\pP b i=false then some (dR b i,uY xs (rB b i) r) else none
open Classical in
noncomputable def j4 (n:Nd) (xs:List Int) (ys:List Pr) (b:Nat) (i r:Int):Option (Nat×List Int):=if CV n xs ys/\1<=r/\pP b i=true then some (b,yN xs (rB b i) r) else none
open Classical in
noncomputable def j9 (n:Nd) (xs:List Int) (ys:List Pr) (b:Nat) (i:Int):Option (Nat×List Int):=if CV n xs ys/\pP b i=true then some (uU b i,sC xs (rB b i)) else none
def mK(o:Option (Nat×List Int))(x:Option Addr×Nat):Nd:=match o with|some q=>cn q.1 q.2 x|none=>Nd.zero
def mC(o:Option (Nat×List Int)):List Int:=match o with|some q=>q.2|none=>[]
def V3(w:World)(o:Option (Nat×List Int))(e:Ending)(w':World):Prop:=∃x:Option Addr×Nat,e=.returned (.tuple #[(mK o x).v,.bool o.isSome])/\(mC o).length<=x.2/\SF w [] [] [] [(x.1,aG (mC o))] [] w'
section
variable{n:Nd}{xs:List Int}{ys:List Pr}{w:World}{b:Nat}
end
end

end Go.Proofs.YtbajmaoegmbfgaaGreat

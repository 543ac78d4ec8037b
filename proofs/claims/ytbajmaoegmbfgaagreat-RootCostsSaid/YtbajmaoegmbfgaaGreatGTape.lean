/- Tapes: choices out of a list of numbers. -/
import Derived.Test.YtbajmaoegmbfgaaGreatAuto
import Derived.Test.YtbajmaoegmbfgaaGreatGBits
import Derived.Test.YtbajmaoegmbfgaaGreatGPa1
import Derived.Test.YtbajmaoegmbfgaaGreatGBr

set_option linter.unusedSimpArgs false
set_option linter.unusedVariables false
namespace Go.Proofs.YtbajmaoegmbfgaaGreat
section
open Go.RowKit Go.Ct
abbrev Ov:=my 114
abbrev ou(w:World):=Mr w 114
theorem aBl(v n:Int)(w:World)(hn:IntKind.u64.wrap n≠0):Calls Tryz.prog 46 #[.int .i64 v,.int .i64 n] w λ e w'=>e=.returned (.int .i64 (Xv v n))/\St w [] [] w':=by
 refine enter Tryz.func46 Tryz.ntmps46 rfl rfl (SF.s0 w) ?_
 simp only[cA]
 refine cS ?_;refine J2 ?_;refine nM ?_;refine aA ?_;refine nM ?_;refine aBZ ?_;refine nM ?_;refine J1 ?_
 refine aQ Tryz.results46 (λ w hw=>?_)
 exact⟨rfl,hw.done⟩
theorem vd{l:List Int}{a:Option Addr}{c:Nat}{w:World}:Calls Tryz.prog 21 #[.slice a l.length c] w λ e w' =>
  ∃b:Nat,e=.returned (.pointer (some ⟨b,0,none⟩))/\True/\SF w [] [(b,Ov a l c 0)] [] [] [] w':=by
 refine enter Tryz.func21 Tryz.ntmps21 rfl rfl (SF.s0 w) ?_
 simp only[cA]
 refine cS ?_;refine J2 ?_;refine bI ?_;refine bK (λ x5=>?_);refine J1 ?_
 refine aQ Tryz.results21 (λ w hw=>?_)
 exact⟨x5,rfl,trivial,hw.aX⟩
theorem eX{l:List Int}{a:Option Addr}{b c k:Nat}{w:World}(n:Int)(ht:ou w b a l c k)(h0:0<n)(h1:n<=9223372036854775807) :
  Calls Tryz.prog 22 #[.pointer (some ⟨b,0,none⟩),.int .i64 n] w λ e w' =>
  ∃v:Nat,e=.returned (.int .i64 ((v:Nat):Int))/\((v:Int)<n/\v=tvN l k n)/\SF w [b] ((b,Ov a l c (oC l k))::[]) [] [] [] w':=by
 have hl:=ht.len
 have hu:IntKind.u64.wrap n≠0:=by rw[wrap_u64];omega
 refine enter Tryz.func22 Tryz.ntmps22 rfl rfl ht.start ?_
 simp only[cA]
 refine Gi ?_;refine aS ?_;refine gS [0,1,2,3,4,5,6,7,8,9] ?_;refine Ek ?_;refine oE ?_;refine aBO ?_;refine eU ?_
 refine bD (λ c14=>?_) (λ c14=>?_)
 ·refine cS ?_
  refine aQ Tryz.results22 (λ w hw=>?_)
  exact⟨0,rfl,⟨by omega,by simp only[tvN];rw[if_neg (by omega)]⟩,by simp only[oC];rw[if_neg (by omega)];exact hw.aX⟩
 ·refine r7 ?_;refine H7 ?_;refine Np ?_;refine aS ?_;refine gS [0,1,2,3,4,5,6,7,8,9,10,11,12,13] ?_;refine Ek ?_;refine Oz ?_;refine S7 ?_;refine aT ?_;refine cO (i:=12) (hq:=(cV (hc:=λ w1 hw=>aBl (l.getD (k+1-1) 0) n w1 hu))) (h:=λ x34=>?_);refine J7 ?_
  refine aQ Tryz.results22 (λ w hw=>?_)
  have hb:=Tl (v:=l.getD k 0) h0 h1
  exact⟨(Xv (l.getD k 0) n).toNat,by rw[Int.toNat_of_nonneg hb.1];rfl,⟨by omega,by simp only[tvN];rw[if_pos (by omega)]⟩,by simp only[oC];rw[if_pos (by omega)];exact hw.aX⟩
def lV:List ByteArray:=[⟨#[97]⟩,⟨#[98]⟩,⟨#[99]⟩,⟨#[100]⟩,⟨#[97,98]⟩,⟨#[]⟩,⟨#[98,48]⟩,⟨#[107,101,121]⟩]
theorem w5{l:List Int}{a:Option Addr}{b c k:Nat}{w:World}(ht:ou w b a l c k) :
  Calls Tryz.prog 59 #[.pointer (some ⟨b,0,none⟩)] w λ e w' =>
  ∃v:Nat,e=.returned (.string (lV.getD v ⟨#[]⟩))/\(v<8/\v=tvN l k 8)/\SF w [b] ((b,Ov a l c (oC l k))::[]) [] [] [] w':=by
 refine enter Tryz.func59 Tryz.ntmps59 rfl rfl ht.start ?_
 simp only[cA]
 refine cS ?_;refine J0 ?_;refine fF (λ x3=>?_);refine aA ?_;refine aD (xI (hc:=λ w1 hw=>eX 8 (hw.tape cY fin ht.len) (by decide) (by decide))) (λ x5 h5=>?_);refine aC (jb (lst:=lV) rf rf gH fZ fin (by omega) (by simp only[lV,List.length_cons,List.length_nil];omega)) rfl ?_;refine aC (oy (lst:=lV) rf fZ fin (by simp only[lV,List.length_cons,List.length_nil];omega)) rfl ?_;refine J1 ?_
 refine aQ Tryz.results59 (λ w hw=>?_)
 exact⟨x5,rfl,⟨by omega,h5.2⟩,hw.aX⟩
end

/- Nodes and lists of pairs out of tapes. -/
end Go.Proofs.YtbajmaoegmbfgaaGreat
namespace Go.Ct
section
end
end Go.Ct
namespace Go.Proofs.YtbajmaoegmbfgaaGreat
section
open Go.RowKit Go.Ct
end

/- Tombs: Untombed, Contracted, Grown, Shrunk: both sides. -/
section
open Go.RowKit Go.Ct
def tmb(s:Nd):Nd:={Nd.zero with kind:=5,hash:=s.hash,key:=s.key,val:=s.val}
def Fa(n:Nd):Nd:=if n.kind=5 then{Nd.zero with kind:=4,hash:=n.hash,key:=n.key,val:=n.val} else Nd.zero
theorem I9(n:Nd)(w:World):Calls Tryz.prog 219 #[n.v] w λ e w'=>e=.returned (.tuple #[(Fa n).v,.bool (decide (n.kind=5))])/\St w [] [] w':=by
 refine enter Tryz.func219 Tryz.ntmps219 rfl rfl (SF.s0 w) ?_
 simp only[cA]
 simp only[Nd.v,Nd.cells]
 refine J0 ?_;refine bK (λ x1=>?_);refine aJ (λ x2=>?_);refine iZ ?_;refine iB ?_;refine Kc6 ?_
 refine bD (λ c6=>?_) (λ c6=>?_)
 ·refine J0 ?_;refine bI ?_;refine Cr ?_
  refine aY Tryz.results219 (λ w hw=>?_)
  exact⟨by rw[show Fa n=Nd.zero from if_neg (by assumption),decide_eq_false (by assumption)];rfl,hw.done⟩
 ·refine aW ?_;refine iB ?_;refine J3 ?_;refine J3 ?_;refine bI ?_;refine Cr ?_
  refine aY Tryz.results219 (λ w hw=>?_)
  exact⟨by rw[show Fa n={Nd.zero with kind:=4,hash:=n.hash,key:=n.key,val:=n.val} from if_pos (by omega),decide_eq_true (by omega)];rfl,hw.done⟩
section
variable{n s:Nd}{xs:List Int}{ys:List Pr}{w:World}{b:Nat}
def LV(n:Nd)(xs:List Int)(ys:List Pr):Prop:=n.kind=6/\cE n xs ys
theorem N9(hb:n.bm=(b:Int))(hb2:b<18446744073709551616)(hr:sE w n xs ys):Calls Tryz.prog 255 #[n.v] w λ e w'=>∃r:Bool,e=.returned (.bool r)/\(r=true↔LV n xs ys)/\St w [] [] w':=by
 refine enter Tryz.func255 Tryz.ntmps255 rfl rfl (SF.s0 w) ?_
 simp only[cA]
 simp only[Nd.v,Nd.cells]
 refine J0 ?_;refine bK (λ x1=>?_);refine J1 ?_;refine iB ?_;refine kW ?_;refine aA ?_
 (refine dZ 6 (λ g6=>?_) (λ g6=>?_)<;>refine Ka2 ?_)
 all_goals ((first|refine aI ?_|(refine aE ?_;refine aD (c0 (V:=.bool) (hc:=λ w1 hw=>zP (n:=n) hb hb2 (hr.gF hw.done))) (λ x8 h8=>?_)));refine Kb9 ?_)
 all_goals
 refine aQ Tryz.results255 (λ w hw=>?_)
 refine⟨_,rfl,?_,hw.done⟩
 simp_all[LV]
open Classical in
noncomputable def Uh (n:Nd) (xs:List Int) (ys:List Pr) (level:Int) (s:Nd):Bool:=decide ((gh n xs ys).isSome=true/\0<level/\s.kind=4)
def wx(t:Bool)(n s:Nd):Nd:=if t=true then tmb s else n
def ny{α:Type}(t:Bool)(l:List α):List α:=if t=true then [] else l
theorem Eb(level:Int)(s:Nd)(hb:n.bm=(b:Int))(hb2:b<18446744073709551616)(hr:sE w n xs ys):Calls Tryz.prog 221 #[n.v,.int .i64 level,s.v] w λ e w'=>e=.returned (wx (Uh n xs ys level s) n s).v/\St w [] [] w':=by
 refine enter Tryz.func221 Tryz.ntmps221 rfl rfl (SF.s0 w) ?_
 simp only[cA]
 simp only[Nd.v,Nd.cells]
 refine J0 ?_;refine bK (λ x3=>?_);refine bK (λ x5=>?_);refine aJ (λ x6=>?_);refine Rr ?_;refine nF ?_;refine aN (cV (hc:=λ w1 hw=>Kj (n:=n) hb hb2 (hr.gF hw.done))) (λ x11=>?_);refine aA ?_;refine aC (bP rf rfl) rfl ?_;refine aC (bP rf rfl) rfl ?_;refine J8 ?_;refine jJ ?_
 (refine dZ 15 (λ g15=>?_) (λ g15=>?_)<;>refine Ka0 ?_)
 all_goals (refine Ax ?_;refine aA ?_)
 all_goals (first|refine aI ?_|(refine dZ 19 (λ g19=>?_) (λ g19=>?_)<;>refine Ka1 ?_))
 all_goals (refine yr ?_;refine aG ?_)
 all_goals
 refine bD (λ c23=>?_) (λ c23=>?_)
 ·try exact nv c23
  all_goals (refine iB ?_;refine J3 ?_;refine J3 ?_;refine vK ?_)
  all_goals
   refine aY Tryz.results221 (λ w hw=>?_)
   rw[show Uh n xs ys level s=true from decide_eq_true ⟨by assumption,by omega,by omega⟩];exact⟨rfl,hw.done⟩
 ·all_goals (refine aW ?_;refine nF ?_;refine J5 ?_)
  all_goals
   refine aY Tryz.results221 (λ w hw=>?_)
   rw[show Uh n xs ys level s=false from decide_eq_false (by rintro ⟨t1,t2,t3⟩;first|omega|(clear hw;simp_all;done))];exact⟨rfl,hw.done⟩
end
end

/- Tombs: Grown, Shrunk: both sides; agrees. -/
section
open Go.RowKit Go.Ct
def nf(o:Option (List Pr))(h:Int)(x:Option Addr×Nat):Nd:=match o with|some m=>{Nd.zero with kind:=6,hash:=h,prA:=x.1,prN:=m.length,cZ:=x.2}|none=>Nd.zero
def Zp(o:Option (List Pr)):List Pr:=o.getD []
def Nt(o:Option (List Pr))(h:Int)(x:Option Addr×Nat):Nd:=match o with|some m=>if m.length=1 then{Nd.zero with kind:=5,hash:=h,key:=(m.getD 0 (⟨#[]⟩,0)).1,val:=(m.getD 0 (⟨#[]⟩,0)).2} else{Nd.zero with kind:=6,hash:=h,prA:=x.1,prN:=m.length,cZ:=x.2}|none=>Nd.zero
def Iw(o:Option (List Pr)):List Pr:=match o with|some m=>if m.length=1 then [] else m|none=>[]
open Classical in
noncomputable def kY (n:Nd) (xs:List Int) (ys:List Pr) (k:ByteArray) (v:Int):Option (List Pr):=if LV n xs ys/\k.size<=64 then some (O8 ys k v) else none
open Classical in
noncomputable def pY (n:Nd) (xs:List Int) (ys:List Pr) (k:ByteArray):Option (List Pr):=if LV n xs ys/\(dU ys k).isSome=true then some (rV ys k) else none
def aBs(w:World)(o:Option (List Pr))(h:Int)(e:Ending)(w':World):Prop:=∃x:Option Addr×Nat,e=.returned (.tuple #[(nf o h x).v,.bool o.isSome])/\(Zp o).length<=x.2/\SF w [] [] [] [(x.1,cZ (Zp o))] [] w'
def aBA(w:World)(o:Option (List Pr))(h:Int)(e:Ending)(w':World):Prop:=∃x:Option Addr×Nat,e=.returned (.tuple #[(Nt o h x).v,.bool o.isSome])/\(Iw o).length<=x.2/\SF w [] [] [] [(x.1,cZ (Iw o))] [] w'
section
variable{n s:Nd}{xs:List Int}{ys:List Pr}{w:World}{b:Nat}
theorem R8(k:ByteArray)(v:Int)(hb:n.bm=(b:Int))(hb2:b<18446744073709551616)(hr:sE w n xs ys)(hy:ys.length<=150000000000):Calls Tryz.prog 247 #[n.v,.string k,.int .u64 v] w (aBs w (kY n xs ys k v) n.hash):=by
 have e2:=hr.prN
 refine enter Tryz.func247 Tryz.ntmps247 rfl rfl (SF.s1 hr.pr) ?_
 simp only[cA]
 simp only[Nd.v,Nd.cells,e2]
 refine J0 ?_;refine bK (λ x3=>?_);refine aJ (λ x6=>?_);refine iZ ?_;refine nF ?_;refine aD (c0 (V:=.bool) (hc:=λ w1 hw=>by rw[<- e2];exact N9 (n:=n) hb hb2 (hr.gF hw.done))) (λ x9 h9=>?_);refine Bq ?_
 (refine dZ 11 (λ g11=>?_) (λ g11=>?_)<;>refine Ka0 ?_)
 all_goals ((first|refine aI ?_|(refine aE ?_;refine mS ?_));refine Ka8 ?_)
 all_goals
 refine bD (λ c15=>?_) (λ c15=>?_)
 ·all_goals (refine J0 ?_;refine bI ?_;refine Cr ?_)
  all_goals
   refine aY Tryz.results247 (λ w hw=>?_)
   rw[show kY n xs ys k v=none from if_neg (by rintro ⟨t1,t2⟩;have:=h9.2 t1;clear hw;first|omega|(simp_all;done))];exact⟨(none,0),rfl,Nat.le_refl _,(hw.Mo none).fin⟩
 ·try exact nv c15
  all_goals (refine kO ?_;refine eG [(0,[]),(1,[]),(2,[]),(3,[]),(4,[]),(5,[]),(6,[1]),(7,[]),(8,[]),(9,[])] ?_;refine nA ?_;refine nA ?_;refine iF ?_;refine bC (i:=6) (hq:=(cF (hc:=λ w1 hw=>Z9 (l:=ys) k v (hw.cl fin) (by omega)))) (h:=λ x23 h23=>?_);refine fJ ?_;refine yQ ?_)
  all_goals
   refine aY Tryz.results247 (λ w hw=>?_)
   rw[show kY n xs ys k v=some (O8 ys k v) from if_pos ⟨h9.1 (by clear hw;simp_all),by omega⟩];exact⟨x23,rfl,h23,hw.fin⟩
theorem Qe(k:ByteArray)(hb:n.bm=(b:Int))(hb2:b<18446744073709551616)(hr:sE w n xs ys)(hy:ys.length<=150000000000):Calls Tryz.prog 251 #[n.v,.string k] w (aBA w (pY n xs ys k) n.hash):=by
 have e2:=hr.prN
 refine enter Tryz.func251 Tryz.ntmps251 rfl rfl (SF.s1 hr.pr) ?_
 simp only[cA]
 simp only[Nd.v,Nd.cells,e2]
 refine J0 ?_;refine bK (λ x2=>?_);refine aJ (λ x4=>?_);refine iZ ?_;refine Kd0 ?_;refine aN (cV (hc:=λ w1 hw=>Jm (l:=ys) k (hw.cl fin) (by omega))) (λ x13=>?_);refine aA ?_;refine aC (bP rf rfl) rfl ?_;refine aC (bP rf rfl) rfl ?_;refine J8 ?_;refine nF ?_;refine aD (c0 (V:=.bool) (hc:=λ w1 hw=>by rw[<- e2];exact N9 (n:=n) hb hb2 (hr.gF hw.done))) (λ x17 h17=>?_);refine Bq ?_
 (refine dZ 19 (λ g19=>?_) (λ g19=>?_)<;>refine Ka0 ?_)
 all_goals (refine Kc1 ?_)
 all_goals
 refine bD (λ c22=>?_) (λ c22=>?_)
 ·all_goals (refine J0 ?_;refine bI ?_;refine Cr ?_)
  all_goals
   refine aY Tryz.results251 (λ w hw=>?_)
   rw[show pY n xs ys k=none from if_neg (by rintro ⟨t1,t2⟩;have:=h17.2 t1;clear hw;simp_all)];exact⟨(none,0),rfl,Nat.le_refl _,(hw.Mo none).fin⟩
 ·try exact nv c22
  all_goals (refine aW ?_;refine Kd0 ?_;refine aD (cF (hc:=λ w1 hw=>Yc (l:=ys) k (hw.cl fin) (by omega))) (λ x27 h27=>?_);refine Kc3 ?_;refine eA ?_;refine sU ?_)
  all_goals
   refine bD (λ c30=>?_) (λ c30=>?_)
   ·refine aS ?_;refine gS [0,1,2,3,4,5,6,7,8,9,10,11,12] ?_;refine nA ?_;refine aT ?_;refine bT (i:=3) (hq:=(Hj (k:=0) rf rf gH eF fin (by omega) (by omega))) (h:=?_);refine nA ?_;refine aT ?_;refine bT (i:=7) (hq:=(Hj (k:=0) rf rf gH eF fin (by omega) (by omega))) (h:=?_);refine aU ?_;refine bT (i:=9) (hq:=(Q9 (q:=0) (lst:=rV ys k) rf fZ fin (by omega))) (h:=?_);refine fJ ?_;refine yQ ?_
    refine aY Tryz.results251 (λ w hw=>?_)
    have e1:(rV ys k).length=1:=by omega
    rw[show pY n xs ys k=some (rV ys k) from if_pos ⟨h17.1 (by clear hw;simp_all),by clear hw;simp_all⟩];exact⟨(none,0),by simp only[Nt,if_pos e1];rfl,by simp only[Iw,if_pos e1];exact Nat.le_refl _,by simp only[Iw,if_pos e1];exact(hw.Mo none).fin⟩
   ·refine aW ?_;refine Kd0 ?_;refine bI ?_;refine Cr ?_
    refine aY Tryz.results251 (λ w hw=>?_)
    have e1:¬(rV ys k).length=1:=by omega
    rw[show pY n xs ys k=some (rV ys k) from if_pos ⟨h17.1 (by clear hw;simp_all),by clear hw;simp_all⟩];exact⟨x27,by simp only[Nt,if_neg e1];rfl,by simp only[Iw,if_neg e1];exact h27,by simp only[Iw,if_neg e1];exact hw.fin⟩
end
end

/- Branches: lists of lists, joined; the C-node of them. -/
end Go.Proofs.YtbajmaoegmbfgaaGreat
namespace Go.Ct
section
open Go Go.RowKit
section
variable{P:Program}{n:Nat}{S:List (Nat×Value)}
variable{w0 w w':World}{M:List Nat}{H H':List (Nat×Obj)}{A F F':Fr}{O O':List Ow}{G:World->Prop}
variable{d:Nat}{ty:TypeId}{pos:String}{af:Array Edge}{gd:Option (Nat×Bool)}{dst:Option Nat}{x y z:Operand}{t t2 e:TypeId}{p a:Option Addr}{i m k c c2:Nat}
end
end
end Go.Ct
namespace Go.Proofs.YtbajmaoegmbfgaaGreat
section
open Go Go.RowKit Go.Ct
end

/- Branches: Inserted, Updated, Removed. -/
section
open Go.RowKit Go.Ct
open Classical in
noncomputable def n0 (n:Nd) (xs:List Int) (ys:List Pr) (b:Nat) (i r:Int):Option (Nat×List Int):=if CV n xs ys/\(0<=i/\i<64)/\1<=r/\pZ b i=false then some (dO b i,wV xs (rE b i) r) else none
open Classical in
noncomputable def nq (n:Nd) (xs:List Int) (ys:List Pr) (b:Nat) (i r:Int):Option (Nat×List Int):=if CV n xs ys/\1<=r/\pZ b i=true then some (b,zL xs (rE b i) r) else none
open Classical in
noncomputable def nz (n:Nd) (xs:List Int) (ys:List Pr) (b:Nat) (i:Int):Option (Nat×List Int):=if CV n xs ys/\pZ b i=true then some (wD b i,sB xs (rE b i)) else none
def nD(o:Option (Nat×List Int))(x:Option Addr×Nat):Nd:=match o with|some q=>cn q.1 q.2 x|none=>Nd.zero
def mU(o:Option (Nat×List Int)):List Int:=match o with|some q=>q.2|none=>[]
def X8(w:World)(o:Option (Nat×List Int))(e:Ending)(w':World):Prop:=∃x:Option Addr×Nat,e=.returned (.tuple #[(nD o x).v,.bool o.isSome])/\(mU o).length<=x.2/\SF w [] [] [] [(x.1,aH (mU o))] [] w'
section
variable{n:Nd}{xs:List Int}{ys:List Pr}{w:World}{b:Nat}
end
end

end Go.Proofs.YtbajmaoegmbfgaaGreat

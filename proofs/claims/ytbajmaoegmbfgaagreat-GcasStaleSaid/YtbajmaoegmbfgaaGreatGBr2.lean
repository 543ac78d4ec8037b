/- Merged. -/
import Derived.Test.YtbajmaoegmbfgaaGreatGBitsE
import Derived.Test.YtbajmaoegmbfgaaGreatGNode4
import Derived.Test.YtbajmaoegmbfgaaGreatAuto
import Derived.Test.YtbajmaoegmbfgaaGreatGPa1
import Derived.Test.YtbajmaoegmbfgaaGreatGNode2
import Derived.Test.YtbajmaoegmbfgaaGreatGJoin
set_option linter.unusedSimpArgs false
set_option linter.unusedVariables false
namespace Go.Ct
open Go Go.RowKit
section
end
end Go.Ct
namespace Go.Proofs.YtbajmaoegmbfgaaGreat
open Go.Proofs.Tryz (prog)
section
open Go.RowKit Go.Ct
def CV(n:Nd)(xs:List Int)(ys:List Pr):Prop:=n.kind=3/\cA n xs ys
theorem CV.bv{n:Nd}{xs:List Int}{ys:List Pr}{b:Nat}(h:CV n xs ys)(hb:n.bm=(b:Int))(hb2:b<18446744073709551616):BV b xs:=by
 obtain⟨h1,h2⟩:=tZ h.1 h.2
 rw[hb,sI hb2] at h1
 exact⟨hb2,by omega,h2⟩
open Classical in
noncomputable def L5 (n:Nd) (xs:List Int) (ys:List Pr) (b:Nat) (i:Int):Option Int:=if CV n xs ys/\qD b i=true then some (xs.getD (rO b i) 0) else none
open Classical in
noncomputable def Zt (n:Nd) (xs:List Int) (ys:List Pr):Option Int:=if CV n xs ys/\xs.length=1 then some (xs.getD 0 0) else none
theorem sJ{b:Nat}{i:Int}(h:qD b i=true):0<=i/\i<64/\b.testBit i.toNat=true/\rO b i=gA b i.toNat:=by
 simp only[qD,Bool.and_eq_true,decide_eq_true_eq] at h
 exact⟨h.1,h.2.1,h.2.2,by unfold rO;congr 1;omega⟩
theorem aAV{b:Nat}{xs:List Int}(h:BV b xs){i:Int}(hh:qD b i=true):rO b i<xs.length:=by
 obtain⟨h1,h2,h3,h4⟩:=sJ hh
 rw[h4,h.len]
 exact oW (by omega) h3
section
variable{n:Nd}{xs:List Int}{ys:List Pr}{w:World}{b:Nat}
theorem jt(hb:n.bm=(b:Int))(hb2:b<18446744073709551616)(hr:rY w n xs ys):Calls prog 243 #[n.v] w λ e w'=>∃r:Bool,e=.returned (.bool r)/\(r=true↔CV n xs ys)/\St w [] [] w':=by
 refine enter Tryz.func243 Tryz.ntmps243 rfl rfl (SF.s0 w) ?_
 simp only[cC]
 simp only[Nd.v,Nd.cells]
 refine J0 ?_;refine bM (λ x1=>?_);refine J1 ?_;refine iI ?_;refine mF ?_;refine aA ?_
 (refine eJ 6 (λ g6=>?_) (λ g6=>?_)<;>refine Ka2 ?_)
 all_goals ((first|refine aI ?_|(refine aE ?_;refine aD (c0 (V:=.bool) (hc:=λ w1 hw=>yZ (n:=n) hb hb2 (hr.gG hw.done))) (λ x8 h8=>?_)));refine Kb7 ?_)
 all_goals
 refine aR Tryz.results243 (λ w hw=>?_)
 refine⟨_,rfl,?_,hw.done⟩
 simp_all[CV]
theorem oE(i:Int)(hb:n.bm=(b:Int))(hb2:b<18446744073709551616)(hr:rY w n xs ys):Calls prog 216 #[n.v,.int .i64 i] w λ e w'=>e=.returned (.tuple #[.int .i64 ((L5 n xs ys b i).getD 0),.bool (L5 n xs ys b i).isSome])/\St w [] [] w':=by
 have e1:=hr.brN
 refine enter Tryz.func216 Tryz.ntmps216 rfl rfl (SF.s2 hr.br hr.pr) ?_
 simp only[cC]
 simp only[Nd.v,Nd.cells,hb,e1]
 refine J0 ?_;refine bM (λ x2=>?_);refine J8 ?_;refine aV ?_;refine nI ?_;refine aD (c0 (V:=.bool) (hc:=λ w1 hw=>by rw[<- e1,<- hb];exact jt (n:=n) hb hb2 (hr.gG hw.done))) (λ x7 h7=>?_);refine Dg ?_
 (refine eJ 9 (λ g9=>?_) (λ g9=>?_)<;>refine Ka1 ?_)
 all_goals (refine db ?_;(first|refine aI ?_|(refine aE ?_;refine aQ (cV (hc:=λ w1 hw=>Hh hb2 i w1)) (λ x13=>?_)));refine Kc6 ?_)
 all_goals
 refine bC (λ c15=>?_) (λ c15=>?_)
 ·all_goals refine N7 ?_
  all_goals
   refine bE Tryz.results216 (λ w hw=>?_)
   rw[show L5 n xs ys b i=none from if_neg (by simp_all)];exact⟨rfl,hw.done⟩
 ·try exact nv c15
  all_goals
   have hcv:CV n xs ys:=h7.1 (by simpa using g9)
   have hpl:=aAV (hcv.bv hb hb2) c15
  all_goals (refine kW ?_;refine eC [(0,[]),(1,[]),(2,[]),(3,[]),(4,[]),(5,[1]),(6,[]),(7,[]),(8,[]),(9,[])] ?_;refine lH ?_;refine lH ?_;refine aN ?_;refine cR (i:=5) (hq:=(cV (hc:=λ w1 hw=>N6 hb2 i w1))) (h:=λ x21=>?_);refine Un ?_;refine Oz ?_)
  all_goals
   refine bE Tryz.results216 (λ w hw=>?_)
   rw[show L5 n xs ys b i=some (xs.getD (rO b i) 0) from if_pos ⟨hcv,c15⟩];exact⟨rfl,hw.done⟩
theorem K1(hb:n.bm=(b:Int))(hb2:b<18446744073709551616)(hr:rY w n xs ys):Calls prog 245 #[n.v] w λ e w'=>e=.returned (.tuple #[.int .i64 ((Zt n xs ys).getD 0),.bool (Zt n xs ys).isSome])/\St w [] [] w':=by
 have e1:=hr.brN
 refine enter Tryz.func245 Tryz.ntmps245 rfl rfl (SF.s2 hr.br hr.pr) ?_
 simp only[cC]
 simp only[Nd.v,Nd.cells,e1]
 refine J0 ?_;refine bM (λ x1=>?_);refine J8 ?_;refine aV ?_;refine nI ?_;refine aD (c0 (V:=.bool) (hc:=λ w1 hw=>by rw[<- e1];exact jt (n:=n) hb hb2 (hr.gG hw.done))) (λ x5 h5=>?_);refine Dg ?_
 (refine eJ 7 (λ g7=>?_) (λ g7=>?_)<;>refine Ka1 ?_)
 all_goals (refine Ka2 ?_;(first|refine aI ?_|(refine aE ?_;refine dR ?_));refine Rx ?_;refine aH ?_)
 all_goals
 refine bC (λ c12=>?_) (λ c12=>?_)
 ·all_goals refine N7 ?_
  all_goals
   refine bE Tryz.results245 (λ w hw=>?_)
   rw[show Zt n xs ys=none from if_neg (by simp_all;try omega)];exact⟨rfl,hw.done⟩
 ·try exact nv c12
  all_goals
   have hcv:CV n xs ys:=h5.1 (by simpa using g7)
   have hl1:xs.length=1:=by omega
  all_goals (refine aZ ?_;refine iI ?_;refine aC (dH (k:=0) rf rf gE fW fin (by omega) (by omega)) rfl ?_;refine bR ?_;refine J8 ?_)
  all_goals
   refine bE Tryz.results245 (λ w hw=>?_)
   rw[show Zt n xs ys=some (xs.getD 0 0) from if_pos ⟨hcv,hl1⟩];exact⟨rfl,hw.done⟩
end
end
section
open Go.RowKit Go.Ct
def cn(b:Nat)(xs:List Int)(x:Option Addr×Nat):Nd:={Nd.zero with kind:=3,bm:=(b:Int),brA:=x.1,brN:=xs.length,brC:=x.2}
theorem aBR{b:Nat}{xs:List Int}(h:BV b xs)(x:Option Addr×Nat){p:Int}(hp:0<=p):CV {cn b xs x with prev:=p} xs [] :=
 ⟨rfl,by simp[rQ,Nd.own,Nd.jV,Nd.iV,cn],by simp[cn,Nd.zero],hp,by simp[cn,Nd.zero],.inr (.inr (.inl ⟨rfl,by show(xs.length:Int)=yT (b:Int);rw[sI h.lt,h.len],h.pos⟩))⟩
theorem yq{b:Nat}{xs:List Int}(h:BV b xs)(x:Option Addr×Nat):CV (cn b xs x) xs []:=aBR h x (p:=0) (Int.le_refl _)
end
section
open Go.RowKit Go.Ct
abbrev Jo:=ck 114
abbrev ug(w:World):=Lh w 114
theorem aBe(v n:Int)(w:World)(hn:IntKind.u64.wrap n≠0):Calls prog 46 #[.int .i64 v,.int .i64 n] w λ e w'=>e=.returned (.int .i64 (Yj v n))/\St w [] [] w':=by
 refine enter Tryz.func46 Tryz.ntmps46 rfl rfl (SF.s0 w) ?_
 simp only[cC]
 refine Kc5 ?_;refine nN ?_;refine aA ?_;refine nN ?_;refine aAR ?_;refine nN ?_;refine J1 ?_
 refine aR Tryz.results46 (λ w hw=>?_)
 exact⟨rfl,hw.done⟩
theorem vn{l:List Int}{a:Option Addr}{c:Nat}{w:World}:Calls prog 21 #[.slice a l.length c] w λ e w' =>
  ∃b:Nat,e=.returned (.pointer (some ⟨b,0,none⟩))/\True/\SF w [] [(b,Jo a l c 0)] [] [] [] w':=by
 refine enter Tryz.func21 Tryz.ntmps21 rfl rfl (SF.s0 w) ?_
 simp only[cC]
 refine Kc5 ?_;refine bN ?_;refine bM (λ x5=>?_);refine J1 ?_
 refine aR Tryz.results21 (λ w hw=>?_)
 exact⟨x5,rfl,trivial,hw.aX⟩
theorem eR{l:List Int}{a:Option Addr}{b c k:Nat}{w:World}(n:Int)(ht:ug w b a l c k)(h0:0<n)(h1:n<=9223372036854775807) :
  Calls prog 22 #[.pointer (some ⟨b,0,none⟩),.int .i64 n] w λ e w' =>
  ∃v:Nat,e=.returned (.int .i64 ((v:Nat):Int))/\((v:Int)<n/\v=tvN l k n)/\SF w [b] ((b,Jo a l c (mX l k))::[]) [] [] [] w':=by
 have hl:=ht.len
 have hu:IntKind.u64.wrap n≠0:=by rw[wrap_u64];omega
 refine enter Tryz.func22 Tryz.ntmps22 rfl rfl ht.start ?_
 simp only[cC]
 refine Hg ?_;refine aV ?_;refine gZ [0,1,2,3,4,5,6,7,8,9] ?_;refine Ee ?_;refine oI ?_;refine aBA ?_;refine eL ?_
 refine bC (λ c14=>?_) (λ c14=>?_)
 ·refine cX ?_
  refine aR Tryz.results22 (λ w hw=>?_)
  exact⟨0,rfl,⟨by omega,by simp only[tvN];rw[if_neg (by omega)]⟩,by simp only[mX];rw[if_neg (by omega)];exact hw.aX⟩
 ·refine v9 ?_;refine Ie ?_;refine Nz ?_;refine aV ?_;refine gZ [0,1,2,3,4,5,6,7,8,9,10,11,12,13] ?_;refine Ee ?_;refine Ov ?_;refine Un ?_;refine aN ?_;refine cR (i:=12) (hq:=(cV (hc:=λ w1 hw=>aBe (l.getD (k+1-1) 0) n w1 hu))) (h:=λ x34=>?_);refine J7 ?_
  refine aR Tryz.results22 (λ w hw=>?_)
  have hb:=Ta (v:=l.getD k 0) h0 h1
  exact⟨(Yj (l.getD k 0) n).toNat,by rw[Int.toNat_of_nonneg hb.1];rfl,⟨by omega,by simp only[tvN];rw[if_pos (by omega)]⟩,by simp only[mX];rw[if_pos (by omega)];exact hw.aX⟩
def lV:List ByteArray:=[⟨#[97]⟩,⟨#[98]⟩,⟨#[99]⟩,⟨#[100]⟩,⟨#[97,98]⟩,⟨#[]⟩,⟨#[98,48]⟩,⟨#[107,101,121]⟩]
theorem v5{l:List Int}{a:Option Addr}{b c k:Nat}{w:World}(ht:ug w b a l c k) :
  Calls prog 59 #[.pointer (some ⟨b,0,none⟩)] w λ e w' =>
  ∃v:Nat,e=.returned (.string (lV.getD v ⟨#[]⟩))/\(v<8/\v=tvN l k 8)/\SF w [b] ((b,Jo a l c (mX l k))::[]) [] [] [] w':=by
 refine enter Tryz.func59 Tryz.ntmps59 rfl rfl ht.start ?_
 simp only[cC]
 refine cX ?_;refine J0 ?_;refine eZ (λ x3=>?_);refine aA ?_;refine aD (xA (hc:=λ w1 hw=>eR 8 (hw.tape dC fin ht.len) (by decide) (by decide))) (λ x5 h5=>?_);refine aC (iy (lst:=lV) rf rf gE fW fin (by omega) (by simp only[lV,List.length_cons,List.length_nil];omega)) rfl ?_;refine aC (th (lst:=lV) rf fW fin (by simp only[lV,List.length_cons,List.length_nil];omega)) rfl ?_;refine J1 ?_
 refine aR Tryz.results59 (λ w hw=>?_)
 exact⟨x5,rfl,⟨by omega,h5.2⟩,hw.aX⟩
end
end Go.Proofs.YtbajmaoegmbfgaaGreat
namespace Go.Ct
section
end
end Go.Ct
namespace Go.Proofs.YtbajmaoegmbfgaaGreat
open Go.Proofs.Tryz (prog)
section
open Go.RowKit Go.Ct
end
section
open Go.RowKit Go.Ct
def tmb(s:Nd):Nd:={Nd.zero with kind:=5,hash:=s.hash,key:=s.key,val:=s.val}
def Hz(n:Nd):Nd:=if n.kind=5 then{Nd.zero with kind:=4,hash:=n.hash,key:=n.key,val:=n.val} else Nd.zero
theorem Io(n:Nd)(w:World):Calls prog 219 #[n.v] w λ e w'=>e=.returned (.tuple #[(Hz n).v,.bool (decide (n.kind=5))])/\St w [] [] w':=by
 refine enter Tryz.func219 Tryz.ntmps219 rfl rfl (SF.s0 w) ?_
 simp only[cC]
 simp only[Nd.v,Nd.cells]
 refine J0 ?_;refine bM (λ x1=>?_);refine aK (λ x2=>?_);refine jF ?_;refine iI ?_;refine Kc8 ?_
 refine bC (λ c6=>?_) (λ c6=>?_)
 ·refine J0 ?_;refine bN ?_;refine Br ?_
  refine bE Tryz.results219 (λ w hw=>?_)
  exact⟨by rw[show Hz n=Nd.zero from if_neg (by assumption),decide_eq_false (by assumption)];rfl,hw.done⟩
 ·refine aZ ?_;refine iI ?_;refine J3 ?_;refine J3 ?_;refine bN ?_;refine Br ?_
  refine bE Tryz.results219 (λ w hw=>?_)
  exact⟨by rw[show Hz n={Nd.zero with kind:=4,hash:=n.hash,key:=n.key,val:=n.val} from if_pos (by omega),decide_eq_true (by omega)];rfl,hw.done⟩
section
variable{n s:Nd}{xs:List Int}{ys:List Pr}{w:World}{b:Nat}
def LV(n:Nd)(xs:List Int)(ys:List Pr):Prop:=n.kind=6/\cA n xs ys
theorem N9(hb:n.bm=(b:Int))(hb2:b<18446744073709551616)(hr:rY w n xs ys):Calls prog 255 #[n.v] w λ e w'=>∃r:Bool,e=.returned (.bool r)/\(r=true↔LV n xs ys)/\St w [] [] w':=by
 refine enter Tryz.func255 Tryz.ntmps255 rfl rfl (SF.s0 w) ?_
 simp only[cC]
 simp only[Nd.v,Nd.cells]
 refine J0 ?_;refine bM (λ x1=>?_);refine J1 ?_;refine iI ?_;refine mF ?_;refine aA ?_
 (refine eJ 6 (λ g6=>?_) (λ g6=>?_)<;>refine Ka2 ?_)
 all_goals ((first|refine aI ?_|(refine aE ?_;refine aD (c0 (V:=.bool) (hc:=λ w1 hw=>yZ (n:=n) hb hb2 (hr.gG hw.done))) (λ x8 h8=>?_)));refine Kb7 ?_)
 all_goals
 refine aR Tryz.results255 (λ w hw=>?_)
 refine⟨_,rfl,?_,hw.done⟩
 simp_all[LV]
open Classical in
noncomputable def S6 (n:Nd) (xs:List Int) (ys:List Pr) (level:Int) (s:Nd):Bool:=decide ((Zt n xs ys).isSome=true/\0<level/\s.kind=4)
def w6(t:Bool)(n s:Nd):Nd:=if t=true then tmb s else n
def n9{α:Type}(t:Bool)(l:List α):List α:=if t=true then [] else l
theorem Ea(level:Int)(s:Nd)(hb:n.bm=(b:Int))(hb2:b<18446744073709551616)(hr:rY w n xs ys):Calls prog 221 #[n.v,.int .i64 level,s.v] w λ e w'=>e=.returned (w6 (S6 n xs ys level s) n s).v/\St w [] [] w':=by
 refine enter Tryz.func221 Tryz.ntmps221 rfl rfl (SF.s0 w) ?_
 simp only[cC]
 simp only[Nd.v,Nd.cells]
 refine J0 ?_;refine bM (λ x3=>?_);refine bM (λ x5=>?_);refine aK (λ x6=>?_);refine Qo ?_;refine nI ?_;refine aQ (cV (hc:=λ w1 hw=>K1 (n:=n) hb hb2 (hr.gG hw.done))) (λ x11=>?_);refine aA ?_;refine aC (bO rf rfl) rfl ?_;refine aC (bO rf rfl) rfl ?_;refine J8 ?_;refine jG ?_
 (refine eJ 15 (λ g15=>?_) (λ g15=>?_)<;>refine Ka0 ?_)
 all_goals (refine Am ?_;refine aA ?_)
 all_goals (first|refine aI ?_|(refine eJ 19 (λ g19=>?_) (λ g19=>?_)<;>refine Ka1 ?_))
 all_goals (refine J78 ?_;refine aH ?_)
 all_goals
 refine bC (λ c23=>?_) (λ c23=>?_)
 ·try exact nv c23
  all_goals (refine iI ?_;refine J3 ?_;refine J3 ?_;refine wT ?_)
  all_goals
   refine bE Tryz.results221 (λ w hw=>?_)
   rw[show S6 n xs ys level s=true from decide_eq_true ⟨by assumption,by omega,by omega⟩];exact⟨rfl,hw.done⟩
 ·all_goals (refine aZ ?_;refine nI ?_;refine J5 ?_)
  all_goals
   refine bE Tryz.results221 (λ w hw=>?_)
   rw[show S6 n xs ys level s=false from decide_eq_false (by rintro ⟨t1,t2,t3⟩;first|omega|(clear hw;simp_all;done))];exact⟨rfl,hw.done⟩
end
end
section
open Go.RowKit Go.Ct
def cr(o:Option (List Pr))(h:Int)(x:Option Addr×Nat):Nd:=match o with|some m=>{Nd.zero with kind:=6,hash:=h,prA:=x.1,prN:=m.length,cY:=x.2}|none=>Nd.zero
def Zo(o:Option (List Pr)):List Pr:=o.getD []
def N4(o:Option (List Pr))(h:Int)(x:Option Addr×Nat):Nd:=match o with|some m=>if m.length=1 then{Nd.zero with kind:=5,hash:=h,key:=(m.getD 0 (⟨#[]⟩,0)).1,val:=(m.getD 0 (⟨#[]⟩,0)).2} else{Nd.zero with kind:=6,hash:=h,prA:=x.1,prN:=m.length,cY:=x.2}|none=>Nd.zero
def Ij(o:Option (List Pr)):List Pr:=match o with|some m=>if m.length=1 then [] else m|none=>[]
open Classical in
noncomputable def kY (n:Nd) (xs:List Int) (ys:List Pr) (k:ByteArray) (v:Int):Option (List Pr):=if LV n xs ys/\k.size<=64 then some (O9 ys k v) else none
open Classical in
noncomputable def qC (n:Nd) (xs:List Int) (ys:List Pr) (k:ByteArray):Option (List Pr):=if LV n xs ys/\(dV ys k).isSome=true then some (sO ys k) else none
def aCe(w:World)(o:Option (List Pr))(h:Int)(e:Ending)(w':World):Prop:=∃x:Option Addr×Nat,e=.returned (.tuple #[(cr o h x).v,.bool o.isSome])/\(Zo o).length<=x.2/\SF w [] [] [] [(x.1,cY (Zo o))] [] w'
def aAZ(w:World)(o:Option (List Pr))(h:Int)(e:Ending)(w':World):Prop:=∃x:Option Addr×Nat,e=.returned (.tuple #[(N4 o h x).v,.bool o.isSome])/\(Ij o).length<=x.2/\SF w [] [] [] [(x.1,cY (Ij o))] [] w'
section
variable{n s:Nd}{xs:List Int}{ys:List Pr}{w:World}{b:Nat}
theorem R6(k:ByteArray)(v:Int)(hb:n.bm=(b:Int))(hb2:b<18446744073709551616)(hr:rY w n xs ys)(hy:ys.length<=150000000000):Calls prog 247 #[n.v,.string k,.int .u64 v] w (aCe w (kY n xs ys k v) n.hash):=by
 have e2:=hr.prN
 refine enter Tryz.func247 Tryz.ntmps247 rfl rfl (SF.s1 hr.pr) ?_
 simp only[cC]
 simp only[Nd.v,Nd.cells,e2]
 refine J0 ?_;refine bM (λ x3=>?_);refine aK (λ x6=>?_);refine jF ?_;refine nI ?_;refine aD (c0 (V:=.bool) (hc:=λ w1 hw=>by rw[<- e2];exact N9 (n:=n) hb hb2 (hr.gG hw.done))) (λ x9 h9=>?_);refine Dg ?_
 (refine eJ 11 (λ g11=>?_) (λ g11=>?_)<;>refine Ka0 ?_)
 all_goals ((first|refine aI ?_|(refine aE ?_;refine lZ ?_));refine Ka6 ?_)
 all_goals
 refine bC (λ c15=>?_) (λ c15=>?_)
 ·all_goals (refine J0 ?_;refine bN ?_;refine Br ?_)
  all_goals
   refine bE Tryz.results247 (λ w hw=>?_)
   rw[show kY n xs ys k v=none from if_neg (by rintro ⟨t1,t2⟩;have:=h9.2 t1;clear hw;first|omega|(simp_all;done))];exact⟨(none,0),rfl,Nat.le_refl _,(hw.Mx none).fin⟩
 ·try exact nv c15
  all_goals (refine kW ?_;refine eC [(0,[]),(1,[]),(2,[]),(3,[]),(4,[]),(5,[]),(6,[1]),(7,[]),(8,[]),(9,[])] ?_;refine lH ?_;refine lH ?_;refine iL ?_;refine bB (i:=6) (hq:=(cF (hc:=λ w1 hw=>kz (l:=ys) k v (hw.cl fin) (by omega)))) (h:=λ x23 h23=>?_);refine iH ?_;refine Bw ?_)
  all_goals
   refine bE Tryz.results247 (λ w hw=>?_)
   rw[show kY n xs ys k v=some (O9 ys k v) from if_pos ⟨h9.1 (by clear hw;simp_all),by omega⟩];exact⟨x23,rfl,h23,hw.fin⟩
theorem Ol(k:ByteArray)(hb:n.bm=(b:Int))(hb2:b<18446744073709551616)(hr:rY w n xs ys)(hy:ys.length<=150000000000):Calls prog 251 #[n.v,.string k] w (aAZ w (qC n xs ys k) n.hash):=by
 have e2:=hr.prN
 refine enter Tryz.func251 Tryz.ntmps251 rfl rfl (SF.s1 hr.pr) ?_
 simp only[cC]
 simp only[Nd.v,Nd.cells,e2]
 refine J0 ?_;refine bM (λ x2=>?_);refine aK (λ x4=>?_);refine jF ?_;refine Kb9 ?_;refine aQ (cV (hc:=λ w1 hw=>K4 (l:=ys) k (hw.cl fin) (by omega))) (λ x13=>?_);refine aA ?_;refine aC (bO rf rfl) rfl ?_;refine aC (bO rf rfl) rfl ?_;refine J8 ?_;refine nI ?_;refine aD (c0 (V:=.bool) (hc:=λ w1 hw=>by rw[<- e2];exact N9 (n:=n) hb hb2 (hr.gG hw.done))) (λ x17 h17=>?_);refine Dg ?_
 (refine eJ 19 (λ g19=>?_) (λ g19=>?_)<;>refine Ka0 ?_)
 all_goals (refine Kc6 ?_)
 all_goals
 refine bC (λ c22=>?_) (λ c22=>?_)
 ·all_goals (refine J0 ?_;refine bN ?_;refine Br ?_)
  all_goals
   refine bE Tryz.results251 (λ w hw=>?_)
   rw[show qC n xs ys k=none from if_neg (by rintro ⟨t1,t2⟩;have:=h17.2 t1;clear hw;simp_all)];exact⟨(none,0),rfl,Nat.le_refl _,(hw.Mx none).fin⟩
 ·try exact nv c22
  all_goals (refine aZ ?_;refine Kb9 ?_;refine aD (cF (hc:=λ w1 hw=>Y6 (l:=ys) k (hw.cl fin) (by omega))) (λ x27 h27=>?_);refine jF ?_;refine J2 ?_;refine dR ?_;refine uI ?_)
  all_goals
   refine bC (λ c30=>?_) (λ c30=>?_)
   ·refine aV ?_;refine gZ [0,1,2,3,4,5,6,7,8,9,10,11,12] ?_;refine lH ?_;refine aN ?_;refine bV (i:=3) (hq:=(Fk (k:=0) rf rf gE eT fin (by omega) (by omega))) (h:=?_);refine lH ?_;refine aN ?_;refine bV (i:=7) (hq:=(Fk (k:=0) rf rf gE eT fin (by omega) (by omega))) (h:=?_);refine aU ?_;refine bV (i:=9) (hq:=(P5 (q:=0) (lst:=sO ys k) rf fW fin (by omega))) (h:=?_);refine iH ?_;refine Bw ?_
    refine bE Tryz.results251 (λ w hw=>?_)
    have e1:(sO ys k).length=1:=by omega
    rw[show qC n xs ys k=some (sO ys k) from if_pos ⟨h17.1 (by clear hw;simp_all),by clear hw;simp_all⟩];exact⟨(none,0),by simp only[N4,if_pos e1];rfl,by simp only[Ij,if_pos e1];exact Nat.le_refl _,by simp only[Ij,if_pos e1];exact(hw.Mx none).fin⟩
   ·refine aZ ?_;refine Kb9 ?_;refine bN ?_;refine Br ?_
    refine bE Tryz.results251 (λ w hw=>?_)
    have e1:¬(sO ys k).length=1:=by omega
    rw[show qC n xs ys k=some (sO ys k) from if_pos ⟨h17.1 (by clear hw;simp_all),by clear hw;simp_all⟩];exact⟨x27,by simp only[N4,if_neg e1];rfl,by simp only[Ij,if_neg e1];exact h27,by simp only[Ij,if_neg e1];exact hw.fin⟩
end
end
end Go.Proofs.YtbajmaoegmbfgaaGreat
namespace Go.Ct
open Go Go.RowKit
section
section
variable{P:Program}{n:Nat}{S:List (Nat×Value)}
variable{w0 w w':World}{M:List Nat}{H H':List (Nat×Obj)}{A F F':Fr}{O O':List Ow}{G:World->Prop}
variable{d:Nat}{ty:TypeId}{pos:String}{af:Array Edge}{gd:Option (Nat×Bool)}{dst:Option Nat}{x y z:Operand}{t t2 e:TypeId}{p a:Option Addr}{i m k c c2:Nat}
end
end
end Go.Ct
namespace Go.Proofs.YtbajmaoegmbfgaaGreat
section
open Go Go.RowKit Go.Ct
end
section
open Go.RowKit Go.Ct
open Classical in
noncomputable def n6 (n:Nd) (xs:List Int) (ys:List Pr) (b:Nat) (i r:Int):Option (Nat×List Int):=if CV n xs ys/\(0<=i/\i<64)/\1<=r/\qD b i=false then some (dU b i,wI xs (rO b i) r) else none
open Classical in
noncomputable def oa (n:Nd) (xs:List Int) (ys:List Pr) (b:Nat) (i r:Int):Option (Nat×List Int):=if CV n xs ys/\1<=r/\qD b i=true then some (b,qT xs (rO b i) r) else none
open Classical in
noncomputable def ob (n:Nd) (xs:List Int) (ys:List Pr) (b:Nat) (i:Int):Option (Nat×List Int):=if CV n xs ys/\qD b i=true then some (wS b i,sG xs (rO b i)) else none
def mY(o:Option (Nat×List Int))(x:Option Addr×Nat):Nd:=match o with|some q=>cn q.1 q.2 x|none=>Nd.zero
def mP(o:Option (Nat×List Int)):List Int:=match o with|some q=>q.2|none=>[]
def Ya(w:World)(o:Option (Nat×List Int))(e:Ending)(w':World):Prop:=∃x:Option Addr×Nat,e=.returned (.tuple #[(mY o x).v,.bool o.isSome])/\(mP o).length<=x.2/\SF w [] [] [] [(x.1,aG (mP o))] [] w'
section
variable{n:Nd}{xs:List Int}{ys:List Pr}{w:World}{b:Nat}
end
end
section
open Go.RowKit Go.Ct
def gN(b:Nat)(xs:List Int)(i:Nat)(r:Int):Nat->Option Int:=Jg (qS b xs) i (if 0<r then some r else none)
theorem oL{m:Nat->Option Int}{k:Nat}{v:Int}(h:m k=some v)(hk:k<64):dU (Be m k) (k:Int)=Be m (k+1)/\qF m k++[v]=qF m (k+1):=by
 simp only[Be,qF,h,dU,Option.isSome_some,if_true,Option.toList,Int.toNat_natCast,and_true]
 exact if_pos (by omega)
theorem oQ{m:Nat->Option Int}{k:Nat}(h:m k=none):Be m k=Be m (k+1)/\qF m k=qF m (k+1):=by
 simp[Be,qF,h]
theorem Av(m:Nat->Option Int){k:Nat}(hk:k<=64):Be m k<18446744073709551616:=Nat.lt_of_lt_of_le (mz m k) (Nat.pow_le_pow_right (n:=2) (by decide) hk)
theorem U5(m:Nat->Option Int):∀k,(qF m k).length<=k
 | 0=>Nat.le_refl _
 | k+1=>by have:=U5 m k;simp only[qF,List.length_append];cases m k<;>simp<;>omega
section
variable{n:Nd}{xs:List Int}{ys:List Pr}{w:World}{b:Nat}
theorem V9(hcv:CV n xs ys){k:Nat}(hk:k<64):L5 n xs ys b (k:Int)=qS b xs k:=by
 unfold L5 qS
 have h1:qD b (k:Int)=b.testBit k:=by rw[sZ b (by omega) (by omega),Int.toNat_natCast]
 have h2:rO b (k:Int)=gA b k:=by unfold rO;rw[Int.toNat_natCast,Nat.min_eq_left (by omega)]
 rw[h1,h2]
 by_cases h:b.testBit k=true<;>simp[h,hcv]
theorem Et{i k:Nat}{r:Int}(hcv:CV n xs ys)(hk:k<64)(h:(k:Int)≠(i:Int)):gN b xs i r k=L5 n xs ys b (k:Int):=by
 rw[V9 hcv hk]
 exact if_neg (by omega)
theorem Ey{i k:Nat}{r:Int}(h:(k:Int)=(i:Int)):gN b xs i r k=if 0<r then some r else none:=if_pos (by omega)
theorem Vy{o:Option Int}(h:o.isSome=true):o=some (o.getD 0):=by cases o<;>simp_all
theorem W8{o:Option Int}(h:o.isSome=false):o=none:=by cases o<;>simp_all
set_option maxHeartbeats 800000 in
theorem Lm(i:Nat)(r:Int)(_hi:i<64)(hcv:CV n xs ys)(hb:n.bm=(b:Int))(hb2:b<18446744073709551616)(hr:rY w n xs ys) :
    Calls Tryz.prog 244 #[n.v,.int .i64 (i:Int),.int .i64 r] w λ e w'=>∃x:Option Addr×Nat,e=.returned (cn (Be (gN b xs i r) 64) (qF (gN b xs i r) 64) x).v/\(qF (gN b xs i r) 64).length<=x.2/\SF w [] [] [] [(x.1,aG (qF (gN b xs i r) 64))] [] w':=by
  have e1:=hr.brN
  refine enter Tryz.func244 Tryz.ntmps244 rfl rfl (SF.s2 hr.br hr.pr) ?_
  simp only[cC]
  simp only[Nd.v,Nd.cells]
  refine J0 ?_;refine bM (λ x3=>?_);refine aK (λ x6=>?_);refine aH ?_;refine J0 ?_;refine bN ?_;refine aK (λ x7=>?_);refine J5 ?_;refine aV ?_;refine Ex ?_
  refine nT [8,9,10,12,13,14,15,16,17,18,19,20,21,22,23,24,25,26,27,28,29,30,31,32,33,34,35,36,37,38,39] (λ y:Nat×Option Addr×Nat=>[(8,.int .i64 ((y.1:Nat):Int))]) (λ y=>y.1<=64/\(qF (gN b xs i r) y.1).length<=y.2.2) (λ y=>[(x7,.cells ⟨[.int .i64 3,.int .i64 0,.int .i64 0,.int .u64 ((Be (gN b xs i r) y.1:Nat):Int),.slice y.2.1 (qF (gN b xs i r) y.1).length y.2.2,.int .u64 0,.string ⟨#[]⟩,.int .u64 0,.slice none 0 0,.int .i64 0,.int .i64 0,.int .i64 0,.int .i64 0,.int .i64 0]⟩ 47),(x6,.cells ⟨Nd.zero.cells⟩ 47),(x3,.cells ⟨n.cells⟩ 47)]) (λ _=>_) (λ y=>[⟨y.2.1,aG (qF (gN b xs i r) y.1),y.2.2,37,1⟩]) (λ y=>64-y.1) ((0,none,0)) (⟨Nat.zero_le _,Nat.le_refl _⟩) (λ y f hx=>?_) (hw0:=λ w hw=>(hw.jX 37 1).back)
  dsimp only[hY,List.map,List.cons_append,List.nil_append]
  have hll:=U5 (gN b xs i r) y.1
  refine kT ?_;refine Aj ?_
  refine bC (λ c13=>?_) (λ c13=>?_)
  · refine rX ?_;refine Dn ?_;refine aQ (cV (hc:=λ w1 hw=>oE (n:=n) (y.1:Int) hb hb2 (hr.gG hw.done))) (λ x19=>?_);refine aA ?_;refine aC (jJ rf rfl) rfl ?_;refine aC (jJ rf rfl) rfl ?_;refine J8 ?_;refine C6 ?_;refine uI ?_
    refine bC (λ c24=>?_) (λ c24=>?_)
    · refine Iz ?_;refine Df ?_;refine J8 ?_;refine J2 ?_;refine aH ?_
      refine bC (λ c28=>?_) (λ c28=>?_)
      · first
         | have hm:gN b xs i r y.1=some r:=by rw[Ey c24,if_pos (by omega)]
         | have hm:gN b xs i r y.1=some ((L5 n xs ys b (y.1:Int)).getD 0):=by rw[Et hcv (by omega) c24];exact Vy c28
        refine eO [29,30,31,32,33,34,35,36,37,38,39] (λ z:Nat×Option Addr×Nat=>[]) (λ z=>(qF (gN b xs i r) y.1).length+1<=z.2.2) (λ z=>[(x7,.cells ⟨[.int .i64 3,.int .i64 0,.int .i64 0,.int .u64 ((Be (gN b xs i r) (y.1+1):Nat):Int),.slice z.2.1 (qF (gN b xs i r) (y.1+1)).length z.2.2,.int .u64 0,.string ⟨#[]⟩,.int .u64 0,.slice none 0 0,.int .i64 0,.int .i64 0,.int .i64 0,.int .i64 0,.int .i64 0]⟩ 47),(x6,.cells ⟨Nd.zero.cells⟩ 47),(x3,.cells ⟨n.cells⟩ 47)]) (λ z=>[]) (λ z=>[⟨z.2.1,aG (qF (gN b xs i r) (y.1+1)),z.2.2,37,1⟩]) (by decide) (λ _=>by exact rfl) ?_ (λ z f hx=>?_)
        · refine gI (.one 0 [] (.one 1 [] (.one 2 [] (.one 4 [] (.one 5 [] (.one 6 [] (.two 3 [5] (.one 9 [] (.one 7 [1,5] (.one 8 [] (.one 10 [] (.one 11 [] (.one 12 [] .nil)))))) 0 [] (.two 7 [1,5] (.one 3 [5] (.one 9 [] (.one 8 [] (.one 10 [] (.one 11 [] (.one 12 [] .nil)))))) 0 [] .nil)))))))) ?_
          refine lH ?_;refine aN ?_;refine lH ?_;refine aN ?_
          refine gR (E:=[3,7]) (by decide +kernel) ((.cons ?_ (.cons ?_ .nil)))
          · refine Ki (i:=3) (hq:=(cV (hc:=λ w1 hw=>nW (Av (gN b xs i r) (k:=y.1) (by omega)) (y.1:Int) w1))) (h:=λ x32=>?_)
            refine aU ?_;refine bZ (h:=λ x36=>?_);((refine mG (h:=λ x37=>?_);try (refine eH (λ h37=>?_))));refine Tb ?_;refine zT ?_
            refine fH ((0,x37)) ?_ (hw1:=λ w hw=>by obtain⟨k1,k2⟩:=oL hm (by omega);rw[k1,show(qF (gN b xs i r) y.1).length+1=(qF (gN b xs i r) (y.1+1)).length by rw[<- k2];simp,k2] at hw;exact hw.back)
            · exact h37
          · refine mE (i:=7) (h:=λ x36=>?_)
            refine cR (i:=3) (hq:=(cV (hc:=λ w1 hw=>nW (Av (gN b xs i r) (k:=y.1) (by omega)) (y.1:Int) w1))) (h:=λ x32=>?_);refine aU ?_;((refine mG (h:=λ x37=>?_);try (refine eH (λ h37=>?_))));refine Tb ?_;refine zT ?_
            refine fH ((0,x37)) ?_ (hw1:=λ w hw=>by obtain⟨k1,k2⟩:=oL hm (by omega);rw[k1,show(qF (gN b xs i r) y.1).length+1=(qF (gN b xs i r) (y.1+1)).length by rw[<- k2];simp,k2] at hw;exact hw.back)
            · exact h37
        dsimp only[hY,List.map,List.cons_append,List.nil_append]
        refine Kb2 ?_
        refine iS ((by exact(y.1+1,z.2))) ?_ (hw1:=λ w hw=>by exact hw.back)
        · first
           | exact⟨by omega,by have k2:=(oL hm (by omega)).2;simp only[];rw[<- k2,List.length_append];exact hx⟩
           | exact⟨by omega,by simp only[];rw[<- (oQ hm).2];exact hx.2⟩
      · have hm:gN b xs i r y.1=none:=by
         first
          | (rw[Ey c24,if_neg (by omega)];done)
          | (rw[Et hcv (by omega) c24];exact W8 c28)
        refine Kc0 ?_
        refine iS ((by exact(y.1+1,y.2))) ?_ (hw1:=λ w hw=>by(rw[(oQ hm).1,(oQ hm).2] at hw;exact hw.back))
        · first
           | exact⟨by omega,by have k2:=(oL hm (by omega)).2;simp only[];rw[<- k2,List.length_append];exact hx⟩
           | exact⟨by omega,by simp only[];rw[<- (oQ hm).2];exact hx.2⟩
    · refine aZ ?_;refine J2 ?_;refine aH ?_
      refine bC (λ c28=>?_) (λ c28=>?_)
      · first
         | have hm:gN b xs i r y.1=some r:=by rw[Ey c24,if_pos (by omega)]
         | have hm:gN b xs i r y.1=some ((L5 n xs ys b (y.1:Int)).getD 0):=by rw[Et hcv (by omega) c24];exact Vy c28
        refine eO [29,30,31,32,33,34,35,36,37,38,39] (λ z:Nat×Option Addr×Nat=>[]) (λ z=>(qF (gN b xs i r) y.1).length+1<=z.2.2) (λ z=>[(x7,.cells ⟨[.int .i64 3,.int .i64 0,.int .i64 0,.int .u64 ((Be (gN b xs i r) (y.1+1):Nat):Int),.slice z.2.1 (qF (gN b xs i r) (y.1+1)).length z.2.2,.int .u64 0,.string ⟨#[]⟩,.int .u64 0,.slice none 0 0,.int .i64 0,.int .i64 0,.int .i64 0,.int .i64 0,.int .i64 0]⟩ 47),(x6,.cells ⟨Nd.zero.cells⟩ 47),(x3,.cells ⟨n.cells⟩ 47)]) (λ z=>[]) (λ z=>[⟨z.2.1,aG (qF (gN b xs i r) (y.1+1)),z.2.2,37,1⟩]) (by decide) (λ _=>by exact rfl) ?_ (λ z f hx=>?_)
        · refine gI (.one 0 [] (.one 1 [] (.one 2 [] (.one 4 [] (.one 5 [] (.one 6 [] (.two 3 [5] (.one 9 [] (.one 7 [1,5] (.one 8 [] (.one 10 [] (.one 11 [] (.one 12 [] .nil)))))) 0 [] (.two 7 [1,5] (.one 3 [5] (.one 9 [] (.one 8 [] (.one 10 [] (.one 11 [] (.one 12 [] .nil)))))) 0 [] .nil)))))))) ?_
          refine lH ?_;refine aN ?_;refine lH ?_;refine aN ?_
          refine gR (E:=[3,7]) (by decide +kernel) ((.cons ?_ (.cons ?_ .nil)))
          · refine Ki (i:=3) (hq:=(cV (hc:=λ w1 hw=>nW (Av (gN b xs i r) (k:=y.1) (by omega)) (y.1:Int) w1))) (h:=λ x32=>?_)
            refine aU ?_;refine bZ (h:=λ x36=>?_);((refine mG (h:=λ x37=>?_);try (refine eH (λ h37=>?_))));refine Tb ?_;refine zT ?_
            refine fH ((0,x37)) ?_ (hw1:=λ w hw=>by obtain⟨k1,k2⟩:=oL hm (by omega);rw[k1,show(qF (gN b xs i r) y.1).length+1=(qF (gN b xs i r) (y.1+1)).length by rw[<- k2];simp,k2] at hw;exact hw.back)
            · exact h37
          · refine mE (i:=7) (h:=λ x36=>?_)
            refine cR (i:=3) (hq:=(cV (hc:=λ w1 hw=>nW (Av (gN b xs i r) (k:=y.1) (by omega)) (y.1:Int) w1))) (h:=λ x32=>?_);refine aU ?_;((refine mG (h:=λ x37=>?_);try (refine eH (λ h37=>?_))));refine Tb ?_;refine zT ?_
            refine fH ((0,x37)) ?_ (hw1:=λ w hw=>by obtain⟨k1,k2⟩:=oL hm (by omega);rw[k1,show(qF (gN b xs i r) y.1).length+1=(qF (gN b xs i r) (y.1+1)).length by rw[<- k2];simp,k2] at hw;exact hw.back)
            · exact h37
        dsimp only[hY,List.map,List.cons_append,List.nil_append]
        refine Kb2 ?_
        refine iS ((by exact(y.1+1,z.2))) ?_ (hw1:=λ w hw=>by exact hw.back)
        · first
           | exact⟨by omega,by have k2:=(oL hm (by omega)).2;simp only[];rw[<- k2,List.length_append];exact hx⟩
           | exact⟨by omega,by simp only[];rw[<- (oQ hm).2];exact hx.2⟩
      · have hm:gN b xs i r y.1=none:=by
         first
          | (rw[Ey c24,if_neg (by omega)];done)
          | (rw[Et hcv (by omega) c24];exact W8 c28)
        refine Kc0 ?_
        refine iS ((by exact(y.1+1,y.2))) ?_ (hw1:=λ w hw=>by(rw[(oQ hm).1,(oQ hm).2] at hw;exact hw.back))
        · first
           | exact⟨by omega,by have k2:=(oL hm (by omega)).2;simp only[];rw[<- k2,List.length_append];exact hx⟩
           | exact⟨by omega,by simp only[];rw[<- (oQ hm).2];exact hx.2⟩
  · refine bP rfl ?_;refine nI ?_;refine J5 ?_
    refine bE Tryz.results244 (λ w hw=>?_)
    have hy:y.1=64:=by omega
    rw[hy] at hw hx ⊢
    generalize Be (gN b xs i r) 64=B at hw ⊢
    generalize qF (gN b xs i r) 64=L at hw hx ⊢
    exact⟨y.2,rfl,hx.2,SF.frz hw.aX⟩
end
end
end Go.Proofs.YtbajmaoegmbfgaaGreat

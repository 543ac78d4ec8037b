/- Merged. -/
import Derived.Test.YtbajmaoegmbfgaaGreatGBitsE
import Derived.Test.YtbajmaoegmbfgaaGreatGAr4
import Derived.Test.YtbajmaoegmbfgaaGreatAuto
import Derived.Test.YtbajmaoegmbfgaaGreatGPa1
import Derived.Test.YtbajmaoegmbfgaaGreatGNode2
import Derived.Test.YtbajmaoegmbfgaaGreatGJoin
import Derived.Test.YtbajmaoegmbfgaaGreatGAr9
set_option linter.unusedSimpArgs false
set_option linter.unusedVariables false
namespace Go.Ct
open Go Go.RowKit
section
end
end Go.Ct
namespace Go.Proofs.YtbajmaoegmbfgaaGreat
open Go.Proofs.Tryz (prog)
section
open Go.RowKit Go.Ct
def CV(n:Nd)(xs:List Int)(ys:List Pr):Prop:=n.kind=3/\cC n xs ys
theorem CV.bv{n:Nd}{xs:List Int}{ys:List Pr}{b:Nat}(h:CV n xs ys)(hb:n.bm=(b:Int))(hb2:b<18446744073709551616):BV b xs:=by
 obtain⟨h1,h2⟩:=tK h.1 h.2
 rw[hb,sM hb2] at h1
 exact⟨hb2,by omega,h2⟩
open Classical in
noncomputable def Mk (n:Nd) (xs:List Int) (ys:List Pr) (b:Nat) (i:Int):Option Int:=if CV n xs ys/\qJ b i=true then some (xs.getD (rX b i) 0) else none
open Classical in
noncomputable def m6 (n:Nd) (xs:List Int) (ys:List Pr):Option Int:=if CV n xs ys/\xs.length=1 then some (xs.getD 0 0) else none
theorem sC{b:Nat}{i:Int}(h:qJ b i=true):0<=i/\i<64/\b.testBit i.toNat=true/\rX b i=gC b i.toNat:=by
 simp only[qJ,Bool.and_eq_true,decide_eq_true_eq] at h
 exact⟨h.1,h.2.1,h.2.2,by unfold rX;congr 1;omega⟩
theorem aBE{b:Nat}{xs:List Int}(h:BV b xs){i:Int}(hh:qJ b i=true):rX b i<xs.length:=by
 obtain⟨h1,h2,h3,h4⟩:=sC hh
 rw[h4,h.len]
 exact pD (by omega) h3
section
variable{n:Nd}{xs:List Int}{ys:List Pr}{w:World}{b:Nat}
theorem gv(hb:n.bm=(b:Int))(hb2:b<18446744073709551616)(hr:sG w n xs ys):Calls prog 243 #[n.v] w λ e w'=>∃r:Bool,e=.returned (.bool r)/\(r=true↔CV n xs ys)/\St w [] [] w':=by
 refine enter Tryz.func243 Tryz.ntmps243 rfl rfl (SF.s0 w) ?_
 simp only[cG]
 simp only[Nd.v,Nd.cells]
 refine J0 ?_;refine bM (λ x1=>?_);refine J1 ?_;refine iH ?_;refine lF ?_;refine aB ?_
 (refine eI 6 (λ g6=>?_) (λ g6=>?_)<;>refine Ka2 ?_)
 all_goals ((first|refine aJ ?_|(refine aF ?_;refine aE (c0 (V:=.bool) (hc:=λ w1 hw=>zY (n:=n) hb hb2 (hr.gH hw.done))) (λ x8 h8=>?_)));refine Kb7 ?_)
 all_goals
 refine aT Tryz.results243 (λ w hw=>?_)
 refine⟨_,rfl,?_,hw.done⟩
 simp_all[CV]
theorem oP(i:Int)(hb:n.bm=(b:Int))(hb2:b<18446744073709551616)(hr:sG w n xs ys):Calls prog 216 #[n.v,.int .i64 i] w λ e w'=>e=.returned (.tuple #[.int .i64 ((Mk n xs ys b i).getD 0),.bool (Mk n xs ys b i).isSome])/\St w [] [] w':=by
 have e1:=hr.brN
 refine enter Tryz.func216 Tryz.ntmps216 rfl rfl (SF.s2 hr.br hr.pr) ?_
 simp only[cG]
 simp only[Nd.v,Nd.cells,hb,e1]
 refine J0 ?_;refine bM (λ x2=>?_);refine J8 ?_;refine aV ?_;refine oR ?_;refine aE (c0 (V:=.bool) (hc:=λ w1 hw=>by rw[<- e1,<- hb];exact gv (n:=n) hb hb2 (hr.gH hw.done))) (λ x7 h7=>?_);refine Dg ?_
 (refine eI 9 (λ g9=>?_) (λ g9=>?_)<;>refine Ka1 ?_)
 all_goals (refine ig ?_;(first|refine aJ ?_|(refine aF ?_;refine aP (cV (hc:=λ w1 hw=>Ii hb2 i w1)) (λ x13=>?_)));refine Kc0 ?_)
 all_goals
 refine bC (λ c15=>?_) (λ c15=>?_)
 ·all_goals refine Ov ?_
  all_goals
   refine bD Tryz.results216 (λ w hw=>?_)
   rw[show Mk n xs ys b i=none from if_neg (by simp_all)];exact⟨rfl,hw.done⟩
 ·try exact nv c15
  all_goals
   have hcv:CV n xs ys:=h7.1 (by simpa using g9)
   have hpl:=aBE (hcv.bv hb hb2) c15
  all_goals (refine kZ ?_;refine eH [(0,[]),(1,[]),(2,[]),(3,[]),(4,[]),(5,[1]),(6,[]),(7,[]),(8,[]),(9,[])] ?_;refine lK ?_;refine lK ?_;refine aR ?_;refine dC (i:=5) (hq:=(cV (hc:=λ w1 hw=>Pm hb2 i w1))) (h:=λ x21=>?_);refine R4 ?_;refine Pf ?_)
  all_goals
   refine bD Tryz.results216 (λ w hw=>?_)
   rw[show Mk n xs ys b i=some (xs.getD (rX b i) 0) from if_pos ⟨hcv,c15⟩];exact⟨rfl,hw.done⟩
theorem Kt(hb:n.bm=(b:Int))(hb2:b<18446744073709551616)(hr:sG w n xs ys):Calls prog 245 #[n.v] w λ e w'=>e=.returned (.tuple #[.int .i64 ((m6 n xs ys).getD 0),.bool (m6 n xs ys).isSome])/\St w [] [] w':=by
 have e1:=hr.brN
 refine enter Tryz.func245 Tryz.ntmps245 rfl rfl (SF.s2 hr.br hr.pr) ?_
 simp only[cG]
 simp only[Nd.v,Nd.cells,e1]
 refine J0 ?_;refine bM (λ x1=>?_);refine J8 ?_;refine aV ?_;refine oR ?_;refine aE (c0 (V:=.bool) (hc:=λ w1 hw=>by rw[<- e1];exact gv (n:=n) hb hb2 (hr.gH hw.done))) (λ x5 h5=>?_);refine Dg ?_
 (refine eI 7 (λ g7=>?_) (λ g7=>?_)<;>refine Ka1 ?_)
 all_goals (refine Ka2 ?_;(first|refine aJ ?_|(refine aF ?_;refine dS ?_));refine Ry ?_;refine aI ?_)
 all_goals
 refine bC (λ c12=>?_) (λ c12=>?_)
 ·all_goals refine Ov ?_
  all_goals
   refine bD Tryz.results245 (λ w hw=>?_)
   rw[show m6 n xs ys=none from if_neg (by simp_all;try omega)];exact⟨rfl,hw.done⟩
 ·try exact nv c12
  all_goals
   have hcv:CV n xs ys:=h5.1 (by simpa using g7)
   have hl1:xs.length=1:=by omega
  all_goals (refine aZ ?_;refine iH ?_;refine aD (cP (k:=0) rf rf fZ fO fin (by omega) (by omega)) rfl ?_;refine bQ ?_;refine J8 ?_)
  all_goals
   refine bD Tryz.results245 (λ w hw=>?_)
   rw[show m6 n xs ys=some (xs.getD 0 0) from if_pos ⟨hcv,hl1⟩];exact⟨rfl,hw.done⟩
end
end
section
open Go.RowKit Go.Ct
def cn(b:Nat)(xs:List Int)(x:Option Addr×Nat):Nd:={Nd.zero with kind:=3,bm:=(b:Int),brA:=x.1,brN:=xs.length,brC:=x.2}
theorem aBN{b:Nat}{xs:List Int}(h:BV b xs)(x:Option Addr×Nat){p:Int}(hp:0<=p):CV {cn b xs x with prev:=p} xs [] :=
 ⟨rfl,by simp[sQ,Nd.own,Nd.jZ,Nd.jH,cn],by simp[cn,Nd.zero],hp,by simp[cn,Nd.zero],.inr (.inr (.inl ⟨rfl,by show(xs.length:Int)=yX (b:Int);rw[sM h.lt,h.len],h.pos⟩))⟩
theorem aAY{b:Nat}{xs:List Int}(h:BV b xs)(x:Option Addr×Nat):CV (cn b xs x) xs []:=aBN h x (p:=0) (Int.le_refl _)
end
section
open Go.RowKit Go.Ct
abbrev E3:=fk 114
abbrev tw(w:World):=Ly w 114
theorem aB9(v n:Int)(w:World)(hn:IntKind.u64.wrap n≠0):Calls prog 46 #[.int .i64 v,.int .i64 n] w λ e w'=>e=.returned (.int .i64 (X1 v n))/\St w [] [] w':=by
 refine enter Tryz.func46 Tryz.ntmps46 rfl rfl (SF.s0 w) ?_
 simp only[cG]
 refine Kc7 ?_;refine nM ?_;refine aB ?_;refine nM ?_;refine aBf ?_;refine nM ?_;refine J1 ?_
 refine aT Tryz.results46 (λ w hw=>?_)
 exact⟨rfl,hw.done⟩
theorem ny{l:List Int}{a:Option Addr}{c:Nat}{w:World}:Calls prog 21 #[.slice a l.length c] w λ e w' =>
  ∃b:Nat,e=.returned (.pointer (some ⟨b,0,none⟩))/\True/\SF w [] [(b,E3 a l c 0)] [] [] [] w':=by
 refine enter Tryz.func21 Tryz.ntmps21 rfl rfl (SF.s0 w) ?_
 simp only[cG]
 refine Kc7 ?_;refine bO ?_;refine bM (λ x5=>?_);refine J1 ?_
 refine aT Tryz.results21 (λ w hw=>?_)
 exact⟨x5,rfl,trivial,hw.aY⟩
theorem eM{l:List Int}{a:Option Addr}{b c k:Nat}{w:World}(n:Int)(ht:tw w b a l c k)(h0:0<n)(h1:n<=9223372036854775807) :
  Calls prog 22 #[.pointer (some ⟨b,0,none⟩),.int .i64 n] w λ e w' =>
  ∃v:Nat,e=.returned (.int .i64 ((v:Nat):Int))/\((v:Int)<n/\v=tvN l k n)/\SF w [b] ((b,E3 a l c (lA l k))::[]) [] [] [] w':=by
 have hl:=ht.len
 have hu:IntKind.u64.wrap n≠0:=by rw[wrap_u64];omega
 refine enter Tryz.func22 Tryz.ntmps22 rfl rfl ht.start ?_
 simp only[cG]
 refine E8 ?_;refine aV ?_;refine gZ [0,1,2,3,4,5,6,7,8,9] ?_;refine Es ?_;refine oE ?_;refine aBh ?_;refine eL ?_
 refine bC (λ c14=>?_) (λ c14=>?_)
 ·refine dA ?_
  refine aT Tryz.results22 (λ w hw=>?_)
  exact⟨0,rfl,⟨by omega,by simp only[tvN];rw[if_neg (by omega)]⟩,by simp only[lA];rw[if_neg (by omega)];exact hw.aY⟩
 ·refine xd ?_;refine Ha ?_;refine Nw ?_;refine aV ?_;refine gZ [0,1,2,3,4,5,6,7,8,9,10,11,12,13] ?_;refine Es ?_;refine Rl ?_;refine R4 ?_;refine aR ?_;refine dC (i:=12) (hq:=(cV (hc:=λ w1 hw=>aB9 (l.getD (k+1-1) 0) n w1 hu))) (h:=λ x34=>?_);refine J7 ?_
  refine aT Tryz.results22 (λ w hw=>?_)
  have hb:=S8 (v:=l.getD k 0) h0 h1
  exact⟨(X1 (l.getD k 0) n).toNat,by rw[Int.toNat_of_nonneg hb.1];rfl,⟨by omega,by simp only[tvN];rw[if_pos (by omega)]⟩,by simp only[lA];rw[if_pos (by omega)];exact hw.aY⟩
def lY:List ByteArray:=[⟨#[97]⟩,⟨#[98]⟩,⟨#[99]⟩,⟨#[100]⟩,⟨#[97,98]⟩,⟨#[]⟩,⟨#[98,48]⟩,⟨#[107,101,121]⟩]
theorem vf{l:List Int}{a:Option Addr}{b c k:Nat}{w:World}(ht:tw w b a l c k) :
  Calls prog 59 #[.pointer (some ⟨b,0,none⟩)] w λ e w' =>
  ∃v:Nat,e=.returned (.string (lY.getD v ⟨#[]⟩))/\(v<8/\v=tvN l k 8)/\SF w [b] ((b,E3 a l c (lA l k))::[]) [] [] [] w':=by
 refine enter Tryz.func59 Tryz.ntmps59 rfl rfl ht.start ?_
 simp only[cG]
 refine dA ?_;refine J0 ?_;refine fF (λ x3=>?_);refine aB ?_;refine aE (vK (hc:=λ w1 hw=>eM 8 (hw.tape cS fin ht.len) (by decide) (by decide))) (λ x5 h5=>?_);refine aD (fg (lst:=lY) rf rf fZ fO fin (by omega) (by simp only[lY,List.length_cons,List.length_nil];omega)) rfl ?_;refine aD (o8 (lst:=lY) rf fO fin (by simp only[lY,List.length_cons,List.length_nil];omega)) rfl ?_;refine J1 ?_
 refine aT Tryz.results59 (λ w hw=>?_)
 exact⟨x5,rfl,⟨by omega,h5.2⟩,hw.aY⟩
end
end Go.Proofs.YtbajmaoegmbfgaaGreat
namespace Go.Ct
section
end
end Go.Ct
namespace Go.Proofs.YtbajmaoegmbfgaaGreat
open Go.Proofs.Tryz (prog)
section
open Go.RowKit Go.Ct
end
section
open Go.RowKit Go.Ct
def tmb(s:Nd):Nd:={Nd.zero with kind:=5,hash:=s.hash,key:=s.key,val:=s.val}
def Gn(n:Nd):Nd:=if n.kind=5 then{Nd.zero with kind:=4,hash:=n.hash,key:=n.key,val:=n.val} else Nd.zero
theorem Iw(n:Nd)(w:World):Calls prog 219 #[n.v] w λ e w'=>e=.returned (.tuple #[(Gn n).v,.bool (decide (n.kind=5))])/\St w [] [] w':=by
 refine enter Tryz.func219 Tryz.ntmps219 rfl rfl (SF.s0 w) ?_
 simp only[cG]
 simp only[Nd.v,Nd.cells]
 refine J0 ?_;refine bM (λ x1=>?_);refine aL (λ x2=>?_);refine iT ?_;refine iH ?_;refine Kc9 ?_
 refine bC (λ c6=>?_) (λ c6=>?_)
 ·refine J0 ?_;refine bO ?_;refine Cg ?_
  refine bD Tryz.results219 (λ w hw=>?_)
  exact⟨by rw[show Gn n=Nd.zero from if_neg (by assumption),decide_eq_false (by assumption)];rfl,hw.done⟩
 ·refine aZ ?_;refine iH ?_;refine J3 ?_;refine J3 ?_;refine bO ?_;refine Cg ?_
  refine bD Tryz.results219 (λ w hw=>?_)
  exact⟨by rw[show Gn n={Nd.zero with kind:=4,hash:=n.hash,key:=n.key,val:=n.val} from if_pos (by omega),decide_eq_true (by omega)];rfl,hw.done⟩
section
variable{n s:Nd}{xs:List Int}{ys:List Pr}{w:World}{b:Nat}
def LV(n:Nd)(xs:List Int)(ys:List Pr):Prop:=n.kind=6/\cC n xs ys
theorem Rn(hb:n.bm=(b:Int))(hb2:b<18446744073709551616)(hr:sG w n xs ys):Calls prog 255 #[n.v] w λ e w'=>∃r:Bool,e=.returned (.bool r)/\(r=true↔LV n xs ys)/\St w [] [] w':=by
 refine enter Tryz.func255 Tryz.ntmps255 rfl rfl (SF.s0 w) ?_
 simp only[cG]
 simp only[Nd.v,Nd.cells]
 refine J0 ?_;refine bM (λ x1=>?_);refine J1 ?_;refine iH ?_;refine lF ?_;refine aB ?_
 (refine eI 6 (λ g6=>?_) (λ g6=>?_)<;>refine Ka2 ?_)
 all_goals ((first|refine aJ ?_|(refine aF ?_;refine aE (c0 (V:=.bool) (hc:=λ w1 hw=>zY (n:=n) hb hb2 (hr.gH hw.done))) (λ x8 h8=>?_)));refine Kb7 ?_)
 all_goals
 refine aT Tryz.results255 (λ w hw=>?_)
 refine⟨_,rfl,?_,hw.done⟩
 simp_all[LV]
open Classical in
noncomputable def Ua (n:Nd) (xs:List Int) (ys:List Pr) (level:Int) (s:Nd):Bool:=decide ((m6 n xs ys).isSome=true/\0<level/\s.kind=4)
def vu(t:Bool)(n s:Nd):Nd:=if t=true then tmb s else n
def oj{α:Type}(t:Bool)(l:List α):List α:=if t=true then [] else l
theorem Ea(level:Int)(s:Nd)(hb:n.bm=(b:Int))(hb2:b<18446744073709551616)(hr:sG w n xs ys):Calls prog 221 #[n.v,.int .i64 level,s.v] w λ e w'=>e=.returned (vu (Ua n xs ys level s) n s).v/\St w [] [] w':=by
 refine enter Tryz.func221 Tryz.ntmps221 rfl rfl (SF.s0 w) ?_
 simp only[cG]
 simp only[Nd.v,Nd.cells]
 refine J0 ?_;refine bM (λ x3=>?_);refine bM (λ x5=>?_);refine aL (λ x6=>?_);refine Tq ?_;refine oR ?_;refine aP (cV (hc:=λ w1 hw=>Kt (n:=n) hb hb2 (hr.gH hw.done))) (λ x11=>?_);refine aB ?_;refine aD (bR rf rfl) rfl ?_;refine aD (bR rf rfl) rfl ?_;refine J8 ?_;refine jF ?_
 (refine eI 15 (λ g15=>?_) (λ g15=>?_)<;>refine Ka0 ?_)
 all_goals (refine Ar ?_;refine aB ?_)
 all_goals (first|refine aJ ?_|(refine eI 19 (λ g19=>?_) (λ g19=>?_)<;>refine Ka1 ?_))
 all_goals (refine yb ?_;refine aI ?_)
 all_goals
 refine bC (λ c23=>?_) (λ c23=>?_)
 ·try exact nv c23
  all_goals (refine iH ?_;refine J3 ?_;refine J3 ?_;refine xF ?_)
  all_goals
   refine bD Tryz.results221 (λ w hw=>?_)
   rw[show Ua n xs ys level s=true from decide_eq_true ⟨by assumption,by omega,by omega⟩];exact⟨rfl,hw.done⟩
 ·all_goals (refine aZ ?_;refine oR ?_;refine J5 ?_)
  all_goals
   refine bD Tryz.results221 (λ w hw=>?_)
   rw[show Ua n xs ys level s=false from decide_eq_false (by rintro ⟨t1,t2,t3⟩;first|omega|(clear hw;simp_all;done))];exact⟨rfl,hw.done⟩
end
end
section
open Go.RowKit Go.Ct
def a8(o:Option (List Pr))(h:Int)(x:Option Addr×Nat):Nd:=match o with|some m=>{Nd.zero with kind:=6,hash:=h,prA:=x.1,prN:=m.length,cX:=x.2}|none=>Nd.zero
def Z1(o:Option (List Pr)):List Pr:=o.getD []
def N3(o:Option (List Pr))(h:Int)(x:Option Addr×Nat):Nd:=match o with|some m=>if m.length=1 then{Nd.zero with kind:=5,hash:=h,key:=(m.getD 0 (⟨#[]⟩,0)).1,val:=(m.getD 0 (⟨#[]⟩,0)).2} else{Nd.zero with kind:=6,hash:=h,prA:=x.1,prN:=m.length,cX:=x.2}|none=>Nd.zero
def Is(o:Option (List Pr)):List Pr:=match o with|some m=>if m.length=1 then [] else m|none=>[]
open Classical in
noncomputable def lH (n:Nd) (xs:List Int) (ys:List Pr) (k:ByteArray) (v:Int):Option (List Pr):=if LV n xs ys/\k.size<=64 then some (Po ys k v) else none
open Classical in
noncomputable def qG (n:Nd) (xs:List Int) (ys:List Pr) (k:ByteArray):Option (List Pr):=if LV n xs ys/\(dY ys k).isSome=true then some (sU ys k) else none
def aCq(w:World)(o:Option (List Pr))(h:Int)(e:Ending)(w':World):Prop:=∃x:Option Addr×Nat,e=.returned (.tuple #[(a8 o h x).v,.bool o.isSome])/\(Z1 o).length<=x.2/\SF w [] [] [] [(x.1,cX (Z1 o))] [] w'
def aBl(w:World)(o:Option (List Pr))(h:Int)(e:Ending)(w':World):Prop:=∃x:Option Addr×Nat,e=.returned (.tuple #[(N3 o h x).v,.bool o.isSome])/\(Is o).length<=x.2/\SF w [] [] [] [(x.1,cX (Is o))] [] w'
section
variable{n s:Nd}{xs:List Int}{ys:List Pr}{w:World}{b:Nat}
theorem S3(k:ByteArray)(v:Int)(hb:n.bm=(b:Int))(hb2:b<18446744073709551616)(hr:sG w n xs ys)(hy:ys.length<=150000000000):Calls prog 247 #[n.v,.string k,.int .u64 v] w (aCq w (lH n xs ys k v) n.hash):=by
 have e2:=hr.prN
 refine enter Tryz.func247 Tryz.ntmps247 rfl rfl (SF.s1 hr.pr) ?_
 simp only[cG]
 simp only[Nd.v,Nd.cells,e2]
 refine J0 ?_;refine bM (λ x3=>?_);refine aL (λ x6=>?_);refine iT ?_;refine oR ?_;refine aE (c0 (V:=.bool) (hc:=λ w1 hw=>by rw[<- e2];exact Rn (n:=n) hb hb2 (hr.gH hw.done))) (λ x9 h9=>?_);refine Dg ?_
 (refine eI 11 (λ g11=>?_) (λ g11=>?_)<;>refine Ka0 ?_)
 all_goals ((first|refine aJ ?_|(refine aF ?_;refine mH ?_));refine Ka7 ?_)
 all_goals
 refine bC (λ c15=>?_) (λ c15=>?_)
 ·all_goals (refine J0 ?_;refine bO ?_;refine Cg ?_)
  all_goals
   refine bD Tryz.results247 (λ w hw=>?_)
   rw[show lH n xs ys k v=none from if_neg (by rintro ⟨t1,t2⟩;have:=h9.2 t1;clear hw;first|omega|(simp_all;done))];exact⟨(none,0),rfl,Nat.le_refl _,(hw.M9 none).fin⟩
 ·try exact nv c15
  all_goals (refine kZ ?_;refine eH [(0,[]),(1,[]),(2,[]),(3,[]),(4,[]),(5,[]),(6,[1]),(7,[]),(8,[]),(9,[])] ?_;refine lK ?_;refine lK ?_;refine iK ?_;refine bE (i:=6) (hq:=(cF (hc:=λ w1 hw=>bu (l:=ys) k v (hw.cl fin) (by omega)))) (h:=λ x23 h23=>?_);refine jC ?_;refine Bu ?_)
  all_goals
   refine bD Tryz.results247 (λ w hw=>?_)
   rw[show lH n xs ys k v=some (Po ys k v) from if_pos ⟨h9.1 (by clear hw;simp_all),by omega⟩];exact⟨x23,rfl,h23,hw.fin⟩
theorem Oh(k:ByteArray)(hb:n.bm=(b:Int))(hb2:b<18446744073709551616)(hr:sG w n xs ys)(hy:ys.length<=150000000000):Calls prog 251 #[n.v,.string k] w (aBl w (qG n xs ys k) n.hash):=by
 have e2:=hr.prN
 refine enter Tryz.func251 Tryz.ntmps251 rfl rfl (SF.s1 hr.pr) ?_
 simp only[cG]
 simp only[Nd.v,Nd.cells,e2]
 refine J0 ?_;refine bM (λ x2=>?_);refine aL (λ x4=>?_);refine iT ?_;refine Kb9 ?_;refine aP (cV (hc:=λ w1 hw=>Jy (l:=ys) k (hw.cl fin) (by omega))) (λ x13=>?_);refine aB ?_;refine aD (bR rf rfl) rfl ?_;refine aD (bR rf rfl) rfl ?_;refine J8 ?_;refine oR ?_;refine aE (c0 (V:=.bool) (hc:=λ w1 hw=>by rw[<- e2];exact Rn (n:=n) hb hb2 (hr.gH hw.done))) (λ x17 h17=>?_);refine Dg ?_
 (refine eI 19 (λ g19=>?_) (λ g19=>?_)<;>refine Ka0 ?_)
 all_goals (refine Kc0 ?_)
 all_goals
 refine bC (λ c22=>?_) (λ c22=>?_)
 ·all_goals (refine J0 ?_;refine bO ?_;refine Cg ?_)
  all_goals
   refine bD Tryz.results251 (λ w hw=>?_)
   rw[show qG n xs ys k=none from if_neg (by rintro ⟨t1,t2⟩;have:=h17.2 t1;clear hw;simp_all)];exact⟨(none,0),rfl,Nat.le_refl _,(hw.M9 none).fin⟩
 ·try exact nv c22
  all_goals (refine aZ ?_;refine Kb9 ?_;refine aE (cF (hc:=λ w1 hw=>Yj (l:=ys) k (hw.cl fin) (by omega))) (λ x27 h27=>?_);refine Kc2 ?_;refine dS ?_;refine uQ ?_)
  all_goals
   refine bC (λ c30=>?_) (λ c30=>?_)
   ·refine aV ?_;refine gZ [0,1,2,3,4,5,6,7,8,9,10,11,12] ?_;refine lK ?_;refine aR ?_;refine bU (i:=3) (hq:=(Hh (k:=0) rf rf fZ eT fin (by omega) (by omega))) (h:=?_);refine lK ?_;refine aR ?_;refine bU (i:=7) (hq:=(Hh (k:=0) rf rf fZ eT fin (by omega) (by omega))) (h:=?_);refine aW ?_;refine bU (i:=9) (hq:=(Qz (q:=0) (lst:=sU ys k) rf fO fin (by omega))) (h:=?_);refine jC ?_;refine Bu ?_
    refine bD Tryz.results251 (λ w hw=>?_)
    have e1:(sU ys k).length=1:=by omega
    rw[show qG n xs ys k=some (sU ys k) from if_pos ⟨h17.1 (by clear hw;simp_all),by clear hw;simp_all⟩];exact⟨(none,0),by simp only[N3,if_pos e1];rfl,by simp only[Is,if_pos e1];exact Nat.le_refl _,by simp only[Is,if_pos e1];exact(hw.M9 none).fin⟩
   ·refine aZ ?_;refine Kb9 ?_;refine bO ?_;refine Cg ?_
    refine bD Tryz.results251 (λ w hw=>?_)
    have e1:¬(sU ys k).length=1:=by omega
    rw[show qG n xs ys k=some (sU ys k) from if_pos ⟨h17.1 (by clear hw;simp_all),by clear hw;simp_all⟩];exact⟨x27,by simp only[N3,if_neg e1];rfl,by simp only[Is,if_neg e1];exact h27,by simp only[Is,if_neg e1];exact hw.fin⟩
end
end
end Go.Proofs.YtbajmaoegmbfgaaGreat
namespace Go.Ct
open Go Go.RowKit
section
section
variable{P:Program}{n:Nat}{S:List (Nat×Value)}
variable{w0 w w':World}{M:List Nat}{H H':List (Nat×Obj)}{A F F':Fr}{O O':List Ow}{G:World->Prop}
variable{d:Nat}{ty:TypeId}{pos:String}{af:Array Edge}{gd:Option (Nat×Bool)}{dst:Option Nat}{x y z:Operand}{t t2 e:TypeId}{p a:Option Addr}{i m k c c2:Nat}
end
end
end Go.Ct
namespace Go.Proofs.YtbajmaoegmbfgaaGreat
section
open Go Go.RowKit Go.Ct
end
section
open Go.RowKit Go.Ct
open Classical in
noncomputable def oh (n:Nd) (xs:List Int) (ys:List Pr) (b:Nat) (i r:Int):Option (Nat×List Int):=if CV n xs ys/\(0<=i/\i<64)/\1<=r/\qJ b i=false then some (dZ b i,xI xs (rX b i) r) else none
open Classical in
noncomputable def oo (n:Nd) (xs:List Int) (ys:List Pr) (b:Nat) (i r:Int):Option (Nat×List Int):=if CV n xs ys/\1<=r/\qJ b i=true then some (b,qU xs (rX b i) r) else none
open Classical in
noncomputable def oi (n:Nd) (xs:List Int) (ys:List Pr) (b:Nat) (i:Int):Option (Nat×List Int):=if CV n xs ys/\qJ b i=true then some (wI b i,sJ xs (rX b i)) else none
def nB(o:Option (Nat×List Int))(x:Option Addr×Nat):Nd:=match o with|some q=>cn q.1 q.2 x|none=>Nd.zero
def mI(o:Option (Nat×List Int)):List Int:=match o with|some q=>q.2|none=>[]
def X6(w:World)(o:Option (Nat×List Int))(e:Ending)(w':World):Prop:=∃x:Option Addr×Nat,e=.returned (.tuple #[(nB o x).v,.bool o.isSome])/\(mI o).length<=x.2/\SF w [] [] [] [(x.1,aH (mI o))] [] w'
section
variable{n:Nd}{xs:List Int}{ys:List Pr}{w:World}{b:Nat}
end
end
section
open Go.RowKit Go.Ct
def gP(b:Nat)(xs:List Int)(i:Nat)(r:Int):Nat->Option Int:=Kz (qS b xs) i (if 0<r then some r else none)
theorem oQ{m:Nat->Option Int}{k:Nat}{v:Int}(h:m k=some v)(hk:k<64):dZ (Bj m k) (k:Int)=Bj m (k+1)/\qK m k++[v]=qK m (k+1):=by
 simp only[Bj,qK,h,dZ,Option.isSome_some,if_true,Option.toList,Int.toNat_natCast,and_true]
 exact if_pos (by omega)
theorem oN{m:Nat->Option Int}{k:Nat}(h:m k=none):Bj m k=Bj m (k+1)/\qK m k=qK m (k+1):=by
 simp[Bj,qK,h]
theorem Av(m:Nat->Option Int){k:Nat}(hk:k<=64):Bj m k<18446744073709551616:=Nat.lt_of_lt_of_le (a7 m k) (Nat.pow_le_pow_right (n:=2) (by decide) hk)
theorem V4(m:Nat->Option Int):∀k,(qK m k).length<=k
 | 0=>Nat.le_refl _
 | k+1=>by have:=V4 m k;simp only[qK,List.length_append];cases m k<;>simp<;>omega
section
variable{n:Nd}{xs:List Int}{ys:List Pr}{w:World}{b:Nat}
theorem Wj(hcv:CV n xs ys){k:Nat}(hk:k<64):Mk n xs ys b (k:Int)=qS b xs k:=by
 unfold Mk qS
 have h1:qJ b (k:Int)=b.testBit k:=by rw[tF b (by omega) (by omega),Int.toNat_natCast]
 have h2:rX b (k:Int)=gC b k:=by unfold rX;rw[Int.toNat_natCast,Nat.min_eq_left (by omega)]
 rw[h1,h2]
 by_cases h:b.testBit k=true<;>simp[h,hcv]
theorem Em{i k:Nat}{r:Int}(hcv:CV n xs ys)(hk:k<64)(h:(k:Int)≠(i:Int)):gP b xs i r k=Mk n xs ys b (k:Int):=by
 rw[Wj hcv hk]
 exact if_neg (by omega)
theorem E4{i k:Nat}{r:Int}(h:(k:Int)=(i:Int)):gP b xs i r k=if 0<r then some r else none:=if_pos (by omega)
theorem Wb{o:Option Int}(h:o.isSome=true):o=some (o.getD 0):=by cases o<;>simp_all
theorem W4{o:Option Int}(h:o.isSome=false):o=none:=by cases o<;>simp_all
set_option maxHeartbeats 800000 in
theorem Mo(i:Nat)(r:Int)(_hi:i<64)(hcv:CV n xs ys)(hb:n.bm=(b:Int))(hb2:b<18446744073709551616)(hr:sG w n xs ys) :
    Calls Tryz.prog 244 #[n.v,.int .i64 (i:Int),.int .i64 r] w λ e w'=>∃x:Option Addr×Nat,e=.returned (cn (Bj (gP b xs i r) 64) (qK (gP b xs i r) 64) x).v/\(qK (gP b xs i r) 64).length<=x.2/\SF w [] [] [] [(x.1,aH (qK (gP b xs i r) 64))] [] w':=by
  have e1:=hr.brN
  refine enter Tryz.func244 Tryz.ntmps244 rfl rfl (SF.s2 hr.br hr.pr) ?_
  simp only[cG]
  simp only[Nd.v,Nd.cells]
  refine J0 ?_;refine bM (λ x3=>?_);refine aL (λ x6=>?_);refine aI ?_;refine J0 ?_;refine bO ?_;refine aL (λ x7=>?_);refine J5 ?_;refine aV ?_;refine D8 ?_
  refine nT [8,9,10,12,13,14,15,16,17,18,19,20,21,22,23,24,25,26,27,28,29,30,31,32,33,34,35,36,37,38,39] (λ y:Nat×Option Addr×Nat=>[(8,.int .i64 ((y.1:Nat):Int))]) (λ y=>y.1<=64/\(qK (gP b xs i r) y.1).length<=y.2.2) (λ y=>[(x7,.cells ⟨[.int .i64 3,.int .i64 0,.int .i64 0,.int .u64 ((Bj (gP b xs i r) y.1:Nat):Int),.slice y.2.1 (qK (gP b xs i r) y.1).length y.2.2,.int .u64 0,.string ⟨#[]⟩,.int .u64 0,.slice none 0 0,.int .i64 0,.int .i64 0,.int .i64 0,.int .i64 0,.int .i64 0]⟩ 47),(x6,.cells ⟨Nd.zero.cells⟩ 47),(x3,.cells ⟨n.cells⟩ 47)]) (λ _=>_) (λ y=>[⟨y.2.1,aH (qK (gP b xs i r) y.1),y.2.2,37,1⟩]) (λ y=>64-y.1) ((0,none,0)) (⟨Nat.zero_le _,Nat.le_refl _⟩) (λ y f hx=>?_) (hw0:=λ w hw=>(hw.kA 37 1).back)
  dsimp only[iC,List.map,List.cons_append,List.nil_append]
  have hll:=V4 (gP b xs i r) y.1
  refine kT ?_;refine Bi ?_
  refine bC (λ c13=>?_) (λ c13=>?_)
  · refine rY ?_;refine D9 ?_;refine aP (cV (hc:=λ w1 hw=>oP (n:=n) (y.1:Int) hb hb2 (hr.gH hw.done))) (λ x19=>?_);refine aB ?_;refine aD (jJ rf rfl) rfl ?_;refine aD (jJ rf rfl) rfl ?_;refine J8 ?_;refine C4 ?_;refine uQ ?_
    refine bC (λ c24=>?_) (λ c24=>?_)
    · refine Jb ?_;refine Dv ?_;refine J8 ?_;refine J2 ?_;refine aI ?_
      refine bC (λ c28=>?_) (λ c28=>?_)
      · first
         | have hm:gP b xs i r y.1=some r:=by rw[E4 c24,if_pos (by omega)]
         | have hm:gP b xs i r y.1=some ((Mk n xs ys b (y.1:Int)).getD 0):=by rw[Em hcv (by omega) c24];exact Wb c28
        refine eP [29,30,31,32,33,34,35,36,37,38,39] (λ z:Nat×Option Addr×Nat=>[]) (λ z=>(qK (gP b xs i r) y.1).length+1<=z.2.2) (λ z=>[(x7,.cells ⟨[.int .i64 3,.int .i64 0,.int .i64 0,.int .u64 ((Bj (gP b xs i r) (y.1+1):Nat):Int),.slice z.2.1 (qK (gP b xs i r) (y.1+1)).length z.2.2,.int .u64 0,.string ⟨#[]⟩,.int .u64 0,.slice none 0 0,.int .i64 0,.int .i64 0,.int .i64 0,.int .i64 0,.int .i64 0]⟩ 47),(x6,.cells ⟨Nd.zero.cells⟩ 47),(x3,.cells ⟨n.cells⟩ 47)]) (λ z=>[]) (λ z=>[⟨z.2.1,aH (qK (gP b xs i r) (y.1+1)),z.2.2,37,1⟩]) (by decide) (λ _=>by exact rfl) ?_ (λ z f hx=>?_)
        · refine gK (.one 0 [] (.one 1 [] (.one 2 [] (.one 4 [] (.one 5 [] (.one 6 [] (.two 3 [5] (.one 9 [] (.one 7 [1,5] (.one 8 [] (.one 10 [] (.one 11 [] (.one 12 [] .nil)))))) 0 [] (.two 7 [1,5] (.one 3 [5] (.one 9 [] (.one 8 [] (.one 10 [] (.one 11 [] (.one 12 [] .nil)))))) 0 [] .nil)))))))) ?_
          refine lK ?_;refine aR ?_;refine lK ?_;refine aR ?_
          refine gV (E:=[3,7]) (by decide +kernel) ((.cons ?_ (.cons ?_ .nil)))
          · refine Lj (i:=3) (hq:=(cV (hc:=λ w1 hw=>nQ (Av (gP b xs i r) (k:=y.1) (by omega)) (y.1:Int) w1))) (h:=λ x32=>?_)
            refine aW ?_;refine cE (h:=λ x36=>?_);((refine mD (h:=λ x37=>?_);try (refine eK (λ h37=>?_))));refine S6 ?_;refine A7 ?_
            refine fH ((0,x37)) ?_ (hw1:=λ w hw=>by obtain⟨k1,k2⟩:=oQ hm (by omega);rw[k1,show(qK (gP b xs i r) y.1).length+1=(qK (gP b xs i r) (y.1+1)).length by rw[<- k2];simp,k2] at hw;exact hw.back)
            · exact h37
          · refine mF (i:=7) (h:=λ x36=>?_)
            refine dC (i:=3) (hq:=(cV (hc:=λ w1 hw=>nQ (Av (gP b xs i r) (k:=y.1) (by omega)) (y.1:Int) w1))) (h:=λ x32=>?_);refine aW ?_;((refine mD (h:=λ x37=>?_);try (refine eK (λ h37=>?_))));refine S6 ?_;refine A7 ?_
            refine fH ((0,x37)) ?_ (hw1:=λ w hw=>by obtain⟨k1,k2⟩:=oQ hm (by omega);rw[k1,show(qK (gP b xs i r) y.1).length+1=(qK (gP b xs i r) (y.1+1)).length by rw[<- k2];simp,k2] at hw;exact hw.back)
            · exact h37
        dsimp only[iC,List.map,List.cons_append,List.nil_append]
        refine Ka8 ?_
        refine iO ((by exact(y.1+1,z.2))) ?_ (hw1:=λ w hw=>by exact hw.back)
        · first
           | exact⟨by omega,by have k2:=(oQ hm (by omega)).2;simp only[];rw[<- k2,List.length_append];exact hx⟩
           | exact⟨by omega,by simp only[];rw[<- (oN hm).2];exact hx.2⟩
      · have hm:gP b xs i r y.1=none:=by
         first
          | (rw[E4 c24,if_neg (by omega)];done)
          | (rw[Em hcv (by omega) c24];exact W4 c28)
        refine Kc1 ?_
        refine iO ((by exact(y.1+1,y.2))) ?_ (hw1:=λ w hw=>by(rw[(oN hm).1,(oN hm).2] at hw;exact hw.back))
        · first
           | exact⟨by omega,by have k2:=(oQ hm (by omega)).2;simp only[];rw[<- k2,List.length_append];exact hx⟩
           | exact⟨by omega,by simp only[];rw[<- (oN hm).2];exact hx.2⟩
    · refine aZ ?_;refine J2 ?_;refine aI ?_
      refine bC (λ c28=>?_) (λ c28=>?_)
      · first
         | have hm:gP b xs i r y.1=some r:=by rw[E4 c24,if_pos (by omega)]
         | have hm:gP b xs i r y.1=some ((Mk n xs ys b (y.1:Int)).getD 0):=by rw[Em hcv (by omega) c24];exact Wb c28
        refine eP [29,30,31,32,33,34,35,36,37,38,39] (λ z:Nat×Option Addr×Nat=>[]) (λ z=>(qK (gP b xs i r) y.1).length+1<=z.2.2) (λ z=>[(x7,.cells ⟨[.int .i64 3,.int .i64 0,.int .i64 0,.int .u64 ((Bj (gP b xs i r) (y.1+1):Nat):Int),.slice z.2.1 (qK (gP b xs i r) (y.1+1)).length z.2.2,.int .u64 0,.string ⟨#[]⟩,.int .u64 0,.slice none 0 0,.int .i64 0,.int .i64 0,.int .i64 0,.int .i64 0,.int .i64 0]⟩ 47),(x6,.cells ⟨Nd.zero.cells⟩ 47),(x3,.cells ⟨n.cells⟩ 47)]) (λ z=>[]) (λ z=>[⟨z.2.1,aH (qK (gP b xs i r) (y.1+1)),z.2.2,37,1⟩]) (by decide) (λ _=>by exact rfl) ?_ (λ z f hx=>?_)
        · refine gK (.one 0 [] (.one 1 [] (.one 2 [] (.one 4 [] (.one 5 [] (.one 6 [] (.two 3 [5] (.one 9 [] (.one 7 [1,5] (.one 8 [] (.one 10 [] (.one 11 [] (.one 12 [] .nil)))))) 0 [] (.two 7 [1,5] (.one 3 [5] (.one 9 [] (.one 8 [] (.one 10 [] (.one 11 [] (.one 12 [] .nil)))))) 0 [] .nil)))))))) ?_
          refine lK ?_;refine aR ?_;refine lK ?_;refine aR ?_
          refine gV (E:=[3,7]) (by decide +kernel) ((.cons ?_ (.cons ?_ .nil)))
          · refine Lj (i:=3) (hq:=(cV (hc:=λ w1 hw=>nQ (Av (gP b xs i r) (k:=y.1) (by omega)) (y.1:Int) w1))) (h:=λ x32=>?_)
            refine aW ?_;refine cE (h:=λ x36=>?_);((refine mD (h:=λ x37=>?_);try (refine eK (λ h37=>?_))));refine S6 ?_;refine A7 ?_
            refine fH ((0,x37)) ?_ (hw1:=λ w hw=>by obtain⟨k1,k2⟩:=oQ hm (by omega);rw[k1,show(qK (gP b xs i r) y.1).length+1=(qK (gP b xs i r) (y.1+1)).length by rw[<- k2];simp,k2] at hw;exact hw.back)
            · exact h37
          · refine mF (i:=7) (h:=λ x36=>?_)
            refine dC (i:=3) (hq:=(cV (hc:=λ w1 hw=>nQ (Av (gP b xs i r) (k:=y.1) (by omega)) (y.1:Int) w1))) (h:=λ x32=>?_);refine aW ?_;((refine mD (h:=λ x37=>?_);try (refine eK (λ h37=>?_))));refine S6 ?_;refine A7 ?_
            refine fH ((0,x37)) ?_ (hw1:=λ w hw=>by obtain⟨k1,k2⟩:=oQ hm (by omega);rw[k1,show(qK (gP b xs i r) y.1).length+1=(qK (gP b xs i r) (y.1+1)).length by rw[<- k2];simp,k2] at hw;exact hw.back)
            · exact h37
        dsimp only[iC,List.map,List.cons_append,List.nil_append]
        refine Ka8 ?_
        refine iO ((by exact(y.1+1,z.2))) ?_ (hw1:=λ w hw=>by exact hw.back)
        · first
           | exact⟨by omega,by have k2:=(oQ hm (by omega)).2;simp only[];rw[<- k2,List.length_append];exact hx⟩
           | exact⟨by omega,by simp only[];rw[<- (oN hm).2];exact hx.2⟩
      · have hm:gP b xs i r y.1=none:=by
         first
          | (rw[E4 c24,if_neg (by omega)];done)
          | (rw[Em hcv (by omega) c24];exact W4 c28)
        refine Kc1 ?_
        refine iO ((by exact(y.1+1,y.2))) ?_ (hw1:=λ w hw=>by(rw[(oN hm).1,(oN hm).2] at hw;exact hw.back))
        · first
           | exact⟨by omega,by have k2:=(oQ hm (by omega)).2;simp only[];rw[<- k2,List.length_append];exact hx⟩
           | exact⟨by omega,by simp only[];rw[<- (oN hm).2];exact hx.2⟩
  · refine bT rfl ?_;refine oR ?_;refine J5 ?_
    refine bD Tryz.results244 (λ w hw=>?_)
    have hy:y.1=64:=by omega
    rw[hy] at hw hx ⊢
    generalize Bj (gP b xs i r) 64=B at hw ⊢
    generalize qK (gP b xs i r) 64=L at hw hx ⊢
    exact⟨y.2,rfl,hx.2,SF.frz hw.aY⟩
end
end
section
open Go.RowKit Go.Ct
theorem of_eq{m:Nat->Option Int}{b:Nat}{xs:List Int}(h:BV b xs/\∀k,k<64->qS b xs k=m k):Bj m 64=b/\qK m 64=xs:=by
 obtain⟨h1,h2⟩:=Qn 64 λ k hk=>(h.2 k hk).symm
 obtain⟨h3,h4⟩:=S7 h.1
 exact⟨h1.trans h3,h2.trans h4⟩
theorem pN{k:Nat}(b:Nat)(hk:k<64):dZ b (k:Int)=b ||| 2^k:=by
 unfold dZ;rw[if_pos (by omega),Int.toNat_natCast]
theorem tM{k:Nat}(b:Nat)(hk:k<64):wI b (k:Int)=b ^^^ (b &&& 2^k):=by
 unfold wI;rw[if_pos (by omega),Int.toNat_natCast]
theorem oS{k:Nat}(b:Nat)(hk:k<64):rX b (k:Int)=gC b k:=by
 unfold rX;rw[Int.toNat_natCast,Nat.min_eq_left (by omega)]
theorem qQ{k:Nat}(b:Nat)(hk:k<64):qJ b (k:Int)=b.testBit k:=by
 rw[tF b (by omega) (by omega),Int.toNat_natCast]
theorem Ya{b k:Nat}{xs:List Int}{r:Int}(h:BV b xs)(hk:k<64)(hb:qJ b (k:Int)=false)(hr:1<=r):Bj (gP b xs k r) 64=dZ b (k:Int)/\qK (gP b xs k r) 64=xI xs (rX b (k:Int)) r:=by
 rw[qQ b hk] at hb
 rw[pN b hk,oS b hk]
 unfold gP
 rw[if_pos (by omega)]
 exact of_eq (Hn h hk hb hr)
theorem Ye{b k:Nat}{xs:List Int}{r:Int}(h:BV b xs)(hk:k<64)(hb:qJ b (k:Int)=true)(hr:1<=r):Bj (gP b xs k r) 64=b/\qK (gP b xs k r) 64=qU xs (rX b (k:Int)) r:=by
 rw[qQ b hk] at hb
 rw[oS b hk]
 unfold gP
 rw[if_pos (by omega)]
 exact of_eq (Uw h hk hb hr)
theorem Zl{b k:Nat}{xs:List Int}(h:BV b xs)(hk:k<64)(hb:qJ b (k:Int)=true):Bj (gP b xs k 0) 64=wI b (k:Int)/\qK (gP b xs k 0) 64=sJ xs (rX b (k:Int)):=by
 rw[qQ b hk] at hb
 rw[tM b hk,oS b hk]
 unfold gP
 rw[if_neg (by omega)]
 exact of_eq (Tv h hk hb)
section
variable{n:Nd}{xs:List Int}{ys:List Pr}{w:World}{b:Nat}
theorem Bh{i:Int}(h:(Mk n xs ys b i).isSome=true):CV n xs ys/\qJ b i=true:=by
 unfold Mk at h
 split at h
 ·assumption
 ·cases h
theorem Fe{i:Int}(h:(Mk n xs ys b i).isSome=false)(hcv:CV n xs ys):qJ b i=false:=by
 unfold Mk at h
 split at h
 ·cases h
 ·rename_i hn
  cases hh:qJ b i with
  | false=>rfl
  | true=>exact absurd ⟨hcv,hh⟩ hn
theorem Ja(i r:Int)(hb:n.bm=(b:Int))(hb2:b<18446744073709551616)(hr:sG w n xs ys):Calls Tryz.prog 249 #[n.v,.int .i64 i,.int .i64 r] w (X6 w (oh n xs ys b i r)):=by
 refine enter Tryz.func249 Tryz.ntmps249 rfl rfl (SF.s2 hr.br hr.pr) ?_
 simp only[cG]
 simp only[Nd.v,Nd.cells]
 refine J0 ?_;refine bM (λ x3=>?_);refine aL (λ x6=>?_);refine iT ?_;refine D9 ?_;refine aP (cV (hc:=λ w1 hw=>oP (n:=n) i hb hb2 (hr.gH hw.done))) (λ x13=>?_);refine aB ?_;refine aD (jJ rf rfl) rfl ?_;refine aD (jJ rf rfl) rfl ?_;refine J8 ?_;refine oR ?_;refine aE (c0 (V:=.bool) (hc:=λ w1 hw=>gv (n:=n) hb hb2 (hr.gH hw.done))) (λ x17 h17=>?_);refine Dg ?_
 (refine eI 19 (λ g19=>?_) (λ g19=>?_)<;>refine Ka0 ?_)
 all_goals (refine Ka6 ?_)
 all_goals (first|refine aJ ?_|(refine eI 22 (λ g22=>?_) (λ g22=>?_)<;>refine Ka0 ?_))
 all_goals (refine wo ?_;refine aB ?_)
 all_goals (first|refine aJ ?_|(refine eI 26 (λ g26=>?_) (λ g26=>?_)<;>refine Ka0 ?_))
 all_goals (refine Ar ?_;refine aB ?_)
 all_goals (first|refine aJ ?_|(refine eI 30 (λ g30=>?_) (λ g30=>?_)<;>refine Ka0 ?_))
 all_goals (refine wo ?_;refine aI ?_)
 all_goals
 refine bC (λ c33=>?_) (λ c33=>?_)
 ·all_goals (refine J0 ?_;refine bO ?_;refine Cg ?_)
  all_goals
   refine bD Tryz.results249 (λ w hw=>?_)
   rw[show oh n xs ys b i r=none from if_neg (by rintro ⟨k1,⟨k2,k3⟩,k4,k5⟩;clear hw;first|omega|exact absurd (Bh g22).2 (by simp[k5])|exact absurd (h17.2 k1) (by simp_all))];exact⟨(none,0),rfl,Nat.le_refl _,(hw.M9 none).fin⟩
 ·try exact nv c33
  all_goals
   have hcv:=h17.1 (by simpa using g19)
   have hh:=Fe g22 hcv
   obtain⟨k,rfl⟩:=Int.eq_ofNat_of_zero_le (show 0<=i by omega)
   have hk:=Ya (hcv.bv hb hb2) (k:=k) (by omega) hh (r:=r) (by omega)
  all_goals (refine aZ ?_;refine oR ?_;refine pM ?_;refine aE (cF (hc:=λ w1 hw=>by have:=Mo (w:=w1) k r (by omega) hcv hb hb2 (hr.gH hw.done);rw[hk.1,hk.2] at this;exact this)) (λ x38 h38=>?_);refine Cg ?_)
  all_goals
   refine bD Tryz.results249 (λ w hw=>?_)
   rw[show oh n xs ys b (k:Int) r=some (dZ b (k:Int),xI xs (rX b (k:Int)) r) from if_pos ⟨hcv,⟨by omega,by omega⟩,by omega,hh⟩];exact⟨x38,rfl,h38,hw.fin⟩
theorem Mi(i r:Int)(hb:n.bm=(b:Int))(hb2:b<18446744073709551616)(hr:sG w n xs ys):Calls Tryz.prog 220 #[n.v,.int .i64 i,.int .i64 r] w (X6 w (oo n xs ys b i r)):=by
 refine enter Tryz.func220 Tryz.ntmps220 rfl rfl (SF.s2 hr.br hr.pr) ?_
 simp only[cG]
 simp only[Nd.v,Nd.cells]
 refine J0 ?_;refine bM (λ x3=>?_);refine aL (λ x6=>?_);refine iT ?_;refine D9 ?_;refine aP (cV (hc:=λ w1 hw=>oP (n:=n) i hb hb2 (hr.gH hw.done))) (λ x13=>?_);refine aB ?_;refine aD (jJ rf rfl) rfl ?_;refine aD (jJ rf rfl) rfl ?_;refine J8 ?_;refine J2 ?_;refine Dg ?_
 (refine eI 18 (λ g18=>?_) (λ g18=>?_)<;>refine Ka0 ?_)
 all_goals (refine wo ?_;refine aI ?_)
 all_goals
 refine bC (λ c21=>?_) (λ c21=>?_)
 ·all_goals (refine J0 ?_;refine bO ?_;refine Cg ?_)
  all_goals
   refine bD Tryz.results220 (λ w hw=>?_)
   rw[show oo n xs ys b i r=none from if_neg (by rintro ⟨k1,k4,k5⟩;clear hw;first|omega|exact absurd (Fe (by simpa using g18) k1) (by simp[k5]))];exact⟨(none,0),rfl,Nat.le_refl _,(hw.M9 none).fin⟩
 ·try exact nv c21
  all_goals
   have hc:=Bh (by simpa using g18)
   have hcv:=hc.1
   have hh:=hc.2
   obtain⟨q1,q2,_,_⟩:=sC hh
   obtain⟨k,rfl⟩:=Int.eq_ofNat_of_zero_le q1
   have hk:=Ye (hcv.bv hb hb2) (k:=k) (by omega) hh (r:=r) (by omega)
  all_goals (refine aZ ?_;refine oR ?_;refine pM ?_;refine aE (cF (hc:=λ w1 hw=>by have:=Mo (w:=w1) k r (by omega) hcv hb hb2 (hr.gH hw.done);rw[hk.1,hk.2] at this;exact this)) (λ x26 h26=>?_);refine Cg ?_)
  all_goals
   refine bD Tryz.results220 (λ w hw=>?_)
   rw[show oo n xs ys b (k:Int) r=some (b,qU xs (rX b (k:Int)) r) from if_pos ⟨hcv,by omega,hh⟩];exact⟨x26,rfl,h26,hw.fin⟩
theorem No(i:Int)(hb:n.bm=(b:Int))(hb2:b<18446744073709551616)(hr:sG w n xs ys):Calls Tryz.prog 252 #[n.v,.int .i64 i] w (X6 w (oi n xs ys b i)):=by
 refine enter Tryz.func252 Tryz.ntmps252 rfl rfl (SF.s2 hr.br hr.pr) ?_
 simp only[cG]
 simp only[Nd.v,Nd.cells]
 refine J0 ?_;refine bM (λ x2=>?_);refine aL (λ x4=>?_);refine iT ?_;refine D9 ?_;refine aP (cV (hc:=λ w1 hw=>oP (n:=n) i hb hb2 (hr.gH hw.done))) (λ x11=>?_);refine aB ?_;refine aD (jJ rf rfl) rfl ?_;refine aD (jJ rf rfl) rfl ?_;refine J8 ?_;refine J2 ?_;refine pE ?_
 refine bC (λ c15=>?_) (λ c15=>?_)
 ·refine J0 ?_;refine bO ?_;refine Cg ?_
  refine bD Tryz.results252 (λ w hw=>?_)
  rw[show oi n xs ys b i=none from if_neg (by rintro ⟨k1,k5⟩;clear hw;exact absurd (Fe c15 k1) (by simp[k5]))];exact⟨(none,0),rfl,Nat.le_refl _,(hw.M9 none).fin⟩
 ·have hc:=Bh c15
  have hcv:=hc.1
  have hh:=hc.2
  obtain⟨q1,q2,_,_⟩:=sC hh
  obtain⟨k,rfl⟩:=Int.eq_ofNat_of_zero_le q1
  have hk:=Zl (hcv.bv hb hb2) (k:=k) (by omega) hh
  refine aZ ?_;refine D9 ?_;refine aE (cF (hc:=λ w1 hw=>by have:=Mo (w:=w1) k 0 (by omega) hcv hb hb2 (hr.gH hw.done);rw[hk.1,hk.2] at this;exact this)) (λ x19 h19=>?_);refine Cg ?_
  refine bD Tryz.results252 (λ w hw=>?_)
  rw[show oi n xs ys b (k:Int)=some (wI b (k:Int),sJ xs (rX b (k:Int))) from if_pos ⟨hcv,hh⟩];exact⟨x19,rfl,h19,hw.fin⟩
end
end
end Go.Proofs.YtbajmaoegmbfgaaGreat
namespace Go.Ct
section
def bV(n:Nv):Prop:=n.kind=3∨n.kind=5∨n.kind=6
instance (n:Nv):Decidable (bV n):=by unfold bV;exact inferInstance
def rK(N:List Nv)(cs:List Int)(c:Int):Int:=if(bA N (aS cs c)).kind=8 then(if aS cs (bA N (aS cs c)).status=1 then(bA N (aS cs c)).new else(bA N (aS cs c)).bK) else aS cs c
def kE(N:List Nv)(cs:List Int)(c:Int):Option Int:=if(bA N (rK N cs c)).kind=2 then some (rK N cs c) else none
def wD(N:List Nv)(cs:List Int)(i:Int):Int:=aS cs (bA N i).main
def oU(N:List Nv)(cs:List Int)(i:Int):Int:=aS cs (bA N (wD N cs i)).prev
def yU(N:List Nv)(cs:List Int)(i:Int):Int:=if(bA N (oU N cs i)).kind=7 then(bA N (oU N cs i)).bK else oU N cs i
def gN(N:List Nv)(cs:List Int)(i:Int):Option Int :=
 if(bA N i).kind=2/\bV (bA N (wD N cs i)) then
  if oU N cs i=0 then some (wD N cs i) else if bV (bA N (yU N cs i)) then some (yU N cs i) else none
 else none
def uq(v:Nv):List Pr:=if v.kind=5 then [(v.key,v.val)] else if v.kind=6 then v.ys else []
theorem Bo{N:List Nv}{cs:List Int}{i m:Int}(h:gN N cs i=some m):(bA N i).kind=2/\bV (bA N m):=by
 unfold gN at h
 split at h
 ·rename_i h1
  split at h
  ·cases h;exact h1
  split at h
  ·cases h;exact⟨h1.1,by assumption⟩
  ·cases h
 ·cases h
theorem dG{N:List Nv}{i:Int}(h:(bA N i).kind≠0):1<=i/\i<=N.length:=by
 unfold bA at h
 split at h
 ·assumption
 ·exact absurd rfl h
end
section
theorem aCs{L1 L2:List aQ}(h:L1.length=L2.length):L1.map aQ.c=L2.map aQ.c↔∀i,i<L1.length->(L1.getD i aQ.zero).c=(L2.getD i aQ.zero).c:=by
 constructor
 ·intro e i hi
  have h1:(L1.map aQ.c)[i]?=(L2.map aQ.c)[i]?:=by rw[e]
  rw[List.getElem?_map,List.getElem?_map,List.getElem?_eq_getElem hi,List.getElem?_eq_getElem (h▸hi)] at h1
  rw[iU,iU,List.getElem?_eq_getElem hi,List.getElem?_eq_getElem (h▸hi)]
  simpa using h1
 ·intro e
  refine List.ext_getElem? λ i=>?_
  rw[List.getElem?_map,List.getElem?_map]
  by_cases hi:i<L1.length
  ·have h1:=e i hi
   rw[iU,iU,List.getElem?_eq_getElem hi,List.getElem?_eq_getElem (h▸hi)] at h1
   rw[List.getElem?_eq_getElem hi,List.getElem?_eq_getElem (h▸hi)]
   simpa using h1
  ·rw[List.getElem?_eq_none (by omega),List.getElem?_eq_none (by omega)]
end
end Go.Ct
namespace Go.Proofs.YtbajmaoegmbfgaaGreat
open Go.RowKit Go.Ct
section
end
end Go.Proofs.YtbajmaoegmbfgaaGreat
namespace Go.Ct
section
def Nv.nd(v:Nv):Nd:=⟨v.kind,v.gen,v.main,v.bm,none,v.xs.length,0,v.hash,v.key,v.val,none,v.ys.length,0,v.prev,v.bK,v.exp,v.new,v.status⟩
def Nv.dv(v:Nv):aQ:=⟨v.nd,v.xs,v.ys⟩
theorem Nv.aCE(v:Nv):v.dv.c=v:=rfl
theorem aAh(N:List Nv):(N.map Nv.dv).map aQ.c=N:=by
 rw[List.map_map]
 exact(List.map_congr_left (λ v _=>Nv.aCE v)).trans (List.map_id N)
theorem Lo{n:Nd}{xs:List Int}{ys:List Pr}:cC n xs ys↔cC (n.c xs ys).nd xs ys:=by
 have e:sQ n n.own xs (n.jZ xs) ys (n.jH ys)↔sQ (n.c xs ys).nd (n.c xs ys).nd.own xs ((n.c xs ys).nd.jZ xs) ys ((n.c xs ys).nd.jH ys):=by
  rw[Aw,Aw]
  have e1:n.own.c (n.jZ xs) (n.jH ys)=(n.c xs ys).nd.own.c ((n.c xs ys).nd.jZ xs) ((n.c xs ys).nd.jH ys):=by
   have hx:(n.c xs ys).nd.jZ xs=n.jZ xs:=rfl
   have hy:(n.c xs ys).nd.jH ys=n.jH ys:=rfl
   have hk:(n.c xs ys).nd.kind=n.kind:=rfl
   rw[hx,hy]
   unfold Nd.own
   rw[hk]
   repeat' split
   all_goals rfl
  rw[e1]
  exact Iff.rfl
 unfold cC
 rw[e]
 exact Iff.rfl
theorem yu{gen:Int}{n:Nat}{u v:aQ}(h:u.c=v.c)(hu:nC gen n u):nC gen n v:=by
 have key:∀v:aQ,nC gen n v↔nC gen n v.c.dv:=λ v=>by
  unfold nC
  rw[Lo (n:=v.nd)]
  exact Iff.rfl
 rw[key,<- h,<- key]
 exact hu
theorem tq{m:Nat}{L1 L2:List aQ}(h:L1.map aQ.c=L2.map aQ.c):marks m L1=marks m L2:=by
 have key:∀L:List aQ,marks m L=(L.map aQ.c).foldl (λ u c=>eQ u c.nd) (some (List.replicate m false)):=λ L=>by
  unfold marks
  rw[List.foldl_map]
  rfl
 rw[key,key,h]
theorem Y2{L1 L2:List aQ}{cs:List Int}{gen:Int}(h:L1.map aQ.c=L2.map aQ.c)(hp:gJ L1 cs gen):gJ L2 cs gen:=by
 have hl:L1.length=L2.length:=by simpa using congrArg List.length h
 have hi:=(aCs hl).1 h
 have h2:=hp.two
 refine⟨by omega,hp.gen0,?_,?_,λ i h=>by have:=hp.cells i h;rwa [hl] at this,λ i h=>?_,by rw[<- tq h];exact hp.marks⟩
 ·have:=congrArg Nv.kind (hi 0 (by omega))
  exact this.symm.trans hp.m0
 ·have:=congrArg Nv.kind (hi 1 (by omega))
  exact this.symm.trans hp.m1
 ·have:=hp.nodes i (by omega)
  rw[<- hl]
  exact yu (hi i (by omega)) this
def gL(N:List Nv)(cs:List Int)(gen:Int):Prop:=gJ (N.map Nv.dv) cs gen
theorem gL.to{N:List Nv}{cs:List Int}{gen:Int}(h:gL N cs gen){L:List aQ}(hl:L.map aQ.c=N):gJ L cs gen:=Y2 (by rw[aAh,hl]) h
theorem gL.push{N:List Nv}{cs:List Int}{gen init:Int}{n:Nv}(h:gL N cs gen)(hv:nC gen (N.length+1) (cY n cs.length).dv)(hi:Ej init N.length):gL (N++[cY n cs.length]) (eZ n.kind cs init) gen:=by
 have hm:(N.map Nv.dv).length=N.length:=by simp
 have:=Oi (v:=(cY n cs.length).dv) (k:=n.kind) (init:=init) h (by rw[hm];exact hv) (by rw[hm];exact hi) (by
  have e:(cY n cs.length).dv.nd.kind=n.kind:=rfl
  unfold gG eZ
  rw[e]
  by_cases h2:n.kind=2
  ·right
   rw[if_pos h2,if_pos (.inl h2)]
   exact⟨by show some (if n.kind=2 then _ else _)=_;rw[if_pos h2],rfl⟩
  rw[if_neg h2]
  by_cases h3:n.kind=3∨n.kind=5∨n.kind=6
  ·right
   rw[if_pos h3,if_pos (by omega)]
   exact⟨by show some (if n.kind=3∨n.kind=5∨n.kind=6 then _ else _)=_;rw[if_pos h3],rfl⟩
  rw[if_neg h3]
  by_cases h8:n.kind=8
  ·right
   rw[if_pos h8,if_pos (by omega)]
   exact⟨by show some (if n.kind=8 then _ else _)=_;rw[if_pos h8],rfl⟩
  ·left
   rw[if_neg h8,if_neg (by omega)]
   exact⟨rfl,rfl⟩)
 unfold gL
 rw[List.map_append]
 exact this
theorem gL.cell{N:List Nv}{cs:List Int}{gen init:Int}(h:gL N cs gen)(hi:Ej init N.length):gL N (cs++[init]) gen:=by
 have hm:(N.map Nv.dv).length=N.length:=by simp
 refine⟨h.two,h.gen0,h.m0,h.m1,λ i hi'=>?_,h.nodes,?_⟩
 ·rw[iU]
  rw[List.length_append,List.length_cons,List.length_nil] at hi'
  by_cases hl:i<cs.length
  ·rw[List.getElem?_append_left hl,<- iU]
   exact h.cells i hl
  ·rw[List.getElem?_append_right (by omega),show i-cs.length=0 by omega,hm]
   exact hi
 ·have key:∀(l:List aQ) (m:Nat) (u:List Bool),l.foldl (λ u v=>eQ u v.nd) (some u)≠none->l.foldl (λ u v=>eQ u v.nd) (some (u++[false]))≠none:=by
   intro l
   induction l with
   | nil=>intro _ u _ h;cases h
   | cons v l ih =>
    intro m u hu
    rw[List.foldl_cons] at hu ⊢
    have hnone:∀l:List aQ,l.foldl (λ u v=>eQ u v.nd) none=none:=λ l=>by
     induction l with
     | nil=>rfl
     | cons v l ih=>exact ih
    cases hc:gG v.nd with
    | none =>
     rw[show eQ (some u) v.nd=some u by simp[eQ,hc]] at hu
     rw[show eQ (some (u++[false])) v.nd=some (u++[false]) by simp[eQ,hc]]
     exact ih m u hu
    | some c =>
     by_cases hc3:1<=c/\c<=u.length/\u.getD (c-1).toNat false=false
     ·obtain⟨c1,c2,c3⟩:=hc3
      have hlt:(c-1).toNat<u.length:=by omega
      have e1:(u++[false]).getD (c-1).toNat false=u.getD (c-1).toNat false:=by
       rw[iU,iU,List.getElem?_append_left hlt]
      have e2:eQ (some u) v.nd=some (u.set (c-1).toNat true):=by
       show(match gG v.nd with|none=>_|some c=>_)=_
       rw[hc]
       exact if_pos ⟨c1,c2,c3⟩
      have e3:eQ (some (u++[false])) v.nd=some (u.set (c-1).toNat true++[false]):=by
       show(match gG v.nd with|none=>_|some c=>_)=_
       rw[hc,<- List.set_append_left _ _ hlt]
       exact if_pos ⟨c1,by rw[List.length_append,List.length_cons,List.length_nil];omega,by rw[e1];exact c3⟩
      rw[e2] at hu
      rw[e3]
      exact ih m _ hu
     ·have e2:eQ (some u) v.nd=none:=by
       show(match gG v.nd with|none=>_|some c=>_)=_
       rw[hc]
       exact if_neg hc3
      rw[e2,hnone] at hu
      exact absurd rfl hu
  have:=key (N.map Nv.dv) 0 (List.replicate cs.length false) h.marks
  unfold marks
  rw[List.length_append,List.length_cons,List.length_nil,List.replicate_succ']
  exact this
end
end Go.Ct
namespace Go.Proofs.YtbajmaoegmbfgaaGreat
open Go.RowKit Go.Ct
section
theorem aBK{n:Nd}{xs:List Int}{ys:List Pr}:CV n xs ys↔CV (n.c xs ys).nd xs ys:=by
 unfold CV
 rw[Lo (n:=n)]
 exact Iff.rfl
theorem aCU{n:Nd}{xs:List Int}{ys:List Pr}:LV n xs ys↔LV (n.c xs ys).nd xs ys:=by
 unfold LV
 rw[Lo (n:=n)]
 exact Iff.rfl
theorem n8{n:Nd}{xs:List Int}{ys:List Pr}:CV (n.c xs ys).nd (n.c xs ys).xs (n.c xs ys).ys=CV n xs ys:=propext aBK.symm
theorem aBs{n:Nd}{xs:List Int}{ys:List Pr}:LV (n.c xs ys).nd (n.c xs ys).xs (n.c xs ys).ys=LV n xs ys:=propext aCU.symm
def Dy(b:Nat)(xs:List Int):Nv:=(cn b xs (none,0)).c xs []
noncomputable def lI (v:Nv) (i:Int):Option Int:=Mk v.nd v.xs v.ys v.bm.toNat i
noncomputable def Ni (v:Nv):Option Int:=m6 v.nd v.xs v.ys
def Jf(o:Option (Nat×List Int)):Nv:=match o with|some q=>Dy q.1 q.2|none=>Nv.zero
noncomputable def zx (v:Nv) (i r:Int):Nv:=Jf (oh v.nd v.xs v.ys v.bm.toNat i r)
noncomputable def Ue (v:Nv) (i r:Int):Nv:=Jf (oo v.nd v.xs v.ys v.bm.toNat i r)
noncomputable def N4 (v:Nv) (i:Int):Nv:=Jf (oi v.nd v.xs v.ys v.bm.toNat i)
def tmV(s:Nv):Nv:=(tmb s.nd).c [] []
noncomputable def z4 (v:Nv) (level:Int) (s:Nv):Nv:=if Ua v.nd v.xs v.ys level s.nd=true then tmV s else v
def unV(v:Nv):Nv:=(Gn v.nd).c [] []
noncomputable def zj (v:Nv) (k:ByteArray) (u:Int):Nv:=(a8 (lH v.nd v.xs v.ys k u) v.hash (none,0)).c [] (Z1 (lH v.nd v.xs v.ys k u))
noncomputable def te (v:Nv) (k:ByteArray):Nv:=(N3 (qG v.nd v.xs v.ys k) v.hash (none,0)).c [] (Is (qG v.nd v.xs v.ys k))
section
variable{n s:Nd}{xs:List Int}{ys:List Pr}{b:Nat}
theorem aB8(hb:n.bm=(b:Int))(i:Int):Mk n xs ys b i=lI (n.c xs ys) i:=by
 have e:(n.c xs ys).bm.toNat=b:=by show n.bm.toNat=b;omega
 unfold lI Mk
 rw[e]
 rw[n8 (n:=n)]
 rfl
theorem zd:m6 n xs ys=Ni (n.c xs ys):=by
 unfold Ni m6
 rw[n8 (n:=n)]
 rfl
theorem Hb(o:Option (Nat×List Int))(x:Option Addr×Nat):(nB o x).c (mI o) []=Jf o:=by cases o<;>rfl
theorem aCD(hb:n.bm=(b:Int))(i r:Int):Jf (oh n xs ys b i r)=zx (n.c xs ys) i r:=by
 have e:(n.c xs ys).bm.toNat=b:=by show n.bm.toNat=b;omega
 unfold zx oh
 rw[e]
 rw[n8 (n:=n)]
 rfl
theorem aCh(hb:n.bm=(b:Int))(i r:Int):Jf (oo n xs ys b i r)=Ue (n.c xs ys) i r:=by
 have e:(n.c xs ys).bm.toNat=b:=by show n.bm.toNat=b;omega
 unfold Ue oo
 rw[e]
 rw[n8 (n:=n)]
 rfl
theorem aBD(hb:n.bm=(b:Int))(i:Int):Jf (oi n xs ys b i)=N4 (n.c xs ys) i:=by
 have e:(n.c xs ys).bm.toNat=b:=by show n.bm.toNat=b;omega
 unfold N4 oi
 rw[e]
 rw[n8 (n:=n)]
 rfl
theorem aCI(level:Int):(vu (Ua n xs ys level s) n s).c (oj (Ua n xs ys level s) xs) (oj (Ua n xs ys level s) ys)=z4 (n.c xs ys) level (s.c [] []):=by
 have e:Ua (n.c xs ys).nd xs ys level (s.c [] []).nd=Ua n xs ys level s:=by
  unfold Ua
  rw[zd (n:=n)]
  rfl
 have e':Ua (n.c xs ys).nd (n.c xs ys).xs (n.c xs ys).ys level (s.c [] []).nd=Ua n xs ys level s:=e
 unfold z4 vu oj
 rw[e']
 split<;>rfl
theorem aCe:(Gn n).c [] []=unV (n.c xs ys):=by
 unfold unV Gn
 show _=Nd.c (if n.kind=5 then _ else _) _ _
 split<;>rfl
theorem aCY(k:ByteArray)(u:Int)(x:Option Addr×Nat):(a8 (lH n xs ys k u) n.hash x).c [] (Z1 (lH n xs ys k u))=zj (n.c xs ys) k u:=by
 have e':lH (n.c xs ys).nd (n.c xs ys).xs (n.c xs ys).ys k u=lH n xs ys k u:=by unfold lH;rw[aBs (n:=n)];rfl
 unfold zj
 rw[e']
 cases lH n xs ys k u<;>rfl
theorem aCO(k:ByteArray)(x:Option Addr×Nat):(N3 (qG n xs ys k) n.hash x).c [] (Is (qG n xs ys k))=te (n.c xs ys) k:=by
 have e':qG (n.c xs ys).nd (n.c xs ys).xs (n.c xs ys).ys k=qG n xs ys k:=by unfold qG;rw[aBs (n:=n)];rfl
 unfold te
 rw[e']
 cases qG n xs ys k with
 | none=>rfl
 | some m=>unfold N3;simp only[Is];split<;>rfl
end
end
end Go.Proofs.YtbajmaoegmbfgaaGreat
namespace Go.Ct
open Go Go.RowKit
section
def sl(h l:Nat):Nat:=(h >>> (6*l))%64
theorem yQ(h l:Nat):sl h l<64:=Nat.mod_lt _ (by decide)
theorem Nl(h j:Nat):(h >>> (6*j))/64=h >>> (6*(j+1)):=by
 rw[show 6*(j+1)=6*j+6 by omega,Nat.shiftRight_add,Nat.shiftRight_eq_div_pow (h >>> (6*j)) 6]
def Fy(h k:Nat):Nat->Nat->Nat
 | 0,l=>l
 | n+1,l=>if sl h l=sl k l then Fy h k n (l+1) else l
def lN(h k:Nat):Nat:=Fy h k 11 0
theorem yG(h k:Nat):∀n l,l<=Fy h k n l/\Fy h k n l<=l+n/\(∀i,l<=i->i<Fy h k n l->sl h i=sl k i)/\(Fy h k n l<l+n->sl h (Fy h k n l)≠sl k (Fy h k n l))
 | 0,l=>⟨Nat.le_refl _,Nat.le_refl _,λ i h1 h2=>absurd h2 (by simp only[Fy];omega),λ h=>absurd h (by simp only[Fy];omega)⟩
 | n+1,l=>by
  simp only[Fy]
  split
  ·rename_i he
   obtain⟨h1,h2,h3,h4⟩:=yG h k n (l+1)
   refine⟨by omega,by omega,λ i hi hi2=>?_,λ hlt=>h4 (by omega)⟩
   rcases Nat.lt_or_eq_of_le hi with hi|rfl
   ·exact h3 i (by omega) hi2
   ·exact he
  ·rename_i he
   exact⟨Nat.le_refl _,by omega,λ i h1 h2=>absurd h2 (by omega),λ _=>he⟩
theorem zG(h k:Nat):lN h k<=11:=by have:=(yG h k 11 0).2.1;unfold lN;omega
theorem Ub{h k i:Nat}(hi:i<lN h k):sl h i=sl k i:=(yG h k 11 0).2.2.1 i (Nat.zero_le _) hi
theorem Mj{h k:Nat}(hc:lN h k<11):sl h (lN h k)≠sl k (lN h k):=(yG h k 11 0).2.2.2 (by unfold lN at hc;omega)
theorem aAa{h k l:Nat}(hl:l<=11)(h1:∀i,i<l->sl h i=sl k i)(h2:l<11->sl h l≠sl k l):l=lN h k:=by
 rcases Nat.lt_trichotomy l (lN h k) with h3|h3|h3
 ·exact absurd (Ub h3) (h2 (by have:=zG h k;omega))
 ·exact h3
 ·exact absurd (h1 _ h3) (Mj (by omega))
theorem zl{P:Program}{S:List (Nat×Value)}{G:World->Prop}{d:Nat}{ty t t':TypeId}{pos:String}{af:Array Edge}{gd:Option (Nat×Bool)}{x y:Operand}{a b:Nat}(hx:ev S x=.int .u64 (a:Int))(hy:ev S y=.int .u64 (b:Int))(h0:b≠0)(ha:a<18446744073709551616):aM P S G ⟨some d,.binOp .quo t x y t',ty,pos,af,gd⟩ (.int .u64 ((a/b:Nat):Int)):=⟨λ w _=>by
 have h1:((b:Nat):Int)≠0:=by omega
 have h2:(a:Int).tdiv (b:Int)=((a/b:Nat):Int):=by rw[Int.tdiv_eq_ediv_of_nonneg (by omega)];rfl
 have h3:IntKind.u64.wrap ((a/b:Nat):Int)=((a/b:Nat):Int):=by
  have h4:=Nat.div_le_self a b
  generalize a/b=q at h4 ⊢
  rw[wrap_u64]
  omega
 simp only[execOp,hx,hy,eqGuard_at_int,binOp,Op.intDiv]
 simp[h0,h2]
 exact h3⟩
section
variable{P:Program}{S:List (Nat×Value)}{G:World->Prop}{d:Nat}{ty t t':TypeId}{pos:String}{af:Array Edge}{gd:Option (Nat×Bool)}{x y:Operand}{a b i:Nat}{k':IntKind}
theorem aAI(hx:ev S x=.int .u64 (a:Int))(hy:ev S y=.int .u64 (b:Int))(ha:a<18446744073709551616)(hb:b<18446744073709551616):aM P S G ⟨some d,.binOp .and t x y t',ty,pos,af,gd⟩ (.int .u64 ((a &&& b:Nat):Int)):=by
 have:=vj (P:=P) (G:=G) (d:=d) (ty:=ty) (pos:=pos) (af:=af) (gd:=gd) (t:=t) (t':=t') hx hy
 rwa [qE ha hb] at this
theorem xn(hx:ev S x=.int .u64 (a:Int))(hy:ev S y=.int .u64 (b:Int))(h0:b≠0):aM P S G ⟨some d,.binOp .rem t x y t',ty,pos,af,gd⟩ (.int .u64 ((a%b:Nat):Int)):=by
 have:=ey (P:=P) (G:=G) (d:=d) (ty:=ty) (pos:=pos) (af:=af) (gd:=gd) (t:=t) (t':=t') hx hy (by omega)
 rwa [Int.tmod_eq_emod_of_nonneg (by omega),<- Int.natCast_emod] at this
end
end
end Go.Ct
namespace Go.Proofs.YtbajmaoegmbfgaaGreat
open Go.RowKit Go.Ct
section
theorem qF{h l:Nat}(hh:h<18446744073709551616)(hl:l<=10)(w:World):Calls Tryz.prog 218 #[.int .u64 (h:Int),.int .i64 (l:Int)] w λ e w'=>e=.returned (.int .i64 ((sl h l:Nat):Int))/\St w [] [] w':=by
 refine enter Tryz.func218 Tryz.ntmps218 rfl rfl (SF.s0 w) ?_
 simp only[cG]
 refine dA ?_;refine Kb6 ?_
 (refine Ka3 ?_)
 refine Ka7 ?_
 refine bC (λ c10=>?_) (λ c10=>?_)
 ·try (exfalso;omega)
 ·try (exfalso;omega)
  refine rY ?_
  refine iF [0,1,11,12,13,14,15,16] (λ y:Nat=>[(1,.int .i64 ((l-y:Nat):Int)),(0,.int .u64 ((h >>> (6*y):Nat):Int))]) (λ y=>y<=l) (λ y=>l-y) (0) (Nat.zero_le _) ?_ (λ y f hx=>?_)
  ·repeat (first|exact bJ _|refine bF (by exact rfl) ?_)
  dsimp only[iC,List.map,List.cons_append,List.nil_append]
  refine kT ?_;refine Dv ?_;refine aI ?_
  refine bC (λ c12=>?_) (λ c12=>?_)
  ·try (exfalso;omega)
   refine rY ?_;refine xK ?_;refine aP (gM (zl (b:=64) rf rf (by decide) (Nat.lt_of_le_of_lt (Nat.shiftRight_le _ _) hh))) (λ x16=>?_);refine J1 ?_;refine fG ?_;refine xK ?_;refine qW ?_;refine J1 ?_
   refine fP (y+1) ?_ ?_ ?_
   ·omega
   ·repeat' (first|exact bJ _|refine bF ?_ ?_)
    all_goals (first|exact rfl|(conv=>{lhs;whnf};rw[Nl];done))
   ·omega
  ·try (exfalso;omega)
   refine bT rfl ?_;refine J2 ?_;refine aD (xn (b:=64) rf rf (by decide)) rfl ?_;refine nM ?_;refine J1 ?_
   refine aT Tryz.results218 (λ w hw=>?_)
   have hy:y=l:=by omega
   subst hy
   exact⟨rfl,hw.done⟩
theorem Pv{h k:Nat}(hh:h<18446744073709551616)(hk:k<18446744073709551616)(w:World):Calls Tryz.prog 260 #[.int .u64 (h:Int),.int .u64 (k:Int)] w λ e w'=>e=.returned (.int .i64 ((lN h k:Nat):Int))/\St w [] [] w':=by
 refine enter Tryz.func260 Tryz.ntmps260 rfl rfl (SF.s0 w) ?_
 simp only[cG]
 refine dA ?_;refine dA ?_;refine D2 ?_
 refine iF [5,6,7,8,9,10,11,12,13,14,15,16,17,18] (λ y:Nat=>[(5,.int .i64 ((y:Nat):Int))]) (λ y=>y<=11/\∀i,i<y->sl h i=sl k i) (λ y=>11-y) (0) (⟨Nat.zero_le _,λ i hi=>absurd hi (Nat.not_lt_zero i)⟩) ?_ (λ y f hx=>?_)
 ·repeat (first|exact bJ _|refine bF (by exact rfl) ?_)
 dsimp only[iC,List.map,List.cons_append,List.nil_append]
 refine kT ?_;refine A2 ?_;refine aB ?_
 (refine eI 8 (λ g8=>?_) (λ g8=>?_)<;>refine Ka0 ?_)
 all_goals (refine Ka0 ?_;(first|refine aJ ?_|(refine aF ?_;refine aP (cV (hc:=λ w1 hw=>qF (l:=y) hh (by omega) w1)) (λ x11=>?_)));refine Ka0 ?_;refine Ka0 ?_;(first|refine aJ ?_|(refine aF ?_;refine aP (cV (hc:=λ w1 hw=>qF (l:=y) hk (by omega) w1)) (λ x14=>?_)));refine uM ?_;refine aI ?_)
 all_goals
 refine bC (λ c16=>?_) (λ c16=>?_)
 ·try exact nv c16
  all_goals (refine aZ ?_;refine cW ?_;refine uU ?_;refine fG ?_)
  all_goals
   refine fP (y+1) ?_ ?_ ?_
   ·omega
   ·repeat' (first|exact bJ _|refine bF ?_ ?_)
    exact rfl
   ·exact⟨by omega,λ i hi=>by rcases Nat.lt_succ_iff_lt_or_eq.1 hi with h|rfl;exact hx.2 i h;omega⟩
 ·all_goals try (exfalso;omega)
  all_goals (refine bT rfl ?_;refine Ka5 ?_)
  all_goals
   refine aT Tryz.results260 (λ w hw=>?_)
   exact⟨by rw[<- aAa (h:=h) (k:=k) hx.1 hx.2 (λ _=>by omega)];rfl,hw.done⟩
end
end Go.Proofs.YtbajmaoegmbfgaaGreat

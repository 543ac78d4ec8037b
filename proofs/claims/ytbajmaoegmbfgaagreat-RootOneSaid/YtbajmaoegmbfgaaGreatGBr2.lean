/- Merged. -/
import Derived.Test.YtbajmaoegmbfgaaGreatGBitsE
import Derived.Test.YtbajmaoegmbfgaaGreatGNode4
import Derived.Test.YtbajmaoegmbfgaaGreatAuto
import Derived.Test.YtbajmaoegmbfgaaGreatGPa1
import Derived.Test.YtbajmaoegmbfgaaGreatGNode2
import Derived.Test.YtbajmaoegmbfgaaGreatGJoin
set_option linter.unusedSimpArgs false
set_option linter.unusedVariables false
namespace Go.Ct
open Go Go.RowKit
section
end
end Go.Ct
namespace Go.Proofs.YtbajmaoegmbfgaaGreat
open Go.Proofs.Tryz (prog)
section
open Go.RowKit Go.Ct
def CV(n:Nd)(xs:List Int)(ys:List Pr):Prop:=n.kind=3/\cG n xs ys
theorem CV.bv{n:Nd}{xs:List Int}{ys:List Pr}{b:Nat}(h:CV n xs ys)(hb:n.bm=(b:Int))(hb2:b<18446744073709551616):BV b xs:=by
 obtain⟨h1,h2⟩:=yZ h.1 h.2
 rw[hb,xD hb2] at h1
 exact⟨hb2,by omega,h2⟩
open Classical in
noncomputable def Mx (n:Nd) (xs:List Int) (ys:List Pr) (b:Nat) (i:Int):Option Int:=if CV n xs ys/\qB b i=true then some (xs.getD (rJ b i) 0) else none
open Classical in
noncomputable def j8 (n:Nd) (xs:List Int) (ys:List Pr):Option Int:=if CV n xs ys/\xs.length=1 then some (xs.getD 0 0) else none
theorem sN{b:Nat}{i:Int}(h:qB b i=true):0<=i/\i<64/\b.testBit i.toNat=true/\rJ b i=fY b i.toNat:=by
 simp only[qB,Bool.and_eq_true,decide_eq_true_eq] at h
 exact⟨h.1,h.2.1,h.2.2,by unfold rJ;congr 1;omega⟩
theorem aAQ{b:Nat}{xs:List Int}(h:BV b xs){i:Int}(hh:qB b i=true):rJ b i<xs.length:=by
 obtain⟨h1,h2,h3,h4⟩:=sN hh
 rw[h4,h.len]
 exact oW (by omega) h3
section
variable{n:Nd}{xs:List Int}{ys:List Pr}{w:World}{b:Nat}
theorem ku(hb:n.bm=(b:Int))(hb2:b<18446744073709551616)(hr:rV w n xs ys):Calls prog 243 #[n.v] w λ e w'=>∃r:Bool,e=.returned (.bool r)/\(r=true↔CV n xs ys)/\St w [] [] w':=by
 refine enter Tryz.func243 Tryz.ntmps243 rfl rfl (SF.s0 w) ?_
 simp only[cE]
 simp only[Nd.v,Nd.cells]
 refine J0 ?_;refine bN (λ x1=>?_);refine J1 ?_;refine gY ?_;refine kR ?_;refine aA ?_
 (refine eG 6 (λ g6=>?_) (λ g6=>?_)<;>refine Ka2 ?_)
 all_goals ((first|refine aI ?_|(refine aF ?_;refine aC (c0 (V:=.bool) (hc:=λ w1 hw=>zC (n:=n) hb hb2 (hr.fU hw.done))) (λ x8 h8=>?_)));refine Kb7 ?_)
 all_goals
 refine aN Tryz.results243 (λ w hw=>?_)
 refine⟨_,rfl,?_,hw.done⟩
 simp_all[CV]
theorem nR(i:Int)(hb:n.bm=(b:Int))(hb2:b<18446744073709551616)(hr:rV w n xs ys):Calls prog 216 #[n.v,.int .i64 i] w λ e w'=>e=.returned (.tuple #[.int .i64 ((Mx n xs ys b i).getD 0),.bool (Mx n xs ys b i).isSome])/\St w [] [] w':=by
 have e1:=hr.brN
 refine enter Tryz.func216 Tryz.ntmps216 rfl rfl (SF.s2 hr.br hr.pr) ?_
 simp only[cE]
 simp only[Nd.v,Nd.cells,hb,e1]
 refine J0 ?_;refine bN (λ x2=>?_);refine J8 ?_;refine aR ?_;refine oX ?_;refine aC (c0 (V:=.bool) (hc:=λ w1 hw=>by rw[<- e1,<- hb];exact ku (n:=n) hb hb2 (hr.fU hw.done))) (λ x7 h7=>?_);refine Fy ?_
 (refine eG 9 (λ g9=>?_) (λ g9=>?_)<;>refine Ka1 ?_)
 all_goals (refine aw ?_;(first|refine aI ?_|(refine aF ?_;refine aM (cV (hc:=λ w1 hw=>P2 hb2 i w1)) (λ x13=>?_)));refine Kb9 ?_)
 all_goals
 refine bE (λ c15=>?_) (λ c15=>?_)
 ·all_goals refine Qh ?_
  all_goals
   refine bB Tryz.results216 (λ w hw=>?_)
   rw[show Mx n xs ys b i=none from if_neg (by simp_all)];exact⟨rfl,hw.done⟩
 ·try exact nv c15
  all_goals
   have hcv:CV n xs ys:=h7.1 (by simpa using g9)
   have hpl:=aAQ (hcv.bv hb hb2) c15
  all_goals (refine lW ?_;refine eQ [(0,[]),(1,[]),(2,[]),(3,[]),(4,[]),(5,[1]),(6,[]),(7,[]),(8,[]),(9,[])] ?_;refine pG ?_;refine pG ?_;refine bC ?_;refine dC (i:=5) (hq:=(cV (hc:=λ w1 hw=>Pw hb2 i w1))) (h:=λ x21=>?_);refine T7 ?_;refine ag ?_)
  all_goals
   refine bB Tryz.results216 (λ w hw=>?_)
   rw[show Mx n xs ys b i=some (xs.getD (rJ b i) 0) from if_pos ⟨hcv,c15⟩];exact⟨rfl,hw.done⟩
theorem Jd(hb:n.bm=(b:Int))(hb2:b<18446744073709551616)(hr:rV w n xs ys):Calls prog 245 #[n.v] w λ e w'=>e=.returned (.tuple #[.int .i64 ((j8 n xs ys).getD 0),.bool (j8 n xs ys).isSome])/\St w [] [] w':=by
 have e1:=hr.brN
 refine enter Tryz.func245 Tryz.ntmps245 rfl rfl (SF.s2 hr.br hr.pr) ?_
 simp only[cE]
 simp only[Nd.v,Nd.cells,e1]
 refine J0 ?_;refine bN (λ x1=>?_);refine J8 ?_;refine aR ?_;refine oX ?_;refine aC (c0 (V:=.bool) (hc:=λ w1 hw=>by rw[<- e1];exact ku (n:=n) hb hb2 (hr.fU hw.done))) (λ x5 h5=>?_);refine Fy ?_
 (refine eG 7 (λ g7=>?_) (λ g7=>?_)<;>refine Ka1 ?_)
 all_goals (refine Ka2 ?_;(first|refine aI ?_|(refine aF ?_;refine dX ?_));refine Tl ?_;refine aG ?_)
 all_goals
 refine bE (λ c12=>?_) (λ c12=>?_)
 ·all_goals refine Qh ?_
  all_goals
   refine bB Tryz.results245 (λ w hw=>?_)
   rw[show j8 n xs ys=none from if_neg (by simp_all;try omega)];exact⟨rfl,hw.done⟩
 ·try exact nv c12
  all_goals
   have hcv:CV n xs ys:=h5.1 (by simpa using g7)
   have hl1:xs.length=1:=by omega
  all_goals (refine aS ?_;refine gY ?_;refine aB (eD (k:=0) rf rf gO gA fin (by omega) (by omega)) rfl ?_;refine bO ?_;refine J8 ?_)
  all_goals
   refine bB Tryz.results245 (λ w hw=>?_)
   rw[show j8 n xs ys=some (xs.getD 0 0) from if_pos ⟨hcv,hl1⟩];exact⟨rfl,hw.done⟩
end
end
section
open Go.RowKit Go.Ct
def cn(b:Nat)(xs:List Int)(x:Option Addr×Nat):Nd:={Nd.zero with kind:=3,bm:=(b:Int),brA:=x.1,brN:=xs.length,brC:=x.2}
theorem aBR{b:Nat}{xs:List Int}(h:BV b xs)(x:Option Addr×Nat){p:Int}(hp:0<=p):CV {cn b xs x with prev:=p} xs [] :=
 ⟨rfl,by simp[rW,Nd.own,Nd.jT,Nd.jD,cn],by simp[cn,Nd.zero],hp,by simp[cn,Nd.zero],.inr (.inr (.inl ⟨rfl,by show(xs.length:Int)=yD (b:Int);rw[xD h.lt,h.len],h.pos⟩))⟩
theorem xg{b:Nat}{xs:List Int}(h:BV b xs)(x:Option Addr×Nat):CV (cn b xs x) xs []:=aBR h x (p:=0) (Int.le_refl _)
end
section
open Go.RowKit Go.Ct
abbrev El:=jy 114
abbrev mj(w:World):=Lj w 114
theorem aBV(v n:Int)(w:World)(hn:IntKind.u64.wrap n≠0):Calls prog 46 #[.int .i64 v,.int .i64 n] w λ e w'=>e=.returned (.int .i64 (W6 v n))/\St w [] [] w':=by
 refine enter Tryz.func46 Tryz.ntmps46 rfl rfl (SF.s0 w) ?_
 simp only[cE]
 refine Kc3 ?_;refine mX ?_;refine aA ?_;refine mX ?_;refine aCa ?_;refine mX ?_;refine J1 ?_
 refine aN Tryz.results46 (λ w hw=>?_)
 exact⟨rfl,hw.done⟩
theorem j3{l:List Int}{a:Option Addr}{c:Nat}{w:World}:Calls prog 21 #[.slice a l.length c] w λ e w' =>
  ∃b:Nat,e=.returned (.pointer (some ⟨b,0,none⟩))/\True/\SF w [] [(b,El a l c 0)] [] [] [] w':=by
 refine enter Tryz.func21 Tryz.ntmps21 rfl rfl (SF.s0 w) ?_
 simp only[cE]
 refine Kc3 ?_;refine bK ?_;refine bN (λ x5=>?_);refine J1 ?_
 refine aN Tryz.results21 (λ w hw=>?_)
 exact⟨x5,rfl,trivial,hw.aX⟩
theorem eM{l:List Int}{a:Option Addr}{b c k:Nat}{w:World}(n:Int)(ht:mj w b a l c k)(h0:0<n)(h1:n<=9223372036854775807) :
  Calls prog 22 #[.pointer (some ⟨b,0,none⟩),.int .i64 n] w λ e w' =>
  ∃v:Nat,e=.returned (.int .i64 ((v:Nat):Int))/\((v:Int)<n/\v=tvN l k n)/\SF w [b] ((b,El a l c (kY l k))::[]) [] [] [] w':=by
 have hl:=ht.len
 have hu:IntKind.u64.wrap n≠0:=by rw[wrap_u64];omega
 refine enter Tryz.func22 Tryz.ntmps22 rfl rfl ht.start ?_
 simp only[cE]
 refine Er ?_;refine aR ?_;refine gM [0,1,2,3,4,5,6,7,8,9] ?_;refine Dt ?_;refine nW ?_;refine aA3 ?_;refine eO ?_
 refine bE (λ c14=>?_) (λ c14=>?_)
 ·refine cZ ?_
  refine aN Tryz.results22 (λ w hw=>?_)
  exact⟨0,rfl,⟨by omega,by simp only[tvN];rw[if_neg (by omega)]⟩,by simp only[kY];rw[if_neg (by omega)];exact hw.aX⟩
 ·refine vx ?_;refine F6 ?_;refine K5 ?_;refine aR ?_;refine gM [0,1,2,3,4,5,6,7,8,9,10,11,12,13] ?_;refine Dt ?_;refine Pm ?_;refine T7 ?_;refine bC ?_;refine dC (i:=12) (hq:=(cV (hc:=λ w1 hw=>aBV (l.getD (k+1-1) 0) n w1 hu))) (h:=λ x34=>?_);refine J7 ?_
  refine aN Tryz.results22 (λ w hw=>?_)
  have hb:=Rb (v:=l.getD k 0) h0 h1
  exact⟨(W6 (l.getD k 0) n).toNat,by rw[Int.toNat_of_nonneg hb.1];rfl,⟨by omega,by simp only[tvN];rw[if_pos (by omega)]⟩,by simp only[kY];rw[if_pos (by omega)];exact hw.aX⟩
def mV:List ByteArray:=[⟨#[97]⟩,⟨#[98]⟩,⟨#[99]⟩,⟨#[100]⟩,⟨#[97,98]⟩,⟨#[]⟩,⟨#[98,48]⟩,⟨#[107,101,121]⟩]
theorem vq{l:List Int}{a:Option Addr}{b c k:Nat}{w:World}(ht:mj w b a l c k) :
  Calls prog 59 #[.pointer (some ⟨b,0,none⟩)] w λ e w' =>
  ∃v:Nat,e=.returned (.string (mV.getD v ⟨#[]⟩))/\(v<8/\v=tvN l k 8)/\SF w [b] ((b,El a l c (kY l k))::[]) [] [] [] w':=by
 refine enter Tryz.func59 Tryz.ntmps59 rfl rfl ht.start ?_
 simp only[cE]
 refine cZ ?_;refine J0 ?_;refine fX (λ x3=>?_);refine aA ?_;refine aC (vC (hc:=λ w1 hw=>eM 8 (hw.tape cR fin ht.len) (by decide) (by decide))) (λ x5 h5=>?_);refine aB (gi (lst:=mV) rf rf gO gA fin (by omega) (by simp only[mV,List.length_cons,List.length_nil];omega)) rfl ?_;refine aB (pz (lst:=mV) rf gA fin (by simp only[mV,List.length_cons,List.length_nil];omega)) rfl ?_;refine J1 ?_
 refine aN Tryz.results59 (λ w hw=>?_)
 exact⟨x5,rfl,⟨by omega,h5.2⟩,hw.aX⟩
end
end Go.Proofs.YtbajmaoegmbfgaaGreat
namespace Go.Ct
section
end
end Go.Ct
namespace Go.Proofs.YtbajmaoegmbfgaaGreat
open Go.Proofs.Tryz (prog)
section
open Go.RowKit Go.Ct
end
section
open Go.RowKit Go.Ct
def tmb(s:Nd):Nd:={Nd.zero with kind:=5,hash:=s.hash,key:=s.key,val:=s.val}
def E7(n:Nd):Nd:=if n.kind=5 then{Nd.zero with kind:=4,hash:=n.hash,key:=n.key,val:=n.val} else Nd.zero
theorem Ij(n:Nd)(w:World):Calls prog 219 #[n.v] w λ e w'=>e=.returned (.tuple #[(E7 n).v,.bool (decide (n.kind=5))])/\St w [] [] w':=by
 refine enter Tryz.func219 Tryz.ntmps219 rfl rfl (SF.s0 w) ?_
 simp only[cE]
 simp only[Nd.v,Nd.cells]
 refine J0 ?_;refine bN (λ x1=>?_);refine aJ (λ x2=>?_);refine iW ?_;refine gY ?_;refine Kd1 ?_
 refine bE (λ c6=>?_) (λ c6=>?_)
 ·refine J0 ?_;refine bK ?_;refine Dm ?_
  refine bB Tryz.results219 (λ w hw=>?_)
  exact⟨by rw[show E7 n=Nd.zero from if_neg (by assumption),decide_eq_false (by assumption)];rfl,hw.done⟩
 ·refine aS ?_;refine gY ?_;refine J3 ?_;refine J3 ?_;refine bK ?_;refine Dm ?_
  refine bB Tryz.results219 (λ w hw=>?_)
  exact⟨by rw[show E7 n={Nd.zero with kind:=4,hash:=n.hash,key:=n.key,val:=n.val} from if_pos (by omega),decide_eq_true (by omega)];rfl,hw.done⟩
section
variable{n s:Nd}{xs:List Int}{ys:List Pr}{w:World}{b:Nat}
def LV(n:Nd)(xs:List Int)(ys:List Pr):Prop:=n.kind=6/\cG n xs ys
theorem P1(hb:n.bm=(b:Int))(hb2:b<18446744073709551616)(hr:rV w n xs ys):Calls prog 255 #[n.v] w λ e w'=>∃r:Bool,e=.returned (.bool r)/\(r=true↔LV n xs ys)/\St w [] [] w':=by
 refine enter Tryz.func255 Tryz.ntmps255 rfl rfl (SF.s0 w) ?_
 simp only[cE]
 simp only[Nd.v,Nd.cells]
 refine J0 ?_;refine bN (λ x1=>?_);refine J1 ?_;refine gY ?_;refine kR ?_;refine aA ?_
 (refine eG 6 (λ g6=>?_) (λ g6=>?_)<;>refine Ka2 ?_)
 all_goals ((first|refine aI ?_|(refine aF ?_;refine aC (c0 (V:=.bool) (hc:=λ w1 hw=>zC (n:=n) hb hb2 (hr.fU hw.done))) (λ x8 h8=>?_)));refine Kb7 ?_)
 all_goals
 refine aN Tryz.results255 (λ w hw=>?_)
 refine⟨_,rfl,?_,hw.done⟩
 simp_all[LV]
open Classical in
noncomputable def Ta (n:Nd) (xs:List Int) (ys:List Pr) (level:Int) (s:Nd):Bool:=decide ((j8 n xs ys).isSome=true/\0<level/\s.kind=4)
def wy(t:Bool)(n s:Nd):Nd:=if t=true then tmb s else n
def m4{α:Type}(t:Bool)(l:List α):List α:=if t=true then [] else l
theorem Dx(level:Int)(s:Nd)(hb:n.bm=(b:Int))(hb2:b<18446744073709551616)(hr:rV w n xs ys):Calls prog 221 #[n.v,.int .i64 level,s.v] w λ e w'=>e=.returned (wy (Ta n xs ys level s) n s).v/\St w [] [] w':=by
 refine enter Tryz.func221 Tryz.ntmps221 rfl rfl (SF.s0 w) ?_
 simp only[cE]
 simp only[Nd.v,Nd.cells]
 refine J0 ?_;refine bN (λ x3=>?_);refine bN (λ x5=>?_);refine aJ (λ x6=>?_);refine S3 ?_;refine oX ?_;refine aM (cV (hc:=λ w1 hw=>Jd (n:=n) hb hb2 (hr.fU hw.done))) (λ x11=>?_);refine aA ?_;refine aB (bP rf rfl) rfl ?_;refine aB (bP rf rfl) rfl ?_;refine J8 ?_;refine jM ?_
 (refine eG 15 (λ g15=>?_) (λ g15=>?_)<;>refine Ka0 ?_)
 all_goals (refine Cf ?_;refine aA ?_)
 all_goals (first|refine aI ?_|(refine eG 19 (λ g19=>?_) (λ g19=>?_)<;>refine Ka1 ?_))
 all_goals (refine zt ?_;refine aG ?_)
 all_goals
 refine bE (λ c23=>?_) (λ c23=>?_)
 ·try exact nv c23
  all_goals (refine gY ?_;refine J3 ?_;refine J3 ?_;refine vG ?_)
  all_goals
   refine bB Tryz.results221 (λ w hw=>?_)
   rw[show Ta n xs ys level s=true from decide_eq_true ⟨by assumption,by omega,by omega⟩];exact⟨rfl,hw.done⟩
 ·all_goals (refine aS ?_;refine oX ?_;refine J5 ?_)
  all_goals
   refine bB Tryz.results221 (λ w hw=>?_)
   rw[show Ta n xs ys level s=false from decide_eq_false (by rintro ⟨t1,t2,t3⟩;first|omega|(clear hw;simp_all;done))];exact⟨rfl,hw.done⟩
end
end
section
open Go.RowKit Go.Ct
def ee(o:Option (List Pr))(h:Int)(x:Option Addr×Nat):Nd:=match o with|some m=>{Nd.zero with kind:=6,hash:=h,prA:=x.1,prN:=m.length,dE:=x.2}|none=>Nd.zero
def Yt(o:Option (List Pr)):List Pr:=o.getD []
def Na(o:Option (List Pr))(h:Int)(x:Option Addr×Nat):Nd:=match o with|some m=>if m.length=1 then{Nd.zero with kind:=5,hash:=h,key:=(m.getD 0 (⟨#[]⟩,0)).1,val:=(m.getD 0 (⟨#[]⟩,0)).2} else{Nd.zero with kind:=6,hash:=h,prA:=x.1,prN:=m.length,dE:=x.2}|none=>Nd.zero
def H5(o:Option (List Pr)):List Pr:=match o with|some m=>if m.length=1 then [] else m|none=>[]
open Classical in
noncomputable def kV (n:Nd) (xs:List Int) (ys:List Pr) (k:ByteArray) (v:Int):Option (List Pr):=if LV n xs ys/\k.size<=64 then some (Oj ys k v) else none
open Classical in
noncomputable def pS (n:Nd) (xs:List Int) (ys:List Pr) (k:ByteArray):Option (List Pr):=if LV n xs ys/\(dV ys k).isSome=true then some (rZ ys k) else none
def aAO(w:World)(o:Option (List Pr))(h:Int)(e:Ending)(w':World):Prop:=∃x:Option Addr×Nat,e=.returned (.tuple #[(ee o h x).v,.bool o.isSome])/\(Yt o).length<=x.2/\SF w [] [] [] [(x.1,dE (Yt o))] [] w'
def aBY(w:World)(o:Option (List Pr))(h:Int)(e:Ending)(w':World):Prop:=∃x:Option Addr×Nat,e=.returned (.tuple #[(Na o h x).v,.bool o.isSome])/\(H5 o).length<=x.2/\SF w [] [] [] [(x.1,dE (H5 o))] [] w'
section
variable{n s:Nd}{xs:List Int}{ys:List Pr}{w:World}{b:Nat}
theorem R7(k:ByteArray)(v:Int)(hb:n.bm=(b:Int))(hb2:b<18446744073709551616)(hr:rV w n xs ys)(hy:ys.length<=150000000000):Calls prog 247 #[n.v,.string k,.int .u64 v] w (aAO w (kV n xs ys k v) n.hash):=by
 have e2:=hr.prN
 refine enter Tryz.func247 Tryz.ntmps247 rfl rfl (SF.s1 hr.pr) ?_
 simp only[cE]
 simp only[Nd.v,Nd.cells,e2]
 refine J0 ?_;refine bN (λ x3=>?_);refine aJ (λ x6=>?_);refine iW ?_;refine oX ?_;refine aC (c0 (V:=.bool) (hc:=λ w1 hw=>by rw[<- e2];exact P1 (n:=n) hb hb2 (hr.fU hw.done))) (λ x9 h9=>?_);refine Fy ?_
 (refine eG 11 (λ g11=>?_) (λ g11=>?_)<;>refine Ka0 ?_)
 all_goals ((first|refine aI ?_|(refine aF ?_;refine mN ?_));refine Ka8 ?_)
 all_goals
 refine bE (λ c15=>?_) (λ c15=>?_)
 ·all_goals (refine J0 ?_;refine bK ?_;refine Dm ?_)
  all_goals
   refine bB Tryz.results247 (λ w hw=>?_)
   rw[show kV n xs ys k v=none from if_neg (by rintro ⟨t1,t2⟩;have:=h9.2 t1;clear hw;first|omega|(simp_all;done))];exact⟨(none,0),rfl,Nat.le_refl _,(hw.Mw none).fin⟩
 ·try exact nv c15
  all_goals (refine lW ?_;refine eQ [(0,[]),(1,[]),(2,[]),(3,[]),(4,[]),(5,[]),(6,[1]),(7,[]),(8,[]),(9,[])] ?_;refine pG ?_;refine pG ?_;refine hU ?_;refine bG (i:=6) (hq:=(cF (hc:=λ w1 hw=>Zn (l:=ys) k v (hw.cl fin) (by omega)))) (h:=λ x23 h23=>?_);refine mP ?_;refine Ck ?_)
  all_goals
   refine bB Tryz.results247 (λ w hw=>?_)
   rw[show kV n xs ys k v=some (Oj ys k v) from if_pos ⟨h9.1 (by clear hw;simp_all),by omega⟩];exact⟨x23,rfl,h23,hw.fin⟩
theorem N4(k:ByteArray)(hb:n.bm=(b:Int))(hb2:b<18446744073709551616)(hr:rV w n xs ys)(hy:ys.length<=150000000000):Calls prog 251 #[n.v,.string k] w (aBY w (pS n xs ys k) n.hash):=by
 have e2:=hr.prN
 refine enter Tryz.func251 Tryz.ntmps251 rfl rfl (SF.s1 hr.pr) ?_
 simp only[cE]
 simp only[Nd.v,Nd.cells,e2]
 refine J0 ?_;refine bN (λ x2=>?_);refine aJ (λ x4=>?_);refine iW ?_;refine Kc5 ?_;refine aM (cV (hc:=λ w1 hw=>It (l:=ys) k (hw.cl fin) (by omega))) (λ x13=>?_);refine aA ?_;refine aB (bP rf rfl) rfl ?_;refine aB (bP rf rfl) rfl ?_;refine J8 ?_;refine oX ?_;refine aC (c0 (V:=.bool) (hc:=λ w1 hw=>by rw[<- e2];exact P1 (n:=n) hb hb2 (hr.fU hw.done))) (λ x17 h17=>?_);refine Fy ?_
 (refine eG 19 (λ g19=>?_) (λ g19=>?_)<;>refine Ka0 ?_)
 all_goals (refine Kb9 ?_)
 all_goals
 refine bE (λ c22=>?_) (λ c22=>?_)
 ·all_goals (refine J0 ?_;refine bK ?_;refine Dm ?_)
  all_goals
   refine bB Tryz.results251 (λ w hw=>?_)
   rw[show pS n xs ys k=none from if_neg (by rintro ⟨t1,t2⟩;have:=h17.2 t1;clear hw;simp_all)];exact⟨(none,0),rfl,Nat.le_refl _,(hw.Mw none).fin⟩
 ·try exact nv c22
  all_goals (refine aS ?_;refine Kc5 ?_;refine aC (cF (hc:=λ w1 hw=>Xd (l:=ys) k (hw.cl fin) (by omega))) (λ x27 h27=>?_);refine Kc8 ?_;refine dX ?_;refine uM ?_)
  all_goals
   refine bE (λ c30=>?_) (λ c30=>?_)
   ·refine aR ?_;refine gM [0,1,2,3,4,5,6,7,8,9,10,11,12] ?_;refine pG ?_;refine bC ?_;refine bT (i:=3) (hq:=(Fg (k:=0) rf rf gO eE fin (by omega) (by omega))) (h:=?_);refine pG ?_;refine bC ?_;refine bT (i:=7) (hq:=(Fg (k:=0) rf rf gO eE fin (by omega) (by omega))) (h:=?_);refine aT ?_;refine bT (i:=9) (hq:=(Oe (q:=0) (lst:=rZ ys k) rf gA fin (by omega))) (h:=?_);refine mP ?_;refine Ck ?_
    refine bB Tryz.results251 (λ w hw=>?_)
    have e1:(rZ ys k).length=1:=by omega
    rw[show pS n xs ys k=some (rZ ys k) from if_pos ⟨h17.1 (by clear hw;simp_all),by clear hw;simp_all⟩];exact⟨(none,0),by simp only[Na,if_pos e1];rfl,by simp only[H5,if_pos e1];exact Nat.le_refl _,by simp only[H5,if_pos e1];exact(hw.Mw none).fin⟩
   ·refine aS ?_;refine Kc5 ?_;refine bK ?_;refine Dm ?_
    refine bB Tryz.results251 (λ w hw=>?_)
    have e1:¬(rZ ys k).length=1:=by omega
    rw[show pS n xs ys k=some (rZ ys k) from if_pos ⟨h17.1 (by clear hw;simp_all),by clear hw;simp_all⟩];exact⟨x27,by simp only[Na,if_neg e1];rfl,by simp only[H5,if_neg e1];exact h27,by simp only[H5,if_neg e1];exact hw.fin⟩
end
end
end Go.Proofs.YtbajmaoegmbfgaaGreat
namespace Go.Ct
open Go Go.RowKit
section
section
variable{P:Program}{n:Nat}{S:List (Nat×Value)}
variable{w0 w w':World}{M:List Nat}{H H':List (Nat×Obj)}{A F F':Fr}{O O':List Ow}{G:World->Prop}
variable{d:Nat}{ty:TypeId}{pos:String}{af:Array Edge}{gd:Option (Nat×Bool)}{dst:Option Nat}{x y z:Operand}{t t2 e:TypeId}{p a:Option Addr}{i m k c c2:Nat}
end
end
end Go.Ct
namespace Go.Proofs.YtbajmaoegmbfgaaGreat
section
open Go Go.RowKit Go.Ct
end
section
open Go.RowKit Go.Ct
open Classical in
noncomputable def m8 (n:Nd) (xs:List Int) (ys:List Pr) (b:Nat) (i r:Int):Option (Nat×List Int):=if CV n xs ys/\(0<=i/\i<64)/\1<=r/\qB b i=false then some (dW b i,wQ xs (rJ b i) r) else none
open Classical in
noncomputable def m6 (n:Nd) (xs:List Int) (ys:List Pr) (b:Nat) (i r:Int):Option (Nat×List Int):=if CV n xs ys/\1<=r/\qB b i=true then some (b,qQ xs (rJ b i) r) else none
open Classical in
noncomputable def ng (n:Nd) (xs:List Int) (ys:List Pr) (b:Nat) (i:Int):Option (Nat×List Int):=if CV n xs ys/\qB b i=true then some (vW b i,sD xs (rJ b i)) else none
def mU(o:Option (Nat×List Int))(x:Option Addr×Nat):Nd:=match o with|some q=>cn q.1 q.2 x|none=>Nd.zero
def mL(o:Option (Nat×List Int)):List Int:=match o with|some q=>q.2|none=>[]
def X6(w:World)(o:Option (Nat×List Int))(e:Ending)(w':World):Prop:=∃x:Option Addr×Nat,e=.returned (.tuple #[(mU o x).v,.bool o.isSome])/\(mL o).length<=x.2/\SF w [] [] [] [(x.1,aH (mL o))] [] w'
section
variable{n:Nd}{xs:List Int}{ys:List Pr}{w:World}{b:Nat}
end
end
section
open Go.RowKit Go.Ct
def gB(b:Nat)(xs:List Int)(i:Nat)(r:Int):Nat->Option Int:=Jj (rS b xs) i (if 0<r then some r else none)
theorem nT{m:Nat->Option Int}{k:Nat}{v:Int}(h:m k=some v)(hk:k<64):dW (A9 m k) (k:Int)=A9 m (k+1)/\rQ m k++[v]=rQ m (k+1):=by
 simp only[A9,rQ,h,dW,Option.isSome_some,if_true,Option.toList,Int.toNat_natCast,and_true]
 exact if_pos (by omega)
theorem oE{m:Nat->Option Int}{k:Nat}(h:m k=none):A9 m k=A9 m (k+1)/\rQ m k=rQ m (k+1):=by
 simp[A9,rQ,h]
theorem Az(m:Nat->Option Int){k:Nat}(hk:k<=64):A9 m k<18446744073709551616:=Nat.lt_of_lt_of_le (lu m k) (Nat.pow_le_pow_right (n:=2) (by decide) hk)
theorem Tu(m:Nat->Option Int):∀k,(rQ m k).length<=k
 | 0=>Nat.le_refl _
 | k+1=>by have:=Tu m k;simp only[rQ,List.length_append];cases m k<;>simp<;>omega
section
variable{n:Nd}{xs:List Int}{ys:List Pr}{w:World}{b:Nat}
theorem Vj(hcv:CV n xs ys){k:Nat}(hk:k<64):Mx n xs ys b (k:Int)=rS b xs k:=by
 unfold Mx rS
 have h1:qB b (k:Int)=b.testBit k:=by rw[Aw b (by omega) (by omega),Int.toNat_natCast]
 have h2:rJ b (k:Int)=fY b k:=by unfold rJ;rw[Int.toNat_natCast,Nat.min_eq_left (by omega)]
 rw[h1,h2]
 by_cases h:b.testBit k=true<;>simp[h,hcv]
theorem D4{i k:Nat}{r:Int}(hcv:CV n xs ys)(hk:k<64)(h:(k:Int)≠(i:Int)):gB b xs i r k=Mx n xs ys b (k:Int):=by
 rw[Vj hcv hk]
 exact if_neg (by omega)
theorem D7{i k:Nat}{r:Int}(h:(k:Int)=(i:Int)):gB b xs i r k=if 0<r then some r else none:=if_pos (by omega)
theorem Vy{o:Option Int}(h:o.isSome=true):o=some (o.getD 0):=by cases o<;>simp_all
theorem Uq{o:Option Int}(h:o.isSome=false):o=none:=by cases o<;>simp_all
set_option maxHeartbeats 800000 in
theorem Mn(i:Nat)(r:Int)(_hi:i<64)(hcv:CV n xs ys)(hb:n.bm=(b:Int))(hb2:b<18446744073709551616)(hr:rV w n xs ys) :
    Calls Tryz.prog 244 #[n.v,.int .i64 (i:Int),.int .i64 r] w λ e w'=>∃x:Option Addr×Nat,e=.returned (cn (A9 (gB b xs i r) 64) (rQ (gB b xs i r) 64) x).v/\(rQ (gB b xs i r) 64).length<=x.2/\SF w [] [] [] [(x.1,aH (rQ (gB b xs i r) 64))] [] w':=by
  have e1:=hr.brN
  refine enter Tryz.func244 Tryz.ntmps244 rfl rfl (SF.s2 hr.br hr.pr) ?_
  simp only[cE]
  simp only[Nd.v,Nd.cells]
  refine J0 ?_;refine bN (λ x3=>?_);refine aJ (λ x6=>?_);refine aG ?_;refine J0 ?_;refine bK ?_;refine aJ (λ x7=>?_);refine J5 ?_;refine aR ?_;refine Gp ?_
  refine nS [8,9,10,12,13,14,15,16,17,18,19,20,21,22,23,24,25,26,27,28,29,30,31,32,33,34,35,36,37,38,39] (λ y:Nat×Option Addr×Nat=>[(8,.int .i64 ((y.1:Nat):Int))]) (λ y=>y.1<=64/\(rQ (gB b xs i r) y.1).length<=y.2.2) (λ y=>[(x7,.cells ⟨[.int .i64 3,.int .i64 0,.int .i64 0,.int .u64 ((A9 (gB b xs i r) y.1:Nat):Int),.slice y.2.1 (rQ (gB b xs i r) y.1).length y.2.2,.int .u64 0,.string ⟨#[]⟩,.int .u64 0,.slice none 0 0,.int .i64 0,.int .i64 0,.int .i64 0,.int .i64 0,.int .i64 0]⟩ 47),(x6,.cells ⟨Nd.zero.cells⟩ 47),(x3,.cells ⟨n.cells⟩ 47)]) (λ _=>_) (λ y=>[⟨y.2.1,aH (rQ (gB b xs i r) y.1),y.2.2,37,1⟩]) (λ y=>64-y.1) ((0,none,0)) (⟨Nat.zero_le _,Nat.le_refl _⟩) (λ y f hx=>?_) (hw0:=λ w hw=>(hw.lN 37 1).back)
  dsimp only[iB,List.map,List.cons_append,List.nil_append]
  have hll:=Tu (gB b xs i r) y.1
  refine lI ?_;refine Bq ?_
  refine bE (λ c13=>?_) (λ c13=>?_)
  · refine sA ?_;refine Dv ?_;refine aM (cV (hc:=λ w1 hw=>nR (n:=n) (y.1:Int) hb hb2 (hr.fU hw.done))) (λ x19=>?_);refine aA ?_;refine aB (jF rf rfl) rfl ?_;refine aB (jF rf rfl) rfl ?_;refine J8 ?_;refine Da ?_;refine uM ?_
    refine bE (λ c24=>?_) (λ c24=>?_)
    · refine Jv ?_;refine Cp ?_;refine J8 ?_;refine J2 ?_;refine aG ?_
      refine bE (λ c28=>?_) (λ c28=>?_)
      · first
         | have hm:gB b xs i r y.1=some r:=by rw[D7 c24,if_pos (by omega)]
         | have hm:gB b xs i r y.1=some ((Mx n xs ys b (y.1:Int)).getD 0):=by rw[D4 hcv (by omega) c24];exact Vy c28
        refine eJ [29,30,31,32,33,34,35,36,37,38,39] (λ z:Nat×Option Addr×Nat=>[]) (λ z=>(rQ (gB b xs i r) y.1).length+1<=z.2.2) (λ z=>[(x7,.cells ⟨[.int .i64 3,.int .i64 0,.int .i64 0,.int .u64 ((A9 (gB b xs i r) (y.1+1):Nat):Int),.slice z.2.1 (rQ (gB b xs i r) (y.1+1)).length z.2.2,.int .u64 0,.string ⟨#[]⟩,.int .u64 0,.slice none 0 0,.int .i64 0,.int .i64 0,.int .i64 0,.int .i64 0,.int .i64 0]⟩ 47),(x6,.cells ⟨Nd.zero.cells⟩ 47),(x3,.cells ⟨n.cells⟩ 47)]) (λ z=>[]) (λ z=>[⟨z.2.1,aH (rQ (gB b xs i r) (y.1+1)),z.2.2,37,1⟩]) (by decide) (λ _=>by exact rfl) ?_ (λ z f hx=>?_)
        · refine iD (.one 0 [] (.one 1 [] (.one 2 [] (.one 4 [] (.one 5 [] (.one 6 [] (.two 3 [5] (.one 9 [] (.one 7 [1,5] (.one 8 [] (.one 10 [] (.one 11 [] (.one 12 [] .nil)))))) 0 [] (.two 7 [1,5] (.one 3 [5] (.one 9 [] (.one 8 [] (.one 10 [] (.one 11 [] (.one 12 [] .nil)))))) 0 [] .nil)))))))) ?_
          refine pG ?_;refine bC ?_;refine pG ?_;refine bC ?_
          refine iK (E:=[3,7]) (by decide +kernel) ((.cons ?_ (.cons ?_ .nil)))
          · refine C9 (i:=3) (hq:=(cV (hc:=λ w1 hw=>nI (Az (gB b xs i r) (k:=y.1) (by omega)) (y.1:Int) w1))) (h:=λ x32=>?_)
            refine aT ?_;refine cO (h:=λ x36=>?_);((refine Ay (h:=λ x37=>?_);try (refine fL (λ h37=>?_))));refine Sb ?_;refine Bb ?_
            refine fF ((0,x37)) ?_ (hw1:=λ w hw=>by obtain⟨k1,k2⟩:=nT hm (by omega);rw[k1,show(rQ (gB b xs i r) y.1).length+1=(rQ (gB b xs i r) (y.1+1)).length by rw[<- k2];simp,k2] at hw;exact hw.back)
            · exact h37
          · refine An (i:=7) (h:=λ x36=>?_)
            refine dC (i:=3) (hq:=(cV (hc:=λ w1 hw=>nI (Az (gB b xs i r) (k:=y.1) (by omega)) (y.1:Int) w1))) (h:=λ x32=>?_);refine aT ?_;((refine Ay (h:=λ x37=>?_);try (refine fL (λ h37=>?_))));refine Sb ?_;refine Bb ?_
            refine fF ((0,x37)) ?_ (hw1:=λ w hw=>by obtain⟨k1,k2⟩:=nT hm (by omega);rw[k1,show(rQ (gB b xs i r) y.1).length+1=(rQ (gB b xs i r) (y.1+1)).length by rw[<- k2];simp,k2] at hw;exact hw.back)
            · exact h37
        dsimp only[iB,List.map,List.cons_append,List.nil_append]
        refine Kb2 ?_
        refine gU ((by exact(y.1+1,z.2))) ?_ (hw1:=λ w hw=>by exact hw.back)
        · first
           | exact⟨by omega,by have k2:=(nT hm (by omega)).2;simp only[];rw[<- k2,List.length_append];exact hx⟩
           | exact⟨by omega,by simp only[];rw[<- (oE hm).2];exact hx.2⟩
      · have hm:gB b xs i r y.1=none:=by
         first
          | (rw[D7 c24,if_neg (by omega)];done)
          | (rw[D4 hcv (by omega) c24];exact Uq c28)
        refine Kc7 ?_
        refine gU ((by exact(y.1+1,y.2))) ?_ (hw1:=λ w hw=>by(rw[(oE hm).1,(oE hm).2] at hw;exact hw.back))
        · first
           | exact⟨by omega,by have k2:=(nT hm (by omega)).2;simp only[];rw[<- k2,List.length_append];exact hx⟩
           | exact⟨by omega,by simp only[];rw[<- (oE hm).2];exact hx.2⟩
    · refine aS ?_;refine J2 ?_;refine aG ?_
      refine bE (λ c28=>?_) (λ c28=>?_)
      · first
         | have hm:gB b xs i r y.1=some r:=by rw[D7 c24,if_pos (by omega)]
         | have hm:gB b xs i r y.1=some ((Mx n xs ys b (y.1:Int)).getD 0):=by rw[D4 hcv (by omega) c24];exact Vy c28
        refine eJ [29,30,31,32,33,34,35,36,37,38,39] (λ z:Nat×Option Addr×Nat=>[]) (λ z=>(rQ (gB b xs i r) y.1).length+1<=z.2.2) (λ z=>[(x7,.cells ⟨[.int .i64 3,.int .i64 0,.int .i64 0,.int .u64 ((A9 (gB b xs i r) (y.1+1):Nat):Int),.slice z.2.1 (rQ (gB b xs i r) (y.1+1)).length z.2.2,.int .u64 0,.string ⟨#[]⟩,.int .u64 0,.slice none 0 0,.int .i64 0,.int .i64 0,.int .i64 0,.int .i64 0,.int .i64 0]⟩ 47),(x6,.cells ⟨Nd.zero.cells⟩ 47),(x3,.cells ⟨n.cells⟩ 47)]) (λ z=>[]) (λ z=>[⟨z.2.1,aH (rQ (gB b xs i r) (y.1+1)),z.2.2,37,1⟩]) (by decide) (λ _=>by exact rfl) ?_ (λ z f hx=>?_)
        · refine iD (.one 0 [] (.one 1 [] (.one 2 [] (.one 4 [] (.one 5 [] (.one 6 [] (.two 3 [5] (.one 9 [] (.one 7 [1,5] (.one 8 [] (.one 10 [] (.one 11 [] (.one 12 [] .nil)))))) 0 [] (.two 7 [1,5] (.one 3 [5] (.one 9 [] (.one 8 [] (.one 10 [] (.one 11 [] (.one 12 [] .nil)))))) 0 [] .nil)))))))) ?_
          refine pG ?_;refine bC ?_;refine pG ?_;refine bC ?_
          refine iK (E:=[3,7]) (by decide +kernel) ((.cons ?_ (.cons ?_ .nil)))
          · refine C9 (i:=3) (hq:=(cV (hc:=λ w1 hw=>nI (Az (gB b xs i r) (k:=y.1) (by omega)) (y.1:Int) w1))) (h:=λ x32=>?_)
            refine aT ?_;refine cO (h:=λ x36=>?_);((refine Ay (h:=λ x37=>?_);try (refine fL (λ h37=>?_))));refine Sb ?_;refine Bb ?_
            refine fF ((0,x37)) ?_ (hw1:=λ w hw=>by obtain⟨k1,k2⟩:=nT hm (by omega);rw[k1,show(rQ (gB b xs i r) y.1).length+1=(rQ (gB b xs i r) (y.1+1)).length by rw[<- k2];simp,k2] at hw;exact hw.back)
            · exact h37
          · refine An (i:=7) (h:=λ x36=>?_)
            refine dC (i:=3) (hq:=(cV (hc:=λ w1 hw=>nI (Az (gB b xs i r) (k:=y.1) (by omega)) (y.1:Int) w1))) (h:=λ x32=>?_);refine aT ?_;((refine Ay (h:=λ x37=>?_);try (refine fL (λ h37=>?_))));refine Sb ?_;refine Bb ?_
            refine fF ((0,x37)) ?_ (hw1:=λ w hw=>by obtain⟨k1,k2⟩:=nT hm (by omega);rw[k1,show(rQ (gB b xs i r) y.1).length+1=(rQ (gB b xs i r) (y.1+1)).length by rw[<- k2];simp,k2] at hw;exact hw.back)
            · exact h37
        dsimp only[iB,List.map,List.cons_append,List.nil_append]
        refine Kb2 ?_
        refine gU ((by exact(y.1+1,z.2))) ?_ (hw1:=λ w hw=>by exact hw.back)
        · first
           | exact⟨by omega,by have k2:=(nT hm (by omega)).2;simp only[];rw[<- k2,List.length_append];exact hx⟩
           | exact⟨by omega,by simp only[];rw[<- (oE hm).2];exact hx.2⟩
      · have hm:gB b xs i r y.1=none:=by
         first
          | (rw[D7 c24,if_neg (by omega)];done)
          | (rw[D4 hcv (by omega) c24];exact Uq c28)
        refine Kc7 ?_
        refine gU ((by exact(y.1+1,y.2))) ?_ (hw1:=λ w hw=>by(rw[(oE hm).1,(oE hm).2] at hw;exact hw.back))
        · first
           | exact⟨by omega,by have k2:=(nT hm (by omega)).2;simp only[];rw[<- k2,List.length_append];exact hx⟩
           | exact⟨by omega,by simp only[];rw[<- (oE hm).2];exact hx.2⟩
  · refine bR rfl ?_;refine oX ?_;refine J5 ?_
    refine bB Tryz.results244 (λ w hw=>?_)
    have hy:y.1=64:=by omega
    rw[hy] at hw hx ⊢
    generalize A9 (gB b xs i r) 64=B at hw ⊢
    generalize rQ (gB b xs i r) 64=L at hw hx ⊢
    exact⟨y.2,rfl,hx.2,SF.frz hw.aX⟩
end
end
end Go.Proofs.YtbajmaoegmbfgaaGreat

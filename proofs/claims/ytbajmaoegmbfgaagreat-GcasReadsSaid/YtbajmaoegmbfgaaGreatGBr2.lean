/- Branches: what Lookup and Sole compute. -/
import Derived.Test.YtbajmaoegmbfgaaGreatGBr
import Derived.Test.YtbajmaoegmbfgaaGreatGAr5
import Derived.Test.YtbajmaoegmbfgaaGreatGAr8
import Derived.Test.YtbajmaoegmbfgaaGreatGBitsE
import Derived.Test.YtbajmaoegmbfgaaGreatGPa4
import Derived.Test.YtbajmaoegmbfgaaGreatGNode3
import Derived.Test.YtbajmaoegmbfgaaGreatGJoin

set_option linter.unusedSimpArgs false
set_option linter.unusedVariables false
namespace Go.Ct
section
open Go Go.RowKit
end
end Go.Ct
namespace Go.Proofs.YtbajmaoegmbfgaaGreat
section
open Go.RowKit Go.Ct
def CV(n:Nd)(xs:List Int)(ys:List Pr):Prop:=n.kind=3/\bY n xs ys
theorem CV.bv{n:Nd}{xs:List Int}{ys:List Pr}{b:Nat}(h:CV n xs ys)(hb:n.bm=(b:Int))(hb2:b<18446744073709551616):BV b xs:=by
 obtain⟨h1,h2⟩:=tP h.1 h.2
 rw[hb,rM hb2] at h1
 exact⟨hb2,by omega,h2⟩
open Classical in
noncomputable def L6 (n:Nd) (xs:List Int) (ys:List Pr) (b:Nat) (i:Int):Option Int:=if CV n xs ys/\pS b i=true then some (xs.getD (qZ b i) 0) else none
open Classical in
noncomputable def mb (n:Nd) (xs:List Int) (ys:List Pr):Option Int:=if CV n xs ys/\xs.length=1 then some (xs.getD 0 0) else none
theorem rE{b:Nat}{i:Int}(h:pS b i=true):0<=i/\i<64/\b.testBit i.toNat=true/\qZ b i=gC b i.toNat:=by
 simp only[pS,Bool.and_eq_true,decide_eq_true_eq] at h
 exact⟨h.1,h.2.1,h.2.2,by unfold qZ;congr 1;omega⟩
theorem aAG{b:Nat}{xs:List Int}(h:BV b xs){i:Int}(hh:pS b i=true):qZ b i<xs.length:=by
 obtain⟨h1,h2,h3,h4⟩:=rE hh
 rw[h4,h.len]
 exact oI (by omega) h3
section
variable{n:Nd}{xs:List Int}{ys:List Pr}{w:World}{b:Nat}
theorem fm(hb:n.bm=(b:Int))(hb2:b<18446744073709551616)(hr:rF w n xs ys):Calls Tryz.prog 243 #[n.v] w λ e w'=>∃r:Bool,e=.returned (.bool r)/\(r=true↔CV n xs ys)/\St w [] [] w':=by
 refine enter Tryz.func243 Tryz.ntmps243 rfl rfl (SF.s0 w) ?_
 simp only[bX]
 simp only[Nd.v,Nd.cells]
 refine J0 ?_;refine bI (λ x1=>?_);refine J1 ?_;refine gY ?_;refine mC ?_;refine aA ?_
 (refine eD 6 (λ g6=>?_) (λ g6=>?_)<;>(first|refine aI ?_|(refine aF ?_;refine bP ?_)))
 all_goals ((first|refine aI ?_|(refine aF ?_;refine aD (c0 (V:=.bool) (hc:=λ w1 hw=>zO (n:=n) hb hb2 (hr.gB hw.done))) (λ x8 h8=>?_)));refine cE ?_;refine J1 ?_)
 all_goals
 refine aS Tryz.results243 (λ w hw=>?_)
 refine⟨_,rfl,?_,hw.done⟩
 simp_all[CV]
theorem oC(i:Int)(hb:n.bm=(b:Int))(hb2:b<18446744073709551616)(hr:rF w n xs ys):Calls Tryz.prog 216 #[n.v,.int .i64 i] w λ e w'=>e=.returned (.tuple #[.int .i64 ((L6 n xs ys b i).getD 0),.bool (L6 n xs ys b i).isSome])/\St w [] [] w':=by
 have e1:=hr.brN
 refine enter Tryz.func216 Tryz.ntmps216 rfl rfl (SF.s2 hr.br hr.pr) ?_
 simp only[bX]
 simp only[Nd.v,Nd.cells,hb,e1]
 refine J0 ?_;refine bI (λ x2=>?_);refine J8 ?_;refine aV ?_;refine nK ?_;refine aD (c0 (V:=.bool) (hc:=λ w1 hw=>by rw[<- e1,<- hb];exact fm (n:=n) hb hb2 (hr.gB hw.done))) (λ x7 h7=>?_);refine Cz ?_
 (refine eD 9 (λ g9=>?_) (λ g9=>?_)<;>(first|refine aI ?_|(refine aF ?_;refine aE ?_)))
 all_goals (refine ll ?_;(first|refine aI ?_|(refine aF ?_;refine aT (cV (hc:=λ w1 hw=>Gn hb2 i w1)) (λ x13=>?_)));refine O9 ?_;refine aH ?_)
 all_goals
 refine bB (λ c15=>?_) (λ c15=>?_)
 ·all_goals refine Nk ?_
  all_goals
   refine bC Tryz.results216 (λ w hw=>?_)
   rw[show L6 n xs ys b i=none from if_neg (by simp_all)];exact⟨rfl,hw.done⟩
 ·try exact nv c15
  all_goals
   have hcv:CV n xs ys:=h7.1 (by simpa using g9)
   have hpl:=aAG (hcv.bv hb hb2) c15
  all_goals (refine jU ?_;refine dK [(0,[]),(1,[]),(2,[]),(3,[]),(4,[]),(5,[1]),(6,[]),(7,[]),(8,[]),(9,[])] ?_;refine kX ?_;refine kX ?_;refine aN ?_;refine cH (i:=5) (hq:=(cV (hc:=λ w1 hw=>Qn hb2 i w1))) (h:=λ x21=>?_);refine N0 ?_;refine Q7 ?_)
  all_goals
   refine bC Tryz.results216 (λ w hw=>?_)
   rw[show L6 n xs ys b i=some (xs.getD (qZ b i) 0) from if_pos ⟨hcv,c15⟩];exact⟨rfl,hw.done⟩
theorem Ka(hb:n.bm=(b:Int))(hb2:b<18446744073709551616)(hr:rF w n xs ys):Calls Tryz.prog 245 #[n.v] w λ e w'=>e=.returned (.tuple #[.int .i64 ((mb n xs ys).getD 0),.bool (mb n xs ys).isSome])/\St w [] [] w':=by
 have e1:=hr.brN
 refine enter Tryz.func245 Tryz.ntmps245 rfl rfl (SF.s2 hr.br hr.pr) ?_
 simp only[bX]
 simp only[Nd.v,Nd.cells,e1]
 refine J0 ?_;refine bI (λ x1=>?_);refine J8 ?_;refine aV ?_;refine nK ?_;refine aD (c0 (V:=.bool) (hc:=λ w1 hw=>by rw[<- e1];exact fm (n:=n) hb hb2 (hr.gB hw.done))) (λ x5 h5=>?_);refine Cz ?_
 (refine eD 7 (λ g7=>?_) (λ g7=>?_)<;>(first|refine aI ?_|(refine aF ?_;refine aE ?_)))
 all_goals ((first|refine aI ?_|(refine aF ?_;refine bP ?_));(first|refine aI ?_|(refine aF ?_;refine dA ?_));refine Q2 ?_;refine aH ?_)
 all_goals
 refine bB (λ c12=>?_) (λ c12=>?_)
 ·all_goals refine Nk ?_
  all_goals
   refine bC Tryz.results245 (λ w hw=>?_)
   rw[show mb n xs ys=none from if_neg (by simp_all;try omega)];exact⟨rfl,hw.done⟩
 ·try exact nv c12
  all_goals
   have hcv:CV n xs ys:=h5.1 (by simpa using g7)
   have hl1:xs.length=1:=by omega
  all_goals (refine aY ?_;refine gY ?_;refine aC (dE (k:=0) rf rf fT fL fin (by omega) (by omega)) rfl ?_;refine bP ?_;refine J8 ?_)
  all_goals
   refine bC Tryz.results245 (λ w hw=>?_)
   rw[show mb n xs ys=some (xs.getD 0 0) from if_pos ⟨hcv,hl1⟩];exact⟨rfl,hw.done⟩
end
end

/- Branches: a C-node of a bitmap and a list. -/
section
open Go.RowKit Go.Ct
def cn(b:Nat)(xs:List Int)(x:Option Addr×Nat):Nd:={Nd.zero with kind:=3,bm:=(b:Int),brA:=x.1,brN:=xs.length,brC:=x.2}
theorem aAP{b:Nat}{xs:List Int}(h:BV b xs)(x:Option Addr×Nat){p:Int}(hp:0<=p):CV {cn b xs x with prev:=p} xs [] :=
 ⟨rfl,by simp[rV,Nd.own,Nd.jP,Nd.jA,cn],by simp[cn,Nd.zero],hp,by simp[cn,Nd.zero],.inr (.inr (.inl ⟨rfl,by show(xs.length:Int)=yC (b:Int);rw[rM h.lt,h.len],h.pos⟩))⟩
theorem zf{b:Nat}{xs:List Int}(h:BV b xs)(x:Option Addr×Nat):CV (cn b xs x) xs []:=aAP h x (p:=0) (Int.le_refl _)
end

/- Nodes and lists of pairs out of tapes. -/
end Go.Proofs.YtbajmaoegmbfgaaGreat
namespace Go.Ct
section
end
end Go.Ct
namespace Go.Proofs.YtbajmaoegmbfgaaGreat
section
open Go.RowKit Go.Ct
structure aBL(refs:Int)(n:Nd)(xs:List Int)(ys:List Pr):Prop where
 valid:bY n xs ys
 brN:n.brN=xs.length
 prN:n.prN=ys.length
 brC:n.brN<=n.brC
 cZ:n.prN<=n.cZ
 bm:∃b:Nat,n.bm=(b:Int)/\b<18446744073709551616
 xs64:xs.length<=64
 ys2:ys.length<=2
 key:n.key.size<=4
 cells:n.main=0/\n.prev=0/\n.status=0
 gen:0<=n.gen/\n.gen<=3
 kind:n.kind=2∨n.kind=3∨n.kind=4∨n.kind=5∨n.kind=6∨n.kind=8
 refs:(∀r∈xs,1<=r/\r<=refs)/\0<=n.bK/\n.bK<=refs/\0<=n.exp/\n.exp<=refs/\0<=n.new/\n.new<=refs
end

/- Tombs: Untombed, Contracted, Grown, Shrunk: both sides. -/
section
open Go.RowKit Go.Ct
def tmb(s:Nd):Nd:={Nd.zero with kind:=5,hash:=s.hash,key:=s.key,val:=s.val}
def Ff(n:Nd):Nd:=if n.kind=5 then{Nd.zero with kind:=4,hash:=n.hash,key:=n.key,val:=n.val} else Nd.zero
theorem I2(n:Nd)(w:World):Calls Tryz.prog 219 #[n.v] w λ e w'=>e=.returned (.tuple #[(Ff n).v,.bool (decide (n.kind=5))])/\St w [] [] w':=by
 refine enter Tryz.func219 Tryz.ntmps219 rfl rfl (SF.s0 w) ?_
 simp only[bX]
 simp only[Nd.v,Nd.cells]
 refine J0 ?_;refine bI (λ x1=>?_);refine aJ (λ x2=>?_);refine iE ?_;refine gY ?_;refine mK ?_;refine aH ?_
 refine bB (λ c6=>?_) (λ c6=>?_)
 ·refine J0 ?_;refine bJ ?_;refine xX ?_
  refine bC Tryz.results219 (λ w hw=>?_)
  exact⟨by rw[show Ff n=Nd.zero from if_neg (by assumption),decide_eq_false (by assumption)];rfl,hw.done⟩
 ·refine aY ?_;refine gY ?_;refine J3 ?_;refine J3 ?_;refine bJ ?_;refine xX ?_
  refine bC Tryz.results219 (λ w hw=>?_)
  exact⟨by rw[show Ff n={Nd.zero with kind:=4,hash:=n.hash,key:=n.key,val:=n.val} from if_pos (by omega),decide_eq_true (by omega)];rfl,hw.done⟩
section
variable{n s:Nd}{xs:List Int}{ys:List Pr}{w:World}{b:Nat}
def LV(n:Nd)(xs:List Int)(ys:List Pr):Prop:=n.kind=6/\bY n xs ys
theorem Ob(hb:n.bm=(b:Int))(hb2:b<18446744073709551616)(hr:rF w n xs ys):Calls Tryz.prog 255 #[n.v] w λ e w'=>∃r:Bool,e=.returned (.bool r)/\(r=true↔LV n xs ys)/\St w [] [] w':=by
 refine enter Tryz.func255 Tryz.ntmps255 rfl rfl (SF.s0 w) ?_
 simp only[bX]
 simp only[Nd.v,Nd.cells]
 refine J0 ?_;refine bI (λ x1=>?_);refine J1 ?_;refine gY ?_;refine mC ?_;refine aA ?_
 (refine eD 6 (λ g6=>?_) (λ g6=>?_)<;>(first|refine aI ?_|(refine aF ?_;refine bP ?_)))
 all_goals ((first|refine aI ?_|(refine aF ?_;refine aD (c0 (V:=.bool) (hc:=λ w1 hw=>zO (n:=n) hb hb2 (hr.gB hw.done))) (λ x8 h8=>?_)));refine cE ?_;refine J1 ?_)
 all_goals
 refine aS Tryz.results255 (λ w hw=>?_)
 refine⟨_,rfl,?_,hw.done⟩
 simp_all[LV]
open Classical in
noncomputable def Rx (n:Nd) (xs:List Int) (ys:List Pr) (level:Int) (s:Nd):Bool:=decide ((mb n xs ys).isSome=true/\0<level/\s.kind=4)
def ui(t:Bool)(n s:Nd):Nd:=if t=true then tmb s else n
def mq{α:Type}(t:Bool)(l:List α):List α:=if t=true then [] else l
theorem Du(level:Int)(s:Nd)(hb:n.bm=(b:Int))(hb2:b<18446744073709551616)(hr:rF w n xs ys):Calls Tryz.prog 221 #[n.v,.int .i64 level,s.v] w λ e w'=>e=.returned (ui (Rx n xs ys level s) n s).v/\St w [] [] w':=by
 refine enter Tryz.func221 Tryz.ntmps221 rfl rfl (SF.s0 w) ?_
 simp only[bX]
 simp only[Nd.v,Nd.cells]
 refine J0 ?_;refine bI (λ x3=>?_);refine bI (λ x5=>?_);refine aJ (λ x6=>?_);refine Q8 ?_;refine nK ?_;refine aT (cV (hc:=λ w1 hw=>Ka (n:=n) hb hb2 (hr.gB hw.done))) (λ x11=>?_);refine aA ?_;refine aC (bO rf rfl) rfl ?_;refine aC (bO rf rfl) rfl ?_;refine J8 ?_;refine iY ?_
 (refine eD 15 (λ g15=>?_) (λ g15=>?_)<;>(first|refine aI ?_|(refine aF ?_;refine aA ?_)))
 all_goals (refine Ae ?_;refine aA ?_)
 all_goals (first|refine aI ?_|(refine eD 19 (λ g19=>?_) (λ g19=>?_)<;>(first|refine aI ?_|(refine aF ?_;refine aE ?_))))
 all_goals (refine v9 ?_;refine aH ?_)
 all_goals
 refine bB (λ c23=>?_) (λ c23=>?_)
 ·try exact nv c23
  all_goals (refine gY ?_;refine J3 ?_;refine J3 ?_;refine vS ?_)
  all_goals
   refine bC Tryz.results221 (λ w hw=>?_)
   rw[show Rx n xs ys level s=true from decide_eq_true ⟨by assumption,by omega,by omega⟩];exact⟨rfl,hw.done⟩
 ·all_goals (refine aY ?_;refine nK ?_;refine J5 ?_)
  all_goals
   refine bC Tryz.results221 (λ w hw=>?_)
   rw[show Rx n xs ys level s=false from decide_eq_false (by rintro ⟨t1,t2,t3⟩;first|omega|(clear hw;simp_all;done))];exact⟨rfl,hw.done⟩
end
end

/- Tombs: Grown, Shrunk: both sides; agrees. -/
section
open Go.RowKit Go.Ct
def lr(o:Option (List Pr))(h:Int)(x:Option Addr×Nat):Nd:=match o with|some m=>{Nd.zero with kind:=6,hash:=h,prA:=x.1,prN:=m.length,cZ:=x.2}|none=>Nd.zero
def Ze(o:Option (List Pr)):List Pr:=o.getD []
def Na(o:Option (List Pr))(h:Int)(x:Option Addr×Nat):Nd:=match o with|some m=>if m.length=1 then{Nd.zero with kind:=5,hash:=h,key:=(m.getD 0 (⟨#[]⟩,0)).1,val:=(m.getD 0 (⟨#[]⟩,0)).2} else{Nd.zero with kind:=6,hash:=h,prA:=x.1,prN:=m.length,cZ:=x.2}|none=>Nd.zero
def Ih(o:Option (List Pr)):List Pr:=match o with|some m=>if m.length=1 then [] else m|none=>[]
open Classical in
noncomputable def kK (n:Nd) (xs:List Int) (ys:List Pr) (k:ByteArray) (v:Int):Option (List Pr):=if LV n xs ys/\k.size<=64 then some (N6 ys k v) else none
open Classical in
noncomputable def pJ (n:Nd) (xs:List Int) (ys:List Pr) (k:ByteArray):Option (List Pr):=if LV n xs ys/\(dU ys k).isSome=true then some (rY ys k) else none
def aAh(w:World)(o:Option (List Pr))(h:Int)(e:Ending)(w':World):Prop:=∃x:Option Addr×Nat,e=.returned (.tuple #[(lr o h x).v,.bool o.isSome])/\(Ze o).length<=x.2/\SF w [] [] [] [(x.1,cZ (Ze o))] [] w'
def aBi(w:World)(o:Option (List Pr))(h:Int)(e:Ending)(w':World):Prop:=∃x:Option Addr×Nat,e=.returned (.tuple #[(Na o h x).v,.bool o.isSome])/\(Ih o).length<=x.2/\SF w [] [] [] [(x.1,cZ (Ih o))] [] w'
section
variable{n s:Nd}{xs:List Int}{ys:List Pr}{w:World}{b:Nat}
theorem Ri(k:ByteArray)(v:Int)(hb:n.bm=(b:Int))(hb2:b<18446744073709551616)(hr:rF w n xs ys)(hy:ys.length<=150000000000):Calls Tryz.prog 247 #[n.v,.string k,.int .u64 v] w (aAh w (kK n xs ys k v) n.hash):=by
 have e2:=hr.prN
 refine enter Tryz.func247 Tryz.ntmps247 rfl rfl (SF.s1 hr.pr) ?_
 simp only[bX]
 simp only[Nd.v,Nd.cells,e2]
 refine J0 ?_;refine bI (λ x3=>?_);refine aJ (λ x6=>?_);refine iE ?_;refine nK ?_;refine aD (c0 (V:=.bool) (hc:=λ w1 hw=>by rw[<- e2];exact Ob (n:=n) hb hb2 (hr.gB hw.done))) (λ x9 h9=>?_);refine Cz ?_
 (refine eD 11 (λ g11=>?_) (λ g11=>?_)<;>(first|refine aI ?_|(refine aF ?_;refine aA ?_)))
 all_goals ((first|refine aI ?_|(refine aF ?_;refine mJ ?_));refine Ae ?_;refine aH ?_)
 all_goals
 refine bB (λ c15=>?_) (λ c15=>?_)
 ·all_goals (refine J0 ?_;refine bJ ?_;refine xX ?_)
  all_goals
   refine bC Tryz.results247 (λ w hw=>?_)
   rw[show kK n xs ys k v=none from if_neg (by rintro ⟨t1,t2⟩;have:=h9.2 t1;clear hw;first|omega|(simp_all;done))];exact⟨(none,0),rfl,Nat.le_refl _,(hw.L0 none).fin⟩
 ·try exact nv c15
  all_goals (refine jU ?_;refine dK [(0,[]),(1,[]),(2,[]),(3,[]),(4,[]),(5,[]),(6,[1]),(7,[]),(8,[]),(9,[])] ?_;refine kX ?_;refine kX ?_;refine iF ?_;refine aZ (i:=6) (hq:=(cF (hc:=λ w1 hw=>j6 (l:=ys) k v (hw.cl fin) (by omega)))) (h:=λ x23 h23=>?_);refine fU ?_;refine Bg ?_)
  all_goals
   refine bC Tryz.results247 (λ w hw=>?_)
   rw[show kK n xs ys k v=some (N6 ys k v) from if_pos ⟨h9.1 (by clear hw;simp_all),by omega⟩];exact⟨x23,rfl,h23,hw.fin⟩
theorem N3(k:ByteArray)(hb:n.bm=(b:Int))(hb2:b<18446744073709551616)(hr:rF w n xs ys)(hy:ys.length<=150000000000):Calls Tryz.prog 251 #[n.v,.string k] w (aBi w (pJ n xs ys k) n.hash):=by
 have e2:=hr.prN
 refine enter Tryz.func251 Tryz.ntmps251 rfl rfl (SF.s1 hr.pr) ?_
 simp only[bX]
 simp only[Nd.v,Nd.cells,e2]
 refine J0 ?_;refine bI (λ x2=>?_);refine aJ (λ x4=>?_);refine iE ?_;refine gY ?_;refine aA ?_;refine aT (cV (hc:=λ w1 hw=>I7 (l:=ys) k (hw.cl fin) (by omega))) (λ x13=>?_);refine aA ?_;refine aC (bO rf rfl) rfl ?_;refine aC (bO rf rfl) rfl ?_;refine J8 ?_;refine nK ?_;refine aD (c0 (V:=.bool) (hc:=λ w1 hw=>by rw[<- e2];exact Ob (n:=n) hb hb2 (hr.gB hw.done))) (λ x17 h17=>?_);refine Cz ?_
 (refine eD 19 (λ g19=>?_) (λ g19=>?_)<;>(first|refine aI ?_|(refine aF ?_;refine aA ?_)))
 all_goals (refine O9 ?_;refine aH ?_)
 all_goals
 refine bB (λ c22=>?_) (λ c22=>?_)
 ·all_goals (refine J0 ?_;refine bJ ?_;refine xX ?_)
  all_goals
   refine bC Tryz.results251 (λ w hw=>?_)
   rw[show pJ n xs ys k=none from if_neg (by rintro ⟨t1,t2⟩;have:=h17.2 t1;clear hw;simp_all)];exact⟨(none,0),rfl,Nat.le_refl _,(hw.L0 none).fin⟩
 ·try exact nv c22
  all_goals (refine aY ?_;refine gY ?_;refine aA ?_;refine aD (cF (hc:=λ w1 hw=>W0 (l:=ys) k (hw.cl fin) (by omega))) (λ x27 h27=>?_);refine iE ?_;refine J2 ?_;refine dA ?_;refine uK ?_)
  all_goals
   refine bB (λ c30=>?_) (λ c30=>?_)
   ·refine aV ?_;refine gL [0,1,2,3,4,5,6,7,8,9,10,11,12] ?_;refine kX ?_;refine aN ?_;refine bQ (i:=3) (hq:=(Ig (k:=0) rf rf fT eC fin (by omega) (by omega))) (h:=?_);refine kX ?_;refine aN ?_;refine bQ (i:=7) (hq:=(Ig (k:=0) rf rf fT eC fin (by omega) (by omega))) (h:=?_);refine aR ?_;refine bQ (i:=9) (hq:=(Qo (q:=0) (lst:=rY ys k) rf fL fin (by omega))) (h:=?_);refine fU ?_;refine Bg ?_
    refine bC Tryz.results251 (λ w hw=>?_)
    have e1:(rY ys k).length=1:=by omega
    rw[show pJ n xs ys k=some (rY ys k) from if_pos ⟨h17.1 (by clear hw;simp_all),by clear hw;simp_all⟩];exact⟨(none,0),by simp only[Na,if_pos e1];rfl,by simp only[Ih,if_pos e1];exact Nat.le_refl _,by simp only[Ih,if_pos e1];exact(hw.L0 none).fin⟩
   ·refine aY ?_;refine gY ?_;refine aA ?_;refine bJ ?_;refine xX ?_
    refine bC Tryz.results251 (λ w hw=>?_)
    have e1:¬(rY ys k).length=1:=by omega
    rw[show pJ n xs ys k=some (rY ys k) from if_pos ⟨h17.1 (by clear hw;simp_all),by clear hw;simp_all⟩];exact⟨x27,by simp only[Na,if_neg e1];rfl,by simp only[Ih,if_neg e1];exact h27,by simp only[Ih,if_neg e1];exact hw.fin⟩
end
end

/- Branches: lists of lists, joined; the C-node of them. -/
end Go.Proofs.YtbajmaoegmbfgaaGreat
namespace Go.Ct
section
open Go Go.RowKit
section
variable{P:Program}{n:Nat}{S:List (Nat×Value)}
variable{w0 w w':World}{M:List Nat}{H H':List (Nat×Obj)}{A F F':Fr}{O O':List Ow}{G:World->Prop}
variable{d:Nat}{ty:TypeId}{pos:String}{af:Array Edge}{gd:Option (Nat×Bool)}{dst:Option Nat}{x y z:Operand}{t t2 e:TypeId}{p a:Option Addr}{i m k c c2:Nat}
end
end
end Go.Ct
namespace Go.Proofs.YtbajmaoegmbfgaaGreat
section
open Go Go.RowKit Go.Ct
end

/- Branches: Inserted, Updated, Removed. -/
section
open Go.RowKit Go.Ct
open Classical in
noncomputable def mz (n:Nd) (xs:List Int) (ys:List Pr) (b:Nat) (i r:Int):Option (Nat×List Int):=if CV n xs ys/\(0<=i/\i<64)/\1<=r/\pS b i=false then some (dR b i,wM xs (qZ b i) r) else none
open Classical in
noncomputable def m4 (n:Nd) (xs:List Int) (ys:List Pr) (b:Nat) (i r:Int):Option (Nat×List Int):=if CV n xs ys/\1<=r/\pS b i=true then some (b,zR xs (qZ b i) r) else none
open Classical in
noncomputable def mn (n:Nd) (xs:List Int) (ys:List Pr) (b:Nat) (i:Int):Option (Nat×List Int):=if CV n xs ys/\pS b i=true then some (vY b i,rP xs (qZ b i)) else none
def mQ(o:Option (Nat×List Int))(x:Option Addr×Nat):Nd:=match o with|some q=>cn q.1 q.2 x|none=>Nd.zero
def lS(o:Option (Nat×List Int)):List Int:=match o with|some q=>q.2|none=>[]
def Yn(w:World)(o:Option (Nat×List Int))(e:Ending)(w':World):Prop:=∃x:Option Addr×Nat,e=.returned (.tuple #[(mQ o x).v,.bool o.isSome])/\(lS o).length<=x.2/\SF w [] [] [] [(x.1,aG (lS o))] [] w'
section
variable{n:Nd}{xs:List Int}{ys:List Pr}{w:World}{b:Nat}
end
end

/- Branches: the reference's build, Inserted, Updated, Removed. -/
section
open Go.RowKit Go.Ct
def gK(b:Nat)(xs:List Int)(i:Nat)(r:Int):Nat->Option Int:=Nb (qU b xs) i (if 0<r then some r else none)
theorem nP{m:Nat->Option Int}{k:Nat}{v:Int}(h:m k=some v)(hk:k<64):dR (Be m k) (k:Int)=Be m (k+1)/\pD m k++[v]=pD m (k+1):=by
 simp only[Be,pD,h,dR,Option.isSome_some,if_true,Option.toList,Int.toNat_natCast,and_true]
 exact if_pos (by omega)
theorem nU{m:Nat->Option Int}{k:Nat}(h:m k=none):Be m k=Be m (k+1)/\pD m k=pD m (k+1):=by
 simp[Be,pD,h]
theorem A5(m:Nat->Option Int){k:Nat}(hk:k<=64):Be m k<18446744073709551616:=Nat.lt_of_lt_of_le (dt m k) (Nat.pow_le_pow_right (n:=2) (by decide) hk)
theorem Uz(m:Nat->Option Int):∀k,(pD m k).length<=k
 | 0=>Nat.le_refl _
 | k+1=>by have:=Uz m k;simp only[pD,List.length_append];cases m k<;>simp<;>omega
section
variable{n:Nd}{xs:List Int}{ys:List Pr}{w:World}{b:Nat}
theorem Ub(hcv:CV n xs ys){k:Nat}(hk:k<64):L6 n xs ys b (k:Int)=qU b xs k:=by
 unfold L6 qU
 have h1:pS b (k:Int)=b.testBit k:=by rw[tE b (by omega) (by omega),Int.toNat_natCast]
 have h2:qZ b (k:Int)=gC b k:=by unfold qZ;rw[Int.toNat_natCast,Nat.min_eq_left (by omega)]
 rw[h1,h2]
 by_cases h:b.testBit k=true<;>simp[h,hcv]
theorem Ea{i k:Nat}{r:Int}(hcv:CV n xs ys)(hk:k<64)(h:(k:Int)≠(i:Int)):gK b xs i r k=L6 n xs ys b (k:Int):=by
 rw[Ub hcv hk]
 exact if_neg (by omega)
theorem Ek{i k:Nat}{r:Int}(h:(k:Int)=(i:Int)):gK b xs i r k=if 0<r then some r else none:=if_pos (by omega)
theorem Uh{o:Option Int}(h:o.isSome=true):o=some (o.getD 0):=by cases o<;>simp_all
theorem Uc{o:Option Int}(h:o.isSome=false):o=none:=by cases o<;>simp_all
set_option maxHeartbeats 800000 in
theorem Lq(i:Nat)(r:Int)(_hi:i<64)(hcv:CV n xs ys)(hb:n.bm=(b:Int))(hb2:b<18446744073709551616)(hr:rF w n xs ys) :
    Calls Tryz.prog 244 #[n.v,.int .i64 (i:Int),.int .i64 r] w λ e w'=>∃x:Option Addr×Nat,e=.returned (cn (Be (gK b xs i r) 64) (pD (gK b xs i r) 64) x).v/\(pD (gK b xs i r) 64).length<=x.2/\SF w [] [] [] [(x.1,aG (pD (gK b xs i r) 64))] [] w':=by
  have e1:=hr.brN
  refine enter Tryz.func244 Tryz.ntmps244 rfl rfl (SF.s2 hr.br hr.pr) ?_
  simp only[bX]
  simp only[Nd.v,Nd.cells]
  refine J0 ?_;refine bI (λ x3=>?_);refine aJ (λ x6=>?_);refine aH ?_;refine J0 ?_;refine bJ ?_;refine aJ (λ x7=>?_);refine J5 ?_;refine aV ?_;refine C4 ?_
  refine nD [8,9,10,12,13,14,15,16,17,18,19,20,21,22,23,24,25,26,27,28,29,30,31,32,33,34,35,36,37,38,39] (λ y:Nat×Option Addr×Nat=>[(8,.int .i64 ((y.1:Nat):Int))]) (λ y=>y.1<=64/\(pD (gK b xs i r) y.1).length<=y.2.2) (λ y=>[(x7,.cells ⟨[.int .i64 3,.int .i64 0,.int .i64 0,.int .u64 ((Be (gK b xs i r) y.1:Nat):Int),.slice y.2.1 (pD (gK b xs i r) y.1).length y.2.2,.int .u64 0,.string ⟨#[]⟩,.int .u64 0,.slice none 0 0,.int .i64 0,.int .i64 0,.int .i64 0,.int .i64 0,.int .i64 0]⟩ 47),(x6,.cells ⟨Nd.zero.cells⟩ 47),(x3,.cells ⟨n.cells⟩ 47)]) (λ _=>_) (λ y=>[⟨y.2.1,aG (pD (gK b xs i r) y.1),y.2.2,37,1⟩]) (λ y=>64-y.1) ((0,none,0)) (⟨Nat.zero_le _,Nat.le_refl _⟩) (λ y f hx=>?_) (hw0:=λ w hw=>(hw.kC 37 1).back)
  dsimp only[gX,List.map,List.cons_append,List.nil_append]
  have hll:=Uz (gK b xs i r) y.1
  refine kA ?_;refine xJ ?_
  refine bB (λ c13=>?_) (λ c13=>?_)
  · refine qA ?_;refine Dz ?_;refine aT (cV (hc:=λ w1 hw=>oC (n:=n) (y.1:Int) hb hb2 (hr.gB hw.done))) (λ x19=>?_);refine aA ?_;refine aC (jB rf rfl) rfl ?_;refine aC (jB rf rfl) rfl ?_;refine J8 ?_;refine De ?_;refine uK ?_
    refine bB (λ c24=>?_) (λ c24=>?_)
    · refine Ik ?_;refine C5 ?_;refine J8 ?_;refine J2 ?_;refine aH ?_
      refine bB (λ c28=>?_) (λ c28=>?_)
      · first
         | have hm:gK b xs i r y.1=some r:=by rw[Ek c24,if_pos (by omega)]
         | have hm:gK b xs i r y.1=some ((L6 n xs ys b (y.1:Int)).getD 0):=by rw[Ea hcv (by omega) c24];exact Uh c28
        refine eQ [29,30,31,32,33,34,35,36,37,38,39] (λ z:Nat×Option Addr×Nat=>[]) (λ z=>(pD (gK b xs i r) y.1).length+1<=z.2.2) (λ z=>[(x7,.cells ⟨[.int .i64 3,.int .i64 0,.int .i64 0,.int .u64 ((Be (gK b xs i r) (y.1+1):Nat):Int),.slice z.2.1 (pD (gK b xs i r) (y.1+1)).length z.2.2,.int .u64 0,.string ⟨#[]⟩,.int .u64 0,.slice none 0 0,.int .i64 0,.int .i64 0,.int .i64 0,.int .i64 0,.int .i64 0]⟩ 47),(x6,.cells ⟨Nd.zero.cells⟩ 47),(x3,.cells ⟨n.cells⟩ 47)]) (λ z=>[]) (λ z=>[⟨z.2.1,aG (pD (gK b xs i r) (y.1+1)),z.2.2,37,1⟩]) (by decide) (λ _=>by exact rfl) ?_ (λ z f hx=>?_)
        · refine gE (.one 0 [] (.one 1 [] (.one 2 [] (.one 4 [] (.one 5 [] (.one 6 [] (.two 3 [5] (.one 9 [] (.one 7 [1,5] (.one 8 [] (.one 10 [] (.one 11 [] (.one 12 [] .nil)))))) 0 [] (.two 7 [1,5] (.one 3 [5] (.one 9 [] (.one 8 [] (.one 10 [] (.one 11 [] (.one 12 [] .nil)))))) 0 [] .nil)))))))) ?_
          refine kX ?_;refine aN ?_;refine kX ?_;refine aN ?_
          refine gQ (E:=[3,7]) (by decide +kernel) ((.cons ?_ (.cons ?_ .nil)))
          · refine Kq (i:=3) (hq:=(cV (hc:=λ w1 hw=>nF (A5 (gK b xs i r) (k:=y.1) (by omega)) (y.1:Int) w1))) (h:=λ x32=>?_)
            refine aR ?_;refine bV (h:=λ x36=>?_);((refine lZ (h:=λ x37=>?_);try (refine dZ (λ h37=>?_))));refine Rp ?_;refine zU ?_
            refine fD ((0,x37)) ?_ (hw1:=λ w hw=>by obtain⟨k1,k2⟩:=nP hm (by omega);rw[k1,show(pD (gK b xs i r) y.1).length+1=(pD (gK b xs i r) (y.1+1)).length by rw[<- k2];simp,k2] at hw;exact hw.back)
            · exact h37
          · refine mG (i:=7) (h:=λ x36=>?_)
            refine cH (i:=3) (hq:=(cV (hc:=λ w1 hw=>nF (A5 (gK b xs i r) (k:=y.1) (by omega)) (y.1:Int) w1))) (h:=λ x32=>?_);refine aR ?_;((refine lZ (h:=λ x37=>?_);try (refine dZ (λ h37=>?_))));refine Rp ?_;refine zU ?_
            refine fD ((0,x37)) ?_ (hw1:=λ w hw=>by obtain⟨k1,k2⟩:=nP hm (by omega);rw[k1,show(pD (gK b xs i r) y.1).length+1=(pD (gK b xs i r) (y.1+1)).length by rw[<- k2];simp,k2] at hw;exact hw.back)
            · exact h37
        dsimp only[gX,List.map,List.cons_append,List.nil_append]
        refine fH ?_;refine uF ?_
        refine iN ((by exact(y.1+1,z.2))) ?_ (hw1:=λ w hw=>by exact hw.back)
        · first
           | exact⟨by omega,by have k2:=(nP hm (by omega)).2;simp only[];rw[<- k2,List.length_append];exact hx⟩
           | exact⟨by omega,by simp only[];rw[<- (nU hm).2];exact hx.2⟩
      · have hm:gK b xs i r y.1=none:=by
         first
          | (rw[Ek c24,if_neg (by omega)];done)
          | (rw[Ea hcv (by omega) c24];exact Uc c28)
        refine nN ?_;refine uF ?_
        refine iN ((by exact(y.1+1,y.2))) ?_ (hw1:=λ w hw=>by(rw[(nU hm).1,(nU hm).2] at hw;exact hw.back))
        · first
           | exact⟨by omega,by have k2:=(nP hm (by omega)).2;simp only[];rw[<- k2,List.length_append];exact hx⟩
           | exact⟨by omega,by simp only[];rw[<- (nU hm).2];exact hx.2⟩
    · refine aY ?_;refine J2 ?_;refine aH ?_
      refine bB (λ c28=>?_) (λ c28=>?_)
      · first
         | have hm:gK b xs i r y.1=some r:=by rw[Ek c24,if_pos (by omega)]
         | have hm:gK b xs i r y.1=some ((L6 n xs ys b (y.1:Int)).getD 0):=by rw[Ea hcv (by omega) c24];exact Uh c28
        refine eQ [29,30,31,32,33,34,35,36,37,38,39] (λ z:Nat×Option Addr×Nat=>[]) (λ z=>(pD (gK b xs i r) y.1).length+1<=z.2.2) (λ z=>[(x7,.cells ⟨[.int .i64 3,.int .i64 0,.int .i64 0,.int .u64 ((Be (gK b xs i r) (y.1+1):Nat):Int),.slice z.2.1 (pD (gK b xs i r) (y.1+1)).length z.2.2,.int .u64 0,.string ⟨#[]⟩,.int .u64 0,.slice none 0 0,.int .i64 0,.int .i64 0,.int .i64 0,.int .i64 0,.int .i64 0]⟩ 47),(x6,.cells ⟨Nd.zero.cells⟩ 47),(x3,.cells ⟨n.cells⟩ 47)]) (λ z=>[]) (λ z=>[⟨z.2.1,aG (pD (gK b xs i r) (y.1+1)),z.2.2,37,1⟩]) (by decide) (λ _=>by exact rfl) ?_ (λ z f hx=>?_)
        · refine gE (.one 0 [] (.one 1 [] (.one 2 [] (.one 4 [] (.one 5 [] (.one 6 [] (.two 3 [5] (.one 9 [] (.one 7 [1,5] (.one 8 [] (.one 10 [] (.one 11 [] (.one 12 [] .nil)))))) 0 [] (.two 7 [1,5] (.one 3 [5] (.one 9 [] (.one 8 [] (.one 10 [] (.one 11 [] (.one 12 [] .nil)))))) 0 [] .nil)))))))) ?_
          refine kX ?_;refine aN ?_;refine kX ?_;refine aN ?_
          refine gQ (E:=[3,7]) (by decide +kernel) ((.cons ?_ (.cons ?_ .nil)))
          · refine Kq (i:=3) (hq:=(cV (hc:=λ w1 hw=>nF (A5 (gK b xs i r) (k:=y.1) (by omega)) (y.1:Int) w1))) (h:=λ x32=>?_)
            refine aR ?_;refine bV (h:=λ x36=>?_);((refine lZ (h:=λ x37=>?_);try (refine dZ (λ h37=>?_))));refine Rp ?_;refine zU ?_
            refine fD ((0,x37)) ?_ (hw1:=λ w hw=>by obtain⟨k1,k2⟩:=nP hm (by omega);rw[k1,show(pD (gK b xs i r) y.1).length+1=(pD (gK b xs i r) (y.1+1)).length by rw[<- k2];simp,k2] at hw;exact hw.back)
            · exact h37
          · refine mG (i:=7) (h:=λ x36=>?_)
            refine cH (i:=3) (hq:=(cV (hc:=λ w1 hw=>nF (A5 (gK b xs i r) (k:=y.1) (by omega)) (y.1:Int) w1))) (h:=λ x32=>?_);refine aR ?_;((refine lZ (h:=λ x37=>?_);try (refine dZ (λ h37=>?_))));refine Rp ?_;refine zU ?_
            refine fD ((0,x37)) ?_ (hw1:=λ w hw=>by obtain⟨k1,k2⟩:=nP hm (by omega);rw[k1,show(pD (gK b xs i r) y.1).length+1=(pD (gK b xs i r) (y.1+1)).length by rw[<- k2];simp,k2] at hw;exact hw.back)
            · exact h37
        dsimp only[gX,List.map,List.cons_append,List.nil_append]
        refine fH ?_;refine uF ?_
        refine iN ((by exact(y.1+1,z.2))) ?_ (hw1:=λ w hw=>by exact hw.back)
        · first
           | exact⟨by omega,by have k2:=(nP hm (by omega)).2;simp only[];rw[<- k2,List.length_append];exact hx⟩
           | exact⟨by omega,by simp only[];rw[<- (nU hm).2];exact hx.2⟩
      · have hm:gK b xs i r y.1=none:=by
         first
          | (rw[Ek c24,if_neg (by omega)];done)
          | (rw[Ea hcv (by omega) c24];exact Uc c28)
        refine nN ?_;refine uF ?_
        refine iN ((by exact(y.1+1,y.2))) ?_ (hw1:=λ w hw=>by(rw[(nU hm).1,(nU hm).2] at hw;exact hw.back))
        · first
           | exact⟨by omega,by have k2:=(nP hm (by omega)).2;simp only[];rw[<- k2,List.length_append];exact hx⟩
           | exact⟨by omega,by simp only[];rw[<- (nU hm).2];exact hx.2⟩
  · refine bM rfl ?_;refine nK ?_;refine J5 ?_
    refine bC Tryz.results244 (λ w hw=>?_)
    have hy:y.1=64:=by omega
    rw[hy] at hw hx ⊢
    generalize Be (gK b xs i r) 64=B at hw ⊢
    generalize pD (gK b xs i r) 64=L at hw hx ⊢
    exact⟨y.2,rfl,hx.2,SF.frz hw.aU⟩
end
end

/- Branches: the reference's Inserted, Updated, Removed. -/
section
open Go.RowKit Go.Ct
theorem of_eq{m:Nat->Option Int}{b:Nat}{xs:List Int}(h:BV b xs/\∀k,k<64->qU b xs k=m k):Be m 64=b/\pD m 64=xs:=by
 obtain⟨h1,h2⟩:=Oq 64 λ k hk=>(h.2 k hk).symm
 obtain⟨h3,h4⟩:=Rh h.1
 exact⟨h1.trans h3,h2.trans h4⟩
theorem oZ{k:Nat}(b:Nat)(hk:k<64):dR b (k:Int)=b ||| 2^k:=by
 unfold dR;rw[if_pos (by omega),Int.toNat_natCast]
theorem tH{k:Nat}(b:Nat)(hk:k<64):vY b (k:Int)=b ^^^ (b &&& 2^k):=by
 unfold vY;rw[if_pos (by omega),Int.toNat_natCast]
theorem nX{k:Nat}(b:Nat)(hk:k<64):qZ b (k:Int)=gC b k:=by
 unfold qZ;rw[Int.toNat_natCast,Nat.min_eq_left (by omega)]
theorem pL{k:Nat}(b:Nat)(hk:k<64):pS b (k:Int)=b.testBit k:=by
 rw[tE b (by omega) (by omega),Int.toNat_natCast]
theorem X0{b k:Nat}{xs:List Int}{r:Int}(h:BV b xs)(hk:k<64)(hb:pS b (k:Int)=false)(hr:1<=r):Be (gK b xs k r) 64=dR b (k:Int)/\pD (gK b xs k r) 64=wM xs (qZ b (k:Int)) r:=by
 rw[pL b hk] at hb
 rw[oZ b hk,nX b hk]
 unfold gK
 rw[if_pos (by omega)]
 exact of_eq (E7 h hk hb hr)
theorem Wz{b k:Nat}{xs:List Int}{r:Int}(h:BV b xs)(hk:k<64)(hb:pS b (k:Int)=true)(hr:1<=r):Be (gK b xs k r) 64=b/\pD (gK b xs k r) 64=zR xs (qZ b (k:Int)) r:=by
 rw[pL b hk] at hb
 rw[nX b hk]
 unfold gK
 rw[if_pos (by omega)]
 exact of_eq (Tx h hk hb hr)
theorem Y2{b k:Nat}{xs:List Int}(h:BV b xs)(hk:k<64)(hb:pS b (k:Int)=true):Be (gK b xs k 0) 64=vY b (k:Int)/\pD (gK b xs k 0) 64=rP xs (qZ b (k:Int)):=by
 rw[pL b hk] at hb
 rw[tH b hk,nX b hk]
 unfold gK
 rw[if_neg (by omega)]
 exact of_eq (Ts h hk hb)
section
variable{n:Nd}{xs:List Int}{ys:List Pr}{w:World}{b:Nat}
theorem A9{i:Int}(h:(L6 n xs ys b i).isSome=true):CV n xs ys/\pS b i=true:=by
 unfold L6 at h
 split at h
 ·assumption
 ·cases h
theorem H6{i:Int}(h:(L6 n xs ys b i).isSome=false)(hcv:CV n xs ys):pS b i=false:=by
 unfold L6 at h
 split at h
 ·cases h
 ·rename_i hn
  cases hh:pS b i with
  | false=>rfl
  | true=>exact absurd ⟨hcv,hh⟩ hn
theorem Iv(i r:Int)(hb:n.bm=(b:Int))(hb2:b<18446744073709551616)(hr:rF w n xs ys):Calls Tryz.prog 249 #[n.v,.int .i64 i,.int .i64 r] w (Yn w (mz n xs ys b i r)):=by
 refine enter Tryz.func249 Tryz.ntmps249 rfl rfl (SF.s2 hr.br hr.pr) ?_
 simp only[bX]
 simp only[Nd.v,Nd.cells]
 refine J0 ?_;refine bI (λ x3=>?_);refine aJ (λ x6=>?_);refine iE ?_;refine Dz ?_;refine aT (cV (hc:=λ w1 hw=>oC (n:=n) i hb hb2 (hr.gB hw.done))) (λ x13=>?_);refine aA ?_;refine aC (jB rf rfl) rfl ?_;refine aC (jB rf rfl) rfl ?_;refine J8 ?_;refine nK ?_;refine aD (c0 (V:=.bool) (hc:=λ w1 hw=>fm (n:=n) hb hb2 (hr.gB hw.done))) (λ x17 h17=>?_);refine Cz ?_
 (refine eD 19 (λ g19=>?_) (λ g19=>?_)<;>(first|refine aI ?_|(refine aF ?_;refine aA ?_)))
 all_goals (refine cE ?_;refine aA ?_)
 all_goals (first|refine aI ?_|(refine eD 22 (λ g22=>?_) (λ g22=>?_)<;>(first|refine aI ?_|(refine aF ?_;refine aA ?_))))
 all_goals (refine ti ?_;refine aA ?_)
 all_goals (first|refine aI ?_|(refine eD 26 (λ g26=>?_) (λ g26=>?_)<;>(first|refine aI ?_|(refine aF ?_;refine aA ?_))))
 all_goals (refine Ae ?_;refine aA ?_)
 all_goals (first|refine aI ?_|(refine eD 30 (λ g30=>?_) (λ g30=>?_)<;>(first|refine aI ?_|(refine aF ?_;refine aA ?_))))
 all_goals (refine ti ?_;refine aH ?_)
 all_goals
 refine bB (λ c33=>?_) (λ c33=>?_)
 ·all_goals (refine J0 ?_;refine bJ ?_;refine xX ?_)
  all_goals
   refine bC Tryz.results249 (λ w hw=>?_)
   rw[show mz n xs ys b i r=none from if_neg (by rintro ⟨k1,⟨k2,k3⟩,k4,k5⟩;clear hw;first|omega|exact absurd (A9 g22).2 (by simp[k5])|exact absurd (h17.2 k1) (by simp_all))];exact⟨(none,0),rfl,Nat.le_refl _,(hw.L0 none).fin⟩
 ·try exact nv c33
  all_goals
   have hcv:=h17.1 (by simpa using g19)
   have hh:=H6 g22 hcv
   obtain⟨k,rfl⟩:=Int.eq_ofNat_of_zero_le (show 0<=i by omega)
   have hk:=X0 (hcv.bv hb hb2) (k:=k) (by omega) hh (r:=r) (by omega)
  all_goals (refine aY ?_;refine nK ?_;refine oX ?_;refine aD (cF (hc:=λ w1 hw=>by have:=Lq (w:=w1) k r (by omega) hcv hb hb2 (hr.gB hw.done);rw[hk.1,hk.2] at this;exact this)) (λ x38 h38=>?_);refine xX ?_)
  all_goals
   refine bC Tryz.results249 (λ w hw=>?_)
   rw[show mz n xs ys b (k:Int) r=some (dR b (k:Int),wM xs (qZ b (k:Int)) r) from if_pos ⟨hcv,⟨by omega,by omega⟩,by omega,hh⟩];exact⟨x38,rfl,h38,hw.fin⟩
theorem Lg(i r:Int)(hb:n.bm=(b:Int))(hb2:b<18446744073709551616)(hr:rF w n xs ys):Calls Tryz.prog 220 #[n.v,.int .i64 i,.int .i64 r] w (Yn w (m4 n xs ys b i r)):=by
 refine enter Tryz.func220 Tryz.ntmps220 rfl rfl (SF.s2 hr.br hr.pr) ?_
 simp only[bX]
 simp only[Nd.v,Nd.cells]
 refine J0 ?_;refine bI (λ x3=>?_);refine aJ (λ x6=>?_);refine iE ?_;refine Dz ?_;refine aT (cV (hc:=λ w1 hw=>oC (n:=n) i hb hb2 (hr.gB hw.done))) (λ x13=>?_);refine aA ?_;refine aC (jB rf rfl) rfl ?_;refine aC (jB rf rfl) rfl ?_;refine J8 ?_;refine J2 ?_;refine Cz ?_
 (refine eD 18 (λ g18=>?_) (λ g18=>?_)<;>(first|refine aI ?_|(refine aF ?_;refine aA ?_)))
 all_goals (refine ti ?_;refine aH ?_)
 all_goals
 refine bB (λ c21=>?_) (λ c21=>?_)
 ·all_goals (refine J0 ?_;refine bJ ?_;refine xX ?_)
  all_goals
   refine bC Tryz.results220 (λ w hw=>?_)
   rw[show m4 n xs ys b i r=none from if_neg (by rintro ⟨k1,k4,k5⟩;clear hw;first|omega|exact absurd (H6 (by simpa using g18) k1) (by simp[k5]))];exact⟨(none,0),rfl,Nat.le_refl _,(hw.L0 none).fin⟩
 ·try exact nv c21
  all_goals
   have hc:=A9 (by simpa using g18)
   have hcv:=hc.1
   have hh:=hc.2
   obtain⟨q1,q2,_,_⟩:=rE hh
   obtain⟨k,rfl⟩:=Int.eq_ofNat_of_zero_le q1
   have hk:=Wz (hcv.bv hb hb2) (k:=k) (by omega) hh (r:=r) (by omega)
  all_goals (refine aY ?_;refine nK ?_;refine oX ?_;refine aD (cF (hc:=λ w1 hw=>by have:=Lq (w:=w1) k r (by omega) hcv hb hb2 (hr.gB hw.done);rw[hk.1,hk.2] at this;exact this)) (λ x26 h26=>?_);refine xX ?_)
  all_goals
   refine bC Tryz.results220 (λ w hw=>?_)
   rw[show m4 n xs ys b (k:Int) r=some (b,zR xs (qZ b (k:Int)) r) from if_pos ⟨hcv,by omega,hh⟩];exact⟨x26,rfl,h26,hw.fin⟩
theorem L9(i:Int)(hb:n.bm=(b:Int))(hb2:b<18446744073709551616)(hr:rF w n xs ys):Calls Tryz.prog 252 #[n.v,.int .i64 i] w (Yn w (mn n xs ys b i)):=by
 refine enter Tryz.func252 Tryz.ntmps252 rfl rfl (SF.s2 hr.br hr.pr) ?_
 simp only[bX]
 simp only[Nd.v,Nd.cells]
 refine J0 ?_;refine bI (λ x2=>?_);refine aJ (λ x4=>?_);refine iE ?_;refine Dz ?_;refine aT (cV (hc:=λ w1 hw=>oC (n:=n) i hb hb2 (hr.gB hw.done))) (λ x11=>?_);refine aA ?_;refine aC (jB rf rfl) rfl ?_;refine aC (jB rf rfl) rfl ?_;refine J8 ?_;refine J2 ?_;refine nR ?_
 refine bB (λ c15=>?_) (λ c15=>?_)
 ·refine J0 ?_;refine bJ ?_;refine xX ?_
  refine bC Tryz.results252 (λ w hw=>?_)
  rw[show mn n xs ys b i=none from if_neg (by rintro ⟨k1,k5⟩;clear hw;exact absurd (H6 c15 k1) (by simp[k5]))];exact⟨(none,0),rfl,Nat.le_refl _,(hw.L0 none).fin⟩
 ·have hc:=A9 c15
  have hcv:=hc.1
  have hh:=hc.2
  obtain⟨q1,q2,_,_⟩:=rE hh
  obtain⟨k,rfl⟩:=Int.eq_ofNat_of_zero_le q1
  have hk:=Y2 (hcv.bv hb hb2) (k:=k) (by omega) hh
  refine aY ?_;refine Dz ?_;refine aD (cF (hc:=λ w1 hw=>by have:=Lq (w:=w1) k 0 (by omega) hcv hb hb2 (hr.gB hw.done);rw[hk.1,hk.2] at this;exact this)) (λ x19 h19=>?_);refine xX ?_
  refine bC Tryz.results252 (λ w hw=>?_)
  rw[show mn n xs ys b (k:Int)=some (vY b (k:Int),rP xs (qZ b (k:Int))) from if_pos ⟨hcv,hh⟩];exact⟨x19,rfl,h19,hw.fin⟩
end
end

end Go.Proofs.YtbajmaoegmbfgaaGreat

/- Branches: what Lookup and Sole compute. -/
import Derived.Test.YtbajmaoegmbfgaaGreatGBitsE
import Derived.Test.YtbajmaoegmbfgaaGreatGAr5
import Derived.Test.YtbajmaoegmbfgaaGreatGAr8
import Derived.Test.YtbajmaoegmbfgaaGreatGPa4
import Derived.Test.YtbajmaoegmbfgaaGreatGNode3
import Derived.Test.YtbajmaoegmbfgaaGreatGJoin

set_option linter.unusedSimpArgs false
set_option linter.unusedVariables false
namespace Go.Ct
section
open Go Go.RowKit
end
end Go.Ct
namespace Go.Proofs.YtbajmaoegmbfgaaGreat
section
open Go.RowKit Go.Ct
def CV(n:Nd)(xs:List Int)(ys:List Pr):Prop:=n.kind=3/\bY n xs ys
theorem CV.bv{n:Nd}{xs:List Int}{ys:List Pr}{b:Nat}(h:CV n xs ys)(hb:n.bm=(b:Int))(hb2:b<18446744073709551616):BV b xs:=by
 obtain⟨h1,h2⟩:=tG h.1 h.2
 rw[hb,sB hb2] at h1
 exact⟨hb2,by omega,h2⟩
open Classical in
noncomputable def M7 (n:Nd) (xs:List Int) (ys:List Pr) (b:Nat) (i:Int):Option Int:=if CV n xs ys/\pS b i=true then some (xs.getD (qX b i) 0) else none
open Classical in
noncomputable def ml (n:Nd) (xs:List Int) (ys:List Pr):Option Int:=if CV n xs ys/\xs.length=1 then some (xs.getD 0 0) else none
theorem rG{b:Nat}{i:Int}(h:pS b i=true):0<=i/\i<64/\b.testBit i.toNat=true/\qX b i=gE b i.toNat:=by
 simp only[pS,Bool.and_eq_true,decide_eq_true_eq] at h
 exact⟨h.1,h.2.1,h.2.2,by unfold qX;congr 1;omega⟩
theorem aAE{b:Nat}{xs:List Int}(h:BV b xs){i:Int}(hh:pS b i=true):qX b i<xs.length:=by
 obtain⟨h1,h2,h3,h4⟩:=rG hh
 rw[h4,h.len]
 exact oK (by omega) h3
section
variable{n:Nd}{xs:List Int}{ys:List Pr}{w:World}{b:Nat}
theorem Z7(hb:n.bm=(b:Int))(hb2:b<18446744073709551616)(hr:rH w n xs ys):Calls Tryz.prog 243 #[n.v] w λ e w'=>∃r:Bool,e=.returned (.bool r)/\(r=true↔CV n xs ys)/\St w [] [] w':=by
 refine enter Tryz.func243 Tryz.ntmps243 rfl rfl (SF.s0 w) ?_
 simp only[bX]
 simp only[Nd.v,Nd.cells]
 refine J0 ?_;refine bK (λ x1=>?_);refine J1 ?_;refine hX ?_;refine mK ?_;refine aA ?_
 (refine dZ 6 (λ g6=>?_) (λ g6=>?_)<;>(first|refine aI ?_|(refine aF ?_;refine bN ?_)))
 all_goals ((first|refine aI ?_|(refine aF ?_;refine aD (c0 (V:=.bool) (hc:=λ w1 hw=>zB (n:=n) hb hb2 (hr.fZ hw.done))) (λ x8 h8=>?_)));refine cA ?_;refine J1 ?_)
 all_goals
 refine aS Tryz.results243 (λ w hw=>?_)
 refine⟨_,rfl,?_,hw.done⟩
 simp_all[CV]
theorem nU(i:Int)(hb:n.bm=(b:Int))(hb2:b<18446744073709551616)(hr:rH w n xs ys):Calls Tryz.prog 216 #[n.v,.int .i64 i] w λ e w'=>e=.returned (.tuple #[.int .i64 ((M7 n xs ys b i).getD 0),.bool (M7 n xs ys b i).isSome])/\St w [] [] w':=by
 have e1:=hr.brN
 refine enter Tryz.func216 Tryz.ntmps216 rfl rfl (SF.s2 hr.br hr.pr) ?_
 simp only[bX]
 simp only[Nd.v,Nd.cells,hb,e1]
 refine J0 ?_;refine bK (λ x2=>?_);refine J8 ?_;refine aV ?_;refine nK ?_;refine aD (c0 (V:=.bool) (hc:=λ w1 hw=>by rw[<- e1,<- hb];exact Z7 (n:=n) hb hb2 (hr.fZ hw.done))) (λ x7 h7=>?_);refine Ci ?_
 (refine dZ 9 (λ g9=>?_) (λ g9=>?_)<;>(first|refine aI ?_|(refine aF ?_;refine aE ?_)))
 all_goals (refine jd ?_;(first|refine aI ?_|(refine aF ?_;refine aT (cV (hc:=λ w1 hw=>Ic hb2 i w1)) (λ x13=>?_)));refine Nk ?_;refine aH ?_)
 all_goals
 refine bB (λ c15=>?_) (λ c15=>?_)
 ·all_goals refine Nm ?_
  all_goals
   refine bC Tryz.results216 (λ w hw=>?_)
   rw[show M7 n xs ys b i=none from if_neg (by simp_all)];exact⟨rfl,hw.done⟩
 ·try exact nv c15
  all_goals
   have hcv:CV n xs ys:=h7.1 (by simpa using g9)
   have hpl:=aAE (hcv.bv hb hb2) c15
  all_goals (refine jY ?_;refine dI [(0,[]),(1,[]),(2,[]),(3,[]),(4,[]),(5,[1]),(6,[]),(7,[]),(8,[]),(9,[])] ?_;refine kJ ?_;refine kJ ?_;refine aN ?_;refine cH (i:=5) (hq:=(cV (hc:=λ w1 hw=>Pg hb2 i w1))) (h:=λ x21=>?_);refine P8 ?_;refine Q5 ?_)
  all_goals
   refine bC Tryz.results216 (λ w hw=>?_)
   rw[show M7 n xs ys b i=some (xs.getD (qX b i) 0) from if_pos ⟨hcv,c15⟩];exact⟨rfl,hw.done⟩
theorem Kx(hb:n.bm=(b:Int))(hb2:b<18446744073709551616)(hr:rH w n xs ys):Calls Tryz.prog 245 #[n.v] w λ e w'=>e=.returned (.tuple #[.int .i64 ((ml n xs ys).getD 0),.bool (ml n xs ys).isSome])/\St w [] [] w':=by
 have e1:=hr.brN
 refine enter Tryz.func245 Tryz.ntmps245 rfl rfl (SF.s2 hr.br hr.pr) ?_
 simp only[bX]
 simp only[Nd.v,Nd.cells,e1]
 refine J0 ?_;refine bK (λ x1=>?_);refine J8 ?_;refine aV ?_;refine nK ?_;refine aD (c0 (V:=.bool) (hc:=λ w1 hw=>by rw[<- e1];exact Z7 (n:=n) hb hb2 (hr.fZ hw.done))) (λ x5 h5=>?_);refine Ci ?_
 (refine dZ 7 (λ g7=>?_) (λ g7=>?_)<;>(first|refine aI ?_|(refine aF ?_;refine aE ?_)))
 all_goals ((first|refine aI ?_|(refine aF ?_;refine bN ?_));(first|refine aI ?_|(refine aF ?_;refine dA ?_));refine Q9 ?_;refine aH ?_)
 all_goals
 refine bB (λ c12=>?_) (λ c12=>?_)
 ·all_goals refine Nm ?_
  all_goals
   refine bC Tryz.results245 (λ w hw=>?_)
   rw[show ml n xs ys=none from if_neg (by simp_all;try omega)];exact⟨rfl,hw.done⟩
 ·try exact nv c12
  all_goals
   have hcv:CV n xs ys:=h5.1 (by simpa using g7)
   have hl1:xs.length=1:=by omega
  all_goals (refine bA ?_;refine hX ?_;refine aC (dD (k:=0) rf rf fU fK fin (by omega) (by omega)) rfl ?_;refine bN ?_;refine J8 ?_)
  all_goals
   refine bC Tryz.results245 (λ w hw=>?_)
   rw[show ml n xs ys=some (xs.getD 0 0) from if_pos ⟨hcv,hl1⟩];exact⟨rfl,hw.done⟩
end
end

/- Branches: a C-node of a bitmap and a list. -/
section
open Go.RowKit Go.Ct
def cn(b:Nat)(xs:List Int)(x:Option Addr×Nat):Nd:={Nd.zero with kind:=3,bm:=(b:Int),brA:=x.1,brN:=xs.length,brC:=x.2}
theorem aAK{b:Nat}{xs:List Int}(h:BV b xs)(x:Option Addr×Nat){p:Int}(hp:0<=p):CV {cn b xs x with prev:=p} xs [] :=
 ⟨rfl,by simp[rL,Nd.own,Nd.jS,Nd.jA,cn],by simp[cn,Nd.zero],hp,by simp[cn,Nd.zero],.inr (.inr (.inl ⟨rfl,by show(xs.length:Int)=yO (b:Int);rw[sB h.lt,h.len],h.pos⟩))⟩
theorem xa{b:Nat}{xs:List Int}(h:BV b xs)(x:Option Addr×Nat):CV (cn b xs x) xs []:=aAK h x (p:=0) (Int.le_refl _)
end

/- Nodes and lists of pairs out of tapes. -/
end Go.Proofs.YtbajmaoegmbfgaaGreat
namespace Go.Ct
section
end
end Go.Ct
namespace Go.Proofs.YtbajmaoegmbfgaaGreat
section
open Go.RowKit Go.Ct
structure aBN(refs:Int)(n:Nd)(xs:List Int)(ys:List Pr):Prop where
 valid:bY n xs ys
 brN:n.brN=xs.length
 prN:n.prN=ys.length
 brC:n.brN<=n.brC
 cR:n.prN<=n.cR
 bm:∃b:Nat,n.bm=(b:Int)/\b<18446744073709551616
 xs64:xs.length<=64
 ys2:ys.length<=2
 key:n.key.size<=4
 cells:n.main=0/\n.prev=0/\n.status=0
 gen:0<=n.gen/\n.gen<=3
 kind:n.kind=2∨n.kind=3∨n.kind=4∨n.kind=5∨n.kind=6∨n.kind=8
 refs:(∀r∈xs,1<=r/\r<=refs)/\0<=n.bI/\n.bI<=refs/\0<=n.exp/\n.exp<=refs/\0<=n.new/\n.new<=refs
end

/- Tombs: Untombed, Contracted, Grown, Shrunk: both sides. -/
section
open Go.RowKit Go.Ct
def tmb(s:Nd):Nd:={Nd.zero with kind:=5,hash:=s.hash,key:=s.key,val:=s.val}
def Gk(n:Nd):Nd:=if n.kind=5 then{Nd.zero with kind:=4,hash:=n.hash,key:=n.key,val:=n.val} else Nd.zero
theorem I3(n:Nd)(w:World):Calls Tryz.prog 219 #[n.v] w λ e w'=>e=.returned (.tuple #[(Gk n).v,.bool (decide (n.kind=5))])/\St w [] [] w':=by
 refine enter Tryz.func219 Tryz.ntmps219 rfl rfl (SF.s0 w) ?_
 simp only[bX]
 simp only[Nd.v,Nd.cells]
 refine J0 ?_;refine bK (λ x1=>?_);refine aJ (λ x2=>?_);refine hZ ?_;refine hX ?_;refine lO ?_;refine aH ?_
 refine bB (λ c6=>?_) (λ c6=>?_)
 ·refine J0 ?_;refine bJ ?_;refine xA ?_
  refine bC Tryz.results219 (λ w hw=>?_)
  exact⟨by rw[show Gk n=Nd.zero from if_neg (by assumption),decide_eq_false (by assumption)];rfl,hw.done⟩
 ·refine bA ?_;refine hX ?_;refine J3 ?_;refine J3 ?_;refine bJ ?_;refine xA ?_
  refine bC Tryz.results219 (λ w hw=>?_)
  exact⟨by rw[show Gk n={Nd.zero with kind:=4,hash:=n.hash,key:=n.key,val:=n.val} from if_pos (by omega),decide_eq_true (by omega)];rfl,hw.done⟩
section
variable{n s:Nd}{xs:List Int}{ys:List Pr}{w:World}{b:Nat}
def LV(n:Nd)(xs:List Int)(ys:List Pr):Prop:=n.kind=6/\bY n xs ys
theorem Qn(hb:n.bm=(b:Int))(hb2:b<18446744073709551616)(hr:rH w n xs ys):Calls Tryz.prog 255 #[n.v] w λ e w'=>∃r:Bool,e=.returned (.bool r)/\(r=true↔LV n xs ys)/\St w [] [] w':=by
 refine enter Tryz.func255 Tryz.ntmps255 rfl rfl (SF.s0 w) ?_
 simp only[bX]
 simp only[Nd.v,Nd.cells]
 refine J0 ?_;refine bK (λ x1=>?_);refine J1 ?_;refine hX ?_;refine mK ?_;refine aA ?_
 (refine dZ 6 (λ g6=>?_) (λ g6=>?_)<;>(first|refine aI ?_|(refine aF ?_;refine bN ?_)))
 all_goals ((first|refine aI ?_|(refine aF ?_;refine aD (c0 (V:=.bool) (hc:=λ w1 hw=>zB (n:=n) hb hb2 (hr.fZ hw.done))) (λ x8 h8=>?_)));refine cA ?_;refine J1 ?_)
 all_goals
 refine aS Tryz.results255 (λ w hw=>?_)
 refine⟨_,rfl,?_,hw.done⟩
 simp_all[LV]
open Classical in
noncomputable def Sl (n:Nd) (xs:List Int) (ys:List Pr) (level:Int) (s:Nd):Bool:=decide ((ml n xs ys).isSome=true/\0<level/\s.kind=4)
def u7(t:Bool)(n s:Nd):Nd:=if t=true then tmb s else n
def mu{α:Type}(t:Bool)(l:List α):List α:=if t=true then [] else l
theorem Dt(level:Int)(s:Nd)(hb:n.bm=(b:Int))(hb2:b<18446744073709551616)(hr:rH w n xs ys):Calls Tryz.prog 221 #[n.v,.int .i64 level,s.v] w λ e w'=>e=.returned (u7 (Sl n xs ys level s) n s).v/\St w [] [] w':=by
 refine enter Tryz.func221 Tryz.ntmps221 rfl rfl (SF.s0 w) ?_
 simp only[bX]
 simp only[Nd.v,Nd.cells]
 refine J0 ?_;refine bK (λ x3=>?_);refine bK (λ x5=>?_);refine aJ (λ x6=>?_);refine Ra ?_;refine nK ?_;refine aT (cV (hc:=λ w1 hw=>Kx (n:=n) hb hb2 (hr.fZ hw.done))) (λ x11=>?_);refine aA ?_;refine aC (bO rf rfl) rfl ?_;refine aC (bO rf rfl) rfl ?_;refine J8 ?_;refine iU ?_
 (refine dZ 15 (λ g15=>?_) (λ g15=>?_)<;>(first|refine aI ?_|(refine aF ?_;refine aA ?_)))
 all_goals (refine Ae ?_;refine aA ?_)
 all_goals (first|refine aI ?_|(refine dZ 19 (λ g19=>?_) (λ g19=>?_)<;>(first|refine aI ?_|(refine aF ?_;refine aE ?_))))
 all_goals (refine zr ?_;refine aH ?_)
 all_goals
 refine bB (λ c23=>?_) (λ c23=>?_)
 ·try exact nv c23
  all_goals (refine hX ?_;refine J3 ?_;refine J3 ?_;refine wG ?_)
  all_goals
   refine bC Tryz.results221 (λ w hw=>?_)
   rw[show Sl n xs ys level s=true from decide_eq_true ⟨by assumption,by omega,by omega⟩];exact⟨rfl,hw.done⟩
 ·all_goals (refine bA ?_;refine nK ?_;refine J5 ?_)
  all_goals
   refine bC Tryz.results221 (λ w hw=>?_)
   rw[show Sl n xs ys level s=false from decide_eq_false (by rintro ⟨t1,t2,t3⟩;first|omega|(clear hw;simp_all;done))];exact⟨rfl,hw.done⟩
end
end

/- Tombs: Grown, Shrunk: both sides; agrees. -/
section
open Go.RowKit Go.Ct
def j5(o:Option (List Pr))(h:Int)(x:Option Addr×Nat):Nd:=match o with|some m=>{Nd.zero with kind:=6,hash:=h,prA:=x.1,prN:=m.length,cR:=x.2}|none=>Nd.zero
def Zg(o:Option (List Pr)):List Pr:=o.getD []
def M9(o:Option (List Pr))(h:Int)(x:Option Addr×Nat):Nd:=match o with|some m=>if m.length=1 then{Nd.zero with kind:=5,hash:=h,key:=(m.getD 0 (⟨#[]⟩,0)).1,val:=(m.getD 0 (⟨#[]⟩,0)).2} else{Nd.zero with kind:=6,hash:=h,prA:=x.1,prN:=m.length,cR:=x.2}|none=>Nd.zero
def Im(o:Option (List Pr)):List Pr:=match o with|some m=>if m.length=1 then [] else m|none=>[]
open Classical in
noncomputable def kN (n:Nd) (xs:List Int) (ys:List Pr) (k:ByteArray) (v:Int):Option (List Pr):=if LV n xs ys/\k.size<=64 then some (Nt ys k v) else none
open Classical in
noncomputable def pV (n:Nd) (xs:List Int) (ys:List Pr) (k:ByteArray):Option (List Pr):=if LV n xs ys/\(dO ys k).isSome=true then some (rT ys k) else none
def aAg(w:World)(o:Option (List Pr))(h:Int)(e:Ending)(w':World):Prop:=∃x:Option Addr×Nat,e=.returned (.tuple #[(j5 o h x).v,.bool o.isSome])/\(Zg o).length<=x.2/\SF w [] [] [] [(x.1,cR (Zg o))] [] w'
def aBI(w:World)(o:Option (List Pr))(h:Int)(e:Ending)(w':World):Prop:=∃x:Option Addr×Nat,e=.returned (.tuple #[(M9 o h x).v,.bool o.isSome])/\(Im o).length<=x.2/\SF w [] [] [] [(x.1,cR (Im o))] [] w'
section
variable{n s:Nd}{xs:List Int}{ys:List Pr}{w:World}{b:Nat}
theorem Td(k:ByteArray)(v:Int)(hb:n.bm=(b:Int))(hb2:b<18446744073709551616)(hr:rH w n xs ys)(hy:ys.length<=150000000000):Calls Tryz.prog 247 #[n.v,.string k,.int .u64 v] w (aAg w (kN n xs ys k v) n.hash):=by
 have e2:=hr.prN
 refine enter Tryz.func247 Tryz.ntmps247 rfl rfl (SF.s1 hr.pr) ?_
 simp only[bX]
 simp only[Nd.v,Nd.cells,e2]
 refine J0 ?_;refine bK (λ x3=>?_);refine aJ (λ x6=>?_);refine hZ ?_;refine nK ?_;refine aD (c0 (V:=.bool) (hc:=λ w1 hw=>by rw[<- e2];exact Qn (n:=n) hb hb2 (hr.fZ hw.done))) (λ x9 h9=>?_);refine Ci ?_
 (refine dZ 11 (λ g11=>?_) (λ g11=>?_)<;>(first|refine aI ?_|(refine aF ?_;refine aA ?_)))
 all_goals ((first|refine aI ?_|(refine aF ?_;refine mD ?_));refine Ae ?_;refine aH ?_)
 all_goals
 refine bB (λ c15=>?_) (λ c15=>?_)
 ·all_goals (refine J0 ?_;refine bJ ?_;refine xA ?_)
  all_goals
   refine bC Tryz.results247 (λ w hw=>?_)
   rw[show kN n xs ys k v=none from if_neg (by rintro ⟨t1,t2⟩;have:=h9.2 t1;clear hw;first|omega|(simp_all;done))];exact⟨(none,0),rfl,Nat.le_refl _,(hw.Md none).fin⟩
 ·try exact nv c15
  all_goals (refine jY ?_;refine dI [(0,[]),(1,[]),(2,[]),(3,[]),(4,[]),(5,[]),(6,[1]),(7,[]),(8,[]),(9,[])] ?_;refine kJ ?_;refine kJ ?_;refine iH ?_;refine aZ (i:=6) (hq:=(cF (hc:=λ w1 hw=>ig (l:=ys) k v (hw.cl fin) (by omega)))) (h:=λ x23 h23=>?_);refine gH ?_;refine Bh ?_)
  all_goals
   refine bC Tryz.results247 (λ w hw=>?_)
   rw[show kN n xs ys k v=some (Nt ys k v) from if_pos ⟨h9.1 (by clear hw;simp_all),by omega⟩];exact⟨x23,rfl,h23,hw.fin⟩
theorem Oz(k:ByteArray)(hb:n.bm=(b:Int))(hb2:b<18446744073709551616)(hr:rH w n xs ys)(hy:ys.length<=150000000000):Calls Tryz.prog 251 #[n.v,.string k] w (aBI w (pV n xs ys k) n.hash):=by
 have e2:=hr.prN
 refine enter Tryz.func251 Tryz.ntmps251 rfl rfl (SF.s1 hr.pr) ?_
 simp only[bX]
 simp only[Nd.v,Nd.cells,e2]
 refine J0 ?_;refine bK (λ x2=>?_);refine aJ (λ x4=>?_);refine hZ ?_;refine hX ?_;refine aA ?_;refine aT (cV (hc:=λ w1 hw=>Jm (l:=ys) k (hw.cl fin) (by omega))) (λ x13=>?_);refine aA ?_;refine aC (bO rf rfl) rfl ?_;refine aC (bO rf rfl) rfl ?_;refine J8 ?_;refine nK ?_;refine aD (c0 (V:=.bool) (hc:=λ w1 hw=>by rw[<- e2];exact Qn (n:=n) hb hb2 (hr.fZ hw.done))) (λ x17 h17=>?_);refine Ci ?_
 (refine dZ 19 (λ g19=>?_) (λ g19=>?_)<;>(first|refine aI ?_|(refine aF ?_;refine aA ?_)))
 all_goals (refine Nk ?_;refine aH ?_)
 all_goals
 refine bB (λ c22=>?_) (λ c22=>?_)
 ·all_goals (refine J0 ?_;refine bJ ?_;refine xA ?_)
  all_goals
   refine bC Tryz.results251 (λ w hw=>?_)
   rw[show pV n xs ys k=none from if_neg (by rintro ⟨t1,t2⟩;have:=h17.2 t1;clear hw;simp_all)];exact⟨(none,0),rfl,Nat.le_refl _,(hw.Md none).fin⟩
 ·try exact nv c22
  all_goals (refine bA ?_;refine hX ?_;refine aA ?_;refine aD (cF (hc:=λ w1 hw=>Yb (l:=ys) k (hw.cl fin) (by omega))) (λ x27 h27=>?_);refine hZ ?_;refine J2 ?_;refine dA ?_;refine uB ?_)
  all_goals
   refine bB (λ c30=>?_) (λ c30=>?_)
   ·refine aV ?_;refine gF [0,1,2,3,4,5,6,7,8,9,10,11,12] ?_;refine kJ ?_;refine aN ?_;refine bQ (i:=3) (hq:=(Gn (k:=0) rf rf fU eA fin (by omega) (by omega))) (h:=?_);refine kJ ?_;refine aN ?_;refine bQ (i:=7) (hq:=(Gn (k:=0) rf rf fU eA fin (by omega) (by omega))) (h:=?_);refine aR ?_;refine bQ (i:=9) (hq:=(Qe (q:=0) (lst:=rT ys k) rf fK fin (by omega))) (h:=?_);refine gH ?_;refine Bh ?_
    refine bC Tryz.results251 (λ w hw=>?_)
    have e1:(rT ys k).length=1:=by omega
    rw[show pV n xs ys k=some (rT ys k) from if_pos ⟨h17.1 (by clear hw;simp_all),by clear hw;simp_all⟩];exact⟨(none,0),by simp only[M9,if_pos e1];rfl,by simp only[Im,if_pos e1];exact Nat.le_refl _,by simp only[Im,if_pos e1];exact(hw.Md none).fin⟩
   ·refine bA ?_;refine hX ?_;refine aA ?_;refine bJ ?_;refine xA ?_
    refine bC Tryz.results251 (λ w hw=>?_)
    have e1:¬(rT ys k).length=1:=by omega
    rw[show pV n xs ys k=some (rT ys k) from if_pos ⟨h17.1 (by clear hw;simp_all),by clear hw;simp_all⟩];exact⟨x27,by simp only[M9,if_neg e1];rfl,by simp only[Im,if_neg e1];exact h27,by simp only[Im,if_neg e1];exact hw.fin⟩
end
end

/- Branches: lists of lists, joined; the C-node of them. -/
end Go.Proofs.YtbajmaoegmbfgaaGreat
namespace Go.Ct
section
open Go Go.RowKit
section
variable{P:Program}{n:Nat}{S:List (Nat×Value)}
variable{w0 w w':World}{M:List Nat}{H H':List (Nat×Obj)}{A F F':Fr}{O O':List Ow}{G:World->Prop}
variable{d:Nat}{ty:TypeId}{pos:String}{af:Array Edge}{gd:Option (Nat×Bool)}{dst:Option Nat}{x y z:Operand}{t t2 e:TypeId}{p a:Option Addr}{i m k c c2:Nat}
end
end
end Go.Ct
namespace Go.Proofs.YtbajmaoegmbfgaaGreat
section
open Go Go.RowKit Go.Ct
end

/- Branches: Inserted, Updated, Removed. -/
section
open Go.RowKit Go.Ct
open Classical in
noncomputable def m7 (n:Nd) (xs:List Int) (ys:List Pr) (b:Nat) (i r:Int):Option (Nat×List Int):=if CV n xs ys/\(0<=i/\i<64)/\1<=r/\pS b i=false then some (dL b i,vU xs (qX b i) r) else none
open Classical in
noncomputable def mz (n:Nd) (xs:List Int) (ys:List Pr) (b:Nat) (i r:Int):Option (Nat×List Int):=if CV n xs ys/\1<=r/\pS b i=true then some (b,zN xs (qX b i) r) else none
open Classical in
noncomputable def mx (n:Nd) (xs:List Int) (ys:List Pr) (b:Nat) (i:Int):Option (Nat×List Int):=if CV n xs ys/\pS b i=true then some (wR b i,rO xs (qX b i)) else none
def mM(o:Option (Nat×List Int))(x:Option Addr×Nat):Nd:=match o with|some q=>cn q.1 q.2 x|none=>Nd.zero
def mC(o:Option (Nat×List Int)):List Int:=match o with|some q=>q.2|none=>[]
def Xn(w:World)(o:Option (Nat×List Int))(e:Ending)(w':World):Prop:=∃x:Option Addr×Nat,e=.returned (.tuple #[(mM o x).v,.bool o.isSome])/\(mC o).length<=x.2/\SF w [] [] [] [(x.1,aG (mC o))] [] w'
section
variable{n:Nd}{xs:List Int}{ys:List Pr}{w:World}{b:Nat}
end
end

/- Branches: the reference's build, Inserted, Updated, Removed. -/
section
open Go.RowKit Go.Ct
def gQ(b:Nat)(xs:List Int)(i:Nat)(r:Int):Nat->Option Int:=Ng (qW b xs) i (if 0<r then some r else none)
theorem nN{m:Nat->Option Int}{k:Nat}{v:Int}(h:m k=some v)(hk:k<64):dL (Bi m k) (k:Int)=Bi m (k+1)/\pJ m k++[v]=pJ m (k+1):=by
 simp only[Bi,pJ,h,dL,Option.isSome_some,if_true,Option.toList,Int.toNat_natCast,and_true]
 exact if_pos (by omega)
theorem nZ{m:Nat->Option Int}{k:Nat}(h:m k=none):Bi m k=Bi m (k+1)/\pJ m k=pJ m (k+1):=by
 simp[Bi,pJ,h]
theorem Ah(m:Nat->Option Int){k:Nat}(hk:k<=64):Bi m k<18446744073709551616:=Nat.lt_of_lt_of_le (lr m k) (Nat.pow_le_pow_right (n:=2) (by decide) hk)
theorem Vl(m:Nat->Option Int):∀k,(pJ m k).length<=k
 | 0=>Nat.le_refl _
 | k+1=>by have:=Vl m k;simp only[pJ,List.length_append];cases m k<;>simp<;>omega
section
variable{n:Nd}{xs:List Int}{ys:List Pr}{w:World}{b:Nat}
theorem Vr(hcv:CV n xs ys){k:Nat}(hk:k<64):M7 n xs ys b (k:Int)=qW b xs k:=by
 unfold M7 qW
 have h1:pS b (k:Int)=b.testBit k:=by rw[tE b (by omega) (by omega),Int.toNat_natCast]
 have h2:qX b (k:Int)=gE b k:=by unfold qX;rw[Int.toNat_natCast,Nat.min_eq_left (by omega)]
 rw[h1,h2]
 by_cases h:b.testBit k=true<;>simp[h,hcv]
theorem Ep{i k:Nat}{r:Int}(hcv:CV n xs ys)(hk:k<64)(h:(k:Int)≠(i:Int)):gQ b xs i r k=M7 n xs ys b (k:Int):=by
 rw[Vr hcv hk]
 exact if_neg (by omega)
theorem Ei{i k:Nat}{r:Int}(h:(k:Int)=(i:Int)):gQ b xs i r k=if 0<r then some r else none:=if_pos (by omega)
theorem Vw{o:Option Int}(h:o.isSome=true):o=some (o.getD 0):=by cases o<;>simp_all
theorem Wr{o:Option Int}(h:o.isSome=false):o=none:=by cases o<;>simp_all
set_option maxHeartbeats 800000 in
theorem Mr(i:Nat)(r:Int)(_hi:i<64)(hcv:CV n xs ys)(hb:n.bm=(b:Int))(hb2:b<18446744073709551616)(hr:rH w n xs ys) :
    Calls Tryz.prog 244 #[n.v,.int .i64 (i:Int),.int .i64 r] w λ e w'=>∃x:Option Addr×Nat,e=.returned (cn (Bi (gQ b xs i r) 64) (pJ (gQ b xs i r) 64) x).v/\(pJ (gQ b xs i r) 64).length<=x.2/\SF w [] [] [] [(x.1,aG (pJ (gQ b xs i r) 64))] [] w':=by
  have e1:=hr.brN
  refine enter Tryz.func244 Tryz.ntmps244 rfl rfl (SF.s2 hr.br hr.pr) ?_
  simp only[bX]
  simp only[Nd.v,Nd.cells]
  refine J0 ?_;refine bK (λ x3=>?_);refine aJ (λ x6=>?_);refine aH ?_;refine J0 ?_;refine bJ ?_;refine aJ (λ x7=>?_);refine J5 ?_;refine aV ?_;refine Dd ?_
  refine mV [8,9,10,12,13,14,15,16,17,18,19,20,21,22,23,24,25,26,27,28,29,30,31,32,33,34,35,36,37,38,39] (λ y:Nat×Option Addr×Nat=>[(8,.int .i64 ((y.1:Nat):Int))]) (λ y=>y.1<=64/\(pJ (gQ b xs i r) y.1).length<=y.2.2) (λ y=>[(x7,.cells ⟨[.int .i64 3,.int .i64 0,.int .i64 0,.int .u64 ((Bi (gQ b xs i r) y.1:Nat):Int),.slice y.2.1 (pJ (gQ b xs i r) y.1).length y.2.2,.int .u64 0,.string ⟨#[]⟩,.int .u64 0,.slice none 0 0,.int .i64 0,.int .i64 0,.int .i64 0,.int .i64 0,.int .i64 0]⟩ 47),(x6,.cells ⟨Nd.zero.cells⟩ 47),(x3,.cells ⟨n.cells⟩ 47)]) (λ _=>_) (λ y=>[⟨y.2.1,aG (pJ (gQ b xs i r) y.1),y.2.2,37,1⟩]) (λ y=>64-y.1) ((0,none,0)) (⟨Nat.zero_le _,Nat.le_refl _⟩) (λ y f hx=>?_) (hw0:=λ w hw=>(hw.kI 37 1).back)
  dsimp only[gX,List.map,List.cons_append,List.nil_append]
  have hll:=Vl (gQ b xs i r) y.1
  refine jV ?_;refine wT ?_
  refine bB (λ c13=>?_) (λ c13=>?_)
  · refine qB ?_;refine Dv ?_;refine aT (cV (hc:=λ w1 hw=>nU (n:=n) (y.1:Int) hb hb2 (hr.fZ hw.done))) (λ x19=>?_);refine aA ?_;refine aC (jB rf rfl) rfl ?_;refine aC (jB rf rfl) rfl ?_;refine J8 ?_;refine Cz ?_;refine uB ?_
    refine bB (λ c24=>?_) (λ c24=>?_)
    · refine Io ?_;refine Cx ?_;refine J8 ?_;refine J2 ?_;refine aH ?_
      refine bB (λ c28=>?_) (λ c28=>?_)
      · first
         | have hm:gQ b xs i r y.1=some r:=by rw[Ei c24,if_pos (by omega)]
         | have hm:gQ b xs i r y.1=some ((M7 n xs ys b (y.1:Int)).getD 0):=by rw[Ep hcv (by omega) c24];exact Vw c28
        refine eF [29,30,31,32,33,34,35,36,37,38,39] (λ z:Nat×Option Addr×Nat=>[]) (λ z=>(pJ (gQ b xs i r) y.1).length+1<=z.2.2) (λ z=>[(x7,.cells ⟨[.int .i64 3,.int .i64 0,.int .i64 0,.int .u64 ((Bi (gQ b xs i r) (y.1+1):Nat):Int),.slice z.2.1 (pJ (gQ b xs i r) (y.1+1)).length z.2.2,.int .u64 0,.string ⟨#[]⟩,.int .u64 0,.slice none 0 0,.int .i64 0,.int .i64 0,.int .i64 0,.int .i64 0,.int .i64 0]⟩ 47),(x6,.cells ⟨Nd.zero.cells⟩ 47),(x3,.cells ⟨n.cells⟩ 47)]) (λ z=>[]) (λ z=>[⟨z.2.1,aG (pJ (gQ b xs i r) (y.1+1)),z.2.2,37,1⟩]) (by decide) (λ _=>by exact rfl) ?_ (λ z f hx=>?_)
        · refine fW (.one 0 [] (.one 1 [] (.one 2 [] (.one 4 [] (.one 5 [] (.one 6 [] (.two 3 [5] (.one 9 [] (.one 7 [1,5] (.one 8 [] (.one 10 [] (.one 11 [] (.one 12 [] .nil)))))) 0 [] (.two 7 [1,5] (.one 3 [5] (.one 9 [] (.one 8 [] (.one 10 [] (.one 11 [] (.one 12 [] .nil)))))) 0 [] .nil)))))))) ?_
          refine kJ ?_;refine aN ?_;refine kJ ?_;refine aN ?_
          refine gK (E:=[3,7]) (by decide +kernel) ((.cons ?_ (.cons ?_ .nil)))
          · refine Ke (i:=3) (hq:=(cV (hc:=λ w1 hw=>mX (Ah (gQ b xs i r) (k:=y.1) (by omega)) (y.1:Int) w1))) (h:=λ x32=>?_)
            refine aR ?_;refine bV (h:=λ x36=>?_);((refine mF (h:=λ x37=>?_);try (refine dY (λ h37=>?_))));refine Sk ?_;refine yE ?_
            refine eW ((0,x37)) ?_ (hw1:=λ w hw=>by obtain⟨k1,k2⟩:=nN hm (by omega);rw[k1,show(pJ (gQ b xs i r) y.1).length+1=(pJ (gQ b xs i r) (y.1+1)).length by rw[<- k2];simp,k2] at hw;exact hw.back)
            · exact h37
          · refine mJ (i:=7) (h:=λ x36=>?_)
            refine cH (i:=3) (hq:=(cV (hc:=λ w1 hw=>mX (Ah (gQ b xs i r) (k:=y.1) (by omega)) (y.1:Int) w1))) (h:=λ x32=>?_);refine aR ?_;((refine mF (h:=λ x37=>?_);try (refine dY (λ h37=>?_))));refine Sk ?_;refine yE ?_
            refine eW ((0,x37)) ?_ (hw1:=λ w hw=>by obtain⟨k1,k2⟩:=nN hm (by omega);rw[k1,show(pJ (gQ b xs i r) y.1).length+1=(pJ (gQ b xs i r) (y.1+1)).length by rw[<- k2];simp,k2] at hw;exact hw.back)
            · exact h37
        dsimp only[gX,List.map,List.cons_append,List.nil_append]
        refine fH ?_;refine uJ ?_
        refine iP ((by exact(y.1+1,z.2))) ?_ (hw1:=λ w hw=>by exact hw.back)
        · first
           | exact⟨by omega,by have k2:=(nN hm (by omega)).2;simp only[];rw[<- k2,List.length_append];exact hx⟩
           | exact⟨by omega,by simp only[];rw[<- (nZ hm).2];exact hx.2⟩
      · have hm:gQ b xs i r y.1=none:=by
         first
          | (rw[Ei c24,if_neg (by omega)];done)
          | (rw[Ep hcv (by omega) c24];exact Wr c28)
        refine nT ?_;refine uJ ?_
        refine iP ((by exact(y.1+1,y.2))) ?_ (hw1:=λ w hw=>by(rw[(nZ hm).1,(nZ hm).2] at hw;exact hw.back))
        · first
           | exact⟨by omega,by have k2:=(nN hm (by omega)).2;simp only[];rw[<- k2,List.length_append];exact hx⟩
           | exact⟨by omega,by simp only[];rw[<- (nZ hm).2];exact hx.2⟩
    · refine bA ?_;refine J2 ?_;refine aH ?_
      refine bB (λ c28=>?_) (λ c28=>?_)
      · first
         | have hm:gQ b xs i r y.1=some r:=by rw[Ei c24,if_pos (by omega)]
         | have hm:gQ b xs i r y.1=some ((M7 n xs ys b (y.1:Int)).getD 0):=by rw[Ep hcv (by omega) c24];exact Vw c28
        refine eF [29,30,31,32,33,34,35,36,37,38,39] (λ z:Nat×Option Addr×Nat=>[]) (λ z=>(pJ (gQ b xs i r) y.1).length+1<=z.2.2) (λ z=>[(x7,.cells ⟨[.int .i64 3,.int .i64 0,.int .i64 0,.int .u64 ((Bi (gQ b xs i r) (y.1+1):Nat):Int),.slice z.2.1 (pJ (gQ b xs i r) (y.1+1)).length z.2.2,.int .u64 0,.string ⟨#[]⟩,.int .u64 0,.slice none 0 0,.int .i64 0,.int .i64 0,.int .i64 0,.int .i64 0,.int .i64 0]⟩ 47),(x6,.cells ⟨Nd.zero.cells⟩ 47),(x3,.cells ⟨n.cells⟩ 47)]) (λ z=>[]) (λ z=>[⟨z.2.1,aG (pJ (gQ b xs i r) (y.1+1)),z.2.2,37,1⟩]) (by decide) (λ _=>by exact rfl) ?_ (λ z f hx=>?_)
        · refine fW (.one 0 [] (.one 1 [] (.one 2 [] (.one 4 [] (.one 5 [] (.one 6 [] (.two 3 [5] (.one 9 [] (.one 7 [1,5] (.one 8 [] (.one 10 [] (.one 11 [] (.one 12 [] .nil)))))) 0 [] (.two 7 [1,5] (.one 3 [5] (.one 9 [] (.one 8 [] (.one 10 [] (.one 11 [] (.one 12 [] .nil)))))) 0 [] .nil)))))))) ?_
          refine kJ ?_;refine aN ?_;refine kJ ?_;refine aN ?_
          refine gK (E:=[3,7]) (by decide +kernel) ((.cons ?_ (.cons ?_ .nil)))
          · refine Ke (i:=3) (hq:=(cV (hc:=λ w1 hw=>mX (Ah (gQ b xs i r) (k:=y.1) (by omega)) (y.1:Int) w1))) (h:=λ x32=>?_)
            refine aR ?_;refine bV (h:=λ x36=>?_);((refine mF (h:=λ x37=>?_);try (refine dY (λ h37=>?_))));refine Sk ?_;refine yE ?_
            refine eW ((0,x37)) ?_ (hw1:=λ w hw=>by obtain⟨k1,k2⟩:=nN hm (by omega);rw[k1,show(pJ (gQ b xs i r) y.1).length+1=(pJ (gQ b xs i r) (y.1+1)).length by rw[<- k2];simp,k2] at hw;exact hw.back)
            · exact h37
          · refine mJ (i:=7) (h:=λ x36=>?_)
            refine cH (i:=3) (hq:=(cV (hc:=λ w1 hw=>mX (Ah (gQ b xs i r) (k:=y.1) (by omega)) (y.1:Int) w1))) (h:=λ x32=>?_);refine aR ?_;((refine mF (h:=λ x37=>?_);try (refine dY (λ h37=>?_))));refine Sk ?_;refine yE ?_
            refine eW ((0,x37)) ?_ (hw1:=λ w hw=>by obtain⟨k1,k2⟩:=nN hm (by omega);rw[k1,show(pJ (gQ b xs i r) y.1).length+1=(pJ (gQ b xs i r) (y.1+1)).length by rw[<- k2];simp,k2] at hw;exact hw.back)
            · exact h37
        dsimp only[gX,List.map,List.cons_append,List.nil_append]
        refine fH ?_;refine uJ ?_
        refine iP ((by exact(y.1+1,z.2))) ?_ (hw1:=λ w hw=>by exact hw.back)
        · first
           | exact⟨by omega,by have k2:=(nN hm (by omega)).2;simp only[];rw[<- k2,List.length_append];exact hx⟩
           | exact⟨by omega,by simp only[];rw[<- (nZ hm).2];exact hx.2⟩
      · have hm:gQ b xs i r y.1=none:=by
         first
          | (rw[Ei c24,if_neg (by omega)];done)
          | (rw[Ep hcv (by omega) c24];exact Wr c28)
        refine nT ?_;refine uJ ?_
        refine iP ((by exact(y.1+1,y.2))) ?_ (hw1:=λ w hw=>by(rw[(nZ hm).1,(nZ hm).2] at hw;exact hw.back))
        · first
           | exact⟨by omega,by have k2:=(nN hm (by omega)).2;simp only[];rw[<- k2,List.length_append];exact hx⟩
           | exact⟨by omega,by simp only[];rw[<- (nZ hm).2];exact hx.2⟩
  · refine bM rfl ?_;refine nK ?_;refine J5 ?_
    refine bC Tryz.results244 (λ w hw=>?_)
    have hy:y.1=64:=by omega
    rw[hy] at hw hx ⊢
    generalize Bi (gQ b xs i r) 64=B at hw ⊢
    generalize pJ (gQ b xs i r) 64=L at hw hx ⊢
    exact⟨y.2,rfl,hx.2,SF.frz hw.aU⟩
end
end

/- Branches: the reference's Inserted, Updated, Removed. -/
section
open Go.RowKit Go.Ct
theorem of_eq{m:Nat->Option Int}{b:Nat}{xs:List Int}(h:BV b xs/\∀k,k<64->qW b xs k=m k):Bi m 64=b/\pJ m 64=xs:=by
 obtain⟨h1,h2⟩:=Od 64 λ k hk=>(h.2 k hk).symm
 obtain⟨h3,h4⟩:=Rn h.1
 exact⟨h1.trans h3,h2.trans h4⟩
theorem oY{k:Nat}(b:Nat)(hk:k<64):dL b (k:Int)=b ||| 2^k:=by
 unfold dL;rw[if_pos (by omega),Int.toNat_natCast]
theorem sI{k:Nat}(b:Nat)(hk:k<64):wR b (k:Int)=b ^^^ (b &&& 2^k):=by
 unfold wR;rw[if_pos (by omega),Int.toNat_natCast]
theorem oD{k:Nat}(b:Nat)(hk:k<64):qX b (k:Int)=gE b k:=by
 unfold qX;rw[Int.toNat_natCast,Nat.min_eq_left (by omega)]
theorem pK{k:Nat}(b:Nat)(hk:k<64):pS b (k:Int)=b.testBit k:=by
 rw[tE b (by omega) (by omega),Int.toNat_natCast]
theorem Ym{b k:Nat}{xs:List Int}{r:Int}(h:BV b xs)(hk:k<64)(hb:pS b (k:Int)=false)(hr:1<=r):Bi (gQ b xs k r) 64=dL b (k:Int)/\pJ (gQ b xs k r) 64=vU xs (qX b (k:Int)) r:=by
 rw[pK b hk] at hb
 rw[oY b hk,oD b hk]
 unfold gQ
 rw[if_pos (by omega)]
 exact of_eq (H3 h hk hb hr)
theorem W4{b k:Nat}{xs:List Int}{r:Int}(h:BV b xs)(hk:k<64)(hb:pS b (k:Int)=true)(hr:1<=r):Bi (gQ b xs k r) 64=b/\pJ (gQ b xs k r) 64=zN xs (qX b (k:Int)) r:=by
 rw[pK b hk] at hb
 rw[oD b hk]
 unfold gQ
 rw[if_pos (by omega)]
 exact of_eq (Sd h hk hb hr)
theorem Y4{b k:Nat}{xs:List Int}(h:BV b xs)(hk:k<64)(hb:pS b (k:Int)=true):Bi (gQ b xs k 0) 64=wR b (k:Int)/\pJ (gQ b xs k 0) 64=rO xs (qX b (k:Int)):=by
 rw[pK b hk] at hb
 rw[sI b hk,oD b hk]
 unfold gQ
 rw[if_neg (by omega)]
 exact of_eq (S9 h hk hb)
section
variable{n:Nd}{xs:List Int}{ys:List Pr}{w:World}{b:Nat}
theorem Am{i:Int}(h:(M7 n xs ys b i).isSome=true):CV n xs ys/\pS b i=true:=by
 unfold M7 at h
 split at h
 ·assumption
 ·cases h
theorem Ha{i:Int}(h:(M7 n xs ys b i).isSome=false)(hcv:CV n xs ys):pS b i=false:=by
 unfold M7 at h
 split at h
 ·cases h
 ·rename_i hn
  cases hh:pS b i with
  | false=>rfl
  | true=>exact absurd ⟨hcv,hh⟩ hn
theorem I4(i r:Int)(hb:n.bm=(b:Int))(hb2:b<18446744073709551616)(hr:rH w n xs ys):Calls Tryz.prog 249 #[n.v,.int .i64 i,.int .i64 r] w (Xn w (m7 n xs ys b i r)):=by
 refine enter Tryz.func249 Tryz.ntmps249 rfl rfl (SF.s2 hr.br hr.pr) ?_
 simp only[bX]
 simp only[Nd.v,Nd.cells]
 refine J0 ?_;refine bK (λ x3=>?_);refine aJ (λ x6=>?_);refine hZ ?_;refine Dv ?_;refine aT (cV (hc:=λ w1 hw=>nU (n:=n) i hb hb2 (hr.fZ hw.done))) (λ x13=>?_);refine aA ?_;refine aC (jB rf rfl) rfl ?_;refine aC (jB rf rfl) rfl ?_;refine J8 ?_;refine nK ?_;refine aD (c0 (V:=.bool) (hc:=λ w1 hw=>Z7 (n:=n) hb hb2 (hr.fZ hw.done))) (λ x17 h17=>?_);refine Ci ?_
 (refine dZ 19 (λ g19=>?_) (λ g19=>?_)<;>(first|refine aI ?_|(refine aF ?_;refine aA ?_)))
 all_goals (refine cA ?_;refine aA ?_)
 all_goals (first|refine aI ?_|(refine dZ 22 (λ g22=>?_) (λ g22=>?_)<;>(first|refine aI ?_|(refine aF ?_;refine aA ?_))))
 all_goals (refine uo ?_;refine aA ?_)
 all_goals (first|refine aI ?_|(refine dZ 26 (λ g26=>?_) (λ g26=>?_)<;>(first|refine aI ?_|(refine aF ?_;refine aA ?_))))
 all_goals (refine Ae ?_;refine aA ?_)
 all_goals (first|refine aI ?_|(refine dZ 30 (λ g30=>?_) (λ g30=>?_)<;>(first|refine aI ?_|(refine aF ?_;refine aA ?_))))
 all_goals (refine uo ?_;refine aH ?_)
 all_goals
 refine bB (λ c33=>?_) (λ c33=>?_)
 ·all_goals (refine J0 ?_;refine bJ ?_;refine xA ?_)
  all_goals
   refine bC Tryz.results249 (λ w hw=>?_)
   rw[show m7 n xs ys b i r=none from if_neg (by rintro ⟨k1,⟨k2,k3⟩,k4,k5⟩;clear hw;first|omega|exact absurd (Am g22).2 (by simp[k5])|exact absurd (h17.2 k1) (by simp_all))];exact⟨(none,0),rfl,Nat.le_refl _,(hw.Md none).fin⟩
 ·try exact nv c33
  all_goals
   have hcv:=h17.1 (by simpa using g19)
   have hh:=Ha g22 hcv
   obtain⟨k,rfl⟩:=Int.eq_ofNat_of_zero_le (show 0<=i by omega)
   have hk:=Ym (hcv.bv hb hb2) (k:=k) (by omega) hh (r:=r) (by omega)
  all_goals (refine bA ?_;refine nK ?_;refine oZ ?_;refine aD (cF (hc:=λ w1 hw=>by have:=Mr (w:=w1) k r (by omega) hcv hb hb2 (hr.fZ hw.done);rw[hk.1,hk.2] at this;exact this)) (λ x38 h38=>?_);refine xA ?_)
  all_goals
   refine bC Tryz.results249 (λ w hw=>?_)
   rw[show m7 n xs ys b (k:Int) r=some (dL b (k:Int),vU xs (qX b (k:Int)) r) from if_pos ⟨hcv,⟨by omega,by omega⟩,by omega,hh⟩];exact⟨x38,rfl,h38,hw.fin⟩
theorem Mg(i r:Int)(hb:n.bm=(b:Int))(hb2:b<18446744073709551616)(hr:rH w n xs ys):Calls Tryz.prog 220 #[n.v,.int .i64 i,.int .i64 r] w (Xn w (mz n xs ys b i r)):=by
 refine enter Tryz.func220 Tryz.ntmps220 rfl rfl (SF.s2 hr.br hr.pr) ?_
 simp only[bX]
 simp only[Nd.v,Nd.cells]
 refine J0 ?_;refine bK (λ x3=>?_);refine aJ (λ x6=>?_);refine hZ ?_;refine Dv ?_;refine aT (cV (hc:=λ w1 hw=>nU (n:=n) i hb hb2 (hr.fZ hw.done))) (λ x13=>?_);refine aA ?_;refine aC (jB rf rfl) rfl ?_;refine aC (jB rf rfl) rfl ?_;refine J8 ?_;refine J2 ?_;refine Ci ?_
 (refine dZ 18 (λ g18=>?_) (λ g18=>?_)<;>(first|refine aI ?_|(refine aF ?_;refine aA ?_)))
 all_goals (refine uo ?_;refine aH ?_)
 all_goals
 refine bB (λ c21=>?_) (λ c21=>?_)
 ·all_goals (refine J0 ?_;refine bJ ?_;refine xA ?_)
  all_goals
   refine bC Tryz.results220 (λ w hw=>?_)
   rw[show mz n xs ys b i r=none from if_neg (by rintro ⟨k1,k4,k5⟩;clear hw;first|omega|exact absurd (Ha (by simpa using g18) k1) (by simp[k5]))];exact⟨(none,0),rfl,Nat.le_refl _,(hw.Md none).fin⟩
 ·try exact nv c21
  all_goals
   have hc:=Am (by simpa using g18)
   have hcv:=hc.1
   have hh:=hc.2
   obtain⟨q1,q2,_,_⟩:=rG hh
   obtain⟨k,rfl⟩:=Int.eq_ofNat_of_zero_le q1
   have hk:=W4 (hcv.bv hb hb2) (k:=k) (by omega) hh (r:=r) (by omega)
  all_goals (refine bA ?_;refine nK ?_;refine oZ ?_;refine aD (cF (hc:=λ w1 hw=>by have:=Mr (w:=w1) k r (by omega) hcv hb hb2 (hr.fZ hw.done);rw[hk.1,hk.2] at this;exact this)) (λ x26 h26=>?_);refine xA ?_)
  all_goals
   refine bC Tryz.results220 (λ w hw=>?_)
   rw[show mz n xs ys b (k:Int) r=some (b,zN xs (qX b (k:Int)) r) from if_pos ⟨hcv,by omega,hh⟩];exact⟨x26,rfl,h26,hw.fin⟩
theorem Mh(i:Int)(hb:n.bm=(b:Int))(hb2:b<18446744073709551616)(hr:rH w n xs ys):Calls Tryz.prog 252 #[n.v,.int .i64 i] w (Xn w (mx n xs ys b i)):=by
 refine enter Tryz.func252 Tryz.ntmps252 rfl rfl (SF.s2 hr.br hr.pr) ?_
 simp only[bX]
 simp only[Nd.v,Nd.cells]
 refine J0 ?_;refine bK (λ x2=>?_);refine aJ (λ x4=>?_);refine hZ ?_;refine Dv ?_;refine aT (cV (hc:=λ w1 hw=>nU (n:=n) i hb hb2 (hr.fZ hw.done))) (λ x11=>?_);refine aA ?_;refine aC (jB rf rfl) rfl ?_;refine aC (jB rf rfl) rfl ?_;refine J8 ?_;refine J2 ?_;refine oE ?_
 refine bB (λ c15=>?_) (λ c15=>?_)
 ·refine J0 ?_;refine bJ ?_;refine xA ?_
  refine bC Tryz.results252 (λ w hw=>?_)
  rw[show mx n xs ys b i=none from if_neg (by rintro ⟨k1,k5⟩;clear hw;exact absurd (Ha c15 k1) (by simp[k5]))];exact⟨(none,0),rfl,Nat.le_refl _,(hw.Md none).fin⟩
 ·have hc:=Am c15
  have hcv:=hc.1
  have hh:=hc.2
  obtain⟨q1,q2,_,_⟩:=rG hh
  obtain⟨k,rfl⟩:=Int.eq_ofNat_of_zero_le q1
  have hk:=Y4 (hcv.bv hb hb2) (k:=k) (by omega) hh
  refine bA ?_;refine Dv ?_;refine aD (cF (hc:=λ w1 hw=>by have:=Mr (w:=w1) k 0 (by omega) hcv hb hb2 (hr.fZ hw.done);rw[hk.1,hk.2] at this;exact this)) (λ x19 h19=>?_);refine xA ?_
  refine bC Tryz.results252 (λ w hw=>?_)
  rw[show mx n xs ys b (k:Int)=some (wR b (k:Int),rO xs (qX b (k:Int))) from if_pos ⟨hcv,hh⟩];exact⟨x19,rfl,h19,hw.fin⟩
end
end

end Go.Proofs.YtbajmaoegmbfgaaGreat

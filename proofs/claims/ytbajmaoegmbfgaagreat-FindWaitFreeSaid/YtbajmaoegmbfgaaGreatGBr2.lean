/- Branches: what Lookup and Sole compute. -/
import Derived.Test.YtbajmaoegmbfgaaGreatGBit2
import Derived.Test.YtbajmaoegmbfgaaGreatGAr5
import Derived.Test.YtbajmaoegmbfgaaGreatGAr8
import Derived.Test.YtbajmaoegmbfgaaGreatGPa4
import Derived.Test.YtbajmaoegmbfgaaGreatGNode3

set_option linter.unusedSimpArgs false
set_option linter.unusedVariables false
namespace Go.Ct
section
open Go Go.RowKit
end
end Go.Ct
namespace Go.Proofs.YtbajmaoegmbfgaaGreat
section
open Go.RowKit Go.Ct
def CV(n:Nd)(xs:List Int)(ys:List Pr):Prop:=n.kind=3/\cC n xs ys
theorem CV.bv{n:Nd}{xs:List Int}{ys:List Pr}{b:Nat}(h:CV n xs ys)(hb:n.bm=(b:Int))(hb2:b<18446744073709551616):BV b xs:=by
 obtain⟨h1,h2⟩:=zO h.1 h.2
 rw[hb,pG hb2] at h1
 exact⟨hb2,by omega,h2⟩
open Classical in
noncomputable def Eg (n:Nd) (xs:List Int) (ys:List Pr) (b:Nat) (i:Int):Option Int:=if CV n xs ys/\nY b i=true then some (xs.getD (lS b i) 0) else none
open Classical in
noncomputable def ep (n:Nd) (xs:List Int) (ys:List Pr):Option Int:=if CV n xs ys/\xs.length=1 then some (xs.getD 0 0) else none
theorem rO{b:Nat}{i:Int}(h:nY b i=true):0<=i/\i<64/\b.testBit i.toNat=true/\lS b i=fZ b i.toNat:=by
 simp only[nY,Bool.and_eq_true,decide_eq_true_eq] at h
 exact⟨h.1,h.2.1,h.2.2,by unfold lS;congr 1;omega⟩
theorem u4{b:Nat}{xs:List Int}(h:BV b xs){i:Int}(hh:nY b i=true):lS b i<xs.length:=by
 obtain⟨h1,h2,h3,h4⟩:=rO hh
 rw[h4,h.len]
 exact oL (by omega) h3
section
variable{n:Nd}{xs:List Int}{ys:List Pr}{w:World}{b:Nat}
theorem kr(hr:qS w n xs ys):Calls Tryz.prog 190 #[n.v] w λ e w'=>∃r:Bool,e=.returned (.bool r)/\(r=true↔CV n xs ys)/\St w [] [] w':=by
 refine enter Tryz.func190 Tryz.ntmps190 rfl rfl (SF.s0 w) ?_
 simp only[bY]
 simp only[Nd.v,Nd.cells]
 refine J0 ?_;refine bO (λ x1=>?_);refine J1 ?_;refine gZ ?_;refine mC ?_;refine aA ?_
 (refine eM 6 (λ g6=>?_) (λ g6=>?_)<;>(first|refine aJ ?_|(refine aF ?_;refine bR ?_)))
 all_goals ((first|refine aJ ?_|(refine aF ?_;refine aC (c0 (V:=.bool) (hc:=λ w1 hw=>I5 (n:=n) (hr.fP hw.done))) (λ x8 h8=>?_)));refine cH ?_;refine J1 ?_)
 all_goals
 refine aT Tryz.results190 (λ w hw=>?_)
 refine⟨_,rfl,?_,hw.done⟩
 simp_all[CV]
theorem Zp(hb:n.bm=(b:Int))(hb2:b<18446744073709551616)(hr:qS w n xs ys):Calls Tryz.prog 243 #[n.v] w λ e w'=>∃r:Bool,e=.returned (.bool r)/\(r=true↔CV n xs ys)/\St w [] [] w':=by
 refine enter Tryz.func243 Tryz.ntmps243 rfl rfl (SF.s0 w) ?_
 simp only[bY]
 simp only[Nd.v,Nd.cells]
 refine J0 ?_;refine bO (λ x1=>?_);refine J1 ?_;refine gZ ?_;refine mC ?_;refine aA ?_
 (refine eM 6 (λ g6=>?_) (λ g6=>?_)<;>(first|refine aJ ?_|(refine aF ?_;refine bR ?_)))
 all_goals ((first|refine aJ ?_|(refine aF ?_;refine aC (c0 (V:=.bool) (hc:=λ w1 hw=>Hf (n:=n) hb hb2 (hr.fP hw.done))) (λ x8 h8=>?_)));refine cH ?_;refine J1 ?_)
 all_goals
 refine aT Tryz.results243 (λ w hw=>?_)
 refine⟨_,rfl,?_,hw.done⟩
 simp_all[CV]
theorem kh(i:Int)(hb:n.bm=(b:Int))(hb2:b<18446744073709551616)(hr:qS w n xs ys):Calls Tryz.prog 149 #[n.v,.int .i64 i] w λ e w'=>e=.returned (.tuple #[.int .i64 ((Eg n xs ys b i).getD 0),.bool (Eg n xs ys b i).isSome])/\St w [] [] w':=by
 have e1:=hr.brN
 refine enter Tryz.func149 Tryz.ntmps149 rfl rfl (SF.s2 hr.br hr.pr) ?_
 simp only[bY]
 simp only[Nd.v,Nd.cells,hb,e1]
 refine J0 ?_;refine bO (λ x2=>?_);refine J8 ?_;refine aV ?_;refine pK ?_;refine aC (c0 (V:=.bool) (hc:=λ w1 hw=>by rw[<- e1,<- hb];exact kr (n:=n) (hr.fP hw.done))) (λ x7 h7=>?_);refine En ?_
 (refine eM 9 (λ g9=>?_) (λ g9=>?_)<;>(first|refine aJ ?_|(refine aF ?_;refine aE ?_)))
 all_goals (refine Zl ?_;(first|refine aJ ?_|(refine aF ?_;refine aR (cV (hc:=λ w1 hw=>aBb hb2 i w1)) (λ x13=>?_)));refine Q6 ?_;refine aH ?_)
 all_goals
 refine bE (λ c15=>?_) (λ c15=>?_)
 ·all_goals refine Q5 ?_
  all_goals
   refine bD Tryz.results149 (λ w hw=>?_)
   rw[show Eg n xs ys b i=none from if_neg (by simp_all)];exact⟨rfl,hw.done⟩
 ·try exact nv c15
  all_goals
   have hcv:CV n xs ys:=h7.1 (by simpa using g9)
   have hpl:=u4 (hcv.bv hb hb2) c15
  all_goals (refine lA ?_;refine dX [(0,[]),(1,[]),(2,[]),(3,[]),(4,[]),(5,[1]),(6,[]),(7,[]),(8,[]),(9,[])] ?_;refine lV ?_;refine lV ?_;refine aP ?_;refine cN (i:=5) (hq:=(cV (hc:=λ w1 hw=>aAK hb2 i w1))) (h:=λ x21=>?_);refine Oa ?_;refine Zh ?_)
  all_goals
   refine bD Tryz.results149 (λ w hw=>?_)
   rw[show Eg n xs ys b i=some (xs.getD (lS b i) 0) from if_pos ⟨hcv,c15⟩];exact⟨rfl,hw.done⟩
theorem nP(i:Int)(hb:n.bm=(b:Int))(hb2:b<18446744073709551616)(hr:qS w n xs ys):Calls Tryz.prog 216 #[n.v,.int .i64 i] w λ e w'=>e=.returned (.tuple #[.int .i64 ((Eg n xs ys b i).getD 0),.bool (Eg n xs ys b i).isSome])/\St w [] [] w':=by
 have e1:=hr.brN
 refine enter Tryz.func216 Tryz.ntmps216 rfl rfl (SF.s2 hr.br hr.pr) ?_
 simp only[bY]
 simp only[Nd.v,Nd.cells,hb,e1]
 refine J0 ?_;refine bO (λ x2=>?_);refine J8 ?_;refine aV ?_;refine pK ?_;refine aC (c0 (V:=.bool) (hc:=λ w1 hw=>by rw[<- e1,<- hb];exact Zp (n:=n) hb hb2 (hr.fP hw.done))) (λ x7 h7=>?_);refine En ?_
 (refine eM 9 (λ g9=>?_) (λ g9=>?_)<;>(first|refine aJ ?_|(refine aF ?_;refine aE ?_)))
 all_goals (refine Zl ?_;(first|refine aJ ?_|(refine aF ?_;refine aR (cV (hc:=λ w1 hw=>Pa hb2 i w1)) (λ x13=>?_)));refine Q6 ?_;refine aH ?_)
 all_goals
 refine bE (λ c15=>?_) (λ c15=>?_)
 ·all_goals refine Q5 ?_
  all_goals
   refine bD Tryz.results216 (λ w hw=>?_)
   rw[show Eg n xs ys b i=none from if_neg (by simp_all)];exact⟨rfl,hw.done⟩
 ·try exact nv c15
  all_goals
   have hcv:CV n xs ys:=h7.1 (by simpa using g9)
   have hpl:=u4 (hcv.bv hb hb2) c15
  all_goals (refine lA ?_;refine dX [(0,[]),(1,[]),(2,[]),(3,[]),(4,[]),(5,[1]),(6,[]),(7,[]),(8,[]),(9,[])] ?_;refine lV ?_;refine lV ?_;refine aP ?_;refine cN (i:=5) (hq:=(cV (hc:=λ w1 hw=>Pq hb2 i w1))) (h:=λ x21=>?_);refine Oa ?_;refine Zh ?_)
  all_goals
   refine bD Tryz.results216 (λ w hw=>?_)
   rw[show Eg n xs ys b i=some (xs.getD (lS b i) 0) from if_pos ⟨hcv,c15⟩];exact⟨rfl,hw.done⟩
theorem Jq(hb:n.bm=(b:Int))(hb2:b<18446744073709551616)(hr:qS w n xs ys):Calls Tryz.prog 245 #[n.v] w λ e w'=>e=.returned (.tuple #[.int .i64 ((ep n xs ys).getD 0),.bool (ep n xs ys).isSome])/\St w [] [] w':=by
 have e1:=hr.brN
 refine enter Tryz.func245 Tryz.ntmps245 rfl rfl (SF.s2 hr.br hr.pr) ?_
 simp only[bY]
 simp only[Nd.v,Nd.cells,e1]
 refine J0 ?_;refine bO (λ x1=>?_);refine J8 ?_;refine aV ?_;refine pK ?_;refine aC (c0 (V:=.bool) (hc:=λ w1 hw=>by rw[<- e1];exact Zp (n:=n) hb hb2 (hr.fP hw.done))) (λ x5 h5=>?_);refine En ?_
 (refine eM 7 (λ g7=>?_) (λ g7=>?_)<;>(first|refine aJ ?_|(refine aF ?_;refine aE ?_)))
 all_goals ((first|refine aJ ?_|(refine aF ?_;refine bR ?_));(first|refine aJ ?_|(refine aF ?_;refine dI ?_));refine Ru ?_;refine aH ?_)
 all_goals
 refine bE (λ c12=>?_) (λ c12=>?_)
 ·all_goals refine Q5 ?_
  all_goals
   refine bD Tryz.results245 (λ w hw=>?_)
   rw[show ep n xs ys=none from if_neg (by simp_all;try omega)];exact⟨rfl,hw.done⟩
 ·try exact nv c12
  all_goals
   have hcv:CV n xs ys:=h5.1 (by simpa using g7)
   have hl1:xs.length=1:=by omega
  all_goals (refine bB ?_;refine gZ ?_;refine aB (fD (k:=0) rf rf hX iA fin (by omega) (by omega)) rfl ?_;refine bR ?_;refine J8 ?_)
  all_goals
   refine bD Tryz.results245 (λ w hw=>?_)
   rw[show ep n xs ys=some (xs.getD 0 0) from if_pos ⟨hcv,hl1⟩];exact⟨rfl,hw.done⟩
end
end

/- Branches: a C-node of a bitmap and a list. -/
section
open Go.RowKit Go.Ct
def cn(b:Nat)(xs:List Int)(x:Option Addr×Nat):Nd:={Nd.zero with kind:=3,bm:=(b:Int),brA:=x.1,brN:=xs.length,brC:=x.2}
theorem jc{b:Nat}{xs:List Int}(h:BV b xs)(x:Option Addr×Nat){p:Int}(hp:0<=p):CV {cn b xs x with prev:=p} xs [] :=
 ⟨rfl,by simp[rS,Nd.own,Nd.kC,Nd.jD,cn],by simp[cn,Nd.zero],hp,by simp[cn,Nd.zero],.inr (.inr (.inl ⟨rfl,by show(xs.length:Int)=uW (b:Int);rw[pG h.lt,h.len],h.pos⟩))⟩
theorem zn{b:Nat}{xs:List Int}(h:BV b xs)(x:Option Addr×Nat):CV (cn b xs x) xs []:=jc h x (p:=0) (Int.le_refl _)
end

/- Nodes and lists of pairs out of tapes. -/
end Go.Proofs.YtbajmaoegmbfgaaGreat
namespace Go.Ct
section
end
end Go.Ct
namespace Go.Proofs.YtbajmaoegmbfgaaGreat
section
open Go.RowKit Go.Ct
structure aB4(refs:Int)(n:Nd)(xs:List Int)(ys:List Pr):Prop where
 valid:cC n xs ys
 brN:n.brN=xs.length
 prN:n.prN=ys.length
 brC:n.brN<=n.brC
 dH:n.prN<=n.dH
 bm:∃b:Nat,n.bm=(b:Int)/\b<18446744073709551616
 xs64:xs.length<=64
 ys2:ys.length<=2
 key:n.key.size<=4
 cells:n.main=0/\n.prev=0/\n.status=0
 gen:0<=n.gen/\n.gen<=3
 kind:n.kind=2∨n.kind=3∨n.kind=4∨n.kind=5∨n.kind=6∨n.kind=8
 refs:(∀r∈xs,1<=r/\r<=refs)/\0<=n.bN/\n.bN<=refs/\0<=n.exp/\n.exp<=refs/\0<=n.new/\n.new<=refs
end

/- Tombs: Untombed, Contracted, Grown, Shrunk: both sides. -/
section
open Go.RowKit Go.Ct
def tmb(s:Nd):Nd:={Nd.zero with kind:=5,hash:=s.hash,key:=s.key,val:=s.val}
def Ff(n:Nd):Nd:=if n.kind=5 then{Nd.zero with kind:=4,hash:=n.hash,key:=n.key,val:=n.val} else Nd.zero
theorem Iv(n:Nd)(w:World):Calls Tryz.prog 219 #[n.v] w λ e w'=>e=.returned (.tuple #[(Ff n).v,.bool (decide (n.kind=5))])/\St w [] [] w':=by
 refine enter Tryz.func219 Tryz.ntmps219 rfl rfl (SF.s0 w) ?_
 simp only[bY]
 simp only[Nd.v,Nd.cells]
 refine J0 ?_;refine bO (λ x1=>?_);refine aI (λ x2=>?_);refine iZ ?_;refine gZ ?_;refine qA ?_;refine aH ?_
 refine bE (λ c6=>?_) (λ c6=>?_)
 ·refine J0 ?_;refine bJ ?_;refine zH ?_
  refine bD Tryz.results219 (λ w hw=>?_)
  exact⟨by rw[show Ff n=Nd.zero from if_neg (by assumption),decide_eq_false (by assumption)];rfl,hw.done⟩
 ·refine bB ?_;refine gZ ?_;refine J3 ?_;refine J3 ?_;refine bJ ?_;refine zH ?_
  refine bD Tryz.results219 (λ w hw=>?_)
  exact⟨by rw[show Ff n={Nd.zero with kind:=4,hash:=n.hash,key:=n.key,val:=n.val} from if_pos (by omega),decide_eq_true (by omega)];rfl,hw.done⟩
section
variable{n s:Nd}{xs:List Int}{ys:List Pr}{w:World}{b:Nat}
def LV(n:Nd)(xs:List Int)(ys:List Pr):Prop:=n.kind=6/\cC n xs ys
theorem Of(hb:n.bm=(b:Int))(hb2:b<18446744073709551616)(hr:qS w n xs ys):Calls Tryz.prog 255 #[n.v] w λ e w'=>∃r:Bool,e=.returned (.bool r)/\(r=true↔LV n xs ys)/\St w [] [] w':=by
 refine enter Tryz.func255 Tryz.ntmps255 rfl rfl (SF.s0 w) ?_
 simp only[bY]
 simp only[Nd.v,Nd.cells]
 refine J0 ?_;refine bO (λ x1=>?_);refine J1 ?_;refine gZ ?_;refine mC ?_;refine aA ?_
 (refine eM 6 (λ g6=>?_) (λ g6=>?_)<;>(first|refine aJ ?_|(refine aF ?_;refine bR ?_)))
 all_goals ((first|refine aJ ?_|(refine aF ?_;refine aC (c0 (V:=.bool) (hc:=λ w1 hw=>Hf (n:=n) hb hb2 (hr.fP hw.done))) (λ x8 h8=>?_)));refine cH ?_;refine J1 ?_)
 all_goals
 refine aT Tryz.results255 (λ w hw=>?_)
 refine⟨_,rfl,?_,hw.done⟩
 simp_all[LV]
open Classical in
noncomputable def Sx (n:Nd) (xs:List Int) (ys:List Pr) (level:Int) (s:Nd):Bool:=decide ((ep n xs ys).isSome=true/\0<level/\s.kind=4)
def vx(t:Bool)(n s:Nd):Nd:=if t=true then tmb s else n
def nz{α:Type}(t:Bool)(l:List α):List α:=if t=true then [] else l
theorem D4(level:Int)(s:Nd)(hb:n.bm=(b:Int))(hb2:b<18446744073709551616)(hr:qS w n xs ys):Calls Tryz.prog 221 #[n.v,.int .i64 level,s.v] w λ e w'=>e=.returned (vx (Sx n xs ys level s) n s).v/\St w [] [] w':=by
 refine enter Tryz.func221 Tryz.ntmps221 rfl rfl (SF.s0 w) ?_
 simp only[bY]
 simp only[Nd.v,Nd.cells]
 refine J0 ?_;refine bO (λ x3=>?_);refine bO (λ x5=>?_);refine aI (λ x6=>?_);refine Oq ?_;refine pK ?_;refine aR (cV (hc:=λ w1 hw=>Jq (n:=n) hb hb2 (hr.fP hw.done))) (λ x11=>?_);refine aA ?_;refine aB (bL rf rfl) rfl ?_;refine aB (bL rf rfl) rfl ?_;refine J8 ?_;refine iO ?_
 (refine eM 15 (λ g15=>?_) (λ g15=>?_)<;>(first|refine aJ ?_|(refine aF ?_;refine aA ?_)))
 all_goals (refine Iw ?_;refine aA ?_)
 all_goals (first|refine aJ ?_|(refine eM 19 (λ g19=>?_) (λ g19=>?_)<;>(first|refine aJ ?_|(refine aF ?_;refine aE ?_))))
 all_goals (refine yd ?_;refine aH ?_)
 all_goals
 refine bE (λ c23=>?_) (λ c23=>?_)
 ·try exact nv c23
  all_goals (refine gZ ?_;refine J3 ?_;refine J3 ?_;refine xS ?_)
  all_goals
   refine bD Tryz.results221 (λ w hw=>?_)
   rw[show Sx n xs ys level s=true from decide_eq_true ⟨by assumption,by omega,by omega⟩];exact⟨rfl,hw.done⟩
 ·all_goals (refine bB ?_;refine pK ?_;refine J5 ?_)
  all_goals
   refine bD Tryz.results221 (λ w hw=>?_)
   rw[show Sx n xs ys level s=false from decide_eq_false (by rintro ⟨t1,t2,t3⟩;first|omega|(clear hw;simp_all;done))];exact⟨rfl,hw.done⟩
end
end

/- Tombs: Grown, Shrunk: both sides; agrees. -/
section
open Go.RowKit Go.Ct
def m4(o:Option (List Pr))(h:Int)(x:Option Addr×Nat):Nd:=match o with|some m=>{Nd.zero with kind:=6,hash:=h,prA:=x.1,prN:=m.length,dH:=x.2}|none=>Nd.zero
def Zg(o:Option (List Pr)):List Pr:=o.getD []
def Nc(o:Option (List Pr))(h:Int)(x:Option Addr×Nat):Nd:=match o with|some m=>if m.length=1 then{Nd.zero with kind:=5,hash:=h,key:=(m.getD 0 (⟨#[]⟩,0)).1,val:=(m.getD 0 (⟨#[]⟩,0)).2} else{Nd.zero with kind:=6,hash:=h,prA:=x.1,prN:=m.length,dH:=x.2}|none=>Nd.zero
def Iq(o:Option (List Pr)):List Pr:=match o with|some m=>if m.length=1 then [] else m|none=>[]
open Classical in
noncomputable def kU (n:Nd) (xs:List Int) (ys:List Pr) (k:ByteArray) (v:Int):Option (List Pr):=if LV n xs ys/\k.size<=64 then some (Og ys k v) else none
open Classical in
noncomputable def qE (n:Nd) (xs:List Int) (ys:List Pr) (k:ByteArray):Option (List Pr):=if LV n xs ys/\(cO ys k).isSome=true then some (rH ys k) else none
def aAY(w:World)(o:Option (List Pr))(h:Int)(e:Ending)(w':World):Prop:=∃x:Option Addr×Nat,e=.returned (.tuple #[(m4 o h x).v,.bool o.isSome])/\(Zg o).length<=x.2/\SF w [] [] [] [(x.1,dH (Zg o))] [] w'
def aBV(w:World)(o:Option (List Pr))(h:Int)(e:Ending)(w':World):Prop:=∃x:Option Addr×Nat,e=.returned (.tuple #[(Nc o h x).v,.bool o.isSome])/\(Iq o).length<=x.2/\SF w [] [] [] [(x.1,dH (Iq o))] [] w'
section
variable{n s:Nd}{xs:List Int}{ys:List Pr}{w:World}{b:Nat}
theorem S5(k:ByteArray)(v:Int)(hb:n.bm=(b:Int))(hb2:b<18446744073709551616)(hr:qS w n xs ys)(hy:ys.length<=150000000000):Calls Tryz.prog 247 #[n.v,.string k,.int .u64 v] w (aAY w (kU n xs ys k v) n.hash):=by
 have e2:=hr.prN
 refine enter Tryz.func247 Tryz.ntmps247 rfl rfl (SF.s1 hr.pr) ?_
 simp only[bY]
 simp only[Nd.v,Nd.cells,e2]
 refine J0 ?_;refine bO (λ x3=>?_);refine aI (λ x6=>?_);refine iZ ?_;refine pK ?_;refine aC (c0 (V:=.bool) (hc:=λ w1 hw=>by rw[<- e2];exact Of (n:=n) hb hb2 (hr.fP hw.done))) (λ x9 h9=>?_);refine En ?_
 (refine eM 11 (λ g11=>?_) (λ g11=>?_)<;>(first|refine aJ ?_|(refine aF ?_;refine aA ?_)))
 all_goals ((first|refine aJ ?_|(refine aF ?_;refine jX ?_));refine Iw ?_;refine aH ?_)
 all_goals
 refine bE (λ c15=>?_) (λ c15=>?_)
 ·all_goals (refine J0 ?_;refine bJ ?_;refine zH ?_)
  all_goals
   refine bD Tryz.results247 (λ w hw=>?_)
   rw[show kU n xs ys k v=none from if_neg (by rintro ⟨t1,t2⟩;have:=h9.2 t1;clear hw;first|omega|(simp_all;done))];exact⟨(none,0),rfl,Nat.le_refl _,(hw.Md none).fin⟩
 ·try exact nv c15
  all_goals (refine lA ?_;refine dX [(0,[]),(1,[]),(2,[]),(3,[]),(4,[]),(5,[]),(6,[1]),(7,[]),(8,[]),(9,[])] ?_;refine lV ?_;refine lV ?_;refine hZ ?_;refine bC (i:=6) (hq:=(cF (hc:=λ w1 hw=>ki (l:=ys) k v (hw.cl fin) (by omega)))) (h:=λ x23 h23=>?_);refine gC ?_;refine Cf ?_)
  all_goals
   refine bD Tryz.results247 (λ w hw=>?_)
   rw[show kU n xs ys k v=some (Og ys k v) from if_pos ⟨h9.1 (by clear hw;simp_all),by omega⟩];exact⟨x23,rfl,h23,hw.fin⟩
theorem O3(k:ByteArray)(hb:n.bm=(b:Int))(hb2:b<18446744073709551616)(hr:qS w n xs ys)(hy:ys.length<=150000000000):Calls Tryz.prog 251 #[n.v,.string k] w (aBV w (qE n xs ys k) n.hash):=by
 have e2:=hr.prN
 refine enter Tryz.func251 Tryz.ntmps251 rfl rfl (SF.s1 hr.pr) ?_
 simp only[bY]
 simp only[Nd.v,Nd.cells,e2]
 refine J0 ?_;refine bO (λ x2=>?_);refine aI (λ x4=>?_);refine iZ ?_;refine gZ ?_;refine aA ?_;refine aR (cV (hc:=λ w1 hw=>Kd (l:=ys) k (hw.cl fin) (by omega))) (λ x13=>?_);refine aA ?_;refine aB (bL rf rfl) rfl ?_;refine aB (bL rf rfl) rfl ?_;refine J8 ?_;refine pK ?_;refine aC (c0 (V:=.bool) (hc:=λ w1 hw=>by rw[<- e2];exact Of (n:=n) hb hb2 (hr.fP hw.done))) (λ x17 h17=>?_);refine En ?_
 (refine eM 19 (λ g19=>?_) (λ g19=>?_)<;>(first|refine aJ ?_|(refine aF ?_;refine aA ?_)))
 all_goals (refine Q6 ?_;refine aH ?_)
 all_goals
 refine bE (λ c22=>?_) (λ c22=>?_)
 ·all_goals (refine J0 ?_;refine bJ ?_;refine zH ?_)
  all_goals
   refine bD Tryz.results251 (λ w hw=>?_)
   rw[show qE n xs ys k=none from if_neg (by rintro ⟨t1,t2⟩;have:=h17.2 t1;clear hw;simp_all)];exact⟨(none,0),rfl,Nat.le_refl _,(hw.Md none).fin⟩
 ·try exact nv c22
  all_goals (refine bB ?_;refine gZ ?_;refine aA ?_;refine aC (cF (hc:=λ w1 hw=>Zd (l:=ys) k (hw.cl fin) (by omega))) (λ x27 h27=>?_);refine iZ ?_;refine J2 ?_;refine dI ?_;refine uI ?_)
  all_goals
   refine bE (λ c30=>?_) (λ c30=>?_)
   ·refine aV ?_;refine gJ [0,1,2,3,4,5,6,7,8,9,10,11,12] ?_;refine lV ?_;refine aP ?_;refine bT (i:=3) (hq:=(G3 (k:=0) rf rf hX dJ fin (by omega) (by omega))) (h:=?_);refine lV ?_;refine aP ?_;refine bT (i:=7) (hq:=(G3 (k:=0) rf rf hX dJ fin (by omega) (by omega))) (h:=?_);refine aQ ?_;refine bT (i:=9) (hq:=(Nu (q:=0) (lst:=rH ys k) rf iA fin (by omega))) (h:=?_);refine gC ?_;refine Cf ?_
    refine bD Tryz.results251 (λ w hw=>?_)
    have e1:(rH ys k).length=1:=by omega
    rw[show qE n xs ys k=some (rH ys k) from if_pos ⟨h17.1 (by clear hw;simp_all),by clear hw;simp_all⟩];exact⟨(none,0),by simp only[Nc,if_pos e1];rfl,by simp only[Iq,if_pos e1];exact Nat.le_refl _,by simp only[Iq,if_pos e1];exact(hw.Md none).fin⟩
   ·refine bB ?_;refine gZ ?_;refine aA ?_;refine bJ ?_;refine zH ?_
    refine bD Tryz.results251 (λ w hw=>?_)
    have e1:¬(rH ys k).length=1:=by omega
    rw[show qE n xs ys k=some (rH ys k) from if_pos ⟨h17.1 (by clear hw;simp_all),by clear hw;simp_all⟩];exact⟨x27,by simp only[Nc,if_neg e1];rfl,by simp only[Iq,if_neg e1];exact h27,by simp only[Iq,if_neg e1];exact hw.fin⟩
end
end

/- Branches: lists of lists, joined; the C-node of them. -/
end Go.Proofs.YtbajmaoegmbfgaaGreat
namespace Go.Ct
section
open Go Go.RowKit
section
variable{P:Program}{n:Nat}{S:List (Nat×Value)}
variable{w0 w w':World}{M:List Nat}{H H':List (Nat×Obj)}{A F F':Fr}{O O':List Ow}{G:World->Prop}
variable{d:Nat}{ty:TypeId}{pos:String}{af:Array Edge}{gd:Option (Nat×Bool)}{dst:Option Nat}{x y z:Operand}{t t2 e:TypeId}{p a:Option Addr}{i m k c c2:Nat}
end
end
end Go.Ct
namespace Go.Proofs.YtbajmaoegmbfgaaGreat
section
open Go Go.RowKit Go.Ct
end

/- Branches: Inserted, Updated, Removed. -/
section
open Go.RowKit Go.Ct
open Classical in
noncomputable def cz (n:Nd) (xs:List Int) (ys:List Pr) (b:Nat) (i r:Int):Option (Nat×List Int):=if CV n xs ys/\(0<=i/\i<64)/\1<=r/\nY b i=false then some (dL b i,uL xs (lS b i) r) else none
open Classical in
noncomputable def nu (n:Nd) (xs:List Int) (ys:List Pr) (b:Nat) (i r:Int):Option (Nat×List Int):=if CV n xs ys/\1<=r/\nY b i=true then some (b,zE xs (lS b i) r) else none
open Classical in
noncomputable def nk (n:Nd) (xs:List Int) (ys:List Pr) (b:Nat) (i:Int):Option (Nat×List Int):=if CV n xs ys/\nY b i=true then some (vF b i,rK xs (lS b i)) else none
def mM(o:Option (Nat×List Int))(x:Option Addr×Nat):Nd:=match o with|some q=>cn q.1 q.2 x|none=>Nd.zero
def mF(o:Option (Nat×List Int)):List Int:=match o with|some q=>q.2|none=>[]
def Yj(w:World)(o:Option (Nat×List Int))(e:Ending)(w':World):Prop:=∃x:Option Addr×Nat,e=.returned (.tuple #[(mM o x).v,.bool o.isSome])/\(mF o).length<=x.2/\SF w [] [] [] [(x.1,aG (mF o))] [] w'
section
variable{n:Nd}{xs:List Int}{ys:List Pr}{w:World}{b:Nat}
end
end

end Go.Proofs.YtbajmaoegmbfgaaGreat

/- Branches: what Lookup and Sole compute. -/
import Derived.Test.YtbajmaoegmbfgaaGreatGBr
import Derived.Test.YtbajmaoegmbfgaaGreatGAr5
import Derived.Test.YtbajmaoegmbfgaaGreatGAr8
import Derived.Test.YtbajmaoegmbfgaaGreatGBitsE
import Derived.Test.YtbajmaoegmbfgaaGreatGPa4
import Derived.Test.YtbajmaoegmbfgaaGreatGNode3
import Derived.Test.YtbajmaoegmbfgaaGreatGJoin

set_option linter.unusedSimpArgs false
set_option linter.unusedVariables false
namespace Go.Ct
section
open Go Go.RowKit
end
end Go.Ct
namespace Go.Proofs.YtbajmaoegmbfgaaGreat
section
open Go.RowKit Go.Ct
def CV(n:Nd)(xs:List Int)(ys:List Pr):Prop:=n.kind=3/\bY n xs ys
theorem CV.bv{n:Nd}{xs:List Int}{ys:List Pr}{b:Nat}(h:CV n xs ys)(hb:n.bm=(b:Int))(hb2:b<18446744073709551616):BV b xs:=by
 obtain⟨h1,h2⟩:=yN h.1 h.2
 rw[hb,xC hb2] at h1
 exact⟨hb2,by omega,h2⟩
open Classical in
noncomputable def K7 (n:Nd) (xs:List Int) (ys:List Pr) (b:Nat) (i:Int):Option Int:=if CV n xs ys/\oY b i=true then some (xs.getD (qF b i) 0) else none
open Classical in
noncomputable def gh (n:Nd) (xs:List Int) (ys:List Pr):Option Int:=if CV n xs ys/\xs.length=1 then some (xs.getD 0 0) else none
theorem rC{b:Nat}{i:Int}(h:oY b i=true):0<=i/\i<64/\b.testBit i.toNat=true/\qF b i=fZ b i.toNat:=by
 simp only[oY,Bool.and_eq_true,decide_eq_true_eq] at h
 exact⟨h.1,h.2.1,h.2.2,by unfold qF;congr 1;omega⟩
theorem aAc{b:Nat}{xs:List Int}(h:BV b xs){i:Int}(hh:oY b i=true):qF b i<xs.length:=by
 obtain⟨h1,h2,h3,h4⟩:=rC hh
 rw[h4,h.len]
 exact nT (by omega) h3
section
variable{n:Nd}{xs:List Int}{ys:List Pr}{w:World}{b:Nat}
theorem Yw(hb:n.bm=(b:Int))(hb2:b<18446744073709551616)(hr:rQ w n xs ys):Calls Tryz.prog 243 #[n.v] w λ e w'=>∃r:Bool,e=.returned (.bool r)/\(r=true↔CV n xs ys)/\St w [] [] w':=by
 refine enter Tryz.func243 Tryz.ntmps243 rfl rfl (SF.s0 w) ?_
 simp only[bW]
 simp only[Nd.v,Nd.cells]
 refine J0 ?_;refine bL (λ x1=>?_);refine J1 ?_;refine gI ?_;refine kV ?_;refine aA ?_
 (refine dZ 6 (λ g6=>?_) (λ g6=>?_)<;>(first|refine aI ?_|(refine aF ?_;refine bO ?_)))
 all_goals ((first|refine aI ?_|(refine aF ?_;refine aC (c0 (V:=.bool) (hc:=λ w1 hw=>zG (n:=n) hb hb2 (hr.fO hw.done))) (λ x8 h8=>?_)));refine cH ?_;refine J1 ?_)
 all_goals
 refine aQ Tryz.results243 (λ w hw=>?_)
 refine⟨_,rfl,?_,hw.done⟩
 simp_all[CV]
theorem mU(i:Int)(hb:n.bm=(b:Int))(hb2:b<18446744073709551616)(hr:rQ w n xs ys):Calls Tryz.prog 216 #[n.v,.int .i64 i] w λ e w'=>e=.returned (.tuple #[.int .i64 ((K7 n xs ys b i).getD 0),.bool (K7 n xs ys b i).isSome])/\St w [] [] w':=by
 have e1:=hr.brN
 refine enter Tryz.func216 Tryz.ntmps216 rfl rfl (SF.s2 hr.br hr.pr) ?_
 simp only[bW]
 simp only[Nd.v,Nd.cells,hb,e1]
 refine J0 ?_;refine bL (λ x2=>?_);refine J8 ?_;refine aT ?_;refine nJ ?_;refine aC (c0 (V:=.bool) (hc:=λ w1 hw=>by rw[<- e1,<- hb];exact Yw (n:=n) hb hb2 (hr.fO hw.done))) (λ x7 h7=>?_);refine Ed ?_
 (refine dZ 9 (λ g9=>?_) (λ g9=>?_)<;>(first|refine aI ?_|(refine aF ?_;refine aE ?_)))
 all_goals (refine ar ?_;(first|refine aI ?_|(refine aF ?_;refine aR (cV (hc:=λ w1 hw=>Pn hb2 i w1)) (λ x13=>?_)));refine Mi ?_;refine aH ?_)
 all_goals
 refine bB (λ c15=>?_) (λ c15=>?_)
 ·all_goals refine Pe ?_
  all_goals
   refine aZ Tryz.results216 (λ w hw=>?_)
   rw[show K7 n xs ys b i=none from if_neg (by simp_all)];exact⟨rfl,hw.done⟩
 ·try exact nv c15
  all_goals
   have hcv:CV n xs ys:=h7.1 (by simpa using g9)
   have hpl:=aAc (hcv.bv hb hb2) c15
  all_goals (refine kC ?_;refine dS [(0,[]),(1,[]),(2,[]),(3,[]),(4,[]),(5,[1]),(6,[]),(7,[]),(8,[]),(9,[])] ?_;refine mX ?_;refine mX ?_;refine aM ?_;refine cD (i:=5) (hq:=(cV (hc:=λ w1 hw=>O3 hb2 i w1))) (h:=λ x21=>?_);refine P6 ?_;refine j3 ?_)
  all_goals
   refine aZ Tryz.results216 (λ w hw=>?_)
   rw[show K7 n xs ys b i=some (xs.getD (qF b i) 0) from if_pos ⟨hcv,c15⟩];exact⟨rfl,hw.done⟩
theorem Io(hb:n.bm=(b:Int))(hb2:b<18446744073709551616)(hr:rQ w n xs ys):Calls Tryz.prog 245 #[n.v] w λ e w'=>e=.returned (.tuple #[.int .i64 ((gh n xs ys).getD 0),.bool (gh n xs ys).isSome])/\St w [] [] w':=by
 have e1:=hr.brN
 refine enter Tryz.func245 Tryz.ntmps245 rfl rfl (SF.s2 hr.br hr.pr) ?_
 simp only[bW]
 simp only[Nd.v,Nd.cells,e1]
 refine J0 ?_;refine bL (λ x1=>?_);refine J8 ?_;refine aT ?_;refine nJ ?_;refine aC (c0 (V:=.bool) (hc:=λ w1 hw=>by rw[<- e1];exact Yw (n:=n) hb hb2 (hr.fO hw.done))) (λ x5 h5=>?_);refine Ed ?_
 (refine dZ 7 (λ g7=>?_) (λ g7=>?_)<;>(first|refine aI ?_|(refine aF ?_;refine aE ?_)))
 all_goals ((first|refine aI ?_|(refine aF ?_;refine bO ?_));(first|refine aI ?_|(refine aF ?_;refine dE ?_));refine Nn ?_;refine aH ?_)
 all_goals
 refine bB (λ c12=>?_) (λ c12=>?_)
 ·all_goals refine Pe ?_
  all_goals
   refine aZ Tryz.results245 (λ w hw=>?_)
   rw[show gh n xs ys=none from if_neg (by simp_all;try omega)];exact⟨rfl,hw.done⟩
 ·try exact nv c12
  all_goals
   have hcv:CV n xs ys:=h5.1 (by simpa using g7)
   have hl1:xs.length=1:=by omega
  all_goals (refine aW ?_;refine gI ?_;refine aB (eX (k:=0) rf rf gG gM fin (by omega) (by omega)) rfl ?_;refine bO ?_;refine J8 ?_)
  all_goals
   refine aZ Tryz.results245 (λ w hw=>?_)
   rw[show gh n xs ys=some (xs.getD 0 0) from if_pos ⟨hcv,hl1⟩];exact⟨rfl,hw.done⟩
end
end

/- Branches: a C-node of a bitmap and a list. -/
section
open Go.RowKit Go.Ct
def cn(b:Nat)(xs:List Int)(x:Option Addr×Nat):Nd:={Nd.zero with kind:=3,bm:=(b:Int),brA:=x.1,brN:=xs.length,brC:=x.2}
theorem ze{b:Nat}{xs:List Int}(h:BV b xs)(x:Option Addr×Nat){p:Int}(hp:0<=p):CV {cn b xs x with prev:=p} xs [] :=
 ⟨rfl,by simp[qZ,Nd.own,Nd.jG,Nd.iT,cn],by simp[cn,Nd.zero],hp,by simp[cn,Nd.zero],.inr (.inr (.inl ⟨rfl,by show(xs.length:Int)=yF (b:Int);rw[xC h.lt,h.len],h.pos⟩))⟩
theorem xc{b:Nat}{xs:List Int}(h:BV b xs)(x:Option Addr×Nat):CV (cn b xs x) xs []:=ze h x (p:=0) (Int.le_refl _)
end

/- Nodes and lists of pairs out of tapes. -/
end Go.Proofs.YtbajmaoegmbfgaaGreat
namespace Go.Ct
section
end
end Go.Ct
namespace Go.Proofs.YtbajmaoegmbfgaaGreat
section
open Go.RowKit Go.Ct
structure aA1(refs:Int)(n:Nd)(xs:List Int)(ys:List Pr):Prop where
 valid:bY n xs ys
 brN:n.brN=xs.length
 prN:n.prN=ys.length
 brC:n.brN<=n.brC
 dB:n.prN<=n.dB
 bm:∃b:Nat,n.bm=(b:Int)/\b<18446744073709551616
 xs64:xs.length<=64
 ys2:ys.length<=2
 key:n.key.size<=4
 cells:n.main=0/\n.prev=0/\n.status=0
 gen:0<=n.gen/\n.gen<=3
 kind:n.kind=2∨n.kind=3∨n.kind=4∨n.kind=5∨n.kind=6∨n.kind=8
 refs:(∀r∈xs,1<=r/\r<=refs)/\0<=n.bC/\n.bC<=refs/\0<=n.exp/\n.exp<=refs/\0<=n.new/\n.new<=refs
end

/- Tombs: Untombed, Contracted, Grown, Shrunk: both sides. -/
section
open Go.RowKit Go.Ct
def tmb(s:Nd):Nd:={Nd.zero with kind:=5,hash:=s.hash,key:=s.key,val:=s.val}
def Gz(n:Nd):Nd:=if n.kind=5 then{Nd.zero with kind:=4,hash:=n.hash,key:=n.key,val:=n.val} else Nd.zero
theorem H7(n:Nd)(w:World):Calls Tryz.prog 219 #[n.v] w λ e w'=>e=.returned (.tuple #[(Gz n).v,.bool (decide (n.kind=5))])/\St w [] [] w':=by
 refine enter Tryz.func219 Tryz.ntmps219 rfl rfl (SF.s0 w) ?_
 simp only[bW]
 simp only[Nd.v,Nd.cells]
 refine J0 ?_;refine bL (λ x1=>?_);refine aJ (λ x2=>?_);refine hJ ?_;refine gI ?_;refine kW ?_;refine aH ?_
 refine bB (λ c6=>?_) (λ c6=>?_)
 ·refine J0 ?_;refine bG ?_;refine xP ?_
  refine aZ Tryz.results219 (λ w hw=>?_)
  exact⟨by rw[show Gz n=Nd.zero from if_neg (by assumption),decide_eq_false (by assumption)];rfl,hw.done⟩
 ·refine aW ?_;refine gI ?_;refine J3 ?_;refine J3 ?_;refine bG ?_;refine xP ?_
  refine aZ Tryz.results219 (λ w hw=>?_)
  exact⟨by rw[show Gz n={Nd.zero with kind:=4,hash:=n.hash,key:=n.key,val:=n.val} from if_pos (by omega),decide_eq_true (by omega)];rfl,hw.done⟩
section
variable{n s:Nd}{xs:List Int}{ys:List Pr}{w:World}{b:Nat}
def LV(n:Nd)(xs:List Int)(ys:List Pr):Prop:=n.kind=6/\bY n xs ys
theorem Na(hb:n.bm=(b:Int))(hb2:b<18446744073709551616)(hr:rQ w n xs ys):Calls Tryz.prog 255 #[n.v] w λ e w'=>∃r:Bool,e=.returned (.bool r)/\(r=true↔LV n xs ys)/\St w [] [] w':=by
 refine enter Tryz.func255 Tryz.ntmps255 rfl rfl (SF.s0 w) ?_
 simp only[bW]
 simp only[Nd.v,Nd.cells]
 refine J0 ?_;refine bL (λ x1=>?_);refine J1 ?_;refine gI ?_;refine kV ?_;refine aA ?_
 (refine dZ 6 (λ g6=>?_) (λ g6=>?_)<;>(first|refine aI ?_|(refine aF ?_;refine bO ?_)))
 all_goals ((first|refine aI ?_|(refine aF ?_;refine aC (c0 (V:=.bool) (hc:=λ w1 hw=>zG (n:=n) hb hb2 (hr.fO hw.done))) (λ x8 h8=>?_)));refine cH ?_;refine J1 ?_)
 all_goals
 refine aQ Tryz.results255 (λ w hw=>?_)
 refine⟨_,rfl,?_,hw.done⟩
 simp_all[LV]
open Classical in
noncomputable def Qf (n:Nd) (xs:List Int) (ys:List Pr) (level:Int) (s:Nd):Bool:=decide ((gh n xs ys).isSome=true/\0<level/\s.kind=4)
def rq(t:Bool)(n s:Nd):Nd:=if t=true then tmb s else n
def j5{α:Type}(t:Bool)(l:List α):List α:=if t=true then [] else l
theorem Dn(level:Int)(s:Nd)(hb:n.bm=(b:Int))(hb2:b<18446744073709551616)(hr:rQ w n xs ys):Calls Tryz.prog 221 #[n.v,.int .i64 level,s.v] w λ e w'=>e=.returned (rq (Qf n xs ys level s) n s).v/\St w [] [] w':=by
 refine enter Tryz.func221 Tryz.ntmps221 rfl rfl (SF.s0 w) ?_
 simp only[bW]
 simp only[Nd.v,Nd.cells]
 refine J0 ?_;refine bL (λ x3=>?_);refine bL (λ x5=>?_);refine aJ (λ x6=>?_);refine P4 ?_;refine nJ ?_;refine aR (cV (hc:=λ w1 hw=>Io (n:=n) hb hb2 (hr.fO hw.done))) (λ x11=>?_);refine aA ?_;refine aB (bP rf rfl) rfl ?_;refine aB (bP rf rfl) rfl ?_;refine J8 ?_;refine iU ?_
 (refine dZ 15 (λ g15=>?_) (λ g15=>?_)<;>(first|refine aI ?_|(refine aF ?_;refine aA ?_)))
 all_goals (refine B8 ?_;refine aA ?_)
 all_goals (first|refine aI ?_|(refine dZ 19 (λ g19=>?_) (λ g19=>?_)<;>(first|refine aI ?_|(refine aF ?_;refine aE ?_))))
 all_goals (refine w3 ?_;refine aH ?_)
 all_goals
 refine bB (λ c23=>?_) (λ c23=>?_)
 ·try exact nv c23
  all_goals (refine gI ?_;refine J3 ?_;refine J3 ?_;refine uJ ?_)
  all_goals
   refine aZ Tryz.results221 (λ w hw=>?_)
   rw[show Qf n xs ys level s=true from decide_eq_true ⟨by assumption,by omega,by omega⟩];exact⟨rfl,hw.done⟩
 ·all_goals (refine aW ?_;refine nJ ?_;refine J5 ?_)
  all_goals
   refine aZ Tryz.results221 (λ w hw=>?_)
   rw[show Qf n xs ys level s=false from decide_eq_false (by rintro ⟨t1,t2,t3⟩;first|omega|(clear hw;simp_all;done))];exact⟨rfl,hw.done⟩
end
end

/- Tombs: Grown, Shrunk: both sides; agrees. -/
section
open Go.RowKit Go.Ct
def db(o:Option (List Pr))(h:Int)(x:Option Addr×Nat):Nd:=match o with|some m=>{Nd.zero with kind:=6,hash:=h,prA:=x.1,prN:=m.length,dB:=x.2}|none=>Nd.zero
def X6(o:Option (List Pr)):List Pr:=o.getD []
def Md(o:Option (List Pr))(h:Int)(x:Option Addr×Nat):Nd:=match o with|some m=>if m.length=1 then{Nd.zero with kind:=5,hash:=h,key:=(m.getD 0 (⟨#[]⟩,0)).1,val:=(m.getD 0 (⟨#[]⟩,0)).2} else{Nd.zero with kind:=6,hash:=h,prA:=x.1,prN:=m.length,dB:=x.2}|none=>Nd.zero
def Hw(o:Option (List Pr)):List Pr:=match o with|some m=>if m.length=1 then [] else m|none=>[]
open Classical in
noncomputable def kF (n:Nd) (xs:List Int) (ys:List Pr) (k:ByteArray) (v:Int):Option (List Pr):=if LV n xs ys/\k.size<=64 then some (Ol ys k v) else none
open Classical in
noncomputable def pK (n:Nd) (xs:List Int) (ys:List Pr) (k:ByteArray):Option (List Pr):=if LV n xs ys/\(dL ys k).isSome=true then some (rA ys k) else none
def aAj(w:World)(o:Option (List Pr))(h:Int)(e:Ending)(w':World):Prop:=∃x:Option Addr×Nat,e=.returned (.tuple #[(db o h x).v,.bool o.isSome])/\(X6 o).length<=x.2/\SF w [] [] [] [(x.1,dB (X6 o))] [] w'
def aAa(w:World)(o:Option (List Pr))(h:Int)(e:Ending)(w':World):Prop:=∃x:Option Addr×Nat,e=.returned (.tuple #[(Md o h x).v,.bool o.isSome])/\(Hw o).length<=x.2/\SF w [] [] [] [(x.1,dB (Hw o))] [] w'
section
variable{n s:Nd}{xs:List Int}{ys:List Pr}{w:World}{b:Nat}
theorem Qg(k:ByteArray)(v:Int)(hb:n.bm=(b:Int))(hb2:b<18446744073709551616)(hr:rQ w n xs ys)(hy:ys.length<=150000000000):Calls Tryz.prog 247 #[n.v,.string k,.int .u64 v] w (aAj w (kF n xs ys k v) n.hash):=by
 have e2:=hr.prN
 refine enter Tryz.func247 Tryz.ntmps247 rfl rfl (SF.s1 hr.pr) ?_
 simp only[bW]
 simp only[Nd.v,Nd.cells,e2]
 refine J0 ?_;refine bL (λ x3=>?_);refine aJ (λ x6=>?_);refine hJ ?_;refine nJ ?_;refine aC (c0 (V:=.bool) (hc:=λ w1 hw=>by rw[<- e2];exact Na (n:=n) hb hb2 (hr.fO hw.done))) (λ x9 h9=>?_);refine Ed ?_
 (refine dZ 11 (λ g11=>?_) (λ g11=>?_)<;>(first|refine aI ?_|(refine aF ?_;refine aA ?_)))
 all_goals ((first|refine aI ?_|(refine aF ?_;refine lU ?_));refine B8 ?_;refine aH ?_)
 all_goals
 refine bB (λ c15=>?_) (λ c15=>?_)
 ·all_goals (refine J0 ?_;refine bG ?_;refine xP ?_)
  all_goals
   refine aZ Tryz.results247 (λ w hw=>?_)
   rw[show kF n xs ys k v=none from if_neg (by rintro ⟨t1,t2⟩;have:=h9.2 t1;clear hw;first|omega|(simp_all;done))];exact⟨(none,0),rfl,Nat.le_refl _,(hw.Ju none).fin⟩
 ·try exact nv c15
  all_goals (refine kC ?_;refine dS [(0,[]),(1,[]),(2,[]),(3,[]),(4,[]),(5,[]),(6,[1]),(7,[]),(8,[]),(9,[])] ?_;refine mX ?_;refine mX ?_;refine hX ?_;refine aY (i:=6) (hq:=(cF (hc:=λ w1 hw=>Zb (l:=ys) k v (hw.cl fin) (by omega)))) (h:=λ x23 h23=>?_);refine iO ?_;refine Az ?_)
  all_goals
   refine aZ Tryz.results247 (λ w hw=>?_)
   rw[show kF n xs ys k v=some (Ol ys k v) from if_pos ⟨h9.1 (by clear hw;simp_all),by omega⟩];exact⟨x23,rfl,h23,hw.fin⟩
theorem Nz(k:ByteArray)(hb:n.bm=(b:Int))(hb2:b<18446744073709551616)(hr:rQ w n xs ys)(hy:ys.length<=150000000000):Calls Tryz.prog 251 #[n.v,.string k] w (aAa w (pK n xs ys k) n.hash):=by
 have e2:=hr.prN
 refine enter Tryz.func251 Tryz.ntmps251 rfl rfl (SF.s1 hr.pr) ?_
 simp only[bW]
 simp only[Nd.v,Nd.cells,e2]
 refine J0 ?_;refine bL (λ x2=>?_);refine aJ (λ x4=>?_);refine hJ ?_;refine gI ?_;refine aA ?_;refine aR (cV (hc:=λ w1 hw=>It (l:=ys) k (hw.cl fin) (by omega))) (λ x13=>?_);refine aA ?_;refine aB (bP rf rfl) rfl ?_;refine aB (bP rf rfl) rfl ?_;refine J8 ?_;refine nJ ?_;refine aC (c0 (V:=.bool) (hc:=λ w1 hw=>by rw[<- e2];exact Na (n:=n) hb hb2 (hr.fO hw.done))) (λ x17 h17=>?_);refine Ed ?_
 (refine dZ 19 (λ g19=>?_) (λ g19=>?_)<;>(first|refine aI ?_|(refine aF ?_;refine aA ?_)))
 all_goals (refine Mi ?_;refine aH ?_)
 all_goals
 refine bB (λ c22=>?_) (λ c22=>?_)
 ·all_goals (refine J0 ?_;refine bG ?_;refine xP ?_)
  all_goals
   refine aZ Tryz.results251 (λ w hw=>?_)
   rw[show pK n xs ys k=none from if_neg (by rintro ⟨t1,t2⟩;have:=h17.2 t1;clear hw;simp_all)];exact⟨(none,0),rfl,Nat.le_refl _,(hw.Ju none).fin⟩
 ·try exact nv c22
  all_goals (refine aW ?_;refine gI ?_;refine aA ?_;refine aC (cF (hc:=λ w1 hw=>Wy (l:=ys) k (hw.cl fin) (by omega))) (λ x27 h27=>?_);refine hJ ?_;refine J2 ?_;refine dE ?_;refine uI ?_)
  all_goals
   refine bB (λ c30=>?_) (λ c30=>?_)
   ·refine aT ?_;refine gD [0,1,2,3,4,5,6,7,8,9,10,11,12] ?_;refine mX ?_;refine aM ?_;refine bT (i:=3) (hq:=(Ez (k:=0) rf rf gG dV fin (by omega) (by omega))) (h:=?_);refine mX ?_;refine aM ?_;refine bT (i:=7) (hq:=(Ez (k:=0) rf rf gG dV fin (by omega) (by omega))) (h:=?_);refine aP ?_;refine bT (i:=9) (hq:=(Nl (q:=0) (lst:=rA ys k) rf gM fin (by omega))) (h:=?_);refine iO ?_;refine Az ?_
    refine aZ Tryz.results251 (λ w hw=>?_)
    have e1:(rA ys k).length=1:=by omega
    rw[show pK n xs ys k=some (rA ys k) from if_pos ⟨h17.1 (by clear hw;simp_all),by clear hw;simp_all⟩];exact⟨(none,0),by simp only[Md,if_pos e1];rfl,by simp only[Hw,if_pos e1];exact Nat.le_refl _,by simp only[Hw,if_pos e1];exact(hw.Ju none).fin⟩
   ·refine aW ?_;refine gI ?_;refine aA ?_;refine bG ?_;refine xP ?_
    refine aZ Tryz.results251 (λ w hw=>?_)
    have e1:¬(rA ys k).length=1:=by omega
    rw[show pK n xs ys k=some (rA ys k) from if_pos ⟨h17.1 (by clear hw;simp_all),by clear hw;simp_all⟩];exact⟨x27,by simp only[Md,if_neg e1];rfl,by simp only[Hw,if_neg e1];exact h27,by simp only[Hw,if_neg e1];exact hw.fin⟩
end
end

/- Branches: lists of lists, joined; the C-node of them. -/
end Go.Proofs.YtbajmaoegmbfgaaGreat
namespace Go.Ct
section
open Go Go.RowKit
section
variable{P:Program}{n:Nat}{S:List (Nat×Value)}
variable{w0 w w':World}{M:List Nat}{H H':List (Nat×Obj)}{A F F':Fr}{O O':List Ow}{G:World->Prop}
variable{d:Nat}{ty:TypeId}{pos:String}{af:Array Edge}{gd:Option (Nat×Bool)}{dst:Option Nat}{x y z:Operand}{t t2 e:TypeId}{p a:Option Addr}{i m k c c2:Nat}
end
end
end Go.Ct
namespace Go.Proofs.YtbajmaoegmbfgaaGreat
section
open Go Go.RowKit Go.Ct
end

/- Branches: Inserted, Updated, Removed. -/
section
open Go.RowKit Go.Ct
open Classical in
noncomputable def j9 (n:Nd) (xs:List Int) (ys:List Pr) (b:Nat) (i r:Int):Option (Nat×List Int):=if CV n xs ys/\(0<=i/\i<64)/\1<=r/\oY b i=false then some (dJ b i,uS xs (qF b i) r) else none
open Classical in
noncomputable def ka (n:Nd) (xs:List Int) (ys:List Pr) (b:Nat) (i r:Int):Option (Nat×List Int):=if CV n xs ys/\1<=r/\oY b i=true then some (b,zF xs (qF b i) r) else none
open Classical in
noncomputable def kh (n:Nd) (xs:List Int) (ys:List Pr) (b:Nat) (i:Int):Option (Nat×List Int):=if CV n xs ys/\oY b i=true then some (uU b i,rS xs (qF b i)) else none
def mA(o:Option (Nat×List Int))(x:Option Addr×Nat):Nd:=match o with|some q=>cn q.1 q.2 x|none=>Nd.zero
def lM(o:Option (Nat×List Int)):List Int:=match o with|some q=>q.2|none=>[]
def Wu(w:World)(o:Option (Nat×List Int))(e:Ending)(w':World):Prop:=∃x:Option Addr×Nat,e=.returned (.tuple #[(mA o x).v,.bool o.isSome])/\(lM o).length<=x.2/\SF w [] [] [] [(x.1,aG (lM o))] [] w'
section
variable{n:Nd}{xs:List Int}{ys:List Pr}{w:World}{b:Nat}
end
end

/- Branches: the reference's build, Inserted, Updated, Removed. -/
section
open Go.RowKit Go.Ct
def fX(b:Nat)(xs:List Int)(i:Nat)(r:Int):Nat->Option Int:=Mh (tG b xs) i (if 0<r then some r else none)
theorem nD{m:Nat->Option Int}{k:Nat}{v:Int}(h:m k=some v)(hk:k<64):dJ (Ay m k) (k:Int)=Ay m (k+1)/\qL m k++[v]=qL m (k+1):=by
 simp only[Ay,qL,h,dJ,Option.isSome_some,if_true,Option.toList,Int.toNat_natCast,and_true]
 exact if_pos (by omega)
theorem nE{m:Nat->Option Int}{k:Nat}(h:m k=none):Ay m k=Ay m (k+1)/\qL m k=qL m (k+1):=by
 simp[Ay,qL,h]
theorem zZ(m:Nat->Option Int){k:Nat}(hk:k<=64):Ay m k<18446744073709551616:=Nat.lt_of_lt_of_le (gv m k) (Nat.pow_le_pow_right (n:=2) (by decide) hk)
theorem Sy(m:Nat->Option Int):∀k,(qL m k).length<=k
 | 0=>Nat.le_refl _
 | k+1=>by have:=Sy m k;simp only[qL,List.length_append];cases m k<;>simp<;>omega
section
variable{n:Nd}{xs:List Int}{ys:List Pr}{w:World}{b:Nat}
theorem S9(hcv:CV n xs ys){k:Nat}(hk:k<64):K7 n xs ys b (k:Int)=tG b xs k:=by
 unfold K7 tG
 have h1:oY b (k:Int)=b.testBit k:=by rw[zK b (by omega) (by omega),Int.toNat_natCast]
 have h2:qF b (k:Int)=fZ b k:=by unfold qF;rw[Int.toNat_natCast,Nat.min_eq_left (by omega)]
 rw[h1,h2]
 by_cases h:b.testBit k=true<;>simp[h,hcv]
theorem Ec{i k:Nat}{r:Int}(hcv:CV n xs ys)(hk:k<64)(h:(k:Int)≠(i:Int)):fX b xs i r k=K7 n xs ys b (k:Int):=by
 rw[S9 hcv hk]
 exact if_neg (by omega)
theorem D1{i k:Nat}{r:Int}(h:(k:Int)=(i:Int)):fX b xs i r k=if 0<r then some r else none:=if_pos (by omega)
theorem Tp{o:Option Int}(h:o.isSome=true):o=some (o.getD 0):=by cases o<;>simp_all
theorem Ue{o:Option Int}(h:o.isSome=false):o=none:=by cases o<;>simp_all
set_option maxHeartbeats 800000 in
theorem K1(i:Nat)(r:Int)(_hi:i<64)(hcv:CV n xs ys)(hb:n.bm=(b:Int))(hb2:b<18446744073709551616)(hr:rQ w n xs ys) :
    Calls Tryz.prog 244 #[n.v,.int .i64 (i:Int),.int .i64 r] w λ e w'=>∃x:Option Addr×Nat,e=.returned (cn (Ay (fX b xs i r) 64) (qL (fX b xs i r) 64) x).v/\(qL (fX b xs i r) 64).length<=x.2/\SF w [] [] [] [(x.1,aG (qL (fX b xs i r) 64))] [] w':=by
  have e1:=hr.brN
  refine enter Tryz.func244 Tryz.ntmps244 rfl rfl (SF.s2 hr.br hr.pr) ?_
  simp only[bW]
  simp only[Nd.v,Nd.cells]
  refine J0 ?_;refine bL (λ x3=>?_);refine aJ (λ x6=>?_);refine aH ?_;refine J0 ?_;refine bG ?_;refine aJ (λ x7=>?_);refine J5 ?_;refine aT ?_;refine Ds ?_
  refine nS [8,9,10,12,13,14,15,16,17,18,19,20,21,22,23,24,25,26,27,28,29,30,31,32,33,34,35,36,37,38,39] (λ y:Nat×Option Addr×Nat=>[(8,.int .i64 ((y.1:Nat):Int))]) (λ y=>y.1<=64/\(qL (fX b xs i r) y.1).length<=y.2.2) (λ y=>[(x7,.cells ⟨[.int .i64 3,.int .i64 0,.int .i64 0,.int .u64 ((Ay (fX b xs i r) y.1:Nat):Int),.slice y.2.1 (qL (fX b xs i r) y.1).length y.2.2,.int .u64 0,.string ⟨#[]⟩,.int .u64 0,.slice none 0 0,.int .i64 0,.int .i64 0,.int .i64 0,.int .i64 0,.int .i64 0]⟩ 47),(x6,.cells ⟨Nd.zero.cells⟩ 47),(x3,.cells ⟨n.cells⟩ 47)]) (λ _=>_) (λ y=>[⟨y.2.1,aG (qL (fX b xs i r) y.1),y.2.2,37,1⟩]) (λ y=>64-y.1) ((0,none,0)) (⟨Nat.zero_le _,Nat.le_refl _⟩) (λ y f hx=>?_) (hw0:=λ w hw=>(hw.lJ 37 1).back)
  dsimp only[gU,List.map,List.cons_append,List.nil_append]
  have hll:=Sy (fX b xs i r) y.1
  refine lA ?_;refine xU ?_
  refine bB (λ c13=>?_) (λ c13=>?_)
  · refine pU ?_;refine Dd ?_;refine aR (cV (hc:=λ w1 hw=>mU (n:=n) (y.1:Int) hb hb2 (hr.fO hw.done))) (λ x19=>?_);refine aA ?_;refine aB (iW rf rfl) rfl ?_;refine aB (iW rf rfl) rfl ?_;refine J8 ?_;refine Cq ?_;refine uI ?_
    refine bB (λ c24=>?_) (λ c24=>?_)
    · refine Jn ?_;refine Cg ?_;refine J8 ?_;refine J2 ?_;refine aH ?_
      refine bB (λ c28=>?_) (λ c28=>?_)
      · first
         | have hm:fX b xs i r y.1=some r:=by rw[D1 c24,if_pos (by omega)]
         | have hm:fX b xs i r y.1=some ((K7 n xs ys b (y.1:Int)).getD 0):=by rw[Ec hcv (by omega) c24];exact Tp c28
        refine dW [29,30,31,32,33,34,35,36,37,38,39] (λ z:Nat×Option Addr×Nat=>[]) (λ z=>(qL (fX b xs i r) y.1).length+1<=z.2.2) (λ z=>[(x7,.cells ⟨[.int .i64 3,.int .i64 0,.int .i64 0,.int .u64 ((Ay (fX b xs i r) (y.1+1):Nat):Int),.slice z.2.1 (qL (fX b xs i r) (y.1+1)).length z.2.2,.int .u64 0,.string ⟨#[]⟩,.int .u64 0,.slice none 0 0,.int .i64 0,.int .i64 0,.int .i64 0,.int .i64 0,.int .i64 0]⟩ 47),(x6,.cells ⟨Nd.zero.cells⟩ 47),(x3,.cells ⟨n.cells⟩ 47)]) (λ z=>[]) (λ z=>[⟨z.2.1,aG (qL (fX b xs i r) (y.1+1)),z.2.2,37,1⟩]) (by decide) (λ _=>by exact rfl) ?_ (λ z f hx=>?_)
        · refine gW (.one 0 [] (.one 1 [] (.one 2 [] (.one 4 [] (.one 5 [] (.one 6 [] (.two 3 [5] (.one 9 [] (.one 7 [1,5] (.one 8 [] (.one 10 [] (.one 11 [] (.one 12 [] .nil)))))) 0 [] (.two 7 [1,5] (.one 3 [5] (.one 9 [] (.one 8 [] (.one 10 [] (.one 11 [] (.one 12 [] .nil)))))) 0 [] .nil)))))))) ?_
          refine mX ?_;refine aM ?_;refine mX ?_;refine aM ?_
          refine gY (E:=[3,7]) (by decide +kernel) ((.cons ?_ (.cons ?_ .nil)))
          · refine Cn (i:=3) (hq:=(cV (hc:=λ w1 hw=>mF (zZ (fX b xs i r) (k:=y.1) (by omega)) (y.1:Int) w1))) (h:=λ x32=>?_)
            refine aP ?_;refine cA (h:=λ x36=>?_);((refine Aw (h:=λ x37=>?_);try (refine eV (λ h37=>?_))));refine Rl ?_;refine yP ?_
            refine eP ((0,x37)) ?_ (hw1:=λ w hw=>by obtain⟨k1,k2⟩:=nD hm (by omega);rw[k1,show(qL (fX b xs i r) y.1).length+1=(qL (fX b xs i r) (y.1+1)).length by rw[<- k2];simp,k2] at hw;exact hw.back)
            · exact h37
          · refine Ah (i:=7) (h:=λ x36=>?_)
            refine cD (i:=3) (hq:=(cV (hc:=λ w1 hw=>mF (zZ (fX b xs i r) (k:=y.1) (by omega)) (y.1:Int) w1))) (h:=λ x32=>?_);refine aP ?_;((refine Aw (h:=λ x37=>?_);try (refine eV (λ h37=>?_))));refine Rl ?_;refine yP ?_
            refine eP ((0,x37)) ?_ (hw1:=λ w hw=>by obtain⟨k1,k2⟩:=nD hm (by omega);rw[k1,show(qL (fX b xs i r) y.1).length+1=(qL (fX b xs i r) (y.1+1)).length by rw[<- k2];simp,k2] at hw;exact hw.back)
            · exact h37
        dsimp only[gU,List.map,List.cons_append,List.nil_append]
        refine fA ?_;refine xL ?_
        refine iJ ((by exact(y.1+1,z.2))) ?_ (hw1:=λ w hw=>by exact hw.back)
        · first
           | exact⟨by omega,by have k2:=(nD hm (by omega)).2;simp only[];rw[<- k2,List.length_append];exact hx⟩
           | exact⟨by omega,by simp only[];rw[<- (nE hm).2];exact hx.2⟩
      · have hm:fX b xs i r y.1=none:=by
         first
          | (rw[D1 c24,if_neg (by omega)];done)
          | (rw[Ec hcv (by omega) c24];exact Ue c28)
        refine nR ?_;refine xL ?_
        refine iJ ((by exact(y.1+1,y.2))) ?_ (hw1:=λ w hw=>by(rw[(nE hm).1,(nE hm).2] at hw;exact hw.back))
        · first
           | exact⟨by omega,by have k2:=(nD hm (by omega)).2;simp only[];rw[<- k2,List.length_append];exact hx⟩
           | exact⟨by omega,by simp only[];rw[<- (nE hm).2];exact hx.2⟩
    · refine aW ?_;refine J2 ?_;refine aH ?_
      refine bB (λ c28=>?_) (λ c28=>?_)
      · first
         | have hm:fX b xs i r y.1=some r:=by rw[D1 c24,if_pos (by omega)]
         | have hm:fX b xs i r y.1=some ((K7 n xs ys b (y.1:Int)).getD 0):=by rw[Ec hcv (by omega) c24];exact Tp c28
        refine dW [29,30,31,32,33,34,35,36,37,38,39] (λ z:Nat×Option Addr×Nat=>[]) (λ z=>(qL (fX b xs i r) y.1).length+1<=z.2.2) (λ z=>[(x7,.cells ⟨[.int .i64 3,.int .i64 0,.int .i64 0,.int .u64 ((Ay (fX b xs i r) (y.1+1):Nat):Int),.slice z.2.1 (qL (fX b xs i r) (y.1+1)).length z.2.2,.int .u64 0,.string ⟨#[]⟩,.int .u64 0,.slice none 0 0,.int .i64 0,.int .i64 0,.int .i64 0,.int .i64 0,.int .i64 0]⟩ 47),(x6,.cells ⟨Nd.zero.cells⟩ 47),(x3,.cells ⟨n.cells⟩ 47)]) (λ z=>[]) (λ z=>[⟨z.2.1,aG (qL (fX b xs i r) (y.1+1)),z.2.2,37,1⟩]) (by decide) (λ _=>by exact rfl) ?_ (λ z f hx=>?_)
        · refine gW (.one 0 [] (.one 1 [] (.one 2 [] (.one 4 [] (.one 5 [] (.one 6 [] (.two 3 [5] (.one 9 [] (.one 7 [1,5] (.one 8 [] (.one 10 [] (.one 11 [] (.one 12 [] .nil)))))) 0 [] (.two 7 [1,5] (.one 3 [5] (.one 9 [] (.one 8 [] (.one 10 [] (.one 11 [] (.one 12 [] .nil)))))) 0 [] .nil)))))))) ?_
          refine mX ?_;refine aM ?_;refine mX ?_;refine aM ?_
          refine gY (E:=[3,7]) (by decide +kernel) ((.cons ?_ (.cons ?_ .nil)))
          · refine Cn (i:=3) (hq:=(cV (hc:=λ w1 hw=>mF (zZ (fX b xs i r) (k:=y.1) (by omega)) (y.1:Int) w1))) (h:=λ x32=>?_)
            refine aP ?_;refine cA (h:=λ x36=>?_);((refine Aw (h:=λ x37=>?_);try (refine eV (λ h37=>?_))));refine Rl ?_;refine yP ?_
            refine eP ((0,x37)) ?_ (hw1:=λ w hw=>by obtain⟨k1,k2⟩:=nD hm (by omega);rw[k1,show(qL (fX b xs i r) y.1).length+1=(qL (fX b xs i r) (y.1+1)).length by rw[<- k2];simp,k2] at hw;exact hw.back)
            · exact h37
          · refine Ah (i:=7) (h:=λ x36=>?_)
            refine cD (i:=3) (hq:=(cV (hc:=λ w1 hw=>mF (zZ (fX b xs i r) (k:=y.1) (by omega)) (y.1:Int) w1))) (h:=λ x32=>?_);refine aP ?_;((refine Aw (h:=λ x37=>?_);try (refine eV (λ h37=>?_))));refine Rl ?_;refine yP ?_
            refine eP ((0,x37)) ?_ (hw1:=λ w hw=>by obtain⟨k1,k2⟩:=nD hm (by omega);rw[k1,show(qL (fX b xs i r) y.1).length+1=(qL (fX b xs i r) (y.1+1)).length by rw[<- k2];simp,k2] at hw;exact hw.back)
            · exact h37
        dsimp only[gU,List.map,List.cons_append,List.nil_append]
        refine fA ?_;refine xL ?_
        refine iJ ((by exact(y.1+1,z.2))) ?_ (hw1:=λ w hw=>by exact hw.back)
        · first
           | exact⟨by omega,by have k2:=(nD hm (by omega)).2;simp only[];rw[<- k2,List.length_append];exact hx⟩
           | exact⟨by omega,by simp only[];rw[<- (nE hm).2];exact hx.2⟩
      · have hm:fX b xs i r y.1=none:=by
         first
          | (rw[D1 c24,if_neg (by omega)];done)
          | (rw[Ec hcv (by omega) c24];exact Ue c28)
        refine nR ?_;refine xL ?_
        refine iJ ((by exact(y.1+1,y.2))) ?_ (hw1:=λ w hw=>by(rw[(nE hm).1,(nE hm).2] at hw;exact hw.back))
        · first
           | exact⟨by omega,by have k2:=(nD hm (by omega)).2;simp only[];rw[<- k2,List.length_append];exact hx⟩
           | exact⟨by omega,by simp only[];rw[<- (nE hm).2];exact hx.2⟩
  · refine bN rfl ?_;refine nJ ?_;refine J5 ?_
    refine aZ Tryz.results244 (λ w hw=>?_)
    have hy:y.1=64:=by omega
    rw[hy] at hw hx ⊢
    generalize Ay (fX b xs i r) 64=B at hw ⊢
    generalize qL (fX b xs i r) 64=L at hw hx ⊢
    exact⟨y.2,rfl,hx.2,SF.frz hw.aS⟩
end
end

/- Branches: the reference's Inserted, Updated, Removed. -/
section
open Go.RowKit Go.Ct
theorem of_eq{m:Nat->Option Int}{b:Nat}{xs:List Int}(h:BV b xs/\∀k,k<64->tG b xs k=m k):Ay m 64=b/\qL m 64=xs:=by
 obtain⟨h1,h2⟩:=M9 64 λ k hk=>(h.2 k hk).symm
 obtain⟨h3,h4⟩:=Z3 h.1
 exact⟨h1.trans h3,h2.trans h4⟩
theorem oN{k:Nat}(b:Nat)(hk:k<64):dJ b (k:Int)=b ||| 2^k:=by
 unfold dJ;rw[if_pos (by omega),Int.toNat_natCast]
theorem sA{k:Nat}(b:Nat)(hk:k<64):uU b (k:Int)=b ^^^ (b &&& 2^k):=by
 unfold uU;rw[if_pos (by omega),Int.toNat_natCast]
theorem mY{k:Nat}(b:Nat)(hk:k<64):qF b (k:Int)=fZ b k:=by
 unfold qF;rw[Int.toNat_natCast,Nat.min_eq_left (by omega)]
theorem oZ{k:Nat}(b:Nat)(hk:k<64):oY b (k:Int)=b.testBit k:=by
 rw[zK b (by omega) (by omega),Int.toNat_natCast]
theorem Xa{b k:Nat}{xs:List Int}{r:Int}(h:BV b xs)(hk:k<64)(hb:oY b (k:Int)=false)(hr:1<=r):Ay (fX b xs k r) 64=dJ b (k:Int)/\qL (fX b xs k r) 64=uS xs (qF b (k:Int)) r:=by
 rw[oZ b hk] at hb
 rw[oN b hk,mY b hk]
 unfold fX
 rw[if_pos (by omega)]
 exact of_eq (Ej h hk hb hr)
theorem Wq{b k:Nat}{xs:List Int}{r:Int}(h:BV b xs)(hk:k<64)(hb:oY b (k:Int)=true)(hr:1<=r):Ay (fX b xs k r) 64=b/\qL (fX b xs k r) 64=zF xs (qF b (k:Int)) r:=by
 rw[oZ b hk] at hb
 rw[mY b hk]
 unfold fX
 rw[if_pos (by omega)]
 exact of_eq (Ru h hk hb hr)
theorem Xp{b k:Nat}{xs:List Int}(h:BV b xs)(hk:k<64)(hb:oY b (k:Int)=true):Ay (fX b xs k 0) 64=uU b (k:Int)/\qL (fX b xs k 0) 64=rS xs (qF b (k:Int)):=by
 rw[oZ b hk] at hb
 rw[sA b hk,mY b hk]
 unfold fX
 rw[if_neg (by omega)]
 exact of_eq (Q4 h hk hb)
section
variable{n:Nd}{xs:List Int}{ys:List Pr}{w:World}{b:Nat}
theorem An{i:Int}(h:(K7 n xs ys b i).isSome=true):CV n xs ys/\oY b i=true:=by
 unfold K7 at h
 split at h
 ·assumption
 ·cases h
theorem Fy{i:Int}(h:(K7 n xs ys b i).isSome=false)(hcv:CV n xs ys):oY b i=false:=by
 unfold K7 at h
 split at h
 ·cases h
 ·rename_i hn
  cases hh:oY b i with
  | false=>rfl
  | true=>exact absurd ⟨hcv,hh⟩ hn
theorem H3(i r:Int)(hb:n.bm=(b:Int))(hb2:b<18446744073709551616)(hr:rQ w n xs ys):Calls Tryz.prog 249 #[n.v,.int .i64 i,.int .i64 r] w (Wu w (j9 n xs ys b i r)):=by
 refine enter Tryz.func249 Tryz.ntmps249 rfl rfl (SF.s2 hr.br hr.pr) ?_
 simp only[bW]
 simp only[Nd.v,Nd.cells]
 refine J0 ?_;refine bL (λ x3=>?_);refine aJ (λ x6=>?_);refine hJ ?_;refine Dd ?_;refine aR (cV (hc:=λ w1 hw=>mU (n:=n) i hb hb2 (hr.fO hw.done))) (λ x13=>?_);refine aA ?_;refine aB (iW rf rfl) rfl ?_;refine aB (iW rf rfl) rfl ?_;refine J8 ?_;refine nJ ?_;refine aC (c0 (V:=.bool) (hc:=λ w1 hw=>Yw (n:=n) hb hb2 (hr.fO hw.done))) (λ x17 h17=>?_);refine Ed ?_
 (refine dZ 19 (λ g19=>?_) (λ g19=>?_)<;>(first|refine aI ?_|(refine aF ?_;refine aA ?_)))
 all_goals (refine cH ?_;refine aA ?_)
 all_goals (first|refine aI ?_|(refine dZ 22 (λ g22=>?_) (λ g22=>?_)<;>(first|refine aI ?_|(refine aF ?_;refine aA ?_))))
 all_goals (refine r9 ?_;refine aA ?_)
 all_goals (first|refine aI ?_|(refine dZ 26 (λ g26=>?_) (λ g26=>?_)<;>(first|refine aI ?_|(refine aF ?_;refine aA ?_))))
 all_goals (refine B8 ?_;refine aA ?_)
 all_goals (first|refine aI ?_|(refine dZ 30 (λ g30=>?_) (λ g30=>?_)<;>(first|refine aI ?_|(refine aF ?_;refine aA ?_))))
 all_goals (refine r9 ?_;refine aH ?_)
 all_goals
 refine bB (λ c33=>?_) (λ c33=>?_)
 ·all_goals (refine J0 ?_;refine bG ?_;refine xP ?_)
  all_goals
   refine aZ Tryz.results249 (λ w hw=>?_)
   rw[show j9 n xs ys b i r=none from if_neg (by rintro ⟨k1,⟨k2,k3⟩,k4,k5⟩;clear hw;first|omega|exact absurd (An g22).2 (by simp[k5])|exact absurd (h17.2 k1) (by simp_all))];exact⟨(none,0),rfl,Nat.le_refl _,(hw.Ju none).fin⟩
 ·try exact nv c33
  all_goals
   have hcv:=h17.1 (by simpa using g19)
   have hh:=Fy g22 hcv
   obtain⟨k,rfl⟩:=Int.eq_ofNat_of_zero_le (show 0<=i by omega)
   have hk:=Xa (hcv.bv hb hb2) (k:=k) (by omega) hh (r:=r) (by omega)
  all_goals (refine aW ?_;refine nJ ?_;refine oW ?_;refine aC (cF (hc:=λ w1 hw=>by have:=K1 (w:=w1) k r (by omega) hcv hb hb2 (hr.fO hw.done);rw[hk.1,hk.2] at this;exact this)) (λ x38 h38=>?_);refine xP ?_)
  all_goals
   refine aZ Tryz.results249 (λ w hw=>?_)
   rw[show j9 n xs ys b (k:Int) r=some (dJ b (k:Int),uS xs (qF b (k:Int)) r) from if_pos ⟨hcv,⟨by omega,by omega⟩,by omega,hh⟩];exact⟨x38,rfl,h38,hw.fin⟩
theorem K0(i r:Int)(hb:n.bm=(b:Int))(hb2:b<18446744073709551616)(hr:rQ w n xs ys):Calls Tryz.prog 220 #[n.v,.int .i64 i,.int .i64 r] w (Wu w (ka n xs ys b i r)):=by
 refine enter Tryz.func220 Tryz.ntmps220 rfl rfl (SF.s2 hr.br hr.pr) ?_
 simp only[bW]
 simp only[Nd.v,Nd.cells]
 refine J0 ?_;refine bL (λ x3=>?_);refine aJ (λ x6=>?_);refine hJ ?_;refine Dd ?_;refine aR (cV (hc:=λ w1 hw=>mU (n:=n) i hb hb2 (hr.fO hw.done))) (λ x13=>?_);refine aA ?_;refine aB (iW rf rfl) rfl ?_;refine aB (iW rf rfl) rfl ?_;refine J8 ?_;refine J2 ?_;refine Ed ?_
 (refine dZ 18 (λ g18=>?_) (λ g18=>?_)<;>(first|refine aI ?_|(refine aF ?_;refine aA ?_)))
 all_goals (refine r9 ?_;refine aH ?_)
 all_goals
 refine bB (λ c21=>?_) (λ c21=>?_)
 ·all_goals (refine J0 ?_;refine bG ?_;refine xP ?_)
  all_goals
   refine aZ Tryz.results220 (λ w hw=>?_)
   rw[show ka n xs ys b i r=none from if_neg (by rintro ⟨k1,k4,k5⟩;clear hw;first|omega|exact absurd (Fy (by simpa using g18) k1) (by simp[k5]))];exact⟨(none,0),rfl,Nat.le_refl _,(hw.Ju none).fin⟩
 ·try exact nv c21
  all_goals
   have hc:=An (by simpa using g18)
   have hcv:=hc.1
   have hh:=hc.2
   obtain⟨q1,q2,_,_⟩:=rC hh
   obtain⟨k,rfl⟩:=Int.eq_ofNat_of_zero_le q1
   have hk:=Wq (hcv.bv hb hb2) (k:=k) (by omega) hh (r:=r) (by omega)
  all_goals (refine aW ?_;refine nJ ?_;refine oW ?_;refine aC (cF (hc:=λ w1 hw=>by have:=K1 (w:=w1) k r (by omega) hcv hb hb2 (hr.fO hw.done);rw[hk.1,hk.2] at this;exact this)) (λ x26 h26=>?_);refine xP ?_)
  all_goals
   refine aZ Tryz.results220 (λ w hw=>?_)
   rw[show ka n xs ys b (k:Int) r=some (b,zF xs (qF b (k:Int)) r) from if_pos ⟨hcv,by omega,hh⟩];exact⟨x26,rfl,h26,hw.fin⟩
theorem Jz(i:Int)(hb:n.bm=(b:Int))(hb2:b<18446744073709551616)(hr:rQ w n xs ys):Calls Tryz.prog 252 #[n.v,.int .i64 i] w (Wu w (kh n xs ys b i)):=by
 refine enter Tryz.func252 Tryz.ntmps252 rfl rfl (SF.s2 hr.br hr.pr) ?_
 simp only[bW]
 simp only[Nd.v,Nd.cells]
 refine J0 ?_;refine bL (λ x2=>?_);refine aJ (λ x4=>?_);refine hJ ?_;refine Dd ?_;refine aR (cV (hc:=λ w1 hw=>mU (n:=n) i hb hb2 (hr.fO hw.done))) (λ x11=>?_);refine aA ?_;refine aB (iW rf rfl) rfl ?_;refine aB (iW rf rfl) rfl ?_;refine J8 ?_;refine J2 ?_;refine nY ?_
 refine bB (λ c15=>?_) (λ c15=>?_)
 ·refine J0 ?_;refine bG ?_;refine xP ?_
  refine aZ Tryz.results252 (λ w hw=>?_)
  rw[show kh n xs ys b i=none from if_neg (by rintro ⟨k1,k5⟩;clear hw;exact absurd (Fy c15 k1) (by simp[k5]))];exact⟨(none,0),rfl,Nat.le_refl _,(hw.Ju none).fin⟩
 ·have hc:=An c15
  have hcv:=hc.1
  have hh:=hc.2
  obtain⟨q1,q2,_,_⟩:=rC hh
  obtain⟨k,rfl⟩:=Int.eq_ofNat_of_zero_le q1
  have hk:=Xp (hcv.bv hb hb2) (k:=k) (by omega) hh
  refine aW ?_;refine Dd ?_;refine aC (cF (hc:=λ w1 hw=>by have:=K1 (w:=w1) k 0 (by omega) hcv hb hb2 (hr.fO hw.done);rw[hk.1,hk.2] at this;exact this)) (λ x19 h19=>?_);refine xP ?_
  refine aZ Tryz.results252 (λ w hw=>?_)
  rw[show kh n xs ys b (k:Int)=some (uU b (k:Int),rS xs (qF b (k:Int))) from if_pos ⟨hcv,hh⟩];exact⟨x19,rfl,h19,hw.fin⟩
end
end

end Go.Proofs.YtbajmaoegmbfgaaGreat

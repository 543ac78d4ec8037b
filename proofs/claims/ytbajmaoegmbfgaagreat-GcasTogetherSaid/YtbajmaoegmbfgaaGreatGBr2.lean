/- Branches: what Lookup and Sole compute. -/
import Derived.Test.YtbajmaoegmbfgaaGreatGBitsE
import Derived.Test.YtbajmaoegmbfgaaGreatGAr5
import Derived.Test.YtbajmaoegmbfgaaGreatGAr8
import Derived.Test.YtbajmaoegmbfgaaGreatGPa4
import Derived.Test.YtbajmaoegmbfgaaGreatGNode3
import Derived.Test.YtbajmaoegmbfgaaGreatGJoin

set_option linter.unusedSimpArgs false
set_option linter.unusedVariables false
namespace Go.Ct
section
open Go Go.RowKit
end
end Go.Ct
namespace Go.Proofs.YtbajmaoegmbfgaaGreat
section
open Go.RowKit Go.Ct
def CV(n:Nd)(xs:List Int)(ys:List Pr):Prop:=n.kind=3/\bY n xs ys
theorem CV.bv{n:Nd}{xs:List Int}{ys:List Pr}{b:Nat}(h:CV n xs ys)(hb:n.bm=(b:Int))(hb2:b<18446744073709551616):BV b xs:=by
 obtain⟨h1,h2⟩:=sM h.1 h.2
 rw[hb,rK hb2] at h1
 exact⟨hb2,by omega,h2⟩
open Classical in
noncomputable def Lq (n:Nd) (xs:List Int) (ys:List Pr) (b:Nat) (i:Int):Option Int:=if CV n xs ys/\pT b i=true then some (xs.getD (rC b i) 0) else none
open Classical in
noncomputable def az (n:Nd) (xs:List Int) (ys:List Pr):Option Int:=if CV n xs ys/\xs.length=1 then some (xs.getD 0 0) else none
theorem rS{b:Nat}{i:Int}(h:pT b i=true):0<=i/\i<64/\b.testBit i.toNat=true/\rC b i=gI b i.toNat:=by
 simp only[pT,Bool.and_eq_true,decide_eq_true_eq] at h
 exact⟨h.1,h.2.1,h.2.2,by unfold rC;congr 1;omega⟩
theorem aBV{b:Nat}{xs:List Int}(h:BV b xs){i:Int}(hh:pT b i=true):rC b i<xs.length:=by
 obtain⟨h1,h2,h3,h4⟩:=rS hh
 rw[h4,h.len]
 exact oJ (by omega) h3
section
variable{n:Nd}{xs:List Int}{ys:List Pr}{w:World}{b:Nat}
theorem mj(hb:n.bm=(b:Int))(hb2:b<18446744073709551616)(hr:rO w n xs ys):Calls Tryz.prog 243 #[n.v] w λ e w'=>∃r:Bool,e=.returned (.bool r)/\(r=true↔CV n xs ys)/\St w [] [] w':=by
 refine enter Tryz.func243 Tryz.ntmps243 rfl rfl (SF.s0 w) ?_
 simp only[bX]
 simp only[Nd.v,Nd.cells]
 refine J0 ?_;refine bI (λ x1=>?_);refine J1 ?_;refine gZ ?_;refine mE ?_;refine aA ?_
 (refine eE 6 (λ g6=>?_) (λ g6=>?_)<;>(first|refine aI ?_|(refine aF ?_;refine bL ?_)))
 all_goals ((first|refine aI ?_|(refine aF ?_;refine aD (c0 (V:=.bool) (hc:=λ w1 hw=>zD (n:=n) hb hb2 (hr.gH hw.done))) (λ x8 h8=>?_)));refine cB ?_;refine J1 ?_)
 all_goals
 refine aT Tryz.results243 (λ w hw=>?_)
 refine⟨_,rfl,?_,hw.done⟩
 simp_all[CV]
theorem nW(i:Int)(hb:n.bm=(b:Int))(hb2:b<18446744073709551616)(hr:rO w n xs ys):Calls Tryz.prog 216 #[n.v,.int .i64 i] w λ e w'=>e=.returned (.tuple #[.int .i64 ((Lq n xs ys b i).getD 0),.bool (Lq n xs ys b i).isSome])/\St w [] [] w':=by
 have e1:=hr.brN
 refine enter Tryz.func216 Tryz.ntmps216 rfl rfl (SF.s2 hr.br hr.pr) ?_
 simp only[bX]
 simp only[Nd.v,Nd.cells,hb,e1]
 refine J0 ?_;refine bI (λ x2=>?_);refine J8 ?_;refine aV ?_;refine nQ ?_;refine aD (c0 (V:=.bool) (hc:=λ w1 hw=>by rw[<- e1,<- hb];exact mj (n:=n) hb hb2 (hr.gH hw.done))) (λ x7 h7=>?_);refine Bt ?_
 (refine eE 9 (λ g9=>?_) (λ g9=>?_)<;>(first|refine aI ?_|(refine aF ?_;refine aE ?_)))
 all_goals (refine kf ?_;(first|refine aI ?_|(refine aF ?_;refine aS (cV (hc:=λ w1 hw=>Fy hb2 i w1)) (λ x13=>?_)));refine Qn ?_;refine aH ?_)
 all_goals
 refine bB (λ c15=>?_) (λ c15=>?_)
 ·all_goals refine P7 ?_
  all_goals
   refine bC Tryz.results216 (λ w hw=>?_)
   rw[show Lq n xs ys b i=none from if_neg (by simp_all)];exact⟨rfl,hw.done⟩
 ·try exact nv c15
  all_goals
   have hcv:CV n xs ys:=h7.1 (by simpa using g9)
   have hpl:=aBV (hcv.bv hb hb2) c15
  all_goals (refine jV ?_;refine dK [(0,[]),(1,[]),(2,[]),(3,[]),(4,[]),(5,[1]),(6,[]),(7,[]),(8,[]),(9,[])] ?_;refine kG ?_;refine kG ?_;refine aN ?_;refine cH (i:=5) (hq:=(cV (hc:=λ w1 hw=>Pd hb2 i w1))) (h:=λ x21=>?_);refine Oe ?_;refine Rn ?_)
  all_goals
   refine bC Tryz.results216 (λ w hw=>?_)
   rw[show Lq n xs ys b i=some (xs.getD (rC b i) 0) from if_pos ⟨hcv,c15⟩];exact⟨rfl,hw.done⟩
theorem Ju(hb:n.bm=(b:Int))(hb2:b<18446744073709551616)(hr:rO w n xs ys):Calls Tryz.prog 245 #[n.v] w λ e w'=>e=.returned (.tuple #[.int .i64 ((az n xs ys).getD 0),.bool (az n xs ys).isSome])/\St w [] [] w':=by
 have e1:=hr.brN
 refine enter Tryz.func245 Tryz.ntmps245 rfl rfl (SF.s2 hr.br hr.pr) ?_
 simp only[bX]
 simp only[Nd.v,Nd.cells,e1]
 refine J0 ?_;refine bI (λ x1=>?_);refine J8 ?_;refine aV ?_;refine nQ ?_;refine aD (c0 (V:=.bool) (hc:=λ w1 hw=>by rw[<- e1];exact mj (n:=n) hb hb2 (hr.gH hw.done))) (λ x5 h5=>?_);refine Bt ?_
 (refine eE 7 (λ g7=>?_) (λ g7=>?_)<;>(first|refine aI ?_|(refine aF ?_;refine aE ?_)))
 all_goals ((first|refine aI ?_|(refine aF ?_;refine bL ?_));(first|refine aI ?_|(refine aF ?_;refine dB ?_));refine Rq ?_;refine aH ?_)
 all_goals
 refine bB (λ c12=>?_) (λ c12=>?_)
 ·all_goals refine P7 ?_
  all_goals
   refine bC Tryz.results245 (λ w hw=>?_)
   rw[show az n xs ys=none from if_neg (by simp_all;try omega)];exact⟨rfl,hw.done⟩
 ·try exact nv c12
  all_goals
   have hcv:CV n xs ys:=h5.1 (by simpa using g7)
   have hl1:xs.length=1:=by omega
  all_goals (refine bA ?_;refine gZ ?_;refine aC (dF (k:=0) rf rf fZ fQ fin (by omega) (by omega)) rfl ?_;refine bL ?_;refine J8 ?_)
  all_goals
   refine bC Tryz.results245 (λ w hw=>?_)
   rw[show az n xs ys=some (xs.getD 0 0) from if_pos ⟨hcv,hl1⟩];exact⟨rfl,hw.done⟩
end
end

/- Branches: a C-node of a bitmap and a list. -/
section
open Go.RowKit Go.Ct
def cn(b:Nat)(xs:List Int)(x:Option Addr×Nat):Nd:={Nd.zero with kind:=3,bm:=(b:Int),brA:=x.1,brN:=xs.length,brC:=x.2}
theorem aAL{b:Nat}{xs:List Int}(h:BV b xs)(x:Option Addr×Nat){p:Int}(hp:0<=p):CV {cn b xs x with prev:=p} xs [] :=
 ⟨rfl,by simp[rQ,Nd.own,Nd.jT,Nd.jB,cn],by simp[cn,Nd.zero],hp,by simp[cn,Nd.zero],.inr (.inr (.inl ⟨rfl,by show(xs.length:Int)=yR (b:Int);rw[rK h.lt,h.len],h.pos⟩))⟩
theorem aAh{b:Nat}{xs:List Int}(h:BV b xs)(x:Option Addr×Nat):CV (cn b xs x) xs []:=aAL h x (p:=0) (Int.le_refl _)
end

/- Nodes and lists of pairs out of tapes. -/
end Go.Proofs.YtbajmaoegmbfgaaGreat
namespace Go.Ct
section
end
end Go.Ct
namespace Go.Proofs.YtbajmaoegmbfgaaGreat
section
open Go.RowKit Go.Ct
structure aB3(refs:Int)(n:Nd)(xs:List Int)(ys:List Pr):Prop where
 valid:bY n xs ys
 brN:n.brN=xs.length
 prN:n.prN=ys.length
 brC:n.brN<=n.brC
 cU:n.prN<=n.cU
 bm:∃b:Nat,n.bm=(b:Int)/\b<18446744073709551616
 xs64:xs.length<=64
 ys2:ys.length<=2
 key:n.key.size<=4
 cells:n.main=0/\n.prev=0/\n.status=0
 gen:0<=n.gen/\n.gen<=3
 kind:n.kind=2∨n.kind=3∨n.kind=4∨n.kind=5∨n.kind=6∨n.kind=8
 refs:(∀r∈xs,1<=r/\r<=refs)/\0<=n.bK/\n.bK<=refs/\0<=n.exp/\n.exp<=refs/\0<=n.new/\n.new<=refs
end

/- Tombs: Untombed, Contracted, Grown, Shrunk: both sides. -/
section
open Go.RowKit Go.Ct
def tmb(s:Nd):Nd:={Nd.zero with kind:=5,hash:=s.hash,key:=s.key,val:=s.val}
def Ig(n:Nd):Nd:=if n.kind=5 then{Nd.zero with kind:=4,hash:=n.hash,key:=n.key,val:=n.val} else Nd.zero
theorem Jh(n:Nd)(w:World):Calls Tryz.prog 219 #[n.v] w λ e w'=>e=.returned (.tuple #[(Ig n).v,.bool (decide (n.kind=5))])/\St w [] [] w':=by
 refine enter Tryz.func219 Tryz.ntmps219 rfl rfl (SF.s0 w) ?_
 simp only[bX]
 simp only[Nd.v,Nd.cells]
 refine J0 ?_;refine bI (λ x1=>?_);refine aJ (λ x2=>?_);refine iB ?_;refine gZ ?_;refine lS ?_;refine aH ?_
 refine bB (λ c6=>?_) (λ c6=>?_)
 ·refine J0 ?_;refine bJ ?_;refine wJ ?_
  refine bC Tryz.results219 (λ w hw=>?_)
  exact⟨by rw[show Ig n=Nd.zero from if_neg (by assumption),decide_eq_false (by assumption)];rfl,hw.done⟩
 ·refine bA ?_;refine gZ ?_;refine J3 ?_;refine J3 ?_;refine bJ ?_;refine wJ ?_
  refine bC Tryz.results219 (λ w hw=>?_)
  exact⟨by rw[show Ig n={Nd.zero with kind:=4,hash:=n.hash,key:=n.key,val:=n.val} from if_pos (by omega),decide_eq_true (by omega)];rfl,hw.done⟩
section
variable{n s:Nd}{xs:List Int}{ys:List Pr}{w:World}{b:Nat}
def LV(n:Nd)(xs:List Int)(ys:List Pr):Prop:=n.kind=6/\bY n xs ys
theorem Q2(hb:n.bm=(b:Int))(hb2:b<18446744073709551616)(hr:rO w n xs ys):Calls Tryz.prog 255 #[n.v] w λ e w'=>∃r:Bool,e=.returned (.bool r)/\(r=true↔LV n xs ys)/\St w [] [] w':=by
 refine enter Tryz.func255 Tryz.ntmps255 rfl rfl (SF.s0 w) ?_
 simp only[bX]
 simp only[Nd.v,Nd.cells]
 refine J0 ?_;refine bI (λ x1=>?_);refine J1 ?_;refine gZ ?_;refine mE ?_;refine aA ?_
 (refine eE 6 (λ g6=>?_) (λ g6=>?_)<;>(first|refine aI ?_|(refine aF ?_;refine bL ?_)))
 all_goals ((first|refine aI ?_|(refine aF ?_;refine aD (c0 (V:=.bool) (hc:=λ w1 hw=>zD (n:=n) hb hb2 (hr.gH hw.done))) (λ x8 h8=>?_)));refine cB ?_;refine J1 ?_)
 all_goals
 refine aT Tryz.results255 (λ w hw=>?_)
 refine⟨_,rfl,?_,hw.done⟩
 simp_all[LV]
open Classical in
noncomputable def T8 (n:Nd) (xs:List Int) (ys:List Pr) (level:Int) (s:Nd):Bool:=decide ((az n xs ys).isSome=true/\0<level/\s.kind=4)
def u4(t:Bool)(n s:Nd):Nd:=if t=true then tmb s else n
def n5{α:Type}(t:Bool)(l:List α):List α:=if t=true then [] else l
theorem Eh(level:Int)(s:Nd)(hb:n.bm=(b:Int))(hb2:b<18446744073709551616)(hr:rO w n xs ys):Calls Tryz.prog 221 #[n.v,.int .i64 level,s.v] w λ e w'=>e=.returned (u4 (T8 n xs ys level s) n s).v/\St w [] [] w':=by
 refine enter Tryz.func221 Tryz.ntmps221 rfl rfl (SF.s0 w) ?_
 simp only[bX]
 simp only[Nd.v,Nd.cells]
 refine J0 ?_;refine bI (λ x3=>?_);refine bI (λ x5=>?_);refine aJ (λ x6=>?_);refine Rt ?_;refine nQ ?_;refine aS (cV (hc:=λ w1 hw=>Ju (n:=n) hb hb2 (hr.gH hw.done))) (λ x11=>?_);refine aA ?_;refine aC (bP rf rfl) rfl ?_;refine aC (bP rf rfl) rfl ?_;refine J8 ?_;refine iR ?_
 (refine eE 15 (λ g15=>?_) (λ g15=>?_)<;>(first|refine aI ?_|(refine aF ?_;refine aA ?_)))
 all_goals (refine Bh ?_;refine aA ?_)
 all_goals (first|refine aI ?_|(refine eE 19 (λ g19=>?_) (λ g19=>?_)<;>(first|refine aI ?_|(refine aF ?_;refine aE ?_))))
 all_goals (refine J78 ?_;refine aH ?_)
 all_goals
 refine bB (λ c23=>?_) (λ c23=>?_)
 ·try exact nv c23
  all_goals (refine gZ ?_;refine J3 ?_;refine J3 ?_;refine vB ?_)
  all_goals
   refine bC Tryz.results221 (λ w hw=>?_)
   rw[show T8 n xs ys level s=true from decide_eq_true ⟨by assumption,by omega,by omega⟩];exact⟨rfl,hw.done⟩
 ·all_goals (refine bA ?_;refine nQ ?_;refine J5 ?_)
  all_goals
   refine bC Tryz.results221 (λ w hw=>?_)
   rw[show T8 n xs ys level s=false from decide_eq_false (by rintro ⟨t1,t2,t3⟩;first|omega|(clear hw;simp_all;done))];exact⟨rfl,hw.done⟩
end
end

/- Tombs: Grown, Shrunk: both sides; agrees. -/
section
open Go.RowKit Go.Ct
def mi(o:Option (List Pr))(h:Int)(x:Option Addr×Nat):Nd:=match o with|some m=>{Nd.zero with kind:=6,hash:=h,prA:=x.1,prN:=m.length,cU:=x.2}|none=>Nd.zero
def Zt(o:Option (List Pr)):List Pr:=o.getD []
def Nt(o:Option (List Pr))(h:Int)(x:Option Addr×Nat):Nd:=match o with|some m=>if m.length=1 then{Nd.zero with kind:=5,hash:=h,key:=(m.getD 0 (⟨#[]⟩,0)).1,val:=(m.getD 0 (⟨#[]⟩,0)).2} else{Nd.zero with kind:=6,hash:=h,prA:=x.1,prN:=m.length,cU:=x.2}|none=>Nd.zero
def I3(o:Option (List Pr)):List Pr:=match o with|some m=>if m.length=1 then [] else m|none=>[]
open Classical in
noncomputable def kP (n:Nd) (xs:List Int) (ys:List Pr) (k:ByteArray) (v:Int):Option (List Pr):=if LV n xs ys/\k.size<=64 then some (Q4 ys k v) else none
open Classical in
noncomputable def pR (n:Nd) (xs:List Int) (ys:List Pr) (k:ByteArray):Option (List Pr):=if LV n xs ys/\(dS ys k).isSome=true then some (rV ys k) else none
def aAw(w:World)(o:Option (List Pr))(h:Int)(e:Ending)(w':World):Prop:=∃x:Option Addr×Nat,e=.returned (.tuple #[(mi o h x).v,.bool o.isSome])/\(Zt o).length<=x.2/\SF w [] [] [] [(x.1,cU (Zt o))] [] w'
def aBm(w:World)(o:Option (List Pr))(h:Int)(e:Ending)(w':World):Prop:=∃x:Option Addr×Nat,e=.returned (.tuple #[(Nt o h x).v,.bool o.isSome])/\(I3 o).length<=x.2/\SF w [] [] [] [(x.1,cU (I3 o))] [] w'
section
variable{n s:Nd}{xs:List Int}{ys:List Pr}{w:World}{b:Nat}
theorem Sf(k:ByteArray)(v:Int)(hb:n.bm=(b:Int))(hb2:b<18446744073709551616)(hr:rO w n xs ys)(hy:ys.length<=150000000000):Calls Tryz.prog 247 #[n.v,.string k,.int .u64 v] w (aAw w (kP n xs ys k v) n.hash):=by
 have e2:=hr.prN
 refine enter Tryz.func247 Tryz.ntmps247 rfl rfl (SF.s1 hr.pr) ?_
 simp only[bX]
 simp only[Nd.v,Nd.cells,e2]
 refine J0 ?_;refine bI (λ x3=>?_);refine aJ (λ x6=>?_);refine iB ?_;refine nQ ?_;refine aD (c0 (V:=.bool) (hc:=λ w1 hw=>by rw[<- e2];exact Q2 (n:=n) hb hb2 (hr.gH hw.done))) (λ x9 h9=>?_);refine Bt ?_
 (refine eE 11 (λ g11=>?_) (λ g11=>?_)<;>(first|refine aI ?_|(refine aF ?_;refine aA ?_)))
 all_goals ((first|refine aI ?_|(refine aF ?_;refine lY ?_));refine Bh ?_;refine aH ?_)
 all_goals
 refine bB (λ c15=>?_) (λ c15=>?_)
 ·all_goals (refine J0 ?_;refine bJ ?_;refine wJ ?_)
  all_goals
   refine bC Tryz.results247 (λ w hw=>?_)
   rw[show kP n xs ys k v=none from if_neg (by rintro ⟨t1,t2⟩;have:=h9.2 t1;clear hw;first|omega|(simp_all;done))];exact⟨(none,0),rfl,Nat.le_refl _,(hw.Ls none).fin⟩
 ·try exact nv c15
  all_goals (refine jV ?_;refine dK [(0,[]),(1,[]),(2,[]),(3,[]),(4,[]),(5,[]),(6,[1]),(7,[]),(8,[]),(9,[])] ?_;refine kG ?_;refine kG ?_;refine iH ?_;refine aZ (i:=6) (hq:=(cF (hc:=λ w1 hw=>ma (l:=ys) k v (hw.cl fin) (by omega)))) (h:=λ x23 h23=>?_);refine fA ?_;refine Bm ?_)
  all_goals
   refine bC Tryz.results247 (λ w hw=>?_)
   rw[show kP n xs ys k v=some (Q4 ys k v) from if_pos ⟨h9.1 (by clear hw;simp_all),by omega⟩];exact⟨x23,rfl,h23,hw.fin⟩
theorem Rb(k:ByteArray)(hb:n.bm=(b:Int))(hb2:b<18446744073709551616)(hr:rO w n xs ys)(hy:ys.length<=150000000000):Calls Tryz.prog 251 #[n.v,.string k] w (aBm w (pR n xs ys k) n.hash):=by
 have e2:=hr.prN
 refine enter Tryz.func251 Tryz.ntmps251 rfl rfl (SF.s1 hr.pr) ?_
 simp only[bX]
 simp only[Nd.v,Nd.cells,e2]
 refine J0 ?_;refine bI (λ x2=>?_);refine aJ (λ x4=>?_);refine iB ?_;refine gZ ?_;refine aA ?_;refine aS (cV (hc:=λ w1 hw=>Jr (l:=ys) k (hw.cl fin) (by omega))) (λ x13=>?_);refine aA ?_;refine aC (bP rf rfl) rfl ?_;refine aC (bP rf rfl) rfl ?_;refine J8 ?_;refine nQ ?_;refine aD (c0 (V:=.bool) (hc:=λ w1 hw=>by rw[<- e2];exact Q2 (n:=n) hb hb2 (hr.gH hw.done))) (λ x17 h17=>?_);refine Bt ?_
 (refine eE 19 (λ g19=>?_) (λ g19=>?_)<;>(first|refine aI ?_|(refine aF ?_;refine aA ?_)))
 all_goals (refine Qn ?_;refine aH ?_)
 all_goals
 refine bB (λ c22=>?_) (λ c22=>?_)
 ·all_goals (refine J0 ?_;refine bJ ?_;refine wJ ?_)
  all_goals
   refine bC Tryz.results251 (λ w hw=>?_)
   rw[show pR n xs ys k=none from if_neg (by rintro ⟨t1,t2⟩;have:=h17.2 t1;clear hw;simp_all)];exact⟨(none,0),rfl,Nat.le_refl _,(hw.Ls none).fin⟩
 ·try exact nv c22
  all_goals (refine bA ?_;refine gZ ?_;refine aA ?_;refine aD (cF (hc:=λ w1 hw=>Y1 (l:=ys) k (hw.cl fin) (by omega))) (λ x27 h27=>?_);refine iB ?_;refine J2 ?_;refine dB ?_;refine uG ?_)
  all_goals
   refine bB (λ c30=>?_) (λ c30=>?_)
   ·refine aV ?_;refine gJ [0,1,2,3,4,5,6,7,8,9,10,11,12] ?_;refine kG ?_;refine aN ?_;refine bQ (i:=3) (hq:=(Hd (k:=0) rf rf fZ eD fin (by omega) (by omega))) (h:=?_);refine kG ?_;refine aN ?_;refine bQ (i:=7) (hq:=(Hd (k:=0) rf rf fZ eD fin (by omega) (by omega))) (h:=?_);refine aR ?_;refine bQ (i:=9) (hq:=(Qf (q:=0) (lst:=rV ys k) rf fQ fin (by omega))) (h:=?_);refine fA ?_;refine Bm ?_
    refine bC Tryz.results251 (λ w hw=>?_)
    have e1:(rV ys k).length=1:=by omega
    rw[show pR n xs ys k=some (rV ys k) from if_pos ⟨h17.1 (by clear hw;simp_all),by clear hw;simp_all⟩];exact⟨(none,0),by simp only[Nt,if_pos e1];rfl,by simp only[I3,if_pos e1];exact Nat.le_refl _,by simp only[I3,if_pos e1];exact(hw.Ls none).fin⟩
   ·refine bA ?_;refine gZ ?_;refine aA ?_;refine bJ ?_;refine wJ ?_
    refine bC Tryz.results251 (λ w hw=>?_)
    have e1:¬(rV ys k).length=1:=by omega
    rw[show pR n xs ys k=some (rV ys k) from if_pos ⟨h17.1 (by clear hw;simp_all),by clear hw;simp_all⟩];exact⟨x27,by simp only[Nt,if_neg e1];rfl,by simp only[I3,if_neg e1];exact h27,by simp only[I3,if_neg e1];exact hw.fin⟩
end
end

/- Branches: lists of lists, joined; the C-node of them. -/
end Go.Proofs.YtbajmaoegmbfgaaGreat
namespace Go.Ct
section
open Go Go.RowKit
section
variable{P:Program}{n:Nat}{S:List (Nat×Value)}
variable{w0 w w':World}{M:List Nat}{H H':List (Nat×Obj)}{A F F':Fr}{O O':List Ow}{G:World->Prop}
variable{d:Nat}{ty:TypeId}{pos:String}{af:Array Edge}{gd:Option (Nat×Bool)}{dst:Option Nat}{x y z:Operand}{t t2 e:TypeId}{p a:Option Addr}{i m k c c2:Nat}
end
end
end Go.Ct
namespace Go.Proofs.YtbajmaoegmbfgaaGreat
section
open Go Go.RowKit Go.Ct
end

/- Branches: Inserted, Updated, Removed. -/
section
open Go.RowKit Go.Ct
open Classical in
noncomputable def n6 (n:Nd) (xs:List Int) (ys:List Pr) (b:Nat) (i r:Int):Option (Nat×List Int):=if CV n xs ys/\(0<=i/\i<64)/\1<=r/\pT b i=false then some (dU b i,vG xs (rC b i) r) else none
open Classical in
noncomputable def nz (n:Nd) (xs:List Int) (ys:List Pr) (b:Nat) (i r:Int):Option (Nat×List Int):=if CV n xs ys/\1<=r/\pT b i=true then some (b,zP xs (rC b i) r) else none
open Classical in
noncomputable def n8 (n:Nd) (xs:List Int) (ys:List Pr) (b:Nat) (i:Int):Option (Nat×List Int):=if CV n xs ys/\pT b i=true then some (uY b i,sA xs (rC b i)) else none
def mT(o:Option (Nat×List Int))(x:Option Addr×Nat):Nd:=match o with|some q=>cn q.1 q.2 x|none=>Nd.zero
def mN(o:Option (Nat×List Int)):List Int:=match o with|some q=>q.2|none=>[]
def Yx(w:World)(o:Option (Nat×List Int))(e:Ending)(w':World):Prop:=∃x:Option Addr×Nat,e=.returned (.tuple #[(mT o x).v,.bool o.isSome])/\(mN o).length<=x.2/\SF w [] [] [] [(x.1,aG (mN o))] [] w'
section
variable{n:Nd}{xs:List Int}{ys:List Pr}{w:World}{b:Nat}
end
end

/- Branches: the reference's build, Inserted, Updated, Removed. -/
section
open Go.RowKit Go.Ct
def gQ(b:Nat)(xs:List Int)(i:Nat)(r:Int):Nat->Option Int:=Np (rA b xs) i (if 0<r then some r else none)
theorem nT{m:Nat->Option Int}{k:Nat}{v:Int}(h:m k=some v)(hk:k<64):dU (Bl m k) (k:Int)=Bl m (k+1)/\pF m k++[v]=pF m (k+1):=by
 simp only[Bl,pF,h,dU,Option.isSome_some,if_true,Option.toList,Int.toNat_natCast,and_true]
 exact if_pos (by omega)
theorem oE{m:Nat->Option Int}{k:Nat}(h:m k=none):Bl m k=Bl m (k+1)/\pF m k=pF m (k+1):=by
 simp[Bl,pF,h]
theorem Ay(m:Nat->Option Int){k:Nat}(hk:k<=64):Bl m k<18446744073709551616:=Nat.lt_of_lt_of_le (cq m k) (Nat.pow_le_pow_right (n:=2) (by decide) hk)
theorem Vf(m:Nat->Option Int):∀k,(pF m k).length<=k
 | 0=>Nat.le_refl _
 | k+1=>by have:=Vf m k;simp only[pF,List.length_append];cases m k<;>simp<;>omega
section
variable{n:Nd}{xs:List Int}{ys:List Pr}{w:World}{b:Nat}
theorem V1(hcv:CV n xs ys){k:Nat}(hk:k<64):Lq n xs ys b (k:Int)=rA b xs k:=by
 unfold Lq rA
 have h1:pT b (k:Int)=b.testBit k:=by rw[sI b (by omega) (by omega),Int.toNat_natCast]
 have h2:rC b (k:Int)=gI b k:=by unfold rC;rw[Int.toNat_natCast,Nat.min_eq_left (by omega)]
 rw[h1,h2]
 by_cases h:b.testBit k=true<;>simp[h,hcv]
theorem Eu{i k:Nat}{r:Int}(hcv:CV n xs ys)(hk:k<64)(h:(k:Int)≠(i:Int)):gQ b xs i r k=Lq n xs ys b (k:Int):=by
 rw[V1 hcv hk]
 exact if_neg (by omega)
theorem Et{i k:Nat}{r:Int}(h:(k:Int)=(i:Int)):gQ b xs i r k=if 0<r then some r else none:=if_pos (by omega)
theorem W6{o:Option Int}(h:o.isSome=true):o=some (o.getD 0):=by cases o<;>simp_all
theorem Va{o:Option Int}(h:o.isSome=false):o=none:=by cases o<;>simp_all
set_option maxHeartbeats 800000 in
theorem Lx(i:Nat)(r:Int)(_hi:i<64)(hcv:CV n xs ys)(hb:n.bm=(b:Int))(hb2:b<18446744073709551616)(hr:rO w n xs ys) :
    Calls Tryz.prog 244 #[n.v,.int .i64 (i:Int),.int .i64 r] w λ e w'=>∃x:Option Addr×Nat,e=.returned (cn (Bl (gQ b xs i r) 64) (pF (gQ b xs i r) 64) x).v/\(pF (gQ b xs i r) 64).length<=x.2/\SF w [] [] [] [(x.1,aG (pF (gQ b xs i r) 64))] [] w':=by
  have e1:=hr.brN
  refine enter Tryz.func244 Tryz.ntmps244 rfl rfl (SF.s2 hr.br hr.pr) ?_
  simp only[bX]
  simp only[Nd.v,Nd.cells]
  refine J0 ?_;refine bI (λ x3=>?_);refine aJ (λ x6=>?_);refine aH ?_;refine J0 ?_;refine bJ ?_;refine aJ (λ x7=>?_);refine J5 ?_;refine aV ?_;refine Du ?_
  refine mZ [8,9,10,12,13,14,15,16,17,18,19,20,21,22,23,24,25,26,27,28,29,30,31,32,33,34,35,36,37,38,39] (λ y:Nat×Option Addr×Nat=>[(8,.int .i64 ((y.1:Nat):Int))]) (λ y=>y.1<=64/\(pF (gQ b xs i r) y.1).length<=y.2.2) (λ y=>[(x7,.cells ⟨[.int .i64 3,.int .i64 0,.int .i64 0,.int .u64 ((Bl (gQ b xs i r) y.1:Nat):Int),.slice y.2.1 (pF (gQ b xs i r) y.1).length y.2.2,.int .u64 0,.string ⟨#[]⟩,.int .u64 0,.slice none 0 0,.int .i64 0,.int .i64 0,.int .i64 0,.int .i64 0,.int .i64 0]⟩ 47),(x6,.cells ⟨Nd.zero.cells⟩ 47),(x3,.cells ⟨n.cells⟩ 47)]) (λ _=>_) (λ y=>[⟨y.2.1,aG (pF (gQ b xs i r) y.1),y.2.2,37,1⟩]) (λ y=>64-y.1) ((0,none,0)) (⟨Nat.zero_le _,Nat.le_refl _⟩) (λ y f hx=>?_) (hw0:=λ w hw=>(hw.kL 37 1).back)
  dsimp only[gU,List.map,List.cons_append,List.nil_append]
  have hll:=Vf (gQ b xs i r) y.1
  refine kB ?_;refine xA ?_
  refine bB (λ c13=>?_) (λ c13=>?_)
  · refine qE ?_;refine D4 ?_;refine aS (cV (hc:=λ w1 hw=>nW (n:=n) (y.1:Int) hb hb2 (hr.gH hw.done))) (λ x19=>?_);refine aA ?_;refine aC (jC rf rfl) rfl ?_;refine aC (jC rf rfl) rfl ?_;refine J8 ?_;refine Ds ?_;refine uG ?_
    refine bB (λ c24=>?_) (λ c24=>?_)
    · refine I2 ?_;refine Dh ?_;refine J8 ?_;refine J2 ?_;refine aH ?_
      refine bB (λ c28=>?_) (λ c28=>?_)
      · first
         | have hm:gQ b xs i r y.1=some r:=by rw[Et c24,if_pos (by omega)]
         | have hm:gQ b xs i r y.1=some ((Lq n xs ys b (y.1:Int)).getD 0):=by rw[Eu hcv (by omega) c24];exact W6 c28
        refine eA [29,30,31,32,33,34,35,36,37,38,39] (λ z:Nat×Option Addr×Nat=>[]) (λ z=>(pF (gQ b xs i r) y.1).length+1<=z.2.2) (λ z=>[(x7,.cells ⟨[.int .i64 3,.int .i64 0,.int .i64 0,.int .u64 ((Bl (gQ b xs i r) (y.1+1):Nat):Int),.slice z.2.1 (pF (gQ b xs i r) (y.1+1)).length z.2.2,.int .u64 0,.string ⟨#[]⟩,.int .u64 0,.slice none 0 0,.int .i64 0,.int .i64 0,.int .i64 0,.int .i64 0,.int .i64 0]⟩ 47),(x6,.cells ⟨Nd.zero.cells⟩ 47),(x3,.cells ⟨n.cells⟩ 47)]) (λ z=>[]) (λ z=>[⟨z.2.1,aG (pF (gQ b xs i r) (y.1+1)),z.2.2,37,1⟩]) (by decide) (λ _=>by exact rfl) ?_ (λ z f hx=>?_)
        · refine fP (.one 0 [] (.one 1 [] (.one 2 [] (.one 4 [] (.one 5 [] (.one 6 [] (.two 3 [5] (.one 9 [] (.one 7 [1,5] (.one 8 [] (.one 10 [] (.one 11 [] (.one 12 [] .nil)))))) 0 [] (.two 7 [1,5] (.one 3 [5] (.one 9 [] (.one 8 [] (.one 10 [] (.one 11 [] (.one 12 [] .nil)))))) 0 [] .nil)))))))) ?_
          refine kG ?_;refine aN ?_;refine kG ?_;refine aN ?_
          refine fV (E:=[3,7]) (by decide +kernel) ((.cons ?_ (.cons ?_ .nil)))
          · refine Jx (i:=3) (hq:=(cV (hc:=λ w1 hw=>nA (Ay (gQ b xs i r) (k:=y.1) (by omega)) (y.1:Int) w1))) (h:=λ x32=>?_)
            refine aR ?_;refine bV (h:=λ x36=>?_);((refine mF (h:=λ x37=>?_);try (refine eC (λ h37=>?_))));refine Se ?_;refine vZ ?_
            refine eQ ((0,x37)) ?_ (hw1:=λ w hw=>by obtain⟨k1,k2⟩:=nT hm (by omega);rw[k1,show(pF (gQ b xs i r) y.1).length+1=(pF (gQ b xs i r) (y.1+1)).length by rw[<- k2];simp,k2] at hw;exact hw.back)
            · exact h37
          · refine mG (i:=7) (h:=λ x36=>?_)
            refine cH (i:=3) (hq:=(cV (hc:=λ w1 hw=>nA (Ay (gQ b xs i r) (k:=y.1) (by omega)) (y.1:Int) w1))) (h:=λ x32=>?_);refine aR ?_;((refine mF (h:=λ x37=>?_);try (refine eC (λ h37=>?_))));refine Se ?_;refine vZ ?_
            refine eQ ((0,x37)) ?_ (hw1:=λ w hw=>by obtain⟨k1,k2⟩:=nT hm (by omega);rw[k1,show(pF (gQ b xs i r) y.1).length+1=(pF (gQ b xs i r) (y.1+1)).length by rw[<- k2];simp,k2] at hw;exact hw.back)
            · exact h37
        dsimp only[gU,List.map,List.cons_append,List.nil_append]
        refine fK ?_;refine uN ?_
        refine iP ((by exact(y.1+1,z.2))) ?_ (hw1:=λ w hw=>by exact hw.back)
        · first
           | exact⟨by omega,by have k2:=(nT hm (by omega)).2;simp only[];rw[<- k2,List.length_append];exact hx⟩
           | exact⟨by omega,by simp only[];rw[<- (oE hm).2];exact hx.2⟩
      · have hm:gQ b xs i r y.1=none:=by
         first
          | (rw[Et c24,if_neg (by omega)];done)
          | (rw[Eu hcv (by omega) c24];exact Va c28)
        refine nZ ?_;refine uN ?_
        refine iP ((by exact(y.1+1,y.2))) ?_ (hw1:=λ w hw=>by(rw[(oE hm).1,(oE hm).2] at hw;exact hw.back))
        · first
           | exact⟨by omega,by have k2:=(nT hm (by omega)).2;simp only[];rw[<- k2,List.length_append];exact hx⟩
           | exact⟨by omega,by simp only[];rw[<- (oE hm).2];exact hx.2⟩
    · refine bA ?_;refine J2 ?_;refine aH ?_
      refine bB (λ c28=>?_) (λ c28=>?_)
      · first
         | have hm:gQ b xs i r y.1=some r:=by rw[Et c24,if_pos (by omega)]
         | have hm:gQ b xs i r y.1=some ((Lq n xs ys b (y.1:Int)).getD 0):=by rw[Eu hcv (by omega) c24];exact W6 c28
        refine eA [29,30,31,32,33,34,35,36,37,38,39] (λ z:Nat×Option Addr×Nat=>[]) (λ z=>(pF (gQ b xs i r) y.1).length+1<=z.2.2) (λ z=>[(x7,.cells ⟨[.int .i64 3,.int .i64 0,.int .i64 0,.int .u64 ((Bl (gQ b xs i r) (y.1+1):Nat):Int),.slice z.2.1 (pF (gQ b xs i r) (y.1+1)).length z.2.2,.int .u64 0,.string ⟨#[]⟩,.int .u64 0,.slice none 0 0,.int .i64 0,.int .i64 0,.int .i64 0,.int .i64 0,.int .i64 0]⟩ 47),(x6,.cells ⟨Nd.zero.cells⟩ 47),(x3,.cells ⟨n.cells⟩ 47)]) (λ z=>[]) (λ z=>[⟨z.2.1,aG (pF (gQ b xs i r) (y.1+1)),z.2.2,37,1⟩]) (by decide) (λ _=>by exact rfl) ?_ (λ z f hx=>?_)
        · refine fP (.one 0 [] (.one 1 [] (.one 2 [] (.one 4 [] (.one 5 [] (.one 6 [] (.two 3 [5] (.one 9 [] (.one 7 [1,5] (.one 8 [] (.one 10 [] (.one 11 [] (.one 12 [] .nil)))))) 0 [] (.two 7 [1,5] (.one 3 [5] (.one 9 [] (.one 8 [] (.one 10 [] (.one 11 [] (.one 12 [] .nil)))))) 0 [] .nil)))))))) ?_
          refine kG ?_;refine aN ?_;refine kG ?_;refine aN ?_
          refine fV (E:=[3,7]) (by decide +kernel) ((.cons ?_ (.cons ?_ .nil)))
          · refine Jx (i:=3) (hq:=(cV (hc:=λ w1 hw=>nA (Ay (gQ b xs i r) (k:=y.1) (by omega)) (y.1:Int) w1))) (h:=λ x32=>?_)
            refine aR ?_;refine bV (h:=λ x36=>?_);((refine mF (h:=λ x37=>?_);try (refine eC (λ h37=>?_))));refine Se ?_;refine vZ ?_
            refine eQ ((0,x37)) ?_ (hw1:=λ w hw=>by obtain⟨k1,k2⟩:=nT hm (by omega);rw[k1,show(pF (gQ b xs i r) y.1).length+1=(pF (gQ b xs i r) (y.1+1)).length by rw[<- k2];simp,k2] at hw;exact hw.back)
            · exact h37
          · refine mG (i:=7) (h:=λ x36=>?_)
            refine cH (i:=3) (hq:=(cV (hc:=λ w1 hw=>nA (Ay (gQ b xs i r) (k:=y.1) (by omega)) (y.1:Int) w1))) (h:=λ x32=>?_);refine aR ?_;((refine mF (h:=λ x37=>?_);try (refine eC (λ h37=>?_))));refine Se ?_;refine vZ ?_
            refine eQ ((0,x37)) ?_ (hw1:=λ w hw=>by obtain⟨k1,k2⟩:=nT hm (by omega);rw[k1,show(pF (gQ b xs i r) y.1).length+1=(pF (gQ b xs i r) (y.1+1)).length by rw[<- k2];simp,k2] at hw;exact hw.back)
            · exact h37
        dsimp only[gU,List.map,List.cons_append,List.nil_append]
        refine fK ?_;refine uN ?_
        refine iP ((by exact(y.1+1,z.2))) ?_ (hw1:=λ w hw=>by exact hw.back)
        · first
           | exact⟨by omega,by have k2:=(nT hm (by omega)).2;simp only[];rw[<- k2,List.length_append];exact hx⟩
           | exact⟨by omega,by simp only[];rw[<- (oE hm).2];exact hx.2⟩
      · have hm:gQ b xs i r y.1=none:=by
         first
          | (rw[Et c24,if_neg (by omega)];done)
          | (rw[Eu hcv (by omega) c24];exact Va c28)
        refine nZ ?_;refine uN ?_
        refine iP ((by exact(y.1+1,y.2))) ?_ (hw1:=λ w hw=>by(rw[(oE hm).1,(oE hm).2] at hw;exact hw.back))
        · first
           | exact⟨by omega,by have k2:=(nT hm (by omega)).2;simp only[];rw[<- k2,List.length_append];exact hx⟩
           | exact⟨by omega,by simp only[];rw[<- (oE hm).2];exact hx.2⟩
  · refine bN rfl ?_;refine nQ ?_;refine J5 ?_
    refine bC Tryz.results244 (λ w hw=>?_)
    have hy:y.1=64:=by omega
    rw[hy] at hw hx ⊢
    generalize Bl (gQ b xs i r) 64=B at hw ⊢
    generalize pF (gQ b xs i r) 64=L at hw hx ⊢
    exact⟨y.2,rfl,hx.2,SF.frz hw.aU⟩
end
end

/- Branches: the reference's Inserted, Updated, Removed. -/
section
open Go.RowKit Go.Ct
theorem of_eq{m:Nat->Option Int}{b:Nat}{xs:List Int}(h:BV b xs/\∀k,k<64->rA b xs k=m k):Bl m 64=b/\pF m 64=xs:=by
 obtain⟨h1,h2⟩:=O4 64 λ k hk=>(h.2 k hk).symm
 obtain⟨h3,h4⟩:=Sc h.1
 exact⟨h1.trans h3,h2.trans h4⟩
theorem pC{k:Nat}(b:Nat)(hk:k<64):dU b (k:Int)=b ||| 2^k:=by
 unfold dU;rw[if_pos (by omega),Int.toNat_natCast]
theorem sF{k:Nat}(b:Nat)(hk:k<64):uY b (k:Int)=b ^^^ (b &&& 2^k):=by
 unfold uY;rw[if_pos (by omega),Int.toNat_natCast]
theorem nU{k:Nat}(b:Nat)(hk:k<64):rC b (k:Int)=gI b k:=by
 unfold rC;rw[Int.toNat_natCast,Nat.min_eq_left (by omega)]
theorem pY{k:Nat}(b:Nat)(hk:k<64):pT b (k:Int)=b.testBit k:=by
 rw[sI b (by omega) (by omega),Int.toNat_natCast]
theorem Xp{b k:Nat}{xs:List Int}{r:Int}(h:BV b xs)(hk:k<64)(hb:pT b (k:Int)=false)(hr:1<=r):Bl (gQ b xs k r) 64=dU b (k:Int)/\pF (gQ b xs k r) 64=vG xs (rC b (k:Int)) r:=by
 rw[pY b hk] at hb
 rw[pC b hk,nU b hk]
 unfold gQ
 rw[if_pos (by omega)]
 exact of_eq (Gi h hk hb hr)
theorem Yj{b k:Nat}{xs:List Int}{r:Int}(h:BV b xs)(hk:k<64)(hb:pT b (k:Int)=true)(hr:1<=r):Bl (gQ b xs k r) 64=b/\pF (gQ b xs k r) 64=zP xs (rC b (k:Int)) r:=by
 rw[pY b hk] at hb
 rw[nU b hk]
 unfold gQ
 rw[if_pos (by omega)]
 exact of_eq (Tf h hk hb hr)
theorem X1{b k:Nat}{xs:List Int}(h:BV b xs)(hk:k<64)(hb:pT b (k:Int)=true):Bl (gQ b xs k 0) 64=uY b (k:Int)/\pF (gQ b xs k 0) 64=sA xs (rC b (k:Int)):=by
 rw[pY b hk] at hb
 rw[sF b hk,nU b hk]
 unfold gQ
 rw[if_neg (by omega)]
 exact of_eq (Tv h hk hb)
section
variable{n:Nd}{xs:List Int}{ys:List Pr}{w:World}{b:Nat}
theorem Ba{i:Int}(h:(Lq n xs ys b i).isSome=true):CV n xs ys/\pT b i=true:=by
 unfold Lq at h
 split at h
 ·assumption
 ·cases h
theorem Gt{i:Int}(h:(Lq n xs ys b i).isSome=false)(hcv:CV n xs ys):pT b i=false:=by
 unfold Lq at h
 split at h
 ·cases h
 ·rename_i hn
  cases hh:pT b i with
  | false=>rfl
  | true=>exact absurd ⟨hcv,hh⟩ hn
theorem Jd(i r:Int)(hb:n.bm=(b:Int))(hb2:b<18446744073709551616)(hr:rO w n xs ys):Calls Tryz.prog 249 #[n.v,.int .i64 i,.int .i64 r] w (Yx w (n6 n xs ys b i r)):=by
 refine enter Tryz.func249 Tryz.ntmps249 rfl rfl (SF.s2 hr.br hr.pr) ?_
 simp only[bX]
 simp only[Nd.v,Nd.cells]
 refine J0 ?_;refine bI (λ x3=>?_);refine aJ (λ x6=>?_);refine iB ?_;refine D4 ?_;refine aS (cV (hc:=λ w1 hw=>nW (n:=n) i hb hb2 (hr.gH hw.done))) (λ x13=>?_);refine aA ?_;refine aC (jC rf rfl) rfl ?_;refine aC (jC rf rfl) rfl ?_;refine J8 ?_;refine nQ ?_;refine aD (c0 (V:=.bool) (hc:=λ w1 hw=>mj (n:=n) hb hb2 (hr.gH hw.done))) (λ x17 h17=>?_);refine Bt ?_
 (refine eE 19 (λ g19=>?_) (λ g19=>?_)<;>(first|refine aI ?_|(refine aF ?_;refine aA ?_)))
 all_goals (refine cB ?_;refine aA ?_)
 all_goals (first|refine aI ?_|(refine eE 22 (λ g22=>?_) (λ g22=>?_)<;>(first|refine aI ?_|(refine aF ?_;refine aA ?_))))
 all_goals (refine v5 ?_;refine aA ?_)
 all_goals (first|refine aI ?_|(refine eE 26 (λ g26=>?_) (λ g26=>?_)<;>(first|refine aI ?_|(refine aF ?_;refine aA ?_))))
 all_goals (refine Bh ?_;refine aA ?_)
 all_goals (first|refine aI ?_|(refine eE 30 (λ g30=>?_) (λ g30=>?_)<;>(first|refine aI ?_|(refine aF ?_;refine aA ?_))))
 all_goals (refine v5 ?_;refine aH ?_)
 all_goals
 refine bB (λ c33=>?_) (λ c33=>?_)
 ·all_goals (refine J0 ?_;refine bJ ?_;refine wJ ?_)
  all_goals
   refine bC Tryz.results249 (λ w hw=>?_)
   rw[show n6 n xs ys b i r=none from if_neg (by rintro ⟨k1,⟨k2,k3⟩,k4,k5⟩;clear hw;first|omega|exact absurd (Ba g22).2 (by simp[k5])|exact absurd (h17.2 k1) (by simp_all))];exact⟨(none,0),rfl,Nat.le_refl _,(hw.Ls none).fin⟩
 ·try exact nv c33
  all_goals
   have hcv:=h17.1 (by simpa using g19)
   have hh:=Gt g22 hcv
   obtain⟨k,rfl⟩:=Int.eq_ofNat_of_zero_le (show 0<=i by omega)
   have hk:=Xp (hcv.bv hb hb2) (k:=k) (by omega) hh (r:=r) (by omega)
  all_goals (refine bA ?_;refine nQ ?_;refine pE ?_;refine aD (cF (hc:=λ w1 hw=>by have:=Lx (w:=w1) k r (by omega) hcv hb hb2 (hr.gH hw.done);rw[hk.1,hk.2] at this;exact this)) (λ x38 h38=>?_);refine wJ ?_)
  all_goals
   refine bC Tryz.results249 (λ w hw=>?_)
   rw[show n6 n xs ys b (k:Int) r=some (dU b (k:Int),vG xs (rC b (k:Int)) r) from if_pos ⟨hcv,⟨by omega,by omega⟩,by omega,hh⟩];exact⟨x38,rfl,h38,hw.fin⟩
theorem Na(i r:Int)(hb:n.bm=(b:Int))(hb2:b<18446744073709551616)(hr:rO w n xs ys):Calls Tryz.prog 220 #[n.v,.int .i64 i,.int .i64 r] w (Yx w (nz n xs ys b i r)):=by
 refine enter Tryz.func220 Tryz.ntmps220 rfl rfl (SF.s2 hr.br hr.pr) ?_
 simp only[bX]
 simp only[Nd.v,Nd.cells]
 refine J0 ?_;refine bI (λ x3=>?_);refine aJ (λ x6=>?_);refine iB ?_;refine D4 ?_;refine aS (cV (hc:=λ w1 hw=>nW (n:=n) i hb hb2 (hr.gH hw.done))) (λ x13=>?_);refine aA ?_;refine aC (jC rf rfl) rfl ?_;refine aC (jC rf rfl) rfl ?_;refine J8 ?_;refine J2 ?_;refine Bt ?_
 (refine eE 18 (λ g18=>?_) (λ g18=>?_)<;>(first|refine aI ?_|(refine aF ?_;refine aA ?_)))
 all_goals (refine v5 ?_;refine aH ?_)
 all_goals
 refine bB (λ c21=>?_) (λ c21=>?_)
 ·all_goals (refine J0 ?_;refine bJ ?_;refine wJ ?_)
  all_goals
   refine bC Tryz.results220 (λ w hw=>?_)
   rw[show nz n xs ys b i r=none from if_neg (by rintro ⟨k1,k4,k5⟩;clear hw;first|omega|exact absurd (Gt (by simpa using g18) k1) (by simp[k5]))];exact⟨(none,0),rfl,Nat.le_refl _,(hw.Ls none).fin⟩
 ·try exact nv c21
  all_goals
   have hc:=Ba (by simpa using g18)
   have hcv:=hc.1
   have hh:=hc.2
   obtain⟨q1,q2,_,_⟩:=rS hh
   obtain⟨k,rfl⟩:=Int.eq_ofNat_of_zero_le q1
   have hk:=Yj (hcv.bv hb hb2) (k:=k) (by omega) hh (r:=r) (by omega)
  all_goals (refine bA ?_;refine nQ ?_;refine pE ?_;refine aD (cF (hc:=λ w1 hw=>by have:=Lx (w:=w1) k r (by omega) hcv hb hb2 (hr.gH hw.done);rw[hk.1,hk.2] at this;exact this)) (λ x26 h26=>?_);refine wJ ?_)
  all_goals
   refine bC Tryz.results220 (λ w hw=>?_)
   rw[show nz n xs ys b (k:Int) r=some (b,zP xs (rC b (k:Int)) r) from if_pos ⟨hcv,by omega,hh⟩];exact⟨x26,rfl,h26,hw.fin⟩
theorem M3(i:Int)(hb:n.bm=(b:Int))(hb2:b<18446744073709551616)(hr:rO w n xs ys):Calls Tryz.prog 252 #[n.v,.int .i64 i] w (Yx w (n8 n xs ys b i)):=by
 refine enter Tryz.func252 Tryz.ntmps252 rfl rfl (SF.s2 hr.br hr.pr) ?_
 simp only[bX]
 simp only[Nd.v,Nd.cells]
 refine J0 ?_;refine bI (λ x2=>?_);refine aJ (λ x4=>?_);refine iB ?_;refine D4 ?_;refine aS (cV (hc:=λ w1 hw=>nW (n:=n) i hb hb2 (hr.gH hw.done))) (λ x11=>?_);refine aA ?_;refine aC (jC rf rfl) rfl ?_;refine aC (jC rf rfl) rfl ?_;refine J8 ?_;refine J2 ?_;refine oH ?_
 refine bB (λ c15=>?_) (λ c15=>?_)
 ·refine J0 ?_;refine bJ ?_;refine wJ ?_
  refine bC Tryz.results252 (λ w hw=>?_)
  rw[show n8 n xs ys b i=none from if_neg (by rintro ⟨k1,k5⟩;clear hw;exact absurd (Gt c15 k1) (by simp[k5]))];exact⟨(none,0),rfl,Nat.le_refl _,(hw.Ls none).fin⟩
 ·have hc:=Ba c15
  have hcv:=hc.1
  have hh:=hc.2
  obtain⟨q1,q2,_,_⟩:=rS hh
  obtain⟨k,rfl⟩:=Int.eq_ofNat_of_zero_le q1
  have hk:=X1 (hcv.bv hb hb2) (k:=k) (by omega) hh
  refine bA ?_;refine D4 ?_;refine aD (cF (hc:=λ w1 hw=>by have:=Lx (w:=w1) k 0 (by omega) hcv hb hb2 (hr.gH hw.done);rw[hk.1,hk.2] at this;exact this)) (λ x19 h19=>?_);refine wJ ?_
  refine bC Tryz.results252 (λ w hw=>?_)
  rw[show n8 n xs ys b (k:Int)=some (uY b (k:Int),sA xs (rC b (k:Int))) from if_pos ⟨hcv,hh⟩];exact⟨x19,rfl,h19,hw.fin⟩
end
end

end Go.Proofs.YtbajmaoegmbfgaaGreat

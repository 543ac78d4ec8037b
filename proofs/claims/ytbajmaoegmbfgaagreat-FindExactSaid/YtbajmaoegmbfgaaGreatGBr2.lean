/- Branches: what Lookup and Sole compute. -/
import Derived.Test.YtbajmaoegmbfgaaGreatGBit2
import Derived.Test.YtbajmaoegmbfgaaGreatGAr5
import Derived.Test.YtbajmaoegmbfgaaGreatGAr8
import Derived.Test.YtbajmaoegmbfgaaGreatGPa4
import Derived.Test.YtbajmaoegmbfgaaGreatGNode3

set_option linter.unusedSimpArgs false
set_option linter.unusedVariables false
namespace Go.Ct
section
open Go Go.RowKit
end
end Go.Ct
namespace Go.Proofs.YtbajmaoegmbfgaaGreat
section
open Go.RowKit Go.Ct
def CV(n:Nd)(xs:List Int)(ys:List Pr):Prop:=n.kind=3/\cD n xs ys
theorem CV.bv{n:Nd}{xs:List Int}{ys:List Pr}{b:Nat}(h:CV n xs ys)(hb:n.bm=(b:Int))(hb2:b<18446744073709551616):BV b xs:=by
 obtain⟨h1,h2⟩:=yX h.1 h.2
 rw[hb,oY hb2] at h1
 exact⟨hb2,by omega,h2⟩
open Classical in
noncomputable def Dk (n:Nd) (xs:List Int) (ys:List Pr) (b:Nat) (i:Int):Option Int:=if CV n xs ys/\nP b i=true then some (xs.getD (lQ b i) 0) else none
open Classical in
noncomputable def Y1 (n:Nd) (xs:List Int) (ys:List Pr):Option Int:=if CV n xs ys/\xs.length=1 then some (xs.getD 0 0) else none
theorem rD{b:Nat}{i:Int}(h:nP b i=true):0<=i/\i<64/\b.testBit i.toNat=true/\lQ b i=fX b i.toNat:=by
 simp only[nP,Bool.and_eq_true,decide_eq_true_eq] at h
 exact⟨h.1,h.2.1,h.2.2,by unfold lQ;congr 1;omega⟩
theorem tw{b:Nat}{xs:List Int}(h:BV b xs){i:Int}(hh:nP b i=true):lQ b i<xs.length:=by
 obtain⟨h1,h2,h3,h4⟩:=rD hh
 rw[h4,h.len]
 exact oA (by omega) h3
section
variable{n:Nd}{xs:List Int}{ys:List Pr}{w:World}{b:Nat}
theorem fx(hr:qI w n xs ys):Calls Tryz.prog 190 #[n.v] w λ e w'=>∃r:Bool,e=.returned (.bool r)/\(r=true↔CV n xs ys)/\St w [] [] w':=by
 refine enter Tryz.func190 Tryz.ntmps190 rfl rfl (SF.s0 w) ?_
 simp only[bY]
 simp only[Nd.v,Nd.cells]
 refine J0 ?_;refine bN (λ x1=>?_);refine J1 ?_;refine hJ ?_;refine lV ?_;refine aA ?_
 (refine eM 6 (λ g6=>?_) (λ g6=>?_)<;>(first|refine aJ ?_|(refine aF ?_;refine bR ?_)))
 all_goals ((first|refine aJ ?_|(refine aF ?_;refine aC (c0 (V:=.bool) (hc:=λ w1 hw=>Jg (n:=n) (hr.fI hw.done))) (λ x8 h8=>?_)));refine cH ?_;refine J1 ?_)
 all_goals
 refine aT Tryz.results190 (λ w hw=>?_)
 refine⟨_,rfl,?_,hw.done⟩
 simp_all[CV]
theorem kw(hb:n.bm=(b:Int))(hb2:b<18446744073709551616)(hr:qI w n xs ys):Calls Tryz.prog 243 #[n.v] w λ e w'=>∃r:Bool,e=.returned (.bool r)/\(r=true↔CV n xs ys)/\St w [] [] w':=by
 refine enter Tryz.func243 Tryz.ntmps243 rfl rfl (SF.s0 w) ?_
 simp only[bY]
 simp only[Nd.v,Nd.cells]
 refine J0 ?_;refine bN (λ x1=>?_);refine J1 ?_;refine hJ ?_;refine lV ?_;refine aA ?_
 (refine eM 6 (λ g6=>?_) (λ g6=>?_)<;>(first|refine aJ ?_|(refine aF ?_;refine bR ?_)))
 all_goals ((first|refine aJ ?_|(refine aF ?_;refine aC (c0 (V:=.bool) (hc:=λ w1 hw=>Gy (n:=n) hb hb2 (hr.fI hw.done))) (λ x8 h8=>?_)));refine cH ?_;refine J1 ?_)
 all_goals
 refine aT Tryz.results243 (λ w hw=>?_)
 refine⟨_,rfl,?_,hw.done⟩
 simp_all[CV]
theorem eh(i:Int)(hb:n.bm=(b:Int))(hb2:b<18446744073709551616)(hr:qI w n xs ys):Calls Tryz.prog 149 #[n.v,.int .i64 i] w λ e w'=>e=.returned (.tuple #[.int .i64 ((Dk n xs ys b i).getD 0),.bool (Dk n xs ys b i).isSome])/\St w [] [] w':=by
 have e1:=hr.brN
 refine enter Tryz.func149 Tryz.ntmps149 rfl rfl (SF.s2 hr.br hr.pr) ?_
 simp only[bY]
 simp only[Nd.v,Nd.cells,hb,e1]
 refine J0 ?_;refine bN (λ x2=>?_);refine J8 ?_;refine aV ?_;refine oV ?_;refine aC (c0 (V:=.bool) (hc:=λ w1 hw=>by rw[<- e1,<- hb];exact fx (n:=n) (hr.fI hw.done))) (λ x7 h7=>?_);refine Gh ?_
 (refine eM 9 (λ g9=>?_) (λ g9=>?_)<;>(first|refine aJ ?_|(refine aF ?_;refine aE ?_)))
 all_goals (refine Yn ?_;(first|refine aJ ?_|(refine aF ?_;refine aQ (cV (hc:=λ w1 hw=>aAo hb2 i w1)) (λ x13=>?_)));refine Qg ?_;refine aG ?_)
 all_goals
 refine bE (λ c15=>?_) (λ c15=>?_)
 ·all_goals refine Qa ?_
  all_goals
   refine bC Tryz.results149 (λ w hw=>?_)
   rw[show Dk n xs ys b i=none from if_neg (by simp_all)];exact⟨rfl,hw.done⟩
 ·try exact nv c15
  all_goals
   have hcv:CV n xs ys:=h7.1 (by simpa using g9)
   have hpl:=tw (hcv.bv hb hb2) c15
  all_goals (refine lK ?_;refine dZ [(0,[]),(1,[]),(2,[]),(3,[]),(4,[]),(5,[1]),(6,[]),(7,[]),(8,[]),(9,[])] ?_;refine mL ?_;refine mL ?_;refine aN ?_;refine cL (i:=5) (hq:=(cV (hc:=λ w1 hw=>aA6 hb2 i w1))) (h:=λ x21=>?_);refine Ny ?_;refine Yp ?_)
  all_goals
   refine bC Tryz.results149 (λ w hw=>?_)
   rw[show Dk n xs ys b i=some (xs.getD (lQ b i) 0) from if_pos ⟨hcv,c15⟩];exact⟨rfl,hw.done⟩
theorem nL(i:Int)(hb:n.bm=(b:Int))(hb2:b<18446744073709551616)(hr:qI w n xs ys):Calls Tryz.prog 216 #[n.v,.int .i64 i] w λ e w'=>e=.returned (.tuple #[.int .i64 ((Dk n xs ys b i).getD 0),.bool (Dk n xs ys b i).isSome])/\St w [] [] w':=by
 have e1:=hr.brN
 refine enter Tryz.func216 Tryz.ntmps216 rfl rfl (SF.s2 hr.br hr.pr) ?_
 simp only[bY]
 simp only[Nd.v,Nd.cells,hb,e1]
 refine J0 ?_;refine bN (λ x2=>?_);refine J8 ?_;refine aV ?_;refine oV ?_;refine aC (c0 (V:=.bool) (hc:=λ w1 hw=>by rw[<- e1,<- hb];exact kw (n:=n) hb hb2 (hr.fI hw.done))) (λ x7 h7=>?_);refine Gh ?_
 (refine eM 9 (λ g9=>?_) (λ g9=>?_)<;>(first|refine aJ ?_|(refine aF ?_;refine aE ?_)))
 all_goals (refine Yn ?_;(first|refine aJ ?_|(refine aF ?_;refine aQ (cV (hc:=λ w1 hw=>Pv hb2 i w1)) (λ x13=>?_)));refine Qg ?_;refine aG ?_)
 all_goals
 refine bE (λ c15=>?_) (λ c15=>?_)
 ·all_goals refine Qa ?_
  all_goals
   refine bC Tryz.results216 (λ w hw=>?_)
   rw[show Dk n xs ys b i=none from if_neg (by simp_all)];exact⟨rfl,hw.done⟩
 ·try exact nv c15
  all_goals
   have hcv:CV n xs ys:=h7.1 (by simpa using g9)
   have hpl:=tw (hcv.bv hb hb2) c15
  all_goals (refine lK ?_;refine dZ [(0,[]),(1,[]),(2,[]),(3,[]),(4,[]),(5,[1]),(6,[]),(7,[]),(8,[]),(9,[])] ?_;refine mL ?_;refine mL ?_;refine aN ?_;refine cL (i:=5) (hq:=(cV (hc:=λ w1 hw=>Pk hb2 i w1))) (h:=λ x21=>?_);refine Ny ?_;refine Yp ?_)
  all_goals
   refine bC Tryz.results216 (λ w hw=>?_)
   rw[show Dk n xs ys b i=some (xs.getD (lQ b i) 0) from if_pos ⟨hcv,c15⟩];exact⟨rfl,hw.done⟩
theorem Iu(hb:n.bm=(b:Int))(hb2:b<18446744073709551616)(hr:qI w n xs ys):Calls Tryz.prog 245 #[n.v] w λ e w'=>e=.returned (.tuple #[.int .i64 ((Y1 n xs ys).getD 0),.bool (Y1 n xs ys).isSome])/\St w [] [] w':=by
 have e1:=hr.brN
 refine enter Tryz.func245 Tryz.ntmps245 rfl rfl (SF.s2 hr.br hr.pr) ?_
 simp only[bY]
 simp only[Nd.v,Nd.cells,e1]
 refine J0 ?_;refine bN (λ x1=>?_);refine J8 ?_;refine aV ?_;refine oV ?_;refine aC (c0 (V:=.bool) (hc:=λ w1 hw=>by rw[<- e1];exact kw (n:=n) hb hb2 (hr.fI hw.done))) (λ x5 h5=>?_);refine Gh ?_
 (refine eM 7 (λ g7=>?_) (λ g7=>?_)<;>(first|refine aJ ?_|(refine aF ?_;refine aE ?_)))
 all_goals ((first|refine aJ ?_|(refine aF ?_;refine bR ?_));(first|refine aJ ?_|(refine aF ?_;refine dG ?_));refine Q2 ?_;refine aG ?_)
 all_goals
 refine bE (λ c12=>?_) (λ c12=>?_)
 ·all_goals refine Qa ?_
  all_goals
   refine bC Tryz.results245 (λ w hw=>?_)
   rw[show Y1 n xs ys=none from if_neg (by simp_all;try omega)];exact⟨rfl,hw.done⟩
 ·try exact nv c12
  all_goals
   have hcv:CV n xs ys:=h5.1 (by simpa using g7)
   have hl1:xs.length=1:=by omega
  all_goals (refine aZ ?_;refine hJ ?_;refine aB (eZ (k:=0) rf rf hY iA fin (by omega) (by omega)) rfl ?_;refine bR ?_;refine J8 ?_)
  all_goals
   refine bC Tryz.results245 (λ w hw=>?_)
   rw[show Y1 n xs ys=some (xs.getD 0 0) from if_pos ⟨hcv,hl1⟩];exact⟨rfl,hw.done⟩
end
end

/- Branches: a C-node of a bitmap and a list. -/
section
open Go.RowKit Go.Ct
def cn(b:Nat)(xs:List Int)(x:Option Addr×Nat):Nd:={Nd.zero with kind:=3,bm:=(b:Int),brA:=x.1,brN:=xs.length,brC:=x.2}
theorem db{b:Nat}{xs:List Int}(h:BV b xs)(x:Option Addr×Nat){p:Int}(hp:0<=p):CV {cn b xs x with prev:=p} xs [] :=
 ⟨rfl,by simp[rM,Nd.own,Nd.jQ,Nd.iZ,cn],by simp[cn,Nd.zero],hp,by simp[cn,Nd.zero],.inr (.inr (.inl ⟨rfl,by show(xs.length:Int)=uQ (b:Int);rw[oY h.lt,h.len],h.pos⟩))⟩
theorem yd{b:Nat}{xs:List Int}(h:BV b xs)(x:Option Addr×Nat):CV (cn b xs x) xs []:=db h x (p:=0) (Int.le_refl _)
end

/- Nodes and lists of pairs out of tapes. -/
end Go.Proofs.YtbajmaoegmbfgaaGreat
namespace Go.Ct
section
end
end Go.Ct
namespace Go.Proofs.YtbajmaoegmbfgaaGreat
section
open Go.RowKit Go.Ct
structure aBE(refs:Int)(n:Nd)(xs:List Int)(ys:List Pr):Prop where
 valid:cD n xs ys
 brN:n.brN=xs.length
 prN:n.prN=ys.length
 brC:n.brN<=n.brC
 dE:n.prN<=n.dE
 bm:∃b:Nat,n.bm=(b:Int)/\b<18446744073709551616
 xs64:xs.length<=64
 ys2:ys.length<=2
 key:n.key.size<=4
 cells:n.main=0/\n.prev=0/\n.status=0
 gen:0<=n.gen/\n.gen<=3
 kind:n.kind=2∨n.kind=3∨n.kind=4∨n.kind=5∨n.kind=6∨n.kind=8
 refs:(∀r∈xs,1<=r/\r<=refs)/\0<=n.bO/\n.bO<=refs/\0<=n.exp/\n.exp<=refs/\0<=n.new/\n.new<=refs
end

/- Tombs: Untombed, Contracted, Grown, Shrunk: both sides. -/
section
open Go.RowKit Go.Ct
def tmb(s:Nd):Nd:={Nd.zero with kind:=5,hash:=s.hash,key:=s.key,val:=s.val}
def Eo(n:Nd):Nd:=if n.kind=5 then{Nd.zero with kind:=4,hash:=n.hash,key:=n.key,val:=n.val} else Nd.zero
theorem Hw(n:Nd)(w:World):Calls Tryz.prog 219 #[n.v] w λ e w'=>e=.returned (.tuple #[(Eo n).v,.bool (decide (n.kind=5))])/\St w [] [] w':=by
 refine enter Tryz.func219 Tryz.ntmps219 rfl rfl (SF.s0 w) ?_
 simp only[bY]
 simp only[Nd.v,Nd.cells]
 refine J0 ?_;refine bN (λ x1=>?_);refine aI (λ x2=>?_);refine iT ?_;refine hJ ?_;refine pJ ?_;refine aG ?_
 refine bE (λ c6=>?_) (λ c6=>?_)
 ·refine J0 ?_;refine bJ ?_;refine yT ?_
  refine bC Tryz.results219 (λ w hw=>?_)
  exact⟨by rw[show Eo n=Nd.zero from if_neg (by assumption),decide_eq_false (by assumption)];rfl,hw.done⟩
 ·refine aZ ?_;refine hJ ?_;refine J3 ?_;refine J3 ?_;refine bJ ?_;refine yT ?_
  refine bC Tryz.results219 (λ w hw=>?_)
  exact⟨by rw[show Eo n={Nd.zero with kind:=4,hash:=n.hash,key:=n.key,val:=n.val} from if_pos (by omega),decide_eq_true (by omega)];rfl,hw.done⟩
section
variable{n s:Nd}{xs:List Int}{ys:List Pr}{w:World}{b:Nat}
def LV(n:Nd)(xs:List Int)(ys:List Pr):Prop:=n.kind=6/\cD n xs ys
theorem P3(hb:n.bm=(b:Int))(hb2:b<18446744073709551616)(hr:qI w n xs ys):Calls Tryz.prog 255 #[n.v] w λ e w'=>∃r:Bool,e=.returned (.bool r)/\(r=true↔LV n xs ys)/\St w [] [] w':=by
 refine enter Tryz.func255 Tryz.ntmps255 rfl rfl (SF.s0 w) ?_
 simp only[bY]
 simp only[Nd.v,Nd.cells]
 refine J0 ?_;refine bN (λ x1=>?_);refine J1 ?_;refine hJ ?_;refine lV ?_;refine aA ?_
 (refine eM 6 (λ g6=>?_) (λ g6=>?_)<;>(first|refine aJ ?_|(refine aF ?_;refine bR ?_)))
 all_goals ((first|refine aJ ?_|(refine aF ?_;refine aC (c0 (V:=.bool) (hc:=λ w1 hw=>Gy (n:=n) hb hb2 (hr.fI hw.done))) (λ x8 h8=>?_)));refine cH ?_;refine J1 ?_)
 all_goals
 refine aT Tryz.results255 (λ w hw=>?_)
 refine⟨_,rfl,?_,hw.done⟩
 simp_all[LV]
open Classical in
noncomputable def Sh (n:Nd) (xs:List Int) (ys:List Pr) (level:Int) (s:Nd):Bool:=decide ((Y1 n xs ys).isSome=true/\0<level/\s.kind=4)
def ul(t:Bool)(n s:Nd):Nd:=if t=true then tmb s else n
def l9{α:Type}(t:Bool)(l:List α):List α:=if t=true then [] else l
theorem Dw(level:Int)(s:Nd)(hb:n.bm=(b:Int))(hb2:b<18446744073709551616)(hr:qI w n xs ys):Calls Tryz.prog 221 #[n.v,.int .i64 level,s.v] w λ e w'=>e=.returned (ul (Sh n xs ys level s) n s).v/\St w [] [] w':=by
 refine enter Tryz.func221 Tryz.ntmps221 rfl rfl (SF.s0 w) ?_
 simp only[bY]
 simp only[Nd.v,Nd.cells]
 refine J0 ?_;refine bN (λ x3=>?_);refine bN (λ x5=>?_);refine aI (λ x6=>?_);refine Mt ?_;refine oV ?_;refine aQ (cV (hc:=λ w1 hw=>Iu (n:=n) hb hb2 (hr.fI hw.done))) (λ x11=>?_);refine aA ?_;refine aB (bL rf rfl) rfl ?_;refine aB (bL rf rfl) rfl ?_;refine J8 ?_;refine iM ?_
 (refine eM 15 (λ g15=>?_) (λ g15=>?_)<;>(first|refine aJ ?_|(refine aF ?_;refine aA ?_)))
 all_goals (refine Iz ?_;refine aA ?_)
 all_goals (first|refine aJ ?_|(refine eM 19 (λ g19=>?_) (λ g19=>?_)<;>(first|refine aJ ?_|(refine aF ?_;refine aE ?_))))
 all_goals (refine vc ?_;refine aG ?_)
 all_goals
 refine bE (λ c23=>?_) (λ c23=>?_)
 ·try exact nv c23
  all_goals (refine hJ ?_;refine J3 ?_;refine J3 ?_;refine xJ ?_)
  all_goals
   refine bC Tryz.results221 (λ w hw=>?_)
   rw[show Sh n xs ys level s=true from decide_eq_true ⟨by assumption,by omega,by omega⟩];exact⟨rfl,hw.done⟩
 ·all_goals (refine aZ ?_;refine oV ?_;refine J5 ?_)
  all_goals
   refine bC Tryz.results221 (λ w hw=>?_)
   rw[show Sh n xs ys level s=false from decide_eq_false (by rintro ⟨t1,t2,t3⟩;first|omega|(clear hw;simp_all;done))];exact⟨rfl,hw.done⟩
end
end

/- Tombs: Grown, Shrunk: both sides; agrees. -/
section
open Go.RowKit Go.Ct
def il(o:Option (List Pr))(h:Int)(x:Option Addr×Nat):Nd:=match o with|some m=>{Nd.zero with kind:=6,hash:=h,prA:=x.1,prN:=m.length,dE:=x.2}|none=>Nd.zero
def Ys(o:Option (List Pr)):List Pr:=o.getD []
def Mn(o:Option (List Pr))(h:Int)(x:Option Addr×Nat):Nd:=match o with|some m=>if m.length=1 then{Nd.zero with kind:=5,hash:=h,key:=(m.getD 0 (⟨#[]⟩,0)).1,val:=(m.getD 0 (⟨#[]⟩,0)).2} else{Nd.zero with kind:=6,hash:=h,prA:=x.1,prN:=m.length,dE:=x.2}|none=>Nd.zero
def Hp(o:Option (List Pr)):List Pr:=match o with|some m=>if m.length=1 then [] else m|none=>[]
open Classical in
noncomputable def kT (n:Nd) (xs:List Int) (ys:List Pr) (k:ByteArray) (v:Int):Option (List Pr):=if LV n xs ys/\k.size<=64 then some (N7 ys k v) else none
open Classical in
noncomputable def pL (n:Nd) (xs:List Int) (ys:List Pr) (k:ByteArray):Option (List Pr):=if LV n xs ys/\(cN ys k).isSome=true then some (rL ys k) else none
def aBm(w:World)(o:Option (List Pr))(h:Int)(e:Ending)(w':World):Prop:=∃x:Option Addr×Nat,e=.returned (.tuple #[(il o h x).v,.bool o.isSome])/\(Ys o).length<=x.2/\SF w [] [] [] [(x.1,dE (Ys o))] [] w'
def aBv(w:World)(o:Option (List Pr))(h:Int)(e:Ending)(w':World):Prop:=∃x:Option Addr×Nat,e=.returned (.tuple #[(Mn o h x).v,.bool o.isSome])/\(Hp o).length<=x.2/\SF w [] [] [] [(x.1,dE (Hp o))] [] w'
section
variable{n s:Nd}{xs:List Int}{ys:List Pr}{w:World}{b:Nat}
theorem Q9(k:ByteArray)(v:Int)(hb:n.bm=(b:Int))(hb2:b<18446744073709551616)(hr:qI w n xs ys)(hy:ys.length<=150000000000):Calls Tryz.prog 247 #[n.v,.string k,.int .u64 v] w (aBm w (kT n xs ys k v) n.hash):=by
 have e2:=hr.prN
 refine enter Tryz.func247 Tryz.ntmps247 rfl rfl (SF.s1 hr.pr) ?_
 simp only[bY]
 simp only[Nd.v,Nd.cells,e2]
 refine J0 ?_;refine bN (λ x3=>?_);refine aI (λ x6=>?_);refine iT ?_;refine oV ?_;refine aC (c0 (V:=.bool) (hc:=λ w1 hw=>by rw[<- e2];exact P3 (n:=n) hb hb2 (hr.fI hw.done))) (λ x9 h9=>?_);refine Gh ?_
 (refine eM 11 (λ g11=>?_) (λ g11=>?_)<;>(first|refine aJ ?_|(refine aF ?_;refine aA ?_)))
 all_goals ((first|refine aJ ?_|(refine aF ?_;refine jW ?_));refine Iz ?_;refine aG ?_)
 all_goals
 refine bE (λ c15=>?_) (λ c15=>?_)
 ·all_goals (refine J0 ?_;refine bJ ?_;refine yT ?_)
  all_goals
   refine bC Tryz.results247 (λ w hw=>?_)
   rw[show kT n xs ys k v=none from if_neg (by rintro ⟨t1,t2⟩;have:=h9.2 t1;clear hw;first|omega|(simp_all;done))];exact⟨(none,0),rfl,Nat.le_refl _,(hw.Kl none).fin⟩
 ·try exact nv c15
  all_goals (refine lK ?_;refine dZ [(0,[]),(1,[]),(2,[]),(3,[]),(4,[]),(5,[]),(6,[1]),(7,[]),(8,[]),(9,[])] ?_;refine mL ?_;refine mL ?_;refine iD ?_;refine bD (i:=6) (hq:=(cF (hc:=λ w1 hw=>jh (l:=ys) k v (hw.cl fin) (by omega)))) (h:=λ x23 h23=>?_);refine gN ?_;refine B9 ?_)
  all_goals
   refine bC Tryz.results247 (λ w hw=>?_)
   rw[show kT n xs ys k v=some (N7 ys k v) from if_pos ⟨h9.1 (by clear hw;simp_all),by omega⟩];exact⟨x23,rfl,h23,hw.fin⟩
theorem Oi(k:ByteArray)(hb:n.bm=(b:Int))(hb2:b<18446744073709551616)(hr:qI w n xs ys)(hy:ys.length<=150000000000):Calls Tryz.prog 251 #[n.v,.string k] w (aBv w (pL n xs ys k) n.hash):=by
 have e2:=hr.prN
 refine enter Tryz.func251 Tryz.ntmps251 rfl rfl (SF.s1 hr.pr) ?_
 simp only[bY]
 simp only[Nd.v,Nd.cells,e2]
 refine J0 ?_;refine bN (λ x2=>?_);refine aI (λ x4=>?_);refine iT ?_;refine hJ ?_;refine aA ?_;refine aQ (cV (hc:=λ w1 hw=>I7 (l:=ys) k (hw.cl fin) (by omega))) (λ x13=>?_);refine aA ?_;refine aB (bL rf rfl) rfl ?_;refine aB (bL rf rfl) rfl ?_;refine J8 ?_;refine oV ?_;refine aC (c0 (V:=.bool) (hc:=λ w1 hw=>by rw[<- e2];exact P3 (n:=n) hb hb2 (hr.fI hw.done))) (λ x17 h17=>?_);refine Gh ?_
 (refine eM 19 (λ g19=>?_) (λ g19=>?_)<;>(first|refine aJ ?_|(refine aF ?_;refine aA ?_)))
 all_goals (refine Qg ?_;refine aG ?_)
 all_goals
 refine bE (λ c22=>?_) (λ c22=>?_)
 ·all_goals (refine J0 ?_;refine bJ ?_;refine yT ?_)
  all_goals
   refine bC Tryz.results251 (λ w hw=>?_)
   rw[show pL n xs ys k=none from if_neg (by rintro ⟨t1,t2⟩;have:=h17.2 t1;clear hw;simp_all)];exact⟨(none,0),rfl,Nat.le_refl _,(hw.Kl none).fin⟩
 ·try exact nv c22
  all_goals (refine aZ ?_;refine hJ ?_;refine aA ?_;refine aC (cF (hc:=λ w1 hw=>Xl (l:=ys) k (hw.cl fin) (by omega))) (λ x27 h27=>?_);refine iT ?_;refine J2 ?_;refine dG ?_;refine tN ?_)
  all_goals
   refine bE (λ c30=>?_) (λ c30=>?_)
   ·refine aV ?_;refine gI [0,1,2,3,4,5,6,7,8,9,10,11,12] ?_;refine mL ?_;refine aN ?_;refine bT (i:=3) (hq:=(Eh (k:=0) rf rf hY dH fin (by omega) (by omega))) (h:=?_);refine mL ?_;refine aN ?_;refine bT (i:=7) (hq:=(Eh (k:=0) rf rf hY dH fin (by omega) (by omega))) (h:=?_);refine aR ?_;refine bT (i:=9) (hq:=(Pj (q:=0) (lst:=rL ys k) rf iA fin (by omega))) (h:=?_);refine gN ?_;refine B9 ?_
    refine bC Tryz.results251 (λ w hw=>?_)
    have e1:(rL ys k).length=1:=by omega
    rw[show pL n xs ys k=some (rL ys k) from if_pos ⟨h17.1 (by clear hw;simp_all),by clear hw;simp_all⟩];exact⟨(none,0),by simp only[Mn,if_pos e1];rfl,by simp only[Hp,if_pos e1];exact Nat.le_refl _,by simp only[Hp,if_pos e1];exact(hw.Kl none).fin⟩
   ·refine aZ ?_;refine hJ ?_;refine aA ?_;refine bJ ?_;refine yT ?_
    refine bC Tryz.results251 (λ w hw=>?_)
    have e1:¬(rL ys k).length=1:=by omega
    rw[show pL n xs ys k=some (rL ys k) from if_pos ⟨h17.1 (by clear hw;simp_all),by clear hw;simp_all⟩];exact⟨x27,by simp only[Mn,if_neg e1];rfl,by simp only[Hp,if_neg e1];exact h27,by simp only[Hp,if_neg e1];exact hw.fin⟩
end
end

/- Branches: lists of lists, joined; the C-node of them. -/
end Go.Proofs.YtbajmaoegmbfgaaGreat
namespace Go.Ct
section
open Go Go.RowKit
section
variable{P:Program}{n:Nat}{S:List (Nat×Value)}
variable{w0 w w':World}{M:List Nat}{H H':List (Nat×Obj)}{A F F':Fr}{O O':List Ow}{G:World->Prop}
variable{d:Nat}{ty:TypeId}{pos:String}{af:Array Edge}{gd:Option (Nat×Bool)}{dst:Option Nat}{x y z:Operand}{t t2 e:TypeId}{p a:Option Addr}{i m k c c2:Nat}
end
end
end Go.Ct
namespace Go.Proofs.YtbajmaoegmbfgaaGreat
section
open Go Go.RowKit Go.Ct
end

/- Branches: Inserted, Updated, Removed. -/
section
open Go.RowKit Go.Ct
open Classical in
noncomputable def bn (n:Nd) (xs:List Int) (ys:List Pr) (b:Nat) (i r:Int):Option (Nat×List Int):=if CV n xs ys/\(0<=i/\i<64)/\1<=r/\nP b i=false then some (dI b i,tR xs (lQ b i) r) else none
open Classical in
noncomputable def lx (n:Nd) (xs:List Int) (ys:List Pr) (b:Nat) (i r:Int):Option (Nat×List Int):=if CV n xs ys/\1<=r/\nP b i=true then some (b,yL xs (lQ b i) r) else none
open Classical in
noncomputable def ls (n:Nd) (xs:List Int) (ys:List Pr) (b:Nat) (i:Int):Option (Nat×List Int):=if CV n xs ys/\nP b i=true then some (vV b i,rQ xs (lQ b i)) else none
def mI(o:Option (Nat×List Int))(x:Option Addr×Nat):Nd:=match o with|some q=>cn q.1 q.2 x|none=>Nd.zero
def mB(o:Option (Nat×List Int)):List Int:=match o with|some q=>q.2|none=>[]
def Xr(w:World)(o:Option (Nat×List Int))(e:Ending)(w':World):Prop:=∃x:Option Addr×Nat,e=.returned (.tuple #[(mI o x).v,.bool o.isSome])/\(mB o).length<=x.2/\SF w [] [] [] [(x.1,aH (mB o))] [] w'
section
variable{n:Nd}{xs:List Int}{ys:List Pr}{w:World}{b:Nat}
end
end

end Go.Proofs.YtbajmaoegmbfgaaGreat

/- Branches: what Lookup and Sole compute. -/
import Derived.Test.YtbajmaoegmbfgaaGreatGBr
import Derived.Test.YtbajmaoegmbfgaaGreatGAr5
import Derived.Test.YtbajmaoegmbfgaaGreatGAr8
import Derived.Test.YtbajmaoegmbfgaaGreatGBitsE
import Derived.Test.YtbajmaoegmbfgaaGreatGPa4
import Derived.Test.YtbajmaoegmbfgaaGreatGNode3
import Derived.Test.YtbajmaoegmbfgaaGreatGJoin

set_option linter.unusedSimpArgs false
set_option linter.unusedVariables false
namespace Go.Ct
section
open Go Go.RowKit
end
end Go.Ct
namespace Go.Proofs.YtbajmaoegmbfgaaGreat
section
open Go.RowKit Go.Ct
def CV(n:Nd)(xs:List Int)(ys:List Pr):Prop:=n.kind=3/\cA n xs ys
theorem CV.bv{n:Nd}{xs:List Int}{ys:List Pr}{b:Nat}(h:CV n xs ys)(hb:n.bm=(b:Int))(hb2:b<18446744073709551616):BV b xs:=by
 obtain⟨h1,h2⟩:=zE h.1 h.2
 rw[hb,wY hb2] at h1
 exact⟨hb2,by omega,h2⟩
open Classical in
noncomputable def Mf (n:Nd) (xs:List Int) (ys:List Pr) (b:Nat) (i:Int):Option Int:=if CV n xs ys/\pI b i=true then some (xs.getD (rC b i) 0) else none
open Classical in
noncomputable def Zh (n:Nd) (xs:List Int) (ys:List Pr):Option Int:=if CV n xs ys/\xs.length=1 then some (xs.getD 0 0) else none
theorem rX{b:Nat}{i:Int}(h:pI b i=true):0<=i/\i<64/\b.testBit i.toNat=true/\rC b i=gH b i.toNat:=by
 simp only[pI,Bool.and_eq_true,decide_eq_true_eq] at h
 exact⟨h.1,h.2.1,h.2.2,by unfold rC;congr 1;omega⟩
theorem aBg{b:Nat}{xs:List Int}(h:BV b xs){i:Int}(hh:pI b i=true):rC b i<xs.length:=by
 obtain⟨h1,h2,h3,h4⟩:=rX hh
 rw[h4,h.len]
 exact nZ (by omega) h3
section
variable{n:Nd}{xs:List Int}{ys:List Pr}{w:World}{b:Nat}
theorem ef(hb:n.bm=(b:Int))(hb2:b<18446744073709551616)(hr:rK w n xs ys):Calls Tryz.prog 243 #[n.v] w λ e w'=>∃r:Bool,e=.returned (.bool r)/\(r=true↔CV n xs ys)/\St w [] [] w':=by
 refine enter Tryz.func243 Tryz.ntmps243 rfl rfl (SF.s0 w) ?_
 simp only[bX]
 simp only[Nd.v,Nd.cells]
 refine J0 ?_;refine bL (λ x1=>?_);refine J1 ?_;refine gM ?_;refine lI ?_;refine aA ?_
 (refine eI 6 (λ g6=>?_) (λ g6=>?_)<;>(first|refine aJ ?_|(refine aF ?_;refine bN ?_)))
 all_goals ((first|refine aJ ?_|(refine aF ?_;refine aC (c0 (V:=.bool) (hc:=λ w1 hw=>zP (n:=n) hb hb2 (hr.fT hw.done))) (λ x8 h8=>?_)));refine cJ ?_;refine J1 ?_)
 all_goals
 refine aR Tryz.results243 (λ w hw=>?_)
 refine⟨_,rfl,?_,hw.done⟩
 simp_all[CV]
theorem nQ(i:Int)(hb:n.bm=(b:Int))(hb2:b<18446744073709551616)(hr:rK w n xs ys):Calls Tryz.prog 216 #[n.v,.int .i64 i] w λ e w'=>e=.returned (.tuple #[.int .i64 ((Mf n xs ys b i).getD 0),.bool (Mf n xs ys b i).isSome])/\St w [] [] w':=by
 have e1:=hr.brN
 refine enter Tryz.func216 Tryz.ntmps216 rfl rfl (SF.s2 hr.br hr.pr) ?_
 simp only[bX]
 simp only[Nd.v,Nd.cells,hb,e1]
 refine J0 ?_;refine bL (λ x2=>?_);refine J8 ?_;refine aT ?_;refine nX ?_;refine aC (c0 (V:=.bool) (hc:=λ w1 hw=>by rw[<- e1,<- hb];exact ef (n:=n) hb hb2 (hr.fT hw.done))) (λ x7 h7=>?_);refine Eh ?_
 (refine eI 9 (λ g9=>?_) (λ g9=>?_)<;>(first|refine aJ ?_|(refine aF ?_;refine aE ?_)))
 all_goals (refine Zy ?_;(first|refine aJ ?_|(refine aF ?_;refine aP (cV (hc:=λ w1 hw=>Pa hb2 i w1)) (λ x13=>?_)));refine M0 ?_;refine aG ?_)
 all_goals
 refine bC (λ c15=>?_) (λ c15=>?_)
 ·all_goals refine O9 ?_
  all_goals
   refine bB Tryz.results216 (λ w hw=>?_)
   rw[show Mf n xs ys b i=none from if_neg (by simp_all)];exact⟨rfl,hw.done⟩
 ·try exact nv c15
  all_goals
   have hcv:CV n xs ys:=h7.1 (by simpa using g9)
   have hpl:=aBg (hcv.bv hb hb2) c15
  all_goals (refine kG ?_;refine dV [(0,[]),(1,[]),(2,[]),(3,[]),(4,[]),(5,[1]),(6,[]),(7,[]),(8,[]),(9,[])] ?_;refine nS ?_;refine nS ?_;refine aM ?_;refine cB (i:=5) (hq:=(cV (hc:=λ w1 hw=>Pb hb2 i w1))) (h:=λ x21=>?_);refine Qk ?_;refine l9 ?_)
  all_goals
   refine bB Tryz.results216 (λ w hw=>?_)
   rw[show Mf n xs ys b i=some (xs.getD (rC b i) 0) from if_pos ⟨hcv,c15⟩];exact⟨rfl,hw.done⟩
theorem I5(hb:n.bm=(b:Int))(hb2:b<18446744073709551616)(hr:rK w n xs ys):Calls Tryz.prog 245 #[n.v] w λ e w'=>e=.returned (.tuple #[.int .i64 ((Zh n xs ys).getD 0),.bool (Zh n xs ys).isSome])/\St w [] [] w':=by
 have e1:=hr.brN
 refine enter Tryz.func245 Tryz.ntmps245 rfl rfl (SF.s2 hr.br hr.pr) ?_
 simp only[bX]
 simp only[Nd.v,Nd.cells,e1]
 refine J0 ?_;refine bL (λ x1=>?_);refine J8 ?_;refine aT ?_;refine nX ?_;refine aC (c0 (V:=.bool) (hc:=λ w1 hw=>by rw[<- e1];exact ef (n:=n) hb hb2 (hr.fT hw.done))) (λ x5 h5=>?_);refine Eh ?_
 (refine eI 7 (λ g7=>?_) (λ g7=>?_)<;>(first|refine aJ ?_|(refine aF ?_;refine aE ?_)))
 all_goals ((first|refine aJ ?_|(refine aF ?_;refine bN ?_));(first|refine aJ ?_|(refine aF ?_;refine dE ?_));refine Of ?_;refine aG ?_)
 all_goals
 refine bC (λ c12=>?_) (λ c12=>?_)
 ·all_goals refine O9 ?_
  all_goals
   refine bB Tryz.results245 (λ w hw=>?_)
   rw[show Zh n xs ys=none from if_neg (by simp_all;try omega)];exact⟨rfl,hw.done⟩
 ·try exact nv c12
  all_goals
   have hcv:CV n xs ys:=h5.1 (by simpa using g7)
   have hl1:xs.length=1:=by omega
  all_goals (refine aX ?_;refine gM ?_;refine aB (eY (k:=0) rf rf gN gQ fin (by omega) (by omega)) rfl ?_;refine bN ?_;refine J8 ?_)
  all_goals
   refine bB Tryz.results245 (λ w hw=>?_)
   rw[show Zh n xs ys=some (xs.getD 0 0) from if_pos ⟨hcv,hl1⟩];exact⟨rfl,hw.done⟩
end
end

/- Branches: a C-node of a bitmap and a list. -/
section
open Go.RowKit Go.Ct
def cn(b:Nat)(xs:List Int)(x:Option Addr×Nat):Nd:={Nd.zero with kind:=3,bm:=(b:Int),brA:=x.1,brN:=xs.length,brC:=x.2}
theorem aAe{b:Nat}{xs:List Int}(h:BV b xs)(x:Option Addr×Nat){p:Int}(hp:0<=p):CV {cn b xs x with prev:=p} xs [] :=
 ⟨rfl,by simp[rT,Nd.own,Nd.jM,Nd.jC,cn],by simp[cn,Nd.zero],hp,by simp[cn,Nd.zero],.inr (.inr (.inl ⟨rfl,by show(xs.length:Int)=yN (b:Int);rw[wY h.lt,h.len],h.pos⟩))⟩
theorem xy{b:Nat}{xs:List Int}(h:BV b xs)(x:Option Addr×Nat):CV (cn b xs x) xs []:=aAe h x (p:=0) (Int.le_refl _)
end

/- Nodes and lists of pairs out of tapes. -/
end Go.Proofs.YtbajmaoegmbfgaaGreat
namespace Go.Ct
section
end
end Go.Ct
namespace Go.Proofs.YtbajmaoegmbfgaaGreat
section
open Go.RowKit Go.Ct
structure aBm(refs:Int)(n:Nd)(xs:List Int)(ys:List Pr):Prop where
 valid:cA n xs ys
 brN:n.brN=xs.length
 prN:n.prN=ys.length
 brC:n.brN<=n.brC
 dC:n.prN<=n.dC
 bm:∃b:Nat,n.bm=(b:Int)/\b<18446744073709551616
 xs64:xs.length<=64
 ys2:ys.length<=2
 key:n.key.size<=4
 cells:n.main=0/\n.prev=0/\n.status=0
 gen:0<=n.gen/\n.gen<=3
 kind:n.kind=2∨n.kind=3∨n.kind=4∨n.kind=5∨n.kind=6∨n.kind=8
 refs:(∀r∈xs,1<=r/\r<=refs)/\0<=n.bD/\n.bD<=refs/\0<=n.exp/\n.exp<=refs/\0<=n.new/\n.new<=refs
end

/- Tombs: Untombed, Contracted, Grown, Shrunk: both sides. -/
section
open Go.RowKit Go.Ct
def tmb(s:Nd):Nd:={Nd.zero with kind:=5,hash:=s.hash,key:=s.key,val:=s.val}
def Gk(n:Nd):Nd:=if n.kind=5 then{Nd.zero with kind:=4,hash:=n.hash,key:=n.key,val:=n.val} else Nd.zero
theorem Iz(n:Nd)(w:World):Calls Tryz.prog 219 #[n.v] w λ e w'=>e=.returned (.tuple #[(Gk n).v,.bool (decide (n.kind=5))])/\St w [] [] w':=by
 refine enter Tryz.func219 Tryz.ntmps219 rfl rfl (SF.s0 w) ?_
 simp only[bX]
 simp only[Nd.v,Nd.cells]
 refine J0 ?_;refine bL (λ x1=>?_);refine aI (λ x2=>?_);refine hZ ?_;refine gM ?_;refine kM ?_;refine aG ?_
 refine bC (λ c6=>?_) (λ c6=>?_)
 ·refine J0 ?_;refine bG ?_;refine yA ?_
  refine bB Tryz.results219 (λ w hw=>?_)
  exact⟨by rw[show Gk n=Nd.zero from if_neg (by assumption),decide_eq_false (by assumption)];rfl,hw.done⟩
 ·refine aX ?_;refine gM ?_;refine J3 ?_;refine J3 ?_;refine bG ?_;refine yA ?_
  refine bB Tryz.results219 (λ w hw=>?_)
  exact⟨by rw[show Gk n={Nd.zero with kind:=4,hash:=n.hash,key:=n.key,val:=n.val} from if_pos (by omega),decide_eq_true (by omega)];rfl,hw.done⟩
section
variable{n s:Nd}{xs:List Int}{ys:List Pr}{w:World}{b:Nat}
def LV(n:Nd)(xs:List Int)(ys:List Pr):Prop:=n.kind=6/\cA n xs ys
theorem Nw(hb:n.bm=(b:Int))(hb2:b<18446744073709551616)(hr:rK w n xs ys):Calls Tryz.prog 255 #[n.v] w λ e w'=>∃r:Bool,e=.returned (.bool r)/\(r=true↔LV n xs ys)/\St w [] [] w':=by
 refine enter Tryz.func255 Tryz.ntmps255 rfl rfl (SF.s0 w) ?_
 simp only[bX]
 simp only[Nd.v,Nd.cells]
 refine J0 ?_;refine bL (λ x1=>?_);refine J1 ?_;refine gM ?_;refine lI ?_;refine aA ?_
 (refine eI 6 (λ g6=>?_) (λ g6=>?_)<;>(first|refine aJ ?_|(refine aF ?_;refine bN ?_)))
 all_goals ((first|refine aJ ?_|(refine aF ?_;refine aC (c0 (V:=.bool) (hc:=λ w1 hw=>zP (n:=n) hb hb2 (hr.fT hw.done))) (λ x8 h8=>?_)));refine cJ ?_;refine J1 ?_)
 all_goals
 refine aR Tryz.results255 (λ w hw=>?_)
 refine⟨_,rfl,?_,hw.done⟩
 simp_all[LV]
open Classical in
noncomputable def Qv (n:Nd) (xs:List Int) (ys:List Pr) (level:Int) (s:Nd):Bool:=decide ((Zh n xs ys).isSome=true/\0<level/\s.kind=4)
def ss(t:Bool)(n s:Nd):Nd:=if t=true then tmb s else n
def l8{α:Type}(t:Bool)(l:List α):List α:=if t=true then [] else l
theorem Dm(level:Int)(s:Nd)(hb:n.bm=(b:Int))(hb2:b<18446744073709551616)(hr:rK w n xs ys):Calls Tryz.prog 221 #[n.v,.int .i64 level,s.v] w λ e w'=>e=.returned (ss (Qv n xs ys level s) n s).v/\St w [] [] w':=by
 refine enter Tryz.func221 Tryz.ntmps221 rfl rfl (SF.s0 w) ?_
 simp only[bX]
 simp only[Nd.v,Nd.cells]
 refine J0 ?_;refine bL (λ x3=>?_);refine bL (λ x5=>?_);refine aI (λ x6=>?_);refine Ql ?_;refine nX ?_;refine aP (cV (hc:=λ w1 hw=>I5 (n:=n) hb hb2 (hr.fT hw.done))) (λ x11=>?_);refine aA ?_;refine aB (bP rf rfl) rfl ?_;refine aB (bP rf rfl) rfl ?_;refine J8 ?_;refine jA ?_
 (refine eI 15 (λ g15=>?_) (λ g15=>?_)<;>(first|refine aJ ?_|(refine aF ?_;refine aA ?_)))
 all_goals (refine B7 ?_;refine aA ?_)
 all_goals (first|refine aJ ?_|(refine eI 19 (λ g19=>?_) (λ g19=>?_)<;>(first|refine aJ ?_|(refine aF ?_;refine aE ?_))))
 all_goals (refine vh ?_;refine aG ?_)
 all_goals
 refine bC (λ c23=>?_) (λ c23=>?_)
 ·try exact nv c23
  all_goals (refine gM ?_;refine J3 ?_;refine J3 ?_;refine uO ?_)
  all_goals
   refine bB Tryz.results221 (λ w hw=>?_)
   rw[show Qv n xs ys level s=true from decide_eq_true ⟨by assumption,by omega,by omega⟩];exact⟨rfl,hw.done⟩
 ·all_goals (refine aX ?_;refine nX ?_;refine J5 ?_)
  all_goals
   refine bB Tryz.results221 (λ w hw=>?_)
   rw[show Qv n xs ys level s=false from decide_eq_false (by rintro ⟨t1,t2,t3⟩;first|omega|(clear hw;simp_all;done))];exact⟨rfl,hw.done⟩
end
end

/- Tombs: Grown, Shrunk: both sides; agrees. -/
section
open Go.RowKit Go.Ct
def jz(o:Option (List Pr))(h:Int)(x:Option Addr×Nat):Nd:=match o with|some m=>{Nd.zero with kind:=6,hash:=h,prA:=x.1,prN:=m.length,dC:=x.2}|none=>Nd.zero
def Yz(o:Option (List Pr)):List Pr:=o.getD []
def Mv(o:Option (List Pr))(h:Int)(x:Option Addr×Nat):Nd:=match o with|some m=>if m.length=1 then{Nd.zero with kind:=5,hash:=h,key:=(m.getD 0 (⟨#[]⟩,0)).1,val:=(m.getD 0 (⟨#[]⟩,0)).2} else{Nd.zero with kind:=6,hash:=h,prA:=x.1,prN:=m.length,dC:=x.2}|none=>Nd.zero
def Im(o:Option (List Pr)):List Pr:=match o with|some m=>if m.length=1 then [] else m|none=>[]
open Classical in
noncomputable def kL (n:Nd) (xs:List Int) (ys:List Pr) (k:ByteArray) (v:Int):Option (List Pr):=if LV n xs ys/\k.size<=64 then some (M5 ys k v) else none
open Classical in
noncomputable def pX (n:Nd) (xs:List Int) (ys:List Pr) (k:ByteArray):Option (List Pr):=if LV n xs ys/\(dR ys k).isSome=true then some (rW ys k) else none
def zy(w:World)(o:Option (List Pr))(h:Int)(e:Ending)(w':World):Prop:=∃x:Option Addr×Nat,e=.returned (.tuple #[(jz o h x).v,.bool o.isSome])/\(Yz o).length<=x.2/\SF w [] [] [] [(x.1,dC (Yz o))] [] w'
def aAD(w:World)(o:Option (List Pr))(h:Int)(e:Ending)(w':World):Prop:=∃x:Option Addr×Nat,e=.returned (.tuple #[(Mv o h x).v,.bool o.isSome])/\(Im o).length<=x.2/\SF w [] [] [] [(x.1,dC (Im o))] [] w'
section
variable{n s:Nd}{xs:List Int}{ys:List Pr}{w:World}{b:Nat}
theorem Qt(k:ByteArray)(v:Int)(hb:n.bm=(b:Int))(hb2:b<18446744073709551616)(hr:rK w n xs ys)(hy:ys.length<=150000000000):Calls Tryz.prog 247 #[n.v,.string k,.int .u64 v] w (zy w (kL n xs ys k v) n.hash):=by
 have e2:=hr.prN
 refine enter Tryz.func247 Tryz.ntmps247 rfl rfl (SF.s1 hr.pr) ?_
 simp only[bX]
 simp only[Nd.v,Nd.cells,e2]
 refine J0 ?_;refine bL (λ x3=>?_);refine aI (λ x6=>?_);refine hZ ?_;refine nX ?_;refine aC (c0 (V:=.bool) (hc:=λ w1 hw=>by rw[<- e2];exact Nw (n:=n) hb hb2 (hr.fT hw.done))) (λ x9 h9=>?_);refine Eh ?_
 (refine eI 11 (λ g11=>?_) (λ g11=>?_)<;>(first|refine aJ ?_|(refine aF ?_;refine aA ?_)))
 all_goals ((first|refine aJ ?_|(refine aF ?_;refine lX ?_));refine B7 ?_;refine aG ?_)
 all_goals
 refine bC (λ c15=>?_) (λ c15=>?_)
 ·all_goals (refine J0 ?_;refine bG ?_;refine yA ?_)
  all_goals
   refine bB Tryz.results247 (λ w hw=>?_)
   rw[show kL n xs ys k v=none from if_neg (by rintro ⟨t1,t2⟩;have:=h9.2 t1;clear hw;first|omega|(simp_all;done))];exact⟨(none,0),rfl,Nat.le_refl _,(hw.Kz none).fin⟩
 ·try exact nv c15
  all_goals (refine kG ?_;refine dV [(0,[]),(1,[]),(2,[]),(3,[]),(4,[]),(5,[]),(6,[1]),(7,[]),(8,[]),(9,[])] ?_;refine nS ?_;refine nS ?_;refine gT ?_;refine aZ (i:=6) (hq:=(cF (hc:=λ w1 hw=>j3 (l:=ys) k v (hw.cl fin) (by omega)))) (h:=λ x23 h23=>?_);refine fX ?_;refine yB ?_)
  all_goals
   refine bB Tryz.results247 (λ w hw=>?_)
   rw[show kL n xs ys k v=some (M5 ys k v) from if_pos ⟨h9.1 (by clear hw;simp_all),by omega⟩];exact⟨x23,rfl,h23,hw.fin⟩
theorem O8(k:ByteArray)(hb:n.bm=(b:Int))(hb2:b<18446744073709551616)(hr:rK w n xs ys)(hy:ys.length<=150000000000):Calls Tryz.prog 251 #[n.v,.string k] w (aAD w (pX n xs ys k) n.hash):=by
 have e2:=hr.prN
 refine enter Tryz.func251 Tryz.ntmps251 rfl rfl (SF.s1 hr.pr) ?_
 simp only[bX]
 simp only[Nd.v,Nd.cells,e2]
 refine J0 ?_;refine bL (λ x2=>?_);refine aI (λ x4=>?_);refine hZ ?_;refine gM ?_;refine aA ?_;refine aP (cV (hc:=λ w1 hw=>Jd (l:=ys) k (hw.cl fin) (by omega))) (λ x13=>?_);refine aA ?_;refine aB (bP rf rfl) rfl ?_;refine aB (bP rf rfl) rfl ?_;refine J8 ?_;refine nX ?_;refine aC (c0 (V:=.bool) (hc:=λ w1 hw=>by rw[<- e2];exact Nw (n:=n) hb hb2 (hr.fT hw.done))) (λ x17 h17=>?_);refine Eh ?_
 (refine eI 19 (λ g19=>?_) (λ g19=>?_)<;>(first|refine aJ ?_|(refine aF ?_;refine aA ?_)))
 all_goals (refine M0 ?_;refine aG ?_)
 all_goals
 refine bC (λ c22=>?_) (λ c22=>?_)
 ·all_goals (refine J0 ?_;refine bG ?_;refine yA ?_)
  all_goals
   refine bB Tryz.results251 (λ w hw=>?_)
   rw[show pX n xs ys k=none from if_neg (by rintro ⟨t1,t2⟩;have:=h17.2 t1;clear hw;simp_all)];exact⟨(none,0),rfl,Nat.le_refl _,(hw.Kz none).fin⟩
 ·try exact nv c22
  all_goals (refine aX ?_;refine gM ?_;refine aA ?_;refine aC (cF (hc:=λ w1 hw=>Yj (l:=ys) k (hw.cl fin) (by omega))) (λ x27 h27=>?_);refine hZ ?_;refine J2 ?_;refine dE ?_;refine uB ?_)
  all_goals
   refine bC (λ c30=>?_) (λ c30=>?_)
   ·refine aT ?_;refine gF [0,1,2,3,4,5,6,7,8,9,10,11,12] ?_;refine nS ?_;refine aM ?_;refine bS (i:=3) (hq:=(E7 (k:=0) rf rf gN dI fin (by omega) (by omega))) (h:=?_);refine nS ?_;refine aM ?_;refine bS (i:=7) (hq:=(E7 (k:=0) rf rf gN dI fin (by omega) (by omega))) (h:=?_);refine aQ ?_;refine bS (i:=9) (hq:=(Nf (q:=0) (lst:=rW ys k) rf gQ fin (by omega))) (h:=?_);refine fX ?_;refine yB ?_
    refine bB Tryz.results251 (λ w hw=>?_)
    have e1:(rW ys k).length=1:=by omega
    rw[show pX n xs ys k=some (rW ys k) from if_pos ⟨h17.1 (by clear hw;simp_all),by clear hw;simp_all⟩];exact⟨(none,0),by simp only[Mv,if_pos e1];rfl,by simp only[Im,if_pos e1];exact Nat.le_refl _,by simp only[Im,if_pos e1];exact(hw.Kz none).fin⟩
   ·refine aX ?_;refine gM ?_;refine aA ?_;refine bG ?_;refine yA ?_
    refine bB Tryz.results251 (λ w hw=>?_)
    have e1:¬(rW ys k).length=1:=by omega
    rw[show pX n xs ys k=some (rW ys k) from if_pos ⟨h17.1 (by clear hw;simp_all),by clear hw;simp_all⟩];exact⟨x27,by simp only[Mv,if_neg e1];rfl,by simp only[Im,if_neg e1];exact h27,by simp only[Im,if_neg e1];exact hw.fin⟩
end
end

/- Branches: lists of lists, joined; the C-node of them. -/
end Go.Proofs.YtbajmaoegmbfgaaGreat
namespace Go.Ct
section
open Go Go.RowKit
section
variable{P:Program}{n:Nat}{S:List (Nat×Value)}
variable{w0 w w':World}{M:List Nat}{H H':List (Nat×Obj)}{A F F':Fr}{O O':List Ow}{G:World->Prop}
variable{d:Nat}{ty:TypeId}{pos:String}{af:Array Edge}{gd:Option (Nat×Bool)}{dst:Option Nat}{x y z:Operand}{t t2 e:TypeId}{p a:Option Addr}{i m k c c2:Nat}
end
end
end Go.Ct
namespace Go.Proofs.YtbajmaoegmbfgaaGreat
section
open Go Go.RowKit Go.Ct
end

/- Branches: Inserted, Updated, Removed. -/
section
open Go.RowKit Go.Ct
open Classical in
noncomputable def lj (n:Nd) (xs:List Int) (ys:List Pr) (b:Nat) (i r:Int):Option (Nat×List Int):=if CV n xs ys/\(0<=i/\i<64)/\1<=r/\pI b i=false then some (dM b i,wD xs (rC b i) r) else none
open Classical in
noncomputable def lx (n:Nd) (xs:List Int) (ys:List Pr) (b:Nat) (i r:Int):Option (Nat×List Int):=if CV n xs ys/\1<=r/\pI b i=true then some (b,zJ xs (rC b i) r) else none
open Classical in
noncomputable def l7 (n:Nd) (xs:List Int) (ys:List Pr) (b:Nat) (i:Int):Option (Nat×List Int):=if CV n xs ys/\pI b i=true then some (vT b i,rV xs (rC b i)) else none
def mF(o:Option (Nat×List Int))(x:Option Addr×Nat):Nd:=match o with|some q=>cn q.1 q.2 x|none=>Nd.zero
def mC(o:Option (Nat×List Int)):List Int:=match o with|some q=>q.2|none=>[]
def Wt(w:World)(o:Option (Nat×List Int))(e:Ending)(w':World):Prop:=∃x:Option Addr×Nat,e=.returned (.tuple #[(mF o x).v,.bool o.isSome])/\(mC o).length<=x.2/\SF w [] [] [] [(x.1,aH (mC o))] [] w'
section
variable{n:Nd}{xs:List Int}{ys:List Pr}{w:World}{b:Nat}
end
end

/- Branches: the reference's build, Inserted, Updated, Removed. -/
section
open Go.RowKit Go.Ct
def gC(b:Nat)(xs:List Int)(i:Nat)(r:Int):Nat->Option Int:=Mz (sO b xs) i (if 0<r then some r else none)
theorem nT{m:Nat->Option Int}{k:Nat}{v:Int}(h:m k=some v)(hk:k<64):dM (Be m k) (k:Int)=Be m (k+1)/\qW m k++[v]=qW m (k+1):=by
 simp only[Be,qW,h,dM,Option.isSome_some,if_true,Option.toList,Int.toNat_natCast,and_true]
 exact if_pos (by omega)
theorem nM{m:Nat->Option Int}{k:Nat}(h:m k=none):Be m k=Be m (k+1)/\qW m k=qW m (k+1):=by
 simp[Be,qW,h]
theorem Ar(m:Nat->Option Int){k:Nat}(hk:k<=64):Be m k<18446744073709551616:=Nat.lt_of_lt_of_le (di m k) (Nat.pow_le_pow_right (n:=2) (by decide) hk)
theorem U1(m:Nat->Option Int):∀k,(qW m k).length<=k
 | 0=>Nat.le_refl _
 | k+1=>by have:=U1 m k;simp only[qW,List.length_append];cases m k<;>simp<;>omega
section
variable{n:Nd}{xs:List Int}{ys:List Pr}{w:World}{b:Nat}
theorem Ul(hcv:CV n xs ys){k:Nat}(hk:k<64):Mf n xs ys b (k:Int)=sO b xs k:=by
 unfold Mf sO
 have h1:pI b (k:Int)=b.testBit k:=by rw[Ab b (by omega) (by omega),Int.toNat_natCast]
 have h2:rC b (k:Int)=gH b k:=by unfold rC;rw[Int.toNat_natCast,Nat.min_eq_left (by omega)]
 rw[h1,h2]
 by_cases h:b.testBit k=true<;>simp[h,hcv]
theorem Ei{i k:Nat}{r:Int}(hcv:CV n xs ys)(hk:k<64)(h:(k:Int)≠(i:Int)):gC b xs i r k=Mf n xs ys b (k:Int):=by
 rw[Ul hcv hk]
 exact if_neg (by omega)
theorem Es{i k:Nat}{r:Int}(h:(k:Int)=(i:Int)):gC b xs i r k=if 0<r then some r else none:=if_pos (by omega)
theorem Ux{o:Option Int}(h:o.isSome=true):o=some (o.getD 0):=by cases o<;>simp_all
theorem U3{o:Option Int}(h:o.isSome=false):o=none:=by cases o<;>simp_all
set_option maxHeartbeats 800000 in
theorem Lk(i:Nat)(r:Int)(_hi:i<64)(hcv:CV n xs ys)(hb:n.bm=(b:Int))(hb2:b<18446744073709551616)(hr:rK w n xs ys) :
    Calls Tryz.prog 244 #[n.v,.int .i64 (i:Int),.int .i64 r] w λ e w'=>∃x:Option Addr×Nat,e=.returned (cn (Be (gC b xs i r) 64) (qW (gC b xs i r) 64) x).v/\(qW (gC b xs i r) 64).length<=x.2/\SF w [] [] [] [(x.1,aH (qW (gC b xs i r) 64))] [] w':=by
  have e1:=hr.brN
  refine enter Tryz.func244 Tryz.ntmps244 rfl rfl (SF.s2 hr.br hr.pr) ?_
  simp only[bX]
  simp only[Nd.v,Nd.cells]
  refine J0 ?_;refine bL (λ x3=>?_);refine aI (λ x6=>?_);refine aG ?_;refine J0 ?_;refine bG ?_;refine aI (λ x7=>?_);refine J5 ?_;refine aT ?_;refine En ?_
  refine oD [8,9,10,12,13,14,15,16,17,18,19,20,21,22,23,24,25,26,27,28,29,30,31,32,33,34,35,36,37,38,39] (λ y:Nat×Option Addr×Nat=>[(8,.int .i64 ((y.1:Nat):Int))]) (λ y=>y.1<=64/\(qW (gC b xs i r) y.1).length<=y.2.2) (λ y=>[(x7,.cells ⟨[.int .i64 3,.int .i64 0,.int .i64 0,.int .u64 ((Be (gC b xs i r) y.1:Nat):Int),.slice y.2.1 (qW (gC b xs i r) y.1).length y.2.2,.int .u64 0,.string ⟨#[]⟩,.int .u64 0,.slice none 0 0,.int .i64 0,.int .i64 0,.int .i64 0,.int .i64 0,.int .i64 0]⟩ 47),(x6,.cells ⟨Nd.zero.cells⟩ 47),(x3,.cells ⟨n.cells⟩ 47)]) (λ _=>_) (λ y=>[⟨y.2.1,aH (qW (gC b xs i r) y.1),y.2.2,37,1⟩]) (λ y=>64-y.1) ((0,none,0)) (⟨Nat.zero_le _,Nat.le_refl _⟩) (λ y f hx=>?_) (hw0:=λ w hw=>(hw.lS 37 1).back)
  dsimp only[gP,List.map,List.cons_append,List.nil_append]
  have hll:=U1 (gC b xs i r) y.1
  refine kY ?_;refine yU ?_
  refine bC (λ c13=>?_) (λ c13=>?_)
  · refine qG ?_;refine Dz ?_;refine aP (cV (hc:=λ w1 hw=>nQ (n:=n) (y.1:Int) hb hb2 (hr.fT hw.done))) (λ x19=>?_);refine aA ?_;refine aB (jD rf rfl) rfl ?_;refine aB (jD rf rfl) rfl ?_;refine J8 ?_;refine C6 ?_;refine uB ?_
    refine bC (λ c24=>?_) (λ c24=>?_)
    · refine Jq ?_;refine Dj ?_;refine J8 ?_;refine J2 ?_;refine aG ?_
      refine bC (λ c28=>?_) (λ c28=>?_)
      · first
         | have hm:gC b xs i r y.1=some r:=by rw[Es c24,if_pos (by omega)]
         | have hm:gC b xs i r y.1=some ((Mf n xs ys b (y.1:Int)).getD 0):=by rw[Ei hcv (by omega) c24];exact Ux c28
        refine dJ [29,30,31,32,33,34,35,36,37,38,39] (λ z:Nat×Option Addr×Nat=>[]) (λ z=>(qW (gC b xs i r) y.1).length+1<=z.2.2) (λ z=>[(x7,.cells ⟨[.int .i64 3,.int .i64 0,.int .i64 0,.int .u64 ((Be (gC b xs i r) (y.1+1):Nat):Int),.slice z.2.1 (qW (gC b xs i r) (y.1+1)).length z.2.2,.int .u64 0,.string ⟨#[]⟩,.int .u64 0,.slice none 0 0,.int .i64 0,.int .i64 0,.int .i64 0,.int .i64 0,.int .i64 0]⟩ 47),(x6,.cells ⟨Nd.zero.cells⟩ 47),(x3,.cells ⟨n.cells⟩ 47)]) (λ z=>[]) (λ z=>[⟨z.2.1,aH (qW (gC b xs i r) (y.1+1)),z.2.2,37,1⟩]) (by decide) (λ _=>by exact rfl) ?_ (λ z f hx=>?_)
        · refine fP (.one 0 [] (.one 1 [] (.one 2 [] (.one 4 [] (.one 5 [] (.one 6 [] (.two 3 [5] (.one 9 [] (.one 7 [1,5] (.one 8 [] (.one 10 [] (.one 11 [] (.one 12 [] .nil)))))) 0 [] (.two 7 [1,5] (.one 3 [5] (.one 9 [] (.one 8 [] (.one 10 [] (.one 11 [] (.one 12 [] .nil)))))) 0 [] .nil)))))))) ?_
          refine nS ?_;refine aM ?_;refine nS ?_;refine aM ?_
          refine fF (E:=[3,7]) (by decide +kernel) ((.cons ?_ (.cons ?_ .nil)))
          · refine yI (i:=3) (hq:=(cV (hc:=λ w1 hw=>mV (Ar (gC b xs i r) (k:=y.1) (by omega)) (y.1:Int) w1))) (h:=λ x32=>?_)
            refine aQ ?_;refine cG (h:=λ x36=>?_);((refine An (h:=λ x37=>?_);try (refine eF (λ h37=>?_))));refine Rj ?_;refine wU ?_
            refine eC ((0,x37)) ?_ (hw1:=λ w hw=>by obtain⟨k1,k2⟩:=nT hm (by omega);rw[k1,show(qW (gC b xs i r) y.1).length+1=(qW (gC b xs i r) (y.1+1)).length by rw[<- k2];simp,k2] at hw;exact hw.back)
            · exact h37
          · refine Ax (i:=7) (h:=λ x36=>?_)
            refine cB (i:=3) (hq:=(cV (hc:=λ w1 hw=>mV (Ar (gC b xs i r) (k:=y.1) (by omega)) (y.1:Int) w1))) (h:=λ x32=>?_);refine aQ ?_;((refine An (h:=λ x37=>?_);try (refine eF (λ h37=>?_))));refine Rj ?_;refine wU ?_
            refine eC ((0,x37)) ?_ (hw1:=λ w hw=>by obtain⟨k1,k2⟩:=nT hm (by omega);rw[k1,show(qW (gC b xs i r) y.1).length+1=(qW (gC b xs i r) (y.1+1)).length by rw[<- k2];simp,k2] at hw;exact hw.back)
            · exact h37
        dsimp only[gP,List.map,List.cons_append,List.nil_append]
        refine fC ?_;refine xV ?_
        refine iQ ((by exact(y.1+1,z.2))) ?_ (hw1:=λ w hw=>by exact hw.back)
        · first
           | exact⟨by omega,by have k2:=(nT hm (by omega)).2;simp only[];rw[<- k2,List.length_append];exact hx⟩
           | exact⟨by omega,by simp only[];rw[<- (nM hm).2];exact hx.2⟩
      · have hm:gC b xs i r y.1=none:=by
         first
          | (rw[Es c24,if_neg (by omega)];done)
          | (rw[Ei hcv (by omega) c24];exact U3 c28)
        refine oF ?_;refine xV ?_
        refine iQ ((by exact(y.1+1,y.2))) ?_ (hw1:=λ w hw=>by(rw[(nM hm).1,(nM hm).2] at hw;exact hw.back))
        · first
           | exact⟨by omega,by have k2:=(nT hm (by omega)).2;simp only[];rw[<- k2,List.length_append];exact hx⟩
           | exact⟨by omega,by simp only[];rw[<- (nM hm).2];exact hx.2⟩
    · refine aX ?_;refine J2 ?_;refine aG ?_
      refine bC (λ c28=>?_) (λ c28=>?_)
      · first
         | have hm:gC b xs i r y.1=some r:=by rw[Es c24,if_pos (by omega)]
         | have hm:gC b xs i r y.1=some ((Mf n xs ys b (y.1:Int)).getD 0):=by rw[Ei hcv (by omega) c24];exact Ux c28
        refine dJ [29,30,31,32,33,34,35,36,37,38,39] (λ z:Nat×Option Addr×Nat=>[]) (λ z=>(qW (gC b xs i r) y.1).length+1<=z.2.2) (λ z=>[(x7,.cells ⟨[.int .i64 3,.int .i64 0,.int .i64 0,.int .u64 ((Be (gC b xs i r) (y.1+1):Nat):Int),.slice z.2.1 (qW (gC b xs i r) (y.1+1)).length z.2.2,.int .u64 0,.string ⟨#[]⟩,.int .u64 0,.slice none 0 0,.int .i64 0,.int .i64 0,.int .i64 0,.int .i64 0,.int .i64 0]⟩ 47),(x6,.cells ⟨Nd.zero.cells⟩ 47),(x3,.cells ⟨n.cells⟩ 47)]) (λ z=>[]) (λ z=>[⟨z.2.1,aH (qW (gC b xs i r) (y.1+1)),z.2.2,37,1⟩]) (by decide) (λ _=>by exact rfl) ?_ (λ z f hx=>?_)
        · refine fP (.one 0 [] (.one 1 [] (.one 2 [] (.one 4 [] (.one 5 [] (.one 6 [] (.two 3 [5] (.one 9 [] (.one 7 [1,5] (.one 8 [] (.one 10 [] (.one 11 [] (.one 12 [] .nil)))))) 0 [] (.two 7 [1,5] (.one 3 [5] (.one 9 [] (.one 8 [] (.one 10 [] (.one 11 [] (.one 12 [] .nil)))))) 0 [] .nil)))))))) ?_
          refine nS ?_;refine aM ?_;refine nS ?_;refine aM ?_
          refine fF (E:=[3,7]) (by decide +kernel) ((.cons ?_ (.cons ?_ .nil)))
          · refine yI (i:=3) (hq:=(cV (hc:=λ w1 hw=>mV (Ar (gC b xs i r) (k:=y.1) (by omega)) (y.1:Int) w1))) (h:=λ x32=>?_)
            refine aQ ?_;refine cG (h:=λ x36=>?_);((refine An (h:=λ x37=>?_);try (refine eF (λ h37=>?_))));refine Rj ?_;refine wU ?_
            refine eC ((0,x37)) ?_ (hw1:=λ w hw=>by obtain⟨k1,k2⟩:=nT hm (by omega);rw[k1,show(qW (gC b xs i r) y.1).length+1=(qW (gC b xs i r) (y.1+1)).length by rw[<- k2];simp,k2] at hw;exact hw.back)
            · exact h37
          · refine Ax (i:=7) (h:=λ x36=>?_)
            refine cB (i:=3) (hq:=(cV (hc:=λ w1 hw=>mV (Ar (gC b xs i r) (k:=y.1) (by omega)) (y.1:Int) w1))) (h:=λ x32=>?_);refine aQ ?_;((refine An (h:=λ x37=>?_);try (refine eF (λ h37=>?_))));refine Rj ?_;refine wU ?_
            refine eC ((0,x37)) ?_ (hw1:=λ w hw=>by obtain⟨k1,k2⟩:=nT hm (by omega);rw[k1,show(qW (gC b xs i r) y.1).length+1=(qW (gC b xs i r) (y.1+1)).length by rw[<- k2];simp,k2] at hw;exact hw.back)
            · exact h37
        dsimp only[gP,List.map,List.cons_append,List.nil_append]
        refine fC ?_;refine xV ?_
        refine iQ ((by exact(y.1+1,z.2))) ?_ (hw1:=λ w hw=>by exact hw.back)
        · first
           | exact⟨by omega,by have k2:=(nT hm (by omega)).2;simp only[];rw[<- k2,List.length_append];exact hx⟩
           | exact⟨by omega,by simp only[];rw[<- (nM hm).2];exact hx.2⟩
      · have hm:gC b xs i r y.1=none:=by
         first
          | (rw[Es c24,if_neg (by omega)];done)
          | (rw[Ei hcv (by omega) c24];exact U3 c28)
        refine oF ?_;refine xV ?_
        refine iQ ((by exact(y.1+1,y.2))) ?_ (hw1:=λ w hw=>by(rw[(nM hm).1,(nM hm).2] at hw;exact hw.back))
        · first
           | exact⟨by omega,by have k2:=(nT hm (by omega)).2;simp only[];rw[<- k2,List.length_append];exact hx⟩
           | exact⟨by omega,by simp only[];rw[<- (nM hm).2];exact hx.2⟩
  · refine bO rfl ?_;refine nX ?_;refine J5 ?_
    refine bB Tryz.results244 (λ w hw=>?_)
    have hy:y.1=64:=by omega
    rw[hy] at hw hx ⊢
    generalize Be (gC b xs i r) 64=B at hw ⊢
    generalize qW (gC b xs i r) 64=L at hw hx ⊢
    exact⟨y.2,rfl,hx.2,SF.frz hw.aU⟩
end
end

/- Branches: the reference's Inserted, Updated, Removed. -/
section
open Go.RowKit Go.Ct
theorem of_eq{m:Nat->Option Int}{b:Nat}{xs:List Int}(h:BV b xs/\∀k,k<64->sO b xs k=m k):Be m 64=b/\qW m 64=xs:=by
 obtain⟨h1,h2⟩:=P6 64 λ k hk=>(h.2 k hk).symm
 obtain⟨h3,h4⟩:=cx h.1
 exact⟨h1.trans h3,h2.trans h4⟩
theorem pB{k:Nat}(b:Nat)(hk:k<64):dM b (k:Int)=b ||| 2^k:=by
 unfold dM;rw[if_pos (by omega),Int.toNat_natCast]
theorem tE{k:Nat}(b:Nat)(hk:k<64):vT b (k:Int)=b ^^^ (b &&& 2^k):=by
 unfold vT;rw[if_pos (by omega),Int.toNat_natCast]
theorem nP{k:Nat}(b:Nat)(hk:k<64):rC b (k:Int)=gH b k:=by
 unfold rC;rw[Int.toNat_natCast,Nat.min_eq_left (by omega)]
theorem pW{k:Nat}(b:Nat)(hk:k<64):pI b (k:Int)=b.testBit k:=by
 rw[Ab b (by omega) (by omega),Int.toNat_natCast]
theorem X8{b k:Nat}{xs:List Int}{r:Int}(h:BV b xs)(hk:k<64)(hb:pI b (k:Int)=false)(hr:1<=r):Be (gC b xs k r) 64=dM b (k:Int)/\qW (gC b xs k r) 64=wD xs (rC b (k:Int)) r:=by
 rw[pW b hk] at hb
 rw[pB b hk,nP b hk]
 unfold gC
 rw[if_pos (by omega)]
 exact of_eq (Ga h hk hb hr)
theorem Xu{b k:Nat}{xs:List Int}{r:Int}(h:BV b xs)(hk:k<64)(hb:pI b (k:Int)=true)(hr:1<=r):Be (gC b xs k r) 64=b/\qW (gC b xs k r) 64=zJ xs (rC b (k:Int)) r:=by
 rw[pW b hk] at hb
 rw[nP b hk]
 unfold gC
 rw[if_pos (by omega)]
 exact of_eq (S6 h hk hb hr)
theorem Yl{b k:Nat}{xs:List Int}(h:BV b xs)(hk:k<64)(hb:pI b (k:Int)=true):Be (gC b xs k 0) 64=vT b (k:Int)/\qW (gC b xs k 0) 64=rV xs (rC b (k:Int)):=by
 rw[pW b hk] at hb
 rw[tE b hk,nP b hk]
 unfold gC
 rw[if_neg (by omega)]
 exact of_eq (R9 h hk hb)
section
variable{n:Nd}{xs:List Int}{ys:List Pr}{w:World}{b:Nat}
theorem Az{i:Int}(h:(Mf n xs ys b i).isSome=true):CV n xs ys/\pI b i=true:=by
 unfold Mf at h
 split at h
 ·assumption
 ·cases h
theorem G4{i:Int}(h:(Mf n xs ys b i).isSome=false)(hcv:CV n xs ys):pI b i=false:=by
 unfold Mf at h
 split at h
 ·cases h
 ·rename_i hn
  cases hh:pI b i with
  | false=>rfl
  | true=>exact absurd ⟨hcv,hh⟩ hn
theorem Ix(i r:Int)(hb:n.bm=(b:Int))(hb2:b<18446744073709551616)(hr:rK w n xs ys):Calls Tryz.prog 249 #[n.v,.int .i64 i,.int .i64 r] w (Wt w (lj n xs ys b i r)):=by
 refine enter Tryz.func249 Tryz.ntmps249 rfl rfl (SF.s2 hr.br hr.pr) ?_
 simp only[bX]
 simp only[Nd.v,Nd.cells]
 refine J0 ?_;refine bL (λ x3=>?_);refine aI (λ x6=>?_);refine hZ ?_;refine Dz ?_;refine aP (cV (hc:=λ w1 hw=>nQ (n:=n) i hb hb2 (hr.fT hw.done))) (λ x13=>?_);refine aA ?_;refine aB (jD rf rfl) rfl ?_;refine aB (jD rf rfl) rfl ?_;refine J8 ?_;refine nX ?_;refine aC (c0 (V:=.bool) (hc:=λ w1 hw=>ef (n:=n) hb hb2 (hr.fT hw.done))) (λ x17 h17=>?_);refine Eh ?_
 (refine eI 19 (λ g19=>?_) (λ g19=>?_)<;>(first|refine aJ ?_|(refine aF ?_;refine aA ?_)))
 all_goals (refine cJ ?_;refine aA ?_)
 all_goals (first|refine aJ ?_|(refine eI 22 (λ g22=>?_) (λ g22=>?_)<;>(first|refine aJ ?_|(refine aF ?_;refine aA ?_))))
 all_goals (refine sf ?_;refine aA ?_)
 all_goals (first|refine aJ ?_|(refine eI 26 (λ g26=>?_) (λ g26=>?_)<;>(first|refine aJ ?_|(refine aF ?_;refine aA ?_))))
 all_goals (refine B7 ?_;refine aA ?_)
 all_goals (first|refine aJ ?_|(refine eI 30 (λ g30=>?_) (λ g30=>?_)<;>(first|refine aJ ?_|(refine aF ?_;refine aA ?_))))
 all_goals (refine sf ?_;refine aG ?_)
 all_goals
 refine bC (λ c33=>?_) (λ c33=>?_)
 ·all_goals (refine J0 ?_;refine bG ?_;refine yA ?_)
  all_goals
   refine bB Tryz.results249 (λ w hw=>?_)
   rw[show lj n xs ys b i r=none from if_neg (by rintro ⟨k1,⟨k2,k3⟩,k4,k5⟩;clear hw;first|omega|exact absurd (Az g22).2 (by simp[k5])|exact absurd (h17.2 k1) (by simp_all))];exact⟨(none,0),rfl,Nat.le_refl _,(hw.Kz none).fin⟩
 ·try exact nv c33
  all_goals
   have hcv:=h17.1 (by simpa using g19)
   have hh:=G4 g22 hcv
   obtain⟨k,rfl⟩:=Int.eq_ofNat_of_zero_le (show 0<=i by omega)
   have hk:=X8 (hcv.bv hb hb2) (k:=k) (by omega) hh (r:=r) (by omega)
  all_goals (refine aX ?_;refine nX ?_;refine pE ?_;refine aC (cF (hc:=λ w1 hw=>by have:=Lk (w:=w1) k r (by omega) hcv hb hb2 (hr.fT hw.done);rw[hk.1,hk.2] at this;exact this)) (λ x38 h38=>?_);refine yA ?_)
  all_goals
   refine bB Tryz.results249 (λ w hw=>?_)
   rw[show lj n xs ys b (k:Int) r=some (dM b (k:Int),wD xs (rC b (k:Int)) r) from if_pos ⟨hcv,⟨by omega,by omega⟩,by omega,hh⟩];exact⟨x38,rfl,h38,hw.fin⟩
theorem Ma(i r:Int)(hb:n.bm=(b:Int))(hb2:b<18446744073709551616)(hr:rK w n xs ys):Calls Tryz.prog 220 #[n.v,.int .i64 i,.int .i64 r] w (Wt w (lx n xs ys b i r)):=by
 refine enter Tryz.func220 Tryz.ntmps220 rfl rfl (SF.s2 hr.br hr.pr) ?_
 simp only[bX]
 simp only[Nd.v,Nd.cells]
 refine J0 ?_;refine bL (λ x3=>?_);refine aI (λ x6=>?_);refine hZ ?_;refine Dz ?_;refine aP (cV (hc:=λ w1 hw=>nQ (n:=n) i hb hb2 (hr.fT hw.done))) (λ x13=>?_);refine aA ?_;refine aB (jD rf rfl) rfl ?_;refine aB (jD rf rfl) rfl ?_;refine J8 ?_;refine J2 ?_;refine Eh ?_
 (refine eI 18 (λ g18=>?_) (λ g18=>?_)<;>(first|refine aJ ?_|(refine aF ?_;refine aA ?_)))
 all_goals (refine sf ?_;refine aG ?_)
 all_goals
 refine bC (λ c21=>?_) (λ c21=>?_)
 ·all_goals (refine J0 ?_;refine bG ?_;refine yA ?_)
  all_goals
   refine bB Tryz.results220 (λ w hw=>?_)
   rw[show lx n xs ys b i r=none from if_neg (by rintro ⟨k1,k4,k5⟩;clear hw;first|omega|exact absurd (G4 (by simpa using g18) k1) (by simp[k5]))];exact⟨(none,0),rfl,Nat.le_refl _,(hw.Kz none).fin⟩
 ·try exact nv c21
  all_goals
   have hc:=Az (by simpa using g18)
   have hcv:=hc.1
   have hh:=hc.2
   obtain⟨q1,q2,_,_⟩:=rX hh
   obtain⟨k,rfl⟩:=Int.eq_ofNat_of_zero_le q1
   have hk:=Xu (hcv.bv hb hb2) (k:=k) (by omega) hh (r:=r) (by omega)
  all_goals (refine aX ?_;refine nX ?_;refine pE ?_;refine aC (cF (hc:=λ w1 hw=>by have:=Lk (w:=w1) k r (by omega) hcv hb hb2 (hr.fT hw.done);rw[hk.1,hk.2] at this;exact this)) (λ x26 h26=>?_);refine yA ?_)
  all_goals
   refine bB Tryz.results220 (λ w hw=>?_)
   rw[show lx n xs ys b (k:Int) r=some (b,zJ xs (rC b (k:Int)) r) from if_pos ⟨hcv,by omega,hh⟩];exact⟨x26,rfl,h26,hw.fin⟩
theorem Md(i:Int)(hb:n.bm=(b:Int))(hb2:b<18446744073709551616)(hr:rK w n xs ys):Calls Tryz.prog 252 #[n.v,.int .i64 i] w (Wt w (l7 n xs ys b i)):=by
 refine enter Tryz.func252 Tryz.ntmps252 rfl rfl (SF.s2 hr.br hr.pr) ?_
 simp only[bX]
 simp only[Nd.v,Nd.cells]
 refine J0 ?_;refine bL (λ x2=>?_);refine aI (λ x4=>?_);refine hZ ?_;refine Dz ?_;refine aP (cV (hc:=λ w1 hw=>nQ (n:=n) i hb hb2 (hr.fT hw.done))) (λ x11=>?_);refine aA ?_;refine aB (jD rf rfl) rfl ?_;refine aB (jD rf rfl) rfl ?_;refine J8 ?_;refine J2 ?_;refine oK ?_
 refine bC (λ c15=>?_) (λ c15=>?_)
 ·refine J0 ?_;refine bG ?_;refine yA ?_
  refine bB Tryz.results252 (λ w hw=>?_)
  rw[show l7 n xs ys b i=none from if_neg (by rintro ⟨k1,k5⟩;clear hw;exact absurd (G4 c15 k1) (by simp[k5]))];exact⟨(none,0),rfl,Nat.le_refl _,(hw.Kz none).fin⟩
 ·have hc:=Az c15
  have hcv:=hc.1
  have hh:=hc.2
  obtain⟨q1,q2,_,_⟩:=rX hh
  obtain⟨k,rfl⟩:=Int.eq_ofNat_of_zero_le q1
  have hk:=Yl (hcv.bv hb hb2) (k:=k) (by omega) hh
  refine aX ?_;refine Dz ?_;refine aC (cF (hc:=λ w1 hw=>by have:=Lk (w:=w1) k 0 (by omega) hcv hb hb2 (hr.fT hw.done);rw[hk.1,hk.2] at this;exact this)) (λ x19 h19=>?_);refine yA ?_
  refine bB Tryz.results252 (λ w hw=>?_)
  rw[show l7 n xs ys b (k:Int)=some (vT b (k:Int),rV xs (rC b (k:Int))) from if_pos ⟨hcv,hh⟩];exact⟨x19,rfl,h19,hw.fin⟩
end
end

end Go.Proofs.YtbajmaoegmbfgaaGreat

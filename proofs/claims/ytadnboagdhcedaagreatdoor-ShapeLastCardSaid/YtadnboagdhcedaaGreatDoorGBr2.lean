/- Branches: what Lookup and Sole compute. -/
import Derived.Test.YtadnboagdhcedaaGreatDoorGPaX
import Derived.Test.YtadnboagdhcedaaGreatDoorGNode3
import Derived.Test.YtadnboagdhcedaaGreatDoorGBits
import Derived.Test.YtadnboagdhcedaaGreatDoorGJoin

set_option linter.unusedSimpArgs false
set_option linter.unusedVariables false
namespace Go.Ct
section
open Go Go.RowKit
end
end Go.Ct
namespace Go.Proofs.YtadnboagdhcedaaGreatDoor
section
open Go.RowKit Go.Ct
def CV(n:Nd)(xs:List Int)(ys:List Pr):Prop:=n.kind=3/\bY n xs ys
theorem CV.bv{n:Nd}{xs:List Int}{ys:List Pr}{b:Nat}(h:CV n xs ys)(hb:n.bm=(b:Int))(hb2:b<18446744073709551616):BV b xs:=by
 obtain⟨h1,h2⟩:=nL h.1 h.2
 rw[hb,nI hb2] at h1
 exact⟨hb2,by omega,h2⟩
instance (n:Nd) (ys:List Pr):Decidable (ys=n.eZ ys):=if h:(n.kind==6)=true then isTrue (by unfold Nd.eZ;rw[if_pos h]) else decidable_of_iff (ys=[]) (by unfold Nd.eZ;rw[if_neg h])
instance (n:Nd) (xs:List Int) (ys:List Pr):Decidable (oU n n.own xs (n.fI xs) ys (n.eZ ys)):=inferInstanceAs (Decidable (n.kind=n.own.kind/\n.gen=n.own.gen/\n.main=n.own.main/\n.bm=n.own.bm/\xs=n.fI xs/\n.hash=n.own.hash/\n.key=n.own.key/\n.val=n.own.val/\ys=n.eZ ys/\n.prev=n.own.prev/\n.bL=n.own.bL/\n.exp=n.own.exp/\n.new=n.own.new/\n.status=n.own.status))
instance (l:List Int):Decidable (Pos l):=inferInstanceAs (Decidable (∀i,i<l.length->1<=l.getD i 0))
instance (l:List Pr):Decidable (Aj l):=inferInstanceAs (Decidable (∀i,i<l.length->(l.getD i (⟨#[]⟩,0)).1.size<=64))
instance (l:List Pr):Decidable (ir l):=decidable_of_iff (∀i,i<l.length->1<=i->cW (l.getD (i-1) (⟨#[]⟩,0)).1 (l.getD i (⟨#[]⟩,0)).1=true) ⟨λ h i a b=>h i b a,λ h i a b=>h i b a⟩
instance (n:Nd) (xs:List Int) (ys:List Pr):Decidable (bY n xs ys):=inferInstanceAs (Decidable (_/\_))
instance (n:Nd) (xs:List Int) (ys:List Pr):Decidable (CV n xs ys):=inferInstanceAs (Decidable (_/\_))
def G6(n:Nd)(xs:List Int)(ys:List Pr)(b:Nat)(i:Int):Option Int:=if CV n xs ys/\nZ b i=true then some (xs.getD (oR b i) 0) else none
def Vj(n:Nd)(xs:List Int)(ys:List Pr):Option Int:=if CV n xs ys/\xs.length=1 then some (xs.getD 0 0) else none
theorem pI{b:Nat}{i:Int}(h:nZ b i=true):0<=i/\i<64/\b.testBit i.toNat=true/\oR b i=eE b i.toNat:=by
 simp only[nZ,Bool.and_eq_true,decide_eq_true_eq] at h
 exact⟨h.1,h.2.1,h.2.2,by unfold oR;congr 1;omega⟩
theorem v3{b:Nat}{xs:List Int}(h:BV b xs){i:Int}(hh:nZ b i=true):oR b i<xs.length:=by
 obtain⟨h1,h2,h3,h4⟩:=pI hh
 rw[h4,h.len]
 exact mS (by omega) h3
section
variable{n:Nd}{xs:List Int}{ys:List Pr}{w:World}{b:Nat}
theorem Yy(hb:n.bm=(b:Int))(hb2:b<18446744073709551616)(hr:pT w n xs ys):Calls Tryz.prog 146 #[n.v] w λ e w'=>∃r:Bool,e=.returned (.bool r)/\(r=true↔CV n xs ys)/\St w [] [] w':=by
 refine enter Tryz.func146 Tryz.ntmps146 rfl rfl (SF.s0 w) ?_
 simp only[cR]
 simp only[Nd.v,Nd.cells]
 refine J0 ?_;refine bP (λ x1=>?_);refine J1 ?_;refine gN ?_;refine vB ?_;refine aB ?_
 (refine eR 6 (λ g6=>?_) (λ g6=>?_)<;>refine Ka2 ?_)
 all_goals ((first|refine aH ?_|(refine aF ?_;refine aC (c0 (V:=.bool) (hc:=λ w1 hw=>Cp (n:=n) hb hb2 (hr.eW hw.done))) (λ x8 h8=>?_)));refine Kc7 ?_)
 all_goals
 refine aN Tryz.results146 (λ w hw=>?_)
 refine⟨_,rfl,?_,hw.done⟩
 simp_all[CV]
theorem mE(i:Int)(hb:n.bm=(b:Int))(hb2:b<18446744073709551616)(hr:pT w n xs ys):Calls Tryz.prog 115 #[n.v,.int .i64 i] w λ e w'=>e=.returned (.tuple #[.int .i64 ((G6 n xs ys b i).getD 0),.bool (G6 n xs ys b i).isSome])/\St w [] [] w':=by
 have e1:=hr.brN
 refine enter Tryz.func115 Tryz.ntmps115 rfl rfl (SF.s2 hr.br hr.pr) ?_
 simp only[cR]
 simp only[Nd.v,Nd.cells,hb,e1]
 refine J0 ?_;refine bP (λ x2=>?_);refine J8 ?_;refine aS ?_;refine kU ?_;refine aC (c0 (V:=.bool) (hc:=λ w1 hw=>by rw[<- e1,<- hb];exact Yy (n:=n) hb hb2 (hr.eW hw.done))) (λ x7 h7=>?_);refine El ?_
 (refine eR 9 (λ g9=>?_) (λ g9=>?_)<;>refine Ka0 ?_)
 all_goals (refine ll ?_;(first|refine aH ?_|(refine aF ?_;refine aR (cV (hc:=λ w1 hw=>Lb hb2 i w1)) (λ x13=>?_)));refine Qx ?_;refine aI ?_)
 all_goals
 refine aZ (λ c15=>?_) (λ c15=>?_)
 ·all_goals refine Es ?_
  all_goals
   refine bJ Tryz.results115 (λ w hw=>?_)
   rw[show G6 n xs ys b i=none from if_neg (by simp_all)];exact⟨rfl,hw.done⟩
 ·try exact nv c15
  all_goals
   have hcv:CV n xs ys:=h7.1 (by simpa using g9)
   have hpl:=v3 (hcv.bv hb hb2) c15
  all_goals (refine jD ?_;refine eD [(0,[]),(1,[]),(2,[]),(3,[]),(4,[]),(5,[1]),(6,[]),(7,[]),(8,[]),(9,[])] ?_;refine lR ?_;refine lR ?_;refine aT ?_;refine dG (i:=5) (hq:=(cV (hc:=λ w1 hw=>Je hb2 i w1))) (h:=λ x21=>?_);refine T5 ?_;refine de ?_)
  all_goals
   refine bJ Tryz.results115 (λ w hw=>?_)
   rw[show G6 n xs ys b i=some (xs.getD (oR b i) 0) from if_pos ⟨hcv,c15⟩];exact⟨rfl,hw.done⟩
theorem Fo(hb:n.bm=(b:Int))(hb2:b<18446744073709551616)(hr:pT w n xs ys):Calls Tryz.prog 149 #[n.v] w λ e w'=>e=.returned (.tuple #[.int .i64 ((Vj n xs ys).getD 0),.bool (Vj n xs ys).isSome])/\St w [] [] w':=by
 have e1:=hr.brN
 refine enter Tryz.func149 Tryz.ntmps149 rfl rfl (SF.s2 hr.br hr.pr) ?_
 simp only[cR]
 simp only[Nd.v,Nd.cells,e1]
 refine J0 ?_;refine bP (λ x1=>?_);refine J8 ?_;refine aS ?_;refine kU ?_;refine aC (c0 (V:=.bool) (hc:=λ w1 hw=>by rw[<- e1];exact Yy (n:=n) hb hb2 (hr.eW hw.done))) (λ x5 h5=>?_);refine El ?_
 (refine eR 7 (λ g7=>?_) (λ g7=>?_)<;>refine Ka0 ?_)
 all_goals (refine Ka2 ?_;(first|refine aH ?_|(refine aF ?_;refine dF ?_));refine S8 ?_;refine aI ?_)
 all_goals
 refine aZ (λ c12=>?_) (λ c12=>?_)
 ·all_goals refine Es ?_
  all_goals
   refine bJ Tryz.results149 (λ w hw=>?_)
   rw[show Vj n xs ys=none from if_neg (by simp_all;try omega)];exact⟨rfl,hw.done⟩
 ·try exact nv c12
  all_goals
   have hcv:CV n xs ys:=h5.1 (by simpa using g7)
   have hl1:xs.length=1:=by omega
  all_goals (refine bA ?_;refine gN ?_;refine aE (bX (k:=0) rf rf fK fX fin (by omega) (by omega)) rfl ?_;refine bK ?_;refine J8 ?_)
  all_goals
   refine bJ Tryz.results149 (λ w hw=>?_)
   rw[show Vj n xs ys=some (xs.getD 0 0) from if_pos ⟨hcv,hl1⟩];exact⟨rfl,hw.done⟩
end
end

/- Branches: a C-node of a bitmap and a list. -/
section
open Go.RowKit Go.Ct
def cn(b:Nat)(xs:List Int)(x:Option Addr×Nat):Nd:={Nd.zero with kind:=3,bm:=(b:Int),brA:=x.1,brN:=xs.length,brC:=x.2}
theorem u7{b:Nat}{xs:List Int}(h:BV b xs)(x:Option Addr×Nat){p:Int}(hp:0<=p):CV {cn b xs x with prev:=p} xs [] :=
 ⟨rfl,by simp[oU,Nd.own,Nd.fI,Nd.eZ,cn],by simp[cn,Nd.zero],hp,by simp[cn,Nd.zero],.inr (.inr (.inl ⟨rfl,by show(xs.length:Int)=vE (b:Int);rw[nI h.lt,h.len],h.pos⟩))⟩
theorem oi{b:Nat}{xs:List Int}(h:BV b xs)(x:Option Addr×Nat):CV (cn b xs x) xs []:=u7 h x (p:=0) (Int.le_refl _)
end

/- Tombs: Untombed, Contracted, Grown, Shrunk: both sides. -/
section
open Go.RowKit Go.Ct
def tmb(s:Nd):Nd:={Nd.zero with kind:=5,hash:=s.hash,key:=s.key,val:=s.val}
def Eb(n:Nd):Nd:=if n.kind=5 then{Nd.zero with kind:=4,hash:=n.hash,key:=n.key,val:=n.val} else Nd.zero
theorem Ev(n:Nd)(w:World):Calls Tryz.prog 117 #[n.v] w λ e w'=>e=.returned (.tuple #[(Eb n).v,.bool (decide (n.kind=5))])/\St w [] [] w':=by
 refine enter Tryz.func117 Tryz.ntmps117 rfl rfl (SF.s0 w) ?_
 simp only[cR]
 simp only[Nd.v,Nd.cells]
 refine J0 ?_;refine bP (λ x1=>?_);refine aP (λ x2=>?_);refine gK ?_;refine gN ?_;refine Kb7 ?_
 refine aZ (λ c6=>?_) (λ c6=>?_)
 ·refine J0 ?_;refine bD ?_;refine A1 ?_
  refine bJ Tryz.results117 (λ w hw=>?_)
  exact⟨by rw[show Eb n=Nd.zero from if_neg (by assumption),decide_eq_false (by assumption)];rfl,hw.done⟩
 ·refine bA ?_;refine gN ?_;refine Kc5 ?_;refine bD ?_;refine A1 ?_
  refine bJ Tryz.results117 (λ w hw=>?_)
  exact⟨by rw[show Eb n={Nd.zero with kind:=4,hash:=n.hash,key:=n.key,val:=n.val} from if_pos (by omega),decide_eq_true (by omega)];rfl,hw.done⟩
section
variable{n s:Nd}{xs:List Int}{ys:List Pr}{w:World}{b:Nat}
def LV(n:Nd)(xs:List Int)(ys:List Pr):Prop:=n.kind=6/\bY n xs ys
theorem Ma(hb:n.bm=(b:Int))(hb2:b<18446744073709551616)(hr:pT w n xs ys):Calls Tryz.prog 165 #[n.v] w λ e w'=>∃r:Bool,e=.returned (.bool r)/\(r=true↔LV n xs ys)/\St w [] [] w':=by
 refine enter Tryz.func165 Tryz.ntmps165 rfl rfl (SF.s0 w) ?_
 simp only[cR]
 simp only[Nd.v,Nd.cells]
 refine J0 ?_;refine bP (λ x1=>?_);refine J1 ?_;refine gN ?_;refine vB ?_;refine aB ?_
 (refine eR 6 (λ g6=>?_) (λ g6=>?_)<;>refine Ka2 ?_)
 all_goals ((first|refine aH ?_|(refine aF ?_;refine aC (c0 (V:=.bool) (hc:=λ w1 hw=>Cp (n:=n) hb hb2 (hr.eW hw.done))) (λ x8 h8=>?_)));refine Kc7 ?_)
 all_goals
 refine aN Tryz.results165 (λ w hw=>?_)
 refine⟨_,rfl,?_,hw.done⟩
 simp_all[LV]
open Classical in
def M5(n:Nd)(xs:List Int)(ys:List Pr)(level:Int)(s:Nd):Bool:=decide ((Vj n xs ys).isSome=true/\0<level/\s.kind=4)
def j4(t:Bool)(n s:Nd):Nd:=if t=true then tmb s else n
def Z2{α:Type}(t:Bool)(l:List α):List α:=if t=true then [] else l
theorem A7(level:Int)(s:Nd)(hb:n.bm=(b:Int))(hb2:b<18446744073709551616)(hr:pT w n xs ys):Calls Tryz.prog 119 #[n.v,.int .i64 level,s.v] w λ e w'=>e=.returned (j4 (M5 n xs ys level s) n s).v/\St w [] [] w':=by
 refine enter Tryz.func119 Tryz.ntmps119 rfl rfl (SF.s0 w) ?_
 simp only[cR]
 simp only[Nd.v,Nd.cells]
 refine J0 ?_;refine bP (λ x3=>?_);refine bP (λ x5=>?_);refine aP (λ x6=>?_);refine Xs ?_;refine kU ?_;refine aR (cV (hc:=λ w1 hw=>Fo (n:=n) hb hb2 (hr.eW hw.done))) (λ x11=>?_);refine aB ?_;refine aE (bI rf rfl) rfl ?_;refine aE (bI rf rfl) rfl ?_;refine J8 ?_;refine iF ?_
 (refine eR 15 (λ g15=>?_) (λ g15=>?_)<;>refine Ka1 ?_)
 all_goals (refine Fl ?_;refine aB ?_)
 all_goals (first|refine aH ?_|(refine eR 19 (λ g19=>?_) (λ g19=>?_)<;>refine Ka0 ?_))
 all_goals (refine jo ?_;refine aI ?_)
 all_goals
 refine aZ (λ c23=>?_) (λ c23=>?_)
 ·try exact nv c23
  all_goals (refine gN ?_;refine Kc5 ?_;refine yH ?_)
  all_goals
   refine bJ Tryz.results119 (λ w hw=>?_)
   rw[show M5 n xs ys level s=true from decide_eq_true ⟨by assumption,by omega,by omega⟩];exact⟨rfl,hw.done⟩
 ·all_goals (refine bA ?_;refine Kb1 ?_)
  all_goals
   refine bJ Tryz.results119 (λ w hw=>?_)
   rw[show M5 n xs ys level s=false from decide_eq_false (by rintro ⟨t1,t2,t3⟩;first|omega|(clear hw;simp_all;done))];exact⟨rfl,hw.done⟩
end
end

/- Tombs: Grown, Shrunk: both sides; agrees. -/
section
open Go.RowKit Go.Ct
def Uw(o:Option (List Pr))(h:Int)(x:Option Addr×Nat):Nd:=match o with|some m=>{Nd.zero with kind:=6,hash:=h,prA:=x.1,prN:=m.length,cZ:=x.2}|none=>Nd.zero
def Ug(o:Option (List Pr)):List Pr:=o.getD []
def Ja(o:Option (List Pr))(h:Int)(x:Option Addr×Nat):Nd:=match o with|some m=>if m.length=1 then{Nd.zero with kind:=5,hash:=h,key:=(m.getD 0 (⟨#[]⟩,0)).1,val:=(m.getD 0 (⟨#[]⟩,0)).2} else{Nd.zero with kind:=6,hash:=h,prA:=x.1,prN:=m.length,cZ:=x.2}|none=>Nd.zero
def Ej(o:Option (List Pr)):List Pr:=match o with|some m=>if m.length=1 then [] else m|none=>[]
instance (n:Nd) (xs:List Int) (ys:List Pr):Decidable (LV n xs ys):=inferInstanceAs (Decidable (_/\_))
def jI(n:Nd)(xs:List Int)(ys:List Pr)(k:ByteArray)(v:Int):Option (List Pr):=if LV n xs ys/\k.size<=64 then some (Jm ys k v) else none
def nY(n:Nd)(xs:List Int)(ys:List Pr)(k:ByteArray):Option (List Pr):=if LV n xs ys/\(dA ys k).isSome=true then some (pR ys k) else none
def xo(w:World)(o:Option (List Pr))(h:Int)(e:Ending)(w':World):Prop:=∃x:Option Addr×Nat,e=.returned (.tuple #[(Uw o h x).v,.bool o.isSome])/\(Ug o).length<=x.2/\SF w [] [] [] [(x.1,cZ (Ug o))] [] w'
def wg(w:World)(o:Option (List Pr))(h:Int)(e:Ending)(w':World):Prop:=∃x:Option Addr×Nat,e=.returned (.tuple #[(Ja o h x).v,.bool o.isSome])/\(Ej o).length<=x.2/\SF w [] [] [] [(x.1,cZ (Ej o))] [] w'
section
variable{n s:Nd}{xs:List Int}{ys:List Pr}{w:World}{b:Nat}
theorem Nc(k:ByteArray)(v:Int)(hb:n.bm=(b:Int))(hb2:b<18446744073709551616)(hr:pT w n xs ys)(hy:ys.length<=150000000000):Calls Tryz.prog 151 #[n.v,.string k,.int .u64 v] w (xo w (jI n xs ys k v) n.hash):=by
 have e2:=hr.prN
 refine enter Tryz.func151 Tryz.ntmps151 rfl rfl (SF.s1 hr.pr) ?_
 simp only[cR]
 simp only[Nd.v,Nd.cells,e2]
 refine J0 ?_;refine bP (λ x3=>?_);refine aP (λ x6=>?_);refine gK ?_;refine kU ?_;refine aC (c0 (V:=.bool) (hc:=λ w1 hw=>by rw[<- e2];exact Ma (n:=n) hb hb2 (hr.eW hw.done))) (λ x9 h9=>?_);refine El ?_
 (refine eR 11 (λ g11=>?_) (λ g11=>?_)<;>refine Ka1 ?_)
 all_goals ((first|refine aH ?_|(refine aF ?_;refine jJ ?_));refine Kc1 ?_)
 all_goals
 refine aZ (λ c15=>?_) (λ c15=>?_)
 ·all_goals (refine J0 ?_;refine bD ?_;refine A1 ?_)
  all_goals
   refine bJ Tryz.results151 (λ w hw=>?_)
   rw[show jI n xs ys k v=none from if_neg (by rintro ⟨t1,t2⟩;have:=h9.2 t1;clear hw;first|omega|(simp_all;done))];exact⟨(none,0),rfl,Nat.le_refl _,(hw.Ix none).fin⟩
 ·try exact nv c15
  all_goals (refine jD ?_;refine eD [(0,[]),(1,[]),(2,[]),(3,[]),(4,[]),(5,[]),(6,[1]),(7,[]),(8,[]),(9,[])] ?_;refine lR ?_;refine lR ?_;refine gM ?_;refine bS (i:=6) (hq:=(cF (hc:=λ w1 hw=>Xx (l:=ys) k v (hw.cl fin) (by omega)))) (h:=λ x23 h23=>?_);refine qV ?_;refine zF ?_)
  all_goals
   refine bJ Tryz.results151 (λ w hw=>?_)
   rw[show jI n xs ys k v=some (Jm ys k v) from if_pos ⟨h9.1 (by clear hw;simp_all),by omega⟩];exact⟨x23,rfl,h23,hw.fin⟩
theorem Ly(k:ByteArray)(hb:n.bm=(b:Int))(hb2:b<18446744073709551616)(hr:pT w n xs ys)(hy:ys.length<=150000000000):Calls Tryz.prog 155 #[n.v,.string k] w (wg w (nY n xs ys k) n.hash):=by
 have e2:=hr.prN
 refine enter Tryz.func155 Tryz.ntmps155 rfl rfl (SF.s1 hr.pr) ?_
 simp only[cR]
 simp only[Nd.v,Nd.cells,e2]
 refine J0 ?_;refine bP (λ x2=>?_);refine aP (λ x4=>?_);refine gK ?_;refine gN ?_;refine aB ?_;refine aR (cV (hc:=λ w1 hw=>Fv (l:=ys) k (hw.cl fin) (by omega))) (λ x13=>?_);refine aB ?_;refine aE (bI rf rfl) rfl ?_;refine aE (bI rf rfl) rfl ?_;refine J8 ?_;refine kU ?_;refine aC (c0 (V:=.bool) (hc:=λ w1 hw=>by rw[<- e2];exact Ma (n:=n) hb hb2 (hr.eW hw.done))) (λ x17 h17=>?_);refine El ?_
 (refine eR 19 (λ g19=>?_) (λ g19=>?_)<;>refine Ka1 ?_)
 all_goals (refine Qx ?_;refine aI ?_)
 all_goals
 refine aZ (λ c22=>?_) (λ c22=>?_)
 ·all_goals (refine J0 ?_;refine bD ?_;refine A1 ?_)
  all_goals
   refine bJ Tryz.results155 (λ w hw=>?_)
   rw[show nY n xs ys k=none from if_neg (by rintro ⟨t1,t2⟩;have:=h17.2 t1;clear hw;simp_all)];exact⟨(none,0),rfl,Nat.le_refl _,(hw.Ix none).fin⟩
 ·try exact nv c22
  all_goals (refine bA ?_;refine gN ?_;refine aB ?_;refine aC (cF (hc:=λ w1 hw=>T7 (l:=ys) k (hw.cl fin) (by omega))) (λ x27 h27=>?_);refine gK ?_;refine J2 ?_;refine dF ?_;refine rR ?_)
  all_goals
   refine aZ (λ c30=>?_) (λ c30=>?_)
   ·refine aS ?_;refine gB [0,1,2,3,4,5,6,7,8,9,10,11,12] ?_;refine lR ?_;refine aT ?_;refine bM (i:=3) (hq:=(wM (k:=0) rf rf fK gX fin (by omega) (by omega))) (h:=?_);refine lR ?_;refine aT ?_;refine bM (i:=7) (hq:=(wM (k:=0) rf rf fK gX fin (by omega) (by omega))) (h:=?_);refine aQ ?_;refine bM (i:=9) (hq:=(Js (q:=0) (lst:=pR ys k) rf fX fin (by omega))) (h:=?_);refine qV ?_;refine zF ?_
    refine bJ Tryz.results155 (λ w hw=>?_)
    have e1:(pR ys k).length=1:=by omega
    rw[show nY n xs ys k=some (pR ys k) from if_pos ⟨h17.1 (by clear hw;simp_all),by clear hw;simp_all⟩];exact⟨(none,0),by simp only[Ja,if_pos e1];rfl,by simp only[Ej,if_pos e1];exact Nat.le_refl _,by simp only[Ej,if_pos e1];exact(hw.Ix none).fin⟩
   ·refine bA ?_;refine gN ?_;refine aB ?_;refine bD ?_;refine A1 ?_
    refine bJ Tryz.results155 (λ w hw=>?_)
    have e1:¬(pR ys k).length=1:=by omega
    rw[show nY n xs ys k=some (pR ys k) from if_pos ⟨h17.1 (by clear hw;simp_all),by clear hw;simp_all⟩];exact⟨x27,by simp only[Ja,if_neg e1];rfl,by simp only[Ej,if_neg e1];exact h27,by simp only[Ej,if_neg e1];exact hw.fin⟩
end
end

/- Branches: lists of lists, joined; the C-node of them. -/
end Go.Proofs.YtadnboagdhcedaaGreatDoor
namespace Go.Ct
section
open Go Go.RowKit
section
variable{P:Program}{n:Nat}{S:List (Nat×Value)}
variable{w0 w w':World}{M:List Nat}{H H':List (Nat×Obj)}{A F F':Fr}{O O':List Ow}{G:World->Prop}
variable{d:Nat}{ty:TypeId}{pos:String}{af:Array Edge}{gd:Option (Nat×Bool)}{dst:Option Nat}{x y z:Operand}{t t2 e:TypeId}{p a:Option Addr}{i m k c c2:Nat}
end
end
end Go.Ct
namespace Go.Proofs.YtadnboagdhcedaaGreatDoor
section
open Go Go.RowKit Go.Ct
end

/- Branches: Inserted, Updated, Removed. -/
section
open Go.RowKit Go.Ct
def Zy(n:Nd)(xs:List Int)(ys:List Pr)(b:Nat)(i r:Int):Option (Nat×List Int):=if CV n xs ys/\(0<=i/\i<64)/\1<=r/\nZ b i=false then some (dB b i,tX xs (oR b i) r) else none
def Zz(n:Nd)(xs:List Int)(ys:List Pr)(b:Nat)(i r:Int):Option (Nat×List Int):=if CV n xs ys/\1<=r/\nZ b i=true then some (b,oG xs (oR b i) r) else none
def Z0(n:Nd)(xs:List Int)(ys:List Pr)(b:Nat)(i:Int):Option (Nat×List Int):=if CV n xs ys/\nZ b i=true then some (sO b i,pL xs (oR b i)) else none
def kW(o:Option (Nat×List Int))(x:Option Addr×Nat):Nd:=match o with|some q=>cn q.1 q.2 x|none=>Nd.zero
def kE(o:Option (Nat×List Int)):List Int:=match o with|some q=>q.2|none=>[]
def Tm(w:World)(o:Option (Nat×List Int))(e:Ending)(w':World):Prop:=∃x:Option Addr×Nat,e=.returned (.tuple #[(kW o x).v,.bool o.isSome])/\(kE o).length<=x.2/\SF w [] [] [] [(x.1,aG (kE o))] [] w'
section
variable{n:Nd}{xs:List Int}{ys:List Pr}{w:World}{b:Nat}
end
end

/- Branches: the reference's build, Inserted, Updated, Removed. -/
section
open Go.RowKit Go.Ct
def fD(b:Nat)(xs:List Int)(i:Nat)(r:Int):Nat->Option Int:=Ff (nT b xs) i (if 0<r then some r else none)
theorem mF{m:Nat->Option Int}{k:Nat}{v:Int}(h:m k=some v)(hk:k<64):dB (xZ m k) (k:Int)=xZ m (k+1)/\oA m k++[v]=oA m (k+1):=by
 simp only[xZ,oA,h,dB,Option.isSome_some,if_true,Option.toList,Int.toNat_natCast,and_true]
 exact if_pos (by omega)
theorem lW{m:Nat->Option Int}{k:Nat}(h:m k=none):xZ m k=xZ m (k+1)/\oA m k=oA m (k+1):=by
 simp[xZ,oA,h]
theorem wT(m:Nat->Option Int){k:Nat}(hk:k<=64):xZ m k<18446744073709551616:=Nat.lt_of_lt_of_le (Yl m k) (Nat.pow_le_pow_right (n:=2) (by decide) hk)
theorem Po(m:Nat->Option Int):∀k,(oA m k).length<=k
 | 0=>Nat.le_refl _
 | k+1=>by have:=Po m k;simp only[oA,List.length_append];cases m k<;>simp<;>omega
section
variable{n:Nd}{xs:List Int}{ys:List Pr}{w:World}{b:Nat}
theorem Rb(hcv:CV n xs ys){k:Nat}(hk:k<64):G6 n xs ys b (k:Int)=nT b xs k:=by
 unfold G6 nT
 have h1:nZ b (k:Int)=b.testBit k:=by rw[xP b (by omega) (by omega),Int.toNat_natCast]
 have h2:oR b (k:Int)=eE b k:=by unfold oR;rw[Int.toNat_natCast,Nat.min_eq_left (by omega)]
 rw[h1,h2]
 by_cases h:b.testBit k=true<;>simp[h,hcv]
theorem Bh{i k:Nat}{r:Int}(hcv:CV n xs ys)(hk:k<64)(h:(k:Int)≠(i:Int)):fD b xs i r k=G6 n xs ys b (k:Int):=by
 rw[Rb hcv hk]
 exact if_neg (by omega)
theorem Bg{i k:Nat}{r:Int}(h:(k:Int)=(i:Int)):fD b xs i r k=if 0<r then some r else none:=if_pos (by omega)
theorem P5{o:Option Int}(h:o.isSome=true):o=some (o.getD 0):=by cases o<;>simp_all
theorem Pe{o:Option Int}(h:o.isSome=false):o=none:=by cases o<;>simp_all
set_option maxHeartbeats 800000 in
theorem Ij(i:Nat)(r:Int)(_hi:i<64)(hcv:CV n xs ys)(hb:n.bm=(b:Int))(hb2:b<18446744073709551616)(hr:pT w n xs ys) :
    Calls Tryz.prog 148 #[n.v,.int .i64 (i:Int),.int .i64 r] w λ e w'=>∃x:Option Addr×Nat,e=.returned (cn (xZ (fD b xs i r) 64) (oA (fD b xs i r) 64) x).v/\(oA (fD b xs i r) 64).length<=x.2/\SF w [] [] [] [(x.1,aG (oA (fD b xs i r) 64))] [] w':=by
  have e1:=hr.brN
  refine enter Tryz.func148 Tryz.ntmps148 rfl rfl (SF.s2 hr.br hr.pr) ?_
  simp only[cR]
  simp only[Nd.v,Nd.cells]
  refine J0 ?_;refine bP (λ x3=>?_);refine aP (λ x6=>?_);refine aI ?_;refine J0 ?_;refine bD ?_;refine aP (λ x7=>?_);refine J5 ?_;refine aS ?_;refine K5 ?_
  refine mP [8,9,10,12,13,14,15,16,17,18,19,20,21,22,23,24,25,26,27,28,29,30,31,32,33,34,35,36,37,38,39] (λ y:Nat×Option Addr×Nat=>[(8,.int .i64 ((y.1:Nat):Int))]) (λ y=>y.1<=64/\(oA (fD b xs i r) y.1).length<=y.2.2) (λ y=>[(x7,.cells ⟨[.int .i64 3,.int .i64 0,.int .i64 0,.int .u64 ((xZ (fD b xs i r) y.1:Nat):Int),.slice y.2.1 (oA (fD b xs i r) y.1).length y.2.2,.int .u64 0,.string ⟨#[]⟩,.int .u64 0,.slice none 0 0,.int .i64 0,.int .i64 0,.int .i64 0,.int .i64 0,.int .i64 0]⟩ 77),(x6,.cells ⟨Nd.zero.cells⟩ 77),(x3,.cells ⟨n.cells⟩ 77)]) (λ _=>_) (λ y=>[⟨y.2.1,aG (oA (fD b xs i r) y.1),y.2.2,62,1⟩]) (λ y=>64-y.1) ((0,none,0)) (⟨Nat.zero_le _,Nat.le_refl _⟩) (λ y f hx=>?_) (hw0:=λ w hw=>(hw.lI 62 1).back)
  dsimp only[gG,List.map,List.cons_append,List.nil_append]
  have hll:=Po (fD b xs i r) y.1
  refine kT ?_;refine vR ?_
  refine aZ (λ c13=>?_) (λ c13=>?_)
  · refine oW ?_;refine Az ?_;refine aR (cV (hc:=λ w1 hw=>mE (n:=n) (y.1:Int) hb hb2 (hr.eW hw.done))) (λ x19=>?_);refine aB ?_;refine aE (iO rf rfl) rfl ?_;refine aE (iO rf rfl) rfl ?_;refine J8 ?_;refine Gi ?_;refine rR ?_
    refine aZ (λ c24=>?_) (λ c24=>?_)
    · refine Mc ?_;refine As ?_;refine J8 ?_;refine J2 ?_;refine aI ?_
      refine aZ (λ c28=>?_) (λ c28=>?_)
      · first
         | have hm:fD b xs i r y.1=some r:=by rw[Bg c24,if_pos (by omega)]
         | have hm:fD b xs i r y.1=some ((G6 n xs ys b (y.1:Int)).getD 0):=by rw[Bh hcv (by omega) c24];exact P5 c28
        refine eL [29,30,31,32,33,34,35,36,37,38,39] (λ z:Nat×Option Addr×Nat=>[]) (λ z=>(oA (fD b xs i r) y.1).length+1<=z.2.2) (λ z=>[(x7,.cells ⟨[.int .i64 3,.int .i64 0,.int .i64 0,.int .u64 ((xZ (fD b xs i r) (y.1+1):Nat):Int),.slice z.2.1 (oA (fD b xs i r) (y.1+1)).length z.2.2,.int .u64 0,.string ⟨#[]⟩,.int .u64 0,.slice none 0 0,.int .i64 0,.int .i64 0,.int .i64 0,.int .i64 0,.int .i64 0]⟩ 77),(x6,.cells ⟨Nd.zero.cells⟩ 77),(x3,.cells ⟨n.cells⟩ 77)]) (λ z=>[]) (λ z=>[⟨z.2.1,aG (oA (fD b xs i r) (y.1+1)),z.2.2,62,1⟩]) (by decide) (λ _=>by exact rfl) ?_ (λ z f hx=>?_)
        · refine gV (.one 0 [] (.one 1 [] (.one 2 [] (.one 4 [] (.one 5 [] (.one 6 [] (.two 3 [5] (.one 9 [] (.one 7 [1,5] (.one 8 [] (.one 10 [] (.one 11 [] (.one 12 [] .nil)))))) 0 [] (.two 7 [1,5] (.one 3 [5] (.one 9 [] (.one 8 [] (.one 10 [] (.one 11 [] (.one 12 [] .nil)))))) 0 [] .nil)))))))) ?_
          refine lR ?_;refine aT ?_;refine lR ?_;refine aT ?_
          refine kH (E:=[3,7]) (by decide +kernel) ((.cons ?_ (.cons ?_ .nil)))
          · refine Lk (i:=3) (hq:=(cV (hc:=λ w1 hw=>lD (wT (fD b xs i r) (k:=y.1) (by omega)) (y.1:Int) w1))) (h:=λ x32=>?_)
            refine aQ ?_;refine cQ (h:=λ x36=>?_);((refine tO (h:=λ x37=>?_);try (refine fP (λ h37=>?_))));refine Ov ?_;refine Ei ?_
            refine gA ((0,x37)) ?_ (hw1:=λ w hw=>by obtain⟨k1,k2⟩:=mF hm (by omega);rw[k1,show(oA (fD b xs i r) y.1).length+1=(oA (fD b xs i r) (y.1+1)).length by rw[<- k2];simp,k2] at hw;exact hw.back)
            · exact h37
          · refine xR (i:=7) (h:=λ x36=>?_)
            refine dG (i:=3) (hq:=(cV (hc:=λ w1 hw=>lD (wT (fD b xs i r) (k:=y.1) (by omega)) (y.1:Int) w1))) (h:=λ x32=>?_);refine aQ ?_;((refine tO (h:=λ x37=>?_);try (refine fP (λ h37=>?_))));refine Ov ?_;refine Ei ?_
            refine gA ((0,x37)) ?_ (hw1:=λ w hw=>by obtain⟨k1,k2⟩:=mF hm (by omega);rw[k1,show(oA (fD b xs i r) y.1).length+1=(oA (fD b xs i r) (y.1+1)).length by rw[<- k2];simp,k2] at hw;exact hw.back)
            · exact h37
        dsimp only[gG,List.map,List.cons_append,List.nil_append]
        refine eV ?_;refine Ba ?_
        refine gI ((by exact(y.1+1,z.2))) ?_ (hw1:=λ w hw=>by exact hw.back)
        · first
           | exact⟨by omega,by have k2:=(mF hm (by omega)).2;simp only[];rw[<- k2,List.length_append];exact hx⟩
           | exact⟨by omega,by simp only[];rw[<- (lW hm).2];exact hx.2⟩
      · have hm:fD b xs i r y.1=none:=by
         first
          | (rw[Bg c24,if_neg (by omega)];done)
          | (rw[Bh hcv (by omega) c24];exact Pe c28)
        refine lC ?_;refine Ba ?_
        refine gI ((by exact(y.1+1,y.2))) ?_ (hw1:=λ w hw=>by(rw[(lW hm).1,(lW hm).2] at hw;exact hw.back))
        · first
           | exact⟨by omega,by have k2:=(mF hm (by omega)).2;simp only[];rw[<- k2,List.length_append];exact hx⟩
           | exact⟨by omega,by simp only[];rw[<- (lW hm).2];exact hx.2⟩
    · refine bA ?_;refine J2 ?_;refine aI ?_
      refine aZ (λ c28=>?_) (λ c28=>?_)
      · first
         | have hm:fD b xs i r y.1=some r:=by rw[Bg c24,if_pos (by omega)]
         | have hm:fD b xs i r y.1=some ((G6 n xs ys b (y.1:Int)).getD 0):=by rw[Bh hcv (by omega) c24];exact P5 c28
        refine eL [29,30,31,32,33,34,35,36,37,38,39] (λ z:Nat×Option Addr×Nat=>[]) (λ z=>(oA (fD b xs i r) y.1).length+1<=z.2.2) (λ z=>[(x7,.cells ⟨[.int .i64 3,.int .i64 0,.int .i64 0,.int .u64 ((xZ (fD b xs i r) (y.1+1):Nat):Int),.slice z.2.1 (oA (fD b xs i r) (y.1+1)).length z.2.2,.int .u64 0,.string ⟨#[]⟩,.int .u64 0,.slice none 0 0,.int .i64 0,.int .i64 0,.int .i64 0,.int .i64 0,.int .i64 0]⟩ 77),(x6,.cells ⟨Nd.zero.cells⟩ 77),(x3,.cells ⟨n.cells⟩ 77)]) (λ z=>[]) (λ z=>[⟨z.2.1,aG (oA (fD b xs i r) (y.1+1)),z.2.2,62,1⟩]) (by decide) (λ _=>by exact rfl) ?_ (λ z f hx=>?_)
        · refine gV (.one 0 [] (.one 1 [] (.one 2 [] (.one 4 [] (.one 5 [] (.one 6 [] (.two 3 [5] (.one 9 [] (.one 7 [1,5] (.one 8 [] (.one 10 [] (.one 11 [] (.one 12 [] .nil)))))) 0 [] (.two 7 [1,5] (.one 3 [5] (.one 9 [] (.one 8 [] (.one 10 [] (.one 11 [] (.one 12 [] .nil)))))) 0 [] .nil)))))))) ?_
          refine lR ?_;refine aT ?_;refine lR ?_;refine aT ?_
          refine kH (E:=[3,7]) (by decide +kernel) ((.cons ?_ (.cons ?_ .nil)))
          · refine Lk (i:=3) (hq:=(cV (hc:=λ w1 hw=>lD (wT (fD b xs i r) (k:=y.1) (by omega)) (y.1:Int) w1))) (h:=λ x32=>?_)
            refine aQ ?_;refine cQ (h:=λ x36=>?_);((refine tO (h:=λ x37=>?_);try (refine fP (λ h37=>?_))));refine Ov ?_;refine Ei ?_
            refine gA ((0,x37)) ?_ (hw1:=λ w hw=>by obtain⟨k1,k2⟩:=mF hm (by omega);rw[k1,show(oA (fD b xs i r) y.1).length+1=(oA (fD b xs i r) (y.1+1)).length by rw[<- k2];simp,k2] at hw;exact hw.back)
            · exact h37
          · refine xR (i:=7) (h:=λ x36=>?_)
            refine dG (i:=3) (hq:=(cV (hc:=λ w1 hw=>lD (wT (fD b xs i r) (k:=y.1) (by omega)) (y.1:Int) w1))) (h:=λ x32=>?_);refine aQ ?_;((refine tO (h:=λ x37=>?_);try (refine fP (λ h37=>?_))));refine Ov ?_;refine Ei ?_
            refine gA ((0,x37)) ?_ (hw1:=λ w hw=>by obtain⟨k1,k2⟩:=mF hm (by omega);rw[k1,show(oA (fD b xs i r) y.1).length+1=(oA (fD b xs i r) (y.1+1)).length by rw[<- k2];simp,k2] at hw;exact hw.back)
            · exact h37
        dsimp only[gG,List.map,List.cons_append,List.nil_append]
        refine eV ?_;refine Ba ?_
        refine gI ((by exact(y.1+1,z.2))) ?_ (hw1:=λ w hw=>by exact hw.back)
        · first
           | exact⟨by omega,by have k2:=(mF hm (by omega)).2;simp only[];rw[<- k2,List.length_append];exact hx⟩
           | exact⟨by omega,by simp only[];rw[<- (lW hm).2];exact hx.2⟩
      · have hm:fD b xs i r y.1=none:=by
         first
          | (rw[Bg c24,if_neg (by omega)];done)
          | (rw[Bh hcv (by omega) c24];exact Pe c28)
        refine lC ?_;refine Ba ?_
        refine gI ((by exact(y.1+1,y.2))) ?_ (hw1:=λ w hw=>by(rw[(lW hm).1,(lW hm).2] at hw;exact hw.back))
        · first
           | exact⟨by omega,by have k2:=(mF hm (by omega)).2;simp only[];rw[<- k2,List.length_append];exact hx⟩
           | exact⟨by omega,by simp only[];rw[<- (lW hm).2];exact hx.2⟩
  · refine bG rfl ?_;refine Kb1 ?_
    refine bJ Tryz.results148 (λ w hw=>?_)
    have hy:y.1=64:=by omega
    rw[hy] at hw hx ⊢
    generalize xZ (fD b xs i r) 64=B at hw ⊢
    generalize oA (fD b xs i r) 64=L at hw hx ⊢
    exact⟨y.2,rfl,hx.2,SF.z5 hw.aU⟩
end
end

/- Branches: the reference's Inserted, Updated, Removed. -/
section
open Go.RowKit Go.Ct
theorem of_eq{m:Nat->Option Int}{b:Nat}{xs:List Int}(h:BV b xs/\∀k,k<64->nT b xs k=m k):xZ m 64=b/\oA m 64=xs:=by
 obtain⟨h1,h2⟩:=Kf 64 λ k hk=>(h.2 k hk).symm
 obtain⟨h3,h4⟩:=Nk h.1
 exact⟨h1.trans h3,h2.trans h4⟩
theorem nJ{k:Nat}(b:Nat)(hk:k<64):dB b (k:Int)=b ||| 2^k:=by
 unfold dB;rw[if_pos (by omega),Int.toNat_natCast]
theorem qP{k:Nat}(b:Nat)(hk:k<64):sO b (k:Int)=b ^^^ (b &&& 2^k):=by
 unfold sO;rw[if_pos (by omega),Int.toNat_natCast]
theorem mC{k:Nat}(b:Nat)(hk:k<64):oR b (k:Int)=eE b k:=by
 unfold oR;rw[Int.toNat_natCast,Nat.min_eq_left (by omega)]
theorem nV{k:Nat}(b:Nat)(hk:k<64):nZ b (k:Int)=b.testBit k:=by
 rw[xP b (by omega) (by omega),Int.toNat_natCast]
theorem Sl{b k:Nat}{xs:List Int}{r:Int}(h:BV b xs)(hk:k<64)(hb:nZ b (k:Int)=false)(hr:1<=r):xZ (fD b xs k r) 64=dB b (k:Int)/\oA (fD b xs k r) 64=tX xs (oR b (k:Int)) r:=by
 rw[nV b hk] at hb
 rw[nJ b hk,mC b hk]
 unfold fD
 rw[if_pos (by omega)]
 exact of_eq (Cn h hk hb hr)
theorem S6{b k:Nat}{xs:List Int}{r:Int}(h:BV b xs)(hk:k<64)(hb:nZ b (k:Int)=true)(hr:1<=r):xZ (fD b xs k r) 64=b/\oA (fD b xs k r) 64=oG xs (oR b (k:Int)) r:=by
 rw[nV b hk] at hb
 rw[mC b hk]
 unfold fD
 rw[if_pos (by omega)]
 exact of_eq (M3 h hk hb hr)
theorem Ry{b k:Nat}{xs:List Int}(h:BV b xs)(hk:k<64)(hb:nZ b (k:Int)=true):xZ (fD b xs k 0) 64=sO b (k:Int)/\oA (fD b xs k 0) 64=pL xs (oR b (k:Int)):=by
 rw[nV b hk] at hb
 rw[qP b hk,mC b hk]
 unfold fD
 rw[if_neg (by omega)]
 exact of_eq (Nj h hk hb)
section
variable{n:Nd}{xs:List Int}{ys:List Pr}{w:World}{b:Nat}
theorem xC{i:Int}(h:(G6 n xs ys b i).isSome=true):CV n xs ys/\nZ b i=true:=by
 unfold G6 at h
 split at h
 ·assumption
 ·cases h
theorem Bz{i:Int}(h:(G6 n xs ys b i).isSome=false)(hcv:CV n xs ys):nZ b i=false:=by
 unfold G6 at h
 split at h
 ·cases h
 ·rename_i hn
  cases hh:nZ b i with
  | false=>rfl
  | true=>exact absurd ⟨hcv,hh⟩ hn
theorem Ep(i r:Int)(hb:n.bm=(b:Int))(hb2:b<18446744073709551616)(hr:pT w n xs ys):Calls Tryz.prog 153 #[n.v,.int .i64 i,.int .i64 r] w (Tm w (Zy n xs ys b i r)):=by
 refine enter Tryz.func153 Tryz.ntmps153 rfl rfl (SF.s2 hr.br hr.pr) ?_
 simp only[cR]
 simp only[Nd.v,Nd.cells]
 refine J0 ?_;refine bP (λ x3=>?_);refine aP (λ x6=>?_);refine gK ?_;refine Az ?_;refine aR (cV (hc:=λ w1 hw=>mE (n:=n) i hb hb2 (hr.eW hw.done))) (λ x13=>?_);refine aB ?_;refine aE (iO rf rfl) rfl ?_;refine aE (iO rf rfl) rfl ?_;refine J8 ?_;refine kU ?_;refine aC (c0 (V:=.bool) (hc:=λ w1 hw=>Yy (n:=n) hb hb2 (hr.eW hw.done))) (λ x17 h17=>?_);refine El ?_
 (refine eR 19 (λ g19=>?_) (λ g19=>?_)<;>refine Ka1 ?_)
 all_goals (refine cU ?_;refine aB ?_)
 all_goals (first|refine aH ?_|(refine eR 22 (λ g22=>?_) (λ g22=>?_)<;>refine Ka1 ?_))
 all_goals (refine s7 ?_;refine aB ?_)
 all_goals (first|refine aH ?_|(refine eR 26 (λ g26=>?_) (λ g26=>?_)<;>refine Ka1 ?_))
 all_goals (refine Fl ?_;refine aB ?_)
 all_goals (first|refine aH ?_|(refine eR 30 (λ g30=>?_) (λ g30=>?_)<;>refine Ka1 ?_))
 all_goals (refine s7 ?_;refine aI ?_)
 all_goals
 refine aZ (λ c33=>?_) (λ c33=>?_)
 ·all_goals (refine J0 ?_;refine bD ?_;refine A1 ?_)
  all_goals
   refine bJ Tryz.results153 (λ w hw=>?_)
   rw[show Zy n xs ys b i r=none from if_neg (by rintro ⟨k1,⟨k2,k3⟩,k4,k5⟩;clear hw;first|omega|exact absurd (xC g22).2 (by simp[k5])|exact absurd (h17.2 k1) (by simp_all))];exact⟨(none,0),rfl,Nat.le_refl _,(hw.Ix none).fin⟩
 ·try exact nv c33
  all_goals
   have hcv:=h17.1 (by simpa using g19)
   have hh:=Bz g22 hcv
   obtain⟨k,rfl⟩:=Int.eq_ofNat_of_zero_le (show 0<=i by omega)
   have hk:=Sl (hcv.bv hb hb2) (k:=k) (by omega) hh (r:=r) (by omega)
  all_goals (refine bA ?_;refine kU ?_;refine nB ?_;refine aC (cF (hc:=λ w1 hw=>by have:=Ij (w:=w1) k r (by omega) hcv hb hb2 (hr.eW hw.done);rw[hk.1,hk.2] at this;exact this)) (λ x38 h38=>?_);refine A1 ?_)
  all_goals
   refine bJ Tryz.results153 (λ w hw=>?_)
   rw[show Zy n xs ys b (k:Int) r=some (dB b (k:Int),tX xs (oR b (k:Int)) r) from if_pos ⟨hcv,⟨by omega,by omega⟩,by omega,hh⟩];exact⟨x38,rfl,h38,hw.fin⟩
theorem Hk(i r:Int)(hb:n.bm=(b:Int))(hb2:b<18446744073709551616)(hr:pT w n xs ys):Calls Tryz.prog 118 #[n.v,.int .i64 i,.int .i64 r] w (Tm w (Zz n xs ys b i r)):=by
 refine enter Tryz.func118 Tryz.ntmps118 rfl rfl (SF.s2 hr.br hr.pr) ?_
 simp only[cR]
 simp only[Nd.v,Nd.cells]
 refine J0 ?_;refine bP (λ x3=>?_);refine aP (λ x6=>?_);refine gK ?_;refine Az ?_;refine aR (cV (hc:=λ w1 hw=>mE (n:=n) i hb hb2 (hr.eW hw.done))) (λ x13=>?_);refine aB ?_;refine aE (iO rf rfl) rfl ?_;refine aE (iO rf rfl) rfl ?_;refine J8 ?_;refine J2 ?_;refine El ?_
 (refine eR 18 (λ g18=>?_) (λ g18=>?_)<;>refine Ka1 ?_)
 all_goals (refine s7 ?_;refine aI ?_)
 all_goals
 refine aZ (λ c21=>?_) (λ c21=>?_)
 ·all_goals (refine J0 ?_;refine bD ?_;refine A1 ?_)
  all_goals
   refine bJ Tryz.results118 (λ w hw=>?_)
   rw[show Zz n xs ys b i r=none from if_neg (by rintro ⟨k1,k4,k5⟩;clear hw;first|omega|exact absurd (Bz (by simpa using g18) k1) (by simp[k5]))];exact⟨(none,0),rfl,Nat.le_refl _,(hw.Ix none).fin⟩
 ·try exact nv c21
  all_goals
   have hc:=xC (by simpa using g18)
   have hcv:=hc.1
   have hh:=hc.2
   obtain⟨q1,q2,_,_⟩:=pI hh
   obtain⟨k,rfl⟩:=Int.eq_ofNat_of_zero_le q1
   have hk:=S6 (hcv.bv hb hb2) (k:=k) (by omega) hh (r:=r) (by omega)
  all_goals (refine bA ?_;refine kU ?_;refine nB ?_;refine aC (cF (hc:=λ w1 hw=>by have:=Ij (w:=w1) k r (by omega) hcv hb hb2 (hr.eW hw.done);rw[hk.1,hk.2] at this;exact this)) (λ x26 h26=>?_);refine A1 ?_)
  all_goals
   refine bJ Tryz.results118 (λ w hw=>?_)
   rw[show Zz n xs ys b (k:Int) r=some (b,oG xs (oR b (k:Int)) r) from if_pos ⟨hcv,by omega,hh⟩];exact⟨x26,rfl,h26,hw.fin⟩
theorem Hz(i:Int)(hb:n.bm=(b:Int))(hb2:b<18446744073709551616)(hr:pT w n xs ys):Calls Tryz.prog 156 #[n.v,.int .i64 i] w (Tm w (Z0 n xs ys b i)):=by
 refine enter Tryz.func156 Tryz.ntmps156 rfl rfl (SF.s2 hr.br hr.pr) ?_
 simp only[cR]
 simp only[Nd.v,Nd.cells]
 refine J0 ?_;refine bP (λ x2=>?_);refine aP (λ x4=>?_);refine gK ?_;refine Az ?_;refine aR (cV (hc:=λ w1 hw=>mE (n:=n) i hb hb2 (hr.eW hw.done))) (λ x11=>?_);refine aB ?_;refine aE (iO rf rfl) rfl ?_;refine aE (iO rf rfl) rfl ?_;refine J8 ?_;refine J2 ?_;refine lX ?_
 refine aZ (λ c15=>?_) (λ c15=>?_)
 ·refine J0 ?_;refine bD ?_;refine A1 ?_
  refine bJ Tryz.results156 (λ w hw=>?_)
  rw[show Z0 n xs ys b i=none from if_neg (by rintro ⟨k1,k5⟩;clear hw;exact absurd (Bz c15 k1) (by simp[k5]))];exact⟨(none,0),rfl,Nat.le_refl _,(hw.Ix none).fin⟩
 ·have hc:=xC c15
  have hcv:=hc.1
  have hh:=hc.2
  obtain⟨q1,q2,_,_⟩:=pI hh
  obtain⟨k,rfl⟩:=Int.eq_ofNat_of_zero_le q1
  have hk:=Ry (hcv.bv hb hb2) (k:=k) (by omega) hh
  refine bA ?_;refine Az ?_;refine aC (cF (hc:=λ w1 hw=>by have:=Ij (w:=w1) k 0 (by omega) hcv hb hb2 (hr.eW hw.done);rw[hk.1,hk.2] at this;exact this)) (λ x19 h19=>?_);refine A1 ?_
  refine bJ Tryz.results156 (λ w hw=>?_)
  rw[show Z0 n xs ys b (k:Int)=some (sO b (k:Int),pL xs (oR b (k:Int))) from if_pos ⟨hcv,hh⟩];exact⟨x19,rfl,h19,hw.fin⟩
end
end

end Go.Proofs.YtadnboagdhcedaaGreatDoor

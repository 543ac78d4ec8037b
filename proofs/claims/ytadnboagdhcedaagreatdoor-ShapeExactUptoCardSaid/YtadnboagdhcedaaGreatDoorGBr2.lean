/- Branches: what Lookup and Sole compute. -/
import Derived.Test.YtadnboagdhcedaaGreatDoorGPaX
import Derived.Test.YtadnboagdhcedaaGreatDoorGNode4
import Derived.Test.YtadnboagdhcedaaGreatDoorGNode2
import Derived.Test.YtadnboagdhcedaaGreatDoorGBits
import Derived.Test.YtadnboagdhcedaaGreatDoorGJoin

set_option linter.unusedSimpArgs false
set_option linter.unusedVariables false
namespace Go.Ct
section
open Go Go.RowKit
end
end Go.Ct
namespace Go.Proofs.YtadnboagdhcedaaGreatDoor
section
open Go.RowKit Go.Ct
def CV(n:Nd)(xs:List Int)(ys:List Pr):Prop:=n.kind=3/\cK n xs ys
theorem CV.bv{n:Nd}{xs:List Int}{ys:List Pr}{b:Nat}(h:CV n xs ys)(hb:n.bm=(b:Int))(hb2:b<18446744073709551616):BV b xs:=by
 obtain⟨h1,h2⟩:=nK h.1 h.2
 rw[hb,nL hb2] at h1
 exact⟨hb2,by omega,h2⟩
instance (n:Nd) (ys:List Pr):Decidable (ys=n.gY ys):=if h:(n.kind==6)=true then isTrue (by unfold Nd.gY;rw[if_pos h]) else decidable_of_iff (ys=[]) (by unfold Nd.gY;rw[if_neg h])
instance (n:Nd) (xs:List Int) (ys:List Pr):Decidable (rG n n.own xs (n.iB xs) ys (n.gY ys)):=inferInstanceAs (Decidable (n.kind=n.own.kind/\n.gen=n.own.gen/\n.main=n.own.main/\n.bm=n.own.bm/\xs=n.iB xs/\n.hash=n.own.hash/\n.key=n.own.key/\n.val=n.own.val/\ys=n.gY ys/\n.prev=n.own.prev/\n.bO=n.own.bO/\n.exp=n.own.exp/\n.new=n.own.new/\n.status=n.own.status))
instance (l:List Int):Decidable (Pos l):=inferInstanceAs (Decidable (∀i,i<l.length->1<=l.getD i 0))
instance (l:List Pr):Decidable (Dv l):=inferInstanceAs (Decidable (∀i,i<l.length->(l.getD i (⟨#[]⟩,0)).1.size<=64))
instance (l:List Pr):Decidable (rk l):=decidable_of_iff (∀i,i<l.length->1<=i->dV (l.getD (i-1) (⟨#[]⟩,0)).1 (l.getD i (⟨#[]⟩,0)).1=true) ⟨λ h i a b=>h i b a,λ h i a b=>h i b a⟩
instance (n:Nd) (xs:List Int) (ys:List Pr):Decidable (cK n xs ys):=inferInstanceAs (Decidable (_/\_))
instance (n:Nd) (xs:List Int) (ys:List Pr):Decidable (CV n xs ys):=inferInstanceAs (Decidable (_/\_))
def Lh(n:Nd)(xs:List Int)(ys:List Pr)(b:Nat)(i:Int):Option Int:=if CV n xs ys/\qN b i=true then some (xs.getD (rK b i) 0) else none
def j8(n:Nd)(xs:List Int)(ys:List Pr):Option Int:=if CV n xs ys/\xs.length=1 then some (xs.getD 0 0) else none
theorem rT{b:Nat}{i:Int}(h:qN b i=true):0<=i/\i<64/\b.testBit i.toNat=true/\rK b i=gB b i.toNat:=by
 simp only[qN,Bool.and_eq_true,decide_eq_true_eq] at h
 exact⟨h.1,h.2.1,h.2.2,by unfold rK;congr 1;omega⟩
theorem aBf{b:Nat}{xs:List Int}(h:BV b xs){i:Int}(hh:qN b i=true):rK b i<xs.length:=by
 obtain⟨h1,h2,h3,h4⟩:=rT hh
 rw[h4,h.len]
 exact oX (by omega) h3
section
variable{n:Nd}{xs:List Int}{ys:List Pr}{w:World}{b:Nat}
theorem jg(hb:n.bm=(b:Int))(hb2:b<18446744073709551616)(hr:qR w n xs ys):Calls Tryz.prog 146 #[n.v] w λ e w'=>∃r:Bool,e=.returned (.bool r)/\(r=true↔CV n xs ys)/\St w [] [] w':=by
 refine enter Tryz.func146 Tryz.ntmps146 rfl rfl (SF.s0 w) ?_;simp only[cP]
 simp only[Nd.v,Nd.cells]
 refine K1k ?_;intro x1;refine J1 ?_;refine gH ?_;refine lC ?_;refine aB ?_;(refine eM 6 (λ g6=>?_) (λ g6=>?_)<;>refine Ka2 ?_);all_goals ((first|refine aJ ?_|(refine aF ?_;refine aD (c0 (V:=.bool) (hc:=λ w1 hw=>Af (n:=n) hb hb2 (hr.gU hw.done))) (λ x8 h8=>?_)));refine Kd0 ?_)
 all_goals
 refine aR Tryz.results146 (λ w hw=>?_);refine⟨_,rfl,?_,hw.done⟩;simp_all[CV]
theorem nZ(i:Int)(hb:n.bm=(b:Int))(hb2:b<18446744073709551616)(hr:qR w n xs ys):Calls Tryz.prog 115 #[n.v,.int .i64 i] w λ e w'=>e=.returned (.tuple #[.int .i64 ((Lh n xs ys b i).getD 0),.bool (Lh n xs ys b i).isSome])/\St w [] [] w':=by
 have e1:=hr.brN;refine enter Tryz.func115 Tryz.ntmps115 rfl rfl (SF.s2 hr.br hr.pr) ?_;simp only[cP]
 simp only[Nd.v,Nd.cells,hb,e1]
 refine K0u ?_;intro x2;refine Kd6 ?_;refine iH ?_;refine aD (c0 (V:=.bool) (hc:=λ w1 hw=>by rw[<- e1,<- hb];exact jg (n:=n) hb hb2 (hr.gU hw.done))) (λ x7 h7=>?_);refine C6 ?_;(refine eM 9 (λ g9=>?_) (λ g9=>?_)<;>refine Ka1 ?_);all_goals (refine Zv ?_;(first|refine aJ ?_|(refine aF ?_;refine aS (cV (hc:=λ w1 hw=>Gc hb2 i w1)) (λ x13=>?_)));refine Kd5 ?_)
 all_goals
 refine bA (λ c15=>?_) (λ c15=>?_)
 ·all_goals refine Aw ?_
  all_goals
   refine bK Tryz.results115 (λ w hw=>?_);rw[show Lh n xs ys b i=none from if_neg (by simp_all)];exact⟨rfl,hw.done⟩
 ·try exact nv c15
  all_goals
   have hcv:CV n xs ys:=h7.1 (by simpa using g9);have hpl:=aBf (hcv.bv hb hb2) c15
  all_goals (refine jH ?_;refine dZ [(0,[]),(1,[]),(2,[]),(3,[]),(4,[]),(5,[1]),(6,[]),(7,[]),(8,[]),(9,[])] ?_;refine iT ?_;refine Kd1 ?_;refine cA (i:=5) (hq:=(cV (hc:=λ w1 hw=>P0 hb2 i w1))) (h:=λ x21=>?_);refine Tc ?_;refine Sq ?_)
  all_goals
   refine bK Tryz.results115 (λ w hw=>?_);rw[show Lh n xs ys b i=some (xs.getD (rK b i) 0) from if_pos ⟨hcv,c15⟩];exact⟨rfl,hw.done⟩
theorem Kh(hb:n.bm=(b:Int))(hb2:b<18446744073709551616)(hr:qR w n xs ys):Calls Tryz.prog 149 #[n.v] w λ e w'=>e=.returned (.tuple #[.int .i64 ((j8 n xs ys).getD 0),.bool (j8 n xs ys).isSome])/\St w [] [] w':=by
 have e1:=hr.brN;refine enter Tryz.func149 Tryz.ntmps149 rfl rfl (SF.s2 hr.br hr.pr) ?_;simp only[cP]
 simp only[Nd.v,Nd.cells,e1]
 refine K1k ?_;intro x1;refine Kd6 ?_;refine iH ?_;refine aD (c0 (V:=.bool) (hc:=λ w1 hw=>by rw[<- e1];exact jg (n:=n) hb hb2 (hr.gU hw.done))) (λ x5 h5=>?_);refine C6 ?_;(refine eM 7 (λ g7=>?_) (λ g7=>?_)<;>refine Ka1 ?_);all_goals (refine Ka2 ?_;(first|refine aJ ?_|(refine aF ?_;refine dE ?_));refine Rq ?_;refine aK ?_)
 all_goals
 refine bA (λ c12=>?_) (λ c12=>?_)
 ·all_goals refine Aw ?_
  all_goals
   refine bK Tryz.results149 (λ w hw=>?_);rw[show j8 n xs ys=none from if_neg (by simp_all;try omega)];exact⟨rfl,hw.done⟩
 ·try exact nv c12
  all_goals
   have hcv:CV n xs ys:=h5.1 (by simpa using g7);have hl1:xs.length=1:=by omega
  all_goals (refine bB ?_;refine gH ?_;refine aE (bE (k:=0) rf rf eC dC fin (by omega) (by omega)) rfl ?_;refine bI ?_;refine J8 ?_)
  all_goals
   refine bK Tryz.results149 (λ w hw=>?_);rw[show j8 n xs ys=some (xs.getD 0 0) from if_pos ⟨hcv,hl1⟩];exact⟨rfl,hw.done⟩
end
end

/- Branches: a C-node of a bitmap and a list. -/
section
open Go.RowKit Go.Ct
def cn(b:Nat)(xs:List Int)(x:Option Addr×Nat):Nd:={Nd.zero with kind:=3,bm:=(b:Int),brA:=x.1,brN:=xs.length,brC:=x.2}
theorem aCd{b:Nat}{xs:List Int}(h:BV b xs)(x:Option Addr×Nat){p:Int}(hp:0<=p):CV {cn b xs x with prev:=p} xs [] :=
 ⟨rfl,by simp[rG,Nd.own,Nd.iB,Nd.gY,cn],by simp[cn,Nd.zero],hp,by simp[cn,Nd.zero],.inr (.inr (.inl ⟨rfl,by show(xs.length:Int)=zE (b:Int);rw[nL h.lt,h.len],h.pos⟩))⟩
theorem aAp{b:Nat}{xs:List Int}(h:BV b xs)(x:Option Addr×Nat):CV (cn b xs x) xs []:=aCd h x (p:=0) (Int.le_refl _)
end

/- Tombs: Untombed, Contracted, Grown, Shrunk: both sides. -/
section
open Go.RowKit Go.Ct
def tmb(s:Nd):Nd:={Nd.zero with kind:=5,hash:=s.hash,key:=s.key,val:=s.val}
def Ft(n:Nd):Nd:=if n.kind=5 then{Nd.zero with kind:=4,hash:=n.hash,key:=n.key,val:=n.val} else Nd.zero
theorem Io(n:Nd)(w:World):Calls Tryz.prog 117 #[n.v] w λ e w'=>e=.returned (.tuple #[(Ft n).v,.bool (decide (n.kind=5))])/\St w [] [] w':=by
 refine enter Tryz.func117 Tryz.ntmps117 rfl rfl (SF.s0 w) ?_;simp only[cP]
 simp only[Nd.v,Nd.cells]
 refine K1k ?_;intro x1;refine aT (λ x2=>?_);refine gX ?_;refine gH ?_;refine Ka7 ?_;refine bA (λ c6=>?_) (λ c6=>?_)
 ·refine J0 ?_;refine bQ ?_;refine El ?_;refine bK Tryz.results117 (λ w hw=>?_);exact⟨by rw[show Ft n=Nd.zero from if_neg (by assumption),decide_eq_false (by assumption)];rfl,hw.done⟩
 ·refine bB ?_;refine gH ?_;refine Kd3 ?_;refine bQ ?_;refine El ?_;refine bK Tryz.results117 (λ w hw=>?_);exact⟨by rw[show Ft n={Nd.zero with kind:=4,hash:=n.hash,key:=n.key,val:=n.val} from if_pos (by omega),decide_eq_true (by omega)];rfl,hw.done⟩
section
variable{n s:Nd}{xs:List Int}{ys:List Pr}{w:World}{b:Nat}
def LV(n:Nd)(xs:List Int)(ys:List Pr):Prop:=n.kind=6/\cK n xs ys
theorem Qp(hb:n.bm=(b:Int))(hb2:b<18446744073709551616)(hr:qR w n xs ys):Calls Tryz.prog 165 #[n.v] w λ e w'=>∃r:Bool,e=.returned (.bool r)/\(r=true↔LV n xs ys)/\St w [] [] w':=by
 refine enter Tryz.func165 Tryz.ntmps165 rfl rfl (SF.s0 w) ?_;simp only[cP]
 simp only[Nd.v,Nd.cells]
 refine K1k ?_;intro x1;refine J1 ?_;refine gH ?_;refine lC ?_;refine aB ?_;(refine eM 6 (λ g6=>?_) (λ g6=>?_)<;>refine Ka2 ?_);all_goals ((first|refine aJ ?_|(refine aF ?_;refine aD (c0 (V:=.bool) (hc:=λ w1 hw=>Af (n:=n) hb hb2 (hr.gU hw.done))) (λ x8 h8=>?_)));refine Kd0 ?_)
 all_goals
 refine aR Tryz.results165 (λ w hw=>?_);refine⟨_,rfl,?_,hw.done⟩;simp_all[LV]
open Classical in
def Ry(n:Nd)(xs:List Int)(ys:List Pr)(level:Int)(s:Nd):Bool:=decide ((j8 n xs ys).isSome=true/\0<level/\s.kind=4)
def wv(t:Bool)(n s:Nd):Nd:=if t=true then tmb s else n
def mo{α:Type}(t:Bool)(l:List α):List α:=if t=true then [] else l
theorem Ei(level:Int)(s:Nd)(hb:n.bm=(b:Int))(hb2:b<18446744073709551616)(hr:qR w n xs ys):Calls Tryz.prog 119 #[n.v,.int .i64 level,s.v] w λ e w'=>e=.returned (wv (Ry n xs ys level s) n s).v/\St w [] [] w':=by
 refine enter Tryz.func119 Tryz.ntmps119 rfl rfl (SF.s0 w) ?_;simp only[cP]
 simp only[Nd.v,Nd.cells]
 refine K1r ?_;intro x3;refine bF (λ x5=>?_);refine aT (λ x6=>?_);refine Vy ?_;refine iH ?_;refine aS (cV (hc:=λ w1 hw=>Kh (n:=n) hb hb2 (hr.gU hw.done))) (λ x11=>?_);refine K0d ?_;refine J8 ?_;refine jJ ?_;(refine eM 15 (λ g15=>?_) (λ g15=>?_)<;>refine Ka0 ?_);all_goals (refine Aj ?_;refine aB ?_)
 all_goals (first|refine aJ ?_|(refine eM 19 (λ g19=>?_) (λ g19=>?_)<;>refine Ka1 ?_))
 all_goals (refine pu ?_;refine aK ?_)
 all_goals
 refine bA (λ c23=>?_) (λ c23=>?_)
 ·try exact nv c23
  all_goals (refine gH ?_;refine Kd3 ?_;refine B9 ?_)
  all_goals
   refine bK Tryz.results119 (λ w hw=>?_);rw[show Ry n xs ys level s=true from decide_eq_true ⟨by assumption,by omega,by omega⟩];exact⟨rfl,hw.done⟩
 ·all_goals (refine bB ?_;refine Kb5 ?_)
  all_goals
   refine bK Tryz.results119 (λ w hw=>?_);rw[show Ry n xs ys level s=false from decide_eq_false (by rintro ⟨t1,t2,t3⟩;first|omega|(clear hw;simp_all;done))];exact⟨rfl,hw.done⟩
end
end

/- Tombs: Grown, Shrunk: both sides; agrees. -/
section
open Go.RowKit Go.Ct
def lx(o:Option (List Pr))(h:Int)(x:Option Addr×Nat):Nd:=match o with|some m=>{Nd.zero with kind:=6,hash:=h,prA:=x.1,prN:=m.length,dK:=x.2}|none=>Nd.zero
def Zy(o:Option (List Pr)):List Pr:=o.getD []
def Nz(o:Option (List Pr))(h:Int)(x:Option Addr×Nat):Nd:=match o with|some m=>if m.length=1 then{Nd.zero with kind:=5,hash:=h,key:=(m.getD 0 (⟨#[]⟩,0)).1,val:=(m.getD 0 (⟨#[]⟩,0)).2} else{Nd.zero with kind:=6,hash:=h,prA:=x.1,prN:=m.length,dK:=x.2}|none=>Nd.zero
def Ie(o:Option (List Pr)):List Pr:=match o with|some m=>if m.length=1 then [] else m|none=>[]
instance (n:Nd) (xs:List Int) (ys:List Pr):Decidable (LV n xs ys):=inferInstanceAs (Decidable (_/\_))
def lH(n:Nd)(xs:List Int)(ys:List Pr)(k:ByteArray)(v:Int):Option (List Pr):=if LV n xs ys/\k.size<=64 then some (Qb ys k v) else none
def pZ(n:Nd)(xs:List Int)(ys:List Pr)(k:ByteArray):Option (List Pr):=if LV n xs ys/\(eK ys k).isSome=true then some (sD ys k) else none
def aCc(w:World)(o:Option (List Pr))(h:Int)(e:Ending)(w':World):Prop:=∃x:Option Addr×Nat,e=.returned (.tuple #[(lx o h x).v,.bool o.isSome])/\(Zy o).length<=x.2/\SF w [] [] [] [(x.1,dK (Zy o))] [] w'
def aBH(w:World)(o:Option (List Pr))(h:Int)(e:Ending)(w':World):Prop:=∃x:Option Addr×Nat,e=.returned (.tuple #[(Nz o h x).v,.bool o.isSome])/\(Ie o).length<=x.2/\SF w [] [] [] [(x.1,dK (Ie o))] [] w'
section
variable{n s:Nd}{xs:List Int}{ys:List Pr}{w:World}{b:Nat}
theorem Sm(k:ByteArray)(v:Int)(hb:n.bm=(b:Int))(hb2:b<18446744073709551616)(hr:qR w n xs ys)(hy:ys.length<=150000000000):Calls Tryz.prog 151 #[n.v,.string k,.int .u64 v] w (aCc w (lH n xs ys k v) n.hash):=by
 have e2:=hr.prN;refine enter Tryz.func151 Tryz.ntmps151 rfl rfl (SF.s1 hr.pr) ?_;simp only[cP]
 simp only[Nd.v,Nd.cells,e2]
 refine K1r ?_;intro x3;refine aT (λ x6=>?_);refine gX ?_;refine iH ?_;refine aD (c0 (V:=.bool) (hc:=λ w1 hw=>by rw[<- e2];exact Qp (n:=n) hb hb2 (hr.gU hw.done))) (λ x9 h9=>?_);refine C6 ?_;(refine eM 11 (λ g11=>?_) (λ g11=>?_)<;>refine Ka0 ?_);all_goals ((first|refine aJ ?_|(refine aF ?_;refine lF ?_));refine Kb2 ?_)
 all_goals
 refine bA (λ c15=>?_) (λ c15=>?_)
 ·all_goals (refine J0 ?_;refine bQ ?_;refine El ?_)
  all_goals
   refine bK Tryz.results151 (λ w hw=>?_);rw[show lH n xs ys k v=none from if_neg (by rintro ⟨t1,t2⟩;have:=h9.2 t1;clear hw;first|omega|(simp_all;done))];exact⟨(none,0),rfl,Nat.le_refl _,(hw.Lw none).fin⟩
 ·try exact nv c15
  all_goals (refine jH ?_;refine dZ [(0,[]),(1,[]),(2,[]),(3,[]),(4,[]),(5,[]),(6,[1]),(7,[]),(8,[]),(9,[])] ?_;refine Ke2 ?_;refine iJ ?_;refine bL (i:=6) (hq:=(cF (hc:=λ w1 hw=>gf (l:=ys) k v (hw.cl fin) (by omega)))) (h:=λ x23 h23=>?_);refine gQ ?_;refine Cv ?_)
  all_goals
   refine bK Tryz.results151 (λ w hw=>?_);rw[show lH n xs ys k v=some (Qb ys k v) from if_pos ⟨h9.1 (by clear hw;simp_all),by omega⟩];exact⟨x23,rfl,h23,hw.fin⟩
theorem Pc(k:ByteArray)(hb:n.bm=(b:Int))(hb2:b<18446744073709551616)(hr:qR w n xs ys)(hy:ys.length<=150000000000):Calls Tryz.prog 155 #[n.v,.string k] w (aBH w (pZ n xs ys k) n.hash):=by
 have e2:=hr.prN;refine enter Tryz.func155 Tryz.ntmps155 rfl rfl (SF.s1 hr.pr) ?_;simp only[cP]
 simp only[Nd.v,Nd.cells,e2]
 refine K0u ?_;intro x2;refine aT (λ x4=>?_);refine gX ?_;refine Ka9 ?_;refine aS (cV (hc:=λ w1 hw=>Jf (l:=ys) k (hw.cl fin) (by omega))) (λ x13=>?_);refine K0d ?_;refine J8 ?_;refine iH ?_;refine aD (c0 (V:=.bool) (hc:=λ w1 hw=>by rw[<- e2];exact Qp (n:=n) hb hb2 (hr.gU hw.done))) (λ x17 h17=>?_);refine C6 ?_;(refine eM 19 (λ g19=>?_) (λ g19=>?_)<;>refine Ka0 ?_);all_goals (refine Kd5 ?_)
 all_goals
 refine bA (λ c22=>?_) (λ c22=>?_)
 ·all_goals (refine J0 ?_;refine bQ ?_;refine El ?_)
  all_goals
   refine bK Tryz.results155 (λ w hw=>?_);rw[show pZ n xs ys k=none from if_neg (by rintro ⟨t1,t2⟩;have:=h17.2 t1;clear hw;simp_all)];exact⟨(none,0),rfl,Nat.le_refl _,(hw.Lw none).fin⟩
 ·try exact nv c22
  all_goals (refine bB ?_;refine Ka9 ?_;refine aD (cF (hc:=λ w1 hw=>Yg (l:=ys) k (hw.cl fin) (by omega))) (λ x27 h27=>?_);refine Ke4 ?_;refine dE ?_;refine rW ?_)
  all_goals
   refine bA (λ c30=>?_) (λ c30=>?_)
   ·refine aV ?_;refine gP [0,1,2,3,4,5,6,7,8,9,10,11,12] ?_;refine Kd1 ?_;refine bJ (i:=3) (hq:=(wD (k:=0) rf rf eC dR fin (by omega) (by omega))) (h:=?_);refine Kd1 ?_;refine bJ (i:=7) (hq:=(wD (k:=0) rf rf eC dR fin (by omega) (by omega))) (h:=?_);refine aN ?_;refine bJ (i:=9) (hq:=(Qe (q:=0) (lst:=sD ys k) rf dC fin (by omega))) (h:=?_);refine gQ ?_;refine Cv ?_;refine bK Tryz.results155 (λ w hw=>?_);have e1:(sD ys k).length=1:=by omega
    rw[show pZ n xs ys k=some (sD ys k) from if_pos ⟨h17.1 (by clear hw;simp_all),by clear hw;simp_all⟩];exact⟨(none,0),by simp only[Nz,if_pos e1];rfl,by simp only[Ie,if_pos e1];exact Nat.le_refl _,by simp only[Ie,if_pos e1];exact(hw.Lw none).fin⟩
   ·refine bB ?_;refine Ka9 ?_;refine bQ ?_;refine El ?_;refine bK Tryz.results155 (λ w hw=>?_);have e1:¬(sD ys k).length=1:=by omega
    rw[show pZ n xs ys k=some (sD ys k) from if_pos ⟨h17.1 (by clear hw;simp_all),by clear hw;simp_all⟩];exact⟨x27,by simp only[Nz,if_neg e1];rfl,by simp only[Ie,if_neg e1];exact h27,by simp only[Ie,if_neg e1];exact hw.fin⟩
end
end

/- Branches: lists of lists, joined; the C-node of them. -/
end Go.Proofs.YtadnboagdhcedaaGreatDoor
namespace Go.Ct
section
open Go Go.RowKit
section
variable{P:Program}{n:Nat}{S:List (Nat×Value)}
variable{w0 w w':World}{M:List Nat}{H H':List (Nat×Obj)}{A F F':Fr}{O O':List Ow}{G:World->Prop}
variable{d:Nat}{ty:TypeId}{pos:String}{af:Array Edge}{gd:Option (Nat×Bool)}{dst:Option Nat}{x y z:Operand}{t t2 e:TypeId}{p a:Option Addr}{i m k c c2:Nat}
end
end
end Go.Ct
namespace Go.Proofs.YtadnboagdhcedaaGreatDoor
section
open Go Go.RowKit Go.Ct
end

/- Branches: Inserted, Updated, Removed. -/
section
open Go.RowKit Go.Ct
def mw(n:Nd)(xs:List Int)(ys:List Pr)(b:Nat)(i r:Int):Option (Nat×List Int):=if CV n xs ys/\(0<=i/\i<64)/\1<=r/\qN b i=false then some (eL b i,vR xs (rK b i) r) else none
def mq(n:Nd)(xs:List Int)(ys:List Pr)(b:Nat)(i r:Int):Option (Nat×List Int):=if CV n xs ys/\1<=r/\qN b i=true then some (b,Ae xs (rK b i) r) else none
def mv(n:Nd)(xs:List Int)(ys:List Pr)(b:Nat)(i:Int):Option (Nat×List Int):=if CV n xs ys/\qN b i=true then some (wV b i,sF xs (rK b i)) else none
def nB(o:Option (Nat×List Int))(x:Option Addr×Nat):Nd:=match o with|some q=>cn q.1 q.2 x|none=>Nd.zero
def mK(o:Option (Nat×List Int)):List Int:=match o with|some q=>q.2|none=>[]
def Y4(w:World)(o:Option (Nat×List Int))(e:Ending)(w':World):Prop:=∃x:Option Addr×Nat,e=.returned (.tuple #[(nB o x).v,.bool o.isSome])/\(mK o).length<=x.2/\SF w [] [] [] [(x.1,aH (mK o))] [] w'
section
variable{n:Nd}{xs:List Int}{ys:List Pr}{w:World}{b:Nat}
end
end

/- Branches: the reference's build, Inserted, Updated, Removed. -/
section
open Go.RowKit Go.Ct
def hJ(b:Nat)(xs:List Int)(i:Nat)(r:Int):Nat->Option Int:=Nw (rA b xs) i (if 0<r then some r else none)
theorem oN{m:Nat->Option Int}{k:Nat}{v:Int}(h:m k=some v)(hk:k<64):eL (Ci m k) (k:Int)=Ci m (k+1)/\pY m k++[v]=pY m (k+1):=by
 simp only[Ci,pY,h,eL,Option.isSome_some,if_true,Option.toList,Int.toNat_natCast,and_true]
 exact if_pos (by omega)
theorem oJ{m:Nat->Option Int}{k:Nat}(h:m k=none):Ci m k=Ci m (k+1)/\pY m k=pY m (k+1):=by
 simp[Ci,pY,h]
theorem Bw(m:Nat->Option Int){k:Nat}(hk:k<=64):Ci m k<18446744073709551616:=Nat.lt_of_lt_of_le (ll m k) (Nat.pow_le_pow_right (n:=2) (by decide) hk)
theorem V4(m:Nat->Option Int):∀k,(pY m k).length<=k
 | 0=>Nat.le_refl _
 | k+1=>by have:=V4 m k;simp only[pY,List.length_append];cases m k<;>simp<;>omega
section
variable{n:Nd}{xs:List Int}{ys:List Pr}{w:World}{b:Nat}
theorem Wb(hcv:CV n xs ys){k:Nat}(hk:k<64):Lh n xs ys b (k:Int)=rA b xs k:=by
 unfold Lh rA;have h1:qN b (k:Int)=b.testBit k:=by rw[tC b (by omega) (by omega),Int.toNat_natCast]
 have h2:rK b (k:Int)=gB b k:=by unfold rK;rw[Int.toNat_natCast,Nat.min_eq_left (by omega)]
 rw[h1,h2]
 by_cases h:b.testBit k=true<;>simp[h,hcv]
theorem Ep{i k:Nat}{r:Int}(hcv:CV n xs ys)(hk:k<64)(h:(k:Int)≠(i:Int)):hJ b xs i r k=Lh n xs ys b (k:Int):=by
 rw[Wb hcv hk]
 exact if_neg (by omega)
theorem E2{i k:Nat}{r:Int}(h:(k:Int)=(i:Int)):hJ b xs i r k=if 0<r then some r else none:=if_pos (by omega)
theorem Wp{o:Option Int}(h:o.isSome=true):o=some (o.getD 0):=by cases o<;>simp_all
theorem W7{o:Option Int}(h:o.isSome=false):o=none:=by cases o<;>simp_all
set_option maxHeartbeats 800000 in
theorem Lz(i:Nat)(r:Int)(_hi:i<64)(hcv:CV n xs ys)(hb:n.bm=(b:Int))(hb2:b<18446744073709551616)(hr:qR w n xs ys) :
    Calls Tryz.prog 148 #[n.v,.int .i64 (i:Int),.int .i64 r] w λ e w'=>∃x:Option Addr×Nat,e=.returned (cn (Ci (hJ b xs i r) 64) (pY (hJ b xs i r) 64) x).v/\(pY (hJ b xs i r) 64).length<=x.2/\SF w [] [] [] [(x.1,aH (pY (hJ b xs i r) 64))] [] w':=by
  have e1:=hr.brN;refine enter Tryz.func148 Tryz.ntmps148 rfl rfl (SF.s2 hr.br hr.pr) ?_;simp only[cP]
  simp only[Nd.v,Nd.cells]
  refine K1r ?_;intro x3;refine aT (λ x6=>?_);refine aK ?_;refine J0 ?_;refine bQ ?_;refine aT (λ x7=>?_);refine J5 ?_;refine aV ?_;refine zR ?_;refine kK [8,9,10,12,13,14,15,16,17,18,19,20,21,22,23,24,25,26,27,28,29,30,31,32,33,34,35,36,37,38,39] (λ y:Nat×Option Addr×Nat=>[(8,.int .i64 ((y.1:Nat):Int))]) (λ y=>y.1<=64/\(pY (hJ b xs i r) y.1).length<=y.2.2) (λ y=>[(x7,.cells ⟨[.int .i64 3,.int .i64 0,.int .i64 0,.int .u64 ((Ci (hJ b xs i r) y.1:Nat):Int),.slice y.2.1 (pY (hJ b xs i r) y.1).length y.2.2,.int .u64 0,.string ⟨#[]⟩,.int .u64 0,.slice none 0 0,.int .i64 0,.int .i64 0,.int .i64 0,.int .i64 0,.int .i64 0]⟩ 77),(x6,.cells ⟨Nd.zero.cells⟩ 77),(x3,.cells ⟨n.cells⟩ 77)]) (λ _=>_) (λ y=>[⟨y.2.1,aH (pY (hJ b xs i r) y.1),y.2.2,62,1⟩]) (λ y=>64-y.1) ((0,none,0)) (⟨Nat.zero_le _,Nat.le_refl _⟩) (λ y f hx=>?_) (hw0:=λ w hw=>(hw.kS 62 1).back);refine K0a ?_;have hll:=V4 (hJ b xs i r) y.1;refine jL ?_;refine rJ ?_;refine bA (λ c13=>?_) (λ c13=>?_)
  · refine mZ ?_;refine vP ?_;refine aS (cV (hc:=λ w1 hw=>nZ (n:=n) (y.1:Int) hb hb2 (hr.gU hw.done))) (λ x19=>?_);refine K1n ?_;refine B8 ?_;refine rW ?_;refine bA (λ c24=>?_) (λ c24=>?_)
    · refine Il ?_;refine vH ?_;refine J8 ?_;refine J2 ?_;refine aK ?_;refine bA (λ c28=>?_) (λ c28=>?_)
      · first
         | have hm:hJ b xs i r y.1=some r:=by rw[E2 c24,if_pos (by omega)]
         | have hm:hJ b xs i r y.1=some ((Lh n xs ys b (y.1:Int)).getD 0):=by rw[Ep hcv (by omega) c24];exact Wp c28
        refine eN [29,30,31,32,33,34,35,36,37,38,39] (λ z:Nat×Option Addr×Nat=>[]) (λ z=>(pY (hJ b xs i r) y.1).length+1<=z.2.2) (λ z=>[(x7,.cells ⟨[.int .i64 3,.int .i64 0,.int .i64 0,.int .u64 ((Ci (hJ b xs i r) (y.1+1):Nat):Int),.slice z.2.1 (pY (hJ b xs i r) (y.1+1)).length z.2.2,.int .u64 0,.string ⟨#[]⟩,.int .u64 0,.slice none 0 0,.int .i64 0,.int .i64 0,.int .i64 0,.int .i64 0,.int .i64 0]⟩ 77),(x6,.cells ⟨Nd.zero.cells⟩ 77),(x3,.cells ⟨n.cells⟩ 77)]) (λ z=>[]) (λ z=>[⟨z.2.1,aH (pY (hJ b xs i r) (y.1+1)),z.2.2,62,1⟩]) (by decide) (λ _=>by exact rfl) ?_ (λ z f hx=>?_)
        · refine K0x ?_;refine fV (E:=[3,7]) (by decide +kernel) ((.cons ?_ (.cons ?_ .nil)))
          · refine Ga (i:=3) (hq:=(cV (hc:=λ w1 hw=>nT (Bw (hJ b xs i r) (k:=y.1) (by omega)) (y.1:Int) w1))) (h:=λ x32=>?_);refine aN ?_;refine dA (h:=λ x36=>?_);((refine fP (h:=λ x37=>?_);try (refine dO (λ h37=>?_))));refine K0l ?_
            · exact h37
          · refine jE (i:=7) (h:=λ x36=>?_);refine cA (i:=3) (hq:=(cV (hc:=λ w1 hw=>nT (Bw (hJ b xs i r) (k:=y.1) (by omega)) (y.1:Int) w1))) (h:=λ x32=>?_);refine aN ?_;((refine fP (h:=λ x37=>?_);try (refine dO (λ h37=>?_))));refine K0l ?_
            · exact h37
        refine K0a ?_;refine Kc2 ?_;refine gT ((by exact(y.1+1,z.2))) ?_ (hw1:=λ w hw=>by exact hw.back)
        · first
           | exact⟨by omega,by have k2:=(oN hm (by omega)).2;simp only[];rw[<- k2,List.length_append];exact hx⟩
           | exact⟨by omega,by simp only[];rw[<- (oJ hm).2];exact hx.2⟩
      · have hm:hJ b xs i r y.1=none:=by
         first
          | (rw[E2 c24,if_neg (by omega)];done)
          | (rw[Ep hcv (by omega) c24];exact W7 c28)
        refine Kc1 ?_;refine gT ((by exact(y.1+1,y.2))) ?_ (hw1:=λ w hw=>by(rw[(oJ hm).1,(oJ hm).2] at hw;exact hw.back))
        · first
           | exact⟨by omega,by have k2:=(oN hm (by omega)).2;simp only[];rw[<- k2,List.length_append];exact hx⟩
           | exact⟨by omega,by simp only[];rw[<- (oJ hm).2];exact hx.2⟩
    · refine Kb3 ?_;refine aK ?_;refine bA (λ c28=>?_) (λ c28=>?_)
      · first
         | have hm:hJ b xs i r y.1=some r:=by rw[E2 c24,if_pos (by omega)]
         | have hm:hJ b xs i r y.1=some ((Lh n xs ys b (y.1:Int)).getD 0):=by rw[Ep hcv (by omega) c24];exact Wp c28
        refine eN [29,30,31,32,33,34,35,36,37,38,39] (λ z:Nat×Option Addr×Nat=>[]) (λ z=>(pY (hJ b xs i r) y.1).length+1<=z.2.2) (λ z=>[(x7,.cells ⟨[.int .i64 3,.int .i64 0,.int .i64 0,.int .u64 ((Ci (hJ b xs i r) (y.1+1):Nat):Int),.slice z.2.1 (pY (hJ b xs i r) (y.1+1)).length z.2.2,.int .u64 0,.string ⟨#[]⟩,.int .u64 0,.slice none 0 0,.int .i64 0,.int .i64 0,.int .i64 0,.int .i64 0,.int .i64 0]⟩ 77),(x6,.cells ⟨Nd.zero.cells⟩ 77),(x3,.cells ⟨n.cells⟩ 77)]) (λ z=>[]) (λ z=>[⟨z.2.1,aH (pY (hJ b xs i r) (y.1+1)),z.2.2,62,1⟩]) (by decide) (λ _=>by exact rfl) ?_ (λ z f hx=>?_)
        · refine K0x ?_;refine fV (E:=[3,7]) (by decide +kernel) ((.cons ?_ (.cons ?_ .nil)))
          · refine Ga (i:=3) (hq:=(cV (hc:=λ w1 hw=>nT (Bw (hJ b xs i r) (k:=y.1) (by omega)) (y.1:Int) w1))) (h:=λ x32=>?_);refine aN ?_;refine dA (h:=λ x36=>?_);((refine fP (h:=λ x37=>?_);try (refine dO (λ h37=>?_))));refine K0l ?_
            · exact h37
          · refine jE (i:=7) (h:=λ x36=>?_);refine cA (i:=3) (hq:=(cV (hc:=λ w1 hw=>nT (Bw (hJ b xs i r) (k:=y.1) (by omega)) (y.1:Int) w1))) (h:=λ x32=>?_);refine aN ?_;((refine fP (h:=λ x37=>?_);try (refine dO (λ h37=>?_))));refine K0l ?_
            · exact h37
        refine K0a ?_;refine Kc2 ?_;refine gT ((by exact(y.1+1,z.2))) ?_ (hw1:=λ w hw=>by exact hw.back)
        · first
           | exact⟨by omega,by have k2:=(oN hm (by omega)).2;simp only[];rw[<- k2,List.length_append];exact hx⟩
           | exact⟨by omega,by simp only[];rw[<- (oJ hm).2];exact hx.2⟩
      · have hm:hJ b xs i r y.1=none:=by
         first
          | (rw[E2 c24,if_neg (by omega)];done)
          | (rw[Ep hcv (by omega) c24];exact W7 c28)
        refine Kc1 ?_;refine gT ((by exact(y.1+1,y.2))) ?_ (hw1:=λ w hw=>by(rw[(oJ hm).1,(oJ hm).2] at hw;exact hw.back))
        · first
           | exact⟨by omega,by have k2:=(oN hm (by omega)).2;simp only[];rw[<- k2,List.length_append];exact hx⟩
           | exact⟨by omega,by simp only[];rw[<- (oJ hm).2];exact hx.2⟩
  · refine bM rfl ?_;refine Kb5 ?_;refine bK Tryz.results148 (λ w hw=>?_);have hy:y.1=64:=by omega
    rw[hy] at hw hx ⊢
    generalize Ci (hJ b xs i r) 64=B at hw ⊢
    generalize pY (hJ b xs i r) 64=L at hw hx ⊢
    exact⟨y.2,rfl,hx.2,SF.frz hw.aQ⟩
end
end

/- Branches: the reference's Inserted, Updated, Removed. -/
section
open Go.RowKit Go.Ct
theorem of_eq{m:Nat->Option Int}{b:Nat}{xs:List Int}(h:BV b xs/\∀k,k<64->rA b xs k=m k):Ci m 64=b/\pY m 64=xs:=by
 obtain⟨h1,h2⟩:=Rj 64 λ k hk=>(h.2 k hk).symm
 obtain⟨h3,h4⟩:=Rx h.1
 exact⟨h1.trans h3,h2.trans h4⟩
theorem pU{k:Nat}(b:Nat)(hk:k<64):eL b (k:Int)=b ||| 2^k:=by
 unfold eL;rw[if_pos (by omega),Int.toNat_natCast]
theorem tP{k:Nat}(b:Nat)(hk:k<64):wV b (k:Int)=b ^^^ (b &&& 2^k):=by
 unfold wV;rw[if_pos (by omega),Int.toNat_natCast]
theorem oC{k:Nat}(b:Nat)(hk:k<64):rK b (k:Int)=gB b k:=by
 unfold rK;rw[Int.toNat_natCast,Nat.min_eq_left (by omega)]
theorem qG{k:Nat}(b:Nat)(hk:k<64):qN b (k:Int)=b.testBit k:=by
 rw[tC b (by omega) (by omega),Int.toNat_natCast]
theorem Za{b k:Nat}{xs:List Int}{r:Int}(h:BV b xs)(hk:k<64)(hb:qN b (k:Int)=false)(hr:1<=r):Ci (hJ b xs k r) 64=eL b (k:Int)/\pY (hJ b xs k r) 64=vR xs (rK b (k:Int)) r:=by
 rw[qG b hk] at hb
 rw[pU b hk,oC b hk]
 unfold hJ
 rw[if_pos (by omega)]
 exact of_eq (Hn h hk hb hr)
theorem X9{b k:Nat}{xs:List Int}{r:Int}(h:BV b xs)(hk:k<64)(hb:qN b (k:Int)=true)(hr:1<=r):Ci (hJ b xs k r) 64=b/\pY (hJ b xs k r) 64=Ae xs (rK b (k:Int)) r:=by
 rw[qG b hk] at hb
 rw[oC b hk]
 unfold hJ
 rw[if_pos (by omega)]
 exact of_eq (Tq h hk hb hr)
theorem Xf{b k:Nat}{xs:List Int}(h:BV b xs)(hk:k<64)(hb:qN b (k:Int)=true):Ci (hJ b xs k 0) 64=wV b (k:Int)/\pY (hJ b xs k 0) 64=sF xs (rK b (k:Int)):=by
 rw[qG b hk] at hb
 rw[tP b hk,oC b hk]
 unfold hJ
 rw[if_neg (by omega)]
 exact of_eq (Sf h hk hb)
section
variable{n:Nd}{xs:List Int}{ys:List Pr}{w:World}{b:Nat}
theorem B4{i:Int}(h:(Lh n xs ys b i).isSome=true):CV n xs ys/\qN b i=true:=by
 unfold Lh at h
 split at h
 ·assumption
 ·cases h
theorem F5{i:Int}(h:(Lh n xs ys b i).isSome=false)(hcv:CV n xs ys):qN b i=false:=by
 unfold Lh at h
 split at h
 ·cases h
 ·rename_i hn
  cases hh:qN b i with
  | false=>rfl
  | true=>exact absurd ⟨hcv,hh⟩ hn
theorem Iv(i r:Int)(hb:n.bm=(b:Int))(hb2:b<18446744073709551616)(hr:qR w n xs ys):Calls Tryz.prog 153 #[n.v,.int .i64 i,.int .i64 r] w (Y4 w (mw n xs ys b i r)):=by
 refine enter Tryz.func153 Tryz.ntmps153 rfl rfl (SF.s2 hr.br hr.pr) ?_;simp only[cP]
 simp only[Nd.v,Nd.cells]
 refine K1r ?_;intro x3;refine aT (λ x6=>?_);refine gX ?_;refine vP ?_;refine aS (cV (hc:=λ w1 hw=>nZ (n:=n) i hb hb2 (hr.gU hw.done))) (λ x13=>?_);refine K1n ?_;refine iH ?_;refine aD (c0 (V:=.bool) (hc:=λ w1 hw=>jg (n:=n) hb hb2 (hr.gU hw.done))) (λ x17 h17=>?_);refine C6 ?_;(refine eM 19 (λ g19=>?_) (λ g19=>?_)<;>refine Ka0 ?_);all_goals (refine Kc4 ?_)
 all_goals (first|refine aJ ?_|(refine eM 22 (λ g22=>?_) (λ g22=>?_)<;>refine Ka0 ?_))
 all_goals (refine u4 ?_;refine aB ?_)
 all_goals (first|refine aJ ?_|(refine eM 26 (λ g26=>?_) (λ g26=>?_)<;>refine Ka0 ?_))
 all_goals (refine Aj ?_;refine aB ?_)
 all_goals (first|refine aJ ?_|(refine eM 30 (λ g30=>?_) (λ g30=>?_)<;>refine Ka0 ?_))
 all_goals (refine u4 ?_;refine aK ?_)
 all_goals
 refine bA (λ c33=>?_) (λ c33=>?_)
 ·all_goals (refine J0 ?_;refine bQ ?_;refine El ?_)
  all_goals
   refine bK Tryz.results153 (λ w hw=>?_);rw[show mw n xs ys b i r=none from if_neg (by rintro ⟨k1,⟨k2,k3⟩,k4,k5⟩;clear hw;first|omega|exact absurd (B4 g22).2 (by simp[k5])|exact absurd (h17.2 k1) (by simp_all))];exact⟨(none,0),rfl,Nat.le_refl _,(hw.Lw none).fin⟩
 ·try exact nv c33
  all_goals
   have hcv:=h17.1 (by simpa using g19);have hh:=F5 g22 hcv;obtain⟨k,rfl⟩:=Int.eq_ofNat_of_zero_le (show 0<=i by omega)
   have hk:=Za (hcv.bv hb hb2) (k:=k) (by omega) hh (r:=r) (by omega)
  all_goals (refine bB ?_;refine iH ?_;refine pK ?_;refine aD (cF (hc:=λ w1 hw=>by have:=Lz (w:=w1) k r (by omega) hcv hb hb2 (hr.gU hw.done);rw[hk.1,hk.2] at this;exact this)) (λ x38 h38=>?_);refine El ?_)
  all_goals
   refine bK Tryz.results153 (λ w hw=>?_);rw[show mw n xs ys b (k:Int) r=some (eL b (k:Int),vR xs (rK b (k:Int)) r) from if_pos ⟨hcv,⟨by omega,by omega⟩,by omega,hh⟩];exact⟨x38,rfl,h38,hw.fin⟩
theorem Ma(i r:Int)(hb:n.bm=(b:Int))(hb2:b<18446744073709551616)(hr:qR w n xs ys):Calls Tryz.prog 118 #[n.v,.int .i64 i,.int .i64 r] w (Y4 w (mq n xs ys b i r)):=by
 refine enter Tryz.func118 Tryz.ntmps118 rfl rfl (SF.s2 hr.br hr.pr) ?_;simp only[cP]
 simp only[Nd.v,Nd.cells]
 refine K1r ?_;intro x3;refine aT (λ x6=>?_);refine gX ?_;refine vP ?_;refine aS (cV (hc:=λ w1 hw=>nZ (n:=n) i hb hb2 (hr.gU hw.done))) (λ x13=>?_);refine K1n ?_;refine J2 ?_;refine C6 ?_;(refine eM 18 (λ g18=>?_) (λ g18=>?_)<;>refine Ka0 ?_);all_goals (refine u4 ?_;refine aK ?_)
 all_goals
 refine bA (λ c21=>?_) (λ c21=>?_)
 ·all_goals (refine J0 ?_;refine bQ ?_;refine El ?_)
  all_goals
   refine bK Tryz.results118 (λ w hw=>?_);rw[show mq n xs ys b i r=none from if_neg (by rintro ⟨k1,k4,k5⟩;clear hw;first|omega|exact absurd (F5 (by simpa using g18) k1) (by simp[k5]))];exact⟨(none,0),rfl,Nat.le_refl _,(hw.Lw none).fin⟩
 ·try exact nv c21
  all_goals
   have hc:=B4 (by simpa using g18);have hcv:=hc.1;have hh:=hc.2;obtain⟨q1,q2,_,_⟩:=rT hh
   obtain⟨k,rfl⟩:=Int.eq_ofNat_of_zero_le q1
   have hk:=X9 (hcv.bv hb hb2) (k:=k) (by omega) hh (r:=r) (by omega)
  all_goals (refine bB ?_;refine iH ?_;refine pK ?_;refine aD (cF (hc:=λ w1 hw=>by have:=Lz (w:=w1) k r (by omega) hcv hb hb2 (hr.gU hw.done);rw[hk.1,hk.2] at this;exact this)) (λ x26 h26=>?_);refine El ?_)
  all_goals
   refine bK Tryz.results118 (λ w hw=>?_);rw[show mq n xs ys b (k:Int) r=some (b,Ae xs (rK b (k:Int)) r) from if_pos ⟨hcv,by omega,hh⟩];exact⟨x26,rfl,h26,hw.fin⟩
theorem Mu(i:Int)(hb:n.bm=(b:Int))(hb2:b<18446744073709551616)(hr:qR w n xs ys):Calls Tryz.prog 156 #[n.v,.int .i64 i] w (Y4 w (mv n xs ys b i)):=by
 refine enter Tryz.func156 Tryz.ntmps156 rfl rfl (SF.s2 hr.br hr.pr) ?_;simp only[cP]
 simp only[Nd.v,Nd.cells]
 refine K0u ?_;intro x2;refine aT (λ x4=>?_);refine gX ?_;refine vP ?_;refine aS (cV (hc:=λ w1 hw=>nZ (n:=n) i hb hb2 (hr.gU hw.done))) (λ x11=>?_);refine K1n ?_;refine J2 ?_;refine lA ?_;refine bA (λ c15=>?_) (λ c15=>?_)
 ·refine J0 ?_;refine bQ ?_;refine El ?_;refine bK Tryz.results156 (λ w hw=>?_);rw[show mv n xs ys b i=none from if_neg (by rintro ⟨k1,k5⟩;clear hw;exact absurd (F5 c15 k1) (by simp[k5]))];exact⟨(none,0),rfl,Nat.le_refl _,(hw.Lw none).fin⟩
 ·have hc:=B4 c15;have hcv:=hc.1;have hh:=hc.2;obtain⟨q1,q2,_,_⟩:=rT hh
  obtain⟨k,rfl⟩:=Int.eq_ofNat_of_zero_le q1
  have hk:=Xf (hcv.bv hb hb2) (k:=k) (by omega) hh;refine bB ?_;refine vP ?_;refine aD (cF (hc:=λ w1 hw=>by have:=Lz (w:=w1) k 0 (by omega) hcv hb hb2 (hr.gU hw.done);rw[hk.1,hk.2] at this;exact this)) (λ x19 h19=>?_);refine El ?_;refine bK Tryz.results156 (λ w hw=>?_);rw[show mv n xs ys b (k:Int)=some (wV b (k:Int),sF xs (rK b (k:Int))) from if_pos ⟨hcv,hh⟩];exact⟨x19,rfl,h19,hw.fin⟩
end
end

end Go.Proofs.YtadnboagdhcedaaGreatDoor

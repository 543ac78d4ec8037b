/- Branches: what Lookup and Sole compute. -/
import Derived.Test.YtadnboagdhcedaaGreatDoorGPaX
import Derived.Test.YtadnboagdhcedaaGreatDoorGAr5
import Derived.Test.YtadnboagdhcedaaGreatDoorGNode2
import Derived.Test.YtadnboagdhcedaaGreatDoorGAr9
import Derived.Test.YtadnboagdhcedaaGreatDoorGJoin

set_option linter.unusedSimpArgs false
set_option linter.unusedVariables false
namespace Go.Ct
section
open Go Go.RowKit
end
end Go.Ct
namespace Go.Proofs.YtadnboagdhcedaaGreatDoor
section
open Go.RowKit Go.Ct
def CV(n:Nd)(xs:List Int)(ys:List Pr):Prop:=n.kind=3/\bY n xs ys
theorem CV.bv{n:Nd}{xs:List Int}{ys:List Pr}{b:Nat}(h:CV n xs ys)(hb:n.bm=(b:Int))(hb2:b<18446744073709551616):BV b xs:=by
 obtain⟨h1,h2⟩:=oT h.1 h.2
 rw[hb,nW hb2] at h1
 exact⟨hb2,by omega,h2⟩
instance (n:Nd) (ys:List Pr):Decidable (ys=n.fH ys):=if h:(n.kind==6)=true then isTrue (by unfold Nd.fH;rw[if_pos h]) else decidable_of_iff (ys=[]) (by unfold Nd.fH;rw[if_neg h])
instance (n:Nd) (xs:List Int) (ys:List Pr):Decidable (pP n n.own xs (n.fQ xs) ys (n.fH ys)):=inferInstanceAs (Decidable (n.kind=n.own.kind/\n.gen=n.own.gen/\n.main=n.own.main/\n.bm=n.own.bm/\xs=n.fQ xs/\n.hash=n.own.hash/\n.key=n.own.key/\n.val=n.own.val/\ys=n.fH ys/\n.prev=n.own.prev/\n.bM=n.own.bM/\n.exp=n.own.exp/\n.new=n.own.new/\n.status=n.own.status))
instance (l:List Int):Decidable (Pos l):=inferInstanceAs (Decidable (∀i,i<l.length->1<=l.getD i 0))
instance (l:List Pr):Decidable (A4 l):=inferInstanceAs (Decidable (∀i,i<l.length->(l.getD i (⟨#[]⟩,0)).1.size<=64))
instance (l:List Pr):Decidable (gu l):=decidable_of_iff (∀i,i<l.length->1<=i->cZ (l.getD (i-1) (⟨#[]⟩,0)).1 (l.getD i (⟨#[]⟩,0)).1=true) ⟨λ h i a b=>h i b a,λ h i a b=>h i b a⟩
instance (n:Nd) (xs:List Int) (ys:List Pr):Decidable (bY n xs ys):=inferInstanceAs (Decidable (_/\_))
instance (n:Nd) (xs:List Int) (ys:List Pr):Decidable (CV n xs ys):=inferInstanceAs (Decidable (_/\_))
def Ib(n:Nd)(xs:List Int)(ys:List Pr)(b:Nat)(i:Int):Option Int:=if CV n xs ys/\oC b i=true then some (xs.getD (pQ b i) 0) else none
def Wl(n:Nd)(xs:List Int)(ys:List Pr):Option Int:=if CV n xs ys/\xs.length=1 then some (xs.getD 0 0) else none
theorem qE{b:Nat}{i:Int}(h:oC b i=true):0<=i/\i<64/\b.testBit i.toNat=true/\pQ b i=eM b i.toNat:=by
 simp only[oC,Bool.and_eq_true,decide_eq_true_eq] at h
 exact⟨h.1,h.2.1,h.2.2,by unfold pQ;congr 1;omega⟩
theorem z9{b:Nat}{xs:List Int}(h:BV b xs){i:Int}(hh:oC b i=true):pQ b i<xs.length:=by
 obtain⟨h1,h2,h3,h4⟩:=qE hh
 rw[h4,h.len]
 exact nC (by omega) h3
section
variable{n:Nd}{xs:List Int}{ys:List Pr}{w:World}{b:Nat}
theorem X7(hb:n.bm=(b:Int))(hb2:b<18446744073709551616)(hr:qP w n xs ys):Calls Tryz.prog 146 #[n.v] w λ e w'=>∃r:Bool,e=.returned (.bool r)/\(r=true↔CV n xs ys)/\St w [] [] w':=by
 refine enter Tryz.func146 Tryz.ntmps146 rfl rfl (SF.s0 w) ?_
 simp only[cP]
 simp only[Nd.v,Nd.cells]
 refine J0 ?_;refine bP (λ x1=>?_);refine J1 ?_;refine gU ?_;refine lH ?_;refine aB ?_
 (refine eF 6 (λ g6=>?_) (λ g6=>?_)<;>refine Ka2 ?_)
 all_goals ((first|refine aH ?_|(refine aF ?_;refine aC (c0 (V:=.bool) (hc:=λ w1 hw=>Dg (n:=n) hb hb2 (hr.fC hw.done))) (λ x8 h8=>?_)));refine Kc8 ?_)
 all_goals
 refine aQ Tryz.results146 (λ w hw=>?_)
 refine⟨_,rfl,?_,hw.done⟩
 simp_all[CV]
theorem mH(i:Int)(hb:n.bm=(b:Int))(hb2:b<18446744073709551616)(hr:qP w n xs ys):Calls Tryz.prog 115 #[n.v,.int .i64 i] w λ e w'=>e=.returned (.tuple #[.int .i64 ((Ib n xs ys b i).getD 0),.bool (Ib n xs ys b i).isSome])/\St w [] [] w':=by
 have e1:=hr.brN
 refine enter Tryz.func115 Tryz.ntmps115 rfl rfl (SF.s2 hr.br hr.pr) ?_
 simp only[cP]
 simp only[Nd.v,Nd.cells,hb,e1]
 refine J0 ?_;refine bP (λ x2=>?_);refine J8 ?_;refine aR ?_;refine kN ?_;refine aC (c0 (V:=.bool) (hc:=λ w1 hw=>by rw[<- e1,<- hb];exact X7 (n:=n) hb hb2 (hr.fC hw.done))) (λ x7 h7=>?_);refine C4 ?_
 (refine eF 9 (λ g9=>?_) (λ g9=>?_)<;>refine Ka1 ?_)
 all_goals (refine pu ?_;(first|refine aH ?_|(refine aF ?_;refine aU (cV (hc:=λ w1 hw=>Ni hb2 i w1)) (λ x13=>?_)));refine Rx ?_;refine aI ?_)
 all_goals
 refine aZ (λ c15=>?_) (λ c15=>?_)
 ·all_goals refine F5 ?_
  all_goals
   refine bK Tryz.results115 (λ w hw=>?_)
   rw[show Ib n xs ys b i=none from if_neg (by simp_all)];exact⟨rfl,hw.done⟩
 ·try exact nv c15
  all_goals
   have hcv:CV n xs ys:=h7.1 (by simpa using g9)
   have hpl:=z9 (hcv.bv hb hb2) c15
  all_goals (refine jM ?_;refine eG [(0,[]),(1,[]),(2,[]),(3,[]),(4,[]),(5,[1]),(6,[]),(7,[]),(8,[]),(9,[])] ?_;refine mB ?_;refine mB ?_;refine aS ?_;refine cX (i:=5) (hq:=(cV (hc:=λ w1 hw=>My hb2 i w1))) (h:=λ x21=>?_);refine Sr ?_;refine j6 ?_)
  all_goals
   refine bK Tryz.results115 (λ w hw=>?_)
   rw[show Ib n xs ys b i=some (xs.getD (pQ b i) 0) from if_pos ⟨hcv,c15⟩];exact⟨rfl,hw.done⟩
theorem H2(hb:n.bm=(b:Int))(hb2:b<18446744073709551616)(hr:qP w n xs ys):Calls Tryz.prog 149 #[n.v] w λ e w'=>e=.returned (.tuple #[.int .i64 ((Wl n xs ys).getD 0),.bool (Wl n xs ys).isSome])/\St w [] [] w':=by
 have e1:=hr.brN
 refine enter Tryz.func149 Tryz.ntmps149 rfl rfl (SF.s2 hr.br hr.pr) ?_
 simp only[cP]
 simp only[Nd.v,Nd.cells,e1]
 refine J0 ?_;refine bP (λ x1=>?_);refine J8 ?_;refine aR ?_;refine kN ?_;refine aC (c0 (V:=.bool) (hc:=λ w1 hw=>by rw[<- e1];exact X7 (n:=n) hb hb2 (hr.fC hw.done))) (λ x5 h5=>?_);refine C4 ?_
 (refine eF 7 (λ g7=>?_) (λ g7=>?_)<;>refine Ka1 ?_)
 all_goals (refine Ka2 ?_;(first|refine aH ?_|(refine aF ?_;refine dI ?_));refine Ua ?_;refine aI ?_)
 all_goals
 refine aZ (λ c12=>?_) (λ c12=>?_)
 ·all_goals refine F5 ?_
  all_goals
   refine bK Tryz.results149 (λ w hw=>?_)
   rw[show Wl n xs ys=none from if_neg (by simp_all;try omega)];exact⟨rfl,hw.done⟩
 ·try exact nv c12
  all_goals
   have hcv:CV n xs ys:=h5.1 (by simpa using g7)
   have hl1:xs.length=1:=by omega
  all_goals (refine bA ?_;refine gU ?_;refine aE (cB (k:=0) rf rf fE gA fin (by omega) (by omega)) rfl ?_;refine bN ?_;refine J8 ?_)
  all_goals
   refine bK Tryz.results149 (λ w hw=>?_)
   rw[show Wl n xs ys=some (xs.getD 0 0) from if_pos ⟨hcv,hl1⟩];exact⟨rfl,hw.done⟩
end
end

/- Branches: a C-node of a bitmap and a list. -/
section
open Go.RowKit Go.Ct
def cn(b:Nat)(xs:List Int)(x:Option Addr×Nat):Nd:={Nd.zero with kind:=3,bm:=(b:Int),brA:=x.1,brN:=xs.length,brC:=x.2}
theorem aAh{b:Nat}{xs:List Int}(h:BV b xs)(x:Option Addr×Nat){p:Int}(hp:0<=p):CV {cn b xs x with prev:=p} xs [] :=
 ⟨rfl,by simp[pP,Nd.own,Nd.fQ,Nd.fH,cn],by simp[cn,Nd.zero],hp,by simp[cn,Nd.zero],.inr (.inr (.inl ⟨rfl,by show(xs.length:Int)=wI (b:Int);rw[nW h.lt,h.len],h.pos⟩))⟩
theorem ue{b:Nat}{xs:List Int}(h:BV b xs)(x:Option Addr×Nat):CV (cn b xs x) xs []:=aAh h x (p:=0) (Int.le_refl _)
end

/- Tombs: Untombed, Contracted, Grown, Shrunk: both sides. -/
section
open Go.RowKit Go.Ct
def tmb(s:Nd):Nd:={Nd.zero with kind:=5,hash:=s.hash,key:=s.key,val:=s.val}
def D3(n:Nd):Nd:=if n.kind=5 then{Nd.zero with kind:=4,hash:=n.hash,key:=n.key,val:=n.val} else Nd.zero
theorem F0(n:Nd)(w:World):Calls Tryz.prog 117 #[n.v] w λ e w'=>e=.returned (.tuple #[(D3 n).v,.bool (decide (n.kind=5))])/\St w [] [] w':=by
 refine enter Tryz.func117 Tryz.ntmps117 rfl rfl (SF.s0 w) ?_
 simp only[cP]
 simp only[Nd.v,Nd.cells]
 refine J0 ?_;refine bP (λ x1=>?_);refine aP (λ x2=>?_);refine gP ?_;refine gU ?_;refine Kc0 ?_
 refine aZ (λ c6=>?_) (λ c6=>?_)
 ·refine J0 ?_;refine bD ?_;refine B2 ?_
  refine bK Tryz.results117 (λ w hw=>?_)
  exact⟨by rw[show D3 n=Nd.zero from if_neg (by assumption),decide_eq_false (by assumption)];rfl,hw.done⟩
 ·refine bA ?_;refine gU ?_;refine Kc6 ?_;refine bD ?_;refine B2 ?_
  refine bK Tryz.results117 (λ w hw=>?_)
  exact⟨by rw[show D3 n={Nd.zero with kind:=4,hash:=n.hash,key:=n.key,val:=n.val} from if_pos (by omega),decide_eq_true (by omega)];rfl,hw.done⟩
section
variable{n s:Nd}{xs:List Int}{ys:List Pr}{w:World}{b:Nat}
def LV(n:Nd)(xs:List Int)(ys:List Pr):Prop:=n.kind=6/\bY n xs ys
theorem Kz(hb:n.bm=(b:Int))(hb2:b<18446744073709551616)(hr:qP w n xs ys):Calls Tryz.prog 165 #[n.v] w λ e w'=>∃r:Bool,e=.returned (.bool r)/\(r=true↔LV n xs ys)/\St w [] [] w':=by
 refine enter Tryz.func165 Tryz.ntmps165 rfl rfl (SF.s0 w) ?_
 simp only[cP]
 simp only[Nd.v,Nd.cells]
 refine J0 ?_;refine bP (λ x1=>?_);refine J1 ?_;refine gU ?_;refine lH ?_;refine aB ?_
 (refine eF 6 (λ g6=>?_) (λ g6=>?_)<;>refine Ka2 ?_)
 all_goals ((first|refine aH ?_|(refine aF ?_;refine aC (c0 (V:=.bool) (hc:=λ w1 hw=>Dg (n:=n) hb hb2 (hr.fC hw.done))) (λ x8 h8=>?_)));refine Kc8 ?_)
 all_goals
 refine aQ Tryz.results165 (λ w hw=>?_)
 refine⟨_,rfl,?_,hw.done⟩
 simp_all[LV]
open Classical in
def Qg(n:Nd)(xs:List Int)(ys:List Pr)(level:Int)(s:Nd):Bool:=decide ((Wl n xs ys).isSome=true/\0<level/\s.kind=4)
def ou(t:Bool)(n s:Nd):Nd:=if t=true then tmb s else n
def di{α:Type}(t:Bool)(l:List α):List α:=if t=true then [] else l
theorem Bw(level:Int)(s:Nd)(hb:n.bm=(b:Int))(hb2:b<18446744073709551616)(hr:qP w n xs ys):Calls Tryz.prog 119 #[n.v,.int .i64 level,s.v] w λ e w'=>e=.returned (ou (Qg n xs ys level s) n s).v/\St w [] [] w':=by
 refine enter Tryz.func119 Tryz.ntmps119 rfl rfl (SF.s0 w) ?_
 simp only[cP]
 simp only[Nd.v,Nd.cells]
 refine J0 ?_;refine bP (λ x3=>?_);refine bP (λ x5=>?_);refine aP (λ x6=>?_);refine Ug ?_;refine kN ?_;refine aU (cV (hc:=λ w1 hw=>H2 (n:=n) hb hb2 (hr.fC hw.done))) (λ x11=>?_);refine aB ?_;refine aE (bL rf rfl) rfl ?_;refine aE (bL rf rfl) rfl ?_;refine J8 ?_;refine iQ ?_
 (refine eF 15 (λ g15=>?_) (λ g15=>?_)<;>refine Ka0 ?_)
 all_goals (refine Ez ?_;refine aB ?_)
 all_goals (first|refine aH ?_|(refine eF 19 (λ g19=>?_) (λ g19=>?_)<;>refine Ka1 ?_))
 all_goals (refine n6 ?_;refine aI ?_)
 all_goals
 refine aZ (λ c23=>?_) (λ c23=>?_)
 ·try exact nv c23
  all_goals (refine gU ?_;refine Kc6 ?_;refine zO ?_)
  all_goals
   refine bK Tryz.results119 (λ w hw=>?_)
   rw[show Qg n xs ys level s=true from decide_eq_true ⟨by assumption,by omega,by omega⟩];exact⟨rfl,hw.done⟩
 ·all_goals (refine bA ?_;refine Ka9 ?_)
  all_goals
   refine bK Tryz.results119 (λ w hw=>?_)
   rw[show Qg n xs ys level s=false from decide_eq_false (by rintro ⟨t1,t2,t3⟩;first|omega|(clear hw;simp_all;done))];exact⟨rfl,hw.done⟩
end
end

/- Tombs: Grown, Shrunk: both sides; agrees. -/
section
open Go.RowKit Go.Ct
def Yp(o:Option (List Pr))(h:Int)(x:Option Addr×Nat):Nd:=match o with|some m=>{Nd.zero with kind:=6,hash:=h,prA:=x.1,prN:=m.length,dF:=x.2}|none=>Nd.zero
def Vy(o:Option (List Pr)):List Pr:=o.getD []
def Kp(o:Option (List Pr))(h:Int)(x:Option Addr×Nat):Nd:=match o with|some m=>if m.length=1 then{Nd.zero with kind:=5,hash:=h,key:=(m.getD 0 (⟨#[]⟩,0)).1,val:=(m.getD 0 (⟨#[]⟩,0)).2} else{Nd.zero with kind:=6,hash:=h,prA:=x.1,prN:=m.length,dF:=x.2}|none=>Nd.zero
def Fl(o:Option (List Pr)):List Pr:=match o with|some m=>if m.length=1 then [] else m|none=>[]
instance (n:Nd) (xs:List Int) (ys:List Pr):Decidable (LV n xs ys):=inferInstanceAs (Decidable (_/\_))
def jR(n:Nd)(xs:List Int)(ys:List Pr)(k:ByteArray)(v:Int):Option (List Pr):=if LV n xs ys/\k.size<=64 then some (Lr ys k v) else none
def oN(n:Nd)(xs:List Int)(ys:List Pr)(k:ByteArray):Option (List Pr):=if LV n xs ys/\(dG ys k).isSome=true then some (qN ys k) else none
def xn(w:World)(o:Option (List Pr))(h:Int)(e:Ending)(w':World):Prop:=∃x:Option Addr×Nat,e=.returned (.tuple #[(Yp o h x).v,.bool o.isSome])/\(Vy o).length<=x.2/\SF w [] [] [] [(x.1,dF (Vy o))] [] w'
def w3(w:World)(o:Option (List Pr))(h:Int)(e:Ending)(w':World):Prop:=∃x:Option Addr×Nat,e=.returned (.tuple #[(Kp o h x).v,.bool o.isSome])/\(Fl o).length<=x.2/\SF w [] [] [] [(x.1,dF (Fl o))] [] w'
section
variable{n s:Nd}{xs:List Int}{ys:List Pr}{w:World}{b:Nat}
theorem O8(k:ByteArray)(v:Int)(hb:n.bm=(b:Int))(hb2:b<18446744073709551616)(hr:qP w n xs ys)(hy:ys.length<=150000000000):Calls Tryz.prog 151 #[n.v,.string k,.int .u64 v] w (xn w (jR n xs ys k v) n.hash):=by
 have e2:=hr.prN
 refine enter Tryz.func151 Tryz.ntmps151 rfl rfl (SF.s1 hr.pr) ?_
 simp only[cP]
 simp only[Nd.v,Nd.cells,e2]
 refine J0 ?_;refine bP (λ x3=>?_);refine aP (λ x6=>?_);refine gP ?_;refine kN ?_;refine aC (c0 (V:=.bool) (hc:=λ w1 hw=>by rw[<- e2];exact Kz (n:=n) hb hb2 (hr.fC hw.done))) (λ x9 h9=>?_);refine C4 ?_
 (refine eF 11 (λ g11=>?_) (λ g11=>?_)<;>refine Ka0 ?_)
 all_goals ((first|refine aH ?_|(refine aF ?_;refine jO ?_));refine Kb5 ?_)
 all_goals
 refine aZ (λ c15=>?_) (λ c15=>?_)
 ·all_goals (refine J0 ?_;refine bD ?_;refine B2 ?_)
  all_goals
   refine bK Tryz.results151 (λ w hw=>?_)
   rw[show jR n xs ys k v=none from if_neg (by rintro ⟨t1,t2⟩;have:=h9.2 t1;clear hw;first|omega|(simp_all;done))];exact⟨(none,0),rfl,Nat.le_refl _,(hw.Iw none).fin⟩
 ·try exact nv c15
  all_goals (refine jM ?_;refine eG [(0,[]),(1,[]),(2,[]),(3,[]),(4,[]),(5,[]),(6,[1]),(7,[]),(8,[]),(9,[])] ?_;refine mB ?_;refine mB ?_;refine gN ?_;refine bC (i:=6) (hq:=(cF (hc:=λ w1 hw=>Xy (l:=ys) k v (hw.cl fin) (by omega)))) (h:=λ x23 h23=>?_);refine jF ?_;refine Aa ?_)
  all_goals
   refine bK Tryz.results151 (λ w hw=>?_)
   rw[show jR n xs ys k v=some (Lr ys k v) from if_pos ⟨h9.1 (by clear hw;simp_all),by omega⟩];exact⟨x23,rfl,h23,hw.fin⟩
theorem Lg(k:ByteArray)(hb:n.bm=(b:Int))(hb2:b<18446744073709551616)(hr:qP w n xs ys)(hy:ys.length<=150000000000):Calls Tryz.prog 155 #[n.v,.string k] w (w3 w (oN n xs ys k) n.hash):=by
 have e2:=hr.prN
 refine enter Tryz.func155 Tryz.ntmps155 rfl rfl (SF.s1 hr.pr) ?_
 simp only[cP]
 simp only[Nd.v,Nd.cells,e2]
 refine J0 ?_;refine bP (λ x2=>?_);refine aP (λ x4=>?_);refine gP ?_;refine gU ?_;refine aB ?_;refine aU (cV (hc:=λ w1 hw=>Hr (l:=ys) k (hw.cl fin) (by omega))) (λ x13=>?_);refine aB ?_;refine aE (bL rf rfl) rfl ?_;refine aE (bL rf rfl) rfl ?_;refine J8 ?_;refine kN ?_;refine aC (c0 (V:=.bool) (hc:=λ w1 hw=>by rw[<- e2];exact Kz (n:=n) hb hb2 (hr.fC hw.done))) (λ x17 h17=>?_);refine C4 ?_
 (refine eF 19 (λ g19=>?_) (λ g19=>?_)<;>refine Ka0 ?_)
 all_goals (refine Rx ?_;refine aI ?_)
 all_goals
 refine aZ (λ c22=>?_) (λ c22=>?_)
 ·all_goals (refine J0 ?_;refine bD ?_;refine B2 ?_)
  all_goals
   refine bK Tryz.results155 (λ w hw=>?_)
   rw[show oN n xs ys k=none from if_neg (by rintro ⟨t1,t2⟩;have:=h17.2 t1;clear hw;simp_all)];exact⟨(none,0),rfl,Nat.le_refl _,(hw.Iw none).fin⟩
 ·try exact nv c22
  all_goals (refine bA ?_;refine gU ?_;refine aB ?_;refine aC (cF (hc:=λ w1 hw=>Tw (l:=ys) k (hw.cl fin) (by omega))) (λ x27 h27=>?_);refine gP ?_;refine J2 ?_;refine dI ?_;refine sX ?_)
  all_goals
   refine aZ (λ c30=>?_) (λ c30=>?_)
   ·refine aR ?_;refine fK [0,1,2,3,4,5,6,7,8,9,10,11,12] ?_;refine mB ?_;refine aS ?_;refine bH (i:=3) (hq:=(yU (k:=0) rf rf fE fX fin (by omega) (by omega))) (h:=?_);refine mB ?_;refine aS ?_;refine bH (i:=7) (hq:=(yU (k:=0) rf rf fE fX fin (by omega) (by omega))) (h:=?_);refine aM ?_;refine bH (i:=9) (hq:=(Mr (q:=0) (lst:=qN ys k) rf gA fin (by omega))) (h:=?_);refine jF ?_;refine Aa ?_
    refine bK Tryz.results155 (λ w hw=>?_)
    have e1:(qN ys k).length=1:=by omega
    rw[show oN n xs ys k=some (qN ys k) from if_pos ⟨h17.1 (by clear hw;simp_all),by clear hw;simp_all⟩];exact⟨(none,0),by simp only[Kp,if_pos e1];rfl,by simp only[Fl,if_pos e1];exact Nat.le_refl _,by simp only[Fl,if_pos e1];exact(hw.Iw none).fin⟩
   ·refine bA ?_;refine gU ?_;refine aB ?_;refine bD ?_;refine B2 ?_
    refine bK Tryz.results155 (λ w hw=>?_)
    have e1:¬(qN ys k).length=1:=by omega
    rw[show oN n xs ys k=some (qN ys k) from if_pos ⟨h17.1 (by clear hw;simp_all),by clear hw;simp_all⟩];exact⟨x27,by simp only[Kp,if_neg e1];rfl,by simp only[Fl,if_neg e1];exact h27,by simp only[Fl,if_neg e1];exact hw.fin⟩
end
end

/- Branches: lists of lists, joined; the C-node of them. -/
end Go.Proofs.YtadnboagdhcedaaGreatDoor
namespace Go.Ct
section
open Go Go.RowKit
section
variable{P:Program}{n:Nat}{S:List (Nat×Value)}
variable{w0 w w':World}{M:List Nat}{H H':List (Nat×Obj)}{A F F':Fr}{O O':List Ow}{G:World->Prop}
variable{d:Nat}{ty:TypeId}{pos:String}{af:Array Edge}{gd:Option (Nat×Bool)}{dst:Option Nat}{x y z:Operand}{t t2 e:TypeId}{p a:Option Addr}{i m k c c2:Nat}
end
end
end Go.Ct
namespace Go.Proofs.YtadnboagdhcedaaGreatDoor
section
open Go Go.RowKit Go.Ct
end

/- Branches: Inserted, Updated, Removed. -/
section
open Go.RowKit Go.Ct
def dr(n:Nd)(xs:List Int)(ys:List Pr)(b:Nat)(i r:Int):Option (Nat×List Int):=if CV n xs ys/\(0<=i/\i<64)/\1<=r/\oC b i=false then some (dH b i,tA xs (pQ b i) r) else none
def dk(n:Nd)(xs:List Int)(ys:List Pr)(b:Nat)(i r:Int):Option (Nat×List Int):=if CV n xs ys/\1<=r/\oC b i=true then some (b,oY xs (pQ b i) r) else none
def dm(n:Nd)(xs:List Int)(ys:List Pr)(b:Nat)(i:Int):Option (Nat×List Int):=if CV n xs ys/\oC b i=true then some (uA b i,qG xs (pQ b i)) else none
def lG(o:Option (Nat×List Int))(x:Option Addr×Nat):Nd:=match o with|some q=>cn q.1 q.2 x|none=>Nd.zero
def kO(o:Option (Nat×List Int)):List Int:=match o with|some q=>q.2|none=>[]
def Uq(w:World)(o:Option (Nat×List Int))(e:Ending)(w':World):Prop:=∃x:Option Addr×Nat,e=.returned (.tuple #[(lG o x).v,.bool o.isSome])/\(kO o).length<=x.2/\SF w [] [] [] [(x.1,aG (kO o))] [] w'
section
variable{n:Nd}{xs:List Int}{ys:List Pr}{w:World}{b:Nat}
end
end

/- Branches: the reference's build, Inserted, Updated, Removed. -/
section
open Go.RowKit Go.Ct
def fI(b:Nat)(xs:List Int)(i:Nat)(r:Int):Nat->Option Int:=Gp (oS b xs) i (if 0<r then some r else none)
theorem mI{m:Nat->Option Int}{k:Nat}{v:Int}(h:m k=some v)(hk:k<64):dH (zF m k) (k:Int)=zF m (k+1)/\oH m k++[v]=oH m (k+1):=by
 simp only[zF,oH,h,dH,Option.isSome_some,if_true,Option.toList,Int.toNat_natCast,and_true]
 exact if_pos (by omega)
theorem mP{m:Nat->Option Int}{k:Nat}(h:m k=none):zF m k=zF m (k+1)/\oH m k=oH m (k+1):=by
 simp[zF,oH,h]
theorem xK(m:Nat->Option Int){k:Nat}(hk:k<=64):zF m k<18446744073709551616:=Nat.lt_of_lt_of_le (Z8 m k) (Nat.pow_le_pow_right (n:=2) (by decide) hk)
theorem Rk(m:Nat->Option Int):∀k,(oH m k).length<=k
 | 0=>Nat.le_refl _
 | k+1=>by have:=Rk m k;simp only[oH,List.length_append];cases m k<;>simp<;>omega
section
variable{n:Nd}{xs:List Int}{ys:List Pr}{w:World}{b:Nat}
theorem Sa(hcv:CV n xs ys){k:Nat}(hk:k<64):Ib n xs ys b (k:Int)=oS b xs k:=by
 unfold Ib oS
 have h1:oC b (k:Int)=b.testBit k:=by rw[xU b (by omega) (by omega),Int.toNat_natCast]
 have h2:pQ b (k:Int)=eM b k:=by unfold pQ;rw[Int.toNat_natCast,Nat.min_eq_left (by omega)]
 rw[h1,h2]
 by_cases h:b.testBit k=true<;>simp[h,hcv]
theorem Cd{i k:Nat}{r:Int}(hcv:CV n xs ys)(hk:k<64)(h:(k:Int)≠(i:Int)):fI b xs i r k=Ib n xs ys b (k:Int):=by
 rw[Sa hcv hk]
 exact if_neg (by omega)
theorem Ce{i k:Nat}{r:Int}(h:(k:Int)=(i:Int)):fI b xs i r k=if 0<r then some r else none:=if_pos (by omega)
theorem Q1{o:Option Int}(h:o.isSome=true):o=some (o.getD 0):=by cases o<;>simp_all
theorem Q9{o:Option Int}(h:o.isSome=false):o=none:=by cases o<;>simp_all
set_option maxHeartbeats 800000 in
theorem Ka(i:Nat)(r:Int)(_hi:i<64)(hcv:CV n xs ys)(hb:n.bm=(b:Int))(hb2:b<18446744073709551616)(hr:qP w n xs ys) :
    Calls Tryz.prog 148 #[n.v,.int .i64 (i:Int),.int .i64 r] w λ e w'=>∃x:Option Addr×Nat,e=.returned (cn (zF (fI b xs i r) 64) (oH (fI b xs i r) 64) x).v/\(oH (fI b xs i r) 64).length<=x.2/\SF w [] [] [] [(x.1,aG (oH (fI b xs i r) 64))] [] w':=by
  have e1:=hr.brN
  refine enter Tryz.func148 Tryz.ntmps148 rfl rfl (SF.s2 hr.br hr.pr) ?_
  simp only[cP]
  simp only[Nd.v,Nd.cells]
  refine J0 ?_;refine bP (λ x3=>?_);refine aP (λ x6=>?_);refine aI ?_;refine J0 ?_;refine bD ?_;refine aP (λ x7=>?_);refine J5 ?_;refine aR ?_;refine Gh ?_
  refine lE [8,9,10,12,13,14,15,16,17,18,19,20,21,22,23,24,25,26,27,28,29,30,31,32,33,34,35,36,37,38,39] (λ y:Nat×Option Addr×Nat=>[(8,.int .i64 ((y.1:Nat):Int))]) (λ y=>y.1<=64/\(oH (fI b xs i r) y.1).length<=y.2.2) (λ y=>[(x7,.cells ⟨[.int .i64 3,.int .i64 0,.int .i64 0,.int .u64 ((zF (fI b xs i r) y.1:Nat):Int),.slice y.2.1 (oH (fI b xs i r) y.1).length y.2.2,.int .u64 0,.string ⟨#[]⟩,.int .u64 0,.slice none 0 0,.int .i64 0,.int .i64 0,.int .i64 0,.int .i64 0,.int .i64 0]⟩ 77),(x6,.cells ⟨Nd.zero.cells⟩ 77),(x3,.cells ⟨n.cells⟩ 77)]) (λ _=>_) (λ y=>[⟨y.2.1,aG (oH (fI b xs i r) y.1),y.2.2,62,1⟩]) (λ y=>64-y.1) ((0,none,0)) (⟨Nat.zero_le _,Nat.le_refl _⟩) (λ y f hx=>?_) (hw0:=λ w hw=>(hw.kT 62 1).back)
  dsimp only[fY,List.map,List.cons_append,List.nil_append]
  have hll:=Rk (fI b xs i r) y.1
  refine kR ?_;refine vV ?_
  refine aZ (λ c13=>?_) (λ c13=>?_)
  · refine oE ?_;refine Bx ?_;refine aU (cV (hc:=λ w1 hw=>mH (n:=n) (y.1:Int) hb hb2 (hr.fC hw.done))) (λ x19=>?_);refine aB ?_;refine aE (jA rf rfl) rfl ?_;refine aE (jA rf rfl) rfl ?_;refine J8 ?_;refine Fz ?_;refine sX ?_
    refine aZ (λ c24=>?_) (λ c24=>?_)
    · refine Kq ?_;refine wE ?_;refine J8 ?_;refine J2 ?_;refine aI ?_
      refine aZ (λ c28=>?_) (λ c28=>?_)
      · first
         | have hm:fI b xs i r y.1=some r:=by rw[Ce c24,if_pos (by omega)]
         | have hm:fI b xs i r y.1=some ((Ib n xs ys b (y.1:Int)).getD 0):=by rw[Cd hcv (by omega) c24];exact Q1 c28
        refine dV [29,30,31,32,33,34,35,36,37,38,39] (λ z:Nat×Option Addr×Nat=>[]) (λ z=>(oH (fI b xs i r) y.1).length+1<=z.2.2) (λ z=>[(x7,.cells ⟨[.int .i64 3,.int .i64 0,.int .i64 0,.int .u64 ((zF (fI b xs i r) (y.1+1):Nat):Int),.slice z.2.1 (oH (fI b xs i r) (y.1+1)).length z.2.2,.int .u64 0,.string ⟨#[]⟩,.int .u64 0,.slice none 0 0,.int .i64 0,.int .i64 0,.int .i64 0,.int .i64 0,.int .i64 0]⟩ 77),(x6,.cells ⟨Nd.zero.cells⟩ 77),(x3,.cells ⟨n.cells⟩ 77)]) (λ z=>[]) (λ z=>[⟨z.2.1,aG (oH (fI b xs i r) (y.1+1)),z.2.2,62,1⟩]) (by decide) (λ _=>by exact rfl) ?_ (λ z f hx=>?_)
        · refine gK (.one 0 [] (.one 1 [] (.one 2 [] (.one 4 [] (.one 5 [] (.one 6 [] (.two 3 [5] (.one 9 [] (.one 7 [1,5] (.one 8 [] (.one 10 [] (.one 11 [] (.one 12 [] .nil)))))) 0 [] (.two 7 [1,5] (.one 3 [5] (.one 9 [] (.one 8 [] (.one 10 [] (.one 11 [] (.one 12 [] .nil)))))) 0 [] .nil)))))))) ?_
          refine mB ?_;refine aS ?_;refine mB ?_;refine aS ?_
          refine gY (E:=[3,7]) (by decide +kernel) ((.cons ?_ (.cons ?_ .nil)))
          · refine Ll (i:=3) (hq:=(cV (hc:=λ w1 hw=>lQ (xK (fI b xs i r) (k:=y.1) (by omega)) (y.1:Int) w1))) (h:=λ x32=>?_)
            refine aM ?_;refine cW (h:=λ x36=>?_);((refine xG (h:=λ x37=>?_);try (refine fW (λ h37=>?_))));refine Pe ?_;refine zG ?_
            refine eO ((0,x37)) ?_ (hw1:=λ w hw=>by obtain⟨k1,k2⟩:=mI hm (by omega);rw[k1,show(oH (fI b xs i r) y.1).length+1=(oH (fI b xs i r) (y.1+1)).length by rw[<- k2];simp,k2] at hw;exact hw.back)
            · exact h37
          · refine xJ (i:=7) (h:=λ x36=>?_)
            refine cX (i:=3) (hq:=(cV (hc:=λ w1 hw=>lQ (xK (fI b xs i r) (k:=y.1) (by omega)) (y.1:Int) w1))) (h:=λ x32=>?_);refine aM ?_;((refine xG (h:=λ x37=>?_);try (refine fW (λ h37=>?_))));refine Pe ?_;refine zG ?_
            refine eO ((0,x37)) ?_ (hw1:=λ w hw=>by obtain⟨k1,k2⟩:=mI hm (by omega);rw[k1,show(oH (fI b xs i r) y.1).length+1=(oH (fI b xs i r) (y.1+1)).length by rw[<- k2];simp,k2] at hw;exact hw.back)
            · exact h37
        dsimp only[fY,List.map,List.cons_append,List.nil_append]
        refine Kd0 ?_
        refine gC ((by exact(y.1+1,z.2))) ?_ (hw1:=λ w hw=>by exact hw.back)
        · first
           | exact⟨by omega,by have k2:=(mI hm (by omega)).2;simp only[];rw[<- k2,List.length_append];exact hx⟩
           | exact⟨by omega,by simp only[];rw[<- (mP hm).2];exact hx.2⟩
      · have hm:fI b xs i r y.1=none:=by
         first
          | (rw[Ce c24,if_neg (by omega)];done)
          | (rw[Cd hcv (by omega) c24];exact Q9 c28)
        refine lM ?_;refine Ab ?_
        refine gC ((by exact(y.1+1,y.2))) ?_ (hw1:=λ w hw=>by(rw[(mP hm).1,(mP hm).2] at hw;exact hw.back))
        · first
           | exact⟨by omega,by have k2:=(mI hm (by omega)).2;simp only[];rw[<- k2,List.length_append];exact hx⟩
           | exact⟨by omega,by simp only[];rw[<- (mP hm).2];exact hx.2⟩
    · refine bA ?_;refine J2 ?_;refine aI ?_
      refine aZ (λ c28=>?_) (λ c28=>?_)
      · first
         | have hm:fI b xs i r y.1=some r:=by rw[Ce c24,if_pos (by omega)]
         | have hm:fI b xs i r y.1=some ((Ib n xs ys b (y.1:Int)).getD 0):=by rw[Cd hcv (by omega) c24];exact Q1 c28
        refine dV [29,30,31,32,33,34,35,36,37,38,39] (λ z:Nat×Option Addr×Nat=>[]) (λ z=>(oH (fI b xs i r) y.1).length+1<=z.2.2) (λ z=>[(x7,.cells ⟨[.int .i64 3,.int .i64 0,.int .i64 0,.int .u64 ((zF (fI b xs i r) (y.1+1):Nat):Int),.slice z.2.1 (oH (fI b xs i r) (y.1+1)).length z.2.2,.int .u64 0,.string ⟨#[]⟩,.int .u64 0,.slice none 0 0,.int .i64 0,.int .i64 0,.int .i64 0,.int .i64 0,.int .i64 0]⟩ 77),(x6,.cells ⟨Nd.zero.cells⟩ 77),(x3,.cells ⟨n.cells⟩ 77)]) (λ z=>[]) (λ z=>[⟨z.2.1,aG (oH (fI b xs i r) (y.1+1)),z.2.2,62,1⟩]) (by decide) (λ _=>by exact rfl) ?_ (λ z f hx=>?_)
        · refine gK (.one 0 [] (.one 1 [] (.one 2 [] (.one 4 [] (.one 5 [] (.one 6 [] (.two 3 [5] (.one 9 [] (.one 7 [1,5] (.one 8 [] (.one 10 [] (.one 11 [] (.one 12 [] .nil)))))) 0 [] (.two 7 [1,5] (.one 3 [5] (.one 9 [] (.one 8 [] (.one 10 [] (.one 11 [] (.one 12 [] .nil)))))) 0 [] .nil)))))))) ?_
          refine mB ?_;refine aS ?_;refine mB ?_;refine aS ?_
          refine gY (E:=[3,7]) (by decide +kernel) ((.cons ?_ (.cons ?_ .nil)))
          · refine Ll (i:=3) (hq:=(cV (hc:=λ w1 hw=>lQ (xK (fI b xs i r) (k:=y.1) (by omega)) (y.1:Int) w1))) (h:=λ x32=>?_)
            refine aM ?_;refine cW (h:=λ x36=>?_);((refine xG (h:=λ x37=>?_);try (refine fW (λ h37=>?_))));refine Pe ?_;refine zG ?_
            refine eO ((0,x37)) ?_ (hw1:=λ w hw=>by obtain⟨k1,k2⟩:=mI hm (by omega);rw[k1,show(oH (fI b xs i r) y.1).length+1=(oH (fI b xs i r) (y.1+1)).length by rw[<- k2];simp,k2] at hw;exact hw.back)
            · exact h37
          · refine xJ (i:=7) (h:=λ x36=>?_)
            refine cX (i:=3) (hq:=(cV (hc:=λ w1 hw=>lQ (xK (fI b xs i r) (k:=y.1) (by omega)) (y.1:Int) w1))) (h:=λ x32=>?_);refine aM ?_;((refine xG (h:=λ x37=>?_);try (refine fW (λ h37=>?_))));refine Pe ?_;refine zG ?_
            refine eO ((0,x37)) ?_ (hw1:=λ w hw=>by obtain⟨k1,k2⟩:=mI hm (by omega);rw[k1,show(oH (fI b xs i r) y.1).length+1=(oH (fI b xs i r) (y.1+1)).length by rw[<- k2];simp,k2] at hw;exact hw.back)
            · exact h37
        dsimp only[fY,List.map,List.cons_append,List.nil_append]
        refine Kd0 ?_
        refine gC ((by exact(y.1+1,z.2))) ?_ (hw1:=λ w hw=>by exact hw.back)
        · first
           | exact⟨by omega,by have k2:=(mI hm (by omega)).2;simp only[];rw[<- k2,List.length_append];exact hx⟩
           | exact⟨by omega,by simp only[];rw[<- (mP hm).2];exact hx.2⟩
      · have hm:fI b xs i r y.1=none:=by
         first
          | (rw[Ce c24,if_neg (by omega)];done)
          | (rw[Cd hcv (by omega) c24];exact Q9 c28)
        refine lM ?_;refine Ab ?_
        refine gC ((by exact(y.1+1,y.2))) ?_ (hw1:=λ w hw=>by(rw[(mP hm).1,(mP hm).2] at hw;exact hw.back))
        · first
           | exact⟨by omega,by have k2:=(mI hm (by omega)).2;simp only[];rw[<- k2,List.length_append];exact hx⟩
           | exact⟨by omega,by simp only[];rw[<- (mP hm).2];exact hx.2⟩
  · refine bI rfl ?_;refine Ka9 ?_
    refine bK Tryz.results148 (λ w hw=>?_)
    have hy:y.1=64:=by omega
    rw[hy] at hw hx ⊢
    generalize zF (fI b xs i r) 64=B at hw ⊢
    generalize oH (fI b xs i r) 64=L at hw hx ⊢
    exact⟨y.2,rfl,hx.2,SF.frz hw.aT⟩
end
end

/- Branches: the reference's Inserted, Updated, Removed. -/
section
open Go.RowKit Go.Ct
theorem of_eq{m:Nat->Option Int}{b:Nat}{xs:List Int}(h:BV b xs/\∀k,k<64->oS b xs k=m k):zF m 64=b/\oH m 64=xs:=by
 obtain⟨h1,h2⟩:=K6 64 λ k hk=>(h.2 k hk).symm
 obtain⟨h3,h4⟩:=Py h.1
 exact⟨h1.trans h3,h2.trans h4⟩
theorem nV{k:Nat}(b:Nat)(hk:k<64):dH b (k:Int)=b ||| 2^k:=by
 unfold dH;rw[if_pos (by omega),Int.toNat_natCast]
theorem qR{k:Nat}(b:Nat)(hk:k<64):uA b (k:Int)=b ^^^ (b &&& 2^k):=by
 unfold uA;rw[if_pos (by omega),Int.toNat_natCast]
theorem mU{k:Nat}(b:Nat)(hk:k<64):pQ b (k:Int)=eM b k:=by
 unfold pQ;rw[Int.toNat_natCast,Nat.min_eq_left (by omega)]
theorem oK{k:Nat}(b:Nat)(hk:k<64):oC b (k:Int)=b.testBit k:=by
 rw[xU b (by omega) (by omega),Int.toNat_natCast]
theorem Vc{b k:Nat}{xs:List Int}{r:Int}(h:BV b xs)(hk:k<64)(hb:oC b (k:Int)=false)(hr:1<=r):zF (fI b xs k r) 64=dH b (k:Int)/\oH (fI b xs k r) 64=tA xs (pQ b (k:Int)) r:=by
 rw[oK b hk] at hb
 rw[nV b hk,mU b hk]
 unfold fI
 rw[if_pos (by omega)]
 exact of_eq (Di h hk hb hr)
theorem Un{b k:Nat}{xs:List Int}{r:Int}(h:BV b xs)(hk:k<64)(hb:oC b (k:Int)=true)(hr:1<=r):zF (fI b xs k r) 64=b/\oH (fI b xs k r) 64=oY xs (pQ b (k:Int)) r:=by
 rw[oK b hk] at hb
 rw[mU b hk]
 unfold fI
 rw[if_pos (by omega)]
 exact of_eq (Px h hk hb hr)
theorem Uc{b k:Nat}{xs:List Int}(h:BV b xs)(hk:k<64)(hb:oC b (k:Int)=true):zF (fI b xs k 0) 64=uA b (k:Int)/\oH (fI b xs k 0) 64=qG xs (pQ b (k:Int)):=by
 rw[oK b hk] at hb
 rw[qR b hk,mU b hk]
 unfold fI
 rw[if_neg (by omega)]
 exact of_eq (N0 h hk hb)
section
variable{n:Nd}{xs:List Int}{ys:List Pr}{w:World}{b:Nat}
theorem yF{i:Int}(h:(Ib n xs ys b i).isSome=true):CV n xs ys/\oC b i=true:=by
 unfold Ib at h
 split at h
 ·assumption
 ·cases h
theorem Ei{i:Int}(h:(Ib n xs ys b i).isSome=false)(hcv:CV n xs ys):oC b i=false:=by
 unfold Ib at h
 split at h
 ·cases h
 ·rename_i hn
  cases hh:oC b i with
  | false=>rfl
  | true=>exact absurd ⟨hcv,hh⟩ hn
theorem Fv(i r:Int)(hb:n.bm=(b:Int))(hb2:b<18446744073709551616)(hr:qP w n xs ys):Calls Tryz.prog 153 #[n.v,.int .i64 i,.int .i64 r] w (Uq w (dr n xs ys b i r)):=by
 refine enter Tryz.func153 Tryz.ntmps153 rfl rfl (SF.s2 hr.br hr.pr) ?_
 simp only[cP]
 simp only[Nd.v,Nd.cells]
 refine J0 ?_;refine bP (λ x3=>?_);refine aP (λ x6=>?_);refine gP ?_;refine Bx ?_;refine aU (cV (hc:=λ w1 hw=>mH (n:=n) i hb hb2 (hr.fC hw.done))) (λ x13=>?_);refine aB ?_;refine aE (jA rf rfl) rfl ?_;refine aE (jA rf rfl) rfl ?_;refine J8 ?_;refine kN ?_;refine aC (c0 (V:=.bool) (hc:=λ w1 hw=>X7 (n:=n) hb hb2 (hr.fC hw.done))) (λ x17 h17=>?_);refine C4 ?_
 (refine eF 19 (λ g19=>?_) (λ g19=>?_)<;>refine Ka0 ?_)
 all_goals (refine Kc1 ?_)
 all_goals (first|refine aH ?_|(refine eF 22 (λ g22=>?_) (λ g22=>?_)<;>refine Ka0 ?_))
 all_goals (refine nj ?_;refine aB ?_)
 all_goals (first|refine aH ?_|(refine eF 26 (λ g26=>?_) (λ g26=>?_)<;>refine Ka0 ?_))
 all_goals (refine Ez ?_;refine aB ?_)
 all_goals (first|refine aH ?_|(refine eF 30 (λ g30=>?_) (λ g30=>?_)<;>refine Ka0 ?_))
 all_goals (refine nj ?_;refine aI ?_)
 all_goals
 refine aZ (λ c33=>?_) (λ c33=>?_)
 ·all_goals (refine J0 ?_;refine bD ?_;refine B2 ?_)
  all_goals
   refine bK Tryz.results153 (λ w hw=>?_)
   rw[show dr n xs ys b i r=none from if_neg (by rintro ⟨k1,⟨k2,k3⟩,k4,k5⟩;clear hw;first|omega|exact absurd (yF g22).2 (by simp[k5])|exact absurd (h17.2 k1) (by simp_all))];exact⟨(none,0),rfl,Nat.le_refl _,(hw.Iw none).fin⟩
 ·try exact nv c33
  all_goals
   have hcv:=h17.1 (by simpa using g19)
   have hh:=Ei g22 hcv
   obtain⟨k,rfl⟩:=Int.eq_ofNat_of_zero_le (show 0<=i by omega)
   have hk:=Vc (hcv.bv hb hb2) (k:=k) (by omega) hh (r:=r) (by omega)
  all_goals (refine bA ?_;refine kN ?_;refine nX ?_;refine aC (cF (hc:=λ w1 hw=>by have:=Ka (w:=w1) k r (by omega) hcv hb hb2 (hr.fC hw.done);rw[hk.1,hk.2] at this;exact this)) (λ x38 h38=>?_);refine B2 ?_)
  all_goals
   refine bK Tryz.results153 (λ w hw=>?_)
   rw[show dr n xs ys b (k:Int) r=some (dH b (k:Int),tA xs (pQ b (k:Int)) r) from if_pos ⟨hcv,⟨by omega,by omega⟩,by omega,hh⟩];exact⟨x38,rfl,h38,hw.fin⟩
theorem Jd(i r:Int)(hb:n.bm=(b:Int))(hb2:b<18446744073709551616)(hr:qP w n xs ys):Calls Tryz.prog 118 #[n.v,.int .i64 i,.int .i64 r] w (Uq w (dk n xs ys b i r)):=by
 refine enter Tryz.func118 Tryz.ntmps118 rfl rfl (SF.s2 hr.br hr.pr) ?_
 simp only[cP]
 simp only[Nd.v,Nd.cells]
 refine J0 ?_;refine bP (λ x3=>?_);refine aP (λ x6=>?_);refine gP ?_;refine Bx ?_;refine aU (cV (hc:=λ w1 hw=>mH (n:=n) i hb hb2 (hr.fC hw.done))) (λ x13=>?_);refine aB ?_;refine aE (jA rf rfl) rfl ?_;refine aE (jA rf rfl) rfl ?_;refine J8 ?_;refine J2 ?_;refine C4 ?_
 (refine eF 18 (λ g18=>?_) (λ g18=>?_)<;>refine Ka0 ?_)
 all_goals (refine nj ?_;refine aI ?_)
 all_goals
 refine aZ (λ c21=>?_) (λ c21=>?_)
 ·all_goals (refine J0 ?_;refine bD ?_;refine B2 ?_)
  all_goals
   refine bK Tryz.results118 (λ w hw=>?_)
   rw[show dk n xs ys b i r=none from if_neg (by rintro ⟨k1,k4,k5⟩;clear hw;first|omega|exact absurd (Ei (by simpa using g18) k1) (by simp[k5]))];exact⟨(none,0),rfl,Nat.le_refl _,(hw.Iw none).fin⟩
 ·try exact nv c21
  all_goals
   have hc:=yF (by simpa using g18)
   have hcv:=hc.1
   have hh:=hc.2
   obtain⟨q1,q2,_,_⟩:=qE hh
   obtain⟨k,rfl⟩:=Int.eq_ofNat_of_zero_le q1
   have hk:=Un (hcv.bv hb hb2) (k:=k) (by omega) hh (r:=r) (by omega)
  all_goals (refine bA ?_;refine kN ?_;refine nX ?_;refine aC (cF (hc:=λ w1 hw=>by have:=Ka (w:=w1) k r (by omega) hcv hb hb2 (hr.fC hw.done);rw[hk.1,hk.2] at this;exact this)) (λ x26 h26=>?_);refine B2 ?_)
  all_goals
   refine bK Tryz.results118 (λ w hw=>?_)
   rw[show dk n xs ys b (k:Int) r=some (b,oY xs (pQ b (k:Int)) r) from if_pos ⟨hcv,by omega,hh⟩];exact⟨x26,rfl,h26,hw.fin⟩
theorem Jm(i:Int)(hb:n.bm=(b:Int))(hb2:b<18446744073709551616)(hr:qP w n xs ys):Calls Tryz.prog 156 #[n.v,.int .i64 i] w (Uq w (dm n xs ys b i)):=by
 refine enter Tryz.func156 Tryz.ntmps156 rfl rfl (SF.s2 hr.br hr.pr) ?_
 simp only[cP]
 simp only[Nd.v,Nd.cells]
 refine J0 ?_;refine bP (λ x2=>?_);refine aP (λ x4=>?_);refine gP ?_;refine Bx ?_;refine aU (cV (hc:=λ w1 hw=>mH (n:=n) i hb hb2 (hr.fC hw.done))) (λ x11=>?_);refine aB ?_;refine aE (jA rf rfl) rfl ?_;refine aE (jA rf rfl) rfl ?_;refine J8 ?_;refine J2 ?_;refine mS ?_
 refine aZ (λ c15=>?_) (λ c15=>?_)
 ·refine J0 ?_;refine bD ?_;refine B2 ?_
  refine bK Tryz.results156 (λ w hw=>?_)
  rw[show dm n xs ys b i=none from if_neg (by rintro ⟨k1,k5⟩;clear hw;exact absurd (Ei c15 k1) (by simp[k5]))];exact⟨(none,0),rfl,Nat.le_refl _,(hw.Iw none).fin⟩
 ·have hc:=yF c15
  have hcv:=hc.1
  have hh:=hc.2
  obtain⟨q1,q2,_,_⟩:=qE hh
  obtain⟨k,rfl⟩:=Int.eq_ofNat_of_zero_le q1
  have hk:=Uc (hcv.bv hb hb2) (k:=k) (by omega) hh
  refine bA ?_;refine Bx ?_;refine aC (cF (hc:=λ w1 hw=>by have:=Ka (w:=w1) k 0 (by omega) hcv hb hb2 (hr.fC hw.done);rw[hk.1,hk.2] at this;exact this)) (λ x19 h19=>?_);refine B2 ?_
  refine bK Tryz.results156 (λ w hw=>?_)
  rw[show dm n xs ys b (k:Int)=some (uA b (k:Int),qG xs (pQ b (k:Int))) from if_pos ⟨hcv,hh⟩];exact⟨x19,rfl,h19,hw.fin⟩
end
end

end Go.Proofs.YtadnboagdhcedaaGreatDoor

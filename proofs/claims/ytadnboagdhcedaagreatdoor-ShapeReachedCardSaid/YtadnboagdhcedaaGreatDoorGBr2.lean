/- Branches: what Lookup and Sole compute. -/
import Derived.Test.YtadnboagdhcedaaGreatDoorGPaX
import Derived.Test.YtadnboagdhcedaaGreatDoorGAr5
import Derived.Test.YtadnboagdhcedaaGreatDoorGNode2
import Derived.Test.YtadnboagdhcedaaGreatDoorGBits
import Derived.Test.YtadnboagdhcedaaGreatDoorGJoin

set_option linter.unusedSimpArgs false
set_option linter.unusedVariables false
namespace Go.Ct
section
open Go Go.RowKit
end
end Go.Ct
namespace Go.Proofs.YtadnboagdhcedaaGreatDoor
section
open Go.RowKit Go.Ct
def CV(n:Nd)(xs:List Int)(ys:List Pr):Prop:=n.kind=3/\bY n xs ys
theorem CV.bv{n:Nd}{xs:List Int}{ys:List Pr}{b:Nat}(h:CV n xs ys)(hb:n.bm=(b:Int))(hb2:b<18446744073709551616):BV b xs:=by
 obtain⟨h1,h2⟩:=oL h.1 h.2
 rw[hb,oC hb2] at h1
 exact⟨hb2,by omega,h2⟩
instance (n:Nd) (ys:List Pr):Decidable (ys=n.fG ys):=if h:(n.kind==6)=true then isTrue (by unfold Nd.fG;rw[if_pos h]) else decidable_of_iff (ys=[]) (by unfold Nd.fG;rw[if_neg h])
instance (n:Nd) (xs:List Int) (ys:List Pr):Decidable (pP n n.own xs (n.fO xs) ys (n.fG ys)):=inferInstanceAs (Decidable (n.kind=n.own.kind/\n.gen=n.own.gen/\n.main=n.own.main/\n.bm=n.own.bm/\xs=n.fO xs/\n.hash=n.own.hash/\n.key=n.own.key/\n.val=n.own.val/\ys=n.fG ys/\n.prev=n.own.prev/\n.bM=n.own.bM/\n.exp=n.own.exp/\n.new=n.own.new/\n.status=n.own.status))
instance (l:List Int):Decidable (Pos l):=inferInstanceAs (Decidable (∀i,i<l.length->1<=l.getD i 0))
instance (l:List Pr):Decidable (Bf l):=inferInstanceAs (Decidable (∀i,i<l.length->(l.getD i (⟨#[]⟩,0)).1.size<=64))
instance (l:List Pr):Decidable (kr l):=decidable_of_iff (∀i,i<l.length->1<=i->cZ (l.getD (i-1) (⟨#[]⟩,0)).1 (l.getD i (⟨#[]⟩,0)).1=true) ⟨λ h i a b=>h i b a,λ h i a b=>h i b a⟩
instance (n:Nd) (xs:List Int) (ys:List Pr):Decidable (bY n xs ys):=inferInstanceAs (Decidable (_/\_))
instance (n:Nd) (xs:List Int) (ys:List Pr):Decidable (CV n xs ys):=inferInstanceAs (Decidable (_/\_))
def Jk(n:Nd)(xs:List Int)(ys:List Pr)(b:Nat)(i:Int):Option Int:=if CV n xs ys/\oI b i=true then some (xs.getD (pW b i) 0) else none
def Yd(n:Nd)(xs:List Int)(ys:List Pr):Option Int:=if CV n xs ys/\xs.length=1 then some (xs.getD 0 0) else none
theorem qB{b:Nat}{i:Int}(h:oI b i=true):0<=i/\i<64/\b.testBit i.toNat=true/\pW b i=eM b i.toNat:=by
 simp only[oI,Bool.and_eq_true,decide_eq_true_eq] at h
 exact⟨h.1,h.2.1,h.2.2,by unfold pW;congr 1;omega⟩
theorem w4{b:Nat}{xs:List Int}(h:BV b xs){i:Int}(hh:oI b i=true):pW b i<xs.length:=by
 obtain⟨h1,h2,h3,h4⟩:=qB hh
 rw[h4,h.len]
 exact nK (by omega) h3
section
variable{n:Nd}{xs:List Int}{ys:List Pr}{w:World}{b:Nat}
theorem Z8(hb:n.bm=(b:Int))(hb2:b<18446744073709551616)(hr:qQ w n xs ys):Calls Tryz.prog 146 #[n.v] w λ e w'=>∃r:Bool,e=.returned (.bool r)/\(r=true↔CV n xs ys)/\St w [] [] w':=by
 refine enter Tryz.func146 Tryz.ntmps146 rfl rfl (SF.s0 w) ?_
 simp only[cO]
 simp only[Nd.v,Nd.cells]
 refine J0 ?_;refine bQ (λ x1=>?_);refine J1 ?_;refine gU ?_;refine lJ ?_;refine aB ?_
 (refine eF 6 (λ g6=>?_) (λ g6=>?_)<;>refine Ka2 ?_)
 all_goals ((first|refine aH ?_|(refine aF ?_;refine aC (c0 (V:=.bool) (hc:=λ w1 hw=>Ei (n:=n) hb hb2 (hr.fE hw.done))) (λ x8 h8=>?_)));refine Kc9 ?_)
 all_goals
 refine aQ Tryz.results146 (λ w hw=>?_)
 refine⟨_,rfl,?_,hw.done⟩
 simp_all[CV]
theorem mL(i:Int)(hb:n.bm=(b:Int))(hb2:b<18446744073709551616)(hr:qQ w n xs ys):Calls Tryz.prog 115 #[n.v,.int .i64 i] w λ e w'=>e=.returned (.tuple #[.int .i64 ((Jk n xs ys b i).getD 0),.bool (Jk n xs ys b i).isSome])/\St w [] [] w':=by
 have e1:=hr.brN
 refine enter Tryz.func115 Tryz.ntmps115 rfl rfl (SF.s2 hr.br hr.pr) ?_
 simp only[cO]
 simp only[Nd.v,Nd.cells,hb,e1]
 refine J0 ?_;refine bQ (λ x2=>?_);refine J8 ?_;refine aR ?_;refine kV ?_;refine aC (c0 (V:=.bool) (hc:=λ w1 hw=>by rw[<- e1,<- hb];exact Z8 (n:=n) hb hb2 (hr.fE hw.done))) (λ x7 h7=>?_);refine E8 ?_
 (refine eF 9 (λ g9=>?_) (λ g9=>?_)<;>refine Ka1 ?_)
 all_goals (refine ng ?_;(first|refine aH ?_|(refine aF ?_;refine aT (cV (hc:=λ w1 hw=>Nl hb2 i w1)) (λ x13=>?_)));refine Rb ?_;refine aI ?_)
 all_goals
 refine aZ (λ c15=>?_) (λ c15=>?_)
 ·all_goals refine Gc ?_
  all_goals
   refine bK Tryz.results115 (λ w hw=>?_)
   rw[show Jk n xs ys b i=none from if_neg (by simp_all)];exact⟨rfl,hw.done⟩
 ·try exact nv c15
  all_goals
   have hcv:CV n xs ys:=h7.1 (by simpa using g9)
   have hpl:=w4 (hcv.bv hb hb2) c15
  all_goals (refine jM ?_;refine eG [(0,[]),(1,[]),(2,[]),(3,[]),(4,[]),(5,[1]),(6,[]),(7,[]),(8,[]),(9,[])] ?_;refine mF ?_;refine mF ?_;refine aU ?_;refine cY (i:=5) (hq:=(cV (hc:=λ w1 hw=>Ly hb2 i w1))) (h:=λ x21=>?_);refine Qs ?_;refine dh ?_)
  all_goals
   refine bK Tryz.results115 (λ w hw=>?_)
   rw[show Jk n xs ys b i=some (xs.getD (pW b i) 0) from if_pos ⟨hcv,c15⟩];exact⟨rfl,hw.done⟩
theorem Hd(hb:n.bm=(b:Int))(hb2:b<18446744073709551616)(hr:qQ w n xs ys):Calls Tryz.prog 149 #[n.v] w λ e w'=>e=.returned (.tuple #[.int .i64 ((Yd n xs ys).getD 0),.bool (Yd n xs ys).isSome])/\St w [] [] w':=by
 have e1:=hr.brN
 refine enter Tryz.func149 Tryz.ntmps149 rfl rfl (SF.s2 hr.br hr.pr) ?_
 simp only[cO]
 simp only[Nd.v,Nd.cells,e1]
 refine J0 ?_;refine bQ (λ x1=>?_);refine J8 ?_;refine aR ?_;refine kV ?_;refine aC (c0 (V:=.bool) (hc:=λ w1 hw=>by rw[<- e1];exact Z8 (n:=n) hb hb2 (hr.fE hw.done))) (λ x5 h5=>?_);refine E8 ?_
 (refine eF 7 (λ g7=>?_) (λ g7=>?_)<;>refine Ka1 ?_)
 all_goals (refine Ka2 ?_;(first|refine aH ?_|(refine aF ?_;refine dE ?_));refine Ut ?_;refine aI ?_)
 all_goals
 refine aZ (λ c12=>?_) (λ c12=>?_)
 ·all_goals refine Gc ?_
  all_goals
   refine bK Tryz.results149 (λ w hw=>?_)
   rw[show Yd n xs ys=none from if_neg (by simp_all;try omega)];exact⟨rfl,hw.done⟩
 ·try exact nv c12
  all_goals
   have hcv:CV n xs ys:=h5.1 (by simpa using g7)
   have hl1:xs.length=1:=by omega
  all_goals (refine bA ?_;refine gU ?_;refine aE (cA (k:=0) rf rf fC gB fin (by omega) (by omega)) rfl ?_;refine bN ?_;refine J8 ?_)
  all_goals
   refine bK Tryz.results149 (λ w hw=>?_)
   rw[show Yd n xs ys=some (xs.getD 0 0) from if_pos ⟨hcv,hl1⟩];exact⟨rfl,hw.done⟩
end
end

/- Branches: a C-node of a bitmap and a list. -/
section
open Go.RowKit Go.Ct
def cn(b:Nat)(xs:List Int)(x:Option Addr×Nat):Nd:={Nd.zero with kind:=3,bm:=(b:Int),brA:=x.1,brN:=xs.length,brC:=x.2}
theorem yo{b:Nat}{xs:List Int}(h:BV b xs)(x:Option Addr×Nat){p:Int}(hp:0<=p):CV {cn b xs x with prev:=p} xs [] :=
 ⟨rfl,by simp[pP,Nd.own,Nd.fO,Nd.fG,cn],by simp[cn,Nd.zero],hp,by simp[cn,Nd.zero],.inr (.inr (.inl ⟨rfl,by show(xs.length:Int)=wD (b:Int);rw[oC h.lt,h.len],h.pos⟩))⟩
theorem r9{b:Nat}{xs:List Int}(h:BV b xs)(x:Option Addr×Nat):CV (cn b xs x) xs []:=yo h x (p:=0) (Int.le_refl _)
end

/- Tombs: Untombed, Contracted, Grown, Shrunk: both sides. -/
section
open Go.RowKit Go.Ct
def tmb(s:Nd):Nd:={Nd.zero with kind:=5,hash:=s.hash,key:=s.key,val:=s.val}
def D3(n:Nd):Nd:=if n.kind=5 then{Nd.zero with kind:=4,hash:=n.hash,key:=n.key,val:=n.val} else Nd.zero
theorem F6(n:Nd)(w:World):Calls Tryz.prog 117 #[n.v] w λ e w'=>e=.returned (.tuple #[(D3 n).v,.bool (decide (n.kind=5))])/\St w [] [] w':=by
 refine enter Tryz.func117 Tryz.ntmps117 rfl rfl (SF.s0 w) ?_
 simp only[cO]
 simp only[Nd.v,Nd.cells]
 refine J0 ?_;refine bQ (λ x1=>?_);refine aN (λ x2=>?_);refine gQ ?_;refine gU ?_;refine Kc0 ?_
 refine aZ (λ c6=>?_) (λ c6=>?_)
 ·refine J0 ?_;refine bG ?_;refine B5 ?_
  refine bK Tryz.results117 (λ w hw=>?_)
  exact⟨by rw[show D3 n=Nd.zero from if_neg (by assumption),decide_eq_false (by assumption)];rfl,hw.done⟩
 ·refine bA ?_;refine gU ?_;refine Kc7 ?_;refine bG ?_;refine B5 ?_
  refine bK Tryz.results117 (λ w hw=>?_)
  exact⟨by rw[show D3 n={Nd.zero with kind:=4,hash:=n.hash,key:=n.key,val:=n.val} from if_pos (by omega),decide_eq_true (by omega)];rfl,hw.done⟩
section
variable{n s:Nd}{xs:List Int}{ys:List Pr}{w:World}{b:Nat}
def LV(n:Nd)(xs:List Int)(ys:List Pr):Prop:=n.kind=6/\bY n xs ys
theorem Nb(hb:n.bm=(b:Int))(hb2:b<18446744073709551616)(hr:qQ w n xs ys):Calls Tryz.prog 165 #[n.v] w λ e w'=>∃r:Bool,e=.returned (.bool r)/\(r=true↔LV n xs ys)/\St w [] [] w':=by
 refine enter Tryz.func165 Tryz.ntmps165 rfl rfl (SF.s0 w) ?_
 simp only[cO]
 simp only[Nd.v,Nd.cells]
 refine J0 ?_;refine bQ (λ x1=>?_);refine J1 ?_;refine gU ?_;refine lJ ?_;refine aB ?_
 (refine eF 6 (λ g6=>?_) (λ g6=>?_)<;>refine Ka2 ?_)
 all_goals ((first|refine aH ?_|(refine aF ?_;refine aC (c0 (V:=.bool) (hc:=λ w1 hw=>Ei (n:=n) hb hb2 (hr.fE hw.done))) (λ x8 h8=>?_)));refine Kc9 ?_)
 all_goals
 refine aQ Tryz.results165 (λ w hw=>?_)
 refine⟨_,rfl,?_,hw.done⟩
 simp_all[LV]
open Classical in
def Nw(n:Nd)(xs:List Int)(ys:List Pr)(level:Int)(s:Nd):Bool:=decide ((Yd n xs ys).isSome=true/\0<level/\s.kind=4)
def pa(t:Bool)(n s:Nd):Nd:=if t=true then tmb s else n
def db{α:Type}(t:Bool)(l:List α):List α:=if t=true then [] else l
theorem B8(level:Int)(s:Nd)(hb:n.bm=(b:Int))(hb2:b<18446744073709551616)(hr:qQ w n xs ys):Calls Tryz.prog 119 #[n.v,.int .i64 level,s.v] w λ e w'=>e=.returned (pa (Nw n xs ys level s) n s).v/\St w [] [] w':=by
 refine enter Tryz.func119 Tryz.ntmps119 rfl rfl (SF.s0 w) ?_
 simp only[cO]
 simp only[Nd.v,Nd.cells]
 refine J0 ?_;refine bQ (λ x3=>?_);refine bQ (λ x5=>?_);refine aN (λ x6=>?_);refine Sx ?_;refine kV ?_;refine aT (cV (hc:=λ w1 hw=>Hd (n:=n) hb hb2 (hr.fE hw.done))) (λ x11=>?_);refine aB ?_;refine aE (bL rf rfl) rfl ?_;refine aE (bL rf rfl) rfl ?_;refine J8 ?_;refine iR ?_
 (refine eF 15 (λ g15=>?_) (λ g15=>?_)<;>refine Ka0 ?_)
 all_goals (refine Fs ?_;refine aB ?_)
 all_goals (first|refine aH ?_|(refine eF 19 (λ g19=>?_) (λ g19=>?_)<;>refine Ka1 ?_))
 all_goals (refine o0 ?_;refine aI ?_)
 all_goals
 refine aZ (λ c23=>?_) (λ c23=>?_)
 ·try exact nv c23
  all_goals (refine gU ?_;refine Kc7 ?_;refine As ?_)
  all_goals
   refine bK Tryz.results119 (λ w hw=>?_)
   rw[show Nw n xs ys level s=true from decide_eq_true ⟨by assumption,by omega,by omega⟩];exact⟨rfl,hw.done⟩
 ·all_goals (refine bA ?_;refine Ka9 ?_)
  all_goals
   refine bK Tryz.results119 (λ w hw=>?_)
   rw[show Nw n xs ys level s=false from decide_eq_false (by rintro ⟨t1,t2,t3⟩;first|omega|(clear hw;simp_all;done))];exact⟨rfl,hw.done⟩
end
end

/- Tombs: Grown, Shrunk: both sides; agrees. -/
section
open Go.RowKit Go.Ct
def Xx(o:Option (List Pr))(h:Int)(x:Option Addr×Nat):Nd:=match o with|some m=>{Nd.zero with kind:=6,hash:=h,prA:=x.1,prN:=m.length,dG:=x.2}|none=>Nd.zero
def Vx(o:Option (List Pr)):List Pr:=o.getD []
def Ko(o:Option (List Pr))(h:Int)(x:Option Addr×Nat):Nd:=match o with|some m=>if m.length=1 then{Nd.zero with kind:=5,hash:=h,key:=(m.getD 0 (⟨#[]⟩,0)).1,val:=(m.getD 0 (⟨#[]⟩,0)).2} else{Nd.zero with kind:=6,hash:=h,prA:=x.1,prN:=m.length,dG:=x.2}|none=>Nd.zero
def Fw(o:Option (List Pr)):List Pr:=match o with|some m=>if m.length=1 then [] else m|none=>[]
instance (n:Nd) (xs:List Int) (ys:List Pr):Decidable (LV n xs ys):=inferInstanceAs (Decidable (_/\_))
def jT(n:Nd)(xs:List Int)(ys:List Pr)(k:ByteArray)(v:Int):Option (List Pr):=if LV n xs ys/\k.size<=64 then some (Ma ys k v) else none
def oP(n:Nd)(xs:List Int)(ys:List Pr)(k:ByteArray):Option (List Pr):=if LV n xs ys/\(dH ys k).isSome=true then some (qD ys k) else none
def wo(w:World)(o:Option (List Pr))(h:Int)(e:Ending)(w':World):Prop:=∃x:Option Addr×Nat,e=.returned (.tuple #[(Xx o h x).v,.bool o.isSome])/\(Vx o).length<=x.2/\SF w [] [] [] [(x.1,dG (Vx o))] [] w'
def xl(w:World)(o:Option (List Pr))(h:Int)(e:Ending)(w':World):Prop:=∃x:Option Addr×Nat,e=.returned (.tuple #[(Ko o h x).v,.bool o.isSome])/\(Fw o).length<=x.2/\SF w [] [] [] [(x.1,dG (Fw o))] [] w'
section
variable{n s:Nd}{xs:List Int}{ys:List Pr}{w:World}{b:Nat}
theorem Qe(k:ByteArray)(v:Int)(hb:n.bm=(b:Int))(hb2:b<18446744073709551616)(hr:qQ w n xs ys)(hy:ys.length<=150000000000):Calls Tryz.prog 151 #[n.v,.string k,.int .u64 v] w (wo w (jT n xs ys k v) n.hash):=by
 have e2:=hr.prN
 refine enter Tryz.func151 Tryz.ntmps151 rfl rfl (SF.s1 hr.pr) ?_
 simp only[cO]
 simp only[Nd.v,Nd.cells,e2]
 refine J0 ?_;refine bQ (λ x3=>?_);refine aN (λ x6=>?_);refine gQ ?_;refine kV ?_;refine aC (c0 (V:=.bool) (hc:=λ w1 hw=>by rw[<- e2];exact Nb (n:=n) hb hb2 (hr.fE hw.done))) (λ x9 h9=>?_);refine E8 ?_
 (refine eF 11 (λ g11=>?_) (λ g11=>?_)<;>refine Ka0 ?_)
 all_goals ((first|refine aH ?_|(refine aF ?_;refine jR ?_));refine Kb9 ?_)
 all_goals
 refine aZ (λ c15=>?_) (λ c15=>?_)
 ·all_goals (refine J0 ?_;refine bG ?_;refine B5 ?_)
  all_goals
   refine bK Tryz.results151 (λ w hw=>?_)
   rw[show jT n xs ys k v=none from if_neg (by rintro ⟨t1,t2⟩;have:=h9.2 t1;clear hw;first|omega|(simp_all;done))];exact⟨(none,0),rfl,Nat.le_refl _,(hw.Ii none).fin⟩
 ·try exact nv c15
  all_goals (refine jM ?_;refine eG [(0,[]),(1,[]),(2,[]),(3,[]),(4,[]),(5,[]),(6,[1]),(7,[]),(8,[]),(9,[])] ?_;refine mF ?_;refine mF ?_;refine gP ?_;refine bC (i:=6) (hq:=(cF (hc:=λ w1 hw=>W7 (l:=ys) k v (hw.cl fin) (by omega)))) (h:=λ x23 h23=>?_);refine jC ?_;refine Ag ?_)
  all_goals
   refine bK Tryz.results151 (λ w hw=>?_)
   rw[show jT n xs ys k v=some (Ma ys k v) from if_pos ⟨h9.1 (by clear hw;simp_all),by omega⟩];exact⟨x23,rfl,h23,hw.fin⟩
theorem L9(k:ByteArray)(hb:n.bm=(b:Int))(hb2:b<18446744073709551616)(hr:qQ w n xs ys)(hy:ys.length<=150000000000):Calls Tryz.prog 155 #[n.v,.string k] w (xl w (oP n xs ys k) n.hash):=by
 have e2:=hr.prN
 refine enter Tryz.func155 Tryz.ntmps155 rfl rfl (SF.s1 hr.pr) ?_
 simp only[cO]
 simp only[Nd.v,Nd.cells,e2]
 refine J0 ?_;refine bQ (λ x2=>?_);refine aN (λ x4=>?_);refine gQ ?_;refine gU ?_;refine aB ?_;refine aT (cV (hc:=λ w1 hw=>H5 (l:=ys) k (hw.cl fin) (by omega))) (λ x13=>?_);refine aB ?_;refine aE (bL rf rfl) rfl ?_;refine aE (bL rf rfl) rfl ?_;refine J8 ?_;refine kV ?_;refine aC (c0 (V:=.bool) (hc:=λ w1 hw=>by rw[<- e2];exact Nb (n:=n) hb hb2 (hr.fE hw.done))) (λ x17 h17=>?_);refine E8 ?_
 (refine eF 19 (λ g19=>?_) (λ g19=>?_)<;>refine Ka0 ?_)
 all_goals (refine Rb ?_;refine aI ?_)
 all_goals
 refine aZ (λ c22=>?_) (λ c22=>?_)
 ·all_goals (refine J0 ?_;refine bG ?_;refine B5 ?_)
  all_goals
   refine bK Tryz.results155 (λ w hw=>?_)
   rw[show oP n xs ys k=none from if_neg (by rintro ⟨t1,t2⟩;have:=h17.2 t1;clear hw;simp_all)];exact⟨(none,0),rfl,Nat.le_refl _,(hw.Ii none).fin⟩
 ·try exact nv c22
  all_goals (refine bA ?_;refine gU ?_;refine aB ?_;refine aC (cF (hc:=λ w1 hw=>U0 (l:=ys) k (hw.cl fin) (by omega))) (λ x27 h27=>?_);refine gQ ?_;refine J2 ?_;refine dE ?_;refine sX ?_)
  all_goals
   refine aZ (λ c30=>?_) (λ c30=>?_)
   ·refine aR ?_;refine fJ [0,1,2,3,4,5,6,7,8,9,10,11,12] ?_;refine mF ?_;refine aU ?_;refine bJ (i:=3) (hq:=(xR (k:=0) rf rf fC fX fin (by omega) (by omega))) (h:=?_);refine mF ?_;refine aU ?_;refine bJ (i:=7) (hq:=(xR (k:=0) rf rf fC fX fin (by omega) (by omega))) (h:=?_);refine aP ?_;refine bJ (i:=9) (hq:=(Mx (q:=0) (lst:=qD ys k) rf gB fin (by omega))) (h:=?_);refine jC ?_;refine Ag ?_
    refine bK Tryz.results155 (λ w hw=>?_)
    have e1:(qD ys k).length=1:=by omega
    rw[show oP n xs ys k=some (qD ys k) from if_pos ⟨h17.1 (by clear hw;simp_all),by clear hw;simp_all⟩];exact⟨(none,0),by simp only[Ko,if_pos e1];rfl,by simp only[Fw,if_pos e1];exact Nat.le_refl _,by simp only[Fw,if_pos e1];exact(hw.Ii none).fin⟩
   ·refine bA ?_;refine gU ?_;refine aB ?_;refine bG ?_;refine B5 ?_
    refine bK Tryz.results155 (λ w hw=>?_)
    have e1:¬(qD ys k).length=1:=by omega
    rw[show oP n xs ys k=some (qD ys k) from if_pos ⟨h17.1 (by clear hw;simp_all),by clear hw;simp_all⟩];exact⟨x27,by simp only[Ko,if_neg e1];rfl,by simp only[Fw,if_neg e1];exact h27,by simp only[Fw,if_neg e1];exact hw.fin⟩
end
end

/- Branches: lists of lists, joined; the C-node of them. -/
end Go.Proofs.YtadnboagdhcedaaGreatDoor
namespace Go.Ct
section
open Go Go.RowKit
section
variable{P:Program}{n:Nat}{S:List (Nat×Value)}
variable{w0 w w':World}{M:List Nat}{H H':List (Nat×Obj)}{A F F':Fr}{O O':List Ow}{G:World->Prop}
variable{d:Nat}{ty:TypeId}{pos:String}{af:Array Edge}{gd:Option (Nat×Bool)}{dst:Option Nat}{x y z:Operand}{t t2 e:TypeId}{p a:Option Addr}{i m k c c2:Nat}
end
end
end Go.Ct
namespace Go.Proofs.YtadnboagdhcedaaGreatDoor
section
open Go Go.RowKit Go.Ct
end

/- Branches: Inserted, Updated, Removed. -/
section
open Go.RowKit Go.Ct
def de(n:Nd)(xs:List Int)(ys:List Pr)(b:Nat)(i r:Int):Option (Nat×List Int):=if CV n xs ys/\(0<=i/\i<64)/\1<=r/\oI b i=false then some (dI b i,uL xs (pW b i) r) else none
def cy(n:Nd)(xs:List Int)(ys:List Pr)(b:Nat)(i r:Int):Option (Nat×List Int):=if CV n xs ys/\1<=r/\oI b i=true then some (b,oZ xs (pW b i) r) else none
def cx(n:Nd)(xs:List Int)(ys:List Pr)(b:Nat)(i:Int):Option (Nat×List Int):=if CV n xs ys/\oI b i=true then some (tW b i,qN xs (pW b i)) else none
def lI(o:Option (Nat×List Int))(x:Option Addr×Nat):Nd:=match o with|some q=>cn q.1 q.2 x|none=>Nd.zero
def lD(o:Option (Nat×List Int)):List Int:=match o with|some q=>q.2|none=>[]
def Tg(w:World)(o:Option (Nat×List Int))(e:Ending)(w':World):Prop:=∃x:Option Addr×Nat,e=.returned (.tuple #[(lI o x).v,.bool o.isSome])/\(lD o).length<=x.2/\SF w [] [] [] [(x.1,aG (lD o))] [] w'
section
variable{n:Nd}{xs:List Int}{ys:List Pr}{w:World}{b:Nat}
end
end

/- Branches: the reference's build, Inserted, Updated, Removed. -/
section
open Go.RowKit Go.Ct
def fL(b:Nat)(xs:List Int)(i:Nat)(r:Int):Nat->Option Int:=Gq (oQ b xs) i (if 0<r then some r else none)
theorem mY{m:Nat->Option Int}{k:Nat}{v:Int}(h:m k=some v)(hk:k<64):dI (zM m k) (k:Int)=zM m (k+1)/\oE m k++[v]=oE m (k+1):=by
 simp only[zM,oE,h,dI,Option.isSome_some,if_true,Option.toList,Int.toNat_natCast,and_true]
 exact if_pos (by omega)
theorem mN{m:Nat->Option Int}{k:Nat}(h:m k=none):zM m k=zM m (k+1)/\oE m k=oE m (k+1):=by
 simp[zM,oE,h]
theorem yM(m:Nat->Option Int){k:Nat}(hk:k<=64):zM m k<18446744073709551616:=Nat.lt_of_lt_of_le (Xn m k) (Nat.pow_le_pow_right (n:=2) (by decide) hk)
theorem Te(m:Nat->Option Int):∀k,(oE m k).length<=k
 | 0=>Nat.le_refl _
 | k+1=>by have:=Te m k;simp only[oE,List.length_append];cases m k<;>simp<;>omega
section
variable{n:Nd}{xs:List Int}{ys:List Pr}{w:World}{b:Nat}
theorem Rm(hcv:CV n xs ys){k:Nat}(hk:k<64):Jk n xs ys b (k:Int)=oQ b xs k:=by
 unfold Jk oQ
 have h1:oI b (k:Int)=b.testBit k:=by rw[zH b (by omega) (by omega),Int.toNat_natCast]
 have h2:pW b (k:Int)=eM b k:=by unfold pW;rw[Int.toNat_natCast,Nat.min_eq_left (by omega)]
 rw[h1,h2]
 by_cases h:b.testBit k=true<;>simp[h,hcv]
theorem Cj{i k:Nat}{r:Int}(hcv:CV n xs ys)(hk:k<64)(h:(k:Int)≠(i:Int)):fL b xs i r k=Jk n xs ys b (k:Int):=by
 rw[Rm hcv hk]
 exact if_neg (by omega)
theorem Ce{i k:Nat}{r:Int}(h:(k:Int)=(i:Int)):fL b xs i r k=if 0<r then some r else none:=if_pos (by omega)
theorem Rx{o:Option Int}(h:o.isSome=true):o=some (o.getD 0):=by cases o<;>simp_all
theorem Qj{o:Option Int}(h:o.isSome=false):o=none:=by cases o<;>simp_all
set_option maxHeartbeats 800000 in
theorem Kl(i:Nat)(r:Int)(_hi:i<64)(hcv:CV n xs ys)(hb:n.bm=(b:Int))(hb2:b<18446744073709551616)(hr:qQ w n xs ys) :
    Calls Tryz.prog 148 #[n.v,.int .i64 (i:Int),.int .i64 r] w λ e w'=>∃x:Option Addr×Nat,e=.returned (cn (zM (fL b xs i r) 64) (oE (fL b xs i r) 64) x).v/\(oE (fL b xs i r) 64).length<=x.2/\SF w [] [] [] [(x.1,aG (oE (fL b xs i r) 64))] [] w':=by
  have e1:=hr.brN
  refine enter Tryz.func148 Tryz.ntmps148 rfl rfl (SF.s2 hr.br hr.pr) ?_
  simp only[cO]
  simp only[Nd.v,Nd.cells]
  refine J0 ?_;refine bQ (λ x3=>?_);refine aN (λ x6=>?_);refine aI ?_;refine J0 ?_;refine bG ?_;refine aN (λ x7=>?_);refine J5 ?_;refine aR ?_;refine Gl ?_
  refine kZ [8,9,10,12,13,14,15,16,17,18,19,20,21,22,23,24,25,26,27,28,29,30,31,32,33,34,35,36,37,38,39] (λ y:Nat×Option Addr×Nat=>[(8,.int .i64 ((y.1:Nat):Int))]) (λ y=>y.1<=64/\(oE (fL b xs i r) y.1).length<=y.2.2) (λ y=>[(x7,.cells ⟨[.int .i64 3,.int .i64 0,.int .i64 0,.int .u64 ((zM (fL b xs i r) y.1:Nat):Int),.slice y.2.1 (oE (fL b xs i r) y.1).length y.2.2,.int .u64 0,.string ⟨#[]⟩,.int .u64 0,.slice none 0 0,.int .i64 0,.int .i64 0,.int .i64 0,.int .i64 0,.int .i64 0]⟩ 77),(x6,.cells ⟨Nd.zero.cells⟩ 77),(x3,.cells ⟨n.cells⟩ 77)]) (λ _=>_) (λ y=>[⟨y.2.1,aG (oE (fL b xs i r) y.1),y.2.2,62,1⟩]) (λ y=>64-y.1) ((0,none,0)) (⟨Nat.zero_le _,Nat.le_refl _⟩) (λ y f hx=>?_) (hw0:=λ w hw=>(hw.kE 62 1).back)
  dsimp only[fY,List.map,List.cons_append,List.nil_append]
  have hll:=Te (fL b xs i r) y.1
  refine kT ?_;refine vI ?_
  refine aZ (λ c13=>?_) (λ c13=>?_)
  · refine nZ ?_;refine B6 ?_;refine aT (cV (hc:=λ w1 hw=>mL (n:=n) (y.1:Int) hb hb2 (hr.fE hw.done))) (λ x19=>?_);refine aB ?_;refine aE (jG rf rfl) rfl ?_;refine aE (jG rf rfl) rfl ?_;refine J8 ?_;refine F0 ?_;refine sX ?_
    refine aZ (λ c24=>?_) (λ c24=>?_)
    · refine Kp ?_;refine wG ?_;refine J8 ?_;refine J2 ?_;refine aI ?_
      refine aZ (λ c28=>?_) (λ c28=>?_)
      · first
         | have hm:fL b xs i r y.1=some r:=by rw[Ce c24,if_pos (by omega)]
         | have hm:fL b xs i r y.1=some ((Jk n xs ys b (y.1:Int)).getD 0):=by rw[Cj hcv (by omega) c24];exact Rx c28
        refine dW [29,30,31,32,33,34,35,36,37,38,39] (λ z:Nat×Option Addr×Nat=>[]) (λ z=>(oE (fL b xs i r) y.1).length+1<=z.2.2) (λ z=>[(x7,.cells ⟨[.int .i64 3,.int .i64 0,.int .i64 0,.int .u64 ((zM (fL b xs i r) (y.1+1):Nat):Int),.slice z.2.1 (oE (fL b xs i r) (y.1+1)).length z.2.2,.int .u64 0,.string ⟨#[]⟩,.int .u64 0,.slice none 0 0,.int .i64 0,.int .i64 0,.int .i64 0,.int .i64 0,.int .i64 0]⟩ 77),(x6,.cells ⟨Nd.zero.cells⟩ 77),(x3,.cells ⟨n.cells⟩ 77)]) (λ z=>[]) (λ z=>[⟨z.2.1,aG (oE (fL b xs i r) (y.1+1)),z.2.2,62,1⟩]) (by decide) (λ _=>by exact rfl) ?_ (λ z f hx=>?_)
        · refine gK (.one 0 [] (.one 1 [] (.one 2 [] (.one 4 [] (.one 5 [] (.one 6 [] (.two 3 [5] (.one 9 [] (.one 7 [1,5] (.one 8 [] (.one 10 [] (.one 11 [] (.one 12 [] .nil)))))) 0 [] (.two 7 [1,5] (.one 3 [5] (.one 9 [] (.one 8 [] (.one 10 [] (.one 11 [] (.one 12 [] .nil)))))) 0 [] .nil)))))))) ?_
          refine mF ?_;refine aU ?_;refine mF ?_;refine aU ?_
          refine gW (E:=[3,7]) (by decide +kernel) ((.cons ?_ (.cons ?_ .nil)))
          · refine Ku (i:=3) (hq:=(cV (hc:=λ w1 hw=>lP (yM (fL b xs i r) (k:=y.1) (by omega)) (y.1:Int) w1))) (h:=λ x32=>?_)
            refine aP ?_;refine cU (h:=λ x36=>?_);((refine xX (h:=λ x37=>?_);try (refine fW (λ h37=>?_))));refine Pp ?_;refine zO ?_
            refine eN ((0,x37)) ?_ (hw1:=λ w hw=>by obtain⟨k1,k2⟩:=mY hm (by omega);rw[k1,show(oE (fL b xs i r) y.1).length+1=(oE (fL b xs i r) (y.1+1)).length by rw[<- k2];simp,k2] at hw;exact hw.back)
            · exact h37
          · refine zD (i:=7) (h:=λ x36=>?_)
            refine cY (i:=3) (hq:=(cV (hc:=λ w1 hw=>lP (yM (fL b xs i r) (k:=y.1) (by omega)) (y.1:Int) w1))) (h:=λ x32=>?_);refine aP ?_;((refine xX (h:=λ x37=>?_);try (refine fW (λ h37=>?_))));refine Pp ?_;refine zO ?_
            refine eN ((0,x37)) ?_ (hw1:=λ w hw=>by obtain⟨k1,k2⟩:=mY hm (by omega);rw[k1,show(oE (fL b xs i r) y.1).length+1=(oE (fL b xs i r) (y.1+1)).length by rw[<- k2];simp,k2] at hw;exact hw.back)
            · exact h37
        dsimp only[fY,List.map,List.cons_append,List.nil_append]
        refine Kd0 ?_
        refine fV ((by exact(y.1+1,z.2))) ?_ (hw1:=λ w hw=>by exact hw.back)
        · first
           | exact⟨by omega,by have k2:=(mY hm (by omega)).2;simp only[];rw[<- k2,List.length_append];exact hx⟩
           | exact⟨by omega,by simp only[];rw[<- (mN hm).2];exact hx.2⟩
      · have hm:fL b xs i r y.1=none:=by
         first
          | (rw[Ce c24,if_neg (by omega)];done)
          | (rw[Cj hcv (by omega) c24];exact Qj c28)
        refine lG ?_;refine zW ?_
        refine fV ((by exact(y.1+1,y.2))) ?_ (hw1:=λ w hw=>by(rw[(mN hm).1,(mN hm).2] at hw;exact hw.back))
        · first
           | exact⟨by omega,by have k2:=(mY hm (by omega)).2;simp only[];rw[<- k2,List.length_append];exact hx⟩
           | exact⟨by omega,by simp only[];rw[<- (mN hm).2];exact hx.2⟩
    · refine bA ?_;refine J2 ?_;refine aI ?_
      refine aZ (λ c28=>?_) (λ c28=>?_)
      · first
         | have hm:fL b xs i r y.1=some r:=by rw[Ce c24,if_pos (by omega)]
         | have hm:fL b xs i r y.1=some ((Jk n xs ys b (y.1:Int)).getD 0):=by rw[Cj hcv (by omega) c24];exact Rx c28
        refine dW [29,30,31,32,33,34,35,36,37,38,39] (λ z:Nat×Option Addr×Nat=>[]) (λ z=>(oE (fL b xs i r) y.1).length+1<=z.2.2) (λ z=>[(x7,.cells ⟨[.int .i64 3,.int .i64 0,.int .i64 0,.int .u64 ((zM (fL b xs i r) (y.1+1):Nat):Int),.slice z.2.1 (oE (fL b xs i r) (y.1+1)).length z.2.2,.int .u64 0,.string ⟨#[]⟩,.int .u64 0,.slice none 0 0,.int .i64 0,.int .i64 0,.int .i64 0,.int .i64 0,.int .i64 0]⟩ 77),(x6,.cells ⟨Nd.zero.cells⟩ 77),(x3,.cells ⟨n.cells⟩ 77)]) (λ z=>[]) (λ z=>[⟨z.2.1,aG (oE (fL b xs i r) (y.1+1)),z.2.2,62,1⟩]) (by decide) (λ _=>by exact rfl) ?_ (λ z f hx=>?_)
        · refine gK (.one 0 [] (.one 1 [] (.one 2 [] (.one 4 [] (.one 5 [] (.one 6 [] (.two 3 [5] (.one 9 [] (.one 7 [1,5] (.one 8 [] (.one 10 [] (.one 11 [] (.one 12 [] .nil)))))) 0 [] (.two 7 [1,5] (.one 3 [5] (.one 9 [] (.one 8 [] (.one 10 [] (.one 11 [] (.one 12 [] .nil)))))) 0 [] .nil)))))))) ?_
          refine mF ?_;refine aU ?_;refine mF ?_;refine aU ?_
          refine gW (E:=[3,7]) (by decide +kernel) ((.cons ?_ (.cons ?_ .nil)))
          · refine Ku (i:=3) (hq:=(cV (hc:=λ w1 hw=>lP (yM (fL b xs i r) (k:=y.1) (by omega)) (y.1:Int) w1))) (h:=λ x32=>?_)
            refine aP ?_;refine cU (h:=λ x36=>?_);((refine xX (h:=λ x37=>?_);try (refine fW (λ h37=>?_))));refine Pp ?_;refine zO ?_
            refine eN ((0,x37)) ?_ (hw1:=λ w hw=>by obtain⟨k1,k2⟩:=mY hm (by omega);rw[k1,show(oE (fL b xs i r) y.1).length+1=(oE (fL b xs i r) (y.1+1)).length by rw[<- k2];simp,k2] at hw;exact hw.back)
            · exact h37
          · refine zD (i:=7) (h:=λ x36=>?_)
            refine cY (i:=3) (hq:=(cV (hc:=λ w1 hw=>lP (yM (fL b xs i r) (k:=y.1) (by omega)) (y.1:Int) w1))) (h:=λ x32=>?_);refine aP ?_;((refine xX (h:=λ x37=>?_);try (refine fW (λ h37=>?_))));refine Pp ?_;refine zO ?_
            refine eN ((0,x37)) ?_ (hw1:=λ w hw=>by obtain⟨k1,k2⟩:=mY hm (by omega);rw[k1,show(oE (fL b xs i r) y.1).length+1=(oE (fL b xs i r) (y.1+1)).length by rw[<- k2];simp,k2] at hw;exact hw.back)
            · exact h37
        dsimp only[fY,List.map,List.cons_append,List.nil_append]
        refine Kd0 ?_
        refine fV ((by exact(y.1+1,z.2))) ?_ (hw1:=λ w hw=>by exact hw.back)
        · first
           | exact⟨by omega,by have k2:=(mY hm (by omega)).2;simp only[];rw[<- k2,List.length_append];exact hx⟩
           | exact⟨by omega,by simp only[];rw[<- (mN hm).2];exact hx.2⟩
      · have hm:fL b xs i r y.1=none:=by
         first
          | (rw[Ce c24,if_neg (by omega)];done)
          | (rw[Cj hcv (by omega) c24];exact Qj c28)
        refine lG ?_;refine zW ?_
        refine fV ((by exact(y.1+1,y.2))) ?_ (hw1:=λ w hw=>by(rw[(mN hm).1,(mN hm).2] at hw;exact hw.back))
        · first
           | exact⟨by omega,by have k2:=(mY hm (by omega)).2;simp only[];rw[<- k2,List.length_append];exact hx⟩
           | exact⟨by omega,by simp only[];rw[<- (mN hm).2];exact hx.2⟩
  · refine bF rfl ?_;refine Ka9 ?_
    refine bK Tryz.results148 (λ w hw=>?_)
    have hy:y.1=64:=by omega
    rw[hy] at hw hx ⊢
    generalize zM (fL b xs i r) 64=B at hw ⊢
    generalize oE (fL b xs i r) 64=L at hw hx ⊢
    exact⟨y.2,rfl,hx.2,SF.frz hw.aS⟩
end
end

/- Branches: the reference's Inserted, Updated, Removed. -/
section
open Go.RowKit Go.Ct
theorem of_eq{m:Nat->Option Int}{b:Nat}{xs:List Int}(h:BV b xs/\∀k,k<64->oQ b xs k=m k):zM m 64=b/\oE m 64=xs:=by
 obtain⟨h1,h2⟩:=K9 64 λ k hk=>(h.2 k hk).symm
 obtain⟨h3,h4⟩:=N0 h.1
 exact⟨h1.trans h3,h2.trans h4⟩
theorem oB{k:Nat}(b:Nat)(hk:k<64):dI b (k:Int)=b ||| 2^k:=by
 unfold dI;rw[if_pos (by omega),Int.toNat_natCast]
theorem qZ{k:Nat}(b:Nat)(hk:k<64):tW b (k:Int)=b ^^^ (b &&& 2^k):=by
 unfold tW;rw[if_pos (by omega),Int.toNat_natCast]
theorem mT{k:Nat}(b:Nat)(hk:k<64):pW b (k:Int)=eM b k:=by
 unfold pW;rw[Int.toNat_natCast,Nat.min_eq_left (by omega)]
theorem oT{k:Nat}(b:Nat)(hk:k<64):oI b (k:Int)=b.testBit k:=by
 rw[zH b (by omega) (by omega),Int.toNat_natCast]
theorem T7{b k:Nat}{xs:List Int}{r:Int}(h:BV b xs)(hk:k<64)(hb:oI b (k:Int)=false)(hr:1<=r):zM (fL b xs k r) 64=dI b (k:Int)/\oE (fL b xs k r) 64=uL xs (pW b (k:Int)) r:=by
 rw[oT b hk] at hb
 rw[oB b hk,mT b hk]
 unfold fL
 rw[if_pos (by omega)]
 exact of_eq (Dn h hk hb hr)
theorem Vf{b k:Nat}{xs:List Int}{r:Int}(h:BV b xs)(hk:k<64)(hb:oI b (k:Int)=true)(hr:1<=r):zM (fL b xs k r) 64=b/\oE (fL b xs k r) 64=oZ xs (pW b (k:Int)) r:=by
 rw[oT b hk] at hb
 rw[mT b hk]
 unfold fL
 rw[if_pos (by omega)]
 exact of_eq (Oh h hk hb hr)
theorem Ve{b k:Nat}{xs:List Int}(h:BV b xs)(hk:k<64)(hb:oI b (k:Int)=true):zM (fL b xs k 0) 64=tW b (k:Int)/\oE (fL b xs k 0) 64=qN xs (pW b (k:Int)):=by
 rw[oT b hk] at hb
 rw[qZ b hk,mT b hk]
 unfold fL
 rw[if_neg (by omega)]
 exact of_eq (Of h hk hb)
section
variable{n:Nd}{xs:List Int}{ys:List Pr}{w:World}{b:Nat}
theorem zG{i:Int}(h:(Jk n xs ys b i).isSome=true):CV n xs ys/\oI b i=true:=by
 unfold Jk at h
 split at h
 ·assumption
 ·cases h
theorem Ea{i:Int}(h:(Jk n xs ys b i).isSome=false)(hcv:CV n xs ys):oI b i=false:=by
 unfold Jk at h
 split at h
 ·cases h
 ·rename_i hn
  cases hh:oI b i with
  | false=>rfl
  | true=>exact absurd ⟨hcv,hh⟩ hn
theorem Fy(i r:Int)(hb:n.bm=(b:Int))(hb2:b<18446744073709551616)(hr:qQ w n xs ys):Calls Tryz.prog 153 #[n.v,.int .i64 i,.int .i64 r] w (Tg w (de n xs ys b i r)):=by
 refine enter Tryz.func153 Tryz.ntmps153 rfl rfl (SF.s2 hr.br hr.pr) ?_
 simp only[cO]
 simp only[Nd.v,Nd.cells]
 refine J0 ?_;refine bQ (λ x3=>?_);refine aN (λ x6=>?_);refine gQ ?_;refine B6 ?_;refine aT (cV (hc:=λ w1 hw=>mL (n:=n) i hb hb2 (hr.fE hw.done))) (λ x13=>?_);refine aB ?_;refine aE (jG rf rfl) rfl ?_;refine aE (jG rf rfl) rfl ?_;refine J8 ?_;refine kV ?_;refine aC (c0 (V:=.bool) (hc:=λ w1 hw=>Z8 (n:=n) hb hb2 (hr.fE hw.done))) (λ x17 h17=>?_);refine E8 ?_
 (refine eF 19 (λ g19=>?_) (λ g19=>?_)<;>refine Ka0 ?_)
 all_goals (refine Kc2 ?_)
 all_goals (first|refine aH ?_|(refine eF 22 (λ g22=>?_) (λ g22=>?_)<;>refine Ka0 ?_))
 all_goals (refine ow ?_;refine aB ?_)
 all_goals (first|refine aH ?_|(refine eF 26 (λ g26=>?_) (λ g26=>?_)<;>refine Ka0 ?_))
 all_goals (refine Fs ?_;refine aB ?_)
 all_goals (first|refine aH ?_|(refine eF 30 (λ g30=>?_) (λ g30=>?_)<;>refine Ka0 ?_))
 all_goals (refine ow ?_;refine aI ?_)
 all_goals
 refine aZ (λ c33=>?_) (λ c33=>?_)
 ·all_goals (refine J0 ?_;refine bG ?_;refine B5 ?_)
  all_goals
   refine bK Tryz.results153 (λ w hw=>?_)
   rw[show de n xs ys b i r=none from if_neg (by rintro ⟨k1,⟨k2,k3⟩,k4,k5⟩;clear hw;first|omega|exact absurd (zG g22).2 (by simp[k5])|exact absurd (h17.2 k1) (by simp_all))];exact⟨(none,0),rfl,Nat.le_refl _,(hw.Ii none).fin⟩
 ·try exact nv c33
  all_goals
   have hcv:=h17.1 (by simpa using g19)
   have hh:=Ea g22 hcv
   obtain⟨k,rfl⟩:=Int.eq_ofNat_of_zero_le (show 0<=i by omega)
   have hk:=T7 (hcv.bv hb hb2) (k:=k) (by omega) hh (r:=r) (by omega)
  all_goals (refine bA ?_;refine kV ?_;refine oX ?_;refine aC (cF (hc:=λ w1 hw=>by have:=Kl (w:=w1) k r (by omega) hcv hb hb2 (hr.fE hw.done);rw[hk.1,hk.2] at this;exact this)) (λ x38 h38=>?_);refine B5 ?_)
  all_goals
   refine bK Tryz.results153 (λ w hw=>?_)
   rw[show de n xs ys b (k:Int) r=some (dI b (k:Int),uL xs (pW b (k:Int)) r) from if_pos ⟨hcv,⟨by omega,by omega⟩,by omega,hh⟩];exact⟨x38,rfl,h38,hw.fin⟩
theorem Jj(i r:Int)(hb:n.bm=(b:Int))(hb2:b<18446744073709551616)(hr:qQ w n xs ys):Calls Tryz.prog 118 #[n.v,.int .i64 i,.int .i64 r] w (Tg w (cy n xs ys b i r)):=by
 refine enter Tryz.func118 Tryz.ntmps118 rfl rfl (SF.s2 hr.br hr.pr) ?_
 simp only[cO]
 simp only[Nd.v,Nd.cells]
 refine J0 ?_;refine bQ (λ x3=>?_);refine aN (λ x6=>?_);refine gQ ?_;refine B6 ?_;refine aT (cV (hc:=λ w1 hw=>mL (n:=n) i hb hb2 (hr.fE hw.done))) (λ x13=>?_);refine aB ?_;refine aE (jG rf rfl) rfl ?_;refine aE (jG rf rfl) rfl ?_;refine J8 ?_;refine J2 ?_;refine E8 ?_
 (refine eF 18 (λ g18=>?_) (λ g18=>?_)<;>refine Ka0 ?_)
 all_goals (refine ow ?_;refine aI ?_)
 all_goals
 refine aZ (λ c21=>?_) (λ c21=>?_)
 ·all_goals (refine J0 ?_;refine bG ?_;refine B5 ?_)
  all_goals
   refine bK Tryz.results118 (λ w hw=>?_)
   rw[show cy n xs ys b i r=none from if_neg (by rintro ⟨k1,k4,k5⟩;clear hw;first|omega|exact absurd (Ea (by simpa using g18) k1) (by simp[k5]))];exact⟨(none,0),rfl,Nat.le_refl _,(hw.Ii none).fin⟩
 ·try exact nv c21
  all_goals
   have hc:=zG (by simpa using g18)
   have hcv:=hc.1
   have hh:=hc.2
   obtain⟨q1,q2,_,_⟩:=qB hh
   obtain⟨k,rfl⟩:=Int.eq_ofNat_of_zero_le q1
   have hk:=Vf (hcv.bv hb hb2) (k:=k) (by omega) hh (r:=r) (by omega)
  all_goals (refine bA ?_;refine kV ?_;refine oX ?_;refine aC (cF (hc:=λ w1 hw=>by have:=Kl (w:=w1) k r (by omega) hcv hb hb2 (hr.fE hw.done);rw[hk.1,hk.2] at this;exact this)) (λ x26 h26=>?_);refine B5 ?_)
  all_goals
   refine bK Tryz.results118 (λ w hw=>?_)
   rw[show cy n xs ys b (k:Int) r=some (b,oZ xs (pW b (k:Int)) r) from if_pos ⟨hcv,by omega,hh⟩];exact⟨x26,rfl,h26,hw.fin⟩
theorem Ig(i:Int)(hb:n.bm=(b:Int))(hb2:b<18446744073709551616)(hr:qQ w n xs ys):Calls Tryz.prog 156 #[n.v,.int .i64 i] w (Tg w (cx n xs ys b i)):=by
 refine enter Tryz.func156 Tryz.ntmps156 rfl rfl (SF.s2 hr.br hr.pr) ?_
 simp only[cO]
 simp only[Nd.v,Nd.cells]
 refine J0 ?_;refine bQ (λ x2=>?_);refine aN (λ x4=>?_);refine gQ ?_;refine B6 ?_;refine aT (cV (hc:=λ w1 hw=>mL (n:=n) i hb hb2 (hr.fE hw.done))) (λ x11=>?_);refine aB ?_;refine aE (jG rf rfl) rfl ?_;refine aE (jG rf rfl) rfl ?_;refine J8 ?_;refine J2 ?_;refine mJ ?_
 refine aZ (λ c15=>?_) (λ c15=>?_)
 ·refine J0 ?_;refine bG ?_;refine B5 ?_
  refine bK Tryz.results156 (λ w hw=>?_)
  rw[show cx n xs ys b i=none from if_neg (by rintro ⟨k1,k5⟩;clear hw;exact absurd (Ea c15 k1) (by simp[k5]))];exact⟨(none,0),rfl,Nat.le_refl _,(hw.Ii none).fin⟩
 ·have hc:=zG c15
  have hcv:=hc.1
  have hh:=hc.2
  obtain⟨q1,q2,_,_⟩:=qB hh
  obtain⟨k,rfl⟩:=Int.eq_ofNat_of_zero_le q1
  have hk:=Ve (hcv.bv hb hb2) (k:=k) (by omega) hh
  refine bA ?_;refine B6 ?_;refine aC (cF (hc:=λ w1 hw=>by have:=Kl (w:=w1) k 0 (by omega) hcv hb hb2 (hr.fE hw.done);rw[hk.1,hk.2] at this;exact this)) (λ x19 h19=>?_);refine B5 ?_
  refine bK Tryz.results156 (λ w hw=>?_)
  rw[show cx n xs ys b (k:Int)=some (tW b (k:Int),qN xs (pW b (k:Int))) from if_pos ⟨hcv,hh⟩];exact⟨x19,rfl,h19,hw.fin⟩
end
end

end Go.Proofs.YtadnboagdhcedaaGreatDoor

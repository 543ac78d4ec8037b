/- Branches: what Lookup and Sole compute. -/
import Derived.Test.YtbajmaoegmbfgaaGreatGBitsE
import Derived.Test.YtbajmaoegmbfgaaGreatGNode4
import Derived.Test.YtbajmaoegmbfgaaGreatAuto
import Derived.Test.YtbajmaoegmbfgaaGreatGPa1
import Derived.Test.YtbajmaoegmbfgaaGreatGNode2
import Derived.Test.YtbajmaoegmbfgaaGreatGJoin

set_option linter.unusedSimpArgs false
set_option linter.unusedVariables false
namespace Go.Ct
section
open Go Go.RowKit
end
end Go.Ct
namespace Go.Proofs.YtbajmaoegmbfgaaGreat
section
open Go.RowKit Go.Ct
def CV(n:Nd)(xs:List Int)(ys:List Pr):Prop:=n.kind=3/\cA n xs ys
theorem CV.bv{n:Nd}{xs:List Int}{ys:List Pr}{b:Nat}(h:CV n xs ys)(hb:n.bm=(b:Int))(hb2:b<18446744073709551616):BV b xs:=by
 obtain⟨h1,h2⟩:=yO h.1 h.2
 rw[hb,xL hb2] at h1
 exact⟨hb2,by omega,h2⟩
open Classical in
noncomputable def Lu (n:Nd) (xs:List Int) (ys:List Pr) (b:Nat) (i:Int):Option Int:=if CV n xs ys/\pN b i=true then some (xs.getD (qT b i) 0) else none
open Classical in
noncomputable def Yj (n:Nd) (xs:List Int) (ys:List Pr):Option Int:=if CV n xs ys/\xs.length=1 then some (xs.getD 0 0) else none
theorem rT{b:Nat}{i:Int}(h:pN b i=true):0<=i/\i<64/\b.testBit i.toNat=true/\qT b i=fT b i.toNat:=by
 simp only[pN,Bool.and_eq_true,decide_eq_true_eq] at h
 exact⟨h.1,h.2.1,h.2.2,by unfold qT;congr 1;omega⟩
theorem aBA{b:Nat}{xs:List Int}(h:BV b xs){i:Int}(hh:pN b i=true):qT b i<xs.length:=by
 obtain⟨h1,h2,h3,h4⟩:=rT hh
 rw[h4,h.len]
 exact oB (by omega) h3
section
variable{n:Nd}{xs:List Int}{ys:List Pr}{w:World}{b:Nat}
theorem Y4(hb:n.bm=(b:Int))(hb2:b<18446744073709551616)(hr:sB w n xs ys):Calls Tryz.prog 243 #[n.v] w λ e w'=>∃r:Bool,e=.returned (.bool r)/\(r=true↔CV n xs ys)/\St w [] [] w':=by
 refine enter Tryz.func243 Tryz.ntmps243 rfl rfl (SF.s0 w) ?_
 simp only[cD]
 simp only[Nd.v,Nd.cells]
 refine J0 ?_;refine bO (λ x1=>?_);refine J1 ?_;refine gP ?_;refine kE ?_;refine aA ?_
 (refine eC 6 (λ g6=>?_) (λ g6=>?_)<;>refine Ka2 ?_)
 all_goals ((first|refine aI ?_|(refine aF ?_;refine aD (c0 (V:=.bool) (hc:=λ w1 hw=>yZ (n:=n) hb hb2 (hr.fO hw.done))) (λ x8 h8=>?_)));refine Kb6 ?_)
 all_goals
 refine aN Tryz.results243 (λ w hw=>?_)
 refine⟨_,rfl,?_,hw.done⟩
 simp_all[CV]
theorem nP(i:Int)(hb:n.bm=(b:Int))(hb2:b<18446744073709551616)(hr:sB w n xs ys):Calls Tryz.prog 216 #[n.v,.int .i64 i] w λ e w'=>e=.returned (.tuple #[.int .i64 ((Lu n xs ys b i).getD 0),.bool (Lu n xs ys b i).isSome])/\St w [] [] w':=by
 have e1:=hr.brN
 refine enter Tryz.func216 Tryz.ntmps216 rfl rfl (SF.s2 hr.br hr.pr) ?_
 simp only[cD]
 simp only[Nd.v,Nd.cells,hb,e1]
 refine J0 ?_;refine bO (λ x2=>?_);refine J8 ?_;refine aR ?_;refine oI ?_;refine aD (c0 (V:=.bool) (hc:=λ w1 hw=>by rw[<- e1,<- hb];exact Y4 (n:=n) hb hb2 (hr.fO hw.done))) (λ x7 h7=>?_);refine Et ?_
 (refine eC 9 (λ g9=>?_) (λ g9=>?_)<;>refine Ka1 ?_)
 all_goals (refine Yy ?_;(first|refine aI ?_|(refine aF ?_;refine aM (cV (hc:=λ w1 hw=>M9 hb2 i w1)) (λ x13=>?_)));refine Kc4 ?_)
 all_goals
 refine bC (λ c15=>?_) (λ c15=>?_)
 ·all_goals refine Na ?_
  all_goals
   refine bA Tryz.results216 (λ w hw=>?_)
   rw[show Lu n xs ys b i=none from if_neg (by simp_all)];exact⟨rfl,hw.done⟩
 ·try exact nv c15
  all_goals
   have hcv:CV n xs ys:=h7.1 (by simpa using g9)
   have hpl:=aBA (hcv.bv hb hb2) c15
  all_goals (refine lI ?_;refine eM [(0,[]),(1,[]),(2,[]),(3,[]),(4,[]),(5,[1]),(6,[]),(7,[]),(8,[]),(9,[])] ?_;refine oW ?_;refine oW ?_;refine bB ?_;refine dB (i:=5) (hq:=(cV (hc:=λ w1 hw=>Ob hb2 i w1))) (h:=λ x21=>?_);refine U6 ?_;refine kh ?_)
  all_goals
   refine bA Tryz.results216 (λ w hw=>?_)
   rw[show Lu n xs ys b i=some (xs.getD (qT b i) 0) from if_pos ⟨hcv,c15⟩];exact⟨rfl,hw.done⟩
theorem Ix(hb:n.bm=(b:Int))(hb2:b<18446744073709551616)(hr:sB w n xs ys):Calls Tryz.prog 245 #[n.v] w λ e w'=>e=.returned (.tuple #[.int .i64 ((Yj n xs ys).getD 0),.bool (Yj n xs ys).isSome])/\St w [] [] w':=by
 have e1:=hr.brN
 refine enter Tryz.func245 Tryz.ntmps245 rfl rfl (SF.s2 hr.br hr.pr) ?_
 simp only[cD]
 simp only[Nd.v,Nd.cells,e1]
 refine J0 ?_;refine bO (λ x1=>?_);refine J8 ?_;refine aR ?_;refine oI ?_;refine aD (c0 (V:=.bool) (hc:=λ w1 hw=>by rw[<- e1];exact Y4 (n:=n) hb hb2 (hr.fO hw.done))) (λ x5 h5=>?_);refine Et ?_
 (refine eC 7 (λ g7=>?_) (λ g7=>?_)<;>refine Ka1 ?_)
 all_goals (refine Ka2 ?_;(first|refine aI ?_|(refine aF ?_;refine dY ?_));refine R9 ?_;refine aG ?_)
 all_goals
 refine bC (λ c12=>?_) (λ c12=>?_)
 ·all_goals refine Na ?_
  all_goals
   refine bA Tryz.results245 (λ w hw=>?_)
   rw[show Yj n xs ys=none from if_neg (by simp_all;try omega)];exact⟨rfl,hw.done⟩
 ·try exact nv c12
  all_goals
   have hcv:CV n xs ys:=h5.1 (by simpa using g7)
   have hl1:xs.length=1:=by omega
  all_goals (refine aV ?_;refine gP ?_;refine aB (eZ (k:=0) rf rf gQ gN fin (by omega) (by omega)) rfl ?_;refine bP ?_;refine J8 ?_)
  all_goals
   refine bA Tryz.results245 (λ w hw=>?_)
   rw[show Yj n xs ys=some (xs.getD 0 0) from if_pos ⟨hcv,hl1⟩];exact⟨rfl,hw.done⟩
end
end

/- Branches: a C-node of a bitmap and a list. -/
section
open Go.RowKit Go.Ct
def cn(b:Nat)(xs:List Int)(x:Option Addr×Nat):Nd:={Nd.zero with kind:=3,bm:=(b:Int),brA:=x.1,brN:=xs.length,brC:=x.2}
theorem aAy{b:Nat}{xs:List Int}(h:BV b xs)(x:Option Addr×Nat){p:Int}(hp:0<=p):CV {cn b xs x with prev:=p} xs [] :=
 ⟨rfl,by simp[rO,Nd.own,Nd.jP,Nd.iT,cn],by simp[cn,Nd.zero],hp,by simp[cn,Nd.zero],.inr (.inr (.inl ⟨rfl,by show(xs.length:Int)=yE (b:Int);rw[xL h.lt,h.len],h.pos⟩))⟩
theorem vk{b:Nat}{xs:List Int}(h:BV b xs)(x:Option Addr×Nat):CV (cn b xs x) xs []:=aAy h x (p:=0) (Int.le_refl _)
end

/- Tapes: choices out of a list of numbers. -/
section
open Go.RowKit Go.Ct
abbrev Qe:=aw 114
abbrev pz(w:World):=Kz w 114
theorem um(v n:Int)(w:World)(hn:IntKind.u64.wrap n≠0):Calls Tryz.prog 46 #[.int .i64 v,.int .i64 n] w λ e w'=>e=.returned (.int .i64 (uG v n))/\St w [] [] w':=by
 refine enter Tryz.func46 Tryz.ntmps46 rfl rfl (SF.s0 w) ?_
 simp only[cD]
 refine Kc2 ?_;refine mQ ?_;refine aA ?_;refine mQ ?_;refine aAL ?_;refine mQ ?_;refine J1 ?_
 refine aN Tryz.results46 (λ w hw=>?_)
 exact⟨rfl,hw.done⟩
theorem ui{l:List Int}{a:Option Addr}{c:Nat}{w:World}:Calls Tryz.prog 21 #[.slice a l.length c] w λ e w' =>
  ∃b:Nat,e=.returned (.pointer (some ⟨b,0,none⟩))/\True/\SF w [] [(b,Qe a l c 0)] [] [] [] w':=by
 refine enter Tryz.func21 Tryz.ntmps21 rfl rfl (SF.s0 w) ?_
 simp only[cD]
 refine Kc2 ?_;refine bM ?_;refine bO (λ x5=>?_);refine J1 ?_
 refine aN Tryz.results21 (λ w hw=>?_)
 exact⟨x5,rfl,trivial,hw.aW⟩
theorem eN{l:List Int}{a:Option Addr}{b c k:Nat}{w:World}(n:Int)(ht:pz w b a l c k)(h0:0<n)(h1:n<=9223372036854775807) :
  Calls Tryz.prog 22 #[.pointer (some ⟨b,0,none⟩),.int .i64 n] w λ e w' =>
  ∃v:Nat,e=.returned (.int .i64 ((v:Nat):Int))/\((v:Int)<n/\v=tvN l k n)/\SF w [b] ((b,Qe a l c (nB l k))::[]) [] [] [] w':=by
 have hl:=ht.len
 have hu:IntKind.u64.wrap n≠0:=by rw[wrap_u64];omega
 refine enter Tryz.func22 Tryz.ntmps22 rfl rfl ht.start ?_
 simp only[cD]
 refine Hu ?_;refine aR ?_;refine gE [0,1,2,3,4,5,6,7,8,9] ?_;refine Ea ?_;refine oF ?_;refine aAX ?_;refine eK ?_
 refine bC (λ c14=>?_) (λ c14=>?_)
 ·refine cU ?_
  refine aN Tryz.results22 (λ w hw=>?_)
  exact⟨0,rfl,⟨by omega,by simp only[tvN];rw[if_neg (by omega)]⟩,by simp only[nB];rw[if_neg (by omega)];exact hw.aW⟩
 ·refine tg ?_;refine F5 ?_;refine K8 ?_;refine aR ?_;refine gE [0,1,2,3,4,5,6,7,8,9,10,11,12,13] ?_;refine Ea ?_;refine O3 ?_;refine U6 ?_;refine bB ?_;refine dB (i:=12) (hq:=(cV (hc:=λ w1 hw=>um (l.getD (k+1-1) 0) n w1 hu))) (h:=λ x34=>?_);refine J7 ?_
  refine aN Tryz.results22 (λ w hw=>?_)
  have hb:=yM (v:=l.getD k 0) h0 h1
  exact⟨(uG (l.getD k 0) n).toNat,by rw[Int.toNat_of_nonneg hb.1];rfl,⟨by omega,by simp only[tvN];rw[if_pos (by omega)]⟩,by simp only[nB];rw[if_pos (by omega)];exact hw.aW⟩
def mI:List ByteArray:=[⟨#[97]⟩,⟨#[98]⟩,⟨#[99]⟩,⟨#[100]⟩,⟨#[97,98]⟩,⟨#[]⟩,⟨#[98,48]⟩,⟨#[107,101,121]⟩]
theorem uu{l:List Int}{a:Option Addr}{b c k:Nat}{w:World}(ht:pz w b a l c k) :
  Calls Tryz.prog 59 #[.pointer (some ⟨b,0,none⟩)] w λ e w' =>
  ∃v:Nat,e=.returned (.string (mI.getD v ⟨#[]⟩))/\(v<8/\v=tvN l k 8)/\SF w [b] ((b,Qe a l c (nB l k))::[]) [] [] [] w':=by
 refine enter Tryz.func59 Tryz.ntmps59 rfl rfl ht.start ?_
 simp only[cD]
 refine cU ?_;refine J0 ?_;refine fR (λ x3=>?_);refine aA ?_;refine aD (xA (hc:=λ w1 hw=>eN 8 (hw.tape cX fin ht.len) (by decide) (by decide))) (λ x5 h5=>?_);refine aB (ai (lst:=mI) rf rf gQ gN fin (by omega) (by simp only[mI,List.length_cons,List.length_nil];omega)) rfl ?_;refine aB (oq (lst:=mI) rf gN fin (by simp only[mI,List.length_cons,List.length_nil];omega)) rfl ?_;refine J1 ?_
 refine aN Tryz.results59 (λ w hw=>?_)
 exact⟨x5,rfl,⟨by omega,h5.2⟩,hw.aW⟩
end

/- Nodes and lists of pairs out of tapes. -/
end Go.Proofs.YtbajmaoegmbfgaaGreat
namespace Go.Ct
section
end
end Go.Ct
namespace Go.Proofs.YtbajmaoegmbfgaaGreat
section
open Go.RowKit Go.Ct
end

/- Tombs: Untombed, Contracted, Grown, Shrunk: both sides. -/
section
open Go.RowKit Go.Ct
def tmb(s:Nd):Nd:={Nd.zero with kind:=5,hash:=s.hash,key:=s.key,val:=s.val}
def F3(n:Nd):Nd:=if n.kind=5 then{Nd.zero with kind:=4,hash:=n.hash,key:=n.key,val:=n.val} else Nd.zero
theorem Ia(n:Nd)(w:World):Calls Tryz.prog 219 #[n.v] w λ e w'=>e=.returned (.tuple #[(F3 n).v,.bool (decide (n.kind=5))])/\St w [] [] w':=by
 refine enter Tryz.func219 Tryz.ntmps219 rfl rfl (SF.s0 w) ?_
 simp only[cD]
 simp only[Nd.v,Nd.cells]
 refine J0 ?_;refine bO (λ x1=>?_);refine aJ (λ x2=>?_);refine iW ?_;refine gP ?_;refine mH ?_;refine aG ?_
 refine bC (λ c6=>?_) (λ c6=>?_)
 ·refine J0 ?_;refine bM ?_;refine Dr ?_
  refine bA Tryz.results219 (λ w hw=>?_)
  exact⟨by rw[show F3 n=Nd.zero from if_neg (by assumption),decide_eq_false (by assumption)];rfl,hw.done⟩
 ·refine aV ?_;refine gP ?_;refine J3 ?_;refine J3 ?_;refine bM ?_;refine Dr ?_
  refine bA Tryz.results219 (λ w hw=>?_)
  exact⟨by rw[show F3 n={Nd.zero with kind:=4,hash:=n.hash,key:=n.key,val:=n.val} from if_pos (by omega),decide_eq_true (by omega)];rfl,hw.done⟩
section
variable{n s:Nd}{xs:List Int}{ys:List Pr}{w:World}{b:Nat}
def LV(n:Nd)(xs:List Int)(ys:List Pr):Prop:=n.kind=6/\cA n xs ys
theorem Nl(hb:n.bm=(b:Int))(hb2:b<18446744073709551616)(hr:sB w n xs ys):Calls Tryz.prog 255 #[n.v] w λ e w'=>∃r:Bool,e=.returned (.bool r)/\(r=true↔LV n xs ys)/\St w [] [] w':=by
 refine enter Tryz.func255 Tryz.ntmps255 rfl rfl (SF.s0 w) ?_
 simp only[cD]
 simp only[Nd.v,Nd.cells]
 refine J0 ?_;refine bO (λ x1=>?_);refine J1 ?_;refine gP ?_;refine kE ?_;refine aA ?_
 (refine eC 6 (λ g6=>?_) (λ g6=>?_)<;>refine Ka2 ?_)
 all_goals ((first|refine aI ?_|(refine aF ?_;refine aD (c0 (V:=.bool) (hc:=λ w1 hw=>yZ (n:=n) hb hb2 (hr.fO hw.done))) (λ x8 h8=>?_)));refine Kb6 ?_)
 all_goals
 refine aN Tryz.results255 (λ w hw=>?_)
 refine⟨_,rfl,?_,hw.done⟩
 simp_all[LV]
open Classical in
noncomputable def Sj (n:Nd) (xs:List Int) (ys:List Pr) (level:Int) (s:Nd):Bool:=decide ((Yj n xs ys).isSome=true/\0<level/\s.kind=4)
def s5(t:Bool)(n s:Nd):Nd:=if t=true then tmb s else n
def ko{α:Type}(t:Bool)(l:List α):List α:=if t=true then [] else l
theorem Dh(level:Int)(s:Nd)(hb:n.bm=(b:Int))(hb2:b<18446744073709551616)(hr:sB w n xs ys):Calls Tryz.prog 221 #[n.v,.int .i64 level,s.v] w λ e w'=>e=.returned (s5 (Sj n xs ys level s) n s).v/\St w [] [] w':=by
 refine enter Tryz.func221 Tryz.ntmps221 rfl rfl (SF.s0 w) ?_
 simp only[cD]
 simp only[Nd.v,Nd.cells]
 refine J0 ?_;refine bO (λ x3=>?_);refine bO (λ x5=>?_);refine aJ (λ x6=>?_);refine S2 ?_;refine oI ?_;refine aM (cV (hc:=λ w1 hw=>Ix (n:=n) hb hb2 (hr.fO hw.done))) (λ x11=>?_);refine aA ?_;refine aB (bN rf rfl) rfl ?_;refine aB (bN rf rfl) rfl ?_;refine J8 ?_;refine iX ?_
 (refine eC 15 (λ g15=>?_) (λ g15=>?_)<;>refine Ka0 ?_)
 all_goals (refine Bs ?_;refine aA ?_)
 all_goals (first|refine aI ?_|(refine eC 19 (λ g19=>?_) (λ g19=>?_)<;>refine Ka1 ?_))
 all_goals (refine vy ?_;refine aG ?_)
 all_goals
 refine bC (λ c23=>?_) (λ c23=>?_)
 ·try exact nv c23
  all_goals (refine gP ?_;refine J3 ?_;refine J3 ?_;refine uU ?_)
  all_goals
   refine bA Tryz.results221 (λ w hw=>?_)
   rw[show Sj n xs ys level s=true from decide_eq_true ⟨by assumption,by omega,by omega⟩];exact⟨rfl,hw.done⟩
 ·all_goals (refine aV ?_;refine oI ?_;refine J5 ?_)
  all_goals
   refine bA Tryz.results221 (λ w hw=>?_)
   rw[show Sj n xs ys level s=false from decide_eq_false (by rintro ⟨t1,t2,t3⟩;first|omega|(clear hw;simp_all;done))];exact⟨rfl,hw.done⟩
end
end

/- Tombs: Grown, Shrunk: both sides; agrees. -/
section
open Go.RowKit Go.Ct
def dj(o:Option (List Pr))(h:Int)(x:Option Addr×Nat):Nd:=match o with|some m=>{Nd.zero with kind:=6,hash:=h,prA:=x.1,prN:=m.length,dD:=x.2}|none=>Nd.zero
def X3(o:Option (List Pr)):List Pr:=o.getD []
def Mn(o:Option (List Pr))(h:Int)(x:Option Addr×Nat):Nd:=match o with|some m=>if m.length=1 then{Nd.zero with kind:=5,hash:=h,key:=(m.getD 0 (⟨#[]⟩,0)).1,val:=(m.getD 0 (⟨#[]⟩,0)).2} else{Nd.zero with kind:=6,hash:=h,prA:=x.1,prN:=m.length,dD:=x.2}|none=>Nd.zero
def Hs(o:Option (List Pr)):List Pr:=match o with|some m=>if m.length=1 then [] else m|none=>[]
open Classical in
noncomputable def kI (n:Nd) (xs:List Int) (ys:List Pr) (k:ByteArray) (v:Int):Option (List Pr):=if LV n xs ys/\k.size<=64 then some (Pu ys k v) else none
open Classical in
noncomputable def pJ (n:Nd) (xs:List Int) (ys:List Pr) (k:ByteArray):Option (List Pr):=if LV n xs ys/\(dR ys k).isSome=true then some (rF ys k) else none
def aAh(w:World)(o:Option (List Pr))(h:Int)(e:Ending)(w':World):Prop:=∃x:Option Addr×Nat,e=.returned (.tuple #[(dj o h x).v,.bool o.isSome])/\(X3 o).length<=x.2/\SF w [] [] [] [(x.1,dD (X3 o))] [] w'
def z7(w:World)(o:Option (List Pr))(h:Int)(e:Ending)(w':World):Prop:=∃x:Option Addr×Nat,e=.returned (.tuple #[(Mn o h x).v,.bool o.isSome])/\(Hs o).length<=x.2/\SF w [] [] [] [(x.1,dD (Hs o))] [] w'
section
variable{n s:Nd}{xs:List Int}{ys:List Pr}{w:World}{b:Nat}
theorem Q9(k:ByteArray)(v:Int)(hb:n.bm=(b:Int))(hb2:b<18446744073709551616)(hr:sB w n xs ys)(hy:ys.length<=150000000000):Calls Tryz.prog 247 #[n.v,.string k,.int .u64 v] w (aAh w (kI n xs ys k v) n.hash):=by
 have e2:=hr.prN
 refine enter Tryz.func247 Tryz.ntmps247 rfl rfl (SF.s1 hr.pr) ?_
 simp only[cD]
 simp only[Nd.v,Nd.cells,e2]
 refine J0 ?_;refine bO (λ x3=>?_);refine aJ (λ x6=>?_);refine iW ?_;refine oI ?_;refine aD (c0 (V:=.bool) (hc:=λ w1 hw=>by rw[<- e2];exact Nl (n:=n) hb hb2 (hr.fO hw.done))) (λ x9 h9=>?_);refine Et ?_
 (refine eC 11 (λ g11=>?_) (λ g11=>?_)<;>refine Ka0 ?_)
 all_goals ((first|refine aI ?_|(refine aF ?_;refine lQ ?_));refine Ka7 ?_)
 all_goals
 refine bC (λ c15=>?_) (λ c15=>?_)
 ·all_goals (refine J0 ?_;refine bM ?_;refine Dr ?_)
  all_goals
   refine bA Tryz.results247 (λ w hw=>?_)
   rw[show kI n xs ys k v=none from if_neg (by rintro ⟨t1,t2⟩;have:=h9.2 t1;clear hw;first|omega|(simp_all;done))];exact⟨(none,0),rfl,Nat.le_refl _,(hw.Ku none).fin⟩
 ·try exact nv c15
  all_goals (refine lI ?_;refine eM [(0,[]),(1,[]),(2,[]),(3,[]),(4,[]),(5,[]),(6,[1]),(7,[]),(8,[]),(9,[])] ?_;refine oW ?_;refine oW ?_;refine gU ?_;refine bG (i:=6) (hq:=(cF (hc:=λ w1 hw=>cx (l:=ys) k v (hw.cl fin) (by omega)))) (h:=λ x23 h23=>?_);refine lZ ?_;refine Bp ?_)
  all_goals
   refine bA Tryz.results247 (λ w hw=>?_)
   rw[show kI n xs ys k v=some (Pu ys k v) from if_pos ⟨h9.1 (by clear hw;simp_all),by omega⟩];exact⟨x23,rfl,h23,hw.fin⟩
theorem Ng(k:ByteArray)(hb:n.bm=(b:Int))(hb2:b<18446744073709551616)(hr:sB w n xs ys)(hy:ys.length<=150000000000):Calls Tryz.prog 251 #[n.v,.string k] w (z7 w (pJ n xs ys k) n.hash):=by
 have e2:=hr.prN
 refine enter Tryz.func251 Tryz.ntmps251 rfl rfl (SF.s1 hr.pr) ?_
 simp only[cD]
 simp only[Nd.v,Nd.cells,e2]
 refine J0 ?_;refine bO (λ x2=>?_);refine aJ (λ x4=>?_);refine iW ?_;refine Kc3 ?_;refine aM (cV (hc:=λ w1 hw=>Jf (l:=ys) k (hw.cl fin) (by omega))) (λ x13=>?_);refine aA ?_;refine aB (bN rf rfl) rfl ?_;refine aB (bN rf rfl) rfl ?_;refine J8 ?_;refine oI ?_;refine aD (c0 (V:=.bool) (hc:=λ w1 hw=>by rw[<- e2];exact Nl (n:=n) hb hb2 (hr.fO hw.done))) (λ x17 h17=>?_);refine Et ?_
 (refine eC 19 (λ g19=>?_) (λ g19=>?_)<;>refine Ka0 ?_)
 all_goals (refine Kc4 ?_)
 all_goals
 refine bC (λ c22=>?_) (λ c22=>?_)
 ·all_goals (refine J0 ?_;refine bM ?_;refine Dr ?_)
  all_goals
   refine bA Tryz.results251 (λ w hw=>?_)
   rw[show pJ n xs ys k=none from if_neg (by rintro ⟨t1,t2⟩;have:=h17.2 t1;clear hw;simp_all)];exact⟨(none,0),rfl,Nat.le_refl _,(hw.Ku none).fin⟩
 ·try exact nv c22
  all_goals (refine aV ?_;refine Kc3 ?_;refine aD (cF (hc:=λ w1 hw=>Wg (l:=ys) k (hw.cl fin) (by omega))) (λ x27 h27=>?_);refine iW ?_;refine J2 ?_;refine dY ?_;refine tS ?_)
  all_goals
   refine bC (λ c30=>?_) (λ c30=>?_)
   ·refine aR ?_;refine gE [0,1,2,3,4,5,6,7,8,9,10,11,12] ?_;refine oW ?_;refine bB ?_;refine bW (i:=3) (hq:=(G9 (k:=0) rf rf gQ eH fin (by omega) (by omega))) (h:=?_);refine oW ?_;refine bB ?_;refine bW (i:=7) (hq:=(G9 (k:=0) rf rf gQ eH fin (by omega) (by omega))) (h:=?_);refine aS ?_;refine bW (i:=9) (hq:=(Nc (q:=0) (lst:=rF ys k) rf gN fin (by omega))) (h:=?_);refine lZ ?_;refine Bp ?_
    refine bA Tryz.results251 (λ w hw=>?_)
    have e1:(rF ys k).length=1:=by omega
    rw[show pJ n xs ys k=some (rF ys k) from if_pos ⟨h17.1 (by clear hw;simp_all),by clear hw;simp_all⟩];exact⟨(none,0),by simp only[Mn,if_pos e1];rfl,by simp only[Hs,if_pos e1];exact Nat.le_refl _,by simp only[Hs,if_pos e1];exact(hw.Ku none).fin⟩
   ·refine aV ?_;refine Kc3 ?_;refine bM ?_;refine Dr ?_
    refine bA Tryz.results251 (λ w hw=>?_)
    have e1:¬(rF ys k).length=1:=by omega
    rw[show pJ n xs ys k=some (rF ys k) from if_pos ⟨h17.1 (by clear hw;simp_all),by clear hw;simp_all⟩];exact⟨x27,by simp only[Mn,if_neg e1];rfl,by simp only[Hs,if_neg e1];exact h27,by simp only[Hs,if_neg e1];exact hw.fin⟩
end
end

/- Branches: lists of lists, joined; the C-node of them. -/
end Go.Proofs.YtbajmaoegmbfgaaGreat
namespace Go.Ct
section
open Go Go.RowKit
section
variable{P:Program}{n:Nat}{S:List (Nat×Value)}
variable{w0 w w':World}{M:List Nat}{H H':List (Nat×Obj)}{A F F':Fr}{O O':List Ow}{G:World->Prop}
variable{d:Nat}{ty:TypeId}{pos:String}{af:Array Edge}{gd:Option (Nat×Bool)}{dst:Option Nat}{x y z:Operand}{t t2 e:TypeId}{p a:Option Addr}{i m k c c2:Nat}
end
end
end Go.Ct
namespace Go.Proofs.YtbajmaoegmbfgaaGreat
section
open Go Go.RowKit Go.Ct
end

/- Branches: Inserted, Updated, Removed. -/
section
open Go.RowKit Go.Ct
open Classical in
noncomputable def kf (n:Nd) (xs:List Int) (ys:List Pr) (b:Nat) (i r:Int):Option (Nat×List Int):=if CV n xs ys/\(0<=i/\i<64)/\1<=r/\pN b i=false then some (dS b i,vX xs (qT b i) r) else none
open Classical in
noncomputable def j9 (n:Nd) (xs:List Int) (ys:List Pr) (b:Nat) (i r:Int):Option (Nat×List Int):=if CV n xs ys/\1<=r/\pN b i=true then some (b,qB xs (qT b i) r) else none
open Classical in
noncomputable def kj (n:Nd) (xs:List Int) (ys:List Pr) (b:Nat) (i:Int):Option (Nat×List Int):=if CV n xs ys/\pN b i=true then some (vV b i,rY xs (qT b i)) else none
def mG(o:Option (Nat×List Int))(x:Option Addr×Nat):Nd:=match o with|some q=>cn q.1 q.2 x|none=>Nd.zero
def lS(o:Option (Nat×List Int)):List Int:=match o with|some q=>q.2|none=>[]
def V9(w:World)(o:Option (Nat×List Int))(e:Ending)(w':World):Prop:=∃x:Option Addr×Nat,e=.returned (.tuple #[(mG o x).v,.bool o.isSome])/\(lS o).length<=x.2/\SF w [] [] [] [(x.1,aH (lS o))] [] w'
section
variable{n:Nd}{xs:List Int}{ys:List Pr}{w:World}{b:Nat}
end
end

/- Branches: the reference's build, Inserted, Updated, Removed. -/
section
open Go.RowKit Go.Ct
def fV(b:Nat)(xs:List Int)(i:Nat)(r:Int):Nat->Option Int:=Jo (qY b xs) i (if 0<r then some r else none)
theorem nL{m:Nat->Option Int}{k:Nat}{v:Int}(h:m k=some v)(hk:k<64):dS (Ax m k) (k:Int)=Ax m (k+1)/\qR m k++[v]=qR m (k+1):=by
 simp only[Ax,qR,h,dS,Option.isSome_some,if_true,Option.toList,Int.toNat_natCast,and_true]
 exact if_pos (by omega)
theorem nQ{m:Nat->Option Int}{k:Nat}(h:m k=none):Ax m k=Ax m (k+1)/\qR m k=qR m (k+1):=by
 simp[Ax,qR,h]
theorem zU(m:Nat->Option Int){k:Nat}(hk:k<=64):Ax m k<18446744073709551616:=Nat.lt_of_lt_of_le (ew m k) (Nat.pow_le_pow_right (n:=2) (by decide) hk)
theorem Tq(m:Nat->Option Int):∀k,(qR m k).length<=k
 | 0=>Nat.le_refl _
 | k+1=>by have:=Tq m k;simp only[qR,List.length_append];cases m k<;>simp<;>omega
section
variable{n:Nd}{xs:List Int}{ys:List Pr}{w:World}{b:Nat}
theorem Ty(hcv:CV n xs ys){k:Nat}(hk:k<64):Lu n xs ys b (k:Int)=qY b xs k:=by
 unfold Lu qY
 have h1:pN b (k:Int)=b.testBit k:=by rw[zJ b (by omega) (by omega),Int.toNat_natCast]
 have h2:qT b (k:Int)=fT b k:=by unfold qT;rw[Int.toNat_natCast,Nat.min_eq_left (by omega)]
 rw[h1,h2]
 by_cases h:b.testBit k=true<;>simp[h,hcv]
theorem D9{i k:Nat}{r:Int}(hcv:CV n xs ys)(hk:k<64)(h:(k:Int)≠(i:Int)):fV b xs i r k=Lu n xs ys b (k:Int):=by
 rw[Ty hcv hk]
 exact if_neg (by omega)
theorem D6{i k:Nat}{r:Int}(h:(k:Int)=(i:Int)):fV b xs i r k=if 0<r then some r else none:=if_pos (by omega)
theorem U2{o:Option Int}(h:o.isSome=true):o=some (o.getD 0):=by cases o<;>simp_all
theorem Tc{o:Option Int}(h:o.isSome=false):o=none:=by cases o<;>simp_all
set_option maxHeartbeats 800000 in
theorem Mh(i:Nat)(r:Int)(_hi:i<64)(hcv:CV n xs ys)(hb:n.bm=(b:Int))(hb2:b<18446744073709551616)(hr:sB w n xs ys) :
    Calls Tryz.prog 244 #[n.v,.int .i64 (i:Int),.int .i64 r] w λ e w'=>∃x:Option Addr×Nat,e=.returned (cn (Ax (fV b xs i r) 64) (qR (fV b xs i r) 64) x).v/\(qR (fV b xs i r) 64).length<=x.2/\SF w [] [] [] [(x.1,aH (qR (fV b xs i r) 64))] [] w':=by
  have e1:=hr.brN
  refine enter Tryz.func244 Tryz.ntmps244 rfl rfl (SF.s2 hr.br hr.pr) ?_
  simp only[cD]
  simp only[Nd.v,Nd.cells]
  refine J0 ?_;refine bO (λ x3=>?_);refine aJ (λ x6=>?_);refine aG ?_;refine J0 ?_;refine bM ?_;refine aJ (λ x7=>?_);refine J5 ?_;refine aR ?_;refine Ht ?_
  refine oJ [8,9,10,12,13,14,15,16,17,18,19,20,21,22,23,24,25,26,27,28,29,30,31,32,33,34,35,36,37,38,39] (λ y:Nat×Option Addr×Nat=>[(8,.int .i64 ((y.1:Nat):Int))]) (λ y=>y.1<=64/\(qR (fV b xs i r) y.1).length<=y.2.2) (λ y=>[(x7,.cells ⟨[.int .i64 3,.int .i64 0,.int .i64 0,.int .u64 ((Ax (fV b xs i r) y.1:Nat):Int),.slice y.2.1 (qR (fV b xs i r) y.1).length y.2.2,.int .u64 0,.string ⟨#[]⟩,.int .u64 0,.slice none 0 0,.int .i64 0,.int .i64 0,.int .i64 0,.int .i64 0,.int .i64 0]⟩ 47),(x6,.cells ⟨Nd.zero.cells⟩ 47),(x3,.cells ⟨n.cells⟩ 47)]) (λ _=>_) (λ y=>[⟨y.2.1,aH (qR (fV b xs i r) y.1),y.2.2,37,1⟩]) (λ y=>64-y.1) ((0,none,0)) (⟨Nat.zero_le _,Nat.le_refl _⟩) (λ y f hx=>?_) (hw0:=λ w hw=>(hw.kV 37 1).back)
  dsimp only[gZ,List.map,List.cons_append,List.nil_append]
  have hll:=Tq (fV b xs i r) y.1
  refine mD ?_;refine C5 ?_
  refine bC (λ c13=>?_) (λ c13=>?_)
  · refine tB ?_;refine Dd ?_;refine aM (cV (hc:=λ w1 hw=>nP (n:=n) (y.1:Int) hb hb2 (hr.fO hw.done))) (λ x19=>?_);refine aA ?_;refine aB (iY rf rfl) rfl ?_;refine aB (iY rf rfl) rfl ?_;refine J8 ?_;refine Cm ?_;refine tS ?_
    refine bC (λ c24=>?_) (λ c24=>?_)
    · refine L8 ?_;refine Cp ?_;refine J8 ?_;refine J2 ?_;refine aG ?_
      refine bC (λ c28=>?_) (λ c28=>?_)
      · first
         | have hm:fV b xs i r y.1=some r:=by rw[D6 c24,if_pos (by omega)]
         | have hm:fV b xs i r y.1=some ((Lu n xs ys b (y.1:Int)).getD 0):=by rw[D9 hcv (by omega) c24];exact U2 c28
        refine eE [29,30,31,32,33,34,35,36,37,38,39] (λ z:Nat×Option Addr×Nat=>[]) (λ z=>(qR (fV b xs i r) y.1).length+1<=z.2.2) (λ z=>[(x7,.cells ⟨[.int .i64 3,.int .i64 0,.int .i64 0,.int .u64 ((Ax (fV b xs i r) (y.1+1):Nat):Int),.slice z.2.1 (qR (fV b xs i r) (y.1+1)).length z.2.2,.int .u64 0,.string ⟨#[]⟩,.int .u64 0,.slice none 0 0,.int .i64 0,.int .i64 0,.int .i64 0,.int .i64 0,.int .i64 0]⟩ 47),(x6,.cells ⟨Nd.zero.cells⟩ 47),(x3,.cells ⟨n.cells⟩ 47)]) (λ z=>[]) (λ z=>[⟨z.2.1,aH (qR (fV b xs i r) (y.1+1)),z.2.2,37,1⟩]) (by decide) (λ _=>by exact rfl) ?_ (λ z f hx=>?_)
        · refine gX (.one 0 [] (.one 1 [] (.one 2 [] (.one 4 [] (.one 5 [] (.one 6 [] (.two 3 [5] (.one 9 [] (.one 7 [1,5] (.one 8 [] (.one 10 [] (.one 11 [] (.one 12 [] .nil)))))) 0 [] (.two 7 [1,5] (.one 3 [5] (.one 9 [] (.one 8 [] (.one 10 [] (.one 11 [] (.one 12 [] .nil)))))) 0 [] .nil)))))))) ?_
          refine oW ?_;refine bB ?_;refine oW ?_;refine bB ?_
          refine iB (E:=[3,7]) (by decide +kernel) ((.cons ?_ (.cons ?_ .nil)))
          · refine Cr (i:=3) (hq:=(cV (hc:=λ w1 hw=>mS (zU (fV b xs i r) (k:=y.1) (by omega)) (y.1:Int) w1))) (h:=λ x32=>?_)
            refine aS ?_;refine cJ (h:=λ x36=>?_);((refine Ai (h:=λ x37=>?_);try (refine fH (λ h37=>?_))));refine Rz ?_;refine Ay ?_
            refine eY ((0,x37)) ?_ (hw1:=λ w hw=>by obtain⟨k1,k2⟩:=nL hm (by omega);rw[k1,show(qR (fV b xs i r) y.1).length+1=(qR (fV b xs i r) (y.1+1)).length by rw[<- k2];simp,k2] at hw;exact hw.back)
            · exact h37
          · refine Am (i:=7) (h:=λ x36=>?_)
            refine dB (i:=3) (hq:=(cV (hc:=λ w1 hw=>mS (zU (fV b xs i r) (k:=y.1) (by omega)) (y.1:Int) w1))) (h:=λ x32=>?_);refine aS ?_;((refine Ai (h:=λ x37=>?_);try (refine fH (λ h37=>?_))));refine Rz ?_;refine Ay ?_
            refine eY ((0,x37)) ?_ (hw1:=λ w hw=>by obtain⟨k1,k2⟩:=nL hm (by omega);rw[k1,show(qR (fV b xs i r) y.1).length+1=(qR (fV b xs i r) (y.1+1)).length by rw[<- k2];simp,k2] at hw;exact hw.back)
            · exact h37
        dsimp only[gZ,List.map,List.cons_append,List.nil_append]
        refine Kb8 ?_
        refine iJ ((by exact(y.1+1,z.2))) ?_ (hw1:=λ w hw=>by exact hw.back)
        · first
           | exact⟨by omega,by have k2:=(nL hm (by omega)).2;simp only[];rw[<- k2,List.length_append];exact hx⟩
           | exact⟨by omega,by simp only[];rw[<- (nQ hm).2];exact hx.2⟩
      · have hm:fV b xs i r y.1=none:=by
         first
          | (rw[D6 c24,if_neg (by omega)];done)
          | (rw[D9 hcv (by omega) c24];exact Tc c28)
        refine Kc6 ?_
        refine iJ ((by exact(y.1+1,y.2))) ?_ (hw1:=λ w hw=>by(rw[(nQ hm).1,(nQ hm).2] at hw;exact hw.back))
        · first
           | exact⟨by omega,by have k2:=(nL hm (by omega)).2;simp only[];rw[<- k2,List.length_append];exact hx⟩
           | exact⟨by omega,by simp only[];rw[<- (nQ hm).2];exact hx.2⟩
    · refine aV ?_;refine J2 ?_;refine aG ?_
      refine bC (λ c28=>?_) (λ c28=>?_)
      · first
         | have hm:fV b xs i r y.1=some r:=by rw[D6 c24,if_pos (by omega)]
         | have hm:fV b xs i r y.1=some ((Lu n xs ys b (y.1:Int)).getD 0):=by rw[D9 hcv (by omega) c24];exact U2 c28
        refine eE [29,30,31,32,33,34,35,36,37,38,39] (λ z:Nat×Option Addr×Nat=>[]) (λ z=>(qR (fV b xs i r) y.1).length+1<=z.2.2) (λ z=>[(x7,.cells ⟨[.int .i64 3,.int .i64 0,.int .i64 0,.int .u64 ((Ax (fV b xs i r) (y.1+1):Nat):Int),.slice z.2.1 (qR (fV b xs i r) (y.1+1)).length z.2.2,.int .u64 0,.string ⟨#[]⟩,.int .u64 0,.slice none 0 0,.int .i64 0,.int .i64 0,.int .i64 0,.int .i64 0,.int .i64 0]⟩ 47),(x6,.cells ⟨Nd.zero.cells⟩ 47),(x3,.cells ⟨n.cells⟩ 47)]) (λ z=>[]) (λ z=>[⟨z.2.1,aH (qR (fV b xs i r) (y.1+1)),z.2.2,37,1⟩]) (by decide) (λ _=>by exact rfl) ?_ (λ z f hx=>?_)
        · refine gX (.one 0 [] (.one 1 [] (.one 2 [] (.one 4 [] (.one 5 [] (.one 6 [] (.two 3 [5] (.one 9 [] (.one 7 [1,5] (.one 8 [] (.one 10 [] (.one 11 [] (.one 12 [] .nil)))))) 0 [] (.two 7 [1,5] (.one 3 [5] (.one 9 [] (.one 8 [] (.one 10 [] (.one 11 [] (.one 12 [] .nil)))))) 0 [] .nil)))))))) ?_
          refine oW ?_;refine bB ?_;refine oW ?_;refine bB ?_
          refine iB (E:=[3,7]) (by decide +kernel) ((.cons ?_ (.cons ?_ .nil)))
          · refine Cr (i:=3) (hq:=(cV (hc:=λ w1 hw=>mS (zU (fV b xs i r) (k:=y.1) (by omega)) (y.1:Int) w1))) (h:=λ x32=>?_)
            refine aS ?_;refine cJ (h:=λ x36=>?_);((refine Ai (h:=λ x37=>?_);try (refine fH (λ h37=>?_))));refine Rz ?_;refine Ay ?_
            refine eY ((0,x37)) ?_ (hw1:=λ w hw=>by obtain⟨k1,k2⟩:=nL hm (by omega);rw[k1,show(qR (fV b xs i r) y.1).length+1=(qR (fV b xs i r) (y.1+1)).length by rw[<- k2];simp,k2] at hw;exact hw.back)
            · exact h37
          · refine Am (i:=7) (h:=λ x36=>?_)
            refine dB (i:=3) (hq:=(cV (hc:=λ w1 hw=>mS (zU (fV b xs i r) (k:=y.1) (by omega)) (y.1:Int) w1))) (h:=λ x32=>?_);refine aS ?_;((refine Ai (h:=λ x37=>?_);try (refine fH (λ h37=>?_))));refine Rz ?_;refine Ay ?_
            refine eY ((0,x37)) ?_ (hw1:=λ w hw=>by obtain⟨k1,k2⟩:=nL hm (by omega);rw[k1,show(qR (fV b xs i r) y.1).length+1=(qR (fV b xs i r) (y.1+1)).length by rw[<- k2];simp,k2] at hw;exact hw.back)
            · exact h37
        dsimp only[gZ,List.map,List.cons_append,List.nil_append]
        refine Kb8 ?_
        refine iJ ((by exact(y.1+1,z.2))) ?_ (hw1:=λ w hw=>by exact hw.back)
        · first
           | exact⟨by omega,by have k2:=(nL hm (by omega)).2;simp only[];rw[<- k2,List.length_append];exact hx⟩
           | exact⟨by omega,by simp only[];rw[<- (nQ hm).2];exact hx.2⟩
      · have hm:fV b xs i r y.1=none:=by
         first
          | (rw[D6 c24,if_neg (by omega)];done)
          | (rw[D9 hcv (by omega) c24];exact Tc c28)
        refine Kc6 ?_
        refine iJ ((by exact(y.1+1,y.2))) ?_ (hw1:=λ w hw=>by(rw[(nQ hm).1,(nQ hm).2] at hw;exact hw.back))
        · first
           | exact⟨by omega,by have k2:=(nL hm (by omega)).2;simp only[];rw[<- k2,List.length_append];exact hx⟩
           | exact⟨by omega,by simp only[];rw[<- (nQ hm).2];exact hx.2⟩
  · refine bS rfl ?_;refine oI ?_;refine J5 ?_
    refine bA Tryz.results244 (λ w hw=>?_)
    have hy:y.1=64:=by omega
    rw[hy] at hw hx ⊢
    generalize Ax (fV b xs i r) 64=B at hw ⊢
    generalize qR (fV b xs i r) 64=L at hw hx ⊢
    exact⟨y.2,rfl,hx.2,SF.frz hw.aW⟩
end
end

end Go.Proofs.YtbajmaoegmbfgaaGreat

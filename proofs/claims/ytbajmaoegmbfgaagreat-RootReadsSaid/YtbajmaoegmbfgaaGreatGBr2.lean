/- Branches: what Lookup and Sole compute. -/
import Derived.Test.YtbajmaoegmbfgaaGreatGBr
import Derived.Test.YtbajmaoegmbfgaaGreatGNode4
import Derived.Test.YtbajmaoegmbfgaaGreatGAr9
import Derived.Test.YtbajmaoegmbfgaaGreatGPaX
import Derived.Test.YtbajmaoegmbfgaaGreatGNode2
import Derived.Test.YtbajmaoegmbfgaaGreatGJoin

set_option linter.unusedSimpArgs false
set_option linter.unusedVariables false
namespace Go.Ct
section
open Go Go.RowKit
end
end Go.Ct
namespace Go.Proofs.YtbajmaoegmbfgaaGreat
section
open Go.RowKit Go.Ct
def CV(n:Nd)(xs:List Int)(ys:List Pr):Prop:=n.kind=3/\bI n xs ys
theorem CV.bv{n:Nd}{xs:List Int}{ys:List Pr}{b:Nat}(h:CV n xs ys)(hb:n.bm=(b:Int))(hb2:b<18446744073709551616):BV b xs:=by
 obtain⟨h1,h2⟩:=yP h.1 h.2
 rw[hb,wV hb2] at h1
 exact⟨hb2,by omega,h2⟩
open Classical in
noncomputable def Ll (n:Nd) (xs:List Int) (ys:List Pr) (b:Nat) (i:Int):Option Int:=if CV n xs ys/\pS b i=true then some (xs.getD (rA b i) 0) else none
open Classical in
noncomputable def Za (n:Nd) (xs:List Int) (ys:List Pr):Option Int:=if CV n xs ys/\xs.length=1 then some (xs.getD 0 0) else none
theorem sA{b:Nat}{i:Int}(h:pS b i=true):0<=i/\i<64/\b.testBit i.toNat=true/\rA b i=gW b i.toNat:=by
 simp only[pS,Bool.and_eq_true,decide_eq_true_eq] at h
 exact⟨h.1,h.2.1,h.2.2,by unfold rA;congr 1;omega⟩
theorem aAa{b:Nat}{xs:List Int}(h:BV b xs){i:Int}(hh:pS b i=true):rA b i<xs.length:=by
 obtain⟨h1,h2,h3,h4⟩:=sA hh
 rw[h4,h.len]
 exact oG (by omega) h3
section
variable{n:Nd}{xs:List Int}{ys:List Pr}{w:World}{b:Nat}
theorem eu(hb:n.bm=(b:Int))(hb2:b<18446744073709551616)(hr:rK w n xs ys):Calls Tryz.prog 243 #[n.v] w λ e w'=>∃r:Bool,e=.returned (.bool r)/\(r=true↔CV n xs ys)/\St w [] [] w':=by
 refine enter Tryz.func243 Tryz.ntmps243 rfl rfl (SF.s0 w) ?_
 simp only[cN]
 simp only[Nd.v,Nd.cells]
 all_goals (refine J0 ?_;refine bW (λ x1=>?_);refine J1 ?_;refine iZ ?_;refine mY ?_;refine aA ?_)
 all_goals ((refine fS 6 (λ g6=>?_) (λ g6=>?_)<;>(first|refine aN ?_|(refine aF ?_;refine bX ?_))))
 all_goals ((first|refine aN ?_|(refine aF ?_;refine aC (c0 (V:=.bool) (hc:=λ w1 hw=>Gl (n:=n) hb hb2 (hr.gM hw.done))) (λ x8 h8=>?_)));refine cX ?_;refine J1 ?_)
 all_goals
 refine aU Tryz.results243 (λ w hw=>?_)
 refine⟨_,rfl,?_,hw.done⟩
 simp_all[CV]
theorem nY(i:Int)(hb:n.bm=(b:Int))(hb2:b<18446744073709551616)(hr:rK w n xs ys):Calls Tryz.prog 216 #[n.v,.int .i64 i] w λ e w'=>e=.returned (.tuple #[.int .i64 ((Ll n xs ys b i).getD 0),.bool (Ll n xs ys b i).isSome])/\St w [] [] w':=by
 have e1:=hr.brN
 refine enter Tryz.func216 Tryz.ntmps216 rfl rfl (SF.s2 hr.br hr.pr) ?_
 simp only[cN]
 simp only[Nd.v,Nd.cells,hb,e1]
 all_goals (refine J0 ?_;refine bW (λ x2=>?_);refine J8 ?_;refine aW ?_;refine qF ?_;refine aC (c0 (V:=.bool) (hc:=λ w1 hw=>by rw[<- e1,<- hb];exact eu (n:=n) hb hb2 (hr.gM hw.done))) (λ x7 h7=>?_);refine Hp ?_)
 all_goals ((refine fS 9 (λ g9=>?_) (λ g9=>?_)<;>(first|refine aN ?_|(refine aF ?_;refine aE ?_))))
 all_goals (refine jb ?_;(first|refine aN ?_|(refine aF ?_;refine aY (cV (hc:=λ w1 hw=>Nj hb2 i w1)) (λ x13=>?_)));refine Sg ?_;refine aH ?_)
 all_goals
 refine bG (λ c15=>?_) (λ c15=>?_)
 ·all_goals refine dh ?_
  all_goals
   refine bE Tryz.results216 (λ w hw=>?_)
   rw[show Ll n xs ys b i=none from if_neg (by simp_all)];exact⟨rfl,hw.done⟩
 ·try exact nv c15
  all_goals
   have hcv:CV n xs ys:=h7.1 (by simpa using g9)
   have hpl:=aAa (hcv.bv hb hb2) c15
  all_goals (refine lG ?_;refine dX [(0,[]),(1,[]),(2,[]),(3,[]),(4,[]),(5,[1]),(6,[]),(7,[]),(8,[]),(9,[])] ?_;refine nA ?_;refine nA ?_;refine aQ ?_;refine cL (i:=5) (hq:=(cV (hc:=λ w1 hw=>Nm hb2 i w1))) (h:=λ x21=>?_);refine Hq ?_;refine o6 ?_)
  all_goals
   refine bE Tryz.results216 (λ w hw=>?_)
   rw[show Ll n xs ys b i=some (xs.getD (rA b i) 0) from if_pos ⟨hcv,c15⟩];exact⟨rfl,hw.done⟩
theorem Il(hb:n.bm=(b:Int))(hb2:b<18446744073709551616)(hr:rK w n xs ys):Calls Tryz.prog 245 #[n.v] w λ e w'=>e=.returned (.tuple #[.int .i64 ((Za n xs ys).getD 0),.bool (Za n xs ys).isSome])/\St w [] [] w':=by
 have e1:=hr.brN
 refine enter Tryz.func245 Tryz.ntmps245 rfl rfl (SF.s2 hr.br hr.pr) ?_
 simp only[cN]
 simp only[Nd.v,Nd.cells,e1]
 all_goals (refine J0 ?_;refine bW (λ x1=>?_);refine J8 ?_;refine aW ?_;refine qF ?_;refine aC (c0 (V:=.bool) (hc:=λ w1 hw=>by rw[<- e1];exact eu (n:=n) hb hb2 (hr.gM hw.done))) (λ x5 h5=>?_);refine Hp ?_)
 all_goals ((refine fS 7 (λ g7=>?_) (λ g7=>?_)<;>(first|refine aN ?_|(refine aF ?_;refine aE ?_))))
 all_goals ((first|refine aN ?_|(refine aF ?_;refine bX ?_));(first|refine aN ?_|(refine aF ?_;refine eH ?_));refine Sj ?_;refine aH ?_)
 all_goals
 refine bG (λ c12=>?_) (λ c12=>?_)
 ·all_goals refine dh ?_
  all_goals
   refine bE Tryz.results245 (λ w hw=>?_)
   rw[show Za n xs ys=none from if_neg (by simp_all;try omega)];exact⟨rfl,hw.done⟩
 ·try exact nv c12
  all_goals
   have hcv:CV n xs ys:=h5.1 (by simpa using g7)
   have hl1:xs.length=1:=by omega
  all_goals (refine bD ?_;refine iZ ?_;refine aB (eK (k:=0) rf rf gK cG fin (by omega) (by omega)) rfl ?_;refine bX ?_;refine J8 ?_)
  all_goals
   refine bE Tryz.results245 (λ w hw=>?_)
   rw[show Za n xs ys=some (xs.getD 0 0) from if_pos ⟨hcv,hl1⟩];exact⟨rfl,hw.done⟩
end
end

/- Branches: a C-node of a bitmap and a list. -/
section
open Go.RowKit Go.Ct
def cn(b:Nat)(xs:List Int)(x:Option Addr×Nat):Nd:={Nd.zero with kind:=3,bm:=(b:Int),brA:=x.1,brN:=xs.length,brC:=x.2}
theorem xw{b:Nat}{xs:List Int}(h:BV b xs)(x:Option Addr×Nat){p:Int}(hp:0<=p):CV {cn b xs x with prev:=p} xs [] :=
 ⟨rfl,by simp[rP,Nd.own,Nd.kA,Nd.jK,cn],by simp[cn,Nd.zero],hp,by simp[cn,Nd.zero],.inr (.inr (.inl ⟨rfl,by show(xs.length:Int)=yI (b:Int);rw[wV h.lt,h.len],h.pos⟩))⟩
theorem sw{b:Nat}{xs:List Int}(h:BV b xs)(x:Option Addr×Nat):CV (cn b xs x) xs []:=xw h x (p:=0) (Int.le_refl _)
end

/- Nodes and lists of pairs out of tapes. -/
end Go.Proofs.YtbajmaoegmbfgaaGreat
namespace Go.Ct
section
end
end Go.Ct
namespace Go.Proofs.YtbajmaoegmbfgaaGreat
section
open Go.RowKit Go.Ct
structure aAr(refs:Int)(n:Nd)(xs:List Int)(ys:List Pr):Prop where
 valid:bI n xs ys
 brN:n.brN=xs.length
 prN:n.prN=ys.length
 brC:n.brN<=n.brC
 dW:n.prN<=n.dW
 bm:∃b:Nat,n.bm=(b:Int)/\b<18446744073709551616
 xs64:xs.length<=64
 ys2:ys.length<=2
 key:n.key.size<=4
 cells:n.main=0/\n.prev=0/\n.status=0
 gen:0<=n.gen/\n.gen<=3
 kind:n.kind=2∨n.kind=3∨n.kind=4∨n.kind=5∨n.kind=6∨n.kind=8
 refs:(∀r∈xs,1<=r/\r<=refs)/\0<=n.bF/\n.bF<=refs/\0<=n.exp/\n.exp<=refs/\0<=n.new/\n.new<=refs
end

/- Tombs: Untombed, Contracted, Grown, Shrunk: both sides. -/
section
open Go.RowKit Go.Ct
def tmb(s:Nd):Nd:={Nd.zero with kind:=5,hash:=s.hash,key:=s.key,val:=s.val}
def Hf(n:Nd):Nd:=if n.kind=5 then{Nd.zero with kind:=4,hash:=n.hash,key:=n.key,val:=n.val} else Nd.zero
theorem H3(n:Nd)(w:World):Calls Tryz.prog 219 #[n.v] w λ e w'=>e=.returned (.tuple #[(Hf n).v,.bool (decide (n.kind=5))])/\St w [] [] w':=by
 refine enter Tryz.func219 Tryz.ntmps219 rfl rfl (SF.s0 w) ?_
 simp only[cN]
 simp only[Nd.v,Nd.cells]
 all_goals (refine J0 ?_;refine bW (λ x1=>?_);refine aJ (λ x2=>?_);refine jM ?_;refine iZ ?_;refine pP ?_;refine aH ?_)
 all_goals
 refine bG (λ c6=>?_) (λ c6=>?_)
 ·all_goals (refine J0 ?_;refine bO ?_;refine yN ?_)
  all_goals
   refine bE Tryz.results219 (λ w hw=>?_)
   exact⟨by rw[show Hf n=Nd.zero from if_neg (by assumption),decide_eq_false (by assumption)];rfl,hw.done⟩
 ·all_goals (refine bD ?_;refine iZ ?_;refine J3 ?_;refine J3 ?_;refine bO ?_;refine yN ?_)
  all_goals
   refine bE Tryz.results219 (λ w hw=>?_)
   exact⟨by rw[show Hf n={Nd.zero with kind:=4,hash:=n.hash,key:=n.key,val:=n.val} from if_pos (by omega),decide_eq_true (by omega)];rfl,hw.done⟩
section
variable{n s:Nd}{xs:List Int}{ys:List Pr}{w:World}{b:Nat}
def LV(n:Nd)(xs:List Int)(ys:List Pr):Prop:=n.kind=6/\bI n xs ys
theorem Nh(hb:n.bm=(b:Int))(hb2:b<18446744073709551616)(hr:rK w n xs ys):Calls Tryz.prog 255 #[n.v] w λ e w'=>∃r:Bool,e=.returned (.bool r)/\(r=true↔LV n xs ys)/\St w [] [] w':=by
 refine enter Tryz.func255 Tryz.ntmps255 rfl rfl (SF.s0 w) ?_
 simp only[cN]
 simp only[Nd.v,Nd.cells]
 all_goals (refine J0 ?_;refine bW (λ x1=>?_);refine J1 ?_;refine iZ ?_;refine mY ?_;refine aA ?_)
 all_goals ((refine fS 6 (λ g6=>?_) (λ g6=>?_)<;>(first|refine aN ?_|(refine aF ?_;refine bX ?_))))
 all_goals ((first|refine aN ?_|(refine aF ?_;refine aC (c0 (V:=.bool) (hc:=λ w1 hw=>Gl (n:=n) hb hb2 (hr.gM hw.done))) (λ x8 h8=>?_)));refine cX ?_;refine J1 ?_)
 all_goals
 refine aU Tryz.results255 (λ w hw=>?_)
 refine⟨_,rfl,?_,hw.done⟩
 simp_all[LV]
open Classical in
noncomputable def Sd (n:Nd) (xs:List Int) (ys:List Pr) (level:Int) (s:Nd):Bool:=decide ((Za n xs ys).isSome=true/\0<level/\s.kind=4)
def qb(t:Bool)(n s:Nd):Nd:=if t=true then tmb s else n
def ja{α:Type}(t:Bool)(l:List α):List α:=if t=true then [] else l
theorem Df(level:Int)(s:Nd)(hb:n.bm=(b:Int))(hb2:b<18446744073709551616)(hr:rK w n xs ys):Calls Tryz.prog 221 #[n.v,.int .i64 level,s.v] w λ e w'=>e=.returned (qb (Sd n xs ys level s) n s).v/\St w [] [] w':=by
 refine enter Tryz.func221 Tryz.ntmps221 rfl rfl (SF.s0 w) ?_
 simp only[cN]
 simp only[Nd.v,Nd.cells]
 all_goals (refine J0 ?_;refine bW (λ x3=>?_);refine bW (λ x5=>?_);refine aJ (λ x6=>?_);refine Hs ?_;refine qF ?_;refine aY (cV (hc:=λ w1 hw=>Il (n:=n) hb hb2 (hr.gM hw.done))) (λ x11=>?_);refine aA ?_;refine aB (bU rf rfl) rfl ?_;refine aB (bU rf rfl) rfl ?_;refine J8 ?_;refine jN ?_)
 all_goals ((refine fS 15 (λ g15=>?_) (λ g15=>?_)<;>(first|refine aN ?_|(refine aF ?_;refine aA ?_))))
 all_goals (refine I3 ?_;refine aA ?_)
 all_goals (first|refine aN ?_|(refine fS 19 (λ g19=>?_) (λ g19=>?_)<;>(first|refine aN ?_|(refine aF ?_;refine aE ?_))))
 all_goals (refine vj ?_;refine aH ?_)
 all_goals
 refine bG (λ c23=>?_) (λ c23=>?_)
 ·try exact nv c23
  all_goals (refine iZ ?_;refine J3 ?_;refine J3 ?_;refine wJ ?_)
  all_goals
   refine bE Tryz.results221 (λ w hw=>?_)
   rw[show Sd n xs ys level s=true from decide_eq_true ⟨by assumption,by omega,by omega⟩];exact⟨rfl,hw.done⟩
 ·all_goals (refine bD ?_;refine qF ?_;refine J5 ?_)
  all_goals
   refine bE Tryz.results221 (λ w hw=>?_)
   rw[show Sd n xs ys level s=false from decide_eq_false (by rintro ⟨t1,t2,t3⟩;first|omega|(clear hw;simp_all;done))];exact⟨rfl,hw.done⟩
end
end

/- Tombs: Grown, Shrunk: both sides; agrees. -/
section
open Go.RowKit Go.Ct
def aa(o:Option (List Pr))(h:Int)(x:Option Addr×Nat):Nd:=match o with|some m=>{Nd.zero with kind:=6,hash:=h,prA:=x.1,prN:=m.length,dW:=x.2}|none=>Nd.zero
def Xp(o:Option (List Pr)):List Pr:=o.getD []
def Md(o:Option (List Pr))(h:Int)(x:Option Addr×Nat):Nd:=match o with|some m=>if m.length=1 then{Nd.zero with kind:=5,hash:=h,key:=(m.getD 0 (⟨#[]⟩,0)).1,val:=(m.getD 0 (⟨#[]⟩,0)).2} else{Nd.zero with kind:=6,hash:=h,prA:=x.1,prN:=m.length,dW:=x.2}|none=>Nd.zero
def Hv(o:Option (List Pr)):List Pr:=match o with|some m=>if m.length=1 then [] else m|none=>[]
open Classical in
noncomputable def lA (n:Nd) (xs:List Int) (ys:List Pr) (k:ByteArray) (v:Int):Option (List Pr):=if LV n xs ys/\k.size<=64 then some (Nu ys k v) else none
open Classical in
noncomputable def pB (n:Nd) (xs:List Int) (ys:List Pr) (k:ByteArray):Option (List Pr):=if LV n xs ys/\(eN ys k).isSome=true then some (rM ys k) else none
def zn(w:World)(o:Option (List Pr))(h:Int)(e:Ending)(w':World):Prop:=∃x:Option Addr×Nat,e=.returned (.tuple #[(aa o h x).v,.bool o.isSome])/\(Xp o).length<=x.2/\SF w [] [] [] [(x.1,dW (Xp o))] [] w'
def xp(w:World)(o:Option (List Pr))(h:Int)(e:Ending)(w':World):Prop:=∃x:Option Addr×Nat,e=.returned (.tuple #[(Md o h x).v,.bool o.isSome])/\(Hv o).length<=x.2/\SF w [] [] [] [(x.1,dW (Hv o))] [] w'
section
variable{n s:Nd}{xs:List Int}{ys:List Pr}{w:World}{b:Nat}
theorem Q5(k:ByteArray)(v:Int)(hb:n.bm=(b:Int))(hb2:b<18446744073709551616)(hr:rK w n xs ys)(hy:ys.length<=150000000000):Calls Tryz.prog 247 #[n.v,.string k,.int .u64 v] w (zn w (lA n xs ys k v) n.hash):=by
 have e2:=hr.prN
 refine enter Tryz.func247 Tryz.ntmps247 rfl rfl (SF.s1 hr.pr) ?_
 simp only[cN]
 simp only[Nd.v,Nd.cells,e2]
 all_goals (refine J0 ?_;refine bW (λ x3=>?_);refine aJ (λ x6=>?_);refine jM ?_;refine qF ?_;refine aC (c0 (V:=.bool) (hc:=λ w1 hw=>by rw[<- e2];exact Nh (n:=n) hb hb2 (hr.gM hw.done))) (λ x9 h9=>?_);refine Hp ?_)
 all_goals ((refine fS 11 (λ g11=>?_) (λ g11=>?_)<;>(first|refine aN ?_|(refine aF ?_;refine aA ?_))))
 all_goals ((first|refine aN ?_|(refine aF ?_;refine mL ?_));refine I3 ?_;refine aH ?_)
 all_goals
 refine bG (λ c15=>?_) (λ c15=>?_)
 ·all_goals (refine J0 ?_;refine bO ?_;refine yN ?_)
  all_goals
   refine bE Tryz.results247 (λ w hw=>?_)
   rw[show lA n xs ys k v=none from if_neg (by rintro ⟨t1,t2⟩;have:=h9.2 t1;clear hw;first|omega|(simp_all;done)|(simp_all;omega))];exact⟨(none,0),rfl,Nat.le_refl _,(hw.K1 none).fin⟩
 ·try exact nv c15
  all_goals (refine lG ?_;refine dX [(0,[]),(1,[]),(2,[]),(3,[]),(4,[]),(5,[]),(6,[1]),(7,[]),(8,[]),(9,[])] ?_;refine nA ?_;refine nA ?_;refine iP ?_;refine bA (i:=6) (hq:=(cF (hc:=λ w1 hw=>fo (l:=ys) k v (hw.cl fin) (by omega)))) (h:=λ x23 h23=>?_);refine iK ?_;refine A6 ?_)
  all_goals
   refine bE Tryz.results247 (λ w hw=>?_)
   rw[show lA n xs ys k v=some (Nu ys k v) from if_pos ⟨h9.1 (by clear hw;simp_all),by omega⟩];exact⟨x23,rfl,h23,hw.fin⟩
theorem Oh(k:ByteArray)(hb:n.bm=(b:Int))(hb2:b<18446744073709551616)(hr:rK w n xs ys)(hy:ys.length<=150000000000):Calls Tryz.prog 251 #[n.v,.string k] w (xp w (pB n xs ys k) n.hash):=by
 have e2:=hr.prN
 refine enter Tryz.func251 Tryz.ntmps251 rfl rfl (SF.s1 hr.pr) ?_
 simp only[cN]
 simp only[Nd.v,Nd.cells,e2]
 all_goals (refine J0 ?_;refine bW (λ x2=>?_);refine aJ (λ x4=>?_);refine jM ?_;refine iZ ?_;refine aA ?_;refine aY (cV (hc:=λ w1 hw=>Jm (l:=ys) k (hw.cl fin) (by omega))) (λ x13=>?_);refine aA ?_;refine aB (bU rf rfl) rfl ?_;refine aB (bU rf rfl) rfl ?_;refine J8 ?_;refine qF ?_;refine aC (c0 (V:=.bool) (hc:=λ w1 hw=>by rw[<- e2];exact Nh (n:=n) hb hb2 (hr.gM hw.done))) (λ x17 h17=>?_);refine Hp ?_)
 all_goals ((refine fS 19 (λ g19=>?_) (λ g19=>?_)<;>(first|refine aN ?_|(refine aF ?_;refine aA ?_))))
 all_goals (refine Sg ?_;refine aH ?_)
 all_goals
 refine bG (λ c22=>?_) (λ c22=>?_)
 ·all_goals (refine J0 ?_;refine bO ?_;refine yN ?_)
  all_goals
   refine bE Tryz.results251 (λ w hw=>?_)
   rw[show pB n xs ys k=none from if_neg (by rintro ⟨t1,t2⟩;have:=h17.2 t1;clear hw;simp_all)];exact⟨(none,0),rfl,Nat.le_refl _,(hw.K1 none).fin⟩
 ·try exact nv c22
  all_goals (refine bD ?_;refine iZ ?_;refine aA ?_;refine aC (cF (hc:=λ w1 hw=>W5 (l:=ys) k (hw.cl fin) (by omega))) (λ x27 h27=>?_);refine jM ?_;refine J2 ?_;refine eH ?_;refine uS ?_)
  all_goals
   refine bG (λ c30=>?_) (λ c30=>?_)
   ·all_goals (refine aW ?_;refine fL [0,1,2,3,4,5,6,7,8,9,10,11,12] ?_;refine nA ?_;refine aQ ?_;refine bS (i:=3) (hq:=(Ga (k:=0) rf rf gK cD fin (by omega) (by omega))) (h:=?_);refine nA ?_;refine aQ ?_;refine bS (i:=7) (hq:=(Ga (k:=0) rf rf gK cD fin (by omega) (by omega))) (h:=?_);refine aT ?_;refine bS (i:=9) (hq:=(Mj (q:=0) (lst:=rM ys k) rf cG fin (by omega))) (h:=?_);refine iK ?_;refine A6 ?_)
    all_goals
    refine bE Tryz.results251 (λ w hw=>?_)
    have e1:(rM ys k).length=1:=by omega
    rw[show pB n xs ys k=some (rM ys k) from if_pos ⟨h17.1 (by clear hw;simp_all),by clear hw;simp_all⟩];exact⟨(none,0),by simp only[Md,if_pos e1];rfl,by simp only[Hv,if_pos e1];exact Nat.le_refl _,by simp only[Hv,if_pos e1];exact(hw.K1 none).fin⟩
   ·all_goals (refine bD ?_;refine iZ ?_;refine aA ?_;refine bO ?_;refine yN ?_)
    all_goals
    refine bE Tryz.results251 (λ w hw=>?_)
    have e1:¬(rM ys k).length=1:=by omega
    rw[show pB n xs ys k=some (rM ys k) from if_pos ⟨h17.1 (by clear hw;simp_all),by clear hw;simp_all⟩];exact⟨x27,by simp only[Md,if_neg e1];rfl,by simp only[Hv,if_neg e1];exact h27,by simp only[Hv,if_neg e1];exact hw.fin⟩
end
end

/- Branches: lists of lists, joined; the C-node of them. -/
end Go.Proofs.YtbajmaoegmbfgaaGreat
namespace Go.Ct
section
open Go Go.RowKit
section
variable{P:Program}{n:Nat}{S:List (Nat×Value)}
variable{w0 w w':World}{M:List Nat}{H H':List (Nat×Obj)}{A F F':Fr}{O O':List Ow}{G:World->Prop}
variable{d:Nat}{ty:TypeId}{pos:String}{af:Array Edge}{gd:Option (Nat×Bool)}{dst:Option Nat}{x y z:Operand}{t t2 e:TypeId}{p a:Option Addr}{i m k c c2:Nat}
end
end
end Go.Ct
namespace Go.Proofs.YtbajmaoegmbfgaaGreat
section
open Go Go.RowKit Go.Ct
end

/- Branches: Inserted, Updated, Removed. -/
section
open Go.RowKit Go.Ct
open Classical in
noncomputable def jc (n:Nd) (xs:List Int) (ys:List Pr) (b:Nat) (i r:Int):Option (Nat×List Int):=if CV n xs ys/\(0<=i/\i<64)/\1<=r/\pS b i=false then some (eF b i,wC xs (rA b i) r) else none
open Classical in
noncomputable def iz (n:Nd) (xs:List Int) (ys:List Pr) (b:Nat) (i r:Int):Option (Nat×List Int):=if CV n xs ys/\1<=r/\pS b i=true then some (b,zA xs (rA b i) r) else none
open Classical in
noncomputable def jd (n:Nd) (xs:List Int) (ys:List Pr) (b:Nat) (i:Int):Option (Nat×List Int):=if CV n xs ys/\pS b i=true then some (vE b i,sD xs (rA b i)) else none
def mT(o:Option (Nat×List Int))(x:Option Addr×Nat):Nd:=match o with|some q=>cn q.1 q.2 x|none=>Nd.zero
def lZ(o:Option (Nat×List Int)):List Int:=match o with|some q=>q.2|none=>[]
def Xa(w:World)(o:Option (Nat×List Int))(e:Ending)(w':World):Prop:=∃x:Option Addr×Nat,e=.returned (.tuple #[(mT o x).v,.bool o.isSome])/\(lZ o).length<=x.2/\SF w [] [] [] [(x.1,aG (lZ o))] [] w'
section
variable{n:Nd}{xs:List Int}{ys:List Pr}{w:World}{b:Nat}
end
end

/- Branches: the reference's build, Inserted, Updated, Removed. -/
section
open Go.RowKit Go.Ct
def gR(b:Nat)(xs:List Int)(i:Nat)(r:Int):Nat->Option Int:=Me (sX b xs) i (if 0<r then some r else none)
theorem nZ{m:Nat->Option Int}{k:Nat}{v:Int}(h:m k=some v)(hk:k<64):eF (A7 m k) (k:Int)=A7 m (k+1)/\rG m k++[v]=rG m (k+1):=by
 simp only[A7,rG,h,eF,Option.isSome_some,if_true,Option.toList,Int.toNat_natCast,and_true]
 exact if_pos (by omega)
theorem jL{m:Nat->Option Int}{k:Nat}(h:m k=none):A7 m k=A7 m (k+1)/\rG m k=rG m (k+1):=by
 simp[A7,rG,h]
theorem Ad(m:Nat->Option Int){k:Nat}(hk:k<=64):A7 m k<18446744073709551616:=Nat.lt_of_lt_of_le (gi m k) (Nat.pow_le_pow_right (n:=2) (by decide) hk)
theorem Ve(m:Nat->Option Int):∀k,(rG m k).length<=k
 | 0=>Nat.le_refl _
 | k+1=>by have:=Ve m k;simp only[rG,List.length_append];cases m k<;>simp<;>omega
section
variable{n:Nd}{xs:List Int}{ys:List Pr}{w:World}{b:Nat}
theorem Uk(hcv:CV n xs ys){k:Nat}(hk:k<64):Ll n xs ys b (k:Int)=sX b xs k:=by
 unfold Ll sX
 have h1:pS b (k:Int)=b.testBit k:=by rw[A1 b (by omega) (by omega),Int.toNat_natCast]
 have h2:rA b (k:Int)=gW b k:=by unfold rA;rw[Int.toNat_natCast,Nat.min_eq_left (by omega)]
 rw[h1,h2]
 by_cases h:b.testBit k=true<;>simp[h,hcv]
theorem D8{i k:Nat}{r:Int}(hcv:CV n xs ys)(hk:k<64)(h:(k:Int)≠(i:Int)):gR b xs i r k=Ll n xs ys b (k:Int):=by
 rw[Uk hcv hk]
 exact if_neg (by omega)
theorem D0{i k:Nat}{r:Int}(h:(k:Int)=(i:Int)):gR b xs i r k=if 0<r then some r else none:=if_pos (by omega)
theorem Ts{o:Option Int}(h:o.isSome=true):o=some (o.getD 0):=by cases o<;>simp_all
theorem Uj{o:Option Int}(h:o.isSome=false):o=none:=by cases o<;>simp_all
set_option maxHeartbeats 800000 in
theorem Kr(i:Nat)(r:Int)(_hi:i<64)(hcv:CV n xs ys)(hb:n.bm=(b:Int))(hb2:b<18446744073709551616)(hr:rK w n xs ys) :
    Calls Tryz.prog 244 #[n.v,.int .i64 (i:Int),.int .i64 r] w λ e w'=>∃x:Option Addr×Nat,e=.returned (cn (A7 (gR b xs i r) 64) (rG (gR b xs i r) 64) x).v/\(rG (gR b xs i r) 64).length<=x.2/\SF w [] [] [] [(x.1,aG (rG (gR b xs i r) 64))] [] w':=by
  have e1:=hr.brN
  refine enter Tryz.func244 Tryz.ntmps244 rfl rfl (SF.s2 hr.br hr.pr) ?_
  simp only[cN]
  simp only[Nd.v,Nd.cells]
  all_goals (refine J0 ?_;refine bW (λ x3=>?_);refine aJ (λ x6=>?_);refine aH ?_;refine J0 ?_;refine bO ?_;refine aJ (λ x7=>?_);refine J5 ?_;refine aW ?_;refine Hu ?_)
  all_goals
   refine oR [8,9,10,12,13,14,15,16,17,18,19,20,21,22,23,24,25,26,27,28,29,30,31,32,33,34,35,36,37,38,39] (λ y:Nat×Option Addr×Nat=>[(8,.int .i64 ((y.1:Nat):Int))]) (λ y=>y.1<=64/\(rG (gR b xs i r) y.1).length<=y.2.2) (λ y=>[(x7,.cells ⟨[.int .i64 3,.int .i64 0,.int .i64 0,.int .u64 ((A7 (gR b xs i r) y.1:Nat):Int),.slice y.2.1 (rG (gR b xs i r) y.1).length y.2.2,.int .u64 0,.string ⟨#[]⟩,.int .u64 0,.slice none 0 0,.int .i64 0,.int .i64 0,.int .i64 0,.int .i64 0,.int .i64 0]⟩ 47),(x6,.cells ⟨Nd.zero.cells⟩ 47),(x3,.cells ⟨n.cells⟩ 47)]) (λ _=>_) (λ y=>[⟨y.2.1,aG (rG (gR b xs i r) y.1),y.2.2,37,1⟩]) (λ y=>64-y.1) ((0,none,0)) (⟨Nat.zero_le _,Nat.le_refl _⟩) (λ y f hx=>?_) (hw0:=λ w hw=>(hw.mQ 37 1).back)
   dsimp only[iL,List.map,List.cons_append,List.nil_append]
   have hll:=Ve (gR b xs i r) y.1
   all_goals (refine lW ?_;refine yQ ?_)
   all_goals
    refine bG (λ c13=>?_) (λ c13=>?_)
    · all_goals (refine qD ?_;refine Px ?_;refine aY (cV (hc:=λ w1 hw=>nY (n:=n) (y.1:Int) hb hb2 (hr.gM hw.done))) (λ x19=>?_);refine aA ?_;refine aB (kM rf rfl) rfl ?_;refine aB (kM rf rfl) rfl ?_;refine J8 ?_;refine Dz ?_;refine uS ?_)
      all_goals
       refine bG (λ c24=>?_) (λ c24=>?_)
       · all_goals (refine Ic ?_;refine zP ?_;refine J8 ?_;refine J2 ?_;refine aH ?_)
         all_goals
          refine bG (λ c28=>?_) (λ c28=>?_)
          · all_goals
             first
              | have hm:gR b xs i r y.1=some r:=by rw[D0 c24,if_pos (by omega)]
              | have hm:gR b xs i r y.1=some ((Ll n xs ys b (y.1:Int)).getD 0):=by rw[D8 hcv (by omega) c24];exact Ts c28
            all_goals
             refine eZ [29,30,31,32,33,34,35,36,37,38,39] (λ z:Nat×Option Addr×Nat=>[]) (λ z=>(rG (gR b xs i r) y.1).length+1<=z.2.2) (λ z=>[(x7,.cells ⟨[.int .i64 3,.int .i64 0,.int .i64 0,.int .u64 ((A7 (gR b xs i r) (y.1+1):Nat):Int),.slice z.2.1 (rG (gR b xs i r) (y.1+1)).length z.2.2,.int .u64 0,.string ⟨#[]⟩,.int .u64 0,.slice none 0 0,.int .i64 0,.int .i64 0,.int .i64 0,.int .i64 0,.int .i64 0]⟩ 47),(x6,.cells ⟨Nd.zero.cells⟩ 47),(x3,.cells ⟨n.cells⟩ 47)]) (λ z=>[]) (λ z=>[⟨z.2.1,aG (rG (gR b xs i r) (y.1+1)),z.2.2,37,1⟩]) (by decide) (λ _=>by exact rfl) ?_ (λ z f hx=>?_)
             · refine iE (.one 0 [] (.one 1 [] (.one 2 [] (.one 4 [] (.one 5 [] (.one 6 [] (.two 3 [5] (.one 9 [] (.one 7 [1,5] (.one 8 [] (.one 10 [] (.one 11 [] (.one 12 [] .nil)))))) 0 [] (.two 7 [1,5] (.one 3 [5] (.one 9 [] (.one 8 [] (.one 10 [] (.one 11 [] (.one 12 [] .nil)))))) 0 [] .nil)))))))) ?_
               all_goals (refine nA ?_;refine aQ ?_;refine nA ?_;refine aQ ?_)
               all_goals
                refine iM (E:=[3,7]) (by decide +kernel) ((.cons ?_ (.cons ?_ .nil)))
                · refine Cg (i:=3) (hq:=(cV (hc:=λ w1 hw=>nE (Ad (gR b xs i r) (k:=y.1) (by omega)) (y.1:Int) w1))) (h:=λ x32=>?_)
                  all_goals (refine aT ?_;refine bL (h:=λ x36=>?_);((refine kJ (h:=λ x37=>?_);try (refine cW (λ h37=>?_))));refine Rb ?_;refine wB ?_)
                  all_goals
                   refine fR ((0,x37)) ?_ (hw1:=λ w hw=>by obtain⟨k1,k2⟩:=nZ hm (by omega);rw[k1,show(rG (gR b xs i r) y.1).length+1=(rG (gR b xs i r) (y.1+1)).length by rw[<- k2];simp,k2] at hw;exact hw.back)
                   · exact h37
                · refine Ai (i:=7) (h:=λ x36=>?_)
                  all_goals (refine cL (i:=3) (hq:=(cV (hc:=λ w1 hw=>nE (Ad (gR b xs i r) (k:=y.1) (by omega)) (y.1:Int) w1))) (h:=λ x32=>?_);refine aT ?_;((refine kJ (h:=λ x37=>?_);try (refine cW (λ h37=>?_))));refine Rb ?_;refine wB ?_)
                  all_goals
                   refine fR ((0,x37)) ?_ (hw1:=λ w hw=>by obtain⟨k1,k2⟩:=nZ hm (by omega);rw[k1,show(rG (gR b xs i r) y.1).length+1=(rG (gR b xs i r) (y.1+1)).length by rw[<- k2];simp,k2] at hw;exact hw.back)
                   · exact h37
             dsimp only[iL,List.map,List.cons_append,List.nil_append]
            all_goals (refine fT ?_;refine zL ?_)
            all_goals
             refine jJ ((by first|exact(y.1+1,z.2)|exact(y.1+1,y.2))) ?_ (hw1:=λ w hw=>by first|(rw[(jL hm).1,(jL hm).2] at hw;exact hw.back)|exact hw.back)
             · first
                | exact⟨by omega,by have k2:=(nZ hm (by omega)).2;simp only[];rw[<- k2,List.length_append];exact hx⟩
                | exact⟨by omega,by simp only[];rw[<- (jL hm).2];exact hx.2⟩
          · all_goals
             have hm:gR b xs i r y.1=none:=by
              first
               | (rw[D0 c24,if_neg (by omega)];done)
               | (rw[D8 hcv (by omega) c24];exact Uj c28)
            all_goals (refine oD ?_;refine zL ?_)
            all_goals
             refine jJ ((by first|exact(y.1+1,z.2)|exact(y.1+1,y.2))) ?_ (hw1:=λ w hw=>by first|(rw[(jL hm).1,(jL hm).2] at hw;exact hw.back)|exact hw.back)
             · first
                | exact⟨by omega,by have k2:=(nZ hm (by omega)).2;simp only[];rw[<- k2,List.length_append];exact hx⟩
                | exact⟨by omega,by simp only[];rw[<- (jL hm).2];exact hx.2⟩
       · all_goals (refine bD ?_;refine J2 ?_;refine aH ?_)
         all_goals
          refine bG (λ c28=>?_) (λ c28=>?_)
          · all_goals
             first
              | have hm:gR b xs i r y.1=some r:=by rw[D0 c24,if_pos (by omega)]
              | have hm:gR b xs i r y.1=some ((Ll n xs ys b (y.1:Int)).getD 0):=by rw[D8 hcv (by omega) c24];exact Ts c28
            all_goals
             refine eZ [29,30,31,32,33,34,35,36,37,38,39] (λ z:Nat×Option Addr×Nat=>[]) (λ z=>(rG (gR b xs i r) y.1).length+1<=z.2.2) (λ z=>[(x7,.cells ⟨[.int .i64 3,.int .i64 0,.int .i64 0,.int .u64 ((A7 (gR b xs i r) (y.1+1):Nat):Int),.slice z.2.1 (rG (gR b xs i r) (y.1+1)).length z.2.2,.int .u64 0,.string ⟨#[]⟩,.int .u64 0,.slice none 0 0,.int .i64 0,.int .i64 0,.int .i64 0,.int .i64 0,.int .i64 0]⟩ 47),(x6,.cells ⟨Nd.zero.cells⟩ 47),(x3,.cells ⟨n.cells⟩ 47)]) (λ z=>[]) (λ z=>[⟨z.2.1,aG (rG (gR b xs i r) (y.1+1)),z.2.2,37,1⟩]) (by decide) (λ _=>by exact rfl) ?_ (λ z f hx=>?_)
             · refine iE (.one 0 [] (.one 1 [] (.one 2 [] (.one 4 [] (.one 5 [] (.one 6 [] (.two 3 [5] (.one 9 [] (.one 7 [1,5] (.one 8 [] (.one 10 [] (.one 11 [] (.one 12 [] .nil)))))) 0 [] (.two 7 [1,5] (.one 3 [5] (.one 9 [] (.one 8 [] (.one 10 [] (.one 11 [] (.one 12 [] .nil)))))) 0 [] .nil)))))))) ?_
               all_goals (refine nA ?_;refine aQ ?_;refine nA ?_;refine aQ ?_)
               all_goals
                refine iM (E:=[3,7]) (by decide +kernel) ((.cons ?_ (.cons ?_ .nil)))
                · refine Cg (i:=3) (hq:=(cV (hc:=λ w1 hw=>nE (Ad (gR b xs i r) (k:=y.1) (by omega)) (y.1:Int) w1))) (h:=λ x32=>?_)
                  all_goals (refine aT ?_;refine bL (h:=λ x36=>?_);((refine kJ (h:=λ x37=>?_);try (refine cW (λ h37=>?_))));refine Rb ?_;refine wB ?_)
                  all_goals
                   refine fR ((0,x37)) ?_ (hw1:=λ w hw=>by obtain⟨k1,k2⟩:=nZ hm (by omega);rw[k1,show(rG (gR b xs i r) y.1).length+1=(rG (gR b xs i r) (y.1+1)).length by rw[<- k2];simp,k2] at hw;exact hw.back)
                   · exact h37
                · refine Ai (i:=7) (h:=λ x36=>?_)
                  all_goals (refine cL (i:=3) (hq:=(cV (hc:=λ w1 hw=>nE (Ad (gR b xs i r) (k:=y.1) (by omega)) (y.1:Int) w1))) (h:=λ x32=>?_);refine aT ?_;((refine kJ (h:=λ x37=>?_);try (refine cW (λ h37=>?_))));refine Rb ?_;refine wB ?_)
                  all_goals
                   refine fR ((0,x37)) ?_ (hw1:=λ w hw=>by obtain⟨k1,k2⟩:=nZ hm (by omega);rw[k1,show(rG (gR b xs i r) y.1).length+1=(rG (gR b xs i r) (y.1+1)).length by rw[<- k2];simp,k2] at hw;exact hw.back)
                   · exact h37
             dsimp only[iL,List.map,List.cons_append,List.nil_append]
            all_goals (refine fT ?_;refine zL ?_)
            all_goals
             refine jJ ((by first|exact(y.1+1,z.2)|exact(y.1+1,y.2))) ?_ (hw1:=λ w hw=>by first|(rw[(jL hm).1,(jL hm).2] at hw;exact hw.back)|exact hw.back)
             · first
                | exact⟨by omega,by have k2:=(nZ hm (by omega)).2;simp only[];rw[<- k2,List.length_append];exact hx⟩
                | exact⟨by omega,by simp only[];rw[<- (jL hm).2];exact hx.2⟩
          · all_goals
             have hm:gR b xs i r y.1=none:=by
              first
               | (rw[D0 c24,if_neg (by omega)];done)
               | (rw[D8 hcv (by omega) c24];exact Uj c28)
            all_goals (refine oD ?_;refine zL ?_)
            all_goals
             refine jJ ((by first|exact(y.1+1,z.2)|exact(y.1+1,y.2))) ?_ (hw1:=λ w hw=>by first|(rw[(jL hm).1,(jL hm).2] at hw;exact hw.back)|exact hw.back)
             · first
                | exact⟨by omega,by have k2:=(nZ hm (by omega)).2;simp only[];rw[<- k2,List.length_append];exact hx⟩
                | exact⟨by omega,by simp only[];rw[<- (jL hm).2];exact hx.2⟩
    · all_goals (refine bV rfl ?_;refine qF ?_;refine J5 ?_)
      all_goals
       refine bE Tryz.results244 (λ w hw=>?_)
       have hy:y.1=64:=by omega
       rw[hy] at hw hx ⊢
       generalize A7 (gR b xs i r) 64=B at hw ⊢
       generalize rG (gR b xs i r) 64=L at hw hx ⊢
       exact⟨y.2,rfl,hx.2,SF.frz hw.aS⟩
end
end

/- Branches: the reference's Inserted, Updated, Removed. -/
section
open Go.RowKit Go.Ct
theorem of_eq{m:Nat->Option Int}{b:Nat}{xs:List Int}(h:BV b xs/\∀k,k<64->sX b xs k=m k):A7 m 64=b/\rG m 64=xs:=by
 obtain⟨h1,h2⟩:=N8 64 λ k hk=>(h.2 k hk).symm
 obtain⟨h3,h4⟩:=X0 h.1
 exact⟨h1.trans h3,h2.trans h4⟩
theorem oY{k:Nat}(b:Nat)(hk:k<64):eF b (k:Int)=b ||| 2^k:=by
 unfold eF;rw[if_pos (by omega),Int.toNat_natCast]
theorem tG{k:Nat}(b:Nat)(hk:k<64):vE b (k:Int)=b ^^^ (b &&& 2^k):=by
 unfold vE;rw[if_pos (by omega),Int.toNat_natCast]
theorem nR{k:Nat}(b:Nat)(hk:k<64):rA b (k:Int)=gW b k:=by
 unfold rA;rw[Int.toNat_natCast,Nat.min_eq_left (by omega)]
theorem pN{k:Nat}(b:Nat)(hk:k<64):pS b (k:Int)=b.testBit k:=by
 rw[A1 b (by omega) (by omega),Int.toNat_natCast]
theorem Wu{b k:Nat}{xs:List Int}{r:Int}(h:BV b xs)(hk:k<64)(hb:pS b (k:Int)=false)(hr:1<=r):A7 (gR b xs k r) 64=eF b (k:Int)/\rG (gR b xs k r) 64=wC xs (rA b (k:Int)) r:=by
 rw[pN b hk] at hb
 rw[oY b hk,nR b hk]
 unfold gR
 rw[if_pos (by omega)]
 exact of_eq (E0 h hk hb hr)
theorem W1{b k:Nat}{xs:List Int}{r:Int}(h:BV b xs)(hk:k<64)(hb:pS b (k:Int)=true)(hr:1<=r):A7 (gR b xs k r) 64=b/\rG (gR b xs k r) 64=zA xs (rA b (k:Int)) r:=by
 rw[pN b hk] at hb
 rw[nR b hk]
 unfold gR
 rw[if_pos (by omega)]
 exact of_eq (Sb h hk hb hr)
theorem W9{b k:Nat}{xs:List Int}(h:BV b xs)(hk:k<64)(hb:pS b (k:Int)=true):A7 (gR b xs k 0) 64=vE b (k:Int)/\rG (gR b xs k 0) 64=sD xs (rA b (k:Int)):=by
 rw[pN b hk] at hb
 rw[tG b hk,nR b hk]
 unfold gR
 rw[if_neg (by omega)]
 exact of_eq (Qv h hk hb)
section
variable{n:Nd}{xs:List Int}{ys:List Pr}{w:World}{b:Nat}
theorem Av{i:Int}(h:(Ll n xs ys b i).isSome=true):CV n xs ys/\pS b i=true:=by
 unfold Ll at h
 split at h
 ·assumption
 ·cases h
theorem Fg{i:Int}(h:(Ll n xs ys b i).isSome=false)(hcv:CV n xs ys):pS b i=false:=by
 unfold Ll at h
 split at h
 ·cases h
 ·rename_i hn
  cases hh:pS b i with
  | false=>rfl
  | true=>exact absurd ⟨hcv,hh⟩ hn
theorem H0(i r:Int)(hb:n.bm=(b:Int))(hb2:b<18446744073709551616)(hr:rK w n xs ys):Calls Tryz.prog 249 #[n.v,.int .i64 i,.int .i64 r] w (Xa w (jc n xs ys b i r)):=by
 refine enter Tryz.func249 Tryz.ntmps249 rfl rfl (SF.s2 hr.br hr.pr) ?_
 simp only[cN]
 simp only[Nd.v,Nd.cells]
 all_goals (refine J0 ?_;refine bW (λ x3=>?_);refine aJ (λ x6=>?_);refine jM ?_;refine Px ?_;refine aY (cV (hc:=λ w1 hw=>nY (n:=n) i hb hb2 (hr.gM hw.done))) (λ x13=>?_);refine aA ?_;refine aB (kM rf rfl) rfl ?_;refine aB (kM rf rfl) rfl ?_;refine J8 ?_;refine qF ?_;refine aC (c0 (V:=.bool) (hc:=λ w1 hw=>eu (n:=n) hb hb2 (hr.gM hw.done))) (λ x17 h17=>?_);refine Hp ?_)
 all_goals ((refine fS 19 (λ g19=>?_) (λ g19=>?_)<;>(first|refine aN ?_|(refine aF ?_;refine aA ?_))))
 all_goals (refine cX ?_;refine aA ?_)
 all_goals (first|refine aN ?_|(refine fS 22 (λ g22=>?_) (λ g22=>?_)<;>(first|refine aN ?_|(refine aF ?_;refine aA ?_))))
 all_goals (refine pu ?_;refine aA ?_)
 all_goals (first|refine aN ?_|(refine fS 26 (λ g26=>?_) (λ g26=>?_)<;>(first|refine aN ?_|(refine aF ?_;refine aA ?_))))
 all_goals (refine I3 ?_;refine aA ?_)
 all_goals (first|refine aN ?_|(refine fS 30 (λ g30=>?_) (λ g30=>?_)<;>(first|refine aN ?_|(refine aF ?_;refine aA ?_))))
 all_goals (refine pu ?_;refine aH ?_)
 all_goals
 refine bG (λ c33=>?_) (λ c33=>?_)
 ·all_goals (refine J0 ?_;refine bO ?_;refine yN ?_)
  all_goals
   refine bE Tryz.results249 (λ w hw=>?_)
   rw[show jc n xs ys b i r=none from if_neg (by rintro ⟨k1,⟨k2,k3⟩,k4,k5⟩;clear hw;first|omega|exact absurd (Av g22).2 (by simp[k5])|exact absurd (h17.2 k1) (by simp_all))];exact⟨(none,0),rfl,Nat.le_refl _,(hw.K1 none).fin⟩
 ·try exact nv c33
  all_goals
   have hcv:=h17.1 (by simpa using g19)
   have hh:=Fg g22 hcv
   obtain⟨k,rfl⟩:=Int.eq_ofNat_of_zero_le (show 0<=i by omega)
   have hk:=Wu (hcv.bv hb hb2) (k:=k) (by omega) hh (r:=r) (by omega)
  all_goals (refine bD ?_;refine qF ?_;refine qA ?_;refine aC (cF (hc:=λ w1 hw=>by have:=Kr (w:=w1) k r (by omega) hcv hb hb2 (hr.gM hw.done);rw[hk.1,hk.2] at this;exact this)) (λ x38 h38=>?_);refine yN ?_)
  all_goals
   refine bE Tryz.results249 (λ w hw=>?_)
   rw[show jc n xs ys b (k:Int) r=some (eF b (k:Int),wC xs (rA b (k:Int)) r) from if_pos ⟨hcv,⟨by omega,by omega⟩,by omega,hh⟩];exact⟨x38,rfl,h38,hw.fin⟩
theorem K8(i r:Int)(hb:n.bm=(b:Int))(hb2:b<18446744073709551616)(hr:rK w n xs ys):Calls Tryz.prog 220 #[n.v,.int .i64 i,.int .i64 r] w (Xa w (iz n xs ys b i r)):=by
 refine enter Tryz.func220 Tryz.ntmps220 rfl rfl (SF.s2 hr.br hr.pr) ?_
 simp only[cN]
 simp only[Nd.v,Nd.cells]
 all_goals (refine J0 ?_;refine bW (λ x3=>?_);refine aJ (λ x6=>?_);refine jM ?_;refine Px ?_;refine aY (cV (hc:=λ w1 hw=>nY (n:=n) i hb hb2 (hr.gM hw.done))) (λ x13=>?_);refine aA ?_;refine aB (kM rf rfl) rfl ?_;refine aB (kM rf rfl) rfl ?_;refine J8 ?_;refine J2 ?_;refine Hp ?_)
 all_goals ((refine fS 18 (λ g18=>?_) (λ g18=>?_)<;>(first|refine aN ?_|(refine aF ?_;refine aA ?_))))
 all_goals (refine pu ?_;refine aH ?_)
 all_goals
 refine bG (λ c21=>?_) (λ c21=>?_)
 ·all_goals (refine J0 ?_;refine bO ?_;refine yN ?_)
  all_goals
   refine bE Tryz.results220 (λ w hw=>?_)
   rw[show iz n xs ys b i r=none from if_neg (by rintro ⟨k1,k4,k5⟩;clear hw;first|omega|exact absurd (Fg (by simpa using g18) k1) (by simp[k5]))];exact⟨(none,0),rfl,Nat.le_refl _,(hw.K1 none).fin⟩
 ·try exact nv c21
  all_goals
   have hc:=Av (by simpa using g18)
   have hcv:=hc.1
   have hh:=hc.2
   obtain⟨q1,q2,_,_⟩:=sA hh
   obtain⟨k,rfl⟩:=Int.eq_ofNat_of_zero_le q1
   have hk:=W1 (hcv.bv hb hb2) (k:=k) (by omega) hh (r:=r) (by omega)
  all_goals (refine bD ?_;refine qF ?_;refine qA ?_;refine aC (cF (hc:=λ w1 hw=>by have:=Kr (w:=w1) k r (by omega) hcv hb hb2 (hr.gM hw.done);rw[hk.1,hk.2] at this;exact this)) (λ x26 h26=>?_);refine yN ?_)
  all_goals
   refine bE Tryz.results220 (λ w hw=>?_)
   rw[show iz n xs ys b (k:Int) r=some (b,zA xs (rA b (k:Int)) r) from if_pos ⟨hcv,by omega,hh⟩];exact⟨x26,rfl,h26,hw.fin⟩
theorem Kk(i:Int)(hb:n.bm=(b:Int))(hb2:b<18446744073709551616)(hr:rK w n xs ys):Calls Tryz.prog 252 #[n.v,.int .i64 i] w (Xa w (jd n xs ys b i)):=by
 refine enter Tryz.func252 Tryz.ntmps252 rfl rfl (SF.s2 hr.br hr.pr) ?_
 simp only[cN]
 simp only[Nd.v,Nd.cells]
 all_goals (refine J0 ?_;refine bW (λ x2=>?_);refine aJ (λ x4=>?_);refine jM ?_;refine Px ?_;refine aY (cV (hc:=λ w1 hw=>nY (n:=n) i hb hb2 (hr.gM hw.done))) (λ x11=>?_);refine aA ?_;refine aB (kM rf rfl) rfl ?_;refine aB (kM rf rfl) rfl ?_;refine J8 ?_;refine J2 ?_;refine qT ?_)
 all_goals
 refine bG (λ c15=>?_) (λ c15=>?_)
 ·all_goals (refine J0 ?_;refine bO ?_;refine yN ?_)
  all_goals
   refine bE Tryz.results252 (λ w hw=>?_)
   rw[show jd n xs ys b i=none from if_neg (by rintro ⟨k1,k5⟩;clear hw;exact absurd (Fg c15 k1) (by simp[k5]))];exact⟨(none,0),rfl,Nat.le_refl _,(hw.K1 none).fin⟩
 ·all_goals
   have hc:=Av c15
   have hcv:=hc.1
   have hh:=hc.2
   obtain⟨q1,q2,_,_⟩:=sA hh
   obtain⟨k,rfl⟩:=Int.eq_ofNat_of_zero_le q1
   have hk:=W9 (hcv.bv hb hb2) (k:=k) (by omega) hh
  all_goals (refine bD ?_;refine Px ?_;refine aC (cF (hc:=λ w1 hw=>by have:=Kr (w:=w1) k 0 (by omega) hcv hb hb2 (hr.gM hw.done);rw[hk.1,hk.2] at this;exact this)) (λ x19 h19=>?_);refine yN ?_)
  all_goals
   refine bE Tryz.results252 (λ w hw=>?_)
   rw[show jd n xs ys b (k:Int)=some (vE b (k:Int),sD xs (rA b (k:Int))) from if_pos ⟨hcv,hh⟩];exact⟨x19,rfl,h19,hw.fin⟩
end
end

end Go.Proofs.YtbajmaoegmbfgaaGreat

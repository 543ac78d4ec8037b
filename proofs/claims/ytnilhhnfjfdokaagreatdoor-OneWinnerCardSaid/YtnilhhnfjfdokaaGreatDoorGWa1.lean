/- awake28: the run of its machine. -/
import Derived.Test.YtnilhhnfjfdokaaGreatDoorGEqs
import Derived.Test.YtnilhhnfjfdokaaGreatDoorLz0

set_option linter.unusedSimpArgs false
set_option linter.unusedVariables false
namespace Go.Proofs.YtnilhhnfjfdokaaGreatDoor
section
open Go Go.RowKit Go.Ct
def okB(m k:Nat)(Z:AM):Bool :=
 match Z.th[k]? with
 | none=>true
 | some t=>match t.ops[t.idx]? with
  | none=>true
  | some o=>match t.pr with
   | none=>(match(Ct.fA (rT m o) Z.s).1 with|.stuck=>false|_=>true)
   | some T=>(match(kQ (T,Z.s)).1 with|.stuck=>false|_=>true)
theorem gi{m k:Nat}{Z:AM}(h:okB m k Z=true):Ju m k Z:=λ t o h1 h2=>by
 unfold okB at h
 rw[h1] at h
 dsimp only at h
 rw[h2] at h
 dsimp only at h
 cases hp:t.pr with
 | none=>rw[hp] at h;dsimp only at h ⊢;intro e;rw[e] at h;cases h
 | some T=>rw[hp] at h;dsimp only at h ⊢;intro e;rw[e] at h;cases h
def N3(m k:Nat)(Z:AM):Bool:=okB m k Z&&(Nat.ble Z.s.nodes.length 1000&&Nat.ble Z.s.cs.length 1000)
theorem Hl{m k:Nat}{Z:AM}(h:N3 m k Z=true):Ju m k Z/\Z.s.jL:=by
 unfold N3 at h
 simp only[Bool.and_eq_true] at h
 obtain⟨h1,h2,h3⟩:=h
 have h2':=Nat.le_of_ble_eq_true h2
 have h3':=Nat.le_of_ble_eq_true h3
 exact⟨gi h1,by omega,by omega⟩
def Z2(m:Nat):List Nat->AM->Bool
 | [],_=>true
 | k::l,Z=>N3 m k Z&&Z2 m l (dO m k Z)
theorem Oz{m:Nat}:∀{l:List Nat} {Z:AM},Z2 m l Z=true->∀i (h:i<l.length),Ju m l[i] (xK m (l.take i) Z)/\(xK m (l.take i) Z).s.jL
 | [],_,_,i,h=>absurd h (Nat.not_lt_zero i)
 | k::l,Z,hc,i,h=>by
  unfold Z2 at hc
  rw[Bool.and_eq_true] at hc
  cases i with
  | zero=>exact Hl hc.1
  | succ i=>exact Oz hc.2 i (by simpa using h)
def Z7(m n:Nat):Nat->Nat->AM->Bool
 | _,0,Z=>Z.fT
 | r,K+1,Z=>!Z.fT&&(N3 m (r%n) Z&&Z7 m n (r+1) K (dO m (r%n) Z))
theorem Od{m n:Nat}:∀{K r:Nat} {Z:AM},Z7 m n r K Z=true->(∀i,i<K->(wP m n r i Z).fT=false/\Ju m ((r+i)%n) (wP m n r i Z)/\(wP m n r i Z).s.jL)/\(wP m n r K Z).fT=true
 | 0,_,_,h=>⟨λ i hi=>absurd hi (Nat.not_lt_zero i),h⟩
 | K+1,r,Z,h=>by
  unfold Z7 at h
  simp only[Bool.and_eq_true,Bool.not_eq_true'] at h
  obtain⟨h1,h2,h3⟩:=h
  obtain⟨g1,g2⟩:=Od h3
  refine⟨λ i hi=>?_,by rw[oD];exact g2⟩
  cases i with
  | zero=>exact⟨h1,Hl h2⟩
  | succ i =>
   rw[oD,show r+(i+1)=r+1+i by omega]
   exact g1 i (by omega)
def fB:ByteArray:=⟨#[97]⟩
def lp:List (List lO):=[[⟨1,0,fB,1,0⟩],[⟨1,0,fB,2,0⟩,⟨7,0,fB,0,0⟩]]
def Wx:List Nat:=[0,1,0,1,0,1,0,1,0,1,1,0]
def F8:List lR:=[⟨0,0,false,Rs.zero⟩,⟨1,0,false,Rs.zero⟩,⟨0,0,true,fL false 0⟩,⟨1,0,true,fL true 1⟩,⟨1,1,false,Rs.zero⟩,⟨1,1,true,dG true 2⟩]
theorem eg(π:Nat×Obj):Z2 63 Wx (Jl lp π)=true:=by kernel_rfl
theorem T7(π:Nat×Obj):Z7 63 2 0 22 (xK 63 Wx (Jl lp π))=true:=by kernel_rfl
theorem X8(π:Nat×Obj):(wP 63 2 0 22 (xK 63 Wx (Jl lp π))).hist=F8:=by kernel_rfl
end

/- history on the history of awake28. -/
section
open Go Go.RowKit Go.Ct
abbrev G5(p0:Option Addr)(c0:Nat)(p1:Option Addr)(c1:Nat):List kT:=[⟨p0,c0,[⟨1,0,fB,1,0⟩]⟩,⟨p1,c1,[⟨1,0,fB,2,0⟩,⟨7,0,fB,0,0⟩]⟩]
structure jd(w:World)(p:Option Addr)(p0:Option Addr)(c0:Nat)(p1:Option Addr)(c1:Nat)(pl:Option Addr):Prop where
 hp:Go.Ct.Cl w p (gQ (G5 p0 c0 p1 c1))
 h0:Go.Ct.Cl w p0 (gG [⟨1,0,fB,1,0⟩])
 h1:Go.Ct.Cl w p1 (gG [⟨1,0,fB,2,0⟩,⟨7,0,fB,0,0⟩])
 hl:Go.Ct.Cl w pl (Bs F8)
theorem jd.start{w:World}{p p0 p1 pl:Option Addr}{c0 c1:Nat}(h:jd w p p0 c0 p1 c1 pl):SF w [] [] [(p,gQ (G5 p0 c0 p1 c1)),(p0,gG [⟨1,0,fB,1,0⟩]),(p1,gG [⟨1,0,fB,2,0⟩,⟨7,0,fB,0,0⟩]),(pl,Bs F8)] [] [] w:=SF.begin λ f hf=>by
 simp only[List.mem_cons,List.not_mem_nil,or_false] at hf
 rcases hf with rfl|rfl|rfl|rfl
 ·exact h.hp
 ·exact h.h0
 ·exact h.h1
 ·exact h.hl
def pi:Nat->List Value
 | 0=>[.int .i64 0,.int .i64 0,.int .i64 0,.int .i64 0,.int .i64 0,.int .i64 0,.int .i64 0,.int .i64 0]
 | 1=>[.int .i64 1,.int .i64 0,.int .i64 0,.int .i64 0,.int .i64 0,.int .i64 0,.int .i64 0,.int .i64 0]
 | 2=>[.int .i64 1,.int .i64 1,.int .i64 0,.int .i64 0,.int .i64 0,.int .i64 0,.int .i64 0,.int .i64 0]
 | 3=>[.int .i64 2,.int .i64 1,.int .i64 0,.int .i64 0,.int .i64 0,.int .i64 0,.int .i64 0,.int .i64 0]
 | 4=>[.int .i64 2,.int .i64 2,.int .i64 0,.int .i64 0,.int .i64 0,.int .i64 0,.int .i64 0,.int .i64 0]
 | 5=>[.int .i64 2,.int .i64 3,.int .i64 0,.int .i64 0,.int .i64 0,.int .i64 0,.int .i64 0,.int .i64 0]
 | _=>[.int .i64 2,.int .i64 4,.int .i64 0,.int .i64 0,.int .i64 0,.int .i64 0,.int .i64 0,.int .i64 0]
theorem gg{P:Program}{S:List (Nat×Value)}{G:World->Prop}{d:Nat}{ty t t':TypeId}{pos:String}{af:Array Edge}{gd:Option (Nat×Bool)}{x y:Operand}{a b:Int}(hx:ev S x=.int .i64 a)(hy:ev S y=.int .i64 b)(h0:b≠0):aG P S G ⟨some d,.binOp .quo t x y t',ty,pos,af,gd⟩ (.int .i64 (IntKind.i64.wrap (a.tdiv b))):=⟨λ w _=>by
 simp[execOp,hx,hy,eqGuard_at_int,binOp,Op.intDiv,h0]⟩
section
variable{w:World}{p p0 p1 pl:Option Addr}{c c0 c1 cl:Nat}
theorem ic(e:lR)(w:World):Calls Tryz.prog 40 #[.agg ⟨e.cells⟩] w λ en w'=>en=.returned (.agg ⟨gZ (e.thr,e.idx)⟩)/\St w [] [] w':=by
 refine enter Tryz.func40 Tryz.ntmps40 rfl rfl (SF.s0 w) ?_
 simp only[cP]
 simp only[lR.cells]
 refine J0 ?_;refine bF (λ x1=>?_);refine aF (cE λ _=>cG (z:=[.int .i64 0,.int .i64 0]) (by kernel_rfl)) (λ x2=>?_);refine aD ?_;refine jA ?_;refine J3 ?_;refine aA (mK rf rf) rfl ?_;refine aL (cE λ _=>aC rf bD rf rfl (by kernel_rfl) rf dI) (λ _=>?_);refine aD ?_
 refine nE Tryz.results40 (.cell rf bD (by kernel_rfl) .nil) (λ w hw=>?_)
 exact⟨rfl,hw.done⟩
set_option maxRecDepth 100000 in
theorem Kc(h:jd w p p0 c0 p1 c1 pl):Calls Tryz.prog 39 #[.slice p 2 c,.slice pl 6 cl] w λ en w'=>en=.returned (.bool true)/\St w [] [] w':=by
 refine enter Tryz.func39 Tryz.ntmps39 rfl rfl h.start ?_
 simp only[cP]
 refine dW ?_;refine J0 ?_;refine aF (cE λ _=>cG (z:=pi 0) (by kernel_rfl)) (λ x5=>?_);refine Kc8 ?_;refine Ka8 ?_
 refine uD [4,7,8,11,12,13,14,15,16,17,18,19,20,21,22,23,24,25,26,27,28,29,30,31,32,33,34,35,36,37,38,39,40,41,42,43,44,45,46,47,48,49,50,51,52,53,54,55,56,57,58,59,60,61,62,63,64,65,66,67,68,69,70,71,72,73] (λ z:Nat=>[(11,.int .i64 ((z:Nat):Int))]) (λ z=>z<=6) (λ z=>[(x5,.cells ⟨pi z⟩ 152 (0,0))]) (λ _=>_) (λ _=>_) (λ z=>6-z) (0) (Nat.zero_le _) (λ z f hx=>?_)
 dsimp only[lP,List.map,List.cons_append,List.nil_append]
 refine Ka1 ?_
 refine aU (λ c12=>?_) (λ c12=>?_)
 ·try (first|contradiction|(exfalso;omega)|(exfalso;simp_all;done))
  have hz6:z=0∨z=1∨z=2∨z=3∨z=4∨z=5:=by omega
  obtain⟨q,hq⟩:∃q,q=z+1:=⟨_,rfl⟩
  rcases hz6 with rfl|rfl|rfl|rfl|rfl|rfl
  all_goals dsimp only[pi]
  all_goals (refine Kd2 ?_;refine aA (aY (f:=lR.cells) (l:=F8) gA (by decide) rf rf dJ cY (.old (.tail (.tail (.tail .head)))) (by decide) (by decide)) rfl ?_;refine aA (cH (f:=lR.cells) (l:=F8) gA rf cY (.old (.tail (.tail (.tail .head)))) rfl) rfl ?_;refine aI (λ x7=>?_);refine aL (cE λ _=>aC rf bD rf rfl cY rf dI) (λ _=>?_);refine pT ?_;refine aJ ?_;refine iM [0,1,2,3,4,5,6,7,8,9,10,11,12,13,14,15,16,17,18,19,20,21,22,23,24,25] ?_;refine gY ?_;refine pK ?_;refine aR ?_)
  all_goals ((refine bM ?_))
  all_goals (((refine cB ?_));((refine aR ?_));((refine Ek ?_));((refine Nh ?_));refine iN ?_;refine aR ?_)
  all_goals ((refine bM ?_))
  all_goals (((refine cB ?_));((refine pK ?_));refine iN ?_;refine aR ?_)
  all_goals ((refine bM ?_))
  all_goals (((refine cB ?_));((refine aR ?_));refine rp ?_;((refine aS (i:=21) (hq:=(bR (cs:=gQ (G5 p0 c0 p1 c1)) rf rf dJ eC (.old .head) (Nat.le_of_ble_eq_true rfl) (Nat.le_of_ble_eq_true rfl))) (h:=?_)));((refine aS (i:=22) (hq:=(bO (cs:=gQ (G5 p0 c0 p1 c1)) rf eC (.old .head) rfl)) (h:=?_)));((refine Ek ?_));((refine Nh ?_));refine Kd4 ?_)
  all_goals
  refine aU (λ c40=>?_) (λ c40=>?_)
  ·all_goals try (contradiction)
  ·all_goals try (first|contradiction|(exfalso;omega)|(exfalso;simp_all;done))
   all_goals (refine bB ?_;refine jA ?_;refine aA (cR (n:=8) (e:=3) rf rf (by kernel_rfl) (by kernel_rfl) (by decide)) rfl ?_;refine bP ?_;refine kZ ?_;refine jA ?_;refine aB ?_;refine aA (gg rf rf (by decide)) rfl ?_;refine iP ?_;refine aB ?_)
   all_goals ((refine aE ?_;refine aK ?_))
   all_goals (refine ix ?_;((refine aE ?_;refine aA (Va rf rf (by decide)) rfl ?_));((refine aE ?_;refine fI ?_));((refine aE ?_;refine gb ?_));refine Kb0 ?_)
   all_goals
    refine aU (λ c57=>?_) (λ c57=>?_)
    ·exact nv c57
    ·all_goals try (first|contradiction|(exfalso;omega)|(exfalso;simp_all;done))
     all_goals (refine lS ?_;refine jA ?_;refine Wy ?_)
     all_goals refine Ka4 ?_
     all_goals ((first|refine aT ?_|(refine aE ?_;refine aA (dE (k:=8) (vs:=Rs.zero.cells) rf bD cY rfl rfl) rfl ?_));(first|refine aT ?_|(refine aE ?_;refine cK ?_));(first|refine aT ?_|(refine aE ?_;refine aA (Eo (a:=Rs.zero) (b:=Rs.zero) rf rf (by kernel_rfl)) rfl ?_));refine Kb0 ?_)
     all_goals
     refine aU (λ c66=>?_) (λ c66=>?_)
     ·exact nv c66
     ·all_goals try (first|contradiction|(exfalso;omega)|(exfalso;simp_all;done))
      all_goals (refine bB ?_;refine dD ?_;refine J3 ?_;refine aA (cR (n:=8) (e:=3) rf rf (by kernel_rfl) (by kernel_rfl) (by decide)) rfl ?_;refine bP ?_;refine rD ?_;refine aA (cR (n:=8) (e:=3) rf rf (by kernel_rfl) (by kernel_rfl) (by decide)) rfl ?_;refine J5 ?_;refine Ka9 ?_)
      all_goals
       refine iD (q) ?_ ?_ (by repeat (first|(with_reducible exact pW.refl)|refine pW.cons (by exact rfl) ?_)) ?_ (λ w hw=>by rw[hq];exact hw.back)
       ·omega
       ·repeat' (first|exact bQ _|refine bG ?_ ?_)
        all_goals ((rw[hq];exact rfl))
       ·show q<=6
        omega
 ·try (first|contradiction|(exfalso;omega)|(exfalso;simp_all;done))
  refine aX rfl ?_;refine dW ?_
  refine bE Tryz.results39 (λ w hw=>?_)
  exact⟨rfl,hw.done⟩
end
end

/- history.Check, history.Invoked on the history of awake28. -/
section
open Go Go.RowKit Go.Ct
def oh:Nat->List (Nat×Nat)
 | 0=>[]
 | 1=>[(0,0)]
 | 2=>[(0,0),(1,0)]
 | 3=>[(0,0),(1,0)]
 | 4=>[(0,0),(1,0)]
 | _=>[(0,0),(1,0),(1,1)]
def q8:Nat->List MapEntry
 | 0=>[]
 | 1=>[⟨.agg ⟨gZ (0,0)⟩,.bool true,0⟩]
 | 2=>[⟨.agg ⟨gZ (0,0)⟩,.bool true,0⟩,⟨.agg ⟨gZ (1,0)⟩,.bool true,1⟩]
 | 3=>[⟨.agg ⟨gZ (0,0)⟩,.bool true,0⟩,⟨.agg ⟨gZ (1,0)⟩,.bool true,1⟩]
 | 4=>[⟨.agg ⟨gZ (0,0)⟩,.bool true,0⟩,⟨.agg ⟨gZ (1,0)⟩,.bool true,1⟩]
 | _=>[⟨.agg ⟨gZ (0,0)⟩,.bool true,0⟩,⟨.agg ⟨gZ (1,0)⟩,.bool true,1⟩,⟨.agg ⟨gZ (1,1)⟩,.bool true,2⟩]
section
variable{w:World}{p p0 p1 pl:Option Addr}{c c0 c1 cl:Nat}
theorem P9(h:jd w p p0 c0 p1 c1 pl):Calls Tryz.prog 24 #[.slice p 2 c,.slice pl 6 cl] w λ en w'=>en=.returned (.int .i64 0)/\St w [] [] w':=by
 refine enter Tryz.func24 Tryz.ntmps24 rfl rfl h.start ?_
 simp only[cP]
 refine Kb1 ?_;refine cO ?_;refine wD ?_;refine aD ?_
 refine aU (λ c9=>?_) (λ c9=>?_)
 ·exact nv c9
 ·try (first|contradiction|(exfalso;omega)|(exfalso;simp_all;done))
  refine lS ?_;refine J2 ?_;refine Ka8 ?_
  refine jY [4,6,12,13,14,15,16,17,18,19] (λ z:Nat=>[(12,.int .i64 ((z:Nat):Int))]) (λ z=>z<=2) (λ z=>2-z) (0) (Nat.zero_le _) ?_ (λ z f hx=>?_)
  ·repeat (first|exact bQ _|refine bG (by exact rfl) ?_)
  dsimp only[lP,List.map,List.cons_append,List.nil_append]
  refine Ka1 ?_
  refine aU (λ c13=>?_) (λ c13=>?_)
  ·try (first|contradiction|(exfalso;omega)|(exfalso;simp_all;done))
   have hz2:z=0∨z=1:=by omega
   obtain⟨q,hq⟩:∃q,q=z+1:=⟨_,rfl⟩
   rcases hz2 with rfl|rfl
   all_goals (refine Kd2 ?_;refine aA (bR (cs:=gQ (G5 p0 c0 p1 c1)) rf rf dJ eC (.old .head) (Nat.le_of_ble_eq_true rfl) (Nat.le_of_ble_eq_true rfl)) rfl ?_;refine aA (bO (cs:=gQ (G5 p0 c0 p1 c1)) rf eC (.old .head) rfl) rfl ?_;refine Kb7 ?_;refine cO ?_;refine wD ?_;refine aD ?_)
   all_goals
   refine aU (λ c18=>?_) (λ c18=>?_)
   ·all_goals try (contradiction)
   ·all_goals try (first|contradiction|(exfalso;omega)|(exfalso;simp_all;done))
    all_goals (refine Kc0 ?_)
    all_goals
     refine gT (q) ?_ ?_ ?_
     ·omega
     ·repeat' (first|exact bQ _|refine bG ?_ ?_)
      all_goals ((rw[hq];exact rfl))
     ·show q<=2
      omega
  ·try (first|contradiction|(exfalso;omega)|(exfalso;simp_all;done))
   refine aX rfl ?_;refine pF ?_;refine aF (cV (hc:=λ w1 hw=>Kc ⟨hw.cl (.old .head),hw.cl (.old (.tail .head)),hw.cl (.old (.tail (.tail .head))),hw.cl (.old (.tail (.tail (.tail .head))))⟩)) (λ x22=>?_);refine wO ?_
   refine aU (λ c23=>?_) (λ c23=>?_)
   ·exact nv c23
   ·try (first|contradiction|(exfalso;omega)|(exfalso;simp_all;done))
    refine bB ?_;refine dW ?_
    refine bE Tryz.results24 (λ w hw=>?_)
    exact⟨rfl,hw.done⟩
set_option maxRecDepth 100000 in
theorem Ha(h:jd w p p0 c0 p1 c1 pl):Calls Tryz.prog 25 #[.slice pl 6 cl] w λ en w'=>∃x:Option Addr×Nat,en=.returned (.slice x.1 3 x.2)/\True/\St w [] [] w':=by
 refine enter Tryz.func25 Tryz.ntmps25 rfl rfl h.start ?_
 simp only[cP]
 refine dW ?_;refine J0 ?_;refine aF (cE λ _=>kC) (λ x8=>?_);refine J1 ?_;refine Kb1 ?_;refine Ka8 ?_
 refine uD [4,6,7,11,12,13,14,15,16,17,18,19,20,21,22,23,24,25,26,27,28,29,30,31,32] (λ y:Nat×Option Addr×Nat=>[(11,.int .i64 ((y.1:Nat):Int)),(4,.slice y.2.1 (oh y.1).length y.2.2)]) (λ y=>y.1<=6) (λ y=>[(x8,bW (q8 y.1) (oh y.1).length)]) (λ y=>[]) (λ y=>[⟨y.2.1,dR gZ (oh y.1),y.2.2,45,2⟩]) (λ y=>6-y.1) ((0,none,0)) (Nat.zero_le _) (λ y f hx=>?_) (hw0:=λ w hw=>(hw.gU 45 2))
 dsimp only[lP,List.map,List.cons_append,List.nil_append]
 obtain⟨z,yp,yc⟩:=y
 replace hx:z<=6:=hx
 dsimp only
 refine Ka1 ?_
 refine aU (λ c12=>?_) (λ c12=>?_)
 ·try (first|contradiction|(exfalso;omega)|(exfalso;simp_all;done))
  have hz6:z=0∨z=1∨z=2∨z=3∨z=4∨z=5:=by omega
  obtain⟨q,hq⟩:∃q,q=z+1:=⟨_,rfl⟩
  rcases hz6 with rfl|rfl|rfl|rfl|rfl|rfl
  all_goals dsimp only[q8,oh]
  all_goals (refine Kd2 ?_;refine aA (aY (f:=lR.cells) (l:=F8) gA (by decide) rf rf dJ cY (.old (.tail (.tail (.tail .head)))) (by decide) (by decide)) rfl ?_;refine aA (cH (f:=lR.cells) (l:=F8) gA rf cY (.old (.tail (.tail (.tail .head)))) rfl) rfl ?_;refine aI (λ x6=>?_);refine aL (cE λ _=>aC rf bD rf rfl cY rf dI) (λ _=>?_);refine aD ?_;refine pV ?_;refine aF (cV (hc:=λ w1 hw=>ic _ w1)) (λ x16=>?_);refine aF (cE λ _=>cG (z:=[.int .i64 0,.int .i64 0]) (by kernel_rfl)) (λ x7=>?_);refine aL (cE λ _=>aC rf bD rf rfl (by kernel_rfl) rf dI) (λ _=>?_);refine aD ?_;refine jA ?_;refine Wy ?_)
  all_goals refine Ka5 ?_
  all_goals ((first|refine aT ?_|(refine aE ?_;refine aA (fR (aN rf bD (by kernel_rfl))) rfl ?_));(first|refine aT ?_|(refine aE ?_;refine aA (fR (Hz (K:=45) (E:=4) (ze:=.bool false) (r:=none) rf rf bD (by kernel_rfl) (λ e w=>by kernel_rfl) (λ w=>by kernel_rfl) (by kernel_rfl))) rfl ?_));refine Q9 ?_;refine aD ?_)
  all_goals
  refine aU (λ c25=>?_) (λ c25=>?_)
  ·try exact nv c25
   all_goals (refine J2 ?_;refine aA (fR (aN rf bD (by kernel_rfl))) rfl ?_;refine aL (cE λ _=>fx (K:=45) (E:=4) rf rf rf bD (by kernel_rfl) (λ e w=>by kernel_rfl) (λ w=>by kernel_rfl) dI) (λ _=>?_);refine aD ?_;refine Gt ?_;refine aA (fR (aN rf bD (by kernel_rfl))) rfl ?_;refine aF (by exact gD λ _=>aP fO mH rf rf rf rf (by simp only[dQ,cI,List.cons_append,List.nil_append,List.append_nil];exact rfl)) (λ x30=>?_);(refine aF (aQ.cL (cQ (sz:=2) rf rf .head rfl (.new .head) rfl rfl fO rfl (by decide) dJ (by decide)) hP) (λ x31=>?_);try (refine eH (λ h31=>?_)));refine Kd7 ?_)
   all_goals
    refine iD ((by exact(q,x31.1,x31.2))) ?_ ?_ (by repeat (first|(with_reducible exact pW.refl)|refine pW.cons (by exact rfl) ?_)) ?_ (λ w hw=>by rw[hq];exact hw.back (hF:=by exact bL.nil))
    ·show 6-q<_;omega
    ·repeat' (first|exact bQ _|refine bG ?_ ?_)
     all_goals ((rw[hq];exact rfl))
    ·show q<=6
     omega
  ·try exact nv c25
   all_goals (refine Kc0 ?_)
   all_goals
    refine iD ((by exact(q,yp,yc))) ?_ ?_ (by repeat (first|(with_reducible exact pW.refl)|refine pW.cons (by exact rfl) ?_)) ?_ (λ w hw=>by rw[hq];exact hw.back (hF:=by exact bL.nil))
    ·show 6-q<_;omega
    ·repeat' (first|exact bQ _|refine bG ?_ ?_)
     all_goals ((rw[hq];exact rfl))
    ·show q<=6
     omega
 ·try (first|contradiction|(exfalso;omega)|(exfalso;simp_all;done))
  refine aX rfl ?_;refine J2 ?_;refine J1 ?_
  refine bE Tryz.results25 (λ w hw=>?_)
  have hz:z=6:=by omega
  subst hz
  exact⟨(yp,yc),rfl,trivial,hw.done⟩
end
end

end Go.Proofs.YtnilhhnfjfdokaaGreatDoor

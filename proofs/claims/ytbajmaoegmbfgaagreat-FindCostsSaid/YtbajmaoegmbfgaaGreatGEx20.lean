/- Merged. -/
import Derived.Test.YtbajmaoegmbfgaaGreatGEx18
set_option linter.unusedSimpArgs false
set_option linter.unusedVariables false
namespace Go.Ct
open Go Go.RowKit
section
theorem uP{a:Option Addr}{cs:List Value}:∀{F:Fr},(a,cs)∈F->Ap F a cs
 | [],h=>(List.not_mem_nil h).elim
 | f::F,h=>by
  rcases List.mem_cons.1 h with rfl|h;·exact .head
  ·exact .tail (uP h)
end
end Go.Ct
namespace Go.Proofs.YtbajmaoegmbfgaaGreat
open Go Go.RowKit Go.Ct
section
theorem yf{t:dV}{path:List Int}{h:Nat}{K:Tr}{l:Nat}(hl:0<l):upT t path h K l=iK t (path.getD l 0) λ m=>.node m λ nm=>if nm.kind=5 then vY t (path.getD (l-1) 0) (path.getD l 0) h ((l-1:Nat):Int) λ _=>upT t path h K (l-1) else K:=by
 cases l with
 | zero=>omega
 | succ q=>rfl
section
variable{k:Cl}{bx bm:Nat}{x:XS}{dn:Bool}{rs:Rs}{D:List Nat}{A:Fr}{w:World}{g:Gx}
set_option maxRecDepth 100000 in
theorem aC6(hg:g.Ok){path:List Int}{pp:Option Addr}{pc:Nat}{h:Nat}(hh:h<18446744073709551616)(K:Tr)(ht:k.t.root<=9223372036854775807)(hp:∀v∈path,v<=x.L.length)(hp1:1<=path.length)(hp2:path.length<=2147483648)(hA:∀f∈aP x.L,f∈A)(hpA:(pp,aH path)∈A)(go:gG g x (upT k.t path h K (path.length-1)))(ok:x.Ok)(hs:SF w D (xH k bx bm x dn rs) A [] (xW x) w):Calls Tryz.prog 227 #[.pointer (some ⟨bx,0,none⟩),.slice pp path.length pc,.int .u64 (h:Int)] w λ e w'=>∃q:XS×List aR,e=.returned (.tuple #[])/\Nx g x q.1 q.2 K 0/\SF w D (xH k bx bm q.1 dn rs) [] (aP q.2) (xW q.1) w':=by
 have hpd:∀j,path.getD j 0<=x.L.length:=λ j=>mV hp j;refine enter Tryz.func227 Tryz.ntmps227 rfl rfl (cI hs) ?_;simp only[cC]
 refine J2 ?_;refine dW ?_;refine aC (jX (m:=path.length) (n:=1) rf rf (by omega) (by omega)) rfl ?_;refine J1 ?_;refine cR ?_;refine nB [6,7,11,12,13,14,15,16,17,18,19,20,21,22,23,24,25,26,27,28,29,30,31,32,33,34,35,36,37,38,39,40,41,42,43,44,45,46,47,48,49,50,51,52,53,54,55,56,57,58,59,60,61,62] (λ y:Nat×XS×List aR=>[(6,.int .i64 (y.1:Int))]) (λ y=>y.1<path.length/\Nx g x y.2.1 y.2.2 (upT k.t path h K y.1) 0) (λ y=>[(bx,xO k bm y.2.1 dn rs),(bm,xM y.2.1)]) (λ y=>aP y.2.2) (λ y=>xW y.2.1) (λ y=>y.1) ((path.length-1,x,[])) (⟨by show path.length-1<path.length;omega,Nx.start go ok⟩) (λ y f hx=>?_) (hw0:=λ w hw=>hw);refine K0a ?_;obtain⟨hyl,hy⟩:=hx;refine kF ?_;refine En ?_;refine aA ?_;(refine eF 13 (λ g13=>?_) (λ g13=>?_)<;>refine Ka0 ?_);all_goals (refine Kb6 ?_;refine J6 ?_;refine Kc4 ?_)
 all_goals
  refine bD (λ c19=>?_) (λ c19=>?_)
  ·try exact nv c19
   all_goals
    have hy1:0<y.1:=by omega
    have gx:=hy.go.to (λ _=>yf hy1);have hpy:=hpd y.1;have hpz:=hpd (y.1-1);have hlx:=hy.len
   all_goals (refine sG ?_;refine aV ?_;refine gO [0,1,2,3,4,5,6,7,8,9,10,11] ?_;refine aT ?_;refine J9 ?_;refine aX ?_;refine bU (i:=5) (hq:=(aU (k:=2) (vs:=[.int .i64 k.t.root,.bool k.t.ro]) rf cY eE rfl rfl)) (h:=?_);refine iR ?_;refine bU (i:=8) (hq:=(dS (lst:=path) (k:=y.1) rf rf gS gB (.bR (uP hpA)) (by omega) (by omega))) (h:=?_);refine bU (i:=9) (hq:=(fH (lst:=path) (q:=y.1) rf gB (.bR (uP hpA)) (by omega))) (h:=?_);refine bK (i:=10) (hq:=(cM (hs:=xH k bx bm y.2.1 dn rs) (os:=xW y.2.1) (hc:=λ w hs=>pN hg k.t (path.getD y.1 0) _ ht (by omega) gx hy.ok hs))) (h:=λ x32 h32=>?_);refine J7 ?_;refine aV ?_;refine mY ?_;refine aA ?_)
   all_goals ((refine eF 37 (λ g37=>?_) (λ g37=>?_)<;>refine Ka0 ?_))
   all_goals (refine Ka0 ?_;(first|refine aI ?_|(refine aF ?_;refine aD (cM (hs:=xH k bx bm x32.2.1 dn rs) (os:=xW x32.2.1) (hc:=λ w hs=>cQ x32.1 _ h32.bd h32.go h32.ok hs)) (λ x40 h40=>?_)));(first|refine aI ?_|(refine aF ?_;refine cL ?_));refine S4 ?_;refine aG ?_)
   all_goals
    refine bD (λ c43=>?_) (λ c43=>?_);·all_goals refine aY Tryz.results227 (λ w hw=>?_);exact⟨(x32.2.1,y.2.2++x32.2.2),rfl,(hy.trans h32).cP (by first|exact h32.go.bY (by assumption)|exact h40.1.to (λ _=>if_neg (by assumption))) (bM _),(hw.fA nM).v4⟩
    ·try exact nv c43
     all_goals have g2:=h40.1.to (λ _=>if_pos (by assumption));have hch:=Ch.nx h32 hy.ch;have hl32:=h32.len
     all_goals (refine aW ?_;refine gO [0,1,2,3,4,5,6,7,8,9,10,11,12,13,14,15,16,17,18] ?_;refine aT ?_;refine J9 ?_;refine aX ?_;refine bU (i:=5) (hq:=(aU (k:=2) (vs:=[.int .i64 k.t.root,.bool k.t.ro]) rf cY eE rfl rfl)) (h:=?_);refine iR ?_;refine cW (i:=8) (hq:=(jX (m:=y.1) (n:=1) rf rf (by omega) (by omega))) (h:=?_);refine bU (i:=9) (hq:=(dS (lst:=path) (k:=y.1-1) rf rf gS gB (.bR (uP hpA)) (by omega) (by omega))) (h:=?_);refine bU (i:=10) (hq:=(fH (lst:=path) (q:=y.1-1) rf gB (.bR (uP hpA)) (by omega))) (h:=?_);refine iR ?_;refine bU (i:=13) (hq:=(dS (lst:=path) (k:=y.1) rf rf gS gB (.bR (uP hpA)) (by omega) (by omega))) (h:=?_);refine bU (i:=14) (hq:=(fH (lst:=path) (q:=y.1) rf gB (.bR (uP hpA)) (by omega))) (h:=?_);refine iR ?_;refine cW (i:=17) (hq:=(jX (m:=y.1) (n:=1) rf rf (by omega) (by omega))) (h:=?_);refine bK (i:=18) (hq:=(cM (hs:=xH k bx bm x32.2.1 dn rs) (os:=xW x32.2.1) (A0:=aP x32.2.1.L) (hA:=Ch.all hch hA) (hc:=λ w hs=>N8 hg k.t (path.getD (y.1-1) 0) (path.getD y.1 0) hh ((y.1-1:Nat):Int) _ ht (by omega) (by omega) (λ f hf=>hf) g2 h32.ok hs))) (h:=λ x62 h62=>?_);refine eS ?_;refine eV ?_;refine xN ?_;refine aC (jX (m:=y.1) (n:=1) rf rf (by omega) (by omega)) rfl ?_;refine J1 ?_)
     all_goals refine iX ((y.1-1,x62.2.1,(y.2.2++x32.2.2)++x62.2.2)) ?_ (hw1:=λ w hw=>(hw.fA mP).v6);·exact⟨by show y.1-1<path.length;omega,((hy.trans h32).trans h62).cP h62.go (bM _)⟩
  ·all_goals refine bS rfl ?_
   all_goals refine De Tryz.results227 (λ w hw=>?_);exact⟨(y.2.1,y.2.2),rfl,hy.cP (by first|exact hy.go.bY (by assumption)|(have e0:y.1=0:=by omega);(have g0:=hy.go);rw[e0] at g0;exact g0) (bM _),hw.v4⟩
end
end
end Go.Proofs.YtbajmaoegmbfgaaGreat
namespace Go.Ct
open Go Go.RowKit
section
theorem aBG{P:Program}{S:List (Nat×Value)}{G:World->Prop}{d:Nat}{ty t t':TypeId}{pos:String}{af:Array Edge}{gd:Option (Nat×Bool)}{x y:Operand}{l:Nat}(hx:ev S x=.int .i64 ((l:Int)-1))(hy:ev S y=.int .i64 0):aL P S G ⟨some d,.call {callee:=.builtin .max,args := #[x,y],argTypes := #[t,t']},ty,pos,af,gd⟩ (.int .i64 ((l-1:Nat):Int)):=⟨λ w _=>by
 have e:(if(0:Int)>(l:Int)-1 then 0 else(l:Int)-1)=((l-1:Nat):Int):=by split<;>omega
 simp[execOp,resolve,invoke,builtin,Builtin.max_,Builtin.max2,hx,hy,e]⟩
end
end Go.Ct
namespace Go.Proofs.YtbajmaoegmbfgaaGreat
open Go.Proofs.Tryz
open Go Go.RowKit Go.Ct
section
section
variable{k:Cl}{bx bm:Nat}{x:XS}{dn:Bool}{rs:Rs}{D:List Nat}{A:Fr}{w:World}{g:Gx}
set_option maxRecDepth 100000 in
set_option maxHeartbeats 2000000 in
theorem aBU(hg:g.Ok){m:Nat}(K:Rs->Tr)(n:Nat)(hn:n<=1073741824)(hm:m<18446744073709551616)(em:k.mask=(m:Int))(ek:k.key.size<=64)(ht:k.t.root<=9223372036854775807)(hA:∀f∈aP x.L,f∈A)(go:gG g x (sD k (jN k.key m) K n))(ok:x.Ok)(hs:SF w D (xH k bx bm x dn rs) A [] (xW x) w):Calls prog 185 #[.pointer (some ⟨bx,0,none⟩)] w λ e w'=>∃q:Rs×XS×List aR,e=.returned (.agg ⟨q.1.cells⟩)/\Nx g x q.2.1 q.2.2 (K q.1) 0/\SF w D (xH k bx bm q.2.1 dn rs) [] (aP q.2.2) (xW q.2.1) w':=by
 refine enter func185 ntmps185 rfl rfl (cI hs) ?_;simp only[cC];refine J0 ?_;refine aJ (λ x2=>?_);refine S8 ?_;refine eY [3,4,12,13,14,15,16,17,18,19,20,21,22,23,24,25,26,27] (λ j:Nat=>[(3,.pointer (some ⟨j,0,none⟩)),(4,.int .u64 (((jN k.key m):Nat):Int))]) (λ _=>True) (λ j=>[(j,.cells ⟨[.int .i64 k.t.root,.bool k.t.ro]⟩ 29 (0,0)),(x2,.cells ⟨Rs.zero.cells⟩ 64 (0,0)),(bx,xO k bm x dn rs),(bm,xM x)]) (λ _=>[]) (λ _=>xW x) (by decide) (λ _=>by exact rfl) ?_ (λ j f hx=>?_)
 ·refine K0g ?_;refine K0d ?_;refine gU (E:=[15,16]) (by decide +kernel) ((.cons ?_ (.cons ?_ .nil)));·refine A4 (i:=15) (hq:=(cV (hc:=λ w1 hw=>nR em hm ek w1))) (hfire:=E0h) (h:=λ x27=>?_);refine iQ (hfire:=E0a) (h:=λ x3=>?_);refine Cq ?_;refine fK (x3) ?_;·trivial
  ·refine iS (i:=16) (hfire:=E0a) (h:=λ x3=>?_);refine dD (i:=15) (hq:=(cV (hc:=λ w1 hw=>nR em hm ek w1))) (hfire:=(λ _=>by(refine aM.cons (by exact gJ (hq:=aU (k:=2) (vs:=[.int .i64 k.t.root,.bool k.t.ro]) rf cY eE rfl rfl)) ?_;exact aM.nil))) (h:=λ x27=>?_);refine Cq ?_;refine fK (x3) ?_;·trivial
 refine K0a ?_;refine Dm ?_;refine nB [5,6,7,8,9,10,11,28,29,30,31,32,33,34,35,36,37,38,39,40,41,42,43,44,45,46,47,48,49,50,51,52,53,54,55,56,57,58,59,60,61,62,63,64,65,66,67,68,69,70,71,72,73,74,75,76,77,78,79,80,81,82,83,84,85,86,87,88,89,90,91,92,93,94,95,96,97,98,99,100,101,102,103,104,105,106,107,108,109,110,111,112,113] (λ y:Nat×XS×List aR=>[]) (λ y=>y.1<=n/\Nx g x y.2.1 y.2.2 (sD k (jN k.key m) K y.1) 0) (λ y=>[(j,.cells ⟨[.int .i64 k.t.root,.bool k.t.ro]⟩ 29 (0,0)),(x2,.cells ⟨Rs.zero.cells⟩ 64 (0,0)),(bx,xO k bm y.2.1 dn rs),(bm,xM y.2.1)]) (λ y=>aP y.2.2) (λ y=>xW y.2.1) (λ y=>y.1) ((n,x,[])) (⟨Nat.le_refl n,Nx.start go ok |>.cP go (bM _)⟩) (λ y f hx=>?_) (hw0:=λ w hw=>hw);refine K0a ?_;obtain⟨hyn,hy⟩:=hx;refine K2a ?_;refine bD (λ c32=>?_) (λ c32=>?_)
 ·obtain⟨fu,hfu,gx⟩:=gG.kJ (T:=λ q=>sD k (jN k.key m) K q) hy.go (by simpa using c32) rfl hg;refine aW ?_;refine cR ?_;refine Kb5 ?_;refine aD (cM (hs:=xH k bx bm y.2.1 dn rs) (os:=xW y.2.1) (hc:=λ w hs=>C6 hg k.t _ ht gx hy.ok hs)) (λ x35 h35=>?_);refine zO ?_;refine aD (cM (hs:=xH k bx bm x35.2.1 dn rs) (os:=xW x35.2.1) (hc:=λ w hs=>cQ x35.1 _ h35.bd h35.go h35.ok hs)) (λ x38 h38=>?_);refine cL ?_;refine Ka4 ?_;refine aN (Ut (c:=1) (sz:=1) rfl (λ _=>dF (cs:=aH [x35.1]) qS Ky rfl rfl rfl rfl rfl)) (λ x41=>?_);refine J1 ?_;refine E9 ?_;refine nB [5,7,8,9,10,11,42,43,44,45,46,47,48,49,50,51,52,53,54,55,56,57,58,59,60,61,62,63,64,65,66,67,68,69,70,71,72,73,74,75,76,77,78,79,80,81,82,83,84,85,86,87,88,89,90,91,92,93,94,95,96,97,98,99,100,101,102,103,104,105,106,107,108,109,110,111,112,113] (λ z:Nat×Int×List Int×XS×List aR×Option Addr×Nat=>[(5,.int .i64 z.2.1),(7,.slice z.2.2.2.2.2.1 z.2.2.1.length z.2.2.2.2.2.2),(8,.int .i64 (((fu-z.1):Nat):Int))]) (λ z=>z.1<=fu/\Nx g x z.2.2.2.1 z.2.2.2.2.1 (wG k (jN k.key m) K (sD k (jN k.key m) K fu) (aB x35.2.1.L x35.1).nd.gen z.1 z.2.1 z.2.2.1 (fu-z.1)) z.2.1/\(∀v∈z.2.2.1,v<=z.2.2.2.1.L.length)/\z.2.2.1.length=(fu-z.1)+1) (λ z=>[(j,.cells ⟨[.int .i64 k.t.root,.bool k.t.ro]⟩ 29 (0,0)),(x2,.cells ⟨Rs.zero.cells⟩ 64 (0,0)),(bx,xO k bm z.2.2.2.1 dn rs),(bm,xM z.2.2.2.1)]) (λ z=>aP z.2.2.2.2.1) (λ z=>List.cons ⟨z.2.2.2.2.2.1,aH z.2.2.1,z.2.2.2.2.2.2,37,1⟩ (xW z.2.2.2.1)) (λ z=>z.1) ((fu,x35.1,[x35.1],x35.2.1,y.2.2++x35.2.2,some ⟨x41,0,none⟩,1)) (⟨Nat.le_refl fu,(hy.trans h35).cP (show gG g x35.2.1 (wG k (jN k.key m) K (sD k (jN k.key m) K fu) (aB x35.2.1.L x35.1).nd.gen fu x35.1 [x35.1] (fu-fu)) from(Nat.sub_self fu).symm▸h38.1) h35.bd,λ v hv=>by rw[List.mem_singleton.1 hv];exact h35.bd,by show 1=fu-fu+1;omega⟩) (λ z f hx=>?_) (hw0:=λ w hw=>(hw.fA nM).v6);refine K0a ?_;obtain⟨hzf,hz,hzp,hzl⟩:=hx;refine K2a ?_;refine bD (λ c46=>?_) (λ c46=>?_)
  ·obtain⟨fu2,hfu2,gz⟩:=gG.kJ (T:=λ q=>(wG k (jN k.key m) K (sD k (jN k.key m) K fu) (aB x35.2.1.L x35.1).nd.gen q z.2.1 z.2.2.1 (fu-z.1))) hz.go (by simpa using c46) rfl hg;have hpd:∀j,z.2.2.1.getD j 0<=z.2.2.2.1.L.length:=λ j=>mV hzp j;have hpl:=hpd ((fu-z.1)-1);refine sG ?_;refine Kb5 ?_;refine aA ?_;refine aD (cM (hs:=xH k bx bm z.2.2.2.1 dn rs) (os:=xW z.2.2.2.1) (hc:=λ w hs=>pN hg k.t z.2.1 _ ht hz.bd gz hz.ok hs)) (λ x52 h52=>?_);have hl52:=h52.len;have hb52:=h52.bd;have hbz:=hz.bd;have hch:=Ch.nx h52 hz.ch;refine jG ?_;refine Kc7 ?_;refine bD (λ c56=>?_) (λ c56=>?_)
   ·refine az ?_;refine iX (by exact(fu,x52.2.1,(z.2.2.2.2.1++x52.2.2))) ?_ (hw1:=λ w hw=>by exact(hw.fA nM).v6)
    ·first
     | exact⟨by show fu<=n;omega,(((hz.trans h52).trans h81).trans h107).cP g4 (bM _)⟩
     | exact⟨by show fu<=n;omega,((hz.trans h52).trans h81).cP g3 (bM _)⟩
     | exact⟨by show fu<=n;omega,((hz.trans h52).trans h81).cP (h81.go.bY (by assumption)) (bM _)⟩
     | exact⟨by show fu<=n;omega,((hz.trans h52).trans h74).cP h74.go (bM _)⟩
     | exact⟨by show fu<=n;omega,(hz.trans h52).cP (h52.go.bY (by assumption)) (bM _)⟩
     | exact⟨by show fu<=n;omega,hz.cP (hz.go.bY (by simpa using c46)) (bM _)⟩
   ·refine lH ?_;refine iZ ?_;refine aD (cM (hs:=xH k bx bm x52.2.1 dn rs) (os:=xW x52.2.1) (hc:=λ w hs=>cQ x52.1 _ h52.bd h52.go h52.ok hs)) (λ x59 h59=>?_);refine cL ?_;refine tH ?_;refine bD (λ c61=>?_) (λ c61=>?_)
    ·have g1:=h59.1.to (λ _=>if_pos c61);refine aV ?_;refine eM [(0,[]),(1,[]),(2,[]),(3,[]),(4,[]),(8,[]),(9,[]),(10,[]),(11,[]),(5,[1]),(6,[]),(7,[]),(12,[])] ?_;refine aT ?_;refine Kb3 ?_;refine Ro ?_;refine iR ?_;refine aT ?_;refine Ro ?_;((refine dD (i:=5) (hq:=(eO (aBG (l:=(fu-z.1)) rf rf))) (h:=λ x67=>?_)));refine bU (i:=6) (hq:=(dS (lst:=z.2.2.1) (k:=(fu-z.1)-1) rf rf gS gB (.own .head) (by omega) (by omega))) (h:=?_);refine bU (i:=7) (hq:=(fH (lst:=z.2.2.1) (q:=(fu-z.1)-1) rf gB (.own .head) (by omega))) (h:=?_);refine bK (i:=12) (hq:=(cM (hs:=xH k bx bm x52.2.1 dn rs) (os:=xW x52.2.1) (A0:=aP x52.2.1.L) (hA:=Ch.all hch hA) (hc:=λ w hs=>N8 hg k.t (z.2.2.1.getD ((fu-z.1)-1) 0) z.2.1 (pK k.key m) ((((fu-z.1):Nat):Int)-1) _ ht (by omega) (by omega) (λ f hf=>hf) g1 h52.ok hs))) (h:=λ x74 h74=>?_);refine eS ?_;refine az ?_;refine iX (by exact(fu,x74.2.1,((z.2.2.2.2.1++x52.2.2)++x74.2.2))) ?_ (hw1:=E0y)
     ·first
      | exact⟨by show fu<=n;omega,(((hz.trans h52).trans h81).trans h107).cP g4 (bM _)⟩
      | exact⟨by show fu<=n;omega,((hz.trans h52).trans h81).cP g3 (bM _)⟩
      | exact⟨by show fu<=n;omega,((hz.trans h52).trans h81).cP (h81.go.bY (by assumption)) (bM _)⟩
      | exact⟨by show fu<=n;omega,((hz.trans h52).trans h74).cP h74.go (bM _)⟩
      | exact⟨by show fu<=n;omega,(hz.trans h52).cP (h52.go.bY (by assumption)) (bM _)⟩
      | exact⟨by show fu<=n;omega,hz.cP (hz.go.bY (by simpa using c46)) (bM _)⟩
    ·have g1:=h59.1.to (λ _=>if_neg c61);refine Ar ?_;refine qL ?_;refine aA ?_;refine aD (cM (hs:=xH k bx bm x52.2.1 dn rs) (os:=xW x52.2.1) (A0:=aP x52.2.1.L) (hA:=Ch.all hch hA) (hc:=λ w hs=>T6 hg z.2.1 x52.1 (pK k.key m) (fu-z.1) (by omega) _ ht (by omega) (by omega) (λ f hf=>hf) g1 h52.ok hs)) (λ x81 h81=>?_);have hl81:=h81.len;have hch2:=Ch.nx h81 hch;refine K0c ?_;refine aJ (λ x10=>?_);refine lU (λ _=>?_);refine jG ?_;refine Kc7 ?_;refine bD (λ c87=>?_) (λ c87=>?_)
     ·refine az ?_;refine iX (by exact(fu,x81.2.2.1,((z.2.2.2.2.1++x52.2.2)++x81.2.2.2))) ?_ (hw1:=E0y)
      ·first
       | exact⟨by show fu<=n;omega,(((hz.trans h52).trans h81).trans h107).cP g4 (bM _)⟩
       | exact⟨by show fu<=n;omega,((hz.trans h52).trans h81).cP g3 (bM _)⟩
       | exact⟨by show fu<=n;omega,((hz.trans h52).trans h81).cP (h81.go.bY (by assumption)) (bM _)⟩
       | exact⟨by show fu<=n;omega,((hz.trans h52).trans h74).cP h74.go (bM _)⟩
       | exact⟨by show fu<=n;omega,(hz.trans h52).cP (h52.go.bY (by assumption)) (bM _)⟩
       | exact⟨by show fu<=n;omega,hz.cP (hz.go.bY (by simpa using c46)) (bM _)⟩
     ·refine lH ?_;refine J2 ?_;refine tH ?_;refine bD (λ c89=>?_) (λ c89=>?_)
      ·have g2:=h81.go.to (λ _=>if_pos (by assumption));refine Kc8 ?_;refine bD (λ c92=>?_) (λ c92=>?_)
       ·have g3:=g2.to (λ _=>if_pos (by assumption));refine xN ?_;refine qL ?_;refine aD (cM (hs:=xH k bx bm x81.2.2.1 dn rs) (os:=xW x81.2.2.1) (A0:=(List.cons (z.2.2.2.2.2.1,aH z.2.2.1) (aP x81.2.2.1.L))) (hA:=bG.cons (.inr (.inr (.inr ⟨_,.head _,rfl,rfl⟩))) (Ch.all hch2 hA)) (hc:=λ w hs=>aC6 hg (path:=z.2.2.1) (pK k.key m) _ ht (λ v hv=>by have:=hzp v hv;omega) (by omega) (by omega) (λ f hf=>List.mem_cons_of_mem _ hf) (List.mem_cons_self ..) g3 h81.ok hs)) (λ x96 h96=>?_);refine aG ?_;refine nG ?_;refine J5 ?_;refine aY results185 (λ w hw=>?_);first
        | exact⟨(x81.1,x96.1,(((z.2.2.2.2.1++x52.2.2)++x81.2.2.2)++x96.2)),rfl,(((hz.trans h52).trans h81).trans h96).cP h96.go (bM _),(hw.fA wP).v4⟩
        | exact⟨(x81.1,x81.2.2.1,((z.2.2.2.2.1++x52.2.2)++x81.2.2.2)),rfl,((hz.trans h52).trans h81).cP g3 (bM _),(hw.fA mP).v4⟩
       ·have g3:=g2.to (λ _=>if_neg (by assumption));refine aW ?_;refine nG ?_;refine J5 ?_;refine aY results185 (λ w hw=>?_);first
        | exact⟨(x81.1,x81.2.2.1,((z.2.2.2.2.1++x52.2.2)++x81.2.2.2)),rfl,((hz.trans h52).trans h81).cP g3 (bM _),(hw.fA mP).v4⟩
        | exact⟨(Rs.zero,y.2.1,y.2.2),rfl,hy.cP (hy.go.bY (by simpa using c32)) (bM _),hw.v4⟩
      ·have g2:=h81.go.to (λ _=>if_neg (by assumption));refine lH ?_;refine J2 ?_;refine tH ?_;refine bD (λ c99=>?_) (λ c99=>?_)
       ·have g3:=g2.to (λ _=>if_pos (by assumption));refine az ?_;refine iX (by exact(fu,x81.2.2.1,((z.2.2.2.2.1++x52.2.2)++x81.2.2.2))) ?_ (hw1:=E0y)
        ·first
         | exact⟨by show fu<=n;omega,(((hz.trans h52).trans h81).trans h107).cP g4 (bM _)⟩
         | exact⟨by show fu<=n;omega,((hz.trans h52).trans h81).cP g3 (bM _)⟩
         | exact⟨by show fu<=n;omega,((hz.trans h52).trans h81).cP (h81.go.bY (by assumption)) (bM _)⟩
         | exact⟨by show fu<=n;omega,((hz.trans h52).trans h74).cP h74.go (bM _)⟩
         | exact⟨by show fu<=n;omega,(hz.trans h52).cP (h52.go.bY (by assumption)) (bM _)⟩
         | exact⟨by show fu<=n;omega,hz.cP (hz.go.bY (by simpa using c46)) (bM _)⟩
       ·have g3:=g2.to (λ _=>if_neg (by assumption));refine lH ?_;refine iZ ?_;refine qL ?_;refine aA ?_;refine aN (cV (hc:=λ w1 hw=>fM (pK k.key m) (((fu-z.1):Nat):Int) w1)) (λ x105=>?_);refine aA ?_;refine aD (cM (hs:=xH k bx bm x81.2.2.1 dn rs) (os:=xW x81.2.2.1) (A0:=aP x81.2.2.1.L) (hA:=Ch.all hch2 hA) (hc:=λ w hs=>Xc hg z.2.1 x52.1 (eZ (jN k.key m) (((fu-z.1):Nat):Int)) (aB x35.2.1.L x35.1).nd.gen _ ht (by omega) (by omega) (λ f hf=>hf) g3 h81.ok hs)) (λ x107 h107=>?_);refine Ka4 ?_;refine tH ?_;refine bD (λ c109=>?_) (λ c109=>?_)
        ·have g4:=h107.go.to (λ _=>if_pos (by assumption));refine az ?_;refine iX (by exact(fu,x107.2.1,(((z.2.2.2.2.1++x52.2.2)++x81.2.2.2)++x107.2.2))) ?_ (hw1:=λ w hw=>by exact(hw.fA wP).v6)
         ·first
          | exact⟨by show fu<=n;omega,(((hz.trans h52).trans h81).trans h107).cP g4 (bM _)⟩
          | exact⟨by show fu<=n;omega,((hz.trans h52).trans h81).cP g3 (bM _)⟩
          | exact⟨by show fu<=n;omega,((hz.trans h52).trans h81).cP (h81.go.bY (by assumption)) (bM _)⟩
          | exact⟨by show fu<=n;omega,((hz.trans h52).trans h74).cP h74.go (bM _)⟩
          | exact⟨by show fu<=n;omega,(hz.trans h52).cP (h52.go.bY (by assumption)) (bM _)⟩
          | exact⟨by show fu<=n;omega,hz.cP (hz.go.bY (by simpa using c46)) (bM _)⟩
        ·have g4:=h107.go.to (λ _=>if_neg (by assumption));refine aW ?_;refine Jl ?_;refine aN (Ut (c:=1) (sz:=1) rfl (λ _=>dF (cs:=aH [x107.1]) qS Ky rfl rfl rfl rfl rfl)) (λ x112=>?_);(refine fI (λ x113=>?_);try (refine eP (λ h113=>?_)));refine J1 ?_;refine Kb2 ?_;refine iX ((z.1-1,x107.1,z.2.2.1++[x107.1],x107.2.1,(((z.2.2.2.2.1++x52.2.2)++x81.2.2.2)++x107.2.2),x113.1,x113.2)) ?_ (hw1:=λ w hw=>(hw.fA wP).v6)
         ·have e1:z.1-1=fu2:=by omega
          have e2:(fu-z.1)+1=fu-fu2:=by omega
          refine⟨by show z.1-1<=fu;omega,((((hz.trans h52).trans h81).trans h107)).cP ?_ h107.bd,λ v hv=>?_,by show(z.2.2.1++[x107.1]).length=fu-(z.1-1)+1;rw[List.length_append,List.length_singleton];omega⟩;·show gG g x107.2.1 (wG k (jN k.key m) K (sD k (jN k.key m) K fu) (aB x35.2.1.L x35.1).nd.gen (z.1-1) x107.1 (z.2.2.1++[x107.1]) (fu-(z.1-1)));rw[e1,<- e2];exact g4
          ·show v<=(x107.2.1.L.length:Int);have hl107:=h107.len;rcases List.mem_append.1 hv with hv|hv
           ·have:=hzp v hv;omega
           ·rw[List.mem_singleton.1 hv];exact h107.bd
  ·refine az ?_;refine iX (by exact(fu,z.2.2.2.1,z.2.2.2.2.1)) ?_ (hw1:=λ w hw=>by exact hw.v6)
   ·first
    | exact⟨by show fu<=n;omega,(((hz.trans h52).trans h81).trans h107).cP g4 (bM _)⟩
    | exact⟨by show fu<=n;omega,((hz.trans h52).trans h81).cP g3 (bM _)⟩
    | exact⟨by show fu<=n;omega,((hz.trans h52).trans h81).cP (h81.go.bY (by assumption)) (bM _)⟩
    | exact⟨by show fu<=n;omega,((hz.trans h52).trans h74).cP h74.go (bM _)⟩
    | exact⟨by show fu<=n;omega,(hz.trans h52).cP (h52.go.bY (by assumption)) (bM _)⟩
    | exact⟨by show fu<=n;omega,hz.cP (hz.go.bY (by simpa using c46)) (bM _)⟩
 ·refine bS rfl ?_;refine Kc2 ?_;refine aY results185 (λ w hw=>?_);exact⟨(Rs.zero,y.2.1,y.2.2),rfl,hy.cP (hy.go.bY (by simpa using c32)) (bM _),hw.v4⟩
end
end
end Go.Proofs.YtbajmaoegmbfgaaGreat
namespace Go.Ct
open Go Go.RowKit
section
theorem Yk{n c:Nat}:mT n c {(({Nd.zero with kind:=3}:Nd).c [] []) with main:=0,prev:=0,status:=0}:=⟨bM _,bM _,bM _,(λ r hr=>nomatch hr),bM _,bM _,bM _,⟨0,rfl,by decide⟩,⟨0,rfl,by decide⟩⟩
theorem Qu{a b c d e:List aR}:∀f∈aP ((((a++b)++c)++d)++e),f.2=[]∨f∈aP e++(aP d++(aP c++(aP b++aP a))):=λ f hf=>by
 simp only[cU,List.mem_append] at hf ⊢;rcases hf with(((h|h)|h)|h)|h;·exact .inr (.inr (.inr (.inr (.inr h))))
 ·exact .inr (.inr (.inr (.inr (.inl h))))
 ·exact .inr (.inr (.inr (.inl h)))
 ·exact .inr (.inr (.inl h))
 ·exact .inr (.inl h)
theorem Gu{a b c d e i:List aR}:∀f∈aP (((((a++b)++c)++d)++e)++i),f.2=[]∨f∈aP i++(aP e++(aP d++(aP c++(aP b++aP a)))):=λ f hf=>by
 simp only[cU,List.mem_append] at hf ⊢;rcases hf with((((h|h)|h)|h)|h)|h;·exact .inr (.inr (.inr (.inr (.inr (.inr h)))))
 ·exact .inr (.inr (.inr (.inr (.inr (.inl h)))))
 ·exact .inr (.inr (.inr (.inr (.inl h))))
 ·exact .inr (.inr (.inr (.inl h)))
 ·exact .inr (.inr (.inl h))
 ·exact .inr (.inl h)
theorem Nx.nil{g:Gx}{x x1 x2:XS}{N:List aR}{t1 t2:Tr}{b1 b2:Int}(h1:Nx g x x1 N t1 b1)(h2:Nx g x1 x2 [] t2 b2):Nx g x x2 N t2 b2:=⟨h2.go,h2.ok,by rw[h2.ext,h1.ext,List.append_nil],Nat.le_trans h1.lc h2.lc,h2.bd⟩
end
end Go.Ct
namespace Go.Proofs.YtbajmaoegmbfgaaGreat
open Go.Proofs.Tryz
open Go Go.RowKit Go.Ct
section
section
variable{k:Cl}{bx bm:Nat}{x:XS}{dn:Bool}{rs:Rs}{D:List Nat}{A:Fr}{w:World}{g:Gx}
theorem Ra(hg:g.Ok)(m:Int)(K:Rs->Tr)(hm:m<=x.L.length)(go:gG g x (Kz m K))(ok:x.Ok)(hs:SF w D (xH k bx bm x dn rs) A [] (xW x) w):Calls prog 229 #[.pointer (some ⟨bx,0,none⟩),.int .i64 m] w λ e w'=>∃q:Rs×XS×List aR,e=.returned (.agg ⟨q.1.cells⟩)/\Nx g x q.2.1 q.2.2 (K q.1) 0/\SF w D (xH k bx bm q.2.1 dn rs) [] (aP q.2.2) (xW q.2.1) w':=by refine enter func229 ntmps229 rfl rfl (cI hs) ?_;simp only[cC];refine K0q ?_;intro x4;refine J2 ?_;refine aD (cM (hs:=xH k bx bm x dn rs) (os:=xW x) (hc:=λ w hs=>sc hg _ go ok hs)) (λ x7 h7=>?_);refine zO ?_;refine aA ?_;refine bN ?_;refine aA ?_;refine aD (cM (hs:=xH k bx bm x7.2 dn rs) (os:=xW x7.2) (A0:=[(none,aH []),(none,dI [])]) (hc:=λ w hs=>hU hg (n:={Nd.zero with kind:=2,gen:=x7.1}) (xs:=[]) (ys:=[]) m _ rfl rfl (by decide) (Nat.zero_le _) sN (by have:=h7.len;omega) h7.go h7.ok hs)) (λ x13 h13=>?_);refine aD (cM (hs:=xH k bx bm x13.2.1 dn rs) (os:=xW x13.2.1) (hc:=λ w hs=>Uc hg x13.1 _ h13.bd h13.go h13.ok hs)) (λ x14 h14=>?_);refine bN ?_;refine xX ?_;refine aY results229 (λ w hw=>?_);exact⟨(Jy x14.1 false,x14.2,x13.2.2),rfl,⟨h14.go,h14.ok,by rw[h14.ext,h13.ext,h7.ext,List.append_nil,List.append_nil],Nat.le_trans h7.lc (Nat.le_trans h13.lc h14.lc),bM _⟩,by rw[List.append_nil] at hw;exact hw.v4⟩
set_option maxRecDepth 100000 in
theorem Im(hg:g.Ok)(fz:Bool)(K:Rs->Tr)(n:Nat)(ht:k.t.root<=9223372036854775807)(go:gG g x (uN k.t fz K n))(ok:x.Ok)(hs:SF w D (xH k bx bm x dn rs) A [] (xW x) w):Calls prog 186 #[.pointer (some ⟨bx,0,none⟩),.bool fz] w λ e w'=>∃q:Rs×XS×List aR,e=.returned (.agg ⟨q.1.cells⟩)/\Nx g x q.2.1 q.2.2 (K q.1) 0/\SF w D (xH k bx bm q.2.1 dn rs) [] (aP q.2.2) (xW q.2.1) w':=by
 refine enter func186 ntmps186 rfl rfl (cI hs) ?_;simp only[cC];refine K0q ?_;intro x4;refine Jg ?_;refine K0l ?_;refine aJ (λ x5=>?_);refine J5 ?_;refine B9 ?_;refine aG ?_;refine bD (λ c16=>?_) (λ c16=>?_)
 ·have g1:=go.to (λ _=>if_pos c16);refine J2 ?_;refine J3 ?_;refine aD (cM (hs:=xH k bx bm x dn rs) (os:=xW x) (hc:=λ w hs=>rD hg k.t.root _ ht g1 ok hs)) (λ x20 h20=>?_);refine Kc6 ?_;refine aG ?_;refine bD (λ c21=>?_) (λ c21=>?_)
  ·have g2:=h20.go.to (λ _=>if_pos c21);refine iZ ?_;refine aD (cM (hs:=xH k bx bm x20.2 dn rs) (os:=xW x20.2) (hc:=λ w hs=>Uc hg x20.1 _ h20.bd g2 h20.ok hs)) (λ x24 h24=>?_);refine bN ?_;refine xX ?_;refine aY results186 (λ w hw=>?_);exact⟨(Jy x24.1 true,x24.2,[]),rfl,(h20.nil h24).cP h24.go (bM _),hw.bA (hF:=by exact aZ.nil)⟩
  ·have g2:=h20.go.to (λ _=>if_neg (by rw[c21];decide));refine Ar ?_;refine bO ?_;refine aA ?_;refine aD (cM (hs:=xH k bx bm x20.2 dn rs) (os:=xW x20.2) (hc:=λ w hs=>pN hg k.t x20.1 _ ht h20.bd g2 h20.ok hs)) (λ x31 h31=>?_);refine aD (cM (hs:=xH k bx bm x31.2.1 dn rs) (os:=xW x31.2.1) (hc:=λ w hs=>Ra hg x31.1 _ h31.bd h31.go h31.ok hs)) (λ x32 h32=>?_);refine J5 ?_;refine aY results186 (λ w hw=>?_);exact⟨(x32.1,x32.2.1,x31.2.2++x32.2.2),rfl,(h20.trans h31).trans h32,by rw[List.append_nil] at hw;exact(hw.fA nM).v4⟩
 ·have g1:=go.to (λ _=>if_neg (by rw[c16];decide));refine sG ?_;refine nB [7,8,9,33,34,35,36,37,38,39,40,41,42,43,44,45,46,47,48,49,50,51,52,53,54,55,56,57,58,59,60,61,62,63,64,65,66] (λ y:Nat×XS×List aR=>[]) (λ y=>Nx g x y.2.1 y.2.2 (Gs k.t fz K y.1) 0) (λ y=>[(x5,.cells ⟨[.int .i64 k.t.root,.bool k.t.ro]⟩ 29 (0,0)),(x4,.cells ⟨Rs.zero.cells⟩ 64 (0,0)),(bx,xO k bm y.2.1 dn rs),(bm,xM y.2.1)]) (λ y=>aP y.2.2) (λ y=>xW y.2.1) (λ y=>y.1) ((n,x,[])) (Nx.start g1 ok) (λ y f hx=>?_) (hw0:=λ w hw=>hw);refine K0a ?_;refine K2a ?_;refine bD (λ c37=>?_) (λ c37=>?_)
  ·obtain⟨fu,hfu,gx⟩:=gG.kJ (T:=λ q=>Gs k.t fz K q) hx.go (by simpa using c37) rfl hg;refine aW ?_;refine cR ?_;refine Kb5 ?_;refine aD (cM (hs:=xH k bx bm y.2.1 dn rs) (os:=xW y.2.1) (hc:=λ w hs=>C6 hg k.t _ ht gx hx.ok hs)) (λ x40 h40=>?_);refine Ka4 ?_;refine bO ?_;refine aA ?_;refine aD (cM (hs:=xH k bx bm x40.2.1 dn rs) (os:=xW x40.2.1) (hc:=λ w hs=>pN hg k.t x40.1 _ ht h40.bd h40.go h40.ok hs)) (λ x44 h44=>?_);refine Ka4 ?_;refine aD (cM (hs:=xH k bx bm x44.2.1 dn rs) (os:=xW x44.2.1) (hc:=λ w hs=>sc hg _ h44.go h44.ok hs)) (λ x46 h46=>?_);have hl44:=h44.len;have hl46:=h46.len;have hb40:=h40.bd;have hb44:=h44.bd;refine jG ?_;refine aV ?_;refine eM [(0,[]),(1,[]),(2,[]),(3,[]),(4,[]),(5,[]),(6,[]),(7,[]),(8,[1]),(9,[]),(10,[])] ?_;refine aT ?_;refine Kb3 ?_;refine iR ?_;refine iI ?_;refine aT ?_;refine bK (i:=8) (hq:=(cM (hs:=xH k bx bm x46.2 dn rs) (os:=xW x46.2) (A0:=[(none,aH []),(none,dI [])]) (hc:=λ w hs=>hU hg (n:={Nd.zero with kind:=2,gen:=x46.1}) (xs:=[]) (ys:=[]) x44.1 _ rfl rfl (by decide) (Nat.zero_le _) sN (by omega) h46.go h46.ok hs))) (h:=λ x55 h55=>?_);refine bK (i:=9) (hq:=(cM (hs:=xH k bx bm x55.2.1 dn rs) (os:=xW x55.2.1) (hc:=λ w hs=>Nl hg k.t x40.1 x44.1 x55.1 _ ht (by have:=h55.len;omega) (by have:=h55.len;omega) h55.bd h55.go h55.ok hs))) (h:=λ x56 h56=>?_);have hl55:=h55.len;have hl56:=h56.len;have hall:=((((hx.trans h40).trans h44).nil h46).trans h55).trans h56;refine ry ?_;refine eS ?_;refine bD (λ c57=>?_) (λ c57=>?_)
   ·have g3:=h56.go.to (λ _=>if_neg (by simpa using c57));refine bS rfl ?_;refine iX ((fu,x56.2.1,(((y.2.2++x40.2.2)++x44.2.2)++x55.2.2)++x56.2.2)) ?_ (hw1:=λ w hw=>(hw.fA Qu).v6)
    ·exact hall.cP g3 (bM _)
   ·have g3:=h56.go.to (λ _=>if_pos (by simpa using c57));refine lH ?_;refine J2 ?_;refine aG ?_;refine bD (λ c58=>?_) (λ c58=>?_)
    ·have g4:=g3.to (λ _=>if_pos c58);refine iZ ?_;refine aD (cM (hs:=xH k bx bm x56.2.1 dn rs) (os:=xW x56.2.1) (hc:=λ w hs=>Uc hg x40.1 _ (by omega) g4 h56.ok hs)) (λ x61 h61=>?_);refine bN ?_;refine xX ?_;refine aY results186 (λ w hw=>?_);exact⟨(Jy x61.1 true,x61.2,(((y.2.2++x40.2.2)++x44.2.2)++x55.2.2)++x56.2.2),rfl,(hall.nil h61).cP h61.go (bM _),(hw.fA Qu).v4⟩
    ·have g4:=g3.to (λ _=>if_neg (by rw[c58];decide));refine Ar ?_;refine aD (cM (hs:=xH k bx bm x56.2.1 dn rs) (os:=xW x56.2.1) (hc:=λ w hs=>Ra hg x44.1 _ (by omega) g4 h56.ok hs)) (λ x66 h66=>?_);refine J5 ?_;refine aY results186 (λ w hw=>?_);exact⟨(x66.1,x66.2.1,((((y.2.2++x40.2.2)++x44.2.2)++x55.2.2)++x56.2.2)++x66.2.2),rfl,hall.trans h66,(hw.fA Gu).v4⟩
  ·refine bS rfl ?_;refine Kc2 ?_;refine aY results186 (λ w hw=>?_);exact⟨(Rs.zero,y.2.1,y.2.2),rfl,hx.cP (hx.go.bY (by simpa using c37)) (bM _),hw.v4⟩
set_option maxRecDepth 100000 in
theorem Yf(hg:g.Ok)(K:Rs->Tr)(n:Nat)(ht:k.t.root<=9223372036854775807)(go:gG g x (wD k.t K n))(ok:x.Ok)(hs:SF w D (xH k bx bm x dn rs) A [] (xW x) w):Calls prog 187 #[.pointer (some ⟨bx,0,none⟩)] w λ e w'=>∃q:Rs×XS×List aR,e=.returned (.agg ⟨q.1.cells⟩)/\Nx g x q.2.1 q.2.2 (K q.1) 0/\SF w D (xH k bx bm q.2.1 dn rs) [] (aP q.2.2) (xW q.2.1) w':=by
 refine enter func187 ntmps187 rfl rfl (cI hs) ?_;simp only[cC];refine J0 ?_;refine aJ (λ x2=>?_);refine aG ?_;refine Jg ?_;refine K0l ?_;refine aJ (λ x3=>?_);refine J5 ?_;refine Dm ?_;refine nB [4,5,6,7,13,14,15,16,17,18,19,20,21,22,23,24,25,26,27,28,29,30,31,32,33,34,35,36,37,38,39,40] (λ y:Nat×XS×List aR=>[]) (λ y=>Nx g x y.2.1 y.2.2 (wD k.t K y.1) 0) (λ y=>[(x3,.cells ⟨[.int .i64 k.t.root,.bool k.t.ro]⟩ 29 (0,0)),(x2,.cells ⟨Rs.zero.cells⟩ 64 (0,0)),(bx,xO k bm y.2.1 dn rs),(bm,xM y.2.1)]) (λ y=>aP y.2.2) (λ y=>xW y.2.1) (λ y=>y.1) ((n,x,[])) (Nx.start go ok) (λ y f hx=>?_) (hw0:=λ w hw=>hw);refine K0a ?_;refine K2a ?_;refine bD (λ c17=>?_) (λ c17=>?_)
 ·obtain⟨fu,hfu,gx⟩:=gG.kJ (T:=λ q=>wD k.t K q) hx.go (by simpa using c17) rfl hg;refine aW ?_;refine cR ?_;refine Kb5 ?_;refine aD (cM (hs:=xH k bx bm y.2.1 dn rs) (os:=xW y.2.1) (hc:=λ w hs=>C6 hg k.t _ ht gx hx.ok hs)) (λ x20 h20=>?_);refine Ka4 ?_;refine bO ?_;refine aA ?_;refine aD (cM (hs:=xH k bx bm x20.2.1 dn rs) (os:=xW x20.2.1) (hc:=λ w hs=>pN hg k.t x20.1 _ ht h20.bd h20.go h20.ok hs)) (λ x24 h24=>?_);refine Ka4 ?_;refine bN ?_;refine aD (cM (hs:=xH k bx bm x24.2.1 dn rs) (os:=xW x24.2.1) (A0:=[(none,aH []),(none,dI [])]) (hc:=λ w hs=>hU hg (n:={Nd.zero with kind:=3}) (xs:=[]) (ys:=[]) 0 _ rfl rfl (by decide) (Nat.zero_le _) Yk (bM _) h24.go h24.ok hs)) (λ x27 h27=>?_);refine Ka4 ?_;refine aD (cM (hs:=xH k bx bm x27.2.1 dn rs) (os:=xW x27.2.1) (hc:=λ w hs=>sc hg _ h27.go h27.ok hs)) (λ x29 h29=>?_);have hl24:=h24.len;have hl27:=h27.len;have hl29:=h29.len;have hb20:=h20.bd;have hb24:=h24.bd;have hb27:=h27.bd;refine jG ?_;refine eM [(0,[]),(1,[]),(2,[]),(3,[]),(4,[]),(5,[]),(6,[]),(7,[]),(8,[1]),(9,[])] ?_;refine aT ?_;refine Kb3 ?_;refine iR ?_;refine iI ?_;refine aT ?_;refine bK (i:=8) (hq:=(cM (hs:=xH k bx bm x29.2 dn rs) (os:=xW x29.2) (A0:=[(none,aH []),(none,dI [])]) (hc:=λ w hs=>hU hg (n:={Nd.zero with kind:=2,gen:=x29.1}) (xs:=[]) (ys:=[]) x27.1 _ rfl rfl (by decide) (Nat.zero_le _) sN (by omega) h29.go h29.ok hs))) (h:=λ x38 h38=>?_);refine bK (i:=9) (hq:=(cM (hs:=xH k bx bm x38.2.1 dn rs) (os:=xW x38.2.1) (hc:=λ w hs=>Nl hg k.t x20.1 x24.1 x38.1 _ ht (by have:=h38.len;omega) (by have:=h38.len;omega) h38.bd h38.go h38.ok hs))) (h:=λ x39 h39=>?_);have hall:=((((hx.trans h20).trans h24).trans h27).nil h29).trans h38 |>.trans h39;refine eS ?_;refine bD (λ c39=>?_) (λ c39=>?_)
  ·have g3:=h39.go.to (λ _=>if_pos c39);refine Kc2 ?_;refine aY results187 (λ w hw=>?_);exact⟨(dO true 0,x39.2.1,((((y.2.2++x20.2.2)++x24.2.2)++x27.2.2)++x38.2.2)++x39.2.2),rfl,hall.cP g3 (bM _),(hw.fA Gu).v4⟩
  ·have g3:=h39.go.to (λ _=>if_neg (by rw[c39];decide));refine pP ?_;refine iX ((fu,x39.2.1,((((y.2.2++x20.2.2)++x24.2.2)++x27.2.2)++x38.2.2)++x39.2.2)) ?_ (hw1:=λ w hw=>(hw.fA Gu).v6)
   ·exact hall.cP g3 (bM _)
 ·refine bS rfl ?_;refine Kc2 ?_;refine aY results187 (λ w hw=>?_);exact⟨(Rs.zero,y.2.1,y.2.2),rfl,hx.cP (hx.go.bY (by simpa using c17)) (bM _),hw.v4⟩
end
end
end Go.Proofs.YtbajmaoegmbfgaaGreat

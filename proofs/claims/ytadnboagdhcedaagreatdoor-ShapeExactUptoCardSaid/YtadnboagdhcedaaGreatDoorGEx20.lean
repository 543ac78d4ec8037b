/- Executions of the reference: UP. -/
import Derived.Test.YtadnboagdhcedaaGreatDoorGEx18

set_option linter.unusedSimpArgs false
set_option linter.unusedVariables false
namespace Go.Ct
section
open Go Go.RowKit
theorem tS{a:Option Addr}{cs:List Value}:∀{F:Fr},(a,cs)∈F->nP F a cs
 | [],h=>(List.not_mem_nil h).elim
 | f::F,h=>by
  rcases List.mem_cons.1 h with rfl|h
  ·exact .head
  ·exact .tail (tS h)
end
end Go.Ct
namespace Go.Proofs.YtadnboagdhcedaaGreatDoor
section
open Go Go.RowKit Go.Ct
theorem qv{t:iS}{path:List Int}{h:Nat}{K:Tr}{l:Nat}(hl:0<l):uy t path h K l=pA t (path.getD l 0) λ m=>.node m λ nm=>if nm.kind=5 then zZ t (path.getD (l-1) 0) (path.getD l 0) h ((l-1:Nat):Int) λ _=>uy t path h K (l-1) else K:=by
 cases l with
 | zero=>omega
 | succ q=>rfl
section
variable{k:Cl}{bx bm:Nat}{x:XS}{dn:Bool}{rs:Rs}{D:List Nat}{A:Fr}{w:World}{g:Gx}
set_option maxRecDepth 100000 in
theorem aBw(hg:g.Ok){path:List Int}{pp:Option Addr}{pc:Nat}{h:Nat}(hh:h<18446744073709551616)(K:Tr)(ht:k.t.root<=9223372036854775807)(hp:∀v∈path,v<=x.L.length)(hp1:1<=path.length)(hp2:path.length<=2147483648)(hA:∀f∈bD x.L,f∈A)(hpA:(pp,aH path)∈A)(go:gS g x (uy k.t path h K (path.length-1)))(ok:x.Ok)(hs:SF w D (xH k bx bm x dn rs) A [] (xW x) w):Calls Tryz.prog 125 #[.pointer (some ⟨bx,0,none⟩),.slice pp path.length pc,.int .u64 (h:Int)] w λ e w'=>∃q:XS×List aI,e=.returned (.tuple #[])/\Nx g x q.1 q.2 K 0/\SF w D (xH k bx bm q.1 dn rs) [] (bD q.2) (xW q.1) w':=by
  have hpd:∀j,path.getD j 0<=x.L.length:=λ j=>nV hp j;refine enter Tryz.func125 Tryz.ntmps125 rfl rfl (cL hs) ?_;simp only[cP]
  refine J2 ?_;refine dE ?_;refine aE (kF (m:=path.length) (n:=1) rf rf (by omega) (by omega)) rfl ?_;refine J1 ?_;refine cE ?_;refine kK [6,7,11,12,13,14,15,16,17,18,19,20,21,22,23,24,25,26,27,28,29,30,31,32,33,34,35,36,37,38,39,40,41,42,43,44,45,46,47,48,49,50,51,52,53,54,55,56,57,58,59,60,61,62] (λ y:Nat×XS×List aI=>[(6,.int .i64 (y.1:Int))]) (λ y=>y.1<path.length/\Nx g x y.2.1 y.2.2 (uy k.t path h K y.1) 0) (λ y=>[(bx,xO k bm y.2.1 dn rs),(bm,xM y.2.1)]) (λ y=>bD y.2.2) (λ y=>xW y.2.1) (λ y=>y.1) ((path.length-1,x,[])) (⟨by show path.length-1<path.length;omega,Nx.start go ok⟩) (λ y f hx=>?_) (hw0:=λ w hw=>hw);refine K0a ?_;obtain⟨hyl,hy⟩:=hx
  refine jL ?_;refine vH ?_;refine aB ?_;(refine eM 13 (λ g13=>?_) (λ g13=>?_)<;>refine Ka0 ?_);all_goals ((first|refine aJ ?_|(refine aF ?_;refine eR ?_));refine J6 ?_;refine Kd5 ?_)
  all_goals
   refine bA (λ c19=>?_) (λ c19=>?_)
   · try exact nv c19
     all_goals
      have hy1:0<y.1:=by omega
      have gx:=hy.go.to (λ _=>qv hy1);have hpy:=hpd y.1;have hpz:=hpd (y.1-1);have hlx:=hy.len
     all_goals (refine mZ ?_;refine aV ?_;refine gP [0,1,2,3,4,5,6,7,8,9,10,11] ?_;refine aL ?_;refine J9 ?_;refine aN ?_;refine bJ (i:=5) (hq:=(aW (k:=2) (vs:=[.int .i64 k.t.root,.bool k.t.ro]) rf dI dR rfl rfl)) (h:=?_);refine iJ ?_;refine bJ (i:=8) (hq:=(bE (lst:=path) (k:=y.1) rf rf eC dC (.bO (tS hpA)) (by omega) (by omega))) (h:=?_);refine bJ (i:=9) (hq:=(bP (lst:=path) (q:=y.1) rf dC (.bO (tS hpA)) (by omega))) (h:=?_);refine bL (i:=10) (hq:=(cM (hs:=xH k bx bm y.2.1 dn rs) (os:=xW y.2.1) (hc:=λ w hs=>oU hg k.t (path.getD y.1 0) _ ht (by omega) gx hy.ok hs))) (h:=λ x32 h32=>?_);refine J7 ?_;refine aV ?_;refine oR ?_;refine aB ?_)
     all_goals ((refine eM 37 (λ g37=>?_) (λ g37=>?_)<;>refine Ka0 ?_))
     all_goals (refine Ka0 ?_;(first|refine aJ ?_|(refine aF ?_;refine aD (cM (hs:=xH k bx bm x32.2.1 dn rs) (os:=xW x32.2.1) (hc:=λ w hs=>cW x32.1 _ h32.bd h32.go h32.ok hs)) (λ x40 h40=>?_)));(first|refine aJ ?_|(refine aF ?_;refine cJ ?_));refine Rq ?_;refine aK ?_)
     all_goals
      refine bA (λ c43=>?_) (λ c43=>?_)
      · all_goals
         refine bK Tryz.results125 (λ w hw=>?_);exact⟨(x32.2.1,y.2.2++x32.2.2),rfl,(hy.trans h32).cU (by first|exact h32.go.cB (by assumption)|exact h40.1.to (λ _=>if_neg (by assumption))) (bT _),(hw.fN nS).zA0⟩
      · try exact nv c43
        all_goals
         have g2:=h40.1.to (λ _=>if_pos (by assumption));have hch:=Ch.nx h32 hy.ch;have hl32:=h32.len
        all_goals (refine bB ?_;refine gP [0,1,2,3,4,5,6,7,8,9,10,11,12,13,14,15,16,17,18] ?_;refine aL ?_;refine J9 ?_;refine aN ?_;refine bJ (i:=5) (hq:=(aW (k:=2) (vs:=[.int .i64 k.t.root,.bool k.t.ro]) rf dI dR rfl rfl)) (h:=?_);refine iJ ?_;refine cS (i:=8) (hq:=(kF (m:=y.1) (n:=1) rf rf (by omega) (by omega))) (h:=?_);refine bJ (i:=9) (hq:=(bE (lst:=path) (k:=y.1-1) rf rf eC dC (.bO (tS hpA)) (by omega) (by omega))) (h:=?_);refine bJ (i:=10) (hq:=(bP (lst:=path) (q:=y.1-1) rf dC (.bO (tS hpA)) (by omega))) (h:=?_);refine iJ ?_;refine bJ (i:=13) (hq:=(bE (lst:=path) (k:=y.1) rf rf eC dC (.bO (tS hpA)) (by omega) (by omega))) (h:=?_);refine bJ (i:=14) (hq:=(bP (lst:=path) (q:=y.1) rf dC (.bO (tS hpA)) (by omega))) (h:=?_);refine iJ ?_;refine cS (i:=17) (hq:=(kF (m:=y.1) (n:=1) rf rf (by omega) (by omega))) (h:=?_);refine bL (i:=18) (hq:=(cM (hs:=xH k bx bm x32.2.1 dn rs) (os:=xW x32.2.1) (A0:=bD x32.2.1.L) (hA:=Ch.all hch hA) (hc:=λ w hs=>M1 hg k.t (path.getD (y.1-1) 0) (path.getD y.1 0) hh ((y.1-1:Nat):Int) _ ht (by omega) (by omega) (λ f hf=>hf) g2 h32.ok hs))) (h:=λ x62 h62=>?_);refine dJ ?_;refine eX ?_;refine zT ?_;refine aE (kF (m:=y.1) (n:=1) rf rf (by omega) (by omega)) rfl ?_;refine J1 ?_)
        all_goals
         refine gT ((y.1-1,x62.2.1,(y.2.2++x32.2.2)++x62.2.2)) ?_ (hw1:=λ w hw=>(hw.fN mR).zA1)
         · exact⟨by show y.1-1<path.length;omega,((hy.trans h32).trans h62).cU h62.go (bT _)⟩
   · all_goals refine bM rfl ?_
     all_goals
      refine Hq Tryz.results125 (λ w hw=>?_);exact⟨(y.2.1,y.2.2),rfl,hy.cU (by first|exact hy.go.cB (by assumption)|(have e0:y.1=0:=by omega);(have g0:=hy.go);rw[e0] at g0;exact g0) (bT _),hw.zA0⟩
end
end

/- Executions of the reference: DROP. -/
end Go.Proofs.YtadnboagdhcedaaGreatDoor
namespace Go.Ct
section
open Go Go.RowKit
theorem aAi{P:Program}{S:List (Nat×Value)}{G:World->Prop}{d:Nat}{ty t t':TypeId}{pos:String}{af:Array Edge}{gd:Option (Nat×Bool)}{x y:Operand}{l:Nat}(hx:ev S x=.int .i64 ((l:Int)-1))(hy:ev S y=.int .i64 0):aM P S G ⟨some d,.call {callee:=.builtin .max,args := #[x,y],argTypes := #[t,t']},ty,pos,af,gd⟩ (.int .i64 ((l-1:Nat):Int)):=⟨λ w _=>by
 have e:(if(0:Int)>(l:Int)-1 then 0 else(l:Int)-1)=((l-1:Nat):Int):=by split<;>omega
 simp[execOp,resolve,invoke,builtin,Builtin.max_,Builtin.max2,hx,hy,e]⟩
end
end Go.Ct
namespace Go.Proofs.YtadnboagdhcedaaGreatDoor
section
open Go Go.RowKit Go.Ct
section
variable{k:Cl}{bx bm:Nat}{x:XS}{dn:Bool}{rs:Rs}{D:List Nat}{A:Fr}{w:World}{g:Gx}
set_option maxRecDepth 100000 in
set_option maxHeartbeats 2000000 in
theorem w5(hg:g.Ok){m:Nat}(K:Rs->Tr)(n:Nat)(hn:n<=1073741824)(hm:m<18446744073709551616)(em:k.mask=(m:Int))(ek:k.key.size<=64)(ht:k.t.root<=9223372036854775807)(hA:∀f∈bD x.L,f∈A)(go:gS g x (wM k (jW k.key m) K n))(ok:x.Ok)(hs:SF w D (xH k bx bm x dn rs) A [] (xW x) w):Calls Tryz.prog 90 #[.pointer (some ⟨bx,0,none⟩)] w λ e w'=>∃q:Rs×XS×List aI,e=.returned (.agg ⟨q.1.cells⟩)/\Nx g x q.2.1 q.2.2 (K q.1) 0/\SF w D (xH k bx bm q.2.1 dn rs) [] (bD q.2.2) (xW q.2.1) w':=by
 refine enter Tryz.func90 Tryz.ntmps90 rfl rfl (cL hs) ?_;simp only[cP]
 refine J0 ?_;refine aT (λ x2=>?_);refine Vy ?_;refine eN [3,4,12,13,14,15,16,17,18,19,20,21,22,23,24,25,26,27] (λ j:Nat=>[(3,.pointer (some ⟨j,0,none⟩)),(4,.int .u64 (((jW k.key m):Nat):Int))]) (λ _=>True) (λ j=>[(j,.cells ⟨[.int .i64 k.t.root,.bool k.t.ro]⟩ 29 (0,0)),(x2,.cells ⟨Rs.zero.cells⟩ 68 (0,0)),(bx,xO k bm x dn rs),(bm,xM x)]) (λ _=>[]) (λ _=>xW x) (by decide) (λ _=>by exact rfl) ?_ (λ j f hx=>?_)
 ·refine K0k ?_;refine K0e ?_;refine fV (E:=[15,16]) (by decide +kernel) ((.cons ?_ (.cons ?_ .nil)))
  ·refine Ga (i:=15) (hq:=(cV (hc:=λ w1 hw=>nU em hm ek w1))) (hfire:=(λ _=>by(refine aG.cons (by exact cG (hq:=aW (k:=2) (vs:=[.int .i64 k.t.root,.bool k.t.ro]) rf dI dR rfl rfl)) ?_;exact aG.nil))) (h:=λ x27=>?_);refine gG (hfire:=(λ _=>by((repeat (first|exact aG.nil|refine aG.cons (by first|exact cG (hq:=aW (k:=2) (vs:=[.int .i64 k.t.root,.bool k.t.ro]) rf dI dR rfl rfl)|exact bY) ?_));done))) (h:=λ x3=>?_);refine Cv ?_;refine eQ (x3) ?_
   ·trivial
  ·refine gW (i:=16) (hfire:=(λ _=>by((repeat (first|exact aG.nil|refine aG.cons (by first|exact cG (hq:=aW (k:=2) (vs:=[.int .i64 k.t.root,.bool k.t.ro]) rf dI dR rfl rfl)|exact bY) ?_));done))) (h:=λ x3=>?_);refine cA (i:=15) (hq:=(cV (hc:=λ w1 hw=>nU em hm ek w1))) (hfire:=(λ _=>by(refine aG.cons (by exact cG (hq:=aW (k:=2) (vs:=[.int .i64 k.t.root,.bool k.t.ro]) rf dI dR rfl rfl)) ?_;exact aG.nil))) (h:=λ x27=>?_);refine Cv ?_;refine eQ (x3) ?_
   ·trivial
 refine K0a ?_;refine Ez ?_;refine kK [5,6,7,8,9,10,11,28,29,30,31,32,33,34,35,36,37,38,39,40,41,42,43,44,45,46,47,48,49,50,51,52,53,54,55,56,57,58,59,60,61,62,63,64,65,66,67,68,69,70,71,72,73,74,75,76,77,78,79,80,81,82,83,84,85,86,87,88,89,90,91,92,93,94,95,96,97,98,99,100,101,102,103,104,105,106,107,108,109,110,111,112,113] (λ y:Nat×XS×List aI=>[]) (λ y=>y.1<=n/\Nx g x y.2.1 y.2.2 (wM k (jW k.key m) K y.1) 0) (λ y=>[(j,.cells ⟨[.int .i64 k.t.root,.bool k.t.ro]⟩ 29 (0,0)),(x2,.cells ⟨Rs.zero.cells⟩ 68 (0,0)),(bx,xO k bm y.2.1 dn rs),(bm,xM y.2.1)]) (λ y=>bD y.2.2) (λ y=>xW y.2.1) (λ y=>y.1) ((n,x,[])) (⟨Nat.le_refl n,Nx.start go ok |>.cU go (bT _)⟩) (λ y f hx=>?_) (hw0:=λ w hw=>hw);refine K0a ?_;obtain⟨hyn,hy⟩:=hx
 refine K2j ?_;refine bA (λ c32=>?_) (λ c32=>?_)
 ·obtain⟨fu,hfu,gx⟩:=gS.jY (T:=λ q=>wM k (jW k.key m) K q) hy.go (by simpa using c32) rfl hg
  refine bB ?_;refine cE ?_;refine Kd2 ?_;refine aD (cM (hs:=xH k bx bm y.2.1 dn rs) (os:=xW y.2.1) (hc:=λ w hs=>Cz hg k.t _ ht gx hy.ok hs)) (λ x35 h35=>?_);refine vE ?_;refine aD (cM (hs:=xH k bx bm x35.2.1 dn rs) (os:=xW x35.2.1) (hc:=λ w hs=>cW x35.1 _ h35.bd h35.go h35.ok hs)) (λ x38 h38=>?_);refine cJ ?_;refine Ka6 ?_;refine aS (Sj (c:=1) (sz:=1) rfl (λ _=>cX (cs:=aH [x35.1]) mV Ih rfl rfl rfl rfl rfl)) (λ x41=>?_);refine J1 ?_;refine zR ?_;refine kK [5,7,8,9,10,11,42,43,44,45,46,47,48,49,50,51,52,53,54,55,56,57,58,59,60,61,62,63,64,65,66,67,68,69,70,71,72,73,74,75,76,77,78,79,80,81,82,83,84,85,86,87,88,89,90,91,92,93,94,95,96,97,98,99,100,101,102,103,104,105,106,107,108,109,110,111,112,113] (λ z:Nat×Int×List Int×XS×List aI×Option Addr×Nat=>[(5,.int .i64 z.2.1),(7,.slice z.2.2.2.2.2.1 z.2.2.1.length z.2.2.2.2.2.2),(8,.int .i64 (((fu-z.1):Nat):Int))]) (λ z=>z.1<=fu/\Nx g x z.2.2.2.1 z.2.2.2.2.1 (vY k (jW k.key m) K (wM k (jW k.key m) K fu) (aA x35.2.1.L x35.1).nd.gen z.1 z.2.1 z.2.2.1 (fu-z.1)) z.2.1/\(∀v∈z.2.2.1,v<=z.2.2.2.1.L.length)/\z.2.2.1.length=(fu-z.1)+1) (λ z=>[(j,.cells ⟨[.int .i64 k.t.root,.bool k.t.ro]⟩ 29 (0,0)),(x2,.cells ⟨Rs.zero.cells⟩ 68 (0,0)),(bx,xO k bm z.2.2.2.1 dn rs),(bm,xM z.2.2.2.1)]) (λ z=>bD z.2.2.2.2.1) (λ z=>List.cons ⟨z.2.2.2.2.2.1,aH z.2.2.1,z.2.2.2.2.2.2,62,1⟩ (xW z.2.2.2.1)) (λ z=>z.1) ((fu,x35.1,[x35.1],x35.2.1,y.2.2++x35.2.2,some ⟨x41,0,none⟩,1)) (⟨Nat.le_refl fu,(hy.trans h35).cU (show gS g x35.2.1 (vY k (jW k.key m) K (wM k (jW k.key m) K fu) (aA x35.2.1.L x35.1).nd.gen fu x35.1 [x35.1] (fu-fu)) from(Nat.sub_self fu).symm▸h38.1) h35.bd,λ v hv=>by rw[List.mem_singleton.1 hv];exact h35.bd,by show 1=fu-fu+1;omega⟩) (λ z f hx=>?_) (hw0:=λ w hw=>(hw.fN nS).zA1);refine K0a ?_;obtain⟨hzf,hz,hzp,hzl⟩:=hx
  refine K2j ?_;refine bA (λ c46=>?_) (λ c46=>?_)
  ·obtain⟨fu2,hfu2,gz⟩:=gS.jY (T:=λ q=>(vY k (jW k.key m) K (wM k (jW k.key m) K fu) (aA x35.2.1.L x35.1).nd.gen q z.2.1 z.2.2.1 (fu-z.1))) hz.go (by simpa using c46) rfl hg
   have hpd:∀j,z.2.2.1.getD j 0<=z.2.2.2.1.L.length:=λ j=>nV hzp j;have hpl:=hpd ((fu-z.1)-1);refine mZ ?_;refine Kd2 ?_;refine aB ?_;refine aD (cM (hs:=xH k bx bm z.2.2.2.1 dn rs) (os:=xW z.2.2.2.1) (hc:=λ w hs=>oU hg k.t z.2.1 _ ht hz.bd gz hz.ok hs)) (λ x52 h52=>?_);have hl52:=h52.len;have hb52:=h52.bd;have hbz:=hz.bd;have hch:=Ch.nx h52 hz.ch;refine gX ?_;refine Kd8 ?_;refine bA (λ c56=>?_) (λ c56=>?_)
   ·refine Zb ?_;refine gT (by exact(fu,x52.2.1,(z.2.2.2.2.1++x52.2.2))) ?_ (hw1:=λ w hw=>by exact(hw.fN nS).zA1)
    ·first
     | exact⟨by show fu<=n;omega,(((hz.trans h52).trans h81).trans h107).cU g4 (bT _)⟩
     | exact⟨by show fu<=n;omega,((hz.trans h52).trans h81).cU g3 (bT _)⟩
     | exact⟨by show fu<=n;omega,((hz.trans h52).trans h81).cU (h81.go.cB (by assumption)) (bT _)⟩
     | exact⟨by show fu<=n;omega,((hz.trans h52).trans h74).cU h74.go (bT _)⟩
     | exact⟨by show fu<=n;omega,(hz.trans h52).cU (h52.go.cB (by assumption)) (bT _)⟩
     | exact⟨by show fu<=n;omega,hz.cU (hz.go.cB (by simpa using c46)) (bT _)⟩
   ·refine jH ?_;refine jJ ?_;refine aD (cM (hs:=xH k bx bm x52.2.1 dn rs) (os:=xW x52.2.1) (hc:=λ w hs=>cW x52.1 _ h52.bd h52.go h52.ok hs)) (λ x59 h59=>?_);refine cJ ?_;refine rW ?_;refine bA (λ c61=>?_) (λ c61=>?_)
    ·have g1:=h59.1.to (λ _=>if_pos c61);refine aV ?_;refine dZ [(0,[]),(1,[]),(2,[]),(3,[]),(4,[]),(8,[]),(9,[]),(10,[]),(11,[]),(5,[1]),(6,[]),(7,[]),(12,[])] ?_;refine Kb7 ?_;refine iJ ?_;refine qK ?_;refine iJ ?_;refine aL ?_;refine qK ?_;((refine cA (i:=5) (hq:=(fO (aAi (l:=(fu-z.1)) rf rf))) (h:=λ x67=>?_)));refine bJ (i:=6) (hq:=(bE (lst:=z.2.2.1) (k:=(fu-z.1)-1) rf rf eC dC (.own .head) (by omega) (by omega))) (h:=?_);refine bJ (i:=7) (hq:=(bP (lst:=z.2.2.1) (q:=(fu-z.1)-1) rf dC (.own .head) (by omega))) (h:=?_);refine bL (i:=12) (hq:=(cM (hs:=xH k bx bm x52.2.1 dn rs) (os:=xW x52.2.1) (A0:=bD x52.2.1.L) (hA:=Ch.all hch hA) (hc:=λ w hs=>M1 hg k.t (z.2.2.1.getD ((fu-z.1)-1) 0) z.2.1 (tK k.key m) ((((fu-z.1):Nat):Int)-1) _ ht (by omega) (by omega) (λ f hf=>hf) g1 h52.ok hs))) (h:=λ x74 h74=>?_);refine dJ ?_;refine Zb ?_;refine gT (by exact(fu,x74.2.1,((z.2.2.2.2.1++x52.2.2)++x74.2.2))) ?_ (hw1:=λ w hw=>by exact(hw.fN mR).zA1)
     ·first
      | exact⟨by show fu<=n;omega,(((hz.trans h52).trans h81).trans h107).cU g4 (bT _)⟩
      | exact⟨by show fu<=n;omega,((hz.trans h52).trans h81).cU g3 (bT _)⟩
      | exact⟨by show fu<=n;omega,((hz.trans h52).trans h81).cU (h81.go.cB (by assumption)) (bT _)⟩
      | exact⟨by show fu<=n;omega,((hz.trans h52).trans h74).cU h74.go (bT _)⟩
      | exact⟨by show fu<=n;omega,(hz.trans h52).cU (h52.go.cB (by assumption)) (bT _)⟩
      | exact⟨by show fu<=n;omega,hz.cU (hz.go.cB (by simpa using c46)) (bT _)⟩
    ·have g1:=h59.1.to (λ _=>if_neg c61);refine Cg ?_;refine pK ?_;refine aB ?_;refine aD (cM (hs:=xH k bx bm x52.2.1 dn rs) (os:=xW x52.2.1) (A0:=bD x52.2.1.L) (hA:=Ch.all hch hA) (hc:=λ w hs=>T6 hg z.2.1 x52.1 (tK k.key m) (fu-z.1) (by omega) _ ht (by omega) (by omega) (λ f hf=>hf) g1 h52.ok hs)) (λ x81 h81=>?_);have hl81:=h81.len;have hch2:=Ch.nx h81 hch;refine K0d ?_;refine aT (λ x10=>?_);refine nY (λ _=>?_);refine gX ?_;refine Kd8 ?_;refine bA (λ c87=>?_) (λ c87=>?_)
     ·refine Zb ?_;refine gT (by exact(fu,x81.2.2.1,((z.2.2.2.2.1++x52.2.2)++x81.2.2.2))) ?_ (hw1:=λ w hw=>by exact(hw.fN mR).zA1)
      ·first
       | exact⟨by show fu<=n;omega,(((hz.trans h52).trans h81).trans h107).cU g4 (bT _)⟩
       | exact⟨by show fu<=n;omega,((hz.trans h52).trans h81).cU g3 (bT _)⟩
       | exact⟨by show fu<=n;omega,((hz.trans h52).trans h81).cU (h81.go.cB (by assumption)) (bT _)⟩
       | exact⟨by show fu<=n;omega,((hz.trans h52).trans h74).cU h74.go (bT _)⟩
       | exact⟨by show fu<=n;omega,(hz.trans h52).cU (h52.go.cB (by assumption)) (bT _)⟩
       | exact⟨by show fu<=n;omega,hz.cU (hz.go.cB (by simpa using c46)) (bT _)⟩
     ·refine jH ?_;refine J2 ?_;refine rW ?_;refine bA (λ c89=>?_) (λ c89=>?_)
      ·have g2:=h81.go.to (λ _=>if_pos (by assumption));refine Ce ?_;refine rW ?_;refine bA (λ c92=>?_) (λ c92=>?_)
       ·have g3:=g2.to (λ _=>if_pos (by assumption));refine zT ?_;refine pK ?_;refine aD (cM (hs:=xH k bx bm x81.2.2.1 dn rs) (os:=xW x81.2.2.1) (A0:=(List.cons (z.2.2.2.2.2.1,aH z.2.2.1) (bD x81.2.2.1.L))) (hA:=bU.cons (.inr (.inr (.inr ⟨_,.head _,rfl,rfl⟩))) (Ch.all hch2 hA)) (hc:=λ w hs=>aBw hg (path:=z.2.2.1) (tK k.key m) _ ht (λ v hv=>by have:=hzp v hv;omega) (by omega) (by omega) (λ f hf=>List.mem_cons_of_mem _ hf) (List.mem_cons_self ..) g3 h81.ok hs)) (λ x96 h96=>?_);refine aK ?_;refine Kb5 ?_;refine bK Tryz.results90 (λ w hw=>?_);first
        | exact⟨(x81.1,x96.1,(((z.2.2.2.2.1++x52.2.2)++x81.2.2.2)++x96.2)),rfl,(((hz.trans h52).trans h81).trans h96).cU h96.go (bT _),(hw.fN wR).zA0⟩
        | exact⟨(x81.1,x81.2.2.1,((z.2.2.2.2.1++x52.2.2)++x81.2.2.2)),rfl,((hz.trans h52).trans h81).cU g3 (bT _),(hw.fN mR).zA0⟩
       ·have g3:=g2.to (λ _=>if_neg (by assumption));refine bB ?_;refine Kb5 ?_;refine bK Tryz.results90 (λ w hw=>?_);first
        | exact⟨(x81.1,x81.2.2.1,((z.2.2.2.2.1++x52.2.2)++x81.2.2.2)),rfl,((hz.trans h52).trans h81).cU g3 (bT _),(hw.fN mR).zA0⟩
        | exact⟨(Rs.zero,y.2.1,y.2.2),rfl,hy.cU (hy.go.cB (by simpa using c32)) (bT _),hw.zA0⟩
      ·have g2:=h81.go.to (λ _=>if_neg (by assumption));refine jH ?_;refine J2 ?_;refine rW ?_;refine bA (λ c99=>?_) (λ c99=>?_)
       ·have g3:=g2.to (λ _=>if_pos (by assumption));refine Zb ?_;refine gT (by exact(fu,x81.2.2.1,((z.2.2.2.2.1++x52.2.2)++x81.2.2.2))) ?_ (hw1:=λ w hw=>by exact(hw.fN mR).zA1)
        ·first
         | exact⟨by show fu<=n;omega,(((hz.trans h52).trans h81).trans h107).cU g4 (bT _)⟩
         | exact⟨by show fu<=n;omega,((hz.trans h52).trans h81).cU g3 (bT _)⟩
         | exact⟨by show fu<=n;omega,((hz.trans h52).trans h81).cU (h81.go.cB (by assumption)) (bT _)⟩
         | exact⟨by show fu<=n;omega,((hz.trans h52).trans h74).cU h74.go (bT _)⟩
         | exact⟨by show fu<=n;omega,(hz.trans h52).cU (h52.go.cB (by assumption)) (bT _)⟩
         | exact⟨by show fu<=n;omega,hz.cU (hz.go.cB (by simpa using c46)) (bT _)⟩
       ·have g3:=g2.to (λ _=>if_neg (by assumption));refine jH ?_;refine jJ ?_;refine pK ?_;refine aB ?_;refine aS (cV (hc:=λ w1 hw=>fF (tK k.key m) (((fu-z.1):Nat):Int) w1)) (λ x105=>?_);refine aB ?_;refine aD (cM (hs:=xH k bx bm x81.2.2.1 dn rs) (os:=xW x81.2.2.1) (A0:=bD x81.2.2.1.L) (hA:=Ch.all hch2 hA) (hc:=λ w hs=>Ve hg z.2.1 x52.1 (iE (jW k.key m) (((fu-z.1):Nat):Int)) (aA x35.2.1.L x35.1).nd.gen _ ht (by omega) (by omega) (λ f hf=>hf) g3 h81.ok hs)) (λ x107 h107=>?_);refine Ka6 ?_;refine rW ?_;refine bA (λ c109=>?_) (λ c109=>?_)
        ·have g4:=h107.go.to (λ _=>if_pos (by assumption));refine Zb ?_;refine gT (by exact(fu,x107.2.1,(((z.2.2.2.2.1++x52.2.2)++x81.2.2.2)++x107.2.2))) ?_ (hw1:=λ w hw=>by exact(hw.fN wR).zA1)
         ·first
          | exact⟨by show fu<=n;omega,(((hz.trans h52).trans h81).trans h107).cU g4 (bT _)⟩
          | exact⟨by show fu<=n;omega,((hz.trans h52).trans h81).cU g3 (bT _)⟩
          | exact⟨by show fu<=n;omega,((hz.trans h52).trans h81).cU (h81.go.cB (by assumption)) (bT _)⟩
          | exact⟨by show fu<=n;omega,((hz.trans h52).trans h74).cU h74.go (bT _)⟩
          | exact⟨by show fu<=n;omega,(hz.trans h52).cU (h52.go.cB (by assumption)) (bT _)⟩
          | exact⟨by show fu<=n;omega,hz.cU (hz.go.cB (by simpa using c46)) (bT _)⟩
        ·have g4:=h107.go.to (λ _=>if_neg (by assumption));refine bB ?_;refine Il ?_;refine aS (Sj (c:=1) (sz:=1) rfl (λ _=>cX (cs:=aH [x107.1]) mV Ih rfl rfl rfl rfl rfl)) (λ x112=>?_);(refine fB (λ x113=>?_);try (refine fL (λ h113=>?_)));refine J1 ?_;refine Kc2 ?_;refine gT ((z.1-1,x107.1,z.2.2.1++[x107.1],x107.2.1,(((z.2.2.2.2.1++x52.2.2)++x81.2.2.2)++x107.2.2),x113.1,x113.2)) ?_ (hw1:=λ w hw=>(hw.fN wR).zA1)
         ·have e1:z.1-1=fu2:=by omega
          have e2:(fu-z.1)+1=fu-fu2:=by omega
          refine⟨by show z.1-1<=fu;omega,((((hz.trans h52).trans h81).trans h107)).cU ?_ h107.bd,λ v hv=>?_,by show(z.2.2.1++[x107.1]).length=fu-(z.1-1)+1;rw[List.length_append,List.length_singleton];omega⟩
          ·show gS g x107.2.1 (vY k (jW k.key m) K (wM k (jW k.key m) K fu) (aA x35.2.1.L x35.1).nd.gen (z.1-1) x107.1 (z.2.2.1++[x107.1]) (fu-(z.1-1)))
           rw[e1,<- e2]
           exact g4
          ·show v<=(x107.2.1.L.length:Int)
           have hl107:=h107.len;rcases List.mem_append.1 hv with hv|hv
           ·have:=hzp v hv;omega
           ·rw[List.mem_singleton.1 hv];exact h107.bd
  ·refine Zb ?_;refine gT (by exact(fu,z.2.2.2.1,z.2.2.2.2.1)) ?_ (hw1:=λ w hw=>by exact hw.zA1)
   ·first
    | exact⟨by show fu<=n;omega,(((hz.trans h52).trans h81).trans h107).cU g4 (bT _)⟩
    | exact⟨by show fu<=n;omega,((hz.trans h52).trans h81).cU g3 (bT _)⟩
    | exact⟨by show fu<=n;omega,((hz.trans h52).trans h81).cU (h81.go.cB (by assumption)) (bT _)⟩
    | exact⟨by show fu<=n;omega,((hz.trans h52).trans h74).cU h74.go (bT _)⟩
    | exact⟨by show fu<=n;omega,(hz.trans h52).cU (h52.go.cB (by assumption)) (bT _)⟩
    | exact⟨by show fu<=n;omega,hz.cU (hz.go.cB (by simpa using c46)) (bT _)⟩
 ·refine bM rfl ?_;refine Ke0 ?_;refine bK Tryz.results90 (λ w hw=>?_);exact⟨(Rs.zero,y.2.1,y.2.2),rfl,hy.cU (hy.go.cB (by simpa using c32)) (bT _),hw.zA0⟩
end
end

/- Executions of the reference: COPY, SNAPSHOT, CLEAR. -/
end Go.Proofs.YtadnboagdhcedaaGreatDoor
namespace Go.Ct
section
open Go Go.RowKit
theorem Yc{n c:Nat}:pJ n c {(({Nd.zero with kind:=3}:Nd).c [] []) with main:=0,prev:=0,status:=0}:=⟨bT _,bT _,bT _,(λ r hr=>nomatch hr),bT _,bT _,bT _,⟨0,rfl,by decide⟩,⟨0,rfl,by decide⟩⟩
theorem Rb{a b c d e:List aI}:∀f∈bD ((((a++b)++c)++d)++e),f.2=[]∨f∈bD e++(bD d++(bD c++(bD b++bD a))):=λ f hf=>by
 simp only[fH,List.mem_append] at hf ⊢
 rcases hf with(((h|h)|h)|h)|h
 ·exact .inr (.inr (.inr (.inr (.inr h))))
 ·exact .inr (.inr (.inr (.inr (.inl h))))
 ·exact .inr (.inr (.inr (.inl h)))
 ·exact .inr (.inr (.inl h))
 ·exact .inr (.inl h)
theorem Hi{a b c d e i:List aI}:∀f∈bD (((((a++b)++c)++d)++e)++i),f.2=[]∨f∈bD i++(bD e++(bD d++(bD c++(bD b++bD a)))):=λ f hf=>by
 simp only[fH,List.mem_append] at hf ⊢
 rcases hf with((((h|h)|h)|h)|h)|h
 ·exact .inr (.inr (.inr (.inr (.inr (.inr h)))))
 ·exact .inr (.inr (.inr (.inr (.inr (.inl h)))))
 ·exact .inr (.inr (.inr (.inr (.inl h))))
 ·exact .inr (.inr (.inr (.inl h)))
 ·exact .inr (.inr (.inl h))
 ·exact .inr (.inl h)
theorem Nx.nil{g:Gx}{x x1 x2:XS}{N:List aI}{t1 t2:Tr}{b1 b2:Int}(h1:Nx g x x1 N t1 b1)(h2:Nx g x1 x2 [] t2 b2):Nx g x x2 N t2 b2:=⟨h2.go,h2.ok,by rw[h2.ext,h1.ext,List.append_nil],Nat.le_trans h1.lc h2.lc,h2.bd⟩
end
end Go.Ct
namespace Go.Proofs.YtadnboagdhcedaaGreatDoor
section
open Go Go.RowKit Go.Ct
section
variable{k:Cl}{bx bm:Nat}{x:XS}{dn:Bool}{rs:Rs}{D:List Nat}{A:Fr}{w:World}{g:Gx}
theorem Ot(hg:g.Ok)(m:Int)(K:Rs->Tr)(hm:m<=x.L.length)(go:gS g x (O6 m K))(ok:x.Ok)(hs:SF w D (xH k bx bm x dn rs) A [] (xW x) w):Calls Tryz.prog 127 #[.pointer (some ⟨bx,0,none⟩),.int .i64 m] w λ e w'=>∃q:Rs×XS×List aI,e=.returned (.agg ⟨q.1.cells⟩)/\Nx g x q.2.1 q.2.2 (K q.1) 0/\SF w D (xH k bx bm q.2.1 dn rs) [] (bD q.2.2) (xW q.2.1) w':=by
 refine enter Tryz.func127 Tryz.ntmps127 rfl rfl (cL hs) ?_;simp only[cP]
 refine J0 ?_;refine aT (λ x4=>?_);refine aK ?_;refine J2 ?_;refine aD (cM (hs:=xH k bx bm x dn rs) (os:=xW x) (hc:=λ w hs=>jy hg _ go ok hs)) (λ x7 h7=>?_);refine vE ?_;refine aB ?_;refine bQ ?_;refine aB ?_;refine aD (cM (hs:=xH k bx bm x7.2 dn rs) (os:=xW x7.2) (A0:=[(none,aH []),(none,dK [])]) (hc:=λ w hs=>iD hg (n:={Nd.zero with kind:=2,gen:=x7.1}) (xs:=[]) (ys:=[]) m _ rfl rfl (by decide) (Nat.zero_le _) sH (by have:=h7.len;omega) h7.go h7.ok hs)) (λ x13 h13=>?_);refine aD (cM (hs:=xH k bx bm x13.2.1 dn rs) (os:=xW x13.2.1) (hc:=λ w hs=>S9 hg x13.1 _ h13.bd h13.go h13.ok hs)) (λ x14 h14=>?_);refine bQ ?_;refine B9 ?_;refine bK Tryz.results127 (λ w hw=>?_);exact⟨(Q3 x14.1 false,x14.2,x13.2.2),rfl,⟨h14.go,h14.ok,by rw[h14.ext,h13.ext,h7.ext,List.append_nil,List.append_nil],Nat.le_trans h7.lc (Nat.le_trans h13.lc h14.lc),bT _⟩,by rw[List.append_nil] at hw;exact hw.zA0⟩
set_option maxRecDepth 100000 in
theorem F6(hg:g.Ok)(fz:Bool)(K:Rs->Tr)(n:Nat)(ht:k.t.root<=9223372036854775807)(go:gS g x (tI k.t fz K n))(ok:x.Ok)(hs:SF w D (xH k bx bm x dn rs) A [] (xW x) w):Calls Tryz.prog 91 #[.pointer (some ⟨bx,0,none⟩),.bool fz] w λ e w'=>∃q:Rs×XS×List aI,e=.returned (.agg ⟨q.1.cells⟩)/\Nx g x q.2.1 q.2.2 (K q.1) 0/\SF w D (xH k bx bm q.2.1 dn rs) [] (bD q.2.2) (xW q.2.1) w':=by
 refine enter Tryz.func91 Tryz.ntmps91 rfl rfl (cL hs) ?_;simp only[cP]
 refine J0 ?_;refine aT (λ x4=>?_);refine aK ?_;refine Ii ?_;refine K0q ?_;refine aT (λ x5=>?_);refine Ke6 ?_;refine aK ?_;refine bA (λ c16=>?_) (λ c16=>?_)
 ·have g1:=go.to (λ _=>if_pos c16);refine J2 ?_;refine J3 ?_;refine aD (cM (hs:=xH k bx bm x dn rs) (os:=xW x) (hc:=λ w hs=>qM hg k.t.root _ ht g1 ok hs)) (λ x20 h20=>?_);refine Ke4 ?_;refine aK ?_;refine bA (λ c21=>?_) (λ c21=>?_)
  ·have g2:=h20.go.to (λ _=>if_pos c21);refine jJ ?_;refine aD (cM (hs:=xH k bx bm x20.2 dn rs) (os:=xW x20.2) (hc:=λ w hs=>S9 hg x20.1 _ h20.bd g2 h20.ok hs)) (λ x24 h24=>?_);refine bQ ?_;refine B9 ?_;refine bK Tryz.results91 (λ w hw=>?_);exact⟨(Q3 x24.1 true,x24.2,[]),rfl,(h20.nil h24).cU h24.go (bT _),hw.aQ (hF:=by exact aP.nil)⟩
  ·have g2:=h20.go.to (λ _=>if_neg (by rw[c21];decide));refine Cg ?_;refine bI ?_;refine aB ?_;refine aD (cM (hs:=xH k bx bm x20.2 dn rs) (os:=xW x20.2) (hc:=λ w hs=>oU hg k.t x20.1 _ ht h20.bd g2 h20.ok hs)) (λ x31 h31=>?_);refine aD (cM (hs:=xH k bx bm x31.2.1 dn rs) (os:=xW x31.2.1) (hc:=λ w hs=>Ot hg x31.1 _ h31.bd h31.go h31.ok hs)) (λ x32 h32=>?_);refine J5 ?_;refine bK Tryz.results91 (λ w hw=>?_);exact⟨(x32.1,x32.2.1,x31.2.2++x32.2.2),rfl,(h20.trans h31).trans h32,by rw[List.append_nil] at hw;exact(hw.fN nS).zA0⟩
 ·have g1:=go.to (λ _=>if_neg (by rw[c16];decide));refine mZ ?_;refine kK [7,8,9,33,34,35,36,37,38,39,40,41,42,43,44,45,46,47,48,49,50,51,52,53,54,55,56,57,58,59,60,61,62,63,64,65,66] (λ y:Nat×XS×List aI=>[]) (λ y=>Nx g x y.2.1 y.2.2 (I8 k.t fz K y.1) 0) (λ y=>[(x5,.cells ⟨[.int .i64 k.t.root,.bool k.t.ro]⟩ 29 (0,0)),(x4,.cells ⟨Rs.zero.cells⟩ 68 (0,0)),(bx,xO k bm y.2.1 dn rs),(bm,xM y.2.1)]) (λ y=>bD y.2.2) (λ y=>xW y.2.1) (λ y=>y.1) ((n,x,[])) (Nx.start g1 ok) (λ y f hx=>?_) (hw0:=λ w hw=>hw);refine K0a ?_;refine K2j ?_;refine bA (λ c37=>?_) (λ c37=>?_)
  ·obtain⟨fu,hfu,gx⟩:=gS.jY (T:=λ q=>I8 k.t fz K q) hx.go (by simpa using c37) rfl hg
   refine bB ?_;refine cE ?_;refine Kd2 ?_;refine aD (cM (hs:=xH k bx bm y.2.1 dn rs) (os:=xW y.2.1) (hc:=λ w hs=>Cz hg k.t _ ht gx hx.ok hs)) (λ x40 h40=>?_);refine Ka6 ?_;refine bI ?_;refine aB ?_;refine aD (cM (hs:=xH k bx bm x40.2.1 dn rs) (os:=xW x40.2.1) (hc:=λ w hs=>oU hg k.t x40.1 _ ht h40.bd h40.go h40.ok hs)) (λ x44 h44=>?_);refine Ka6 ?_;refine aD (cM (hs:=xH k bx bm x44.2.1 dn rs) (os:=xW x44.2.1) (hc:=λ w hs=>jy hg _ h44.go h44.ok hs)) (λ x46 h46=>?_);have hl44:=h44.len;have hl46:=h46.len;have hb40:=h40.bd;have hb44:=h44.bd;refine gX ?_;refine aV ?_;refine dZ [(0,[]),(1,[]),(2,[]),(3,[]),(4,[]),(5,[]),(6,[]),(7,[]),(8,[1]),(9,[]),(10,[])] ?_;refine Kb7 ?_;refine iJ ?_;refine iJ ?_;refine gQ ?_;refine aL ?_;refine bL (i:=8) (hq:=(cM (hs:=xH k bx bm x46.2 dn rs) (os:=xW x46.2) (A0:=[(none,aH []),(none,dK [])]) (hc:=λ w hs=>iD hg (n:={Nd.zero with kind:=2,gen:=x46.1}) (xs:=[]) (ys:=[]) x44.1 _ rfl rfl (by decide) (Nat.zero_le _) sH (by omega) h46.go h46.ok hs))) (h:=λ x55 h55=>?_);refine bL (i:=9) (hq:=(cM (hs:=xH k bx bm x55.2.1 dn rs) (os:=xW x55.2.1) (hc:=λ w hs=>Mk hg k.t x40.1 x44.1 x55.1 _ ht (by have:=h55.len;omega) (by have:=h55.len;omega) h55.bd h55.go h55.ok hs))) (h:=λ x56 h56=>?_);have hl55:=h55.len;have hl56:=h56.len;have hall:=((((hx.trans h40).trans h44).nil h46).trans h55).trans h56;refine zJ ?_;refine dJ ?_;refine bA (λ c57=>?_) (λ c57=>?_)
   ·have g3:=h56.go.to (λ _=>if_neg (by simpa using c57));refine bM rfl ?_;refine gT ((fu,x56.2.1,(((y.2.2++x40.2.2)++x44.2.2)++x55.2.2)++x56.2.2)) ?_ (hw1:=λ w hw=>(hw.fN Rb).zA1)
    ·exact hall.cU g3 (bT _)
   ·have g3:=h56.go.to (λ _=>if_pos (by simpa using c57));refine jH ?_;refine J2 ?_;refine aK ?_;refine bA (λ c58=>?_) (λ c58=>?_)
    ·have g4:=g3.to (λ _=>if_pos c58);refine jJ ?_;refine aD (cM (hs:=xH k bx bm x56.2.1 dn rs) (os:=xW x56.2.1) (hc:=λ w hs=>S9 hg x40.1 _ (by omega) g4 h56.ok hs)) (λ x61 h61=>?_);refine bQ ?_;refine B9 ?_;refine bK Tryz.results91 (λ w hw=>?_);exact⟨(Q3 x61.1 true,x61.2,(((y.2.2++x40.2.2)++x44.2.2)++x55.2.2)++x56.2.2),rfl,(hall.nil h61).cU h61.go (bT _),(hw.fN Rb).zA0⟩
    ·have g4:=g3.to (λ _=>if_neg (by rw[c58];decide));refine Cg ?_;refine aD (cM (hs:=xH k bx bm x56.2.1 dn rs) (os:=xW x56.2.1) (hc:=λ w hs=>Ot hg x44.1 _ (by omega) g4 h56.ok hs)) (λ x66 h66=>?_);refine J5 ?_;refine bK Tryz.results91 (λ w hw=>?_);exact⟨(x66.1,x66.2.1,((((y.2.2++x40.2.2)++x44.2.2)++x55.2.2)++x56.2.2)++x66.2.2),rfl,hall.trans h66,(hw.fN Hi).zA0⟩
  ·refine bM rfl ?_;refine Ke0 ?_;refine bK Tryz.results91 (λ w hw=>?_);exact⟨(Rs.zero,y.2.1,y.2.2),rfl,hx.cU (hx.go.cB (by simpa using c37)) (bT _),hw.zA0⟩
set_option maxRecDepth 100000 in
theorem Vw(hg:g.Ok)(K:Rs->Tr)(n:Nat)(ht:k.t.root<=9223372036854775807)(go:gS g x (Ap k.t K n))(ok:x.Ok)(hs:SF w D (xH k bx bm x dn rs) A [] (xW x) w):Calls Tryz.prog 92 #[.pointer (some ⟨bx,0,none⟩)] w λ e w'=>∃q:Rs×XS×List aI,e=.returned (.agg ⟨q.1.cells⟩)/\Nx g x q.2.1 q.2.2 (K q.1) 0/\SF w D (xH k bx bm q.2.1 dn rs) [] (bD q.2.2) (xW q.2.1) w':=by
 refine enter Tryz.func92 Tryz.ntmps92 rfl rfl (cL hs) ?_;simp only[cP]
 refine J0 ?_;refine aT (λ x2=>?_);refine aK ?_;refine Ii ?_;refine K0q ?_;refine aT (λ x3=>?_);refine J5 ?_;refine Ez ?_;refine kK [4,5,6,7,13,14,15,16,17,18,19,20,21,22,23,24,25,26,27,28,29,30,31,32,33,34,35,36,37,38,39,40] (λ y:Nat×XS×List aI=>[]) (λ y=>Nx g x y.2.1 y.2.2 (Ap k.t K y.1) 0) (λ y=>[(x3,.cells ⟨[.int .i64 k.t.root,.bool k.t.ro]⟩ 29 (0,0)),(x2,.cells ⟨Rs.zero.cells⟩ 68 (0,0)),(bx,xO k bm y.2.1 dn rs),(bm,xM y.2.1)]) (λ y=>bD y.2.2) (λ y=>xW y.2.1) (λ y=>y.1) ((n,x,[])) (Nx.start go ok) (λ y f hx=>?_) (hw0:=λ w hw=>hw);refine K0a ?_;refine K2j ?_;refine bA (λ c17=>?_) (λ c17=>?_)
 ·obtain⟨fu,hfu,gx⟩:=gS.jY (T:=λ q=>Ap k.t K q) hx.go (by simpa using c17) rfl hg
  refine bB ?_;refine cE ?_;refine Kd2 ?_;refine aD (cM (hs:=xH k bx bm y.2.1 dn rs) (os:=xW y.2.1) (hc:=λ w hs=>Cz hg k.t _ ht gx hx.ok hs)) (λ x20 h20=>?_);refine Ka6 ?_;refine bI ?_;refine aB ?_;refine aD (cM (hs:=xH k bx bm x20.2.1 dn rs) (os:=xW x20.2.1) (hc:=λ w hs=>oU hg k.t x20.1 _ ht h20.bd h20.go h20.ok hs)) (λ x24 h24=>?_);refine Ka6 ?_;refine bQ ?_;refine aD (cM (hs:=xH k bx bm x24.2.1 dn rs) (os:=xW x24.2.1) (A0:=[(none,aH []),(none,dK [])]) (hc:=λ w hs=>iD hg (n:={Nd.zero with kind:=3}) (xs:=[]) (ys:=[]) 0 _ rfl rfl (by decide) (Nat.zero_le _) Yc (bT _) h24.go h24.ok hs)) (λ x27 h27=>?_);refine Ka6 ?_;refine aD (cM (hs:=xH k bx bm x27.2.1 dn rs) (os:=xW x27.2.1) (hc:=λ w hs=>jy hg _ h27.go h27.ok hs)) (λ x29 h29=>?_);have hl24:=h24.len;have hl27:=h27.len;have hl29:=h29.len;have hb20:=h20.bd;have hb24:=h24.bd;have hb27:=h27.bd;refine gX ?_;refine dZ [(0,[]),(1,[]),(2,[]),(3,[]),(4,[]),(5,[]),(6,[]),(7,[]),(8,[1]),(9,[])] ?_;refine Kb7 ?_;refine iJ ?_;refine iJ ?_;refine gQ ?_;refine aL ?_;refine bL (i:=8) (hq:=(cM (hs:=xH k bx bm x29.2 dn rs) (os:=xW x29.2) (A0:=[(none,aH []),(none,dK [])]) (hc:=λ w hs=>iD hg (n:={Nd.zero with kind:=2,gen:=x29.1}) (xs:=[]) (ys:=[]) x27.1 _ rfl rfl (by decide) (Nat.zero_le _) sH (by omega) h29.go h29.ok hs))) (h:=λ x38 h38=>?_);refine bL (i:=9) (hq:=(cM (hs:=xH k bx bm x38.2.1 dn rs) (os:=xW x38.2.1) (hc:=λ w hs=>Mk hg k.t x20.1 x24.1 x38.1 _ ht (by have:=h38.len;omega) (by have:=h38.len;omega) h38.bd h38.go h38.ok hs))) (h:=λ x39 h39=>?_);have hall:=((((hx.trans h20).trans h24).trans h27).nil h29).trans h38 |>.trans h39;refine dJ ?_;refine bA (λ c39=>?_) (λ c39=>?_)
  ·have g3:=h39.go.to (λ _=>if_pos c39);refine Ke0 ?_;refine bK Tryz.results92 (λ w hw=>?_);exact⟨(jV true 0,x39.2.1,((((y.2.2++x20.2.2)++x24.2.2)++x27.2.2)++x38.2.2)++x39.2.2),rfl,hall.cU g3 (bT _),(hw.fN Hi).zA0⟩
  ·have g3:=h39.go.to (λ _=>if_neg (by rw[c39];decide));refine kN ?_;refine gT ((fu,x39.2.1,((((y.2.2++x20.2.2)++x24.2.2)++x27.2.2)++x38.2.2)++x39.2.2)) ?_ (hw1:=λ w hw=>(hw.fN Hi).zA1)
   ·exact hall.cU g3 (bT _)
 ·refine bM rfl ?_;refine Ke0 ?_;refine bK Tryz.results92 (λ w hw=>?_);exact⟨(Rs.zero,y.2.1,y.2.2),rfl,hx.cU (hx.go.cB (by simpa using c17)) (bT _),hw.zA0⟩
end
end

end Go.Proofs.YtadnboagdhcedaaGreatDoor

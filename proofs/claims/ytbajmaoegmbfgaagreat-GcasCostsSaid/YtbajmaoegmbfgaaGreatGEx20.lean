/- Executions of the reference: UP. -/
import Derived.Test.YtbajmaoegmbfgaaGreatEx19

set_option linter.unusedSimpArgs false
set_option linter.unusedVariables false
namespace Go.Ct
section
open Go Go.RowKit
theorem tH{a:Option Addr}{cs:List Value}:∀{F:Fr},(a,cs)∈F->zF F a cs
 | [],h=>(List.not_mem_nil h).elim
 | f::F,h=>by
  rcases List.mem_cons.1 h with rfl|h
  ·exact .head
  ·exact .tail (tH h)
end
end Go.Ct
namespace Go.Proofs.YtbajmaoegmbfgaaGreat
section
open Go Go.RowKit Go.Ct
theorem nq{t:fG}{path:List Int}{h:Nat}{K:Tr}{l:Nat}(hl:0<l):tc t path h K l=jR t (path.getD l 0) λ m=>.node m λ nm=>if nm.kind=5 then yX t (path.getD (l-1) 0) (path.getD l 0) h ((l-1:Nat):Int) λ _=>tc t path h K (l-1) else K:=by
 cases l with
 | zero=>omega
 | succ q=>rfl
section
variable{k:Cl}{bx bm:Nat}{x:XS}{dn:Bool}{rs:Rs}{D:List Nat}{A:Fr}{w:World}{g:Gx}
set_option maxRecDepth 100000 in
theorem zy(hg:g.Ok){path:List Int}{pp:Option Addr}{pc:Nat}{h:Nat}(hh:h<18446744073709551616)(K:Tr)(ht:k.t.root<=9223372036854775807)(hp:∀v∈path,v<=x.L.length)(hp1:1<=path.length)(hp2:path.length<=2147483648)(hA:∀f∈aM x.L,f∈A)(hpA:(pp,aG path)∈A)(go:fV g x (tc k.t path h K (path.length-1)))(ok:x.Ok)(hs:SF w D (xH k bx bm x dn rs) A [] (xW x) w):Calls Tryz.prog 227 #[.pointer (some ⟨bx,0,none⟩),.slice pp path.length pc,.int .u64 (h:Int)] w λ e w'=>∃q:XS×List aP,e=.returned (.tuple #[])/\Nx g x q.1 q.2 K 0/\SF w D (xH k bx bm q.1 dn rs) [] (aM q.2) (xW q.1) w':=by
  have hpd:∀j,path.getD j 0<=x.L.length:=λ j=>mH hp j
  refine enter Tryz.func227 Tryz.ntmps227 rfl rfl (cA hs) ?_
  simp only[cD]
  refine J2 ?_;refine dJ ?_;refine aC (jJ (m:=path.length) (n:=1) rf rf (by omega) (by omega)) rfl ?_;refine J1 ?_;refine cZ ?_
  refine oI [6,7,11,12,13,14,15,16,17,18,19,20,21,22,23,24,25,26,27,28,29,30,31,32,33,34,35,36,37,38,39,40,41,42,43,44,45,46,47,48,49,50,51,52,53,54,55,56,57,58,59,60,61,62] (λ y:Nat×XS×List aP=>[(6,.int .i64 (y.1:Int))]) (λ y=>y.1<path.length/\Nx g x y.2.1 y.2.2 (tc k.t path h K y.1) 0) (λ y=>[(bx,xO k bm y.2.1 dn rs),(bm,xM y.2.1)]) (λ y=>aM y.2.2) (λ y=>xW y.2.1) (λ y=>y.1) ((path.length-1,x,[])) (⟨by show path.length-1<path.length;omega,Nx.start go ok⟩) (λ y f hx=>?_) (hw0:=λ w hw=>hw)
  dsimp only[iA,List.map,List.cons_append,List.nil_append]
  obtain⟨hyl,hy⟩:=hx
  refine kX ?_;refine Db ?_;refine aA ?_
  (refine dX 13 (λ g13=>?_) (λ g13=>?_)<;>(first|refine aI ?_|(refine aE ?_;refine aA ?_)))
  all_goals ((first|refine aI ?_|(refine aE ?_;refine dA ?_));refine J6 ?_;refine Mv ?_;refine aH ?_)
  all_goals
   refine aZ (λ c19=>?_) (λ c19=>?_)
   · try exact nv c19
     all_goals
      have hy1:0<y.1:=by omega
      have gx:=hy.go.to (λ _=>nq hy1)
      have hpy:=hpd y.1
      have hpz:=hpd (y.1-1)
      have hlx:=hy.len
     all_goals (refine rR ?_;refine aS ?_;refine gM [0,1,2,3,4,5,6,7,8,9,10,11] ?_;refine aT ?_;refine J9 ?_;refine aU ?_;refine bU (i:=5) (hq:=(aR (k:=2) (vs:=[.int .i64 k.t.root,.bool k.t.ro]) rf cX eP rfl rfl)) (h:=?_);refine gV ?_;refine bU (i:=8) (hq:=(dE (lst:=path) (k:=y.1) rf rf gA fR (.bJ (tH hpA)) (by omega) (by omega))) (h:=?_);refine bU (i:=9) (hq:=(eV (lst:=path) (q:=y.1) rf fR (.bJ (tH hpA)) (by omega))) (h:=?_);refine bB (i:=10) (hq:=(cM (hs:=xH k bx bm y.2.1 dn rs) (os:=xW y.2.1) (hc:=λ w hs=>oL hg k.t (path.getD y.1 0) _ ht (by omega) gx hy.ok hs))) (h:=λ x32 h32=>?_);refine J7 ?_;refine aS ?_;refine mJ ?_;refine aA ?_)
     all_goals ((refine dX 37 (λ g37=>?_) (λ g37=>?_)<;>(first|refine aI ?_|(refine aE ?_;refine aA ?_))))
     all_goals ((first|refine aI ?_|(refine aE ?_;refine aA ?_));(first|refine aI ?_|(refine aE ?_;refine aD (cM (hs:=xH k bx bm x32.2.1 dn rs) (os:=xW x32.2.1) (hc:=λ w hs=>cG x32.1 _ h32.bd h32.go h32.ok hs)) (λ x40 h40=>?_)));(first|refine aI ?_|(refine aE ?_;refine bZ ?_));refine Q9 ?_;refine aH ?_)
     all_goals
      refine aZ (λ c43=>?_) (λ c43=>?_)
      · all_goals
         refine aY Tryz.results227 (λ w hw=>?_)
         exact⟨(x32.2.1,y.2.2++x32.2.2),rfl,(hy.trans h32).cE (by first|exact h32.go.bW (by assumption)|exact h40.1.to (λ _=>if_neg (by assumption))) (bI _),(hw.eU nD).aV (hF:=by exact aW.all)⟩
      · try exact nv c43
        all_goals
         have g2:=h40.1.to (λ _=>if_pos (by assumption))
         have hch:=Ch.nx h32 hy.ch
         have hl32:=h32.len
        all_goals (refine aX ?_;refine gM [0,1,2,3,4,5,6,7,8,9,10,11,12,13,14,15,16,17,18] ?_;refine aT ?_;refine J9 ?_;refine aU ?_;refine bU (i:=5) (hq:=(aR (k:=2) (vs:=[.int .i64 k.t.root,.bool k.t.ro]) rf cX eP rfl rfl)) (h:=?_);refine gV ?_;refine cI (i:=8) (hq:=(jJ (m:=y.1) (n:=1) rf rf (by omega) (by omega))) (h:=?_);refine bU (i:=9) (hq:=(dE (lst:=path) (k:=y.1-1) rf rf gA fR (.bJ (tH hpA)) (by omega) (by omega))) (h:=?_);refine bU (i:=10) (hq:=(eV (lst:=path) (q:=y.1-1) rf fR (.bJ (tH hpA)) (by omega))) (h:=?_);refine gV ?_;refine bU (i:=13) (hq:=(dE (lst:=path) (k:=y.1) rf rf gA fR (.bJ (tH hpA)) (by omega) (by omega))) (h:=?_);refine bU (i:=14) (hq:=(eV (lst:=path) (q:=y.1) rf fR (.bJ (tH hpA)) (by omega))) (h:=?_);refine gV ?_;refine cI (i:=17) (hq:=(jJ (m:=y.1) (n:=1) rf rf (by omega) (by omega))) (h:=?_);refine bB (i:=18) (hq:=(cM (hs:=xH k bx bm x32.2.1 dn rs) (os:=xW x32.2.1) (A0:=aM x32.2.1.L) (hA:=Ch.all hch hA) (hc:=λ w hs=>Mf hg k.t (path.getD (y.1-1) 0) (path.getD y.1 0) hh ((y.1-1:Nat):Int) _ ht (by omega) (by omega) (λ f hf=>hf) g2 h32.ok hs))) (h:=λ x62 h62=>?_);refine eJ ?_;refine fF ?_;refine Aa ?_;refine aC (jJ (m:=y.1) (n:=1) rf rf (by omega) (by omega)) rfl ?_;refine J1 ?_)
        all_goals
         refine jG ((y.1-1,x62.2.1,(y.2.2++x32.2.2)++x62.2.2)) ?_ (hw1:=λ w hw=>(hw.eU lS).back (hF:=by exact aW.all))
         · exact⟨by show y.1-1<path.length;omega,((hy.trans h32).trans h62).cE h62.go (bI _)⟩
   · all_goals refine bR rfl ?_
     all_goals
      refine Dt Tryz.results227 (λ w hw=>?_)
      exact⟨(y.2.1,y.2.2),rfl,hy.cE (by first|exact hy.go.bW (by assumption)|(have e0:y.1=0:=by omega);(have g0:=hy.go);rw[e0] at g0;exact g0) (bI _),hw.aV (hF:=by exact aW.all)⟩
end
end

/- Executions of the reference: DROP. -/
end Go.Proofs.YtbajmaoegmbfgaaGreat
namespace Go.Ct
section
open Go Go.RowKit
theorem w6{P:Program}{S:List (Nat×Value)}{G:World->Prop}{d:Nat}{ty t t':TypeId}{pos:String}{af:Array Edge}{gd:Option (Nat×Bool)}{x y:Operand}{l:Nat}(hx:ev S x=.int .i64 ((l:Int)-1))(hy:ev S y=.int .i64 0):aL P S G ⟨some d,.call {callee:=.builtin .max,args := #[x,y],argTypes := #[t,t']},ty,pos,af,gd⟩ (.int .i64 ((l-1:Nat):Int)):=⟨λ w _=>by
 have e:(if(0:Int)>(l:Int)-1 then 0 else(l:Int)-1)=((l-1:Nat):Int):=by split<;>omega
 simp[execOp,resolve,invoke,builtin,Builtin.max_,Builtin.max2,hx,hy,e]⟩
end
end Go.Ct
namespace Go.Proofs.YtbajmaoegmbfgaaGreat
section
open Go Go.RowKit Go.Ct
section
variable{k:Cl}{bx bm:Nat}{x:XS}{dn:Bool}{rs:Rs}{D:List Nat}{A:Fr}{w:World}{g:Gx}
set_option maxRecDepth 100000 in
set_option maxHeartbeats 2000000 in
theorem yp(hg:g.Ok){m:Nat}(K:Rs->Tr)(n:Nat)(hn:n<=1073741824)(hm:m<18446744073709551616)(em:k.mask=(m:Int))(ek:k.key.size<=64)(ht:k.t.root<=9223372036854775807)(hA:∀f∈aM x.L,f∈A)(go:fV g x (vY k (lY k.key m) K n))(ok:x.Ok)(hs:SF w D (xH k bx bm x dn rs) A [] (xW x) w):Calls Tryz.prog 185 #[.pointer (some ⟨bx,0,none⟩)] w λ e w'=>∃q:Rs×XS×List aP,e=.returned (.agg ⟨q.1.cells⟩)/\Nx g x q.2.1 q.2.2 (K q.1) 0/\SF w D (xH k bx bm q.2.1 dn rs) [] (aM q.2.2) (xW q.2.1) w':=by
 refine enter Tryz.func185 Tryz.ntmps185 rfl rfl (cA hs) ?_
 simp only[cD]
 refine J0 ?_;refine aJ (λ x2=>?_);refine Ru ?_
 refine eQ [3,4,12,13,14,15,16,17,18,19,20,21,22,23,24,25,26,27] (λ j:Nat=>[(3,.pointer (some ⟨j,0,none⟩)),(4,.int .u64 (((lY k.key m):Nat):Int))]) (λ _=>True) (λ j=>[(j,.cells ⟨[.int .i64 k.t.root,.bool k.t.ro]⟩ 29 (0,0)),(x2,.cells ⟨Rs.zero.cells⟩ 64 (0,0)),(bx,xO k bm x dn rs),(bm,xM x)]) (λ _=>[]) (λ _=>xW x) (by decide) (λ _=>by exact rfl) ?_ (λ j f hx=>?_)
 ·refine gR (.one 0 [] (.one 1 [] (.one 2 [] (.one 3 [] (.one 4 [] (.one 5 [] (.one 6 [] (.one 7 [] (.one 8 [] (.one 9 [] (.one 10 [] (.one 11 [] (.one 12 [] (.one 13 [] (.one 14 [] (.two 15 [4] (.one 16 [4,9,14] (.one 17 [] (.one 18 [] .nil))) 0 [] (.two 16 [4,9,14] (.one 15 [4] (.one 17 [] (.one 18 [] .nil))) 0 [] .nil))))))))))))))))) ?_
  refine J9 ?_;refine aU ?_;refine bU (i:=4) (hq:=(aR (k:=2) (vs:=[.int .i64 k.t.root,.bool k.t.ro]) rf cX eP rfl rfl)) (h:=?_);refine xP ?_;refine xP ?_
  refine gT (E:=[15,16]) (by decide +kernel) ((.cons ?_ (.cons ?_ .nil)))
  ·refine It (i:=15) (hq:=(cV (hc:=λ w1 hw=>nC em hm ek w1))) (hfire:=(λ _=>by(refine aK.cons (by exact fK (hq:=aR (k:=2) (vs:=[.int .i64 k.t.root,.bool k.t.ro]) rf cX eP rfl rfl)) ?_;exact aK.nil))) (h:=λ x27=>?_)
   refine gY (hfire:=(λ _=>by((repeat (first|exact aK.nil|refine aK.cons (by first|exact fK (hq:=aR (k:=2) (vs:=[.int .i64 k.t.root,.bool k.t.ro]) rf cX eP rfl rfl)|exact eT) ?_));done))) (h:=λ x3=>?_);refine A1 ?_
   refine fC (x3) ?_
   ·trivial
  ·refine gZ (i:=16) (hfire:=(λ _=>by((repeat (first|exact aK.nil|refine aK.cons (by first|exact fK (hq:=aR (k:=2) (vs:=[.int .i64 k.t.root,.bool k.t.ro]) rf cX eP rfl rfl)|exact eT) ?_));done))) (h:=λ x3=>?_)
   refine cL (i:=15) (hq:=(cV (hc:=λ w1 hw=>nC em hm ek w1))) (hfire:=(λ _=>by(refine aK.cons (by exact fK (hq:=aR (k:=2) (vs:=[.int .i64 k.t.root,.bool k.t.ro]) rf cX eP rfl rfl)) ?_;exact aK.nil))) (h:=λ x27=>?_);refine A1 ?_
   refine fC (x3) ?_
   ·trivial
 dsimp only[iA,List.map,List.cons_append,List.nil_append]
 refine Co ?_
 refine oI [5,6,7,8,9,10,11,28,29,30,31,32,33,34,35,36,37,38,39,40,41,42,43,44,45,46,47,48,49,50,51,52,53,54,55,56,57,58,59,60,61,62,63,64,65,66,67,68,69,70,71,72,73,74,75,76,77,78,79,80,81,82,83,84,85,86,87,88,89,90,91,92,93,94,95,96,97,98,99,100,101,102,103,104,105,106,107,108,109,110,111,112,113] (λ y:Nat×XS×List aP=>[]) (λ y=>y.1<=n/\Nx g x y.2.1 y.2.2 (vY k (lY k.key m) K y.1) 0) (λ y=>[(j,.cells ⟨[.int .i64 k.t.root,.bool k.t.ro]⟩ 29 (0,0)),(x2,.cells ⟨Rs.zero.cells⟩ 64 (0,0)),(bx,xO k bm y.2.1 dn rs),(bm,xM y.2.1)]) (λ y=>aM y.2.2) (λ y=>xW y.2.1) (λ y=>y.1) ((n,x,[])) (⟨Nat.le_refl n,Nx.start go ok |>.cE go (bI _)⟩) (λ y f hx=>?_) (hw0:=λ w hw=>hw)
 dsimp only[iA,List.map,List.cons_append,List.nil_append]
 obtain⟨hyn,hy⟩:=hx
 refine aS ?_;refine mJ ?_;refine oU ?_
 refine aZ (λ c32=>?_) (λ c32=>?_)
 ·obtain⟨fu,hfu,gx⟩:=fV.jY (T:=λ q=>vY k (lY k.key m) K q) hy.go (by simpa using c32) rfl hg
  refine aX ?_;refine cZ ?_;refine J2 ?_;refine bP ?_;refine aD (cM (hs:=xH k bx bm y.2.1 dn rs) (os:=xW y.2.1) (hc:=λ w hs=>Bv hg k.t _ ht gx hy.ok hs)) (λ x35 h35=>?_);refine zI ?_;refine aD (cM (hs:=xH k bx bm x35.2.1 dn rs) (os:=xW x35.2.1) (hc:=λ w hs=>cG x35.1 _ h35.bd h35.go h35.ok hs)) (λ x38 h38=>?_);refine bZ ?_;refine J1 ?_;refine J2 ?_;refine aN (Q2 (c:=1) (sz:=1) rfl (λ _=>cN (cs:=aG [x35.1]) pR Je rfl rfl rfl rfl rfl)) (λ x41=>?_);refine J1 ?_;refine Dn ?_
  refine oI [5,7,8,9,10,11,42,43,44,45,46,47,48,49,50,51,52,53,54,55,56,57,58,59,60,61,62,63,64,65,66,67,68,69,70,71,72,73,74,75,76,77,78,79,80,81,82,83,84,85,86,87,88,89,90,91,92,93,94,95,96,97,98,99,100,101,102,103,104,105,106,107,108,109,110,111,112,113] (λ z:Nat×Int×List Int×XS×List aP×Option Addr×Nat=>[(5,.int .i64 z.2.1),(7,.slice z.2.2.2.2.2.1 z.2.2.1.length z.2.2.2.2.2.2),(8,.int .i64 (((fu-z.1):Nat):Int))]) (λ z=>z.1<=fu/\Nx g x z.2.2.2.1 z.2.2.2.2.1 (vX k (lY k.key m) K (vY k (lY k.key m) K fu) (aB x35.2.1.L x35.1).nd.gen z.1 z.2.1 z.2.2.1 (fu-z.1)) z.2.1/\(∀v∈z.2.2.1,v<=z.2.2.2.1.L.length)/\z.2.2.1.length=(fu-z.1)+1) (λ z=>[(j,.cells ⟨[.int .i64 k.t.root,.bool k.t.ro]⟩ 29 (0,0)),(x2,.cells ⟨Rs.zero.cells⟩ 64 (0,0)),(bx,xO k bm z.2.2.2.1 dn rs),(bm,xM z.2.2.2.1)]) (λ z=>aM z.2.2.2.2.1) (λ z=>List.cons ⟨z.2.2.2.2.2.1,aG z.2.2.1,z.2.2.2.2.2.2,37,1⟩ (xW z.2.2.2.1)) (λ z=>z.1) ((fu,x35.1,[x35.1],x35.2.1,y.2.2++x35.2.2,some ⟨x41,0,none⟩,1)) (⟨Nat.le_refl fu,(hy.trans h35).cE (show fV g x35.2.1 (vX k (lY k.key m) K (vY k (lY k.key m) K fu) (aB x35.2.1.L x35.1).nd.gen fu x35.1 [x35.1] (fu-fu)) from(Nat.sub_self fu).symm▸h38.1) h35.bd,λ v hv=>by rw[List.mem_singleton.1 hv];exact h35.bd,by show 1=fu-fu+1;omega⟩) (λ z f hx=>?_) (hw0:=λ w hw=>(hw.eU nD).back (hF:=by exact aW.all))
  dsimp only[iA,List.map,List.cons_append,List.nil_append]
  obtain⟨hzf,hz,hzp,hzl⟩:=hx
  refine aS ?_;refine mJ ?_;refine oU ?_
  refine aZ (λ c46=>?_) (λ c46=>?_)
  ·obtain⟨fu2,hfu2,gz⟩:=fV.jY (T:=λ q=>(vX k (lY k.key m) K (vY k (lY k.key m) K fu) (aB x35.2.1.L x35.1).nd.gen q z.2.1 z.2.2.1 (fu-z.1))) hz.go (by simpa using c46) rfl hg
   have hpd:∀j,z.2.2.1.getD j 0<=z.2.2.2.1.L.length:=λ j=>mH hzp j
   have hpl:=hpd ((fu-z.1)-1)
   refine rR ?_;refine J2 ?_;refine bP ?_;refine aA ?_;refine aD (cM (hs:=xH k bx bm z.2.2.2.1 dn rs) (os:=xW z.2.2.2.1) (hc:=λ w hs=>oL hg k.t z.2.1 _ ht hz.bd gz hz.ok hs)) (λ x52 h52=>?_)
   have hl52:=h52.len
   have hb52:=h52.bd
   have hbz:=hz.bd
   have hch:=Ch.nx h52 hz.ch
   refine iO ?_;refine mJ ?_;refine aH ?_
   refine aZ (λ c56=>?_) (λ c56=>?_)
   ·refine Yc ?_
    refine jG (by exact(fu,x52.2.1,(z.2.2.2.2.1++x52.2.2))) ?_ (hw1:=λ w hw=>by exact(hw.eU nD).back (hF:=by exact aW.all))
    ·first
     | exact⟨by show fu<=n;omega,(((hz.trans h52).trans h81).trans h107).cE g4 (bI _)⟩
     | exact⟨by show fu<=n;omega,((hz.trans h52).trans h81).cE g3 (bI _)⟩
     | exact⟨by show fu<=n;omega,((hz.trans h52).trans h81).cE (h81.go.bW (by assumption)) (bI _)⟩
     | exact⟨by show fu<=n;omega,((hz.trans h52).trans h74).cE h74.go (bI _)⟩
     | exact⟨by show fu<=n;omega,(hz.trans h52).cE (h52.go.bW (by assumption)) (bI _)⟩
     | exact⟨by show fu<=n;omega,hz.cE (hz.go.bW (by simpa using c46)) (bI _)⟩
   ·refine kK ?_;refine jA ?_;refine aD (cM (hs:=xH k bx bm x52.2.1 dn rs) (os:=xW x52.2.1) (hc:=λ w hs=>cG x52.1 _ h52.bd h52.go h52.ok hs)) (λ x59 h59=>?_);refine bZ ?_;refine sH ?_
    refine aZ (λ c61=>?_) (λ c61=>?_)
    ·have g1:=h59.1.to (λ _=>if_pos c61)
     refine aS ?_;refine dZ [(0,[]),(1,[]),(2,[]),(3,[]),(4,[]),(8,[]),(9,[]),(10,[]),(11,[]),(5,[1]),(6,[]),(7,[]),(12,[])] ?_;refine aT ?_;refine bN ?_;refine gV ?_;refine Oa ?_;refine gV ?_;refine aT ?_;refine Oa ?_;((refine cL (i:=5) (hq:=(gD (w6 (l:=(fu-z.1)) rf rf))) (h:=λ x67=>?_)));refine bU (i:=6) (hq:=(dE (lst:=z.2.2.1) (k:=(fu-z.1)-1) rf rf gA fR (.own .head) (by omega) (by omega))) (h:=?_);refine bU (i:=7) (hq:=(eV (lst:=z.2.2.1) (q:=(fu-z.1)-1) rf fR (.own .head) (by omega))) (h:=?_);refine bB (i:=12) (hq:=(cM (hs:=xH k bx bm x52.2.1 dn rs) (os:=xW x52.2.1) (A0:=aM x52.2.1.L) (hA:=Ch.all hch hA) (hc:=λ w hs=>Mf hg k.t (z.2.2.1.getD ((fu-z.1)-1) 0) z.2.1 (tC k.key m) ((((fu-z.1):Nat):Int)-1) _ ht (by omega) (by omega) (λ f hf=>hf) g1 h52.ok hs))) (h:=λ x74 h74=>?_);refine eJ ?_;refine Yc ?_
     refine jG (by exact(fu,x74.2.1,((z.2.2.2.2.1++x52.2.2)++x74.2.2))) ?_ (hw1:=λ w hw=>by exact(hw.eU lS).back (hF:=by exact aW.all))
     ·first
      | exact⟨by show fu<=n;omega,(((hz.trans h52).trans h81).trans h107).cE g4 (bI _)⟩
      | exact⟨by show fu<=n;omega,((hz.trans h52).trans h81).cE g3 (bI _)⟩
      | exact⟨by show fu<=n;omega,((hz.trans h52).trans h81).cE (h81.go.bW (by assumption)) (bI _)⟩
      | exact⟨by show fu<=n;omega,((hz.trans h52).trans h74).cE h74.go (bI _)⟩
      | exact⟨by show fu<=n;omega,(hz.trans h52).cE (h52.go.bW (by assumption)) (bI _)⟩
      | exact⟨by show fu<=n;omega,hz.cE (hz.go.bW (by simpa using c46)) (bI _)⟩
    ·have g1:=h59.1.to (λ _=>if_neg c61)
     refine C6 ?_;refine pD ?_;refine aA ?_;refine aD (cM (hs:=xH k bx bm x52.2.1 dn rs) (os:=xW x52.2.1) (A0:=aM x52.2.1.L) (hA:=Ch.all hch hA) (hc:=λ w hs=>Rl hg z.2.1 x52.1 (tC k.key m) (fu-z.1) (by omega) _ ht (by omega) (by omega) (λ f hf=>hf) g1 h52.ok hs)) (λ x81 h81=>?_)
     have hl81:=h81.len
     have hch2:=Ch.nx h81 hch
     refine aA ?_;refine aC (bQ rf rfl) rfl ?_;refine aC (bQ rf rfl) rfl ?_;refine aJ (λ x10=>?_);refine iV (λ _=>?_);refine iO ?_;refine mJ ?_;refine aH ?_
     refine aZ (λ c87=>?_) (λ c87=>?_)
     ·refine Yc ?_
      refine jG (by exact(fu,x81.2.2.1,((z.2.2.2.2.1++x52.2.2)++x81.2.2.2))) ?_ (hw1:=λ w hw=>by exact(hw.eU lS).back (hF:=by exact aW.all))
      ·first
       | exact⟨by show fu<=n;omega,(((hz.trans h52).trans h81).trans h107).cE g4 (bI _)⟩
       | exact⟨by show fu<=n;omega,((hz.trans h52).trans h81).cE g3 (bI _)⟩
       | exact⟨by show fu<=n;omega,((hz.trans h52).trans h81).cE (h81.go.bW (by assumption)) (bI _)⟩
       | exact⟨by show fu<=n;omega,((hz.trans h52).trans h74).cE h74.go (bI _)⟩
       | exact⟨by show fu<=n;omega,(hz.trans h52).cE (h52.go.bW (by assumption)) (bI _)⟩
       | exact⟨by show fu<=n;omega,hz.cE (hz.go.bW (by simpa using c46)) (bI _)⟩
     ·refine kK ?_;refine J2 ?_;refine sH ?_
      refine aZ (λ c89=>?_) (λ c89=>?_)
      ·have g2:=h81.go.to (λ _=>if_pos (by assumption))
       refine Cx ?_;refine sH ?_
       refine aZ (λ c92=>?_) (λ c92=>?_)
       ·have g3:=g2.to (λ _=>if_pos (by assumption))
        refine Aa ?_;refine pD ?_;refine aD (cM (hs:=xH k bx bm x81.2.2.1 dn rs) (os:=xW x81.2.2.1) (A0:=(List.cons (z.2.2.2.2.2.1,aG z.2.2.1) (aM x81.2.2.1.L))) (hA:=bE.cons (.inr (.inr (.inr ⟨_,.head _,rfl,rfl⟩))) (Ch.all hch2 hA)) (hc:=λ w hs=>zy hg (path:=z.2.2.1) (tC k.key m) _ ht (λ v hv=>by have:=hzp v hv;omega) (by omega) (by omega) (λ f hf=>List.mem_cons_of_mem _ hf) (List.mem_cons_self ..) g3 h81.ok hs)) (λ x96 h96=>?_);refine aH ?_;refine oC ?_;refine J5 ?_
        refine aY Tryz.results185 (λ w hw=>?_)
        first
        | exact⟨(x81.1,x96.1,(((z.2.2.2.2.1++x52.2.2)++x81.2.2.2)++x96.2)),rfl,(((hz.trans h52).trans h81).trans h96).cE h96.go (bI _),(hw.eU wN).aV (hF:=by exact aW.all)⟩
        | exact⟨(x81.1,x81.2.2.1,((z.2.2.2.2.1++x52.2.2)++x81.2.2.2)),rfl,((hz.trans h52).trans h81).cE g3 (bI _),(hw.eU lS).aV (hF:=by exact aW.all)⟩
       ·have g3:=g2.to (λ _=>if_neg (by assumption))
        refine aX ?_;refine oC ?_;refine J5 ?_
        refine aY Tryz.results185 (λ w hw=>?_)
        first
        | exact⟨(x81.1,x81.2.2.1,((z.2.2.2.2.1++x52.2.2)++x81.2.2.2)),rfl,((hz.trans h52).trans h81).cE g3 (bI _),(hw.eU lS).aV (hF:=by exact aW.all)⟩
        | exact⟨(Rs.zero,y.2.1,y.2.2),rfl,hy.cE (hy.go.bW (by simpa using c32)) (bI _),hw.aV (hF:=by exact aW.all)⟩
      ·have g2:=h81.go.to (λ _=>if_neg (by assumption))
       refine kK ?_;refine J2 ?_;refine sH ?_
       refine aZ (λ c99=>?_) (λ c99=>?_)
       ·have g3:=g2.to (λ _=>if_pos (by assumption))
        refine Yc ?_
        refine jG (by exact(fu,x81.2.2.1,((z.2.2.2.2.1++x52.2.2)++x81.2.2.2))) ?_ (hw1:=λ w hw=>by exact(hw.eU lS).back (hF:=by exact aW.all))
        ·first
         | exact⟨by show fu<=n;omega,(((hz.trans h52).trans h81).trans h107).cE g4 (bI _)⟩
         | exact⟨by show fu<=n;omega,((hz.trans h52).trans h81).cE g3 (bI _)⟩
         | exact⟨by show fu<=n;omega,((hz.trans h52).trans h81).cE (h81.go.bW (by assumption)) (bI _)⟩
         | exact⟨by show fu<=n;omega,((hz.trans h52).trans h74).cE h74.go (bI _)⟩
         | exact⟨by show fu<=n;omega,(hz.trans h52).cE (h52.go.bW (by assumption)) (bI _)⟩
         | exact⟨by show fu<=n;omega,hz.cE (hz.go.bW (by simpa using c46)) (bI _)⟩
       ·have g3:=g2.to (λ _=>if_neg (by assumption))
        refine kK ?_;refine jA ?_;refine pD ?_;refine aA ?_;refine aN (cV (hc:=λ w1 hw=>fA (tC k.key m) (((fu-z.1):Nat):Int) w1)) (λ x105=>?_);refine aA ?_;refine aD (cM (hs:=xH k bx bm x81.2.2.1 dn rs) (os:=xW x81.2.2.1) (A0:=aM x81.2.2.1.L) (hA:=Ch.all hch2 hA) (hc:=λ w hs=>Ua hg z.2.1 x52.1 (gS (lY k.key m) (((fu-z.1):Nat):Int)) (aB x35.2.1.L x35.1).nd.gen _ ht (by omega) (by omega) (λ f hf=>hf) g3 h81.ok hs)) (λ x107 h107=>?_);refine J1 ?_;refine J2 ?_;refine sH ?_
        refine aZ (λ c109=>?_) (λ c109=>?_)
        ·have g4:=h107.go.to (λ _=>if_pos (by assumption))
         refine Yc ?_
         refine jG (by exact(fu,x107.2.1,(((z.2.2.2.2.1++x52.2.2)++x81.2.2.2)++x107.2.2))) ?_ (hw1:=λ w hw=>by exact(hw.eU wN).back (hF:=by exact aW.all))
         ·first
          | exact⟨by show fu<=n;omega,(((hz.trans h52).trans h81).trans h107).cE g4 (bI _)⟩
          | exact⟨by show fu<=n;omega,((hz.trans h52).trans h81).cE g3 (bI _)⟩
          | exact⟨by show fu<=n;omega,((hz.trans h52).trans h81).cE (h81.go.bW (by assumption)) (bI _)⟩
          | exact⟨by show fu<=n;omega,((hz.trans h52).trans h74).cE h74.go (bI _)⟩
          | exact⟨by show fu<=n;omega,(hz.trans h52).cE (h52.go.bW (by assumption)) (bI _)⟩
          | exact⟨by show fu<=n;omega,hz.cE (hz.go.bW (by simpa using c46)) (bI _)⟩
        ·have g4:=h107.go.to (λ _=>if_neg (by assumption))
         refine aX ?_;refine Ih ?_;refine aN (Q2 (c:=1) (sz:=1) rfl (λ _=>cN (cs:=aG [x107.1]) pR Je rfl rfl rfl rfl rfl)) (λ x112=>?_);(refine eX (λ x113=>?_);try (refine eR (λ h113=>?_)));refine J1 ?_;refine fF ?_;refine uT ?_
         refine jG ((z.1-1,x107.1,z.2.2.1++[x107.1],x107.2.1,(((z.2.2.2.2.1++x52.2.2)++x81.2.2.2)++x107.2.2),x113.1,x113.2)) ?_ (hw1:=λ w hw=>(hw.eU wN).back (hF:=by exact aW.all))
         ·have e1:z.1-1=fu2:=by omega
          have e2:(fu-z.1)+1=fu-fu2:=by omega
          refine⟨by show z.1-1<=fu;omega,((((hz.trans h52).trans h81).trans h107)).cE ?_ h107.bd,λ v hv=>?_,by show(z.2.2.1++[x107.1]).length=fu-(z.1-1)+1;rw[List.length_append,List.length_singleton];omega⟩
          ·show fV g x107.2.1 (vX k (lY k.key m) K (vY k (lY k.key m) K fu) (aB x35.2.1.L x35.1).nd.gen (z.1-1) x107.1 (z.2.2.1++[x107.1]) (fu-(z.1-1)))
           rw[e1,<- e2]
           exact g4
          ·show v<=(x107.2.1.L.length:Int)
           have hl107:=h107.len
           rcases List.mem_append.1 hv with hv|hv
           ·have:=hzp v hv;omega
           ·rw[List.mem_singleton.1 hv];exact h107.bd
  ·refine Yc ?_
   refine jG (by exact(fu,z.2.2.2.1,z.2.2.2.2.1)) ?_ (hw1:=λ w hw=>by exact hw.back (hF:=by exact aW.all))
   ·first
    | exact⟨by show fu<=n;omega,(((hz.trans h52).trans h81).trans h107).cE g4 (bI _)⟩
    | exact⟨by show fu<=n;omega,((hz.trans h52).trans h81).cE g3 (bI _)⟩
    | exact⟨by show fu<=n;omega,((hz.trans h52).trans h81).cE (h81.go.bW (by assumption)) (bI _)⟩
    | exact⟨by show fu<=n;omega,((hz.trans h52).trans h74).cE h74.go (bI _)⟩
    | exact⟨by show fu<=n;omega,(hz.trans h52).cE (h52.go.bW (by assumption)) (bI _)⟩
    | exact⟨by show fu<=n;omega,hz.cE (hz.go.bW (by simpa using c46)) (bI _)⟩
 ·refine bR rfl ?_;refine J0 ?_;refine vL ?_
  refine aY Tryz.results185 (λ w hw=>?_)
  exact⟨(Rs.zero,y.2.1,y.2.2),rfl,hy.cE (hy.go.bW (by simpa using c32)) (bI _),hw.aV (hF:=by exact aW.all)⟩
end
end

/- Executions of the reference: COPY, SNAPSHOT, CLEAR. -/
end Go.Proofs.YtbajmaoegmbfgaaGreat
namespace Go.Ct
section
open Go Go.RowKit
theorem V4{n c:Nat}:lQ n c {(({Nd.zero with kind:=3}:Nd).c [] []) with main:=0,prev:=0,status:=0}:=⟨bI _,bI _,bI _,(λ r hr=>nomatch hr),bI _,bI _,bI _,⟨0,rfl,by decide⟩,⟨0,rfl,by decide⟩⟩
theorem Qn{a b c d e:List aP}:∀f∈aM ((((a++b)++c)++d)++e),f.2=[]∨f∈aM e++(aM d++(aM c++(aM b++aM a))):=λ f hf=>by
 simp only[eE,List.mem_append] at hf ⊢
 rcases hf with(((h|h)|h)|h)|h
 ·exact .inr (.inr (.inr (.inr (.inr h))))
 ·exact .inr (.inr (.inr (.inr (.inl h))))
 ·exact .inr (.inr (.inr (.inl h)))
 ·exact .inr (.inr (.inl h))
 ·exact .inr (.inl h)
theorem Fv{a b c d e i:List aP}:∀f∈aM (((((a++b)++c)++d)++e)++i),f.2=[]∨f∈aM i++(aM e++(aM d++(aM c++(aM b++aM a)))):=λ f hf=>by
 simp only[eE,List.mem_append] at hf ⊢
 rcases hf with((((h|h)|h)|h)|h)|h
 ·exact .inr (.inr (.inr (.inr (.inr (.inr h)))))
 ·exact .inr (.inr (.inr (.inr (.inr (.inl h)))))
 ·exact .inr (.inr (.inr (.inr (.inl h))))
 ·exact .inr (.inr (.inr (.inl h)))
 ·exact .inr (.inr (.inl h))
 ·exact .inr (.inl h)
theorem Nx.nil{g:Gx}{x x1 x2:XS}{N:List aP}{t1 t2:Tr}{b1 b2:Int}(h1:Nx g x x1 N t1 b1)(h2:Nx g x1 x2 [] t2 b2):Nx g x x2 N t2 b2:=⟨h2.go,h2.ok,by rw[h2.ext,h1.ext,List.append_nil],Nat.le_trans h1.lc h2.lc,h2.bd⟩
end
end Go.Ct
namespace Go.Proofs.YtbajmaoegmbfgaaGreat
section
open Go Go.RowKit Go.Ct
section
variable{k:Cl}{bx bm:Nat}{x:XS}{dn:Bool}{rs:Rs}{D:List Nat}{A:Fr}{w:World}{g:Gx}
theorem N9(hg:g.Ok)(m:Int)(K:Rs->Tr)(hm:m<=x.L.length)(go:fV g x (Oi m K))(ok:x.Ok)(hs:SF w D (xH k bx bm x dn rs) A [] (xW x) w):Calls Tryz.prog 229 #[.pointer (some ⟨bx,0,none⟩),.int .i64 m] w λ e w'=>∃q:Rs×XS×List aP,e=.returned (.agg ⟨q.1.cells⟩)/\Nx g x q.2.1 q.2.2 (K q.1) 0/\SF w D (xH k bx bm q.2.1 dn rs) [] (aM q.2.2) (xW q.2.1) w':=by
 refine enter Tryz.func229 Tryz.ntmps229 rfl rfl (cA hs) ?_
 simp only[cD]
 refine J0 ?_;refine aJ (λ x4=>?_);refine aH ?_;refine J2 ?_;refine aD (cM (hs:=xH k bx bm x dn rs) (os:=xW x) (hc:=λ w hs=>Z2 hg _ go ok hs)) (λ x7 h7=>?_);refine zI ?_;refine aA ?_;refine bM ?_;refine aA ?_;refine aD (cM (hs:=xH k bx bm x7.2 dn rs) (os:=xW x7.2) (A0:=[(none,aG []),(none,cR [])]) (hc:=λ w hs=>gQ hg (n:={Nd.zero with kind:=2,gen:=x7.1}) (xs:=[]) (ys:=[]) m _ rfl rfl (by decide) (Nat.zero_le _) rD (by have:=h7.len;omega) h7.go h7.ok hs)) (λ x13 h13=>?_);refine aD (cM (hs:=xH k bx bm x13.2.1 dn rs) (os:=xW x13.2.1) (hc:=λ w hs=>Sc hg x13.1 _ h13.bd h13.go h13.ok hs)) (λ x14 h14=>?_);refine bM ?_;refine vL ?_
 refine aY Tryz.results229 (λ w hw=>?_)
 exact⟨(Ol x14.1 false,x14.2,x13.2.2),rfl,⟨h14.go,h14.ok,by rw[h14.ext,h13.ext,h7.ext,List.append_nil,List.append_nil],Nat.le_trans h7.lc (Nat.le_trans h13.lc h14.lc),bI _⟩,by rw[List.append_nil] at hw;exact hw.aV (hF:=by exact aW.all)⟩
set_option maxRecDepth 100000 in
theorem E4(hg:g.Ok)(fz:Bool)(K:Rs->Tr)(n:Nat)(ht:k.t.root<=9223372036854775807)(go:fV g x (sO k.t fz K n))(ok:x.Ok)(hs:SF w D (xH k bx bm x dn rs) A [] (xW x) w):Calls Tryz.prog 186 #[.pointer (some ⟨bx,0,none⟩),.bool fz] w λ e w'=>∃q:Rs×XS×List aP,e=.returned (.agg ⟨q.1.cells⟩)/\Nx g x q.2.1 q.2.2 (K q.1) 0/\SF w D (xH k bx bm q.2.1 dn rs) [] (aM q.2.2) (xW q.2.1) w':=by
 refine enter Tryz.func186 Tryz.ntmps186 rfl rfl (cA hs) ?_
 simp only[cD]
 refine J0 ?_;refine aJ (λ x4=>?_);refine aH ?_;refine H7 ?_;refine aF ?_;refine aC (aR (k:=2) (vs:=[.int .i64 k.t.root,.bool k.t.ro]) rf cX eP rfl rfl) rfl ?_;refine aJ (λ x5=>?_);refine J5 ?_;refine Cx ?_;refine aH ?_
 refine aZ (λ c16=>?_) (λ c16=>?_)
 ·have g1:=go.to (λ _=>if_pos c16)
  refine J2 ?_;refine J3 ?_;refine aD (cM (hs:=xH k bx bm x dn rs) (os:=xW x) (hc:=λ w hs=>pQ hg k.t.root _ ht g1 ok hs)) (λ x20 h20=>?_);refine iO ?_;refine J2 ?_;refine aH ?_
  refine aZ (λ c21=>?_) (λ c21=>?_)
  ·have g2:=h20.go.to (λ _=>if_pos c21)
   refine jA ?_;refine aD (cM (hs:=xH k bx bm x20.2 dn rs) (os:=xW x20.2) (hc:=λ w hs=>Sc hg x20.1 _ h20.bd g2 h20.ok hs)) (λ x24 h24=>?_);refine bM ?_;refine vL ?_
   refine aY Tryz.results186 (λ w hw=>?_)
   exact⟨(Ol x24.1 true,x24.2,[]),rfl,(h20.nil h24).cE h24.go (bI _),hw.aV (hF:=by exact aW.nil)⟩
  ·have g2:=h20.go.to (λ _=>if_neg (by rw[c21];decide))
   refine C6 ?_;refine bP ?_;refine aA ?_;refine aD (cM (hs:=xH k bx bm x20.2 dn rs) (os:=xW x20.2) (hc:=λ w hs=>oL hg k.t x20.1 _ ht h20.bd g2 h20.ok hs)) (λ x31 h31=>?_);refine aD (cM (hs:=xH k bx bm x31.2.1 dn rs) (os:=xW x31.2.1) (hc:=λ w hs=>N9 hg x31.1 _ h31.bd h31.go h31.ok hs)) (λ x32 h32=>?_);refine J5 ?_
   refine aY Tryz.results186 (λ w hw=>?_)
   exact⟨(x32.1,x32.2.1,x31.2.2++x32.2.2),rfl,(h20.trans h31).trans h32,by rw[List.append_nil] at hw;exact(hw.eU nD).aV (hF:=by exact aW.all)⟩
 ·have g1:=go.to (λ _=>if_neg (by rw[c16];decide))
  refine rR ?_
  refine oI [7,8,9,33,34,35,36,37,38,39,40,41,42,43,44,45,46,47,48,49,50,51,52,53,54,55,56,57,58,59,60,61,62,63,64,65,66] (λ y:Nat×XS×List aP=>[]) (λ y=>Nx g x y.2.1 y.2.2 (Jo k.t fz K y.1) 0) (λ y=>[(x5,.cells ⟨[.int .i64 k.t.root,.bool k.t.ro]⟩ 29 (0,0)),(x4,.cells ⟨Rs.zero.cells⟩ 64 (0,0)),(bx,xO k bm y.2.1 dn rs),(bm,xM y.2.1)]) (λ y=>aM y.2.2) (λ y=>xW y.2.1) (λ y=>y.1) ((n,x,[])) (Nx.start g1 ok) (λ y f hx=>?_) (hw0:=λ w hw=>hw)
  dsimp only[iA,List.map,List.cons_append,List.nil_append]
  refine aS ?_;refine mJ ?_;refine oU ?_
  refine aZ (λ c37=>?_) (λ c37=>?_)
  ·obtain⟨fu,hfu,gx⟩:=fV.jY (T:=λ q=>Jo k.t fz K q) hx.go (by simpa using c37) rfl hg
   refine aX ?_;refine cZ ?_;refine J2 ?_;refine bP ?_;refine aD (cM (hs:=xH k bx bm y.2.1 dn rs) (os:=xW y.2.1) (hc:=λ w hs=>Bv hg k.t _ ht gx hx.ok hs)) (λ x40 h40=>?_);refine J1 ?_;refine J2 ?_;refine bP ?_;refine aA ?_;refine aD (cM (hs:=xH k bx bm x40.2.1 dn rs) (os:=xW x40.2.1) (hc:=λ w hs=>oL hg k.t x40.1 _ ht h40.bd h40.go h40.ok hs)) (λ x44 h44=>?_);refine J1 ?_;refine J2 ?_;refine aD (cM (hs:=xH k bx bm x44.2.1 dn rs) (os:=xW x44.2.1) (hc:=λ w hs=>Z2 hg _ h44.go h44.ok hs)) (λ x46 h46=>?_)
   have hl44:=h44.len
   have hl46:=h46.len
   have hb40:=h40.bd
   have hb44:=h44.bd
   refine iO ?_;refine aS ?_;refine dZ [(0,[]),(1,[]),(2,[]),(3,[]),(4,[]),(5,[]),(6,[]),(7,[]),(8,[1]),(9,[]),(10,[])] ?_;refine aT ?_;refine bN ?_;refine gV ?_;refine gV ?_;refine iT ?_;refine aT ?_;refine bB (i:=8) (hq:=(cM (hs:=xH k bx bm x46.2 dn rs) (os:=xW x46.2) (A0:=[(none,aG []),(none,cR [])]) (hc:=λ w hs=>gQ hg (n:={Nd.zero with kind:=2,gen:=x46.1}) (xs:=[]) (ys:=[]) x44.1 _ rfl rfl (by decide) (Nat.zero_le _) rD (by omega) h46.go h46.ok hs))) (h:=λ x55 h55=>?_);refine bB (i:=9) (hq:=(cM (hs:=xH k bx bm x55.2.1 dn rs) (os:=xW x55.2.1) (hc:=λ w hs=>K9 hg k.t x40.1 x44.1 x55.1 _ ht (by have:=h55.len;omega) (by have:=h55.len;omega) h55.bd h55.go h55.ok hs))) (h:=λ x56 h56=>?_)
   have hl55:=h55.len
   have hl56:=h56.len
   have hall:=((((hx.trans h40).trans h44).nil h46).trans h55).trans h56
   refine Ym ?_;refine eJ ?_
   refine aZ (λ c57=>?_) (λ c57=>?_)
   ·have g3:=h56.go.to (λ _=>if_neg (by simpa using c57))
    refine bR rfl ?_
    refine jG ((fu,x56.2.1,(((y.2.2++x40.2.2)++x44.2.2)++x55.2.2)++x56.2.2)) ?_ (hw1:=λ w hw=>(hw.eU Qn).back (hF:=by exact aW.all))
    ·exact hall.cE g3 (bI _)
   ·have g3:=h56.go.to (λ _=>if_pos (by simpa using c57))
    refine kK ?_;refine J2 ?_;refine aH ?_
    refine aZ (λ c58=>?_) (λ c58=>?_)
    ·have g4:=g3.to (λ _=>if_pos c58)
     refine jA ?_;refine aD (cM (hs:=xH k bx bm x56.2.1 dn rs) (os:=xW x56.2.1) (hc:=λ w hs=>Sc hg x40.1 _ (by omega) g4 h56.ok hs)) (λ x61 h61=>?_);refine bM ?_;refine vL ?_
     refine aY Tryz.results186 (λ w hw=>?_)
     exact⟨(Ol x61.1 true,x61.2,(((y.2.2++x40.2.2)++x44.2.2)++x55.2.2)++x56.2.2),rfl,(hall.nil h61).cE h61.go (bI _),(hw.eU Qn).aV (hF:=by exact aW.all)⟩
    ·have g4:=g3.to (λ _=>if_neg (by rw[c58];decide))
     refine C6 ?_;refine aD (cM (hs:=xH k bx bm x56.2.1 dn rs) (os:=xW x56.2.1) (hc:=λ w hs=>N9 hg x44.1 _ (by omega) g4 h56.ok hs)) (λ x66 h66=>?_);refine J5 ?_
     refine aY Tryz.results186 (λ w hw=>?_)
     exact⟨(x66.1,x66.2.1,((((y.2.2++x40.2.2)++x44.2.2)++x55.2.2)++x56.2.2)++x66.2.2),rfl,hall.trans h66,(hw.eU Fv).aV (hF:=by exact aW.all)⟩
  ·refine bR rfl ?_;refine J0 ?_;refine vL ?_
   refine aY Tryz.results186 (λ w hw=>?_)
   exact⟨(Rs.zero,y.2.1,y.2.2),rfl,hx.cE (hx.go.bW (by simpa using c37)) (bI _),hw.aV (hF:=by exact aW.all)⟩
set_option maxRecDepth 100000 in
theorem Tm(hg:g.Ok)(K:Rs->Tr)(n:Nat)(ht:k.t.root<=9223372036854775807)(go:fV g x (yV k.t K n))(ok:x.Ok)(hs:SF w D (xH k bx bm x dn rs) A [] (xW x) w):Calls Tryz.prog 187 #[.pointer (some ⟨bx,0,none⟩)] w λ e w'=>∃q:Rs×XS×List aP,e=.returned (.agg ⟨q.1.cells⟩)/\Nx g x q.2.1 q.2.2 (K q.1) 0/\SF w D (xH k bx bm q.2.1 dn rs) [] (aM q.2.2) (xW q.2.1) w':=by
 refine enter Tryz.func187 Tryz.ntmps187 rfl rfl (cA hs) ?_
 simp only[cD]
 refine J0 ?_;refine aJ (λ x2=>?_);refine aH ?_;refine H7 ?_;refine aF ?_;refine aC (aR (k:=2) (vs:=[.int .i64 k.t.root,.bool k.t.ro]) rf cX eP rfl rfl) rfl ?_;refine aJ (λ x3=>?_);refine J5 ?_;refine Co ?_
 refine oI [4,5,6,7,13,14,15,16,17,18,19,20,21,22,23,24,25,26,27,28,29,30,31,32,33,34,35,36,37,38,39,40] (λ y:Nat×XS×List aP=>[]) (λ y=>Nx g x y.2.1 y.2.2 (yV k.t K y.1) 0) (λ y=>[(x3,.cells ⟨[.int .i64 k.t.root,.bool k.t.ro]⟩ 29 (0,0)),(x2,.cells ⟨Rs.zero.cells⟩ 64 (0,0)),(bx,xO k bm y.2.1 dn rs),(bm,xM y.2.1)]) (λ y=>aM y.2.2) (λ y=>xW y.2.1) (λ y=>y.1) ((n,x,[])) (Nx.start go ok) (λ y f hx=>?_) (hw0:=λ w hw=>hw)
 dsimp only[iA,List.map,List.cons_append,List.nil_append]
 refine aS ?_;refine mJ ?_;refine oU ?_
 refine aZ (λ c17=>?_) (λ c17=>?_)
 ·obtain⟨fu,hfu,gx⟩:=fV.jY (T:=λ q=>yV k.t K q) hx.go (by simpa using c17) rfl hg
  refine aX ?_;refine cZ ?_;refine J2 ?_;refine bP ?_;refine aD (cM (hs:=xH k bx bm y.2.1 dn rs) (os:=xW y.2.1) (hc:=λ w hs=>Bv hg k.t _ ht gx hx.ok hs)) (λ x20 h20=>?_);refine J1 ?_;refine J2 ?_;refine bP ?_;refine aA ?_;refine aD (cM (hs:=xH k bx bm x20.2.1 dn rs) (os:=xW x20.2.1) (hc:=λ w hs=>oL hg k.t x20.1 _ ht h20.bd h20.go h20.ok hs)) (λ x24 h24=>?_);refine J1 ?_;refine J2 ?_;refine bM ?_;refine aD (cM (hs:=xH k bx bm x24.2.1 dn rs) (os:=xW x24.2.1) (A0:=[(none,aG []),(none,cR [])]) (hc:=λ w hs=>gQ hg (n:={Nd.zero with kind:=3}) (xs:=[]) (ys:=[]) 0 _ rfl rfl (by decide) (Nat.zero_le _) V4 (bI _) h24.go h24.ok hs)) (λ x27 h27=>?_);refine J1 ?_;refine J2 ?_;refine aD (cM (hs:=xH k bx bm x27.2.1 dn rs) (os:=xW x27.2.1) (hc:=λ w hs=>Z2 hg _ h27.go h27.ok hs)) (λ x29 h29=>?_)
  have hl24:=h24.len
  have hl27:=h27.len
  have hl29:=h29.len
  have hb20:=h20.bd
  have hb24:=h24.bd
  have hb27:=h27.bd
  refine iO ?_;refine dZ [(0,[]),(1,[]),(2,[]),(3,[]),(4,[]),(5,[]),(6,[]),(7,[]),(8,[1]),(9,[])] ?_;refine aT ?_;refine bN ?_;refine gV ?_;refine gV ?_;refine iT ?_;refine aT ?_;refine bB (i:=8) (hq:=(cM (hs:=xH k bx bm x29.2 dn rs) (os:=xW x29.2) (A0:=[(none,aG []),(none,cR [])]) (hc:=λ w hs=>gQ hg (n:={Nd.zero with kind:=2,gen:=x29.1}) (xs:=[]) (ys:=[]) x27.1 _ rfl rfl (by decide) (Nat.zero_le _) rD (by omega) h29.go h29.ok hs))) (h:=λ x38 h38=>?_);refine bB (i:=9) (hq:=(cM (hs:=xH k bx bm x38.2.1 dn rs) (os:=xW x38.2.1) (hc:=λ w hs=>K9 hg k.t x20.1 x24.1 x38.1 _ ht (by have:=h38.len;omega) (by have:=h38.len;omega) h38.bd h38.go h38.ok hs))) (h:=λ x39 h39=>?_)
  have hall:=((((hx.trans h20).trans h24).trans h27).nil h29).trans h38 |>.trans h39
  refine eJ ?_
  refine aZ (λ c39=>?_) (λ c39=>?_)
  ·have g3:=h39.go.to (λ _=>if_pos c39)
   refine J0 ?_;refine vL ?_
   refine aY Tryz.results187 (λ w hw=>?_)
   exact⟨(jQ true 0,x39.2.1,((((y.2.2++x20.2.2)++x24.2.2)++x27.2.2)++x38.2.2)++x39.2.2),rfl,hall.cE g3 (bI _),(hw.eU Fv).aV (hF:=by exact aW.all)⟩
  ·have g3:=h39.go.to (λ _=>if_neg (by rw[c39];decide))
   refine oP ?_
   refine jG ((fu,x39.2.1,((((y.2.2++x20.2.2)++x24.2.2)++x27.2.2)++x38.2.2)++x39.2.2)) ?_ (hw1:=λ w hw=>(hw.eU Fv).back (hF:=by exact aW.all))
   ·exact hall.cE g3 (bI _)
 ·refine bR rfl ?_;refine J0 ?_;refine vL ?_
  refine aY Tryz.results187 (λ w hw=>?_)
  exact⟨(Rs.zero,y.2.1,y.2.2),rfl,hx.cE (hx.go.bW (by simpa using c17)) (bI _),hw.aV (hF:=by exact aW.all)⟩
end
end

end Go.Proofs.YtbajmaoegmbfgaaGreat

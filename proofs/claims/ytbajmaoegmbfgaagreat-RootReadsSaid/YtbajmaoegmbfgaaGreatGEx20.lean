/- Executions of the reference: UP. -/
import Derived.Test.YtbajmaoegmbfgaaGreatEx19

set_option linter.unusedSimpArgs false
set_option linter.unusedVariables false
namespace Go.Ct
section
open Go Go.RowKit
theorem tP{a:Option Addr}{cs:List Value}:∀{F:Fr},(a,cs)∈F->Aq F a cs
 | [],h=>(List.not_mem_nil h).elim
 | f::F,h=>by
  rcases List.mem_cons.1 h with rfl|h
  ·exact .head
  ·exact .tail (tP h)
end
end Go.Ct
namespace Go.Proofs.YtbajmaoegmbfgaaGreat
section
open Go Go.RowKit Go.Ct
theorem mi{t:gY}{path:List Int}{h:Nat}{K:Tr}{l:Nat}(hl:0<l):qs t path h K l=nV t (path.getD l 0) λ m=>.node m λ nm=>if nm.kind=5 then zG t (path.getD (l-1) 0) (path.getD l 0) h ((l-1:Nat):Int) λ _=>qs t path h K (l-1) else K:=by
 cases l with
 | zero=>omega
 | succ q=>rfl
section
variable{k:Cl}{bx bm:Nat}{x:XS}{dn:Bool}{rs:Rs}{D:List Nat}{A:Fr}{w:World}{g:Gx}
set_option maxRecDepth 100000 in
theorem aAj(hg:g.Ok){path:List Int}{pp:Option Addr}{pc:Nat}{h:Nat}(hh:h<18446744073709551616)(K:Tr)(ht:k.t.root<=9223372036854775807)(hp:∀v∈path,v<=x.L.length)(hp1:1<=path.length)(hp2:path.length<=2147483648)(hA:∀f∈aR x.L,f∈A)(hpA:(pp,aG path)∈A)(go:gL g x (qs k.t path h K (path.length-1)))(ok:x.Ok)(hs:SF w D (xH k bx bm x dn rs) A [] (xW x) w):Calls Tryz.prog 227 #[.pointer (some ⟨bx,0,none⟩),.slice pp path.length pc,.int .u64 (h:Int)] w λ e w'=>∃q:XS×List aX,e=.returned (.tuple #[])/\Nx g x q.1 q.2 K 0/\SF w D (xH k bx bm q.1 dn rs) [] (aR q.2) (xW q.1) w':=by
  have hpd:∀j,path.getD j 0<=x.L.length:=λ j=>mM hp j
  refine enter Tryz.func227 Tryz.ntmps227 rfl rfl (cK hs) ?_
  simp only[cN]
  all_goals (refine J2 ?_;refine eH ?_;refine aB (gJ (m:=path.length) (n:=1) rf rf (by omega) (by omega)) rfl ?_;refine J1 ?_;refine dE ?_)
  all_goals
   refine oR [6,7,11,12,13,14,15,16,17,18,19,20,21,22,23,24,25,26,27,28,29,30,31,32,33,34,35,36,37,38,39,40,41,42,43,44,45,46,47,48,49,50,51,52,53,54,55,56,57,58,59,60,61,62] (λ y:Nat×XS×List aX=>[(6,.int .i64 (y.1:Int))]) (λ y=>y.1<path.length/\Nx g x y.2.1 y.2.2 (qs k.t path h K y.1) 0) (λ y=>[(bx,xO k bm y.2.1 dn rs),(bm,xM y.2.1)]) (λ y=>aR y.2.2) (λ y=>xW y.2.1) (λ y=>y.1) ((path.length-1,x,[])) (⟨by show path.length-1<path.length;omega,Nx.start go ok⟩) (λ y f hx=>?_) (hw0:=λ w hw=>hw)
   dsimp only[iL,List.map,List.cons_append,List.nil_append]
   obtain⟨hyl,hy⟩:=hx
   all_goals (refine lW ?_;refine zP ?_;refine aA ?_)
   all_goals ((refine fS 13 (λ g13=>?_) (λ g13=>?_)<;>(first|refine aN ?_|(refine aF ?_;refine aA ?_))))
   all_goals ((first|refine aN ?_|(refine aF ?_;refine dZ ?_));refine J6 ?_;refine Sg ?_;refine aH ?_)
   all_goals
    refine bG (λ c19=>?_) (λ c19=>?_)
    · try exact nv c19
      all_goals
       have hy1:0<y.1:=by omega
       have gx:=hy.go.to (λ _=>mi hy1)
       have hpy:=hpd y.1
       have hpz:=hpd (y.1-1)
       have hlx:=hy.len
      all_goals (refine qD ?_;refine aW ?_;refine fL [0,1,2,3,4,5,6,7,8,9,10,11] ?_;refine aQ ?_;refine J9 ?_;refine aT ?_;refine bS (i:=5) (hq:=(aL (k:=2) (vs:=[.int .i64 k.t.root,.bool k.t.ro]) rf bQ cD rfl rfl)) (h:=?_);refine iP ?_;refine bS (i:=8) (hq:=(eK (lst:=path) (k:=y.1) rf rf gK cG (.bF (tP hpA)) (by omega) (by omega))) (h:=?_);refine bS (i:=9) (hq:=(fO (lst:=path) (q:=y.1) rf cG (.bF (tP hpA)) (by omega))) (h:=?_);refine bA (i:=10) (hq:=(cM (hs:=xH k bx bm y.2.1 dn rs) (os:=xW y.2.1) (hc:=λ w hs=>oK hg k.t (path.getD y.1 0) _ ht (by omega) gx hy.ok hs))) (h:=λ x32 h32=>?_);refine J7 ?_;refine aW ?_;refine kY ?_;refine aA ?_)
      all_goals ((refine fS 37 (λ g37=>?_) (λ g37=>?_)<;>(first|refine aN ?_|(refine aF ?_;refine aA ?_))))
      all_goals ((first|refine aN ?_|(refine aF ?_;refine aA ?_));(first|refine aN ?_|(refine aF ?_;refine aC (cM (hs:=xH k bx bm x32.2.1 dn rs) (os:=xW x32.2.1) (hc:=λ w hs=>cR x32.1 _ h32.bd h32.go h32.ok hs)) (λ x40 h40=>?_)));(first|refine aN ?_|(refine aF ?_;refine dF ?_));refine Sj ?_;refine aH ?_)
      all_goals
       refine bG (λ c43=>?_) (λ c43=>?_)
       · all_goals
          refine bE Tryz.results227 (λ w hw=>?_)
          exact⟨(x32.2.1,y.2.2++x32.2.2),rfl,(hy.trans h32).cQ (by first|exact h32.go.cA (by assumption)|exact h40.1.to (λ _=>if_neg (by assumption))) (bM _),(hw.dY fQ).aS (hF:=by exact aV.all)⟩
       · try exact nv c43
         all_goals
          have g2:=h40.1.to (λ _=>if_pos (by assumption))
          have hch:=Ch.nx h32 hy.ch
          have hl32:=h32.len
         all_goals (refine bD ?_;refine fL [0,1,2,3,4,5,6,7,8,9,10,11,12,13,14,15,16,17,18] ?_;refine aQ ?_;refine J9 ?_;refine aT ?_;refine bS (i:=5) (hq:=(aL (k:=2) (vs:=[.int .i64 k.t.root,.bool k.t.ro]) rf bQ cD rfl rfl)) (h:=?_);refine iP ?_;refine cH (i:=8) (hq:=(gJ (m:=y.1) (n:=1) rf rf (by omega) (by omega))) (h:=?_);refine bS (i:=9) (hq:=(eK (lst:=path) (k:=y.1-1) rf rf gK cG (.bF (tP hpA)) (by omega) (by omega))) (h:=?_);refine bS (i:=10) (hq:=(fO (lst:=path) (q:=y.1-1) rf cG (.bF (tP hpA)) (by omega))) (h:=?_);refine iP ?_;refine bS (i:=13) (hq:=(eK (lst:=path) (k:=y.1) rf rf gK cG (.bF (tP hpA)) (by omega) (by omega))) (h:=?_);refine bS (i:=14) (hq:=(fO (lst:=path) (q:=y.1) rf cG (.bF (tP hpA)) (by omega))) (h:=?_);refine iP ?_;refine cH (i:=17) (hq:=(gJ (m:=y.1) (n:=1) rf rf (by omega) (by omega))) (h:=?_);refine bA (i:=18) (hq:=(cM (hs:=xH k bx bm x32.2.1 dn rs) (os:=xW x32.2.1) (A0:=aR x32.2.1.L) (hA:=Ch.all hch hA) (hc:=λ w hs=>Kf hg k.t (path.getD (y.1-1) 0) (path.getD y.1 0) hh ((y.1-1:Nat):Int) _ ht (by omega) (by omega) (λ f hf=>hf) g2 h32.ok hs))) (h:=λ x62 h62=>?_);refine eC ?_;refine fT ?_;refine zK ?_;refine aB (gJ (m:=y.1) (n:=1) rf rf (by omega) (by omega)) rfl ?_;refine J1 ?_)
         all_goals
          refine jJ ((y.1-1,x62.2.1,(y.2.2++x32.2.2)++x62.2.2)) ?_ (hw1:=λ w hw=>(hw.dY gU).back (hF:=by exact aV.all))
          · exact⟨by show y.1-1<path.length;omega,((hy.trans h32).trans h62).cQ h62.go (bM _)⟩
    · all_goals refine bV rfl ?_
      all_goals
       refine Di Tryz.results227 (λ w hw=>?_)
       exact⟨(y.2.1,y.2.2),rfl,hy.cQ (by first|exact hy.go.cA (by assumption)|(have e0:y.1=0:=by omega);(have g0:=hy.go);rw[e0] at g0;exact g0) (bM _),hw.aS (hF:=by exact aV.all)⟩
end
end

/- Executions of the reference: DROP. -/
end Go.Proofs.YtbajmaoegmbfgaaGreat
namespace Go.Ct
section
open Go Go.RowKit
theorem tj{P:Program}{S:List (Nat×Value)}{G:World->Prop}{d:Nat}{ty t t':TypeId}{pos:String}{af:Array Edge}{gd:Option (Nat×Bool)}{x y:Operand}{l:Nat}(hx:ev S x=.int .i64 ((l:Int)-1))(hy:ev S y=.int .i64 0):aP P S G ⟨some d,.call {callee:=.builtin .max,args := #[x,y],argTypes := #[t,t']},ty,pos,af,gd⟩ (.int .i64 ((l-1:Nat):Int)):=⟨λ w _=>by
 have e:(if(0:Int)>(l:Int)-1 then 0 else(l:Int)-1)=((l-1:Nat):Int):=by split<;>omega
 simp[execOp,resolve,invoke,builtin,Builtin.max_,Builtin.max2,hx,hy,e]⟩
end
end Go.Ct
namespace Go.Proofs.YtbajmaoegmbfgaaGreat
section
open Go Go.RowKit Go.Ct
section
variable{k:Cl}{bx bm:Nat}{x:XS}{dn:Bool}{rs:Rs}{D:List Nat}{A:Fr}{w:World}{g:Gx}
set_option maxRecDepth 100000 in
set_option maxHeartbeats 2000000 in
theorem u6(hg:g.Ok){m:Nat}(K:Rs->Tr)(n:Nat)(hn:n<=1073741824)(hm:m<18446744073709551616)(em:k.mask=(m:Int))(ek:k.key.size<=64)(ht:k.t.root<=9223372036854775807)(hA:∀f∈aR x.L,f∈A)(go:gL g x (vT k (mR k.key m) K n))(ok:x.Ok)(hs:SF w D (xH k bx bm x dn rs) A [] (xW x) w):Calls Tryz.prog 185 #[.pointer (some ⟨bx,0,none⟩)] w λ e w'=>∃q:Rs×XS×List aX,e=.returned (.agg ⟨q.1.cells⟩)/\Nx g x q.2.1 q.2.2 (K q.1) 0/\SF w D (xH k bx bm q.2.1 dn rs) [] (aR q.2.2) (xW q.2.1) w':=by
  refine enter Tryz.func185 Tryz.ntmps185 rfl rfl (cK hs) ?_
  simp only[cN]
  all_goals (refine J0 ?_;refine aJ (λ x2=>?_);refine Hs ?_)
  all_goals
   refine eZ [3,4,12,13,14,15,16,17,18,19,20,21,22,23,24,25,26,27] (λ j:Nat=>[(3,.pointer (some ⟨j,0,none⟩)),(4,.int .u64 (((mR k.key m):Nat):Int))]) (λ _=>True) (λ j=>[(j,.cells ⟨[.int .i64 k.t.root,.bool k.t.ro]⟩ 29 (0,0)),(x2,.cells ⟨Rs.zero.cells⟩ 64 (0,0)),(bx,xO k bm x dn rs),(bm,xM x)]) (λ _=>[]) (λ _=>xW x) (by decide) (λ _=>by exact rfl) ?_ (λ j f hx=>?_)
   · refine iE (.one 0 [] (.one 1 [] (.one 2 [] (.one 3 [] (.one 4 [] (.one 5 [] (.one 6 [] (.one 7 [] (.one 8 [] (.one 9 [] (.one 10 [] (.one 11 [] (.one 12 [] (.one 13 [] (.one 14 [] (.two 15 [4] (.one 16 [4,9,14] (.one 17 [] (.one 18 [] .nil))) 0 [] (.two 16 [4,9,14] (.one 15 [4] (.one 17 [] (.one 18 [] .nil))) 0 [] .nil))))))))))))))))) ?_
     all_goals (refine J9 ?_;refine aT ?_;refine bS (i:=4) (hq:=(aL (k:=2) (vs:=[.int .i64 k.t.root,.bool k.t.ro]) rf bQ cD rfl rfl)) (h:=?_);refine uD ?_;refine uD ?_)
     all_goals
      refine iM (E:=[15,16]) (by decide +kernel) ((.cons ?_ (.cons ?_ .nil)))
      · refine Cg (i:=15) (hq:=(cV (hc:=λ w1 hw=>nK em hm ek w1))) (hfire:=(λ _=>by first|(refine aI.cons (by first|exact dM (hq:=aL (k:=2) (vs:=[.int .i64 k.t.root,.bool k.t.ro]) rf bQ cD rfl rfl)|exact a_un) ?_;exact aI.nil)|(refine bT ?_;refine aI.cons (by first|exact dM (hq:=aL (k:=2) (vs:=[.int .i64 k.t.root,.bool k.t.ro]) rf bQ cD rfl rfl)|exact a_un) ?_;exact aI.nil))) (h:=λ x27=>?_)
        all_goals (refine iD (hfire:=(λ _=>by first|((repeat (first|exact aI.nil|refine aI.cons (by first|exact dM (hq:=aL (k:=2) (vs:=[.int .i64 k.t.root,.bool k.t.ro]) rf bQ cD rfl rfl)|exact eT|exact a_un) ?_));done)|(refine bT ?_;(repeat (first|exact aI.nil|refine aI.cons (by first|exact dM (hq:=aL (k:=2) (vs:=[.int .i64 k.t.root,.bool k.t.ro]) rf bQ cD rfl rfl)|exact eT|exact a_un) ?_));done))) (h:=λ x3=>?_);refine A6 ?_)
        all_goals
         refine fR (x3) ?_
         · trivial
      · refine hY (i:=16) (hfire:=(λ _=>by first|((repeat (first|exact aI.nil|refine aI.cons (by first|exact dM (hq:=aL (k:=2) (vs:=[.int .i64 k.t.root,.bool k.t.ro]) rf bQ cD rfl rfl)|exact eT|exact a_un) ?_));done)|(refine bT ?_;(repeat (first|exact aI.nil|refine aI.cons (by first|exact dM (hq:=aL (k:=2) (vs:=[.int .i64 k.t.root,.bool k.t.ro]) rf bQ cD rfl rfl)|exact eT|exact a_un) ?_));done))) (h:=λ x3=>?_)
        all_goals (refine cL (i:=15) (hq:=(cV (hc:=λ w1 hw=>nK em hm ek w1))) (hfire:=(λ _=>by first|(refine aI.cons (by first|exact dM (hq:=aL (k:=2) (vs:=[.int .i64 k.t.root,.bool k.t.ro]) rf bQ cD rfl rfl)|exact a_un) ?_;exact aI.nil)|(refine bT ?_;refine aI.cons (by first|exact dM (hq:=aL (k:=2) (vs:=[.int .i64 k.t.root,.bool k.t.ro]) rf bQ cD rfl rfl)|exact a_un) ?_;exact aI.nil))) (h:=λ x27=>?_);refine A6 ?_)
        all_goals
         refine fR (x3) ?_
         · trivial
   dsimp only[iL,List.map,List.cons_append,List.nil_append]
  all_goals refine Da ?_
  all_goals
   refine oR [5,6,7,8,9,10,11,28,29,30,31,32,33,34,35,36,37,38,39,40,41,42,43,44,45,46,47,48,49,50,51,52,53,54,55,56,57,58,59,60,61,62,63,64,65,66,67,68,69,70,71,72,73,74,75,76,77,78,79,80,81,82,83,84,85,86,87,88,89,90,91,92,93,94,95,96,97,98,99,100,101,102,103,104,105,106,107,108,109,110,111,112,113] (λ y:Nat×XS×List aX=>[]) (λ y=>y.1<=n/\Nx g x y.2.1 y.2.2 (vT k (mR k.key m) K y.1) 0) (λ y=>[(j,.cells ⟨[.int .i64 k.t.root,.bool k.t.ro]⟩ 29 (0,0)),(x2,.cells ⟨Rs.zero.cells⟩ 64 (0,0)),(bx,xO k bm y.2.1 dn rs),(bm,xM y.2.1)]) (λ y=>aR y.2.2) (λ y=>xW y.2.1) (λ y=>y.1) ((n,x,[])) (⟨Nat.le_refl n,Nx.start go ok |>.cQ go (bM _)⟩) (λ y f hx=>?_) (hw0:=λ w hw=>hw)
   dsimp only[iL,List.map,List.cons_append,List.nil_append]
   obtain⟨hyn,hy⟩:=hx
   all_goals (refine aW ?_;refine kY ?_;refine qT ?_)
   all_goals
    refine bG (λ c32=>?_) (λ c32=>?_)
    · all_goals
       obtain⟨fu,hfu,gx⟩:=gL.kB (T:=λ q=>vT k (mR k.key m) K q) hy.go (by simpa using c32) rfl hg
      all_goals (refine bD ?_;refine dE ?_;refine J2 ?_;refine bX ?_;refine aC (cM (hs:=xH k bx bm y.2.1 dn rs) (os:=xW y.2.1) (hc:=λ w hs=>Bc hg k.t _ ht gx hy.ok hs)) (λ x35 h35=>?_);refine xT ?_;refine aC (cM (hs:=xH k bx bm x35.2.1 dn rs) (os:=xW x35.2.1) (hc:=λ w hs=>cR x35.1 _ h35.bd h35.go h35.ok hs)) (λ x38 h38=>?_);refine dF ?_;refine J1 ?_;refine J2 ?_;refine aY (R4 (c:=1) (sz:=1) rfl (λ _=>cZ (cs:=aG [x35.1]) pF It rfl rfl rfl rfl rfl)) (λ x41=>?_);refine J1 ?_;refine Hu ?_)
      all_goals
       refine oR [5,7,8,9,10,11,42,43,44,45,46,47,48,49,50,51,52,53,54,55,56,57,58,59,60,61,62,63,64,65,66,67,68,69,70,71,72,73,74,75,76,77,78,79,80,81,82,83,84,85,86,87,88,89,90,91,92,93,94,95,96,97,98,99,100,101,102,103,104,105,106,107,108,109,110,111,112,113] (λ z:Nat×Int×List Int×XS×List aX×Option Addr×Nat=>[(5,.int .i64 z.2.1),(7,.slice z.2.2.2.2.2.1 z.2.2.1.length z.2.2.2.2.2.2),(8,.int .i64 (((fu-z.1):Nat):Int))]) (λ z=>z.1<=fu/\Nx g x z.2.2.2.1 z.2.2.2.2.1 (vN k (mR k.key m) K (vT k (mR k.key m) K fu) (aD x35.2.1.L x35.1).nd.gen z.1 z.2.1 z.2.2.1 (fu-z.1)) z.2.1/\(∀v∈z.2.2.1,v<=z.2.2.2.1.L.length)/\z.2.2.1.length=(fu-z.1)+1) (λ z=>[(j,.cells ⟨[.int .i64 k.t.root,.bool k.t.ro]⟩ 29 (0,0)),(x2,.cells ⟨Rs.zero.cells⟩ 64 (0,0)),(bx,xO k bm z.2.2.2.1 dn rs),(bm,xM z.2.2.2.1)]) (λ z=>aR z.2.2.2.2.1) (λ z=>List.cons ⟨z.2.2.2.2.2.1,aG z.2.2.1,z.2.2.2.2.2.2,37,1⟩ (xW z.2.2.2.1)) (λ z=>z.1) ((fu,x35.1,[x35.1],x35.2.1,y.2.2++x35.2.2,some ⟨x41,0,none⟩,1)) (⟨Nat.le_refl fu,(hy.trans h35).cQ (show gL g x35.2.1 (vN k (mR k.key m) K (vT k (mR k.key m) K fu) (aD x35.2.1.L x35.1).nd.gen fu x35.1 [x35.1] (fu-fu)) from(Nat.sub_self fu).symm▸h38.1) h35.bd,λ v hv=>by rw[List.mem_singleton.1 hv];exact h35.bd,by show 1=fu-fu+1;omega⟩) (λ z f hx=>?_) (hw0:=λ w hw=>(hw.dY fQ).back (hF:=by exact aV.all))
       dsimp only[iL,List.map,List.cons_append,List.nil_append]
       obtain⟨hzf,hz,hzp,hzl⟩:=hx
       all_goals (refine aW ?_;refine kY ?_;refine qT ?_)
       all_goals
        refine bG (λ c46=>?_) (λ c46=>?_)
        · all_goals
           obtain⟨fu2,hfu2,gz⟩:=gL.kB (T:=λ q=>(vN k (mR k.key m) K (vT k (mR k.key m) K fu) (aD x35.2.1.L x35.1).nd.gen q z.2.1 z.2.2.1 (fu-z.1))) hz.go (by simpa using c46) rfl hg
           have hpd:∀j,z.2.2.1.getD j 0<=z.2.2.2.1.L.length:=λ j=>mM hzp j
           have hpl:=hpd ((fu-z.1)-1)
          all_goals (refine qD ?_;refine J2 ?_;refine bX ?_;refine aA ?_;refine aC (cM (hs:=xH k bx bm z.2.2.2.1 dn rs) (os:=xW z.2.2.2.1) (hc:=λ w hs=>oK hg k.t z.2.1 _ ht hz.bd gz hz.ok hs)) (λ x52 h52=>?_))
          all_goals
           have hl52:=h52.len
           have hb52:=h52.bd
           have hbz:=hz.bd
           have hch:=Ch.nx h52 hz.ch
          all_goals (refine jM ?_;refine kY ?_;refine aH ?_)
          all_goals
           refine bG (λ c56=>?_) (λ c56=>?_)
           · all_goals refine Xq ?_
             all_goals
              refine jJ (by first|exact(fu,x107.2.1,(((z.2.2.2.2.1++x52.2.2)++x81.2.2.2)++x107.2.2))|exact(fu,x81.2.2.1,((z.2.2.2.2.1++x52.2.2)++x81.2.2.2))|exact(fu,x74.2.1,((z.2.2.2.2.1++x52.2.2)++x74.2.2))|exact(fu,x52.2.1,(z.2.2.2.2.1++x52.2.2))|exact(fu,z.2.2.2.1,z.2.2.2.2.1)) ?_ (hw1:=λ w hw=>by first|exact(hw.dY iG).back (hF:=by exact aV.all)|exact(hw.dY gU).back (hF:=by exact aV.all)|exact(hw.dY fQ).back (hF:=by exact aV.all)|exact hw.back (hF:=by exact aV.all))
              · first
                 | exact⟨by show fu<=n;omega,(((hz.trans h52).trans h81).trans h107).cQ g4 (bM _)⟩
                 | exact⟨by show fu<=n;omega,((hz.trans h52).trans h81).cQ g3 (bM _)⟩
                 | exact⟨by show fu<=n;omega,((hz.trans h52).trans h81).cQ (h81.go.cA (by assumption)) (bM _)⟩
                 | exact⟨by show fu<=n;omega,((hz.trans h52).trans h74).cQ h74.go (bM _)⟩
                 | exact⟨by show fu<=n;omega,(hz.trans h52).cQ (h52.go.cA (by assumption)) (bM _)⟩
                 | exact⟨by show fu<=n;omega,hz.cQ (hz.go.cA (by simpa using c46)) (bM _)⟩
           · all_goals (refine lG ?_;refine jN ?_;refine aC (cM (hs:=xH k bx bm x52.2.1 dn rs) (os:=xW x52.2.1) (hc:=λ w hs=>cR x52.1 _ h52.bd h52.go h52.ok hs)) (λ x59 h59=>?_);refine dF ?_;refine uS ?_)
             all_goals
              refine bG (λ c61=>?_) (λ c61=>?_)
              · all_goals
                 have g1:=h59.1.to (λ _=>if_pos c61)
                all_goals (refine aW ?_;refine dX [(0,[]),(1,[]),(2,[]),(3,[]),(4,[]),(8,[]),(9,[]),(10,[]),(11,[]),(5,[1]),(6,[]),(7,[]),(12,[])] ?_;refine aQ ?_;refine bR ?_;refine iP ?_;refine uZ ?_;refine iP ?_;refine aQ ?_;refine uZ ?_;((refine cL (i:=5) (hq:=(iN (tj (l:=(fu-z.1)) rf rf))) (h:=λ x67=>?_);try (refine cW (λ h67=>?_))));refine bS (i:=6) (hq:=(eK (lst:=z.2.2.1) (k:=(fu-z.1)-1) rf rf gK cG (.own .head) (by omega) (by omega))) (h:=?_);refine bS (i:=7) (hq:=(fO (lst:=z.2.2.1) (q:=(fu-z.1)-1) rf cG (.own .head) (by omega))) (h:=?_);refine bA (i:=12) (hq:=(cM (hs:=xH k bx bm x52.2.1 dn rs) (os:=xW x52.2.1) (A0:=aR x52.2.1.L) (hA:=Ch.all hch hA) (hc:=λ w hs=>Kf hg k.t (z.2.2.1.getD ((fu-z.1)-1) 0) z.2.1 (sU k.key m) ((((fu-z.1):Nat):Int)-1) _ ht (by omega) (by omega) (λ f hf=>hf) g1 h52.ok hs))) (h:=λ x74 h74=>?_);refine eC ?_;refine Xq ?_)
                all_goals
                 refine jJ (by first|exact(fu,x107.2.1,(((z.2.2.2.2.1++x52.2.2)++x81.2.2.2)++x107.2.2))|exact(fu,x81.2.2.1,((z.2.2.2.2.1++x52.2.2)++x81.2.2.2))|exact(fu,x74.2.1,((z.2.2.2.2.1++x52.2.2)++x74.2.2))|exact(fu,x52.2.1,(z.2.2.2.2.1++x52.2.2))|exact(fu,z.2.2.2.1,z.2.2.2.2.1)) ?_ (hw1:=λ w hw=>by first|exact(hw.dY iG).back (hF:=by exact aV.all)|exact(hw.dY gU).back (hF:=by exact aV.all)|exact(hw.dY fQ).back (hF:=by exact aV.all)|exact hw.back (hF:=by exact aV.all))
                 · first
                    | exact⟨by show fu<=n;omega,(((hz.trans h52).trans h81).trans h107).cQ g4 (bM _)⟩
                    | exact⟨by show fu<=n;omega,((hz.trans h52).trans h81).cQ g3 (bM _)⟩
                    | exact⟨by show fu<=n;omega,((hz.trans h52).trans h81).cQ (h81.go.cA (by assumption)) (bM _)⟩
                    | exact⟨by show fu<=n;omega,((hz.trans h52).trans h74).cQ h74.go (bM _)⟩
                    | exact⟨by show fu<=n;omega,(hz.trans h52).cQ (h52.go.cA (by assumption)) (bM _)⟩
                    | exact⟨by show fu<=n;omega,hz.cQ (hz.go.cA (by simpa using c46)) (bM _)⟩
              · all_goals
                 have g1:=h59.1.to (λ _=>if_neg c61)
                all_goals (refine Ck ?_;refine qA ?_;refine aA ?_;refine aC (cM (hs:=xH k bx bm x52.2.1 dn rs) (os:=xW x52.2.1) (A0:=aR x52.2.1.L) (hA:=Ch.all hch hA) (hc:=λ w hs=>P2 hg z.2.1 x52.1 (sU k.key m) (fu-z.1) (by omega) _ ht (by omega) (by omega) (λ f hf=>hf) g1 h52.ok hs)) (λ x81 h81=>?_))
                all_goals
                 have hl81:=h81.len
                 have hch2:=Ch.nx h81 hch
                all_goals (refine aA ?_;refine aB (bU rf rfl) rfl ?_;refine aB (bU rf rfl) rfl ?_;refine aJ (λ x10=>?_);refine jD (λ _=>?_);refine jM ?_;refine kY ?_;refine aH ?_)
                all_goals
                 refine bG (λ c87=>?_) (λ c87=>?_)
                 · all_goals refine Xq ?_
                   all_goals
                    refine jJ (by first|exact(fu,x107.2.1,(((z.2.2.2.2.1++x52.2.2)++x81.2.2.2)++x107.2.2))|exact(fu,x81.2.2.1,((z.2.2.2.2.1++x52.2.2)++x81.2.2.2))|exact(fu,x74.2.1,((z.2.2.2.2.1++x52.2.2)++x74.2.2))|exact(fu,x52.2.1,(z.2.2.2.2.1++x52.2.2))|exact(fu,z.2.2.2.1,z.2.2.2.2.1)) ?_ (hw1:=λ w hw=>by first|exact(hw.dY iG).back (hF:=by exact aV.all)|exact(hw.dY gU).back (hF:=by exact aV.all)|exact(hw.dY fQ).back (hF:=by exact aV.all)|exact hw.back (hF:=by exact aV.all))
                    · first
                       | exact⟨by show fu<=n;omega,(((hz.trans h52).trans h81).trans h107).cQ g4 (bM _)⟩
                       | exact⟨by show fu<=n;omega,((hz.trans h52).trans h81).cQ g3 (bM _)⟩
                       | exact⟨by show fu<=n;omega,((hz.trans h52).trans h81).cQ (h81.go.cA (by assumption)) (bM _)⟩
                       | exact⟨by show fu<=n;omega,((hz.trans h52).trans h74).cQ h74.go (bM _)⟩
                       | exact⟨by show fu<=n;omega,(hz.trans h52).cQ (h52.go.cA (by assumption)) (bM _)⟩
                       | exact⟨by show fu<=n;omega,hz.cQ (hz.go.cA (by simpa using c46)) (bM _)⟩
                 · all_goals (refine lG ?_;refine J2 ?_;refine uS ?_)
                   all_goals
                    refine bG (λ c89=>?_) (λ c89=>?_)
                    · all_goals
                       have g2:=h81.go.to (λ _=>if_pos (by assumption))
                      all_goals (refine Cs ?_;refine uS ?_)
                      all_goals
                       refine bG (λ c92=>?_) (λ c92=>?_)
                       · all_goals
                          have g3:=g2.to (λ _=>if_pos (by assumption))
                         all_goals (refine zK ?_;refine qA ?_;refine aC (cM (hs:=xH k bx bm x81.2.2.1 dn rs) (os:=xW x81.2.2.1) (A0:=(List.cons (z.2.2.2.2.2.1,aG z.2.2.1) (aR x81.2.2.1.L))) (hA:=bB.cons (.inr (.inr (.inr ⟨_,.head _,rfl,rfl⟩))) (Ch.all hch2 hA)) (hc:=λ w hs=>aAj hg (path:=z.2.2.1) (sU k.key m) _ ht (λ v hv=>by have:=hzp v hv;omega) (by omega) (by omega) (λ f hf=>List.mem_cons_of_mem _ hf) (List.mem_cons_self ..) g3 h81.ok hs)) (λ x96 h96=>?_);refine aH ?_;refine qF ?_;refine J5 ?_)
                         all_goals
                          refine bE Tryz.results185 (λ w hw=>?_)
                          first
                           | exact⟨(x81.1,x96.1,(((z.2.2.2.2.1++x52.2.2)++x81.2.2.2)++x96.2)),rfl,(((hz.trans h52).trans h81).trans h96).cQ h96.go (bM _),(hw.dY iG).aS (hF:=by exact aV.all)⟩
                           | exact⟨(x81.1,x81.2.2.1,((z.2.2.2.2.1++x52.2.2)++x81.2.2.2)),rfl,((hz.trans h52).trans h81).cQ g3 (bM _),(hw.dY gU).aS (hF:=by exact aV.all)⟩
                       · all_goals
                          have g3:=g2.to (λ _=>if_neg (by assumption))
                         all_goals (refine bD ?_;refine qF ?_;refine J5 ?_)
                         all_goals
                          refine bE Tryz.results185 (λ w hw=>?_)
                          first
                           | exact⟨(x81.1,x81.2.2.1,((z.2.2.2.2.1++x52.2.2)++x81.2.2.2)),rfl,((hz.trans h52).trans h81).cQ g3 (bM _),(hw.dY gU).aS (hF:=by exact aV.all)⟩
                           | exact⟨(Rs.zero,y.2.1,y.2.2),rfl,hy.cQ (hy.go.cA (by simpa using c32)) (bM _),hw.aS (hF:=by exact aV.all)⟩
                    · all_goals
                       have g2:=h81.go.to (λ _=>if_neg (by assumption))
                      all_goals (refine lG ?_;refine J2 ?_;refine uS ?_)
                      all_goals
                       refine bG (λ c99=>?_) (λ c99=>?_)
                       · all_goals
                          have g3:=g2.to (λ _=>if_pos (by assumption))
                         all_goals refine Xq ?_
                         all_goals
                          refine jJ (by first|exact(fu,x107.2.1,(((z.2.2.2.2.1++x52.2.2)++x81.2.2.2)++x107.2.2))|exact(fu,x81.2.2.1,((z.2.2.2.2.1++x52.2.2)++x81.2.2.2))|exact(fu,x74.2.1,((z.2.2.2.2.1++x52.2.2)++x74.2.2))|exact(fu,x52.2.1,(z.2.2.2.2.1++x52.2.2))|exact(fu,z.2.2.2.1,z.2.2.2.2.1)) ?_ (hw1:=λ w hw=>by first|exact(hw.dY iG).back (hF:=by exact aV.all)|exact(hw.dY gU).back (hF:=by exact aV.all)|exact(hw.dY fQ).back (hF:=by exact aV.all)|exact hw.back (hF:=by exact aV.all))
                          · first
                             | exact⟨by show fu<=n;omega,(((hz.trans h52).trans h81).trans h107).cQ g4 (bM _)⟩
                             | exact⟨by show fu<=n;omega,((hz.trans h52).trans h81).cQ g3 (bM _)⟩
                             | exact⟨by show fu<=n;omega,((hz.trans h52).trans h81).cQ (h81.go.cA (by assumption)) (bM _)⟩
                             | exact⟨by show fu<=n;omega,((hz.trans h52).trans h74).cQ h74.go (bM _)⟩
                             | exact⟨by show fu<=n;omega,(hz.trans h52).cQ (h52.go.cA (by assumption)) (bM _)⟩
                             | exact⟨by show fu<=n;omega,hz.cQ (hz.go.cA (by simpa using c46)) (bM _)⟩
                       · all_goals
                          have g3:=g2.to (λ _=>if_neg (by assumption))
                         all_goals (refine lG ?_;refine jN ?_;refine qA ?_;refine aA ?_;refine aY (cV (hc:=λ w1 hw=>fU (sU k.key m) (((fu-z.1):Nat):Int) w1)) (λ x105=>?_);refine aA ?_;refine aC (cM (hs:=xH k bx bm x81.2.2.1 dn rs) (os:=xW x81.2.2.1) (A0:=aR x81.2.2.1.L) (hA:=Ch.all hch2 hA) (hc:=λ w hs=>Ux hg z.2.1 x52.1 (gZ (mR k.key m) (((fu-z.1):Nat):Int)) (aD x35.2.1.L x35.1).nd.gen _ ht (by omega) (by omega) (λ f hf=>hf) g3 h81.ok hs)) (λ x107 h107=>?_);refine J1 ?_;refine J2 ?_;refine uS ?_)
                         all_goals
                          refine bG (λ c109=>?_) (λ c109=>?_)
                          · all_goals
                             have g4:=h107.go.to (λ _=>if_pos (by assumption))
                            all_goals refine Xq ?_
                            all_goals
                             refine jJ (by first|exact(fu,x107.2.1,(((z.2.2.2.2.1++x52.2.2)++x81.2.2.2)++x107.2.2))|exact(fu,x81.2.2.1,((z.2.2.2.2.1++x52.2.2)++x81.2.2.2))|exact(fu,x74.2.1,((z.2.2.2.2.1++x52.2.2)++x74.2.2))|exact(fu,x52.2.1,(z.2.2.2.2.1++x52.2.2))|exact(fu,z.2.2.2.1,z.2.2.2.2.1)) ?_ (hw1:=λ w hw=>by first|exact(hw.dY iG).back (hF:=by exact aV.all)|exact(hw.dY gU).back (hF:=by exact aV.all)|exact(hw.dY fQ).back (hF:=by exact aV.all)|exact hw.back (hF:=by exact aV.all))
                             · first
                                | exact⟨by show fu<=n;omega,(((hz.trans h52).trans h81).trans h107).cQ g4 (bM _)⟩
                                | exact⟨by show fu<=n;omega,((hz.trans h52).trans h81).cQ g3 (bM _)⟩
                                | exact⟨by show fu<=n;omega,((hz.trans h52).trans h81).cQ (h81.go.cA (by assumption)) (bM _)⟩
                                | exact⟨by show fu<=n;omega,((hz.trans h52).trans h74).cQ h74.go (bM _)⟩
                                | exact⟨by show fu<=n;omega,(hz.trans h52).cQ (h52.go.cA (by assumption)) (bM _)⟩
                                | exact⟨by show fu<=n;omega,hz.cQ (hz.go.cA (by simpa using c46)) (bM _)⟩
                          · all_goals
                             have g4:=h107.go.to (λ _=>if_neg (by assumption))
                            all_goals (refine bD ?_;refine Ic ?_;refine aY (R4 (c:=1) (sz:=1) rfl (λ _=>cZ (cs:=aG [x107.1]) pF It rfl rfl rfl rfl rfl)) (λ x112=>?_);(refine eD (λ x113=>?_);try (refine eA (λ h113=>?_)));refine J1 ?_;refine fT ?_;refine zL ?_)
                            all_goals
                             refine jJ ((z.1-1,x107.1,z.2.2.1++[x107.1],x107.2.1,(((z.2.2.2.2.1++x52.2.2)++x81.2.2.2)++x107.2.2),x113.1,x113.2)) ?_ (hw1:=λ w hw=>(hw.dY iG).back (hF:=by exact aV.all))
                             · have e1:z.1-1=fu2:=by omega
                               have e2:(fu-z.1)+1=fu-fu2:=by omega
                               refine⟨by show z.1-1<=fu;omega,((((hz.trans h52).trans h81).trans h107)).cQ ?_ h107.bd,λ v hv=>?_,by show(z.2.2.1++[x107.1]).length=fu-(z.1-1)+1;rw[List.length_append,List.length_singleton];omega⟩
                               · show gL g x107.2.1 (vN k (mR k.key m) K (vT k (mR k.key m) K fu) (aD x35.2.1.L x35.1).nd.gen (z.1-1) x107.1 (z.2.2.1++[x107.1]) (fu-(z.1-1)))
                                 rw[e1,<- e2]
                                 exact g4
                               · show v<=(x107.2.1.L.length:Int)
                                 have hl107:=h107.len
                                 rcases List.mem_append.1 hv with hv|hv
                                 · have:=hzp v hv;omega
                                 · rw[List.mem_singleton.1 hv];exact h107.bd
        · all_goals refine Xq ?_
          all_goals
           refine jJ (by first|exact(fu,x107.2.1,(((z.2.2.2.2.1++x52.2.2)++x81.2.2.2)++x107.2.2))|exact(fu,x81.2.2.1,((z.2.2.2.2.1++x52.2.2)++x81.2.2.2))|exact(fu,x74.2.1,((z.2.2.2.2.1++x52.2.2)++x74.2.2))|exact(fu,x52.2.1,(z.2.2.2.2.1++x52.2.2))|exact(fu,z.2.2.2.1,z.2.2.2.2.1)) ?_ (hw1:=λ w hw=>by first|exact(hw.dY iG).back (hF:=by exact aV.all)|exact(hw.dY gU).back (hF:=by exact aV.all)|exact(hw.dY fQ).back (hF:=by exact aV.all)|exact hw.back (hF:=by exact aV.all))
           · first
              | exact⟨by show fu<=n;omega,(((hz.trans h52).trans h81).trans h107).cQ g4 (bM _)⟩
              | exact⟨by show fu<=n;omega,((hz.trans h52).trans h81).cQ g3 (bM _)⟩
              | exact⟨by show fu<=n;omega,((hz.trans h52).trans h81).cQ (h81.go.cA (by assumption)) (bM _)⟩
              | exact⟨by show fu<=n;omega,((hz.trans h52).trans h74).cQ h74.go (bM _)⟩
              | exact⟨by show fu<=n;omega,(hz.trans h52).cQ (h52.go.cA (by assumption)) (bM _)⟩
              | exact⟨by show fu<=n;omega,hz.cQ (hz.go.cA (by simpa using c46)) (bM _)⟩
    · all_goals (refine bV rfl ?_;refine J0 ?_;refine wJ ?_)
      all_goals
       refine bE Tryz.results185 (λ w hw=>?_)
       exact⟨(Rs.zero,y.2.1,y.2.2),rfl,hy.cQ (hy.go.cA (by simpa using c32)) (bM _),hw.aS (hF:=by exact aV.all)⟩
end
end

end Go.Proofs.YtbajmaoegmbfgaaGreat

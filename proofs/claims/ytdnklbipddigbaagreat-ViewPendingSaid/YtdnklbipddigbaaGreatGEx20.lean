/- Merged. -/
import Derived.Test.YtdnklbipddigbaaGreatEx19
set_option linter.unusedSimpArgs false
set_option linter.unusedVariables false
namespace Go.Ct
open Go Go.RowKit
section
theorem fat_mem{a:Option Addr}{cs:List Value}:∀{F:Fr},(a,cs)∈F->FAt F a cs
 | [],h=>(List.not_mem_nil h).elim
 | f::F,h=>by
  rcases List.mem_cons.1 h with rfl|h;·exact .head
  ·exact .tail (fat_mem h)
end
end Go.Ct
namespace Go.Proofs.YtdnklbipddigbaaGreat
open Go Go.RowKit Go.Ct
section
theorem upT_pos{t:Tri}{path:List Int}{h:Nat}{K:Tr}{l:Nat}(hl:0<l):upT t path h K l=readT t (path.getD l 0) λ m=>.node m λ nm=>if nm.kind=5 then cleanT t (path.getD (l-1) 0) (path.getD l 0) h ((l-1:Nat):Int) λ _=>upT t path h K (l-1) else K:=by
 cases l with
 | zero=>omega
 | succ q=>rfl
section
variable{k:Cl}{bx bm:Nat}{x:XS}{dn:Bool}{rs:Rs}{D:List Nat}{A:Fr}{w:World}{g:Gx}
set_option maxRecDepth 100000 in
theorem xup_c(hg:g.Ok){path:List Int}{pp:Option Addr}{pc:Nat}{h:Nat}(hh:h<18446744073709551616)(K:Tr)(ht:k.t.root<=9223372036854775807)(hp:∀v∈path,v<=x.L.length)(hp1:1<=path.length)(hp2:path.length<=2147483648)(hA:∀f∈famF x.L,f∈A)(hpA:(pp,refsC path)∈A)(go:Go' g x (upT k.t path h K (path.length-1)))(ok:x.Ok)(hs:SF w D (xH k bx bm x dn rs) A [] (xW x) w):Calls Tryz.prog 220 #[.pointer (some ⟨bx,0,none⟩),.slice pp path.length pc,.int .u64 (h:Int)] w λ e w'=>∃q:XS×List NdV,e=.returned (.tuple #[])/\Nx g x q.1 q.2 K 0/\SF w D (xH k bx bm q.1 dn rs) [] (famF q.2) (xW q.1) w':=by
 have hpd:∀j,path.getD j 0<=x.L.length:=λ j=>getD_le hp j
 refine enter Tryz.func220 Tryz.ntmps220 rfl rfl (xOpen2 hs) ?_;simp only[mkS];refine J2 ?_;refine j_len ?_;refine l_quiet (o_subN (m:=path.length) (n:=1) rf rf (by omega) (by omega)) rfl ?_;refine J1 ?_;refine k_block ?_;refine k_lp [6,7,11,12,13,14,15,16,17,18,19,20,21,22,23,24,25,26,27,28,29,30,31,32,33,34,35,36,37,38,39,40,41,42,43,44,45,46,47,48,49,50,51,52,53,54,55,56,57,58,59,60,61,62] (λ y:Nat×XS×List NdV=>[(6,.int .i64 (y.1:Int))]) (λ y=>y.1<path.length/\Nx g x y.2.1 y.2.2 (upT k.t path h K y.1) 0) (λ y=>[(bx,xO k bm y.2.1 dn rs),(bm,xM y.2.1)]) (λ y=>famF y.2.2) (λ y=>xW y.2.1) (λ y=>y.1) ((path.length-1,x,[])) (⟨by show path.length-1<path.length;omega,Nx.start go ok⟩) (λ y f hx=>?_) (hw0:=λ w hw=>hw);dsimp only[mkU,List.map,List.cons_append,List.nil_append];obtain⟨hyl,hy⟩:=hx;refine J32 ?_;refine j_gtr ?_;refine j_move ?_;(refine lcs 13 (λ g13=>?_) (λ g13=>?_)<;>refine Ka0 ?_);all_goals (refine Kf2 ?_;refine J6 ?_;refine Kd3 ?_)
 all_goals
  refine kif (λ c19=>?_) (λ c19=>?_)
  ·try exact nv c19
   all_goals
    have hy1:0<y.1:=by omega
    have gx:=hy.go.to (λ _=>upT_pos hy1)
    have hpy:=hpd y.1;have hpz:=hpd (y.1-1);have hlx:=hy.len
   all_goals (refine J37 ?_;refine k_seq ?_;refine k_dq [0,1,2,3,4,5,6,7,8,9,10,11] ?_;refine r_move ?_;refine Kb8 ?_;refine r_ownQ (i:=5) (hq:=(o_loadPart (k:=2) (vs:=[.int .i64 k.t.root,.bool k.t.ro]) rf atT ag1 rfl rfl)) (h:=?_);refine J17 ?_;refine r_ownQ (i:=8) (hq:=(o_indexR (lst:=path) (k:=y.1) rf rf sl1 on1 (.old (fat_mem hpA)) (by omega) (by omega))) (h:=?_);refine r_ownQ (i:=9) (hq:=(o_loadR (lst:=path) (q:=y.1) rf on1 (.old (fat_mem hpA)) (by omega))) (h:=?_);refine r_ownF (i:=10) (hq:=(cM (hs:=xH k bx bm y.2.1 dn rs) (os:=xW y.2.1) (hc:=λ w hs=>read_c hg k.t (path.getD y.1 0) _ ht (by omega) gx hy.ok hs))) (h:=λ x32 h32=>?_);refine J7 ?_;refine k_seq ?_;refine Kd6 ?_)
   all_goals ((refine lcs 37 (λ g37=>?_) (λ g37=>?_)<;>refine Ka0 ?_))
   all_goals (refine Ka0 ?_;(first|refine j_un ?_|(refine j_yes ?_;refine j_ownF (cM (hs:=xH k bx bm x32.2.1 dn rs) (os:=xW x32.2.1) (hc:=λ w hs=>node_c x32.1 _ h32.bd h32.go h32.ok hs)) (λ x40 h40=>?_)));(first|refine j_un ?_|(refine j_yes ?_;refine j_field ?_));refine J38 ?_;refine l_nil ?_)
   all_goals
    refine kif (λ c43=>?_) (λ c43=>?_);·all_goals refine k_rt Tryz.results220 (λ w hw=>?_);exact⟨(x32.2.1,y.2.2++x32.2.2),rfl,(hy.trans h32).weak (by first|exact h32.go.stopped (by assumption)|exact h40.1.to (λ _=>if_neg (by assumption))) (nn0 _),(hw.subF famF_swap).z0⟩
    ·try exact nv c43
     all_goals
      have g2:=h40.1.to (λ _=>if_pos (by assumption))
      have hch:=Ch.nx h32 hy.ch;have hl32:=h32.len
     all_goals (refine k_skip ?_;refine k_dq [0,1,2,3,4,5,6,7,8,9,10,11,12,13,14,15,16,17,18] ?_;refine r_move ?_;refine Kb8 ?_;refine r_ownQ (i:=5) (hq:=(o_loadPart (k:=2) (vs:=[.int .i64 k.t.root,.bool k.t.ro]) rf atT ag1 rfl rfl)) (h:=?_);refine J17 ?_;refine r_ownP (i:=8) (hq:=(o_subN (m:=y.1) (n:=1) rf rf (by omega) (by omega))) (h:=?_);refine r_ownQ (i:=9) (hq:=(o_indexR (lst:=path) (k:=y.1-1) rf rf sl1 on1 (.old (fat_mem hpA)) (by omega) (by omega))) (h:=?_);refine r_ownQ (i:=10) (hq:=(o_loadR (lst:=path) (q:=y.1-1) rf on1 (.old (fat_mem hpA)) (by omega))) (h:=?_);refine J17 ?_;refine r_ownQ (i:=13) (hq:=(o_indexR (lst:=path) (k:=y.1) rf rf sl1 on1 (.old (fat_mem hpA)) (by omega) (by omega))) (h:=?_);refine r_ownQ (i:=14) (hq:=(o_loadR (lst:=path) (q:=y.1) rf on1 (.old (fat_mem hpA)) (by omega))) (h:=?_);refine J17 ?_;refine r_ownP (i:=17) (hq:=(o_subN (m:=y.1) (n:=1) rf rf (by omega) (by omega))) (h:=?_);refine r_ownF (i:=18) (hq:=(cM (hs:=xH k bx bm x32.2.1 dn rs) (os:=xW x32.2.1) (A0:=famF x32.2.1.L) (hA:=Ch.all hch hA) (hc:=λ w hs=>clean_c hg k.t (path.getD (y.1-1) 0) (path.getD y.1 0) hh ((y.1-1:Nat):Int) _ ht (by omega) (by omega) (λ f hf=>hf) g2 h32.ok hs))) (h:=λ x62 h62=>?_);refine r_fin ?_;refine k_blk ?_;refine J20 ?_;refine l_quiet (o_subN (m:=y.1) (n:=1) rf rf (by omega) (by omega)) rfl ?_;refine J1 ?_)
     all_goals refine k_rd ((y.1-1,x62.2.1,(y.2.2++x32.2.2)++x62.2.2)) ?_ (hw1:=λ w hw=>(hw.subF famF_sw3).z4);·exact⟨by show y.1-1<path.length;omega,((hy.trans h32).trans h62).weak h62.go (nn0 _)⟩
  ·all_goals refine k_exit rfl ?_
   all_goals refine k_et Tryz.results220 (λ w hw=>?_);exact⟨(y.2.1,y.2.2),rfl,hy.weak (by first|exact hy.go.stopped (by assumption)|(have e0:y.1=0:=by omega);(have g0:=hy.go);rw[e0] at g0;exact g0) (nn0 _),hw.z0⟩
end
end
end Go.Proofs.YtdnklbipddigbaaGreat
namespace Go.Ct
open Go Go.RowKit
section
theorem o_maxN{P:Program}{S:List (Nat×Value)}{G:World->Prop}{d:Nat}{ty t t':TypeId}{pos:String}{af:Array Edge}{gd:Option (Nat×Bool)}{x y:Operand}{l:Nat}(hx:ev S x=.int .i64 ((l:Int)-1))(hy:ev S y=.int .i64 0):Quiet P S G ⟨some d,.call {callee:=.builtin .max,args := #[x,y],argTypes := #[t,t']},ty,pos,af,gd⟩ (.int .i64 ((l-1:Nat):Int)):=⟨λ w _=>by
 have e:(if(0:Int)>(l:Int)-1 then 0 else(l:Int)-1)=((l-1:Nat):Int):=by split<;>omega
 simp[execOp,resolve,invoke,builtin,Builtin.max_,Builtin.max2,hx,hy,e]⟩
end
end Go.Ct
namespace Go.Proofs.YtdnklbipddigbaaGreat
open Go Go.RowKit Go.Ct
section
section
variable{k:Cl}{bx bm:Nat}{x:XS}{dn:Bool}{rs:Rs}{D:List Nat}{A:Fr}{w:World}{g:Gx}
set_option maxRecDepth 100000 in
set_option maxHeartbeats 2000000 in
theorem drop_c(hg:g.Ok){m:Nat}(K:Rs->Tr)(n:Nat)(hn:n<=1073741824)(hm:m<18446744073709551616)(em:k.mask=(m:Int))(ek:k.key.size<=64)(ht:k.t.root<=9223372036854775807)(hA:∀f∈famF x.L,f∈A)(go:Go' g x (dropT k (hsK k.key m) K n))(ok:x.Ok)(hs:SF w D (xH k bx bm x dn rs) A [] (xW x) w):Calls Tryz.prog 178 #[.pointer (some ⟨bx,0,none⟩)] w λ e w'=>∃q:Rs×XS×List NdV,e=.returned (.agg ⟨q.1.cells⟩)/\Nx g x q.2.1 q.2.2 (K q.1) 0/\SF w D (xH k bx bm q.2.1 dn rs) [] (famF q.2.2) (xW q.2.1) w':=by
 refine enter Tryz.func178 Tryz.ntmps178 rfl rfl (xOpen2 hs) ?_;simp only[mkS];refine J0 ?_;refine j_alloc (λ x2=>?_);refine J80 ?_;refine k_joinG [3,4,12,13,14,15,16,17,18,19,20,21,22,23,24,25,26,27] (λ j:Nat=>[(3,.pointer (some ⟨j,0,none⟩)),(4,.int .u64 (((hsK k.key m):Nat):Int))]) (λ _=>True) (λ j=>[(j,.cells ⟨[.int .i64 k.t.root,.bool k.t.ro]⟩ 35 (0,0)),(x2,.cells ⟨Rs.zero.cells⟩ 68 (0,0)),(bx,xO k bm x dn rs),(bm,xM x)]) (λ _=>[]) (λ _=>xW x) (by decide) (λ _=>by exact rfl) ?_ (λ j f hx=>?_)
 ·refine k_drawF (.one 0 [] (.one 1 [] (.one 2 [] (.one 3 [] (.one 4 [] (.one 5 [] (.one 6 [] (.one 7 [] (.one 8 [] (.one 9 [] (.one 10 [] (.one 11 [] (.one 12 [] (.one 13 [] (.one 14 [] (.two 15 [4] (.one 16 [4,9,14] (.one 17 [] (.one 18 [] .nil))) 0 [] (.two 16 [4,9,14] (.one 15 [4] (.one 17 [] (.one 18 [] .nil))) 0 [] .nil))))))))))))))))) ?_;refine Kb8 ?_;refine r_ownQ (i:=4) (hq:=(o_loadPart (k:=2) (vs:=[.int .i64 k.t.root,.bool k.t.ro]) rf atT ag1 rfl rfl)) (h:=?_);refine J63 ?_;refine J63 ?_;refine r_many (E:=[15,16]) (by decide +kernel) ((.cons ?_ (.cons ?_ .nil)));·refine s_own (i:=15) (hq:=(cV (hc:=λ w1 hw=>refHashI_c em hm ek w1))) (hfire:=(λ _=>by(refine FireAll.cons (by exact a_own (hq:=o_loadPart (k:=2) (vs:=[.int .i64 k.t.root,.bool k.t.ro]) rf atT ag1 rfl rfl)) ?_;exact FireAll.nil))) (h:=λ x27=>?_);refine r_alloc (hfire:=(λ _=>by((repeat (first|exact FireAll.nil|refine FireAll.cons (by first|exact a_own (hq:=o_loadPart (k:=2) (vs:=[.int .i64 k.t.root,.bool k.t.ro]) rf atT ag1 rfl rfl)|exact a_load) ?_));done))) (h:=λ x3=>?_);refine J40 ?_;refine k_rj (x3) ?_;·trivial
  ·refine s_alloc (i:=16) (hfire:=(λ _=>by((repeat (first|exact FireAll.nil|refine FireAll.cons (by first|exact a_own (hq:=o_loadPart (k:=2) (vs:=[.int .i64 k.t.root,.bool k.t.ro]) rf atT ag1 rfl rfl)|exact a_load) ?_));done))) (h:=λ x3=>?_);refine r_own (i:=15) (hq:=(cV (hc:=λ w1 hw=>refHashI_c em hm ek w1))) (hfire:=(λ _=>by(refine FireAll.cons (by exact a_own (hq:=o_loadPart (k:=2) (vs:=[.int .i64 k.t.root,.bool k.t.ro]) rf atT ag1 rfl rfl)) ?_;exact FireAll.nil))) (h:=λ x27=>?_);refine J40 ?_;refine k_rj (x3) ?_;·trivial
 dsimp only[mkU,List.map,List.cons_append,List.nil_append];refine J62 ?_;refine k_lp [5,6,7,8,9,10,11,28,29,30,31,32,33,34,35,36,37,38,39,40,41,42,43,44,45,46,47,48,49,50,51,52,53,54,55,56,57,58,59,60,61,62,63,64,65,66,67,68,69,70,71,72,73,74,75,76,77,78,79,80,81,82,83,84,85,86,87,88,89,90,91,92,93,94,95,96,97,98,99,100,101,102,103,104,105,106,107,108,109,110,111,112,113] (λ y:Nat×XS×List NdV=>[]) (λ y=>y.1<=n/\Nx g x y.2.1 y.2.2 (dropT k (hsK k.key m) K y.1) 0) (λ y=>[(j,.cells ⟨[.int .i64 k.t.root,.bool k.t.ro]⟩ 35 (0,0)),(x2,.cells ⟨Rs.zero.cells⟩ 68 (0,0)),(bx,xO k bm y.2.1 dn rs),(bm,xM y.2.1)]) (λ y=>famF y.2.2) (λ y=>xW y.2.1) (λ y=>y.1) ((n,x,[])) (⟨Nat.le_refl n,Nx.start go ok |>.weak go (nn0 _)⟩) (λ y f hx=>?_) (hw0:=λ w hw=>hw);dsimp only[mkU,List.map,List.cons_append,List.nil_append];obtain⟨hyn,hy⟩:=hx;refine k_seq ?_;refine J26 ?_;refine J33 ?_;refine kif (λ c32=>?_) (λ c32=>?_)
 ·obtain⟨fu,hfu,gx⟩:=Go'.fuel (T:=λ q=>dropT k (hsK k.key m) K q) hy.go (by simpa using c32) rfl hg;refine k_skip ?_;refine k_block ?_;refine J2 ?_;refine j_load ?_;refine j_ownF (cM (hs:=xH k bx bm y.2.1 dn rs) (os:=xW y.2.1) (hc:=λ w hs=>help_c hg k.t _ ht gx hy.ok hs)) (λ x35 h35=>?_);refine J73 ?_;refine j_ownF (cM (hs:=xH k bx bm x35.2.1 dn rs) (os:=xW x35.2.1) (hc:=λ w hs=>node_c x35.1 _ h35.bd h35.go h35.ok hs)) (λ x38 h38=>?_);refine j_field ?_;refine Ka7 ?_;refine j_own (lSFO (c:=1) (sz:=1) rfl (λ _=>o_buildSlice (cs:=refsC [x35.1]) elem_ref pa1 rfl rfl rfl rfl rfl)) (λ x41=>?_);refine J1 ?_;refine J69 ?_;refine k_lp [5,7,8,9,10,11,42,43,44,45,46,47,48,49,50,51,52,53,54,55,56,57,58,59,60,61,62,63,64,65,66,67,68,69,70,71,72,73,74,75,76,77,78,79,80,81,82,83,84,85,86,87,88,89,90,91,92,93,94,95,96,97,98,99,100,101,102,103,104,105,106,107,108,109,110,111,112,113] (λ z:Nat×Int×List Int×XS×List NdV×Option Addr×Nat=>[(5,.int .i64 z.2.1),(7,.slice z.2.2.2.2.2.1 z.2.2.1.length z.2.2.2.2.2.2),(8,.int .i64 (((fu-z.1):Nat):Int))]) (λ z=>z.1<=fu/\Nx g x z.2.2.2.1 z.2.2.2.2.1 (dropIn k (hsK k.key m) K (dropT k (hsK k.key m) K fu) (nodeV x35.2.1.L x35.1).nd.gen z.1 z.2.1 z.2.2.1 (fu-z.1)) z.2.1/\(∀v∈z.2.2.1,v<=z.2.2.2.1.L.length)/\z.2.2.1.length=(fu-z.1)+1) (λ z=>[(j,.cells ⟨[.int .i64 k.t.root,.bool k.t.ro]⟩ 35 (0,0)),(x2,.cells ⟨Rs.zero.cells⟩ 68 (0,0)),(bx,xO k bm z.2.2.2.1 dn rs),(bm,xM z.2.2.2.1)]) (λ z=>famF z.2.2.2.2.1) (λ z=>List.cons ⟨z.2.2.2.2.2.1,refsC z.2.2.1,z.2.2.2.2.2.2,28,1⟩ (xW z.2.2.2.1)) (λ z=>z.1) ((fu,x35.1,[x35.1],x35.2.1,y.2.2++x35.2.2,some ⟨x41,0,none⟩,1)) (⟨Nat.le_refl fu,(hy.trans h35).weak (show Go' g x35.2.1 (dropIn k (hsK k.key m) K (dropT k (hsK k.key m) K fu) (nodeV x35.2.1.L x35.1).nd.gen fu x35.1 [x35.1] (fu-fu)) from(Nat.sub_self fu).symm▸h38.1) h35.bd,λ v hv=>by rw[List.mem_singleton.1 hv];exact h35.bd,by show 1=fu-fu+1;omega⟩) (λ z f hx=>?_) (hw0:=λ w hw=>(hw.subF famF_swap).z4);dsimp only[mkU,List.map,List.cons_append,List.nil_append];obtain⟨hzf,hz,hzp,hzl⟩:=hx;refine k_seq ?_;refine J26 ?_;refine J33 ?_;refine kif (λ c46=>?_) (λ c46=>?_)
  ·obtain⟨fu2,hfu2,gz⟩:=Go'.fuel (T:=λ q=>(dropIn k (hsK k.key m) K (dropT k (hsK k.key m) K fu) (nodeV x35.2.1.L x35.1).nd.gen q z.2.1 z.2.2.1 (fu-z.1))) hz.go (by simpa using c46) rfl hg;have hpd:∀j,z.2.2.1.getD j 0<=z.2.2.2.1.L.length:=λ j=>getD_le hzp j
   have hpl:=hpd ((fu-z.1)-1);refine J37 ?_;refine J2 ?_;refine Kb1 ?_;refine j_ownF (cM (hs:=xH k bx bm z.2.2.2.1 dn rs) (os:=xW z.2.2.2.1) (hc:=λ w hs=>read_c hg k.t z.2.1 _ ht hz.bd gz hz.ok hs)) (λ x52 h52=>?_);have hl52:=h52.len;have hb52:=h52.bd;have hbz:=hz.bd;have hch:=Ch.nx h52 hz.ch;refine J27 ?_;refine Kc3 ?_;refine kif (λ c56=>?_) (λ c56=>?_)
   ·refine J84 ?_;refine k_rd (by exact(fu,x52.2.1,(z.2.2.2.2.1++x52.2.2))) ?_ (hw1:=λ w hw=>by exact(hw.subF famF_swap).z4)
    ·first
     | exact⟨by show fu<=n;omega,(((hz.trans h52).trans h81).trans h107).weak g4 (nn0 _)⟩
     | exact⟨by show fu<=n;omega,((hz.trans h52).trans h81).weak g3 (nn0 _)⟩
     | exact⟨by show fu<=n;omega,((hz.trans h52).trans h81).weak (h81.go.stopped (by assumption)) (nn0 _)⟩
     | exact⟨by show fu<=n;omega,((hz.trans h52).trans h74).weak h74.go (nn0 _)⟩
     | exact⟨by show fu<=n;omega,(hz.trans h52).weak (h52.go.stopped (by assumption)) (nn0 _)⟩
     | exact⟨by show fu<=n;omega,hz.weak (hz.go.stopped (by simpa using c46)) (nn0 _)⟩
   ·refine J16 ?_;refine J11 ?_;refine j_ownF (cM (hs:=xH k bx bm x52.2.1 dn rs) (os:=xW x52.2.1) (hc:=λ w hs=>node_c x52.1 _ h52.bd h52.go h52.ok hs)) (λ x59 h59=>?_);refine j_field ?_;refine J50 ?_;refine kif (λ c61=>?_) (λ c61=>?_)
    ·have g1:=h59.1.to (λ _=>if_pos c61)
     refine k_seq ?_;refine k_dp [(0,[]),(1,[]),(2,[]),(3,[]),(4,[]),(8,[]),(9,[]),(10,[]),(11,[]),(5,[1]),(6,[]),(7,[]),(12,[])] ?_;refine Kd5 ?_;refine r_dec ?_;refine J17 ?_;refine r_move ?_;refine r_dec ?_;((refine r_own (i:=5) (hq:=(loud_of_quiet (o_maxN (l:=(fu-z.1)) rf rf))) (h:=λ x67=>?_)));refine r_ownQ (i:=6) (hq:=(o_indexR (lst:=z.2.2.1) (k:=(fu-z.1)-1) rf rf sl1 on1 (.own .head) (by omega) (by omega))) (h:=?_);refine r_ownQ (i:=7) (hq:=(o_loadR (lst:=z.2.2.1) (q:=(fu-z.1)-1) rf on1 (.own .head) (by omega))) (h:=?_);refine r_ownF (i:=12) (hq:=(cM (hs:=xH k bx bm x52.2.1 dn rs) (os:=xW x52.2.1) (A0:=famF x52.2.1.L) (hA:=Ch.all hch hA) (hc:=λ w hs=>clean_c hg k.t (z.2.2.1.getD ((fu-z.1)-1) 0) z.2.1 (hsK_lt k.key m) ((((fu-z.1):Nat):Int)-1) _ ht (by omega) (by omega) (λ f hf=>hf) g1 h52.ok hs))) (h:=λ x74 h74=>?_);refine r_fin ?_;refine J84 ?_;refine k_rd (by exact(fu,x74.2.1,((z.2.2.2.2.1++x52.2.2)++x74.2.2))) ?_ (hw1:=λ w hw=>by exact(hw.subF famF_sw3).z4)
     ·first
      | exact⟨by show fu<=n;omega,(((hz.trans h52).trans h81).trans h107).weak g4 (nn0 _)⟩
      | exact⟨by show fu<=n;omega,((hz.trans h52).trans h81).weak g3 (nn0 _)⟩
      | exact⟨by show fu<=n;omega,((hz.trans h52).trans h81).weak (h81.go.stopped (by assumption)) (nn0 _)⟩
      | exact⟨by show fu<=n;omega,((hz.trans h52).trans h74).weak h74.go (nn0 _)⟩
      | exact⟨by show fu<=n;omega,(hz.trans h52).weak (h52.go.stopped (by assumption)) (nn0 _)⟩
      | exact⟨by show fu<=n;omega,hz.weak (hz.go.stopped (by simpa using c46)) (nn0 _)⟩
    ·have g1:=h59.1.to (λ _=>if_neg c61)
     refine J58 ?_;refine Kf8 ?_;refine j_ownF (cM (hs:=xH k bx bm x52.2.1 dn rs) (os:=xW x52.2.1) (A0:=famF x52.2.1.L) (hA:=Ch.all hch hA) (hc:=λ w hs=>dropLeaf_c hg z.2.1 x52.1 (hsK_lt k.key m) (fu-z.1) (by omega) _ ht (by omega) (by omega) (λ f hf=>hf) g1 h52.ok hs)) (λ x81 h81=>?_);have hl81:=h81.len;have hch2:=Ch.nx h81 hch;refine j_move ?_;refine l_quiet (o_extr rf rfl) rfl ?_;refine l_quiet (o_extr rf rfl) rfl ?_;refine j_alloc (λ x10=>?_);refine j_store (λ _=>?_);refine J27 ?_;refine Kc3 ?_;refine kif (λ c87=>?_) (λ c87=>?_)
     ·refine J84 ?_;refine k_rd (by exact(fu,x81.2.2.1,((z.2.2.2.2.1++x52.2.2)++x81.2.2.2))) ?_ (hw1:=λ w hw=>by exact(hw.subF famF_sw3).z4)
      ·first
       | exact⟨by show fu<=n;omega,(((hz.trans h52).trans h81).trans h107).weak g4 (nn0 _)⟩
       | exact⟨by show fu<=n;omega,((hz.trans h52).trans h81).weak g3 (nn0 _)⟩
       | exact⟨by show fu<=n;omega,((hz.trans h52).trans h81).weak (h81.go.stopped (by assumption)) (nn0 _)⟩
       | exact⟨by show fu<=n;omega,((hz.trans h52).trans h74).weak h74.go (nn0 _)⟩
       | exact⟨by show fu<=n;omega,(hz.trans h52).weak (h52.go.stopped (by assumption)) (nn0 _)⟩
       | exact⟨by show fu<=n;omega,hz.weak (hz.go.stopped (by simpa using c46)) (nn0 _)⟩
     ·refine J16 ?_;refine J2 ?_;refine J50 ?_;refine kif (λ c89=>?_) (λ c89=>?_)
      ·have g2:=h81.go.to (λ _=>if_pos (by assumption))
       refine Ke6 ?_;refine kif (λ c92=>?_) (λ c92=>?_)
       ·have g3:=g2.to (λ _=>if_pos (by assumption))
        refine J20 ?_;refine J35 ?_;refine j_ownF (cM (hs:=xH k bx bm x81.2.2.1 dn rs) (os:=xW x81.2.2.1) (A0:=(List.cons (z.2.2.2.2.2.1,refsC z.2.2.1) (famF x81.2.2.1.L))) (hA:=HasAll.cons (.inr (.inr (.inr ⟨_,.head _,rfl,rfl⟩))) (Ch.all hch2 hA)) (hc:=λ w hs=>xup_c hg (path:=z.2.2.1) (hsK_lt k.key m) _ ht (λ v hv=>by have:=hzp v hv;omega) (by omega) (by omega) (λ f hf=>List.mem_cons_of_mem _ hf) (List.mem_cons_self ..) g3 h81.ok hs)) (λ x96 h96=>?_);refine l_nil ?_;refine J25 ?_;refine J5 ?_;refine k_rt Tryz.results178 (λ w hw=>?_)
        first
        | exact⟨(x81.1,x96.1,(((z.2.2.2.2.1++x52.2.2)++x81.2.2.2)++x96.2)),rfl,(((hz.trans h52).trans h81).trans h96).weak h96.go (nn0 _),(hw.subF famF_sw4).z0⟩
        | exact⟨(x81.1,x81.2.2.1,((z.2.2.2.2.1++x52.2.2)++x81.2.2.2)),rfl,((hz.trans h52).trans h81).weak g3 (nn0 _),(hw.subF famF_sw3).z0⟩
       ·have g3:=g2.to (λ _=>if_neg (by assumption))
        refine Kc5 ?_;refine J5 ?_;refine k_rt Tryz.results178 (λ w hw=>?_)
        first
        | exact⟨(x81.1,x81.2.2.1,((z.2.2.2.2.1++x52.2.2)++x81.2.2.2)),rfl,((hz.trans h52).trans h81).weak g3 (nn0 _),(hw.subF famF_sw3).z0⟩
        | exact⟨(Rs.zero,y.2.1,y.2.2),rfl,hy.weak (hy.go.stopped (by simpa using c32)) (nn0 _),hw.z0⟩
      ·have g2:=h81.go.to (λ _=>if_neg (by assumption))
       refine J16 ?_;refine J2 ?_;refine J50 ?_;refine kif (λ c99=>?_) (λ c99=>?_)
       ·have g3:=g2.to (λ _=>if_pos (by assumption))
        refine J84 ?_;refine k_rd (by exact(fu,x81.2.2.1,((z.2.2.2.2.1++x52.2.2)++x81.2.2.2))) ?_ (hw1:=λ w hw=>by exact(hw.subF famF_sw3).z4)
        ·first
         | exact⟨by show fu<=n;omega,(((hz.trans h52).trans h81).trans h107).weak g4 (nn0 _)⟩
         | exact⟨by show fu<=n;omega,((hz.trans h52).trans h81).weak g3 (nn0 _)⟩
         | exact⟨by show fu<=n;omega,((hz.trans h52).trans h81).weak (h81.go.stopped (by assumption)) (nn0 _)⟩
         | exact⟨by show fu<=n;omega,((hz.trans h52).trans h74).weak h74.go (nn0 _)⟩
         | exact⟨by show fu<=n;omega,(hz.trans h52).weak (h52.go.stopped (by assumption)) (nn0 _)⟩
         | exact⟨by show fu<=n;omega,hz.weak (hz.go.stopped (by simpa using c46)) (nn0 _)⟩
       ·have g3:=g2.to (λ _=>if_neg (by assumption))
        refine J16 ?_;refine J11 ?_;refine Kf8 ?_;refine j_own (cV (hc:=λ w1 hw=>refSliceA_c (hsK_lt k.key m) (((fu-z.1):Nat):Int) w1)) (λ x105=>?_);refine j_move ?_;refine j_ownF (cM (hs:=xH k bx bm x81.2.2.1 dn rs) (os:=xW x81.2.2.1) (A0:=famF x81.2.2.1.L) (hA:=Ch.all hch2 hA) (hc:=λ w hs=>below_c hg z.2.1 x52.1 (slI (hsK k.key m) (((fu-z.1):Nat):Int)) (nodeV x35.2.1.L x35.1).nd.gen _ ht (by omega) (by omega) (λ f hf=>hf) g3 h81.ok hs)) (λ x107 h107=>?_);refine Ka7 ?_;refine J50 ?_;refine kif (λ c109=>?_) (λ c109=>?_)
        ·have g4:=h107.go.to (λ _=>if_pos (by assumption))
         refine J84 ?_;refine k_rd (by exact(fu,x107.2.1,(((z.2.2.2.2.1++x52.2.2)++x81.2.2.2)++x107.2.2))) ?_ (hw1:=λ w hw=>by exact(hw.subF famF_sw4).z4)
         ·first
          | exact⟨by show fu<=n;omega,(((hz.trans h52).trans h81).trans h107).weak g4 (nn0 _)⟩
          | exact⟨by show fu<=n;omega,((hz.trans h52).trans h81).weak g3 (nn0 _)⟩
          | exact⟨by show fu<=n;omega,((hz.trans h52).trans h81).weak (h81.go.stopped (by assumption)) (nn0 _)⟩
          | exact⟨by show fu<=n;omega,((hz.trans h52).trans h74).weak h74.go (nn0 _)⟩
          | exact⟨by show fu<=n;omega,(hz.trans h52).weak (h52.go.stopped (by assumption)) (nn0 _)⟩
          | exact⟨by show fu<=n;omega,hz.weak (hz.go.stopped (by simpa using c46)) (nn0 _)⟩
        ·have g4:=h107.go.to (λ _=>if_neg (by assumption))
         refine k_skip ?_;refine J76 ?_;refine j_own (lSFO (c:=1) (sz:=1) rfl (λ _=>o_buildSlice (cs:=refsC [x107.1]) elem_ref pa1 rfl rfl rfl rfl rfl)) (λ x112=>?_);(refine j_append (λ x113=>?_);try (refine l_fact (λ h113=>?_)));refine J1 ?_;refine Kb5 ?_;refine k_rd ((z.1-1,x107.1,z.2.2.1++[x107.1],x107.2.1,(((z.2.2.2.2.1++x52.2.2)++x81.2.2.2)++x107.2.2),x113.1,x113.2)) ?_ (hw1:=λ w hw=>(hw.subF famF_sw4).z4)
         ·have e1:z.1-1=fu2:=by omega
          have e2:(fu-z.1)+1=fu-fu2:=by omega
          refine⟨by show z.1-1<=fu;omega,((((hz.trans h52).trans h81).trans h107)).weak ?_ h107.bd,λ v hv=>?_,by show(z.2.2.1++[x107.1]).length=fu-(z.1-1)+1;rw[List.length_append,List.length_singleton];omega⟩;·show Go' g x107.2.1 (dropIn k (hsK k.key m) K (dropT k (hsK k.key m) K fu) (nodeV x35.2.1.L x35.1).nd.gen (z.1-1) x107.1 (z.2.2.1++[x107.1]) (fu-(z.1-1)));rw[e1,<- e2];exact g4
          ·show v<=(x107.2.1.L.length:Int);have hl107:=h107.len;rcases List.mem_append.1 hv with hv|hv;·have:=hzp v hv;omega
           ·rw[List.mem_singleton.1 hv];exact h107.bd
  ·refine J84 ?_;refine k_rd (by exact(fu,z.2.2.2.1,z.2.2.2.2.1)) ?_ (hw1:=λ w hw=>by exact hw.z4)
   ·first
    | exact⟨by show fu<=n;omega,(((hz.trans h52).trans h81).trans h107).weak g4 (nn0 _)⟩
    | exact⟨by show fu<=n;omega,((hz.trans h52).trans h81).weak g3 (nn0 _)⟩
    | exact⟨by show fu<=n;omega,((hz.trans h52).trans h81).weak (h81.go.stopped (by assumption)) (nn0 _)⟩
    | exact⟨by show fu<=n;omega,((hz.trans h52).trans h74).weak h74.go (nn0 _)⟩
    | exact⟨by show fu<=n;omega,(hz.trans h52).weak (h52.go.stopped (by assumption)) (nn0 _)⟩
    | exact⟨by show fu<=n;omega,hz.weak (hz.go.stopped (by simpa using c46)) (nn0 _)⟩
 ·refine k_exit rfl ?_;refine Kf3 ?_;refine k_rt Tryz.results178 (λ w hw=>?_);exact⟨(Rs.zero,y.2.1,y.2.2),rfl,hy.weak (hy.go.stopped (by simpa using c32)) (nn0 _),hw.z0⟩
end
end
end Go.Proofs.YtdnklbipddigbaaGreat
namespace Go.Ct
open Go Go.RowKit
section
theorem nvB_empty{n c:Nat}:NvB n c {(({Nd.zero with kind:=3}:Nd).c [] []) with main:=0,prev:=0,status:=0}:=⟨nn0 _,nn0 _,nn0 _,(λ r hr=>nomatch hr),nn0 _,nn0 _,nn0 _,⟨0,rfl,by decide⟩,⟨0,rfl,by decide⟩⟩
theorem famF_sw5{a b c d e:List NdV}:∀f∈famF ((((a++b)++c)++d)++e),f.2=[]∨f∈famF e++(famF d++(famF c++(famF b++famF a))):=λ f hf=>by
 simp only[famF_append,List.mem_append] at hf ⊢;rcases hf with(((h|h)|h)|h)|h;·exact .inr (.inr (.inr (.inr (.inr h))))
 ·exact .inr (.inr (.inr (.inr (.inl h))))
 ·exact .inr (.inr (.inr (.inl h)))
 ·exact .inr (.inr (.inl h))
 ·exact .inr (.inl h)
theorem famF_sw6{a b c d e i:List NdV}:∀f∈famF (((((a++b)++c)++d)++e)++i),f.2=[]∨f∈famF i++(famF e++(famF d++(famF c++(famF b++famF a)))):=λ f hf=>by
 simp only[famF_append,List.mem_append] at hf ⊢;rcases hf with((((h|h)|h)|h)|h)|h;·exact .inr (.inr (.inr (.inr (.inr (.inr h)))))
 ·exact .inr (.inr (.inr (.inr (.inr (.inl h)))))
 ·exact .inr (.inr (.inr (.inr (.inl h))))
 ·exact .inr (.inr (.inr (.inl h)))
 ·exact .inr (.inr (.inl h))
 ·exact .inr (.inl h)
theorem Nx.nil{g:Gx}{x x1 x2:XS}{N:List NdV}{t1 t2:Tr}{b1 b2:Int}(h1:Nx g x x1 N t1 b1)(h2:Nx g x1 x2 [] t2 b2):Nx g x x2 N t2 b2:=⟨h2.go,h2.ok,by rw[h2.ext,h1.ext,List.append_nil],Nat.le_trans h1.lc h2.lc,h2.bd⟩
end
end Go.Ct
namespace Go.Proofs.YtdnklbipddigbaaGreat
open Go Go.RowKit Go.Ct
section
section
variable{k:Cl}{bx bm:Nat}{x:XS}{dn:Bool}{rs:Rs}{D:List Nat}{A:Fr}{w:World}{g:Gx}
theorem copied_c(hg:g.Ok)(m:Int)(K:Rs->Tr)(hm:m<=x.L.length)(go:Go' g x (copyT m K))(ok:x.Ok)(hs:SF w D (xH k bx bm x dn rs) A [] (xW x) w):Calls Tryz.prog 222 #[.pointer (some ⟨bx,0,none⟩),.int .i64 m] w λ e w'=>∃q:Rs×XS×List NdV,e=.returned (.agg ⟨q.1.cells⟩)/\Nx g x q.2.1 q.2.2 (K q.1) 0/\SF w D (xH k bx bm q.2.1 dn rs) [] (famF q.2.2) (xW q.2.1) w':=by refine enter Tryz.func222 Tryz.ntmps222 rfl rfl (xOpen2 hs) ?_;simp only[mkS];refine J0 ?_;refine j_alloc (λ x4=>?_);refine l_nil ?_;refine J2 ?_;refine j_ownF (cM (hs:=xH k bx bm x dn rs) (os:=xW x) (hc:=λ w hs=>gen_c hg _ go ok hs)) (λ x7 h7=>?_);refine J73 ?_;refine j_move ?_;refine j_build ?_;refine j_move ?_;refine j_ownF (cM (hs:=xH k bx bm x7.2 dn rs) (os:=xW x7.2) (A0:=[(none,refsC []),(none,prC [])]) (hc:=λ w hs=>alloc_c hg (n:={Nd.zero with kind:=2,gen:=x7.1}) (xs:=[]) (ys:=[]) m _ rfl rfl (by decide) (Nat.zero_le _) nvB_inode (by have:=h7.len;omega) h7.go h7.ok hs)) (λ x13 h13=>?_);refine j_ownF (cM (hs:=xH k bx bm x13.2.1 dn rs) (os:=xW x13.2.1) (hc:=λ w hs=>cell_c hg x13.1 _ h13.bd h13.go h13.ok hs)) (λ x14 h14=>?_);refine j_build ?_;refine J52 ?_;refine k_rt Tryz.results222 (λ w hw=>?_);exact⟨(triR x14.1 false,x14.2,x13.2.2),rfl,⟨h14.go,h14.ok,by rw[h14.ext,h13.ext,h7.ext,List.append_nil,List.append_nil],Nat.le_trans h7.lc (Nat.le_trans h13.lc h14.lc),nn0 _⟩,by rw[List.append_nil] at hw;exact hw.z0⟩
set_option maxRecDepth 100000 in
theorem snapshot_c(hg:g.Ok)(fz:Bool)(K:Rs->Tr)(n:Nat)(ht:k.t.root<=9223372036854775807)(go:Go' g x (snap0T k.t fz K n))(ok:x.Ok)(hs:SF w D (xH k bx bm x dn rs) A [] (xW x) w):Calls Tryz.prog 179 #[.pointer (some ⟨bx,0,none⟩),.bool fz] w λ e w'=>∃q:Rs×XS×List NdV,e=.returned (.agg ⟨q.1.cells⟩)/\Nx g x q.2.1 q.2.2 (K q.1) 0/\SF w D (xH k bx bm q.2.1 dn rs) [] (famF q.2.2) (xW q.2.1) w':=by
 refine enter Tryz.func179 Tryz.ntmps179 rfl rfl (xOpen2 hs) ?_;simp only[mkS];refine J0 ?_;refine j_alloc (λ x4=>?_);refine l_nil ?_;refine J45 ?_;refine j_fieldAddr ?_;refine l_quiet (o_loadPart (k:=2) (vs:=[.int .i64 k.t.root,.bool k.t.ro]) rf atT ag1 rfl rfl) rfl ?_;refine j_alloc (λ x5=>?_);refine J5 ?_;refine J72 ?_;refine l_nil ?_;refine kif (λ c16=>?_) (λ c16=>?_)
 ·have g1:=go.to (λ _=>if_pos c16)
  refine J2 ?_;refine J3 ?_;refine j_ownF (cM (hs:=xH k bx bm x dn rs) (os:=xW x) (hc:=λ w hs=>load_c hg k.t.root _ ht g1 ok hs)) (λ x20 h20=>?_);refine Ke3 ?_;refine l_nil ?_;refine kif (λ c21=>?_) (λ c21=>?_)
  ·have g2:=h20.go.to (λ _=>if_pos c21)
   refine J11 ?_;refine j_ownF (cM (hs:=xH k bx bm x20.2 dn rs) (os:=xW x20.2) (hc:=λ w hs=>cell_c hg x20.1 _ h20.bd g2 h20.ok hs)) (λ x24 h24=>?_);refine j_build ?_;refine J52 ?_;refine k_rt Tryz.results179 (λ w hw=>?_);exact⟨(triR x24.1 true,x24.2,[]),rfl,(h20.nil h24).weak h24.go (nn0 _),hw.finH (hF:=by exact FSub.nil)⟩
  ·have g2:=h20.go.to (λ _=>if_neg (by rw[c21];decide))
   refine J58 ?_;refine Kb1 ?_;refine j_ownF (cM (hs:=xH k bx bm x20.2 dn rs) (os:=xW x20.2) (hc:=λ w hs=>read_c hg k.t x20.1 _ ht h20.bd g2 h20.ok hs)) (λ x31 h31=>?_);refine j_ownF (cM (hs:=xH k bx bm x31.2.1 dn rs) (os:=xW x31.2.1) (hc:=λ w hs=>copied_c hg x31.1 _ h31.bd h31.go h31.ok hs)) (λ x32 h32=>?_);refine J5 ?_;refine k_rt Tryz.results179 (λ w hw=>?_);exact⟨(x32.1,x32.2.1,x31.2.2++x32.2.2),rfl,(h20.trans h31).trans h32,by rw[List.append_nil] at hw;exact(hw.subF famF_swap).z0⟩
 ·have g1:=go.to (λ _=>if_neg (by rw[c16];decide))
  refine J37 ?_;refine k_lp [7,8,9,33,34,35,36,37,38,39,40,41,42,43,44,45,46,47,48,49,50,51,52,53,54,55,56,57,58,59,60,61,62,63,64,65,66] (λ y:Nat×XS×List NdV=>[]) (λ y=>Nx g x y.2.1 y.2.2 (snapT k.t fz K y.1) 0) (λ y=>[(x5,.cells ⟨[.int .i64 k.t.root,.bool k.t.ro]⟩ 35 (0,0)),(x4,.cells ⟨Rs.zero.cells⟩ 68 (0,0)),(bx,xO k bm y.2.1 dn rs),(bm,xM y.2.1)]) (λ y=>famF y.2.2) (λ y=>xW y.2.1) (λ y=>y.1) ((n,x,[])) (Nx.start g1 ok) (λ y f hx=>?_) (hw0:=λ w hw=>hw);dsimp only[mkU,List.map,List.cons_append,List.nil_append];refine k_seq ?_;refine J26 ?_;refine J33 ?_;refine kif (λ c37=>?_) (λ c37=>?_)
  ·obtain⟨fu,hfu,gx⟩:=Go'.fuel (T:=λ q=>snapT k.t fz K q) hx.go (by simpa using c37) rfl hg;refine k_skip ?_;refine k_block ?_;refine J2 ?_;refine j_load ?_;refine j_ownF (cM (hs:=xH k bx bm y.2.1 dn rs) (os:=xW y.2.1) (hc:=λ w hs=>help_c hg k.t _ ht gx hx.ok hs)) (λ x40 h40=>?_);refine Ka7 ?_;refine Kb1 ?_;refine j_ownF (cM (hs:=xH k bx bm x40.2.1 dn rs) (os:=xW x40.2.1) (hc:=λ w hs=>read_c hg k.t x40.1 _ ht h40.bd h40.go h40.ok hs)) (λ x44 h44=>?_);refine Ka7 ?_;refine j_ownF (cM (hs:=xH k bx bm x44.2.1 dn rs) (os:=xW x44.2.1) (hc:=λ w hs=>gen_c hg _ h44.go h44.ok hs)) (λ x46 h46=>?_);have hl44:=h44.len;have hl46:=h46.len;have hb40:=h40.bd;have hb44:=h44.bd;refine J27 ?_;refine k_seq ?_;refine k_dp [(0,[]),(1,[]),(2,[]),(3,[]),(4,[]),(5,[]),(6,[]),(7,[]),(8,[1]),(9,[]),(10,[])] ?_;refine Kd5 ?_;refine J17 ?_;refine r_build ?_;refine r_move ?_;refine r_ownF (i:=8) (hq:=(cM (hs:=xH k bx bm x46.2 dn rs) (os:=xW x46.2) (A0:=[(none,refsC []),(none,prC [])]) (hc:=λ w hs=>alloc_c hg (n:={Nd.zero with kind:=2,gen:=x46.1}) (xs:=[]) (ys:=[]) x44.1 _ rfl rfl (by decide) (Nat.zero_le _) nvB_inode (by omega) h46.go h46.ok hs))) (h:=λ x55 h55=>?_);refine r_ownF (i:=9) (hq:=(cM (hs:=xH k bx bm x55.2.1 dn rs) (os:=xW x55.2.1) (hc:=λ w hs=>rdcss_c hg k.t x40.1 x44.1 x55.1 _ ht (by have:=h55.len;omega) (by have:=h55.len;omega) h55.bd h55.go h55.ok hs))) (h:=λ x56 h56=>?_);have hl55:=h55.len;have hl56:=h56.len;have hall:=((((hx.trans h40).trans h44).nil h46).trans h55).trans h56;refine r_not ?_;refine r_fin ?_;refine kif (λ c57=>?_) (λ c57=>?_)
   ·have g3:=h56.go.to (λ _=>if_neg (by simpa using c57))
    refine k_exit rfl ?_;refine k_rd ((fu,x56.2.1,(((y.2.2++x40.2.2)++x44.2.2)++x55.2.2)++x56.2.2)) ?_ (hw1:=λ w hw=>(hw.subF famF_sw5).z4);·exact hall.weak g3 (nn0 _)
   ·have g3:=h56.go.to (λ _=>if_pos (by simpa using c57))
    refine J16 ?_;refine J2 ?_;refine l_nil ?_;refine kif (λ c58=>?_) (λ c58=>?_)
    ·have g4:=g3.to (λ _=>if_pos c58)
     refine J11 ?_;refine j_ownF (cM (hs:=xH k bx bm x56.2.1 dn rs) (os:=xW x56.2.1) (hc:=λ w hs=>cell_c hg x40.1 _ (by omega) g4 h56.ok hs)) (λ x61 h61=>?_);refine j_build ?_;refine J52 ?_;refine k_rt Tryz.results179 (λ w hw=>?_);exact⟨(triR x61.1 true,x61.2,(((y.2.2++x40.2.2)++x44.2.2)++x55.2.2)++x56.2.2),rfl,(hall.nil h61).weak h61.go (nn0 _),(hw.subF famF_sw5).z0⟩
    ·have g4:=g3.to (λ _=>if_neg (by rw[c58];decide))
     refine J58 ?_;refine j_ownF (cM (hs:=xH k bx bm x56.2.1 dn rs) (os:=xW x56.2.1) (hc:=λ w hs=>copied_c hg x44.1 _ (by omega) g4 h56.ok hs)) (λ x66 h66=>?_);refine J5 ?_;refine k_rt Tryz.results179 (λ w hw=>?_);exact⟨(x66.1,x66.2.1,((((y.2.2++x40.2.2)++x44.2.2)++x55.2.2)++x56.2.2)++x66.2.2),rfl,hall.trans h66,(hw.subF famF_sw6).z0⟩
  ·refine k_exit rfl ?_;refine Kf3 ?_;refine k_rt Tryz.results179 (λ w hw=>?_);exact⟨(Rs.zero,y.2.1,y.2.2),rfl,hx.weak (hx.go.stopped (by simpa using c37)) (nn0 _),hw.z0⟩
set_option maxRecDepth 100000 in
theorem clear_c(hg:g.Ok)(K:Rs->Tr)(n:Nat)(ht:k.t.root<=9223372036854775807)(go:Go' g x (clearT k.t K n))(ok:x.Ok)(hs:SF w D (xH k bx bm x dn rs) A [] (xW x) w):Calls Tryz.prog 180 #[.pointer (some ⟨bx,0,none⟩)] w λ e w'=>∃q:Rs×XS×List NdV,e=.returned (.agg ⟨q.1.cells⟩)/\Nx g x q.2.1 q.2.2 (K q.1) 0/\SF w D (xH k bx bm q.2.1 dn rs) [] (famF q.2.2) (xW q.2.1) w':=by
 refine enter Tryz.func180 Tryz.ntmps180 rfl rfl (xOpen2 hs) ?_;simp only[mkS];refine J0 ?_;refine j_alloc (λ x2=>?_);refine l_nil ?_;refine J45 ?_;refine j_fieldAddr ?_;refine l_quiet (o_loadPart (k:=2) (vs:=[.int .i64 k.t.root,.bool k.t.ro]) rf atT ag1 rfl rfl) rfl ?_;refine j_alloc (λ x3=>?_);refine J5 ?_;refine J62 ?_;refine k_lp [4,5,6,7,13,14,15,16,17,18,19,20,21,22,23,24,25,26,27,28,29,30,31,32,33,34,35,36,37,38,39,40] (λ y:Nat×XS×List NdV=>[]) (λ y=>Nx g x y.2.1 y.2.2 (clearT k.t K y.1) 0) (λ y=>[(x3,.cells ⟨[.int .i64 k.t.root,.bool k.t.ro]⟩ 35 (0,0)),(x2,.cells ⟨Rs.zero.cells⟩ 68 (0,0)),(bx,xO k bm y.2.1 dn rs),(bm,xM y.2.1)]) (λ y=>famF y.2.2) (λ y=>xW y.2.1) (λ y=>y.1) ((n,x,[])) (Nx.start go ok) (λ y f hx=>?_) (hw0:=λ w hw=>hw);dsimp only[mkU,List.map,List.cons_append,List.nil_append];refine k_seq ?_;refine J26 ?_;refine J33 ?_;refine kif (λ c17=>?_) (λ c17=>?_)
 ·obtain⟨fu,hfu,gx⟩:=Go'.fuel (T:=λ q=>clearT k.t K q) hx.go (by simpa using c17) rfl hg;refine k_skip ?_;refine k_block ?_;refine J2 ?_;refine j_load ?_;refine j_ownF (cM (hs:=xH k bx bm y.2.1 dn rs) (os:=xW y.2.1) (hc:=λ w hs=>help_c hg k.t _ ht gx hx.ok hs)) (λ x20 h20=>?_);refine Ka7 ?_;refine Kb1 ?_;refine j_ownF (cM (hs:=xH k bx bm x20.2.1 dn rs) (os:=xW x20.2.1) (hc:=λ w hs=>read_c hg k.t x20.1 _ ht h20.bd h20.go h20.ok hs)) (λ x24 h24=>?_);refine Ka7 ?_;refine j_build ?_;refine j_ownF (cM (hs:=xH k bx bm x24.2.1 dn rs) (os:=xW x24.2.1) (A0:=[(none,refsC []),(none,prC [])]) (hc:=λ w hs=>alloc_c hg (n:={Nd.zero with kind:=3}) (xs:=[]) (ys:=[]) 0 _ rfl rfl (by decide) (Nat.zero_le _) nvB_empty (nn0 _) h24.go h24.ok hs)) (λ x27 h27=>?_);refine Ka7 ?_;refine j_ownF (cM (hs:=xH k bx bm x27.2.1 dn rs) (os:=xW x27.2.1) (hc:=λ w hs=>gen_c hg _ h27.go h27.ok hs)) (λ x29 h29=>?_);have hl24:=h24.len;have hl27:=h27.len;have hl29:=h29.len;have hb20:=h20.bd;have hb24:=h24.bd;have hb27:=h27.bd;refine J27 ?_;refine k_dp [(0,[]),(1,[]),(2,[]),(3,[]),(4,[]),(5,[]),(6,[]),(7,[]),(8,[1]),(9,[])] ?_;refine Kd5 ?_;refine J17 ?_;refine r_build ?_;refine r_move ?_;refine r_ownF (i:=8) (hq:=(cM (hs:=xH k bx bm x29.2 dn rs) (os:=xW x29.2) (A0:=[(none,refsC []),(none,prC [])]) (hc:=λ w hs=>alloc_c hg (n:={Nd.zero with kind:=2,gen:=x29.1}) (xs:=[]) (ys:=[]) x27.1 _ rfl rfl (by decide) (Nat.zero_le _) nvB_inode (by omega) h29.go h29.ok hs))) (h:=λ x38 h38=>?_);refine r_ownF (i:=9) (hq:=(cM (hs:=xH k bx bm x38.2.1 dn rs) (os:=xW x38.2.1) (hc:=λ w hs=>rdcss_c hg k.t x20.1 x24.1 x38.1 _ ht (by have:=h38.len;omega) (by have:=h38.len;omega) h38.bd h38.go h38.ok hs))) (h:=λ x39 h39=>?_);have hall:=((((hx.trans h20).trans h24).trans h27).nil h29).trans h38 |>.trans h39
  refine r_fin ?_;refine kif (λ c39=>?_) (λ c39=>?_)
  ·have g3:=h39.go.to (λ _=>if_pos c39)
   refine Kf3 ?_;refine k_rt Tryz.results180 (λ w hw=>?_);exact⟨(valR true 0,x39.2.1,((((y.2.2++x20.2.2)++x24.2.2)++x27.2.2)++x38.2.2)++x39.2.2),rfl,hall.weak g3 (nn0 _),(hw.subF famF_sw6).z0⟩
  ·have g3:=h39.go.to (λ _=>if_neg (by rw[c39];decide))
   refine J34 ?_;refine k_rd ((fu,x39.2.1,((((y.2.2++x20.2.2)++x24.2.2)++x27.2.2)++x38.2.2)++x39.2.2)) ?_ (hw1:=λ w hw=>(hw.subF famF_sw6).z4);·exact hall.weak g3 (nn0 _)
 ·refine k_exit rfl ?_;refine Kf3 ?_;refine k_rt Tryz.results180 (λ w hw=>?_);exact⟨(Rs.zero,y.2.1,y.2.2),rfl,hx.weak (hx.go.stopped (by simpa using c17)) (nn0 _),hw.z0⟩
end
end
end Go.Proofs.YtdnklbipddigbaaGreat

/- Merged. -/
import Derived.Test.YtdnklbipddigbaaGreatEx17
import Derived.Test.YtdnklbipddigbaaGreatAuto
set_option linter.unusedSimpArgs false
set_option linter.unusedVariables false
namespace Go.Ct
open Go Go.RowKit
section
theorem famF_sw3{a b c:List NdV}:∀f∈famF ((a++b)++c),f.2=[]∨f∈famF c++(famF b++famF a):=λ f hf=>by
 simp only[famF_append,List.mem_append] at hf ⊢;rcases hf with(h|h)|h;·exact .inr (.inr (.inr h))
 ·exact .inr (.inr (.inl h))
 ·exact .inr (.inl h)
theorem famF_sw4{a b c d:List NdV}:∀f∈famF (((a++b)++c)++d),f.2=[]∨f∈famF d++(famF c++(famF b++famF a)):=λ f hf=>by
 simp only[famF_append,List.mem_append] at hf ⊢;rcases hf with((h|h)|h)|h;·exact .inr (.inr (.inr (.inr h)))
 ·exact .inr (.inr (.inr (.inl h)))
 ·exact .inr (.inr (.inl h))
 ·exact .inr (.inl h)
end
end Go.Ct
namespace Go.Proofs.YtdnklbipddigbaaGreat
open Go Go.RowKit Go.Ct
section
section
variable{k:Cl}{bx bm:Nat}{x:XS}{dn:Bool}{rs:Rs}{D:List Nat}{A:Fr}{w:World}{g:Gx}
set_option maxRecDepth 100000 in
theorem put_c(hg:g.Ok){m:Nat}(K:Rs->Tr)(n:Nat)(hn:n<=1073741824)(hm:m<18446744073709551616)(em:k.mask=(m:Int))(ek:k.key.size<=64)(ht:k.t.root<=9223372036854775807)(hA:∀f∈famF x.L,f∈A)(go:Go' g x (putT k (hsK k.key m) K n))(ok:x.Ok)(hs:SF w D (xH k bx bm x dn rs) A [] (xW x) w):Calls Tryz.prog 177 #[.pointer (some ⟨bx,0,none⟩)] w λ e w'=>∃q:Rs×XS×List NdV,e=.returned (.agg ⟨q.1.cells⟩)/\Nx g x q.2.1 q.2.2 (K q.1) 0/\SF w D (xH k bx bm q.2.1 dn rs) [] (famF q.2.2) (xW q.2.1) w':=by
 refine enter Tryz.func177 Tryz.ntmps177 rfl rfl (xOpen2 hs) ?_;simp only[mkS];refine J0 ?_;refine j_alloc (λ x2=>?_);refine J80 ?_;refine k_joinG [3,4,13,14,15,16,17,18,19,20,21,22,23,24,25,26,27,28] (λ j:Nat=>[(3,.pointer (some ⟨j,0,none⟩)),(4,.int .u64 (((hsK k.key m):Nat):Int))]) (λ _=>True) (λ j=>[(j,.cells ⟨[.int .i64 k.t.root,.bool k.t.ro]⟩ 35 (0,0)),(x2,.cells ⟨Rs.zero.cells⟩ 68 (0,0)),(bx,xO k bm x dn rs),(bm,xM x)]) (λ _=>[]) (λ _=>xW x) (by decide) (λ _=>by exact rfl) ?_ (λ j f hx=>?_)
 ·refine k_drawF (.one 0 [] (.one 1 [] (.one 2 [] (.one 3 [] (.one 4 [] (.one 5 [] (.one 6 [] (.one 7 [] (.one 8 [] (.one 9 [] (.one 10 [] (.one 11 [] (.one 12 [] (.one 13 [] (.one 14 [] (.two 15 [4] (.one 16 [4,9,14] (.one 17 [] (.one 18 [] .nil))) 0 [] (.two 16 [4,9,14] (.one 15 [4] (.one 17 [] (.one 18 [] .nil))) 0 [] .nil))))))))))))))))) ?_;refine Kb8 ?_;refine r_ownQ (i:=4) (hq:=(o_loadPart (k:=2) (vs:=[.int .i64 k.t.root,.bool k.t.ro]) rf atT ag1 rfl rfl)) (h:=?_);refine J63 ?_;refine J63 ?_;refine r_many (E:=[15,16]) (by decide +kernel) ((.cons ?_ (.cons ?_ .nil)));·refine s_own (i:=15) (hq:=(cV (hc:=λ w1 hw=>refHashI_c em hm ek w1))) (hfire:=(λ _=>by(refine FireAll.cons (by exact a_own (hq:=o_loadPart (k:=2) (vs:=[.int .i64 k.t.root,.bool k.t.ro]) rf atT ag1 rfl rfl)) ?_;exact FireAll.nil))) (h:=λ x28=>?_);refine r_alloc (hfire:=(λ _=>by((repeat (first|exact FireAll.nil|refine FireAll.cons (by first|exact a_own (hq:=o_loadPart (k:=2) (vs:=[.int .i64 k.t.root,.bool k.t.ro]) rf atT ag1 rfl rfl)|exact a_load) ?_));done))) (h:=λ x3=>?_);refine J40 ?_;refine k_rj (x3) ?_;·trivial
  ·refine s_alloc (i:=16) (hfire:=(λ _=>by((repeat (first|exact FireAll.nil|refine FireAll.cons (by first|exact a_own (hq:=o_loadPart (k:=2) (vs:=[.int .i64 k.t.root,.bool k.t.ro]) rf atT ag1 rfl rfl)|exact a_load) ?_));done))) (h:=λ x3=>?_);refine r_own (i:=15) (hq:=(cV (hc:=λ w1 hw=>refHashI_c em hm ek w1))) (hfire:=(λ _=>by(refine FireAll.cons (by exact a_own (hq:=o_loadPart (k:=2) (vs:=[.int .i64 k.t.root,.bool k.t.ro]) rf atT ag1 rfl rfl)) ?_;exact FireAll.nil))) (h:=λ x28=>?_);refine J40 ?_;refine k_rj (x3) ?_;·trivial
 dsimp only[mkU,List.map,List.cons_append,List.nil_append];refine J62 ?_;refine k_lp [5,6,7,8,9,10,11,12,29,30,31,32,33,34,35,36,37,38,39,40,41,42,43,44,45,46,47,48,49,50,51,52,53,54,55,56,57,58,59,60,61,62,63,64,65,66,67,68,69,70,71,72,73,74,75,76,77,78,79,80,81,82,83,84,85,86,87,88,89,90,91,92,93,94,95,96,97,98,99,100,101] (λ y:Nat×XS×List NdV=>[]) (λ y=>y.1<=n/\Nx g x y.2.1 y.2.2 (putT k (hsK k.key m) K y.1) 0) (λ y=>[(j,.cells ⟨[.int .i64 k.t.root,.bool k.t.ro]⟩ 35 (0,0)),(x2,.cells ⟨Rs.zero.cells⟩ 68 (0,0)),(bx,xO k bm y.2.1 dn rs),(bm,xM y.2.1)]) (λ y=>famF y.2.2) (λ y=>xW y.2.1) (λ y=>y.1) ((n,x,[])) (⟨Nat.le_refl n,Nx.start go ok |>.weak go (nn0 _)⟩) (λ y f hx=>?_) (hw0:=λ w hw=>hw);dsimp only[mkU,List.map,List.cons_append,List.nil_append];obtain⟨hyn,hy⟩:=hx;refine k_seq ?_;refine J26 ?_;refine J33 ?_;refine kif (λ c33=>?_) (λ c33=>?_)
 ·obtain⟨fu,hfu,gx⟩:=Go'.fuel (T:=λ q=>putT k (hsK k.key m) K q) hy.go (by simpa using c33) rfl hg;refine k_skip ?_;refine k_block ?_;refine J2 ?_;refine j_load ?_;refine j_ownF (cM (hs:=xH k bx bm y.2.1 dn rs) (os:=xW y.2.1) (hc:=λ w hs=>help_c hg k.t _ ht gx hy.ok hs)) (λ x36 h36=>?_);refine J73 ?_;refine j_ownF (cM (hs:=xH k bx bm x36.2.1 dn rs) (os:=xW x36.2.1) (hc:=λ w hs=>node_c x36.1 _ h36.bd h36.go h36.ok hs)) (λ x39 h39=>?_);refine j_field ?_;refine J1 ?_;refine J10 ?_;refine J69 ?_;refine k_lp [5,7,8,9,10,11,12,41,42,43,44,45,46,47,48,49,50,51,52,53,54,55,56,57,58,59,60,61,62,63,64,65,66,67,68,69,70,71,72,73,74,75,76,77,78,79,80,81,82,83,84,85,86,87,88,89,90,91,92,93,94,95,96,97,98,99,100,101] (λ z:Nat×Int×Int×XS×List NdV=>[(5,.int .i64 z.2.1),(7,.int .i64 z.2.2.1),(8,.int .i64 (((fu-z.1):Nat):Int))]) (λ z=>z.1<=fu/\Nx g x z.2.2.2.1 z.2.2.2.2 (putIn k (hsK k.key m) K (putT k (hsK k.key m) K fu) (nodeV x36.2.1.L x36.1).nd.gen z.1 z.2.1 z.2.2.1 (fu-z.1)) z.2.1/\z.2.2.1<=z.2.2.2.1.L.length) (λ z=>[(j,.cells ⟨[.int .i64 k.t.root,.bool k.t.ro]⟩ 35 (0,0)),(x2,.cells ⟨Rs.zero.cells⟩ 68 (0,0)),(bx,xO k bm z.2.2.2.1 dn rs),(bm,xM z.2.2.2.1)]) (λ z=>famF z.2.2.2.2) (λ z=>xW z.2.2.2.1) (λ z=>z.1) ((fu,x36.1,0,x36.2.1,y.2.2++x36.2.2)) (⟨Nat.le_refl fu,(hy.trans h36).weak (show Go' g x36.2.1 (putIn k (hsK k.key m) K (putT k (hsK k.key m) K fu) (nodeV x36.2.1.L x36.1).nd.gen fu x36.1 0 (fu-fu)) from(Nat.sub_self fu).symm▸h39.1) h36.bd,nn0 _⟩) (λ z f hx=>?_) (hw0:=λ w hw=>(hw.subF famF_swap).z4);dsimp only[mkU,List.map,List.cons_append,List.nil_append];obtain⟨hzf,hz,hzp⟩:=hx;refine k_seq ?_;refine J26 ?_;refine J33 ?_;refine kif (λ c45=>?_) (λ c45=>?_)
  ·obtain⟨fu2,hfu2,gz⟩:=Go'.fuel (T:=λ q=>(putIn k (hsK k.key m) K (putT k (hsK k.key m) K fu) (nodeV x36.2.1.L x36.1).nd.gen q z.2.1 z.2.2.1 (fu-z.1))) hz.go (by simpa using c45) rfl hg;refine J37 ?_;refine J2 ?_;refine Kb1 ?_;refine j_ownF (cM (hs:=xH k bx bm z.2.2.2.1 dn rs) (os:=xW z.2.2.2.1) (hc:=λ w hs=>read_c hg k.t z.2.1 _ ht hz.bd gz hz.ok hs)) (λ x51 h51=>?_);have hl51:=h51.len;have hb51:=h51.bd;have hbz:=hz.bd;have hch:=Ch.nx h51 hz.ch;refine J27 ?_;refine Kc3 ?_;refine kif (λ c55=>?_) (λ c55=>?_)
   ·refine J84 ?_;refine k_rd (by exact(fu,x51.2.1,(z.2.2.2.2++x51.2.2))) ?_ (hw1:=λ w hw=>by exact(hw.subF famF_swap).z4)
    ·first
     | exact⟨by show fu<=n;omega,(((hz.trans h51).trans h76).trans h97).weak g4 (nn0 _)⟩
     | exact⟨by show fu<=n;omega,((hz.trans h51).trans h76).weak g3 (nn0 _)⟩
     | exact⟨by show fu<=n;omega,((hz.trans h51).trans h68).weak h68.go (nn0 _)⟩
     | exact⟨by show fu<=n;omega,(hz.trans h51).weak (h51.go.stopped (by assumption)) (nn0 _)⟩
     | exact⟨by show fu<=n;omega,hz.weak (hz.go.stopped (by simpa using c45)) (nn0 _)⟩
   ·refine J16 ?_;refine J11 ?_;refine j_ownF (cM (hs:=xH k bx bm x51.2.1 dn rs) (os:=xW x51.2.1) (hc:=λ w hs=>node_c x51.1 _ h51.bd h51.go h51.ok hs)) (λ x58 h58=>?_);refine j_field ?_;refine J50 ?_;refine kif (λ c60=>?_) (λ c60=>?_)
    ·have g1:=h58.1.to (λ _=>if_pos c60)
     refine J2 ?_;refine j_load ?_;refine J35 ?_;refine J35 ?_;refine j_dec ?_;refine j_ownF (cM (hs:=xH k bx bm x51.2.1 dn rs) (os:=xW x51.2.1) (A0:=famF x51.2.1.L) (hA:=Ch.all hch hA) (hc:=λ w hs=>clean_c hg k.t z.2.2.1 z.2.1 (hsK_lt k.key m) ((((fu-z.1):Nat):Int)-1) _ ht (by omega) (by omega) (λ f hf=>hf) g1 h51.ok hs)) (λ x68 h68=>?_);refine l_nil ?_;refine J84 ?_;refine k_rd (by exact(fu,x68.2.1,((z.2.2.2.2++x51.2.2)++x68.2.2))) ?_ (hw1:=λ w hw=>by exact(hw.subF famF_sw3).z4)
     ·first
      | exact⟨by show fu<=n;omega,(((hz.trans h51).trans h76).trans h97).weak g4 (nn0 _)⟩
      | exact⟨by show fu<=n;omega,((hz.trans h51).trans h76).weak g3 (nn0 _)⟩
      | exact⟨by show fu<=n;omega,((hz.trans h51).trans h68).weak h68.go (nn0 _)⟩
      | exact⟨by show fu<=n;omega,(hz.trans h51).weak (h51.go.stopped (by assumption)) (nn0 _)⟩
      | exact⟨by show fu<=n;omega,hz.weak (hz.go.stopped (by simpa using c45)) (nn0 _)⟩
    ·have g1:=h58.1.to (λ _=>if_neg c60)
     refine J58 ?_;refine J35 ?_;refine J35 ?_;refine j_ownF (cM (hs:=xH k bx bm x51.2.1 dn rs) (os:=xW x51.2.1) (A0:=famF x51.2.1.L) (hA:=Ch.all hch hA) (hc:=λ w hs=>putLeaf_c hg z.2.1 x51.1 (hsK_lt k.key m) (fu-z.1) (by omega) (nodeV x36.2.1.L x36.1).nd.gen _ ht (by omega) (by omega) (λ f hf=>hf) g1 h51.ok hs)) (λ x76 h76=>?_);have hl76:=h76.len;have hch2:=Ch.nx h76 hch;refine j_move ?_;refine l_quiet (o_extr rf rfl) rfl ?_;refine l_quiet (o_extr rf rfl) rfl ?_;refine j_alloc (λ x10=>?_);refine j_store (λ _=>?_);refine J27 ?_;refine Kd6 ?_;(refine lcs 83 (λ g83=>?_) (λ g83=>?_)<;>refine Ka0 ?_);all_goals (refine J12 ?_;refine l_nil ?_)
     all_goals
     refine kif (λ c86=>?_) (λ c86=>?_)
     ·all_goals (refine J25 ?_;refine J5 ?_)
      all_goals refine k_rt Tryz.results177 (λ w hw=>?_);exact⟨(x76.1,x76.2.2.1,((z.2.2.2.2++x51.2.2)++x76.2.2.2)),rfl,((hz.trans h51).trans h76).weak (by first|exact h76.go.stopped (by assumption)|exact h76.go.to (λ _=>if_pos (by assumption))) (nn0 _),(hw.subF famF_sw3).z0⟩
     ·try exact nv c86
      all_goals have g2:=h76.go.to (λ _=>if_neg (by assumption))
      all_goals (refine J16 ?_;refine J2 ?_;refine J50 ?_)
      all_goals
       refine kif (λ c89=>?_) (λ c89=>?_)
       ·have g3:=g2.to (λ _=>if_pos (by assumption))
        refine J84 ?_;refine k_rd (by exact(fu,x76.2.2.1,((z.2.2.2.2++x51.2.2)++x76.2.2.2))) ?_ (hw1:=λ w hw=>by exact(hw.subF famF_sw3).z4)
        ·first
         | exact⟨by show fu<=n;omega,(((hz.trans h51).trans h76).trans h97).weak g4 (nn0 _)⟩
         | exact⟨by show fu<=n;omega,((hz.trans h51).trans h76).weak g3 (nn0 _)⟩
         | exact⟨by show fu<=n;omega,((hz.trans h51).trans h68).weak h68.go (nn0 _)⟩
         | exact⟨by show fu<=n;omega,(hz.trans h51).weak (h51.go.stopped (by assumption)) (nn0 _)⟩
         | exact⟨by show fu<=n;omega,hz.weak (hz.go.stopped (by simpa using c45)) (nn0 _)⟩
       ·have g3:=g2.to (λ _=>if_neg (by assumption))
        refine J58 ?_;refine Kf8 ?_;refine j_own (cV (hc:=λ w1 hw=>refSliceA_c (hsK_lt k.key m) (((fu-z.1):Nat):Int) w1)) (λ x95=>?_);refine j_move ?_;refine j_ownF (cM (hs:=xH k bx bm x76.2.2.1 dn rs) (os:=xW x76.2.2.1) (A0:=famF x76.2.2.1.L) (hA:=Ch.all hch2 hA) (hc:=λ w hs=>below_c hg z.2.1 x51.1 (slI (hsK k.key m) (((fu-z.1):Nat):Int)) (nodeV x36.2.1.L x36.1).nd.gen _ ht (by omega) (by omega) (λ f hf=>hf) g3 h76.ok hs)) (λ x97 h97=>?_);refine Ke3 ?_;refine J50 ?_;refine kif (λ c99=>?_) (λ c99=>?_)
        ·have g4:=h97.go.to (λ _=>if_pos (by assumption))
         refine J84 ?_;refine k_rd (by exact(fu,x97.2.1,(((z.2.2.2.2++x51.2.2)++x76.2.2.2)++x97.2.2))) ?_ (hw1:=λ w hw=>by exact(hw.subF famF_sw4).z4)
         ·first
          | exact⟨by show fu<=n;omega,(((hz.trans h51).trans h76).trans h97).weak g4 (nn0 _)⟩
          | exact⟨by show fu<=n;omega,((hz.trans h51).trans h76).weak g3 (nn0 _)⟩
          | exact⟨by show fu<=n;omega,((hz.trans h51).trans h68).weak h68.go (nn0 _)⟩
          | exact⟨by show fu<=n;omega,(hz.trans h51).weak (h51.go.stopped (by assumption)) (nn0 _)⟩
          | exact⟨by show fu<=n;omega,hz.weak (hz.go.stopped (by simpa using c45)) (nn0 _)⟩
        ·have g4:=h97.go.to (λ _=>if_neg (by assumption))
         refine k_skip ?_;refine J76 ?_;refine J8 ?_;refine Kb5 ?_;refine k_rd ((z.1-1,x97.1,z.2.1,x97.2.1,(((z.2.2.2.2++x51.2.2)++x76.2.2.2)++x97.2.2))) ?_ (hw1:=λ w hw=>(hw.subF famF_sw4).z4)
         ·have e1:z.1-1=fu2:=by omega
          have e2:(fu-z.1)+1=fu-fu2:=by omega
          refine⟨by show z.1-1<=fu;omega,((((hz.trans h51).trans h76).trans h97)).weak ?_ h97.bd,by show z.2.1<=(x97.2.1.L.length:Int);have:=h97.len;omega⟩;show Go' g x97.2.1 (putIn k (hsK k.key m) K (putT k (hsK k.key m) K fu) (nodeV x36.2.1.L x36.1).nd.gen (z.1-1) x97.1 z.2.1 (fu-(z.1-1)));rw[e1,<- e2];exact g4
  ·refine J84 ?_;refine k_rd (by exact(fu,z.2.2.2.1,z.2.2.2.2)) ?_ (hw1:=λ w hw=>by exact hw.z4)
   ·first
    | exact⟨by show fu<=n;omega,(((hz.trans h51).trans h76).trans h97).weak g4 (nn0 _)⟩
    | exact⟨by show fu<=n;omega,((hz.trans h51).trans h76).weak g3 (nn0 _)⟩
    | exact⟨by show fu<=n;omega,((hz.trans h51).trans h68).weak h68.go (nn0 _)⟩
    | exact⟨by show fu<=n;omega,(hz.trans h51).weak (h51.go.stopped (by assumption)) (nn0 _)⟩
    | exact⟨by show fu<=n;omega,hz.weak (hz.go.stopped (by simpa using c45)) (nn0 _)⟩
 ·refine k_exit rfl ?_;refine Kf3 ?_;refine k_rt Tryz.results177 (λ w hw=>?_);exact⟨(Rs.zero,y.2.1,y.2.2),rfl,hy.weak (hy.go.stopped (by simpa using c33)) (nn0 _),hw.z0⟩
end
end
end Go.Proofs.YtdnklbipddigbaaGreat
namespace Go.Ct
open Go Go.RowKit
section
variable{P:Program}{n:Nat}{Q:Exit->Act->World->Prop}{ks:List CK}{ops:Array Oper}{l:List Oper}{S:List (Nat×Value)}{G:World->Prop}
theorem l_unwantedU{d:Nat}{op:Op}{ty:TypeId}{pos:String}{af:Array Edge}{j:Nat}{want:Bool}{g:Nat}(hd:Nat.blt d n=true)
  (hj:(ops[j]?).bind (·.dst)=some g) (hg:look S g=undef)
  (h:JL P n Q ks ops l ((d,undef)::S) G):JL P n Q ks ops (⟨some d,op,ty,pos,af,some (j,want)⟩::l) S G:=⟨λ hS w hw=>by
 have hy:yielded ops (tmArr n S) j=none:=by
  have e:=congrFun (eval_tm (ds:=[]) hS) (.tmp g);simp only[Act.eval,ev,hg] at e;unfold yielded;rw[hj];simp only[Option.bind_some];rw[Array.getD_eq_getD_getElem?] at e;cases h2:(tmArr n S)[g]? with
  | none=>rfl
  | some u=>rw[h2] at e;simp[undef] at e;subst e;rfl
 refine wpList_step λ K hK=>?_;have hw':Region.wanted ⟨some d,op,ty,pos,af,some (j,want)⟩ (yielded ops (tmArr n S))=false:=by simp only[Region.wanted,hy];rfl
 simp only[hw',Bool.false_eq_true,if_false,put_tm];exact hK _ _ (h.run (hS.cons hd) w hw)⟩
end
end Go.Ct
namespace Go.Proofs.YtdnklbipddigbaaGreat
open Go.RowKit Go.Ct
section
theorem j_unu{n:Nat}{Q:Exit->Act->World->Prop}{ks:List CK}{ops:Array Oper}{l:List Oper}{S:List (Nat×Value)}{G:World->Prop}{d j g:Nat}{op:Op}{ty:TypeId}{pos:String}{af:Array Edge}{want:Bool}(h:JL Tryz.prog n Q ks ops l ((d,undef)::S) G)(hd:Nat.blt d n=true:=by exact rfl)(hj:(ops[j]?).bind (·.dst)=some g:=by exact rfl)(hg:Ct.look S g=undef:=by exact rfl):JL Tryz.prog n Q ks ops (⟨some d,op,ty,pos,af,some (j,want)⟩::l) S G:=l_unwantedU hd hj hg h
end
end Go.Proofs.YtdnklbipddigbaaGreat

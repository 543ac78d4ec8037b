/- Executions of the reference: one attempt of PUT at a leaf. -/
import Derived.Test.YtpobgmdalcpomaaGreatGEx14
set_option linter.unusedSimpArgs false
set_option linter.unusedVariables false
namespace Go.Ct
open Go Go.RowKit
theorem str_t{a b:ByteArray}(h:a=b):(a.toList==b.toList)=true:=by subst h;simp
theorem str_f{a b:ByteArray}(h:¬a=b):(a.toList==b.toList)=false:=by
 rw[beq_eq_false_iff_ne]
 exact λ e=>h (toList_inj e)
section
variable{P:Program}{S:List (Nat×Value)}{G:World->Prop}{d:Nat}{ty t t':TypeId}{pos:String}{af:Array Edge}{gd:Option (Nat×Bool)}{x y:Operand}{a b:ByteArray}
theorem o_eqS_t(hx:ev S x=.string a)(hy:ev S y=.string b)(h:a=b):Quiet P S G ⟨some d,.binOp .eql t x y t',ty,pos,af,gd⟩ (.bool true):=by
 have:=o_eqlStr (P:=P) (G:=G) (d:=d) (ty:=ty) (pos:=pos) (af:=af) (gd:=gd) (t:=t) (t':=t') hx hy
 rwa [str_t h] at this
theorem o_eqS_f(hx:ev S x=.string a)(hy:ev S y=.string b)(h:¬a=b):Quiet P S G ⟨some d,.binOp .eql t x y t',ty,pos,af,gd⟩ (.bool false):=by
 have:=o_eqlStr (P:=P) (G:=G) (d:=d) (ty:=ty) (pos:=pos) (af:=af) (gd:=gd) (t:=t) (t':=t') hx hy
 rwa [str_f h] at this
end
end Go.Ct
namespace Go.Proofs.YtpobgmdalcpomaaGreat
open Go Go.RowKit Go.Ct
section
variable{v:NdV}{n c:Nat}{w:World}
theorem lkX_s(h:NvB n c v.c){i b:Int}(e:lkV v.c i=some b)(hr:Rep w v.nd v.xs v.ys):Calls Tryz.prog 110 #[v.nd.v,.int .i64 i] w λ e w'=>e=.returned (.tuple #[.int .i64 b,.bool true])/\St w [] [] w':=by
 have:=lkX_c h i hr
 rwa [e] at this
theorem lkX_n(h:NvB n c v.c){i:Int}(e:lkV v.c i=none)(hr:Rep w v.nd v.xs v.ys):Calls Tryz.prog 110 #[v.nd.v,.int .i64 i] w λ e w'=>e=.returned (.tuple #[.int .i64 0,.bool false])/\St w [] [] w':=by
 have:=lkX_c h i hr
 rwa [e] at this
end
section
variable{k:Cl}{bx bm:Nat}{x:XS}{dn:Bool}{rs:Rs}{D:List Nat}{A:Fr}{w:World}{g:Gx}
abbrev PLq(g:Gx)(x:XS)(K:Rs->Int->Tr)(bx bm:Nat)(k:Cl)(dn:Bool)(rs:Rs)(D:List Nat)(w:World)(e:Ending)(w':World):Prop:=∃q:Rs×Int×XS×List NdV,e=.returned (.tuple #[.agg ⟨q.1.cells⟩,.int .i64 q.2.1])/\Nx g x q.2.2.1 q.2.2.2 (K q.1 q.2.1) 0/\SF w D (xH k bx bm q.2.2.1 dn rs) [] (famF q.2.2.2) (xW q.2.2.1) w'
set_option maxRecDepth 100000 in
theorem putLeaf_l(hg:g.Ok)(i m:Int){h:Nat}(hh:h<18446744073709551616)(level:Nat)(hlv:level<=1073741824)(gen:Int)(K:Rs->Int->Tr)(ht:k.t.root<=9223372036854775807)(hi:i<=x.L.length)(hm:m<=x.L.length)(hA:∀f∈famF x.L,f∈A)(hk:(nodeV x.L m).nd.kind=6)(go:Go' g x (putLeafT k i m h level gen K))(ok:x.Ok)(hs:SF w D (xH k bx bm x dn rs) A [] (xW x) w):Calls Tryz.prog 117 #[.pointer (some ⟨bx,0,none⟩),.int .i64 i,.int .i64 m,.int .u64 (h:Int),.int .i64 (level:Int),.int .i64 gen] w (PLq g x K bx bm k dn rs D w):=by
  have hyl:=ysL_of ok m
  have hlL:=ok.lL
  refine enter Tryz.func117 Tryz.ntmps117 rfl rfl (xOpen2 hs) ?_
  simp only[mkS]
  all_goals (refine J0 ?_;refine j_alloc (λ x12=>?_);refine J27 ?_;refine k_dp [(0,[]),(1,[]),(2,[]),(3,[]),(4,[]),(5,[]),(6,[]),(7,[]),(8,[]),(9,[]),(10,[]),(11,[]),(12,[]),(13,[]),(14,[]),(15,[4,9,14]),(16,[9,14]),(17,[14]),(18,[])] ?_;refine J9 ?_;refine r_fieldAddr ?_;refine r_ownQ (i:=4) (hq:=(o_loadPart (k:=2) (vs:=[.int .i64 k.t.root,.bool k.t.ro]) rf atT ag1 rfl rfl)) (h:=?_);refine J63 ?_;refine J63 ?_;refine r_alloc (hfire:=(λ _=>by first|((repeat (first|exact FireAll.nil|refine FireAll.cons (by first|exact a_own (hq:=o_loadPart (k:=2) (vs:=[.int .i64 k.t.root,.bool k.t.ro]) rf atT ag1 rfl rfl)|exact a_load|exact a_un) ?_));done)|(refine fireall_fact ?_;(repeat (first|exact FireAll.nil|refine FireAll.cons (by first|exact a_own (hq:=o_loadPart (k:=2) (vs:=[.int .i64 k.t.root,.bool k.t.ro]) rf atT ag1 rfl rfl)|exact a_load|exact a_un) ?_));done))) (h:=λ x14=>?_);refine r_store (h:=λ _=>?_);refine J55 ?_;refine J11 ?_;(refine j_own (cM (hs:=xH k bx bm x dn rs) (os:=xW x) (hc:=λ w hs=>node_c m _ hm go ok hs)) (λ x48=>?_);try (refine l_fact (λ h48=>?_)));refine j_alloc (λ x17=>?_);refine J5 ?_;refine J72 ?_;refine J50 ?_)
  all_goals
   refine kif (λ c51=>?_) (λ c51=>?_)
   · try exact nv c51
     all_goals
      have g1:=h48.1.to (λ _=>if_pos hk)
     all_goals (refine J24 ?_;refine j_move ?_;(refine j_own (cV (hc:=λ w1 hw=>findX_c (v:=(nodeV x.L m)) (n:=0) k.key (ok.rep hw hA m) (ok.ysl m))) (λ x56=>?_);try (refine l_fact (λ h56=>?_)));refine j_move ?_;refine l_quiet (o_extr rf rfl) rfl ?_;refine l_quiet (o_extr rf rfl) rfl ?_;refine J8 ?_;refine J65 ?_;refine j_move ?_;(refine j_own (cM (hs:=xH k bx bm x dn rs) (os:=xW x) (hc:=λ w hs=>permits_c _ _ hs)) (λ x62=>?_);try (refine l_fact (λ h62=>?_)));refine J33 ?_)
     all_goals
      refine kif (λ c63=>?_) (λ c63=>?_)
      · try exact nv c63
        all_goals
         have g2:=g1.to (λ _=>if_neg (show ¬permB k (findO (nodeV x.L m).c.ys k.key).isSome ((findO (nodeV x.L m).c.ys k.key).getD 0)=true from by simpa using c63))
        all_goals (refine J11 ?_;(refine j_own (cV (hc:=λ w1 hw=>rvalue_c _ _ w1)) (λ x66=>?_);try (refine l_fact (λ h66=>?_)));refine J46 ?_)
        all_goals
         refine k_rt Tryz.results117 (λ w hw=>?_)
         exact⟨(valR (findO (nodeV x.L m).c.ys k.key).isSome ((findO (nodeV x.L m).c.ys k.key).getD 0),1,x,[]),rfl,⟨g2,ok,by simp,Nat.le_refl _,Int.natCast_nonneg _⟩,hw.finH (hF:=by exact FSub.nil)⟩
      · try exact nv c63
        all_goals
         have g2:=g1.to (λ _=>if_pos (show permB k (findO (nodeV x.L m).c.ys k.key).isSome ((findO (nodeV x.L m).c.ys k.key).getD 0)=true from by simpa using c63))
        all_goals (refine k_skip ?_;refine J25 ?_;refine J35 ?_;(refine j_own (cF (hc:=λ w1 hw=>grX_c (v:=(nodeV x.L m)) h48.2 k.key k.val (ok.rep hw hA m) (by omega))) (λ x71=>?_);try (refine l_fact (λ h71=>?_)));refine j_move ?_;refine l_quiet (o_extr rf rfl) rfl ?_;refine l_quiet (o_extr rf rfl) rfl ?_;refine j_alloc (λ x20=>?_);refine j_store (λ _=>?_);refine J27 ?_;refine k_dp [(0,[]),(1,[]),(2,[]),(3,[]),(4,[]),(5,[]),(6,[]),(7,[]),(10,[]),(11,[]),(8,[2]),(9,[]),(12,[]),(13,[]),(14,[]),(15,[]),(16,[])] ?_;refine J17 ?_;refine r_load ?_;refine J17 ?_;refine r_move ?_;refine r_load ?_;refine J17 ?_;refine r_move ?_;((refine r_own (i:=8) (hq:=(cM (hs:=xH k bx bm x dn rs) (os:=xW x) (A0:=[((grN (growO (nodeV x.L m).nd (nodeV x.L m).xs (nodeV x.L m).ys k.key k.val) (nodeV x.L m).nd.hash x71).brA,refsC []),((grN (growO (nodeV x.L m).nd (nodeV x.L m).xs (nodeV x.L m).ys k.key k.val) (nodeV x.L m).nd.hash x71).prA,prC (grL (growO (nodeV x.L m).nd (nodeV x.L m).xs (nodeV x.L m).ys k.key k.val)))]) (hA:=hasGr) (hc:=λ w hs=>alloc_c hg (n:=grN (growO (nodeV x.L m).nd (nodeV x.L m).xs (nodeV x.L m).ys k.key k.val) (nodeV x.L m).nd.hash x71) (xs:=[]) (ys:=grL (growO (nodeV x.L m).nd (nodeV x.L m).xs (nodeV x.L m).ys k.key k.val)) m _ (grN_br _ _ _).1 (grN_br _ _ _).2 (by decide) (by have:=gr_len (nodeV x.L m).xs (nodeV x.L m).ys (nodeV x.L m).nd k.key k.val;omega) (nvB_gr _ h48.2.hash) hm (by rw[gr_c];exact g2) ok hs))) (h:=λ x82=>?_);try (refine r_fact (λ h82=>?_))));((refine r_own (i:=9) (hq:=(cM (hs:=xH k bx bm x82.2.1 dn rs) (os:=xW x82.2.1) (hc:=λ w hs=>gcas_c hg k.t i m x82.1 _ ht (by have:=h82.len;omega) h82.bd h82.go h82.ok hs))) (h:=λ x83=>?_);try (refine r_fact (λ h83=>?_)))))
        all_goals
         have hch:=Ch.nx h83 (Ch.nx h82 ((Ch.base (F:=[])).cons (f:=(x71.1,prC (grL (growO (nodeV x.L m).nd (nodeV x.L m).xs (nodeV x.L m).ys k.key k.val))))))
         have hlc:x.cs.length<=x83.2.1.cs.length:=by have:=h82.lc;have:=h83.lc;omega
        all_goals (((refine r_own (i:=12) (hq:=(cV (hc:=λ w1 hw=>swapped_c _ _ _ _ w1))) (h:=λ x86=>?_);try (refine r_fact (λ h86=>?_))));refine r_ownP (i:=13) (hq:=(o_extr rf rfl)) (h:=?_);refine r_ownP (i:=14) (hq:=(o_extr rf rfl)) (h:=?_);refine J40 ?_)
        all_goals
         refine k_rt Tryz.results117 (λ w hw=>?_)
         obtain⟨N,hN,hf⟩:=hch.to (t':=K (swpR (findO (nodeV x.L m).c.ys k.key).isSome ((findO (nodeV x.L m).c.ys k.key).getD 0)) (if x83.1=true then 1 else 0)) h83 (h83.go) hlc (Int.natCast_nonneg _)
         exact⟨(swpR (findO (nodeV x.L m).c.ys k.key).isSome ((findO (nodeV x.L m).c.ys k.key).getD 0),(if x83.1=true then 1 else 0),x83.2.1,N),rfl,hN,(hw.subF hf).finH (hF:=by exact FSub.all)⟩
   · try exact nv c51
     all_goals
      exact absurd hk c51
set_option maxRecDepth 100000 in
theorem putLeaf_n(hg:g.Ok)(i m:Int){h:Nat}(hh:h<18446744073709551616)(level:Nat)(hlv:level<=1073741824)(gen:Int)(K:Rs->Int->Tr)(ht:k.t.root<=9223372036854775807)(hi:i<=x.L.length)(hm:m<=x.L.length)(hA:∀f∈famF x.L,f∈A)(hk:¬(nodeV x.L m).nd.kind=6)(hl:lkV (nodeV x.L m).c (slI h (level:Int))=none)(go:Go' g x (putLeafT k i m h level gen K))(ok:x.Ok)(hs:SF w D (xH k bx bm x dn rs) A [] (xW x) w):Calls Tryz.prog 117 #[.pointer (some ⟨bx,0,none⟩),.int .i64 i,.int .i64 m,.int .u64 (h:Int),.int .i64 (level:Int),.int .i64 gen] w (PLq g x K bx bm k dn rs D w):=by
  have hyl:=ysL_of ok m
  have hlL:=ok.lL
  refine enter Tryz.func117 Tryz.ntmps117 rfl rfl (xOpen2 hs) ?_
  simp only[mkS]
  all_goals (refine J0 ?_;refine j_alloc (λ x12=>?_);refine J27 ?_;refine k_dp [(0,[]),(1,[]),(2,[]),(3,[]),(4,[]),(5,[]),(6,[]),(7,[]),(8,[]),(9,[]),(10,[]),(11,[]),(12,[]),(13,[]),(14,[]),(15,[4,9,14]),(16,[9,14]),(17,[14]),(18,[])] ?_;refine J9 ?_;refine r_fieldAddr ?_;refine r_ownQ (i:=4) (hq:=(o_loadPart (k:=2) (vs:=[.int .i64 k.t.root,.bool k.t.ro]) rf atT ag1 rfl rfl)) (h:=?_);refine J63 ?_;refine J63 ?_;refine r_alloc (hfire:=(λ _=>by first|((repeat (first|exact FireAll.nil|refine FireAll.cons (by first|exact a_own (hq:=o_loadPart (k:=2) (vs:=[.int .i64 k.t.root,.bool k.t.ro]) rf atT ag1 rfl rfl)|exact a_load|exact a_un) ?_));done)|(refine fireall_fact ?_;(repeat (first|exact FireAll.nil|refine FireAll.cons (by first|exact a_own (hq:=o_loadPart (k:=2) (vs:=[.int .i64 k.t.root,.bool k.t.ro]) rf atT ag1 rfl rfl)|exact a_load|exact a_un) ?_));done))) (h:=λ x14=>?_);refine r_store (h:=λ _=>?_);refine J55 ?_;refine J11 ?_;(refine j_own (cM (hs:=xH k bx bm x dn rs) (os:=xW x) (hc:=λ w hs=>node_c m _ hm go ok hs)) (λ x48=>?_);try (refine l_fact (λ h48=>?_)));refine j_alloc (λ x17=>?_);refine J5 ?_;refine J72 ?_;refine J50 ?_)
  all_goals
   refine kif (λ c51=>?_) (λ c51=>?_)
   · try exact nv c51
     all_goals
      exact absurd c51 hk
   · try exact nv c51
     all_goals
      have g0:=h48.1.to (λ _=>if_neg hk)
      have g1:=go_none g0 (by rw[hl];rfl)
     all_goals (refine J58 ?_;(refine j_own (cV (hc:=λ w1 hw=>refSliceA_c hh (level:Int) w1)) (λ x91=>?_);try (refine l_fact (λ h91=>?_)));refine J73 ?_;refine j_move ?_;refine j_build ?_;refine j_alloc (λ x23=>?_);refine J5 ?_;refine J71 ?_;(refine j_own (cV (hc:=λ w1 hw=>lkX_n (v:=(nodeV x.L m)) h48.2 hl (ok.rep hw hA m))) (λ x99=>?_);try (refine l_fact (λ h99=>?_)));refine j_move ?_;refine l_quiet (o_extr rf rfl) rfl ?_;refine l_quiet (o_extr rf rfl) rfl ?_;refine J8 ?_;refine J65 ?_)
     all_goals (first|refine j_un ?_|(refine j_yes ?_;refine j_move ?_)|(refine lcs 103 (λ g103=>?_) (λ g103=>?_)<;>(first|refine j_un ?_|(refine j_yes ?_;refine j_move ?_))))
     all_goals ((first|refine j_un ?_|(refine j_yes ?_;refine j_move ?_));((first|refine j_un ?_|(refine j_yes ?_;(refine j_own (cM (hs:=xH k bx bm x dn rs) (os:=xW x) (hc:=λ w hs=>xnode_c 0 (by decide) ok hs)) (λ x106=>?_);try (refine l_fact (λ h106=>?_))))));refine J87 ?_;refine l_nil ?_)
     all_goals
      refine kif (λ c109=>?_) (λ c109=>?_)
      · try exact nv c109
      · try exact nv c109
        all_goals refine J58 ?_
        all_goals (first|refine j_un ?_|(refine j_yes ?_;refine j_move ?_)|(refine lcs 112 (λ g112=>?_) (λ g112=>?_)<;>(first|refine j_un ?_|(refine j_yes ?_;refine j_move ?_))))
        all_goals ((first|refine j_un ?_|(refine j_yes ?_;refine j_move ?_));((first|refine j_un ?_|(refine j_yes ?_;(refine j_own (cM (hs:=xH k bx bm x dn rs) (os:=xW x) (hc:=λ w hs=>xnode_c 0 (by decide) ok hs)) (λ x115=>?_);try (refine l_fact (λ h115=>?_))))));refine J81 ?_;(first|refine j_un ?_|(refine j_yes ?_;refine j_seq ?_));refine j_pick ?_;refine J73 ?_;(refine j_own (cM (hs:=xH k bx bm x dn rs) (os:=xW x) (hc:=λ w hs=>xnode_c 0 (by decide) ok hs)) (λ x122=>?_);try (refine l_fact (λ h122=>?_)));refine j_field ?_;refine J27 ?_;refine J2 ?_;refine J33 ?_)
        all_goals
         refine kif (λ c125=>?_) (λ c125=>?_)
         · try exact nv c125
           all_goals (refine k_region ?_;refine J27 ?_;refine J11 ?_;refine j_move ?_;(refine j_own (cM (hs:=xH k bx bm x dn rs) (os:=xW x) (hc:=λ w hs=>permits_c _ _ hs)) (λ x129=>?_);try (refine l_fact (λ h129=>?_)));refine J33 ?_)
           all_goals
            refine kif (λ c130=>?_) (λ c130=>?_)
            · try exact nv c130
              all_goals
               have g2:=g1.to (λ _=>if_neg (show ¬permB k false 0=true from by simpa using c130))
              all_goals (refine J11 ?_;(refine j_own (cV (hc:=λ w1 hw=>rvalue_c _ _ w1)) (λ x133=>?_);try (refine l_fact (λ h133=>?_)));refine J46 ?_)
              all_goals
               refine k_rt Tryz.results117 (λ w hw=>?_)
               exact⟨(valR false 0,1,x,[]),rfl,⟨g2,ok,by simp,Nat.le_refl _,Int.natCast_nonneg _⟩,hw.finH (hF:=by exact FSub.nil)⟩
            · try exact nv c130
              all_goals
               have g2:=g1.to (λ _=>if_pos (show permB k false 0=true from by simpa using c130))
              all_goals (refine J37 ?_;refine J2 ?_;refine j_not ?_;refine J1 ?_)
              all_goals
               refine kif (λ c134=>?_) (λ c134=>?_)
               · try exact nv c134
                 all_goals refine k_seq ?_
                 all_goals
                  refine k_joinG [28,29,137,138,139,140,141,142,143,144,145] (λ z:Nat×(Int×XS×List NdV)×(Option Addr×Nat)×Nd=>[(28,.pointer (some ⟨z.1,0,none⟩))]) (λ z=>Nx g x z.2.1.2.1 z.2.1.2.2 (.alloc (inV (nodeV x.L m).c (slI h (level:Int)) z.2.1.1) m λ r=>gcasT k.t i m r λ ok=>K (swpR false 0) (if ok=true then 1 else 0)) z.2.1.1/\z.2.2.2=resN (inX (nodeV x.L m) (slI h (level:Int)) z.2.1.1) z.2.2.1) (λ z=>[(z.1,.cells ⟨z.2.2.2.cells⟩ 59 (0,0)),(x23,.cells ⟨({Nd.zero with kind:=4,hash:=(h:Int),key:=k.key,val:=k.val}:Nd).cells⟩ 59 (0,0)),(x17,.cells ⟨(nodeV x.L m).nd.cells⟩ 59 (0,0)),(x14,.cells ⟨[.int .i64 k.t.root,.bool k.t.ro]⟩ 33 (0,0)),(x12,.cells ⟨Rs.zero.cells⟩ 81 (0,0)),(bx,xO k bm z.2.1.2.1 dn rs),(bm,xM z.2.1.2.1)]) (λ z=>(z.2.2.1.1,refsC (resL (inX (nodeV x.L m) (slI h (level:Int)) z.2.1.1)))::(famF z.2.1.2.2++[])) (λ z=>xW z.2.1.2.1) (by decide) (λ _=>by exact rfl) ?_ (λ z f hx=>?_)
                  · refine k_drawF (.one 0 [] (.one 1 [] (.one 2 [] (.one 3 [] (.two 4 [0] (.two 5 [] (.one 6 [] (.one 7 [] (.one 8 [] (.one 9 [0,3] (.one 10 [] (.one 11 [] .nil)))))) 0 [] (.two 9 [0,3] (.one 5 [] (.one 6 [] (.one 7 [] (.one 8 [] (.one 10 [] (.one 11 [] .nil)))))) 0 [] .nil)) 0 [] (.two 9 [0,3] (.one 4 [0] (.one 5 [] (.one 6 [] (.one 7 [] (.one 8 [] (.one 10 [] (.one 11 [] .nil))))))) 0 [] .nil)))))) ?_
                    all_goals (refine r_load ?_;refine J17 ?_;refine r_load ?_)
                    all_goals
                     refine r_many (E:=[4,9]) (by decide +kernel) ((.cons ?_ (.cons ?_ .nil)))
                     · (refine s_own (i:=4) (hq:=(cM (hs:=xH k bx bm x dn rs) (os:=xW x) (A0:=[(none,refsC []),(none,prC [])]) (hc:=λ w hs=>alloc_c hg (n:={Nd.zero with kind:=4,hash:=(h:Int),key:=k.key,val:=k.val}) (xs:=[]) (ys:=[]) 0 _ rfl rfl (by decide) (Nat.zero_le _) (nvB_sing hh) (Int.natCast_nonneg _) (g2) ok hs))) (h:=λ x142=>?_);try (refine r_fact (λ h142=>?_)))
                       all_goals
                        refine r_many (E:=[5,9]) (by decide +kernel) ((.cons ?_ (.cons ?_ .nil)))
                        · (refine s_own (i:=5) (hq:=(cF (hc:=λ w1 hw=>inX_c (v:=(nodeV x.L m)) h48.2 (slI h (level:Int)) x142.1 (ok.rep hw hA m)))) (h:=λ x143=>?_);try (refine r_fact (λ h143=>?_)))
                          all_goals (refine r_move ?_;refine r_ownP (i:=7) (hq:=(o_extr rf rfl)) (h:=?_);refine r_ownP (i:=8) (hq:=(o_extr rf rfl)) (h:=?_);refine r_alloc (h:=λ x28=>?_);refine J40 ?_)
                          all_goals
                           refine k_rj ((x28,x142,x143,resN (inX (nodeV x.L m) (slI h (level:Int)) x142.1) x143)) ?_ (hw1:=λ w hw=>hw.back (hF:=by exact FSub.all))
                           · exact⟨h142,rfl⟩
                        · refine s_alloc (i:=9) (h:=λ x28=>?_)
                          all_goals (((refine r_own (i:=5) (hq:=(cF (hc:=λ w1 hw=>inX_c (v:=(nodeV x.L m)) h48.2 (slI h (level:Int)) x142.1 (ok.rep hw hA m)))) (h:=λ x143=>?_);try (refine r_fact (λ h143=>?_))));refine r_move ?_;refine r_ownP (i:=7) (hq:=(o_extr rf rfl)) (h:=?_);refine r_ownP (i:=8) (hq:=(o_extr rf rfl)) (h:=?_);refine J40 ?_)
                          all_goals
                           refine k_rj ((x28,x142,x143,resN (inX (nodeV x.L m) (slI h (level:Int)) x142.1) x143)) ?_ (hw1:=λ w hw=>hw.back (hF:=by exact FSub.all))
                           · exact⟨h142,rfl⟩
                     · refine s_alloc (i:=9) (h:=λ x28=>?_)
                       all_goals (((refine r_own (i:=4) (hq:=(cM (hs:=xH k bx bm x dn rs) (os:=xW x) (A0:=[(none,refsC []),(none,prC [])]) (hc:=λ w hs=>alloc_c hg (n:={Nd.zero with kind:=4,hash:=(h:Int),key:=k.key,val:=k.val}) (xs:=[]) (ys:=[]) 0 _ rfl rfl (by decide) (Nat.zero_le _) (nvB_sing hh) (Int.natCast_nonneg _) (g2) ok hs))) (h:=λ x142=>?_);try (refine r_fact (λ h142=>?_))));((refine r_own (i:=5) (hq:=(cF (hc:=λ w1 hw=>inX_c (v:=(nodeV x.L m)) h48.2 (slI h (level:Int)) x142.1 (ok.rep hw hA m)))) (h:=λ x143=>?_);try (refine r_fact (λ h143=>?_))));refine r_move ?_;refine r_ownP (i:=7) (hq:=(o_extr rf rfl)) (h:=?_);refine r_ownP (i:=8) (hq:=(o_extr rf rfl)) (h:=?_);refine J40 ?_)
                       all_goals
                        refine k_rj ((x28,x142,x143,resN (inX (nodeV x.L m) (slI h (level:Int)) x142.1) x143)) ?_ (hw1:=λ w hw=>hw.back (hF:=by exact FSub.all))
                        · exact⟨h142,rfl⟩
                  dsimp only[mkU,List.map,List.cons_append,List.nil_append]
                  obtain⟨hz,ez⟩:=hx
                  have hlz:=hz.len
                  have hB:=inX_B ((ok.nv m).mono (Nat.le_refl _) (Nat.le_refl _) |>.mono hlz hz.lc) hz.bd (slI h (level:Int))
                 all_goals (refine k_seq ?_;refine k_dp [(0,[]),(1,[]),(2,[]),(3,[]),(4,[]),(5,[]),(6,[]),(7,[]),(8,[2]),(9,[]),(10,[]),(11,[]),(12,[]),(13,[]),(14,[])] ?_;refine J17 ?_;refine r_load ?_;refine J17 ?_;refine r_move ?_;refine r_load ?_;refine r_move ?_;((refine r_own (i:=8) (hq:=(cM (hs:=xH k bx bm z.2.1.2.1 dn rs) (os:=xW z.2.1.2.1) (A0:=[(z.2.2.2.brA,refsC (resL (inX (nodeV x.L m) (slI h (level:Int)) z.2.1.1))),(z.2.2.2.prA,prC [])]) (hA:=by rw[ez];exact hasRes) (hc:=λ w hs=>alloc_c hg (n:=z.2.2.2) (xs:=resL (inX (nodeV x.L m) (slI h (level:Int)) z.2.1.1)) (ys:=[]) m _ (by rw[ez];exact resN_br _ _) (by rw[ez];exact resN_pr _ _) hB.len (Nat.zero_le _) (by rw[ez];exact hB.nvB _) (by omega) (by rw[ez,<- inX_V h48.2];exact hz.go) hz.ok hs))) (h:=λ x154=>?_);try (refine r_fact (λ h154=>?_))));((refine r_own (i:=9) (hq:=(cM (hs:=xH k bx bm x154.2.1 dn rs) (os:=xW x154.2.1) (hc:=λ w hs=>gcas_c hg k.t i m x154.1 _ ht (by have:=h154.len;omega) h154.bd h154.go h154.ok hs))) (h:=λ x155=>?_);try (refine r_fact (λ h155=>?_)))))
                 all_goals
                  have hch:=Ch.nx h155 (Ch.nx h154 (((Ch.base (F:=[])).nx hz).cons (f:=(z.2.2.1.1,refsC (resL (inX (nodeV x.L m) (slI h (level:Int)) z.2.1.1))))))
                  have hlc:x.cs.length<=x155.2.1.cs.length:=by have:=hz.lc;have:=h154.lc;have:=h155.lc;omega
                 all_goals (((refine r_own (i:=10) (hq:=(cV (hc:=λ w1 hw=>swapped_c _ _ _ _ w1))) (h:=λ x156=>?_);try (refine r_fact (λ h156=>?_))));refine r_ownP (i:=11) (hq:=(o_extr rf rfl)) (h:=?_);refine r_ownP (i:=12) (hq:=(o_extr rf rfl)) (h:=?_);refine J40 ?_)
                 all_goals
                  refine k_rt Tryz.results117 (λ w hw=>?_)
                  obtain⟨N,hN,hf⟩:=hch.to (t':=K (swpR false 0) (if x155.1=true then 1 else 0)) h155 (h155.go) hlc (Int.natCast_nonneg _)
                  exact⟨(swpR false 0,(if x155.1=true then 1 else 0),x155.2.1,N),rfl,hN,(hw.subF hf).finH (hF:=by exact FSub.all)⟩
               · try exact nv c134
         · try exact nv c125
set_option maxRecDepth 100000 in
theorem putLeaf_i(hg:g.Ok)(i m:Int){h:Nat}(hh:h<18446744073709551616)(level:Nat)(hlv:level<=1073741824)(gen:Int)(K:Rs->Int->Tr)(ht:k.t.root<=9223372036854775807)(hi:i<=x.L.length)(hm:m<=x.L.length)(hA:∀f∈famF x.L,f∈A)(hk:¬(nodeV x.L m).nd.kind=6){b:Int}(hl:lkV (nodeV x.L m).c (slI h (level:Int))=some b)(hi2:(nodeV x.L b).nd.kind=2)(go:Go' g x (putLeafT k i m h level gen K))(ok:x.Ok)(hs:SF w D (xH k bx bm x dn rs) A [] (xW x) w):Calls Tryz.prog 117 #[.pointer (some ⟨bx,0,none⟩),.int .i64 i,.int .i64 m,.int .u64 (h:Int),.int .i64 (level:Int),.int .i64 gen] w (PLq g x K bx bm k dn rs D w):=by
  have hyl:=ysL_of ok m
  have hlL:=ok.lL
  have hb:b<=x.L.length:=by have:=lkV_le (ok.nv m) (slI h (level:Int));rw[hl] at this;exact this
  refine enter Tryz.func117 Tryz.ntmps117 rfl rfl (xOpen2 hs) ?_
  simp only[mkS]
  all_goals (refine J0 ?_;refine j_alloc (λ x12=>?_);refine J27 ?_;refine k_dp [(0,[]),(1,[]),(2,[]),(3,[]),(4,[]),(5,[]),(6,[]),(7,[]),(8,[]),(9,[]),(10,[]),(11,[]),(12,[]),(13,[]),(14,[]),(15,[4,9,14]),(16,[9,14]),(17,[14]),(18,[])] ?_;refine J9 ?_;refine r_fieldAddr ?_;refine r_ownQ (i:=4) (hq:=(o_loadPart (k:=2) (vs:=[.int .i64 k.t.root,.bool k.t.ro]) rf atT ag1 rfl rfl)) (h:=?_);refine J63 ?_;refine J63 ?_;refine r_alloc (hfire:=(λ _=>by first|((repeat (first|exact FireAll.nil|refine FireAll.cons (by first|exact a_own (hq:=o_loadPart (k:=2) (vs:=[.int .i64 k.t.root,.bool k.t.ro]) rf atT ag1 rfl rfl)|exact a_load|exact a_un) ?_));done)|(refine fireall_fact ?_;(repeat (first|exact FireAll.nil|refine FireAll.cons (by first|exact a_own (hq:=o_loadPart (k:=2) (vs:=[.int .i64 k.t.root,.bool k.t.ro]) rf atT ag1 rfl rfl)|exact a_load|exact a_un) ?_));done))) (h:=λ x14=>?_);refine r_store (h:=λ _=>?_);refine J55 ?_;refine J11 ?_;(refine j_own (cM (hs:=xH k bx bm x dn rs) (os:=xW x) (hc:=λ w hs=>node_c m _ hm go ok hs)) (λ x48=>?_);try (refine l_fact (λ h48=>?_)));refine j_alloc (λ x17=>?_);refine J5 ?_;refine J72 ?_;refine J50 ?_)
  all_goals
   refine kif (λ c51=>?_) (λ c51=>?_)
   · try exact nv c51
     all_goals
      exact absurd c51 hk
   · try exact nv c51
     all_goals
      have g0:=h48.1.to (λ _=>if_neg hk)
      have g1:=go_some g0 (by rw[hl];rfl)
      rw[hl] at g1
     all_goals (refine J58 ?_;(refine j_own (cV (hc:=λ w1 hw=>refSliceA_c hh (level:Int) w1)) (λ x91=>?_);try (refine l_fact (λ h91=>?_)));refine J73 ?_;refine j_move ?_;refine j_build ?_;refine j_alloc (λ x23=>?_);refine J5 ?_;refine J71 ?_;(refine j_own (cV (hc:=λ w1 hw=>lkX_s (v:=(nodeV x.L m)) h48.2 hl (ok.rep hw hA m))) (λ x99=>?_);try (refine l_fact (λ h99=>?_)));refine j_move ?_;refine l_quiet (o_extr rf rfl) rfl ?_;refine l_quiet (o_extr rf rfl) rfl ?_;refine J8 ?_;refine J65 ?_)
     all_goals (first|refine j_un ?_|(refine j_yes ?_;refine j_move ?_)|(refine lcs 103 (λ g103=>?_) (λ g103=>?_)<;>(first|refine j_un ?_|(refine j_yes ?_;refine j_move ?_))))
     all_goals ((first|refine j_un ?_|(refine j_yes ?_;refine j_move ?_));((first|refine j_un ?_|(refine j_yes ?_;(refine j_own (cM (hs:=xH k bx bm x dn rs) (os:=xW x) (hc:=λ w hs=>node_c b _ hb g1 ok hs)) (λ x106=>?_);try (refine l_fact (λ h106=>?_))))));refine J87 ?_;refine l_nil ?_)
     all_goals
      refine kif (λ c109=>?_) (λ c109=>?_)
      · try exact nv c109
        all_goals
         have g2:=h106.1.to (λ _=>if_pos hi2)
        all_goals (refine J0 ?_;refine j_build ?_;refine J46 ?_)
        all_goals
         refine k_rt Tryz.results117 (λ w hw=>?_)
         exact⟨(Rs.zero,2,x,[]),rfl,⟨g2,ok,by simp,Nat.le_refl _,Int.natCast_nonneg _⟩,hw.finH (hF:=by exact FSub.nil)⟩
      · try exact nv c109
        all_goals
         exact absurd hi2 c109
set_option maxRecDepth 100000 in
theorem putLeaf_s(hg:g.Ok)(i m:Int){h:Nat}(hh:h<18446744073709551616)(level:Nat)(hlv:level<=1073741824)(gen:Int)(K:Rs->Int->Tr)(ht:k.t.root<=9223372036854775807)(hi:i<=x.L.length)(hm:m<=x.L.length)(hA:∀f∈famF x.L,f∈A)(hk:¬(nodeV x.L m).nd.kind=6){b:Int}(hl:lkV (nodeV x.L m).c (slI h (level:Int))=some b)(hi2:¬(nodeV x.L b).nd.kind=2)(he:(nodeV x.L b).nd.key=k.key)(go:Go' g x (putLeafT k i m h level gen K))(ok:x.Ok)(hs:SF w D (xH k bx bm x dn rs) A [] (xW x) w):Calls Tryz.prog 117 #[.pointer (some ⟨bx,0,none⟩),.int .i64 i,.int .i64 m,.int .u64 (h:Int),.int .i64 (level:Int),.int .i64 gen] w (PLq g x K bx bm k dn rs D w):=by
  have hyl:=ysL_of ok m
  have hlL:=ok.lL
  have hb:b<=x.L.length:=by have:=lkV_le (ok.nv m) (slI h (level:Int));rw[hl] at this;exact this
  refine enter Tryz.func117 Tryz.ntmps117 rfl rfl (xOpen2 hs) ?_
  simp only[mkS]
  all_goals (refine J0 ?_;refine j_alloc (λ x12=>?_);refine J27 ?_;refine k_dp [(0,[]),(1,[]),(2,[]),(3,[]),(4,[]),(5,[]),(6,[]),(7,[]),(8,[]),(9,[]),(10,[]),(11,[]),(12,[]),(13,[]),(14,[]),(15,[4,9,14]),(16,[9,14]),(17,[14]),(18,[])] ?_;refine J9 ?_;refine r_fieldAddr ?_;refine r_ownQ (i:=4) (hq:=(o_loadPart (k:=2) (vs:=[.int .i64 k.t.root,.bool k.t.ro]) rf atT ag1 rfl rfl)) (h:=?_);refine J63 ?_;refine J63 ?_;refine r_alloc (hfire:=(λ _=>by first|((repeat (first|exact FireAll.nil|refine FireAll.cons (by first|exact a_own (hq:=o_loadPart (k:=2) (vs:=[.int .i64 k.t.root,.bool k.t.ro]) rf atT ag1 rfl rfl)|exact a_load|exact a_un) ?_));done)|(refine fireall_fact ?_;(repeat (first|exact FireAll.nil|refine FireAll.cons (by first|exact a_own (hq:=o_loadPart (k:=2) (vs:=[.int .i64 k.t.root,.bool k.t.ro]) rf atT ag1 rfl rfl)|exact a_load|exact a_un) ?_));done))) (h:=λ x14=>?_);refine r_store (h:=λ _=>?_);refine J55 ?_;refine J11 ?_;(refine j_own (cM (hs:=xH k bx bm x dn rs) (os:=xW x) (hc:=λ w hs=>node_c m _ hm go ok hs)) (λ x48=>?_);try (refine l_fact (λ h48=>?_)));refine j_alloc (λ x17=>?_);refine J5 ?_;refine J72 ?_;refine J50 ?_)
  all_goals
   refine kif (λ c51=>?_) (λ c51=>?_)
   · try exact nv c51
     all_goals
      exact absurd c51 hk
   · try exact nv c51
     all_goals
      have g0:=h48.1.to (λ _=>if_neg hk)
      have g1:=go_some g0 (by rw[hl];rfl)
      rw[hl] at g1
     all_goals (refine J58 ?_;(refine j_own (cV (hc:=λ w1 hw=>refSliceA_c hh (level:Int) w1)) (λ x91=>?_);try (refine l_fact (λ h91=>?_)));refine J73 ?_;refine j_move ?_;refine j_build ?_;refine j_alloc (λ x23=>?_);refine J5 ?_;refine J71 ?_;(refine j_own (cV (hc:=λ w1 hw=>lkX_s (v:=(nodeV x.L m)) h48.2 hl (ok.rep hw hA m))) (λ x99=>?_);try (refine l_fact (λ h99=>?_)));refine j_move ?_;refine l_quiet (o_extr rf rfl) rfl ?_;refine l_quiet (o_extr rf rfl) rfl ?_;refine J8 ?_;refine J65 ?_)
     all_goals (first|refine j_un ?_|(refine j_yes ?_;refine j_move ?_)|(refine lcs 103 (λ g103=>?_) (λ g103=>?_)<;>(first|refine j_un ?_|(refine j_yes ?_;refine j_move ?_))))
     all_goals ((first|refine j_un ?_|(refine j_yes ?_;refine j_move ?_));((first|refine j_un ?_|(refine j_yes ?_;(refine j_own (cM (hs:=xH k bx bm x dn rs) (os:=xW x) (hc:=λ w hs=>node_c b _ hb g1 ok hs)) (λ x106=>?_);try (refine l_fact (λ h106=>?_))))));refine J87 ?_;refine l_nil ?_)
     all_goals
      refine kif (λ c109=>?_) (λ c109=>?_)
      · try exact nv c109
        all_goals
         exact absurd c109 hi2
      · try exact nv c109
        all_goals
         have g3:=(h106.1.to (λ _=>if_neg hi2)).to (λ _=>if_pos he)
        all_goals refine J58 ?_
        all_goals (first|refine j_un ?_|(refine j_yes ?_;refine j_move ?_)|(refine lcs 112 (λ g112=>?_) (λ g112=>?_)<;>(first|refine j_un ?_|(refine j_yes ?_;refine j_move ?_))))
        all_goals ((first|refine j_un ?_|(refine j_yes ?_;refine j_move ?_));((first|refine j_un ?_|(refine j_yes ?_;(refine j_own (cM (hs:=xH k bx bm x dn rs) (os:=xW x) (hc:=λ w hs=>xnode_c b (by omega) ok hs)) (λ x115=>?_);try (refine l_fact (λ h115=>?_))))));refine J81 ?_;(first|refine j_un ?_|(refine j_yes ?_;refine l_quiet (o_eqS_t rf rf he) rfl ?_));refine j_pick ?_;refine J73 ?_;(refine j_own (cM (hs:=xH k bx bm x dn rs) (os:=xW x) (hc:=λ w hs=>xnode_c b (by omega) ok hs)) (λ x122=>?_);try (refine l_fact (λ h122=>?_)));refine j_field ?_;refine J27 ?_;refine J2 ?_;refine J33 ?_)
        all_goals
         refine kif (λ c125=>?_) (λ c125=>?_)
         · try exact nv c125
         · try exact nv c125
           all_goals (refine J16 ?_;refine J11 ?_;refine j_move ?_;(refine j_own (cM (hs:=xH k bx bm x dn rs) (os:=xW x) (hc:=λ w hs=>permits_c _ _ hs)) (λ x129=>?_);try (refine l_fact (λ h129=>?_)));refine J33 ?_)
           all_goals
            refine kif (λ c130=>?_) (λ c130=>?_)
            · try exact nv c130
              all_goals
               have g2:=g3.to (λ _=>if_neg (show ¬permB k true (nodeV x.L b).nd.val=true from by simpa using c130))
              all_goals (refine J11 ?_;(refine j_own (cV (hc:=λ w1 hw=>rvalue_c _ _ w1)) (λ x133=>?_);try (refine l_fact (λ h133=>?_)));refine J46 ?_)
              all_goals
               refine k_rt Tryz.results117 (λ w hw=>?_)
               exact⟨(valR true (nodeV x.L b).nd.val,1,x,[]),rfl,⟨g2,ok,by simp,Nat.le_refl _,Int.natCast_nonneg _⟩,hw.finH (hF:=by exact FSub.nil)⟩
            · try exact nv c130
              all_goals
               have g2:=g3.to (λ _=>if_pos (show permB k true (nodeV x.L b).nd.val=true from by simpa using c130))
              all_goals (refine J37 ?_;refine J2 ?_;refine j_not ?_;refine J1 ?_)
              all_goals
               refine kif (λ c134=>?_) (λ c134=>?_)
               · try exact nv c134
               · try exact nv c134
                 all_goals (refine J2 ?_;refine J1 ?_)
                 all_goals
                  refine kif (λ c159=>?_) (λ c159=>?_)
                  · try exact nv c159
                    all_goals (refine k_seq ?_;refine k_dp [(0,[]),(1,[]),(2,[]),(3,[]),(4,[]),(5,[]),(6,[]),(7,[]),(8,[]),(9,[]),(13,[]),(10,[2]),(11,[2]),(12,[]),(14,[]),(15,[]),(16,[]),(17,[]),(18,[])] ?_;refine J17 ?_;refine r_load ?_;refine J17 ?_;refine J17 ?_;refine J17 ?_;refine r_load ?_;refine r_move ?_;((refine r_own (i:=10) (hq:=(cM (hs:=xH k bx bm x dn rs) (os:=xW x) (A0:=[(none,refsC []),(none,prC [])]) (hc:=λ w hs=>alloc_c hg (n:={Nd.zero with kind:=4,hash:=(h:Int),key:=k.key,val:=k.val}) (xs:=[]) (ys:=[]) 0 _ rfl rfl (by decide) (Nat.zero_le _) (nvB_sing hh) (Int.natCast_nonneg _) (g2) ok hs))) (h:=λ x171=>?_);try (refine r_fact (λ h171=>?_)))))
                    all_goals
                     have hch:=(Ch.base (F:=[])).nx h171
                    all_goals (((refine r_own (i:=11) (hq:=(cM (hs:=xH k bx bm x171.2.1 dn rs) (os:=xW x171.2.1) (A0:=famF x171.2.1.L) (hA:=Ch.all hch hA) (hc:=λ w hs=>replace_c hg m (slI h (level:Int)) x171.1 _ (by have:=h171.len;omega) h171.bd (λ f hf=>hf) h171.go h171.ok hs))) (h:=λ x172=>?_);try (refine r_fact (λ h172=>?_))));((refine r_own (i:=12) (hq:=(cM (hs:=xH k bx bm x172.2.1 dn rs) (os:=xW x172.2.1) (hc:=λ w hs=>gcas_c hg k.t i m x172.1 _ ht (by have:=h171.len;have:=h172.len;omega) h172.bd h172.go h172.ok hs))) (h:=λ x173=>?_);try (refine r_fact (λ h173=>?_)))))
                    all_goals
                     have hch2:=Ch.nx h173 (Ch.nx h172 hch)
                     have hlc:x.cs.length<=x173.2.1.cs.length:=by have:=h171.lc;have:=h172.lc;have:=h173.lc;omega
                    all_goals (((refine r_own (i:=14) (hq:=(cV (hc:=λ w1 hw=>swapped_c _ _ _ _ w1))) (h:=λ x175=>?_);try (refine r_fact (λ h175=>?_))));refine r_ownP (i:=15) (hq:=(o_extr rf rfl)) (h:=?_);refine r_ownP (i:=16) (hq:=(o_extr rf rfl)) (h:=?_);refine J40 ?_)
                    all_goals
                     refine k_rt Tryz.results117 (λ w hw=>?_)
                     obtain⟨N,hN,hf⟩:=hch2.to (t':=K (swpR true (nodeV x.L b).nd.val) (if x173.1=true then 1 else 0)) h173 (h173.go) hlc (Int.natCast_nonneg _)
                     exact⟨(swpR true (nodeV x.L b).nd.val,(if x173.1=true then 1 else 0),x173.2.1,N),rfl,hN,(hw.subF hf).finH (hF:=by exact FSub.all)⟩
                  · try exact nv c159
set_option maxRecDepth 100000 in
theorem putLeaf_d(hg:g.Ok)(i m:Int){h:Nat}(hh:h<18446744073709551616)(level:Nat)(hlv:level<=1073741824)(gen:Int)(K:Rs->Int->Tr)(ht:k.t.root<=9223372036854775807)(hi:i<=x.L.length)(hm:m<=x.L.length)(hA:∀f∈famF x.L,f∈A)(hk:¬(nodeV x.L m).nd.kind=6){b:Int}(hl:lkV (nodeV x.L m).c (slI h (level:Int))=some b)(hi2:¬(nodeV x.L b).nd.kind=2)(he:¬(nodeV x.L b).nd.key=k.key)(go:Go' g x (putLeafT k i m h level gen K))(ok:x.Ok)(hs:SF w D (xH k bx bm x dn rs) A [] (xW x) w):Calls Tryz.prog 117 #[.pointer (some ⟨bx,0,none⟩),.int .i64 i,.int .i64 m,.int .u64 (h:Int),.int .i64 (level:Int),.int .i64 gen] w (PLq g x K bx bm k dn rs D w):=by
  have hyl:=ysL_of ok m
  have hlL:=ok.lL
  have hb:b<=x.L.length:=by have:=lkV_le (ok.nv m) (slI h (level:Int));rw[hl] at this;exact this
  refine enter Tryz.func117 Tryz.ntmps117 rfl rfl (xOpen2 hs) ?_
  simp only[mkS]
  all_goals (refine J0 ?_;refine j_alloc (λ x12=>?_);refine J27 ?_;refine k_dp [(0,[]),(1,[]),(2,[]),(3,[]),(4,[]),(5,[]),(6,[]),(7,[]),(8,[]),(9,[]),(10,[]),(11,[]),(12,[]),(13,[]),(14,[]),(15,[4,9,14]),(16,[9,14]),(17,[14]),(18,[])] ?_;refine J9 ?_;refine r_fieldAddr ?_;refine r_ownQ (i:=4) (hq:=(o_loadPart (k:=2) (vs:=[.int .i64 k.t.root,.bool k.t.ro]) rf atT ag1 rfl rfl)) (h:=?_);refine J63 ?_;refine J63 ?_;refine r_alloc (hfire:=(λ _=>by first|((repeat (first|exact FireAll.nil|refine FireAll.cons (by first|exact a_own (hq:=o_loadPart (k:=2) (vs:=[.int .i64 k.t.root,.bool k.t.ro]) rf atT ag1 rfl rfl)|exact a_load|exact a_un) ?_));done)|(refine fireall_fact ?_;(repeat (first|exact FireAll.nil|refine FireAll.cons (by first|exact a_own (hq:=o_loadPart (k:=2) (vs:=[.int .i64 k.t.root,.bool k.t.ro]) rf atT ag1 rfl rfl)|exact a_load|exact a_un) ?_));done))) (h:=λ x14=>?_);refine r_store (h:=λ _=>?_);refine J55 ?_;refine J11 ?_;(refine j_own (cM (hs:=xH k bx bm x dn rs) (os:=xW x) (hc:=λ w hs=>node_c m _ hm go ok hs)) (λ x48=>?_);try (refine l_fact (λ h48=>?_)));refine j_alloc (λ x17=>?_);refine J5 ?_;refine J72 ?_;refine J50 ?_)
  all_goals
   refine kif (λ c51=>?_) (λ c51=>?_)
   · try exact nv c51
     all_goals
      exact absurd c51 hk
   · try exact nv c51
     all_goals
      have g0:=h48.1.to (λ _=>if_neg hk)
      have g1:=go_some g0 (by rw[hl];rfl)
      rw[hl] at g1
     all_goals (refine J58 ?_;(refine j_own (cV (hc:=λ w1 hw=>refSliceA_c hh (level:Int) w1)) (λ x91=>?_);try (refine l_fact (λ h91=>?_)));refine J73 ?_;refine j_move ?_;refine j_build ?_;refine j_alloc (λ x23=>?_);refine J5 ?_;refine J71 ?_;(refine j_own (cV (hc:=λ w1 hw=>lkX_s (v:=(nodeV x.L m)) h48.2 hl (ok.rep hw hA m))) (λ x99=>?_);try (refine l_fact (λ h99=>?_)));refine j_move ?_;refine l_quiet (o_extr rf rfl) rfl ?_;refine l_quiet (o_extr rf rfl) rfl ?_;refine J8 ?_;refine J65 ?_)
     all_goals (first|refine j_un ?_|(refine j_yes ?_;refine j_move ?_)|(refine lcs 103 (λ g103=>?_) (λ g103=>?_)<;>(first|refine j_un ?_|(refine j_yes ?_;refine j_move ?_))))
     all_goals ((first|refine j_un ?_|(refine j_yes ?_;refine j_move ?_));((first|refine j_un ?_|(refine j_yes ?_;(refine j_own (cM (hs:=xH k bx bm x dn rs) (os:=xW x) (hc:=λ w hs=>node_c b _ hb g1 ok hs)) (λ x106=>?_);try (refine l_fact (λ h106=>?_))))));refine J87 ?_;refine l_nil ?_)
     all_goals
      refine kif (λ c109=>?_) (λ c109=>?_)
      · try exact nv c109
        all_goals
         exact absurd c109 hi2
      · try exact nv c109
        all_goals
         have g3:=(h106.1.to (λ _=>if_neg hi2)).to (λ _=>if_neg he)
        all_goals refine J58 ?_
        all_goals (first|refine j_un ?_|(refine j_yes ?_;refine j_move ?_)|(refine lcs 112 (λ g112=>?_) (λ g112=>?_)<;>(first|refine j_un ?_|(refine j_yes ?_;refine j_move ?_))))
        all_goals ((first|refine j_un ?_|(refine j_yes ?_;refine j_move ?_));((first|refine j_un ?_|(refine j_yes ?_;(refine j_own (cM (hs:=xH k bx bm x dn rs) (os:=xW x) (hc:=λ w hs=>xnode_c b (by omega) ok hs)) (λ x115=>?_);try (refine l_fact (λ h115=>?_))))));refine J81 ?_;(first|refine j_un ?_|(refine j_yes ?_;refine l_quiet (o_eqS_f rf rf he) rfl ?_));refine j_pick ?_;refine J73 ?_;(refine j_own (cM (hs:=xH k bx bm x dn rs) (os:=xW x) (hc:=λ w hs=>xnode_c b (by omega) ok hs)) (λ x122=>?_);try (refine l_fact (λ h122=>?_)));refine j_field ?_;refine J27 ?_;refine J2 ?_;refine J33 ?_)
        all_goals
         refine kif (λ c125=>?_) (λ c125=>?_)
         · try exact nv c125
           all_goals (refine k_region ?_;refine J27 ?_;refine J11 ?_;refine j_move ?_;(refine j_own (cM (hs:=xH k bx bm x dn rs) (os:=xW x) (hc:=λ w hs=>permits_c _ _ hs)) (λ x129=>?_);try (refine l_fact (λ h129=>?_)));refine J33 ?_)
           all_goals
            refine kif (λ c130=>?_) (λ c130=>?_)
            · try exact nv c130
              all_goals
               have g2:=g3.to (λ _=>if_neg (show ¬permB k false 0=true from by simpa using c130))
              all_goals (refine J11 ?_;(refine j_own (cV (hc:=λ w1 hw=>rvalue_c _ _ w1)) (λ x133=>?_);try (refine l_fact (λ h133=>?_)));refine J46 ?_)
              all_goals
               refine k_rt Tryz.results117 (λ w hw=>?_)
               exact⟨(valR false 0,1,x,[]),rfl,⟨g2,ok,by simp,Nat.le_refl _,Int.natCast_nonneg _⟩,hw.finH (hF:=by exact FSub.nil)⟩
            · try exact nv c130
              all_goals
               have g2:=g3.to (λ _=>if_pos (show permB k false 0=true from by simpa using c130))
              all_goals (refine J37 ?_;refine J2 ?_;refine j_not ?_;refine J1 ?_)
              all_goals
               refine kif (λ c134=>?_) (λ c134=>?_)
               · try exact nv c134
               · try exact nv c134
                 all_goals (refine J2 ?_;refine J1 ?_)
                 all_goals
                  refine kif (λ c159=>?_) (λ c159=>?_)
                  · try exact nv c159
                  · try exact nv c159
                    all_goals (refine J34 ?_;refine J11 ?_;refine j_build ?_;refine J35 ?_;refine J35 ?_;refine j_inc ?_;refine j_move ?_;(refine j_own (cM (hs:=xH k bx bm x dn rs) (os:=xW x) (hc:=λ w hs=>dual_c hg b hh (level+1) gen _ hb g2 ok hs)) (λ x187=>?_);try (refine l_fact (λ h187=>?_)));(refine j_own (cM (hs:=xH k bx bm x187.2.1 dn rs) (os:=xW x187.2.1) (A0:=[(none,refsC []),(none,prC [])]) (hc:=λ w hs=>alloc_c hg (n:={Nd.zero with kind:=2,gen:=gen}) (xs:=[]) (ys:=[]) x187.1 _ rfl rfl (by decide) (Nat.zero_le _) nvB_inode h187.bd h187.go h187.ok hs)) (λ x188=>?_);try (refine l_fact (λ h188=>?_))))
                    all_goals
                     have hch:=Ch.nx h188 ((Ch.base (F:=[])).nx h187)
                    all_goals (refine J27 ?_;refine k_dp [(0,[]),(1,[]),(2,[]),(3,[]),(4,[]),(5,[]),(6,[]),(7,[]),(8,[]),(9,[2]),(10,[]),(11,[]),(12,[]),(13,[]),(14,[]),(15,[])] ?_;refine J17 ?_;refine r_load ?_;refine J17 ?_;refine J17 ?_;refine J17 ?_;((refine r_own (i:=9) (hq:=(cM (hs:=xH k bx bm x188.2.1 dn rs) (os:=xW x188.2.1) (A0:=famF x188.2.1.L) (hA:=Ch.all hch hA) (hc:=λ w hs=>replace_c hg m (slI h (level:Int)) x188.1 _ (by have:=h187.len;have:=h188.len;omega) h188.bd (λ f hf=>hf) h188.go h188.ok hs))) (h:=λ x198=>?_);try (refine r_fact (λ h198=>?_))));((refine r_own (i:=10) (hq:=(cM (hs:=xH k bx bm x198.2.1 dn rs) (os:=xW x198.2.1) (hc:=λ w hs=>gcas_c hg k.t i m x198.1 _ ht (by have:=h187.len;have:=h188.len;have:=h198.len;omega) h198.bd h198.go h198.ok hs))) (h:=λ x199=>?_);try (refine r_fact (λ h199=>?_)))))
                    all_goals
                     have hch2:=Ch.nx h199 (Ch.nx h198 hch)
                     have hlc:x.cs.length<=x199.2.1.cs.length:=by have:=h187.lc;have:=h188.lc;have:=h198.lc;have:=h199.lc;omega
                    all_goals (((refine r_own (i:=11) (hq:=(cV (hc:=λ w1 hw=>swapped_c _ _ _ _ w1))) (h:=λ x200=>?_);try (refine r_fact (λ h200=>?_))));refine r_ownP (i:=12) (hq:=(o_extr rf rfl)) (h:=?_);refine r_ownP (i:=13) (hq:=(o_extr rf rfl)) (h:=?_);refine J40 ?_)
                    all_goals
                     refine k_rt Tryz.results117 (λ w hw=>?_)
                     obtain⟨N,hN,hf⟩:=hch2.to (t':=K (swpR false 0) (if x199.1=true then 1 else 0)) h199 (h199.go) hlc (Int.natCast_nonneg _)
                     exact⟨(swpR false 0,(if x199.1=true then 1 else 0),x199.2.1,N),rfl,hN,(hw.subF hf).finH (hF:=by exact FSub.all)⟩
         · try exact nv c125
theorem putLeaf_c(hg:g.Ok)(i m:Int){h:Nat}(hh:h<18446744073709551616)(level:Nat)(hlv:level<=1073741824)(gen:Int)(K:Rs->Int->Tr)(ht:k.t.root<=9223372036854775807)(hi:i<=x.L.length)(hm:m<=x.L.length)(hA:∀f∈famF x.L,f∈A)(go:Go' g x (putLeafT k i m h level gen K))(ok:x.Ok)(hs:SF w D (xH k bx bm x dn rs) A [] (xW x) w):Calls Tryz.prog 117 #[.pointer (some ⟨bx,0,none⟩),.int .i64 i,.int .i64 m,.int .u64 (h:Int),.int .i64 (level:Int),.int .i64 gen] w (PLq g x K bx bm k dn rs D w):=by
 by_cases hk:(nodeV x.L m).nd.kind=6
 ·exact putLeaf_l hg i m hh level hlv gen K ht hi hm hA hk go ok hs
 ·cases hl:lkV (nodeV x.L m).c (slI h (level:Int)) with
  | none=>exact putLeaf_n hg i m hh level hlv gen K ht hi hm hA hk hl go ok hs
  | some b =>
   by_cases hi2:(nodeV x.L b).nd.kind=2
   ·exact putLeaf_i hg i m hh level hlv gen K ht hi hm hA hk hl hi2 go ok hs
   ·by_cases he:(nodeV x.L b).nd.key=k.key
    ·exact putLeaf_s hg i m hh level hlv gen K ht hi hm hA hk hl hi2 he go ok hs
    ·exact putLeaf_d hg i m hh level hlv gen K ht hi hm hA hk hl hi2 he go ok hs
end
end Go.Proofs.YtpobgmdalcpomaaGreat

/- Executions of the reference: one attempt of DROP at a leaf. -/
import Derived.Test.YtpobgmdalcpomaaGreatGEx18
set_option linter.unusedSimpArgs false
set_option linter.unusedVariables false
namespace Go.Ct
open Go Go.RowKit
theorem go_node{g:Gx}{x:XS}{r:Int}{K:Nv->Tr}(h:Go' g x (.node r K))(hr:r<=x.L.length):Go' g x (K (nodeV x.L r).c):=by
 have:=h.node hr
 rwa [show ndAt x.nodes r=(nodeV x.L r).c from(nodeV_c x.L r).symm] at this
section
variable{P:Program}{S:List (Nat×Value)}{G:World->Prop}{d:Nat}{ty t t':TypeId}{pos:String}{af:Array Edge}{gd:Option (Nat×Bool)}{x y:Operand}{a b:ByteArray}
theorem o_neS_t(hx:ev S x=.string a)(hy:ev S y=.string b)(h:¬a=b):Quiet P S G ⟨some d,.binOp .neq t x y t',ty,pos,af,gd⟩ (.bool true):=by
 have:=o_neqStr (P:=P) (G:=G) (d:=d) (ty:=ty) (pos:=pos) (af:=af) (gd:=gd) (t:=t) (t':=t') hx hy
 rwa [bne,str_f h] at this
theorem o_neS_f(hx:ev S x=.string a)(hy:ev S y=.string b)(h:a=b):Quiet P S G ⟨some d,.binOp .neq t x y t',ty,pos,af,gd⟩ (.bool false):=by
 have:=o_neqStr (P:=P) (G:=G) (d:=d) (ty:=ty) (pos:=pos) (af:=af) (gd:=gd) (t:=t) (t':=t') hx hy
 rwa [bne,str_t h] at this
end
end Go.Ct
namespace Go.Proofs.YtpobgmdalcpomaaGreat
open Go Go.RowKit Go.Ct
theorem soRes_c{m:Nat}{o:Option (Nat×List Int)}{w:World}(h:ResB m o){x:Option Addr×Nat}{r:Nv}(e:r=(resN o x).c (resL o) [])(hc:Go.Ct.Cl w x.1 (refsC (resL o))):Calls Tryz.prog 136 #[(resN o x).v] w λ e w'=>e=.returned (.tuple #[.int .i64 ((soV r).getD 0),.bool (soV r).isSome])/\St w [] [] w':=by
 obtain⟨b,h1,h2⟩:=resN_nat h x
 have:=refSole_c (n:=resN o x) h1 h2 (resN_rep h hc)
 rw[so_c,<- e] at this
 exact this
theorem so_le{m:Nat}{o:Option (Nat×List Int)}(h:ResB m o){x:Option Addr×Nat}{r:Nv}(e:r=(resN o x).c (resL o) []):(soV r).getD 0<=m:=by
 rw[e,<- so_c]
 unfold soO
 split
 ·refine getD_le (λ v hv=>?_) 0
  cases o with
  | none=>exact(List.not_mem_nil hv).elim
  | some q=>exact(h.out q rfl).2.2 v hv
 ·exact Int.natCast_nonneg _
section
variable{k:Cl}{bx bm:Nat}{x:XS}{dn:Bool}{rs:Rs}{D:List Nat}{A:Fr}{w:World}{g:Gx}
set_option maxRecDepth 100000 in
theorem dropLeaf_l(hg:g.Ok)(i m:Int){h:Nat}(hh:h<18446744073709551616)(level:Nat)(hlv:level<=1073741824)(K:Rs->Int->Tr)(ht:k.t.root<=9223372036854775807)(hi:i<=x.L.length)(hm:m<=x.L.length)(hA:∀f∈famF x.L,f∈A)(hk:(nodeV x.L m).nd.kind=6)(go:Go' g x (dropLeafT k i m h level K))(ok:x.Ok)(hs:SF w D (xH k bx bm x dn rs) A [] (xW x) w):Calls Tryz.prog 119 #[.pointer (some ⟨bx,0,none⟩),.int .i64 i,.int .i64 m,.int .u64 (h:Int),.int .i64 (level:Int)] w (PLq g x K bx bm k dn rs D w):=by
  have hyl:=ysL_of ok m
  have hlL:=ok.lL
  have h48:Go' g x _/\NvB x.L.length x.cs.length (nodeV x.L m).c:=⟨go_node go hm,ok.nv m⟩
  refine enter Tryz.func119 Tryz.ntmps119 rfl rfl (xOpen2 hs) ?_
  simp only[mkS]
  all_goals (refine J0 ?_;refine j_alloc (λ x10=>?_);refine J27 ?_)
  all_goals
   refine k_joinG [12,13,26,27,28,29,30,31,32,33] (λ j:Nat=>[(12,.pointer (some ⟨j,0,none⟩)),(13,.string k.key)]) (λ _=>True) (λ j=>[(j,.cells ⟨(nodeV x.L m).nd.cells⟩ 59 (0,0)),(x10,.cells ⟨Rs.zero.cells⟩ 81 (0,0)),(bx,xO k bm x dn rs),(bm,xM x)]) (λ _=>[]) (λ _=>xW x) (by decide) (λ _=>by exact rfl) ?_ (λ j f hx=>?_)
   · refine k_drawF (.one 0 [] (.one 1 [] (.one 3 [] (.one 4 [] (.one 5 [] (.one 6 [] (.one 7 [] (.two 2 [7] (.one 8 [7] (.one 9 [7] (.one 10 [] .nil))) 0 [] (.two 8 [7] (.one 2 [7] (.one 9 [7] (.one 10 [] .nil))) 0 [] .nil))))))))) ?_
     all_goals (refine J17 ?_;refine J63 ?_)
     all_goals
      refine r_many (E:=[2,8]) (by decide +kernel) ((.cons ?_ (.cons ?_ .nil)))
      · (refine s_own (i:=2) (hq:=(cM (hs:=xH k bx bm x dn rs) (os:=xW x) (hc:=λ w hs=>xnode_c m (by omega) ok hs))) (h:=λ x28=>?_);try (refine r_fact (λ h28=>?_)))
        all_goals (refine r_alloc (h:=λ x12=>?_);refine J40 ?_)
        all_goals
         refine k_rj (x12) ?_
         · trivial
      · refine s_alloc (i:=8) (h:=λ x12=>?_)
        all_goals (((refine r_own (i:=2) (hq:=(cM (hs:=xH k bx bm x dn rs) (os:=xW x) (hc:=λ w hs=>xnode_c m (by omega) ok hs))) (h:=λ x28=>?_);try (refine r_fact (λ h28=>?_))));refine J40 ?_)
        all_goals
         refine k_rj (x12) ?_
         · trivial
   dsimp only[mkU,List.map,List.cons_append,List.nil_append]
  all_goals (refine J72 ?_;refine J50 ?_)
  all_goals
   refine kif (λ c36=>?_) (λ c36=>?_)
   · try exact nv c36
     all_goals
      have g1:=h48.1.to (λ _=>if_pos hk)
     all_goals (refine J24 ?_;refine j_move ?_;(refine j_own (cV (hc:=λ w1 hw=>findX_c (v:=(nodeV x.L m)) (n:=0) k.key (ok.rep hw hA m) (ok.ysl m))) (λ x41=>?_);try (refine l_fact (λ h41=>?_)));refine j_move ?_;refine l_quiet (o_extr rf rfl) rfl ?_;refine l_quiet (o_extr rf rfl) rfl ?_;refine J8 ?_;refine J32 ?_;refine J59 ?_)
     all_goals (first|refine j_un ?_|refine j_unu ?_|(refine j_yes ?_;refine j_move ?_)|(refine lcs 46 (λ g46=>?_) (λ g46=>?_)<;>(first|refine j_un ?_|refine j_unu ?_|(refine j_yes ?_;refine j_move ?_))))
     all_goals ((first|refine j_un ?_|refine j_unu ?_|(refine j_yes ?_;refine j_nilCheck ?_));(first|refine j_un ?_|refine j_unu ?_|(refine j_yes ?_;refine j_fieldAddr ?_));(first|refine j_un ?_|refine j_unu ?_|(refine j_yes ?_;refine j_fieldAddr ?_));(first|refine j_un ?_|refine j_unu ?_|(refine j_yes ?_;refine j_load ?_));(first|refine j_un ?_|refine j_unu ?_|(refine j_yes ?_;refine j_move ?_)))
     all_goals (first|refine j_un ?_|refine j_unu ?_|(refine j_yes ?_;refine j_move ?_)|(refine lcs 52 (λ g52=>?_) (λ g52=>?_)<;>(first|refine j_un ?_|refine j_unu ?_|(refine j_yes ?_;refine j_move ?_))))
     all_goals ((first|refine j_un ?_|refine j_unu ?_|(refine j_yes ?_;refine j_move ?_));(first|refine j_un ?_|refine j_unu ?_|(refine j_yes ?_;refine j_nilCheck ?_));(first|refine j_un ?_|refine j_unu ?_|(refine j_yes ?_;refine j_fieldAddr ?_));(first|refine j_un ?_|refine j_unu ?_|(refine j_yes ?_;refine j_fieldAddr ?_));(first|refine j_un ?_|refine j_unu ?_|(refine j_yes ?_;refine j_load ?_));(first|refine j_un ?_|refine j_unu ?_|(refine j_yes ?_;refine j_neq ?_));(first|refine j_un ?_|refine j_unu ?_|(refine j_yes ?_;refine j_pick ?_));refine j_pick ?_;refine l_nil ?_)
     all_goals
      refine kif (λ c61=>?_) (λ c61=>?_)
      · try exact nv c61
        all_goals
         have g2:=g1.to (λ _=>if_pos (show((findO (nodeV x.L m).c.ys k.key).isSome=false∨(k.only=true/\(findO (nodeV x.L m).c.ys k.key).getD 0≠k.exp)) from by first|exact Or.inl (by assumption)|exact Or.inl (by simpa using g46)|exact Or.inr ⟨by assumption,by assumption⟩))
        all_goals (refine J11 ?_;(refine j_own (cV (hc:=λ w1 hw=>rvalue_c _ _ w1)) (λ x64=>?_);try (refine l_fact (λ h64=>?_)));refine J46 ?_)
        all_goals
         refine k_rt Tryz.results119 (λ w hw=>?_)
         exact⟨(valR (findO (nodeV x.L m).c.ys k.key).isSome ((findO (nodeV x.L m).c.ys k.key).getD 0),1,x,[]),rfl,⟨g2,ok,by simp,Nat.le_refl _,Int.natCast_nonneg _⟩,hw.finH (hF:=by exact FSub.nil)⟩
      · try exact nv c61
        all_goals
         have g2:=g1.to (λ _=>if_neg (show ¬((findO (nodeV x.L m).c.ys k.key).isSome=false∨(k.only=true/\(findO (nodeV x.L m).c.ys k.key).getD 0≠k.exp)) from by rintro (h|⟨h,h'⟩)<;>simp_all))
        all_goals (refine k_skip ?_;refine J71 ?_;(refine j_own (cF (hc:=λ w1 hw=>shX_c (v:=(nodeV x.L m)) h48.2 k.key (ok.rep hw hA m) (by omega))) (λ x68=>?_);try (refine l_fact (λ h68=>?_)));refine j_move ?_;refine l_quiet (o_extr rf rfl) rfl ?_;refine l_quiet (o_extr rf rfl) rfl ?_;refine j_alloc (λ x16=>?_);refine j_store (λ _=>?_);refine J27 ?_;refine k_dp [(0,[]),(1,[]),(2,[]),(3,[]),(4,[]),(5,[]),(6,[]),(7,[]),(8,[]),(9,[]),(10,[]),(11,[]),(14,[]),(12,[6]),(13,[]),(15,[]),(16,[]),(17,[]),(18,[]),(19,[])] ?_;refine J17 ?_;refine J9 ?_;refine r_fieldAddr ?_;refine r_ownQ (i:=6) (hq:=(o_loadPart (k:=2) (vs:=[.int .i64 k.t.root,.bool k.t.ro]) rf atT ag1 rfl rfl)) (h:=?_);refine J17 ?_;refine r_move ?_;refine r_load ?_;refine J17 ?_;((refine r_own (i:=12) (hq:=(cM (hs:=xH k bx bm x dn rs) (os:=xW x) (A0:=[((shN (shrO (nodeV x.L m).nd (nodeV x.L m).xs (nodeV x.L m).ys k.key) (nodeV x.L m).nd.hash x68).brA,refsC []),((shN (shrO (nodeV x.L m).nd (nodeV x.L m).xs (nodeV x.L m).ys k.key) (nodeV x.L m).nd.hash x68).prA,prC (shL (shrO (nodeV x.L m).nd (nodeV x.L m).xs (nodeV x.L m).ys k.key)))]) (hA:=hasSh) (hc:=λ w hs=>alloc_c hg (n:=shN (shrO (nodeV x.L m).nd (nodeV x.L m).xs (nodeV x.L m).ys k.key) (nodeV x.L m).nd.hash x68) (xs:=[]) (ys:=shL (shrO (nodeV x.L m).nd (nodeV x.L m).xs (nodeV x.L m).ys k.key)) m _ (shN_br _ _ _).1 (shN_br _ _ _).2 (by decide) (by have:=sh_len (nodeV x.L m).xs (nodeV x.L m).ys (nodeV x.L m).nd k.key;omega) (nvB_sh _ h48.2.hash) hm (by rw[sh_c];exact g2) ok hs))) (hfire:=(λ _=>by first|(refine FireAll.cons (by first|exact a_own (hq:=o_loadPart (k:=2) (vs:=[.int .i64 k.t.root,.bool k.t.ro]) rf atT ag1 rfl rfl)|exact a_un) ?_;exact FireAll.nil)|(refine fireall_fact ?_;refine FireAll.cons (by first|exact a_own (hq:=o_loadPart (k:=2) (vs:=[.int .i64 k.t.root,.bool k.t.ro]) rf atT ag1 rfl rfl)|exact a_un) ?_;exact FireAll.nil))) (h:=λ x83=>?_);try (refine r_fact (λ h83=>?_))));((refine r_own (i:=13) (hq:=(cM (hs:=xH k bx bm x83.2.1 dn rs) (os:=xW x83.2.1) (hc:=λ w hs=>gcas_c hg k.t i m x83.1 _ ht (by have:=h83.len;omega) h83.bd h83.go h83.ok hs))) (h:=λ x84=>?_);try (refine r_fact (λ h84=>?_)))))
        all_goals
         have hch:=Ch.nx h84 (Ch.nx h83 ((Ch.base (F:=[])).cons (f:=(x68.1,prC (shL (shrO (nodeV x.L m).nd (nodeV x.L m).xs (nodeV x.L m).ys k.key))))))
         have hlc:x.cs.length<=x84.2.1.cs.length:=by have:=h83.lc;have:=h84.lc;omega
        all_goals (((refine r_own (i:=15) (hq:=(cV (hc:=λ w1 hw=>swapped_c _ _ _ _ w1))) (h:=λ x86=>?_);try (refine r_fact (λ h86=>?_))));refine r_ownP (i:=16) (hq:=(o_extr rf rfl)) (h:=?_);refine r_ownP (i:=17) (hq:=(o_extr rf rfl)) (h:=?_);refine J40 ?_)
        all_goals
         refine k_rt Tryz.results119 (λ w hw=>?_)
         obtain⟨N,hN,hf⟩:=hch.to (t':=K (swpR true ((findO (nodeV x.L m).c.ys k.key).getD 0)) (if x84.1=true then 1 else 0)) h84 (h84.go) hlc (Int.natCast_nonneg _)
         exact⟨(swpR true ((findO (nodeV x.L m).c.ys k.key).getD 0),(if x84.1=true then 1 else 0),x84.2.1,N),rfl,hN,(hw.subF hf).finH (hF:=by exact FSub.all)⟩
   · try exact nv c36
     all_goals
      exact absurd hk c36
set_option maxRecDepth 100000 in
theorem dropLeaf_n(hg:g.Ok)(i m:Int){h:Nat}(hh:h<18446744073709551616)(level:Nat)(hlv:level<=1073741824)(K:Rs->Int->Tr)(ht:k.t.root<=9223372036854775807)(hi:i<=x.L.length)(hm:m<=x.L.length)(hA:∀f∈famF x.L,f∈A)(hk:¬(nodeV x.L m).nd.kind=6)(hl:lkV (nodeV x.L m).c (slI h (level:Int))=none)(go:Go' g x (dropLeafT k i m h level K))(ok:x.Ok)(hs:SF w D (xH k bx bm x dn rs) A [] (xW x) w):Calls Tryz.prog 119 #[.pointer (some ⟨bx,0,none⟩),.int .i64 i,.int .i64 m,.int .u64 (h:Int),.int .i64 (level:Int)] w (PLq g x K bx bm k dn rs D w):=by
  have hyl:=ysL_of ok m
  have hlL:=ok.lL
  have h48:Go' g x _/\NvB x.L.length x.cs.length (nodeV x.L m).c:=⟨go_node go hm,ok.nv m⟩
  refine enter Tryz.func119 Tryz.ntmps119 rfl rfl (xOpen2 hs) ?_
  simp only[mkS]
  all_goals (refine J0 ?_;refine j_alloc (λ x10=>?_);refine J27 ?_)
  all_goals
   refine k_joinG [12,13,26,27,28,29,30,31,32,33] (λ j:Nat=>[(12,.pointer (some ⟨j,0,none⟩)),(13,.string k.key)]) (λ _=>True) (λ j=>[(j,.cells ⟨(nodeV x.L m).nd.cells⟩ 59 (0,0)),(x10,.cells ⟨Rs.zero.cells⟩ 81 (0,0)),(bx,xO k bm x dn rs),(bm,xM x)]) (λ _=>[]) (λ _=>xW x) (by decide) (λ _=>by exact rfl) ?_ (λ j f hx=>?_)
   · refine k_drawF (.one 0 [] (.one 1 [] (.one 3 [] (.one 4 [] (.one 5 [] (.one 6 [] (.one 7 [] (.two 2 [7] (.one 8 [7] (.one 9 [7] (.one 10 [] .nil))) 0 [] (.two 8 [7] (.one 2 [7] (.one 9 [7] (.one 10 [] .nil))) 0 [] .nil))))))))) ?_
     all_goals (refine J17 ?_;refine J63 ?_)
     all_goals
      refine r_many (E:=[2,8]) (by decide +kernel) ((.cons ?_ (.cons ?_ .nil)))
      · (refine s_own (i:=2) (hq:=(cM (hs:=xH k bx bm x dn rs) (os:=xW x) (hc:=λ w hs=>xnode_c m (by omega) ok hs))) (h:=λ x28=>?_);try (refine r_fact (λ h28=>?_)))
        all_goals (refine r_alloc (h:=λ x12=>?_);refine J40 ?_)
        all_goals
         refine k_rj (x12) ?_
         · trivial
      · refine s_alloc (i:=8) (h:=λ x12=>?_)
        all_goals (((refine r_own (i:=2) (hq:=(cM (hs:=xH k bx bm x dn rs) (os:=xW x) (hc:=λ w hs=>xnode_c m (by omega) ok hs))) (h:=λ x28=>?_);try (refine r_fact (λ h28=>?_))));refine J40 ?_)
        all_goals
         refine k_rj (x12) ?_
         · trivial
   dsimp only[mkU,List.map,List.cons_append,List.nil_append]
  all_goals (refine J72 ?_;refine J50 ?_)
  all_goals
   refine kif (λ c36=>?_) (λ c36=>?_)
   · try exact nv c36
     all_goals
      exact absurd c36 hk
   · try exact nv c36
     all_goals
      have g0:=h48.1.to (λ _=>if_neg hk)
      have g1:=go_none g0 (by rw[hl];rfl)
     all_goals (refine J58 ?_;(refine j_own (cV (hc:=λ w1 hw=>refSliceA_c hh (level:Int) w1)) (λ x91=>?_);try (refine l_fact (λ h91=>?_)));refine J1 ?_;refine J71 ?_;(refine j_own (cV (hc:=λ w1 hw=>lkX_n (v:=(nodeV x.L m)) h48.2 hl (ok.rep hw hA m))) (λ x95=>?_);try (refine l_fact (λ h95=>?_)));refine j_move ?_;refine l_quiet (o_extr rf rfl) rfl ?_;refine l_quiet (o_extr rf rfl) rfl ?_;refine J8 ?_;refine J11 ?_;(refine j_own (cM (hs:=xH k bx bm x dn rs) (os:=xW x) (hc:=λ w hs=>xnode_c 0 (by decide) ok hs)) (λ x100=>?_);try (refine l_fact (λ h100=>?_)));refine j_alloc (λ x21=>?_);refine J5 ?_;refine J62 ?_;refine J11 ?_)
     all_goals (first|refine j_un ?_|(refine j_yes ?_;refine j_fieldAddr ?_)|(refine lcs 103 (λ g103=>?_) (λ g103=>?_)<;>(first|refine j_un ?_|(refine j_yes ?_;refine j_fieldAddr ?_))))
     all_goals (refine J78 ?_;refine J1 ?_)
     all_goals
      refine kif (λ c101=>?_) (λ c101=>?_)
      · try exact nv c101
      · try exact nv c101
        all_goals (refine J2 ?_;refine J59 ?_)
        all_goals (first|refine j_un ?_|(refine j_yes ?_;refine j_fieldAddr ?_)|(refine lcs 112 (λ g112=>?_) (λ g112=>?_)<;>(first|refine j_un ?_|(refine j_yes ?_;refine j_fieldAddr ?_))))
        all_goals (refine J29 ?_;(first|refine j_un ?_|(refine j_yes ?_;refine j_sne ?_));refine j_pick ?_;refine J1 ?_)
        all_goals
         refine kif (λ c109=>?_) (λ c109=>?_)
         · try exact nv c109
           all_goals (refine J0 ?_;(refine j_own (cV (hc:=λ w1 hw=>rvalue_c _ _ w1)) (λ x118=>?_);try (refine l_fact (λ h118=>?_)));refine J46 ?_)
           all_goals
            refine k_rt Tryz.results119 (λ w hw=>?_)
            exact⟨(valR false 0,1,x,[]),rfl,⟨g1,ok,by simp,Nat.le_refl _,Int.natCast_nonneg _⟩,hw.finH (hF:=by exact FSub.nil)⟩
         · try exact nv c109
set_option maxRecDepth 100000 in
theorem dropLeaf_i(hg:g.Ok)(i m:Int){h:Nat}(hh:h<18446744073709551616)(level:Nat)(hlv:level<=1073741824)(K:Rs->Int->Tr)(ht:k.t.root<=9223372036854775807)(hi:i<=x.L.length)(hm:m<=x.L.length)(hA:∀f∈famF x.L,f∈A)(hk:¬(nodeV x.L m).nd.kind=6){b:Int}(hl:lkV (nodeV x.L m).c (slI h (level:Int))=some b)(hi2:(nodeV x.L b).nd.kind=2)(go:Go' g x (dropLeafT k i m h level K))(ok:x.Ok)(hs:SF w D (xH k bx bm x dn rs) A [] (xW x) w):Calls Tryz.prog 119 #[.pointer (some ⟨bx,0,none⟩),.int .i64 i,.int .i64 m,.int .u64 (h:Int),.int .i64 (level:Int)] w (PLq g x K bx bm k dn rs D w):=by
  have hyl:=ysL_of ok m
  have hlL:=ok.lL
  have h48:Go' g x _/\NvB x.L.length x.cs.length (nodeV x.L m).c:=⟨go_node go hm,ok.nv m⟩
  have hb:b<=x.L.length:=by have:=lkV_le (ok.nv m) (slI h (level:Int));rw[hl] at this;exact this
  refine enter Tryz.func119 Tryz.ntmps119 rfl rfl (xOpen2 hs) ?_
  simp only[mkS]
  all_goals (refine J0 ?_;refine j_alloc (λ x10=>?_);refine J27 ?_)
  all_goals
   refine k_joinG [12,13,26,27,28,29,30,31,32,33] (λ j:Nat=>[(12,.pointer (some ⟨j,0,none⟩)),(13,.string k.key)]) (λ _=>True) (λ j=>[(j,.cells ⟨(nodeV x.L m).nd.cells⟩ 59 (0,0)),(x10,.cells ⟨Rs.zero.cells⟩ 81 (0,0)),(bx,xO k bm x dn rs),(bm,xM x)]) (λ _=>[]) (λ _=>xW x) (by decide) (λ _=>by exact rfl) ?_ (λ j f hx=>?_)
   · refine k_drawF (.one 0 [] (.one 1 [] (.one 3 [] (.one 4 [] (.one 5 [] (.one 6 [] (.one 7 [] (.two 2 [7] (.one 8 [7] (.one 9 [7] (.one 10 [] .nil))) 0 [] (.two 8 [7] (.one 2 [7] (.one 9 [7] (.one 10 [] .nil))) 0 [] .nil))))))))) ?_
     all_goals (refine J17 ?_;refine J63 ?_)
     all_goals
      refine r_many (E:=[2,8]) (by decide +kernel) ((.cons ?_ (.cons ?_ .nil)))
      · (refine s_own (i:=2) (hq:=(cM (hs:=xH k bx bm x dn rs) (os:=xW x) (hc:=λ w hs=>xnode_c m (by omega) ok hs))) (h:=λ x28=>?_);try (refine r_fact (λ h28=>?_)))
        all_goals (refine r_alloc (h:=λ x12=>?_);refine J40 ?_)
        all_goals
         refine k_rj (x12) ?_
         · trivial
      · refine s_alloc (i:=8) (h:=λ x12=>?_)
        all_goals (((refine r_own (i:=2) (hq:=(cM (hs:=xH k bx bm x dn rs) (os:=xW x) (hc:=λ w hs=>xnode_c m (by omega) ok hs))) (h:=λ x28=>?_);try (refine r_fact (λ h28=>?_))));refine J40 ?_)
        all_goals
         refine k_rj (x12) ?_
         · trivial
   dsimp only[mkU,List.map,List.cons_append,List.nil_append]
  all_goals (refine J72 ?_;refine J50 ?_)
  all_goals
   refine kif (λ c36=>?_) (λ c36=>?_)
   · try exact nv c36
     all_goals
      exact absurd c36 hk
   · try exact nv c36
     all_goals
      have g0:=h48.1.to (λ _=>if_neg hk)
      have g1:=go_some g0 (by rw[hl];rfl)
      rw[hl] at g1
      have g2:=go_node g1 hb
     all_goals (refine J58 ?_;(refine j_own (cV (hc:=λ w1 hw=>refSliceA_c hh (level:Int) w1)) (λ x91=>?_);try (refine l_fact (λ h91=>?_)));refine J1 ?_;refine J71 ?_;(refine j_own (cV (hc:=λ w1 hw=>lkX_s (v:=(nodeV x.L m)) h48.2 hl (ok.rep hw hA m))) (λ x95=>?_);try (refine l_fact (λ h95=>?_)));refine j_move ?_;refine l_quiet (o_extr rf rfl) rfl ?_;refine l_quiet (o_extr rf rfl) rfl ?_;refine J8 ?_;refine J11 ?_;(refine j_own (cM (hs:=xH k bx bm x dn rs) (os:=xW x) (hc:=λ w hs=>xnode_c b (by omega) ok hs)) (λ x100=>?_);try (refine l_fact (λ h100=>?_)));refine j_alloc (λ x21=>?_);refine J5 ?_;refine J62 ?_;refine J11 ?_)
     all_goals (first|refine j_un ?_|(refine j_yes ?_;refine j_fieldAddr ?_)|(refine lcs 103 (λ g103=>?_) (λ g103=>?_)<;>(first|refine j_un ?_|(refine j_yes ?_;refine j_fieldAddr ?_))))
     all_goals (refine J78 ?_;refine J1 ?_)
     all_goals
      refine kif (λ c101=>?_) (λ c101=>?_)
      · try exact nv c101
        all_goals
         have g3:=g2.to (λ _=>if_pos hi2)
        all_goals (refine J0 ?_;refine j_build ?_;refine J46 ?_)
        all_goals
         refine k_rt Tryz.results119 (λ w hw=>?_)
         exact⟨(Rs.zero,2,x,[]),rfl,⟨g3,ok,by simp,Nat.le_refl _,Int.natCast_nonneg _⟩,hw.finH (hF:=by exact FSub.nil)⟩
      · try exact nv c101
        all_goals
         exact absurd hi2 c101
set_option maxRecDepth 100000 in
theorem dropLeaf_o(hg:g.Ok)(i m:Int){h:Nat}(hh:h<18446744073709551616)(level:Nat)(hlv:level<=1073741824)(K:Rs->Int->Tr)(ht:k.t.root<=9223372036854775807)(hi:i<=x.L.length)(hm:m<=x.L.length)(hA:∀f∈famF x.L,f∈A)(hk:¬(nodeV x.L m).nd.kind=6){b:Int}(hl:lkV (nodeV x.L m).c (slI h (level:Int))=some b)(hi2:¬(nodeV x.L b).nd.kind=2)(he:¬(nodeV x.L b).nd.key=k.key)(go:Go' g x (dropLeafT k i m h level K))(ok:x.Ok)(hs:SF w D (xH k bx bm x dn rs) A [] (xW x) w):Calls Tryz.prog 119 #[.pointer (some ⟨bx,0,none⟩),.int .i64 i,.int .i64 m,.int .u64 (h:Int),.int .i64 (level:Int)] w (PLq g x K bx bm k dn rs D w):=by
  have hyl:=ysL_of ok m
  have hlL:=ok.lL
  have h48:Go' g x _/\NvB x.L.length x.cs.length (nodeV x.L m).c:=⟨go_node go hm,ok.nv m⟩
  have hb:b<=x.L.length:=by have:=lkV_le (ok.nv m) (slI h (level:Int));rw[hl] at this;exact this
  refine enter Tryz.func119 Tryz.ntmps119 rfl rfl (xOpen2 hs) ?_
  simp only[mkS]
  all_goals (refine J0 ?_;refine j_alloc (λ x10=>?_);refine J27 ?_)
  all_goals
   refine k_joinG [12,13,26,27,28,29,30,31,32,33] (λ j:Nat=>[(12,.pointer (some ⟨j,0,none⟩)),(13,.string k.key)]) (λ _=>True) (λ j=>[(j,.cells ⟨(nodeV x.L m).nd.cells⟩ 59 (0,0)),(x10,.cells ⟨Rs.zero.cells⟩ 81 (0,0)),(bx,xO k bm x dn rs),(bm,xM x)]) (λ _=>[]) (λ _=>xW x) (by decide) (λ _=>by exact rfl) ?_ (λ j f hx=>?_)
   · refine k_drawF (.one 0 [] (.one 1 [] (.one 3 [] (.one 4 [] (.one 5 [] (.one 6 [] (.one 7 [] (.two 2 [7] (.one 8 [7] (.one 9 [7] (.one 10 [] .nil))) 0 [] (.two 8 [7] (.one 2 [7] (.one 9 [7] (.one 10 [] .nil))) 0 [] .nil))))))))) ?_
     all_goals (refine J17 ?_;refine J63 ?_)
     all_goals
      refine r_many (E:=[2,8]) (by decide +kernel) ((.cons ?_ (.cons ?_ .nil)))
      · (refine s_own (i:=2) (hq:=(cM (hs:=xH k bx bm x dn rs) (os:=xW x) (hc:=λ w hs=>xnode_c m (by omega) ok hs))) (h:=λ x28=>?_);try (refine r_fact (λ h28=>?_)))
        all_goals (refine r_alloc (h:=λ x12=>?_);refine J40 ?_)
        all_goals
         refine k_rj (x12) ?_
         · trivial
      · refine s_alloc (i:=8) (h:=λ x12=>?_)
        all_goals (((refine r_own (i:=2) (hq:=(cM (hs:=xH k bx bm x dn rs) (os:=xW x) (hc:=λ w hs=>xnode_c m (by omega) ok hs))) (h:=λ x28=>?_);try (refine r_fact (λ h28=>?_))));refine J40 ?_)
        all_goals
         refine k_rj (x12) ?_
         · trivial
   dsimp only[mkU,List.map,List.cons_append,List.nil_append]
  all_goals (refine J72 ?_;refine J50 ?_)
  all_goals
   refine kif (λ c36=>?_) (λ c36=>?_)
   · try exact nv c36
     all_goals
      exact absurd c36 hk
   · try exact nv c36
     all_goals
      have g0:=h48.1.to (λ _=>if_neg hk)
      have g1:=go_some g0 (by rw[hl];rfl)
      rw[hl] at g1
      have g2:=go_node g1 hb
     all_goals (refine J58 ?_;(refine j_own (cV (hc:=λ w1 hw=>refSliceA_c hh (level:Int) w1)) (λ x91=>?_);try (refine l_fact (λ h91=>?_)));refine J1 ?_;refine J71 ?_;(refine j_own (cV (hc:=λ w1 hw=>lkX_s (v:=(nodeV x.L m)) h48.2 hl (ok.rep hw hA m))) (λ x95=>?_);try (refine l_fact (λ h95=>?_)));refine j_move ?_;refine l_quiet (o_extr rf rfl) rfl ?_;refine l_quiet (o_extr rf rfl) rfl ?_;refine J8 ?_;refine J11 ?_;(refine j_own (cM (hs:=xH k bx bm x dn rs) (os:=xW x) (hc:=λ w hs=>xnode_c b (by omega) ok hs)) (λ x100=>?_);try (refine l_fact (λ h100=>?_)));refine j_alloc (λ x21=>?_);refine J5 ?_;refine J62 ?_;refine J11 ?_)
     all_goals (first|refine j_un ?_|(refine j_yes ?_;refine j_fieldAddr ?_)|(refine lcs 103 (λ g103=>?_) (λ g103=>?_)<;>(first|refine j_un ?_|(refine j_yes ?_;refine j_fieldAddr ?_))))
     all_goals (refine J78 ?_;refine J1 ?_)
     all_goals
      refine kif (λ c101=>?_) (λ c101=>?_)
      · try exact nv c101
        all_goals
         exact absurd c101 hi2
      · try exact nv c101
        all_goals
         have g3:=(g2.to (λ _=>if_neg hi2)).to (λ _=>if_pos he)
        all_goals (refine J2 ?_;refine J59 ?_)
        all_goals (first|refine j_un ?_|(refine j_yes ?_;refine j_fieldAddr ?_)|(refine lcs 112 (λ g112=>?_) (λ g112=>?_)<;>(first|refine j_un ?_|(refine j_yes ?_;refine j_fieldAddr ?_))))
        all_goals (refine J29 ?_;(first|refine j_un ?_|(refine j_yes ?_;refine l_quiet (o_neS_t rf rf he) rfl ?_));refine j_pick ?_;refine J1 ?_)
        all_goals
         refine kif (λ c109=>?_) (λ c109=>?_)
         · try exact nv c109
           all_goals (refine J0 ?_;(refine j_own (cV (hc:=λ w1 hw=>rvalue_c _ _ w1)) (λ x118=>?_);try (refine l_fact (λ h118=>?_)));refine J46 ?_)
           all_goals
            refine k_rt Tryz.results119 (λ w hw=>?_)
            exact⟨(valR false 0,1,x,[]),rfl,⟨g3,ok,by simp,Nat.le_refl _,Int.natCast_nonneg _⟩,hw.finH (hF:=by exact FSub.nil)⟩
         · try exact nv c109
set_option maxRecDepth 100000 in
theorem dropLeaf_s(hg:g.Ok)(i m:Int){h:Nat}(hh:h<18446744073709551616)(level:Nat)(hlv:level<=1073741824)(K:Rs->Int->Tr)(ht:k.t.root<=9223372036854775807)(hi:i<=x.L.length)(hm:m<=x.L.length)(hA:∀f∈famF x.L,f∈A)(hk:¬(nodeV x.L m).nd.kind=6){b:Int}(hl:lkV (nodeV x.L m).c (slI h (level:Int))=some b)(hi2:¬(nodeV x.L b).nd.kind=2)(he:(nodeV x.L b).nd.key=k.key)(go:Go' g x (dropLeafT k i m h level K))(ok:x.Ok)(hs:SF w D (xH k bx bm x dn rs) A [] (xW x) w):Calls Tryz.prog 119 #[.pointer (some ⟨bx,0,none⟩),.int .i64 i,.int .i64 m,.int .u64 (h:Int),.int .i64 (level:Int)] w (PLq g x K bx bm k dn rs D w):=by
  have hyl:=ysL_of ok m
  have hlL:=ok.lL
  have h48:Go' g x _/\NvB x.L.length x.cs.length (nodeV x.L m).c:=⟨go_node go hm,ok.nv m⟩
  have hb:b<=x.L.length:=by have:=lkV_le (ok.nv m) (slI h (level:Int));rw[hl] at this;exact this
  refine enter Tryz.func119 Tryz.ntmps119 rfl rfl (xOpen2 hs) ?_
  simp only[mkS]
  all_goals (refine J0 ?_;refine j_alloc (λ x10=>?_);refine J27 ?_)
  all_goals
   refine k_joinG [12,13,26,27,28,29,30,31,32,33] (λ j:Nat=>[(12,.pointer (some ⟨j,0,none⟩)),(13,.string k.key)]) (λ _=>True) (λ j=>[(j,.cells ⟨(nodeV x.L m).nd.cells⟩ 59 (0,0)),(x10,.cells ⟨Rs.zero.cells⟩ 81 (0,0)),(bx,xO k bm x dn rs),(bm,xM x)]) (λ _=>[]) (λ _=>xW x) (by decide) (λ _=>by exact rfl) ?_ (λ j f hx=>?_)
   · refine k_drawF (.one 0 [] (.one 1 [] (.one 3 [] (.one 4 [] (.one 5 [] (.one 6 [] (.one 7 [] (.two 2 [7] (.one 8 [7] (.one 9 [7] (.one 10 [] .nil))) 0 [] (.two 8 [7] (.one 2 [7] (.one 9 [7] (.one 10 [] .nil))) 0 [] .nil))))))))) ?_
     all_goals (refine J17 ?_;refine J63 ?_)
     all_goals
      refine r_many (E:=[2,8]) (by decide +kernel) ((.cons ?_ (.cons ?_ .nil)))
      · (refine s_own (i:=2) (hq:=(cM (hs:=xH k bx bm x dn rs) (os:=xW x) (hc:=λ w hs=>xnode_c m (by omega) ok hs))) (h:=λ x28=>?_);try (refine r_fact (λ h28=>?_)))
        all_goals (refine r_alloc (h:=λ x12=>?_);refine J40 ?_)
        all_goals
         refine k_rj (x12) ?_
         · trivial
      · refine s_alloc (i:=8) (h:=λ x12=>?_)
        all_goals (((refine r_own (i:=2) (hq:=(cM (hs:=xH k bx bm x dn rs) (os:=xW x) (hc:=λ w hs=>xnode_c m (by omega) ok hs))) (h:=λ x28=>?_);try (refine r_fact (λ h28=>?_))));refine J40 ?_)
        all_goals
         refine k_rj (x12) ?_
         · trivial
   dsimp only[mkU,List.map,List.cons_append,List.nil_append]
  all_goals (refine J72 ?_;refine J50 ?_)
  all_goals
   refine kif (λ c36=>?_) (λ c36=>?_)
   · try exact nv c36
     all_goals
      exact absurd c36 hk
   · try exact nv c36
     all_goals
      have g0:=h48.1.to (λ _=>if_neg hk)
      have g1:=go_some g0 (by rw[hl];rfl)
      rw[hl] at g1
      have g2:=go_node g1 hb
     all_goals (refine J58 ?_;(refine j_own (cV (hc:=λ w1 hw=>refSliceA_c hh (level:Int) w1)) (λ x91=>?_);try (refine l_fact (λ h91=>?_)));refine J1 ?_;refine J71 ?_;(refine j_own (cV (hc:=λ w1 hw=>lkX_s (v:=(nodeV x.L m)) h48.2 hl (ok.rep hw hA m))) (λ x95=>?_);try (refine l_fact (λ h95=>?_)));refine j_move ?_;refine l_quiet (o_extr rf rfl) rfl ?_;refine l_quiet (o_extr rf rfl) rfl ?_;refine J8 ?_;refine J11 ?_;(refine j_own (cM (hs:=xH k bx bm x dn rs) (os:=xW x) (hc:=λ w hs=>xnode_c b (by omega) ok hs)) (λ x100=>?_);try (refine l_fact (λ h100=>?_)));refine j_alloc (λ x21=>?_);refine J5 ?_;refine J62 ?_;refine J11 ?_)
     all_goals (first|refine j_un ?_|(refine j_yes ?_;refine j_fieldAddr ?_)|(refine lcs 103 (λ g103=>?_) (λ g103=>?_)<;>(first|refine j_un ?_|(refine j_yes ?_;refine j_fieldAddr ?_))))
     all_goals (refine J78 ?_;refine J1 ?_)
     all_goals
      refine kif (λ c101=>?_) (λ c101=>?_)
      · try exact nv c101
        all_goals
         exact absurd c101 hi2
      · try exact nv c101
        all_goals
         have g3:=(g2.to (λ _=>if_neg hi2)).to (λ _=>if_neg (λ h:¬(nodeV x.L b).nd.key=k.key=>h he))
        all_goals (refine J2 ?_;refine J59 ?_)
        all_goals (first|refine j_un ?_|(refine j_yes ?_;refine j_fieldAddr ?_)|(refine lcs 112 (λ g112=>?_) (λ g112=>?_)<;>(first|refine j_un ?_|(refine j_yes ?_;refine j_fieldAddr ?_))))
        all_goals (refine J29 ?_;(first|refine j_un ?_|(refine j_yes ?_;refine l_quiet (o_neS_f rf rf he) rfl ?_));refine j_pick ?_;refine J1 ?_)
        all_goals
         refine kif (λ c109=>?_) (λ c109=>?_)
         · try exact nv c109
         · try exact nv c109
           all_goals (refine k_seq ?_;refine k_dq [0,1,2,3,4,5,6,7,8,9,10,11,12,13,14,15] ?_;refine J63 ?_;refine r_move ?_)
           all_goals (first|refine r_un ?_|(refine r_fieldAddr ?_)|(refine rcs 125 (λ g125=>?_) (λ g125=>?_)<;>(first|refine r_un ?_|(refine r_fieldAddr ?_))))
           all_goals ((first|refine r_un ?_|(refine r_load ?_));(first|refine r_un ?_|(refine r_move ?_));(first|refine r_un ?_|(refine r_nilCheck ?_));(first|refine r_un ?_|(refine r_fieldAddr ?_));refine J18 ?_;(first|refine r_un ?_|(refine r_neq ?_));refine r_pick ?_;refine J7 ?_)
           all_goals
            refine kif (λ c119=>?_) (λ c119=>?_)
            · try exact nv c119
              all_goals
               have g4:=g3.to (λ _=>if_pos (show(k.only=true/\(nodeV x.L b).nd.val≠k.exp) from⟨by assumption,by assumption⟩))
              all_goals (refine J24 ?_;(refine j_own (cV (hc:=λ w1 hw=>rvalue_c _ _ w1)) (λ x137=>?_);try (refine l_fact (λ h137=>?_)));refine J46 ?_)
              all_goals
               refine k_rt Tryz.results119 (λ w hw=>?_)
               exact⟨(valR true (nodeV x.L b).nd.val,1,x,[]),rfl,⟨g4,ok,by simp,Nat.le_refl _,Int.natCast_nonneg _⟩,hw.finH (hF:=by exact FSub.nil)⟩
            · try exact nv c119
              all_goals
               have g4:=g3.to (λ _=>if_neg (show ¬(k.only=true/\(nodeV x.L b).nd.val≠k.exp) from by rintro ⟨h,h'⟩;simp_all))
              all_goals (refine J34 ?_;refine J71 ?_;(refine j_own (cF (hc:=λ w1 hw=>reX_c (v:=(nodeV x.L m)) h48.2 (slI h (level:Int)) (ok.rep hw hA m))) (λ x141=>?_);try (refine l_fact (λ h141=>?_))))
              all_goals
               have hB:=reX_B h48.2 (v:=(nodeV x.L m)) (slI h (level:Int))
              all_goals (refine j_move ?_;refine l_quiet (o_extr rf rfl) rfl ?_;refine l_quiet (o_extr rf rfl) rfl ?_;refine j_alloc (λ x22=>?_);refine J46 ?_;refine J25 ?_;(refine j_own (cV (hc:=λ w1 hw=>soRes_c hB (reX_V h48.2 (slI h (level:Int)) x141) (hw.cl (.new .head)))) (λ x146=>?_);try (refine l_fact (λ h146=>?_))))
              all_goals
               have hso:((soV (reV (nodeV x.L m).c (slI h (level:Int)))).getD 0)<=x.L.length:=so_le hB (reX_V h48.2 (slI h (level:Int)) x141)
               have g5:=go_node g4 hso
              all_goals (refine j_move ?_;refine l_quiet (o_extr rf rfl) rfl ?_;refine l_quiet (o_extr rf rfl) rfl ?_;refine J8 ?_;refine k_seq ?_;refine k_dp [(0,[]),(1,[]),(2,[]),(3,[]),(4,[]),(5,[]),(6,[]),(7,[]),(8,[]),(9,[]),(10,[]),(11,[]),(12,[]),(13,[]),(16,[]),(19,[]),(20,[]),(14,[6,10,20]),(15,[6,20]),(17,[6,20]),(18,[20]),(21,[]),(22,[]),(23,[]),(24,[]),(25,[])] ?_;refine J17 ?_;refine J9 ?_;refine r_fieldAddr ?_;refine r_ownQ (i:=6) (hq:=(o_loadPart (k:=2) (vs:=[.int .i64 k.t.root,.bool k.t.ro]) rf atT ag1 rfl rfl)) (h:=?_);refine J17 ?_;refine r_move ?_;refine r_load ?_;refine J17 ?_;refine J17 ?_;refine J15 ?_;((refine r_own (i:=14) (hq:=(cM (hs:=xH k bx bm x dn rs) (os:=xW x) (hc:=λ w hs=>xnode_c ((soV (reV (nodeV x.L m).c (slI h (level:Int)))).getD 0) (by omega) ok hs))) (hfire:=(λ _=>by first|((repeat (first|exact FireAll.nil|refine FireAll.cons (by first|exact a_own (hq:=o_loadPart (k:=2) (vs:=[.int .i64 k.t.root,.bool k.t.ro]) rf atT ag1 rfl rfl)|exact a_load|exact a_un) ?_));done)|(refine fireall_fact ?_;(repeat (first|exact FireAll.nil|refine FireAll.cons (by first|exact a_own (hq:=o_loadPart (k:=2) (vs:=[.int .i64 k.t.root,.bool k.t.ro]) rf atT ag1 rfl rfl)|exact a_load|exact a_un) ?_));done))) (h:=λ x163=>?_);try (refine r_fact (λ h163=>?_))));((refine r_own (i:=15) (hq:=(cV (hc:=λ w1 hw=>coRes_c hB (level:Int) (nodeV x.L ((soV (reV (nodeV x.L m).c (slI h (level:Int)))).getD 0)).nd (hw.cl (.new .head))))) (hfire:=(λ _=>by first|((repeat (first|exact FireAll.nil|refine FireAll.cons (by first|exact a_own (hq:=o_loadPart (k:=2) (vs:=[.int .i64 k.t.root,.bool k.t.ro]) rf atT ag1 rfl rfl)|exact a_load|exact a_un) ?_));done)|(refine fireall_fact ?_;(repeat (first|exact FireAll.nil|refine FireAll.cons (by first|exact a_own (hq:=o_loadPart (k:=2) (vs:=[.int .i64 k.t.root,.bool k.t.ro]) rf atT ag1 rfl rfl)|exact a_load|exact a_un) ?_));done))) (h:=λ x164=>?_);try (refine r_fact (λ h164=>?_))));((refine r_own (i:=17) (hq:=(cM (hs:=xH k bx bm x dn rs) (os:=xW x) (A0:=[((coW (reX (nodeV x.L m) (slI h (level:Int))) x141 (level:Int) (nodeV x.L ((soV (reV (nodeV x.L m).c (slI h (level:Int)))).getD 0)).nd).brA,refsC (coL (reX (nodeV x.L m) (slI h (level:Int))) x141 (level:Int) (nodeV x.L ((soV (reV (nodeV x.L m).c (slI h (level:Int)))).getD 0)).nd)),((coW (reX (nodeV x.L m) (slI h (level:Int))) x141 (level:Int) (nodeV x.L ((soV (reV (nodeV x.L m).c (slI h (level:Int)))).getD 0)).nd).prA,prC [])]) (hA:=hasCo) (hc:=λ w hs=>alloc_c hg (n:=(coW (reX (nodeV x.L m) (slI h (level:Int))) x141 (level:Int) (nodeV x.L ((soV (reV (nodeV x.L m).c (slI h (level:Int)))).getD 0)).nd)) (xs:=(coL (reX (nodeV x.L m) (slI h (level:Int))) x141 (level:Int) (nodeV x.L ((soV (reV (nodeV x.L m).c (slI h (level:Int)))).getD 0)).nd)) (ys:=[]) m _ (coW_br _ _ _) (coW_pr _ _ _) (coL_len hB _ _ _) (Nat.zero_le _) (coW_nvB hB _ _ (ok.nv ((soV (reV (nodeV x.L m).c (slI h (level:Int)))).getD 0)).hash) hm (by rw[<- coW_V,<- re_c' h48.2];exact g5) ok hs))) (hfire:=(λ _=>by first|((repeat (first|exact FireAll.nil|refine FireAll.cons (by first|exact a_own (hq:=o_loadPart (k:=2) (vs:=[.int .i64 k.t.root,.bool k.t.ro]) rf atT ag1 rfl rfl)|exact a_load|exact a_un) ?_));done)|(refine fireall_fact ?_;(repeat (first|exact FireAll.nil|refine FireAll.cons (by first|exact a_own (hq:=o_loadPart (k:=2) (vs:=[.int .i64 k.t.root,.bool k.t.ro]) rf atT ag1 rfl rfl)|exact a_load|exact a_un) ?_));done))) (h:=λ x166=>?_);try (refine r_fact (λ h166=>?_))));((refine r_own (i:=18) (hq:=(cM (hs:=xH k bx bm x166.2.1 dn rs) (os:=xW x166.2.1) (hc:=λ w hs=>gcas_c hg k.t i m x166.1 _ ht (by have:=h166.len;omega) h166.bd h166.go h166.ok hs))) (h:=λ x167=>?_);try (refine r_fact (λ h167=>?_)))))
              all_goals
               have hch:=Ch.nx h167 (Ch.nx h166 ((Ch.base (F:=[])).cons (f:=(x141.1,refsC (resL (reX (nodeV x.L m) (slI h (level:Int))))))))
               have hlc:x.cs.length<=x167.2.1.cs.length:=by have:=h166.lc;have:=h167.lc;omega
              all_goals (((refine r_own (i:=21) (hq:=(cV (hc:=λ w1 hw=>swapped_c _ _ _ _ w1))) (h:=λ x170=>?_);try (refine r_fact (λ h170=>?_))));refine r_ownP (i:=22) (hq:=(o_extr rf rfl)) (h:=?_);refine r_ownP (i:=23) (hq:=(o_extr rf rfl)) (h:=?_);refine J40 ?_)
              all_goals
               refine k_rt Tryz.results119 (λ w hw=>?_)
               obtain⟨N,hN,hf⟩:=hch.to (t':=K (swpR true (nodeV x.L b).nd.val) (if x167.1=true then 1 else 0)) h167 (h167.go) hlc (Int.natCast_nonneg _)
               exact⟨(swpR true (nodeV x.L b).nd.val,(if x167.1=true then 1 else 0),x167.2.1,N),rfl,hN,(hw.subF hf).finH (hF:=by exact FSub.all)⟩
theorem dropLeaf_c(hg:g.Ok)(i m:Int){h:Nat}(hh:h<18446744073709551616)(level:Nat)(hlv:level<=1073741824)(K:Rs->Int->Tr)(ht:k.t.root<=9223372036854775807)(hi:i<=x.L.length)(hm:m<=x.L.length)(hA:∀f∈famF x.L,f∈A)(go:Go' g x (dropLeafT k i m h level K))(ok:x.Ok)(hs:SF w D (xH k bx bm x dn rs) A [] (xW x) w):Calls Tryz.prog 119 #[.pointer (some ⟨bx,0,none⟩),.int .i64 i,.int .i64 m,.int .u64 (h:Int),.int .i64 (level:Int)] w (PLq g x K bx bm k dn rs D w):=by
 by_cases hk:(nodeV x.L m).nd.kind=6
 ·exact dropLeaf_l hg i m hh level hlv K ht hi hm hA hk go ok hs
 ·cases hl:lkV (nodeV x.L m).c (slI h (level:Int)) with
  | none=>exact dropLeaf_n hg i m hh level hlv K ht hi hm hA hk hl go ok hs
  | some b =>
   by_cases hi2:(nodeV x.L b).nd.kind=2
   ·exact dropLeaf_i hg i m hh level hlv K ht hi hm hA hk hl hi2 go ok hs
   ·by_cases he:(nodeV x.L b).nd.key=k.key
    ·exact dropLeaf_s hg i m hh level hlv K ht hi hm hA hk hl hi2 he go ok hs
    ·exact dropLeaf_o hg i m hh level hlv K ht hi hm hA hk hl hi2 he go ok hs
end
end Go.Proofs.YtpobgmdalcpomaaGreat

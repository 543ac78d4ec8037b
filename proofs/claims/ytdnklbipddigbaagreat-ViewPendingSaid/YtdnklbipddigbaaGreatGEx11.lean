/- Merged. -/
import Derived.Test.YtdnklbipddigbaaGreatGEx9
import Derived.Test.YtdnklbipddigbaaGreatGVw1
import Derived.Test.YtdnklbipddigbaaGreatGRs0
set_option linter.unusedSimpArgs false
set_option linter.unusedVariables false
namespace Go.Proofs.YtdnklbipddigbaaGreat
open Go Go.RowKit Go.Ct
section
theorem refSliceA_c{h:Nat}(hh:h<18446744073709551616)(level:Int)(w:World):Calls Tryz.prog 210 #[.int .u64 (h:Int),.int .i64 level] w λ e w'=>e=.returned (.int .i64 (slI h level))/\St w [] [] w':=by
 by_cases hl:level<0∨10<level
 ·unfold slI;rw[if_pos hl];refine enter Tryz.func210 Tryz.ntmps210 rfl rfl (SF.s0 w) ?_;simp only[mkS];refine Kc2 ?_;refine J64 ?_;(refine lcs 7 (λ g7=>?_) (λ g7=>?_)<;>refine Ka0 ?_);all_goals (refine Ka6 ?_)
  all_goals
  refine kif (λ c10=>?_) (λ c10=>?_)
  ·all_goals try (exfalso;omega)
   all_goals refine J10 ?_
   all_goals refine k_rv Tryz.results210 (λ w hw=>?_);exact⟨rfl,hw.done⟩
  ·try exact nv c10
   all_goals try (exfalso;omega)
 ·unfold slI;rw[if_neg hl];exact refSliceI_c (l:=level.toNat) (by omega) hh (by omega) w
section
variable{m c:Nat}{o:Option (Nat×List Int)}{w:World}
noncomputable abbrev coB (o:Option (Nat×List Int)) (x:Option Addr×Nat) (level:Int) (s:Nd):Bool:=coT (resN o x) (resL o) [] level s
noncomputable abbrev coW (o:Option (Nat×List Int)) (x:Option Addr×Nat) (level:Int) (s:Nd):Nd:=reN (coB o x level s) (resN o x) s
noncomputable abbrev coL (o:Option (Nat×List Int)) (x:Option Addr×Nat) (level:Int) (s:Nd):List Int:=coX (coB o x level s) (resL o)
theorem coX_nil{α:Type}(t:Bool):coX t ([]:List α)=[]:=by unfold coX;split<;>rfl
theorem resN_nat(h:ResB m o)(x:Option Addr×Nat):∃b:Nat,(resN o x).bm=(b:Int)/\b<18446744073709551616:=by
 cases o with
 | none=>exact⟨0,rfl,by decide⟩
 | some q=>exact⟨q.1,rfl,(h.out q rfl).1⟩
theorem resN_rep(h:ResB m o){x:Option Addr×Nat}(hc:Go.Ct.Cl w x.1 (refsC (resL o))):Rep w (resN o x) (resL o) []:=by
 refine⟨resN_br _ _,resN_pr _ _,?_,?_,by have:=h.len;omega,by decide⟩
 ·cases o with
  | none=>exact Cl.nil _ _
  | some q=>exact hc
 ·exact Cl.nil _ _
theorem coRes_c(h:ResB m o){x:Option Addr×Nat}(level:Int)(s:Nd)(hc:Go.Ct.Cl w x.1 (refsC (resL o))):Calls Tryz.prog 213 #[(resN o x).v,.int .i64 level,s.v] w λ e w'=>e=.returned (coW o x level s).v/\St w [] [] w':=by obtain⟨b,h1,h2⟩:=resN_nat h x;exact refContracted_c (n:=resN o x) level s h1 h2 (resN_rep h hc)
theorem coW_V(x:Option Addr×Nat)(level:Int)(s:Nd):coV (resV o) level (s.c [] [])=(coW o x level s).c (coL o x level s) []:=by have:=(co_c (n:=resN o x) (s:=s) (xs:=resL o) (ys:=[]) level).symm;rw[resN_c,coX_nil] at this;exact this
theorem coW_br(x:Option Addr×Nat)(level:Int)(s:Nd):(coW o x level s).brN=(coL o x level s).length:=by
 unfold coW reN coL coX;split;·rfl
 ·exact resN_br _ _
theorem coW_pr(x:Option Addr×Nat)(level:Int)(s:Nd):(coW o x level s).prN=([]:List Pr).length:=by
 unfold coW reN;split;·rfl
 ·exact resN_pr _ _
theorem coL_len(h:ResB m o)(x:Option Addr×Nat)(level:Int)(s:Nd):(coL o x level s).length<=274877906944:=by
 unfold coL coX;split;·exact Nat.zero_le _
 ·exact h.len
theorem coW_nvB(h:ResB m o)(x:Option Addr×Nat)(level:Int){s:Nd}(hh:∃b:Nat,s.hash=(b:Int)/\b<18446744073709551616):NvB m c {(coW o x level s).c (coL o x level s) [] with main:=0,prev:=0,status:=0}:=by
 unfold coW reN coL coX;split;·exact⟨nn0 _,nn0 _,nn0 _,(λ r hr=>nomatch hr),nn0 _,nn0 _,nn0 _,⟨0,rfl,by decide⟩,hh⟩
 ·exact h.nvB x
theorem hasCo{A F:Fr}{O:List Ow}{x:Option Addr×Nat}{level:Int}{s:Nd}:HasAll A ((x.1,refsC (resL o))::F) O [((coW o x level s).brA,refsC (coL o x level s)),((coW o x level s).prA,prC [])]:=by
 unfold coW reN coL coX;split;·exact .cons (.inl rfl) (.cons (.inl rfl) .nil)
 ·exact hasRes
end
theorem unN_br(n:Nd):(unN n).brN=([]:List Int).length/\(unN n).prN=([]:List Pr).length:=by unfold unN;split<;>exact⟨rfl,rfl⟩
theorem unN_hash{n:Nd}(h:∃b:Nat,n.hash=(b:Int)/\b<18446744073709551616):∃b:Nat,(unN n).hash=(b:Int)/\b<18446744073709551616:=by
 unfold unN;split;·exact h
 ·exact⟨0,rfl,by decide⟩
theorem nvB_un{n:Nd}{m c:Nat}(h:∃b:Nat,n.hash=(b:Int)/\b<18446744073709551616):NvB m c {(unN n).c [] [] with main:=0,prev:=0,status:=0}:=by have h2:=unN_hash h;revert h2;unfold unN;split<;>exact λ h2=>⟨nn0 _,nn0 _,nn0 _,(λ r hr=>nomatch hr),nn0 _,nn0 _,nn0 _,⟨0,rfl,by decide⟩,h2⟩
theorem up_c'{v:NdV}{n c:Nat}(h:NvB n c v.c){i r:Int}:upV v.c i r=resV (upX v i r):=(up_c (nvB_nat h).1 i r).symm
theorem re_c'{v:NdV}{n c:Nat}(h:NvB n c v.c){i:Int}:reV v.c i=resV (reX v i):=(re_c (nvB_nat h).1 i).symm
theorem opt_eq{o:Option Int}{c:Int}(h1:o.isSome=true)(h2:o.getD 0=c):o=some c:=by
 cases o with
 | none=>cases h1
 | some v=>exact congrArg some h2
theorem opt_ne1{o:Option Int}{c:Int}(h1:o.isSome=false):¬o=some c:=λ h=>by rw[h] at h1;cases h1
theorem opt_ne2{o:Option Int}{c:Int}(h1:o.getD 0≠c):¬o=some c:=λ h=>by rw[h] at h1;exact h1 rfl
section
variable{k:Cl}{bx bm:Nat}{x:XS}{dn:Bool}{rs:Rs}{D:List Nat}{A:Fr}{w:World}{g:Gx}
theorem renew_c(hg:g.Ok)(t:Tri)(i c index:Int)(K:Int->Tr)(ht:t.root<=9223372036854775807)(hi:i<=x.L.length)(hc:c<=x.L.length)(hA:∀f∈famF x.L,f∈A)(go:Go' g x (renewT t i c index K))(ok:x.Ok)(hs:SF w D (xH k bx bm x dn rs) A [] (xW x) w):Calls Tryz.prog 174 #[.pointer (some ⟨bx,0,none⟩),trV t,.int .i64 i,.int .i64 c,.int .i64 index] w λ e w'=>∃q:Int×XS×List NdV,e=.returned (.int .i64 q.1)/\Nx g x q.2.1 q.2.2 (K q.1) q.1/\SF w D (xH k bx bm q.2.1 dn rs) [] (famF q.2.2) (xW q.2.1) w':=by
 refine enter Tryz.func174 Tryz.ntmps174 rfl rfl (xOpen2 hs) ?_;simp only[mkS];simp only[trV];refine J0 ?_;refine j_box (λ x6=>?_);refine J73 ?_;refine j_ownF (cM (hs:=xH k bx bm x dn rs) (os:=xW x) (hc:=λ w hs=>node_c c _ hc go ok hs)) (λ x18 h18=>?_);refine j_move ?_;refine j_own (cV (hc:=λ w1 hw=>lkX_c (v:=nodeV x.L c) (ok.nv c) index (ok.rep hw hA c))) (λ x20=>?_);refine j_move ?_;refine l_quiet (o_extr rf rfl) rfl ?_;refine l_quiet (o_extr rf rfl) rfl ?_;refine J8 ?_;refine J2 ?_;refine Kb1 ?_;refine j_ownF (cM (hs:=xH k bx bm x dn rs) (os:=xW x) (hc:=λ w hs=>read_c hg t ((lkV (nodeV x.L c).c index).getD 0) _ ht (lkV_le (ok.nv c) index) h18.1 ok hs)) (λ x26 h26=>?_);refine J73 ?_;refine j_move ?_;refine j_ownF (cM (hs:=xH k bx bm x26.2.1 dn rs) (os:=xW x26.2.1) (hc:=λ w hs=>node_c i _ (by have:=h26.len;omega) h26.go h26.ok hs)) (λ x30 h30=>?_);refine j_field ?_;refine j_build ?_;refine j_move ?_;refine j_ownF (cM (hs:=xH k bx bm x26.2.1 dn rs) (os:=xW x26.2.1) (A0:=[(none,refsC []),(none,prC [])]) (hc:=λ w hs=>alloc_c hg (n:={Nd.zero with kind:=2,gen:=(nodeV x26.2.1.L i).nd.gen}) (xs:=[]) (ys:=[]) x26.1 _ rfl rfl (by decide) (Nat.zero_le _) nvB_inode h26.bd h30.1 h26.ok hs)) (λ x34 h34=>?_);have hch:=Ch.nx h34 ((Ch.base (F:=[])).nx h26);refine J27 ?_;refine k_seq ?_;refine k_dp [(0,[]),(1,[]),(2,[]),(3,[]),(4,[]),(5,[]),(6,[]),(7,[]),(8,[1]),(9,[])] ?_;refine Kd5 ?_;refine J17 ?_;refine J17 ?_;refine r_ownF (i:=8) (hq:=(cM (hs:=xH k bx bm x34.2.1 dn rs) (os:=xW x34.2.1) (A0:=famF x34.2.1.L) (hA:=Ch.all hch hA) (hc:=λ w hs=>replace_c hg c index x34.1 _ (by have:=h26.len;have:=h34.len;omega) h34.bd (λ f hf=>hf) h34.go h34.ok hs))) (h:=λ x43 h43=>?_);refine r_ownF (i:=9) (hq:=(cM (hs:=xH k bx bm x43.2.1 dn rs) (os:=xW x43.2.1) (hc:=λ w hs=>gcas_c hg t i c x43.1 _ ht (by have:=h26.len;have:=h34.len;have:=h43.len;omega) h43.bd h43.go h43.ok hs))) (h:=λ x44 h44=>?_);have hch2:=Ch.nx h44 (Ch.nx h43 hch);have hlc:x.cs.length<=x44.2.1.cs.length:=by have:=h26.lc;have:=h34.lc;have:=h43.lc;have:=h44.lc;omega
 refine r_fin ?_;refine kif (λ c44=>?_) (λ c44=>?_);·refine Kb2 ?_;refine k_rv Tryz.results174 (λ w hw=>?_);obtain⟨N,hN,hf⟩:=hch2.to h44 (h44.go.to (t':=K x34.1) (λ _=>by rw[if_pos (by assumption)])) hlc (show x34.1<=_ by have:=h34.bd;have:=h43.len;have:=h44.len;omega);exact⟨(x34.1,x44.2.1,N),rfl,hN,(hw.subF hf).z0⟩
 ·refine k_skip ?_;refine J10 ?_;refine k_rv Tryz.results174 (λ w hw=>?_);obtain⟨N,hN,hf⟩:=hch2.to h44 (h44.go.to (t':=K 0) (λ _=>by rw[if_neg (by simp only[Bool.not_eq_true];assumption)])) hlc (show(0:Int)<=_ from nn0 _);exact⟨(0,x44.2.1,N),rfl,hN,(hw.subF hf).z0⟩
end
end
section
section
variable{k:Cl}{bx bm:Nat}{x:XS}{dn:Bool}{rs:Rs}{D:List Nat}{A:Fr}{w:World}{g:Gx}
theorem clean_c(hg:g.Ok)(t:Tri)(p c:Int){h:Nat}(hh:h<18446744073709551616)(level:Int)(K:Bool->Tr)(ht:t.root<=9223372036854775807)(hp:p<=x.L.length)(hc:c<=x.L.length)(hA:∀f∈famF x.L,f∈A)(go:Go' g x (cleanT t p c h level K))(ok:x.Ok)(hs:SF w D (xH k bx bm x dn rs) A [] (xW x) w):Calls Tryz.prog 175 #[.pointer (some ⟨bx,0,none⟩),trV t,.int .i64 p,.int .i64 c,.int .u64 (h:Int),.int .i64 level] w λ e w'=>∃q:Bool×XS×List NdV,e=.returned (.bool q.1)/\Nx g x q.2.1 q.2.2 (K q.1) 0/\SF w D (xH k bx bm q.2.1 dn rs) [] (famF q.2.2) (xW q.2.1) w':=by
 refine enter Tryz.func175 Tryz.ntmps175 rfl rfl (xOpen2 hs) ?_;simp only[mkS];simp only[trV];refine J0 ?_;refine j_box (λ x7=>?_);refine Ka7 ?_;refine Kb1 ?_;refine j_ownF (cM (hs:=xH k bx bm x dn rs) (os:=xW x) (hc:=λ w hs=>read_c hg t p _ ht hp go ok hs)) (λ x25 h25=>?_);have hch:=(Ch.base (F:=[])).nx h25;have hl25:=h25.len;refine J73 ?_;refine j_own (cV (hc:=λ w1 hw=>refSliceA_c hh level w1)) (λ x28=>?_);refine J27 ?_;refine J11 ?_;refine j_ownF (cM (hs:=xH k bx bm x25.2.1 dn rs) (os:=xW x25.2.1) (hc:=λ w hs=>node_c x25.1 _ h25.bd h25.go h25.ok hs)) (λ x32 h32=>?_);refine j_move ?_;refine j_own (cV (hc:=λ w1 hw=>lkX_c (v:=nodeV x25.2.1.L x25.1) h32.2 (slI h level) (hw.repX hch hA h25.ok x25.1))) (λ x34=>?_);refine j_move ?_;refine l_quiet (o_extr rf rfl) rfl ?_;refine l_quiet (o_extr rf rfl) rfl ?_;refine J8 ?_;refine Kd6 ?_;(refine lcs 41 (λ g41=>?_) (λ g41=>?_)<;>refine Ka0 ?_);all_goals (refine J31 ?_;refine j_move ?_)
 all_goals (first|refine j_un ?_|(refine lcs 45 (λ g45=>?_) (λ g45=>?_)<;>refine Ka0 ?_))
 all_goals (refine Ka0 ?_;refine J38 ?_;refine l_nil ?_)
 all_goals
  refine kif (λ c49=>?_) (λ c49=>?_)
  ·all_goals refine J10 ?_
   all_goals refine k_rv Tryz.results175 (λ w hw=>?_);obtain⟨N,hN,hf⟩:=hch.to (t':=K false) h25 (by first|exact h32.1.stopped (by assumption)|exact h32.1.to (λ _=>if_neg (opt_ne1 (by assumption)))|exact h32.1.to (λ _=>if_neg (opt_ne2 (by assumption)))) h25.lc (nn0 _);exact⟨(false,x25.2.1,N),rfl,hN,(hw.subF hf).z0⟩
  ·try exact nv c49
   all_goals have g1:=h32.1.to (λ _=>if_pos (opt_eq (by assumption) (by assumption)))
   all_goals (refine J58 ?_;refine Kb1 ?_;refine j_ownF (cM (hs:=xH k bx bm x25.2.1 dn rs) (os:=xW x25.2.1) (hc:=λ w hs=>read_c hg t c _ ht (by omega) g1 h25.ok hs)) (λ x55 h55=>?_))
   all_goals have hch2:=Ch.nx h55 hch;have hl55:=h55.len
   all_goals (refine j_ownF (cM (hs:=xH k bx bm x55.2.1 dn rs) (os:=xW x55.2.1) (hc:=λ w hs=>node_c x55.1 _ h55.bd h55.go h55.ok hs)) (λ x56 h56=>?_);refine j_own (cV (hc:=λ w1 hw=>refUntombed_c (nodeV x55.2.1.L x55.1).nd w1)) (λ x57=>?_);refine j_move ?_;refine l_quiet (o_extr rf rfl) rfl ?_;refine l_quiet (o_extr rf rfl) rfl ?_;refine j_alloc (λ x17=>?_);refine j_store (λ _=>?_);refine J27 ?_;refine Kd6 ?_)
   all_goals ((refine lcs 64 (λ g64=>?_) (λ g64=>?_)<;>refine Ka0 ?_))
   all_goals (refine Kd3 ?_)
   all_goals
    refine kif (λ c67=>?_) (λ c67=>?_)
    ·all_goals refine J10 ?_
     all_goals refine k_rv Tryz.results175 (λ w hw=>?_);obtain⟨N,hN,hf⟩:=hch2.to (t':=K false) h55 (by first|exact h56.1.stopped (by assumption)|exact h56.1.to (λ _=>if_neg (show ¬(nodeV x55.2.1.L x55.1).c.kind=5 from by assumption))) (by have:=h25.lc;have:=h55.lc;omega) (nn0 _);exact⟨(false,x55.2.1,N),rfl,hN,(hw.subF hf).z0⟩
    ·try exact nv c67
     all_goals have g2:=h56.1.to (λ _=>if_pos (show(nodeV x55.2.1.L x55.1).c.kind=5 from by assumption))
     all_goals (refine Ka8 ?_;refine j_load ?_;refine j_ownF (cM (hs:=xH k bx bm x55.2.1 dn rs) (os:=xW x55.2.1) (A0:=[((unN (nodeV x55.2.1.L x55.1).nd).brA,refsC []),((unN (nodeV x55.2.1.L x55.1).nd).prA,prC [])]) (hA:=.cons (.inl rfl) (.cons (.inl rfl) .nil)) (hc:=λ w hs=>alloc_c hg (n:=unN (nodeV x55.2.1.L x55.1).nd) (xs:=[]) (ys:=[]) 0 _ (unN_br _).1 (unN_br _).2 (by decide) (Nat.zero_le _) (nvB_un h56.2.hash) (nn0 _) (by rw[un_c (xs:=(nodeV x55.2.1.L x55.1).xs) (ys:=(nodeV x55.2.1.L x55.1).ys)];exact g2) h55.ok hs)) (λ x70 h70=>?_))
     all_goals have hch3:=Ch.nx h70 hch2;have hl70:=h70.len;have hb25:=h25.bd
     all_goals (refine J73 ?_;refine j_ownF (cM (hs:=xH k bx bm x70.2.1 dn rs) (os:=xW x70.2.1) (hc:=λ w hs=>node_c x25.1 _ (by omega) h70.go h70.ok hs)) (λ x74 h74=>?_);refine J35 ?_;refine j_ownF (cF (hc:=λ w1 hw=>upX_c (v:=nodeV x70.2.1.L x25.1) h74.2 (slI h level) x70.1 (hw.repX hch3 hA h70.ok x25.1))) (λ x77 h77=>?_))
     all_goals have hB:=upX_B h74.2 h70.bd (slI h level);have hch4:=hch3.cons (f:=(x77.1,refsC (resL (upX (nodeV x70.2.1.L x25.1) (slI h level) x70.1))))
     all_goals (refine j_move ?_;refine l_quiet (o_extr rf rfl) rfl ?_;refine l_quiet (o_extr rf rfl) rfl ?_;refine j_alloc (λ x20=>?_);refine j_store (λ _=>?_);refine J27 ?_;refine k_dp [(0,[]),(1,[]),(2,[]),(3,[]),(4,[]),(5,[]),(6,[]),(7,[]),(9,[]),(8,[1]),(10,[1]),(11,[]),(12,[])] ?_;refine Kd5 ?_;refine r_move ?_;refine Ke0 ?_;refine Ke0 ?_;refine r_own (i:=8) (hq:=(cV (hc:=λ w1 hw=>coRes_c hB level (unN (nodeV x55.2.1.L x55.1).nd) (hw.cl (.new .head))))) (h:=λ x88=>?_);refine r_ownF (i:=10) (hq:=(cM (hs:=xH k bx bm x70.2.1 dn rs) (os:=xW x70.2.1) (A0:=[((coW (upX (nodeV x70.2.1.L x25.1) (slI h level) x70.1) x77 level (unN (nodeV x55.2.1.L x55.1).nd)).brA,refsC (coL (upX (nodeV x70.2.1.L x25.1) (slI h level) x70.1) x77 level (unN (nodeV x55.2.1.L x55.1).nd))),((coW (upX (nodeV x70.2.1.L x25.1) (slI h level) x70.1) x77 level (unN (nodeV x55.2.1.L x55.1).nd)).prA,prC [])]) (hA:=hasCo) (hc:=λ w hs=>alloc_c hg (n:=coW (upX (nodeV x70.2.1.L x25.1) (slI h level) x70.1) x77 level (unN (nodeV x55.2.1.L x55.1).nd)) (xs:=coL (upX (nodeV x70.2.1.L x25.1) (slI h level) x70.1) x77 level (unN (nodeV x55.2.1.L x55.1).nd)) (ys:=[]) x25.1 _ (coW_br _ _ _) (coW_pr _ _ _) (coL_len hB _ _ _) (Nat.zero_le _) (coW_nvB hB _ _ (unN_hash h56.2.hash)) (by omega) (by rw[<- coW_V,<- up_c' h74.2,un_c (xs:=(nodeV x55.2.1.L x55.1).xs) (ys:=(nodeV x55.2.1.L x55.1).ys)];exact h74.1) h70.ok hs))) (h:=λ x90 h90=>?_);refine r_ownF (i:=11) (hq:=(cM (hs:=xH k bx bm x90.2.1 dn rs) (os:=xW x90.2.1) (hc:=λ w hs=>gcas_c hg t p x25.1 x90.1 _ ht (by have:=h90.len;omega) (by have:=h90.bd;omega) h90.go h90.ok hs))) (h:=λ x91 h91=>?_))
     all_goals have hch5:=Ch.nx h91 (Ch.nx h90 hch4);have hlc:x.cs.length<=x91.2.1.cs.length:=by have:=h25.lc;have:=h55.lc;have:=h70.lc;have:=h90.lc;have:=h91.lc;omega
     all_goals refine J7 ?_
     all_goals refine k_rv Tryz.results175 (λ w hw=>?_);obtain⟨N,hN,hf⟩:=hch5.to (t':=K x91.1) h91 h91.go hlc (nn0 _);exact⟨(x91.1,x91.2.1,N),rfl,hN,(hw.subF hf).z0⟩
end
end
end Go.Proofs.YtdnklbipddigbaaGreat
namespace Go.Ct
open Go Go.RowKit
section
def byt(s:ByteArray)(i:Nat):Nat:=(s.data.getD i 0).toNat
theorem byt_lt(s:ByteArray)(i:Nat):byt s i<256:=(s.data.getD i 0).toNat_lt
def hsN(s:ByteArray):Nat->Nat
 | 0=>14695981039346656037
 | i+1=>((hsN s i ^^^ byt s i)*1099511628211)%18446744073709551616
theorem hsN_lt(s:ByteArray):∀i,hsN s i<18446744073709551616
 | 0=>by show 14695981039346656037<18446744073709551616;decide
 | _+1=>Nat.mod_lt _ (by decide)
def hsK(s:ByteArray)(m:Nat):Nat:=hsN s s.size &&& m
theorem hsK_lt(s:ByteArray)(m:Nat):hsK s m<18446744073709551616:=Nat.lt_of_le_of_lt Nat.and_le_left (hsN_lt s _)
section
variable{P:Program}{S:List (Nat×Value)}{G:World->Prop}{d:Nat}{ty t t':TypeId}{pos:String}{af:Array Edge}{gd:Option (Nat×Bool)}{x y:Operand}{a b i:Nat}{s:ByteArray}
theorem o_idxS(hx:ev S x=.string s)(hy:ev S y=.int .i64 (i:Int))(ht:P.underlying t=some .string)(h:i<s.size):Quiet P S G ⟨some d,.index t x y,ty,pos,af,gd⟩ (.int .u8 (byt s i:Int)):=⟨λ w _=>by
 have e:(s[((i:Nat):Int).toNat]'(by simpa using h)).toNat=byt s i:=by unfold byt;rw[Array.getD_eq_getD_getElem?,Array.getElem?_eq_getElem (by simpa using h)];rfl
 simp only[execOp,hx,hy,Sem.run_bind];rw[run_index_string w t s .i64 i ht,dif_pos ⟨nn0 _,by omega⟩,e];rfl⟩
theorem o_xorN(hx:ev S x=.int .u64 (a:Int))(hy:ev S y=.int .u64 (b:Int))(ha:a<18446744073709551616)(hb:b<18446744073709551616):Quiet P S G ⟨some d,.binOp .xor t x y t',ty,pos,af,gd⟩ (.int .u64 ((a ^^^ b:Nat):Int)):=by have:=o_xor (P:=P) (G:=G) (d:=d) (ty:=ty) (pos:=pos) (af:=af) (gd:=gd) (t:=t) (t':=t') hx hy;rwa [rXor_nat ha hb] at this
theorem o_mulW(hx:ev S x=.int .u64 (a:Int))(hy:ev S y=.int .u64 (b:Int)):Quiet P S G ⟨some d,.binOp .mul t x y t',ty,pos,af,gd⟩ (.int .u64 ((a*b%18446744073709551616:Nat):Int)):=by
 have:=o_mul (P:=P) (G:=G) (d:=d) (ty:=ty) (pos:=pos) (af:=af) (gd:=gd) (t:=t) (t':=t') hx hy;have e:IntKind.u64.wrap ((a:Int)*(b:Int))=((a*b%18446744073709551616:Nat):Int):=by rw[<- Int.natCast_mul,wrap_u64];generalize a*b=q;omega
 rwa [e] at this
end
end
end Go.Ct
namespace Go.Proofs.YtdnklbipddigbaaGreat
open Go Go.RowKit Go.Ct
section
theorem refHash_c(key:ByteArray){m:Nat}(hm:m<18446744073709551616)(hk:key.size<=4611686018427387903)(w:World):Calls Tryz.prog 214 #[.string key,.int .u64 (m:Int)] w λ e w'=>e=.returned (.int .u64 ((hsK key m:Nat):Int))/\St w [] [] w':=by
 refine enter Tryz.func214 Tryz.ntmps214 rfl rfl (SF.s0 w) ?_;simp only[mkS];refine J10 ?_;refine J75 ?_;refine J69 ?_;refine k_loopC [5,6,7,8,9,10,11,12,13,14,15,16,17,18,19] (λ y:Nat=>[(6,.int .i64 ((y:Nat):Int)),(5,.int .u64 ((hsN key y:Nat):Int))]) (λ y=>y<=key.size) (λ y=>key.size-y) (0) (Nat.zero_le _) ?_ (λ y f hx=>?_);·repeat (first|exact knows_nil _|refine knows_cons (by exact rfl) ?_)
 dsimp only[mkU,List.map,List.cons_append,List.nil_append];refine J65 ?_;refine j_lenStr ?_;refine J47 ?_;refine kif (λ c10=>?_) (λ c10=>?_)
 ·refine J37 ?_;refine J20 ?_;refine J35 ?_;refine j_own (loud_of_quiet (o_idxS (s:=key) (i:=y) rf rf (by kernel_rfl) (by omega))) (λ x16=>?_);refine l_quiet (o_convU (k2:=.u8) rf (by kernel_rfl) (by exact int_of rfl) ⟨nn0 _,by have:=byt_lt key y;omega⟩) rfl ?_;refine l_quiet (o_xorN rf rf (hsN_lt _ _) (by have:=byt_lt key y;omega)) rfl ?_;refine l_quiet (o_mulW rf rf) rfl ?_;refine J1 ?_;refine Kb5 ?_;refine k_roundC (y+1) ?_ ?_ ?_;·omega
  ·repeat' (first|exact knows_nil _|refine knows_cons ?_ ?_)
   all_goals (exact rfl)
  ·omega
 ·refine k_exit rfl ?_;refine J11 ?_;refine l_quiet (o_andN rf rf (hsN_lt _ _) hm) rfl ?_;refine J1 ?_;refine k_rv Tryz.results214 (λ w hw=>?_);have hy:y=key.size:=by omega
  subst hy;exact⟨rfl,hw.done⟩
theorem refKeyValid_c(key:ByteArray)(w:World):Calls Tryz.prog 200 #[.string key] w λ e w'=>e=.returned (.bool (decide (key.size<=64)))/\St w [] [] w':=by refine enter Tryz.func200 Tryz.ntmps200 rfl rfl (SF.s0 w) ?_;simp only[mkS];refine J10 ?_;refine J2 ?_;refine j_lenStr ?_;refine j_leq ?_;refine J1 ?_;refine k_rv Tryz.results200 (λ w hw=>?_);exact⟨by rw[show decide (key.size<=64)=decide ((key.size:Int)<=64) from decide_eq_decide.2 (by omega)];rfl,hw.done⟩
theorem rvalue_c(f:Bool)(v:Int)(w:World):Calls Tryz.prog 215 #[.bool f,.int .u64 v] w λ e w'=>e=.returned (.agg ⟨(Rs.mk 0 f v ⟨#[]⟩ 0 0 0 false).cells⟩)/\St w [] [] w':=by refine enter Tryz.func215 Tryz.ntmps215 rfl rfl (SF.s0 w) ?_;simp only[mkS];refine J0 ?_;refine j_alloc (λ x4=>?_);refine l_nil ?_;refine J11 ?_;refine J52 ?_;refine k_rt Tryz.results215 (λ w hw=>?_);exact⟨rfl,hw.done⟩
end
end Go.Proofs.YtdnklbipddigbaaGreat
namespace Go.Ct
open Go Go.RowKit
section
theorem Nx.ch{g:Gx}{x X:XS}{N:List NdV}{t:Tr}{b:Int}(h:Nx g x X N t b):Ch x X (famF N):=⟨N,h.ext,λ _ hf=>.inr hf⟩
theorem famF_swap{a b:List NdV}:∀f∈famF (a++b),f.2=[]∨f∈famF b++famF a:=λ f hf=>by
 rw[famF_append] at hf;rcases List.mem_append.1 hf with h|h;·exact .inr (List.mem_append_right _ h)
 ·exact .inr (List.mem_append_left _ h)
theorem XS.Ok.ysl{x:XS}(h:x.Ok)(r:Int):(nodeV x.L r).ys.length<=1099511627775:=by
 have h1:=h.lL;unfold nodeV;split;·have:=h.ys _ (getD_mem (L:=x.L) (k:=(r-1).toNat) (by omega));omega
 ·exact Nat.zero_le _
theorem go_some{g:Gx}{x:XS}{o:Option Int}{T:Tr}{B:Int->Tr}(h:Go' g x (match o with|none=>T|some b=>B b))(hs:o.isSome=true):Go' g x (B (o.getD 0)):=by
 cases o with
 | none=>cases hs
 | some b=>exact h
theorem go_none{g:Gx}{x:XS}{o:Option Int}{T:Tr}{B:Int->Tr}(h:Go' g x (match o with|none=>T|some b=>B b))(hs:o.isSome=false):Go' g x T:=by
 cases o with
 | none=>exact h
 | some b=>cases hs
theorem Go'.fuel{g:Gx}{x:XS}{n:Nat}{T:Nat->Tr}(h:Go' g x (T n))(hs:x.st=false)(h0:T 0=.stuck)(hg:g.Ok):∃f,n=f+1/\Go' g x (T (f+1)):=by
 cases n with
 | zero=>rw[h0] at h;exact((h.run hs).not_stuck hg).elim
 | succ f=>exact⟨f,rfl,h⟩
end
end Go.Ct
namespace Go.Proofs.YtdnklbipddigbaaGreat
open Go Go.RowKit Go.Ct
section
theorem refHashI_c{key:ByteArray}{mask:Int}{m:Nat}(e:mask=(m:Int))(hm:m<18446744073709551616)(hk:key.size<=64)(w:World):Calls Tryz.prog 214 #[.string key,.int .u64 mask] w λ e w'=>e=.returned (.int .u64 ((hsK key m:Nat):Int))/\St w [] [] w':=by subst e;exact refHash_c key hm (by omega) w
theorem findX_c{v:NdV}{n:Nat}{w:World}(k:ByteArray)(hr:Rep w v.nd v.xs v.ys)(hy:v.ys.length<=1099511627775):Calls Tryz.prog 216 #[.slice v.nd.prA v.nd.prN v.nd.prC,.string k] w λ e w'=>e=.returned (.tuple #[.int .u64 ((findO v.c.ys k).getD 0),.bool (findO v.c.ys k).isSome])/\St w [] [] w':=by rw[hr.prN];exact refFind_c k hr.pr hy
section
variable{k:Cl}{bx bm:Nat}{x:XS}{dn:Bool}{rs:Rs}{D:List Nat}{A:Fr}{w:World}{g:Gx}
set_option maxRecDepth 100000 in
theorem find_c(hg:g.Ok){m:Nat}(K:Rs->Tr)(n:Nat)(hn:n<=1073741824)(hm:m<18446744073709551616)(em:k.mask=(m:Int))(ek:k.key.size<=64)(ht:k.t.root<=9223372036854775807)(hA:∀f∈famF x.L,f∈A)(go:Go' g x (helpT k.t λ i=>findT k.t (hsK k.key m) k.key K n i 0))(ok:x.Ok)(hs:SF w D (xH k bx bm x dn rs) A [] (xW x) w):Calls Tryz.prog 176 #[.pointer (some ⟨bx,0,none⟩)] w λ e w'=>∃q:Rs×XS×List NdV,e=.returned (.agg ⟨q.1.cells⟩)/\Nx g x q.2.1 q.2.2 (K q.1) 0/\SF w D (xH k bx bm q.2.1 dn rs) [] (famF q.2.2) (xW q.2.1) w':=by
 refine enter Tryz.func176 Tryz.ntmps176 rfl rfl (xOpen2 hs) ?_;simp only[mkS];refine J0 ?_;refine j_alloc (λ x2=>?_);refine J80 ?_;refine k_joinG [3,4,13,14,15,16,17,18,19,20,21,22,23,24,25,26,27,28] (λ j:Nat=>[(3,.pointer (some ⟨j,0,none⟩)),(4,.int .u64 ((hsK k.key m:Nat):Int))]) (λ _=>True) (λ j=>[(j,.cells ⟨[.int .i64 k.t.root,.bool k.t.ro]⟩ 35 (0,0)),(x2,.cells ⟨Rs.zero.cells⟩ 68 (0,0)),(bx,xO k bm x dn rs),(bm,xM x)]) (λ _=>[]) (λ _=>xW x) (by decide) (λ _=>by exact rfl) ?_ (λ j f hx=>?_)
 ·refine k_drawF (.one 0 [] (.one 1 [] (.one 2 [] (.one 3 [] (.one 4 [] (.one 5 [] (.one 6 [] (.one 7 [] (.one 8 [] (.one 9 [] (.one 10 [] (.one 11 [] (.one 12 [] (.one 13 [] (.one 14 [] (.two 15 [4] (.one 16 [4,9,14] (.one 17 [] (.one 18 [] .nil))) 0 [] (.two 16 [4,9,14] (.one 15 [4] (.one 17 [] (.one 18 [] .nil))) 0 [] .nil))))))))))))))))) ?_;refine Kb8 ?_;refine r_ownQ (i:=4) (hq:=(o_loadPart (k:=2) (vs:=[.int .i64 k.t.root,.bool k.t.ro]) rf atT ag1 rfl rfl)) (h:=?_);refine J63 ?_;refine J63 ?_;refine r_many (E:=[15,16]) (by decide +kernel) ((.cons ?_ (.cons ?_ .nil)));·refine s_own (i:=15) (hq:=(cV (hc:=λ w1 hw=>refHashI_c em hm ek w1))) (hfire:=(λ _=>by(refine FireAll.cons (by exact a_own (hq:=o_loadPart (k:=2) (vs:=[.int .i64 k.t.root,.bool k.t.ro]) rf atT ag1 rfl rfl)) ?_;exact FireAll.nil))) (h:=λ x28=>?_);refine r_alloc (hfire:=(λ _=>by((repeat (first|exact FireAll.nil|refine FireAll.cons (by first|exact a_own (hq:=o_loadPart (k:=2) (vs:=[.int .i64 k.t.root,.bool k.t.ro]) rf atT ag1 rfl rfl)|exact a_load) ?_));done))) (h:=λ x3=>?_);refine J40 ?_;refine k_rj (x3) ?_;·trivial
  ·refine s_alloc (i:=16) (hfire:=(λ _=>by((repeat (first|exact FireAll.nil|refine FireAll.cons (by first|exact a_own (hq:=o_loadPart (k:=2) (vs:=[.int .i64 k.t.root,.bool k.t.ro]) rf atT ag1 rfl rfl)|exact a_load) ?_));done))) (h:=λ x3=>?_);refine r_own (i:=15) (hq:=(cV (hc:=λ w1 hw=>refHashI_c em hm ek w1))) (hfire:=(λ _=>by(refine FireAll.cons (by exact a_own (hq:=o_loadPart (k:=2) (vs:=[.int .i64 k.t.root,.bool k.t.ro]) rf atT ag1 rfl rfl)) ?_;exact FireAll.nil))) (h:=λ x28=>?_);refine J40 ?_;refine k_rj (x3) ?_;·trivial
 dsimp only[mkU,List.map,List.cons_append,List.nil_append];refine J2 ?_;refine j_load ?_;refine j_ownF (cM (hs:=xH k bx bm x dn rs) (os:=xW x) (hc:=λ w hs=>help_c hg k.t _ ht go ok hs)) (λ x31 h31=>?_);refine J27 ?_;refine J69 ?_;refine k_lp [5,6,7,8,9,10,11,12,32,33,34,35,36,37,38,39,40,41,42,43,44,45,46,47,48,49,50,51,52,53,54,55,56,57,58,59,60,61,62,63,64,65,66,67,68,69,70,71,72,73,74,75,76,77,78,79,80,81,82,83,84,85,86,87,88,89,90,91,92,93,94,95,96,97,98,99,100,101,102,103,104,105,106,107,108,109,110,111,112] (λ y:Nat×Int×XS×List NdV=>[(5,.int .i64 y.2.1),(6,.int .i64 ((n-y.1:Nat):Int))]) (λ y=>y.1<=n/\Nx g x y.2.2.1 y.2.2.2 (findT k.t (hsK k.key m) k.key K y.1 y.2.1 ((n-y.1:Nat):Int)) y.2.1) (λ y=>[(j,.cells ⟨[.int .i64 k.t.root,.bool k.t.ro]⟩ 35 (0,0)),(x2,.cells ⟨Rs.zero.cells⟩ 68 (0,0)),(bx,xO k bm y.2.2.1 dn rs),(bm,xM y.2.2.1)]) (λ y=>famF y.2.2.2) (λ y=>xW y.2.2.1) (λ y=>y.1) ((n,x31.1,x31.2.1,x31.2.2)) (⟨Nat.le_refl n,by rw[Nat.sub_self];exact h31⟩) (λ y f hx=>?_) (hw0:=λ w hw=>by rw[List.append_nil] at hw;exact hw);dsimp only[mkU,List.map,List.cons_append,List.nil_append];refine k_seq ?_;refine J26 ?_;refine J33 ?_;refine kif (λ c36=>?_) (λ c36=>?_)
 ·obtain⟨f,hf,gx⟩:=Go'.fuel (T:=λ z=>findT k.t (hsK k.key m) k.key K z y.2.1 ((n-y.1:Nat):Int)) hx.2.go (by simpa using c36) rfl hg;have hyl:=hx.1;refine J37 ?_;refine J11 ?_;refine Kb1 ?_;refine j_ownF (cM (hs:=xH k bx bm y.2.2.1 dn rs) (os:=xW y.2.2.1) (hc:=λ w hs=>read_c hg k.t y.2.1 _ ht hx.2.bd gx hx.2.ok hs)) (λ x43 h43=>?_);have hch:=Ch.nx h43 hx.2.ch;have hlc:x.cs.length<=x43.2.1.cs.length:=by have:=h43.lc;have:=hx.2.lc;omega
  refine j_ownF (cM (hs:=xH k bx bm x43.2.1 dn rs) (os:=xW x43.2.1) (hc:=λ w hs=>node_c x43.1 _ h43.bd h43.go h43.ok hs)) (λ x44 h44=>?_);refine j_alloc (λ x7=>?_);refine J5 ?_;refine J72 ?_;refine Kd2 ?_;refine J39 ?_;refine kif (λ c47=>?_) (λ c47=>?_)
  ·have g1:=h44.1.to (λ _=>if_pos c47)
   refine k_seq ?_;refine k_seq ?_;refine k_dq [0,1,2,3,4,5,6,7] ?_;refine J15 ?_;refine J63 ?_;refine r_seq ?_;refine r_fin ?_;refine kif (λ c56=>?_) (λ c56=>?_);·refine J24 ?_;refine j_own (cV (hc:=λ w1 hw=>rvalue_c _ _ w1)) (λ x59=>?_);refine J5 ?_;refine k_rt Tryz.results176 (λ w hw=>?_);obtain⟨N,hN,hf⟩:=hch.to (t':=K (valR true (nodeV x43.2.1.L x43.1).nd.val)) h43 (g1.to (λ _=>if_pos (by assumption))) hlc (nn0 _);exact⟨(valR true (nodeV x43.2.1.L x43.1).nd.val,x43.2.1,N),rfl,hN,(hw.subF hf).z0⟩
   ·refine k_skip ?_;refine J0 ?_;refine j_own (cV (hc:=λ w1 hw=>rvalue_c _ _ w1)) (λ x60=>?_);refine J5 ?_;refine k_rt Tryz.results176 (λ w hw=>?_);obtain⟨N,hN,hf⟩:=hch.to (t':=K (valR false 0)) h43 (g1.to (λ _=>if_neg (by assumption))) hlc (nn0 _);exact⟨(valR false 0,x43.2.1,N),rfl,hN,(hw.subF hf).z0⟩
  ·have g1:=h44.1.to (λ _=>if_neg c47)
   refine J39 ?_;refine kif (λ c61=>?_) (λ c61=>?_)
   ·have g2:=g1.to (λ _=>if_pos c61)
    refine k_seq ?_;refine k_dq [0,1,2,3,4,5,6,7,8,9,10,11,12] ?_;refine J15 ?_;refine J63 ?_;refine r_own (i:=7) (hq:=(cV (hc:=λ w1 hw=>findX_c (v:=nodeV x43.2.1.L x43.1) (n:=0) k.key (hw.repX hch hA h43.ok x43.1) (h43.ok.ysl _)))) (h:=λ x71=>?_);refine r_move ?_;refine r_ownP (i:=9) (hq:=(o_extr rf rfl)) (h:=?_);refine r_ownP (i:=10) (hq:=(o_extr rf rfl)) (h:=?_);refine J55 ?_;refine J11 ?_;refine j_own (cV (hc:=λ w1 hw=>rvalue_c _ _ w1)) (λ x76=>?_);refine J5 ?_;refine k_rt Tryz.results176 (λ w hw=>?_);obtain⟨N,hN,hf⟩:=hch.to (t':=K (valR (findO (nodeV x43.2.1.L x43.1).c.ys k.key).isSome ((findO (nodeV x43.2.1.L x43.1).c.ys k.key).getD 0))) h43 (g2) hlc (nn0 _);exact⟨(valR (findO (nodeV x43.2.1.L x43.1).c.ys k.key).isSome ((findO (nodeV x43.2.1.L x43.1).c.ys k.key).getD 0),x43.2.1,N),rfl,hN,(hw.subF hf).z0⟩
   ·have g2:=g1.to (λ _=>if_neg c61)
    refine J34 ?_;refine k_seq ?_;refine k_dp [(0,[]),(1,[]),(2,[]),(3,[0]),(4,[]),(5,[]),(6,[]),(7,[]),(8,[]),(9,[])] ?_;refine Kb0 ?_;refine r_own (i:=3) (hq:=(cV (hc:=λ w1 hw=>refSliceA_c (hsK_lt k.key m) ((n-y.1:Nat):Int) w1))) (h:=λ x81=>?_);refine r_own (i:=4) (hq:=(cV (hc:=λ w1 hw=>lkX_c (v:=nodeV x43.2.1.L x43.1) h44.2 (slI (hsK k.key m) ((n-y.1:Nat):Int)) (hw.repX hch hA h43.ok x43.1)))) (h:=λ x82=>?_);refine r_move ?_;refine r_ownP (i:=6) (hq:=(o_extr rf rfl)) (h:=?_);refine r_ownP (i:=7) (hq:=(o_extr rf rfl)) (h:=?_);refine J55 ?_;refine k_seq ?_;refine Kd6 ?_;(refine lcs 89 (λ g89=>?_) (λ g89=>?_)<;>refine Ka0 ?_);all_goals (refine Kd3 ?_)
    all_goals
    refine kif (λ c92=>?_) (λ c92=>?_)
    ·all_goals (refine J0 ?_;refine j_own (cV (hc:=λ w1 hw=>rvalue_c _ _ w1)) (λ x93=>?_);refine J5 ?_)
     all_goals refine k_rt Tryz.results176 (λ w hw=>?_);obtain⟨N,hN,hf⟩:=hch.to (t':=K (valR false 0)) h43 (by first|exact g2.stopped (by assumption)|exact go_none g2 (by assumption)) hlc (nn0 _);exact⟨(valR false 0,x43.2.1,N),rfl,hN,(hw.subF hf).z0⟩
    ·try exact nv c92
     all_goals (refine J16 ?_;refine J11 ?_;refine j_ownF (cM (hs:=xH k bx bm x43.2.1 dn rs) (os:=xW x43.2.1) (hc:=λ w hs=>node_c ((lkV (nodeV x43.2.1.L x43.1).c (slI (hsK k.key m) ((n-y.1:Nat):Int))).getD 0) _ (lkV_le h44.2 _) (go_some g2 (by assumption)) h43.ok hs)) (λ x96 h96=>?_);refine j_alloc (λ x12=>?_);refine J5 ?_;refine J24 ?_;refine J50 ?_)
     all_goals
      refine kif (λ c99=>?_) (λ c99=>?_)
      ·refine k_seq ?_;refine k_seq ?_;refine k_dq [0,1,2,3,4,5,6,7] ?_;refine J15 ?_;refine J63 ?_;refine r_seq ?_;refine r_fin ?_;refine kif (λ c107=>?_) (λ c107=>?_);·refine J24 ?_;refine j_own (cV (hc:=λ w1 hw=>rvalue_c _ _ w1)) (λ x110=>?_);refine J5 ?_;refine k_rt Tryz.results176 (λ w hw=>?_);obtain⟨N,hN,hf⟩:=hch.to (t':=K (valR true (nodeV x43.2.1.L ((lkV (nodeV x43.2.1.L x43.1).c (slI (hsK k.key m) ((n-y.1:Nat):Int))).getD 0)).nd.val)) h43 ((h96.1.to (λ _=>if_pos c99)).to (λ _=>if_pos (by assumption))) hlc (nn0 _);exact⟨(valR true (nodeV x43.2.1.L ((lkV (nodeV x43.2.1.L x43.1).c (slI (hsK k.key m) ((n-y.1:Nat):Int))).getD 0)).nd.val,x43.2.1,N),rfl,hN,(hw.subF hf).z0⟩
       ·refine k_skip ?_;refine J0 ?_;refine j_own (cV (hc:=λ w1 hw=>rvalue_c _ _ w1)) (λ x111=>?_);refine J5 ?_;refine k_rt Tryz.results176 (λ w hw=>?_);obtain⟨N,hN,hf⟩:=hch.to (t':=K (valR false 0)) h43 ((h96.1.to (λ _=>if_pos c99)).to (λ _=>if_neg (by assumption))) hlc (nn0 _);exact⟨(valR false 0,x43.2.1,N),rfl,hN,(hw.subF hf).z0⟩
      ·refine k_skip ?_;refine J20 ?_;refine J1 ?_;refine Kb5 ?_;refine k_rd ((y.1-1,((lkV (nodeV x43.2.1.L x43.1).c (slI (hsK k.key m) ((n-y.1:Nat):Int))).getD 0),x43.2.1,y.2.2.2++x43.2.2)) ?_ (hw1:=λ w hw=>(hw.subF famF_swap).z4)
       ·have e1:y.1-1=f:=by omega
        have e2:((n-y.1:Nat):Int)+1=((n-f:Nat):Int):=by omega
        refine⟨by show y.1-1<=n;omega,(hx.2.trans h43).weak ?_ (lkV_le h44.2 _)⟩;show Go' g x43.2.1 (findT k.t (hsK k.key m) k.key K (y.1-1) ((lkV (nodeV x43.2.1.L x43.1).c (slI (hsK k.key m) ((n-y.1:Nat):Int))).getD 0) ((n-(y.1-1):Nat):Int));rw[e1,<- e2];exact h96.1.to (λ _=>if_neg c99)
 ·refine k_exit rfl ?_;refine Kf3 ?_;refine k_rt Tryz.results176 (λ w hw=>?_);obtain⟨N,hN,hf⟩:=hx.2.ch.to (t':=K (Rs.zero)) hx.2 (hx.2.go.stopped (by simpa using c36)) hx.2.lc (nn0 _);exact⟨(Rs.zero,y.2.2.1,N),rfl,hN,(hw.subF hf).z0⟩
end
end
end Go.Proofs.YtdnklbipddigbaaGreat

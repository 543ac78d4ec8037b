/- Executions of the reference: RDCSS, RENEW; functions that read lists of nodes. -/
import Derived.Test.YtpobgmdalcpomaaGreatGEx7

set_option linter.unusedSimpArgs false
set_option linter.unusedVariables false
namespace Go.Ct
open Go Go.RowKit
theorem Ch.to{g:Gx}{x0 x X:XS}{F:Fr}{N:List NdV}{t t':Tr}{b b':Int}(h:Ch x0 X F)(h2:Nx g x X N t b)(go:Go' g X t')(hc:x0.cs.length<=X.cs.length)(hb:b'<=X.L.length):∃N,Nx g x0 X N t' b'/\∀f∈famF N,f.2=[]∨f∈F:=by
 obtain⟨N,h3,h4⟩:=h
 exact⟨N,⟨go,h2.ok,h3,hc,hb⟩,h4⟩
theorem XS.Ok.rep{w0 w:World}{M:List Nat}{H:List (Nat×Obj)}{A F:Fr}{O:List Ow}{x:XS}(ok:x.Ok)(h:SF w0 M H A F O w)(hA:∀f∈famF x.L,f∈A)(r:Int):Rep w (nodeV x.L r).nd (nodeV x.L r).xs (nodeV x.L r).ys:=h.repX (Ch.base (F:=F)) hA ok r
end Go.Ct
namespace Go.Proofs.YtpobgmdalcpomaaGreat
open Go Go.RowKit Go.Ct
structure ResB(n:Nat)(o:Option (Nat×List Int)):Prop where
 out:∀q,o=some q->q.1<18446744073709551616/\q.2.length<=64/\∀r∈q.2,r<=n
theorem bv_le{b:Nat}{xs:List Int}(h:BV b xs):xs.length<=64:=by rw[h.len];exact cnt_le b 64
theorem mem_upd{xs:List Int}{p:Nat}{r v:Int}(h:v∈updL xs p r):v∈xs∨v=r:=by
 unfold updL at h
 rcases List.mem_append.1 h with h|h
 ·exact .inl (List.mem_of_mem_take h)
 ·rcases List.mem_cons.1 h with h|h
  ·exact .inr h
  ·exact .inl (List.mem_of_mem_drop h)
theorem mem_ins{xs:List Int}{p:Nat}{r v:Int}(h:v∈insL xs p r):v∈xs∨v=r:=by
 unfold insL at h
 rcases List.mem_append.1 h with h|h
 ·exact .inl (List.mem_of_mem_take h)
 ·rcases List.mem_cons.1 h with h|h
  ·exact .inr h
  ·exact .inl (List.mem_of_mem_drop h)
theorem mem_rem{xs:List Int}{p:Nat}{v:Int}(h:v∈remL xs p):v∈xs:=by
 unfold remL at h
 rcases List.mem_append.1 h with h|h
 ·exact List.mem_of_mem_take h
 ·exact List.mem_of_mem_drop h
section
variable{n:Nd}{xs:List Int}{ys:List Pr}{b m:Nat}
theorem resB_up(hb:n.bm=(b:Int))(hb2:b<18446744073709551616)(hx:∀r∈xs,r<=m){r:Int}(hr:r<=m)(i:Int):ResB m (upO n xs ys b i r):=⟨λ q hq=>by
 unfold upO at hq
 split at hq
 ·rename_i h
  cases hq
  obtain⟨h1,h2,h3⟩:=h
  have hv:=h1.bv hb hb2
  obtain⟨e1,e2,e3,e4⟩:=hasI_elim h3
  have:=(upd_bv hv (i:=i.toNat) (by omega) e3 h2).1
  rw[<- e4] at this
  exact⟨this.lt,bv_le this,λ v hv=>(mem_upd hv).elim (hx v) (λ e=>e▸hr)⟩
 ·cases hq⟩
theorem resB_in(hb:n.bm=(b:Int))(hb2:b<18446744073709551616)(hx:∀r∈xs,r<=m){r:Int}(hr:r<=m)(i:Int):ResB m (inO n xs ys b i r):=⟨λ q hq=>by
 unfold inO at hq
 split at hq
 ·rename_i h
  cases hq
  obtain⟨h1,h0,h2,h3⟩:=h
  have hv:=h1.bv hb hb2
  have e:i=((i.toNat:Nat):Int):=by omega
  have hk:i.toNat<64:=by omega
  rw[e] at h3 ⊢
  rw[hasI_nat b hk] at h3
  have:=(ins_bv hv (i:=i.toNat) hk h3 h2).1
  rw[withI_nat b hk,posN_nat b hk]
  exact⟨this.lt,bv_le this,λ v hv=>(mem_ins hv).elim (hx v) (λ e=>e▸hr)⟩
 ·cases hq⟩
theorem resB_re(hb:n.bm=(b:Int))(hb2:b<18446744073709551616)(hx:∀r∈xs,r<=m)(i:Int):ResB m (reO n xs ys b i):=⟨λ q hq=>by
 unfold reO at hq
 split at hq
 ·rename_i h
  cases hq
  obtain⟨h1,h3⟩:=h
  have hv:=h1.bv hb hb2
  obtain⟨e1,e2,e3,e4⟩:=hasI_elim h3
  have hk:i.toNat<64:=by omega
  have:=(rem_bv hv (i:=i.toNat) hk e3).1
  have e:i=((i.toNat:Nat):Int):=by omega
  rw[e,withoutI_nat b hk,posN_nat b hk]
  exact⟨this.lt,bv_le this,λ v hv=>hx v (mem_rem hv)⟩
 ·cases hq⟩
end
theorem ResB.nvB{m c:Nat}{o:Option (Nat×List Int)}(h:ResB m o)(x:Option Addr×Nat):NvB m c {(resN o x).c (resL o) [] with main:=0,prev:=0,status:=0}:=by
 rw[resN_c]
 cases o with
 | none=>exact⟨Int.natCast_nonneg _,Int.natCast_nonneg _,Int.natCast_nonneg _,(λ r hr=>nomatch hr),Int.natCast_nonneg _,Int.natCast_nonneg _,Int.natCast_nonneg _,⟨0,rfl,by decide⟩,⟨0,rfl,by decide⟩⟩
 | some q =>
  have h1:=h.out q rfl
  exact⟨Int.natCast_nonneg _,Int.natCast_nonneg _,Int.natCast_nonneg _,h1.2.2,Int.natCast_nonneg _,Int.natCast_nonneg _,Int.natCast_nonneg _,⟨q.1,rfl,h1.1⟩,⟨0,rfl,by decide⟩⟩
theorem ResB.len{m:Nat}{o:Option (Nat×List Int)}(h:ResB m o):(resL o).length<=274877906944:=by
 cases o with
 | none=>exact Nat.zero_le _
 | some q=>exact Nat.le_trans (h.out q rfl).2.1 (by decide)
theorem resN_br(o:Option (Nat×List Int))(x:Option Addr×Nat):(resN o x).brN=(resL o).length:=by cases o<;>rfl
theorem resN_pr(o:Option (Nat×List Int))(x:Option Addr×Nat):(resN o x).prN=([]:List Pr).length:=by cases o<;>rfl
theorem hasRes{A F:Fr}{O:List Ow}{o:Option (Nat×List Int)}{x:Option Addr×Nat}:HasAll A ((x.1,refsC (resL o))::F) O [((resN o x).brA,refsC (resL o)),((resN o x).prA,prC [])]:=by
 cases o with
 | none=>exact .cons (.inl rfl) (.cons (.inl rfl) .nil)
 | some q=>exact .cons (.inr (.inr (.inl (.head _)))) (.cons (.inl rfl) .nil)
section
variable{v:NdV}{n c:Nat}{w:World}
theorem nvB_nat(h:NvB n c v.c):v.nd.bm=((v.c.bm.toNat:Nat):Int)/\v.c.bm.toNat<18446744073709551616:=by
 obtain⟨b,h1,h2⟩:=h.bm
 have h3:v.nd.bm=(b:Int):=h1
 have h4:v.c.bm=(b:Int):=h1
 rw[h3,h4]
 exact⟨by simp,by simpa using h2⟩
theorem lkX_c(h:NvB n c v.c)(i:Int)(hr:Rep w v.nd v.xs v.ys):Calls Tryz.prog 110 #[v.nd.v,.int .i64 i] w λ e w'=>e=.returned (.tuple #[.int .i64 ((lkV v.c i).getD 0),.bool (lkV v.c i).isSome])/\St w [] [] w':=by
 have h1:=nvB_nat h
 have:=refLookup_c (n:=v.nd) i h1.1 h1.2 hr
 rw[lk_c h1.1 i] at this
 exact this
theorem lkV_le(h:NvB n c v.c)(i:Int):(lkV v.c i).getD 0<=n:=by
 have h1:=nvB_nat h
 have e:=lk_c (xs:=v.xs) (ys:=v.ys) h1.1 i
 rw[show lkV v.c i=lkV (v.nd.c v.xs v.ys) i from rfl,<- e]
 unfold lkO
 split
 ·exact getD_le h.br _
 ·exact Int.natCast_nonneg _
noncomputable abbrev upX (v:NdV) (i r:Int):Option (Nat×List Int):=upO v.nd v.xs v.ys v.c.bm.toNat i r
noncomputable abbrev inX (v:NdV) (i r:Int):Option (Nat×List Int):=inO v.nd v.xs v.ys v.c.bm.toNat i r
noncomputable abbrev reX (v:NdV) (i:Int):Option (Nat×List Int):=reO v.nd v.xs v.ys v.c.bm.toNat i
theorem upX_V(h:NvB n c v.c)(i r:Int)(x:Option Addr×Nat):upV v.c i r=(resN (upX v i r) x).c (resL (upX v i r)) []:=by
 rw[resN_c]
 exact(up_c (nvB_nat h).1 i r).symm
theorem inX_V(h:NvB n c v.c)(i r:Int)(x:Option Addr×Nat):inV v.c i r=(resN (inX v i r) x).c (resL (inX v i r)) []:=by
 rw[resN_c]
 exact(in_c (nvB_nat h).1 i r).symm
theorem reX_V(h:NvB n c v.c)(i:Int)(x:Option Addr×Nat):reV v.c i=(resN (reX v i) x).c (resL (reX v i)) []:=by
 rw[resN_c]
 exact(re_c (nvB_nat h).1 i).symm
theorem upX_c(h:NvB n c v.c)(i r:Int)(hr:Rep w v.nd v.xs v.ys):Calls Tryz.prog 113 #[v.nd.v,.int .i64 i,.int .i64 r] w (CRes w (upX v i r)):=refUpdated_c (n:=v.nd) i r (nvB_nat h).1 (nvB_nat h).2 hr
theorem inX_c(h:NvB n c v.c)(i r:Int)(hr:Rep w v.nd v.xs v.ys):Calls Tryz.prog 140 #[v.nd.v,.int .i64 i,.int .i64 r] w (CRes w (inX v i r)):=refInserted_c (n:=v.nd) i r (nvB_nat h).1 (nvB_nat h).2 hr
theorem reX_c(h:NvB n c v.c)(i:Int)(hr:Rep w v.nd v.xs v.ys):Calls Tryz.prog 143 #[v.nd.v,.int .i64 i] w (CRes w (reX v i)):=refRemoved_c (n:=v.nd) i (nvB_nat h).1 (nvB_nat h).2 hr
theorem upX_B(h:NvB n c v.c){r:Int}(hr:r<=n)(i:Int):ResB n (upX v i r):=resB_up (nvB_nat h).1 (nvB_nat h).2 h.br hr i
theorem inX_B(h:NvB n c v.c){r:Int}(hr:r<=n)(i:Int):ResB n (inX v i r):=resB_in (nvB_nat h).1 (nvB_nat h).2 h.br hr i
theorem reX_B(h:NvB n c v.c)(i:Int):ResB n (reX v i):=resB_re (nvB_nat h).1 (nvB_nat h).2 h.br i
end
theorem nvB_inode{n c:Nat}{g:Int}:NvB n c {(({Nd.zero with kind:=2,gen:=g}:Nd).c [] []) with main:=0,prev:=0,status:=0}:=⟨Int.natCast_nonneg _,Int.natCast_nonneg _,Int.natCast_nonneg _,(λ r hr=>nomatch hr),Int.natCast_nonneg _,Int.natCast_nonneg _,Int.natCast_nonneg _,⟨0,rfl,by decide⟩,⟨0,rfl,by decide⟩⟩
section
variable{k:Cl}{bx bm:Nat}{x:XS}{dn:Bool}{rs:Rs}{D:List Nat}{A:Fr}{w:World}{g:Gx}
theorem rdcss_c(hg:g.Ok)(t:Tri)(o ex n:Int)(K:Bool->Tr)(ht:t.root<=9223372036854775807)(ho:o<=x.L.length)(he:ex<=x.L.length)(hn:n<=x.L.length)(go:Go' g x (rdcssT t o ex n K))(ok:x.Ok)(hs:SF w D (xH k bx bm x dn rs) A [] (xW x) w):Calls Tryz.prog 80 #[.pointer (some ⟨bx,0,none⟩),trV t,.int .i64 o,.int .i64 ex,.int .i64 n] w λ e w'=>∃q:Bool×XS×List NdV,e=.returned (.bool q.1)/\Nx g x q.2.1 q.2.2 (K q.1) 0/\SF w D (xH k bx bm q.2.1 dn rs) [] (famF q.2.2) (xW q.2.1) w':=by
 refine enter Tryz.func80 Tryz.ntmps80 rfl rfl (xOpen2 hs) ?_
 simp only[mkS]
 simp only[trV]
 all_goals (refine J0 ?_;refine j_box (λ x6=>?_);refine J73 ?_;refine J35 ?_;refine j_build ?_;(refine j_own (cM (hs:=xH k bx bm x dn rs) (os:=xW x) (A0:=[(none,refsC []),(none,prC [])]) (hc:=λ w hs=>alloc_c hg (n:={Nd.zero with kind:=8,old:=o,exp:=ex,new:=n}) (xs:=[]) (ys:=[]) 0 _ rfl rfl (by decide) (Nat.zero_le _) (nvB_desc ho he hn) (Int.natCast_nonneg _) go ok hs)) (λ x18=>?_);try (refine l_fact (λ h18=>?_)));refine J27 ?_;refine J2 ?_;refine J3 ?_;refine J35 ?_;(refine j_own (cM (hs:=xH k bx bm x18.2.1 dn rs) (os:=xW x18.2.1) (hc:=λ w hs=>cas_c hg t.root o x18.1 _ ht h18.bd h18.go h18.ok hs)) (λ x24=>?_);try (refine l_fact (λ h24=>?_)));refine J33 ?_)
 all_goals
 refine kif (λ c25=>?_) (λ c25=>?_)
 ·try exact nv c25
  all_goals refine J10 ?_
  all_goals
   refine k_rv Tryz.results80 (λ w hw=>?_)
   obtain⟨N,hN,hf⟩:=(Ch.base (F:=[])).nx h18 |>.nx0 h24 |>.to h24 (h24.go.to (λ _=>if_neg (by simpa using c25))) (by have:=h18.lc;have:=h24.lc;omega) (Int.natCast_nonneg _)
   exact⟨(false,x24.2,N),rfl,hN,(hw.subF hf).finH (hF:=by exact FSub.all)⟩
 ·try exact nv c25
  all_goals
   have g1:=h24.go.to (λ _=>if_pos (by simpa using c25))
   have hl24:=h24.len
   have hb18:=h18.bd
  all_goals (refine k_skip ?_;refine J2 ?_;refine j_load ?_;refine j_move ?_;(refine j_own (cM (hs:=xH k bx bm x24.2 dn rs) (os:=xW x24.2) (hc:=λ w hs=>decide_c hg t x18.1 _ ht (by omega) g1 h24.ok hs)) (λ x29=>?_);try (refine l_fact (λ h29=>?_)));refine l_nil ?_;refine J11 ?_;refine j_move ?_;(refine j_own (cM (hs:=xH k bx bm x29.1 dn rs) (os:=xW x29.1) (hc:=λ w hs=>node_c x18.1 _ (by have:=h29.len;omega) h29.go h29.ok hs)) (λ x33=>?_);try (refine l_fact (λ h33=>?_)));refine j_field ?_;(refine j_own (cM (hs:=xH k bx bm x29.1 dn rs) (os:=xW x29.1) (hc:=λ w hs=>load_c hg (nodeV x29.1.L x18.1).nd.status _ (h33.2.i64 h29.ok.lL h29.ok.lc).2.2.2.2.2 h33.1 h29.ok hs)) (λ x35=>?_);try (refine l_fact (λ h35=>?_)));refine J27 ?_;refine k_dp [(0,[]),(1,[]),(2,[]),(3,[]),(4,[]),(5,[]),(6,[]),(7,[2]),(8,[])] ?_;refine r_move ?_;refine J15 ?_;refine J17 ?_;refine J17 ?_;((refine r_own (i:=7) (hq:=(cM (hs:=xH k bx bm x35.2 dn rs) (os:=xW x35.2) (hc:=λ w hs=>winner_c x18.1 x35.1 _ (by have:=h29.len;have:=h35.len;omega) h35.go h35.ok hs))) (h:=λ x43=>?_);try (refine r_fact (λ h43=>?_))));((refine r_own (i:=8) (hq:=(cM (hs:=xH k bx bm x35.2 dn rs) (os:=xW x35.2) (hc:=λ w hs=>cas_c hg t.root x18.1 x43 _ ht h43.2 h43.1 h35.ok hs))) (h:=λ x44=>?_);try (refine r_fact (λ h44=>?_))));refine r_fin ?_;refine J26 ?_;refine J59 ?_)
  all_goals (first|refine j_un ?_|(refine j_yes ?_;refine j_move ?_)|(refine lcs 50 (λ g50=>?_) (λ g50=>?_)<;>(first|refine j_un ?_|(refine j_yes ?_;refine j_move ?_))))
  all_goals (refine J12 ?_;refine J1 ?_)
  all_goals
   refine k_rv Tryz.results80 (λ w hw=>?_)
   first
   | (obtain⟨N,hN,hf⟩:=(Ch.nx h29 ((Ch.base (F:=[])).nx h18 |>.nx0 h24)) |>.nx0 h35 |>.nx0 h44 |>.to h44 h44.go (by have:=h18.lc;have:=h24.lc;have:=h29.lc;have:=h35.lc;have:=h44.lc;omega) (Int.natCast_nonneg _);exact⟨(x35.1==1,x44.2,N),rfl,hN,(hw.subF hf).finH (hF:=by exact FSub.all)⟩)
   | (obtain⟨N,hN,hf⟩:=(Ch.nx h29 ((Ch.base (F:=[])).nx h18 |>.nx0 h24)) |>.nx0 h35 |>.nx0 h44 |>.to (t':=K false) h44 (h44.go.stopped (by first|assumption|simp_all)) (by have:=h18.lc;have:=h24.lc;have:=h29.lc;have:=h35.lc;have:=h44.lc;omega) (Int.natCast_nonneg _);exact⟨(false,x44.2,N),rfl,hN,(hw.subF hf).finH (hF:=by exact FSub.all)⟩)
theorem replace_c(hg:g.Ok)(c index r:Int)(K:Int->Tr)(hc:c<=x.L.length)(hr:r<=x.L.length)(hA:∀f∈famF x.L,f∈A)(go:Go' g x (replT c index r K))(ok:x.Ok)(hs:SF w D (xH k bx bm x dn rs) A [] (xW x) w):Calls Tryz.prog 111 #[.pointer (some ⟨bx,0,none⟩),.int .i64 c,.int .i64 index,.int .i64 r] w λ e w'=>∃q:Int×XS×List NdV,e=.returned (.int .i64 q.1)/\Nx g x q.2.1 q.2.2 (K q.1) q.1/\SF w D (xH k bx bm q.2.1 dn rs) [] (famF q.2.2) (xW q.2.1) w':=by
 refine enter Tryz.func111 Tryz.ntmps111 rfl rfl (xOpen2 hs) ?_
 simp only[mkS]
 all_goals (refine J10 ?_;refine J11 ?_;(refine j_own (cM (hs:=xH k bx bm x dn rs) (os:=xW x) (hc:=λ w hs=>node_c c _ hc go ok hs)) (λ x14=>?_);try (refine l_fact (λ h14=>?_)));refine J35 ?_;(refine j_own (cF (hc:=λ w1 hw=>upX_c (v:=nodeV x.L c) (ok.nv c) index r (ok.rep hw hA c))) (λ x17=>?_);try (refine l_fact (λ h17=>?_)));refine J82 ?_;refine j_alloc (λ x9=>?_);refine J46 ?_;refine J2 ?_;refine j_load ?_;refine j_move ?_;(refine j_own (cM (hs:=xH k bx bm x dn rs) (os:=xW x) (A0:=[((resN (upX (nodeV x.L c) index r) x17).brA,refsC (resL (upX (nodeV x.L c) index r))),((resN (upX (nodeV x.L c) index r) x17).prA,prC [])]) (hA:=hasRes) (hc:=λ w hs=>alloc_c hg (n:=resN (upX (nodeV x.L c) index r) x17) (xs:=resL (upX (nodeV x.L c) index r)) (ys:=[]) c _ (resN_br _ _) (resN_pr _ _) (upX_B (ok.nv c) hr index).len (Nat.zero_le _) ((upX_B (ok.nv c) hr index).nvB _) hc (by rw[<- upX_V (ok.nv c)];exact h14.1) ok hs)) (λ x23=>?_);try (refine l_fact (λ h23=>?_)));refine J1 ?_)
 all_goals
 refine k_rv Tryz.results111 (λ w hw=>?_)
 exact⟨x23,rfl,h23,hw.finH (hF:=by exact FSub.ofSub λ f hf=>List.mem_append_left _ hf)⟩
end
end Go.Proofs.YtpobgmdalcpomaaGreat

/- Executions of the reference: RENEW, CLEAN. -/
namespace Go.Proofs.YtpobgmdalcpomaaGreat
open Go Go.RowKit Go.Ct
theorem refSliceA_c{h:Nat}(hh:h<18446744073709551616)(level:Int)(w:World):Calls Tryz.prog 35 #[.int .u64 (h:Int),.int .i64 level] w λ e w'=>e=.returned (.int .i64 (slI h level))/\St w [] [] w':=by
 by_cases hl:level<0∨10<level
 ·unfold slI
  rw[if_pos hl]
  refine enter Tryz.func35 Tryz.ntmps35 rfl rfl (SF.s0 w) ?_
  simp only[mkS]
  all_goals (refine J10 ?_;refine J32 ?_;refine J64 ?_)
  all_goals (first|refine j_un ?_|(refine j_yes ?_;refine j_move ?_)|(refine lcs 7 (λ g7=>?_) (λ g7=>?_)<;>(try (exfalso;omega))<;>(first|refine j_un ?_|(refine j_yes ?_;refine j_move ?_))))
  all_goals (refine J22 ?_;refine l_nil ?_)
  all_goals
  refine kif (λ c10=>?_) (λ c10=>?_)
  ·try exact nv c10
   all_goals try (exfalso;omega)
   all_goals refine J10 ?_
   all_goals
    refine k_rv Tryz.results35 (λ w hw=>?_)
    exact⟨rfl,hw.done⟩
  ·try exact nv c10
   all_goals try (exfalso;omega)
   all_goals refine J37 ?_
   all_goals
    refine k_loopC [0,1,11,12,13,14,15,16] (λ y:Nat=>[]) (λ y=>False) (λ y=>y) (0) (by omega) ?_ (λ y f hx=>?_)
    ·repeat (first|exact knows_nil _|refine knows_cons (by first|exact rfl|(conv=>{lhs;whnf};simp;done)) ?_)
    dsimp only[mkU,List.map,List.cons_append,List.nil_append]
    all_goals (refine J32 ?_;refine j_gtr ?_;refine l_nil ?_)
    all_goals
    refine kif (λ c12=>?_) (λ c12=>?_)
    ·try exact nv c12
     all_goals try (exfalso;omega)
     all_goals (refine J37 ?_;refine J20 ?_;refine l_quiet (NO_RULE_binOp) rfl ?_;refine J1 ?_;refine k_blk ?_;refine J20 ?_;refine j_dec ?_;refine J1 ?_)
     all_goals
      refine k_roundC (y+1) ?_ ?_ ?_
      ·first|omega|(simp only[];omega)
      ·repeat' (first|exact knows_nil _|refine knows_cons ?_ ?_)
       all_goals (first|exact rfl|(conv=>{lhs;whnf};simp;done)|(conv=>{lhs;whnf};congr 1;omega))
      ·exact hx.elim
    ·try exact nv c12
     all_goals try (exfalso;omega)
     all_goals (refine k_exit rfl ?_;refine J2 ?_;refine j_rem ?_;refine j_convert ?_;refine J1 ?_)
     all_goals
      refine k_rv Tryz.results35 (λ w hw=>?_)
      exact hx.elim
 ·unfold slI
  rw[if_neg hl]
  exact refSliceI_c (l:=level.toNat) (by omega) hh (by omega) w
section
variable{m c:Nat}{o:Option (Nat×List Int)}{w:World}
noncomputable abbrev coB (o:Option (Nat×List Int)) (x:Option Addr×Nat) (level:Int) (s:Nd):Bool:=coT (resN o x) (resL o) [] level s
noncomputable abbrev coW (o:Option (Nat×List Int)) (x:Option Addr×Nat) (level:Int) (s:Nd):Nd:=reN (coB o x level s) (resN o x) s
noncomputable abbrev coL (o:Option (Nat×List Int)) (x:Option Addr×Nat) (level:Int) (s:Nd):List Int:=coX (coB o x level s) (resL o)
theorem coX_nil{α:Type}(t:Bool):coX t ([]:List α)=[]:=by unfold coX;split<;>rfl
theorem resN_nat(h:ResB m o)(x:Option Addr×Nat):∃b:Nat,(resN o x).bm=(b:Int)/\b<18446744073709551616:=by
 cases o with
 | none=>exact⟨0,rfl,by decide⟩
 | some q=>exact⟨q.1,rfl,(h.out q rfl).1⟩
theorem resN_rep(h:ResB m o){x:Option Addr×Nat}(hc:Go.Ct.Cl w x.1 (refsC (resL o))):Rep w (resN o x) (resL o) []:=by
 refine⟨resN_br _ _,resN_pr _ _,?_,?_,by have:=h.len;omega,by decide⟩
 ·cases o with
  | none=>exact Cl.nil _ _
  | some q=>exact hc
 ·exact Cl.nil _ _
theorem coRes_c(h:ResB m o){x:Option Addr×Nat}(level:Int)(s:Nd)(hc:Go.Ct.Cl w x.1 (refsC (resL o))):Calls Tryz.prog 114 #[(resN o x).v,.int .i64 level,s.v] w λ e w'=>e=.returned (coW o x level s).v/\St w [] [] w':=by
 obtain⟨b,h1,h2⟩:=resN_nat h x
 exact refContracted_c (n:=resN o x) level s h1 h2 (resN_rep h hc)
theorem coW_V(x:Option Addr×Nat)(level:Int)(s:Nd):coV (resV o) level (s.c [] [])=(coW o x level s).c (coL o x level s) []:=by
 have:=(co_c (n:=resN o x) (s:=s) (xs:=resL o) (ys:=[]) level).symm
 rw[resN_c,coX_nil] at this
 exact this
theorem coW_br(x:Option Addr×Nat)(level:Int)(s:Nd):(coW o x level s).brN=(coL o x level s).length:=by
 unfold coW reN coL coX
 split
 ·rfl
 ·exact resN_br _ _
theorem coW_pr(x:Option Addr×Nat)(level:Int)(s:Nd):(coW o x level s).prN=([]:List Pr).length:=by
 unfold coW reN
 split
 ·rfl
 ·exact resN_pr _ _
theorem coL_len(h:ResB m o)(x:Option Addr×Nat)(level:Int)(s:Nd):(coL o x level s).length<=274877906944:=by
 unfold coL coX
 split
 ·exact Nat.zero_le _
 ·exact h.len
theorem coW_nvB(h:ResB m o)(x:Option Addr×Nat)(level:Int){s:Nd}(hh:∃b:Nat,s.hash=(b:Int)/\b<18446744073709551616):NvB m c {(coW o x level s).c (coL o x level s) [] with main:=0,prev:=0,status:=0}:=by
 unfold coW reN coL coX
 split
 ·exact⟨Int.natCast_nonneg _,Int.natCast_nonneg _,Int.natCast_nonneg _,(λ r hr=>nomatch hr),Int.natCast_nonneg _,Int.natCast_nonneg _,Int.natCast_nonneg _,⟨0,rfl,by decide⟩,hh⟩
 ·exact h.nvB x
theorem hasCo{A F:Fr}{O:List Ow}{x:Option Addr×Nat}{level:Int}{s:Nd}:HasAll A ((x.1,refsC (resL o))::F) O [((coW o x level s).brA,refsC (coL o x level s)),((coW o x level s).prA,prC [])]:=by
 unfold coW reN coL coX
 split
 ·exact .cons (.inl rfl) (.cons (.inl rfl) .nil)
 ·exact hasRes
end
theorem unN_br(n:Nd):(unN n).brN=([]:List Int).length/\(unN n).prN=([]:List Pr).length:=by unfold unN;split<;>exact⟨rfl,rfl⟩
theorem unN_hash{n:Nd}(h:∃b:Nat,n.hash=(b:Int)/\b<18446744073709551616):∃b:Nat,(unN n).hash=(b:Int)/\b<18446744073709551616:=by
 unfold unN
 split
 ·exact h
 ·exact⟨0,rfl,by decide⟩
theorem nvB_un{n:Nd}{m c:Nat}(h:∃b:Nat,n.hash=(b:Int)/\b<18446744073709551616):NvB m c {(unN n).c [] [] with main:=0,prev:=0,status:=0}:=by
 have h2:=unN_hash h
 revert h2
 unfold unN
 split<;>exact λ h2=>⟨Int.natCast_nonneg _,Int.natCast_nonneg _,Int.natCast_nonneg _,(λ r hr=>nomatch hr),Int.natCast_nonneg _,Int.natCast_nonneg _,Int.natCast_nonneg _,⟨0,rfl,by decide⟩,h2⟩
theorem up_c'{v:NdV}{n c:Nat}(h:NvB n c v.c){i r:Int}:upV v.c i r=resV (upX v i r):=(up_c (nvB_nat h).1 i r).symm
theorem re_c'{v:NdV}{n c:Nat}(h:NvB n c v.c){i:Int}:reV v.c i=resV (reX v i):=(re_c (nvB_nat h).1 i).symm
theorem opt_eq{o:Option Int}{c:Int}(h1:o.isSome=true)(h2:o.getD 0=c):o=some c:=by
 cases o with
 | none=>cases h1
 | some v=>exact congrArg some h2
theorem opt_ne1{o:Option Int}{c:Int}(h1:o.isSome=false):¬o=some c:=λ h=>by rw[h] at h1;cases h1
theorem opt_ne2{o:Option Int}{c:Int}(h1:o.getD 0≠c):¬o=some c:=λ h=>by rw[h] at h1;exact h1 rfl
section
variable{k:Cl}{bx bm:Nat}{x:XS}{dn:Bool}{rs:Rs}{D:List Nat}{A:Fr}{w:World}{g:Gx}
theorem renew_c(hg:g.Ok)(t:Tri)(i c index:Int)(K:Int->Tr)(ht:t.root<=9223372036854775807)(hi:i<=x.L.length)(hc:c<=x.L.length)(hA:∀f∈famF x.L,f∈A)(go:Go' g x (renewT t i c index K))(ok:x.Ok)(hs:SF w D (xH k bx bm x dn rs) A [] (xW x) w):Calls Tryz.prog 81 #[.pointer (some ⟨bx,0,none⟩),trV t,.int .i64 i,.int .i64 c,.int .i64 index] w λ e w'=>∃q:Int×XS×List NdV,e=.returned (.int .i64 q.1)/\Nx g x q.2.1 q.2.2 (K q.1) q.1/\SF w D (xH k bx bm q.2.1 dn rs) [] (famF q.2.2) (xW q.2.1) w':=by
  refine enter Tryz.func81 Tryz.ntmps81 rfl rfl (xOpen2 hs) ?_
  simp only[mkS]
  simp only[trV]
  all_goals (refine J0 ?_;refine j_box (λ x6=>?_);refine J73 ?_;(refine j_own (cM (hs:=xH k bx bm x dn rs) (os:=xW x) (hc:=λ w hs=>node_c c _ hc go ok hs)) (λ x18=>?_);try (refine l_fact (λ h18=>?_)));refine j_move ?_;(refine j_own (cV (hc:=λ w1 hw=>lkX_c (v:=nodeV x.L c) (ok.nv c) index (ok.rep hw hA c))) (λ x20=>?_);try (refine l_fact (λ h20=>?_)));refine j_move ?_;refine l_quiet (o_extr rf rfl) rfl ?_;refine l_quiet (o_extr rf rfl) rfl ?_;refine J8 ?_;refine J2 ?_;refine j_load ?_;refine j_move ?_;(refine j_own (cM (hs:=xH k bx bm x dn rs) (os:=xW x) (hc:=λ w hs=>read_c hg t ((lkV (nodeV x.L c).c index).getD 0) _ ht (lkV_le (ok.nv c) index) h18.1 ok hs)) (λ x26=>?_);try (refine l_fact (λ h26=>?_)));refine J73 ?_;refine j_move ?_;(refine j_own (cM (hs:=xH k bx bm x26.2.1 dn rs) (os:=xW x26.2.1) (hc:=λ w hs=>node_c i _ (by have:=h26.len;omega) h26.go h26.ok hs)) (λ x30=>?_);try (refine l_fact (λ h30=>?_)));refine j_field ?_;refine j_build ?_;refine j_move ?_;(refine j_own (cM (hs:=xH k bx bm x26.2.1 dn rs) (os:=xW x26.2.1) (A0:=[(none,refsC []),(none,prC [])]) (hc:=λ w hs=>alloc_c hg (n:={Nd.zero with kind:=2,gen:=(nodeV x26.2.1.L i).nd.gen}) (xs:=[]) (ys:=[]) x26.1 _ rfl rfl (by decide) (Nat.zero_le _) nvB_inode h26.bd h30.1 h26.ok hs)) (λ x34=>?_);try (refine l_fact (λ h34=>?_))))
  all_goals
   have hch:=Ch.nx h34 ((Ch.base (F:=[])).nx h26)
  all_goals (refine J27 ?_;refine k_seq ?_;refine k_dp [(0,[]),(1,[]),(2,[]),(3,[]),(4,[]),(5,[]),(6,[]),(7,[]),(8,[1]),(9,[])] ?_;refine r_move ?_;refine r_load ?_;refine J17 ?_;refine J17 ?_;refine J17 ?_;((refine r_own (i:=8) (hq:=(cM (hs:=xH k bx bm x34.2.1 dn rs) (os:=xW x34.2.1) (A0:=famF x34.2.1.L) (hA:=Ch.all hch hA) (hc:=λ w hs=>replace_c hg c index x34.1 _ (by have:=h26.len;have:=h34.len;omega) h34.bd (λ f hf=>hf) h34.go h34.ok hs))) (h:=λ x43=>?_);try (refine r_fact (λ h43=>?_))));((refine r_own (i:=9) (hq:=(cM (hs:=xH k bx bm x43.2.1 dn rs) (os:=xW x43.2.1) (hc:=λ w hs=>gcas_c hg t i c x43.1 _ ht (by have:=h26.len;have:=h34.len;have:=h43.len;omega) h43.bd h43.go h43.ok hs))) (h:=λ x44=>?_);try (refine r_fact (λ h44=>?_)))))
  all_goals
   have hch2:=Ch.nx h44 (Ch.nx h43 hch)
   have hlc:x.cs.length<=x44.2.1.cs.length:=by have:=h26.lc;have:=h34.lc;have:=h43.lc;have:=h44.lc;omega
  all_goals refine r_fin ?_
  all_goals
   refine kif (λ c44=>?_) (λ c44=>?_)
   · try exact nv c44
     all_goals (refine J2 ?_;refine J1 ?_)
     all_goals
      refine k_rv Tryz.results81 (λ w hw=>?_)
      obtain⟨N,hN,hf⟩:=hch2.to h44 (h44.go.to (t':=K x34.1) (λ _=>by rw[if_pos (by assumption)])) hlc (show x34.1<=_ by have:=h34.bd;have:=h43.len;have:=h44.len;omega)
      exact⟨(x34.1,x44.2.1,N),rfl,hN,(hw.subF hf).finH (hF:=by exact FSub.all)⟩
   · try exact nv c44
     all_goals (refine k_skip ?_;refine J10 ?_)
     all_goals
      refine k_rv Tryz.results81 (λ w hw=>?_)
      obtain⟨N,hN,hf⟩:=hch2.to h44 (h44.go.to (t':=K 0) (λ _=>by rw[if_neg (by simp only[Bool.not_eq_true];assumption)])) hlc (show(0:Int)<=_ from Int.natCast_nonneg _)
      exact⟨(0,x44.2.1,N),rfl,hN,(hw.subF hf).finH (hF:=by exact FSub.all)⟩
end
end Go.Proofs.YtpobgmdalcpomaaGreat

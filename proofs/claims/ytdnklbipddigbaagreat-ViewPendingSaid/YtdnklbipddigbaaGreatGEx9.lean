/- Merged. -/
import Derived.Test.YtdnklbipddigbaaGreatGEx6
set_option linter.unusedSimpArgs false
set_option linter.unusedVariables false
namespace Go.Ct
section
theorem nvB_desc{n c:Nat}{a b d:Int}(h1:a<=n)(h2:b<=n)(h3:d<=n):NvB n c {(({Nd.zero with kind:=8,old:=a,exp:=b,new:=d}:Nd).c [] []) with main:=0,prev:=0,status:=0}:=⟨h1,h2,h3,(λ r hr=>nomatch hr),nn0 _,nn0 _,nn0 _,⟨0,rfl,by decide⟩,⟨0,rfl,by decide⟩⟩
end
end Go.Ct
namespace Go.Proofs.YtdnklbipddigbaaGreat
open Go Go.RowKit Go.Ct
section
section
variable{k:Cl}{bx bm:Nat}{x:XS}{dn:Bool}{rs:Rs}{D:List Nat}{A:Fr}{w:World}{g:Gx}
theorem read_c(hg:g.Ok)(t:Tri)(i:Int)(K:Int->Tr)(ht:t.root<=9223372036854775807)(hi:i<=x.L.length)(go:Go' g x (readT t i K))(ok:x.Ok)(hs:SF w D (xH k bx bm x dn rs) A [] (xW x) w):Calls Tryz.prog 170 #[.pointer (some ⟨bx,0,none⟩),trV t,.int .i64 i] w λ e w'=>∃q:Int×XS×List NdV,e=.returned (.int .i64 q.1)/\Nx g x q.2.1 q.2.2 (K q.1) q.1/\SF w D (xH k bx bm q.2.1 dn rs) [] (famF q.2.2) (xW q.2.1) w':=by refine enter Tryz.func170 Tryz.ntmps170 rfl rfl (xOpen2 hs) ?_;simp only[mkS];simp only[trV];refine J0 ?_;refine j_box (λ x4=>?_);refine J27 ?_;refine k_dp [(0,[]),(1,[]),(2,[]),(3,[]),(4,[]),(5,[]),(6,[1]),(7,[]),(8,[1]),(9,[]),(10,[])] ?_;refine Kd5 ?_;refine J17 ?_;refine r_ownF (i:=6) (hq:=(cM (hs:=xH k bx bm x dn rs) (os:=xW x) (hc:=λ w hs=>node_c i _ hi go ok hs))) (h:=λ x13 h13=>?_);refine r_field ?_;refine r_ownF (i:=8) (hq:=(cM (hs:=xH k bx bm x dn rs) (os:=xW x) (hc:=λ w hs=>load_c hg (nodeV x.L i).nd.main _ (h13.2.i64 ok.lL ok.lc).2.2.2.1 h13.1 ok hs))) (h:=λ x15 h15=>?_);refine r_ownF (i:=9) (hq:=(cM (hs:=xH k bx bm x15.2 dn rs) (os:=xW x15.2) (hc:=λ w hs=>settle_c hg t i x15.1 _ ht (by have:=h15.len;omega) h15.bd h15.go h15.ok hs))) (h:=λ x16 h16=>?_);refine J7 ?_;refine k_rv Tryz.results170 (λ w hw=>?_);exact⟨x16,rfl,h15.trans h16,by rw[List.append_nil] at hw;exact hw.z0⟩
theorem decide_c(hg:g.Ok)(t:Tri)(v:Int)(K:Tr)(ht:t.root<=9223372036854775807)(hv:v<=x.L.length)(go:Go' g x (decideT t v K))(ok:x.Ok)(hs:SF w D (xH k bx bm x dn rs) A [] (xW x) w):Calls Tryz.prog 205 #[.pointer (some ⟨bx,0,none⟩),trV t,.int .i64 v] w λ e w'=>∃q:XS×List NdV,e=.returned (.tuple #[])/\Nx g x q.1 q.2 K 0/\SF w D (xH k bx bm q.1 dn rs) [] (famF q.2) (xW q.1) w':=by
 refine enter Tryz.func205 Tryz.ntmps205 rfl rfl (xOpen2 hs) ?_;simp only[mkS];simp only[trV];refine J0 ?_;refine j_box (λ x4=>?_);refine l_nil ?_;refine J75 ?_;refine k_seq ?_;refine k_dp [(0,[]),(1,[]),(2,[]),(3,[]),(7,[]),(8,[]),(4,[1]),(5,[]),(6,[]),(9,[]),(10,[]),(11,[])] ?_;refine Kd5 ?_;refine J17 ?_;refine r_ownF (i:=4) (hq:=(cM (hs:=xH k bx bm x dn rs) (os:=xW x) (hc:=λ w hs=>node_c v _ hv go ok hs))) (h:=λ x11 h11=>?_);refine r_field ?_;refine r_ownF (i:=6) (hq:=(cM (hs:=xH k bx bm x dn rs) (os:=xW x) (hc:=λ w hs=>read_c hg t (nodeV x.L v).nd.old _ ht h11.2.old h11.1 ok hs))) (h:=λ x13 h13=>?_);refine r_ownF (i:=9) (hq:=(cM (hs:=xH k bx bm x13.2.1 dn rs) (os:=xW x13.2.1) (hc:=λ w hs=>node_c v _ (by have:=h13.len;omega) h13.go h13.ok hs))) (h:=λ x16 h16=>?_);refine r_field ?_;refine r_eql ?_;refine r_fin ?_;refine kif (λ c18=>?_) (λ c18=>?_)
 ·have gx:Go' g x13.2.1 (.node v λ n3=>.cas n3.status 0 1 λ _=>K):=h16.1.to (λ _=>by rw[show x13.1=(nodeV x13.2.1.L v).c.exp from c18];simp only[if_true])
  have h2e:(1:Int)<=x13.2.1.L.length:=by have:=h13.ok.two;omega
  refine k_region ?_;refine J1 ?_;refine J20 ?_;refine J35 ?_;refine j_ownF (cM (hs:=xH k bx bm x13.2.1 dn rs) (os:=xW x13.2.1) (hc:=λ w hs=>node_c v _ (by have:=h13.len;omega) gx h13.ok hs)) (λ x22 h22=>?_);refine j_field ?_;refine j_move ?_;(refine j_own (by exact cM (hs:=xH k bx bm x13.2.1 dn rs) (os:=xW x13.2.1) (hc:=λ w hs=>cas_c hg (nodeV x13.2.1.L v).nd.status 0 1 _ (h22.2.i64 h13.ok.lL h13.ok.lc).2.2.2.2.2 h2e h22.1 h13.ok hs)) (λ x25=>?_);try (refine l_fact (λ h25=>?_)));refine l_nil ?_;refine k_et Tryz.results205 (λ w hw=>?_);rw[List.append_nil] at hw;exact⟨(x25.2,x13.2.2),rfl,(h13.trans h25).ext' h25.go (nn0 _),hw.z0⟩
 ·have gx:Go' g x13.2.1 (.node v λ n3=>.cas n3.status 0 2 λ _=>K):=h16.1.to (λ _=>by simp only[if_neg (show ¬x13.1=(nodeV x13.2.1.L v).c.exp from c18)])
  have h2e:(2:Int)<=x13.2.1.L.length:=by have:=h13.ok.two;omega
  refine k_skip ?_;refine J20 ?_;refine J35 ?_;refine j_ownF (cM (hs:=xH k bx bm x13.2.1 dn rs) (os:=xW x13.2.1) (hc:=λ w hs=>node_c v _ (by have:=h13.len;omega) gx h13.ok hs)) (λ x22 h22=>?_);refine j_field ?_;refine j_move ?_;(refine j_own (by exact cM (hs:=xH k bx bm x13.2.1 dn rs) (os:=xW x13.2.1) (hc:=λ w hs=>cas_c hg (nodeV x13.2.1.L v).nd.status 0 2 _ (h22.2.i64 h13.ok.lL h13.ok.lc).2.2.2.2.2 h2e h22.1 h13.ok hs)) (λ x25=>?_);try (refine l_fact (λ h25=>?_)));refine l_nil ?_;refine k_et Tryz.results205 (λ w hw=>?_);rw[List.append_nil] at hw;exact⟨(x25.2,x13.2.2),rfl,(h13.trans h25).ext' h25.go (nn0 _),hw.z0⟩
theorem help_c(hg:g.Ok)(t:Tri)(K:Int->Tr)(ht:t.root<=9223372036854775807)(go:Go' g x (helpT t K))(ok:x.Ok)(hs:SF w D (xH k bx bm x dn rs) A [] (xW x) w):Calls Tryz.prog 172 #[.pointer (some ⟨bx,0,none⟩),trV t] w λ e w'=>∃q:Int×XS×List NdV,e=.returned (.int .i64 q.1)/\Nx g x q.2.1 q.2.2 (K q.1) q.1/\SF w D (xH k bx bm q.2.1 dn rs) [] (famF q.2.2) (xW q.2.1) w':=by
 refine enter Tryz.func172 Tryz.ntmps172 rfl rfl (xOpen2 hs) ?_;simp only[mkS];simp only[trV];refine J0 ?_;refine j_box (λ x3=>?_);refine Ka7 ?_;refine J3 ?_;refine j_ownF (cM (hs:=xH k bx bm x dn rs) (os:=xW x) (hc:=λ w hs=>load_c hg t.root _ ht go ok hs)) (λ x11 h11=>?_);refine J27 ?_;refine Kd6 ?_;(refine lcs 16 (λ g16=>?_) (λ g16=>?_)<;>refine Ka0 ?_);all_goals (refine Ka0 ?_;(first|refine j_un ?_|(refine j_yes ?_;refine j_ownF (cM (hs:=xH k bx bm x11.2 dn rs) (os:=xW x11.2) (hc:=λ w hs=>node_c x11.1 _ h11.bd h11.go h11.ok hs)) (λ x19 h19=>?_)));refine J87 ?_;refine l_nil ?_)
 all_goals
 refine kif (λ c22=>?_) (λ c22=>?_)
 ·all_goals (refine Kb2 ?_)
  all_goals refine k_rv Tryz.results172 (λ w hw=>?_);exact⟨(x11.1,x11.2,[]),rfl,h11.weak (by first|exact h11.go.stopped (by assumption)|exact h19.1.to (λ _=>if_pos (by assumption))) h11.bd,hw.finH (hF:=by exact FSub.nil)⟩
 ·try exact nv c22
  all_goals
   have g1:=h19.1.to (λ _=>if_neg c22)
   have hb1:=h19.2.i64 h11.ok.lL h11.ok.lc
  all_goals (refine J58 ?_;refine j_move ?_;refine j_ownF (cM (hs:=xH k bx bm x11.2 dn rs) (os:=xW x11.2) (hc:=λ w hs=>node_c x11.1 _ h11.bd g1 h11.ok hs)) (λ x27 h27=>?_);refine j_field ?_;refine j_ownF (cM (hs:=xH k bx bm x11.2 dn rs) (os:=xW x11.2) (hc:=λ w hs=>load_c hg (nodeV x11.2.L x11.1).nd.status _ hb1.2.2.2.2.2 h27.1 h11.ok hs)) (λ x29 h29=>?_);refine J27 ?_)
  all_goals
   refine k_joinG [6,30,31,32,33,34,35,36,37,38,39,40,41] (λ q:Int×XS×List NdV=>[(6,.int .i64 q.1)]) (λ q=>Nx g x q.2.1 q.2.2 (cmpT t x11.1 q.1 K) 0/\x11.1<=q.2.1.L.length) (λ q=>[(x3,.cells ⟨[.int .i64 t.root,.bool t.ro]⟩ 35 (0,0)),(bx,xO k bm q.2.1 dn rs),(bm,xM q.2.1)]) (λ q=>famF q.2.2) (λ q=>xW q.2.1) (by decide) (λ _=>by exact rfl) ?_ (λ q f hx=>?_)
   ·refine k_seq ?_;refine J20 ?_;refine J50 ?_;refine kif (λ c31=>?_) (λ c31=>?_)
    ·have g2:=h29.go.to (λ _=>if_pos c31)
     have hv2:x11.1<=x29.2.L.length:=by have:=h29.len;have:=h11.bd;omega
     refine J2 ?_;refine Kb1 ?_;refine j_ownF (cM (hs:=xH k bx bm x29.2 dn rs) (os:=xW x29.2) (hc:=λ w hs=>decide_c hg t x11.1 _ ht hv2 g2 h29.ok hs)) (λ x35 h35=>?_);refine l_nil ?_;refine J20 ?_;refine J35 ?_;refine j_ownF (cM (hs:=xH k bx bm x35.1 dn rs) (os:=xW x35.1) (hc:=λ w hs=>node_c x11.1 _ (by have:=h35.len;omega) h35.go h35.ok hs)) (λ x39 h39=>?_);refine j_field ?_;refine j_ownF (cM (hs:=xH k bx bm x35.1 dn rs) (os:=xW x35.1) (hc:=λ w hs=>load_c hg (nodeV x35.1.L x11.1).nd.status _ (h39.2.i64 h35.ok.lL h35.ok.lc).2.2.2.2.2 h39.1 h35.ok hs)) (λ x41 h41=>?_);refine J1 ?_;refine k_rj ((x41.1,x41.2,x35.2)) ?_ (hw1:=λ w hw=>by rw[List.append_nil] at hw;exact hw.z4);·exact⟨((h11.trans h29).trans (h35.trans h41)).ext' h41.go (nn0 _),(show x11.1<=(x41.2.L.length:Int) by have:=h35.len;have:=h41.len;omega)⟩
    ·have g2:=h29.go.to (λ _=>if_neg c31)
     have hv2:x11.1<=x29.2.L.length:=by have:=h29.len;have:=h11.bd;omega
     refine k_skip ?_;refine k_rj ((x29.1,x29.2,[])) ?_ (hw1:=λ w hw=>hw.back (hF:=by exact FSub.nil));·exact⟨(h11.trans h29).weak g2 (nn0 _),hv2⟩
   dsimp only[mkU,List.map,List.cons_append,List.nil_append]
  all_goals (refine Kc0 ?_;refine j_ownF (cM (hs:=xH k bx bm q.2.1 dn rs) (os:=xW q.2.1) (hc:=λ w hs=>winner_c x11.1 q.1 _ hx.2 hx.1.go hx.1.ok hs)) (λ x45 h45=>?_);refine Ka7 ?_;refine J3 ?_;refine J35 ?_;refine j_ownF (cM (hs:=xH k bx bm q.2.1 dn rs) (os:=xW q.2.1) (hc:=λ w hs=>cas_c hg t.root x11.1 x45 _ ht h45.2 h45.1 hx.1.ok hs)) (λ x51 h51=>?_);refine l_nil ?_;refine Kb2 ?_)
  all_goals refine k_rv Tryz.results172 (λ w hw=>?_);exact⟨(x45,x51.2,q.2.2),rfl,(hx.1.trans h51).ext' h51.go (by have:=h51.len;have:=h45.2;omega),hw.z0⟩
theorem gcas_c(hg:g.Ok)(t:Tri)(i old n:Int)(K:Bool->Tr)(ht:t.root<=9223372036854775807)(hi:i<=x.L.length)(hn:n<=x.L.length)(go:Go' g x (gcasT t i old n K))(ok:x.Ok)(hs:SF w D (xH k bx bm x dn rs) A [] (xW x) w):Calls Tryz.prog 171 #[.pointer (some ⟨bx,0,none⟩),trV t,.int .i64 i,.int .i64 old,.int .i64 n] w λ e w'=>∃q:Bool×XS×List NdV,e=.returned (.bool q.1)/\Nx g x q.2.1 q.2.2 (K q.1) 0/\SF w D (xH k bx bm q.2.1 dn rs) [] (famF q.2.2) (xW q.2.1) w':=by
 refine enter Tryz.func171 Tryz.ntmps171 rfl rfl (xOpen2 hs) ?_;simp only[mkS];simp only[trV];refine J0 ?_;refine j_box (λ x6=>?_);refine J27 ?_;refine Kc0 ?_;refine j_ownF (cM (hs:=xH k bx bm x dn rs) (os:=xW x) (hc:=λ w hs=>node_c i _ hi go ok hs)) (λ x15 h15=>?_);refine j_field ?_;refine J35 ?_;refine j_ownF (cM (hs:=xH k bx bm x dn rs) (os:=xW x) (hc:=λ w hs=>cas_c hg (nodeV x.L i).nd.main old n _ (h15.2.i64 ok.lL ok.lc).2.2.2.1 hn h15.1 ok hs)) (λ x19 h19=>?_);refine J33 ?_;refine kif (λ c20=>?_) (λ c20=>?_);·refine J10 ?_;refine k_rv Tryz.results171 (λ w hw=>?_);exact⟨(false,x19.2,[]),rfl,h19.weak (h19.go.to (λ _=>if_neg (by simpa using c20))) (nn0 _),hw.finH (hF:=by exact FSub.nil)⟩
 ·have g1:=h19.go.to (λ _=>if_pos (by simpa using c20))
  have hl19:=h19.len;refine Ka8 ?_;refine j_load ?_;refine J35 ?_;refine j_ownF (cM (hs:=xH k bx bm x19.2 dn rs) (os:=xW x19.2) (hc:=λ w hs=>settle_c hg t i n _ ht (by omega) (by omega) g1 h19.ok hs)) (λ x25 h25=>?_);refine J1 ?_;refine J26 ?_;refine J59 ?_;(refine lcs 31 (λ g31=>?_) (λ g31=>?_)<;>refine Ka0 ?_);all_goals (refine Ka0 ?_;refine J12 ?_;refine J1 ?_)
  all_goals
  refine k_rv Tryz.results171 (λ w hw=>?_);rw[List.append_nil] at hw
  first
   | exact⟨(x25.1==n,x25.2.1,x25.2.2),rfl,(h19.trans h25).weak h25.go (nn0 _),hw.z0⟩
   | exact⟨(false,x25.2.1,x25.2.2),rfl,(h19.trans h25).weak (h25.go.stopped (by assumption)) (nn0 _),hw.z0⟩
end
end
end Go.Proofs.YtdnklbipddigbaaGreat
namespace Go.Ct
open Go Go.RowKit
section
theorem Ch.to{g:Gx}{x0 x X:XS}{F:Fr}{N:List NdV}{t t':Tr}{b b':Int}(h:Ch x0 X F)(h2:Nx g x X N t b)(go:Go' g X t')(hc:x0.cs.length<=X.cs.length)(hb:b'<=X.L.length):∃N,Nx g x0 X N t' b'/\∀f∈famF N,f.2=[]∨f∈F:=by obtain⟨N,h3,h4⟩:=h;exact⟨N,⟨go,h2.ok,h3,hc,hb⟩,h4⟩
theorem XS.Ok.rep{w0 w:World}{M:List Nat}{H:List (Nat×Obj)}{A F:Fr}{O:List Ow}{x:XS}(ok:x.Ok)(h:SF w0 M H A F O w)(hA:∀f∈famF x.L,f∈A)(r:Int):Rep w (nodeV x.L r).nd (nodeV x.L r).xs (nodeV x.L r).ys:=h.repX (Ch.base (F:=F)) hA ok r
end
end Go.Ct
namespace Go.Proofs.YtdnklbipddigbaaGreat
open Go.Proofs.Tryz (prog)
open Go Go.RowKit Go.Ct
section
structure ResB(n:Nat)(o:Option (Nat×List Int)):Prop where
 out:∀q,o=some q->q.1<18446744073709551616/\q.2.length<=64/\∀r∈q.2,r<=n
theorem bv_le{b:Nat}{xs:List Int}(h:BV b xs):xs.length<=64:=by rw[h.len];exact cnt_le b 64
theorem mem_upd{xs:List Int}{p:Nat}{r v:Int}(h:v∈updL xs p r):v∈xs∨v=r:=by
 unfold updL at h;rcases List.mem_append.1 h with h|h;·exact .inl (List.mem_of_mem_take h)
 ·rcases List.mem_cons.1 h with h|h;·exact .inr h
  ·exact .inl (List.mem_of_mem_drop h)
theorem mem_ins{xs:List Int}{p:Nat}{r v:Int}(h:v∈insL xs p r):v∈xs∨v=r:=by
 unfold insL at h;rcases List.mem_append.1 h with h|h;·exact .inl (List.mem_of_mem_take h)
 ·rcases List.mem_cons.1 h with h|h;·exact .inr h
  ·exact .inl (List.mem_of_mem_drop h)
theorem mem_rem{xs:List Int}{p:Nat}{v:Int}(h:v∈remL xs p):v∈xs:=by
 unfold remL at h;rcases List.mem_append.1 h with h|h;·exact List.mem_of_mem_take h
 ·exact List.mem_of_mem_drop h
section
variable{n:Nd}{xs:List Int}{ys:List Pr}{b m:Nat}
theorem resB_up(hb:n.bm=(b:Int))(hb2:b<18446744073709551616)(hx:∀r∈xs,r<=m){r:Int}(hr:r<=m)(i:Int):ResB m (upO n xs ys b i r):=⟨λ q hq=>by
 unfold upO at hq;split at hq;·rename_i h;cases hq;obtain⟨h1,h2,h3⟩:=h;have hv:=h1.bv hb hb2;obtain⟨e1,e2,e3,e4⟩:=hasI_elim h3;have:=(upd_bv hv (i:=i.toNat) (by omega) e3 h2).1;rw[<- e4] at this;exact⟨this.lt,bv_le this,λ v hv=>(mem_upd hv).elim (hx v) (λ e=>e▸hr)⟩
 ·cases hq⟩
theorem resB_in(hb:n.bm=(b:Int))(hb2:b<18446744073709551616)(hx:∀r∈xs,r<=m){r:Int}(hr:r<=m)(i:Int):ResB m (inO n xs ys b i r):=⟨λ q hq=>by
 unfold inO at hq;split at hq
 ·rename_i h;cases hq;obtain⟨h1,h0,h2,h3⟩:=h;have hv:=h1.bv hb hb2;have e:i=((i.toNat:Nat):Int):=by omega
  have hk:i.toNat<64:=by omega
  rw[e] at h3 ⊢;rw[hasI_nat b hk] at h3;have:=(ins_bv hv (i:=i.toNat) hk h3 h2).1;rw[withI_nat b hk,posN_nat b hk];exact⟨this.lt,bv_le this,λ v hv=>(mem_ins hv).elim (hx v) (λ e=>e▸hr)⟩
 ·cases hq⟩
theorem resB_re(hb:n.bm=(b:Int))(hb2:b<18446744073709551616)(hx:∀r∈xs,r<=m)(i:Int):ResB m (reO n xs ys b i):=⟨λ q hq=>by
 unfold reO at hq;split at hq
 ·rename_i h;cases hq;obtain⟨h1,h3⟩:=h;have hv:=h1.bv hb hb2;obtain⟨e1,e2,e3,e4⟩:=hasI_elim h3;have hk:i.toNat<64:=by omega
  have:=(rem_bv hv (i:=i.toNat) hk e3).1;have e:i=((i.toNat:Nat):Int):=by omega
  rw[e,withoutI_nat b hk,posN_nat b hk];exact⟨this.lt,bv_le this,λ v hv=>hx v (mem_rem hv)⟩
 ·cases hq⟩
end
theorem ResB.nvB{m c:Nat}{o:Option (Nat×List Int)}(h:ResB m o)(x:Option Addr×Nat):NvB m c {(resN o x).c (resL o) [] with main:=0,prev:=0,status:=0}:=by
 rw[resN_c];cases o with
 | none=>exact⟨nn0 _,nn0 _,nn0 _,(λ r hr=>nomatch hr),nn0 _,nn0 _,nn0 _,⟨0,rfl,by decide⟩,⟨0,rfl,by decide⟩⟩
 | some q=>have h1:=h.out q rfl;exact⟨nn0 _,nn0 _,nn0 _,h1.2.2,nn0 _,nn0 _,nn0 _,⟨q.1,rfl,h1.1⟩,⟨0,rfl,by decide⟩⟩
theorem ResB.len{m:Nat}{o:Option (Nat×List Int)}(h:ResB m o):(resL o).length<=274877906944:=by
 cases o with
 | none=>exact Nat.zero_le _
 | some q=>exact Nat.le_trans (h.out q rfl).2.1 (by decide)
theorem resN_br(o:Option (Nat×List Int))(x:Option Addr×Nat):(resN o x).brN=(resL o).length:=by cases o<;>rfl
theorem resN_pr(o:Option (Nat×List Int))(x:Option Addr×Nat):(resN o x).prN=([]:List Pr).length:=by cases o<;>rfl
theorem hasRes{A F:Fr}{O:List Ow}{o:Option (Nat×List Int)}{x:Option Addr×Nat}:HasAll A ((x.1,refsC (resL o))::F) O [((resN o x).brA,refsC (resL o)),((resN o x).prA,prC [])]:=by
 cases o with
 | none=>exact .cons (.inl rfl) (.cons (.inl rfl) .nil)
 | some q=>exact .cons (.inr (.inr (.inl (.head _)))) (.cons (.inl rfl) .nil)
section
variable{v:NdV}{n c:Nat}{w:World}
theorem nvB_nat(h:NvB n c v.c):v.nd.bm=((v.c.bm.toNat:Nat):Int)/\v.c.bm.toNat<18446744073709551616:=by obtain⟨b,h1,h2⟩:=h.bm;have h3:v.nd.bm=(b:Int):=h1;have h4:v.c.bm=(b:Int):=h1;rw[h3,h4];exact⟨by simp,by simpa using h2⟩
theorem lkX_c(h:NvB n c v.c)(i:Int)(hr:Rep w v.nd v.xs v.ys):Calls prog 208 #[v.nd.v,.int .i64 i] w λ e w'=>e=.returned (.tuple #[.int .i64 ((lkV v.c i).getD 0),.bool (lkV v.c i).isSome])/\St w [] [] w':=by have h1:=nvB_nat h;have:=refLookup_c (n:=v.nd) i h1.1 h1.2 hr;rw[lk_c h1.1 i] at this;exact this
theorem lkV_le(h:NvB n c v.c)(i:Int):(lkV v.c i).getD 0<=n:=by
 have h1:=nvB_nat h;have e:=lk_c (xs:=v.xs) (ys:=v.ys) h1.1 i;rw[show lkV v.c i=lkV (v.nd.c v.xs v.ys) i from rfl,<- e];unfold lkO;split;·exact getD_le h.br _
 ·exact nn0 _
noncomputable abbrev upX (v:NdV) (i r:Int):Option (Nat×List Int):=upO v.nd v.xs v.ys v.c.bm.toNat i r
noncomputable abbrev inX (v:NdV) (i r:Int):Option (Nat×List Int):=inO v.nd v.xs v.ys v.c.bm.toNat i r
noncomputable abbrev reX (v:NdV) (i:Int):Option (Nat×List Int):=reO v.nd v.xs v.ys v.c.bm.toNat i
theorem upX_V(h:NvB n c v.c)(i r:Int)(x:Option Addr×Nat):upV v.c i r=(resN (upX v i r) x).c (resL (upX v i r)) []:=by rw[resN_c];exact(up_c (nvB_nat h).1 i r).symm
theorem inX_V(h:NvB n c v.c)(i r:Int)(x:Option Addr×Nat):inV v.c i r=(resN (inX v i r) x).c (resL (inX v i r)) []:=by rw[resN_c];exact(in_c (nvB_nat h).1 i r).symm
theorem reX_V(h:NvB n c v.c)(i:Int)(x:Option Addr×Nat):reV v.c i=(resN (reX v i) x).c (resL (reX v i)) []:=by rw[resN_c];exact(re_c (nvB_nat h).1 i).symm
theorem upX_c(h:NvB n c v.c)(i r:Int)(hr:Rep w v.nd v.xs v.ys):Calls prog 212 #[v.nd.v,.int .i64 i,.int .i64 r] w (CRes w (upX v i r)):=refUpdated_c (n:=v.nd) i r (nvB_nat h).1 (nvB_nat h).2 hr
theorem inX_c(h:NvB n c v.c)(i r:Int)(hr:Rep w v.nd v.xs v.ys):Calls prog 237 #[v.nd.v,.int .i64 i,.int .i64 r] w (CRes w (inX v i r)):=refInserted_c (n:=v.nd) i r (nvB_nat h).1 (nvB_nat h).2 hr
theorem reX_c(h:NvB n c v.c)(i:Int)(hr:Rep w v.nd v.xs v.ys):Calls prog 240 #[v.nd.v,.int .i64 i] w (CRes w (reX v i)):=refRemoved_c (n:=v.nd) i (nvB_nat h).1 (nvB_nat h).2 hr
theorem upX_B(h:NvB n c v.c){r:Int}(hr:r<=n)(i:Int):ResB n (upX v i r):=resB_up (nvB_nat h).1 (nvB_nat h).2 h.br hr i
theorem inX_B(h:NvB n c v.c){r:Int}(hr:r<=n)(i:Int):ResB n (inX v i r):=resB_in (nvB_nat h).1 (nvB_nat h).2 h.br hr i
theorem reX_B(h:NvB n c v.c)(i:Int):ResB n (reX v i):=resB_re (nvB_nat h).1 (nvB_nat h).2 h.br i
end
theorem nvB_inode{n c:Nat}{g:Int}:NvB n c {(({Nd.zero with kind:=2,gen:=g}:Nd).c [] []) with main:=0,prev:=0,status:=0}:=⟨nn0 _,nn0 _,nn0 _,(λ r hr=>nomatch hr),nn0 _,nn0 _,nn0 _,⟨0,rfl,by decide⟩,⟨0,rfl,by decide⟩⟩
section
variable{k:Cl}{bx bm:Nat}{x:XS}{dn:Bool}{rs:Rs}{D:List Nat}{A:Fr}{w:World}{g:Gx}
theorem rdcss_c(hg:g.Ok)(t:Tri)(o ex n:Int)(K:Bool->Tr)(ht:t.root<=9223372036854775807)(ho:o<=x.L.length)(he:ex<=x.L.length)(hn:n<=x.L.length)(go:Go' g x (rdcssT t o ex n K))(ok:x.Ok)(hs:SF w D (xH k bx bm x dn rs) A [] (xW x) w):Calls prog 173 #[.pointer (some ⟨bx,0,none⟩),trV t,.int .i64 o,.int .i64 ex,.int .i64 n] w λ e w'=>∃q:Bool×XS×List NdV,e=.returned (.bool q.1)/\Nx g x q.2.1 q.2.2 (K q.1) 0/\SF w D (xH k bx bm q.2.1 dn rs) [] (famF q.2.2) (xW q.2.1) w':=by
 refine enter Tryz.func173 Tryz.ntmps173 rfl rfl (xOpen2 hs) ?_;simp only[mkS];simp only[trV];refine J0 ?_;refine j_box (λ x6=>?_);refine J73 ?_;refine J35 ?_;refine j_build ?_;refine j_ownF (cM (hs:=xH k bx bm x dn rs) (os:=xW x) (A0:=[(none,refsC []),(none,prC [])]) (hc:=λ w hs=>alloc_c hg (n:={Nd.zero with kind:=8,old:=o,exp:=ex,new:=n}) (xs:=[]) (ys:=[]) 0 _ rfl rfl (by decide) (Nat.zero_le _) (nvB_desc ho he hn) (nn0 _) go ok hs)) (λ x18 h18=>?_);refine Ke3 ?_;refine J3 ?_;refine J35 ?_;refine j_ownF (cM (hs:=xH k bx bm x18.2.1 dn rs) (os:=xW x18.2.1) (hc:=λ w hs=>cas_c hg t.root o x18.1 _ ht h18.bd h18.go h18.ok hs)) (λ x24 h24=>?_);refine J33 ?_;refine kif (λ c25=>?_) (λ c25=>?_)
 ·refine J10 ?_;refine k_rv Tryz.results173 (λ w hw=>?_);obtain⟨N,hN,hf⟩:=(Ch.base (F:=[])).nx h18 |>.nx0 h24 |>.to h24 (h24.go.to (λ _=>if_neg (by simpa using c25))) (by have:=h18.lc;have:=h24.lc;omega) (nn0 _)
  exact⟨(false,x24.2,N),rfl,hN,(hw.subF hf).z0⟩
 ·have g1:=h24.go.to (λ _=>if_pos (by simpa using c25))
  have hl24:=h24.len;have hb18:=h18.bd;refine Ka8 ?_;refine Kb1 ?_;refine j_ownF (cM (hs:=xH k bx bm x24.2 dn rs) (os:=xW x24.2) (hc:=λ w hs=>decide_c hg t x18.1 _ ht (by omega) g1 h24.ok hs)) (λ x29 h29=>?_);refine l_nil ?_;refine Kc0 ?_;refine j_ownF (cM (hs:=xH k bx bm x29.1 dn rs) (os:=xW x29.1) (hc:=λ w hs=>node_c x18.1 _ (by have:=h29.len;omega) h29.go h29.ok hs)) (λ x33 h33=>?_);refine j_field ?_;refine j_ownF (cM (hs:=xH k bx bm x29.1 dn rs) (os:=xW x29.1) (hc:=λ w hs=>load_c hg (nodeV x29.1.L x18.1).nd.status _ (h33.2.i64 h29.ok.lL h29.ok.lc).2.2.2.2.2 h33.1 h29.ok hs)) (λ x35 h35=>?_);refine J27 ?_;refine k_dp [(0,[]),(1,[]),(2,[]),(3,[]),(4,[]),(5,[]),(6,[]),(7,[2]),(8,[])] ?_;refine r_move ?_;refine J15 ?_;refine J17 ?_;refine J17 ?_;refine r_ownF (i:=7) (hq:=(cM (hs:=xH k bx bm x35.2 dn rs) (os:=xW x35.2) (hc:=λ w hs=>winner_c x18.1 x35.1 _ (by have:=h29.len;have:=h35.len;omega) h35.go h35.ok hs))) (h:=λ x43 h43=>?_);refine r_ownF (i:=8) (hq:=(cM (hs:=xH k bx bm x35.2 dn rs) (os:=xW x35.2) (hc:=λ w hs=>cas_c hg t.root x18.1 x43 _ ht h43.2 h43.1 h35.ok hs))) (h:=λ x44 h44=>?_);refine r_fin ?_;refine J26 ?_;refine J59 ?_;(refine lcs 50 (λ g50=>?_) (λ g50=>?_)<;>refine Ka0 ?_);all_goals (refine J12 ?_;refine J1 ?_)
  all_goals
  refine k_rv Tryz.results173 (λ w hw=>?_)
  first
   | (obtain⟨N,hN,hf⟩:=(Ch.nx h29 ((Ch.base (F:=[])).nx h18 |>.nx0 h24)) |>.nx0 h35 |>.nx0 h44 |>.to h44 h44.go (by have:=h18.lc;have:=h24.lc;have:=h29.lc;have:=h35.lc;have:=h44.lc;omega) (nn0 _);exact⟨(x35.1==1,x44.2,N),rfl,hN,(hw.subF hf).z0⟩)
   | (obtain⟨N,hN,hf⟩:=(Ch.nx h29 ((Ch.base (F:=[])).nx h18 |>.nx0 h24)) |>.nx0 h35 |>.nx0 h44 |>.to (t':=K false) h44 (h44.go.stopped (by assumption)) (by have:=h18.lc;have:=h24.lc;have:=h29.lc;have:=h35.lc;have:=h44.lc;omega) (nn0 _);exact⟨(false,x44.2,N),rfl,hN,(hw.subF hf).z0⟩)
theorem replace_c(hg:g.Ok)(c index r:Int)(K:Int->Tr)(hc:c<=x.L.length)(hr:r<=x.L.length)(hA:∀f∈famF x.L,f∈A)(go:Go' g x (replT c index r K))(ok:x.Ok)(hs:SF w D (xH k bx bm x dn rs) A [] (xW x) w):Calls prog 209 #[.pointer (some ⟨bx,0,none⟩),.int .i64 c,.int .i64 index,.int .i64 r] w λ e w'=>∃q:Int×XS×List NdV,e=.returned (.int .i64 q.1)/\Nx g x q.2.1 q.2.2 (K q.1) q.1/\SF w D (xH k bx bm q.2.1 dn rs) [] (famF q.2.2) (xW q.2.1) w':=by refine enter Tryz.func209 Tryz.ntmps209 rfl rfl (xOpen2 hs) ?_;simp only[mkS];refine Kf6 ?_;refine j_ownF (cM (hs:=xH k bx bm x dn rs) (os:=xW x) (hc:=λ w hs=>node_c c _ hc go ok hs)) (λ x14 h14=>?_);refine J35 ?_;refine j_ownF (cF (hc:=λ w1 hw=>upX_c (v:=nodeV x.L c) (ok.nv c) index r (ok.rep hw hA c))) (λ x17 h17=>?_);refine J82 ?_;refine j_alloc (λ x9=>?_);refine J46 ?_;refine J2 ?_;refine Kb1 ?_;refine j_ownF (cM (hs:=xH k bx bm x dn rs) (os:=xW x) (A0:=[((resN (upX (nodeV x.L c) index r) x17).brA,refsC (resL (upX (nodeV x.L c) index r))),((resN (upX (nodeV x.L c) index r) x17).prA,prC [])]) (hA:=hasRes) (hc:=λ w hs=>alloc_c hg (n:=resN (upX (nodeV x.L c) index r) x17) (xs:=resL (upX (nodeV x.L c) index r)) (ys:=[]) c _ (resN_br _ _) (resN_pr _ _) (upX_B (ok.nv c) hr index).len (Nat.zero_le _) ((upX_B (ok.nv c) hr index).nvB _) hc (by rw[<- upX_V (ok.nv c)];exact h14.1) ok hs)) (λ x23 h23=>?_);refine J1 ?_;refine k_rv Tryz.results209 (λ w hw=>?_);exact⟨x23,rfl,h23,hw.finH (hF:=by exact FSub.ofSub λ f hf=>List.mem_append_left _ hf)⟩
end
end
end Go.Proofs.YtdnklbipddigbaaGreat

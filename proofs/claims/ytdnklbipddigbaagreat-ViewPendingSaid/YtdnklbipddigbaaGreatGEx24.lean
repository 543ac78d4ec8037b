/- Merged. -/
import Derived.Test.YtdnklbipddigbaaGreatEx23
import Derived.Test.YtdnklbipddigbaaGreatGRn1
set_option linter.unusedSimpArgs false
set_option linter.unusedVariables false
namespace Go.Ct
open Go Go.RowKit
section
theorem wk_done{L:List Nv}{r:Rs}{gs ms cl gn:List Int}{R:Tr}(h:Wk L (.done r) gs ms cl gn R):gs=[]/\ms=[]/\cl=[]/\gn=[]/\R=.done r:=by cases h;exact⟨rfl,rfl,rfl,rfl,rfl⟩
def XS.re(x:XS)(free:Nat):XS:={x with a:=0,m:=0,c:=0,g:=0,fr:=free,st:=false}
theorem re_go{T R:Tr}{x:XS}{free N:Nat}(hw:Wk x.nodes T x.got x.made x.cel x.gns R)(hN:x.got.length+free=N):Go' ⟨T,R,x.mm,free,N⟩ (x.re free) T:=.inl ⟨rfl,R,⟨Wk.nil _,hw,by show Rc (free-free) R x.mm R x.mm;rw[Nat.sub_self];exact Rc.refl _ _,Nat.le_refl _,Nat.zero_le _,Nat.zero_le _,Nat.zero_le _,Nat.zero_le _,hN⟩⟩
structure RepQ(T R:Tr)(free N:Nat)(rs:Rs)(x x':XS)(N':List NdV)(dn':Bool)(rs':Rs):Prop where
 ok:x'.Ok
 ext:x'.L=x.L++N'
 lc:x.cs.length<=x'.cs.length
 gl:x'.got.length<=N
 res:(dn'=true/\∃j,j<=free/\x'.got.length+free=N+j/\Wk x'.nodes T x'.got x'.made x'.cel x'.gns (.done rs')/\Rc j R x.mm (.done rs') x'.mm)∨(dn'=false/\rs'=rs/\x'.got.length=N/\∃R',R'.acc=some x'.nx/\Wk x'.nodes T x'.got x'.made x'.cel x'.gns R'/\Rc free R x.mm R' x'.mm)
theorem Nx.rep_t{T R:Tr}{free N:Nat}{rs r:Rs}{x x':XS}{N':List NdV}(h:Nx ⟨T,R,x.mm,free,N⟩ (x.re free) x' N' (.done r) 0)(hs:x'.st=false):RepQ T R free N rs x x' N' true r:=by obtain⟨R',hR⟩:=h.go.run hs;obtain⟨e1,e2,e3,e4,e5⟩:=wk_done hR.suf;refine⟨h.ok,h.ext,h.lc,(by have:=hR.hN;show x'.got.length<=N;simp only at this;omega),.inl ⟨rfl,free-x'.fr,Nat.sub_le _ _,(by have:=hR.hN;have:=hR.hf;simp only at *;omega),?_,e5▸hR.rc⟩⟩;have hp:=hR.pre;rwa [List.take_of_length_le (List.drop_eq_nil_iff.1 e1),List.take_of_length_le (List.drop_eq_nil_iff.1 e2),List.take_of_length_le (List.drop_eq_nil_iff.1 e3),List.take_of_length_le (List.drop_eq_nil_iff.1 e4)] at hp
theorem Nx.rep_f{T R:Tr}{free N:Nat}{rs r:Rs}{x x':XS}{N':List NdV}(h:Nx ⟨T,R,x.mm,free,N⟩ (x.re free) x' N' (.done r) 0)(hs:x'.st=true):RepQ T R free N rs x x' N' false rs:=by
 rcases h.go with h1|h1;·rw[hs] at h1;exact nomatch h1.1
 ·obtain⟨R',hR⟩:=h1.2;exact⟨h.ok,h.ext,h.lc,Nat.le_of_eq hR.hN,.inr ⟨rfl,rfl,hR.hN,R',hR.ac,hR.wk,hR.rc⟩⟩
end
end Go.Ct
namespace Go.Proofs.YtdnklbipddigbaaGreat
open Go Go.RowKit Go.Ct
section
section
variable{k:Cl}{bx bm:Nat}{x:XS}{rs:Rs}{D:List Nat}{A:Fr}{w:World}
theorem repeat_c{m n N:Nat}{R:Tr}(free:Nat)(hg:Gx.Ok ⟨callT k (hsK k.key m) n,R,x.mm,free,N⟩)(hwk:Wk x.nodes (callT k (hsK k.key m) n) x.got x.made x.cel x.gns R)(hN:x.got.length+free=N)(hk:KOk k)(hn:n<=1073741824)(hm:m<18446744073709551616)(em:k.mask=(m:Int))(ht:k.t.root<=9223372036854775807)(ha:k.a<=x.L.length)(hb:k.b<=x.L.length)(hnn:k.n<=x.L.length)(hA:∀f∈famF x.L,f∈A)(ok:x.Ok)(hs:SF w D (xH k bx bm x false rs) A [] (xW x) w):Calls Tryz.prog 89 #[.pointer (some ⟨bx,0,none⟩),.int .i64 (free:Int)] w λ e w'=>∃q:XS×List NdV×Bool×Rs,e=.returned (.tuple #[])/\RepQ (callT k (hsK k.key m) n) R free N rs x q.1 q.2.1 q.2.2.1 q.2.2.2/\SF w D (xH k bx bm q.1 q.2.2.1 q.2.2.2) [] (famF q.2.1) (xW q.1) w':=by
 have hfr:=hg.hf;have ok0:(x.re free).Ok:=ok.upa rfl rfl rfl rfl rfl rfl (Nat.zero_le _) (Nat.zero_le _) (Nat.zero_le _) (Nat.zero_le _) hfr;refine enter Tryz.func89 Tryz.ntmps89 rfl rfl (xOpen2 hs) ?_;simp only[mkS];refine J11 ?_;refine J35 ?_;refine Kf8 ?_;refine J49 ?_;refine j_own0 (by exact lSF λ _=>o_store rf atT wn rf on1 rf rf se2) (λ _=>?_);refine J49 ?_;refine j_own0 (by exact lSF λ _=>o_store rf atT wn rf on1 rf rf se2) (λ _=>?_);refine J49 ?_;refine j_own0 (by exact lSF λ _=>o_store rf atT wn rf on1 rf rf se2) (λ _=>?_);refine J49 ?_;refine j_own0 (by exact lSF λ _=>o_store rf atT wn rf on1 rf rf se2) (λ _=>?_);refine J49 ?_;refine j_own0 (by exact lSF λ _=>o_store rf atT wn rf on1 rf rf se2) (λ _=>?_);refine J49 ?_;refine j_own0 (by exact lSF λ _=>o_store rf atT wn rf on1 rf rf se2) (λ _=>?_);refine l_nil ?_;refine J2 ?_;refine j_ownF (cM (hs:=xH k bx bm (x.re free) false rs) (os:=xW (x.re free)) (A0:=famF x.L) (hA:=HasAll.of λ f hf=>.inr (.inl (hA f hf))) (hc:=λ w hs=>run_c hg (x:=x.re free) n hk hn hm em ht ha hb hnn (λ f hf=>hf) (re_go hwk hN) ok0 hs)) (λ x25 h25=>?_);refine j_alloc (λ x4=>?_);refine j_own0 (by exact(lSF λ _=>o_storeAgg rf atT rf rf ag1 rf se2)) (λ _=>?_);refine l_nil ?_;refine J26 ?_;refine J33 ?_;refine kif (λ c30=>?_) (λ c30=>?_)
 ·refine k_dp [(0,[]),(1,[]),(2,[]),(3,[]),(4,[]),(5,[2]),(6,[]),(7,[]),(8,[])] ?_;refine J17 ?_;refine r_load ?_;refine J4 ?_;refine r_own0 (i:=5) (hq:=(by exact lSF λ _=>o_store rf atT wn rf on1 rf rf se2)) (h:=λ _=>?_);refine J4 ?_;refine r_own0 (i:=8) (hq:=(lSF λ _=>o_storePart (off:=41) (vs:=x25.1.cells) rf atT rf rfl ag1 (Nat.le_of_ble_eq_true rfl) rf se2)) (h:=λ _=>?_);refine r_fin ?_;refine k_et Tryz.results89 (λ w hw=>?_)
  first
  | exact⟨(x25.2.1,x25.2.2,true,x25.1),rfl,h25.rep_t (by simpa using c30),by rw[List.append_nil] at hw;exact hw.z0⟩
  | exact⟨(x25.2.1,x25.2.2,false,rs),rfl,h25.rep_f (by simpa using c30),by rw[List.append_nil] at hw;exact hw.z0⟩
 ·refine k_skip ?_;refine k_et Tryz.results89 (λ w hw=>?_)
  first
  | exact⟨(x25.2.1,x25.2.2,true,x25.1),rfl,h25.rep_t (by simpa using c30),by rw[List.append_nil] at hw;exact hw.z0⟩
  | exact⟨(x25.2.1,x25.2.2,false,rs),rfl,h25.rep_f (by simpa using c30),by rw[List.append_nil] at hw;exact hw.z0⟩
end
end
end Go.Proofs.YtdnklbipddigbaaGreat
namespace Go.Ct
open Go Go.RowKit
section
theorem tame_acc{R:Tr}{a:Ac}(h:R.acc=some a){n c:Nat}(ht:Tame R n c)(hn:1<=n):Tame R n 64:=by
 cases R<;>simp only[Tr.acc,reduceCtorEq] at h
 ·cases n with
  | zero=>omega
  | succ n=>simpa only[Tame] using ht
 ·cases n with
  | zero=>omega
  | succ n=>simpa only[Tame] using ht
structure ExI(T:Tr)(x:XS)(dn:Bool)(rs:Rs)(R:Tr):Prop where
 ok:x.Ok
 wk:Wk x.nodes T x.got x.made x.cel x.gns R
 res:(dn=true/\R=.done rs)∨(dn=false/\R.acc=some x.nx)
theorem RepQ.exI{T R:Tr}{free N:Nat}{rs rs':Rs}{x x':XS}{N':List NdV}{dn':Bool}(h:RepQ T R free N rs x x' N' dn' rs'):∃R' j,j<=free/\(dn'=false->j=free)/\ExI T x' dn' rs' R'/\Rc j R x.mm R' x'.mm/\x'.L=x.L++N'/\x.cs.length<=x'.cs.length:=by
 rcases h.res with⟨e,j,h1,_,h2,h3⟩|⟨e,_,_,R',h1,h2,h3⟩;·exact⟨_,j,h1,(λ h=>by rw[e] at h;cases h),⟨h.ok,h2,.inl ⟨e,rfl⟩⟩,h3,h.ext,h.lc⟩
 ·exact⟨R',free,Nat.le_refl _,λ _=>rfl,⟨h.ok,h2,.inr ⟨e,h1⟩⟩,h3,h.ext,h.lc⟩
end
end Go.Ct
namespace Go.Proofs.YtdnklbipddigbaaGreat
open Go Go.RowKit Go.Ct
section
section
variable{k:Cl}{bx bm:Nat}{x:XS}{dn:Bool}{rs:Rs}{D:List Nat}{A:Fr}{w:World}
theorem done_c(hs:SF w D (xH k bx bm x dn rs) A [] (xW x) w):Calls Tryz.prog 48 #[.pointer (some ⟨bx,0,none⟩)] w λ e w'=>∃q:Unit,e=.returned (.bool dn)/\True/\SF w D (xH k bx bm x dn rs) [] [] (xW x) w':=by refine enter Tryz.func48 Tryz.ntmps48 rfl rfl (xOpen2 hs) ?_;simp only[mkS];refine J10 ?_;refine J26 ?_;refine J1 ?_;refine k_rv Tryz.results48 (λ w hw=>?_);exact⟨(),rfl,trivial,hw.finH⟩
theorem result_c(hs:SF w D (xH k bx bm x dn rs) A [] (xW x) w):Calls Tryz.prog 129 #[.pointer (some ⟨bx,0,none⟩)] w λ e w'=>∃q:Unit,e=.returned (.agg ⟨rs.cells⟩)/\True/\SF w D (xH k bx bm x dn rs) [] [] (xW x) w':=by refine enter Tryz.func129 Tryz.ntmps129 rfl rfl (xOpen2 hs) ?_;simp only[mkS];refine J0 ?_;refine j_alloc (λ x2=>?_);refine l_nil ?_;refine J45 ?_;refine l_quiet (o_loadPart (k:=8) (vs:=rs.cells) rf atT ag1 rfl rfl) rfl ?_;refine J5 ?_;refine k_rt Tryz.results129 (λ w hw=>?_);exact⟨(),rfl,trivial,hw.finH⟩
theorem step_c{m n N:Nat}{R:Tr}(hT:Tame (callT k (hsK k.key m) n) N 64)(hN:N<=1073741824)(hgN:x.got.length+1=N)(hsz:x.L.length<=137438953472/\x.cs.length<=137438953472/\x.gen<=137438953472)(hi:ExI (callT k (hsK k.key m) n) x dn rs R)(hk:KOk k)(hn:n<=1073741824)(hm:m<18446744073709551616)(em:k.mask=(m:Int))(ht:k.t.root<=9223372036854775807)(ha:k.a<=x.L.length)(hb:k.b<=x.L.length)(hnn:k.n<=x.L.length)(hA:∀f∈famF x.L,f∈A)(hs:SF w D (xH k bx bm x dn rs) A [] (xW x) w):Calls Tryz.prog 47 #[.pointer (some ⟨bx,0,none⟩)] w λ e w'=>∃q:XS×List NdV×Bool×Rs,e=.returned (.tuple #[])/\((dn=true/\q=(x,[],true,rs))∨(dn=false/\RepQ (callT k (hsK k.key m) n) R 1 N rs x q.1 q.2.1 q.2.2.1 q.2.2.2))/\SF w D (xH k bx bm q.1 q.2.2.1 q.2.2.2) [] (famF q.2.1) (xW q.1) w':=by
 have hg:dn=false->Gx.Ok ⟨callT k (hsK k.key m) n,R,x.mm,1,N⟩:=λ e=>by
  rcases hi.res with⟨e2,_⟩|⟨_,e2⟩;·rw[e] at e2;cases e2
  ·obtain⟨c,h1,_,_⟩:=hi.wk.tame (Nat.le_refl 64) hT (by omega);refine⟨hT,⟨N-x.got.length,by show 1<=N-x.got.length;omega,tame_acc e2 h1 (by omega)⟩,hN,Nat.le_refl 1,?_⟩;show(x.L.map NdV.c).length<=_/\_;rw[List.length_map];exact hsz
 refine enter Tryz.func47 Tryz.ntmps47 rfl rfl (xOpen2 hs) ?_;simp only[mkS];refine J26 ?_;refine J33 ?_;refine kif (λ c6=>?_) (λ c6=>?_)
 ·have ed:dn=false:=by simpa using c6
  subst ed;refine J20 ?_;refine j_ownF (cM (hs:=xH k bx bm x false rs) (os:=xW x) (A0:=famF x.L) (hA:=HasAll.of λ f hf=>.inr (.inl (hA f hf))) (hc:=λ w hs=>repeat_c (N:=N) (n:=n) (m:=m) 1 (hg rfl) hi.wk hgN hk hn hm em ht ha hb hnn (λ f hf=>hf) hi.ok hs)) (λ x8 h8=>?_);refine l_nil ?_;refine k_et Tryz.results47 (λ w hw=>?_)
  first
  | exact⟨x8,rfl,.inr ⟨rfl,h8⟩,by rw[List.append_nil] at hw;exact hw.z0⟩
  | exact⟨(x,[],true,rs),rfl,.inl ⟨by simpa using c6,rfl⟩,by rw[show dn=true from by simpa using c6] at hw;exact hw.finH (hF:=by exact FSub.nil)⟩
 ·refine k_skip ?_;refine k_et Tryz.results47 (λ w hw=>?_)
  first
  | exact⟨(x,[],true,rs),rfl,.inl ⟨by simpa using c6,rfl⟩,by rw[show dn=true from by simpa using c6] at hw;exact hw.finH (hF:=by exact FSub.nil)⟩
end
end
end Go.Proofs.YtdnklbipddigbaaGreat
namespace Go.Ct
open Go Go.RowKit
section
def XS.new(L:List NdV)(cs:List Int)(gen acc:Int)(pn:Option Addr)(cn:Nat)(pc:Option Addr)(cc:Nat):XS:=⟨L,cs,gen,acc,pn,cn,pc,cc,[],[],[],[],none,0,none,0,none,0,none,0,0,0,0,0,0,false,Ac.zero⟩
end
end Go.Ct
namespace Go.Proofs.YtdnklbipddigbaaGreat
open Go Go.RowKit Go.Ct
section
section
variable{k:Cl}{bm:Nat}{L:List NdV}{cs:List Int}{gen acc:Int}{pn pc:Option Addr}{cn cc:Nat}{D:List Nat}{A:Fr}{w:World}
theorem start_c{m n N:Nat}(hT:Tame (callT k (hsK k.key m) n) N 64)(hN:N<=1073741824)(hsz:L.length<=137438953472/\cs.length<=137438953472/\gen<=137438953472)(hk:KOk k)(hn:n<=1073741824)(hm:m<18446744073709551616)(em:k.mask=(m:Int))(ht:k.t.root<=9223372036854775807)(ha:k.a<=L.length)(hb:k.b<=L.length)(hnn:k.n<=L.length)(hA:∀f∈famF L,f∈A)(ok:(XS.new L cs gen acc pn cn pc cc).Ok)(hs:SF w D [(bm,mO L cs gen acc pn cn pc cc)] A [] [⟨pn,nvC L,cn,45,14⟩,⟨pc,refsC cs,cc,28,1⟩] w)(hN0:N=0:=by rfl):Calls Tryz.prog 42 #[.pointer (some ⟨bm,0,none⟩),.agg ⟨clC k⟩] w λ e w'=>∃q:Nat×XS×List NdV×Bool×Rs,e=.returned (.pointer (some ⟨q.1,0,none⟩))/\RepQ (callT k (hsK k.key m) n) (callT k (hsK k.key m) n) 0 N Rs.zero (XS.new L cs gen acc pn cn pc cc) q.2.1 q.2.2.1 q.2.2.2.1 q.2.2.2.2/\SF w D (xH k q.1 bm q.2.1 q.2.2.2.1 q.2.2.2.2) [] (famF q.2.2.1) (xW q.2.1) w':=by have hg:Gx.Ok ⟨callT k (hsK k.key m) n,callT k (hsK k.key m) n,(XS.new L cs gen acc pn cn pc cc).mm,0,N⟩:=⟨hT,⟨N,Nat.zero_le _,hT⟩,hN,Nat.zero_le _,by show(L.map NdV.c).length<=_/\_;rw[List.length_map];exact hsz⟩;refine enter Tryz.func42 Tryz.ntmps42 rfl rfl ((((hs.nilOwn 3 1).nilOwn 33 1).nilOwn 28 1).nilOwn 28 1) ?_;simp only[mkS];refine J0 ?_;refine j_box (λ x3=>?_);refine Ka7 ?_;refine l_quiet (o_loadPart (k:=25) (vs:=clC k) rf atT ag1 rfl rfl) rfl ?_;refine j_build ?_;refine j_box (λ x9=>?_);refine Ka7 ?_;refine j_ownF (cM (hs:=xH k x9 bm (XS.new L cs gen acc pn cn pc cc) false Rs.zero) (os:=xW (XS.new L cs gen acc pn cn pc cc)) (A0:=famF L) (hA:=HasAll.of λ f hf=>.inr (.inl (hA f hf))) (hc:=λ w hs=>repeat_c (N:=N) (n:=n) (m:=m) 0 hg (Wk.nil _) hN0.symm hk hn hm em ht ha hb hnn (λ f hf=>hf) ok hs)) (λ x11 h11=>?_);refine l_nil ?_;refine Kb2 ?_;refine k_rv Tryz.results42 (λ w hw=>?_);exact⟨(x9,x11.1,x11.2.1,x11.2.2.1,x11.2.2.2),rfl,h11,by rw[List.append_nil] at hw;exact hw.z0⟩
end
end
section
theorem t_mono:∀{t:Tr} {n c c':Nat},c<=c'->Tame t n c->Tame t n c':=by
 intro t;induction t with
 | done r=>intros;simp[Tame]
 | stuck=>intro n c c' _ h;simp[Tame] at h
 | load r k ih=>
  intro n c c' _ h;cases n with
  | zero=>simp[Tame]
  | succ n=>simpa only[Tame] using h
 | cas r o m k ih=>
  intro n c c' _ h;cases n with
  | zero=>simp[Tame]
  | succ n=>simpa only[Tame] using h
 | alloc r o k ih=>
  intro n c c' hc h;cases c with
  | zero=>simp[Tame] at h
  | succ c=>
   cases c' with
   | zero=>omega
   | succ c'=>simp only[Tame] at h ⊢;exact λ v=>ih v (by omega) (h v)
 | cell r k ih=>
  intro n c c' hc h;cases c with
  | zero=>simp[Tame] at h
  | succ c=>
   cases c' with
   | zero=>omega
   | succ c'=>simp only[Tame] at h ⊢;exact λ v=>ih v (by omega) (h v)
 | gen k ih=>
  intro n c c' hc h;cases c with
  | zero=>simp[Tame] at h
  | succ c=>
   cases c' with
   | zero=>omega
   | succ c'=>simp only[Tame] at h ⊢;exact λ v=>ih v (by omega) (h v)
 | node r k ih=>intro n c c' hc h;cases c<;>cases c'<;>simp only[Tame] at h ⊢ <;> exact λ v=>ih v (by omega) (h v)
section
variable{n c:Nat}
theorem t_load{a:Int}{k:Int->Tr}(h:∀n',n'<n->∀v,Tame (k v) n' 64):Tame (.load a k) n c:=by
 cases n with
 | zero=>simp[Tame]
 | succ n=>simp only[Tame];exact h n (Nat.lt_succ_self n)
theorem t_cas{a o m:Int}{k:Bool->Tr}(h:∀n',n'<n->∀v,Tame (k v) n' 64):Tame (.cas a o m k) n c:=by
 cases n with
 | zero=>simp[Tame]
 | succ n=>simp only[Tame];exact h n (Nat.lt_succ_self n)
theorem t_alloc{a:Nv}{i:Int}{k:Int->Tr}(h:∀v,Tame (k v) n c):Tame (.alloc a i k) n (c+1):=by simp only[Tame];exact h
theorem t_cell{i:Int}{k:Int->Tr}(h:∀v,Tame (k v) n c):Tame (.cell i k) n (c+1):=by simp only[Tame];exact h
theorem t_gen{k:Int->Tr}(h:∀v,Tame (k v) n c):Tame (.gen k) n (c+1):=by simp only[Tame];exact h
theorem t_node{r:Int}{k:Nv->Tr}(h:∀v,Tame (k v) n c):Tame (.node r k) n c:=by cases c<;>simp only[Tame]<;>exact h
abbrev Aft{X:Type}(K:X->Tr)(n:Nat):Prop:=∀n',n'<n->∀v,Tame (K v) n' 64
theorem Aft.lt{X:Type}{K:X->Tr}{m:Nat}(h:Aft K n)(hm:m<=n):Aft K m:=λ n' h' v=>h n' (by omega) v
theorem win_tame{v s:Int}{K:Int->Tr}(h:∀w,Tame (K w) n c):Tame (winT v s K) n c:=t_node λ _=>h _
theorem cmp_tame{t:Tri}{v s:Int}{K:Int->Tr}(h:Aft K n):Tame (cmpT t v s K) n c:=win_tame λ _=>t_cas λ n' hn _=>h n' hn _
theorem root_tame{t:Tri}{K:Int->Tr}(h:Aft K n):Tame (rootT t K) n c:=t_load λ n1 h1 v=>t_node λ nv=>by
 split;·exact h n1 h1 v
 ·exact t_node λ _=>t_load λ n2 h2 s=>by
   split;·exact t_node λ _=>t_cas λ n3 h3 _=>t_node λ _=>t_load λ n4 h4 _=>cmp_tame (h.lt (by omega))
   ·exact cmp_tame (h.lt (by omega))
theorem fin_tame{i m p:Int}{K:Int->Tr}(h:Aft K n):Tame (finT i m p K) n c:=t_node λ _=>t_node λ _=>t_cas λ n' hn _=>t_node λ _=>h n' hn _
theorem settle2_tame{i m:Int}{K:Int->Tr}(h:Aft K n):Tame (settle2T i m K) n c:=t_node λ _=>t_load λ n1 h1 p=>by
 split;·exact h n1 h1 _
 ·exact fin_tame (h.lt (by omega))
theorem comm_tame{i m p:Int}{b:Bool}{K:Int->Tr}(h:Aft K n)(hc:1<=c):Tame (commT i m p b K) n c:=by
 unfold commT;split;·exact t_node λ _=>t_cas λ n1 h1 _=>settle2_tame (h.lt (by omega))
 ·obtain⟨c,rfl⟩:∃d,c=d+1:=⟨c-1,by omega⟩;exact t_node λ _=>t_alloc λ _=>t_cas λ n1 h1 _=>settle2_tame (h.lt (by omega))
theorem settle_tame{t:Tri}{i m:Int}{K:Int->Tr}(h:Aft K n):Tame (settleT t i m K) n c:=t_node λ _=>t_load λ n1 h1 p=>by
 split;·exact h n1 h1 _
 ·refine t_node λ _=>?_;split
  ·split;·exact comm_tame (h.lt (by omega)) (by decide)
   ·exact root_tame λ n2 h2 _=>t_node λ _=>t_node λ _=>comm_tame (h.lt (by omega)) (by decide)
  ·exact fin_tame (h.lt (by omega))
theorem read_tame{t:Tri}{i:Int}{K:Int->Tr}(h:Aft K n):Tame (readT t i K) n c:=t_node λ _=>t_load λ n1 h1 _=>settle_tame (h.lt (by omega))
theorem decide_tame{t:Tri}{v:Int}{K:Tr}(h:∀n',n'<n->Tame K n' 64):Tame (decideT t v K) n c:=t_node λ _=>read_tame λ n1 h1 _=>t_node λ _=>t_node λ _=>t_cas λ n2 h2 _=>h n2 (by omega)
theorem help_tame{t:Tri}{K:Int->Tr}(h:Aft K n):Tame (helpT t K) n c:=t_load λ n1 h1 v=>t_node λ nv=>by
 split;·exact h n1 h1 v
 ·exact t_node λ _=>t_load λ n2 h2 s=>by
   split;·exact decide_tame λ n3 h3=>t_node λ _=>t_load λ n4 h4 _=>cmp_tame (h.lt (by omega))
   ·exact cmp_tame (h.lt (by omega))
theorem gcas_tame{t:Tri}{i o m:Int}{K:Bool->Tr}(h:Aft K n):Tame (gcasT t i o m K) n c:=t_node λ _=>t_cas λ n1 h1 b=>by
 split;·exact settle_tame λ n2 h2 _=>h n2 (by omega) _
 ·exact h n1 h1 _
theorem rdcss_tame{t:Tri}{o e m:Int}{K:Bool->Tr}(h:Aft K n)(hc:1<=c):Tame (rdcssT t o e m K) n c:=by
 obtain⟨c,rfl⟩:∃d,c=d+1:=⟨c-1,by omega⟩;exact t_alloc λ _=>t_cas λ n1 h1 b=>by
  split;·exact decide_tame λ n2 h2=>t_node λ _=>t_load λ n3 h3 _=>cmp_tame λ n4 h4 _=>h n4 (by omega) _
  ·exact h n1 h1 _
end
end
end Go.Proofs.YtdnklbipddigbaaGreat

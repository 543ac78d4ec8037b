/- Executions of the reference: one repetition. -/
import Derived.Test.YtadnboagdhcedaaGreatDoorEx23
import Derived.Test.YtadnboagdhcedaaGreatDoorGRn1
import Derived.Test.YtadnboagdhcedaaGreatDoorGAr9

set_option linter.unusedSimpArgs false
set_option linter.unusedVariables false
namespace Go.Ct
section
open Go Go.RowKit
theorem kv{L:List Nv}{r:Rs}{gs ms cl gn:List Int}{R:Tr}(h:Wk L (.done r) gs ms cl gn R):gs=[]/\ms=[]/\cl=[]/\gn=[]/\R=.done r:=by
 cases h
 exact⟨rfl,rfl,rfl,rfl,rfl⟩
def XS.re(x:XS)(free:Nat):XS:={x with a:=0,m:=0,c:=0,g:=0,fr:=free,st:=false}
theorem ze{T R:Tr}{x:XS}{free N:Nat}(hw:Wk x.nodes T x.got x.made x.cel x.gns R)(hN:x.got.length+free=N):fD ⟨T,R,x.mm,free,N⟩ (x.re free) T:=.inl ⟨rfl,R,⟨Wk.nil _,hw,by show Rc (free-free) R x.mm R x.mm;rw[Nat.sub_self];exact Rc.refl _ _,Nat.le_refl _,Nat.zero_le _,Nat.zero_le _,Nat.zero_le _,Nat.zero_le _,hN⟩⟩
structure vP(T R:Tr)(free N:Nat)(rs:Rs)(x x':XS)(N':List aL)(dn':Bool)(rs':Rs):Prop where
 ok:x'.Ok
 ext:x'.L=x.L++N'
 lc:x.cs.length<=x'.cs.length
 gl:x'.got.length<=N
 Vv:(dn'=true/\∃j,j<=free/\x'.got.length+free=N+j/\Wk x'.nodes T x'.got x'.made x'.cel x'.gns (.done rs')/\Rc j R x.mm (.done rs') x'.mm)∨(dn'=false/\rs'=rs/\x'.got.length=N/\∃R',R'.acc=some x'.nx/\Wk x'.nodes T x'.got x'.made x'.cel x'.gns R'/\Rc free R x.mm R' x'.mm)
theorem Nx.py{T R:Tr}{free N:Nat}{rs r:Rs}{x x':XS}{N':List aL}(h:Nx ⟨T,R,x.mm,free,N⟩ (x.re free) x' N' (.done r) 0)(hs:x'.st=false):vP T R free N rs x x' N' true r:=by
 obtain⟨R',hR⟩:=h.go.run hs
 obtain⟨e1,e2,e3,e4,e5⟩:=kv hR.suf
 refine⟨h.ok,h.ext,h.lc,(by have:=hR.hN;show x'.got.length<=N;simp only at this;omega),.inl ⟨rfl,free-x'.fr,Nat.sub_le _ _,(by have:=hR.hN;have:=hR.hf;simp only at *;omega),?_,e5▸hR.rc⟩⟩
 have hp:=hR.pre
 rwa [List.take_of_length_le (List.drop_eq_nil_iff.1 e1),List.take_of_length_le (List.drop_eq_nil_iff.1 e2),List.take_of_length_le (List.drop_eq_nil_iff.1 e3),List.take_of_length_le (List.drop_eq_nil_iff.1 e4)] at hp
theorem Nx.oa{T R:Tr}{free N:Nat}{rs r:Rs}{x x':XS}{N':List aL}(h:Nx ⟨T,R,x.mm,free,N⟩ (x.re free) x' N' (.done r) 0)(hs:x'.st=true):vP T R free N rs x x' N' false rs:=by
 rcases h.go with h1|h1
 ·rw[hs] at h1;exact nomatch h1.1
 ·obtain⟨R',hR⟩:=h1.2
  exact⟨h.ok,h.ext,h.lc,Nat.le_of_eq hR.hN,.inr ⟨rfl,rfl,hR.hN,R',hR.ac,hR.wk,hR.rc⟩⟩
end
end Go.Ct
namespace Go.Proofs.YtadnboagdhcedaaGreatDoor
section
open Go Go.RowKit Go.Ct
section
variable{k:Cl}{bx bm:Nat}{x:XS}{rs:Rs}{D:List Nat}{A:Fr}{w:World}
theorem Mq{m n N:Nat}{R:Tr}(free:Nat)(hg:Gx.Ok ⟨lA k (kD k.key m) n,R,x.mm,free,N⟩)(hwk:Wk x.nodes (lA k (kD k.key m) n) x.got x.made x.cel x.gns R)(hN:x.got.length+free=N)(hk:dq k)(hn:n<=1073741824)(hm:m<18446744073709551616)(em:k.mask=(m:Int))(ht:k.t.root<=9223372036854775807)(ha:k.a<=x.L.length)(hb:k.b<=x.L.length)(hnn:k.n<=x.L.length)(hA:∀f∈aV x.L,f∈A)(ok:x.Ok)(hs:SF w D (xH k bx bm x false rs) A [] (xW x) w):Calls Tryz.prog 50 #[.pointer (some ⟨bx,0,none⟩),.int .i64 (free:Int)] w λ e w'=>∃q:XS×List aL×Bool×Rs,e=.returned (.tuple #[])/\vP (lA k (kD k.key m) n) R free N rs x q.1 q.2.1 q.2.2.1 q.2.2.2/\SF w D (xH k bx bm q.1 q.2.2.1 q.2.2.2) [] (aV q.2.1) (xW q.1) w':=by
 have hfr:=hg.hf
 have ok0:(x.re free).Ok:=ok.p8 rfl rfl rfl rfl rfl rfl (Nat.zero_le _) (Nat.zero_le _) (Nat.zero_le _) (Nat.zero_le _) hfr
 refine enter Tryz.func50 Tryz.ntmps50 rfl rfl (bX hs) ?_
 simp only[cP]
 refine iQ ?_;refine nX ?_;refine nX ?_;refine aB ?_;refine Ky ?_;refine kA (by exact sW λ _=>dZ rf dU wn rf gA rf rf xA) (λ _=>?_);refine Ky ?_;refine kA (by exact sW λ _=>dZ rf dU wn rf gA rf rf xA) (λ _=>?_);refine Ky ?_;refine kA (by exact sW λ _=>dZ rf dU wn rf gA rf rf xA) (λ _=>?_);refine Ky ?_;refine kA (by exact sW λ _=>dZ rf dU wn rf gA rf rf xA) (λ _=>?_);refine Ky ?_;refine kA (by exact sW λ _=>dZ rf dU wn rf gA rf rf xA) (λ _=>?_);refine Ky ?_;refine kA (by exact sW λ _=>dZ rf dU wn rf gA rf rf xA) (λ _=>?_);refine aI ?_;refine J2 ?_;refine aC (cM (hs:=xH k bx bm (x.re free) false rs) (os:=xW (x.re free)) (A0:=aV x.L) (hA:=bQ.of λ f hf=>.inr (.inl (hA f hf))) (hc:=λ w hs=>xo hg (x:=x.re free) n hk hn hm em ht ha hb hnn (λ f hf=>hf) (ze hwk hN) ok0 hs)) (λ x25 h25=>?_);refine aP (λ x4=>?_);refine kA (by exact(sW λ _=>D1 rf dU rf rf fX rf xA)) (λ _=>?_);refine aI ?_;refine nA ?_;refine mS ?_
 refine aZ (λ c30=>?_) (λ c30=>?_)
 ·refine eG [(0,[]),(1,[]),(2,[]),(3,[]),(4,[]),(5,[2]),(6,[]),(7,[]),(8,[])] ?_;refine gN ?_;refine bO ?_;refine J4 ?_;refine lX (i:=5) (hq:=(by exact sW λ _=>dZ rf dU wn rf gA rf rf xA)) (h:=λ _=>?_);refine J4 ?_;refine lX (i:=8) (hq:=(sW λ _=>pJ (off:=41) (vs:=x25.1.cells) rf dU rf rfl fX (Nat.le_of_ble_eq_true rfl) rf xA)) (h:=λ _=>?_);refine dW ?_
  refine By Tryz.results50 (λ w hw=>?_)
  first
  | exact⟨(x25.2.1,x25.2.2,true,x25.1),rfl,h25.py (by simpa using c30),by rw[List.append_nil] at hw;exact hw.v4⟩
  | exact⟨(x25.2.1,x25.2.2,false,rs),rfl,h25.oa (by simpa using c30),by rw[List.append_nil] at hw;exact hw.v4⟩
 ·refine bA ?_
  refine By Tryz.results50 (λ w hw=>?_)
  first
  | exact⟨(x25.2.1,x25.2.2,true,x25.1),rfl,h25.py (by simpa using c30),by rw[List.append_nil] at hw;exact hw.v4⟩
  | exact⟨(x25.2.1,x25.2.2,false,rs),rfl,h25.oa (by simpa using c30),by rw[List.append_nil] at hw;exact hw.v4⟩
end
end

/- Executions of the reference: steps. -/
end Go.Proofs.YtadnboagdhcedaaGreatDoor
namespace Go.Ct
section
open Go Go.RowKit
theorem Mj{R:Tr}{a:Ac}(h:R.acc=some a){n c:Nat}(ht:bZ R n c)(hn:1<=n):bZ R n 64:=by
 cases R<;>simp only[Tr.acc,reduceCtorEq] at h
 ·cases n with
  | zero=>omega
  | succ n=>simpa only[bZ] using ht
 ·cases n with
  | zero=>omega
  | succ n=>simpa only[bZ] using ht
structure qe(T:Tr)(x:XS)(dn:Bool)(rs:Rs)(R:Tr):Prop where
 ok:x.Ok
 wk:Wk x.nodes T x.got x.made x.cel x.gns R
 Vv:(dn=true/\R=.done rs)∨(dn=false/\R.acc=some x.nx)
theorem vP.w5{T R:Tr}{free N:Nat}{rs rs':Rs}{x x':XS}{N':List aL}{dn':Bool}(h:vP T R free N rs x x' N' dn' rs'):∃R' j,j<=free/\(dn'=false->j=free)/\qe T x' dn' rs' R'/\Rc j R x.mm R' x'.mm/\x'.L=x.L++N'/\x.cs.length<=x'.cs.length:=by
 rcases h.Vv with⟨e,j,h1,_,h2,h3⟩|⟨e,_,_,R',h1,h2,h3⟩
 ·exact⟨_,j,h1,(λ h=>by rw[e] at h;cases h),⟨h.ok,h2,.inl ⟨e,rfl⟩⟩,h3,h.ext,h.lc⟩
 ·exact⟨R',free,Nat.le_refl _,λ _=>rfl,⟨h.ok,h2,.inr ⟨e,h1⟩⟩,h3,h.ext,h.lc⟩
end
end Go.Ct
namespace Go.Proofs.YtadnboagdhcedaaGreatDoor
section
open Go Go.RowKit Go.Ct
section
variable{k:Cl}{bx bm:Nat}{x:XS}{dn:Bool}{rs:Rs}{D:List Nat}{A:Fr}{w:World}
theorem Ov(hs:SF w D (xH k bx bm x dn rs) A [] (xW x) w):Calls Tryz.prog 39 #[.pointer (some ⟨bx,0,none⟩)] w λ e w'=>∃q:Unit,e=.returned (.bool dn)/\True/\SF w D (xH k bx bm x dn rs) [] [] (xW x) w':=by
 refine enter Tryz.func39 Tryz.ntmps39 rfl rfl (bX hs) ?_
 simp only[cP]
 refine cQ ?_;refine nA ?_;refine J1 ?_
 refine aQ Tryz.results39 (λ w hw=>?_)
 exact⟨(),rfl,trivial,hw.aT⟩
theorem Wh(hs:SF w D (xH k bx bm x dn rs) A [] (xW x) w):Calls Tryz.prog 65 #[.pointer (some ⟨bx,0,none⟩)] w λ e w'=>∃q:Unit,e=.returned (.agg ⟨rs.cells⟩)/\True/\SF w D (xH k bx bm x dn rs) [] [] (xW x) w':=by
 refine enter Tryz.func65 Tryz.ntmps65 rfl rfl (bX hs) ?_
 simp only[cP]
 refine J0 ?_;refine aP (λ x2=>?_);refine aI ?_;refine Fo ?_;refine aE (aK (k:=8) (vs:=rs.cells) rf dU fX rfl rfl) rfl ?_;refine J5 ?_
 refine bK Tryz.results65 (λ w hw=>?_)
 exact⟨(),rfl,trivial,hw.aT⟩
theorem Pt{m n N:Nat}{R:Tr}(hT:bZ (lA k (kD k.key m) n) N 64)(hN:N<=1073741824)(hgN:x.got.length+1=N)(hsz:x.L.length<=137438953472/\x.cs.length<=137438953472/\x.gen<=137438953472)(hi:qe (lA k (kD k.key m) n) x dn rs R)(hk:dq k)(hn:n<=1073741824)(hm:m<18446744073709551616)(em:k.mask=(m:Int))(ht:k.t.root<=9223372036854775807)(ha:k.a<=x.L.length)(hb:k.b<=x.L.length)(hnn:k.n<=x.L.length)(hA:∀f∈aV x.L,f∈A)(hs:SF w D (xH k bx bm x dn rs) A [] (xW x) w):Calls Tryz.prog 29 #[.pointer (some ⟨bx,0,none⟩)] w λ e w'=>∃q:XS×List aL×Bool×Rs,e=.returned (.tuple #[])/\((dn=true/\q=(x,[],true,rs))∨(dn=false/\vP (lA k (kD k.key m) n) R 1 N rs x q.1 q.2.1 q.2.2.1 q.2.2.2))/\SF w D (xH k bx bm q.1 q.2.2.1 q.2.2.2) [] (aV q.2.1) (xW q.1) w':=by
 have hg:dn=false->Gx.Ok ⟨lA k (kD k.key m) n,R,x.mm,1,N⟩:=λ e=>by
  rcases hi.Vv with⟨e2,_⟩|⟨_,e2⟩
  ·rw[e] at e2;cases e2
  ·obtain⟨c,h1,_,_⟩:=hi.wk.tI (Nat.le_refl 64) hT (by omega)
   refine⟨hT,⟨N-x.got.length,by show 1<=N-x.got.length;omega,Mj e2 h1 (by omega)⟩,hN,Nat.le_refl 1,?_⟩
   show(x.L.map aL.c).length<=_/\_
   rw[List.length_map]
   exact hsz
 refine enter Tryz.func29 Tryz.ntmps29 rfl rfl (bX hs) ?_
 simp only[cP]
 refine nA ?_;refine mS ?_
 refine aZ (λ c6=>?_) (λ c6=>?_)
 ·have ed:dn=false:=by simpa using c6
  subst ed
  refine wS ?_;refine aC (cM (hs:=xH k bx bm x false rs) (os:=xW x) (A0:=aV x.L) (hA:=bQ.of λ f hf=>.inr (.inl (hA f hf))) (hc:=λ w hs=>Mq (N:=N) (n:=n) (m:=m) 1 (hg rfl) hi.wk hgN hk hn hm em ht ha hb hnn (λ f hf=>hf) hi.ok hs)) (λ x8 h8=>?_);refine aI ?_
  refine By Tryz.results29 (λ w hw=>?_)
  first
  | exact⟨x8,rfl,.inr ⟨rfl,h8⟩,by rw[List.append_nil] at hw;exact hw.v4⟩
  | exact⟨(x,[],true,rs),rfl,.inl ⟨by simpa using c6,rfl⟩,by rw[show dn=true from by simpa using c6] at hw;exact hw.aT (hF:=by exact aW.nil)⟩
 ·refine bA ?_
  refine By Tryz.results29 (λ w hw=>?_)
  first
  | exact⟨(x,[],true,rs),rfl,.inl ⟨by simpa using c6,rfl⟩,by rw[show dn=true from by simpa using c6] at hw;exact hw.aT (hF:=by exact aW.nil)⟩
end
end

/- Executions of the reference: the start. -/
end Go.Proofs.YtadnboagdhcedaaGreatDoor
namespace Go.Ct
section
open Go Go.RowKit
def XS.new(L:List aL)(cs:List Int)(gen acc:Int)(pn:Option Addr)(cn:Nat)(pc:Option Addr)(cc:Nat):XS:=⟨L,cs,gen,acc,pn,cn,pc,cc,[],[],[],[],none,0,none,0,none,0,none,0,0,0,0,0,0,false,Ac.zero⟩
end
end Go.Ct
namespace Go.Proofs.YtadnboagdhcedaaGreatDoor
section
open Go Go.RowKit Go.Ct
section
variable{k:Cl}{bm:Nat}{L:List aL}{cs:List Int}{gen acc:Int}{pn pc:Option Addr}{cn cc:Nat}{D:List Nat}{A:Fr}{w:World}
theorem fw{m n N:Nat}(hT:bZ (lA k (kD k.key m) n) N 64)(hN:N<=1073741824)(hsz:L.length<=137438953472/\cs.length<=137438953472/\gen<=137438953472)(hk:dq k)(hn:n<=1073741824)(hm:m<18446744073709551616)(em:k.mask=(m:Int))(ht:k.t.root<=9223372036854775807)(ha:k.a<=L.length)(hb:k.b<=L.length)(hnn:k.n<=L.length)(hA:∀f∈aV L,f∈A)(ok:(XS.new L cs gen acc pn cn pc cc).Ok)(hs:SF w D [(bm,mO L cs gen acc pn cn pc cc)] A [] [⟨pn,gR L,cn,77,14⟩,⟨pc,aG cs,cc,62,1⟩] w)(hN0:N=0:=by rfl):Calls Tryz.prog 42 #[.pointer (some ⟨bm,0,none⟩),.agg ⟨Nq k⟩] w λ e w'=>∃q:Nat×XS×List aL×Bool×Rs,e=.returned (.pointer (some ⟨q.1,0,none⟩))/\vP (lA k (kD k.key m) n) (lA k (kD k.key m) n) 0 N Rs.zero (XS.new L cs gen acc pn cn pc cc) q.2.1 q.2.2.1 q.2.2.2.1 q.2.2.2.2/\SF w D (xH k q.1 bm q.2.1 q.2.2.2.1 q.2.2.2.2) [] (aV q.2.2.1) (xW q.2.1) w':=by
 have hg:Gx.Ok ⟨lA k (kD k.key m) n,lA k (kD k.key m) n,(XS.new L cs gen acc pn cn pc cc).mm,0,N⟩:=⟨hT,⟨N,Nat.zero_le _,hT⟩,hN,Nat.zero_le _,by
  show(L.map aL.c).length<=_/\_
  rw[List.length_map]
  exact hsz⟩
 refine enter Tryz.func42 Tryz.ntmps42 rfl rfl ((((hs.kT 3 1).kT 27 1).kT 62 1).kT 62 1) ?_
 simp only[cP]
 refine J0 ?_;refine bP (λ x3=>?_);refine Ka3 ?_;refine aE (aK (k:=25) (vs:=Nq k) rf dU fX rfl rfl) rfl ?_;refine bD ?_;refine bP (λ x9=>?_);refine Ka3 ?_;refine aC (cM (hs:=xH k x9 bm (XS.new L cs gen acc pn cn pc cc) false Rs.zero) (os:=xW (XS.new L cs gen acc pn cn pc cc)) (A0:=aV L) (hA:=bQ.of λ f hf=>.inr (.inl (hA f hf))) (hc:=λ w hs=>Mq (N:=N) (n:=n) (m:=m) 0 hg (Wk.nil _) hN0.symm hk hn hm em ht ha hb hnn (λ f hf=>hf) ok hs)) (λ x11 h11=>?_);refine aI ?_;refine Ka6 ?_
 refine aQ Tryz.results42 (λ w hw=>?_)
 exact⟨(x9,x11.1,x11.2.1,x11.2.2.1,x11.2.2.2),rfl,h11,by rw[List.append_nil] at hw;exact hw.v4⟩
end
end

/- The trees are never stuck within as many accesses as they have fuel: single procedures. -/
section
open Go Go.RowKit Go.Ct
theorem qp:∀{t:Tr} {n c c':Nat},c<=c'->bZ t n c->bZ t n c':=by
 intro t
 induction t with
 | done r=>intros;simp[bZ]
 | stuck=>intro n c c' _ h;simp[bZ] at h
 | load r k ih =>
  intro n c c' _ h
  cases n with
  | zero=>simp[bZ]
  | succ n=>simpa only[bZ] using h
 | oG r o m k ih =>
  intro n c c' _ h
  cases n with
  | zero=>simp[bZ]
  | succ n=>simpa only[bZ] using h
 | alloc r o k ih =>
  intro n c c' hc h
  cases c with
  | zero=>simp[bZ] at h
  | succ c =>
   cases c' with
   | zero=>omega
   | succ c'=>simp only[bZ] at h ⊢;exact λ v=>ih v (by omega) (h v)
 | cell r k ih =>
  intro n c c' hc h
  cases c with
  | zero=>simp[bZ] at h
  | succ c =>
   cases c' with
   | zero=>omega
   | succ c'=>simp only[bZ] at h ⊢;exact λ v=>ih v (by omega) (h v)
 | gen k ih =>
  intro n c c' hc h
  cases c with
  | zero=>simp[bZ] at h
  | succ c =>
   cases c' with
   | zero=>omega
   | succ c'=>simp only[bZ] at h ⊢;exact λ v=>ih v (by omega) (h v)
 | node r k ih =>
  intro n c c' hc h
  cases c<;>cases c'<;>simp only[bZ] at h ⊢ <;> exact λ v=>ih v (by omega) (h v)
section
variable{n c:Nat}
theorem oF{a:Int}{k:Int->Tr}(h:∀n',n'<n->∀v,bZ (k v) n' 64):bZ (.load a k) n c:=by
 cases n with
 | zero=>simp[bZ]
 | succ n=>simp only[bZ];exact h n (Nat.lt_succ_self n)
theorem Bn{a o m:Int}{k:Bool->Tr}(h:∀n',n'<n->∀v,bZ (k v) n' 64):bZ (.oG a o m k) n c:=by
 cases n with
 | zero=>simp[bZ]
 | succ n=>simp only[bZ];exact h n (Nat.lt_succ_self n)
theorem Ih{a:Nv}{i:Int}{k:Int->Tr}(h:∀v,bZ (k v) n c):bZ (.alloc a i k) n (c+1):=by simp only[bZ];exact h
theorem vt{i:Int}{k:Int->Tr}(h:∀v,bZ (k v) n c):bZ (.cell i k) n (c+1):=by simp only[bZ];exact h
theorem zf{k:Int->Tr}(h:∀v,bZ (k v) n c):bZ (.gen k) n (c+1):=by simp only[bZ];exact h
theorem cL{r:Int}{k:Nv->Tr}(h:∀v,bZ (k v) n c):bZ (.node r k) n c:=by
 cases c<;>simp only[bZ]<;>exact h
abbrev Fw{X:Type}(K:X->Tr)(n:Nat):Prop:=∀n',n'<n->∀v,bZ (K v) n' 64
theorem Fw.lt{X:Type}{K:X->Tr}{m:Nat}(h:Fw K n)(hm:m<=n):Fw K m:=λ n' h' v=>h n' (by omega) v
theorem Y6{v s:Int}{K:Int->Tr}(h:∀w,bZ (K w) n c):bZ (uj v s K) n c:=cL λ _=>h _
theorem uO{t:eA}{v s:Int}{K:Int->Tr}(h:Fw K n):bZ (Fy t v s K) n c:=Y6 λ _=>Bn λ n' hn _=>h n' hn _
theorem T8{t:eA}{K:Int->Tr}(h:Fw K n):bZ (Qm t K) n c:=oF λ n1 h1 v=>cL λ nv=>by
 split
 ·exact h n1 h1 v
 ·exact cL λ _=>oF λ n2 h2 s=>by
   split
   ·exact cL λ _=>Bn λ n3 h3 _=>cL λ _=>oF λ n4 h4 _=>uO (h.lt (by omega))
   ·exact uO (h.lt (by omega))
theorem Lo{i m p:Int}{K:Int->Tr}(h:Fw K n):bZ (Yv i m p K) n c:=cL λ _=>cL λ _=>Bn λ n' hn _=>cL λ _=>h n' hn _
theorem xV{i m:Int}{K:Int->Tr}(h:Fw K n):bZ (tU i m K) n c:=cL λ _=>oF λ n1 h1 p=>by
 split
 ·exact h n1 h1 _
 ·exact Lo (h.lt (by omega))
theorem Hq{i m p:Int}{b:Bool}{K:Int->Tr}(h:Fw K n)(hc:1<=c):bZ (Dv i m p b K) n c:=by
 unfold Dv
 split
 ·exact cL λ _=>Bn λ n1 h1 _=>xV (h.lt (by omega))
 ·obtain⟨c,rfl⟩:∃d,c=d+1:=⟨c-1,by omega⟩
  exact cL λ _=>Ih λ _=>Bn λ n1 h1 _=>xV (h.lt (by omega))
theorem Bk{t:eA}{i m:Int}{K:Int->Tr}(h:Fw K n):bZ (uV t i m K) n c:=cL λ _=>oF λ n1 h1 p=>by
 split
 ·exact h n1 h1 _
 ·refine cL λ _=>?_
  split
  ·split
   ·exact Hq (h.lt (by omega)) (by decide)
   ·exact T8 λ n2 h2 _=>cL λ _=>cL λ _=>Hq (h.lt (by omega)) (by decide)
  ·exact Lo (h.lt (by omega))
theorem fZ{t:eA}{i:Int}{K:Int->Tr}(h:Fw K n):bZ (lI t i K) n c:=cL λ _=>oF λ n1 h1 _=>Bk (h.lt (by omega))
theorem Bf{t:eA}{v:Int}{K:Tr}(h:∀n',n'<n->bZ K n' 64):bZ (vK t v K) n c:=cL λ _=>fZ λ n1 h1 _=>cL λ _=>cL λ _=>Bn λ n2 h2 _=>h n2 (by omega)
theorem oA{t:eA}{K:Int->Tr}(h:Fw K n):bZ (rY t K) n c:=oF λ n1 h1 v=>cL λ nv=>by
 split
 ·exact h n1 h1 v
 ·exact cL λ _=>oF λ n2 h2 s=>by
   split
   ·exact Bf λ n3 h3=>cL λ _=>oF λ n4 h4 _=>uO (h.lt (by omega))
   ·exact uO (h.lt (by omega))
theorem jD{t:eA}{i o m:Int}{K:Bool->Tr}(h:Fw K n):bZ (mX t i o m K) n c:=cL λ _=>Bn λ n1 h1 b=>by
 split
 ·exact Bk λ n2 h2 _=>h n2 (by omega) _
 ·exact h n1 h1 _
theorem wN{t:eA}{o e m:Int}{K:Bool->Tr}(h:Fw K n)(hc:1<=c):bZ (tT t o e m K) n c:=by
 obtain⟨c,rfl⟩:∃d,c=d+1:=⟨c-1,by omega⟩
 exact Ih λ _=>Bn λ n1 h1 b=>by
  split
  ·exact Bf λ n2 h2=>cL λ _=>oF λ n3 h3 _=>uO λ n4 h4 _=>h n4 (by omega) _
  ·exact h n1 h1 _
end
end

/- The trees are never stuck within as many accesses as they have fuel: calls. -/
section
open Go Go.RowKit Go.Ct
section
variable{n c:Nat}
theorem eX{a:Nv}{i:Int}{k:Int->Tr}(hc:1<=c)(h:∀v,bZ (k v) n (c-1)):bZ (.alloc a i k) n c:=by
 obtain⟨c,rfl⟩:∃d,c=d+1:=⟨c-1,by omega⟩
 exact Ih h
theorem zS{a i r:Int}{K:Int->Tr}(hc:1<=c)(h:∀v,bZ (K v) n (c-1)):bZ (Co a i r K) n c:=cL λ _=>eX hc h
theorem Oo{t:eA}{i o x:Int}{K:Int->Tr}(h:Fw K n):bZ (Ik t i o x K) n c:=cL λ _=>fZ λ n1 h1 _=>cL λ _=>eX (by decide) λ _=>zS (by decide) λ _=>jD λ n2 h2 _=>h n2 (by omega) _
theorem wQ{t:eA}{p o:Int}{h0:Nat}{l:Int}{K:Bool->Tr}(h:Fw K n):bZ (wV t p o h0 l K) n c:=fZ λ n1 h1 _=>cL λ _=>by
 split
 ·exact fZ λ n2 h2 _=>cL λ _=>by
   split
   ·exact eX (by decide) λ _=>cL λ _=>eX (by decide) λ _=>jD λ n3 h3 _=>h n3 (by omega) _
   ·exact h n2 (by omega) _
 ·exact h n1 h1 _
theorem Gk{t:eA}{h0:Nat}{key:ByteArray}{K:Rs->Tr}:∀(q n c:Nat) (i level:Int),n<q->Fw K n->bZ (Bl t h0 key K q i level) n c
 | 0,n,c,i,level,hq,_=>absurd hq (Nat.not_lt_zero n)
 | q+1,n,c,i,level,hq,h=>fZ λ n1 h1 _=>cL λ _=>by
  split
  ·split<;>exact h n1 h1 _
  ·split
   ·exact h n1 h1 _
   ·split
    ·exact h n1 h1 _
    ·exact cL λ _=>by
      split
      ·split<;>exact h n1 h1 _
      ·exact Gk q n1 64 _ _ (by omega) (h.lt (by omega))
theorem Lm:∀(l:List NI) (r:Int) (K:Int->Tr) (n c:Nat),l.length<=c->(∀v,bZ (K v) n (c-l.length))->bZ (yM l r K) n c
 | [],r,K,n,c,_,h=>h r
 | a::l,r,K,n,c,hc,h=>by
  have hc':l.length+1<=c:=by simpa using hc
  exact eX (by omega) λ v=>Lm l v K n (c-1) (by omega) (λ u=>by have:=h u;rw[List.length_cons] at this;rwa [show c-1-l.length=c-(l.length+1) by omega])
theorem U7{k:Cl}{b:Int}{h0 level:Nat}{gen:Int}{K:Int->Tr}(hc:32<=c)(h:∀v,bZ (K v) n (c-32)):bZ (Sx k b h0 level gen K) n c:=cL λ nb=>eX (by omega) λ f=>by
 have hl:(dP b nb.hash.toNat h0 (nb.key,nb.val) k.key k.val gen f.toNat level).tail.length<=31:=by
  have h1:=N6 (x:=b) (h0:=nb.hash.toNat) (h:=h0) (p0:=(nb.key,nb.val)) (k:=k.key) (u:=k.val) (gen:=gen) (f:=f.toNat) (jV nb.hash.toNat h0-level) (jV nb.hash.toNat h0-(jV nb.hash.toNat h0-level))
  have h2:=wP nb.hash.toNat h0
  rw[List.length_tail]
  unfold dP
  omega
 exact Lm _ _ _ _ _ (by omega) λ v=>qp (by omega) (h v)
theorem I4{k:Cl}{i m:Int}{h0 level:Nat}{gen:Int}{K:Rs->Int->Tr}(h:∀n',n'<=n->∀r w,bZ (K r w) n' 64):bZ (kM k i m h0 level gen K) n 64:=cL λ nb=>by
 split
 ·split
  ·exact eX (by decide) λ _=>jD λ n1 h1 _=>h n1 (by omega) _ _
  ·exact h n (Nat.le_refl n) _ _
 ·split
  ·split
   ·exact eX (by decide) λ _=>eX (by decide) λ _=>jD λ n1 h1 _=>h n1 (by omega) _ _
   ·exact h n (Nat.le_refl n) _ _
  ·refine cL λ _=>?_
   split
   ·exact h n (Nat.le_refl n) _ _
   ·split
    ·split
     ·exact eX (by decide) λ _=>zS (by decide) λ _=>jD λ n1 h1 _=>h n1 (by omega) _ _
     ·exact h n (Nat.le_refl n) _ _
    ·split
     ·exact U7 (by decide) λ _=>eX (by decide) λ _=>zS (by decide) λ _=>jD λ n1 h1 _=>h n1 (by omega) _ _
     ·exact h n (Nat.le_refl n) _ _
theorem Fj{k:Cl}{i m x gen:Int}{K:Int->Tr}(h:∀n',n'<=n->∀v,bZ (K v) n' 64):bZ (Es k i m x gen K) n 64:=cL λ _=>cL λ _=>by
 split
 ·exact h n (Nat.le_refl n) _
 ·exact Oo λ n1 h1 _=>h n1 (by omega) _
theorem D4{k:Cl}{h0:Nat}{K:Rs->Tr}{again:Tr}{gen:Int}:∀(q n c:Nat) (i parent:Int) (level:Nat),n<q->Fw K n->(∀n',n'<n->bZ again n' 64)->bZ (Bh k h0 K again gen q i parent level) n c
 | 0,n,c,i,p,level,hq,_,_=>absurd hq (Nat.not_lt_zero n)
 | q+1,n,c,i,p,level,hq,h,ha=>fZ λ n1 h1 _=>cL λ _=>by
  split
  ·exact wQ λ n2 h2 _=>ha n2 (by omega)
  ·refine I4 λ n2 h2 r w=>?_
   split
   ·exact h n2 (by omega) _
   ·split
    ·exact ha n2 (by omega)
    ·refine Fj λ n3 h3 v=>?_
     split
     ·exact ha n3 (by omega)
     ·exact D4 q n3 64 _ _ _ (by omega) (h.lt (by omega)) (λ n4 h4=>ha n4 (by omega))
theorem La{k:Cl}{h0:Nat}{K:Rs->Tr}:∀(q n c:Nat),n<q->Fw K n->bZ (Ak k h0 K q) n c
 | 0,n,c,hq,_=>absurd hq (Nat.not_lt_zero n)
 | q+1,n,c,hq,h=>oA λ n1 h1 _=>cL λ _=>D4 q n1 64 _ _ _ (by omega) (h.lt (by omega)) (λ n2 h2=>La q n2 64 (by omega) (h.lt (by omega)))
theorem F7{k:Cl}{i m:Int}{h0 level:Nat}{K:Rs->Int->Tr}(h:∀n',n'<=n->∀r w,bZ (K r w) n' 64):bZ (jE k i m h0 level K) n 64:=cL λ nb=>by
 split
 ·split
  ·exact h n (Nat.le_refl n) _ _
  ·exact eX (by decide) λ _=>jD λ n1 h1 _=>h n1 (by omega) _ _
 ·split
  ·exact h n (Nat.le_refl n) _ _
  ·refine cL λ _=>?_
   split
   ·exact h n (Nat.le_refl n) _ _
   ·split
    ·exact h n (Nat.le_refl n) _ _
    ·split
     ·exact h n (Nat.le_refl n) _ _
     ·exact cL λ _=>eX (by decide) λ _=>jD λ n1 h1 _=>h n1 (by omega) _ _
theorem Q7{t:eA}{path:List Int}{h0:Nat}{K:Tr}:∀(l n:Nat),(∀n',n'<=n->bZ K n' 64)->bZ (pb t path h0 K l) n 64
 | 0,n,h=>h n (Nat.le_refl n)
 | l+1,n,h=>fZ λ n1 h1 _=>cL λ _=>by
  split
  ·exact wQ λ n2 h2 _=>Q7 l n2 (λ n3 h3=>h n3 (by omega))
  ·exact h n1 (by omega)
theorem Bc{k:Cl}{h0:Nat}{K:Rs->Tr}{again:Tr}{gen:Int}:∀(q n c:Nat) (i:Int) (path:List Int) (level:Nat),n<q->Fw K n->(∀n',n'<n->bZ again n' 64)->bZ (tF k h0 K again gen q i path level) n c
 | 0,n,c,i,p,level,hq,_,_=>absurd hq (Nat.not_lt_zero n)
 | q+1,n,c,i,p,level,hq,h,ha=>fZ λ n1 h1 _=>cL λ _=>by
  split
  ·exact wQ λ n2 h2 _=>ha n2 (by omega)
  ·refine F7 λ n2 h2 r w=>?_
   split
   ·split
    ·exact Q7 _ _ λ n3 h3=>h n3 (by omega) _
    ·exact h n2 (by omega) _
   ·split
    ·exact ha n2 (by omega)
    ·refine Fj λ n3 h3 v=>?_
     split
     ·exact ha n3 (by omega)
     ·exact Bc q n3 64 _ _ _ (by omega) (h.lt (by omega)) (λ n4 h4=>ha n4 (by omega))
theorem Ht{k:Cl}{h0:Nat}{K:Rs->Tr}:∀(q n c:Nat),n<q->Fw K n->bZ (qJ k h0 K q) n c
 | 0,n,c,hq,_=>absurd hq (Nat.not_lt_zero n)
 | q+1,n,c,hq,h=>oA λ n1 h1 _=>cL λ _=>Bc q n1 64 _ _ _ (by omega) (h.lt (by omega)) (λ n2 h2=>Ht q n2 64 (by omega) (h.lt (by omega)))
theorem Io{i:Int}{k:Int->Tr}(hc:1<=c)(h:∀v,bZ (k v) n (c-1)):bZ (.cell i k) n c:=by
 obtain⟨c,rfl⟩:∃d,c=d+1:=⟨c-1,by omega⟩
 exact vt h
theorem Pc{k:Int->Tr}(hc:1<=c)(h:∀v,bZ (k v) n (c-1)):bZ (.gen k) n c:=by
 obtain⟨c,rfl⟩:∃d,c=d+1:=⟨c-1,by omega⟩
 exact zf h
theorem jB{r:Rs}:bZ (.done r) n c:=by simp[bZ]
theorem G8{m:Int}:bZ (H4 m .done) n 64:=Pc (by decide) λ _=>eX (by decide) λ _=>Io (by decide) λ _=>jB
theorem G0{t:eA}{fz:Bool}:∀(q n c:Nat),n<q->bZ (Ea t fz .done q) n c
 | 0,n,c,hq=>absurd hq (Nat.not_lt_zero n)
 | q+1,n,c,hq=>oA λ n1 h1 _=>fZ λ n2 h2 _=>Pc (by decide) λ _=>eX (by decide) λ _=>wN (λ n3 h3 b=>by
  split
  ·split
   ·exact Io (by decide) λ _=>jB
   ·exact G8
  ·exact G0 q n3 64 (by omega)) (by decide)
theorem D8{t:eA}{fz:Bool}{q:Nat}(h:n<q):bZ (rB t fz .done q) n c:=by
 unfold rB
 split
 ·exact oF λ n1 h1 _=>by
   split
   ·exact Io (by decide) λ _=>jB
   ·exact fZ λ n2 h2 _=>G8
 ·exact G0 q n c h
theorem Eh{t:eA}:∀(q n c:Nat),n<q->bZ (tP t .done q) n c
 | 0,n,c,hq=>absurd hq (Nat.not_lt_zero n)
 | q+1,n,c,hq=>oA λ n1 h1 _=>fZ λ n2 h2 _=>eX (by decide) λ _=>Pc (by decide) λ _=>eX (by decide) λ _=>wN (λ n3 h3 b=>by
  split
  ·exact jB
  ·exact Eh q n3 64 (by omega)) (by decide)
theorem T5{k:Cl}{h0 q:Nat}(h:n<q):bZ (lA k h0 q) n 64:=by
 have hd:∀{X:Type} {K:X->Rs},Fw (λ v=>Tr.done (K v)) n:=λ _ _ _=>jB
 unfold lA
 split
 ·exact jB
 split
 ·exact fZ hd
 split
 ·exact jD hd
 split
 ·exact oA hd
 split
 ·exact wN hd (by decide)
 split
 ·exact oA λ n1 h1 _=>Gk q n1 64 _ _ (by omega) (λ _ _ _=>jB)
 split
 ·exact La q n 64 h (λ _ _ _=>jB)
 split
 ·exact Ht q n 64 h (λ _ _ _=>jB)
 split
 ·exact D8 h
 split
 ·exact D8 h
 ·exact Eh q n 64 h
end
end

/- Worlds: lists of tries and of executions; the smallest functions. -/
end Go.Proofs.YtadnboagdhcedaaGreatDoor
namespace Go.Ct
section
open Go Go.RowKit
section
variable{P:Program}{S:List (Nat×Value)}{d:Nat}{ty t t' e:TypeId}{pos:String}{af:Array Edge}{gd:Option (Nat×Bool)}{x y:Operand}{w0 w:World}{M:List Nat}{H:List (Nat×Obj)}{A F:Fr}{O:List Ow}{a:Option Addr}
theorem qb{cs:List Value}{kk:IntKind}{m c k:Nat}(hx:ev S x=.slice a m c)(hy:ev S y=.int kk ((k:Nat):Int))(ht:P.underlying t=some (.slice e))(hs:one P e=true)(hf:pI A F O a cs)(h1:k<m)(h2:k<cs.length) :
  aJ P S (SF w0 M H A F O) ⟨some d,.indexAddr t x y,ty,pos,af,gd⟩ (.pointer (some ⟨cR a,dX a+k,none⟩)):=⟨λ w hw =>
 (xF (G:=SF w0 M H A F O) hx hy ht hs ((hw.cl hf).ptr (by omega)) h1).run w hw⟩
theorem ng{cs:List Value}{q:Nat}{v:Value}(hx:ev S x=.pointer (some ⟨cR a,dX a+q,none⟩))(ht:one P t=true)(hf:pI A F O a cs)(hq:cs[q]?=some v) :
  aJ P S (SF w0 M H A F O) ⟨some d,.load t x,ty,pos,af,gd⟩ v:=nT hx ht (λ w hw=>hw.cl hf) hq
theorem df{cs:List Value}{kk:IntKind}{m c k:Nat}(hx:ev S x=.slice a m c)(hy:ev S y=.int kk ((k:Nat):Int))(ht:P.underlying t=some (.slice e))(hs:jP P e 2=true)(hf:pI A F O a cs)(h1:k<m)(h2:2*k<cs.length) :
  aJ P S (SF w0 M H A F O) ⟨some d,.indexAddr t x y,ty,pos,af,gd⟩ (.pointer (some ⟨cR a,dX a+2*k,none⟩)):=⟨λ w hw =>
 (K4 (G:=SF w0 M H A F O) hx hy ht hs ((hw.cl hf).ptr (by omega)) h1).run w hw⟩
end
end
end Go.Ct
namespace Go.Proofs.YtadnboagdhcedaaGreatDoor
section
open Go Go.RowKit Go.Ct
def sN(ts:List eA):List Value:=ts.flatMap λ t=>[.int .i64 t.root,.bool t.ro]
def xS(es:List Nat):List Value:=es.map λ b=>.pointer (some ⟨b,0,none⟩)
theorem oW:∀ts:List eA,(sN ts).length=ts.length*2
 | []=>rfl
 | t::ts=>by
  have:=oW ts
  simp only[sN,List.flatMap_cons,List.length_append,List.length_cons,List.length_nil] at this ⊢
  omega
theorem Wj(ts:List eA)(t:eA):sN (ts++[t])=sN ts++[.int .i64 t.root,.bool t.ro]:=by simp[sN]
theorem Wx(es:List Nat)(b:Nat):xS (es++[b])=xS es++[.pointer (some ⟨b,0,none⟩)]:=by simp[xS]
theorem E8(es:List Nat):(xS es).length=es.length:=by simp[xS]
theorem Dj:dE Tryz.prog 37 29 [.int .i64 0,.bool false]:=mC (z:=.agg ⟨[.int .i64 0,.bool false]⟩) (by kernel_rfl) (by kernel_rfl) rfl
theorem Kr:dE Tryz.prog 38 73 [.pointer none]:=mC (z:=.pointer none) (by kernel_rfl) (by kernel_rfl) rfl
theorem jv:dE Tryz.prog 107 30 [.int .u64 0]:=mC (z:=.int .u64 0) (by kernel_rfl) (by kernel_rfl) rfl
abbrev nK(bm:Nat)(mask:Int)(pt:Option Addr)(nt kt:Nat)(pe:Option Addr)(ne ke:Nat):Obj:=.cells ⟨[.pointer (some ⟨bm,0,none⟩),.int .u64 mask,.slice pt nt kt,.slice pe ne ke]⟩ 40 (0,0)
def xR:List Int:=[18446744073709551615,0,1,64,63,4095,9223372036854775808,4032,3458764513820540928,18446744073709551615]
theorem sb{l:List Int}{a:Option Addr}{b c k:Nat}{w:World}(ht:mq w b a l c k) :
  Calls Tryz.prog 23 #[.pointer (some ⟨b,0,none⟩)] w λ e w' =>
  ∃v:Nat,e=.returned (.int .u64 (xR.getD v 0))/\v<10/\SF w [b] ((b,Oa a l c (mY l k))::[]) [] [] [] w':=by
 refine enter Tryz.func23 Tryz.ntmps23 rfl rfl ht.start ?_
 simp only[cP]
 refine cQ ?_;refine J0 ?_;refine aU ((by exact B4 (λ _=>cC (cs:=xR.map (Value.int .u64)) jv Fp rfl rfl rfl rfl rfl))) (λ x3=>?_);refine aB ?_;refine aC (vY (hc:=λ w1 hw=>eI 10 (hw.tape dU fin ht.len) (by decide) (by decide))) (λ x5 h5=>?_);refine aE (qb (cs:=xR.map (Value.int .u64)) rf rf fE gA fin (by omega) (by rw[List.length_map];simp only[xR,List.length_cons,List.length_nil];omega)) rfl ?_;refine aE (ng (cs:=xR.map (Value.int .u64)) (v:=.int .u64 (xR.getD x5 0)) rf gA fin (by rw[List.getElem?_map,fM,List.getElem?_eq_getElem (by simp only[xR,List.length_cons,List.length_nil];omega)];rfl)) rfl ?_;refine J1 ?_
 refine aQ Tryz.results23 (λ w hw=>?_)
 exact⟨x5,rfl,by omega,hw.aT⟩
theorem ry{l:List Int}{a:Option Addr}{b c k:Nat}{w:World}(ht:mq w b a l c k) :
  Calls Tryz.prog 25 #[.pointer (some ⟨b,0,none⟩)] w λ e w' =>
  ∃v:Bool,e=.returned (.bool v)/\True/\SF w [b] ((b,Oa a l c k)::[]) [] [] [] w':=by
 refine enter Tryz.func25 Tryz.ntmps25 rfl rfl ht.start ?_
 simp only[cP]
 refine F2 ?_;refine fK [0,1,2,3,4,5,6,7,8,9,10] ?_;refine Cc ?_;refine lK ?_;refine Ba ?_;refine J7 ?_
 refine aQ Tryz.results25 (λ w hw=>?_)
 exact⟨_,rfl,trivial,hw.aT⟩
end

/- Worlds: Create, keep. -/
section
open Go Go.RowKit Go.Ct
structure KQ where
 ts:List eA
 es:List Nat
 pt:Option Addr
 kt:Nat
 pe:Option Addr
 ke:Nat
def Qa(dn:Bool)(rs:Rs)(bx:Nat)(ts:List eA)(es:List Nat)(q:KQ):Prop :=
 (dn=false/\q.es=es++[bx]/\q.ts=ts)∨(dn=true/\q.es=es/\(q.ts=ts∨(0<rs.root/\q.ts.length<=5/\q.ts=ts++[⟨rs.root,rs.ro⟩])))
section
variable{k:Cl}{bw bx bm:Nat}{x:XS}{dn:Bool}{rs:Rs}{D:List Nat}{A:Fr}{w:World}{mask:Int}{ts:List eA}{es:List Nat}{pt pe:Option Addr}{kt ke:Nat}
abbrev wL(ts:List eA)(es:List Nat)(pt:Option Addr)(kt:Nat)(pe:Option Addr)(ke:Nat):List Ow:=[⟨pt,sN ts,kt,29,2⟩,⟨pe,xS es,ke,73,1⟩]
theorem xq(h:SF w D ((bw,nK bm mask pt ts.length kt pe es.length ke)::xH k bx bm x dn rs) A [] (wL ts es pt kt pe ke++xW x) w) :
  SF w D [(bw,.cells ⟨[.pointer (some ⟨bm,0,none⟩),.int .u64 mask,.slice pt ts.length kt,.slice pe es.length ke]⟩ 40 (0,0)),(bx,xO k bm x dn rs),(bm,xM x)] A [] [⟨pt,sN ts,kt,29,2⟩,⟨pe,xS es,ke,73,1⟩,⟨x.pg,aG x.got,x.kg,62,1⟩,⟨x.pm,aG x.made,x.km,62,1⟩,⟨x.pl,aG x.cel,x.kl,27,1⟩,⟨x.pe,aG x.gns,x.ke,3,1⟩,⟨x.pn,gR x.L,x.cn,77,14⟩,⟨x.pc,aG x.cs,x.cc,62,1⟩] w:=h
theorem ug(hts:ts.length<=1000)(hes:es.length<=1000)(hs:SF w D ((bw,nK bm mask pt ts.length kt pe es.length ke)::xH k bx bm x dn rs) A [] (wL ts es pt kt pe ke++xW x) w):Calls Tryz.prog 49 #[.pointer (some ⟨bw,0,none⟩),.pointer (some ⟨bx,0,none⟩)] w λ e w'=>∃q:KQ,e=.returned (.tuple #[])/\Qa dn rs bx ts es q/\SF w D ((bw,nK bm mask q.pt q.ts.length q.kt q.pe q.es.length q.ke)::xH k bx bm x dn rs) [] [] (wL q.ts q.es q.pt q.kt q.pe q.ke++xW x) w':=by
 refine enter Tryz.func49 Tryz.ntmps49 rfl rfl (xq hs) ?_
 simp only[cP]
 refine J2 ?_;refine aC (cM (hs:=xH k bx bm x dn rs) (os:=xW x) (hc:=λ w hs=>Ov hs)) (λ x6 h6=>?_);refine mS ?_
 refine aZ (λ c7=>?_) (λ c7=>?_)
 ·refine Kq ?_;refine dL ?_;refine J3 ?_;refine aB ?_;refine aU ((by exact B4 (λ _=>cC (cs:=xS [bx]) Kr Fp rfl rfl rfl rfl rfl))) (λ x14=>?_);(refine aU (bJ.fA (iC (sz:=1) (cs:=xS es) rf rf (.tail .head) (by rw[E8];omega) fin rfl rfl Kr rfl (by decide) fE (by omega)) xB) (λ x15=>?_);try (refine eZ (λ h15=>?_)));refine a8 ?_
  refine By Tryz.results49 (λ w hw=>?_)
  first
  | exact⟨⟨ts,es++[bx],pt,kt,x15.1,x15.2⟩,rfl,.inl ⟨by simpa using c7,rfl,rfl⟩,by dsimp only[wL];rw[Wx,show(es++[bx]).length=es.length+1 by simp];exact hw.aT⟩
  | exact⟨⟨ts,es,pt,kt,pe,ke⟩,rfl,.inr ⟨by simpa using c7,rfl,.inl rfl⟩,hw.aT⟩
 ·refine J2 ?_;refine aC (cM (hs:=xH k bx bm x dn rs) (os:=xW x) (hc:=λ w hs=>Wh hs)) (λ x19 h19=>?_);refine aP (λ x4=>?_);refine J5 ?_;refine J0 ?_;refine Kb7 ?_;refine wE ?_;refine aB ?_
  (refine eF 24 (λ g24=>?_) (λ g24=>?_)<;>refine Ka0 ?_)
  all_goals ((first|refine aH ?_|(refine aF ?_;refine dL ?_));refine Um ?_;refine nj ?_;refine aI ?_)
  all_goals
  refine aZ (λ c31=>?_) (λ c31=>?_)
  ·try exact nv c31
   all_goals (refine eG [(0,[]),(1,[]),(2,[]),(3,[]),(4,[]),(5,[]),(6,[]),(7,[4]),(8,[]),(9,[]),(10,[]),(11,[])] ?_;refine uo ?_;refine aM ?_;refine bH (i:=6) (hq:=(aK (k:=2) (vs:=[.int .i64 rs.root,.bool rs.ro]) rf dU fX rfl rfl)) (h:=?_);refine cX (i:=7) (hq:=((by exact B4 (λ _=>cC (cs:=sN [⟨rs.root,rs.ro⟩]) Dj Fp rfl rfl rfl rfl rfl)))) (h:=λ x39=>?_);((refine cX (i:=8) (hq:=(bJ.fA (iC (sz:=2) (cs:=sN ts) rf rf .head (by rw[oW]) fin rfl rfl Dj rfl (by decide) fE (by omega)) xB)) (h:=λ x40=>?_);try (refine fW (λ h40=>?_))));refine J88 ?_)
   all_goals
    refine By Tryz.results49 (λ w hw=>?_)
    first
    | exact⟨⟨ts++[⟨rs.root,rs.ro⟩],es,x40.1,x40.2,pe,ke⟩,rfl,.inr ⟨by simpa using c7,rfl,.inr ⟨by omega,by show(ts++[(⟨rs.root,rs.ro⟩:eA)]).length<=5;simp;omega,rfl⟩⟩,by dsimp only[wL];rw[Wj,show(ts++[(⟨rs.root,rs.ro⟩:eA)]).length=ts.length+1 by simp];exact hw.aT⟩
    | exact⟨⟨ts,es,pt,kt,pe,ke⟩,rfl,.inr ⟨by simpa using c7,rfl,.inl rfl⟩,hw.aT⟩
  ·all_goals refine bA ?_
   all_goals
    refine By Tryz.results49 (λ w hw=>?_)
    first
    | exact⟨⟨ts,es,pt,kt,pe,ke⟩,rfl,.inr ⟨by simpa using c7,rfl,.inl rfl⟩,hw.aT⟩
theorem kj(hts:ts.length<=1000)(hes:es.length<=1000)(hs:SF w D [(bw,nK bm mask pt ts.length kt pe es.length ke),(bx,xO k bm x dn rs),(bm,xM x)] A [] [⟨pt,sN ts,kt,29,2⟩,⟨pe,xS es,ke,73,1⟩,⟨x.pg,aG x.got,x.kg,62,1⟩,⟨x.pm,aG x.made,x.km,62,1⟩,⟨x.pl,aG x.cel,x.kl,27,1⟩,⟨x.pe,aG x.gns,x.ke,3,1⟩,⟨x.pn,gR x.L,x.cn,77,14⟩,⟨x.pc,aG x.cs,x.cc,62,1⟩] w):Calls Tryz.prog 49 #[.pointer (some ⟨bw,0,none⟩),.pointer (some ⟨bx,0,none⟩)] w λ e w'=>∃q:KQ,e=.returned (.tuple #[])/\Qa dn rs bx ts es q/\SF w D [(bw,nK bm mask q.pt q.ts.length q.kt q.pe q.es.length q.ke),(bx,xO k bm x dn rs),(bm,xM x)] [] [] [⟨q.pt,sN q.ts,q.kt,29,2⟩,⟨q.pe,xS q.es,q.ke,73,1⟩,⟨x.pg,aG x.got,x.kg,62,1⟩,⟨x.pm,aG x.made,x.km,62,1⟩,⟨x.pl,aG x.cel,x.kl,27,1⟩,⟨x.pe,aG x.gns,x.ke,3,1⟩,⟨x.pn,gR x.L,x.cn,77,14⟩,⟨x.pc,aG x.cs,x.cc,62,1⟩] w':=ug hts hes hs
end
end

end Go.Proofs.YtadnboagdhcedaaGreatDoor

/- Executions of the reference: one repetition. -/
import Derived.Test.YtbajmaoegmbfgaaGreatEx23
import Derived.Test.YtbajmaoegmbfgaaGreatGRn1
import Derived.Test.YtbajmaoegmbfgaaGreatGTape

set_option linter.unusedSimpArgs false
set_option linter.unusedVariables false
namespace Go.Ct
section
open Go Go.RowKit
theorem qh{L:List Nv}{r:Rs}{gs ms cl gn:List Int}{R:Tr}(h:Wk L (.done r) gs ms cl gn R):gs=[]/\ms=[]/\cl=[]/\gn=[]/\R=.done r:=by
 cases h
 exact⟨rfl,rfl,rfl,rfl,rfl⟩
def XS.re(x:XS)(free:Nat):XS:={x with a:=0,m:=0,c:=0,g:=0,fr:=free,st:=false}
theorem aA5{T R:Tr}{x:XS}{free N:Nat}(hw:Wk x.nodes T x.got x.made x.cel x.gns R)(hN:x.got.length+free=N):fV ⟨T,R,x.mm,free,N⟩ (x.re free) T:=.inl ⟨rfl,R,⟨Wk.nil _,hw,by show Rc (free-free) R x.mm R x.mm;rw[Nat.sub_self];exact Rc.refl _ _,Nat.le_refl _,Nat.zero_le _,Nat.zero_le _,Nat.zero_le _,Nat.zero_le _,hN⟩⟩
structure zB(T R:Tr)(free N:Nat)(rs:Rs)(x x':XS)(N':List aP)(dn':Bool)(rs':Rs):Prop where
 ok:x'.Ok
 ext:x'.L=x.L++N'
 lc:x.cs.length<=x'.cs.length
 gl:x'.got.length<=N
 j8:(dn'=true/\∃j,j<=free/\x'.got.length+free=N+j/\Wk x'.nodes T x'.got x'.made x'.cel x'.gns (.done rs')/\Rc j R x.mm (.done rs') x'.mm)∨(dn'=false/\rs'=rs/\x'.got.length=N/\∃R',R'.acc=some x'.nx/\Wk x'.nodes T x'.got x'.made x'.cel x'.gns R'/\Rc free R x.mm R' x'.mm)
theorem Nx.r8{T R:Tr}{free N:Nat}{rs r:Rs}{x x':XS}{N':List aP}(h:Nx ⟨T,R,x.mm,free,N⟩ (x.re free) x' N' (.done r) 0)(hs:x'.st=false):zB T R free N rs x x' N' true r:=by
 obtain⟨R',hR⟩:=h.go.run hs
 obtain⟨e1,e2,e3,e4,e5⟩:=qh hR.suf
 refine⟨h.ok,h.ext,h.lc,(by have:=hR.hN;show x'.got.length<=N;simp only at this;omega),.inl ⟨rfl,free-x'.fr,Nat.sub_le _ _,(by have:=hR.hN;have:=hR.hf;simp only at *;omega),?_,e5▸hR.rc⟩⟩
 have hp:=hR.pre
 rwa [List.take_of_length_le (List.drop_eq_nil_iff.1 e1),List.take_of_length_le (List.drop_eq_nil_iff.1 e2),List.take_of_length_le (List.drop_eq_nil_iff.1 e3),List.take_of_length_le (List.drop_eq_nil_iff.1 e4)] at hp
theorem Nx.r5{T R:Tr}{free N:Nat}{rs r:Rs}{x x':XS}{N':List aP}(h:Nx ⟨T,R,x.mm,free,N⟩ (x.re free) x' N' (.done r) 0)(hs:x'.st=true):zB T R free N rs x x' N' false rs:=by
 rcases h.go with h1|h1
 ·rw[hs] at h1;exact nomatch h1.1
 ·obtain⟨R',hR⟩:=h1.2
  exact⟨h.ok,h.ext,h.lc,Nat.le_of_eq hR.hN,.inr ⟨rfl,rfl,hR.hN,R',hR.ac,hR.wk,hR.rc⟩⟩
end
end Go.Ct
namespace Go.Proofs.YtbajmaoegmbfgaaGreat
section
open Go Go.RowKit Go.Ct
section
variable{k:Cl}{bx bm:Nat}{x:XS}{rs:Rs}{D:List Nat}{A:Fr}{w:World}
theorem N3{m n N:Nat}{R:Tr}(free:Nat)(hg:Gx.Ok ⟨kT k (lY k.key m) n,R,x.mm,free,N⟩)(hwk:Wk x.nodes (kT k (lY k.key m) n) x.got x.made x.cel x.gns R)(hN:x.got.length+free=N)(hk:gu k)(hn:n<=1073741824)(hm:m<18446744073709551616)(em:k.mask=(m:Int))(ht:k.t.root<=9223372036854775807)(ha:k.a<=x.L.length)(hb:k.b<=x.L.length)(hnn:k.n<=x.L.length)(hA:∀f∈aM x.L,f∈A)(ok:x.Ok)(hs:SF w D (xH k bx bm x false rs) A [] (xW x) w):Calls Tryz.prog 99 #[.pointer (some ⟨bx,0,none⟩),.int .i64 (free:Int)] w λ e w'=>∃q:XS×List aP×Bool×Rs,e=.returned (.tuple #[])/\zB (kT k (lY k.key m) n) R free N rs x q.1 q.2.1 q.2.2.1 q.2.2.2/\SF w D (xH k bx bm q.1 q.2.2.1 q.2.2.2) [] (aM q.2.1) (xW q.1) w':=by
 have hfr:=hg.hf
 have ok0:(x.re free).Ok:=ok.si rfl rfl rfl rfl rfl rfl (Nat.zero_le _) (Nat.zero_le _) (Nat.zero_le _) (Nat.zero_le _) hfr
 refine enter Tryz.func99 Tryz.ntmps99 rfl rfl (cA hs) ?_
 simp only[cD]
 refine jA ?_;refine pD ?_;refine pD ?_;refine aA ?_;refine Mu ?_;refine cO (by exact jE λ _=>eY rf cX wn rf fR rf rf kL) (λ _=>?_);refine Mu ?_;refine cO (by exact jE λ _=>eY rf cX wn rf fR rf rf kL) (λ _=>?_);refine Mu ?_;refine cO (by exact jE λ _=>eY rf cX wn rf fR rf rf kL) (λ _=>?_);refine Mu ?_;refine cO (by exact jE λ _=>eY rf cX wn rf fR rf rf kL) (λ _=>?_);refine Mu ?_;refine cO (by exact jE λ _=>eY rf cX wn rf fR rf rf kL) (λ _=>?_);refine Mu ?_;refine cO (by exact jE λ _=>eY rf cX wn rf fR rf rf kL) (λ _=>?_);refine aH ?_;refine J2 ?_;refine aD (cM (hs:=xH k bx bm (x.re free) false rs) (os:=xW (x.re free)) (A0:=aM x.L) (hA:=bE.of λ f hf=>.inr (.inl (hA f hf))) (hc:=λ w hs=>aA3 hg (x:=x.re free) n hk hn hm em ht ha hb hnn (λ f hf=>hf) (aA5 hwk hN) ok0 hs)) (λ x25 h25=>?_);refine aJ (λ x4=>?_);refine cO (by exact(jE λ _=>bO rf cX rf rf eP rf kL)) (λ _=>?_);refine aH ?_;refine mJ ?_;refine oU ?_
 refine aZ (λ c30=>?_) (λ c30=>?_)
 ·refine dZ [(0,[]),(1,[]),(2,[]),(3,[]),(4,[]),(5,[2]),(6,[]),(7,[]),(8,[])] ?_;refine gV ?_;refine bN ?_;refine J4 ?_;refine kF (i:=5) (hq:=(by exact jE λ _=>eY rf cX wn rf fR rf rf kL)) (h:=λ _=>?_);refine J4 ?_;refine kF (i:=8) (hq:=(jE λ _=>lN (off:=41) (vs:=x25.1.cells) rf cX rf rfl eP (Nat.le_of_ble_eq_true rfl) rf kL)) (h:=λ _=>?_);refine eJ ?_
  refine Dt Tryz.results99 (λ w hw=>?_)
  first
  | exact⟨(x25.2.1,x25.2.2,true,x25.1),rfl,h25.r8 (by simpa using c30),by rw[List.append_nil] at hw;exact hw.aV (hF:=by exact aW.all)⟩
  | exact⟨(x25.2.1,x25.2.2,false,rs),rfl,h25.r5 (by simpa using c30),by rw[List.append_nil] at hw;exact hw.aV (hF:=by exact aW.all)⟩
 ·refine aX ?_
  refine Dt Tryz.results99 (λ w hw=>?_)
  first
  | exact⟨(x25.2.1,x25.2.2,true,x25.1),rfl,h25.r8 (by simpa using c30),by rw[List.append_nil] at hw;exact hw.aV (hF:=by exact aW.all)⟩
  | exact⟨(x25.2.1,x25.2.2,false,rs),rfl,h25.r5 (by simpa using c30),by rw[List.append_nil] at hw;exact hw.aV (hF:=by exact aW.all)⟩
end
end

/- Executions of the reference: steps. -/
end Go.Proofs.YtbajmaoegmbfgaaGreat
namespace Go.Ct
section
open Go Go.RowKit
theorem M9{R:Tr}{a:Ac}(h:R.acc=some a){n c:Nat}(ht:bT R n c)(hn:1<=n):bT R n 64:=by
 cases R<;>simp only[Tr.acc,reduceCtorEq] at h
 ·cases n with
  | zero=>omega
  | succ n=>simpa only[bT] using ht
 ·cases n with
  | zero=>omega
  | succ n=>simpa only[bT] using ht
structure li(T:Tr)(x:XS)(dn:Bool)(rs:Rs)(R:Tr):Prop where
 ok:x.Ok
 wk:Wk x.nodes T x.got x.made x.cel x.gns R
 j8:(dn=true/\R=.done rs)∨(dn=false/\R.acc=some x.nx)
theorem zB.exI{T R:Tr}{free N:Nat}{rs rs':Rs}{x x':XS}{N':List aP}{dn':Bool}(h:zB T R free N rs x x' N' dn' rs'):∃R' j,j<=free/\(dn'=false->j=free)/\li T x' dn' rs' R'/\Rc j R x.mm R' x'.mm/\x'.L=x.L++N'/\x.cs.length<=x'.cs.length:=by
 rcases h.j8 with⟨e,j,h1,_,h2,h3⟩|⟨e,_,_,R',h1,h2,h3⟩
 ·exact⟨_,j,h1,(λ h=>by rw[e] at h;cases h),⟨h.ok,h2,.inl ⟨e,rfl⟩⟩,h3,h.ext,h.lc⟩
 ·exact⟨R',free,Nat.le_refl _,λ _=>rfl,⟨h.ok,h2,.inr ⟨e,h1⟩⟩,h3,h.ext,h.lc⟩
end
end Go.Ct
namespace Go.Proofs.YtbajmaoegmbfgaaGreat
section
open Go Go.RowKit Go.Ct
section
variable{k:Cl}{bx bm:Nat}{x:XS}{dn:Bool}{rs:Rs}{D:List Nat}{A:Fr}{w:World}
theorem Z4(hs:SF w D (xH k bx bm x dn rs) A [] (xW x) w):Calls Tryz.prog 69 #[.pointer (some ⟨bx,0,none⟩)] w λ e w'=>∃q:Unit,e=.returned (.bool dn)/\True/\SF w D (xH k bx bm x dn rs) [] [] (xW x) w':=by
 refine enter Tryz.func69 Tryz.ntmps69 rfl rfl (cA hs) ?_
 simp only[cD]
 refine cP ?_;refine mJ ?_;refine J1 ?_
 refine aQ Tryz.results69 (λ w hw=>?_)
 exact⟨(),rfl,trivial,hw.aV⟩
theorem dw(hs:SF w D (xH k bx bm x dn rs) A [] (xW x) w):Calls Tryz.prog 135 #[.pointer (some ⟨bx,0,none⟩)] w λ e w'=>∃q:Unit,e=.returned (.agg ⟨rs.cells⟩)/\True/\SF w D (xH k bx bm x dn rs) [] [] (xW x) w':=by
 refine enter Tryz.func135 Tryz.ntmps135 rfl rfl (cA hs) ?_
 simp only[cD]
 refine J0 ?_;refine aJ (λ x2=>?_);refine aH ?_;refine H7 ?_;refine aC (aR (k:=8) (vs:=rs.cells) rf cX eP rfl rfl) rfl ?_;refine J5 ?_
 refine aY Tryz.results135 (λ w hw=>?_)
 exact⟨(),rfl,trivial,hw.aV⟩
theorem Yj{m n N:Nat}{R:Tr}(hT:bT (kT k (lY k.key m) n) N 64)(hN:N<=1073741824)(hgN:x.got.length+1=N)(hsz:x.L.length<=137438953472/\x.cs.length<=137438953472/\x.gen<=137438953472)(hi:li (kT k (lY k.key m) n) x dn rs R)(hk:gu k)(hn:n<=1073741824)(hm:m<18446744073709551616)(em:k.mask=(m:Int))(ht:k.t.root<=9223372036854775807)(ha:k.a<=x.L.length)(hb:k.b<=x.L.length)(hnn:k.n<=x.L.length)(hA:∀f∈aM x.L,f∈A)(hs:SF w D (xH k bx bm x dn rs) A [] (xW x) w):Calls Tryz.prog 68 #[.pointer (some ⟨bx,0,none⟩)] w λ e w'=>∃q:XS×List aP×Bool×Rs,e=.returned (.tuple #[])/\((dn=true/\q=(x,[],true,rs))∨(dn=false/\zB (kT k (lY k.key m) n) R 1 N rs x q.1 q.2.1 q.2.2.1 q.2.2.2))/\SF w D (xH k bx bm q.1 q.2.2.1 q.2.2.2) [] (aM q.2.1) (xW q.1) w':=by
 have hg:dn=false->Gx.Ok ⟨kT k (lY k.key m) n,R,x.mm,1,N⟩:=λ e=>by
  rcases hi.j8 with⟨e2,_⟩|⟨_,e2⟩
  ·rw[e] at e2;cases e2
  ·obtain⟨c,h1,_,_⟩:=hi.wk.vF (Nat.le_refl 64) hT (by omega)
   refine⟨hT,⟨N-x.got.length,by show 1<=N-x.got.length;omega,M9 e2 h1 (by omega)⟩,hN,Nat.le_refl 1,?_⟩
   show(x.L.map aP.c).length<=_/\_
   rw[List.length_map]
   exact hsz
 refine enter Tryz.func68 Tryz.ntmps68 rfl rfl (cA hs) ?_
 simp only[cD]
 refine mJ ?_;refine oU ?_
 refine aZ (λ c6=>?_) (λ c6=>?_)
 ·have ed:dn=false:=by simpa using c6
  subst ed
  refine Aa ?_;refine aD (cM (hs:=xH k bx bm x false rs) (os:=xW x) (A0:=aM x.L) (hA:=bE.of λ f hf=>.inr (.inl (hA f hf))) (hc:=λ w hs=>N3 (N:=N) (n:=n) (m:=m) 1 (hg rfl) hi.wk hgN hk hn hm em ht ha hb hnn (λ f hf=>hf) hi.ok hs)) (λ x8 h8=>?_);refine aH ?_
  refine Dt Tryz.results68 (λ w hw=>?_)
  first
  | exact⟨x8,rfl,.inr ⟨rfl,h8⟩,by rw[List.append_nil] at hw;exact hw.aV (hF:=by exact aW.all)⟩
  | exact⟨(x,[],true,rs),rfl,.inl ⟨by simpa using c6,rfl⟩,by rw[show dn=true from by simpa using c6] at hw;exact hw.aV (hF:=by exact aW.nil)⟩
 ·refine aX ?_
  refine Dt Tryz.results68 (λ w hw=>?_)
  first
  | exact⟨(x,[],true,rs),rfl,.inl ⟨by simpa using c6,rfl⟩,by rw[show dn=true from by simpa using c6] at hw;exact hw.aV (hF:=by exact aW.nil)⟩
end
end

/- Executions of the reference: the start. -/
end Go.Proofs.YtbajmaoegmbfgaaGreat
namespace Go.Ct
section
open Go Go.RowKit
def XS.new(L:List aP)(cs:List Int)(gen acc:Int)(pn:Option Addr)(cn:Nat)(pc:Option Addr)(cc:Nat):XS:=⟨L,cs,gen,acc,pn,cn,pc,cc,[],[],[],[],none,0,none,0,none,0,none,0,0,0,0,0,0,false,Ac.zero⟩
end
end Go.Ct
namespace Go.Proofs.YtbajmaoegmbfgaaGreat
section
open Go Go.RowKit Go.Ct
section
variable{k:Cl}{bm:Nat}{L:List aP}{cs:List Int}{gen acc:Int}{pn pc:Option Addr}{cn cc:Nat}{D:List Nat}{A:Fr}{w:World}
theorem ob{m n N:Nat}(hT:bT (kT k (lY k.key m) n) N 64)(hN:N<=1073741824)(hsz:L.length<=137438953472/\cs.length<=137438953472/\gen<=137438953472)(hk:gu k)(hn:n<=1073741824)(hm:m<18446744073709551616)(em:k.mask=(m:Int))(ht:k.t.root<=9223372036854775807)(ha:k.a<=L.length)(hb:k.b<=L.length)(hnn:k.n<=L.length)(hA:∀f∈aM L,f∈A)(ok:(XS.new L cs gen acc pn cn pc cc).Ok)(hs:SF w D [(bm,mO L cs gen acc pn cn pc cc)] A [] [⟨pn,iY L,cn,47,14⟩,⟨pc,aG cs,cc,37,1⟩] w)(hN0:N=0:=by rfl):Calls Tryz.prog 49 #[.pointer (some ⟨bm,0,none⟩),.agg ⟨Qo k⟩] w λ e w'=>∃q:Nat×XS×List aP×Bool×Rs,e=.returned (.pointer (some ⟨q.1,0,none⟩))/\zB (kT k (lY k.key m) n) (kT k (lY k.key m) n) 0 N Rs.zero (XS.new L cs gen acc pn cn pc cc) q.2.1 q.2.2.1 q.2.2.2.1 q.2.2.2.2/\SF w D (xH k q.1 bm q.2.1 q.2.2.2.1 q.2.2.2.2) [] (aM q.2.2.1) (xW q.2.1) w':=by
 have hg:Gx.Ok ⟨kT k (lY k.key m) n,kT k (lY k.key m) n,(XS.new L cs gen acc pn cn pc cc).mm,0,N⟩:=⟨hT,⟨N,Nat.zero_le _,hT⟩,hN,Nat.zero_le _,by
  show(L.map aP.c).length<=_/\_
  rw[List.length_map]
  exact hsz⟩
 refine enter Tryz.func49 Tryz.ntmps49 rfl rfl ((((hs.kH 3 1).kH 27 1).kH 37 1).kH 37 1) ?_
 simp only[cD]
 refine J0 ?_;refine bK (λ x3=>?_);refine J1 ?_;refine J2 ?_;refine aC (aR (k:=25) (vs:=Qo k) rf cX eP rfl rfl) rfl ?_;refine bM ?_;refine bK (λ x9=>?_);refine J1 ?_;refine J2 ?_;refine aD (cM (hs:=xH k x9 bm (XS.new L cs gen acc pn cn pc cc) false Rs.zero) (os:=xW (XS.new L cs gen acc pn cn pc cc)) (A0:=aM L) (hA:=bE.of λ f hf=>.inr (.inl (hA f hf))) (hc:=λ w hs=>N3 (N:=N) (n:=n) (m:=m) 0 hg (Wk.nil _) hN0.symm hk hn hm em ht ha hb hnn (λ f hf=>hf) ok hs)) (λ x11 h11=>?_);refine aH ?_;refine J2 ?_;refine J1 ?_
 refine aQ Tryz.results49 (λ w hw=>?_)
 exact⟨(x9,x11.1,x11.2.1,x11.2.2.1,x11.2.2.2),rfl,h11,by rw[List.append_nil] at hw;exact hw.aV (hF:=by exact aW.all)⟩
end
end

/- The trees are never stuck within as many accesses as they have fuel: single procedures. -/
section
open Go Go.RowKit Go.Ct
theorem w3:∀{t:Tr} {n c c':Nat},c<=c'->bT t n c->bT t n c':=by
 intro t
 induction t with
 | done r=>intros;simp[bT]
 | stuck=>intro n c c' _ h;simp[bT] at h
 | load r k ih =>
  intro n c c' _ h
  cases n with
  | zero=>simp[bT]
  | succ n=>simpa only[bT] using h
 | jP r o m k ih =>
  intro n c c' _ h
  cases n with
  | zero=>simp[bT]
  | succ n=>simpa only[bT] using h
 | alloc r o k ih =>
  intro n c c' hc h
  cases c with
  | zero=>simp[bT] at h
  | succ c =>
   cases c' with
   | zero=>omega
   | succ c'=>simp only[bT] at h ⊢;exact λ v=>ih v (by omega) (h v)
 | cell r k ih =>
  intro n c c' hc h
  cases c with
  | zero=>simp[bT] at h
  | succ c =>
   cases c' with
   | zero=>omega
   | succ c'=>simp only[bT] at h ⊢;exact λ v=>ih v (by omega) (h v)
 | gen k ih =>
  intro n c c' hc h
  cases c with
  | zero=>simp[bT] at h
  | succ c =>
   cases c' with
   | zero=>omega
   | succ c'=>simp only[bT] at h ⊢;exact λ v=>ih v (by omega) (h v)
 | node r k ih =>
  intro n c c' hc h
  cases c<;>cases c'<;>simp only[bT] at h ⊢ <;> exact λ v=>ih v (by omega) (h v)
section
variable{n c:Nat}
theorem pJ{a:Int}{k:Int->Tr}(h:∀n',n'<n->∀v,bT (k v) n' 64):bT (.load a k) n c:=by
 cases n with
 | zero=>simp[bT]
 | succ n=>simp only[bT];exact h n (Nat.lt_succ_self n)
theorem Cu{a o m:Int}{k:Bool->Tr}(h:∀n',n'<n->∀v,bT (k v) n' 64):bT (.jP a o m k) n c:=by
 cases n with
 | zero=>simp[bT]
 | succ n=>simp only[bT];exact h n (Nat.lt_succ_self n)
theorem L6{a:Nv}{i:Int}{k:Int->Tr}(h:∀v,bT (k v) n c):bT (.alloc a i k) n (c+1):=by simp only[bT];exact h
theorem v7{i:Int}{k:Int->Tr}(h:∀v,bT (k v) n c):bT (.cell i k) n (c+1):=by simp only[bT];exact h
theorem z9{k:Int->Tr}(h:∀v,bT (k v) n c):bT (.gen k) n (c+1):=by simp only[bT];exact h
theorem cK{r:Int}{k:Nv->Tr}(h:∀v,bT (k v) n c):bT (.node r k) n c:=by
 cases c<;>simp only[bT]<;>exact h
abbrev Ib{X:Type}(K:X->Tr)(n:Nat):Prop:=∀n',n'<n->∀v,bT (K v) n' 64
theorem Ib.lt{X:Type}{K:X->Tr}{m:Nat}(h:Ib K n)(hm:m<=n):Ib K m:=λ n' h' v=>h n' (by omega) v
theorem ia{v s:Int}{K:Int->Tr}(h:∀w,bT (K w) n c):bT (vg v s K) n c:=cK λ _=>h _
theorem vJ{t:fG}{v s:Int}{K:Int->Tr}(h:Ib K n):bT (uF t v s K) n c:=ia λ _=>Cu λ n' hn _=>h n' hn _
theorem W3{t:fG}{K:Int->Tr}(h:Ib K n):bT (yK t K) n c:=pJ λ n1 h1 v=>cK λ nv=>by
 split
 ·exact h n1 h1 v
 ·exact cK λ _=>pJ λ n2 h2 s=>by
   split
   ·exact cK λ _=>Cu λ n3 h3 _=>cK λ _=>pJ λ n4 h4 _=>vJ (h.lt (by omega))
   ·exact vJ (h.lt (by omega))
theorem Ou{i m p:Int}{K:Int->Tr}(h:Ib K n):bT (Bm i m p K) n c:=cK λ _=>cK λ _=>Cu λ n' hn _=>cK λ _=>h n' hn _
theorem zV{i m:Int}{K:Int->Tr}(h:Ib K n):bT (jF i m K) n c:=cK λ _=>pJ λ n1 h1 p=>by
 split
 ·exact h n1 h1 _
 ·exact Ou (h.lt (by omega))
theorem Ju{i m p:Int}{b:Bool}{K:Int->Tr}(h:Ib K n)(hc:1<=c):bT (gP i m p b K) n c:=by
 unfold gP
 split
 ·exact cK λ _=>Cu λ n1 h1 _=>zV (h.lt (by omega))
 ·obtain⟨c,rfl⟩:∃d,c=d+1:=⟨c-1,by omega⟩
  exact cK λ _=>L6 λ _=>Cu λ n1 h1 _=>zV (h.lt (by omega))
theorem Cm{t:fG}{i m:Int}{K:Int->Tr}(h:Ib K n):bT (nP t i m K) n c:=cK λ _=>pJ λ n1 h1 p=>by
 split
 ·exact h n1 h1 _
 ·refine cK λ _=>?_
  split
  ·split
   ·exact Ju (h.lt (by omega)) (by decide)
   ·exact W3 λ n2 h2 _=>cK λ _=>cK λ _=>Ju (h.lt (by omega)) (by decide)
  ·exact Ou (h.lt (by omega))
theorem gX{t:fG}{i:Int}{K:Int->Tr}(h:Ib K n):bT (jR t i K) n c:=cK λ _=>pJ λ n1 h1 _=>Cm (h.lt (by omega))
theorem Cn{t:fG}{v:Int}{K:Tr}(h:∀n',n'<n->bT K n' 64):bT (zN t v K) n c:=cK λ _=>gX λ n1 h1 _=>cK λ _=>cK λ _=>Cu λ n2 h2 _=>h n2 (by omega)
theorem oZ{t:fG}{K:Int->Tr}(h:Ib K n):bT (xX t K) n c:=pJ λ n1 h1 v=>cK λ nv=>by
 split
 ·exact h n1 h1 v
 ·exact cK λ _=>pJ λ n2 h2 s=>by
   split
   ·exact Cn λ n3 h3=>cK λ _=>pJ λ n4 h4 _=>vJ (h.lt (by omega))
   ·exact vJ (h.lt (by omega))
theorem jZ{t:fG}{i o m:Int}{K:Bool->Tr}(h:Ib K n):bT (jD t i o m K) n c:=cK λ _=>Cu λ n1 h1 b=>by
 split
 ·exact Cm λ n2 h2 _=>h n2 (by omega) _
 ·exact h n1 h1 _
theorem yQ{t:fG}{o e m:Int}{K:Bool->Tr}(h:Ib K n)(hc:1<=c):bT (Bq t o e m K) n c:=by
 obtain⟨c,rfl⟩:∃d,c=d+1:=⟨c-1,by omega⟩
 exact L6 λ _=>Cu λ n1 h1 b=>by
  split
  ·exact Cn λ n2 h2=>cK λ _=>pJ λ n3 h3 _=>vJ λ n4 h4 _=>h n4 (by omega) _
  ·exact h n1 h1 _
end
end

/- The trees are never stuck within as many accesses as they have fuel: calls. -/
section
open Go Go.RowKit Go.Ct
section
variable{n c:Nat}
theorem fM{a:Nv}{i:Int}{k:Int->Tr}(hc:1<=c)(h:∀v,bT (k v) n (c-1)):bT (.alloc a i k) n c:=by
 obtain⟨c,rfl⟩:∃d,c=d+1:=⟨c-1,by omega⟩
 exact L6 h
theorem B7{a i r:Int}{K:Int->Tr}(hc:1<=c)(h:∀v,bT (K v) n (c-1)):bT (Ht a i r K) n c:=cK λ _=>fM hc h
theorem Se{t:fG}{i o x:Int}{K:Int->Tr}(h:Ib K n):bT (Kt t i o x K) n c:=cK λ _=>gX λ n1 h1 _=>cK λ _=>fM (by decide) λ _=>B7 (by decide) λ _=>jZ λ n2 h2 _=>h n2 (by omega) _
theorem zD{t:fG}{p o:Int}{h0:Nat}{l:Int}{K:Bool->Tr}(h:Ib K n):bT (yX t p o h0 l K) n c:=gX λ n1 h1 _=>cK λ _=>by
 split
 ·exact gX λ n2 h2 _=>cK λ _=>by
   split
   ·exact fM (by decide) λ _=>cK λ _=>fM (by decide) λ _=>jZ λ n3 h3 _=>h n3 (by omega) _
   ·exact h n2 (by omega) _
 ·exact h n1 h1 _
theorem Iu{t:fG}{h0:Nat}{key:ByteArray}{K:Rs->Tr}:∀(q n c:Nat) (i level:Int),n<q->Ib K n->bT (Dg t h0 key K q i level) n c
 | 0,n,c,i,level,hq,_=>absurd hq (Nat.not_lt_zero n)
 | q+1,n,c,i,level,hq,h=>gX λ n1 h1 _=>cK λ _=>by
  split
  ·split<;>exact h n1 h1 _
  ·split
   ·exact h n1 h1 _
   ·split
    ·exact h n1 h1 _
    ·exact cK λ _=>by
      split
      ·split<;>exact h n1 h1 _
      ·exact Iu q n1 64 _ _ (by omega) (h.lt (by omega))
theorem Nk:∀(l:List NI) (r:Int) (K:Int->Tr) (n c:Nat),l.length<=c->(∀v,bT (K v) n (c-l.length))->bT (Ak l r K) n c
 | [],r,K,n,c,_,h=>h r
 | a::l,r,K,n,c,hc,h=>by
  have hc':l.length+1<=c:=by simpa using hc
  exact fM (by omega) λ v=>Nk l v K n (c-1) (by omega) (λ u=>by have:=h u;rw[List.length_cons] at this;rwa [show c-1-l.length=c-(l.length+1) by omega])
theorem W6{k:Cl}{b:Int}{h0 level:Nat}{gen:Int}{K:Int->Tr}(hc:32<=c)(h:∀v,bT (K v) n (c-32)):bT (Ud k b h0 level gen K) n c:=cK λ nb=>fM (by omega) λ f=>by
 have hl:(dP b nb.hash.toNat h0 (nb.key,nb.val) k.key k.val gen f.toNat level).tail.length<=31:=by
  have h1:=Rv (x:=b) (h0:=nb.hash.toNat) (h:=h0) (p0:=(nb.key,nb.val)) (k:=k.key) (u:=k.val) (gen:=gen) (f:=f.toNat) (kW nb.hash.toNat h0-level) (kW nb.hash.toNat h0-(kW nb.hash.toNat h0-level))
  have h2:=yZ nb.hash.toNat h0
  rw[List.length_tail]
  unfold dP
  omega
 exact Nk _ _ _ _ _ (by omega) λ v=>w3 (by omega) (h v)
theorem Kp{k:Cl}{i m:Int}{h0 level:Nat}{gen:Int}{K:Rs->Int->Tr}(h:∀n',n'<=n->∀r w,bT (K r w) n' 64):bT (lV k i m h0 level gen K) n 64:=cK λ nb=>by
 split
 ·split
  ·exact fM (by decide) λ _=>jZ λ n1 h1 _=>h n1 (by omega) _ _
  ·exact h n (Nat.le_refl n) _ _
 ·split
  ·split
   ·exact fM (by decide) λ _=>fM (by decide) λ _=>jZ λ n1 h1 _=>h n1 (by omega) _ _
   ·exact h n (Nat.le_refl n) _ _
  ·refine cK λ _=>?_
   split
   ·exact h n (Nat.le_refl n) _ _
   ·split
    ·split
     ·exact fM (by decide) λ _=>B7 (by decide) λ _=>jZ λ n1 h1 _=>h n1 (by omega) _ _
     ·exact h n (Nat.le_refl n) _ _
    ·split
     ·exact W6 (by decide) λ _=>fM (by decide) λ _=>B7 (by decide) λ _=>jZ λ n1 h1 _=>h n1 (by omega) _ _
     ·exact h n (Nat.le_refl n) _ _
theorem Hj{k:Cl}{i m x gen:Int}{K:Int->Tr}(h:∀n',n'<=n->∀v,bT (K v) n' 64):bT (Ep k i m x gen K) n 64:=cK λ _=>cK λ _=>by
 split
 ·exact h n (Nat.le_refl n) _
 ·exact Se λ n1 h1 _=>h n1 (by omega) _
theorem Ev{k:Cl}{h0:Nat}{K:Rs->Tr}{again:Tr}{gen:Int}:∀(q n c:Nat) (i parent:Int) (level:Nat),n<q->Ib K n->(∀n',n'<n->bT again n' 64)->bT (Cr k h0 K again gen q i parent level) n c
 | 0,n,c,i,p,level,hq,_,_=>absurd hq (Nat.not_lt_zero n)
 | q+1,n,c,i,p,level,hq,h,ha=>gX λ n1 h1 _=>cK λ _=>by
  split
  ·exact zD λ n2 h2 _=>ha n2 (by omega)
  ·refine Kp λ n2 h2 r w=>?_
   split
   ·exact h n2 (by omega) _
   ·split
    ·exact ha n2 (by omega)
    ·refine Hj λ n3 h3 v=>?_
     split
     ·exact ha n3 (by omega)
     ·exact Ev q n3 64 _ _ _ (by omega) (h.lt (by omega)) (λ n4 h4=>ha n4 (by omega))
theorem Na{k:Cl}{h0:Nat}{K:Rs->Tr}:∀(q n c:Nat),n<q->Ib K n->bT (Ew k h0 K q) n c
 | 0,n,c,hq,_=>absurd hq (Nat.not_lt_zero n)
 | q+1,n,c,hq,h=>oZ λ n1 h1 _=>cK λ _=>Ev q n1 64 _ _ _ (by omega) (h.lt (by omega)) (λ n2 h2=>Na q n2 64 (by omega) (h.lt (by omega)))
theorem Ij{k:Cl}{i m:Int}{h0 level:Nat}{K:Rs->Int->Tr}(h:∀n',n'<=n->∀r w,bT (K r w) n' 64):bT (kE k i m h0 level K) n 64:=cK λ nb=>by
 split
 ·split
  ·exact h n (Nat.le_refl n) _ _
  ·exact fM (by decide) λ _=>jZ λ n1 h1 _=>h n1 (by omega) _ _
 ·split
  ·exact h n (Nat.le_refl n) _ _
  ·refine cK λ _=>?_
   split
   ·exact h n (Nat.le_refl n) _ _
   ·split
    ·exact h n (Nat.le_refl n) _ _
    ·split
     ·exact h n (Nat.le_refl n) _ _
     ·exact cK λ _=>fM (by decide) λ _=>jZ λ n1 h1 _=>h n1 (by omega) _ _
theorem Tz{t:fG}{path:List Int}{h0:Nat}{K:Tr}:∀(l n:Nat),(∀n',n'<=n->bT K n' 64)->bT (tc t path h0 K l) n 64
 | 0,n,h=>h n (Nat.le_refl n)
 | l+1,n,h=>gX λ n1 h1 _=>cK λ _=>by
  split
  ·exact zD λ n2 h2 _=>Tz l n2 (λ n3 h3=>h n3 (by omega))
  ·exact h n1 (by omega)
theorem Cs{k:Cl}{h0:Nat}{K:Rs->Tr}{again:Tr}{gen:Int}:∀(q n c:Nat) (i:Int) (path:List Int) (level:Nat),n<q->Ib K n->(∀n',n'<n->bT again n' 64)->bT (vX k h0 K again gen q i path level) n c
 | 0,n,c,i,p,level,hq,_,_=>absurd hq (Nat.not_lt_zero n)
 | q+1,n,c,i,p,level,hq,h,ha=>gX λ n1 h1 _=>cK λ _=>by
  split
  ·exact zD λ n2 h2 _=>ha n2 (by omega)
  ·refine Ij λ n2 h2 r w=>?_
   split
   ·split
    ·exact Tz _ _ λ n3 h3=>h n3 (by omega) _
    ·exact h n2 (by omega) _
   ·split
    ·exact ha n2 (by omega)
    ·refine Hj λ n3 h3 v=>?_
     split
     ·exact ha n3 (by omega)
     ·exact Cs q n3 64 _ _ _ (by omega) (h.lt (by omega)) (λ n4 h4=>ha n4 (by omega))
theorem Ke{k:Cl}{h0:Nat}{K:Rs->Tr}:∀(q n c:Nat),n<q->Ib K n->bT (vY k h0 K q) n c
 | 0,n,c,hq,_=>absurd hq (Nat.not_lt_zero n)
 | q+1,n,c,hq,h=>oZ λ n1 h1 _=>cK λ _=>Cs q n1 64 _ _ _ (by omega) (h.lt (by omega)) (λ n2 h2=>Ke q n2 64 (by omega) (h.lt (by omega)))
theorem Mi{i:Int}{k:Int->Tr}(hc:1<=c)(h:∀v,bT (k v) n (c-1)):bT (.cell i k) n c:=by
 obtain⟨c,rfl⟩:∃d,c=d+1:=⟨c-1,by omega⟩
 exact v7 h
theorem S7{k:Int->Tr}(hc:1<=c)(h:∀v,bT (k v) n (c-1)):bT (.gen k) n c:=by
 obtain⟨c,rfl⟩:∃d,c=d+1:=⟨c-1,by omega⟩
 exact z9 h
theorem kD{r:Rs}:bT (.done r) n c:=by simp[bT]
theorem Jf{m:Int}:bT (Oi m .done) n 64:=S7 (by decide) λ _=>fM (by decide) λ _=>Mi (by decide) λ _=>kD
theorem Jm{t:fG}{fz:Bool}:∀(q n c:Nat),n<q->bT (Jo t fz .done q) n c
 | 0,n,c,hq=>absurd hq (Nat.not_lt_zero n)
 | q+1,n,c,hq=>oZ λ n1 h1 _=>gX λ n2 h2 _=>S7 (by decide) λ _=>fM (by decide) λ _=>yQ (λ n3 h3 b=>by
  split
  ·split
   ·exact Mi (by decide) λ _=>kD
   ·exact Jf
  ·exact Jm q n3 64 (by omega)) (by decide)
theorem He{t:fG}{fz:Bool}{q:Nat}(h:n<q):bT (sO t fz .done q) n c:=by
 unfold sO
 split
 ·exact pJ λ n1 h1 _=>by
   split
   ·exact Mi (by decide) λ _=>kD
   ·exact gX λ n2 h2 _=>Jf
 ·exact Jm q n c h
theorem Gw{t:fG}:∀(q n c:Nat),n<q->bT (yV t .done q) n c
 | 0,n,c,hq=>absurd hq (Nat.not_lt_zero n)
 | q+1,n,c,hq=>oZ λ n1 h1 _=>gX λ n2 h2 _=>fM (by decide) λ _=>S7 (by decide) λ _=>fM (by decide) λ _=>yQ (λ n3 h3 b=>by
  split
  ·exact kD
  ·exact Gw q n3 64 (by omega)) (by decide)
theorem I8{k:Cl}{h0 q:Nat}(h:n<q):bT (kT k h0 q) n 64:=by
 have hd:∀{X:Type} {K:X->Rs},Ib (λ v=>Tr.done (K v)) n:=λ _ _ _=>kD
 unfold kT
 split
 ·exact kD
 split
 ·exact gX hd
 split
 ·exact jZ hd
 split
 ·exact oZ hd
 split
 ·exact yQ hd (by decide)
 split
 ·exact oZ λ n1 h1 _=>Iu q n1 64 _ _ (by omega) (λ _ _ _=>kD)
 split
 ·exact Na q n 64 h (λ _ _ _=>kD)
 split
 ·exact Ke q n 64 h (λ _ _ _=>kD)
 split
 ·exact He h
 split
 ·exact He h
 ·exact Gw q n 64 h
end
end

/- Worlds: lists of tries and of executions; the smallest functions. -/
end Go.Proofs.YtbajmaoegmbfgaaGreat
namespace Go.Ct
section
open Go Go.RowKit
section
variable{P:Program}{S:List (Nat×Value)}{d:Nat}{ty t t' e:TypeId}{pos:String}{af:Array Edge}{gd:Option (Nat×Bool)}{x y:Operand}{w0 w:World}{M:List Nat}{H:List (Nat×Obj)}{A F:Fr}{O:List Ow}{a:Option Addr}
theorem s4{cs:List Value}{kk:IntKind}{m c k:Nat}(hx:ev S x=.slice a m c)(hy:ev S y=.int kk ((k:Nat):Int))(ht:P.underlying t=some (.slice e))(hs:one P e=true)(hf:pK A F O a cs)(h1:k<m)(h2:k<cs.length) :
  aL P S (SF w0 M H A F O) ⟨some d,.indexAddr t x y,ty,pos,af,gd⟩ (.pointer (some ⟨cJ a,eA a+k,none⟩)):=⟨λ w hw =>
 (Ai (G:=SF w0 M H A F O) hx hy ht hs ((hw.cl hf).ptr (by omega)) h1).run w hw⟩
theorem s8{cs:List Value}{q:Nat}{v:Value}(hx:ev S x=.pointer (some ⟨cJ a,eA a+q,none⟩))(ht:one P t=true)(hf:pK A F O a cs)(hq:cs[q]?=some v) :
  aL P S (SF w0 M H A F O) ⟨some d,.load t x,ty,pos,af,gd⟩ v:=nL hx ht (λ w hw=>hw.cl hf) hq
theorem Px{cs:List Value}{kk:IntKind}{m c k:Nat}(hx:ev S x=.slice a m c)(hy:ev S y=.int kk ((k:Nat):Int))(ht:P.underlying t=some (.slice e))(hs:jM P e 2=true)(hf:pK A F O a cs)(h1:k<m)(h2:2*k<cs.length) :
  aL P S (SF w0 M H A F O) ⟨some d,.indexAddr t x y,ty,pos,af,gd⟩ (.pointer (some ⟨cJ a,eA a+2*k,none⟩)):=⟨λ w hw =>
 (Pg (G:=SF w0 M H A F O) hx hy ht hs ((hw.cl hf).ptr (by omega)) h1).run w hw⟩
end
end
end Go.Ct
namespace Go.Proofs.YtbajmaoegmbfgaaGreat
section
open Go Go.RowKit Go.Ct
def tB(ts:List fG):List Value:=ts.flatMap λ t=>[.int .i64 t.root,.bool t.ro]
def zQ(es:List Nat):List Value:=es.map λ b=>.pointer (some ⟨b,0,none⟩)
theorem lD:∀ts:List fG,(tB ts).length=ts.length*2
 | []=>rfl
 | t::ts=>by
  have:=lD ts
  simp only[tB,List.flatMap_cons,List.length_append,List.length_cons,List.length_nil] at this ⊢
  omega
theorem Zy(ts:List fG)(t:fG):tB (ts++[t])=tB ts++[.int .i64 t.root,.bool t.ro]:=by simp[tB]
theorem ax(es:List Nat)(b:Nat):zQ (es++[b])=zQ es++[.pointer (some ⟨b,0,none⟩)]:=by simp[zQ]
theorem En(es:List Nat):(zQ es).length=es.length:=by simp[zQ]
theorem G9:dL Tryz.prog 32 29 [.int .i64 0,.bool false]:=mG (z:=.agg ⟨[.int .i64 0,.bool false]⟩) (by kernel_rfl) (by kernel_rfl) rfl
theorem M3:dL Tryz.prog 33 74 [.pointer none]:=mG (z:=.pointer none) (by kernel_rfl) (by kernel_rfl) rfl
theorem lr:dL Tryz.prog 169 31 [.int .u64 0]:=mG (z:=.int .u64 0) (by kernel_rfl) (by kernel_rfl) rfl
abbrev mF(bm:Nat)(mask:Int)(pt:Option Addr)(nt kt:Nat)(pe:Option Addr)(ne ke:Nat):Obj:=.cells ⟨[.pointer (some ⟨bm,0,none⟩),.int .u64 mask,.slice pt nt kt,.slice pe ne ke]⟩ 35 (0,0)
def Ap:List Int:=[18446744073709551615,0,1,64,63,4095,9223372036854775808,4032,3458764513820540928,18446744073709551615]
theorem xh{l:List Int}{a:Option Addr}{b c k:Nat}{w:World}(ht:nu w b a l c k) :
  Calls Tryz.prog 65 #[.pointer (some ⟨b,0,none⟩)] w λ e w' =>
  ∃v:Nat,e=.returned (.int .u64 (Ap.getD v 0))/\v<10/\SF w [b] ((b,Jw a l c (mM l k))::[]) [] [] [] w':=by
 refine enter Tryz.func65 Tryz.ntmps65 rfl rfl ht.start ?_
 simp only[cD]
 refine cP ?_;refine J0 ?_;refine aN ((by exact Li (λ _=>cN (cs:=Ap.map (Value.int .u64)) lr Je rfl rfl rfl rfl rfl))) (λ x3=>?_);refine aA ?_;refine aD (vC (hc:=λ w1 hw=>eL 10 (hw.tape cX fin ht.len) (by decide) (by decide))) (λ x5 h5=>?_);refine aC (s4 (cs:=Ap.map (Value.int .u64)) rf rf gA fR fin (by omega) (by rw[List.length_map];simp only[Ap,List.length_cons,List.length_nil];omega)) rfl ?_;refine aC (s8 (cs:=Ap.map (Value.int .u64)) (v:=.int .u64 (Ap.getD x5 0)) rf fR fin (by rw[List.getElem?_map,jC,List.getElem?_eq_getElem (by simp only[Ap,List.length_cons,List.length_nil];omega)];rfl)) rfl ?_;refine J1 ?_
 refine aQ Tryz.results65 (λ w hw=>?_)
 exact⟨x5,rfl,by omega,hw.aV⟩
theorem wo{l:List Int}{a:Option Addr}{b c k:Nat}{w:World}(ht:nu w b a l c k) :
  Calls Tryz.prog 53 #[.pointer (some ⟨b,0,none⟩)] w λ e w' =>
  ∃v:Bool,e=.returned (.bool v)/\True/\SF w [b] ((b,Jw a l c k)::[]) [] [] [] w':=by
 refine enter Tryz.func53 Tryz.ntmps53 rfl rfl ht.start ?_
 simp only[cD]
 refine Ha ?_;refine gM [0,1,2,3,4,5,6,7,8,9,10] ?_;refine D2 ?_;refine nV ?_;refine C1 ?_;refine J7 ?_
 refine aQ Tryz.results53 (λ w hw=>?_)
 exact⟨_,rfl,trivial,hw.aV⟩
end

/- Worlds: Create, keep. -/
section
open Go Go.RowKit Go.Ct
structure KQ where
 ts:List fG
 es:List Nat
 pt:Option Addr
 kt:Nat
 pe:Option Addr
 ke:Nat
def S2(dn:Bool)(rs:Rs)(bx:Nat)(ts:List fG)(es:List Nat)(q:KQ):Prop :=
 (dn=false/\q.es=es++[bx]/\q.ts=ts)∨(dn=true/\q.es=es/\(q.ts=ts∨(0<rs.root/\q.ts.length<=5/\q.ts=ts++[⟨rs.root,rs.ro⟩])))
section
variable{k:Cl}{bw bx bm:Nat}{x:XS}{dn:Bool}{rs:Rs}{D:List Nat}{A:Fr}{w:World}{mask:Int}{ts:List fG}{es:List Nat}{pt pe:Option Addr}{kt ke:Nat}
abbrev wL(ts:List fG)(es:List Nat)(pt:Option Addr)(kt:Nat)(pe:Option Addr)(ke:Nat):List Ow:=[⟨pt,tB ts,kt,29,2⟩,⟨pe,zQ es,ke,74,1⟩]
theorem aAb(h:SF w D ((bw,mF bm mask pt ts.length kt pe es.length ke)::xH k bx bm x dn rs) A [] (wL ts es pt kt pe ke++xW x) w) :
  SF w D [(bw,.cells ⟨[.pointer (some ⟨bm,0,none⟩),.int .u64 mask,.slice pt ts.length kt,.slice pe es.length ke]⟩ 35 (0,0)),(bx,xO k bm x dn rs),(bm,xM x)] A [] [⟨pt,tB ts,kt,29,2⟩,⟨pe,zQ es,ke,74,1⟩,⟨x.pg,aG x.got,x.kg,37,1⟩,⟨x.pm,aG x.made,x.km,37,1⟩,⟨x.pl,aG x.cel,x.kl,27,1⟩,⟨x.pe,aG x.gns,x.ke,3,1⟩,⟨x.pn,iY x.L,x.cn,47,14⟩,⟨x.pc,aG x.cs,x.cc,37,1⟩] w:=h
theorem xj(hts:ts.length<=1000)(hes:es.length<=1000)(hs:SF w D ((bw,mF bm mask pt ts.length kt pe es.length ke)::xH k bx bm x dn rs) A [] (wL ts es pt kt pe ke++xW x) w):Calls Tryz.prog 115 #[.pointer (some ⟨bw,0,none⟩),.pointer (some ⟨bx,0,none⟩)] w λ e w'=>∃q:KQ,e=.returned (.tuple #[])/\S2 dn rs bx ts es q/\SF w D ((bw,mF bm mask q.pt q.ts.length q.kt q.pe q.es.length q.ke)::xH k bx bm x dn rs) [] [] (wL q.ts q.es q.pt q.kt q.pe q.ke++xW x) w':=by
 refine enter Tryz.func115 Tryz.ntmps115 rfl rfl (aAb hs) ?_
 simp only[cD]
 refine J2 ?_;refine aD (cM (hs:=xH k bx bm x dn rs) (os:=xW x) (hc:=λ w hs=>Z4 hs)) (λ x6 h6=>?_);refine oU ?_
 refine aZ (λ c7=>?_) (λ c7=>?_)
 ·refine Ih ?_;refine dA ?_;refine J3 ?_;refine aA ?_;refine aN ((by exact Li (λ _=>cN (cs:=zQ [bx]) M3 Je rfl rfl rfl rfl rfl))) (λ x14=>?_);(refine aN (bC.eN (fN (sz:=1) (cs:=zQ es) rf rf (.tail .head) (by rw[En];omega) fin rfl rfl M3 rfl (by decide) gA (by omega)) uR) (λ x15=>?_);try (refine eR (λ h15=>?_)));refine Py ?_
  refine Dt Tryz.results115 (λ w hw=>?_)
  first
  | exact⟨⟨ts,es++[bx],pt,kt,x15.1,x15.2⟩,rfl,.inl ⟨by simpa using c7,rfl,rfl⟩,by dsimp only[wL];rw[ax,show(es++[bx]).length=es.length+1 by simp];exact hw.aV⟩
  | exact⟨⟨ts,es,pt,kt,pe,ke⟩,rfl,.inr ⟨by simpa using c7,rfl,.inl rfl⟩,hw.aV⟩
 ·refine J2 ?_;refine aD (cM (hs:=xH k bx bm x dn rs) (os:=xW x) (hc:=λ w hs=>dw hs)) (λ x19 h19=>?_);refine aJ (λ x4=>?_);refine J5 ?_;refine J0 ?_;refine aF ?_;refine J3 ?_;refine Db ?_;refine aA ?_
  (refine dX 24 (λ g24=>?_) (λ g24=>?_)<;>(first|refine aI ?_|(refine aE ?_;refine aA ?_)))
  all_goals ((first|refine aI ?_|(refine aE ?_;refine dA ?_));refine Rh ?_;refine ma ?_;refine aH ?_)
  all_goals
  refine aZ (λ c31=>?_) (λ c31=>?_)
  ·try exact nv c31
   all_goals (refine dZ [(0,[]),(1,[]),(2,[]),(3,[]),(4,[]),(5,[]),(6,[]),(7,[4]),(8,[]),(9,[]),(10,[]),(11,[])] ?_;refine W0 ?_;refine aU ?_;refine bU (i:=6) (hq:=(aR (k:=2) (vs:=[.int .i64 rs.root,.bool rs.ro]) rf cX eP rfl rfl)) (h:=?_);refine cL (i:=7) (hq:=((by exact Li (λ _=>cN (cs:=tB [⟨rs.root,rs.ro⟩]) G9 Je rfl rfl rfl rfl rfl)))) (h:=λ x39=>?_);((refine cL (i:=8) (hq:=(bC.eN (fN (sz:=2) (cs:=tB ts) rf rf .head (by rw[lD]) fin rfl rfl G9 rfl (by decide) gA (by omega)) uR)) (h:=λ x40=>?_);try (refine eG (λ h40=>?_))));refine yx ?_)
   all_goals
    refine Dt Tryz.results115 (λ w hw=>?_)
    first
    | exact⟨⟨ts++[⟨rs.root,rs.ro⟩],es,x40.1,x40.2,pe,ke⟩,rfl,.inr ⟨by simpa using c7,rfl,.inr ⟨by omega,by show(ts++[(⟨rs.root,rs.ro⟩:fG)]).length<=5;simp;omega,rfl⟩⟩,by dsimp only[wL];rw[Zy,show(ts++[(⟨rs.root,rs.ro⟩:fG)]).length=ts.length+1 by simp];exact hw.aV⟩
    | exact⟨⟨ts,es,pt,kt,pe,ke⟩,rfl,.inr ⟨by simpa using c7,rfl,.inl rfl⟩,hw.aV⟩
  ·all_goals refine aX ?_
   all_goals
    refine Dt Tryz.results115 (λ w hw=>?_)
    first
    | exact⟨⟨ts,es,pt,kt,pe,ke⟩,rfl,.inr ⟨by simpa using c7,rfl,.inl rfl⟩,hw.aV⟩
theorem k9(hts:ts.length<=1000)(hes:es.length<=1000)(hs:SF w D [(bw,mF bm mask pt ts.length kt pe es.length ke),(bx,xO k bm x dn rs),(bm,xM x)] A [] [⟨pt,tB ts,kt,29,2⟩,⟨pe,zQ es,ke,74,1⟩,⟨x.pg,aG x.got,x.kg,37,1⟩,⟨x.pm,aG x.made,x.km,37,1⟩,⟨x.pl,aG x.cel,x.kl,27,1⟩,⟨x.pe,aG x.gns,x.ke,3,1⟩,⟨x.pn,iY x.L,x.cn,47,14⟩,⟨x.pc,aG x.cs,x.cc,37,1⟩] w):Calls Tryz.prog 115 #[.pointer (some ⟨bw,0,none⟩),.pointer (some ⟨bx,0,none⟩)] w λ e w'=>∃q:KQ,e=.returned (.tuple #[])/\S2 dn rs bx ts es q/\SF w D [(bw,mF bm mask q.pt q.ts.length q.kt q.pe q.es.length q.ke),(bx,xO k bm x dn rs),(bm,xM x)] [] [] [⟨q.pt,tB q.ts,q.kt,29,2⟩,⟨q.pe,zQ q.es,q.ke,74,1⟩,⟨x.pg,aG x.got,x.kg,37,1⟩,⟨x.pm,aG x.made,x.km,37,1⟩,⟨x.pl,aG x.cel,x.kl,27,1⟩,⟨x.pe,aG x.gns,x.ke,3,1⟩,⟨x.pn,iY x.L,x.cn,47,14⟩,⟨x.pc,aG x.cs,x.cc,37,1⟩] w':=xj hts hes hs
end
end

end Go.Proofs.YtbajmaoegmbfgaaGreat

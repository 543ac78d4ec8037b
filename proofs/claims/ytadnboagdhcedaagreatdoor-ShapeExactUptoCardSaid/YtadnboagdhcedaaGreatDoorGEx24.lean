/- Executions of the reference: one repetition. -/
import Derived.Test.YtadnboagdhcedaaGreatDoorEx23
import Derived.Test.YtadnboagdhcedaaGreatDoorGRn1
import Derived.Test.YtadnboagdhcedaaGreatDoorGNode4

set_option linter.unusedSimpArgs false
set_option linter.unusedVariables false
namespace Go.Ct
section
open Go Go.RowKit
theorem nk{L:List Nv}{r:Rs}{gs ms cl gn:List Int}{R:Tr}(h:Wk L (.done r) gs ms cl gn R):gs=[]/\ms=[]/\cl=[]/\gn=[]/\R=.done r:=by
 cases h
 exact⟨rfl,rfl,rfl,rfl,rfl⟩
def XS.re(x:XS)(free:Nat):XS:={x with a:=0,m:=0,c:=0,g:=0,fr:=free,st:=false}
theorem aCo{T R:Tr}{x:XS}{free N:Nat}(hw:Wk x.nodes T x.got x.made x.cel x.gns R)(hN:x.got.length+free=N):gS ⟨T,R,x.mm,free,N⟩ (x.re free) T:=.inl ⟨rfl,R,⟨Wk.nil _,hw,by show Rc (free-free) R x.mm R x.mm;rw[Nat.sub_self];exact Rc.refl _ _,Nat.le_refl _,Nat.zero_le _,Nat.zero_le _,Nat.zero_le _,Nat.zero_le _,hN⟩⟩
structure C4(T R:Tr)(free N:Nat)(rs:Rs)(x x':XS)(N':List aI)(dn':Bool)(rs':Rs):Prop where
 ok:x'.Ok
 ext:x'.L=x.L++N'
 lc:x.cs.length<=x'.cs.length
 gl:x'.got.length<=N
 ml:(dn'=true/\∃j,j<=free/\x'.got.length+free=N+j/\Wk x'.nodes T x'.got x'.made x'.cel x'.gns (.done rs')/\Rc j R x.mm (.done rs') x'.mm)∨(dn'=false/\rs'=rs/\x'.got.length=N/\∃R',R'.acc=some x'.nx/\Wk x'.nodes T x'.got x'.made x'.cel x'.gns R'/\Rc free R x.mm R' x'.mm)
theorem Nx.vy{T R:Tr}{free N:Nat}{rs r:Rs}{x x':XS}{N':List aI}(h:Nx ⟨T,R,x.mm,free,N⟩ (x.re free) x' N' (.done r) 0)(hs:x'.st=false):C4 T R free N rs x x' N' true r:=by
 obtain⟨R',hR⟩:=h.go.run hs
 obtain⟨e1,e2,e3,e4,e5⟩:=nk hR.suf
 refine⟨h.ok,h.ext,h.lc,(by have:=hR.hN;show x'.got.length<=N;simp only at this;omega),.inl ⟨rfl,free-x'.fr,Nat.sub_le _ _,(by have:=hR.hN;have:=hR.hf;simp only at *;omega),?_,e5▸hR.rc⟩⟩;have hp:=hR.pre;rwa [List.take_of_length_le (List.drop_eq_nil_iff.1 e1),List.take_of_length_le (List.drop_eq_nil_iff.1 e2),List.take_of_length_le (List.drop_eq_nil_iff.1 e3),List.take_of_length_le (List.drop_eq_nil_iff.1 e4)] at hp
theorem Nx.uu{T R:Tr}{free N:Nat}{rs r:Rs}{x x':XS}{N':List aI}(h:Nx ⟨T,R,x.mm,free,N⟩ (x.re free) x' N' (.done r) 0)(hs:x'.st=true):C4 T R free N rs x x' N' false rs:=by
 rcases h.go with h1|h1
 ·rw[hs] at h1;exact nomatch h1.1
 ·obtain⟨R',hR⟩:=h1.2
  exact⟨h.ok,h.ext,h.lc,Nat.le_of_eq hR.hN,.inr ⟨rfl,rfl,hR.hN,R',hR.ac,hR.wk,hR.rc⟩⟩
end
end Go.Ct
namespace Go.Proofs.YtadnboagdhcedaaGreatDoor
section
open Go Go.RowKit Go.Ct
section
variable{k:Cl}{bx bm:Nat}{x:XS}{rs:Rs}{D:List Nat}{A:Fr}{w:World}
theorem Oy{m n N:Nat}{R:Tr}(free:Nat)(hg:Gx.Ok ⟨mH k (jW k.key m) n,R,x.mm,free,N⟩)(hwk:Wk x.nodes (mH k (jW k.key m) n) x.got x.made x.cel x.gns R)(hN:x.got.length+free=N)(hk:tw k)(hn:n<=1073741824)(hm:m<18446744073709551616)(em:k.mask=(m:Int))(ht:k.t.root<=9223372036854775807)(ha:k.a<=x.L.length)(hb:k.b<=x.L.length)(hnn:k.n<=x.L.length)(hA:∀f∈bD x.L,f∈A)(ok:x.Ok)(hs:SF w D (xH k bx bm x false rs) A [] (xW x) w):Calls Tryz.prog 50 #[.pointer (some ⟨bx,0,none⟩),.int .i64 (free:Int)] w λ e w'=>∃q:XS×List aI×Bool×Rs,e=.returned (.tuple #[])/\C4 (mH k (jW k.key m) n) R free N rs x q.1 q.2.1 q.2.2.1 q.2.2.2/\SF w D (xH k bx bm q.1 q.2.2.1 q.2.2.2) [] (bD q.2.1) (xW q.1) w':=by
 have hfr:=hg.hf;have ok0:(x.re free).Ok:=ok.vl rfl rfl rfl rfl rfl rfl (Nat.zero_le _) (Nat.zero_le _) (Nat.zero_le _) (Nat.zero_le _) hfr;refine enter Tryz.func50 Tryz.ntmps50 rfl rfl (cL hs) ?_;simp only[cP]
 refine jJ ?_;refine pK ?_;refine pK ?_;refine aB ?_;refine Ns ?_;refine eJ (by exact jI λ _=>bZ rf dI wn rf dC rf rf jX) (λ _=>?_);refine Ns ?_;refine eJ (by exact jI λ _=>bZ rf dI wn rf dC rf rf jX) (λ _=>?_);refine Ns ?_;refine eJ (by exact jI λ _=>bZ rf dI wn rf dC rf rf jX) (λ _=>?_);refine Ns ?_;refine eJ (by exact jI λ _=>bZ rf dI wn rf dC rf rf jX) (λ _=>?_);refine Ns ?_;refine eJ (by exact jI λ _=>bZ rf dI wn rf dC rf rf jX) (λ _=>?_);refine Ns ?_;refine eJ (by exact jI λ _=>bZ rf dI wn rf dC rf rf jX) (λ _=>?_);refine aK ?_;refine J2 ?_;refine aD (cM (hs:=xH k bx bm (x.re free) false rs) (os:=xW (x.re free)) (A0:=bD x.L) (hA:=bU.of λ f hf=>.inr (.inl (hA f hf))) (hc:=λ w hs=>aCn hg (x:=x.re free) n hk hn hm em ht ha hb hnn (λ f hf=>hf) (aCo hwk hN) ok0 hs)) (λ x25 h25=>?_);refine aT (λ x4=>?_);refine eJ (by exact(jI λ _=>eV rf dI rf rf dR rf jX)) (λ _=>?_);refine aK ?_;refine oR ?_;refine lA ?_;refine bA (λ c30=>?_) (λ c30=>?_)
 ·refine dZ [(0,[]),(1,[]),(2,[]),(3,[]),(4,[]),(5,[2]),(6,[]),(7,[]),(8,[])] ?_;refine iJ ?_;refine aZ ?_;refine J4 ?_;refine kW (i:=5) (hq:=(by exact jI λ _=>bZ rf dI wn rf dC rf rf jX)) (h:=λ _=>?_);refine J4 ?_;refine kW (i:=8) (hq:=(jI λ _=>rB (off:=41) (vs:=x25.1.cells) rf dI rf rfl dR (Nat.le_of_ble_eq_true rfl) rf jX)) (h:=λ _=>?_);refine dJ ?_;refine Hq Tryz.results50 (λ w hw=>?_);first
  | exact⟨(x25.2.1,x25.2.2,true,x25.1),rfl,h25.vy (by simpa using c30),by rw[List.append_nil] at hw;exact hw.zA0⟩
  | exact⟨(x25.2.1,x25.2.2,false,rs),rfl,h25.uu (by simpa using c30),by rw[List.append_nil] at hw;exact hw.zA0⟩
 ·refine bB ?_;refine Hq Tryz.results50 (λ w hw=>?_);first
  | exact⟨(x25.2.1,x25.2.2,true,x25.1),rfl,h25.vy (by simpa using c30),by rw[List.append_nil] at hw;exact hw.zA0⟩
  | exact⟨(x25.2.1,x25.2.2,false,rs),rfl,h25.uu (by simpa using c30),by rw[List.append_nil] at hw;exact hw.zA0⟩
end
end

/- Executions of the reference: steps. -/
end Go.Proofs.YtadnboagdhcedaaGreatDoor
namespace Go.Ct
section
open Go Go.RowKit
theorem Q5{R:Tr}{a:Ac}(h:R.acc=some a){n c:Nat}(ht:cN R n c)(hn:1<=n):cN R n 64:=by
 cases R<;>simp only[Tr.acc,reduceCtorEq] at h
 ·cases n with
  | zero=>omega
  | succ n=>simpa only[cN] using ht
 ·cases n with
  | zero=>omega
  | succ n=>simpa only[cN] using ht
structure ul(T:Tr)(x:XS)(dn:Bool)(rs:Rs)(R:Tr):Prop where
 ok:x.Ok
 wk:Wk x.nodes T x.got x.made x.cel x.gns R
 ml:(dn=true/\R=.done rs)∨(dn=false/\R.acc=some x.nx)
theorem C4.exI{T R:Tr}{free N:Nat}{rs rs':Rs}{x x':XS}{N':List aI}{dn':Bool}(h:C4 T R free N rs x x' N' dn' rs'):∃R' j,j<=free/\(dn'=false->j=free)/\ul T x' dn' rs' R'/\Rc j R x.mm R' x'.mm/\x'.L=x.L++N'/\x.cs.length<=x'.cs.length:=by
 rcases h.ml with⟨e,j,h1,_,h2,h3⟩|⟨e,_,_,R',h1,h2,h3⟩
 ·exact⟨_,j,h1,(λ h=>by rw[e] at h;cases h),⟨h.ok,h2,.inl ⟨e,rfl⟩⟩,h3,h.ext,h.lc⟩
 ·exact⟨R',free,Nat.le_refl _,λ _=>rfl,⟨h.ok,h2,.inr ⟨e,h1⟩⟩,h3,h.ext,h.lc⟩
end
end Go.Ct
namespace Go.Proofs.YtadnboagdhcedaaGreatDoor
section
open Go Go.RowKit Go.Ct
section
variable{k:Cl}{bx bm:Nat}{x:XS}{dn:Bool}{rs:Rs}{D:List Nat}{A:Fr}{w:World}
theorem dt(hs:SF w D (xH k bx bm x dn rs) A [] (xW x) w):Calls Tryz.prog 39 #[.pointer (some ⟨bx,0,none⟩)] w λ e w'=>∃q:Unit,e=.returned (.bool dn)/\True/\SF w D (xH k bx bm x dn rs) [] [] (xW x) w':=by
 refine enter Tryz.func39 Tryz.ntmps39 rfl rfl (cL hs) ?_;simp only[cP]
 refine cR ?_;refine oR ?_;refine J1 ?_;refine aR Tryz.results39 (λ w hw=>?_);exact⟨(),rfl,trivial,hw.aQ⟩
theorem ew(hs:SF w D (xH k bx bm x dn rs) A [] (xW x) w):Calls Tryz.prog 65 #[.pointer (some ⟨bx,0,none⟩)] w λ e w'=>∃q:Unit,e=.returned (.agg ⟨rs.cells⟩)/\True/\SF w D (xH k bx bm x dn rs) [] [] (xW x) w':=by
 refine enter Tryz.func65 Tryz.ntmps65 rfl rfl (cL hs) ?_;simp only[cP]
 refine J0 ?_;refine aT (λ x2=>?_);refine aK ?_;refine Ii ?_;refine aE (aW (k:=8) (vs:=rs.cells) rf dI dR rfl rfl) rfl ?_;refine J5 ?_;refine bK Tryz.results65 (λ w hw=>?_);exact⟨(),rfl,trivial,hw.aQ⟩
theorem eh{m n N:Nat}{R:Tr}(hT:cN (mH k (jW k.key m) n) N 64)(hN:N<=1073741824)(hgN:x.got.length+1=N)(hsz:x.L.length<=137438953472/\x.cs.length<=137438953472/\x.gen<=137438953472)(hi:ul (mH k (jW k.key m) n) x dn rs R)(hk:tw k)(hn:n<=1073741824)(hm:m<18446744073709551616)(em:k.mask=(m:Int))(ht:k.t.root<=9223372036854775807)(ha:k.a<=x.L.length)(hb:k.b<=x.L.length)(hnn:k.n<=x.L.length)(hA:∀f∈bD x.L,f∈A)(hs:SF w D (xH k bx bm x dn rs) A [] (xW x) w):Calls Tryz.prog 29 #[.pointer (some ⟨bx,0,none⟩)] w λ e w'=>∃q:XS×List aI×Bool×Rs,e=.returned (.tuple #[])/\((dn=true/\q=(x,[],true,rs))∨(dn=false/\C4 (mH k (jW k.key m) n) R 1 N rs x q.1 q.2.1 q.2.2.1 q.2.2.2))/\SF w D (xH k bx bm q.1 q.2.2.1 q.2.2.2) [] (bD q.2.1) (xW q.1) w':=by
 have hg:dn=false->Gx.Ok ⟨mH k (jW k.key m) n,R,x.mm,1,N⟩:=λ e=>by
  rcases hi.ml with⟨e2,_⟩|⟨_,e2⟩
  ·rw[e] at e2;cases e2
  ·obtain⟨c,h1,_,_⟩:=hi.wk.xB (Nat.le_refl 64) hT (by omega)
   refine⟨hT,⟨N-x.got.length,by show 1<=N-x.got.length;omega,Q5 e2 h1 (by omega)⟩,hN,Nat.le_refl 1,?_⟩
   show(x.L.map aI.c).length<=_/\_
   rw[List.length_map]
   exact hsz
 refine enter Tryz.func29 Tryz.ntmps29 rfl rfl (cL hs) ?_;simp only[cP]
 refine oR ?_;refine lA ?_;refine bA (λ c6=>?_) (λ c6=>?_)
 ·have ed:dn=false:=by simpa using c6
  subst ed;refine zT ?_;refine aD (cM (hs:=xH k bx bm x false rs) (os:=xW x) (A0:=bD x.L) (hA:=bU.of λ f hf=>.inr (.inl (hA f hf))) (hc:=λ w hs=>Oy (N:=N) (n:=n) (m:=m) 1 (hg rfl) hi.wk hgN hk hn hm em ht ha hb hnn (λ f hf=>hf) hi.ok hs)) (λ x8 h8=>?_);refine aK ?_;refine Hq Tryz.results29 (λ w hw=>?_);first
  | exact⟨x8,rfl,.inr ⟨rfl,h8⟩,by rw[List.append_nil] at hw;exact hw.zA0⟩
  | exact⟨(x,[],true,rs),rfl,.inl ⟨by simpa using c6,rfl⟩,by rw[show dn=true from by simpa using c6] at hw;exact hw.aQ (hF:=by exact aP.nil)⟩
 ·refine bB ?_;refine Hq Tryz.results29 (λ w hw=>?_);first
  | exact⟨(x,[],true,rs),rfl,.inl ⟨by simpa using c6,rfl⟩,by rw[show dn=true from by simpa using c6] at hw;exact hw.aQ (hF:=by exact aP.nil)⟩
end
end

/- Executions of the reference: the start. -/
end Go.Proofs.YtadnboagdhcedaaGreatDoor
namespace Go.Ct
section
open Go Go.RowKit
def XS.new(L:List aI)(cs:List Int)(gen acc:Int)(pn:Option Addr)(cn:Nat)(pc:Option Addr)(cc:Nat):XS:=⟨L,cs,gen,acc,pn,cn,pc,cc,[],[],[],[],none,0,none,0,none,0,none,0,0,0,0,0,0,false,Ac.zero⟩
end
end Go.Ct
namespace Go.Proofs.YtadnboagdhcedaaGreatDoor
section
open Go Go.RowKit Go.Ct
section
variable{k:Cl}{bm:Nat}{L:List aI}{cs:List Int}{gen acc:Int}{pn pc:Option Addr}{cn cc:Nat}{D:List Nat}{A:Fr}{w:World}
theorem qo{m n N:Nat}(hT:cN (mH k (jW k.key m) n) N 64)(hN:N<=1073741824)(hsz:L.length<=137438953472/\cs.length<=137438953472/\gen<=137438953472)(hk:tw k)(hn:n<=1073741824)(hm:m<18446744073709551616)(em:k.mask=(m:Int))(ht:k.t.root<=9223372036854775807)(ha:k.a<=L.length)(hb:k.b<=L.length)(hnn:k.n<=L.length)(hA:∀f∈bD L,f∈A)(ok:(XS.new L cs gen acc pn cn pc cc).Ok)(hs:SF w D [(bm,mO L cs gen acc pn cn pc cc)] A [] [⟨pn,fX L,cn,77,14⟩,⟨pc,aH cs,cc,62,1⟩] w)(hN0:N=0:=by rfl):Calls Tryz.prog 42 #[.pointer (some ⟨bm,0,none⟩),.agg ⟨Rt k⟩] w λ e w'=>∃q:Nat×XS×List aI×Bool×Rs,e=.returned (.pointer (some ⟨q.1,0,none⟩))/\C4 (mH k (jW k.key m) n) (mH k (jW k.key m) n) 0 N Rs.zero (XS.new L cs gen acc pn cn pc cc) q.2.1 q.2.2.1 q.2.2.2.1 q.2.2.2.2/\SF w D (xH k q.1 bm q.2.1 q.2.2.2.1 q.2.2.2.2) [] (bD q.2.2.1) (xW q.2.1) w':=by
 have hg:Gx.Ok ⟨mH k (jW k.key m) n,mH k (jW k.key m) n,(XS.new L cs gen acc pn cn pc cc).mm,0,N⟩:=⟨hT,⟨N,Nat.zero_le _,hT⟩,hN,Nat.zero_le _,by
  show(L.map aI.c).length<=_/\_
  rw[List.length_map]
  exact hsz⟩
 refine enter Tryz.func42 Tryz.ntmps42 rfl rfl ((((hs.kS 3 1).kS 27 1).kS 62 1).kS 62 1) ?_;simp only[cP]
 refine K1r ?_;intro x3;refine Ka6 ?_;refine aE (aW (k:=25) (vs:=Rt k) rf dI dR rfl rfl) rfl ?_;refine bQ ?_;refine bF (λ x9=>?_);refine Ka6 ?_;refine aD (cM (hs:=xH k x9 bm (XS.new L cs gen acc pn cn pc cc) false Rs.zero) (os:=xW (XS.new L cs gen acc pn cn pc cc)) (A0:=bD L) (hA:=bU.of λ f hf=>.inr (.inl (hA f hf))) (hc:=λ w hs=>Oy (N:=N) (n:=n) (m:=m) 0 hg (Wk.nil _) hN0.symm hk hn hm em ht ha hb hnn (λ f hf=>hf) ok hs)) (λ x11 h11=>?_);refine aK ?_;refine Ka5 ?_;refine aR Tryz.results42 (λ w hw=>?_);exact⟨(x9,x11.1,x11.2.1,x11.2.2.1,x11.2.2.2),rfl,h11,by rw[List.append_nil] at hw;exact hw.zA0⟩
end
end

/- The trees are never stuck within as many accesses as they have fuel: single procedures. -/
section
open Go Go.RowKit Go.Ct
theorem xp:∀{t:Tr} {n c c':Nat},c<=c'->cN t n c->cN t n c':=by
 intro t
 induction t with
 | done r=>intros;simp[cN]
 | stuck=>intro n c c' _ h;simp[cN] at h
 | load r k ih =>
  intro n c c' _ h
  cases n with
  | zero=>simp[cN]
  | succ n=>simpa only[cN] using h
 | rP r o m k ih =>
  intro n c c' _ h
  cases n with
  | zero=>simp[cN]
  | succ n=>simpa only[cN] using h
 | alloc r o k ih =>
  intro n c c' hc h
  cases c with
  | zero=>simp[cN] at h
  | succ c =>
   cases c' with
   | zero=>omega
   | succ c'=>simp only[cN] at h ⊢;exact λ v=>ih v (by omega) (h v)
 | cell r k ih =>
  intro n c c' hc h
  cases c with
  | zero=>simp[cN] at h
  | succ c =>
   cases c' with
   | zero=>omega
   | succ c'=>simp only[cN] at h ⊢;exact λ v=>ih v (by omega) (h v)
 | gen k ih =>
  intro n c c' hc h
  cases c with
  | zero=>simp[cN] at h
  | succ c =>
   cases c' with
   | zero=>omega
   | succ c'=>simp only[cN] at h ⊢;exact λ v=>ih v (by omega) (h v)
 | node r k ih =>
  intro n c c' hc h
  cases c<;>cases c'<;>simp only[cN] at h ⊢ <;> exact λ v=>ih v (by omega) (h v)
section
variable{n c:Nat}
theorem qE{a:Int}{k:Int->Tr}(h:∀n',n'<n->∀v,cN (k v) n' 64):cN (.load a k) n c:=by
 cases n with
 | zero=>simp[cN]
 | succ n=>simp only[cN];exact h n (Nat.lt_succ_self n)
theorem Eb{a o m:Int}{k:Bool->Tr}(h:∀n',n'<n->∀v,cN (k v) n' 64):cN (.rP a o m k) n c:=by
 cases n with
 | zero=>simp[cN]
 | succ n=>simp only[cN];exact h n (Nat.lt_succ_self n)
theorem Kr{a:Nv}{i:Int}{k:Int->Tr}(h:∀v,cN (k v) n c):cN (.alloc a i k) n (c+1):=by simp only[cN];exact h
theorem yq{i:Int}{k:Int->Tr}(h:∀v,cN (k v) n c):cN (.cell i k) n (c+1):=by simp only[cN];exact h
theorem aBX{k:Int->Tr}(h:∀v,cN (k v) n c):cN (.gen k) n (c+1):=by simp only[cN];exact h
theorem dD{r:Int}{k:Nv->Tr}(h:∀v,cN (k v) n c):cN (.node r k) n c:=by
 cases c<;>simp only[cN]<;>exact h
abbrev It{X:Type}(K:X->Tr)(n:Nat):Prop:=∀n',n'<n->∀v,cN (K v) n' 64
theorem It.lt{X:Type}{K:X->Tr}{m:Nat}(h:It K n)(hm:m<=n):It K m:=λ n' h' v=>h n' (by omega) v
theorem fo{v s:Int}{K:Int->Tr}(h:∀w,cN (K w) n c):cN (aAd v s K) n c:=dD λ _=>h _
theorem vM{t:iS}{v s:Int}{K:Int->Tr}(h:It K n):cN (Kt t v s K) n c:=fo λ _=>Eb λ n' hn _=>h n' hn _
theorem Yf{t:iS}{K:Int->Tr}(h:It K n):cN (Uy t K) n c:=qE λ n1 h1 v=>dD λ nv=>by
 split
 ·exact h n1 h1 v
 ·exact dD λ _=>qE λ n2 h2 s=>by
   split
   ·exact dD λ _=>Eb λ n3 h3 _=>dD λ _=>qE λ n4 h4 _=>vM (h.lt (by omega))
   ·exact vM (h.lt (by omega))
theorem Q6{i m p:Int}{K:Int->Tr}(h:It K n):cN (ku i m p K) n c:=dD λ _=>dD λ _=>Eb λ n' hn _=>dD λ _=>h n' hn _
theorem A5{i m:Int}{K:Int->Tr}(h:It K n):cN (vL i m K) n c:=dD λ _=>qE λ n1 h1 p=>by
 split
 ·exact h n1 h1 _
 ·exact Q6 (h.lt (by omega))
theorem Kk{i m p:Int}{b:Bool}{K:Int->Tr}(h:It K n)(hc:1<=c):cN (Gn i m p b K) n c:=by
 unfold Gn
 split
 ·exact dD λ _=>Eb λ n1 h1 _=>A5 (h.lt (by omega))
 ·obtain⟨c,rfl⟩:∃d,c=d+1:=⟨c-1,by omega⟩
  exact dD λ _=>Kr λ _=>Eb λ n1 h1 _=>A5 (h.lt (by omega))
theorem Dt{t:iS}{i m:Int}{K:Int->Tr}(h:It K n):cN (A4 t i m K) n c:=dD λ _=>qE λ n1 h1 p=>by
 split
 ·exact h n1 h1 _
 ·refine dD λ _=>?_;split
  ·split
   ·exact Kk (h.lt (by omega)) (by decide)
   ·exact Yf λ n2 h2 _=>dD λ _=>dD λ _=>Kk (h.lt (by omega)) (by decide)
  ·exact Q6 (h.lt (by omega))
theorem iK{t:iS}{i:Int}{K:Int->Tr}(h:It K n):cN (pA t i K) n c:=dD λ _=>qE λ n1 h1 _=>Dt (h.lt (by omega))
theorem D5{t:iS}{v:Int}{K:Tr}(h:∀n',n'<n->cN K n' 64):cN (B0 t v K) n c:=dD λ _=>iK λ n1 h1 _=>dD λ _=>dD λ _=>Eb λ n2 h2 _=>h n2 (by omega)
theorem pR{t:iS}{K:Int->Tr}(h:It K n):cN (zQ t K) n c:=qE λ n1 h1 v=>dD λ nv=>by
 split
 ·exact h n1 h1 v
 ·exact dD λ _=>qE λ n2 h2 s=>by
   split
   ·exact D5 λ n3 h3=>dD λ _=>qE λ n4 h4 _=>vM (h.lt (by omega))
   ·exact vM (h.lt (by omega))
theorem kL{t:iS}{i o m:Int}{K:Bool->Tr}(h:It K n):cN (oP t i o m K) n c:=dD λ _=>Eb λ n1 h1 b=>by
 split
 ·exact Dt λ n2 h2 _=>h n2 (by omega) _
 ·exact h n1 h1 _
theorem Au{t:iS}{o e m:Int}{K:Bool->Tr}(h:It K n)(hc:1<=c):cN (Cp t o e m K) n c:=by
 obtain⟨c,rfl⟩:∃d,c=d+1:=⟨c-1,by omega⟩
 exact Kr λ _=>Eb λ n1 h1 b=>by
  split
  ·exact D5 λ n2 h2=>dD λ _=>qE λ n3 h3 _=>vM λ n4 h4 _=>h n4 (by omega) _
  ·exact h n1 h1 _
end
end

/- The trees are never stuck within as many accesses as they have fuel: calls. -/
section
open Go Go.RowKit Go.Ct
section
variable{n c:Nat}
theorem gM{a:Nv}{i:Int}{k:Int->Tr}(hc:1<=c)(h:∀v,cN (k v) n (c-1)):cN (.alloc a i k) n c:=by
 obtain⟨c,rfl⟩:∃d,c=d+1:=⟨c-1,by omega⟩
 exact Kr h
theorem Cw{a i r:Int}{K:Int->Tr}(hc:1<=c)(h:∀v,cN (K v) n (c-1)):cN (F7 a i r K) n c:=dD λ _=>gM hc h
theorem T5{t:iS}{i o x:Int}{K:Int->Tr}(h:It K n):cN (Mo t i o x K) n c:=dD λ _=>iK λ n1 h1 _=>dD λ _=>gM (by decide) λ _=>Cw (by decide) λ _=>kL λ n2 h2 _=>h n2 (by omega) _
theorem zX{t:iS}{p o:Int}{h0:Nat}{l:Int}{K:Bool->Tr}(h:It K n):cN (zZ t p o h0 l K) n c:=iK λ n1 h1 _=>dD λ _=>by
 split
 ·exact iK λ n2 h2 _=>dD λ _=>by
   split
   ·exact gM (by decide) λ _=>dD λ _=>gM (by decide) λ _=>kL λ n3 h3 _=>h n3 (by omega) _
   ·exact h n2 (by omega) _
 ·exact h n1 h1 _
theorem Kg{t:iS}{h0:Nat}{key:ByteArray}{K:Rs->Tr}:∀(q n c:Nat) (i level:Int),n<q->It K n->cN (Dj t h0 key K q i level) n c
 | 0,n,c,i,level,hq,_=>absurd hq (Nat.not_lt_zero n)
 | q+1,n,c,i,level,hq,h=>iK λ n1 h1 _=>dD λ _=>by
  split
  ·split<;>exact h n1 h1 _
  ·split
   ·exact h n1 h1 _
   ·split
    ·exact h n1 h1 _
    ·exact dD λ _=>by
      split
      ·split<;>exact h n1 h1 _
      ·exact Kg q n1 64 _ _ (by omega) (h.lt (by omega))
theorem Pw:∀(l:List NI) (r:Int) (K:Int->Tr) (n c:Nat),l.length<=c->(∀v,cN (K v) n (c-l.length))->cN (Bp l r K) n c
 | [],r,K,n,c,_,h=>h r
 | a::l,r,K,n,c,hc,h=>by
  have hc':l.length+1<=c:=by simpa using hc
  exact gM (by omega) λ v=>Pw l v K n (c-1) (by omega) (λ u=>by have:=h u;rw[List.length_cons] at this;rwa [show c-1-l.length=c-(l.length+1) by omega])
theorem Xo{k:Cl}{b:Int}{h0 level:Nat}{gen:Int}{K:Int->Tr}(hc:32<=c)(h:∀v,cN (K v) n (c-32)):cN (W3 k b h0 level gen K) n c:=dD λ nb=>gM (by omega) λ f=>by
 have hl:(dP b nb.hash.toNat h0 (nb.key,nb.val) k.key k.val gen f.toNat level).tail.length<=31:=by
  have h1:=Ue (x:=b) (h0:=nb.hash.toNat) (h:=h0) (p0:=(nb.key,nb.val)) (k:=k.key) (u:=k.val) (gen:=gen) (f:=f.toNat) (lN nb.hash.toNat h0-level) (lN nb.hash.toNat h0-(lN nb.hash.toNat h0-level));have h2:=An nb.hash.toNat h0;rw[List.length_tail];unfold dP;omega
 exact Pw _ _ _ _ _ (by omega) λ v=>xp (by omega) (h v)
theorem My{k:Cl}{i m:Int}{h0 level:Nat}{gen:Int}{K:Rs->Int->Tr}(h:∀n',n'<=n->∀r w,cN (K r w) n' 64):cN (mQ k i m h0 level gen K) n 64:=dD λ nb=>by
 split
 ·split
  ·exact gM (by decide) λ _=>kL λ n1 h1 _=>h n1 (by omega) _ _
  ·exact h n (Nat.le_refl n) _ _
 ·split
  ·split
   ·exact gM (by decide) λ _=>gM (by decide) λ _=>kL λ n1 h1 _=>h n1 (by omega) _ _
   ·exact h n (Nat.le_refl n) _ _
  ·refine dD λ _=>?_;split
   ·exact h n (Nat.le_refl n) _ _
   ·split
    ·split
     ·exact gM (by decide) λ _=>Cw (by decide) λ _=>kL λ n1 h1 _=>h n1 (by omega) _ _
     ·exact h n (Nat.le_refl n) _ _
    ·split
     ·exact Xo (by decide) λ _=>gM (by decide) λ _=>Cw (by decide) λ _=>kL λ n1 h1 _=>h n1 (by omega) _ _
     ·exact h n (Nat.le_refl n) _ _
theorem Ge{k:Cl}{i m x gen:Int}{K:Int->Tr}(h:∀n',n'<=n->∀v,cN (K v) n' 64):cN (Fk k i m x gen K) n 64:=dD λ _=>dD λ _=>by
 split
 ·exact h n (Nat.le_refl n) _
 ·exact T5 λ n1 h1 _=>h n1 (by omega) _
theorem Fb{k:Cl}{h0:Nat}{K:Rs->Tr}{again:Tr}{gen:Int}:∀(q n c:Nat) (i parent:Int) (level:Nat),n<q->It K n->(∀n',n'<n->cN again n' 64)->cN (Dz k h0 K again gen q i parent level) n c
 | 0,n,c,i,p,level,hq,_,_=>absurd hq (Nat.not_lt_zero n)
 | q+1,n,c,i,p,level,hq,h,ha=>iK λ n1 h1 _=>dD λ _=>by
  split
  ·exact zX λ n2 h2 _=>ha n2 (by omega)
  ·refine My λ n2 h2 r w=>?_;split
   ·exact h n2 (by omega) _
   ·split
    ·exact ha n2 (by omega)
    ·refine Ge λ n3 h3 v=>?_;split
     ·exact ha n3 (by omega)
     ·exact Fb q n3 64 _ _ _ (by omega) (h.lt (by omega)) (λ n4 h4=>ha n4 (by omega))
theorem Pu{k:Cl}{h0:Nat}{K:Rs->Tr}:∀(q n c:Nat),n<q->It K n->cN (G0 k h0 K q) n c
 | 0,n,c,hq,_=>absurd hq (Nat.not_lt_zero n)
 | q+1,n,c,hq,h=>pR λ n1 h1 _=>dD λ _=>Fb q n1 64 _ _ _ (by omega) (h.lt (by omega)) (λ n2 h2=>Pu q n2 64 (by omega) (h.lt (by omega)))
theorem Iq{k:Cl}{i m:Int}{h0 level:Nat}{K:Rs->Int->Tr}(h:∀n',n'<=n->∀r w,cN (K r w) n' 64):cN (kO k i m h0 level K) n 64:=dD λ nb=>by
 split
 ·split
  ·exact h n (Nat.le_refl n) _ _
  ·exact gM (by decide) λ _=>kL λ n1 h1 _=>h n1 (by omega) _ _
 ·split
  ·exact h n (Nat.le_refl n) _ _
  ·refine dD λ _=>?_;split
   ·exact h n (Nat.le_refl n) _ _
   ·split
    ·exact h n (Nat.le_refl n) _ _
    ·split
     ·exact h n (Nat.le_refl n) _ _
     ·exact dD λ _=>gM (by decide) λ _=>kL λ n1 h1 _=>h n1 (by omega) _ _
theorem Wf{t:iS}{path:List Int}{h0:Nat}{K:Tr}:∀(l n:Nat),(∀n',n'<=n->cN K n' 64)->cN (uy t path h0 K l) n 64
 | 0,n,h=>h n (Nat.le_refl n)
 | l+1,n,h=>iK λ n1 h1 _=>dD λ _=>by
  split
  ·exact zX λ n2 h2 _=>Wf l n2 (λ n3 h3=>h n3 (by omega))
  ·exact h n1 (by omega)
theorem Ec{k:Cl}{h0:Nat}{K:Rs->Tr}{again:Tr}{gen:Int}:∀(q n c:Nat) (i:Int) (path:List Int) (level:Nat),n<q->It K n->(∀n',n'<n->cN again n' 64)->cN (vY k h0 K again gen q i path level) n c
 | 0,n,c,i,p,level,hq,_,_=>absurd hq (Nat.not_lt_zero n)
 | q+1,n,c,i,p,level,hq,h,ha=>iK λ n1 h1 _=>dD λ _=>by
  split
  ·exact zX λ n2 h2 _=>ha n2 (by omega)
  ·refine Iq λ n2 h2 r w=>?_;split
   ·split
    ·exact Wf _ _ λ n3 h3=>h n3 (by omega) _
    ·exact h n2 (by omega) _
   ·split
    ·exact ha n2 (by omega)
    ·refine Ge λ n3 h3 v=>?_;split
     ·exact ha n3 (by omega)
     ·exact Ec q n3 64 _ _ _ (by omega) (h.lt (by omega)) (λ n4 h4=>ha n4 (by omega))
theorem Jc{k:Cl}{h0:Nat}{K:Rs->Tr}:∀(q n c:Nat),n<q->It K n->cN (wM k h0 K q) n c
 | 0,n,c,hq,_=>absurd hq (Nat.not_lt_zero n)
 | q+1,n,c,hq,h=>pR λ n1 h1 _=>dD λ _=>Ec q n1 64 _ _ _ (by omega) (h.lt (by omega)) (λ n2 h2=>Jc q n2 64 (by omega) (h.lt (by omega)))
theorem Lf{i:Int}{k:Int->Tr}(hc:1<=c)(h:∀v,cN (k v) n (c-1)):cN (.cell i k) n c:=by
 obtain⟨c,rfl⟩:∃d,c=d+1:=⟨c-1,by omega⟩
 exact yq h
theorem To{k:Int->Tr}(hc:1<=c)(h:∀v,cN (k v) n (c-1)):cN (.gen k) n c:=by
 obtain⟨c,rfl⟩:∃d,c=d+1:=⟨c-1,by omega⟩
 exact aBX h
theorem kM{r:Rs}:cN (.done r) n c:=by simp[cN]
theorem Kq{m:Int}:cN (O6 m .done) n 64:=To (by decide) λ _=>gM (by decide) λ _=>Lf (by decide) λ _=>kM
theorem Jw{t:iS}{fz:Bool}:∀(q n c:Nat),n<q->cN (I8 t fz .done q) n c
 | 0,n,c,hq=>absurd hq (Nat.not_lt_zero n)
 | q+1,n,c,hq=>pR λ n1 h1 _=>iK λ n2 h2 _=>To (by decide) λ _=>gM (by decide) λ _=>Au (λ n3 h3 b=>by
  split
  ·split
   ·exact Lf (by decide) λ _=>kM
   ·exact Kq
  ·exact Jw q n3 64 (by omega)) (by decide)
theorem G4{t:iS}{fz:Bool}{q:Nat}(h:n<q):cN (tI t fz .done q) n c:=by
 unfold tI
 split
 ·exact qE λ n1 h1 _=>by
   split
   ·exact Lf (by decide) λ _=>kM
   ·exact iK λ n2 h2 _=>Kq
 ·exact Jw q n c h
theorem Fy{t:iS}:∀(q n c:Nat),n<q->cN (Ap t .done q) n c
 | 0,n,c,hq=>absurd hq (Nat.not_lt_zero n)
 | q+1,n,c,hq=>pR λ n1 h1 _=>iK λ n2 h2 _=>gM (by decide) λ _=>To (by decide) λ _=>gM (by decide) λ _=>Au (λ n3 h3 b=>by
  split
  ·exact kM
  ·exact Fy q n3 64 (by omega)) (by decide)
theorem Xh{k:Cl}{h0 q:Nat}(h:n<q):cN (mH k h0 q) n 64:=by
 have hd:∀{X:Type} {K:X->Rs},It (λ v=>Tr.done (K v)) n:=λ _ _ _=>kM;unfold mH;split
 ·exact kM
 split
 ·exact iK hd
 split
 ·exact kL hd
 split
 ·exact pR hd
 split
 ·exact Au hd (by decide)
 split
 ·exact pR λ n1 h1 _=>Kg q n1 64 _ _ (by omega) (λ _ _ _=>kM)
 split
 ·exact Pu q n 64 h (λ _ _ _=>kM)
 split
 ·exact Jc q n 64 h (λ _ _ _=>kM)
 split
 ·exact G4 h
 split
 ·exact G4 h
 ·exact Fy q n 64 h
end
end

/- Worlds: lists of tries and of executions; the smallest functions. -/
end Go.Proofs.YtadnboagdhcedaaGreatDoor
namespace Go.Ct
section
open Go Go.RowKit
section
variable{P:Program}{S:List (Nat×Value)}{d:Nat}{ty t t' e:TypeId}{pos:String}{af:Array Edge}{gd:Option (Nat×Bool)}{x y:Operand}{w0 w:World}{M:List Nat}{H:List (Nat×Obj)}{A F:Fr}{O:List Ow}{a:Option Addr}
theorem uh{cs:List Value}{kk:IntKind}{m c k:Nat}(hx:ev S x=.slice a m c)(hy:ev S y=.int kk ((k:Nat):Int))(ht:P.underlying t=some (.slice e))(hs:one P e=true)(hf:pS A F O a cs)(h1:k<m)(h2:k<cs.length) :
  aM P S (SF w0 M H A F O) ⟨some d,.indexAddr t x y,ty,pos,af,gd⟩ (.pointer (some ⟨cZ a,eG a+k,none⟩)):=⟨λ w hw =>
 (Bq (G:=SF w0 M H A F O) hx hy ht hs ((hw.cl hf).ptr (by omega)) h1).run w hw⟩
theorem wh{cs:List Value}{q:Nat}{v:Value}(hx:ev S x=.pointer (some ⟨cZ a,eG a+q,none⟩))(ht:one P t=true)(hf:pS A F O a cs)(hq:cs[q]?=some v) :
  aM P S (SF w0 M H A F O) ⟨some d,.load t x,ty,pos,af,gd⟩ v:=mJ hx ht (λ w hw=>hw.cl hf) hq
theorem ie{cs:List Value}{kk:IntKind}{m c k:Nat}(hx:ev S x=.slice a m c)(hy:ev S y=.int kk ((k:Nat):Int))(ht:P.underlying t=some (.slice e))(hs:jK P e 2=true)(hf:pS A F O a cs)(h1:k<m)(h2:2*k<cs.length) :
  aM P S (SF w0 M H A F O) ⟨some d,.indexAddr t x y,ty,pos,af,gd⟩ (.pointer (some ⟨cZ a,eG a+2*k,none⟩)):=⟨λ w hw =>
 (P4 (G:=SF w0 M H A F O) hx hy ht hs ((hw.cl hf).ptr (by omega)) h1).run w hw⟩
end
end
end Go.Ct
namespace Go.Proofs.YtadnboagdhcedaaGreatDoor
section
open Go Go.RowKit Go.Ct
def sQ(ts:List iS):List Value:=ts.flatMap λ t=>[.int .i64 t.root,.bool t.ro]
def zN(es:List Nat):List Value:=es.map λ b=>.pointer (some ⟨b,0,none⟩)
theorem qB:∀ts:List iS,(sQ ts).length=ts.length*2
 | []=>rfl
 | t::ts=>by
  have:=qB ts;simp only[sQ,List.flatMap_cons,List.length_append,List.length_cons,List.length_nil] at this ⊢
  omega
theorem mb(ts:List iS)(t:iS):sQ (ts++[t])=sQ ts++[.int .i64 t.root,.bool t.ro]:=by simp[sQ]
theorem ko(es:List Nat)(b:Nat):zN (es++[b])=zN es++[.pointer (some ⟨b,0,none⟩)]:=by simp[zN]
theorem Fu(es:List Nat):(zN es).length=es.length:=by simp[zN]
theorem Hy:dY Tryz.prog 37 29 [.int .i64 0,.bool false]:=mS (z:=.agg ⟨[.int .i64 0,.bool false]⟩) (by kernel_rfl) (by kernel_rfl) rfl
theorem Rg:dY Tryz.prog 38 73 [.pointer none]:=mS (z:=.pointer none) (by kernel_rfl) (by kernel_rfl) rfl
theorem nq:dY Tryz.prog 107 30 [.int .u64 0]:=mS (z:=.int .u64 0) (by kernel_rfl) (by kernel_rfl) rfl
abbrev oG(bm:Nat)(mask:Int)(pt:Option Addr)(nt kt:Nat)(pe:Option Addr)(ne ke:Nat):Obj:=.cells ⟨[.pointer (some ⟨bm,0,none⟩),.int .u64 mask,.slice pt nt kt,.slice pe ne ke]⟩ 40 (0,0)
def B6:List Int:=[18446744073709551615,0,1,64,63,4095,9223372036854775808,4032,3458764513820540928,18446744073709551615]
theorem aAI{l:List Int}{a:Option Addr}{b c k:Nat}{w:World}(ht:p8 w b a l c k) :
  Calls Tryz.prog 23 #[.pointer (some ⟨b,0,none⟩)] w λ e w' =>
  ∃v:Nat,e=.returned (.int .u64 (B6.getD v 0))/\v<10/\SF w [b] ((b,T4 a l c (oS l k))::[]) [] [] [] w':=by
 refine enter Tryz.func23 Tryz.ntmps23 rfl rfl ht.start ?_;simp only[cP]
 refine cR ?_;refine J0 ?_;refine aS ((by exact Fv (λ _=>cX (cs:=B6.map (Value.int .u64)) nq Ih rfl rfl rfl rfl rfl))) (λ x3=>?_);refine aB ?_;refine aD (zS (hc:=λ w1 hw=>fW 10 (hw.tape dI fin ht.len) (by decide) (by decide))) (λ x5 h5=>?_);refine aE (uh (cs:=B6.map (Value.int .u64)) rf rf eC dC fin (by omega) (by rw[List.length_map];simp only[B6,List.length_cons,List.length_nil];omega)) rfl ?_;refine aE (wh (cs:=B6.map (Value.int .u64)) (v:=.int .u64 (B6.getD x5 0)) rf dC fin (by rw[List.getElem?_map,gF,List.getElem?_eq_getElem (by simp only[B6,List.length_cons,List.length_nil];omega)];rfl)) rfl ?_;refine J1 ?_;refine aR Tryz.results23 (λ w hw=>?_);exact⟨x5,rfl,by omega,hw.aQ⟩
theorem w9{l:List Int}{a:Option Addr}{b c k:Nat}{w:World}(ht:p8 w b a l c k) :
  Calls Tryz.prog 25 #[.pointer (some ⟨b,0,none⟩)] w λ e w' =>
  ∃v:Bool,e=.returned (.bool v)/\True/\SF w [b] ((b,T4 a l c k)::[]) [] [] [] w':=by
 refine enter Tryz.func25 Tryz.ntmps25 rfl rfl ht.start ?_;simp only[cP]
 refine D6 ?_;refine gP [0,1,2,3,4,5,6,7,8,9,10] ?_;refine Er ?_;refine iW ?_;refine Dr ?_;refine J7 ?_;refine aR Tryz.results25 (λ w hw=>?_);exact⟨_,rfl,trivial,hw.aQ⟩
end

/- Worlds: Create, keep. -/
section
open Go Go.RowKit Go.Ct
structure KQ where
 ts:List iS
 es:List Nat
 pt:Option Addr
 kt:Nat
 pe:Option Addr
 ke:Nat
def Ti(dn:Bool)(rs:Rs)(bx:Nat)(ts:List iS)(es:List Nat)(q:KQ):Prop :=
 (dn=false/\q.es=es++[bx]/\q.ts=ts)∨(dn=true/\q.es=es/\(q.ts=ts∨(0<rs.root/\q.ts.length<=5/\q.ts=ts++[⟨rs.root,rs.ro⟩])))
section
variable{k:Cl}{bw bx bm:Nat}{x:XS}{dn:Bool}{rs:Rs}{D:List Nat}{A:Fr}{w:World}{mask:Int}{ts:List iS}{es:List Nat}{pt pe:Option Addr}{kt ke:Nat}
abbrev wL(ts:List iS)(es:List Nat)(pt:Option Addr)(kt:Nat)(pe:Option Addr)(ke:Nat):List Ow:=[⟨pt,sQ ts,kt,29,2⟩,⟨pe,zN es,ke,73,1⟩]
theorem aBS(h:SF w D ((bw,oG bm mask pt ts.length kt pe es.length ke)::xH k bx bm x dn rs) A [] (wL ts es pt kt pe ke++xW x) w) :
  SF w D [(bw,.cells ⟨[.pointer (some ⟨bm,0,none⟩),.int .u64 mask,.slice pt ts.length kt,.slice pe es.length ke]⟩ 40 (0,0)),(bx,xO k bm x dn rs),(bm,xM x)] A [] [⟨pt,sQ ts,kt,29,2⟩,⟨pe,zN es,ke,73,1⟩,⟨x.pg,aH x.got,x.kg,62,1⟩,⟨x.pm,aH x.made,x.km,62,1⟩,⟨x.pl,aH x.cel,x.kl,27,1⟩,⟨x.pe,aH x.gns,x.ke,3,1⟩,⟨x.pn,fX x.L,x.cn,77,14⟩,⟨x.pc,aH x.cs,x.cc,62,1⟩] w:=h
theorem zr(hts:ts.length<=1000)(hes:es.length<=1000)(hs:SF w D ((bw,oG bm mask pt ts.length kt pe es.length ke)::xH k bx bm x dn rs) A [] (wL ts es pt kt pe ke++xW x) w):Calls Tryz.prog 49 #[.pointer (some ⟨bw,0,none⟩),.pointer (some ⟨bx,0,none⟩)] w λ e w'=>∃q:KQ,e=.returned (.tuple #[])/\Ti dn rs bx ts es q/\SF w D ((bw,oG bm mask q.pt q.ts.length q.kt q.pe q.es.length q.ke)::xH k bx bm x dn rs) [] [] (wL q.ts q.es q.pt q.kt q.pe q.ke++xW x) w':=by
 refine enter Tryz.func49 Tryz.ntmps49 rfl rfl (aBS hs) ?_;simp only[cP]
 refine J2 ?_;refine aD (cM (hs:=xH k bx bm x dn rs) (os:=xW x) (hc:=λ w hs=>dt hs)) (λ x6 h6=>?_);refine lA ?_;refine bA (λ c7=>?_) (λ c7=>?_)
 ·refine Il ?_;refine eR ?_;refine J3 ?_;refine aB ?_;refine aS ((by exact Fv (λ _=>cX (cs:=zN [bx]) Rg Ih rfl rfl rfl rfl rfl))) (λ x14=>?_);(refine aS (aX.gA (iY (sz:=1) (cs:=zN es) rf rf (.tail .head) (by rw[Fu];omega) fin rfl rfl Rg rfl (by decide) eC (by omega)) fM) (λ x15=>?_);try (refine fL (λ h15=>?_)));refine ln ?_;refine Hq Tryz.results49 (λ w hw=>?_);first
  | exact⟨⟨ts,es++[bx],pt,kt,x15.1,x15.2⟩,rfl,.inl ⟨by simpa using c7,rfl,rfl⟩,by dsimp only[wL];rw[ko,show(es++[bx]).length=es.length+1 by simp];exact hw.aQ⟩
  | exact⟨⟨ts,es,pt,kt,pe,ke⟩,rfl,.inr ⟨by simpa using c7,rfl,.inl rfl⟩,hw.aQ⟩
 ·refine J2 ?_;refine aD (cM (hs:=xH k bx bm x dn rs) (os:=xW x) (hc:=λ w hs=>ew hs)) (λ x19 h19=>?_);refine aT (λ x4=>?_);refine J5 ?_;refine J0 ?_;refine Kc5 ?_;refine vH ?_;refine aB ?_;(refine eM 24 (λ g24=>?_) (λ g24=>?_)<;>refine Ka0 ?_);all_goals ((first|refine aJ ?_|(refine aF ?_;refine eR ?_));refine Ny ?_;refine u4 ?_;refine aK ?_)
  all_goals
  refine bA (λ c31=>?_) (λ c31=>?_)
  ·try exact nv c31
   all_goals (refine dZ [(0,[]),(1,[]),(2,[]),(3,[]),(4,[]),(5,[]),(6,[]),(7,[4]),(8,[]),(9,[]),(10,[]),(11,[])] ?_;refine J67 ?_;refine aN ?_;refine bJ (i:=6) (hq:=(aW (k:=2) (vs:=[.int .i64 rs.root,.bool rs.ro]) rf dI dR rfl rfl)) (h:=?_);refine cA (i:=7) (hq:=((by exact Fv (λ _=>cX (cs:=sQ [⟨rs.root,rs.ro⟩]) Hy Ih rfl rfl rfl rfl rfl)))) (h:=λ x39=>?_);((refine cA (i:=8) (hq:=(aX.gA (iY (sz:=2) (cs:=sQ ts) rf rf .head (by rw[qB]) fin rfl rfl Hy rfl (by decide) eC (by omega)) fM)) (h:=λ x40=>?_);try (refine dO (λ h40=>?_))));refine J88 ?_)
   all_goals
    refine Hq Tryz.results49 (λ w hw=>?_);first
    | exact⟨⟨ts++[⟨rs.root,rs.ro⟩],es,x40.1,x40.2,pe,ke⟩,rfl,.inr ⟨by simpa using c7,rfl,.inr ⟨by omega,by show(ts++[(⟨rs.root,rs.ro⟩:iS)]).length<=5;simp;omega,rfl⟩⟩,by dsimp only[wL];rw[mb,show(ts++[(⟨rs.root,rs.ro⟩:iS)]).length=ts.length+1 by simp];exact hw.aQ⟩
    | exact⟨⟨ts,es,pt,kt,pe,ke⟩,rfl,.inr ⟨by simpa using c7,rfl,.inl rfl⟩,hw.aQ⟩
  ·all_goals refine bB ?_
   all_goals
    refine Hq Tryz.results49 (λ w hw=>?_);first
    | exact⟨⟨ts,es,pt,kt,pe,ke⟩,rfl,.inr ⟨by simpa using c7,rfl,.inl rfl⟩,hw.aQ⟩
theorem td(hts:ts.length<=1000)(hes:es.length<=1000)(hs:SF w D [(bw,oG bm mask pt ts.length kt pe es.length ke),(bx,xO k bm x dn rs),(bm,xM x)] A [] [⟨pt,sQ ts,kt,29,2⟩,⟨pe,zN es,ke,73,1⟩,⟨x.pg,aH x.got,x.kg,62,1⟩,⟨x.pm,aH x.made,x.km,62,1⟩,⟨x.pl,aH x.cel,x.kl,27,1⟩,⟨x.pe,aH x.gns,x.ke,3,1⟩,⟨x.pn,fX x.L,x.cn,77,14⟩,⟨x.pc,aH x.cs,x.cc,62,1⟩] w):Calls Tryz.prog 49 #[.pointer (some ⟨bw,0,none⟩),.pointer (some ⟨bx,0,none⟩)] w λ e w'=>∃q:KQ,e=.returned (.tuple #[])/\Ti dn rs bx ts es q/\SF w D [(bw,oG bm mask q.pt q.ts.length q.kt q.pe q.es.length q.ke),(bx,xO k bm x dn rs),(bm,xM x)] [] [] [⟨q.pt,sQ q.ts,q.kt,29,2⟩,⟨q.pe,zN q.es,q.ke,73,1⟩,⟨x.pg,aH x.got,x.kg,62,1⟩,⟨x.pm,aH x.made,x.km,62,1⟩,⟨x.pl,aH x.cel,x.kl,27,1⟩,⟨x.pe,aH x.gns,x.ke,3,1⟩,⟨x.pn,fX x.L,x.cn,77,14⟩,⟨x.pc,aH x.cs,x.cc,62,1⟩] w':=zr hts hes hs
end
end

/- Worlds: Create. -/
section
open Go Go.RowKit Go.Ct
def Tf:Nd:={Nd.zero with kind:=3}
def wK(g:Int):Nd:={Nd.zero with kind:=2,gen:=g}
def L4(x y:AX):List aI:=[dH,dH]++[lW Tf [] [] 0 x]++[lW (wK 1) [] [] 1 y]
theorem aAg{x y:AX}:∀f∈bD (L4 x y),f.2=[]:=by
 intro f hf
 simp[bD,L4,aI.fr,dH,lW,aH,dK] at hf
 rcases hf with hf|hf|hf|hf|hf|hf|hf|hf<;>rw[hf]
theorem Qi{w:World}{D:List Nat}{b:Nat}{acc:Int}{pn:Option Addr}{cn:Nat}{A:Fr}(hs:SF w D [(b,mO [dH,dH] [] 0 acc pn cn none 0)] A [] (mW [dH,dH] [] pn cn none 0) w) :
  Calls Tryz.prog 24 #[.pointer (some ⟨b,0,none⟩)] w λ e w'=>∃q:AX×AX×Option Addr×Nat,e=.returned (.agg ⟨[.int .i64 3,.bool false]⟩)/\True /\
   SF w D [(b,mO (L4 q.1 q.2.1) [0,3,4] 1 acc q.2.1.pn q.2.1.cn q.2.2.1 q.2.2.2)] [] (bD (L4 q.1 q.2.1)) (mW (L4 q.1 q.2.1) [0,3,4] q.2.1.pn q.2.1.cn q.2.2.1 q.2.2.2) w':=by
 refine enter Tryz.func24 Tryz.ntmps24 rfl rfl (zD hs) ?_;simp only[cP]
 refine J0 ?_;refine aT (λ x2=>?_);refine aK ?_;refine J2 ?_;refine bQ ?_;refine aD (cM (A0:=[(none,aH []),(none,dK [])]) (hc:=λ w hs=>oK (L:=[dH,dH]) (cs:=[]) (n:=Tf) (xs:=[]) (ys:=[]) 0 hs rfl rfl (by decide) (by decide) (by decide) (by decide))) (λ x7 h7=>?_);refine Ka6 ?_;refine aD (cM (hc:=λ w hs=>Jl (L:=[dH,dH]++[lW Tf [] [] 0 x7]) (cs:=[0]) hs)) (λ x9 h9=>?_);refine vE ?_;refine aB ?_;refine bQ ?_;refine aB ?_;refine aD (cM (A0:=[(none,aH []),(none,dK [])]) (hc:=λ w hs=>oK (L:=[dH,dH]++[lW Tf [] [] 0 x7]) (cs:=[0]) (n:=wK 1) (xs:=[]) (ys:=[]) 3 hs rfl rfl (by decide) (by decide) (by simp) (by decide))) (λ x15 h15=>?_);refine aD (cM (hc:=λ w hs=>kH (L:=L4 x7 x15) (cs:=[0,3]) 4 hs (by decide))) (λ x16 h16=>?_);refine B9 ?_;refine bK Tryz.results24 (λ w hw=>?_);exact⟨(x7,x15,x16.1,x16.2),rfl,trivial,(hw.fN (λ f hf=>.inl (aAg f hf))).zA0⟩
end

end Go.Proofs.YtadnboagdhcedaaGreatDoor

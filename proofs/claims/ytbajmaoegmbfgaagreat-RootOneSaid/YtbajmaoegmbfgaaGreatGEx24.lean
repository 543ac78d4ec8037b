/- Merged. -/
import Derived.Test.YtbajmaoegmbfgaaGreatEx23
import Derived.Test.YtbajmaoegmbfgaaGreatGRn1
import Derived.Test.YtbajmaoegmbfgaaGreatGBr2
set_option linter.unusedSimpArgs false
set_option linter.unusedVariables false
namespace Go.Ct
open Go Go.RowKit
section
theorem rr{L:List Nv}{r:Rs}{gs ms cl gn:List Int}{R:Tr}(h:Wk L (.done r) gs ms cl gn R):gs=[]/\ms=[]/\cl=[]/\gn=[]/\R=.done r:=by
 cases h
 exact⟨rfl,rfl,rfl,rfl,rfl⟩
def XS.re(x:XS)(free:Nat):XS:={x with a:=0,m:=0,c:=0,g:=0,fr:=free,st:=false}
theorem aCe{T R:Tr}{x:XS}{free N:Nat}(hw:Wk x.nodes T x.got x.made x.cel x.gns R)(hN:x.got.length+free=N):fS ⟨T,R,x.mm,free,N⟩ (x.re free) T:=.inl ⟨rfl,R,⟨Wk.nil _,hw,by show Rc (free-free) R x.mm R x.mm;rw[Nat.sub_self];exact Rc.refl _ _,Nat.le_refl _,Nat.zero_le _,Nat.zero_le _,Nat.zero_le _,Nat.zero_le _,hN⟩⟩
structure A4(T R:Tr)(free N:Nat)(rs:Rs)(x x':XS)(N':List aU)(dn':Bool)(rs':Rs):Prop where
 ok:x'.Ok
 ext:x'.L=x.L++N'
 lc:x.cs.length<=x'.cs.length
 gl:x'.got.length<=N
 Yv:(dn'=true/\∃j,j<=free/\x'.got.length+free=N+j/\Wk x'.nodes T x'.got x'.made x'.cel x'.gns (.done rs')/\Rc j R x.mm (.done rs') x'.mm)∨(dn'=false/\rs'=rs/\x'.got.length=N/\∃R',R'.acc=some x'.nx/\Wk x'.nodes T x'.got x'.made x'.cel x'.gns R'/\Rc free R x.mm R' x'.mm)
theorem Nx.uz{T R:Tr}{free N:Nat}{rs r:Rs}{x x':XS}{N':List aU}(h:Nx ⟨T,R,x.mm,free,N⟩ (x.re free) x' N' (.done r) 0)(hs:x'.st=false):A4 T R free N rs x x' N' true r:=by
 obtain⟨R',hR⟩:=h.go.run hs
 obtain⟨e1,e2,e3,e4,e5⟩:=rr hR.suf
 refine⟨h.ok,h.ext,h.lc,(by have:=hR.hN;show x'.got.length<=N;simp only at this;omega),.inl ⟨rfl,free-x'.fr,Nat.sub_le _ _,(by have:=hR.hN;have:=hR.hf;simp only at *;omega),?_,e5▸hR.rc⟩⟩
 have hp:=hR.pre
 rwa [List.take_of_length_le (List.drop_eq_nil_iff.1 e1),List.take_of_length_le (List.drop_eq_nil_iff.1 e2),List.take_of_length_le (List.drop_eq_nil_iff.1 e3),List.take_of_length_le (List.drop_eq_nil_iff.1 e4)] at hp
theorem Nx.wv{T R:Tr}{free N:Nat}{rs r:Rs}{x x':XS}{N':List aU}(h:Nx ⟨T,R,x.mm,free,N⟩ (x.re free) x' N' (.done r) 0)(hs:x'.st=true):A4 T R free N rs x x' N' false rs:=by
 rcases h.go with h1|h1
 ·rw[hs] at h1;exact nomatch h1.1
 ·obtain⟨R',hR⟩:=h1.2
  exact⟨h.ok,h.ext,h.lc,Nat.le_of_eq hR.hN,.inr ⟨rfl,rfl,hR.hN,R',hR.ac,hR.wk,hR.rc⟩⟩
end
end Go.Ct
namespace Go.Proofs.YtbajmaoegmbfgaaGreat
open Go Go.RowKit Go.Ct
section
section
variable{k:Cl}{bx bm:Nat}{x:XS}{rs:Rs}{D:List Nat}{A:Fr}{w:World}
theorem Pj{m n N:Nat}{R:Tr}(free:Nat)(hg:Gx.Ok ⟨kX k (mR k.key m) n,R,x.mm,free,N⟩)(hwk:Wk x.nodes (kX k (mR k.key m) n) x.got x.made x.cel x.gns R)(hN:x.got.length+free=N)(hk:bh k)(hn:n<=1073741824)(hm:m<18446744073709551616)(em:k.mask=(m:Int))(ht:k.t.root<=9223372036854775807)(ha:k.a<=x.L.length)(hb:k.b<=x.L.length)(hnn:k.n<=x.L.length)(hA:∀f∈aL x.L,f∈A)(ok:x.Ok)(hs:SF w D (xH k bx bm x false rs) A [] (xW x) w):Calls Tryz.prog 99 #[.pointer (some ⟨bx,0,none⟩),.int .i64 (free:Int)] w λ e w'=>∃q:XS×List aU×Bool×Rs,e=.returned (.tuple #[])/\A4 (kX k (mR k.key m) n) R free N rs x q.1 q.2.1 q.2.2.1 q.2.2.2/\SF w D (xH k bx bm q.1 q.2.2.1 q.2.2.2) [] (aL q.2.1) (xW q.1) w':=by
 have hfr:=hg.hf
 have ok0:(x.re free).Ok:=ok.uy rfl rfl rfl rfl rfl rfl (Nat.zero_le _) (Nat.zero_le _) (Nat.zero_le _) (Nat.zero_le _) hfr
 refine enter Tryz.func99 Tryz.ntmps99 rfl rfl (cH hs) ?_
 simp only[cE]
 refine jM ?_;refine qJ ?_;refine qJ ?_;refine aA ?_;refine Mi ?_;refine cB (by exact gK λ _=>eW rf cR wn rf gA rf rf jC) (λ _=>?_);refine Mi ?_;refine cB (by exact gK λ _=>eW rf cR wn rf gA rf rf jC) (λ _=>?_);refine Mi ?_;refine cB (by exact gK λ _=>eW rf cR wn rf gA rf rf jC) (λ _=>?_);refine Mi ?_;refine cB (by exact gK λ _=>eW rf cR wn rf gA rf rf jC) (λ _=>?_);refine Mi ?_;refine cB (by exact gK λ _=>eW rf cR wn rf gA rf rf jC) (λ _=>?_);refine Mi ?_;refine cB (by exact gK λ _=>eW rf cR wn rf gA rf rf jC) (λ _=>?_);refine Kd0 ?_;refine aC (cM (hs:=xH k bx bm (x.re free) false rs) (os:=xW (x.re free)) (A0:=aL x.L) (hA:=bI.of λ f hf=>.inr (.inl (hA f hf))) (hc:=λ w hs=>aCl hg (x:=x.re free) n hk hn hm em ht ha hb hnn (λ f hf=>hf) (aCe hwk hN) ok0 hs)) (λ x25 h25=>?_);refine aJ (λ x4=>?_);refine cB (by exact(gK λ _=>aW rf cR rf rf eE rf jC)) (λ _=>?_);refine aG ?_;refine lQ ?_;refine pN ?_
 refine bE (λ c30=>?_) (λ c30=>?_)
 ·refine eQ [(0,[]),(1,[]),(2,[]),(3,[]),(4,[]),(5,[2]),(6,[]),(7,[]),(8,[])] ?_;refine hU ?_;refine bX ?_;refine J4 ?_;refine lE (i:=5) (hq:=(by exact gK λ _=>eW rf cR wn rf gA rf rf jC)) (h:=λ _=>?_);refine J4 ?_;refine lE (i:=8) (hq:=(gK λ _=>lU (off:=41) (vs:=x25.1.cells) rf cR rf rfl eE (Nat.le_of_ble_eq_true rfl) rf jC)) (h:=λ _=>?_);refine eO ?_
  refine B9 Tryz.results99 (λ w hw=>?_)
  first
  | exact⟨(x25.2.1,x25.2.2,true,x25.1),rfl,h25.uz (by simpa using c30),by rw[List.append_nil] at hw;exact hw.v4⟩
  | exact⟨(x25.2.1,x25.2.2,false,rs),rfl,h25.wv (by simpa using c30),by rw[List.append_nil] at hw;exact hw.v4⟩
 ·refine aS ?_
  refine B9 Tryz.results99 (λ w hw=>?_)
  first
  | exact⟨(x25.2.1,x25.2.2,true,x25.1),rfl,h25.uz (by simpa using c30),by rw[List.append_nil] at hw;exact hw.v4⟩
  | exact⟨(x25.2.1,x25.2.2,false,rs),rfl,h25.wv (by simpa using c30),by rw[List.append_nil] at hw;exact hw.v4⟩
end
end
end Go.Proofs.YtbajmaoegmbfgaaGreat
namespace Go.Ct
open Go Go.RowKit
section
theorem Ol{R:Tr}{a:Ac}(h:R.acc=some a){n c:Nat}(ht:bS R n c)(hn:1<=n):bS R n 64:=by
 cases R<;>simp only[Tr.acc,reduceCtorEq] at h
 ·cases n with
  | zero=>omega
  | succ n=>simpa only[bS] using ht
 ·cases n with
  | zero=>omega
  | succ n=>simpa only[bS] using ht
structure qg(T:Tr)(x:XS)(dn:Bool)(rs:Rs)(R:Tr):Prop where
 ok:x.Ok
 wk:Wk x.nodes T x.got x.made x.cel x.gns R
 Yv:(dn=true/\R=.done rs)∨(dn=false/\R.acc=some x.nx)
theorem A4.exI{T R:Tr}{free N:Nat}{rs rs':Rs}{x x':XS}{N':List aU}{dn':Bool}(h:A4 T R free N rs x x' N' dn' rs'):∃R' j,j<=free/\(dn'=false->j=free)/\qg T x' dn' rs' R'/\Rc j R x.mm R' x'.mm/\x'.L=x.L++N'/\x.cs.length<=x'.cs.length:=by
 rcases h.Yv with⟨e,j,h1,_,h2,h3⟩|⟨e,_,_,R',h1,h2,h3⟩
 ·exact⟨_,j,h1,(λ h=>by rw[e] at h;cases h),⟨h.ok,h2,.inl ⟨e,rfl⟩⟩,h3,h.ext,h.lc⟩
 ·exact⟨R',free,Nat.le_refl _,λ _=>rfl,⟨h.ok,h2,.inr ⟨e,h1⟩⟩,h3,h.ext,h.lc⟩
end
end Go.Ct
namespace Go.Proofs.YtbajmaoegmbfgaaGreat
open Go Go.RowKit Go.Ct
section
section
variable{k:Cl}{bx bm:Nat}{x:XS}{dn:Bool}{rs:Rs}{D:List Nat}{A:Fr}{w:World}
theorem Q9(hs:SF w D (xH k bx bm x dn rs) A [] (xW x) w):Calls Tryz.prog 69 #[.pointer (some ⟨bx,0,none⟩)] w λ e w'=>∃q:Unit,e=.returned (.bool dn)/\True/\SF w D (xH k bx bm x dn rs) [] [] (xW x) w':=by
 refine enter Tryz.func69 Tryz.ntmps69 rfl rfl (cH hs) ?_
 simp only[cE]
 refine cZ ?_;refine lQ ?_;refine J1 ?_
 refine aN Tryz.results69 (λ w hw=>?_)
 exact⟨(),rfl,trivial,hw.aX⟩
theorem ji(hs:SF w D (xH k bx bm x dn rs) A [] (xW x) w):Calls Tryz.prog 135 #[.pointer (some ⟨bx,0,none⟩)] w λ e w'=>∃q:Unit,e=.returned (.agg ⟨rs.cells⟩)/\True/\SF w D (xH k bx bm x dn rs) [] [] (xW x) w':=by
 refine enter Tryz.func135 Tryz.ntmps135 rfl rfl (cH hs) ?_
 simp only[cE]
 refine J0 ?_;refine aJ (λ x2=>?_);refine aG ?_;refine Ip ?_;refine aB (aP (k:=8) (vs:=rs.cells) rf cR eE rfl rfl) rfl ?_;refine J5 ?_
 refine bB Tryz.results135 (λ w hw=>?_)
 exact⟨(),rfl,trivial,hw.aX⟩
theorem Zy{m n N:Nat}{R:Tr}(hT:bS (kX k (mR k.key m) n) N 64)(hN:N<=1073741824)(hgN:x.got.length+1=N)(hsz:x.L.length<=137438953472/\x.cs.length<=137438953472/\x.gen<=137438953472)(hi:qg (kX k (mR k.key m) n) x dn rs R)(hk:bh k)(hn:n<=1073741824)(hm:m<18446744073709551616)(em:k.mask=(m:Int))(ht:k.t.root<=9223372036854775807)(ha:k.a<=x.L.length)(hb:k.b<=x.L.length)(hnn:k.n<=x.L.length)(hA:∀f∈aL x.L,f∈A)(hs:SF w D (xH k bx bm x dn rs) A [] (xW x) w):Calls Tryz.prog 68 #[.pointer (some ⟨bx,0,none⟩)] w λ e w'=>∃q:XS×List aU×Bool×Rs,e=.returned (.tuple #[])/\((dn=true/\q=(x,[],true,rs))∨(dn=false/\A4 (kX k (mR k.key m) n) R 1 N rs x q.1 q.2.1 q.2.2.1 q.2.2.2))/\SF w D (xH k bx bm q.1 q.2.2.1 q.2.2.2) [] (aL q.2.1) (xW q.1) w':=by
 have hg:dn=false->Gx.Ok ⟨kX k (mR k.key m) n,R,x.mm,1,N⟩:=λ e=>by
  rcases hi.Yv with⟨e2,_⟩|⟨_,e2⟩
  ·rw[e] at e2;cases e2
  ·obtain⟨c,h1,_,_⟩:=hi.wk.vN (Nat.le_refl 64) hT (by omega)
   refine⟨hT,⟨N-x.got.length,by show 1<=N-x.got.length;omega,Ol e2 h1 (by omega)⟩,hN,Nat.le_refl 1,?_⟩
   show(x.L.map aU.c).length<=_/\_
   rw[List.length_map]
   exact hsz
 refine enter Tryz.func68 Tryz.ntmps68 rfl rfl (cH hs) ?_
 simp only[cE]
 refine lQ ?_;refine pN ?_
 refine bE (λ c6=>?_) (λ c6=>?_)
 ·have ed:dn=false:=by simpa using c6
  subst ed
  refine wZ ?_;refine aC (cM (hs:=xH k bx bm x false rs) (os:=xW x) (A0:=aL x.L) (hA:=bI.of λ f hf=>.inr (.inl (hA f hf))) (hc:=λ w hs=>Pj (N:=N) (n:=n) (m:=m) 1 (hg rfl) hi.wk hgN hk hn hm em ht ha hb hnn (λ f hf=>hf) hi.ok hs)) (λ x8 h8=>?_);refine aG ?_
  refine B9 Tryz.results68 (λ w hw=>?_)
  first
  | exact⟨x8,rfl,.inr ⟨rfl,h8⟩,by rw[List.append_nil] at hw;exact hw.v4⟩
  | exact⟨(x,[],true,rs),rfl,.inl ⟨by simpa using c6,rfl⟩,by rw[show dn=true from by simpa using c6] at hw;exact hw.aX (hF:=by exact aV.nil)⟩
 ·refine aS ?_
  refine B9 Tryz.results68 (λ w hw=>?_)
  first
  | exact⟨(x,[],true,rs),rfl,.inl ⟨by simpa using c6,rfl⟩,by rw[show dn=true from by simpa using c6] at hw;exact hw.aX (hF:=by exact aV.nil)⟩
end
end
end Go.Proofs.YtbajmaoegmbfgaaGreat
namespace Go.Ct
open Go Go.RowKit
section
def XS.new(L:List aU)(cs:List Int)(gen acc:Int)(pn:Option Addr)(cn:Nat)(pc:Option Addr)(cc:Nat):XS:=⟨L,cs,gen,acc,pn,cn,pc,cc,[],[],[],[],none,0,none,0,none,0,none,0,0,0,0,0,0,false,Ac.zero⟩
end
end Go.Ct
namespace Go.Proofs.YtbajmaoegmbfgaaGreat
open Go Go.RowKit Go.Ct
section
section
variable{k:Cl}{bm:Nat}{L:List aU}{cs:List Int}{gen acc:Int}{pn pc:Option Addr}{cn cc:Nat}{D:List Nat}{A:Fr}{w:World}
theorem te{m n N:Nat}(hT:bS (kX k (mR k.key m) n) N 64)(hN:N<=1073741824)(hsz:L.length<=137438953472/\cs.length<=137438953472/\gen<=137438953472)(hk:bh k)(hn:n<=1073741824)(hm:m<18446744073709551616)(em:k.mask=(m:Int))(ht:k.t.root<=9223372036854775807)(ha:k.a<=L.length)(hb:k.b<=L.length)(hnn:k.n<=L.length)(hA:∀f∈aL L,f∈A)(ok:(XS.new L cs gen acc pn cn pc cc).Ok)(hs:SF w D [(bm,mO L cs gen acc pn cn pc cc)] A [] [⟨pn,gX L,cn,47,14⟩,⟨pc,aH cs,cc,37,1⟩] w)(hN0:N=0:=by rfl):Calls Tryz.prog 49 #[.pointer (some ⟨bm,0,none⟩),.agg ⟨Qv k⟩] w λ e w'=>∃q:Nat×XS×List aU×Bool×Rs,e=.returned (.pointer (some ⟨q.1,0,none⟩))/\A4 (kX k (mR k.key m) n) (kX k (mR k.key m) n) 0 N Rs.zero (XS.new L cs gen acc pn cn pc cc) q.2.1 q.2.2.1 q.2.2.2.1 q.2.2.2.2/\SF w D (xH k q.1 bm q.2.1 q.2.2.2.1 q.2.2.2.2) [] (aL q.2.2.1) (xW q.2.1) w':=by
 have hg:Gx.Ok ⟨kX k (mR k.key m) n,kX k (mR k.key m) n,(XS.new L cs gen acc pn cn pc cc).mm,0,N⟩:=⟨hT,⟨N,Nat.zero_le _,hT⟩,hN,Nat.zero_le _,by
  show(L.map aU.c).length<=_/\_
  rw[List.length_map]
  exact hsz⟩
 refine enter Tryz.func49 Tryz.ntmps49 rfl rfl ((((hs.lN 3 1).lN 27 1).lN 37 1).lN 37 1) ?_
 simp only[cE]
 refine J0 ?_;refine bN (λ x3=>?_);refine Ka4 ?_;refine aB (aP (k:=25) (vs:=Qv k) rf cR eE rfl rfl) rfl ?_;refine bK ?_;refine bN (λ x9=>?_);refine Ka4 ?_;refine aC (cM (hs:=xH k x9 bm (XS.new L cs gen acc pn cn pc cc) false Rs.zero) (os:=xW (XS.new L cs gen acc pn cn pc cc)) (A0:=aL L) (hA:=bI.of λ f hf=>.inr (.inl (hA f hf))) (hc:=λ w hs=>Pj (N:=N) (n:=n) (m:=m) 0 hg (Wk.nil _) hN0.symm hk hn hm em ht ha hb hnn (λ f hf=>hf) ok hs)) (λ x11 h11=>?_);refine aG ?_;refine Ka5 ?_
 refine aN Tryz.results49 (λ w hw=>?_)
 exact⟨(x9,x11.1,x11.2.1,x11.2.2.1,x11.2.2.2),rfl,h11,by rw[List.append_nil] at hw;exact hw.v4⟩
end
end
section
theorem yl:∀{t:Tr} {n c c':Nat},c<=c'->bS t n c->bS t n c':=by
 intro t
 induction t with
 | done r=>intros;simp[bS]
 | stuck=>intro n c c' _ h;simp[bS] at h
 | load r k ih =>
  intro n c c' _ h
  cases n with
  | zero=>simp[bS]
  | succ n=>simpa only[bS] using h
 | iQ r o m k ih =>
  intro n c c' _ h
  cases n with
  | zero=>simp[bS]
  | succ n=>simpa only[bS] using h
 | alloc r o k ih =>
  intro n c c' hc h
  cases c with
  | zero=>simp[bS] at h
  | succ c =>
   cases c' with
   | zero=>omega
   | succ c'=>simp only[bS] at h ⊢;exact λ v=>ih v (by omega) (h v)
 | cell r k ih =>
  intro n c c' hc h
  cases c with
  | zero=>simp[bS] at h
  | succ c =>
   cases c' with
   | zero=>omega
   | succ c'=>simp only[bS] at h ⊢;exact λ v=>ih v (by omega) (h v)
 | gen k ih =>
  intro n c c' hc h
  cases c with
  | zero=>simp[bS] at h
  | succ c =>
   cases c' with
   | zero=>omega
   | succ c'=>simp only[bS] at h ⊢;exact λ v=>ih v (by omega) (h v)
 | node r k ih =>
  intro n c c' hc h
  cases c<;>cases c'<;>simp only[bS] at h ⊢ <;> exact λ v=>ih v (by omega) (h v)
section
variable{n c:Nat}
theorem pQ{a:Int}{k:Int->Tr}(h:∀n',n'<n->∀v,bS (k v) n' 64):bS (.load a k) n c:=by
 cases n with
 | zero=>simp[bS]
 | succ n=>simp only[bS];exact h n (Nat.lt_succ_self n)
theorem C4{a o m:Int}{k:Bool->Tr}(h:∀n',n'<n->∀v,bS (k v) n' 64):bS (.iQ a o m k) n c:=by
 cases n with
 | zero=>simp[bS]
 | succ n=>simp only[bS];exact h n (Nat.lt_succ_self n)
theorem My{a:Nv}{i:Int}{k:Int->Tr}(h:∀v,bS (k v) n c):bS (.alloc a i k) n (c+1):=by simp only[bS];exact h
theorem aAr{i:Int}{k:Int->Tr}(h:∀v,bS (k v) n c):bS (.cell i k) n (c+1):=by simp only[bS];exact h
theorem aBl{k:Int->Tr}(h:∀v,bS (k v) n c):bS (.gen k) n (c+1):=by simp only[bS];exact h
theorem cW{r:Int}{k:Nv->Tr}(h:∀v,bS (k v) n c):bS (.node r k) n c:=by
 cases c<;>simp only[bS]<;>exact h
abbrev Ia{X:Type}(K:X->Tr)(n:Nat):Prop:=∀n',n'<n->∀v,bS (K v) n' 64
theorem Ia.lt{X:Type}{K:X->Tr}{m:Nat}(h:Ia K n)(hm:m<=n):Ia K m:=λ n' h' v=>h n' (by omega) v
theorem Z9{v s:Int}{K:Int->Tr}(h:∀w,bS (K w) n c):bS (aAn v s K) n c:=cW λ _=>h _
theorem vM{t:dO}{v s:Int}{K:Int->Tr}(h:Ia K n):bS (jX t v s K) n c:=Z9 λ _=>C4 λ n' hn _=>h n' hn _
theorem Xb{t:dO}{K:Int->Tr}(h:Ia K n):bS (Ji t K) n c:=pQ λ n1 h1 v=>cW λ nv=>by
 split
 ·exact h n1 h1 v
 ·exact cW λ _=>pQ λ n2 h2 s=>by
   split
   ·exact cW λ _=>C4 λ n3 h3 _=>cW λ _=>pQ λ n4 h4 _=>vM (h.lt (by omega))
   ·exact vM (h.lt (by omega))
theorem Od{i m p:Int}{K:Int->Tr}(h:Ia K n):bS (Nh i m p K) n c:=cW λ _=>cW λ _=>C4 λ n' hn _=>cW λ _=>h n' hn _
theorem A6{i m:Int}{K:Int->Tr}(h:Ia K n):bS (jV i m K) n c:=cW λ _=>pQ λ n1 h1 p=>by
 split
 ·exact h n1 h1 _
 ·exact Od (h.lt (by omega))
theorem Kc{i m p:Int}{b:Bool}{K:Int->Tr}(h:Ia K n)(hc:1<=c):bS (rA i m p b K) n c:=by
 unfold rA
 split
 ·exact cW λ _=>C4 λ n1 h1 _=>A6 (h.lt (by omega))
 ·obtain⟨c,rfl⟩:∃d,c=d+1:=⟨c-1,by omega⟩
  exact cW λ _=>My λ _=>C4 λ n1 h1 _=>A6 (h.lt (by omega))
theorem Cr{t:dO}{i m:Int}{K:Int->Tr}(h:Ia K n):bS (qW t i m K) n c:=cW λ _=>pQ λ n1 h1 p=>by
 split
 ·exact h n1 h1 _
 ·refine cW λ _=>?_
  split
  ·split
   ·exact Kc (h.lt (by omega)) (by decide)
   ·exact Xb λ n2 h2 _=>cW λ _=>cW λ _=>Kc (h.lt (by omega)) (by decide)
  ·exact Od (h.lt (by omega))
theorem gP{t:dO}{i:Int}{K:Int->Tr}(h:Ia K n):bS (mJ t i K) n c:=cW λ _=>pQ λ n1 h1 _=>Cr (h.lt (by omega))
theorem C1{t:dO}{v:Int}{K:Tr}(h:∀n',n'<n->bS K n' 64):bS (jN t v K) n c:=cW λ _=>gP λ n1 h1 _=>cW λ _=>cW λ _=>C4 λ n2 h2 _=>h n2 (by omega)
theorem pJ{t:dO}{K:Int->Tr}(h:Ia K n):bS (kF t K) n c:=pQ λ n1 h1 v=>cW λ nv=>by
 split
 ·exact h n1 h1 v
 ·exact cW λ _=>pQ λ n2 h2 s=>by
   split
   ·exact C1 λ n3 h3=>cW λ _=>pQ λ n4 h4 _=>vM (h.lt (by omega))
   ·exact vM (h.lt (by omega))
theorem kL{t:dO}{i o m:Int}{K:Bool->Tr}(h:Ia K n):bS (oI t i o m K) n c:=cW λ _=>C4 λ n1 h1 b=>by
 split
 ·exact Cr λ n2 h2 _=>h n2 (by omega) _
 ·exact h n1 h1 _
theorem zD{t:dO}{o e m:Int}{K:Bool->Tr}(h:Ia K n)(hc:1<=c):bS (jK t o e m K) n c:=by
 obtain⟨c,rfl⟩:∃d,c=d+1:=⟨c-1,by omega⟩
 exact My λ _=>C4 λ n1 h1 b=>by
  split
  ·exact C1 λ n2 h2=>cW λ _=>pQ λ n3 h3 _=>vM λ n4 h4 _=>h n4 (by omega) _
  ·exact h n1 h1 _
end
end
section
section
variable{n c:Nat}
theorem fM{a:Nv}{i:Int}{k:Int->Tr}(hc:1<=c)(h:∀v,bS (k v) n (c-1)):bS (.alloc a i k) n c:=by
 obtain⟨c,rfl⟩:∃d,c=d+1:=⟨c-1,by omega⟩
 exact My h
theorem Ci{a i r:Int}{K:Int->Tr}(hc:1<=c)(h:∀v,bS (K v) n (c-1)):bS (Eo a i r K) n c:=cW λ _=>fM hc h
theorem Q5{t:dO}{i o x:Int}{K:Int->Tr}(h:Ia K n):bS (Me t i o x K) n c:=cW λ _=>gP λ n1 h1 _=>cW λ _=>fM (by decide) λ _=>Ci (by decide) λ _=>kL λ n2 h2 _=>h n2 (by omega) _
theorem zE{t:dO}{p o:Int}{h0:Nat}{l:Int}{K:Bool->Tr}(h:Ia K n):bS (yW t p o h0 l K) n c:=gP λ n1 h1 _=>cW λ _=>by
 split
 ·exact gP λ n2 h2 _=>cW λ _=>by
   split
   ·exact fM (by decide) λ _=>cW λ _=>fM (by decide) λ _=>kL λ n3 h3 _=>h n3 (by omega) _
   ·exact h n2 (by omega) _
 ·exact h n1 h1 _
theorem Km{t:dO}{h0:Nat}{key:ByteArray}{K:Rs->Tr}:∀(q n c:Nat) (i level:Int),n<q->Ia K n->bS (Db t h0 key K q i level) n c
 | 0,n,c,i,level,hq,_=>absurd hq (Nat.not_lt_zero n)
 | q+1,n,c,i,level,hq,h=>gP λ n1 h1 _=>cW λ _=>by
  split
  ·split<;>exact h n1 h1 _
  ·split
   ·exact h n1 h1 _
   ·split
    ·exact h n1 h1 _
    ·exact cW λ _=>by
      split
      ·split<;>exact h n1 h1 _
      ·exact Km q n1 64 _ _ (by omega) (h.lt (by omega))
theorem Qc:∀(l:List NI) (r:Int) (K:Int->Tr) (n c:Nat),l.length<=c->(∀v,bS (K v) n (c-l.length))->bS (Aj l r K) n c
 | [],r,K,n,c,_,h=>h r
 | a::l,r,K,n,c,hc,h=>by
  have hc':l.length+1<=c:=by simpa using hc
  exact fM (by omega) λ v=>Qc l v K n (c-1) (by omega) (λ u=>by have:=h u;rw[List.length_cons] at this;rwa [show c-1-l.length=c-(l.length+1) by omega])
theorem Xw{k:Cl}{b:Int}{h0 level:Nat}{gen:Int}{K:Int->Tr}(hc:32<=c)(h:∀v,bS (K v) n (c-32)):bS (Vl k b h0 level gen K) n c:=cW λ nb=>fM (by omega) λ f=>by
 have hl:(dP b nb.hash.toNat h0 (nb.key,nb.val) k.key k.val gen f.toNat level).tail.length<=31:=by
  have h1:=Sc (x:=b) (h0:=nb.hash.toNat) (h:=h0) (p0:=(nb.key,nb.val)) (k:=k.key) (u:=k.val) (gen:=gen) (f:=f.toNat) (lB nb.hash.toNat h0-level) (lB nb.hash.toNat h0-(lB nb.hash.toNat h0-level))
  have h2:=zB nb.hash.toNat h0
  rw[List.length_tail]
  unfold dP
  omega
 exact Qc _ _ _ _ _ (by omega) λ v=>yl (by omega) (h v)
theorem K2{k:Cl}{i m:Int}{h0 level:Nat}{gen:Int}{K:Rs->Int->Tr}(h:∀n',n'<=n->∀r w,bS (K r w) n' 64):bS (lY k i m h0 level gen K) n 64:=cW λ nb=>by
 split
 ·split
  ·exact fM (by decide) λ _=>kL λ n1 h1 _=>h n1 (by omega) _ _
  ·exact h n (Nat.le_refl n) _ _
 ·split
  ·split
   ·exact fM (by decide) λ _=>fM (by decide) λ _=>kL λ n1 h1 _=>h n1 (by omega) _ _
   ·exact h n (Nat.le_refl n) _ _
  ·refine cW λ _=>?_
   split
   ·exact h n (Nat.le_refl n) _ _
   ·split
    ·split
     ·exact fM (by decide) λ _=>Ci (by decide) λ _=>kL λ n1 h1 _=>h n1 (by omega) _ _
     ·exact h n (Nat.le_refl n) _ _
    ·split
     ·exact Xw (by decide) λ _=>fM (by decide) λ _=>Ci (by decide) λ _=>kL λ n1 h1 _=>h n1 (by omega) _ _
     ·exact h n (Nat.le_refl n) _ _
theorem Hr{k:Cl}{i m x gen:Int}{K:Int->Tr}(h:∀n',n'<=n->∀v,bS (K v) n' 64):bS (H2 k i m x gen K) n 64:=cW λ _=>cW λ _=>by
 split
 ·exact h n (Nat.le_refl n) _
 ·exact Q5 λ n1 h1 _=>h n1 (by omega) _
theorem Gy{k:Cl}{h0:Nat}{K:Rs->Tr}{again:Tr}{gen:Int}:∀(q n c:Nat) (i parent:Int) (level:Nat),n<q->Ia K n->(∀n',n'<n->bS again n' 64)->bS (Dd k h0 K again gen q i parent level) n c
 | 0,n,c,i,p,level,hq,_,_=>absurd hq (Nat.not_lt_zero n)
 | q+1,n,c,i,p,level,hq,h,ha=>gP λ n1 h1 _=>cW λ _=>by
  split
  ·exact zE λ n2 h2 _=>ha n2 (by omega)
  ·refine K2 λ n2 h2 r w=>?_
   split
   ·exact h n2 (by omega) _
   ·split
    ·exact ha n2 (by omega)
    ·refine Hr λ n3 h3 v=>?_
     split
     ·exact ha n3 (by omega)
     ·exact Gy q n3 64 _ _ _ (by omega) (h.lt (by omega)) (λ n4 h4=>ha n4 (by omega))
theorem Np{k:Cl}{h0:Nat}{K:Rs->Tr}:∀(q n c:Nat),n<q->Ia K n->bS (A5 k h0 K q) n c
 | 0,n,c,hq,_=>absurd hq (Nat.not_lt_zero n)
 | q+1,n,c,hq,h=>pJ λ n1 h1 _=>cW λ _=>Gy q n1 64 _ _ _ (by omega) (h.lt (by omega)) (λ n2 h2=>Np q n2 64 (by omega) (h.lt (by omega)))
theorem Ik{k:Cl}{i m:Int}{h0 level:Nat}{K:Rs->Int->Tr}(h:∀n',n'<=n->∀r w,bS (K r w) n' 64):bS (kI k i m h0 level K) n 64:=cW λ nb=>by
 split
 ·split
  ·exact h n (Nat.le_refl n) _ _
  ·exact fM (by decide) λ _=>kL λ n1 h1 _=>h n1 (by omega) _ _
 ·split
  ·exact h n (Nat.le_refl n) _ _
  ·refine cW λ _=>?_
   split
   ·exact h n (Nat.le_refl n) _ _
   ·split
    ·exact h n (Nat.le_refl n) _ _
    ·split
     ·exact h n (Nat.le_refl n) _ _
     ·exact cW λ _=>fM (by decide) λ _=>kL λ n1 h1 _=>h n1 (by omega) _ _
theorem U7{t:dO}{path:List Int}{h0:Nat}{K:Tr}:∀(l n:Nat),(∀n',n'<=n->bS K n' 64)->bS (wi t path h0 K l) n 64
 | 0,n,h=>h n (Nat.le_refl n)
 | l+1,n,h=>gP λ n1 h1 _=>cW λ _=>by
  split
  ·exact zE λ n2 h2 _=>U7 l n2 (λ n3 h3=>h n3 (by omega))
  ·exact h n1 (by omega)
theorem C3{k:Cl}{h0:Nat}{K:Rs->Tr}{again:Tr}{gen:Int}:∀(q n c:Nat) (i:Int) (path:List Int) (level:Nat),n<q->Ia K n->(∀n',n'<n->bS again n' 64)->bS (wG k h0 K again gen q i path level) n c
 | 0,n,c,i,p,level,hq,_,_=>absurd hq (Nat.not_lt_zero n)
 | q+1,n,c,i,p,level,hq,h,ha=>gP λ n1 h1 _=>cW λ _=>by
  split
  ·exact zE λ n2 h2 _=>ha n2 (by omega)
  ·refine Ik λ n2 h2 r w=>?_
   split
   ·split
    ·exact U7 _ _ λ n3 h3=>h n3 (by omega) _
    ·exact h n2 (by omega) _
   ·split
    ·exact ha n2 (by omega)
    ·refine Hr λ n3 h3 v=>?_
     split
     ·exact ha n3 (by omega)
     ·exact C3 q n3 64 _ _ _ (by omega) (h.lt (by omega)) (λ n4 h4=>ha n4 (by omega))
theorem Iy{k:Cl}{h0:Nat}{K:Rs->Tr}:∀(q n c:Nat),n<q->Ia K n->bS (qU k h0 K q) n c
 | 0,n,c,hq,_=>absurd hq (Nat.not_lt_zero n)
 | q+1,n,c,hq,h=>pJ λ n1 h1 _=>cW λ _=>C3 q n1 64 _ _ _ (by omega) (h.lt (by omega)) (λ n2 h2=>Iy q n2 64 (by omega) (h.lt (by omega)))
theorem Ku{i:Int}{k:Int->Tr}(hc:1<=c)(h:∀v,bS (k v) n (c-1)):bS (.cell i k) n c:=by
 obtain⟨c,rfl⟩:∃d,c=d+1:=⟨c-1,by omega⟩
 exact aAr h
theorem Q3{k:Int->Tr}(hc:1<=c)(h:∀v,bS (k v) n (c-1)):bS (.gen k) n c:=by
 obtain⟨c,rfl⟩:∃d,c=d+1:=⟨c-1,by omega⟩
 exact aBl h
theorem kJ{r:Rs}:bS (.done r) n c:=by simp[bS]
theorem Jh{m:Int}:bS (Jt m .done) n 64:=Q3 (by decide) λ _=>fM (by decide) λ _=>Ku (by decide) λ _=>kJ
theorem Jf{t:dO}{fz:Bool}:∀(q n c:Nat),n<q->bS (Gf t fz .done q) n c
 | 0,n,c,hq=>absurd hq (Nat.not_lt_zero n)
 | q+1,n,c,hq=>pJ λ n1 h1 _=>gP λ n2 h2 _=>Q3 (by decide) λ _=>fM (by decide) λ _=>zD (λ n3 h3 b=>by
  split
  ·split
   ·exact Ku (by decide) λ _=>kJ
   ·exact Jh
  ·exact Jf q n3 64 (by omega)) (by decide)
theorem Gn{t:dO}{fz:Bool}{q:Nat}(h:n<q):bS (sX t fz .done q) n c:=by
 unfold sX
 split
 ·exact pQ λ n1 h1 _=>by
   split
   ·exact Ku (by decide) λ _=>kJ
   ·exact gP λ n2 h2 _=>Jh
 ·exact Jf q n c h
theorem Fe{t:dO}:∀(q n c:Nat),n<q->bS (wP t .done q) n c
 | 0,n,c,hq=>absurd hq (Nat.not_lt_zero n)
 | q+1,n,c,hq=>pJ λ n1 h1 _=>gP λ n2 h2 _=>fM (by decide) λ _=>Q3 (by decide) λ _=>fM (by decide) λ _=>zD (λ n3 h3 b=>by
  split
  ·exact kJ
  ·exact Fe q n3 64 (by omega)) (by decide)
theorem Iv{k:Cl}{h0 q:Nat}(h:n<q):bS (kX k h0 q) n 64:=by
 have hd:∀{X:Type} {K:X->Rs},Ia (λ v=>Tr.done (K v)) n:=λ _ _ _=>kJ
 unfold kX
 split
 ·exact kJ
 split
 ·exact gP hd
 split
 ·exact kL hd
 split
 ·exact pJ hd
 split
 ·exact zD hd (by decide)
 split
 ·exact pJ λ n1 h1 _=>Km q n1 64 _ _ (by omega) (λ _ _ _=>kJ)
 split
 ·exact Np q n 64 h (λ _ _ _=>kJ)
 split
 ·exact Iy q n 64 h (λ _ _ _=>kJ)
 split
 ·exact Gn h
 split
 ·exact Gn h
 ·exact Fe q n 64 h
end
end
end Go.Proofs.YtbajmaoegmbfgaaGreat
namespace Go.Ct
open Go Go.RowKit
section
section
variable{P:Program}{S:List (Nat×Value)}{d:Nat}{ty t t' e:TypeId}{pos:String}{af:Array Edge}{gd:Option (Nat×Bool)}{x y:Operand}{w0 w:World}{M:List Nat}{H:List (Nat×Obj)}{A F:Fr}{O:List Ow}{a:Option Addr}
theorem Wa{cs:List Value}{kk:IntKind}{m c k:Nat}(hx:ev S x=.slice a m c)(hy:ev S y=.int kk ((k:Nat):Int))(ht:P.underlying t=some (.slice e))(hs:one P e=true)(hf:rK A F O a cs)(h1:k<m)(h2:k<cs.length) :
  aK P S (SF w0 M H A F O) ⟨some d,.indexAddr t x y,ty,pos,af,gd⟩ (.pointer (some ⟨dA a,eH a+k,none⟩)):=⟨λ w hw =>
 (A3 (G:=SF w0 M H A F O) hx hy ht hs ((hw.cl hf).ptr (by omega)) h1).run w hw⟩
theorem V5{cs:List Value}{q:Nat}{v:Value}(hx:ev S x=.pointer (some ⟨dA a,eH a+q,none⟩))(ht:one P t=true)(hf:rK A F O a cs)(hq:cs[q]?=some v) :
  aK P S (SF w0 M H A F O) ⟨some d,.load t x,ty,pos,af,gd⟩ v:=rC hx ht (λ w hw=>hw.cl hf) hq
theorem N5{cs:List Value}{kk:IntKind}{m c k:Nat}(hx:ev S x=.slice a m c)(hy:ev S y=.int kk ((k:Nat):Int))(ht:P.underlying t=some (.slice e))(hs:kQ P e 2=true)(hf:rK A F O a cs)(h1:k<m)(h2:2*k<cs.length) :
  aK P S (SF w0 M H A F O) ⟨some d,.indexAddr t x y,ty,pos,af,gd⟩ (.pointer (some ⟨dA a,eH a+2*k,none⟩)):=⟨λ w hw =>
 (Qp (G:=SF w0 M H A F O) hx hy ht hs ((hw.cl hf).ptr (by omega)) h1).run w hw⟩
end
end
end Go.Ct
namespace Go.Proofs.YtbajmaoegmbfgaaGreat
open Go.Proofs.Tryz (prog)
open Go Go.RowKit Go.Ct
section
def qP(ts:List dO):List Value:=ts.flatMap λ t=>[.int .i64 t.root,.bool t.ro]
def uW(es:List Nat):List Value:=es.map λ b=>.pointer (some ⟨b,0,none⟩)
theorem lP:∀ts:List dO,(qP ts).length=ts.length*2
 | []=>rfl
 | t::ts=>by
  have:=lP ts
  simp only[qP,List.flatMap_cons,List.length_append,List.length_cons,List.length_nil] at this ⊢
  omega
theorem Zb(ts:List dO)(t:dO):qP (ts++[t])=qP ts++[.int .i64 t.root,.bool t.ro]:=by simp[qP]
theorem iz(es:List Nat)(b:Nat):uW (es++[b])=uW es++[.pointer (some ⟨b,0,none⟩)]:=by simp[uW]
theorem yT(es:List Nat):(uW es).length=es.length:=by simp[uW]
theorem F8:dS prog 32 29 [.int .i64 0,.bool false]:=lZ (z:=.agg ⟨[.int .i64 0,.bool false]⟩) (by kernel_rfl) (by kernel_rfl) rfl
theorem Pt:dS prog 33 74 [.pointer none]:=lZ (z:=.pointer none) (by kernel_rfl) (by kernel_rfl) rfl
theorem uf:dS prog 169 31 [.int .u64 0]:=lZ (z:=.int .u64 0) (by kernel_rfl) (by kernel_rfl) rfl
abbrev lV(bm:Nat)(mask:Int)(pt:Option Addr)(nt kt:Nat)(pe:Option Addr)(ne ke:Nat):Obj:=.cells ⟨[.pointer (some ⟨bm,0,none⟩),.int .u64 mask,.slice pt nt kt,.slice pe ne ke]⟩ 35 (0,0)
def As:List Int:=[18446744073709551615,0,1,64,63,4095,9223372036854775808,4032,3458764513820540928,18446744073709551615]
theorem xo{l:List Int}{a:Option Addr}{b c k:Nat}{w:World}(ht:mj w b a l c k) :
  Calls prog 65 #[.pointer (some ⟨b,0,none⟩)] w λ e w' =>
  ∃v:Nat,e=.returned (.int .u64 (As.getD v 0))/\v<10/\SF w [b] ((b,El a l c (kY l k))::[]) [] [] [] w':=by
 refine enter Tryz.func65 Tryz.ntmps65 rfl rfl ht.start ?_
 simp only[cE]
 refine cZ ?_;refine J0 ?_;refine aM ((by exact F2 (λ _=>cL (cs:=As.map (Value.int .u64)) uf Ii rfl rfl rfl rfl rfl))) (λ x3=>?_);refine aA ?_;refine aC (vC (hc:=λ w1 hw=>eM 10 (hw.tape cR fin ht.len) (by decide) (by decide))) (λ x5 h5=>?_);refine aB (Wa (cs:=As.map (Value.int .u64)) rf rf gO gA fin (by omega) (by rw[List.length_map];simp only[As,List.length_cons,List.length_nil];omega)) rfl ?_;refine aB (V5 (cs:=As.map (Value.int .u64)) (v:=.int .u64 (As.getD x5 0)) rf gA fin (by rw[List.getElem?_map,jS,List.getElem?_eq_getElem (by simp only[As,List.length_cons,List.length_nil];omega)];rfl)) rfl ?_;refine J1 ?_
 refine aN Tryz.results65 (λ w hw=>?_)
 exact⟨x5,rfl,by omega,hw.aX⟩
theorem xm{l:List Int}{a:Option Addr}{b c k:Nat}{w:World}(ht:mj w b a l c k) :
  Calls prog 53 #[.pointer (some ⟨b,0,none⟩)] w λ e w' =>
  ∃v:Bool,e=.returned (.bool v)/\True/\SF w [b] ((b,El a l c k)::[]) [] [] [] w':=by
 refine enter Tryz.func53 Tryz.ntmps53 rfl rfl ht.start ?_
 simp only[cE]
 refine Er ?_;refine gM [0,1,2,3,4,5,6,7,8,9,10] ?_;refine Dt ?_;refine nW ?_;refine Al ?_;refine J7 ?_
 refine aN Tryz.results53 (λ w hw=>?_)
 exact⟨_,rfl,trivial,hw.aX⟩
end
end Go.Proofs.YtbajmaoegmbfgaaGreat

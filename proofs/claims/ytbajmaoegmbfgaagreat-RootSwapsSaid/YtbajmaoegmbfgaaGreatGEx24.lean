/- Executions of the reference: one repetition. -/
import Derived.Test.YtbajmaoegmbfgaaGreatEx23
import Derived.Test.YtbajmaoegmbfgaaGreatGTp2

set_option linter.unusedSimpArgs false
set_option linter.unusedVariables false
namespace Go.Ct
section
open Go Go.RowKit
theorem n9{L:List Nv}{r:Rs}{gs ms cl gn:List Int}{R:Tr}(h:Wk L (.done r) gs ms cl gn R):gs=[]/\ms=[]/\cl=[]/\gn=[]/\R=.done r:=by
 cases h
 exact⟨rfl,rfl,rfl,rfl,rfl⟩
def XS.re(x:XS)(free:Nat):XS:={x with a:=0,m:=0,c:=0,g:=0,fr:=free,st:=false}
theorem z8{T R:Tr}{x:XS}{free N:Nat}(hw:Wk x.nodes T x.got x.made x.cel x.gns R)(hN:x.got.length+free=N):fP ⟨T,R,x.mm,free,N⟩ (x.re free) T:=.inl ⟨rfl,R,⟨Wk.nil _,hw,by show Rc (free-free) R x.mm R x.mm;rw[Nat.sub_self];exact Rc.refl _ _,Nat.le_refl _,Nat.zero_le _,Nat.zero_le _,Nat.zero_le _,Nat.zero_le _,hN⟩⟩
structure uE(T R:Tr)(free N:Nat)(rs:Rs)(x x':XS)(N':List aU)(dn':Bool)(rs':Rs):Prop where
 ok:x'.Ok
 ext:x'.L=x.L++N'
 lc:x.cs.length<=x'.cs.length
 gl:x'.got.length<=N
 Qp:(dn'=true/\∃j,j<=free/\x'.got.length+free=N+j/\Wk x'.nodes T x'.got x'.made x'.cel x'.gns (.done rs')/\Rc j R x.mm (.done rs') x'.mm)∨(dn'=false/\rs'=rs/\x'.got.length=N/\∃R',R'.acc=some x'.nx/\Wk x'.nodes T x'.got x'.made x'.cel x'.gns R'/\Rc free R x.mm R' x'.mm)
theorem Nx.r7{T R:Tr}{free N:Nat}{rs r:Rs}{x x':XS}{N':List aU}(h:Nx ⟨T,R,x.mm,free,N⟩ (x.re free) x' N' (.done r) 0)(hs:x'.st=false):uE T R free N rs x x' N' true r:=by
 obtain⟨R',hR⟩:=h.go.run hs
 obtain⟨e1,e2,e3,e4,e5⟩:=n9 hR.suf
 refine⟨h.ok,h.ext,h.lc,(by have:=hR.hN;show x'.got.length<=N;simp only at this;omega),.inl ⟨rfl,free-x'.fr,Nat.sub_le _ _,(by have:=hR.hN;have:=hR.hf;simp only at *;omega),?_,e5▸hR.rc⟩⟩
 have hp:=hR.pre
 rwa [List.take_of_length_le (List.drop_eq_nil_iff.1 e1),List.take_of_length_le (List.drop_eq_nil_iff.1 e2),List.take_of_length_le (List.drop_eq_nil_iff.1 e3),List.take_of_length_le (List.drop_eq_nil_iff.1 e4)] at hp
theorem Nx.r5{T R:Tr}{free N:Nat}{rs r:Rs}{x x':XS}{N':List aU}(h:Nx ⟨T,R,x.mm,free,N⟩ (x.re free) x' N' (.done r) 0)(hs:x'.st=true):uE T R free N rs x x' N' false rs:=by
 rcases h.go with h1|h1
 ·rw[hs] at h1;exact nomatch h1.1
 ·obtain⟨R',hR⟩:=h1.2
  exact⟨h.ok,h.ext,h.lc,Nat.le_of_eq hR.hN,.inr ⟨rfl,rfl,hR.hN,R',hR.ac,hR.wk,hR.rc⟩⟩
end
end Go.Ct
namespace Go.Proofs.YtbajmaoegmbfgaaGreat
section
open Go Go.RowKit Go.Ct
section
variable{k:Cl}{bx bm:Nat}{x:XS}{rs:Rs}{D:List Nat}{A:Fr}{w:World}
theorem Ob{m n N:Nat}{R:Tr}(free:Nat)(hg:Gx.Ok ⟨kA k (lX k.key m) n,R,x.mm,free,N⟩)(hwk:Wk x.nodes (kA k (lX k.key m) n) x.got x.made x.cel x.gns R)(hN:x.got.length+free=N)(hk:V6 k)(hn:n<=1073741824)(hm:m<18446744073709551616)(em:k.mask=(m:Int))(ht:k.t.root<=9223372036854775807)(ha:k.a<=x.L.length)(hb:k.b<=x.L.length)(hnn:k.n<=x.L.length)(hA:∀f∈aL x.L,f∈A)(ok:x.Ok)(hs:SF w D (xH k bx bm x false rs) A [] (xW x) w):Calls Tryz.prog 99 #[.pointer (some ⟨bx,0,none⟩),.int .i64 (free:Int)] w λ e w'=>∃q:XS×List aU×Bool×Rs,e=.returned (.tuple #[])/\uE (kA k (lX k.key m) n) R free N rs x q.1 q.2.1 q.2.2.1 q.2.2.2/\SF w D (xH k bx bm q.1 q.2.2.1 q.2.2.2) [] (aL q.2.1) (xW q.1) w':=by
 have hfr:=hg.hf
 have ok0:(x.re free).Ok:=ok.rh rfl rfl rfl rfl rfl rfl (Nat.zero_le _) (Nat.zero_le _) (Nat.zero_le _) (Nat.zero_le _) hfr
 refine enter Tryz.func99 Tryz.ntmps99 rfl rfl (bV hs) ?_
 simp only[bW]
 refine iU ?_;refine oW ?_;refine oW ?_;refine aA ?_;refine Lg ?_;refine cG (by exact hY λ _=>eT rf cN wn rf gM rf rf jP) (λ _=>?_);refine Lg ?_;refine cG (by exact hY λ _=>eT rf cN wn rf gM rf rf jP) (λ _=>?_);refine Lg ?_;refine cG (by exact hY λ _=>eT rf cN wn rf gM rf rf jP) (λ _=>?_);refine Lg ?_;refine cG (by exact hY λ _=>eT rf cN wn rf gM rf rf jP) (λ _=>?_);refine Lg ?_;refine cG (by exact hY λ _=>eT rf cN wn rf gM rf rf jP) (λ _=>?_);refine Lg ?_;refine cG (by exact hY λ _=>eT rf cN wn rf gM rf rf jP) (λ _=>?_);refine aH ?_;refine J2 ?_;refine aC (cM (hs:=xH k bx bm (x.re free) false rs) (os:=xW (x.re free)) (A0:=aL x.L) (hA:=bA.of λ f hf=>.inr (.inl (hA f hf))) (hc:=λ w hs=>z7 hg (x:=x.re free) n hk hn hm em ht ha hb hnn (λ f hf=>hf) (z8 hwk hN) ok0 hs)) (λ x25 h25=>?_);refine aJ (λ x4=>?_);refine cG (by exact(hY λ _=>bF rf cN rf rf dV rf jP)) (λ _=>?_);refine aH ?_;refine kK ?_;refine nY ?_
 refine bB (λ c30=>?_) (λ c30=>?_)
 ·refine dS [(0,[]),(1,[]),(2,[]),(3,[]),(4,[]),(5,[2]),(6,[]),(7,[]),(8,[])] ?_;refine hX ?_;refine bM ?_;refine J4 ?_;refine kU (i:=5) (hq:=(by exact hY λ _=>eT rf cN wn rf gM rf rf jP)) (h:=λ _=>?_);refine J4 ?_;refine kU (i:=8) (hq:=(hY λ _=>lB (off:=41) (vs:=x25.1.cells) rf cN rf rfl dV (Nat.le_of_ble_eq_true rfl) rf jP)) (h:=λ _=>?_);refine dX ?_
  refine Dk Tryz.results99 (λ w hw=>?_)
  first
  | exact⟨(x25.2.1,x25.2.2,true,x25.1),rfl,h25.r7 (by simpa using c30),by rw[List.append_nil] at hw;exact hw.aS (hF:=by exact aX.all)⟩
  | exact⟨(x25.2.1,x25.2.2,false,rs),rfl,h25.r5 (by simpa using c30),by rw[List.append_nil] at hw;exact hw.aS (hF:=by exact aX.all)⟩
 ·refine aW ?_
  refine Dk Tryz.results99 (λ w hw=>?_)
  first
  | exact⟨(x25.2.1,x25.2.2,true,x25.1),rfl,h25.r7 (by simpa using c30),by rw[List.append_nil] at hw;exact hw.aS (hF:=by exact aX.all)⟩
  | exact⟨(x25.2.1,x25.2.2,false,rs),rfl,h25.r5 (by simpa using c30),by rw[List.append_nil] at hw;exact hw.aS (hF:=by exact aX.all)⟩
end
end

/- Executions of the reference: steps. -/
end Go.Proofs.YtbajmaoegmbfgaaGreat
namespace Go.Ct
section
open Go Go.RowKit
theorem Gm{R:Tr}{a:Ac}(h:R.acc=some a){n c:Nat}(ht:bQ R n c)(hn:1<=n):bQ R n 64:=by
 cases R<;>simp only[Tr.acc,reduceCtorEq] at h
 ·cases n with
  | zero=>omega
  | succ n=>simpa only[bQ] using ht
 ·cases n with
  | zero=>omega
  | succ n=>simpa only[bQ] using ht
structure j7(T:Tr)(x:XS)(dn:Bool)(rs:Rs)(R:Tr):Prop where
 ok:x.Ok
 wk:Wk x.nodes T x.got x.made x.cel x.gns R
 Qp:(dn=true/\R=.done rs)∨(dn=false/\R.acc=some x.nx)
theorem uE.exI{T R:Tr}{free N:Nat}{rs rs':Rs}{x x':XS}{N':List aU}{dn':Bool}(h:uE T R free N rs x x' N' dn' rs'):∃R' j,j<=free/\(dn'=false->j=free)/\j7 T x' dn' rs' R'/\Rc j R x.mm R' x'.mm/\x'.L=x.L++N'/\x.cs.length<=x'.cs.length:=by
 rcases h.Qp with⟨e,j,h1,_,h2,h3⟩|⟨e,_,_,R',h1,h2,h3⟩
 ·exact⟨_,j,h1,(λ h=>by rw[e] at h;cases h),⟨h.ok,h2,.inl ⟨e,rfl⟩⟩,h3,h.ext,h.lc⟩
 ·exact⟨R',free,Nat.le_refl _,λ _=>rfl,⟨h.ok,h2,.inr ⟨e,h1⟩⟩,h3,h.ext,h.lc⟩
theorem uE.exN{T R:Tr}{free N:Nat}{rs rs':Rs}{x x':XS}{N':List aU}{dn':Bool}(h:uE T R free N rs x x' N' dn' rs'):∃R' j,j<=free/\(dn'=false->j=free)/\j7 T x' dn' rs' R'/\Rc j R x.mm R' x'.mm/\x'.L=x.L++N'/\x.cs.length<=x'.cs.length/\x'.got.length+free=N+j:=by
 rcases h.Qp with⟨e,j,h1,h0,h2,h3⟩|⟨e,_,h0,R',h1,h2,h3⟩
 ·exact⟨_,j,h1,(λ h=>by rw[e] at h;cases h),⟨h.ok,h2,.inl ⟨e,rfl⟩⟩,h3,h.ext,h.lc,h0⟩
 ·exact⟨R',free,Nat.le_refl _,λ _=>rfl,⟨h.ok,h2,.inr ⟨e,h1⟩⟩,h3,h.ext,h.lc,by rw[h0]⟩
end
end Go.Ct
namespace Go.Proofs.YtbajmaoegmbfgaaGreat
section
open Go Go.RowKit Go.Ct
section
variable{k:Cl}{bx bm:Nat}{x:XS}{dn:Bool}{rs:Rs}{D:List Nat}{A:Fr}{w:World}
theorem Fw(hs:SF w D (xH k bx bm x dn rs) A [] (xW x) w):Calls Tryz.prog 69 #[.pointer (some ⟨bx,0,none⟩)] w λ e w'=>∃q:Unit,e=.returned (.bool dn)/\True/\SF w D (xH k bx bm x dn rs) [] [] (xW x) w':=by
 refine enter Tryz.func69 Tryz.ntmps69 rfl rfl (bV hs) ?_
 simp only[bW]
 refine cP ?_;refine kK ?_;refine J1 ?_
 refine aQ Tryz.results69 (λ w hw=>?_)
 exact⟨(),rfl,trivial,hw.aS⟩
theorem Mw(hs:SF w D (xH k bx bm x dn rs) A [] (xW x) w):Calls Tryz.prog 135 #[.pointer (some ⟨bx,0,none⟩)] w λ e w'=>∃q:Unit,e=.returned (.agg ⟨rs.cells⟩)/\True/\SF w D (xH k bx bm x dn rs) [] [] (xW x) w':=by
 refine enter Tryz.func135 Tryz.ntmps135 rfl rfl (bV hs) ?_
 simp only[bW]
 refine J0 ?_;refine aJ (λ x2=>?_);refine aH ?_;refine Ex ?_;refine aB (aN (k:=8) (vs:=rs.cells) rf cN dV rfl rfl) rfl ?_;refine J5 ?_
 refine aZ Tryz.results135 (λ w hw=>?_)
 exact⟨(),rfl,trivial,hw.aS⟩
theorem nu(hs:SF w D (xH k bx bm x dn rs) A [] (xW x) w):Calls Tryz.prog 132 #[.pointer (some ⟨bx,0,none⟩)] w λ e w'=>∃q:Unit,e=.returned (.int .i64 (x.got.length:Int))/\True/\SF w D (xH k bx bm x dn rs) [] [] (xW x) w':=by
 refine enter Tryz.func132 Tryz.ntmps132 rfl rfl (bV hs) ?_
 simp only[bW]
 refine cP ?_;refine kK ?_;refine dE ?_;refine J1 ?_
 refine aQ Tryz.results132 (λ w hw=>?_)
 exact⟨(),rfl,trivial,hw.aS⟩
theorem p9(hs:SF w D (xH k bx bm x dn rs) A [] (xW x) w):Calls Tryz.prog 134 #[.pointer (some ⟨bx,0,none⟩)] w λ e w'=>∃q:Unit,e=.returned (.tuple #[.agg ⟨(if dn=true then Ac.zero else x.nx).cells⟩,.bool (!dn)])/\True/\SF w D (xH k bx bm x dn rs) [] [] (xW x) w':=by
 refine enter Tryz.func134 Tryz.ntmps134 rfl rfl (bV hs) ?_
 simp only[bW]
 refine J0 ?_;refine aJ (λ x2=>?_);refine hJ ?_;refine kK ?_;refine aH ?_
 refine bB (λ c7=>?_) (λ c7=>?_)
 ·refine J0 ?_;refine bG ?_;refine xP ?_
  refine aZ Tryz.results134 (λ w hw=>?_)
  subst c7
  exact⟨(),rfl,trivial,hw.aS⟩
 ·refine aW ?_;refine Ex ?_;refine aB (aN (k:=4) (vs:=x.nx.cells) rf cN dV rfl rfl) rfl ?_;refine xP ?_
  refine aZ Tryz.results134 (λ w hw=>?_)
  subst c7
  exact⟨(),rfl,trivial,hw.aS⟩
theorem Qw{m n N:Nat}{R:Tr}(hT:bQ (kA k (lX k.key m) n) N 64)(hN:N<=1073741824)(hgN:x.got.length+1=N)(hsz:x.L.length<=137438953472/\x.cs.length<=137438953472/\x.gen<=137438953472)(hi:j7 (kA k (lX k.key m) n) x dn rs R)(hk:V6 k)(hn:n<=1073741824)(hm:m<18446744073709551616)(em:k.mask=(m:Int))(ht:k.t.root<=9223372036854775807)(ha:k.a<=x.L.length)(hb:k.b<=x.L.length)(hnn:k.n<=x.L.length)(hA:∀f∈aL x.L,f∈A)(hs:SF w D (xH k bx bm x dn rs) A [] (xW x) w):Calls Tryz.prog 68 #[.pointer (some ⟨bx,0,none⟩)] w λ e w'=>∃q:XS×List aU×Bool×Rs,e=.returned (.tuple #[])/\((dn=true/\q=(x,[],true,rs))∨(dn=false/\uE (kA k (lX k.key m) n) R 1 N rs x q.1 q.2.1 q.2.2.1 q.2.2.2))/\SF w D (xH k bx bm q.1 q.2.2.1 q.2.2.2) [] (aL q.2.1) (xW q.1) w':=by
 have hg:dn=false->Gx.Ok ⟨kA k (lX k.key m) n,R,x.mm,1,N⟩:=λ e=>by
  rcases hi.Qp with⟨e2,_⟩|⟨_,e2⟩
  ·rw[e] at e2;cases e2
  ·obtain⟨c,h1,_,_⟩:=hi.wk.rL (Nat.le_refl 64) hT (by omega)
   refine⟨hT,⟨N-x.got.length,by show 1<=N-x.got.length;omega,Gm e2 h1 (by omega)⟩,hN,Nat.le_refl 1,?_⟩
   show(x.L.map aU.c).length<=_/\_
   rw[List.length_map]
   exact hsz
 refine enter Tryz.func68 Tryz.ntmps68 rfl rfl (bV hs) ?_
 simp only[bW]
 refine kK ?_;refine nY ?_
 refine bB (λ c6=>?_) (λ c6=>?_)
 ·have ed:dn=false:=by simpa using c6
  subst ed
  refine zA ?_;refine aC (cM (hs:=xH k bx bm x false rs) (os:=xW x) (A0:=aL x.L) (hA:=bA.of λ f hf=>.inr (.inl (hA f hf))) (hc:=λ w hs=>Ob (N:=N) (n:=n) (m:=m) 1 (hg rfl) hi.wk hgN hk hn hm em ht ha hb hnn (λ f hf=>hf) hi.ok hs)) (λ x8 h8=>?_);refine aH ?_
  refine Dk Tryz.results68 (λ w hw=>?_)
  first
  | exact⟨x8,rfl,.inr ⟨rfl,h8⟩,by rw[List.append_nil] at hw;exact hw.aS (hF:=by exact aX.all)⟩
  | exact⟨(x,[],true,rs),rfl,.inl ⟨by simpa using c6,rfl⟩,by rw[show dn=true from by simpa using c6] at hw;exact hw.aS (hF:=by exact aX.nil)⟩
 ·refine aW ?_
  refine Dk Tryz.results68 (λ w hw=>?_)
  first
  | exact⟨(x,[],true,rs),rfl,.inl ⟨by simpa using c6,rfl⟩,by rw[show dn=true from by simpa using c6] at hw;exact hw.aS (hF:=by exact aX.nil)⟩
end
end

/- Executions of the reference: the start. -/
end Go.Proofs.YtbajmaoegmbfgaaGreat
namespace Go.Ct
section
open Go Go.RowKit
def XS.new(L:List aU)(cs:List Int)(gen acc:Int)(pn:Option Addr)(cn:Nat)(pc:Option Addr)(cc:Nat):XS:=⟨L,cs,gen,acc,pn,cn,pc,cc,[],[],[],[],none,0,none,0,none,0,none,0,0,0,0,0,0,false,Ac.zero⟩
end
end Go.Ct
namespace Go.Proofs.YtbajmaoegmbfgaaGreat
section
open Go Go.RowKit Go.Ct
section
variable{k:Cl}{bm:Nat}{L:List aU}{cs:List Int}{gen acc:Int}{pn pc:Option Addr}{cn cc:Nat}{D:List Nat}{A:Fr}{w:World}
theorem ns{m n N:Nat}(hT:bQ (kA k (lX k.key m) n) N 64)(hN:N<=1073741824)(hsz:L.length<=137438953472/\cs.length<=137438953472/\gen<=137438953472)(hk:V6 k)(hn:n<=1073741824)(hm:m<18446744073709551616)(em:k.mask=(m:Int))(ht:k.t.root<=9223372036854775807)(ha:k.a<=L.length)(hb:k.b<=L.length)(hnn:k.n<=L.length)(hA:∀f∈aL L,f∈A)(ok:(XS.new L cs gen acc pn cn pc cc).Ok)(hs:SF w D [(bm,mO L cs gen acc pn cn pc cc)] A [] [⟨pn,gL L,cn,47,14⟩,⟨pc,aG cs,cc,37,1⟩] w)(hN0:N=0:=by rfl):Calls Tryz.prog 49 #[.pointer (some ⟨bm,0,none⟩),.agg ⟨P7 k⟩] w λ e w'=>∃q:Nat×XS×List aU×Bool×Rs,e=.returned (.pointer (some ⟨q.1,0,none⟩))/\uE (kA k (lX k.key m) n) (kA k (lX k.key m) n) 0 N Rs.zero (XS.new L cs gen acc pn cn pc cc) q.2.1 q.2.2.1 q.2.2.2.1 q.2.2.2.2/\SF w D (xH k q.1 bm q.2.1 q.2.2.2.1 q.2.2.2.2) [] (aL q.2.2.1) (xW q.2.1) w':=by
 have hg:Gx.Ok ⟨kA k (lX k.key m) n,kA k (lX k.key m) n,(XS.new L cs gen acc pn cn pc cc).mm,0,N⟩:=⟨hT,⟨N,Nat.zero_le _,hT⟩,hN,Nat.zero_le _,by
  show(L.map aU.c).length<=_/\_
  rw[List.length_map]
  exact hsz⟩
 refine enter Tryz.func49 Tryz.ntmps49 rfl rfl ((((hs.lJ 3 1).lJ 27 1).lJ 37 1).lJ 37 1) ?_
 simp only[bW]
 refine J0 ?_;refine bL (λ x3=>?_);refine J1 ?_;refine J2 ?_;refine aB (aN (k:=25) (vs:=P7 k) rf cN dV rfl rfl) rfl ?_;refine bG ?_;refine bL (λ x9=>?_);refine J1 ?_;refine J2 ?_;refine aC (cM (hs:=xH k x9 bm (XS.new L cs gen acc pn cn pc cc) false Rs.zero) (os:=xW (XS.new L cs gen acc pn cn pc cc)) (A0:=aL L) (hA:=bA.of λ f hf=>.inr (.inl (hA f hf))) (hc:=λ w hs=>Ob (N:=N) (n:=n) (m:=m) 0 hg (Wk.nil _) hN0.symm hk hn hm em ht ha hb hnn (λ f hf=>hf) ok hs)) (λ x11 h11=>?_);refine aH ?_;refine J2 ?_;refine J1 ?_
 refine aQ Tryz.results49 (λ w hw=>?_)
 exact⟨(x9,x11.1,x11.2.1,x11.2.2.1,x11.2.2.2),rfl,h11,by rw[List.append_nil] at hw;exact hw.aS (hF:=by exact aX.all)⟩
end
end

/- The trees are never stuck within as many accesses as they have fuel: single procedures. -/
section
open Go Go.RowKit Go.Ct
theorem yk:∀{t:Tr} {n c c':Nat},c<=c'->bQ t n c->bQ t n c':=by
 intro t
 induction t with
 | done r=>intros;simp[bQ]
 | stuck=>intro n c c' _ h;simp[bQ] at h
 | load r k ih =>
  intro n c c' _ h
  cases n with
  | zero=>simp[bQ]
  | succ n=>simpa only[bQ] using h
 | jZ r o m k ih =>
  intro n c c' _ h
  cases n with
  | zero=>simp[bQ]
  | succ n=>simpa only[bQ] using h
 | alloc r o k ih =>
  intro n c c' hc h
  cases c with
  | zero=>simp[bQ] at h
  | succ c =>
   cases c' with
   | zero=>omega
   | succ c'=>simp only[bQ] at h ⊢;exact λ v=>ih v (by omega) (h v)
 | cell r k ih =>
  intro n c c' hc h
  cases c with
  | zero=>simp[bQ] at h
  | succ c =>
   cases c' with
   | zero=>omega
   | succ c'=>simp only[bQ] at h ⊢;exact λ v=>ih v (by omega) (h v)
 | gen k ih =>
  intro n c c' hc h
  cases c with
  | zero=>simp[bQ] at h
  | succ c =>
   cases c' with
   | zero=>omega
   | succ c'=>simp only[bQ] at h ⊢;exact λ v=>ih v (by omega) (h v)
 | node r k ih =>
  intro n c c' hc h
  cases c<;>cases c'<;>simp only[bQ] at h ⊢ <;> exact λ v=>ih v (by omega) (h v)
section
variable{n c:Nat}
theorem pG{a:Int}{k:Int->Tr}(h:∀n',n'<n->∀v,bQ (k v) n' 64):bQ (.load a k) n c:=by
 cases n with
 | zero=>simp[bQ]
 | succ n=>simp only[bQ];exact h n (Nat.lt_succ_self n)
theorem Cv{a o m:Int}{k:Bool->Tr}(h:∀n',n'<n->∀v,bQ (k v) n' 64):bQ (.jZ a o m k) n c:=by
 cases n with
 | zero=>simp[bQ]
 | succ n=>simp only[bQ];exact h n (Nat.lt_succ_self n)
theorem Lq{a:Nv}{i:Int}{k:Int->Tr}(h:∀v,bQ (k v) n c):bQ (.alloc a i k) n (c+1):=by simp only[bQ];exact h
theorem tv{i:Int}{k:Int->Tr}(h:∀v,bQ (k v) n c):bQ (.cell i k) n (c+1):=by simp only[bQ];exact h
theorem y9{k:Int->Tr}(h:∀v,bQ (k v) n c):bQ (.gen k) n (c+1):=by simp only[bQ];exact h
theorem cO{r:Int}{k:Nv->Tr}(h:∀v,bQ (k v) n c):bQ (.node r k) n c:=by
 cases c<;>simp only[bQ]<;>exact h
abbrev Ia{X:Type}(K:X->Tr)(n:Nat):Prop:=∀n',n'<n->∀v,bQ (K v) n' 64
theorem Ia.lt{X:Type}{K:X->Tr}{m:Nat}(h:Ia K n)(hm:m<=n):Ia K m:=λ n' h' v=>h n' (by omega) v
theorem jj{v s:Int}{K:Int->Tr}(h:∀w,bQ (K w) n c):bQ (vn v s K) n c:=cO λ _=>h _
theorem vU{t:fY}{v s:Int}{K:Int->Tr}(h:Ia K n):bQ (qN t v s K) n c:=jj λ _=>Cv λ n' hn _=>h n' hn _
theorem X3{t:fY}{K:Int->Tr}(h:Ia K n):bQ (Jg t K) n c:=pG λ n1 h1 v=>cO λ nv=>by
 split
 ·exact h n1 h1 v
 ·exact cO λ _=>pG λ n2 h2 s=>by
   split
   ·exact cO λ _=>Cv λ n3 h3 _=>cO λ _=>pG λ n4 h4 _=>vU (h.lt (by omega))
   ·exact vU (h.lt (by omega))
theorem M4{i m p:Int}{K:Int->Tr}(h:Ia K n):bQ (O8 i m p K) n c:=cO λ _=>cO λ _=>Cv λ n' hn _=>cO λ _=>h n' hn _
theorem zT{i m:Int}{K:Int->Tr}(h:Ia K n):bQ (jJ i m K) n c:=cO λ _=>pG λ n1 h1 p=>by
 split
 ·exact h n1 h1 _
 ·exact M4 (h.lt (by omega))
theorem Ii{i m p:Int}{b:Bool}{K:Int->Tr}(h:Ia K n)(hc:1<=c):bQ (pX i m p b K) n c:=by
 unfold pX
 split
 ·exact cO λ _=>Cv λ n1 h1 _=>zT (h.lt (by omega))
 ·obtain⟨c,rfl⟩:∃d,c=d+1:=⟨c-1,by omega⟩
  exact cO λ _=>Lq λ _=>Cv λ n1 h1 _=>zT (h.lt (by omega))
theorem Co{t:fY}{i m:Int}{K:Int->Tr}(h:Ia K n):bQ (rX t i m K) n c:=cO λ _=>pG λ n1 h1 p=>by
 split
 ·exact h n1 h1 _
 ·refine cO λ _=>?_
  split
  ·split
   ·exact Ii (h.lt (by omega)) (by decide)
   ·exact X3 λ n2 h2 _=>cO λ _=>cO λ _=>Ii (h.lt (by omega)) (by decide)
  ·exact M4 (h.lt (by omega))
theorem gK{t:fY}{i:Int}{K:Int->Tr}(h:Ia K n):bQ (nF t i K) n c:=cO λ _=>pG λ n1 h1 _=>Co (h.lt (by omega))
theorem Cu{t:fY}{v:Int}{K:Tr}(h:∀n',n'<n->bQ K n' 64):bQ (tF t v K) n c:=cO λ _=>gK λ n1 h1 _=>cO λ _=>cO λ _=>Cv λ n2 h2 _=>h n2 (by omega)
theorem oM{t:fY}{K:Int->Tr}(h:Ia K n):bQ (yA t K) n c:=pG λ n1 h1 v=>cO λ nv=>by
 split
 ·exact h n1 h1 v
 ·exact cO λ _=>pG λ n2 h2 s=>by
   split
   ·exact Cu λ n3 h3=>cO λ _=>pG λ n4 h4 _=>vU (h.lt (by omega))
   ·exact vU (h.lt (by omega))
theorem jQ{t:fY}{i o m:Int}{K:Bool->Tr}(h:Ia K n):bQ (nG t i o m K) n c:=cO λ _=>Cv λ n1 h1 b=>by
 split
 ·exact Co λ n2 h2 _=>h n2 (by omega) _
 ·exact h n1 h1 _
theorem yS{t:fY}{o e m:Int}{K:Bool->Tr}(h:Ia K n)(hc:1<=c):bQ (nL t o e m K) n c:=by
 obtain⟨c,rfl⟩:∃d,c=d+1:=⟨c-1,by omega⟩
 exact Lq λ _=>Cv λ n1 h1 b=>by
  split
  ·exact Cu λ n2 h2=>cO λ _=>pG λ n3 h3 _=>vU λ n4 h4 _=>h n4 (by omega) _
  ·exact h n1 h1 _
end
end

/- The trees are never stuck within as many accesses as they have fuel: calls. -/
section
open Go Go.RowKit Go.Ct
section
variable{n c:Nat}
theorem fF{a:Nv}{i:Int}{k:Int->Tr}(hc:1<=c)(h:∀v,bQ (k v) n (c-1)):bQ (.alloc a i k) n c:=by
 obtain⟨c,rfl⟩:∃d,c=d+1:=⟨c-1,by omega⟩
 exact Lq h
theorem Bp{a i r:Int}{K:Int->Tr}(hc:1<=c)(h:∀v,bQ (K v) n (c-1)):bQ (He a i r K) n c:=cO λ _=>fF hc h
theorem Ry{t:fY}{i o x:Int}{K:Int->Tr}(h:Ia K n):bQ (Lc t i o x K) n c:=cO λ _=>gK λ n1 h1 _=>cO λ _=>fF (by decide) λ _=>Bp (by decide) λ _=>jQ λ n2 h2 _=>h n2 (by omega) _
theorem yV{t:fY}{p o:Int}{h0:Nat}{l:Int}{K:Bool->Tr}(h:Ia K n):bQ (yM t p o h0 l K) n c:=gK λ n1 h1 _=>cO λ _=>by
 split
 ·exact gK λ n2 h2 _=>cO λ _=>by
   split
   ·exact fF (by decide) λ _=>cO λ _=>fF (by decide) λ _=>jQ λ n3 h3 _=>h n3 (by omega) _
   ·exact h n2 (by omega) _
 ·exact h n1 h1 _
theorem Is{t:fY}{h0:Nat}{key:ByteArray}{K:Rs->Tr}:∀(q n c:Nat) (i level:Int),n<q->Ia K n->bQ (Cx t h0 key K q i level) n c
 | 0,n,c,i,level,hq,_=>absurd hq (Nat.not_lt_zero n)
 | q+1,n,c,i,level,hq,h=>gK λ n1 h1 _=>cO λ _=>by
  split
  ·split<;>exact h n1 h1 _
  ·split
   ·exact h n1 h1 _
   ·split
    ·exact h n1 h1 _
    ·exact cO λ _=>by
      split
      ·split<;>exact h n1 h1 _
      ·exact Is q n1 64 _ _ (by omega) (h.lt (by omega))
theorem M3:∀(l:List NI) (r:Int) (K:Int->Tr) (n c:Nat),l.length<=c->(∀v,bQ (K v) n (c-l.length))->bQ (Ak l r K) n c
 | [],r,K,n,c,_,h=>h r
 | a::l,r,K,n,c,hc,h=>by
  have hc':l.length+1<=c:=by simpa using hc
  exact fF (by omega) λ v=>M3 l v K n (c-1) (by omega) (λ u=>by have:=h u;rw[List.length_cons] at this;rwa [show c-1-l.length=c-(l.length+1) by omega])
theorem Xq{k:Cl}{b:Int}{h0 level:Nat}{gen:Int}{K:Int->Tr}(hc:32<=c)(h:∀v,bQ (K v) n (c-32)):bQ (Tz k b h0 level gen K) n c:=cO λ nb=>fF (by omega) λ f=>by
 have hl:(dP b nb.hash.toNat h0 (nb.key,nb.val) k.key k.val gen f.toNat level).tail.length<=31:=by
  have h1:=Rm (x:=b) (h0:=nb.hash.toNat) (h:=h0) (p0:=(nb.key,nb.val)) (k:=k.key) (u:=k.val) (gen:=gen) (f:=f.toNat) (kI nb.hash.toNat h0-level) (kI nb.hash.toNat h0-(kI nb.hash.toNat h0-level))
  have h2:=zC nb.hash.toNat h0
  rw[List.length_tail]
  unfold dP
  omega
 exact M3 _ _ _ _ _ (by omega) λ v=>yk (by omega) (h v)
theorem Ls{k:Cl}{i m:Int}{h0 level:Nat}{gen:Int}{K:Rs->Int->Tr}(h:∀n',n'<=n->∀r w,bQ (K r w) n' 64):bQ (lQ k i m h0 level gen K) n 64:=cO λ nb=>by
 split
 ·split
  ·exact fF (by decide) λ _=>jQ λ n1 h1 _=>h n1 (by omega) _ _
  ·exact h n (Nat.le_refl n) _ _
 ·split
  ·split
   ·exact fF (by decide) λ _=>fF (by decide) λ _=>jQ λ n1 h1 _=>h n1 (by omega) _ _
   ·exact h n (Nat.le_refl n) _ _
  ·refine cO λ _=>?_
   split
   ·exact h n (Nat.le_refl n) _ _
   ·split
    ·split
     ·exact fF (by decide) λ _=>Bp (by decide) λ _=>jQ λ n1 h1 _=>h n1 (by omega) _ _
     ·exact h n (Nat.le_refl n) _ _
    ·split
     ·exact Xq (by decide) λ _=>fF (by decide) λ _=>Bp (by decide) λ _=>jQ λ n1 h1 _=>h n1 (by omega) _ _
     ·exact h n (Nat.le_refl n) _ _
theorem G6{k:Cl}{i m x gen:Int}{K:Int->Tr}(h:∀n',n'<=n->∀v,bQ (K v) n' 64):bQ (Ho k i m x gen K) n 64:=cO λ _=>cO λ _=>by
 split
 ·exact h n (Nat.le_refl n) _
 ·exact Ry λ n1 h1 _=>h n1 (by omega) _
theorem Ff{k:Cl}{h0:Nat}{K:Rs->Tr}{again:Tr}{gen:Int}:∀(q n c:Nat) (i parent:Int) (level:Nat),n<q->Ia K n->(∀n',n'<n->bQ again n' 64)->bQ (C3 k h0 K again gen q i parent level) n c
 | 0,n,c,i,p,level,hq,_,_=>absurd hq (Nat.not_lt_zero n)
 | q+1,n,c,i,p,level,hq,h,ha=>gK λ n1 h1 _=>cO λ _=>by
  split
  ·exact yV λ n2 h2 _=>ha n2 (by omega)
  ·refine Ls λ n2 h2 r w=>?_
   split
   ·exact h n2 (by omega) _
   ·split
    ·exact ha n2 (by omega)
    ·refine G6 λ n3 h3 v=>?_
     split
     ·exact ha n3 (by omega)
     ·exact Ff q n3 64 _ _ _ (by omega) (h.lt (by omega)) (λ n4 h4=>ha n4 (by omega))
theorem N9{k:Cl}{h0:Nat}{K:Rs->Tr}:∀(q n c:Nat),n<q->Ia K n->bQ (Em k h0 K q) n c
 | 0,n,c,hq,_=>absurd hq (Nat.not_lt_zero n)
 | q+1,n,c,hq,h=>oM λ n1 h1 _=>cO λ _=>Ff q n1 64 _ _ _ (by omega) (h.lt (by omega)) (λ n2 h2=>N9 q n2 64 (by omega) (h.lt (by omega)))
theorem H9{k:Cl}{i m:Int}{h0 level:Nat}{K:Rs->Int->Tr}(h:∀n',n'<=n->∀r w,bQ (K r w) n' 64):bQ (jU k i m h0 level K) n 64:=cO λ nb=>by
 split
 ·split
  ·exact h n (Nat.le_refl n) _ _
  ·exact fF (by decide) λ _=>jQ λ n1 h1 _=>h n1 (by omega) _ _
 ·split
  ·exact h n (Nat.le_refl n) _ _
  ·refine cO λ _=>?_
   split
   ·exact h n (Nat.le_refl n) _ _
   ·split
    ·exact h n (Nat.le_refl n) _ _
    ·split
     ·exact h n (Nat.le_refl n) _ _
     ·exact cO λ _=>fF (by decide) λ _=>jQ λ n1 h1 _=>h n1 (by omega) _ _
theorem Te{t:fY}{path:List Int}{h0:Nat}{K:Tr}:∀(l n:Nat),(∀n',n'<=n->bQ K n' 64)->bQ (sm t path h0 K l) n 64
 | 0,n,h=>h n (Nat.le_refl n)
 | l+1,n,h=>gK λ n1 h1 _=>cO λ _=>by
  split
  ·exact yV λ n2 h2 _=>Te l n2 (λ n3 h3=>h n3 (by omega))
  ·exact h n1 (by omega)
theorem Cj{k:Cl}{h0:Nat}{K:Rs->Tr}{again:Tr}{gen:Int}:∀(q n c:Nat) (i:Int) (path:List Int) (level:Nat),n<q->Ia K n->(∀n',n'<n->bQ again n' 64)->bQ (uR k h0 K again gen q i path level) n c
 | 0,n,c,i,p,level,hq,_,_=>absurd hq (Nat.not_lt_zero n)
 | q+1,n,c,i,p,level,hq,h,ha=>gK λ n1 h1 _=>cO λ _=>by
  split
  ·exact yV λ n2 h2 _=>ha n2 (by omega)
  ·refine H9 λ n2 h2 r w=>?_
   split
   ·split
    ·exact Te _ _ λ n3 h3=>h n3 (by omega) _
    ·exact h n2 (by omega) _
   ·split
    ·exact ha n2 (by omega)
    ·refine G6 λ n3 h3 v=>?_
     split
     ·exact ha n3 (by omega)
     ·exact Cj q n3 64 _ _ _ (by omega) (h.lt (by omega)) (λ n4 h4=>ha n4 (by omega))
theorem Jl{k:Cl}{h0:Nat}{K:Rs->Tr}:∀(q n c:Nat),n<q->Ia K n->bQ (vP k h0 K q) n c
 | 0,n,c,hq,_=>absurd hq (Nat.not_lt_zero n)
 | q+1,n,c,hq,h=>oM λ n1 h1 _=>cO λ _=>Cj q n1 64 _ _ _ (by omega) (h.lt (by omega)) (λ n2 h2=>Jl q n2 64 (by omega) (h.lt (by omega)))
theorem Kx{i:Int}{k:Int->Tr}(hc:1<=c)(h:∀v,bQ (k v) n (c-1)):bQ (.cell i k) n c:=by
 obtain⟨c,rfl⟩:∃d,c=d+1:=⟨c-1,by omega⟩
 exact tv h
theorem Q9{k:Int->Tr}(hc:1<=c)(h:∀v,bQ (k v) n (c-1)):bQ (.gen k) n c:=by
 obtain⟨c,rfl⟩:∃d,c=d+1:=⟨c-1,by omega⟩
 exact y9 h
theorem jT{r:Rs}:bQ (.done r) n c:=by simp[bQ]
theorem Iq{m:Int}:bQ (N0 m .done) n 64:=Q9 (by decide) λ _=>fF (by decide) λ _=>Kx (by decide) λ _=>jT
theorem I8{t:fY}{fz:Bool}:∀(q n c:Nat),n<q->bQ (Jm t fz .done q) n c
 | 0,n,c,hq=>absurd hq (Nat.not_lt_zero n)
 | q+1,n,c,hq=>oM λ n1 h1 _=>gK λ n2 h2 _=>Q9 (by decide) λ _=>fF (by decide) λ _=>yS (λ n3 h3 b=>by
  split
  ·split
   ·exact Kx (by decide) λ _=>jT
   ·exact Iq
  ·exact I8 q n3 64 (by omega)) (by decide)
theorem F6{t:fY}{fz:Bool}{q:Nat}(h:n<q):bQ (sS t fz .done q) n c:=by
 unfold sS
 split
 ·exact pG λ n1 h1 _=>by
   split
   ·exact Kx (by decide) λ _=>jT
   ·exact gK λ n2 h2 _=>Iq
 ·exact I8 q n c h
theorem Fq{t:fY}:∀(q n c:Nat),n<q->bQ (yY t .done q) n c
 | 0,n,c,hq=>absurd hq (Nat.not_lt_zero n)
 | q+1,n,c,hq=>oM λ n1 h1 _=>gK λ n2 h2 _=>fF (by decide) λ _=>Q9 (by decide) λ _=>fF (by decide) λ _=>yS (λ n3 h3 b=>by
  split
  ·exact jT
  ·exact Fq q n3 64 (by omega)) (by decide)
theorem I4{k:Cl}{h0 q:Nat}(h:n<q):bQ (kA k h0 q) n 64:=by
 have hd:∀{X:Type} {K:X->Rs},Ia (λ v=>Tr.done (K v)) n:=λ _ _ _=>jT
 unfold kA
 split
 ·exact jT
 split
 ·exact gK hd
 split
 ·exact jQ hd
 split
 ·exact oM hd
 split
 ·exact yS hd (by decide)
 split
 ·exact oM λ n1 h1 _=>Is q n1 64 _ _ (by omega) (λ _ _ _=>jT)
 split
 ·exact N9 q n 64 h (λ _ _ _=>jT)
 split
 ·exact Jl q n 64 h (λ _ _ _=>jT)
 split
 ·exact F6 h
 split
 ·exact F6 h
 ·exact Fq q n 64 h
end
end

end Go.Proofs.YtbajmaoegmbfgaaGreat

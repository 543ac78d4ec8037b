/- Executions of the reference: one repetition. -/
import Derived.Test.YtbajmaoegmbfgaaGreatEx23
import Derived.Test.YtbajmaoegmbfgaaGreatGTp2

set_option linter.unusedSimpArgs false
set_option linter.unusedVariables false
namespace Go.Ct
section
open Go Go.RowKit
theorem oy{L:List Nv}{r:Rs}{gs ms cl gn:List Int}{R:Tr}(h:Wk L (.done r) gs ms cl gn R):gs=[]/\ms=[]/\cl=[]/\gn=[]/\R=.done r:=by
 cases h
 exact⟨rfl,rfl,rfl,rfl,rfl⟩
def XS.re(x:XS)(free:Nat):XS:={x with a:=0,m:=0,c:=0,g:=0,fr:=free,st:=false}
theorem aA1{T R:Tr}{x:XS}{free N:Nat}(hw:Wk x.nodes T x.got x.made x.cel x.gns R)(hN:x.got.length+free=N):gC ⟨T,R,x.mm,free,N⟩ (x.re free) T:=.inl ⟨rfl,R,⟨Wk.nil _,hw,by show Rc (free-free) R x.mm R x.mm;rw[Nat.sub_self];exact Rc.refl _ _,Nat.le_refl _,Nat.zero_le _,Nat.zero_le _,Nat.zero_le _,Nat.zero_le _,hN⟩⟩
structure tL(T R:Tr)(free N:Nat)(rs:Rs)(x x':XS)(N':List aP)(dn':Bool)(rs':Rs):Prop where
 ok:x'.Ok
 ext:x'.L=x.L++N'
 lc:x.cs.length<=x'.cs.length
 gl:x'.got.length<=N
 Te:(dn'=true/\∃j,j<=free/\x'.got.length+free=N+j/\Wk x'.nodes T x'.got x'.made x'.cel x'.gns (.done rs')/\Rc j R x.mm (.done rs') x'.mm)∨(dn'=false/\rs'=rs/\x'.got.length=N/\∃R',R'.acc=some x'.nx/\Wk x'.nodes T x'.got x'.made x'.cel x'.gns R'/\Rc free R x.mm R' x'.mm)
theorem Nx.vj{T R:Tr}{free N:Nat}{rs r:Rs}{x x':XS}{N':List aP}(h:Nx ⟨T,R,x.mm,free,N⟩ (x.re free) x' N' (.done r) 0)(hs:x'.st=false):tL T R free N rs x x' N' true r:=by
 obtain⟨R',hR⟩:=h.go.run hs
 obtain⟨e1,e2,e3,e4,e5⟩:=oy hR.suf
 refine⟨h.ok,h.ext,h.lc,(by have:=hR.hN;show x'.got.length<=N;simp only at this;omega),.inl ⟨rfl,free-x'.fr,Nat.sub_le _ _,(by have:=hR.hN;have:=hR.hf;simp only at *;omega),?_,e5▸hR.rc⟩⟩
 have hp:=hR.pre
 rwa [List.take_of_length_le (List.drop_eq_nil_iff.1 e1),List.take_of_length_le (List.drop_eq_nil_iff.1 e2),List.take_of_length_le (List.drop_eq_nil_iff.1 e3),List.take_of_length_le (List.drop_eq_nil_iff.1 e4)] at hp
theorem Nx.ur{T R:Tr}{free N:Nat}{rs r:Rs}{x x':XS}{N':List aP}(h:Nx ⟨T,R,x.mm,free,N⟩ (x.re free) x' N' (.done r) 0)(hs:x'.st=true):tL T R free N rs x x' N' false rs:=by
 rcases h.go with h1|h1
 ·rw[hs] at h1;exact nomatch h1.1
 ·obtain⟨R',hR⟩:=h1.2
  exact⟨h.ok,h.ext,h.lc,Nat.le_of_eq hR.hN,.inr ⟨rfl,rfl,hR.hN,R',hR.ac,hR.wk,hR.rc⟩⟩
end
end Go.Ct
namespace Go.Proofs.YtbajmaoegmbfgaaGreat
section
open Go Go.RowKit Go.Ct
section
variable{k:Cl}{bx bm:Nat}{x:XS}{rs:Rs}{D:List Nat}{A:Fr}{w:World}
theorem Py{m n N:Nat}{R:Tr}(free:Nat)(hg:Gx.Ok ⟨kK k (lY k.key m) n,R,x.mm,free,N⟩)(hwk:Wk x.nodes (kK k (lY k.key m) n) x.got x.made x.cel x.gns R)(hN:x.got.length+free=N)(hk:Xt k)(hn:n<=1073741824)(hm:m<18446744073709551616)(em:k.mask=(m:Int))(ht:k.t.root<=9223372036854775807)(ha:k.a<=x.L.length)(hb:k.b<=x.L.length)(hnn:k.n<=x.L.length)(hA:∀f∈aM x.L,f∈A)(ok:x.Ok)(hs:SF w D (xH k bx bm x false rs) A [] (xW x) w):Calls Tryz.prog 99 #[.pointer (some ⟨bx,0,none⟩),.int .i64 (free:Int)] w λ e w'=>∃q:XS×List aP×Bool×Rs,e=.returned (.tuple #[])/\tL (kK k (lY k.key m) n) R free N rs x q.1 q.2.1 q.2.2.1 q.2.2.2/\SF w D (xH k bx bm q.1 q.2.2.1 q.2.2.2) [] (aM q.2.1) (xW q.1) w':=by
 have hfr:=hg.hf
 have ok0:(x.re free).Ok:=ok.uj rfl rfl rfl rfl rfl rfl (Nat.zero_le _) (Nat.zero_le _) (Nat.zero_le _) (Nat.zero_le _) hfr
 refine enter Tryz.func99 Tryz.ntmps99 rfl rfl (bW hs) ?_
 simp only[bX]
 refine iU ?_;refine oZ ?_;refine oZ ?_;refine aA ?_;refine Ni ?_;refine cZ (by exact jF λ _=>fC rf cQ wn rf fK rf rf lJ) (λ _=>?_);refine Ni ?_;refine cZ (by exact jF λ _=>fC rf cQ wn rf fK rf rf lJ) (λ _=>?_);refine Ni ?_;refine cZ (by exact jF λ _=>fC rf cQ wn rf fK rf rf lJ) (λ _=>?_);refine Ni ?_;refine cZ (by exact jF λ _=>fC rf cQ wn rf fK rf rf lJ) (λ _=>?_);refine Ni ?_;refine cZ (by exact jF λ _=>fC rf cQ wn rf fK rf rf lJ) (λ _=>?_);refine Ni ?_;refine cZ (by exact jF λ _=>fC rf cQ wn rf fK rf rf lJ) (λ _=>?_);refine aH ?_;refine J2 ?_;refine aD (cM (hs:=xH k bx bm (x.re free) false rs) (os:=xW (x.re free)) (A0:=aM x.L) (hA:=aY.of λ f hf=>.inr (.inl (hA f hf))) (hc:=λ w hs=>aBl hg (x:=x.re free) n hk hn hm em ht ha hb hnn (λ f hf=>hf) (aA1 hwk hN) ok0 hs)) (λ x25 h25=>?_);refine aJ (λ x4=>?_);refine cZ (by exact(jF λ _=>bP rf cQ rf rf eA rf lJ)) (λ _=>?_);refine aH ?_;refine lR ?_;refine oE ?_
 refine bB (λ c30=>?_) (λ c30=>?_)
 ·refine dI [(0,[]),(1,[]),(2,[]),(3,[]),(4,[]),(5,[2]),(6,[]),(7,[]),(8,[])] ?_;refine iH ?_;refine bG ?_;refine J4 ?_;refine kH (i:=5) (hq:=(by exact jF λ _=>fC rf cQ wn rf fK rf rf lJ)) (h:=λ _=>?_);refine J4 ?_;refine kH (i:=8) (hq:=(jF λ _=>lK (off:=41) (vs:=x25.1.cells) rf cQ rf rfl eA (Nat.le_of_ble_eq_true rfl) rf lJ)) (h:=λ _=>?_);refine dW ?_
  refine D2 Tryz.results99 (λ w hw=>?_)
  first
  | exact⟨(x25.2.1,x25.2.2,true,x25.1),rfl,h25.vj (by simpa using c30),by rw[List.append_nil] at hw;exact hw.aU (hF:=by exact aX.all)⟩
  | exact⟨(x25.2.1,x25.2.2,false,rs),rfl,h25.ur (by simpa using c30),by rw[List.append_nil] at hw;exact hw.aU (hF:=by exact aX.all)⟩
 ·refine bA ?_
  refine D2 Tryz.results99 (λ w hw=>?_)
  first
  | exact⟨(x25.2.1,x25.2.2,true,x25.1),rfl,h25.vj (by simpa using c30),by rw[List.append_nil] at hw;exact hw.aU (hF:=by exact aX.all)⟩
  | exact⟨(x25.2.1,x25.2.2,false,rs),rfl,h25.ur (by simpa using c30),by rw[List.append_nil] at hw;exact hw.aU (hF:=by exact aX.all)⟩
end
end

/- Executions of the reference: steps. -/
end Go.Proofs.YtbajmaoegmbfgaaGreat
namespace Go.Ct
section
open Go Go.RowKit
theorem Ho{R:Tr}{a:Ac}(h:R.acc=some a){n c:Nat}(ht:bR R n c)(hn:1<=n):bR R n 64:=by
 cases R<;>simp only[Tr.acc,reduceCtorEq] at h
 ·cases n with
  | zero=>omega
  | succ n=>simpa only[bR] using ht
 ·cases n with
  | zero=>omega
  | succ n=>simpa only[bR] using ht
structure m6(T:Tr)(x:XS)(dn:Bool)(rs:Rs)(R:Tr):Prop where
 ok:x.Ok
 wk:Wk x.nodes T x.got x.made x.cel x.gns R
 Te:(dn=true/\R=.done rs)∨(dn=false/\R.acc=some x.nx)
theorem tL.exI{T R:Tr}{free N:Nat}{rs rs':Rs}{x x':XS}{N':List aP}{dn':Bool}(h:tL T R free N rs x x' N' dn' rs'):∃R' j,j<=free/\(dn'=false->j=free)/\m6 T x' dn' rs' R'/\Rc j R x.mm R' x'.mm/\x'.L=x.L++N'/\x.cs.length<=x'.cs.length:=by
 rcases h.Te with⟨e,j,h1,_,h2,h3⟩|⟨e,_,_,R',h1,h2,h3⟩
 ·exact⟨_,j,h1,(λ h=>by rw[e] at h;cases h),⟨h.ok,h2,.inl ⟨e,rfl⟩⟩,h3,h.ext,h.lc⟩
 ·exact⟨R',free,Nat.le_refl _,λ _=>rfl,⟨h.ok,h2,.inr ⟨e,h1⟩⟩,h3,h.ext,h.lc⟩
theorem tL.exN{T R:Tr}{free N:Nat}{rs rs':Rs}{x x':XS}{N':List aP}{dn':Bool}(h:tL T R free N rs x x' N' dn' rs'):∃R' j,j<=free/\(dn'=false->j=free)/\m6 T x' dn' rs' R'/\Rc j R x.mm R' x'.mm/\x'.L=x.L++N'/\x.cs.length<=x'.cs.length/\x'.got.length+free=N+j:=by
 rcases h.Te with⟨e,j,h1,h0,h2,h3⟩|⟨e,_,h0,R',h1,h2,h3⟩
 ·exact⟨_,j,h1,(λ h=>by rw[e] at h;cases h),⟨h.ok,h2,.inl ⟨e,rfl⟩⟩,h3,h.ext,h.lc,h0⟩
 ·exact⟨R',free,Nat.le_refl _,λ _=>rfl,⟨h.ok,h2,.inr ⟨e,h1⟩⟩,h3,h.ext,h.lc,by rw[h0]⟩
end
end Go.Ct
namespace Go.Proofs.YtbajmaoegmbfgaaGreat
section
open Go Go.RowKit Go.Ct
section
variable{k:Cl}{bx bm:Nat}{x:XS}{dn:Bool}{rs:Rs}{D:List Nat}{A:Fr}{w:World}
theorem Fb(hs:SF w D (xH k bx bm x dn rs) A [] (xW x) w):Calls Tryz.prog 69 #[.pointer (some ⟨bx,0,none⟩)] w λ e w'=>∃q:Unit,e=.returned (.bool dn)/\True/\SF w D (xH k bx bm x dn rs) [] [] (xW x) w':=by
 refine enter Tryz.func69 Tryz.ntmps69 rfl rfl (bW hs) ?_
 simp only[bX]
 refine cO ?_;refine lR ?_;refine J1 ?_
 refine aS Tryz.results69 (λ w hw=>?_)
 exact⟨(),rfl,trivial,hw.aU⟩
theorem O6(hs:SF w D (xH k bx bm x dn rs) A [] (xW x) w):Calls Tryz.prog 135 #[.pointer (some ⟨bx,0,none⟩)] w λ e w'=>∃q:Unit,e=.returned (.agg ⟨rs.cells⟩)/\True/\SF w D (xH k bx bm x dn rs) [] [] (xW x) w':=by
 refine enter Tryz.func135 Tryz.ntmps135 rfl rfl (bW hs) ?_
 simp only[bX]
 refine J0 ?_;refine aJ (λ x2=>?_);refine aH ?_;refine Hj ?_;refine aC (aQ (k:=8) (vs:=rs.cells) rf cQ eA rfl rfl) rfl ?_;refine J5 ?_
 refine bC Tryz.results135 (λ w hw=>?_)
 exact⟨(),rfl,trivial,hw.aU⟩
theorem ox(hs:SF w D (xH k bx bm x dn rs) A [] (xW x) w):Calls Tryz.prog 132 #[.pointer (some ⟨bx,0,none⟩)] w λ e w'=>∃q:Unit,e=.returned (.int .i64 (x.got.length:Int))/\True/\SF w D (xH k bx bm x dn rs) [] [] (xW x) w':=by
 refine enter Tryz.func132 Tryz.ntmps132 rfl rfl (bW hs) ?_
 simp only[bX]
 refine cO ?_;refine lR ?_;refine dA ?_;refine J1 ?_
 refine aS Tryz.results132 (λ w hw=>?_)
 exact⟨(),rfl,trivial,hw.aU⟩
theorem pu(hs:SF w D (xH k bx bm x dn rs) A [] (xW x) w):Calls Tryz.prog 134 #[.pointer (some ⟨bx,0,none⟩)] w λ e w'=>∃q:Unit,e=.returned (.tuple #[.agg ⟨(if dn=true then Ac.zero else x.nx).cells⟩,.bool (!dn)])/\True/\SF w D (xH k bx bm x dn rs) [] [] (xW x) w':=by
 refine enter Tryz.func134 Tryz.ntmps134 rfl rfl (bW hs) ?_
 simp only[bX]
 refine J0 ?_;refine aJ (λ x2=>?_);refine hZ ?_;refine lR ?_;refine aH ?_
 refine bB (λ c7=>?_) (λ c7=>?_)
 ·refine J0 ?_;refine bJ ?_;refine xA ?_
  refine bC Tryz.results134 (λ w hw=>?_)
  subst c7
  exact⟨(),rfl,trivial,hw.aU⟩
 ·refine bA ?_;refine Hj ?_;refine aC (aQ (k:=4) (vs:=x.nx.cells) rf cQ eA rfl rfl) rfl ?_;refine xA ?_
  refine bC Tryz.results134 (λ w hw=>?_)
  subst c7
  exact⟨(),rfl,trivial,hw.aU⟩
theorem Ry{m n N:Nat}{R:Tr}(hT:bR (kK k (lY k.key m) n) N 64)(hN:N<=1073741824)(hgN:x.got.length+1=N)(hsz:x.L.length<=137438953472/\x.cs.length<=137438953472/\x.gen<=137438953472)(hi:m6 (kK k (lY k.key m) n) x dn rs R)(hk:Xt k)(hn:n<=1073741824)(hm:m<18446744073709551616)(em:k.mask=(m:Int))(ht:k.t.root<=9223372036854775807)(ha:k.a<=x.L.length)(hb:k.b<=x.L.length)(hnn:k.n<=x.L.length)(hA:∀f∈aM x.L,f∈A)(hs:SF w D (xH k bx bm x dn rs) A [] (xW x) w):Calls Tryz.prog 68 #[.pointer (some ⟨bx,0,none⟩)] w λ e w'=>∃q:XS×List aP×Bool×Rs,e=.returned (.tuple #[])/\((dn=true/\q=(x,[],true,rs))∨(dn=false/\tL (kK k (lY k.key m) n) R 1 N rs x q.1 q.2.1 q.2.2.1 q.2.2.2))/\SF w D (xH k bx bm q.1 q.2.2.1 q.2.2.2) [] (aM q.2.1) (xW q.1) w':=by
 have hg:dn=false->Gx.Ok ⟨kK k (lY k.key m) n,R,x.mm,1,N⟩:=λ e=>by
  rcases hi.Te with⟨e2,_⟩|⟨_,e2⟩
  ·rw[e] at e2;cases e2
  ·obtain⟨c,h1,_,_⟩:=hi.wk.rW (Nat.le_refl 64) hT (by omega)
   refine⟨hT,⟨N-x.got.length,by show 1<=N-x.got.length;omega,Ho e2 h1 (by omega)⟩,hN,Nat.le_refl 1,?_⟩
   show(x.L.map aP.c).length<=_/\_
   rw[List.length_map]
   exact hsz
 refine enter Tryz.func68 Tryz.ntmps68 rfl rfl (bW hs) ?_
 simp only[bX]
 refine lR ?_;refine oE ?_
 refine bB (λ c6=>?_) (λ c6=>?_)
 ·have ed:dn=false:=by simpa using c6
  subst ed
  refine Ak ?_;refine aD (cM (hs:=xH k bx bm x false rs) (os:=xW x) (A0:=aM x.L) (hA:=aY.of λ f hf=>.inr (.inl (hA f hf))) (hc:=λ w hs=>Py (N:=N) (n:=n) (m:=m) 1 (hg rfl) hi.wk hgN hk hn hm em ht ha hb hnn (λ f hf=>hf) hi.ok hs)) (λ x8 h8=>?_);refine aH ?_
  refine D2 Tryz.results68 (λ w hw=>?_)
  first
  | exact⟨x8,rfl,.inr ⟨rfl,h8⟩,by rw[List.append_nil] at hw;exact hw.aU (hF:=by exact aX.all)⟩
  | exact⟨(x,[],true,rs),rfl,.inl ⟨by simpa using c6,rfl⟩,by rw[show dn=true from by simpa using c6] at hw;exact hw.aU (hF:=by exact aX.nil)⟩
 ·refine bA ?_
  refine D2 Tryz.results68 (λ w hw=>?_)
  first
  | exact⟨(x,[],true,rs),rfl,.inl ⟨by simpa using c6,rfl⟩,by rw[show dn=true from by simpa using c6] at hw;exact hw.aU (hF:=by exact aX.nil)⟩
end
end

/- Executions of the reference: the start. -/
end Go.Proofs.YtbajmaoegmbfgaaGreat
namespace Go.Ct
section
open Go Go.RowKit
def XS.new(L:List aP)(cs:List Int)(gen acc:Int)(pn:Option Addr)(cn:Nat)(pc:Option Addr)(cc:Nat):XS:=⟨L,cs,gen,acc,pn,cn,pc,cc,[],[],[],[],none,0,none,0,none,0,none,0,0,0,0,0,0,false,Ac.zero⟩
end
end Go.Ct
namespace Go.Proofs.YtbajmaoegmbfgaaGreat
section
open Go Go.RowKit Go.Ct
section
variable{k:Cl}{bm:Nat}{L:List aP}{cs:List Int}{gen acc:Int}{pn pc:Option Addr}{cn cc:Nat}{D:List Nat}{A:Fr}{w:World}
theorem nl{m n N:Nat}(hT:bR (kK k (lY k.key m) n) N 64)(hN:N<=1073741824)(hsz:L.length<=137438953472/\cs.length<=137438953472/\gen<=137438953472)(hk:Xt k)(hn:n<=1073741824)(hm:m<18446744073709551616)(em:k.mask=(m:Int))(ht:k.t.root<=9223372036854775807)(ha:k.a<=L.length)(hb:k.b<=L.length)(hnn:k.n<=L.length)(hA:∀f∈aM L,f∈A)(ok:(XS.new L cs gen acc pn cn pc cc).Ok)(hs:SF w D [(bm,mO L cs gen acc pn cn pc cc)] A [] [⟨pn,gZ L,cn,47,14⟩,⟨pc,aG cs,cc,37,1⟩] w)(hN0:N=0:=by rfl):Calls Tryz.prog 49 #[.pointer (some ⟨bm,0,none⟩),.agg ⟨Rb k⟩] w λ e w'=>∃q:Nat×XS×List aP×Bool×Rs,e=.returned (.pointer (some ⟨q.1,0,none⟩))/\tL (kK k (lY k.key m) n) (kK k (lY k.key m) n) 0 N Rs.zero (XS.new L cs gen acc pn cn pc cc) q.2.1 q.2.2.1 q.2.2.2.1 q.2.2.2.2/\SF w D (xH k q.1 bm q.2.1 q.2.2.2.1 q.2.2.2.2) [] (aM q.2.2.1) (xW q.2.1) w':=by
 have hg:Gx.Ok ⟨kK k (lY k.key m) n,kK k (lY k.key m) n,(XS.new L cs gen acc pn cn pc cc).mm,0,N⟩:=⟨hT,⟨N,Nat.zero_le _,hT⟩,hN,Nat.zero_le _,by
  show(L.map aP.c).length<=_/\_
  rw[List.length_map]
  exact hsz⟩
 refine enter Tryz.func49 Tryz.ntmps49 rfl rfl ((((hs.kI 3 1).kI 27 1).kI 37 1).kI 37 1) ?_
 simp only[bX]
 refine J0 ?_;refine bK (λ x3=>?_);refine J1 ?_;refine J2 ?_;refine aC (aQ (k:=25) (vs:=Rb k) rf cQ eA rfl rfl) rfl ?_;refine bJ ?_;refine bK (λ x9=>?_);refine J1 ?_;refine J2 ?_;refine aD (cM (hs:=xH k x9 bm (XS.new L cs gen acc pn cn pc cc) false Rs.zero) (os:=xW (XS.new L cs gen acc pn cn pc cc)) (A0:=aM L) (hA:=aY.of λ f hf=>.inr (.inl (hA f hf))) (hc:=λ w hs=>Py (N:=N) (n:=n) (m:=m) 0 hg (Wk.nil _) hN0.symm hk hn hm em ht ha hb hnn (λ f hf=>hf) ok hs)) (λ x11 h11=>?_);refine aH ?_;refine J2 ?_;refine J1 ?_
 refine aS Tryz.results49 (λ w hw=>?_)
 exact⟨(x9,x11.1,x11.2.1,x11.2.2.1,x11.2.2.2),rfl,h11,by rw[List.append_nil] at hw;exact hw.aU (hF:=by exact aX.all)⟩
end
end

/- The trees are never stuck within as many accesses as they have fuel: single procedures. -/
section
open Go Go.RowKit Go.Ct
theorem zm:∀{t:Tr} {n c c':Nat},c<=c'->bR t n c->bR t n c':=by
 intro t
 induction t with
 | done r=>intros;simp[bR]
 | stuck=>intro n c c' _ h;simp[bR] at h
 | load r k ih =>
  intro n c c' _ h
  cases n with
  | zero=>simp[bR]
  | succ n=>simpa only[bR] using h
 | kR r o m k ih =>
  intro n c c' _ h
  cases n with
  | zero=>simp[bR]
  | succ n=>simpa only[bR] using h
 | alloc r o k ih =>
  intro n c c' hc h
  cases c with
  | zero=>simp[bR] at h
  | succ c =>
   cases c' with
   | zero=>omega
   | succ c'=>simp only[bR] at h ⊢;exact λ v=>ih v (by omega) (h v)
 | cell r k ih =>
  intro n c c' hc h
  cases c with
  | zero=>simp[bR] at h
  | succ c =>
   cases c' with
   | zero=>omega
   | succ c'=>simp only[bR] at h ⊢;exact λ v=>ih v (by omega) (h v)
 | gen k ih =>
  intro n c c' hc h
  cases c with
  | zero=>simp[bR] at h
  | succ c =>
   cases c' with
   | zero=>omega
   | succ c'=>simp only[bR] at h ⊢;exact λ v=>ih v (by omega) (h v)
 | node r k ih =>
  intro n c c' hc h
  cases c<;>cases c'<;>simp only[bR] at h ⊢ <;> exact λ v=>ih v (by omega) (h v)
section
variable{n c:Nat}
theorem pN{a:Int}{k:Int->Tr}(h:∀n',n'<n->∀v,bR (k v) n' 64):bR (.load a k) n c:=by
 cases n with
 | zero=>simp[bR]
 | succ n=>simp only[bR];exact h n (Nat.lt_succ_self n)
theorem Db{a o m:Int}{k:Bool->Tr}(h:∀n',n'<n->∀v,bR (k v) n' 64):bR (.kR a o m k) n c:=by
 cases n with
 | zero=>simp[bR]
 | succ n=>simp only[bR];exact h n (Nat.lt_succ_self n)
theorem Mq{a:Nv}{i:Int}{k:Int->Tr}(h:∀v,bR (k v) n c):bR (.alloc a i k) n (c+1):=by simp only[bR];exact h
theorem zd{i:Int}{k:Int->Tr}(h:∀v,bR (k v) n c):bR (.cell i k) n (c+1):=by simp only[bR];exact h
theorem aBo{k:Int->Tr}(h:∀v,bR (k v) n c):bR (.gen k) n (c+1):=by simp only[bR];exact h
theorem cK{r:Int}{k:Nv->Tr}(h:∀v,bR (k v) n c):bR (.node r k) n c:=by
 cases c<;>simp only[bR]<;>exact h
abbrev Ip{X:Type}(K:X->Tr)(n:Nat):Prop:=∀n',n'<n->∀v,bR (K v) n' 64
theorem Ip.lt{X:Type}{K:X->Tr}{m:Nat}(h:Ip K n)(hm:m<=n):Ip K m:=λ n' h' v=>h n' (by omega) v
theorem jz{v s:Int}{K:Int->Tr}(h:∀w,bR (K w) n c):bR (yu v s K) n c:=cK λ _=>h _
theorem uW{t:gO}{v s:Int}{K:Int->Tr}(h:Ip K n):bR (vS t v s K) n c:=jz λ _=>Db λ n' hn _=>h n' hn _
theorem Yf{t:gO}{K:Int->Tr}(h:Ip K n):bR (Kr t K) n c:=pN λ n1 h1 v=>cK λ nv=>by
 split
 ·exact h n1 h1 v
 ·exact cK λ _=>pN λ n2 h2 s=>by
   split
   ·exact cK λ _=>Db λ n3 h3 _=>cK λ _=>pN λ n4 h4 _=>uW (h.lt (by omega))
   ·exact uW (h.lt (by omega))
theorem Oi{i m p:Int}{K:Int->Tr}(h:Ip K n):bR (Pc i m p K) n c:=cK λ _=>cK λ _=>Db λ n' hn _=>cK λ _=>h n' hn _
theorem Aq{i m:Int}{K:Int->Tr}(h:Ip K n):bR (jQ i m K) n c:=cK λ _=>pN λ n1 h1 p=>by
 split
 ·exact h n1 h1 _
 ·exact Oi (h.lt (by omega))
theorem Jf{i m p:Int}{b:Bool}{K:Int->Tr}(h:Ip K n)(hc:1<=c):bR (qJ i m p b K) n c:=by
 unfold qJ
 split
 ·exact cK λ _=>Db λ n1 h1 _=>Aq (h.lt (by omega))
 ·obtain⟨c,rfl⟩:∃d,c=d+1:=⟨c-1,by omega⟩
  exact cK λ _=>Mq λ _=>Db λ n1 h1 _=>Aq (h.lt (by omega))
theorem C4{t:gO}{i m:Int}{K:Int->Tr}(h:Ip K n):bR (sW t i m K) n c:=cK λ _=>pN λ n1 h1 p=>by
 split
 ·exact h n1 h1 _
 ·refine cK λ _=>?_
  split
  ·split
   ·exact Jf (h.lt (by omega)) (by decide)
   ·exact Yf λ n2 h2 _=>cK λ _=>cK λ _=>Jf (h.lt (by omega)) (by decide)
  ·exact Oi (h.lt (by omega))
theorem iA{t:gO}{i:Int}{K:Int->Tr}(h:Ip K n):bR (oO t i K) n c:=cK λ _=>pN λ n1 h1 _=>C4 (h.lt (by omega))
theorem Cu{t:gO}{v:Int}{K:Tr}(h:∀n',n'<n->bR K n' 64):bR (zY t v K) n c:=cK λ _=>iA λ n1 h1 _=>cK λ _=>cK λ _=>Db λ n2 h2 _=>h n2 (by omega)
theorem pA{t:gO}{K:Int->Tr}(h:Ip K n):bR (yS t K) n c:=pN λ n1 h1 v=>cK λ nv=>by
 split
 ·exact h n1 h1 v
 ·exact cK λ _=>pN λ n2 h2 s=>by
   split
   ·exact Cu λ n3 h3=>cK λ _=>pN λ n4 h4 _=>uW (h.lt (by omega))
   ·exact uW (h.lt (by omega))
theorem jZ{t:gO}{i o m:Int}{K:Bool->Tr}(h:Ip K n):bR (jK t i o m K) n c:=cK λ _=>Db λ n1 h1 b=>by
 split
 ·exact C4 λ n2 h2 _=>h n2 (by omega) _
 ·exact h n1 h1 _
theorem zS{t:gO}{o e m:Int}{K:Bool->Tr}(h:Ip K n)(hc:1<=c):bR (B5 t o e m K) n c:=by
 obtain⟨c,rfl⟩:∃d,c=d+1:=⟨c-1,by omega⟩
 exact Mq λ _=>Db λ n1 h1 b=>by
  split
  ·exact Cu λ n2 h2=>cK λ _=>pN λ n3 h3 _=>uW λ n4 h4 _=>h n4 (by omega) _
  ·exact h n1 h1 _
end
end

/- The trees are never stuck within as many accesses as they have fuel: calls. -/
section
open Go Go.RowKit Go.Ct
section
variable{n c:Nat}
theorem fS{a:Nv}{i:Int}{k:Int->Tr}(hc:1<=c)(h:∀v,bR (k v) n (c-1)):bR (.alloc a i k) n c:=by
 obtain⟨c,rfl⟩:∃d,c=d+1:=⟨c-1,by omega⟩
 exact Mq h
theorem Bt{a i r:Int}{K:Int->Tr}(hc:1<=c)(h:∀v,bR (K v) n (c-1)):bR (Ge a i r K) n c:=cK λ _=>fS hc h
theorem Ti{t:gO}{i o x:Int}{K:Int->Tr}(h:Ip K n):bR (Ml t i o x K) n c:=cK λ _=>iA λ n1 h1 _=>cK λ _=>fS (by decide) λ _=>Bt (by decide) λ _=>jZ λ n2 h2 _=>h n2 (by omega) _
theorem yZ{t:gO}{p o:Int}{h0:Nat}{l:Int}{K:Bool->Tr}(h:Ip K n):bR (zO t p o h0 l K) n c:=iA λ n1 h1 _=>cK λ _=>by
 split
 ·exact iA λ n2 h2 _=>cK λ _=>by
   split
   ·exact fS (by decide) λ _=>cK λ _=>fS (by decide) λ _=>jZ λ n3 h3 _=>h n3 (by omega) _
   ·exact h n2 (by omega) _
 ·exact h n1 h1 _
theorem Jh{t:gO}{h0:Nat}{key:ByteArray}{K:Rs->Tr}:∀(q n c:Nat) (i level:Int),n<q->Ip K n->bR (Cs t h0 key K q i level) n c
 | 0,n,c,i,level,hq,_=>absurd hq (Nat.not_lt_zero n)
 | q+1,n,c,i,level,hq,h=>iA λ n1 h1 _=>cK λ _=>by
  split
  ·split<;>exact h n1 h1 _
  ·split
   ·exact h n1 h1 _
   ·split
    ·exact h n1 h1 _
    ·exact cK λ _=>by
      split
      ·split<;>exact h n1 h1 _
      ·exact Jh q n1 64 _ _ (by omega) (h.lt (by omega))
theorem Qv:∀(l:List NI) (r:Int) (K:Int->Tr) (n c:Nat),l.length<=c->(∀v,bR (K v) n (c-l.length))->bR (A8 l r K) n c
 | [],r,K,n,c,_,h=>h r
 | a::l,r,K,n,c,hc,h=>by
  have hc':l.length+1<=c:=by simpa using hc
  exact fS (by omega) λ v=>Qv l v K n (c-1) (by omega) (λ u=>by have:=h u;rw[List.length_cons] at this;rwa [show c-1-l.length=c-(l.length+1) by omega])
theorem Xj{k:Cl}{b:Int}{h0 level:Nat}{gen:Int}{K:Int->Tr}(hc:32<=c)(h:∀v,bR (K v) n (c-32)):bR (V3 k b h0 level gen K) n c:=cK λ nb=>fS (by omega) λ f=>by
 have hl:(dP b nb.hash.toNat h0 (nb.key,nb.val) k.key k.val gen f.toNat level).tail.length<=31:=by
  have h1:=S7 (x:=b) (h0:=nb.hash.toNat) (h:=h0) (p0:=(nb.key,nb.val)) (k:=k.key) (u:=k.val) (gen:=gen) (f:=f.toNat) (kP nb.hash.toNat h0-level) (kP nb.hash.toNat h0-(kP nb.hash.toNat h0-level))
  have h2:=zG nb.hash.toNat h0
  rw[List.length_tail]
  unfold dP
  omega
 exact Qv _ _ _ _ _ (by omega) λ v=>zm (by omega) (h v)
theorem L3{k:Cl}{i m:Int}{h0 level:Nat}{gen:Int}{K:Rs->Int->Tr}(h:∀n',n'<=n->∀r w,bR (K r w) n' 64):bR (lV k i m h0 level gen K) n 64:=cK λ nb=>by
 split
 ·split
  ·exact fS (by decide) λ _=>jZ λ n1 h1 _=>h n1 (by omega) _ _
  ·exact h n (Nat.le_refl n) _ _
 ·split
  ·split
   ·exact fS (by decide) λ _=>fS (by decide) λ _=>jZ λ n1 h1 _=>h n1 (by omega) _ _
   ·exact h n (Nat.le_refl n) _ _
  ·refine cK λ _=>?_
   split
   ·exact h n (Nat.le_refl n) _ _
   ·split
    ·split
     ·exact fS (by decide) λ _=>Bt (by decide) λ _=>jZ λ n1 h1 _=>h n1 (by omega) _ _
     ·exact h n (Nat.le_refl n) _ _
    ·split
     ·exact Xj (by decide) λ _=>fS (by decide) λ _=>Bt (by decide) λ _=>jZ λ n1 h1 _=>h n1 (by omega) _ _
     ·exact h n (Nat.le_refl n) _ _
theorem G6{k:Cl}{i m x gen:Int}{K:Int->Tr}(h:∀n',n'<=n->∀v,bR (K v) n' 64):bR (Ez k i m x gen K) n 64:=cK λ _=>cK λ _=>by
 split
 ·exact h n (Nat.le_refl n) _
 ·exact Ti λ n1 h1 _=>h n1 (by omega) _
theorem Fg{k:Cl}{h0:Nat}{K:Rs->Tr}{again:Tr}{gen:Int}:∀(q n c:Nat) (i parent:Int) (level:Nat),n<q->Ip K n->(∀n',n'<n->bR again n' 64)->bR (Dn k h0 K again gen q i parent level) n c
 | 0,n,c,i,p,level,hq,_,_=>absurd hq (Nat.not_lt_zero n)
 | q+1,n,c,i,p,level,hq,h,ha=>iA λ n1 h1 _=>cK λ _=>by
  split
  ·exact yZ λ n2 h2 _=>ha n2 (by omega)
  ·refine L3 λ n2 h2 r w=>?_
   split
   ·exact h n2 (by omega) _
   ·split
    ·exact ha n2 (by omega)
    ·refine G6 λ n3 h3 v=>?_
     split
     ·exact ha n3 (by omega)
     ·exact Fg q n3 64 _ _ _ (by omega) (h.lt (by omega)) (λ n4 h4=>ha n4 (by omega))
theorem Ph{k:Cl}{h0:Nat}{K:Rs->Tr}:∀(q n c:Nat),n<q->Ip K n->bR (Fv k h0 K q) n c
 | 0,n,c,hq,_=>absurd hq (Nat.not_lt_zero n)
 | q+1,n,c,hq,h=>pA λ n1 h1 _=>cK λ _=>Fg q n1 64 _ _ _ (by omega) (h.lt (by omega)) (λ n2 h2=>Ph q n2 64 (by omega) (h.lt (by omega)))
theorem Ix{k:Cl}{i m:Int}{h0 level:Nat}{K:Rs->Int->Tr}(h:∀n',n'<=n->∀r w,bR (K r w) n' 64):bR (kA k i m h0 level K) n 64:=cK λ nb=>by
 split
 ·split
  ·exact h n (Nat.le_refl n) _ _
  ·exact fS (by decide) λ _=>jZ λ n1 h1 _=>h n1 (by omega) _ _
 ·split
  ·exact h n (Nat.le_refl n) _ _
  ·refine cK λ _=>?_
   split
   ·exact h n (Nat.le_refl n) _ _
   ·split
    ·exact h n (Nat.le_refl n) _ _
    ·split
     ·exact h n (Nat.le_refl n) _ _
     ·exact cK λ _=>fS (by decide) λ _=>jZ λ n1 h1 _=>h n1 (by omega) _ _
theorem Us{t:gO}{path:List Int}{h0:Nat}{K:Tr}:∀(l n:Nat),(∀n',n'<=n->bR K n' 64)->bR (vg t path h0 K l) n 64
 | 0,n,h=>h n (Nat.le_refl n)
 | l+1,n,h=>iA λ n1 h1 _=>cK λ _=>by
  split
  ·exact yZ λ n2 h2 _=>Us l n2 (λ n3 h3=>h n3 (by omega))
  ·exact h n1 (by omega)
theorem C3{k:Cl}{h0:Nat}{K:Rs->Tr}{again:Tr}{gen:Int}:∀(q n c:Nat) (i:Int) (path:List Int) (level:Nat),n<q->Ip K n->(∀n',n'<n->bR again n' 64)->bR (vC k h0 K again gen q i path level) n c
 | 0,n,c,i,p,level,hq,_,_=>absurd hq (Nat.not_lt_zero n)
 | q+1,n,c,i,p,level,hq,h,ha=>iA λ n1 h1 _=>cK λ _=>by
  split
  ·exact yZ λ n2 h2 _=>ha n2 (by omega)
  ·refine Ix λ n2 h2 r w=>?_
   split
   ·split
    ·exact Us _ _ λ n3 h3=>h n3 (by omega) _
    ·exact h n2 (by omega) _
   ·split
    ·exact ha n2 (by omega)
    ·refine G6 λ n3 h3 v=>?_
     split
     ·exact ha n3 (by omega)
     ·exact C3 q n3 64 _ _ _ (by omega) (h.lt (by omega)) (λ n4 h4=>ha n4 (by omega))
theorem Jt{k:Cl}{h0:Nat}{K:Rs->Tr}:∀(q n c:Nat),n<q->Ip K n->bR (vL k h0 K q) n c
 | 0,n,c,hq,_=>absurd hq (Nat.not_lt_zero n)
 | q+1,n,c,hq,h=>pA λ n1 h1 _=>cK λ _=>C3 q n1 64 _ _ _ (by omega) (h.lt (by omega)) (λ n2 h2=>Jt q n2 64 (by omega) (h.lt (by omega)))
theorem Mt{i:Int}{k:Int->Tr}(hc:1<=c)(h:∀v,bR (k v) n (c-1)):bR (.cell i k) n c:=by
 obtain⟨c,rfl⟩:∃d,c=d+1:=⟨c-1,by omega⟩
 exact zd h
theorem S2{k:Int->Tr}(hc:1<=c)(h:∀v,bR (k v) n (c-1)):bR (.gen k) n c:=by
 obtain⟨c,rfl⟩:∃d,c=d+1:=⟨c-1,by omega⟩
 exact aBo h
theorem jX{r:Rs}:bR (.done r) n c:=by simp[bR]
theorem Kk{m:Int}:bR (P1 m .done) n 64:=S2 (by decide) λ _=>fS (by decide) λ _=>Mt (by decide) λ _=>jX
theorem Kb{t:gO}{fz:Bool}:∀(q n c:Nat),n<q->bR (Kf t fz .done q) n c
 | 0,n,c,hq=>absurd hq (Nat.not_lt_zero n)
 | q+1,n,c,hq=>pA λ n1 h1 _=>iA λ n2 h2 _=>S2 (by decide) λ _=>fS (by decide) λ _=>zS (λ n3 h3 b=>by
  split
  ·split
   ·exact Mt (by decide) λ _=>jX
   ·exact Kk
  ·exact Kb q n3 64 (by omega)) (by decide)
theorem F8{t:gO}{fz:Bool}{q:Nat}(h:n<q):bR (sX t fz .done q) n c:=by
 unfold sX
 split
 ·exact pN λ n1 h1 _=>by
   split
   ·exact Mt (by decide) λ _=>jX
   ·exact iA λ n2 h2 _=>Kk
 ·exact Kb q n c h
theorem Hq{t:gO}:∀(q n c:Nat),n<q->bR (zQ t .done q) n c
 | 0,n,c,hq=>absurd hq (Nat.not_lt_zero n)
 | q+1,n,c,hq=>pA λ n1 h1 _=>iA λ n2 h2 _=>fS (by decide) λ _=>S2 (by decide) λ _=>fS (by decide) λ _=>zS (λ n3 h3 b=>by
  split
  ·exact jX
  ·exact Hq q n3 64 (by omega)) (by decide)
theorem Jy{k:Cl}{h0 q:Nat}(h:n<q):bR (kK k h0 q) n 64:=by
 have hd:∀{X:Type} {K:X->Rs},Ip (λ v=>Tr.done (K v)) n:=λ _ _ _=>jX
 unfold kK
 split
 ·exact jX
 split
 ·exact iA hd
 split
 ·exact jZ hd
 split
 ·exact pA hd
 split
 ·exact zS hd (by decide)
 split
 ·exact pA λ n1 h1 _=>Jh q n1 64 _ _ (by omega) (λ _ _ _=>jX)
 split
 ·exact Ph q n 64 h (λ _ _ _=>jX)
 split
 ·exact Jt q n 64 h (λ _ _ _=>jX)
 split
 ·exact F8 h
 split
 ·exact F8 h
 ·exact Hq q n 64 h
end
end

end Go.Proofs.YtbajmaoegmbfgaaGreat

/- Executions of the reference: one repetition. -/
import Derived.Test.YtbajmaoegmbfgaaGreatEx23
import Derived.Test.YtbajmaoegmbfgaaGreatGTp2

set_option linter.unusedSimpArgs false
set_option linter.unusedVariables false
namespace Go.Ct
section
open Go Go.RowKit
theorem qd{L:List Nv}{r:Rs}{gs ms cl gn:List Int}{R:Tr}(h:Wk L (.done r) gs ms cl gn R):gs=[]/\ms=[]/\cl=[]/\gn=[]/\R=.done r:=by
 cases h
 exact⟨rfl,rfl,rfl,rfl,rfl⟩
def XS.re(x:XS)(free:Nat):XS:={x with a:=0,m:=0,c:=0,g:=0,fr:=free,st:=false}
theorem aBU{T R:Tr}{x:XS}{free N:Nat}(hw:Wk x.nodes T x.got x.made x.cel x.gns R)(hN:x.got.length+free=N):gG ⟨T,R,x.mm,free,N⟩ (x.re free) T:=.inl ⟨rfl,R,⟨Wk.nil _,hw,by show Rc (free-free) R x.mm R x.mm;rw[Nat.sub_self];exact Rc.refl _ _,Nat.le_refl _,Nat.zero_le _,Nat.zero_le _,Nat.zero_le _,Nat.zero_le _,hN⟩⟩
structure tS(T R:Tr)(free N:Nat)(rs:Rs)(x x':XS)(N':List aP)(dn':Bool)(rs':Rs):Prop where
 ok:x'.Ok
 ext:x'.L=x.L++N'
 lc:x.cs.length<=x'.cs.length
 gl:x'.got.length<=N
 Tn:(dn'=true/\∃j,j<=free/\x'.got.length+free=N+j/\Wk x'.nodes T x'.got x'.made x'.cel x'.gns (.done rs')/\Rc j R x.mm (.done rs') x'.mm)∨(dn'=false/\rs'=rs/\x'.got.length=N/\∃R',R'.acc=some x'.nx/\Wk x'.nodes T x'.got x'.made x'.cel x'.gns R'/\Rc free R x.mm R' x'.mm)
theorem Nx.uy{T R:Tr}{free N:Nat}{rs r:Rs}{x x':XS}{N':List aP}(h:Nx ⟨T,R,x.mm,free,N⟩ (x.re free) x' N' (.done r) 0)(hs:x'.st=false):tS T R free N rs x x' N' true r:=by
 obtain⟨R',hR⟩:=h.go.run hs
 obtain⟨e1,e2,e3,e4,e5⟩:=qd hR.suf
 refine⟨h.ok,h.ext,h.lc,(by have:=hR.hN;show x'.got.length<=N;simp only at this;omega),.inl ⟨rfl,free-x'.fr,Nat.sub_le _ _,(by have:=hR.hN;have:=hR.hf;simp only at *;omega),?_,e5▸hR.rc⟩⟩
 have hp:=hR.pre
 rwa [List.take_of_length_le (List.drop_eq_nil_iff.1 e1),List.take_of_length_le (List.drop_eq_nil_iff.1 e2),List.take_of_length_le (List.drop_eq_nil_iff.1 e3),List.take_of_length_le (List.drop_eq_nil_iff.1 e4)] at hp
theorem Nx.uw{T R:Tr}{free N:Nat}{rs r:Rs}{x x':XS}{N':List aP}(h:Nx ⟨T,R,x.mm,free,N⟩ (x.re free) x' N' (.done r) 0)(hs:x'.st=true):tS T R free N rs x x' N' false rs:=by
 rcases h.go with h1|h1
 ·rw[hs] at h1;exact nomatch h1.1
 ·obtain⟨R',hR⟩:=h1.2
  exact⟨h.ok,h.ext,h.lc,Nat.le_of_eq hR.hN,.inr ⟨rfl,rfl,hR.hN,R',hR.ac,hR.wk,hR.rc⟩⟩
end
end Go.Ct
namespace Go.Proofs.YtbajmaoegmbfgaaGreat
section
open Go Go.RowKit Go.Ct
section
variable{k:Cl}{bx bm:Nat}{x:XS}{rs:Rs}{D:List Nat}{A:Fr}{w:World}
theorem Ph{m n N:Nat}{R:Tr}(free:Nat)(hg:Gx.Ok ⟨kU k (lZ k.key m) n,R,x.mm,free,N⟩)(hwk:Wk x.nodes (kU k (lZ k.key m) n) x.got x.made x.cel x.gns R)(hN:x.got.length+free=N)(hk:Yo k)(hn:n<=1073741824)(hm:m<18446744073709551616)(em:k.mask=(m:Int))(ht:k.t.root<=9223372036854775807)(ha:k.a<=x.L.length)(hb:k.b<=x.L.length)(hnn:k.n<=x.L.length)(hA:∀f∈aK x.L,f∈A)(ok:x.Ok)(hs:SF w D (xH k bx bm x false rs) A [] (xW x) w):Calls Tryz.prog 99 #[.pointer (some ⟨bx,0,none⟩),.int .i64 (free:Int)] w λ e w'=>∃q:XS×List aP×Bool×Rs,e=.returned (.tuple #[])/\tS (kU k (lZ k.key m) n) R free N rs x q.1 q.2.1 q.2.2.1 q.2.2.2/\SF w D (xH k bx bm q.1 q.2.2.1 q.2.2.2) [] (aK q.2.1) (xW q.1) w':=by
 have hfr:=hg.hf
 have ok0:(x.re free).Ok:=ok.vo rfl rfl rfl rfl rfl rfl (Nat.zero_le _) (Nat.zero_le _) (Nat.zero_le _) (Nat.zero_le _) hfr
 refine enter Tryz.func99 Tryz.ntmps99 rfl rfl (bW hs) ?_
 simp only[bX]
 refine iR ?_;refine pE ?_;refine pE ?_;refine aA ?_;refine No ?_;refine cP (by exact jA λ _=>fF rf cQ wn rf fQ rf rf kO) (λ _=>?_);refine No ?_;refine cP (by exact jA λ _=>fF rf cQ wn rf fQ rf rf kO) (λ _=>?_);refine No ?_;refine cP (by exact jA λ _=>fF rf cQ wn rf fQ rf rf kO) (λ _=>?_);refine No ?_;refine cP (by exact jA λ _=>fF rf cQ wn rf fQ rf rf kO) (λ _=>?_);refine No ?_;refine cP (by exact jA λ _=>fF rf cQ wn rf fQ rf rf kO) (λ _=>?_);refine No ?_;refine cP (by exact jA λ _=>fF rf cQ wn rf fQ rf rf kO) (λ _=>?_);refine aH ?_;refine J2 ?_;refine aD (cM (hs:=xH k bx bm (x.re free) false rs) (os:=xW (x.re free)) (A0:=aK x.L) (hA:=aW.of λ f hf=>.inr (.inl (hA f hf))) (hc:=λ w hs=>aBI hg (x:=x.re free) n hk hn hm em ht ha hb hnn (λ f hf=>hf) (aBU hwk hN) ok0 hs)) (λ x25 h25=>?_);refine aJ (λ x4=>?_);refine cP (by exact(jA λ _=>bO rf cQ rf rf eD rf kO)) (λ _=>?_);refine aH ?_;refine lW ?_;refine oH ?_
 refine bB (λ c30=>?_) (λ c30=>?_)
 ·refine dK [(0,[]),(1,[]),(2,[]),(3,[]),(4,[]),(5,[2]),(6,[]),(7,[]),(8,[])] ?_;refine iH ?_;refine bG ?_;refine J4 ?_;refine kN (i:=5) (hq:=(by exact jA λ _=>fF rf cQ wn rf fQ rf rf kO)) (h:=λ _=>?_);refine J4 ?_;refine kN (i:=8) (hq:=(jA λ _=>lR (off:=41) (vs:=x25.1.cells) rf cQ rf rfl eD (Nat.le_of_ble_eq_true rfl) rf kO)) (h:=λ _=>?_);refine dY ?_
  refine Dz Tryz.results99 (λ w hw=>?_)
  first
  | exact⟨(x25.2.1,x25.2.2,true,x25.1),rfl,h25.uy (by simpa using c30),by rw[List.append_nil] at hw;exact hw.aU (hF:=by exact aY.all)⟩
  | exact⟨(x25.2.1,x25.2.2,false,rs),rfl,h25.uw (by simpa using c30),by rw[List.append_nil] at hw;exact hw.aU (hF:=by exact aY.all)⟩
 ·refine bA ?_
  refine Dz Tryz.results99 (λ w hw=>?_)
  first
  | exact⟨(x25.2.1,x25.2.2,true,x25.1),rfl,h25.uy (by simpa using c30),by rw[List.append_nil] at hw;exact hw.aU (hF:=by exact aY.all)⟩
  | exact⟨(x25.2.1,x25.2.2,false,rs),rfl,h25.uw (by simpa using c30),by rw[List.append_nil] at hw;exact hw.aU (hF:=by exact aY.all)⟩
end
end

/- Executions of the reference: steps. -/
end Go.Proofs.YtbajmaoegmbfgaaGreat
namespace Go.Ct
section
open Go Go.RowKit
theorem Fw{R:Tr}{a:Ac}(h:R.acc=some a){n c:Nat}(ht:bR R n c)(hn:1<=n):bR R n 64:=by
 cases R<;>simp only[Tr.acc,reduceCtorEq] at h
 ·cases n with
  | zero=>omega
  | succ n=>simpa only[bR] using ht
 ·cases n with
  | zero=>omega
  | succ n=>simpa only[bR] using ht
structure nq(T:Tr)(x:XS)(dn:Bool)(rs:Rs)(R:Tr):Prop where
 ok:x.Ok
 wk:Wk x.nodes T x.got x.made x.cel x.gns R
 Tn:(dn=true/\R=.done rs)∨(dn=false/\R.acc=some x.nx)
theorem tS.exI{T R:Tr}{free N:Nat}{rs rs':Rs}{x x':XS}{N':List aP}{dn':Bool}(h:tS T R free N rs x x' N' dn' rs'):∃R' j,j<=free/\(dn'=false->j=free)/\nq T x' dn' rs' R'/\Rc j R x.mm R' x'.mm/\x'.L=x.L++N'/\x.cs.length<=x'.cs.length:=by
 rcases h.Tn with⟨e,j,h1,_,h2,h3⟩|⟨e,_,_,R',h1,h2,h3⟩
 ·exact⟨_,j,h1,(λ h=>by rw[e] at h;cases h),⟨h.ok,h2,.inl ⟨e,rfl⟩⟩,h3,h.ext,h.lc⟩
 ·exact⟨R',free,Nat.le_refl _,λ _=>rfl,⟨h.ok,h2,.inr ⟨e,h1⟩⟩,h3,h.ext,h.lc⟩
theorem tS.exN{T R:Tr}{free N:Nat}{rs rs':Rs}{x x':XS}{N':List aP}{dn':Bool}(h:tS T R free N rs x x' N' dn' rs'):∃R' j,j<=free/\(dn'=false->j=free)/\nq T x' dn' rs' R'/\Rc j R x.mm R' x'.mm/\x'.L=x.L++N'/\x.cs.length<=x'.cs.length/\x'.got.length+free=N+j:=by
 rcases h.Tn with⟨e,j,h1,h0,h2,h3⟩|⟨e,_,h0,R',h1,h2,h3⟩
 ·exact⟨_,j,h1,(λ h=>by rw[e] at h;cases h),⟨h.ok,h2,.inl ⟨e,rfl⟩⟩,h3,h.ext,h.lc,h0⟩
 ·exact⟨R',free,Nat.le_refl _,λ _=>rfl,⟨h.ok,h2,.inr ⟨e,h1⟩⟩,h3,h.ext,h.lc,by rw[h0]⟩
end
end Go.Ct
namespace Go.Proofs.YtbajmaoegmbfgaaGreat
section
open Go Go.RowKit Go.Ct
section
variable{k:Cl}{bx bm:Nat}{x:XS}{dn:Bool}{rs:Rs}{D:List Nat}{A:Fr}{w:World}
theorem Io(hs:SF w D (xH k bx bm x dn rs) A [] (xW x) w):Calls Tryz.prog 69 #[.pointer (some ⟨bx,0,none⟩)] w λ e w'=>∃q:Unit,e=.returned (.bool dn)/\True/\SF w D (xH k bx bm x dn rs) [] [] (xW x) w':=by
 refine enter Tryz.func69 Tryz.ntmps69 rfl rfl (bW hs) ?_
 simp only[bX]
 refine cO ?_;refine lW ?_;refine J1 ?_
 refine aT Tryz.results69 (λ w hw=>?_)
 exact⟨(),rfl,trivial,hw.aU⟩
theorem O8(hs:SF w D (xH k bx bm x dn rs) A [] (xW x) w):Calls Tryz.prog 135 #[.pointer (some ⟨bx,0,none⟩)] w λ e w'=>∃q:Unit,e=.returned (.agg ⟨rs.cells⟩)/\True/\SF w D (xH k bx bm x dn rs) [] [] (xW x) w':=by
 refine enter Tryz.func135 Tryz.ntmps135 rfl rfl (bW hs) ?_
 simp only[bX]
 refine J0 ?_;refine aJ (λ x2=>?_);refine aH ?_;refine Ia ?_;refine aC (aQ (k:=8) (vs:=rs.cells) rf cQ eD rfl rfl) rfl ?_;refine J5 ?_
 refine bC Tryz.results135 (λ w hw=>?_)
 exact⟨(),rfl,trivial,hw.aU⟩
theorem ss(hs:SF w D (xH k bx bm x dn rs) A [] (xW x) w):Calls Tryz.prog 132 #[.pointer (some ⟨bx,0,none⟩)] w λ e w'=>∃q:Unit,e=.returned (.int .i64 (x.got.length:Int))/\True/\SF w D (xH k bx bm x dn rs) [] [] (xW x) w':=by
 refine enter Tryz.func132 Tryz.ntmps132 rfl rfl (bW hs) ?_
 simp only[bX]
 refine cO ?_;refine lW ?_;refine dB ?_;refine J1 ?_
 refine aT Tryz.results132 (λ w hw=>?_)
 exact⟨(),rfl,trivial,hw.aU⟩
theorem th(hs:SF w D (xH k bx bm x dn rs) A [] (xW x) w):Calls Tryz.prog 134 #[.pointer (some ⟨bx,0,none⟩)] w λ e w'=>∃q:Unit,e=.returned (.tuple #[.agg ⟨(if dn=true then Ac.zero else x.nx).cells⟩,.bool (!dn)])/\True/\SF w D (xH k bx bm x dn rs) [] [] (xW x) w':=by
 refine enter Tryz.func134 Tryz.ntmps134 rfl rfl (bW hs) ?_
 simp only[bX]
 refine J0 ?_;refine aJ (λ x2=>?_);refine iB ?_;refine lW ?_;refine aH ?_
 refine bB (λ c7=>?_) (λ c7=>?_)
 ·refine J0 ?_;refine bJ ?_;refine wJ ?_
  refine bC Tryz.results134 (λ w hw=>?_)
  subst c7
  exact⟨(),rfl,trivial,hw.aU⟩
 ·refine bA ?_;refine Ia ?_;refine aC (aQ (k:=4) (vs:=x.nx.cells) rf cQ eD rfl rfl) rfl ?_;refine wJ ?_
  refine bC Tryz.results134 (λ w hw=>?_)
  subst c7
  exact⟨(),rfl,trivial,hw.aU⟩
theorem Uc{m n N:Nat}{R:Tr}(hT:bR (kU k (lZ k.key m) n) N 64)(hN:N<=1073741824)(hgN:x.got.length+1=N)(hsz:x.L.length<=137438953472/\x.cs.length<=137438953472/\x.gen<=137438953472)(hi:nq (kU k (lZ k.key m) n) x dn rs R)(hk:Yo k)(hn:n<=1073741824)(hm:m<18446744073709551616)(em:k.mask=(m:Int))(ht:k.t.root<=9223372036854775807)(ha:k.a<=x.L.length)(hb:k.b<=x.L.length)(hnn:k.n<=x.L.length)(hA:∀f∈aK x.L,f∈A)(hs:SF w D (xH k bx bm x dn rs) A [] (xW x) w):Calls Tryz.prog 68 #[.pointer (some ⟨bx,0,none⟩)] w λ e w'=>∃q:XS×List aP×Bool×Rs,e=.returned (.tuple #[])/\((dn=true/\q=(x,[],true,rs))∨(dn=false/\tS (kU k (lZ k.key m) n) R 1 N rs x q.1 q.2.1 q.2.2.1 q.2.2.2))/\SF w D (xH k bx bm q.1 q.2.2.1 q.2.2.2) [] (aK q.2.1) (xW q.1) w':=by
 have hg:dn=false->Gx.Ok ⟨kU k (lZ k.key m) n,R,x.mm,1,N⟩:=λ e=>by
  rcases hi.Tn with⟨e2,_⟩|⟨_,e2⟩
  ·rw[e] at e2;cases e2
  ·obtain⟨c,h1,_,_⟩:=hi.wk.rP (Nat.le_refl 64) hT (by omega)
   refine⟨hT,⟨N-x.got.length,by show 1<=N-x.got.length;omega,Fw e2 h1 (by omega)⟩,hN,Nat.le_refl 1,?_⟩
   show(x.L.map aP.c).length<=_/\_
   rw[List.length_map]
   exact hsz
 refine enter Tryz.func68 Tryz.ntmps68 rfl rfl (bW hs) ?_
 simp only[bX]
 refine lW ?_;refine oH ?_
 refine bB (λ c6=>?_) (λ c6=>?_)
 ·have ed:dn=false:=by simpa using c6
  subst ed
  refine An ?_;refine aD (cM (hs:=xH k bx bm x false rs) (os:=xW x) (A0:=aK x.L) (hA:=aW.of λ f hf=>.inr (.inl (hA f hf))) (hc:=λ w hs=>Ph (N:=N) (n:=n) (m:=m) 1 (hg rfl) hi.wk hgN hk hn hm em ht ha hb hnn (λ f hf=>hf) hi.ok hs)) (λ x8 h8=>?_);refine aH ?_
  refine Dz Tryz.results68 (λ w hw=>?_)
  first
  | exact⟨x8,rfl,.inr ⟨rfl,h8⟩,by rw[List.append_nil] at hw;exact hw.aU (hF:=by exact aY.all)⟩
  | exact⟨(x,[],true,rs),rfl,.inl ⟨by simpa using c6,rfl⟩,by rw[show dn=true from by simpa using c6] at hw;exact hw.aU (hF:=by exact aY.nil)⟩
 ·refine bA ?_
  refine Dz Tryz.results68 (λ w hw=>?_)
  first
  | exact⟨(x,[],true,rs),rfl,.inl ⟨by simpa using c6,rfl⟩,by rw[show dn=true from by simpa using c6] at hw;exact hw.aU (hF:=by exact aY.nil)⟩
end
end

/- Executions of the reference: the start. -/
end Go.Proofs.YtbajmaoegmbfgaaGreat
namespace Go.Ct
section
open Go Go.RowKit
def XS.new(L:List aP)(cs:List Int)(gen acc:Int)(pn:Option Addr)(cn:Nat)(pc:Option Addr)(cc:Nat):XS:=⟨L,cs,gen,acc,pn,cn,pc,cc,[],[],[],[],none,0,none,0,none,0,none,0,0,0,0,0,0,false,Ac.zero⟩
end
end Go.Ct
namespace Go.Proofs.YtbajmaoegmbfgaaGreat
section
open Go Go.RowKit Go.Ct
section
variable{k:Cl}{bm:Nat}{L:List aP}{cs:List Int}{gen acc:Int}{pn pc:Option Addr}{cn cc:Nat}{D:List Nat}{A:Fr}{w:World}
theorem si{m n N:Nat}(hT:bR (kU k (lZ k.key m) n) N 64)(hN:N<=1073741824)(hsz:L.length<=137438953472/\cs.length<=137438953472/\gen<=137438953472)(hk:Yo k)(hn:n<=1073741824)(hm:m<18446744073709551616)(em:k.mask=(m:Int))(ht:k.t.root<=9223372036854775807)(ha:k.a<=L.length)(hb:k.b<=L.length)(hnn:k.n<=L.length)(hA:∀f∈aK L,f∈A)(ok:(XS.new L cs gen acc pn cn pc cc).Ok)(hs:SF w D [(bm,mO L cs gen acc pn cn pc cc)] A [] [⟨pn,hU L,cn,47,14⟩,⟨pc,aG cs,cc,37,1⟩] w)(hN0:N=0:=by rfl):Calls Tryz.prog 49 #[.pointer (some ⟨bm,0,none⟩),.agg ⟨Rr k⟩] w λ e w'=>∃q:Nat×XS×List aP×Bool×Rs,e=.returned (.pointer (some ⟨q.1,0,none⟩))/\tS (kU k (lZ k.key m) n) (kU k (lZ k.key m) n) 0 N Rs.zero (XS.new L cs gen acc pn cn pc cc) q.2.1 q.2.2.1 q.2.2.2.1 q.2.2.2.2/\SF w D (xH k q.1 bm q.2.1 q.2.2.2.1 q.2.2.2.2) [] (aK q.2.2.1) (xW q.2.1) w':=by
 have hg:Gx.Ok ⟨kU k (lZ k.key m) n,kU k (lZ k.key m) n,(XS.new L cs gen acc pn cn pc cc).mm,0,N⟩:=⟨hT,⟨N,Nat.zero_le _,hT⟩,hN,Nat.zero_le _,by
  show(L.map aP.c).length<=_/\_
  rw[List.length_map]
  exact hsz⟩
 refine enter Tryz.func49 Tryz.ntmps49 rfl rfl ((((hs.kL 3 1).kL 27 1).kL 37 1).kL 37 1) ?_
 simp only[bX]
 refine J0 ?_;refine bI (λ x3=>?_);refine J1 ?_;refine J2 ?_;refine aC (aQ (k:=25) (vs:=Rr k) rf cQ eD rfl rfl) rfl ?_;refine bJ ?_;refine bI (λ x9=>?_);refine J1 ?_;refine J2 ?_;refine aD (cM (hs:=xH k x9 bm (XS.new L cs gen acc pn cn pc cc) false Rs.zero) (os:=xW (XS.new L cs gen acc pn cn pc cc)) (A0:=aK L) (hA:=aW.of λ f hf=>.inr (.inl (hA f hf))) (hc:=λ w hs=>Ph (N:=N) (n:=n) (m:=m) 0 hg (Wk.nil _) hN0.symm hk hn hm em ht ha hb hnn (λ f hf=>hf) ok hs)) (λ x11 h11=>?_);refine aH ?_;refine J2 ?_;refine J1 ?_
 refine aT Tryz.results49 (λ w hw=>?_)
 exact⟨(x9,x11.1,x11.2.1,x11.2.2.1,x11.2.2.2),rfl,h11,by rw[List.append_nil] at hw;exact hw.aU (hF:=by exact aY.all)⟩
end
end

/- The trees are never stuck within as many accesses as they have fuel: single procedures. -/
section
open Go Go.RowKit Go.Ct
theorem zt:∀{t:Tr} {n c c':Nat},c<=c'->bR t n c->bR t n c':=by
 intro t
 induction t with
 | done r=>intros;simp[bR]
 | stuck=>intro n c c' _ h;simp[bR] at h
 | load r k ih =>
  intro n c c' _ h
  cases n with
  | zero=>simp[bR]
  | succ n=>simpa only[bR] using h
 | kY r o m k ih =>
  intro n c c' _ h
  cases n with
  | zero=>simp[bR]
  | succ n=>simpa only[bR] using h
 | alloc r o k ih =>
  intro n c c' hc h
  cases c with
  | zero=>simp[bR] at h
  | succ c =>
   cases c' with
   | zero=>omega
   | succ c'=>simp only[bR] at h ⊢;exact λ v=>ih v (by omega) (h v)
 | cell r k ih =>
  intro n c c' hc h
  cases c with
  | zero=>simp[bR] at h
  | succ c =>
   cases c' with
   | zero=>omega
   | succ c'=>simp only[bR] at h ⊢;exact λ v=>ih v (by omega) (h v)
 | gen k ih =>
  intro n c c' hc h
  cases c with
  | zero=>simp[bR] at h
  | succ c =>
   cases c' with
   | zero=>omega
   | succ c'=>simp only[bR] at h ⊢;exact λ v=>ih v (by omega) (h v)
 | node r k ih =>
  intro n c c' hc h
  cases c<;>cases c'<;>simp only[bR] at h ⊢ <;> exact λ v=>ih v (by omega) (h v)
section
variable{n c:Nat}
theorem pK{a:Int}{k:Int->Tr}(h:∀n',n'<n->∀v,bR (k v) n' 64):bR (.load a k) n c:=by
 cases n with
 | zero=>simp[bR]
 | succ n=>simp only[bR];exact h n (Nat.lt_succ_self n)
theorem C1{a o m:Int}{k:Bool->Tr}(h:∀n',n'<n->∀v,bR (k v) n' 64):bR (.kY a o m k) n c:=by
 cases n with
 | zero=>simp[bR]
 | succ n=>simp only[bR];exact h n (Nat.lt_succ_self n)
theorem Ma{a:Nv}{i:Int}{k:Int->Tr}(h:∀v,bR (k v) n c):bR (.alloc a i k) n (c+1):=by simp only[bR];exact h
theorem w6{i:Int}{k:Int->Tr}(h:∀v,bR (k v) n c):bR (.cell i k) n (c+1):=by simp only[bR];exact h
theorem aBb{k:Int->Tr}(h:∀v,bR (k v) n c):bR (.gen k) n (c+1):=by simp only[bR];exact h
theorem cN{r:Int}{k:Nv->Tr}(h:∀v,bR (k v) n c):bR (.node r k) n c:=by
 cases c<;>simp only[bR]<;>exact h
abbrev Jc{X:Type}(K:X->Tr)(n:Nat):Prop:=∀n',n'<n->∀v,bR (K v) n' 64
theorem Jc.lt{X:Type}{K:X->Tr}{m:Nat}(h:Jc K n)(hm:m<=n):Jc K m:=λ n' h' v=>h n' (by omega) v
theorem dp{v s:Int}{K:Int->Tr}(h:∀w,bR (K w) n c):bR (yl v s K) n c:=cN λ _=>h _
theorem vE{t:gK}{v s:Int}{K:Int->Tr}(h:Jc K n):bR (vJ t v s K) n c:=dp λ _=>C1 λ n' hn _=>h n' hn _
theorem Zp{t:gK}{K:Int->Tr}(h:Jc K n):bR (Kj t K) n c:=pK λ n1 h1 v=>cN λ nv=>by
 split
 ·exact h n1 h1 v
 ·exact cN λ _=>pK λ n2 h2 s=>by
   split
   ·exact cN λ _=>C1 λ n3 h3 _=>cN λ _=>pK λ n4 h4 _=>vE (h.lt (by omega))
   ·exact vE (h.lt (by omega))
theorem P1{i m p:Int}{K:Int->Tr}(h:Jc K n):bR (Qc i m p K) n c:=cN λ _=>cN λ _=>C1 λ n' hn _=>cN λ _=>h n' hn _
theorem Aj{i m:Int}{K:Int->Tr}(h:Jc K n):bR (jP i m K) n c:=cN λ _=>pK λ n1 h1 p=>by
 split
 ·exact h n1 h1 _
 ·exact P1 (h.lt (by omega))
theorem Lg{i m p:Int}{b:Bool}{K:Int->Tr}(h:Jc K n)(hc:1<=c):bR (qT i m p b K) n c:=by
 unfold qT
 split
 ·exact cN λ _=>C1 λ n1 h1 _=>Aj (h.lt (by omega))
 ·obtain⟨c,rfl⟩:∃d,c=d+1:=⟨c-1,by omega⟩
  exact cN λ _=>Ma λ _=>C1 λ n1 h1 _=>Aj (h.lt (by omega))
theorem Dw{t:gK}{i m:Int}{K:Int->Tr}(h:Jc K n):bR (qR t i m K) n c:=cN λ _=>pK λ n1 h1 p=>by
 split
 ·exact h n1 h1 _
 ·refine cN λ _=>?_
  split
  ·split
   ·exact Lg (h.lt (by omega)) (by decide)
   ·exact Zp λ n2 h2 _=>cN λ _=>cN λ _=>Lg (h.lt (by omega)) (by decide)
  ·exact P1 (h.lt (by omega))
theorem iA{t:gK}{i:Int}{K:Int->Tr}(h:Jc K n):bR (kR t i K) n c:=cN λ _=>pK λ n1 h1 _=>Dw (h.lt (by omega))
theorem Da{t:gK}{v:Int}{K:Tr}(h:∀n',n'<n->bR K n' 64):bR (Bc t v K) n c:=cN λ _=>iA λ n1 h1 _=>cN λ _=>cN λ _=>C1 λ n2 h2 _=>h n2 (by omega)
theorem pB{t:gK}{K:Int->Tr}(h:Jc K n):bR (yM t K) n c:=pK λ n1 h1 v=>cN λ nv=>by
 split
 ·exact h n1 h1 v
 ·exact cN λ _=>pK λ n2 h2 s=>by
   split
   ·exact Da λ n3 h3=>cN λ _=>pK λ n4 h4 _=>vE (h.lt (by omega))
   ·exact vE (h.lt (by omega))
theorem kE{t:gK}{i o m:Int}{K:Bool->Tr}(h:Jc K n):bR (jO t i o m K) n c:=cN λ _=>C1 λ n1 h1 b=>by
 split
 ·exact Dw λ n2 h2 _=>h n2 (by omega) _
 ·exact h n1 h1 _
theorem zE{t:gK}{o e m:Int}{K:Bool->Tr}(h:Jc K n)(hc:1<=c):bR (B6 t o e m K) n c:=by
 obtain⟨c,rfl⟩:∃d,c=d+1:=⟨c-1,by omega⟩
 exact Ma λ _=>C1 λ n1 h1 b=>by
  split
  ·exact Da λ n2 h2=>cN λ _=>pK λ n3 h3 _=>vE λ n4 h4 _=>h n4 (by omega) _
  ·exact h n1 h1 _
end
end

/- The trees are never stuck within as many accesses as they have fuel: calls. -/
section
open Go Go.RowKit Go.Ct
section
variable{n c:Nat}
theorem fR{a:Nv}{i:Int}{k:Int->Tr}(hc:1<=c)(h:∀v,bR (k v) n (c-1)):bR (.alloc a i k) n c:=by
 obtain⟨c,rfl⟩:∃d,c=d+1:=⟨c-1,by omega⟩
 exact Ma h
theorem Cm{a i r:Int}{K:Int->Tr}(hc:1<=c)(h:∀v,bR (K v) n (c-1)):bR (Ho a i r K) n c:=cN λ _=>fR hc h
theorem Tp{t:gK}{i o x:Int}{K:Int->Tr}(h:Jc K n):bR (Mz t i o x K) n c:=cN λ _=>iA λ n1 h1 _=>cN λ _=>fR (by decide) λ _=>Cm (by decide) λ _=>kE λ n2 h2 _=>h n2 (by omega) _
theorem zV{t:gK}{p o:Int}{h0:Nat}{l:Int}{K:Bool->Tr}(h:Jc K n):bR (zC t p o h0 l K) n c:=iA λ n1 h1 _=>cN λ _=>by
 split
 ·exact iA λ n2 h2 _=>cN λ _=>by
   split
   ·exact fR (by decide) λ _=>cN λ _=>fR (by decide) λ _=>kE λ n3 h3 _=>h n3 (by omega) _
   ·exact h n2 (by omega) _
 ·exact h n1 h1 _
theorem Kr{t:gK}{h0:Nat}{key:ByteArray}{K:Rs->Tr}:∀(q n c:Nat) (i level:Int),n<q->Jc K n->bR (Dc t h0 key K q i level) n c
 | 0,n,c,i,level,hq,_=>absurd hq (Nat.not_lt_zero n)
 | q+1,n,c,i,level,hq,h=>iA λ n1 h1 _=>cN λ _=>by
  split
  ·split<;>exact h n1 h1 _
  ·split
   ·exact h n1 h1 _
   ·split
    ·exact h n1 h1 _
    ·exact cN λ _=>by
      split
      ·split<;>exact h n1 h1 _
      ·exact Kr q n1 64 _ _ (by omega) (h.lt (by omega))
theorem Pa:∀(l:List NI) (r:Int) (K:Int->Tr) (n c:Nat),l.length<=c->(∀v,bR (K v) n (c-l.length))->bR (Ax l r K) n c
 | [],r,K,n,c,_,h=>h r
 | a::l,r,K,n,c,hc,h=>by
  have hc':l.length+1<=c:=by simpa using hc
  exact fR (by omega) λ v=>Pa l v K n (c-1) (by omega) (λ u=>by have:=h u;rw[List.length_cons] at this;rwa [show c-1-l.length=c-(l.length+1) by omega])
theorem Y9{k:Cl}{b:Int}{h0 level:Nat}{gen:Int}{K:Int->Tr}(hc:32<=c)(h:∀v,bR (K v) n (c-32)):bR (Wq k b h0 level gen K) n c:=cN λ nb=>fR (by omega) λ f=>by
 have hl:(dP b nb.hash.toNat h0 (nb.key,nb.val) k.key k.val gen f.toNat level).tail.length<=31:=by
  have h1:=S3 (x:=b) (h0:=nb.hash.toNat) (h:=h0) (p0:=(nb.key,nb.val)) (k:=k.key) (u:=k.val) (gen:=gen) (f:=f.toNat) (lC nb.hash.toNat h0-level) (lC nb.hash.toNat h0-(lC nb.hash.toNat h0-level))
  have h2:=zL nb.hash.toNat h0
  rw[List.length_tail]
  unfold dP
  omega
 exact Pa _ _ _ _ _ (by omega) λ v=>zt (by omega) (h v)
theorem L5{k:Cl}{i m:Int}{h0 level:Nat}{gen:Int}{K:Rs->Int->Tr}(h:∀n',n'<=n->∀r w,bR (K r w) n' 64):bR (mD k i m h0 level gen K) n 64:=cN λ nb=>by
 split
 ·split
  ·exact fR (by decide) λ _=>kE λ n1 h1 _=>h n1 (by omega) _ _
  ·exact h n (Nat.le_refl n) _ _
 ·split
  ·split
   ·exact fR (by decide) λ _=>fR (by decide) λ _=>kE λ n1 h1 _=>h n1 (by omega) _ _
   ·exact h n (Nat.le_refl n) _ _
  ·refine cN λ _=>?_
   split
   ·exact h n (Nat.le_refl n) _ _
   ·split
    ·split
     ·exact fR (by decide) λ _=>Cm (by decide) λ _=>kE λ n1 h1 _=>h n1 (by omega) _ _
     ·exact h n (Nat.le_refl n) _ _
    ·split
     ·exact Y9 (by decide) λ _=>fR (by decide) λ _=>Cm (by decide) λ _=>kE λ n1 h1 _=>h n1 (by omega) _ _
     ·exact h n (Nat.le_refl n) _ _
theorem Ht{k:Cl}{i m x gen:Int}{K:Int->Tr}(h:∀n',n'<=n->∀v,bR (K v) n' 64):bR (H0 k i m x gen K) n 64:=cN λ _=>cN λ _=>by
 split
 ·exact h n (Nat.le_refl n) _
 ·exact Tp λ n1 h1 _=>h n1 (by omega) _
theorem Gq{k:Cl}{h0:Nat}{K:Rs->Tr}{again:Tr}{gen:Int}:∀(q n c:Nat) (i parent:Int) (level:Nat),n<q->Jc K n->(∀n',n'<n->bR again n' 64)->bR (Dx k h0 K again gen q i parent level) n c
 | 0,n,c,i,p,level,hq,_,_=>absurd hq (Nat.not_lt_zero n)
 | q+1,n,c,i,p,level,hq,h,ha=>iA λ n1 h1 _=>cN λ _=>by
  split
  ·exact zV λ n2 h2 _=>ha n2 (by omega)
  ·refine L5 λ n2 h2 r w=>?_
   split
   ·exact h n2 (by omega) _
   ·split
    ·exact ha n2 (by omega)
    ·refine Ht λ n3 h3 v=>?_
     split
     ·exact ha n3 (by omega)
     ·exact Gq q n3 64 _ _ _ (by omega) (h.lt (by omega)) (λ n4 h4=>ha n4 (by omega))
theorem N6{k:Cl}{h0:Nat}{K:Rs->Tr}:∀(q n c:Nat),n<q->Jc K n->bR (Gm k h0 K q) n c
 | 0,n,c,hq,_=>absurd hq (Nat.not_lt_zero n)
 | q+1,n,c,hq,h=>pB λ n1 h1 _=>cN λ _=>Gq q n1 64 _ _ _ (by omega) (h.lt (by omega)) (λ n2 h2=>N6 q n2 64 (by omega) (h.lt (by omega)))
theorem Jm{k:Cl}{i m:Int}{h0 level:Nat}{K:Rs->Int->Tr}(h:∀n',n'<=n->∀r w,bR (K r w) n' 64):bR (kC k i m h0 level K) n 64:=cN λ nb=>by
 split
 ·split
  ·exact h n (Nat.le_refl n) _ _
  ·exact fR (by decide) λ _=>kE λ n1 h1 _=>h n1 (by omega) _ _
 ·split
  ·exact h n (Nat.le_refl n) _ _
  ·refine cN λ _=>?_
   split
   ·exact h n (Nat.le_refl n) _ _
   ·split
    ·exact h n (Nat.le_refl n) _ _
    ·split
     ·exact h n (Nat.le_refl n) _ _
     ·exact cN λ _=>fR (by decide) λ _=>kE λ n1 h1 _=>h n1 (by omega) _ _
theorem V5{t:gK}{path:List Int}{h0:Nat}{K:Tr}:∀(l n:Nat),(∀n',n'<=n->bR K n' 64)->bR (um t path h0 K l) n 64
 | 0,n,h=>h n (Nat.le_refl n)
 | l+1,n,h=>iA λ n1 h1 _=>cN λ _=>by
  split
  ·exact zV λ n2 h2 _=>V5 l n2 (λ n3 h3=>h n3 (by omega))
  ·exact h n1 (by omega)
theorem Dm{k:Cl}{h0:Nat}{K:Rs->Tr}{again:Tr}{gen:Int}:∀(q n c:Nat) (i:Int) (path:List Int) (level:Nat),n<q->Jc K n->(∀n',n'<n->bR again n' 64)->bR (vS k h0 K again gen q i path level) n c
 | 0,n,c,i,p,level,hq,_,_=>absurd hq (Nat.not_lt_zero n)
 | q+1,n,c,i,p,level,hq,h,ha=>iA λ n1 h1 _=>cN λ _=>by
  split
  ·exact zV λ n2 h2 _=>ha n2 (by omega)
  ·refine Jm λ n2 h2 r w=>?_
   split
   ·split
    ·exact V5 _ _ λ n3 h3=>h n3 (by omega) _
    ·exact h n2 (by omega) _
   ·split
    ·exact ha n2 (by omega)
    ·refine Ht λ n3 h3 v=>?_
     split
     ·exact ha n3 (by omega)
     ·exact Dm q n3 64 _ _ _ (by omega) (h.lt (by omega)) (λ n4 h4=>ha n4 (by omega))
theorem Lf{k:Cl}{h0:Nat}{K:Rs->Tr}:∀(q n c:Nat),n<q->Jc K n->bR (wN k h0 K q) n c
 | 0,n,c,hq,_=>absurd hq (Nat.not_lt_zero n)
 | q+1,n,c,hq,h=>pB λ n1 h1 _=>cN λ _=>Dm q n1 64 _ _ _ (by omega) (h.lt (by omega)) (λ n2 h2=>Lf q n2 64 (by omega) (h.lt (by omega)))
theorem Nf{i:Int}{k:Int->Tr}(hc:1<=c)(h:∀v,bR (k v) n (c-1)):bR (.cell i k) n c:=by
 obtain⟨c,rfl⟩:∃d,c=d+1:=⟨c-1,by omega⟩
 exact w6 h
theorem Tc{k:Int->Tr}(hc:1<=c)(h:∀v,bR (k v) n (c-1)):bR (.gen k) n c:=by
 obtain⟨c,rfl⟩:∃d,c=d+1:=⟨c-1,by omega⟩
 exact aBb h
theorem kA{r:Rs}:bR (.done r) n c:=by simp[bR]
theorem Km{m:Int}:bR (Pq m .done) n 64:=Tc (by decide) λ _=>fR (by decide) λ _=>Nf (by decide) λ _=>kA
theorem Kc{t:gK}{fz:Bool}:∀(q n c:Nat),n<q->bR (Lh t fz .done q) n c
 | 0,n,c,hq=>absurd hq (Nat.not_lt_zero n)
 | q+1,n,c,hq=>pB λ n1 h1 _=>iA λ n2 h2 _=>Tc (by decide) λ _=>fR (by decide) λ _=>zE (λ n3 h3 b=>by
  split
  ·split
   ·exact Nf (by decide) λ _=>kA
   ·exact Km
  ·exact Kc q n3 64 (by omega)) (by decide)
theorem Gc{t:gK}{fz:Bool}{q:Nat}(h:n<q):bR (tN t fz .done q) n c:=by
 unfold tN
 split
 ·exact pK λ n1 h1 _=>by
   split
   ·exact Nf (by decide) λ _=>kA
   ·exact iA λ n2 h2 _=>Km
 ·exact Kc q n c h
theorem Gr{t:gK}:∀(q n c:Nat),n<q->bR (zT t .done q) n c
 | 0,n,c,hq=>absurd hq (Nat.not_lt_zero n)
 | q+1,n,c,hq=>pB λ n1 h1 _=>iA λ n2 h2 _=>fR (by decide) λ _=>Tc (by decide) λ _=>fR (by decide) λ _=>zE (λ n3 h3 b=>by
  split
  ·exact kA
  ·exact Gr q n3 64 (by omega)) (by decide)
theorem Jy{k:Cl}{h0 q:Nat}(h:n<q):bR (kU k h0 q) n 64:=by
 have hd:∀{X:Type} {K:X->Rs},Jc (λ v=>Tr.done (K v)) n:=λ _ _ _=>kA
 unfold kU
 split
 ·exact kA
 split
 ·exact iA hd
 split
 ·exact kE hd
 split
 ·exact pB hd
 split
 ·exact zE hd (by decide)
 split
 ·exact pB λ n1 h1 _=>Kr q n1 64 _ _ (by omega) (λ _ _ _=>kA)
 split
 ·exact N6 q n 64 h (λ _ _ _=>kA)
 split
 ·exact Lf q n 64 h (λ _ _ _=>kA)
 split
 ·exact Gc h
 split
 ·exact Gc h
 ·exact Gr q n 64 h
end
end

end Go.Proofs.YtbajmaoegmbfgaaGreat

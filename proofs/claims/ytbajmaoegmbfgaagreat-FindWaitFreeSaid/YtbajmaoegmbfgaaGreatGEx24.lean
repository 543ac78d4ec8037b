/- Executions of the reference: one repetition. -/
import Derived.Test.YtbajmaoegmbfgaaGreatEx23
import Derived.Test.YtbajmaoegmbfgaaGreatGTp2

set_option linter.unusedSimpArgs false
set_option linter.unusedVariables false
namespace Go.Ct
section
open Go Go.RowKit
theorem qy{L:List Nv}{r:Rs}{gs ms cl gn:List Int}{R:Tr}(h:Wk L (.done r) gs ms cl gn R):gs=[]/\ms=[]/\cl=[]/\gn=[]/\R=.done r:=by
 cases h
 exact⟨rfl,rfl,rfl,rfl,rfl⟩
def XS.re(x:XS)(free:Nat):XS:={x with a:=0,m:=0,c:=0,g:=0,fr:=free,st:=false}
theorem aAI{T R:Tr}{x:XS}{free N:Nat}(hw:Wk x.nodes T x.got x.made x.cel x.gns R)(hN:x.got.length+free=N):fY ⟨T,R,x.mm,free,N⟩ (x.re free) T:=.inl ⟨rfl,R,⟨Wk.nil _,hw,by show Rc (free-free) R x.mm R x.mm;rw[Nat.sub_self];exact Rc.refl _ _,Nat.le_refl _,Nat.zero_le _,Nat.zero_le _,Nat.zero_le _,Nat.zero_le _,hN⟩⟩
structure qB(T R:Tr)(free N:Nat)(rs:Rs)(x x':XS)(N':List aZ)(dn':Bool)(rs':Rs):Prop where
 ok:x'.Ok
 ext:x'.L=x.L++N'
 lc:x.cs.length<=x'.cs.length
 gl:x'.got.length<=N
 M2:(dn'=true/\∃j,j<=free/\x'.got.length+free=N+j/\Wk x'.nodes T x'.got x'.made x'.cel x'.gns (.done rs')/\Rc j R x.mm (.done rs') x'.mm)∨(dn'=false/\rs'=rs/\x'.got.length=N/\∃R',R'.acc=some x'.nx/\Wk x'.nodes T x'.got x'.made x'.cel x'.gns R'/\Rc free R x.mm R' x'.mm)
theorem Nx.vy{T R:Tr}{free N:Nat}{rs r:Rs}{x x':XS}{N':List aZ}(h:Nx ⟨T,R,x.mm,free,N⟩ (x.re free) x' N' (.done r) 0)(hs:x'.st=false):qB T R free N rs x x' N' true r:=by
 obtain⟨R',hR⟩:=h.go.run hs
 obtain⟨e1,e2,e3,e4,e5⟩:=qy hR.suf
 refine⟨h.ok,h.ext,h.lc,(by have:=hR.hN;show x'.got.length<=N;simp only at this;omega),.inl ⟨rfl,free-x'.fr,Nat.sub_le _ _,(by have:=hR.hN;have:=hR.hf;simp only at *;omega),?_,e5▸hR.rc⟩⟩
 have hp:=hR.pre
 rwa [List.take_of_length_le (List.drop_eq_nil_iff.1 e1),List.take_of_length_le (List.drop_eq_nil_iff.1 e2),List.take_of_length_le (List.drop_eq_nil_iff.1 e3),List.take_of_length_le (List.drop_eq_nil_iff.1 e4)] at hp
theorem Nx.v5{T R:Tr}{free N:Nat}{rs r:Rs}{x x':XS}{N':List aZ}(h:Nx ⟨T,R,x.mm,free,N⟩ (x.re free) x' N' (.done r) 0)(hs:x'.st=true):qB T R free N rs x x' N' false rs:=by
 rcases h.go with h1|h1
 ·rw[hs] at h1;exact nomatch h1.1
 ·obtain⟨R',hR⟩:=h1.2
  exact⟨h.ok,h.ext,h.lc,Nat.le_of_eq hR.hN,.inr ⟨rfl,rfl,hR.hN,R',hR.ac,hR.wk,hR.rc⟩⟩
end
end Go.Ct
namespace Go.Proofs.YtbajmaoegmbfgaaGreat
section
open Go Go.RowKit Go.Ct
section
variable{k:Cl}{bx bm:Nat}{x:XS}{rs:Rs}{D:List Nat}{A:Fr}{w:World}
theorem Pc{m n N:Nat}{R:Tr}(free:Nat)(hg:Gx.Ok ⟨jT k (jV k.key m) n,R,x.mm,free,N⟩)(hwk:Wk x.nodes (jT k (jV k.key m) n) x.got x.made x.cel x.gns R)(hN:x.got.length+free=N)(hk:Yt k)(hn:n<=1073741824)(hm:m<18446744073709551616)(em:k.mask=(m:Int))(ht:k.t.root<=9223372036854775807)(ha:k.a<=x.L.length)(hb:k.b<=x.L.length)(hnn:k.n<=x.L.length)(hA:∀f∈aM x.L,f∈A)(ok:x.Ok)(hs:SF w D (xH k bx bm x false rs) A [] (xW x) w):Calls Tryz.prog 99 #[.pointer (some ⟨bx,0,none⟩),.int .i64 (free:Int)] w λ e w'=>∃q:XS×List aZ×Bool×Rs,e=.returned (.tuple #[])/\qB (jT k (jV k.key m) n) R free N rs x q.1 q.2.1 q.2.2.1 q.2.2.2/\SF w D (xH k bx bm q.1 q.2.2.1 q.2.2.2) [] (aM q.2.1) (xW q.1) w':=by
 have hfr:=hg.hf
 have ok0:(x.re free).Ok:=ok.va rfl rfl rfl rfl rfl rfl (Nat.zero_le _) (Nat.zero_le _) (Nat.zero_le _) (Nat.zero_le _) hfr
 refine enter Tryz.func99 Tryz.ntmps99 rfl rfl (bZ hs) ?_
 simp only[bY]
 refine iO ?_;refine pY ?_;refine pY ?_;refine aA ?_;refine F5 ?_;refine bS (by exact fS λ _=>eU rf cL wn rf iA rf rf hJ) (λ _=>?_);refine F5 ?_;refine bS (by exact fS λ _=>eU rf cL wn rf iA rf rf hJ) (λ _=>?_);refine F5 ?_;refine bS (by exact fS λ _=>eU rf cL wn rf iA rf rf hJ) (λ _=>?_);refine F5 ?_;refine bS (by exact fS λ _=>eU rf cL wn rf iA rf rf hJ) (λ _=>?_);refine F5 ?_;refine bS (by exact fS λ _=>eU rf cL wn rf iA rf rf hJ) (λ _=>?_);refine F5 ?_;refine bS (by exact fS λ _=>eU rf cL wn rf iA rf rf hJ) (λ _=>?_);refine aH ?_;refine J2 ?_;refine aC (cM (hs:=xH k bx bm (x.re free) false rs) (os:=xW (x.re free)) (A0:=aM x.L) (hA:=aX.of λ f hf=>.inr (.inl (hA f hf))) (hc:=λ w hs=>aBA hg (x:=x.re free) n hk hn hm em ht ha hb hnn (λ f hf=>hf) (aAI hwk hN) ok0 hs)) (λ x25 h25=>?_);refine aI (λ x4=>?_);refine bS (by exact(fS λ _=>aS rf cL rf rf dJ rf hJ)) (λ _=>?_);refine aH ?_;refine lR ?_;refine oX ?_
 refine bE (λ c30=>?_) (λ c30=>?_)
 ·refine dX [(0,[]),(1,[]),(2,[]),(3,[]),(4,[]),(5,[2]),(6,[]),(7,[]),(8,[])] ?_;refine hZ ?_;refine bP ?_;refine J4 ?_;refine lG (i:=5) (hq:=(by exact fS λ _=>eU rf cL wn rf iA rf rf hJ)) (h:=λ _=>?_);refine J4 ?_;refine lG (i:=8) (hq:=(fS λ _=>lK (off:=41) (vs:=x25.1.cells) rf cL rf rfl dJ (Nat.le_of_ble_eq_true rfl) rf hJ)) (h:=λ _=>?_);refine eC ?_
  refine D9 Tryz.results99 (λ w hw=>?_)
  first
  | exact⟨(x25.2.1,x25.2.2,true,x25.1),rfl,h25.vy (by simpa using c30),by rw[List.append_nil] at hw;exact hw.aU (hF:=by exact aY.all)⟩
  | exact⟨(x25.2.1,x25.2.2,false,rs),rfl,h25.v5 (by simpa using c30),by rw[List.append_nil] at hw;exact hw.aU (hF:=by exact aY.all)⟩
 ·refine bB ?_
  refine D9 Tryz.results99 (λ w hw=>?_)
  first
  | exact⟨(x25.2.1,x25.2.2,true,x25.1),rfl,h25.vy (by simpa using c30),by rw[List.append_nil] at hw;exact hw.aU (hF:=by exact aY.all)⟩
  | exact⟨(x25.2.1,x25.2.2,false,rs),rfl,h25.v5 (by simpa using c30),by rw[List.append_nil] at hw;exact hw.aU (hF:=by exact aY.all)⟩
end
end

/- Executions of the reference: steps. -/
end Go.Proofs.YtbajmaoegmbfgaaGreat
namespace Go.Ct
section
open Go Go.RowKit
theorem Ig{R:Tr}{a:Ac}(h:R.acc=some a){n c:Nat}(ht:bQ R n c)(hn:1<=n):bQ R n 64:=by
 cases R<;>simp only[Tr.acc,reduceCtorEq] at h
 ·cases n with
  | zero=>omega
  | succ n=>simpa only[bQ] using ht
 ·cases n with
  | zero=>omega
  | succ n=>simpa only[bQ] using ht
structure ny(T:Tr)(x:XS)(dn:Bool)(rs:Rs)(R:Tr):Prop where
 ok:x.Ok
 wk:Wk x.nodes T x.got x.made x.cel x.gns R
 M2:(dn=true/\R=.done rs)∨(dn=false/\R.acc=some x.nx)
theorem qB.exI{T R:Tr}{free N:Nat}{rs rs':Rs}{x x':XS}{N':List aZ}{dn':Bool}(h:qB T R free N rs x x' N' dn' rs'):∃R' j,j<=free/\(dn'=false->j=free)/\ny T x' dn' rs' R'/\Rc j R x.mm R' x'.mm/\x'.L=x.L++N'/\x.cs.length<=x'.cs.length:=by
 rcases h.M2 with⟨e,j,h1,_,h2,h3⟩|⟨e,_,_,R',h1,h2,h3⟩
 ·exact⟨_,j,h1,(λ h=>by rw[e] at h;cases h),⟨h.ok,h2,.inl ⟨e,rfl⟩⟩,h3,h.ext,h.lc⟩
 ·exact⟨R',free,Nat.le_refl _,λ _=>rfl,⟨h.ok,h2,.inr ⟨e,h1⟩⟩,h3,h.ext,h.lc⟩
theorem qB.exN{T R:Tr}{free N:Nat}{rs rs':Rs}{x x':XS}{N':List aZ}{dn':Bool}(h:qB T R free N rs x x' N' dn' rs'):∃R' j,j<=free/\(dn'=false->j=free)/\ny T x' dn' rs' R'/\Rc j R x.mm R' x'.mm/\x'.L=x.L++N'/\x.cs.length<=x'.cs.length/\x'.got.length+free=N+j:=by
 rcases h.M2 with⟨e,j,h1,h0,h2,h3⟩|⟨e,_,h0,R',h1,h2,h3⟩
 ·exact⟨_,j,h1,(λ h=>by rw[e] at h;cases h),⟨h.ok,h2,.inl ⟨e,rfl⟩⟩,h3,h.ext,h.lc,h0⟩
 ·exact⟨R',free,Nat.le_refl _,λ _=>rfl,⟨h.ok,h2,.inr ⟨e,h1⟩⟩,h3,h.ext,h.lc,by rw[h0]⟩
end
end Go.Ct
namespace Go.Proofs.YtbajmaoegmbfgaaGreat
section
open Go Go.RowKit Go.Ct
section
variable{k:Cl}{bx bm:Nat}{x:XS}{dn:Bool}{rs:Rs}{D:List Nat}{A:Fr}{w:World}
theorem Cg(hs:SF w D (xH k bx bm x dn rs) A [] (xW x) w):Calls Tryz.prog 69 #[.pointer (some ⟨bx,0,none⟩)] w λ e w'=>∃q:Unit,e=.returned (.bool dn)/\True/\SF w D (xH k bx bm x dn rs) [] [] (xW x) w':=by
 refine enter Tryz.func69 Tryz.ntmps69 rfl rfl (bZ hs) ?_
 simp only[bY]
 refine cR ?_;refine lR ?_;refine J1 ?_
 refine aT Tryz.results69 (λ w hw=>?_)
 exact⟨(),rfl,trivial,hw.aU⟩
theorem Oi(hs:SF w D (xH k bx bm x dn rs) A [] (xW x) w):Calls Tryz.prog 135 #[.pointer (some ⟨bx,0,none⟩)] w λ e w'=>∃q:Unit,e=.returned (.agg ⟨rs.cells⟩)/\True/\SF w D (xH k bx bm x dn rs) [] [] (xW x) w':=by
 refine enter Tryz.func135 Tryz.ntmps135 rfl rfl (bZ hs) ?_
 simp only[bY]
 refine J0 ?_;refine aI (λ x2=>?_);refine aH ?_;refine Ew ?_;refine aB (aN (k:=8) (vs:=rs.cells) rf cL dJ rfl rfl) rfl ?_;refine J5 ?_
 refine bD Tryz.results135 (λ w hw=>?_)
 exact⟨(),rfl,trivial,hw.aU⟩
theorem n0(hs:SF w D (xH k bx bm x dn rs) A [] (xW x) w):Calls Tryz.prog 132 #[.pointer (some ⟨bx,0,none⟩)] w λ e w'=>∃q:Unit,e=.returned (.int .i64 (x.got.length:Int))/\True/\SF w D (xH k bx bm x dn rs) [] [] (xW x) w':=by
 refine enter Tryz.func132 Tryz.ntmps132 rfl rfl (bZ hs) ?_
 simp only[bY]
 refine cR ?_;refine lR ?_;refine dI ?_;refine J1 ?_
 refine aT Tryz.results132 (λ w hw=>?_)
 exact⟨(),rfl,trivial,hw.aU⟩
theorem rk(hs:SF w D (xH k bx bm x dn rs) A [] (xW x) w):Calls Tryz.prog 134 #[.pointer (some ⟨bx,0,none⟩)] w λ e w'=>∃q:Unit,e=.returned (.tuple #[.agg ⟨(if dn=true then Ac.zero else x.nx).cells⟩,.bool (!dn)])/\True/\SF w D (xH k bx bm x dn rs) [] [] (xW x) w':=by
 refine enter Tryz.func134 Tryz.ntmps134 rfl rfl (bZ hs) ?_
 simp only[bY]
 refine J0 ?_;refine aI (λ x2=>?_);refine iZ ?_;refine lR ?_;refine aH ?_
 refine bE (λ c7=>?_) (λ c7=>?_)
 ·refine J0 ?_;refine bJ ?_;refine zH ?_
  refine bD Tryz.results134 (λ w hw=>?_)
  subst c7
  exact⟨(),rfl,trivial,hw.aU⟩
 ·refine bB ?_;refine Ew ?_;refine aB (aN (k:=4) (vs:=x.nx.cells) rf cL dJ rfl rfl) rfl ?_;refine zH ?_
  refine bD Tryz.results134 (λ w hw=>?_)
  subst c7
  exact⟨(),rfl,trivial,hw.aU⟩
theorem Mv{m n N:Nat}{R:Tr}(hT:bQ (jT k (jV k.key m) n) N 64)(hN:N<=1073741824)(hgN:x.got.length+1=N)(hsz:x.L.length<=137438953472/\x.cs.length<=137438953472/\x.gen<=137438953472)(hi:ny (jT k (jV k.key m) n) x dn rs R)(hk:Yt k)(hn:n<=1073741824)(hm:m<18446744073709551616)(em:k.mask=(m:Int))(ht:k.t.root<=9223372036854775807)(ha:k.a<=x.L.length)(hb:k.b<=x.L.length)(hnn:k.n<=x.L.length)(hA:∀f∈aM x.L,f∈A)(hs:SF w D (xH k bx bm x dn rs) A [] (xW x) w):Calls Tryz.prog 68 #[.pointer (some ⟨bx,0,none⟩)] w λ e w'=>∃q:XS×List aZ×Bool×Rs,e=.returned (.tuple #[])/\((dn=true/\q=(x,[],true,rs))∨(dn=false/\qB (jT k (jV k.key m) n) R 1 N rs x q.1 q.2.1 q.2.2.1 q.2.2.2))/\SF w D (xH k bx bm q.1 q.2.2.1 q.2.2.2) [] (aM q.2.1) (xW q.1) w':=by
 have hg:dn=false->Gx.Ok ⟨jT k (jV k.key m) n,R,x.mm,1,N⟩:=λ e=>by
  rcases hi.M2 with⟨e2,_⟩|⟨_,e2⟩
  ·rw[e] at e2;cases e2
  ·obtain⟨c,h1,_,_⟩:=hi.wk.rX (Nat.le_refl 64) hT (by omega)
   refine⟨hT,⟨N-x.got.length,by show 1<=N-x.got.length;omega,Ig e2 h1 (by omega)⟩,hN,Nat.le_refl 1,?_⟩
   show(x.L.map aZ.c).length<=_/\_
   rw[List.length_map]
   exact hsz
 refine enter Tryz.func68 Tryz.ntmps68 rfl rfl (bZ hs) ?_
 simp only[bY]
 refine lR ?_;refine oX ?_
 refine bE (λ c6=>?_) (λ c6=>?_)
 ·have ed:dn=false:=by simpa using c6
  subst ed
  refine xZ ?_;refine aC (cM (hs:=xH k bx bm x false rs) (os:=xW x) (A0:=aM x.L) (hA:=aX.of λ f hf=>.inr (.inl (hA f hf))) (hc:=λ w hs=>Pc (N:=N) (n:=n) (m:=m) 1 (hg rfl) hi.wk hgN hk hn hm em ht ha hb hnn (λ f hf=>hf) hi.ok hs)) (λ x8 h8=>?_);refine aH ?_
  refine D9 Tryz.results68 (λ w hw=>?_)
  first
  | exact⟨x8,rfl,.inr ⟨rfl,h8⟩,by rw[List.append_nil] at hw;exact hw.aU (hF:=by exact aY.all)⟩
  | exact⟨(x,[],true,rs),rfl,.inl ⟨by simpa using c6,rfl⟩,by rw[show dn=true from by simpa using c6] at hw;exact hw.aU (hF:=by exact aY.nil)⟩
 ·refine bB ?_
  refine D9 Tryz.results68 (λ w hw=>?_)
  first
  | exact⟨(x,[],true,rs),rfl,.inl ⟨by simpa using c6,rfl⟩,by rw[show dn=true from by simpa using c6] at hw;exact hw.aU (hF:=by exact aY.nil)⟩
end
end

/- Executions of the reference: the start. -/
end Go.Proofs.YtbajmaoegmbfgaaGreat
namespace Go.Ct
section
open Go Go.RowKit
def XS.new(L:List aZ)(cs:List Int)(gen acc:Int)(pn:Option Addr)(cn:Nat)(pc:Option Addr)(cc:Nat):XS:=⟨L,cs,gen,acc,pn,cn,pc,cc,[],[],[],[],none,0,none,0,none,0,none,0,0,0,0,0,0,false,Ac.zero⟩
end
end Go.Ct
namespace Go.Proofs.YtbajmaoegmbfgaaGreat
section
open Go Go.RowKit Go.Ct
section
variable{k:Cl}{bm:Nat}{L:List aZ}{cs:List Int}{gen acc:Int}{pn pc:Option Addr}{cn cc:Nat}{D:List Nat}{A:Fr}{w:World}
theorem pw{m n N:Nat}(hT:bQ (jT k (jV k.key m) n) N 64)(hN:N<=1073741824)(hsz:L.length<=137438953472/\cs.length<=137438953472/\gen<=137438953472)(hk:Yt k)(hn:n<=1073741824)(hm:m<18446744073709551616)(em:k.mask=(m:Int))(ht:k.t.root<=9223372036854775807)(ha:k.a<=L.length)(hb:k.b<=L.length)(hnn:k.n<=L.length)(hA:∀f∈aM L,f∈A)(ok:(XS.new L cs gen acc pn cn pc cc).Ok)(hs:SF w D [(bm,mO L cs gen acc pn cn pc cc)] A [] [⟨pn,gN L,cn,47,14⟩,⟨pc,aG cs,cc,37,1⟩] w)(hN0:N=0:=by rfl):Calls Tryz.prog 49 #[.pointer (some ⟨bm,0,none⟩),.agg ⟨Q3 k⟩] w λ e w'=>∃q:Nat×XS×List aZ×Bool×Rs,e=.returned (.pointer (some ⟨q.1,0,none⟩))/\qB (jT k (jV k.key m) n) (jT k (jV k.key m) n) 0 N Rs.zero (XS.new L cs gen acc pn cn pc cc) q.2.1 q.2.2.1 q.2.2.2.1 q.2.2.2.2/\SF w D (xH k q.1 bm q.2.1 q.2.2.2.1 q.2.2.2.2) [] (aM q.2.2.1) (xW q.2.1) w':=by
 have hg:Gx.Ok ⟨jT k (jV k.key m) n,jT k (jV k.key m) n,(XS.new L cs gen acc pn cn pc cc).mm,0,N⟩:=⟨hT,⟨N,Nat.zero_le _,hT⟩,hN,Nat.zero_le _,by
  show(L.map aZ.c).length<=_/\_
  rw[List.length_map]
  exact hsz⟩
 refine enter Tryz.func49 Tryz.ntmps49 rfl rfl ((((hs.lW 3 1).lW 27 1).lW 37 1).lW 37 1) ?_
 simp only[bY]
 refine J0 ?_;refine bO (λ x3=>?_);refine J1 ?_;refine J2 ?_;refine aB (aN (k:=25) (vs:=Q3 k) rf cL dJ rfl rfl) rfl ?_;refine bJ ?_;refine bO (λ x9=>?_);refine J1 ?_;refine J2 ?_;refine aC (cM (hs:=xH k x9 bm (XS.new L cs gen acc pn cn pc cc) false Rs.zero) (os:=xW (XS.new L cs gen acc pn cn pc cc)) (A0:=aM L) (hA:=aX.of λ f hf=>.inr (.inl (hA f hf))) (hc:=λ w hs=>Pc (N:=N) (n:=n) (m:=m) 0 hg (Wk.nil _) hN0.symm hk hn hm em ht ha hb hnn (λ f hf=>hf) ok hs)) (λ x11 h11=>?_);refine aH ?_;refine J2 ?_;refine J1 ?_
 refine aT Tryz.results49 (λ w hw=>?_)
 exact⟨(x9,x11.1,x11.2.1,x11.2.2.1,x11.2.2.2),rfl,h11,by rw[List.append_nil] at hw;exact hw.aU (hF:=by exact aY.all)⟩
end
end

/- The trees are never stuck within as many accesses as they have fuel: single procedures. -/
section
open Go Go.RowKit Go.Ct
theorem zg:∀{t:Tr} {n c c':Nat},c<=c'->bQ t n c->bQ t n c':=by
 intro t
 induction t with
 | done r=>intros;simp[bQ]
 | stuck=>intro n c c' _ h;simp[bQ] at h
 | load r k ih =>
  intro n c c' _ h
  cases n with
  | zero=>simp[bQ]
  | succ n=>simpa only[bQ] using h
 | jN r o m k ih =>
  intro n c c' _ h
  cases n with
  | zero=>simp[bQ]
  | succ n=>simpa only[bQ] using h
 | alloc r o k ih =>
  intro n c c' hc h
  cases c with
  | zero=>simp[bQ] at h
  | succ c =>
   cases c' with
   | zero=>omega
   | succ c'=>simp only[bQ] at h ⊢;exact λ v=>ih v (by omega) (h v)
 | cell r k ih =>
  intro n c c' hc h
  cases c with
  | zero=>simp[bQ] at h
  | succ c =>
   cases c' with
   | zero=>omega
   | succ c'=>simp only[bQ] at h ⊢;exact λ v=>ih v (by omega) (h v)
 | gen k ih =>
  intro n c c' hc h
  cases c with
  | zero=>simp[bQ] at h
  | succ c =>
   cases c' with
   | zero=>omega
   | succ c'=>simp only[bQ] at h ⊢;exact λ v=>ih v (by omega) (h v)
 | node r k ih =>
  intro n c c' hc h
  cases c<;>cases c'<;>simp only[bQ] at h ⊢ <;> exact λ v=>ih v (by omega) (h v)
section
variable{n c:Nat}
theorem pS{a:Int}{k:Int->Tr}(h:∀n',n'<n->∀v,bQ (k v) n' 64):bQ (.load a k) n c:=by
 cases n with
 | zero=>simp[bQ]
 | succ n=>simp only[bQ];exact h n (Nat.lt_succ_self n)
theorem De{a o m:Int}{k:Bool->Tr}(h:∀n',n'<n->∀v,bQ (k v) n' 64):bQ (.jN a o m k) n c:=by
 cases n with
 | zero=>simp[bQ]
 | succ n=>simp only[bQ];exact h n (Nat.lt_succ_self n)
theorem Lu{a:Nv}{i:Int}{k:Int->Tr}(h:∀v,bQ (k v) n c):bQ (.alloc a i k) n (c+1):=by simp only[bQ];exact h
theorem yi{i:Int}{k:Int->Tr}(h:∀v,bQ (k v) n c):bQ (.cell i k) n (c+1):=by simp only[bQ];exact h
theorem aBh{k:Int->Tr}(h:∀v,bQ (k v) n c):bQ (.gen k) n (c+1):=by simp only[bQ];exact h
theorem cX{r:Int}{k:Nv->Tr}(h:∀v,bQ (k v) n c):bQ (.node r k) n c:=by
 cases c<;>simp only[bQ]<;>exact h
abbrev Iz{X:Type}(K:X->Tr)(n:Nat):Prop:=∀n',n'<n->∀v,bQ (K v) n' 64
theorem Iz.lt{X:Type}{K:X->Tr}{m:Nat}(h:Iz K n)(hm:m<=n):Iz K m:=λ n' h' v=>h n' (by omega) v
theorem cq{v s:Int}{K:Int->Tr}(h:∀w,bQ (K w) n c):bQ (y7 v s K) n c:=cX λ _=>h _
theorem vV{t:fL}{v s:Int}{K:Int->Tr}(h:Iz K n):bQ (oG t v s K) n c:=cq λ _=>De λ n' hn _=>h n' hn _
theorem Xt{t:fL}{K:Int->Tr}(h:Iz K n):bQ (tU t K) n c:=pS λ n1 h1 v=>cX λ nv=>by
 split
 ·exact h n1 h1 v
 ·exact cX λ _=>pS λ n2 h2 s=>by
   split
   ·exact cX λ _=>De λ n3 h3 _=>cX λ _=>pS λ n4 h4 _=>vV (h.lt (by omega))
   ·exact vV (h.lt (by omega))
theorem Pb{i m p:Int}{K:Int->Tr}(h:Iz K n):bQ (H5 i m p K) n c:=cX λ _=>cX λ _=>De λ n' hn _=>cX λ _=>h n' hn _
theorem A5{i m:Int}{K:Int->Tr}(h:Iz K n):bQ (jG i m K) n c:=cX λ _=>pS λ n1 h1 p=>by
 split
 ·exact h n1 h1 _
 ·exact Pb (h.lt (by omega))
theorem Kn{i m p:Int}{b:Bool}{K:Int->Tr}(h:Iz K n)(hc:1<=c):bQ (jC i m p b K) n c:=by
 unfold jC
 split
 ·exact cX λ _=>De λ n1 h1 _=>A5 (h.lt (by omega))
 ·obtain⟨c,rfl⟩:∃d,c=d+1:=⟨c-1,by omega⟩
  exact cX λ _=>Lu λ _=>De λ n1 h1 _=>A5 (h.lt (by omega))
theorem Dh{t:fL}{i m:Int}{K:Int->Tr}(h:Iz K n):bQ (nM t i m K) n c:=cX λ _=>pS λ n1 h1 p=>by
 split
 ·exact h n1 h1 _
 ·refine cX λ _=>?_
  split
  ·split
   ·exact Kn (h.lt (by omega)) (by decide)
   ·exact Xt λ n2 h2 _=>cX λ _=>cX λ _=>Kn (h.lt (by omega)) (by decide)
  ·exact Pb (h.lt (by omega))
theorem gS{t:fL}{i:Int}{K:Int->Tr}(h:Iz K n):bQ (jE t i K) n c:=cX λ _=>pS λ n1 h1 _=>Dh (h.lt (by omega))
theorem Dt{t:fL}{v:Int}{K:Tr}(h:∀n',n'<n->bQ K n' 64):bQ (pB t v K) n c:=cX λ _=>gS λ n1 h1 _=>cX λ _=>cX λ _=>De λ n2 h2 _=>h n2 (by omega)
theorem pF{t:fL}{K:Int->Tr}(h:Iz K n):bQ (kT t K) n c:=pS λ n1 h1 v=>cX λ nv=>by
 split
 ·exact h n1 h1 v
 ·exact cX λ _=>pS λ n2 h2 s=>by
   split
   ·exact Dt λ n3 h3=>cX λ _=>pS λ n4 h4 _=>vV (h.lt (by omega))
   ·exact vV (h.lt (by omega))
theorem kJ{t:fL}{i o m:Int}{K:Bool->Tr}(h:Iz K n):bQ (kN t i o m K) n c:=cX λ _=>De λ n1 h1 b=>by
 split
 ·exact Dh λ n2 h2 _=>h n2 (by omega) _
 ·exact h n1 h1 _
theorem zF{t:fL}{o e m:Int}{K:Bool->Tr}(h:Iz K n)(hc:1<=c):bQ (Bo t o e m K) n c:=by
 obtain⟨c,rfl⟩:∃d,c=d+1:=⟨c-1,by omega⟩
 exact Lu λ _=>De λ n1 h1 b=>by
  split
  ·exact Dt λ n2 h2=>cX λ _=>pS λ n3 h3 _=>vV λ n4 h4 _=>h n4 (by omega) _
  ·exact h n1 h1 _
end
end

/- The trees are never stuck within as many accesses as they have fuel: calls. -/
section
open Go Go.RowKit Go.Ct
section
variable{n c:Nat}
theorem fR{a:Nv}{i:Int}{k:Int->Tr}(hc:1<=c)(h:∀v,bQ (k v) n (c-1)):bQ (.alloc a i k) n c:=by
 obtain⟨c,rfl⟩:∃d,c=d+1:=⟨c-1,by omega⟩
 exact Lu h
theorem Cb{a i r:Int}{K:Int->Tr}(hc:1<=c)(h:∀v,bQ (K v) n (c-1)):bQ (He a i r K) n c:=cX λ _=>fR hc h
theorem Sr{t:fL}{i o x:Int}{K:Int->Tr}(h:Iz K n):bQ (Lk t i o x K) n c:=cX λ _=>gS λ n1 h1 _=>cX λ _=>fR (by decide) λ _=>Cb (by decide) λ _=>kJ λ n2 h2 _=>h n2 (by omega) _
theorem yW{t:fL}{p o:Int}{h0:Nat}{l:Int}{K:Bool->Tr}(h:Iz K n):bQ (uT t p o h0 l K) n c:=gS λ n1 h1 _=>cX λ _=>by
 split
 ·exact gS λ n2 h2 _=>cX λ _=>by
   split
   ·exact fR (by decide) λ _=>cX λ _=>fR (by decide) λ _=>kJ λ n3 h3 _=>h n3 (by omega) _
   ·exact h n2 (by omega) _
 ·exact h n1 h1 _
theorem Jm{t:fL}{h0:Nat}{key:ByteArray}{K:Rs->Tr}:∀(q n c:Nat) (i level:Int),n<q->Iz K n->bQ (qF t h0 key K q i level) n c
 | 0,n,c,i,level,hq,_=>absurd hq (Nat.not_lt_zero n)
 | q+1,n,c,i,level,hq,h=>gS λ n1 h1 _=>cX λ _=>by
  split
  ·split<;>exact h n1 h1 _
  ·split
   ·exact h n1 h1 _
   ·split
    ·exact h n1 h1 _
    ·exact cX λ _=>by
      split
      ·split<;>exact h n1 h1 _
      ·exact Jm q n1 64 _ _ (by omega) (h.lt (by omega))
theorem Qn:∀(l:List NI) (r:Int) (K:Int->Tr) (n c:Nat),l.length<=c->(∀v,bQ (K v) n (c-l.length))->bQ (zZ l r K) n c
 | [],r,K,n,c,_,h=>h r
 | a::l,r,K,n,c,hc,h=>by
  have hc':l.length+1<=c:=by simpa using hc
  exact fR (by omega) λ v=>Qn l v K n (c-1) (by omega) (λ u=>by have:=h u;rw[List.length_cons] at this;rwa [show c-1-l.length=c-(l.length+1) by omega])
theorem Xj{k:Cl}{b:Int}{h0 level:Nat}{gen:Int}{K:Int->Tr}(hc:32<=c)(h:∀v,bQ (K v) n (c-32)):bQ (Up k b h0 level gen K) n c:=cX λ nb=>fR (by omega) λ f=>by
 have hl:(dP b nb.hash.toNat h0 (nb.key,nb.val) k.key k.val gen f.toNat level).tail.length<=31:=by
  have h1:=Ts (x:=b) (h0:=nb.hash.toNat) (h:=h0) (p0:=(nb.key,nb.val)) (k:=k.key) (u:=k.val) (gen:=gen) (f:=f.toNat) (kZ nb.hash.toNat h0-level) (kZ nb.hash.toNat h0-(kZ nb.hash.toNat h0-level))
  have h2:=yQ nb.hash.toNat h0
  rw[List.length_tail]
  unfold dP
  omega
 exact Qn _ _ _ _ _ (by omega) λ v=>zg (by omega) (h v)
theorem K1{k:Cl}{i m:Int}{h0 level:Nat}{gen:Int}{K:Rs->Int->Tr}(h:∀n',n'<=n->∀r w,bQ (K r w) n' 64):bQ (jH k i m h0 level gen K) n 64:=cX λ nb=>by
 split
 ·split
  ·exact fR (by decide) λ _=>kJ λ n1 h1 _=>h n1 (by omega) _ _
  ·exact h n (Nat.le_refl n) _ _
 ·split
  ·split
   ·exact fR (by decide) λ _=>fR (by decide) λ _=>kJ λ n1 h1 _=>h n1 (by omega) _ _
   ·exact h n (Nat.le_refl n) _ _
  ·refine cX λ _=>?_
   split
   ·exact h n (Nat.le_refl n) _ _
   ·split
    ·split
     ·exact fR (by decide) λ _=>Cb (by decide) λ _=>kJ λ n1 h1 _=>h n1 (by omega) _ _
     ·exact h n (Nat.le_refl n) _ _
    ·split
     ·exact Xj (by decide) λ _=>fR (by decide) λ _=>Cb (by decide) λ _=>kJ λ n1 h1 _=>h n1 (by omega) _ _
     ·exact h n (Nat.le_refl n) _ _
theorem Gi{k:Cl}{i m x gen:Int}{K:Int->Tr}(h:∀n',n'<=n->∀v,bQ (K v) n' 64):bQ (C1 k i m x gen K) n 64:=cX λ _=>cX λ _=>by
 split
 ·exact h n (Nat.le_refl n) _
 ·exact Sr λ n1 h1 _=>h n1 (by omega) _
theorem Fo{k:Cl}{h0:Nat}{K:Rs->Tr}{again:Tr}{gen:Int}:∀(q n c:Nat) (i parent:Int) (level:Nat),n<q->Iz K n->(∀n',n'<n->bQ again n' 64)->bQ (rW k h0 K again gen q i parent level) n c
 | 0,n,c,i,p,level,hq,_,_=>absurd hq (Nat.not_lt_zero n)
 | q+1,n,c,i,p,level,hq,h,ha=>gS λ n1 h1 _=>cX λ _=>by
  split
  ·exact yW λ n2 h2 _=>ha n2 (by omega)
  ·refine K1 λ n2 h2 r w=>?_
   split
   ·exact h n2 (by omega) _
   ·split
    ·exact ha n2 (by omega)
    ·refine Gi λ n3 h3 v=>?_
     split
     ·exact ha n3 (by omega)
     ·exact Fo q n3 64 _ _ _ (by omega) (h.lt (by omega)) (λ n4 h4=>ha n4 (by omega))
theorem Pw{k:Cl}{h0:Nat}{K:Rs->Tr}:∀(q n c:Nat),n<q->Iz K n->bQ (zC k h0 K q) n c
 | 0,n,c,hq,_=>absurd hq (Nat.not_lt_zero n)
 | q+1,n,c,hq,h=>pF λ n1 h1 _=>cX λ _=>Fo q n1 64 _ _ _ (by omega) (h.lt (by omega)) (λ n2 h2=>Pw q n2 64 (by omega) (h.lt (by omega)))
theorem Iy{k:Cl}{i m:Int}{h0 level:Nat}{K:Rs->Int->Tr}(h:∀n',n'<=n->∀r w,bQ (K r w) n' 64):bQ (kI k i m h0 level K) n 64:=cX λ nb=>by
 split
 ·split
  ·exact h n (Nat.le_refl n) _ _
  ·exact fR (by decide) λ _=>kJ λ n1 h1 _=>h n1 (by omega) _ _
 ·split
  ·exact h n (Nat.le_refl n) _ _
  ·refine cX λ _=>?_
   split
   ·exact h n (Nat.le_refl n) _ _
   ·split
    ·exact h n (Nat.le_refl n) _ _
    ·split
     ·exact h n (Nat.le_refl n) _ _
     ·exact cX λ _=>fR (by decide) λ _=>kJ λ n1 h1 _=>h n1 (by omega) _ _
theorem Ui{t:fL}{path:List Int}{h0:Nat}{K:Tr}:∀(l n:Nat),(∀n',n'<=n->bQ K n' 64)->bQ (ug t path h0 K l) n 64
 | 0,n,h=>h n (Nat.le_refl n)
 | l+1,n,h=>gS λ n1 h1 _=>cX λ _=>by
  split
  ·exact yW λ n2 h2 _=>Ui l n2 (λ n3 h3=>h n3 (by omega))
  ·exact h n1 (by omega)
theorem Da{k:Cl}{h0:Nat}{K:Rs->Tr}{again:Tr}{gen:Int}:∀(q n c:Nat) (i:Int) (path:List Int) (level:Nat),n<q->Iz K n->(∀n',n'<n->bQ again n' 64)->bQ (vW k h0 K again gen q i path level) n c
 | 0,n,c,i,p,level,hq,_,_=>absurd hq (Nat.not_lt_zero n)
 | q+1,n,c,i,p,level,hq,h,ha=>gS λ n1 h1 _=>cX λ _=>by
  split
  ·exact yW λ n2 h2 _=>ha n2 (by omega)
  ·refine Iy λ n2 h2 r w=>?_
   split
   ·split
    ·exact Ui _ _ λ n3 h3=>h n3 (by omega) _
    ·exact h n2 (by omega) _
   ·split
    ·exact ha n2 (by omega)
    ·refine Gi λ n3 h3 v=>?_
     split
     ·exact ha n3 (by omega)
     ·exact Da q n3 64 _ _ _ (by omega) (h.lt (by omega)) (λ n4 h4=>ha n4 (by omega))
theorem I8{k:Cl}{h0:Nat}{K:Rs->Tr}:∀(q n c:Nat),n<q->Iz K n->bQ (uX k h0 K q) n c
 | 0,n,c,hq,_=>absurd hq (Nat.not_lt_zero n)
 | q+1,n,c,hq,h=>pF λ n1 h1 _=>cX λ _=>Da q n1 64 _ _ _ (by omega) (h.lt (by omega)) (λ n2 h2=>I8 q n2 64 (by omega) (h.lt (by omega)))
theorem K4{i:Int}{k:Int->Tr}(hc:1<=c)(h:∀v,bQ (k v) n (c-1)):bQ (.cell i k) n c:=by
 obtain⟨c,rfl⟩:∃d,c=d+1:=⟨c-1,by omega⟩
 exact yi h
theorem R4{k:Int->Tr}(hc:1<=c)(h:∀v,bQ (k v) n (c-1)):bQ (.gen k) n c:=by
 obtain⟨c,rfl⟩:∃d,c=d+1:=⟨c-1,by omega⟩
 exact aBh h
theorem kK{r:Rs}:bQ (.done r) n c:=by simp[bQ]
theorem Jo{m:Int}:bQ (Pu m .done) n 64:=R4 (by decide) λ _=>fR (by decide) λ _=>K4 (by decide) λ _=>kK
theorem Kc{t:fL}{fz:Bool}:∀(q n c:Nat),n<q->bQ (Km t fz .done q) n c
 | 0,n,c,hq=>absurd hq (Nat.not_lt_zero n)
 | q+1,n,c,hq=>pF λ n1 h1 _=>gS λ n2 h2 _=>R4 (by decide) λ _=>fR (by decide) λ _=>zF (λ n3 h3 b=>by
  split
  ·split
   ·exact K4 (by decide) λ _=>kK
   ·exact Jo
  ·exact Kc q n3 64 (by omega)) (by decide)
theorem Fg{t:fL}{fz:Bool}{q:Nat}(h:n<q):bQ (tK t fz .done q) n c:=by
 unfold tK
 split
 ·exact pS λ n1 h1 _=>by
   split
   ·exact K4 (by decide) λ _=>kK
   ·exact gS λ n2 h2 _=>Jo
 ·exact Kc q n c h
theorem Gp{t:fL}:∀(q n c:Nat),n<q->bQ (zP t .done q) n c
 | 0,n,c,hq=>absurd hq (Nat.not_lt_zero n)
 | q+1,n,c,hq=>pF λ n1 h1 _=>gS λ n2 h2 _=>fR (by decide) λ _=>R4 (by decide) λ _=>fR (by decide) λ _=>zF (λ n3 h3 b=>by
  split
  ·exact kK
  ·exact Gp q n3 64 (by omega)) (by decide)
theorem Cm{k:Cl}{h0 q:Nat}(h:n<q):bQ (jT k h0 q) n 64:=by
 have hd:∀{X:Type} {K:X->Rs},Iz (λ v=>Tr.done (K v)) n:=λ _ _ _=>kK
 unfold jT
 split
 ·exact kK
 split
 ·exact gS hd
 split
 ·exact kJ hd
 split
 ·exact pF hd
 split
 ·exact zF hd (by decide)
 split
 ·exact pF λ n1 h1 _=>Jm q n1 64 _ _ (by omega) (λ _ _ _=>kK)
 split
 ·exact Pw q n 64 h (λ _ _ _=>kK)
 split
 ·exact I8 q n 64 h (λ _ _ _=>kK)
 split
 ·exact Fg h
 split
 ·exact Fg h
 ·exact Gp q n 64 h
end
end

end Go.Proofs.YtbajmaoegmbfgaaGreat

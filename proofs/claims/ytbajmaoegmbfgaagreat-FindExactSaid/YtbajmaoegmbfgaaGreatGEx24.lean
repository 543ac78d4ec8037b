/- Executions of the reference: one repetition. -/
import Derived.Test.YtbajmaoegmbfgaaGreatEx23
import Derived.Test.YtbajmaoegmbfgaaGreatGTp2

set_option linter.unusedSimpArgs false
set_option linter.unusedVariables false
namespace Go.Ct
section
open Go Go.RowKit
theorem qx{L:List Nv}{r:Rs}{gs ms cl gn:List Int}{R:Tr}(h:Wk L (.done r) gs ms cl gn R):gs=[]/\ms=[]/\cl=[]/\gn=[]/\R=.done r:=by
 cases h
 exact⟨rfl,rfl,rfl,rfl,rfl⟩
def XS.re(x:XS)(free:Nat):XS:={x with a:=0,m:=0,c:=0,g:=0,fr:=free,st:=false}
theorem aAl{T R:Tr}{x:XS}{free N:Nat}(hw:Wk x.nodes T x.got x.made x.cel x.gns R)(hN:x.got.length+free=N):fW ⟨T,R,x.mm,free,N⟩ (x.re free) T:=.inl ⟨rfl,R,⟨Wk.nil _,hw,by show Rc (free-free) R x.mm R x.mm;rw[Nat.sub_self];exact Rc.refl _ _,Nat.le_refl _,Nat.zero_le _,Nat.zero_le _,Nat.zero_le _,Nat.zero_le _,hN⟩⟩
structure rP(T R:Tr)(free N:Nat)(rs:Rs)(x x':XS)(N':List aY)(dn':Bool)(rs':Rs):Prop where
 ok:x'.Ok
 ext:x'.L=x.L++N'
 lc:x.cs.length<=x'.cs.length
 gl:x'.got.length<=N
 Lz:(dn'=true/\∃j,j<=free/\x'.got.length+free=N+j/\Wk x'.nodes T x'.got x'.made x'.cel x'.gns (.done rs')/\Rc j R x.mm (.done rs') x'.mm)∨(dn'=false/\rs'=rs/\x'.got.length=N/\∃R',R'.acc=some x'.nx/\Wk x'.nodes T x'.got x'.made x'.cel x'.gns R'/\Rc free R x.mm R' x'.mm)
theorem Nx.s6{T R:Tr}{free N:Nat}{rs r:Rs}{x x':XS}{N':List aY}(h:Nx ⟨T,R,x.mm,free,N⟩ (x.re free) x' N' (.done r) 0)(hs:x'.st=false):rP T R free N rs x x' N' true r:=by
 obtain⟨R',hR⟩:=h.go.run hs
 obtain⟨e1,e2,e3,e4,e5⟩:=qx hR.suf
 refine⟨h.ok,h.ext,h.lc,(by have:=hR.hN;show x'.got.length<=N;simp only at this;omega),.inl ⟨rfl,free-x'.fr,Nat.sub_le _ _,(by have:=hR.hN;have:=hR.hf;simp only at *;omega),?_,e5▸hR.rc⟩⟩
 have hp:=hR.pre
 rwa [List.take_of_length_le (List.drop_eq_nil_iff.1 e1),List.take_of_length_le (List.drop_eq_nil_iff.1 e2),List.take_of_length_le (List.drop_eq_nil_iff.1 e3),List.take_of_length_le (List.drop_eq_nil_iff.1 e4)] at hp
theorem Nx.uc{T R:Tr}{free N:Nat}{rs r:Rs}{x x':XS}{N':List aY}(h:Nx ⟨T,R,x.mm,free,N⟩ (x.re free) x' N' (.done r) 0)(hs:x'.st=true):rP T R free N rs x x' N' false rs:=by
 rcases h.go with h1|h1
 ·rw[hs] at h1;exact nomatch h1.1
 ·obtain⟨R',hR⟩:=h1.2
  exact⟨h.ok,h.ext,h.lc,Nat.le_of_eq hR.hN,.inr ⟨rfl,rfl,hR.hN,R',hR.ac,hR.wk,hR.rc⟩⟩
end
end Go.Ct
namespace Go.Proofs.YtbajmaoegmbfgaaGreat
section
open Go Go.RowKit Go.Ct
section
variable{k:Cl}{bx bm:Nat}{x:XS}{rs:Rs}{D:List Nat}{A:Fr}{w:World}
theorem Ng{m n N:Nat}{R:Tr}(free:Nat)(hg:Gx.Ok ⟨jY k (jN k.key m) n,R,x.mm,free,N⟩)(hwk:Wk x.nodes (jY k (jN k.key m) n) x.got x.made x.cel x.gns R)(hN:x.got.length+free=N)(hk:Ym k)(hn:n<=1073741824)(hm:m<18446744073709551616)(em:k.mask=(m:Int))(ht:k.t.root<=9223372036854775807)(ha:k.a<=x.L.length)(hb:k.b<=x.L.length)(hnn:k.n<=x.L.length)(hA:∀f∈aM x.L,f∈A)(ok:x.Ok)(hs:SF w D (xH k bx bm x false rs) A [] (xW x) w):Calls Tryz.prog 99 #[.pointer (some ⟨bx,0,none⟩),.int .i64 (free:Int)] w λ e w'=>∃q:XS×List aY×Bool×Rs,e=.returned (.tuple #[])/\rP (jY k (jN k.key m) n) R free N rs x q.1 q.2.1 q.2.2.1 q.2.2.2/\SF w D (xH k bx bm q.1 q.2.2.1 q.2.2.2) [] (aM q.2.1) (xW q.1) w':=by
 have hfr:=hg.hf
 have ok0:(x.re free).Ok:=ok.uw rfl rfl rfl rfl rfl rfl (Nat.zero_le _) (Nat.zero_le _) (Nat.zero_le _) (Nat.zero_le _) hfr
 refine enter Tryz.func99 Tryz.ntmps99 rfl rfl (bZ hs) ?_
 simp only[bY]
 refine iM ?_;refine pV ?_;refine pV ?_;refine aA ?_;refine Hi ?_;refine bQ (by exact fR λ _=>eS rf cK wn rf iA rf rf hU) (λ _=>?_);refine Hi ?_;refine bQ (by exact fR λ _=>eS rf cK wn rf iA rf rf hU) (λ _=>?_);refine Hi ?_;refine bQ (by exact fR λ _=>eS rf cK wn rf iA rf rf hU) (λ _=>?_);refine Hi ?_;refine bQ (by exact fR λ _=>eS rf cK wn rf iA rf rf hU) (λ _=>?_);refine Hi ?_;refine bQ (by exact fR λ _=>eS rf cK wn rf iA rf rf hU) (λ _=>?_);refine Hi ?_;refine bQ (by exact fR λ _=>eS rf cK wn rf iA rf rf hU) (λ _=>?_);refine aG ?_;refine J2 ?_;refine aC (cM (hs:=xH k bx bm (x.re free) false rs) (os:=xW (x.re free)) (A0:=aM x.L) (hA:=bA.of λ f hf=>.inr (.inl (hA f hf))) (hc:=λ w hs=>aAz hg (x:=x.re free) n hk hn hm em ht ha hb hnn (λ f hf=>hf) (aAl hwk hN) ok0 hs)) (λ x25 h25=>?_);refine aI (λ x4=>?_);refine bQ (by exact(fR λ _=>aS rf cK rf rf dH rf hU)) (λ _=>?_);refine aG ?_;refine lR ?_;refine pA ?_
 refine bE (λ c30=>?_) (λ c30=>?_)
 ·refine dZ [(0,[]),(1,[]),(2,[]),(3,[]),(4,[]),(5,[2]),(6,[]),(7,[]),(8,[])] ?_;refine iD ?_;refine bP ?_;refine J4 ?_;refine kY (i:=5) (hq:=(by exact fR λ _=>eS rf cK wn rf iA rf rf hU)) (h:=λ _=>?_);refine J4 ?_;refine kY (i:=8) (hq:=(fR λ _=>lO (off:=41) (vs:=x25.1.cells) rf cK rf rfl dH (Nat.le_of_ble_eq_true rfl) rf hU)) (h:=λ _=>?_);refine eA ?_
  refine Dt Tryz.results99 (λ w hw=>?_)
  first
  | exact⟨(x25.2.1,x25.2.2,true,x25.1),rfl,h25.s6 (by simpa using c30),by rw[List.append_nil] at hw;exact hw.aU (hF:=by exact aX.all)⟩
  | exact⟨(x25.2.1,x25.2.2,false,rs),rfl,h25.uc (by simpa using c30),by rw[List.append_nil] at hw;exact hw.aU (hF:=by exact aX.all)⟩
 ·refine aZ ?_
  refine Dt Tryz.results99 (λ w hw=>?_)
  first
  | exact⟨(x25.2.1,x25.2.2,true,x25.1),rfl,h25.s6 (by simpa using c30),by rw[List.append_nil] at hw;exact hw.aU (hF:=by exact aX.all)⟩
  | exact⟨(x25.2.1,x25.2.2,false,rs),rfl,h25.uc (by simpa using c30),by rw[List.append_nil] at hw;exact hw.aU (hF:=by exact aX.all)⟩
end
end

/- Executions of the reference: steps. -/
end Go.Proofs.YtbajmaoegmbfgaaGreat
namespace Go.Ct
section
open Go Go.RowKit
theorem E4{R:Tr}{a:Ac}(h:R.acc=some a){n c:Nat}(ht:bS R n c)(hn:1<=n):bS R n 64:=by
 cases R<;>simp only[Tr.acc,reduceCtorEq] at h
 ·cases n with
  | zero=>omega
  | succ n=>simpa only[bS] using ht
 ·cases n with
  | zero=>omega
  | succ n=>simpa only[bS] using ht
structure lz(T:Tr)(x:XS)(dn:Bool)(rs:Rs)(R:Tr):Prop where
 ok:x.Ok
 wk:Wk x.nodes T x.got x.made x.cel x.gns R
 Lz:(dn=true/\R=.done rs)∨(dn=false/\R.acc=some x.nx)
theorem rP.exI{T R:Tr}{free N:Nat}{rs rs':Rs}{x x':XS}{N':List aY}{dn':Bool}(h:rP T R free N rs x x' N' dn' rs'):∃R' j,j<=free/\(dn'=false->j=free)/\lz T x' dn' rs' R'/\Rc j R x.mm R' x'.mm/\x'.L=x.L++N'/\x.cs.length<=x'.cs.length:=by
 rcases h.Lz with⟨e,j,h1,_,h2,h3⟩|⟨e,_,_,R',h1,h2,h3⟩
 ·exact⟨_,j,h1,(λ h=>by rw[e] at h;cases h),⟨h.ok,h2,.inl ⟨e,rfl⟩⟩,h3,h.ext,h.lc⟩
 ·exact⟨R',free,Nat.le_refl _,λ _=>rfl,⟨h.ok,h2,.inr ⟨e,h1⟩⟩,h3,h.ext,h.lc⟩
theorem rP.exN{T R:Tr}{free N:Nat}{rs rs':Rs}{x x':XS}{N':List aY}{dn':Bool}(h:rP T R free N rs x x' N' dn' rs'):∃R' j,j<=free/\(dn'=false->j=free)/\lz T x' dn' rs' R'/\Rc j R x.mm R' x'.mm/\x'.L=x.L++N'/\x.cs.length<=x'.cs.length/\x'.got.length+free=N+j:=by
 rcases h.Lz with⟨e,j,h1,h0,h2,h3⟩|⟨e,_,h0,R',h1,h2,h3⟩
 ·exact⟨_,j,h1,(λ h=>by rw[e] at h;cases h),⟨h.ok,h2,.inl ⟨e,rfl⟩⟩,h3,h.ext,h.lc,h0⟩
 ·exact⟨R',free,Nat.le_refl _,λ _=>rfl,⟨h.ok,h2,.inr ⟨e,h1⟩⟩,h3,h.ext,h.lc,by rw[h0]⟩
end
end Go.Ct
namespace Go.Proofs.YtbajmaoegmbfgaaGreat
section
open Go Go.RowKit Go.Ct
section
variable{k:Cl}{bx bm:Nat}{x:XS}{dn:Bool}{rs:Rs}{D:List Nat}{A:Fr}{w:World}
theorem Bp(hs:SF w D (xH k bx bm x dn rs) A [] (xW x) w):Calls Tryz.prog 69 #[.pointer (some ⟨bx,0,none⟩)] w λ e w'=>∃q:Unit,e=.returned (.bool dn)/\True/\SF w D (xH k bx bm x dn rs) [] [] (xW x) w':=by
 refine enter Tryz.func69 Tryz.ntmps69 rfl rfl (bZ hs) ?_
 simp only[bY]
 refine cQ ?_;refine lR ?_;refine J1 ?_
 refine aT Tryz.results69 (λ w hw=>?_)
 exact⟨(),rfl,trivial,hw.aU⟩
theorem O4(hs:SF w D (xH k bx bm x dn rs) A [] (xW x) w):Calls Tryz.prog 135 #[.pointer (some ⟨bx,0,none⟩)] w λ e w'=>∃q:Unit,e=.returned (.agg ⟨rs.cells⟩)/\True/\SF w D (xH k bx bm x dn rs) [] [] (xW x) w':=by
 refine enter Tryz.func135 Tryz.ntmps135 rfl rfl (bZ hs) ?_
 simp only[bY]
 refine J0 ?_;refine aI (λ x2=>?_);refine aG ?_;refine Eb ?_;refine aB (aP (k:=8) (vs:=rs.cells) rf cK dH rfl rfl) rfl ?_;refine J5 ?_
 refine bC Tryz.results135 (λ w hw=>?_)
 exact⟨(),rfl,trivial,hw.aU⟩
theorem oy(hs:SF w D (xH k bx bm x dn rs) A [] (xW x) w):Calls Tryz.prog 132 #[.pointer (some ⟨bx,0,none⟩)] w λ e w'=>∃q:Unit,e=.returned (.int .i64 (x.got.length:Int))/\True/\SF w D (xH k bx bm x dn rs) [] [] (xW x) w':=by
 refine enter Tryz.func132 Tryz.ntmps132 rfl rfl (bZ hs) ?_
 simp only[bY]
 refine cQ ?_;refine lR ?_;refine dG ?_;refine J1 ?_
 refine aT Tryz.results132 (λ w hw=>?_)
 exact⟨(),rfl,trivial,hw.aU⟩
theorem ri(hs:SF w D (xH k bx bm x dn rs) A [] (xW x) w):Calls Tryz.prog 134 #[.pointer (some ⟨bx,0,none⟩)] w λ e w'=>∃q:Unit,e=.returned (.tuple #[.agg ⟨(if dn=true then Ac.zero else x.nx).cells⟩,.bool (!dn)])/\True/\SF w D (xH k bx bm x dn rs) [] [] (xW x) w':=by
 refine enter Tryz.func134 Tryz.ntmps134 rfl rfl (bZ hs) ?_
 simp only[bY]
 refine J0 ?_;refine aI (λ x2=>?_);refine iT ?_;refine lR ?_;refine aG ?_
 refine bE (λ c7=>?_) (λ c7=>?_)
 ·refine J0 ?_;refine bJ ?_;refine yT ?_
  refine bC Tryz.results134 (λ w hw=>?_)
  subst c7
  exact⟨(),rfl,trivial,hw.aU⟩
 ·refine aZ ?_;refine Eb ?_;refine aB (aP (k:=4) (vs:=x.nx.cells) rf cK dH rfl rfl) rfl ?_;refine yT ?_
  refine bC Tryz.results134 (λ w hw=>?_)
  subst c7
  exact⟨(),rfl,trivial,hw.aU⟩
theorem Jx{m n N:Nat}{R:Tr}(hT:bS (jY k (jN k.key m) n) N 64)(hN:N<=1073741824)(hgN:x.got.length+1=N)(hsz:x.L.length<=137438953472/\x.cs.length<=137438953472/\x.gen<=137438953472)(hi:lz (jY k (jN k.key m) n) x dn rs R)(hk:Ym k)(hn:n<=1073741824)(hm:m<18446744073709551616)(em:k.mask=(m:Int))(ht:k.t.root<=9223372036854775807)(ha:k.a<=x.L.length)(hb:k.b<=x.L.length)(hnn:k.n<=x.L.length)(hA:∀f∈aM x.L,f∈A)(hs:SF w D (xH k bx bm x dn rs) A [] (xW x) w):Calls Tryz.prog 68 #[.pointer (some ⟨bx,0,none⟩)] w λ e w'=>∃q:XS×List aY×Bool×Rs,e=.returned (.tuple #[])/\((dn=true/\q=(x,[],true,rs))∨(dn=false/\rP (jY k (jN k.key m) n) R 1 N rs x q.1 q.2.1 q.2.2.1 q.2.2.2))/\SF w D (xH k bx bm q.1 q.2.2.1 q.2.2.2) [] (aM q.2.1) (xW q.1) w':=by
 have hg:dn=false->Gx.Ok ⟨jY k (jN k.key m) n,R,x.mm,1,N⟩:=λ e=>by
  rcases hi.Lz with⟨e2,_⟩|⟨_,e2⟩
  ·rw[e] at e2;cases e2
  ·obtain⟨c,h1,_,_⟩:=hi.wk.rG (Nat.le_refl 64) hT (by omega)
   refine⟨hT,⟨N-x.got.length,by show 1<=N-x.got.length;omega,E4 e2 h1 (by omega)⟩,hN,Nat.le_refl 1,?_⟩
   show(x.L.map aY.c).length<=_/\_
   rw[List.length_map]
   exact hsz
 refine enter Tryz.func68 Tryz.ntmps68 rfl rfl (bZ hs) ?_
 simp only[bY]
 refine lR ?_;refine pA ?_
 refine bE (λ c6=>?_) (λ c6=>?_)
 ·have ed:dn=false:=by simpa using c6
  subst ed
  refine wQ ?_;refine aC (cM (hs:=xH k bx bm x false rs) (os:=xW x) (A0:=aM x.L) (hA:=bA.of λ f hf=>.inr (.inl (hA f hf))) (hc:=λ w hs=>Ng (N:=N) (n:=n) (m:=m) 1 (hg rfl) hi.wk hgN hk hn hm em ht ha hb hnn (λ f hf=>hf) hi.ok hs)) (λ x8 h8=>?_);refine aG ?_
  refine Dt Tryz.results68 (λ w hw=>?_)
  first
  | exact⟨x8,rfl,.inr ⟨rfl,h8⟩,by rw[List.append_nil] at hw;exact hw.aU (hF:=by exact aX.all)⟩
  | exact⟨(x,[],true,rs),rfl,.inl ⟨by simpa using c6,rfl⟩,by rw[show dn=true from by simpa using c6] at hw;exact hw.aU (hF:=by exact aX.nil)⟩
 ·refine aZ ?_
  refine Dt Tryz.results68 (λ w hw=>?_)
  first
  | exact⟨(x,[],true,rs),rfl,.inl ⟨by simpa using c6,rfl⟩,by rw[show dn=true from by simpa using c6] at hw;exact hw.aU (hF:=by exact aX.nil)⟩
end
end

/- Executions of the reference: the start. -/
end Go.Proofs.YtbajmaoegmbfgaaGreat
namespace Go.Ct
section
open Go Go.RowKit
def XS.new(L:List aY)(cs:List Int)(gen acc:Int)(pn:Option Addr)(cn:Nat)(pc:Option Addr)(cc:Nat):XS:=⟨L,cs,gen,acc,pn,cn,pc,cc,[],[],[],[],none,0,none,0,none,0,none,0,0,0,0,0,0,false,Ac.zero⟩
end
end Go.Ct
namespace Go.Proofs.YtbajmaoegmbfgaaGreat
section
open Go Go.RowKit Go.Ct
section
variable{k:Cl}{bm:Nat}{L:List aY}{cs:List Int}{gen acc:Int}{pn pc:Option Addr}{cn cc:Nat}{D:List Nat}{A:Fr}{w:World}
theorem si{m n N:Nat}(hT:bS (jY k (jN k.key m) n) N 64)(hN:N<=1073741824)(hsz:L.length<=137438953472/\cs.length<=137438953472/\gen<=137438953472)(hk:Ym k)(hn:n<=1073741824)(hm:m<18446744073709551616)(em:k.mask=(m:Int))(ht:k.t.root<=9223372036854775807)(ha:k.a<=L.length)(hb:k.b<=L.length)(hnn:k.n<=L.length)(hA:∀f∈aM L,f∈A)(ok:(XS.new L cs gen acc pn cn pc cc).Ok)(hs:SF w D [(bm,mO L cs gen acc pn cn pc cc)] A [] [⟨pn,gY L,cn,47,14⟩,⟨pc,aH cs,cc,37,1⟩] w)(hN0:N=0:=by rfl):Calls Tryz.prog 49 #[.pointer (some ⟨bm,0,none⟩),.agg ⟨M9 k⟩] w λ e w'=>∃q:Nat×XS×List aY×Bool×Rs,e=.returned (.pointer (some ⟨q.1,0,none⟩))/\rP (jY k (jN k.key m) n) (jY k (jN k.key m) n) 0 N Rs.zero (XS.new L cs gen acc pn cn pc cc) q.2.1 q.2.2.1 q.2.2.2.1 q.2.2.2.2/\SF w D (xH k q.1 bm q.2.1 q.2.2.2.1 q.2.2.2.2) [] (aM q.2.2.1) (xW q.2.1) w':=by
 have hg:Gx.Ok ⟨jY k (jN k.key m) n,jY k (jN k.key m) n,(XS.new L cs gen acc pn cn pc cc).mm,0,N⟩:=⟨hT,⟨N,Nat.zero_le _,hT⟩,hN,Nat.zero_le _,by
  show(L.map aY.c).length<=_/\_
  rw[List.length_map]
  exact hsz⟩
 refine enter Tryz.func49 Tryz.ntmps49 rfl rfl ((((hs.lZ 3 1).lZ 27 1).lZ 37 1).lZ 37 1) ?_
 simp only[bY]
 refine J0 ?_;refine bN (λ x3=>?_);refine J1 ?_;refine J2 ?_;refine aB (aP (k:=25) (vs:=M9 k) rf cK dH rfl rfl) rfl ?_;refine bJ ?_;refine bN (λ x9=>?_);refine J1 ?_;refine J2 ?_;refine aC (cM (hs:=xH k x9 bm (XS.new L cs gen acc pn cn pc cc) false Rs.zero) (os:=xW (XS.new L cs gen acc pn cn pc cc)) (A0:=aM L) (hA:=bA.of λ f hf=>.inr (.inl (hA f hf))) (hc:=λ w hs=>Ng (N:=N) (n:=n) (m:=m) 0 hg (Wk.nil _) hN0.symm hk hn hm em ht ha hb hnn (λ f hf=>hf) ok hs)) (λ x11 h11=>?_);refine aG ?_;refine J2 ?_;refine J1 ?_
 refine aT Tryz.results49 (λ w hw=>?_)
 exact⟨(x9,x11.1,x11.2.1,x11.2.2.1,x11.2.2.2),rfl,h11,by rw[List.append_nil] at hw;exact hw.aU (hF:=by exact aX.all)⟩
end
end

/- The trees are never stuck within as many accesses as they have fuel: single procedures. -/
section
open Go Go.RowKit Go.Ct
theorem w7:∀{t:Tr} {n c c':Nat},c<=c'->bS t n c->bS t n c':=by
 intro t
 induction t with
 | done r=>intros;simp[bS]
 | stuck=>intro n c c' _ h;simp[bS] at h
 | load r k ih =>
  intro n c c' _ h
  cases n with
  | zero=>simp[bS]
  | succ n=>simpa only[bS] using h
 | kO r o m k ih =>
  intro n c c' _ h
  cases n with
  | zero=>simp[bS]
  | succ n=>simpa only[bS] using h
 | alloc r o k ih =>
  intro n c c' hc h
  cases c with
  | zero=>simp[bS] at h
  | succ c =>
   cases c' with
   | zero=>omega
   | succ c'=>simp only[bS] at h ⊢;exact λ v=>ih v (by omega) (h v)
 | cell r k ih =>
  intro n c c' hc h
  cases c with
  | zero=>simp[bS] at h
  | succ c =>
   cases c' with
   | zero=>omega
   | succ c'=>simp only[bS] at h ⊢;exact λ v=>ih v (by omega) (h v)
 | gen k ih =>
  intro n c c' hc h
  cases c with
  | zero=>simp[bS] at h
  | succ c =>
   cases c' with
   | zero=>omega
   | succ c'=>simp only[bS] at h ⊢;exact λ v=>ih v (by omega) (h v)
 | node r k ih =>
  intro n c c' hc h
  cases c<;>cases c'<;>simp only[bS] at h ⊢ <;> exact λ v=>ih v (by omega) (h v)
section
variable{n c:Nat}
theorem pM{a:Int}{k:Int->Tr}(h:∀n',n'<n->∀v,bS (k v) n' 64):bS (.load a k) n c:=by
 cases n with
 | zero=>simp[bS]
 | succ n=>simp only[bS];exact h n (Nat.lt_succ_self n)
theorem Cv{a o m:Int}{k:Bool->Tr}(h:∀n',n'<n->∀v,bS (k v) n' 64):bS (.kO a o m k) n c:=by
 cases n with
 | zero=>simp[bS]
 | succ n=>simp only[bS];exact h n (Nat.lt_succ_self n)
theorem Jw{a:Nv}{i:Int}{k:Int->Tr}(h:∀v,bS (k v) n c):bS (.alloc a i k) n (c+1):=by simp only[bS];exact h
theorem wh{i:Int}{k:Int->Tr}(h:∀v,bS (k v) n c):bS (.cell i k) n (c+1):=by simp only[bS];exact h
theorem aAS{k:Int->Tr}(h:∀v,bS (k v) n c):bS (.gen k) n (c+1):=by simp only[bS];exact h
theorem cU{r:Int}{k:Nv->Tr}(h:∀v,bS (k v) n c):bS (.node r k) n c:=by
 cases c<;>simp only[bS]<;>exact h
abbrev H0{X:Type}(K:X->Tr)(n:Nat):Prop:=∀n',n'<n->∀v,bS (K v) n' 64
theorem H0.lt{X:Type}{K:X->Tr}{m:Nat}(h:H0 K n)(hm:m<=n):H0 K m:=λ n' h' v=>h n' (by omega) v
theorem Zq{v s:Int}{K:Int->Tr}(h:∀w,bS (K w) n c):bS (xg v s K) n c:=cU λ _=>h _
theorem vD{t:fY}{v s:Int}{K:Int->Tr}(h:H0 K n):bS (oM t v s K) n c:=Zq λ _=>Cv λ n' hn _=>h n' hn _
theorem Wh{t:fY}{K:Int->Tr}(h:H0 K n):bS (xS t K) n c:=pM λ n1 h1 v=>cU λ nv=>by
 split
 ·exact h n1 h1 v
 ·exact cU λ _=>pM λ n2 h2 s=>by
   split
   ·exact cU λ _=>Cv λ n3 h3 _=>cU λ _=>pM λ n4 h4 _=>vD (h.lt (by omega))
   ·exact vD (h.lt (by omega))
theorem Pp{i m p:Int}{K:Int->Tr}(h:H0 K n):bS (Hy i m p K) n c:=cU λ _=>cU λ _=>Cv λ n' hn _=>cU λ _=>h n' hn _
theorem An{i m:Int}{K:Int->Tr}(h:H0 K n):bS (jP i m K) n c:=cU λ _=>pM λ n1 h1 p=>by
 split
 ·exact h n1 h1 _
 ·exact Pp (h.lt (by omega))
theorem Jm{i m p:Int}{b:Bool}{K:Int->Tr}(h:H0 K n)(hc:1<=c):bS (kG i m p b K) n c:=by
 unfold kG
 split
 ·exact cU λ _=>Cv λ n1 h1 _=>An (h.lt (by omega))
 ·obtain⟨c,rfl⟩:∃d,c=d+1:=⟨c-1,by omega⟩
  exact cU λ _=>Jw λ _=>Cv λ n1 h1 _=>An (h.lt (by omega))
theorem Cm{t:fY}{i m:Int}{K:Int->Tr}(h:H0 K n):bS (oS t i m K) n c:=cU λ _=>pM λ n1 h1 p=>by
 split
 ·exact h n1 h1 _
 ·refine cU λ _=>?_
  split
  ·split
   ·exact Jm (h.lt (by omega)) (by decide)
   ·exact Wh λ n2 h2 _=>cU λ _=>cU λ _=>Jm (h.lt (by omega)) (by decide)
  ·exact Pp (h.lt (by omega))
theorem gQ{t:fY}{i:Int}{K:Int->Tr}(h:H0 K n):bS (jH t i K) n c:=cU λ _=>pM λ n1 h1 _=>Cm (h.lt (by omega))
theorem C8{t:fY}{v:Int}{K:Tr}(h:∀n',n'<n->bS K n' 64):bS (qE t v K) n c:=cU λ _=>gQ λ n1 h1 _=>cU λ _=>cU λ _=>Cv λ n2 h2 _=>h n2 (by omega)
theorem oZ{t:fY}{K:Int->Tr}(h:H0 K n):bS (lI t K) n c:=pM λ n1 h1 v=>cU λ nv=>by
 split
 ·exact h n1 h1 v
 ·exact cU λ _=>pM λ n2 h2 s=>by
   split
   ·exact C8 λ n3 h3=>cU λ _=>pM λ n4 h4 _=>vD (h.lt (by omega))
   ·exact vD (h.lt (by omega))
theorem kC{t:fY}{i o m:Int}{K:Bool->Tr}(h:H0 K n):bS (kH t i o m K) n c:=cU λ _=>Cv λ n1 h1 b=>by
 split
 ·exact Cm λ n2 h2 _=>h n2 (by omega) _
 ·exact h n1 h1 _
theorem zD{t:fY}{o e m:Int}{K:Bool->Tr}(h:H0 K n)(hc:1<=c):bS (Bg t o e m K) n c:=by
 obtain⟨c,rfl⟩:∃d,c=d+1:=⟨c-1,by omega⟩
 exact Jw λ _=>Cv λ n1 h1 b=>by
  split
  ·exact C8 λ n2 h2=>cU λ _=>pM λ n3 h3 _=>vD λ n4 h4 _=>h n4 (by omega) _
  ·exact h n1 h1 _
end
end

/- The trees are never stuck within as many accesses as they have fuel: calls. -/
section
open Go Go.RowKit Go.Ct
section
variable{n c:Nat}
theorem fJ{a:Nv}{i:Int}{k:Int->Tr}(hc:1<=c)(h:∀v,bS (k v) n (c-1)):bS (.alloc a i k) n c:=by
 obtain⟨c,rfl⟩:∃d,c=d+1:=⟨c-1,by omega⟩
 exact Jw h
theorem Bl{a i r:Int}{K:Int->Tr}(hc:1<=c)(h:∀v,bS (K v) n (c-1)):bS (E5 a i r K) n c:=cU λ _=>fJ hc h
theorem Qi{t:fY}{i o x:Int}{K:Int->Tr}(h:H0 K n):bS (Lt t i o x K) n c:=cU λ _=>gQ λ n1 h1 _=>cU λ _=>fJ (by decide) λ _=>Bl (by decide) λ _=>kC λ n2 h2 _=>h n2 (by omega) _
theorem yN{t:fY}{p o:Int}{h0:Nat}{l:Int}{K:Bool->Tr}(h:H0 K n):bS (vL t p o h0 l K) n c:=gQ λ n1 h1 _=>cU λ _=>by
 split
 ·exact gQ λ n2 h2 _=>cU λ _=>by
   split
   ·exact fJ (by decide) λ _=>cU λ _=>fJ (by decide) λ _=>kC λ n3 h3 _=>h n3 (by omega) _
   ·exact h n2 (by omega) _
 ·exact h n1 h1 _
theorem I8{t:fY}{h0:Nat}{key:ByteArray}{K:Rs->Tr}:∀(q n c:Nat) (i level:Int),n<q->H0 K n->bS (pY t h0 key K q i level) n c
 | 0,n,c,i,level,hq,_=>absurd hq (Nat.not_lt_zero n)
 | q+1,n,c,i,level,hq,h=>gQ λ n1 h1 _=>cU λ _=>by
  split
  ·split<;>exact h n1 h1 _
  ·split
   ·exact h n1 h1 _
   ·split
    ·exact h n1 h1 _
    ·exact cU λ _=>by
      split
      ·split<;>exact h n1 h1 _
      ·exact I8 q n1 64 _ _ (by omega) (h.lt (by omega))
theorem Nw:∀(l:List NI) (r:Int) (K:Int->Tr) (n c:Nat),l.length<=c->(∀v,bS (K v) n (c-l.length))->bS (Ax l r K) n c
 | [],r,K,n,c,_,h=>h r
 | a::l,r,K,n,c,hc,h=>by
  have hc':l.length+1<=c:=by simpa using hc
  exact fJ (by omega) λ v=>Nw l v K n (c-1) (by omega) (λ u=>by have:=h u;rw[List.length_cons] at this;rwa [show c-1-l.length=c-(l.length+1) by omega])
theorem W8{k:Cl}{b:Int}{h0 level:Nat}{gen:Int}{K:Int->Tr}(hc:32<=c)(h:∀v,bS (K v) n (c-32)):bS (V6 k b h0 level gen K) n c:=cU λ nb=>fJ (by omega) λ f=>by
 have hl:(dP b nb.hash.toNat h0 (nb.key,nb.val) k.key k.val gen f.toNat level).tail.length<=31:=by
  have h1:=R5 (x:=b) (h0:=nb.hash.toNat) (h:=h0) (p0:=(nb.key,nb.val)) (k:=k.key) (u:=k.val) (gen:=gen) (f:=f.toNat) (kW nb.hash.toNat h0-level) (kW nb.hash.toNat h0-(kW nb.hash.toNat h0-level))
  have h2:=yS nb.hash.toNat h0
  rw[List.length_tail]
  unfold dP
  omega
 exact Nw _ _ _ _ _ (by omega) λ v=>w7 (by omega) (h v)
theorem Lf{k:Cl}{i m:Int}{h0 level:Nat}{gen:Int}{K:Rs->Int->Tr}(h:∀n',n'<=n->∀r w,bS (K r w) n' 64):bS (jA k i m h0 level gen K) n 64:=cU λ nb=>by
 split
 ·split
  ·exact fJ (by decide) λ _=>kC λ n1 h1 _=>h n1 (by omega) _ _
  ·exact h n (Nat.le_refl n) _ _
 ·split
  ·split
   ·exact fJ (by decide) λ _=>fJ (by decide) λ _=>kC λ n1 h1 _=>h n1 (by omega) _ _
   ·exact h n (Nat.le_refl n) _ _
  ·refine cU λ _=>?_
   split
   ·exact h n (Nat.le_refl n) _ _
   ·split
    ·split
     ·exact fJ (by decide) λ _=>Bl (by decide) λ _=>kC λ n1 h1 _=>h n1 (by omega) _ _
     ·exact h n (Nat.le_refl n) _ _
    ·split
     ·exact W8 (by decide) λ _=>fJ (by decide) λ _=>Bl (by decide) λ _=>kC λ n1 h1 _=>h n1 (by omega) _ _
     ·exact h n (Nat.le_refl n) _ _
theorem F7{k:Cl}{i m x gen:Int}{K:Int->Tr}(h:∀n',n'<=n->∀v,bS (K v) n' 64):bS (B6 k i m x gen K) n 64:=cU λ _=>cU λ _=>by
 split
 ·exact h n (Nat.le_refl n) _
 ·exact Qi λ n1 h1 _=>h n1 (by omega) _
theorem Fu{k:Cl}{h0:Nat}{K:Rs->Tr}{again:Tr}{gen:Int}:∀(q n c:Nat) (i parent:Int) (level:Nat),n<q->H0 K n->(∀n',n'<n->bS again n' 64)->bS (rK k h0 K again gen q i parent level) n c
 | 0,n,c,i,p,level,hq,_,_=>absurd hq (Nat.not_lt_zero n)
 | q+1,n,c,i,p,level,hq,h,ha=>gQ λ n1 h1 _=>cU λ _=>by
  split
  ·exact yN λ n2 h2 _=>ha n2 (by omega)
  ·refine Lf λ n2 h2 r w=>?_
   split
   ·exact h n2 (by omega) _
   ·split
    ·exact ha n2 (by omega)
    ·refine F7 λ n3 h3 v=>?_
     split
     ·exact ha n3 (by omega)
     ·exact Fu q n3 64 _ _ _ (by omega) (h.lt (by omega)) (λ n4 h4=>ha n4 (by omega))
theorem Oy{k:Cl}{h0:Nat}{K:Rs->Tr}:∀(q n c:Nat),n<q->H0 K n->bS (yW k h0 K q) n c
 | 0,n,c,hq,_=>absurd hq (Nat.not_lt_zero n)
 | q+1,n,c,hq,h=>oZ λ n1 h1 _=>cU λ _=>Fu q n1 64 _ _ _ (by omega) (h.lt (by omega)) (λ n2 h2=>Oy q n2 64 (by omega) (h.lt (by omega)))
theorem Hs{k:Cl}{i m:Int}{h0 level:Nat}{K:Rs->Int->Tr}(h:∀n',n'<=n->∀r w,bS (K r w) n' 64):bS (kE k i m h0 level K) n 64:=cU λ nb=>by
 split
 ·split
  ·exact h n (Nat.le_refl n) _ _
  ·exact fJ (by decide) λ _=>kC λ n1 h1 _=>h n1 (by omega) _ _
 ·split
  ·exact h n (Nat.le_refl n) _ _
  ·refine cU λ _=>?_
   split
   ·exact h n (Nat.le_refl n) _ _
   ·split
    ·exact h n (Nat.le_refl n) _ _
    ·split
     ·exact h n (Nat.le_refl n) _ _
     ·exact cU λ _=>fJ (by decide) λ _=>kC λ n1 h1 _=>h n1 (by omega) _ _
theorem Vk{t:fY}{path:List Int}{h0:Nat}{K:Tr}:∀(l n:Nat),(∀n',n'<=n->bS K n' 64)->bS (s9 t path h0 K l) n 64
 | 0,n,h=>h n (Nat.le_refl n)
 | l+1,n,h=>gQ λ n1 h1 _=>cU λ _=>by
  split
  ·exact yN λ n2 h2 _=>Vk l n2 (λ n3 h3=>h n3 (by omega))
  ·exact h n1 (by omega)
theorem C3{k:Cl}{h0:Nat}{K:Rs->Tr}{again:Tr}{gen:Int}:∀(q n c:Nat) (i:Int) (path:List Int) (level:Nat),n<q->H0 K n->(∀n',n'<n->bS again n' 64)->bS (uG k h0 K again gen q i path level) n c
 | 0,n,c,i,p,level,hq,_,_=>absurd hq (Nat.not_lt_zero n)
 | q+1,n,c,i,p,level,hq,h,ha=>gQ λ n1 h1 _=>cU λ _=>by
  split
  ·exact yN λ n2 h2 _=>ha n2 (by omega)
  ·refine Hs λ n2 h2 r w=>?_
   split
   ·split
    ·exact Vk _ _ λ n3 h3=>h n3 (by omega) _
    ·exact h n2 (by omega) _
   ·split
    ·exact ha n2 (by omega)
    ·refine F7 λ n3 h3 v=>?_
     split
     ·exact ha n3 (by omega)
     ·exact C3 q n3 64 _ _ _ (by omega) (h.lt (by omega)) (λ n4 h4=>ha n4 (by omega))
theorem H7{k:Cl}{h0:Nat}{K:Rs->Tr}:∀(q n c:Nat),n<q->H0 K n->bS (vC k h0 K q) n c
 | 0,n,c,hq,_=>absurd hq (Nat.not_lt_zero n)
 | q+1,n,c,hq,h=>oZ λ n1 h1 _=>cU λ _=>C3 q n1 64 _ _ _ (by omega) (h.lt (by omega)) (λ n2 h2=>H7 q n2 64 (by omega) (h.lt (by omega)))
theorem Kf{i:Int}{k:Int->Tr}(hc:1<=c)(h:∀v,bS (k v) n (c-1)):bS (.cell i k) n c:=by
 obtain⟨c,rfl⟩:∃d,c=d+1:=⟨c-1,by omega⟩
 exact wh h
theorem Rz{k:Int->Tr}(hc:1<=c)(h:∀v,bS (k v) n (c-1)):bS (.gen k) n c:=by
 obtain⟨c,rfl⟩:∃d,c=d+1:=⟨c-1,by omega⟩
 exact aAS h
theorem jZ{r:Rs}:bS (.done r) n c:=by simp[bS]
theorem Ie{m:Int}:bS (M6 m .done) n 64:=Rz (by decide) λ _=>fJ (by decide) λ _=>Kf (by decide) λ _=>jZ
theorem Jq{t:fY}{fz:Bool}:∀(q n c:Nat),n<q->bS (Jt t fz .done q) n c
 | 0,n,c,hq=>absurd hq (Nat.not_lt_zero n)
 | q+1,n,c,hq=>oZ λ n1 h1 _=>gQ λ n2 h2 _=>Rz (by decide) λ _=>fJ (by decide) λ _=>zD (λ n3 h3 b=>by
  split
  ·split
   ·exact Kf (by decide) λ _=>jZ
   ·exact Ie
  ·exact Jq q n3 64 (by omega)) (by decide)
theorem Fz{t:fY}{fz:Bool}{q:Nat}(h:n<q):bS (sZ t fz .done q) n c:=by
 unfold sZ
 split
 ·exact pM λ n1 h1 _=>by
   split
   ·exact Kf (by decide) λ _=>jZ
   ·exact gQ λ n2 h2 _=>Ie
 ·exact Jq q n c h
theorem G3{t:fY}:∀(q n c:Nat),n<q->bS (zA t .done q) n c
 | 0,n,c,hq=>absurd hq (Nat.not_lt_zero n)
 | q+1,n,c,hq=>oZ λ n1 h1 _=>gQ λ n2 h2 _=>fJ (by decide) λ _=>Rz (by decide) λ _=>fJ (by decide) λ _=>zD (λ n3 h3 b=>by
  split
  ·exact jZ
  ·exact G3 q n3 64 (by omega)) (by decide)
theorem Ji{k:Cl}{h0 q:Nat}(h:n<q):bS (jY k h0 q) n 64:=by
 have hd:∀{X:Type} {K:X->Rs},H0 (λ v=>Tr.done (K v)) n:=λ _ _ _=>jZ
 unfold jY
 split
 ·exact jZ
 split
 ·exact gQ hd
 split
 ·exact kC hd
 split
 ·exact oZ hd
 split
 ·exact zD hd (by decide)
 split
 ·exact oZ λ n1 h1 _=>I8 q n1 64 _ _ (by omega) (λ _ _ _=>jZ)
 split
 ·exact Oy q n 64 h (λ _ _ _=>jZ)
 split
 ·exact H7 q n 64 h (λ _ _ _=>jZ)
 split
 ·exact Fz h
 split
 ·exact Fz h
 ·exact G3 q n 64 h
end
end

end Go.Proofs.YtbajmaoegmbfgaaGreat

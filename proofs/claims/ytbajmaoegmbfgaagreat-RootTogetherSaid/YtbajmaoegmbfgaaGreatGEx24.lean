/- Executions of the reference: one repetition. -/
import Derived.Test.YtbajmaoegmbfgaaGreatEx23
import Derived.Test.YtbajmaoegmbfgaaGreatGTp2

set_option linter.unusedSimpArgs false
set_option linter.unusedVariables false
namespace Go.Ct
section
open Go Go.RowKit
theorem mw{L:List Nv}{r:Rs}{gs ms cl gn:List Int}{R:Tr}(h:Wk L (.done r) gs ms cl gn R):gs=[]/\ms=[]/\cl=[]/\gn=[]/\R=.done r:=by
 cases h
 exact⟨rfl,rfl,rfl,rfl,rfl⟩
def XS.re(x:XS)(free:Nat):XS:={x with a:=0,m:=0,c:=0,g:=0,fr:=free,st:=false}
theorem aBe{T R:Tr}{x:XS}{free N:Nat}(hw:Wk x.nodes T x.got x.made x.cel x.gns R)(hN:x.got.length+free=N):fU ⟨T,R,x.mm,free,N⟩ (x.re free) T:=.inl ⟨rfl,R,⟨Wk.nil _,hw,by show Rc (free-free) R x.mm R x.mm;rw[Nat.sub_self];exact Rc.refl _ _,Nat.le_refl _,Nat.zero_le _,Nat.zero_le _,Nat.zero_le _,Nat.zero_le _,hN⟩⟩
structure sG(T R:Tr)(free N:Nat)(rs:Rs)(x x':XS)(N':List aS)(dn':Bool)(rs':Rs):Prop where
 ok:x'.Ok
 ext:x'.L=x.L++N'
 lc:x.cs.length<=x'.cs.length
 gl:x'.got.length<=N
 Q1:(dn'=true/\∃j,j<=free/\x'.got.length+free=N+j/\Wk x'.nodes T x'.got x'.made x'.cel x'.gns (.done rs')/\Rc j R x.mm (.done rs') x'.mm)∨(dn'=false/\rs'=rs/\x'.got.length=N/\∃R',R'.acc=some x'.nx/\Wk x'.nodes T x'.got x'.made x'.cel x'.gns R'/\Rc free R x.mm R' x'.mm)
theorem Nx.tg{T R:Tr}{free N:Nat}{rs r:Rs}{x x':XS}{N':List aS}(h:Nx ⟨T,R,x.mm,free,N⟩ (x.re free) x' N' (.done r) 0)(hs:x'.st=false):sG T R free N rs x x' N' true r:=by
 obtain⟨R',hR⟩:=h.go.run hs
 obtain⟨e1,e2,e3,e4,e5⟩:=mw hR.suf
 refine⟨h.ok,h.ext,h.lc,(by have:=hR.hN;show x'.got.length<=N;simp only at this;omega),.inl ⟨rfl,free-x'.fr,Nat.sub_le _ _,(by have:=hR.hN;have:=hR.hf;simp only at *;omega),?_,e5▸hR.rc⟩⟩
 have hp:=hR.pre
 rwa [List.take_of_length_le (List.drop_eq_nil_iff.1 e1),List.take_of_length_le (List.drop_eq_nil_iff.1 e2),List.take_of_length_le (List.drop_eq_nil_iff.1 e3),List.take_of_length_le (List.drop_eq_nil_iff.1 e4)] at hp
theorem Nx.sj{T R:Tr}{free N:Nat}{rs r:Rs}{x x':XS}{N':List aS}(h:Nx ⟨T,R,x.mm,free,N⟩ (x.re free) x' N' (.done r) 0)(hs:x'.st=true):sG T R free N rs x x' N' false rs:=by
 rcases h.go with h1|h1
 ·rw[hs] at h1;exact nomatch h1.1
 ·obtain⟨R',hR⟩:=h1.2
  exact⟨h.ok,h.ext,h.lc,Nat.le_of_eq hR.hN,.inr ⟨rfl,rfl,hR.hN,R',hR.ac,hR.wk,hR.rc⟩⟩
end
end Go.Ct
namespace Go.Proofs.YtbajmaoegmbfgaaGreat
section
open Go Go.RowKit Go.Ct
section
variable{k:Cl}{bx bm:Nat}{x:XS}{rs:Rs}{D:List Nat}{A:Fr}{w:World}
theorem Oi{m n N:Nat}{R:Tr}(free:Nat)(hg:Gx.Ok ⟨kJ k (mD k.key m) n,R,x.mm,free,N⟩)(hwk:Wk x.nodes (kJ k (mD k.key m) n) x.got x.made x.cel x.gns R)(hN:x.got.length+free=N)(hk:Ue k)(hn:n<=1073741824)(hm:m<18446744073709551616)(em:k.mask=(m:Int))(ht:k.t.root<=9223372036854775807)(ha:k.a<=x.L.length)(hb:k.b<=x.L.length)(hnn:k.n<=x.L.length)(hA:∀f∈aK x.L,f∈A)(ok:x.Ok)(hs:SF w D (xH k bx bm x false rs) A [] (xW x) w):Calls Tryz.prog 99 #[.pointer (some ⟨bx,0,none⟩),.int .i64 (free:Int)] w λ e w'=>∃q:XS×List aS×Bool×Rs,e=.returned (.tuple #[])/\sG (kJ k (mD k.key m) n) R free N rs x q.1 q.2.1 q.2.2.1 q.2.2.2/\SF w D (xH k bx bm q.1 q.2.2.1 q.2.2.2) [] (aK q.2.1) (xW q.1) w':=by
 have hfr:=hg.hf
 have ok0:(x.re free).Ok:=ok.tf rfl rfl rfl rfl rfl rfl (Nat.zero_le _) (Nat.zero_le _) (Nat.zero_le _) (Nat.zero_le _) hfr
 refine enter Tryz.func99 Tryz.ntmps99 rfl rfl (bZ hs) ?_
 simp only[bX]
 refine jA ?_;refine pE ?_;refine pE ?_;refine aA ?_;refine Lv ?_;refine bW (by exact gK λ _=>eT rf cN wn rf gQ rf rf jB) (λ _=>?_);refine Lv ?_;refine bW (by exact gK λ _=>eT rf cN wn rf gQ rf rf jB) (λ _=>?_);refine Lv ?_;refine bW (by exact gK λ _=>eT rf cN wn rf gQ rf rf jB) (λ _=>?_);refine Lv ?_;refine bW (by exact gK λ _=>eT rf cN wn rf gQ rf rf jB) (λ _=>?_);refine Lv ?_;refine bW (by exact gK λ _=>eT rf cN wn rf gQ rf rf jB) (λ _=>?_);refine Lv ?_;refine bW (by exact gK λ _=>eT rf cN wn rf gQ rf rf jB) (λ _=>?_);refine aG ?_;refine J2 ?_;refine aC (cM (hs:=xH k bx bm (x.re free) false rs) (os:=xW (x.re free)) (A0:=aK x.L) (hA:=aW.of λ f hf=>.inr (.inl (hA f hf))) (hc:=λ w hs=>aA8 hg (x:=x.re free) n hk hn hm em ht ha hb hnn (λ f hf=>hf) (aBe hwk hN) ok0 hs)) (λ x25 h25=>?_);refine aI (λ x4=>?_);refine bW (by exact(gK λ _=>bA rf cN rf rf dI rf jB)) (λ _=>?_);refine aG ?_;refine kO ?_;refine oK ?_
 refine bC (λ c30=>?_) (λ c30=>?_)
 ·refine dV [(0,[]),(1,[]),(2,[]),(3,[]),(4,[]),(5,[2]),(6,[]),(7,[]),(8,[])] ?_;refine gT ?_;refine bK ?_;refine J4 ?_;refine lC (i:=5) (hq:=(by exact gK λ _=>eT rf cN wn rf gQ rf rf jB)) (h:=λ _=>?_);refine J4 ?_;refine lC (i:=8) (hq:=(gK λ _=>lH (off:=41) (vs:=x25.1.cells) rf cN rf rfl dI (Nat.le_of_ble_eq_true rfl) rf jB)) (h:=λ _=>?_);refine eA ?_
  refine Dw Tryz.results99 (λ w hw=>?_)
  first
  | exact⟨(x25.2.1,x25.2.2,true,x25.1),rfl,h25.tg (by simpa using c30),by rw[List.append_nil] at hw;exact hw.aU (hF:=by exact aY.all)⟩
  | exact⟨(x25.2.1,x25.2.2,false,rs),rfl,h25.sj (by simpa using c30),by rw[List.append_nil] at hw;exact hw.aU (hF:=by exact aY.all)⟩
 ·refine aX ?_
  refine Dw Tryz.results99 (λ w hw=>?_)
  first
  | exact⟨(x25.2.1,x25.2.2,true,x25.1),rfl,h25.tg (by simpa using c30),by rw[List.append_nil] at hw;exact hw.aU (hF:=by exact aY.all)⟩
  | exact⟨(x25.2.1,x25.2.2,false,rs),rfl,h25.sj (by simpa using c30),by rw[List.append_nil] at hw;exact hw.aU (hF:=by exact aY.all)⟩
end
end

/- Executions of the reference: steps. -/
end Go.Proofs.YtbajmaoegmbfgaaGreat
namespace Go.Ct
section
open Go Go.RowKit
theorem E5{R:Tr}{a:Ac}(h:R.acc=some a){n c:Nat}(ht:bQ R n c)(hn:1<=n):bQ R n 64:=by
 cases R<;>simp only[Tr.acc,reduceCtorEq] at h
 ·cases n with
  | zero=>omega
  | succ n=>simpa only[bQ] using ht
 ·cases n with
  | zero=>omega
  | succ n=>simpa only[bQ] using ht
structure ll(T:Tr)(x:XS)(dn:Bool)(rs:Rs)(R:Tr):Prop where
 ok:x.Ok
 wk:Wk x.nodes T x.got x.made x.cel x.gns R
 Q1:(dn=true/\R=.done rs)∨(dn=false/\R.acc=some x.nx)
theorem sG.exI{T R:Tr}{free N:Nat}{rs rs':Rs}{x x':XS}{N':List aS}{dn':Bool}(h:sG T R free N rs x x' N' dn' rs'):∃R' j,j<=free/\(dn'=false->j=free)/\ll T x' dn' rs' R'/\Rc j R x.mm R' x'.mm/\x'.L=x.L++N'/\x.cs.length<=x'.cs.length:=by
 rcases h.Q1 with⟨e,j,h1,_,h2,h3⟩|⟨e,_,_,R',h1,h2,h3⟩
 ·exact⟨_,j,h1,(λ h=>by rw[e] at h;cases h),⟨h.ok,h2,.inl ⟨e,rfl⟩⟩,h3,h.ext,h.lc⟩
 ·exact⟨R',free,Nat.le_refl _,λ _=>rfl,⟨h.ok,h2,.inr ⟨e,h1⟩⟩,h3,h.ext,h.lc⟩
theorem sG.exN{T R:Tr}{free N:Nat}{rs rs':Rs}{x x':XS}{N':List aS}{dn':Bool}(h:sG T R free N rs x x' N' dn' rs'):∃R' j,j<=free/\(dn'=false->j=free)/\ll T x' dn' rs' R'/\Rc j R x.mm R' x'.mm/\x'.L=x.L++N'/\x.cs.length<=x'.cs.length/\x'.got.length+free=N+j:=by
 rcases h.Q1 with⟨e,j,h1,h0,h2,h3⟩|⟨e,_,h0,R',h1,h2,h3⟩
 ·exact⟨_,j,h1,(λ h=>by rw[e] at h;cases h),⟨h.ok,h2,.inl ⟨e,rfl⟩⟩,h3,h.ext,h.lc,h0⟩
 ·exact⟨R',free,Nat.le_refl _,λ _=>rfl,⟨h.ok,h2,.inr ⟨e,h1⟩⟩,h3,h.ext,h.lc,by rw[h0]⟩
end
end Go.Ct
namespace Go.Proofs.YtbajmaoegmbfgaaGreat
section
open Go Go.RowKit Go.Ct
section
variable{k:Cl}{bx bm:Nat}{x:XS}{dn:Bool}{rs:Rs}{D:List Nat}{A:Fr}{w:World}
theorem G6(hs:SF w D (xH k bx bm x dn rs) A [] (xW x) w):Calls Tryz.prog 69 #[.pointer (some ⟨bx,0,none⟩)] w λ e w'=>∃q:Unit,e=.returned (.bool dn)/\True/\SF w D (xH k bx bm x dn rs) [] [] (xW x) w':=by
 refine enter Tryz.func69 Tryz.ntmps69 rfl rfl (bZ hs) ?_
 simp only[bX]
 refine cR ?_;refine kO ?_;refine J1 ?_
 refine aR Tryz.results69 (λ w hw=>?_)
 exact⟨(),rfl,trivial,hw.aU⟩
theorem P7(hs:SF w D (xH k bx bm x dn rs) A [] (xW x) w):Calls Tryz.prog 135 #[.pointer (some ⟨bx,0,none⟩)] w λ e w'=>∃q:Unit,e=.returned (.agg ⟨rs.cells⟩)/\True/\SF w D (xH k bx bm x dn rs) [] [] (xW x) w':=by
 refine enter Tryz.func135 Tryz.ntmps135 rfl rfl (bZ hs) ?_
 simp only[bX]
 refine J0 ?_;refine aI (λ x2=>?_);refine aG ?_;refine E0 ?_;refine aB (aN (k:=8) (vs:=rs.cells) rf cN dI rfl rfl) rfl ?_;refine J5 ?_
 refine bB Tryz.results135 (λ w hw=>?_)
 exact⟨(),rfl,trivial,hw.aU⟩
theorem n6(hs:SF w D (xH k bx bm x dn rs) A [] (xW x) w):Calls Tryz.prog 132 #[.pointer (some ⟨bx,0,none⟩)] w λ e w'=>∃q:Unit,e=.returned (.int .i64 (x.got.length:Int))/\True/\SF w D (xH k bx bm x dn rs) [] [] (xW x) w':=by
 refine enter Tryz.func132 Tryz.ntmps132 rfl rfl (bZ hs) ?_
 simp only[bX]
 refine cR ?_;refine kO ?_;refine dE ?_;refine J1 ?_
 refine aR Tryz.results132 (λ w hw=>?_)
 exact⟨(),rfl,trivial,hw.aU⟩
theorem r7(hs:SF w D (xH k bx bm x dn rs) A [] (xW x) w):Calls Tryz.prog 134 #[.pointer (some ⟨bx,0,none⟩)] w λ e w'=>∃q:Unit,e=.returned (.tuple #[.agg ⟨(if dn=true then Ac.zero else x.nx).cells⟩,.bool (!dn)])/\True/\SF w D (xH k bx bm x dn rs) [] [] (xW x) w':=by
 refine enter Tryz.func134 Tryz.ntmps134 rfl rfl (bZ hs) ?_
 simp only[bX]
 refine J0 ?_;refine aI (λ x2=>?_);refine hZ ?_;refine kO ?_;refine aG ?_
 refine bC (λ c7=>?_) (λ c7=>?_)
 ·refine J0 ?_;refine bG ?_;refine yA ?_
  refine bB Tryz.results134 (λ w hw=>?_)
  subst c7
  exact⟨(),rfl,trivial,hw.aU⟩
 ·refine aX ?_;refine E0 ?_;refine aB (aN (k:=4) (vs:=x.nx.cells) rf cN dI rfl rfl) rfl ?_;refine yA ?_
  refine bB Tryz.results134 (λ w hw=>?_)
  subst c7
  exact⟨(),rfl,trivial,hw.aU⟩
theorem Qz{m n N:Nat}{R:Tr}(hT:bQ (kJ k (mD k.key m) n) N 64)(hN:N<=1073741824)(hgN:x.got.length+1=N)(hsz:x.L.length<=137438953472/\x.cs.length<=137438953472/\x.gen<=137438953472)(hi:ll (kJ k (mD k.key m) n) x dn rs R)(hk:Ue k)(hn:n<=1073741824)(hm:m<18446744073709551616)(em:k.mask=(m:Int))(ht:k.t.root<=9223372036854775807)(ha:k.a<=x.L.length)(hb:k.b<=x.L.length)(hnn:k.n<=x.L.length)(hA:∀f∈aK x.L,f∈A)(hs:SF w D (xH k bx bm x dn rs) A [] (xW x) w):Calls Tryz.prog 68 #[.pointer (some ⟨bx,0,none⟩)] w λ e w'=>∃q:XS×List aS×Bool×Rs,e=.returned (.tuple #[])/\((dn=true/\q=(x,[],true,rs))∨(dn=false/\sG (kJ k (mD k.key m) n) R 1 N rs x q.1 q.2.1 q.2.2.1 q.2.2.2))/\SF w D (xH k bx bm q.1 q.2.2.1 q.2.2.2) [] (aK q.2.1) (xW q.1) w':=by
 have hg:dn=false->Gx.Ok ⟨kJ k (mD k.key m) n,R,x.mm,1,N⟩:=λ e=>by
  rcases hi.Q1 with⟨e2,_⟩|⟨_,e2⟩
  ·rw[e] at e2;cases e2
  ·obtain⟨c,h1,_,_⟩:=hi.wk.rU (Nat.le_refl 64) hT (by omega)
   refine⟨hT,⟨N-x.got.length,by show 1<=N-x.got.length;omega,E5 e2 h1 (by omega)⟩,hN,Nat.le_refl 1,?_⟩
   show(x.L.map aS.c).length<=_/\_
   rw[List.length_map]
   exact hsz
 refine enter Tryz.func68 Tryz.ntmps68 rfl rfl (bZ hs) ?_
 simp only[bX]
 refine kO ?_;refine oK ?_
 refine bC (λ c6=>?_) (λ c6=>?_)
 ·have ed:dn=false:=by simpa using c6
  subst ed
  refine zL ?_;refine aC (cM (hs:=xH k bx bm x false rs) (os:=xW x) (A0:=aK x.L) (hA:=aW.of λ f hf=>.inr (.inl (hA f hf))) (hc:=λ w hs=>Oi (N:=N) (n:=n) (m:=m) 1 (hg rfl) hi.wk hgN hk hn hm em ht ha hb hnn (λ f hf=>hf) hi.ok hs)) (λ x8 h8=>?_);refine aG ?_
  refine Dw Tryz.results68 (λ w hw=>?_)
  first
  | exact⟨x8,rfl,.inr ⟨rfl,h8⟩,by rw[List.append_nil] at hw;exact hw.aU (hF:=by exact aY.all)⟩
  | exact⟨(x,[],true,rs),rfl,.inl ⟨by simpa using c6,rfl⟩,by rw[show dn=true from by simpa using c6] at hw;exact hw.aU (hF:=by exact aY.nil)⟩
 ·refine aX ?_
  refine Dw Tryz.results68 (λ w hw=>?_)
  first
  | exact⟨(x,[],true,rs),rfl,.inl ⟨by simpa using c6,rfl⟩,by rw[show dn=true from by simpa using c6] at hw;exact hw.aU (hF:=by exact aY.nil)⟩
end
end

/- Executions of the reference: the start. -/
end Go.Proofs.YtbajmaoegmbfgaaGreat
namespace Go.Ct
section
open Go Go.RowKit
def XS.new(L:List aS)(cs:List Int)(gen acc:Int)(pn:Option Addr)(cn:Nat)(pc:Option Addr)(cc:Nat):XS:=⟨L,cs,gen,acc,pn,cn,pc,cc,[],[],[],[],none,0,none,0,none,0,none,0,0,0,0,0,0,false,Ac.zero⟩
end
end Go.Ct
namespace Go.Proofs.YtbajmaoegmbfgaaGreat
section
open Go Go.RowKit Go.Ct
section
variable{k:Cl}{bm:Nat}{L:List aS}{cs:List Int}{gen acc:Int}{pn pc:Option Addr}{cn cc:Nat}{D:List Nat}{A:Fr}{w:World}
theorem o0{m n N:Nat}(hT:bQ (kJ k (mD k.key m) n) N 64)(hN:N<=1073741824)(hsz:L.length<=137438953472/\cs.length<=137438953472/\gen<=137438953472)(hk:Ue k)(hn:n<=1073741824)(hm:m<18446744073709551616)(em:k.mask=(m:Int))(ht:k.t.root<=9223372036854775807)(ha:k.a<=L.length)(hb:k.b<=L.length)(hnn:k.n<=L.length)(hA:∀f∈aK L,f∈A)(ok:(XS.new L cs gen acc pn cn pc cc).Ok)(hs:SF w D [(bm,mO L cs gen acc pn cn pc cc)] A [] [⟨pn,gS L,cn,47,14⟩,⟨pc,aH cs,cc,37,1⟩] w)(hN0:N=0:=by rfl):Calls Tryz.prog 49 #[.pointer (some ⟨bm,0,none⟩),.agg ⟨Qn k⟩] w λ e w'=>∃q:Nat×XS×List aS×Bool×Rs,e=.returned (.pointer (some ⟨q.1,0,none⟩))/\sG (kJ k (mD k.key m) n) (kJ k (mD k.key m) n) 0 N Rs.zero (XS.new L cs gen acc pn cn pc cc) q.2.1 q.2.2.1 q.2.2.2.1 q.2.2.2.2/\SF w D (xH k q.1 bm q.2.1 q.2.2.2.1 q.2.2.2.2) [] (aK q.2.2.1) (xW q.2.1) w':=by
 have hg:Gx.Ok ⟨kJ k (mD k.key m) n,kJ k (mD k.key m) n,(XS.new L cs gen acc pn cn pc cc).mm,0,N⟩:=⟨hT,⟨N,Nat.zero_le _,hT⟩,hN,Nat.zero_le _,by
  show(L.map aS.c).length<=_/\_
  rw[List.length_map]
  exact hsz⟩
 refine enter Tryz.func49 Tryz.ntmps49 rfl rfl ((((hs.lS 3 1).lS 27 1).lS 37 1).lS 37 1) ?_
 simp only[bX]
 refine J0 ?_;refine bL (λ x3=>?_);refine J1 ?_;refine J2 ?_;refine aB (aN (k:=25) (vs:=Qn k) rf cN dI rfl rfl) rfl ?_;refine bG ?_;refine bL (λ x9=>?_);refine J1 ?_;refine J2 ?_;refine aC (cM (hs:=xH k x9 bm (XS.new L cs gen acc pn cn pc cc) false Rs.zero) (os:=xW (XS.new L cs gen acc pn cn pc cc)) (A0:=aK L) (hA:=aW.of λ f hf=>.inr (.inl (hA f hf))) (hc:=λ w hs=>Oi (N:=N) (n:=n) (m:=m) 0 hg (Wk.nil _) hN0.symm hk hn hm em ht ha hb hnn (λ f hf=>hf) ok hs)) (λ x11 h11=>?_);refine aG ?_;refine J2 ?_;refine J1 ?_
 refine aR Tryz.results49 (λ w hw=>?_)
 exact⟨(x9,x11.1,x11.2.1,x11.2.2.1,x11.2.2.2),rfl,h11,by rw[List.append_nil] at hw;exact hw.aU (hF:=by exact aY.all)⟩
end
end

/- The trees are never stuck within as many accesses as they have fuel: single procedures. -/
section
open Go Go.RowKit Go.Ct
theorem vf:∀{t:Tr} {n c c':Nat},c<=c'->bQ t n c->bQ t n c':=by
 intro t
 induction t with
 | done r=>intros;simp[bQ]
 | stuck=>intro n c c' _ h;simp[bQ] at h
 | load r k ih =>
  intro n c c' _ h
  cases n with
  | zero=>simp[bQ]
  | succ n=>simpa only[bQ] using h
 | kI r o m k ih =>
  intro n c c' _ h
  cases n with
  | zero=>simp[bQ]
  | succ n=>simpa only[bQ] using h
 | alloc r o k ih =>
  intro n c c' hc h
  cases c with
  | zero=>simp[bQ] at h
  | succ c =>
   cases c' with
   | zero=>omega
   | succ c'=>simp only[bQ] at h ⊢;exact λ v=>ih v (by omega) (h v)
 | cell r k ih =>
  intro n c c' hc h
  cases c with
  | zero=>simp[bQ] at h
  | succ c =>
   cases c' with
   | zero=>omega
   | succ c'=>simp only[bQ] at h ⊢;exact λ v=>ih v (by omega) (h v)
 | gen k ih =>
  intro n c c' hc h
  cases c with
  | zero=>simp[bQ] at h
  | succ c =>
   cases c' with
   | zero=>omega
   | succ c'=>simp only[bQ] at h ⊢;exact λ v=>ih v (by omega) (h v)
 | node r k ih =>
  intro n c c' hc h
  cases c<;>cases c'<;>simp only[bQ] at h ⊢ <;> exact λ v=>ih v (by omega) (h v)
section
variable{n c:Nat}
theorem pM{a:Int}{k:Int->Tr}(h:∀n',n'<n->∀v,bQ (k v) n' 64):bQ (.load a k) n c:=by
 cases n with
 | zero=>simp[bQ]
 | succ n=>simp only[bQ];exact h n (Nat.lt_succ_self n)
theorem Cs{a o m:Int}{k:Bool->Tr}(h:∀n',n'<n->∀v,bQ (k v) n' 64):bQ (.kI a o m k) n c:=by
 cases n with
 | zero=>simp[bQ]
 | succ n=>simp only[bQ];exact h n (Nat.lt_succ_self n)
theorem Ln{a:Nv}{i:Int}{k:Int->Tr}(h:∀v,bQ (k v) n c):bQ (.alloc a i k) n (c+1):=by simp only[bQ];exact h
theorem wv{i:Int}{k:Int->Tr}(h:∀v,bQ (k v) n c):bQ (.cell i k) n (c+1):=by simp only[bQ];exact h
theorem aAQ{k:Int->Tr}(h:∀v,bQ (k v) n c):bQ (.gen k) n (c+1):=by simp only[bQ];exact h
theorem cQ{r:Int}{k:Nv->Tr}(h:∀v,bQ (k v) n c):bQ (.node r k) n c:=by
 cases c<;>simp only[bQ]<;>exact h
abbrev Iy{X:Type}(K:X->Tr)(n:Nat):Prop:=∀n',n'<n->∀v,bQ (K v) n' 64
theorem Iy.lt{X:Type}{K:X->Tr}{m:Nat}(h:Iy K n)(hm:m<=n):Iy K m:=λ n' h' v=>h n' (by omega) v
theorem fo{v s:Int}{K:Int->Tr}(h:∀w,bQ (K w) n c):bQ (yr v s K) n c:=cQ λ _=>h _
theorem wJ{t:fR}{v s:Int}{K:Int->Tr}(h:Iy K n):bQ (mI t v s K) n c:=fo λ _=>Cs λ n' hn _=>h n' hn _
theorem Xm{t:fR}{K:Int->Tr}(h:Iy K n):bQ (Jb t K) n c:=pM λ n1 h1 v=>cQ λ nv=>by
 split
 ·exact h n1 h1 v
 ·exact cQ λ _=>pM λ n2 h2 s=>by
   split
   ·exact cQ λ _=>Cs λ n3 h3 _=>cQ λ _=>pM λ n4 h4 _=>wJ (h.lt (by omega))
   ·exact wJ (h.lt (by omega))
theorem M6{i m p:Int}{K:Int->Tr}(h:Iy K n):bQ (P5 i m p K) n c:=cQ λ _=>cQ λ _=>Cs λ n' hn _=>cQ λ _=>h n' hn _
theorem Aw{i m:Int}{K:Int->Tr}(h:Iy K n):bQ (jP i m K) n c:=cQ λ _=>pM λ n1 h1 p=>by
 split
 ·exact h n1 h1 _
 ·exact M6 (h.lt (by omega))
theorem I2{i m p:Int}{b:Bool}{K:Int->Tr}(h:Iy K n)(hc:1<=c):bQ (qS i m p b K) n c:=by
 unfold qS
 split
 ·exact cQ λ _=>Cs λ n1 h1 _=>Aw (h.lt (by omega))
 ·obtain⟨c,rfl⟩:∃d,c=d+1:=⟨c-1,by omega⟩
  exact cQ λ _=>Ln λ _=>Cs λ n1 h1 _=>Aw (h.lt (by omega))
theorem C7{t:fR}{i m:Int}{K:Int->Tr}(h:Iy K n):bQ (tI t i m K) n c:=cQ λ _=>pM λ n1 h1 p=>by
 split
 ·exact h n1 h1 _
 ·refine cQ λ _=>?_
  split
  ·split
   ·exact I2 (h.lt (by omega)) (by decide)
   ·exact Xm λ n2 h2 _=>cQ λ _=>cQ λ _=>I2 (h.lt (by omega)) (by decide)
  ·exact M6 (h.lt (by omega))
theorem gU{t:fR}{i:Int}{K:Int->Tr}(h:Iy K n):bQ (nF t i K) n c:=cQ λ _=>pM λ n1 h1 _=>C7 (h.lt (by omega))
theorem Cz{t:fR}{v:Int}{K:Tr}(h:∀n',n'<n->bQ K n' 64):bQ (oR t v K) n c:=cQ λ _=>gU λ n1 h1 _=>cQ λ _=>cQ λ _=>Cs λ n2 h2 _=>h n2 (by omega)
theorem oY{t:fR}{K:Int->Tr}(h:Iy K n):bQ (oL t K) n c:=pM λ n1 h1 v=>cQ λ nv=>by
 split
 ·exact h n1 h1 v
 ·exact cQ λ _=>pM λ n2 h2 s=>by
   split
   ·exact Cz λ n3 h3=>cQ λ _=>pM λ n4 h4 _=>wJ (h.lt (by omega))
   ·exact wJ (h.lt (by omega))
theorem jW{t:fR}{i o m:Int}{K:Bool->Tr}(h:Iy K n):bQ (nG t i o m K) n c:=cQ λ _=>Cs λ n1 h1 b=>by
 split
 ·exact C7 λ n2 h2 _=>h n2 (by omega) _
 ·exact h n1 h1 _
theorem zA{t:fR}{o e m:Int}{K:Bool->Tr}(h:Iy K n)(hc:1<=c):bQ (mQ t o e m K) n c:=by
 obtain⟨c,rfl⟩:∃d,c=d+1:=⟨c-1,by omega⟩
 exact Ln λ _=>Cs λ n1 h1 b=>by
  split
  ·exact Cz λ n2 h2=>cQ λ _=>pM λ n3 h3 _=>wJ λ n4 h4 _=>h n4 (by omega) _
  ·exact h n1 h1 _
end
end

/- The trees are never stuck within as many accesses as they have fuel: calls. -/
section
open Go Go.RowKit Go.Ct
section
variable{n c:Nat}
theorem fH{a:Nv}{i:Int}{k:Int->Tr}(hc:1<=c)(h:∀v,bQ (k v) n (c-1)):bQ (.alloc a i k) n c:=by
 obtain⟨c,rfl⟩:∃d,c=d+1:=⟨c-1,by omega⟩
 exact Ln h
theorem B8{a i r:Int}{K:Int->Tr}(hc:1<=c)(h:∀v,bQ (K v) n (c-1)):bQ (Ic a i r K) n c:=cQ λ _=>fH hc h
theorem Sv{t:fR}{i o x:Int}{K:Int->Tr}(h:Iy K n):bQ (Mc t i o x K) n c:=cQ λ _=>gU λ n1 h1 _=>cQ λ _=>fH (by decide) λ _=>B8 (by decide) λ _=>jW λ n2 h2 _=>h n2 (by omega) _
theorem zI{t:fR}{p o:Int}{h0:Nat}{l:Int}{K:Bool->Tr}(h:Iy K n):bQ (zO t p o h0 l K) n c:=gU λ n1 h1 _=>cQ λ _=>by
 split
 ·exact gU λ n2 h2 _=>cQ λ _=>by
   split
   ·exact fH (by decide) λ _=>cQ λ _=>fH (by decide) λ _=>jW λ n3 h3 _=>h n3 (by omega) _
   ·exact h n2 (by omega) _
 ·exact h n1 h1 _
theorem Kq{t:fR}{h0:Nat}{key:ByteArray}{K:Rs->Tr}:∀(q n c:Nat) (i level:Int),n<q->Iy K n->bQ (C3 t h0 key K q i level) n c
 | 0,n,c,i,level,hq,_=>absurd hq (Nat.not_lt_zero n)
 | q+1,n,c,i,level,hq,h=>gU λ n1 h1 _=>cQ λ _=>by
  split
  ·split<;>exact h n1 h1 _
  ·split
   ·exact h n1 h1 _
   ·split
    ·exact h n1 h1 _
    ·exact cQ λ _=>by
      split
      ·split<;>exact h n1 h1 _
      ·exact Kq q n1 64 _ _ (by omega) (h.lt (by omega))
theorem Qa:∀(l:List NI) (r:Int) (K:Int->Tr) (n c:Nat),l.length<=c->(∀v,bQ (K v) n (c-l.length))->bQ (zT l r K) n c
 | [],r,K,n,c,_,h=>h r
 | a::l,r,K,n,c,hc,h=>by
  have hc':l.length+1<=c:=by simpa using hc
  exact fH (by omega) λ v=>Qa l v K n (c-1) (by omega) (λ u=>by have:=h u;rw[List.length_cons] at this;rwa [show c-1-l.length=c-(l.length+1) by omega])
theorem Xi{k:Cl}{b:Int}{h0 level:Nat}{gen:Int}{K:Int->Tr}(hc:32<=c)(h:∀v,bQ (K v) n (c-32)):bQ (Uo k b h0 level gen K) n c:=cQ λ nb=>fH (by omega) λ f=>by
 have hl:(dP b nb.hash.toNat h0 (nb.key,nb.val) k.key k.val gen f.toNat level).tail.length<=31:=by
  have h1:=Rf (x:=b) (h0:=nb.hash.toNat) (h:=h0) (p0:=(nb.key,nb.val)) (k:=k.key) (u:=k.val) (gen:=gen) (f:=f.toNat) (kP nb.hash.toNat h0-level) (kP nb.hash.toNat h0-(kP nb.hash.toNat h0-level))
  have h2:=zN nb.hash.toNat h0
  rw[List.length_tail]
  unfold dP
  omega
 exact Qa _ _ _ _ _ (by omega) λ v=>vf (by omega) (h v)
theorem Ly{k:Cl}{i m:Int}{h0 level:Nat}{gen:Int}{K:Rs->Int->Tr}(h:∀n',n'<=n->∀r w,bQ (K r w) n' 64):bQ (lR k i m h0 level gen K) n 64:=cQ λ nb=>by
 split
 ·split
  ·exact fH (by decide) λ _=>jW λ n1 h1 _=>h n1 (by omega) _ _
  ·exact h n (Nat.le_refl n) _ _
 ·split
  ·split
   ·exact fH (by decide) λ _=>fH (by decide) λ _=>jW λ n1 h1 _=>h n1 (by omega) _ _
   ·exact h n (Nat.le_refl n) _ _
  ·refine cQ λ _=>?_
   split
   ·exact h n (Nat.le_refl n) _ _
   ·split
    ·split
     ·exact fH (by decide) λ _=>B8 (by decide) λ _=>jW λ n1 h1 _=>h n1 (by omega) _ _
     ·exact h n (Nat.le_refl n) _ _
    ·split
     ·exact Xi (by decide) λ _=>fH (by decide) λ _=>B8 (by decide) λ _=>jW λ n1 h1 _=>h n1 (by omega) _ _
     ·exact h n (Nat.le_refl n) _ _
theorem Fe{k:Cl}{i m x gen:Int}{K:Int->Tr}(h:∀n',n'<=n->∀v,bQ (K v) n' 64):bQ (Fy k i m x gen K) n 64:=cQ λ _=>cQ λ _=>by
 split
 ·exact h n (Nat.le_refl n) _
 ·exact Sv λ n1 h1 _=>h n1 (by omega) _
theorem Hg{k:Cl}{h0:Nat}{K:Rs->Tr}{again:Tr}{gen:Int}:∀(q n c:Nat) (i parent:Int) (level:Nat),n<q->Iy K n->(∀n',n'<n->bQ again n' 64)->bQ (De k h0 K again gen q i parent level) n c
 | 0,n,c,i,p,level,hq,_,_=>absurd hq (Nat.not_lt_zero n)
 | q+1,n,c,i,p,level,hq,h,ha=>gU λ n1 h1 _=>cQ λ _=>by
  split
  ·exact zI λ n2 h2 _=>ha n2 (by omega)
  ·refine Ly λ n2 h2 r w=>?_
   split
   ·exact h n2 (by omega) _
   ·split
    ·exact ha n2 (by omega)
    ·refine Fe λ n3 h3 v=>?_
     split
     ·exact ha n3 (by omega)
     ·exact Hg q n3 64 _ _ _ (by omega) (h.lt (by omega)) (λ n4 h4=>ha n4 (by omega))
theorem M9{k:Cl}{h0:Nat}{K:Rs->Tr}:∀(q n c:Nat),n<q->Iy K n->bQ (F4 k h0 K q) n c
 | 0,n,c,hq,_=>absurd hq (Nat.not_lt_zero n)
 | q+1,n,c,hq,h=>oY λ n1 h1 _=>cQ λ _=>Hg q n1 64 _ _ _ (by omega) (h.lt (by omega)) (λ n2 h2=>M9 q n2 64 (by omega) (h.lt (by omega)))
theorem Iu{k:Cl}{i m:Int}{h0 level:Nat}{K:Rs->Int->Tr}(h:∀n',n'<=n->∀r w,bQ (K r w) n' 64):bQ (kB k i m h0 level K) n 64:=cQ λ nb=>by
 split
 ·split
  ·exact h n (Nat.le_refl n) _ _
  ·exact fH (by decide) λ _=>jW λ n1 h1 _=>h n1 (by omega) _ _
 ·split
  ·exact h n (Nat.le_refl n) _ _
  ·refine cQ λ _=>?_
   split
   ·exact h n (Nat.le_refl n) _ _
   ·split
    ·exact h n (Nat.le_refl n) _ _
    ·split
     ·exact h n (Nat.le_refl n) _ _
     ·exact cQ λ _=>fH (by decide) λ _=>jW λ n1 h1 _=>h n1 (by omega) _ _
theorem Tv{t:fR}{path:List Int}{h0:Nat}{K:Tr}:∀(l n:Nat),(∀n',n'<=n->bQ K n' 64)->bQ (te t path h0 K l) n 64
 | 0,n,h=>h n (Nat.le_refl n)
 | l+1,n,h=>gU λ n1 h1 _=>cQ λ _=>by
  split
  ·exact zI λ n2 h2 _=>Tv l n2 (λ n3 h3=>h n3 (by omega))
  ·exact h n1 (by omega)
theorem Da{k:Cl}{h0:Nat}{K:Rs->Tr}{again:Tr}{gen:Int}:∀(q n c:Nat) (i:Int) (path:List Int) (level:Nat),n<q->Iy K n->(∀n',n'<n->bQ again n' 64)->bQ (vD k h0 K again gen q i path level) n c
 | 0,n,c,i,p,level,hq,_,_=>absurd hq (Nat.not_lt_zero n)
 | q+1,n,c,i,p,level,hq,h,ha=>gU λ n1 h1 _=>cQ λ _=>by
  split
  ·exact zI λ n2 h2 _=>ha n2 (by omega)
  ·refine Iu λ n2 h2 r w=>?_
   split
   ·split
    ·exact Tv _ _ λ n3 h3=>h n3 (by omega) _
    ·exact h n2 (by omega) _
   ·split
    ·exact ha n2 (by omega)
    ·refine Fe λ n3 h3 v=>?_
     split
     ·exact ha n3 (by omega)
     ·exact Da q n3 64 _ _ _ (by omega) (h.lt (by omega)) (λ n4 h4=>ha n4 (by omega))
theorem Jc{k:Cl}{h0:Nat}{K:Rs->Tr}:∀(q n c:Nat),n<q->Iy K n->bQ (vH k h0 K q) n c
 | 0,n,c,hq,_=>absurd hq (Nat.not_lt_zero n)
 | q+1,n,c,hq,h=>oY λ n1 h1 _=>cQ λ _=>Da q n1 64 _ _ _ (by omega) (h.lt (by omega)) (λ n2 h2=>Jc q n2 64 (by omega) (h.lt (by omega)))
theorem Mi{i:Int}{k:Int->Tr}(hc:1<=c)(h:∀v,bQ (k v) n (c-1)):bQ (.cell i k) n c:=by
 obtain⟨c,rfl⟩:∃d,c=d+1:=⟨c-1,by omega⟩
 exact wv h
theorem Tb{k:Int->Tr}(hc:1<=c)(h:∀v,bQ (k v) n (c-1)):bQ (.gen k) n c:=by
 obtain⟨c,rfl⟩:∃d,c=d+1:=⟨c-1,by omega⟩
 exact aAQ h
theorem kA{r:Rs}:bQ (.done r) n c:=by simp[bQ]
theorem Kd{m:Int}:bQ (O0 m .done) n 64:=Tb (by decide) λ _=>fH (by decide) λ _=>Mi (by decide) λ _=>kA
theorem Jg{t:fR}{fz:Bool}:∀(q n c:Nat),n<q->bQ (Ke t fz .done q) n c
 | 0,n,c,hq=>absurd hq (Nat.not_lt_zero n)
 | q+1,n,c,hq=>oY λ n1 h1 _=>gU λ n2 h2 _=>Tb (by decide) λ _=>fH (by decide) λ _=>zA (λ n3 h3 b=>by
  split
  ·split
   ·exact Mi (by decide) λ _=>kA
   ·exact Kd
  ·exact Jg q n3 64 (by omega)) (by decide)
theorem Hn{t:fR}{fz:Bool}{q:Nat}(h:n<q):bQ (sL t fz .done q) n c:=by
 unfold sL
 split
 ·exact pM λ n1 h1 _=>by
   split
   ·exact Mi (by decide) λ _=>kA
   ·exact gU λ n2 h2 _=>Kd
 ·exact Jg q n c h
theorem Hl{t:fR}:∀(q n c:Nat),n<q->bQ (yX t .done q) n c
 | 0,n,c,hq=>absurd hq (Nat.not_lt_zero n)
 | q+1,n,c,hq=>oY λ n1 h1 _=>gU λ n2 h2 _=>fH (by decide) λ _=>Tb (by decide) λ _=>fH (by decide) λ _=>zA (λ n3 h3 b=>by
  split
  ·exact kA
  ·exact Hl q n3 64 (by omega)) (by decide)
theorem Jz{k:Cl}{h0 q:Nat}(h:n<q):bQ (kJ k h0 q) n 64:=by
 have hd:∀{X:Type} {K:X->Rs},Iy (λ v=>Tr.done (K v)) n:=λ _ _ _=>kA
 unfold kJ
 split
 ·exact kA
 split
 ·exact gU hd
 split
 ·exact jW hd
 split
 ·exact oY hd
 split
 ·exact zA hd (by decide)
 split
 ·exact oY λ n1 h1 _=>Kq q n1 64 _ _ (by omega) (λ _ _ _=>kA)
 split
 ·exact M9 q n 64 h (λ _ _ _=>kA)
 split
 ·exact Jc q n 64 h (λ _ _ _=>kA)
 split
 ·exact Hn h
 split
 ·exact Hn h
 ·exact Hl q n 64 h
end
end

end Go.Proofs.YtbajmaoegmbfgaaGreat

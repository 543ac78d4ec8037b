/- Executions of the reference: one repetition. -/
import Derived.Test.YtbajmaoegmbfgaaGreatEx23
import Derived.Test.YtbajmaoegmbfgaaGreatGRn1
import Derived.Test.YtbajmaoegmbfgaaGreatGTape

set_option linter.unusedSimpArgs false
set_option linter.unusedVariables false
namespace Go.Ct
section
open Go Go.RowKit
theorem qk{L:List Nv}{r:Rs}{gs ms cl gn:List Int}{R:Tr}(h:Wk L (.done r) gs ms cl gn R):gs=[]/\ms=[]/\cl=[]/\gn=[]/\R=.done r:=by
 cases h
 exact⟨rfl,rfl,rfl,rfl,rfl⟩
def XS.re(x:XS)(free:Nat):XS:={x with a:=0,m:=0,c:=0,g:=0,fr:=free,st:=false}
theorem aAW{T R:Tr}{x:XS}{free N:Nat}(hw:Wk x.nodes T x.got x.made x.cel x.gns R)(hN:x.got.length+free=N):gD ⟨T,R,x.mm,free,N⟩ (x.re free) T:=.inl ⟨rfl,R,⟨Wk.nil _,hw,by show Rc (free-free) R x.mm R x.mm;rw[Nat.sub_self];exact Rc.refl _ _,Nat.le_refl _,Nat.zero_le _,Nat.zero_le _,Nat.zero_le _,Nat.zero_le _,hN⟩⟩
structure zU(T R:Tr)(free N:Nat)(rs:Rs)(x x':XS)(N':List aP)(dn':Bool)(rs':Rs):Prop where
 ok:x'.Ok
 ext:x'.L=x.L++N'
 lc:x.cs.length<=x'.cs.length
 gl:x'.got.length<=N
 nu:(dn'=true/\∃j,j<=free/\x'.got.length+free=N+j/\Wk x'.nodes T x'.got x'.made x'.cel x'.gns (.done rs')/\Rc j R x.mm (.done rs') x'.mm)∨(dn'=false/\rs'=rs/\x'.got.length=N/\∃R',R'.acc=some x'.nx/\Wk x'.nodes T x'.got x'.made x'.cel x'.gns R'/\Rc free R x.mm R' x'.mm)
theorem Nx.w8{T R:Tr}{free N:Nat}{rs r:Rs}{x x':XS}{N':List aP}(h:Nx ⟨T,R,x.mm,free,N⟩ (x.re free) x' N' (.done r) 0)(hs:x'.st=false):zU T R free N rs x x' N' true r:=by
 obtain⟨R',hR⟩:=h.go.run hs
 obtain⟨e1,e2,e3,e4,e5⟩:=qk hR.suf
 refine⟨h.ok,h.ext,h.lc,(by have:=hR.hN;show x'.got.length<=N;simp only at this;omega),.inl ⟨rfl,free-x'.fr,Nat.sub_le _ _,(by have:=hR.hN;have:=hR.hf;simp only at *;omega),?_,e5▸hR.rc⟩⟩
 have hp:=hR.pre
 rwa [List.take_of_length_le (List.drop_eq_nil_iff.1 e1),List.take_of_length_le (List.drop_eq_nil_iff.1 e2),List.take_of_length_le (List.drop_eq_nil_iff.1 e3),List.take_of_length_le (List.drop_eq_nil_iff.1 e4)] at hp
theorem Nx.wi{T R:Tr}{free N:Nat}{rs r:Rs}{x x':XS}{N':List aP}(h:Nx ⟨T,R,x.mm,free,N⟩ (x.re free) x' N' (.done r) 0)(hs:x'.st=true):zU T R free N rs x x' N' false rs:=by
 rcases h.go with h1|h1
 ·rw[hs] at h1;exact nomatch h1.1
 ·obtain⟨R',hR⟩:=h1.2
  exact⟨h.ok,h.ext,h.lc,Nat.le_of_eq hR.hN,.inr ⟨rfl,rfl,hR.hN,R',hR.ac,hR.wk,hR.rc⟩⟩
end
end Go.Ct
namespace Go.Proofs.YtbajmaoegmbfgaaGreat
section
open Go Go.RowKit Go.Ct
section
variable{k:Cl}{bx bm:Nat}{x:XS}{rs:Rs}{D:List Nat}{A:Fr}{w:World}
theorem P8{m n N:Nat}{R:Tr}(free:Nat)(hg:Gx.Ok ⟨lA k (mD k.key m) n,R,x.mm,free,N⟩)(hwk:Wk x.nodes (lA k (mD k.key m) n) x.got x.made x.cel x.gns R)(hN:x.got.length+free=N)(hk:Zu k)(hn:n<=1073741824)(hm:m<18446744073709551616)(em:k.mask=(m:Int))(ht:k.t.root<=9223372036854775807)(ha:k.a<=x.L.length)(hb:k.b<=x.L.length)(hnn:k.n<=x.L.length)(hA:∀f∈aL x.L,f∈A)(ok:x.Ok)(hs:SF w D (xH k bx bm x false rs) A [] (xW x) w):Calls Tryz.prog 99 #[.pointer (some ⟨bx,0,none⟩),.int .i64 (free:Int)] w λ e w'=>∃q:XS×List aP×Bool×Rs,e=.returned (.tuple #[])/\zU (lA k (mD k.key m) n) R free N rs x q.1 q.2.1 q.2.2.1 q.2.2.2/\SF w D (xH k bx bm q.1 q.2.2.1 q.2.2.2) [] (aL q.2.1) (xW q.1) w':=by
 have hfr:=hg.hf
 have ok0:(x.re free).Ok:=ok.ve rfl rfl rfl rfl rfl rfl (Nat.zero_le _) (Nat.zero_le _) (Nat.zero_le _) (Nat.zero_le _) hfr
 refine enter Tryz.func99 Tryz.ntmps99 rfl rfl (cD hs) ?_
 simp only[cA]
 refine jJ ?_;refine pV ?_;refine pV ?_;refine aA ?_;refine Lg ?_;refine bY (by exact gV λ _=>fA rf cY wn rf fZ rf rf jI) (λ _=>?_);refine Lg ?_;refine bY (by exact gV λ _=>fA rf cY wn rf fZ rf rf jI) (λ _=>?_);refine Lg ?_;refine bY (by exact gV λ _=>fA rf cY wn rf fZ rf rf jI) (λ _=>?_);refine Lg ?_;refine bY (by exact gV λ _=>fA rf cY wn rf fZ rf rf jI) (λ _=>?_);refine Lg ?_;refine bY (by exact gV λ _=>fA rf cY wn rf fZ rf rf jI) (λ _=>?_);refine Lg ?_;refine bY (by exact gV λ _=>fA rf cY wn rf fZ rf rf jI) (λ _=>?_);refine aG ?_;refine J2 ?_;refine aD (cM (hs:=xH k bx bm (x.re free) false rs) (os:=xW (x.re free)) (A0:=aL x.L) (hA:=bB.of λ f hf=>.inr (.inl (hA f hf))) (hc:=λ w hs=>aBd hg (x:=x.re free) n hk hn hm em ht ha hb hnn (λ f hf=>hf) (aAW hwk hN) ok0 hs)) (λ x25 h25=>?_);refine aJ (λ x4=>?_);refine bY (by exact(gV λ _=>aZ rf cY rf rf eF rf jI)) (λ _=>?_);refine aG ?_;refine mA ?_;refine pE ?_
 refine bD (λ c30=>?_) (λ c30=>?_)
 ·refine eG [(0,[]),(1,[]),(2,[]),(3,[]),(4,[]),(5,[2]),(6,[]),(7,[]),(8,[])] ?_;refine iF ?_;refine bO ?_;refine J4 ?_;refine lI (i:=5) (hq:=(by exact gV λ _=>fA rf cY wn rf fZ rf rf jI)) (h:=λ _=>?_);refine J4 ?_;refine lI (i:=8) (hq:=(gV λ _=>lY (off:=41) (vs:=x25.1.cells) rf cY rf rfl eF (Nat.le_of_ble_eq_true rfl) rf jI)) (h:=λ _=>?_);refine eU ?_
  refine Eg Tryz.results99 (λ w hw=>?_)
  first
  | exact⟨(x25.2.1,x25.2.2,true,x25.1),rfl,h25.w8 (by simpa using c30),by rw[List.append_nil] at hw;exact hw.aX (hF:=by exact aV.all)⟩
  | exact⟨(x25.2.1,x25.2.2,false,rs),rfl,h25.wi (by simpa using c30),by rw[List.append_nil] at hw;exact hw.aX (hF:=by exact aV.all)⟩
 ·refine aW ?_
  refine Eg Tryz.results99 (λ w hw=>?_)
  first
  | exact⟨(x25.2.1,x25.2.2,true,x25.1),rfl,h25.w8 (by simpa using c30),by rw[List.append_nil] at hw;exact hw.aX (hF:=by exact aV.all)⟩
  | exact⟨(x25.2.1,x25.2.2,false,rs),rfl,h25.wi (by simpa using c30),by rw[List.append_nil] at hw;exact hw.aX (hF:=by exact aV.all)⟩
end
end

/- Executions of the reference: steps. -/
end Go.Proofs.YtbajmaoegmbfgaaGreat
namespace Go.Ct
section
open Go Go.RowKit
theorem Qt{R:Tr}{a:Ac}(h:R.acc=some a){n c:Nat}(ht:bS R n c)(hn:1<=n):bS R n 64:=by
 cases R<;>simp only[Tr.acc,reduceCtorEq] at h
 ·cases n with
  | zero=>omega
  | succ n=>simpa only[bS] using ht
 ·cases n with
  | zero=>omega
  | succ n=>simpa only[bS] using ht
structure n7(T:Tr)(x:XS)(dn:Bool)(rs:Rs)(R:Tr):Prop where
 ok:x.Ok
 wk:Wk x.nodes T x.got x.made x.cel x.gns R
 nu:(dn=true/\R=.done rs)∨(dn=false/\R.acc=some x.nx)
theorem zU.exI{T R:Tr}{free N:Nat}{rs rs':Rs}{x x':XS}{N':List aP}{dn':Bool}(h:zU T R free N rs x x' N' dn' rs'):∃R' j,j<=free/\(dn'=false->j=free)/\n7 T x' dn' rs' R'/\Rc j R x.mm R' x'.mm/\x'.L=x.L++N'/\x.cs.length<=x'.cs.length:=by
 rcases h.nu with⟨e,j,h1,_,h2,h3⟩|⟨e,_,_,R',h1,h2,h3⟩
 ·exact⟨_,j,h1,(λ h=>by rw[e] at h;cases h),⟨h.ok,h2,.inl ⟨e,rfl⟩⟩,h3,h.ext,h.lc⟩
 ·exact⟨R',free,Nat.le_refl _,λ _=>rfl,⟨h.ok,h2,.inr ⟨e,h1⟩⟩,h3,h.ext,h.lc⟩
end
end Go.Ct
namespace Go.Proofs.YtbajmaoegmbfgaaGreat
section
open Go Go.RowKit Go.Ct
section
variable{k:Cl}{bx bm:Nat}{x:XS}{dn:Bool}{rs:Rs}{D:List Nat}{A:Fr}{w:World}
theorem b9(hs:SF w D (xH k bx bm x dn rs) A [] (xW x) w):Calls Tryz.prog 69 #[.pointer (some ⟨bx,0,none⟩)] w λ e w'=>∃q:Unit,e=.returned (.bool dn)/\True/\SF w D (xH k bx bm x dn rs) [] [] (xW x) w':=by
 refine enter Tryz.func69 Tryz.ntmps69 rfl rfl (cD hs) ?_
 simp only[cA]
 refine cS ?_;refine mA ?_;refine J1 ?_
 refine aQ Tryz.results69 (λ w hw=>?_)
 exact⟨(),rfl,trivial,hw.aX⟩
theorem il(hs:SF w D (xH k bx bm x dn rs) A [] (xW x) w):Calls Tryz.prog 135 #[.pointer (some ⟨bx,0,none⟩)] w λ e w'=>∃q:Unit,e=.returned (.agg ⟨rs.cells⟩)/\True/\SF w D (xH k bx bm x dn rs) [] [] (xW x) w':=by
 refine enter Tryz.func135 Tryz.ntmps135 rfl rfl (cD hs) ?_
 simp only[cA]
 refine J0 ?_;refine aJ (λ x2=>?_);refine aG ?_;refine I1 ?_;refine aC (aR (k:=8) (vs:=rs.cells) rf cY eF rfl rfl) rfl ?_;refine J5 ?_
 refine aY Tryz.results135 (λ w hw=>?_)
 exact⟨(),rfl,trivial,hw.aX⟩
theorem cj{m n N:Nat}{R:Tr}(hT:bS (lA k (mD k.key m) n) N 64)(hN:N<=1073741824)(hgN:x.got.length+1=N)(hsz:x.L.length<=137438953472/\x.cs.length<=137438953472/\x.gen<=137438953472)(hi:n7 (lA k (mD k.key m) n) x dn rs R)(hk:Zu k)(hn:n<=1073741824)(hm:m<18446744073709551616)(em:k.mask=(m:Int))(ht:k.t.root<=9223372036854775807)(ha:k.a<=x.L.length)(hb:k.b<=x.L.length)(hnn:k.n<=x.L.length)(hA:∀f∈aL x.L,f∈A)(hs:SF w D (xH k bx bm x dn rs) A [] (xW x) w):Calls Tryz.prog 68 #[.pointer (some ⟨bx,0,none⟩)] w λ e w'=>∃q:XS×List aP×Bool×Rs,e=.returned (.tuple #[])/\((dn=true/\q=(x,[],true,rs))∨(dn=false/\zU (lA k (mD k.key m) n) R 1 N rs x q.1 q.2.1 q.2.2.1 q.2.2.2))/\SF w D (xH k bx bm q.1 q.2.2.1 q.2.2.2) [] (aL q.2.1) (xW q.1) w':=by
 have hg:dn=false->Gx.Ok ⟨lA k (mD k.key m) n,R,x.mm,1,N⟩:=λ e=>by
  rcases hi.nu with⟨e2,_⟩|⟨_,e2⟩
  ·rw[e] at e2;cases e2
  ·obtain⟨c,h1,_,_⟩:=hi.wk.wB (Nat.le_refl 64) hT (by omega)
   refine⟨hT,⟨N-x.got.length,by show 1<=N-x.got.length;omega,Qt e2 h1 (by omega)⟩,hN,Nat.le_refl 1,?_⟩
   show(x.L.map aP.c).length<=_/\_
   rw[List.length_map]
   exact hsz
 refine enter Tryz.func68 Tryz.ntmps68 rfl rfl (cD hs) ?_
 simp only[cA]
 refine mA ?_;refine pE ?_
 refine bD (λ c6=>?_) (λ c6=>?_)
 ·have ed:dn=false:=by simpa using c6
  subst ed
  refine Aa ?_;refine aD (cM (hs:=xH k bx bm x false rs) (os:=xW x) (A0:=aL x.L) (hA:=bB.of λ f hf=>.inr (.inl (hA f hf))) (hc:=λ w hs=>P8 (N:=N) (n:=n) (m:=m) 1 (hg rfl) hi.wk hgN hk hn hm em ht ha hb hnn (λ f hf=>hf) hi.ok hs)) (λ x8 h8=>?_);refine aG ?_
  refine Eg Tryz.results68 (λ w hw=>?_)
  first
  | exact⟨x8,rfl,.inr ⟨rfl,h8⟩,by rw[List.append_nil] at hw;exact hw.aX (hF:=by exact aV.all)⟩
  | exact⟨(x,[],true,rs),rfl,.inl ⟨by simpa using c6,rfl⟩,by rw[show dn=true from by simpa using c6] at hw;exact hw.aX (hF:=by exact aV.nil)⟩
 ·refine aW ?_
  refine Eg Tryz.results68 (λ w hw=>?_)
  first
  | exact⟨(x,[],true,rs),rfl,.inl ⟨by simpa using c6,rfl⟩,by rw[show dn=true from by simpa using c6] at hw;exact hw.aX (hF:=by exact aV.nil)⟩
end
end

/- Executions of the reference: the start. -/
end Go.Proofs.YtbajmaoegmbfgaaGreat
namespace Go.Ct
section
open Go Go.RowKit
def XS.new(L:List aP)(cs:List Int)(gen acc:Int)(pn:Option Addr)(cn:Nat)(pc:Option Addr)(cc:Nat):XS:=⟨L,cs,gen,acc,pn,cn,pc,cc,[],[],[],[],none,0,none,0,none,0,none,0,0,0,0,0,0,false,Ac.zero⟩
end
end Go.Ct
namespace Go.Proofs.YtbajmaoegmbfgaaGreat
section
open Go Go.RowKit Go.Ct
section
variable{k:Cl}{bm:Nat}{L:List aP}{cs:List Int}{gen acc:Int}{pn pc:Option Addr}{cn cc:Nat}{D:List Nat}{A:Fr}{w:World}
theorem q9{m n N:Nat}(hT:bS (lA k (mD k.key m) n) N 64)(hN:N<=1073741824)(hsz:L.length<=137438953472/\cs.length<=137438953472/\gen<=137438953472)(hk:Zu k)(hn:n<=1073741824)(hm:m<18446744073709551616)(em:k.mask=(m:Int))(ht:k.t.root<=9223372036854775807)(ha:k.a<=L.length)(hb:k.b<=L.length)(hnn:k.n<=L.length)(hA:∀f∈aL L,f∈A)(ok:(XS.new L cs gen acc pn cn pc cc).Ok)(hs:SF w D [(bm,mO L cs gen acc pn cn pc cc)] A [] [⟨pn,iO L,cn,47,14⟩,⟨pc,aH cs,cc,37,1⟩] w)(hN0:N=0:=by rfl):Calls Tryz.prog 49 #[.pointer (some ⟨bm,0,none⟩),.agg ⟨Rz k⟩] w λ e w'=>∃q:Nat×XS×List aP×Bool×Rs,e=.returned (.pointer (some ⟨q.1,0,none⟩))/\zU (lA k (mD k.key m) n) (lA k (mD k.key m) n) 0 N Rs.zero (XS.new L cs gen acc pn cn pc cc) q.2.1 q.2.2.1 q.2.2.2.1 q.2.2.2.2/\SF w D (xH k q.1 bm q.2.1 q.2.2.2.1 q.2.2.2.2) [] (aL q.2.2.1) (xW q.2.1) w':=by
 have hg:Gx.Ok ⟨lA k (mD k.key m) n,lA k (mD k.key m) n,(XS.new L cs gen acc pn cn pc cc).mm,0,N⟩:=⟨hT,⟨N,Nat.zero_le _,hT⟩,hN,Nat.zero_le _,by
  show(L.map aP.c).length<=_/\_
  rw[List.length_map]
  exact hsz⟩
 refine enter Tryz.func49 Tryz.ntmps49 rfl rfl ((((hs.kU 3 1).kU 27 1).kU 37 1).kU 37 1) ?_
 simp only[cA]
 refine J0 ?_;refine bK (λ x3=>?_);refine Ka4 ?_;refine aC (aR (k:=25) (vs:=Rz k) rf cY eF rfl rfl) rfl ?_;refine bI ?_;refine bK (λ x9=>?_);refine Ka4 ?_;refine aD (cM (hs:=xH k x9 bm (XS.new L cs gen acc pn cn pc cc) false Rs.zero) (os:=xW (XS.new L cs gen acc pn cn pc cc)) (A0:=aL L) (hA:=bB.of λ f hf=>.inr (.inl (hA f hf))) (hc:=λ w hs=>P8 (N:=N) (n:=n) (m:=m) 0 hg (Wk.nil _) hN0.symm hk hn hm em ht ha hb hnn (λ f hf=>hf) ok hs)) (λ x11 h11=>?_);refine aG ?_;refine Ka5 ?_
 refine aQ Tryz.results49 (λ w hw=>?_)
 exact⟨(x9,x11.1,x11.2.1,x11.2.2.1,x11.2.2.2),rfl,h11,by rw[List.append_nil] at hw;exact hw.aX (hF:=by exact aV.all)⟩
end
end

/- The trees are never stuck within as many accesses as they have fuel: single procedures. -/
section
open Go Go.RowKit Go.Ct
theorem aAB:∀{t:Tr} {n c c':Nat},c<=c'->bS t n c->bS t n c':=by
 intro t
 induction t with
 | done r=>intros;simp[bS]
 | stuck=>intro n c c' _ h;simp[bS] at h
 | load r k ih =>
  intro n c c' _ h
  cases n with
  | zero=>simp[bS]
  | succ n=>simpa only[bS] using h
 | hY r o m k ih =>
  intro n c c' _ h
  cases n with
  | zero=>simp[bS]
  | succ n=>simpa only[bS] using h
 | alloc r o k ih =>
  intro n c c' hc h
  cases c with
  | zero=>simp[bS] at h
  | succ c =>
   cases c' with
   | zero=>omega
   | succ c'=>simp only[bS] at h ⊢;exact λ v=>ih v (by omega) (h v)
 | cell r k ih =>
  intro n c c' hc h
  cases c with
  | zero=>simp[bS] at h
  | succ c =>
   cases c' with
   | zero=>omega
   | succ c'=>simp only[bS] at h ⊢;exact λ v=>ih v (by omega) (h v)
 | gen k ih =>
  intro n c c' hc h
  cases c with
  | zero=>simp[bS] at h
  | succ c =>
   cases c' with
   | zero=>omega
   | succ c'=>simp only[bS] at h ⊢;exact λ v=>ih v (by omega) (h v)
 | node r k ih =>
  intro n c c' hc h
  cases c<;>cases c'<;>simp only[bS] at h ⊢ <;> exact λ v=>ih v (by omega) (h v)
section
variable{n c:Nat}
theorem qM{a:Int}{k:Int->Tr}(h:∀n',n'<n->∀v,bS (k v) n' 64):bS (.load a k) n c:=by
 cases n with
 | zero=>simp[bS]
 | succ n=>simp only[bS];exact h n (Nat.lt_succ_self n)
theorem D5{a o m:Int}{k:Bool->Tr}(h:∀n',n'<n->∀v,bS (k v) n' 64):bS (.hY a o m k) n c:=by
 cases n with
 | zero=>simp[bS]
 | succ n=>simp only[bS];exact h n (Nat.lt_succ_self n)
theorem Nm{a:Nv}{i:Int}{k:Int->Tr}(h:∀v,bS (k v) n c):bS (.alloc a i k) n (c+1):=by simp only[bS];exact h
theorem yu{i:Int}{k:Int->Tr}(h:∀v,bS (k v) n c):bS (.cell i k) n (c+1):=by simp only[bS];exact h
theorem aBC{k:Int->Tr}(h:∀v,bS (k v) n c):bS (.gen k) n (c+1):=by simp only[bS];exact h
theorem cR{r:Int}{k:Nv->Tr}(h:∀v,bS (k v) n c):bS (.node r k) n c:=by
 cases c<;>simp only[bS]<;>exact h
abbrev I3{X:Type}(K:X->Tr)(n:Nat):Prop:=∀n',n'<n->∀v,bS (K v) n' 64
theorem I3.lt{X:Type}{K:X->Tr}{m:Nat}(h:I3 K n)(hm:m<=n):I3 K m:=λ n' h' v=>h n' (by omega) v
theorem mx{v s:Int}{K:Int->Tr}(h:∀w,bS (K w) n c):bS (xi v s K) n c:=cR λ _=>h _
theorem wX{t:eQ}{v s:Int}{K:Int->Tr}(h:I3 K n):bS (iE t v s K) n c:=mx λ _=>D5 λ n' hn _=>h n' hn _
theorem Yu{t:eQ}{K:Int->Tr}(h:I3 K n):bS (yW t K) n c:=qM λ n1 h1 v=>cR λ nv=>by
 split
 ·exact h n1 h1 v
 ·exact cR λ _=>qM λ n2 h2 s=>by
   split
   ·exact cR λ _=>D5 λ n3 h3 _=>cR λ _=>qM λ n4 h4 _=>wX (h.lt (by omega))
   ·exact wX (h.lt (by omega))
theorem Rg{i m p:Int}{K:Int->Tr}(h:I3 K n):bS (Bb i m p K) n c:=cR λ _=>cR λ _=>D5 λ n' hn _=>cR λ _=>h n' hn _
theorem A3{i m:Int}{K:Int->Tr}(h:I3 K n):bS (iK i m K) n c:=cR λ _=>qM λ n1 h1 p=>by
 split
 ·exact h n1 h1 _
 ·exact Rg (h.lt (by omega))
theorem Ku{i m p:Int}{b:Bool}{K:Int->Tr}(h:I3 K n)(hc:1<=c):bS (jK i m p b K) n c:=by
 unfold jK
 split
 ·exact cR λ _=>D5 λ n1 h1 _=>A3 (h.lt (by omega))
 ·obtain⟨c,rfl⟩:∃d,c=d+1:=⟨c-1,by omega⟩
  exact cR λ _=>Nm λ _=>D5 λ n1 h1 _=>A3 (h.lt (by omega))
theorem D3{t:eQ}{i m:Int}{K:Int->Tr}(h:I3 K n):bS (mI t i m K) n c:=cR λ _=>qM λ n1 h1 p=>by
 split
 ·exact h n1 h1 _
 ·refine cR λ _=>?_
  split
  ·split
   ·exact Ku (h.lt (by omega)) (by decide)
   ·exact Yu λ n2 h2 _=>cR λ _=>cR λ _=>Ku (h.lt (by omega)) (by decide)
  ·exact Rg (h.lt (by omega))
theorem iG{t:eQ}{i:Int}{K:Int->Tr}(h:I3 K n):bS (lR t i K) n c:=cR λ _=>qM λ n1 h1 _=>D3 (h.lt (by omega))
theorem Di{t:eQ}{v:Int}{K:Tr}(h:∀n',n'<n->bS K n' 64):bS (lG t v K) n c:=cR λ _=>iG λ n1 h1 _=>cR λ _=>cR λ _=>D5 λ n2 h2 _=>h n2 (by omega)
theorem pS{t:eQ}{K:Int->Tr}(h:I3 K n):bS (mL t K) n c:=qM λ n1 h1 v=>cR λ nv=>by
 split
 ·exact h n1 h1 v
 ·exact cR λ _=>qM λ n2 h2 s=>by
   split
   ·exact Di λ n3 h3=>cR λ _=>qM λ n4 h4 _=>wX (h.lt (by omega))
   ·exact wX (h.lt (by omega))
theorem kK{t:eQ}{i o m:Int}{K:Bool->Tr}(h:I3 K n):bS (oS t i o m K) n c:=cR λ _=>D5 λ n1 h1 b=>by
 split
 ·exact D3 λ n2 h2 _=>h n2 (by omega) _
 ·exact h n1 h1 _
theorem Ad{t:eQ}{o e m:Int}{K:Bool->Tr}(h:I3 K n)(hc:1<=c):bS (lP t o e m K) n c:=by
 obtain⟨c,rfl⟩:∃d,c=d+1:=⟨c-1,by omega⟩
 exact Nm λ _=>D5 λ n1 h1 b=>by
  split
  ·exact Di λ n2 h2=>cR λ _=>qM λ n3 h3 _=>wX λ n4 h4 _=>h n4 (by omega) _
  ·exact h n1 h1 _
end
end

/- The trees are never stuck within as many accesses as they have fuel: calls. -/
section
open Go Go.RowKit Go.Ct
section
variable{n c:Nat}
theorem fU{a:Nv}{i:Int}{k:Int->Tr}(hc:1<=c)(h:∀v,bS (k v) n (c-1)):bS (.alloc a i k) n c:=by
 obtain⟨c,rfl⟩:∃d,c=d+1:=⟨c-1,by omega⟩
 exact Nm h
theorem B4{a i r:Int}{K:Int->Tr}(hc:1<=c)(h:∀v,bS (K v) n (c-1)):bS (G8 a i r K) n c:=cR λ _=>fU hc h
theorem Uj{t:eQ}{i o x:Int}{K:Int->Tr}(h:I3 K n):bS (My t i o x K) n c:=cR λ _=>iG λ n1 h1 _=>cR λ _=>fU (by decide) λ _=>B4 (by decide) λ _=>kK λ n2 h2 _=>h n2 (by omega) _
theorem zM{t:eQ}{p o:Int}{h0:Nat}{l:Int}{K:Bool->Tr}(h:I3 K n):bS (zR t p o h0 l K) n c:=iG λ n1 h1 _=>cR λ _=>by
 split
 ·exact iG λ n2 h2 _=>cR λ _=>by
   split
   ·exact fU (by decide) λ _=>cR λ _=>fU (by decide) λ _=>kK λ n3 h3 _=>h n3 (by omega) _
   ·exact h n2 (by omega) _
 ·exact h n1 h1 _
theorem Jr{t:eQ}{h0:Nat}{key:ByteArray}{K:Rs->Tr}:∀(q n c:Nat) (i level:Int),n<q->I3 K n->bS (Dz t h0 key K q i level) n c
 | 0,n,c,i,level,hq,_=>absurd hq (Nat.not_lt_zero n)
 | q+1,n,c,i,level,hq,h=>iG λ n1 h1 _=>cR λ _=>by
  split
  ·split<;>exact h n1 h1 _
  ·split
   ·exact h n1 h1 _
   ·split
    ·exact h n1 h1 _
    ·exact cR λ _=>by
      split
      ·split<;>exact h n1 h1 _
      ·exact Jr q n1 64 _ _ (by omega) (h.lt (by omega))
theorem O5:∀(l:List NI) (r:Int) (K:Int->Tr) (n c:Nat),l.length<=c->(∀v,bS (K v) n (c-l.length))->bS (A5 l r K) n c
 | [],r,K,n,c,_,h=>h r
 | a::l,r,K,n,c,hc,h=>by
  have hc':l.length+1<=c:=by simpa using hc
  exact fU (by omega) λ v=>O5 l v K n (c-1) (by omega) (λ u=>by have:=h u;rw[List.length_cons] at this;rwa [show c-1-l.length=c-(l.length+1) by omega])
theorem Ze{k:Cl}{b:Int}{h0 level:Nat}{gen:Int}{K:Int->Tr}(hc:32<=c)(h:∀v,bS (K v) n (c-32)):bS (U6 k b h0 level gen K) n c:=cR λ nb=>fU (by omega) λ f=>by
 have hl:(dP b nb.hash.toNat h0 (nb.key,nb.val) k.key k.val gen f.toNat level).tail.length<=31:=by
  have h1:=Ts (x:=b) (h0:=nb.hash.toNat) (h:=h0) (p0:=(nb.key,nb.val)) (k:=k.key) (u:=k.val) (gen:=gen) (f:=f.toNat) (lC nb.hash.toNat h0-level) (lC nb.hash.toNat h0-(lC nb.hash.toNat h0-level))
  have h2:=zT nb.hash.toNat h0
  rw[List.length_tail]
  unfold dP
  omega
 exact O5 _ _ _ _ _ (by omega) λ v=>aAB (by omega) (h v)
theorem Lh{k:Cl}{i m:Int}{h0 level:Nat}{gen:Int}{K:Rs->Int->Tr}(h:∀n',n'<=n->∀r w,bS (K r w) n' 64):bS (mR k i m h0 level gen K) n 64:=cR λ nb=>by
 split
 ·split
  ·exact fU (by decide) λ _=>kK λ n1 h1 _=>h n1 (by omega) _ _
  ·exact h n (Nat.le_refl n) _ _
 ·split
  ·split
   ·exact fU (by decide) λ _=>fU (by decide) λ _=>kK λ n1 h1 _=>h n1 (by omega) _ _
   ·exact h n (Nat.le_refl n) _ _
  ·refine cR λ _=>?_
   split
   ·exact h n (Nat.le_refl n) _ _
   ·split
    ·split
     ·exact fU (by decide) λ _=>B4 (by decide) λ _=>kK λ n1 h1 _=>h n1 (by omega) _ _
     ·exact h n (Nat.le_refl n) _ _
    ·split
     ·exact Ze (by decide) λ _=>fU (by decide) λ _=>B4 (by decide) λ _=>kK λ n1 h1 _=>h n1 (by omega) _ _
     ·exact h n (Nat.le_refl n) _ _
theorem Fe{k:Cl}{i m x gen:Int}{K:Int->Tr}(h:∀n',n'<=n->∀v,bS (K v) n' 64):bS (Gj k i m x gen K) n 64:=cR λ _=>cR λ _=>by
 split
 ·exact h n (Nat.le_refl n) _
 ·exact Uj λ n1 h1 _=>h n1 (by omega) _
theorem Hh{k:Cl}{h0:Nat}{K:Rs->Tr}{again:Tr}{gen:Int}:∀(q n c:Nat) (i parent:Int) (level:Nat),n<q->I3 K n->(∀n',n'<n->bS again n' 64)->bS (Dj k h0 K again gen q i parent level) n c
 | 0,n,c,i,p,level,hq,_,_=>absurd hq (Nat.not_lt_zero n)
 | q+1,n,c,i,p,level,hq,h,ha=>iG λ n1 h1 _=>cR λ _=>by
  split
  ·exact zM λ n2 h2 _=>ha n2 (by omega)
  ·refine Lh λ n2 h2 r w=>?_
   split
   ·exact h n2 (by omega) _
   ·split
    ·exact ha n2 (by omega)
    ·refine Fe λ n3 h3 v=>?_
     split
     ·exact ha n3 (by omega)
     ·exact Hh q n3 64 _ _ _ (by omega) (h.lt (by omega)) (λ n4 h4=>ha n4 (by omega))
theorem Rl{k:Cl}{h0:Nat}{K:Rs->Tr}:∀(q n c:Nat),n<q->I3 K n->bS (G5 k h0 K q) n c
 | 0,n,c,hq,_=>absurd hq (Nat.not_lt_zero n)
 | q+1,n,c,hq,h=>pS λ n1 h1 _=>cR λ _=>Hh q n1 64 _ _ _ (by omega) (h.lt (by omega)) (λ n2 h2=>Rl q n2 64 (by omega) (h.lt (by omega)))
theorem Iz{k:Cl}{i m:Int}{h0 level:Nat}{K:Rs->Int->Tr}(h:∀n',n'<=n->∀r w,bS (K r w) n' 64):bS (kM k i m h0 level K) n 64:=cR λ nb=>by
 split
 ·split
  ·exact h n (Nat.le_refl n) _ _
  ·exact fU (by decide) λ _=>kK λ n1 h1 _=>h n1 (by omega) _ _
 ·split
  ·exact h n (Nat.le_refl n) _ _
  ·refine cR λ _=>?_
   split
   ·exact h n (Nat.le_refl n) _ _
   ·split
    ·exact h n (Nat.le_refl n) _ _
    ·split
     ·exact h n (Nat.le_refl n) _ _
     ·exact cR λ _=>fU (by decide) λ _=>kK λ n1 h1 _=>h n1 (by omega) _ _
theorem Vg{t:eQ}{path:List Int}{h0:Nat}{K:Tr}:∀(l n:Nat),(∀n',n'<=n->bS K n' 64)->bS (vq t path h0 K l) n 64
 | 0,n,h=>h n (Nat.le_refl n)
 | l+1,n,h=>iG λ n1 h1 _=>cR λ _=>by
  split
  ·exact zM λ n2 h2 _=>Vg l n2 (λ n3 h3=>h n3 (by omega))
  ·exact h n1 (by omega)
theorem Dt{k:Cl}{h0:Nat}{K:Rs->Tr}{again:Tr}{gen:Int}:∀(q n c:Nat) (i:Int) (path:List Int) (level:Nat),n<q->I3 K n->(∀n',n'<n->bS again n' 64)->bS (wI k h0 K again gen q i path level) n c
 | 0,n,c,i,p,level,hq,_,_=>absurd hq (Nat.not_lt_zero n)
 | q+1,n,c,i,p,level,hq,h,ha=>iG λ n1 h1 _=>cR λ _=>by
  split
  ·exact zM λ n2 h2 _=>ha n2 (by omega)
  ·refine Iz λ n2 h2 r w=>?_
   split
   ·split
    ·exact Vg _ _ λ n3 h3=>h n3 (by omega) _
    ·exact h n2 (by omega) _
   ·split
    ·exact ha n2 (by omega)
    ·refine Fe λ n3 h3 v=>?_
     split
     ·exact ha n3 (by omega)
     ·exact Dt q n3 64 _ _ _ (by omega) (h.lt (by omega)) (λ n4 h4=>ha n4 (by omega))
theorem Km{k:Cl}{h0:Nat}{K:Rs->Tr}:∀(q n c:Nat),n<q->I3 K n->bS (xD k h0 K q) n c
 | 0,n,c,hq,_=>absurd hq (Nat.not_lt_zero n)
 | q+1,n,c,hq,h=>pS λ n1 h1 _=>cR λ _=>Dt q n1 64 _ _ _ (by omega) (h.lt (by omega)) (λ n2 h2=>Km q n2 64 (by omega) (h.lt (by omega)))
theorem Nb{i:Int}{k:Int->Tr}(hc:1<=c)(h:∀v,bS (k v) n (c-1)):bS (.cell i k) n c:=by
 obtain⟨c,rfl⟩:∃d,c=d+1:=⟨c-1,by omega⟩
 exact yu h
theorem Ub{k:Int->Tr}(hc:1<=c)(h:∀v,bS (k v) n (c-1)):bS (.gen k) n c:=by
 obtain⟨c,rfl⟩:∃d,c=d+1:=⟨c-1,by omega⟩
 exact aBC h
theorem kN{r:Rs}:bS (.done r) n c:=by simp[bS]
theorem Ju{m:Int}:bS (Qw m .done) n 64:=Ub (by decide) λ _=>fU (by decide) λ _=>Nb (by decide) λ _=>kN
theorem K0{t:eQ}{fz:Bool}:∀(q n c:Nat),n<q->bS (Jn t fz .done q) n c
 | 0,n,c,hq=>absurd hq (Nat.not_lt_zero n)
 | q+1,n,c,hq=>pS λ n1 h1 _=>iG λ n2 h2 _=>Ub (by decide) λ _=>fU (by decide) λ _=>Ad (λ n3 h3 b=>by
  split
  ·split
   ·exact Nb (by decide) λ _=>kN
   ·exact Ju
  ·exact K0 q n3 64 (by omega)) (by decide)
theorem Fl{t:eQ}{fz:Bool}{q:Nat}(h:n<q):bS (tI t fz .done q) n c:=by
 unfold tI
 split
 ·exact qM λ n1 h1 _=>by
   split
   ·exact Nb (by decide) λ _=>kN
   ·exact iG λ n2 h2 _=>Ju
 ·exact K0 q n c h
theorem Fi{t:eQ}:∀(q n c:Nat),n<q->bS (zW t .done q) n c
 | 0,n,c,hq=>absurd hq (Nat.not_lt_zero n)
 | q+1,n,c,hq=>pS λ n1 h1 _=>iG λ n2 h2 _=>fU (by decide) λ _=>Ub (by decide) λ _=>fU (by decide) λ _=>Ad (λ n3 h3 b=>by
  split
  ·exact kN
  ·exact Fi q n3 64 (by omega)) (by decide)
theorem Ka{k:Cl}{h0 q:Nat}(h:n<q):bS (lA k h0 q) n 64:=by
 have hd:∀{X:Type} {K:X->Rs},I3 (λ v=>Tr.done (K v)) n:=λ _ _ _=>kN
 unfold lA
 split
 ·exact kN
 split
 ·exact iG hd
 split
 ·exact kK hd
 split
 ·exact pS hd
 split
 ·exact Ad hd (by decide)
 split
 ·exact pS λ n1 h1 _=>Jr q n1 64 _ _ (by omega) (λ _ _ _=>kN)
 split
 ·exact Rl q n 64 h (λ _ _ _=>kN)
 split
 ·exact Km q n 64 h (λ _ _ _=>kN)
 split
 ·exact Fl h
 split
 ·exact Fl h
 ·exact Fi q n 64 h
end
end

/- Worlds: lists of tries and of executions; the smallest functions. -/
end Go.Proofs.YtbajmaoegmbfgaaGreat
namespace Go.Ct
section
open Go Go.RowKit
section
variable{P:Program}{S:List (Nat×Value)}{d:Nat}{ty t t' e:TypeId}{pos:String}{af:Array Edge}{gd:Option (Nat×Bool)}{x y:Operand}{w0 w:World}{M:List Nat}{H:List (Nat×Obj)}{A F:Fr}{O:List Ow}{a:Option Addr}
theorem vv{cs:List Value}{kk:IntKind}{m c k:Nat}(hx:ev S x=.slice a m c)(hy:ev S y=.int kk ((k:Nat):Int))(ht:P.underlying t=some (.slice e))(hs:one P e=true)(hf:qT A F O a cs)(h1:k<m)(h2:k<cs.length) :
  aM P S (SF w0 M H A F O) ⟨some d,.indexAddr t x y,ty,pos,af,gd⟩ (.pointer (some ⟨cU a,eJ a+k,none⟩)):=⟨λ w hw =>
 (A7 (G:=SF w0 M H A F O) hx hy ht hs ((hw.cl hf).ptr (by omega)) h1).run w hw⟩
theorem w4{cs:List Value}{q:Nat}{v:Value}(hx:ev S x=.pointer (some ⟨cU a,eJ a+q,none⟩))(ht:one P t=true)(hf:qT A F O a cs)(hq:cs[q]?=some v) :
  aM P S (SF w0 M H A F O) ⟨some d,.load t x,ty,pos,af,gd⟩ v:=oA hx ht (λ w hw=>hw.cl hf) hq
theorem Ou{cs:List Value}{kk:IntKind}{m c k:Nat}(hx:ev S x=.slice a m c)(hy:ev S y=.int kk ((k:Nat):Int))(ht:P.underlying t=some (.slice e))(hs:kH P e 2=true)(hf:qT A F O a cs)(h1:k<m)(h2:2*k<cs.length) :
  aM P S (SF w0 M H A F O) ⟨some d,.indexAddr t x y,ty,pos,af,gd⟩ (.pointer (some ⟨cU a,eJ a+2*k,none⟩)):=⟨λ w hw =>
 (Pv (G:=SF w0 M H A F O) hx hy ht hs ((hw.cl hf).ptr (by omega)) h1).run w hw⟩
end
end
end Go.Ct
namespace Go.Proofs.YtbajmaoegmbfgaaGreat
section
open Go Go.RowKit Go.Ct
def tP(ts:List eQ):List Value:=ts.flatMap λ t=>[.int .i64 t.root,.bool t.ro]
def Az(es:List Nat):List Value:=es.map λ b=>.pointer (some ⟨b,0,none⟩)
theorem lN:∀ts:List eQ,(tP ts).length=ts.length*2
 | []=>rfl
 | t::ts=>by
  have:=lN ts
  simp only[tP,List.flatMap_cons,List.length_append,List.length_cons,List.length_nil] at this ⊢
  omega
theorem kh(ts:List eQ)(t:eQ):tP (ts++[t])=tP ts++[.int .i64 t.root,.bool t.ro]:=by simp[tP]
theorem aj(es:List Nat)(b:Nat):Az (es++[b])=Az es++[.pointer (some ⟨b,0,none⟩)]:=by simp[Az]
theorem H2(es:List Nat):(Az es).length=es.length:=by simp[Az]
theorem Gh:dM Tryz.prog 32 29 [.int .i64 0,.bool false]:=mP (z:=.agg ⟨[.int .i64 0,.bool false]⟩) (by kernel_rfl) (by kernel_rfl) rfl
theorem P2:dM Tryz.prog 33 74 [.pointer none]:=mP (z:=.pointer none) (by kernel_rfl) (by kernel_rfl) rfl
theorem te:dM Tryz.prog 169 31 [.int .u64 0]:=mP (z:=.int .u64 0) (by kernel_rfl) (by kernel_rfl) rfl
abbrev pC(bm:Nat)(mask:Int)(pt:Option Addr)(nt kt:Nat)(pe:Option Addr)(ne ke:Nat):Obj:=.cells ⟨[.pointer (some ⟨bm,0,none⟩),.int .u64 mask,.slice pt nt kt,.slice pe ne ke]⟩ 35 (0,0)
def Bd:List Int:=[18446744073709551615,0,1,64,63,4095,9223372036854775808,4032,3458764513820540928,18446744073709551615]
theorem zb{l:List Int}{a:Option Addr}{b c k:Nat}{w:World}(ht:ou w b a l c k) :
  Calls Tryz.prog 65 #[.pointer (some ⟨b,0,none⟩)] w λ e w' =>
  ∃v:Nat,e=.returned (.int .u64 (Bd.getD v 0))/\v<10/\SF w [b] ((b,Ov a l c (oC l k))::[]) [] [] [] w':=by
 refine enter Tryz.func65 Tryz.ntmps65 rfl rfl ht.start ?_
 simp only[cA]
 refine cS ?_;refine J0 ?_;refine aN ((by exact Md (λ _=>cW (cs:=Bd.map (Value.int .u64)) te Jo rfl rfl rfl rfl rfl))) (λ x3=>?_);refine aA ?_;refine aD (xI (hc:=λ w1 hw=>eX 10 (hw.tape cY fin ht.len) (by decide) (by decide))) (λ x5 h5=>?_);refine aC (vv (cs:=Bd.map (Value.int .u64)) rf rf gH fZ fin (by omega) (by rw[List.length_map];simp only[Bd,List.length_cons,List.length_nil];omega)) rfl ?_;refine aC (w4 (cs:=Bd.map (Value.int .u64)) (v:=.int .u64 (Bd.getD x5 0)) rf fZ fin (by rw[List.getElem?_map,jN,List.getElem?_eq_getElem (by simp only[Bd,List.length_cons,List.length_nil];omega)];rfl)) rfl ?_;refine J1 ?_
 refine aQ Tryz.results65 (λ w hw=>?_)
 exact⟨x5,rfl,by omega,hw.aX⟩
theorem aAj{l:List Int}{a:Option Addr}{b c k:Nat}{w:World}(ht:ou w b a l c k) :
  Calls Tryz.prog 53 #[.pointer (some ⟨b,0,none⟩)] w λ e w' =>
  ∃v:Bool,e=.returned (.bool v)/\True/\SF w [b] ((b,Ov a l c k)::[]) [] [] [] w':=by
 refine enter Tryz.func53 Tryz.ntmps53 rfl rfl ht.start ?_
 simp only[cA]
 refine Gi ?_;refine gS [0,1,2,3,4,5,6,7,8,9,10] ?_;refine Ek ?_;refine oE ?_;refine Df ?_;refine J7 ?_
 refine aQ Tryz.results53 (λ w hw=>?_)
 exact⟨_,rfl,trivial,hw.aX⟩
end

/- Worlds: Create, keep. -/
section
open Go Go.RowKit Go.Ct
structure KQ where
 ts:List eQ
 es:List Nat
 pt:Option Addr
 kt:Nat
 pe:Option Addr
 ke:Nat
def Uq(dn:Bool)(rs:Rs)(bx:Nat)(ts:List eQ)(es:List Nat)(q:KQ):Prop :=
 (dn=false/\q.es=es++[bx]/\q.ts=ts)∨(dn=true/\q.es=es/\(q.ts=ts∨(0<rs.root/\q.ts.length<=5/\q.ts=ts++[⟨rs.root,rs.ro⟩])))
section
variable{k:Cl}{bw bx bm:Nat}{x:XS}{dn:Bool}{rs:Rs}{D:List Nat}{A:Fr}{w:World}{mask:Int}{ts:List eQ}{es:List Nat}{pt pe:Option Addr}{kt ke:Nat}
abbrev wL(ts:List eQ)(es:List Nat)(pt:Option Addr)(kt:Nat)(pe:Option Addr)(ke:Nat):List Ow:=[⟨pt,tP ts,kt,29,2⟩,⟨pe,Az es,ke,74,1⟩]
theorem aBB(h:SF w D ((bw,pC bm mask pt ts.length kt pe es.length ke)::xH k bx bm x dn rs) A [] (wL ts es pt kt pe ke++xW x) w) :
  SF w D [(bw,.cells ⟨[.pointer (some ⟨bm,0,none⟩),.int .u64 mask,.slice pt ts.length kt,.slice pe es.length ke]⟩ 35 (0,0)),(bx,xO k bm x dn rs),(bm,xM x)] A [] [⟨pt,tP ts,kt,29,2⟩,⟨pe,Az es,ke,74,1⟩,⟨x.pg,aH x.got,x.kg,37,1⟩,⟨x.pm,aH x.made,x.km,37,1⟩,⟨x.pl,aH x.cel,x.kl,27,1⟩,⟨x.pe,aH x.gns,x.ke,3,1⟩,⟨x.pn,iO x.L,x.cn,47,14⟩,⟨x.pc,aH x.cs,x.cc,37,1⟩] w:=h
theorem yv(hts:ts.length<=1000)(hes:es.length<=1000)(hs:SF w D ((bw,pC bm mask pt ts.length kt pe es.length ke)::xH k bx bm x dn rs) A [] (wL ts es pt kt pe ke++xW x) w):Calls Tryz.prog 115 #[.pointer (some ⟨bw,0,none⟩),.pointer (some ⟨bx,0,none⟩)] w λ e w'=>∃q:KQ,e=.returned (.tuple #[])/\Uq dn rs bx ts es q/\SF w D ((bw,pC bm mask q.pt q.ts.length q.kt q.pe q.es.length q.ke)::xH k bx bm x dn rs) [] [] (wL q.ts q.es q.pt q.kt q.pe q.ke++xW x) w':=by
 refine enter Tryz.func115 Tryz.ntmps115 rfl rfl (aBB hs) ?_
 simp only[cA]
 refine J2 ?_;refine aD (cM (hs:=xH k bx bm x dn rs) (os:=xW x) (hc:=λ w hs=>b9 hs)) (λ x6 h6=>?_);refine pE ?_
 refine bD (λ c7=>?_) (λ c7=>?_)
 ·refine Jc ?_;refine dF ?_;refine Kc9 ?_;refine aN ((by exact Md (λ _=>cW (cs:=Az [bx]) P2 Jo rfl rfl rfl rfl rfl))) (λ x14=>?_);(refine aN (bG.eM (fV (sz:=1) (cs:=Az es) rf rf (.tail .head) (by rw[H2];omega) fin rfl rfl P2 rfl (by decide) gH (by omega)) vJ) (λ x15=>?_);try (refine eN (λ h15=>?_)));refine Np ?_
  refine Eg Tryz.results115 (λ w hw=>?_)
  first
  | exact⟨⟨ts,es++[bx],pt,kt,x15.1,x15.2⟩,rfl,.inl ⟨by simpa using c7,rfl,rfl⟩,by dsimp only[wL];rw[aj,show(es++[bx]).length=es.length+1 by simp];exact hw.aX⟩
  | exact⟨⟨ts,es,pt,kt,pe,ke⟩,rfl,.inr ⟨by simpa using c7,rfl,.inl rfl⟩,hw.aX⟩
 ·refine J2 ?_;refine aD (cM (hs:=xH k bx bm x dn rs) (os:=xW x) (hc:=λ w hs=>il hs)) (λ x19 h19=>?_);refine aJ (λ x4=>?_);refine J5 ?_;refine Ka7 ?_;refine J3 ?_;refine Ay ?_;refine aA ?_
  (refine dZ 24 (λ g24=>?_) (λ g24=>?_)<;>refine Ka0 ?_)
  all_goals (refine Kb6 ?_;refine Sb ?_;refine vg ?_;refine aG ?_)
  all_goals
  refine bD (λ c31=>?_) (λ c31=>?_)
  ·try exact nv c31
   all_goals (refine eG [(0,[]),(1,[]),(2,[]),(3,[]),(4,[]),(5,[]),(6,[]),(7,[4]),(8,[]),(9,[]),(10,[]),(11,[])] ?_;refine Xf ?_;refine aU ?_;refine bT (i:=6) (hq:=(aR (k:=2) (vs:=[.int .i64 rs.root,.bool rs.ro]) rf cY eF rfl rfl)) (h:=?_);refine cO (i:=7) (hq:=((by exact Md (λ _=>cW (cs:=tP [⟨rs.root,rs.ro⟩]) Gh Jo rfl rfl rfl rfl rfl)))) (h:=λ x39=>?_);((refine cO (i:=8) (hq:=(bG.eM (fV (sz:=2) (cs:=tP ts) rf rf .head (by rw[lN]) fin rfl rfl Gh rfl (by decide) gH (by omega)) vJ)) (h:=λ x40=>?_);try (refine eI (λ h40=>?_))));refine J88 ?_)
   all_goals
    refine Eg Tryz.results115 (λ w hw=>?_)
    first
    | exact⟨⟨ts++[⟨rs.root,rs.ro⟩],es,x40.1,x40.2,pe,ke⟩,rfl,.inr ⟨by simpa using c7,rfl,.inr ⟨by omega,by show(ts++[(⟨rs.root,rs.ro⟩:eQ)]).length<=5;simp;omega,rfl⟩⟩,by dsimp only[wL];rw[kh,show(ts++[(⟨rs.root,rs.ro⟩:eQ)]).length=ts.length+1 by simp];exact hw.aX⟩
    | exact⟨⟨ts,es,pt,kt,pe,ke⟩,rfl,.inr ⟨by simpa using c7,rfl,.inl rfl⟩,hw.aX⟩
  ·all_goals refine aW ?_
   all_goals
    refine Eg Tryz.results115 (λ w hw=>?_)
    first
    | exact⟨⟨ts,es,pt,kt,pe,ke⟩,rfl,.inr ⟨by simpa using c7,rfl,.inl rfl⟩,hw.aX⟩
theorem ph(hts:ts.length<=1000)(hes:es.length<=1000)(hs:SF w D [(bw,pC bm mask pt ts.length kt pe es.length ke),(bx,xO k bm x dn rs),(bm,xM x)] A [] [⟨pt,tP ts,kt,29,2⟩,⟨pe,Az es,ke,74,1⟩,⟨x.pg,aH x.got,x.kg,37,1⟩,⟨x.pm,aH x.made,x.km,37,1⟩,⟨x.pl,aH x.cel,x.kl,27,1⟩,⟨x.pe,aH x.gns,x.ke,3,1⟩,⟨x.pn,iO x.L,x.cn,47,14⟩,⟨x.pc,aH x.cs,x.cc,37,1⟩] w):Calls Tryz.prog 115 #[.pointer (some ⟨bw,0,none⟩),.pointer (some ⟨bx,0,none⟩)] w λ e w'=>∃q:KQ,e=.returned (.tuple #[])/\Uq dn rs bx ts es q/\SF w D [(bw,pC bm mask q.pt q.ts.length q.kt q.pe q.es.length q.ke),(bx,xO k bm x dn rs),(bm,xM x)] [] [] [⟨q.pt,tP q.ts,q.kt,29,2⟩,⟨q.pe,Az q.es,q.ke,74,1⟩,⟨x.pg,aH x.got,x.kg,37,1⟩,⟨x.pm,aH x.made,x.km,37,1⟩,⟨x.pl,aH x.cel,x.kl,27,1⟩,⟨x.pe,aH x.gns,x.ke,3,1⟩,⟨x.pn,iO x.L,x.cn,47,14⟩,⟨x.pc,aH x.cs,x.cc,37,1⟩] w':=yv hts hes hs
end
end

end Go.Proofs.YtbajmaoegmbfgaaGreat

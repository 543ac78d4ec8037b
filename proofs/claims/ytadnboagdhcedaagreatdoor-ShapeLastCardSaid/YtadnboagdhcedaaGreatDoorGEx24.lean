/- Executions of the reference: one repetition. -/
import Derived.Test.YtadnboagdhcedaaGreatDoorEx23
import Derived.Test.YtadnboagdhcedaaGreatDoorGRn1
import Derived.Test.YtadnboagdhcedaaGreatDoorGAr7
import Derived.Test.YtadnboagdhcedaaGreatDoorGJoin
import Derived.Test.YtadnboagdhcedaaGreatDoorGGa

set_option linter.unusedSimpArgs false
set_option linter.unusedVariables false
namespace Go.Ct
section
open Go Go.RowKit
theorem cx{L:List Nv}{r:Rs}{gs ms cl gn:List Int}{R:Tr}(h:Wk L (.done r) gs ms cl gn R):gs=[]/\ms=[]/\cl=[]/\gn=[]/\R=.done r:=by
 cases h
 exact⟨rfl,rfl,rfl,rfl,rfl⟩
def XS.re(x:XS)(free:Nat):XS:={x with a:=0,m:=0,c:=0,g:=0,fr:=free,st:=false}
theorem xd{T R:Tr}{x:XS}{free N:Nat}(hw:Wk x.nodes T x.got x.made x.cel x.gns R)(hN:x.got.length+free=N):eU ⟨T,R,x.mm,free,N⟩ (x.re free) T:=.inl ⟨rfl,R,⟨Wk.nil _,hw,by show Rc (free-free) R x.mm R x.mm;rw[Nat.sub_self];exact Rc.refl _ _,Nat.le_refl _,Nat.zero_le _,Nat.zero_le _,Nat.zero_le _,Nat.zero_le _,hN⟩⟩
structure A8(T R:Tr)(free N:Nat)(rs:Rs)(x x':XS)(N':List aK)(dn':Bool)(rs':Rs):Prop where
 ok:x'.Ok
 ext:x'.L=x.L++N'
 lc:x.cs.length<=x'.cs.length
 gl:x'.got.length<=N
 du:(dn'=true/\∃j,j<=free/\x'.got.length+free=N+j/\Wk x'.nodes T x'.got x'.made x'.cel x'.gns (.done rs')/\Rc j R x.mm (.done rs') x'.mm)∨(dn'=false/\rs'=rs/\x'.got.length=N/\∃R',R'.acc=some x'.nx/\Wk x'.nodes T x'.got x'.made x'.cel x'.gns R'/\Rc free R x.mm R' x'.mm)
theorem Nx.j3{T R:Tr}{free N:Nat}{rs r:Rs}{x x':XS}{N':List aK}(h:Nx ⟨T,R,x.mm,free,N⟩ (x.re free) x' N' (.done r) 0)(hs:x'.st=false):A8 T R free N rs x x' N' true r:=by
 obtain⟨R',hR⟩:=h.go.run hs
 obtain⟨e1,e2,e3,e4,e5⟩:=cx hR.suf
 refine⟨h.ok,h.ext,h.lc,(by have:=hR.hN;show x'.got.length<=N;simp only at this;omega),.inl ⟨rfl,free-x'.fr,Nat.sub_le _ _,(by have:=hR.hN;have:=hR.hf;simp only at *;omega),?_,e5▸hR.rc⟩⟩
 have hp:=hR.pre
 rwa [List.take_of_length_le (List.drop_eq_nil_iff.1 e1),List.take_of_length_le (List.drop_eq_nil_iff.1 e2),List.take_of_length_le (List.drop_eq_nil_iff.1 e3),List.take_of_length_le (List.drop_eq_nil_iff.1 e4)] at hp
theorem Nx.me{T R:Tr}{free N:Nat}{rs r:Rs}{x x':XS}{N':List aK}(h:Nx ⟨T,R,x.mm,free,N⟩ (x.re free) x' N' (.done r) 0)(hs:x'.st=true):A8 T R free N rs x x' N' false rs:=by
 rcases h.go with h1|h1
 ·rw[hs] at h1;exact nomatch h1.1
 ·obtain⟨R',hR⟩:=h1.2
  exact⟨h.ok,h.ext,h.lc,Nat.le_of_eq hR.hN,.inr ⟨rfl,rfl,hR.hN,R',hR.ac,hR.wk,hR.rc⟩⟩
end
end Go.Ct
namespace Go.Proofs.YtadnboagdhcedaaGreatDoor
section
open Go Go.RowKit Go.Ct
section
variable{k:Cl}{bx bm:Nat}{x:XS}{rs:Rs}{D:List Nat}{A:Fr}{w:World}
theorem Jx{m n N:Nat}{R:Tr}(free:Nat)(hg:Gx.Ok ⟨kO k (jP k.key m) n,R,x.mm,free,N⟩)(hwk:Wk x.nodes (kO k (jP k.key m) n) x.got x.made x.cel x.gns R)(hN:x.got.length+free=N)(hk:Z1 k)(hn:n<=1073741824)(hm:m<18446744073709551616)(em:k.mask=(m:Int))(ht:k.t.root<=9223372036854775807)(ha:k.a<=x.L.length)(hb:k.b<=x.L.length)(hnn:k.n<=x.L.length)(hA:∀f∈aY x.L,f∈A)(ok:x.Ok)(hs:SF w D (xH k bx bm x false rs) A [] (xW x) w):Calls Tryz.prog 50 #[.pointer (some ⟨bx,0,none⟩),.int .i64 (free:Int)] w λ e w'=>∃q:XS×List aK×Bool×Rs,e=.returned (.tuple #[])/\A8 (kO k (jP k.key m) n) R free N rs x q.1 q.2.1 q.2.2.1 q.2.2.2/\SF w D (xH k bx bm q.1 q.2.2.1 q.2.2.2) [] (aY q.2.1) (xW q.1) w':=by
 have hfr:=hg.hf
 have ok0:(x.re free).Ok:=ok.j7 rfl rfl rfl rfl rfl rfl (Nat.zero_le _) (Nat.zero_le _) (Nat.zero_le _) (Nat.zero_le _) hfr
 refine enter Tryz.func50 Tryz.ntmps50 rfl rfl (cA hs) ?_
 simp only[cR]
 refine iF ?_;refine nB ?_;refine nB ?_;refine aB ?_;refine Jv ?_;refine kL (by exact uX λ _=>dU rf fN wn rf fX rf rf yD) (λ _=>?_);refine Jv ?_;refine kL (by exact uX λ _=>dU rf fN wn rf fX rf rf yD) (λ _=>?_);refine Jv ?_;refine kL (by exact uX λ _=>dU rf fN wn rf fX rf rf yD) (λ _=>?_);refine Jv ?_;refine kL (by exact uX λ _=>dU rf fN wn rf fX rf rf yD) (λ _=>?_);refine Jv ?_;refine kL (by exact uX λ _=>dU rf fN wn rf fX rf rf yD) (λ _=>?_);refine Jv ?_;refine kL (by exact uX λ _=>dU rf fN wn rf fX rf rf yD) (λ _=>?_);refine aI ?_;refine J2 ?_;refine aC (cM (hs:=xH k bx bm (x.re free) false rs) (os:=xW (x.re free)) (A0:=aY x.L) (hA:=bT.of λ f hf=>.inr (.inl (hA f hf))) (hc:=λ w hs=>vm hg (x:=x.re free) n hk hn hm em ht ha hb hnn (λ f hf=>hf) (xd hwk hN) ok0 hs)) (λ x25 h25=>?_);refine aP (λ x4=>?_);refine kL (by exact(uX λ _=>Cm rf fN rf rf gX rf yD)) (λ _=>?_);refine aI ?_;refine mV ?_;refine lX ?_
 refine aZ (λ c30=>?_) (λ c30=>?_)
 ·refine eD [(0,[]),(1,[]),(2,[]),(3,[]),(4,[]),(5,[2]),(6,[]),(7,[]),(8,[])] ?_;refine gM ?_;refine bN ?_;refine J4 ?_;refine mT (i:=5) (hq:=(by exact uX λ _=>dU rf fN wn rf fX rf rf yD)) (h:=λ _=>?_);refine J4 ?_;refine mT (i:=8) (hq:=(uX λ _=>zS (off:=41) (vs:=x25.1.cells) rf fN rf rfl gX (Nat.le_of_ble_eq_true rfl) rf yD)) (h:=λ _=>?_);refine dV ?_
  refine G5 Tryz.results50 (λ w hw=>?_)
  first
  | exact⟨(x25.2.1,x25.2.2,true,x25.1),rfl,h25.j3 (by simpa using c30),by rw[List.append_nil] at hw;exact hw.z7⟩
  | exact⟨(x25.2.1,x25.2.2,false,rs),rfl,h25.me (by simpa using c30),by rw[List.append_nil] at hw;exact hw.z7⟩
 ·refine bA ?_
  refine G5 Tryz.results50 (λ w hw=>?_)
  first
  | exact⟨(x25.2.1,x25.2.2,true,x25.1),rfl,h25.j3 (by simpa using c30),by rw[List.append_nil] at hw;exact hw.z7⟩
  | exact⟨(x25.2.1,x25.2.2,false,rs),rfl,h25.me (by simpa using c30),by rw[List.append_nil] at hw;exact hw.z7⟩
end
end

/- Executions of the reference: steps. -/
end Go.Proofs.YtadnboagdhcedaaGreatDoor
namespace Go.Ct
section
open Go Go.RowKit
theorem Lo{R:Tr}{a:Ac}(h:R.acc=some a){n c:Nat}(ht:bZ R n c)(hn:1<=n):bZ R n 64:=by
 cases R<;>simp only[Tr.acc,reduceCtorEq] at h
 ·cases n with
  | zero=>omega
  | succ n=>simpa only[bZ] using ht
 ·cases n with
  | zero=>omega
  | succ n=>simpa only[bZ] using ht
structure tp(T:Tr)(x:XS)(dn:Bool)(rs:Rs)(R:Tr):Prop where
 ok:x.Ok
 wk:Wk x.nodes T x.got x.made x.cel x.gns R
 du:(dn=true/\R=.done rs)∨(dn=false/\R.acc=some x.nx)
theorem A8.zy{T R:Tr}{free N:Nat}{rs rs':Rs}{x x':XS}{N':List aK}{dn':Bool}(h:A8 T R free N rs x x' N' dn' rs'):∃R' j,j<=free/\(dn'=false->j=free)/\tp T x' dn' rs' R'/\Rc j R x.mm R' x'.mm/\x'.L=x.L++N'/\x.cs.length<=x'.cs.length:=by
 rcases h.du with⟨e,j,h1,_,h2,h3⟩|⟨e,_,_,R',h1,h2,h3⟩
 ·exact⟨_,j,h1,(λ h=>by rw[e] at h;cases h),⟨h.ok,h2,.inl ⟨e,rfl⟩⟩,h3,h.ext,h.lc⟩
 ·exact⟨R',free,Nat.le_refl _,λ _=>rfl,⟨h.ok,h2,.inr ⟨e,h1⟩⟩,h3,h.ext,h.lc⟩
end
end Go.Ct
namespace Go.Proofs.YtadnboagdhcedaaGreatDoor
section
open Go Go.RowKit Go.Ct
section
variable{k:Cl}{bx bm:Nat}{x:XS}{dn:Bool}{rs:Rs}{D:List Nat}{A:Fr}{w:World}
theorem W1(hs:SF w D (xH k bx bm x dn rs) A [] (xW x) w):Calls Tryz.prog 39 #[.pointer (some ⟨bx,0,none⟩)] w λ e w'=>∃q:Unit,e=.returned (.bool dn)/\True/\SF w D (xH k bx bm x dn rs) [] [] (xW x) w':=by
 refine enter Tryz.func39 Tryz.ntmps39 rfl rfl (cA hs) ?_
 simp only[cR]
 refine cN ?_;refine mV ?_;refine J1 ?_
 refine aN Tryz.results39 (λ w hw=>?_)
 exact⟨(),rfl,trivial,hw.aU⟩
theorem Ve{m n N:Nat}{R:Tr}(hT:bZ (kO k (jP k.key m) n) N 64)(hN:N<=1073741824)(hgN:x.got.length+1=N)(hsz:x.L.length<=137438953472/\x.cs.length<=137438953472/\x.gen<=137438953472)(hi:tp (kO k (jP k.key m) n) x dn rs R)(hk:Z1 k)(hn:n<=1073741824)(hm:m<18446744073709551616)(em:k.mask=(m:Int))(ht:k.t.root<=9223372036854775807)(ha:k.a<=x.L.length)(hb:k.b<=x.L.length)(hnn:k.n<=x.L.length)(hA:∀f∈aY x.L,f∈A)(hs:SF w D (xH k bx bm x dn rs) A [] (xW x) w):Calls Tryz.prog 29 #[.pointer (some ⟨bx,0,none⟩)] w λ e w'=>∃q:XS×List aK×Bool×Rs,e=.returned (.tuple #[])/\((dn=true/\q=(x,[],true,rs))∨(dn=false/\A8 (kO k (jP k.key m) n) R 1 N rs x q.1 q.2.1 q.2.2.1 q.2.2.2))/\SF w D (xH k bx bm q.1 q.2.2.1 q.2.2.2) [] (aY q.2.1) (xW q.1) w':=by
 have hg:dn=false->Gx.Ok ⟨kO k (jP k.key m) n,R,x.mm,1,N⟩:=λ e=>by
  rcases hi.du with⟨e2,_⟩|⟨_,e2⟩
  ·rw[e] at e2;cases e2
  ·obtain⟨c,h1,_,_⟩:=hi.wk.tN (Nat.le_refl 64) hT (by omega)
   refine⟨hT,⟨N-x.got.length,by show 1<=N-x.got.length;omega,Lo e2 h1 (by omega)⟩,hN,Nat.le_refl 1,?_⟩
   show(x.L.map aK.c).length<=_/\_
   rw[List.length_map]
   exact hsz
 refine enter Tryz.func29 Tryz.ntmps29 rfl rfl (cA hs) ?_
 simp only[cR]
 refine mV ?_;refine lX ?_
 refine aZ (λ c6=>?_) (λ c6=>?_)
 ·have ed:dn=false:=by simpa using c6
  subst ed
  refine yB ?_;refine aC (cM (hs:=xH k bx bm x false rs) (os:=xW x) (A0:=aY x.L) (hA:=bT.of λ f hf=>.inr (.inl (hA f hf))) (hc:=λ w hs=>Jx (N:=N) (n:=n) (m:=m) 1 (hg rfl) hi.wk hgN hk hn hm em ht ha hb hnn (λ f hf=>hf) hi.ok hs)) (λ x8 h8=>?_);refine aI ?_
  refine G5 Tryz.results29 (λ w hw=>?_)
  first
  | exact⟨x8,rfl,.inr ⟨rfl,h8⟩,by rw[List.append_nil] at hw;exact hw.z7⟩
  | exact⟨(x,[],true,rs),rfl,.inl ⟨by simpa using c6,rfl⟩,by rw[show dn=true from by simpa using c6] at hw;exact hw.aU (hF:=by exact aX.nil)⟩
 ·refine bA ?_
  refine G5 Tryz.results29 (λ w hw=>?_)
  first
  | exact⟨(x,[],true,rs),rfl,.inl ⟨by simpa using c6,rfl⟩,by rw[show dn=true from by simpa using c6] at hw;exact hw.aU (hF:=by exact aX.nil)⟩
end
end

/- Executions of the reference: the start. -/
end Go.Proofs.YtadnboagdhcedaaGreatDoor
namespace Go.Ct
section
open Go Go.RowKit
def XS.new(L:List aK)(cs:List Int)(gen acc:Int)(pn:Option Addr)(cn:Nat)(pc:Option Addr)(cc:Nat):XS:=⟨L,cs,gen,acc,pn,cn,pc,cc,[],[],[],[],none,0,none,0,none,0,none,0,0,0,0,0,0,false,Ac.zero⟩
end
end Go.Ct
namespace Go.Proofs.YtadnboagdhcedaaGreatDoor
section
open Go Go.RowKit Go.Ct
section
variable{k:Cl}{bm:Nat}{L:List aK}{cs:List Int}{gen acc:Int}{pn pc:Option Addr}{cn cc:Nat}{D:List Nat}{A:Fr}{w:World}
theorem fh{m n N:Nat}(hT:bZ (kO k (jP k.key m) n) N 64)(hN:N<=1073741824)(hsz:L.length<=137438953472/\cs.length<=137438953472/\gen<=137438953472)(hk:Z1 k)(hn:n<=1073741824)(hm:m<18446744073709551616)(em:k.mask=(m:Int))(ht:k.t.root<=9223372036854775807)(ha:k.a<=L.length)(hb:k.b<=L.length)(hnn:k.n<=L.length)(hA:∀f∈aY L,f∈A)(ok:(XS.new L cs gen acc pn cn pc cc).Ok)(hs:SF w D [(bm,mO L cs gen acc pn cn pc cc)] A [] [⟨pn,jC L,cn,77,14⟩,⟨pc,aG cs,cc,62,1⟩] w)(hN0:N=0:=by rfl):Calls Tryz.prog 42 #[.pointer (some ⟨bm,0,none⟩),.agg ⟨um k⟩] w λ e w'=>∃q:Nat×XS×List aK×Bool×Rs,e=.returned (.pointer (some ⟨q.1,0,none⟩))/\A8 (kO k (jP k.key m) n) (kO k (jP k.key m) n) 0 N Rs.zero (XS.new L cs gen acc pn cn pc cc) q.2.1 q.2.2.1 q.2.2.2.1 q.2.2.2.2/\SF w D (xH k q.1 bm q.2.1 q.2.2.2.1 q.2.2.2.2) [] (aY q.2.2.1) (xW q.2.1) w':=by
 have hg:Gx.Ok ⟨kO k (jP k.key m) n,kO k (jP k.key m) n,(XS.new L cs gen acc pn cn pc cc).mm,0,N⟩:=⟨hT,⟨N,Nat.zero_le _,hT⟩,hN,Nat.zero_le _,by
  show(L.map aK.c).length<=_/\_
  rw[List.length_map]
  exact hsz⟩
 refine enter Tryz.func42 Tryz.ntmps42 rfl rfl ((((hs.lI 3 1).lI 27 1).lI 62 1).lI 62 1) ?_
 simp only[cR]
 refine J0 ?_;refine bP (λ x3=>?_);refine Ka4 ?_;refine aE (aL (k:=25) (vs:=um k) rf fN gX rfl rfl) rfl ?_;refine bD ?_;refine bP (λ x9=>?_);refine Ka4 ?_;refine aC (cM (hs:=xH k x9 bm (XS.new L cs gen acc pn cn pc cc) false Rs.zero) (os:=xW (XS.new L cs gen acc pn cn pc cc)) (A0:=aY L) (hA:=bT.of λ f hf=>.inr (.inl (hA f hf))) (hc:=λ w hs=>Jx (N:=N) (n:=n) (m:=m) 0 hg (Wk.nil _) hN0.symm hk hn hm em ht ha hb hnn (λ f hf=>hf) ok hs)) (λ x11 h11=>?_);refine aI ?_;refine Ka6 ?_
 refine aN Tryz.results42 (λ w hw=>?_)
 exact⟨(x9,x11.1,x11.2.1,x11.2.2.1,x11.2.2.2),rfl,h11,by rw[List.append_nil] at hw;exact hw.z7⟩
end
end

/- The trees are never stuck within as many accesses as they have fuel: single procedures. -/
section
open Go Go.RowKit Go.Ct
theorem o9:∀{t:Tr} {n c c':Nat},c<=c'->bZ t n c->bZ t n c':=by
 intro t
 induction t with
 | done r=>intros;simp[bZ]
 | stuck=>intro n c c' _ h;simp[bZ] at h
 | load r k ih =>
  intro n c c' _ h
  cases n with
  | zero=>simp[bZ]
  | succ n=>simpa only[bZ] using h
 | nW r o m k ih =>
  intro n c c' _ h
  cases n with
  | zero=>simp[bZ]
  | succ n=>simpa only[bZ] using h
 | alloc r o k ih =>
  intro n c c' hc h
  cases c with
  | zero=>simp[bZ] at h
  | succ c =>
   cases c' with
   | zero=>omega
   | succ c'=>simp only[bZ] at h ⊢;exact λ v=>ih v (by omega) (h v)
 | cell r k ih =>
  intro n c c' hc h
  cases c with
  | zero=>simp[bZ] at h
  | succ c =>
   cases c' with
   | zero=>omega
   | succ c'=>simp only[bZ] at h ⊢;exact λ v=>ih v (by omega) (h v)
 | gen k ih =>
  intro n c c' hc h
  cases c with
  | zero=>simp[bZ] at h
  | succ c =>
   cases c' with
   | zero=>omega
   | succ c'=>simp only[bZ] at h ⊢;exact λ v=>ih v (by omega) (h v)
 | node r k ih =>
  intro n c c' hc h
  cases c<;>cases c'<;>simp only[bZ] at h ⊢ <;> exact λ v=>ih v (by omega) (h v)
section
variable{n c:Nat}
theorem oE{a:Int}{k:Int->Tr}(h:∀n',n'<n->∀v,bZ (k v) n' 64):bZ (.load a k) n c:=by
 cases n with
 | zero=>simp[bZ]
 | succ n=>simp only[bZ];exact h n (Nat.lt_succ_self n)
theorem Al{a o m:Int}{k:Bool->Tr}(h:∀n',n'<n->∀v,bZ (k v) n' 64):bZ (.nW a o m k) n c:=by
 cases n with
 | zero=>simp[bZ]
 | succ n=>simp only[bZ];exact h n (Nat.lt_succ_self n)
theorem I6{a:Nv}{i:Int}{k:Int->Tr}(h:∀v,bZ (k v) n c):bZ (.alloc a i k) n (c+1):=by simp only[bZ];exact h
theorem o4{i:Int}{k:Int->Tr}(h:∀v,bZ (k v) n c):bZ (.cell i k) n (c+1):=by simp only[bZ];exact h
theorem xg{k:Int->Tr}(h:∀v,bZ (k v) n c):bZ (.gen k) n (c+1):=by simp only[bZ];exact h
theorem cI{r:Int}{k:Nv->Tr}(h:∀v,bZ (k v) n c):bZ (.node r k) n c:=by
 cases c<;>simp only[bZ]<;>exact h
abbrev Ez{X:Type}(K:X->Tr)(n:Nat):Prop:=∀n',n'<n->∀v,bZ (K v) n' 64
theorem Ez.lt{X:Type}{K:X->Tr}{m:Nat}(h:Ez K n)(hm:m<=n):Ez K m:=λ n' h' v=>h n' (by omega) v
theorem V0{v s:Int}{K:Int->Tr}(h:∀w,bZ (K w) n c):bZ (n0 v s K) n c:=cI λ _=>h _
theorem sI{t:eQ}{v s:Int}{K:Int->Tr}(h:Ez K n):bZ (E1 t v s K) n c:=V0 λ _=>Al λ n' hn _=>h n' hn _
theorem T4{t:eQ}{K:Int->Tr}(h:Ez K n):bZ (Pg t K) n c:=oE λ n1 h1 v=>cI λ nv=>by
 split
 ·exact h n1 h1 v
 ·exact cI λ _=>oE λ n2 h2 s=>by
   split
   ·exact cI λ _=>Al λ n3 h3 _=>cI λ _=>oE λ n4 h4 _=>sI (h.lt (by omega))
   ·exact sI (h.lt (by omega))
theorem Jy{i m p:Int}{K:Int->Tr}(h:Ez K n):bZ (Yo i m p K) n c:=cI λ _=>cI λ _=>Al λ n' hn _=>cI λ _=>h n' hn _
theorem wW{i m:Int}{K:Int->Tr}(h:Ez K n):bZ (tQ i m K) n c:=cI λ _=>oE λ n1 h1 p=>by
 split
 ·exact h n1 h1 _
 ·exact Jy (h.lt (by omega))
theorem Fy{i m p:Int}{b:Bool}{K:Int->Tr}(h:Ez K n)(hc:1<=c):bZ (Bo i m p b K) n c:=by
 unfold Bo
 split
 ·exact cI λ _=>Al λ n1 h1 _=>wW (h.lt (by omega))
 ·obtain⟨c,rfl⟩:∃d,c=d+1:=⟨c-1,by omega⟩
  exact cI λ _=>I6 λ _=>Al λ n1 h1 _=>wW (h.lt (by omega))
theorem Aa{t:eQ}{i m:Int}{K:Int->Tr}(h:Ez K n):bZ (uN t i m K) n c:=cI λ _=>oE λ n1 h1 p=>by
 split
 ·exact h n1 h1 _
 ·refine cI λ _=>?_
  split
  ·split
   ·exact Fy (h.lt (by omega)) (by decide)
   ·exact T4 λ n2 h2 _=>cI λ _=>cI λ _=>Fy (h.lt (by omega)) (by decide)
  ·exact Jy (h.lt (by omega))
theorem fR{t:eQ}{i:Int}{K:Int->Tr}(h:Ez K n):bZ (kX t i K) n c:=cI λ _=>oE λ n1 h1 _=>Aa (h.lt (by omega))
theorem zR{t:eQ}{v:Int}{K:Tr}(h:∀n',n'<n->bZ K n' 64):bZ (uG t v K) n c:=cI λ _=>fR λ n1 h1 _=>cI λ _=>cI λ _=>Al λ n2 h2 _=>h n2 (by omega)
theorem nG{t:eQ}{K:Int->Tr}(h:Ez K n):bZ (rH t K) n c:=oE λ n1 h1 v=>cI λ nv=>by
 split
 ·exact h n1 h1 v
 ·exact cI λ _=>oE λ n2 h2 s=>by
   split
   ·exact zR λ n3 h3=>cI λ _=>oE λ n4 h4 _=>sI (h.lt (by omega))
   ·exact sI (h.lt (by omega))
theorem iR{t:eQ}{i o m:Int}{K:Bool->Tr}(h:Ez K n):bZ (mA t i o m K) n c:=cI λ _=>Al λ n1 h1 b=>by
 split
 ·exact Aa λ n2 h2 _=>h n2 (by omega) _
 ·exact h n1 h1 _
theorem vZ{t:eQ}{o e m:Int}{K:Bool->Tr}(h:Ez K n)(hc:1<=c):bZ (tD t o e m K) n c:=by
 obtain⟨c,rfl⟩:∃d,c=d+1:=⟨c-1,by omega⟩
 exact I6 λ _=>Al λ n1 h1 b=>by
  split
  ·exact zR λ n2 h2=>cI λ _=>oE λ n3 h3 _=>sI λ n4 h4 _=>h n4 (by omega) _
  ·exact h n1 h1 _
end
end

/- The trees are never stuck within as many accesses as they have fuel: calls. -/
section
open Go Go.RowKit Go.Ct
section
variable{n c:Nat}
theorem eP{a:Nv}{i:Int}{k:Int->Tr}(hc:1<=c)(h:∀v,bZ (k v) n (c-1)):bZ (.alloc a i k) n c:=by
 obtain⟨c,rfl⟩:∃d,c=d+1:=⟨c-1,by omega⟩
 exact I6 h
theorem zJ{a i r:Int}{K:Int->Tr}(hc:1<=c)(h:∀v,bZ (K v) n (c-1)):bZ (Cq a i r K) n c:=cI λ _=>eP hc h
theorem Nm{t:eQ}{i o x:Int}{K:Int->Tr}(h:Ez K n):bZ (Gw t i o x K) n c:=cI λ _=>fR λ n1 h1 _=>cI λ _=>eP (by decide) λ _=>zJ (by decide) λ _=>iR λ n2 h2 _=>h n2 (by omega) _
theorem vW{t:eQ}{p o:Int}{h0:Nat}{l:Int}{K:Bool->Tr}(h:Ez K n):bZ (vP t p o h0 l K) n c:=fR λ n1 h1 _=>cI λ _=>by
 split
 ·exact fR λ n2 h2 _=>cI λ _=>by
   split
   ·exact eP (by decide) λ _=>cI λ _=>eP (by decide) λ _=>iR λ n3 h3 _=>h n3 (by omega) _
   ·exact h n2 (by omega) _
 ·exact h n1 h1 _
theorem Gt{t:eQ}{h0:Nat}{key:ByteArray}{K:Rs->Tr}:∀(q n c:Nat) (i level:Int),n<q->Ez K n->bZ (Ae t h0 key K q i level) n c
 | 0,n,c,i,level,hq,_=>absurd hq (Nat.not_lt_zero n)
 | q+1,n,c,i,level,hq,h=>fR λ n1 h1 _=>cI λ _=>by
  split
  ·split<;>exact h n1 h1 _
  ·split
   ·exact h n1 h1 _
   ·split
    ·exact h n1 h1 _
    ·exact cI λ _=>by
      split
      ·split<;>exact h n1 h1 _
      ·exact Gt q n1 64 _ _ (by omega) (h.lt (by omega))
theorem Ln:∀(l:List NI) (r:Int) (K:Int->Tr) (n c:Nat),l.length<=c->(∀v,bZ (K v) n (c-l.length))->bZ (xT l r K) n c
 | [],r,K,n,c,_,h=>h r
 | a::l,r,K,n,c,hc,h=>by
  have hc':l.length+1<=c:=by simpa using hc
  exact eP (by omega) λ v=>Ln l v K n (c-1) (by omega) (λ u=>by have:=h u;rw[List.length_cons] at this;rwa [show c-1-l.length=c-(l.length+1) by omega])
theorem S2{k:Cl}{b:Int}{h0 level:Nat}{gen:Int}{K:Int->Tr}(hc:32<=c)(h:∀v,bZ (K v) n (c-32)):bZ (Qd k b h0 level gen K) n c:=cI λ nb=>eP (by omega) λ f=>by
 have hl:(dP b nb.hash.toNat h0 (nb.key,nb.val) k.key k.val gen f.toNat level).tail.length<=31:=by
  have h1:=Mt (x:=b) (h0:=nb.hash.toNat) (h:=h0) (p0:=(nb.key,nb.val)) (k:=k.key) (u:=k.val) (gen:=gen) (f:=f.toNat) (jM nb.hash.toNat h0-level) (jM nb.hash.toNat h0-(jM nb.hash.toNat h0-level))
  have h2:=vY nb.hash.toNat h0
  rw[List.length_tail]
  unfold dP
  omega
 exact Ln _ _ _ _ _ (by omega) λ v=>o9 (by omega) (h v)
theorem Iz{k:Cl}{i m:Int}{h0 level:Nat}{gen:Int}{K:Rs->Int->Tr}(h:∀n',n'<=n->∀r w,bZ (K r w) n' 64):bZ (kF k i m h0 level gen K) n 64:=cI λ nb=>by
 split
 ·split
  ·exact eP (by decide) λ _=>iR λ n1 h1 _=>h n1 (by omega) _ _
  ·exact h n (Nat.le_refl n) _ _
 ·split
  ·split
   ·exact eP (by decide) λ _=>eP (by decide) λ _=>iR λ n1 h1 _=>h n1 (by omega) _ _
   ·exact h n (Nat.le_refl n) _ _
  ·refine cI λ _=>?_
   split
   ·exact h n (Nat.le_refl n) _ _
   ·split
    ·split
     ·exact eP (by decide) λ _=>zJ (by decide) λ _=>iR λ n1 h1 _=>h n1 (by omega) _ _
     ·exact h n (Nat.le_refl n) _ _
    ·split
     ·exact S2 (by decide) λ _=>eP (by decide) λ _=>zJ (by decide) λ _=>iR λ n1 h1 _=>h n1 (by omega) _ _
     ·exact h n (Nat.le_refl n) _ _
theorem D2{k:Cl}{i m x gen:Int}{K:Int->Tr}(h:∀n',n'<=n->∀v,bZ (K v) n' 64):bZ (Ee k i m x gen K) n 64:=cI λ _=>cI λ _=>by
 split
 ·exact h n (Nat.le_refl n) _
 ·exact Nm λ n1 h1 _=>h n1 (by omega) _
theorem Dv{k:Cl}{h0:Nat}{K:Rs->Tr}{again:Tr}{gen:Int}:∀(q n c:Nat) (i parent:Int) (level:Nat),n<q->Ez K n->(∀n',n'<n->bZ again n' 64)->bZ (zP k h0 K again gen q i parent level) n c
 | 0,n,c,i,p,level,hq,_,_=>absurd hq (Nat.not_lt_zero n)
 | q+1,n,c,i,p,level,hq,h,ha=>fR λ n1 h1 _=>cI λ _=>by
  split
  ·exact vW λ n2 h2 _=>ha n2 (by omega)
  ·refine Iz λ n2 h2 r w=>?_
   split
   ·exact h n2 (by omega) _
   ·split
    ·exact ha n2 (by omega)
    ·refine D2 λ n3 h3 v=>?_
     split
     ·exact ha n3 (by omega)
     ·exact Dv q n3 64 _ _ _ (by omega) (h.lt (by omega)) (λ n4 h4=>ha n4 (by omega))
theorem Jr{k:Cl}{h0:Nat}{K:Rs->Tr}:∀(q n c:Nat),n<q->Ez K n->bZ (yG k h0 K q) n c
 | 0,n,c,hq,_=>absurd hq (Nat.not_lt_zero n)
 | q+1,n,c,hq,h=>nG λ n1 h1 _=>cI λ _=>Dv q n1 64 _ _ _ (by omega) (h.lt (by omega)) (λ n2 h2=>Jr q n2 64 (by omega) (h.lt (by omega)))
theorem E2{k:Cl}{i m:Int}{h0 level:Nat}{K:Rs->Int->Tr}(h:∀n',n'<=n->∀r w,bZ (K r w) n' 64):bZ (iU k i m h0 level K) n 64:=cI λ nb=>by
 split
 ·split
  ·exact h n (Nat.le_refl n) _ _
  ·exact eP (by decide) λ _=>iR λ n1 h1 _=>h n1 (by omega) _ _
 ·split
  ·exact h n (Nat.le_refl n) _ _
  ·refine cI λ _=>?_
   split
   ·exact h n (Nat.le_refl n) _ _
   ·split
    ·exact h n (Nat.le_refl n) _ _
    ·split
     ·exact h n (Nat.le_refl n) _ _
     ·exact cI λ _=>eP (by decide) λ _=>iR λ n1 h1 _=>h n1 (by omega) _ _
theorem Qc{t:eQ}{path:List Int}{h0:Nat}{K:Tr}:∀(l n:Nat),(∀n',n'<=n->bZ K n' 64)->bZ (kw t path h0 K l) n 64
 | 0,n,h=>h n (Nat.le_refl n)
 | l+1,n,h=>fR λ n1 h1 _=>cI λ _=>by
  split
  ·exact vW λ n2 h2 _=>Qc l n2 (λ n3 h3=>h n3 (by omega))
  ·exact h n1 (by omega)
theorem zU{k:Cl}{h0:Nat}{K:Rs->Tr}{again:Tr}{gen:Int}:∀(q n c:Nat) (i:Int) (path:List Int) (level:Nat),n<q->Ez K n->(∀n',n'<n->bZ again n' 64)->bZ (tS k h0 K again gen q i path level) n c
 | 0,n,c,i,p,level,hq,_,_=>absurd hq (Nat.not_lt_zero n)
 | q+1,n,c,i,p,level,hq,h,ha=>fR λ n1 h1 _=>cI λ _=>by
  split
  ·exact vW λ n2 h2 _=>ha n2 (by omega)
  ·refine E2 λ n2 h2 r w=>?_
   split
   ·split
    ·exact Qc _ _ λ n3 h3=>h n3 (by omega) _
    ·exact h n2 (by omega) _
   ·split
    ·exact ha n2 (by omega)
    ·refine D2 λ n3 h3 v=>?_
     split
     ·exact ha n3 (by omega)
     ·exact zU q n3 64 _ _ _ (by omega) (h.lt (by omega)) (λ n4 h4=>ha n4 (by omega))
theorem F4{k:Cl}{h0:Nat}{K:Rs->Tr}:∀(q n c:Nat),n<q->Ez K n->bZ (pJ k h0 K q) n c
 | 0,n,c,hq,_=>absurd hq (Nat.not_lt_zero n)
 | q+1,n,c,hq,h=>nG λ n1 h1 _=>cI λ _=>zU q n1 64 _ _ _ (by omega) (h.lt (by omega)) (λ n2 h2=>F4 q n2 64 (by omega) (h.lt (by omega)))
theorem H7{i:Int}{k:Int->Tr}(hc:1<=c)(h:∀v,bZ (k v) n (c-1)):bZ (.cell i k) n c:=by
 obtain⟨c,rfl⟩:∃d,c=d+1:=⟨c-1,by omega⟩
 exact o4 h
theorem Oj{k:Int->Tr}(hc:1<=c)(h:∀v,bZ (k v) n (c-1)):bZ (.gen k) n c:=by
 obtain⟨c,rfl⟩:∃d,c=d+1:=⟨c-1,by omega⟩
 exact xg h
theorem iV{r:Rs}:bZ (.done r) n c:=by simp[bZ]
theorem Fq{m:Int}:bZ (F7 m .done) n 64:=Oj (by decide) λ _=>eP (by decide) λ _=>H7 (by decide) λ _=>iV
theorem Gs{t:eQ}{fz:Bool}:∀(q n c:Nat),n<q->bZ (Dn t fz .done q) n c
 | 0,n,c,hq=>absurd hq (Nat.not_lt_zero n)
 | q+1,n,c,hq=>nG λ n1 h1 _=>fR λ n2 h2 _=>Oj (by decide) λ _=>eP (by decide) λ _=>vZ (λ n3 h3 b=>by
  split
  ·split
   ·exact H7 (by decide) λ _=>iV
   ·exact Fq
  ·exact Gs q n3 64 (by omega)) (by decide)
theorem Cr{t:eQ}{fz:Bool}{q:Nat}(h:n<q):bZ (qM t fz .done q) n c:=by
 unfold qM
 split
 ·exact oE λ n1 h1 _=>by
   split
   ·exact H7 (by decide) λ _=>iV
   ·exact fR λ n2 h2 _=>Fq
 ·exact Gs q n c h
theorem Br{t:eQ}:∀(q n c:Nat),n<q->bZ (sQ t .done q) n c
 | 0,n,c,hq=>absurd hq (Nat.not_lt_zero n)
 | q+1,n,c,hq=>nG λ n1 h1 _=>fR λ n2 h2 _=>eP (by decide) λ _=>Oj (by decide) λ _=>eP (by decide) λ _=>vZ (λ n3 h3 b=>by
  split
  ·exact iV
  ·exact Br q n3 64 (by omega)) (by decide)
theorem T2{k:Cl}{h0 q:Nat}(h:n<q):bZ (kO k h0 q) n 64:=by
 have hd:∀{X:Type} {K:X->Rs},Ez (λ v=>Tr.done (K v)) n:=λ _ _ _=>iV
 unfold kO
 split
 ·exact iV
 split
 ·exact fR hd
 split
 ·exact iR hd
 split
 ·exact nG hd
 split
 ·exact vZ hd (by decide)
 split
 ·exact nG λ n1 h1 _=>Gt q n1 64 _ _ (by omega) (λ _ _ _=>iV)
 split
 ·exact Jr q n 64 h (λ _ _ _=>iV)
 split
 ·exact F4 q n 64 h (λ _ _ _=>iV)
 split
 ·exact Cr h
 split
 ·exact Cr h
 ·exact Br q n 64 h
end
end

/- Worlds: lists of tries and of executions; the smallest functions. -/
end Go.Proofs.YtadnboagdhcedaaGreatDoor
namespace Go.Ct
section
open Go Go.RowKit
section
variable{P:Program}{S:List (Nat×Value)}{d:Nat}{ty t t' e:TypeId}{pos:String}{af:Array Edge}{gd:Option (Nat×Bool)}{x y:Operand}{w0 w:World}{M:List Nat}{H:List (Nat×Obj)}{A F:Fr}{O:List Ow}{a:Option Addr}
end
end
end Go.Ct
namespace Go.Proofs.YtadnboagdhcedaaGreatDoor
section
open Go Go.RowKit Go.Ct
end

/- Worlds: Create, keep. -/
section
open Go Go.RowKit Go.Ct
section
variable{k:Cl}{bw bx bm:Nat}{x:XS}{dn:Bool}{rs:Rs}{D:List Nat}{A:Fr}{w:World}{mask:Int}{ts:List eQ}{es:List Nat}{pt pe:Option Addr}{kt ke:Nat}
end
end

/- Worlds: Create. -/
section
open Go Go.RowKit Go.Ct
def Nq:Nd:={Nd.zero with kind:=3}
def tB(g:Int):Nd:={Nd.zero with kind:=2,gen:=g}
def L4(x y:AX):List aK:=[cK,cK]++[jY Nq [] [] 0 x]++[jY (tB 1) [] [] 1 y]
theorem n6{x y:AX}:∀f∈aY (L4 x y),f.2=[]:=by
 intro f hf
 simp[aY,L4,aK.fr,cK,jY,aG,cZ] at hf
 rcases hf with hf|hf|hf|hf|hf|hf|hf|hf<;>rw[hf]
theorem Xb{w:World}{D:List Nat}{b:Nat}{acc:Int}{pn:Option Addr}{cn:Nat}{A:Fr}(hs:SF w D [(b,mO [cK,cK] [] 0 acc pn cn none 0)] A [] (mW [cK,cK] [] pn cn none 0) w) :
  Calls Tryz.prog 24 #[.pointer (some ⟨b,0,none⟩)] w λ e w'=>∃q:AX×AX×Option Addr×Nat,e=.returned (.agg ⟨[.int .i64 3,.bool false]⟩)/\True /\
   SF w D [(b,mO (L4 q.1 q.2.1) [0,3,4] 1 acc q.2.1.pn q.2.1.cn q.2.2.1 q.2.2.2)] [] (aY (L4 q.1 q.2.1)) (mW (L4 q.1 q.2.1) [0,3,4] q.2.1.pn q.2.1.cn q.2.2.1 q.2.2.2) w':=by
 refine enter Tryz.func24 Tryz.ntmps24 rfl rfl (rN hs) ?_
 simp only[cR]
 refine J0 ?_;refine aP (λ x2=>?_);refine aI ?_;refine J2 ?_;refine bD ?_;refine aC (cM (A0:=[(none,aG []),(none,cZ [])]) (hc:=λ w hs=>mB (L:=[cK,cK]) (cs:=[]) (n:=Nq) (xs:=[]) (ys:=[]) 0 hs rfl rfl (by decide) (by decide) (by decide) (by decide))) (λ x7 h7=>?_);refine Ka4 ?_;refine aC (cM (hc:=λ w hs=>E9 (L:=[cK,cK]++[jY Nq [] [] 0 x7]) (cs:=[0]) hs)) (λ x9 h9=>?_);refine tZ ?_;refine aB ?_;refine bD ?_;refine aB ?_;refine aC (cM (A0:=[(none,aG []),(none,cZ [])]) (hc:=λ w hs=>mB (L:=[cK,cK]++[jY Nq [] [] 0 x7]) (cs:=[0]) (n:=tB 1) (xs:=[]) (ys:=[]) 3 hs rfl rfl (by decide) (by decide) (by simp) (by decide))) (λ x15 h15=>?_);refine aC (cM (hc:=λ w hs=>iI (L:=L4 x7 x15) (cs:=[0,3]) 4 hs (by decide))) (λ x16 h16=>?_);refine yH ?_
 refine bJ Tryz.results24 (λ w hw=>?_)
 exact⟨(x7,x15,x16.1,x16.2),rfl,trivial,(hw.eG (λ f hf=>.inl (n6 f hf))).z7⟩
end

/- Calls that may change known blocks and own lists, and leave new ones. -/
section
open Go Go.RowKit Go.Ct
section
variable{S:List (Nat×Value)}{w0 w:World}{M:List Nat}{H:List (Nat×Obj)}{A F:Fr}{O:List Ow}{ty:TypeId}{pos:String}{af:Array Edge}{gd:Option (Nat×Bool)}{X:Type}{V:X->Value}
theorem z8{φ:X->Prop}{hs H':List (Nat×Obj)}{os O':List Ow}{hs' Hc H1:X->List (Nat×Obj)}{os' Oc O1:X->List Ow}{Fc F1:X->Fr}{A0:Fr}{is js:List Nat}{f:FuncId}{xs:List Operand}{at_:Array TypeId}{vs:List Value}{dst:Option Nat}
  (ha:zB S xs=vs:=by(repeat (first|exact qA _|(apply oC;focus ((conv=>{lhs;whnf});try exact rfl))));first|done|fail) (hp:plain Tryz.prog f=true:=by kernel_rfl)
  (hc:∀w,SF w (Ks hs os) hs A0 [] os w->Calls Tryz.prog f ⟨vs⟩ w λ e w'=>∃x,e=.returned (V x)/\φ x/\SF w (Ks hs os) (hs' x++Hc x) [] (Fc x) (os' x++Oc x) w')
  (hH:zX H is hs H':=by(repeat (first|exact zX.nil|(apply zX.cons;(focus ((repeat (first|exact Pd.head|apply Pd.tail));done));simp only[Ns])));first|done|fail)
  (hO:zX O js os O':=by(repeat (first|exact zX.nil|(apply zX.cons;(focus ((repeat (first|exact Pd.head|apply Pd.tail));done));simp only[Ns])));first|done|fail)
  (hA:bT A F O' A0:=by(repeat (first|exact bT.of (λ _ h=>Or.inr (Or.inl h))|exact bT.nil|(refine bT.cons (by first|exact Or.inl rfl|exact Or.inr (Or.inr (Or.inl (by simp)))|exact Or.inr (Or.inl (by simp))|exact Or.inr (Or.inr (Or.inr (by simp)))) ?_)));first|done|fail)
  (hl1:∀x,is.length=(hs' x).length:=by intro x;exact rfl) (hl2:∀x,js.length=(os' x).length:=by intro x;exact rfl)
  (hH1:∀x,Hc x++A3 is (hs' x) H'=H1 x:=by intro x;first|(simp only[A3,Oz,List.nil_append,List.cons_append];exact rfl)|exact rfl) (hF1:∀x,Fc x++F=F1 x:=by intro x;first|(simp only[List.nil_append,List.cons_append];exact rfl)|exact rfl) (hO1:∀x,Oc x++A3 js (os' x) O'=O1 x:=by intro x;simp only[A3,Oz,mW,List.nil_append,List.cons_append];exact rfl) :
  bH Tryz.prog S (SF w0 M H A F O) ⟨dst,.call {callee:=.value (.func f),args:=⟨xs⟩,argTypes:=at_},ty,pos,af,gd⟩ X V (λ x w=>φ x/\SF w0 M (H1 x) A (F1 x) (O1 x) w) :=
 lA (nP hp ha) λ w hw=>(hc w (hw.D6 hH hO hA)).mono λ _ _ ⟨x,he,hx,hs⟩=>⟨x,he,hx,by
  have:=hw.Q1 (hs':=hs' x) (Hc:=Hc x) (os':=os' x) (Oc:=Oc x) hH hO hs (hl1 x) (hl2 x)
  rw[<- hH1 x,<- hF1 x,<- hO1 x]
  exact this⟩
end
end

/- Worlds: an execution is run. -/
end Go.Proofs.YtadnboagdhcedaaGreatDoor
namespace Go.Ct
section
open Go Go.RowKit
theorem Rc.trans{i j:Nat}{t t1 t2:Tr}{s s1 s2:Mm}(h1:Rc i t s t1 s1)(h2:Rc j t1 s1 t2 s2):Rc (i+j) t s t2 s2:=by
 induction h2 with
 | refl t s=>exact h1
 | sG _ hs ih=>exact .sG (ih h1) hs
 | loud _ hs ih=>exact .loud (ih h1) hs
def Sz(x:XS)(B:Nat):Prop:=x.L.length<=B/\x.cs.length<=B/\x.gen<=B
theorem R7{T R R':Tr}{x x':XS}{dn:Bool}{rs:Rs}{j N B:Nat}(h:tp T x dn rs R)(hd:dn=false)(hT:bZ T N 64)(hN:x.got.length+1<=N)(hr:Rc j R x.mm R' x'.mm)(hj:j<=1)(hs:Sz x B):Sz x' (B+128):=by
 rcases h.du with⟨e,_⟩|⟨_,e⟩
 ·rw[hd] at e;cases e
 ·obtain⟨c,h1,_,_⟩:=h.wk.tN (Nat.le_refl 64) hT (by omega)
  obtain⟨c',h2,h3,h4,h5,h6,h7⟩:=hr.tN (Nat.le_refl 64) (Lo e h1 (by omega)) (by omega)
  obtain⟨s1,s2,s3⟩:=hs
  simp only[XS.mm,List.length_map] at h5 h6 h7
  exact⟨by omega,by omega,by omega⟩
theorem Mq{T R':Tr}{x x':XS}{j N B:Nat}(hT:bZ T N 64)(hr:Rc j T x.mm R' x'.mm)(hj:j<=0)(hs:Sz x B):Sz x' (B+64):=by
 obtain⟨c',h2,h3,h4,h5,h6,h7⟩:=hr.tN (Nat.le_refl 64) hT (by omega)
 obtain⟨s1,s2,s3⟩:=hs
 simp only[XS.mm,List.length_map] at h5 h6 h7
 exact⟨by omega,by omega,by omega⟩
end
end Go.Ct
namespace Go.Proofs.YtadnboagdhcedaaGreatDoor
section
open Go Go.RowKit Go.Ct
def T0(k:Cl)(m:Nat):Tr:=kO k (jP k.key m) 1073741824
theorem xF(k:Cl)(m:Nat){n:Nat}(h:n<1073741824):bZ (T0 k m) n 64:=T2 h
structure RY where
 i:Nat
 x:XS
 N:List aK
 dn:Bool
 rs:Rs
 R:Tr
structure zo(k:Cl)(m:Nat)(x0:XS)(B:Nat)(y:RY):Prop where
 ex:tp (T0 k m) y.x y.dn y.rs y.R
 rc:∃j,Rc j (T0 k m) x0.mm y.R y.x.mm
 ext:y.x.L=x0.L++y.N
 lc:x0.cs.length<=y.x.cs.length
 gl:y.x.got.length<=y.i
 sz:Sz y.x (B+64+128*y.i)
section
variable{k:Cl}{bw bm m B:Nat}{L:List aK}{cs:List Int}{gen acc:Int}{pn pc:Option Addr}{cn cc:Nat}{D:List Nat}{A:Fr}{w:World}{mask:Int}{ts:List eQ}{es:List Nat}{pt pe:Option Addr}{kt ke:Nat}
theorem Lx(hsz:L.length<=137438953472/\cs.length<=137438953472/\gen<=137438953472)(hk:Z1 k)(hm:m<18446744073709551616)(em:k.mask=(m:Int))(ht:k.t.root<=9223372036854775807)(ha:k.a<=L.length)(hb:k.b<=L.length)(hnn:k.n<=L.length)(hA:∀f∈aY L,f∈A)(ok:(XS.new L cs gen acc pn cn pc cc).Ok)(hs:SF w D [(bm,mO L cs gen acc pn cn pc cc)] A [] [⟨pn,jC L,cn,77,14⟩,⟨pc,aG cs,cc,62,1⟩] w):Calls Tryz.prog 42 #[.pointer (some ⟨bm,0,none⟩),.agg ⟨um k⟩] w λ e w'=>∃q:Nat×XS×List aK×Bool×Rs,e=.returned (.pointer (some ⟨q.1,0,none⟩))/\A8 (T0 k m) (T0 k m) 0 0 Rs.zero (XS.new L cs gen acc pn cn pc cc) q.2.1 q.2.2.1 q.2.2.2.1 q.2.2.2.2/\SF w D ([(bm,xM q.2.1)]++[(q.1,xO k bm q.2.1 q.2.2.2.1 q.2.2.2.2)]) [] (aY q.2.2.1) ([⟨q.2.1.pn,jC q.2.1.L,q.2.1.cn,77,14⟩,⟨q.2.1.pc,aG q.2.1.cs,q.2.1.cc,62,1⟩]++[⟨q.2.1.pg,aG q.2.1.got,q.2.1.kg,62,1⟩,⟨q.2.1.pm,aG q.2.1.made,q.2.1.km,62,1⟩,⟨q.2.1.pl,aG q.2.1.cel,q.2.1.kl,27,1⟩,⟨q.2.1.pe,aG q.2.1.gns,q.2.1.ke,3,1⟩]) w' :=
 (fh (N:=0) (n:=1073741824) (m:=m) (xF k m (by decide)) (by decide) hsz hk (Nat.le_refl _) hm em ht ha hb hnn hA ok hs).mono λ _ _ ⟨q,e,h,hw⟩=>⟨q,e,h,hw.perm (List.Perm.swap _ _ _) (List.perm_append_comm (l₁:=[_,_]) (l₂:=[_,_,_,_]))⟩
end
end

/- Trees are run alone. -/
end Go.Proofs.YtadnboagdhcedaaGreatDoor
namespace Go.Ct
section
open Go Go.RowKit
def ng(cs:List Int)(c o:Int):Bool:=decide (1<=c/\c<=(cs.length:Int)/\cs.getD (c-1).toNat 0=o)
theorem fx{cs:List Int}{c o:Int}{r:Bool}(h:r=true↔iG cs c o):r=ng cs c o:=by
 rw[Bool.eq_iff_iff,h]
 unfold ng iG
 rw[decide_eq_true_eq]
def sG:Tr->Mm->Tr×Mm
 | .alloc n i k,s=>sG (k ((s.nodes.length+1:Nat):Int)) (s.push n i)
 | .cell i k,s=>sG (k ((s.cs.length+1:Nat):Int)) ⟨s.nodes,s.cs++[i],s.gen⟩
 | .gen k,s=>sG (k (s.gen+1)) ⟨s.nodes,s.cs,s.gen+1⟩
 | .node r k,s=>sG (k (cD s.nodes r)) s
 | t,s=>(t,s)
def yh:Tr->Mm->Tr×Mm
 | .load c k,s=>(k (bW s.cs c),s)
 | .nW c o n k,s=>(k (ng s.cs c o),⟨s.nodes,fU s.cs c o n,s.gen⟩)
 | t,s=>(t,s)
def tg(p:Tr×Mm):Tr×Mm:=sG (yh p.1 p.2).1 (yh p.1 p.2).2
def Tr.live:Tr->Bool
 | .done _=>false
 | _=>true
def Fk(p:Tr×Mm):Nat->Tr×Mm
 | 0=>p
 | k+1=>tg (Fk p k)
theorem xi{t t':Tr}{s s':Mm}(h:Lp t s t' s'):yh t s=(t',s')/\∀u,sG t u=(t,u):=by
 cases h with
 | load c k s=>exact⟨rfl,λ _=>rfl⟩
 | nW c o n k s b hb=>rw[fx hb];exact⟨rfl,λ _=>rfl⟩
theorem m7{t t':Tr}{s s':Mm}(h:Sp t s t' s'):sG t s=sG t' s':=by
 cases h<;>rfl
theorem Qn(p:Tr×Mm)(j:Nat):∀k,Fk p (j+k)=Fk (Fk p j) k
 | 0=>rfl
 | k+1=>by show tg (Fk p (j+k))=_;rw[Qn p j k];rfl
theorem Kp{r:Rs}{s:Mm}:∀k,Fk (.done r,s) k=(.done r,s)
 | 0=>rfl
 | k+1=>by show tg (Fk _ k)=_;rw[Kp k];rfl
theorem l7{j:Nat}{t t':Tr}{s s':Mm}(h:Rc j t s t' s'):Fk (sG t s) j=sG t' s':=by
 induction h with
 | refl t s=>rfl
 | sG _ hs ih=>rw[ih];exact m7 hs
 | loud _ hs ih =>
  obtain⟨h1,h2⟩:=xi hs
  show tg (Fk _ _)=_
  rw[ih,h2]
  unfold tg
  rw[h1]
end

end Go.Ct

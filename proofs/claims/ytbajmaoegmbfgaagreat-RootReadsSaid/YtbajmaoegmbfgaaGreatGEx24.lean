/- Executions of the reference: one repetition. -/
import Derived.Test.YtbajmaoegmbfgaaGreatEx23
import Derived.Test.YtbajmaoegmbfgaaGreatGTp2

set_option linter.unusedSimpArgs false
set_option linter.unusedVariables false
namespace Go.Ct
section
open Go Go.RowKit
theorem ny{L:List Nv}{r:Rs}{gs ms cl gn:List Int}{R:Tr}(h:Wk L (.done r) gs ms cl gn R):gs=[]/\ms=[]/\cl=[]/\gn=[]/\R=.done r:=by
 cases h
 exact⟨rfl,rfl,rfl,rfl,rfl⟩
def XS.re(x:XS)(free:Nat):XS:={x with a:=0,m:=0,c:=0,g:=0,fr:=free,st:=false}
theorem zm{T R:Tr}{x:XS}{free N:Nat}(hw:Wk x.nodes T x.got x.made x.cel x.gns R)(hN:x.got.length+free=N):gL ⟨T,R,x.mm,free,N⟩ (x.re free) T:=.inl ⟨rfl,R,⟨Wk.nil _,hw,by show Rc (free-free) R x.mm R x.mm;rw[Nat.sub_self];exact Rc.refl _ _,Nat.le_refl _,Nat.zero_le _,Nat.zero_le _,Nat.zero_le _,Nat.zero_le _,hN⟩⟩
structure vX(T R:Tr)(free N:Nat)(rs:Rs)(x x':XS)(N':List aX)(dn':Bool)(rs':Rs):Prop where
 ok:x'.Ok
 ext:x'.L=x.L++N'
 lc:x.cs.length<=x'.cs.length
 gl:x'.got.length<=N
 R7:(dn'=true/\∃j,j<=free/\x'.got.length+free=N+j/\Wk x'.nodes T x'.got x'.made x'.cel x'.gns (.done rs')/\Rc j R x.mm (.done rs') x'.mm)∨(dn'=false/\rs'=rs/\x'.got.length=N/\∃R',R'.acc=some x'.nx/\Wk x'.nodes T x'.got x'.made x'.cel x'.gns R'/\Rc free R x.mm R' x'.mm)
theorem Nx.pw{T R:Tr}{free N:Nat}{rs r:Rs}{x x':XS}{N':List aX}(h:Nx ⟨T,R,x.mm,free,N⟩ (x.re free) x' N' (.done r) 0)(hs:x'.st=false):vX T R free N rs x x' N' true r:=by
 obtain⟨R',hR⟩:=h.go.run hs
 obtain⟨e1,e2,e3,e4,e5⟩:=ny hR.suf
 refine⟨h.ok,h.ext,h.lc,(by have:=hR.hN;show x'.got.length<=N;simp only at this;omega),.inl ⟨rfl,free-x'.fr,Nat.sub_le _ _,(by have:=hR.hN;have:=hR.hf;simp only at *;omega),?_,e5▸hR.rc⟩⟩
 have hp:=hR.pre
 rwa [List.take_of_length_le (List.drop_eq_nil_iff.1 e1),List.take_of_length_le (List.drop_eq_nil_iff.1 e2),List.take_of_length_le (List.drop_eq_nil_iff.1 e3),List.take_of_length_le (List.drop_eq_nil_iff.1 e4)] at hp
theorem Nx.p8{T R:Tr}{free N:Nat}{rs r:Rs}{x x':XS}{N':List aX}(h:Nx ⟨T,R,x.mm,free,N⟩ (x.re free) x' N' (.done r) 0)(hs:x'.st=true):vX T R free N rs x x' N' false rs:=by
 rcases h.go with h1|h1
 ·rw[hs] at h1;exact nomatch h1.1
 ·obtain⟨R',hR⟩:=h1.2
  exact⟨h.ok,h.ext,h.lc,Nat.le_of_eq hR.hN,.inr ⟨rfl,rfl,hR.hN,R',hR.ac,hR.wk,hR.rc⟩⟩
end
end Go.Ct
namespace Go.Proofs.YtbajmaoegmbfgaaGreat
section
open Go Go.RowKit Go.Ct
section
variable{k:Cl}{bx bm:Nat}{x:XS}{rs:Rs}{D:List Nat}{A:Fr}{w:World}
theorem Ov{m n N:Nat}{R:Tr}(free:Nat)(hg:Gx.Ok ⟨kZ k (mR k.key m) n,R,x.mm,free,N⟩)(hwk:Wk x.nodes (kZ k (mR k.key m) n) x.got x.made x.cel x.gns R)(hN:x.got.length+free=N)(hk:Xo k)(hn:n<=1073741824)(hm:m<18446744073709551616)(em:k.mask=(m:Int))(ht:k.t.root<=9223372036854775807)(ha:k.a<=x.L.length)(hb:k.b<=x.L.length)(hnn:k.n<=x.L.length)(hA:∀f∈aR x.L,f∈A)(ok:x.Ok)(hs:SF w D (xH k bx bm x false rs) A [] (xW x) w):Calls Tryz.prog 99 #[.pointer (some ⟨bx,0,none⟩),.int .i64 (free:Int)] w λ e w'=>∃q:XS×List aX×Bool×Rs,e=.returned (.tuple #[])/\vX (kZ k (mR k.key m) n) R free N rs x q.1 q.2.1 q.2.2.1 q.2.2.2/\SF w D (xH k bx bm q.1 q.2.2.1 q.2.2.2) [] (aR q.2.1) (xW q.1) w':=by
 have hfr:=hg.hf
 have ok0:(x.re free).Ok:=ok.q6 rfl rfl rfl rfl rfl rfl (Nat.zero_le _) (Nat.zero_le _) (Nat.zero_le _) (Nat.zero_le _) hfr
 refine enter Tryz.func99 Tryz.ntmps99 rfl rfl (cK hs) ?_
 simp only[cN]
 all_goals (refine jN ?_;refine qA ?_;refine qA ?_;refine aA ?_;refine D2 ?_;refine bZ (by first|exact dR λ _=>bJ rf bQ wn rf cG rf rf eE|exact(dR λ _=>bJ rf bQ wn rf cG rf xX eE)|exact(dR λ _=>aK rf bQ rf rf cD rf eE)|exact(aM.aZ (cS rf rf cG dV om) dU)|exact(aM.aZ (cU rf rf cG dV om) dU)|exact(aM.aZ (o_storePv rf rf cG dV om) dU)|exact(aM.aZ (o_storeP rf rf cD dV om) dU)) (λ _=>?_);refine D2 ?_;refine bZ (by first|exact dR λ _=>bJ rf bQ wn rf cG rf rf eE|exact(dR λ _=>bJ rf bQ wn rf cG rf xX eE)|exact(dR λ _=>aK rf bQ rf rf cD rf eE)|exact(aM.aZ (cS rf rf cG dV om) dU)|exact(aM.aZ (cU rf rf cG dV om) dU)|exact(aM.aZ (o_storePv rf rf cG dV om) dU)|exact(aM.aZ (o_storeP rf rf cD dV om) dU)) (λ _=>?_);refine D2 ?_;refine bZ (by first|exact dR λ _=>bJ rf bQ wn rf cG rf rf eE|exact(dR λ _=>bJ rf bQ wn rf cG rf xX eE)|exact(dR λ _=>aK rf bQ rf rf cD rf eE)|exact(aM.aZ (cS rf rf cG dV om) dU)|exact(aM.aZ (cU rf rf cG dV om) dU)|exact(aM.aZ (o_storePv rf rf cG dV om) dU)|exact(aM.aZ (o_storeP rf rf cD dV om) dU)) (λ _=>?_);refine D2 ?_;refine bZ (by first|exact dR λ _=>bJ rf bQ wn rf cG rf rf eE|exact(dR λ _=>bJ rf bQ wn rf cG rf xX eE)|exact(dR λ _=>aK rf bQ rf rf cD rf eE)|exact(aM.aZ (cS rf rf cG dV om) dU)|exact(aM.aZ (cU rf rf cG dV om) dU)|exact(aM.aZ (o_storePv rf rf cG dV om) dU)|exact(aM.aZ (o_storeP rf rf cD dV om) dU)) (λ _=>?_);refine D2 ?_;refine bZ (by first|exact dR λ _=>bJ rf bQ wn rf cG rf rf eE|exact(dR λ _=>bJ rf bQ wn rf cG rf xX eE)|exact(dR λ _=>aK rf bQ rf rf cD rf eE)|exact(aM.aZ (cS rf rf cG dV om) dU)|exact(aM.aZ (cU rf rf cG dV om) dU)|exact(aM.aZ (o_storePv rf rf cG dV om) dU)|exact(aM.aZ (o_storeP rf rf cD dV om) dU)) (λ _=>?_);refine D2 ?_;refine bZ (by first|exact dR λ _=>bJ rf bQ wn rf cG rf rf eE|exact(dR λ _=>bJ rf bQ wn rf cG rf xX eE)|exact(dR λ _=>aK rf bQ rf rf cD rf eE)|exact(aM.aZ (cS rf rf cG dV om) dU)|exact(aM.aZ (cU rf rf cG dV om) dU)|exact(aM.aZ (o_storePv rf rf cG dV om) dU)|exact(aM.aZ (o_storeP rf rf cD dV om) dU)) (λ _=>?_);refine aH ?_;refine J2 ?_;refine aC (cM (hs:=xH k bx bm (x.re free) false rs) (os:=xW (x.re free)) (A0:=aR x.L) (hA:=bB.of λ f hf=>.inr (.inl (hA f hf))) (hc:=λ w hs=>aAm hg (x:=x.re free) n hk hn hm em ht ha hb hnn (λ f hf=>hf) (zm hwk hN) ok0 hs)) (λ x25 h25=>?_);refine aJ (λ x4=>?_);refine bZ (by first|exact dR λ _=>bJ rf bQ wn rf cG rf rf eE|exact(dR λ _=>bJ rf bQ wn rf cG rf xX eE)|exact(dR λ _=>aK rf bQ rf rf cD rf eE)|exact(aM.aZ (cS rf rf cG dV om) dU)|exact(aM.aZ (cU rf rf cG dV om) dU)|exact(aM.aZ (o_storePv rf rf cG dV om) dU)|exact(aM.aZ (o_storeP rf rf cD dV om) dU)) (λ _=>?_);refine aH ?_;refine kY ?_;refine qT ?_)
 all_goals
 refine bG (λ c30=>?_) (λ c30=>?_)
 ·all_goals (refine dX [(0,[]),(1,[]),(2,[]),(3,[]),(4,[]),(5,[2]),(6,[]),(7,[]),(8,[])] ?_;refine iP ?_;refine bR ?_;refine J4 ?_;refine jQ (i:=5) (hq:=(by first|exact dR λ _=>bJ rf bQ wn rf cG rf rf eE|exact(dR λ _=>bJ rf bQ wn rf cG rf xX eE)|exact(dR λ _=>aK rf bQ rf rf cD rf eE)|exact(aM.aZ (cS rf rf cG dV om) dU)|exact(aM.aZ (cU rf rf cG dV om) dU)|exact(aM.aZ (o_storePv rf rf cG dV om) dU)|exact(aM.aZ (o_storeP rf rf cD dV om) dU))) (h:=λ _=>?_);refine J4 ?_;refine jQ (i:=8) (hq:=(dR λ _=>lO (off:=41) (vs:=x25.1.cells) rf bQ rf rfl cD (Nat.le_of_ble_eq_true rfl) rf eE)) (h:=λ _=>?_);refine eC ?_)
  all_goals
   refine Di Tryz.results99 (λ w hw=>?_)
   first
   | exact⟨(x25.2.1,x25.2.2,true,x25.1),rfl,h25.pw (by simpa using c30),by rw[List.append_nil] at hw;exact hw.aS (hF:=by exact aV.all)⟩
   | exact⟨(x25.2.1,x25.2.2,false,rs),rfl,h25.p8 (by simpa using c30),by rw[List.append_nil] at hw;exact hw.aS (hF:=by exact aV.all)⟩
 ·all_goals refine bD ?_
  all_goals
   refine Di Tryz.results99 (λ w hw=>?_)
   first
   | exact⟨(x25.2.1,x25.2.2,true,x25.1),rfl,h25.pw (by simpa using c30),by rw[List.append_nil] at hw;exact hw.aS (hF:=by exact aV.all)⟩
   | exact⟨(x25.2.1,x25.2.2,false,rs),rfl,h25.p8 (by simpa using c30),by rw[List.append_nil] at hw;exact hw.aS (hF:=by exact aV.all)⟩
end
end

/- Executions of the reference: steps. -/
end Go.Proofs.YtbajmaoegmbfgaaGreat
namespace Go.Ct
section
open Go Go.RowKit
theorem Hg{R:Tr}{a:Ac}(h:R.acc=some a){n c:Nat}(ht:bY R n c)(hn:1<=n):bY R n 64:=by
 cases R<;>simp only[Tr.acc,reduceCtorEq] at h
 ·cases n with
  | zero=>omega
  | succ n=>simpa only[bY] using ht
 ·cases n with
  | zero=>omega
  | succ n=>simpa only[bY] using ht
structure iw(T:Tr)(x:XS)(dn:Bool)(rs:Rs)(R:Tr):Prop where
 ok:x.Ok
 wk:Wk x.nodes T x.got x.made x.cel x.gns R
 R7:(dn=true/\R=.done rs)∨(dn=false/\R.acc=some x.nx)
theorem vX.exI{T R:Tr}{free N:Nat}{rs rs':Rs}{x x':XS}{N':List aX}{dn':Bool}(h:vX T R free N rs x x' N' dn' rs'):∃R' j,j<=free/\(dn'=false->j=free)/\iw T x' dn' rs' R'/\Rc j R x.mm R' x'.mm/\x'.L=x.L++N'/\x.cs.length<=x'.cs.length:=by
 rcases h.R7 with⟨e,j,h1,_,h2,h3⟩|⟨e,_,_,R',h1,h2,h3⟩
 ·exact⟨_,j,h1,(λ h=>by rw[e] at h;cases h),⟨h.ok,h2,.inl ⟨e,rfl⟩⟩,h3,h.ext,h.lc⟩
 ·exact⟨R',free,Nat.le_refl _,λ _=>rfl,⟨h.ok,h2,.inr ⟨e,h1⟩⟩,h3,h.ext,h.lc⟩
theorem vX.exN{T R:Tr}{free N:Nat}{rs rs':Rs}{x x':XS}{N':List aX}{dn':Bool}(h:vX T R free N rs x x' N' dn' rs'):∃R' j,j<=free/\(dn'=false->j=free)/\iw T x' dn' rs' R'/\Rc j R x.mm R' x'.mm/\x'.L=x.L++N'/\x.cs.length<=x'.cs.length/\x'.got.length+free=N+j:=by
 rcases h.R7 with⟨e,j,h1,h0,h2,h3⟩|⟨e,_,h0,R',h1,h2,h3⟩
 ·exact⟨_,j,h1,(λ h=>by rw[e] at h;cases h),⟨h.ok,h2,.inl ⟨e,rfl⟩⟩,h3,h.ext,h.lc,h0⟩
 ·exact⟨R',free,Nat.le_refl _,λ _=>rfl,⟨h.ok,h2,.inr ⟨e,h1⟩⟩,h3,h.ext,h.lc,by rw[h0]⟩
end
end Go.Ct
namespace Go.Proofs.YtbajmaoegmbfgaaGreat
section
open Go Go.RowKit Go.Ct
section
variable{k:Cl}{bx bm:Nat}{x:XS}{dn:Bool}{rs:Rs}{D:List Nat}{A:Fr}{w:World}
theorem Fu(hs:SF w D (xH k bx bm x dn rs) A [] (xW x) w):Calls Tryz.prog 69 #[.pointer (some ⟨bx,0,none⟩)] w λ e w'=>∃q:Unit,e=.returned (.bool dn)/\True/\SF w D (xH k bx bm x dn rs) [] [] (xW x) w':=by
 refine enter Tryz.func69 Tryz.ntmps69 rfl rfl (cK hs) ?_
 simp only[cN]
 all_goals (refine dC ?_;refine kY ?_;refine J1 ?_)
 all_goals
 refine aU Tryz.results69 (λ w hw=>?_)
 exact⟨(),rfl,trivial,hw.aS⟩
theorem Mo(hs:SF w D (xH k bx bm x dn rs) A [] (xW x) w):Calls Tryz.prog 135 #[.pointer (some ⟨bx,0,none⟩)] w λ e w'=>∃q:Unit,e=.returned (.agg ⟨rs.cells⟩)/\True/\SF w D (xH k bx bm x dn rs) [] [] (xW x) w':=by
 refine enter Tryz.func135 Tryz.ntmps135 rfl rfl (cK hs) ?_
 simp only[cN]
 all_goals (refine J0 ?_;refine aJ (λ x2=>?_);refine aH ?_;refine Bt ?_;refine aB (aL (k:=8) (vs:=rs.cells) rf bQ cD rfl rfl) rfl ?_;refine J5 ?_)
 all_goals
 refine bE Tryz.results135 (λ w hw=>?_)
 exact⟨(),rfl,trivial,hw.aS⟩
theorem jm(hs:SF w D (xH k bx bm x dn rs) A [] (xW x) w):Calls Tryz.prog 132 #[.pointer (some ⟨bx,0,none⟩)] w λ e w'=>∃q:Unit,e=.returned (.int .i64 (x.got.length:Int))/\True/\SF w D (xH k bx bm x dn rs) [] [] (xW x) w':=by
 refine enter Tryz.func132 Tryz.ntmps132 rfl rfl (cK hs) ?_
 simp only[cN]
 all_goals (refine dC ?_;refine kY ?_;refine eH ?_;refine J1 ?_)
 all_goals
 refine aU Tryz.results132 (λ w hw=>?_)
 exact⟨(),rfl,trivial,hw.aS⟩
theorem l9(hs:SF w D (xH k bx bm x dn rs) A [] (xW x) w):Calls Tryz.prog 134 #[.pointer (some ⟨bx,0,none⟩)] w λ e w'=>∃q:Unit,e=.returned (.tuple #[.agg ⟨(if dn=true then Ac.zero else x.nx).cells⟩,.bool (!dn)])/\True/\SF w D (xH k bx bm x dn rs) [] [] (xW x) w':=by
 refine enter Tryz.func134 Tryz.ntmps134 rfl rfl (cK hs) ?_
 simp only[cN]
 all_goals (refine J0 ?_;refine aJ (λ x2=>?_);refine jM ?_;refine kY ?_;refine aH ?_)
 all_goals
 refine bG (λ c7=>?_) (λ c7=>?_)
 ·all_goals (refine J0 ?_;refine bO ?_;refine yN ?_)
  all_goals
   refine bE Tryz.results134 (λ w hw=>?_)
   subst c7
   exact⟨(),rfl,trivial,hw.aS⟩
 ·all_goals (refine bD ?_;refine Bt ?_;refine aB (aL (k:=4) (vs:=x.nx.cells) rf bQ cD rfl rfl) rfl ?_;refine yN ?_)
  all_goals
   refine bE Tryz.results134 (λ w hw=>?_)
   subst c7
   exact⟨(),rfl,trivial,hw.aS⟩
theorem Q7{m n N:Nat}{R:Tr}(hT:bY (kZ k (mR k.key m) n) N 64)(hN:N<=1073741824)(hgN:x.got.length+1=N)(hsz:x.L.length<=137438953472/\x.cs.length<=137438953472/\x.gen<=137438953472)(hi:iw (kZ k (mR k.key m) n) x dn rs R)(hk:Xo k)(hn:n<=1073741824)(hm:m<18446744073709551616)(em:k.mask=(m:Int))(ht:k.t.root<=9223372036854775807)(ha:k.a<=x.L.length)(hb:k.b<=x.L.length)(hnn:k.n<=x.L.length)(hA:∀f∈aR x.L,f∈A)(hs:SF w D (xH k bx bm x dn rs) A [] (xW x) w):Calls Tryz.prog 68 #[.pointer (some ⟨bx,0,none⟩)] w λ e w'=>∃q:XS×List aX×Bool×Rs,e=.returned (.tuple #[])/\((dn=true/\q=(x,[],true,rs))∨(dn=false/\vX (kZ k (mR k.key m) n) R 1 N rs x q.1 q.2.1 q.2.2.1 q.2.2.2))/\SF w D (xH k bx bm q.1 q.2.2.1 q.2.2.2) [] (aR q.2.1) (xW q.1) w':=by
 have hg:dn=false->Gx.Ok ⟨kZ k (mR k.key m) n,R,x.mm,1,N⟩:=λ e=>by
  rcases hi.R7 with⟨e2,_⟩|⟨_,e2⟩
  ·rw[e] at e2;cases e2
  ·obtain⟨c,h1,_,_⟩:=hi.wk.rR (Nat.le_refl 64) hT (by omega)
   refine⟨hT,⟨N-x.got.length,by show 1<=N-x.got.length;omega,Hg e2 h1 (by omega)⟩,hN,Nat.le_refl 1,?_⟩
   show(x.L.map aX.c).length<=_/\_
   rw[List.length_map]
   exact hsz
 refine enter Tryz.func68 Tryz.ntmps68 rfl rfl (cK hs) ?_
 simp only[cN]
 all_goals (refine kY ?_;refine qT ?_)
 all_goals
 refine bG (λ c6=>?_) (λ c6=>?_)
 ·all_goals
   have ed:dn=false:=by simpa using c6
   subst ed
  all_goals (refine zK ?_;refine aC (cM (hs:=xH k bx bm x false rs) (os:=xW x) (A0:=aR x.L) (hA:=bB.of λ f hf=>.inr (.inl (hA f hf))) (hc:=λ w hs=>Ov (N:=N) (n:=n) (m:=m) 1 (hg rfl) hi.wk hgN hk hn hm em ht ha hb hnn (λ f hf=>hf) hi.ok hs)) (λ x8 h8=>?_);refine aH ?_)
  all_goals
   refine Di Tryz.results68 (λ w hw=>?_)
   first
   | exact⟨x8,rfl,.inr ⟨rfl,h8⟩,by rw[List.append_nil] at hw;exact hw.aS (hF:=by exact aV.all)⟩
   | exact⟨(x,[],true,rs),rfl,.inl ⟨by simpa using c6,rfl⟩,by rw[show dn=true from by simpa using c6] at hw;exact hw.aS (hF:=by exact aV.nil)⟩
 ·all_goals refine bD ?_
  all_goals
   refine Di Tryz.results68 (λ w hw=>?_)
   first
   | exact⟨(x,[],true,rs),rfl,.inl ⟨by simpa using c6,rfl⟩,by rw[show dn=true from by simpa using c6] at hw;exact hw.aS (hF:=by exact aV.nil)⟩
end
end

/- Executions of the reference: the start. -/
end Go.Proofs.YtbajmaoegmbfgaaGreat
namespace Go.Ct
section
open Go Go.RowKit
def XS.new(L:List aX)(cs:List Int)(gen acc:Int)(pn:Option Addr)(cn:Nat)(pc:Option Addr)(cc:Nat):XS:=⟨L,cs,gen,acc,pn,cn,pc,cc,[],[],[],[],none,0,none,0,none,0,none,0,0,0,0,0,0,false,Ac.zero⟩
end
end Go.Ct
namespace Go.Proofs.YtbajmaoegmbfgaaGreat
section
open Go Go.RowKit Go.Ct
section
variable{k:Cl}{bm:Nat}{L:List aX}{cs:List Int}{gen acc:Int}{pn pc:Option Addr}{cn cc:Nat}{D:List Nat}{A:Fr}{w:World}
theorem o9{m n N:Nat}(hT:bY (kZ k (mR k.key m) n) N 64)(hN:N<=1073741824)(hsz:L.length<=137438953472/\cs.length<=137438953472/\gen<=137438953472)(hk:Xo k)(hn:n<=1073741824)(hm:m<18446744073709551616)(em:k.mask=(m:Int))(ht:k.t.root<=9223372036854775807)(ha:k.a<=L.length)(hb:k.b<=L.length)(hnn:k.n<=L.length)(hA:∀f∈aR L,f∈A)(ok:(XS.new L cs gen acc pn cn pc cc).Ok)(hs:SF w D [(bm,mO L cs gen acc pn cn pc cc)] A [] [⟨pn,iO L,cn,47,14⟩,⟨pc,aG cs,cc,37,1⟩] w)(hN0:N=0:=by rfl):Calls Tryz.prog 49 #[.pointer (some ⟨bm,0,none⟩),.agg ⟨Pt k⟩] w λ e w'=>∃q:Nat×XS×List aX×Bool×Rs,e=.returned (.pointer (some ⟨q.1,0,none⟩))/\vX (kZ k (mR k.key m) n) (kZ k (mR k.key m) n) 0 N Rs.zero (XS.new L cs gen acc pn cn pc cc) q.2.1 q.2.2.1 q.2.2.2.1 q.2.2.2.2/\SF w D (xH k q.1 bm q.2.1 q.2.2.2.1 q.2.2.2.2) [] (aR q.2.2.1) (xW q.2.1) w':=by
 have hg:Gx.Ok ⟨kZ k (mR k.key m) n,kZ k (mR k.key m) n,(XS.new L cs gen acc pn cn pc cc).mm,0,N⟩:=⟨hT,⟨N,Nat.zero_le _,hT⟩,hN,Nat.zero_le _,by
  show(L.map aX.c).length<=_/\_
  rw[List.length_map]
  exact hsz⟩
 refine enter Tryz.func49 Tryz.ntmps49 rfl rfl ((((hs.mQ 3 1).mQ 27 1).mQ 37 1).mQ 37 1) ?_
 simp only[cN]
 all_goals (refine J0 ?_;refine bW (λ x3=>?_);refine J1 ?_;refine J2 ?_;refine aB (aL (k:=25) (vs:=Pt k) rf bQ cD rfl rfl) rfl ?_;refine bO ?_;refine bW (λ x9=>?_);refine J1 ?_;refine J2 ?_;refine aC (cM (hs:=xH k x9 bm (XS.new L cs gen acc pn cn pc cc) false Rs.zero) (os:=xW (XS.new L cs gen acc pn cn pc cc)) (A0:=aR L) (hA:=bB.of λ f hf=>.inr (.inl (hA f hf))) (hc:=λ w hs=>Ov (N:=N) (n:=n) (m:=m) 0 hg (Wk.nil _) hN0.symm hk hn hm em ht ha hb hnn (λ f hf=>hf) ok hs)) (λ x11 h11=>?_);refine aH ?_;refine J2 ?_;refine J1 ?_)
 all_goals
 refine aU Tryz.results49 (λ w hw=>?_)
 exact⟨(x9,x11.1,x11.2.1,x11.2.2.1,x11.2.2.2),rfl,h11,by rw[List.append_nil] at hw;exact hw.aS (hF:=by exact aV.all)⟩
end
end

/- The trees are never stuck within as many accesses as they have fuel: single procedures. -/
section
open Go Go.RowKit Go.Ct
theorem r6:∀{t:Tr} {n c c':Nat},c<=c'->bY t n c->bY t n c':=by
 intro t
 induction t with
 | done r=>intros;simp[bY]
 | stuck=>intro n c c' _ h;simp[bY] at h
 | load r k ih =>
  intro n c c' _ h
  cases n with
  | zero=>simp[bY]
  | succ n=>simpa only[bY] using h
 | kX r o m k ih =>
  intro n c c' _ h
  cases n with
  | zero=>simp[bY]
  | succ n=>simpa only[bY] using h
 | alloc r o k ih =>
  intro n c c' hc h
  cases c with
  | zero=>simp[bY] at h
  | succ c =>
   cases c' with
   | zero=>omega
   | succ c'=>simp only[bY] at h ⊢;exact λ v=>ih v (by omega) (h v)
 | cell r k ih =>
  intro n c c' hc h
  cases c with
  | zero=>simp[bY] at h
  | succ c =>
   cases c' with
   | zero=>omega
   | succ c'=>simp only[bY] at h ⊢;exact λ v=>ih v (by omega) (h v)
 | gen k ih =>
  intro n c c' hc h
  cases c with
  | zero=>simp[bY] at h
  | succ c =>
   cases c' with
   | zero=>omega
   | succ c'=>simp only[bY] at h ⊢;exact λ v=>ih v (by omega) (h v)
 | node r k ih =>
  intro n c c' hc h
  cases c<;>cases c'<;>simp only[bY] at h ⊢ <;> exact λ v=>ih v (by omega) (h v)
section
variable{n c:Nat}
theorem pM{a:Int}{k:Int->Tr}(h:∀n',n'<n->∀v,bY (k v) n' 64):bY (.load a k) n c:=by
 cases n with
 | zero=>simp[bY]
 | succ n=>simp only[bY];exact h n (Nat.lt_succ_self n)
theorem Cn{a o m:Int}{k:Bool->Tr}(h:∀n',n'<n->∀v,bY (k v) n' 64):bY (.kX a o m k) n c:=by
 cases n with
 | zero=>simp[bY]
 | succ n=>simp only[bY];exact h n (Nat.lt_succ_self n)
theorem L6{a:Nv}{i:Int}{k:Int->Tr}(h:∀v,bY (k v) n c):bY (.alloc a i k) n (c+1):=by simp only[bY];exact h
theorem tm{i:Int}{k:Int->Tr}(h:∀v,bY (k v) n c):bY (.cell i k) n (c+1):=by simp only[bY];exact h
theorem yd{k:Int->Tr}(h:∀v,bY (k v) n c):bY (.gen k) n (c+1):=by simp only[bY];exact h
theorem dD{r:Int}{k:Nv->Tr}(h:∀v,bY (k v) n c):bY (.node r k) n c:=by
 cases c<;>simp only[bY]<;>exact h
abbrev H7{X:Type}(K:X->Tr)(n:Nat):Prop:=∀n',n'<n->∀v,bY (K v) n' 64
theorem H7.lt{X:Type}{K:X->Tr}{m:Nat}(h:H7 K n)(hm:m<=n):H7 K m:=λ n' h' v=>h n' (by omega) v
theorem fv{v s:Int}{K:Int->Tr}(h:∀w,bY (K w) n c):bY (w5 v s K) n c:=dD λ _=>h _
theorem vZ{t:gY}{v s:Int}{K:Int->Tr}(h:H7 K n):bY (mV t v s K) n c:=fv λ _=>Cn λ n' hn _=>h n' hn _
theorem Xg{t:gY}{K:Int->Tr}(h:H7 K n):bY (Jo t K) n c:=pM λ n1 h1 v=>dD λ nv=>by
 split
 ·exact h n1 h1 v
 ·exact dD λ _=>pM λ n2 h2 s=>by
   split
   ·exact dD λ _=>Cn λ n3 h3 _=>dD λ _=>pM λ n4 h4 _=>vZ (h.lt (by omega))
   ·exact vZ (h.lt (by omega))
theorem Of{i m p:Int}{K:Int->Tr}(h:H7 K n):bY (Ol i m p K) n c:=dD λ _=>dD λ _=>Cn λ n' hn _=>dD λ _=>h n' hn _
theorem Ar{i m:Int}{K:Int->Tr}(h:H7 K n):bY (jY i m K) n c:=dD λ _=>pM λ n1 h1 p=>by
 split
 ·exact h n1 h1 _
 ·exact Of (h.lt (by omega))
theorem Jp{i m p:Int}{b:Bool}{K:Int->Tr}(h:H7 K n)(hc:1<=c):bY (qW i m p b K) n c:=by
 unfold qW
 split
 ·exact dD λ _=>Cn λ n1 h1 _=>Ar (h.lt (by omega))
 ·obtain⟨c,rfl⟩:∃d,c=d+1:=⟨c-1,by omega⟩
  exact dD λ _=>L6 λ _=>Cn λ n1 h1 _=>Ar (h.lt (by omega))
theorem Cv{t:gY}{i m:Int}{K:Int->Tr}(h:H7 K n):bY (sJ t i m K) n c:=dD λ _=>pM λ n1 h1 p=>by
 split
 ·exact h n1 h1 _
 ·refine dD λ _=>?_
  split
  ·split
   ·exact Jp (h.lt (by omega)) (by decide)
   ·exact Xg λ n2 h2 _=>dD λ _=>dD λ _=>Jp (h.lt (by omega)) (by decide)
  ·exact Of (h.lt (by omega))
theorem hU{t:gY}{i:Int}{K:Int->Tr}(h:H7 K n):bY (nV t i K) n c:=dD λ _=>pM λ n1 h1 _=>Cv (h.lt (by omega))
theorem Co{t:gY}{v:Int}{K:Tr}(h:∀n',n'<n->bY K n' 64):bY (oO t v K) n c:=dD λ _=>hU λ n1 h1 _=>dD λ _=>dD λ _=>Cn λ n2 h2 _=>h n2 (by omega)
theorem oZ{t:gY}{K:Int->Tr}(h:H7 K n):bY (pV t K) n c:=pM λ n1 h1 v=>dD λ nv=>by
 split
 ·exact h n1 h1 v
 ·exact dD λ _=>pM λ n2 h2 s=>by
   split
   ·exact Co λ n3 h3=>dD λ _=>pM λ n4 h4 _=>vZ (h.lt (by omega))
   ·exact vZ (h.lt (by omega))
theorem kK{t:gY}{i o m:Int}{K:Bool->Tr}(h:H7 K n):bY (oB t i o m K) n c:=dD λ _=>Cn λ n1 h1 b=>by
 split
 ·exact Cv λ n2 h2 _=>h n2 (by omega) _
 ·exact h n1 h1 _
theorem yX{t:gY}{o e m:Int}{K:Bool->Tr}(h:H7 K n)(hc:1<=c):bY (oI t o e m K) n c:=by
 obtain⟨c,rfl⟩:∃d,c=d+1:=⟨c-1,by omega⟩
 exact L6 λ _=>Cn λ n1 h1 b=>by
  split
  ·exact Co λ n2 h2=>dD λ _=>pM λ n3 h3 _=>vZ λ n4 h4 _=>h n4 (by omega) _
  ·exact h n1 h1 _
end
end

end Go.Proofs.YtbajmaoegmbfgaaGreat

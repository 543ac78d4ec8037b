/- Executions of the reference: one repetition. -/
import Derived.Test.YtpobgmdalcpomaaGreatEx23
import Derived.Test.YtpobgmdalcpomaaGreatGRn1

set_option linter.unusedSimpArgs false
set_option linter.unusedVariables false
namespace Go.Ct
section
open Go Go.RowKit
theorem jm{L:List Nv}{r:Rs}{gs ms cl gn:List Int}{R:Tr}(h:Wk L (.done r) gs ms cl gn R):gs=[]/\ms=[]/\cl=[]/\gn=[]/\R=.done r:=by
 cases h
 exact⟨rfl,rfl,rfl,rfl,rfl⟩
def XS.re(x:XS)(free:Nat):XS:={x with a:=0,m:=0,c:=0,g:=0,fr:=free,st:=false}
theorem ur{T R:Tr}{x:XS}{free N:Nat}(hw:Wk x.nodes T x.got x.made x.cel x.gns R)(hN:x.got.length+free<=N):gC ⟨T,R,x.mm,free,N⟩ (x.re free) T:=.inl ⟨rfl,R,⟨Wk.nil _,hw,by show Rc (free-free) R x.mm R x.mm;rw[Nat.sub_self];exact Rc.refl _ _,Nat.le_refl _,Nat.zero_le _,Nat.zero_le _,Nat.zero_le _,Nat.zero_le _,hN⟩⟩
structure Aw(T R:Tr)(free N:Nat)(rs:Rs)(x x':XS)(N':List aQ)(dn':Bool)(rs':Rs):Prop where
 ok:x'.Ok
 ext:x'.L=x.L++N'
 lc:x.cs.length<=x'.cs.length
 gl:x'.got.length<=N
 cg:(dn'=true/\∃j,j<=free/\Wk x'.nodes T x'.got x'.made x'.cel x'.gns (.done rs')/\Rc j R x.mm (.done rs') x'.mm)∨(dn'=false/\rs'=rs/\∃R',R'.acc=some x'.nx/\Wk x'.nodes T x'.got x'.made x'.cel x'.gns R'/\Rc free R x.mm R' x'.mm)
theorem Nx.nf{T R:Tr}{free N:Nat}{rs r:Rs}{x x':XS}{N':List aQ}(h:Nx ⟨T,R,x.mm,free,N⟩ (x.re free) x' N' (.done r) 0)(hs:x'.st=false):Aw T R free N rs x x' N' true r:=by
 obtain⟨R',hR⟩:=h.go.run hs
 obtain⟨e1,e2,e3,e4,e5⟩:=jm hR.suf
 refine⟨h.ok,h.ext,h.lc,(by have:=hR.hN;show x'.got.length<=N;simp only at this;omega),.inl ⟨rfl,free-x'.fr,Nat.sub_le _ _,?_,e5▸hR.rc⟩⟩
 have hp:=hR.pre
 rwa [List.take_of_length_le (List.drop_eq_nil_iff.1 e1),List.take_of_length_le (List.drop_eq_nil_iff.1 e2),List.take_of_length_le (List.drop_eq_nil_iff.1 e3),List.take_of_length_le (List.drop_eq_nil_iff.1 e4)] at hp
theorem Nx.ml{T R:Tr}{free N:Nat}{rs r:Rs}{x x':XS}{N':List aQ}(h:Nx ⟨T,R,x.mm,free,N⟩ (x.re free) x' N' (.done r) 0)(hs:x'.st=true):Aw T R free N rs x x' N' false rs:=by
 rcases h.go with h1|h1
 ·rw[hs] at h1;exact nomatch h1.1
 ·obtain⟨R',hR⟩:=h1.2
  exact⟨h.ok,h.ext,h.lc,hR.hN,.inr ⟨rfl,rfl,R',hR.ac,hR.wk,hR.rc⟩⟩
end
end Go.Ct
namespace Go.Proofs.YtpobgmdalcpomaaGreat
section
open Go Go.RowKit Go.Ct
section
variable{k:Cl}{bx bm:Nat}{x:XS}{rs:Rs}{D:List Nat}{A:Fr}{w:World}
theorem Nr{m n N:Nat}{R:Tr}(free:Nat)(hg:Gx.Ok ⟨lV k (lP k.key m) n,R,x.mm,free,N⟩)(hwk:Wk x.nodes (lV k (lP k.key m) n) x.got x.made x.cel x.gns R)(hN:x.got.length+free<=N)(hk:fp k)(hn:n<=1073741824)(hm:m<18446744073709551616)(em:k.mask=(m:Int))(ht:k.t.root<=9223372036854775807)(ha:k.a<=x.L.length)(hb:k.b<=x.L.length)(hnn:k.n<=x.L.length)(hA:∀f∈bG x.L,f∈A)(ok:x.Ok)(hs:SF w D (xH k bx bm x false rs) A [] (xW x) w):Calls Tryz.prog 52 #[.pointer (some ⟨bx,0,none⟩),.int .i64 (free:Int)] w λ e w'=>∃q:XS×List aQ×Bool×Rs,e=.returned (.tuple #[])/\Aw (lV k (lP k.key m) n) R free N rs x q.1 q.2.1 q.2.2.1 q.2.2.2/\SF w D (xH k bx bm q.1 q.2.2.1 q.2.2.2) [] (bG q.2.1) (xW q.1) w':=by
 have hfr:=hg.hf
 have ok0:(x.re free).Ok:=ok.lh rfl rfl rfl rfl rfl rfl (Nat.zero_le _) (Nat.zero_le _) (Nat.zero_le _) (Nat.zero_le _) hfr
 refine enter Tryz.func52 Tryz.ntmps52 rfl rfl (cN hs) ?_
 simp only[dB]
 all_goals (refine jE ?_;refine oI ?_;refine oI ?_;refine aA ?_;refine Db ?_;refine iS (by first|exact fQ λ _=>bN rf cQ wn rf bU rf rf fZ|exact(fQ λ _=>bN rf cQ wn rf bU rf wX fZ)|exact(fQ λ _=>bZ rf cQ rf rf dS rf fZ)|exact(aP.bC (cW rf rf bU dZ om) dV)|exact(aP.bC (cU rf rf bU dZ om) dV)|exact(aP.bC (o_storePv rf rf bU dZ om) dV)|exact(aP.bC (o_storeP rf rf dS dZ om) dV)) (λ _=>?_);refine Db ?_;refine iS (by first|exact fQ λ _=>bN rf cQ wn rf bU rf rf fZ|exact(fQ λ _=>bN rf cQ wn rf bU rf wX fZ)|exact(fQ λ _=>bZ rf cQ rf rf dS rf fZ)|exact(aP.bC (cW rf rf bU dZ om) dV)|exact(aP.bC (cU rf rf bU dZ om) dV)|exact(aP.bC (o_storePv rf rf bU dZ om) dV)|exact(aP.bC (o_storeP rf rf dS dZ om) dV)) (λ _=>?_);refine Db ?_;refine iS (by first|exact fQ λ _=>bN rf cQ wn rf bU rf rf fZ|exact(fQ λ _=>bN rf cQ wn rf bU rf wX fZ)|exact(fQ λ _=>bZ rf cQ rf rf dS rf fZ)|exact(aP.bC (cW rf rf bU dZ om) dV)|exact(aP.bC (cU rf rf bU dZ om) dV)|exact(aP.bC (o_storePv rf rf bU dZ om) dV)|exact(aP.bC (o_storeP rf rf dS dZ om) dV)) (λ _=>?_);refine Db ?_;refine iS (by first|exact fQ λ _=>bN rf cQ wn rf bU rf rf fZ|exact(fQ λ _=>bN rf cQ wn rf bU rf wX fZ)|exact(fQ λ _=>bZ rf cQ rf rf dS rf fZ)|exact(aP.bC (cW rf rf bU dZ om) dV)|exact(aP.bC (cU rf rf bU dZ om) dV)|exact(aP.bC (o_storePv rf rf bU dZ om) dV)|exact(aP.bC (o_storeP rf rf dS dZ om) dV)) (λ _=>?_);refine Db ?_;refine iS (by first|exact fQ λ _=>bN rf cQ wn rf bU rf rf fZ|exact(fQ λ _=>bN rf cQ wn rf bU rf wX fZ)|exact(fQ λ _=>bZ rf cQ rf rf dS rf fZ)|exact(aP.bC (cW rf rf bU dZ om) dV)|exact(aP.bC (cU rf rf bU dZ om) dV)|exact(aP.bC (o_storePv rf rf bU dZ om) dV)|exact(aP.bC (o_storeP rf rf dS dZ om) dV)) (λ _=>?_);refine Db ?_;refine iS (by first|exact fQ λ _=>bN rf cQ wn rf bU rf rf fZ|exact(fQ λ _=>bN rf cQ wn rf bU rf wX fZ)|exact(fQ λ _=>bZ rf cQ rf rf dS rf fZ)|exact(aP.bC (cW rf rf bU dZ om) dV)|exact(aP.bC (cU rf rf bU dZ om) dV)|exact(aP.bC (o_storePv rf rf bU dZ om) dV)|exact(aP.bC (o_storeP rf rf dS dZ om) dV)) (λ _=>?_);refine aN ?_;refine J2 ?_;(refine aF (cM (hs:=xH k bx bm (x.re free) false rs) (os:=xW (x.re free)) (A0:=bG x.L) (hA:=dA.of λ f hf=>.inr (.inl (hA f hf))) (hc:=λ w hs=>wi hg (x:=x.re free) n hk hn hm em ht ha hb hnn (λ f hf=>hf) (ur hwk hN) ok0 hs)) (λ x25=>?_);try (refine aB (λ h25=>?_)));refine aY (λ x4=>?_);refine iS (by first|exact fQ λ _=>bN rf cQ wn rf bU rf rf fZ|exact(fQ λ _=>bN rf cQ wn rf bU rf wX fZ)|exact(fQ λ _=>bZ rf cQ rf rf dS rf fZ)|exact(aP.bC (cW rf rf bU dZ om) dV)|exact(aP.bC (cU rf rf bU dZ om) dV)|exact(aP.bC (o_storePv rf rf bU dZ om) dV)|exact(aP.bC (o_storeP rf rf dS dZ om) dV)) (λ _=>?_);refine aN ?_;refine kZ ?_;refine kD ?_)
 all_goals
 refine bF (λ c30=>?_) (λ c30=>?_)
 ·try exact nv c30
  all_goals (refine dL [(0,[]),(1,[]),(2,[]),(3,[]),(4,[]),(5,[2]),(6,[]),(7,[]),(8,[])] ?_;refine gD ?_;refine bT ?_;refine J4 ?_;refine kR (i:=5) (hq:=(by first|exact fQ λ _=>bN rf cQ wn rf bU rf rf fZ|exact(fQ λ _=>bN rf cQ wn rf bU rf wX fZ)|exact(fQ λ _=>bZ rf cQ rf rf dS rf fZ)|exact(aP.bC (cW rf rf bU dZ om) dV)|exact(aP.bC (cU rf rf bU dZ om) dV)|exact(aP.bC (o_storePv rf rf bU dZ om) dV)|exact(aP.bC (o_storeP rf rf dS dZ om) dV))) (h:=λ _=>?_);refine J4 ?_;refine kR (i:=8) (hq:=(fQ λ _=>pX (off:=41) (vs:=x25.1.cells) rf cQ rf rfl dS (Nat.le_of_ble_eq_true rfl) rf fZ)) (h:=λ _=>?_);refine eO ?_)
  all_goals
   refine zG Tryz.results52 (λ w hw=>?_)
   first
   | exact⟨(x25.2.1,x25.2.2,true,x25.1),rfl,h25.nf (by simpa using c30),by rw[List.append_nil] at hw;exact hw.aV (hF:=by exact aW.all)⟩
   | exact⟨(x25.2.1,x25.2.2,false,rs),rfl,h25.ml (by simpa using c30),by rw[List.append_nil] at hw;exact hw.aV (hF:=by exact aW.all)⟩
 ·try exact nv c30
  all_goals refine aZ ?_
  all_goals
   refine zG Tryz.results52 (λ w hw=>?_)
   first
   | exact⟨(x25.2.1,x25.2.2,true,x25.1),rfl,h25.nf (by simpa using c30),by rw[List.append_nil] at hw;exact hw.aV (hF:=by exact aW.all)⟩
   | exact⟨(x25.2.1,x25.2.2,false,rs),rfl,h25.ml (by simpa using c30),by rw[List.append_nil] at hw;exact hw.aV (hF:=by exact aW.all)⟩
end
end

/- Executions of the reference: steps. -/
end Go.Proofs.YtpobgmdalcpomaaGreat
namespace Go.Ct
section
open Go Go.RowKit
theorem Oa{R:Tr}{a:Ac}(h:R.acc=some a){n c:Nat}(ht:cO R n c)(hn:1<=n):cO R n 64:=by
 cases R<;>simp only[Tr.acc,reduceCtorEq] at h
 ·cases n with
  | zero=>omega
  | succ n=>simpa only[cO] using ht
 ·cases n with
  | zero=>omega
  | succ n=>simpa only[cO] using ht
structure n0(T:Tr)(x:XS)(dn:Bool)(rs:Rs)(R:Tr):Prop where
 ok:x.Ok
 wk:Wk x.nodes T x.got x.made x.cel x.gns R
 cg:(dn=true/\R=.done rs)∨(dn=false/\R.acc=some x.nx)
theorem Aw.yl{T R:Tr}{free N:Nat}{rs rs':Rs}{x x':XS}{N':List aQ}{dn':Bool}(h:Aw T R free N rs x x' N' dn' rs'):∃R' j,j<=free/\(dn'=false->j=free)/\n0 T x' dn' rs' R'/\Rc j R x.mm R' x'.mm/\x'.L=x.L++N'/\x.cs.length<=x'.cs.length:=by
 rcases h.cg with⟨e,j,h1,h2,h3⟩|⟨e,_,R',h1,h2,h3⟩
 ·exact⟨_,j,h1,(λ h=>by rw[e] at h;cases h),⟨h.ok,h2,.inl ⟨e,rfl⟩⟩,h3,h.ext,h.lc⟩
 ·exact⟨R',free,Nat.le_refl _,λ _=>rfl,⟨h.ok,h2,.inr ⟨e,h1⟩⟩,h3,h.ext,h.lc⟩
end
end Go.Ct
namespace Go.Proofs.YtpobgmdalcpomaaGreat
section
open Go Go.RowKit Go.Ct
section
variable{k:Cl}{bx bm:Nat}{x:XS}{dn:Bool}{rs:Rs}{D:List Nat}{A:Fr}{w:World}
theorem Zb(hs:SF w D (xH k bx bm x dn rs) A [] (xW x) w):Calls Tryz.prog 39 #[.pointer (some ⟨bx,0,none⟩)] w λ e w'=>∃q:Unit,e=.returned (.bool dn)/\True/\SF w D (xH k bx bm x dn rs) [] [] (xW x) w':=by
 refine enter Tryz.func39 Tryz.ntmps39 rfl rfl (cN hs) ?_
 simp only[dB]
 all_goals (refine dH ?_;refine kZ ?_;refine J1 ?_)
 all_goals
 refine aR Tryz.results39 (λ w hw=>?_)
 exact⟨(),rfl,trivial,hw.aV⟩
theorem Xp(hs:SF w D (xH k bx bm x dn rs) A [] (xW x) w):Calls Tryz.prog 62 #[.pointer (some ⟨bx,0,none⟩)] w λ e w'=>∃q:Unit,e=.returned (.agg ⟨rs.cells⟩)/\True/\SF w D (xH k bx bm x dn rs) [] [] (xW x) w':=by
 refine enter Tryz.func62 Tryz.ntmps62 rfl rfl (cN hs) ?_
 simp only[dB]
 all_goals (refine J0 ?_;refine aY (λ x2=>?_);refine aN ?_;refine wV ?_;refine aH (aM (k:=8) (vs:=rs.cells) rf cQ dS rfl rfl) rfl ?_;refine J5 ?_)
 all_goals
 refine bH Tryz.results62 (λ w hw=>?_)
 exact⟨(),rfl,trivial,hw.aV⟩
theorem X1{m n N:Nat}{R:Tr}(hT:cO (lV k (lP k.key m) n) N 64)(hN:N<=1073741824)(hgN:x.got.length+1<=N)(hsz:x.L.length<=137438953472/\x.cs.length<=137438953472/\x.gen<=137438953472)(hi:n0 (lV k (lP k.key m) n) x dn rs R)(hk:fp k)(hn:n<=1073741824)(hm:m<18446744073709551616)(em:k.mask=(m:Int))(ht:k.t.root<=9223372036854775807)(ha:k.a<=x.L.length)(hb:k.b<=x.L.length)(hnn:k.n<=x.L.length)(hA:∀f∈bG x.L,f∈A)(hs:SF w D (xH k bx bm x dn rs) A [] (xW x) w):Calls Tryz.prog 32 #[.pointer (some ⟨bx,0,none⟩)] w λ e w'=>∃q:XS×List aQ×Bool×Rs,e=.returned (.tuple #[])/\((dn=true/\q=(x,[],true,rs))∨(dn=false/\Aw (lV k (lP k.key m) n) R 1 N rs x q.1 q.2.1 q.2.2.1 q.2.2.2))/\SF w D (xH k bx bm q.1 q.2.2.1 q.2.2.2) [] (bG q.2.1) (xW q.1) w':=by
 have hg:dn=false->Gx.Ok ⟨lV k (lP k.key m) n,R,x.mm,1,N⟩:=λ e=>by
  rcases hi.cg with⟨e2,_⟩|⟨_,e2⟩
  ·rw[e] at e2;cases e2
  ·obtain⟨c,h1,_,_⟩:=hi.wk.vM (Nat.le_refl 64) hT (by omega)
   refine⟨hT,⟨N-x.got.length,by show 1<=N-x.got.length;omega,Oa e2 h1 (by omega)⟩,hN,Nat.le_refl 1,?_⟩
   show(x.L.map aQ.c).length<=_/\_
   rw[List.length_map]
   exact hsz
 refine enter Tryz.func32 Tryz.ntmps32 rfl rfl (cN hs) ?_
 simp only[dB]
 all_goals (refine kZ ?_;refine kD ?_)
 all_goals
 refine bF (λ c6=>?_) (λ c6=>?_)
 ·try exact nv c6
  all_goals
   have ed:dn=false:=by simpa using c6
   subst ed
  all_goals (refine xU ?_;(refine aF (cM (hs:=xH k bx bm x false rs) (os:=xW x) (A0:=bG x.L) (hA:=dA.of λ f hf=>.inr (.inl (hA f hf))) (hc:=λ w hs=>Nr (N:=N) (n:=n) (m:=m) 1 (hg rfl) hi.wk hgN hk hn hm em ht ha hb hnn (λ f hf=>hf) hi.ok hs)) (λ x8=>?_);try (refine aB (λ h8=>?_)));refine aN ?_)
  all_goals
   refine zG Tryz.results32 (λ w hw=>?_)
   first
   | exact⟨x8,rfl,.inr ⟨rfl,h8⟩,by rw[List.append_nil] at hw;exact hw.aV (hF:=by exact aW.all)⟩
   | exact⟨(x,[],true,rs),rfl,.inl ⟨by simpa using c6,rfl⟩,by rw[show dn=true from by simpa using c6] at hw;exact hw.aV (hF:=by exact aW.nil)⟩
 ·try exact nv c6
  all_goals refine aZ ?_
  all_goals
   refine zG Tryz.results32 (λ w hw=>?_)
   first
   | exact⟨(x,[],true,rs),rfl,.inl ⟨by simpa using c6,rfl⟩,by rw[show dn=true from by simpa using c6] at hw;exact hw.aV (hF:=by exact aW.nil)⟩
end
end

/- Executions of the reference: the start. -/
end Go.Proofs.YtpobgmdalcpomaaGreat
namespace Go.Ct
section
open Go Go.RowKit
def XS.new(L:List aQ)(cs:List Int)(gen acc:Int)(pn:Option Addr)(cn:Nat)(pc:Option Addr)(cc:Nat):XS:=⟨L,cs,gen,acc,pn,cn,pc,cc,[],[],[],[],none,0,none,0,none,0,none,0,0,0,0,0,0,false,Ac.zero⟩
end
end Go.Ct
namespace Go.Proofs.YtpobgmdalcpomaaGreat
section
open Go Go.RowKit Go.Ct
section
variable{k:Cl}{bm:Nat}{L:List aQ}{cs:List Int}{gen acc:Int}{pn pc:Option Addr}{cn cc:Nat}{D:List Nat}{A:Fr}{w:World}
theorem fm{m n N:Nat}(hT:cO (lV k (lP k.key m) n) N 64)(hN:N<=1073741824)(hsz:L.length<=137438953472/\cs.length<=137438953472/\gen<=137438953472)(hk:fp k)(hn:n<=1073741824)(hm:m<18446744073709551616)(em:k.mask=(m:Int))(ht:k.t.root<=9223372036854775807)(ha:k.a<=L.length)(hb:k.b<=L.length)(hnn:k.n<=L.length)(hA:∀f∈bG L,f∈A)(ok:(XS.new L cs gen acc pn cn pc cc).Ok)(hs:SF w D [(bm,mO L cs gen acc pn cn pc cc)] A [] [⟨pn,iD L,cn,59,14⟩,⟨pc,aJ cs,cc,52,1⟩] w):Calls Tryz.prog 50 #[.pointer (some ⟨bm,0,none⟩),.agg ⟨O0 k⟩] w λ e w'=>∃q:Nat×XS×List aQ×Bool×Rs,e=.returned (.pointer (some ⟨q.1,0,none⟩))/\Aw (lV k (lP k.key m) n) (lV k (lP k.key m) n) 0 N Rs.zero (XS.new L cs gen acc pn cn pc cc) q.2.1 q.2.2.1 q.2.2.2.1 q.2.2.2.2/\SF w D (xH k q.1 bm q.2.1 q.2.2.2.1 q.2.2.2.2) [] (bG q.2.2.1) (xW q.2.1) w':=by
 have hg:Gx.Ok ⟨lV k (lP k.key m) n,lV k (lP k.key m) n,(XS.new L cs gen acc pn cn pc cc).mm,0,N⟩:=⟨hT,⟨N,Nat.zero_le _,hT⟩,hN,Nat.zero_le _,by
  show(L.map aQ.c).length<=_/\_
  rw[List.length_map]
  exact hsz⟩
 refine enter Tryz.func50 Tryz.ntmps50 rfl rfl ((((hs.jK 3 1).jK 31 1).jK 52 1).jK 52 1) ?_
 simp only[dB]
 all_goals (refine J0 ?_;refine bM (λ x3=>?_);refine J1 ?_;refine J2 ?_;refine aH (aM (k:=25) (vs:=O0 k) rf cQ dS rfl rfl) rfl ?_;refine bV ?_;refine bM (λ x9=>?_);refine J1 ?_;refine J2 ?_;(refine aF (cM (hs:=xH k x9 bm (XS.new L cs gen acc pn cn pc cc) false Rs.zero) (os:=xW (XS.new L cs gen acc pn cn pc cc)) (A0:=bG L) (hA:=dA.of λ f hf=>.inr (.inl (hA f hf))) (hc:=λ w hs=>Nr (N:=N) (n:=n) (m:=m) 0 hg (Wk.nil _) (Nat.zero_le _) hk hn hm em ht ha hb hnn (λ f hf=>hf) ok hs)) (λ x11=>?_);try (refine aB (λ h11=>?_)));refine aN ?_;refine J2 ?_;refine J1 ?_)
 all_goals
 refine aR Tryz.results50 (λ w hw=>?_)
 exact⟨(x9,x11.1,x11.2.1,x11.2.2.1,x11.2.2.2),rfl,h11,by rw[List.append_nil] at hw;exact hw.aV (hF:=by exact aW.all)⟩
end
end

/- The trees are never stuck within as many accesses as they have fuel: single procedures. -/
section
open Go Go.RowKit Go.Ct
theorem ri:∀{t:Tr} {n c c':Nat},c<=c'->cO t n c->cO t n c':=by
 intro t
 induction t with
 | done r=>intros;simp[cO]
 | stuck=>intro n c c' _ h;simp[cO] at h
 | load r k ih =>
  intro n c c' _ h
  cases n with
  | zero=>simp[cO]
  | succ n=>simpa only[cO] using h
 | qN r o m k ih =>
  intro n c c' _ h
  cases n with
  | zero=>simp[cO]
  | succ n=>simpa only[cO] using h
 | alloc r o k ih =>
  intro n c c' hc h
  cases c with
  | zero=>simp[cO] at h
  | succ c =>
   cases c' with
   | zero=>omega
   | succ c'=>simp only[cO] at h ⊢;exact λ v=>ih v (by omega) (h v)
 | cell r k ih =>
  intro n c c' hc h
  cases c with
  | zero=>simp[cO] at h
  | succ c =>
   cases c' with
   | zero=>omega
   | succ c'=>simp only[cO] at h ⊢;exact λ v=>ih v (by omega) (h v)
 | gen k ih =>
  intro n c c' hc h
  cases c with
  | zero=>simp[cO] at h
  | succ c =>
   cases c' with
   | zero=>omega
   | succ c'=>simp only[cO] at h ⊢;exact λ v=>ih v (by omega) (h v)
 | node r k ih =>
  intro n c c' hc h
  cases c<;>cases c'<;>simp only[cO] at h ⊢ <;> exact λ v=>ih v (by omega) (h v)
section
variable{n c:Nat}
theorem pN{a:Int}{k:Int->Tr}(h:∀n',n'<n->∀v,cO (k v) n' 64):cO (.load a k) n c:=by
 cases n with
 | zero=>simp[cO]
 | succ n=>simp only[cO];exact h n (Nat.lt_succ_self n)
theorem Cg{a o m:Int}{k:Bool->Tr}(h:∀n',n'<n->∀v,cO (k v) n' 64):cO (.qN a o m k) n c:=by
 cases n with
 | zero=>simp[cO]
 | succ n=>simp only[cO];exact h n (Nat.lt_succ_self n)
theorem Kf{a:Nv}{i:Int}{k:Int->Tr}(h:∀v,cO (k v) n c):cO (.alloc a i k) n (c+1):=by simp only[cO];exact h
theorem ob{i:Int}{k:Int->Tr}(h:∀v,cO (k v) n c):cO (.cell i k) n (c+1):=by simp only[cO];exact h
theorem v9{k:Int->Tr}(h:∀v,cO (k v) n c):cO (.gen k) n (c+1):=by simp only[cO];exact h
theorem dF{r:Int}{k:Nv->Tr}(h:∀v,cO (k v) n c):cO (.node r k) n c:=by
 cases c<;>simp only[cO]<;>exact h
abbrev Gp{X:Type}(K:X->Tr)(n:Nat):Prop:=∀n',n'<n->∀v,cO (K v) n' 64
theorem Gp.lt{X:Type}{K:X->Tr}{m:Nat}(h:Gp K n)(hm:m<=n):Gp K m:=λ n' h' v=>h n' (by omega) v
theorem Yy{v s:Int}{K:Int->Tr}(h:∀w,cO (K w) n c):cO (qv v s K) n c:=dF λ _=>h _
theorem uI{t:iV}{v s:Int}{K:Int->Tr}(h:Gp K n):cO (Jh t v s K) n c:=Yy λ _=>Cg λ n' hn _=>h n' hn _
theorem Vw{t:iV}{K:Int->Tr}(h:Gp K n):cO (Rb t K) n c:=pN λ n1 h1 v=>dF λ nv=>by
 split
 ·exact h n1 h1 v
 ·exact dF λ _=>pN λ n2 h2 s=>by
   split
   ·exact dF λ _=>Cg λ n3 h3 _=>dF λ _=>pN λ n4 h4 _=>uI (h.lt (by omega))
   ·exact uI (h.lt (by omega))
theorem Ll{i m p:Int}{K:Int->Tr}(h:Gp K n):cO (Xc i m p K) n c:=dF λ _=>dF λ _=>Cg λ n' hn _=>dF λ _=>h n' hn _
theorem zW{i m:Int}{K:Int->Tr}(h:Gp K n):cO (vF i m K) n c:=dF λ _=>pN λ n1 h1 p=>by
 split
 ·exact h n1 h1 _
 ·exact Ll (h.lt (by omega))
theorem Ik{i m p:Int}{b:Bool}{K:Int->Tr}(h:Gp K n)(hc:1<=c):cO (Fy i m p b K) n c:=by
 unfold Fy
 split
 ·exact dF λ _=>Cg λ n1 h1 _=>zW (h.lt (by omega))
 ·obtain⟨c,rfl⟩:∃d,c=d+1:=⟨c-1,by omega⟩
  exact dF λ _=>Kf λ _=>Cg λ n1 h1 _=>zW (h.lt (by omega))
theorem Bz{t:iV}{i m:Int}{K:Int->Tr}(h:Gp K n):cO (zS t i m K) n c:=dF λ _=>pN λ n1 h1 p=>by
 split
 ·exact h n1 h1 _
 ·refine dF λ _=>?_
  split
  ·split
   ·exact Ik (h.lt (by omega)) (by decide)
   ·exact Vw λ n2 h2 _=>dF λ _=>dF λ _=>Ik (h.lt (by omega)) (by decide)
  ·exact Ll (h.lt (by omega))
theorem hY{t:iV}{i:Int}{K:Int->Tr}(h:Gp K n):cO (oA t i K) n c:=dF λ _=>pN λ n1 h1 _=>Bz (h.lt (by omega))
theorem Bt{t:iV}{v:Int}{K:Tr}(h:∀n',n'<n->cO K n' 64):cO (zU t v K) n c:=dF λ _=>hY λ n1 h1 _=>dF λ _=>dF λ _=>Cg λ n2 h2 _=>h n2 (by omega)
theorem oT{t:iV}{K:Int->Tr}(h:Gp K n):cO (xB t K) n c:=pN λ n1 h1 v=>dF λ nv=>by
 split
 ·exact h n1 h1 v
 ·exact dF λ _=>pN λ n2 h2 s=>by
   split
   ·exact Bt λ n3 h3=>dF λ _=>pN λ n4 h4 _=>uI (h.lt (by omega))
   ·exact uI (h.lt (by omega))
theorem kH{t:iV}{i o m:Int}{K:Bool->Tr}(h:Gp K n):cO (nP t i o m K) n c:=dF λ _=>Cg λ n1 h1 b=>by
 split
 ·exact Bz λ n2 h2 _=>h n2 (by omega) _
 ·exact h n1 h1 _
theorem yE{t:iV}{o e m:Int}{K:Bool->Tr}(h:Gp K n)(hc:1<=c):cO (A9 t o e m K) n c:=by
 obtain⟨c,rfl⟩:∃d,c=d+1:=⟨c-1,by omega⟩
 exact Kf λ _=>Cg λ n1 h1 b=>by
  split
  ·exact Bt λ n2 h2=>dF λ _=>pN λ n3 h3 _=>uI λ n4 h4 _=>h n4 (by omega) _
  ·exact h n1 h1 _
end
end

end Go.Proofs.YtpobgmdalcpomaaGreat

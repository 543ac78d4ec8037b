/- Merged. -/
import Derived.Test.YthblobahelfefaaGreatDoorGKeb
import Derived.Test.YthblobahelfefaaGreatDoorGMc6
import Derived.Test.YthblobahelfefaaGreatDoorGGa
import Derived.Test.YthblobahelfefaaGreatDoorGSc4
set_option linter.unusedSimpArgs false
set_option linter.unusedVariables false
namespace Go.Proofs.YthblobahelfefaaGreatDoor
open Go.Proofs.Tryz
open Go Go.RowKit Go.Ct
section
inductive Ok3 where
 | put
 | clr
 | lk (u:Nat)
def Jq:Nat->Nat->Ok3
 | 0,0=>.put
 | 0,_=>.clr
 | 1,0=>.lk 0
 | 1,1=>.put
 | 1,2=>.lk 1
 | 1,3=>.lk 0
 | 1,_=>.lk 1
 | _,0=>.lk 0
 | _,_=>.lk 1
def pL:Nat->Nat
 | 0=>2
 | 1=>5
 | _=>2
def dk3(o:Ok3):Nat:=match o with
 | .put=>105
 | .clr=>40080
 | .lk _=>52
def zd(k:Nat):Nat->Nat->Nat
 | 0,_=>0
 | n+1,i=>dk3 (Jq k i)+2+zd k n (i+1)
def mL(C:KP)(k i:Nat):kA:=match Jq k i with
 | .put=>⟨1,0,C.ky k,C.vl k,0⟩
 | .clr=>⟨10,0,⟨#[]⟩,0,0⟩
 | .lk u=>⟨7,0,C.ky u,0,0⟩
def fN(C:KP)(k:Nat):List kA:=(List.range (pL k)).map (mL C k)
variable{k i u:Nat}
theorem N5{C:KP}(h:i<pL k):(fN C k)[i]?=some (mL C k i):=by unfold fN;rw[List.getElem?_map,List.getElem?_range h];rfl
theorem nE(C:KP)(k:Nat):(fN C k).length=pL k:=by unfold fN;simp
theorem Rv(e:Jq k i=.lk u):u<2:=by unfold Jq at e;split at e<;>first|(injection e with e;omega)|cases e
theorem D6(e:Jq k i=.put):(k=0/\i=0)∨(k=1/\i=1):=by unfold Jq at e;split at e<;>first|exact .inl ⟨rfl,rfl⟩|exact .inr ⟨rfl,rfl⟩|cases e
theorem ta(e:Jq k i=.clr)(h:i<pL k):k=0/\i=1:=by
 unfold Jq at e;split at e<;>try cases e
 refine⟨rfl,?_⟩;rename_i h1;have h2:i<2:=h;have:i≠0:=λ e=>h1 e;omega
theorem aEB(e:Jq k i=.lk u):k≠0:=λ k0=>by
 subst k0;cases i with
 | zero=>cases e
 | succ i=>cases e
structure SI(C:KP)(k i:Nat)(s:Mm)(σ:Gs):Prop where
 a:k=0->i=0->Nu C 0 s σ
 b:k=0->i=1->0∈σ.us
 z:k=0->i<=1->aL s.cs 3=4/\σ.R=0
 c:k=1->i<=1->Nu C 1 s σ
theorem SI.kp(C:KP)(k i:Nat):nQ C k (SI C k i):=λ j s σ s1 τ hj j1 qq g h=>⟨λ k0 i0=>Nu.kp (by decide) j s σ s1 τ (by omega) j1 qq g (h.a k0 i0),λ k0 i1=>qq.u.subset (h.b k0 i1),λ k0 hi=>Y5 C j s σ s1 τ (by omega) j1 qq g (h.z k0 hi),λ k1 hi=>Nu.kp (by decide) j s σ s1 τ (by omega) j1 qq g (h.c k1 hi)⟩
def Qo(C:KP)(k i:Nat)(a:List Nat)(r:Rs)(s:Mm)(σ:Gs):Prop:=match Jq k i with
 | .put=>QU k r s σ
 | .clr=>QC r s σ
 | .lk u=>QL C u a r s σ/\SI C k (i+1) s σ
theorem Qo.kp(C:KP)(k i:Nat)(a:List Nat)(r:Rs):nQ C k (Qo C k i a r):=by
 unfold Qo;split;·exact QU.kp C k r
 ·exact(QC.ev C r).kpt k
 ·rename_i u _;exact(Ev.kpt (QL.ev C u a r) k).and (SI.kp C k (i+1))
def vf(C:KP)(k i:Nat)(r:Rs)(a b:List Nat):Prop:=match Jq k i with
 | .put=>r=A7 false 0/\k∈b/\k∉a
 | .clr=>r=dW true 0/\2∈b/\2∉a
 | .lk u=>∃ws,a <:+ ws/\ws <:+ b/\r=lkR (if cont ws u=true then some (C.vl u) else none)
def Of0(k i:Nat)(a:List Nat):Prop:=match Jq k i with
 | .put=>k∉a
 | .clr=>2∉a
 | .lk _=>True
section
variable{C:KP}{B k i m n:Nat}{s s1:Mm}{σ τ:Gs}{a:List Nat}{r:Rs}{T:Tr}
structure HOk(C:KP)(m:Nat):Prop where
 k2:Q2 C
 h:∀u,C.hs u=tP (C.ky u) m
theorem aDz(j1:J C s σ)(h:SI C k i s σ)(hi:i<pL k):Of0 k i σ.us:=by
 unfold Of0;split
 ·rename_i e;rcases D6 e with⟨rfl,rfl⟩|⟨rfl,rfl⟩;·exact(h.a rfl rfl).n
  ·exact(h.c rfl (by decide)).n
 ·rename_i e;obtain⟨rfl,rfl⟩:=ta e hi;exact j1.ph.1 (h.z rfl (by decide)).2
 ·trivial
theorem jn(ho:HOk C m)(hk:k<3)(hB:B<=500)(h:At C B k s σ)(hs:SI C k i s σ)(hi:i<pL k):fY C B k (Qo C k i σ.us) 64 (dk3 (Jq k i)) (nL m (mL C k i)) s σ:=by
 unfold Qo mL;split
 ·rename_i e;have hk2:k<2:=by rcases D6 e with⟨rfl,_⟩|⟨rfl,_⟩<;>decide
  rw[e];have et:nL m ⟨1,0,C.ky k,C.vl k,0⟩=mF (jM C k) lC:=by show(if(1:Int)=7 then _ else if(1:Int)=10 then _ else _)=_;rw[if_neg (by decide),if_neg (by decide)];unfold jM;rw[ho.h k];rfl
  show fY C B k (QU k) 64 105 (nL m ⟨1,0,C.ky k,C.vl k,0⟩) s σ;rw[et];refine Mk ho.k2 hk2 2 lC false false s σ 64 (by decide) (by unfold lC;omega) h ⟨?_,List.suffix_refl _,λ e=>(by cases e),λ e=>(by cases e),λ k0=>?_⟩
  ·rcases D6 e with⟨rfl,rfl⟩|⟨rfl,rfl⟩;·exact hs.a rfl rfl
   ·exact hs.c rfl (by decide)
  ·rcases D6 e with⟨rfl,rfl⟩|⟨rfl,rfl⟩;·exact hs.z rfl (by decide)
   ·cases k0
 ·rename_i e;obtain⟨rfl,rfl⟩:=ta e hi;rw[e];have et:nL m ⟨10,0,⟨#[]⟩,0,0⟩=jB t3 lC:=by show(if(10:Int)=7 then _ else if(10:Int)=10 then _ else _)=_;rw[if_neg (by decide),if_pos rfl]
  show fY C B 0 QC 64 _ (nL m ⟨10,0,⟨#[]⟩,0,0⟩) s σ;rw[et];exact(C5 (2*B+1) lC false 0 s σ 64 (by simp) (Nat.zero_le _) (by unfold lC;omega) h ⟨hs.z rfl (by decide),hs.b rfl rfl,λ e=>(by cases e),Nat.zero_le _⟩).mono (by show _<=40080;omega)
 ·rename_i u e;rw[e];have et:nL m ⟨7,0,C.ky u,0,0⟩=xO t3 λ i=>uW t3 (C.hs u) (C.ky u) .done (99999+1) i 0:=by show(if(7:Int)=7 then _ else _)=_;rw[if_pos rfl,ho.h u];rfl
  show fY C B k _ 64 52 (nL m ⟨7,0,C.ky u,0,0⟩) s σ;rw[et];refine yg hk (aEB e) (Rv e) (by decide) (SI.kp C k (i+1)) h (List.suffix_refl _) ?_;have k0:=aEB e;refine⟨λ e=>absurd e k0,λ e=>absurd e k0,λ e=>absurd e k0,λ k1 hi1=>hs.c k1 (by omega)⟩
theorem wv(h:Qo C k i a r s σ)(hi:i<pL k):SI C k (i+1) s σ:=by
 unfold Qo at h;split at h
 ·rename_i e;rcases D6 e with⟨rfl,rfl⟩|⟨rfl,rfl⟩;·exact⟨λ _ e=>(by cases e),λ _ _=>h.1.2,λ _ _=>h.2 rfl,λ e=>(by cases e)⟩
  ·exact⟨λ e=>(by cases e),λ e=>(by cases e),λ e=>(by cases e),λ _ e=>absurd e (by decide)⟩
 ·rename_i e;obtain⟨rfl,rfl⟩:=ta e hi;exact⟨λ _ e=>(by cases e),λ _ e=>(by cases e),λ _ e=>absurd e (by decide),λ e=>(by cases e)⟩
 ·exact h.2
theorem aCd(h:Qo C k i a r s σ)(h0:Of0 k i a):vf C k i r a σ.us/\Kh r=r:=by
 unfold Qo at h;unfold Of0 at h0;unfold vf;split at h;·rename_i e;rw[e] at h0;obtain⟨⟨h1,h2⟩,_⟩:=h;subst h1;exact⟨⟨rfl,h2,h0⟩,rfl⟩
 ·rename_i e;rw[e] at h0;obtain⟨h1,h2⟩:=h;subst h1;exact⟨⟨rfl,h2,h0⟩,rfl⟩
 ·obtain⟨⟨ws,h1,h2,h3⟩,_⟩:=h;subst h3;exact⟨⟨ws,h1,h2,rfl⟩,rfl⟩
end
end
section
def gK(l:List gE)(z t:Nat):Nat:=((l.take z).filter λ e=>e.thr==t).length
theorem Pw{l:List gE}{e:gE}{z:Nat}(h:z<=l.length)(t:Nat):gK (l++[e]) z t=gK l z t:=by unfold gK;rw[List.take_append_of_le_length h]
theorem Bu(l:List gE)(e:gE)(t:Nat):gK (l++[e]) (l++[e]).length t=gK l l.length t+if e.thr=t then 1 else 0:=by
 unfold gK;rw[List.take_length,List.take_length,List.filter_append,List.length_append];congr 1;by_cases h:e.thr=t;·rw[if_pos h,List.filter_cons,if_pos (by simp[h])];rfl
 ·rw[if_neg h,List.filter_cons,if_neg (by simp[h])];rfl
structure HI(l:List gE)(ts:List (List Nat)):Prop where
 len:ts.length=l.length
 ev:∀z e,l[z]?=some e->e.thr<3/\e.idx<pL e.thr/\gK l z e.thr=2*e.idx+(if e.ret=true then 1 else 0)/\(e.ret=false->e.r=Rs.zero)
 so:∀(y z:Nat) (a b:List Nat),y<=z->ts[y]?=some a->ts[z]?=some b->a <:+ b
def OpR(C:KP)(l:List gE)(ts:List (List Nat))(k i:Nat):Prop:=∃(p q:Nat) (a b:List Nat) (r:Rs),l[p]?=some ⟨k,i,false,Rs.zero⟩/\l[q]?=some ⟨k,i,true,r⟩/\p<q/\ts[p]?=some a/\ts[q]?=some b/\vf C k i r a b
section
variable{C:KP}{B k j i m n:Nat}{s s1:Mm}{σ τ:Gs}{l l2:List gE}{ts ts2:List (List Nat)}{a:List Nat}{r:Rs}{T:Tr}{t:Xs}{Z:AM}{e:gE}{us:List Nat}
variable{α:Type}{p:Nat}
theorem vT{l l2:List α}{x:α}(h:l[p]?=some x):(l++l2)[p]?=some x:=by rw[List.getElem?_append_left (List.getElem?_eq_some_iff.1 h).1];exact h
theorem Il(l:List α)(x:α):(l++[x])[l.length]?=some x:=by rw[List.getElem?_append_right (Nat.le_refl _)];simp
theorem rM{l:List α}{x y:α}(h:(l++[x])[p]?=some y):l[p]?=some y∨(p=l.length/\y=x):=by
 by_cases hp:p<l.length;·rw[List.getElem?_append_left hp] at h;exact .inl h
 ·have hl:=(List.getElem?_eq_some_iff.1 h).1;rw[List.length_append] at hl;have hpe:p=l.length:=by simp at hl;omega
  subst hpe;rw[Il] at h;injection h with h
  exact .inr ⟨rfl,h.symm⟩
theorem OpR.dg(h:OpR C l ts k i)(l2:List gE)(ts2:List (List Nat)):OpR C (l++l2) (ts++ts2) k i:=by obtain⟨p,q,a,b,r,h1,h2,h3,h4,h5,h6⟩:=h;exact⟨p,q,a,b,r,vT h1,vT h2,h3,vT h4,vT h5,h6⟩
theorem HI.add(h:HI l ts)(hl:∀(z:Nat) (b:List Nat),ts[z]?=some b->b <:+ a)(h1:e.thr<3)(h2:e.idx<pL e.thr)(h3:gK l l.length e.thr=2*e.idx+(if e.ret=true then 1 else 0))(h4:e.ret=false->e.r=Rs.zero):HI (l++[e]) (ts++[a]):=by
 refine⟨by rw[List.length_append,List.length_append,h.len];rfl,λ z e' he=>?_,λ y z b c hyz hy hz=>?_⟩
 ·rcases rM he with he|⟨hz,he⟩;·rw[Pw (Nat.le_of_lt (List.getElem?_eq_some_iff.1 he).1)];exact h.ev z e' he
  ·subst he;subst hz;rw[Pw (Nat.le_refl _)];exact⟨h1,h2,h3,h4⟩
 ·rcases rM hz with hz|⟨hz,hc⟩
  ·rcases rM hy with hy|⟨hy,_⟩;·exact h.so y z b c hyz hy hz
   ·have:=(List.getElem?_eq_some_iff.1 hz).1;omega
  ·subst hc;rcases rM hy with hy|⟨_,hb⟩;·exact hl y b hy
   ·rw[hb];exact List.suffix_refl _
inductive TS(C:KP)(B k:Nat)(s:Mm)(σ:Gs)(l:List gE)(ts:List (List Nat)):Xs->Nat->Prop where
 | idle (i:Nat) (hi:i<=pL k) (hs:SI C k i s σ) (hc:gK l l.length k=2*i):TS C B k s σ l ts ⟨fN C k,i,none⟩ (zd k (pL k-i) i)
 | run (i:Nat) (hi:i<pL k) {T:Tr} {d p:Nat} {a:List Nat} (g:Gd C B k (Qo C k i a) d T s σ) (hl:T.live=true) (hd:d<=dk3 (Jq k i)) (h0:Of0 k i a) (hp:l[p]?=some ⟨k,i,false,Rs.zero⟩) (ha:ts[p]?=some a) (hc:gK l l.length k=2*i+1):TS C B k s σ l ts ⟨fN C k,i,some T⟩ (d+1+zd k (pL k-(i+1)) (i+1))
theorem TS.ops(x:TS C B k s σ l ts t n):t.ops=fN C k/\t.idx<=pL k:=by
 cases x with
 | idle i hi=>exact⟨rfl,hi⟩
 | run i hi=>exact⟨rfl,Nat.le_of_lt hi⟩
theorem TS.zero(x:TS C B k s σ l ts t n):n=0↔t.idx=pL k:=by
 cases x with
 | idle i hi hs hc=>
  constructor;·intro e;refine Classical.byContradiction λ hn=>?_;have hn':i≠pL k:=hn;rw[show pL k-i=(pL k-(i+1))+1 by omega] at e;unfold zd at e;omega
  ·intro e;have e':i=pL k:=e;rw[e',Nat.sub_self];rfl
 | run i hi=>
  constructor;·intro e;omega
  ·intro e;have e':i=pL k:=e;omega
theorem TS.fm(hk:k<3)(x:TS C B k s σ l ts t n)(j1:J C s σ)(f:Is C B k s σ s1 τ)(l2:List gE)(ts2:List (List Nat))(hc2:gK (l++l2) (l++l2).length k=gK l l.length k):TS C B k s1 τ (l++l2) (ts++ts2) t n:=by
 cases x with
 | idle i hi hs hc=>exact .idle i hi ((SI.kp C k i).run (λ j h=>h.1) f.r j1 hs) (hc2.trans hc)
 | run i hi g hl hd h0 hp ha hc=>exact .run i hi (g.fm (λ r=>Qo.kp C k i _ r) j1 f) hl hd h0 (vT hp) (vT ha) (hc2.trans hc)
theorem Yz{Q:Rs->Mm->Gs->Prop}{d:Nat}{T:Tr}(g:Gd C B k Q d T s σ):(∃r,T=.done r/\Q r s σ)∨T.live=true:=by
 cases T with
 | done r=>
  refine .inl ⟨r,rfl,?_⟩;cases d with
  | zero=>obtain⟨r',e,q⟩:=g;cases e;exact q
  | succ d=>
   rcases g with⟨r',e,q⟩|⟨h1,_⟩;·cases e;exact q
   ·cases h1
 | load c k=>exact .inr rfl
 | qG c o n k=>exact .inr rfl
 | alloc n i k=>exact .inr rfl
 | cell i k=>exact .inr rfl
 | gen k=>exact .inr rfl
 | node r k=>exact .inr rfl
 | stuck=>exact .inr rfl
theorem aAr{Q:Rs->Mm->Gs->Prop}{d:Nat}{T:Tr}(g:Gd C B k Q d T s σ)(hl:T.live=true)(h:At C B k s σ):∃d',d=d'+1/\(mJ (T,s)).1≠.stuck/\∃σ2,zI C k 64 1 s σ (mJ (T,s)).2 σ2/\Gd C B k Q d' (mJ (T,s)).1 (mJ (T,s)).2 σ2:=by
 cases d with
 | zero=>obtain⟨r,e,_⟩:=g;rw[e] at hl;cases hl
 | succ d=>
  rcases g with⟨r,e,_⟩|⟨h1,h2,h3⟩;·rw[e] at hl;cases hl
  ·exact⟨d,rfl,h3 s σ h.refl⟩
structure PkK(C:KP)(B k m:Nat)(Z:AM)(σ:Gs)(ts:List (List Nat))(n:Nat):Prop where
 ok:Tf m k Z
 to:∃τ t n' l2 ts2,n'<n/\zI C k 64 1 Z.s σ (fF m k Z).s τ/\(fF m k Z).th=Z.th.set k t/\(fF m k Z).hist=Z.hist++l2/\TS C B k (fF m k Z).s τ (Z.hist++l2) (ts++ts2) t n'/\HI (Z.hist++l2) (ts++ts2)/\(∀(z:Nat) (a:List Nat),(ts++ts2)[z]?=some a->a <:+ τ.us)/\(∀i,i<t.idx->OpR C (Z.hist++l2) (ts++ts2) k i)/\∀j,j≠k->gK (Z.hist++l2) (Z.hist++l2).length j=gK Z.hist Z.hist.length j
theorem yx(hi:i<pL k)(s:Mm):iR (nL m (mL C k i)) s=(nL m (mL C k i),s)/\(nL m (mL C k i)).live=true:=by
 have h:∀o:kA,o.kind=1∨o.kind=10∨o.kind=7->iR (nL m o) s=(nL m o,s)/\(nL m o).live=true:=λ o ho=>by
  unfold nL;rcases ho with e|e|e;·rw[if_neg (by omega),if_neg (by omega)];exact⟨rfl,rfl⟩
  ·rw[if_neg (by omega),if_pos e];exact⟨rfl,rfl⟩
  ·rw[if_pos e];exact⟨rfl,rfl⟩
 refine h _ ?_;unfold mL;split;·exact .inl rfl
 ·exact .inr (.inl rfl)
 ·exact .inr (.inr rfl)
theorem jo(ho:HOk C m)(hk:k<3)(hB:B<=500)(ht:Z.th[k]?=some t)(x:TS C B k Z.s σ Z.hist ts t n)(h:At C B k Z.s σ)(hh:HI Z.hist ts)(hl:∀(z:Nat) (a:List Nat),ts[z]?=some a->a <:+ σ.us)(hr:∀i,i<t.idx->OpR C Z.hist ts k i)(h0:n≠0):PkK C B k m Z σ ts n:=by
 cases x with
 | idle i hi hs hc=>
  have hlt:i<pL k:=by refine Classical.byContradiction λ hn=>h0 ?_;rw[show pL k-i=0 by omega];rfl
  obtain⟨es,el⟩:=yx (C:=C) (m:=m) hlt Z.s;have hop:(fN C k)[i]?=some (mL C k i):=N5 hlt;obtain⟨_,τ,st,g⟩:=jn ho hk hB h hs hlt Z.s σ h.refl;rw[es] at st g;have e:fF m k Z=⟨Z.s,Z.th.set k ⟨fN C k,i,some (nL m (mL C k i))⟩,Z.hist++[⟨k,i,false,Rs.zero⟩]⟩:=by unfold fF;rw[ht];dsimp only;rw[hop];dsimp only;rw[es,sA el]
  have hlen:ts.length=Z.hist.length:=hh.len;have hsuf:=(st.to h.j).u;refine⟨λ t' o h1 h2=>?_,τ,⟨fN C k,i,some (nL m (mL C k i))⟩,dk3 (Jq k i)+1+zd k (pL k-(i+1)) (i+1),[⟨k,i,false,Rs.zero⟩],[σ.us],?_,?_⟩
  ·rw[ht] at h1;cases h1;have h2':(fN C k)[i]?=some o:=h2;rw[hop] at h2';cases h2';show(iR (nL m (mL C k i)) Z.s).1≠_;rw[es];intro e2;have e2':nL m (mL C k i)=.stuck:=e2;have:=(Yz g);rw[e2'] at es g;cases hd:dk3 (Jq k i) with
   | zero=>rw[hd] at g;obtain⟨r,e,_⟩:=g;cases e
   | succ d=>
    rw[hd] at g;rcases g with⟨r,e,_⟩|⟨_,h3,_⟩;·cases e
    ·cases h3
  ·rw[show pL k-i=(pL k-(i+1))+1 by omega];show _<dk3 (Jq k i)+2+zd k (pL k-(i+1)) (i+1);omega
  ·rw[e];have hcn:gK (Z.hist++[(⟨k,i,false,Rs.zero⟩:gE)]) (Z.hist++[(⟨k,i,false,Rs.zero⟩:gE)]).length k=2*i+1:=by rw[Bu,if_pos rfl,hc]
   refine⟨st.le (Nat.le_refl _) (by omega),rfl,rfl,.run i hlt g el (Nat.le_refl _) (aDz h.j hs hlt) (Il _ _) (by rw[<- hlen];exact Il _ _) hcn,hh.add (e:=⟨k,i,false,Rs.zero⟩) hl hk hlt (by show gK _ _ k=_;rw[hc];rfl) (λ _=>rfl),λ z a hz=>?_,λ i' hi'=>(hr i' hi').dg _ _,λ j hj=>?_⟩
   ·rcases rM hz with hz|⟨_,hz⟩;·exact(hl z a hz).trans hsuf
    ·rw[hz];exact hsuf
   ·rw[Bu,if_neg (λ e=>hj e.symm)];rfl
 | @run i hi T d p a g hlv hd hof hp ha hc=>
  have hop:(fN C k)[i]?=some (mL C k i):=N5 hi;obtain⟨d',rfl,hns,τ,st,g2⟩:=aAr g hlv h;have e0:fF m k Z=uL Z k ⟨fN C k,i,some T⟩ (mJ (T,Z.s)) Z.hist:=by unfold fF;rw[ht];dsimp only;rw[hop]
  have hok:Tf m k Z:=λ t' o h1 h2=>by rw[ht] at h1;cases h1;exact hns
  have hlen:ts.length=Z.hist.length:=hh.len;have hsuf:=(st.to h.j).u;rcases Yz g2 with⟨r,er,q⟩|hl2
  ·rw[Ga er] at e0;obtain⟨hf,hfin⟩:=aCd q hof;rw[hfin] at e0;refine⟨hok,τ,⟨fN C k,i+1,none⟩,zd k (pL k-(i+1)) (i+1),[⟨k,i,true,r⟩],[τ.us],by omega,?_⟩;rw[e0];have hcn:gK (Z.hist++[(⟨k,i,true,r⟩:gE)]) (Z.hist++[(⟨k,i,true,r⟩:gE)]).length k=2*(i+1):=by rw[Bu,if_pos rfl,hc];omega
   have hl':∀(z:Nat) (a:List Nat),ts[z]?=some a->a <:+ τ.us:=λ z a hz=>(hl z a hz).trans hsuf;refine⟨st,rfl,rfl,.idle (i+1) hi (wv q hi) hcn,hh.add (e:=⟨k,i,true,r⟩) hl' hk hi (by show gK _ _ k=_;rw[hc];rfl) (λ e=>(by cases e)),λ z a hz=>?_,λ i' hi'=>?_,λ j hj=>?_⟩
   ·rcases rM hz with hz|⟨_,hz⟩;·exact hl' z a hz
    ·rw[hz];exact List.suffix_refl _
   ·by_cases e:i'<i;·exact(hr i' e).dg _ _
    ·have hi'':i'<i+1:=hi';have:i'=i:=by omega
     subst this;exact⟨p,Z.hist.length,a,τ.us,r,vT hp,Il _ _,(List.getElem?_eq_some_iff.1 hp).1,vT ha,by rw[<- hlen];exact Il _ _,hf⟩
   ·rw[Bu,if_neg (λ e=>hj e.symm)];rfl
  ·rw[sA hl2] at e0;refine⟨hok,τ,⟨fN C k,i,some (mJ (T,Z.s)).1⟩,d'+1+zd k (pL k-(i+1)) (i+1),[],[],by omega,?_⟩;rw[e0,List.append_nil,List.append_nil];exact⟨st,rfl,rfl,.run i hi g2 hl2 (by omega) hof hp ha hc,hh,λ z a hz=>(hl z a hz).trans hsuf,hr,λ j hj=>rfl⟩
structure GK(C:KP)(m:Nat)(Z:AM)(N:Nat):Prop where
 ho:HOk C m
 ex:∃(σ:Gs) (t:Nat->Xs) (n:Nat->Nat) (ts:List (List Nat)),J C Z.s σ/\Z.th=[t 0,t 1,t 2]/\N=n 0+n 1+n 2/\σ.kl+n 1+n 2<=500/\HI Z.hist ts/\(∀(z:Nat) (a:List Nat),ts[z]?=some a->a <:+ σ.us)/\∀k,k<3->TS C 500 k Z.s σ Z.hist ts (t k) (n k)/\∀i,i<(t k).idx->OpR C Z.hist ts k i
 sn:Z.s.nodes.length+64*N<=10000000
 sc:Z.s.cs.length+64*N<=10000000
 sg:Z.s.gen+64*N<=10000000
def Vr(Z:AM)(k:Nat):Prop:=∃t,Z.th[k]?=some t/\t.idx≠pL k
variable{N:Nat}
theorem Xa{t:Nat->Xs}(e:Z.th=[t 0,t 1,t 2])(hk:k<3):Z.th[k]?=some (t k):=by
 have h3:k=0∨k=1∨k=2:=by omega
 rcases h3 with rfl|rfl|rfl<;>rw[e]<;>rfl
theorem aDj{t:Nat->Xs}(x:Xs)(hk:k<3):[t 0,t 1,t 2].set k x=[(if 0=k then x else t 0),(if 1=k then x else t 1),(if 2=k then x else t 2)]:=by
 have h3:k=0∨k=1∨k=2:=by omega
 rcases h3 with rfl|rfl|rfl<;>rfl
theorem yu(hk:k<3)(hj:j<3)(h:j≠k)(r:Jm C (λ i=>i=k∨i=Ka k) s σ s1 τ):Jm C (λ i=>i≠j/\(j=0->i≠3)) s σ s1 τ:=r.imp λ i e=>by unfold Ka at e;split at e<;>omega
theorem GK.pick(w:GK C m Z N)(hk:k<3):Tf m k Z/\Z.s.gM/\∃N',N'<=N/\GK C m (fF m k Z) N'/\(Vr Z k->N'<N)/\(¬Vr Z k->fF m k Z=Z/\N'=N):=by
 obtain⟨σ,t,n,ts,j1,hth,hN,hB,hh,hl,x⟩:=w.ex;have ht:=Xa hth hk;obtain⟨xk,rk⟩:=x k hk;have hs1:=w.sn;have hs2:=w.sc;have hs3:=w.sg;have hgn:=j1.gn;have hT:Z.s.gM:=⟨by omega,by omega,by omega,by omega⟩;by_cases h0:n k=0
 ·have hidx:=xk.zero.1 h0;have e:fF m k Z=Z:=by
   have e1:(t k).ops[(t k).idx]?=none:=by rw[xk.ops.1,hidx];exact List.getElem?_eq_none (by rw[nE];exact Nat.le_refl _)
   unfold fF;rw[ht];dsimp only;rw[e1]
  rw[e];refine⟨λ t' o h1 h2=>?_,hT,N,Nat.le_refl _,w,λ⟨t',h1,h2⟩=>?_,λ _=>⟨rfl,rfl⟩⟩;·rw[ht] at h1;cases h1;rw[xk.ops.1,hidx,List.getElem?_eq_none (by rw[nE];exact Nat.le_refl _)] at h2;cases h2
  ·rw[ht] at h1;cases h1;exact absurd hidx h2
 ·have hA:At C 500 k Z.s σ:=⟨j1,λ _=>by omega⟩;obtain⟨ok,τ,t',n',l2,ts2,hlt,st,eth,ehist,x',hh',hl',hr',hc'⟩:=jo w.ho hk (by decide) ht xk hA hh hl rk h0
  have hund:Vr Z k:=⟨t k,ht,λ e=>h0 (xk.zero.2 e)⟩;have hkl:=st.b;have hk0:=st.r.k0;have hj:=(st.to j1).j;have h3:k=0∨k=1∨k=2:=by omega
  have hkB:τ.kl+(if 1=k then n' else n 1)+(if 2=k then n' else n 2)<=500:=by
   rcases h3 with rfl|rfl|rfl;·have:=hk0 rfl;simp;omega
   ·simp;omega
   ·simp;omega
  refine⟨ok,hT,(if 0=k then n' else n 0)+(if 1=k then n' else n 1)+(if 2=k then n' else n 2),?_,⟨w.ho,⟨τ,λ j=>if j=k then t' else t j,λ j=>if j=k then n' else n j,ts++ts2,hj,?_,rfl,hkB,by rw[ehist];exact hh',hl',λ j hj3=>?_⟩,?_,?_,?_⟩,λ _=>?_,λ h=>absurd hund h⟩;·rcases h3 with rfl|rfl|rfl<;>simp<;>omega
  ·rw[eth,hth,aDj t' hk]
  ·rw[ehist];by_cases e:j=k;·subst e;simp only[if_pos];exact⟨x',hr'⟩
   ·simp only[if_neg e];obtain⟨xj,rj⟩:=x j hj3;have hf:Is C 500 j Z.s σ (fF m k Z).s τ:=⟨yu hk hj3 e st.r,hj,λ _=>by rcases h3 with rfl|rfl|rfl<;>simp at hkB<;>omega⟩
    exact⟨xj.fm hj3 j1 hf l2 ts2 (hc' j e),λ i hi=>(rj i hi).dg _ _⟩
  ·have:=st.n;rcases h3 with rfl|rfl|rfl<;>simp at * <;> omega
  ·have:=st.l;rcases h3 with rfl|rfl|rfl<;>simp at * <;> omega
  ·have:=st.g;rcases h3 with rfl|rfl|rfl<;>simp at * <;> omega
  ·rcases h3 with rfl|rfl|rfl<;>simp at * <;> omega
theorem GK.iE(w:GK C m Z N):Z.iE=decide (N=0):=by
 obtain⟨σ,t,n,ts,j1,hth,hN,hB,hh,hl,x⟩:=w.ex;have dn:∀k,k<3->((t k).ops.length<=(t k).idx↔n k=0):=λ k hk=>by obtain⟨xk,_⟩:=x k hk;rw[xk.zero,xk.ops.1,nE];have:=xk.ops.2;omega
 unfold AM.iE;rw[hth,Bool.eq_iff_iff];simp only[List.all_cons,List.all_nil,Bool.and_true,Bool.and_eq_true,decide_eq_true_eq,dn 0 (by decide),dn 1 (by decide),dn 2 (by decide)];omega
theorem GK.und(w:GK C m Z N)(h:N≠0):∃k,k<3/\Vr Z k:=by
 obtain⟨σ,t,n,ts,j1,hth,hN,hB,hh,hl,x⟩:=w.ex;have:n 0≠0∨n 1≠0∨n 2≠0:=by omega
 rcases this with h|h|h;·exact⟨0,by decide,t 0,Xa hth (by decide),λ e=>h ((x 0 (by decide)).1.zero.2 e)⟩
 ·exact⟨1,by decide,t 1,Xa hth (by decide),λ e=>h ((x 1 (by decide)).1.zero.2 e)⟩
 ·exact⟨2,by decide,t 2,Xa hth (by decide),λ e=>h ((x 2 (by decide)).1.zero.2 e)⟩
theorem GK.len(w:GK C m Z N):Z.th.length=3:=by obtain⟨σ,t,n,ts,j1,hth,_⟩:=w.ex;rw[hth];rfl
theorem Qk:∀(M:Nat) {Z:AM} {N r:Nat},GK C m Z N->(N=0∨∃d,d<=2/\Vr Z ((r+d)%3)/\3*N+d<=M)->∃K,K<=M/\GK C m (D7 m 3 r K Z) 0/\∀i,i<K->∃N',N'≠0/\N'<=N/\GK C m (D7 m 3 r i Z) N'
 | M,Z,0,r,w,_=>⟨0,Nat.zero_le _,w,λ i h=>absurd h (Nat.not_lt_zero i)⟩
 | 0,Z,N+1,r,w,h=>by
  rcases h with h|⟨d,_,_,h⟩
  ·cases h
  ·omega
 | M+1,Z,N+1,r,w,h=>by
  rcases h with h|⟨d,hd,hu,hm⟩
  ·cases h
  ·obtain⟨_,_,N',h2,h3,h4,h5⟩:=w.pick (k:=r%3) (Nat.mod_lt _ (by decide))
   have key:N'=0∨∃d,d<=2/\Vr (fF m (r%3) Z) ((r+1+d)%3)/\3*N'+d<=M:=by
    by_cases hr:Vr Z (r%3)
    ·have:=h4 hr;by_cases h0:N'=0
     ·exact .inl h0
     ·obtain⟨j,hj,hu'⟩:=h3.und h0
      have:∃d,d<=2/\(r+1+d)%3=j:=by
       by_cases a:(r+1+0)%3=j
       ·exact⟨0,by decide,a⟩
       by_cases b:(r+1+1)%3=j
       ·exact⟨1,by decide,b⟩
       ·exact⟨2,by decide,by omega⟩
      obtain⟨d',hd',rfl⟩:=this
      exact .inr ⟨d',hd',hu',by omega⟩
    ·obtain⟨e1,e2⟩:=h5 hr
     cases d with
     | zero=>exact absurd hu hr
     | succ d=>exact .inr ⟨d,by omega,by rw[e1,show r+1+d=r+(d+1) by omega];exact hu,by omega⟩
   obtain⟨K,hK,hw,hi⟩:=Qk M h3 key
   refine⟨K+1,by omega,by rw[rB];exact hw,λ i hl=>?_⟩
   cases i with
   | zero=>exact⟨N+1,by omega,Nat.le_refl _,w⟩
   | succ i =>
    obtain⟨N2,a,b,c⟩:=hi i (by omega)
    exact⟨N2,a,by omega,by rw[rB];exact c⟩
theorem GK.drain(w:GK C m Z N):∃K,K<=3*N+2/\GK C m (D7 m 3 0 K Z) 0/\∀i,i<K->∃N',N'≠0/\N'<=N/\GK C m (D7 m 3 0 i Z) N':=by
 refine Qk _ w ?_;by_cases h0:N=0;·exact .inl h0
 ·obtain⟨j,hj,hu⟩:=w.und h0;exact .inr ⟨j,by omega,by rw[Nat.zero_add,Nat.mod_eq_of_lt hj];exact hu,by omega⟩
structure tN(C:KP)(l:List gE)(ts:List (List Nat))(us:List Nat):Prop where
 hi:HI l ts
 la:∀(z:Nat) (a:List Nat),ts[z]?=some a->a <:+ us
 nd:us.Nodup
 op:∀k i,k<3->i<pL k->OpR C l ts k i
 cn:∀k,k<3->gK l l.length k=2*pL k
theorem GK.end(w:GK C m Z 0):∃ts us,tN C Z.hist ts us:=by
 obtain⟨σ,t,n,ts,j1,hth,hN,hB,hh,hl,x⟩:=w.ex;have hx:∀k,k<3->(t k).idx=pL k/\gK Z.hist Z.hist.length k=2*pL k:=λ k hk=>by
  obtain⟨xk,_⟩:=x k hk;have h0:n k=0:=by
   have h3:k=0∨k=1∨k=2:=by omega
   rcases h3 with rfl|rfl|rfl<;>omega
  have hz:=xk.zero.1 h0;refine⟨hz,?_⟩;generalize t k=tk at xk hz;generalize n k=nk at xk;cases xk with
  | idle i hi hs hc=>have hz':i=pL k:=hz;rw[hc,hz']
  | run i hi=>have hz':i=pL k:=hz;omega
 exact⟨ts,σ.us,hh,hl,j1.nd,λ k i hk hi=>(x k hk).2 i (by rw[(hx k hk).1];exact hi),λ k hk=>(hx k hk).2⟩
end
end
section
structure HP(ls:List eE)(l:List gE):Prop where
 n:ls.length<=8
 m:∀s∈ls,s.l.length<=16
 e:l.length<=64
 ev:∀z e,l[z]?=some e->(∃s,ls[e.thr]?=some s/\e.idx<s.l.length)/\gK l z e.thr=2*e.idx+(if e.ret=true then 1 else 0)/\(e.ret=false->e.r=Rs.zero)
structure bh(w:World)(p:Option Addr)(ls:List eE)(pl:Option Addr)(l:List gE):Prop where
 hp:Go.Ct.Cl w p (jX ls)
 hl:Go.Ct.Cl w pl (Uo l)
 ho:∀s∈ls,Go.Ct.Cl w s.p (iG s.l)
abbrev inA(p:Option Addr)(ls:List eE)(pl:Option Addr)(l:List gE):Fr:=(p,jX ls)::(pl,Uo l)::ls.map λ s=>(s.p,iG s.l)
theorem bh.start{w:World}{p pl:Option Addr}{ls:List eE}{l:List gE}(h:bh w p ls pl l):SF w [] [] (inA p ls pl l) [] [] w:=SF.begin λ f hf=>by
 simp only[List.mem_cons,List.mem_map] at hf;rcases hf with rfl|rfl|⟨s,hs,rfl⟩;·exact h.hp
 ·exact h.hl
 ·exact h.ho s hs
theorem bh.of{w0 w:World}{M:List Nat}{H:List (Nat×Obj)}{F:Fr}{O:List Ow}{p pl:Option Addr}{ls:List eE}{l:List gE}(h:SF w0 M H (inA p ls pl l) F O w):bh w p ls pl l:=⟨h.cl (.old .head),h.cl (.old (.tail .head)),λ s hs=>h.cl (.old (.tail (.tail (lQ.dS (List.mem_map.2 ⟨s,hs,rfl⟩)))))⟩
def Tn(l:List gE)(z:Nat):List Value:=(List.range 8).map λ t=>.int .i64 ((gK l z t:Nat):Int)
variable{z d:Nat}{e:gE}{S:List (Nat×Value)}{ty:TypeId}{pos:String}{af:Array Edge}{gd:Option (Nat×Bool)}{x y:Operand}{a b:Int}
theorem M6{l:List gE}{t:Nat}(h:t<8):(Tn l z)[t]?=some (.int .i64 ((gK l z t:Nat):Int)):=by unfold Tn;rw[List.getElem?_map,List.getElem?_range h];rfl
theorem yf(l:List gE)(z:Nat):(Tn l z).length=8:=by simp[Tn]
theorem xw(l:List gE)(z t:Nat):gK l z t<=z:=by unfold gK;exact Nat.le_trans (List.length_filter_le _ _) (by rw[List.length_take];exact Nat.min_le_left _ _)
theorem rD{l:List gE}(h:l[z]?=some e)(t:Nat):gK l (z+1) t=gK l z t+if e.thr=t then 1 else 0:=by
 have hz:z<l.length:=(List.getElem?_eq_some_iff.1 h).1;have e1:l.take (z+1)=l.take z++[e]:=by rw[List.take_add_one,h];rfl
 unfold gK;rw[e1,List.filter_append,List.length_append];congr 1;by_cases h:e.thr=t;·rw[if_pos h,List.filter_cons,if_pos (by simp[h])];rfl
 ·rw[if_neg h,List.filter_cons,if_neg (by simp[h])];rfl
theorem yd{l:List gE}(h:l[z]?=some e):(Tn l z).set e.thr (.int .i64 ((gK l z e.thr+1:Nat):Int))=Tn l (z+1):=by
 refine List.ext_getElem? λ q=>?_;rw[List.getElem?_set];have hl:(Tn l z).length=8:=by simp[Tn]
 by_cases hq:q<8
 ·rw[M6 hq,M6 hq,rD h];by_cases e1:e.thr=q;·rw[if_pos e1,if_pos (by omega),if_pos e1,e1]
  ·rw[if_neg e1,if_neg e1,Nat.add_zero]
 ·have h2:(Tn l (z+1)).length=8:=by simp[Tn]
  rw[List.getElem?_eq_none (by omega),List.getElem?_eq_none (by omega)];split;·rw[if_neg (by omega)]
  ·rfl
theorem aCJ{P:Program}{G:World->Prop}{t t':TypeId}{c:Int}(hx:ev S x=.int .i64 a)(hy:ev S y=.int .i64 b)(h0:b≠0)(h:a.tdiv b=c)(hc:IntKind.i64.wrap c=c):aH P S G ⟨some d,.binOp .quo t x y t',ty,pos,af,gd⟩ (.int .i64 c):=⟨λ w _=>by subst h;simp[execOp,hx,hy,eqGuard_at_int,binOp,Op.intDiv,h0,hc]⟩
theorem rl(a b:Int)(w:World):(Instr.build 91 #[(0,.int .i64 a),(1,.int .i64 b)]).run prog w=.ok (.agg ⟨[.int .i64 a,.int .i64 b]⟩) w:=by kernel_rfl
theorem oi{G:World->Prop}(hx:ev S x=.int .i64 a)(hy:ev S y=.int .i64 b):aH prog S G ⟨some d,.build 91 #[(0,x),(1,y)],ty,pos,af,gd⟩ (.agg ⟨[.int .i64 a,.int .i64 b]⟩):=⟨λ w _=>by simp[execOp,hx,hy,rl]⟩
section
variable{w:World}{p pl:Option Addr}{c cl:Nat}{ls:List eE}{l:List gE}
theorem aDl(e:gE)(w:World):Calls prog 37 #[.agg ⟨e.cells⟩] w λ en w'=>en=.returned (.agg ⟨sU (e.thr,e.idx)⟩)/\Ct.St w [] [] w':=by
 refine enter func37 ntmps37 rfl rfl (SF.s0 w) ?_;simp only[bY];simp only[gE.cells];all_goals (refine J0 ?_;refine bC (λ x1=>?_);refine aK (cK λ _=>iJ (z:=[.int .i64 0,.int .i64 0]) (by kernel_rfl)) (λ x2=>?_);refine aC ?_;refine gP ?_;refine J3 ?_;refine aA (oi rf rf) rfl ?_;refine aM (cK λ _=>aE rf bU rf rfl (by kernel_rfl) rf dV) (λ _=>?_);refine aC ?_)
 all_goals
 refine wR results37 (.cell rf bU (by kernel_rfl) .nil) (λ w hw=>?_);exact⟨rfl,hw.done⟩
set_option maxRecDepth 100000 in
theorem Vz(hP:HP ls l)(h:bh w p ls pl l):Calls prog 36 #[.slice p ls.length c,.slice pl l.length cl] w λ en w'=>en=.returned (.bool true)/\Ct.St w [] [] w':=by
 have hle:=hP.e;have hn8:=hP.n;refine enter func36 ntmps36 rfl rfl h.start ?_;simp only[bY]
 all_goals (refine cC ?_;refine J0 ?_;refine aK (cK λ _=>iJ (z:=Tn l 0) (by kernel_rfl)) (λ x5=>?_);refine Kc3 ?_;refine Ka9 ?_)
 all_goals
  refine mE [4,7,8,11,12,13,14,15,16,17,18,19,20,21,22,23,24,25,26,27,28,29,30,31,32,33,34,35,36,37,38,39,40,41,42,43,44,45,46,47,48,49,50,51,52,53,54,55,56,57,58,59,60,61,62,63,64,65,66,67,68,69,70,71,72,73] (λ z:Nat=>[(11,.int .i64 ((z:Nat):Int))]) (λ z=>z<=l.length) (λ z=>[(x5,.cells ⟨Tn l z⟩ 149 (0,0))]) (λ _=>_) (λ _=>_) (λ z=>l.length-z) (0) (Nat.zero_le _) (λ z f hx=>?_);refine K0a ?_;all_goals (refine Ka7 ?_)
  all_goals
   refine aX (λ c12=>?_) (λ c12=>?_)
   ·all_goals try (first|contradiction|(exfalso;omega))
    all_goals
     have hz:z<l.length:=by omega
     obtain⟨e,he⟩:∃e,l[z]?=some e:=⟨l[z],List.getElem?_eq_getElem hz⟩;obtain⟨⟨s,hs,hi⟩,hc1,hr0⟩:=hP.ev z e he;have ht:e.thr<ls.length:=(List.getElem?_eq_some_iff.1 hs).1;have hsg:ls[e.thr]=s:=(List.getElem?_eq_some_iff.1 hs).2;have hcl:=xw l z e.thr;have hsm:s.l.length<=16:=hP.m s (by rw[<- hsg];exact List.getElem_mem ht)
     have hq2:((gK l z e.thr:Nat):Int).tdiv 2=((e.idx:Nat):Int):=by rw[Int.tdiv_eq_ediv_of_nonneg (by omega)];split at hc1<;>omega
     have hm2:gK l z e.thr%2=if e.ret=true then 1 else 0:=by cases hre:e.ret<;>simp only[hre,if_true,if_false,Bool.false_eq_true] at hc1 ⊢ <;> omega
     have hw64:IntKind.i64.wrap ((e.idx:Nat):Int)=((e.idx:Nat):Int):=wrap_i64 (by omega) (by omega);have hi2:e.idx<ls[e.thr].l.length:=by rw[hsg];exact hi
    all_goals (refine tG ?_;refine J0 ?_;refine aA (cR (f:=gE.cells) (l:=l) mS (by decide) rf rf fU cW (.old (.tail .head)) (by omega) (by omega)) rfl ?_;refine aA (fJ (f:=gE.cells) (l:=l) mS rf cW (.old (.tail .head)) he) rfl ?_;refine aI (λ x7=>?_);refine aM (cK λ _=>aE rf bU rf rfl cW rf dV) (λ _=>?_);refine Bz ?_;refine aU ?_;refine gL [0,1,2,3,4,5,6,7,8,9,10,11,12,13,14,15,16,17,18,19,20,21,22,23,24,25] ?_;refine iX ?_;refine Gm ?_;refine aR ?_)
    all_goals ((refine cE ?_))
    all_goals (((refine cJ ?_));((refine aR ?_));((refine Gj ?_));((refine X0 ?_));refine sB ?_;refine aR ?_)
    all_goals ((refine rcs 25 (λ g25=>?_) (λ g25=>?_)<;>(try (first|contradiction|(exfalso;omega)))<;>((refine cE ?_))))
    all_goals (((refine cJ ?_));((refine Gm ?_));refine sB ?_;refine aR ?_)
    all_goals ((refine cE ?_))
    all_goals (((refine cJ ?_));((refine aR ?_));refine J18 ?_;((refine bI (i:=21) (hq:=(fM (cs:=jX ls) rf rf fU iH (.old .head) (by omega) (by rw[qU];exact ht))) (h:=?_)));((refine bI (i:=22) (hq:=(eY (cs:=jX ls) rf iH (.old .head) (wC ht))) (h:=?_)));((refine Gj ?_));((refine X0 ?_));refine sB ?_;refine dY ?_)
    all_goals
     refine aX (λ c40=>?_) (λ c40=>?_);·all_goals try (first|contradiction|(exfalso;omega))
     ·all_goals try (first|contradiction|(exfalso;omega))
      all_goals (refine bD ?_;refine gP ?_;refine aA (jY (n:=8) (e:=3) rf rf (by kernel_rfl) (by kernel_rfl) (by omega)) rfl ?_;refine aA (nT (Tq (cs:=Tn l z) (v:=.int .i64 ((gK l z e.thr:Nat):Int)) rf bU iH (by rw[Nat.zero_add];exact M6 (by omega)))) rfl ?_;refine nN ?_;refine gP ?_;refine aD ?_;refine aA (aCJ rf rf (by decide) hq2 hw64) rfl ?_;refine jI ?_;refine aD ?_)
      all_goals ((refine kT 50 (λ g50=>?_) (λ g50=>?_)<;>(try (first|contradiction|(exfalso;omega)))<;>((refine aG ?_;refine aF ?_))))
      all_goals (refine J29 ?_;((refine aG ?_;refine aA (p8 (j:=2) rf rf (by decide) hm2) rfl ?_));((refine aG ?_;refine tL ?_));((refine aG ?_;refine aCt ?_));refine Kc2 ?_)
      all_goals
       refine aX (λ c57=>?_) (λ c57=>?_)
       ·all_goals try (first|contradiction|(exfalso;omega))
        all_goals exact absurd (by cases e.ret<;>rfl) c57
       ·all_goals try (first|contradiction|(exfalso;omega))
        all_goals (refine mD ?_;refine gP ?_;refine fl ?_)
        all_goals ((refine kT 61 (λ g61=>?_) (λ g61=>?_)<;>(try (first|contradiction|(exfalso;omega)))<;>refine Ka1 ?_))
        all_goals ((first|refine bG ?_|(refine aG ?_;refine aA (cO (k:=8) (vs:=e.r.cells) rf bU cW rfl rfl) rfl ?_));(first|refine bG ?_|(refine aG ?_;refine bX ?_));(first|refine bG ?_|(refine aG ?_;refine aA (W4 (a:=e.r) (b:=Rs.zero) rf rf (by kernel_rfl)) rfl ?_));refine Kc2 ?_)
        all_goals
         refine aX (λ c66=>?_) (λ c66=>?_)
         ·try exact nv c66
          all_goals try (first|contradiction|(exfalso;omega))
          all_goals exact absurd (hr0 g61) c66
         ·all_goals try (first|contradiction|(exfalso;omega))
          all_goals (refine bD ?_;refine cD ?_;refine J3 ?_;refine aA (jY (n:=8) (e:=3) rf rf (by kernel_rfl) (by kernel_rfl) (by omega)) rfl ?_;refine aA (nT (Tq (cs:=Tn l z) (v:=.int .i64 ((gK l z e.thr:Nat):Int)) rf bU iH (by rw[Nat.zero_add];exact M6 (by omega)))) rfl ?_;refine sZ ?_;refine aA (jY (n:=8) (e:=3) rf rf (by kernel_rfl) (by kernel_rfl) (by omega)) rfl ?_;refine aM (cK λ _=>Ou (cs:=Tn l z) (cs':=Tn l (z+1)) rf bU rf rfl iH (by rw[yf];exact Nat.ble_eq_true_of_le (by omega)) (by rw[<- yd he,Nat.zero_add];exact rfl) dV) (λ _=>?_);refine aC ?_;refine Kb6 ?_)
          all_goals refine nS (z+1) ?_ (hμ:=by omega);·show z+1<=l.length;omega
   ·all_goals try (first|contradiction|(exfalso;omega))
    all_goals (refine bQ rfl ?_;refine cC ?_)
    all_goals refine aP results36 (λ w hw=>?_);exact⟨rfl,hw.done⟩
theorem Z3(hP:HP ls l)(h:bh w p ls pl l):Calls prog 18 #[.slice p ls.length c,.slice pl l.length cl] w λ en w'=>en=.returned (.int .i64 0)/\Ct.St w [] [] w':=by
 have hn8:=hP.n;refine enter func18 ntmps18 rfl rfl h.start ?_;simp only[bY]
 all_goals (refine Ka5 ?_;refine cZ ?_;refine Bs ?_;refine aC ?_)
 all_goals
 refine aX (λ c9=>?_) (λ c9=>?_)
 ·all_goals try (first|contradiction|(exfalso;omega))
  all_goals refine cC ?_
  all_goals refine aP results18 (λ w hw=>?_);exact⟨rfl,hw.done⟩
 ·all_goals try (first|contradiction|(exfalso;omega))
  all_goals (refine mD ?_;refine J2 ?_;refine Ka9 ?_)
  all_goals
   refine iI [4,6,12,13,14,15,16,17,18,19] (λ z:Nat=>[(12,.int .i64 ((z:Nat):Int))]) (λ z=>z<=ls.length) (λ z=>ls.length-z) (0) (Nat.zero_le _) ?_ (λ z f hx=>?_);·repeat (first|exact bH _|refine aY (by first|exact rfl|(conv=>{lhs;whnf};simp;done)) ?_)
   refine K0a ?_;all_goals (refine Ka7 ?_)
   all_goals
   refine aX (λ c13=>?_) (λ c13=>?_)
   ·all_goals try (first|contradiction|(exfalso;omega))
    all_goals
     have hz:z<ls.length:=by omega
     have hm:=hP.m ls[z] (List.getElem_mem hz)
    all_goals (refine tG ?_;refine J0 ?_;refine aA (fM (cs:=jX ls) rf rf fU iH (.old .head) (by omega) (by rw[qU];exact hz)) rfl ?_;refine aA (eY (cs:=jX ls) rf iH (.old .head) (wC hz)) rfl ?_;refine Kb7 ?_;refine cZ ?_;refine Bs ?_;refine aC ?_)
    all_goals
     refine aX (λ c18=>?_) (λ c18=>?_);·all_goals try (first|contradiction|(exfalso;omega))
     ·all_goals try (first|contradiction|(exfalso;omega))
      all_goals (refine Kd0 ?_)
      all_goals
      refine eO (z+1) ?_ ?_ ?_;·omega
      ·repeat' (first|exact bH _|refine aY ?_ ?_)
       all_goals (first|exact rfl|(conv=>{lhs;whnf};simp;done)|(conv=>{lhs;whnf};congr 1;omega))
      ·show z+1<=ls.length;omega
   ·all_goals try (first|contradiction|(exfalso;omega))
    all_goals (refine bQ rfl ?_;refine Ir ?_;refine aK (cV (hc:=λ w1 hw=>Vz hP (bh.of hw))) (λ x22=>?_);refine pG ?_)
    all_goals
     refine aX (λ c23=>?_) (λ c23=>?_);·exact nv c23
     ·all_goals try (first|contradiction|(exfalso;omega))
      all_goals (refine bD ?_;refine cC ?_)
      all_goals
      refine aP results18 (λ w hw=>?_);exact⟨rfl,hw.done⟩
def TuK(y:Value):Prop:=∃a b,a<8/\b<16/\y=.agg ⟨sU (a,b)⟩
theorem gi:∀{y:Value},TuK y->∃l,keyOf prog 91 y=some l:=by
 have h:((List.range 8).all λ a=>(List.range 16).all λ b=>(keyOf prog 91 (.agg ⟨sU (a,b)⟩)).isSome)=true:=by kernel_rfl
 rintro y ⟨a,b,ha,hb,rfl⟩;rw[List.all_eq_true] at h;have h2:=List.all_eq_true.1 (h a (List.mem_range.2 ha)) b (List.mem_range.2 hb);exact Option.isSome_iff_exists.1 h2
theorem zi{y:Value}(hy:TuK y)(es:List MapEntry)(h:∀e∈es,TuK e.key):∃r,(∀w,(Instr.findKey 91 y es).run prog w=.ok r w)/\((r=none/\∀e∈es,e.key≠y)∨∃j e,r=some (j,e.val)/\e∈es/\e.key=y):=by
 refine aBo (by kernel_rfl) TuK (λ z hz=>?_) es h;obtain⟨l1,h1⟩:=gi hy;obtain⟨l2,h2⟩:=gi hz;by_cases hl:l1=l2;·refine⟨true,λ w=>?_,⟨λ _=>keyOf_inj_deep (m:=3) (by kernel_rfl) (by kernel_rfl) h1 (hl▸h2),λ _=>rfl⟩⟩;obtain⟨r,hr,hi⟩:=run_equal_deep (P:=prog) w (m:=3) (by decide) (by kernel_rfl) (by kernel_rfl) h1 h2;rw[hr,hi.2 hl]
 ·refine⟨false,λ w=>?_,⟨λ e=>(by cases e),λ e=>?_⟩⟩
  ·obtain⟨r,hr,hi⟩:=run_equal_deep (P:=prog) w (m:=3) (by decide) (by kernel_rfl) (by kernel_rfl) h1 h2;cases r with
   | true=>exact absurd (hi.1 rfl) hl
   | false=>exact hr
  ·exact absurd (Option.some.inj (h1.symm.trans (by rw[e];exact h2))) hl
def Ds(l:List gE)(z:Nat):Nat:=((l.take z).filter λ e=>!e.ret).length
theorem K5{l:List gE}{z:Nat}{e:gE}(h:l[z]?=some e):Ds l (z+1)=Ds l z+if e.ret=true then 0 else 1:=by
 have e1:l.take (z+1)=l.take z++[e]:=by rw[List.take_add_one,h];rfl
 unfold Ds;rw[e1,List.filter_append,List.length_append];congr 1;cases hr:e.ret<;>simp[List.filter_cons,hr]
set_option maxRecDepth 100000 in
theorem Q6(hP:HP ls l)(h:bh w p ls pl l):Calls prog 19 #[.slice pl l.length cl] w λ en w'=>∃x:Option Addr×Nat×Nat,en=.returned (.slice x.1 x.2.1 x.2.2)/\x.2.1<=Ds l l.length/\Ct.St w [] [] w':=by
 have hle:=hP.e;have hn8:=hP.n;refine enter func19 ntmps19 rfl rfl h.start ?_;simp only[bY]
 all_goals (refine cC ?_;refine J0 ?_;refine aK (cK λ _=>lU) (λ x8=>?_);refine J1 ?_;refine Ka5 ?_;refine Ka9 ?_)
 all_goals
  refine mE [4,6,7,11,12,13,14,15,16,17,18,19,20,21,22,23,24,25,26,27,28,29,30,31,32] (λ y:Nat×Option Addr×Nat×List (Nat×Nat)×List MapEntry×Nat=>[(11,.int .i64 ((y.1:Nat):Int)),(4,.slice y.2.1 y.2.2.2.1.length y.2.2.1)]) (λ y=>y.1<=l.length/\y.2.2.2.1.length<=Ds l y.1/\∀e∈y.2.2.2.2.1,TuK e.key/\e.val=.bool true) (λ y=>[(x8,bV y.2.2.2.2.1 y.2.2.2.2.2)]) (λ y=>[]) (λ y=>[⟨y.2.1,dE sU y.2.2.2.1,y.2.2.1,91,2⟩]) (λ y=>l.length-y.1) ((0,none,0,[],[],0)) (⟨Nat.zero_le _,Nat.zero_le _,λ _ h=>(List.not_mem_nil h).elim⟩) (λ y f hx=>?_) (hw0:=λ w hw=>(hw.gN 91 2));refine K0a ?_;obtain⟨z,yp,yc,L,es,ck⟩:=y;replace hx:z<=l.length/\L.length<=Ds l z/\∀e∈es,TuK e.key/\e.val=.bool true:=hx;obtain⟨hz,hL,hes⟩:=hx;dsimp only;all_goals (refine Ka7 ?_)
  all_goals
   refine aX (λ c12=>?_) (λ c12=>?_)
   ·all_goals try (first|contradiction|(exfalso;omega))
    all_goals
     have hz:z<l.length:=by omega
     obtain⟨e,he⟩:∃e,l[z]?=some e:=⟨l[z],List.getElem?_eq_getElem hz⟩;obtain⟨⟨s,hs,hi⟩,hc1,hr0⟩:=hP.ev z e he;have ht:e.thr<ls.length:=(List.getElem?_eq_some_iff.1 hs).1;have hsm:s.l.length<=16:=hP.m s (List.mem_of_getElem? hs);have hk:TuK (.agg ⟨sU (e.thr,e.idx)⟩):=⟨e.thr,e.idx,by omega,by omega,rfl⟩;obtain⟨r,hr1,hr2⟩:=zi hk es λ e he=>(hes e he).1
     have hci:=K5 he;have hcl:Ds l z<=z:=by unfold Ds;exact Nat.le_trans (List.length_filter_le _ _) (by rw[List.length_take];exact Nat.min_le_left _ _)
     replace hr2:r=none∨∃j,r=some (j,.bool true):=by
      rcases hr2 with⟨h,_⟩|⟨j,e2,h,h2,_⟩;·exact .inl h
      ·exact .inr ⟨j,by rw[h,(hes e2 h2).2]⟩
     have hes2:∀e2∈es++[⟨.agg ⟨sU (e.thr,e.idx)⟩,.bool true,ck⟩],TuK e2.key/\e2.val=.bool true:=λ e2 h2=>by
      rcases List.mem_append.1 h2 with h2|h2;·exact hes e2 h2
      ·rw[List.mem_singleton.1 h2];exact⟨hk,rfl⟩
     rcases hr2 with rfl|⟨j,rfl⟩
    all_goals (refine tG ?_;refine J0 ?_;refine aA (cR (f:=gE.cells) (l:=l) mS (by decide) rf rf fU cW (.old (.tail .head)) (by omega) (by omega)) rfl ?_;refine aA (fJ (f:=gE.cells) (l:=l) mS rf cW (.old (.tail .head)) he) rfl ?_;refine aI (λ x6=>?_);refine aM (cK λ _=>aE rf bU rf rfl cW rf dV) (λ _=>?_);refine aC ?_;refine tB ?_;refine aK (cV (hc:=λ w1 hw=>aDl _ w1)) (λ x16=>?_);refine aK (cK λ _=>iJ (z:=[.int .i64 0,.int .i64 0]) (by kernel_rfl)) (λ x7=>?_);refine aM (cK λ _=>aE rf bU rf rfl (by kernel_rfl) rf dV) (λ _=>?_);refine aC ?_;refine gP ?_;refine fl ?_)
    all_goals ((refine kT 20 (λ g20=>?_) (λ g20=>?_)<;>(try (first|contradiction|(exfalso;omega)))<;>refine Ka0 ?_))
    all_goals ((first|refine bG ?_|(refine aG ?_;refine aA (nT (dQ rf bU (by kernel_rfl))) rfl ?_));(first|refine bG ?_|(refine aG ?_;refine aA (nT (Rl (K:=91) (E:=4) (ze:=.bool false) rf rf bU (by kernel_rfl) (λ e w=>by kernel_rfl) hr1 (by kernel_rfl))) rfl ?_));refine y7 ?_;refine aC ?_)
    all_goals
     refine aX (λ c25=>?_) (λ c25=>?_)
     ·try exact nv c25
      all_goals try (first|contradiction|(exfalso;omega))
      all_goals (refine J2 ?_;refine aA (nT (dQ rf bU (by kernel_rfl))) rfl ?_;refine aM (cK λ _=>ur (K:=91) (E:=4) rf rf rf bU (by kernel_rfl) (λ e w=>by kernel_rfl) hr1 dV) (λ _=>?_);refine aC ?_;refine Js ?_;refine aA (nT (dQ rf bU (by kernel_rfl))) rfl ?_;refine aK E0n (λ x30=>?_);(refine aK (aQ.eG (wP (f:=sU) (l:=L) (v1:=(e.thr,e.idx)) oW (by decide) rfl rf rf .head rfl (.new .head) mZ rfl fU (by omega)) nM) (λ x31=>?_);try (refine eF (λ h31=>?_)));refine J1 ?_;refine Kb6 ?_)
      all_goals
       refine jS (by first|exact(z+1,x31.1,x31.2,L++[(e.thr,e.idx)],es++[⟨.agg ⟨sU (e.thr,e.idx)⟩,.bool true,ck⟩],ck+1)|exact(z+1,yp,yc,L,es,ck)) ?_ ?_ (by repeat (first|(with_reducible exact wT.refl)|refine wT.cons (by exact rfl) ?_)) ?_ (λ w hw=>by exact hw.back (hF:=by exact aT.nil));·show l.length-(z+1)<_;omega
       ·repeat' (first|exact bH _|refine aY ?_ ?_)
        all_goals (first|exact rfl|(simp only[List.length_append];exact rfl))
       ·first|exact⟨by omega,by rw[hci];exact Nat.le_trans hL (Nat.le_add_right _ _),hes⟩|exact⟨by omega,by rw[hci,if_neg (by simp[*]),List.length_append];exact Nat.add_le_add_right hL 1,hes2⟩
     ·try exact nv c25
      all_goals try (first|contradiction|(exfalso;omega))
      all_goals (refine Kd0 ?_)
      all_goals
       refine jS (by first|exact(z+1,x31.1,x31.2,L++[(e.thr,e.idx)],es++[⟨.agg ⟨sU (e.thr,e.idx)⟩,.bool true,ck⟩],ck+1)|exact(z+1,yp,yc,L,es,ck)) ?_ ?_ (by repeat (first|(with_reducible exact wT.refl)|refine wT.cons (by exact rfl) ?_)) ?_ (λ w hw=>by exact hw.back (hF:=by exact aT.nil));·show l.length-(z+1)<_;omega
       ·repeat' (first|exact bH _|refine aY ?_ ?_)
        all_goals (first|exact rfl|(simp only[List.length_append];exact rfl))
       ·first|exact⟨by omega,by rw[hci];exact Nat.le_trans hL (Nat.le_add_right _ _),hes⟩|exact⟨by omega,by rw[hci,if_neg (by simp[*]),List.length_append];exact Nat.add_le_add_right hL 1,hes2⟩
   ·all_goals try (first|contradiction|(exfalso;omega))
    all_goals (refine bQ rfl ?_;refine Kc4 ?_)
    all_goals
     refine aP results19 (λ w hw=>?_);have hz2:z=l.length:=by omega
     subst hz2;exact⟨(yp,L.length,yc),rfl,hL,hw.done⟩
end
end
end Go.Proofs.YthblobahelfefaaGreatDoor

/- Worlds by what may happen: memories, tries, what is left of the operations; all keep the labels. -/
import Derived.Test.YtbajmaoegmbfgaaGreatKw8
import Derived.Test.YtbajmaoegmbfgaaGreatGGc5
import Derived.Test.YtbajmaoegmbfgaaGreatGAr8
import Derived.Test.YtbajmaoegmbfgaaGreatGTkd
import Derived.Test.YtbajmaoegmbfgaaGreatGFd2
import Derived.Test.YtbajmaoegmbfgaaGreatGWo1
import Derived.Test.YtbajmaoegmbfgaaGreatGEx18

set_option linter.unusedSimpArgs false
set_option linter.unusedVariables false
namespace Go.Ct
section
open Go Go.RowKit
def Ai:Mm:=⟨[eY.c,eY.c,dJ (({Nd.zero with kind:=3}:Nd).c [] []) 0,dJ (({Nd.zero with kind:=2,gen:=1}:Nd).c [] []) 1],[0,3,4],1⟩
end
end Go.Ct
namespace Go.Proofs.YtbajmaoegmbfgaaGreat
section
open Go Go.RowKit Go.Ct
open Classical in
noncomputable def H8 (m:Nat) (k:ByteArray):Nat:=if k∈lN then jN k m else 18446744073709551616
inductive WR(H:ByteArray->Nat)(m:Nat):Mm->List fY->List Tr->Prop where
 | new:WR H m Ai [⟨3,false⟩] []
 | start {s s':Mm} {ts:List fY} {rs:List Tr} {k:Cl} {n j:Nat} {t':Tr} (h:WR H m s ts rs) (hk:∀σ:Kw,σ.mm=s->Inv H σ->(∀t∈ts,dM σ t)->Sb H σ k (jN k.key m)) (hr:Rc j (jY k (jN k.key m) n) s t' s') (ha:dU t'=true):WR H m s' ts (t'::rs)
 | step {s s':Mm} {ts:List fY} {rs:List Tr} {j:Nat} {t t':Tr} (h:WR H m s ts (t::rs)) (hr:Rc j t s t' s') (ha:dU t'=true):WR H m s' ts (t'::rs)
 | perm {s:Mm} {ts:List fY} {rs rs':List Tr} (h:WR H m s ts rs) (hp:rs.Perm rs'):WR H m s ts rs'
 | drop {s:Mm} {ts:List fY} {rs:List Tr} {t:Tr} (h:WR H m s ts (t::rs)):WR H m s ts rs
 | add {s:Mm} {ts:List fY} {rs:List Tr} {r:Rs} (h:WR H m s ts (.done r::rs)) (h0:0<r.root):WR H m s (ts++[⟨r.root,r.ro⟩]) (.done r::rs)
structure WI(H:ByteArray->Nat)(s:Mm)(ts:List fY)(rs:List Tr)(σ:Kw):Prop where
 mm:σ.mm=s
 inv:Inv H σ
 ts:∀t∈ts,dM σ t
 rs:∀t∈rs,dU t=true/\WT H Q0 t σ
def kw0:Kw:=⟨⟨[eY.c,eY.c],[],0⟩,λ _=>[],λ _=>0,λ _=>.no⟩
theorem xq{r:Int}(h1:1<=r)(h2:r<=2):kw0.nd r=eY.c:=by
 have:r=1∨r=2:=by omega
 rcases this with rfl|rfl<;>rfl
theorem Vr(H:ByteArray->Nat):Inv H kw0:=by
 refine⟨by decide,rfl,rfl,Int.le_refl _,Mz (Int.le_refl _),λ r h1 h2=>?_,λ c h1 h2=>?_⟩
 ·have h2':r<=2:=h2
  have e:=xq h1 h2'
  have hok:=K3 (gen:=0) (n:=2) (Int.le_refl _)
  refine⟨by rw[e];exact hok.1,by rw[e];exact Int.le_refl _,by rw[e];exact⟨bI _,bI _,bI _,(λ r hr=>nomatch hr),bI _,bI _,bI _,jD,jD⟩,λ k=>?_,λ k=>?_,λ k=>?_,λ k=>?_,λ k=>?_,λ k=>?_,λ k=>?_⟩<;>rw[e] at k
  ·exact eG (a:=1) (b:=2) k
  ·exact eG (a:=1) (b:=3) k
  ·exact eG (a:=1) (b:=4) k
  ·exact eG (a:=1) (b:=5) k
  ·exact eG (a:=1) (b:=6) k
  ·exact eG (a:=1) (b:=7) k
  ·exact eG (a:=1) (b:=8) k
 ·exact absurd h2 (by show ¬c<=((0:Nat):Int);omega)
def V5:Tr:=.alloc Kp 0 λ c=>.gen λ g=>.alloc (sO g) c λ j=>.cell j λ r=>.done (Oa r false)
theorem Xi{H:ByteArray->Nat}{σ:Kw}(i0:Inv H σ):WT H Q0 V5 σ:=by
 have hg:=i0.gen
 have hnew:lG H σ Kp ([]:List Nat) (σ.mm.gen+1):=mT (b:=0) (xs:=[]) i0 Mg (λ j hj v hv=>by simp[sY] at hv) (by simp) (λ h=>absurd h (by decide))
 refine fH i0 hnew (pZ i0 (λ e=>eG (a:=3) (b:=2) e)) λ ρ e0 cl l3 i4 _ em e1 e2 e3 h1 h2=>?_
 have hem:qR ρ e0 [] (σ.mm.gen+1):=oT (cl:=0) (.inl rfl) e1 e2 e3
 have hgr:ρ.mm.gen=σ.mm.gen:=by rw[em];rfl
 refine Lo i4 λ χ l4 i5 e4=>?_
 exact rB (g:=ρ.mm.gen+1) i5 (by omega) (by omega) (by simp) (hem.up l4) (by omega) λ ψ j l5 i6 hj=>D7 false i6 hj.1 λ ω c l6 i7 h0 hc=>λ _=>hc
theorem Wy:Rc 0 V5 kw0.mm (.done (Oa 3 false)) Ai :=
 .fP (.fP (.fP (.fP (Rc.refl _ _) (Sp.alloc _ _ _ _)) (Sp.gen _ _)) (Sp.alloc _ _ _ _)) (Sp.cell _ _ _)
theorem Tx{H:ByteArray->Nat}:∀(r:Rs) (σ τ:Kw),Inv H σ->Inv H τ->Le σ τ->Q0 r σ->Q0 r τ:=λ _ _ _ _ _ l h=>h.up l
theorem WR.inv{H:ByteArray->Nat}{m:Nat}{s:Mm}{ts:List fY}{rs:List Tr}(h:WR H m s ts rs):∃σ,WI H s ts rs σ:=by
 induction h with
 | new =>
  obtain⟨υ,l,i,e,hq⟩:=WT.rc Wy rfl (Vr H) (Xi (Vr H))
  refine⟨υ,e,i,λ t ht=>?_,λ t ht=>nomatch ht⟩
  rw[List.mem_singleton.1 ht]
  exact hq (by decide)
 | start _ hk hr ha ih =>
  obtain⟨σ,hi⟩:=ih
  obtain⟨υ,l,i,e,hw⟩:=WT.rc hr hi.mm hi.inv (rr hi.inv (hk σ hi.mm hi.inv hi.ts) _)
  refine⟨υ,e,i,λ t ht=>(hi.ts t ht).up l,λ t ht=>?_⟩
  rcases List.mem_cons.1 ht with rfl|ht
  ·exact⟨ha,hw⟩
  ·exact⟨(hi.rs t ht).1,WT.mono Tx (hi.rs t ht).1 hi.inv i l (hi.rs t ht).2⟩
 | step _ hr ha ih =>
  obtain⟨σ,hi⟩:=ih
  obtain⟨υ,l,i,e,hw⟩:=WT.rc hr hi.mm hi.inv (hi.rs _ (List.mem_cons_self ..)).2
  refine⟨υ,e,i,λ t ht=>(hi.ts t ht).up l,λ t ht=>?_⟩
  rcases List.mem_cons.1 ht with rfl|ht
  ·exact⟨ha,hw⟩
  ·have:=hi.rs t (List.mem_cons_of_mem _ ht)
   exact⟨this.1,WT.mono Tx this.1 hi.inv i l this.2⟩
 | perm _ hp ih =>
  obtain⟨σ,hi⟩:=ih
  exact⟨σ,hi.mm,hi.inv,hi.ts,λ t ht=>hi.rs t (hp.mem_iff.2 ht)⟩
 | drop _ ih =>
  obtain⟨σ,hi⟩:=ih
  exact⟨σ,hi.mm,hi.inv,hi.ts,λ t ht=>hi.rs t (List.mem_cons_of_mem _ ht)⟩
 | add _ h0 ih =>
  obtain⟨σ,hi⟩:=ih
  refine⟨σ,hi.mm,hi.inv,λ t ht=>?_,hi.rs⟩
  rcases List.mem_append.1 ht with ht|ht
  ·exact hi.ts t ht
  ·rw[List.mem_singleton.1 ht]
   exact(hi.rs _ (List.mem_cons_self ..)).2 h0
end

/- Tasks on an arena: runs. -/
section
open Go Go.RowKit Go.Ct
theorem pI:∀{t:Tr} {n c:Nat} (s:Mm),bS t n c->∀c',bS (fP t s).1 n c'
 | .done _,_,_,_,_,_=>trivial
 | .load _ _,0,_,_,_,_=>trivial
 | .load _ _,_+1,_,_,h,_=>h
 | .kO _ _ _ _,0,_,_,_,_=>trivial
 | .kO _ _ _ _,_+1,_,_,h,_=>h
 | .alloc _ _ _,_,0,_,h,_=>h.elim
 | .alloc n i k,_,_+1,s,h,c'=>pI (s.push n i) (h _) c'
 | .cell _ _,_,0,_,h,_=>h.elim
 | .cell i k,_,_+1,s,h,c'=>pI ⟨s.nodes,s.cs++[i],s.gen⟩ (h _) c'
 | .gen _,_,0,_,h,_=>h.elim
 | .gen k,_,_+1,s,h,c'=>pI ⟨s.nodes,s.cs,s.gen+1⟩ (h _) c'
 | .node r k,_,_,s,h,c'=>pI (t:=k (eC s.nodes r)) s (h (eC s.nodes r)) c'
 | .stuck,_,_,_,h,_=>h.elim
theorem pT:∀{t:Tr} {n c:Nat} (s:Mm),bS t n c->dU (fP t s).1=true
 | .done _,_,_,_,_=>rfl
 | .load _ _,_,_,_,_=>rfl
 | .kO _ _ _ _,_,_,_,_=>rfl
 | .alloc _ _ _,_,0,_,h=>h.elim
 | .alloc n i k,_,_+1,s,h=>pT (s.push n i) (h _)
 | .cell _ _,_,0,_,h=>h.elim
 | .cell i k,_,_+1,s,h=>pT ⟨s.nodes,s.cs++[i],s.gen⟩ (h _)
 | .gen _,_,0,_,h=>h.elim
 | .gen k,_,_+1,s,h=>pT ⟨s.nodes,s.cs,s.gen+1⟩ (h _)
 | .node r k,_,_,s,h=>pT (t:=k (eC s.nodes r)) s (h (eC s.nodes r))
 | .stuck,_,_,_,h=>h.elim
theorem pF:∀{t:Tr} {n c:Nat} (s:Mm),bS t n c->(fP t s).2.nodes.length<=s.nodes.length+c/\(fP t s).2.cs.length<=s.cs.length+c
 | .done _,_,_,_,_=>⟨Nat.le_add_right _ _,Nat.le_add_right _ _⟩
 | .load _ _,_,_,_,_=>⟨Nat.le_add_right _ _,Nat.le_add_right _ _⟩
 | .kO _ _ _ _,_,_,_,_=>⟨Nat.le_add_right _ _,Nat.le_add_right _ _⟩
 | .alloc _ _ _,_,0,_,h=>h.elim
 | .alloc n i k,_,c+1,s,h=>by
  have h2:=pF (s.push n i) (h ((s.nodes.length+1:Nat):Int))
  have hl:=lM (k:=n.kind) (cs:=s.cs) (init:=i)
  simp only[Mm.push,List.length_append,List.length_cons,List.length_nil] at h2
  show(fP (k _) (s.push n i)).2.nodes.length<=_/\(fP (k _) (s.push n i)).2.cs.length<=_
  simp only[Mm.push]
  omega
 | .cell _ _,_,0,_,h=>h.elim
 | .cell i k,_,c+1,s,h=>by
  have h2:=pF ⟨s.nodes,s.cs++[i],s.gen⟩ (h ((s.cs.length+1:Nat):Int))
  simp only[List.length_append,List.length_cons,List.length_nil] at h2
  show(fP (k _) _).2.nodes.length<=_/\(fP (k _) _).2.cs.length<=_
  omega
 | .gen _,_,0,_,h=>h.elim
 | .gen k,_,c+1,s,h=>by
  have h2:=pF ⟨s.nodes,s.cs,s.gen+1⟩ (h (s.gen+1))
  dsimp only at h2
  show(fP (k _) _).2.nodes.length<=_/\(fP (k _) _).2.cs.length<=_
  omega
 | .node r k,_,c,s,h=>pF (t:=k (eC s.nodes r)) s (h (eC s.nodes r))
 | .stuck,_,_,_,h=>h.elim
theorem Yz{t:Tr}{n c:Nat}(s:Mm)(ht:bS t (n+1) c)(ha:dU t=true)(c':Nat):bS (xI (t,s)).1 n c':=by
 cases t with
 | done r=>trivial
 | load x k=>exact pI _ (ht _) c'
 | kO x o m k=>exact pI _ (ht _) c'
 | alloc n i k=>cases ha
 | cell i k=>cases ha
 | gen k=>cases ha
 | node r k=>cases ha
 | stuck=>cases ha
theorem jz{t:Tr}{n c:Nat}(s:Mm)(ht:bS t (n+1) c)(ha:dU t=true):dU (xI (t,s)).1=true:=by
 cases t with
 | done r=>rfl
 | load x k=>exact pT _ (ht _)
 | kO x o m k=>exact pT _ (ht _)
 | alloc n i k=>cases ha
 | cell i k=>cases ha
 | gen k=>cases ha
 | node r k=>cases ha
 | stuck=>cases ha
theorem dt{t:Tr}{n c:Nat}(s:Mm)(ht:bS t (n+1) c)(ha:dU t=true):(xI (t,s)).2.nodes.length<=s.nodes.length+64/\(xI (t,s)).2.cs.length<=s.cs.length+64:=by
 cases t with
 | done r=>exact⟨Nat.le_add_right _ _,Nat.le_add_right _ _⟩
 | load x k=>exact pF s (ht _)
 | kO x o m k =>
  have:=pF ⟨s.nodes,eJ s.cs x o m,s.gen⟩ (ht (jb s.cs x o))
  simp only[gT] at this
  exact this
 | alloc n i k=>cases ha
 | cell i k=>cases ha
 | gen k=>cases ha
 | node r k=>cases ha
 | stuck=>cases ha
theorem Nt{t:Tr}{n:Nat}{s:Mm}(ht:bS t n 64)(ha:dU t=true):∀k,k<=n->bS (mK (t,s) k).1 (n-k) 64/\dU (mK (t,s) k).1=true/\(mK (t,s) k).2.nodes.length<=s.nodes.length+64*k/\(mK (t,s) k).2.cs.length<=s.cs.length+64*k
 | 0,_=>⟨ht,ha,Nat.le_refl _,Nat.le_refl _⟩
 | k+1,h=>by
  obtain⟨h1,h2,h3,h4⟩:=Nt ht ha k (by omega)
  rw[show n-k=n-(k+1)+1 by omega] at h1
  have h5:(xI (mK (t,s) k)).2.nodes.length<=(mK (t,s) k).2.nodes.length+64/\(xI (mK (t,s) k)).2.cs.length<=(mK (t,s) k).2.cs.length+64:=dt (mK (t,s) k).2 h1 h2
  exact⟨Yz _ h1 h2 64,jz _ h1 h2,by show(xI (mK (t,s) k)).2.nodes.length<=_;omega,by show(xI (mK (t,s) k)).2.cs.length<=_;omega⟩
def rC(p:Tr×Mm):Nat->Nat
 | 0=>0
 | k+1=>rC p k+if(mK p k).1.live=true then 1 else 0
theorem j3{p:Tr×Mm}(h:p.1.live=false):xI p=p:=by
 obtain⟨t,s⟩:=p
 cases t<;>first|rfl|cases h
theorem N5{p:Tr×Mm}{j:Nat}(h:(mK p j).1.live=false):∀k,mK p (j+k)=mK p j/\rC p (j+k)=rC p j
 | 0=>⟨rfl,rfl⟩
 | k+1=>by
  obtain⟨h1,h2⟩:=N5 h k
  refine⟨?_,?_⟩
  ·show xI (mK p (j+k))=_
   rw[h1,j3 h]
  ·show rC p (j+k)+(if(mK p (j+k)).1.live=true then 1 else 0)=_
   rw[h1,h2,h]
   rfl
theorem Bm{p:Tr×Mm}{j k:Nat}(h:(mK p j).1.live=false)(hk:j<=k):mK p k=mK p j/\rC p k=rC p j:=by
 have:=N5 h (k-j)
 rwa [show j+(k-j)=k by omega] at this
structure zv(b:Nat)(p:Tr×Mm)(a:AS)(B:Fr)(y:Cd×Fr×AS):Prop where
 rp:iY b p.1 p.2 y.1 p.2 (y.2.1++B)
 mm:y.2.2.mm=p.2
 ok:y.2.2.Ok
 gr:a.gZ y.2.2 y.2.1
theorem zv.of{b:Nat}{p:Tr×Mm}{a:AS}{B:Fr}{y:Cd×Fr×AS}(h:oQ b p a B y):zv b p a B y:=⟨h.1.1,h.1.2,h.2.1,h.2.2⟩
theorem Y3{b:Nat}{t:Tr}{s:Mm}{c:Cd}{B:Fr}(h:iY b t s c s B)(ha:dU t=true):(c.a.k≠0↔t.live=true):=by
 have:=(h.kind ha).1
 cases hl:t.live with
 | false=>rw[hl] at this;exact⟨λ hn=>absurd (this.2 rfl) hn,λ h=>nomatch h⟩
 | true=>rw[hl] at this;exact⟨λ _=>rfl,λ _ e=>nomatch this.1 e⟩
section
variable{D:List Nat}{A B:Fr}{a:AS}{b bt n:Nat}{w:World}{c:Cd}{t:Tr}
theorem jg{most m:Nat}(ht:bS t m 64)(hmm:most<=m)(ha:dU t=true)(hr:iY b t a.mm c a.mm B)(ok:a.Ok)(hm:a.mm.nodes.length+64*most<=137438953472/\a.mm.cs.length+64*most<=137438953472)(hn:n+most<1000000000)(hA:∀f∈aM a.L,f∈A)(hB:∀x∈B,x∈A)(hs:SF w D [(bt,tO b c n),(b,fA a)] A [] (fQ a) w) :
    Calls Tryz.prog 30 #[.pointer (some ⟨bt,0,none⟩),.int .i64 ((most:Nat):Int)] w λ e w'=>∃y:Cd×Fr×AS,e=.returned (.int .i64 ((rC (t,a.mm) most:Nat):Int))/\zv b (mK (t,a.mm) most) a B y/\SF w D [(bt,tO b y.1 (n+rC (t,a.mm) most)),(b,fA y.2.2)] [] y.2.1 (fQ y.2.2) w':=by
  have hall:=λ k hk=>Nt (s:=a.mm) ht ha k hk
  refine enter Tryz.func30 Tryz.ntmps30 rfl rfl hs ?_
  simp only[bY]
  refine cQ ?_;refine cQ ?_;refine C7 ?_
  refine oB [5,6,7,8,9,10,11,12,13,14,15,16,17,18,19,20,21,22,23,24] (λ y:Nat×Cd×Fr×AS=>[(5,.int .i64 ((y.1:Nat):Int))]) (λ y=>y.1<=most/\zv b (mK (t,a.mm) y.1) a B y.2/\rC (t,a.mm) y.1=y.1) (λ y=>[(bt,tO b y.2.1 (n+y.1)),(b,fA y.2.2.2)]) (λ y=>y.2.2.1) (λ y=>fQ y.2.2.2) (λ y=>most-y.1) ((0,c,[],a)) (⟨Nat.zero_le _,⟨hr,rfl,ok,AS.gZ.refl a⟩,rfl⟩) (λ y f hx=>?_) (hw0:=λ w hw=>hw)
  dsimp only[gU,List.map,List.cons_append,List.nil_append]
  obtain⟨h1,h2,h3,h4⟩:=hall y.1 (by omega)
  have hrp:iY b (mK (t,a.mm) y.1).1 y.2.2.2.mm y.2.1 y.2.2.2.mm (y.2.2.1++B):=by rw[hx.2.1.mm];exact hx.2.1.rp
  have hsm:y.2.2.2.mm.Small:=by rw[hx.2.1.mm];exact⟨by omega,by omega⟩
  have hli:=Y3 hx.2.1.rp h2
  refine Dg ?_;refine G7 ?_
  (refine eM 9 (λ g9=>?_) (λ g9=>?_)<;>(first|refine aJ ?_|(refine aF ?_;refine aA ?_)))
  all_goals ((first|refine aJ ?_|(refine aF ?_;refine aQ (cV (hc:=λ w1 hw=>vB (hw.st.at cK))) (λ x11=>?_)));refine Qg ?_;refine aA ?_)
  all_goals (first|refine aJ ?_|(refine eM 14 (λ g14=>?_) (λ g14=>?_)<;>(first|refine aJ ?_|(refine aF ?_;refine aA ?_))))
  all_goals ((first|refine aJ ?_|(refine aF ?_;refine dF ?_));refine J6 ?_;refine Qg ?_;refine aG ?_)
  all_goals
   refine bE (λ c20=>?_) (λ c20=>?_)
   · try exact nv c20
     all_goals (refine aZ ?_;refine cO ?_;refine J2 ?_;refine aC (cM (V:=λ _:Cd×Fr×AS=>.tuple #[]) (hs:=[(bt,tO b y.2.1 (n+y.1)),(b,fA y.2.2.2)]) (os:=fQ y.2.2.2) (Fc:=λ z=>z.2.1) (A0:=aM y.2.2.2.L++(y.2.2.1++B)) (hs':=λ z=>[(bt,tO b z.1 (n+y.1+1)),(b,fA z.2.2)]) (os':=λ z=>fQ z.2.2) (hA:=bA.of λ f hf=>(List.mem_append.1 hf).elim (λ h1=>(hx.2.1.gr.fam f h1).elim .inl λ h2=>h2.elim (λ h3=>.inr (.inl (hA f h3))) λ h3=>.inr (.inr (.inl h3))) λ h1=>(List.mem_append.1 h1).elim (λ h2=>.inr (.inr (.inl h2))) λ h2=>.inr (.inl (hB f h2))) (hc:=λ w hw=>Jb (i:=m-(y.1+1)) (m:=64) (by rw[show m-(y.1+1)+1=m-y.1 by omega];exact h1) h2 (hli.1 g14) hrp hx.2.1.ok hsm (by omega) (λ f hf=>List.mem_append_left _ hf) (λ f hf=>List.mem_append_right _ hf) hw)) (λ x22 h22=>?_);refine aG ?_;refine yU ?_;refine eU ?_)
     all_goals
      refine iS ((y.1+1,x22.1,x22.2.1++y.2.2.1,x22.2.2)) ?_ (hw1:=λ w hw=>hw)
      · have e1:mK (t,a.mm) (y.1+1)=xI ((mK (t,a.mm) y.1).1,y.2.2.2.mm):=by rw[hx.2.1.mm];rfl
        have h5:=zv.of h22.1
        have hlv:=hli.1 g14
        refine⟨by show y.1+1<=most;omega,⟨?_,?_,h5.ok,hx.2.1.gr.trans h5.gr⟩,?_⟩
        · rw[e1]
          show iY b _ _ _ _ (x22.2.1++y.2.2.1++B)
          rw[List.append_assoc]
          exact h5.rp
        · rw[e1];exact h5.mm
        · show rC (t,a.mm) y.1+_=y.1+1
          rw[hlv,hx.2.2]
          rfl
   · try exact nv c20
     all_goals (refine bM rfl ?_;refine J2 ?_;refine J1 ?_)
     all_goals
      refine aT Tryz.results30 (λ w hw=>?_)
      have e:mK (t,a.mm) most=mK (t,a.mm) y.1/\rC (t,a.mm) most=y.1:=by
       first
        | (have h:=Bm (Bool.eq_false_iff.2 λ h=>hli.2 h g14) hx.1;exact⟨h.1,h.2.trans hx.2.2⟩)
        | (have em:most=y.1:=(by have:=hx.1;omega);rw[em];exact⟨rfl,hx.2.2⟩)
      rw[e.1,e.2]
      exact⟨y.2,rfl,hx.2.1,hw.ret (List.Sublist.refl _) (aX.hX λ f hf=>hf) (List.Sublist.refl _)⟩
end
end

/- find: the runs of the sanity check, plainly. -/
end Go.Proofs.YtbajmaoegmbfgaaGreat
namespace Go.Ct
section
open Go Go.RowKit
end
end Go.Ct
namespace Go.Proofs.YtbajmaoegmbfgaaGreat
section
open Go Go.RowKit Go.Ct
abbrev aK:ByteArray:=⟨#[97]⟩
abbrev kA:Cl:=⟨8,⟨3,false⟩,0,0,0,0,0,63,aK,8,0,0,false⟩
theorem hsA:jN aK 63=12:=by decide
abbrev n3:Nv:=dJ (({Nd.zero with kind:=3}:Nd).c [] []) 0
abbrev n5:Nv:=dJ (xZ 12 aK 8) 3
abbrev n6:Nv:=dJ (Dz 4096 [5]) 3
def Qw:Mm:=⟨Ai.nodes++[n5,n6],[0,6,4,0],1⟩
theorem aBA:CV n3.nd n3.xs n3.ys:=by
 have:=db (b:=0) (xs:=[]) ⟨by decide,by decide,λ i hi=>nomatch hi⟩ (none,0) (p:=1) (by decide)
 exact(sg.1 this)
theorem aAs:BV 4096 [5]:=⟨by decide,by decide,λ i hi=>by
 have:i=0:=by simp at hi;exact hi
 subst this;decide⟩
theorem aAF:CV n6.nd n6.xs n6.ys:=sg.1 (db aAs (none,0) (p:=4) (by decide))
theorem lk3:iR n3 12=none:=by
 unfold iR Dk
 exact if_neg λ h=>absurd h.2 (by decide)
theorem in3:ju n3 12 5=Dz 4096 [5]:=by
 unfold ju bn
 rw[if_pos ⟨aBA,by decide,by decide,by decide⟩,show dI n3.bm.toNat 12=4096 by decide +kernel,show tR n3.xs (lQ n3.bm.toNat 12) 5=[5] by decide +kernel]
 rfl
theorem lk6:iR n6 12=some 5:=by
 unfold iR Dk
 rw[if_pos ⟨aAF,by decide⟩]
 decide +kernel
theorem w5:eP 12 0=12:=by decide
theorem aBQ(n:Nat)(t:fY)(l:Int)(hl:eP 12 l=12):Ct.fP (oR t 12 aK n l 3) Ai=(.done (dL false 0),Ai):=by
 show Ct.fP (if n3.kind=5 then _ else if n3.kind=6 then _ else match iR n3 (eP 12 l) with|none=>_|some b=>_) Ai=_
 rw[hl,lk3]
 rfl
theorem aAg(n:Nat)(t:fY)(l:Int)(hl:eP 12 l=12):Ct.fP (oR t 12 aK n l 6) Qw=(.done (dL true 8),Qw):=by
 show Ct.fP (if n6.kind=5 then _ else if n6.kind=6 then _ else match iR n6 (eP 12 l) with|none=>_|some b=>_) Qw=_
 rw[hl,lk6]
 rfl
abbrev tA:fY:=⟨3,false⟩
noncomputable abbrev m6:Tr:=Qf tA 12 aK 1073741824
theorem je:m6=lI tA λ i=>jH tA i (oR tA 12 aK 1073741823 0):=by
 show Qf tA 12 aK 1073741824=_
 unfold Qf
 rw[if_pos (by decide)]
 rfl
theorem aBh:mK (Ct.fP m6 Ai) 3=(.done (dL false 0),Ai)/\rC (Ct.fP m6 Ai) 3=3:=by
 rw[je]
 have e2:mK (Ct.fP (lI tA λ i=>jH tA i (oR tA 12 aK 1073741823 0)) Ai) 2=(.load 1 λ p=>if p=0 then oR tA 12 aK 1073741823 0 3 else .node p λ np=>if dY np then(if tA.ro=true then kG 4 3 p false (oR tA 12 aK 1073741823 0) else xS tA λ r=>.node r λ nr=>.node 4 λ ni=>kG 4 3 p (nr.gen==ni.gen) (oR tA 12 aK 1073741823 0)) else Hy 4 3 p (oR tA 12 aK 1073741823 0),Ai):=rfl
 have e3:mK (Ct.fP (lI tA λ i=>jH tA i (oR tA 12 aK 1073741823 0)) Ai) 3=(.done (dL false 0),Ai):=by
  show xI (mK _ 2)=_
  rw[e2]
  exact aBQ _ _ _ w5
 refine⟨e3,?_⟩
 show rC _ 2+(if(mK _ 2).1.live=true then 1 else 0)=3
 rw[e2]
 rfl
theorem aBp:mK (Ct.fP m6 Qw) 3=(.done (dL true 8),Qw)/\rC (Ct.fP m6 Qw) 3=3:=by
 rw[je]
 have e2:mK (Ct.fP (lI tA λ i=>jH tA i (oR tA 12 aK 1073741823 0)) Qw) 2=(.load 4 λ p=>if p=0 then oR tA 12 aK 1073741823 0 6 else .node p λ np=>if dY np then(if tA.ro=true then kG 4 6 p false (oR tA 12 aK 1073741823 0) else xS tA λ r=>.node r λ nr=>.node 4 λ ni=>kG 4 6 p (nr.gen==ni.gen) (oR tA 12 aK 1073741823 0)) else Hy 4 6 p (oR tA 12 aK 1073741823 0),Qw):=rfl
 have e3:mK (Ct.fP (lI tA λ i=>jH tA i (oR tA 12 aK 1073741823 0)) Qw) 3=(.done (dL true 8),Qw):=by
  show xI (mK _ 2)=_
  rw[e2]
  exact aAg _ _ _ w5
 refine⟨e3,?_⟩
 show rC _ 2+(if(mK _ 2).1.live=true then 1 else 0)=3
 rw[e2]
 rfl
theorem aBS{p:Tr×Mm}{r:Rs}{s:Mm}(h:mK p 3=(.done r,s))(hc:rC p 3=3):mK p 9=(.done r,s)/\rC p 9=3:=by
 obtain⟨h1,h2⟩:=Bm (p:=p) (j:=3) (k:=9) (by rw[h];rfl) (by decide)
 exact⟨h1.trans h,h2.trans hc⟩
def mmP:Mm:=⟨Ai.nodes++[n5,n6],[0,3,4,3],1⟩
theorem z9(K:Rs->Int->Tr)(gen:Int):Ct.fP (jA kA 4 3 12 0 gen K) Ai=Ct.fP (kH tA 4 3 6 λ ok=>K (nS false 0) (if ok=true then 1 else 0)) mmP:=by
 show Ct.fP (if n3.kind=6 then _ else match iR n3 (eP 12 ((0:Nat):Int)) with|none=>(if mM kA false 0=true then Tr.alloc (xZ 12 aK 8) 0 λ s=>.alloc (ju n3 (eP 12 ((0:Nat):Int)) s) 3 λ r=>kH tA 4 3 r λ ok=>K (nS false 0) (if ok=true then 1 else 0) else K (dL false 0) 1)|some b=>_) Ai=_
 rw[show eP 12 ((0:Nat):Int)=12 from w5,lk3]
 show Ct.fP (Tr.alloc (ju n3 12 5) 3 λ r=>kH tA 4 3 r λ ok=>K (nS false 0) (if ok=true then 1 else 0)) (Ai.push (xZ 12 aK 8) 0)=_
 rw[in3]
 rfl
noncomputable abbrev ptT:Tr:=T0 kA 63
theorem v8(ag:Tr)(gen:Int)(n:Nat):∃KL:Int->Rs->Int->Tr,(rK kA 12 .done ag gen (n+1) 4 0 0=jH tA 4 λ m=>.node m λ nm=>if nm.kind=5 then vL tA 0 4 12 (((0:Nat):Int)-1) (λ _=>ag) else jA kA 4 m 12 0 gen (KL m))/\∀m r,KL m r 1=.done r :=
 ⟨λ m r what=>if what=1 then .done r else if what=0 then ag else B6 kA 4 m (eP 12 ((0:Nat):Int)) gen λ b=>if b=0 then ag else rK kA 12 .done ag gen n b 4 1,rfl,λ _ _=>rfl⟩
theorem X7(n:Nat):yW kA 12 .done (n+1)=lI tA λ i=>.node i λ ni=>rK kA 12 .done (yW kA 12 .done n) ni.gen n i 0 0:=rfl
theorem zi:ptT=lI tA λ i=>.node i λ ni=>rK kA 12 .done (yW kA 12 .done (1073741822+1)) ni.gen (1073741822+1) i 0 0:=by
 show T0 kA 63=_
 unfold T0
 rw[show kA.key=aK from rfl,hsA]
 unfold jY
 rw[if_neg (by decide),if_neg (by decide),if_neg (by decide),if_neg (by decide),if_neg (by decide),if_neg (by decide),if_pos rfl]
 exact X7 (1073741822+1)
theorem Z4(P:Int->Int->Tr):mK (Ct.fP (lI tA λ i=>.node i λ ni=>P ni.gen i) Ai) 1=Ct.fP (P 1 4) Ai:=rfl
theorem run_read(L:Int->Tr)(ag:Tr):mK (Ct.fP (jH tA 4 λ m=>.node m λ nm=>if nm.kind=5 then ag else L m) Ai) 2=Ct.fP (L 3) Ai:=rfl
def zt:Mm:=⟨Ai.nodes++[n5,n6],[0,6,4,3],1⟩
theorem vl(K:Bool->Tr):mK (Ct.fP (kH tA 4 3 6 K) mmP) 1=Ct.fP (oS tA 4 6 λ m=>K (m==6)) zt:=rfl
theorem vp(K:Int->Tr):mK (Ct.fP (oS tA 4 6 K) zt) 1=Ct.fP (xS tA λ r=>.node r λ nr=>.node 4 λ ni=>kG 4 6 3 (nr.gen==ni.gen) K) zt:=rfl
theorem yo(K:Int->Tr):mK (Ct.fP (xS tA λ r=>.node r λ nr=>.node 4 λ ni=>kG 4 6 3 (nr.gen==ni.gen) K) zt) 1=Ct.fP (kG 4 6 3 true K) zt:=rfl
theorem ym(K:Int->Tr):mK (Ct.fP (kG 4 6 3 true K) zt) 2=Ct.fP (K 6) Qw:=rfl
theorem qy(K:Int->Tr):mK (Ct.fP (kH tA 4 3 6 λ ok=>K (if ok=true then 1 else 0)) mmP) 5=Ct.fP (K 1) Qw:=by
 rw[show(5:Nat)=1+1+1+2 from rfl,wX,wX,wX,vl,vp,yo,ym]
 rfl
theorem T7:mK (Ct.fP ptT Ai) 8=(.done (nS false 0),Qw):=by
 rw[zi]
 generalize yW kA 12 .done (1073741822+1)=ag
 generalize 1073741822=n
 obtain⟨KL,h1,h2⟩:=v8 ag 1 n
 rw[show(8:Nat)=1+2+5 from rfl,wX,wX,Z4 λ g i=>rK kA 12 .done ag g (n+1) i 0 0,h1]
 rw[run_read (λ m=>jA kA 4 m 12 0 1 (KL m)),z9,qy (λ k=>KL 3 (nS false 0) k),h2]
 rfl
end

/- Worlds: the call of an operation. -/
section
open Go Go.RowKit Go.Ct
theorem vt{ts:List fY}{j:Nat}(h:j<ts.length):((tH ts).drop (2*j)).take 2=[.int .i64 (ts.getD j ⟨0,false⟩).root,.bool (ts.getD j ⟨0,false⟩).ro]:=by
 induction ts generalizing j with
 | nil=>simp at h
 | cons t ts ih =>
  cases j with
  | zero=>simp[tH]
  | succ j =>
   have:=ih (j:=j) (by simpa using h)
   rw[show 2*(j+1)=2*j+1+1 by omega]
   simpa[tH] using this
section
variable{P:Program}{S:List (Nat×Value)}{d:Nat}{ty t t' e:TypeId}{pos:String}{af:Array Edge}{gd:Option (Nat×Bool)}{x y:Operand}{w0 w:World}{M:List Nat}{H:List (Nat×Obj)}{A F:Fr}{O:List Ow}{a:Option Addr}
theorem du{ts:List fY}{q:Nat}(hx:ev S x=.pointer (some ⟨dB a,eH a+2*q,none⟩))(ht:jL P t 2=true)(hf:qN A F O a (tH ts))(hq:q<ts.length) :
  aL P S (SF w0 M H A F O) ⟨some d,.load t x,ty,pos,af,gd⟩ (.agg ⟨[.int .i64 (ts.getD q ⟨0,false⟩).root,.bool (ts.getD q ⟨0,false⟩).ro]⟩):=Gf hx ht hf (vt hq) rfl
end
structure Bj where
 key:ByteArray
 val:Int
 exp:Int
 Ho:Int
 only:Bool
 t:fY
 pos:Nat
def Bj.cl(q:Bj)(kind mask:Int):Cl:=⟨kind,q.t,0,0,0,0,0,mask,q.key,q.val,q.exp,q.Ho,q.only⟩
def wrK(kind:Int):Prop:=kind=8∨kind=9∨kind=12∨kind=4
structure M7(kind:Int)(ts:List fY)(q:Bj):Prop where
 ky:q.key∈lN
 mem:q.t∈ts
 ro:wrK kind->q.t.ro=false
theorem pB{v:Nat}(h:v<8):lN.getD v ⟨#[]⟩∈lN:=by
 have:v=0∨v=1∨v=2∨v=3∨v=4∨v=5∨v=6∨v=7:=by omega
 rcases this with rfl|rfl|rfl|rfl|rfl|rfl|rfl|rfl<;>simp[lN]
theorem O8{ts:List fY}{j:Nat}(h:j<ts.length):ts.getD j ⟨0,false⟩∈ts:=by
 rw[kP,List.getElem?_eq_getElem h];exact List.getElem_mem h
section
variable{P:Program}{S:List (Nat×Value)}{G:World->Prop}{d:Nat}{ty t t':TypeId}{pos:String}{af:Array Edge}{gd:Option (Nat×Bool)}{x y:Operand}
theorem Zr{a b:Nat}(hx:ev S x=.int .i64 ((a:Nat):Int))(hy:ev S y=.int .i64 ((b:Nat):Int))(h0:b≠0):aL P S G ⟨some d,.binOp .rem t x y t',ty,pos,af,gd⟩ (.int .i64 ((a%b:Nat):Int)):=by
 have:=dq (P:=P) (G:=G) (d:=d) (ty:=ty) (pos:=pos) (af:=af) (gd:=gd) (t:=t) (t':=t') hx hy (by omega)
 rwa [Int.tmod_eq_emod_of_nonneg (by omega),<- Int.natCast_emod] at this
end
section
variable{bw bm tb:Nat}{D:List Nat}{A:Fr}{w:World}{mask:Int}{ts:List fY}{pt pe:Option Addr}{kt ke ne:Nat}{l:List Int}{a:Option Addr}{c p:Nat}
set_option maxRecDepth 100000 in
set_option maxHeartbeats 2000000 in
theorem V1(kind:Int)(hkd:7<=kind/\kind<=12)(hl:l.length<=17592186043904)(h0:0<ts.length)(hts:ts.length<=1000)(hr0:(ts.getD 0 ⟨0,false⟩).ro=false)
  (hs:SF w D [(tb,Dv a l c p),(bw,nR bm mask pt ts.length kt pe ne ke)] [(a,aH l)] [] [⟨pt,tH ts,kt,29,2⟩] w) :
  Calls Tryz.prog 54 #[.pointer (some ⟨bw,0,none⟩),.int .i64 kind,.pointer (some ⟨tb,0,none⟩)] w λ e w'=>∃q:Bj,e=.returned (.agg ⟨M9 (q.cl kind mask)⟩)/\M7 kind ts q /\
   SF w D [(tb,Dv a l c q.pos),(bw,nR bm mask pt ts.length kt pe ne ke)] [] [] [⟨pt,tH ts,kt,29,2⟩] w':=by
 refine enter Tryz.func54 Tryz.ntmps54 rfl rfl hs ?_
 simp only[bY]
 refine J0 ?_;refine aI (λ x6=>?_);refine Mt ?_
 refine eE [7,12,13,14,15,16,17,18,19,20,21,22,23,24,25,26,27,28,29,30] (λ y:Nat×Bj=>[(7,.pointer (some ⟨y.1,0,none⟩))]) (λ y=>y.2.key∈lN) (λ y=>[(y.1,.cells ⟨M9 (y.2.cl kind mask)⟩ 89 (0,0)),(x6,.cells ⟨M9 ⟨0,⟨0,false⟩,0,0,0,0,0,0,⟨#[]⟩,0,0,0,false⟩⟩ 89 (0,0)),(tb,Dv a l c y.2.pos),(bw,nR bm mask pt ts.length kt pe ne ke)]) (λ _=>[]) (λ _=>[⟨pt,tH ts,kt,29,2⟩]) (by decide) (λ _=>by exact rfl) ?_ (λ y f hx=>?_)
 ·refine iB (.one 0 [] (.one 1 [] (.one 2 [] (.one 3 [] (.one 4 [] (.one 5 [] (.one 7 [] (.one 10 [] (.one 13 [] (.one 15 [] (.two 6 [4] (.two 8 [4] (.one 9 [] (.two 11 [4] (.one 12 [] (.two 14 [4] (.two 16 [4] (.one 17 [] (.one 18 [] (.one 19 [4] (.one 20 [] .nil)))) 0 [] (.two 19 [4] (.one 16 [4] (.one 17 [] (.one 18 [] (.one 20 [] .nil)))) 0 [] .nil)) 0 [] (.two 19 [4] (.one 14 [4] (.one 16 [4] (.one 17 [] (.one 18 [] (.one 20 [] .nil))))) 0 [] .nil))) 0 [] (.two 19 [4] (.one 11 [4] (.one 12 [] (.one 14 [4] (.one 16 [4] (.one 17 [] (.one 18 [] (.one 20 [] .nil))))))) 0 [] .nil))) 0 [] (.two 19 [4] (.one 8 [4] (.one 9 [] (.one 11 [4] (.one 12 [] (.one 14 [4] (.one 16 [4] (.one 17 [] (.one 18 [] (.one 20 [] .nil))))))))) 0 [] .nil)) 0 [] (.two 19 [4] (.one 6 [4] (.one 8 [4] (.one 9 [] (.one 11 [4] (.one 12 [] (.one 14 [4] (.one 16 [4] (.one 17 [] (.one 18 [] (.one 20 [] .nil)))))))))) 0 [] .nil)))))))))))) ?_
  refine Yu ?_;refine iD ?_;refine iD ?_;refine aN ?_
  refine iF (E:=[6,19]) (by decide +kernel) ((.cons ?_ (.cons ?_ .nil)))
  ·refine mU (i:=6) (hq:=(wN (hc:=λ w1 hw=>uk (hw.tape cK fin hl)))) (h:=λ x18 h18=>?_)
   refine iF (E:=[8,19]) (by decide +kernel) ((.cons ?_ (.cons ?_ .nil)))
   ·refine mU (i:=8) (hq:=(wN (hc:=λ w1 hw=>eQ 6 (hw.tape cK fin hl) (by decide) (by decide)))) (h:=λ x20 h20=>?_)
    refine nA ?_
    refine iF (E:=[11,19]) (by decide +kernel) ((.cons ?_ (.cons ?_ .nil)))
    ·refine mU (i:=11) (hq:=(wN (hc:=λ w1 hw=>eQ 6 (hw.tape cK fin hl) (by decide) (by decide)))) (h:=λ x23 h23=>?_)
     refine nA ?_
     refine iF (E:=[14,19]) (by decide +kernel) ((.cons ?_ (.cons ?_ .nil)))
     ·refine mU (i:=14) (hq:=(wN (hc:=λ w1 hw=>eQ 4 (hw.tape cK fin hl) (by decide) (by decide)))) (h:=λ x26 h26=>?_)
      refine iF (E:=[16,19]) (by decide +kernel) ((.cons ?_ (.cons ?_ .nil)))
      ·refine mU (i:=16) (hq:=(wN (hc:=λ w1 hw=>eQ 3 (hw.tape cK fin hl) (by decide) (by decide)))) (h:=λ x28 h28=>?_)
       refine mD ?_;refine gN ?_;refine iC (h:=λ x7=>?_);refine Ag ?_
       refine eT ((x7,⟨lN.getD x18 ⟨#[]⟩,((x20:Nat):Int),((x23:Nat):Int),((x26:Nat):Int),((x28:Nat):Int)==0,⟨0,false⟩,lJ l (lJ l (lJ l (lJ l (lJ l p))))⟩)) ?_
       ·exact pB h18.1
      ·refine iE (i:=19) (h:=λ x7=>?_)
       refine bD (i:=16) (hq:=(wN (hc:=λ w1 hw=>eQ 3 (hw.tape cK fin hl) (by decide) (by decide)))) (h:=λ x28 h28=>?_);refine mD ?_;refine gN ?_;refine Ag ?_
       refine eT ((x7,⟨lN.getD x18 ⟨#[]⟩,((x20:Nat):Int),((x23:Nat):Int),((x26:Nat):Int),((x28:Nat):Int)==0,⟨0,false⟩,lJ l (lJ l (lJ l (lJ l (lJ l p))))⟩)) ?_
       ·exact pB h18.1
     ·refine iE (i:=19) (h:=λ x7=>?_)
      refine bD (i:=14) (hq:=(wN (hc:=λ w1 hw=>eQ 4 (hw.tape cK fin hl) (by decide) (by decide)))) (h:=λ x26 h26=>?_);refine bD (i:=16) (hq:=(wN (hc:=λ w1 hw=>eQ 3 (hw.tape cK fin hl) (by decide) (by decide)))) (h:=λ x28 h28=>?_);refine mD ?_;refine gN ?_;refine Ag ?_
      refine eT ((x7,⟨lN.getD x18 ⟨#[]⟩,((x20:Nat):Int),((x23:Nat):Int),((x26:Nat):Int),((x28:Nat):Int)==0,⟨0,false⟩,lJ l (lJ l (lJ l (lJ l (lJ l p))))⟩)) ?_
      ·exact pB h18.1
    ·refine iE (i:=19) (h:=λ x7=>?_)
     refine bD (i:=11) (hq:=(wN (hc:=λ w1 hw=>eQ 6 (hw.tape cK fin hl) (by decide) (by decide)))) (h:=λ x23 h23=>?_);refine nA ?_;refine bD (i:=14) (hq:=(wN (hc:=λ w1 hw=>eQ 4 (hw.tape cK fin hl) (by decide) (by decide)))) (h:=λ x26 h26=>?_);refine bD (i:=16) (hq:=(wN (hc:=λ w1 hw=>eQ 3 (hw.tape cK fin hl) (by decide) (by decide)))) (h:=λ x28 h28=>?_);refine mD ?_;refine gN ?_;refine Ag ?_
     refine eT ((x7,⟨lN.getD x18 ⟨#[]⟩,((x20:Nat):Int),((x23:Nat):Int),((x26:Nat):Int),((x28:Nat):Int)==0,⟨0,false⟩,lJ l (lJ l (lJ l (lJ l (lJ l p))))⟩)) ?_
     ·exact pB h18.1
   ·refine iE (i:=19) (h:=λ x7=>?_)
    refine bD (i:=8) (hq:=(wN (hc:=λ w1 hw=>eQ 6 (hw.tape cK fin hl) (by decide) (by decide)))) (h:=λ x20 h20=>?_);refine nA ?_;refine bD (i:=11) (hq:=(wN (hc:=λ w1 hw=>eQ 6 (hw.tape cK fin hl) (by decide) (by decide)))) (h:=λ x23 h23=>?_);refine nA ?_;refine bD (i:=14) (hq:=(wN (hc:=λ w1 hw=>eQ 4 (hw.tape cK fin hl) (by decide) (by decide)))) (h:=λ x26 h26=>?_);refine bD (i:=16) (hq:=(wN (hc:=λ w1 hw=>eQ 3 (hw.tape cK fin hl) (by decide) (by decide)))) (h:=λ x28 h28=>?_);refine mD ?_;refine gN ?_;refine Ag ?_
    refine eT ((x7,⟨lN.getD x18 ⟨#[]⟩,((x20:Nat):Int),((x23:Nat):Int),((x26:Nat):Int),((x28:Nat):Int)==0,⟨0,false⟩,lJ l (lJ l (lJ l (lJ l (lJ l p))))⟩)) ?_
    ·exact pB h18.1
  ·refine iE (i:=19) (h:=λ x7=>?_)
   refine bD (i:=6) (hq:=(wN (hc:=λ w1 hw=>uk (hw.tape cK fin hl)))) (h:=λ x18 h18=>?_);refine bD (i:=8) (hq:=(wN (hc:=λ w1 hw=>eQ 6 (hw.tape cK fin hl) (by decide) (by decide)))) (h:=λ x20 h20=>?_);refine nA ?_;refine bD (i:=11) (hq:=(wN (hc:=λ w1 hw=>eQ 6 (hw.tape cK fin hl) (by decide) (by decide)))) (h:=λ x23 h23=>?_);refine nA ?_;refine bD (i:=14) (hq:=(wN (hc:=λ w1 hw=>eQ 4 (hw.tape cK fin hl) (by decide) (by decide)))) (h:=λ x26 h26=>?_);refine bD (i:=16) (hq:=(wN (hc:=λ w1 hw=>eQ 3 (hw.tape cK fin hl) (by decide) (by decide)))) (h:=λ x28 h28=>?_);refine mD ?_;refine gN ?_;refine Ag ?_
   refine eT ((x7,⟨lN.getD x18 ⟨#[]⟩,((x20:Nat):Int),((x23:Nat):Int),((x26:Nat):Int),((x28:Nat):Int)==0,⟨0,false⟩,lJ l (lJ l (lJ l (lJ l (lJ l p))))⟩)) ?_
   ·exact pB h18.1
 dsimp only[gU,List.map,List.cons_append,List.nil_append]
 have hy:=hx
 refine J2 ?_;refine lV ?_;refine aA ?_
 (refine eM 33 (λ g33=>?_) (λ g33=>?_)<;>(try (exfalso;omega))<;>((refine aF ?_;refine aA ?_)))
 ((refine aF ?_;refine lV ?_));refine cH ?_;refine J1 ?_;refine J2 ?_;refine lV ?_;refine aA ?_
 (refine eM 39 (λ g39=>?_) (λ g39=>?_)<;>(first|refine aJ ?_|(refine aF ?_;refine aA ?_)))
 all_goals ((first|refine aJ ?_|(refine aF ?_;refine lV ?_));refine cH ?_;refine aA ?_)
 all_goals (first|refine aJ ?_|(refine eM 43 (λ g43=>?_) (λ g43=>?_)<;>(first|refine aJ ?_|(refine aF ?_;refine aA ?_))))
 all_goals ((first|refine aJ ?_|(refine aF ?_;refine lV ?_));refine cH ?_;refine aA ?_)
 all_goals (first|refine aJ ?_|(refine eM 47 (λ g47=>?_) (λ g47=>?_)<;>(first|refine aJ ?_|(refine aF ?_;refine aA ?_))))
 all_goals ((first|refine aJ ?_|(refine aF ?_;refine lV ?_));refine cH ?_;refine vP ?_;refine dF ?_;refine My ?_;refine aC (wN (hc:=λ w1 hw=>eQ ts.length (hw.tape cK fin hl) (by omega) (by omega))) (λ x57 h57=>?_);refine iT ?_;refine Hr ?_)
 all_goals
 refine oB [11,58,59,60,61,62,63,64,65,66,67,68,69,70,71,72,73,74,75,76,77,78,79,80,81,82,83,84,85,86,87,88,89,90,91,92,93,94,95,96,97,98,99,100] (λ z:Nat×fY=>[(11,.int .i64 ((z.1:Nat):Int))]) (λ z=>z.1<=ts.length) (λ z=>[(y.1,.cells ⟨M9 (({y.2 with t:=z.2}:Bj).cl kind mask)⟩ 89 (0,0)),(x6,.cells ⟨M9 ⟨0,⟨0,false⟩,0,0,0,0,0,0,⟨#[]⟩,0,0,0,false⟩⟩ 89 (0,0)),(tb,Dv a l c (lJ l y.2.pos)),(bw,nR bm mask pt ts.length kt pe ne ke)]) (λ _=>_) (λ _=>_) (λ z=>ts.length-z.1) ((0,y.2.t)) (Nat.zero_le _) (λ z f hx=>?_)
 dsimp only[gU,List.map,List.cons_append,List.nil_append]
 all_goals (refine Dg ?_;refine dF ?_;refine My ?_;refine xD ?_)
 all_goals
  refine bE (λ c64=>?_) (λ c64=>?_)
  ·all_goals try (exfalso;omega)
   all_goals (refine qP ?_;refine aV ?_;refine gI [0,1,2,3,4,5,6,7,8,9,10,11,12,13,14,15,16] ?_;refine ou ?_;refine iD ?_;refine cG (i:=6) (hq:=(oF (m:=x57) (n:=z.1) rf rf (by omega))) (h:=?_);refine ou ?_;refine pE ?_;refine cG (i:=12) (hq:=(Zr (a:=x57+z.1) (b:=ts.length) rf rf (by omega))) (h:=?_);refine bT (i:=13) (hq:=(Cp (cs:=tH ts) (k:=(x57+z.1)%ts.length) rf rf hY dH fin (Nat.mod_lt _ h0) (by rw[sP];have:=Nat.mod_lt (x57+z.1) h0;omega))) (h:=?_);refine bT (i:=14) (hq:=(du (ts:=ts) (q:=(x57+z.1)%ts.length) rf dH fin (Nat.mod_lt _ h0))) (h:=?_);refine aR ?_;refine kY (i:=16) (hq:=(fR λ _=>lO (off:=1) (vs:=[.int .i64 (ts.getD ((x57+z.1)%ts.length) ⟨0,false⟩).root,.bool (ts.getD ((x57+z.1)%ts.length) ⟨0,false⟩).ro]) rf cK rf rfl dH (Nat.le_of_ble_eq_true rfl) rf hU)) (h:=λ _=>?_);refine eA ?_;refine J0 ?_;refine aE ?_;refine J3 ?_;refine aA ?_)
   all_goals ((refine eM 86 (λ g86=>?_) (λ g86=>?_)<;>(first|refine aJ ?_|(refine aF ?_;refine aA ?_))))
   all_goals ((first|refine aJ ?_|(refine aF ?_;refine yA ?_));refine cH ?_;refine aA ?_)
   all_goals (first|(refine aF ?_;refine aE ?_)|(refine eM 90 (λ g90=>?_) (λ g90=>?_)<;>(try (exfalso;omega))<;>(refine aJ ?_)))
   all_goals ((first|refine aJ ?_|(refine aF ?_;refine aE ?_));(first|refine aJ ?_|(refine aF ?_;refine bR ?_));(first|refine aJ ?_|(refine aF ?_;refine yA ?_));(first|refine aJ ?_|(refine aF ?_;refine aA ?_)))
   all_goals (first|refine zK ?_|(refine eM 95 (λ g95=>?_) (λ g95=>?_)<;>(first|refine aJ ?_|(refine aF ?_;refine aA ?_))))
   all_goals ((first|refine aJ ?_|refine zK ?_|(refine aF ?_;refine yA ?_));(first|refine aJ ?_|(refine aF ?_;refine cH ?_));refine cH ?_;refine aG ?_)
   all_goals
   refine bE (λ c99=>?_) (λ c99=>?_)
   ·try exact nv c99
    all_goals (refine oV ?_;refine J5 ?_)
    all_goals
     refine bC Tryz.results54 (λ w hw=>?_)
     exact⟨{y.2 with t:=ts.getD ((x57+z.1)%ts.length) ⟨0,false⟩,pos:=lJ l y.2.pos},rfl,⟨hy,O8 (Nat.mod_lt _ h0),λ hk=>by first|(simp_all;done)|(unfold wrK at hk;exfalso;omega)⟩,hw.aU⟩
   ·try exact nv c99
    all_goals try (exfalso;omega)
    all_goals (refine nY ?_;refine yU ?_)
    all_goals
     refine iS ((z.1+1,ts.getD ((x57+z.1)%ts.length) ⟨0,false⟩)) ?_
     ·omega
  ·all_goals try (exfalso;omega)
   all_goals (refine bM rfl ?_;refine lR ?_;refine aB (Cp (cs:=tH ts) (k:=0) rf rf hY dH fin h0 (by rw[sP];omega)) rfl ?_;refine aB (du (ts:=ts) (q:=0) rf dH fin h0) rfl ?_;refine aE ?_;refine bQ (fR λ _=>lO (off:=1) (vs:=[.int .i64 (ts.getD 0 ⟨0,false⟩).root,.bool (ts.getD 0 ⟨0,false⟩).ro]) rf cK rf rfl dH (Nat.le_of_ble_eq_true rfl) rf hU) (λ _=>?_);refine aG ?_;refine oV ?_;refine J5 ?_)
   all_goals
   refine bC Tryz.results54 (λ w hw=>?_)
   exact⟨{y.2 with t:=ts.getD 0 ⟨0,false⟩,pos:=lJ l y.2.pos},rfl,⟨hy,O8 h0,λ _=>hr0⟩,hw.aU⟩
end
end

end Go.Proofs.YtbajmaoegmbfgaaGreat

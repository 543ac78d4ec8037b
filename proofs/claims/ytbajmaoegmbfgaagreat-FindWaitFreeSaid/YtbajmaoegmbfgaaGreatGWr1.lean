/- Worlds by what may happen: memories, tries, what is left of the operations; all keep the labels. -/
import Derived.Test.YtbajmaoegmbfgaaGreatKw8
import Derived.Test.YtbajmaoegmbfgaaGreatGGc5
import Derived.Test.YtbajmaoegmbfgaaGreatGAr8
import Derived.Test.YtbajmaoegmbfgaaGreatGTkd
import Derived.Test.YtbajmaoegmbfgaaGreatGFd2
import Derived.Test.YtbajmaoegmbfgaaGreatGWo1
import Derived.Test.YtbajmaoegmbfgaaGreatGEx18

set_option linter.unusedSimpArgs false
set_option linter.unusedVariables false
namespace Go.Ct
section
open Go Go.RowKit
def zV:Mm:=⟨[fA.c,fA.c,dK (({Nd.zero with kind:=3}:Nd).c [] []) 0,dK (({Nd.zero with kind:=2,gen:=1}:Nd).c [] []) 1],[0,3,4],1⟩
end
end Go.Ct
namespace Go.Proofs.YtbajmaoegmbfgaaGreat
section
open Go Go.RowKit Go.Ct
open Classical in
noncomputable def H8 (m:Nat) (k:ByteArray):Nat:=if k∈lO then jV k m else 18446744073709551616
inductive WR(H:ByteArray->Nat)(m:Nat):Mm->List fL->List Tr->Prop where
 | new:WR H m zV [⟨3,false⟩] []
 | start {s s':Mm} {ts:List fL} {rs:List Tr} {k:Cl} {n j:Nat} {t':Tr} (h:WR H m s ts rs) (hk:∀σ:Kw,σ.mm=s->Inv H σ->(∀t∈ts,cQ σ t)->Rm H σ k (jV k.key m)) (hr:Rc j (jT k (jV k.key m) n) s t' s') (ha:dG t'=true):WR H m s' ts (t'::rs)
 | step {s s':Mm} {ts:List fL} {rs:List Tr} {j:Nat} {t t':Tr} (h:WR H m s ts (t::rs)) (hr:Rc j t s t' s') (ha:dG t'=true):WR H m s' ts (t'::rs)
 | perm {s:Mm} {ts:List fL} {rs rs':List Tr} (h:WR H m s ts rs) (hp:rs.Perm rs'):WR H m s ts rs'
 | drop {s:Mm} {ts:List fL} {rs:List Tr} {t:Tr} (h:WR H m s ts (t::rs)):WR H m s ts rs
 | add {s:Mm} {ts:List fL} {rs:List Tr} {r:Rs} (h:WR H m s ts (.done r::rs)) (h0:0<r.root):WR H m s (ts++[⟨r.root,r.ro⟩]) (.done r::rs)
structure WI(H:ByteArray->Nat)(s:Mm)(ts:List fL)(rs:List Tr)(σ:Kw):Prop where
 mm:σ.mm=s
 inv:Inv H σ
 ts:∀t∈ts,cQ σ t
 rs:∀t∈rs,dG t=true/\WT H Q0 t σ
def kw0:Kw:=⟨⟨[fA.c,fA.c],[],0⟩,λ _=>[],λ _=>0,λ _=>.no⟩
theorem xm{r:Int}(h1:1<=r)(h2:r<=2):kw0.nd r=fA.c:=by
 have:r=1∨r=2:=by omega
 rcases this with rfl|rfl<;>rfl
theorem Wj(H:ByteArray->Nat):Inv H kw0:=by
 refine⟨by decide,rfl,rfl,Int.le_refl _,Nn (Int.le_refl _),λ r h1 h2=>?_,λ c h1 h2=>?_⟩
 ·have h2':r<=2:=h2
  have e:=xm h1 h2'
  have hok:=M9 (gen:=0) (n:=2) (Int.le_refl _)
  refine⟨by rw[e];exact hok.1,by rw[e];exact Int.le_refl _,by rw[e];exact⟨bH _,bH _,bH _,(λ r hr=>nomatch hr),bH _,bH _,bH _,jL,jL⟩,λ k=>?_,λ k=>?_,λ k=>?_,λ k=>?_,λ k=>?_,λ k=>?_,λ k=>?_⟩<;>rw[e] at k
  ·exact eF (a:=1) (b:=2) k
  ·exact eF (a:=1) (b:=3) k
  ·exact eF (a:=1) (b:=4) k
  ·exact eF (a:=1) (b:=5) k
  ·exact eF (a:=1) (b:=6) k
  ·exact eF (a:=1) (b:=7) k
  ·exact eF (a:=1) (b:=8) k
 ·exact absurd h2 (by show ¬c<=((0:Nat):Int);omega)
def Ws:Tr:=.alloc K3 0 λ c=>.gen λ g=>.alloc (sG g) c λ j=>.cell j λ r=>.done (Ou r false)
theorem Zc{H:ByteArray->Nat}{σ:Kw}(i0:Inv H σ):WT H Q0 Ws σ:=by
 have hg:=i0.gen
 have hnew:lI H σ K3 ([]:List Nat) (σ.mm.gen+1):=nD (b:=0) (xs:=[]) i0 Mi (λ j hj v hv=>by simp[sH] at hv) (by simp) (λ h=>absurd h (by decide))
 refine fM i0 hnew (qM i0 (λ e=>eF (a:=3) (b:=2) e)) λ ρ e0 cl l3 i4 _ em e1 e2 e3 h1 h2=>?_
 have hem:oS ρ e0 [] (σ.mm.gen+1):=pA (cl:=0) (.inl rfl) e1 e2 e3
 have hgr:ρ.mm.gen=σ.mm.gen:=by rw[em];rfl
 refine M0 i4 λ χ l4 i5 e4=>?_
 exact rP (g:=ρ.mm.gen+1) i5 (by omega) (by omega) (by simp) (hem.up l4) (by omega) λ ψ j l5 i6 hj=>Eo false i6 hj.1 λ ω c l6 i7 h0 hc=>λ _=>hc
theorem Zf:Rc 0 Ws kw0.mm (.done (Ou 3 false)) zV :=
 .eV (.eV (.eV (.eV (Rc.refl _ _) (Sp.alloc _ _ _ _)) (Sp.gen _ _)) (Sp.alloc _ _ _ _)) (Sp.cell _ _ _)
theorem Uc{H:ByteArray->Nat}:∀(r:Rs) (σ τ:Kw),Inv H σ->Inv H τ->Le σ τ->Q0 r σ->Q0 r τ:=λ _ _ _ _ _ l h=>h.up l
theorem WR.inv{H:ByteArray->Nat}{m:Nat}{s:Mm}{ts:List fL}{rs:List Tr}(h:WR H m s ts rs):∃σ,WI H s ts rs σ:=by
 induction h with
 | new =>
  obtain⟨υ,l,i,e,hq⟩:=WT.rc Zf rfl (Wj H) (Zc (Wj H))
  refine⟨υ,e,i,λ t ht=>?_,λ t ht=>nomatch ht⟩
  rw[List.mem_singleton.1 ht]
  exact hq (by decide)
 | start _ hk hr ha ih =>
  obtain⟨σ,hi⟩:=ih
  obtain⟨υ,l,i,e,hw⟩:=WT.rc hr hi.mm hi.inv (rj hi.inv (hk σ hi.mm hi.inv hi.ts) _)
  refine⟨υ,e,i,λ t ht=>(hi.ts t ht).up l,λ t ht=>?_⟩
  rcases List.mem_cons.1 ht with rfl|ht
  ·exact⟨ha,hw⟩
  ·exact⟨(hi.rs t ht).1,WT.mono Uc (hi.rs t ht).1 hi.inv i l (hi.rs t ht).2⟩
 | step _ hr ha ih =>
  obtain⟨σ,hi⟩:=ih
  obtain⟨υ,l,i,e,hw⟩:=WT.rc hr hi.mm hi.inv (hi.rs _ (List.mem_cons_self ..)).2
  refine⟨υ,e,i,λ t ht=>(hi.ts t ht).up l,λ t ht=>?_⟩
  rcases List.mem_cons.1 ht with rfl|ht
  ·exact⟨ha,hw⟩
  ·have:=hi.rs t (List.mem_cons_of_mem _ ht)
   exact⟨this.1,WT.mono Uc this.1 hi.inv i l this.2⟩
 | perm _ hp ih =>
  obtain⟨σ,hi⟩:=ih
  exact⟨σ,hi.mm,hi.inv,hi.ts,λ t ht=>hi.rs t (hp.mem_iff.2 ht)⟩
 | drop _ ih =>
  obtain⟨σ,hi⟩:=ih
  exact⟨σ,hi.mm,hi.inv,hi.ts,λ t ht=>hi.rs t (List.mem_cons_of_mem _ ht)⟩
 | add _ h0 ih =>
  obtain⟨σ,hi⟩:=ih
  refine⟨σ,hi.mm,hi.inv,λ t ht=>?_,hi.rs⟩
  rcases List.mem_append.1 ht with ht|ht
  ·exact hi.ts t ht
  ·rw[List.mem_singleton.1 ht]
   exact(hi.rs _ (List.mem_cons_self ..)).2 h0
end

/- Tasks on an arena: runs. -/
section
open Go Go.RowKit Go.Ct
theorem pZ:∀{t:Tr} {n c:Nat} (s:Mm),bQ t n c->∀c',bQ (eV t s).1 n c'
 | .done _,_,_,_,_,_=>trivial
 | .load _ _,0,_,_,_,_=>trivial
 | .load _ _,_+1,_,_,h,_=>h
 | .jN _ _ _ _,0,_,_,_,_=>trivial
 | .jN _ _ _ _,_+1,_,_,h,_=>h
 | .alloc _ _ _,_,0,_,h,_=>h.elim
 | .alloc n i k,_,_+1,s,h,c'=>pZ (s.push n i) (h _) c'
 | .cell _ _,_,0,_,h,_=>h.elim
 | .cell i k,_,_+1,s,h,c'=>pZ ⟨s.nodes,s.cs++[i],s.gen⟩ (h _) c'
 | .gen _,_,0,_,h,_=>h.elim
 | .gen k,_,_+1,s,h,c'=>pZ ⟨s.nodes,s.cs,s.gen+1⟩ (h _) c'
 | .node r k,_,_,s,h,c'=>pZ (t:=k (eA s.nodes r)) s (h (eA s.nodes r)) c'
 | .stuck,_,_,_,h,_=>h.elim
theorem pU:∀{t:Tr} {n c:Nat} (s:Mm),bQ t n c->dG (eV t s).1=true
 | .done _,_,_,_,_=>rfl
 | .load _ _,_,_,_,_=>rfl
 | .jN _ _ _ _,_,_,_,_=>rfl
 | .alloc _ _ _,_,0,_,h=>h.elim
 | .alloc n i k,_,_+1,s,h=>pU (s.push n i) (h _)
 | .cell _ _,_,0,_,h=>h.elim
 | .cell i k,_,_+1,s,h=>pU ⟨s.nodes,s.cs++[i],s.gen⟩ (h _)
 | .gen _,_,0,_,h=>h.elim
 | .gen k,_,_+1,s,h=>pU ⟨s.nodes,s.cs,s.gen+1⟩ (h _)
 | .node r k,_,_,s,h=>pU (t:=k (eA s.nodes r)) s (h (eA s.nodes r))
 | .stuck,_,_,_,h=>h.elim
theorem pM:∀{t:Tr} {n c:Nat} (s:Mm),bQ t n c->(eV t s).2.nodes.length<=s.nodes.length+c/\(eV t s).2.cs.length<=s.cs.length+c
 | .done _,_,_,_,_=>⟨Nat.le_add_right _ _,Nat.le_add_right _ _⟩
 | .load _ _,_,_,_,_=>⟨Nat.le_add_right _ _,Nat.le_add_right _ _⟩
 | .jN _ _ _ _,_,_,_,_=>⟨Nat.le_add_right _ _,Nat.le_add_right _ _⟩
 | .alloc _ _ _,_,0,_,h=>h.elim
 | .alloc n i k,_,c+1,s,h=>by
  have h2:=pM (s.push n i) (h ((s.nodes.length+1:Nat):Int))
  have hl:=lP (k:=n.kind) (cs:=s.cs) (init:=i)
  simp only[Mm.push,List.length_append,List.length_cons,List.length_nil] at h2
  show(eV (k _) (s.push n i)).2.nodes.length<=_/\(eV (k _) (s.push n i)).2.cs.length<=_
  simp only[Mm.push]
  omega
 | .cell _ _,_,0,_,h=>h.elim
 | .cell i k,_,c+1,s,h=>by
  have h2:=pM ⟨s.nodes,s.cs++[i],s.gen⟩ (h ((s.cs.length+1:Nat):Int))
  simp only[List.length_append,List.length_cons,List.length_nil] at h2
  show(eV (k _) _).2.nodes.length<=_/\(eV (k _) _).2.cs.length<=_
  omega
 | .gen _,_,0,_,h=>h.elim
 | .gen k,_,c+1,s,h=>by
  have h2:=pM ⟨s.nodes,s.cs,s.gen+1⟩ (h (s.gen+1))
  dsimp only at h2
  show(eV (k _) _).2.nodes.length<=_/\(eV (k _) _).2.cs.length<=_
  omega
 | .node r k,_,c,s,h=>pM (t:=k (eA s.nodes r)) s (h (eA s.nodes r))
 | .stuck,_,_,_,h=>h.elim
theorem Qy{t:Tr}{n c:Nat}(s:Mm)(ht:bQ t (n+1) c)(ha:dG t=true)(c':Nat):bQ (tS (t,s)).1 n c':=by
 cases t with
 | done r=>trivial
 | load x k=>exact pZ _ (ht _) c'
 | jN x o m k=>exact pZ _ (ht _) c'
 | alloc n i k=>cases ha
 | cell i k=>cases ha
 | gen k=>cases ha
 | node r k=>cases ha
 | stuck=>cases ha
theorem Pz{t:Tr}{n c:Nat}(s:Mm)(ht:bQ t (n+1) c)(ha:dG t=true):dG (tS (t,s)).1=true:=by
 cases t with
 | done r=>rfl
 | load x k=>exact pU _ (ht _)
 | jN x o m k=>exact pU _ (ht _)
 | alloc n i k=>cases ha
 | cell i k=>cases ha
 | gen k=>cases ha
 | node r k=>cases ha
 | stuck=>cases ha
theorem jy{t:Tr}{n c:Nat}(s:Mm)(ht:bQ t (n+1) c)(ha:dG t=true):(tS (t,s)).2.nodes.length<=s.nodes.length+64/\(tS (t,s)).2.cs.length<=s.cs.length+64:=by
 cases t with
 | done r=>exact⟨Nat.le_add_right _ _,Nat.le_add_right _ _⟩
 | load x k=>exact pM s (ht _)
 | jN x o m k =>
  have:=pM ⟨s.nodes,eD s.cs x o m,s.gen⟩ (ht (Bs s.cs x o))
  simp only[gT] at this
  exact this
 | alloc n i k=>cases ha
 | cell i k=>cases ha
 | gen k=>cases ha
 | node r k=>cases ha
 | stuck=>cases ha
theorem Qc{t:Tr}{n:Nat}{s:Mm}(ht:bQ t n 64)(ha:dG t=true):∀k,k<=n->bQ (mN (t,s) k).1 (n-k) 64/\dG (mN (t,s) k).1=true/\(mN (t,s) k).2.nodes.length<=s.nodes.length+64*k/\(mN (t,s) k).2.cs.length<=s.cs.length+64*k
 | 0,_=>⟨ht,ha,Nat.le_refl _,Nat.le_refl _⟩
 | k+1,h=>by
  obtain⟨h1,h2,h3,h4⟩:=Qc ht ha k (by omega)
  rw[show n-k=n-(k+1)+1 by omega] at h1
  have h5:(tS (mN (t,s) k)).2.nodes.length<=(mN (t,s) k).2.nodes.length+64/\(tS (mN (t,s) k)).2.cs.length<=(mN (t,s) k).2.cs.length+64:=jy (mN (t,s) k).2 h1 h2
  exact⟨Qy _ h1 h2 64,Pz _ h1 h2,by show(tS (mN (t,s) k)).2.nodes.length<=_;omega,by show(tS (mN (t,s) k)).2.cs.length<=_;omega⟩
def rM(p:Tr×Mm):Nat->Nat
 | 0=>0
 | k+1=>rM p k+if(mN p k).1.live=true then 1 else 0
theorem kx{p:Tr×Mm}(h:p.1.live=false):tS p=p:=by
 obtain⟨t,s⟩:=p
 cases t<;>first|rfl|cases h
theorem N7{p:Tr×Mm}{j:Nat}(h:(mN p j).1.live=false):∀k,mN p (j+k)=mN p j/\rM p (j+k)=rM p j
 | 0=>⟨rfl,rfl⟩
 | k+1=>by
  obtain⟨h1,h2⟩:=N7 h k
  refine⟨?_,?_⟩
  ·show tS (mN p (j+k))=_
   rw[h1,kx h]
  ·show rM p (j+k)+(if(mN p (j+k)).1.live=true then 1 else 0)=_
   rw[h1,h2,h]
   rfl
theorem Ca{p:Tr×Mm}{j k:Nat}(h:(mN p j).1.live=false)(hk:j<=k):mN p k=mN p j/\rM p k=rM p j:=by
 have:=N7 h (k-j)
 rwa [show j+(k-j)=k by omega] at this
structure TkI(b:Nat)(p:Tr×Mm)(a:AS)(B:Fr)(y:Cd×Fr×AS):Prop where
 rp:jB b p.1 p.2 y.1 p.2 (y.2.1++B)
 mm:y.2.2.mm=p.2
 ok:y.2.2.Ok
 gr:a.hU y.2.2 y.2.1
theorem TkI.of{b:Nat}{p:Tr×Mm}{a:AS}{B:Fr}{y:Cd×Fr×AS}(h:mS b p a B y):TkI b p a B y:=⟨h.1.1,h.1.2,h.2.1,h.2.2⟩
theorem mb{b:Nat}{t:Tr}{s:Mm}{c:Cd}{B:Fr}(h:jB b t s c s B)(ha:dG t=true):(c.a.k≠0↔t.live=true):=by
 have:=(h.kind ha).1
 cases hl:t.live with
 | false=>rw[hl] at this;exact⟨λ hn=>absurd (this.2 rfl) hn,λ h=>nomatch h⟩
 | true=>rw[hl] at this;exact⟨λ _=>rfl,λ _ e=>nomatch this.1 e⟩
section
variable{D:List Nat}{A B:Fr}{a:AS}{b bt n:Nat}{w:World}{c:Cd}{t:Tr}
theorem Z8{most m:Nat}(ht:bQ t m 64)(hmm:most<=m)(ha:dG t=true)(hr:jB b t a.mm c a.mm B)(ok:a.Ok)(hm:a.mm.nodes.length+64*most<=137438953472/\a.mm.cs.length+64*most<=137438953472)(hn:n+most<1000000000)(hA:∀f∈aM a.L,f∈A)(hB:∀x∈B,x∈A)(hs:SF w D [(bt,tO b c n),(b,eX a)] A [] (fU a) w) :
    Calls Tryz.prog 30 #[.pointer (some ⟨bt,0,none⟩),.int .i64 ((most:Nat):Int)] w λ e w'=>∃y:Cd×Fr×AS,e=.returned (.int .i64 ((rM (t,a.mm) most:Nat):Int))/\TkI b (mN (t,a.mm) most) a B y/\SF w D [(bt,tO b y.1 (n+rM (t,a.mm) most)),(b,eX y.2.2)] [] y.2.1 (fU y.2.2) w':=by
  have hall:=λ k hk=>Qc (s:=a.mm) ht ha k hk
  refine enter Tryz.func30 Tryz.ntmps30 rfl rfl hs ?_
  simp only[bY]
  refine cR ?_;refine cR ?_;refine Dk ?_
  refine nA [5,6,7,8,9,10,11,12,13,14,15,16,17,18,19,20,21,22,23,24] (λ y:Nat×Cd×Fr×AS=>[(5,.int .i64 ((y.1:Nat):Int))]) (λ y=>y.1<=most/\TkI b (mN (t,a.mm) y.1) a B y.2/\rM (t,a.mm) y.1=y.1) (λ y=>[(bt,tO b y.2.1 (n+y.1)),(b,eX y.2.2.2)]) (λ y=>y.2.2.1) (λ y=>fU y.2.2.2) (λ y=>most-y.1) ((0,c,[],a)) (⟨Nat.zero_le _,⟨hr,rfl,ok,AS.hU.refl a⟩,rfl⟩) (λ y f hx=>?_) (hw0:=λ w hw=>hw)
  dsimp only[gR,List.map,List.cons_append,List.nil_append]
  obtain⟨h1,h2,h3,h4⟩:=hall y.1 (by omega)
  have hrp:jB b (mN (t,a.mm) y.1).1 y.2.2.2.mm y.2.1 y.2.2.2.mm (y.2.2.1++B):=by rw[hx.2.1.mm];exact hx.2.1.rp
  have hsm:y.2.2.2.mm.Small:=by rw[hx.2.1.mm];exact⟨by omega,by omega⟩
  have hli:=mb hx.2.1.rp h2
  refine Df ?_;refine Fv ?_
  (refine eM 9 (λ g9=>?_) (λ g9=>?_)<;>(first|refine aJ ?_|(refine aF ?_;refine aA ?_)))
  all_goals ((first|refine aJ ?_|(refine aF ?_;refine aR (cV (hc:=λ w1 hw=>vS (hw.st.at cL))) (λ x11=>?_)));refine Q6 ?_;refine aA ?_)
  all_goals (first|refine aJ ?_|(refine eM 14 (λ g14=>?_) (λ g14=>?_)<;>(first|refine aJ ?_|(refine aF ?_;refine aA ?_))))
  all_goals ((first|refine aJ ?_|(refine aF ?_;refine dF ?_));refine J6 ?_;refine Q6 ?_;refine aH ?_)
  all_goals
   refine bE (λ c20=>?_) (λ c20=>?_)
   · try exact nv c20
     all_goals (refine bB ?_;refine cI ?_;refine J2 ?_;refine aC (cM (V:=λ _:Cd×Fr×AS=>.tuple #[]) (hs:=[(bt,tO b y.2.1 (n+y.1)),(b,eX y.2.2.2)]) (os:=fU y.2.2.2) (Fc:=λ z=>z.2.1) (A0:=aM y.2.2.2.L++(y.2.2.1++B)) (hs':=λ z=>[(bt,tO b z.1 (n+y.1+1)),(b,eX z.2.2)]) (os':=λ z=>fU z.2.2) (hA:=aX.of λ f hf=>(List.mem_append.1 hf).elim (λ h1=>(hx.2.1.gr.fam f h1).elim .inl λ h2=>h2.elim (λ h3=>.inr (.inl (hA f h3))) λ h3=>.inr (.inr (.inl h3))) λ h1=>(List.mem_append.1 h1).elim (λ h2=>.inr (.inr (.inl h2))) λ h2=>.inr (.inl (hB f h2))) (hc:=λ w hw=>Kk (i:=m-(y.1+1)) (m:=64) (by rw[show m-(y.1+1)+1=m-y.1 by omega];exact h1) h2 (hli.1 g14) hrp hx.2.1.ok hsm (by omega) (λ f hf=>List.mem_append_left _ hf) (λ f hf=>List.mem_append_right _ hf) hw)) (λ x22 h22=>?_);refine aH ?_;refine yH ?_;refine eP ?_)
     all_goals
      refine iJ ((y.1+1,x22.1,x22.2.1++y.2.2.1,x22.2.2)) ?_ (hw1:=λ w hw=>hw)
      · have e1:mN (t,a.mm) (y.1+1)=tS ((mN (t,a.mm) y.1).1,y.2.2.2.mm):=by rw[hx.2.1.mm];rfl
        have h5:=TkI.of h22.1
        have hlv:=hli.1 g14
        refine⟨by show y.1+1<=most;omega,⟨?_,?_,h5.ok,hx.2.1.gr.trans h5.gr⟩,?_⟩
        · rw[e1]
          show jB b _ _ _ _ (x22.2.1++y.2.2.1++B)
          rw[List.append_assoc]
          exact h5.rp
        · rw[e1];exact h5.mm
        · show rM (t,a.mm) y.1+_=y.1+1
          rw[hlv,hx.2.2]
          rfl
   · try exact nv c20
     all_goals (refine bM rfl ?_;refine J2 ?_;refine J1 ?_)
     all_goals
      refine aT Tryz.results30 (λ w hw=>?_)
      have e:mN (t,a.mm) most=mN (t,a.mm) y.1/\rM (t,a.mm) most=y.1:=by
       first
        | (have h:=Ca (Bool.eq_false_iff.2 λ h=>hli.2 h g14) hx.1;exact⟨h.1,h.2.trans hx.2.2⟩)
        | (have em:most=y.1:=(by have:=hx.1;omega);rw[em];exact⟨rfl,hx.2.2⟩)
      rw[e.1,e.2]
      exact⟨y.2,rfl,hx.2.1,hw.ret (List.Sublist.refl _) (aY.iP λ f hf=>hf) (List.Sublist.refl _)⟩
end
end

/- find: the runs of the sanity check, plainly. -/
end Go.Proofs.YtbajmaoegmbfgaaGreat
namespace Go.Ct
section
open Go Go.RowKit
end
end Go.Ct
namespace Go.Proofs.YtbajmaoegmbfgaaGreat
section
open Go Go.RowKit Go.Ct
abbrev aK:ByteArray:=⟨#[97]⟩
abbrev kA:Cl:=⟨8,⟨3,false⟩,0,0,0,0,0,63,aK,8,0,0,false⟩
theorem hsA:jV aK 63=12:=by decide
abbrev n3:Nv:=dK (({Nd.zero with kind:=3}:Nd).c [] []) 0
abbrev n5:Nv:=dK (yJ 12 aK 8) 3
abbrev n6:Nv:=dK (Er 4096 [5]) 3
def Sm:Mm:=⟨zV.nodes++[n5,n6],[0,6,4,0],1⟩
theorem aBE:CV n3.nd n3.xs n3.ys:=by
 have:=jc (b:=0) (xs:=[]) ⟨by decide,by decide,λ i hi=>nomatch hi⟩ (none,0) (p:=1) (by decide)
 exact(sf.1 this)
theorem aBo:BV 4096 [5]:=⟨by decide,by decide,λ i hi=>by
 have:i=0:=by simp at hi;exact hi
 subst this;decide⟩
theorem aAx:CV n6.nd n6.xs n6.ys:=sf.1 (jc aBo (none,0) (p:=4) (by decide))
theorem lk3:iU n3 12=none:=by
 unfold iU Eg
 exact if_neg λ h=>absurd h.2 (by decide)
theorem in3:Z6 n3 12 5=Er 4096 [5]:=by
 unfold Z6 cz
 rw[if_pos ⟨aBE,by decide,by decide,by decide⟩,show dL n3.bm.toNat 12=4096 by decide +kernel,show uL n3.xs (lS n3.bm.toNat 12) 5=[5] by decide +kernel]
 rfl
theorem lk6:iU n6 12=some 5:=by
 unfold iU Eg
 rw[if_pos ⟨aAx,by decide⟩]
 decide +kernel
theorem zv:eO 12 0=12:=by decide
theorem aB9(n:Nat)(t:fL)(l:Int)(hl:eO 12 l=12):Ct.eV (oU t 12 aK n l 3) zV=(.done (dO false 0),zV):=by
 show Ct.eV (if n3.kind=5 then _ else if n3.kind=6 then _ else match iU n3 (eO 12 l) with|none=>_|some b=>_) zV=_
 rw[hl,lk3]
 rfl
theorem aAV(n:Nat)(t:fL)(l:Int)(hl:eO 12 l=12):Ct.eV (oU t 12 aK n l 6) Sm=(.done (dO true 8),Sm):=by
 show Ct.eV (if n6.kind=5 then _ else if n6.kind=6 then _ else match iU n6 (eO 12 l) with|none=>_|some b=>_) Sm=_
 rw[hl,lk6]
 rfl
abbrev tA:fL:=⟨3,false⟩
noncomputable abbrev o9:Tr:=Gk tA 12 aK 1073741824
theorem Zs:o9=kT tA λ i=>jE tA i (oU tA 12 aK 1073741823 0):=by
 show Gk tA 12 aK 1073741824=_
 unfold Gk
 rw[if_pos (by decide)]
 rfl
theorem aBI:mN (Ct.eV o9 zV) 3=(.done (dO false 0),zV)/\rM (Ct.eV o9 zV) 3=3:=by
 rw[Zs]
 have e2:mN (Ct.eV (kT tA λ i=>jE tA i (oU tA 12 aK 1073741823 0)) zV) 2=(.load 1 λ p=>if p=0 then oU tA 12 aK 1073741823 0 3 else .node p λ np=>if dS np then(if tA.ro=true then jC 4 3 p false (oU tA 12 aK 1073741823 0) else tU tA λ r=>.node r λ nr=>.node 4 λ ni=>jC 4 3 p (nr.gen==ni.gen) (oU tA 12 aK 1073741823 0)) else H5 4 3 p (oU tA 12 aK 1073741823 0),zV):=rfl
 have e3:mN (Ct.eV (kT tA λ i=>jE tA i (oU tA 12 aK 1073741823 0)) zV) 3=(.done (dO false 0),zV):=by
  show tS (mN _ 2)=_
  rw[e2]
  exact aB9 _ _ _ zv
 refine⟨e3,?_⟩
 show rM _ 2+(if(mN _ 2).1.live=true then 1 else 0)=3
 rw[e2]
 rfl
theorem aAE:mN (Ct.eV o9 Sm) 3=(.done (dO true 8),Sm)/\rM (Ct.eV o9 Sm) 3=3:=by
 rw[Zs]
 have e2:mN (Ct.eV (kT tA λ i=>jE tA i (oU tA 12 aK 1073741823 0)) Sm) 2=(.load 4 λ p=>if p=0 then oU tA 12 aK 1073741823 0 6 else .node p λ np=>if dS np then(if tA.ro=true then jC 4 6 p false (oU tA 12 aK 1073741823 0) else tU tA λ r=>.node r λ nr=>.node 4 λ ni=>jC 4 6 p (nr.gen==ni.gen) (oU tA 12 aK 1073741823 0)) else H5 4 6 p (oU tA 12 aK 1073741823 0),Sm):=rfl
 have e3:mN (Ct.eV (kT tA λ i=>jE tA i (oU tA 12 aK 1073741823 0)) Sm) 3=(.done (dO true 8),Sm):=by
  show tS (mN _ 2)=_
  rw[e2]
  exact aAV _ _ _ zv
 refine⟨e3,?_⟩
 show rM _ 2+(if(mN _ 2).1.live=true then 1 else 0)=3
 rw[e2]
 rfl
theorem aCe{p:Tr×Mm}{r:Rs}{s:Mm}(h:mN p 3=(.done r,s))(hc:rM p 3=3):mN p 9=(.done r,s)/\rM p 9=3:=by
 obtain⟨h1,h2⟩:=Ca (p:=p) (j:=3) (k:=9) (by rw[h];rfl) (by decide)
 exact⟨h1.trans h,h2.trans hc⟩
def mmP:Mm:=⟨zV.nodes++[n5,n6],[0,3,4,3],1⟩
theorem aBu(K:Rs->Int->Tr)(gen:Int):Ct.eV (jH kA 4 3 12 0 gen K) zV=Ct.eV (kN tA 4 3 6 λ ok=>K (oA false 0) (if ok=true then 1 else 0)) mmP:=by
 show Ct.eV (if n3.kind=6 then _ else match iU n3 (eO 12 ((0:Nat):Int)) with|none=>(if mP kA false 0=true then Tr.alloc (yJ 12 aK 8) 0 λ s=>.alloc (Z6 n3 (eO 12 ((0:Nat):Int)) s) 3 λ r=>kN tA 4 3 r λ ok=>K (oA false 0) (if ok=true then 1 else 0) else K (dO false 0) 1)|some b=>_) zV=_
 rw[show eO 12 ((0:Nat):Int)=12 from zv,lk3]
 show Ct.eV (Tr.alloc (Z6 n3 12 5) 3 λ r=>kN tA 4 3 r λ ok=>K (oA false 0) (if ok=true then 1 else 0)) (zV.push (yJ 12 aK 8) 0)=_
 rw[in3]
 rfl
noncomputable abbrev ptT:Tr:=T0 kA 63
theorem xr(ag:Tr)(gen:Int)(n:Nat):∃KL:Int->Rs->Int->Tr,(rW kA 12 .done ag gen (n+1) 4 0 0=jE tA 4 λ m=>.node m λ nm=>if nm.kind=5 then uT tA 0 4 12 (((0:Nat):Int)-1) (λ _=>ag) else jH kA 4 m 12 0 gen (KL m))/\∀m r,KL m r 1=.done r :=
 ⟨λ m r what=>if what=1 then .done r else if what=0 then ag else C1 kA 4 m (eO 12 ((0:Nat):Int)) gen λ b=>if b=0 then ag else rW kA 12 .done ag gen n b 4 1,rfl,λ _ _=>rfl⟩
theorem Xp(n:Nat):zC kA 12 .done (n+1)=kT tA λ i=>.node i λ ni=>rW kA 12 .done (zC kA 12 .done n) ni.gen n i 0 0:=rfl
theorem xw:ptT=kT tA λ i=>.node i λ ni=>rW kA 12 .done (zC kA 12 .done (1073741822+1)) ni.gen (1073741822+1) i 0 0:=by
 show T0 kA 63=_
 unfold T0
 rw[show kA.key=aK from rfl,hsA]
 unfold jT
 rw[if_neg (by decide),if_neg (by decide),if_neg (by decide),if_neg (by decide),if_neg (by decide),if_neg (by decide),if_pos rfl]
 exact Xp (1073741822+1)
theorem ib(P:Int->Int->Tr):mN (Ct.eV (kT tA λ i=>.node i λ ni=>P ni.gen i) zV) 1=Ct.eV (P 1 4) zV:=rfl
theorem run_read(L:Int->Tr)(ag:Tr):mN (Ct.eV (jE tA 4 λ m=>.node m λ nm=>if nm.kind=5 then ag else L m) zV) 2=Ct.eV (L 3) zV:=rfl
def mmQ:Mm:=⟨zV.nodes++[n5,n6],[0,6,4,3],1⟩
theorem y5(K:Bool->Tr):mN (Ct.eV (kN tA 4 3 6 K) mmP) 1=Ct.eV (nM tA 4 6 λ m=>K (m==6)) mmQ:=rfl
theorem yr(K:Int->Tr):mN (Ct.eV (nM tA 4 6 K) mmQ) 1=Ct.eV (tU tA λ r=>.node r λ nr=>.node 4 λ ni=>jC 4 6 3 (nr.gen==ni.gen) K) mmQ:=rfl
theorem zd(K:Int->Tr):mN (Ct.eV (tU tA λ r=>.node r λ nr=>.node 4 λ ni=>jC 4 6 3 (nr.gen==ni.gen) K) mmQ) 1=Ct.eV (jC 4 6 3 true K) mmQ:=rfl
theorem yk(K:Int->Tr):mN (Ct.eV (jC 4 6 3 true K) mmQ) 2=Ct.eV (K 6) Sm:=rfl
theorem qx(K:Int->Tr):mN (Ct.eV (kN tA 4 3 6 λ ok=>K (if ok=true then 1 else 0)) mmP) 5=Ct.eV (K 1) Sm:=by
 rw[show(5:Nat)=1+1+1+2 from rfl,xL,xL,xL,y5,yr,zd,yk]
 rfl
theorem V9:mN (Ct.eV ptT zV) 8=(.done (oA false 0),Sm):=by
 rw[xw]
 generalize zC kA 12 .done (1073741822+1)=ag
 generalize 1073741822=n
 obtain⟨KL,h1,h2⟩:=xr ag 1 n
 rw[show(8:Nat)=1+2+5 from rfl,xL,xL,ib λ g i=>rW kA 12 .done ag g (n+1) i 0 0,h1]
 rw[run_read (λ m=>jH kA 4 m 12 0 1 (KL m)),aBu,qx (λ k=>KL 3 (oA false 0) k),h2]
 rfl
end

/- Worlds: the call of an operation. -/
section
open Go Go.RowKit Go.Ct
theorem zh{ts:List fL}{j:Nat}(h:j<ts.length):((rV ts).drop (2*j)).take 2=[.int .i64 (ts.getD j ⟨0,false⟩).root,.bool (ts.getD j ⟨0,false⟩).ro]:=by
 induction ts generalizing j with
 | nil=>simp at h
 | cons t ts ih =>
  cases j with
  | zero=>simp[rV]
  | succ j =>
   have:=ih (j:=j) (by simpa using h)
   rw[show 2*(j+1)=2*j+1+1 by omega]
   simpa[rV] using this
section
variable{P:Program}{S:List (Nat×Value)}{d:Nat}{ty t t' e:TypeId}{pos:String}{af:Array Edge}{gd:Option (Nat×Bool)}{x y:Operand}{w0 w:World}{M:List Nat}{H:List (Nat×Obj)}{A F:Fr}{O:List Ow}{a:Option Addr}
theorem dq{ts:List fL}{q:Nat}(hx:ev S x=.pointer (some ⟨dC a,eH a+2*q,none⟩))(ht:jQ P t 2=true)(hf:qZ A F O a (rV ts))(hq:q<ts.length) :
  aL P S (SF w0 M H A F O) ⟨some d,.load t x,ty,pos,af,gd⟩ (.agg ⟨[.int .i64 (ts.getD q ⟨0,false⟩).root,.bool (ts.getD q ⟨0,false⟩).ro]⟩):=Ap hx ht hf (zh hq) rfl
end
structure Br where
 key:ByteArray
 val:Int
 exp:Int
 Io:Int
 only:Bool
 t:fL
 pos:Nat
def Br.cl(q:Br)(kind mask:Int):Cl:=⟨kind,q.t,0,0,0,0,0,mask,q.key,q.val,q.exp,q.Io,q.only⟩
def wrK(kind:Int):Prop:=kind=8∨kind=9∨kind=12∨kind=4
structure Od(kind:Int)(ts:List fL)(q:Br):Prop where
 ky:q.key∈lO
 mem:q.t∈ts
 ro:wrK kind->q.t.ro=false
theorem pE{v:Nat}(h:v<8):lO.getD v ⟨#[]⟩∈lO:=by
 have:v=0∨v=1∨v=2∨v=3∨v=4∨v=5∨v=6∨v=7:=by omega
 rcases this with rfl|rfl|rfl|rfl|rfl|rfl|rfl|rfl<;>simp[lO]
theorem Qt{ts:List fL}{j:Nat}(h:j<ts.length):ts.getD j ⟨0,false⟩∈ts:=by
 rw[kQ,List.getElem?_eq_getElem h];exact List.getElem_mem h
section
variable{P:Program}{S:List (Nat×Value)}{G:World->Prop}{d:Nat}{ty t t':TypeId}{pos:String}{af:Array Edge}{gd:Option (Nat×Bool)}{x y:Operand}
theorem dk{a b:Nat}(hx:ev S x=.int .i64 ((a:Nat):Int))(hy:ev S y=.int .i64 ((b:Nat):Int))(h0:b≠0):aL P S G ⟨some d,.binOp .rem t x y t',ty,pos,af,gd⟩ (.int .i64 ((a%b:Nat):Int)):=by
 have:=gq (P:=P) (G:=G) (d:=d) (ty:=ty) (pos:=pos) (af:=af) (gd:=gd) (t:=t) (t':=t') hx hy (by omega)
 rwa [Int.tmod_eq_emod_of_nonneg (by omega),<- Int.natCast_emod] at this
end
section
variable{bw bm tb:Nat}{D:List Nat}{A:Fr}{w:World}{mask:Int}{ts:List fL}{pt pe:Option Addr}{kt ke ne:Nat}{l:List Int}{a:Option Addr}{c p:Nat}
set_option maxRecDepth 100000 in
set_option maxHeartbeats 2000000 in
theorem Mb(kind:Int)(hkd:7<=kind/\kind<=12)(hl:l.length<=17592186043904)(h0:0<ts.length)(hts:ts.length<=1000)(hr0:(ts.getD 0 ⟨0,false⟩).ro=false)
  (hs:SF w D [(tb,Bh a l c p),(bw,mE bm mask pt ts.length kt pe ne ke)] [(a,aG l)] [] [⟨pt,rV ts,kt,29,2⟩] w) :
  Calls Tryz.prog 54 #[.pointer (some ⟨bw,0,none⟩),.int .i64 kind,.pointer (some ⟨tb,0,none⟩)] w λ e w'=>∃q:Br,e=.returned (.agg ⟨Q3 (q.cl kind mask)⟩)/\Od kind ts q /\
   SF w D [(tb,Bh a l c q.pos),(bw,mE bm mask pt ts.length kt pe ne ke)] [] [] [⟨pt,rV ts,kt,29,2⟩] w':=by
 refine enter Tryz.func54 Tryz.ntmps54 rfl rfl hs ?_
 simp only[bY]
 refine J0 ?_;refine aI (λ x6=>?_);refine Oq ?_
 refine eI [7,12,13,14,15,16,17,18,19,20,21,22,23,24,25,26,27,28,29,30] (λ y:Nat×Br=>[(7,.pointer (some ⟨y.1,0,none⟩))]) (λ y=>y.2.key∈lO) (λ y=>[(y.1,.cells ⟨Q3 (y.2.cl kind mask)⟩ 89 (0,0)),(x6,.cells ⟨Q3 ⟨0,⟨0,false⟩,0,0,0,0,0,0,⟨#[]⟩,0,0,0,false⟩⟩ 89 (0,0)),(tb,Bh a l c y.2.pos),(bw,mE bm mask pt ts.length kt pe ne ke)]) (λ _=>[]) (λ _=>[⟨pt,rV ts,kt,29,2⟩]) (by decide) (λ _=>by exact rfl) ?_ (λ y f hx=>?_)
 ·refine iD (.one 0 [] (.one 1 [] (.one 2 [] (.one 3 [] (.one 4 [] (.one 5 [] (.one 7 [] (.one 10 [] (.one 13 [] (.one 15 [] (.two 6 [4] (.two 8 [4] (.one 9 [] (.two 11 [4] (.one 12 [] (.two 14 [4] (.two 16 [4] (.one 17 [] (.one 18 [] (.one 19 [4] (.one 20 [] .nil)))) 0 [] (.two 19 [4] (.one 16 [4] (.one 17 [] (.one 18 [] (.one 20 [] .nil)))) 0 [] .nil)) 0 [] (.two 19 [4] (.one 14 [4] (.one 16 [4] (.one 17 [] (.one 18 [] (.one 20 [] .nil))))) 0 [] .nil))) 0 [] (.two 19 [4] (.one 11 [4] (.one 12 [] (.one 14 [4] (.one 16 [4] (.one 17 [] (.one 18 [] (.one 20 [] .nil))))))) 0 [] .nil))) 0 [] (.two 19 [4] (.one 8 [4] (.one 9 [] (.one 11 [4] (.one 12 [] (.one 14 [4] (.one 16 [4] (.one 17 [] (.one 18 [] (.one 20 [] .nil))))))))) 0 [] .nil)) 0 [] (.two 19 [4] (.one 6 [4] (.one 8 [4] (.one 9 [] (.one 11 [4] (.one 12 [] (.one 14 [4] (.one 16 [4] (.one 17 [] (.one 18 [] (.one 20 [] .nil)))))))))) 0 [] .nil)))))))))))) ?_
  refine Zi ?_;refine hZ ?_;refine hZ ?_;refine aP ?_
  refine iK (E:=[6,19]) (by decide +kernel) ((.cons ?_ (.cons ?_ .nil)))
  ·refine mX (i:=6) (hq:=(xK (hc:=λ w1 hw=>vo (hw.tape cL fin hl)))) (h:=λ x18 h18=>?_)
   refine iK (E:=[8,19]) (by decide +kernel) ((.cons ?_ (.cons ?_ .nil)))
   ·refine mX (i:=8) (hq:=(xK (hc:=λ w1 hw=>eT 6 (hw.tape cL fin hl) (by decide) (by decide)))) (h:=λ x20 h20=>?_)
    refine mR ?_
    refine iK (E:=[11,19]) (by decide +kernel) ((.cons ?_ (.cons ?_ .nil)))
    ·refine mX (i:=11) (hq:=(xK (hc:=λ w1 hw=>eT 6 (hw.tape cL fin hl) (by decide) (by decide)))) (h:=λ x23 h23=>?_)
     refine mR ?_
     refine iK (E:=[14,19]) (by decide +kernel) ((.cons ?_ (.cons ?_ .nil)))
     ·refine mX (i:=14) (hq:=(xK (hc:=λ w1 hw=>eT 4 (hw.tape cL fin hl) (by decide) (by decide)))) (h:=λ x26 h26=>?_)
      refine iK (E:=[16,19]) (by decide +kernel) ((.cons ?_ (.cons ?_ .nil)))
      ·refine mX (i:=16) (hq:=(xK (hc:=λ w1 hw=>eT 3 (hw.tape cL fin hl) (by decide) (by decide)))) (h:=λ x28 h28=>?_)
       refine mG ?_;refine gC ?_;refine iE (h:=λ x7=>?_);refine Ar ?_
       refine fC ((x7,⟨lO.getD x18 ⟨#[]⟩,((x20:Nat):Int),((x23:Nat):Int),((x26:Nat):Int),((x28:Nat):Int)==0,⟨0,false⟩,lQ l (lQ l (lQ l (lQ l (lQ l p))))⟩)) ?_
       ·exact pE h18.1
      ·refine iC (i:=19) (h:=λ x7=>?_)
       refine bC (i:=16) (hq:=(xK (hc:=λ w1 hw=>eT 3 (hw.tape cL fin hl) (by decide) (by decide)))) (h:=λ x28 h28=>?_);refine mG ?_;refine gC ?_;refine Ar ?_
       refine fC ((x7,⟨lO.getD x18 ⟨#[]⟩,((x20:Nat):Int),((x23:Nat):Int),((x26:Nat):Int),((x28:Nat):Int)==0,⟨0,false⟩,lQ l (lQ l (lQ l (lQ l (lQ l p))))⟩)) ?_
       ·exact pE h18.1
     ·refine iC (i:=19) (h:=λ x7=>?_)
      refine bC (i:=14) (hq:=(xK (hc:=λ w1 hw=>eT 4 (hw.tape cL fin hl) (by decide) (by decide)))) (h:=λ x26 h26=>?_);refine bC (i:=16) (hq:=(xK (hc:=λ w1 hw=>eT 3 (hw.tape cL fin hl) (by decide) (by decide)))) (h:=λ x28 h28=>?_);refine mG ?_;refine gC ?_;refine Ar ?_
      refine fC ((x7,⟨lO.getD x18 ⟨#[]⟩,((x20:Nat):Int),((x23:Nat):Int),((x26:Nat):Int),((x28:Nat):Int)==0,⟨0,false⟩,lQ l (lQ l (lQ l (lQ l (lQ l p))))⟩)) ?_
      ·exact pE h18.1
    ·refine iC (i:=19) (h:=λ x7=>?_)
     refine bC (i:=11) (hq:=(xK (hc:=λ w1 hw=>eT 6 (hw.tape cL fin hl) (by decide) (by decide)))) (h:=λ x23 h23=>?_);refine mR ?_;refine bC (i:=14) (hq:=(xK (hc:=λ w1 hw=>eT 4 (hw.tape cL fin hl) (by decide) (by decide)))) (h:=λ x26 h26=>?_);refine bC (i:=16) (hq:=(xK (hc:=λ w1 hw=>eT 3 (hw.tape cL fin hl) (by decide) (by decide)))) (h:=λ x28 h28=>?_);refine mG ?_;refine gC ?_;refine Ar ?_
     refine fC ((x7,⟨lO.getD x18 ⟨#[]⟩,((x20:Nat):Int),((x23:Nat):Int),((x26:Nat):Int),((x28:Nat):Int)==0,⟨0,false⟩,lQ l (lQ l (lQ l (lQ l (lQ l p))))⟩)) ?_
     ·exact pE h18.1
   ·refine iC (i:=19) (h:=λ x7=>?_)
    refine bC (i:=8) (hq:=(xK (hc:=λ w1 hw=>eT 6 (hw.tape cL fin hl) (by decide) (by decide)))) (h:=λ x20 h20=>?_);refine mR ?_;refine bC (i:=11) (hq:=(xK (hc:=λ w1 hw=>eT 6 (hw.tape cL fin hl) (by decide) (by decide)))) (h:=λ x23 h23=>?_);refine mR ?_;refine bC (i:=14) (hq:=(xK (hc:=λ w1 hw=>eT 4 (hw.tape cL fin hl) (by decide) (by decide)))) (h:=λ x26 h26=>?_);refine bC (i:=16) (hq:=(xK (hc:=λ w1 hw=>eT 3 (hw.tape cL fin hl) (by decide) (by decide)))) (h:=λ x28 h28=>?_);refine mG ?_;refine gC ?_;refine Ar ?_
    refine fC ((x7,⟨lO.getD x18 ⟨#[]⟩,((x20:Nat):Int),((x23:Nat):Int),((x26:Nat):Int),((x28:Nat):Int)==0,⟨0,false⟩,lQ l (lQ l (lQ l (lQ l (lQ l p))))⟩)) ?_
    ·exact pE h18.1
  ·refine iC (i:=19) (h:=λ x7=>?_)
   refine bC (i:=6) (hq:=(xK (hc:=λ w1 hw=>vo (hw.tape cL fin hl)))) (h:=λ x18 h18=>?_);refine bC (i:=8) (hq:=(xK (hc:=λ w1 hw=>eT 6 (hw.tape cL fin hl) (by decide) (by decide)))) (h:=λ x20 h20=>?_);refine mR ?_;refine bC (i:=11) (hq:=(xK (hc:=λ w1 hw=>eT 6 (hw.tape cL fin hl) (by decide) (by decide)))) (h:=λ x23 h23=>?_);refine mR ?_;refine bC (i:=14) (hq:=(xK (hc:=λ w1 hw=>eT 4 (hw.tape cL fin hl) (by decide) (by decide)))) (h:=λ x26 h26=>?_);refine bC (i:=16) (hq:=(xK (hc:=λ w1 hw=>eT 3 (hw.tape cL fin hl) (by decide) (by decide)))) (h:=λ x28 h28=>?_);refine mG ?_;refine gC ?_;refine Ar ?_
   refine fC ((x7,⟨lO.getD x18 ⟨#[]⟩,((x20:Nat):Int),((x23:Nat):Int),((x26:Nat):Int),((x28:Nat):Int)==0,⟨0,false⟩,lQ l (lQ l (lQ l (lQ l (lQ l p))))⟩)) ?_
   ·exact pE h18.1
 dsimp only[gR,List.map,List.cons_append,List.nil_append]
 have hy:=hx
 refine J2 ?_;refine mC ?_;refine aA ?_
 (refine eM 33 (λ g33=>?_) (λ g33=>?_)<;>(try (exfalso;omega))<;>((refine aF ?_;refine aA ?_)))
 ((refine aF ?_;refine mC ?_));refine cH ?_;refine J1 ?_;refine J2 ?_;refine mC ?_;refine aA ?_
 (refine eM 39 (λ g39=>?_) (λ g39=>?_)<;>(first|refine aJ ?_|(refine aF ?_;refine aA ?_)))
 all_goals ((first|refine aJ ?_|(refine aF ?_;refine mC ?_));refine cH ?_;refine aA ?_)
 all_goals (first|refine aJ ?_|(refine eM 43 (λ g43=>?_) (λ g43=>?_)<;>(first|refine aJ ?_|(refine aF ?_;refine aA ?_))))
 all_goals ((first|refine aJ ?_|(refine aF ?_;refine mC ?_));refine cH ?_;refine aA ?_)
 all_goals (first|refine aJ ?_|(refine eM 47 (λ g47=>?_) (λ g47=>?_)<;>(first|refine aJ ?_|(refine aF ?_;refine aA ?_))))
 all_goals ((first|refine aJ ?_|(refine aF ?_;refine mC ?_));refine cH ?_;refine wJ ?_;refine dF ?_;refine P4 ?_;refine aC (xK (hc:=λ w1 hw=>eT ts.length (hw.tape cL fin hl) (by omega) (by omega))) (λ x57 h57=>?_);refine iZ ?_;refine Fs ?_)
 all_goals
 refine nA [11,58,59,60,61,62,63,64,65,66,67,68,69,70,71,72,73,74,75,76,77,78,79,80,81,82,83,84,85,86,87,88,89,90,91,92,93,94,95,96,97,98,99,100] (λ z:Nat×fL=>[(11,.int .i64 ((z.1:Nat):Int))]) (λ z=>z.1<=ts.length) (λ z=>[(y.1,.cells ⟨Q3 (({y.2 with t:=z.2}:Br).cl kind mask)⟩ 89 (0,0)),(x6,.cells ⟨Q3 ⟨0,⟨0,false⟩,0,0,0,0,0,0,⟨#[]⟩,0,0,0,false⟩⟩ 89 (0,0)),(tb,Bh a l c (lQ l y.2.pos)),(bw,mE bm mask pt ts.length kt pe ne ke)]) (λ _=>_) (λ _=>_) (λ z=>ts.length-z.1) ((0,y.2.t)) (Nat.zero_le _) (λ z f hx=>?_)
 dsimp only[gR,List.map,List.cons_append,List.nil_append]
 all_goals (refine Df ?_;refine dF ?_;refine P4 ?_;refine vX ?_)
 all_goals
  refine bE (λ c64=>?_) (λ c64=>?_)
  ·all_goals try (exfalso;omega)
   all_goals (refine qI ?_;refine aV ?_;refine gJ [0,1,2,3,4,5,6,7,8,9,10,11,12,13,14,15,16] ?_;refine mx ?_;refine hZ ?_;refine cE (i:=6) (hq:=(oJ (m:=x57) (n:=z.1) rf rf (by omega))) (h:=?_);refine mx ?_;refine pV ?_;refine cE (i:=12) (hq:=(dk (a:=x57+z.1) (b:=ts.length) rf rf (by omega))) (h:=?_);refine bT (i:=13) (hq:=(A2 (cs:=rV ts) (k:=(x57+z.1)%ts.length) rf rf hX dJ fin (Nat.mod_lt _ h0) (by rw[sB];have:=Nat.mod_lt (x57+z.1) h0;omega))) (h:=?_);refine bT (i:=14) (hq:=(dq (ts:=ts) (q:=(x57+z.1)%ts.length) rf dJ fin (Nat.mod_lt _ h0))) (h:=?_);refine aQ ?_;refine lG (i:=16) (hq:=(fS λ _=>lK (off:=1) (vs:=[.int .i64 (ts.getD ((x57+z.1)%ts.length) ⟨0,false⟩).root,.bool (ts.getD ((x57+z.1)%ts.length) ⟨0,false⟩).ro]) rf cL rf rfl dJ (Nat.le_of_ble_eq_true rfl) rf hJ)) (h:=λ _=>?_);refine eC ?_;refine J0 ?_;refine aE ?_;refine J3 ?_;refine aA ?_)
   all_goals ((refine eM 86 (λ g86=>?_) (λ g86=>?_)<;>(first|refine aJ ?_|(refine aF ?_;refine aA ?_))))
   all_goals ((first|refine aJ ?_|(refine aF ?_;refine yD ?_));refine cH ?_;refine aA ?_)
   all_goals (first|(refine aF ?_;refine aE ?_)|(refine eM 90 (λ g90=>?_) (λ g90=>?_)<;>(try (exfalso;omega))<;>(refine aJ ?_)))
   all_goals ((first|refine aJ ?_|(refine aF ?_;refine aE ?_));(first|refine aJ ?_|(refine aF ?_;refine bR ?_));(first|refine aJ ?_|(refine aF ?_;refine yD ?_));(first|refine aJ ?_|(refine aF ?_;refine aA ?_)))
   all_goals (first|refine An ?_|(refine eM 95 (λ g95=>?_) (λ g95=>?_)<;>(first|refine aJ ?_|(refine aF ?_;refine aA ?_))))
   all_goals ((first|refine aJ ?_|refine An ?_|(refine aF ?_;refine yD ?_));(first|refine aJ ?_|(refine aF ?_;refine cH ?_));refine cH ?_;refine aH ?_)
   all_goals
   refine bE (λ c99=>?_) (λ c99=>?_)
   ·try exact nv c99
    all_goals (refine pK ?_;refine J5 ?_)
    all_goals
     refine bD Tryz.results54 (λ w hw=>?_)
     exact⟨{y.2 with t:=ts.getD ((x57+z.1)%ts.length) ⟨0,false⟩,pos:=lQ l y.2.pos},rfl,⟨hy,Qt (Nat.mod_lt _ h0),λ hk=>by first|(simp_all;done)|(unfold wrK at hk;exfalso;omega)⟩,hw.aU⟩
   ·try exact nv c99
    all_goals try (exfalso;omega)
    all_goals (refine oB ?_;refine yH ?_)
    all_goals
     refine iJ ((z.1+1,ts.getD ((x57+z.1)%ts.length) ⟨0,false⟩)) ?_
     ·omega
  ·all_goals try (exfalso;omega)
   all_goals (refine bM rfl ?_;refine lR ?_;refine aB (A2 (cs:=rV ts) (k:=0) rf rf hX dJ fin h0 (by rw[sB];omega)) rfl ?_;refine aB (dq (ts:=ts) (q:=0) rf dJ fin h0) rfl ?_;refine aE ?_;refine bS (fS λ _=>lK (off:=1) (vs:=[.int .i64 (ts.getD 0 ⟨0,false⟩).root,.bool (ts.getD 0 ⟨0,false⟩).ro]) rf cL rf rfl dJ (Nat.le_of_ble_eq_true rfl) rf hJ) (λ _=>?_);refine aH ?_;refine pK ?_;refine J5 ?_)
   all_goals
   refine bD Tryz.results54 (λ w hw=>?_)
   exact⟨{y.2 with t:=ts.getD 0 ⟨0,false⟩,pos:=lQ l y.2.pos},rfl,⟨hy,Qt h0,λ _=>hr0⟩,hw.aU⟩
end
end

end Go.Proofs.YtbajmaoegmbfgaaGreat

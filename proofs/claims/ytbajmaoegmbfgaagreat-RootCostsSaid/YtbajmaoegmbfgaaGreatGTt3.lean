/- Tasks on an arena: runs. -/
import Derived.Test.YtbajmaoegmbfgaaGreatGTt1
import Derived.Test.YtbajmaoegmbfgaaGreatGRn1
import Derived.Test.YtbajmaoegmbfgaaGreatGTr3

set_option linter.unusedSimpArgs false
set_option linter.unusedVariables false
namespace Go.Proofs.YtbajmaoegmbfgaaGreat
section
open Go Go.RowKit Go.Ct
theorem kX:∀{t:Tr} {n c:Nat} (s:Mm),bS t n c->∀c',bS (eD t s).1 n c'
 | .done _,_,_,_,_,_=>trivial
 | .load _ _,0,_,_,_,_=>trivial
 | .load _ _,_+1,_,_,h,_=>h
 | .hY _ _ _ _,0,_,_,_,_=>trivial
 | .hY _ _ _ _,_+1,_,_,h,_=>h
 | .alloc _ _ _,_,0,_,h,_=>h.elim
 | .alloc n i k,_,_+1,s,h,c'=>kX (s.push n i) (h _) c'
 | .cell _ _,_,0,_,h,_=>h.elim
 | .cell i k,_,_+1,s,h,c'=>kX ⟨s.nodes,s.cs++[i],s.gen⟩ (h _) c'
 | .gen _,_,0,_,h,_=>h.elim
 | .gen k,_,_+1,s,h,c'=>kX ⟨s.nodes,s.cs,s.gen+1⟩ (h _) c'
 | .node r k,_,_,s,h,c'=>kX (t:=k (bQ s.nodes r)) s (h (bQ s.nodes r)) c'
 | .stuck,_,_,_,h,_=>h.elim
theorem kV:∀{t:Tr} {n c:Nat} (s:Mm),bS t n c->eS (eD t s).1=true
 | .done _,_,_,_,_=>rfl
 | .load _ _,_,_,_,_=>rfl
 | .hY _ _ _ _,_,_,_,_=>rfl
 | .alloc _ _ _,_,0,_,h=>h.elim
 | .alloc n i k,_,_+1,s,h=>kV (s.push n i) (h _)
 | .cell _ _,_,0,_,h=>h.elim
 | .cell i k,_,_+1,s,h=>kV ⟨s.nodes,s.cs++[i],s.gen⟩ (h _)
 | .gen _,_,0,_,h=>h.elim
 | .gen k,_,_+1,s,h=>kV ⟨s.nodes,s.cs,s.gen+1⟩ (h _)
 | .node r k,_,_,s,h=>kV (t:=k (bQ s.nodes r)) s (h (bQ s.nodes r))
 | .stuck,_,_,_,h=>h.elim
theorem oI:∀{t:Tr} {n c:Nat} (s:Mm),bS t n c->(eD t s).2.nodes.length<=s.nodes.length+c/\(eD t s).2.cs.length<=s.cs.length+c
 | .done _,_,_,_,_=>⟨Nat.le_add_right _ _,Nat.le_add_right _ _⟩
 | .load _ _,_,_,_,_=>⟨Nat.le_add_right _ _,Nat.le_add_right _ _⟩
 | .hY _ _ _ _,_,_,_,_=>⟨Nat.le_add_right _ _,Nat.le_add_right _ _⟩
 | .alloc _ _ _,_,0,_,h=>h.elim
 | .alloc n i k,_,c+1,s,h=>by
  have h2:=oI (s.push n i) (h ((s.nodes.length+1:Nat):Int))
  have hl:=gN (k:=n.kind) (cs:=s.cs) (init:=i)
  simp only[Mm.push,List.length_append,List.length_cons,List.length_nil] at h2
  show(eD (k _) (s.push n i)).2.nodes.length<=_/\(eD (k _) (s.push n i)).2.cs.length<=_
  simp only[Mm.push]
  omega
 | .cell _ _,_,0,_,h=>h.elim
 | .cell i k,_,c+1,s,h=>by
  have h2:=oI ⟨s.nodes,s.cs++[i],s.gen⟩ (h ((s.cs.length+1:Nat):Int))
  simp only[List.length_append,List.length_cons,List.length_nil] at h2
  show(eD (k _) _).2.nodes.length<=_/\(eD (k _) _).2.cs.length<=_
  omega
 | .gen _,_,0,_,h=>h.elim
 | .gen k,_,c+1,s,h=>by
  have h2:=oI ⟨s.nodes,s.cs,s.gen+1⟩ (h (s.gen+1))
  dsimp only at h2
  show(eD (k _) _).2.nodes.length<=_/\(eD (k _) _).2.cs.length<=_
  omega
 | .node r k,_,c,s,h=>oI (t:=k (bQ s.nodes r)) s (h (bQ s.nodes r))
 | .stuck,_,_,_,h=>h.elim
theorem kj{t:Tr}{n c:Nat}(s:Mm)(ht:bS t (n+1) c)(ha:eS t=true)(c':Nat):bS (vM (t,s)).1 n c':=by
 cases t with
 | done r=>trivial
 | load x k=>exact kX _ (ht _) c'
 | hY x o m k=>exact kX _ (ht _) c'
 | alloc n i k=>cases ha
 | cell i k=>cases ha
 | gen k=>cases ha
 | node r k=>cases ha
 | stuck=>cases ha
theorem ag{t:Tr}{n c:Nat}(s:Mm)(ht:bS t (n+1) c)(ha:eS t=true):eS (vM (t,s)).1=true:=by
 cases t with
 | done r=>rfl
 | load x k=>exact kV _ (ht _)
 | hY x o m k=>exact kV _ (ht _)
 | alloc n i k=>cases ha
 | cell i k=>cases ha
 | gen k=>cases ha
 | node r k=>cases ha
 | stuck=>cases ha
theorem ja{t:Tr}{n c:Nat}(s:Mm)(ht:bS t (n+1) c)(ha:eS t=true):(vM (t,s)).2.nodes.length<=s.nodes.length+64/\(vM (t,s)).2.cs.length<=s.cs.length+64:=by
 cases t with
 | done r=>exact⟨Nat.le_add_right _ _,Nat.le_add_right _ _⟩
 | load x k=>exact oI s (ht _)
 | hY x o m k =>
  have:=oI ⟨s.nodes,dL s.cs x o m,s.gen⟩ (ht (B8 s.cs x o))
  simp only[gQ] at this
  exact this
 | alloc n i k=>cases ha
 | cell i k=>cases ha
 | gen k=>cases ha
 | node r k=>cases ha
 | stuck=>cases ha
theorem Bm{t:Tr}{n:Nat}{s:Mm}(ht:bS t n 64)(ha:eS t=true):∀k,k<=n->bS (kI (t,s) k).1 (n-k) 64/\eS (kI (t,s) k).1=true/\(kI (t,s) k).2.nodes.length<=s.nodes.length+64*k/\(kI (t,s) k).2.cs.length<=s.cs.length+64*k
 | 0,_=>⟨ht,ha,Nat.le_refl _,Nat.le_refl _⟩
 | k+1,h=>by
  obtain⟨h1,h2,h3,h4⟩:=Bm ht ha k (by omega)
  rw[show n-k=n-(k+1)+1 by omega] at h1
  have h5:(vM (kI (t,s) k)).2.nodes.length<=(kI (t,s) k).2.nodes.length+64/\(vM (kI (t,s) k)).2.cs.length<=(kI (t,s) k).2.cs.length+64:=ja (kI (t,s) k).2 h1 h2
  exact⟨kj _ h1 h2 64,ag _ h1 h2,by show(vM (kI (t,s) k)).2.nodes.length<=_;omega,by show(vM (kI (t,s) k)).2.cs.length<=_;omega⟩
def pB(p:Tr×Mm):Nat->Nat
 | 0=>0
 | k+1=>pB p k+if(kI p k).1.live=true then 1 else 0
theorem Qj{p:Tr×Mm}(h:p.1.live=false):vM p=p:=by
 obtain⟨t,s⟩:=p
 cases t<;>first|rfl|cases h
theorem Po{p:Tr×Mm}{j:Nat}(h:(kI p j).1.live=false):∀k,kI p (j+k)=kI p j/\pB p (j+k)=pB p j
 | 0=>⟨rfl,rfl⟩
 | k+1=>by
  obtain⟨h1,h2⟩:=Po h k
  refine⟨?_,?_⟩
  ·show vM (kI p (j+k))=_
   rw[h1,Qj h]
  ·show pB p (j+k)+(if(kI p (j+k)).1.live=true then 1 else 0)=_
   rw[h1,h2,h]
   rfl
theorem B9{p:Tr×Mm}{j k:Nat}(h:(kI p j).1.live=false)(hk:j<=k):kI p k=kI p j/\pB p k=pB p j:=by
 have:=Po h (k-j)
 rwa [show j+(k-j)=k by omega] at this
structure TkI(b:Nat)(p:Tr×Mm)(a:AS)(B:Fr)(y:Cd×Fr×AS):Prop where
 rp:lW b p.1 p.2 y.1 p.2 (y.2.1++B)
 mm:y.2.2.mm=p.2
 ok:y.2.2.Ok
 gr:a.iD y.2.2 y.2.1
theorem TkI.of{b:Nat}{p:Tr×Mm}{a:AS}{B:Fr}{y:Cd×Fr×AS}(h:pX b p a B y):TkI b p a B y:=⟨h.1.1,h.1.2,h.2.1,h.2.2⟩
theorem fj{b:Nat}{t:Tr}{s:Mm}{c:Cd}{B:Fr}(h:lW b t s c s B)(ha:eS t=true):(c.a.k≠0↔t.live=true):=by
 have:=(h.kind ha).1
 cases hl:t.live with
 | false=>rw[hl] at this;exact⟨λ hn=>absurd (this.2 rfl) hn,λ h=>nomatch h⟩
 | true=>rw[hl] at this;exact⟨λ _=>rfl,λ _ e=>nomatch this.1 e⟩
section
variable{D:List Nat}{A B:Fr}{a:AS}{b bt n:Nat}{w:World}{c:Cd}{t:Tr}
theorem ju{most m:Nat}(ht:bS t m 64)(hmm:most<=m)(ha:eS t=true)(hr:lW b t a.mm c a.mm B)(ok:a.Ok)(hm:a.mm.nodes.length+64*most<=137438953472/\a.mm.cs.length+64*most<=137438953472)(hn:n+most<1000000000)(hA:∀f∈aL a.L,f∈A)(hB:∀x∈B,x∈A)(hs:SF w D [(bt,tO b c n),(b,dV a)] A [] (eC a) w) :
    Calls Tryz.prog 30 #[.pointer (some ⟨bt,0,none⟩),.int .i64 ((most:Nat):Int)] w λ e w'=>∃y:Cd×Fr×AS,e=.returned (.int .i64 ((pB (t,a.mm) most:Nat):Int))/\TkI b (kI (t,a.mm) most) a B y/\SF w D [(bt,tO b y.1 (n+pB (t,a.mm) most)),(b,dV y.2.2)] [] y.2.1 (eC y.2.2) w':=by
  have hall:=λ k hk=>Bm (s:=a.mm) ht ha k hk
  refine enter Tryz.func30 Tryz.ntmps30 rfl rfl hs ?_
  simp only[cA]
  refine cS ?_;refine cS ?_;refine Ds ?_
  refine oK [5,6,7,8,9,10,11,12,13,14,15,16,17,18,19,20,21,22,23,24] (λ y:Nat×Cd×Fr×AS=>[(5,.int .i64 ((y.1:Nat):Int))]) (λ y=>y.1<=most/\TkI b (kI (t,a.mm) y.1) a B y.2/\pB (t,a.mm) y.1=y.1) (λ y=>[(bt,tO b y.2.1 (n+y.1)),(b,dV y.2.2.2)]) (λ y=>y.2.2.1) (λ y=>eC y.2.2.2) (λ y=>most-y.1) ((0,c,[],a)) (⟨Nat.zero_le _,⟨hr,rfl,ok,AS.iD.refl a⟩,rfl⟩) (λ y f hx=>?_) (hw0:=λ w hw=>hw)
  dsimp only[hX,List.map,List.cons_append,List.nil_append]
  obtain⟨h1,h2,h3,h4⟩:=hall y.1 (by omega)
  have hrp:lW b (kI (t,a.mm) y.1).1 y.2.2.2.mm y.2.1 y.2.2.2.mm (y.2.2.1++B):=by rw[hx.2.1.mm];exact hx.2.1.rp
  have hsm:y.2.2.2.mm.Small:=by rw[hx.2.1.mm];exact⟨by omega,by omega⟩
  have hli:=fj hx.2.1.rp h2
  refine Db ?_;refine Bu ?_
  (refine dZ 9 (λ g9=>?_) (λ g9=>?_)<;>refine Ka0 ?_)
  all_goals ((first|refine aI ?_|(refine aE ?_;refine aN (cV (hc:=λ w1 hw=>Ap (hw.st.at cY))) (λ x11=>?_)));refine N6 ?_;refine aA ?_)
  all_goals (first|refine aI ?_|(refine dZ 14 (λ g14=>?_) (λ g14=>?_)<;>refine Ka0 ?_))
  all_goals (refine Kb6 ?_;refine J6 ?_;refine Kc1 ?_)
  all_goals
   refine bD (λ c20=>?_) (λ c20=>?_)
   · try exact nv c20
     all_goals (refine aW ?_;refine dD ?_;refine J2 ?_;refine aD (cM (V:=λ _:Cd×Fr×AS=>.tuple #[]) (hs:=[(bt,tO b y.2.1 (n+y.1)),(b,dV y.2.2.2)]) (os:=eC y.2.2.2) (Fc:=λ z=>z.2.1) (A0:=aL y.2.2.2.L++(y.2.2.1++B)) (hs':=λ z=>[(bt,tO b z.1 (n+y.1+1)),(b,dV z.2.2)]) (os':=λ z=>eC z.2.2) (hA:=bB.of λ f hf=>(List.mem_append.1 hf).elim (λ h1=>(hx.2.1.gr.fam f h1).elim .inl λ h2=>h2.elim (λ h3=>.inr (.inl (hA f h3))) λ h3=>.inr (.inr (.inl h3))) λ h1=>(List.mem_append.1 h1).elim (λ h2=>.inr (.inr (.inl h2))) λ h2=>.inr (.inl (hB f h2))) (hc:=λ w hw=>X6 (i:=m-(y.1+1)) (m:=64) (by rw[show m-(y.1+1)+1=m-y.1 by omega];exact h1) h2 (hli.1 g14) hrp hx.2.1.ok hsm (by omega) (λ f hf=>List.mem_append_left _ hf) (λ f hf=>List.mem_append_right _ hf) hw)) (λ x22 h22=>?_);refine aG ?_;refine vL ?_;refine fG ?_)
     all_goals
      refine jG ((y.1+1,x22.1,x22.2.1++y.2.2.1,x22.2.2)) ?_ (hw1:=λ w hw=>hw)
      · have e1:kI (t,a.mm) (y.1+1)=vM ((kI (t,a.mm) y.1).1,y.2.2.2.mm):=by rw[hx.2.1.mm];rfl
        have h5:=TkI.of h22.1
        have hlv:=hli.1 g14
        refine⟨by show y.1+1<=most;omega,⟨?_,?_,h5.ok,hx.2.1.gr.trans h5.gr⟩,?_⟩
        · rw[e1]
          show lW b _ _ _ _ (x22.2.1++y.2.2.1++B)
          rw[List.append_assoc]
          exact h5.rp
        · rw[e1];exact h5.mm
        · show pB (t,a.mm) y.1+_=y.1+1
          rw[hlv,hx.2.2]
          rfl
   · try exact nv c20
     all_goals (refine bR rfl ?_;refine Ka5 ?_)
     all_goals
      refine aQ Tryz.results30 (λ w hw=>?_)
      have e:kI (t,a.mm) most=kI (t,a.mm) y.1/\pB (t,a.mm) most=y.1:=by
       first
        | (have h:=B9 (Bool.eq_false_iff.2 λ h=>hli.2 h g14) hx.1;exact⟨h.1,h.2.trans hx.2.2⟩)
        | (have em:most=y.1:=(by have:=hx.1;omega);rw[em];exact⟨rfl,hx.2.2⟩)
      rw[e.1,e.2]
      exact⟨y.2,rfl,hx.2.1,hw.ret (List.Sublist.refl _) (aV.iM λ f hf=>hf) (List.Sublist.refl _)⟩
end
end

/- Procedures by how many accesses they make, whatever they find. -/
section
open Go Go.RowKit Go.Ct
def Dp:Tr->Nat->Prop
 | .done _,_=>True
 | .stuck,_=>False
 | .load _ _,0=>False
 | .load _ k,n+1=>∀v,Dp (k v) n
 | .hY _ _ _ _,0=>False
 | .hY _ _ _ k,n+1=>∀b,Dp (k b) n
 | .alloc _ _ k,n=>∀r,Dp (k r) n
 | .cell _ k,n=>∀r,Dp (k r) n
 | .gen k,n=>∀r,Dp (k r) n
 | .node _ k,n=>∀v,Dp (k v) n
theorem Dp.mono:∀{t:Tr} {n m:Nat},n<=m->Dp t n->Dp t m:=by
 intro t
 induction t with
 | done r=>intro n m _ _;trivial
 | stuck=>intro n m _ h;exact h.elim
 | load c k ih =>
  intro n m hnm h
  cases n with
  | zero=>exact h.elim
  | succ n =>
   obtain⟨m,rfl⟩:∃m',m=m'+1:=⟨m-1,by omega⟩
   exact λ v=>ih _ (by omega) (h v)
 | hY c o v k ih =>
  intro n m hnm h
  cases n with
  | zero=>exact h.elim
  | succ n =>
   obtain⟨m,rfl⟩:∃m',m=m'+1:=⟨m-1,by omega⟩
   exact λ v=>ih _ (by omega) (h v)
 | alloc nd i k ih=>intro n m hnm h;exact λ v=>ih _ hnm (h v)
 | cell i k ih=>intro n m hnm h;exact λ v=>ih _ hnm (h v)
 | gen k ih=>intro n m hnm h;exact λ v=>ih _ hnm (h v)
 | node r k ih=>intro n m hnm h;exact λ v=>ih _ hnm (h v)
theorem Dp.eD:∀{t:Tr} {n:Nat} (s:Mm),Dp t n->Dp (Ct.eD t s).1 n/\eS (Ct.eD t s).1=true:=by
 intro t
 induction t with
 | done r=>intro n s h;exact⟨h,rfl⟩
 | stuck=>intro n s h;exact h.elim
 | load c k ih=>intro n s h;exact⟨h,rfl⟩
 | hY c o v k ih=>intro n s h;exact⟨h,rfl⟩
 | alloc nd i k ih=>intro n s h;exact ih _ _ (h _)
 | cell i k ih=>intro n s h;exact ih _ _ (h _)
 | gen k ih=>intro n s h;exact ih _ _ (h _)
 | node r k ih=>intro n s h;exact ih _ _ (h _)
theorem Dp.st{t:Tr}{n:Nat}(s:Mm)(h:Dp t n)(ha:eS t=true)(hl:t.live=true):∃m,n=m+1/\Dp (vM (t,s)).1 m/\eS (vM (t,s)).1=true:=by
 cases t with
 | done r=>cases hl
 | load c k =>
  cases n with
  | zero=>exact h.elim
  | succ n=>exact⟨n,rfl,Dp.eD _ (h _)⟩
 | hY c o v k =>
  cases n with
  | zero=>exact h.elim
  | succ n=>exact⟨n,rfl,Dp.eD _ (h _)⟩
 | stuck=>cases ha
 | alloc nd i k=>cases ha
 | cell i k=>cases ha
 | gen k=>cases ha
 | node r k=>cases ha
theorem Dp.run{t:Tr}{n:Nat}{s:Mm}(h:Dp t n):∀k,∃m,Dp (kI (Ct.eD t s) k).1 m/\eS (kI (Ct.eD t s) k).1=true/\pB (Ct.eD t s) k+m<=n/\((kI (Ct.eD t s) k).1.live=true->pB (Ct.eD t s) k=k)
 | 0=>⟨n,(h.eD s).1,(h.eD s).2,by show 0+n<=n;omega,λ _=>rfl⟩
 | k+1=>by
  obtain⟨m,h1,h2,h3,h4⟩:=Dp.run h k
  show ∃m,Dp (vM (kI (Ct.eD t s) k)).1 m/\eS (vM (kI (Ct.eD t s) k)).1=true/\(pB (Ct.eD t s) k+if(kI (Ct.eD t s) k).1.live=true then 1 else 0)+m<=n/\((vM (kI (Ct.eD t s) k)).1.live=true->(pB (Ct.eD t s) k+if(kI (Ct.eD t s) k).1.live=true then 1 else 0)=k+1)
  by_cases hl:(kI (Ct.eD t s) k).1.live=true
  ·obtain⟨m',e,h5,h6⟩:=h1.st (kI (Ct.eD t s) k).2 h2 hl
   have:=h4 hl
   refine⟨m',h5,h6,by rw[if_pos hl];omega,λ _=>by rw[if_pos hl];omega⟩
  ·have hf:(kI (Ct.eD t s) k).1.live=false:=by simpa using hl
   rw[Qj hf]
   exact⟨m,h1,h2,by rw[if_neg hl];omega,λ h=>absurd h hl⟩
theorem Dp.fin{t:Tr}{n k:Nat}{s:Mm}(h:Dp t n)(hk:n<k):(∃r,(kI (Ct.eD t s) k).1=.done r)/\pB (Ct.eD t s) k<=n:=by
 obtain⟨m,h1,h2,h3,h4⟩:=h.run (s:=s) k
 refine⟨?_,by omega⟩
 cases hr:(kI (Ct.eD t s) k).1 with
 | done r=>exact⟨r,rfl⟩
 | load c k'=>rw[hr] at h4;have:=h4 rfl;omega
 | hY c o v k'=>rw[hr] at h4;have:=h4 rfl;omega
 | stuck=>rw[hr] at h2;cases h2
 | alloc nd i k'=>rw[hr] at h2;cases h2
 | cell i k'=>rw[hr] at h2;cases h2
 | gen k'=>rw[hr] at h2;cases h2
 | node r k'=>rw[hr] at h2;cases h2
section
variable{t:eQ}{i m p v:Int}{n:Nat}
theorem jk{K:Int->Tr}(h:∀m,Dp (K m) n):Dp (Bb i m p K) (n+1):=λ _ _ _ _=>h _
theorem Hq{K:Int->Tr}(h:∀m,Dp (K m) n):Dp (iK i m K) (n+2):=λ _ p=>by
 try dsimp only
 split
 ·exact(h _).mono (by omega)
 ·exact jk h
theorem Wm{K:Int->Tr}{c:Bool}(h:∀m,Dp (K m) n):Dp (jK i m p c K) (n+3):=by
 unfold jK
 split
 ·exact λ _ _=>Hq h
 ·exact λ _ _ _=>Hq h
theorem F7{s:Int}{K:Int->Tr}(h:∀m,Dp (K m) n):Dp (iE t v s K) (n+1):=λ _ _=>h _
theorem sb{K:Int->Tr}(h:∀m,Dp (K m) n):Dp (yW t K) (n+5):=λ v=>λ _=>by
 try dsimp only
 split
 ·exact(h _).mono (by omega)
 ·refine λ _ s=>?_
  try dsimp only
  split
  ·exact λ _ _ _ _=>F7 h
  ·exact(F7 h).mono (by omega)
theorem Zj{K:Int->Tr}(h:∀m,Dp (K m) n):Dp (mI t i m K) (n+9):=λ _ p=>by
 try dsimp only
 split
 ·exact(h _).mono (by omega)
 ·refine λ np=>?_
  try dsimp only
  split
  ·split
   ·exact(Wm h).mono (by omega)
   ·refine(sb (n:=n+3) λ r=>?_).mono (by omega)
    exact λ _ _=>Wm h
  ·exact(jk h).mono (by omega)
theorem qm{K:Int->Tr}(h:∀m,Dp (K m) n):Dp (lR t i K) (n+10):=λ _ _=>Zj h
theorem Jl{K:Tr}(h:Dp K n):Dp (lG t v K) (n+11):=λ _=>by
 refine(qm (n:=n+1) λ _=>?_).mono (by omega)
 exact λ _ _ _=>h
theorem u5{K:Int->Tr}(h:∀m,Dp (K m) n):Dp (mL t K) (n+15):=λ v=>λ _=>by
 try dsimp only
 split
 ·exact(h _).mono (by omega)
 ·refine λ _ s=>?_
  try dsimp only
  split
  ·refine(Jl (n:=n+2) ?_).mono (by omega)
   exact λ _ _=>F7 h
  ·exact(F7 h).mono (by omega)
theorem ig{o e nw:Int}{K:Bool->Tr}(h:∀b,Dp (K b) n):Dp (lP t o e nw K) (n+14):=λ _ b=>by
 try dsimp only
 split
 ·refine(Jl (n:=n+2) ?_).mono (by omega)
  exact λ _ _=>F7 λ _=>h _
 ·exact(h _).mono (by omega)
end
end

/- Tries of worlds: a cell is set; nodes and cells are added. -/
section
open Go.Ct
section
variable{H:ByteArray->Nat}{σ τ υ:Kw}{r:Int}{w:List Nat}
theorem jP{cs:List Int}{c o v:Int}(h:gP cs c o)(c':Int):bE (dL cs c o v) c'=if c'=c then v else bE cs c':=by
 have hl:=gQ (cs:=cs) (c:=c) (bA:=o) (new:=v)
 obtain⟨h1,h2,h3⟩:=h
 have e:dL cs c o v=cs.set (c-1).toNat v:=if_pos ⟨h1,h2,h3⟩
 unfold bE
 rw[hl]
 by_cases hc:1<=c'/\c'<=cs.length
 ·rw[if_pos hc,if_pos hc,e]
  by_cases e2:c'=c
  ·subst e2
   rw[if_pos rfl]
   rw[jN,List.getElem?_set,if_pos rfl,if_pos (by omega)]
   rfl
  ·rw[if_neg e2]
   rw[jN,List.getElem?_set,if_neg (by omega),jN]
 ·rw[if_neg hc,if_neg hc,if_neg (by omega)]
theorem rZ{cs:List Int}{c o:Int}(h:gP cs c o):bE cs c=o:=by
 obtain⟨h1,h2,h3⟩:=h
 unfold bE
 rw[if_pos ⟨h1,h2⟩,h3]
theorem rG.in(h:rG σ r w):1<=r/\r<=σ.len:=dW (by rw[h.1];decide)
theorem oT.in{g:Int}(h:oT σ r w g):1<=r/\r<=σ.len:=jL h.1
theorem Inv.mT(i:Inv H σ){m:Int}(h:cG (σ.nd m)):1<=(σ.nd m).prev/\(σ.nd m).prev<=σ.cl/\σ.ct (σ.nd m).prev=.prev m:=by
 have hr:=jL h
 have hn:=i.nd m hr.1 hr.2
 have hb:=hn.bd.prev
 rcases h with h|h|h
 ·have:=hn.k3 h;exact⟨this.2.2.2.1,hb,this.2.2.2.2⟩
 ·have:=hn.k5 h;exact⟨this.2.2.2.2.1,hb,this.2.2.2.2.2⟩
 ·have:=hn.k6 h;exact⟨this.2.2.2.1,hb,this.2.2.2.2⟩
theorem Inv.oJ(i:Inv H σ){r:Int}(h:(σ.nd r).kind=2):1<=(σ.nd r).main/\(σ.nd r).main<=σ.cl/\σ.ct (σ.nd r).main=.main r:=by
 have hr:=dW (N:=σ.mm.nodes) (i:=r) (by rw[h];decide)
 have hn:=i.nd r hr.1 hr.2
 exact⟨(hn.k2 h).2.1,hn.bd.main,(hn.k2 h).2.2⟩
theorem rG.up(h:rG σ r w)(l:Le σ τ):rG τ r w:=by
 have hr:=h.in
 exact⟨by rw[l.nd hr.2];exact h.1,by rw[l.way r hr.2];exact h.2⟩
theorem oT.up{g:Int}(h:oT σ r w g)(l:Le σ τ):oT τ r w g:=by
 have hr:=h.in
 exact⟨by rw[l.nd hr.2];exact h.1,by rw[l.way r hr.2];exact h.2.1,by rw[l.gb r hr.2];exact h.2.2⟩
theorem oT.le{g g':Int}(h:oT σ r w g)(hg:g<=g'):oT σ r w g':=⟨h.1,h.2.1,Int.le_trans h.2.2 hg⟩
theorem dI.up(i:Inv H σ)(hm:cG (σ.nd r))(h:dI σ r)(l:Le σ τ):dI τ r:=by
 have hc:=i.mT hm
 unfold dI
 rw[l.nd (jL hm).2,l.done _ r hc.1 hc.2.1 hc.2.2 (by rw[h];exact jF (.inl (xY _)))]
 exact h
theorem ns.same{c:Int}(h:ns σ c)(hm:υ.mm.nodes=σ.mm.nodes)(hw:υ.way=σ.way)(hg:υ.gb=σ.gb)(hct:υ.ct=σ.ct)(hc:υ.ce c=σ.ce c)(hs:∀p,cG (σ.nd p)->dI σ p->dI υ p):ns υ c:=by
 have hl:υ.len=σ.len:=by simp only[Kw.len,hm]
 have hn:∀r,υ.nd r=σ.nd r:=λ r=>by simp only[Kw.nd,hm]
 have hM:∀p w g,oT σ p w g->oT υ p w g:=λ p w g h=>⟨by rw[hn];exact h.1,by rw[hw];exact h.2.1,by rw[hg];exact h.2.2⟩
 have hP:∀m p,oF σ m p->oF υ m p:=λ m p h=>⟨by rw[hw,hg];exact hM _ _ _ h.1,hs p h.1.1 h.2⟩
 refine⟨by rw[hc];exact h.lo,by rw[hc,hl];exact h.hi,λ i e=>?_,λ m e=>?_,λ d e=>?_,λ e=>?_,λ e=>?_⟩
 ·rw[hc,hw,hn]
  obtain⟨h0,h1⟩:=h.main i (by rw[<- hct];exact e)
  exact⟨h0,hM _ _ _ h1⟩
 ·rw[hc,hn,hn]
  obtain⟨h0,h⟩:=h.prev m (by rw[<- hct];exact e)
  refine⟨h0,?_⟩
  rcases h with h1|h1|⟨h1,h2⟩
  ·exact .inl h1
  ·exact .inr (.inl (hP _ _ h1))
  ·exact .inr (.inr ⟨h1,hP _ _ h2⟩)
 ·rw[hc];exact h.stat d (by rw[<- hct];exact e)
 ·rw[hc,hn]
  rcases h.root (by rw[<- hct];exact e) with h1|h1
  ·exact .inl ⟨by rw[hn];exact h1.1,by rw[hw];exact h1.2⟩
  ·exact .inr h1
 ·rw[hc]
  have h1:=h.rort (by rw[<- hct];exact e)
  exact⟨by rw[hn];exact h1.1,by rw[hw];exact h1.2⟩
theorem gG.hY{N:List Nv}{cs:List Int}{gen c o v:Int}(h:gG N cs gen)(lo:0<=v)(hi:v<=N.length):gG N (dL cs c o v) gen:=by
 unfold dL
 split
 ·refine⟨h.two,h.gen0,h.m0,h.m1,λ i hi'=>?_,h.nodes,by rw[List.length_set];exact h.marks⟩
  rw[List.length_set] at hi'
  rw[jN,List.getElem?_set]
  split
  ·rw[if_pos (by omega)]
   exact⟨lo,by rw[List.length_map];exact hi⟩
  ·rw[<- jN]
   exact h.cells i hi'
 ·exact h
structure Jz(σ:Kw)(c o v:Int):Prop where
 lo:0<=v
 hi:v<=σ.len
 main:∀i,σ.ct c=.main i->oT σ v (σ.way i) (σ.nd i).gen
 prev:∀m,σ.ct c=.prev m->cG (σ.nd o)/\(v=0∨((σ.nd v).kind=7/\(σ.nd v).bA=o))
 stat:∀d,σ.ct c=.stat d->v=0∨v=1∨v=2
 root:σ.ct c=.root->rG σ v []∨(σ.nd v).kind=8
 rort:σ.ct c=.rort->rG σ v []
def Kw.set(σ:Kw)(c o v:Int):Kw:=⟨⟨σ.mm.nodes,dL σ.mm.cs c o v,σ.mm.gen⟩,σ.way,σ.gb,σ.ct⟩
theorem Nk{c o v:Int}(i:Inv H σ)(hk:gP σ.mm.cs c o)(hs:Jz σ c o v):Le σ (σ.set c o v)/\Inv H (σ.set c o v)/\(σ.set c o v).ce c=v:=by
 unfold Kw.set
 refine⟨?_,?_,by show bE (dL _ _ _ _) c=v;rw[jP hk,if_pos rfl]⟩
 ·refine⟨⟨[],by simp⟩,by simp only[Kw.cl,gQ];exact Nat.le_refl _,Int.le_refl _,λ _ _=>rfl,λ _ _=>rfl,λ _ _=>rfl,λ c' m h1 hc e hm=>?_,λ c' m h1 hc e hm=>?_⟩
  ·show bE (dL _ _ _ _) c'=_
   rw[jP hk]
   split
   ·rename_i e2
    subst e2
    exact absurd (by rw[show σ.ce c'=o from rZ hk];exact(hs.prev m e).1) hm
   ·rfl
  ·show bE (dL _ _ _ _) c'=_∨bE (dL _ _ _ _) c'=_∨_
   rw[jP hk]
   split
   ·rename_i e2
    subst e2
    have e3:σ.ce c'=o:=rZ hk
    rcases(hs.prev m e).2 with h|h
    ·exact .inr (.inl h)
    ·refine .inr (.inr ?_)
     show(bQ σ.mm.nodes (bE (dL _ _ _ _) c')).kind=7/\(bQ σ.mm.nodes (bE (dL _ _ _ _) c')).bA=_
     rw[jP hk,if_pos rfl,e3]
     exact h
   ·exact .inl rfl
 ·have hcl:(dL σ.mm.cs c o v).length=σ.cl:=gQ
  refine⟨i.two,i.m1,i.m2,i.gen,gG.hY i.prop hs.lo hs.hi,λ r h1 h2=>?_,λ c' h1 h2=>?_⟩
  ·have h:=i.nd r h1 h2
   exact⟨h.valid,h.gen,by simp only[Kw.cl,hcl];exact h.bd,h.k2,h.k3,h.k4,h.k5,h.k6,h.k7,h.k8⟩
  ·simp only[Kw.cl,hcl] at h2
   have hset:∀p,cG (σ.nd p)->dI σ p->bE (dL σ.mm.cs c o v) (σ.nd p).prev=0:=λ p hm hp=>by
    rw[jP hk]
    split
    ·rename_i e
     have hc:=(i.mT hm).2.2
     rw[e] at hc
     have h0:σ.ce (σ.nd p).prev=0:=hp
     rw[e,show σ.ce c=o from rZ hk] at h0
     have:=(hs.prev p hc).1
     rw[h0] at this
     exact absurd this (jF (.inl (xY _)))
    ·exact hp
   by_cases e:c'=c
   ·subst e
    have e2:bE (dL σ.mm.cs c' o v) c'=v:=by rw[jP hk,if_pos rfl]
    have e3:σ.ce c'=o:=rZ hk
    refine⟨by simp only[Kw.ce,e2];exact hs.lo,by simp only[Kw.ce,e2];exact hs.hi,λ i' h=>?_,λ m h=>?_,λ d h=>?_,λ h=>?_,λ h=>?_⟩
    ·simp only[Kw.ce,e2];exact⟨((i.ce c' h1 h2).main i' h).1,hs.main i' h⟩
    ·simp only[Kw.ce,e2]
     have hp:=hs.prev m h
     have hold:oF σ m o:=by
      rcases((i.ce c' h1 h2).prev m h).2 with h3|h3|h3
      ·rw[e3] at h3;rw[h3] at hp;exact absurd hp.1 (jF (.inl (xY _)))
      ·rwa [e3] at h3
      ·rw[e3] at h3;exact absurd hp.1 (jF (.inr (.inl h3.1)))
     refine⟨((i.ce c' h1 h2).prev m h).1,?_⟩
     rcases hp.2 with h3|⟨h3,h4⟩
     ·exact .inl h3
     ·refine .inr (.inr ⟨h3,?_⟩)
      show oF _ m (σ.nd v).bA
      rw[h4]
      exact⟨hold.1,hset _ hp.1 hold.2⟩
    ·simp only[Kw.ce,e2];exact hs.stat d h
    ·simp only[Kw.ce,e2];exact hs.root h
    ·simp only[Kw.ce,e2];exact hs.rort h
   ·exact(i.ce c' h1 h2).same rfl rfl rfl rfl (by show bE (dL _ _ _ _) c'=_;rw[jP hk,if_neg e]) hset
theorem bf{c o v:Int}(i:Inv H σ)(hk:gP σ.mm.cs c o)(hs:Jz σ c o v):∃υ,Le σ υ/\Inv H υ/\υ.mm=⟨σ.mm.nodes,dL σ.mm.cs c o v,σ.mm.gen⟩/\υ.ce c=v:=⟨σ.set c o v,(Nk i hk hs).1,(Nk i hk hs).2.1,rfl,(Nk i hk hs).2.2⟩
structure Ext(σ υ:Kw):Prop where
 nodes:∃N,υ.mm.nodes=σ.mm.nodes++N
 cs:∃C,υ.mm.cs=σ.mm.cs++C
 gen:σ.mm.gen<=υ.mm.gen
 way:∀r:Int,r<=σ.len->υ.way r=σ.way r
 gb:∀r:Int,r<=σ.len->υ.gb r=σ.gb r
 ct:∀c:Int,c<=σ.cl->υ.ct c=σ.ct c
theorem yI{cs C:List Int}{c:Int}(h:c<=cs.length):bE (cs++C) c=bE cs c:=by
 unfold bE
 by_cases h1:1<=c
 ·rw[if_pos ⟨h1,by simp;omega⟩,if_pos ⟨h1,h⟩,jN,jN,List.getElem?_append_left (by omega)]
 ·rw[if_neg (by omega),if_neg (by omega)]
theorem Ext.ce(e:Ext σ υ){c:Int}(h:c<=σ.cl):υ.ce c=σ.ce c:=by obtain⟨C,h2⟩:=e.cs;simp only[Kw.ce,h2];exact yI h
theorem Ext.cl(e:Ext σ υ):σ.cl<=υ.cl:=by obtain⟨C,h2⟩:=e.cs;simp only[Kw.cl,h2,List.length_append];omega
theorem Ext.le(e:Ext σ υ):Le σ υ:=⟨e.nodes,e.cl,e.gen,e.way,e.gb,e.ct,λ _ _ _ h _ _=>e.ce h,λ _ _ _ h _ _=>.inl (e.ce h)⟩
theorem Ly.up{g b:Int}(h:Ly σ w g b)(l:Le σ υ):Ly υ w g b:=by
 rcases h with h|h
 ·have hr:=dW (N:=σ.mm.nodes) (i:=b) (by rw[h.1];decide)
  exact .inl (by rw[l.nd hr.2];exact h)
 ·have hr:=dW (N:=σ.mm.nodes) (i:=b) (by rw[h.1];decide)
  exact .inr (by rw[l.nd hr.2,l.way b hr.2];exact h)
theorem NdI.ext(h:NdI H σ r)(hr:r<=σ.len)(e:Ext σ υ):NdI H υ r:=by
 have l:=e.le
 have hn:=l.nd hr
 have hw:=l.way r hr
 have hk:∀b,(σ.nd b).kind=2->(υ.nd b).kind=2:=λ b hb=>by rw[l.nd (dW (N:=σ.mm.nodes) (i:=b) (by rw[hb];decide)).2];exact hb
 refine⟨by rw[hn];exact h.valid,by rw[hn];have:=h.gen;have:=e.gen;omega,by rw[hn];exact h.bd.mono l.len l.cl,λ k=>?_,λ k=>?_,λ k=>?_,λ k=>?_,λ k=>?_,λ k=>?_,λ k=>?_⟩<;>rw[hn] at k ⊢
 ·obtain⟨h1,h2,h3⟩:=h.k2 k
  exact⟨by rw[hw];exact h1,h2,by rw[l.ct _ h.bd.main];exact h3⟩
 ·obtain⟨h1,h2,h3,h4,h5⟩:=h.k3 k
  rw[hw]
  refine⟨h1,λ k' b hb=>by rw[l.gb r hr];exact(h2 k' b hb).up l,λ h0=>⟨(h3 h0).1,λ b hb=>hk b ((h3 h0).2 b hb)⟩,h4,by rw[l.ct _ h.bd.prev];exact h5⟩
 ·exact h.k4 k
 ·rw[hw,l.ct _ h.bd.prev];exact h.k5 k
 ·rw[hw,l.ct _ h.bd.prev];exact h.k6 k
 ·have:=h.k7 k
  rw[l.nd (jL this).2];exact this
 ·obtain⟨h1,h2,h3,h4⟩:=h.k8 k
  exact⟨h1.up l,h2.up l,h3,by rw[l.ct _ h.bd.status];exact h4⟩
theorem ns.ext{c:Int}(i:Inv H σ)(h:ns σ c)(hc:c<=σ.cl)(e:Ext σ υ):ns υ c:=by
 have l:=e.le
 have hv:=e.ce hc
 have hP:∀m p:Int,m<=σ.len->oF σ m p->oF υ m p:=λ m p hm hp=>⟨by rw[l.way m hm,l.gb m hm];exact hp.1.up l,dI.up i hp.1.1 hp.2 l⟩
 refine⟨by rw[hv];exact h.lo,by rw[hv];have:=h.hi;have:=l.len;omega,λ i' k=>?_,λ m k=>?_,λ d k=>?_,λ k=>?_,λ k=>?_⟩<;>rw[l.ct c hc] at k<;>rw[hv]
 ·obtain⟨h1,h2⟩:=h.main i' k
  have hr:=dW (N:=σ.mm.nodes) (i:=i') (by rw[h1];decide)
  rw[l.nd hr.2,l.way i' hr.2]
  exact⟨h1,h2.up l⟩
 ·obtain⟨h1,h2⟩:=h.prev m k
  have hr:=jL h1
  rw[l.nd hr.2]
  refine⟨h1,?_⟩
  rcases h2 with h2|h2|⟨h2,h3⟩
  ·exact .inl h2
  ·exact .inr (.inl (hP m _ hr.2 h2))
  ·refine .inr (.inr ?_)
   rw[l.nd h.hi]
   exact⟨h2,hP m _ hr.2 h3⟩
 ·exact h.stat d k
 ·rcases h.root k with h1|h1
  ·exact .inl (h1.up l)
  ·exact .inr (by rw[l.nd h.hi];exact h1)
 ·exact(h.rort k).up l
theorem Ni(i:Inv H σ)(e:Ext σ υ)(hp:gG υ.mm.nodes υ.mm.cs υ.mm.gen)(hn:∀r:Int,σ.len<r->r<=υ.len->NdI H υ r)(hc:∀c:Int,σ.cl<c->c<=υ.cl->ns υ c):Inv H υ:=by
 have l:=e.le
 refine⟨Nat.le_trans i.two l.len,by rw[l.nd (by have:=i.two;omega)];exact i.m1,by rw[l.nd (by have:=i.two;omega)];exact i.m2,Int.le_trans i.gen e.gen,hp,λ r h1 h2=>?_,λ c h1 h2=>?_⟩
 ·rcases Int.lt_or_le σ.len r with h|h
  ·exact hn r h h2
  ·exact(i.nd r h1 h).ext h e
 ·rcases Int.lt_or_le σ.cl c with h|h
  ·exact hc c h h2
  ·exact ns.ext i (i.ce c h1 h) h e
def Kw.add(σ:Kw)(n:Nv)(i:Int)(w:List Nat)(g:Int)(t:CT):Kw :=
 ⟨σ.mm.push n i,λ r=>if r<=σ.len then σ.way r else w,λ r=>if r<=σ.len then σ.gb r else g,λ c=>if c<=σ.cl then σ.ct c else t⟩
theorem V8(σ:Kw)(n:Nv)(i:Int)(w:List Nat)(g:Int)(t:CT):Ext σ (σ.add n i w g t) :=
 ⟨⟨_,rfl⟩,by unfold Kw.add Mm.push fN;dsimp only;split;exact⟨_,rfl⟩;exact⟨[],by simp⟩,Int.le_refl _,λ r hr=>if_pos hr,λ r hr=>if_pos hr,λ c hc=>if_pos hc⟩
theorem V5(σ:Kw)(n:Nv)(i:Int)(w:List Nat)(g:Int)(t:CT):(σ.add n i w g t).len=σ.len+1:=by simp[Kw.len,Kw.add,Mm.push]
theorem xj(σ:Kw)(n:Nv)(i:Int)(w:List Nat)(g:Int)(t:CT):(σ.add n i w g t).nd ((σ.len+1:Nat):Int)=dK n σ.cl:=by
 simp only[Kw.nd,Kw.add,Mm.push,bQ,List.length_append,List.length_cons,List.length_nil]
 rw[if_pos ⟨by omega,by simp only[Kw.len];omega⟩]
 have e:(((σ.len+1:Nat):Int)-1).toNat=σ.mm.nodes.length:=by simp only[Kw.len];omega
 rw[e]
 simp[jN]
theorem s6(σ:Kw)(n:Nv)(i:Int)(w:List Nat)(g:Int)(t:CT):(σ.add n i w g t).way ((σ.len+1:Nat):Int)=w:=if_neg (by omega)
theorem aAq(σ:Kw)(n:Nv)(i:Int)(w:List Nat)(g:Int)(t:CT):(σ.add n i w g t).gb ((σ.len+1:Nat):Int)=g:=if_neg (by omega)
theorem za(σ:Kw)(n:Nv)(i:Int)(w:List Nat)(g:Int)(t:CT):(σ.add n i w g t).ct ((σ.cl+1:Nat):Int)=t:=if_neg (by omega)
theorem xq(σ:Kw){n:Nv}(i:Int)(w:List Nat)(g:Int)(t:CT)(h:n.kind=2∨n.kind=3∨n.kind=5∨n.kind=6∨n.kind=8):(σ.add n i w g t).cl=σ.cl+1/\(σ.add n i w g t).ce ((σ.cl+1:Nat):Int)=i:=by
 have e:(σ.add n i w g t).mm.cs=σ.mm.cs++[i]:=by simp only[Kw.add,Mm.push,fN];exact if_pos h
 refine⟨by simp[Kw.cl,e],?_⟩
 simp only[Kw.ce,e,bE,List.length_append,List.length_cons,List.length_nil]
 rw[if_pos ⟨by omega,by simp only[Kw.cl];omega⟩]
 have e2:(((σ.cl+1:Nat):Int)-1).toNat=σ.mm.cs.length:=by simp only[Kw.cl];omega
 rw[e2]
 simp[jN]
theorem ow(σ:Kw){n:Nv}(i:Int)(w:List Nat)(g:Int)(t:CT)(h:¬(n.kind=2∨n.kind=3∨n.kind=5∨n.kind=6∨n.kind=8)):(σ.add n i w g t).cl=σ.cl:=by
 have e:(σ.add n i w g t).mm.cs=σ.mm.cs:=by simp only[Kw.add,Mm.push,fN];exact if_neg h
 simp[Kw.cl,e]
theorem r3{n:Nv}{i:Int}{g:Int}{t:CT}(h:Inv H σ)(hok:nC σ.mm.gen (σ.len+1) (dK n σ.cl).dv)(hi:Ei i σ.len)(hn:NdI H (σ.add n i w g t) ((σ.len+1:Nat):Int))(hc:(σ.add n i w g t).cl=σ.cl+1->ns (σ.add n i w g t) ((σ.cl+1:Nat):Int))(hcl:(σ.add n i w g t).cl<=σ.cl+1):Inv H (σ.add n i w g t):=by
 refine Ni h (V8 σ n i w g t) (gG.push h.prop hok hi) (λ r h1 h2=>?_) (λ c h1 h2=>?_)
 ·rw[V5] at h2
  rw[show r=((σ.len+1:Nat):Int) by omega];exact hn
 ·rw[show c=((σ.cl+1:Nat):Int) by omega];exact hc (by omega)
end
end

end Go.Proofs.YtbajmaoegmbfgaaGreat

/- Merged. -/
import Derived.Test.YtbajmaoegmbfgaaGreatGTt1
import Derived.Test.YtbajmaoegmbfgaaGreatGWo6
import Derived.Test.YtbajmaoegmbfgaaGreatGIxg
import Derived.Test.YtbajmaoegmbfgaaGreatGWo7
import Derived.Test.YtbajmaoegmbfgaaGreatGBr6
set_option linter.unusedSimpArgs false
set_option linter.unusedVariables false
namespace Go.Proofs.YtbajmaoegmbfgaaGreat
open Go Go.RowKit Go.Ct
section
theorem mC:∀{t:Tr} {n c:Nat} (s:Mm),bU t n c->∀c',bU (gX t s).1 n c'
 | .done _,_,_,_,_,_=>trivial
 | .load _ _,0,_,_,_,_=>trivial
 | .load _ _,_+1,_,_,h,_=>h
 | .jE _ _ _ _,0,_,_,_,_=>trivial
 | .jE _ _ _ _,_+1,_,_,h,_=>h
 | .alloc _ _ _,_,0,_,h,_=>h.elim
 | .alloc n i k,_,_+1,s,h,c'=>mC (s.push n i) (h _) c'
 | .cell _ _,_,0,_,h,_=>h.elim
 | .cell i k,_,_+1,s,h,c'=>mC ⟨s.nodes,s.cs++[i],s.gen⟩ (h _) c'
 | .gen _,_,0,_,h,_=>h.elim
 | .gen k,_,_+1,s,h,c'=>mC ⟨s.nodes,s.cs,s.gen+1⟩ (h _) c'
 | .node r k,_,_,s,h,c'=>mC (t:=k (aS s.nodes r)) s (h (aS s.nodes r)) c'
 | .stuck,_,_,_,h,_=>h.elim
theorem oO:∀{t:Tr} {n c:Nat} (s:Mm),bU t n c->eE (gX t s).1=true
 | .done _,_,_,_,_=>rfl
 | .load _ _,_,_,_,_=>rfl
 | .jE _ _ _ _,_,_,_,_=>rfl
 | .alloc _ _ _,_,0,_,h=>h.elim
 | .alloc n i k,_,_+1,s,h=>oO (s.push n i) (h _)
 | .cell _ _,_,0,_,h=>h.elim
 | .cell i k,_,_+1,s,h=>oO ⟨s.nodes,s.cs++[i],s.gen⟩ (h _)
 | .gen _,_,0,_,h=>h.elim
 | .gen k,_,_+1,s,h=>oO ⟨s.nodes,s.cs,s.gen+1⟩ (h _)
 | .node r k,_,_,s,h=>oO (t:=k (aS s.nodes r)) s (h (aS s.nodes r))
 | .stuck,_,_,_,h=>h.elim
theorem qJ:∀{t:Tr} {n c:Nat} (s:Mm),bU t n c->(gX t s).2.nodes.length<=s.nodes.length+c/\(gX t s).2.cs.length<=s.cs.length+c
 | .done _,_,_,_,_=>⟨Nat.le_add_right _ _,Nat.le_add_right _ _⟩
 | .load _ _,_,_,_,_=>⟨Nat.le_add_right _ _,Nat.le_add_right _ _⟩
 | .jE _ _ _ _,_,_,_,_=>⟨Nat.le_add_right _ _,Nat.le_add_right _ _⟩
 | .alloc _ _ _,_,0,_,h=>h.elim
 | .alloc n i k,_,c+1,s,h=>by
  have h2:=qJ (s.push n i) (h ((s.nodes.length+1:Nat):Int))
  have hl:=jY (k:=n.kind) (cs:=s.cs) (init:=i)
  simp only[Mm.push,List.length_append,List.length_cons,List.length_nil] at h2
  show(gX (k _) (s.push n i)).2.nodes.length<=_/\(gX (k _) (s.push n i)).2.cs.length<=_
  simp only[Mm.push]
  omega
 | .cell _ _,_,0,_,h=>h.elim
 | .cell i k,_,c+1,s,h=>by
  have h2:=qJ ⟨s.nodes,s.cs++[i],s.gen⟩ (h ((s.cs.length+1:Nat):Int))
  simp only[List.length_append,List.length_cons,List.length_nil] at h2
  show(gX (k _) _).2.nodes.length<=_/\(gX (k _) _).2.cs.length<=_
  omega
 | .gen _,_,0,_,h=>h.elim
 | .gen k,_,c+1,s,h=>by
  have h2:=qJ ⟨s.nodes,s.cs,s.gen+1⟩ (h (s.gen+1))
  dsimp only at h2
  show(gX (k _) _).2.nodes.length<=_/\(gX (k _) _).2.cs.length<=_
  omega
 | .node r k,_,c,s,h=>qJ (t:=k (aS s.nodes r)) s (h (aS s.nodes r))
 | .stuck,_,_,_,h=>h.elim
theorem ey{t:Tr}{n c:Nat}(s:Mm)(ht:bU t (n+1) c)(ha:eE t=true)(c':Nat):bU (D3 (t,s)).1 n c':=by
 cases t with
 | done r=>trivial
 | load x k=>exact mC _ (ht _) c'
 | jE x o m k=>exact mC _ (ht _) c'
 | alloc n i k=>cases ha
 | cell i k=>cases ha
 | gen k=>cases ha
 | node r k=>cases ha
 | stuck=>cases ha
theorem cz{t:Tr}{n c:Nat}(s:Mm)(ht:bU t (n+1) c)(ha:eE t=true):eE (D3 (t,s)).1=true:=by
 cases t with
 | done r=>rfl
 | load x k=>exact oO _ (ht _)
 | jE x o m k=>exact oO _ (ht _)
 | alloc n i k=>cases ha
 | cell i k=>cases ha
 | gen k=>cases ha
 | node r k=>cases ha
 | stuck=>cases ha
theorem j1{t:Tr}{n c:Nat}(s:Mm)(ht:bU t (n+1) c)(ha:eE t=true):(D3 (t,s)).2.nodes.length<=s.nodes.length+64/\(D3 (t,s)).2.cs.length<=s.cs.length+64:=by
 cases t with
 | done r=>exact⟨Nat.le_add_right _ _,Nat.le_add_right _ _⟩
 | load x k=>exact qJ s (ht _)
 | jE x o m k =>
  have:=qJ ⟨s.nodes,dE s.cs x o m,s.gen⟩ (ht (Mb s.cs x o))
  simp only[fI] at this
  exact this
 | alloc n i k=>cases ha
 | cell i k=>cases ha
 | gen k=>cases ha
 | node r k=>cases ha
 | stuck=>cases ha
theorem Ax{t:Tr}{n:Nat}{s:Mm}(ht:bU t n 64)(ha:eE t=true):∀k,k<=n->bU (lG (t,s) k).1 (n-k) 64/\eE (lG (t,s) k).1=true/\(lG (t,s) k).2.nodes.length<=s.nodes.length+64*k/\(lG (t,s) k).2.cs.length<=s.cs.length+64*k
 | 0,_=>⟨ht,ha,Nat.le_refl _,Nat.le_refl _⟩
 | k+1,h=>by
  obtain⟨h1,h2,h3,h4⟩:=Ax ht ha k (by omega)
  rw[show n-k=n-(k+1)+1 by omega] at h1
  have h5:(D3 (lG (t,s) k)).2.nodes.length<=(lG (t,s) k).2.nodes.length+64/\(D3 (lG (t,s) k)).2.cs.length<=(lG (t,s) k).2.cs.length+64:=j1 (lG (t,s) k).2 h1 h2
  exact⟨ey _ h1 h2 64,cz _ h1 h2,by show(D3 (lG (t,s) k)).2.nodes.length<=_;omega,by show(D3 (lG (t,s) k)).2.cs.length<=_;omega⟩
def vB(p:Tr×Mm):Nat->Nat
 | 0=>0
 | k+1=>vB p k+if(lG p k).1.live=true then 1 else 0
theorem aq{p:Tr×Mm}(h:p.1.live=false):D3 p=p:=by
 obtain⟨t,s⟩:=p
 cases t<;>first|rfl|cases h
theorem Rb{p:Tr×Mm}{j:Nat}(h:(lG p j).1.live=false):∀k,lG p (j+k)=lG p j/\vB p (j+k)=vB p j
 | 0=>⟨rfl,rfl⟩
 | k+1=>by
  obtain⟨h1,h2⟩:=Rb h k
  refine⟨?_,?_⟩
  ·show D3 (lG p (j+k))=_
   rw[h1,aq h]
  ·show vB p (j+k)+(if(lG p (j+k)).1.live=true then 1 else 0)=_
   rw[h1,h2,h]
   rfl
theorem Jn{p:Tr×Mm}{j k:Nat}(h:(lG p j).1.live=false)(hk:j<=k):lG p k=lG p j/\vB p k=vB p j:=by
 have:=Rb h (k-j)
 rwa [show j+(k-j)=k by omega] at this
structure zl(b:Nat)(p:Tr×Mm)(a:AS)(B:Fr)(y:Cd×Fr×AS):Prop where
 rp:lW b p.1 p.2 y.1 p.2 (y.2.1++B)
 mm:y.2.2.mm=p.2
 ok:y.2.2.Ok
 gr:a.jZ y.2.2 y.2.1
theorem zl.of{b:Nat}{p:Tr×Mm}{a:AS}{B:Fr}{y:Cd×Fr×AS}(h:tY b p a B y):zl b p a B y:=⟨h.1.1,h.1.2,h.2.1,h.2.2⟩
theorem mj{b:Nat}{t:Tr}{s:Mm}{c:Cd}{B:Fr}(h:lW b t s c s B)(ha:eE t=true):(c.a.k≠0↔t.live=true):=by
 have:=(h.kind ha).1
 cases hl:t.live with
 | false=>rw[hl] at this;exact⟨λ hn=>absurd (this.2 rfl) hn,λ h=>nomatch h⟩
 | true=>rw[hl] at this;exact⟨λ _=>rfl,λ _ e=>nomatch this.1 e⟩
section
variable{D:List Nat}{A B:Fr}{a:AS}{b bt n:Nat}{w:World}{c:Cd}{t:Tr}
theorem Pv{most m:Nat}(ht:bU t m 64)(hmm:most<=m)(ha:eE t=true)(hr:lW b t a.mm c a.mm B)(ok:a.Ok)(hm:a.mm.nodes.length+64*most<=137438953472/\a.mm.cs.length+64*most<=137438953472)(hn:n+most<1000000000)(hA:∀f∈aM a.L,f∈A)(hB:∀x∈B,x∈A)(hs:SF w D [(bt,tO b c n),(b,gH a)] A [] (gK a) w) :
    Calls Tryz.prog 30 #[.pointer (some ⟨bt,0,none⟩),.int .i64 ((most:Nat):Int)] w λ e w'=>∃y:Cd×Fr×AS,e=.returned (.int .i64 ((vB (t,a.mm) most:Nat):Int))/\zl b (lG (t,a.mm) most) a B y/\SF w D [(bt,tO b y.1 (n+vB (t,a.mm) most)),(b,gH y.2.2)] [] y.2.1 (gK y.2.2) w':=by
  have hall:=λ k hk=>Ax (s:=a.mm) ht ha k hk
  refine enter Tryz.func30 Tryz.ntmps30 rfl rfl hs ?_
  simp only[cC]
  refine cX ?_;refine cX ?_;refine Cw ?_
  refine nT [5,6,7,8,9,10,11,12,13,14,15,16,17,18,19,20,21,22,23,24] (λ y:Nat×Cd×Fr×AS=>[(5,.int .i64 ((y.1:Nat):Int))]) (λ y=>y.1<=most/\zl b (lG (t,a.mm) y.1) a B y.2/\vB (t,a.mm) y.1=y.1) (λ y=>[(bt,tO b y.2.1 (n+y.1)),(b,gH y.2.2.2)]) (λ y=>y.2.2.1) (λ y=>gK y.2.2.2) (λ y=>most-y.1) ((0,c,[],a)) (⟨Nat.zero_le _,⟨hr,rfl,ok,AS.jZ.refl a⟩,rfl⟩) (λ y f hx=>?_) (hw0:=λ w hw=>hw)
  dsimp only[hY,List.map,List.cons_append,List.nil_append]
  obtain⟨h1,h2,h3,h4⟩:=hall y.1 (by omega)
  have hrp:lW b (lG (t,a.mm) y.1).1 y.2.2.2.mm y.2.1 y.2.2.2.mm (y.2.2.1++B):=by rw[hx.2.1.mm];exact hx.2.1.rp
  have hsm:y.2.2.2.mm.Small:=by rw[hx.2.1.mm];exact⟨by omega,by omega⟩
  have hli:=mj hx.2.1.rp h2
  refine C6 ?_;refine Cv ?_
  (refine eJ 9 (λ g9=>?_) (λ g9=>?_)<;>refine Ka0 ?_)
  all_goals ((first|refine aI ?_|(refine aE ?_;refine aQ (cV (hc:=λ w1 hw=>Aw (hw.st.at dC))) (λ x11=>?_)));refine Rq ?_;refine aA ?_)
  all_goals (first|refine aI ?_|(refine eJ 14 (λ g14=>?_) (λ g14=>?_)<;>refine Ka0 ?_))
  all_goals (refine Kb4 ?_;refine J6 ?_;refine Kc6 ?_)
  all_goals
   refine bC (λ c20=>?_) (λ c20=>?_)
   · try exact nv c20
     all_goals (refine aZ ?_;refine cS ?_;refine J2 ?_;refine aD (cM (V:=λ _:Cd×Fr×AS=>.tuple #[]) (hs:=[(bt,tO b y.2.1 (n+y.1)),(b,gH y.2.2.2)]) (os:=gK y.2.2.2) (Fc:=λ z=>z.2.1) (A0:=aM y.2.2.2.L++(y.2.2.1++B)) (hs':=λ z=>[(bt,tO b z.1 (n+y.1+1)),(b,gH z.2.2)]) (os':=λ z=>gK z.2.2) (hA:=bG.of λ f hf=>(List.mem_append.1 hf).elim (λ h1=>(hx.2.1.gr.fam f h1).elim .inl λ h2=>h2.elim (λ h3=>.inr (.inl (hA f h3))) λ h3=>.inr (.inr (.inl h3))) λ h1=>(List.mem_append.1 h1).elim (λ h2=>.inr (.inr (.inl h2))) λ h2=>.inr (.inl (hB f h2))) (hc:=λ w hw=>Y8 (i:=m-(y.1+1)) (m:=64) (by rw[show m-(y.1+1)+1=m-y.1 by omega];exact h1) h2 (hli.1 g14) hrp hx.2.1.ok hsm (by omega) (λ f hf=>List.mem_append_left _ hf) (λ f hf=>List.mem_append_right _ hf) hw)) (λ x22 h22=>?_);refine aH ?_;refine wN ?_;refine fK ?_)
     all_goals
      refine iS ((y.1+1,x22.1,x22.2.1++y.2.2.1,x22.2.2)) ?_ (hw1:=λ w hw=>hw)
      · have e1:lG (t,a.mm) (y.1+1)=D3 ((lG (t,a.mm) y.1).1,y.2.2.2.mm):=by rw[hx.2.1.mm];rfl
        have h5:=zl.of h22.1
        have hlv:=hli.1 g14
        refine⟨by show y.1+1<=most;omega,⟨?_,?_,h5.ok,hx.2.1.gr.trans h5.gr⟩,?_⟩
        · rw[e1]
          show lW b _ _ _ _ (x22.2.1++y.2.2.1++B)
          rw[List.append_assoc]
          exact h5.rp
        · rw[e1];exact h5.mm
        · show vB (t,a.mm) y.1+_=y.1+1
          rw[hlv,hx.2.2]
          rfl
   · try exact nv c20
     all_goals (refine bP rfl ?_;refine Ka4 ?_)
     all_goals
      refine aR Tryz.results30 (λ w hw=>?_)
      have e:lG (t,a.mm) most=lG (t,a.mm) y.1/\vB (t,a.mm) most=y.1:=by
       first
        | (have h:=Jn (Bool.eq_false_iff.2 λ h=>hli.2 h g14) hx.1;exact⟨h.1,h.2.trans hx.2.2⟩)
        | (have em:most=y.1:=(by have:=hx.1;omega);rw[em];exact⟨rfl,hx.2.2⟩)
      rw[e.1,e.2]
      exact⟨y.2,rfl,hx.2.1,hw.ret (List.Sublist.refl _) (aY.jH λ f hf=>hf) (List.Sublist.refl _)⟩
end
end
end Go.Proofs.YtbajmaoegmbfgaaGreat
namespace Go.Ct
open Go Go.RowKit
section
section
variable{α:Type}
end
end
end Go.Ct
namespace Go.Proofs.YtbajmaoegmbfgaaGreat
open Go Go.RowKit Go.Ct
section
structure PX where
 e:EX
 m:Nat
 tb:Nat
 c:Cd
 n:Nat
structure LS where
 a:AS
 z:XS
 l:List PX
 B:Fr
section
variable{ba bm:Nat}
end
section
variable{ba bm Bz C:Nat}{D:List Nat}{A:Fr}{w:World}{a:AS}{z:XS}{l1 l2:List PX}{p:PX}{B:Fr}
end
end
end Go.Proofs.YtbajmaoegmbfgaaGreat
namespace Go.Ct
open Go Go.RowKit
section
section
variable{P:Program}{w:World}
variable{S:List (Nat×Value)}{G:World->Prop}{d:Nat}{ty t t':TypeId}{pos:String}{af:Array Edge}{gd:Option (Nat×Bool)}{x y:Operand}
instance:DecidableEq Ac:=λ a b=>if h:a.k=b.k/\a.c=b.c/\a.o=b.o/\a.n=b.n then isTrue (by cases a;cases b;simp_all) else isFalse (λ e=>h (by subst e;exact⟨rfl,rfl,rfl,rfl⟩))
instance:DecidableEq Rs:=λ a b=>if h:a.err=b.err/\a.found=b.found/\a.val=b.val/\a.key=b.key/\a.gA=b.gA/\a.ref=b.ref/\a.root=b.root/\a.ro=b.ro then isTrue (by cases a;cases b;simp_all) else isFalse (λ e=>h (by subst e;exact⟨rfl,rfl,rfl,rfl,rfl,rfl,rfl,rfl⟩))
end
end
end Go.Ct
namespace Go.Proofs.YtbajmaoegmbfgaaGreat
open Go Go.RowKit Go.Ct
section
end
section
section
variable{k:Cl}{ba bx bm tb n:Nat}{x:XS}{c:Cd}{rs:Rs}{D:List Nat}{A:Fr}{w:World}
theorem jd{bt:Nat}{d:Bool}(hd:(c.a.k==0)=d)(h:w.heap[bt]?=some (tO ba c n)):Calls Tryz.prog 33 #[.pointer (some ⟨bt,0,none⟩)] w λ e w'=>e=.returned (.bool d)/\St w [] [] w':=by
 subst hd
 exact Aw h
theorem H5{bt:Nat}{d:Bool}{r:Rs}(hd:(c.a.k==0)=d)(ha:(if d=true then c.r else Rs.zero)=r)(h:w.heap[bt]?=some (tO ba c n)):Calls Tryz.prog 34 #[.pointer (some ⟨bt,0,none⟩)] w λ e w'=>e=.returned (.agg ⟨r.cells⟩)/\St w [] [] w':=by
 subst hd ha
 have:=To h
 simp only[beq_iff_eq] at this ⊢
 exact this
end
end
section
section
variable{ba bm Bz C:Nat}{D:List Nat}{A:Fr}{w:World}{S:LS}
end
section
variable{ba bm Bz C tp:Nat}{D:List Nat}{w:World}{S:LS}{l:List Int}{a pa:Option Addr}{c pc pos:Nat}
end
end
section
section
variable{ba bm Bz C:Nat}{D:List Nat}{A:Fr}{w:World}{S:LS}{ps:List (Nat×Nat)}
end
end
end Go.Proofs.YtbajmaoegmbfgaaGreat
namespace Go.Ct
open Go Go.RowKit
section
abbrev bx(b:Nat)(cs:List Value):Option Addr×List Value:=(some ⟨b,0,none⟩,cs)
abbrev pt(b:Nat):Value:=.pointer (some ⟨b,0,none⟩)
abbrev fn(f:FuncId)(cap:List Value):Value:=.func (.func f) #[] ⟨cap⟩
abbrev iv(n:Int):Value:=.int .i64 n
theorem Xh{α:Type}{l l' xs:List α}{is:List Nat}(h:lY l is xs l':=by(repeat (first|exact lY.nil|(apply lY.cons;(focus ((repeat (first|exact yV.head|apply yV.tail));done));simp only[qU])));first|done|fail):lY l is xs l':=h
theorem evD{S:List (Nat×Value)}{xs:List Operand}{vs:List Value}(h:qX S xs=vs:=by(repeat (first|exact dI _|(apply cL;focus ((conv=>{lhs;whnf});try exact rfl))));first|done|fail):qX S xs=vs:=h
section
variable{w0 w:World}{M:List Nat}{H H':List (Nat×Obj)}{A F:Fr}{O O':List Ow}
theorem SF.rI(h:SF w0 M H A F O w)(hH:H'.Sublist H:=by repeat (first|exact List.Sublist.refl _|apply List.Sublist.cons))(hO:O'.Sublist O:=by repeat (first|exact List.Sublist.refl _|apply List.Sublist.cons)):SF w0 M H' [] F O' w:=h.ret hH aY.all hO
theorem SF.rN(h:SF w0 M H A (F++[]) O w)(hH:H'.Sublist H:=by repeat (first|exact List.Sublist.refl _|apply List.Sublist.cons))(hO:O'.Sublist O:=by repeat (first|exact List.Sublist.refl _|apply List.Sublist.cons)):SF w0 M H' [] F O' w:=h.ret hH (aY.jH λ f hf=>by simpa using hf) hO
variable{P:Program}{S:List (Nat×Value)}{d:Nat}{ty t:TypeId}{pos:String}{af:Array Edge}{gd:Option (Nat×Bool)}{x:Operand}{v:Value}{vs:List Value}{B:Fr}
theorem rW(b:Nat)(cs:List Value)(q:Nat)(hB:∀x∈B,x∈A)(hq:cs[q]?=some v)(hx:ev S x=.pointer (some ⟨b,q,none⟩):=by exact rfl)(ht:one P t=true:=by first|exact M1 rfl|kernel_rfl)(hm:bx b cs∈B:=by simp):aL P S (SF w0 M H A F O) ⟨some d,.load t x,ty,pos,af,gd⟩ v :=
 dp (a:=some ⟨b,0,none⟩) (q:=q) (hx.trans (by simp[cN,eD])) ht (.bJ (Ad.rM (hB _ hm))) hq
theorem o0(b:Nat)(cs:List Value)(q k:Nat)(hB:∀x∈B,x∈A)(hv:(cs.drop q).take k=vs)(hl:vs.length=k)(hx:ev S x=.pointer (some ⟨b,q,none⟩):=by exact rfl)(ht:jU P t k=true:=by exact eT)(hm:bx b cs∈B:=by simp):aL P S (SF w0 M H A F O) ⟨some d,.load t x,ty,pos,af,gd⟩ (.agg ⟨vs⟩) :=
 P1 (a:=some ⟨b,0,none⟩) (q:=q) (hx.trans (by simp[cN,eD])) ht (.bJ (Ad.rM (hB _ hm))) hv hl
end
end
end Go.Ct
namespace Go.Proofs.YtbajmaoegmbfgaaGreat
open Go.Proofs.Tryz (prog)
open Go Go.RowKit Go.Ct
section
abbrev zM(b:Nat)(f:FuncId)(cap arg:List Value)(B:Fr)(s:Mm)(T:Tr):Prop:=A6 b f cap arg B s λ c' s' B'=>lW b T s c' s' B'
theorem A6.mr{b:Nat}{f:FuncId}{cap arg:List Value}{B B2:Fr}{s:Mm}{T:Tr}(h:zM b f cap arg B s T)(hb:∀x∈B,x∈B2):zM b f cap arg B2 s T:=h.more hb λ _ _ _ _ hC h=>h.more hC
section
variable{S:List (Nat×Value)}{w0 w:World}{M:List Nat}{H H':List (Nat×Obj)}{A A0 F B:Fr}{O O':List Ow}{ty:TypeId}{pos:String}{af:Array Edge}{gd:Option (Nat×Bool)}{b:Nat}{a:AS}{R:Cd->Mm->Fr->Prop}{is js:List Nat}{f:FuncId}{xs:List Operand}{at_:Array TypeId}{vs cap:List Value}{dst:Option Nat}{x:Operand}{H1:Cd×Fr×AS->List (Nat×Obj)}{F1:Cd×Fr×AS->Fr}{O1:Cd×Fr×AS->List Ow}
theorem Ri(hc:∀w,SF w (Ks [(b,gH a)] (gK a)) [(b,gH a)] A0 [] (gK a) w->Calls prog f ⟨vs⟩ w (Gy b R a B (Ks [(b,gH a)] (gK a)) w))
  (ha:qX S xs=vs:=by exact evD) (hp:plain prog f=true:=by kernel_rfl) (hH:lY H is [(b,gH a)] H':=by exact Xh) (hO:lY O js (gK a) O':=by exact Xh) (hA:bG A F O' A0:=by exact bG.of (λ _ h=>Or.inr (Or.inl h)))
  (hl1:is.length=1:=by exact rfl) (hl2:js.length=2:=by exact rfl)
  (hH1:∀y,iT is [(b,gH y.2.2)] H'=H1 y:=by intro x;simp only[iT,rS];exact rfl) (hF1:∀y,y.2.1++F=F1 y:=by intro x;exact rfl) (hO1:∀y,iT js (gK y.2.2) O'=O1 y:=by intro x;simp only[iT,rS,mW];exact rfl) :
  bF prog S (SF w0 M H A F O) ⟨dst,.call {callee:=.value (.func f),args:=⟨xs⟩,argTypes:=at_},ty,pos,af,gd⟩ (Cd×Fr×AS) (λ y=>.agg ⟨y.1.cells⟩) (λ y w=>(R y.1 y.2.2.mm (y.2.1++B)/\y.2.2.Ok/\a.jZ y.2.2 y.2.1)/\SF w0 M (H1 y) A (F1 y) (O1 y) w) :=
 cM (hs:=[(b,gH a)]) (os:=gK a) (hs':=λ y:Cd×Fr×AS=>[(b,gH y.2.2)]) (os':=λ y=>gK y.2.2) (Fc:=λ y=>y.2.1) ha hp hc hH hO hA (λ _=>hl1) (λ _=>hl2) hH1 hF1 hO1
theorem Sq(hp:plain prog f=true)(hk:A6 b f cap vs B a.mm R)(ok:a.Ok)(hm:a.mm.Small)(hA0:∀f∈aM a.L,f∈A)(hB:∀x∈B,x∈A)(hx:ev S x=.func (.func f) #[] ⟨cap⟩:=by exact rfl)
  (ha:qX S xs=vs:=by exact evD) (hH:lY H is [(b,gH a)] H':=by exact Xh) (hO:lY O js (gK a) O':=by exact Xh)
  (hl1:is.length=1:=by exact rfl) (hl2:js.length=2:=by exact rfl)
  (hH1:∀y,iT is [(b,gH y.2.2)] H'=H1 y:=by intro x;simp only[iT,rS];exact rfl) (hF1:∀y,y.2.1++F=F1 y:=by intro x;exact rfl) (hO1:∀y,iT js (gK y.2.2) O'=O1 y:=by intro x;simp only[iT,rS,mW];exact rfl) :
  bF prog S (SF w0 M H A F O) ⟨dst,.call {callee:=.value x,args:=⟨xs⟩,argTypes:=at_},ty,pos,af,gd⟩ (Cd×Fr×AS) (λ y=>.agg ⟨y.1.cells⟩) (λ y w=>(R y.1 y.2.2.mm (y.2.1++B)/\y.2.2.Ok/\a.jZ y.2.2 y.2.1)/\SF w0 M (H1 y) A (F1 y) (O1 y) w) :=
 cMf (V:=λ y:Cd×Fr×AS=>.agg ⟨y.1.cells⟩) (hs:=[(b,gH a)]) (os:=gK a) (hs':=λ y:Cd×Fr×AS=>[(b,gH y.2.2)]) (os':=λ y=>gK y.2.2) (Fc:=λ y=>y.2.1) (A0:=A) hx ha hp (λ w hw=>hk a _ A w rfl ok hm hA0 hB hw) hH hO (bG.of λ _ h=>.inr (.inl h)) (λ _=>hl1) (λ _=>hl2) hH1 hF1 hO1
end
end
end Go.Proofs.YtbajmaoegmbfgaaGreat

/- Tasks on an arena: runs. -/
import Derived.Test.YtbajmaoegmbfgaaGreatGTp2
import Derived.Test.YtbajmaoegmbfgaaGreatGTr3
import Derived.Test.YtbajmaoegmbfgaaGreatGNode3
import Derived.Test.YtbajmaoegmbfgaaGreatGAr8

set_option linter.unusedSimpArgs false
set_option linter.unusedVariables false
namespace Go.Proofs.YtbajmaoegmbfgaaGreat
section
open Go Go.RowKit Go.Ct
theorem nR:∀{t:Tr} {n c:Nat} (s:Mm),bQ t n c->∀c',bQ (iU t s).1 n c'
 | .done _,_,_,_,_,_=>trivial
 | .load _ _,0,_,_,_,_=>trivial
 | .load _ _,_+1,_,_,h,_=>h
 | .kI _ _ _ _,0,_,_,_,_=>trivial
 | .kI _ _ _ _,_+1,_,_,h,_=>h
 | .alloc _ _ _,_,0,_,h,_=>h.elim
 | .alloc n i k,_,_+1,s,h,c'=>nR (s.push n i) (h _) c'
 | .cell _ _,_,0,_,h,_=>h.elim
 | .cell i k,_,_+1,s,h,c'=>nR ⟨s.nodes,s.cs++[i],s.gen⟩ (h _) c'
 | .gen _,_,0,_,h,_=>h.elim
 | .gen k,_,_+1,s,h,c'=>nR ⟨s.nodes,s.cs,s.gen+1⟩ (h _) c'
 | .node r k,_,_,s,h,c'=>nR (t:=k (dY s.nodes r)) s (h (dY s.nodes r)) c'
 | .stuck,_,_,_,h,_=>h.elim
theorem nJ:∀{t:Tr} {n c:Nat} (s:Mm),bQ t n c->eE (iU t s).1=true
 | .done _,_,_,_,_=>rfl
 | .load _ _,_,_,_,_=>rfl
 | .kI _ _ _ _,_,_,_,_=>rfl
 | .alloc _ _ _,_,0,_,h=>h.elim
 | .alloc n i k,_,_+1,s,h=>nJ (s.push n i) (h _)
 | .cell _ _,_,0,_,h=>h.elim
 | .cell i k,_,_+1,s,h=>nJ ⟨s.nodes,s.cs++[i],s.gen⟩ (h _)
 | .gen _,_,0,_,h=>h.elim
 | .gen k,_,_+1,s,h=>nJ ⟨s.nodes,s.cs,s.gen+1⟩ (h _)
 | .node r k,_,_,s,h=>nJ (t:=k (dY s.nodes r)) s (h (dY s.nodes r))
 | .stuck,_,_,_,h=>h.elim
theorem rH:∀{t:Tr} {n c:Nat} (s:Mm),bQ t n c->(iU t s).2.nodes.length<=s.nodes.length+c/\(iU t s).2.cs.length<=s.cs.length+c
 | .done _,_,_,_,_=>⟨Nat.le_add_right _ _,Nat.le_add_right _ _⟩
 | .load _ _,_,_,_,_=>⟨Nat.le_add_right _ _,Nat.le_add_right _ _⟩
 | .kI _ _ _ _,_,_,_,_=>⟨Nat.le_add_right _ _,Nat.le_add_right _ _⟩
 | .alloc _ _ _,_,0,_,h=>h.elim
 | .alloc n i k,_,c+1,s,h=>by
  have h2:=rH (s.push n i) (h ((s.nodes.length+1:Nat):Int))
  have hl:=gX (k:=n.kind) (cs:=s.cs) (init:=i)
  simp only[Mm.push,List.length_append,List.length_cons,List.length_nil] at h2
  show(iU (k _) (s.push n i)).2.nodes.length<=_/\(iU (k _) (s.push n i)).2.cs.length<=_
  simp only[Mm.push]
  omega
 | .cell _ _,_,0,_,h=>h.elim
 | .cell i k,_,c+1,s,h=>by
  have h2:=rH ⟨s.nodes,s.cs++[i],s.gen⟩ (h ((s.cs.length+1:Nat):Int))
  simp only[List.length_append,List.length_cons,List.length_nil] at h2
  show(iU (k _) _).2.nodes.length<=_/\(iU (k _) _).2.cs.length<=_
  omega
 | .gen _,_,0,_,h=>h.elim
 | .gen k,_,c+1,s,h=>by
  have h2:=rH ⟨s.nodes,s.cs,s.gen+1⟩ (h (s.gen+1))
  dsimp only at h2
  show(iU (k _) _).2.nodes.length<=_/\(iU (k _) _).2.cs.length<=_
  omega
 | .node r k,_,c,s,h=>rH (t:=k (dY s.nodes r)) s (h (dY s.nodes r))
 | .stuck,_,_,_,h=>h.elim
theorem j4{t:Tr}{n c:Nat}(s:Mm)(ht:bQ t (n+1) c)(ha:eE t=true)(c':Nat):bQ (Bf (t,s)).1 n c':=by
 cases t with
 | done r=>trivial
 | load x k=>exact nR _ (ht _) c'
 | kI x o m k=>exact nR _ (ht _) c'
 | alloc n i k=>cases ha
 | cell i k=>cases ha
 | gen k=>cases ha
 | node r k=>cases ha
 | stuck=>cases ha
theorem bs{t:Tr}{n c:Nat}(s:Mm)(ht:bQ t (n+1) c)(ha:eE t=true):eE (Bf (t,s)).1=true:=by
 cases t with
 | done r=>rfl
 | load x k=>exact nJ _ (ht _)
 | kI x o m k=>exact nJ _ (ht _)
 | alloc n i k=>cases ha
 | cell i k=>cases ha
 | gen k=>cases ha
 | node r k=>cases ha
 | stuck=>cases ha
theorem Y6{t:Tr}{n c:Nat}(s:Mm)(ht:bQ t (n+1) c)(ha:eE t=true):(Bf (t,s)).2.nodes.length<=s.nodes.length+64/\(Bf (t,s)).2.cs.length<=s.cs.length+64:=by
 cases t with
 | done r=>exact⟨Nat.le_add_right _ _,Nat.le_add_right _ _⟩
 | load x k=>exact rH s (ht _)
 | kI x o m k =>
  have:=rH ⟨s.nodes,eO s.cs x o m,s.gen⟩ (ht (k9 s.cs x o))
  simp only[hJ] at this
  exact this
 | alloc n i k=>cases ha
 | cell i k=>cases ha
 | gen k=>cases ha
 | node r k=>cases ha
 | stuck=>cases ha
theorem F8{t:Tr}{n:Nat}{s:Mm}(ht:bQ t n 64)(ha:eE t=true):∀k,k<=n->bQ (xB (t,s) k).1 (n-k) 64/\eE (xB (t,s) k).1=true/\(xB (t,s) k).2.nodes.length<=s.nodes.length+64*k/\(xB (t,s) k).2.cs.length<=s.cs.length+64*k
 | 0,_=>⟨ht,ha,Nat.le_refl _,Nat.le_refl _⟩
 | k+1,h=>by
  obtain⟨h1,h2,h3,h4⟩:=F8 ht ha k (by omega)
  rw[show n-k=n-(k+1)+1 by omega] at h1
  have h5:(Bf (xB (t,s) k)).2.nodes.length<=(xB (t,s) k).2.nodes.length+64/\(Bf (xB (t,s) k)).2.cs.length<=(xB (t,s) k).2.cs.length+64:=Y6 (xB (t,s) k).2 h1 h2
  exact⟨j4 _ h1 h2 64,bs _ h1 h2,by show(Bf (xB (t,s) k)).2.nodes.length<=_;omega,by show(Bf (xB (t,s) k)).2.cs.length<=_;omega⟩
def Am(p:Tr×Mm):Nat->Nat
 | 0=>0
 | k+1=>Am p k+if(xB p k).1.live=true then 1 else 0
theorem Zv{p:Tr×Mm}(h:p.1.live=false):Bf p=p:=by
 obtain⟨t,s⟩:=p
 cases t<;>first|rfl|cases h
theorem No{p:Tr×Mm}{j:Nat}(h:(xB p j).1.live=false):∀k,xB p (j+k)=xB p j/\Am p (j+k)=Am p j
 | 0=>⟨rfl,rfl⟩
 | k+1=>by
  obtain⟨h1,h2⟩:=No h k
  refine⟨?_,?_⟩
  ·show Bf (xB p (j+k))=_
   rw[h1,Zv h]
  ·show Am p (j+k)+(if(xB p (j+k)).1.live=true then 1 else 0)=_
   rw[h1,h2,h]
   rfl
theorem Xe{p:Tr×Mm}{j k:Nat}(h:(xB p j).1.live=false)(hk:j<=k):xB p k=xB p j/\Am p k=Am p j:=by
 have:=No h (k-j)
 rwa [show j+(k-j)=k by omega] at this
structure zj(b:Nat)(p:Tr×Mm)(a:AS)(B:Fr)(y:Cd×Fr×AS):Prop where
 rp:kE b p.1 p.2 y.1 p.2 (y.2.1++B)
 mm:y.2.2.mm=p.2
 ok:y.2.2.Ok
 gr:a.iD y.2.2 y.2.1
theorem zj.of{b:Nat}{p:Tr×Mm}{a:AS}{B:Fr}{y:Cd×Fr×AS}(h:mH b p a B y):zj b p a B y:=⟨h.1.1,h.1.2,h.2.1,h.2.2⟩
theorem ji{b:Nat}{t:Tr}{s:Mm}{c:Cd}{B:Fr}(h:kE b t s c s B)(ha:eE t=true):(c.a.k≠0↔t.live=true):=by
 have:=(h.kind ha).1
 cases hl:t.live with
 | false=>rw[hl] at this;exact⟨λ hn=>absurd (this.2 rfl) hn,λ h=>nomatch h⟩
 | true=>rw[hl] at this;exact⟨λ _=>rfl,λ _ e=>nomatch this.1 e⟩
section
variable{D:List Nat}{A B:Fr}{a:AS}{b bt n:Nat}{w:World}{c:Cd}{t:Tr}
theorem jb{most m:Nat}(ht:bQ t m 64)(hmm:most<=m)(ha:eE t=true)(hr:kE b t a.mm c a.mm B)(ok:a.Ok)(hm:a.mm.nodes.length+64*most<=137438953472/\a.mm.cs.length+64*most<=137438953472)(hn:n+most<1000000000)(hA:∀f∈aK a.L,f∈A)(hB:∀x∈B,x∈A)(hs:SF w D [(bt,tO b c n),(b,dS a)] A [] (dZ a) w) :
    Calls Tryz.prog 30 #[.pointer (some ⟨bt,0,none⟩),.int .i64 ((most:Nat):Int)] w λ e w'=>∃y:Cd×Fr×AS,e=.returned (.int .i64 ((Am (t,a.mm) most:Nat):Int))/\zj b (xB (t,a.mm) most) a B y/\SF w D [(bt,tO b y.1 (n+Am (t,a.mm) most)),(b,dS y.2.2)] [] y.2.1 (dZ y.2.2) w':=by
  have hall:=λ k hk=>F8 (s:=a.mm) ht ha k hk
  refine enter Tryz.func30 Tryz.ntmps30 rfl rfl hs ?_
  simp only[bX]
  refine cR ?_;refine cR ?_;refine Cp ?_
  refine oD [5,6,7,8,9,10,11,12,13,14,15,16,17,18,19,20,21,22,23,24] (λ y:Nat×Cd×Fr×AS=>[(5,.int .i64 ((y.1:Nat):Int))]) (λ y=>y.1<=most/\zj b (xB (t,a.mm) y.1) a B y.2/\Am (t,a.mm) y.1=y.1) (λ y=>[(bt,tO b y.2.1 (n+y.1)),(b,dS y.2.2.2)]) (λ y=>y.2.2.1) (λ y=>dZ y.2.2.2) (λ y=>most-y.1) ((0,c,[],a)) (⟨Nat.zero_le _,⟨hr,rfl,ok,AS.iD.refl a⟩,rfl⟩) (λ y f hx=>?_) (hw0:=λ w hw=>hw)
  dsimp only[gP,List.map,List.cons_append,List.nil_append]
  obtain⟨h1,h2,h3,h4⟩:=hall y.1 (by omega)
  have hrp:kE b (xB (t,a.mm) y.1).1 y.2.2.2.mm y.2.1 y.2.2.2.mm (y.2.2.1++B):=by rw[hx.2.1.mm];exact hx.2.1.rp
  have hsm:y.2.2.2.mm.Small:=by rw[hx.2.1.mm];exact⟨by omega,by omega⟩
  have hli:=ji hx.2.1.rp h2
  refine C6 ?_;refine Ce ?_
  (refine eI 9 (λ g9=>?_) (λ g9=>?_)<;>(first|refine aJ ?_|(refine aF ?_;refine aA ?_)))
  all_goals ((first|refine aJ ?_|(refine aF ?_;refine aP (cV (hc:=λ w1 hw=>vV (hw.st.at cN))) (λ x11=>?_)));refine M0 ?_;refine aA ?_)
  all_goals (first|refine aJ ?_|(refine eI 14 (λ g14=>?_) (λ g14=>?_)<;>(first|refine aJ ?_|(refine aF ?_;refine aA ?_))))
  all_goals ((first|refine aJ ?_|(refine aF ?_;refine dD ?_));refine J6 ?_;refine M0 ?_;refine aG ?_)
  all_goals
   refine bC (λ c20=>?_) (λ c20=>?_)
   · try exact nv c20
     all_goals (refine aX ?_;refine cZ ?_;refine J2 ?_;refine aC (cM (V:=λ _:Cd×Fr×AS=>.tuple #[]) (hs:=[(bt,tO b y.2.1 (n+y.1)),(b,dS y.2.2.2)]) (os:=dZ y.2.2.2) (Fc:=λ z=>z.2.1) (A0:=aK y.2.2.2.L++(y.2.2.1++B)) (hs':=λ z=>[(bt,tO b z.1 (n+y.1+1)),(b,dS z.2.2)]) (os':=λ z=>dZ z.2.2) (hA:=aW.of λ f hf=>(List.mem_append.1 hf).elim (λ h1=>(hx.2.1.gr.fam f h1).elim .inl λ h2=>h2.elim (λ h3=>.inr (.inl (hA f h3))) λ h3=>.inr (.inr (.inl h3))) λ h1=>(List.mem_append.1 h1).elim (λ h2=>.inr (.inr (.inl h2))) λ h2=>.inr (.inl (hB f h2))) (hc:=λ w hw=>I9 (i:=m-(y.1+1)) (m:=64) (by rw[show m-(y.1+1)+1=m-y.1 by omega];exact h1) h2 (hli.1 g14) hrp hx.2.1.ok hsm (by omega) (λ f hf=>List.mem_append_left _ hf) (λ f hf=>List.mem_append_right _ hf) hw)) (λ x22 h22=>?_);refine aG ?_;refine xV ?_;refine fC ?_)
     all_goals
      refine iQ ((y.1+1,x22.1,x22.2.1++y.2.2.1,x22.2.2)) ?_ (hw1:=λ w hw=>hw)
      · have e1:xB (t,a.mm) (y.1+1)=Bf ((xB (t,a.mm) y.1).1,y.2.2.2.mm):=by rw[hx.2.1.mm];rfl
        have h5:=zj.of h22.1
        have hlv:=hli.1 g14
        refine⟨by show y.1+1<=most;omega,⟨?_,?_,h5.ok,hx.2.1.gr.trans h5.gr⟩,?_⟩
        · rw[e1]
          show kE b _ _ _ _ (x22.2.1++y.2.2.1++B)
          rw[List.append_assoc]
          exact h5.rp
        · rw[e1];exact h5.mm
        · show Am (t,a.mm) y.1+_=y.1+1
          rw[hlv,hx.2.2]
          rfl
   · try exact nv c20
     all_goals (refine bO rfl ?_;refine J2 ?_;refine J1 ?_)
     all_goals
      refine aR Tryz.results30 (λ w hw=>?_)
      have e:xB (t,a.mm) most=xB (t,a.mm) y.1/\Am (t,a.mm) most=y.1:=by
       first
        | (have h:=Xe (Bool.eq_false_iff.2 λ h=>hli.2 h g14) hx.1;exact⟨h.1,h.2.trans hx.2.2⟩)
        | (have em:most=y.1:=(by have:=hx.1;omega);rw[em];exact⟨rfl,hx.2.2⟩)
      rw[e.1,e.2]
      exact⟨y.2,rfl,hx.2.1,hw.ret (List.Sublist.refl _) (aY.iB λ f hf=>hf) (List.Sublist.refl _)⟩
end
end

/- An execution of the reference: its block, its own lists; the rules for calls of its methods. -/
section
open Go Go.RowKit Go.Ct
def xoC(k:Cl)(bm:Nat)(x:XS)(dn:Bool)(rs:Rs):List Value:=[.pointer (some ⟨bm,0,none⟩),
 .int .i64 k.kind,.int .i64 k.t.root,.bool k.t.ro,.int .i64 k.a,.int .i64 k.b,.int .i64 k.n,.int .i64 k.index,.int .u64 k.hash,.int .u64 k.mask,.string k.key,.int .u64 k.val,.int .u64 k.exp,.int .i64 k.Ir,.bool k.only,
 .bool false,.slice none 0 0,.slice none 0 0,.int .i64 0,.bool false,.int .u64 0,.string ⟨#[]⟩,.int .i64 0,.int .i64 0,.int .i64 0,.bool false,
 .slice x.pg x.got.length x.kg,.slice x.pm x.made.length x.km,.slice x.pl x.cel.length x.kl,.slice x.pe x.gns.length x.ke,
 .int .i64 ((x.a:Nat):Int),.int .i64 ((x.m:Nat):Int),.int .i64 ((x.c:Nat):Int),.int .i64 ((x.g:Nat):Int),.int .i64 ((x.fr:Nat):Int),.bool x.st,
 .int .i64 x.nx.k,.int .i64 x.nx.c,.int .i64 x.nx.o,.int .i64 x.nx.n,.bool dn,
 .int .i64 rs.err,.bool rs.found,.int .u64 rs.val,.string rs.key,.int .i64 rs.gH,.int .i64 rs.ref,.int .i64 rs.root,.bool rs.ro,
 .bool false,.slice none 0 0,.slice none 0 0]
abbrev xO(k:Cl)(bm:Nat)(x:XS)(dn:Bool)(rs:Rs):Obj:=.cells ⟨xoC k bm x dn rs⟩ 153 (0,0)
abbrev xM(x:XS):Obj:=mO x.L x.cs x.gen x.acc x.pn x.cn x.pc x.cc
abbrev xW(x:XS):List Ow:=[⟨x.pg,aH x.got,x.kg,37,1⟩,⟨x.pm,aH x.made,x.km,37,1⟩,⟨x.pl,aH x.cel,x.kl,27,1⟩,⟨x.pe,aH x.gns,x.ke,3,1⟩,⟨x.pn,gS x.L,x.cn,47,14⟩,⟨x.pc,aH x.cs,x.cc,37,1⟩]
abbrev xH(k:Cl)(bx bm:Nat)(x:XS)(dn:Bool)(rs:Rs):List (Nat×Obj):=[(bx,xO k bm x dn rs),(bm,xM x)]
theorem aAS{w0 w:World}{D:List Nat}{k:Cl}{bx bm:Nat}{x:XS}{dn:Bool}{rs:Rs}{A F:Fr}(h:SF w0 D (xH k bx bm x dn rs) A F (xW x) w) :
  SF w0 D [(bx,.cells ⟨[.pointer (some ⟨bm,0,none⟩),
 .int .i64 k.kind,.int .i64 k.t.root,.bool k.t.ro,.int .i64 k.a,.int .i64 k.b,.int .i64 k.n,.int .i64 k.index,.int .u64 k.hash,.int .u64 k.mask,.string k.key,.int .u64 k.val,.int .u64 k.exp,.int .i64 k.Ir,.bool k.only,
 .bool false,.slice none 0 0,.slice none 0 0,.int .i64 0,.bool false,.int .u64 0,.string ⟨#[]⟩,.int .i64 0,.int .i64 0,.int .i64 0,.bool false,
 .slice x.pg x.got.length x.kg,.slice x.pm x.made.length x.km,.slice x.pl x.cel.length x.kl,.slice x.pe x.gns.length x.ke,
 .int .i64 ((x.a:Nat):Int),.int .i64 ((x.m:Nat):Int),.int .i64 ((x.c:Nat):Int),.int .i64 ((x.g:Nat):Int),.int .i64 ((x.fr:Nat):Int),.bool x.st,
 .int .i64 x.nx.k,.int .i64 x.nx.c,.int .i64 x.nx.o,.int .i64 x.nx.n,.bool dn,
 .int .i64 rs.err,.bool rs.found,.int .u64 rs.val,.string rs.key,.int .i64 rs.gH,.int .i64 rs.ref,.int .i64 rs.root,.bool rs.ro,
 .bool false,.slice none 0 0,.slice none 0 0]⟩ 153 (0,0)),(bm,mO x.L x.cs x.gen x.acc x.pn x.cn x.pc x.cc)] A F [⟨x.pg,aH x.got,x.kg,37,1⟩,⟨x.pm,aH x.made,x.km,37,1⟩,⟨x.pl,aH x.cel,x.kl,27,1⟩,⟨x.pe,aH x.gns,x.ke,3,1⟩,⟨x.pn,gS x.L,x.cn,47,14⟩,⟨x.pc,aH x.cs,x.cc,37,1⟩] w:=h
theorem bZ{w0 w:World}{D:List Nat}{k:Cl}{bx bm:Nat}{x:XS}{dn:Bool}{rs:Rs}{A F:Fr}(h:SF w0 D (xH k bx bm x dn rs) A F (xW x) w) :
  SF w0 D [(bx,.cells ⟨xoC k bm x dn rs⟩ 153 (0,0)),(bm,mO x.L x.cs x.gen x.acc x.pn x.cn x.pc x.cc)] A F [⟨x.pg,aH x.got,x.kg,37,1⟩,⟨x.pm,aH x.made,x.km,37,1⟩,⟨x.pl,aH x.cel,x.kl,27,1⟩,⟨x.pe,aH x.gns,x.ke,3,1⟩,⟨x.pn,gS x.L,x.cn,47,14⟩,⟨x.pc,aH x.cs,x.cc,37,1⟩] w:=h
end

/- Executions of the reference: known, load, cas. -/
end Go.Proofs.YtbajmaoegmbfgaaGreat
namespace Go.Ct
section
def XS.kn(x:XS)(a:Ac):XS:=if x.st=true then x else if x.a<x.got.length then{x with a:=x.a+1} else if x.fr=0 then{x with st:=true,nx:=a} else{x with fr:=x.fr-1}
def XS.bD(x:XS):Bool:=!x.st&&decide (x.a<x.got.length)
def XS.now(x:XS):Bool:=!x.st&&!decide (x.a<x.got.length)&&!decide (x.fr=0)
theorem XS.se{x:XS}{a:Ac}(h:x.st=true):x.kn a=x/\x.bD=false/\x.now=false:=⟨if_pos h,by simp[XS.bD,h],by simp[XS.now,h]⟩
theorem XS.ae{x:XS}{a:Ac}(h:x.st=false)(h1:x.a<x.got.length):x.kn a={x with a:=x.a+1}/\x.bD=true/\x.now=false:=⟨by unfold XS.kn;rw[if_neg (by rw[h];decide),if_pos h1],by simp[XS.bD,h,h1],by simp[XS.now,h1]⟩
theorem XS.sr{x:XS}{a:Ac}(h:x.st=false)(h1:¬x.a<x.got.length)(h2:x.fr=0):x.kn a={x with st:=true,nx:=a}/\x.bD=false/\x.now=false:=⟨by unfold XS.kn;rw[if_neg (by rw[h];decide),if_neg h1,if_pos h2],by simp[XS.bD,h1],by simp[XS.now,h2]⟩
theorem XS.fx{x:XS}{a:Ac}(h:x.st=false)(h1:¬x.a<x.got.length)(h2:¬x.fr=0):x.kn a={x with fr:=x.fr-1}/\x.bD=false/\x.now=true:=⟨by unfold XS.kn;rw[if_neg (by rw[h];decide),if_neg h1,if_neg h2],by simp[XS.bD,h1],by simp[XS.now,h,h1,h2]⟩
end
end Go.Ct
namespace Go.Proofs.YtbajmaoegmbfgaaGreat
section
open Go Go.RowKit Go.Ct
section
variable{k:Cl}{bx bm:Nat}{x:XS}{dn:Bool}{rs:Rs}{D:List Nat}{A:Fr}{w:World}
theorem El(a:Ac)(ok:x.Ok)(hs:SF w D (xH k bx bm x dn rs) A [] (xW x) w):Calls Tryz.prog 240 #[.pointer (some ⟨bx,0,none⟩),.agg ⟨a.cells⟩] w λ e w'=>∃q:Unit,e=.returned (.tuple #[.bool x.bD,.bool x.now])/\True/\SF w D (xH k bx bm (x.kn a) dn rs) [] [] (xW (x.kn a)) w':=by
 have h1:=ok.lg
 have h2:=ok.la
 have h3:=ok.fr
 refine enter Tryz.func240 Tryz.ntmps240 rfl rfl (aAS hs) ?_
 simp only[bX]
 refine J0 ?_;refine bL (λ x3=>?_);refine J8 ?_;refine aT ?_;refine kO ?_;refine aG ?_
 refine bC (λ c9=>?_) (λ c9=>?_)
 ·refine O9 ?_
  refine bB Tryz.results240 (λ w hw=>?_)
  obtain⟨e1,e2,e3⟩:=XS.se (a:=a) c9
  rw[e1,e2,e3]
  exact⟨(),rfl,trivial,hw.aU⟩
 ·refine kG ?_;refine aT ?_;refine gF [0,1,2,3,4,5,6,7,8,9] ?_;refine Dt ?_;refine oG ?_;refine Bc ?_;refine eA ?_
  refine bC (λ c19=>?_) (λ c19=>?_)
  ·refine kO ?_;refine Hq ?_;refine Mw ?_;refine O9 ?_
   refine bB Tryz.results240 (λ w hw=>?_)
   obtain⟨e1,e2,e3⟩:=XS.ae (a:=a) c9 (by omega)
   rw[e1,e2,e3]
   exact⟨(),rfl,trivial,hw.aU⟩
  ·refine kG ?_;refine kO ?_;refine uB ?_
   refine bC (λ c31=>?_) (λ c31=>?_)
   ·refine aT ?_;refine dV [(0,[]),(1,[]),(2,[]),(3,[]),(4,[]),(5,[2]),(6,[]),(7,[]),(8,[])] ?_;refine gT ?_;refine bK ?_;refine J4 ?_;refine oQ (h:=λ _=>?_);refine J4 ?_;refine lC (i:=8) (hq:=(gK λ _=>lH (off:=36) (vs:=a.cells) rf cN rf rfl dI (Nat.le_of_ble_eq_true rfl) rf jB)) (h:=λ _=>?_);refine eA ?_;refine O9 ?_
    refine bB Tryz.results240 (λ w hw=>?_)
    obtain⟨e1,e2,e3⟩:=XS.sr (a:=a) c9 (by omega) (by omega)
    rw[e1,e2,e3]
    exact⟨(),rfl,trivial,hw.aU⟩
   ·refine oa ?_;refine rR ?_;refine Mw ?_;refine O9 ?_
    refine bB Tryz.results240 (λ w hw=>?_)
    obtain⟨e1,e2,e3⟩:=XS.fx (a:=a) c9 (by omega) (by omega)
    rw[e1,e2,e3]
    exact⟨(),rfl,trivial,hw.aU⟩
theorem Pv(a:Ac)(ok:x.Ok)(h:x.st=true)(hs:SF w D (xH k bx bm x dn rs) A [] (xW x) w):Calls Tryz.prog 240 #[.pointer (some ⟨bx,0,none⟩),.agg ⟨a.cells⟩] w λ e w'=>∃q:Unit,e=.returned (.tuple #[.bool false,.bool false])/\True/\SF w D (xH k bx bm x dn rs) [] [] (xW x) w':=by
 obtain⟨e1,e2,e3⟩:=XS.se (a:=a) h
 have:=El (k:=k) (bx:=bx) (bm:=bm) (dn:=dn) (rs:=rs) (D:=D) (A:=A) (w:=w) a ok hs
 rw[e1,e2,e3] at this
 exact this
theorem Kg(a:Ac)(ok:x.Ok)(h:x.st=false)(h1:x.a<x.got.length)(hs:SF w D (xH k bx bm x dn rs) A [] (xW x) w):Calls Tryz.prog 240 #[.pointer (some ⟨bx,0,none⟩),.agg ⟨a.cells⟩] w λ e w'=>∃q:Unit,e=.returned (.tuple #[.bool true,.bool false])/\True/\SF w D (xH k bx bm {x with a:=x.a+1} dn rs) [] [] (xW {x with a:=x.a+1}) w':=by
 obtain⟨e1,e2,e3⟩:=XS.ae (a:=a) h h1
 have:=El (k:=k) (bx:=bx) (bm:=bm) (dn:=dn) (rs:=rs) (D:=D) (A:=A) (w:=w) a ok hs
 rw[e1,e2,e3] at this
 exact this
theorem On(a:Ac)(ok:x.Ok)(h:x.st=false)(h1:¬x.a<x.got.length)(h2:x.fr=0)(hs:SF w D (xH k bx bm x dn rs) A [] (xW x) w):Calls Tryz.prog 240 #[.pointer (some ⟨bx,0,none⟩),.agg ⟨a.cells⟩] w λ e w'=>∃q:Unit,e=.returned (.tuple #[.bool false,.bool false])/\True/\SF w D (xH k bx bm {x with st:=true,nx:=a} dn rs) [] [] (xW {x with st:=true,nx:=a}) w':=by
 obtain⟨e1,e2,e3⟩:=XS.sr (a:=a) h h1 h2
 have:=El (k:=k) (bx:=bx) (bm:=bm) (dn:=dn) (rs:=rs) (D:=D) (A:=A) (w:=w) a ok hs
 rw[e1,e2,e3] at this
 exact this
theorem Kp(a:Ac)(ok:x.Ok)(h:x.st=false)(h1:¬x.a<x.got.length)(h2:¬x.fr=0)(hs:SF w D (xH k bx bm x dn rs) A [] (xW x) w):Calls Tryz.prog 240 #[.pointer (some ⟨bx,0,none⟩),.agg ⟨a.cells⟩] w λ e w'=>∃q:Unit,e=.returned (.tuple #[.bool false,.bool true])/\True/\SF w D (xH k bx bm {x with fr:=x.fr-1} dn rs) [] [] (xW {x with fr:=x.fr-1}) w':=by
 obtain⟨e1,e2,e3⟩:=XS.fx (a:=a) h h1 h2
 have:=El (k:=k) (bx:=bx) (bm:=bm) (dn:=dn) (rs:=rs) (D:=D) (A:=A) (w:=w) a ok hs
 rw[e1,e2,e3] at this
 exact this
theorem ny(c:Int)(ok:x.Ok)(h:x.st=true)(hs:SF w D (xH k bx bm x dn rs) A [] (xW x) w):Calls Tryz.prog 210 #[.pointer (some ⟨bx,0,none⟩),.int .i64 c] w λ e w'=>∃q:Unit,e=.returned (.int .i64 0)/\True/\SF w D (xH k bx bm x dn rs) [] [] (xW x) w':=by
 refine enter Tryz.func210 Tryz.ntmps210 rfl rfl (bZ hs) ?_
 simp only[bX]
 refine cR ?_;refine jA ?_;refine bG ?_;refine aC (cM (hs:=xH k bx bm x dn rs) (os:=xW x) (hc:=λ w hs=>Pv ⟨1,c,0,0⟩ ok h hs)) (λ x11 h11=>?_);refine Lw ?_;refine J8 ?_;refine kY ?_;refine aG ?_
 refine bC (λ c14=>?_) (λ c14=>?_)
 ·exact nv c14
 ·try (exact absurd (by assumption) (by decide:¬(true=false)))
  refine kG ?_;refine J2 ?_;refine Eh ?_
  (refine aF ?_;refine aA ?_)
  refine M0 ?_;refine aG ?_
  refine bC (λ c43=>?_) (λ c43=>?_)
  ·try (exact absurd (by assumption) (by decide:¬(true=false)))
   refine cR ?_
   refine aR Tryz.results210 (λ w hw=>?_)
   exact⟨(),rfl,trivial,hw.aU⟩
  ·exact nv c43
theorem my(c:Int)(ok:x.Ok)(h:x.st=false)(h1:¬x.a<x.got.length)(h2:x.fr=0)(hs:SF w D (xH k bx bm x dn rs) A [] (xW x) w):Calls Tryz.prog 210 #[.pointer (some ⟨bx,0,none⟩),.int .i64 c] w λ e w'=>∃q:Unit,e=.returned (.int .i64 0)/\True/\SF w D (xH k bx bm {x with st:=true,nx:=⟨1,c,0,0⟩} dn rs) [] [] (xW {x with st:=true,nx:=⟨1,c,0,0⟩}) w':=by
 refine enter Tryz.func210 Tryz.ntmps210 rfl rfl (bZ hs) ?_
 simp only[bX]
 refine cR ?_;refine jA ?_;refine bG ?_;refine aC (cM (hs:=xH k bx bm x dn rs) (os:=xW x) (hc:=λ w hs=>On ⟨1,c,0,0⟩ ok h h1 h2 hs)) (λ x11 h11=>?_);refine Lw ?_;refine J8 ?_;refine kY ?_;refine aG ?_
 refine bC (λ c14=>?_) (λ c14=>?_)
 ·exact nv c14
 ·try (exact absurd (by assumption) (by decide:¬(true=false)))
  refine kG ?_;refine J2 ?_;refine Eh ?_
  (refine aF ?_;refine aA ?_)
  refine M0 ?_;refine aG ?_
  refine bC (λ c43=>?_) (λ c43=>?_)
  ·try (exact absurd (by assumption) (by decide:¬(true=false)))
   refine cR ?_
   refine aR Tryz.results210 (λ w hw=>?_)
   exact⟨(),rfl,trivial,hw.aU⟩
  ·exact nv c43
theorem Hh(c:Int)(ok:x.Ok)(h:x.st=false)(h1:x.a<x.got.length)(hs:SF w D (xH k bx bm x dn rs) A [] (xW x) w):Calls Tryz.prog 210 #[.pointer (some ⟨bx,0,none⟩),.int .i64 c] w λ e w'=>∃q:Unit,e=.returned (.int .i64 (x.got.getD x.a 0))/\True/\SF w D (xH k bx bm {x with a:=x.a+1} dn rs) [] [] (xW {x with a:=x.a+1}) w':=by
 have hg:=ok.lg
 refine enter Tryz.func210 Tryz.ntmps210 rfl rfl (bZ hs) ?_
 simp only[bX]
 refine cR ?_;refine jA ?_;refine bG ?_;refine aC (cM (hs:=xH k bx bm x dn rs) (os:=xW x) (hc:=λ w hs=>Kg ⟨1,c,0,0⟩ ok h h1 hs)) (λ x11 h11=>?_);refine Lw ?_;refine J8 ?_;refine kY ?_;refine aG ?_
 refine bC (λ c14=>?_) (λ c14=>?_)
 ·exact nv c14
 ·try (exact absurd (by assumption) (by decide:¬(true=false)))
  refine kG ?_;refine J2 ?_;refine Eh ?_
  refine aJ ?_
  refine M0 ?_;refine aG ?_
  refine bC (λ c43=>?_) (λ c43=>?_)
  ·exact nv c43
  ·try (exact absurd (by assumption) (by decide:¬(true=false)))
   refine kG ?_;refine gF [0,1,2,3,4,5,6,7,8,9,10,11] ?_;refine Dt ?_;refine cC (i:=8) (hq:=(jE (m:=x.a+1) (n:=1) rf rf (by omega) (by omega))) (h:=?_);refine bS (i:=9) (hq:=(eY (m:=x.got.length) (k:=x.a+1-1) (lst:=x.got) rf rf gN gQ (.own .head) (by omega) (by omega))) (h:=?_);refine bS (i:=10) (hq:=(gW (q:=x.a+1-1) (lst:=x.got) rf gQ (.own .head) (by omega))) (h:=?_);refine J7 ?_
   refine aR Tryz.results210 (λ w hw=>?_)
   exact⟨(),by rw[Nat.add_sub_cancel];rfl,trivial,hw.aU⟩
theorem eu(c:Int)(hc:c<=9223372036854775807)(ok:x.Ok)(h:x.st=false)(h1:¬x.a<x.got.length)(h2:¬x.fr=0)(hs:SF w D (xH k bx bm x dn rs) A [] (xW x) w):Calls Tryz.prog 210 #[.pointer (some ⟨bx,0,none⟩),.int .i64 c] w λ e w'=>∃q:Option Addr×Nat,e=.returned (.int .i64 (bV x.cs c))/\True/\SF w D (xH k bx bm {x with fr:=x.fr-1,acc:=up x.acc,got:=x.got++[bV x.cs c],pg:=q.1,kg:=q.2,a:=x.a+1} dn rs) [] [] (xW {x with fr:=x.fr-1,acc:=up x.acc,got:=x.got++[bV x.cs c],pg:=q.1,kg:=q.2,a:=x.a+1}) w':=by
 have hg:=ok.lg
 have ha:=ok.la
 have hlc:=ok.lc
 refine enter Tryz.func210 Tryz.ntmps210 rfl rfl (bZ hs) ?_
 simp only[bX]
 refine cR ?_;refine jA ?_;refine bG ?_;refine aC (cM (hs:=xH k bx bm x dn rs) (os:=xW x) (hc:=λ w hs=>Kp ⟨1,c,0,0⟩ ok h h1 h2 hs)) (λ x11 h11=>?_);refine Lw ?_;refine J8 ?_;refine kY ?_;refine aG ?_
 refine bC (λ c14=>?_) (λ c14=>?_)
 ·try (exact absurd (by assumption) (by decide:¬(true=false)))
  refine dV [(0,[]),(1,[]),(2,[]),(3,[]),(4,[]),(5,[]),(6,[]),(7,[]),(8,[]),(9,[]),(10,[]),(14,[]),(15,[]),(16,[]),(17,[]),(18,[]),(11,[5,17]),(12,[5,17]),(13,[17]),(19,[]),(20,[]),(21,[]),(22,[]),(23,[]),(24,[])] ?_;refine gT ?_;refine Dt ?_;refine U2 ?_;refine cC (i:=18) (hq:=(oB (m:=x.a) (n:=1) rf rf (by omega))) (h:=?_);refine aZ (i:=11) (hq:=(cM (hc:=λ w hs=>nk (L:=x.L) (cs:=x.cs) hs c hc (by omega)))) (h:=λ x26 h26=>?_);refine cG (h:=λ x27=>?_);((refine cB (i:=13) (hq:=(bF.eR (sE (l:=x.got) (v:=bV x.cs c) (m:=x.got.length) rf rf .head rfl fin lu gN (by omega)) vM)) (h:=λ x28=>?_);try (refine eF (λ h28=>?_))));refine J4 ?_;refine lC (i:=21) (hq:=(by exact gK λ _=>eT rf cN wn rf gQ rf rf jB)) (h:=λ _=>?_);refine J4 ?_;refine lC (i:=24) (hq:=(by exact gK λ _=>eT rf cN wn rf gQ rf rf jB)) (h:=λ _=>?_);refine eA ?_;refine kY ?_;refine Eh ?_
  (refine aF ?_;refine aA ?_)
  refine M0 ?_;refine aG ?_
  refine bC (λ c43=>?_) (λ c43=>?_)
  ·exact nv c43
  ·try (exact absurd (by assumption) (by decide:¬(true=false)))
   refine kG ?_;refine gF [0,1,2,3,4,5,6,7,8,9,10,11] ?_;refine Dt ?_;refine cC (i:=8) (hq:=(jE (m:=x.a+1) (n:=1) rf rf (by omega) (by omega))) (h:=?_);refine bS (i:=9) (hq:=(eY (m:=x.got.length+1) (k:=x.a+1-1) (lst:=x.got++[bV x.cs c]) rf rf gN gQ (.own .head) (by omega) (by rw[List.length_append,List.length_cons,List.length_nil];omega))) (h:=?_);refine bS (i:=10) (hq:=(gW (q:=x.a+1-1) (lst:=x.got++[bV x.cs c]) rf gQ (.own .head) (by rw[List.length_append,List.length_cons,List.length_nil];omega))) (h:=?_);refine J7 ?_
   refine aR Tryz.results210 (λ w hw=>?_)
   rw[show x.got.length+1=(x.got++[bV x.cs c]).length by simp] at hw
   exact⟨x28,by rw[show(x.got++[bV x.cs c]).getD (x.a+1-1) 0=bV x.cs c by rw[show x.a+1-1=x.got.length by omega,kH,List.getElem?_append_right (Nat.le_refl _)];simp];rfl,trivial,hw.aU⟩
 ·exact nv c14
end
end

end Go.Proofs.YtbajmaoegmbfgaaGreat

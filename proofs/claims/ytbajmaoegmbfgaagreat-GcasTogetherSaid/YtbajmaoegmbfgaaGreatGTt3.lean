/- Tasks on an arena: runs. -/
import Derived.Test.YtbajmaoegmbfgaaGreatGTp2
import Derived.Test.YtbajmaoegmbfgaaGreatGTr3
import Derived.Test.YtbajmaoegmbfgaaGreatGNode3
import Derived.Test.YtbajmaoegmbfgaaGreatGAr8

set_option linter.unusedSimpArgs false
set_option linter.unusedVariables false
namespace Go.Proofs.YtbajmaoegmbfgaaGreat
section
open Go Go.RowKit Go.Ct
theorem nS:∀{t:Tr} {n c:Nat} (s:Mm),bR t n c->∀c',bR (iO t s).1 n c'
 | .done _,_,_,_,_,_=>trivial
 | .load _ _,0,_,_,_,_=>trivial
 | .load _ _,_+1,_,_,h,_=>h
 | .kY _ _ _ _,0,_,_,_,_=>trivial
 | .kY _ _ _ _,_+1,_,_,h,_=>h
 | .alloc _ _ _,_,0,_,h,_=>h.elim
 | .alloc n i k,_,_+1,s,h,c'=>nS (s.push n i) (h _) c'
 | .cell _ _,_,0,_,h,_=>h.elim
 | .cell i k,_,_+1,s,h,c'=>nS ⟨s.nodes,s.cs++[i],s.gen⟩ (h _) c'
 | .gen _,_,0,_,h,_=>h.elim
 | .gen k,_,_+1,s,h,c'=>nS ⟨s.nodes,s.cs,s.gen+1⟩ (h _) c'
 | .node r k,_,_,s,h,c'=>nS (t:=k (cD s.nodes r)) s (h (cD s.nodes r)) c'
 | .stuck,_,_,_,h,_=>h.elim
theorem nY:∀{t:Tr} {n c:Nat} (s:Mm),bR t n c->eH (iO t s).1=true
 | .done _,_,_,_,_=>rfl
 | .load _ _,_,_,_,_=>rfl
 | .kY _ _ _ _,_,_,_,_=>rfl
 | .alloc _ _ _,_,0,_,h=>h.elim
 | .alloc n i k,_,_+1,s,h=>nY (s.push n i) (h _)
 | .cell _ _,_,0,_,h=>h.elim
 | .cell i k,_,_+1,s,h=>nY ⟨s.nodes,s.cs++[i],s.gen⟩ (h _)
 | .gen _,_,0,_,h=>h.elim
 | .gen k,_,_+1,s,h=>nY ⟨s.nodes,s.cs,s.gen+1⟩ (h _)
 | .node r k,_,_,s,h=>nY (t:=k (cD s.nodes r)) s (h (cD s.nodes r))
 | .stuck,_,_,_,h=>h.elim
theorem sB:∀{t:Tr} {n c:Nat} (s:Mm),bR t n c->(iO t s).2.nodes.length<=s.nodes.length+c/\(iO t s).2.cs.length<=s.cs.length+c
 | .done _,_,_,_,_=>⟨Nat.le_add_right _ _,Nat.le_add_right _ _⟩
 | .load _ _,_,_,_,_=>⟨Nat.le_add_right _ _,Nat.le_add_right _ _⟩
 | .kY _ _ _ _,_,_,_,_=>⟨Nat.le_add_right _ _,Nat.le_add_right _ _⟩
 | .alloc _ _ _,_,0,_,h=>h.elim
 | .alloc n i k,_,c+1,s,h=>by
  have h2:=sB (s.push n i) (h ((s.nodes.length+1:Nat):Int))
  have hl:=iF (k:=n.kind) (cs:=s.cs) (init:=i)
  simp only[Mm.push,List.length_append,List.length_cons,List.length_nil] at h2
  show(iO (k _) (s.push n i)).2.nodes.length<=_/\(iO (k _) (s.push n i)).2.cs.length<=_
  simp only[Mm.push]
  omega
 | .cell _ _,_,0,_,h=>h.elim
 | .cell i k,_,c+1,s,h=>by
  have h2:=sB ⟨s.nodes,s.cs++[i],s.gen⟩ (h ((s.cs.length+1:Nat):Int))
  simp only[List.length_append,List.length_cons,List.length_nil] at h2
  show(iO (k _) _).2.nodes.length<=_/\(iO (k _) _).2.cs.length<=_
  omega
 | .gen _,_,0,_,h=>h.elim
 | .gen k,_,c+1,s,h=>by
  have h2:=sB ⟨s.nodes,s.cs,s.gen+1⟩ (h (s.gen+1))
  dsimp only at h2
  show(iO (k _) _).2.nodes.length<=_/\(iO (k _) _).2.cs.length<=_
  omega
 | .node r k,_,c,s,h=>sB (t:=k (cD s.nodes r)) s (h (cD s.nodes r))
 | .stuck,_,_,_,h=>h.elim
theorem ku{t:Tr}{n c:Nat}(s:Mm)(ht:bR t (n+1) c)(ha:eH t=true)(c':Nat):bR (Bn (t,s)).1 n c':=by
 cases t with
 | done r=>trivial
 | load x k=>exact nS _ (ht _) c'
 | kY x o m k=>exact nS _ (ht _) c'
 | alloc n i k=>cases ha
 | cell i k=>cases ha
 | gen k=>cases ha
 | node r k=>cases ha
 | stuck=>cases ha
theorem ki{t:Tr}{n c:Nat}(s:Mm)(ht:bR t (n+1) c)(ha:eH t=true):eH (Bn (t,s)).1=true:=by
 cases t with
 | done r=>rfl
 | load x k=>exact nY _ (ht _)
 | kY x o m k=>exact nY _ (ht _)
 | alloc n i k=>cases ha
 | cell i k=>cases ha
 | gen k=>cases ha
 | node r k=>cases ha
 | stuck=>cases ha
theorem jb{t:Tr}{n c:Nat}(s:Mm)(ht:bR t (n+1) c)(ha:eH t=true):(Bn (t,s)).2.nodes.length<=s.nodes.length+64/\(Bn (t,s)).2.cs.length<=s.cs.length+64:=by
 cases t with
 | done r=>exact⟨Nat.le_add_right _ _,Nat.le_add_right _ _⟩
 | load x k=>exact sB s (ht _)
 | kY x o m k =>
  have:=sB ⟨s.nodes,eU s.cs x o m,s.gen⟩ (ht (dq s.cs x o))
  simp only[iC] at this
  exact this
 | alloc n i k=>cases ha
 | cell i k=>cases ha
 | gen k=>cases ha
 | node r k=>cases ha
 | stuck=>cases ha
theorem F9{t:Tr}{n:Nat}{s:Mm}(ht:bR t n 64)(ha:eH t=true):∀k,k<=n->bR (uM (t,s) k).1 (n-k) 64/\eH (uM (t,s) k).1=true/\(uM (t,s) k).2.nodes.length<=s.nodes.length+64*k/\(uM (t,s) k).2.cs.length<=s.cs.length+64*k
 | 0,_=>⟨ht,ha,Nat.le_refl _,Nat.le_refl _⟩
 | k+1,h=>by
  obtain⟨h1,h2,h3,h4⟩:=F9 ht ha k (by omega)
  rw[show n-k=n-(k+1)+1 by omega] at h1
  have h5:(Bn (uM (t,s) k)).2.nodes.length<=(uM (t,s) k).2.nodes.length+64/\(Bn (uM (t,s) k)).2.cs.length<=(uM (t,s) k).2.cs.length+64:=jb (uM (t,s) k).2 h1 h2
  exact⟨ku _ h1 h2 64,ki _ h1 h2,by show(Bn (uM (t,s) k)).2.nodes.length<=_;omega,by show(Bn (uM (t,s) k)).2.cs.length<=_;omega⟩
def Am(p:Tr×Mm):Nat->Nat
 | 0=>0
 | k+1=>Am p k+if(uM p k).1.live=true then 1 else 0
theorem ic{p:Tr×Mm}(h:p.1.live=false):Bn p=p:=by
 obtain⟨t,s⟩:=p
 cases t<;>first|rfl|cases h
theorem Pb{p:Tr×Mm}{j:Nat}(h:(uM p j).1.live=false):∀k,uM p (j+k)=uM p j/\Am p (j+k)=Am p j
 | 0=>⟨rfl,rfl⟩
 | k+1=>by
  obtain⟨h1,h2⟩:=Pb h k
  refine⟨?_,?_⟩
  ·show Bn (uM p (j+k))=_
   rw[h1,ic h]
  ·show Am p (j+k)+(if(uM p (j+k)).1.live=true then 1 else 0)=_
   rw[h1,h2,h]
   rfl
theorem Zo{p:Tr×Mm}{j k:Nat}(h:(uM p j).1.live=false)(hk:j<=k):uM p k=uM p j/\Am p k=Am p j:=by
 have:=Pb h (k-j)
 rwa [show j+(k-j)=k by omega] at this
structure TkI(b:Nat)(p:Tr×Mm)(a:AS)(B:Fr)(y:Cd×Fr×AS):Prop where
 rp:kZ b p.1 p.2 y.1 p.2 (y.2.1++B)
 mm:y.2.2.mm=p.2
 ok:y.2.2.Ok
 gr:a.jF y.2.2 y.2.1
theorem TkI.of{b:Nat}{p:Tr×Mm}{a:AS}{B:Fr}{y:Cd×Fr×AS}(h:mS b p a B y):TkI b p a B y:=⟨h.1.1,h.1.2,h.2.1,h.2.2⟩
theorem kx{b:Nat}{t:Tr}{s:Mm}{c:Cd}{B:Fr}(h:kZ b t s c s B)(ha:eH t=true):(c.a.k≠0↔t.live=true):=by
 have:=(h.kind ha).1
 cases hl:t.live with
 | false=>rw[hl] at this;exact⟨λ hn=>absurd (this.2 rfl) hn,λ h=>nomatch h⟩
 | true=>rw[hl] at this;exact⟨λ _=>rfl,λ _ e=>nomatch this.1 e⟩
section
variable{D:List Nat}{A B:Fr}{a:AS}{b bt n:Nat}{w:World}{c:Cd}{t:Tr}
theorem m6{most m:Nat}(ht:bR t m 64)(hmm:most<=m)(ha:eH t=true)(hr:kZ b t a.mm c a.mm B)(ok:a.Ok)(hm:a.mm.nodes.length+64*most<=137438953472/\a.mm.cs.length+64*most<=137438953472)(hn:n+most<1000000000)(hA:∀f∈aK a.L,f∈A)(hB:∀x∈B,x∈A)(hs:SF w D [(bt,tO b c n),(b,fH a)] A [] (fM a) w) :
    Calls Tryz.prog 30 #[.pointer (some ⟨bt,0,none⟩),.int .i64 ((most:Nat):Int)] w λ e w'=>∃y:Cd×Fr×AS,e=.returned (.int .i64 ((Am (t,a.mm) most:Nat):Int))/\TkI b (uM (t,a.mm) most) a B y/\SF w D [(bt,tO b y.1 (n+Am (t,a.mm) most)),(b,fH y.2.2)] [] y.2.1 (fM y.2.2) w':=by
  have hall:=λ k hk=>F9 (s:=a.mm) ht ha k hk
  refine enter Tryz.func30 Tryz.ntmps30 rfl rfl hs ?_
  simp only[bX]
  refine cO ?_;refine cO ?_;refine Dg ?_
  refine mZ [5,6,7,8,9,10,11,12,13,14,15,16,17,18,19,20,21,22,23,24] (λ y:Nat×Cd×Fr×AS=>[(5,.int .i64 ((y.1:Nat):Int))]) (λ y=>y.1<=most/\TkI b (uM (t,a.mm) y.1) a B y.2/\Am (t,a.mm) y.1=y.1) (λ y=>[(bt,tO b y.2.1 (n+y.1)),(b,fH y.2.2.2)]) (λ y=>y.2.2.1) (λ y=>fM y.2.2.2) (λ y=>most-y.1) ((0,c,[],a)) (⟨Nat.zero_le _,⟨hr,rfl,ok,AS.jF.refl a⟩,rfl⟩) (λ y f hx=>?_) (hw0:=λ w hw=>hw)
  dsimp only[gU,List.map,List.cons_append,List.nil_append]
  obtain⟨h1,h2,h3,h4⟩:=hall y.1 (by omega)
  have hrp:kZ b (uM (t,a.mm) y.1).1 y.2.2.2.mm y.2.1 y.2.2.2.mm (y.2.2.1++B):=by rw[hx.2.1.mm];exact hx.2.1.rp
  have hsm:y.2.2.2.mm.Small:=by rw[hx.2.1.mm];exact⟨by omega,by omega⟩
  have hli:=kx hx.2.1.rp h2
  refine Ds ?_;refine Cq ?_
  (refine eE 9 (λ g9=>?_) (λ g9=>?_)<;>(first|refine aI ?_|(refine aF ?_;refine aA ?_)))
  all_goals ((first|refine aI ?_|(refine aF ?_;refine aS (cV (hc:=λ w1 hw=>wI (hw.st.at cQ))) (λ x11=>?_)));refine Qn ?_;refine aA ?_)
  all_goals (first|refine aI ?_|(refine eE 14 (λ g14=>?_) (λ g14=>?_)<;>(first|refine aI ?_|(refine aF ?_;refine aA ?_))))
  all_goals ((first|refine aI ?_|(refine aF ?_;refine dE ?_));refine J6 ?_;refine Qn ?_;refine aH ?_)
  all_goals
   refine bB (λ c20=>?_) (λ c20=>?_)
   · try exact nv c20
     all_goals (refine bA ?_;refine cR ?_;refine J2 ?_;refine aD (cM (V:=λ _:Cd×Fr×AS=>.tuple #[]) (hs:=[(bt,tO b y.2.1 (n+y.1)),(b,fH y.2.2.2)]) (os:=fM y.2.2.2) (Fc:=λ z=>z.2.1) (A0:=aK y.2.2.2.L++(y.2.2.1++B)) (hs':=λ z=>[(bt,tO b z.1 (n+y.1+1)),(b,fH z.2.2)]) (os':=λ z=>fM z.2.2) (hA:=aW.of λ f hf=>(List.mem_append.1 hf).elim (λ h1=>(hx.2.1.gr.fam f h1).elim .inl λ h2=>h2.elim (λ h3=>.inr (.inl (hA f h3))) λ h3=>.inr (.inr (.inl h3))) λ h1=>(List.mem_append.1 h1).elim (λ h2=>.inr (.inr (.inl h2))) λ h2=>.inr (.inl (hB f h2))) (hc:=λ w hw=>La (i:=m-(y.1+1)) (m:=64) (by rw[show m-(y.1+1)+1=m-y.1 by omega];exact h1) h2 (hli.1 g14) hrp hx.2.1.ok hsm (by omega) (λ f hf=>List.mem_append_left _ hf) (λ f hf=>List.mem_append_right _ hf) hw)) (λ x22 h22=>?_);refine aH ?_;refine uN ?_;refine fK ?_)
     all_goals
      refine iP ((y.1+1,x22.1,x22.2.1++y.2.2.1,x22.2.2)) ?_ (hw1:=λ w hw=>hw)
      · have e1:uM (t,a.mm) (y.1+1)=Bn ((uM (t,a.mm) y.1).1,y.2.2.2.mm):=by rw[hx.2.1.mm];rfl
        have h5:=TkI.of h22.1
        have hlv:=hli.1 g14
        refine⟨by show y.1+1<=most;omega,⟨?_,?_,h5.ok,hx.2.1.gr.trans h5.gr⟩,?_⟩
        · rw[e1]
          show kZ b _ _ _ _ (x22.2.1++y.2.2.1++B)
          rw[List.append_assoc]
          exact h5.rp
        · rw[e1];exact h5.mm
        · show Am (t,a.mm) y.1+_=y.1+1
          rw[hlv,hx.2.2]
          rfl
   · try exact nv c20
     all_goals (refine bN rfl ?_;refine J2 ?_;refine J1 ?_)
     all_goals
      refine aT Tryz.results30 (λ w hw=>?_)
      have e:uM (t,a.mm) most=uM (t,a.mm) y.1/\Am (t,a.mm) most=y.1:=by
       first
        | (have h:=Zo (Bool.eq_false_iff.2 λ h=>hli.2 h g14) hx.1;exact⟨h.1,h.2.trans hx.2.2⟩)
        | (have em:most=y.1:=(by have:=hx.1;omega);rw[em];exact⟨rfl,hx.2.2⟩)
      rw[e.1,e.2]
      exact⟨y.2,rfl,hx.2.1,hw.ret (List.Sublist.refl _) (aY.hX λ f hf=>hf) (List.Sublist.refl _)⟩
end
end

/- An execution of the reference: its block, its own lists; the rules for calls of its methods. -/
section
open Go Go.RowKit Go.Ct
def xoC(k:Cl)(bm:Nat)(x:XS)(dn:Bool)(rs:Rs):List Value:=[.pointer (some ⟨bm,0,none⟩),
 .int .i64 k.kind,.int .i64 k.t.root,.bool k.t.ro,.int .i64 k.a,.int .i64 k.b,.int .i64 k.n,.int .i64 k.index,.int .u64 k.hash,.int .u64 k.mask,.string k.key,.int .u64 k.val,.int .u64 k.exp,.int .i64 k.I5,.bool k.only,
 .bool false,.slice none 0 0,.slice none 0 0,.int .i64 0,.bool false,.int .u64 0,.string ⟨#[]⟩,.int .i64 0,.int .i64 0,.int .i64 0,.bool false,
 .slice x.pg x.got.length x.kg,.slice x.pm x.made.length x.km,.slice x.pl x.cel.length x.kl,.slice x.pe x.gns.length x.ke,
 .int .i64 ((x.a:Nat):Int),.int .i64 ((x.m:Nat):Int),.int .i64 ((x.c:Nat):Int),.int .i64 ((x.g:Nat):Int),.int .i64 ((x.fr:Nat):Int),.bool x.st,
 .int .i64 x.nx.k,.int .i64 x.nx.c,.int .i64 x.nx.o,.int .i64 x.nx.n,.bool dn,
 .int .i64 rs.err,.bool rs.found,.int .u64 rs.val,.string rs.key,.int .i64 rs.gI,.int .i64 rs.ref,.int .i64 rs.root,.bool rs.ro,
 .bool false,.slice none 0 0,.slice none 0 0]
abbrev xO(k:Cl)(bm:Nat)(x:XS)(dn:Bool)(rs:Rs):Obj:=.cells ⟨xoC k bm x dn rs⟩ 153 (0,0)
abbrev xM(x:XS):Obj:=mO x.L x.cs x.gen x.acc x.pn x.cn x.pc x.cc
abbrev xW(x:XS):List Ow:=[⟨x.pg,aG x.got,x.kg,37,1⟩,⟨x.pm,aG x.made,x.km,37,1⟩,⟨x.pl,aG x.cel,x.kl,27,1⟩,⟨x.pe,aG x.gns,x.ke,3,1⟩,⟨x.pn,hU x.L,x.cn,47,14⟩,⟨x.pc,aG x.cs,x.cc,37,1⟩]
abbrev xH(k:Cl)(bx bm:Nat)(x:XS)(dn:Bool)(rs:Rs):List (Nat×Obj):=[(bx,xO k bm x dn rs),(bm,xM x)]
theorem aAQ{w0 w:World}{D:List Nat}{k:Cl}{bx bm:Nat}{x:XS}{dn:Bool}{rs:Rs}{A F:Fr}(h:SF w0 D (xH k bx bm x dn rs) A F (xW x) w) :
  SF w0 D [(bx,.cells ⟨[.pointer (some ⟨bm,0,none⟩),
 .int .i64 k.kind,.int .i64 k.t.root,.bool k.t.ro,.int .i64 k.a,.int .i64 k.b,.int .i64 k.n,.int .i64 k.index,.int .u64 k.hash,.int .u64 k.mask,.string k.key,.int .u64 k.val,.int .u64 k.exp,.int .i64 k.I5,.bool k.only,
 .bool false,.slice none 0 0,.slice none 0 0,.int .i64 0,.bool false,.int .u64 0,.string ⟨#[]⟩,.int .i64 0,.int .i64 0,.int .i64 0,.bool false,
 .slice x.pg x.got.length x.kg,.slice x.pm x.made.length x.km,.slice x.pl x.cel.length x.kl,.slice x.pe x.gns.length x.ke,
 .int .i64 ((x.a:Nat):Int),.int .i64 ((x.m:Nat):Int),.int .i64 ((x.c:Nat):Int),.int .i64 ((x.g:Nat):Int),.int .i64 ((x.fr:Nat):Int),.bool x.st,
 .int .i64 x.nx.k,.int .i64 x.nx.c,.int .i64 x.nx.o,.int .i64 x.nx.n,.bool dn,
 .int .i64 rs.err,.bool rs.found,.int .u64 rs.val,.string rs.key,.int .i64 rs.gI,.int .i64 rs.ref,.int .i64 rs.root,.bool rs.ro,
 .bool false,.slice none 0 0,.slice none 0 0]⟩ 153 (0,0)),(bm,mO x.L x.cs x.gen x.acc x.pn x.cn x.pc x.cc)] A F [⟨x.pg,aG x.got,x.kg,37,1⟩,⟨x.pm,aG x.made,x.km,37,1⟩,⟨x.pl,aG x.cel,x.kl,27,1⟩,⟨x.pe,aG x.gns,x.ke,3,1⟩,⟨x.pn,hU x.L,x.cn,47,14⟩,⟨x.pc,aG x.cs,x.cc,37,1⟩] w:=h
theorem bW{w0 w:World}{D:List Nat}{k:Cl}{bx bm:Nat}{x:XS}{dn:Bool}{rs:Rs}{A F:Fr}(h:SF w0 D (xH k bx bm x dn rs) A F (xW x) w) :
  SF w0 D [(bx,.cells ⟨xoC k bm x dn rs⟩ 153 (0,0)),(bm,mO x.L x.cs x.gen x.acc x.pn x.cn x.pc x.cc)] A F [⟨x.pg,aG x.got,x.kg,37,1⟩,⟨x.pm,aG x.made,x.km,37,1⟩,⟨x.pl,aG x.cel,x.kl,27,1⟩,⟨x.pe,aG x.gns,x.ke,3,1⟩,⟨x.pn,hU x.L,x.cn,47,14⟩,⟨x.pc,aG x.cs,x.cc,37,1⟩] w:=h
end

/- Executions of the reference: known, load, cas. -/
end Go.Proofs.YtbajmaoegmbfgaaGreat
namespace Go.Ct
section
def XS.kn(x:XS)(a:Ac):XS:=if x.st=true then x else if x.a<x.got.length then{x with a:=x.a+1} else if x.fr=0 then{x with st:=true,nx:=a} else{x with fr:=x.fr-1}
def XS.bK(x:XS):Bool:=!x.st&&decide (x.a<x.got.length)
def XS.now(x:XS):Bool:=!x.st&&!decide (x.a<x.got.length)&&!decide (x.fr=0)
theorem XS.ui{x:XS}{a:Ac}(h:x.st=true):x.kn a=x/\x.bK=false/\x.now=false:=⟨if_pos h,by simp[XS.bK,h],by simp[XS.now,h]⟩
theorem XS.il{x:XS}{a:Ac}(h:x.st=false)(h1:x.a<x.got.length):x.kn a={x with a:=x.a+1}/\x.bK=true/\x.now=false:=⟨by unfold XS.kn;rw[if_neg (by rw[h];decide),if_pos h1],by simp[XS.bK,h,h1],by simp[XS.now,h1]⟩
theorem XS.ue{x:XS}{a:Ac}(h:x.st=false)(h1:¬x.a<x.got.length)(h2:x.fr=0):x.kn a={x with st:=true,nx:=a}/\x.bK=false/\x.now=false:=⟨by unfold XS.kn;rw[if_neg (by rw[h];decide),if_neg h1,if_pos h2],by simp[XS.bK,h1],by simp[XS.now,h2]⟩
theorem XS.Z1{x:XS}{a:Ac}(h:x.st=false)(h1:¬x.a<x.got.length)(h2:¬x.fr=0):x.kn a={x with fr:=x.fr-1}/\x.bK=false/\x.now=true:=⟨by unfold XS.kn;rw[if_neg (by rw[h];decide),if_neg h1,if_neg h2],by simp[XS.bK,h1],by simp[XS.now,h,h1,h2]⟩
end
end Go.Ct
namespace Go.Proofs.YtbajmaoegmbfgaaGreat
section
open Go Go.RowKit Go.Ct
section
variable{k:Cl}{bx bm:Nat}{x:XS}{dn:Bool}{rs:Rs}{D:List Nat}{A:Fr}{w:World}
theorem Er(a:Ac)(ok:x.Ok)(hs:SF w D (xH k bx bm x dn rs) A [] (xW x) w):Calls Tryz.prog 240 #[.pointer (some ⟨bx,0,none⟩),.agg ⟨a.cells⟩] w λ e w'=>∃q:Unit,e=.returned (.tuple #[.bool x.bK,.bool x.now])/\True/\SF w D (xH k bx bm (x.kn a) dn rs) [] [] (xW (x.kn a)) w':=by
 have h1:=ok.lg
 have h2:=ok.la
 have h3:=ok.fr
 refine enter Tryz.func240 Tryz.ntmps240 rfl rfl (aAQ hs) ?_
 simp only[bX]
 refine J0 ?_;refine bI (λ x3=>?_);refine J8 ?_;refine aV ?_;refine lW ?_;refine aH ?_
 refine bB (λ c9=>?_) (λ c9=>?_)
 ·refine P7 ?_
  refine bC Tryz.results240 (λ w hw=>?_)
  obtain⟨e1,e2,e3⟩:=XS.ui (a:=a) c9
  rw[e1,e2,e3]
  exact⟨(),rfl,trivial,hw.aU⟩
 ·refine jV ?_;refine aV ?_;refine gJ [0,1,2,3,4,5,6,7,8,9] ?_;refine D6 ?_;refine oC ?_;refine zZ ?_;refine dY ?_
  refine bB (λ c19=>?_) (λ c19=>?_)
  ·refine lW ?_;refine G6 ?_;refine Qj ?_;refine P7 ?_
   refine bC Tryz.results240 (λ w hw=>?_)
   obtain⟨e1,e2,e3⟩:=XS.il (a:=a) c9 (by omega)
   rw[e1,e2,e3]
   exact⟨(),rfl,trivial,hw.aU⟩
  ·refine jV ?_;refine lW ?_;refine uG ?_
   refine bB (λ c31=>?_) (λ c31=>?_)
   ·refine aV ?_;refine dK [(0,[]),(1,[]),(2,[]),(3,[]),(4,[]),(5,[2]),(6,[]),(7,[]),(8,[])] ?_;refine iH ?_;refine bG ?_;refine J4 ?_;refine mK (h:=λ _=>?_);refine J4 ?_;refine kN (i:=8) (hq:=(jA λ _=>lR (off:=36) (vs:=a.cells) rf cQ rf rfl eD (Nat.le_of_ble_eq_true rfl) rf kO)) (h:=λ _=>?_);refine dY ?_;refine P7 ?_
    refine bC Tryz.results240 (λ w hw=>?_)
    obtain⟨e1,e2,e3⟩:=XS.ue (a:=a) c9 (by omega) (by omega)
    rw[e1,e2,e3]
    exact⟨(),rfl,trivial,hw.aU⟩
   ·refine uk ?_;refine rT ?_;refine Qj ?_;refine P7 ?_
    refine bC Tryz.results240 (λ w hw=>?_)
    obtain⟨e1,e2,e3⟩:=XS.Z1 (a:=a) c9 (by omega) (by omega)
    rw[e1,e2,e3]
    exact⟨(),rfl,trivial,hw.aU⟩
theorem Q6(a:Ac)(ok:x.Ok)(h:x.st=true)(hs:SF w D (xH k bx bm x dn rs) A [] (xW x) w):Calls Tryz.prog 240 #[.pointer (some ⟨bx,0,none⟩),.agg ⟨a.cells⟩] w λ e w'=>∃q:Unit,e=.returned (.tuple #[.bool false,.bool false])/\True/\SF w D (xH k bx bm x dn rs) [] [] (xW x) w':=by
 obtain⟨e1,e2,e3⟩:=XS.ui (a:=a) h
 have:=Er (k:=k) (bx:=bx) (bm:=bm) (dn:=dn) (rs:=rs) (D:=D) (A:=A) (w:=w) a ok hs
 rw[e1,e2,e3] at this
 exact this
theorem Kg(a:Ac)(ok:x.Ok)(h:x.st=false)(h1:x.a<x.got.length)(hs:SF w D (xH k bx bm x dn rs) A [] (xW x) w):Calls Tryz.prog 240 #[.pointer (some ⟨bx,0,none⟩),.agg ⟨a.cells⟩] w λ e w'=>∃q:Unit,e=.returned (.tuple #[.bool true,.bool false])/\True/\SF w D (xH k bx bm {x with a:=x.a+1} dn rs) [] [] (xW {x with a:=x.a+1}) w':=by
 obtain⟨e1,e2,e3⟩:=XS.il (a:=a) h h1
 have:=Er (k:=k) (bx:=bx) (bm:=bm) (dn:=dn) (rs:=rs) (D:=D) (A:=A) (w:=w) a ok hs
 rw[e1,e2,e3] at this
 exact this
theorem Q3(a:Ac)(ok:x.Ok)(h:x.st=false)(h1:¬x.a<x.got.length)(h2:x.fr=0)(hs:SF w D (xH k bx bm x dn rs) A [] (xW x) w):Calls Tryz.prog 240 #[.pointer (some ⟨bx,0,none⟩),.agg ⟨a.cells⟩] w λ e w'=>∃q:Unit,e=.returned (.tuple #[.bool false,.bool false])/\True/\SF w D (xH k bx bm {x with st:=true,nx:=a} dn rs) [] [] (xW {x with st:=true,nx:=a}) w':=by
 obtain⟨e1,e2,e3⟩:=XS.ue (a:=a) h h1 h2
 have:=Er (k:=k) (bx:=bx) (bm:=bm) (dn:=dn) (rs:=rs) (D:=D) (A:=A) (w:=w) a ok hs
 rw[e1,e2,e3] at this
 exact this
theorem Kt(a:Ac)(ok:x.Ok)(h:x.st=false)(h1:¬x.a<x.got.length)(h2:¬x.fr=0)(hs:SF w D (xH k bx bm x dn rs) A [] (xW x) w):Calls Tryz.prog 240 #[.pointer (some ⟨bx,0,none⟩),.agg ⟨a.cells⟩] w λ e w'=>∃q:Unit,e=.returned (.tuple #[.bool false,.bool true])/\True/\SF w D (xH k bx bm {x with fr:=x.fr-1} dn rs) [] [] (xW {x with fr:=x.fr-1}) w':=by
 obtain⟨e1,e2,e3⟩:=XS.Z1 (a:=a) h h1 h2
 have:=Er (k:=k) (bx:=bx) (bm:=bm) (dn:=dn) (rs:=rs) (D:=D) (A:=A) (w:=w) a ok hs
 rw[e1,e2,e3] at this
 exact this
theorem sq(c:Int)(ok:x.Ok)(h:x.st=true)(hs:SF w D (xH k bx bm x dn rs) A [] (xW x) w):Calls Tryz.prog 210 #[.pointer (some ⟨bx,0,none⟩),.int .i64 c] w λ e w'=>∃q:Unit,e=.returned (.int .i64 0)/\True/\SF w D (xH k bx bm x dn rs) [] [] (xW x) w':=by
 refine enter Tryz.func210 Tryz.ntmps210 rfl rfl (bW hs) ?_
 simp only[bX]
 refine cO ?_;refine iR ?_;refine bJ ?_;refine aD (cM (hs:=xH k bx bm x dn rs) (os:=xW x) (hc:=λ w hs=>Q6 ⟨1,c,0,0⟩ ok h hs)) (λ x11 h11=>?_);refine Ev ?_;refine J8 ?_;refine kB ?_;refine aH ?_
 refine bB (λ c14=>?_) (λ c14=>?_)
 ·exact nv c14
 ·try (exact absurd (by assumption) (by decide:¬(true=false)))
  refine jV ?_;refine J2 ?_;refine Bt ?_
  (refine aF ?_;refine aA ?_)
  refine Qn ?_;refine aH ?_
  refine bB (λ c43=>?_) (λ c43=>?_)
  ·try (exact absurd (by assumption) (by decide:¬(true=false)))
   refine cO ?_
   refine aT Tryz.results210 (λ w hw=>?_)
   exact⟨(),rfl,trivial,hw.aU⟩
  ·exact nv c43
theorem rm(c:Int)(ok:x.Ok)(h:x.st=false)(h1:¬x.a<x.got.length)(h2:x.fr=0)(hs:SF w D (xH k bx bm x dn rs) A [] (xW x) w):Calls Tryz.prog 210 #[.pointer (some ⟨bx,0,none⟩),.int .i64 c] w λ e w'=>∃q:Unit,e=.returned (.int .i64 0)/\True/\SF w D (xH k bx bm {x with st:=true,nx:=⟨1,c,0,0⟩} dn rs) [] [] (xW {x with st:=true,nx:=⟨1,c,0,0⟩}) w':=by
 refine enter Tryz.func210 Tryz.ntmps210 rfl rfl (bW hs) ?_
 simp only[bX]
 refine cO ?_;refine iR ?_;refine bJ ?_;refine aD (cM (hs:=xH k bx bm x dn rs) (os:=xW x) (hc:=λ w hs=>Q3 ⟨1,c,0,0⟩ ok h h1 h2 hs)) (λ x11 h11=>?_);refine Ev ?_;refine J8 ?_;refine kB ?_;refine aH ?_
 refine bB (λ c14=>?_) (λ c14=>?_)
 ·exact nv c14
 ·try (exact absurd (by assumption) (by decide:¬(true=false)))
  refine jV ?_;refine J2 ?_;refine Bt ?_
  (refine aF ?_;refine aA ?_)
  refine Qn ?_;refine aH ?_
  refine bB (λ c43=>?_) (λ c43=>?_)
  ·try (exact absurd (by assumption) (by decide:¬(true=false)))
   refine cO ?_
   refine aT Tryz.results210 (λ w hw=>?_)
   exact⟨(),rfl,trivial,hw.aU⟩
  ·exact nv c43
theorem G5(c:Int)(ok:x.Ok)(h:x.st=false)(h1:x.a<x.got.length)(hs:SF w D (xH k bx bm x dn rs) A [] (xW x) w):Calls Tryz.prog 210 #[.pointer (some ⟨bx,0,none⟩),.int .i64 c] w λ e w'=>∃q:Unit,e=.returned (.int .i64 (x.got.getD x.a 0))/\True/\SF w D (xH k bx bm {x with a:=x.a+1} dn rs) [] [] (xW {x with a:=x.a+1}) w':=by
 have hg:=ok.lg
 refine enter Tryz.func210 Tryz.ntmps210 rfl rfl (bW hs) ?_
 simp only[bX]
 refine cO ?_;refine iR ?_;refine bJ ?_;refine aD (cM (hs:=xH k bx bm x dn rs) (os:=xW x) (hc:=λ w hs=>Kg ⟨1,c,0,0⟩ ok h h1 hs)) (λ x11 h11=>?_);refine Ev ?_;refine J8 ?_;refine kB ?_;refine aH ?_
 refine bB (λ c14=>?_) (λ c14=>?_)
 ·exact nv c14
 ·try (exact absurd (by assumption) (by decide:¬(true=false)))
  refine jV ?_;refine J2 ?_;refine Bt ?_
  refine aI ?_
  refine Qn ?_;refine aH ?_
  refine bB (λ c43=>?_) (λ c43=>?_)
  ·exact nv c43
  ·try (exact absurd (by assumption) (by decide:¬(true=false)))
   refine jV ?_;refine gJ [0,1,2,3,4,5,6,7,8,9,10,11] ?_;refine D6 ?_;refine cA (i:=8) (hq:=(jG (m:=x.a+1) (n:=1) rf rf (by omega) (by omega))) (h:=?_);refine bQ (i:=9) (hq:=(dF (m:=x.got.length) (k:=x.a+1-1) (lst:=x.got) rf rf fZ fQ (.own .head) (by omega) (by omega))) (h:=?_);refine bQ (i:=10) (hq:=(fC (q:=x.a+1-1) (lst:=x.got) rf fQ (.own .head) (by omega))) (h:=?_);refine J7 ?_
   refine aT Tryz.results210 (λ w hw=>?_)
   exact⟨(),by rw[Nat.add_sub_cancel];rfl,trivial,hw.aU⟩
theorem cw(c:Int)(hc:c<=9223372036854775807)(ok:x.Ok)(h:x.st=false)(h1:¬x.a<x.got.length)(h2:¬x.fr=0)(hs:SF w D (xH k bx bm x dn rs) A [] (xW x) w):Calls Tryz.prog 210 #[.pointer (some ⟨bx,0,none⟩),.int .i64 c] w λ e w'=>∃q:Option Addr×Nat,e=.returned (.int .i64 (bU x.cs c))/\True/\SF w D (xH k bx bm {x with fr:=x.fr-1,acc:=up x.acc,got:=x.got++[bU x.cs c],pg:=q.1,kg:=q.2,a:=x.a+1} dn rs) [] [] (xW {x with fr:=x.fr-1,acc:=up x.acc,got:=x.got++[bU x.cs c],pg:=q.1,kg:=q.2,a:=x.a+1}) w':=by
 have hg:=ok.lg
 have ha:=ok.la
 have hlc:=ok.lc
 refine enter Tryz.func210 Tryz.ntmps210 rfl rfl (bW hs) ?_
 simp only[bX]
 refine cO ?_;refine iR ?_;refine bJ ?_;refine aD (cM (hs:=xH k bx bm x dn rs) (os:=xW x) (hc:=λ w hs=>Kt ⟨1,c,0,0⟩ ok h h1 h2 hs)) (λ x11 h11=>?_);refine Ev ?_;refine J8 ?_;refine kB ?_;refine aH ?_
 refine bB (λ c14=>?_) (λ c14=>?_)
 ·try (exact absurd (by assumption) (by decide:¬(true=false)))
  refine dK [(0,[]),(1,[]),(2,[]),(3,[]),(4,[]),(5,[]),(6,[]),(7,[]),(8,[]),(9,[]),(10,[]),(14,[]),(15,[]),(16,[]),(17,[]),(18,[]),(11,[5,17]),(12,[5,17]),(13,[17]),(19,[]),(20,[]),(21,[]),(22,[]),(23,[]),(24,[])] ?_;refine iH ?_;refine D6 ?_;refine Y0 ?_;refine cA (i:=18) (hq:=(oI (m:=x.a) (n:=1) rf rf (by omega))) (h:=?_);refine aZ (i:=11) (hq:=(cM (hc:=λ w hs=>sg (L:=x.L) (cs:=x.cs) hs c hc (by omega)))) (h:=λ x26 h26=>?_);refine bV (h:=λ x27=>?_);((refine cH (i:=13) (hq:=(bE.eN (sU (l:=x.got) (v:=bU x.cs c) (m:=x.got.length) rf rf .head rfl fin Zs fZ (by omega)) uD)) (h:=λ x28=>?_);try (refine eC (λ h28=>?_))));refine J4 ?_;refine kN (i:=21) (hq:=(by exact jA λ _=>fF rf cQ wn rf fQ rf rf kO)) (h:=λ _=>?_);refine J4 ?_;refine kN (i:=24) (hq:=(by exact jA λ _=>fF rf cQ wn rf fQ rf rf kO)) (h:=λ _=>?_);refine dY ?_;refine kB ?_;refine Bt ?_
  (refine aF ?_;refine aA ?_)
  refine Qn ?_;refine aH ?_
  refine bB (λ c43=>?_) (λ c43=>?_)
  ·exact nv c43
  ·try (exact absurd (by assumption) (by decide:¬(true=false)))
   refine jV ?_;refine gJ [0,1,2,3,4,5,6,7,8,9,10,11] ?_;refine D6 ?_;refine cA (i:=8) (hq:=(jG (m:=x.a+1) (n:=1) rf rf (by omega) (by omega))) (h:=?_);refine bQ (i:=9) (hq:=(dF (m:=x.got.length+1) (k:=x.a+1-1) (lst:=x.got++[bU x.cs c]) rf rf fZ fQ (.own .head) (by omega) (by rw[List.length_append,List.length_cons,List.length_nil];omega))) (h:=?_);refine bQ (i:=10) (hq:=(fC (q:=x.a+1-1) (lst:=x.got++[bU x.cs c]) rf fQ (.own .head) (by rw[List.length_append,List.length_cons,List.length_nil];omega))) (h:=?_);refine J7 ?_
   refine aT Tryz.results210 (λ w hw=>?_)
   rw[show x.got.length+1=(x.got++[bU x.cs c]).length by simp] at hw
   exact⟨x28,by rw[show(x.got++[bU x.cs c]).getD (x.a+1-1) 0=bU x.cs c by rw[show x.a+1-1=x.got.length by omega,jH,List.getElem?_append_right (Nat.le_refl _)];simp];rfl,trivial,hw.aU⟩
 ·exact nv c14
end
end

end Go.Proofs.YtbajmaoegmbfgaaGreat

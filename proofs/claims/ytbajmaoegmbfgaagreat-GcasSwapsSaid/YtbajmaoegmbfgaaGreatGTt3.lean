/- Tasks on an arena: runs. -/
import Derived.Test.YtbajmaoegmbfgaaGreatGTp2
import Derived.Test.YtbajmaoegmbfgaaGreatGTr3
import Derived.Test.YtbajmaoegmbfgaaGreatGNode3
import Derived.Test.YtbajmaoegmbfgaaGreatGAr8

set_option linter.unusedSimpArgs false
set_option linter.unusedVariables false
namespace Go.Proofs.YtbajmaoegmbfgaaGreat
section
open Go Go.RowKit Go.Ct
theorem nW:∀{t:Tr} {n c:Nat} (s:Mm),bR t n c->∀c',bR (iZ t s).1 n c'
 | .done _,_,_,_,_,_=>trivial
 | .load _ _,0,_,_,_,_=>trivial
 | .load _ _,_+1,_,_,h,_=>h
 | .kR _ _ _ _,0,_,_,_,_=>trivial
 | .kR _ _ _ _,_+1,_,_,h,_=>h
 | .alloc _ _ _,_,0,_,h,_=>h.elim
 | .alloc n i k,_,_+1,s,h,c'=>nW (s.push n i) (h _) c'
 | .cell _ _,_,0,_,h,_=>h.elim
 | .cell i k,_,_+1,s,h,c'=>nW ⟨s.nodes,s.cs++[i],s.gen⟩ (h _) c'
 | .gen _,_,0,_,h,_=>h.elim
 | .gen k,_,_+1,s,h,c'=>nW ⟨s.nodes,s.cs,s.gen+1⟩ (h _) c'
 | .node r k,_,_,s,h,c'=>nW (t:=k (cB s.nodes r)) s (h (cB s.nodes r)) c'
 | .stuck,_,_,_,h,_=>h.elim
theorem nY:∀{t:Tr} {n c:Nat} (s:Mm),bR t n c->eL (iZ t s).1=true
 | .done _,_,_,_,_=>rfl
 | .load _ _,_,_,_,_=>rfl
 | .kR _ _ _ _,_,_,_,_=>rfl
 | .alloc _ _ _,_,0,_,h=>h.elim
 | .alloc n i k,_,_+1,s,h=>nY (s.push n i) (h _)
 | .cell _ _,_,0,_,h=>h.elim
 | .cell i k,_,_+1,s,h=>nY ⟨s.nodes,s.cs++[i],s.gen⟩ (h _)
 | .gen _,_,0,_,h=>h.elim
 | .gen k,_,_+1,s,h=>nY ⟨s.nodes,s.cs,s.gen+1⟩ (h _)
 | .node r k,_,_,s,h=>nY (t:=k (cB s.nodes r)) s (h (cB s.nodes r))
 | .stuck,_,_,_,h=>h.elim
theorem sA:∀{t:Tr} {n c:Nat} (s:Mm),bR t n c->(iZ t s).2.nodes.length<=s.nodes.length+c/\(iZ t s).2.cs.length<=s.cs.length+c
 | .done _,_,_,_,_=>⟨Nat.le_add_right _ _,Nat.le_add_right _ _⟩
 | .load _ _,_,_,_,_=>⟨Nat.le_add_right _ _,Nat.le_add_right _ _⟩
 | .kR _ _ _ _,_,_,_,_=>⟨Nat.le_add_right _ _,Nat.le_add_right _ _⟩
 | .alloc _ _ _,_,0,_,h=>h.elim
 | .alloc n i k,_,c+1,s,h=>by
  have h2:=sA (s.push n i) (h ((s.nodes.length+1:Nat):Int))
  have hl:=iG (k:=n.kind) (cs:=s.cs) (init:=i)
  simp only[Mm.push,List.length_append,List.length_cons,List.length_nil] at h2
  show(iZ (k _) (s.push n i)).2.nodes.length<=_/\(iZ (k _) (s.push n i)).2.cs.length<=_
  simp only[Mm.push]
  omega
 | .cell _ _,_,0,_,h=>h.elim
 | .cell i k,_,c+1,s,h=>by
  have h2:=sA ⟨s.nodes,s.cs++[i],s.gen⟩ (h ((s.cs.length+1:Nat):Int))
  simp only[List.length_append,List.length_cons,List.length_nil] at h2
  show(iZ (k _) _).2.nodes.length<=_/\(iZ (k _) _).2.cs.length<=_
  omega
 | .gen _,_,0,_,h=>h.elim
 | .gen k,_,c+1,s,h=>by
  have h2:=sA ⟨s.nodes,s.cs,s.gen+1⟩ (h (s.gen+1))
  dsimp only at h2
  show(iZ (k _) _).2.nodes.length<=_/\(iZ (k _) _).2.cs.length<=_
  omega
 | .node r k,_,c,s,h=>sA (t:=k (cB s.nodes r)) s (h (cB s.nodes r))
 | .stuck,_,_,_,h=>h.elim
theorem fg{t:Tr}{n c:Nat}(s:Mm)(ht:bR t (n+1) c)(ha:eL t=true)(c':Nat):bR (Bj (t,s)).1 n c':=by
 cases t with
 | done r=>trivial
 | load x k=>exact nW _ (ht _) c'
 | kR x o m k=>exact nW _ (ht _) c'
 | alloc n i k=>cases ha
 | cell i k=>cases ha
 | gen k=>cases ha
 | node r k=>cases ha
 | stuck=>cases ha
theorem eh{t:Tr}{n c:Nat}(s:Mm)(ht:bR t (n+1) c)(ha:eL t=true):eL (Bj (t,s)).1=true:=by
 cases t with
 | done r=>rfl
 | load x k=>exact nY _ (ht _)
 | kR x o m k=>exact nY _ (ht _)
 | alloc n i k=>cases ha
 | cell i k=>cases ha
 | gen k=>cases ha
 | node r k=>cases ha
 | stuck=>cases ha
theorem gq{t:Tr}{n c:Nat}(s:Mm)(ht:bR t (n+1) c)(ha:eL t=true):(Bj (t,s)).2.nodes.length<=s.nodes.length+64/\(Bj (t,s)).2.cs.length<=s.cs.length+64:=by
 cases t with
 | done r=>exact⟨Nat.le_add_right _ _,Nat.le_add_right _ _⟩
 | load x k=>exact sA s (ht _)
 | kR x o m k =>
  have:=sA ⟨s.nodes,eT s.cs x o m,s.gen⟩ (ht (l8 s.cs x o))
  simp only[iF] at this
  exact this
 | alloc n i k=>cases ha
 | cell i k=>cases ha
 | gen k=>cases ha
 | node r k=>cases ha
 | stuck=>cases ha
theorem Hu{t:Tr}{n:Nat}{s:Mm}(ht:bR t n 64)(ha:eL t=true):∀k,k<=n->bR (uT (t,s) k).1 (n-k) 64/\eL (uT (t,s) k).1=true/\(uT (t,s) k).2.nodes.length<=s.nodes.length+64*k/\(uT (t,s) k).2.cs.length<=s.cs.length+64*k
 | 0,_=>⟨ht,ha,Nat.le_refl _,Nat.le_refl _⟩
 | k+1,h=>by
  obtain⟨h1,h2,h3,h4⟩:=Hu ht ha k (by omega)
  rw[show n-k=n-(k+1)+1 by omega] at h1
  have h5:(Bj (uT (t,s) k)).2.nodes.length<=(uT (t,s) k).2.nodes.length+64/\(Bj (uT (t,s) k)).2.cs.length<=(uT (t,s) k).2.cs.length+64:=gq (uT (t,s) k).2 h1 h2
  exact⟨fg _ h1 h2 64,eh _ h1 h2,by show(Bj (uT (t,s) k)).2.nodes.length<=_;omega,by show(Bj (uT (t,s) k)).2.cs.length<=_;omega⟩
def A7(p:Tr×Mm):Nat->Nat
 | 0=>0
 | k+1=>A7 p k+if(uT p k).1.live=true then 1 else 0
theorem lz{p:Tr×Mm}(h:p.1.live=false):Bj p=p:=by
 obtain⟨t,s⟩:=p
 cases t<;>first|rfl|cases h
theorem Q3{p:Tr×Mm}{j:Nat}(h:(uT p j).1.live=false):∀k,uT p (j+k)=uT p j/\A7 p (j+k)=A7 p j
 | 0=>⟨rfl,rfl⟩
 | k+1=>by
  obtain⟨h1,h2⟩:=Q3 h k
  refine⟨?_,?_⟩
  ·show Bj (uT p (j+k))=_
   rw[h1,lz h]
  ·show A7 p (j+k)+(if(uT p (j+k)).1.live=true then 1 else 0)=_
   rw[h1,h2,h]
   rfl
theorem Za{p:Tr×Mm}{j k:Nat}(h:(uT p j).1.live=false)(hk:j<=k):uT p k=uT p j/\A7 p k=A7 p j:=by
 have:=Q3 h (k-j)
 rwa [show j+(k-j)=k by omega] at this
structure TkI(b:Nat)(p:Tr×Mm)(a:AS)(B:Fr)(y:Cd×Fr×AS):Prop where
 rp:lP b p.1 p.2 y.1 p.2 (y.2.1++B)
 mm:y.2.2.mm=p.2
 ok:y.2.2.Ok
 gr:a.jO y.2.2 y.2.1
theorem TkI.of{b:Nat}{p:Tr×Mm}{a:AS}{B:Fr}{y:Cd×Fr×AS}(h:nV b p a B y):TkI b p a B y:=⟨h.1.1,h.1.2,h.2.1,h.2.2⟩
theorem ir{b:Nat}{t:Tr}{s:Mm}{c:Cd}{B:Fr}(h:lP b t s c s B)(ha:eL t=true):(c.a.k≠0↔t.live=true):=by
 have:=(h.kind ha).1
 cases hl:t.live with
 | false=>rw[hl] at this;exact⟨λ hn=>absurd (this.2 rfl) hn,λ h=>nomatch h⟩
 | true=>rw[hl] at this;exact⟨λ _=>rfl,λ _ e=>nomatch this.1 e⟩
section
variable{D:List Nat}{A B:Fr}{a:AS}{b bt n:Nat}{w:World}{c:Cd}{t:Tr}
theorem jy{most m:Nat}(ht:bR t m 64)(hmm:most<=m)(ha:eL t=true)(hr:lP b t a.mm c a.mm B)(ok:a.Ok)(hm:a.mm.nodes.length+64*most<=137438953472/\a.mm.cs.length+64*most<=137438953472)(hn:n+most<1000000000)(hA:∀f∈aM a.L,f∈A)(hB:∀x∈B,x∈A)(hs:SF w D [(bt,tO b c n),(b,fT a)] A [] (gD a) w) :
    Calls Tryz.prog 30 #[.pointer (some ⟨bt,0,none⟩),.int .i64 ((most:Nat):Int)] w λ e w'=>∃y:Cd×Fr×AS,e=.returned (.int .i64 ((A7 (t,a.mm) most:Nat):Int))/\TkI b (uT (t,a.mm) most) a B y/\SF w D [(bt,tO b y.1 (n+A7 (t,a.mm) most)),(b,fT y.2.2)] [] y.2.1 (gD y.2.2) w':=by
  have hall:=λ k hk=>Hu (s:=a.mm) ht ha k hk
  refine enter Tryz.func30 Tryz.ntmps30 rfl rfl hs ?_
  simp only[bX]
  refine cO ?_;refine cO ?_;refine Cv ?_
  refine mV [5,6,7,8,9,10,11,12,13,14,15,16,17,18,19,20,21,22,23,24] (λ y:Nat×Cd×Fr×AS=>[(5,.int .i64 ((y.1:Nat):Int))]) (λ y=>y.1<=most/\TkI b (uT (t,a.mm) y.1) a B y.2/\A7 (t,a.mm) y.1=y.1) (λ y=>[(bt,tO b y.2.1 (n+y.1)),(b,fT y.2.2.2)]) (λ y=>y.2.2.1) (λ y=>gD y.2.2.2) (λ y=>most-y.1) ((0,c,[],a)) (⟨Nat.zero_le _,⟨hr,rfl,ok,AS.jO.refl a⟩,rfl⟩) (λ y f hx=>?_) (hw0:=λ w hw=>hw)
  dsimp only[gX,List.map,List.cons_append,List.nil_append]
  obtain⟨h1,h2,h3,h4⟩:=hall y.1 (by omega)
  have hrp:lP b (uT (t,a.mm) y.1).1 y.2.2.2.mm y.2.1 y.2.2.2.mm (y.2.2.1++B):=by rw[hx.2.1.mm];exact hx.2.1.rp
  have hsm:y.2.2.2.mm.Small:=by rw[hx.2.1.mm];exact⟨by omega,by omega⟩
  have hli:=ir hx.2.1.rp h2
  refine Cz ?_;refine Bq ?_
  (refine dZ 9 (λ g9=>?_) (λ g9=>?_)<;>(first|refine aI ?_|(refine aF ?_;refine aA ?_)))
  all_goals ((first|refine aI ?_|(refine aF ?_;refine aT (cV (hc:=λ w1 hw=>vF (hw.st.at cQ))) (λ x11=>?_)));refine Nk ?_;refine aA ?_)
  all_goals (first|refine aI ?_|(refine dZ 14 (λ g14=>?_) (λ g14=>?_)<;>(first|refine aI ?_|(refine aF ?_;refine aA ?_))))
  all_goals ((first|refine aI ?_|(refine aF ?_;refine dC ?_));refine J6 ?_;refine Nk ?_;refine aH ?_)
  all_goals
   refine bB (λ c20=>?_) (λ c20=>?_)
   · try exact nv c20
     all_goals (refine bA ?_;refine cP ?_;refine J2 ?_;refine aD (cM (V:=λ _:Cd×Fr×AS=>.tuple #[]) (hs:=[(bt,tO b y.2.1 (n+y.1)),(b,fT y.2.2.2)]) (os:=gD y.2.2.2) (Fc:=λ z=>z.2.1) (A0:=aM y.2.2.2.L++(y.2.2.1++B)) (hs':=λ z=>[(bt,tO b z.1 (n+y.1+1)),(b,fT z.2.2)]) (os':=λ z=>gD z.2.2) (hA:=aY.of λ f hf=>(List.mem_append.1 hf).elim (λ h1=>(hx.2.1.gr.fam f h1).elim .inl λ h2=>h2.elim (λ h3=>.inr (.inl (hA f h3))) λ h3=>.inr (.inr (.inl h3))) λ h1=>(List.mem_append.1 h1).elim (λ h2=>.inr (.inr (.inl h2))) λ h2=>.inr (.inl (hB f h2))) (hc:=λ w hw=>Jo (i:=m-(y.1+1)) (m:=64) (by rw[show m-(y.1+1)+1=m-y.1 by omega];exact h1) h2 (hli.1 g14) hrp hx.2.1.ok hsm (by omega) (λ f hf=>List.mem_append_left _ hf) (λ f hf=>List.mem_append_right _ hf) hw)) (λ x22 h22=>?_);refine aH ?_;refine uJ ?_;refine fH ?_)
     all_goals
      refine iP ((y.1+1,x22.1,x22.2.1++y.2.2.1,x22.2.2)) ?_ (hw1:=λ w hw=>hw)
      · have e1:uT (t,a.mm) (y.1+1)=Bj ((uT (t,a.mm) y.1).1,y.2.2.2.mm):=by rw[hx.2.1.mm];rfl
        have h5:=TkI.of h22.1
        have hlv:=hli.1 g14
        refine⟨by show y.1+1<=most;omega,⟨?_,?_,h5.ok,hx.2.1.gr.trans h5.gr⟩,?_⟩
        · rw[e1]
          show lP b _ _ _ _ (x22.2.1++y.2.2.1++B)
          rw[List.append_assoc]
          exact h5.rp
        · rw[e1];exact h5.mm
        · show A7 (t,a.mm) y.1+_=y.1+1
          rw[hlv,hx.2.2]
          rfl
   · try exact nv c20
     all_goals (refine bM rfl ?_;refine J2 ?_;refine J1 ?_)
     all_goals
      refine aS Tryz.results30 (λ w hw=>?_)
      have e:uT (t,a.mm) most=uT (t,a.mm) y.1/\A7 (t,a.mm) most=y.1:=by
       first
        | (have h:=Za (Bool.eq_false_iff.2 λ h=>hli.2 h g14) hx.1;exact⟨h.1,h.2.trans hx.2.2⟩)
        | (have em:most=y.1:=(by have:=hx.1;omega);rw[em];exact⟨rfl,hx.2.2⟩)
      rw[e.1,e.2]
      exact⟨y.2,rfl,hx.2.1,hw.ret (List.Sublist.refl _) (aX.iD λ f hf=>hf) (List.Sublist.refl _)⟩
end
end

/- An execution of the reference: its block, its own lists; the rules for calls of its methods. -/
section
open Go Go.RowKit Go.Ct
def xoC(k:Cl)(bm:Nat)(x:XS)(dn:Bool)(rs:Rs):List Value:=[.pointer (some ⟨bm,0,none⟩),
 .int .i64 k.kind,.int .i64 k.t.root,.bool k.t.ro,.int .i64 k.a,.int .i64 k.b,.int .i64 k.n,.int .i64 k.index,.int .u64 k.hash,.int .u64 k.mask,.string k.key,.int .u64 k.val,.int .u64 k.exp,.int .i64 k.Iq,.bool k.only,
 .bool false,.slice none 0 0,.slice none 0 0,.int .i64 0,.bool false,.int .u64 0,.string ⟨#[]⟩,.int .i64 0,.int .i64 0,.int .i64 0,.bool false,
 .slice x.pg x.got.length x.kg,.slice x.pm x.made.length x.km,.slice x.pl x.cel.length x.kl,.slice x.pe x.gns.length x.ke,
 .int .i64 ((x.a:Nat):Int),.int .i64 ((x.m:Nat):Int),.int .i64 ((x.c:Nat):Int),.int .i64 ((x.g:Nat):Int),.int .i64 ((x.fr:Nat):Int),.bool x.st,
 .int .i64 x.nx.k,.int .i64 x.nx.c,.int .i64 x.nx.o,.int .i64 x.nx.n,.bool dn,
 .int .i64 rs.err,.bool rs.found,.int .u64 rs.val,.string rs.key,.int .i64 rs.gE,.int .i64 rs.ref,.int .i64 rs.root,.bool rs.ro,
 .bool false,.slice none 0 0,.slice none 0 0]
abbrev xO(k:Cl)(bm:Nat)(x:XS)(dn:Bool)(rs:Rs):Obj:=.cells ⟨xoC k bm x dn rs⟩ 153 (0,0)
abbrev xM(x:XS):Obj:=mO x.L x.cs x.gen x.acc x.pn x.cn x.pc x.cc
abbrev xW(x:XS):List Ow:=[⟨x.pg,aG x.got,x.kg,37,1⟩,⟨x.pm,aG x.made,x.km,37,1⟩,⟨x.pl,aG x.cel,x.kl,27,1⟩,⟨x.pe,aG x.gns,x.ke,3,1⟩,⟨x.pn,gZ x.L,x.cn,47,14⟩,⟨x.pc,aG x.cs,x.cc,37,1⟩]
abbrev xH(k:Cl)(bx bm:Nat)(x:XS)(dn:Bool)(rs:Rs):List (Nat×Obj):=[(bx,xO k bm x dn rs),(bm,xM x)]
theorem aAW{w0 w:World}{D:List Nat}{k:Cl}{bx bm:Nat}{x:XS}{dn:Bool}{rs:Rs}{A F:Fr}(h:SF w0 D (xH k bx bm x dn rs) A F (xW x) w) :
  SF w0 D [(bx,.cells ⟨[.pointer (some ⟨bm,0,none⟩),
 .int .i64 k.kind,.int .i64 k.t.root,.bool k.t.ro,.int .i64 k.a,.int .i64 k.b,.int .i64 k.n,.int .i64 k.index,.int .u64 k.hash,.int .u64 k.mask,.string k.key,.int .u64 k.val,.int .u64 k.exp,.int .i64 k.Iq,.bool k.only,
 .bool false,.slice none 0 0,.slice none 0 0,.int .i64 0,.bool false,.int .u64 0,.string ⟨#[]⟩,.int .i64 0,.int .i64 0,.int .i64 0,.bool false,
 .slice x.pg x.got.length x.kg,.slice x.pm x.made.length x.km,.slice x.pl x.cel.length x.kl,.slice x.pe x.gns.length x.ke,
 .int .i64 ((x.a:Nat):Int),.int .i64 ((x.m:Nat):Int),.int .i64 ((x.c:Nat):Int),.int .i64 ((x.g:Nat):Int),.int .i64 ((x.fr:Nat):Int),.bool x.st,
 .int .i64 x.nx.k,.int .i64 x.nx.c,.int .i64 x.nx.o,.int .i64 x.nx.n,.bool dn,
 .int .i64 rs.err,.bool rs.found,.int .u64 rs.val,.string rs.key,.int .i64 rs.gE,.int .i64 rs.ref,.int .i64 rs.root,.bool rs.ro,
 .bool false,.slice none 0 0,.slice none 0 0]⟩ 153 (0,0)),(bm,mO x.L x.cs x.gen x.acc x.pn x.cn x.pc x.cc)] A F [⟨x.pg,aG x.got,x.kg,37,1⟩,⟨x.pm,aG x.made,x.km,37,1⟩,⟨x.pl,aG x.cel,x.kl,27,1⟩,⟨x.pe,aG x.gns,x.ke,3,1⟩,⟨x.pn,gZ x.L,x.cn,47,14⟩,⟨x.pc,aG x.cs,x.cc,37,1⟩] w:=h
theorem bW{w0 w:World}{D:List Nat}{k:Cl}{bx bm:Nat}{x:XS}{dn:Bool}{rs:Rs}{A F:Fr}(h:SF w0 D (xH k bx bm x dn rs) A F (xW x) w) :
  SF w0 D [(bx,.cells ⟨xoC k bm x dn rs⟩ 153 (0,0)),(bm,mO x.L x.cs x.gen x.acc x.pn x.cn x.pc x.cc)] A F [⟨x.pg,aG x.got,x.kg,37,1⟩,⟨x.pm,aG x.made,x.km,37,1⟩,⟨x.pl,aG x.cel,x.kl,27,1⟩,⟨x.pe,aG x.gns,x.ke,3,1⟩,⟨x.pn,gZ x.L,x.cn,47,14⟩,⟨x.pc,aG x.cs,x.cc,37,1⟩] w:=h
end

/- Executions of the reference: known, load, cas. -/
end Go.Proofs.YtbajmaoegmbfgaaGreat
namespace Go.Ct
section
def XS.kn(x:XS)(a:Ac):XS:=if x.st=true then x else if x.a<x.got.length then{x with a:=x.a+1} else if x.fr=0 then{x with st:=true,nx:=a} else{x with fr:=x.fr-1}
def XS.bI(x:XS):Bool:=!x.st&&decide (x.a<x.got.length)
def XS.now(x:XS):Bool:=!x.st&&!decide (x.a<x.got.length)&&!decide (x.fr=0)
theorem XS.u9{x:XS}{a:Ac}(h:x.st=true):x.kn a=x/\x.bI=false/\x.now=false:=⟨if_pos h,by simp[XS.bI,h],by simp[XS.now,h]⟩
theorem XS.fj{x:XS}{a:Ac}(h:x.st=false)(h1:x.a<x.got.length):x.kn a={x with a:=x.a+1}/\x.bI=true/\x.now=false:=⟨by unfold XS.kn;rw[if_neg (by rw[h];decide),if_pos h1],by simp[XS.bI,h,h1],by simp[XS.now,h1]⟩
theorem XS.ub{x:XS}{a:Ac}(h:x.st=false)(h1:¬x.a<x.got.length)(h2:x.fr=0):x.kn a={x with st:=true,nx:=a}/\x.bI=false/\x.now=false:=⟨by unfold XS.kn;rw[if_neg (by rw[h];decide),if_neg h1,if_pos h2],by simp[XS.bI,h1],by simp[XS.now,h2]⟩
theorem XS.kf{x:XS}{a:Ac}(h:x.st=false)(h1:¬x.a<x.got.length)(h2:¬x.fr=0):x.kn a={x with fr:=x.fr-1}/\x.bI=false/\x.now=true:=⟨by unfold XS.kn;rw[if_neg (by rw[h];decide),if_neg h1,if_neg h2],by simp[XS.bI,h1],by simp[XS.now,h,h1,h2]⟩
end
end Go.Ct
namespace Go.Proofs.YtbajmaoegmbfgaaGreat
section
open Go Go.RowKit Go.Ct
section
variable{k:Cl}{bx bm:Nat}{x:XS}{dn:Bool}{rs:Rs}{D:List Nat}{A:Fr}{w:World}
theorem Ea(a:Ac)(ok:x.Ok)(hs:SF w D (xH k bx bm x dn rs) A [] (xW x) w):Calls Tryz.prog 240 #[.pointer (some ⟨bx,0,none⟩),.agg ⟨a.cells⟩] w λ e w'=>∃q:Unit,e=.returned (.tuple #[.bool x.bI,.bool x.now])/\True/\SF w D (xH k bx bm (x.kn a) dn rs) [] [] (xW (x.kn a)) w':=by
 have h1:=ok.lg
 have h2:=ok.la
 have h3:=ok.fr
 refine enter Tryz.func240 Tryz.ntmps240 rfl rfl (aAW hs) ?_
 simp only[bX]
 refine J0 ?_;refine bK (λ x3=>?_);refine J8 ?_;refine aV ?_;refine lR ?_;refine aH ?_
 refine bB (λ c9=>?_) (λ c9=>?_)
 ·refine Nm ?_
  refine bC Tryz.results240 (λ w hw=>?_)
  obtain⟨e1,e2,e3⟩:=XS.u9 (a:=a) c9
  rw[e1,e2,e3]
  exact⟨(),rfl,trivial,hw.aU⟩
 ·refine jY ?_;refine aV ?_;refine gF [0,1,2,3,4,5,6,7,8,9] ?_;refine D1 ?_;refine oA ?_;refine A1 ?_;refine dW ?_
  refine bB (λ c19=>?_) (λ c19=>?_)
  ·refine lR ?_;refine Fi ?_;refine N7 ?_;refine Nm ?_
   refine bC Tryz.results240 (λ w hw=>?_)
   obtain⟨e1,e2,e3⟩:=XS.fj (a:=a) c9 (by omega)
   rw[e1,e2,e3]
   exact⟨(),rfl,trivial,hw.aU⟩
  ·refine jY ?_;refine lR ?_;refine uB ?_
   refine bB (λ c31=>?_) (λ c31=>?_)
   ·refine aV ?_;refine dI [(0,[]),(1,[]),(2,[]),(3,[]),(4,[]),(5,[2]),(6,[]),(7,[]),(8,[])] ?_;refine iH ?_;refine bG ?_;refine J4 ?_;refine lT (h:=λ _=>?_);refine J4 ?_;refine kH (i:=8) (hq:=(jF λ _=>lK (off:=36) (vs:=a.cells) rf cQ rf rfl eA (Nat.le_of_ble_eq_true rfl) rf lJ)) (h:=λ _=>?_);refine dW ?_;refine Nm ?_
    refine bC Tryz.results240 (λ w hw=>?_)
    obtain⟨e1,e2,e3⟩:=XS.ub (a:=a) c9 (by omega) (by omega)
    rw[e1,e2,e3]
    exact⟨(),rfl,trivial,hw.aU⟩
   ·refine uk ?_;refine rX ?_;refine N7 ?_;refine Nm ?_
    refine bC Tryz.results240 (λ w hw=>?_)
    obtain⟨e1,e2,e3⟩:=XS.kf (a:=a) c9 (by omega) (by omega)
    rw[e1,e2,e3]
    exact⟨(),rfl,trivial,hw.aU⟩
theorem Pb(a:Ac)(ok:x.Ok)(h:x.st=true)(hs:SF w D (xH k bx bm x dn rs) A [] (xW x) w):Calls Tryz.prog 240 #[.pointer (some ⟨bx,0,none⟩),.agg ⟨a.cells⟩] w λ e w'=>∃q:Unit,e=.returned (.tuple #[.bool false,.bool false])/\True/\SF w D (xH k bx bm x dn rs) [] [] (xW x) w':=by
 obtain⟨e1,e2,e3⟩:=XS.u9 (a:=a) h
 have:=Ea (k:=k) (bx:=bx) (bm:=bm) (dn:=dn) (rs:=rs) (D:=D) (A:=A) (w:=w) a ok hs
 rw[e1,e2,e3] at this
 exact this
theorem Kl(a:Ac)(ok:x.Ok)(h:x.st=false)(h1:x.a<x.got.length)(hs:SF w D (xH k bx bm x dn rs) A [] (xW x) w):Calls Tryz.prog 240 #[.pointer (some ⟨bx,0,none⟩),.agg ⟨a.cells⟩] w λ e w'=>∃q:Unit,e=.returned (.tuple #[.bool true,.bool false])/\True/\SF w D (xH k bx bm {x with a:=x.a+1} dn rs) [] [] (xW {x with a:=x.a+1}) w':=by
 obtain⟨e1,e2,e3⟩:=XS.fj (a:=a) h h1
 have:=Ea (k:=k) (bx:=bx) (bm:=bm) (dn:=dn) (rs:=rs) (D:=D) (A:=A) (w:=w) a ok hs
 rw[e1,e2,e3] at this
 exact this
theorem Oj(a:Ac)(ok:x.Ok)(h:x.st=false)(h1:¬x.a<x.got.length)(h2:x.fr=0)(hs:SF w D (xH k bx bm x dn rs) A [] (xW x) w):Calls Tryz.prog 240 #[.pointer (some ⟨bx,0,none⟩),.agg ⟨a.cells⟩] w λ e w'=>∃q:Unit,e=.returned (.tuple #[.bool false,.bool false])/\True/\SF w D (xH k bx bm {x with st:=true,nx:=a} dn rs) [] [] (xW {x with st:=true,nx:=a}) w':=by
 obtain⟨e1,e2,e3⟩:=XS.ub (a:=a) h h1 h2
 have:=Ea (k:=k) (bx:=bx) (bm:=bm) (dn:=dn) (rs:=rs) (D:=D) (A:=A) (w:=w) a ok hs
 rw[e1,e2,e3] at this
 exact this
theorem Jw(a:Ac)(ok:x.Ok)(h:x.st=false)(h1:¬x.a<x.got.length)(h2:¬x.fr=0)(hs:SF w D (xH k bx bm x dn rs) A [] (xW x) w):Calls Tryz.prog 240 #[.pointer (some ⟨bx,0,none⟩),.agg ⟨a.cells⟩] w λ e w'=>∃q:Unit,e=.returned (.tuple #[.bool false,.bool true])/\True/\SF w D (xH k bx bm {x with fr:=x.fr-1} dn rs) [] [] (xW {x with fr:=x.fr-1}) w':=by
 obtain⟨e1,e2,e3⟩:=XS.kf (a:=a) h h1 h2
 have:=Ea (k:=k) (bx:=bx) (bm:=bm) (dn:=dn) (rs:=rs) (D:=D) (A:=A) (w:=w) a ok hs
 rw[e1,e2,e3] at this
 exact this
theorem qd(c:Int)(ok:x.Ok)(h:x.st=true)(hs:SF w D (xH k bx bm x dn rs) A [] (xW x) w):Calls Tryz.prog 210 #[.pointer (some ⟨bx,0,none⟩),.int .i64 c] w λ e w'=>∃q:Unit,e=.returned (.int .i64 0)/\True/\SF w D (xH k bx bm x dn rs) [] [] (xW x) w':=by
 refine enter Tryz.func210 Tryz.ntmps210 rfl rfl (bW hs) ?_
 simp only[bX]
 refine cO ?_;refine iU ?_;refine bJ ?_;refine aD (cM (hs:=xH k bx bm x dn rs) (os:=xW x) (hc:=λ w hs=>Pb ⟨1,c,0,0⟩ ok h hs)) (λ x11 h11=>?_);refine E6 ?_;refine J8 ?_;refine jV ?_;refine aH ?_
 refine bB (λ c14=>?_) (λ c14=>?_)
 ·exact nv c14
 ·try (exact absurd (by assumption) (by decide:¬(true=false)))
  refine jY ?_;refine J2 ?_;refine Ci ?_
  (refine aF ?_;refine aA ?_)
  refine Nk ?_;refine aH ?_
  refine bB (λ c43=>?_) (λ c43=>?_)
  ·try (exact absurd (by assumption) (by decide:¬(true=false)))
   refine cO ?_
   refine aS Tryz.results210 (λ w hw=>?_)
   exact⟨(),rfl,trivial,hw.aU⟩
  ·exact nv c43
theorem ru(c:Int)(ok:x.Ok)(h:x.st=false)(h1:¬x.a<x.got.length)(h2:x.fr=0)(hs:SF w D (xH k bx bm x dn rs) A [] (xW x) w):Calls Tryz.prog 210 #[.pointer (some ⟨bx,0,none⟩),.int .i64 c] w λ e w'=>∃q:Unit,e=.returned (.int .i64 0)/\True/\SF w D (xH k bx bm {x with st:=true,nx:=⟨1,c,0,0⟩} dn rs) [] [] (xW {x with st:=true,nx:=⟨1,c,0,0⟩}) w':=by
 refine enter Tryz.func210 Tryz.ntmps210 rfl rfl (bW hs) ?_
 simp only[bX]
 refine cO ?_;refine iU ?_;refine bJ ?_;refine aD (cM (hs:=xH k bx bm x dn rs) (os:=xW x) (hc:=λ w hs=>Oj ⟨1,c,0,0⟩ ok h h1 h2 hs)) (λ x11 h11=>?_);refine E6 ?_;refine J8 ?_;refine jV ?_;refine aH ?_
 refine bB (λ c14=>?_) (λ c14=>?_)
 ·exact nv c14
 ·try (exact absurd (by assumption) (by decide:¬(true=false)))
  refine jY ?_;refine J2 ?_;refine Ci ?_
  (refine aF ?_;refine aA ?_)
  refine Nk ?_;refine aH ?_
  refine bB (λ c43=>?_) (λ c43=>?_)
  ·try (exact absurd (by assumption) (by decide:¬(true=false)))
   refine cO ?_
   refine aS Tryz.results210 (λ w hw=>?_)
   exact⟨(),rfl,trivial,hw.aU⟩
  ·exact nv c43
theorem H5(c:Int)(ok:x.Ok)(h:x.st=false)(h1:x.a<x.got.length)(hs:SF w D (xH k bx bm x dn rs) A [] (xW x) w):Calls Tryz.prog 210 #[.pointer (some ⟨bx,0,none⟩),.int .i64 c] w λ e w'=>∃q:Unit,e=.returned (.int .i64 (x.got.getD x.a 0))/\True/\SF w D (xH k bx bm {x with a:=x.a+1} dn rs) [] [] (xW {x with a:=x.a+1}) w':=by
 have hg:=ok.lg
 refine enter Tryz.func210 Tryz.ntmps210 rfl rfl (bW hs) ?_
 simp only[bX]
 refine cO ?_;refine iU ?_;refine bJ ?_;refine aD (cM (hs:=xH k bx bm x dn rs) (os:=xW x) (hc:=λ w hs=>Kl ⟨1,c,0,0⟩ ok h h1 hs)) (λ x11 h11=>?_);refine E6 ?_;refine J8 ?_;refine jV ?_;refine aH ?_
 refine bB (λ c14=>?_) (λ c14=>?_)
 ·exact nv c14
 ·try (exact absurd (by assumption) (by decide:¬(true=false)))
  refine jY ?_;refine J2 ?_;refine Ci ?_
  refine aI ?_
  refine Nk ?_;refine aH ?_
  refine bB (λ c43=>?_) (λ c43=>?_)
  ·exact nv c43
  ·try (exact absurd (by assumption) (by decide:¬(true=false)))
   refine jY ?_;refine gF [0,1,2,3,4,5,6,7,8,9,10,11] ?_;refine D1 ?_;refine cC (i:=8) (hq:=(jC (m:=x.a+1) (n:=1) rf rf (by omega) (by omega))) (h:=?_);refine bQ (i:=9) (hq:=(dD (m:=x.got.length) (k:=x.a+1-1) (lst:=x.got) rf rf fU fK (.own .head) (by omega) (by omega))) (h:=?_);refine bQ (i:=10) (hq:=(fD (q:=x.a+1-1) (lst:=x.got) rf fK (.own .head) (by omega))) (h:=?_);refine J7 ?_
   refine aS Tryz.results210 (λ w hw=>?_)
   exact⟨(),by rw[Nat.add_sub_cancel];rfl,trivial,hw.aU⟩
theorem dm(c:Int)(hc:c<=9223372036854775807)(ok:x.Ok)(h:x.st=false)(h1:¬x.a<x.got.length)(h2:¬x.fr=0)(hs:SF w D (xH k bx bm x dn rs) A [] (xW x) w):Calls Tryz.prog 210 #[.pointer (some ⟨bx,0,none⟩),.int .i64 c] w λ e w'=>∃q:Option Addr×Nat,e=.returned (.int .i64 (bU x.cs c))/\True/\SF w D (xH k bx bm {x with fr:=x.fr-1,acc:=up x.acc,got:=x.got++[bU x.cs c],pg:=q.1,kg:=q.2,a:=x.a+1} dn rs) [] [] (xW {x with fr:=x.fr-1,acc:=up x.acc,got:=x.got++[bU x.cs c],pg:=q.1,kg:=q.2,a:=x.a+1}) w':=by
 have hg:=ok.lg
 have ha:=ok.la
 have hlc:=ok.lc
 refine enter Tryz.func210 Tryz.ntmps210 rfl rfl (bW hs) ?_
 simp only[bX]
 refine cO ?_;refine iU ?_;refine bJ ?_;refine aD (cM (hs:=xH k bx bm x dn rs) (os:=xW x) (hc:=λ w hs=>Jw ⟨1,c,0,0⟩ ok h h1 h2 hs)) (λ x11 h11=>?_);refine E6 ?_;refine J8 ?_;refine jV ?_;refine aH ?_
 refine bB (λ c14=>?_) (λ c14=>?_)
 ·try (exact absurd (by assumption) (by decide:¬(true=false)))
  refine dI [(0,[]),(1,[]),(2,[]),(3,[]),(4,[]),(5,[]),(6,[]),(7,[]),(8,[]),(9,[]),(10,[]),(14,[]),(15,[]),(16,[]),(17,[]),(18,[]),(11,[5,17]),(12,[5,17]),(13,[17]),(19,[]),(20,[]),(21,[]),(22,[]),(23,[]),(24,[])] ?_;refine iH ?_;refine D1 ?_;refine W9 ?_;refine cC (i:=18) (hq:=(oH (m:=x.a) (n:=1) rf rf (by omega))) (h:=?_);refine aZ (i:=11) (hq:=(cM (hc:=λ w hs=>qe (L:=x.L) (cs:=x.cs) hs c hc (by omega)))) (h:=λ x26 h26=>?_);refine bV (h:=λ x27=>?_);((refine cH (i:=13) (hq:=(bE.eM (tH (l:=x.got) (v:=bU x.cs c) (m:=x.got.length) rf rf .head rfl fin Zf fU (by omega)) uE)) (h:=λ x28=>?_);try (refine dY (λ h28=>?_))));refine J4 ?_;refine kH (i:=21) (hq:=(by exact jF λ _=>fC rf cQ wn rf fK rf rf lJ)) (h:=λ _=>?_);refine J4 ?_;refine kH (i:=24) (hq:=(by exact jF λ _=>fC rf cQ wn rf fK rf rf lJ)) (h:=λ _=>?_);refine dW ?_;refine jV ?_;refine Ci ?_
  (refine aF ?_;refine aA ?_)
  refine Nk ?_;refine aH ?_
  refine bB (λ c43=>?_) (λ c43=>?_)
  ·exact nv c43
  ·try (exact absurd (by assumption) (by decide:¬(true=false)))
   refine jY ?_;refine gF [0,1,2,3,4,5,6,7,8,9,10,11] ?_;refine D1 ?_;refine cC (i:=8) (hq:=(jC (m:=x.a+1) (n:=1) rf rf (by omega) (by omega))) (h:=?_);refine bQ (i:=9) (hq:=(dD (m:=x.got.length+1) (k:=x.a+1-1) (lst:=x.got++[bU x.cs c]) rf rf fU fK (.own .head) (by omega) (by rw[List.length_append,List.length_cons,List.length_nil];omega))) (h:=?_);refine bQ (i:=10) (hq:=(fD (q:=x.a+1-1) (lst:=x.got++[bU x.cs c]) rf fK (.own .head) (by rw[List.length_append,List.length_cons,List.length_nil];omega))) (h:=?_);refine J7 ?_
   refine aS Tryz.results210 (λ w hw=>?_)
   rw[show x.got.length+1=(x.got++[bU x.cs c]).length by simp] at hw
   exact⟨x28,by rw[show(x.got++[bU x.cs c]).getD (x.a+1-1) 0=bU x.cs c by rw[show x.a+1-1=x.got.length by omega,jJ,List.getElem?_append_right (Nat.le_refl _)];simp];rfl,trivial,hw.aU⟩
 ·exact nv c14
end
end

end Go.Proofs.YtbajmaoegmbfgaaGreat

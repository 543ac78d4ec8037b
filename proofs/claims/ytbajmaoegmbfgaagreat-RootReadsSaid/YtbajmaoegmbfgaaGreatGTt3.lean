/- Tasks on an arena: runs. -/
import Derived.Test.YtbajmaoegmbfgaaGreatTt2
import Derived.Test.YtbajmaoegmbfgaaGreatGTr3
import Derived.Test.YtbajmaoegmbfgaaGreatGTp2
import Derived.Test.YtbajmaoegmbfgaaGreatAr4
import Derived.Test.YtbajmaoegmbfgaaGreatGAr9

set_option linter.unusedSimpArgs false
set_option linter.unusedVariables false
namespace Go.Proofs.YtbajmaoegmbfgaaGreat
section
open Go Go.RowKit Go.Ct
theorem nU:∀{t:Tr} {n c:Nat} (s:Mm),bY t n c->∀c',bY (jP t s).1 n c'
 | .done _,_,_,_,_,_=>trivial
 | .load _ _,0,_,_,_,_=>trivial
 | .load _ _,_+1,_,_,h,_=>h
 | .kX _ _ _ _,0,_,_,_,_=>trivial
 | .kX _ _ _ _,_+1,_,_,h,_=>h
 | .alloc _ _ _,_,0,_,h,_=>h.elim
 | .alloc n i k,_,_+1,s,h,c'=>nU (s.push n i) (h _) c'
 | .cell _ _,_,0,_,h,_=>h.elim
 | .cell i k,_,_+1,s,h,c'=>nU ⟨s.nodes,s.cs++[i],s.gen⟩ (h _) c'
 | .gen _,_,0,_,h,_=>h.elim
 | .gen k,_,_+1,s,h,c'=>nU ⟨s.nodes,s.cs,s.gen+1⟩ (h _) c'
 | .node r k,_,_,s,h,c'=>nU (t:=k (fV s.nodes r)) s (h (fV s.nodes r)) c'
 | .stuck,_,_,_,h,_=>h.elim
theorem nX:∀{t:Tr} {n c:Nat} (s:Mm),bY t n c->eW (jP t s).1=true
 | .done _,_,_,_,_=>rfl
 | .load _ _,_,_,_,_=>rfl
 | .kX _ _ _ _,_,_,_,_=>rfl
 | .alloc _ _ _,_,0,_,h=>h.elim
 | .alloc n i k,_,_+1,s,h=>nX (s.push n i) (h _)
 | .cell _ _,_,0,_,h=>h.elim
 | .cell i k,_,_+1,s,h=>nX ⟨s.nodes,s.cs++[i],s.gen⟩ (h _)
 | .gen _,_,0,_,h=>h.elim
 | .gen k,_,_+1,s,h=>nX ⟨s.nodes,s.cs,s.gen+1⟩ (h _)
 | .node r k,_,_,s,h=>nX (t:=k (fV s.nodes r)) s (h (fV s.nodes r))
 | .stuck,_,_,_,h=>h.elim
theorem rT:∀{t:Tr} {n c:Nat} (s:Mm),bY t n c->(jP t s).2.nodes.length<=s.nodes.length+c/\(jP t s).2.cs.length<=s.cs.length+c
 | .done _,_,_,_,_=>⟨Nat.le_add_right _ _,Nat.le_add_right _ _⟩
 | .load _ _,_,_,_,_=>⟨Nat.le_add_right _ _,Nat.le_add_right _ _⟩
 | .kX _ _ _ _,_,_,_,_=>⟨Nat.le_add_right _ _,Nat.le_add_right _ _⟩
 | .alloc _ _ _,_,0,_,h=>h.elim
 | .alloc n i k,_,c+1,s,h=>by
  have h2:=rT (s.push n i) (h ((s.nodes.length+1:Nat):Int))
  have hl:=lU (k:=n.kind) (cs:=s.cs) (init:=i)
  simp only[Mm.push,List.length_append,List.length_cons,List.length_nil] at h2
  show(jP (k _) (s.push n i)).2.nodes.length<=_/\(jP (k _) (s.push n i)).2.cs.length<=_
  simp only[Mm.push]
  omega
 | .cell _ _,_,0,_,h=>h.elim
 | .cell i k,_,c+1,s,h=>by
  have h2:=rT ⟨s.nodes,s.cs++[i],s.gen⟩ (h ((s.cs.length+1:Nat):Int))
  simp only[List.length_append,List.length_cons,List.length_nil] at h2
  show(jP (k _) _).2.nodes.length<=_/\(jP (k _) _).2.cs.length<=_
  omega
 | .gen _,_,0,_,h=>h.elim
 | .gen k,_,c+1,s,h=>by
  have h2:=rT ⟨s.nodes,s.cs,s.gen+1⟩ (h (s.gen+1))
  dsimp only at h2
  show(jP (k _) _).2.nodes.length<=_/\(jP (k _) _).2.cs.length<=_
  omega
 | .node r k,_,c,s,h=>rT (t:=k (fV s.nodes r)) s (h (fV s.nodes r))
 | .stuck,_,_,_,h=>h.elim
theorem Zn{t:Tr}{n c:Nat}(s:Mm)(ht:bY t (n+1) c)(ha:eW t=true)(c':Nat):bY (A4 (t,s)).1 n c':=by
 cases t with
 | done r=>trivial
 | load x k=>exact nU _ (ht _) c'
 | kX x o m k=>exact nU _ (ht _) c'
 | alloc n i k=>cases ha
 | cell i k=>cases ha
 | gen k=>cases ha
 | node r k=>cases ha
 | stuck=>cases ha
theorem a9{t:Tr}{n c:Nat}(s:Mm)(ht:bY t (n+1) c)(ha:eW t=true):eW (A4 (t,s)).1=true:=by
 cases t with
 | done r=>rfl
 | load x k=>exact nX _ (ht _)
 | kX x o m k=>exact nX _ (ht _)
 | alloc n i k=>cases ha
 | cell i k=>cases ha
 | gen k=>cases ha
 | node r k=>cases ha
 | stuck=>cases ha
theorem Zc{t:Tr}{n c:Nat}(s:Mm)(ht:bY t (n+1) c)(ha:eW t=true):(A4 (t,s)).2.nodes.length<=s.nodes.length+64/\(A4 (t,s)).2.cs.length<=s.cs.length+64:=by
 cases t with
 | done r=>exact⟨Nat.le_add_right _ _,Nat.le_add_right _ _⟩
 | load x k=>exact rT s (ht _)
 | kX x o m k =>
  have:=rT ⟨s.nodes,fG s.cs x o m,s.gen⟩ (ht (gu s.cs x o))
  simp only[iF] at this
  exact this
 | alloc n i k=>cases ha
 | cell i k=>cases ha
 | gen k=>cases ha
 | node r k=>cases ha
 | stuck=>cases ha
theorem Gs{t:Tr}{n:Nat}{s:Mm}(ht:bY t n 64)(ha:eW t=true):∀k,k<=n->bY (wW (t,s) k).1 (n-k) 64/\eW (wW (t,s) k).1=true/\(wW (t,s) k).2.nodes.length<=s.nodes.length+64*k/\(wW (t,s) k).2.cs.length<=s.cs.length+64*k
 | 0,_=>⟨ht,ha,Nat.le_refl _,Nat.le_refl _⟩
 | k+1,h=>by
  obtain⟨h1,h2,h3,h4⟩:=Gs ht ha k (by omega)
  rw[show n-k=n-(k+1)+1 by omega] at h1
  have h5:(A4 (wW (t,s) k)).2.nodes.length<=(wW (t,s) k).2.nodes.length+64/\(A4 (wW (t,s) k)).2.cs.length<=(wW (t,s) k).2.cs.length+64:=Zc (wW (t,s) k).2 h1 h2
  exact⟨Zn _ h1 h2 64,a9 _ h1 h2,by show(A4 (wW (t,s) k)).2.nodes.length<=_;omega,by show(A4 (wW (t,s) k)).2.cs.length<=_;omega⟩
def Ae(p:Tr×Mm):Nat->Nat
 | 0=>0
 | k+1=>Ae p k+if(wW p k).1.live=true then 1 else 0
theorem X8{p:Tr×Mm}(h:p.1.live=false):A4 p=p:=by
 obtain⟨t,s⟩:=p
 cases t<;>first|rfl|cases h
theorem Pk{p:Tr×Mm}{j:Nat}(h:(wW p j).1.live=false):∀k,wW p (j+k)=wW p j/\Ae p (j+k)=Ae p j
 | 0=>⟨rfl,rfl⟩
 | k+1=>by
  obtain⟨h1,h2⟩:=Pk h k
  refine⟨?_,?_⟩
  ·show A4 (wW p (j+k))=_
   rw[h1,X8 h]
  ·show Ae p (j+k)+(if(wW p (j+k)).1.live=true then 1 else 0)=_
   rw[h1,h2,h]
   rfl
theorem Xl{p:Tr×Mm}{j k:Nat}(h:(wW p j).1.live=false)(hk:j<=k):wW p k=wW p j/\Ae p k=Ae p j:=by
 have:=Pk h (k-j)
 rwa [show j+(k-j)=k by omega] at this
structure xh(b:Nat)(p:Tr×Mm)(a:AS)(B:Fr)(y:Cd×Fr×AS):Prop where
 rp:kW b p.1 p.2 y.1 p.2 (y.2.1++B)
 mm:y.2.2.mm=p.2
 ok:y.2.2.Ok
 gr:a.iQ y.2.2 y.2.1
theorem xh.of{b:Nat}{p:Tr×Mm}{a:AS}{B:Fr}{y:Cd×Fr×AS}(h:pZ b p a B y):xh b p a B y:=⟨h.1.1,h.1.2,h.2.1,h.2.2⟩
theorem dt{b:Nat}{t:Tr}{s:Mm}{c:Cd}{B:Fr}(h:kW b t s c s B)(ha:eW t=true):(c.a.k≠0↔t.live=true):=by
 have:=(h.kind ha).1
 cases hl:t.live with
 | false=>rw[hl] at this;exact⟨λ hn=>absurd (this.2 rfl) hn,λ h=>nomatch h⟩
 | true=>rw[hl] at this;exact⟨λ _=>rfl,λ _ e=>nomatch this.1 e⟩
section
variable{D:List Nat}{A B:Fr}{a:AS}{b bt n:Nat}{w:World}{c:Cd}{t:Tr}
theorem dp{most m:Nat}(ht:bY t m 64)(hmm:most<=m)(ha:eW t=true)(hr:kW b t a.mm c a.mm B)(ok:a.Ok)(hm:a.mm.nodes.length+64*most<=137438953472/\a.mm.cs.length+64*most<=137438953472)(hn:n+most<1000000000)(hA:∀f∈aR a.L,f∈A)(hB:∀x∈B,x∈A)(hs:SF w D [(bt,tO b c n),(b,fM a)] A [] (fX a) w) :
  Calls Tryz.prog 30 #[.pointer (some ⟨bt,0,none⟩),.int .i64 ((most:Nat):Int)] w λ e w'=>∃y:Cd×Fr×AS,e=.returned (.int .i64 ((Ae (t,a.mm) most:Nat):Int))/\xh b (wW (t,a.mm) most) a B y/\SF w D [(bt,tO b y.1 (n+Ae (t,a.mm) most)),(b,fM y.2.2)] [] y.2.1 (fX y.2.2) w':=by
 have hall:=λ k hk=>Gs (s:=a.mm) ht ha k hk
 refine enter Tryz.func30 Tryz.ntmps30 rfl rfl hs ?_
 simp only[cN]
 all_goals (refine dC ?_;refine dC ?_;refine Da ?_)
 all_goals
 refine oR [5,6,7,8,9,10,11,12,13,14,15,16,17,18,19,20,21,22,23,24] (λ y:Nat×Cd×Fr×AS=>[(5,.int .i64 ((y.1:Nat):Int))]) (λ y=>y.1<=most/\xh b (wW (t,a.mm) y.1) a B y.2/\Ae (t,a.mm) y.1=y.1) (λ y=>[(bt,tO b y.2.1 (n+y.1)),(b,fM y.2.2.2)]) (λ y=>y.2.2.1) (λ y=>fX y.2.2.2) (λ y=>most-y.1) ((0,c,[],a)) (⟨Nat.zero_le _,⟨hr,rfl,ok,AS.iQ.refl a⟩,rfl⟩) (λ y f hx=>?_) (hw0:=λ w hw=>hw)
 dsimp only[iL,List.map,List.cons_append,List.nil_append]
 obtain⟨h1,h2,h3,h4⟩:=hall y.1 (by omega)
 have hrp:kW b (wW (t,a.mm) y.1).1 y.2.2.2.mm y.2.1 y.2.2.2.mm (y.2.2.1++B):=by rw[hx.2.1.mm];exact hx.2.1.rp
 have hsm:y.2.2.2.mm.Small:=by rw[hx.2.1.mm];exact⟨by omega,by omega⟩
 have hli:=dt hx.2.1.rp h2
 all_goals (refine Dz ?_;refine Ju ?_)
 all_goals ((refine fS 9 (λ g9=>?_) (λ g9=>?_)<;>(first|refine aN ?_|(refine aF ?_;refine aA ?_))))
 all_goals ((first|refine aN ?_|(refine aF ?_;refine aY (cV (hc:=λ w1 hw=>uT (hw.st.at bQ))) (λ x11=>?_)));refine Sg ?_;refine aA ?_)
 all_goals (first|refine aN ?_|(refine fS 14 (λ g14=>?_) (λ g14=>?_)<;>(first|refine aN ?_|(refine aF ?_;refine aA ?_))))
 all_goals ((first|refine aN ?_|(refine aF ?_;refine dZ ?_));refine J6 ?_;refine Sg ?_;refine aH ?_)
 all_goals
  refine bG (λ c20=>?_) (λ c20=>?_)
  ·try exact nv c20
   all_goals (refine bD ?_;refine dE ?_;refine J2 ?_;refine aC (cM (V:=λ _:Cd×Fr×AS=>.tuple #[]) (hs:=[(bt,tO b y.2.1 (n+y.1)),(b,fM y.2.2.2)]) (os:=fX y.2.2.2) (Fc:=λ z=>z.2.1) (A0:=aR y.2.2.2.L++(y.2.2.1++B)) (hs':=λ z=>[(bt,tO b z.1 (n+y.1+1)),(b,fM z.2.2)]) (os':=λ z=>fX z.2.2) (hA:=bB.of λ f hf=>(List.mem_append.1 hf).elim (λ h1=>(hx.2.1.gr.fam f h1).elim .inl λ h2=>h2.elim (λ h3=>.inr (.inl (hA f h3))) λ h3=>.inr (.inr (.inl h3))) λ h1=>(List.mem_append.1 h1).elim (λ h2=>.inr (.inr (.inl h2))) λ h2=>.inr (.inl (hB f h2))) (hc:=λ w hw=>Ii (i:=m-(y.1+1)) (m:=64) (by rw[show m-(y.1+1)+1=m-y.1 by omega];exact h1) h2 (hli.1 g14) hrp hx.2.1.ok hsm (by omega) (λ f hf=>List.mem_append_left _ hf) (λ f hf=>List.mem_append_right _ hf) hw)) (λ x22 h22=>?_);refine aH ?_;refine zL ?_;refine fT ?_)
   all_goals
   refine jJ ((y.1+1,x22.1,x22.2.1++y.2.2.1,x22.2.2)) ?_ (hw1:=λ w hw=>hw)
   ·have e1:wW (t,a.mm) (y.1+1)=A4 ((wW (t,a.mm) y.1).1,y.2.2.2.mm):=by rw[hx.2.1.mm];rfl
    have h5:=xh.of h22.1
    have hlv:=hli.1 g14
    refine⟨by show y.1+1<=most;omega,⟨?_,?_,h5.ok,hx.2.1.gr.trans h5.gr⟩,?_⟩
    ·rw[e1]
     show kW b _ _ _ _ (x22.2.1++y.2.2.1++B)
     rw[List.append_assoc]
     exact h5.rp
    ·rw[e1];exact h5.mm
    ·show Ae (t,a.mm) y.1+_=y.1+1
     rw[hlv,hx.2.2]
     rfl
  ·try exact nv c20
   all_goals (refine bV rfl ?_;refine J2 ?_;refine J1 ?_)
   all_goals
   refine aU Tryz.results30 (λ w hw=>?_)
   have e:wW (t,a.mm) most=wW (t,a.mm) y.1/\Ae (t,a.mm) most=y.1:=by
    first
    | (have h:=Xl (Bool.eq_false_iff.2 λ h=>hli.2 h g14) hx.1;exact⟨h.1,h.2.trans hx.2.2⟩)
    | (have em:most=y.1:=(by have:=hx.1;omega);rw[em];exact⟨rfl,hx.2.2⟩)
   rw[e.1,e.2]
   exact⟨y.2,rfl,hx.2.1,hw.ret (List.Sublist.refl _) (aV.gG λ f hf=>hf) (List.Sublist.refl _)⟩
end
end

/- An execution of the reference: its block, its own lists; the rules for calls of its methods. -/
section
open Go Go.RowKit Go.Ct
def xoC(k:Cl)(bm:Nat)(x:XS)(dn:Bool)(rs:Rs):List Value:=[.pointer (some ⟨bm,0,none⟩),
 .int .i64 k.kind,.int .i64 k.t.root,.bool k.t.ro,.int .i64 k.a,.int .i64 k.b,.int .i64 k.n,.int .i64 k.index,.int .u64 k.hash,.int .u64 k.mask,.string k.key,.int .u64 k.val,.int .u64 k.exp,.int .i64 k.H2,.bool k.only,
 .bool false,.slice none 0 0,.slice none 0 0,.int .i64 0,.bool false,.int .u64 0,.string ⟨#[]⟩,.int .i64 0,.int .i64 0,.int .i64 0,.bool false,
 .slice x.pg x.got.length x.kg,.slice x.pm x.made.length x.km,.slice x.pl x.cel.length x.kl,.slice x.pe x.gns.length x.ke,
 .int .i64 ((x.a:Nat):Int),.int .i64 ((x.m:Nat):Int),.int .i64 ((x.c:Nat):Int),.int .i64 ((x.g:Nat):Int),.int .i64 ((x.fr:Nat):Int),.bool x.st,
 .int .i64 x.nx.k,.int .i64 x.nx.c,.int .i64 x.nx.o,.int .i64 x.nx.n,.bool dn,
 .int .i64 rs.err,.bool rs.found,.int .u64 rs.val,.string rs.key,.int .i64 rs.gW,.int .i64 rs.ref,.int .i64 rs.root,.bool rs.ro,
 .bool false,.slice none 0 0,.slice none 0 0]
abbrev xO(k:Cl)(bm:Nat)(x:XS)(dn:Bool)(rs:Rs):Obj:=.cells ⟨xoC k bm x dn rs⟩ 153 (0,0)
abbrev xM(x:XS):Obj:=mO x.L x.cs x.gen x.acc x.pn x.cn x.pc x.cc
abbrev xW(x:XS):List Ow:=[⟨x.pg,aG x.got,x.kg,37,1⟩,⟨x.pm,aG x.made,x.km,37,1⟩,⟨x.pl,aG x.cel,x.kl,27,1⟩,⟨x.pe,aG x.gns,x.ke,3,1⟩,⟨x.pn,iO x.L,x.cn,47,14⟩,⟨x.pc,aG x.cs,x.cc,37,1⟩]
abbrev xH(k:Cl)(bx bm:Nat)(x:XS)(dn:Bool)(rs:Rs):List (Nat×Obj):=[(bx,xO k bm x dn rs),(bm,xM x)]
theorem zo{w0 w:World}{D:List Nat}{k:Cl}{bx bm:Nat}{x:XS}{dn:Bool}{rs:Rs}{A F:Fr}(h:SF w0 D (xH k bx bm x dn rs) A F (xW x) w) :
  SF w0 D [(bx,.cells ⟨[.pointer (some ⟨bm,0,none⟩),
 .int .i64 k.kind,.int .i64 k.t.root,.bool k.t.ro,.int .i64 k.a,.int .i64 k.b,.int .i64 k.n,.int .i64 k.index,.int .u64 k.hash,.int .u64 k.mask,.string k.key,.int .u64 k.val,.int .u64 k.exp,.int .i64 k.H2,.bool k.only,
 .bool false,.slice none 0 0,.slice none 0 0,.int .i64 0,.bool false,.int .u64 0,.string ⟨#[]⟩,.int .i64 0,.int .i64 0,.int .i64 0,.bool false,
 .slice x.pg x.got.length x.kg,.slice x.pm x.made.length x.km,.slice x.pl x.cel.length x.kl,.slice x.pe x.gns.length x.ke,
 .int .i64 ((x.a:Nat):Int),.int .i64 ((x.m:Nat):Int),.int .i64 ((x.c:Nat):Int),.int .i64 ((x.g:Nat):Int),.int .i64 ((x.fr:Nat):Int),.bool x.st,
 .int .i64 x.nx.k,.int .i64 x.nx.c,.int .i64 x.nx.o,.int .i64 x.nx.n,.bool dn,
 .int .i64 rs.err,.bool rs.found,.int .u64 rs.val,.string rs.key,.int .i64 rs.gW,.int .i64 rs.ref,.int .i64 rs.root,.bool rs.ro,
 .bool false,.slice none 0 0,.slice none 0 0]⟩ 153 (0,0)),(bm,mO x.L x.cs x.gen x.acc x.pn x.cn x.pc x.cc)] A F [⟨x.pg,aG x.got,x.kg,37,1⟩,⟨x.pm,aG x.made,x.km,37,1⟩,⟨x.pl,aG x.cel,x.kl,27,1⟩,⟨x.pe,aG x.gns,x.ke,3,1⟩,⟨x.pn,iO x.L,x.cn,47,14⟩,⟨x.pc,aG x.cs,x.cc,37,1⟩] w:=h
theorem cK{w0 w:World}{D:List Nat}{k:Cl}{bx bm:Nat}{x:XS}{dn:Bool}{rs:Rs}{A F:Fr}(h:SF w0 D (xH k bx bm x dn rs) A F (xW x) w) :
  SF w0 D [(bx,.cells ⟨xoC k bm x dn rs⟩ 153 (0,0)),(bm,mO x.L x.cs x.gen x.acc x.pn x.cn x.pc x.cc)] A F [⟨x.pg,aG x.got,x.kg,37,1⟩,⟨x.pm,aG x.made,x.km,37,1⟩,⟨x.pl,aG x.cel,x.kl,27,1⟩,⟨x.pe,aG x.gns,x.ke,3,1⟩,⟨x.pn,iO x.L,x.cn,47,14⟩,⟨x.pc,aG x.cs,x.cc,37,1⟩] w:=h
end

/- Executions of the reference: known, load, cas. -/
end Go.Proofs.YtbajmaoegmbfgaaGreat
namespace Go.Ct
section
def XS.kn(x:XS)(a:Ac):XS:=if x.st=true then x else if x.a<x.got.length then{x with a:=x.a+1} else if x.fr=0 then{x with st:=true,nx:=a} else{x with fr:=x.fr-1}
def XS.bF(x:XS):Bool:=!x.st&&decide (x.a<x.got.length)
def XS.now(x:XS):Bool:=!x.st&&!decide (x.a<x.got.length)&&!decide (x.fr=0)
theorem XS.ri{x:XS}{a:Ac}(h:x.st=true):x.kn a=x/\x.bF=false/\x.now=false:=⟨if_pos h,by simp[XS.bF,h],by simp[XS.now,h]⟩
theorem XS.Y8{x:XS}{a:Ac}(h:x.st=false)(h1:x.a<x.got.length):x.kn a={x with a:=x.a+1}/\x.bF=true/\x.now=false:=⟨by unfold XS.kn;rw[if_neg (by rw[h];decide),if_pos h1],by simp[XS.bF,h,h1],by simp[XS.now,h1]⟩
theorem XS.px{x:XS}{a:Ac}(h:x.st=false)(h1:¬x.a<x.got.length)(h2:x.fr=0):x.kn a={x with st:=true,nx:=a}/\x.bF=false/\x.now=false:=⟨by unfold XS.kn;rw[if_neg (by rw[h];decide),if_neg h1,if_pos h2],by simp[XS.bF,h1],by simp[XS.now,h2]⟩
theorem XS.Y9{x:XS}{a:Ac}(h:x.st=false)(h1:¬x.a<x.got.length)(h2:¬x.fr=0):x.kn a={x with fr:=x.fr-1}/\x.bF=false/\x.now=true:=⟨by unfold XS.kn;rw[if_neg (by rw[h];decide),if_neg h1,if_neg h2],by simp[XS.bF,h1],by simp[XS.now,h,h1,h2]⟩
end
end Go.Ct
namespace Go.Proofs.YtbajmaoegmbfgaaGreat
section
open Go Go.RowKit Go.Ct
section
variable{k:Cl}{bx bm:Nat}{x:XS}{dn:Bool}{rs:Rs}{D:List Nat}{A:Fr}{w:World}
theorem Dr(a:Ac)(ok:x.Ok)(hs:SF w D (xH k bx bm x dn rs) A [] (xW x) w):Calls Tryz.prog 240 #[.pointer (some ⟨bx,0,none⟩),.agg ⟨a.cells⟩] w λ e w'=>∃q:Unit,e=.returned (.tuple #[.bool x.bF,.bool x.now])/\True/\SF w D (xH k bx bm (x.kn a) dn rs) [] [] (xW (x.kn a)) w':=by
 have h1:=ok.lg
 have h2:=ok.la
 have h3:=ok.fr
 refine enter Tryz.func240 Tryz.ntmps240 rfl rfl (zo hs) ?_
 simp only[cN]
 all_goals (refine J0 ?_;refine bW (λ x3=>?_);refine J8 ?_;refine aW ?_;refine kY ?_;refine aH ?_)
 all_goals
 refine bG (λ c9=>?_) (λ c9=>?_)
 ·all_goals refine dh ?_
  all_goals
   refine bE Tryz.results240 (λ w hw=>?_)
   obtain⟨e1,e2,e3⟩:=XS.ri (a:=a) c9
   rw[e1,e2,e3]
   exact⟨(),rfl,trivial,hw.aS⟩
 ·all_goals (refine lG ?_;refine aW ?_;refine fL [0,1,2,3,4,5,6,7,8,9] ?_;refine qC ?_;refine mP ?_;refine Al ?_;refine eC ?_)
  all_goals
   refine bG (λ c19=>?_) (λ c19=>?_)
   ·all_goals (refine kY ?_;refine sC ?_;refine D5 ?_;refine dh ?_)
    all_goals
    refine bE Tryz.results240 (λ w hw=>?_)
    obtain⟨e1,e2,e3⟩:=XS.Y8 (a:=a) c9 (by omega)
    rw[e1,e2,e3]
    exact⟨(),rfl,trivial,hw.aS⟩
   ·all_goals (refine lG ?_;refine kY ?_;refine uS ?_)
    all_goals
    refine bG (λ c31=>?_) (λ c31=>?_)
    ·all_goals (refine aW ?_;refine dX [(0,[]),(1,[]),(2,[]),(3,[]),(4,[]),(5,[2]),(6,[]),(7,[]),(8,[])] ?_;refine iP ?_;refine bR ?_;refine J4 ?_;refine oQ (h:=λ _=>?_);refine J4 ?_;refine jQ (i:=8) (hq:=(dR λ _=>lO (off:=36) (vs:=a.cells) rf bQ rf rfl cD (Nat.le_of_ble_eq_true rfl) rf eE)) (h:=λ _=>?_);refine eC ?_;refine dh ?_)
     all_goals
      refine bE Tryz.results240 (λ w hw=>?_)
      obtain⟨e1,e2,e3⟩:=XS.px (a:=a) c9 (by omega) (by omega)
      rw[e1,e2,e3]
      exact⟨(),rfl,trivial,hw.aS⟩
    ·all_goals (refine Qi ?_;refine rS ?_;refine D5 ?_;refine dh ?_)
     all_goals
      refine bE Tryz.results240 (λ w hw=>?_)
      obtain⟨e1,e2,e3⟩:=XS.Y9 (a:=a) c9 (by omega) (by omega)
      rw[e1,e2,e3]
      exact⟨(),rfl,trivial,hw.aS⟩
theorem Pe(a:Ac)(ok:x.Ok)(h:x.st=true)(hs:SF w D (xH k bx bm x dn rs) A [] (xW x) w):Calls Tryz.prog 240 #[.pointer (some ⟨bx,0,none⟩),.agg ⟨a.cells⟩] w λ e w'=>∃q:Unit,e=.returned (.tuple #[.bool false,.bool false])/\True/\SF w D (xH k bx bm x dn rs) [] [] (xW x) w':=by
 obtain⟨e1,e2,e3⟩:=XS.ri (a:=a) h
 have:=Dr (k:=k) (bx:=bx) (bm:=bm) (dn:=dn) (rs:=rs) (D:=D) (A:=A) (w:=w) a ok hs
 rw[e1,e2,e3] at this
 exact this
theorem Ix(a:Ac)(ok:x.Ok)(h:x.st=false)(h1:x.a<x.got.length)(hs:SF w D (xH k bx bm x dn rs) A [] (xW x) w):Calls Tryz.prog 240 #[.pointer (some ⟨bx,0,none⟩),.agg ⟨a.cells⟩] w λ e w'=>∃q:Unit,e=.returned (.tuple #[.bool true,.bool false])/\True/\SF w D (xH k bx bm {x with a:=x.a+1} dn rs) [] [] (xW {x with a:=x.a+1}) w':=by
 obtain⟨e1,e2,e3⟩:=XS.Y8 (a:=a) h h1
 have:=Dr (k:=k) (bx:=bx) (bm:=bm) (dn:=dn) (rs:=rs) (D:=D) (A:=A) (w:=w) a ok hs
 rw[e1,e2,e3] at this
 exact this
theorem Ob(a:Ac)(ok:x.Ok)(h:x.st=false)(h1:¬x.a<x.got.length)(h2:x.fr=0)(hs:SF w D (xH k bx bm x dn rs) A [] (xW x) w):Calls Tryz.prog 240 #[.pointer (some ⟨bx,0,none⟩),.agg ⟨a.cells⟩] w λ e w'=>∃q:Unit,e=.returned (.tuple #[.bool false,.bool false])/\True/\SF w D (xH k bx bm {x with st:=true,nx:=a} dn rs) [] [] (xW {x with st:=true,nx:=a}) w':=by
 obtain⟨e1,e2,e3⟩:=XS.px (a:=a) h h1 h2
 have:=Dr (k:=k) (bx:=bx) (bm:=bm) (dn:=dn) (rs:=rs) (D:=D) (A:=A) (w:=w) a ok hs
 rw[e1,e2,e3] at this
 exact this
theorem Jx(a:Ac)(ok:x.Ok)(h:x.st=false)(h1:¬x.a<x.got.length)(h2:¬x.fr=0)(hs:SF w D (xH k bx bm x dn rs) A [] (xW x) w):Calls Tryz.prog 240 #[.pointer (some ⟨bx,0,none⟩),.agg ⟨a.cells⟩] w λ e w'=>∃q:Unit,e=.returned (.tuple #[.bool false,.bool true])/\True/\SF w D (xH k bx bm {x with fr:=x.fr-1} dn rs) [] [] (xW {x with fr:=x.fr-1}) w':=by
 obtain⟨e1,e2,e3⟩:=XS.Y9 (a:=a) h h1 h2
 have:=Dr (k:=k) (bx:=bx) (bm:=bm) (dn:=dn) (rs:=rs) (D:=D) (A:=A) (w:=w) a ok hs
 rw[e1,e2,e3] at this
 exact this
theorem ng(c:Int)(ok:x.Ok)(h:x.st=true)(hs:SF w D (xH k bx bm x dn rs) A [] (xW x) w):Calls Tryz.prog 210 #[.pointer (some ⟨bx,0,none⟩),.int .i64 c] w λ e w'=>∃q:Unit,e=.returned (.int .i64 0)/\True/\SF w D (xH k bx bm x dn rs) [] [] (xW x) w':=by
 refine enter Tryz.func210 Tryz.ntmps210 rfl rfl (cK hs) ?_
 simp only[cN]
 all_goals (refine dC ?_;refine jN ?_;refine bO ?_;refine aC (cM (hs:=xH k bx bm x dn rs) (os:=xW x) (hc:=λ w hs=>Pe ⟨1,c,0,0⟩ ok h hs)) (λ x11 h11=>?_);refine No ?_;refine J8 ?_;refine lW ?_;refine aH ?_)
 all_goals
 refine bG (λ c14=>?_) (λ c14=>?_)
 ·exact nv c14
 ·all_goals try (exact absurd (by assumption) (by decide:¬(true=false)))
  all_goals (refine lG ?_;refine J2 ?_;refine Hp ?_)
  all_goals ((refine aF ?_;refine aA ?_))
  all_goals (refine Sg ?_;refine aH ?_)
  all_goals
   refine bG (λ c43=>?_) (λ c43=>?_)
   ·all_goals try (exact absurd (by assumption) (by decide:¬(true=false)))
    all_goals refine dC ?_
    all_goals
    refine aU Tryz.results210 (λ w hw=>?_)
    exact⟨(),rfl,trivial,hw.aS⟩
   ·exact nv c43
theorem kf(c:Int)(ok:x.Ok)(h:x.st=false)(h1:¬x.a<x.got.length)(h2:x.fr=0)(hs:SF w D (xH k bx bm x dn rs) A [] (xW x) w):Calls Tryz.prog 210 #[.pointer (some ⟨bx,0,none⟩),.int .i64 c] w λ e w'=>∃q:Unit,e=.returned (.int .i64 0)/\True/\SF w D (xH k bx bm {x with st:=true,nx:=⟨1,c,0,0⟩} dn rs) [] [] (xW {x with st:=true,nx:=⟨1,c,0,0⟩}) w':=by
 refine enter Tryz.func210 Tryz.ntmps210 rfl rfl (cK hs) ?_
 simp only[cN]
 all_goals (refine dC ?_;refine jN ?_;refine bO ?_;refine aC (cM (hs:=xH k bx bm x dn rs) (os:=xW x) (hc:=λ w hs=>Ob ⟨1,c,0,0⟩ ok h h1 h2 hs)) (λ x11 h11=>?_);refine No ?_;refine J8 ?_;refine lW ?_;refine aH ?_)
 all_goals
 refine bG (λ c14=>?_) (λ c14=>?_)
 ·exact nv c14
 ·all_goals try (exact absurd (by assumption) (by decide:¬(true=false)))
  all_goals (refine lG ?_;refine J2 ?_;refine Hp ?_)
  all_goals ((refine aF ?_;refine aA ?_))
  all_goals (refine Sg ?_;refine aH ?_)
  all_goals
   refine bG (λ c43=>?_) (λ c43=>?_)
   ·all_goals try (exact absurd (by assumption) (by decide:¬(true=false)))
    all_goals refine dC ?_
    all_goals
    refine aU Tryz.results210 (λ w hw=>?_)
    exact⟨(),rfl,trivial,hw.aS⟩
   ·exact nv c43
theorem G3(c:Int)(ok:x.Ok)(h:x.st=false)(h1:x.a<x.got.length)(hs:SF w D (xH k bx bm x dn rs) A [] (xW x) w):Calls Tryz.prog 210 #[.pointer (some ⟨bx,0,none⟩),.int .i64 c] w λ e w'=>∃q:Unit,e=.returned (.int .i64 (x.got.getD x.a 0))/\True/\SF w D (xH k bx bm {x with a:=x.a+1} dn rs) [] [] (xW {x with a:=x.a+1}) w':=by
 have hg:=ok.lg
 refine enter Tryz.func210 Tryz.ntmps210 rfl rfl (cK hs) ?_
 simp only[cN]
 all_goals (refine dC ?_;refine jN ?_;refine bO ?_;refine aC (cM (hs:=xH k bx bm x dn rs) (os:=xW x) (hc:=λ w hs=>Ix ⟨1,c,0,0⟩ ok h h1 hs)) (λ x11 h11=>?_);refine No ?_;refine J8 ?_;refine lW ?_;refine aH ?_)
 all_goals
 refine bG (λ c14=>?_) (λ c14=>?_)
 ·exact nv c14
 ·all_goals try (exact absurd (by assumption) (by decide:¬(true=false)))
  all_goals (refine lG ?_;refine J2 ?_;refine Hp ?_)
  all_goals (refine aN ?_)
  all_goals (refine Sg ?_;refine aH ?_)
  all_goals
   refine bG (λ c43=>?_) (λ c43=>?_)
   ·exact nv c43
   ·all_goals try (exact absurd (by assumption) (by decide:¬(true=false)))
    all_goals (refine lG ?_;refine fL [0,1,2,3,4,5,6,7,8,9,10,11] ?_;refine qC ?_;refine cH (i:=8) (hq:=(gJ (m:=x.a+1) (n:=1) rf rf (by omega) (by omega))) (h:=?_);refine bS (i:=9) (hq:=(eK (m:=x.got.length) (k:=x.a+1-1) (lst:=x.got) rf rf gK cG (.own .head) (by omega) (by omega))) (h:=?_);refine bS (i:=10) (hq:=(fO (q:=x.a+1-1) (lst:=x.got) rf cG (.own .head) (by omega))) (h:=?_);refine J7 ?_)
    all_goals
    refine aU Tryz.results210 (λ w hw=>?_)
    exact⟨(),by rw[Nat.add_sub_cancel];rfl,trivial,hw.aS⟩
theorem dy(c:Int)(hc:c<=9223372036854775807)(ok:x.Ok)(h:x.st=false)(h1:¬x.a<x.got.length)(h2:¬x.fr=0)(hs:SF w D (xH k bx bm x dn rs) A [] (xW x) w):Calls Tryz.prog 210 #[.pointer (some ⟨bx,0,none⟩),.int .i64 c] w λ e w'=>∃q:Option Addr×Nat,e=.returned (.int .i64 (dA x.cs c))/\True/\SF w D (xH k bx bm {x with fr:=x.fr-1,acc:=up x.acc,got:=x.got++[dA x.cs c],pg:=q.1,kg:=q.2,a:=x.a+1} dn rs) [] [] (xW {x with fr:=x.fr-1,acc:=up x.acc,got:=x.got++[dA x.cs c],pg:=q.1,kg:=q.2,a:=x.a+1}) w':=by
 have hg:=ok.lg
 have ha:=ok.la
 have hlc:=ok.lc
 refine enter Tryz.func210 Tryz.ntmps210 rfl rfl (cK hs) ?_
 simp only[cN]
 all_goals (refine dC ?_;refine jN ?_;refine bO ?_;refine aC (cM (hs:=xH k bx bm x dn rs) (os:=xW x) (hc:=λ w hs=>Jx ⟨1,c,0,0⟩ ok h h1 h2 hs)) (λ x11 h11=>?_);refine No ?_;refine J8 ?_;refine lW ?_;refine aH ?_)
 all_goals
 refine bG (λ c14=>?_) (λ c14=>?_)
 ·all_goals try (exact absurd (by assumption) (by decide:¬(true=false)))
  all_goals (refine dX [(0,[]),(1,[]),(2,[]),(3,[]),(4,[]),(5,[]),(6,[]),(7,[]),(8,[]),(9,[]),(10,[]),(14,[]),(15,[]),(16,[]),(17,[]),(18,[]),(11,[5,17]),(12,[5,17]),(13,[17]),(19,[]),(20,[]),(21,[]),(22,[]),(23,[]),(24,[])] ?_;refine iP ?_;refine qC ?_;refine Qh ?_;refine cH (i:=18) (hq:=(jS (m:=x.a) (n:=1) rf rf (by omega))) (h:=?_);refine bA (i:=11) (hq:=(cM (hc:=λ w hs=>oh (L:=x.L) (cs:=x.cs) hs c hc (by omega)))) (h:=λ x26 h26=>?_);refine bL (h:=λ x27=>?_);((refine cL (i:=13) (hq:=(aM.eJ (sL (l:=x.got) (v:=dA x.cs c) (m:=x.got.length) rf rf .head rfl fin jf gK (by omega)) dU)) (h:=λ x28=>?_);try (refine cW (λ h28=>?_))));refine J4 ?_;refine jQ (i:=21) (hq:=(by first|exact dR λ _=>bJ rf bQ wn rf cG rf rf eE|exact(dR λ _=>bJ rf bQ wn rf cG rf xX eE)|exact(dR λ _=>aK rf bQ rf rf cD rf eE)|exact(aM.aZ (cS rf rf cG dV om) dU)|exact(aM.aZ (cU rf rf cG dV om) dU)|exact(aM.aZ (o_storePv rf rf cG dV om) dU)|exact(aM.aZ (o_storeP rf rf cD dV om) dU))) (h:=λ _=>?_);refine J4 ?_;refine jQ (i:=24) (hq:=(by first|exact dR λ _=>bJ rf bQ wn rf cG rf rf eE|exact(dR λ _=>bJ rf bQ wn rf cG rf xX eE)|exact(dR λ _=>aK rf bQ rf rf cD rf eE)|exact(aM.aZ (cS rf rf cG dV om) dU)|exact(aM.aZ (cU rf rf cG dV om) dU)|exact(aM.aZ (o_storePv rf rf cG dV om) dU)|exact(aM.aZ (o_storeP rf rf cD dV om) dU))) (h:=λ _=>?_);refine eC ?_;refine lW ?_;refine Hp ?_)
  all_goals ((refine aF ?_;refine aA ?_))
  all_goals (refine Sg ?_;refine aH ?_)
  all_goals
   refine bG (λ c43=>?_) (λ c43=>?_)
   ·exact nv c43
   ·all_goals try (exact absurd (by assumption) (by decide:¬(true=false)))
    all_goals (refine lG ?_;refine fL [0,1,2,3,4,5,6,7,8,9,10,11] ?_;refine qC ?_;refine cH (i:=8) (hq:=(gJ (m:=x.a+1) (n:=1) rf rf (by omega) (by omega))) (h:=?_);refine bS (i:=9) (hq:=(eK (m:=x.got.length+1) (k:=x.a+1-1) (lst:=x.got++[dA x.cs c]) rf rf gK cG (.own .head) (by omega) (by rw[List.length_append,List.length_cons,List.length_nil];omega))) (h:=?_);refine bS (i:=10) (hq:=(fO (q:=x.a+1-1) (lst:=x.got++[dA x.cs c]) rf cG (.own .head) (by rw[List.length_append,List.length_cons,List.length_nil];omega))) (h:=?_);refine J7 ?_)
    all_goals
    refine aU Tryz.results210 (λ w hw=>?_)
    rw[show x.got.length+1=(x.got++[dA x.cs c]).length by simp] at hw
    exact⟨x28,by rw[show(x.got++[dA x.cs c]).getD (x.a+1-1) 0=dA x.cs c by rw[show x.a+1-1=x.got.length by omega,lB,List.getElem?_append_right (Nat.le_refl _)];simp];rfl,trivial,hw.aS⟩
 ·exact nv c14
end
end

end Go.Proofs.YtbajmaoegmbfgaaGreat

/- The order of keys. -/
import Derived.Test.YtbajmaoegmbfgaaGreatGVw1
import Derived.Test.YtbajmaoegmbfgaaGreatGKw6
import Derived.Test.YtbajmaoegmbfgaaGreatGR91
import Derived.Test.YtbajmaoegmbfgaaGreatGTape3
import Derived.Test.YtbajmaoegmbfgaaGreatGWr1
import Derived.Test.YtbajmaoegmbfgaaGreatR93
import Derived.Test.YtbajmaoegmbfgaaGreatGAr8
import Derived.Test.YtbajmaoegmbfgaaGreatGGc5

set_option linter.unusedSimpArgs false
set_option linter.unusedVariables false
namespace Go.Ct
section
open Go Go.RowKit
end
end Go.Ct
namespace Go.Proofs.YtbajmaoegmbfgaaGreat
section
open Go Go.RowKit Go.Ct
end

/- Tries that keep the labels: their I-nodes and their contents. -/
section
open Go.RowKit Go.Ct
section
variable{H:ByteArray->Nat}{σ:Kw}{i m p g:Int}{w:List Nat}{t:gO}
theorem n5(i0:Inv H σ)(hi:uV σ i w g):∃p,iL σ.mm.nodes σ.mm.cs i=some p/\qD σ p w g:=by
 have hm:=hi.tf i0
 have hc:=i0.pE hm.1
 have hp:=(i0.ce _ hc.1 hc.2.1).prev _ hc.2.2
 have e1:vO σ.mm.nodes σ.mm.cs i=σ.ce (σ.nd i).main:=rfl
 have e2:oN σ.mm.nodes σ.mm.cs i=σ.ce (σ.nd (σ.ce (σ.nd i).main)).prev:=rfl
 have e3:yI σ.mm.nodes σ.mm.cs i=if(σ.nd (oN σ.mm.nodes σ.mm.cs i)).kind=7 then(σ.nd (oN σ.mm.nodes σ.mm.cs i)).bK else oN σ.mm.nodes σ.mm.cs i:=rfl
 unfold iL
 rw[if_pos ⟨hi.1.1,by rw[e1];exact hm.1⟩]
 have key:∀q,pB σ (σ.ce (σ.nd i).main) q->qD σ q w g:=λ q hq=>by have:=hq.1;rw[hm.2.1] at this;exact this.le hm.2.2
 by_cases h0:oN σ.mm.nodes σ.mm.cs i=0
 ·rw[if_pos h0,e1]
  exact⟨_,rfl,hm⟩
 ·rw[if_neg h0,e3]
  rw[e2] at h0 ⊢
  rcases hp.2 with h|h|h
  ·exact absurd h h0
  ·have hk:=h.1.1
   rw[if_neg (cB.ne0 hk).2.1,if_pos hk]
   exact⟨_,rfl,key _ h⟩
  ·rw[if_pos h.1,if_pos h.2.1.1]
   exact⟨_,rfl,key _ h.2⟩
theorem nq(i0:Inv H σ)(hT:dI σ t):∃r,oL σ.mm.nodes σ.mm.cs t.root=some r/\wS σ r []:=by
 have hv:=(ko hT i0).2
 have e:tY σ.mm.nodes σ.mm.cs t.root=if(σ.nd (σ.ce t.root)).kind=8 then(if σ.ce (σ.nd (σ.ce t.root)).status=1 then(σ.nd (σ.ce t.root)).new else(σ.nd (σ.ce t.root)).bK) else σ.ce t.root:=rfl
 have key:∀r,tY σ.mm.nodes σ.mm.cs t.root=r->wS σ r []->∃r,oL σ.mm.nodes σ.mm.cs t.root=some r/\wS σ r []:=λ r er hr=>⟨r,by unfold oL;rw[er];exact if_pos hr.1,hr⟩
 rcases hv with h|h
 ·exact key _ (e.trans (if_neg (by rw[h.1];decide))) h
 ·have hd:=i0.desc h.1
  by_cases hs:σ.ce (σ.nd (σ.ce t.root)).status=1
  ·exact key _ (e.trans ((if_pos h.1).trans (if_pos hs))) hd.2.2.1
  ·exact key _ (e.trans ((if_pos h.1).trans (if_neg hs))) hd.2.1
theorem mU.lof{b:Nat}{xs:List Int}(h:mU σ m w g b xs):pD (qU b xs) 64=xs:=(Rh h.bv).2
def Bel(σ:Kw)(w:List Nat)(j:Int):Prop:=∃v,σ.way j=w++v/\(σ.nd j).kind=2/\(iL σ.mm.nodes σ.mm.cs j).isSome=true
theorem Bel.up{k:Nat}{j:Int}(h:Bel σ (w++[k]) j):Bel σ w j:=by
 obtain⟨v,h1,h2⟩:=h
 exact⟨k::v,by rw[h1,List.append_assoc];rfl,h2⟩
theorem qe{a b:Nat}{w u v:List Nat}(h:w++[a]++u=w++[b]++v):a=b:=by
 rw[List.append_assoc,List.append_assoc] at h
 have:=List.append_cancel_left h
 simpa using(List.cons.inj this).1
end
end

/- The reference of views: the root of a trie, the main node of an I-node, in a proper state. -/
section
open Go Go.RowKit Go.Ct
section
variable{L:List aP}{cs:List Int}{gen:Int}{pn pc:Option Addr}{cn cc:Nat}{w:World}
theorem bj(hp:gR L cs gen)(hr:Ll L)(hl:L.length<=274877906944):StB L cs:=by
 have hd:∀x:Int,Dw x L.length->x<=9223372036854775807:=λ x h=>by have:=h.2;omega
 refine⟨λ c=>?_,λ r=>?_,λ r=>?_,λ r=>?_,λ r=>?_,λ r=>?_,λ r=>?_⟩
 ·unfold bU
  split
  ·exact hd _ (hp.cells _ (by omega))
  ·decide
 ·unfold aB
  split
  ·exact hd _ (hp.nodes (r-1).toNat (by omega)).2.2.2.1
  ·decide
 ·unfold aB
  split
  ·exact hd _ (hp.nodes (r-1).toNat (by omega)).2.2.2.2.2
  ·decide
 ·unfold aB
  split
  ·exact(hr _ (fA (by omega))).main
  ·decide
 ·unfold aB
  split
  ·exact(hr _ (fA (by omega))).prev
  ·decide
 ·unfold aB
  split
  ·exact(hr _ (fA (by omega))).status
  ·decide
 ·unfold aB
  split
  ·intro b hb
   obtain⟨i,hi,rfl⟩:=List.mem_iff_getElem.1 hb
   have:=(hp.nodes (r-1).toNat (by omega)).2.2.1 i hi
   rw[jH,List.getElem?_eq_getElem hi] at this
   exact hd _ this
  ·intro b hb
   cases hb
theorem ka(hp:gR L cs gen)(h:oA w L cs pn pc)(hr:Ll L)(hl:L.length<=274877906944)(hc:cs.length<=274877906944)(c:Int)(ro:Bool){r:Int}(ho:oL (L.map aP.c) cs c=some r)(hi:c<=9223372036854775807):Calls Tryz.prog 44 #[Nh L cs gen pn cn pc cc,.agg ⟨[.int .i64 c,.bool ro]⟩] w λ e w'=>e=.returned (.tuple #[.int .i64 r,.bool true])/\St w [] [] w':=by
 refine enter Tryz.func44 Tryz.ntmps44 rfl rfl h.start ?_
 simp only[bX]
 simp only[Nh]
 refine J0 ?_;refine bI (λ x2=>?_);refine bI (λ x3=>?_);refine J8 ?_;refine aV ?_;refine nK ?_;refine aD (c0 (V:=.bool) (hc:=λ w1 hw=>O5 (h.Lc hw) hr hl hc)) (λ x7 h7=>?_);refine nR ?_
 refine bB (λ c8=>?_) (λ c8=>?_)
 ·rw[h7.2 hp] at c8;cases c8
 ·refine aY ?_;refine nK ?_;refine bP ?_;refine aT (cV (hc:=λ w1 hw=>ry (h.Lc hw) (bj hp hr hl) hl hc c ro hi)) (λ x11=>?_);refine J54 ?_;refine J8 ?_
  refine bC Tryz.results44 (λ w hw=>?_)
  exact⟨by rw[ho];rfl,hw.done⟩
end
end

/- Places of a trie of a world: there are some, each is an I-node with its main node. -/
section
open Go Go.RowKit Go.Ct
section
variable{H:ByteArray->Nat}{σ:Kw}{w:List Nat}{m g i:Int}
theorem Mk{N:List Nv}{f:Int->List Int->List Int->Option (List Pl×List Pr)}{way idx:List Int}:∀(xs ys:List Int) (j:Nat) (s:List Int),yR N f way idx (xs++ys) j s=(yR N f way idx xs j s).bind λ p=>(yR N f way idx ys (j+xs.length) (s++p.1.map Pl.i)).map λ q=>(p.1++q.1,p.2++q.2)
 | [],ys,j,s=>by
  simp only[List.nil_append,yR,Option.bind_some,List.length_nil,Nat.add_zero,List.map_nil,List.append_nil]
  cases yR N f way idx ys j s<;>rfl
 | b::r,ys,j,s=>by
  have e:j+(b::r).length=j+1+r.length:=by simp only[List.length_cons];omega
  rw[e]
  simp only[List.cons_append,yR]
  split
  ·rw[Mk r ys (j+1) s]
   cases yR N f way idx r (j+1) s with
   | none=>rfl
   | some p=>simp only[Option.bind_some,Option.map_some];cases yR N f way idx ys (j+1+r.length) (s++p.1.map Pl.i)<;>rfl
  ·split
   ·cases f b (way++[idx.getD j 0]) s with
    | none=>rfl
    | some p =>
     simp only[Option.bind_some]
     rw[Mk r ys (j+1) (s++p.1.map Pl.i)]
     cases yR N f way idx r (j+1) (s++p.1.map Pl.i) with
     | none=>rfl
     | some q =>
      simp only[Option.bind_some,Option.map_some,List.map_append,<- List.append_assoc]
      cases yR N f way idx ys (j+1+r.length) (s++p.1.map Pl.i++q.1.map Pl.i)<;>simp
   ·rfl
def PlG(σ:Kw)(w:List Nat)(p:Pl):Prop:=Bel σ w p.i/\iL σ.mm.nodes σ.mm.cs p.i=some p.m
theorem lj(i0:Inv H σ):∀(n:Nat) (i:Int) (w:List Nat) (g a:Int) (lv:Nat) (way s:List Int),uV σ i w g->12<=w.length+n->(∀j∈s,¬∃v,σ.way j=w++v)->∃q,Ip σ.mm.nodes σ.mm.cs n a lv i way s=some q/\(∀p∈q.1,PlG σ w p)/\q.1≠[]
 | 0,i,w,g,_,_,_,_,hi,hn,_=>by have:=(hi.Xu i0).2.2;omega
 | n+1,i,w,g,a,lv,way,s,hi,hn,hl=>by
  obtain⟨p,hp,hm⟩:=n5 i0 hi
  have hbi:Bel σ w i:=⟨[],by rw[hi.1.2,List.append_nil],hi.1.1,by rw[hp];rfl⟩
  have hns:¬i∈s:=λ h=>hl i h ⟨[],by rw[hi.1.2,List.append_nil]⟩
  by_cases h3:(σ.nd p).kind=3
  ·have hc:=hm.F5 i0 h3
   have key:∀k,k<=64->∃q,yR σ.mm.nodes (λ b w s=>Ip σ.mm.nodes σ.mm.cs n i (lv+1) b w s) way (sB (σ.nd p).bm.toNat 64) (pD (qU (σ.nd p).bm.toNat (σ.nd p).xs) k) 0 (s++[i])=some q/\∀r∈q.1,∃k',k'<k/\PlG σ (w++[k']) r:=by
    intro k
    induction k with
    | zero=>intro _;exact⟨([],[]),rfl,λ j hj=>nomatch hj⟩
    | succ k ih =>
     intro hk
     obtain⟨q,h1,h2⟩:=ih (by omega)
     have up:∀r∈q.1,∃k',k'<k+1/\PlG σ (w++[k']) r:=λ r hr=>by obtain⟨k',h5,h6⟩:=h2 r hr;exact⟨k',by omega,h6⟩
     simp only[pD]
     rw[Mk,h1,Option.bind_some]
     cases hmo:qU (σ.nd p).bm.toNat (σ.nd p).xs k with
     | none=>exact⟨q,by simp[yR],up⟩
     | some b =>
      rcases hc.br k (by omega) b hmo with hb|hb
      ·refine⟨(q.1,q.2++[((cG σ.mm.nodes b).key,(cG σ.mm.nodes b).val)]),?_,up⟩
       simp only[Option.toList,yR]
       rw[if_pos hb.1]
       simp
      ·have hbg:uV σ b (w++[k]) (σ.nd b).gen:=⟨⟨hb.1,hb.2.1⟩,rfl⟩
       obtain⟨q2,h5,h6,_⟩:=lj i0 n b (w++[k]) _ i (lv+1) (way++[(sB (σ.nd p).bm.toNat 64).getD (0+(pD (qU (σ.nd p).bm.toNat (σ.nd p).xs) k).length) 0]) (s++[i]++q.1.map Pl.i) hbg (by rw[List.length_append,List.length_singleton];omega) (λ j hj=>by
        rintro ⟨v,hv⟩
        rcases List.mem_append.1 hj with hj|hj
        ·rcases List.mem_append.1 hj with hj|hj
         ·exact hl j hj ⟨k::v,by rw[hv,List.append_assoc];rfl⟩
         ·rw[List.mem_singleton.1 hj,hi.1.2] at hv
          have:=congrArg List.length hv
          simp at this
        ·obtain⟨r,hr,rfl⟩:=List.mem_map.1 hj
         obtain⟨k',h5,⟨v',h6,_⟩,_⟩:=h2 r hr
         rw[h6] at hv
         have:=qe hv
         omega)
       refine⟨(q.1++q2.1,q.2++q2.2),?_,λ r hr=>?_⟩
       ·simp only[Option.toList,yR]
        rw[if_neg (by rw[hb.1];decide),if_pos hb.1,h5]
        simp
       ·rcases List.mem_append.1 hr with hr|hr
        ·exact up r hr
        ·exact⟨k,by omega,h6 r hr⟩
   obtain⟨q,h1,h2⟩:=key 64 (Nat.le_refl _)
   rw[hc.lof] at h1
   refine⟨(⟨i,p,a,lv,way⟩::q.1,q.2),by rw[uf hns hp (by rw[h3];decide),h1];rfl,λ r hr=>?_,by simp⟩
   rcases List.mem_cons.1 hr with rfl|hr
   ·exact⟨hbi,hp⟩
   ·obtain⟨k',_,h6,h7⟩:=h2 r hr
    exact⟨h6.up,h7⟩
  ·have hk:(cG σ.mm.nodes p).kind=5∨(cG σ.mm.nodes p).kind=6:=by
    have:cB (σ.nd p):=hm.1
    unfold cB at this
    have h3':¬(cG σ.mm.nodes p).kind=3:=h3
    have t2:(cG σ.mm.nodes p).kind=3∨(cG σ.mm.nodes p).kind=5∨(cG σ.mm.nodes p).kind=6:=this
    omega
   exact⟨_,My hns hp hk,λ r hr=>by rw[List.mem_singleton.1 hr];exact⟨hbi,hp⟩,by simp⟩
end
end

/- The reference of views: the places of a trie in a proper state; a place of a world. -/
section
open Go Go.RowKit Go.Ct
section
variable{L:List aP}{cs:List Int}{gen:Int}{pn pc:Option Addr}{cn cc:Nat}{w:World}
theorem Sl(L:List aP)(r:Int):aB L r=aP.zero∨∃k,k<L.length/\aB L r=L.getD k aP.zero:=by
 unfold aB
 split
 ·exact .inr ⟨(r-1).toNat,by omega,rfl⟩
 ·exact .inl rfl
theorem Gc(hp:gR L cs gen)(hr:Ll L)(r:Int):∃b:Nat,b<18446744073709551616/\(aB L r).nd.bm=(b:Int)/\((aB L r).nd.kind=3->(aB L r).xs.length=gC b 64):=by
 rcases Sl L r with e|⟨k,hk,e⟩
 ·rw[e];exact⟨0,by decide,rfl,λ h=>absurd h (by decide)⟩
 ·rw[e]
  obtain⟨b,hb,hlt⟩:=(hr _ (fA hk)).bm
  refine⟨b,hlt,hb,λ h3=>?_⟩
  have:=(tP h3 (hp.nodes k hk).1).1
  rw[hb,rM hlt] at this
  omega
theorem Sr(hp:gR L cs gen){r:Int}(h:(aB L r).nd.kind≠3):(aB L r).xs=[]:=by
 rcases Sl L r with e|⟨k,hk,e⟩
 ·rw[e];rfl
 ·rw[e] at h ⊢
  exact(hp.nodes k hk).1.1.2.2.2.2.1.trans (if_neg (by simpa using h))
theorem R3(hp:gR L cs gen)(hr:Ll L)(r:Int):(aB L r).xs.length<=64:=by
 by_cases h:(aB L r).nd.kind=3
 ·obtain⟨b,_,_,h3⟩:=Gc hp hr r
  rw[h3 h]
  exact zF _ _
 ·rw[Sr hp h];decide
theorem Qy(hp:gR L cs gen)(hr:Ll L){B:Nat}(hB:∀v∈L,v.ys.length<=B)(hb:(L.length+1)*(B+64)<=549755813888):Few L B:=by
 refine⟨λ r=>⟨?_,R3 hp hr r⟩,hb⟩
 rcases Sl L r with e|⟨k,hk,e⟩
 ·rw[e];exact Nat.zero_le _
 ·rw[e];exact hB _ (fA hk)
theorem ig{B:Nat}{wp:Option Addr}{wc:Nat}{o:Option (List Pl×List Pr)}{x:I3}(h:Ng L B wp wc [] o x):(o=none->x.ok=false)/\∀q,o=some q->x.ok=true/\x.l.map rX.p=q.1/\x.ps=q.2/\(x.own=false->(x.pp,cZ x.ps)∈aM L)/\x.l.length<=L.length+1:=by
 refine⟨λ e=>?_,λ q e=>?_⟩
 ·subst e;exact h.2
 ·subst e
  obtain⟨h1,h2,h3,h4,h5,h6,h7⟩:=h.2
  refine⟨h1,h2,h3,h5,?_⟩
  have:=h6.len
  rw[List.nil_append,List.length_map,<- h2,List.length_map] at this
  exact this
theorem Rg(hp:gR L cs gen)(h:oA w L cs pn pc)(hr:Ll L)(hl:L.length<=274877906944)(hc:cs.length<=274877906944){B:Nat}(hB:∀v∈L,v.ys.length<=B)(hBl:(L.length+1)*(B+64)<=549755813888)(c:Int)(ro:Bool)(hi:c<=9223372036854775807){r:Int}(hrt:oL (L.map aP.c) cs c=some r){q:List Pl×List Pr}(hn:Ip (L.map aP.c) cs 12 0 0 r [] []=some q):Calls Tryz.prog 70 #[Nh L cs gen pn cn pc cc,.agg ⟨[.int .i64 c,.bool ro]⟩] w λ e w'=>∃x:I3,e=.returned (.tuple #[.slice x.lp x.l.length x.lc,.slice x.pp x.ps.length x.pc,.bool true])/\(x.l.map rX.p=q.1/\x.l.length<=L.length+1)/\SF w [] [] [] x.fr [] w':=by
 have hb:=bj hp hr hl
 obtain⟨k,rfl,hk⟩:=q9 hrt
 refine enter Tryz.func70 Tryz.ntmps70 rfl rfl h.start ?_
 simp only[bX]
 simp only[Nh]
 refine J0 ?_;refine bI (λ x2=>?_);refine bI (λ x3=>?_);refine eG (λ _=>?_);refine J8 ?_;refine nK ?_;refine bP ?_;refine aT (cV (hc:=λ w1 hw=>ka (gen:=gen) (cn:=cn) (cc:=cc) hp (h.Lc hw) hr hl hc c ro hrt hi)) (λ x14=>?_);refine Ii ?_;refine J8 ?_;refine kA ?_;refine nR ?_
 refine bB (λ c18=>?_) (λ c18=>?_)
 ·exact nv c18
 ·refine jU ?_;refine dK [(0,[]),(1,[]),(2,[]),(3,[]),(4,[]),(5,[]),(6,[]),(7,[0]),(8,[]),(9,[]),(10,[]),(11,[]),(12,[]),(13,[]),(14,[]),(15,[])] ?_;refine bG ?_;refine aN ?_;refine fU ?_;refine kX ?_;refine oD ?_;refine bc ?_;refine Ph (h:=λ x27=>?_);refine aZ (i:=8) (hq:=(cM (hs:=[]) (os:=[sg L x27 (List.replicate (L.length+1) false)]) (hA:=bA.cons (.inr (.inl (.head _))) (bA.cons (.inr (.inl (.tail _ (.head _)))) (bA.cons (.inl rfl) (bA.of λ f hf=>.inr (.inl (.tail _ (.tail _ hf))))))) (hc:=λ w1 hs=>Nz h.fit hb hl hc (Gc hp hr) B x27 (Qy hp hr hB hBl) 12 0 rfl k 0 0 [] none 0 [] _ _ w1 hk rfl (Nat.le_refl _) (Vs.zero _) hs))) (h:=λ x28 h28=>?_);refine aN ?_;refine jV ?_;refine jV ?_;refine jV ?_;refine iI (h:=λ _=>?_);refine Q7 ?_;refine kA ?_;refine nR ?_
  refine bB (λ c33=>?_) (λ c33=>?_)
  ·exfalso;rw[((ig h28).2 _ hn).1] at c33;simp at c33
  ·refine Bh ?_;refine eG (λ _=>?_);refine J8 ?_
   refine bC Tryz.results70 (λ w hw=>?_)
   obtain⟨h1,h2,h3,h4,h5⟩:=(ig h28).2 _ hn
   rw[List.append_nil] at hw
   exact⟨x28,rfl,⟨h2,h5⟩,hw.aU (hF:=aX.all)⟩
end
open Classical in
theorem Kr{α:Type}:∀(l m:List α),l.Nodup->(∀a∈l,a∈m)->l.length<=m.length
 | [],_,_,_=>Nat.zero_le _
 | a::l,m,hn,hs=>by
  have hn:=List.nodup_cons.1 hn
  have ha:=hs a (List.mem_cons_self ..)
  have:=Kr l (m.erase a) hn.2 λ b hb=>by
   have hb2:=hs b (List.mem_cons_of_mem _ hb)
   exact(List.mem_erase_of_ne (λ e=>hn.1 (by rw[<- e];exact hb))).2 hb2
  rw[List.length_erase_of_mem ha] at this
  have:=List.length_pos_of_mem ha
  simp only[List.length_cons]
  omega
theorem W6{m B C E:Nat}{W:Wd}(h:Ql m B C E W):∀v∈W.z.L,v.ys.length<=8:=by
 obtain⟨σ,hi⟩:=h.wr.inv
 have i0:=hi.inv
 have e1:σ.mm.nodes=W.z.L.map aP.c:=by rw[hi.mm];rfl
 have hl:σ.len=W.z.L.length:=by show σ.mm.nodes.length=_;rw[e1,List.length_map]
 intro v hv
 obtain⟨k,hk,rfl⟩:=List.mem_iff_getElem.1 hv
 have hn:=i0.nd ((k+1:Nat):Int) (by omega) (by omega)
 have e:σ.nd ((k+1:Nat):Int)=(W.z.L[k]).c:=by
  simp only[Kw.nd]
  rw[e1,cX,rO hk,jH,List.getElem?_eq_getElem hk]
  rfl
 have hy:(σ.nd ((k+1:Nat):Int)).ys=(W.z.L[k]).ys:=by rw[e];rfl
 rw[<- hy]
 have hval:=hn.valid
 by_cases h6:(σ.nd ((k+1:Nat):Int)).kind=6
 ·have hk6:=hn.k6 h6
  obtain⟨b,hb,hblt⟩:=hn.bd.hash
  have hasc:SA (σ.nd ((k+1:Nat):Int)).ys:=by
   have:=hval.2.2.2.2
   have h6':(σ.nd ((k+1:Nat):Int)).nd.kind=6:=h6
   rcases this with h|h|h|h|h|h|h
   ·omega
   ·omega
   ·omega
   ·omega
   ·exact oF.1 h.2.2.1
   ·omega
   ·omega
  have hnd:((σ.nd ((k+1:Nat):Int)).ys.map Prod.fst).Nodup:=by
   unfold List.Nodup
   rw[List.pairwise_map]
   exact hasc.imp λ{a b} hab e=>by rw[e,tJ] at hab;cases hab
  have:=Kr _ lN hnd λ q hq=>by
   obtain⟨p,hp,rfl⟩:=List.mem_map.1 hq
   exact(aAR (hk6.2.2.1 p hp) (by omega)).1
  rw[List.length_map] at this
  exact this
 ·have:(σ.nd ((k+1:Nat):Int)).ys=[]:=hval.1.2.2.2.2.2.2.2.2.1.trans (if_neg (by have h7:¬(σ.nd ((k+1:Nat):Int)).nd.kind=6:=h6;simpa using h7))
  rw[this];decide
theorem P1{m B C E:Nat}{W:Wd}(h:Ql m B C E W){t:gO}(ht:t∈W.ts):∃r q,oL (W.z.L.map aP.c) W.z.cs t.root=some r/\Ip (W.z.L.map aP.c) W.z.cs 12 0 0 r [] []=some q/\q.1≠[]/\∀p∈q.1,(cG (W.z.L.map aP.c) p.i).kind=2/\iL (W.z.L.map aP.c) W.z.cs p.i=some p.m:=by
 obtain⟨σ,hi⟩:=h.wr.inv
 have i0:=hi.inv
 have e1:σ.mm.nodes=W.z.L.map aP.c:=by rw[hi.mm];rfl
 have e2:σ.mm.cs=W.z.cs:=by rw[hi.mm];rfl
 obtain⟨r,hr,hir⟩:=nq i0 (hi.ts t ht)
 obtain⟨q,h1,h2,h3⟩:=lj i0 12 r [] (σ.nd r).gen 0 0 [] [] ⟨hir,rfl⟩ (by decide) (λ j hj=>nomatch hj)
 rw[e1,e2] at hr h1
 refine⟨r,q,hr,h1,h3,λ p hp=>?_⟩
 obtain⟨⟨v,_,k2,_⟩,k4⟩:=h2 p hp
 rw[e1,e2] at k4
 have e3:σ.nd p.i=cG (W.z.L.map aP.c) p.i:=by rw[<- e1]
 rw[e3] at k2
 exact⟨k2,k4⟩
end

/- Lists of things of some cells each. -/
end Go.Proofs.YtbajmaoegmbfgaaGreat
namespace Go.Ct
section
open Go Go.RowKit
section
variable{w0 w w':World}{M:List Nat}{H:List (Nat×Obj)}{A F:Fr}{O:List Ow}
variable{P:Program}{S:List (Nat×Value)}{G:World->Prop}{d:Nat}{ty:TypeId}{pos:String}{af:Array Edge}{gd:Option (Nat×Bool)}{x y:Operand}{t t2 e:TypeId}{p a:Option Addr}{i m k c c2 sz:Nat}
variable{α:Type}{g:α->List Value}{z:α}
theorem Dg(hg:∀x,(g x).length=sz):∀l:List α,(l.flatMap g).length=sz*l.length
 | []=>by simp
 | x::r=>by
  have:=Dg hg r
  simp only[List.flatMap_cons,List.length_append,List.length_cons,this,hg,Nat.mul_add,Nat.mul_one]
  omega
theorem Wy(hg:∀x,(g x).length=sz):∀{l:List α} {k j:Nat},k<l.length->j<sz->(l.flatMap g)[sz*k+j]?=(g (l.getD k z))[j]?
 | [],_,_,h,_=>by simp at h
 | n::r,0,j,_,hj=>by
  simp only[List.flatMap_cons,Nat.mul_zero,Nat.zero_add,List.getD_cons_zero]
  rw[List.getElem?_append_left (by rw[hg];exact hj)]
 | n::r,k+1,j,h,hj=>by
  have:=Wy hg (l:=r) (k:=k) (j:=j) (by simpa using h) hj
  simp only[List.flatMap_cons,List.getD_cons_succ]
  rw[List.getElem?_append_right (by rw[hg,Nat.mul_add];omega),<- this,hg]
  congr 1
  rw[Nat.mul_add]
  omega
theorem fg{lst:List α}{kk:IntKind}(hg:∀x,(g x).length=sz)(h0:0<sz)(hx:ev S x=.slice a m c)(hy:ev S y=.int kk ((k:Nat):Int))(ht:P.underlying t=some (.slice e))(hs:iS P e sz=true)(hf:pZ A F O a (lst.flatMap g))(h1:k<m)(h2:k<lst.length) :
  aL P S (SF w0 M H A F O) ⟨some d,.indexAddr t x y,ty,pos,af,gd⟩ (.pointer (some ⟨cL a,eA a+sz*k,none⟩)):=⟨λ w hw=>by
 obtain⟨_,_,_,hsz⟩:=gN hs
 have ha:=(hw.cl hf).ptr (by rw[Dg hg];exact Nat.mul_pos h0 (by omega))
 have:=xA (P:=P) (a:=a) (m:=m) (c:=c) (k:=kk) ht hsz ha (i:=(k:Int)) (by omega) (by omega) w
 simp only[Int.toNat_natCast,Nat.mul_comm k sz] at this
 simp[execOp,hx,hy,this]⟩
theorem s7{lst:List α}{q:Nat}(z:α)(hg:∀x,(g x).length=sz)(hx:ev S x=.pointer (some ⟨cL a,eA a+sz*q,none⟩))(ht:iS P t sz=true)(hf:pZ A F O a (lst.flatMap g))(hq:q<lst.length) :
  aL P S (SF w0 M H A F O) ⟨some d,.load t x,ty,pos,af,gd⟩ (.agg ⟨g (lst.getD q z)⟩):=⟨λ w hw=>by
 have hcl:=hw.cl hf
 obtain⟨dd,hu,hm,hi⟩:=gN ht
 have hagg:(isAgg t).run P w=.ok true w:=by
  unfold isAgg
  rw[Sem.run_bind,run_underlying hu w]
  cases dd<;>simp_all
 have hl:(loadCells ⟨cL a,eA a+sz*q,none⟩ sz).run P w=.ok ⟨g (lst.getD q z)⟩ w:=by
  have:=run_loadCells_list (P:=P) w ⟨cL a,eA a+sz*q,none⟩ (g (lst.getD q z)) (λ j u hz=>by
   have hj:j<sz:=by rw[<- hg (lst.getD q z)];exact(List.getElem?_eq_some_iff.1 hz).1
   rw[Addr.add_lit]
   have h3:=(hcl.at_ (sz*q+j) u (by rw[Wy hg hq hj];exact hz)).2
   rwa [<- Nat.add_assoc] at h3)
  rwa [hg] at this
 cases hq':P.info? t with
 | none=>rw[hq'] at hi;simp at hi
 | some i =>
  have hs:i.size=sz:=by rw[hq'] at hi;simpa using hi
  simp[execOp,hx,Instr.loadAt,Instr.sureAddr,loadVar,hagg,Go.sizeOf,typeInfo,hq',hs,hl]⟩
end
end

/- RootReads: the walk. -/
end Go.Ct
namespace Go.Proofs.YtbajmaoegmbfgaaGreat
section
open Go Go.RowKit Go.Ct
abbrev exL(x:XS):List Ow:=[⟨x.pg,aG x.got,x.kg,37,1⟩,⟨x.pm,aG x.made,x.km,37,1⟩,⟨x.pl,aG x.cel,x.kl,27,1⟩,⟨x.pe,aG x.gns,x.ke,3,1⟩]
theorem wa{w0 w:World}{M:List Nat}{H:List (Nat×Obj)}{A F:Fr}{O:List Ow}{ba bm:Nat}{a:AS}{p:PX}{B:Fr}(h:SF w0 M H A F O w)(hH:[(p.tb,tO ba p.c p.n),(p.e.b,xO p.e.k bm p.e.x p.e.dn p.e.rs),(ba,fS a),(bm,xM p.e.x)].Sublist H)(hO:(exL p.e.x++(gI a++zC p.e.x)).Sublist O):SF w0 M (rB ba bm ⟨a,p.e.x,[p],B⟩) A F (sM ⟨a,p.e.x,[p],B⟩) w :=
 (h.sub hH aX.all hO).perm (List.perm_append_comm (l₁:=[(ba,fS a),(bm,xM p.e.x)]) (l₂:=[(p.tb,tO ba p.c p.n),(p.e.b,xO p.e.k bm p.e.x p.e.dn p.e.rs)])) (List.perm_append_comm (l₁:=gI a++zC p.e.x) (l₂:=exL p.e.x))
end

/- The laws of root: a swap begins, on the arena and on the memory. -/
end Go.Proofs.YtbajmaoegmbfgaaGreat
namespace Go.Ct
section
open Go Go.RowKit
end
end Go.Ct
namespace Go.Proofs.YtbajmaoegmbfgaaGreat
section
open Go Go.RowKit Go.Ct
theorem sc{x:XS}(h:x.Ok):Ll x.L:=λ v hv=>by
 have hb:=h.nd v hv
 have h1:=hb.main
 have h2:=hb.prev
 have h3:=hb.status
 have h4:=h.lc
 have e1:v.c.main=v.nd.main:=rfl
 have e2:v.c.prev=v.nd.prev:=rfl
 have e3:v.c.status=v.nd.status:=rfl
 exact⟨hb.bm,by omega,by omega,by omega⟩
def kS(kind:Int)(t:gO)(a b n:Int):Cl:=⟨kind,t,a,b,n,0,0,0,⟨#[]⟩,0,0,0,false⟩
theorem ua{kind:Int}{t:gO}{a b n:Int}(h1:1<=kind)(h2:kind<=4):Xr (kS kind t a b n):=.inl ⟨h1,h2⟩
structure SW where
 a1:AS
 z1:XS
 k:Cl
 tb:Nat
 c:Cd
 F:Fr
 a:AS
 bx:Nat
 x:XS
 N:List aP
 dn:Bool
 rs:Rs
structure aCf(ba:Nat)(a:AS)(z:XS)(q:SW):Prop where
 z1:q.z1.Ok
 a1:q.a1.Ok
 mm:q.a1.mm=q.z1.mm
 ext:∃v,q.z1.L=z.L++[v]
 cl:z.cs.length<=q.z1.cs.length
 sz:∀B,Sz z B->Sz q.z1 (B+1)
 gr:∀f∈aM q.a1.L,f.2=[]∨f∈aM a.L∨f∈q.F
 rp:sZ (T0 q.k 0) (T0 q.k 0) 0 0 Rs.zero (XS.new q.z1.L q.z1.cs q.z1.gen q.z1.acc q.z1.pn q.z1.cn q.z1.pc q.z1.cc) q.x q.N q.dn q.rs
 tk:∃F0,(∀f∈F0,f∈q.F)/\oJ ba (Ct.iR (T0 q.k 0) q.a1.mm) q.a1 [] (q.c,F0,q.a)
 fz:∀f∈aM q.x.L,f.2=[]∨f∈aM z.L∨f∈q.F
 kk:Xr q.k/\q.k.mask=((0:Nat):Int)/\q.k.t.root<=9223372036854775807/\q.k.a<=q.z1.L.length/\q.k.b<=q.z1.L.length/\q.k.n<=q.z1.L.length
end

/- A place of a world's trie. -/
section
open Go Go.RowKit Go.Ct
def ow(z:XS)(p:Pl):Prop:=(cG (z.L.map aP.c) p.i).kind=2/\iL (z.L.map aP.c) z.cs p.i=some p.m
theorem ow.in{z:XS}{p:Pl}(h:ow z p):1<=p.i/\p.i<=z.L.length:=by
 have:=eM (N:=z.L.map aP.c) (i:=p.i) (by have:=h.1;omega)
 rwa [List.length_map] at this
abbrev zo:rX:=⟨⟨0,0,0,0,[]⟩,none,0⟩
theorem dx{bw bm tp m B C E:Nat}{W:Wd}{t:gO}{l:List Int}{a:Option Addr}{c pos:Nat}{D:List Nat}{A:Fr}{w:World}(hW:Ql m B C E W)(hB:B<=2415922570)(ht:t∈W.ts)(hrt:t.root<=9223372036854775807)(hl:l.length<=17592186043904)(hA:∀f∈aM W.z.L,f∈A)(hT:(a,aG l)∈A)
    (hs:SF w D [(tp,Bd a l c pos),(bw,mB bm (m:Int) W.pt W.ts.length W.kt W.pe (rA W.ex).length W.ke),(bm,xM W.z)] A [] (zC W.z) w) :
    Calls Tryz.prog 23 #[.pointer (some ⟨bw,0,none⟩),.agg ⟨[.int .i64 t.root,.bool t.ro]⟩,.pointer (some ⟨tp,0,none⟩)] w λ e w'=>∃v:rX,e=.returned (.tuple #[.agg ⟨v.cells⟩,.bool true])/\ow W.z v.p /\
      SF w D [(tp,Bd a l c (kD l pos)),(bw,mB bm (m:Int) W.pt W.ts.length W.kt W.pe (rA W.ex).length W.ke),(bm,xM W.z)] [] [] (zC W.z) w':=by
  obtain⟨r,q,hro,hpl,hne,hq⟩:=P1 hW ht
  obtain⟨s1,s2,s3⟩:=hW.sz
  have hys:=W6 hW
  have hpr:=tF hW
  refine enter Tryz.func23 Tryz.ntmps23 rfl rfl hs ?_
  simp only[bX]
  refine J0 ?_;refine bI (λ x4=>?_);refine aJ (λ x6=>?_);refine iE ?_;refine gL [0,1,2,3,4,5,6,7,8,9,10,11,12,13,14,15] ?_;refine Zb ?_;refine J4 ?_;refine bQ (i:=6) (hq:=(aQ (k:=3) rf cQ eC (by simp only[List.drop_zero,List.take_succ_cons,List.take_zero];exact rfl) rfl)) (h:=?_);refine bG ?_;refine aZ (i:=8) (hq:=(Oh (V:=λ x:I3=>.tuple #[.slice x.lp x.l.length x.lc,.slice x.pp x.ps.length x.pc,.bool true]) (Hc:=λ _=>[]) (Fc:=λ x=>x.fr) (F1:=λ x=>x.fr) (Oc:=λ _=>[]) (hF1:=λ x=>List.append_nil _) (hc:=λ w1 hw=>Rg (B:=8) hpr (hw.zN (.inr (.inr (.inr ⟨_,.head _,rfl,rfl⟩))) (.inr (.inr (.inr ⟨_,.tail _ (.head _),rfl,rfl⟩))) (λ f hf=>.inr (.inl (hA f hf))) hW.z.fit) (sc hW.z) (by omega) (by omega) hys (by omega) _ _ hrt hro hpl))) (h:=λ x20 h20=>?_)
  obtain⟨hx1,hx2⟩:=h20
  have hln:0<x20.l.length:=by
   have:=congrArg List.length hx1
   rw[List.length_map] at this
   have:=List.length_pos_iff.2 hne
   omega
  refine aN ?_;refine jV ?_;refine jV ?_;refine jV ?_;refine iI (h:=λ _=>?_);refine Q7 ?_;refine kA ?_;refine Cz ?_
  (refine aF ?_;refine aA ?_)
  ((refine aF ?_;refine dA ?_));refine vJ ?_;refine aH ?_
  refine bB (λ c30=>?_) (λ c30=>?_)
  · exfalso;have c30':x20.l.length=0:=by simpa using c30
    omega
  · refine Bh ?_;refine aA ?_;refine dA ?_;refine aD (uC (hc:=λ w1 hw=>eH x20.l.length (hw.tape cQ (.bK (vV.kE hT)) hl) (by omega) (by omega))) (λ x36 h36=>?_);refine aC (fg (lst:=x20.l) (g:=rX.cells) (sz:=5) (k:=x36) (λ _=>rfl) (by decide) rf rf fT eC (.new (vV.kE (List.mem_cons_self ..))) (by omega) (by omega)) rfl ?_;refine aC (s7 (lst:=x20.l) (g:=rX.cells) (sz:=5) (q:=x36) zo (λ _=>rfl) rf eC (.new (vV.kE (List.mem_cons_self ..))) (by omega)) rfl ?_;refine xX ?_
    refine bC Tryz.results23 (λ w hw=>?_)
    refine⟨x20.l.getD x36 zo,rfl,hq _ ?_,?_⟩
    · rw[<- hx1,List.mem_map]
      exact⟨x20.l.getD x36 zo,by rw[jH,List.getElem?_eq_getElem (show x36<x20.l.length by omega)];exact List.getElem_mem _,rfl⟩
    · exact hw.ret (by repeat (first|exact List.Sublist.refl _|apply List.Sublist.cons)) aX.nil (List.Sublist.refl _)
end

end Go.Proofs.YtbajmaoegmbfgaaGreat

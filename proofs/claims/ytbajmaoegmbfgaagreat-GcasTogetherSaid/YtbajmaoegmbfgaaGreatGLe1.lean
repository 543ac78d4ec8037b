/- The order of keys. -/
import Derived.Test.YtbajmaoegmbfgaaGreatGVw1
import Derived.Test.YtbajmaoegmbfgaaGreatGKw6
import Derived.Test.YtbajmaoegmbfgaaGreatGR91
import Derived.Test.YtbajmaoegmbfgaaGreatGTape3
import Derived.Test.YtbajmaoegmbfgaaGreatGWr1
import Derived.Test.YtbajmaoegmbfgaaGreatR93

set_option linter.unusedSimpArgs false
set_option linter.unusedVariables false
namespace Go.Ct
section
open Go Go.RowKit
end
end Go.Ct
namespace Go.Proofs.YtbajmaoegmbfgaaGreat
section
open Go Go.RowKit Go.Ct
end

/- Tries that keep the labels: their I-nodes and their contents. -/
section
open Go.RowKit Go.Ct
section
variable{H:ByteArray->Nat}{σ:Kw}{i m p g:Int}{w:List Nat}{t:gK}
theorem oy(i0:Inv H σ)(hi:uH σ i w g):∃p,iD σ.mm.nodes σ.mm.cs i=some p/\qJ σ p w g:=by
 have hm:=hi.u7 i0
 have hc:=i0.pW hm.1
 have hp:=(i0.ce _ hc.1 hc.2.1).prev _ hc.2.2
 have e1:wS σ.mm.nodes σ.mm.cs i=σ.ce (σ.nd i).main:=rfl
 have e2:oN σ.mm.nodes σ.mm.cs i=σ.ce (σ.nd (σ.ce (σ.nd i).main)).prev:=rfl
 have e3:yU σ.mm.nodes σ.mm.cs i=if(σ.nd (oN σ.mm.nodes σ.mm.cs i)).kind=7 then(σ.nd (oN σ.mm.nodes σ.mm.cs i)).bK else oN σ.mm.nodes σ.mm.cs i:=rfl
 unfold iD
 rw[if_pos ⟨hi.1.1,by rw[e1];exact hm.1⟩]
 have key:∀q,pU σ (σ.ce (σ.nd i).main) q->qJ σ q w g:=λ q hq=>by have:=hq.1;rw[hm.2.1] at this;exact this.le hm.2.2
 by_cases h0:oN σ.mm.nodes σ.mm.cs i=0
 ·rw[if_pos h0,e1]
  exact⟨_,rfl,hm⟩
 ·rw[if_neg h0,e3]
  rw[e2] at h0 ⊢
  rcases hp.2 with h|h|h
  ·exact absurd h h0
  ·have hk:=h.1.1
   rw[if_neg (bZ.ne0 hk).2.1,if_pos hk]
   exact⟨_,rfl,key _ h⟩
  ·rw[if_pos h.1,if_pos h.2.1.1]
   exact⟨_,rfl,key _ h.2⟩
theorem oi(i0:Inv H σ)(hT:dI σ t):∃r,oO σ.mm.nodes σ.mm.cs t.root=some r/\xZ σ r []:=by
 have hv:=(lh hT i0).2
 have e:tY σ.mm.nodes σ.mm.cs t.root=if(σ.nd (σ.ce t.root)).kind=8 then(if σ.ce (σ.nd (σ.ce t.root)).status=1 then(σ.nd (σ.ce t.root)).new else(σ.nd (σ.ce t.root)).bK) else σ.ce t.root:=rfl
 have key:∀r,tY σ.mm.nodes σ.mm.cs t.root=r->xZ σ r []->∃r,oO σ.mm.nodes σ.mm.cs t.root=some r/\xZ σ r []:=λ r er hr=>⟨r,by unfold oO;rw[er];exact if_pos hr.1,hr⟩
 rcases hv with h|h
 ·exact key _ (e.trans (if_neg (by rw[h.1];decide))) h
 ·have hd:=i0.desc h.1
  by_cases hs:σ.ce (σ.nd (σ.ce t.root)).status=1
  ·exact key _ (e.trans ((if_pos h.1).trans (if_pos hs))) hd.2.2.1
  ·exact key _ (e.trans ((if_pos h.1).trans (if_neg hs))) hd.2.1
theorem mX.lof{b:Nat}{xs:List Int}(h:mX σ m w g b xs):pF (rA b xs) 64=xs:=(Sc h.bv).2
def Bel(σ:Kw)(w:List Nat)(j:Int):Prop:=∃v,σ.way j=w++v/\(σ.nd j).kind=2/\(iD σ.mm.nodes σ.mm.cs j).isSome=true
theorem Bel.up{k:Nat}{j:Int}(h:Bel σ (w++[k]) j):Bel σ w j:=by
 obtain⟨v,h1,h2⟩:=h
 exact⟨k::v,by rw[h1,List.append_assoc];rfl,h2⟩
theorem rh{a b:Nat}{w u v:List Nat}(h:w++[a]++u=w++[b]++v):a=b:=by
 rw[List.append_assoc,List.append_assoc] at h
 have:=List.append_cancel_left h
 simpa using(List.cons.inj this).1
end
end

/- The reference of views: the root of a trie, the main node of an I-node, in a proper state. -/
section
open Go Go.RowKit Go.Ct
section
variable{L:List aP}{cs:List Int}{gen:Int}{pn pc:Option Addr}{cn cc:Nat}{w:World}
theorem Z0(hp:gV L cs gen)(hr:Lw L)(hl:L.length<=274877906944):StB L cs:=by
 have hd:∀x:Int,Ed x L.length->x<=9223372036854775807:=λ x h=>by have:=h.2;omega
 refine⟨λ c=>?_,λ r=>?_,λ r=>?_,λ r=>?_,λ r=>?_,λ r=>?_,λ r=>?_⟩
 ·unfold bU
  split
  ·exact hd _ (hp.cells _ (by omega))
  ·decide
 ·unfold aB
  split
  ·exact hd _ (hp.nodes (r-1).toNat (by omega)).2.2.2.1
  ·decide
 ·unfold aB
  split
  ·exact hd _ (hp.nodes (r-1).toNat (by omega)).2.2.2.2.2
  ·decide
 ·unfold aB
  split
  ·exact(hr _ (eV (by omega))).main
  ·decide
 ·unfold aB
  split
  ·exact(hr _ (eV (by omega))).prev
  ·decide
 ·unfold aB
  split
  ·exact(hr _ (eV (by omega))).status
  ·decide
 ·unfold aB
  split
  ·intro b hb
   obtain⟨i,hi,rfl⟩:=List.mem_iff_getElem.1 hb
   have:=(hp.nodes (r-1).toNat (by omega)).2.2.1 i hi
   rw[jH,List.getElem?_eq_getElem hi] at this
   exact hd _ this
  ·intro b hb
   cases hb
theorem Z9(hp:gV L cs gen)(h:oF w L cs pn pc)(hr:Lw L)(hl:L.length<=274877906944)(hc:cs.length<=274877906944)(c:Int)(ro:Bool){r:Int}(ho:oO (L.map aP.c) cs c=some r)(hi:c<=9223372036854775807):Calls Tryz.prog 44 #[Nr L cs gen pn cn pc cc,.agg ⟨[.int .i64 c,.bool ro]⟩] w λ e w'=>e=.returned (.tuple #[.int .i64 r,.bool true])/\St w [] [] w':=by
 refine enter Tryz.func44 Tryz.ntmps44 rfl rfl h.start ?_
 simp only[bX]
 simp only[Nr]
 refine J0 ?_;refine bI (λ x2=>?_);refine bI (λ x3=>?_);refine J8 ?_;refine aV ?_;refine nQ ?_;refine aD (c0 (V:=.bool) (hc:=λ w1 hw=>Qk (h.L9 hw) hr hl hc)) (λ x7 h7=>?_);refine oH ?_
 refine bB (λ c8=>?_) (λ c8=>?_)
 ·rw[h7.2 hp] at c8;cases c8
 ·refine bA ?_;refine nQ ?_;refine bL ?_;refine aS (cV (hc:=λ w1 hw=>qb (h.L9 hw) (Z0 hp hr hl) hl hc c ro hi)) (λ x11=>?_);refine J54 ?_;refine J8 ?_
  refine bC Tryz.results44 (λ w hw=>?_)
  exact⟨by rw[ho];rfl,hw.done⟩
end
end

/- Places of a trie of a world: there are some, each is an I-node with its main node. -/
section
open Go Go.RowKit Go.Ct
section
variable{H:ByteArray->Nat}{σ:Kw}{w:List Nat}{m g i:Int}
theorem Nk{N:List Nv}{f:Int->List Int->List Int->Option (List Pl×List Pr)}{way idx:List Int}:∀(xs ys:List Int) (j:Nat) (s:List Int),yJ N f way idx (xs++ys) j s=(yJ N f way idx xs j s).bind λ p=>(yJ N f way idx ys (j+xs.length) (s++p.1.map Pl.i)).map λ q=>(p.1++q.1,p.2++q.2)
 | [],ys,j,s=>by
  simp only[List.nil_append,yJ,Option.bind_some,List.length_nil,Nat.add_zero,List.map_nil,List.append_nil]
  cases yJ N f way idx ys j s<;>rfl
 | b::r,ys,j,s=>by
  have e:j+(b::r).length=j+1+r.length:=by simp only[List.length_cons];omega
  rw[e]
  simp only[List.cons_append,yJ]
  split
  ·rw[Nk r ys (j+1) s]
   cases yJ N f way idx r (j+1) s with
   | none=>rfl
   | some p=>simp only[Option.bind_some,Option.map_some];cases yJ N f way idx ys (j+1+r.length) (s++p.1.map Pl.i)<;>rfl
  ·split
   ·cases f b (way++[idx.getD j 0]) s with
    | none=>rfl
    | some p =>
     simp only[Option.bind_some]
     rw[Nk r ys (j+1) (s++p.1.map Pl.i)]
     cases yJ N f way idx r (j+1) (s++p.1.map Pl.i) with
     | none=>rfl
     | some q =>
      simp only[Option.bind_some,Option.map_some,List.map_append,<- List.append_assoc]
      cases yJ N f way idx ys (j+1+r.length) (s++p.1.map Pl.i++q.1.map Pl.i)<;>simp
   ·rfl
def PlG(σ:Kw)(w:List Nat)(p:Pl):Prop:=Bel σ w p.i/\iD σ.mm.nodes σ.mm.cs p.i=some p.m
theorem iq(i0:Inv H σ):∀(n:Nat) (i:Int) (w:List Nat) (g a:Int) (lv:Nat) (way s:List Int),uH σ i w g->12<=w.length+n->(∀j∈s,¬∃v,σ.way j=w++v)->∃q,Ji σ.mm.nodes σ.mm.cs n a lv i way s=some q/\(∀p∈q.1,PlG σ w p)/\q.1≠[]
 | 0,i,w,g,_,_,_,_,hi,hn,_=>by have:=(hi.Zg i0).2.2;omega
 | n+1,i,w,g,a,lv,way,s,hi,hn,hl=>by
  obtain⟨p,hp,hm⟩:=oy i0 hi
  have hbi:Bel σ w i:=⟨[],by rw[hi.1.2,List.append_nil],hi.1.1,by rw[hp];rfl⟩
  have hns:¬i∈s:=λ h=>hl i h ⟨[],by rw[hi.1.2,List.append_nil]⟩
  by_cases h3:(σ.nd p).kind=3
  ·have hc:=hm.E8 i0 h3
   have key:∀k,k<=64->∃q,yJ σ.mm.nodes (λ b w s=>Ji σ.mm.nodes σ.mm.cs n i (lv+1) b w s) way (sE (σ.nd p).bm.toNat 64) (pF (rA (σ.nd p).bm.toNat (σ.nd p).xs) k) 0 (s++[i])=some q/\∀r∈q.1,∃k',k'<k/\PlG σ (w++[k']) r:=by
    intro k
    induction k with
    | zero=>intro _;exact⟨([],[]),rfl,λ j hj=>nomatch hj⟩
    | succ k ih =>
     intro hk
     obtain⟨q,h1,h2⟩:=ih (by omega)
     have up:∀r∈q.1,∃k',k'<k+1/\PlG σ (w++[k']) r:=λ r hr=>by obtain⟨k',h5,h6⟩:=h2 r hr;exact⟨k',by omega,h6⟩
     simp only[pF]
     rw[Nk,h1,Option.bind_some]
     cases hmo:rA (σ.nd p).bm.toNat (σ.nd p).xs k with
     | none=>exact⟨q,by simp[yJ],up⟩
     | some b =>
      rcases hc.br k (by omega) b hmo with hb|hb
      ·refine⟨(q.1,q.2++[((cD σ.mm.nodes b).key,(cD σ.mm.nodes b).val)]),?_,up⟩
       simp only[Option.toList,yJ]
       rw[if_pos hb.1]
       simp
      ·have hbg:uH σ b (w++[k]) (σ.nd b).gen:=⟨⟨hb.1,hb.2.1⟩,rfl⟩
       obtain⟨q2,h5,h6,_⟩:=iq i0 n b (w++[k]) _ i (lv+1) (way++[(sE (σ.nd p).bm.toNat 64).getD (0+(pF (rA (σ.nd p).bm.toNat (σ.nd p).xs) k).length) 0]) (s++[i]++q.1.map Pl.i) hbg (by rw[List.length_append,List.length_singleton];omega) (λ j hj=>by
        rintro ⟨v,hv⟩
        rcases List.mem_append.1 hj with hj|hj
        ·rcases List.mem_append.1 hj with hj|hj
         ·exact hl j hj ⟨k::v,by rw[hv,List.append_assoc];rfl⟩
         ·rw[List.mem_singleton.1 hj,hi.1.2] at hv
          have:=congrArg List.length hv
          simp at this
        ·obtain⟨r,hr,rfl⟩:=List.mem_map.1 hj
         obtain⟨k',h5,⟨v',h6,_⟩,_⟩:=h2 r hr
         rw[h6] at hv
         have:=rh hv
         omega)
       refine⟨(q.1++q2.1,q.2++q2.2),?_,λ r hr=>?_⟩
       ·simp only[Option.toList,yJ]
        rw[if_neg (by rw[hb.1];decide),if_pos hb.1,h5]
        simp
       ·rcases List.mem_append.1 hr with hr|hr
        ·exact up r hr
        ·exact⟨k,by omega,h6 r hr⟩
   obtain⟨q,h1,h2⟩:=key 64 (Nat.le_refl _)
   rw[hc.lof] at h1
   refine⟨(⟨i,p,a,lv,way⟩::q.1,q.2),by rw[v8 hns hp (by rw[h3];decide),h1];rfl,λ r hr=>?_,by simp⟩
   rcases List.mem_cons.1 hr with rfl|hr
   ·exact⟨hbi,hp⟩
   ·obtain⟨k',_,h6,h7⟩:=h2 r hr
    exact⟨h6.up,h7⟩
  ·have hk:(cD σ.mm.nodes p).kind=5∨(cD σ.mm.nodes p).kind=6:=by
    have:bZ (σ.nd p):=hm.1
    unfold bZ at this
    have h3':¬(cD σ.mm.nodes p).kind=3:=h3
    have t2:(cD σ.mm.nodes p).kind=3∨(cD σ.mm.nodes p).kind=5∨(cD σ.mm.nodes p).kind=6:=this
    omega
   exact⟨_,Nj hns hp hk,λ r hr=>by rw[List.mem_singleton.1 hr];exact⟨hbi,hp⟩,by simp⟩
end
end

/- The reference of views: the places of a trie in a proper state; a place of a world. -/
section
open Go Go.RowKit Go.Ct
section
variable{L:List aP}{cs:List Int}{gen:Int}{pn pc:Option Addr}{cn cc:Nat}{w:World}
theorem Tg(L:List aP)(r:Int):aB L r=aP.zero∨∃k,k<L.length/\aB L r=L.getD k aP.zero:=by
 unfold aB
 split
 ·exact .inr ⟨(r-1).toNat,by omega,rfl⟩
 ·exact .inl rfl
theorem Iq(hp:gV L cs gen)(hr:Lw L)(r:Int):∃b:Nat,b<18446744073709551616/\(aB L r).nd.bm=(b:Int)/\((aB L r).nd.kind=3->(aB L r).xs.length=gI b 64):=by
 rcases Tg L r with e|⟨k,hk,e⟩
 ·rw[e];exact⟨0,by decide,rfl,λ h=>absurd h (by decide)⟩
 ·rw[e]
  obtain⟨b,hb,hlt⟩:=(hr _ (eV hk)).bm
  refine⟨b,hlt,hb,λ h3=>?_⟩
  have:=(sM h3 (hp.nodes k hk).1).1
  rw[hb,rK hlt] at this
  omega
theorem Tu(hp:gV L cs gen){r:Int}(h:(aB L r).nd.kind≠3):(aB L r).xs=[]:=by
 rcases Tg L r with e|⟨k,hk,e⟩
 ·rw[e];rfl
 ·rw[e] at h ⊢
  exact(hp.nodes k hk).1.1.2.2.2.2.1.trans (if_neg (by simpa using h))
theorem Il(hp:gV L cs gen)(hr:Lw L)(r:Int):(aB L r).xs.length<=64:=by
 by_cases h:(aB L r).nd.kind=3
 ·obtain⟨b,_,_,h3⟩:=Iq hp hr r
  rw[h3 h]
  exact zQ _ _
 ·rw[Tu hp h];decide
theorem O2(hp:gV L cs gen)(hr:Lw L){B:Nat}(hB:∀v∈L,v.ys.length<=B)(hb:(L.length+1)*(B+64)<=549755813888):Few L B:=by
 refine⟨λ r=>⟨?_,Il hp hr r⟩,hb⟩
 rcases Tg L r with e|⟨k,hk,e⟩
 ·rw[e];exact Nat.zero_le _
 ·rw[e];exact hB _ (eV hk)
theorem fv{B:Nat}{wp:Option Addr}{wc:Nat}{o:Option (List Pl×List Pr)}{x:Jl}(h:Nq L B wp wc [] o x):(o=none->x.ok=false)/\∀q,o=some q->x.ok=true/\x.l.map qX.p=q.1/\x.ps=q.2/\(x.own=false->(x.pp,cU x.ps)∈aK L)/\x.l.length<=L.length+1:=by
 refine⟨λ e=>?_,λ q e=>?_⟩
 ·subst e;exact h.2
 ·subst e
  obtain⟨h1,h2,h3,h4,h5,h6,h7⟩:=h.2
  refine⟨h1,h2,h3,h5,?_⟩
  have:=h6.len
  rw[List.nil_append,List.length_map,<- h2,List.length_map] at this
  exact this
theorem Ts(hp:gV L cs gen)(h:oF w L cs pn pc)(hr:Lw L)(hl:L.length<=274877906944)(hc:cs.length<=274877906944){B:Nat}(hB:∀v∈L,v.ys.length<=B)(hBl:(L.length+1)*(B+64)<=549755813888)(c:Int)(ro:Bool)(hi:c<=9223372036854775807){r:Int}(hrt:oO (L.map aP.c) cs c=some r){q:List Pl×List Pr}(hn:Ji (L.map aP.c) cs 12 0 0 r [] []=some q):Calls Tryz.prog 70 #[Nr L cs gen pn cn pc cc,.agg ⟨[.int .i64 c,.bool ro]⟩] w λ e w'=>∃x:Jl,e=.returned (.tuple #[.slice x.lp x.l.length x.lc,.slice x.pp x.ps.length x.pc,.bool true])/\(x.l.map qX.p=q.1/\x.l.length<=L.length+1)/\SF w [] [] [] x.fr [] w':=by
 have hb:=Z0 hp hr hl
 obtain⟨k,rfl,hk⟩:=p9 hrt
 refine enter Tryz.func70 Tryz.ntmps70 rfl rfl h.start ?_
 simp only[bX]
 simp only[Nr]
 refine J0 ?_;refine bI (λ x2=>?_);refine bI (λ x3=>?_);refine eJ (λ _=>?_);refine J8 ?_;refine nQ ?_;refine bL ?_;refine aS (cV (hc:=λ w1 hw=>Z9 (gen:=gen) (cn:=cn) (cc:=cc) hp (h.L9 hw) hr hl hc c ro hrt hi)) (λ x14=>?_);refine Ev ?_;refine J8 ?_;refine kB ?_;refine oH ?_
 refine bB (λ c18=>?_) (λ c18=>?_)
 ·exact nv c18
 ·refine jV ?_;refine dK [(0,[]),(1,[]),(2,[]),(3,[]),(4,[]),(5,[]),(6,[]),(7,[0]),(8,[]),(9,[]),(10,[]),(11,[]),(12,[]),(13,[]),(14,[]),(15,[])] ?_;refine bG ?_;refine aN ?_;refine fA ?_;refine kG ?_;refine oC ?_;refine ax ?_;refine O0 (h:=λ x27=>?_);refine aZ (i:=8) (hq:=(cM (hs:=[]) (os:=[ph L x27 (List.replicate (L.length+1) false)]) (hA:=aW.cons (.inr (.inl (.head _))) (aW.cons (.inr (.inl (.tail _ (.head _)))) (aW.cons (.inl rfl) (aW.of λ f hf=>.inr (.inl (.tail _ (.tail _ hf))))))) (hc:=λ w1 hs=>Q9 h.fit hb hl hc (Iq hp hr) B x27 (O2 hp hr hB hBl) 12 0 rfl k 0 0 [] none 0 [] _ _ w1 hk rfl (Nat.le_refl _) (Vs.zero _) hs))) (h:=λ x28 h28=>?_);refine aN ?_;refine jX ?_;refine jX ?_;refine jX ?_;refine iJ (h:=λ _=>?_);refine Rn ?_;refine kB ?_;refine oH ?_
  refine bB (λ c33=>?_) (λ c33=>?_)
  ·exfalso;rw[((fv h28).2 _ hn).1] at c33;simp at c33
  ·refine Bk ?_;refine eJ (λ _=>?_);refine J8 ?_
   refine bC Tryz.results70 (λ w hw=>?_)
   obtain⟨h1,h2,h3,h4,h5⟩:=(fv h28).2 _ hn
   rw[List.append_nil] at hw
   exact⟨x28,rfl,⟨h2,h5⟩,hw.aU (hF:=aY.all)⟩
end
open Classical in
theorem Kh{α:Type}:∀(l m:List α),l.Nodup->(∀a∈l,a∈m)->l.length<=m.length
 | [],_,_,_=>Nat.zero_le _
 | a::l,m,hn,hs=>by
  have hn:=List.nodup_cons.1 hn
  have ha:=hs a (List.mem_cons_self ..)
  have:=Kh l (m.erase a) hn.2 λ b hb=>by
   have hb2:=hs b (List.mem_cons_of_mem _ hb)
   exact(List.mem_erase_of_ne (λ e=>hn.1 (by rw[<- e];exact hb))).2 hb2
  rw[List.length_erase_of_mem ha] at this
  have:=List.length_pos_of_mem ha
  simp only[List.length_cons]
  omega
theorem Zq{m B C E:Nat}{W:Wd}(h:P9 m B C E W):∀v∈W.z.L,v.ys.length<=8:=by
 obtain⟨σ,hi⟩:=h.wr.inv
 have i0:=hi.inv
 have e1:σ.mm.nodes=W.z.L.map aP.c:=by rw[hi.mm];rfl
 have hl:σ.len=W.z.L.length:=by show σ.mm.nodes.length=_;rw[e1,List.length_map]
 intro v hv
 obtain⟨k,hk,rfl⟩:=List.mem_iff_getElem.1 hv
 have hn:=i0.nd ((k+1:Nat):Int) (by omega) (by omega)
 have e:σ.nd ((k+1:Nat):Int)=(W.z.L[k]).c:=by
  simp only[Kw.nd]
  rw[e1,cY,sC hk,jH,List.getElem?_eq_getElem hk]
  rfl
 have hy:(σ.nd ((k+1:Nat):Int)).ys=(W.z.L[k]).ys:=by rw[e];rfl
 rw[<- hy]
 have hval:=hn.valid
 by_cases h6:(σ.nd ((k+1:Nat):Int)).kind=6
 ·have hk6:=hn.k6 h6
  obtain⟨b,hb,hblt⟩:=hn.bd.hash
  have hasc:SA (σ.nd ((k+1:Nat):Int)).ys:=by
   have:=hval.2.2.2.2
   have h6':(σ.nd ((k+1:Nat):Int)).nd.kind=6:=h6
   rcases this with h|h|h|h|h|h|h
   ·omega
   ·omega
   ·omega
   ·omega
   ·exact oK.1 h.2.2.1
   ·omega
   ·omega
  have hnd:((σ.nd ((k+1:Nat):Int)).ys.map Prod.fst).Nodup:=by
   unfold List.Nodup
   rw[List.pairwise_map]
   exact hasc.imp λ{a b} hab e=>by rw[e,tB] at hab;cases hab
  have:=Kh _ lU hnd λ q hq=>by
   obtain⟨p,hp,rfl⟩:=List.mem_map.1 hq
   exact(aAG (hk6.2.2.1 p hp) (by omega)).1
  rw[List.length_map] at this
  exact this
 ·have:(σ.nd ((k+1:Nat):Int)).ys=[]:=hval.1.2.2.2.2.2.2.2.2.1.trans (if_neg (by have h7:¬(σ.nd ((k+1:Nat):Int)).nd.kind=6:=h6;simpa using h7))
  rw[this];decide
theorem P5{m B C E:Nat}{W:Wd}(h:P9 m B C E W){t:gK}(ht:t∈W.ts):∃r q,oO (W.z.L.map aP.c) W.z.cs t.root=some r/\Ji (W.z.L.map aP.c) W.z.cs 12 0 0 r [] []=some q/\q.1≠[]/\∀p∈q.1,(cD (W.z.L.map aP.c) p.i).kind=2/\iD (W.z.L.map aP.c) W.z.cs p.i=some p.m:=by
 obtain⟨σ,hi⟩:=h.wr.inv
 have i0:=hi.inv
 have e1:σ.mm.nodes=W.z.L.map aP.c:=by rw[hi.mm];rfl
 have e2:σ.mm.cs=W.z.cs:=by rw[hi.mm];rfl
 obtain⟨r,hr,hir⟩:=oi i0 (hi.ts t ht)
 obtain⟨q,h1,h2,h3⟩:=iq i0 12 r [] (σ.nd r).gen 0 0 [] [] ⟨hir,rfl⟩ (by decide) (λ j hj=>nomatch hj)
 rw[e1,e2] at hr h1
 refine⟨r,q,hr,h1,h3,λ p hp=>?_⟩
 obtain⟨⟨v,_,k2,_⟩,k4⟩:=h2 p hp
 rw[e1,e2] at k4
 have e3:σ.nd p.i=cD (W.z.L.map aP.c) p.i:=by rw[<- e1]
 rw[e3] at k2
 exact⟨k2,k4⟩
end

end Go.Proofs.YtbajmaoegmbfgaaGreat

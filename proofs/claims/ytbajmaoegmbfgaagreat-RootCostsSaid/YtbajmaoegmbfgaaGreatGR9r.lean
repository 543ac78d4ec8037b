/- The reference of views: the root of a trie, the main node of an I-node, in a proper state. -/
import Derived.Test.YtbajmaoegmbfgaaGreatGVw2
import Derived.Test.YtbajmaoegmbfgaaGreatGTape3
import Derived.Test.YtbajmaoegmbfgaaGreatGLe1
import Derived.Test.YtbajmaoegmbfgaaGreatGWr1
import Derived.Test.YtbajmaoegmbfgaaGreatR93
import Derived.Test.YtbajmaoegmbfgaaGreatGArN
import Derived.Test.YtbajmaoegmbfgaaGreatGTt3
import Derived.Test.YtbajmaoegmbfgaaGreatGPc2

set_option linter.unusedSimpArgs false
set_option linter.unusedVariables false
namespace Go.Proofs.YtbajmaoegmbfgaaGreat
section
open Go Go.RowKit Go.Ct
section
variable{L:List aP}{cs:List Int}{gen:Int}{pn pc:Option Addr}{cn cc:Nat}{w:World}
theorem Mx(hp:fP L cs gen)(hr:Fj L)(hl:L.length<=274877906944):StB L cs:=by
 have hd:∀x:Int,Ei x L.length->x<=9223372036854775807:=λ x h=>by have:=h.2;omega
 refine⟨λ c=>?_,λ r=>?_,λ r=>?_,λ r=>?_,λ r=>?_,λ r=>?_,λ r=>?_⟩
 ·unfold bE
  split
  ·exact hd _ (hp.cells _ (by omega))
  ·decide
 ·unfold aB
  split
  ·exact hd _ (hp.nodes (r-1).toNat (by omega)).2.2.2.1
  ·decide
 ·unfold aB
  split
  ·exact hd _ (hp.nodes (r-1).toNat (by omega)).2.2.2.2.2
  ·decide
 ·unfold aB
  split
  ·exact(hr _ (fY (by omega))).main
  ·decide
 ·unfold aB
  split
  ·exact(hr _ (fY (by omega))).prev
  ·decide
 ·unfold aB
  split
  ·exact(hr _ (fY (by omega))).status
  ·decide
 ·unfold aB
  split
  ·intro b hb
   obtain⟨i,hi,rfl⟩:=List.mem_iff_getElem.1 hb
   have:=(hp.nodes (r-1).toNat (by omega)).2.2.1 i hi
   rw[jN,List.getElem?_eq_getElem hi] at this
   exact hd _ this
  ·intro b hb
   cases hb
theorem Q7(hp:fP L cs gen)(h:qV w L cs pn pc)(hr:Fj L)(hl:L.length<=274877906944)(hc:cs.length<=274877906944)(c:Int)(ro:Bool){r:Int}(ho:iR (L.map aP.c) cs c=some r)(hi:c<=9223372036854775807):Calls Tryz.prog 44 #[E0 L cs gen pn cn pc cc,.agg ⟨[.int .i64 c,.bool ro]⟩] w λ e w'=>e=.returned (.tuple #[.int .i64 r,.bool true])/\St w [] [] w':=by
 refine enter Tryz.func44 Tryz.ntmps44 rfl rfl h.start ?_
 simp only[cA]
 simp only[E0]
 refine J0 ?_;refine bK (λ x2=>?_);refine bK (λ x3=>?_);refine J8 ?_;refine aS ?_;refine nF ?_;refine aD (c0 (V:=.bool) (hc:=λ w1 hw=>Dm (h.Br hw) hr hl hc)) (λ x7 h7=>?_);refine pE ?_
 refine bD (λ c8=>?_) (λ c8=>?_)
 ·rw[h7.2 hp] at c8;cases c8
 ·refine aW ?_;refine nF ?_;refine bM ?_;refine aN (cV (hc:=λ w1 hw=>q8 (h.Br hw) (Mx hp hr hl) hl hc c ro hi)) (λ x11=>?_);refine J54 ?_;refine J8 ?_
  refine aY Tryz.results44 (λ w hw=>?_)
  exact⟨by rw[ho];rfl,hw.done⟩
theorem Z8(hp:fP L cs gen)(h:qV w L cs pn pc)(hr:Fj L)(hl:L.length<=274877906944)(hc:cs.length<=274877906944)(i:Int){r:Int}(ho:fQ (L.map aP.c) cs i=some r)(hi:i<=9223372036854775807):Calls Tryz.prog 31 #[E0 L cs gen pn cn pc cc,.int .i64 i] w λ e w'=>e=.returned (.tuple #[.int .i64 r,.bool true])/\St w [] [] w':=by
 refine enter Tryz.func31 Tryz.ntmps31 rfl rfl h.start ?_
 simp only[cA]
 simp only[E0]
 refine J0 ?_;refine bK (λ x2=>?_);refine J8 ?_;refine aS ?_;refine nF ?_;refine aD (c0 (V:=.bool) (hc:=λ w1 hw=>Dm (h.Br hw) hr hl hc)) (λ x7 h7=>?_);refine pE ?_
 refine bD (λ c8=>?_) (λ c8=>?_)
 ·rw[h7.2 hp] at c8;cases c8
 ·refine aW ?_;refine Dg ?_;refine aN (cV (hc:=λ w1 hw=>M6 (h.Br hw) (Mx hp hr hl) hl hc i hi)) (λ x11=>?_);refine J54 ?_;refine J8 ?_
  refine aY Tryz.results31 (λ w hw=>?_)
  exact⟨by rw[ho];rfl,hw.done⟩
end
end

/- Places of a trie of a world: there are some, each is an I-node with its main node. -/
section
open Go Go.RowKit Go.Ct
section
variable{H:ByteArray->Nat}{σ:Kw}{w:List Nat}{m g i:Int}
theorem Mk{N:List Nv}{f:Int->List Int->List Int->Option (List Pl×List Pr)}{way idx:List Int}:∀(xs ys:List Int) (j:Nat) (s:List Int),zB N f way idx (xs++ys) j s=(zB N f way idx xs j s).bind λ p=>(zB N f way idx ys (j+xs.length) (s++p.1.map Pl.i)).map λ q=>(p.1++q.1,p.2++q.2)
 | [],ys,j,s=>by
  simp only[List.nil_append,zB,Option.bind_some,List.length_nil,Nat.add_zero,List.map_nil,List.append_nil]
  cases zB N f way idx ys j s<;>rfl
 | b::r,ys,j,s=>by
  have e:j+(b::r).length=j+1+r.length:=by simp only[List.length_cons];omega
  rw[e]
  simp only[List.cons_append,zB]
  split
  ·rw[Mk r ys (j+1) s]
   cases zB N f way idx r (j+1) s with
   | none=>rfl
   | some p=>simp only[Option.bind_some,Option.map_some];cases zB N f way idx ys (j+1+r.length) (s++p.1.map Pl.i)<;>rfl
  ·split
   ·cases f b (way++[idx.getD j 0]) s with
    | none=>rfl
    | some p =>
     simp only[Option.bind_some]
     rw[Mk r ys (j+1) (s++p.1.map Pl.i)]
     cases zB N f way idx r (j+1) (s++p.1.map Pl.i) with
     | none=>rfl
     | some q =>
      simp only[Option.bind_some,Option.map_some,List.map_append,<- List.append_assoc]
      cases zB N f way idx ys (j+1+r.length) (s++p.1.map Pl.i++q.1.map Pl.i)<;>simp
   ·rfl
def PlG(σ:Kw)(w:List Nat)(p:Pl):Prop:=Bel σ w p.i/\fQ σ.mm.nodes σ.mm.cs p.i=some p.m
theorem dt(i0:Inv H σ):∀(n:Nat) (i:Int) (w:List Nat) (g a:Int) (lv:Nat) (way s:List Int),rS σ i w g->12<=w.length+n->(∀j∈s,¬∃v,σ.way j=w++v)->∃q,Ef σ.mm.nodes σ.mm.cs n a lv i way s=some q/\(∀p∈q.1,PlG σ w p)/\q.1≠[]
 | 0,i,w,g,_,_,_,_,hi,hn,_=>by have:=(hi.Xy i0).2.2;omega
 | n+1,i,w,g,a,lv,way,s,hi,hn,hl=>by
  obtain⟨p,hp,hm⟩:=Xe i0 hi
  have hbi:Bel σ w i:=⟨[],by rw[hi.1.2,List.append_nil],hi.1.1,by rw[hp];rfl⟩
  have hns:¬i∈s:=λ h=>hl i h ⟨[],by rw[hi.1.2,List.append_nil]⟩
  by_cases h3:(σ.nd p).kind=3
  ·have hc:=hm.Gp i0 h3
   have key:∀k,k<=64->∃q,zB σ.mm.nodes (λ b w s=>Ef σ.mm.nodes σ.mm.cs n i (lv+1) b w s) way (sS (σ.nd p).bm.toNat 64) (qC (rH (σ.nd p).bm.toNat (σ.nd p).xs) k) 0 (s++[i])=some q/\∀r∈q.1,∃k',k'<k/\PlG σ (w++[k']) r:=by
    intro k
    induction k with
    | zero=>intro _;exact⟨([],[]),rfl,λ j hj=>nomatch hj⟩
    | succ k ih =>
     intro hk
     obtain⟨q,h1,h2⟩:=ih (by omega)
     have up:∀r∈q.1,∃k',k'<k+1/\PlG σ (w++[k']) r:=λ r hr=>by obtain⟨k',h5,h6⟩:=h2 r hr;exact⟨k',by omega,h6⟩
     simp only[qC]
     rw[Mk,h1,Option.bind_some]
     cases hmo:rH (σ.nd p).bm.toNat (σ.nd p).xs k with
     | none=>exact⟨q,by simp[zB],up⟩
     | some b =>
      rcases hc.br k (by omega) b hmo with hb|hb
      ·refine⟨(q.1,q.2++[((bQ σ.mm.nodes b).key,(bQ σ.mm.nodes b).val)]),?_,up⟩
       simp only[Option.toList,zB]
       rw[if_pos hb.1]
       simp
      ·have hbg:rS σ b (w++[k]) (σ.nd b).gen:=⟨⟨hb.1,hb.2.1⟩,rfl⟩
       obtain⟨q2,h5,h6,_⟩:=dt i0 n b (w++[k]) _ i (lv+1) (way++[(sS (σ.nd p).bm.toNat 64).getD (0+(qC (rH (σ.nd p).bm.toNat (σ.nd p).xs) k).length) 0]) (s++[i]++q.1.map Pl.i) hbg (by rw[List.length_append,List.length_singleton];omega) (λ j hj=>by
        rintro ⟨v,hv⟩
        rcases List.mem_append.1 hj with hj|hj
        ·rcases List.mem_append.1 hj with hj|hj
         ·exact hl j hj ⟨k::v,by rw[hv,List.append_assoc];rfl⟩
         ·rw[List.mem_singleton.1 hj,hi.1.2] at hv
          have:=congrArg List.length hv
          simp at this
        ·obtain⟨r,hr,rfl⟩:=List.mem_map.1 hj
         obtain⟨k',h5,⟨v',h6,_⟩,_⟩:=h2 r hr
         rw[h6] at hv
         have:=uv hv
         omega)
       refine⟨(q.1++q2.1,q.2++q2.2),?_,λ r hr=>?_⟩
       ·simp only[Option.toList,zB]
        rw[if_neg (by rw[hb.1];decide),if_pos hb.1,h5]
        simp
       ·rcases List.mem_append.1 hr with hr|hr
        ·exact up r hr
        ·exact⟨k,by omega,h6 r hr⟩
   obtain⟨q,h1,h2⟩:=key 64 (Nat.le_refl _)
   rw[hc.lof] at h1
   refine⟨(⟨i,p,a,lv,way⟩::q.1,q.2),by rw[v5 hns hp (by rw[h3];decide),h1];rfl,λ r hr=>?_,by simp⟩
   rcases List.mem_cons.1 hr with rfl|hr
   ·exact⟨hbi,hp⟩
   ·obtain⟨k',_,h6,h7⟩:=h2 r hr
    exact⟨h6.up,h7⟩
  ·have hk:(bQ σ.mm.nodes p).kind=5∨(bQ σ.mm.nodes p).kind=6:=by
    have:cG (σ.nd p):=hm.1
    unfold cG at this
    have h3':¬(bQ σ.mm.nodes p).kind=3:=h3
    have t2:(bQ σ.mm.nodes p).kind=3∨(bQ σ.mm.nodes p).kind=5∨(bQ σ.mm.nodes p).kind=6:=this
    omega
   exact⟨_,Lc hns hp hk,λ r hr=>by rw[List.mem_singleton.1 hr];exact⟨hbi,hp⟩,by simp⟩
end
end

/- The reference of views: the places of a trie in a proper state; a place of a world. -/
section
open Go Go.RowKit Go.Ct
section
variable{L:List aP}{cs:List Int}{gen:Int}{pn pc:Option Addr}{cn cc:Nat}{w:World}
theorem Tq(L:List aP)(r:Int):aB L r=aP.zero∨∃k,k<L.length/\aB L r=L.getD k aP.zero:=by
 unfold aB
 split
 ·exact .inr ⟨(r-1).toNat,by omega,rfl⟩
 ·exact .inl rfl
theorem F5(hp:fP L cs gen)(hr:Fj L)(r:Int):∃b:Nat,b<18446744073709551616/\(aB L r).nd.bm=(b:Int)/\((aB L r).nd.kind=3->(aB L r).xs.length=gU b 64):=by
 rcases Tq L r with e|⟨k,hk,e⟩
 ·rw[e];exact⟨0,by decide,rfl,λ h=>absurd h (by decide)⟩
 ·rw[e]
  obtain⟨b,hb,hlt⟩:=(hr _ (fY hk)).bm
  refine⟨b,hlt,hb,λ h3=>?_⟩
  have:=(tB h3 (hp.nodes k hk).1).1
  rw[hb,sR hlt] at this
  omega
theorem S3(hp:fP L cs gen){r:Int}(h:(aB L r).nd.kind≠3):(aB L r).xs=[]:=by
 rcases Tq L r with e|⟨k,hk,e⟩
 ·rw[e];rfl
 ·rw[e] at h ⊢
  exact(hp.nodes k hk).1.1.2.2.2.2.1.trans (if_neg (by simpa using h))
theorem Ss(hp:fP L cs gen)(hr:Fj L)(r:Int):(aB L r).xs.length<=64:=by
 by_cases h:(aB L r).nd.kind=3
 ·obtain⟨b,_,_,h3⟩:=F5 hp hr r
  rw[h3 h]
  exact Af _ _
 ·rw[S3 hp h];decide
theorem P9(hp:fP L cs gen)(hr:Fj L){B:Nat}(hB:∀v∈L,v.ys.length<=B)(hb:(L.length+1)*(B+64)<=549755813888):Few L B:=by
 refine⟨λ r=>⟨?_,Ss hp hr r⟩,hb⟩
 rcases Tq L r with e|⟨k,hk,e⟩
 ·rw[e];exact Nat.zero_le _
 ·rw[e];exact hB _ (fY hk)
theorem aa{B:Nat}{wp:Option Addr}{wc:Nat}{o:Option (List Pl×List Pr)}{x:I5}(h:Nq L B wp wc [] o x):(o=none->x.ok=false)/\∀q,o=some q->x.ok=true/\x.l.map vN.p=q.1/\x.ps=q.2/\(x.own=false->(x.pp,cZ x.ps)∈aL L)/\x.l.length<=L.length+1:=by
 refine⟨λ e=>?_,λ q e=>?_⟩
 ·subst e;exact h.2
 ·subst e
  obtain⟨h1,h2,h3,h4,h5,h6,h7⟩:=h.2
  refine⟨h1,h2,h3,h5,?_⟩
  have:=h6.len
  rw[List.nil_append,List.length_map,<- h2,List.length_map] at this
  exact this
theorem Ui(hp:fP L cs gen)(h:qV w L cs pn pc)(hr:Fj L)(hl:L.length<=274877906944)(hc:cs.length<=274877906944){B:Nat}(hB:∀v∈L,v.ys.length<=B)(hBl:(L.length+1)*(B+64)<=549755813888)(c:Int)(ro:Bool)(hi:c<=9223372036854775807){r:Int}(hrt:iR (L.map aP.c) cs c=some r){q:List Pl×List Pr}(hn:Ef (L.map aP.c) cs 12 0 0 r [] []=some q):Calls Tryz.prog 70 #[E0 L cs gen pn cn pc cc,.agg ⟨[.int .i64 c,.bool ro]⟩] w λ e w'=>∃x:I5,e=.returned (.tuple #[.slice x.lp x.l.length x.lc,.slice x.pp x.ps.length x.pc,.bool true])/\(x.l.map vN.p=q.1/\x.l.length<=L.length+1)/\SF w [] [] [] x.fr [] w':=by
 have hb:=Mx hp hr hl
 obtain⟨k,rfl,hk⟩:=r0 hrt
 refine enter Tryz.func70 Tryz.ntmps70 rfl rfl h.start ?_
 simp only[cA]
 simp only[E0]
 refine J0 ?_;refine bK (λ x2=>?_);refine bK (λ x3=>?_);refine fO (λ _=>?_);refine J8 ?_;refine nF ?_;refine bM ?_;refine aN (cV (hc:=λ w1 hw=>Q7 (gen:=gen) (cn:=cn) (cc:=cc) hp (h.Br hw) hr hl hc c ro hrt hi)) (λ x14=>?_);refine Kb5 ?_;refine pE ?_
 refine bD (λ c18=>?_) (λ c18=>?_)
 ·exact nv c18
 ·refine kO ?_;refine eG [(0,[]),(1,[]),(2,[]),(3,[]),(4,[]),(5,[]),(6,[]),(7,[0]),(8,[]),(9,[]),(10,[]),(11,[]),(12,[]),(13,[]),(14,[]),(15,[])] ?_;refine bO ?_;refine aT ?_;refine fJ ?_;refine nA ?_;refine oE ?_;refine lr ?_;refine Ot (h:=λ x27=>?_);refine bC (i:=8) (hq:=(cM (hs:=[]) (os:=[qy L x27 (List.replicate (L.length+1) false)]) (hA:=bB.cons (.inr (.inl (.head _))) (bB.cons (.inr (.inl (.tail _ (.head _)))) (bB.cons (.inl rfl) (bB.of λ f hf=>.inr (.inl (.tail _ (.tail _ hf))))))) (hc:=λ w1 hs=>Oa h.fit hb hl hc (F5 hp hr) B x27 (P9 hp hr hB hBl) 12 0 rfl k 0 0 [] none 0 [] _ _ w1 hk rfl (Nat.le_refl _) (Vs.zero _) hs))) (h:=λ x28 h28=>?_);refine aT ?_;refine eL ?_;refine eL ?_;refine eL ?_;refine lZ (h:=λ _=>?_);refine Tk ?_;refine kR ?_;refine pE ?_
  refine bD (λ c33=>?_) (λ c33=>?_)
  ·exfalso;rw[((aa h28).2 _ hn).1] at c33;simp at c33
  ·refine El ?_;refine fO (λ _=>?_);refine J8 ?_
   refine aY Tryz.results70 (λ w hw=>?_)
   obtain⟨h1,h2,h3,h4,h5⟩:=(aa h28).2 _ hn
   rw[List.append_nil] at hw
   exact⟨x28,rfl,⟨h2,h5⟩,hw.aX (hF:=aV.all)⟩
end
open Classical in
theorem K5{α:Type}:∀(l m:List α),l.Nodup->(∀a∈l,a∈m)->l.length<=m.length
 | [],_,_,_=>Nat.zero_le _
 | a::l,m,hn,hs=>by
  have hn:=List.nodup_cons.1 hn
  have ha:=hs a (List.mem_cons_self ..)
  have:=K5 l (m.erase a) hn.2 λ b hb=>by
   have hb2:=hs b (List.mem_cons_of_mem _ hb)
   exact(List.mem_erase_of_ne (λ e=>hn.1 (by rw[<- e];exact hb))).2 hb2
  rw[List.length_erase_of_mem ha] at this
  have:=List.length_pos_of_mem ha
  simp only[List.length_cons]
  omega
theorem Zo{m B C E:Nat}{W:Wd}(h:Ns m B C E W):∀v∈W.z.L,v.ys.length<=8:=by
 obtain⟨σ,hi⟩:=h.wr.inv
 have i0:=hi.inv
 have e1:σ.mm.nodes=W.z.L.map aP.c:=by rw[hi.mm];rfl
 have hl:σ.len=W.z.L.length:=by show σ.mm.nodes.length=_;rw[e1,List.length_map]
 intro v hv
 obtain⟨k,hk,rfl⟩:=List.mem_iff_getElem.1 hv
 have hn:=i0.nd ((k+1:Nat):Int) (by omega) (by omega)
 have e:σ.nd ((k+1:Nat):Int)=(W.z.L[k]).c:=by
  simp only[Kw.nd]
  rw[e1,dB,rW hk,jN,List.getElem?_eq_getElem hk]
  rfl
 have hy:(σ.nd ((k+1:Nat):Int)).ys=(W.z.L[k]).ys:=by rw[e];rfl
 rw[<- hy]
 have hval:=hn.valid
 by_cases h6:(σ.nd ((k+1:Nat):Int)).kind=6
 ·have hk6:=hn.k6 h6
  obtain⟨b,hb,hblt⟩:=hn.bd.hash
  have hasc:SA (σ.nd ((k+1:Nat):Int)).ys:=by
   have:=hval.2.2.2.2
   have h6':(σ.nd ((k+1:Nat):Int)).nd.kind=6:=h6
   rcases this with h|h|h|h|h|h|h
   ·omega
   ·omega
   ·omega
   ·omega
   ·exact oV.1 h.2.2.1
   ·omega
   ·omega
  have hnd:((σ.nd ((k+1:Nat):Int)).ys.map Prod.fst).Nodup:=by
   unfold List.Nodup
   rw[List.pairwise_map]
   exact hasc.imp λ{a b} hab e=>by rw[e,sY] at hab;cases hab
  have:=K5 _ lV hnd λ q hq=>by
   obtain⟨p,hp,rfl⟩:=List.mem_map.1 hq
   exact(aB3 (hk6.2.2.1 p hp) (by omega)).1
  rw[List.length_map] at this
  exact this
 ·have:(σ.nd ((k+1:Nat):Int)).ys=[]:=hval.1.2.2.2.2.2.2.2.2.1.trans (if_neg (by have h7:¬(σ.nd ((k+1:Nat):Int)).nd.kind=6:=h6;simpa using h7))
  rw[this];decide
theorem Oe{m B C E:Nat}{W:Wd}(h:Ns m B C E W){t:eQ}(ht:t∈W.ts):∃r q,iR (W.z.L.map aP.c) W.z.cs t.root=some r/\Ef (W.z.L.map aP.c) W.z.cs 12 0 0 r [] []=some q/\q.1≠[]/\∀p∈q.1,(bQ (W.z.L.map aP.c) p.i).kind=2/\fQ (W.z.L.map aP.c) W.z.cs p.i=some p.m:=by
 obtain⟨σ,hi⟩:=h.wr.inv
 have i0:=hi.inv
 have e1:σ.mm.nodes=W.z.L.map aP.c:=by rw[hi.mm];rfl
 have e2:σ.mm.cs=W.z.cs:=by rw[hi.mm];rfl
 obtain⟨r,hr,hir⟩:=Wx i0 (hi.ts t ht)
 obtain⟨q,h1,h2,h3⟩:=dt i0 12 r [] (σ.nd r).gen 0 0 [] [] ⟨hir,rfl⟩ (by decide) (λ j hj=>nomatch hj)
 rw[e1,e2] at hr h1
 refine⟨r,q,hr,h1,h3,λ p hp=>?_⟩
 obtain⟨⟨v,_,k2,_⟩,k4⟩:=h2 p hp
 rw[e1,e2] at k4
 have e3:σ.nd p.i=bQ (W.z.L.map aP.c) p.i:=by rw[<- e1]
 rw[e3] at k2
 exact⟨k2,k4⟩
end

/- Lists of things of some cells each. -/
end Go.Proofs.YtbajmaoegmbfgaaGreat
namespace Go.Ct
section
open Go Go.RowKit
section
variable{w0 w w':World}{M:List Nat}{H:List (Nat×Obj)}{A F:Fr}{O:List Ow}
variable{P:Program}{S:List (Nat×Value)}{G:World->Prop}{d:Nat}{ty:TypeId}{pos:String}{af:Array Edge}{gd:Option (Nat×Bool)}{x y:Operand}{t t2 e:TypeId}{p a:Option Addr}{i m k c c2 sz:Nat}
variable{α:Type}{g:α->List Value}{z:α}
theorem Dr(hg:∀x,(g x).length=sz):∀l:List α,(l.flatMap g).length=sz*l.length
 | []=>by simp
 | x::r=>by
  have:=Dr hg r
  simp only[List.flatMap_cons,List.length_append,List.length_cons,this,hg,Nat.mul_add,Nat.mul_one]
  omega
theorem W0(hg:∀x,(g x).length=sz):∀{l:List α} {k j:Nat},k<l.length->j<sz->(l.flatMap g)[sz*k+j]?=(g (l.getD k z))[j]?
 | [],_,_,h,_=>by simp at h
 | n::r,0,j,_,hj=>by
  simp only[List.flatMap_cons,Nat.mul_zero,Nat.zero_add,List.getD_cons_zero]
  rw[List.getElem?_append_left (by rw[hg];exact hj)]
 | n::r,k+1,j,h,hj=>by
  have:=W0 hg (l:=r) (k:=k) (j:=j) (by simpa using h) hj
  simp only[List.flatMap_cons,List.getD_cons_succ]
  rw[List.getElem?_append_right (by rw[hg,Nat.mul_add];omega),<- this,hg]
  congr 1
  rw[Nat.mul_add]
  omega
theorem mj{lst:List α}{kk:IntKind}(hg:∀x,(g x).length=sz)(h0:0<sz)(hx:ev S x=.slice a m c)(hy:ev S y=.int kk ((k:Nat):Int))(ht:P.underlying t=some (.slice e))(hs:kH P e sz=true)(hf:qT A F O a (lst.flatMap g))(h1:k<m)(h2:k<lst.length) :
  aM P S (SF w0 M H A F O) ⟨some d,.indexAddr t x y,ty,pos,af,gd⟩ (.pointer (some ⟨cU a,eJ a+sz*k,none⟩)):=⟨λ w hw=>by
 obtain⟨_,_,_,hsz⟩:=iU hs
 have ha:=(hw.cl hf).ptr (by rw[Dr hg];exact Nat.mul_pos h0 (by omega))
 have:=yE (P:=P) (a:=a) (m:=m) (c:=c) (k:=kk) ht hsz ha (i:=(k:Int)) (by omega) (by omega) w
 simp only[Int.toNat_natCast,Nat.mul_comm k sz] at this
 simp[execOp,hx,hy,this]⟩
theorem na{lst:List α}{q j:Nat}{v:Value}(z:α)(hg:∀x,(g x).length=sz)(hx:ev S x=.pointer (some ⟨cU a,eJ a+sz*q+j,none⟩))(ht:one P t=true)(hj:j<sz)(hv:(g (lst.getD q z))[j]?=some v)(hf:qT A F O a (lst.flatMap g))(hq:q<lst.length) :
  aM P S (SF w0 M H A F O) ⟨some d,.load t x,ty,pos,af,gd⟩ v:=oA (q:=sz*q+j) (by rw[hx];simp only[Nat.add_assoc]) ht (λ w hw=>hw.cl hf) (by rw[W0 (z:=z) hg hq hj];exact hv)
end
end

/- The reference: whether a trie has anything that is pending. -/
end Go.Ct
namespace Go.Proofs.YtbajmaoegmbfgaaGreat
section
open Go Go.RowKit Go.Ct
def QuP(N:List Nv)(cs:List Int)(i:Int):Prop:=bE cs (bQ N (bE cs (bQ N i).main)).prev=0
abbrev X4:vN:=⟨⟨0,0,0,0,[]⟩,none,0⟩
theorem aBE{L:List aP}{cs:List Int}{i:Int}(h:bE cs (aB L (bE cs (aB L i).nd.main)).nd.prev=0):QuP (L.map aP.c) cs i:=by
 unfold QuP
 rw[<- uH,<- uH]
 exact h
theorem aAF{l:List vN}{q:List Pl}{P:Int->Prop}(e:l.map vN.p=q)(h:∀j,j<l.length->P (l.getD j X4).p.i):∀p∈q,P p.i:=λ p hp=>by
 rw[<- e] at hp
 obtain⟨v,hv,rfl⟩:=List.mem_map.1 hp
 obtain⟨j,hj,rfl⟩:=List.mem_iff_getElem.1 hv
 have:=h j hj
 rw[jN,List.getElem?_eq_getElem hj] at this
 exact this
theorem ui{x:Int}(h:(x==2)=true):x=2:=by simpa using h
section
variable{w:World}{L:List aP}{cs:List Int}{gen:Int}{pn pc:Option Addr}{cn cc:Nat}
theorem mz(hp:fP L cs gen)(h:qV w L cs pn pc)(hr:Fj L)(hl:L.length<=274877906944)(hc:cs.length<=274877906944){B:Nat}(hB:∀v∈L,v.ys.length<=B)(hBl:(L.length+1)*(B+64)<=549755813888)(c:Int)(ro:Bool)(hi:c<=9223372036854775807){r:Int}(hrt:iR (L.map aP.c) cs c=some r){q:List Pl×List Pr}(hn:Ef (L.map aP.c) cs 12 0 0 r [] []=some q)(hq:∀p∈q.1,p.i<=L.length) :
  Calls Tryz.prog 40 #[E0 L cs gen pn cn pc cc,.agg ⟨[.int .i64 c,.bool ro]⟩] w λ e w'=>∃b:Bool,e=.returned (.bool b)/\(b=true->(∀p∈q.1,QuP (L.map aP.c) cs p.i)/\(bQ (L.map aP.c) (bE cs c)).kind=2)/\St w [] [] w':=by
 have hb:=Mx hp hr hl
 refine enter Tryz.func40 Tryz.ntmps40 rfl rfl h.start ?_
 simp only[cA]
 simp only[E0]
 refine J0 ?_;refine bK (λ x2=>?_);refine bK (λ x3=>?_);refine J1 ?_;refine nF ?_;refine bM ?_;refine aD (Sv (V:=λ x:I5=>.tuple #[.slice x.lp x.l.length x.lc,.slice x.pp x.ps.length x.pc,.bool true]) (Hc:=λ _=>[]) (Fc:=λ x=>x.fr) (F1:=λ x=>x.fr) (Oc:=λ _=>[]) (hF1:=λ x=>List.append_nil _) (hc:=λ w1 hw=>Ui hp (h.Br hw) hr hl hc hB hBl c ro hi hrt hn)) (λ x13 h13=>?_)
 obtain⟨hx1,hx2⟩:=h13
 have hin:∀k,k<x13.l.length->(x13.l.getD k X4).p∈q.1:=λ k hk=>by rw[<- hx1,List.mem_map];exact⟨x13.l.getD k X4,by rw[jN,List.getElem?_eq_getElem hk];exact List.getElem_mem _,rfl⟩
 refine Ny ?_;refine Cv ?_;refine fO (λ _=>?_);refine J8 ?_;refine aS ?_;refine Ea ?_
 refine oK [7,8,9,17,18,19,20,21,22,23,24,25,26,27,28,29,30,31,32,33,34,35,36,37,38,39,40,41,42] (λ y:Nat×Bool=>[(8,.int .i64 ((y.1:Nat):Int)),(7,.bool y.2)]) (λ y=>y.1<=x13.l.length/\(y.2=true->∀j,j<y.1->QuP (L.map aP.c) cs (x13.l.getD j X4).p.i)) (λ _=>_) (λ _=>x13.fr) (λ _=>_) (λ y=>x13.l.length-y.1) ((0,true)) (⟨Nat.zero_le _,λ _ j hj=>absurd hj (Nat.not_lt_zero j)⟩) (λ y f hx=>?_) (hw0:=λ w hw=>hw.back (hH:=by exact List.Sublist.refl _) (hF:=by exact aV.all) (hO:=by exact List.Sublist.refl _))
 dsimp only[hX,List.map,List.cons_append,List.nil_append]
 obtain⟨hy1,hy2⟩:=hx
 refine Db ?_;refine eA ?_;refine Bu ?_
 (refine dZ 21 (λ g21=>?_) (λ g21=>?_)<;>refine Ka0 ?_)
 all_goals (refine bX ?_;refine aG ?_)
 all_goals
 refine bD (λ c23=>?_) (λ c23=>?_)
 ·try exact nv c23
  all_goals (refine rR ?_;refine aS ?_;refine eG [(0,[]),(1,[]),(2,[]),(3,[]),(4,[]),(5,[]),(6,[]),(7,[0]),(8,[]),(9,[]),(10,[])] ?_;refine bO ?_;refine Ka9 ?_;refine bT (i:=4) (hq:=(mj (lst:=x13.l) (g:=vN.cells) (sz:=5) (k:=y.1) (λ _=>rfl) (by decide) rf rf gH eF (.new (Bt.tH (List.mem_cons_self ..))) (by omega) (by omega))) (h:=?_);refine aU ?_;refine bT (i:=6) (hq:=(na (lst:=x13.l) (g:=vN.cells) (sz:=5) (q:=y.1) (j:=0) X4 (λ _=>rfl) rf (by exact Hl rfl) (by decide) rfl (.new (Bt.tH (List.mem_cons_self ..))) (by omega))) (h:=?_);refine cO (i:=7) (hq:=(cV (hc:=λ w1 hw=>nE (gen:=gen) (cn:=cn) (cc:=cc) (h.Br hw) _ (by have:=hq _ (hin y.1 (by omega));omega) hl))) (h:=λ x33=>?_);refine mZ ?_;refine cO (i:=9) (hq:=(cV (hc:=λ w1 hw=>uC (gen:=gen) (cn:=cn) (cc:=cc) (h.Br hw) _ (hb.main _) hc))) (h:=λ x35=>?_);refine J7 ?_;refine eG [(0,[]),(1,[]),(2,[]),(3,[0]),(4,[]),(5,[]),(6,[]),(7,[])] ?_;refine bO ?_;refine bO ?_;refine aT ?_;refine cO (i:=3) (hq:=(cV (hc:=λ w1 hw=>nE (gen:=gen) (cn:=cn) (cc:=cc) (h.Br hw) _ (hb.cs _) hl))) (h:=λ x39=>?_);refine mZ ?_;refine cO (i:=5) (hq:=(cV (hc:=λ w1 hw=>uC (gen:=gen) (cn:=cn) (cc:=cc) (h.Br hw) _ (hb.prev _) hc))) (h:=λ x41=>?_);refine nJ ?_;refine J7 ?_;refine Kb2 ?_)
  all_goals
   refine jG ((y.1+1,decide (bE cs (aB L (bE cs (aB L (x13.l.getD y.1 X4).p.i).nd.main)).nd.prev=0))) ?_ (hw1:=λ w hw=>hw.back (hH:=by exact List.Sublist.refl _) (hF:=by exact aV.all) (hO:=by exact List.Sublist.refl _))
   ·refine⟨by show y.1+1<=_;omega,λ hd j hj=>?_⟩
    replace hj:j<y.1+1:=hj
    rcases Nat.lt_or_ge j y.1 with h1|h1
    ·exact hy2 c23 j h1
    ·rw[show j=y.1 by omega]
     exact aBE (of_decide_eq_true hd)
 ·all_goals (refine bR rfl ?_;refine aS ?_;refine eG [(0,[]),(1,[]),(2,[]),(3,[]),(4,[]),(5,[]),(6,[2]),(7,[]),(8,[]),(9,[]),(10,[]),(11,[])] ?_;refine iF ?_)
  all_goals ((refine ra 44 (λ g44=>?_) (λ g44=>?_)<;>(first|refine gA ?_|(refine bO ?_))))
  all_goals ((first|refine gA ?_|(refine bO ?_));refine J18 ?_;(first|refine gA ?_|(refine cO (i:=6) (hq:=(cV (hc:=λ w1 hw=>uC (gen:=gen) (cn:=cn) (cc:=cc) (h.Br hw) _ hi hc))) (h:=λ x49=>?_)));(first|refine gA ?_|(refine cO (i:=7) (hq:=(cV (hc:=λ w1 hw=>nE (gen:=gen) (cn:=cn) (cc:=cc) (h.Br hw) _ (hb.cs _) hl))) (h:=λ x50=>?_)));(first|refine gA ?_|(refine mZ ?_));refine J56 ?_;refine J7 ?_)
  all_goals
   refine aQ Tryz.results40 (λ w hw=>?_)
   first
   | exact absurd (c23.symm.trans g44) (by decide)
   | exact⟨false,rfl,(λ h=>nomatch h),hw.done⟩
   | exact⟨_,rfl,λ hb=>⟨aAF hx1 λ j hj=>hy2 g44 j (by omega),by rw[<- uH];exact ui hb⟩,hw.done⟩
end
end

/- gcas: how many accesses a read and a swap make. -/
section
open Go Go.RowKit Go.Ct
section
variable{H:ByteArray->Nat}{Q:Rs->Kw->Prop}{σ:Kw}
end
section
variable{H:ByteArray->Nat}{σ:Kw}{t:eQ}{i:Int}
end
section
variable{s:Mm}{t:eQ}{i m n c pc:Int}{K:Int->Tr}
theorem R6{k:Int->Tr}:vM (.load c k,s)=Ct.eD (k (bE s.cs c)) s:=rfl
theorem mi{o:Int}{k:Bool->Tr}:vM (.hY c o n k,s)=Ct.eD (k (B8 s.cs c o)) ⟨s.nodes,dL s.cs c o n,s.gen⟩:=rfl
theorem V2{cs:List Int}{c o:Int}(h1:1<=c)(h2:c<=cs.length)(h:bE cs c=o):B8 cs c o=true/\gP cs c o:=by
 have hc:gP cs c o:=⟨h1,h2,by unfold bE at h;rwa [if_pos ⟨h1,h2⟩] at h⟩
 exact⟨(Ex (r:=true) ⟨λ _=>hc,λ _=>rfl⟩).symm,hc⟩
theorem bg{T:Tr}{k N:Nat}(h:Dp T N)(hl:(kI (Ct.eD T s) k).1.live=true):pB (Ct.eD T s) (k+1)=k+1:=by
 obtain⟨_,_,_,_,h4⟩:=h.run (s:=s) k
 show pB _ k+(if _ then 1 else 0)=_
 rw[h4 hl,if_pos hl]
end
end

/- What a step of one's own changes. -/
section
open Go Go.RowKit Go.Ct
section
variable{H:ByteArray->Nat}{σ τ υ:Kw}
structure z5(H:ByteArray->Nat)(σ υ:Kw)(c v:Int):Prop where
 le:Le σ υ
 inv:Inv H υ
 at':υ.ce c=v
 other:∀x,x≠c->υ.ce x=σ.ce x
theorem sM{c o:Int}(h1:1<=c)(h2:c<=σ.cl)(h:σ.ce c=o):gP σ.mm.cs c o:=⟨h1,h2,by have h:bE σ.mm.cs c=o:=h;unfold bE at h;rwa [if_pos ⟨h1,h2⟩] at h⟩
def Rp(σ τ:Kw)(i:Int):Prop:=∀c:Int,1<=c->c<=σ.cl->σ.ct c≠.main i->(∀m,σ.ct c≠.prev m)->τ.ce c=σ.ce c
theorem Rp.refl(σ:Kw)(i:Int):Rp σ σ i:=λ _ _ _ _ _=>rfl
theorem Rp.trans{i:Int}(l:Le σ τ)(h:Rp σ τ i)(h2:Rp τ υ i):Rp σ υ i:=λ c h1 hc a b=>by
 have e:=l.ct c hc
 rw[h2 c h1 (by have:=l.cl;omega) (by rw[e];exact a) (λ m=>by rw[e];exact b m)]
 exact h c h1 hc a b
theorem Mq{c v i:Int}(h:z5 H σ υ c v)(hc:σ.ct c=.main i∨∃m,σ.ct c=.prev m):Rp σ υ i:=λ x _ _ a b=>h.other x λ e=>by
 subst e
 rcases hc with hc|⟨m,hc⟩
 ·exact a hc
 ·exact b m hc
theorem fo{n:Nv}{x i:Int}(l:Le σ υ)(e:υ.mm=σ.mm.push n x):Rp σ υ i:=λ c' _ hc _ _=>by
 have e2:υ.mm.cs=fN n.kind σ.mm.cs x:=by rw[e];rfl
 show bE υ.mm.cs c'=_
 rw[e2]
 unfold fN
 split
 ·exact yI hc
 ·rfl
end
end

/- Procedures that run alone, with the labels: what they leave. -/
section
open Go.RowKit Go.Ct
def So(H:ByteArray->Nat)(Q:Rs->Kw->Prop):Tr->Kw->Prop
 | .done r,σ=>Q r σ
 | .load c k,σ=>So H Q (k (σ.ce c)) σ
 | .hY c o n k,σ=>(gP σ.mm.cs c o->∃υ,Le σ υ/\Inv H υ/\υ.mm=⟨σ.mm.nodes,dL σ.mm.cs c o n,σ.mm.gen⟩/\So H Q (k true) υ)/\(¬gP σ.mm.cs c o->So H Q (k false) σ)
 | .alloc n i k,σ=>∃υ,Le σ υ/\Inv H υ/\υ.mm=σ.mm.push n i/\So H Q (k ((σ.len+1:Nat):Int)) υ
 | .cell i k,σ=>∃υ,Le σ υ/\Inv H υ/\υ.mm=⟨σ.mm.nodes,σ.mm.cs++[i],σ.mm.gen⟩/\So H Q (k ((σ.cl+1:Nat):Int)) υ
 | .gen k,σ=>∃υ,Le σ υ/\Inv H υ/\υ.mm=⟨σ.mm.nodes,σ.mm.cs,σ.mm.gen+1⟩/\So H Q (k (σ.mm.gen+1)) υ
 | .node r k,σ=>r<=σ.len/\So H Q (k (σ.nd r)) σ
 | .stuck,_=>True
section
variable{H:ByteArray->Nat}{Q:Rs->Kw->Prop}{σ τ υ:Kw}
theorem rL:∀{u:Tr} {σ:Kw},Inv H σ->So H Q u σ->∃υ,Le σ υ/\Inv H υ/\υ.mm=(Ct.eD u σ.mm).2/\So H Q (Ct.eD u σ.mm).1 υ:=by
 intro u
 induction u with
 | done r=>intro σ i0 h;exact⟨σ,Le.refl σ,i0,rfl,h⟩
 | stuck=>intro σ i0 h;exact⟨σ,Le.refl σ,i0,rfl,h⟩
 | load c k ih=>intro σ i0 h;exact⟨σ,Le.refl σ,i0,rfl,h⟩
 | hY c o v k ih=>intro σ i0 h;exact⟨σ,Le.refl σ,i0,rfl,h⟩
 | alloc nd i k ih =>
  intro σ i0 h
  obtain⟨υ,l,i1,e,hb⟩:=h
  obtain⟨ρ,l2,i2,e2,h2⟩:=ih _ i1 hb
  rw[e] at e2 h2
  exact⟨ρ,l.trans i0 i1 l2,i2,e2,h2⟩
 | cell i k ih =>
  intro σ i0 h
  obtain⟨υ,l,i1,e,hb⟩:=h
  obtain⟨ρ,l2,i2,e2,h2⟩:=ih _ i1 hb
  rw[e] at e2 h2
  exact⟨ρ,l.trans i0 i1 l2,i2,e2,h2⟩
 | gen k ih =>
  intro σ i0 h
  obtain⟨υ,l,i1,e,hb⟩:=h
  obtain⟨ρ,l2,i2,e2,h2⟩:=ih _ i1 hb
  rw[e] at e2 h2
  exact⟨ρ,l.trans i0 i1 l2,i2,e2,h2⟩
 | node r k ih=>intro σ i0 h;exact ih _ i0 h.2
theorem aBY{u:Tr}(i0:Inv H σ)(h:So H Q u σ):∃υ,Le σ υ/\Inv H υ/\υ.mm=(vM (u,σ.mm)).2/\So H Q (vM (u,σ.mm)).1 υ:=by
 cases u with
 | load c k=>exact rL i0 h
 | hY c o v k =>
  obtain⟨w1,w2⟩:=h
  by_cases hc:gP σ.mm.cs c o
  ·obtain⟨υ,l,i1,e,hb⟩:=w1 hc
   obtain⟨ρ,l2,i2,e2,h2⟩:=rL i1 hb
   have eb:B8 σ.mm.cs c o=true:=(Ex (r:=true) ⟨λ _=>hc,λ _=>rfl⟩).symm
   rw[e] at e2 h2
   refine⟨ρ,l.trans i0 i1 l2,i2,?_⟩
   show _=(Ct.eD (k (B8 σ.mm.cs c o)) _).2/\So H Q (Ct.eD (k (B8 σ.mm.cs c o)) _).1 _
   rw[eb]
   exact⟨e2,h2⟩
  ·obtain⟨ρ,l2,i2,e2,h2⟩:=rL i0 (w2 hc)
   have eb:B8 σ.mm.cs c o=false:=(Ex (r:=false) ⟨λ h=>(nomatch h),λ h=>absurd h hc⟩).symm
   have es:(⟨σ.mm.nodes,dL σ.mm.cs c o v,σ.mm.gen⟩:Mm)=σ.mm:=by rw[Bh hc]
   refine⟨ρ,l2,i2,?_⟩
   show _=(Ct.eD (k (B8 σ.mm.cs c o)) ⟨σ.mm.nodes,dL σ.mm.cs c o v,σ.mm.gen⟩).2/\So H Q (Ct.eD (k (B8 σ.mm.cs c o)) ⟨σ.mm.nodes,dL σ.mm.cs c o v,σ.mm.gen⟩).1 _
   rw[eb,es]
   exact⟨e2,h2⟩
 | done r=>exact rL i0 h
 | stuck=>exact rL i0 h
 | alloc nd i k=>exact rL i0 h
 | cell i k=>exact rL i0 h
 | gen k=>exact rL i0 h
 | node r k=>exact rL i0 h
theorem cz{u:Tr}(i0:Inv H σ)(h:So H Q u σ):∀k,∃υ,Le σ υ/\Inv H υ/\υ.mm=(kI (Ct.eD u σ.mm) k).2/\So H Q (kI (Ct.eD u σ.mm) k).1 υ
 | 0=>rL i0 h
 | k+1=>by
  obtain⟨υ,l,i1,e,hb⟩:=cz i0 h k
  obtain⟨ρ,l2,i2,e2,h2⟩:=aBY i1 hb
  rw[e] at e2 h2
  exact⟨ρ,l.trans i0 i1 l2,i2,e2,h2⟩
theorem ug{p:Tr×Mm}(h1:∃x,p.1=.done x)(h2:∃υ,Le σ υ/\Inv H υ/\υ.mm=p.2/\So H Q p.1 υ):∃x υ,p=(.done x,υ.mm)/\Le σ υ/\Inv H υ/\Q x υ:=by
 obtain⟨x,e⟩:=h1
 obtain⟨υ,l,i1,em,hq⟩:=h2
 obtain⟨u,s⟩:=p
 simp only at e em hq
 subst e
 exact⟨x,υ,by rw[em],l,i1,hq⟩
theorem Ce{c o v:Int}{k:Bool->Tr}(i0:Inv H σ)(hset:gP σ.mm.cs c o->Jz σ c o v)(h1:gP σ.mm.cs c o->∀υ,z5 H σ υ c v->So H Q (k true) υ)(h2:¬gP σ.mm.cs c o->So H Q (k false) σ):So H Q (.hY c o v k) σ :=
 ⟨λ hc=>by
  obtain⟨υ,l2,i2,e2,e3⟩:=bf i0 hc (hset hc)
  exact⟨υ,l2,i2,e2,h1 hc υ ⟨l2,i2,e3,λ x hx=>by
   show bE υ.mm.cs x=_
   rw[e2]
   show bE (dL σ.mm.cs c o v) x=_
   rw[jP hc,if_neg hx]⟩⟩,h2⟩
variable{i m p g:Int}{w:List Nat}{t:eQ}
abbrev KS(H:ByteArray->Nat)(Q:Rs->Kw->Prop)(σ:Kw)(i:Int)(w:List Nat)(g:Int)(K:Int->Tr):Prop:=∀τ v,Le σ τ->Inv H τ->oT τ v w g->dI τ v->τ.ce (σ.nd i).main=v->Rp σ τ i->So H Q (K v) τ
theorem KS.up{K:Int->Tr}(i0:Inv H σ)(i1:Inv H τ)(hi:rS σ i w g)(h:KS H Q σ i w g K)(l:Le σ τ)(f:Rp σ τ i):KS H Q τ i w g K:=λ υ v l2 i2 hm hs hv f2=>h υ v (l.trans i0 i1 l2) i2 hm hs (by rw[<- l.nd hi.in.2];exact hv) (f.trans l f2)
theorem bc{K:Int->Tr}(i0:Inv H σ)(hi:rS σ i w g)(hm:oT σ m w g)(hc0:σ.ce (σ.nd i).main=m)(h7:(σ.nd p).kind=7)(hp:oF σ m (σ.nd p).bA)(hK:KS H Q σ i w g K):So H Q (Bb i m p K) σ:=by
 have hr:1<=p/\p<=σ.len:=dW (N:=σ.mm.nodes) (i:=p) (by rw[h7];decide)
 have hc:=i0.oJ hi.1.1
 have hold:oT σ (σ.nd p).bA w g:=by have:=hp.1;rw[hm.2.1] at this;exact this.le hm.2.2
 refine⟨hi.in.2,hr.2,Ce i0 (λ _=>Rk i0 hi hold (Le.refl σ) i0) (λ _ υ hs=>?_) (λ hn=>absurd (sM hc.1 hc.2.1 hc0) hn)⟩
 refine⟨by have:=hs.le.len;have:=hr.2;omega,?_⟩
 rw[hs.le.nd hr.2]
 exact hK υ _ hs.le hs.inv (hold.up hs.le) (dI.up i0 hold.1 hp.2 hs.le) hs.at' (Mq hs (.inl hc.2.2))
theorem Hf{K:Int->Tr}(i0:Inv H σ)(hi:rS σ i w g)(hm:oT σ m w g)(hc0:σ.ce (σ.nd i).main=m)(hp:E7 σ m p)(hd:σ.ce (σ.nd m).prev≠p)(hK:KS H Q σ i w g K):So H Q (iK i m K) σ:=by
 have hr:=hm.in
 refine⟨hr.2,?_⟩
 try dsimp only
 show So H Q (if σ.ce (σ.nd m).prev=0 then K m else Bb i m (σ.ce (σ.nd m).prev) K) σ
 split
 ·rename_i e0
  exact hK σ m (Le.refl σ) i0 hm e0 hc0 (.refl σ i)
 ·rename_i e0
  rcases hp.ce with e|e|⟨e,e2⟩
  ·exact absurd e hd
  ·exact absurd e e0
  ·exact bc i0 hi hm hc0 e (by rw[e2];exact hp.pm) hK
theorem po{K:Int->Tr}{c:Bool}(i0:Inv H σ)(hi:rS σ i w g)(hm:oT σ m w g)(hc0:σ.ce (σ.nd i).main=m)(hp:E7 σ m p)(hpc:σ.ce (σ.nd m).prev=p)(hK:KS H Q σ i w g K):So H Q (jK i m p c K) σ:=by
 have hr:=hm.in
 have hc:=hp.cell i0
 have hmc:=i0.oJ hi.1.1
 have hne:(σ.nd m).prev≠(σ.nd i).main:=λ e=>by
  have h1:=hc.2.2
  rw[e,hmc.2.2] at h1
  cases h1
 unfold jK
 try dsimp only
 split
 ·refine⟨hr.2,Ce i0 (λ _=>?_) (λ _ υ hs=>?_) (λ hn=>absurd (sM hc.1 hc.2.1 hpc) hn)⟩
  ·have e:=hc.2.2
   refine⟨Int.le_refl _,bL _,λ i' h=>?_,λ m' h=>⟨hp.pk,.inl rfl⟩,λ d h=>.inl rfl,λ h=>?_,λ h=>?_⟩<;>rw[e] at h<;>cases h
  ·have l1:=hs.le
   have f1:Rp σ υ i:=Mq hs (.inr ⟨m,hc.2.2⟩)
   refine Hf hs.inv (hi.up l1) (hm.up l1) ?_ (hp.up i0 hs.inv l1) ?_ (hK.up i0 hs.inv hi l1 f1)
   ·rw[l1.nd hi.in.2,hs.other _ (Ne.symm hne)];exact hc0
   ·rw[l1.nd hr.2,hs.at'];have:=(jL hp.pk).1;omega
 ·obtain⟨υ,l1,i1,em,e1,_,_⟩:=wz (w:=[]) (g:=0) i0 (O4 i0 hp.pk) (i:=0) ⟨⟨Int.le_refl _,bL _⟩,λ k=>eK (a:=7) (b:=2) k,λ k=>absurd k (jF (.inr (.inl rfl))),λ _=>rfl⟩
  refine⟨hr.2,υ,l1,i1,em,?_⟩
  have f0:Rp σ υ i:=fo l1 em
  have hf2:((σ.len+1:Nat):Int)<=υ.len:=by
   have:υ.len=σ.len+1:=by simp only[Kw.len,em,Mm.push,List.length_append,List.length_cons,List.length_nil]
   omega
  have hp1:=hp.up i0 i1 l1
  have hc1:=hp1.cell i1
  have e0:(υ.nd m).prev=(σ.nd m).prev:=by rw[l1.nd hr.2]
  rw[e0] at hc1
  have h7:(υ.nd ((σ.len+1:Nat):Int)).kind=7/\(υ.nd ((σ.len+1:Nat):Int)).bA=p:=by rw[e1];exact⟨rfl,rfl⟩
  generalize ((σ.len+1:Nat):Int)=f at hf2 h7 ⊢
  have hf1:1<=f:=(dW (N:=υ.mm.nodes) (i:=f) (by rw[show(bQ υ.mm.nodes f).kind=7 from h7.1];decide)).1
  have hce:∀x:Int,x<=σ.cl->υ.ce x=σ.ce x:=λ x hx=>by
   have e2:υ.mm.cs=σ.mm.cs:=by rw[em];rfl
   show bE υ.mm.cs x=_
   rw[e2]
  refine Ce i1 (λ _=>?_) (λ _ τ hs=>?_) (λ hn=>absurd (sM hc1.1 hc1.2.1 (by rw[hce _ hc.2.1];exact hpc)) hn)
  ·have e:υ.ct (σ.nd m).prev=.prev m:=hc1.2.2
   refine⟨by omega,hf2,λ i' h=>?_,λ m' h=>⟨hp1.pk,.inr h7⟩,λ d h=>?_,λ h=>?_,λ h=>?_⟩<;>rw[e] at h<;>cases h
  ·have l2:=hs.le
   have f1:Rp υ τ i:=Mq hs (.inr ⟨m,hc1.2.2⟩)
   refine Hf hs.inv ((hi.up l1).up l2) ((hm.up l1).up l2) ?_ (hp1.up i1 hs.inv l2) ?_ ((hK.up i0 i1 hi l1 f0).up i1 hs.inv (hi.up l1) l2 f1)
   ·rw[l2.nd (by have:=l1.len;have:=hi.in.2;omega),l1.nd hi.in.2,hs.other _ (Ne.symm hne),hce _ hmc.2.1];exact hc0
   ·rw[l2.nd (by have:=l1.len;omega),e0,hs.at']
    intro e
    have:=hp1.pk
    rw[<- e] at this
    exact absurd this (jF (.inr (.inl h7.1)))
end
end

/- Reads and HELP that run alone. -/
section
open Go.RowKit Go.Ct
section
variable{H:ByteArray->Nat}{Q:Rs->Kw->Prop}{σ τ υ:Kw}{i m p g v:Int}{w:List Nat}{t:eQ}
def RS(σ:Kw)(t:eQ)(v o st:Int):Prop:=(σ.ce t.root=v/\σ.ce st=0)∨(σ.ce t.root=o/\σ.ce st=2)
theorem Oi(hT:cL σ t)(hro:t.ro=false)(f:Rp σ τ i):τ.ce t.root=σ.ce t.root:=by
 have h:=hT.rw hro
 exact f _ hT.1 hT.2.1 (by rw[h];intro h;cases h) (λ m=>by rw[h];intro h;cases h)
theorem N8{v:Int}(i0:Inv H σ)(h:(σ.nd v).kind=8)(f:Rp σ τ i):τ.ce (σ.nd v).status=σ.ce (σ.nd v).status:=by
 have hd:=i0.desc h
 exact f _ hd.2.2.2.1 hd.2.2.2.2.1 (by rw[hd.2.2.2.2.2];intro h;cases h) (λ m=>by rw[hd.2.2.2.2.2];intro h;cases h)
theorem R9{s:Int}{K:Int->Tr}(hT:cL σ t)(hro:t.ro=false)(i0:Inv H σ)(h:(σ.nd v).kind=8)(hv:σ.ce t.root=v)(hK:∀υ,z5 H σ υ t.root (if s=1 then(σ.nd v).new else(σ.nd v).bA)->rG υ (if s=1 then(σ.nd v).new else(σ.nd v).bA) []->So H Q (K (if s=1 then(σ.nd v).new else(σ.nd v).bA)) υ):So H Q (iE t v s K) σ:=by
 have hd:=i0.desc h
 refine⟨hd.1,?_⟩
 show So H Q (.hY t.root v (if s=1 then(σ.nd v).new else(σ.nd v).bA) λ _=>K (if s=1 then(σ.nd v).new else(σ.nd v).bA)) σ
 have hw:rG σ (if s=1 then(σ.nd v).new else(σ.nd v).bA) []:=by split;exact hd.2.2.1;exact hd.2.1
 generalize (if s=1 then(σ.nd v).new else(σ.nd v).bA)=w at hw hK ⊢
 refine Ce i0 (λ _=>?_) (λ _ υ hs=>hK υ hs (hw.up hs.le)) (λ hn=>absurd (sM hT.1 hT.2.1 hv) hn)
 have e:=hT.rw hro
 refine⟨by have:=hw.in;omega,hw.in.2,λ i' h=>?_,λ m' h=>?_,λ d h=>?_,λ h=>.inl hw,λ h=>?_⟩<;>rw[e] at h<;>cases h
theorem q0{s:Int}{K:Int->Tr}(i0:Inv H σ)(h:(σ.nd v).kind=8)(hne:σ.ce t.root≠v)(hK:So H Q (K (if s=1 then(σ.nd v).new else(σ.nd v).bA)) σ):So H Q (iE t v s K) σ:=by
 have hd:=i0.desc h
 refine⟨hd.1,?_⟩
 show So H Q (.hY t.root v (if s=1 then(σ.nd v).new else(σ.nd v).bA) λ _=>K (if s=1 then(σ.nd v).new else(σ.nd v).bA)) σ
 exact⟨λ hc=>absurd (rZ hc) hne,λ _=>hK⟩
theorem lu{K:Int->Tr}(hT:cL σ t)(hro:t.ro=false)(i0:Inv H σ)(h8:(σ.nd v).kind=8)(hv:σ.ce t.root=v)(hs:σ.ce (σ.nd v).status=0)(hi:rS σ i w g)(hK:∀τ u,Le σ τ->Inv H τ->RS τ t v (σ.nd v).bA (σ.nd v).status->So H Q (K u) τ):So H Q (lR t i K) σ:=by
 have hd:=i0.desc h8
 have hT2:=hT.rw hro
 have left:∀τ u,Le σ τ->Inv H τ->Rp σ τ i->So H Q (K u) τ:=λ τ u l i1 f=>hK τ u l i1 (.inl ⟨(Oi hT hro f).trans hv,(N8 i0 h8 f).trans hs⟩)
 refine⟨hi.in.2,?_⟩
 show So H Q (mI t i (σ.ce (σ.nd i).main) K) σ
 have hm:=hi.uc i0
 have hmc:=i0.oJ hi.1.1
 generalize hmm:σ.ce (σ.nd i).main=m at hm ⊢
 have hc:=i0.mT hm.1
 have hce:=i0.ce _ hc.1 hc.2.1
 have hp:=hce.prev m hc.2.2
 refine⟨hm.in.2,?_⟩
 show So H Q (if σ.ce (σ.nd m).prev=0 then K m else .node (σ.ce (σ.nd m).prev) λ np=>if cG np then(if t.ro=true then jK i m (σ.ce (σ.nd m).prev) false K else yW t λ r=>.node r λ nr=>.node i λ ni=>jK i m (σ.ce (σ.nd m).prev) (nr.gen==ni.gen) K) else Bb i m (σ.ce (σ.nd m).prev) K) σ
 split
 ·exact left σ m (Le.refl σ) i0 (.refl σ i)
 ·rename_i e0
  refine⟨hce.hi,?_⟩
  try dsimp only
  split
  ·rename_i hk
   have hpm:oF σ m (σ.ce (σ.nd m).prev):=by
    rcases hp.2 with h|h|h
    ·exact absurd h e0
    ·exact h
    ·exact absurd hk (jF (.inr (.inl h.1)))
   have hpend:E7 σ m (σ.ce (σ.nd m).prev):=⟨hp.1,hk,hpm,.inl rfl⟩
   rw[hro,if_neg (by decide)]
   show So H Q (.node (σ.ce t.root) λ n=>if n.kind=2 then _ else _) σ
   rw[hv]
   refine⟨hd.1,?_⟩
   try dsimp only
   rw[if_neg (by rw[h8];decide)]
   refine⟨hd.1,?_⟩
   show So H Q (if σ.ce (σ.nd v).status=0 then _ else _) σ
   rw[if_pos hs]
   refine⟨hd.1,Ce i0 (λ _=>A6 i0 h8 (.inr rfl) (Le.refl σ) i0) (λ _ υ h1=>?_) (λ hn=>absurd (sM hd.2.2.2.1 hd.2.2.2.2.1 hs) hn)⟩
   have l1:=h1.le
   have hv1:v<=υ.len:=by have:=l1.len;have:=hd.1;omega
   have en:υ.nd v=σ.nd v:=l1.nd hd.1
   refine⟨hv1,?_⟩
   show So H Q (iE t v (υ.ce (υ.nd v).status) λ r=>Tr.node r λ nr=>.node i λ ni=>jK i m (σ.ce (σ.nd m).prev) (nr.gen==ni.gen) K) υ
   rw[en,h1.at']
   have hrs:t.root≠(σ.nd v).status:=λ e=>by
    have h2:=hd.2.2.2.2.2
    rw[<- e,hT2] at h2;cases h2
   refine R9 (hT.up l1) hro h1.inv (by rw[en];exact h8) (by rw[h1.other _ hrs];exact hv) λ ρ h2 hI=>?_
   rw[if_neg (by decide),en] at h2 hI ⊢
   have l2:=h2.le
   have l12:=l1.trans i0 h1.inv l2
   refine⟨hI.in.2,(hi.up l12).in.2,?_⟩
   have hms:(σ.nd i).main≠(σ.nd v).status:=λ e=>by
    have h3:=hd.2.2.2.2.2
    rw[<- e,hmc.2.2] at h3;cases h3
   have hmr:(σ.nd i).main≠t.root:=λ e=>by
    rw[<- e,hmc.2.2] at hT2;cases hT2
   have hps:(σ.nd m).prev≠(σ.nd v).status:=λ e=>by
    have h3:=hd.2.2.2.2.2
    rw[<- e,hc.2.2] at h3;cases h3
   have hpr:(σ.nd m).prev≠t.root:=λ e=>by
    rw[<- e,hc.2.2] at hT2;cases hT2
   refine po h2.inv (hi.up l12) (hm.up l12) ?_ (hpend.up i0 h2.inv l12) ?_ λ χ u l3 i3 _ _ _ f=>?_
   ·rw[l12.nd hi.in.2,h2.other _ hmr,h1.other _ hms];exact hmm
   ·rw[l12.nd hm.in.2,h2.other _ hpr,h1.other _ hps]
   ·refine hK χ u (l12.trans i0 h2.inv l3) i3 (.inr ⟨?_,?_⟩)
    ·rw[Oi (hT.up l12) hro f];exact h2.at'
    ·have h8':(ρ.nd v).kind=8:=by rw[l12.nd hd.1];exact h8
     have:=N8 h2.inv h8' f
     rw[l12.nd hd.1] at this
     rw[this,h2.other _ (Ne.symm hrs)];exact h1.at'
  ·rename_i hk
   rcases hp.2 with h|h|h
   ·exact absurd h e0
   ·exact absurd h.1.1 hk
   ·exact bc i0 hi hm hmm h.1 h.2 λ τ u l i1 _ _ _ f=>left τ u l i1 f
theorem qd{K:Int->Tr}(hT:cL σ t)(i0:Inv H σ)(hK:∀τ r,Le σ τ->Inv H τ->rG τ r []->τ.ce t.root=r->So H Q (K r) τ):So H Q (mL t K) σ:=by
 have hv:=Wc hT i0
 show So H Q (.node (σ.ce t.root) λ n=>if n.kind=2 then _ else _) σ
 generalize hve:σ.ce t.root=v at hv ⊢
 refine⟨hv.1,?_⟩
 try dsimp only
 split
 ·rename_i h2
  rcases hv.2 with h|h
  ·exact hK σ v (Le.refl σ) i0 h hve
  ·rw[h.1] at h2;exact absurd h2 (by decide)
 ·rename_i h2
  have h8r:(σ.nd v).kind=8/\t.ro=false:=by
   rcases hv.2 with h|h
   ·exact absurd h.1 h2
   ·exact h
  obtain⟨h8,hro⟩:=h8r
  have hd:=i0.desc h8
  have hT2:=hT.rw hro
  have hrs:t.root≠(σ.nd v).status:=λ e=>by
   have h2:=hd.2.2.2.2.2
   rw[<- e,hT2] at h2;cases h2
  refine⟨hv.1,?_⟩
  show So H Q (if σ.ce (σ.nd v).status=0 then _ else iE t v (σ.ce (σ.nd v).status) K) σ
  split
  ·rename_i hs
   refine⟨hv.1,lu hT hro i0 h8 hve hs (w:=[]) (g:=(σ.nd (σ.nd v).bA).gen) ⟨hd.2.1,rfl⟩ λ τ u l i1 hrs1=>?_⟩
   have hv1:v<=τ.len:=by have:=l.len;have:=hd.1;omega
   have en:τ.nd v=σ.nd v:=l.nd hd.1
   have h81:(τ.nd v).kind=8:=by rw[en];exact h8
   refine⟨hv1,hv1,?_⟩
   show So H Q (.hY (τ.nd v).status 0 (if u=(τ.nd v).exp then 1 else 2) λ _=>.node v λ n=>.load n.status λ s=>iE t v s K) τ
   rw[en]
   refine Ce i1 (λ _=>by rw[<- en];exact A6 i1 h81 (by split<;>simp) (Le.refl τ) i1) (λ hc υ h1=>?_) (λ hn=>?_)
   ·have e0:τ.ce (σ.nd v).status=0:=rZ hc
    have hr0:τ.ce t.root=v:=by
     rcases hrs1 with h|h
     ·exact h.1
     ·rw[e0] at h;exact absurd h.2 (by decide)
    have l1:=h1.le
    have Kz:υ.nd v=σ.nd v:=(l1.nd hv1).trans en
    have l01:=l.trans i0 i1 l1
    refine⟨by have:=l1.len;omega,?_⟩
    refine R9 ((hT.up l).up l1) hro h1.inv (by rw[Kz];exact h8) (by rw[h1.other _ hrs];exact hr0) λ ρ h2 hI=>?_
    exact hK ρ _ (l01.trans i0 h1.inv h2.le) h2.inv hI h2.at'
   ·rcases hrs1 with h|h
    ·exact absurd (sM (σ:=τ) hd.2.2.2.1 (by have:=l.cl;have:=hd.2.2.2.2.1;omega) h.2) hn
    ·refine⟨hv1,?_⟩
     have hold:=hd.2.1.up l
     have hne:τ.ce t.root≠v:=λ e=>by
      rw[h.1] at e
      have h3:=hold.1
      rw[e,h81] at h3;exact absurd h3 (by decide)
     refine q0 i1 h81 hne ?_
     show So H Q (K (if τ.ce (τ.nd v).status=1 then(τ.nd v).new else(τ.nd v).bA)) τ
     rw[en,h.2,if_neg (by decide)]
     exact hK τ _ l i1 hold h.1
  ·exact R9 hT hro i0 h8 hve λ ρ h2 hI=>hK ρ _ h2.le h2.inv hI h2.at'
end
end

end Go.Proofs.YtbajmaoegmbfgaaGreat

/- Merged. -/
import Derived.Test.YtbajmaoegmbfgaaGreatGBr2
import Derived.Test.YtbajmaoegmbfgaaGreatGKx3
import Derived.Test.YtbajmaoegmbfgaaGreatGWo6
import Derived.Test.YtbajmaoegmbfgaaGreatGTape3
import Derived.Test.YtbajmaoegmbfgaaGreatR93
set_option linter.unusedSimpArgs false
set_option linter.unusedVariables false
namespace Go.Ct
open Go Go.RowKit
section
end
end Go.Ct
namespace Go.Proofs.YtbajmaoegmbfgaaGreat
section
open Go Go.RowKit Go.Ct
end
section
open Go.RowKit Go.Ct
section
variable{H:ByteArray->Nat}{σ:Kw}{i m p g:Int}{w:List Nat}{t:dU}
theorem Vd(i0:Inv H σ)(hi:qR σ i w g):∃p,gN σ.mm.nodes σ.mm.cs i=some p/\oW σ p w g:=by
 have hm:=hi.jc i0
 have hc:=i0.jI hm.1
 have hp:=(i0.ce _ hc.1 hc.2.1).prev _ hc.2.2
 have e1:wD σ.mm.nodes σ.mm.cs i=σ.ce (σ.nd i).main:=rfl
 have e2:oU σ.mm.nodes σ.mm.cs i=σ.ce (σ.nd (σ.ce (σ.nd i).main)).prev:=rfl
 have e3:yU σ.mm.nodes σ.mm.cs i=if(σ.nd (oU σ.mm.nodes σ.mm.cs i)).kind=7 then(σ.nd (oU σ.mm.nodes σ.mm.cs i)).bK else oU σ.mm.nodes σ.mm.cs i:=rfl
 unfold gN
 rw[if_pos ⟨hi.1.1,by rw[e1];exact hm.1⟩]
 have key:∀q,qI σ (σ.ce (σ.nd i).main) q->oW σ q w g:=λ q hq=>by have:=hq.1;rw[hm.2.1] at this;exact this.le hm.2.2
 by_cases h0:oU σ.mm.nodes σ.mm.cs i=0
 ·rw[if_pos h0,e1]
  exact⟨_,rfl,hm⟩
 ·rw[if_neg h0,e3]
  rw[e2] at h0 ⊢
  rcases hp.2 with h|h|h
  ·exact absurd h h0
  ·have hk:=h.1.1
   rw[if_neg (bV.ne0 hk).2.1,if_pos hk]
   exact⟨_,rfl,key _ h⟩
  ·rw[if_pos h.1,if_pos h.2.1.1]
   exact⟨_,rfl,key _ h.2⟩
theorem Wt(i0:Inv H σ)(hT:bX σ t):∃r,kE σ.mm.nodes σ.mm.cs t.root=some r/\uJ σ r []:=by
 have hv:=(aa hT i0).2
 have e:rK σ.mm.nodes σ.mm.cs t.root=if(σ.nd (σ.ce t.root)).kind=8 then(if σ.ce (σ.nd (σ.ce t.root)).status=1 then(σ.nd (σ.ce t.root)).new else(σ.nd (σ.ce t.root)).bK) else σ.ce t.root:=rfl
 have key:∀r,rK σ.mm.nodes σ.mm.cs t.root=r->uJ σ r []->∃r,kE σ.mm.nodes σ.mm.cs t.root=some r/\uJ σ r []:=λ r er hr=>⟨r,by unfold kE;rw[er];exact if_pos hr.1,hr⟩
 rcases hv with h|h
 ·exact key _ (e.trans (if_neg (by rw[h.1];decide))) h
 ·have hd:=i0.desc h.1
  by_cases hs:σ.ce (σ.nd (σ.ce t.root)).status=1
  ·exact key _ (e.trans ((if_pos h.1).trans (if_pos hs))) hd.2.2.1
  ·exact key _ (e.trans ((if_pos h.1).trans (if_neg hs))) hd.2.1
theorem nF.lof{b:Nat}{xs:List Int}(h:nF σ m w g b xs):qK (qS b xs) 64=xs:=(S7 h.bv).2
def Bel(σ:Kw)(w:List Nat)(j:Int):Prop:=∃v,σ.way j=w++v/\(σ.nd j).kind=2/\(gN σ.mm.nodes σ.mm.cs j).isSome=true
theorem Bel.up{k:Nat}{j:Int}(h:Bel σ (w++[k]) j):Bel σ w j:=by
 obtain⟨v,h1,h2⟩:=h
 exact⟨k::v,by rw[h1,List.append_assoc];rfl,h2⟩
theorem qs{a b:Nat}{w u v:List Nat}(h:w++[a]++u=w++[b]++v):a=b:=by
 rw[List.append_assoc,List.append_assoc] at h
 have:=List.append_cancel_left h
 simpa using(List.cons.inj this).1
end
end
section
open Go Go.RowKit Go.Ct
section
variable{L:List aQ}{cs:List Int}{gen:Int}{pn pc:Option Addr}{cn cc:Nat}{w:World}
theorem dh(hp:gJ L cs gen)(hr:I4 L)(hl:L.length<=274877906944):StB L cs:=by
 have hd:∀x:Int,Ej x L.length->x<=9223372036854775807:=λ x h=>by have:=h.2;omega
 refine⟨λ c=>?_,λ r=>?_,λ r=>?_,λ r=>?_,λ r=>?_,λ r=>?_,λ r=>?_⟩
 ·unfold aS
  split
  ·exact hd _ (hp.cells _ (by omega))
  ·decide
 ·unfold aC
  split
  ·exact hd _ (hp.nodes (r-1).toNat (by omega)).2.2.2.1
  ·decide
 ·unfold aC
  split
  ·exact hd _ (hp.nodes (r-1).toNat (by omega)).2.2.2.2.2
  ·decide
 ·unfold aC
  split
  ·exact(hr _ (fR (by omega))).main
  ·decide
 ·unfold aC
  split
  ·exact(hr _ (fR (by omega))).prev
  ·decide
 ·unfold aC
  split
  ·exact(hr _ (fR (by omega))).status
  ·decide
 ·unfold aC
  split
  ·intro b hb
   obtain⟨i,hi,rfl⟩:=List.mem_iff_getElem.1 hb
   have:=(hp.nodes (r-1).toNat (by omega)).2.2.1 i hi
   rw[iU,List.getElem?_eq_getElem hi] at this
   exact hd _ this
  ·intro b hb
   cases hb
theorem Q8(hp:gJ L cs gen)(h:rU w L cs pn pc)(hr:I4 L)(hl:L.length<=274877906944)(hc:cs.length<=274877906944)(c:Int)(ro:Bool){r:Int}(ho:kE (L.map aQ.c) cs c=some r)(hi:c<=9223372036854775807):Calls Tryz.prog 44 #[Lm L cs gen pn cn pc cc,.agg ⟨[.int .i64 c,.bool ro]⟩] w λ e w'=>e=.returned (.tuple #[.int .i64 r,.bool true])/\St w [] [] w':=by
 refine enter Tryz.func44 Tryz.ntmps44 rfl rfl h.start ?_
 simp only[cG]
 simp only[Lm]
 refine J0 ?_;refine bM (λ x2=>?_);refine bM (λ x3=>?_);refine J8 ?_;refine aV ?_;refine oR ?_;refine aE (c0 (V:=.bool) (hc:=λ w1 hw=>Ob (h.Jl hw) hr hl hc)) (λ x7 h7=>?_);refine pE ?_
 refine bC (λ c8=>?_) (λ c8=>?_)
 ·rw[h7.2 hp] at c8;cases c8
 ·refine aZ ?_;refine oR ?_;refine bQ ?_;refine aP (cV (hc:=λ w1 hw=>pw (h.Jl hw) (dh hp hr hl) hl hc c ro hi)) (λ x11=>?_);refine J54 ?_;refine J8 ?_
  refine bD Tryz.results44 (λ w hw=>?_)
  exact⟨by rw[ho];rfl,hw.done⟩
end
theorem Up{m B C E:Nat}{W:Wd}(h:C1 m B C E W){t:dU}(ht:t∈W.ts):∃r p,kE (W.z.L.map aQ.c) W.z.cs t.root=some r/\gN (W.z.L.map aQ.c) W.z.cs r=some p/\1<=r/\r<=W.z.L.length/\p<=W.z.L.length:=by
 obtain⟨σ,hi⟩:=h.wr.inv
 have i0:=hi.inv
 have e1:σ.mm.nodes=W.z.L.map aQ.c:=by rw[hi.mm];rfl
 have e2:σ.mm.cs=W.z.cs:=by rw[hi.mm];rfl
 have hl:σ.len=W.z.L.length:=by show σ.mm.nodes.length=_;rw[e1,List.length_map]
 obtain⟨r,hr,hir⟩:=Wt i0 (hi.ts t ht)
 obtain⟨p,hp,hm⟩:=Vd i0 (g:=(σ.nd r).gen) ⟨hir,rfl⟩
 rw[e1,e2] at hr hp
 have h1:=hir.in
 have h2:=oW.in hm
 exact⟨r,p,hr,hp,h1.1,by omega,by omega⟩
end
section
open Go Go.RowKit Go.Ct
section
variable{H:ByteArray->Nat}{σ:Kw}{w:List Nat}{m g i:Int}
theorem Mp{N:List Nv}{f:Int->List Int->List Int->Option (List Pl×List Pr)}{way idx:List Int}:∀(xs ys:List Int) (j:Nat) (s:List Int),yT N f way idx (xs++ys) j s=(yT N f way idx xs j s).bind λ p=>(yT N f way idx ys (j+xs.length) (s++p.1.map Pl.i)).map λ q=>(p.1++q.1,p.2++q.2)
 | [],ys,j,s=>by
  simp only[List.nil_append,yT,Option.bind_some,List.length_nil,Nat.add_zero,List.map_nil,List.append_nil]
  cases yT N f way idx ys j s<;>rfl
 | b::r,ys,j,s=>by
  have e:j+(b::r).length=j+1+r.length:=by simp only[List.length_cons];omega
  rw[e]
  simp only[List.cons_append,yT]
  split
  ·rw[Mp r ys (j+1) s]
   cases yT N f way idx r (j+1) s with
   | none=>rfl
   | some p=>simp only[Option.bind_some,Option.map_some];cases yT N f way idx ys (j+1+r.length) (s++p.1.map Pl.i)<;>rfl
  ·split
   ·cases f b (way++[idx.getD j 0]) s with
    | none=>rfl
    | some p =>
     simp only[Option.bind_some]
     rw[Mp r ys (j+1) (s++p.1.map Pl.i)]
     cases yT N f way idx r (j+1) (s++p.1.map Pl.i) with
     | none=>rfl
     | some q =>
      simp only[Option.bind_some,Option.map_some,List.map_append,<- List.append_assoc]
      cases yT N f way idx ys (j+1+r.length) (s++p.1.map Pl.i++q.1.map Pl.i)<;>simp
   ·rfl
def PlG(σ:Kw)(w:List Nat)(p:Pl):Prop:=Bel σ w p.i/\gN σ.mm.nodes σ.mm.cs p.i=some p.m
theorem cg(i0:Inv H σ):∀(n:Nat) (i:Int) (w:List Nat) (g a:Int) (lv:Nat) (way s:List Int),qR σ i w g->12<=w.length+n->(∀j∈s,¬∃v,σ.way j=w++v)->∃q,It σ.mm.nodes σ.mm.cs n a lv i way s=some q/\(∀p∈q.1,PlG σ w p)/\q.1≠[]
 | 0,i,w,g,_,_,_,_,hi,hn,_=>by have:=(hi.Md i0).2.2;omega
 | n+1,i,w,g,a,lv,way,s,hi,hn,hl=>by
  obtain⟨p,hp,hm⟩:=Vd i0 hi
  have hbi:Bel σ w i:=⟨[],by rw[hi.1.2,List.append_nil],hi.1.1,by rw[hp];rfl⟩
  have hns:¬i∈s:=λ h=>hl i h ⟨[],by rw[hi.1.2,List.append_nil]⟩
  by_cases h3:(σ.nd p).kind=3
  ·have hc:=hm.sF i0 h3
   have key:∀k,k<=64->∃q,yT σ.mm.nodes (λ b w s=>It σ.mm.nodes σ.mm.cs n i (lv+1) b w s) way (sR (σ.nd p).bm.toNat 64) (qK (qS (σ.nd p).bm.toNat (σ.nd p).xs) k) 0 (s++[i])=some q/\∀r∈q.1,∃k',k'<k/\PlG σ (w++[k']) r:=by
    intro k
    induction k with
    | zero=>intro _;exact⟨([],[]),rfl,λ j hj=>nomatch hj⟩
    | succ k ih =>
     intro hk
     obtain⟨q,h1,h2⟩:=ih (by omega)
     have up:∀r∈q.1,∃k',k'<k+1/\PlG σ (w++[k']) r:=λ r hr=>by obtain⟨k',h5,h6⟩:=h2 r hr;exact⟨k',by omega,h6⟩
     simp only[qK]
     rw[Mp,h1,Option.bind_some]
     cases hmo:qS (σ.nd p).bm.toNat (σ.nd p).xs k with
     | none=>exact⟨q,by simp[yT],up⟩
     | some b =>
      rcases hc.br k (by omega) b hmo with hb|hb
      ·refine⟨(q.1,q.2++[((bA σ.mm.nodes b).key,(bA σ.mm.nodes b).val)]),?_,up⟩
       simp only[Option.toList,yT]
       rw[if_pos hb.1]
       simp
      ·have hbg:qR σ b (w++[k]) (σ.nd b).gen:=⟨⟨hb.1,hb.2.1⟩,rfl⟩
       obtain⟨q2,h5,h6,_⟩:=cg i0 n b (w++[k]) _ i (lv+1) (way++[(sR (σ.nd p).bm.toNat 64).getD (0+(qK (qS (σ.nd p).bm.toNat (σ.nd p).xs) k).length) 0]) (s++[i]++q.1.map Pl.i) hbg (by rw[List.length_append,List.length_singleton];omega) (λ j hj=>by
        rintro ⟨v,hv⟩
        rcases List.mem_append.1 hj with hj|hj
        ·rcases List.mem_append.1 hj with hj|hj
         ·exact hl j hj ⟨k::v,by rw[hv,List.append_assoc];rfl⟩
         ·rw[List.mem_singleton.1 hj,hi.1.2] at hv
          have:=congrArg List.length hv
          simp at this
        ·obtain⟨r,hr,rfl⟩:=List.mem_map.1 hj
         obtain⟨k',h5,⟨v',h6,_⟩,_⟩:=h2 r hr
         rw[h6] at hv
         have:=qs hv
         omega)
       refine⟨(q.1++q2.1,q.2++q2.2),?_,λ r hr=>?_⟩
       ·simp only[Option.toList,yT]
        rw[if_neg (by rw[hb.1];decide),if_pos hb.1,h5]
        simp
       ·rcases List.mem_append.1 hr with hr|hr
        ·exact up r hr
        ·exact⟨k,by omega,h6 r hr⟩
   obtain⟨q,h1,h2⟩:=key 64 (Nat.le_refl _)
   rw[hc.lof] at h1
   refine⟨(⟨i,p,a,lv,way⟩::q.1,q.2),by rw[vq hns hp (by rw[h3];decide),h1];rfl,λ r hr=>?_,by simp⟩
   rcases List.mem_cons.1 hr with rfl|hr
   ·exact⟨hbi,hp⟩
   ·obtain⟨k',_,h6,h7⟩:=h2 r hr
    exact⟨h6.up,h7⟩
  ·have hk:(bA σ.mm.nodes p).kind=5∨(bA σ.mm.nodes p).kind=6:=by
    have:bV (σ.nd p):=hm.1
    unfold bV at this
    have h3':¬(bA σ.mm.nodes p).kind=3:=h3
    have t2:(bA σ.mm.nodes p).kind=3∨(bA σ.mm.nodes p).kind=5∨(bA σ.mm.nodes p).kind=6:=this
    omega
   exact⟨_,Mn hns hp hk,λ r hr=>by rw[List.mem_singleton.1 hr];exact⟨hbi,hp⟩,by simp⟩
end
end
section
open Go Go.RowKit Go.Ct
section
variable{L:List aQ}{cs:List Int}{gen:Int}{pn pc:Option Addr}{cn cc:Nat}{w:World}
theorem Sr(L:List aQ)(r:Int):aC L r=aQ.zero∨∃k,k<L.length/\aC L r=L.getD k aQ.zero:=by
 unfold aC
 split
 ·exact .inr ⟨(r-1).toNat,by omega,rfl⟩
 ·exact .inl rfl
theorem Hq(hp:gJ L cs gen)(hr:I4 L)(r:Int):∃b:Nat,b<18446744073709551616/\(aC L r).nd.bm=(b:Int)/\((aC L r).nd.kind=3->(aC L r).xs.length=gC b 64):=by
 rcases Sr L r with e|⟨k,hk,e⟩
 ·rw[e];exact⟨0,by decide,rfl,λ h=>absurd h (by decide)⟩
 ·rw[e]
  obtain⟨b,hb,hlt⟩:=(hr _ (fR hk)).bm
  refine⟨b,hlt,hb,λ h3=>?_⟩
  have:=(tK h3 (hp.nodes k hk).1).1
  rw[hb,sM hlt] at this
  omega
theorem Tg(hp:gJ L cs gen){r:Int}(h:(aC L r).nd.kind≠3):(aC L r).xs=[]:=by
 rcases Sr L r with e|⟨k,hk,e⟩
 ·rw[e];rfl
 ·rw[e] at h ⊢
  exact(hp.nodes k hk).1.1.2.2.2.2.1.trans (if_neg (by simpa using h))
theorem F4(hp:gJ L cs gen)(hr:I4 L)(r:Int):(aC L r).xs.length<=64:=by
 by_cases h:(aC L r).nd.kind=3
 ·obtain⟨b,_,_,h3⟩:=Hq hp hr r
  rw[h3 h]
  exact zH _ _
 ·rw[Tg hp h];decide
theorem Ps(hp:gJ L cs gen)(hr:I4 L){B:Nat}(hB:∀v∈L,v.ys.length<=B)(hb:(L.length+1)*(B+64)<=549755813888):Few L B:=by
 refine⟨λ r=>⟨?_,F4 hp hr r⟩,hb⟩
 rcases Sr L r with e|⟨k,hk,e⟩
 ·rw[e];exact Nat.zero_le _
 ·rw[e];exact hB _ (fR hk)
theorem ia{B:Nat}{wp:Option Addr}{wc:Nat}{o:Option (List Pl×List Pr)}{x:Je}(h:N0 L B wp wc [] o x):(o=none->x.ok=false)/\∀q,o=some q->x.ok=true/\x.l.map vE.p=q.1/\x.ps=q.2/\(x.own=false->(x.pp,cX x.ps)∈aN L)/\x.l.length<=L.length+1:=by
 refine⟨λ e=>?_,λ q e=>?_⟩
 ·subst e;exact h.2
 ·subst e
  obtain⟨h1,h2,h3,h4,h5,h6,h7⟩:=h.2
  refine⟨h1,h2,h3,h5,?_⟩
  have:=h6.len
  rw[List.nil_append,List.length_map,<- h2,List.length_map] at this
  exact this
theorem R9(hp:gJ L cs gen)(h:rU w L cs pn pc)(hr:I4 L)(hl:L.length<=274877906944)(hc:cs.length<=274877906944){B:Nat}(hB:∀v∈L,v.ys.length<=B)(hBl:(L.length+1)*(B+64)<=549755813888)(c:Int)(ro:Bool)(hi:c<=9223372036854775807){r:Int}(hrt:kE (L.map aQ.c) cs c=some r){q:List Pl×List Pr}(hn:It (L.map aQ.c) cs 12 0 0 r [] []=some q):Calls Tryz.prog 70 #[Lm L cs gen pn cn pc cc,.agg ⟨[.int .i64 c,.bool ro]⟩] w λ e w'=>∃x:Je,e=.returned (.tuple #[.slice x.lp x.l.length x.lc,.slice x.pp x.ps.length x.pc,.bool true])/\(x.l.map vE.p=q.1/\x.l.length<=L.length+1)/\SF w [] [] [] x.fr [] w':=by
 have hb:=dh hp hr hl
 obtain⟨k,rfl,hk⟩:=sm hrt
 refine enter Tryz.func70 Tryz.ntmps70 rfl rfl h.start ?_
 simp only[cG]
 simp only[Lm]
 refine J0 ?_;refine bM (λ x2=>?_);refine bM (λ x3=>?_);refine gB (λ _=>?_);refine J8 ?_;refine oR ?_;refine bQ ?_;refine aP (cV (hc:=λ w1 hw=>Q8 (gen:=gen) (cn:=cn) (cc:=cc) hp (h.Jl hw) hr hl hc c ro hrt hi)) (λ x14=>?_);refine Kb5 ?_;refine pE ?_
 refine bC (λ c18=>?_) (λ c18=>?_)
 ·exact nv c18
 ·refine kZ ?_;refine eH [(0,[]),(1,[]),(2,[]),(3,[]),(4,[]),(5,[]),(6,[]),(7,[0]),(8,[]),(9,[]),(10,[]),(11,[]),(12,[]),(13,[]),(14,[]),(15,[])] ?_;refine bS ?_;refine aR ?_;refine jC ?_;refine lK ?_;refine oE ?_;refine wu ?_;refine P9 (h:=λ x27=>?_);refine bE (i:=8) (hq:=(cM (hs:=[]) (os:=[rm L x27 (List.replicate (L.length+1) false)]) (hA:=bH.cons (.inr (.inl (.head _))) (bH.cons (.inr (.inl (.tail _ (.head _)))) (bH.cons (.inl rfl) (bH.of λ f hf=>.inr (.inl (.tail _ (.tail _ hf))))))) (hc:=λ w1 hs=>P3 h.fit hb hl hc (Hq hp hr) B x27 (Ps hp hr hB hBl) 12 0 rfl k 0 0 [] none 0 [] _ _ w1 hk rfl (Nat.le_refl _) (Vs.zero _) hs))) (h:=λ x28 h28=>?_);refine aR ?_;refine kM ?_;refine kM ?_;refine kM ?_;refine kO (h:=λ _=>?_);refine Pf ?_;refine kT ?_;refine pE ?_
  refine bC (λ c33=>?_) (λ c33=>?_)
  ·exfalso;rw[((ia h28).2 _ hn).1] at c33;simp at c33
  ·refine Du ?_;refine gB (λ _=>?_);refine J8 ?_
   refine bD Tryz.results70 (λ w hw=>?_)
   obtain⟨h1,h2,h3,h4,h5⟩:=(ia h28).2 _ hn
   rw[List.append_nil] at hw
   exact⟨x28,rfl,⟨h2,h5⟩,hw.v4⟩
end
open Classical in
theorem Ky{α:Type}:∀(l m:List α),l.Nodup->(∀a∈l,a∈m)->l.length<=m.length
 | [],_,_,_=>Nat.zero_le _
 | a::l,m,hn,hs=>by
  have hn:=List.nodup_cons.1 hn
  have ha:=hs a (List.mem_cons_self ..)
  have:=Ky l (m.erase a) hn.2 λ b hb=>by
   have hb2:=hs b (List.mem_cons_of_mem _ hb)
   exact(List.mem_erase_of_ne (λ e=>hn.1 (by rw[<- e];exact hb))).2 hb2
  rw[List.length_erase_of_mem ha] at this
  have:=List.length_pos_of_mem ha
  simp only[List.length_cons]
  omega
theorem Kl{m B C E:Nat}{W:Wd}(h:C1 m B C E W):∀v∈W.z.L,v.ys.length<=8:=by
 obtain⟨σ,hi⟩:=h.wr.inv
 have i0:=hi.inv
 have e1:σ.mm.nodes=W.z.L.map aQ.c:=by rw[hi.mm];rfl
 have hl:σ.len=W.z.L.length:=by show σ.mm.nodes.length=_;rw[e1,List.length_map]
 intro v hv
 obtain⟨k,hk,rfl⟩:=List.mem_iff_getElem.1 hv
 have hn:=i0.nd ((k+1:Nat):Int) (by omega) (by omega)
 have e:σ.nd ((k+1:Nat):Int)=(W.z.L[k]).c:=by
  simp only[Kw.nd]
  rw[e1,cZ,sE hk,iU,List.getElem?_eq_getElem hk]
  rfl
 have hy:(σ.nd ((k+1:Nat):Int)).ys=(W.z.L[k]).ys:=by rw[e];rfl
 rw[<- hy]
 have hval:=hn.valid
 by_cases h6:(σ.nd ((k+1:Nat):Int)).kind=6
 ·have hk6:=hn.k6 h6
  obtain⟨b,hb,hblt⟩:=hn.bd.hash
  have hasc:SA (σ.nd ((k+1:Nat):Int)).ys:=by
   have:=hval.2.2.2.2
   have h6':(σ.nd ((k+1:Nat):Int)).nd.kind=6:=h6
   rcases this with h|h|h|h|h|h|h
   ·omega
   ·omega
   ·omega
   ·omega
   ·exact oZ.1 h.2.2.1
   ·omega
   ·omega
  have hnd:((σ.nd ((k+1:Nat):Int)).ys.map Prod.fst).Nodup:=by
   unfold List.Nodup
   rw[List.pairwise_map]
   exact hasc.imp λ{a b} hab e=>by rw[e,tY] at hab;cases hab
  have:=Ky _ lY hnd λ q hq=>by
   obtain⟨p,hp,rfl⟩:=List.mem_map.1 hq
   exact(aBn (hk6.2.2.1 p hp) (by omega)).1
  rw[List.length_map] at this
  exact this
 ·have:(σ.nd ((k+1:Nat):Int)).ys=[]:=hval.1.2.2.2.2.2.2.2.2.1.trans (if_neg (by have h7:¬(σ.nd ((k+1:Nat):Int)).nd.kind=6:=h6;simpa using h7))
  rw[this];decide
theorem Pt{m B C E:Nat}{W:Wd}(h:C1 m B C E W){t:dU}(ht:t∈W.ts):∃r q,kE (W.z.L.map aQ.c) W.z.cs t.root=some r/\It (W.z.L.map aQ.c) W.z.cs 12 0 0 r [] []=some q/\q.1≠[]/\∀p∈q.1,(bA (W.z.L.map aQ.c) p.i).kind=2/\gN (W.z.L.map aQ.c) W.z.cs p.i=some p.m:=by
 obtain⟨σ,hi⟩:=h.wr.inv
 have i0:=hi.inv
 have e1:σ.mm.nodes=W.z.L.map aQ.c:=by rw[hi.mm];rfl
 have e2:σ.mm.cs=W.z.cs:=by rw[hi.mm];rfl
 obtain⟨r,hr,hir⟩:=Wt i0 (hi.ts t ht)
 obtain⟨q,h1,h2,h3⟩:=cg i0 12 r [] (σ.nd r).gen 0 0 [] [] ⟨hir,rfl⟩ (by decide) (λ j hj=>nomatch hj)
 rw[e1,e2] at hr h1
 refine⟨r,q,hr,h1,h3,λ p hp=>?_⟩
 obtain⟨⟨v,_,k2,_⟩,k4⟩:=h2 p hp
 rw[e1,e2] at k4
 have e3:σ.nd p.i=bA (W.z.L.map aQ.c) p.i:=by rw[<- e1]
 rw[e3] at k2
 exact⟨k2,k4⟩
end
end Go.Proofs.YtbajmaoegmbfgaaGreat

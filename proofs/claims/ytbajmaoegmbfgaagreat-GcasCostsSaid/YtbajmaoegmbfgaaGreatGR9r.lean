/- The reference of views: the root of a trie, the main node of an I-node, in a proper state. -/
import Derived.Test.YtbajmaoegmbfgaaGreatGVw2
import Derived.Test.YtbajmaoegmbfgaaGreatGTape3
import Derived.Test.YtbajmaoegmbfgaaGreatGLe1
import Derived.Test.YtbajmaoegmbfgaaGreatGWr1
import Derived.Test.YtbajmaoegmbfgaaGreatR93
import Derived.Test.YtbajmaoegmbfgaaGreatGArN

set_option linter.unusedSimpArgs false
set_option linter.unusedVariables false
namespace Go.Proofs.YtbajmaoegmbfgaaGreat
section
open Go Go.RowKit Go.Ct
section
variable{L:List aP}{cs:List Int}{gen:Int}{pn pc:Option Addr}{cn cc:Nat}{w:World}
theorem Sg(hp:fY L cs gen)(hr:H5 L)(hl:L.length<=274877906944):y6 L cs:=by
 have hd:∀x:Int,Ds x L.length->x<=9223372036854775807:=λ x h=>by have:=h.2;omega
 refine⟨λ c=>?_,λ r=>?_,λ r=>?_,λ r=>?_,λ r=>?_,λ r=>?_,λ r=>?_⟩
 ·unfold bD
  split
  ·exact hd _ (hp.cells _ (by omega))
  ·decide
 ·unfold aB
  split
  ·exact hd _ (hp.nodes (r-1).toNat (by omega)).2.2.2.1
  ·decide
 ·unfold aB
  split
  ·exact hd _ (hp.nodes (r-1).toNat (by omega)).2.2.2.2.2
  ·decide
 ·unfold aB
  split
  ·exact(hr _ (fO (by omega))).main
  ·decide
 ·unfold aB
  split
  ·exact(hr _ (fO (by omega))).prev
  ·decide
 ·unfold aB
  split
  ·exact(hr _ (fO (by omega))).status
  ·decide
 ·unfold aB
  split
  ·intro b hb
   obtain⟨i,hi,rfl⟩:=List.mem_iff_getElem.1 hb
   have:=(hp.nodes (r-1).toNat (by omega)).2.2.1 i hi
   rw[jC,List.getElem?_eq_getElem hi] at this
   exact hd _ this
  ·intro b hb
   cases hb
theorem Y2(hp:fY L cs gen)(h:qT w L cs pn pc)(hr:H5 L)(hl:L.length<=274877906944)(hc:cs.length<=274877906944)(c:Int)(ro:Bool){r:Int}(ho:mP (L.map aP.c) cs c=some r)(hi:c<=9223372036854775807):Calls Tryz.prog 44 #[Iy L cs gen pn cn pc cc,.agg ⟨[.int .i64 c,.bool ro]⟩] w λ e w'=>e=.returned (.tuple #[.int .i64 r,.bool true])/\St w [] [] w':=by
 refine enter Tryz.func44 Tryz.ntmps44 rfl rfl h.start ?_
 simp only[cD]
 simp only[Iy]
 refine J0 ?_;refine bK (λ x2=>?_);refine bK (λ x3=>?_);refine J8 ?_;refine aS ?_;refine oC ?_;refine aD (c0 (V:=.bool) (hc:=λ w1 hw=>Pp (h.Cz hw) hr hl hc)) (λ x7 h7=>?_);refine oU ?_
 refine aZ (λ c8=>?_) (λ c8=>?_)
 ·rw[h7.2 hp] at c8;cases c8
 ·refine aX ?_;refine oC ?_;refine bP ?_;refine aN (cV (hc:=λ w1 hw=>px (h.Cz hw) (Sg hp hr hl) hl hc c ro hi)) (λ x11=>?_);refine J54 ?_;refine J8 ?_
  refine aY Tryz.results44 (λ w hw=>?_)
  exact⟨by rw[ho];rfl,hw.done⟩
end
end

/- Places of a trie of a world: there are some, each is an I-node with its main node. -/
section
open Go Go.RowKit Go.Ct
section
variable{H:ByteArray->Nat}{σ:Kw}{w:List Nat}{m g i:Int}
theorem K7{N:List Nv}{f:Int->List Int->List Int->Option (List Pl×List Pr)}{way idx:List Int}:∀(xs ys:List Int) (j:Nat) (s:List Int),yG N f way idx (xs++ys) j s=(yG N f way idx xs j s).bind λ p=>(yG N f way idx ys (j+xs.length) (s++p.1.map Pl.i)).map λ q=>(p.1++q.1,p.2++q.2)
 | [],ys,j,s=>by
  simp only[List.nil_append,yG,Option.bind_some,List.length_nil,Nat.add_zero,List.map_nil,List.append_nil]
  cases yG N f way idx ys j s<;>rfl
 | b::r,ys,j,s=>by
  have e:j+(b::r).length=j+1+r.length:=by simp only[List.length_cons];omega
  rw[e]
  simp only[List.cons_append,yG]
  split
  ·rw[K7 r ys (j+1) s]
   cases yG N f way idx r (j+1) s with
   | none=>rfl
   | some p=>simp only[Option.bind_some,Option.map_some];cases yG N f way idx ys (j+1+r.length) (s++p.1.map Pl.i)<;>rfl
  ·split
   ·cases f b (way++[idx.getD j 0]) s with
    | none=>rfl
    | some p =>
     simp only[Option.bind_some]
     rw[K7 r ys (j+1) (s++p.1.map Pl.i)]
     cases yG N f way idx r (j+1) (s++p.1.map Pl.i) with
     | none=>rfl
     | some q =>
      simp only[Option.bind_some,Option.map_some,List.map_append,<- List.append_assoc]
      cases yG N f way idx ys (j+1+r.length) (s++p.1.map Pl.i++q.1.map Pl.i)<;>simp
   ·rfl
def PlG(σ:Kw)(w:List Nat)(p:Pl):Prop:=Bel σ w p.i/\iN σ.mm.nodes σ.mm.cs p.i=some p.m
theorem Y8(i0:Inv H σ):∀(n:Nat) (i:Int) (w:List Nat) (g a:Int) (lv:Nat) (way s:List Int),uB σ i w g->12<=w.length+n->(∀j∈s,¬∃v,σ.way j=w++v)->∃q,Fl σ.mm.nodes σ.mm.cs n a lv i way s=some q/\(∀p∈q.1,PlG σ w p)/\q.1≠[]
 | 0,i,w,g,_,_,_,_,hi,hn,_=>by have:=(hi.Wu i0).2.2;omega
 | n+1,i,w,g,a,lv,way,s,hi,hn,hl=>by
  obtain⟨p,hp,hm⟩:=oz i0 hi
  have hbi:Bel σ w i:=⟨[],by rw[hi.1.2,List.append_nil],hi.1.1,by rw[hp];rfl⟩
  have hns:¬i∈s:=λ h=>hl i h ⟨[],by rw[hi.1.2,List.append_nil]⟩
  by_cases h3:(σ.nd p).kind=3
  ·have hc:=hm.Fy i0 h3
   have key:∀k,k<=64->∃q,yG σ.mm.nodes (λ b w s=>Fl σ.mm.nodes σ.mm.cs n i (lv+1) b w s) way (rV (σ.nd p).bm.toNat 64) (pT (qS (σ.nd p).bm.toNat (σ.nd p).xs) k) 0 (s++[i])=some q/\∀r∈q.1,∃k',k'<k/\PlG σ (w++[k']) r:=by
    intro k
    induction k with
    | zero=>intro _;exact⟨([],[]),rfl,λ j hj=>nomatch hj⟩
    | succ k ih =>
     intro hk
     obtain⟨q,h1,h2⟩:=ih (by omega)
     have up:∀r∈q.1,∃k',k'<k+1/\PlG σ (w++[k']) r:=λ r hr=>by obtain⟨k',h5,h6⟩:=h2 r hr;exact⟨k',by omega,h6⟩
     simp only[pT]
     rw[K7,h1,Option.bind_some]
     cases hmo:qS (σ.nd p).bm.toNat (σ.nd p).xs k with
     | none=>exact⟨q,by simp[yG],up⟩
     | some b =>
      rcases hc.br k (by omega) b hmo with hb|hb
      ·refine⟨(q.1,q.2++[((bH σ.mm.nodes b).key,(bH σ.mm.nodes b).val)]),?_,up⟩
       simp only[Option.toList,yG]
       rw[if_pos hb.1]
       simp
      ·have hbg:uB σ b (w++[k]) (σ.nd b).gen:=⟨⟨hb.1,hb.2.1⟩,rfl⟩
       obtain⟨q2,h5,h6,_⟩:=Y8 i0 n b (w++[k]) _ i (lv+1) (way++[(rV (σ.nd p).bm.toNat 64).getD (0+(pT (qS (σ.nd p).bm.toNat (σ.nd p).xs) k).length) 0]) (s++[i]++q.1.map Pl.i) hbg (by rw[List.length_append,List.length_singleton];omega) (λ j hj=>by
        rintro ⟨v,hv⟩
        rcases List.mem_append.1 hj with hj|hj
        ·rcases List.mem_append.1 hj with hj|hj
         ·exact hl j hj ⟨k::v,by rw[hv,List.append_assoc];rfl⟩
         ·rw[List.mem_singleton.1 hj,hi.1.2] at hv
          have:=congrArg List.length hv
          simp at this
        ·obtain⟨r,hr,rfl⟩:=List.mem_map.1 hj
         obtain⟨k',h5,⟨v',h6,_⟩,_⟩:=h2 r hr
         rw[h6] at hv
         have:=mn hv
         omega)
       refine⟨(q.1++q2.1,q.2++q2.2),?_,λ r hr=>?_⟩
       ·simp only[Option.toList,yG]
        rw[if_neg (by rw[hb.1];decide),if_pos hb.1,h5]
        simp
       ·rcases List.mem_append.1 hr with hr|hr
        ·exact up r hr
        ·exact⟨k,by omega,h6 r hr⟩
   obtain⟨q,h1,h2⟩:=key 64 (Nat.le_refl _)
   rw[hc.lof] at h1
   refine⟨(⟨i,p,a,lv,way⟩::q.1,q.2),by rw[ta hns hp (by rw[h3];decide),h1];rfl,λ r hr=>?_,by simp⟩
   rcases List.mem_cons.1 hr with rfl|hr
   ·exact⟨hbi,hp⟩
   ·obtain⟨k',_,h6,h7⟩:=h2 r hr
    exact⟨h6.up,h7⟩
  ·have hk:(bH σ.mm.nodes p).kind=5∨(bH σ.mm.nodes p).kind=6:=by
    have:bV (σ.nd p):=hm.1
    unfold bV at this
    have h3':¬(bH σ.mm.nodes p).kind=3:=h3
    have t2:(bH σ.mm.nodes p).kind=3∨(bH σ.mm.nodes p).kind=5∨(bH σ.mm.nodes p).kind=6:=this
    omega
   exact⟨_,Mh hns hp hk,λ r hr=>by rw[List.mem_singleton.1 hr];exact⟨hbi,hp⟩,by simp⟩
end
end

/- The reference of views: the places of a trie in a proper state; a place of a world. -/
section
open Go Go.RowKit Go.Ct
section
variable{L:List aP}{cs:List Int}{gen:Int}{pn pc:Option Addr}{cn cc:Nat}{w:World}
theorem Th(L:List aP)(r:Int):aB L r=aP.zero∨∃k,k<L.length/\aB L r=L.getD k aP.zero:=by
 unfold aB
 split
 ·exact .inr ⟨(r-1).toNat,by omega,rfl⟩
 ·exact .inl rfl
theorem Fa(hp:fY L cs gen)(hr:H5 L)(r:Int):∃b:Nat,b<18446744073709551616/\(aB L r).nd.bm=(b:Int)/\((aB L r).nd.kind=3->(aB L r).xs.length=gJ b 64):=by
 rcases Th L r with e|⟨k,hk,e⟩
 ·rw[e];exact⟨0,by decide,rfl,λ h=>absurd h (by decide)⟩
 ·rw[e]
  obtain⟨b,hb,hlt⟩:=(hr _ (fO hk)).bm
  refine⟨b,hlt,hb,λ h3=>?_⟩
  have:=(pY h3 (hp.nodes k hk).1).1
  rw[hb,pC hlt] at this
  omega
theorem Ss(hp:fY L cs gen){r:Int}(h:(aB L r).nd.kind≠3):(aB L r).xs=[]:=by
 rcases Th L r with e|⟨k,hk,e⟩
 ·rw[e];rfl
 ·rw[e] at h ⊢
  exact(hp.nodes k hk).1.1.2.2.2.2.1.trans (if_neg (by simpa using h))
theorem S8(hp:fY L cs gen)(hr:H5 L)(r:Int):(aB L r).xs.length<=64:=by
 by_cases h:(aB L r).nd.kind=3
 ·obtain⟨b,_,_,h3⟩:=Fa hp hr r
  rw[h3 h]
  exact vE _ _
 ·rw[Ss hp h];decide
theorem O8(hp:fY L cs gen)(hr:H5 L){B:Nat}(hB:∀v∈L,v.ys.length<=B)(hb:(L.length+1)*(B+64)<=549755813888):Few L B:=by
 refine⟨λ r=>⟨?_,S8 hp hr r⟩,hb⟩
 rcases Th L r with e|⟨k,hk,e⟩
 ·rw[e];exact Nat.zero_le _
 ·rw[e];exact hB _ (fO hk)
theorem il{B:Nat}{wp:Option Addr}{wc:Nat}{o:Option (List Pl×List Pr)}{x:Hz}(h:My L B wp wc [] o x):(o=none->x.ok=false)/\∀q,o=some q->x.ok=true/\x.l.map qD.p=q.1/\x.ps=q.2/\(x.own=false->(x.pp,cR x.ps)∈aM L)/\x.l.length<=L.length+1:=by
 refine⟨λ e=>?_,λ q e=>?_⟩
 ·subst e;exact h.2
 ·subst e
  obtain⟨h1,h2,h3,h4,h5,h6,h7⟩:=h.2
  refine⟨h1,h2,h3,h5,?_⟩
  have:=h6.len
  rw[List.nil_append,List.length_map,<- h2,List.length_map] at this
  exact this
theorem Gi(hp:fY L cs gen)(h:qT w L cs pn pc)(hr:H5 L)(hl:L.length<=274877906944)(hc:cs.length<=274877906944){B:Nat}(hB:∀v∈L,v.ys.length<=B)(hBl:(L.length+1)*(B+64)<=549755813888)(c:Int)(ro:Bool)(hi:c<=9223372036854775807){r:Int}(hrt:mP (L.map aP.c) cs c=some r){q:List Pl×List Pr}(hn:Fl (L.map aP.c) cs 12 0 0 r [] []=some q):Calls Tryz.prog 70 #[Iy L cs gen pn cn pc cc,.agg ⟨[.int .i64 c,.bool ro]⟩] w λ e w'=>∃x:Hz,e=.returned (.tuple #[.slice x.lp x.l.length x.lc,.slice x.pp x.ps.length x.pc,.bool true])/\(x.l.map qD.p=q.1/\x.l.length<=L.length+1)/\SF w [] [] [] x.fr [] w':=by
 have hb:=Sg hp hr hl
 obtain⟨k,rfl,hk⟩:=o5 hrt
 refine enter Tryz.func70 Tryz.ntmps70 rfl rfl h.start ?_
 simp only[cD]
 simp only[Iy]
 refine J0 ?_;refine bK (λ x2=>?_);refine bK (λ x3=>?_);refine eC (λ _=>?_);refine J8 ?_;refine oC ?_;refine bP ?_;refine aN (cV (hc:=λ w1 hw=>Y2 (gen:=gen) (cn:=cn) (cc:=cc) hp (h.Cz hw) hr hl hc c ro hrt hi)) (λ x14=>?_);refine Lc ?_;refine J8 ?_;refine kX ?_;refine oU ?_
 refine aZ (λ c18=>?_) (λ c18=>?_)
 ·exact nv c18
 ·refine kK ?_;refine dZ [(0,[]),(1,[]),(2,[]),(3,[]),(4,[]),(5,[]),(6,[]),(7,[0]),(8,[]),(9,[]),(10,[]),(11,[]),(12,[]),(13,[]),(14,[]),(15,[])] ?_;refine bN ?_;refine aT ?_;refine iT ?_;refine mI ?_;refine nV ?_;refine rv ?_;refine Nf (h:=λ x27=>?_);refine bB (i:=8) (hq:=(cM (hs:=[]) (os:=[qa L x27 (List.replicate (L.length+1) false)]) (hA:=bE.cons (.inr (.inl (.head _))) (bE.cons (.inr (.inl (.tail _ (.head _)))) (bE.cons (.inl rfl) (bE.of λ f hf=>.inr (.inl (.tail _ (.tail _ hf))))))) (hc:=λ w1 hs=>Oz h.fit hb hl hc (Fa hp hr) B x27 (O8 hp hr hB hBl) 12 0 rfl k 0 0 [] none 0 [] _ _ w1 hk rfl (Nat.le_refl _) (Vs.zero _) hs))) (h:=λ x28 h28=>?_);refine aT ?_;refine kA ?_;refine kA ?_;refine kA ?_;refine iK (h:=λ _=>?_);refine Qp ?_;refine kX ?_;refine oU ?_
  refine aZ (λ c33=>?_) (λ c33=>?_)
  ·exfalso;rw[((il h28).2 _ hn).1] at c33;simp at c33
  ·refine C6 ?_;refine eC (λ _=>?_);refine J8 ?_
   refine aY Tryz.results70 (λ w hw=>?_)
   obtain⟨h1,h2,h3,h4,h5⟩:=(il h28).2 _ hn
   rw[List.append_nil] at hw
   exact⟨x28,rfl,⟨h2,h5⟩,hw.aV (hF:=aW.all)⟩
end
open Classical in
theorem Bo{α:Type}:∀(l m:List α),l.Nodup->(∀a∈l,a∈m)->l.length<=m.length
 | [],_,_,_=>Nat.zero_le _
 | a::l,m,hn,hs=>by
  have hn:=List.nodup_cons.1 hn
  have ha:=hs a (List.mem_cons_self ..)
  have:=Bo l (m.erase a) hn.2 λ b hb=>by
   have hb2:=hs b (List.mem_cons_of_mem _ hb)
   exact(List.mem_erase_of_ne (λ e=>hn.1 (by rw[<- e];exact hb))).2 hb2
  rw[List.length_erase_of_mem ha] at this
  have:=List.length_pos_of_mem ha
  simp only[List.length_cons]
  omega
theorem I7{m B C E:Nat}{W:Wd}(h:Kx m B C E W):∀v∈W.z.L,v.ys.length<=8:=by
 obtain⟨σ,hi⟩:=h.wr.inv
 have i0:=hi.inv
 have e1:σ.mm.nodes=W.z.L.map aP.c:=by rw[hi.mm];rfl
 have hl:σ.len=W.z.L.length:=by show σ.mm.nodes.length=_;rw[e1,List.length_map]
 intro v hv
 obtain⟨k,hk,rfl⟩:=List.mem_iff_getElem.1 hv
 have hn:=i0.nd ((k+1:Nat):Int) (by omega) (by omega)
 have e:σ.nd ((k+1:Nat):Int)=(W.z.L[k]).c:=by
  simp only[Kw.nd]
  rw[e1,cS,vZ hk,jC,List.getElem?_eq_getElem hk]
  rfl
 have hy:(σ.nd ((k+1:Nat):Int)).ys=(W.z.L[k]).ys:=by rw[e];rfl
 rw[<- hy]
 have hval:=hn.valid
 by_cases h6:(σ.nd ((k+1:Nat):Int)).kind=6
 ·have hk6:=hn.k6 h6
  obtain⟨b,hb,hblt⟩:=hn.bd.hash
  have hasc:SA (σ.nd ((k+1:Nat):Int)).ys:=by
   have:=hval.2.2.2.2
   have h6':(σ.nd ((k+1:Nat):Int)).nd.kind=6:=h6
   rcases this with h|h|h|h|h|h|h
   ·omega
   ·omega
   ·omega
   ·omega
   ·exact mV.1 h.2.2.1
   ·omega
   ·omega
  have hnd:((σ.nd ((k+1:Nat):Int)).ys.map Prod.fst).Nodup:=by
   unfold List.Nodup
   rw[List.pairwise_map]
   exact hasc.imp λ{a b} hab e=>by rw[e,oT] at hab;cases hab
  have:=Bo _ kO hnd λ q hq=>by
   obtain⟨p,hp,rfl⟩:=List.mem_map.1 hq
   exact(sv (hk6.2.2.1 p hp) (by omega)).1
  rw[List.length_map] at this
  exact this
 ·have:(σ.nd ((k+1:Nat):Int)).ys=[]:=hval.1.2.2.2.2.2.2.2.2.1.trans (if_neg (by have h7:¬(σ.nd ((k+1:Nat):Int)).nd.kind=6:=h6;simpa using h7))
  rw[this];decide
theorem Dd{m B C E:Nat}{W:Wd}(h:Kx m B C E W){t:fG}(ht:t∈W.ts):∃r q,mP (W.z.L.map aP.c) W.z.cs t.root=some r/\Fl (W.z.L.map aP.c) W.z.cs 12 0 0 r [] []=some q/\q.1≠[]/\∀p∈q.1,(bH (W.z.L.map aP.c) p.i).kind=2/\iN (W.z.L.map aP.c) W.z.cs p.i=some p.m:=by
 obtain⟨σ,hi⟩:=h.wr.inv
 have i0:=hi.inv
 have e1:σ.mm.nodes=W.z.L.map aP.c:=by rw[hi.mm];rfl
 have e2:σ.mm.cs=W.z.cs:=by rw[hi.mm];rfl
 obtain⟨r,hr,hir⟩:=po i0 (hi.ts t ht)
 obtain⟨q,h1,h2,h3⟩:=Y8 i0 12 r [] (σ.nd r).gen 0 0 [] [] ⟨hir,rfl⟩ (by decide) (λ j hj=>nomatch hj)
 rw[e1,e2] at hr h1
 refine⟨r,q,hr,h1,h3,λ p hp=>?_⟩
 obtain⟨⟨v,_,k2,_⟩,k4⟩:=h2 p hp
 rw[e1,e2] at k4
 have e3:σ.nd p.i=bH (W.z.L.map aP.c) p.i:=by rw[<- e1]
 rw[e3] at k2
 exact⟨k2,k4⟩
end

/- Lists of things of some cells each. -/
end Go.Proofs.YtbajmaoegmbfgaaGreat
namespace Go.Ct
section
open Go Go.RowKit
section
variable{w0 w w':World}{M:List Nat}{H:List (Nat×Obj)}{A F:Fr}{O:List Ow}
variable{P:Program}{S:List (Nat×Value)}{G:World->Prop}{d:Nat}{ty:TypeId}{pos:String}{af:Array Edge}{gd:Option (Nat×Bool)}{x y:Operand}{t t2 e:TypeId}{p a:Option Addr}{i m k c c2 sz:Nat}
variable{α:Type}{g:α->List Value}{z:α}
theorem C4(hg:∀x,(g x).length=sz):∀l:List α,(l.flatMap g).length=sz*l.length
 | []=>by simp
 | x::r=>by
  have:=C4 hg r
  simp only[List.flatMap_cons,List.length_append,List.length_cons,this,hg,Nat.mul_add,Nat.mul_one]
  omega
theorem Lr(hg:∀x,(g x).length=sz):∀{l:List α} {k j:Nat},k<l.length->j<sz->(l.flatMap g)[sz*k+j]?=(g (l.getD k z))[j]?
 | [],_,_,h,_=>by simp at h
 | n::r,0,j,_,hj=>by
  simp only[List.flatMap_cons,Nat.mul_zero,Nat.zero_add,List.getD_cons_zero]
  rw[List.getElem?_append_left (by rw[hg];exact hj)]
 | n::r,k+1,j,h,hj=>by
  have:=Lr hg (l:=r) (k:=k) (j:=j) (by simpa using h) hj
  simp only[List.flatMap_cons,List.getD_cons_succ]
  rw[List.getElem?_append_right (by rw[hg,Nat.mul_add];omega),<- this,hg]
  congr 1
  rw[Nat.mul_add]
  omega
theorem Nt{lst:List α}{kk:IntKind}(hg:∀x,(g x).length=sz)(h0:0<sz)(hx:ev S x=.slice a m c)(hy:ev S y=.int kk ((k:Nat):Int))(ht:P.underlying t=some (.slice e))(hs:jM P e sz=true)(hf:pK A F O a (lst.flatMap g))(h1:k<m)(h2:k<lst.length) :
  aL P S (SF w0 M H A F O) ⟨some d,.indexAddr t x y,ty,pos,af,gd⟩ (.pointer (some ⟨cJ a,eA a+sz*k,none⟩)):=⟨λ w hw=>by
 obtain⟨_,_,_,hsz⟩:=gW hs
 have ha:=(hw.cl hf).ptr (by rw[C4 hg];exact Nat.mul_pos h0 (by omega))
 have:=wY (P:=P) (a:=a) (m:=m) (c:=c) (k:=kk) ht hsz ha (i:=(k:Int)) (by omega) (by omega) w
 simp only[Int.toNat_natCast,Nat.mul_comm k sz] at this
 simp[execOp,hx,hy,this]⟩
theorem oq{lst:List α}{q:Nat}(z:α)(hg:∀x,(g x).length=sz)(hx:ev S x=.pointer (some ⟨cJ a,eA a+sz*q,none⟩))(ht:jM P t sz=true)(hf:pK A F O a (lst.flatMap g))(hq:q<lst.length) :
  aL P S (SF w0 M H A F O) ⟨some d,.load t x,ty,pos,af,gd⟩ (.agg ⟨g (lst.getD q z)⟩):=⟨λ w hw=>by
 have hcl:=hw.cl hf
 obtain⟨dd,hu,hm,hi⟩:=gW ht
 have hagg:(isAgg t).run P w=.ok true w:=by
  unfold isAgg
  rw[Sem.run_bind,run_underlying hu w]
  cases dd<;>simp_all
 have hl:(loadCells ⟨cJ a,eA a+sz*q,none⟩ sz).run P w=.ok ⟨g (lst.getD q z)⟩ w:=by
  have:=run_loadCells_list (P:=P) w ⟨cJ a,eA a+sz*q,none⟩ (g (lst.getD q z)) (λ j u hz=>by
   have hj:j<sz:=by rw[<- hg (lst.getD q z)];exact(List.getElem?_eq_some_iff.1 hz).1
   rw[Addr.add_lit]
   have h3:=(hcl.at_ (sz*q+j) u (by rw[Lr hg hq hj];exact hz)).2
   rwa [<- Nat.add_assoc] at h3)
  rwa [hg] at this
 cases hq':P.info? t with
 | none=>rw[hq'] at hi;simp at hi
 | some i =>
  have hs:i.size=sz:=by rw[hq'] at hi;simpa using hi
  simp[execOp,hx,Instr.loadAt,Instr.sureAddr,loadVar,hagg,Go.sizeOf,typeInfo,hq',hs,hl]⟩
theorem jj{lst:List α}{q j:Nat}{v:Value}(z:α)(hg:∀x,(g x).length=sz)(hx:ev S x=.pointer (some ⟨cJ a,eA a+sz*q+j,none⟩))(ht:one P t=true)(hj:j<sz)(hv:(g (lst.getD q z))[j]?=some v)(hf:pK A F O a (lst.flatMap g))(hq:q<lst.length) :
  aL P S (SF w0 M H A F O) ⟨some d,.load t x,ty,pos,af,gd⟩ v:=nL (q:=sz*q+j) (by rw[hx];simp only[Nat.add_assoc]) ht (λ w hw=>hw.cl hf) (by rw[Lr (z:=z) hg hq hj];exact hv)
end
end

/- The reference: whether a trie has anything that is pending. -/
end Go.Ct
namespace Go.Proofs.YtbajmaoegmbfgaaGreat
section
open Go Go.RowKit Go.Ct
def vt(N:List Nv)(cs:List Int)(i:Int):Prop:=bD cs (bH N (bD cs (bH N i).main)).prev=0
abbrev Wy:qD:=⟨⟨0,0,0,0,[]⟩,none,0⟩
theorem aAO{L:List aP}{cs:List Int}{i:Int}(h:bD cs (aB L (bD cs (aB L i).nd.main)).nd.prev=0):vt (L.map aP.c) cs i:=by
 unfold vt
 rw[<- qL,<- qL]
 exact h
theorem y9{l:List qD}{q:List Pl}{P:Int->Prop}(e:l.map qD.p=q)(h:∀j,j<l.length->P (l.getD j Wy).p.i):∀p∈q,P p.i:=λ p hp=>by
 rw[<- e] at hp
 obtain⟨v,hv,rfl⟩:=List.mem_map.1 hp
 obtain⟨j,hj,rfl⟩:=List.mem_iff_getElem.1 hv
 have:=h j hj
 rw[jC,List.getElem?_eq_getElem hj] at this
 exact this
theorem qk{x:Int}(h:(x==2)=true):x=2:=by simpa using h
section
variable{w:World}{L:List aP}{cs:List Int}{gen:Int}{pn pc:Option Addr}{cn cc:Nat}
theorem aa(hp:fY L cs gen)(h:qT w L cs pn pc)(hr:H5 L)(hl:L.length<=274877906944)(hc:cs.length<=274877906944){B:Nat}(hB:∀v∈L,v.ys.length<=B)(hBl:(L.length+1)*(B+64)<=549755813888)(c:Int)(ro:Bool)(hi:c<=9223372036854775807){r:Int}(hrt:mP (L.map aP.c) cs c=some r){q:List Pl×List Pr}(hn:Fl (L.map aP.c) cs 12 0 0 r [] []=some q)(hq:∀p∈q.1,p.i<=L.length) :
  Calls Tryz.prog 40 #[Iy L cs gen pn cn pc cc,.agg ⟨[.int .i64 c,.bool ro]⟩] w λ e w'=>∃b:Bool,e=.returned (.bool b)/\(b=true->(∀p∈q.1,vt (L.map aP.c) cs p.i)/\(bH (L.map aP.c) (bD cs c)).kind=2)/\St w [] [] w':=by
 have hb:=Sg hp hr hl
 refine enter Tryz.func40 Tryz.ntmps40 rfl rfl h.start ?_
 simp only[cD]
 simp only[Iy]
 refine J0 ?_;refine bK (λ x2=>?_);refine bK (λ x3=>?_);refine J1 ?_;refine oC ?_;refine bP ?_;refine aD (Rb (V:=λ x:Hz=>.tuple #[.slice x.lp x.l.length x.lc,.slice x.pp x.ps.length x.pc,.bool true]) (Hc:=λ _=>[]) (Fc:=λ x=>x.fr) (F1:=λ x=>x.fr) (Oc:=λ _=>[]) (hF1:=λ x=>List.append_nil _) (hc:=λ w1 hw=>Gi hp (h.Cz hw) hr hl hc hB hBl c ro hi hrt hn)) (λ x13 h13=>?_)
 obtain⟨hx1,hx2⟩:=h13
 have hin:∀k,k<x13.l.length->(x13.l.getD k Wy).p∈q.1:=λ k hk=>by rw[<- hx1,List.mem_map];exact⟨x13.l.getD k Wy,by rw[jC,List.getElem?_eq_getElem hk];exact List.getElem_mem _,rfl⟩
 refine Lc ?_;refine rZ ?_;refine eC (λ _=>?_);refine J8 ?_;refine aS ?_;refine Dn ?_
 refine oI [7,8,9,17,18,19,20,21,22,23,24,25,26,27,28,29,30,31,32,33,34,35,36,37,38,39,40,41,42] (λ y:Nat×Bool=>[(8,.int .i64 ((y.1:Nat):Int)),(7,.bool y.2)]) (λ y=>y.1<=x13.l.length/\(y.2=true->∀j,j<y.1->vt (L.map aP.c) cs (x13.l.getD j Wy).p.i)) (λ _=>_) (λ _=>x13.fr) (λ _=>_) (λ y=>x13.l.length-y.1) ((0,true)) (⟨Nat.zero_le _,λ _ j hj=>absurd hj (Nat.not_lt_zero j)⟩) (λ y f hx=>?_) (hw0:=λ w hw=>hw.back (hH:=by exact List.Sublist.refl _) (hF:=by exact aW.all) (hO:=by exact List.Sublist.refl _))
 dsimp only[iA,List.map,List.cons_append,List.nil_append]
 obtain⟨hy1,hy2⟩:=hx
 refine A6 ?_;refine dJ ?_;refine Az ?_
 (refine dX 21 (λ g21=>?_) (λ g21=>?_)<;>(first|refine aI ?_|(refine aE ?_;refine aA ?_)))
 all_goals (refine bY ?_;refine aH ?_)
 all_goals
 refine aZ (λ c23=>?_) (λ c23=>?_)
 ·try exact nv c23
  all_goals (refine rR ?_;refine aS ?_;refine dZ [(0,[]),(1,[]),(2,[]),(3,[]),(4,[]),(5,[]),(6,[]),(7,[0]),(8,[]),(9,[]),(10,[])] ?_;refine bN ?_;refine bN ?_;refine gV ?_;refine bU (i:=4) (hq:=(Nt (lst:=x13.l) (g:=qD.cells) (sz:=5) (k:=y.1) (λ _=>rfl) (by decide) rf rf gA eP (.new (zF.oM (List.mem_cons_self ..))) (by omega) (by omega))) (h:=?_);refine aU ?_;refine bU (i:=6) (hq:=(jj (lst:=x13.l) (g:=qD.cells) (sz:=5) (q:=y.1) (j:=0) Wy (λ _=>rfl) rf (by exact El rfl) (by decide) rfl (.new (zF.oM (List.mem_cons_self ..))) (by omega))) (h:=?_);refine cL (i:=7) (hq:=(cV (hc:=λ w1 hw=>mT (gen:=gen) (cn:=cn) (cc:=cc) (h.Cz hw) _ (by have:=hq _ (hin y.1 (by omega));omega) hl))) (h:=λ x33=>?_);refine kZ ?_;refine cL (i:=9) (hq:=(cV (hc:=λ w1 hw=>tF (gen:=gen) (cn:=cn) (cc:=cc) (h.Cz hw) _ (hb.main _) hc))) (h:=λ x35=>?_);refine J7 ?_;refine dZ [(0,[]),(1,[]),(2,[]),(3,[0]),(4,[]),(5,[]),(6,[]),(7,[])] ?_;refine bN ?_;refine bN ?_;refine aT ?_;refine cL (i:=3) (hq:=(cV (hc:=λ w1 hw=>mT (gen:=gen) (cn:=cn) (cc:=cc) (h.Cz hw) _ (hb.cs _) hl))) (h:=λ x39=>?_);refine kZ ?_;refine cL (i:=5) (hq:=(cV (hc:=λ w1 hw=>tF (gen:=gen) (cn:=cn) (cc:=cc) (h.Cz hw) _ (hb.prev _) hc))) (h:=λ x41=>?_);refine mR ?_;refine J7 ?_;refine fF ?_;refine uT ?_)
  all_goals
   refine jG ((y.1+1,decide (bD cs (aB L (bD cs (aB L (x13.l.getD y.1 Wy).p.i).nd.main)).nd.prev=0))) ?_ (hw1:=λ w hw=>hw.back (hH:=by exact List.Sublist.refl _) (hF:=by exact aW.all) (hO:=by exact List.Sublist.refl _))
   ·refine⟨by show y.1+1<=_;omega,λ hd j hj=>?_⟩
    replace hj:j<y.1+1:=hj
    rcases Nat.lt_or_ge j y.1 with h1|h1
    ·exact hy2 c23 j h1
    ·rw[show j=y.1 by omega]
     exact aAO (of_decide_eq_true hd)
 ·all_goals (refine bR rfl ?_;refine aS ?_;refine dZ [(0,[]),(1,[]),(2,[]),(3,[]),(4,[]),(5,[]),(6,[2]),(7,[]),(8,[]),(9,[]),(10,[]),(11,[])] ?_;refine gV ?_)
  all_goals ((refine n6 44 (λ g44=>?_) (λ g44=>?_)<;>(first|refine fT ?_|(refine bN ?_))))
  all_goals ((first|refine fT ?_|(refine bN ?_));refine zn ?_;(first|refine fT ?_|(refine cL (i:=6) (hq:=(cV (hc:=λ w1 hw=>tF (gen:=gen) (cn:=cn) (cc:=cc) (h.Cz hw) _ hi hc))) (h:=λ x49=>?_)));(first|refine fT ?_|(refine cL (i:=7) (hq:=(cV (hc:=λ w1 hw=>mT (gen:=gen) (cn:=cn) (cc:=cc) (h.Cz hw) _ (hb.cs _) hl))) (h:=λ x50=>?_)));(first|refine fT ?_|(refine kZ ?_));refine yw ?_;refine J7 ?_)
  all_goals
   refine aQ Tryz.results40 (λ w hw=>?_)
   first
   | exact absurd (c23.symm.trans g44) (by decide)
   | exact⟨false,rfl,(λ h=>nomatch h),hw.done⟩
   | exact⟨_,rfl,λ hb=>⟨y9 hx1 λ j hj=>hy2 g44 j (by omega),by rw[<- qL];exact qk hb⟩,hw.done⟩
end
end

end Go.Proofs.YtbajmaoegmbfgaaGreat

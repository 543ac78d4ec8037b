/- Merged. -/
import Derived.Test.YtbajmaoegmbfgaaGreatGBr5
import Derived.Test.YtbajmaoegmbfgaaGreatGKx3
import Derived.Test.YtbajmaoegmbfgaaGreatGWf1
import Derived.Test.YtbajmaoegmbfgaaGreatGTape3
import Derived.Test.YtbajmaoegmbfgaaGreatGWo6
set_option linter.unusedSimpArgs false
set_option linter.unusedVariables false
namespace Go.Ct
open Go Go.RowKit
section
def Pv(h:Nat)(a:ByteArray)(k:Nat)(b:ByteArray):Bool:=if kZ h k<11 then decide (sl h (kZ h k)<sl k (kZ h k)) else cZ a b
end
end Go.Ct
namespace Go.Proofs.YtbajmaoegmbfgaaGreat
open Go.Proofs.Tryz
section
open Go Go.RowKit Go.Ct
end
section
open Go.RowKit Go.Ct
section
variable{H:ByteArray->Nat}{σ:Kw}{i m p g:Int}{w:List Nat}{t:dV}
theorem L5(i0:Inv H σ)(hi:qP σ i w g):∃p,gZ σ.mm.nodes σ.mm.cs i=some p/\oS σ p w g:=by
 have hm:=hi.rb i0;have hc:=i0.kK hm.1;have hp:=(i0.ce _ hc.1 hc.2.1).prev _ hc.2.2;have e1:wT σ.mm.nodes σ.mm.cs i=σ.ce (σ.nd i).main:=rfl;have e2:oY σ.mm.nodes σ.mm.cs i=σ.ce (σ.nd (σ.ce (σ.nd i).main)).prev:=rfl;have e3:zB σ.mm.nodes σ.mm.cs i=if(σ.nd (oY σ.mm.nodes σ.mm.cs i)).kind=7 then(σ.nd (oY σ.mm.nodes σ.mm.cs i)).bR else oY σ.mm.nodes σ.mm.cs i:=rfl;unfold gZ;rw[if_pos ⟨hi.1.1,by rw[e1];exact hm.1⟩];have key:∀q,qW σ (σ.ce (σ.nd i).main) q->oS σ q w g:=λ q hq=>by have:=hq.1;rw[hm.2.1] at this;exact this.le hm.2.2
 by_cases h0:oY σ.mm.nodes σ.mm.cs i=0;·rw[if_pos h0,e1];exact⟨_,rfl,hm⟩
 ·rw[if_neg h0,e3];rw[e2] at h0 ⊢;rcases hp.2 with h|h|h;·exact absurd h h0
  ·have hk:=h.1.1;rw[if_neg (cB.ne0 hk).2.1,if_pos hk];exact⟨_,rfl,key _ h⟩
  ·rw[if_pos h.1,if_pos h.2.1.1];exact⟨_,rfl,key _ h.2⟩
theorem Wz(i0:Inv H σ)(hT:bX σ t):∃r,lG σ.mm.nodes σ.mm.cs t.root=some r/\uV σ r []:=by
 have hv:=(oz hT i0).2;have e:sB σ.mm.nodes σ.mm.cs t.root=if(σ.nd (σ.ce t.root)).kind=8 then(if σ.ce (σ.nd (σ.ce t.root)).status=1 then(σ.nd (σ.ce t.root)).new else(σ.nd (σ.ce t.root)).bR) else σ.ce t.root:=rfl;have key:∀r,sB σ.mm.nodes σ.mm.cs t.root=r->uV σ r []->∃r,lG σ.mm.nodes σ.mm.cs t.root=some r/\uV σ r []:=λ r er hr=>⟨r,by unfold lG;rw[er];exact if_pos hr.1,hr⟩;rcases hv with h|h
 ·exact key _ (e.trans (if_neg (by rw[h.1];decide))) h
 ·have hd:=i0.desc h.1;by_cases hs:σ.ce (σ.nd (σ.ce t.root)).status=1;·exact key _ (e.trans ((if_pos h.1).trans (if_pos hs))) hd.2.2.1
  ·exact key _ (e.trans ((if_pos h.1).trans (if_neg hs))) hd.2.1
theorem oS.w6(i0:Inv H σ)(h:oS σ m w g)(h3:(σ.nd m).kind≠3):(σ.nd m).xs=[]:=by have hn:=i0.nd m h.in.1 h.in.2;have he:(σ.nd m).xs=(σ.nd m).nd.jR (σ.nd m).xs:=congrArg Nv.xs (xP.1 hn.valid.1);rw[he];unfold Nd.jR;exact if_neg (by simpa[Nv.nd] using h3)
theorem nJ.lof{b:Nat}{xs:List Int}(h:nJ σ m w g b xs):oC (nY b xs) 64=xs:=(Uu h.bv).2
def Bel(σ:Kw)(w:List Nat)(j:Int):Prop:=∃v,σ.way j=w++v/\(σ.nd j).kind=2/\(gZ σ.mm.nodes σ.mm.cs j).isSome=true
theorem Bel.up{k:Nat}{j:Int}(h:Bel σ (w++[k]) j):Bel σ w j:=by obtain⟨v,h1,h2⟩:=h;exact⟨k::v,by rw[h1,List.append_assoc];rfl,h2⟩
theorem y7{a b:Nat}{w u v:List Nat}(h:w++[a]++u=w++[b]++v):a=b:=by rw[List.append_assoc,List.append_assoc] at h;have:=List.append_cancel_left h;simpa using(List.cons.inj this).1
def PLt(H:ByteArray->Nat)(p q:Pr):Prop:=Pv (H p.1) p.1 (H q.1) q.1=true
theorem yr{a b:Nat}{ka kb:ByteArray}{k l:Nat}(ha:fQ a (w++[k]))(hb:fQ b (w++[l]))(hw:w.length<=10)(hkl:k<l):Pv a ka b kb=true:=by
 have e1:∀j,j<w.length->sl a j=sl b j:=λ j hj=>by rw[sU ha j hj,sU hb j hj]
 have e2:sl a w.length=k:=by have:=ha w.length (by simp);rw[this];simp[jA]
 have e3:sl b w.length=l:=by have:=hb w.length (by simp);rw[this];simp[jA]
 have ec:w.length=kZ a b:=Uz (by omega) e1 (λ _=>by omega);unfold Pv;rw[<- ec,if_pos (by omega),e2,e3];exact decide_eq_true hkl
theorem qu{h:Nat}{ka kb:ByteArray}(hs:cZ ka kb=true):Pv h ka h kb=true:=by have:kZ h h=11:=(Uz (l:=11) (by decide) (λ _ _=>rfl) (λ h=>absurd h (by decide))).symm;unfold Pv;rw[this,if_neg (by decide)];exact hs
theorem M4(i0:Inv H σ):∀(n:Nat) (i:Int) (w:List Nat) (g:Int),qP σ i w g->(∀p∈Mh σ.mm.nodes σ.mm.cs n i,fQ (H p.1) w/\H p.1<18446744073709551616)/\(Mh σ.mm.nodes σ.mm.cs n i).Pairwise (PLt H)
 | 0,i,w,g,hi=>⟨(λ p hp=>nomatch hp),List.Pairwise.nil⟩
 | n+1,i,w,g,hi=>by
  obtain⟨p,hp,hm⟩:=L5 i0 hi;unfold Mh;rw[hp];show(∀q∈sJ (σ.nd p)++nC σ.mm.nodes (Mh σ.mm.nodes σ.mm.cs n) (σ.nd p).xs,_)/\(sJ (σ.nd p)++nC σ.mm.nodes (Mh σ.mm.nodes σ.mm.cs n) (σ.nd p).xs).Pairwise _;rcases hm.1 with h3|h5|h6
  ·have hc:=hm.qT i0 h3;have ho:sJ (σ.nd p)=[]:=by unfold sJ;rw[if_neg (by omega),if_neg (by omega)]
   rw[ho,List.nil_append];have key:∀k,k<=64->(∀q∈nC σ.mm.nodes (Mh σ.mm.nodes σ.mm.cs n) (oC (nY (σ.nd p).bm.toNat (σ.nd p).xs) k),(∃k',k'<k/\fQ (H q.1) (w++[k']))/\H q.1<18446744073709551616)/\(nC σ.mm.nodes (Mh σ.mm.nodes σ.mm.cs n) (oC (nY (σ.nd p).bm.toNat (σ.nd p).xs) k)).Pairwise (PLt H):=by
    intro k;induction k with
    | zero=>intro _;exact⟨λ q hq=>by simp[oC,nC] at hq,by simp[oC,nC]⟩
    | succ k ih=>
     intro hk;obtain⟨h1,h2⟩:=ih (by omega);simp only[oC];rw[Pq];have hnew:∀q∈nC σ.mm.nodes (Mh σ.mm.nodes σ.mm.cs n) (nY (σ.nd p).bm.toNat (σ.nd p).xs k).toList,fQ (H q.1) (w++[k])/\H q.1<18446744073709551616:=by
      intro q hq;cases hmo:nY (σ.nd p).bm.toNat (σ.nd p).xs k with
      | none=>rw[hmo] at hq;simp[nC] at hq
      | some b=>
       rw[hmo] at hq;simp only[Option.toList,nC,List.append_nil] at hq;rcases hc.br k (by omega) b hmo with hb|hb;·rw[if_pos hb.1] at hq;rw[List.mem_singleton.1 hq];have hlf:=i0.leaf (.inl hb.1);have e:H (σ.nd b).key=(σ.nd b).hash.toNat:=hlf.ha;exact⟨by show fQ (H (σ.nd b).key) _;rw[e];exact hb.2,by show H (σ.nd b).key<_;rw[e];exact hlf.hl⟩
       ·rw[if_neg (by rw[hb.1];decide)] at hq;exact(M4 i0 n b (w++[k]) _ ⟨⟨hb.1,hb.2.1⟩,rfl⟩).1 q hq
     have hpw:(nC σ.mm.nodes (Mh σ.mm.nodes σ.mm.cs n) (nY (σ.nd p).bm.toNat (σ.nd p).xs k).toList).Pairwise (PLt H):=by
      cases hmo:nY (σ.nd p).bm.toNat (σ.nd p).xs k with
      | none=>simp[nC]
      | some b=>
       simp only[Option.toList,nC,List.append_nil];rcases hc.br k (by omega) b hmo with hb|hb;·rw[if_pos hb.1];exact List.pairwise_singleton _ _
       ·rw[if_neg (by rw[hb.1];decide)];exact(M4 i0 n b (w++[k]) _ ⟨⟨hb.1,hb.2.1⟩,rfl⟩).2
     refine⟨λ q hq=>?_,List.pairwise_append.2 ⟨h2,hpw,λ a ha b hb=>?_⟩⟩
     ·rcases List.mem_append.1 hq with hq|hq;·obtain⟨⟨k',h3,h4⟩,h5⟩:=h1 q hq;exact⟨⟨k',by omega,h4⟩,h5⟩
      ·exact⟨⟨k,by omega,(hnew q hq).1⟩,(hnew q hq).2⟩
     ·obtain⟨⟨k',h3,h4⟩,_⟩:=h1 a ha;exact yr h4 (hnew b hb).1 hc.wl h3
   obtain⟨h1,h2⟩:=key 64 (Nat.le_refl _);rw[hc.lof] at h1 h2;exact⟨λ q hq=>by obtain⟨⟨k',_,h4⟩,h5⟩:=h1 q hq;exact⟨sU h4,h5⟩,h2⟩
  ·have ho:sJ (σ.nd p)=[((σ.nd p).key,(σ.nd p).val)]:=by unfold sJ;rw[if_pos h5]
   rw[ho,hm.w6 i0 (by omega)];have hlf:=i0.leaf (.inr h5);have e:H (σ.nd p).key=(σ.nd p).hash.toNat:=hlf.ha;have hu:=((i0.nd p hm.in.1 hm.in.2).k5 h5).2.2.2.1;rw[hm.2.1] at hu;refine⟨λ q hq=>?_,List.pairwise_singleton _ _⟩;have hq':q=((σ.nd p).key,(σ.nd p).val):=by simpa[nC] using hq
   rw[hq'];exact⟨by show fQ (H (σ.nd p).key) _;rw[e];exact hu,by show H (σ.nd p).key<_;rw[e];exact hlf.hl⟩
  ·have ho:sJ (σ.nd p)=(σ.nd p).ys:=by unfold sJ;rw[if_neg (by omega),if_pos h6]
   rw[ho,hm.w6 i0 (by omega)];have hln:=hm.Xq i0 h6;refine⟨λ q hq=>?_,?_⟩
   ·have hq':q∈(σ.nd p).ys:=by simpa[nC] using hq
    rw[hln.ha q hq'];exact⟨hln.un,hln.hl⟩
   ·simp only[nC,List.append_nil];exact hln.sa.imp_of_mem λ ha hb hs=>by unfold PLt;rw[hln.ha _ ha,hln.ha _ hb];exact qu hs
end
end
section
open Go Go.RowKit Go.Ct
section
variable{L:List aR}{cs:List Int}{gen:Int}{pn pc:Option Addr}{cn cc:Nat}{w:World}
theorem nl(hp:fW L cs gen)(hr:Kc L)(hl:L.length<=274877906944):StB L cs:=by
 have hd:∀x:Int,E3 x L.length->x<=9223372036854775807:=λ x h=>by have:=h.2;omega
 refine⟨λ c=>?_,λ r=>?_,λ r=>?_,λ r=>?_,λ r=>?_,λ r=>?_,λ r=>?_⟩
 ·unfold bJ;split;·exact hd _ (hp.cells _ (by omega))
  ·decide
 ·unfold aB;split;·exact hd _ (hp.nodes (r-1).toNat (by omega)).2.2.2.1
  ·decide
 ·unfold aB;split;·exact hd _ (hp.nodes (r-1).toNat (by omega)).2.2.2.2.2
  ·decide
 ·unfold aB;split;·exact(hr _ (fZ (by omega))).main
  ·decide
 ·unfold aB;split;·exact(hr _ (fZ (by omega))).prev
  ·decide
 ·unfold aB;split;·exact(hr _ (fZ (by omega))).status
  ·decide
 ·unfold aB;split;·intro b hb;obtain⟨i,hi,rfl⟩:=List.mem_iff_getElem.1 hb;have:=(hp.nodes (r-1).toNat (by omega)).2.2.1 i hi;rw[jA,List.getElem?_eq_getElem hi] at this;exact hd _ this
  ·intro b hb;cases hb
theorem dz(hp:fW L cs gen)(h:rQ w L cs pn pc)(hr:Kc L)(hl:L.length<=274877906944)(hc:cs.length<=274877906944)(c:Int)(ro:Bool){r:Int}(ho:lG (L.map aR.c) cs c=some r)(hi:c<=9223372036854775807):Calls prog 44 #[Lv L cs gen pn cn pc cc,.agg ⟨[.int .i64 c,.bool ro]⟩] w λ e w'=>e=.returned (.tuple #[.int .i64 r,.bool true])/\St w [] [] w':=by
 refine enter func44 ntmps44 rfl rfl h.start ?_;simp only[cC];simp only[Lv];refine K1k ?_;intro x2;refine bL (λ x3=>?_);refine J8 ?_;refine aV ?_;refine nG ?_;refine aD (c0 (V:=.bool) (hc:=λ w1 hw=>Qp (h.Kx hw) hr hl hc)) (λ x7 h7=>?_);refine oD ?_;refine bD (λ c8=>?_) (λ c8=>?_);·rw[h7.2 hp] at c8;cases c8
 ·refine aW ?_;refine nG ?_;refine bO ?_;refine aN (cV (hc:=λ w1 hw=>w8 (h.Kx hw) (nl hp hr hl) hl hc c ro hi)) (λ x11=>?_);refine J54 ?_;refine J8 ?_;refine aY results44 (λ w hw=>?_);exact⟨by rw[ho];rfl,hw.done⟩
end
end
section
open Go Go.RowKit Go.Ct
section
variable{H:ByteArray->Nat}{σ:Kw}{w:List Nat}{m g i:Int}
theorem Nj{N:List Nv}{f:Int->List Int->List Int->Option (List Pl×List Pr)}{way idx:List Int}:∀(xs ys:List Int) (j:Nat) (s:List Int),vT N f way idx (xs++ys) j s=(vT N f way idx xs j s).bind λ p=>(vT N f way idx ys (j+xs.length) (s++p.1.map Pl.i)).map λ q=>(p.1++q.1,p.2++q.2)
 | [],ys,j,s=>by
  simp only[List.nil_append,vT,Option.bind_some,List.length_nil,Nat.add_zero,List.map_nil,List.append_nil]
  cases vT N f way idx ys j s<;>rfl
 | b::r,ys,j,s=>by
  have e:j+(b::r).length=j+1+r.length:=by simp only[List.length_cons];omega
  rw[e]
  simp only[List.cons_append,vT]
  split
  ·rw[Nj r ys (j+1) s]
   cases vT N f way idx r (j+1) s with
   | none=>rfl
   | some p=>simp only[Option.bind_some,Option.map_some];cases vT N f way idx ys (j+1+r.length) (s++p.1.map Pl.i)<;>rfl
  ·split
   ·cases f b (way++[idx.getD j 0]) s with
    | none=>rfl
    | some p =>
     simp only[Option.bind_some]
     rw[Nj r ys (j+1) (s++p.1.map Pl.i)]
     cases vT N f way idx r (j+1) (s++p.1.map Pl.i) with
     | none=>rfl
     | some q =>
      simp only[Option.bind_some,Option.map_some,List.map_append,<- List.append_assoc]
      cases vT N f way idx ys (j+1+r.length) (s++p.1.map Pl.i++q.1.map Pl.i)<;>simp
   ·rfl
def PlG(σ:Kw)(w:List Nat)(p:Pl):Prop:=Bel σ w p.i/\gZ σ.mm.nodes σ.mm.cs p.i=some p.m
theorem gf(i0:Inv H σ):∀(n:Nat) (i:Int) (w:List Nat) (g a:Int) (lv:Nat) (way s:List Int),qP σ i w g->12<=w.length+n->(∀j∈s,¬∃v,σ.way j=w++v)->∃q,C3 σ.mm.nodes σ.mm.cs n a lv i way s=some q/\(∀p∈q.1,PlG σ w p)/\q.1≠[]
 | 0,i,w,g,_,_,_,_,hi,hn,_=>by have:=(hi.Ez i0).2.2;omega
 | n+1,i,w,g,a,lv,way,s,hi,hn,hl=>by
  obtain⟨p,hp,hm⟩:=L5 i0 hi;have hbi:Bel σ w i:=⟨[],by rw[hi.1.2,List.append_nil],hi.1.1,by rw[hp];rfl⟩;have hns:¬i∈s:=λ h=>hl i h ⟨[],by rw[hi.1.2,List.append_nil]⟩;by_cases h3:(σ.nd p).kind=3
  ·have hc:=hm.qT i0 h3;have key:∀k,k<=64->∃q,vT σ.mm.nodes (λ b w s=>C3 σ.mm.nodes σ.mm.cs n i (lv+1) b w s) way (sF (σ.nd p).bm.toNat 64) (oC (nY (σ.nd p).bm.toNat (σ.nd p).xs) k) 0 (s++[i])=some q/\∀r∈q.1,∃k',k'<k/\PlG σ (w++[k']) r:=by
    intro k;induction k with
    | zero=>intro _;exact⟨([],[]),rfl,λ j hj=>nomatch hj⟩
    | succ k ih=>
     intro hk;obtain⟨q,h1,h2⟩:=ih (by omega);have up:∀r∈q.1,∃k',k'<k+1/\PlG σ (w++[k']) r:=λ r hr=>by obtain⟨k',h5,h6⟩:=h2 r hr;exact⟨k',by omega,h6⟩
     simp only[oC];rw[Nj,h1,Option.bind_some];cases hmo:nY (σ.nd p).bm.toNat (σ.nd p).xs k with
     | none=>exact⟨q,by simp[vT],up⟩
     | some b=>
      rcases hc.br k (by omega) b hmo with hb|hb;·refine⟨(q.1,q.2++[((bH σ.mm.nodes b).key,(bH σ.mm.nodes b).val)]),?_,up⟩;simp only[Option.toList,vT];rw[if_pos hb.1];simp
      ·have hbg:qP σ b (w++[k]) (σ.nd b).gen:=⟨⟨hb.1,hb.2.1⟩,rfl⟩
       obtain⟨q2,h5,h6,_⟩:=gf i0 n b (w++[k]) _ i (lv+1) (way++[(sF (σ.nd p).bm.toNat 64).getD (0+(oC (nY (σ.nd p).bm.toNat (σ.nd p).xs) k).length) 0]) (s++[i]++q.1.map Pl.i) hbg E0w (λ j hj=>by
        rintro ⟨v,hv⟩;rcases List.mem_append.1 hj with hj|hj
        ·rcases List.mem_append.1 hj with hj|hj;·exact hl j hj ⟨k::v,by rw[hv,List.append_assoc];rfl⟩
         ·rw[List.mem_singleton.1 hj,hi.1.2] at hv;have:=congrArg List.length hv;simp at this
        ·obtain⟨r,hr,rfl⟩:=List.mem_map.1 hj;obtain⟨k',h5,⟨v',h6,_⟩,_⟩:=h2 r hr;rw[h6] at hv;have:=y7 hv
         omega)
       refine⟨(q.1++q2.1,q.2++q2.2),?_,λ r hr=>?_⟩;·simp only[Option.toList,vT];rw[if_neg (by rw[hb.1];decide),if_pos hb.1,h5];simp
       ·rcases List.mem_append.1 hr with hr|hr;·exact up r hr
        ·exact⟨k,by omega,h6 r hr⟩
   obtain⟨q,h1,h2⟩:=key 64 (Nat.le_refl _);rw[hc.lof] at h1;refine⟨(⟨i,p,a,lv,way⟩::q.1,q.2),by rw[Rn hns hp (by rw[h3];decide),h1];rfl,λ r hr=>?_,by simp⟩;rcases List.mem_cons.1 hr with rfl|hr;·exact⟨hbi,hp⟩
   ·obtain⟨k',_,h6,h7⟩:=h2 r hr;exact⟨h6.up,h7⟩
  ·have hk:(bH σ.mm.nodes p).kind=5∨(bH σ.mm.nodes p).kind=6:=by have:cB (σ.nd p):=hm.1;unfold cB at this;have h3':¬(bH σ.mm.nodes p).kind=3:=h3;have t2:(bH σ.mm.nodes p).kind=3∨(bH σ.mm.nodes p).kind=5∨(bH σ.mm.nodes p).kind=6:=this;omega
   exact⟨_,Bp hns hp hk,λ r hr=>by rw[List.mem_singleton.1 hr];exact⟨hbi,hp⟩,by simp⟩
end
end
section
open Go Go.RowKit Go.Ct
section
variable{L:List aR}{cs:List Int}{gen:Int}{pn pc:Option Addr}{cn cc:Nat}{w:World}
theorem U9(L:List aR)(r:Int):aB L r=aR.zero∨∃k,k<L.length/\aB L r=L.getD k aR.zero:=by
 unfold aB;split;·exact .inr ⟨(r-1).toNat,by omega,rfl⟩
 ·exact .inl rfl
theorem Ig(hp:fW L cs gen)(hr:Kc L)(r:Int):∃b:Nat,b<18446744073709551616/\(aB L r).nd.bm=(b:Int)/\((aB L r).nd.kind=3->(aB L r).xs.length=fP b 64):=by
 rcases U9 L r with e|⟨k,hk,e⟩;·rw[e];exact⟨0,by decide,rfl,λ h=>absurd h (by decide)⟩
 ·rw[e];obtain⟨b,hb,hlt⟩:=(hr _ (fZ hk)).bm;refine⟨b,hlt,hb,λ h3=>?_⟩;have:=(uG h3 (hp.nodes k hk).1).1;rw[hb,nX hlt] at this;omega
theorem To(hp:fW L cs gen){r:Int}(h:(aB L r).nd.kind≠3):(aB L r).xs=[]:=by
 rcases U9 L r with e|⟨k,hk,e⟩;·rw[e];rfl
 ·rw[e] at h ⊢;exact(hp.nodes k hk).1.1.2.2.2.2.1.trans (if_neg (by simpa using h))
theorem Uk(hp:fW L cs gen)(hr:Kc L)(r:Int):(aB L r).xs.length<=64:=by
 by_cases h:(aB L r).nd.kind=3;·obtain⟨b,_,_,h3⟩:=Ig hp hr r;rw[h3 h];exact Am _ _
 ·rw[To hp h];decide
theorem O9(hp:fW L cs gen)(hr:Kc L){B:Nat}(hB:∀v∈L,v.ys.length<=B)(hb:(L.length+1)*(B+64)<=549755813888):Few L B:=by
 refine⟨λ r=>⟨?_,Uk hp hr r⟩,hb⟩;rcases U9 L r with e|⟨k,hk,e⟩;·rw[e];exact Nat.zero_le _
 ·rw[e];exact hB _ (fZ hk)
theorem ox{B:Nat}{wp:Option Addr}{wc:Nat}{o:Option (List Pl×List Pr)}{x:Ju}(h:O3 L B wp wc [] o x):(o=none->x.ok=false)/\∀q,o=some q->x.ok=true/\x.l.map yJ.p=q.1/\x.ps=q.2/\(x.own=false->(x.pp,dI x.ps)∈aP L)/\x.l.length<=L.length+1:=by
 refine⟨λ e=>?_,λ q e=>?_⟩;·subst e;exact h.2
 ·subst e;obtain⟨h1,h2,h3,h4,h5,h6,h7⟩:=h.2;refine⟨h1,h2,h3,h5,?_⟩;have:=h6.len;rw[List.nil_append,List.length_map,<- h2,List.length_map] at this;exact this
theorem Tq(hp:fW L cs gen)(h:rQ w L cs pn pc)(hr:Kc L)(hl:L.length<=274877906944)(hc:cs.length<=274877906944){B:Nat}(hB:∀v∈L,v.ys.length<=B)(hBl:(L.length+1)*(B+64)<=549755813888)(c:Int)(ro:Bool)(hi:c<=9223372036854775807){r:Int}(hrt:lG (L.map aR.c) cs c=some r){q:List Pl×List Pr}(hn:C3 (L.map aR.c) cs 12 0 0 r [] []=some q):Calls prog 70 #[Lv L cs gen pn cn pc cc,.agg ⟨[.int .i64 c,.bool ro]⟩] w λ e w'=>∃x:Ju,e=.returned (.tuple #[.slice x.lp x.l.length x.lc,.slice x.pp x.ps.length x.pc,.bool true])/\(x.l.map yJ.p=q.1/\x.l.length<=L.length+1)/\SF w [] [] [] x.fr [] w':=by
 have hb:=nl hp hr hl;obtain⟨k,rfl,hk⟩:=wb hrt;refine enter func70 ntmps70 rfl rfl h.start ?_;simp only[cC];simp only[Lv];refine K1k ?_;intro x2;refine bL (λ x3=>?_);refine iW (λ _=>?_);refine J8 ?_;refine nG ?_;refine bO ?_;refine aN (cV (hc:=λ w1 hw=>dz (gen:=gen) (cn:=cn) (cc:=cc) hp (h.Kx hw) hr hl hc c ro hrt hi)) (λ x14=>?_);refine Kb7 ?_;refine oD ?_;refine bD (λ c18=>?_) (λ c18=>?_);·exact nv c18
 ·refine lH ?_;refine eM [(0,[]),(1,[]),(2,[]),(3,[]),(4,[]),(5,[]),(6,[]),(7,[0]),(8,[]),(9,[]),(10,[]),(11,[]),(12,[]),(13,[]),(14,[]),(15,[])] ?_;refine bW ?_;refine aT ?_;refine iI ?_;refine mI ?_;refine pX ?_;refine aAr ?_;refine Sr (h:=λ x27=>?_);refine bK (i:=8) (hq:=(cM (hs:=[]) (os:=[w3 L x27 (List.replicate (L.length+1) false)]) (hA:=bG.cons (.inr (.inl (.head _))) (bG.cons (.inr (.inl (.tail _ (.head _)))) (bG.cons (.inl rfl) (bG.of λ f hf=>.inr (.inl (.tail _ (.tail _ hf))))))) (hc:=λ w1 hs=>Rv h.fit hb hl hc (Ig hp hr) B x27 (O9 hp hr hB hBl) 12 0 rfl k 0 0 [] none 0 [] _ _ w1 hk rfl (Nat.le_refl _) (Vs.zero _) hs))) (h:=λ x28 h28=>?_);refine aT ?_;refine jU ?_;refine jU ?_;refine jU ?_;refine qJ (h:=λ _=>?_);refine Qe ?_;refine kF ?_;refine oD ?_;refine bD (λ c33=>?_) (λ c33=>?_);·exfalso;rw[((ox h28).2 _ hn).1] at c33;simp at c33
  ·refine Ar ?_;refine iW (λ _=>?_);refine J8 ?_;refine aY results70 (λ w hw=>?_);obtain⟨h1,h2,h3,h4,h5⟩:=(ox h28).2 _ hn;rw[List.append_nil] at hw;exact⟨x28,rfl,⟨h2,h5⟩,hw.v4⟩
end
open Classical in
theorem K6{α:Type}:∀(l m:List α),l.Nodup->(∀a∈l,a∈m)->l.length<=m.length
 | [],_,_,_=>Nat.zero_le _
 | a::l,m,hn,hs=>by
  have hn:=List.nodup_cons.1 hn;have ha:=hs a (List.mem_cons_self ..)
  have:=K6 l (m.erase a) hn.2 λ b hb=>by have hb2:=hs b (List.mem_cons_of_mem _ hb);exact(List.mem_erase_of_ne (λ e=>hn.1 (by rw[<- e];exact hb))).2 hb2
  rw[List.length_erase_of_mem ha] at this;have:=List.length_pos_of_mem ha;simp only[List.length_cons]
  omega
theorem bk{m B C E:Nat}{W:Wd}(h:E5 m B C E W):∀v∈W.z.L,v.ys.length<=8:=by
 obtain⟨σ,hi⟩:=h.wr.inv;have i0:=hi.inv;have e1:σ.mm.nodes=W.z.L.map aR.c:=by rw[hi.mm];rfl
 have hl:σ.len=W.z.L.length:=by show σ.mm.nodes.length=_;rw[e1,List.length_map]
 intro v hv;obtain⟨k,hk,rfl⟩:=List.mem_iff_getElem.1 hv;have hn:=i0.nd ((k+1:Nat):Int) (by omega) (by omega);have e:σ.nd ((k+1:Nat):Int)=(W.z.L[k]).c:=by simp only[Kw.nd];rw[e1,dH,xG hk,jA,List.getElem?_eq_getElem hk];rfl
 have hy:(σ.nd ((k+1:Nat):Int)).ys=(W.z.L[k]).ys:=by rw[e];rfl
 rw[<- hy];have hval:=hn.valid;by_cases h6:(σ.nd ((k+1:Nat):Int)).kind=6
 ·have hk6:=hn.k6 h6;obtain⟨b,hb,hblt⟩:=hn.bd.hash;have hasc:SA (σ.nd ((k+1:Nat):Int)).ys:=by
   have:=hval.2.2.2.2;have h6':(σ.nd ((k+1:Nat):Int)).nd.kind=6:=h6;rcases this with h|h|h|h|h|h|h
   ·omega
   ·omega
   ·omega
   ·omega
   ·exact mR.1 h.2.2.1
   ·omega
   ·omega
  have hnd:((σ.nd ((k+1:Nat):Int)).ys.map Prod.fst).Nodup:=by unfold List.Nodup;rw[List.pairwise_map];exact hasc.imp λ{a b} hab e=>by rw[e,qI] at hab;cases hab
  have:=K6 _ kC hnd λ q hq=>by obtain⟨p,hp,rfl⟩:=List.mem_map.1 hq;exact(aAw (hk6.2.2.1 p hp) (by omega)).1
  rw[List.length_map] at this;exact this
 ·have:(σ.nd ((k+1:Nat):Int)).ys=[]:=hval.1.2.2.2.2.2.2.2.2.1.trans (if_neg (by have h7:¬(σ.nd ((k+1:Nat):Int)).nd.kind=6:=h6;simpa using h7));rw[this];decide
theorem Q1{m B C E:Nat}{W:Wd}(h:E5 m B C E W){t:dV}(ht:t∈W.ts):∃r q,lG (W.z.L.map aR.c) W.z.cs t.root=some r/\C3 (W.z.L.map aR.c) W.z.cs 12 0 0 r [] []=some q/\q.1≠[]/\∀p∈q.1,(bH (W.z.L.map aR.c) p.i).kind=2/\gZ (W.z.L.map aR.c) W.z.cs p.i=some p.m:=by
 obtain⟨σ,hi⟩:=h.wr.inv;have i0:=hi.inv;have e1:σ.mm.nodes=W.z.L.map aR.c:=by rw[hi.mm];rfl
 have e2:σ.mm.cs=W.z.cs:=by rw[hi.mm];rfl
 obtain⟨r,hr,hir⟩:=Wz i0 (hi.ts t ht);obtain⟨q,h1,h2,h3⟩:=gf i0 12 r [] (σ.nd r).gen 0 0 [] [] ⟨hir,rfl⟩ (by decide) (λ j hj=>nomatch hj);rw[e1,e2] at hr h1;refine⟨r,q,hr,h1,h3,λ p hp=>?_⟩;obtain⟨⟨v,_,k2,_⟩,k4⟩:=h2 p hp;rw[e1,e2] at k4;have e3:σ.nd p.i=bH (W.z.L.map aR.c) p.i:=by rw[<- e1]
 rw[e3] at k2;exact⟨k2,k4⟩
end
end Go.Proofs.YtbajmaoegmbfgaaGreat

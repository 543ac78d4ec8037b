/- The program's shape, part 9: the depth below an I-node. -/
import Derived.Test.YtadnboagdhcedaaGreatDoorGR9s
import Derived.Test.YtadnboagdhcedaaGreatDoorGBits

set_option linter.unusedSimpArgs false
set_option linter.unusedVariables false
namespace Go.Ct
section
open Go Go.RowKit
section
variable{P:Program}{S:List (Nat×Value)}{G:World->Prop}{d:Nat}{ty t t':TypeId}{pos:String}{af:Array Edge}{gd:Option (Nat×Bool)}{x y:Operand}
theorem ag{k:IntKind}{a b:Int}(hx:ev S x=.int k a)(hy:ev S y=.int k b):aM P S G ⟨some d,.call {callee:=.builtin .max,args := #[x,y],argTypes := #[t,t']},ty,pos,af,gd⟩ (.int k (max a b)):=⟨λ w _=>by
 have e:(if a<b then b else a)=max a b:=by split<;>omega
 simp[execOp,resolve,invoke,builtin,Builtin.max_,Builtin.max2,hx,hy,e]⟩
end
theorem kz{N:List Nv}{f:Int->Nat}{n:Nat}(hf:∀b,f b<=n):∀(xs:List Int) (acc:Nat),acc<=n+1->Pf N f xs acc<=n+1
 | [],acc,h=>h
 | b::r,acc,h=>by
  simp only[Pf]
  have:=hf b;exact kz hf r _ (by split<;>omega)
theorem ic{N:List Nv}{cs:List Int}:∀(n:Nat) (i:Int),Wn N cs n i<=n
 | 0,_=>Nat.le_refl _
 | n+1,i=>kz (λ b=>ic n b) _ 0 (Nat.zero_le _)
theorem df{N:List Nv}{f:Int->Nat}{xs:List Int}{j acc:Nat}(hj:j<xs.length):Pf N f (xs.drop j) acc=Pf N f (xs.drop (j+1)) (if(bH N (xs.getD j 0)).kind=2 then max acc (1+f (xs.getD j 0)) else acc):=by
 rw[List.drop_eq_getElem_cons hj,show xs.getD j 0=xs[j] by simp[List.getD,hj]]
 rfl
end
end Go.Ct
namespace Go.Proofs.YtadnboagdhcedaaGreatDoor
section
open Go Go.RowKit Go.Ct
section
variable{L:List aI}{cs:List Int}{gen:Int}{m:Nat}{pn pc:Option Addr}{cn cc:Nat}
def DpC(L:List aI)(cs:List Int)(gen:Int)(m:Nat)(pn:Option Addr)(cn:Nat)(pc:Option Addr)(cc:Nat)(n:Nat):Prop :=
 ∀{w:World} {D:List Nat} {bk:Nat} {i R:Int},SF w D [(bk,lJ L cs gen m pn cn pc cc)] (yO L cs pn pc) [] [] w->dB (L.map aI.c) cs i=some R->Sr (L.map aI.c) cs n i ->
  Calls Tryz.prog 41 #[.pointer (some ⟨bk,0,none⟩),(aA L i).nd.v] w λ e w'=>∃q:Unit,e=.returned (.int .i64 ((Wn (L.map aI.c) cs n i:Nat):Int))/\True/\SF w D [(bk,lJ L cs gen m pn cn pc cc)] [] [] [] w'
set_option maxRecDepth 100000 in
set_option maxHeartbeats 1000000 in
theorem rp(ok:tM L)(hM:wX L cs)(hc:cs.length<=274877906944){n:Nat}(h12:n<=12)(ih:DpC L cs gen m pn cn pc cc n):DpC L cs gen m pn cn pc cc (n+1):=by
  intro w D bk i R hs hb ht
  obtain⟨r,hR,hrl,hmo,hmk⟩:=hM i R hb
  obtain⟨V,hVe⟩:∃V,V=aA L ((r+1:Nat):Int):=⟨_,rfl⟩
  have hV:V∈L:=by rw[hVe,fG hrl];exact eE hrl
  obtain⟨R',hb',hbr⟩:=ht
  rw[hb] at hb'
  cases hb'
  rw[bG L R,hR,<- hVe] at hbr;have hl:=ok.len;have hf:=ok.fit V hV;have hn:=hf.brN;have hbs:=hf.brS;have hmem:=M7 (cs:=cs) (pn:=pn) (pc:=pc) hV;obtain⟨dpf,hfe⟩:∃dpf,dpf=Wn (L.map aI.c) cs n:=⟨_,rfl⟩
  have hfl:∀b,dpf b<=n:=λ b=>by rw[hfe];exact ic n b
  have hdp:Wn (L.map aI.c) cs (n+1) i=Pf (L.map aI.c) dpf V.xs 0:=by
    simp only[Wn,hb,Option.getD_some]
    rw[bG L R,hR,<- hVe,<- hfe]
    rfl
  rw[hdp];clear hdp;refine enter Tryz.func41 Tryz.ntmps41 rfl rfl hs ?_;simp only[cP]
  refine K1r ?_;intro x3;refine J1 ?_;refine Kb4 ?_;refine bI ?_;refine aD (cM (V:=λ _:Unit=>V.nd.v) (hs:=[(bk,lJ L cs gen m pn cn pc cc)]) (os:=[]) (hs':=λ _=>[(bk,lJ L cs gen m pn cn pc cc)]) (os':=λ _=>[]) (Fc:=λ _=>[]) (A0:=yO L cs pn pc) (hA:=bU.of λ f hf=>.inr (.inl hf)) (hc:=λ w1 hw=>by rw[hVe];exact Bz hw hmo hrl hl hc)) (λ x11 h11=>?_);refine cJ ?_;refine Kc6 ?_;refine fK [5,7,8,14,15,16,17,18,19,20,21,22,23,24,25,26,27,28,29,30] (λ y:Nat×Nat=>[(14,.int .i64 ((y.1:Nat):Int)),(5,.int .i64 ((y.2:Nat):Int))]) (λ y=>y.1<=V.xs.length/\y.2<=n+1/\Pf (L.map aI.c) dpf (V.xs.drop y.1) y.2=Pf (L.map aI.c) dpf V.xs 0) (λ y=>V.xs.length-y.1) ((0,0)) (⟨Nat.zero_le _,Nat.zero_le _,by rw[List.drop_zero]⟩) ?_ (λ y f hx=>?_)
  · repeat (first|exact bC _|refine aY (by exact rfl) ?_)
  refine K2p ?_;refine bA (λ c15=>?_) (λ c15=>?_)
  · try (first|contradiction|(exfalso;omega))
    have hyl:y.1<V.xs.length:=by omega
    obtain⟨k,hk,hkl,hkm⟩:=ok.at hV (j:=y.1) hyl
    have hbb:=hbr (V.xs.getD y.1 0) (by show _∈V.xs;rw[gF,List.getElem?_eq_getElem hyl];exact List.getElem_mem _);have hdr:=df (N:=L.map aI.c) (f:=dpf) (acc:=y.2) hyl;rw[bG L,hk] at hbb;rw[bG L,hk] at hdr;have hx2:=hx.2.1;have hx3:=hx.2.2;have hfk:=hfl ((k+1:Nat):Int);refine Ke1 ?_;refine aE (bE (lst:=V.xs) (k:=y.1) rf rf eC wn (.bO (nP.eI hmem)) (by omega) (by omega)) rfl ?_;refine aE (bP (lst:=V.xs) (q:=y.1) rf wn (.bO (nP.eI hmem)) (by omega)) rfl ?_;refine vE ?_;refine aD (cM (V:=λ _:Unit=>(aA L ((k+1:Nat):Int)).nd.v) (hs:=[(bk,lJ L cs gen m pn cn pc cc)]) (os:=[]) (hs':=λ _=>[(bk,lJ L cs gen m pn cn pc cc)]) (os':=λ _=>[]) (Fc:=λ _=>[]) (A0:=yO L cs pn pc) (hA:=bU.of λ f hf=>.inr (.inl hf)) (hc:=λ w1 hw=>by rw[hk];exact lI hw hkl hl)) (λ x20 h20=>?_);refine aT (λ x8=>?_);refine J5 ?_;refine gH ?_;refine rW ?_;refine bA (λ c23=>?_) (λ c23=>?_)
    · try (first|contradiction|(exfalso;omega))
      have ht2:Sr (L.map aI.c) cs n ((k+1:Nat):Int):=(hbb.resolve_left (λ h=>by have h':(aA L ((k+1:Nat):Int)).nd.kind=4:=h;omega)).2
      obtain⟨R2,hR2⟩:∃R2,dB (L.map aI.c) cs ((k+1:Nat):Int)=some R2:=by
       cases n with
       | zero=>exact ht2.elim
       | succ n=>obtain⟨R2,h,_⟩:=ht2;exact⟨R2,h⟩
      rw[if_pos (show(aA L ((k+1:Nat):Int)).c.kind=2 from c23)] at hdr;refine Il ?_;refine bI ?_;refine aD (cM (V:=λ _:Unit=>.int .i64 ((dpf ((k+1:Nat):Int):Nat):Int)) (hs:=[(bk,lJ L cs gen m pn cn pc cc)]) (os:=[]) (hs':=λ _=>[(bk,lJ L cs gen m pn cn pc cc)]) (os':=λ _=>[]) (Fc:=λ _=>[]) (A0:=yO L cs pn pc) (hA:=bU.of λ f hf=>.inr (.inl hf)) (hc:=λ w1 hw=>by rw[hfe];exact ih hw hR2 ht2)) (λ x27 h27=>?_);refine Gb ?_;(refine aS (fO (ag rf rf)) (λ x29=>?_));refine J1 ?_;refine eX ?_;refine Ka8 ?_;refine dW ((by exact(y.1+1,(λ _:Unit=>max y.2 (1+dpf ((k+1:Nat):Int))) x27))) ?_ ?_ ?_
      · omega
      · repeat' (first|exact bC _|refine aY ?_ ?_)
        all_goals (first|exact rfl|(conv=>{lhs;whnf};congr 1;dsimp only;omega))
      · exact⟨by show y.1+1<=_;omega,by first|(show y.2<=_;omega)|(show max _ _<=_;omega),by show Pf _ _ _ _=_;rw[<- hdr];exact hx3⟩
    · try (first|contradiction|(exfalso;omega))
      rw[if_neg (show ¬(aA L ((k+1:Nat):Int)).c.kind=2 from c23)] at hdr;refine Kc9 ?_;refine dW ((by exact(y.1+1,y.2))) ?_ ?_ ?_
      · omega
      · repeat' (first|exact bC _|refine aY ?_ ?_)
        all_goals (exact rfl)
      · exact⟨by show y.1+1<=_;omega,by first|(show y.2<=_;omega)|(show max _ _<=_;omega),by show Pf _ _ _ _=_;rw[<- hdr];exact hx3⟩
  · try (first|contradiction|(exfalso;omega))
    refine bM rfl ?_;refine Ka5 ?_;refine aR Tryz.results41 (λ w hw=>?_);have hy:y.1=V.xs.length:=by omega
    have h9:=hx.2.2;rw[hy,List.drop_length] at h9;exact⟨(),by rw[<- h9];rfl,trivial,hw.aQ⟩
end
end

/- The reference of shape, part 5: Check, Depth, Quiet of a trie. -/
section
open Go Go.RowKit Go.Ct
abbrev rI:sJ:=⟨⟨0,0,0,0,[]⟩,none,0⟩
theorem Br{N:List Nv}{cs:List Int}:∀{n:Nat} {a:Int} {lv:Nat} {i:Int} {way s:List Int} {q:List Pl×List Pr},tU N cs n a lv i way s=some q->∃m t,q.1=⟨i,m,a,lv,way⟩::t
 | 0,_,_,_,_,_,_,h=>nomatch h
 | n+1,a,lv,i,way,s,q,h=>by
  simp only[tU] at h
  split at h
  ·cases h
  obtain⟨m,hb,h⟩:=Option.bind_eq_some_iff.1 h
  split at h
  ·cases h
   exact⟨m,[],rfl⟩
  ·obtain⟨q2,_,h8⟩:=Option.map_eq_some_iff.1 h
   subst h8
   exact⟨m,_,rfl⟩
theorem nw{x:En}{q:List Pl}{p:Pl}{t:List Pl}(e:x.l.map sJ.p=q)(hq:q=p::t)(hw:p.way=[]):∀v∈x.l,aH v.p.way=[]∨(v.wp,aH v.p.way)∈x.fr:=λ v hv=>by
 subst hq
 cases hl:x.l with
 | nil=>rw[hl] at hv;exact nomatch hv
 | cons v0 tl =>
  rw[hl] at e hv
  simp only[List.map_cons,List.cons.injEq] at e
  rcases List.mem_cons.1 hv with rfl|hv
  ·left;rw[e.1,hw];rfl
  ·right
   unfold En.fr
   rw[hl]
   exact List.mem_cons_of_mem _ (List.mem_append_left _ (List.mem_map.2 ⟨v,hv,rfl⟩))
section
variable{L:List aI}{cs:List Int}{gen:Int}{m:Nat}{pn pc:Option Addr}{cn cc:Nat}{w:World}
structure Yz(L:List aI)(cs:List Int)(gen c:Int)(q:List Pl×List Pr)(r:Int):Prop where
 pr:cO L cs gen
 root:eD (L.map aI.c) cs c=some r
 tU:tU (L.map aI.c) cs 12 0 0 r [] []=some q
theorem No{c:Int}{q:List Pl×List Pr}(hn:Pj L cs gen c=some q):∃r,Yz L cs gen c q r:=by
 have hp:cO L cs gen:=by
  unfold Pj at hn
  split at hn
  ·assumption
  ·cases hn
 rw[K9 hp] at hn
 obtain⟨r,h1,h2⟩:=Option.bind_eq_some_iff.1 hn
 exact⟨r,hp,h1,h2⟩
theorem Yz.plf{c r:Int}{q:List Pl×List Pr}(k:Yz L cs gen c q r):∀p∈q.1,PlF (L.map aI.c) cs p:=Vz 12 0 0 r [] [] q k.tU rfl (by decide) (λ x hx=>nomatch hx) (.inl rfl)
theorem X4(h:eP w L cs pn pc)(hr:iG L)(hl:L.length<=274877906944)(hc:cs.length<=274877906944){B:Nat}(hB:∀v∈L,v.ys.length<=B)(hBl:(L.length+1)*(B+64)<=549755813888)(c:Int)(ro:Bool)(hi:c<=9223372036854775807)(hn:Pj L cs gen c=none):Calls Tryz.prog 18 #[iF L cs gen pn cn pc cc,.agg ⟨[.int .i64 c,.bool ro]⟩,.int .u64 ((m:Nat):Int)] w λ e w'=>e=.returned (.int .i64 1)/\St w [] [] w':=by
 refine enter Tryz.func18 Tryz.ntmps18 rfl rfl h.start ?_;simp only[cP]
 simp only[iF]
 all_goals (refine J0 ?_;refine bF (λ x3=>?_);refine bF (λ x4=>?_);refine J1 ?_;refine Kb0 ?_;refine aS (cV (hc:=λ w1 hw=>Ad (gen:=gen) (cn:=cn) (cc:=cc) (h.lB hw) hr hl hc hB hBl c ro hi hn)) (λ x14=>?_);refine uV ?_;refine lX ?_;refine dL (λ _=>?_);refine J8 ?_;refine jL ?_;refine lA ?_)
 all_goals
 refine bA (λ c19=>?_) (λ c19=>?_)
 ·all_goals try (first|contradiction|(exfalso;omega))
  all_goals refine cR ?_
  all_goals
   refine aR Tryz.results18 (λ w hw=>?_);exact⟨rfl,hw.done⟩
 ·exact nv c19
theorem Y6(h:eP w L cs pn pc)(hr:iG L)(hl:L.length<=274877906944)(hc:cs.length<=274877906944){B:Nat}(hB:∀v∈L,v.ys.length<=B)(hBl:(L.length+1)*(B+64)<=549755813888)(c:Int)(ro:Bool)(hi:c<=9223372036854775807)(hn:Pj L cs gen c=none):Calls Tryz.prog 20 #[iF L cs gen pn cn pc cc,.agg ⟨[.int .i64 c,.bool ro]⟩] w λ e w'=>e=.returned (.int .i64 (-1))/\St w [] [] w':=by
 refine enter Tryz.func20 Tryz.ntmps20 rfl rfl h.start ?_;simp only[cP]
 simp only[iF]
 all_goals (refine J0 ?_;refine bF (λ x2=>?_);refine bF (λ x3=>?_);refine J1 ?_;refine Kb0 ?_;refine aS (cV (hc:=λ w1 hw=>Ad (gen:=gen) (cn:=cn) (cc:=cc) (h.lB hw) hr hl hc hB hBl c ro hi hn)) (λ x13=>?_);refine uV ?_;refine lX ?_;refine dL (λ _=>?_);refine J8 ?_;refine jL ?_;refine lA ?_)
 all_goals
 refine bA (λ c18=>?_) (λ c18=>?_)
 ·all_goals try (first|contradiction|(exfalso;omega))
  all_goals refine cR ?_
  all_goals
   refine aR Tryz.results20 (λ w hw=>?_);exact⟨rfl,hw.done⟩
 ·exact nv c18
theorem Zg(h:eP w L cs pn pc)(hr:iG L)(hl:L.length<=274877906944)(hc:cs.length<=274877906944){B:Nat}(hB:∀v∈L,v.ys.length<=B)(hBl:(L.length+1)*(B+64)<=549755813888)(c:Int)(ro:Bool)(hi:c<=9223372036854775807)(hn:Pj L cs gen c=none):Calls Tryz.prog 19 #[iF L cs gen pn cn pc cc,.agg ⟨[.int .i64 c,.bool ro]⟩] w λ e w'=>e=.returned (.bool false)/\St w [] [] w':=by
 refine enter Tryz.func19 Tryz.ntmps19 rfl rfl h.start ?_;simp only[cP]
 simp only[iF]
 all_goals (refine J0 ?_;refine bF (λ x2=>?_);refine bF (λ x3=>?_);refine J1 ?_;refine Kb0 ?_;refine aS (cV (hc:=λ w1 hw=>Ad (gen:=gen) (cn:=cn) (cc:=cc) (h.lB hw) hr hl hc hB hBl c ro hi hn)) (λ x13=>?_);refine uV ?_;refine lX ?_;refine dL (λ _=>?_);refine Kd6 ?_;refine zR ?_)
 all_goals
 refine fK [7,8,9,17,18,19,20,21,22,23,24,25,26,27,28,29,30,31,32,33,34,35,36,37,38,39,40,41,42] (λ y:Nat=>[(8,.int .i64 ((y:Nat):Int)),(7,.bool false)]) (λ y=>y=0) (λ y=>1-y) (0) (rfl) ?_ (λ y f hx=>?_)
 ·repeat (first|exact bC _|refine aY (by first|exact rfl|(conv=>{lhs;whnf};simp;done)) ?_)
 refine K0a ?_;all_goals (refine Kc7 ?_;refine zB ?_)
 all_goals ((refine eM 21 (λ g21=>?_) (λ g21=>?_)<;>(try (first|contradiction|(exfalso;omega)))<;>(refine aJ ?_)))
 all_goals (refine cI ?_;refine aK ?_)
 all_goals
  refine bA (λ c23=>?_) (λ c23=>?_)
  ·exact nv c23
  ·all_goals try (first|contradiction|(exfalso;omega))
   all_goals (refine bM rfl ?_;refine aV ?_;refine dZ [(0,[]),(1,[]),(2,[]),(3,[]),(4,[]),(5,[]),(6,[2]),(7,[]),(8,[]),(9,[]),(10,[]),(11,[])] ?_;refine iJ ?_)
   all_goals (refine bX ?_)
   all_goals ((refine bX ?_);refine Nu ?_;(refine bX ?_);(refine bX ?_);(refine bX ?_);refine Tl ?_;refine J7 ?_)
   all_goals
   refine aR Tryz.results19 (λ w hw=>?_);exact⟨rfl,hw.done⟩
set_option maxRecDepth 100000 in
theorem Zs(h:eP w L cs pn pc)(ok:tM L)(hr:iG L)(hl:L.length<=274877906944)(hc:cs.length<=274877906944){B:Nat}(hB:∀v∈L,v.ys.length<=B)(hBl:(L.length+1)*(B+64)<=549755813888)(c:Int)(ro:Bool)(hi:c<=9223372036854775807)(hm:m<18446744073709551616){q:List Pl×List Pr}(hn:Pj L cs gen c=some q):Calls Tryz.prog 18 #[iF L cs gen pn cn pc cc,.agg ⟨[.int .i64 c,.bool ro]⟩,.int .u64 ((m:Nat):Int)] w λ e w'=>∃b:Bool,e=.returned (.int .i64 (if b=true then 0 else 8))/\(b=true↔∀p∈q.1,vN (L.map aI.c) m p)/\St w [] [] w':=by
  obtain⟨r,hk⟩:=No hn
  have hplf:=hk.plf;have hp:=hk.pr;obtain⟨mm,tt,hhd⟩:=Br hk.tU
  refine enter Tryz.func18 Tryz.ntmps18 rfl rfl h.start ?_;simp only[cP]
  simp only[iF]
  all_goals (refine J0 ?_;refine bF (λ x3=>?_);refine bF (λ x4=>?_);refine J1 ?_;refine Kb0 ?_;refine aD (Rr (V:=λ x:En=>.tuple #[.slice x.lp x.l.length x.lc,.slice x.pp x.ps.length x.pc,.bool true]) (Hc:=λ _=>[]) (Fc:=λ x=>x.fr) (F1:=λ x=>x.fr) (Oc:=λ _=>[]) (hF1:=λ x=>List.append_nil _) (hc:=λ w1 hw=>Ak (gen:=gen) (cn:=cn) (cc:=cc) (h.lB hw) hr hl hc hB hBl c ro hi hn)) (λ x14 h14=>?_))
  all_goals
   obtain⟨hx1,hx2,hx3,hx4⟩:=h14
   have hin:∀k,k<x14.l.length->x14.l.getD k rI∈x14.l:=λ k hk=>by rw[gF,List.getElem?_eq_getElem hk];exact List.getElem_mem _
   have hwy:=nw hx1 hhd rfl
  all_goals (refine uV ?_;refine lX ?_;refine dL (λ _=>?_);refine J8 ?_;refine jL ?_;refine lA ?_)
  all_goals
   refine bA (λ c19=>?_) (λ c19=>?_)
   · exact nv c19
   · all_goals try (first|contradiction|(exfalso;omega))
     all_goals (refine jH ?_;refine zR ?_)
     all_goals
      refine kK [6,10,20,21,22,23,24,25,26,27,28,29,30,31,32,33] (λ y:Nat=>[(10,.int .i64 ((y:Nat):Int))]) (λ y=>y<=x14.l.length/\∀j,j<y->vN (L.map aI.c) m (x14.l.getD j rI).p) (λ _=>_) (λ _=>x14.fr) (λ _=>_) (λ y=>x14.l.length-y) (0) (⟨Nat.zero_le _,λ j hj=>absurd hj (Nat.not_lt_zero j)⟩) (λ y f hx=>?_) (hw0:=λ w hw=>hw);refine K0a ?_;have hy:=hx;all_goals (refine Kd7 ?_)
      all_goals
       refine bA (λ c23=>?_) (λ c23=>?_)
       · all_goals try (first|contradiction|(exfalso;omega))
         all_goals (refine mZ ?_;refine aV ?_;refine gP [0,1,2,3,4,5,6,7] ?_;refine aZ ?_;refine iJ ?_;refine bJ (i:=3) (hq:=(Fg (lst:=x14.l) (g:=sJ.cells) (sz:=5) (k:=y) (λ _=>rfl) (by decide) rf rf eC dR (.new (nP.eI (List.mem_cons_self ..))) (by omega) (by omega))) (h:=?_);refine bJ (i:=4) (hq:=(ta (lst:=x14.l) (g:=sJ.cells) (sz:=5) (q:=y) rI (λ _=>rfl) rf dR (.new (nP.eI (List.mem_cons_self ..))) (by omega))) (h:=?_);refine aL ?_;refine bL (i:=6) (hq:=(c0 (V:=.bool) (hc:=λ w1 hw=>aq (gen:=gen) (cn:=cn) (cc:=cc) (h.lB hw) hp ok (hplf _ (by rw[<- hx1];exact List.mem_map.2 ⟨_,hin y (by omega),rfl⟩)) (hw.clH (f:=((x14.l.getD y rI).wp,aH (x14.l.getD y rI).p.way)) ((hwy _ (hin y (by omega))).imp id λ h=>.inr (.inl h))) hm))) (h:=λ x32 h32=>?_);refine zJ ?_;refine dJ ?_)
         all_goals
          refine bA (λ c33=>?_) (λ c33=>?_)
          · all_goals try (first|contradiction|(exfalso;omega))
            all_goals refine cR ?_
            all_goals
             refine aR Tryz.results18 (λ w hw=>?_);refine⟨false,rfl,⟨λ h=>(nomatch h),λ hg=>?_⟩,hw.done⟩;have:=h32.2 (hg _ (by rw[<- hx1];exact List.mem_map.2 ⟨_,hin y (by omega),rfl⟩));exfalso;simp_all
             done
          · all_goals try (first|contradiction|(exfalso;omega))
            all_goals (refine Kc1 ?_)
            all_goals
             refine gT (y+1) ?_ (hw1:=λ w hw=>hw)
             · exact⟨by omega,Ds hy.2 (h32.1 (by first|(simpa using c33;done)|(simp_all;done)))⟩
       · all_goals try (first|contradiction|(exfalso;omega))
         all_goals (refine bM rfl ?_;refine cR ?_)
         all_goals
          refine aR Tryz.results18 (λ w hw=>?_);refine⟨true,rfl,⟨λ _ p hpm=>?_,λ _=>rfl⟩,hw.done⟩;rw[<- hx1] at hpm;obtain⟨v,hv,rfl⟩:=List.mem_map.1 hpm
          obtain⟨j,hj,rfl⟩:=List.mem_iff_getElem.1 hv
          have:=hy.2 j (by omega);rwa [gF,List.getElem?_eq_getElem hj] at this
end
end

/- The reference of shape, part 6: Depth and Quiet of a trie. -/
section
open Go Go.RowKit Go.Ct
def m4(N:List Nv)(cs:List Int)(i:Int):Prop:=bV cs (bH N (bV cs (bH N i).main)).prev=0
theorem jr{L:List aI}{cs:List Int}{i:Int}:m4 (L.map aI.c) cs i↔bV cs (aA L (bV cs (aA L i).nd.main)).nd.prev=0:=by
 unfold m4
 rw[bG,bG]
 exact Iff.rfl
theorem Qk{x:Int}:(x==2)=true↔x=2:=by simp
section
variable{L:List aI}{cs:List Int}{gen:Int}{pn pc:Option Addr}{cn cc:Nat}{w:World}
theorem Yz.i{c r:Int}{q:List Pl×List Pr}(k:Yz L cs gen c q r):∀p∈q.1,p.i<=L.length:=λ p hp=>by
 have h2:=(nM (k.plf p hp).body).1;obtain⟨k,hk,hkl⟩:=tR (L:=L) (r:=p.i) (by omega)
 omega
set_option maxRecDepth 100000 in
theorem Y9(h:eP w L cs pn pc)(hr:iG L)(hl:L.length<=274877906944)(hc:cs.length<=274877906944){B:Nat}(hB:∀v∈L,v.ys.length<=B)(hBl:(L.length+1)*(B+64)<=549755813888)(c:Int)(ro:Bool)(hi:c<=9223372036854775807){q:List Pl×List Pr}(hn:Pj L cs gen c=some q){d:Nat}(hd:Ws q.1 d):Calls Tryz.prog 20 #[iF L cs gen pn cn pc cc,.agg ⟨[.int .i64 c,.bool ro]⟩] w λ e w'=>e=.returned (.int .i64 ((d:Nat):Int))/\St w [] [] w':=by
  obtain⟨r,hk⟩:=No hn
  have hplf:=hk.plf;refine enter Tryz.func20 Tryz.ntmps20 rfl rfl h.start ?_;simp only[cP]
  simp only[iF]
  refine K0o ?_;intro x2 x3;refine K1d ?_;intro x13 h13;obtain⟨hx1,hx2,hx3,hx4⟩:=h13
  have hin:∀k,k<x13.l.length->(x13.l.getD k rI).p∈q.1:=λ k hk=>by rw[<- hx1,List.mem_map];exact⟨x13.l.getD k rI,by rw[gF,List.getElem?_eq_getElem hk];exact List.getElem_mem _,rfl⟩
  have hof:∀p∈q.1,∃k,k<x13.l.length/\(x13.l.getD k rI).p=p:=λ p hp=>by
   rw[<- hx1] at hp
   obtain⟨v,hv,rfl⟩:=List.mem_map.1 hp
   obtain⟨k,hk,rfl⟩:=List.mem_iff_getElem.1 hv
   exact⟨k,hk,by rw[gF,List.getElem?_eq_getElem hk];rfl⟩
  refine uV ?_;refine lX ?_;refine dL (λ _=>?_);refine J8 ?_;refine jL ?_;refine lA ?_;refine bA (λ c18=>?_) (λ c18=>?_)
  · exact nv c18
  · try (first|contradiction|(exfalso;omega))
    refine bB ?_;refine Ke3 ?_;refine kK [8,9,19,20,21,22,23,24,25,26,27,28,29,30,31] (λ y:Nat×Int=>[(9,.int .i64 ((y.1:Nat):Int)),(8,.int .i64 y.2)]) (λ y=>y.1<=x13.l.length/\0<=y.2/\y.2<=12/\(∀j,j<y.1->((x13.l.getD j rI).p.lv:Int)<=y.2)/\(0<y.2->∃j,j<y.1/\((x13.l.getD j rI).p.lv:Int)=y.2)) (λ _=>_) (λ _=>x13.fr) (λ _=>_) (λ y=>x13.l.length-y.1) ((0,0)) (⟨Nat.zero_le _,by decide,by decide,λ j hj=>absurd hj (Nat.not_lt_zero j),λ h=>absurd h (by decide)⟩) (λ y f hx=>?_) (hw0:=λ w hw=>hw);refine K0a ?_;obtain⟨hy1,hy2,hy3,hy4,hy5⟩:=hx
    refine Kd7 ?_;refine bA (λ c22=>?_) (λ c22=>?_)
    · try (first|contradiction|(exfalso;omega))
      refine mZ ?_;refine zT ?_;refine pK ?_;refine aE (Fg (lst:=x13.l) (g:=sJ.cells) (sz:=5) (k:=y.1) (λ _=>rfl) (by decide) rf rf eC dR (.new (nP.eI (List.mem_cons_self ..))) (by omega) (by omega)) rfl ?_;refine aC ?_;refine aE (O7 (lst:=x13.l) (g:=sJ.cells) (sz:=5) (q:=y.1) (j:=3) rI (λ _=>rfl) rf (by exact Hh rfl) (by decide) rfl (.new (nP.eI (List.mem_cons_self ..))) (by omega)) rfl ?_;(refine aS (fO (ag rf rf)) (λ x31=>?_));refine J1 ?_;refine Kc2 ?_;refine gT ((y.1+1,max y.2 ((x13.l.getD y.1 rI).p.lv:Int))) ?_ (hw1:=λ w hw=>hw)
      · have hl1:=(hplf _ (hin y.1 (by omega))).lv;refine⟨by show y.1+1<=_;omega,by show 0<=max _ _;omega,by show max _ _<=12;omega,λ j hj=>?_,λ hpos=>?_⟩
        · replace hj:j<y.1+1:=hj
          show _<=max _ _
          rcases Nat.lt_or_ge j y.1 with h1|h1
          · have:=hy4 j h1;omega
          · rw[show j=y.1 by omega];omega
        · replace hpos:0<max y.2 ((x13.l.getD y.1 rI).p.lv:Int):=hpos
          show ∃j,j<y.1+1/\_=max _ _
          by_cases h9:y.2<=((x13.l.getD y.1 rI).p.lv:Int)
          · exact⟨y.1,by omega,by omega⟩
          · obtain⟨j,hj,e⟩:=hy5 (by omega)
            exact⟨j,by omega,by omega⟩
    · try (first|contradiction|(exfalso;omega))
      refine bM rfl ?_;refine Ka5 ?_;refine aR Tryz.results20 (λ w hw=>?_)
      have hd2:y.2=((d:Nat):Int):=by
       obtain⟨p,hp,e1⟩:=hd.one
       obtain⟨k,hk2,e2⟩:=hof p hp
       have h1:=hy4 k (by omega);rw[e2,e1] at h1;rcases Int.lt_or_le 0 y.2 with h9|h9
       · obtain⟨j,hj,e3⟩:=hy5 h9
         have:=hd.all _ (hin j (by omega));omega
       · omega
      rw[hd2]
      exact⟨rfl,hw.done⟩
set_option maxRecDepth 100000 in
theorem Yn(h:eP w L cs pn pc)(hr:iG L)(hl:L.length<=274877906944)(hc:cs.length<=274877906944){B:Nat}(hB:∀v∈L,v.ys.length<=B)(hBl:(L.length+1)*(B+64)<=549755813888)(c:Int)(ro:Bool)(hi:c<=9223372036854775807){q:List Pl×List Pr}(hn:Pj L cs gen c=some q):Calls Tryz.prog 19 #[iF L cs gen pn cn pc cc,.agg ⟨[.int .i64 c,.bool ro]⟩] w λ e w'=>∃b:Bool,e=.returned (.bool b)/\(b=true↔(∀p∈q.1,m4 (L.map aI.c) cs p.i)/\(bH (L.map aI.c) (bV cs c)).kind=2)/\St w [] [] w':=by
  obtain⟨r,hk⟩:=No hn
  have hq:=hk.i;have hb:=As hk.pr hr hl;refine enter Tryz.func19 Tryz.ntmps19 rfl rfl h.start ?_;simp only[cP]
  simp only[iF]
  refine K0o ?_;intro x2 x3;refine K1d ?_;intro x13 h13;obtain⟨hx1,hx2,hx3,hx4⟩:=h13
  have hin:∀k,k<x13.l.length->(x13.l.getD k rI).p∈q.1:=λ k hk=>by rw[<- hx1,List.mem_map];exact⟨x13.l.getD k rI,by rw[gF,List.getElem?_eq_getElem hk];exact List.getElem_mem _,rfl⟩
  have hof:∀p∈q.1,∃k,k<x13.l.length/\(x13.l.getD k rI).p=p:=λ p hp=>by
   rw[<- hx1] at hp
   obtain⟨v,hv,rfl⟩:=List.mem_map.1 hp
   obtain⟨k,hk,rfl⟩:=List.mem_iff_getElem.1 hv
   exact⟨k,hk,by rw[gF,List.getElem?_eq_getElem hk];rfl⟩
  refine uV ?_;refine lX ?_;refine dL (λ _=>?_);refine Kd6 ?_;refine zR ?_;refine kK [7,8,9,17,18,19,20,21,22,23,24,25,26,27,28,29,30,31,32,33,34,35,36,37,38,39,40,41,42] (λ y:Nat×Bool=>[(8,.int .i64 ((y.1:Nat):Int)),(7,.bool y.2)]) (λ y=>y.1<=x13.l.length/\(y.2=true->∀j,j<y.1->m4 (L.map aI.c) cs (x13.l.getD j rI).p.i)/\(y.2=false->∃j,j<y.1/\¬m4 (L.map aI.c) cs (x13.l.getD j rI).p.i)) (λ _=>_) (λ _=>x13.fr) (λ _=>_) (λ y=>x13.l.length-y.1) ((0,true)) (⟨Nat.zero_le _,λ _ j hj=>absurd hj (Nat.not_lt_zero j),λ h=>nomatch h⟩) (λ y f hx=>?_) (hw0:=λ w hw=>hw);refine K0a ?_;obtain⟨hy1,hy2,hy3⟩:=hx
  refine Kc7 ?_;refine zB ?_;(refine eM 21 (λ g21=>?_) (λ g21=>?_)<;>refine Ka0 ?_);all_goals (refine cI ?_;refine aK ?_)
  all_goals
   refine bA (λ c23=>?_) (λ c23=>?_)
   · try exact nv c23
     all_goals (refine mZ ?_;refine aV ?_;refine dZ [(0,[]),(1,[]),(2,[]),(3,[]),(4,[]),(5,[]),(6,[]),(7,[0]),(8,[]),(9,[]),(10,[])] ?_;refine aZ ?_;refine aZ ?_;refine iJ ?_;refine bJ (i:=4) (hq:=(Fg (lst:=x13.l) (g:=sJ.cells) (sz:=5) (k:=y.1) (λ _=>rfl) (by decide) rf rf eC dR (.new (nP.eI (List.mem_cons_self ..))) (by omega) (by omega))) (h:=?_);refine aN ?_;refine bJ (i:=6) (hq:=(O7 (lst:=x13.l) (g:=sJ.cells) (sz:=5) (q:=y.1) (j:=0) rI (λ _=>rfl) rf (by exact Hh rfl) (by decide) rfl (.new (nP.eI (List.mem_cons_self ..))) (by omega))) (h:=?_);refine cA (i:=7) (hq:=(cV (hc:=λ w1 hw=>jR (gen:=gen) (cn:=cn) (cc:=cc) (h.lB hw) _ (by have:=hq _ (hin y.1 (by omega));omega) hl))) (h:=λ x33=>?_);refine lO ?_;refine cA (i:=9) (hq:=(cV (hc:=λ w1 hw=>tB (gen:=gen) (cn:=cn) (cc:=cc) (h.lB hw) _ (hb.main _) hc))) (h:=λ x35=>?_);refine J7 ?_;refine dZ [(0,[]),(1,[]),(2,[]),(3,[0]),(4,[]),(5,[]),(6,[]),(7,[])] ?_;refine aZ ?_;refine aZ ?_;refine aL ?_;refine cA (i:=3) (hq:=(cV (hc:=λ w1 hw=>jR (gen:=gen) (cn:=cn) (cc:=cc) (h.lB hw) _ (hb.cs _) hl))) (h:=λ x39=>?_);refine lO ?_;refine cA (i:=5) (hq:=(cV (hc:=λ w1 hw=>tB (gen:=gen) (cn:=cn) (cc:=cc) (h.lB hw) _ (hb.prev _) hc))) (h:=λ x41=>?_);refine jQ ?_;refine J7 ?_;refine Kc2 ?_)
     all_goals
      refine gT ((y.1+1,decide (bV cs (aA L (bV cs (aA L (x13.l.getD y.1 rI).p.i).nd.main)).nd.prev=0))) ?_ (hw1:=λ w hw=>hw)
      · refine⟨by show y.1+1<=_;omega,λ hd j hj=>?_,λ hd=>⟨y.1,by show y.1<y.1+1;omega,λ hqs=>of_decide_eq_false hd (jr.1 hqs)⟩⟩
        replace hj:j<y.1+1:=hj
        rcases Nat.lt_or_ge j y.1 with h1|h1
        · exact hy2 c23 j h1
        · rw[show j=y.1 by omega]
          exact jr.2 (of_decide_eq_true hd)
   · all_goals try (first|contradiction|(exfalso;omega))
     all_goals (refine bM rfl ?_;refine aV ?_;refine dZ [(0,[]),(1,[]),(2,[]),(3,[]),(4,[]),(5,[]),(6,[2]),(7,[]),(8,[]),(9,[]),(10,[]),(11,[])] ?_;refine iJ ?_)
     all_goals ((refine Eu 44 (λ g44=>?_) (λ g44=>?_)<;>(first|refine bX ?_|(refine aZ ?_))))
     all_goals ((first|refine bX ?_|(refine aZ ?_));refine Nu ?_;(first|refine bX ?_|(refine cA (i:=6) (hq:=(cV (hc:=λ w1 hw=>tB (gen:=gen) (cn:=cn) (cc:=cc) (h.lB hw) _ hi hc))) (h:=λ x49=>?_)));(first|refine bX ?_|(refine cA (i:=7) (hq:=(cV (hc:=λ w1 hw=>jR (gen:=gen) (cn:=cn) (cc:=cc) (h.lB hw) _ (hb.cs _) hl))) (h:=λ x50=>?_)));(first|refine bX ?_|(refine lO ?_));refine Tl ?_;refine J7 ?_)
     all_goals
      refine aR Tryz.results19 (λ w hw=>?_);first
      | exact absurd (c23.symm.trans g44) (by decide)
      | (have h2:y.2=false:=(by simpa using g44);obtain⟨j,hj,hjn⟩:=hy3 h2;exact⟨false,rfl,⟨λ h=>(nomatch h),λ hp=>absurd (hp.1 _ (hin j (by omega))) hjn⟩,hw.done⟩)
      | exact⟨_,rfl,⟨λ hb2=>⟨λ p hp=>by obtain⟨k,hk2,e2⟩:=hof p hp;rw[<- e2];exact hy2 g44 k (by omega),by rw[bG];exact Qk.1 hb2⟩,λ hp=>Qk.2 (by have:=hp.2;rw[bG] at this;exact this)⟩,hw.done⟩
end
end

end Go.Proofs.YtadnboagdhcedaaGreatDoor

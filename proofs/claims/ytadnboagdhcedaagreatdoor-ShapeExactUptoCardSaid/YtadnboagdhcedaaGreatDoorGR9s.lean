/- The reference of views in the Shape seat: the root and the places of a trie. -/
import Derived.Test.YtadnboagdhcedaaGreatDoorR93
import Derived.Test.YtadnboagdhcedaaGreatDoorGVw3
import Derived.Test.YtadnboagdhcedaaGreatDoorGPaX
import Derived.Test.YtadnboagdhcedaaGreatDoorArP
import Derived.Test.YtadnboagdhcedaaGreatDoorGSh9
import Derived.Test.YtadnboagdhcedaaGreatDoorGKw1
import Derived.Test.YtadnboagdhcedaaGreatDoorGSh31
import Derived.Test.YtadnboagdhcedaaGreatDoorGHs

set_option linter.unusedSimpArgs false
set_option linter.unusedVariables false
namespace Go.Proofs.YtadnboagdhcedaaGreatDoor
section
open Go Go.RowKit Go.Ct
section
variable{L:List aI}{cs:List Int}{gen:Int}{pn pc:Option Addr}{cn cc:Nat}{w:World}
theorem U3(L:List aI)(r:Int):aA L r=aI.zero∨∃k,k<L.length/\aA L r=L.getD k aI.zero:=by
 unfold aA
 split
 ·exact .inr ⟨(r-1).toNat,by omega,rfl⟩
 ·exact .inl rfl
theorem C3(hp:cO L cs gen)(hr:iG L)(r:Int):∃b:Nat,b<18446744073709551616/\(aA L r).nd.bm=(b:Int)/\((aA L r).nd.kind=3->(aA L r).xs.length=gB b 64):=by
 rcases U3 L r with e|⟨k,hk,e⟩
 ·rw[e];exact⟨0,by decide,rfl,λ h=>absurd h (by decide)⟩
 ·rw[e]
  obtain⟨b,hb,hlt⟩:=(hr _ (eE hk)).bm
  refine⟨b,hlt,hb,λ h3=>?_⟩;have:=(nK h3 (hp.nodes k hk).1).1;rw[hb,nL hlt] at this;omega
theorem Iw(hp:cO L cs gen){r:Int}(h:(aA L r).nd.kind≠3):(aA L r).xs=[]:=by
 rcases U3 L r with e|⟨k,hk,e⟩
 ·rw[e];rfl
 ·rw[e] at h ⊢
  exact(hp.nodes k hk).1.1.2.2.2.2.1.trans (if_neg (by simpa using h))
theorem Yr(hp:cO L cs gen)(hr:iG L)(r:Int):(aA L r).xs.length<=64:=by
 by_cases h:(aA L r).nd.kind=3
 ·obtain⟨b,_,_,h3⟩:=C3 hp hr r
  rw[h3 h]
  exact oY _ _
 ·rw[Iw hp h];decide
theorem Fm(hp:cO L cs gen)(hr:iG L){B:Nat}(hB:∀v∈L,v.ys.length<=B)(hb:(L.length+1)*(B+64)<=549755813888):Few L B:=by
 refine⟨λ r=>⟨?_,Yr hp hr r⟩,hb⟩
 rcases U3 L r with e|⟨k,hk,e⟩
 ·rw[e];exact Nat.zero_le _
 ·rw[e];exact hB _ (eE hk)
theorem Kd(hp:cO L cs gen)(m:Int)(h:(bH (L.map aI.c) m).kind=5∨(bH (L.map aI.c) m).kind=6):(bH (L.map aI.c) m).xs=[]:=by
 rw[wY]
 rw[bG] at h
 exact Iw hp (show(aA L m).nd.kind≠3 from λ e=>by have h2:(aA L m).nd.kind=5∨(aA L m).nd.kind=6:=h;omega)
theorem Pd(h:eP w L cs pn pc)(hr:iG L)(hl:L.length<=274877906944)(hc:cs.length<=274877906944)(c:Int)(ro:Bool)(hi:c<=9223372036854775807):Calls Tryz.prog 59 #[iF L cs gen pn cn pc cc,.agg ⟨[.int .i64 c,.bool ro]⟩] w λ e w'=>e=.returned (.tuple #[.int .i64 ((yV L cs gen (eD (L.map aI.c) cs c)).getD 0),.bool (yV L cs gen (eD (L.map aI.c) cs c)).isSome])/\St w [] [] w':=by
 refine enter Tryz.func59 Tryz.ntmps59 rfl rfl h.start ?_;simp only[cP]
 simp only[iF]
 refine K0o ?_;intro x2 x3;refine Kd6 ?_;refine iH ?_;refine aD (c0 (V:=.bool) (hc:=λ w1 hw=>Pp (h.lB hw) hr hl hc)) (λ x7 h7=>?_);refine lA ?_;refine bA (λ c8=>?_) (λ c8=>?_)
 ·have hn:¬cO L cs gen:=λ hp=>by rw[h7.2 hp] at c8;cases c8
  refine Aw ?_;refine bK Tryz.results59 (λ w hw=>?_);unfold yV;rw[if_neg hn];exact⟨rfl,hw.done⟩
 ·have hp:cO L cs gen:=h7.1 (by simpa using c8);refine bB ?_;refine Kb0 ?_;refine aS (cV (hc:=λ w1 hw=>n5 (h.lB hw) (As hp hr hl) hl hc c ro hi)) (λ x11=>?_);refine J54 ?_;refine J8 ?_;refine bK Tryz.results59 (λ w hw=>?_);unfold yV;rw[if_pos hp];exact⟨rfl,hw.done⟩
open Classical in
noncomputable def Pj (L:List aI) (cs:List Int) (gen:Int) (c:Int):Option (List Pl×List Pr):=if cO L cs gen then(eD (L.map aI.c) cs c).bind λ r=>tU (L.map aI.c) cs 12 0 0 r [] [] else none
theorem K9(hp:cO L cs gen){c:Int}:Pj L cs gen c=(eD (L.map aI.c) cs c).bind λ r=>tU (L.map aI.c) cs 12 0 0 r [] []:=if_pos hp
theorem ad{c:Int}:(lD L cs gen c=none/\Pj L cs gen c=none)∨∃l q,lD L cs gen c=some l/\Pj L cs gen c=some q/\l=q.1.map Pl.i/\q.2=za (L.map aI.c) cs 12 (l.headD 0):=by
 by_cases hp:cO L cs gen
 ·rw[qC hp,K9 hp]
  cases hr:eD (L.map aI.c) cs c with
  | none=>exact .inl ⟨rfl,rfl⟩
  | some r =>
   simp only[Option.bind_some]
   have h:=Uj (N:=L.map aI.c) (cs:=cs) (Kd hp) 12 0 0 r [] [];cases hv:yX (L.map aI.c) cs 12 r [] with
   | none=>rw[hv] at h;exact .inl ⟨rfl,h⟩
   | some l =>
    rw[hv] at h
    obtain⟨q,e1,e2,e3⟩:=h
    obtain⟨t,ht⟩:=Na 12 r [] l hv
    refine .inr ⟨l,q,rfl,e1,e2,?_⟩;rw[ht,e3];rfl
 ·refine .inl ⟨?_,if_neg hp⟩;unfold lD;exact if_neg hp
theorem V7{B:Nat}{wp:Option Addr}{wc:Nat}{o:Option (List Pl×List Pr)}{x:En}(h:N0 L B wp wc [] o x):(o=none->x.ok=false)/\∀q,o=some q->x.ok=true/\x.l.map sJ.p=q.1/\x.ps=q.2/\(x.own=false->(x.pp,dK x.ps)∈bD L)/\x.l.length<=L.length+1:=by
 refine⟨λ e=>?_,λ q e=>?_⟩
 ·subst e;exact h.2
 ·subst e
  obtain⟨h1,h2,h3,h4,h5,h6,h7⟩:=h.2
  refine⟨h1,h2,h3,h5,?_⟩;have:=h6.len;rw[List.nil_append,List.length_map,<- h2,List.length_map] at this;exact this
theorem Ad(h:eP w L cs pn pc)(hr:iG L)(hl:L.length<=274877906944)(hc:cs.length<=274877906944){B:Nat}(hB:∀v∈L,v.ys.length<=B)(hBl:(L.length+1)*(B+64)<=549755813888)(c:Int)(ro:Bool)(hi:c<=9223372036854775807)(hn:Pj L cs gen c=none):Calls Tryz.prog 43 #[iF L cs gen pn cn pc cc,.agg ⟨[.int .i64 c,.bool ro]⟩] w λ e w'=>e=.returned (.tuple #[.slice none 0 0,.slice none 0 0,.bool false])/\St w [] [] w':=by
  refine enter Tryz.func43 Tryz.ntmps43 rfl rfl h.start ?_;simp only[cP]
  simp only[iF]
  refine K0o ?_;intro x2 x3;refine dL (λ _=>?_);refine J8 ?_;refine Kb0 ?_;refine aS (cV (hc:=λ w1 hw=>Pd (h.lB hw) hr hl hc c ro hi)) (λ x14=>?_);refine Kb1 ?_;refine lA ?_;refine bA (λ c18=>?_) (λ c18=>?_)
  · refine J0 ?_;refine dL (λ _=>?_);refine J8 ?_;refine bK Tryz.results43 (λ w hw=>?_)
    first
     | exact⟨rfl,hw.done⟩
  · have hp:cO L cs gen:=by
     by_cases hp:cO L cs gen
     · exact hp
     · exfalso;unfold yV at c18;rw[if_neg hp] at c18;simp at c18
    have hb:=As hp hr hl;have hir:yV L cs gen (eD (L.map aI.c) cs c)=eD (L.map aI.c) cs c:=if_pos hp;rw[hir] at c18 ⊢;obtain⟨r,hrt⟩:=Option.isSome_iff_exists.1 (show(eD (L.map aI.c) cs c).isSome=true by simpa using c18)
    obtain⟨k,rfl,hk⟩:=E1 hrt
    rw[K9 hp,hrt,Option.bind_some] at hn;rw[hrt,Option.getD_some];refine K1m ?_;refine qT (h:=λ x27=>?_);refine bL (i:=8) (hq:=(cM (hs:=[]) (os:=[mu L x27 (List.replicate (L.length+1) false)]) (hA:=bU.cons (.inr (.inl (.head _))) (bU.cons (.inr (.inl (.tail _ (.head _)))) (bU.cons (.inl rfl) (bU.of λ f hf=>.inr (.inl (.tail _ (.tail _ hf))))))) (hc:=λ w1 hs=>Hp h.fit hb hl hc (C3 hp hr) B x27 (Fm hp hr hB hBl) 12 0 rfl k 0 0 [] none 0 [] _ _ w1 hk rfl (Nat.le_refl _) (Vs.zero _) hs))) (h:=λ x28 h28=>?_);refine aL ?_;refine kQ ?_;refine kQ ?_;refine kQ ?_;refine nR (h:=λ _=>?_);refine Sq ?_;refine jL ?_;refine lA ?_;refine bA (λ c33=>?_) (λ c33=>?_)
    · refine J0 ?_;refine dL (λ _=>?_);refine J8 ?_;refine bK Tryz.results43 (λ w hw=>?_)
      first
       | exact⟨rfl,hw.done⟩
       | (exfalso;have h1:=(V7 h28).1 hn;rw[h1] at c33;simp at c33;done)
    · refine Cg ?_;refine dL (λ _=>?_);refine J8 ?_;refine bK Tryz.results43 (λ w hw=>?_)
      first
       | exact⟨rfl,hw.done⟩
       | (exfalso;have h1:=(V7 h28).1 hn;rw[h1] at c33;simp at c33;done)
theorem Ak(h:eP w L cs pn pc)(hr:iG L)(hl:L.length<=274877906944)(hc:cs.length<=274877906944){B:Nat}(hB:∀v∈L,v.ys.length<=B)(hBl:(L.length+1)*(B+64)<=549755813888)(c:Int)(ro:Bool)(hi:c<=9223372036854775807){q:List Pl×List Pr}(hn:Pj L cs gen c=some q):Calls Tryz.prog 43 #[iF L cs gen pn cn pc cc,.agg ⟨[.int .i64 c,.bool ro]⟩] w λ e w'=>∃x:En,e=.returned (.tuple #[.slice x.lp x.l.length x.lc,.slice x.pp x.ps.length x.pc,.bool true])/\(x.l.map sJ.p=q.1/\x.ps=q.2/\(x.own=false->(x.pp,dK x.ps)∈bD L)/\x.l.length<=L.length+1)/\SF w [] [] [] x.fr [] w':=by
 have hp:cO L cs gen:=by
  unfold Pj at hn
  split at hn
  ·assumption
  ·cases hn
 have hb:=As hp hr hl;rw[K9 hp] at hn;obtain⟨r,hrt,hn⟩:=Option.bind_eq_some_iff.1 hn
 obtain⟨k,rfl,hk⟩:=E1 hrt
 have hir:yV L cs gen (eD (L.map aI.c) cs c)=some ((k+1:Nat):Int):=by unfold yV;rw[if_pos hp,hrt]
 refine enter Tryz.func43 Tryz.ntmps43 rfl rfl h.start ?_;simp only[cP]
 simp only[iF]
 refine K0o ?_;intro x2 x3;refine dL (λ _=>?_);refine J8 ?_;refine Kb0 ?_;refine aS (cV (hc:=λ w1 hw=>by have:=Pd (gen:=gen) (cn:=cn) (cc:=cc) (h.lB hw) hr hl hc c ro hi;rw[hir] at this;exact this)) (λ x14=>?_);refine Kb1 ?_;refine lA ?_;refine bA (λ c18=>?_) (λ c18=>?_)
 ·simp at c18
 ·refine K1m ?_;refine qT (h:=λ x27=>?_);refine bL (i:=8) (hq:=(cM (hs:=[]) (os:=[mu L x27 (List.replicate (L.length+1) false)]) (hA:=bU.cons (.inr (.inl (.head _))) (bU.cons (.inr (.inl (.tail _ (.head _)))) (bU.cons (.inl rfl) (bU.of λ f hf=>.inr (.inl (.tail _ (.tail _ hf))))))) (hc:=λ w1 hs=>Hp h.fit hb hl hc (C3 hp hr) B x27 (Fm hp hr hB hBl) 12 0 rfl k 0 0 [] none 0 [] _ _ w1 hk rfl (Nat.le_refl _) (Vs.zero _) hs))) (h:=λ x28 h28=>?_);refine aL ?_;refine kQ ?_;refine kQ ?_;refine kQ ?_;refine nR (h:=λ _=>?_);refine Sq ?_;refine jL ?_;refine lA ?_;refine bA (λ c33=>?_) (λ c33=>?_)
  ·exfalso;rw[((V7 h28).2 _ hn).1] at c33;simp at c33
  ·refine Cg ?_;refine dL (λ _=>?_);refine J8 ?_;refine bK Tryz.results43 (λ w hw=>?_);obtain⟨h1,h2,h3,h4,h5⟩:=(V7 h28).2 _ hn
   rw[List.append_nil] at hw
   exact⟨x28,rfl,⟨h2,h3,h4,h5⟩,hw.zA0⟩
end
end

/- The program's shape, part 6: well-formed places. -/
end Go.Proofs.YtadnboagdhcedaaGreatDoor
namespace Go.Ct
section
theorem yh{lv k:Nat}{u:List Nat}{a b c:Nd}(h:u.length<11):(L6 lv u a b c).set (1+u.length) (.int .i64 ((k:Nat):Int))=L6 lv (u++[k]) a b c:=by
 unfold L6
 rw[Nat.add_comm 1 u.length,List.set_cons_succ,List.set_append_left _ _ (by rw[nX];exact h),px h]
end
end Go.Ct
namespace Go.Proofs.YtadnboagdhcedaaGreatDoor
section
open Go Go.RowKit Go.Ct
theorem Vh{L:List aI}{m:Nat}{R:Int}{u:List Nat}:WFn (L.map aI.c) m (bH (L.map aI.c) R) u↔mT (aA L R).nd.kind u.length/\C9 L (aA L R) u.length/\pHs L m (aA L R) u:=by
 have e:∀b,bH (L.map aI.c) b=(aA L b).c:=bG L;constructor
 ·intro h
  have h3:=h.h3;have hb:=h.br;simp only[e] at h h3 hb
  exact⟨h.kd,hb,h.h5,h.h6,h3⟩
 ·rintro ⟨h1,h2,h3⟩;have h4:=h3.h3;refine⟨?_,?_,?_,?_,?_⟩
  ·rw[e];exact h1
  ·simp only[e];exact h2
  ·rw[e];exact h3.h5
  ·rw[e];exact h3.h6
  ·simp only[e];exact h4
section
variable{L:List aI}{cs:List Int}{gen:Int}{m:Nat}{pn pc:Option Addr}{cn cc:Nat}
def wX(L:List aI)(cs:List Int):Prop:=∀i R,dB (L.map aI.c) cs i=some R->∃r:Nat,R=((r+1:Nat):Int)/\r<L.length/\MnO L cs (aA L i).nd r/\cC (aA L R).c
def WfC(L:List aI)(cs:List Int)(gen:Int)(m:Nat)(pn:Option Addr)(cn:Nat)(pc:Option Addr)(cc:Nat)(n:Nat):Prop :=
 ∀{w:World} {D:List Nat} {bk:Nat} {i R:Int} {u:List Nat} {c:Nd},SF w D [(bk,lJ L cs gen m pn cn pc cc)] (yO L cs pn pc) [] [] w->dB (L.map aI.c) cs i=some R->Sr (L.map aI.c) cs n i->u.length+n<=12 ->
  Calls Tryz.prog 37 #[.pointer (some ⟨bk,0,none⟩),.agg ⟨L6 u.length u (aA L i).nd (aA L R).nd c⟩] w λ e w'=>∃r:Bool,e=.returned (.bool r)/\(r=true↔Nt (L.map aI.c) cs m n i u c.gen)/\SF w D [(bk,lJ L cs gen m pn cn pc cc)] [] [] [] w'
theorem pi{n:Nat}{i R:Int}{u:List Nat}{g:Int}(hb:dB (L.map aI.c) cs i=some R):Nt (L.map aI.c) cs m (n+1) i u g↔(mT (aA L R).nd.kind u.length/\C9 L (aA L R) u.length/\pHs L m (aA L R) u)/\(u.length=0∨(aA L i).nd.gen<=g)/\∀j,j<(aA L R).xs.length->(aA L ((aA L R).xs.getD j 0)).nd.kind=2->Nt (L.map aI.c) cs m n ((aA L R).xs.getD j 0) (u++[((fZ (aA L R).nd.bm.toNat 64).getD j 0).toNat]) (aA L i).nd.gen:=by
 have e:∀b,bH (L.map aI.c) b=(aA L b).c:=bG L;rw[<- Vh];simp only[Nt]
 have eu:(u=[])↔u.length=0:=List.length_eq_zero_iff.symm;constructor
 ·rintro ⟨R',h1,h2,h3,h4⟩
  rw[hb] at h1
  cases h1
  refine⟨h2,?_,?_⟩
  ·rw[<- eu];rw[e] at h3;exact h3
  ·simp only[e] at h4;exact h4
 ·rintro ⟨h2,h3,h4⟩
  refine⟨R,hb,h2,?_,?_⟩
  ·rw[e,eu];exact h3
  ·simp only[e];exact h4
set_option maxRecDepth 100000 in
set_option maxHeartbeats 800000 in
theorem qa(ok:tM L)(hM:wX L cs)(hm:m<18446744073709551616)(hc:cs.length<=274877906944){n:Nat}(ih:WfC L cs gen m pn cn pc cc n):WfC L cs gen m pn cn pc cc (n+1):=by
  intro w D bk i R u c hs hb ht hun
  obtain⟨r,hR,hrl,hmo,hmk⟩:=hM i R hb
  obtain⟨V,hVe⟩:∃V,V=aA L R:=⟨_,rfl⟩
  have hV:V∈L:=by rw[hVe,hR,fG hrl];exact eE hrl
  have hVk:V.nd.kind=3∨V.nd.kind=5∨V.nd.kind=6:=by rw[hVe];exact hmk
  obtain⟨R',hb',hbr⟩:=ht
  rw[hb] at hb'
  cases hb'
  rw[bG L R] at hbr;have hiff:=pi (m:=m) (n:=n) (u:=u) (g:=c.gen) hb;rw[hiff];rw[<- hVe] at hbr ⊢;have hf:=ok.fit V hV;have hn:=hf.brN;have hl:=ok.len;obtain⟨bt,hbt,hbl,hb3,hb0⟩:=ok.bm V hV
  have hmem:=M7 (cs:=cs) (pn:=pn) (pc:=pc) hV;have hil:=pN bt 64;have hxl:V.nd.kind≠3->bt=0:=hb0;obtain⟨ix,hix⟩:∃ix,ix=fZ bt 64:=⟨_,rfl⟩
  have hixe:fZ V.nd.bm.toNat 64=ix:=by rw[hix,hbt];rfl
  rw[<- hix] at hil;rw[hixe];have hcl:=oY bt 64;have hx0:V.nd.kind≠3->V.xs=[]:=ok.no V hV;have hI:∀w1:World,Go.Ct.Cl w1 (some ⟨0,0,none⟩) (oH jB)->Calls Tryz.prog 58 #[.int .u64 V.nd.bm] w1 λ e w'=>∃x:Option Addr×Nat,e=.returned (.slice x.1 ix.length x.2)/\True/\SF w1 [] [] [] [(x.1,aH ix)] [] w':=λ w1 h=>by rw[hbt,hix];exact Dy hbl h
  have hi3:0<ix.length->V.nd.kind=3:=λ h=>Classical.byContradiction λ h3=>by have h0:=hb0 h3;rw[h0,Go.Ct.sM] at hil;omega
  have hlen:V.nd.kind=3->V.xs.length=ix.length:=λ h3=>by have:=hb3 h3;omega
  have hinn:∀y,0<=ix.getD y 0:=λ y=>by rw[hix];exact xG _ _ _
  have hix64:ix.length<=64:=by omega
  clear hixe hix hil hcl hb0 hb3 hxl hiff;refine enter Tryz.func37 Tryz.ntmps37 rfl rfl hs ?_;simp only[cP]
  refine K1r ?_;intro x3;refine gX ?_;refine iH ?_;refine aD (c0 (V:=.bool) (hc:=λ w1 hw=>tg _ _ _ _ _ w1)) (λ x10 h10=>?_);refine C6 ?_;(refine eM 12 (λ g12=>?_) (λ g12=>?_)<;>refine Ka0 ?_);all_goals (refine Ka2 ?_;(first|refine aJ ?_|(refine aF ?_;refine aD (cM (V:=.bool) (hs:=[(bk,lJ L cs gen m pn cn pc cc)]) (os:=[]) (hs':=λ _=>[(bk,lJ L cs gen m pn cn pc cc)]) (os':=λ _=>[]) (Fc:=λ _=>[]) (A0:=yO L cs pn pc) (hA:=bU.of λ f hf=>.inr (.inl hf)) (hc:=λ w1 hw=>zq hw hV hf (ok.br V hV) hl)) (λ x15 h15=>?_)));refine Nq ?_;refine aB ?_)
  all_goals (first|refine aJ ?_|(refine eM 18 (λ g18=>?_) (λ g18=>?_)<;>refine Ka0 ?_))
  all_goals (refine Ka2 ?_;(first|refine aJ ?_|(refine aF ?_;refine aD (cM (V:=.bool) (hs:=[(bk,lJ L cs gen m pn cn pc cc)]) (os:=[]) (hs':=λ _=>[(bk,lJ L cs gen m pn cn pc cc)]) (os':=λ _=>[]) (Fc:=λ _=>[]) (A0:=yO L cs pn pc) (hA:=bU.of λ f hf=>.inr (.inl hf)) (hc:=λ w1 hw=>aAX hw ok hV hVk hm (by omega) (λ h3=>by have hk:=h10.1 (by(simpa using g12;done));unfold mT at hk;omega))) (λ x21 h21=>?_)));refine Nq ?_;refine aB ?_)
  all_goals (first|refine aJ ?_|(refine eM 24 (λ g24=>?_) (λ g24=>?_)<;>refine Ka2 ?_))
  all_goals ((first|refine aJ ?_|(refine aF ?_;refine aD (c0 (V:=.bool) (hc:=λ w1 hw=>aAv _ _ _ _ _ w1)) (λ x26 h26=>?_)));refine Kd5 ?_)
  all_goals
   refine bA (λ c28=>?_) (λ c28=>?_)
   · all_goals try (first|contradiction|(exfalso;omega))
     all_goals refine cR ?_
     all_goals
      refine aR Tryz.results37 (λ w hw=>?_);refine⟨false,rfl,⟨λ h=>(nomatch h),λ hp=>?_⟩,hw.aQ⟩;obtain⟨⟨q1,q2,q3⟩,q4,_⟩:=hp
      exfalso
      first
       | (have:=h10.2 q1;simp_all;done)
       | (have:=h15.2 q2;simp_all;done)
       | (have:=h21.2 q3;simp_all;done)
       | (have:=h26.2 q4;simp_all;done)
   · try exact nv c28
     all_goals
      have p1:mT V.nd.kind u.length:=h10.1 (by(simpa using g12;done));have p2:C9 L V u.length:=h15.1 (by(simpa using g18;done));have p3:pHs L m V u:=h21.1 (by(simpa using g24;done));have p4:u.length=0∨(aA L i).nd.gen<=c.gen:=h26.1 (by(simpa using c28;done))
     all_goals (refine jH ?_;refine J0 ?_;refine Kc5 ?_;refine aD (cF (hc:=λ w1 hw=>hI w1 (hw.cl (.bO (.tail (.tail .head)))))) (λ x32 h32=>?_);refine Kc6 ?_)
     all_goals
      refine kK [4,5,6,7,8,34,35,36,37,38,39,40,41,42,43,44,45,46,47,48,49,50,51,52,53,54,55,56,57,58,59,60,61,62,63,64,65,66,67,68,69,70,71] (λ y:Nat=>[(34,.int .i64 ((y:Nat):Int))]) (λ y=>y<=ix.length/\∀j,j<y->(aA L (V.xs.getD j 0)).nd.kind=2->Nt (L.map aI.c) cs m n (V.xs.getD j 0) (u++[(ix.getD j 0).toNat]) (aA L i).nd.gen) (λ _=>_) (λ _=>[(x32.1,aH ix)]) (λ _=>_) (λ y=>ix.length-y) (0) (⟨Nat.zero_le _,λ k hk=>absurd hk (Nat.not_lt_zero k)⟩) (λ y f hx=>?_) (hw0:=λ w hw=>hw);refine K2p ?_;refine bA (λ c35=>?_) (λ c35=>?_)
      · try (first|contradiction|(exfalso;omega))
        have hyx:=hx.2;have hk3:V.nd.kind=3:=hi3 (by omega);have hxl3:=hlen hk3;have hyl:y<V.xs.length:=by omega
        have hu10:u.length<=10:=by unfold mT at p1;omega
        obtain⟨k,hk,hkl,hkm⟩:=ok.at hV (j:=y) hyl
        have hixy:=hinn y;have hixk:ix.getD y 0=(((ix.getD y 0).toNat:Nat):Int):=(Int.toNat_of_nonneg hixy).symm;have hbb:=hbr (V.xs.getD y 0) (by show _∈V.xs;rw[gF,List.getElem?_eq_getElem hyl];exact List.getElem_mem _);rw[bG L,hk] at hbb;refine K0s ?_;refine aD (cM (V:=λ _:Unit=>(aA L ((k+1:Nat):Int)).nd.v) (hs:=[(bk,lJ L cs gen m pn cn pc cc)]) (os:=[]) (hs':=λ _=>[(bk,lJ L cs gen m pn cn pc cc)]) (os':=λ _=>[]) (Fc:=λ _=>[]) (A0:=yO L cs pn pc) (hA:=bU.of λ f hf=>.inr (.inl hf)) (hc:=λ w1 hw=>by rw[hk];exact lI hw hkl hl)) (λ x46 h46=>?_);refine aT (λ x7=>?_);refine Ke6 ?_;refine Ka7 ?_;refine bA (λ c49=>?_) (λ c49=>?_)
        · try (first|contradiction|(exfalso;omega))
          refine bM rfl ?_;refine Ka8 ?_;refine K2b ?_
          · exact⟨by omega,Ds hyx (λ h2=>by rw[hk] at h2 ⊢;exact absurd h2 c49)⟩
        · try (first|contradiction|(exfalso;omega))
          have hk2:(aA L ((k+1:Nat):Int)).nd.kind=2:=by exact c49
          have ht2:Sr (L.map aI.c) cs n ((k+1:Nat):Int):=(hbb.resolve_left (λ h=>by have h':(aA L ((k+1:Nat):Int)).nd.kind=4:=h;omega)).2
          obtain⟨R2,hR2⟩:∃R2,dB (L.map aI.c) cs ((k+1:Nat):Int)=some R2:=by
           cases n with
           | zero=>exact ht2.elim
           | succ n=>obtain⟨R2,h,_⟩:=ht2;exact⟨R2,h⟩
          obtain⟨r2,hr2,hr2l,hmo2,hmk2⟩:=hM _ _ hR2
          refine jH ?_;refine eN [8,50,51,52,53,54,55,56,57,58,59,60,61] (λ j:Nat=>[(8,.pointer (some ⟨j,0,none⟩))]) (λ _=>True) (λ j=>[(j,.cells ⟨L6 (u.length+1) u (aA L ((k+1:Nat):Int)).nd (aA L ((r2+1:Nat):Int)).nd (aA L i).nd⟩ 93 (0,0)),(x7,.cells ⟨(aA L ((k+1:Nat):Int)).nd.cells⟩ 77 (0,0)),(x3,.cells ⟨L6 u.length u (aA L i).nd V.nd c⟩ 93 (0,0)),(bk,lJ L cs gen m pn cn pc cc)]) (λ _=>[(x32.1,aH ix)]) (λ _=>[]) (by decide) (λ _=>by exact rfl) ?_ (λ j f hx=>?_)
          · refine fY (.one 0 [] (.one 1 [] (.one 2 [] (.one 3 [] (.one 4 [] (.one 5 [] (.one 6 [] (.one 7 [] (.one 9 [] (.one 10 [] (.two 8 [1,4,5,10] (.one 11 [] (.one 12 [1,4,5,7,10] (.one 13 [] .nil))) 0 [] (.two 12 [1,4,5,7,10] (.one 8 [1,4,5,10] (.one 11 [] (.one 13 [] .nil))) 0 [] .nil)))))))))))) ?_;refine iT ?_;refine cS (i:=2) (hq:=(lT (m:=u.length) (n:=1) rf rf (by omega))) (h:=?_);refine aN ?_;refine bJ (i:=4) (hq:=(aW (k:=11) (vs:=Wv u) rf dI (by kernel_rfl) (by exact rfl) (nX u))) (h:=?_);refine aZ ?_;refine Kb7 ?_;refine aN ?_;refine bJ (i:=10) (hq:=(aW (k:=14) (vs:=(aA L i).nd.cells) rf dI dR (by exact rfl) rfl)) (h:=?_);refine fV (E:=[8,12]) (by decide +kernel) ((.cons ?_ (.cons ?_ .nil)))
            · refine mI (i:=8) (hq:=(cM (V:=λ _:Unit=>(aA L ((r2+1:Nat):Int)).nd.v) (hs:=[(bk,lJ L cs gen m pn cn pc cc)]) (os:=[]) (hs':=λ _=>[(bk,lJ L cs gen m pn cn pc cc)]) (os':=λ _=>[]) (Fc:=λ _=>[]) (A0:=yO L cs pn pc) (hA:=bU.of λ f hf=>.inr (.inl hf)) (hc:=λ w1 hw=>Bz hw hmo2 hr2l hl hc))) (hfire:=(λ _=>by(refine cQ ?_;(repeat (first|exact aG.nil|refine aG.cons (by first|exact bY|exact cG (hq:=aW (k:=11) (vs:=Wv u) rf dI (by kernel_rfl) (by exact rfl) (nX u))|exact cG (hq:=aW (k:=14) (vs:=(aA L i).nd.cells) rf dI dR (by exact rfl) rfl)) ?_));done))) (h:=λ x58 h58=>?_);refine K0w ?_;refine gG (hfire:=(λ _=>by((repeat (first|exact aG.nil|refine aG.cons (by first|exact bY|exact cG (hq:=aW (k:=11) (vs:=Wv u) rf dI (by kernel_rfl) (by exact rfl) (nX u))|exact cG (hq:=aW (k:=14) (vs:=(aA L i).nd.cells) rf dI dR (by exact rfl) rfl)) ?_));done))) (h:=λ x8=>?_);refine vF ?_;refine eQ (x8) ?_ (hw1:=λ w hw=>hw)
              · trivial
            · refine gW (i:=12) (hfire:=(λ _=>by((repeat (first|exact aG.nil|refine aG.cons (by first|exact bY|exact cG (hq:=aW (k:=11) (vs:=Wv u) rf dI (by kernel_rfl) (by exact rfl) (nX u))|exact cG (hq:=aW (k:=14) (vs:=(aA L i).nd.cells) rf dI dR (by exact rfl) rfl)) ?_));done))) (h:=λ x8=>?_);refine bL (i:=8) (hq:=(cM (V:=λ _:Unit=>(aA L ((r2+1:Nat):Int)).nd.v) (hs:=[(bk,lJ L cs gen m pn cn pc cc)]) (os:=[]) (hs':=λ _=>[(bk,lJ L cs gen m pn cn pc cc)]) (os':=λ _=>[]) (Fc:=λ _=>[]) (A0:=yO L cs pn pc) (hA:=bU.of λ f hf=>.inr (.inl hf)) (hc:=λ w1 hw=>Bz hw hmo2 hr2l hl hc))) (hfire:=(λ _=>by(refine cQ ?_;(repeat (first|exact aG.nil|refine aG.cons (by first|exact bY|exact cG (hq:=aW (k:=11) (vs:=Wv u) rf dI (by kernel_rfl) (by exact rfl) (nX u))|exact cG (hq:=aW (k:=14) (vs:=(aA L i).nd.cells) rf dI dR (by exact rfl) rfl)) ?_));done))) (h:=λ x58 h58=>?_);refine K0w ?_;refine vF ?_;refine eQ (x8) ?_ (hw1:=λ w hw=>hw)
              · trivial
          refine K0a ?_;refine Ka9 ?_;refine aC ?_;refine aE (V5 (e:=3) (n:=11) (k:=u.length) (b:=j) (o:=1) rf rf (by kernel_rfl) (by kernel_rfl) (by omega)) rfl ?_;refine eJ (jI λ _=>bZ (off:=1+u.length) (cs:=L6 (u.length+1) u (aA L ((k+1:Nat):Int)).nd (aA L ((r2+1:Nat):Int)).nd (aA L i).nd) (v:=.int .i64 (((ix.getD y 0).toNat:Nat):Int)) (cs':=L6 (u.length+1) (u++[(ix.getD y 0).toNat]) (aA L ((k+1:Nat):Int)).nd (aA L ((r2+1:Nat):Int)).nd (aA L i).nd) rf dI (by rw[<- hixk];exact rfl) rfl dC (Nat.ble_eq_true_of_le (show 1+u.length+1<=54 by omega)) (yh (by omega)) jX) (λ _=>?_);refine aK ?_;refine Kd2 ?_;refine aD (cM (V:=.bool) (hs:=[(bk,lJ L cs gen m pn cn pc cc)]) (os:=[]) (hs':=λ _=>[(bk,lJ L cs gen m pn cn pc cc)]) (os':=λ _=>[]) (Fc:=λ _=>[]) (A0:=yO L cs pn pc) (hA:=bU.of λ f hf=>.inr (.inl hf)) (hc:=λ w1 hw=>by have h9:=ih (i:=((k+1:Nat):Int)) (R:=((r2+1:Nat):Int)) (u:=u++[(ix.getD y 0).toNat]) (c:=(aA L i).nd) hw (by rw[hR2,hr2]) ht2 (by rw[List.length_append,List.length_singleton];omega);rw[List.length_append,List.length_singleton] at h9;exact h9)) (λ x69 h69=>?_);refine lA ?_;refine bA (λ c70=>?_) (λ c70=>?_)
          · try (first|contradiction|(exfalso;omega))
            refine cR ?_;refine aR Tryz.results37 (λ w hw=>?_);refine⟨false,rfl,⟨λ h=>(nomatch h),λ hp=>?_⟩,hw.aQ⟩;have h9:=hp.2.2 y hyl;rw[hk] at h9;have h12:=h69.2 (h9 hk2);exfalso;rw[h12] at c70
            first
             | exact absurd c70 (by decide)
             | (simp at c70;done)
          · try (first|contradiction|(exfalso;omega))
            refine Kc9 ?_;refine K2b ?_
            · exact⟨by omega,Ds hyx (λ h2=>by rw[hk] at h2 ⊢;(exact h69.1 (by(simpa using c70;done))))⟩
      · try (first|contradiction|(exfalso;omega))
        refine K0z ?_;refine aR Tryz.results37 (λ w hw=>?_);refine⟨true,rfl,⟨λ _=>⟨⟨p1,p2,p3⟩,p4,λ j hj h2=>hx.2 j ?_ h2⟩,λ _=>rfl⟩,hw.aQ⟩;have hy:y=ix.length:=by omega
        by_cases h3:V.nd.kind=3
        · have:=hlen h3;omega
        · have:=hf.brN;exact absurd hj (by rw[show V.xs=[] from hx0 h3];simp)
theorem cd(ok:tM L)(hM:wX L cs)(hm:m<18446744073709551616)(hc:cs.length<=274877906944):∀n,WfC L cs gen m pn cn pc cc n
 | 0=>λ _ _ ht _=>ht.elim
 | n+1=>qa ok hM hm hc (cd ok hM hm hc n)
end
end

/- Shape: what the walks need holds of proper states, so of memories with labels. -/
section
open Go Go.RowKit Go.Ct
section
variable{H:ByteArray->Nat}{σ:Kw}{L:List aI}{cs:List Int}{gen:Int}
theorem K2{n:Nv}(h:cC n):n.kind≠0:=by unfold cC at h;omega
theorem Lr{c:Int}(h1:1<=c)(h2:c<=cs.length):∃k:Nat,c=((k+1:Nat):Int)/\k<cs.length/\bV cs c=cs.getD k 0:=by
 obtain⟨k,rfl⟩:∃k:Nat,c=((k+1:Nat):Int):=⟨(c-1).toNat,by omega⟩
 exact⟨k,rfl,by omega,rX (by omega)⟩
theorem tR{r:Int}(h:(bH (L.map aI.c) r).kind≠0):∃k:Nat,r=((k+1:Nat):Int)/\k<L.length:=by
 have:=eF (N:=L.map aI.c) (i:=r) h;rw[List.length_map] at this;exact⟨(r-1).toNat,by omega,by omega⟩
theorem Jj(hp:cO L cs gen){k:Nat}(hk:k<L.length){c:Int}(hc:gD (L.getD k aI.zero).nd=some c):1<=c/\c<=cs.length:=by
 cases hm:marks cs.length (L.take (k+1)) with
 | none=>exact absurd (zU hm) hp.marks
 | some u =>
  rw[lU hk] at hm
  cases h2:marks cs.length (L.take k) with
  | none=>rw[h2] at hm;cases hm
  | some u2 =>
   rw[h2] at hm
   simp only[eZ,hc] at hm
   split at hm
   ·rename_i h
    have:=yN h2;omega
   ·cases hm
theorem nl(hp:cO L cs gen):wX L cs:=by
 intro i R hb
 have en:∀r,bH (L.map aI.c) r=(aA L r).c:=λ r=>bG L r;unfold dB at hb;split at hb
 case isFalse=>cases hb
 rename_i h1
 have hi:(bH (L.map aI.c) i).kind=2:=h1.1;have hm:cC (bH (L.map aI.c) (kC (L.map aI.c) cs i)):=h1.2;obtain⟨i',rfl,hil⟩:=tR (L:=L) (r:=i) (by omega)
 obtain⟨k,hk,hkl⟩:=tR (L:=L) (r:=kC (L.map aI.c) cs ((i'+1:Nat):Int)) (K2 hm)
 have hi2:=hi;have hm2:=hm;rw[en,fG hil] at hi2;rw[hk,en,fG hkl] at hm2;obtain⟨a1,a2⟩:=Jj hp hil (c:=(L.getD i' aI.zero).nd.main) (by unfold gD;exact if_pos hi2)
 obtain⟨b1,b2⟩:=Jj hp hkl (c:=(L.getD k aI.zero).nd.prev) (by unfold gD;rw[if_neg (by have:(L.getD k aI.zero).nd.kind=3∨(L.getD k aI.zero).nd.kind=5∨(L.getD k aI.zero).nd.kind=6:=hm2;omega)];exact if_pos hm2)
 obtain⟨c,hc,hcl,hcv⟩:=Lr a1 a2
 obtain⟨p,hq,hpl,hpv⟩:=Lr b1 b2
 have f1:(aA L ((i'+1:Nat):Int)).nd.main=((c+1:Nat):Int):=by rw[fG hil];exact hc
 have f2:(aA L ((k+1:Nat):Int)).nd.prev=((p+1:Nat):Int):=by rw[fG hkl];exact hq
 have hM:kC (L.map aI.c) cs ((i'+1:Nat):Int)=cs.getD c 0:=by
  unfold kC
  rw[en,fG hil,<- hcv]
  rfl
 have f3:cs.getD c 0=((k+1:Nat):Int):=by rw[<- hM];exact hk
 have f4:hX (L.map aI.c) cs ((i'+1:Nat):Int)=cs.getD p 0:=by
  unfold hX
  rw[hk,en,fG hkl,<- hpv]
  rfl
 split at hb
 ·rename_i h0
  cases hb
  refine⟨k,hk,hkl,⟨c,k,p,f1,hcl,f3,hkl,f2,hpl,.inl ⟨by rw[<- f4];exact h0,rfl⟩⟩,?_⟩
  rw[<- en];exact hm
 ·rename_i h0
  split at hb
  case isFalse=>cases hb
  rename_i hq
  cases hb
  obtain⟨r,hr,hrl⟩:=tR (L:=L) (r:=jU (L.map aI.c) cs ((i'+1:Nat):Int)) (K2 hq)
  have hpk:(bH (L.map aI.c) (hX (L.map aI.c) cs ((i'+1:Nat):Int))).kind≠0:=by
   by_cases h7:(bH (L.map aI.c) (hX (L.map aI.c) cs ((i'+1:Nat):Int))).kind=7
   ·rw[h7];decide
   ·have hq2:cC (bH (L.map aI.c) (jU (L.map aI.c) cs ((i'+1:Nat):Int))):=hq;unfold jU at hq2;rw[if_neg h7] at hq2;exact K2 hq2
  obtain⟨q,hqe,hql⟩:=tR (L:=L) (r:=hX (L.map aI.c) cs ((i'+1:Nat):Int)) hpk
  refine⟨r,hr,hrl,⟨c,k,p,f1,hcl,f3,hkl,f2,hpl,.inr ⟨q,by rw[<- f4];exact hqe,hql,?_⟩⟩,by rw[<- en];exact hq⟩
  by_cases h7:(bH (L.map aI.c) (hX (L.map aI.c) cs ((i'+1:Nat):Int))).kind=7
  ·refine .inl ⟨?_,?_⟩
   ·rw[en,hqe] at h7;exact h7
   ·have:jU (L.map aI.c) cs ((i'+1:Nat):Int)=(bH (L.map aI.c) (hX (L.map aI.c) cs ((i'+1:Nat):Int))).bO:=by unfold jU;rw[if_pos h7]
    rw[hr,en,hqe] at this
    exact this.symm
  ·refine .inr ⟨?_,?_⟩
   ·rw[en,hqe] at h7;exact h7
   ·have:jU (L.map aI.c) cs ((i'+1:Nat):Int)=hX (L.map aI.c) cs ((i'+1:Nat):Int):=by unfold jU;rw[if_neg h7]
    rw[hr,hqe] at this
    omega
theorem oj(hp:cO L cs gen)(hr:iG L)(hf:Fits L)(hl:L.length<=274877906944)(hh:∀v∈L,∃h:Nat,v.nd.hash=(h:Int)/\h<18446744073709551616):tM L:=by
 have at_:∀v∈L,kI gen L.length v:=λ v hv=>by
  obtain⟨k,hk,rfl⟩:=List.mem_iff_getElem.1 hv
  have:=hp.nodes k hk;rwa [gF,List.getElem?_eq_getElem hk] at this
 refine⟨hf,hl,hh,λ v hv=>?_,λ v hv h45=>?_,λ v hv p hq=>?_,λ v hv x hx=>?_,λ v hv h3=>?_⟩
 all_goals obtain⟨hv',_,hi⟩:=at_ v hv
 ·obtain⟨b,h1,h2⟩:=(hr v hv).bm
  refine⟨b,h1,h2,λ h3=>?_,λ h3=>?_⟩
  ·have:=(nK h3 hv').1;rw[h1,nL h2] at this;omega
  ·have h9:v.nd.bm=v.nd.own.bm:=hv'.1.2.2.2.1
   have h10:v.nd.own.bm=0:=by
    unfold Nd.own
    (repeat' split)<;>first|rfl|(exfalso;simp_all;done)
   omega
 ·have:=hv'.2.2.2.2;rcases this with h|h|h|h|h|h|h
  ·omega
  ·omega
  ·omega
  ·exact h.2
  ·omega
  ·omega
  ·omega
 ·have hys:v.ys=v.nd.gY v.ys:=hv'.1.2.2.2.2.2.2.2.2.1;by_cases h6:v.nd.kind=6
  ·have:=hv'.2.2.2.2;rcases this with h|h|h|h|h|h|h
   ·omega
   ·omega
   ·omega
   ·omega
   ·exact rY.1 h.2.2.2 p hq
   ·omega
   ·omega
  ·rw[hys] at hq
   unfold Nd.gY at hq
   rw[if_neg (by simpa using h6)] at hq
   exact nomatch hq
 ·have hxs:v.xs=v.nd.iB v.xs:=hv'.1.2.2.2.2.1;by_cases h3:v.nd.kind=3
  ·obtain⟨j,hj,rfl⟩:=List.mem_iff_getElem.1 hx
   have h2:=(nK h3 hv').2 j hj;have h4:=(hi.1 j hj).2;rw[gF,List.getElem?_eq_getElem hj] at h2 h4;exact⟨h2,h4⟩
  ·rw[hxs] at hx
   unfold Nd.iB at hx
   rw[if_neg (by simpa using h3)] at hx
   exact nomatch hx
 ·have hxs:v.xs=v.nd.iB v.xs:=hv'.1.2.2.2.2.1;rw[hxs];unfold Nd.iB;rw[if_neg (by simpa using h3)]
theorem xc(i0:Inv H σ)(e:σ.mm.nodes=L.map aI.c)(ec:σ.mm.cs=cs):wX L cs:=by
 have:=i0.prop;rw[ec] at this;exact nl (this.to e.symm)
theorem aB3(i0:Inv H σ)(e:σ.mm.nodes=L.map aI.c)(hr:iG L)(hf:Fits L)(hl:L.length<=274877906944):tM L:=by
 refine oj (i0.prop.to e.symm) hr hf hl λ v hv=>?_;obtain⟨k,hk,rfl⟩:=List.mem_iff_getElem.1 hv
 have hlen:(σ.len:Int)=L.length:=by show(σ.mm.nodes.length:Int)=_;rw[e,List.length_map]
 have er:σ.nd ((k+1:Nat):Int)=(L[k]).c:=by
  show bH σ.mm.nodes _=_
  rw[e,bG L,fG hk,gF,List.getElem?_eq_getElem hk]
  rfl
 obtain⟨b,h1,h2⟩:=(i0.nd ((k+1:Nat):Int) (by omega) (by omega)).bd.hash
 rw[er] at h1
 exact⟨b,h1,h2⟩
end
end

/- The reference of shape, part 4: Check of a trie. -/
end Go.Proofs.YtadnboagdhcedaaGreatDoor
namespace Go.Ct
section
structure PlF(N:List Nv)(cs:List Int)(p:Pl):Prop where
 body:dB N cs p.i=some p.m
 len:p.way.length=p.lv
 lv:p.lv<=11
 nn:∀x∈p.way,0<=x
 ab:p.a=0∨(bH N p.a).kind=2
theorem Ky{N:List Nv}{cs:List Int}{f:Int->List Int->List Int->Option (List Pl×List Pr)}{way idx:List Int}(hf:∀b k s q,f b (way++[idx.getD k 0]) s=some q->∀p∈q.1,PlF N cs p):∀(xs:List Int) (j:Nat) (s:List Int) (q:List Pl×List Pr),yQ N f way idx xs j s=some q->∀p∈q.1,PlF N cs p
 | [],j,s,q,h=>by
  simp only[yQ,Option.some.injEq] at h
  subst h
  exact λ p hp=>nomatch hp
 | b::r,j,s,q,h=>by
  simp only[yQ] at h
  split at h
  ·obtain⟨q2,h5,h6⟩:=Option.map_eq_some_iff.1 h
   subst h6
   exact Ky hf r (j+1) s q2 h5
  ·split at h
   ·obtain⟨q1,h5,h6⟩:=Option.bind_eq_some_iff.1 h
    obtain⟨q2,h7,h8⟩:=Option.map_eq_some_iff.1 h6
    subst h8
    intro p hp
    rcases List.mem_append.1 hp with hp|hp
    ·exact hf b j s q1 h5 p hp
    ·exact Ky hf r (j+1) _ q2 h7 p hp
   ·cases h
theorem Vz{N:List Nv}{cs:List Int}:∀(n:Nat) (a:Int) (lv:Nat) (i:Int) (way s:List Int) (q:List Pl×List Pr),tU N cs n a lv i way s=some q->way.length=lv->lv+n<=12->(∀x∈way,0<=x)->(a=0∨(bH N a).kind=2)->∀p∈q.1,PlF N cs p
 | 0,_,_,_,_,_,_,h,_,_,_,_=>nomatch h
 | n+1,a,lv,i,way,s,q,h,hl,hn,hw,ha=>by
  simp only[tU] at h
  split at h
  ·cases h
  obtain⟨m,hb,h⟩:=Option.bind_eq_some_iff.1 h
  have h0:PlF N cs ⟨i,m,a,lv,way⟩:=⟨hb,hl,by show lv<=11;omega,hw,ha⟩;split at h
  ·cases h
   intro p hp
   rw[List.mem_singleton.1 hp]
   exact h0
  ·obtain⟨q2,h7,h8⟩:=Option.map_eq_some_iff.1 h
   subst h8
   intro p hp
   rcases List.mem_cons.1 hp with rfl|hp
   ·exact h0
   ·refine Ky (λ b k s q hq=>Vz n i (lv+1) b _ s q hq (by rw[List.length_append,List.length_singleton,hl]) (by omega) (λ x hx=>?_) (.inr (nM hb).1)) _ _ _ _ h7 p hp;rcases List.mem_append.1 hx with hx|hx
    ·exact hw x hx
    ·rw[List.mem_singleton.1 hx]
     exact xG _ _ _
end
end Go.Ct
namespace Go.Proofs.YtadnboagdhcedaaGreatDoor
section
open Go Go.RowKit Go.Ct
theorem m7{l:List Int}(h:∀x∈l,0<=x):l=nA (l.map Int.toNat):=by
 unfold nA
 rw[List.map_map]
 conv=>lhs;rw[<- List.map_id l]
 exact List.map_congr_left λ x hx=>by
  have:=h x hx;show x=((x.toNat:Nat):Int)
  omega
section
variable{L:List aI}{cs:List Int}{gen:Int}{m:Nat}{pn pc wp:Option Addr}{cn cc wc:Nat}{w:World}
theorem qh(hp:cO L cs gen){r:Int}(h:(aA L r).nd.kind=6):(aA L r).ys≠[]:=by
 rcases U3 L r with e|⟨k,hk,e⟩
 ·rw[e] at h;exact absurd h (by decide)
 ·rw[e] at h ⊢;have:=(hp.nodes k hk).1.2.2.2.2;rcases this with h1|h1|h1|h1|h1|h1|h1
  ·omega
  ·omega
  ·omega
  ·omega
  ·intro e;rw[e] at h1;exact absurd h1.2.1 (by simp)
  ·omega
  ·omega
theorem aq(h:eP w L cs pn pc)(hp:cO L cs gen)(ok:tM L){v:sJ}(hv:PlF (L.map aI.c) cs v.p)(hW:Go.Ct.Cl w v.wp (aH v.p.way))(hm:m<18446744073709551616) :
  Calls Tryz.prog 44 #[iF L cs gen pn cn pc cc,.agg ⟨v.cells⟩,.int .u64 ((m:Nat):Int)] w λ e w'=>∃q:Bool,e=.returned (.bool q)/\(q=true↔vN (L.map aI.c) m v.p)/\St w [] [] w':=by
 have hl:=ok.len;obtain⟨k2,km⟩:=nM hv.body
 have e1:=m7 hv.nn;have el:(v.p.way.map Int.toNat).length=v.p.lv:=by rw[List.length_map,hv.len]
 have hin:∀x:Int,(bH (L.map aI.c) x).kind≠0->∃k:Nat,x=((k+1:Nat):Int)/\k<L.length:=λ x hx=>tR hx;obtain⟨k,hk,hkl⟩:=hin v.p.m (K2 km)
 obtain⟨k',hk',hkl'⟩:=hin v.p.i (by omega)
 have hV:aA L v.p.m∈L:=by rw[hk,fG hkl];exact eE hkl
 have ha:v.p.a<=9223372036854775807:=by
  rcases hv.ab with e|e
  ·omega
  ·obtain⟨k,hk,hkl⟩:=hin v.p.a (by omega);omega
 have hM:(aA L v.p.m).nd.kind=3∨(aA L v.p.m).nd.kind=5∨(aA L v.p.m).nd.kind=6:=by
  rw[bG] at km
  exact km
 have:=qz (gen:=gen) (cn:=cn) (cc:=cc) (wc:=v.wc) (i:=v.p.i) (a:=v.p.a) (m:=m) h ok rfl hV hM (qh hp) (u:=v.p.way.map Int.toNat) (by rw[el];exact hv.lv) (by omega) (by omega) ha (by rw[<- e1];exact hW) hm;rw[el] at this
 have e2:v.cells=[.int .i64 v.p.i,.int .i64 v.p.m,.int .i64 v.p.a,.int .i64 ((v.p.lv:Nat):Int),.slice v.wp v.p.lv v.wc]:=by
  unfold sJ.cells
  rw[hv.len]
 rw[e2];refine this.mono ?_;rintro e w' ⟨q,e3,h3,h4⟩;refine⟨q,e3,h3.trans ?_,h4⟩;unfold A9 vN;rw[Vh,bG,bG];exact Iff.rfl
end
end

/- Shape: the depth of a trie is the greatest level of its places. -/
end Go.Proofs.YtadnboagdhcedaaGreatDoor
namespace Go.Ct
section
def Pf(N:List Nv)(f:Int->Nat):List Int->Nat->Nat
 | [],acc=>acc
 | b::r,acc=>Pf N f r (if(bH N b).kind=2 then max acc (1+f b) else acc)
def Wn(N:List Nv)(cs:List Int):Nat->Int->Nat
 | 0,_=>0
 | n+1,i=>Pf N (Wn N cs n) (bH N ((dB N cs i).getD 0)).xs 0
structure Ws(l:List Pl)(d:Nat):Prop where
 all:∀p∈l,p.lv<=d
 one:∃p∈l,p.lv=d
theorem Mb{N:List Nv}{f:Int->List Int->List Int->Option (List Pl×List Pr)}{way idx:List Int}{g:Int->Nat}{lv:Nat}(hf:∀b w s q,f b w s=some q->Ws q.1 (lv+1+g b)):∀(xs:List Int) (j:Nat) (s:List Int) (q:List Pl×List Pr) (acc:Nat),yQ N f way idx xs j s=some q->(∀p∈q.1,p.lv<=lv+Pf N g xs acc)/\acc<=Pf N g xs acc/\(Pf N g xs acc=acc∨∃p∈q.1,p.lv=lv+Pf N g xs acc)
 | [],j,s,q,acc,h=>by
  simp only[yQ,Option.some.injEq] at h
  subst h
  exact⟨λ p hp=>(nomatch hp),Nat.le_refl _,.inl rfl⟩
 | b::r,j,s,q,acc,h=>by
  simp only[yQ] at h
  split at h
  ·rename_i h4
   obtain⟨q2,h5,h6⟩:=Option.map_eq_some_iff.1 h
   subst h6;have ih:=Mb hf r (j+1) s q2 acc h5;simp only[Pf]
   rw[if_neg (by rw[h4];decide)]
   exact ih
  ·split at h
   ·rename_i h4 h2
    obtain⟨q1,h5,h6⟩:=Option.bind_eq_some_iff.1 h
    obtain⟨q2,h7,h8⟩:=Option.map_eq_some_iff.1 h6
    subst h8
    obtain⟨i1,i2,i3⟩:=Mb hf r (j+1) _ q2 (max acc (1+g b)) h7
    have h9:=hf b _ _ _ h5;simp only[Pf]
    rw[if_pos h2]
    refine⟨λ p hp=>?_,by omega,?_⟩
    ·rcases List.mem_append.1 hp with hp|hp
     ·have:=h9.all p hp;omega
     ·exact i1 p hp
    ·rcases i3 with i3|⟨p,hp,e⟩
     ·by_cases ha:1+g b<=acc
      ·exact .inl (by omega)
      ·obtain⟨p,hp,e⟩:=h9.one
       exact .inr ⟨p,List.mem_append_left _ hp,by omega⟩
     ·exact .inr ⟨p,List.mem_append_right _ hp,e⟩
   ·cases h
theorem U4{N:List Nv}{cs:List Int}(hx:∀r,(bH N r).kind=5∨(bH N r).kind=6->(bH N r).xs=[]):∀(n:Nat) (a:Int) (lv:Nat) (i:Int) (way s:List Int) (q:List Pl×List Pr),tU N cs n a lv i way s=some q->Ws q.1 (lv+Wn N cs n i)
 | 0,a,lv,i,way,s,q,h=>nomatch h
 | n+1,a,lv,i,way,s,q,h=>by
  simp only[tU] at h
  split at h
  ·cases h
  obtain⟨r,hb,h⟩:=Option.bind_eq_some_iff.1 h
  simp only[Wn,hb,Option.getD_some]
  split at h
  ·rename_i hk
   cases h
   rw[hx r hk]
   exact⟨λ p hp=>by rw[List.mem_singleton.1 hp];exact Nat.le_add_right _ _,_,List.mem_singleton.2 rfl,rfl⟩
  ·obtain⟨q2,h2,h3⟩:=Option.map_eq_some_iff.1 h
   subst h3
   obtain⟨k1,k2,k3⟩:=Mb (g:=Wn N cs n) (lv:=lv) (λ b w s q hq=>U4 hx n _ _ _ _ _ _ hq) _ _ _ _ 0 h2
   refine⟨λ p hp=>?_,?_⟩
   ·rcases List.mem_cons.1 hp with rfl|hp
    ·exact Nat.le_add_right _ _
    ·exact k1 p hp
   ·rcases k3 with k3|⟨p,hp,e⟩
    ·exact⟨_,List.mem_cons_self ..,by show lv=_;omega⟩
    ·exact⟨p,List.mem_cons_of_mem _ hp,e⟩
end

end Go.Ct

/- Views: Contents and Inner. -/
import Derived.Test.YtadnboagdhcedaaGreatDoorGSh12
import Derived.Test.YtadnboagdhcedaaGreatDoorGPc2
import Derived.Test.YtadnboagdhcedaaGreatDoorGPaX

set_option linter.unusedSimpArgs false
set_option linter.unusedVariables false
namespace Go.Proofs.YtadnboagdhcedaaGreatDoor
section
open Go Go.RowKit Go.Ct
section
variable{L:List aL}{cs:List Int}{gen:Int}{pn pc:Option Addr}{cn cc:Nat}{w:World}
theorem D9(h:gS w L cs pn pc)(hl:L.length<=274877906944)(hc:cs.length<=274877906944)(hcn:L.length<=cn)(hp:dM L cs gen):Calls Tryz.prog 52 #[pW L cs gen pn cn pc cc] w λ e w'=>e=.returned (.bool true)/\St w [] [] w':=by
 refine enter Tryz.func52 Tryz.ntmps52 rfl rfl h.start ?_
 simp only[cP]
 simp only[pW]
 refine J0 ?_;refine bP (λ x1=>?_);refine J1 ?_;refine kN ?_;refine aC (V0 (hc:=λ w1 hw=>s6 (h.Fa hw) hl hc hcn hp)) (λ x7 h7=>?_);refine Ka8 ?_;refine J2 ?_;refine Qd ?_
 refine aQ Tryz.results52 (λ w hw=>?_)
 exact⟨rfl,hw.done⟩
theorem Of(h:gS w L cs pn pc)(hl:L.length<=274877906944)(hc:cs.length<=274877906944)(hp:¬dM L cs gen):Calls Tryz.prog 52 #[pW L cs gen pn cn pc cc] w λ e w'=>e=.returned (.bool false)/\St w [] [] w':=by
 refine enter Tryz.func52 Tryz.ntmps52 rfl rfl h.start ?_
 simp only[cP]
 simp only[pW]
 refine J0 ?_;refine bP (λ x1=>?_);refine J1 ?_;refine kN ?_;refine aU (cV (hc:=λ w1 hw=>tp (h.Fa hw) hl hc hp)) (λ x7=>?_);refine Ka8 ?_;refine J2 ?_;refine Qd ?_
 refine aQ Tryz.results52 (λ w hw=>?_)
 exact⟨rfl,hw.done⟩
theorem Gz(h:gS w L cs pn pc)(hl:L.length<=274877906944)(hc:cs.length<=274877906944)(hcn:L.length<=cn):Calls Tryz.prog 52 #[pW L cs gen pn cn pc cc] w λ e w'=>∃r:Bool,e=.returned (.bool r)/\(r=true↔dM L cs gen)/\St w [] [] w':=by
 by_cases hp:dM L cs gen
 ·exact(D9 h hl hc hcn hp).mono λ _ _ h=>⟨true,h.1,⟨λ _=>hp,λ _=>rfl⟩,h.2⟩
 ·exact(Of h hl hc hp).mono λ _ _ h=>⟨false,h.1,⟨(λ h=>nomatch h),λ h=>absurd h hp⟩,h.2⟩
theorem Oz(hp:dM L cs gen)(hr:uM L)(hl:L.length<=274877906944):yr L cs:=by
 have hd:∀x:Int,Db x L.length->x<=9223372036854775807:=λ x h=>by have:=h.2;omega
 refine⟨λ c=>?_,λ r=>?_,λ r=>?_,λ r=>?_,λ r=>?_,λ r=>?_,λ r=>?_⟩
 ·unfold bV
  split
  ·exact hd _ (hp.cells _ (by omega))
  ·decide
 ·unfold aA
  split
  ·exact hd _ (hp.nodes (r-1).toNat (by omega)).2.2.2.1
  ·decide
 ·unfold aA
  split
  ·exact hd _ (hp.nodes (r-1).toNat (by omega)).2.2.2.2.2
  ·decide
 ·unfold aA
  split
  ·exact(hr _ (eV (by omega))).main
  ·decide
 ·unfold aA
  split
  ·exact(hr _ (eV (by omega))).prev
  ·decide
 ·unfold aA
  split
  ·exact(hr _ (eV (by omega))).status
  ·decide
 ·unfold aA
  split
  ·intro b hb
   obtain⟨i,hi,rfl⟩:=List.mem_iff_getElem.1 hb
   have:=(hp.nodes (r-1).toNat (by omega)).2.2.1 i hi
   rw[fM,List.getElem?_eq_getElem hi] at this
   exact hd _ this
  ·intro b hb
   cases hb
open Classical in
noncomputable def wB (L:List aL) (cs:List Int) (gen:Int) (c:Int):Option (List Int):=if dM L cs gen then(fN (L.map aL.c) cs c).bind λ r=>A7 (L.map aL.c) cs 12 r [] else none
theorem qC(hp:dM L cs gen){c:Int}:wB L cs gen c=(fN (L.map aL.c) cs c).bind λ r=>A7 (L.map aL.c) cs 12 r []:=if_pos hp
theorem Gt{o:Option (List Int)}{b:Bool}{q:VQ}{P:Prop}(h:jr o b q/\P)(ho:o=none)(hb:b=true):False:=by
 have h1:=h.1
 rw[ho,hb] at h1
 exact nomatch (show true=false from h1)
theorem o5(h:gS w L cs pn pc)(hr:uM L)(hl:L.length<=274877906944)(hc:cs.length<=274877906944)(hcn:L.length<=cn)(c:Int)(ro:Bool)(hi:c<=9223372036854775807)(hn:wB L cs gen c=none):Calls Tryz.prog 51 #[pW L cs gen pn cn pc cc,.agg ⟨[.int .i64 c,.bool ro]⟩] w λ e w'=>e=.returned (.tuple #[.pointer none,.bool false])/\St w [] [] w':=by
 refine enter Tryz.func51 Tryz.ntmps51 rfl rfl (h.start.kT 62 1) ?_
 simp only[cP]
 simp only[pW]
 refine J0 ?_;refine bP (λ x2=>?_);refine bP (λ x3=>?_);refine J8 ?_;refine aR ?_;refine kN ?_;refine aC (c0 (V:=.bool) (hc:=λ w1 hw=>Gz (h.Fa hw) hl hc hcn)) (λ x10 h10=>?_);refine mS ?_
 refine aZ (λ c11=>?_) (λ c11=>?_)
 ·refine F5 ?_
  refine bK Tryz.results51 (λ w hw=>?_)
  first
  | exact⟨rfl,hw.done⟩
 ·have hp:dM L cs gen:=h10.1 (by simpa using c11)
  have hb:=Oz hp hr hl
  rw[qC hp] at hn
  refine bA ?_;refine kN ?_;refine bN ?_;refine aU (cV (hc:=λ w1 hw=>Ju (h.Fa hw) hb hl hc c ro hi)) (λ x15=>?_);refine Kb9 ?_;refine mS ?_
  refine aZ (λ c19=>?_) (λ c19=>?_)
  ·refine F5 ?_
   refine bK Tryz.results51 (λ w hw=>?_)
   first
   | exact⟨rfl,hw.done⟩
  ·obtain⟨r,hrt⟩:=Option.isSome_iff_exists.1 (show(fN (L.map aL.c) cs c).isSome=true by simpa using c19)
   obtain⟨k,rfl,hk⟩:=Sm hrt
   rw[hrt,Option.bind_some] at hn
   rw[hrt,Option.getD_some]
   refine jM ?_;refine eG [(0,[]),(1,[]),(2,[]),(3,[]),(4,[0]),(5,[]),(6,[]),(7,[])] ?_;refine bO ?_;refine mB ?_;refine lK ?_;refine Bg (h:=λ x24=>?_);refine jF ?_;refine Xo (h:=λ x26=>?_);refine J7 ?_;refine Fz ?_;refine aC (cM (hs:=[(x26,n5 L cs gen pn cn pc cc x24 ⟨[],List.replicate L.length false,none,0⟩ none [] 0)]) (os:=oq L x24 ⟨[],List.replicate L.length false,none,0⟩) (hc:=λ w1 hs=>Kj h.fit hb hl hc x26 x24 none [] 0 12 0 rfl k ⟨[],List.replicate L.length false,none,0⟩ _ w1 hk (V2.zero _) hs)) (λ x29 h29=>?_);refine mS ?_
   refine aZ (λ c30=>?_) (λ c30=>?_)
   ·refine F5 ?_
    refine bK Tryz.results51 (λ w hw=>?_)
    first
    | exact⟨rfl,hw.done⟩
    | exact(Gt h29 hn (by simpa using c30)).elim
   ·refine bA ?_;refine J2 ?_;refine J8 ?_
    refine bK Tryz.results51 (λ w hw=>?_)
    first
    | exact⟨rfl,hw.done⟩
    | exact(Gt h29 hn (by simpa using c30)).elim
theorem Md(h:gS w L cs pn pc)(hr:uM L)(hl:L.length<=274877906944)(hc:cs.length<=274877906944)(hcn:L.length<=cn)(c:Int)(ro:Bool)(hi:c<=9223372036854775807){l:List Int}(hn:wB L cs gen c=some l):Calls Tryz.prog 51 #[pW L cs gen pn cn pc cc,.agg ⟨[.int .i64 c,.bool ro]⟩] w λ e w'=>∃x:Nat×Nat×VQ,e=.returned (.tuple #[.pointer (some ⟨x.1,0,none⟩),.bool true])/\(x.2.2.l=l/\l.length<=L.length)/\SF w [] [(x.1,n5 L cs gen pn cn pc cc x.2.1 x.2.2 none [] 0)] [] [] (oq L x.2.1 x.2.2) w':=by
 have hp:dM L cs gen:=by
  unfold wB at hn
  split at hn
  ·assumption
  ·cases hn
 have hb:=Oz hp hr hl
 rw[qC hp] at hn
 obtain⟨r,hrt,hn⟩:=Option.bind_eq_some_iff.1 hn
 obtain⟨k,rfl,hk⟩:=Sm hrt
 refine enter Tryz.func51 Tryz.ntmps51 rfl rfl (h.start.kT 62 1) ?_
 simp only[cP]
 simp only[pW]
 refine J0 ?_;refine bP (λ x2=>?_);refine bP (λ x3=>?_);refine J8 ?_;refine aR ?_;refine kN ?_;refine aU (cV (hc:=λ w1 hw=>D9 (h.Fa hw) hl hc hcn hp)) (λ x10=>?_);refine mS ?_
 refine aZ (λ c11=>?_) (λ c11=>?_)
 ·exact nv c11
 ·refine bA ?_;refine kN ?_;refine bN ?_;refine aU (cV (hc:=λ w1 hw=>by have:=Ju (gen:=gen) (cn:=cn) (cc:=cc) (h.Fa hw) hb hl hc c ro hi;rw[hrt] at this;exact this)) (λ x15=>?_);refine Kb9 ?_;refine mS ?_
  refine aZ (λ c19=>?_) (λ c19=>?_)
  ·simp at c19
  ·refine jM ?_;refine eG [(0,[]),(1,[]),(2,[]),(3,[]),(4,[0]),(5,[]),(6,[]),(7,[])] ?_;refine bO ?_;refine mB ?_;refine lK ?_;refine Bg (h:=λ x24=>?_);refine jF ?_;refine Xo (h:=λ x26=>?_);refine J7 ?_;refine Fz ?_;refine aC (cM (hs:=[(x26,n5 L cs gen pn cn pc cc x24 ⟨[],List.replicate L.length false,none,0⟩ none [] 0)]) (os:=oq L x24 ⟨[],List.replicate L.length false,none,0⟩) (hc:=λ w1 hs=>Kj h.fit hb hl hc x26 x24 none [] 0 12 0 rfl k ⟨[],List.replicate L.length false,none,0⟩ _ w1 hk (V2.zero _) hs)) (λ x29 h29=>?_);refine mS ?_
   refine aZ (λ c30=>?_) (λ c30=>?_)
   ·exfalso
    have h1:=h29.1
    rw[hn] at h1
    have h2:=h1.1
    simp_all
   ·refine bA ?_;refine J2 ?_;refine J8 ?_
    refine bK Tryz.results51 (λ w hw=>?_)
    have h1:=h29.1
    rw[hn] at h1
    exact⟨(x26,x24,x29.2),rfl,⟨h1.2,by rw[<- h1.2];exact h29.2.len⟩,hw.ret (List.Sublist.cons_cons _ (List.nil_sublist _)) (aW.oP λ f hf=>(List.not_mem_nil hf).elim) (List.Sublist.refl _)⟩
end
end

/- Views of the Shape seat: Inner and Root (as in Vw6, Vw8, without Contents, which its program lacks). -/
section
open Go Go.RowKit Go.Ct
section
variable{L:List aL}{cs:List Int}{gen:Int}{pn pc:Option Addr}{cn cc:Nat}{w:World}
theorem wX(h:gS w L cs pn pc)(hr:uM L)(hl:L.length<=274877906944)(hc:cs.length<=274877906944)(hcn:L.length<=cn)(c:Int)(ro:Bool)(hi:c<=9223372036854775807){l:List Int}(hn:wB L cs gen c=some l):Calls Tryz.prog 34 #[pW L cs gen pn cn pc cc,.agg ⟨[.int .i64 c,.bool ro]⟩] w λ e w'=>∃x:Option Addr×Nat,e=.returned (.tuple #[.slice x.1 l.length x.2,.int .i64 0])/\l.length<=L.length/\SF w [] [] [] [(x.1,aG l)] [] w':=by
 refine enter Tryz.func34 Tryz.ntmps34 rfl rfl h.start ?_
 simp only[cP]
 simp only[pW]
 refine J0 ?_;refine bP (λ x2=>?_);refine bP (λ x3=>?_);refine J8 ?_;refine kN ?_;refine bN ?_;refine aC (V0 (Fc:=λ _=>[]) (hc:=λ w1 hw=>Md (h.Fa hw) hr hl hc hcn c ro hi hn)) (λ x11 h11=>?_);refine Kb9 ?_;refine mS ?_
 refine aZ (λ c15=>?_) (λ c15=>?_)
 ·exact nv c15
 ·refine vi ?_;refine J8 ?_
  refine bK Tryz.results34 (λ w hw=>?_)
  obtain⟨e1,e2⟩:=h11
  rw[e1] at hw ⊢
  exact⟨(x11.2.2.p,x11.2.2.c),rfl,e2,(hw.freeze (.tail .head)).fin⟩
open Classical in
noncomputable def Nh (L:List aL) (cs:List Int) (gen:Int) (o:Option Int):Option Int:=if dM L cs gen then o else none
theorem Gs(h:gS w L cs pn pc)(hr:uM L)(hl:L.length<=274877906944)(hc:cs.length<=274877906944)(hcn:L.length<=cn)(c:Int)(ro:Bool)(hi:c<=9223372036854775807):Calls Tryz.prog 35 #[pW L cs gen pn cn pc cc,.agg ⟨[.int .i64 c,.bool ro]⟩] w λ e w'=>e=.returned (.tuple #[.int .i64 ((Nh L cs gen (fN (L.map aL.c) cs c)).getD 0),.bool (Nh L cs gen (fN (L.map aL.c) cs c)).isSome])/\St w [] [] w':=by
 refine enter Tryz.func35 Tryz.ntmps35 rfl rfl h.start ?_
 simp only[cP]
 simp only[pW]
 refine J0 ?_;refine bP (λ x2=>?_);refine bP (λ x3=>?_);refine J8 ?_;refine aR ?_;refine kN ?_;refine aC (c0 (V:=.bool) (hc:=λ w1 hw=>Gz (h.Fa hw) hl hc hcn)) (λ x7 h7=>?_);refine mS ?_
 refine aZ (λ c8=>?_) (λ c8=>?_)
 ·have hn:¬dM L cs gen:=λ hp=>by rw[h7.2 hp] at c8;cases c8
  refine F5 ?_
  refine bK Tryz.results35 (λ w hw=>?_)
  unfold Nh
  rw[if_neg hn]
  exact⟨rfl,hw.done⟩
 ·have hp:dM L cs gen:=h7.1 (by simpa using c8)
  refine bA ?_;refine kN ?_;refine bN ?_;refine aU (cV (hc:=λ w1 hw=>Ju (h.Fa hw) (Oz hp hr hl) hl hc c ro hi)) (λ x11=>?_);refine J54 ?_;refine J8 ?_
  refine bK Tryz.results35 (λ w hw=>?_)
  unfold Nh
  rw[if_pos hp]
  exact⟨rfl,hw.done⟩
end
end

/- The program's shape, part 7: Check of a trie. -/
section
open Go Go.RowKit Go.Ct
section
variable{L:List aL}{cs:List Int}{gen:Int}{m:Nat}{pn pc:Option Addr}{cn cc:Nat}{w:World}
theorem So(h:gS w L cs pn pc)(hT:Go.Ct.Cl w (some ⟨0,0,none⟩) (nG iB)):SF w [] [] (vD L cs pn pc) [] [] w:=SF.begin λ f hf=>by
 rcases List.mem_cons.1 hf with rfl|hf
 ·exact h.nds
 rcases List.mem_cons.1 hf with rfl|hf
 ·exact h.cls
 rcases List.mem_cons.1 hf with rfl|hf
 ·exact hT
 ·exact h.fam f hf
set_option maxRecDepth 100000 in
set_option maxHeartbeats 1000000 in
theorem Tj(h:gS w L cs pn pc)(hT:Go.Ct.Cl w (some ⟨0,0,none⟩) (nG iB))(ok:B6 L)(hM:yJ L cs)(hp:dM L cs gen)(hr:uM L)(hc:cs.length<=274877906944)(hcn:L.length<=cn)(hm:m<18446744073709551616)(c:Int)(ro:Bool)(hi:c<=9223372036854775807){l:List Int}(hn:wB L cs gen c=some l){r:Int}(hro:fN (L.map aL.c) cs c=some r)(ht:Nt (L.map aL.c) cs 12 r) :
  Calls Tryz.prog 11 #[pW L cs gen pn cn pc cc,.agg ⟨[.int .i64 c,.bool ro]⟩,.int .u64 ((m:Nat):Int)] w λ e w'=>∃q:Bool,e=.returned (.int .i64 (if q=true then 0 else 8))/\(q=true↔Vw (L.map aL.c) cs m 12 r [] 0)/\SF w [] [] [] [] [] w':=by
 have hl:=ok.len
 obtain⟨R,hR,_⟩:∃R,eK (L.map aL.c) cs r=some R/\True:=by obtain⟨R,h1,_⟩:=ht;exact⟨R,h1,trivial⟩
 obtain⟨k,hk,hkl⟩:∃k:Nat,r=((k+1:Nat):Int)/\k<L.length:=by
  have h2:(cA (L.map aL.c) r).kind=2:=by
   unfold eK at hR
   split at hR
   ·rename_i h1;exact h1.1
   ·cases hR
  have:=dD (N:=L.map aL.c) (i:=r) (by omega)
  rw[List.length_map] at this
  exact⟨(r-1).toNat,by omega,by omega⟩
 obtain⟨r2,hr2,hr2l,hmo,_⟩:=hM _ _ hR
 have wf:WfC L cs gen m pn cn pc cc 12:=aw ok hM hm hc 12
 subst hk hr2
 refine enter Tryz.func11 Tryz.ntmps11 rfl rfl (So h hT) ?_
 simp only[cP]
 simp only[pW]
 refine J0 ?_;refine bP (λ x3=>?_);refine bP (λ x4=>?_);refine gP ?_;refine kN ?_;refine bN ?_;refine aC (cF (Fc:=λ x:Option Addr×Nat=>[(x.1,aG l)]) (hc:=λ w1 hw=>wX (hw.tH (.inr (.inl (.head _))) (.inr (.inl (.tail _ (.head _)))) (λ f hf=>.inr (.inl (.tail _ (.tail _ (.tail _ hf))))) h.fit) hr hl hc hcn c ro hi hn)) (λ x16 h16=>?_);refine Ka8 ?_;refine J2 ?_;refine Kc0 ?_
 refine aZ (λ c20=>?_) (λ c20=>?_)
 ·exact nv c20
 ·try (first|contradiction|(exfalso;omega))
  refine bA ?_;refine kN ?_;refine bN ?_;refine aU (cV (v:=.tuple #[.int .i64 ((k+1:Nat):Int),.bool true]) (hc:=λ w1 hw=>by have h9:=Gs (gen:=gen) (cc:=cc) (hw.tH (.inr (.inl (.head _))) (.inr (.inl (.tail _ (.head _)))) (λ f hf=>.inr (.inl (.tail _ (.tail _ (.tail _ hf))))) h.fit) hr hl hc hcn c ro hi;rw[show Nh L cs gen (fN (L.map aL.c) cs c)=some ((k+1:Nat):Int) by unfold Nh;rw[if_pos hp,hro]] at h9;exact h9)) (λ x24=>?_);refine Kb9 ?_;refine mS ?_
  refine aZ (λ c28=>?_) (λ c28=>?_)
  ·exact nv c28
  ·try (first|contradiction|(exfalso;omega))
   refine bA ?_;refine Bx ?_;refine bD ?_;refine bP (λ x32=>?_);refine sV ?_;refine aC (cM (V:=λ _:Unit=>(aA L ((k+1:Nat):Int)).nd.v) (hs:=[(x32,jU L cs gen m pn cn pc cc)]) (os:=[]) (hs':=λ _=>[(x32,jU L cs gen m pn cn pc cc)]) (os':=λ _=>[]) (Fc:=λ _=>[]) (A0:=vD L cs pn pc) (hA:=bQ.of λ f hf=>.inr (.inl hf)) (hc:=λ w1 hw=>jN hw hkl hl)) (λ x35 h35=>?_);refine aP (λ x12=>?_);refine J5 ?_;refine aR ?_;refine aR ?_;refine eG [(0,[]),(1,[]),(2,[]),(3,[]),(4,[1]),(5,[]),(6,[]),(7,[])] ?_;refine Kb6 ?_;refine Kb6 ?_;refine bC (i:=4) (hq:=(cM (V:=λ _:Unit=>(aA L ((r2+1:Nat):Int)).nd.v) (hs:=[(x32,jU L cs gen m pn cn pc cc)]) (os:=[]) (hs':=λ _=>[(x32,jU L cs gen m pn cn pc cc)]) (os':=λ _=>[]) (Fc:=λ _=>[]) (A0:=vD L cs pn pc) (hA:=bQ.of λ f hf=>.inr (.inl hf)) (hc:=λ w1 hw=>yQ hw hmo hr2l hl hc))) (h:=λ x40 h40=>?_);refine cJ (i:=5) (hq:=(yK (vs:=[(2,.agg ⟨(aA L ((k+1:Nat):Int)).nd.cells⟩),(3,(aA L ((r2+1:Nat):Int)).nd.v)]) (cs:=Je 0 [] (aA L ((k+1:Nat):Int)).nd (aA L ((r2+1:Nat):Int)).nd Nd.zero) (gZ rfl) (by exact rfl) (by kernel_rfl) (by kernel_rfl))) (h:=?_);refine bC (i:=6) (hq:=(cM (V:=.bool) (hs:=[(x32,jU L cs gen m pn cn pc cc)]) (os:=[]) (hs':=λ _=>[(x32,jU L cs gen m pn cn pc cc)]) (os':=λ _=>[]) (Fc:=λ _=>[]) (A0:=vD L cs pn pc) (hA:=bQ.of λ f hf=>.inr (.inl hf)) (hc:=λ w1 hw=>wf (u:=[]) (c:=Nd.zero) hw hR ht (by decide)))) (h:=λ x42 h42=>?_);refine R8 ?_;refine dW ?_
   refine aZ (λ c43=>?_) (λ c43=>?_)
   ·try (first|contradiction|(exfalso;omega))
    refine cQ ?_
    refine aQ Tryz.results11 (λ w hw=>?_)
    refine⟨false,rfl,⟨λ h=>(nomatch h),λ hp=>?_⟩,hw.aT⟩
    have h12:=h42.2 hp
    exfalso
    rw[h12] at c43
    first
    | exact absurd c43 (by decide)
    | (simp at c43;done)
   ·try (first|contradiction|(exfalso;omega))
    refine bA ?_;refine cQ ?_
    refine aQ Tryz.results11 (λ w hw=>?_)
    refine⟨true,rfl,⟨λ _=>h42.1 (by(simpa using c43;done)),λ _=>rfl⟩,hw.aT⟩
end
end

/- Shape: what the walks need holds of proper states, so of memories with labels. -/
section
open Go Go.RowKit Go.Ct
section
variable{H:ByteArray->Nat}{σ:Kw}{L:List aL}{cs:List Int}{gen:Int}
theorem Kg{n:Nv}(h:bT n):n.kind≠0:=by unfold bT at h;omega
theorem yD{c:Int}(h1:1<=c)(h2:c<=cs.length):∃k:Nat,c=((k+1:Nat):Int)/\k<cs.length/\bV cs c=cs.getD k 0:=by
 obtain⟨k,rfl⟩:∃k:Nat,c=((k+1:Nat):Int):=⟨(c-1).toNat,by omega⟩
 exact⟨k,rfl,by omega,C7 (by omega)⟩
theorem vL{r:Int}(h:(cA (L.map aL.c) r).kind≠0):∃k:Nat,r=((k+1:Nat):Int)/\k<L.length:=by
 have:=dD (N:=L.map aL.c) (i:=r) h
 rw[List.length_map] at this
 exact⟨(r-1).toNat,by omega,by omega⟩
theorem Gj(hp:dM L cs gen){k:Nat}(hk:k<L.length){c:Int}(hc:gO (L.getD k aL.zero).nd=some c):1<=c/\c<=cs.length:=by
 cases hm:marks cs.length (L.take (k+1)) with
 | none=>exact absurd (Fe hm) hp.marks
 | some u =>
  rw[rH hk] at hm
  cases h2:marks cs.length (L.take k) with
  | none=>rw[h2] at hm;cases hm
  | some u2 =>
   rw[h2] at hm
   simp only[eQ,hc] at hm
   split at hm
   ·rename_i h
    have:=Av h2
    omega
   ·cases hm
theorem s7(hp:dM L cs gen):yJ L cs:=by
 intro i R hb
 have en:∀r,cA (L.map aL.c) r=(aA L r).c:=λ r=>cI L r
 unfold eK at hb
 split at hb
 case isFalse=>cases hb
 rename_i h1
 have hi:(cA (L.map aL.c) i).kind=2:=h1.1
 have hm:bT (cA (L.map aL.c) (oQ (L.map aL.c) cs i)):=h1.2
 obtain⟨i',rfl,hil⟩:=vL (L:=L) (r:=i) (by omega)
 obtain⟨k,hk,hkl⟩:=vL (L:=L) (r:=oQ (L.map aL.c) cs ((i'+1:Nat):Int)) (Kg hm)
 have hi2:=hi
 have hm2:=hm
 rw[en,fO hil] at hi2
 rw[hk,en,fO hkl] at hm2
 obtain⟨a1,a2⟩:=Gj hp hil (c:=(L.getD i' aL.zero).nd.main) (by unfold gO;exact if_pos hi2)
 obtain⟨b1,b2⟩:=Gj hp hkl (c:=(L.getD k aL.zero).nd.prev) (by unfold gO;rw[if_neg (by have:(L.getD k aL.zero).nd.kind=3∨(L.getD k aL.zero).nd.kind=5∨(L.getD k aL.zero).nd.kind=6:=hm2;omega)];exact if_pos hm2)
 obtain⟨c,hc,hcl,hcv⟩:=yD a1 a2
 obtain⟨p,hq,hpl,hpv⟩:=yD b1 b2
 have f1:(aA L ((i'+1:Nat):Int)).nd.main=((c+1:Nat):Int):=by rw[fO hil];exact hc
 have f2:(aA L ((k+1:Nat):Int)).nd.prev=((p+1:Nat):Int):=by rw[fO hkl];exact hq
 have hM:oQ (L.map aL.c) cs ((i'+1:Nat):Int)=cs.getD c 0:=by
  unfold oQ
  rw[en,fO hil,<- hcv]
  rfl
 have f3:cs.getD c 0=((k+1:Nat):Int):=by rw[<- hM];exact hk
 have f4:iO (L.map aL.c) cs ((i'+1:Nat):Int)=cs.getD p 0:=by
  unfold iO
  rw[hk,en,fO hkl,<- hpv]
  rfl
 split at hb
 ·rename_i h0
  cases hb
  refine⟨k,hk,hkl,⟨c,k,p,f1,hcl,f3,hkl,f2,hpl,.inl ⟨by rw[<- f4];exact h0,rfl⟩⟩,?_⟩
  rw[<- en];exact hm
 ·rename_i h0
  split at hb
  case isFalse=>cases hb
  rename_i hq
  cases hb
  obtain⟨r,hr,hrl⟩:=vL (L:=L) (r:=mL (L.map aL.c) cs ((i'+1:Nat):Int)) (Kg hq)
  have hpk:(cA (L.map aL.c) (iO (L.map aL.c) cs ((i'+1:Nat):Int))).kind≠0:=by
   by_cases h7:(cA (L.map aL.c) (iO (L.map aL.c) cs ((i'+1:Nat):Int))).kind=7
   ·rw[h7];decide
   ·have hq2:bT (cA (L.map aL.c) (mL (L.map aL.c) cs ((i'+1:Nat):Int))):=hq
    unfold mL at hq2
    rw[if_neg h7] at hq2
    exact Kg hq2
  obtain⟨q,hqe,hql⟩:=vL (L:=L) (r:=iO (L.map aL.c) cs ((i'+1:Nat):Int)) hpk
  refine⟨r,hr,hrl,⟨c,k,p,f1,hcl,f3,hkl,f2,hpl,.inr ⟨q,by rw[<- f4];exact hqe,hql,?_⟩⟩,by rw[<- en];exact hq⟩
  by_cases h7:(cA (L.map aL.c) (iO (L.map aL.c) cs ((i'+1:Nat):Int))).kind=7
  ·refine .inl ⟨?_,?_⟩
   ·rw[en,hqe] at h7;exact h7
   ·have:mL (L.map aL.c) cs ((i'+1:Nat):Int)=(cA (L.map aL.c) (iO (L.map aL.c) cs ((i'+1:Nat):Int))).bM:=by unfold mL;rw[if_pos h7]
    rw[hr,en,hqe] at this
    exact this.symm
  ·refine .inr ⟨?_,?_⟩
   ·rw[en,hqe] at h7;exact h7
   ·have:mL (L.map aL.c) cs ((i'+1:Nat):Int)=iO (L.map aL.c) cs ((i'+1:Nat):Int):=by unfold mL;rw[if_neg h7]
    rw[hr,hqe] at this
    omega
theorem qk(hp:dM L cs gen)(hr:uM L)(hf:Fits L)(hl:L.length<=274877906944)(hh:∀v∈L,∃h:Nat,v.nd.hash=(h:Int)/\h<18446744073709551616):B6 L:=by
 have at_:∀v∈L,lW gen L.length v:=λ v hv=>by
  obtain⟨k,hk,rfl⟩:=List.mem_iff_getElem.1 hv
  have:=hp.nodes k hk
  rwa [fM,List.getElem?_eq_getElem hk] at this
 refine⟨hf,hl,hh,λ v hv=>?_,λ v hv h45=>?_,λ v hv p hq=>?_,λ v hv x hx=>?_,λ v hv h3=>?_⟩
 all_goals obtain⟨hv',_,hi⟩:=at_ v hv
 ·obtain⟨b,h1,h2⟩:=(hr v hv).bm
  refine⟨b,h1,h2,λ h3=>?_,λ h3=>?_⟩
  ·have:=(oT h3 hv').1
   rw[h1,nW h2] at this
   omega
  ·have h9:v.nd.bm=v.nd.own.bm:=hv'.1.2.2.2.1
   have h10:v.nd.own.bm=0:=by
    unfold Nd.own
    (repeat' split)<;>first|rfl|(exfalso;simp_all;done)
   omega
 ·have:=hv'.2.2.2.2
  rcases this with h|h|h|h|h|h|h
  ·omega
  ·omega
  ·omega
  ·exact h.2
  ·omega
  ·omega
  ·omega
 ·have hys:v.ys=v.nd.fH v.ys:=hv'.1.2.2.2.2.2.2.2.2.1
  by_cases h6:v.nd.kind=6
  ·have:=hv'.2.2.2.2
   rcases this with h|h|h|h|h|h|h
   ·omega
   ·omega
   ·omega
   ·omega
   ·exact qI.1 h.2.2.2 p hq
   ·omega
   ·omega
  ·rw[hys] at hq
   unfold Nd.fH at hq
   rw[if_neg (by simpa using h6)] at hq
   exact nomatch hq
 ·have hxs:v.xs=v.nd.fQ v.xs:=hv'.1.2.2.2.2.1
  by_cases h3:v.nd.kind=3
  ·obtain⟨j,hj,rfl⟩:=List.mem_iff_getElem.1 hx
   have h2:=(oT h3 hv').2 j hj
   have h4:=(hi.1 j hj).2
   rw[fM,List.getElem?_eq_getElem hj] at h2 h4
   exact⟨h2,h4⟩
  ·rw[hxs] at hx
   unfold Nd.fQ at hx
   rw[if_neg (by simpa using h3)] at hx
   exact nomatch hx
 ·have hxs:v.xs=v.nd.fQ v.xs:=hv'.1.2.2.2.2.1
  rw[hxs]
  unfold Nd.fQ
  rw[if_neg (by simpa using h3)]
theorem tz(i0:Inv H σ)(e:σ.mm.nodes=L.map aL.c)(ec:σ.mm.cs=cs):yJ L cs:=by
 have:=i0.prop
 rw[ec] at this
 exact s7 (this.to e.symm)
theorem xm(i0:Inv H σ)(e:σ.mm.nodes=L.map aL.c)(hr:uM L)(hf:Fits L)(hl:L.length<=274877906944):B6 L:=by
 refine qk (i0.prop.to e.symm) hr hf hl λ v hv=>?_
 obtain⟨k,hk,rfl⟩:=List.mem_iff_getElem.1 hv
 have hlen:(σ.len:Int)=L.length:=by show(σ.mm.nodes.length:Int)=_;rw[e,List.length_map]
 have er:σ.nd ((k+1:Nat):Int)=(L[k]).c:=by
  show cA σ.mm.nodes _=_
  rw[e,cI L,fO hk,fM,List.getElem?_eq_getElem hk]
  rfl
 obtain⟨b,h1,h2⟩:=(i0.nd ((k+1:Nat):Int) (by omega) (by omega)).bd.hash
 rw[er] at h1
 exact⟨b,h1,h2⟩
end
end

end Go.Proofs.YtadnboagdhcedaaGreatDoor

/- The program's shape, part 7: Check of a trie. -/
import Derived.Test.YtadnboagdhcedaaGreatDoorGR9s
import Derived.Test.YtadnboagdhcedaaGreatDoorGVw3
import Derived.Test.YtadnboagdhcedaaGreatDoorGSh20

set_option linter.unusedSimpArgs false
set_option linter.unusedVariables false
namespace Go.Proofs.YtadnboagdhcedaaGreatDoor
section
open Go Go.RowKit Go.Ct
section
variable{L:List aI}{cs:List Int}{gen:Int}{m:Nat}{pn pc:Option Addr}{cn cc:Nat}{w:World}
theorem Nc(h:eP w L cs pn pc)(hT:Go.Ct.Cl w (some ⟨0,0,none⟩) (oH jB)):SF w [] [] (yO L cs pn pc) [] [] w:=SF.begin λ f hf=>by
 rcases List.mem_cons.1 hf with rfl|hf
 ·exact h.nds
 rcases List.mem_cons.1 hf with rfl|hf
 ·exact h.cls
 rcases List.mem_cons.1 hf with rfl|hf
 ·exact hT
 ·exact h.O9 f hf
set_option maxRecDepth 100000 in
set_option maxHeartbeats 1000000 in
theorem Vq(h:eP w L cs pn pc)(hT:Go.Ct.Cl w (some ⟨0,0,none⟩) (oH jB))(ok:tM L)(hM:wX L cs)(hp:cO L cs gen)(hr:iG L)(hc:cs.length<=274877906944)(hcn:L.length<=cn)(hm:m<18446744073709551616)(c:Int)(ro:Bool)(hi:c<=9223372036854775807){l:List Int}(hn:lD L cs gen c=some l){r:Int}(hro:eD (L.map aI.c) cs c=some r)(ht:Sr (L.map aI.c) cs 12 r) :
  Calls Tryz.prog 11 #[iF L cs gen pn cn pc cc,.agg ⟨[.int .i64 c,.bool ro]⟩,.int .u64 ((m:Nat):Int)] w λ e w'=>∃q:Bool,e=.returned (.int .i64 (if q=true then 0 else 8))/\(q=true↔Nt (L.map aI.c) cs m 12 r [] 0)/\SF w [] [] [] [] [] w':=by
 have hl:=ok.len;obtain⟨R,hR,_⟩:∃R,dB (L.map aI.c) cs r=some R/\True:=by obtain⟨R,h1,_⟩:=ht;exact⟨R,h1,trivial⟩
 obtain⟨k,hk,hkl⟩:∃k:Nat,r=((k+1:Nat):Int)/\k<L.length:=by
  have h2:(bH (L.map aI.c) r).kind=2:=by
   unfold dB at hR
   split at hR
   ·rename_i h1;exact h1.1
   ·cases hR
  have:=eF (N:=L.map aI.c) (i:=r) (by omega);rw[List.length_map] at this;exact⟨(r-1).toNat,by omega,by omega⟩
 obtain⟨r2,hr2,hr2l,hmo,_⟩:=hM _ _ hR
 have wf:WfC L cs gen m pn cn pc cc 12:=cd ok hM hm hc 12;subst hk hr2;refine enter Tryz.func11 Tryz.ntmps11 rfl rfl (Nc h hT) ?_;simp only[cP]
 simp only[iF]
 refine K1r ?_;intro x3;refine bF (λ x4=>?_);refine gX ?_;refine Kb0 ?_;refine aD (cF (Fc:=λ x:Option Addr×Nat=>[(x.1,aH l)]) (hc:=λ w1 hw=>sX (hw.kB (.inr (.inl (.head _))) (.inr (.inl (.tail _ (.head _)))) (λ f hf=>.inr (.inl (.tail _ (.tail _ (.tail _ hf))))) h.fit) hr hl hc hcn c ro hi hn)) (λ x16 h16=>?_);refine Ka3 ?_;refine J2 ?_;refine Ka7 ?_;refine bA (λ c20=>?_) (λ c20=>?_)
 ·exact nv c20
 ·try (first|contradiction|(exfalso;omega))
  refine bB ?_;refine Kb0 ?_;refine aS (cV (v:=.tuple #[.int .i64 ((k+1:Nat):Int),.bool true]) (hc:=λ w1 hw=>by have h9:=Kj (gen:=gen) (cc:=cc) (hw.kB (.inr (.inl (.head _))) (.inr (.inl (.tail _ (.head _)))) (λ f hf=>.inr (.inl (.tail _ (.tail _ (.tail _ hf))))) h.fit) hr hl hc hcn c ro hi;rw[show yV L cs gen (eD (L.map aI.c) cs c)=some ((k+1:Nat):Int) by unfold yV;rw[if_pos hp,hro]] at h9;exact h9)) (λ x24=>?_);refine Kb1 ?_;refine lA ?_;refine bA (λ c28=>?_) (λ c28=>?_)
  ·exact nv c28
  ·try (first|contradiction|(exfalso;omega))
   refine bB ?_;refine vP ?_;refine bQ ?_;refine bF (λ x32=>?_);refine vE ?_;refine aD (cM (V:=λ _:Unit=>(aA L ((k+1:Nat):Int)).nd.v) (hs:=[(x32,lJ L cs gen m pn cn pc cc)]) (os:=[]) (hs':=λ _=>[(x32,lJ L cs gen m pn cn pc cc)]) (os':=λ _=>[]) (Fc:=λ _=>[]) (A0:=yO L cs pn pc) (hA:=bU.of λ f hf=>.inr (.inl hf)) (hc:=λ w1 hw=>lI hw hkl hl)) (λ x35 h35=>?_);refine aT (λ x12=>?_);refine J5 ?_;refine aV ?_;refine aV ?_;refine dZ [(0,[]),(1,[]),(2,[]),(3,[]),(4,[1]),(5,[]),(6,[]),(7,[])] ?_;refine Kb7 ?_;refine Kb7 ?_;refine bL (i:=4) (hq:=(cM (V:=λ _:Unit=>(aA L ((r2+1:Nat):Int)).nd.v) (hs:=[(x32,lJ L cs gen m pn cn pc cc)]) (os:=[]) (hs':=λ _=>[(x32,lJ L cs gen m pn cn pc cc)]) (os':=λ _=>[]) (Fc:=λ _=>[]) (A0:=yO L cs pn pc) (hA:=bU.of λ f hf=>.inr (.inl hf)) (hc:=λ w1 hw=>Bz hw hmo hr2l hl hc))) (h:=λ x40 h40=>?_);refine cS (i:=5) (hq:=(Bg (vs:=[(2,.agg ⟨(aA L ((k+1:Nat):Int)).nd.cells⟩),(3,(aA L ((r2+1:Nat):Int)).nd.v)]) (cs:=L6 0 [] (aA L ((k+1:Nat):Int)).nd (aA L ((r2+1:Nat):Int)).nd Nd.zero) (jG rfl) (by exact rfl) (by kernel_rfl) (by kernel_rfl))) (h:=?_);refine bL (i:=6) (hq:=(cM (V:=.bool) (hs:=[(x32,lJ L cs gen m pn cn pc cc)]) (os:=[]) (hs':=λ _=>[(x32,lJ L cs gen m pn cn pc cc)]) (os':=λ _=>[]) (Fc:=λ _=>[]) (A0:=yO L cs pn pc) (hA:=bU.of λ f hf=>.inr (.inl hf)) (hc:=λ w1 hw=>wf (u:=[]) (c:=Nd.zero) hw hR ht (by decide)))) (h:=λ x42 h42=>?_);refine zJ ?_;refine dJ ?_;refine bA (λ c43=>?_) (λ c43=>?_)
   ·try (first|contradiction|(exfalso;omega))
    refine cR ?_;refine aR Tryz.results11 (λ w hw=>?_);refine⟨false,rfl,⟨λ h=>(nomatch h),λ hp=>?_⟩,hw.aQ⟩;have h12:=h42.2 hp;exfalso;rw[h12] at c43;first
    | exact absurd c43 (by decide)
    | (simp at c43;done)
   ·try (first|contradiction|(exfalso;omega))
    refine bB ?_;refine cR ?_;refine aR Tryz.results11 (λ w hw=>?_);refine⟨true,rfl,⟨λ _=>h42.1 (by(simpa using c43;done)),λ _=>rfl⟩,hw.aQ⟩
end
end

/- The program's shape, part 10: Depth of a trie. -/
section
open Go Go.RowKit Go.Ct
section
variable{L:List aI}{cs:List Int}{gen:Int}{m:Nat}{pn pc:Option Addr}{cn cc:Nat}{w:World}
theorem cw(ok:tM L)(hM:wX L cs)(hc:cs.length<=274877906944):∀n,n<=13->DpC L cs gen m pn cn pc cc n
 | 0,_=>λ _ _ ht=>ht.elim
 | n+1,h=>rp ok hM hc (by omega) (cw ok hM hc n (by omega))
set_option maxRecDepth 100000 in
set_option maxHeartbeats 1000000 in
theorem Rm(h:eP w L cs pn pc)(hT:Go.Ct.Cl w (some ⟨0,0,none⟩) (oH jB))(ok:tM L)(hM:wX L cs)(hp:cO L cs gen)(hr:iG L)(hc:cs.length<=274877906944)(hcn:L.length<=cn)(c:Int)(ro:Bool)(hi:c<=9223372036854775807){l:List Int}(hn:lD L cs gen c=some l){r:Int}(hro:eD (L.map aI.c) cs c=some r)(ht:Sr (L.map aI.c) cs 12 r) :
  Calls Tryz.prog 14 #[iF L cs gen pn cn pc cc,.agg ⟨[.int .i64 c,.bool ro]⟩] w λ e w'=>e=.returned (.int .i64 ((Wn (L.map aI.c) cs 12 r:Nat):Int))/\St w [] [] w':=by
 have hl:=ok.len;obtain⟨R,hR⟩:∃R,dB (L.map aI.c) cs r=some R:=by obtain⟨R,h1,_⟩:=ht;exact⟨R,h1⟩
 obtain⟨k,hk,hkl⟩:∃k:Nat,r=((k+1:Nat):Int)/\k<L.length:=by
  have h2:(bH (L.map aI.c) r).kind=2:=by
   unfold dB at hR
   split at hR
   ·rename_i h1;exact h1.1
   ·cases hR
  have:=eF (N:=L.map aI.c) (i:=r) (by omega);rw[List.length_map] at this;exact⟨(r-1).toNat,by omega,by omega⟩
 obtain⟨dd,hdd⟩:∃dd,dd=Wn (L.map aI.c) cs 12 r:=⟨_,rfl⟩
 have dp:DpC L cs gen 0 pn cn pc cc 12:=cw ok hM hc 12 (by decide);rw[<- hdd];subst hk;refine enter Tryz.func14 Tryz.ntmps14 rfl rfl (Nc h hT) ?_;simp only[cP]
 simp only[iF]
 refine K0o ?_;intro x2 x3;refine gX ?_;refine Kb0 ?_;refine aD (cF (Fc:=λ x:Option Addr×Nat=>[(x.1,aH l)]) (hc:=λ w1 hw=>sX (hw.kB (.inr (.inl (.head _))) (.inr (.inl (.tail _ (.head _)))) (λ f hf=>.inr (.inl (.tail _ (.tail _ (.tail _ hf))))) h.fit) hr hl hc hcn c ro hi hn)) (λ x13 h13=>?_);refine Ka3 ?_;refine J2 ?_;refine Ka7 ?_;refine bA (λ c17=>?_) (λ c17=>?_)
 ·exact nv c17
 ·try (first|contradiction|(exfalso;omega))
  refine bB ?_;refine Kb0 ?_;refine aS (cV (v:=.tuple #[.int .i64 ((k+1:Nat):Int),.bool true]) (hc:=λ w1 hw=>by have h9:=Kj (gen:=gen) (cc:=cc) (hw.kB (.inr (.inl (.head _))) (.inr (.inl (.tail _ (.head _)))) (λ f hf=>.inr (.inl (.tail _ (.tail _ (.tail _ hf))))) h.fit) hr hl hc hcn c ro hi;rw[show yV L cs gen (eD (L.map aI.c) cs c)=some ((k+1:Nat):Int) by unfold yV;rw[if_pos hp,hro]] at h9;exact h9)) (λ x21=>?_);refine Kb1 ?_;refine lA ?_;refine bA (λ c25=>?_) (λ c25=>?_)
  ·exact nv c25
  ·try (first|contradiction|(exfalso;omega))
   refine bB ?_;refine iH ?_;refine bQ ?_;refine bF (λ x28=>?_);refine vE ?_;refine aB ?_;refine aD (cM (V:=λ _:Unit=>(aA L ((k+1:Nat):Int)).nd.v) (hs:=[(x28,lJ L cs gen 0 pn cn pc cc)]) (os:=[]) (hs':=λ _=>[(x28,lJ L cs gen 0 pn cn pc cc)]) (os':=λ _=>[]) (Fc:=λ _=>[]) (A0:=yO L cs pn pc) (hA:=bU.of λ f hf=>.inr (.inl hf)) (hc:=λ w1 hw=>lI hw hkl hl)) (λ x32 h32=>?_);refine aD (cM (V:=λ _:Unit=>.int .i64 ((dd:Nat):Int)) (hs:=[(x28,lJ L cs gen 0 pn cn pc cc)]) (os:=[]) (hs':=λ _=>[(x28,lJ L cs gen 0 pn cn pc cc)]) (os':=λ _=>[]) (Fc:=λ _=>[]) (A0:=yO L cs pn pc) (hA:=bU.of λ f hf=>.inr (.inl hf)) (hc:=λ w1 hw=>by rw[hdd];exact dp hw hR ht)) (λ x33 h33=>?_);refine J1 ?_;refine aR Tryz.results14 (λ w hw=>?_);first
   | exact⟨rfl,hw.done⟩
   | (exfalso;simp_all;done)
end
end

/- The program's shape, of any state: Check, Depth, Quiet. -/
section
open Go Go.RowKit Go.Ct
section
variable{L:List aI}{cs:List Int}{gen:Int}{m:Nat}{pn pc:Option Addr}{cn cc:Nat}{w:World}
theorem aj(h:eP w L cs pn pc)(hr:iG L)(hl:L.length<=274877906944)(hc:cs.length<=274877906944)(hcn:L.length<=cn)(c:Int)(ro:Bool)(hi:c<=9223372036854775807)(hn:lD L cs gen c=none):Calls Tryz.prog 11 #[iF L cs gen pn cn pc cc,.agg ⟨[.int .i64 c,.bool ro]⟩,.int .u64 ((m:Nat):Int)] w λ e w'=>e=.returned (.int .i64 1)/\St w [] [] w':=by
 refine enter Tryz.func11 Tryz.ntmps11 rfl rfl h.start ?_;simp only[cP]
 simp only[iF]
 refine K1r ?_;intro x3;refine bF (λ x4=>?_);refine gX ?_;refine Kb0 ?_;refine aS (cV (hc:=λ w1 hw=>Ab (gen:=gen) (cc:=cc) (h.lB hw) hr hl hc hcn c ro hi hn)) (λ x16=>?_);refine Ka3 ?_;refine J2 ?_;refine Ka7 ?_;refine bA (λ c20=>?_) (λ c20=>?_)
 ·try (first|contradiction|(exfalso;omega))
  refine cR ?_;refine aR Tryz.results11 (λ w hw=>?_);exact⟨rfl,hw.done⟩
 ·exact nv c20
theorem cq(h:eP w L cs pn pc)(hr:iG L)(hl:L.length<=274877906944)(hc:cs.length<=274877906944)(hcn:L.length<=cn)(c:Int)(ro:Bool)(hi:c<=9223372036854775807)(hn:lD L cs gen c=none):Calls Tryz.prog 14 #[iF L cs gen pn cn pc cc,.agg ⟨[.int .i64 c,.bool ro]⟩] w λ e w'=>e=.returned (.int .i64 (-1))/\St w [] [] w':=by
 refine enter Tryz.func14 Tryz.ntmps14 rfl rfl h.start ?_;simp only[cP]
 simp only[iF]
 refine K0o ?_;intro x2 x3;refine gX ?_;refine Kb0 ?_;refine aS (cV (hc:=λ w1 hw=>Ab (gen:=gen) (cc:=cc) (h.lB hw) hr hl hc hcn c ro hi hn)) (λ x13=>?_);refine Ka3 ?_;refine J2 ?_;refine Ka7 ?_;refine bA (λ c17=>?_) (λ c17=>?_)
 ·try (first|contradiction|(exfalso;omega))
  refine cR ?_;refine aR Tryz.results14 (λ w hw=>?_);exact⟨rfl,hw.done⟩
 ·exact nv c17
theorem cj(h:eP w L cs pn pc)(hr:iG L)(hl:L.length<=274877906944)(hc:cs.length<=274877906944)(hcn:L.length<=cn)(c:Int)(ro:Bool)(hi:c<=9223372036854775807)(hn:lD L cs gen c=none):Calls Tryz.prog 13 #[iF L cs gen pn cn pc cc,.agg ⟨[.int .i64 c,.bool ro]⟩] w λ e w'=>e=.returned (.bool false)/\St w [] [] w':=by
 refine enter Tryz.func13 Tryz.ntmps13 rfl rfl h.start ?_;simp only[cP]
 simp only[iF]
 refine K0o ?_;intro x2 x3;refine J1 ?_;refine Kb0 ?_;refine aS (cV (hc:=λ w1 hw=>Ab (gen:=gen) (cc:=cc) (h.lB hw) hr hl hc hcn c ro hi hn)) (λ x13=>?_);refine Ka3 ?_;refine aV ?_;refine aV ?_;refine gP [0,1,2,3,4,5,6,7,8,9,10,11,12,13,14,15,16,17,18,19] ?_;refine aL ?_;refine qS ?_;refine aL ?_;refine bX ?_;(refine bX ?_);refine Tl ?_;refine aL ?_;refine bX ?_;(refine bX ?_);refine Nu ?_;(refine bX ?_);(refine bX ?_);(refine bX ?_);(refine bX ?_);(refine bX ?_);(refine bX ?_);(refine bX ?_);refine eS ?_;refine dJ ?_;refine bA (λ c35=>?_) (λ c35=>?_)
 ·try (first|contradiction|(exfalso;omega))
  refine cR ?_;refine aR Tryz.results13 (λ w hw=>?_);exact⟨rfl,hw.done⟩
 ·exact nv c35
def QuJ(L:List aI)(cs:List Int)(x:Int):Prop:=∃i c k p:Nat,x=((i+1:Nat):Int)/\i<L.length/\(aA L ((i+1:Nat):Int)).nd.main=((c+1:Nat):Int)/\c<cs.length/\cs.getD c 0=((k+1:Nat):Int)/\k<L.length/\cC (aA L ((k+1:Nat):Int)).c/\(aA L ((k+1:Nat):Int)).nd.prev=((p+1:Nat):Int)/\p<cs.length/\(m4 (L.map aI.c) cs x↔cs.getD p 0=0)
theorem aAm(hM:wX L cs){x R:Int}(hb:dB (L.map aI.c) cs x=some R):QuJ L cs x:=by
 obtain⟨r,hr,hrl,⟨c,k,p,h1,h2,h3,h4,h5,h6,_⟩,_⟩:=hM x R hb
 obtain⟨i,hi,hil⟩:=tR (L:=L) (r:=x) (by rw[(nM hb).1];decide)
 subst hi;have e1:bV cs (aA L ((i+1:Nat):Int)).nd.main=((k+1:Nat):Int):=by rw[h1,rX (by omega),h3]
 refine⟨i,c,k,p,rfl,hil,h1,h2,h3,h4,?_,h5,h6,?_⟩
 ·unfold dB at hb
  split at hb
  ·rename_i h9
   have h10:=h9.2;unfold kC at h10;have e2:(bH (L.map aI.c) ((i+1:Nat):Int)).main=(aA L ((i+1:Nat):Int)).nd.main:=by rw[bG];rfl
   rw[e2,e1,bG] at h10
   exact h10
  ·cases hb
 ·rw[jr,e1,h5,rX (by omega)]
theorem ue{N:List Nv}{c r:Int}(h:eD N cs c=some r):∃cz:Nat,c=((cz+1:Nat):Int)/\cz<cs.length/\bV cs c=cs.getD cz 0:=by
 by_cases h1:1<=c/\c<=cs.length
 ·exact Lr h1.1 h1.2
 ·exfalso;have e:bV cs c=0:=by unfold bV;exact if_neg h1
  have k0:(bH N 0).kind=0:=by unfold bH;rw[if_neg (by omega)];rfl
  unfold eD lG at h
  rw[e] at h
  simp[k0] at h
theorem tc{N:List Nv}{c r:Int}(h:eD N cs c=some r):(bH N (bV cs c)).kind=2↔bV cs c=r:=by
 unfold eD at h
 split at h
 ·rename_i h2
  have e:=Option.some.inj h;constructor
  ·intro k2
   have:lG N cs c=bV cs c:=by unfold lG;simp[k2]
   rw[<- this];exact e
  ·intro e2
   rw[e2,<- e]
   exact h2
 ·cases h
set_option maxRecDepth 100000 in
set_option maxHeartbeats 1000000 in
theorem fl(h:eP w L cs pn pc)(hr:iG L)(hl:L.length<=274877906944)(hc:cs.length<=274877906944)(hcn:L.length<=cn){cz:Nat}(ro:Bool)(hcz:cz<cs.length){l:List Int}(hn:lD L cs gen ((cz+1:Nat):Int)=some l)(h0:0<l.length)(hq:∀j,j<l.length->QuJ L cs (l.getD j 0)) :
  Calls Tryz.prog 13 #[iF L cs gen pn cn pc cc,.agg ⟨[.int .i64 ((cz+1:Nat):Int),.bool ro]⟩] w λ e w'=>∃b:Bool,e=.returned (.bool b)/\(b=true↔cs.getD cz 0=l.getD 0 0/\∀j,j<l.length->m4 (L.map aI.c) cs (l.getD j 0))/\St w [] [] w':=by
 refine enter Tryz.func13 Tryz.ntmps13 rfl rfl h.start ?_;simp only[cP]
 simp only[iF]
 refine K0o ?_;intro x2 x3;refine K0t ?_;intro x13 h13;((refine iW ?_));refine Tl ?_;refine aL ?_;(refine Eu 23 (λ g23=>?_) (λ g23=>?_)<;>(try ((exfalso;omega)))<;>((refine aN ?_)));((refine aZ ?_));refine Nu ?_;((refine qK ?_));((refine bJ (i:=13) (hq:=(bE (lst:=cs) (k:=cz) rf rf eC wn (.bO (.tail .head)) hcz hcz)) (h:=?_)));((refine bJ (i:=14) (hq:=(bP (lst:=cs) (q:=cz) rf wn (.bO (.tail .head)) hcz)) (h:=?_)));((refine aL ?_));((refine bJ (i:=16) (hq:=(bE (lst:=l) (k:=0) rf rf eC wn (.new .head) h0 h0)) (h:=?_)));((refine bJ (i:=17) (hq:=(bP (lst:=l) (q:=0) rf wn (.new .head) h0)) (h:=?_)));((refine qS ?_));refine eS ?_;refine dJ ?_;refine bA (λ c35=>?_) (λ c35=>?_)
 ·try (first|contradiction|(exfalso;omega))
  refine cR ?_;refine aR Tryz.results13 (λ w hw=>?_);exact⟨false,rfl,⟨λ e=>(nomatch e),λ hg=>absurd hg.1 (by omega)⟩,hw.done⟩
 ·try (first|contradiction|(exfalso;omega))
  refine jH ?_;refine J2 ?_;refine Kc6 ?_;refine kK [4,8,9,38,39,40,41,42,43,44,45,46,47,48,49,50,51,52,53,54,55,56,57,58,59,60,61,62,63,64,65,66,67,68,69,70,71,72] (λ y:Nat=>[(38,.int .i64 ((y:Nat):Int))]) (λ y=>y<=l.length/\∀j,j<y->m4 (L.map aI.c) cs (l.getD j 0)) (λ _=>_) (λ _=>[(x13.1,aH l)]) (λ _=>_) (λ y=>l.length-y) (0) (⟨Nat.zero_le _,λ j hj=>absurd hj (Nat.not_lt_zero j)⟩) (λ y f hx=>?_) (hw0:=λ w hw=>hw);refine K0a ?_;have hy:=hx;refine Kc0 ?_;refine bA (λ c39=>?_) (λ c39=>?_)
  ·try (first|contradiction|(exfalso;omega))
   have hyl:y<l.length:=by omega
   obtain⟨i,c,k,p,q1,q2,q3,q4,q5,q6,q7,q8,q9,q10⟩:=hq y hyl
   rw[fG q2] at q3;rw[fG q6] at q7 q8;refine K0g ?_;refine gG (hfire:=(λ _=>by((repeat (first|exact aG.nil|refine aG.cons (by first|exact bY|exact cG (hq:=iC (k:=i) rf (by rw[show((i:Nat):Int)=l.getD y 0-1 by omega];exact rfl) eC dR (.bO .head) q2 q2)|exact cG (hq:=bE (lst:=cs) (k:=c) rf (by rw[show((c:Nat):Int)=(L.getD i aI.zero).nd.main-1 by omega];exact rfl) eC wn (.bO (.tail .head)) q4 q4)|exact cG (hq:=iC (k:=k) rf (by rw[show((k:Nat):Int)=cs.getD c 0-1 by omega];exact rfl) eC dR (.bO .head) q6 q6)) ?_));done))) (h:=λ x9=>?_);refine vF ?_;refine iH ?_;refine aD (c0 (V:=.bool) (hc:=λ w1 hw=>Cr (L.getD k aI.zero).nd w1)) (λ x60 h60=>?_);refine C6 ?_;(refine eM 62 (λ g62=>?_) (λ g62=>?_)<;>refine Ka1 ?_);all_goals (refine Ao ?_;(first|refine aJ ?_|(refine aF ?_;refine oQ ?_));(first|refine aJ ?_|(refine aF ?_;refine aE (bE (lst:=cs) (k:=p) rf (by rw[show((p:Nat):Int)=(L.getD k aI.zero).nd.prev-1 by omega];exact rfl) eC wn (.bO (.tail .head)) q9 q9) rfl ?_));(first|refine aJ ?_|(refine aF ?_;refine aE (bP (lst:=cs) (q:=p) rf wn (.bO (.tail .head)) q9) rfl ?_));refine Rq ?_;refine aK ?_)
   all_goals
   refine bA (λ c71=>?_) (λ c71=>?_)
   ·all_goals try (first|contradiction|(exfalso;omega))
    all_goals refine cR ?_
    all_goals
     refine aR Tryz.results13 (λ w hw=>?_);first
     | (exfalso;have h12:=h60.2 q7;rw[h12] at g62;exact absurd g62 (by decide))
     | exact⟨false,rfl,⟨λ e=>(nomatch e),λ hg=>absurd (q10.1 (hg.2 y hyl)) (by omega)⟩,hw.done⟩
   ·try exact nv c71
    all_goals (refine Kc9 ?_)
    all_goals
     refine K2b ?_
     ·exact⟨by omega,Ds hy.2 (q10.2 (by omega))⟩
  ·try (first|contradiction|(exfalso;omega))
   refine K0z ?_;refine aR Tryz.results13 (λ w hw=>?_);exact⟨true,rfl,⟨λ _=>⟨by first|omega|(simp_all;done),λ j hj=>hy.2 j (by omega)⟩,λ _=>rfl⟩,hw.done⟩
end
end

/- Shape: the program agrees with the reference in every state. -/
section
open Go Go.RowKit Go.Ct
section
variable{L:List aI}{cs:List Int}{gen:Int}{m:Nat}{pn pc:Option Addr}{cn cc:Nat}{w:World}
theorem Po(h:eP w L cs pn pc)(hr:iG L)(hl:L.length<=274877906944)(hc:cs.length<=274877906944)(hcn:L.length<=cn){B:Nat}(hB:∀v∈L,v.ys.length<=B)(hBl:(L.length+1)*(B+64)<=549755813888)(c:Int)(ro:Bool)(hi:c<=9223372036854775807)(h1:lD L cs gen c=none)(h2:Pj L cs gen c=none) :
  Calls Tryz.prog 7 #[iF L cs gen pn cn pc cc,.agg ⟨[.int .i64 c,.bool ro]⟩,.int .u64 ((m:Nat):Int)] w λ e w'=>e=.returned (.bool true)/\St w [] [] w':=by
 refine enter Tryz.func7 Tryz.ntmps7 rfl rfl h.start ?_;simp only[cP]
 simp only[iF]
 all_goals (refine J0 ?_;refine bF (λ x3=>?_);refine bF (λ x4=>?_);refine gX ?_;refine dZ [(0,[]),(1,[]),(2,[]),(4,[]),(5,[]),(6,[]),(3,[4,5]),(7,[]),(8,[]),(9,[]),(10,[]),(11,[]),(13,[]),(14,[]),(12,[13,14]),(15,[]),(16,[]),(17,[]),(18,[]),(19,[]),(20,[]),(22,[]),(23,[]),(21,[22,23]),(24,[]),(25,[]),(26,[]),(27,[])] ?_;refine aZ ?_;refine aZ ?_;refine Kb7 ?_;refine aZ ?_;refine aL ?_;refine cA (i:=3) (hq:=(cV (hc:=λ w1 hw=>aj (gen:=gen) (cc:=cc) (h.lB hw) hr hl hc hcn c ro hi h1))) (h:=λ x10=>?_);refine cA (i:=7) (hq:=(cV (hc:=λ w1 hw=>X4 (gen:=gen) (cn:=cn) (cc:=cc) (h.lB hw) hr hl hc hB hBl c ro hi h2))) (h:=λ x14=>?_);refine jQ ?_;refine aL ?_)
 all_goals ((refine aZ ?_))
 all_goals (((refine aZ ?_));((refine aZ ?_));((refine aZ ?_));((refine cA (i:=12) (hq:=(cV (hc:=λ w1 hw=>cj (gen:=gen) (cc:=cc) (h.lB hw) hr hl hc hcn c ro hi h1))) (h:=λ x19=>?_)));((refine cA (i:=15) (hq:=(cV (hc:=λ w1 hw=>Zg (gen:=gen) (cn:=cn) (cc:=cc) (h.lB hw) hr hl hc hB hBl c ro hi h2))) (h:=λ x22=>?_)));((refine ju ?_));refine Ke7 ?_)
 all_goals ((refine aZ ?_))
 all_goals (((refine aZ ?_));((refine aZ ?_));((refine aZ ?_));((refine cA (i:=21) (hq:=(cV (hc:=λ w1 hw=>cq (gen:=gen) (cc:=cc) (h.lB hw) hr hl hc hcn c ro hi h1))) (h:=λ x28=>?_)));((refine cA (i:=24) (hq:=(cV (hc:=λ w1 hw=>Y6 (gen:=gen) (cn:=cn) (cc:=cc) (h.lB hw) hr hl hc hB hBl c ro hi h2))) (h:=λ x31=>?_)));refine Tl ?_;refine J7 ?_)
 all_goals
 refine aR Tryz.results7 (λ w hw=>?_);exact⟨rfl,hw.done⟩
structure dm(L:List aI)(cs:List Int)(gen:Int)(m:Nat)(c:Int)(l:List Int)(q:List Pl×List Pr)(r:Int)(b1 b2:Bool)(d:Nat):Prop where
 trav:lD L cs gen c=some l
 pl:Pj L cs gen c=some q
 el:l=q.1.map Pl.i
 ok:Yz L cs gen c q r
 sh:tM L
 mn:wX L cs
 trb:Sr (L.map aI.c) cs 12 r
 wf:b1=true↔Nt (L.map aI.c) cs m 12 r [] 0
 gd:b1=true↔∀p∈q.1,vN (L.map aI.c) m p
 qu:b2=true↔(∀p∈q.1,m4 (L.map aI.c) cs p.i)/\(bH (L.map aI.c) (bV cs c)).kind=2
 dp:d=Wn (L.map aI.c) cs 12 r
 mx:Ws q.1 d
theorem aAA(hr:iG L)(hf:Fits L)(hh:∀v∈L,∃h:Nat,v.nd.hash=(h:Int)/\h<18446744073709551616)(hl:L.length<=274877906944){c:Int}{l:List Int}{q:List Pl×List Pr}(h1:lD L cs gen c=some l)(h2:Pj L cs gen c=some q)(h3:l=q.1.map Pl.i):∃r b1 b2 d,dm L cs gen m c l q r b1 b2 d:=by
 classical
 obtain⟨r,hk⟩:=No h2
 have hp:=hk.pr;have hx:∀r,(bH (L.map aI.c) r).kind=5∨(bH (L.map aI.c) r).kind=6->(bH (L.map aI.c) r).xs=[]:=Kd hp;have e0:(bH (L.map aI.c) 0).gen=0:=by unfold bH;rw[if_neg (by omega)];rfl
 have hw:=Vo (m:=m) hx 12 r [] 0 [] q hk.tU ⟨λ _=>rfl,λ _=>Int.le_refl _⟩;rw[e0] at hw;have hd:=U4 hx 12 0 0 r [] [] q hk.tU;rw[Nat.zero_add] at hd;exact⟨r,decide (∀p∈q.1,vN (L.map aI.c) m p),decide ((∀p∈q.1,m4 (L.map aI.c) cs p.i)/\(bH (L.map aI.c) (bV cs c)).kind=2),_,h1,h2,h3,hk,oj hp hr hf hl hh,nl hp,Uh hx 12 0 0 r [] [] q hk.tU,by rw[decide_eq_true_eq];exact hw.symm,decide_eq_true_iff,decide_eq_true_iff,rfl,hd⟩
section
variable{c:Int}{l:List Int}{q:List Pl×List Pr}{r:Int}{b1 b2:Bool}{d:Nat}
theorem dm.check(k:dm L cs gen m c l q r b1 b2 d)(h:eP w L cs pn pc)(hT:Go.Ct.Cl w (some ⟨0,0,none⟩) (oH jB))(hr:iG L)(hc:cs.length<=274877906944)(hcn:L.length<=cn)(hm:m<18446744073709551616)(ro:Bool)(hi:c<=9223372036854775807) :
  Calls Tryz.prog 11 #[iF L cs gen pn cn pc cc,.agg ⟨[.int .i64 c,.bool ro]⟩,.int .u64 ((m:Nat):Int)] w λ e w'=>e=.returned (.int .i64 (if b1=true then 0 else 8))/\St w [] [] w':=by
 refine(Vq h hT k.sh k.mn k.ok.pr hr hc hcn hm c ro hi k.trav k.ok.root k.trb).mono ?_;rintro e w' ⟨q',e1,h1,h2⟩;have:q'=b1:=Bool.eq_iff_iff.2 (h1.trans k.wf.symm);subst this;exact⟨e1,h2.done⟩
theorem dm.aAk(k:dm L cs gen m c l q r b1 b2 d)(h:eP w L cs pn pc)(hr:iG L)(hc:cs.length<=274877906944){B:Nat}(hB:∀v∈L,v.ys.length<=B)(hBl:(L.length+1)*(B+64)<=549755813888)(hm:m<18446744073709551616)(ro:Bool)(hi:c<=9223372036854775807) :
  Calls Tryz.prog 18 #[iF L cs gen pn cn pc cc,.agg ⟨[.int .i64 c,.bool ro]⟩,.int .u64 ((m:Nat):Int)] w λ e w'=>e=.returned (.int .i64 (if b1=true then 0 else 8))/\St w [] [] w':=by
 refine(Zs h k.sh hr k.sh.len hc hB hBl c ro hi hm k.pl).mono ?_;rintro e w' ⟨q',e1,h1,h2⟩;have:q'=b1:=Bool.eq_iff_iff.2 (h1.trans k.gd.symm);subst this;exact⟨e1,h2⟩
theorem dm.quiet(k:dm L cs gen m c l q r b1 b2 d)(h:eP w L cs pn pc)(hr:iG L)(hc:cs.length<=274877906944)(hcn:L.length<=cn)(ro:Bool) :
  Calls Tryz.prog 13 #[iF L cs gen pn cn pc cc,.agg ⟨[.int .i64 c,.bool ro]⟩] w λ e w'=>e=.returned (.bool b2)/\St w [] [] w':=by
 obtain⟨cz,e1,h2,h3⟩:=ue k.ok.root
 obtain⟨mm,tt,hd⟩:=Br k.ok.tU
 have hl0:l=r::tt.map Pl.i:=by rw[k.el,hd];rfl
 have hlj:∀j,j<l.length->∃p∈q.1,p.i=l.getD j 0:=λ j hj=>by
  have h9:l.getD j 0∈l:=by rw[gF,List.getElem?_eq_getElem hj];exact List.getElem_mem _
  have h10:l.getD j 0∈q.1.map Pl.i:=by rw[<- k.el];exact h9
  obtain⟨p,hp,e⟩:=List.mem_map.1 h10
  exact⟨p,hp,e⟩
 have ht:=k.trav;rw[e1] at ht ⊢;refine(fl (cz:=cz) h hr k.sh.len hc hcn ro h2 ht (by rw[hl0];simp) (λ j hj=>?_)).mono ?_
 ·obtain⟨p,hp,e⟩:=hlj j hj
  rw[<- e]
  exact aAm k.mn (k.ok.plf p hp).body
 ·rintro e w' ⟨b,e2,h4,h5⟩;have:b=b2:=Bool.eq_iff_iff.2 (h4.trans (Iff.trans ?_ k.qu.symm))
  ·subst this
   exact⟨e2,h5⟩
  ·rw[tc k.ok.root,h3];have h0:l.getD 0 0=r:=by rw[hl0];rfl
   rw[h0]
   refine⟨λ⟨a,b⟩=>⟨λ p hp=>?_,a⟩,λ⟨a,b⟩=>⟨b,λ j hj=>?_⟩⟩
   ·have h9:p.i∈l:=by rw[k.el];exact List.mem_map.2 ⟨p,hp,rfl⟩
    obtain⟨j,hj,e⟩:=List.mem_iff_getElem.1 h9
    have:=b j hj;rw[gF,List.getElem?_eq_getElem hj] at this;rw[<- e];exact this
   ·obtain⟨p,hp,e⟩:=hlj j hj
    rw[<- e]
    exact a p hp
theorem dm.w8(k:dm L cs gen m c l q r b1 b2 d)(h:eP w L cs pn pc)(hr:iG L)(hc:cs.length<=274877906944){B:Nat}(hB:∀v∈L,v.ys.length<=B)(hBl:(L.length+1)*(B+64)<=549755813888)(ro:Bool)(hi:c<=9223372036854775807) :
  Calls Tryz.prog 19 #[iF L cs gen pn cn pc cc,.agg ⟨[.int .i64 c,.bool ro]⟩] w λ e w'=>e=.returned (.bool b2)/\St w [] [] w':=by
 refine(Yn h hr k.sh.len hc hB hBl c ro hi k.pl).mono ?_;rintro e w' ⟨b,e1,h1,h2⟩;have:b=b2:=Bool.eq_iff_iff.2 (h1.trans k.qu.symm);subst this;exact⟨e1,h2⟩
theorem dm.depth(k:dm L cs gen m c l q r b1 b2 d)(h:eP w L cs pn pc)(hT:Go.Ct.Cl w (some ⟨0,0,none⟩) (oH jB))(hr:iG L)(hc:cs.length<=274877906944)(hcn:L.length<=cn)(ro:Bool)(hi:c<=9223372036854775807) :
  Calls Tryz.prog 14 #[iF L cs gen pn cn pc cc,.agg ⟨[.int .i64 c,.bool ro]⟩] w λ e w'=>e=.returned (.int .i64 ((d:Nat):Int))/\St w [] [] w':=by
 rw[k.dp]
 exact Rm h hT k.sh k.mn k.ok.pr hr hc hcn c ro hi k.trav k.ok.root k.trb
end
set_option maxRecDepth 100000 in
theorem Ai(h:eP w L cs pn pc)(hT:Go.Ct.Cl w (some ⟨0,0,none⟩) (oH jB))(hr:iG L)(hh:∀v∈L,∃h:Nat,v.nd.hash=(h:Int)/\h<18446744073709551616)(hl:L.length<=274877906944)(hc:cs.length<=274877906944)(hcn:L.length<=cn){B:Nat}(hB:∀v∈L,v.ys.length<=B)(hBl:(L.length+1)*(B+64)<=549755813888)(c:Int)(ro:Bool)(hi:c<=9223372036854775807)(hm:m<18446744073709551616) :
  Calls Tryz.prog 7 #[iF L cs gen pn cn pc cc,.agg ⟨[.int .i64 c,.bool ro]⟩,.int .u64 ((m:Nat):Int)] w λ e w'=>e=.returned (.bool true)/\St w [] [] w':=by
 rcases ad (L:=L) (cs:=cs) (gen:=gen) (c:=c) with⟨h1,h2⟩|⟨l,q,h1,h2,h3,_⟩
 ·exact Po h hr hl hc hcn hB hBl c ro hi h1 h2
 obtain⟨r,b1,b2,d,k⟩:=aAA (m:=m) hr h.fit hh hl h1 h2 h3
 refine enter Tryz.func7 Tryz.ntmps7 rfl rfl (Nc h hT) ?_;simp only[cP]
 simp only[iF]
 all_goals (refine J0 ?_;refine bF (λ x3=>?_);refine bF (λ x4=>?_);refine gX ?_;refine dZ [(0,[]),(1,[]),(2,[]),(4,[]),(5,[]),(6,[]),(3,[4,5]),(7,[]),(8,[]),(9,[]),(10,[]),(11,[]),(13,[]),(14,[]),(12,[13,14]),(15,[]),(16,[]),(17,[]),(18,[]),(19,[]),(20,[]),(22,[]),(23,[]),(21,[22,23]),(24,[]),(25,[]),(26,[]),(27,[])] ?_;refine aZ ?_;refine aZ ?_;refine Kb7 ?_;refine aZ ?_;refine aL ?_;refine cA (i:=3) (hq:=(cV (v:=.int .i64 (if b1=true then 0 else 8)) (hc:=λ w1 hw=>k.check (cc:=cc) (hw.kB (.inr (.inl (.head _))) (.inr (.inl (.tail _ (.head _)))) (λ f hf=>.inr (.inl (.tail _ (.tail _ (.tail _ hf))))) h.fit) (hw.cl (.bO (.tail (.tail .head)))) hr hc hcn hm ro hi))) (h:=λ x10=>?_);refine cA (i:=7) (hq:=(cV (v:=.int .i64 (if b1=true then 0 else 8)) (hc:=λ w1 hw=>k.aAk (cn:=cn) (cc:=cc) (hw.kB (.inr (.inl (.head _))) (.inr (.inl (.tail _ (.head _)))) (λ f hf=>.inr (.inl (.tail _ (.tail _ (.tail _ hf))))) h.fit) hr hc hB hBl hm ro hi))) (h:=λ x14=>?_);refine jQ ?_;refine aL ?_)
 all_goals ((refine Eu 16 (λ g16=>?_) (λ g16=>?_)<;>(try (first|contradiction|(exfalso;omega)))<;>((refine aZ ?_))))
 all_goals (((refine aZ ?_));((refine aZ ?_));((refine aZ ?_));((refine cA (i:=12) (hq:=(cV (v:=.bool b2) (hc:=λ w1 hw=>k.quiet (cc:=cc) (hw.kB (.inr (.inl (.head _))) (.inr (.inl (.tail _ (.head _)))) (λ f hf=>.inr (.inl (.tail _ (.tail _ (.tail _ hf))))) h.fit) hr hc hcn ro))) (h:=λ x19=>?_)));((refine cA (i:=15) (hq:=(cV (v:=.bool b2) (hc:=λ w1 hw=>k.w8 (cn:=cn) (cc:=cc) (hw.kB (.inr (.inl (.head _))) (.inr (.inl (.tail _ (.head _)))) (λ f hf=>.inr (.inl (.tail _ (.tail _ (.tail _ hf))))) h.fit) hr hc hB hBl ro hi))) (h:=λ x22=>?_)));((refine ju ?_));refine Ke7 ?_)
 all_goals ((refine Eu 25 (λ g25=>?_) (λ g25=>?_)<;>(try (first|contradiction|(exfalso;omega)))<;>((refine aZ ?_))))
 all_goals (((refine aZ ?_));((refine aZ ?_));((refine aZ ?_));((refine cA (i:=21) (hq:=(cV (v:=.int .i64 ((d:Nat):Int)) (hc:=λ w1 hw=>k.depth (cc:=cc) (hw.kB (.inr (.inl (.head _))) (.inr (.inl (.tail _ (.head _)))) (λ f hf=>.inr (.inl (.tail _ (.tail _ (.tail _ hf))))) h.fit) (hw.cl (.bO (.tail (.tail .head)))) hr hc hcn ro hi))) (h:=λ x28=>?_)));((refine cA (i:=24) (hq:=(cV (v:=.int .i64 ((d:Nat):Int)) (hc:=λ w1 hw=>Y9 (gen:=gen) (cn:=cn) (cc:=cc) (hw.kB (.inr (.inl (.head _))) (.inr (.inl (.tail _ (.head _)))) (λ f hf=>.inr (.inl (.tail _ (.tail _ (.tail _ hf))))) h.fit) hr hl hc hB hBl c ro hi h2 k.mx))) (h:=λ x31=>?_)));refine Tl ?_;refine J7 ?_)
 all_goals
 refine aR Tryz.results7 (λ w hw=>?_);first
 | exact⟨rfl,hw.done⟩
 | (refine⟨?_,hw.done⟩;simp;rfl)
end
end

end Go.Proofs.YtadnboagdhcedaaGreatDoor

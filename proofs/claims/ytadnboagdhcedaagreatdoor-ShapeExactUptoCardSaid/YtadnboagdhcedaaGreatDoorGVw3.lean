/- Views: the I-nodes of a trie are visited. -/
import Derived.Test.YtadnboagdhcedaaGreatDoorGSh9
import Derived.Test.YtadnboagdhcedaaGreatDoorGSh31

set_option linter.unusedSimpArgs false
set_option linter.unusedVariables false
namespace Go.Ct
section
open Go Go.RowKit
structure VQ where
 l:List Int
 vs:List Bool
 p:Option Addr
 c:Nat
def sd(o:Option (List Int))(b:Bool)(q:VQ):Prop:=match o with|some l=>b=true/\q.l=l|none=>b=false
theorem Wm{N:List Nv}{f:Int->List Int->Option (List Int)}{xs l l2:List Int}{k:Nat}(hk:k<xs.length)(h:iZ N f (xs.take k) l=some l2):iZ N f xs l=iZ N f (xs.getD k 0::xs.drop (k+1)) l2:=by
 have e:xs=xs.take k++(xs.getD k 0::xs.drop (k+1)):=by
  rw[gF,List.getElem?_eq_getElem hk,Option.getD_some,<- List.drop_eq_getElem_cons hk,List.take_append_drop]
 rw[e,wE,<- e,h]
 rfl
theorem yL{N:List Nv}{f:Int->List Int->Option (List Int)}{xs l l2 l3:List Int}{k:Nat}(hk:k<xs.length)(h:iZ N f (xs.take k) l=some l2)(h2:iZ N f [xs.getD k 0] l2=some l3):iZ N f (xs.take (k+1)) l=some l3:=by
 rw[List.take_add_one,List.getElem?_eq_getElem hk,wE,h]
 rw[gF,List.getElem?_eq_getElem hk] at h2
 exact h2
theorem bz{N:List Nv}{f:Int->List Int->Option (List Int)}{b:Int}{l:List Int}(h:(bH N b).kind=4):iZ N f [b] l=some l:=by simp[iZ,h]
theorem bi{N:List Nv}{f:Int->List Int->Option (List Int)}{b:Int}{l l2:List Int}(h:(bH N b).kind=2)(hf:f b l=some l2):iZ N f [b] l=some l2:=by simp[iZ,h,hf]
theorem ry{N:List Nv}{f:Int->List Int->Option (List Int)}{b:Int}{r l:List Int}(h:(bH N b).kind≠4)(h2:(bH N b).kind≠2):iZ N f (b::r) l=none:=by simp[iZ,h,h2]
theorem yt{N:List Nv}{f:Int->List Int->Option (List Int)}{b:Int}{r l:List Int}(h:(bH N b).kind=2)(hf:f b l=none):iZ N f (b::r) l=none:=by simp[iZ,h,hf]
theorem dy{N:List Nv}{cs:List Int}{i:Int}{l:List Int}(h:i∈l):∀{n:Nat},yX N cs n i l=none
 | 0=>rfl
 | n+1=>by unfold yX;rw[if_pos h]
theorem jn{N:List Nv}{cs:List Int}{i:Int}{l:List Int}{n:Nat}(h:¬i∈l)(h2:(dB N cs i).isSome=false):yX N cs (n+1) i l=none:=by
 unfold yX
 rw[if_neg h]
 cases hb:dB N cs i with
 | none=>rfl
 | some m=>rw[hb] at h2;cases h2
theorem G7{N:List Nv}{cs:List Int}{i m:Int}{l:List Int}{n:Nat}(h:¬i∈l)(h2:dB N cs i=some m):yX N cs (n+1) i l=iZ N (yX N cs n) (bH N m).xs (l++[i]):=by
 unfold yX
 rw[if_neg h,h2]
 rfl
end
end Go.Ct
namespace Go.Proofs.YtadnboagdhcedaaGreatDoor
section
open Go Go.RowKit Go.Ct
section
variable{L:List aI}{cs:List Int}{gen:Int}{pn pc:Option Addr}{cn cc:Nat}{w:World}
theorem Mh(h:eP w L cs pn pc)(hb:mj L cs)(hl:L.length<=274877906944)(hc:cs.length<=274877906944)(c:Int)(ro:Bool)(hi:c<=9223372036854775807):Calls Tryz.prog 53 #[iF L cs gen pn cn pc cc,.agg ⟨[.int .i64 c,.bool ro]⟩] w λ e w'=>e=.returned (.tuple #[.int .i64 ((eD (L.map aI.c) cs c).getD 0),.bool (eD (L.map aI.c) cs c).isSome])/\St w [] [] w':=by
 refine enter Tryz.func53 Tryz.ntmps53 rfl rfl h.start ?_;simp only[cP]
 simp only[iF]
 refine K0o ?_;intro x2 x3;refine J8 ?_;refine iH ?_;refine J3 ?_;refine aS (cV (hc:=λ w1 hw=>Ev (h.lB hw) c hi hc)) (λ x11=>?_);refine gX ?_;refine vP ?_;refine aS (cV (hc:=λ w1 hw=>uG (h.lB hw) (bV cs c) (hb.cs _) hl)) (λ x14=>?_);refine aT (λ x7=>?_);refine J5 ?_;refine gH ?_;refine rW ?_;refine bA (λ c17=>?_) (λ c17=>?_)
 ·refine gH ?_;refine J1 ?_;refine iH ?_;refine J3 ?_;refine aS (cV (hc:=λ w1 hw=>Ev (h.lB hw) (aA L (bV cs c)).nd.status (hb.status _) hc)) (λ x23=>?_);refine rW ?_;refine bA (λ c24=>?_) (λ c24=>?_)
  ·refine dM ?_;refine J3 ?_;refine gX ?_;refine vP ?_;refine aS (cV (hc:=λ w1 hw=>uG (h.lB hw) _ (by exact hb.new _) hl)) (λ x29=>?_);refine cJ ?_;refine Ka7 ?_;refine bA (λ c31=>?_) (λ c31=>?_)
   ·refine Aw ?_;refine bK Tryz.results53 (λ w hw=>?_);refine⟨?_,hw.done⟩;unfold eD lG;simp only[bG,cC,aI.c,Nd.c]
    simp_all
    rfl
   ·refine Ke9 ?_;refine bK Tryz.results53 (λ w hw=>?_);refine⟨?_,hw.done⟩;unfold eD lG;simp only[bG,cC,aI.c,Nd.c]
    simp_all
    rfl
  ·refine jH ?_;refine vP ?_;refine aS (cV (hc:=λ w1 hw=>uG (h.lB hw) _ (by exact hb.bO _) hl)) (λ x29=>?_);refine cJ ?_;refine Ka7 ?_;refine bA (λ c31=>?_) (λ c31=>?_)
   ·refine Aw ?_;refine bK Tryz.results53 (λ w hw=>?_);refine⟨?_,hw.done⟩;unfold eD lG;simp only[bG,cC,aI.c,Nd.c]
    simp_all
    rfl
   ·refine Ke9 ?_;refine bK Tryz.results53 (λ w hw=>?_);refine⟨?_,hw.done⟩;unfold eD lG;simp only[bG,cC,aI.c,Nd.c]
    simp_all
    rfl
 ·refine jH ?_;refine vP ?_;refine aS (cV (hc:=λ w1 hw=>uG (h.lB hw) _ (by exact hb.cs _) hl)) (λ x29=>?_);refine cJ ?_;refine Ka7 ?_;refine bA (λ c31=>?_) (λ c31=>?_)
  ·refine Aw ?_;refine bK Tryz.results53 (λ w hw=>?_);refine⟨?_,hw.done⟩;unfold eD lG;simp only[bG,cC,aI.c,Nd.c]
   simp_all
   rfl
  ·refine Ke9 ?_;refine bK Tryz.results53 (λ w hw=>?_);refine⟨?_,hw.done⟩;unfold eD lG;simp only[bG,cC,aI.c,Nd.c]
   simp_all
   rfl
abbrev vx(L:List aI)(cs:List Int)(gen:Int)(pn:Option Addr)(cn:Nat)(pc:Option Addr)(cc:Nat)(pv:Nat)(q:VQ)(pp:Option Addr)(ps:List Pr)(cp:Nat):Obj:=.cells ⟨[.slice pn L.length cn,.slice pc cs.length cc,.int .i64 gen,.slice (some ⟨pv,0,none⟩) L.length L.length,.slice q.p q.l.length q.c,.slice pp ps.length cp]⟩ 122 (0,0)
abbrev va(L:List aI)(pv:Nat)(q:VQ):List Ow:=[⟨some ⟨pv,0,none⟩,iV q.vs,L.length,4,1⟩,⟨q.p,aH q.l,q.c,62,1⟩]
theorem yn{w0:World}{D:List Nat}{b pv:Nat}{q:VQ}{pp:Option Addr}{ps:List Pr}{cp:Nat}{A F:Fr}(h:SF w0 D [(b,vx L cs gen pn cn pc cc pv q pp ps cp)] A F (va L pv q) w) :
  SF w0 D [(b,.cells ⟨[.slice pn L.length cn,.slice pc cs.length cc,.int .i64 gen,.slice (some ⟨pv,0,none⟩) L.length L.length,.slice q.p q.l.length q.c,.slice pp ps.length cp]⟩ 122 (0,0))] A F [⟨some ⟨pv,0,none⟩,iV q.vs,L.length,4,1⟩,⟨q.p,aH q.l,q.c,62,1⟩] w:=h
def xb(L:List aI)(cs:List Int)(gen:Int)(pn:Option Addr)(cn:Nat)(pc:Option Addr)(cc:Nat)(b pv:Nat)(pp:Option Addr)(ps:List Pr)(cp:Nat)(n:Nat):Prop:=∀(lvl:Nat),lvl+n=12->∀(k:Nat) (q:VQ) (D:List Nat) (w:World),k<L.length->Ro L.length q.vs q.l->SF w D [(b,vx L cs gen pn cn pc cc pv q pp ps cp)] ((pn,fX L)::(pc,aH cs)::bD L) [] (va L pv q) w ->
  Calls Tryz.prog 67 #[.pointer (some ⟨b,0,none⟩),.int .i64 ((k+1:Nat):Int),.int .i64 ((lvl:Nat):Int)] w λ e w'=>∃x:Bool×VQ,e=.returned (.bool x.1)/\(sd (yX (L.map aI.c) cs n ((k+1:Nat):Int) q.l) x.1 x.2/\Ro L.length x.2.vs x.2.l)/\SF w D [(b,vx L cs gen pn cn pc cc pv x.2 pp ps cp)] [] [] (va L pv x.2) w'
theorem Qu(h0:Fits L)(hb:mj L cs)(hl:L.length<=274877906944)(hc:cs.length<=274877906944)(b pv:Nat)(pp:Option Addr)(ps:List Pr)(cp:Nat)(n:Nat)(ih:∀m,n=m+1->xb L cs gen pn cn pc cc b pv pp ps cp m):xb L cs gen pn cn pc cc b pv pp ps cp n:=by
  intro lvl hn k q D w hk hv hs
  have hvl:=hv.1;have hvn:=hv.len;refine enter Tryz.func67 Tryz.ntmps67 rfl rfl (yn hs) ?_;simp only[cP]
  refine Kb4 ?_;refine vH ?_;refine aB ?_;(refine eM 13 (λ g13=>?_) (λ g13=>?_)<;>refine Ka0 ?_);all_goals ((first|refine aJ ?_|(refine aF ?_;refine eR ?_));refine J6 ?_;refine J68 ?_;(first|refine aJ ?_|(refine aF ?_;refine aE (lE (k:=k) rf rf eC dC fin (by omega) (by omega)) rfl ?_));(first|refine aJ ?_|(refine aF ?_;refine aE (yC (q:=k) rf dC fin (by omega)) rfl ?_));refine cI ?_;refine aK ?_)
  all_goals
   refine bA (λ c22=>?_) (λ c22=>?_)
   · all_goals try (first|(exact abt)|(exfalso;omega))
     all_goals refine cR ?_
     all_goals
      refine aR Tryz.results67 (λ w hw=>?_)
      first
       | exact⟨(false,q),rfl,⟨by rw[dy ((hv.2.1 k hk).1 (by assumption))];exact rfl,hv⟩,hw.aQ⟩
       | exact⟨(false,q),rfl,⟨by rw[show n=0 by omega];exact rfl,hv⟩,hw.aQ⟩
   · try exact nv c22
     all_goals
      obtain⟨m,rfl⟩:∃m,n=m+1:=⟨n-1,by omega⟩
      have hnot:¬(((k+1:Nat):Int)∈q.l):=λ hm=>by have:=(hv.2.1 k hk).2 hm;simp_all
      have hv2:=hv.set hk (by simp_all)
     all_goals (refine J83 ?_;refine aB ?_;refine oQ ?_;refine aE (lE (k:=k) rf rf eC dC fin (by omega) (by omega)) rfl ?_;refine J5 ?_;refine jJ ?_;refine eR ?_;refine J3 ?_;refine aB ?_;refine fD (λ x36=>?_);(refine fB (λ x37=>?_);try (refine fL (λ h37=>?_)));refine ln ?_;refine Ii ?_;refine aE (aW (k:=3) rf dI dR (by simp only[List.drop_zero,List.take_succ_cons,List.take_zero];exact rfl) rfl) rfl ?_;refine aB ?_;refine aS (cV (hc:=λ w1 hw=>sf (hw.kB (.inr (.inl (.head _))) (.inr (.inl (.tail _ (.head _)))) (λ f hf=>.inr (.inl (.tail _ (.tail _ hf)))) h0) hb hl hc ((k+1:Nat):Int) (by omega))) (λ x46=>?_);refine Kb1 ?_;refine lA ?_)
     all_goals
      refine bA (λ c50=>?_) (λ c50=>?_)
      · try (first|(exact abt)|(exfalso;omega))
        refine cR ?_;refine aR Tryz.results67 (λ w hw=>?_);rw[show q.l.length+1=(q.l++[((k+1:Nat):Int)]).length by simp] at hw;exact⟨(false,⟨q.l++[((k+1:Nat):Int)],q.vs.set k true,x37.1,x37.2⟩),rfl,⟨by rw[jn hnot (by simpa using c50)];exact rfl,hv2⟩,hw.aQ⟩
      · try (first|(exact abt)|(exfalso;omega))
        obtain⟨r,hr⟩:=Option.isSome_iff_exists.1 (show(dB (L.map aI.c) cs ((k+1:Nat):Int)).isSome=true by simpa using c50)
        rw[hr,Option.getD_some];have hfr:=Jz h0 r;have hri:=Kb (nM hr).2;rw[List.length_map] at hri;have hrr:r<=9223372036854775807:=by omega
        have hbn:=hfr.brN;have hbs:=hfr.brS;have hfm:=Uq hri;have hbr:=hb.br r;refine jH ?_;refine Ii ?_;refine aE (aW (k:=3) rf dI dR (by simp only[List.drop_zero,List.take_succ_cons,List.take_zero];exact rfl) rfl) rfl ?_;refine aB ?_;refine aS (cV (hc:=λ w1 hw=>uG (hw.kB (.inr (.inl (.head _))) (.inr (.inl (.tail _ (.head _)))) (λ f hf=>.inr (.inl (.tail _ (.tail _ hf)))) h0) _ (by omega) hl)) (λ x56=>?_);refine cJ ?_;refine Kc6 ?_;refine kK [6,10,59,60,61,62,63,64,65,66,67,68,69,70,71,72,73,74,75,76,77,78,79,80] (λ y:Nat×VQ=>[(59,.int .i64 ((y.1:Nat):Int))]) (λ y=>y.1<=(aA L r).xs.length/\iZ (L.map aI.c) (yX (L.map aI.c) cs m) ((aA L r).xs.take y.1) (q.l++[((k+1:Nat):Int)])=some y.2.l/\Ro L.length y.2.vs y.2.l) (λ y=>[(b,vx L cs gen pn cn pc cc pv y.2 pp ps cp)]) (λ _=>_) (λ y=>va L pv y.2) (λ y=>(aA L r).xs.length-y.1) ((0,⟨q.l++[((k+1:Nat):Int)],q.vs.set k true,x37.1,x37.2⟩)) (⟨Nat.zero_le _,rfl,hv2⟩) (λ y f hx=>?_) (hw0:=λ w hw=>by rw[show q.l.length+1=(q.l++[((k+1:Nat):Int)]).length by simp] at hw;exact hw.back);refine K0a ?_;have hyn:=hx.2.2.len;have hyl:=hx.2.2.1;refine Kc0 ?_;refine bA (λ c60=>?_) (λ c60=>?_)
        · try (first|(exact abt)|(exfalso;omega))
          have hbk:(aA L r).xs.getD y.1 0<=9223372036854775807:=hbr _ (by rw[gF,List.getElem?_eq_getElem (by omega)];exact List.getElem_mem _);refine Ke1 ?_;refine aE (bE (k:=y.1) rf rf eC dC (.bO (.tail (.tail (nP.eI hfm)))) (by omega) (by omega)) rfl ?_;refine aE (bP (q:=y.1) rf dC (.bO (.tail (.tail (nP.eI hfm)))) (by omega)) rfl ?_;refine J1 ?_;refine Ii ?_;refine aE (aW (k:=3) rf dI dR (by simp only[List.drop_zero,List.take_succ_cons,List.take_zero];exact rfl) rfl) rfl ?_;refine aB ?_;refine aS (cV (hc:=λ w1 hw=>uG (hw.kB (.inr (.inl (.head _))) (.inr (.inl (.tail _ (.head _)))) (λ f hf=>.inr (.inl (.tail _ (.tail _ hf)))) h0) _ (by omega) hl)) (λ x68=>?_);refine cJ ?_;refine Kd4 ?_;refine bA (λ c70=>?_) (λ c70=>?_)
          · try (first|(exact abt)|(exfalso;omega))
            refine kN ?_;refine eX ?_;refine Ka8 ?_;refine gT ((by exact(y.1+1,y.2))) ?_
            · first
               | exact⟨by omega,yL (by omega) hx.2.1 (by rw[hj.1];exact bi hkd hvq),h78.2⟩
               | exact⟨by omega,yL (by omega) hx.2.1 (bz (by rw[bG];exact c70)),hx.2.2⟩
          · try (first|(exact abt)|(exfalso;omega))
            refine jM ?_;refine bA (λ c72=>?_) (λ c72=>?_)
            · try (first|(exact abt)|(exfalso;omega))
              obtain⟨j,hj⟩:∃j:Nat,(aA L r).xs.getD y.1 0=((j+1:Nat):Int)/\j<L.length:=by
               have:=eF (N:=L.map aI.c) (i:=(aA L r).xs.getD y.1 0) (by rw[bG];show(aA L ((aA L r).xs.getD y.1 0)).nd.kind≠0;omega);rw[List.length_map] at this;exact⟨((aA L r).xs.getD y.1 0-1).toNat,by omega,by omega⟩
              have hkd:(bH (L.map aI.c) ((aA L r).xs.getD y.1 0)).kind=2:=by rw[bG];exact c72
              rw[hj.1] at hkd ⊢;refine Ke5 ?_;refine He ?_;refine aD (cM (hs:=[(b,vx L cs gen pn cn pc cc pv y.2 pp ps cp)]) (os:=va L pv y.2) (hc:=λ w1 hs=>ih m rfl (lvl+1) (by omega) j y.2 _ w1 hj.2 hx.2.2 hs)) (λ x78 h78=>?_);refine lA ?_;refine bA (λ c79=>?_) (λ c79=>?_)
              · try (first|(exact abt)|(exfalso;omega))
                refine cR ?_;refine aR Tryz.results67 (λ w hw=>?_)
                have hvq:yX (L.map aI.c) cs m ((j+1:Nat):Int) y.2.l=none:=by
                 have h1:=h78.1;unfold sd at h1;split at h1
                 · exfalso;simp_all
                 · assumption
                exact⟨(false,x78.2),rfl,⟨by rw[G7 hnot hr,wY,Wm (by omega) hx.2.1,hj.1,yt hkd hvq];exact rfl,h78.2⟩,hw.aQ⟩
              · try (first|(exact abt)|(exfalso;omega))
                have hvq:yX (L.map aI.c) cs m ((j+1:Nat):Int) y.2.l=some x78.2.l:=by
                 have h1:=h78.1;unfold sd at h1;split at h1
                 · rename_i l e
                   rw[e,h1.2]
                 · exfalso;simp_all
                refine kN ?_;refine eX ?_;refine Ka8 ?_;refine gT ((by exact(y.1+1,x78.2))) ?_
                · first
                   | exact⟨by omega,yL (by omega) hx.2.1 (by rw[hj.1];exact bi hkd hvq),h78.2⟩
                   | exact⟨by omega,yL (by omega) hx.2.1 (bz (by rw[bG];exact c70)),hx.2.2⟩
            · try (first|(exact abt)|(exfalso;omega))
              refine cR ?_;refine aR Tryz.results67 (λ w hw=>?_);exact⟨(false,y.2),rfl,⟨by rw[G7 hnot hr,wY,Wm (by omega) hx.2.1,ry (by rw[bG];exact c70) (by rw[bG];exact c72)];exact rfl,hx.2.2⟩,hw.aQ⟩
        · try (first|(exact abt)|(exfalso;omega))
          refine K0z ?_;refine aR Tryz.results67 (λ w hw=>?_);refine⟨(true,y.2),rfl,⟨?_,hx.2.2⟩,hw.aQ⟩;have e2:=hx.2.1;rw[List.take_of_length_le (by omega)] at e2;rw[G7 hnot hr,wY,e2];exact⟨rfl,rfl⟩
theorem Lk(h0:Fits L)(hb:mj L cs)(hl:L.length<=274877906944)(hc:cs.length<=274877906944)(b pv:Nat)(pp:Option Addr)(ps:List Pr)(cp:Nat):∀n,xb L cs gen pn cn pc cc b pv pp ps cp n
 | 0=>Qu h0 hb hl hc b pv pp ps cp 0 λ m e=>nomatch e
 | n+1=>Qu h0 hb hl hc b pv pp ps cp (n+1) λ m e=>by cases e;exact Lk h0 hb hl hc b pv pp ps cp n
end
end

/- Views: Contents and Inner. -/
section
open Go Go.RowKit Go.Ct
section
variable{L:List aI}{cs:List Int}{gen:Int}{pn pc:Option Addr}{cn cc:Nat}{w:World}
theorem Fh(h:eP w L cs pn pc)(hl:L.length<=274877906944)(hc:cs.length<=274877906944)(hcn:L.length<=cn)(hp:cO L cs gen):Calls Tryz.prog 52 #[iF L cs gen pn cn pc cc] w λ e w'=>e=.returned (.bool true)/\St w [] [] w':=by
 refine enter Tryz.func52 Tryz.ntmps52 rfl rfl h.start ?_;simp only[cP]
 simp only[iF]
 refine K1k ?_;intro x1;refine J1 ?_;refine iH ?_;refine aD (Rr (hc:=λ w1 hw=>yj (h.lB hw) hl hc hcn hp)) (λ x7 h7=>?_);refine Ka3 ?_;refine J2 ?_;refine Oa ?_;refine aR Tryz.results52 (λ w hw=>?_);exact⟨rfl,hw.done⟩
theorem R6(h:eP w L cs pn pc)(hl:L.length<=274877906944)(hc:cs.length<=274877906944)(hp:¬cO L cs gen):Calls Tryz.prog 52 #[iF L cs gen pn cn pc cc] w λ e w'=>e=.returned (.bool false)/\St w [] [] w':=by
 refine enter Tryz.func52 Tryz.ntmps52 rfl rfl h.start ?_;simp only[cP]
 simp only[iF]
 refine K1k ?_;intro x1;refine J1 ?_;refine iH ?_;refine aS (cV (hc:=λ w1 hw=>yu (h.lB hw) hl hc hp)) (λ x7=>?_);refine Ka3 ?_;refine J2 ?_;refine Oa ?_;refine aR Tryz.results52 (λ w hw=>?_);exact⟨rfl,hw.done⟩
theorem Kn(h:eP w L cs pn pc)(hl:L.length<=274877906944)(hc:cs.length<=274877906944)(hcn:L.length<=cn):Calls Tryz.prog 52 #[iF L cs gen pn cn pc cc] w λ e w'=>∃r:Bool,e=.returned (.bool r)/\(r=true↔cO L cs gen)/\St w [] [] w':=by
 by_cases hp:cO L cs gen
 ·exact(Fh h hl hc hcn hp).mono λ _ _ h=>⟨true,h.1,⟨λ _=>hp,λ _=>rfl⟩,h.2⟩
 ·exact(R6 h hl hc hp).mono λ _ _ h=>⟨false,h.1,⟨(λ h=>nomatch h),λ h=>absurd h hp⟩,h.2⟩
theorem As(hp:cO L cs gen)(hr:iG L)(hl:L.length<=274877906944):mj L cs:=by
 have hd:∀x:Int,Eg x L.length->x<=9223372036854775807:=λ x h=>by have:=h.2;omega
 refine⟨λ c=>?_,λ r=>?_,λ r=>?_,λ r=>?_,λ r=>?_,λ r=>?_,λ r=>?_⟩
 ·unfold bV
  split
  ·exact hd _ (hp.cells _ (by omega))
  ·decide
 ·unfold aA
  split
  ·exact hd _ (hp.nodes (r-1).toNat (by omega)).2.2.2.1
  ·decide
 ·unfold aA
  split
  ·exact hd _ (hp.nodes (r-1).toNat (by omega)).2.2.2.2.2
  ·decide
 ·unfold aA
  split
  ·exact(hr _ (eE (by omega))).main
  ·decide
 ·unfold aA
  split
  ·exact(hr _ (eE (by omega))).prev
  ·decide
 ·unfold aA
  split
  ·exact(hr _ (eE (by omega))).status
  ·decide
 ·unfold aA
  split
  ·intro b hb
   obtain⟨i,hi,rfl⟩:=List.mem_iff_getElem.1 hb
   have:=(hp.nodes (r-1).toNat (by omega)).2.2.1 i hi;rw[gF,List.getElem?_eq_getElem hi] at this;exact hd _ this
  ·intro b hb
   cases hb
open Classical in
noncomputable def lD (L:List aI) (cs:List Int) (gen:Int) (c:Int):Option (List Int):=if cO L cs gen then(eD (L.map aI.c) cs c).bind λ r=>yX (L.map aI.c) cs 12 r [] else none
theorem qC(hp:cO L cs gen){c:Int}:lD L cs gen c=(eD (L.map aI.c) cs c).bind λ r=>yX (L.map aI.c) cs 12 r []:=if_pos hp
theorem Jx{o:Option (List Int)}{b:Bool}{q:VQ}{P:Prop}(h:sd o b q/\P)(ho:o=none)(hb:b=true):False:=by
 have h1:=h.1;rw[ho,hb] at h1;exact nomatch (show true=false from h1)
theorem P9(h:eP w L cs pn pc)(hr:iG L)(hl:L.length<=274877906944)(hc:cs.length<=274877906944)(hcn:L.length<=cn)(c:Int)(ro:Bool)(hi:c<=9223372036854775807)(hn:lD L cs gen c=none):Calls Tryz.prog 51 #[iF L cs gen pn cn pc cc,.agg ⟨[.int .i64 c,.bool ro]⟩] w λ e w'=>e=.returned (.tuple #[.pointer none,.bool false])/\St w [] [] w':=by
 refine enter Tryz.func51 Tryz.ntmps51 rfl rfl (h.start.kS 62 1) ?_;simp only[cP]
 simp only[iF]
 refine K0o ?_;intro x2 x3;refine Kd6 ?_;refine iH ?_;refine aD (c0 (V:=.bool) (hc:=λ w1 hw=>Kn (h.lB hw) hl hc hcn)) (λ x10 h10=>?_);refine lA ?_;refine bA (λ c11=>?_) (λ c11=>?_)
 ·refine Aw ?_;refine bK Tryz.results51 (λ w hw=>?_);first
  | exact⟨rfl,hw.done⟩
 ·have hp:cO L cs gen:=h10.1 (by simpa using c11);have hb:=As hp hr hl;rw[qC hp] at hn;refine bB ?_;refine Kb0 ?_;refine aS (cV (hc:=λ w1 hw=>Mh (h.lB hw) hb hl hc c ro hi)) (λ x15=>?_);refine Kb1 ?_;refine lA ?_;refine bA (λ c19=>?_) (λ c19=>?_)
  ·refine Aw ?_;refine bK Tryz.results51 (λ w hw=>?_);first
   | exact⟨rfl,hw.done⟩
  ·obtain⟨r,hrt⟩:=Option.isSome_iff_exists.1 (show(eD (L.map aI.c) cs c).isSome=true by simpa using c19)
   obtain⟨k,rfl,hk⟩:=E1 hrt
   rw[hrt,Option.bind_some] at hn;rw[hrt,Option.getD_some];refine jH ?_;refine dZ [(0,[]),(1,[]),(2,[]),(3,[]),(4,[0]),(5,[]),(6,[]),(7,[])] ?_;refine aZ ?_;refine iT ?_;refine iW ?_;refine qT (h:=λ x24=>?_);refine gQ ?_;refine bo (h:=λ x26=>?_);refine K0y ?_;intro x29 h29;refine bA (λ c30=>?_) (λ c30=>?_)
   ·refine Aw ?_;refine bK Tryz.results51 (λ w hw=>?_);first
    | exact⟨rfl,hw.done⟩
    | exact(Jx h29 hn (by simpa using c30)).elim
   ·refine Ke9 ?_;refine bK Tryz.results51 (λ w hw=>?_);first
    | exact⟨rfl,hw.done⟩
    | exact(Jx h29 hn (by simpa using c30)).elim
theorem Pz(h:eP w L cs pn pc)(hr:iG L)(hl:L.length<=274877906944)(hc:cs.length<=274877906944)(hcn:L.length<=cn)(c:Int)(ro:Bool)(hi:c<=9223372036854775807){l:List Int}(hn:lD L cs gen c=some l):Calls Tryz.prog 51 #[iF L cs gen pn cn pc cc,.agg ⟨[.int .i64 c,.bool ro]⟩] w λ e w'=>∃x:Nat×Nat×VQ,e=.returned (.tuple #[.pointer (some ⟨x.1,0,none⟩),.bool true])/\(x.2.2.l=l/\l.length<=L.length)/\SF w [] [(x.1,vx L cs gen pn cn pc cc x.2.1 x.2.2 none [] 0)] [] [] (va L x.2.1 x.2.2) w':=by
 have hp:cO L cs gen:=by
  unfold lD at hn
  split at hn
  ·assumption
  ·cases hn
 have hb:=As hp hr hl;rw[qC hp] at hn;obtain⟨r,hrt,hn⟩:=Option.bind_eq_some_iff.1 hn
 obtain⟨k,rfl,hk⟩:=E1 hrt
 refine enter Tryz.func51 Tryz.ntmps51 rfl rfl (h.start.kS 62 1) ?_;simp only[cP]
 simp only[iF]
 refine K0o ?_;intro x2 x3;refine Kd6 ?_;refine iH ?_;refine aS (cV (hc:=λ w1 hw=>Fh (h.lB hw) hl hc hcn hp)) (λ x10=>?_);refine lA ?_;refine bA (λ c11=>?_) (λ c11=>?_)
 ·exact nv c11
 ·refine bB ?_;refine Kb0 ?_;refine aS (cV (hc:=λ w1 hw=>by have:=Mh (gen:=gen) (cn:=cn) (cc:=cc) (h.lB hw) hb hl hc c ro hi;rw[hrt] at this;exact this)) (λ x15=>?_);refine Kb1 ?_;refine lA ?_;refine bA (λ c19=>?_) (λ c19=>?_)
  ·simp at c19
  ·refine jH ?_;refine dZ [(0,[]),(1,[]),(2,[]),(3,[]),(4,[0]),(5,[]),(6,[]),(7,[])] ?_;refine aZ ?_;refine iT ?_;refine iW ?_;refine qT (h:=λ x24=>?_);refine gQ ?_;refine bo (h:=λ x26=>?_);refine K0y ?_;intro x29 h29;refine bA (λ c30=>?_) (λ c30=>?_)
   ·exfalso;have h1:=h29.1;rw[hn] at h1;have h2:=h1.1;simp_all
   ·refine Ke9 ?_;refine bK Tryz.results51 (λ w hw=>?_);have h1:=h29.1;rw[hn] at h1;exact⟨(x26,x24,x29.2),rfl,⟨h1.2,by rw[<- h1.2];exact h29.2.len⟩,hw.ret (List.Sublist.cons_cons _ (List.nil_sublist _)) (aP.kJ λ f hf=>(List.not_mem_nil hf).elim) (List.Sublist.refl _)⟩
end
end

/- Views of the Shape seat: Inner and Root (as in Vw6, Vw8, without Contents, which its program lacks). -/
section
open Go Go.RowKit Go.Ct
section
variable{L:List aI}{cs:List Int}{gen:Int}{pn pc:Option Addr}{cn cc:Nat}{w:World}
theorem Ab(h:eP w L cs pn pc)(hr:iG L)(hl:L.length<=274877906944)(hc:cs.length<=274877906944)(hcn:L.length<=cn)(c:Int)(ro:Bool)(hi:c<=9223372036854775807)(hn:lD L cs gen c=none):Calls Tryz.prog 34 #[iF L cs gen pn cn pc cc,.agg ⟨[.int .i64 c,.bool ro]⟩] w λ e w'=>e=.returned (.tuple #[.slice none 0 0,.int .i64 1])/\St w [] [] w':=by
 refine enter Tryz.func34 Tryz.ntmps34 rfl rfl h.start ?_;simp only[cP]
 simp only[iF]
 refine K0o ?_;intro x2 x3;refine J8 ?_;refine Kb0 ?_;refine aS (cV (hc:=λ w1 hw=>P9 (h.lB hw) hr hl hc hcn c ro hi hn)) (λ x11=>?_);refine Kb1 ?_;refine lA ?_;refine bA (λ c15=>?_) (λ c15=>?_)
 ·refine Aw ?_;refine bK Tryz.results34 (λ w hw=>?_);exact⟨rfl,hw.done⟩
 ·exact nv c15
theorem sX(h:eP w L cs pn pc)(hr:iG L)(hl:L.length<=274877906944)(hc:cs.length<=274877906944)(hcn:L.length<=cn)(c:Int)(ro:Bool)(hi:c<=9223372036854775807){l:List Int}(hn:lD L cs gen c=some l):Calls Tryz.prog 34 #[iF L cs gen pn cn pc cc,.agg ⟨[.int .i64 c,.bool ro]⟩] w λ e w'=>∃x:Option Addr×Nat,e=.returned (.tuple #[.slice x.1 l.length x.2,.int .i64 0])/\l.length<=L.length/\SF w [] [] [] [(x.1,aH l)] [] w':=by
 refine enter Tryz.func34 Tryz.ntmps34 rfl rfl h.start ?_;simp only[cP]
 simp only[iF]
 refine K0o ?_;intro x2 x3;refine J8 ?_;refine Kb0 ?_;refine aD (Rr (Fc:=λ _=>[]) (hc:=λ w1 hw=>Pz (h.lB hw) hr hl hc hcn c ro hi hn)) (λ x11 h11=>?_);refine Kb1 ?_;refine lA ?_;refine bA (λ c15=>?_) (λ c15=>?_)
 ·exact nv c15
 ·refine J83 ?_;refine J8 ?_;refine bK Tryz.results34 (λ w hw=>?_);obtain⟨e1,e2⟩:=h11
  rw[e1] at hw ⊢
  exact⟨(x11.2.2.p,x11.2.2.c),rfl,e2,(hw.freeze (.tail .head)).fin⟩
open Classical in
noncomputable def yV (L:List aI) (cs:List Int) (gen:Int) (o:Option Int):Option Int:=if cO L cs gen then o else none
theorem Kj(h:eP w L cs pn pc)(hr:iG L)(hl:L.length<=274877906944)(hc:cs.length<=274877906944)(hcn:L.length<=cn)(c:Int)(ro:Bool)(hi:c<=9223372036854775807):Calls Tryz.prog 35 #[iF L cs gen pn cn pc cc,.agg ⟨[.int .i64 c,.bool ro]⟩] w λ e w'=>e=.returned (.tuple #[.int .i64 ((yV L cs gen (eD (L.map aI.c) cs c)).getD 0),.bool (yV L cs gen (eD (L.map aI.c) cs c)).isSome])/\St w [] [] w':=by
 refine enter Tryz.func35 Tryz.ntmps35 rfl rfl h.start ?_;simp only[cP]
 simp only[iF]
 refine K0o ?_;intro x2 x3;refine Kd6 ?_;refine iH ?_;refine aD (c0 (V:=.bool) (hc:=λ w1 hw=>Kn (h.lB hw) hl hc hcn)) (λ x7 h7=>?_);refine lA ?_;refine bA (λ c8=>?_) (λ c8=>?_)
 ·have hn:¬cO L cs gen:=λ hp=>by rw[h7.2 hp] at c8;cases c8
  refine Aw ?_;refine bK Tryz.results35 (λ w hw=>?_);unfold yV;rw[if_neg hn];exact⟨rfl,hw.done⟩
 ·have hp:cO L cs gen:=h7.1 (by simpa using c8);refine bB ?_;refine Kb0 ?_;refine aS (cV (hc:=λ w1 hw=>Mh (h.lB hw) (As hp hr hl) hl hc c ro hi)) (λ x11=>?_);refine J54 ?_;refine J8 ?_;refine bK Tryz.results35 (λ w hw=>?_);unfold yV;rw[if_pos hp];exact⟨rfl,hw.done⟩
end
end

/- Places of a trie: the same I-nodes and pairs as the views'. -/
end Go.Proofs.YtadnboagdhcedaaGreatDoor
namespace Go.Ct
section
def PlE(o:Option (List Pl×List Pr))(s:List Int)(v:Option (List Int))(c:List Pr):Prop:=match v with
 | none=>o=none
 | some l=>∃q,o=some q/\l=s++q.1.map Pl.i/\q.2=c
theorem Mn{N:List Nv}{f:Int->List Int->List Int->Option (List Pl×List Pr)}{g:Int->List Int->Option (List Int)}{h:Int->List Pr}(hf:∀b w s,PlE (f b w s) s (g b s) (h b)) :
  ∀(xs way idx:List Int) (j:Nat) (s:List Int),PlE (yQ N f way idx xs j s) s (iZ N g xs s) (Zj N h xs)
 | [],_,_,_,s=>⟨([],[]),rfl,by simp,rfl⟩
 | b::r,way,idx,j,s=>by
  by_cases h4:(bH N b).kind=4
  ·have ih:=Mn (N:=N) hf r way idx (j+1) s;simp only[yQ,iZ,Zj,if_pos h4]
   cases hv:iZ N g r s with
   | none=>rw[hv] at ih;unfold PlE at ih ⊢;simp only at ih ⊢;rw[ih];rfl
   | some l =>
    rw[hv] at ih
    obtain⟨q,e1,e2,e3⟩:=ih
    exact⟨(q.1,((bH N b).key,(bH N b).val)::q.2),by rw[e1];rfl,e2,by rw[<- e3];rfl⟩
  by_cases h2:(bH N b).kind=2
  ·have hb:=hf b (way++[idx.getD j 0]) s;simp only[yQ,iZ,Zj,if_neg h4,if_pos h2]
   cases hg:g b s with
   | none=>rw[hg] at hb;unfold PlE at hb ⊢;simp only[Option.bind_none] at hb ⊢;rw[hb];rfl
   | some l =>
    rw[hg] at hb
    obtain⟨p,e1,e2,e3⟩:=hb
    subst e2;have ih:=Mn (N:=N) hf r way idx (j+1) (s++p.1.map Pl.i);simp only[Option.bind_some]
    rw[e1,Option.bind_some]
    cases hv:iZ N g r (s++p.1.map Pl.i) with
    | none=>rw[hv] at ih;unfold PlE at ih ⊢;simp only at ih ⊢;rw[ih];rfl
    | some l =>
     rw[hv] at ih
     obtain⟨q,f1,f2,f3⟩:=ih
     exact⟨(p.1++q.1,p.2++q.2),by rw[f1];rfl,by rw[f2];simp,by rw[<- f3,<- e3]⟩
  ·simp only[yQ,iZ,if_neg h4,if_neg h2]
   rfl
theorem Uj{N:List Nv}{cs:List Int}(hP:∀m,(bH N m).kind=5∨(bH N m).kind=6->(bH N m).xs=[]) :
  ∀(n:Nat) (a:Int) (lv:Nat) (i:Int) (way s:List Int),PlE (tU N cs n a lv i way s) s (yX N cs n i s) (za N cs n i)
 | 0,_,_,_,_,_=>rfl
 | n+1,a,lv,i,way,s=>by
  by_cases hi:i∈s
  ·rw[Ps hi]
   unfold yX
   rw[if_pos hi]
   rfl
  cases hb:dB N cs i with
  | none =>
   rw[Qv (by rw[hb];rfl)]
   unfold yX
   rw[if_neg hi,hb]
   rfl
  | some m =>
   have hc:za N cs (n+1) i=Qy (bH N m)++Zj N (za N cs n) (bH N m).xs:=by simp only[za,hb]
   rw[hc]
   unfold yX
   rw[if_neg hi,hb,Option.bind_some]
   by_cases h5:(bH N m).kind=5∨(bH N m).kind=6
   ·rw[Nb hi hb h5,hP m h5]
    exact⟨_,rfl,rfl,(List.append_nil _).symm⟩
   ·rw[us hi hb h5]
    have ho:Qy (bH N m)=[]:=by
     unfold Qy
     rw[if_neg (λ e=>h5 (.inl e)),if_neg (λ e=>h5 (.inr e))]
    rw[ho,List.nil_append];have:=Mn (N:=N) (f:=λ b w s=>tU N cs n i (lv+1) b w s) (g:=yX N cs n) (h:=za N cs n) (λ b w s=>Uj hP n i (lv+1) b w s) (bH N m).xs way (fZ (bH N m).bm.toNat 64) 0 (s++[i]);cases hv:iZ N (yX N cs n) (bH N m).xs (s++[i]) with
    | none=>rw[hv] at this;unfold PlE at this ⊢;simp only at this ⊢;rw[this];rfl
    | some l =>
     rw[hv] at this
     obtain⟨q,e1,e2,e3⟩:=this
     exact⟨(⟨i,m,a,lv,way⟩::q.1,q.2),by rw[e1];rfl,by rw[e2];simp,e3⟩
end

end Go.Ct

/- Views: which nodes have been visited; lists of nodes. -/
import Derived.Test.YtadnboagdhcedaaGreatDoorGSh24
import Derived.Test.YtadnboagdhcedaaGreatDoorGSh9

set_option linter.unusedSimpArgs false
set_option linter.unusedVariables false
namespace Go.Ct
section
open Go Go.RowKit
def Uh(n:Nat)(vs:List Bool)(l:List Int):Prop:=vs.length=n/\(∀k,k<n->(vs.getD k false=true↔((k+1:Nat):Int)∈l))/\l.length+vs.count false=n
theorem Uh.zero(n:Nat):Uh n (List.replicate n false) []:=⟨by simp,λ k hk=>by simp[fQ,hk],by simp⟩
theorem count_set:∀(vs:List Bool) (k:Nat),k<vs.length->vs.getD k false=false->(vs.set k true).count false+1=vs.count false
 | [],_,h,_=>by simp at h
 | b::vs,0,_,h=>by
  have e:b=false:=by simpa using h
  subst e
  simp
 | b::vs,k+1,h,h2=>by
  have:=count_set vs k (by simpa using h) (by simpa using h2)
  rw[List.set_cons_succ,List.count_cons,List.count_cons]
  omega
theorem Uh.set{n k:Nat}{vs:List Bool}{l:List Int}(h:Uh n vs l)(hk:k<n)(hf:vs.getD k false=false):Uh n (vs.set k true) (l++[((k+1:Nat):Int)]):=by
 have h1:=h.1
 refine⟨by simp[h.1],λ j hj=>?_,?_⟩
 ·have h2:=h.2.1 j hj
  rw[fQ] at h2
  rw[fQ,List.getElem?_set]
  by_cases e:k=j
  ·subst e
   simp[show k<vs.length by omega]
  ·rw[if_neg e,h2]
   simp only[List.mem_append,List.mem_singleton]
   constructor
   ·exact .inl
   ·rintro (h3|h3)
    ·exact h3
    ·omega
 ·have:=count_set vs k (by omega) hf
  have:=h.2.2
  simp only[List.length_append,List.length_cons,List.length_nil]
  omega
theorem Uh.len{n:Nat}{vs:List Bool}{l:List Int}(h:Uh n vs l):l.length<=n:=by have:=h.2.2;omega
theorem Ta{N:List Nv}{r:Int}(h:bU (cD N r)):1<=r/\r<=N.length:=cY (by unfold bU at h;omega)
theorem Z7{L:List aK}{r:Int}(h:1<=r/\r<=L.length):((aA L r).nd.brA,aG (aA L r).xs)∈aY L:=by
 unfold aA
 rw[if_pos h]
 exact H3 (by omega)
theorem C5(L:List aK)(r:Int):(cD (L.map aK.c) r).xs=(aA L r).xs:=by rw[cH];rfl
theorem P0{L:List aK}{cs:List Int}{c r:Int}(h:fA (L.map aK.c) cs c=some r):∃k:Nat,r=((k+1:Nat):Int)/\k<L.length:=by
 unfold fA at h
 split at h
 ·rename_i hk
  cases h
  have:=cY (N:=L.map aK.c) (i:=rL (L.map aK.c) cs c) (by omega)
  rw[List.length_map] at this
  exact⟨(rL (L.map aK.c) cs c-1).toNat,by omega,by omega⟩
 ·cases h
end

/- Views: the I-nodes of a trie are visited. -/
section
open Go Go.RowKit
structure VQ where
 l:List Int
 vs:List Bool
 p:Option Addr
 c:Nat
def ik(o:Option (List Int))(b:Bool)(q:VQ):Prop:=match o with|some l=>b=true/\q.l=l|none=>b=false
theorem Rj{N:List Nv}{f:Int->List Int->Option (List Int)}{xs l l2:List Int}{k:Nat}(hk:k<xs.length)(h:jB N f (xs.take k) l=some l2):jB N f xs l=jB N f (xs.getD k 0::xs.drop (k+1)) l2:=by
 have e:xs=xs.take k++(xs.getD k 0::xs.drop (k+1)):=by
  rw[fQ,List.getElem?_eq_getElem hk,Option.getD_some,<- List.drop_eq_getElem_cons hk,List.take_append_drop]
 rw[e,tH,<- e,h]
 rfl
theorem uM{N:List Nv}{f:Int->List Int->Option (List Int)}{xs l l2 l3:List Int}{k:Nat}(hk:k<xs.length)(h:jB N f (xs.take k) l=some l2)(h2:jB N f [xs.getD k 0] l2=some l3):jB N f (xs.take (k+1)) l=some l3:=by
 rw[List.take_add_one,List.getElem?_eq_getElem hk,tH,h]
 rw[fQ,List.getElem?_eq_getElem hk] at h2
 exact h2
theorem Vw{N:List Nv}{f:Int->List Int->Option (List Int)}{b:Int}{l:List Int}(h:(cD N b).kind=4):jB N f [b] l=some l:=by simp[jB,h]
theorem V1{N:List Nv}{f:Int->List Int->Option (List Int)}{b:Int}{l l2:List Int}(h:(cD N b).kind=2)(hf:f b l=some l2):jB N f [b] l=some l2:=by simp[jB,h,hf]
theorem iu{N:List Nv}{f:Int->List Int->Option (List Int)}{b:Int}{r l:List Int}(h:(cD N b).kind≠4)(h2:(cD N b).kind≠2):jB N f (b::r) l=none:=by simp[jB,h,h2]
theorem n5{N:List Nv}{f:Int->List Int->Option (List Int)}{b:Int}{r l:List Int}(h:(cD N b).kind=2)(hf:f b l=none):jB N f (b::r) l=none:=by simp[jB,h,hf]
theorem Ym{N:List Nv}{cs:List Int}{i:Int}{l:List Int}(h:i∈l):∀{n:Nat},Ad N cs n i l=none
 | 0=>rfl
 | n+1=>by unfold Ad;rw[if_pos h]
theorem Ya{N:List Nv}{cs:List Int}{i:Int}{l:List Int}{n:Nat}(h:¬i∈l)(h2:(eA N cs i).isSome=false):Ad N cs (n+1) i l=none:=by
 unfold Ad
 rw[if_neg h]
 cases hb:eA N cs i with
 | none=>rfl
 | some m=>rw[hb] at h2;cases h2
theorem B7{N:List Nv}{cs:List Int}{i m:Int}{l:List Int}{n:Nat}(h:¬i∈l)(h2:eA N cs i=some m):Ad N cs (n+1) i l=jB N (Ad N cs n) (cD N m).xs (l++[i]):=by
 unfold Ad
 rw[if_neg h,h2]
 rfl
end
end Go.Ct
namespace Go.Proofs.YtadnboagdhcedaaGreatDoor
section
open Go Go.RowKit Go.Ct
section
variable{L:List aK}{cs:List Int}{gen:Int}{pn pc:Option Addr}{cn cc:Nat}{w:World}
theorem Ic(h:hY w L cs pn pc)(hb:uf L cs)(hl:L.length<=274877906944)(hc:cs.length<=274877906944)(c:Int)(ro:Bool)(hi:c<=9223372036854775807):Calls Tryz.prog 53 #[rF L cs gen pn cn pc cc,.agg ⟨[.int .i64 c,.bool ro]⟩] w λ e w'=>e=.returned (.tuple #[.int .i64 ((fA (L.map aK.c) cs c).getD 0),.bool (fA (L.map aK.c) cs c).isSome])/\St w [] [] w':=by
 refine enter Tryz.func53 Tryz.ntmps53 rfl rfl h.start ?_
 simp only[cR]
 simp only[rF]
 refine J0 ?_;refine bP (λ x2=>?_);refine bP (λ x3=>?_);refine J8 ?_;refine kU ?_;refine J3 ?_;refine aR (cV (hc:=λ w1 hw=>A9 (h.Db hw) c hi hc)) (λ x11=>?_);refine gK ?_;refine Az ?_;refine aR (cV (hc:=λ w1 hw=>rG (h.Db hw) (bW cs c) (hb.cs _) hl)) (λ x14=>?_);refine aP (λ x7=>?_);refine J5 ?_;refine gN ?_;refine rR ?_
 refine aZ (λ c17=>?_) (λ c17=>?_)
 ·refine gN ?_;refine J1 ?_;refine kU ?_;refine J3 ?_;refine aR (cV (hc:=λ w1 hw=>A9 (h.Db hw) (aA L (bW cs c)).nd.status (hb.status _) hc)) (λ x23=>?_);refine rR ?_
  refine aZ (λ c24=>?_) (λ c24=>?_)
  ·refine dO ?_;refine J3 ?_;refine gK ?_;refine Az ?_;refine aR (cV (hc:=λ w1 hw=>rG (h.Db hw) _ (by exact hb.new _) hl)) (λ x29=>?_);refine cE ?_;refine Kb7 ?_
   refine aZ (λ c31=>?_) (λ c31=>?_)
   ·refine Es ?_
    refine bJ Tryz.results53 (λ w hw=>?_)
    refine⟨?_,hw.done⟩
    unfold fA rL
    simp only[cH,bU,aK.c,Nd.c]
    simp_all
    rfl
   ·refine bA ?_;refine J2 ?_;refine J8 ?_
    refine bJ Tryz.results53 (λ w hw=>?_)
    refine⟨?_,hw.done⟩
    unfold fA rL
    simp only[cH,bU,aK.c,Nd.c]
    simp_all
    rfl
  ·refine jD ?_;refine Az ?_;refine aR (cV (hc:=λ w1 hw=>rG (h.Db hw) _ (by exact hb.bL _) hl)) (λ x29=>?_);refine cE ?_;refine Kb7 ?_
   refine aZ (λ c31=>?_) (λ c31=>?_)
   ·refine Es ?_
    refine bJ Tryz.results53 (λ w hw=>?_)
    refine⟨?_,hw.done⟩
    unfold fA rL
    simp only[cH,bU,aK.c,Nd.c]
    simp_all
    rfl
   ·refine bA ?_;refine J2 ?_;refine J8 ?_
    refine bJ Tryz.results53 (λ w hw=>?_)
    refine⟨?_,hw.done⟩
    unfold fA rL
    simp only[cH,bU,aK.c,Nd.c]
    simp_all
    rfl
 ·refine jD ?_;refine Az ?_;refine aR (cV (hc:=λ w1 hw=>rG (h.Db hw) _ (by exact hb.cs _) hl)) (λ x29=>?_);refine cE ?_;refine Kb7 ?_
  refine aZ (λ c31=>?_) (λ c31=>?_)
  ·refine Es ?_
   refine bJ Tryz.results53 (λ w hw=>?_)
   refine⟨?_,hw.done⟩
   unfold fA rL
   simp only[cH,bU,aK.c,Nd.c]
   simp_all
   rfl
  ·refine bA ?_;refine J2 ?_;refine J8 ?_
   refine bJ Tryz.results53 (λ w hw=>?_)
   refine⟨?_,hw.done⟩
   unfold fA rL
   simp only[cH,bU,aK.c,Nd.c]
   simp_all
   rfl
abbrev j5(L:List aK)(cs:List Int)(gen:Int)(pn:Option Addr)(cn:Nat)(pc:Option Addr)(cc:Nat)(pv:Nat)(q:VQ)(pp:Option Addr)(ps:List Pr)(cp:Nat):Obj:=.cells ⟨[.slice pn L.length cn,.slice pc cs.length cc,.int .i64 gen,.slice (some ⟨pv,0,none⟩) L.length L.length,.slice q.p q.l.length q.c,.slice pp ps.length cp]⟩ 122 (0,0)
abbrev lr(L:List aK)(pv:Nat)(q:VQ):List Ow:=[⟨some ⟨pv,0,none⟩,hJ q.vs,L.length,4,1⟩,⟨q.p,aG q.l,q.c,62,1⟩]
theorem py{w0:World}{D:List Nat}{b pv:Nat}{q:VQ}{pp:Option Addr}{ps:List Pr}{cp:Nat}{A F:Fr}(h:SF w0 D [(b,j5 L cs gen pn cn pc cc pv q pp ps cp)] A F (lr L pv q) w) :
  SF w0 D [(b,.cells ⟨[.slice pn L.length cn,.slice pc cs.length cc,.int .i64 gen,.slice (some ⟨pv,0,none⟩) L.length L.length,.slice q.p q.l.length q.c,.slice pp ps.length cp]⟩ 122 (0,0))] A F [⟨some ⟨pv,0,none⟩,hJ q.vs,L.length,4,1⟩,⟨q.p,aG q.l,q.c,62,1⟩] w:=h
def r5(L:List aK)(cs:List Int)(gen:Int)(pn:Option Addr)(cn:Nat)(pc:Option Addr)(cc:Nat)(b pv:Nat)(pp:Option Addr)(ps:List Pr)(cp:Nat)(n:Nat):Prop:=∀(lvl:Nat),lvl+n=12->∀(k:Nat) (q:VQ) (D:List Nat) (w:World),k<L.length->Uh L.length q.vs q.l->SF w D [(b,j5 L cs gen pn cn pc cc pv q pp ps cp)] ((pn,jC L)::(pc,aG cs)::aY L) [] (lr L pv q) w ->
  Calls Tryz.prog 67 #[.pointer (some ⟨b,0,none⟩),.int .i64 ((k+1:Nat):Int),.int .i64 ((lvl:Nat):Int)] w λ e w'=>∃x:Bool×VQ,e=.returned (.bool x.1)/\(ik (Ad (L.map aK.c) cs n ((k+1:Nat):Int) q.l) x.1 x.2/\Uh L.length x.2.vs x.2.l)/\SF w D [(b,j5 L cs gen pn cn pc cc pv x.2 pp ps cp)] [] [] (lr L pv x.2) w'
theorem Kq(h0:Fits L)(hb:uf L cs)(hl:L.length<=274877906944)(hc:cs.length<=274877906944)(b pv:Nat)(pp:Option Addr)(ps:List Pr)(cp:Nat)(n:Nat)(ih:∀m,n=m+1->r5 L cs gen pn cn pc cc b pv pp ps cp m):r5 L cs gen pn cn pc cc b pv pp ps cp n:=by
  intro lvl hn k q D w hk hv hs
  have hvl:=hv.1
  have hvn:=hv.len
  refine enter Tryz.func67 Tryz.ntmps67 rfl rfl (py hs) ?_
  simp only[cR]
  refine Ka7 ?_;refine As ?_;refine aB ?_
  (refine eR 13 (λ g13=>?_) (λ g13=>?_)<;>refine Ka1 ?_)
  all_goals ((first|refine aH ?_|(refine aF ?_;refine fY ?_));refine J6 ?_;refine zu ?_;(first|refine aH ?_|(refine aF ?_;refine aE (sR (k:=k) rf rf fK fX fin (by omega) (by omega)) rfl ?_));(first|refine aH ?_|(refine aF ?_;refine aE (G9 (q:=k) rf fX fin (by omega)) rfl ?_));refine cU ?_;refine aI ?_)
  all_goals
   refine aZ (λ c22=>?_) (λ c22=>?_)
   · all_goals try (first|(exact abt)|(exfalso;omega))
     all_goals refine cN ?_
     all_goals
      refine aN Tryz.results67 (λ w hw=>?_)
      first
       | exact⟨(false,q),rfl,⟨by rw[Ym ((hv.2.1 k hk).1 (by assumption))];exact rfl,hv⟩,hw.aU⟩
       | exact⟨(false,q),rfl,⟨by rw[show n=0 by omega];exact rfl,hv⟩,hw.aU⟩
   · try exact nv c22
     all_goals
      obtain⟨m,rfl⟩:∃m,n=m+1:=⟨n-1,by omega⟩
      have hnot:¬(((k+1:Nat):Int)∈q.l):=λ hm=>by have:=(hv.2.1 k hk).2 hm;simp_all
      have hv2:=hv.set hk (by simp_all)
     all_goals (refine sw ?_;refine aB ?_;refine oP ?_;refine aE (sR (k:=k) rf rf fK fX fin (by omega) (by omega)) rfl ?_;refine J5 ?_;refine iF ?_;refine fY ?_;refine J3 ?_;refine aB ?_;refine fT (λ x36=>?_);(refine eC (λ x37=>?_);try (refine eX (λ h37=>?_)));refine lj ?_;refine E0 ?_;refine aE (aL (k:=3) rf fN gX (by simp only[List.drop_zero,List.take_succ_cons,List.take_zero];exact rfl) rfl) rfl ?_;refine aB ?_;refine aR (cV (hc:=λ w1 hw=>b8 (hw.vS (.inr (.inl (.head _))) (.inr (.inl (.tail _ (.head _)))) (λ f hf=>.inr (.inl (.tail _ (.tail _ hf)))) h0) hb hl hc ((k+1:Nat):Int) (by omega))) (λ x46=>?_);refine Kb6 ?_;refine lX ?_)
     all_goals
      refine aZ (λ c50=>?_) (λ c50=>?_)
      · try (first|(exact abt)|(exfalso;omega))
        refine cN ?_
        refine aN Tryz.results67 (λ w hw=>?_)
        rw[show q.l.length+1=(q.l++[((k+1:Nat):Int)]).length by simp] at hw
        exact⟨(false,⟨q.l++[((k+1:Nat):Int)],q.vs.set k true,x37.1,x37.2⟩),rfl,⟨by rw[Ya hnot (by simpa using c50)];exact rfl,hv2⟩,hw.aU⟩
      · try (first|(exact abt)|(exfalso;omega))
        obtain⟨r,hr⟩:=Option.isSome_iff_exists.1 (show(eA (L.map aK.c) cs ((k+1:Nat):Int)).isSome=true by simpa using c50)
        rw[hr,Option.getD_some]
        have hfr:=S4 h0 r
        have hri:=Ta (Tl hr).2
        rw[List.length_map] at hri
        have hrr:r<=9223372036854775807:=by omega
        have hbn:=hfr.brN
        have hbs:=hfr.brS
        have hfm:=Z7 hri
        have hbr:=hb.br r
        refine jD ?_;refine E0 ?_;refine aE (aL (k:=3) rf fN gX (by simp only[List.drop_zero,List.take_succ_cons,List.take_zero];exact rfl) rfl) rfl ?_;refine aB ?_;refine aR (cV (hc:=λ w1 hw=>rG (hw.vS (.inr (.inl (.head _))) (.inr (.inl (.tail _ (.head _)))) (λ f hf=>.inr (.inl (.tail _ (.tail _ hf)))) h0) _ (by omega) hl)) (λ x56=>?_);refine cE ?_;refine Kb8 ?_
        refine mP [6,10,59,60,61,62,63,64,65,66,67,68,69,70,71,72,73,74,75,76,77,78,79,80] (λ y:Nat×VQ=>[(59,.int .i64 ((y.1:Nat):Int))]) (λ y=>y.1<=(aA L r).xs.length/\jB (L.map aK.c) (Ad (L.map aK.c) cs m) ((aA L r).xs.take y.1) (q.l++[((k+1:Nat):Int)])=some y.2.l/\Uh L.length y.2.vs y.2.l) (λ y=>[(b,j5 L cs gen pn cn pc cc pv y.2 pp ps cp)]) (λ _=>_) (λ y=>lr L pv y.2) (λ y=>(aA L r).xs.length-y.1) ((0,⟨q.l++[((k+1:Nat):Int)],q.vs.set k true,x37.1,x37.2⟩)) (⟨Nat.zero_le _,rfl,hv2⟩) (λ y f hx=>?_) (hw0:=λ w hw=>by rw[show q.l.length+1=(q.l++[((k+1:Nat):Int)]).length by simp] at hw;exact hw.back)
        dsimp only[gG,List.map,List.cons_append,List.nil_append]
        have hyn:=hx.2.2.len
        have hyl:=hx.2.2.1
        refine Kb4 ?_
        refine aZ (λ c60=>?_) (λ c60=>?_)
        · try (first|(exact abt)|(exfalso;omega))
          have hbk:(aA L r).xs.getD y.1 0<=9223372036854775807:=hbr _ (by rw[fQ,List.getElem?_eq_getElem (by omega)];exact List.getElem_mem _)
          refine oW ?_;refine J0 ?_;refine aE (bX (k:=y.1) rf rf fK fX (.bL (.tail (.tail (uV.kQ hfm)))) (by omega) (by omega)) rfl ?_;refine aE (cP (q:=y.1) rf fX (.bL (.tail (.tail (uV.kQ hfm)))) (by omega)) rfl ?_;refine J1 ?_;refine E0 ?_;refine aE (aL (k:=3) rf fN gX (by simp only[List.drop_zero,List.take_succ_cons,List.take_zero];exact rfl) rfl) rfl ?_;refine aB ?_;refine aR (cV (hc:=λ w1 hw=>rG (hw.vS (.inr (.inl (.head _))) (.inr (.inl (.tail _ (.head _)))) (λ f hf=>.inr (.inl (.tail _ (.tail _ hf)))) h0) _ (by omega) hl)) (λ x68=>?_);refine cE ?_;refine Kc2 ?_;refine iT ?_
          refine aZ (λ c70=>?_) (λ c70=>?_)
          · try (first|(exact abt)|(exfalso;omega))
            refine lC ?_;refine eV ?_;refine Ka5 ?_
            refine gI ((by exact(y.1+1,y.2))) ?_
            · first
               | exact⟨by omega,uM (by omega) hx.2.1 (by rw[hj.1];exact V1 hkd hvq),h78.2⟩
               | exact⟨by omega,uM (by omega) hx.2.1 (Vw (by rw[cH];exact c70)),hx.2.2⟩
          · try (first|(exact abt)|(exfalso;omega))
            refine iT ?_
            refine aZ (λ c72=>?_) (λ c72=>?_)
            · try (first|(exact abt)|(exfalso;omega))
              obtain⟨j,hj⟩:∃j:Nat,(aA L r).xs.getD y.1 0=((j+1:Nat):Int)/\j<L.length:=by
               have:=cY (N:=L.map aK.c) (i:=(aA L r).xs.getD y.1 0) (by rw[cH];show(aA L ((aA L r).xs.getD y.1 0)).nd.kind≠0;omega)
               rw[List.length_map] at this
               exact⟨((aA L r).xs.getD y.1 0-1).toNat,by omega,by omega⟩
              have hkd:(cD (L.map aK.c) ((aA L r).xs.getD y.1 0)).kind=2:=by rw[cH];exact c72
              rw[hj.1] at hkd ⊢
              refine iF ?_;refine aB ?_;refine F0 ?_;refine aC (cM (hs:=[(b,j5 L cs gen pn cn pc cc pv y.2 pp ps cp)]) (os:=lr L pv y.2) (hc:=λ w1 hs=>ih m rfl (lvl+1) (by omega) j y.2 _ w1 hj.2 hx.2.2 hs)) (λ x78 h78=>?_);refine lX ?_
              refine aZ (λ c79=>?_) (λ c79=>?_)
              · try (first|(exact abt)|(exfalso;omega))
                refine cN ?_
                refine aN Tryz.results67 (λ w hw=>?_)
                have hvq:Ad (L.map aK.c) cs m ((j+1:Nat):Int) y.2.l=none:=by
                 have h1:=h78.1
                 unfold ik at h1
                 split at h1
                 · exfalso;simp_all
                 · assumption
                exact⟨(false,x78.2),rfl,⟨by rw[B7 hnot hr,C5,Rj (by omega) hx.2.1,hj.1,n5 hkd hvq];exact rfl,h78.2⟩,hw.aU⟩
              · try (first|(exact abt)|(exfalso;omega))
                have hvq:Ad (L.map aK.c) cs m ((j+1:Nat):Int) y.2.l=some x78.2.l:=by
                 have h1:=h78.1
                 unfold ik at h1
                 split at h1
                 · rename_i l e
                   rw[e,h1.2]
                 · exfalso;simp_all
                refine lC ?_;refine eV ?_;refine Ka5 ?_
                refine gI ((by exact(y.1+1,x78.2))) ?_
                · first
                   | exact⟨by omega,uM (by omega) hx.2.1 (by rw[hj.1];exact V1 hkd hvq),h78.2⟩
                   | exact⟨by omega,uM (by omega) hx.2.1 (Vw (by rw[cH];exact c70)),hx.2.2⟩
            · try (first|(exact abt)|(exfalso;omega))
              refine cN ?_
              refine aN Tryz.results67 (λ w hw=>?_)
              exact⟨(false,y.2),rfl,⟨by rw[B7 hnot hr,C5,Rj (by omega) hx.2.1,iu (by rw[cH];exact c70) (by rw[cH];exact c72)];exact rfl,hx.2.2⟩,hw.aU⟩
        · try (first|(exact abt)|(exfalso;omega))
          refine bG rfl ?_;refine cN ?_
          refine aN Tryz.results67 (λ w hw=>?_)
          refine⟨(true,y.2),rfl,⟨?_,hx.2.2⟩,hw.aU⟩
          have e2:=hx.2.1
          rw[List.take_of_length_le (by omega)] at e2
          rw[B7 hnot hr,C5,e2]
          exact⟨rfl,rfl⟩
theorem Hn(h0:Fits L)(hb:uf L cs)(hl:L.length<=274877906944)(hc:cs.length<=274877906944)(b pv:Nat)(pp:Option Addr)(ps:List Pr)(cp:Nat):∀n,r5 L cs gen pn cn pc cc b pv pp ps cp n
 | 0=>Kq h0 hb hl hc b pv pp ps cp 0 λ m e=>nomatch e
 | n+1=>Kq h0 hb hl hc b pv pp ps cp (n+1) λ m e=>by cases e;exact Hn h0 hb hl hc b pv pp ps cp n
end
end

/- Views: Contents and Inner. -/
section
open Go Go.RowKit Go.Ct
section
variable{L:List aK}{cs:List Int}{gen:Int}{pn pc:Option Addr}{cn cc:Nat}{w:World}
theorem By(h:hY w L cs pn pc)(hl:L.length<=274877906944)(hc:cs.length<=274877906944)(hcn:L.length<=cn)(hp:dH L cs gen):Calls Tryz.prog 52 #[rF L cs gen pn cn pc cc] w λ e w'=>e=.returned (.bool true)/\St w [] [] w':=by
 refine enter Tryz.func52 Tryz.ntmps52 rfl rfl h.start ?_
 simp only[cR]
 simp only[rF]
 refine J0 ?_;refine bP (λ x1=>?_);refine J1 ?_;refine kU ?_;refine aC (cj (hc:=λ w1 hw=>qw (h.Db hw) hl hc hcn hp)) (λ x7 h7=>?_);refine Ka8 ?_;refine J2 ?_;refine M2 ?_
 refine aN Tryz.results52 (λ w hw=>?_)
 exact⟨rfl,hw.done⟩
theorem Mo(h:hY w L cs pn pc)(hl:L.length<=274877906944)(hc:cs.length<=274877906944)(hp:¬dH L cs gen):Calls Tryz.prog 52 #[rF L cs gen pn cn pc cc] w λ e w'=>e=.returned (.bool false)/\St w [] [] w':=by
 refine enter Tryz.func52 Tryz.ntmps52 rfl rfl h.start ?_
 simp only[cR]
 simp only[rF]
 refine J0 ?_;refine bP (λ x1=>?_);refine J1 ?_;refine kU ?_;refine aR (cV (hc:=λ w1 hw=>ou (h.Db hw) hl hc hp)) (λ x7=>?_);refine Ka8 ?_;refine J2 ?_;refine M2 ?_
 refine aN Tryz.results52 (λ w hw=>?_)
 exact⟨rfl,hw.done⟩
theorem Ft(h:hY w L cs pn pc)(hl:L.length<=274877906944)(hc:cs.length<=274877906944)(hcn:L.length<=cn):Calls Tryz.prog 52 #[rF L cs gen pn cn pc cc] w λ e w'=>∃r:Bool,e=.returned (.bool r)/\(r=true↔dH L cs gen)/\St w [] [] w':=by
 by_cases hp:dH L cs gen
 ·exact(By h hl hc hcn hp).mono λ _ _ h=>⟨true,h.1,⟨λ _=>hp,λ _=>rfl⟩,h.2⟩
 ·exact(Mo h hl hc hp).mono λ _ _ h=>⟨false,h.1,⟨(λ h=>nomatch h),λ h=>absurd h hp⟩,h.2⟩
theorem N7(hp:dH L cs gen)(hr:vV L)(hl:L.length<=274877906944):uf L cs:=by
 have hd:∀x:Int,C9 x L.length->x<=9223372036854775807:=λ x h=>by have:=h.2;omega
 refine⟨λ c=>?_,λ r=>?_,λ r=>?_,λ r=>?_,λ r=>?_,λ r=>?_,λ r=>?_⟩
 ·unfold bW
  split
  ·exact hd _ (hp.cells _ (by omega))
  ·decide
 ·unfold aA
  split
  ·exact hd _ (hp.nodes (r-1).toNat (by omega)).2.2.2.1
  ·decide
 ·unfold aA
  split
  ·exact hd _ (hp.nodes (r-1).toNat (by omega)).2.2.2.2.2
  ·decide
 ·unfold aA
  split
  ·exact(hr _ (eN (by omega))).main
  ·decide
 ·unfold aA
  split
  ·exact(hr _ (eN (by omega))).prev
  ·decide
 ·unfold aA
  split
  ·exact(hr _ (eN (by omega))).status
  ·decide
 ·unfold aA
  split
  ·intro b hb
   obtain⟨i,hi,rfl⟩:=List.mem_iff_getElem.1 hb
   have:=(hp.nodes (r-1).toNat (by omega)).2.2.1 i hi
   rw[fQ,List.getElem?_eq_getElem hi] at this
   exact hd _ this
  ·intro b hb
   cases hb
open Classical in
noncomputable def vD (L:List aK) (cs:List Int) (gen:Int) (c:Int):Option (List Int):=if dH L cs gen then(fA (L.map aK.c) cs c).bind λ r=>Ad (L.map aK.c) cs 12 r [] else none
theorem pN(hp:dH L cs gen){c:Int}:vD L cs gen c=(fA (L.map aK.c) cs c).bind λ r=>Ad (L.map aK.c) cs 12 r []:=if_pos hp
theorem Gc{o:Option (List Int)}{b:Bool}{q:VQ}{P:Prop}(h:ik o b q/\P)(ho:o=none)(hb:b=true):False:=by
 have h1:=h.1
 rw[ho,hb] at h1
 exact nomatch (show true=false from h1)
theorem kr(h:hY w L cs pn pc)(hr:vV L)(hl:L.length<=274877906944)(hc:cs.length<=274877906944)(hcn:L.length<=cn)(c:Int)(ro:Bool)(hi:c<=9223372036854775807)(hn:vD L cs gen c=none):Calls Tryz.prog 51 #[rF L cs gen pn cn pc cc,.agg ⟨[.int .i64 c,.bool ro]⟩] w λ e w'=>e=.returned (.tuple #[.pointer none,.bool false])/\St w [] [] w':=by
 refine enter Tryz.func51 Tryz.ntmps51 rfl rfl (h.start.lI 62 1) ?_
 simp only[cR]
 simp only[rF]
 refine J0 ?_;refine bP (λ x2=>?_);refine bP (λ x3=>?_);refine J8 ?_;refine aS ?_;refine kU ?_;refine aC (c0 (V:=.bool) (hc:=λ w1 hw=>Ft (h.Db hw) hl hc hcn)) (λ x10 h10=>?_);refine lX ?_
 refine aZ (λ c11=>?_) (λ c11=>?_)
 ·refine Es ?_
  refine bJ Tryz.results51 (λ w hw=>?_)
  first
  | exact⟨rfl,hw.done⟩
 ·have hp:dH L cs gen:=h10.1 (by simpa using c11)
  have hb:=N7 hp hr hl
  rw[pN hp] at hn
  refine bA ?_;refine kU ?_;refine bK ?_;refine aR (cV (hc:=λ w1 hw=>Ic (h.Db hw) hb hl hc c ro hi)) (λ x15=>?_);refine Kb6 ?_;refine lX ?_
  refine aZ (λ c19=>?_) (λ c19=>?_)
  ·refine Es ?_
   refine bJ Tryz.results51 (λ w hw=>?_)
   first
   | exact⟨rfl,hw.done⟩
  ·obtain⟨r,hrt⟩:=Option.isSome_iff_exists.1 (show(fA (L.map aK.c) cs c).isSome=true by simpa using c19)
   obtain⟨k,rfl,hk⟩:=P0 hrt
   rw[hrt,Option.bind_some] at hn
   rw[hrt,Option.getD_some]
   refine jD ?_;refine eD [(0,[]),(1,[]),(2,[]),(3,[]),(4,[0]),(5,[]),(6,[]),(7,[])] ?_;refine bN ?_;refine lR ?_;refine oI ?_;refine Ar (h:=λ x24=>?_);refine qV ?_;refine X7 (h:=λ x26=>?_);refine J7 ?_;refine Gi ?_;refine aC (cM (hs:=[(x26,j5 L cs gen pn cn pc cc x24 ⟨[],List.replicate L.length false,none,0⟩ none [] 0)]) (os:=lr L x24 ⟨[],List.replicate L.length false,none,0⟩) (hc:=λ w1 hs=>Hn h.fit hb hl hc x26 x24 none [] 0 12 0 rfl k ⟨[],List.replicate L.length false,none,0⟩ _ w1 hk (Uh.zero _) hs)) (λ x29 h29=>?_);refine lX ?_
   refine aZ (λ c30=>?_) (λ c30=>?_)
   ·refine Es ?_
    refine bJ Tryz.results51 (λ w hw=>?_)
    first
    | exact⟨rfl,hw.done⟩
    | exact(Gc h29 hn (by simpa using c30)).elim
   ·refine bA ?_;refine J2 ?_;refine J8 ?_
    refine bJ Tryz.results51 (λ w hw=>?_)
    first
    | exact⟨rfl,hw.done⟩
    | exact(Gc h29 hn (by simpa using c30)).elim
theorem Kg(h:hY w L cs pn pc)(hr:vV L)(hl:L.length<=274877906944)(hc:cs.length<=274877906944)(hcn:L.length<=cn)(c:Int)(ro:Bool)(hi:c<=9223372036854775807){l:List Int}(hn:vD L cs gen c=some l):Calls Tryz.prog 51 #[rF L cs gen pn cn pc cc,.agg ⟨[.int .i64 c,.bool ro]⟩] w λ e w'=>∃x:Nat×Nat×VQ,e=.returned (.tuple #[.pointer (some ⟨x.1,0,none⟩),.bool true])/\(x.2.2.l=l/\l.length<=L.length)/\SF w [] [(x.1,j5 L cs gen pn cn pc cc x.2.1 x.2.2 none [] 0)] [] [] (lr L x.2.1 x.2.2) w':=by
 have hp:dH L cs gen:=by
  unfold vD at hn
  split at hn
  ·assumption
  ·cases hn
 have hb:=N7 hp hr hl
 rw[pN hp] at hn
 obtain⟨r,hrt,hn⟩:=Option.bind_eq_some_iff.1 hn
 obtain⟨k,rfl,hk⟩:=P0 hrt
 refine enter Tryz.func51 Tryz.ntmps51 rfl rfl (h.start.lI 62 1) ?_
 simp only[cR]
 simp only[rF]
 refine J0 ?_;refine bP (λ x2=>?_);refine bP (λ x3=>?_);refine J8 ?_;refine aS ?_;refine kU ?_;refine aR (cV (hc:=λ w1 hw=>By (h.Db hw) hl hc hcn hp)) (λ x10=>?_);refine lX ?_
 refine aZ (λ c11=>?_) (λ c11=>?_)
 ·exact nv c11
 ·refine bA ?_;refine kU ?_;refine bK ?_;refine aR (cV (hc:=λ w1 hw=>by have:=Ic (gen:=gen) (cn:=cn) (cc:=cc) (h.Db hw) hb hl hc c ro hi;rw[hrt] at this;exact this)) (λ x15=>?_);refine Kb6 ?_;refine lX ?_
  refine aZ (λ c19=>?_) (λ c19=>?_)
  ·simp at c19
  ·refine jD ?_;refine eD [(0,[]),(1,[]),(2,[]),(3,[]),(4,[0]),(5,[]),(6,[]),(7,[])] ?_;refine bN ?_;refine lR ?_;refine oI ?_;refine Ar (h:=λ x24=>?_);refine qV ?_;refine X7 (h:=λ x26=>?_);refine J7 ?_;refine Gi ?_;refine aC (cM (hs:=[(x26,j5 L cs gen pn cn pc cc x24 ⟨[],List.replicate L.length false,none,0⟩ none [] 0)]) (os:=lr L x24 ⟨[],List.replicate L.length false,none,0⟩) (hc:=λ w1 hs=>Hn h.fit hb hl hc x26 x24 none [] 0 12 0 rfl k ⟨[],List.replicate L.length false,none,0⟩ _ w1 hk (Uh.zero _) hs)) (λ x29 h29=>?_);refine lX ?_
   refine aZ (λ c30=>?_) (λ c30=>?_)
   ·exfalso
    have h1:=h29.1
    rw[hn] at h1
    have h2:=h1.1
    simp_all
   ·refine bA ?_;refine J2 ?_;refine J8 ?_
    refine bJ Tryz.results51 (λ w hw=>?_)
    have h1:=h29.1
    rw[hn] at h1
    exact⟨(x26,x24,x29.2),rfl,⟨h1.2,by rw[<- h1.2];exact h29.2.len⟩,hw.ret (List.Sublist.cons_cons _ (List.nil_sublist _)) (aX.pD λ f hf=>(List.not_mem_nil hf).elim) (List.Sublist.refl _)⟩
end
end

/- Views of the Shape seat: Inner and Root (as in Vw6, Vw8, without Contents, which its program lacks). -/
section
open Go Go.RowKit Go.Ct
section
variable{L:List aK}{cs:List Int}{gen:Int}{pn pc:Option Addr}{cn cc:Nat}{w:World}
theorem wB(h:hY w L cs pn pc)(hr:vV L)(hl:L.length<=274877906944)(hc:cs.length<=274877906944)(hcn:L.length<=cn)(c:Int)(ro:Bool)(hi:c<=9223372036854775807){l:List Int}(hn:vD L cs gen c=some l):Calls Tryz.prog 34 #[rF L cs gen pn cn pc cc,.agg ⟨[.int .i64 c,.bool ro]⟩] w λ e w'=>∃x:Option Addr×Nat,e=.returned (.tuple #[.slice x.1 l.length x.2,.int .i64 0])/\l.length<=L.length/\SF w [] [] [] [(x.1,aG l)] [] w':=by
 refine enter Tryz.func34 Tryz.ntmps34 rfl rfl h.start ?_
 simp only[cR]
 simp only[rF]
 refine J0 ?_;refine bP (λ x2=>?_);refine bP (λ x3=>?_);refine J8 ?_;refine kU ?_;refine bK ?_;refine aC (cj (Fc:=λ _=>[]) (hc:=λ w1 hw=>Kg (h.Db hw) hr hl hc hcn c ro hi hn)) (λ x11 h11=>?_);refine Kb6 ?_;refine lX ?_
 refine aZ (λ c15=>?_) (λ c15=>?_)
 ·exact nv c15
 ·refine sw ?_;refine J8 ?_
  refine bJ Tryz.results34 (λ w hw=>?_)
  obtain⟨e1,e2⟩:=h11
  rw[e1] at hw ⊢
  exact⟨(x11.2.2.p,x11.2.2.c),rfl,e2,(hw.freeze (.tail .head)).fin⟩
open Classical in
noncomputable def Kh (L:List aK) (cs:List Int) (gen:Int) (o:Option Int):Option Int:=if dH L cs gen then o else none
theorem F6(h:hY w L cs pn pc)(hr:vV L)(hl:L.length<=274877906944)(hc:cs.length<=274877906944)(hcn:L.length<=cn)(c:Int)(ro:Bool)(hi:c<=9223372036854775807):Calls Tryz.prog 35 #[rF L cs gen pn cn pc cc,.agg ⟨[.int .i64 c,.bool ro]⟩] w λ e w'=>e=.returned (.tuple #[.int .i64 ((Kh L cs gen (fA (L.map aK.c) cs c)).getD 0),.bool (Kh L cs gen (fA (L.map aK.c) cs c)).isSome])/\St w [] [] w':=by
 refine enter Tryz.func35 Tryz.ntmps35 rfl rfl h.start ?_
 simp only[cR]
 simp only[rF]
 refine J0 ?_;refine bP (λ x2=>?_);refine bP (λ x3=>?_);refine J8 ?_;refine aS ?_;refine kU ?_;refine aC (c0 (V:=.bool) (hc:=λ w1 hw=>Ft (h.Db hw) hl hc hcn)) (λ x7 h7=>?_);refine lX ?_
 refine aZ (λ c8=>?_) (λ c8=>?_)
 ·have hn:¬dH L cs gen:=λ hp=>by rw[h7.2 hp] at c8;cases c8
  refine Es ?_
  refine bJ Tryz.results35 (λ w hw=>?_)
  unfold Kh
  rw[if_neg hn]
  exact⟨rfl,hw.done⟩
 ·have hp:dH L cs gen:=h7.1 (by simpa using c8)
  refine bA ?_;refine kU ?_;refine bK ?_;refine aR (cV (hc:=λ w1 hw=>Ic (h.Db hw) (N7 hp hr hl) hl hc c ro hi)) (λ x11=>?_);refine J54 ?_;refine J8 ?_
  refine bJ Tryz.results35 (λ w hw=>?_)
  unfold Kh
  rw[if_pos hp]
  exact⟨rfl,hw.done⟩
end
end

/- The program's shape, part 7: Check of a trie. -/
section
open Go Go.RowKit Go.Ct
section
variable{L:List aK}{cs:List Int}{gen:Int}{m:Nat}{pn pc:Option Addr}{cn cc:Nat}{w:World}
theorem Qb(h:hY w L cs pn pc)(hT:Go.Ct.Cl w (some ⟨0,0,none⟩) (mR gY)):SF w [] [] (uK L cs pn pc) [] [] w:=SF.begin λ f hf=>by
 rcases List.mem_cons.1 hf with rfl|hf
 ·exact h.nds
 rcases List.mem_cons.1 hf with rfl|hf
 ·exact h.cls
 rcases List.mem_cons.1 hf with rfl|hf
 ·exact hT
 ·exact h.fam f hf
set_option maxRecDepth 100000 in
set_option maxHeartbeats 1000000 in
theorem Pt(h:hY w L cs pn pc)(hT:Go.Ct.Cl w (some ⟨0,0,none⟩) (mR gY))(ok:A6 L)(hM:xY L cs)(hp:dH L cs gen)(hr:vV L)(hc:cs.length<=274877906944)(hcn:L.length<=cn)(hm:m<18446744073709551616)(c:Int)(ro:Bool)(hi:c<=9223372036854775807){l:List Int}(hn:vD L cs gen c=some l){r:Int}(hro:fA (L.map aK.c) cs c=some r)(ht:Ss (L.map aK.c) cs 12 r) :
  Calls Tryz.prog 11 #[rF L cs gen pn cn pc cc,.agg ⟨[.int .i64 c,.bool ro]⟩,.int .u64 ((m:Nat):Int)] w λ e w'=>∃q:Bool,e=.returned (.int .i64 (if q=true then 0 else 8))/\(q=true↔Ul (L.map aK.c) cs m 12 r [] 0)/\SF w [] [] [] [] [] w':=by
 have hl:=ok.len
 obtain⟨R,hR,_⟩:∃R,eA (L.map aK.c) cs r=some R/\True:=by obtain⟨R,h1,_⟩:=ht;exact⟨R,h1,trivial⟩
 obtain⟨k,hk,hkl⟩:∃k:Nat,r=((k+1:Nat):Int)/\k<L.length:=by
  have h2:(cD (L.map aK.c) r).kind=2:=by
   unfold eA at hR
   split at hR
   ·rename_i h1;exact h1.1
   ·cases hR
  have:=cY (N:=L.map aK.c) (i:=r) (by omega)
  rw[List.length_map] at this
  exact⟨(r-1).toNat,by omega,by omega⟩
 obtain⟨r2,hr2,hr2l,hmo,_⟩:=hM _ _ hR
 have wf:xx L cs gen m pn cn pc cc 12:=Xl ok hM hm hc 12
 subst hk hr2
 refine enter Tryz.func11 Tryz.ntmps11 rfl rfl (Qb h hT) ?_
 simp only[cR]
 simp only[rF]
 refine J0 ?_;refine bP (λ x3=>?_);refine bP (λ x4=>?_);refine gK ?_;refine kU ?_;refine bK ?_;refine aC (cF (Fc:=λ x:Option Addr×Nat=>[(x.1,aG l)]) (hc:=λ w1 hw=>wB (hw.vS (.inr (.inl (.head _))) (.inr (.inl (.tail _ (.head _)))) (λ f hf=>.inr (.inl (.tail _ (.tail _ (.tail _ hf))))) h.fit) hr hl hc hcn c ro hi hn)) (λ x16 h16=>?_);refine Ka8 ?_;refine J2 ?_;refine Kb7 ?_
 refine aZ (λ c20=>?_) (λ c20=>?_)
 ·exact nv c20
 ·try (first|contradiction|(exfalso;omega))
  refine bA ?_;refine kU ?_;refine bK ?_;refine aR (cV (v:=.tuple #[.int .i64 ((k+1:Nat):Int),.bool true]) (hc:=λ w1 hw=>by have h9:=F6 (gen:=gen) (cc:=cc) (hw.vS (.inr (.inl (.head _))) (.inr (.inl (.tail _ (.head _)))) (λ f hf=>.inr (.inl (.tail _ (.tail _ (.tail _ hf))))) h.fit) hr hl hc hcn c ro hi;rw[show Kh L cs gen (fA (L.map aK.c) cs c)=some ((k+1:Nat):Int) by unfold Kh;rw[if_pos hp,hro]] at h9;exact h9)) (λ x24=>?_);refine Kb6 ?_;refine lX ?_
  refine aZ (λ c28=>?_) (λ c28=>?_)
  ·exact nv c28
  ·try (first|contradiction|(exfalso;omega))
   refine bA ?_;refine Az ?_;refine bD ?_;refine bP (λ x32=>?_);refine tZ ?_;refine aC (cM (V:=λ _:Unit=>(aA L ((k+1:Nat):Int)).nd.v) (hs:=[(x32,jN L cs gen m pn cn pc cc)]) (os:=[]) (hs':=λ _=>[(x32,jN L cs gen m pn cn pc cc)]) (os':=λ _=>[]) (Fc:=λ _=>[]) (A0:=uK L cs pn pc) (hA:=bT.of λ f hf=>.inr (.inl hf)) (hc:=λ w1 hw=>jK hw hkl hl)) (λ x35 h35=>?_);refine aP (λ x12=>?_);refine J5 ?_;refine aS ?_;refine aS ?_;refine eD [(0,[]),(1,[]),(2,[]),(3,[]),(4,[1]),(5,[]),(6,[]),(7,[])] ?_;refine Kb5 ?_;refine Kb5 ?_;refine bS (i:=4) (hq:=(cM (V:=λ _:Unit=>(aA L ((r2+1:Nat):Int)).nd.v) (hs:=[(x32,jN L cs gen m pn cn pc cc)]) (os:=[]) (hs':=λ _=>[(x32,jN L cs gen m pn cn pc cc)]) (os':=λ _=>[]) (Fc:=λ _=>[]) (A0:=uK L cs pn pc) (hA:=bT.of λ f hf=>.inr (.inl hf)) (hc:=λ w1 hw=>xB hw hmo hr2l hl hc))) (h:=λ x40 h40=>?_);refine cJ (i:=5) (hq:=(xX (vs:=[(2,.agg ⟨(aA L ((k+1:Nat):Int)).nd.cells⟩),(3,(aA L ((r2+1:Nat):Int)).nd.v)]) (cs:=He 0 [] (aA L ((k+1:Nat):Int)).nd (aA L ((r2+1:Nat):Int)).nd Nd.zero) (gQ rfl) (by exact rfl) (by kernel_rfl) (by kernel_rfl))) (h:=?_);refine bS (i:=6) (hq:=(cM (V:=.bool) (hs:=[(x32,jN L cs gen m pn cn pc cc)]) (os:=[]) (hs':=λ _=>[(x32,jN L cs gen m pn cn pc cc)]) (os':=λ _=>[]) (Fc:=λ _=>[]) (A0:=uK L cs pn pc) (hA:=bT.of λ f hf=>.inr (.inl hf)) (hc:=λ w1 hw=>wf (u:=[]) (c:=Nd.zero) hw hR ht (by decide)))) (h:=λ x42 h42=>?_);refine Ro ?_;refine dV ?_
   refine aZ (λ c43=>?_) (λ c43=>?_)
   ·try (first|contradiction|(exfalso;omega))
    refine cN ?_
    refine aN Tryz.results11 (λ w hw=>?_)
    refine⟨false,rfl,⟨λ h=>(nomatch h),λ hp=>?_⟩,hw.aU⟩
    have h12:=h42.2 hp
    exfalso
    rw[h12] at c43
    first
    | exact absurd c43 (by decide)
    | (simp at c43;done)
   ·try (first|contradiction|(exfalso;omega))
    refine bA ?_;refine cN ?_
    refine aN Tryz.results11 (λ w hw=>?_)
    refine⟨true,rfl,⟨λ _=>h42.1 (by(simpa using c43;done)),λ _=>rfl⟩,hw.aU⟩
end
end

end Go.Proofs.YtadnboagdhcedaaGreatDoor

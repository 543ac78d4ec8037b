/- Views: which nodes have been visited; lists of nodes. -/
import Derived.Test.YtadnboagdhcedaaGreatDoorGSh6
import Derived.Test.YtadnboagdhcedaaGreatDoorGSh9

set_option linter.unusedSimpArgs false
set_option linter.unusedVariables false
namespace Go.Ct
section
open Go Go.RowKit
def Vp(n:Nat)(vs:List Bool)(l:List Int):Prop:=vs.length=n/\(∀k,k<n->(vs.getD k false=true↔((k+1:Nat):Int)∈l))/\l.length+vs.count false=n
theorem Vp.zero(n:Nat):Vp n (List.replicate n false) []:=⟨by simp,λ k hk=>by simp[fI,hk],by simp⟩
theorem count_set:∀(vs:List Bool) (k:Nat),k<vs.length->vs.getD k false=false->(vs.set k true).count false+1=vs.count false
 | [],_,h,_=>by simp at h
 | b::vs,0,_,h=>by
  have e:b=false:=by simpa using h
  subst e
  simp
 | b::vs,k+1,h,h2=>by
  have:=count_set vs k (by simpa using h) (by simpa using h2)
  rw[List.set_cons_succ,List.count_cons,List.count_cons]
  omega
theorem Vp.set{n k:Nat}{vs:List Bool}{l:List Int}(h:Vp n vs l)(hk:k<n)(hf:vs.getD k false=false):Vp n (vs.set k true) (l++[((k+1:Nat):Int)]):=by
 have h1:=h.1
 refine⟨by simp[h.1],λ j hj=>?_,?_⟩
 ·have h2:=h.2.1 j hj
  rw[fI] at h2
  rw[fI,List.getElem?_set]
  by_cases e:k=j
  ·subst e
   simp[show k<vs.length by omega]
  ·rw[if_neg e,h2]
   simp only[List.mem_append,List.mem_singleton]
   constructor
   ·exact .inl
   ·rintro (h3|h3)
    ·exact h3
    ·omega
 ·have:=count_set vs k (by omega) hf
  have:=h.2.2
  simp only[List.length_append,List.length_cons,List.length_nil]
  omega
theorem Vp.len{n:Nat}{vs:List Bool}{l:List Int}(h:Vp n vs l):l.length<=n:=by have:=h.2.2;omega
theorem Vi{N:List Nv}{r:Int}(h:bU (cB N r)):1<=r/\r<=N.length:=dD (by unfold bU at h;omega)
theorem kv{L:List aL}{r:Int}(h:1<=r/\r<=L.length):((aA L r).nd.brA,aG (aA L r).xs)∈aW L:=by
 unfold aA
 rw[if_pos h]
 exact Iu (by omega)
theorem Dc(L:List aL)(r:Int):(cB (L.map aL.c) r).xs=(aA L r).xs:=by rw[cI];rfl
theorem Sc{L:List aL}{cs:List Int}{c r:Int}(h:gD (L.map aL.c) cs c=some r):∃k:Nat,r=((k+1:Nat):Int)/\k<L.length:=by
 unfold gD at h
 split at h
 ·rename_i hk
  cases h
  have:=dD (N:=L.map aL.c) (i:=pI (L.map aL.c) cs c) (by omega)
  rw[List.length_map] at this
  exact⟨(pI (L.map aL.c) cs c-1).toNat,by omega,by omega⟩
 ·cases h
end

/- Views: the I-nodes of a trie are visited. -/
section
open Go Go.RowKit
structure VQ where
 l:List Int
 vs:List Bool
 p:Option Addr
 c:Nat
def gi(o:Option (List Int))(b:Bool)(q:VQ):Prop:=match o with|some l=>b=true/\q.l=l|none=>b=false
theorem R3{N:List Nv}{f:Int->List Int->Option (List Int)}{xs l l2:List Int}{k:Nat}(hk:k<xs.length)(h:jJ N f (xs.take k) l=some l2):jJ N f xs l=jJ N f (xs.getD k 0::xs.drop (k+1)) l2:=by
 have e:xs=xs.take k++(xs.getD k 0::xs.drop (k+1)):=by
  rw[fI,List.getElem?_eq_getElem hk,Option.getD_some,<- List.drop_eq_getElem_cons hk,List.take_append_drop]
 rw[e,tL,<- e,h]
 rfl
theorem uW{N:List Nv}{f:Int->List Int->Option (List Int)}{xs l l2 l3:List Int}{k:Nat}(hk:k<xs.length)(h:jJ N f (xs.take k) l=some l2)(h2:jJ N f [xs.getD k 0] l2=some l3):jJ N f (xs.take (k+1)) l=some l3:=by
 rw[List.take_add_one,List.getElem?_eq_getElem hk,tL,h]
 rw[fI,List.getElem?_eq_getElem hk] at h2
 exact h2
theorem cq{N:List Nv}{f:Int->List Int->Option (List Int)}{b:Int}{l:List Int}(h:(cB N b).kind=4):jJ N f [b] l=some l:=by simp[jJ,h]
theorem Zt{N:List Nv}{f:Int->List Int->Option (List Int)}{b:Int}{l l2:List Int}(h:(cB N b).kind=2)(hf:f b l=some l2):jJ N f [b] l=some l2:=by simp[jJ,h,hf]
theorem df{N:List Nv}{f:Int->List Int->Option (List Int)}{b:Int}{r l:List Int}(h:(cB N b).kind≠4)(h2:(cB N b).kind≠2):jJ N f (b::r) l=none:=by simp[jJ,h,h2]
theorem uo{N:List Nv}{f:Int->List Int->Option (List Int)}{b:Int}{r l:List Int}(h:(cB N b).kind=2)(hf:f b l=none):jJ N f (b::r) l=none:=by simp[jJ,h,hf]
theorem Zq{N:List Nv}{cs:List Int}{i:Int}{l:List Int}(h:i∈l):∀{n:Nat},Bd N cs n i l=none
 | 0=>rfl
 | n+1=>by unfold Bd;rw[if_pos h]
theorem Ws{N:List Nv}{cs:List Int}{i:Int}{l:List Int}{n:Nat}(h:¬i∈l)(h2:(eK N cs i).isSome=false):Bd N cs (n+1) i l=none:=by
 unfold Bd
 rw[if_neg h]
 cases hb:eK N cs i with
 | none=>rfl
 | some m=>rw[hb] at h2;cases h2
theorem Ek{N:List Nv}{cs:List Int}{i m:Int}{l:List Int}{n:Nat}(h:¬i∈l)(h2:eK N cs i=some m):Bd N cs (n+1) i l=jJ N (Bd N cs n) (cB N m).xs (l++[i]):=by
 unfold Bd
 rw[if_neg h,h2]
 rfl
end
end Go.Ct
namespace Go.Proofs.YtadnboagdhcedaaGreatDoor
section
open Go Go.RowKit Go.Ct
section
variable{L:List aL}{cs:List Int}{gen:Int}{pn pc:Option Addr}{cn cc:Nat}{w:World}
theorem Ie(h:iQ w L cs pn pc)(hb:xh L cs)(hl:L.length<=274877906944)(hc:cs.length<=274877906944)(c:Int)(ro:Bool)(hi:c<=9223372036854775807):Calls Tryz.prog 53 #[sI L cs gen pn cn pc cc,.agg ⟨[.int .i64 c,.bool ro]⟩] w λ e w'=>e=.returned (.tuple #[.int .i64 ((gD (L.map aL.c) cs c).getD 0),.bool (gD (L.map aL.c) cs c).isSome])/\St w [] [] w':=by
 refine enter Tryz.func53 Tryz.ntmps53 rfl rfl h.start ?_
 simp only[cO]
 simp only[sI]
 refine J0 ?_;refine bQ (λ x2=>?_);refine bQ (λ x3=>?_);refine J8 ?_;refine kV ?_;refine J3 ?_;refine aT (cV (hc:=λ w1 hw=>Cv (h.Eg hw) c hi hc)) (λ x11=>?_);refine gQ ?_;refine B6 ?_;refine aT (cV (hc:=λ w1 hw=>sD (h.Eg hw) (bV cs c) (hb.cs _) hl)) (λ x14=>?_);refine aN (λ x7=>?_);refine J5 ?_;refine gU ?_;refine sX ?_
 refine aZ (λ c17=>?_) (λ c17=>?_)
 ·refine gU ?_;refine J1 ?_;refine kV ?_;refine J3 ?_;refine aT (cV (hc:=λ w1 hw=>Cv (h.Eg hw) (aA L (bV cs c)).nd.status (hb.status _) hc)) (λ x23=>?_);refine sX ?_
  refine aZ (λ c24=>?_) (λ c24=>?_)
  ·refine dL ?_;refine J3 ?_;refine gQ ?_;refine B6 ?_;refine aT (cV (hc:=λ w1 hw=>sD (h.Eg hw) _ (by exact hb.new _) hl)) (λ x29=>?_);refine cH ?_;refine Kc0 ?_
   refine aZ (λ c31=>?_) (λ c31=>?_)
   ·refine Gc ?_
    refine bK Tryz.results53 (λ w hw=>?_)
    refine⟨?_,hw.done⟩
    unfold gD pI
    simp only[cI,bU,aL.c,Nd.c]
    simp_all
    rfl
   ·refine bA ?_;refine J2 ?_;refine J8 ?_
    refine bK Tryz.results53 (λ w hw=>?_)
    refine⟨?_,hw.done⟩
    unfold gD pI
    simp only[cI,bU,aL.c,Nd.c]
    simp_all
    rfl
  ·refine jM ?_;refine B6 ?_;refine aT (cV (hc:=λ w1 hw=>sD (h.Eg hw) _ (by exact hb.bM _) hl)) (λ x29=>?_);refine cH ?_;refine Kc0 ?_
   refine aZ (λ c31=>?_) (λ c31=>?_)
   ·refine Gc ?_
    refine bK Tryz.results53 (λ w hw=>?_)
    refine⟨?_,hw.done⟩
    unfold gD pI
    simp only[cI,bU,aL.c,Nd.c]
    simp_all
    rfl
   ·refine bA ?_;refine J2 ?_;refine J8 ?_
    refine bK Tryz.results53 (λ w hw=>?_)
    refine⟨?_,hw.done⟩
    unfold gD pI
    simp only[cI,bU,aL.c,Nd.c]
    simp_all
    rfl
 ·refine jM ?_;refine B6 ?_;refine aT (cV (hc:=λ w1 hw=>sD (h.Eg hw) _ (by exact hb.cs _) hl)) (λ x29=>?_);refine cH ?_;refine Kc0 ?_
  refine aZ (λ c31=>?_) (λ c31=>?_)
  ·refine Gc ?_
   refine bK Tryz.results53 (λ w hw=>?_)
   refine⟨?_,hw.done⟩
   unfold gD pI
   simp only[cI,bU,aL.c,Nd.c]
   simp_all
   rfl
  ·refine bA ?_;refine J2 ?_;refine J8 ?_
   refine bK Tryz.results53 (λ w hw=>?_)
   refine⟨?_,hw.done⟩
   unfold gD pI
   simp only[cI,bU,aL.c,Nd.c]
   simp_all
   rfl
abbrev m8(L:List aL)(cs:List Int)(gen:Int)(pn:Option Addr)(cn:Nat)(pc:Option Addr)(cc:Nat)(pv:Nat)(q:VQ)(pp:Option Addr)(ps:List Pr)(cp:Nat):Obj:=.cells ⟨[.slice pn L.length cn,.slice pc cs.length cc,.int .i64 gen,.slice (some ⟨pv,0,none⟩) L.length L.length,.slice q.p q.l.length q.c,.slice pp ps.length cp]⟩ 122 (0,0)
abbrev oy(L:List aL)(pv:Nat)(q:VQ):List Ow:=[⟨some ⟨pv,0,none⟩,iI q.vs,L.length,4,1⟩,⟨q.p,aG q.l,q.c,62,1⟩]
theorem vi{w0:World}{D:List Nat}{b pv:Nat}{q:VQ}{pp:Option Addr}{ps:List Pr}{cp:Nat}{A F:Fr}(h:SF w0 D [(b,m8 L cs gen pn cn pc cc pv q pp ps cp)] A F (oy L pv q) w) :
  SF w0 D [(b,.cells ⟨[.slice pn L.length cn,.slice pc cs.length cc,.int .i64 gen,.slice (some ⟨pv,0,none⟩) L.length L.length,.slice q.p q.l.length q.c,.slice pp ps.length cp]⟩ 122 (0,0))] A F [⟨some ⟨pv,0,none⟩,iI q.vs,L.length,4,1⟩,⟨q.p,aG q.l,q.c,62,1⟩] w:=h
def te(L:List aL)(cs:List Int)(gen:Int)(pn:Option Addr)(cn:Nat)(pc:Option Addr)(cc:Nat)(b pv:Nat)(pp:Option Addr)(ps:List Pr)(cp:Nat)(n:Nat):Prop:=∀(lvl:Nat),lvl+n=12->∀(k:Nat) (q:VQ) (D:List Nat) (w:World),k<L.length->Vp L.length q.vs q.l->SF w D [(b,m8 L cs gen pn cn pc cc pv q pp ps cp)] ((pn,gR L)::(pc,aG cs)::aW L) [] (oy L pv q) w ->
  Calls Tryz.prog 67 #[.pointer (some ⟨b,0,none⟩),.int .i64 ((k+1:Nat):Int),.int .i64 ((lvl:Nat):Int)] w λ e w'=>∃x:Bool×VQ,e=.returned (.bool x.1)/\(gi (Bd (L.map aL.c) cs n ((k+1:Nat):Int) q.l) x.1 x.2/\Vp L.length x.2.vs x.2.l)/\SF w D [(b,m8 L cs gen pn cn pc cc pv x.2 pp ps cp)] [] [] (oy L pv x.2) w'
theorem Mt(h0:Fits L)(hb:xh L cs)(hl:L.length<=274877906944)(hc:cs.length<=274877906944)(b pv:Nat)(pp:Option Addr)(ps:List Pr)(cp:Nat)(n:Nat)(ih:∀m,n=m+1->te L cs gen pn cn pc cc b pv pp ps cp m):te L cs gen pn cn pc cc b pv pp ps cp n:=by
  intro lvl hn k q D w hk hv hs
  have hvl:=hv.1
  have hvn:=hv.len
  refine enter Tryz.func67 Tryz.ntmps67 rfl rfl (vi hs) ?_
  simp only[cO]
  refine Ka7 ?_;refine wG ?_;refine aB ?_
  (refine eF 13 (λ g13=>?_) (λ g13=>?_)<;>refine Ka0 ?_)
  all_goals ((first|refine aH ?_|(refine aF ?_;refine dJ ?_));refine J6 ?_;refine J68 ?_;(first|refine aH ?_|(refine aF ?_;refine aE (uR (k:=k) rf rf fC gB fin (by omega) (by omega)) rfl ?_));(first|refine aH ?_|(refine aF ?_;refine aE (Jd (q:=k) rf gB fin (by omega)) rfl ?_));refine cK ?_;refine aI ?_)
  all_goals
   refine aZ (λ c22=>?_) (λ c22=>?_)
   · all_goals try (first|(exact abt)|(exfalso;omega))
     all_goals refine cQ ?_
     all_goals
      refine aQ Tryz.results67 (λ w hw=>?_)
      first
       | exact⟨(false,q),rfl,⟨by rw[Zq ((hv.2.1 k hk).1 (by assumption))];exact rfl,hv⟩,hw.aS⟩
       | exact⟨(false,q),rfl,⟨by rw[show n=0 by omega];exact rfl,hv⟩,hw.aS⟩
   · try exact nv c22
     all_goals
      obtain⟨m,rfl⟩:∃m,n=m+1:=⟨n-1,by omega⟩
      have hnot:¬(((k+1:Nat):Int)∈q.l):=λ hm=>by have:=(hv.2.1 k hk).2 hm;simp_all
      have hv2:=hv.set hk (by simp_all)
     all_goals (refine um ?_;refine aB ?_;refine pF ?_;refine aE (uR (k:=k) rf rf fC gB fin (by omega) (by omega)) rfl ?_;refine J5 ?_;refine iR ?_;refine dJ ?_;refine J3 ?_;refine aB ?_;refine fF (λ x36=>?_);(refine eL (λ x37=>?_);try (refine fB (λ h37=>?_)));refine Vr ?_;refine Fv ?_;refine aE (aK (k:=3) rf dV fX (by simp only[List.drop_zero,List.take_succ_cons,List.take_zero];exact rfl) rfl) rfl ?_;refine aB ?_;refine aT (cV (hc:=λ w1 hw=>di (hw.vY (.inr (.inl (.head _))) (.inr (.inl (.tail _ (.head _)))) (λ f hf=>.inr (.inl (.tail _ (.tail _ hf)))) h0) hb hl hc ((k+1:Nat):Int) (by omega))) (λ x46=>?_);refine Kb8 ?_;refine mJ ?_)
     all_goals
      refine aZ (λ c50=>?_) (λ c50=>?_)
      · try (first|(exact abt)|(exfalso;omega))
        refine cQ ?_
        refine aQ Tryz.results67 (λ w hw=>?_)
        rw[show q.l.length+1=(q.l++[((k+1:Nat):Int)]).length by simp] at hw
        exact⟨(false,⟨q.l++[((k+1:Nat):Int)],q.vs.set k true,x37.1,x37.2⟩),rfl,⟨by rw[Ws hnot (by simpa using c50)];exact rfl,hv2⟩,hw.aS⟩
      · try (first|(exact abt)|(exfalso;omega))
        obtain⟨r,hr⟩:=Option.isSome_iff_exists.1 (show(eK (L.map aL.c) cs ((k+1:Nat):Int)).isSome=true by simpa using c50)
        rw[hr,Option.getD_some]
        have hfr:=Up h0 r
        have hri:=Vi (Ua hr).2
        rw[List.length_map] at hri
        have hrr:r<=9223372036854775807:=by omega
        have hbn:=hfr.brN
        have hbs:=hfr.brS
        have hfm:=kv hri
        have hbr:=hb.br r
        refine jM ?_;refine Fv ?_;refine aE (aK (k:=3) rf dV fX (by simp only[List.drop_zero,List.take_succ_cons,List.take_zero];exact rfl) rfl) rfl ?_;refine aB ?_;refine aT (cV (hc:=λ w1 hw=>sD (hw.vY (.inr (.inl (.head _))) (.inr (.inl (.tail _ (.head _)))) (λ f hf=>.inr (.inl (.tail _ (.tail _ hf)))) h0) _ (by omega) hl)) (λ x56=>?_);refine cH ?_;refine Kb5 ?_
        refine kZ [6,10,59,60,61,62,63,64,65,66,67,68,69,70,71,72,73,74,75,76,77,78,79,80] (λ y:Nat×VQ=>[(59,.int .i64 ((y.1:Nat):Int))]) (λ y=>y.1<=(aA L r).xs.length/\jJ (L.map aL.c) (Bd (L.map aL.c) cs m) ((aA L r).xs.take y.1) (q.l++[((k+1:Nat):Int)])=some y.2.l/\Vp L.length y.2.vs y.2.l) (λ y=>[(b,m8 L cs gen pn cn pc cc pv y.2 pp ps cp)]) (λ _=>_) (λ y=>oy L pv y.2) (λ y=>(aA L r).xs.length-y.1) ((0,⟨q.l++[((k+1:Nat):Int)],q.vs.set k true,x37.1,x37.2⟩)) (⟨Nat.zero_le _,rfl,hv2⟩) (λ y f hx=>?_) (hw0:=λ w hw=>by rw[show q.l.length+1=(q.l++[((k+1:Nat):Int)]).length by simp] at hw;exact hw.back)
        dsimp only[fY,List.map,List.cons_append,List.nil_append]
        have hyn:=hx.2.2.len
        have hyl:=hx.2.2.1
        refine Kb3 ?_
        refine aZ (λ c60=>?_) (λ c60=>?_)
        · try (first|(exact abt)|(exfalso;omega))
          have hbk:(aA L r).xs.getD y.1 0<=9223372036854775807:=hbr _ (by rw[fI,List.getElem?_eq_getElem (by omega)];exact List.getElem_mem _)
          refine Kc5 ?_;refine aE (cA (k:=y.1) rf rf fC gB (.bM (.tail (.tail (vZ.lF hfm)))) (by omega) (by omega)) rfl ?_;refine aE (cW (q:=y.1) rf gB (.bM (.tail (.tail (vZ.lF hfm)))) (by omega)) rfl ?_;refine J1 ?_;refine Fv ?_;refine aE (aK (k:=3) rf dV fX (by simp only[List.drop_zero,List.take_succ_cons,List.take_zero];exact rfl) rfl) rfl ?_;refine aB ?_;refine aT (cV (hc:=λ w1 hw=>sD (hw.vY (.inr (.inl (.head _))) (.inr (.inl (.tail _ (.head _)))) (λ f hf=>.inr (.inl (.tail _ (.tail _ hf)))) h0) _ (by omega) hl)) (λ x68=>?_);refine cH ?_;refine Kc4 ?_;refine jE ?_
          refine aZ (λ c70=>?_) (λ c70=>?_)
          · try (first|(exact abt)|(exfalso;omega))
            refine lG ?_;refine eX ?_;refine Ka3 ?_
            refine fV ((by exact(y.1+1,y.2))) ?_
            · first
               | exact⟨by omega,uW (by omega) hx.2.1 (by rw[hj.1];exact Zt hkd hvq),h78.2⟩
               | exact⟨by omega,uW (by omega) hx.2.1 (cq (by rw[cI];exact c70)),hx.2.2⟩
          · try (first|(exact abt)|(exfalso;omega))
            refine jE ?_
            refine aZ (λ c72=>?_) (λ c72=>?_)
            · try (first|(exact abt)|(exfalso;omega))
              obtain⟨j,hj⟩:∃j:Nat,(aA L r).xs.getD y.1 0=((j+1:Nat):Int)/\j<L.length:=by
               have:=dD (N:=L.map aL.c) (i:=(aA L r).xs.getD y.1 0) (by rw[cI];show(aA L ((aA L r).xs.getD y.1 0)).nd.kind≠0;omega)
               rw[List.length_map] at this
               exact⟨((aA L r).xs.getD y.1 0-1).toNat,by omega,by omega⟩
              have hkd:(cB (L.map aL.c) ((aA L r).xs.getD y.1 0)).kind=2:=by rw[cI];exact c72
              rw[hj.1] at hkd ⊢
              refine Kd1 ?_;refine Ey ?_;refine aC (cM (hs:=[(b,m8 L cs gen pn cn pc cc pv y.2 pp ps cp)]) (os:=oy L pv y.2) (hc:=λ w1 hs=>ih m rfl (lvl+1) (by omega) j y.2 _ w1 hj.2 hx.2.2 hs)) (λ x78 h78=>?_);refine mJ ?_
              refine aZ (λ c79=>?_) (λ c79=>?_)
              · try (first|(exact abt)|(exfalso;omega))
                refine cQ ?_
                refine aQ Tryz.results67 (λ w hw=>?_)
                have hvq:Bd (L.map aL.c) cs m ((j+1:Nat):Int) y.2.l=none:=by
                 have h1:=h78.1
                 unfold gi at h1
                 split at h1
                 · exfalso;simp_all
                 · assumption
                exact⟨(false,x78.2),rfl,⟨by rw[Ek hnot hr,Dc,R3 (by omega) hx.2.1,hj.1,uo hkd hvq];exact rfl,h78.2⟩,hw.aS⟩
              · try (first|(exact abt)|(exfalso;omega))
                have hvq:Bd (L.map aL.c) cs m ((j+1:Nat):Int) y.2.l=some x78.2.l:=by
                 have h1:=h78.1
                 unfold gi at h1
                 split at h1
                 · rename_i l e
                   rw[e,h1.2]
                 · exfalso;simp_all
                refine lG ?_;refine eX ?_;refine Ka3 ?_
                refine fV ((by exact(y.1+1,x78.2))) ?_
                · first
                   | exact⟨by omega,uW (by omega) hx.2.1 (by rw[hj.1];exact Zt hkd hvq),h78.2⟩
                   | exact⟨by omega,uW (by omega) hx.2.1 (cq (by rw[cI];exact c70)),hx.2.2⟩
            · try (first|(exact abt)|(exfalso;omega))
              refine cQ ?_
              refine aQ Tryz.results67 (λ w hw=>?_)
              exact⟨(false,y.2),rfl,⟨by rw[Ek hnot hr,Dc,R3 (by omega) hx.2.1,df (by rw[cI];exact c70) (by rw[cI];exact c72)];exact rfl,hx.2.2⟩,hw.aS⟩
        · try (first|(exact abt)|(exfalso;omega))
          refine bF rfl ?_;refine cQ ?_
          refine aQ Tryz.results67 (λ w hw=>?_)
          refine⟨(true,y.2),rfl,⟨?_,hx.2.2⟩,hw.aS⟩
          have e2:=hx.2.1
          rw[List.take_of_length_le (by omega)] at e2
          rw[Ek hnot hr,Dc,e2]
          exact⟨rfl,rfl⟩
theorem Kj(h0:Fits L)(hb:xh L cs)(hl:L.length<=274877906944)(hc:cs.length<=274877906944)(b pv:Nat)(pp:Option Addr)(ps:List Pr)(cp:Nat):∀n,te L cs gen pn cn pc cc b pv pp ps cp n
 | 0=>Mt h0 hb hl hc b pv pp ps cp 0 λ m e=>nomatch e
 | n+1=>Mt h0 hb hl hc b pv pp ps cp (n+1) λ m e=>by cases e;exact Kj h0 hb hl hc b pv pp ps cp n
end
end

/- Views: Contents and Inner. -/
section
open Go Go.RowKit Go.Ct
section
variable{L:List aL}{cs:List Int}{gen:Int}{pn pc:Option Addr}{cn cc:Nat}{w:World}
theorem D6(h:iQ w L cs pn pc)(hl:L.length<=274877906944)(hc:cs.length<=274877906944)(hcn:L.length<=cn)(hp:dM L cs gen):Calls Tryz.prog 52 #[sI L cs gen pn cn pc cc] w λ e w'=>e=.returned (.bool true)/\St w [] [] w':=by
 refine enter Tryz.func52 Tryz.ntmps52 rfl rfl h.start ?_
 simp only[cO]
 simp only[sI]
 refine J0 ?_;refine bQ (λ x1=>?_);refine J1 ?_;refine kV ?_;refine aC (Z5 (hc:=λ w1 hw=>u7 (h.Eg hw) hl hc hcn hp)) (λ x7 h7=>?_);refine Ka8 ?_;refine J2 ?_;refine P5 ?_
 refine aQ Tryz.results52 (λ w hw=>?_)
 exact⟨rfl,hw.done⟩
theorem Pn(h:iQ w L cs pn pc)(hl:L.length<=274877906944)(hc:cs.length<=274877906944)(hp:¬dM L cs gen):Calls Tryz.prog 52 #[sI L cs gen pn cn pc cc] w λ e w'=>e=.returned (.bool false)/\St w [] [] w':=by
 refine enter Tryz.func52 Tryz.ntmps52 rfl rfl h.start ?_
 simp only[cO]
 simp only[sI]
 refine J0 ?_;refine bQ (λ x1=>?_);refine J1 ?_;refine kV ?_;refine aT (cV (hc:=λ w1 hw=>q0 (h.Eg hw) hl hc hp)) (λ x7=>?_);refine Ka8 ?_;refine J2 ?_;refine P5 ?_
 refine aQ Tryz.results52 (λ w hw=>?_)
 exact⟨rfl,hw.done⟩
theorem Ia(h:iQ w L cs pn pc)(hl:L.length<=274877906944)(hc:cs.length<=274877906944)(hcn:L.length<=cn):Calls Tryz.prog 52 #[sI L cs gen pn cn pc cc] w λ e w'=>∃r:Bool,e=.returned (.bool r)/\(r=true↔dM L cs gen)/\St w [] [] w':=by
 by_cases hp:dM L cs gen
 ·exact(D6 h hl hc hcn hp).mono λ _ _ h=>⟨true,h.1,⟨λ _=>hp,λ _=>rfl⟩,h.2⟩
 ·exact(Pn h hl hc hp).mono λ _ _ h=>⟨false,h.1,⟨(λ h=>nomatch h),λ h=>absurd h hp⟩,h.2⟩
theorem Ot(hp:dM L cs gen)(hr:vX L)(hl:L.length<=274877906944):xh L cs:=by
 have hd:∀x:Int,Da x L.length->x<=9223372036854775807:=λ x h=>by have:=h.2;omega
 refine⟨λ c=>?_,λ r=>?_,λ r=>?_,λ r=>?_,λ r=>?_,λ r=>?_,λ r=>?_⟩
 ·unfold bV
  split
  ·exact hd _ (hp.cells _ (by omega))
  ·decide
 ·unfold aA
  split
  ·exact hd _ (hp.nodes (r-1).toNat (by omega)).2.2.2.1
  ·decide
 ·unfold aA
  split
  ·exact hd _ (hp.nodes (r-1).toNat (by omega)).2.2.2.2.2
  ·decide
 ·unfold aA
  split
  ·exact(hr _ (eT (by omega))).main
  ·decide
 ·unfold aA
  split
  ·exact(hr _ (eT (by omega))).prev
  ·decide
 ·unfold aA
  split
  ·exact(hr _ (eT (by omega))).status
  ·decide
 ·unfold aA
  split
  ·intro b hb
   obtain⟨i,hi,rfl⟩:=List.mem_iff_getElem.1 hb
   have:=(hp.nodes (r-1).toNat (by omega)).2.2.1 i hi
   rw[fI,List.getElem?_eq_getElem hi] at this
   exact hd _ this
  ·intro b hb
   cases hb
open Classical in
noncomputable def wN (L:List aL) (cs:List Int) (gen:Int) (c:Int):Option (List Int):=if dM L cs gen then(gD (L.map aL.c) cs c).bind λ r=>Bd (L.map aL.c) cs 12 r [] else none
theorem qG(hp:dM L cs gen){c:Int}:wN L cs gen c=(gD (L.map aL.c) cs c).bind λ r=>Bd (L.map aL.c) cs 12 r []:=if_pos hp
theorem Gn{o:Option (List Int)}{b:Bool}{q:VQ}{P:Prop}(h:gi o b q/\P)(ho:o=none)(hb:b=true):False:=by
 have h1:=h.1
 rw[ho,hb] at h1
 exact nomatch (show true=false from h1)
theorem od(h:iQ w L cs pn pc)(hr:vX L)(hl:L.length<=274877906944)(hc:cs.length<=274877906944)(hcn:L.length<=cn)(c:Int)(ro:Bool)(hi:c<=9223372036854775807)(hn:wN L cs gen c=none):Calls Tryz.prog 51 #[sI L cs gen pn cn pc cc,.agg ⟨[.int .i64 c,.bool ro]⟩] w λ e w'=>e=.returned (.tuple #[.pointer none,.bool false])/\St w [] [] w':=by
 refine enter Tryz.func51 Tryz.ntmps51 rfl rfl (h.start.kE 62 1) ?_
 simp only[cO]
 simp only[sI]
 refine J0 ?_;refine bQ (λ x2=>?_);refine bQ (λ x3=>?_);refine J8 ?_;refine aR ?_;refine kV ?_;refine aC (c0 (V:=.bool) (hc:=λ w1 hw=>Ia (h.Eg hw) hl hc hcn)) (λ x10 h10=>?_);refine mJ ?_
 refine aZ (λ c11=>?_) (λ c11=>?_)
 ·refine Gc ?_
  refine bK Tryz.results51 (λ w hw=>?_)
  first
  | exact⟨rfl,hw.done⟩
 ·have hp:dM L cs gen:=h10.1 (by simpa using c11)
  have hb:=Ot hp hr hl
  rw[qG hp] at hn
  refine bA ?_;refine kV ?_;refine bN ?_;refine aT (cV (hc:=λ w1 hw=>Ie (h.Eg hw) hb hl hc c ro hi)) (λ x15=>?_);refine Kb8 ?_;refine mJ ?_
  refine aZ (λ c19=>?_) (λ c19=>?_)
  ·refine Gc ?_
   refine bK Tryz.results51 (λ w hw=>?_)
   first
   | exact⟨rfl,hw.done⟩
  ·obtain⟨r,hrt⟩:=Option.isSome_iff_exists.1 (show(gD (L.map aL.c) cs c).isSome=true by simpa using c19)
   obtain⟨k,rfl,hk⟩:=Sc hrt
   rw[hrt,Option.bind_some] at hn
   rw[hrt,Option.getD_some]
   refine jM ?_;refine eG [(0,[]),(1,[]),(2,[]),(3,[]),(4,[0]),(5,[]),(6,[]),(7,[])] ?_;refine bO ?_;refine mF ?_;refine lN ?_;refine Bc (h:=λ x24=>?_);refine jC ?_;refine bz (h:=λ x26=>?_);refine J7 ?_;refine F0 ?_;refine aC (cM (hs:=[(x26,m8 L cs gen pn cn pc cc x24 ⟨[],List.replicate L.length false,none,0⟩ none [] 0)]) (os:=oy L x24 ⟨[],List.replicate L.length false,none,0⟩) (hc:=λ w1 hs=>Kj h.fit hb hl hc x26 x24 none [] 0 12 0 rfl k ⟨[],List.replicate L.length false,none,0⟩ _ w1 hk (Vp.zero _) hs)) (λ x29 h29=>?_);refine mJ ?_
   refine aZ (λ c30=>?_) (λ c30=>?_)
   ·refine Gc ?_
    refine bK Tryz.results51 (λ w hw=>?_)
    first
    | exact⟨rfl,hw.done⟩
    | exact(Gn h29 hn (by simpa using c30)).elim
   ·refine bA ?_;refine J2 ?_;refine J8 ?_
    refine bK Tryz.results51 (λ w hw=>?_)
    first
    | exact⟨rfl,hw.done⟩
    | exact(Gn h29 hn (by simpa using c30)).elim
theorem Na(h:iQ w L cs pn pc)(hr:vX L)(hl:L.length<=274877906944)(hc:cs.length<=274877906944)(hcn:L.length<=cn)(c:Int)(ro:Bool)(hi:c<=9223372036854775807){l:List Int}(hn:wN L cs gen c=some l):Calls Tryz.prog 51 #[sI L cs gen pn cn pc cc,.agg ⟨[.int .i64 c,.bool ro]⟩] w λ e w'=>∃x:Nat×Nat×VQ,e=.returned (.tuple #[.pointer (some ⟨x.1,0,none⟩),.bool true])/\(x.2.2.l=l/\l.length<=L.length)/\SF w [] [(x.1,m8 L cs gen pn cn pc cc x.2.1 x.2.2 none [] 0)] [] [] (oy L x.2.1 x.2.2) w':=by
 have hp:dM L cs gen:=by
  unfold wN at hn
  split at hn
  ·assumption
  ·cases hn
 have hb:=Ot hp hr hl
 rw[qG hp] at hn
 obtain⟨r,hrt,hn⟩:=Option.bind_eq_some_iff.1 hn
 obtain⟨k,rfl,hk⟩:=Sc hrt
 refine enter Tryz.func51 Tryz.ntmps51 rfl rfl (h.start.kE 62 1) ?_
 simp only[cO]
 simp only[sI]
 refine J0 ?_;refine bQ (λ x2=>?_);refine bQ (λ x3=>?_);refine J8 ?_;refine aR ?_;refine kV ?_;refine aT (cV (hc:=λ w1 hw=>D6 (h.Eg hw) hl hc hcn hp)) (λ x10=>?_);refine mJ ?_
 refine aZ (λ c11=>?_) (λ c11=>?_)
 ·exact nv c11
 ·refine bA ?_;refine kV ?_;refine bN ?_;refine aT (cV (hc:=λ w1 hw=>by have:=Ie (gen:=gen) (cn:=cn) (cc:=cc) (h.Eg hw) hb hl hc c ro hi;rw[hrt] at this;exact this)) (λ x15=>?_);refine Kb8 ?_;refine mJ ?_
  refine aZ (λ c19=>?_) (λ c19=>?_)
  ·simp at c19
  ·refine jM ?_;refine eG [(0,[]),(1,[]),(2,[]),(3,[]),(4,[0]),(5,[]),(6,[]),(7,[])] ?_;refine bO ?_;refine mF ?_;refine lN ?_;refine Bc (h:=λ x24=>?_);refine jC ?_;refine bz (h:=λ x26=>?_);refine J7 ?_;refine F0 ?_;refine aC (cM (hs:=[(x26,m8 L cs gen pn cn pc cc x24 ⟨[],List.replicate L.length false,none,0⟩ none [] 0)]) (os:=oy L x24 ⟨[],List.replicate L.length false,none,0⟩) (hc:=λ w1 hs=>Kj h.fit hb hl hc x26 x24 none [] 0 12 0 rfl k ⟨[],List.replicate L.length false,none,0⟩ _ w1 hk (Vp.zero _) hs)) (λ x29 h29=>?_);refine mJ ?_
   refine aZ (λ c30=>?_) (λ c30=>?_)
   ·exfalso
    have h1:=h29.1
    rw[hn] at h1
    have h2:=h1.1
    simp_all
   ·refine bA ?_;refine J2 ?_;refine J8 ?_
    refine bK Tryz.results51 (λ w hw=>?_)
    have h1:=h29.1
    rw[hn] at h1
    exact⟨(x26,x24,x29.2),rfl,⟨h1.2,by rw[<- h1.2];exact h29.2.len⟩,hw.ret (List.Sublist.cons_cons _ (List.nil_sublist _)) (aV.qL λ f hf=>(List.not_mem_nil hf).elim) (List.Sublist.refl _)⟩
end
end

/- Views of the Shape seat: Inner and Root (as in Vw6, Vw8, without Contents, which its program lacks). -/
section
open Go Go.RowKit Go.Ct
section
variable{L:List aL}{cs:List Int}{gen:Int}{pn pc:Option Addr}{cn cc:Nat}{w:World}
theorem wX(h:iQ w L cs pn pc)(hr:vX L)(hl:L.length<=274877906944)(hc:cs.length<=274877906944)(hcn:L.length<=cn)(c:Int)(ro:Bool)(hi:c<=9223372036854775807){l:List Int}(hn:wN L cs gen c=some l):Calls Tryz.prog 34 #[sI L cs gen pn cn pc cc,.agg ⟨[.int .i64 c,.bool ro]⟩] w λ e w'=>∃x:Option Addr×Nat,e=.returned (.tuple #[.slice x.1 l.length x.2,.int .i64 0])/\l.length<=L.length/\SF w [] [] [] [(x.1,aG l)] [] w':=by
 refine enter Tryz.func34 Tryz.ntmps34 rfl rfl h.start ?_
 simp only[cO]
 simp only[sI]
 refine J0 ?_;refine bQ (λ x2=>?_);refine bQ (λ x3=>?_);refine J8 ?_;refine kV ?_;refine bN ?_;refine aC (Z5 (Fc:=λ _=>[]) (hc:=λ w1 hw=>Na (h.Eg hw) hr hl hc hcn c ro hi hn)) (λ x11 h11=>?_);refine Kb8 ?_;refine mJ ?_
 refine aZ (λ c15=>?_) (λ c15=>?_)
 ·exact nv c15
 ·refine um ?_;refine J8 ?_
  refine bK Tryz.results34 (λ w hw=>?_)
  obtain⟨e1,e2⟩:=h11
  rw[e1] at hw ⊢
  exact⟨(x11.2.2.p,x11.2.2.c),rfl,e2,(hw.freeze (.tail .head)).fin⟩
open Classical in
noncomputable def M2 (L:List aL) (cs:List Int) (gen:Int) (o:Option Int):Option Int:=if dM L cs gen then o else none
theorem H4(h:iQ w L cs pn pc)(hr:vX L)(hl:L.length<=274877906944)(hc:cs.length<=274877906944)(hcn:L.length<=cn)(c:Int)(ro:Bool)(hi:c<=9223372036854775807):Calls Tryz.prog 35 #[sI L cs gen pn cn pc cc,.agg ⟨[.int .i64 c,.bool ro]⟩] w λ e w'=>e=.returned (.tuple #[.int .i64 ((M2 L cs gen (gD (L.map aL.c) cs c)).getD 0),.bool (M2 L cs gen (gD (L.map aL.c) cs c)).isSome])/\St w [] [] w':=by
 refine enter Tryz.func35 Tryz.ntmps35 rfl rfl h.start ?_
 simp only[cO]
 simp only[sI]
 refine J0 ?_;refine bQ (λ x2=>?_);refine bQ (λ x3=>?_);refine J8 ?_;refine aR ?_;refine kV ?_;refine aC (c0 (V:=.bool) (hc:=λ w1 hw=>Ia (h.Eg hw) hl hc hcn)) (λ x7 h7=>?_);refine mJ ?_
 refine aZ (λ c8=>?_) (λ c8=>?_)
 ·have hn:¬dM L cs gen:=λ hp=>by rw[h7.2 hp] at c8;cases c8
  refine Gc ?_
  refine bK Tryz.results35 (λ w hw=>?_)
  unfold M2
  rw[if_neg hn]
  exact⟨rfl,hw.done⟩
 ·have hp:dM L cs gen:=h7.1 (by simpa using c8)
  refine bA ?_;refine kV ?_;refine bN ?_;refine aT (cV (hc:=λ w1 hw=>Ie (h.Eg hw) (Ot hp hr hl) hl hc c ro hi)) (λ x11=>?_);refine J54 ?_;refine J8 ?_
  refine bK Tryz.results35 (λ w hw=>?_)
  unfold M2
  rw[if_pos hp]
  exact⟨rfl,hw.done⟩
end
end

/- The program's shape, part 7: Check of a trie. -/
section
open Go Go.RowKit Go.Ct
section
variable{L:List aL}{cs:List Int}{gen:Int}{m:Nat}{pn pc:Option Addr}{cn cc:Nat}{w:World}
theorem Sl(h:iQ w L cs pn pc)(hT:Go.Ct.Cl w (some ⟨0,0,none⟩) (oV iS)):SF w [] [] (uV L cs pn pc) [] [] w:=SF.begin λ f hf=>by
 rcases List.mem_cons.1 hf with rfl|hf
 ·exact h.nds
 rcases List.mem_cons.1 hf with rfl|hf
 ·exact h.cls
 rcases List.mem_cons.1 hf with rfl|hf
 ·exact hT
 ·exact h.fam f hf
set_option maxRecDepth 100000 in
set_option maxHeartbeats 1000000 in
theorem S7(h:iQ w L cs pn pc)(hT:Go.Ct.Cl w (some ⟨0,0,none⟩) (oV iS))(ok:B9 L)(hM:yY L cs)(hp:dM L cs gen)(hr:vX L)(hc:cs.length<=274877906944)(hcn:L.length<=cn)(hm:m<18446744073709551616)(c:Int)(ro:Bool)(hi:c<=9223372036854775807){l:List Int}(hn:wN L cs gen c=some l){r:Int}(hro:gD (L.map aL.c) cs c=some r)(ht:T2 (L.map aL.c) cs 12 r) :
  Calls Tryz.prog 11 #[sI L cs gen pn cn pc cc,.agg ⟨[.int .i64 c,.bool ro]⟩,.int .u64 ((m:Nat):Int)] w λ e w'=>∃q:Bool,e=.returned (.int .i64 (if q=true then 0 else 8))/\(q=true↔Vv (L.map aL.c) cs m 12 r [] 0)/\SF w [] [] [] [] [] w':=by
 have hl:=ok.len
 obtain⟨R,hR,_⟩:∃R,eK (L.map aL.c) cs r=some R/\True:=by obtain⟨R,h1,_⟩:=ht;exact⟨R,h1,trivial⟩
 obtain⟨k,hk,hkl⟩:∃k:Nat,r=((k+1:Nat):Int)/\k<L.length:=by
  have h2:(cB (L.map aL.c) r).kind=2:=by
   unfold eK at hR
   split at hR
   ·rename_i h1;exact h1.1
   ·cases hR
  have:=dD (N:=L.map aL.c) (i:=r) (by omega)
  rw[List.length_map] at this
  exact⟨(r-1).toNat,by omega,by omega⟩
 obtain⟨r2,hr2,hr2l,hmo,_⟩:=hM _ _ hR
 have wf:WfC L cs gen m pn cn pc cc 12:=Zm ok hM hm hc 12
 subst hk hr2
 refine enter Tryz.func11 Tryz.ntmps11 rfl rfl (Sl h hT) ?_
 simp only[cO]
 simp only[sI]
 refine J0 ?_;refine bQ (λ x3=>?_);refine bQ (λ x4=>?_);refine gQ ?_;refine kV ?_;refine bN ?_;refine aC (cF (Fc:=λ x:Option Addr×Nat=>[(x.1,aG l)]) (hc:=λ w1 hw=>wX (hw.vY (.inr (.inl (.head _))) (.inr (.inl (.tail _ (.head _)))) (λ f hf=>.inr (.inl (.tail _ (.tail _ (.tail _ hf))))) h.fit) hr hl hc hcn c ro hi hn)) (λ x16 h16=>?_);refine Ka8 ?_;refine J2 ?_;refine Kc0 ?_
 refine aZ (λ c20=>?_) (λ c20=>?_)
 ·exact nv c20
 ·try (first|contradiction|(exfalso;omega))
  refine bA ?_;refine kV ?_;refine bN ?_;refine aT (cV (v:=.tuple #[.int .i64 ((k+1:Nat):Int),.bool true]) (hc:=λ w1 hw=>by have h9:=H4 (gen:=gen) (cc:=cc) (hw.vY (.inr (.inl (.head _))) (.inr (.inl (.tail _ (.head _)))) (λ f hf=>.inr (.inl (.tail _ (.tail _ (.tail _ hf))))) h.fit) hr hl hc hcn c ro hi;rw[show M2 L cs gen (gD (L.map aL.c) cs c)=some ((k+1:Nat):Int) by unfold M2;rw[if_pos hp,hro]] at h9;exact h9)) (λ x24=>?_);refine Kb8 ?_;refine mJ ?_
  refine aZ (λ c28=>?_) (λ c28=>?_)
  ·exact nv c28
  ·try (first|contradiction|(exfalso;omega))
   refine bA ?_;refine B6 ?_;refine bG ?_;refine bQ (λ x32=>?_);refine sZ ?_;refine aC (cM (V:=λ _:Unit=>(aA L ((k+1:Nat):Int)).nd.v) (hs:=[(x32,jV L cs gen m pn cn pc cc)]) (os:=[]) (hs':=λ _=>[(x32,jV L cs gen m pn cn pc cc)]) (os':=λ _=>[]) (Fc:=λ _=>[]) (A0:=uV L cs pn pc) (hA:=bP.of λ f hf=>.inr (.inl hf)) (hc:=λ w1 hw=>jQ hw hkl hl)) (λ x35 h35=>?_);refine aN (λ x12=>?_);refine J5 ?_;refine aR ?_;refine aR ?_;refine eG [(0,[]),(1,[]),(2,[]),(3,[]),(4,[1]),(5,[]),(6,[]),(7,[])] ?_;refine Kb6 ?_;refine Kb6 ?_;refine bC (i:=4) (hq:=(cM (V:=λ _:Unit=>(aA L ((r2+1:Nat):Int)).nd.v) (hs:=[(x32,jV L cs gen m pn cn pc cc)]) (os:=[]) (hs':=λ _=>[(x32,jV L cs gen m pn cn pc cc)]) (os':=λ _=>[]) (Fc:=λ _=>[]) (A0:=uV L cs pn pc) (hA:=bP.of λ f hf=>.inr (.inl hf)) (hc:=λ w1 hw=>yE hw hmo hr2l hl hc))) (h:=λ x40 h40=>?_);refine cJ (i:=5) (hq:=(yN (vs:=[(2,.agg ⟨(aA L ((k+1:Nat):Int)).nd.cells⟩),(3,(aA L ((r2+1:Nat):Int)).nd.v)]) (cs:=I1 0 [] (aA L ((k+1:Nat):Int)).nd (aA L ((r2+1:Nat):Int)).nd Nd.zero) (iA rfl) (by exact rfl) (by kernel_rfl) (by kernel_rfl))) (h:=?_);refine bC (i:=6) (hq:=(cM (V:=.bool) (hs:=[(x32,jV L cs gen m pn cn pc cc)]) (os:=[]) (hs':=λ _=>[(x32,jV L cs gen m pn cn pc cc)]) (os':=λ _=>[]) (Fc:=λ _=>[]) (A0:=uV L cs pn pc) (hA:=bP.of λ f hf=>.inr (.inl hf)) (hc:=λ w1 hw=>wf (u:=[]) (c:=Nd.zero) hw hR ht (by decide)))) (h:=λ x42 h42=>?_);refine L3 ?_;refine dS ?_
   refine aZ (λ c43=>?_) (λ c43=>?_)
   ·try (first|contradiction|(exfalso;omega))
    refine cQ ?_
    refine aQ Tryz.results11 (λ w hw=>?_)
    refine⟨false,rfl,⟨λ h=>(nomatch h),λ hp=>?_⟩,hw.aS⟩
    have h12:=h42.2 hp
    exfalso
    rw[h12] at c43
    first
    | exact absurd c43 (by decide)
    | (simp at c43;done)
   ·try (first|contradiction|(exfalso;omega))
    refine bA ?_;refine cQ ?_
    refine aQ Tryz.results11 (λ w hw=>?_)
    refine⟨true,rfl,⟨λ _=>h42.1 (by(simpa using c43;done)),λ _=>rfl⟩,hw.aS⟩
end
end

end Go.Proofs.YtadnboagdhcedaaGreatDoor

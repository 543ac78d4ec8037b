/- Merged. -/
import Derived.Test.YthblobahelfefaaGreatDoorGPtd
import Derived.Test.YthblobahelfefaaGreatDoorGBit2
set_option linter.unusedSimpArgs false
set_option linter.unusedVariables false
namespace Go.Proofs.YthblobahelfefaaGreatDoor
open Go.Proofs.Tryz
open Go Go.RowKit Go.Ct
section
theorem jj(o:Option (List Pr))(h:Int)(x:Option Addr×Nat):(grN o h x).brN=([]:List Int).length/\(grN o h x).prN=(ie o).length:=by cases o<;>exact⟨rfl,rfl⟩
theorem aCo{o:Option (List Pr)}(ho:o.isSome=true)(h:Int)(x:Option Addr×Nat):(grN o h x).prA=x.1:=by cases o with
 | none=>cases ho
 | some q=>rfl
theorem aCK{m c:Nat}{o:Option (List Pr)}{h:Int}(x:Option Addr×Nat)(hh:∃b:Nat,h=(b:Int)/\b<18446744073709551616):rH m c {(grN o h x).c [] (ie o) with main:=0,prev:=0,status:=0}:=by
 cases o with
 | none=>exact⟨fQ _,fQ _,fQ _,(λ r hr=>nomatch hr),fQ _,fQ _,fQ _,⟨0,rfl,by decide⟩,⟨0,rfl,by decide⟩⟩
 | some q=>exact⟨fQ _,fQ _,fQ _,(λ r hr=>nomatch hr),fQ _,fQ _,fQ _,⟨0,rfl,by decide⟩,hh⟩
theorem aDd(l:List Int)(ys:List Pr)(d:Nd)(k:ByteArray)(u:Int):(ie (iF d l ys k u)).length<=ys.length+1:=by
 have:=We ys k u;unfold iF;split;·exact this
 ·exact Nat.zero_le _
section
variable{D:List Nat}{A B:Fr}{a:AS}{b u:Nat}{w:World}{f:FuncId}{cap:xK}{t:nV}{c:jG}
theorem tm{T:Tr}(hd:U7 b u c T)(ht:c.t.root<=9223372036854775807){g par r l m:Int}{v:dJ}(hv:rH a.mm.nodes.length a.mm.cs.length v.c)(hf:v.Fit)(hc2:v.ys.length<=v.nd.cY)(hy:v.ys.length<=1000)(hAx:(v.nd.brA,aN v.xs)∈A)(hAy:(v.nd.prA,cY v.ys)∈A)(hpv:a.pv=((u,pO b c g par r l),E0))(hr:r<=a.mm.nodes.length)(hmm:m<=a.mm.nodes.length)
  (hin:fG c (cU v.ys c.key).isSome ((cU v.ys c.key).getD 0)=true->(iF v.nd v.xs v.ys c.key c.val).isSome=true) (ok:a.Ok) (hm0:a.mm.gM) (hA:∀f∈cH a.L,f∈A) (hB:∀x∈B,x∈A) (hs:SF w D [(b,cX a),(a.u,a.po)] A [] (hU a) w) :
  Calls prog 218 #[pt u,.int .i64 m,v.nd.v] w (kC b (λ c' s' B'=>dZ b (if fG c (cU v.ys c.key).isSome ((cU v.ys c.key).getD 0)=true then .alloc (grV v.c c.key c.val) m λ q=>kQ c.t r m q (qP T (cU v.ys c.key).isSome ((cU v.ys c.key).getD 0)) else .done (dW (cU v.ys c.key).isSome ((cU v.ys c.key).getD 0))) a.mm c' s' B') a B D w):=by
 obtain⟨a0,rfl⟩:∃a0:AS,a=AS.wp a0 u (pO b c g par r l):=⟨a,sX hpv⟩;have hm:=hm0.small;have hpn:=hf.prN;have hgl:=aDd v.xs v.ys v.nd c.key c.val;refine enter func218 ntmps218 rfl rfl hs ?_;simp only[bY]
 simp only[Nd.v,Nd.cells];refine J0 ?_;refine bC (λ x5=>?_);refine aI (λ x6=>?_);refine Bz ?_;refine gL [0,1,2,3,4,5,6,7,8,9,10,11] ?_;refine iX ?_;refine nZ ?_;refine cB (i:=6) (hq:=(cV (hc:=λ w1 hw=>by rw[hpn];exact gv (c:=v.nd.cY) c.key (hw.cl (.old (lQ.dS hAy))) (by omega)))) (h:=λ x18=>?_);refine K0x ?_;refine mg ?_;refine Ir ?_;refine aD ?_;refine aK (cV (hc:=λ w1 hw=>pT (hw.st.at bU) _ _)) (λ x24=>?_);refine pG ?_;refine aX (λ c25=>?_) (λ c25=>?_);·refine lV ?_;refine aK (cV (hc:=λ w1 hw=>pS _ _ w1)) (λ x28=>?_);refine aM (cK λ _=>aE rf bU rf (aW _) cW rf dV) (λ _=>?_);refine aC ?_;refine bJ results218 (λ w hw=>?_);refine⟨(eS (dW (cU v.ys c.key).isSome ((cU v.ys c.key).getD 0)),[],AS.wp a0 u (pO b c g par r l)),rfl,⟨?_,ok,AS.eC.refl _⟩,hw.rI⟩;rw[if_neg (by simpa using c25)];exact⟨rfl,rfl⟩
 ·refine mD ?_;refine aAn [9,10,29,30,31,32,33,34,35,36,37,38,39,40,41] (λ j:Nat×Option Addr×Nat=>[(9,pt j.1),(10,.bool (iF v.nd v.xs v.ys c.key c.val).isSome)]) (λ _=>True) (λ j=>[(j.1,.cells ⟨(grN (iF v.nd v.xs v.ys c.key c.val) v.nd.hash j.2).cells⟩ 194 (0,0))]) (λ j=>[(j.2.1,cY (ie (iF v.nd v.xs v.ys c.key c.val)))]) (λ _=>[]) (by decide) (λ _=>by exact rfl) (λ _=>by simp only[List.nil_append,List.cons_append];exact rfl) (λ _=>by simp only[List.nil_append,List.cons_append];exact rfl) (λ _=>by simp only[List.nil_append,List.cons_append];exact rfl) ?_ (λ j f hx=>?_)
  ·refine oG (.one 0 [] (.one 1 [] (.one 2 [] (.one 3 [] (.one 4 [] (.one 5 [] (.one 6 [] (.one 7 [] (.one 8 [] (.two 9 [] (.one 10 [] (.one 11 [] (.one 12 [] (.one 13 [0,4,8] (.one 14 [] (.one 15 [] .nil)))))) 0 [] (.two 13 [0,4,8] (.one 9 [] (.one 10 [] (.one 11 [] (.one 12 [] (.one 14 [] (.one 15 [] .nil)))))) 0 [] .nil))))))))))) ?_;refine cJ ?_;refine bs ?_;refine nR (E:=[9,13]) (by decide +kernel) ((.cons ?_ (.cons ?_ .nil)));·refine Ch (i:=9) (hq:=(cF (hc:=λ w1 hw=>Yq (n:=v.nd) (xs:=v.xs) (ys:=v.ys) c.key c.val (hf.Fp (hw.cl (.old (lQ.dS hAx))) (hw.cl (.old (lQ.dS hAy)))) hc2 (by omega)))) (h:=λ x39 h39=>?_);refine K0x ?_;refine sN (h:=λ x9=>?_);refine J40 ?_;refine rX ((x9,x39)) ?_;·trivial
   ·refine Mh (i:=13) (h:=λ x9=>?_);refine bS (i:=9) (hq:=(cF (hc:=λ w1 hw=>Yq (n:=v.nd) (xs:=v.xs) (ys:=v.ys) c.key c.val (hf.Fp (hw.cl (.old (lQ.dS hAx))) (hw.cl (.old (lQ.dS hAy)))) hc2 (by omega)))) (h:=λ x39 h39=>?_);refine K0x ?_;refine J40 ?_;refine rX ((x9,x39)) ?_;·trivial
  refine K0a ?_;refine lV ?_;refine bW ?_;refine Jh ?_;refine aD ?_;refine aJ (jN (A0:=(j.2.1,cY (ie (iF v.nd v.xs v.ys c.key c.val)))::A) (hA:=bL.Mv) (λ w1 hw=>pM (found:=(cU v.ys c.key).isSome) (v:=(cU v.ys c.key).getD 0) (g:=g) (par:=par) (r:=r) (l:=l) (m:=m) (ys:=ie (iF v.nd v.xs v.ys c.key c.val)) (nd:=grN (iF v.nd v.xs v.ys c.key c.val) v.nd.hash j.2) (xs:=[]) hd ht (hin (by simpa using c25)) rfl hr hmm (jj _ _ _).1 (jj _ _ _).2 (Nat.zero_le _) (by omega) (aCK j.2 hv.hash) (.inl rfl) (.inr (by rw[aCo (hin (by simpa using c25))];exact .head _)) ok ⟨Nat.le_trans hm0.1 (by decide),Nat.le_trans hm0.2 (by decide)⟩ (λ f hf=>.tail _ (hA f hf)) (λ f hf=>.tail _ (hB f hf)) hw)) (λ x48 h48=>?_);refine aM (cK λ _=>aE rf bU rf (aW _) cW rf dV) (λ _=>?_);refine aC ?_;refine bJ results218 (λ w hw=>?_);refine⟨(x48.1,x48.2.1++[(j.2.1,cY (ie (iF v.nd v.xs v.ys c.key c.val)))],x48.2.2),rfl,⟨?_,h48.2.1,h48.2.2.more λ f hf=>List.mem_append_left _ hf⟩,hw.ret E0a (aT.bA λ f hf=>by simpa using hf) (List.Sublist.refl _)⟩;have h1:=h48.1;rw[if_pos (by simpa using c25)];rw[aF0] at h1;refine dZ.more h1 λ y hy=>?_;simp only[List.mem_append,List.mem_cons,List.not_mem_nil,or_false] at hy ⊢
  exact hy.imp .inl id
end
end
section
theorem X9(v:dJ)(k:ByteArray)(u:Int):(iF v.c.nd v.c.xs v.c.ys k u).isSome=(iF v.nd v.xs v.ys k u).isSome:=by unfold iF;simp only[show LV v.c.nd v.c.xs v.c.ys=LV v.nd v.xs v.ys from aD9];rfl
section
variable{b:Nat}{c:jG}{s s2:Mm}{v:dJ}{gen r m bb:Int}{level:Nat}{T:Tr}{down:Int->Nat->Tr}{cd:Cd}{B:Fr}
theorem Yk(h:Ns (oR c T gen down r level m) s)(e:aB s.nodes m=v.c):Ns (if v.c.kind=6 then X6 c T r m v.c else if v.c.kind=3 then match lY v.c (gO c.h level) with
  | none=>U5 c T r m level v.c
  | some b=>.node b λ nb=>if nb.kind=4 then(if nb.key=c.key then Pp c T r m level v.c nb.val else Kc c T gen r m level v.c b) else if nb.kind=2/\nb.gen=gen then down b (level+1) else .stuck
  else .stuck) s:=by unfold Ns oR at h;rw[Ct.iR,e] at h;exact h
theorem vr(h:Ns (oR c T gen down r level m) s)(e:aB s.nodes m=v.c):v.c.kind=6∨v.c.kind=3:=by
 have h2:=Yk h e;by_cases k:v.c.kind=6;·exact .inl k
 ·by_cases k3:v.c.kind=3;·exact .inr k3
  ·rw[if_neg k,if_neg k3] at h2;exact(h2 rfl).elim
theorem Fo(h:Ns (oR c T gen down r level m) s)(e:aB s.nodes m=v.c)(k:v.c.kind=6):v.ys.length<=1000/\(fG c (cU v.ys c.key).isSome ((cU v.ys c.key).getD 0)=true->(iF v.nd v.xs v.ys c.key c.val).isSome=true):=by
 have h2:=Yk h e;rw[if_pos k] at h2;unfold X6 at h2;by_cases hl:v.c.ys.length<=1000
 ·rw[if_pos hl,show v.c.ys=v.ys from rfl] at h2;refine⟨hl,λ hp=>?_⟩;rw[if_pos hp] at h2;have e5:=X9 v c.key c.val;rw[show v.c.ys=v.ys from rfl] at e5;rw[e5] at h2;by_cases hg:(iF v.nd v.xs v.ys c.key c.val).isSome=true
  ·exact hg
  ·rw[if_neg hg] at h2;exact(h2 rfl).elim
 ·rw[if_neg hl] at h2;exact(h2 rfl).elim
theorem tj(h:Ns (oR c T gen down r level m) s)(e:aB s.nodes m=v.c)(k:v.c.kind=3)(hk:lY v.c (gO c.h level)=none)(hp:fG c false 0=true):(Wi v (gO c.h level) ((s.nodes.length+1:Nat):Int)).isSome=true:=by
 have h2:=Yk h e;rw[if_neg (by rw[k];decide),if_pos k,hk] at h2;unfold U5 Ns at h2;dsimp only at h2;rw[if_pos hp,Ct.iR,aBB] at h2;by_cases hg:(Wi v (gO c.h level) ((s.nodes.length+1:Nat):Int)).isSome=true;·exact hg
 ·rw[if_neg hg] at h2;exact(h2 rfl).elim
theorem ug(h:Ns (oR c T gen down r level m) s)(e:aB s.nodes m=v.c)(k:v.c.kind=3)(hk:lY v.c (gO c.h level)=some bb):Ns (if(aB s.nodes bb).kind=4 then(if(aB s.nodes bb).key=c.key then Pp c T r m level v.c (aB s.nodes bb).val else Kc c T gen r m level v.c bb) else if(aB s.nodes bb).kind=2/\(aB s.nodes bb).gen=gen then down bb (level+1) else .stuck) s:=by have h2:=Yk h e;rw[if_neg (by rw[k];decide),if_pos k,hk] at h2;exact h2
theorem aCS(h:Ns (oR c T gen down r level m) s)(e:aB s.nodes m=v.c)(k:v.c.kind=3)(hk:lY v.c (gO c.h level)=some bb)(k4:(aB s.nodes bb).kind=4)(hkey:(aB s.nodes bb).key=c.key)(hp:fG c true (aB s.nodes bb).val=true):(Ji v (gO c.h level) ((s.nodes.length+1:Nat):Int)).isSome=true:=by
 have h2:=ug h e k hk;rw[if_pos k4,if_pos hkey] at h2;unfold Pp Ns at h2;rw[if_pos hp,Ct.iR,Xr] at h2;by_cases hg:(Ji v (gO c.h level) ((s.nodes.length+1:Nat):Int)).isSome=true;·exact hg
 ·rw[if_neg hg] at h2;exact(h2 rfl).elim
theorem aDU(h:Ns (oR c T gen down r level m) s)(e:aB s.nodes m=v.c)(k:v.c.kind=3)(hk:lY v.c (gO c.h level)=some bb)(k4:(aB s.nodes bb).kind=4)(hkey:(aB s.nodes bb).key≠c.key)(hp:fG c false 0=true):lO c (aB s.nodes bb) (level+1) gen bb/\(Ji v (gO c.h level) ((dI s c bb gen (level+1)+1:Nat):Int)).isSome=true:=by
 have h2:=ug h e k hk;rw[if_pos k4,if_neg hkey] at h2;unfold Kc at h2;rw[if_pos hp] at h2;have hd:=zf h2;refine⟨hd,?_⟩;unfold Ns at h2;rw[R5 hd,Ct.iR,Xr,mK] at h2;by_cases hg:(Ji v (gO c.h level) ((dI s c bb gen (level+1)+1:Nat):Int)).isSome=true
 ·exact hg
 ·rw[if_neg hg] at h2;exact(h2 rfl).elim
theorem Mq(h:Ns (oR c T gen down r level m) s)(e:aB s.nodes m=v.c)(k:v.c.kind=3)(hk:lY v.c (gO c.h level)=some bb)(k4:(aB s.nodes bb).kind≠4):((aB s.nodes bb).kind=2/\(aB s.nodes bb).gen=gen)/\Ns (down bb (level+1)) s:=by
 have h2:=ug h e k hk;rw[if_neg k4] at h2;by_cases hg:(aB s.nodes bb).kind=2/\(aB s.nodes bb).gen=gen;·rw[if_pos hg] at h2;exact⟨hg,h2⟩
 ·rw[if_neg hg] at h2;exact(h2 rfl).elim
theorem w8(hm:m<=s.nodes.length)(e:aB s.nodes m=v.c)(k:v.c.kind=6)(hl:v.ys.length<=1000)(hg:fG c (cU v.ys c.key).isSome ((cU v.ys c.key).getD 0)=true->(iF v.nd v.xs v.ys c.key c.val).isSome=true)
  (h:dZ b (if fG c (cU v.ys c.key).isSome ((cU v.ys c.key).getD 0)=true then .alloc (grV v.c c.key c.val) m λ q=>kQ c.t r m q (qP T (cU v.ys c.key).isSome ((cU v.ys c.key).getD 0)) else .done (dW (cU v.ys c.key).isSome ((cU v.ys c.key).getD 0))) s cd s2 B):dZ b (oR c T gen down r level m) s cd s2 B:=by
 refine⟨hm,?_⟩;rw[e];dsimp only;rw[if_pos k];unfold X6;rw[if_pos (show v.c.ys.length<=1000 from hl)];have e5:=X9 v c.key c.val;rw[show v.c.ys=v.ys from rfl] at e5 ⊢;by_cases hp:fG c (cU v.ys c.key).isSome ((cU v.ys c.key).getD 0)=true
 ·rw[if_pos hp] at h;rw[if_pos hp,e5,if_pos (hg hp)];exact h
 ·rw[if_neg hp] at h;rw[if_neg hp];exact h
theorem aDw(hm:m<=s.nodes.length)(e:aB s.nodes m=v.c)(k:v.c.kind=3)(hk:lY v.c (gO c.h level)=none)(hg:fG c false 0=true->(Wi v (gO c.h level) ((s.nodes.length+1:Nat):Int)).isSome=true)
  (h:dZ b (if fG c false 0=true then .alloc (qZ c.h c.key c.val) 0 λ s=>.alloc (Tm v.c (gO c.h level) s) m λ q=>kQ c.t r m q (qP T false 0) else .done (dW false 0)) s cd s2 B):dZ b (oR c T gen down r level m) s cd s2 B:=by
 refine⟨hm,?_⟩;rw[e];dsimp only;rw[if_neg (by rw[k];decide),if_pos k,hk];dsimp only;unfold U5;by_cases hp:fG c false 0=true;·rw[if_pos hp] at h;rw[if_pos hp];show dZ b (if(K4 v.c.nd v.c.xs v.c.ys v.c.bm.toNat (gO c.h level) ((s.nodes.length+1:Nat):Int)).isSome=true then _ else _) _ cd s2 B;rw[aBB,if_pos (hg hp)];exact h
 ·rw[if_neg hp] at h;rw[if_neg hp];exact h
theorem ib(hm:m<=s.nodes.length)(hb:bb<=s.nodes.length)(e:aB s.nodes m=v.c)(k:v.c.kind=3)(hk:lY v.c (gO c.h level)=some bb)
  (h:dZ b (if(aB s.nodes bb).kind=4 then(if(aB s.nodes bb).key=c.key then Pp c T r m level v.c (aB s.nodes bb).val else Kc c T gen r m level v.c bb) else if(aB s.nodes bb).kind=2/\(aB s.nodes bb).gen=gen then down bb (level+1) else .stuck) s cd s2 B):dZ b (oR c T gen down r level m) s cd s2 B:=by refine⟨hm,?_⟩;rw[e];dsimp only;rw[if_neg (by rw[k];decide),if_pos k,hk];exact⟨hb,h⟩
theorem aDR{u:Int}(hg:fG c true u=true->(Ji v (gO c.h level) ((s.nodes.length+1:Nat):Int)).isSome=true)
  (h:dZ b (if fG c true u=true then .alloc (qZ c.h c.key c.val) 0 λ s'=>.alloc (Kn v.c (gO c.h level) s') m λ q=>kQ c.t r m q (qP T true u) else .done (dW true u)) s cd s2 B):dZ b (Pp c T r m level v.c u) s cd s2 B:=by
 unfold Pp;by_cases hp:fG c true u=true;·rw[if_pos hp] at h;rw[if_pos hp];show dZ b (if(Jn v.c.nd v.c.xs v.c.ys v.c.bm.toNat (gO c.h level) ((s.nodes.length+1:Nat):Int)).isSome=true then _ else _) _ cd s2 B;rw[Xr,if_pos (hg hp)];exact h
 ·rw[if_neg hp] at h;rw[if_neg hp];exact h
theorem aDW(hb:bb<=s.nodes.length)(hd:fG c false 0=true->lO c (aB s.nodes bb) (level+1) gen bb)(hg:fG c false 0=true->(Ji v (gO c.h level) ((dI s c bb gen (level+1)+1:Nat):Int)).isSome=true)
  (h:dZ b (if fG c false 0=true then yD c bb (level+1) gen λ d=>.alloc (dC gen) d λ j=>.alloc (Kn v.c (gO c.h level) j) m λ q=>kQ c.t r m q (qP T false 0) else .done (dW false 0)) s cd s2 B):dZ b (Kc c T gen r m level v.c bb) s cd s2 B:=by
 unfold Kc;by_cases hp:fG c false 0=true
 ·rw[if_pos hp] at h;rw[if_pos hp];refine Wd hb (hd hp) ?_;have h2:=Sx (hd hp) h;show dZ b (if(Jn v.c.nd v.c.xs v.c.ys v.c.bm.toNat (gO c.h level) _).isSome=true then _ else _) _ cd s2 B
  have h3:dZ b (.alloc (Kn v.c (gO c.h level) (((s.fZ (dL c s bb gen (level+1))).nodes.length+1:Nat):Int)) m λ q=>kQ c.t r m q (qP T false 0)) ((s.fZ (dL c s bb gen (level+1))).push (dC gen) ((s.nodes.length+(dL c s bb gen (level+1)).length:Nat):Int)) cd s2 B:=h2;rw[mK] at h3;rw[Xr,mK,if_pos (hg hp)];exact h3
 ·rw[if_neg hp] at h;rw[if_neg hp];exact h
end
end
section
def fg(b u:Nat)(c:jG)(T:Tr)(gen:Int)(n level:Nat):Prop:=∀(B:Fr) (r m par:Int) (s:Mm),s.pv=((u,pO b c gen par r ((level:Nat):Int)),E0)->r<=s.nodes.length->m<=s.nodes.length->Ns (oR c T gen (xE c T gen n) r level m) s->jK b 173 ⟨[pt u],[]⟩ [.int .i64 m] B s (oR c T gen (xE c T gen n) r level m)
section
variable{D:List Nat}{A B:Fr}{a:AS}{b u:Nat}{w:World}{f:FuncId}{cap:xK}{t:nV}{c:jG}{g:Int}
variable{T:Tr}{n level:Nat}{par r bb m:Int}{v:dJ}
theorem F8{o:Option Int}(h:¬o.isSome=true):o=none:=by cases o with|none=>rfl|some a=>exact(h rfl).elim
theorem kC.mono{R R':Cd->Mm->Fr->Prop}(h:∀x y z,R x y z->R' x y z){e:Ending}{w':World}:kC b R a B D w e w'->kC b R' a B D w e w'
 | ⟨y,h1,h2,h3⟩=>⟨y,h1,⟨h _ _ _ h2.1,h2.2⟩,h3⟩
theorem td(hV:fg b u c T g n (level+1))(ht:c.t.root<=9223372036854775807)(hlv:level<=100)(hpv:a.pv=((u,pO b c g par r ((level:Nat):Int)),E0))(hbb:bb<=a.mm.nodes.length)(ok:a.Ok)(hm0:a.mm.gM)(hA:∀f∈cH a.L,f∈A)(hB:∀x∈B,x∈A)(hs:SF w D [(b,cX a),(a.u,a.po)] A [] (hU a) w) :
  Calls prog 259 #[pt u,.int .i64 bb] w (kC b (λ c' s' B'=>dZ b (xE c T g (n+1) bb (level+1)) a.mm c' s' B') a B D w):=by
 obtain⟨a0,rfl⟩:∃a0:AS,a=AS.wp a0 u (pO b c g par r ((level:Nat):Int)):=⟨a,sX hpv⟩;have hm:=hm0.small;have ok2:∀o,(AS.wp a0 u o).Ok:=λ o=>⟨ok.fit,⟨ok.mo.nd,ok.mo.cs,ok.mo.two⟩⟩;have hT:tQ b (λ m=>oR c T g (xE c T g n) bb (level+1) m) (AS.wp a0 u (pO b c g r bb ((level+1:Nat):Int))).mm 173 ⟨[pt u],[]⟩ B:=⟨by kernel_rfl,λ m s1 l1 hm1 hns=>hV B bb m r s1 (l1.pv.trans rfl) (by have h1:=l1.len;have h2:bb<=(AS.wp a0 u (pO b c g r bb ((level+1:Nat):Int))).mm.nodes.length:=hbb;omega) hm1 hns⟩;refine enter func259 ntmps259 rfl rfl hs ?_;simp only[bY]
 refine K1h ?_;intro x4;refine Bz ?_;refine gL [0,1,2,3,4,5,6,7,8,9,10,11,12,13,14,15,16,17,18,19,20,21] ?_;refine Bx ?_;refine Th ?_;refine Th ?_;refine dA (i:=12) (hq:=(Fq (k:=level) rf rf (by omega))) (h:=?_);refine J4 ?_;refine zO (h:=λ _=>?_);refine J4 ?_;refine zO (h:=λ _=>?_);refine fy ?_;refine K1g ?_;refine bS (i:=10) (hq:=(jN (a:=AS.wp a0 u (pO b c g r bb ((level+1:Nat):Int))) (A0:=A) (λ w1 hw=>Ay ht hT hbb (ok2 _) hm hA hB hw))) (h:=λ x34 h34=>?_);refine fC (i:=11) (hq:=(cK λ _=>aE rf bU rf (aW _) cW rf dV)) (h:=λ _=>?_);refine dY ?_;refine bJ results259 (λ w hw=>?_);exact⟨x34,rfl,⟨dZ.pv0 ((u,pO b c g par r ((level:Nat):Int)),E0) h34.1,h34.2.1,⟨⟨h34.2.2.le.nodes,h34.2.2.le.cl⟩,h34.2.2.fam⟩⟩,hw.rN⟩
theorem aFZ(hd:U7 b u c T)(ht:c.t.root<=9223372036854775807)(hh:c.h<18446744073709551616)(hlv:level<=100)(hv:rH a.mm.nodes.length a.mm.cs.length v.c)(hf:v.Fit)(hc1:v.xs.length<=v.nd.brC)(hAx:(v.nd.brA,aN v.xs)∈A)(hAy:(v.nd.prA,cY v.ys)∈A)(e:aB a.mm.nodes m=v.c)(hk3:v.c.kind=3)(hns:Ns (oR c T g (xE c T g n) r level m) a.mm)(hpv:a.pv=((u,pO b c g par r ((level:Nat):Int)),E0))(hr:r<=a.mm.nodes.length)(hmm:m<=a.mm.nodes.length)(hk:lY v.c (gO c.h level)=some bb)(hbb:bb<=a.mm.nodes.length)(k4:(aB a.mm.nodes bb).kind=4){sx:Nd}(hs1:sx.key=(aB a.mm.nodes bb).key)(hs2:sx.val=(aB a.mm.nodes bb).val)(ok:a.Ok)(hm0:a.mm.gM)(hA:∀f∈cH a.L,f∈A)(hB:∀x∈B,x∈A)(hs:SF w D [(b,cX a),(a.u,a.po)] A [] (hU a) w) :
  Calls prog 256 #[pt u,.int .i64 m,v.nd.v,.int .i64 (gO c.h level),.int .i64 bb,sx.v] w (kC b (λ c' s' B'=>dZ b (oR c T g (xE c T g n) r level m) a.mm c' s' B') a B D w):=by
 by_cases hkey:(aB a.mm.nodes bb).key=c.key;·have hg:=aCS hns e hk3 hk k4 hkey;rw[<- hs2] at hg;refine(Um (B:=B) (T:=T) hd ht hh (hs1.trans hkey) hv hf hc1 hAx hAy hpv hr hmm hg ok hm0 hA hB hs).mono λ _ _ h=>kC.mono (λ x y z h=>?_) h;refine ib hmm hbb e hk3 hk ?_;rw[if_pos k4,if_pos hkey,<- hs2];exact aDR hg h
 ·have hg:=aDU hns e hk3 hk k4 hkey;refine(zm (B:=B) (T:=T) hd ht hh hlv (λ h=>hkey (hs1.symm.trans h)) hv hf hc1 hAx hAy hpv hr hmm hbb rfl (λ h=>(hg h).1) (λ h=>(hg h).2) ok hm0 hA hB hs).mono λ _ _ h=>kC.mono (λ x y z h=>?_) h;refine ib hmm hbb e hk3 hk ?_;rw[if_pos k4,if_neg hkey];exact aDW hbb (λ h=>(hg h).1) (λ h=>(hg h).2) h
theorem aFK(hV:∀k,n=k+1->fg b u c T g k (level+1))(ht:c.t.root<=9223372036854775807)(hlv:level<=100)(hpv:a.pv=((u,pO b c g par r ((level:Nat):Int)),E0))(hbb:bb<=a.mm.nodes.length)(hns:Ns (xE c T g n bb (level+1)) a.mm)(ok:a.Ok)(hm0:a.mm.gM)(hA:∀f∈cH a.L,f∈A)(hB:∀x∈B,x∈A)(hs:SF w D [(b,cX a),(a.u,a.po)] A [] (hU a) w) :
  Calls prog 259 #[pt u,.int .i64 bb] w (kC b (λ c' s' B'=>dZ b (xE c T g n bb (level+1)) a.mm c' s' B') a B D w):=by
 cases n with
 | zero=>exact(hns rfl).elim
 | succ n=>exact td (hV n rfl) ht hlv hpv hbb ok hm0 hA hB hs
theorem dr(hd:U7 b u c T)(hV:∀k,n=k+1->fg b u c T g k (level+1))(ht:c.t.root<=9223372036854775807)(hh:c.h<18446744073709551616)(hlv:level<=100)(hv:rH a.mm.nodes.length a.mm.cs.length v.c)(hf:v.Fit)(hc1:v.xs.length<=v.nd.brC)(hAx:(v.nd.brA,aN v.xs)∈A)(hAy:(v.nd.prA,cY v.ys)∈A)(e:aB a.mm.nodes m=v.c)(hk3:v.c.kind=3)(hns:Ns (oR c T g (xE c T g n) r level m) a.mm)(hpv:a.pv=((u,pO b c g par r ((level:Nat):Int)),E0))(hr:r<=a.mm.nodes.length)(hmm:m<=a.mm.nodes.length)(ok:a.Ok)(hm0:a.mm.gM)(hA:∀f∈cH a.L,f∈A)(hB:∀x∈B,x∈A)(hs:SF w D [(b,cX a),(a.u,a.po)] A [] (hU a) w) :
  Calls prog 219 #[pt u,.int .i64 m,v.nd.v] w (kC b (λ c' s' B'=>dZ b (oR c T g (xE c T g n) r level m) a.mm c' s' B') a B D w):=by
 obtain⟨a0,rfl⟩:∃a0:AS,a=AS.wp a0 u (pO b c g par r ((level:Nat):Int)):=⟨a,sX hpv⟩;have hm:=hm0.small;have hbb:(lY v.c (gO c.h level)).getD 0<=(AS.wp a0 u (pO b c g par r ((level:Nat):Int))).mm.nodes.length:=Hu hv _;refine enter func219 ntmps219 rfl rfl hs ?_;simp only[bY]
 simp only[Nd.v,Nd.cells];refine J0 ?_;refine bC (λ x5=>?_);refine aI (λ x6=>?_);refine Bz ?_;refine gL [0,1,2,3,4,5,6,7,8,9] ?_;refine bs ?_;refine cB (i:=8) (hq:=(cV (hc:=λ w1 hw=>H2 hh level w1))) (h:=λ x19=>?_);refine J7 ?_;refine J71 ?_;refine aK (cV (hc:=λ w1 hw=>o7 (v:=v) hv (gO c.h level) (hf.Fp (hw.cl (.old (lQ.dS hAx))) (hw.cl (.old (lQ.dS hAy)))))) (λ x23=>?_);refine Ot ?_;refine J8 ?_;refine jF ?_;refine pG ?_;refine aX (λ c27=>?_) (λ c27=>?_);·refine lV ?_;refine bW ?_;refine aD ?_;refine aJ (jN (A0:=A) (λ w1 hw=>ep hd ht hh hv hf hc1 hAx hAy hpv hr hmm (tj hns e hk3 (F8 (by simpa using c27))) ok hm0 hA hB hw)) (λ x32 h32=>?_);refine aM (cK λ _=>aE rf bU rf (aW _) cW rf dV) (λ _=>?_);refine aC ?_;refine bJ results219 (λ w hw=>?_);exact⟨x32,rfl,⟨aDw hmm e hk3 (F8 (by simpa using c27)) (tj hns e hk3 (F8 (by simpa using c27))) h32.1,h32.2⟩,hw.rN⟩
 ·refine bD ?_;refine ai ?_;refine J3 ?_;refine aD ?_;refine aJ (uZ ((lY v.c (gO c.h level)).getD 0) ok hm hA hbb) (λ x39 h39=>?_);refine aI (λ x10=>?_);refine J5 ?_;refine I9 ?_;refine Fe ?_;refine aX (λ c42=>?_) (λ c42=>?_);·refine lV ?_;refine bW ?_;refine Jh ?_;refine bW ?_;refine aJ (jN (A0:=A) (λ w1 hw=>aFZ hd ht hh hlv hv hf hc1 hAx hAy e hk3 hns hpv hr hmm (sV (by simpa using c27)) hbb (by rw[dD];exact c42) (sx:=((aV (bM a0.L) ((lY v.c (gO c.h level)).getD 0)).at_ x39.1 x39.2).nd) (by rw[dD];rfl) (by rw[dD];rfl) ok hm0 hA hB hw)) (λ x49 h49=>?_);refine aM (cK λ _=>aE rf bU rf (aW _) cW rf dV) (λ _=>?_);refine aC ?_;refine bJ results219 (λ w hw=>?_);exact⟨x49,rfl,h49,hw.rN⟩
  ·refine mD ?_;refine K0y ?_;refine iX ?_;refine nZ ?_;refine n5 ?_;refine dY ?_;refine aX (λ c56=>?_) (λ c56=>?_);·exact absurd (Mq hns e hk3 (sV (by simpa using c27)) (by rw[dD];exact c42)).1.2 (by rw[dD];exact c56)
   ·refine Ix ?_;refine aJ (jN (A0:=A) (λ w1 hw=>aFK hV ht hlv hpv hbb (Mq hns e hk3 (sV (by simpa using c27)) (by rw[dD];exact c42)).2 ok hm0 hA hB hw)) (λ x72 h72=>?_);refine aM (cK λ _=>aE rf bU rf (aW _) cW rf dV) (λ _=>?_);refine aC ?_;refine bJ results219 (λ w hw=>?_);exact⟨x72,rfl,⟨ib hmm hbb e hk3 (sV (by simpa using c27)) (by rw[if_neg (by rw[dD];exact c42),if_pos (Mq hns e hk3 (sV (by simpa using c27)) (by rw[dD];exact c42)).1];exact h72.1),h72.2⟩,hw.rN⟩
end
end
section
section
variable{D:List Nat}{A B:Fr}{a:AS}{b u:Nat}{w:World}{f:FuncId}{cap:xK}{t:nV}{c:jG}{g:Int}
theorem Lg{T:Tr}{n level:Nat}(hd:U7 b u c T)(hV:∀k,n=k+1->fg b u c T g k (level+1))(ht:c.t.root<=9223372036854775807)(hh:c.h<18446744073709551616)(hlv:level<=100):fg b u c T g n level:=by
 intro B r m par s hpv hr hmm hns a D A w em ok hm0 hA hB hw0;subst em;refine K1c ?_;intro hm;obtain⟨a0,rfl⟩:∃a0:AS,a=AS.wp a0 u (pO b c g par r ((level:Nat):Int)):=⟨a,sX hpv⟩;have nm:=uB ok m;have k36:=vr hns (dD (a:=AS.wp a0 u (pO b c g par r ((level:Nat):Int))) m);refine enter func173 ntmps173 rfl rfl hw0 ?_;simp only[bY]
 refine K1h ?_;intro x4;refine aC ?_;refine ai ?_;refine J3 ?_;refine aD ?_;refine aJ (uZ m ok hm hA hmm) (λ x12 h12=>?_);refine aI (λ x5=>?_);refine J5 ?_;refine I9 ?_;refine Kb2 ?_;refine iC ?_;refine aX (λ c15=>?_) (λ c15=>?_);·rcases k36 with k|k<;>exact absurd (k.symm.trans c15) (by decide)
 ·refine iC ?_;refine aX (λ c41=>?_) (λ c41=>?_);·refine lV ?_;refine bW ?_;refine aJ (jN (A0:=(x12.1,aN (aV (bM a0.L) m).xs)::(x12.2,cY (aV (bM a0.L) m).ys)::A) (hA:=E0s) (λ w1 hw=>tm (T:=T) (v:=(aV (bM a0.L) m).at_ x12.1 x12.2) hd ht nm (dJ.Vl (rF ok.fit.all m) _ _) (Nat.le_refl _) (Fo (v:=(aV (bM a0.L) m).at_ x12.1 x12.2) hns (dD m) c41).1 (.head _) (.tail _ (.head _)) hpv hr hmm (Fo (v:=(aV (bM a0.L) m).at_ x12.1 x12.2) hns (dD m) c41).2 ok hm0 (λ f hf=>.tail _ (.tail _ (hA f hf))) (λ f hf=>.tail _ (.tail _ (hB f hf))) hw)) (λ x46 h46=>?_);refine aM (cK λ _=>aE rf bU rf (aW _) cW rf dV) (λ _=>?_);refine aC ?_;refine bJ results173 (λ w hw=>?_);exact⟨x46,rfl,⟨w8 (v:=(aV (bM a0.L) m).at_ x12.1 x12.2) hmm (dD m) c41 (Fo (v:=(aV (bM a0.L) m).at_ x12.1 x12.2) hns (dD m) c41).1 (Fo (v:=(aV (bM a0.L) m).at_ x12.1 x12.2) hns (dD m) c41).2 h46.1,h46.2⟩,hw.rN⟩
  ·refine iC ?_;refine aX (λ c47=>?_) (λ c47=>?_);·refine lV ?_;refine bW ?_;refine aJ (jN (A0:=(x12.1,aN (aV (bM a0.L) m).xs)::(x12.2,cY (aV (bM a0.L) m).ys)::A) (hA:=E0s) (λ w1 hw=>dr (T:=T) (n:=n) (v:=(aV (bM a0.L) m).at_ x12.1 x12.2) hd hV ht hh hlv nm (dJ.Vl (rF ok.fit.all m) _ _) (Nat.le_refl _) (.head _) (.tail _ (.head _)) (dD m) c47 hns hpv hr hmm ok hm0 (λ f hf=>.tail _ (.tail _ (hA f hf))) (λ f hf=>.tail _ (.tail _ (hB f hf))) hw)) (λ x52 h52=>?_);refine aM (cK λ _=>aE rf bU rf (aW _) cW rf dV) (λ _=>?_);refine aC ?_;refine bJ results173 (λ w hw=>?_);exact⟨x52,rfl,h52,hw.rN⟩
   ·exact(k36.elim c41 c47).elim
theorem qf{T:Tr}(hd:U7 b u c T)(ht:c.t.root<=9223372036854775807)(hh:c.h<18446744073709551616):∀(n level:Nat),level+n<=100->fg b u c T g n level
 | 0,level,h=>Lg hd (λ k e=>by cases e) ht hh (by omega)
 | n+1,level,h=>Lg hd (λ k e=>by cases e;exact qf hd ht hh n (level+1) (by omega)) ht hh (by omega)
theorem bc{T:Tr}(hd:U7 b u c T)(ht:c.t.root<=9223372036854775807)(hh:c.h<18446744073709551616){g par i l r:Int}{s:Mm}(hpv:s.pv=((u,pO b c g par i l),E0))(hr:r<=s.nodes.length):jK b 135 ⟨[pt u],[]⟩ [.int .i64 r] B s (.node r λ nr=>xE c T nr.gen 12 r 0):=by
 intro a D A w em ok hm0 hA hB hw0;subst em;refine K1c ?_;intro hm;obtain⟨a0,rfl⟩:∃a0:AS,a=AS.wp a0 u (pO b c g par i l):=⟨a,sX hpv⟩;have ok2:∀o,(AS.wp a0 u o).Ok:=λ o=>⟨ok.fit,⟨ok.mo.nd,ok.mo.cs,ok.mo.two⟩⟩;have hT:tQ b (λ m=>oR c T (aV (bM a0.L) r).nd.gen (xE c T (aV (bM a0.L) r).nd.gen 11) r 0 m) (AS.wp a0 u (pO b c (aV (bM a0.L) r).nd.gen 0 r 0)).mm 173 ⟨[pt u],[]⟩ B:=⟨by kernel_rfl,λ m s1 l1 hm1 hns=>qf hd ht hh 11 0 (by decide) B r m 0 s1 (l1.pv.trans rfl) (by have h1:=l1.len;have h2:r<=(AS.wp a0 u (pO b c (aV (bM a0.L) r).nd.gen 0 r 0)).mm.nodes.length:=hr;omega) hm1 hns⟩;refine enter func135 ntmps135 rfl rfl hw0 ?_;simp only[bY]
 refine K1h ?_;intro x4;refine aC ?_;refine lV ?_;refine Yn ?_;refine J3 ?_;refine aD ?_;refine aJ (uZ r ok hm hA hr) (λ x12 h12=>?_);refine wE ?_;refine O9 ?_;refine lV ?_;refine Jh ?_;refine Yn ?_;refine pJ (λ _=>?_);refine Yn ?_;refine pJ (λ _=>?_);refine O9 ?_;refine K1g ?_;refine bS (i:=10) (hq:=(jN (a:=AS.wp a0 u (pO b c (aV (bM a0.L) r).nd.gen 0 r 0)) (A0:=A) (λ w1 hw=>Ay ht hT hr (ok2 _) hm hA hB hw))) (h:=λ x36 h36=>?_);refine fC (i:=11) (hq:=(cK λ _=>aE rf bU rf (aW _) cW rf dV)) (h:=λ _=>?_);refine dY ?_;refine bJ results135 (λ w hw=>?_);exact⟨x36,rfl,⟨⟨hr,by rw[dD];exact dZ.pv0 ((u,pO b c g par i l),E0) h36.1⟩,h36.2.1,⟨⟨h36.2.2.le.nodes,h36.2.2.le.cl⟩,h36.2.2.fam⟩⟩,hw.rN⟩
theorem rv(ht:c.t.root<=9223372036854775807)(hh:c.h<18446744073709551616):∀n,U7 b u c (mF c n)
 | 0=>z7
 | n+1=>wb ht λ _ _ _ _ _ _ _ hpv hr=>bc (rv ht hh n) ht hh hpv hr
end
end
section
section
variable{D:List Nat}{A B:Fr}{a:AS}{b u:Nat}{w:World}{f:FuncId}{cap:xK}{t:nV}{c:jG}
theorem jg{n:Nat}(hd:U7 b u c (mF c n))(hk:c.key.size<=64)(hp:0<=c.pol/\c.pol<=3){g par i l:Int}{s:Mm}{b1 b2 b3:Nat}(hpv:s.pv=((u,pO b c g par i l),E0)):jK b 96 [pt b1,pt b2,pt b3] [] (bx b1 [.string c.key]::bx b2 [.int .i64 c.pol]::bx b3 [pt u]::B) s (mF c n):=by
 intro a D A w em ok hm0 hA hB hw0;subst em;refine K1c ?_;intro hm;refine enter func96 ntmps96 rfl rfl hw0 ?_;simp only[bY];refine J0 ?_;refine aI (λ x3=>?_);refine Bz ?_;refine J0 ?_;refine aA (iA b1 [.string c.key] 0 hB rfl) rfl ?_;refine aK (cV (hc:=λ w1 hw=>wB c.key w1)) (λ x5=>?_);refine fl ?_;(refine kT 7 (λ g7=>?_) (λ g7=>?_)<;>(first|refine bG ?_|(refine aG ?_;refine aA (iA b2 [.int .i64 c.pol] 0 hB rfl) rfl ?_)));all_goals (refine vb ?_;refine aD ?_)
 all_goals (first|refine bG ?_|(refine kT 11 (λ g11=>?_) (λ g11=>?_)<;>(first|refine bG ?_|(refine aG ?_;refine aA (iA b2 [.int .i64 c.pol] 0 hB rfl) rfl ?_))))
 all_goals (refine vd ?_;refine aC ?_)
 all_goals
 refine aX (λ c14=>?_) (λ c14=>?_)
 ·all_goals (refine J0 ?_;refine bX ?_;refine aK (cV (hc:=λ w1 hw=>rP erR w1)) (λ x16=>?_);refine aM (cK λ _=>aE rf bU rf (aW _) cW rf dV) (λ _=>?_);refine aC ?_)
  all_goals refine bJ results96 (λ w hw=>?_);exfalso;omega
 ·try exact nv c14
  all_goals (refine Kb5 ?_;refine aA (iA b3 [pt u] 0 hB rfl) rfl ?_;refine aJ (jN (λ w1 hw=>hd a _ A _ w1 g par i l hpv ok hm hA hB hw)) (λ x18 h18=>?_);refine aM (cK λ _=>aE rf bU rf (aW _) cW rf dV) (λ _=>?_);refine aC ?_)
  all_goals refine bJ results96 (λ w hw=>?_);exact⟨x18,rfl,h18,hw.rN⟩
theorem E6{m n:Nat}{key:ByteArray}{val pol exp:Int}(ht:t.root<=9223372036854775807)(hm0:m<18446744073709551616)(hk:key.size<=64)(hp:0<=pol/\pol<=3)(hT:∀o:Nat×Obj,Ns (mF ⟨t,key,tP key m,val,pol,exp⟩ n) (AS.wp a o.1 o.2).mm)(ok:a.Ok)(hm:a.mm.gM)(hA:∀f∈cH a.L,f∈A)(hB:∀x∈B,x∈A)(hs:SF w D [(b,cX a)] A [] (iS a) w) :
  Calls prog 72 #[.iface 51 (.pointer (some ⟨b,0,none⟩)),.agg ⟨[.int .i64 t.root,.bool t.ro]⟩,.int .u64 (m:Int),.string key,.int .u64 val,.int .i64 pol,.int .u64 exp] w λ e w'=>∃x:Nat×Cd×Fr×AS,e=.returned (.pointer (some ⟨x.1,0,none⟩))/\(∃o:Nat×Obj,pF b (Ct.iR (mF ⟨t,key,tP key m,val,pol,exp⟩ n) (AS.wp a o.1 o.2).mm) (AS.wp a o.1 o.2) B x.2/\fB (Ct.iR (mF ⟨t,key,tP key m,val,pol,exp⟩ n) (AS.wp a o.1 o.2).mm).1=true)/\SF w D [(x.1,tO b x.2.1 0),(x.2.2.2.u,x.2.2.2.po),(b,cX x.2.2.2)] [] x.2.2.1 (hU x.2.2.2) w':=by
 have h0:=L7 key m;have okw:∀u o,(AS.wp a u o).Ok:=λ u o=>⟨ok.fit,⟨ok.mo.nd,ok.mo.cs,ok.mo.two⟩⟩;refine enter func72 ntmps72 rfl rfl hs ?_;simp only[bY]
 refine J0 ?_;refine bC (λ x8=>?_);refine bC (λ x10=>?_);refine bC (λ x12=>?_);refine nN ?_;refine wK [15,16,17,18,19,20,21,22,23,24,25,26,27] (λ j:Nat×Nat=>[(15,.pointer (some ⟨j.1,0,none⟩))]) (λ _=>True) (λ j=>[(j.1,.cells ⟨[pt j.2]⟩ 199 (0,0)),(j.2,pO b ⟨t,key,tP key m,val,pol,exp⟩ 0 0 0 0),(x12,.cells ⟨[.int .i64 pol]⟩ 3 (0,0)),(x10,.cells ⟨[.string key]⟩ 9 (0,0)),(x8,.cells ⟨[.int .i64 t.root,.bool t.ro]⟩ 72 (0,0)),(b,cX a)]) (λ _=>[]) (λ _=>iS a) (by decide) (λ _=>by exact rfl) ?_ (λ j f hx=>?_)
 ·refine oG (.one 0 [] (.one 1 [] (.one 2 [] (.one 3 [] (.one 4 [] (.one 5 [] (.one 7 [] (.one 8 [] (.one 9 [] (.two 6 [1,3,8] (.one 10 [] (.two 11 [] (.one 12 [1,3,4,8] (.one 13 [] .nil)) 0 [] (.two 12 [1,3,4,8] (.one 11 [] (.one 13 [] .nil)) 0 [] .nil))) 0 [] (.two 12 [1,3,4,8] (.one 6 [1,3,8] (.one 10 [] (.one 11 [] (.one 13 [] .nil)))) 0 [] .nil))))))))))) ?_;refine aR ?_;refine cJ ?_;refine kD ?_;refine cJ ?_;refine cJ ?_;refine Bx ?_;refine cJ ?_;refine aR ?_;refine nR (E:=[6,12]) (by decide +kernel) ((.cons ?_ (.cons ?_ .nil)))
  ·refine rE (i:=6) (hq:=(cV (hc:=λ w1 hw=>vU key hm0 (by omega) w1))) (h:=λ x22=>?_);refine kD ?_;refine nR (E:=[11,12]) (by decide +kernel) ((.cons ?_ (.cons ?_ .nil)));·refine aBh (i:=11) (h:=λ x27=>?_);refine cB (i:=12) (hq:=(cK λ _=>qN (z:=.pointer none) (by kernel_rfl) rfl)) (h:=λ x15=>?_);refine Kg ?_;refine rX ((x15,x27)) ?_ (hw1:=E0y);·trivial
   ·refine rE (i:=12) (hq:=(cK λ _=>qN (z:=.pointer none) (by kernel_rfl) rfl)) (h:=λ x15=>?_);refine K0 (h:=λ x27=>?_);refine K1e ?_;·trivial
  ·refine rE (i:=12) (hq:=(cK λ _=>qN (z:=.pointer none) (by kernel_rfl) rfl)) (h:=λ x15=>?_);refine cB (i:=6) (hq:=(cV (hc:=λ w1 hw=>vU key hm0 (by omega) w1))) (h:=λ x22=>?_);refine kD ?_;refine K0 (h:=λ x27=>?_);refine K1e ?_;·trivial
 refine K0a ?_;refine J2 ?_;refine K0q ?_;(refine aK (aQ.pre (λ w h=>(show SF _ _ [_,_,(b,cX a)] _ ([bx x10 [.string key],bx x12 [.int .i64 pol],bx j.1 [pt j.2]]:Fr) _ w from(((h.bP .head).bP (.tail .head)).bP (.tail .head)).gN 0 1)) (Pq (V:=λ x:Nat×Cd×Fr×AS=>.pointer (some ⟨x.1,0,none⟩)) (hs:=[(b,cX (AS.wp a j.2 (pO b ⟨t,key,tP key m,val,pol,exp⟩ 0 0 0 0))),(j.2,pO b ⟨t,key,tP key m,val,pol,exp⟩ 0 0 0 0)]) (os:=hU (AS.wp a j.2 (pO b ⟨t,key,tP key m,val,pol,exp⟩ 0 0 0 0))) (hs':=λ x=>[(b,cX x.2.2.2),(x.2.2.2.u,x.2.2.2.po)]) (Hc:=λ x=>[(x.1,tO b x.2.1 0)]) (os':=λ x=>hU x.2.2.2) (Oc:=λ _=>[]) (Fc:=λ x=>x.2.2.1) (A0:=[bx x10 [.string key],bx x12 [.int .i64 pol],bx j.1 [pt j.2]]++A) (hA:=bL.Iu) (hc:=λ w1 hw=>C0 (a:=AS.wp a j.2 (pO b ⟨t,key,tP key m,val,pol,exp⟩ 0 0 0 0)) (B:=[bx x10 [.string key],bx x12 [.int .i64 pol],bx j.1 [pt j.2]]++B) (hT (j.2,pO b ⟨t,key,tP key m,val,pol,exp⟩ 0 0 0 0)) ⟨by kernel_rfl,λ s1 l _=>jg (c:=⟨t,key,tP key m,val,pol,exp⟩) (rv ht h0 n) hk hp (l.pv.trans rfl)⟩ (okw _ _) hm (λ f hf=>List.mem_append_right _ (hA f hf)) (rW hB) hw))) (λ x30=>?_);try (refine eF (λ h30=>?_)));refine J1 ?_;refine aP results72 (λ w hw=>?_);exact⟨(x30.1,x30.2.1,x30.2.2.1++[bx x10 [.string key],bx x12 [.int .i64 pol],bx j.1 [pt j.2]],x30.2.2.2),rfl,⟨(j.2,pO b ⟨t,key,tP key m,val,pol,exp⟩ 0 0 0 0),pF.dg h30.1,h30.2⟩,hw.ret E0d (aT.bA λ f hf=>hf) E0f⟩
end
end
end Go.Proofs.YthblobahelfefaaGreatDoor

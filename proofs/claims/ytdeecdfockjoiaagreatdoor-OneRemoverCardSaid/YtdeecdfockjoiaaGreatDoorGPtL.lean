/- Merged. -/
import Derived.Test.YtdeecdfockjoiaaGreatDoorGPt4
import Derived.Test.YtdeecdfockjoiaaGreatDoorGShort
set_option linter.unusedSimpArgs false
set_option linter.unusedVariables false
namespace Go.Proofs.YtdeecdfockjoiaaGreatDoor
open Go.Proofs.Tryz
open Go Go.RowKit Go.Ct
section
theorem bw(o:Option (List Pr))(h:Int)(x:Option Addr×Nat):(wh o h x).brN=([]:List Int).length/\(wh o h x).prN=(jf o).length:=by cases o<;>exact⟨rfl,rfl⟩
theorem aAH{o:Option (List Pr)}(ho:o.isSome=true)(h:Int)(x:Option Addr×Nat):(wh o h x).prA=x.1:=by cases o with
 | none=>cases ho
 | some q=>rfl
theorem aAP{m c:Nat}{o:Option (List Pr)}{h:Int}(x:Option Addr×Nat)(hh:∃b:Nat,h=(b:Int)/\b<18446744073709551616):oP m c {(wh o h x).c [] (jf o) with main:=0,prev:=0,status:=0}:=by
 cases o with
 | none=>exact⟨fN _,fN _,fN _,(λ r hr=>nomatch hr),fN _,fN _,fN _,⟨0,rfl,by decide⟩,⟨0,rfl,by decide⟩⟩
 | some q=>exact⟨fN _,fN _,fN _,(λ r hr=>nomatch hr),fN _,fN _,fN _,⟨0,rfl,by decide⟩,hh⟩
theorem aAE(l:List Int)(ys:List Pr)(d:Nd)(k:ByteArray)(u:Int):(jf (iY d l ys k u)).length<=ys.length+1:=by
 have:=Mt ys k u;unfold iY;split;·exact this
 ·exact Nat.zero_le _
section
variable{D:List Nat}{A B:Fr}{a:AS}{b u:Nat}{w:World}{f:FuncId}{cap:yK}{t:oB}{c:jQ}
theorem db{T:Tr}(hd:U9 b u c T)(ht:c.t.root<=9223372036854775807){g par r l m:Int}{v:dW}(hv:oP a.mm.nodes.length a.mm.cs.length v.c)(hf:v.Fit)(hc2:v.ys.length<=v.nd.dF)(hy:v.ys.length<=1000)(hAx:(v.nd.brA,aT v.xs)∈A)(hAy:(v.nd.prA,dF v.ys)∈A)(hpv:a.pv=((u,pO b c g par r l),Hv))(hr:r<=a.mm.nodes.length)(hmm:m<=a.mm.nodes.length)
  (hin:fQ c (cS v.ys c.key).isSome ((cS v.ys c.key).getD 0)=true->(iY v.nd v.xs v.ys c.key c.val).isSome=true) (ok:a.Ok) (hm0:a.mm.iL) (hA:∀f∈dD a.L,f∈A) (hB:∀x∈B,x∈A) (hs:SF w D [(b,dV a),(a.u,a.po)] A [] (iS a) w) :
  Calls prog 210 #[pt u,.int .i64 m,v.nd.v] w (jP b (λ c' s' B'=>eH b (if fQ c (cS v.ys c.key).isSome ((cS v.ys c.key).getD 0)=true then .alloc (grV v.c c.key c.val) m λ q=>iN c.t r m q (uN T (cS v.ys c.key).isSome ((cS v.ys c.key).getD 0)) else .done (eG (cS v.ys c.key).isSome ((cS v.ys c.key).getD 0))) a.mm c' s' B') a B D w):=by
 obtain⟨a0,rfl⟩:∃a0:AS,a=AS.wp a0 u (pO b c g par r l):=⟨a,uA hpv⟩;have hm:=hm0.small;have hpn:=hf.prN;have hgl:=aAE v.xs v.ys v.nd c.key c.val;refine enter func210 ntmps210 rfl rfl hs ?_;simp only[cN]
 simp only[Nd.v,Nd.cells];refine J0 ?_;refine bC (λ x5=>?_);refine aJ (λ x6=>?_);refine pJ ?_;refine K3w ?_;refine hY ?_;refine mD ?_;refine bR (i:=6) (hq:=(cV (hc:=λ w1 hw=>by rw[hpn];exact Jl (c:=v.nd.dF) c.key (hw.cl (.old (mU.eU hAy))) (by omega)))) (h:=λ x18=>?_);refine Kc3 ?_;refine Vz ?_;refine qJ ?_;refine aB ?_;refine aH (cV (hc:=λ w1 hw=>rC (hw.st.at bI) _ _)) (λ x24=>?_);refine pU ?_;refine aX (λ c25=>?_) (λ c25=>?_);·refine lV ?_;refine aH (cV (hc:=λ w1 hw=>qV _ _ w1)) (λ x28=>?_);refine aM (cC λ _=>aC rf bI rf (aY _) cY rf dM) (λ _=>?_);refine aE ?_;refine bF results210 (λ w hw=>?_);refine⟨(fE (eG (cS v.ys c.key).isSome ((cS v.ys c.key).getD 0)),[],AS.wp a0 u (pO b c g par r l)),rfl,⟨?_,ok,AS.fF.refl _⟩,hw.rI⟩;rw[if_neg (by simpa using c25)];exact⟨rfl,rfl⟩
 ·refine lL ?_;refine Vs [9,10,29,30,31,32,33,34,35,36,37,38,39,40,41] (λ j:Nat×Option Addr×Nat=>[(9,pt j.1),(10,.bool (iY v.nd v.xs v.ys c.key c.val).isSome)]) (λ _=>True) (λ j=>[(j.1,.cells ⟨(wh (iY v.nd v.xs v.ys c.key c.val) v.nd.hash j.2).cells⟩ 194 (0,0))]) (λ j=>[(j.2.1,dF (jf (iY v.nd v.xs v.ys c.key c.val)))]) (λ _=>[]) (by decide) (λ _=>by exact rfl) (λ _=>by simp only[List.nil_append,List.cons_append];exact rfl) (λ _=>by simp only[List.nil_append,List.cons_append];exact rfl) (λ _=>by simp only[List.nil_append,List.cons_append];exact rfl) ?_ (λ j f hx=>?_)
  ·refine kR (.one 0 [] (.one 1 [] (.one 2 [] (.one 3 [] (.one 4 [] (.one 5 [] (.one 6 [] (.one 7 [] (.one 8 [] (.two 9 [] (.one 10 [] (.one 11 [] (.one 12 [] (.one 13 [0,4,8] (.one 14 [] (.one 15 [] .nil)))))) 0 [] (.two 13 [0,4,8] (.one 9 [] (.one 10 [] (.one 11 [] (.one 12 [] (.one 14 [] (.one 15 [] .nil)))))) 0 [] .nil))))))))))) ?_;refine bH ?_;refine Y0 ?_;refine jF (E:=[9,13]) (by decide +kernel) ((.cons ?_ (.cons ?_ .nil)));·refine nM (i:=9) (hq:=(cF (hc:=λ w1 hw=>V0 (n:=v.nd) (xs:=v.xs) (ys:=v.ys) c.key c.val (hf.xZ (hw.cl (.old (mU.eU hAx))) (hw.cl (.old (mU.eU hAy)))) hc2 (by omega)))) (h:=λ x39 h39=>?_);refine Kc3 ?_;refine nY (h:=λ x9=>?_);refine S9 ?_;refine lZ ((x9,x39)) ?_;·trivial
   ·refine rB (i:=13) (h:=λ x9=>?_);refine bE (i:=9) (hq:=(cF (hc:=λ w1 hw=>V0 (n:=v.nd) (xs:=v.xs) (ys:=v.ys) c.key c.val (hf.xZ (hw.cl (.old (mU.eU hAx))) (hw.cl (.old (mU.eU hAy)))) hc2 (by omega)))) (h:=λ x39 h39=>?_);refine Kc3 ?_;refine S9 ?_;refine lZ ((x9,x39)) ?_;·trivial
  refine K0c ?_;refine lV ?_;refine bO ?_;refine Df ?_;refine aB ?_;refine aI (gK (A0:=(j.2.1,dF (jf (iY v.nd v.xs v.ys c.key c.val)))::A) (hA:=bV.l6) (λ w1 hw=>qN (found:=(cS v.ys c.key).isSome) (v:=(cS v.ys c.key).getD 0) (g:=g) (par:=par) (r:=r) (l:=l) (m:=m) (ys:=jf (iY v.nd v.xs v.ys c.key c.val)) (nd:=wh (iY v.nd v.xs v.ys c.key c.val) v.nd.hash j.2) (xs:=[]) hd ht (hin (by simpa using c25)) rfl hr hmm (bw _ _ _).1 (bw _ _ _).2 (Nat.zero_le _) (by omega) (aAP j.2 hv.hash) (.inl rfl) (.inr (by rw[aAH (hin (by simpa using c25))];exact .head _)) ok ⟨Nat.le_trans hm0.1 (by decide),Nat.le_trans hm0.2 (by decide)⟩ (λ f hf=>.tail _ (hA f hf)) (λ f hf=>.tail _ (hB f hf)) hw)) (λ x48 h48=>?_);refine aM (cC λ _=>aC rf bI rf (aY _) cY rf dM) (λ _=>?_);refine aE ?_;refine bF results210 (λ w hw=>?_);refine⟨(x48.1,x48.2.1++[(j.2.1,dF (jf (iY v.nd v.xs v.ys c.key c.val)))],x48.2.2),rfl,⟨?_,h48.2.1,h48.2.2.more λ f hf=>List.mem_append_left _ hf⟩,hw.ret E0a (bM.dB λ f hf=>by simpa using hf) (List.Sublist.refl _)⟩;have h1:=h48.1;rw[if_pos (by simpa using c25)];rw[aDW] at h1;refine eH.more h1 λ y hy=>?_;simp only[List.mem_append,List.mem_cons,List.not_mem_nil,or_false] at hy ⊢
  exact hy.imp .inl id
end
end
section
theorem Yh(v:dW)(k:ByteArray)(u:Int):(iY v.c.nd v.c.xs v.c.ys k u).isSome=(iY v.nd v.xs v.ys k u).isSome:=by unfold iY;simp only[show LV v.c.nd v.c.xs v.c.ys=LV v.nd v.xs v.ys from s7];rfl
section
variable{b:Nat}{c:jQ}{s s2:Mm}{v:dW}{gen r m bb:Int}{level:Nat}{T:Tr}{down:Int->Nat->Tr}{cd:Cd}{B:Fr}
theorem Wx(h:Ns (qM c T gen down r level m) s)(e:aD s.nodes m=v.c):Ns (if v.c.kind=6 then Xg c T r m v.c else if v.c.kind=3 then match iU v.c (eP c.h level) with
  | none=>wz c T r m level v.c
  | some b=>.node b λ nb=>if nb.kind=4 then(if nb.key=c.key then Tk c T r m level v.c nb.val else Vc c T gen r m level v.c b) else if nb.kind=2/\nb.gen=gen then down b (level+1) else .stuck
  else .stuck) s:=by unfold Ns qM at h;rw[Ct.jT,e] at h;exact h
theorem tv(h:Ns (qM c T gen down r level m) s)(e:aD s.nodes m=v.c):v.c.kind=6∨v.c.kind=3:=by
 have h2:=Wx h e;by_cases k:v.c.kind=6;·exact .inl k
 ·by_cases k3:v.c.kind=3;·exact .inr k3
  ·rw[if_neg k,if_neg k3] at h2;exact(h2 rfl).elim
theorem Fy(h:Ns (qM c T gen down r level m) s)(e:aD s.nodes m=v.c)(k:v.c.kind=6):v.ys.length<=1000/\(fQ c (cS v.ys c.key).isSome ((cS v.ys c.key).getD 0)=true->(iY v.nd v.xs v.ys c.key c.val).isSome=true):=by
 have h2:=Wx h e;rw[if_pos k] at h2;unfold Xg at h2;by_cases hl:v.c.ys.length<=1000
 ·rw[if_pos hl,show v.c.ys=v.ys from rfl] at h2;refine⟨hl,λ hp=>?_⟩;rw[if_pos hp] at h2;have e5:=Yh v c.key c.val;rw[show v.c.ys=v.ys from rfl] at e5;rw[e5] at h2;by_cases hg:(iY v.nd v.xs v.ys c.key c.val).isSome=true
  ·exact hg
  ·rw[if_neg hg] at h2;exact(h2 rfl).elim
 ·rw[if_neg hl] at h2;exact(h2 rfl).elim
theorem pb(h:Ns (qM c T gen down r level m) s)(e:aD s.nodes m=v.c)(k:v.c.kind=3)(hk:iU v.c (eP c.h level)=none)(hp:fQ c false 0=true):(W1 v (eP c.h level) ((s.nodes.length+1:Nat):Int)).isSome=true:=by
 have h2:=Wx h e;rw[if_neg (by rw[k];decide),if_pos k,hk] at h2;unfold wz Ns at h2;dsimp only at h2;rw[if_pos hp,Ct.jT,y5] at h2;by_cases hg:(W1 v (eP c.h level) ((s.nodes.length+1:Nat):Int)).isSome=true;·exact hg
 ·rw[if_neg hg] at h2;exact(h2 rfl).elim
theorem je(h:Ns (qM c T gen down r level m) s)(e:aD s.nodes m=v.c)(k:v.c.kind=3)(hk:iU v.c (eP c.h level)=some bb):Ns (if(aD s.nodes bb).kind=4 then(if(aD s.nodes bb).key=c.key then Tk c T r m level v.c (aD s.nodes bb).val else Vc c T gen r m level v.c bb) else if(aD s.nodes bb).kind=2/\(aD s.nodes bb).gen=gen then down bb (level+1) else .stuck) s:=by have h2:=Wx h e;rw[if_neg (by rw[k];decide),if_pos k,hk] at h2;exact h2
theorem aBd(h:Ns (qM c T gen down r level m) s)(e:aD s.nodes m=v.c)(k:v.c.kind=3)(hk:iU v.c (eP c.h level)=some bb)(k4:(aD s.nodes bb).kind=4)(hkey:(aD s.nodes bb).key=c.key)(hp:fQ c true (aD s.nodes bb).val=true):(nQ v (eP c.h level) ((s.nodes.length+1:Nat):Int)).isSome=true:=by
 have h2:=je h e k hk;rw[if_pos k4,if_pos hkey] at h2;unfold Tk Ns at h2;rw[if_pos hp,Ct.jT,La] at h2;by_cases hg:(nQ v (eP c.h level) ((s.nodes.length+1:Nat):Int)).isSome=true;·exact hg
 ·rw[if_neg hg] at h2;exact(h2 rfl).elim
theorem aAQ(h:Ns (qM c T gen down r level m) s)(e:aD s.nodes m=v.c)(k:v.c.kind=3)(hk:iU v.c (eP c.h level)=some bb)(k4:(aD s.nodes bb).kind=4)(hkey:(aD s.nodes bb).key≠c.key)(hp:fQ c false 0=true):lS c (aD s.nodes bb) (level+1) gen bb/\(nQ v (eP c.h level) ((dI s c bb gen (level+1)+1:Nat):Int)).isSome=true:=by
 have h2:=je h e k hk;rw[if_pos k4,if_neg hkey] at h2;unfold Vc at h2;rw[if_pos hp] at h2;have hd:=ul h2;refine⟨hd,?_⟩;unfold Ns at h2;rw[o5 hd,Ct.jT,La,nT] at h2;by_cases hg:(nQ v (eP c.h level) ((dI s c bb gen (level+1)+1:Nat):Int)).isSome=true
 ·exact hg
 ·rw[if_neg hg] at h2;exact(h2 rfl).elim
theorem Np(h:Ns (qM c T gen down r level m) s)(e:aD s.nodes m=v.c)(k:v.c.kind=3)(hk:iU v.c (eP c.h level)=some bb)(k4:(aD s.nodes bb).kind≠4):((aD s.nodes bb).kind=2/\(aD s.nodes bb).gen=gen)/\Ns (down bb (level+1)) s:=by
 have h2:=je h e k hk;rw[if_neg k4] at h2;by_cases hg:(aD s.nodes bb).kind=2/\(aD s.nodes bb).gen=gen;·rw[if_pos hg] at h2;exact⟨hg,h2⟩
 ·rw[if_neg hg] at h2;exact(h2 rfl).elim
theorem uo(hm:m<=s.nodes.length)(e:aD s.nodes m=v.c)(k:v.c.kind=6)(hl:v.ys.length<=1000)(hg:fQ c (cS v.ys c.key).isSome ((cS v.ys c.key).getD 0)=true->(iY v.nd v.xs v.ys c.key c.val).isSome=true)
  (h:eH b (if fQ c (cS v.ys c.key).isSome ((cS v.ys c.key).getD 0)=true then .alloc (grV v.c c.key c.val) m λ q=>iN c.t r m q (uN T (cS v.ys c.key).isSome ((cS v.ys c.key).getD 0)) else .done (eG (cS v.ys c.key).isSome ((cS v.ys c.key).getD 0))) s cd s2 B):eH b (qM c T gen down r level m) s cd s2 B:=by
 refine⟨hm,?_⟩;rw[e];dsimp only;rw[if_pos k];unfold Xg;rw[if_pos (show v.c.ys.length<=1000 from hl)];have e5:=Yh v c.key c.val;rw[show v.c.ys=v.ys from rfl] at e5 ⊢;by_cases hp:fQ c (cS v.ys c.key).isSome ((cS v.ys c.key).getD 0)=true
 ·rw[if_pos hp] at h;rw[if_pos hp,e5,if_pos (hg hp)];exact h
 ·rw[if_neg hp] at h;rw[if_neg hp];exact h
theorem aAL(hm:m<=s.nodes.length)(e:aD s.nodes m=v.c)(k:v.c.kind=3)(hk:iU v.c (eP c.h level)=none)(hg:fQ c false 0=true->(W1 v (eP c.h level) ((s.nodes.length+1:Nat):Int)).isSome=true)
  (h:eH b (if fQ c false 0=true then .alloc (gA c.h c.key c.val) 0 λ s=>.alloc (az v.c (eP c.h level) s) m λ q=>iN c.t r m q (uN T false 0) else .done (eG false 0)) s cd s2 B):eH b (qM c T gen down r level m) s cd s2 B:=by
 refine⟨hm,?_⟩;rw[e];dsimp only;rw[if_neg (by rw[k];decide),if_pos k,hk];dsimp only;unfold wz;by_cases hp:fQ c false 0=true;·rw[if_pos hp] at h;rw[if_pos hp];show eH b (if(O0 v.c.nd v.c.xs v.c.ys v.c.bm.toNat (eP c.h level) ((s.nodes.length+1:Nat):Int)).isSome=true then _ else _) _ cd s2 B;rw[y5,if_pos (hg hp)];exact h
 ·rw[if_neg hp] at h;rw[if_neg hp];exact h
theorem dt(hm:m<=s.nodes.length)(hb:bb<=s.nodes.length)(e:aD s.nodes m=v.c)(k:v.c.kind=3)(hk:iU v.c (eP c.h level)=some bb)
  (h:eH b (if(aD s.nodes bb).kind=4 then(if(aD s.nodes bb).key=c.key then Tk c T r m level v.c (aD s.nodes bb).val else Vc c T gen r m level v.c bb) else if(aD s.nodes bb).kind=2/\(aD s.nodes bb).gen=gen then down bb (level+1) else .stuck) s cd s2 B):eH b (qM c T gen down r level m) s cd s2 B:=by refine⟨hm,?_⟩;rw[e];dsimp only;rw[if_neg (by rw[k];decide),if_pos k,hk];exact⟨hb,h⟩
theorem aAy{u:Int}(hg:fQ c true u=true->(nQ v (eP c.h level) ((s.nodes.length+1:Nat):Int)).isSome=true)
  (h:eH b (if fQ c true u=true then .alloc (gA c.h c.key c.val) 0 λ s'=>.alloc (Cj v.c (eP c.h level) s') m λ q=>iN c.t r m q (uN T true u) else .done (eG true u)) s cd s2 B):eH b (Tk c T r m level v.c u) s cd s2 B:=by
 unfold Tk;by_cases hp:fQ c true u=true;·rw[if_pos hp] at h;rw[if_pos hp];show eH b (if(Cy v.c.nd v.c.xs v.c.ys v.c.bm.toNat (eP c.h level) ((s.nodes.length+1:Nat):Int)).isSome=true then _ else _) _ cd s2 B;rw[La,if_pos (hg hp)];exact h
 ·rw[if_neg hp] at h;rw[if_neg hp];exact h
theorem aAu(hb:bb<=s.nodes.length)(hd:fQ c false 0=true->lS c (aD s.nodes bb) (level+1) gen bb)(hg:fQ c false 0=true->(nQ v (eP c.h level) ((dI s c bb gen (level+1)+1:Nat):Int)).isSome=true)
  (h:eH b (if fQ c false 0=true then yH c bb (level+1) gen λ d=>.alloc (eY gen) d λ j=>.alloc (Cj v.c (eP c.h level) j) m λ q=>iN c.t r m q (uN T false 0) else .done (eG false 0)) s cd s2 B):eH b (Vc c T gen r m level v.c bb) s cd s2 B:=by
 unfold Vc;by_cases hp:fQ c false 0=true
 ·rw[if_pos hp] at h;rw[if_pos hp];refine Xq hb (hd hp) ?_;have h2:=Qz (hd hp) h;show eH b (if(Cy v.c.nd v.c.xs v.c.ys v.c.bm.toNat (eP c.h level) _).isSome=true then _ else _) _ cd s2 B
  have h3:eH b (.alloc (Cj v.c (eP c.h level) (((s.gB (dL c s bb gen (level+1))).nodes.length+1:Nat):Int)) m λ q=>iN c.t r m q (uN T false 0)) ((s.gB (dL c s bb gen (level+1))).push (eY gen) ((s.nodes.length+(dL c s bb gen (level+1)).length:Nat):Int)) cd s2 B:=h2;rw[nT] at h3;rw[La,nT,if_pos (hg hp)];exact h3
 ·rw[if_neg hp] at h;rw[if_neg hp];exact h
end
end
section
def Zn(b u:Nat)(c:jQ)(T:Tr)(gen:Int)(n level:Nat):Prop:=∀(B:Fr) (r m par:Int) (s:Mm),s.pv=((u,pO b c gen par r ((level:Nat):Int)),Hv)->r<=s.nodes.length->m<=s.nodes.length->Ns (qM c T gen (uS c T gen n) r level m) s->kF b 167 ⟨[pt u],[]⟩ [.int .i64 m] B s (qM c T gen (uS c T gen n) r level m)
section
variable{D:List Nat}{A B:Fr}{a:AS}{b u:Nat}{w:World}{f:FuncId}{cap:yK}{t:oB}{c:jQ}{g:Int}
variable{T:Tr}{n level:Nat}{par r bb m:Int}{v:dW}
theorem Bz{o:Option Int}(h:¬o.isSome=true):o=none:=by cases o with|none=>rfl|some a=>exact(h rfl).elim
theorem jP.mono{R R':Cd->Mm->Fr->Prop}(h:∀x y z,R x y z->R' x y z){e:Ending}{w':World}:jP b R a B D w e w'->jP b R' a B D w e w'
 | ⟨y,h1,h2,h3⟩=>⟨y,h1,⟨h _ _ _ h2.1,h2.2⟩,h3⟩
theorem da(hV:Zn b u c T g n (level+1))(ht:c.t.root<=9223372036854775807)(hlv:level<=100)(hpv:a.pv=((u,pO b c g par r ((level:Nat):Int)),Hv))(hbb:bb<=a.mm.nodes.length)(ok:a.Ok)(hm0:a.mm.iL)(hA:∀f∈dD a.L,f∈A)(hB:∀x∈B,x∈A)(hs:SF w D [(b,dV a),(a.u,a.po)] A [] (iS a) w) :
  Calls prog 257 #[pt u,.int .i64 bb] w (jP b (λ c' s' B'=>eH b (uS c T g (n+1) bb (level+1)) a.mm c' s' B') a B D w):=by
 obtain⟨a0,rfl⟩:∃a0:AS,a=AS.wp a0 u (pO b c g par r ((level:Nat):Int)):=⟨a,uA hpv⟩;have hm:=hm0.small;have ok2:∀o,(AS.wp a0 u o).Ok:=λ o=>⟨ok.fit,⟨ok.mo.nd,ok.mo.cs,ok.mo.two⟩⟩;have hT:tJ b (λ m=>qM c T g (uS c T g n) bb (level+1) m) (AS.wp a0 u (pO b c g r bb ((level+1:Nat):Int))).mm 167 ⟨[pt u],[]⟩ B:=⟨by kernel_rfl,λ m s1 l1 hm1 hns=>hV B bb m r s1 (l1.pv.trans rfl) (by have h1:=l1.len;have h2:bb<=(AS.wp a0 u (pO b c g r bb ((level+1:Nat):Int))).mm.nodes.length:=hbb;omega) hm1 hns⟩;refine enter func257 ntmps257 rfl rfl hs ?_;simp only[cN]
 refine K2f ?_;intro x4;refine pJ ?_;refine fO [0,1,2,3,4,5,6,7,8,9,10,11,12,13,14,15,16,17,18,19,20,21] ?_;refine yS ?_;refine Em ?_;refine Em ?_;refine cD (i:=12) (hq:=(H5 (k:=level) rf rf (by omega))) (h:=?_);refine J4 ?_;refine wX (h:=λ _=>?_);refine J4 ?_;refine wX (h:=λ _=>?_);refine Ln ?_;refine aL ?_;refine K3w ?_;refine J9 ?_;refine K1t ?_;refine Kd4 ?_;refine cD (i:=9) (hq:=(jA Jp Jp)) (h:=?_);refine bE (i:=10) (hq:=(gK (a:=AS.wp a0 u (pO b c g r bb ((level+1:Nat):Int))) (A0:=A) (λ w1 hw=>qY ht hT hbb (ok2 _) hm hA hB hw))) (h:=λ x34 h34=>?_);refine eT (i:=11) (hq:=(cC λ _=>aC rf bI rf (aY _) cY rf dM)) (h:=λ _=>?_);refine dA ?_;refine bF results257 (λ w hw=>?_);exact⟨x34,rfl,⟨eH.yx ((u,pO b c g par r ((level:Nat):Int)),Hv) h34.1,h34.2.1,⟨⟨h34.2.2.le.nodes,h34.2.2.le.cl⟩,h34.2.2.fam⟩⟩,hw.rN⟩
theorem aDX(hd:U9 b u c T)(ht:c.t.root<=9223372036854775807)(hh:c.h<18446744073709551616)(hlv:level<=100)(hv:oP a.mm.nodes.length a.mm.cs.length v.c)(hf:v.Fit)(hc1:v.xs.length<=v.nd.brC)(hAx:(v.nd.brA,aT v.xs)∈A)(hAy:(v.nd.prA,dF v.ys)∈A)(e:aD a.mm.nodes m=v.c)(hk3:v.c.kind=3)(hns:Ns (qM c T g (uS c T g n) r level m) a.mm)(hpv:a.pv=((u,pO b c g par r ((level:Nat):Int)),Hv))(hr:r<=a.mm.nodes.length)(hmm:m<=a.mm.nodes.length)(hk:iU v.c (eP c.h level)=some bb)(hbb:bb<=a.mm.nodes.length)(k4:(aD a.mm.nodes bb).kind=4){sx:Nd}(hs1:sx.key=(aD a.mm.nodes bb).key)(hs2:sx.val=(aD a.mm.nodes bb).val)(ok:a.Ok)(hm0:a.mm.iL)(hA:∀f∈dD a.L,f∈A)(hB:∀x∈B,x∈A)(hs:SF w D [(b,dV a),(a.u,a.po)] A [] (iS a) w) :
  Calls prog 254 #[pt u,.int .i64 m,v.nd.v,.int .i64 (eP c.h level),.int .i64 bb,sx.v] w (jP b (λ c' s' B'=>eH b (qM c T g (uS c T g n) r level m) a.mm c' s' B') a B D w):=by
 by_cases hkey:(aD a.mm.nodes bb).key=c.key;·have hg:=aBd hns e hk3 hk k4 hkey;rw[<- hs2] at hg;refine(Uz (B:=B) (T:=T) hd ht hh (hs1.trans hkey) hv hf hc1 hAx hAy hpv hr hmm hg ok hm0 hA hB hs).mono λ _ _ h=>jP.mono (λ x y z h=>?_) h;refine dt hmm hbb e hk3 hk ?_;rw[if_pos k4,if_pos hkey,<- hs2];exact aAy hg h
 ·have hg:=aAQ hns e hk3 hk k4 hkey;refine(wi (B:=B) (T:=T) hd ht hh hlv (λ h=>hkey (hs1.symm.trans h)) hv hf hc1 hAx hAy hpv hr hmm hbb rfl (λ h=>(hg h).1) (λ h=>(hg h).2) ok hm0 hA hB hs).mono λ _ _ h=>jP.mono (λ x y z h=>?_) h;refine dt hmm hbb e hk3 hk ?_;rw[if_pos k4,if_neg hkey];exact aAu hbb (λ h=>(hg h).1) (λ h=>(hg h).2) h
theorem aDK(hV:∀k,n=k+1->Zn b u c T g k (level+1))(ht:c.t.root<=9223372036854775807)(hlv:level<=100)(hpv:a.pv=((u,pO b c g par r ((level:Nat):Int)),Hv))(hbb:bb<=a.mm.nodes.length)(hns:Ns (uS c T g n bb (level+1)) a.mm)(ok:a.Ok)(hm0:a.mm.iL)(hA:∀f∈dD a.L,f∈A)(hB:∀x∈B,x∈A)(hs:SF w D [(b,dV a),(a.u,a.po)] A [] (iS a) w) :
  Calls prog 257 #[pt u,.int .i64 bb] w (jP b (λ c' s' B'=>eH b (uS c T g n bb (level+1)) a.mm c' s' B') a B D w):=by
 cases n with
 | zero=>exact(hns rfl).elim
 | succ n=>exact da (hV n rfl) ht hlv hpv hbb ok hm0 hA hB hs
theorem Zg(hd:U9 b u c T)(hV:∀k,n=k+1->Zn b u c T g k (level+1))(ht:c.t.root<=9223372036854775807)(hh:c.h<18446744073709551616)(hlv:level<=100)(hv:oP a.mm.nodes.length a.mm.cs.length v.c)(hf:v.Fit)(hc1:v.xs.length<=v.nd.brC)(hAx:(v.nd.brA,aT v.xs)∈A)(hAy:(v.nd.prA,dF v.ys)∈A)(e:aD a.mm.nodes m=v.c)(hk3:v.c.kind=3)(hns:Ns (qM c T g (uS c T g n) r level m) a.mm)(hpv:a.pv=((u,pO b c g par r ((level:Nat):Int)),Hv))(hr:r<=a.mm.nodes.length)(hmm:m<=a.mm.nodes.length)(ok:a.Ok)(hm0:a.mm.iL)(hA:∀f∈dD a.L,f∈A)(hB:∀x∈B,x∈A)(hs:SF w D [(b,dV a),(a.u,a.po)] A [] (iS a) w) :
  Calls prog 211 #[pt u,.int .i64 m,v.nd.v] w (jP b (λ c' s' B'=>eH b (qM c T g (uS c T g n) r level m) a.mm c' s' B') a B D w):=by
 obtain⟨a0,rfl⟩:∃a0:AS,a=AS.wp a0 u (pO b c g par r ((level:Nat):Int)):=⟨a,uA hpv⟩;have hm:=hm0.small;have hbb:(iU v.c (eP c.h level)).getD 0<=(AS.wp a0 u (pO b c g par r ((level:Nat):Int))).mm.nodes.length:=D5 hv _;refine enter func211 ntmps211 rfl rfl hs ?_;simp only[cN]
 simp only[Nd.v,Nd.cells];refine J0 ?_;refine bC (λ x5=>?_);refine aJ (λ x6=>?_);refine pJ ?_;refine fO [0,1,2,3,4,5,6,7,8,9] ?_;refine Y0 ?_;refine bR (i:=8) (hq:=(cV (hc:=λ w1 hw=>tF hh level w1))) (h:=λ x19=>?_);refine J7 ?_;refine vp ?_;refine aH (cV (hc:=λ w1 hw=>Mw (v:=v) hv (eP c.h level) (hf.xZ (hw.cl (.old (mU.eU hAx))) (hw.cl (.old (mU.eU hAy)))))) (λ x23=>?_);refine Ez ?_;refine Ke9 ?_;refine aX (λ c27=>?_) (λ c27=>?_);·refine lV ?_;refine bO ?_;refine aB ?_;refine aI (gK (A0:=A) (λ w1 hw=>Zz hd ht hh hv hf hc1 hAx hAy hpv hr hmm (pb hns e hk3 (Bz (by simpa using c27))) ok hm0 hA hB hw)) (λ x32 h32=>?_);refine aM (cC λ _=>aC rf bI rf (aY _) cY rf dM) (λ _=>?_);refine aE ?_;refine bF results211 (λ w hw=>?_);exact⟨x32,rfl,⟨aAL hmm e hk3 (Bz (by simpa using c27)) (pb hns e hk3 (Bz (by simpa using c27))) h32.1,h32.2⟩,hw.rN⟩
 ·refine bG ?_;refine Pc ?_;refine Kd0 ?_;refine aI (oI ((iU v.c (eP c.h level)).getD 0) ok hm hA hbb) (λ x39 h39=>?_);refine aJ (λ x10=>?_);refine J5 ?_;refine Ga ?_;refine E2 ?_;refine aX (λ c42=>?_) (λ c42=>?_);·refine lV ?_;refine bO ?_;refine Df ?_;refine bO ?_;refine aI (gK (A0:=A) (λ w1 hw=>aDX hd ht hh hlv hv hf hc1 hAx hAy e hk3 hns hpv hr hmm (jY (by simpa using c27)) hbb (by rw[cE];exact c42) (sx:=((aK (aV a0.L) ((iU v.c (eP c.h level)).getD 0)).at_ x39.1 x39.2).nd) (by rw[cE];rfl) (by rw[cE];rfl) ok hm0 hA hB hw)) (λ x49 h49=>?_);refine aM (cC λ _=>aC rf bI rf (aY _) cY rf dM) (λ _=>?_);refine aE ?_;refine bF results211 (λ w hw=>?_);exact⟨x49,rfl,h49,hw.rN⟩
  ·refine lL ?_;refine K2b ?_;refine hY ?_;refine mD ?_;refine uI ?_;refine dA ?_;refine aX (λ c56=>?_) (λ c56=>?_);·exact absurd (Np hns e hk3 (jY (by simpa using c27)) (by rw[cE];exact c42)).1.2 (by rw[cE];exact c56)
   ·refine yO ?_;refine aI (gK (A0:=A) (λ w1 hw=>aDK hV ht hlv hpv hbb (Np hns e hk3 (jY (by simpa using c27)) (by rw[cE];exact c42)).2 ok hm0 hA hB hw)) (λ x72 h72=>?_);refine aM (cC λ _=>aC rf bI rf (aY _) cY rf dM) (λ _=>?_);refine aE ?_;refine bF results211 (λ w hw=>?_);exact⟨x72,rfl,⟨dt hmm hbb e hk3 (jY (by simpa using c27)) (by rw[if_neg (by rw[cE];exact c42),if_pos (Np hns e hk3 (jY (by simpa using c27)) (by rw[cE];exact c42)).1];exact h72.1),h72.2⟩,hw.rN⟩
end
end
section
section
variable{D:List Nat}{A B:Fr}{a:AS}{b u:Nat}{w:World}{f:FuncId}{cap:yK}{t:oB}{c:jQ}{g:Int}
theorem L3{T:Tr}{n level:Nat}(hd:U9 b u c T)(hV:∀k,n=k+1->Zn b u c T g k (level+1))(ht:c.t.root<=9223372036854775807)(hh:c.h<18446744073709551616)(hlv:level<=100):Zn b u c T g n level:=by
 intro B r m par s hpv hr hmm hns a D A w em ok hm0 hA hB hw0;subst em;refine K2l ?_;intro hm;obtain⟨a0,rfl⟩:∃a0:AS,a=AS.wp a0 u (pO b c g par r ((level:Nat):Int)):=⟨a,uA hpv⟩;have nm:=pP ok m;have k36:=tv hns (cE (a:=AS.wp a0 u (pO b c g par r ((level:Nat):Int))) m);refine enter func167 ntmps167 rfl rfl hw0 ?_;simp only[cN]
 refine K2f ?_;intro x4;refine aE ?_;refine Pc ?_;refine Kd0 ?_;refine aI (oI m ok hm hA hmm) (λ x12 h12=>?_);refine aJ (λ x5=>?_);refine J5 ?_;refine Ga ?_;refine Kb6 ?_;refine kT ?_;refine aX (λ c15=>?_) (λ c15=>?_);·rcases k36 with k|k<;>exact absurd (k.symm.trans c15) (by decide)
 ·refine kT ?_;refine aX (λ c41=>?_) (λ c41=>?_);·refine lV ?_;refine bO ?_;refine aI (gK (A0:=(x12.1,aT (aK (aV a0.L) m).xs)::(x12.2,dF (aK (aV a0.L) m).ys)::A) (hA:=E0m) (λ w1 hw=>db (T:=T) (v:=(aK (aV a0.L) m).at_ x12.1 x12.2) hd ht nm (dW.rH (iW ok.fit.all m) _ _) (Nat.le_refl _) (Fy (v:=(aK (aV a0.L) m).at_ x12.1 x12.2) hns (cE m) c41).1 (.head _) (.tail _ (.head _)) hpv hr hmm (Fy (v:=(aK (aV a0.L) m).at_ x12.1 x12.2) hns (cE m) c41).2 ok hm0 (λ f hf=>.tail _ (.tail _ (hA f hf))) (λ f hf=>.tail _ (.tail _ (hB f hf))) hw)) (λ x46 h46=>?_);refine aM (cC λ _=>aC rf bI rf (aY _) cY rf dM) (λ _=>?_);refine aE ?_;refine bF results167 (λ w hw=>?_);exact⟨x46,rfl,⟨uo (v:=(aK (aV a0.L) m).at_ x12.1 x12.2) hmm (cE m) c41 (Fy (v:=(aK (aV a0.L) m).at_ x12.1 x12.2) hns (cE m) c41).1 (Fy (v:=(aK (aV a0.L) m).at_ x12.1 x12.2) hns (cE m) c41).2 h46.1,h46.2⟩,hw.rN⟩
  ·refine kT ?_;refine aX (λ c47=>?_) (λ c47=>?_);·refine lV ?_;refine bO ?_;refine aI (gK (A0:=(x12.1,aT (aK (aV a0.L) m).xs)::(x12.2,dF (aK (aV a0.L) m).ys)::A) (hA:=E0m) (λ w1 hw=>Zg (T:=T) (n:=n) (v:=(aK (aV a0.L) m).at_ x12.1 x12.2) hd hV ht hh hlv nm (dW.rH (iW ok.fit.all m) _ _) (Nat.le_refl _) (.head _) (.tail _ (.head _)) (cE m) c47 hns hpv hr hmm ok hm0 (λ f hf=>.tail _ (.tail _ (hA f hf))) (λ f hf=>.tail _ (.tail _ (hB f hf))) hw)) (λ x52 h52=>?_);refine aM (cC λ _=>aC rf bI rf (aY _) cY rf dM) (λ _=>?_);refine aE ?_;refine bF results167 (λ w hw=>?_);exact⟨x52,rfl,h52,hw.rN⟩
   ·exact(k36.elim c41 c47).elim
theorem ln{T:Tr}(hd:U9 b u c T)(ht:c.t.root<=9223372036854775807)(hh:c.h<18446744073709551616):∀(n level:Nat),level+n<=100->Zn b u c T g n level
 | 0,level,h=>L3 hd (λ k e=>by cases e) ht hh (by omega)
 | n+1,level,h=>L3 hd (λ k e=>by cases e;exact ln hd ht hh n (level+1) (by omega)) ht hh (by omega)
theorem Zv{T:Tr}(hd:U9 b u c T)(ht:c.t.root<=9223372036854775807)(hh:c.h<18446744073709551616){g par i l r:Int}{s:Mm}(hpv:s.pv=((u,pO b c g par i l),Hv))(hr:r<=s.nodes.length):kF b 130 ⟨[pt u],[]⟩ [.int .i64 r] B s (.node r λ nr=>uS c T nr.gen 12 r 0):=by
 intro a D A w em ok hm0 hA hB hw0;subst em;refine K2l ?_;intro hm;obtain⟨a0,rfl⟩:∃a0:AS,a=AS.wp a0 u (pO b c g par i l):=⟨a,uA hpv⟩;have ok2:∀o,(AS.wp a0 u o).Ok:=λ o=>⟨ok.fit,⟨ok.mo.nd,ok.mo.cs,ok.mo.two⟩⟩;have hT:tJ b (λ m=>qM c T (aK (aV a0.L) r).nd.gen (uS c T (aK (aV a0.L) r).nd.gen 11) r 0 m) (AS.wp a0 u (pO b c (aK (aV a0.L) r).nd.gen 0 r 0)).mm 167 ⟨[pt u],[]⟩ B:=⟨by kernel_rfl,λ m s1 l1 hm1 hns=>ln hd ht hh 11 0 (by decide) B r m 0 s1 (l1.pv.trans rfl) (by have h1:=l1.len;have h2:r<=(AS.wp a0 u (pO b c (aK (aV a0.L) r).nd.gen 0 r 0)).mm.nodes.length:=hr;omega) hm1 hns⟩;refine enter func130 ntmps130 rfl rfl hw0 ?_;simp only[cN]
 refine K2f ?_;intro x4;refine Ke2 ?_;refine P3 ?_;refine Kd0 ?_;refine aI (oI r ok hm hA hr) (λ x12 h12=>?_);refine nV ?_;refine E4 ?_;refine lV ?_;refine Df ?_;refine P3 ?_;refine oW (λ _=>?_);refine P3 ?_;refine oW (λ _=>?_);refine E4 ?_;refine aL ?_;refine K3w ?_;refine J9 ?_;refine K1t ?_;refine Kd4 ?_;refine cD (i:=9) (hq:=(jA Jp Jp)) (h:=?_);refine bE (i:=10) (hq:=(gK (a:=AS.wp a0 u (pO b c (aK (aV a0.L) r).nd.gen 0 r 0)) (A0:=A) (λ w1 hw=>qY ht hT hr (ok2 _) hm hA hB hw))) (h:=λ x36 h36=>?_);refine eT (i:=11) (hq:=(cC λ _=>aC rf bI rf (aY _) cY rf dM)) (h:=λ _=>?_);refine dA ?_;refine bF results130 (λ w hw=>?_);exact⟨x36,rfl,⟨⟨hr,by rw[cE];exact eH.yx ((u,pO b c g par i l),Hv) h36.1⟩,h36.2.1,⟨⟨h36.2.2.le.nodes,h36.2.2.le.cl⟩,h36.2.2.fam⟩⟩,hw.rN⟩
theorem nt(ht:c.t.root<=9223372036854775807)(hh:c.h<18446744073709551616):∀n,U9 b u c (wE c n)
 | 0=>vr
 | n+1=>qh ht λ _ _ _ _ _ _ _ hpv hr=>Zv (nt ht hh n) ht hh hpv hr
end
end
section
section
variable{D:List Nat}{A B:Fr}{a:AS}{b u:Nat}{w:World}{f:FuncId}{cap:yK}{t:oB}{c:jQ}
theorem jl{n:Nat}(hd:U9 b u c (wE c n))(hk:c.key.size<=64)(hp:0<=c.pol/\c.pol<=3){g par i l:Int}{s:Mm}{b1 b2 b3:Nat}(hpv:s.pv=((u,pO b c g par i l),Hv)):kF b 91 [pt b1,pt b2,pt b3] [] (bx b1 [.string c.key]::bx b2 [.int .i64 c.pol]::bx b3 [pt u]::B) s (wE c n):=by
 intro a D A w em ok hm0 hA hB hw0;subst em;refine K2l ?_;intro hm;refine enter func91 ntmps91 rfl rfl hw0 ?_;simp only[cN];refine J0 ?_;refine aJ (λ x3=>?_);refine pJ ?_;refine J0 ?_;refine aA (fG b1 [.string c.key] 0 hB rfl) rfl ?_;refine aH (cV (hc:=λ w1 hw=>sA c.key w1)) (λ x5=>?_);refine Ti ?_;(refine mN 7 (λ g7=>?_) (λ g7=>?_)<;>(first|refine aZ ?_|(refine aF ?_;refine aA (fG b2 [.int .i64 c.pol] 0 hB rfl) rfl ?_)));all_goals (refine Kb8 ?_)
 all_goals (first|refine aZ ?_|(refine mN 11 (λ g11=>?_) (λ g11=>?_)<;>(first|refine aZ ?_|(refine aF ?_;refine aA (fG b2 [.int .i64 c.pol] 0 hB rfl) rfl ?_))))
 all_goals (refine w9 ?_;refine aE ?_)
 all_goals
 refine aX (λ c14=>?_) (λ c14=>?_)
 ·all_goals (refine Ke0 ?_;refine aH (cV (hc:=λ w1 hw=>oX erR w1)) (λ x16=>?_);refine aM (cC λ _=>aC rf bI rf (aY _) cY rf dM) (λ _=>?_);refine aE ?_)
  all_goals refine bF results91 (λ w hw=>?_);exfalso;omega
 ·try exact nv c14
  all_goals (refine Kc4 ?_;refine aA (fG b3 [pt u] 0 hB rfl) rfl ?_;refine aI (gK (λ w1 hw=>hd a _ A _ w1 g par i l hpv ok hm hA hB hw)) (λ x18 h18=>?_);refine aM (cC λ _=>aC rf bI rf (aY _) cY rf dM) (λ _=>?_);refine aE ?_)
  all_goals refine bF results91 (λ w hw=>?_);exact⟨x18,rfl,h18,hw.rN⟩
theorem Fz{m n:Nat}{key:ByteArray}{val pol exp:Int}(ht:t.root<=9223372036854775807)(hm0:m<18446744073709551616)(hk:key.size<=64)(hp:0<=pol/\pol<=3)(hT:∀o:Nat×Obj,Ns (wE ⟨t,key,mV key m,val,pol,exp⟩ n) (AS.wp a o.1 o.2).mm)(ok:a.Ok)(hm:a.mm.iL)(hA:∀f∈dD a.L,f∈A)(hB:∀x∈B,x∈A)(hs:SF w D [(b,dV a)] A [] (kM a) w) :
  Calls prog 63 #[.iface 63 (.pointer (some ⟨b,0,none⟩)),.agg ⟨[.int .i64 t.root,.bool t.ro]⟩,.int .u64 (m:Int),.string key,.int .u64 val,.int .i64 pol,.int .u64 exp] w λ e w'=>∃x:Nat×Cd×Fr×AS,e=.returned (.pointer (some ⟨x.1,0,none⟩))/\(∃o:Nat×Obj,qL b (Ct.jT (wE ⟨t,key,mV key m,val,pol,exp⟩ n) (AS.wp a o.1 o.2).mm) (AS.wp a o.1 o.2) B x.2/\fI (Ct.jT (wE ⟨t,key,mV key m,val,pol,exp⟩ n) (AS.wp a o.1 o.2).mm).1=true)/\SF w D [(x.1,tO b x.2.1 0),(x.2.2.2.u,x.2.2.2.po),(b,dV x.2.2.2)] [] x.2.2.1 (iS x.2.2.2) w':=by
 have h0:=G9 key m;have okw:∀u o,(AS.wp a u o).Ok:=λ u o=>⟨ok.fit,⟨ok.mo.nd,ok.mo.cs,ok.mo.two⟩⟩;refine enter func63 ntmps63 rfl rfl hs ?_;simp only[cN]
 refine J0 ?_;refine bC (λ x8=>?_);refine bC (λ x10=>?_);refine bC (λ x12=>?_);refine lX ?_;refine nX [15,16,17,18,19,20,21,22,23,24,25,26,27] (λ j:Nat×Nat=>[(15,.pointer (some ⟨j.1,0,none⟩))]) (λ _=>True) (λ j=>[(j.1,.cells ⟨[pt j.2]⟩ 199 (0,0)),(j.2,pO b ⟨t,key,mV key m,val,pol,exp⟩ 0 0 0 0),(x12,.cells ⟨[.int .i64 pol]⟩ 3 (0,0)),(x10,.cells ⟨[.string key]⟩ 9 (0,0)),(x8,.cells ⟨[.int .i64 t.root,.bool t.ro]⟩ 42 (0,0)),(b,dV a)]) (λ _=>[]) (λ _=>kM a) (by decide) (λ _=>by exact rfl) ?_ (λ j f hx=>?_)
 ·refine kR (.one 0 [] (.one 1 [] (.one 2 [] (.one 3 [] (.one 4 [] (.one 5 [] (.one 7 [] (.one 8 [] (.one 9 [] (.two 6 [1,3,8] (.one 10 [] (.two 11 [] (.one 12 [1,3,4,8] (.one 13 [] .nil)) 0 [] (.two 12 [1,3,4,8] (.one 11 [] (.one 13 [] .nil)) 0 [] .nil))) 0 [] (.two 12 [1,3,4,8] (.one 6 [1,3,8] (.one 10 [] (.one 11 [] (.one 13 [] .nil)))) 0 [] .nil))))))))))) ?_;refine aP ?_;refine bH ?_;refine iZ ?_;refine bH ?_;refine bH ?_;refine yS ?_;refine bH ?_;refine aP ?_;refine jF (E:=[6,12]) (by decide +kernel) ((.cons ?_ (.cons ?_ .nil)))
  ·refine lN (i:=6) (hq:=(cV (hc:=λ w1 hw=>pZ key hm0 (by omega) w1))) (h:=λ x22=>?_);refine iZ ?_;refine jF (E:=[11,12]) (by decide +kernel) ((.cons ?_ (.cons ?_ .nil)));·refine ed (i:=11) (h:=λ x27=>?_);refine bR (i:=12) (hq:=(cC λ _=>qP (z:=.pointer none) (by kernel_rfl) rfl)) (h:=λ x15=>?_);refine L8 ?_;refine lZ ((x15,x27)) ?_ (hw1:=E0q);·trivial
   ·refine lN (i:=12) (hq:=(cC λ _=>qP (z:=.pointer none) (by kernel_rfl) rfl)) (h:=λ x15=>?_);refine Ey (h:=λ x27=>?_);refine K2v ?_;·trivial
  ·refine lN (i:=12) (hq:=(cC λ _=>qP (z:=.pointer none) (by kernel_rfl) rfl)) (h:=λ x15=>?_);refine bR (i:=6) (hq:=(cV (hc:=λ w1 hw=>pZ key hm0 (by omega) w1))) (h:=λ x22=>?_);refine iZ ?_;refine Ey (h:=λ x27=>?_);refine K2v ?_;·trivial
 refine K0c ?_;refine J2 ?_;refine K2m ?_;(refine aH (aW.pre (λ w h=>(show SF _ _ [_,_,(b,dV a)] _ ([bx x10 [.string key],bx x12 [.int .i64 pol],bx j.1 [pt j.2]]:Fr) _ w from(((h.bS .head).bS (.tail .head)).bS (.tail .head)).gN 0 1)) (Og (V:=λ x:Nat×Cd×Fr×AS=>.pointer (some ⟨x.1,0,none⟩)) (hs:=[(b,dV (AS.wp a j.2 (pO b ⟨t,key,mV key m,val,pol,exp⟩ 0 0 0 0))),(j.2,pO b ⟨t,key,mV key m,val,pol,exp⟩ 0 0 0 0)]) (os:=iS (AS.wp a j.2 (pO b ⟨t,key,mV key m,val,pol,exp⟩ 0 0 0 0))) (hs':=λ x=>[(b,dV x.2.2.2),(x.2.2.2.u,x.2.2.2.po)]) (Hc:=λ x=>[(x.1,tO b x.2.1 0)]) (os':=λ x=>iS x.2.2.2) (Oc:=λ _=>[]) (Fc:=λ x=>x.2.2.1) (A0:=[bx x10 [.string key],bx x12 [.int .i64 pol],bx j.1 [pt j.2]]++A) (hA:=bV.vX) (hc:=λ w1 hw=>Da (a:=AS.wp a j.2 (pO b ⟨t,key,mV key m,val,pol,exp⟩ 0 0 0 0)) (B:=[bx x10 [.string key],bx x12 [.int .i64 pol],bx j.1 [pt j.2]]++B) (hT (j.2,pO b ⟨t,key,mV key m,val,pol,exp⟩ 0 0 0 0)) ⟨by kernel_rfl,λ s1 l _=>jl (c:=⟨t,key,mV key m,val,pol,exp⟩) (nt ht h0 n) hk hp (l.pv.trans rfl)⟩ (okw _ _) hm (λ f hf=>List.mem_append_right _ (hA f hf)) (mM hB) hw))) (λ x30=>?_);try (refine dQ (λ h30=>?_)));refine J1 ?_;refine bJ results63 (λ w hw=>?_);exact⟨(x30.1,x30.2.1,x30.2.2.1++[bx x10 [.string key],bx x12 [.int .i64 pol],bx j.1 [pt j.2]],x30.2.2.2),rfl,⟨(j.2,pO b ⟨t,key,mV key m,val,pol,exp⟩ 0 0 0 0),qL.w6 h30.1,h30.2⟩,hw.ret E0d (bM.dB λ f hf=>hf) E0h⟩
end
end
end Go.Proofs.YtdeecdfockjoiaaGreatDoor

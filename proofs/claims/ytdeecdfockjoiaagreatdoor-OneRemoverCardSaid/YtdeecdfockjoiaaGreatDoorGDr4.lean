/- Merged. -/
import Derived.Test.YtdeecdfockjoiaaGreatDoorGCl2
import Derived.Test.YtdeecdfockjoiaaGreatDoorGPtL
import Derived.Test.YtdeecdfockjoiaaGreatDoorGHa1
set_option linter.unusedSimpArgs false
set_option linter.unusedVariables false
namespace Go.Proofs.YtdeecdfockjoiaaGreatDoor
open Go.Proofs.Tryz
open Go Go.RowKit Go.Ct
section
theorem aBx(v s s2:Nv)(level:Int)(h1:s.kind=s2.kind)(h2:s.hash=s2.hash)(h3:s.key=s2.key)(h4:s.val=s2.val):Pd v level s=Pd v level s2:=by
 have e:Jm v.nd v.xs v.ys level s.nd=Jm v.nd v.xs v.ys level s2.nd:=by unfold Jm;rw[show s.nd.kind=s2.nd.kind from h1]
 unfold Pd tmV tmb;rw[e,show s.nd.hash=s2.nd.hash from h2,show s.nd.key=s2.nd.key from h3,show s.nd.val=s2.nd.val from h4]
theorem y6(v:dW)(b:Nat)(i:Int):R4 v.c.nd v.c.xs v.c.ys b i=R4 v.nd v.xs v.ys b i:=by unfold R4;simp only[show CV v.c.nd v.c.xs v.c.ys=CV v.nd v.xs v.ys from Jz];rfl
theorem qy{v:dW}{n k:Nat}(hv:oP n k v.c){i:Int}(h:(Ce v i).isSome=true):v.xs.length<=1000:=by
 have hc:CV v.nd v.xs v.ys:=by
  unfold Ce R4 at h;split at h;·rename_i hc;exact hc.1
  ·cases h
 exact Nat.le_trans (Lv (hc.bv (eE hv).1 (eE hv).2)) (by decide)
abbrev woN(v:dW)(i level:Int)(y:Nd×(Option Addr×Nat)×(Option Addr×Option Addr)):Nd:=v9 (Jm (lI (Ce v i) y.2.1) (gY (Ce v i)) [] level y.1) (lI (Ce v i) y.2.1) y.1 (gY (Ce v i)) [] y.2.2
abbrev p8(v:dW)(i level:Int)(y:Nd×(Option Addr×Nat)×(Option Addr×Option Addr)):List Int:=Ea (Jm (lI (Ce v i) y.2.1) (gY (Ce v i)) [] level y.1) (gY (Ce v i))
abbrev te(v:dW)(i level:Int)(y:Nd×(Option Addr×Nat)×(Option Addr×Option Addr)):List Pr:=Ea (Jm (lI (Ce v i) y.2.1) (gY (Ce v i)) [] level y.1) []
section
variable{D:List Nat}{A B:Fr}{a:AS}{b u:Nat}{w:World}{c:qB}{exp:Int}
set_option maxRecDepth 100000 in
theorem Rt{g i:Int}{path:List Int}{x:Option Addr×Nat}{level:Int}{v:dW}(hv:oP a.mm.nodes.length a.mm.cs.length v.c)(hf:v.Fit)(hc1:v.xs.length<=v.nd.brC)(hAx:(v.nd.brA,aT v.xs)∈A)(hAy:(v.nd.prA,dF v.ys)∈A)(hpv:a.pv=Jv b u c exp g path x)
    (hin:(Ce v i).isSome=true) (hso:(uX (uL v.c i)).getD 0<=a.mm.nodes.length) (ok:a.Ok) (hm:a.mm.Small) (hA:∀f∈dD a.L,f∈A) (hs:SF w D [(b,dV a),(a.u,a.po)] A [] (iS a) w) :
    Calls prog 293 #[pt u,v.nd.v,.int .i64 i,.int .i64 level] w λ e w'=>∃y:Nd×(Option Addr×Nat)×(Option Addr×Option Addr),e=.returned (woN v i level y).v/\(y.1.kind=(aD a.mm.nodes ((uX (uL v.c i)).getD 0)).kind/\y.1.hash=(aD a.mm.nodes ((uX (uL v.c i)).getD 0)).hash/\y.1.key=(aD a.mm.nodes ((uX (uL v.c i)).getD 0)).key/\y.1.val=(aD a.mm.nodes ((uX (uL v.c i)).getD 0)).val)/\SF w D [(b,dV a),(a.u,a.po)] [] [(y.2.2.1,aT (p8 v i level y)),(y.2.2.2,dF (te v i level y))] (iS a) w':=by
  obtain⟨a0,rfl⟩:∃a0:AS,a=AS.wr a0 b u c exp g path x:=⟨a,qT hpv⟩;have hxl:=wU (V8 hv i);have hsoe:∀z,b9 (lI (Ce v i) z) (gY (Ce v i)) []=uX (uL v.c i):=λ z=>by rw[o9 hv i z];exact aCG
  have hsole:∀w1 z,Cp w1 (lI (Ce v i) z) (gY (Ce v i)) []->Calls prog 278 #[(lI (Ce v i) z).v] w1 λ e w'=>e=.returned (.tuple #[.int .i64 ((uX (uL v.c i)).getD 0),.bool (uX (uL v.c i)).isSome])/\St w1 [] [] w':=λ w1 z hr=>by rw[<- hsoe z];exact lx hr
  refine enter func293 ntmps293 rfl rfl hs ?_;simp only[cN];simp only[Nd.v,Nd.cells];refine J0 ?_;refine bC (λ x5=>?_);refine aJ (λ x8=>?_);refine aE ?_;refine vp ?_;refine aI (cF (hc:=λ w1 hw=>Y6 (n:=v.nd) (xs:=v.xs) (ys:=v.ys) i (eE hv).1 (eE hv).2 (hf.xZ (hw.cl (.old (mU.eU hAx))) (hw.cl (.old (mU.eU hAy)))) hc1 (qy hv hin))) (λ x17 h17=>?_);refine Ez ?_;refine aJ (λ x9=>?_);refine Px ?_;refine Ke0 ?_;refine aJ (λ x11=>?_);refine J5 ?_;refine aL ?_;refine oT ?_;refine aH (cV (hc:=λ w1 hw=>hsole w1 x17 (Fu (hw.cl fin) hxl))) (λ x23=>?_);refine Ez ?_;refine J8 ?_;refine J2 ?_;refine aE ?_;refine aX (λ c26=>?_) (λ c26=>?_);· refine Cg ?_;refine P3 ?_;refine Kd0 ?_;refine aI (oI ((uX (uL v.c i)).getD 0) ok hm hA hso) (λ x33 h33=>?_);refine J5 ?_;refine vp ?_;refine bO ?_;(refine aH (by exact cF (hc:=λ w1 hw=>tH (n:=lI (Ce v i) x17) (xs:=gY (Ce v i)) (ys:=[]) level (((aK (aV a0.L) ((uX (uL v.c i)).getD 0)).at_ x33.1 x33.2).nd) (Fu (hw.cl fin) hxl) hxl (Nat.zero_le _))) (λ x37=>?_);try (refine dQ (λ h37=>?_)));refine J5 ?_;refine bF results293 (λ w hw=>?_);exact⟨(((aK (aV a0.L) ((uX (uL v.c i)).getD 0)).at_ x33.1 x33.2).nd,x17,x37),rfl,⟨by rw[cE];rfl,by rw[cE];rfl,by rw[cE];rfl,by rw[cE];rfl⟩,hw.ret E0a (bM.dB λ f hf=>by simp only[List.mem_cons] at hf ⊢;exact hf.imp id λ h=>h.imp id λ h=>(List.not_mem_nil h).elim) E0a⟩
  · refine bG ?_;refine vp ?_;refine bO ?_;refine aI (cF (hc:=λ w1 hw=>tH (n:=lI (Ce v i) x17) (xs:=gY (Ce v i)) (ys:=[]) level Nd.zero (Fu (hw.cl fin) hxl) hxl (Nat.zero_le _))) (λ x37 h37=>?_);refine J5 ?_;refine bF results293 (λ w hw=>?_);have e0:uX (uL v.c i)=none:=by simpa using c26
    have e1:aD (AS.wr a0 b u c exp g path x).mm.nodes ((uX (uL v.c i)).getD 0)=Nv.zero:=by
     rw[e0]
     exact if_neg (show ¬((1:Int)<=0/\(0:Int)<=_) from λ h=>absurd h.1 (by decide))
    exact⟨(Nd.zero,x17,x37),rfl,⟨by rw[e1];rfl,by rw[e1];rfl,by rw[e1];rfl,by rw[e1];rfl⟩,hw.ret E0a (bM.dB λ f hf=>by simp only[List.mem_cons] at hf ⊢;exact hf.imp id λ h=>h.imp id λ h=>(List.not_mem_nil h).elim) E0h⟩
end
end
section
theorem mw(o:Option (List Pr))(h:Int)(x:Option Addr×Nat):(Sy o h x).brN=([]:List Int).length/\(Sy o h x).prN=(H6 o).length:=by
 cases o with
 | none=>exact⟨rfl,rfl⟩
 | some m=>
  unfold Sy H6;by_cases h1:m.length=1;·simp only[if_pos h1];exact⟨rfl,rfl⟩
  ·simp only[if_neg h1];exact⟨rfl,trivial⟩
theorem aBq(o:Option (List Pr))(h:Int)(x:Option Addr×Nat):dF (H6 o)=[]∨((Sy o h x).prA,dF (H6 o))=(x.1,dF (H6 o)):=by
 cases o with
 | none=>exact .inl rfl
 | some m=>
  unfold Sy H6;by_cases h1:m.length=1;·simp only[if_pos h1];exact .inl rfl
  ·simp only[if_neg h1];exact .inr trivial
theorem aAN{m c:Nat}{o:Option (List Pr)}{h:Int}(x:Option Addr×Nat)(hh:∃b:Nat,h=(b:Int)/\b<18446744073709551616):oP m c {(Sy o h x).c [] (H6 o) with main:=0,prev:=0,status:=0}:=by
 cases o with
 | none=>exact⟨fN _,fN _,fN _,(λ r hr=>nomatch hr),fN _,fN _,fN _,⟨0,rfl,by decide⟩,⟨0,rfl,by decide⟩⟩
 | some q=>
  unfold Sy;by_cases h1:q.length=1;·simp only[if_pos h1];exact⟨fN _,fN _,fN _,(λ r hr=>nomatch hr),fN _,fN _,fN _,⟨0,rfl,by decide⟩,hh⟩
  ·simp only[if_neg h1];exact⟨fN _,fN _,fN _,(λ r hr=>nomatch hr),fN _,fN _,fN _,⟨0,rfl,by decide⟩,hh⟩
theorem vz(l:List Int)(ys:List Pr)(d:Nd)(k:ByteArray):(H6 (mE d l ys k)).length<=ys.length:=by
 have:=Ik ys k;unfold mE;split
 ·unfold H6;simp only;split;·exact Nat.zero_le _
  ·exact this
 ·exact Nat.zero_le _
section
variable{D:List Nat}{A B:Fr}{a:AS}{b u:Nat}{w:World}{c:qB}{exp:Int}
theorem jq{T:Tr}(hd:a9 b u c exp T)(ht:c.t.root<=9223372036854775807)(hh:c.h<18446744073709551616){g m:Int}{path:List Int}{x0:Option Addr×Nat}{v:dW}(hv:oP a.mm.nodes.length a.mm.cs.length v.c)(hf:v.Fit)(hc2:v.ys.length<=v.nd.dF)(hy:v.ys.length<=1000)(hAx:(v.nd.brA,aT v.xs)∈A)(hAy:(v.nd.prA,dF v.ys)∈A)(hpv:a.pv=Jv b u c exp g path x0)(hp:Pe a.mm path)(hl:1<=path.length)(hmm:m<=a.mm.nodes.length)
  (hin:(cS v.ys c.key).isSome=true->(mE v.nd v.xs v.ys c.key).isSome=true) (ok:a.Ok) (hm0:a.mm.iL) (hA:∀f∈dD a.L,f∈A) (hB:∀x∈B,x∈A) (hs:SF w D [(b,dV a),(a.u,a.po)] A [] (iS a) w) :
  Calls prog 259 #[pt u,.int .i64 m,v.nd.v] w (jP b (λ c' s' B'=>eH b (if(cS v.ys c.key).isSome=true then .alloc (bc v.c c.key) m λ q=>iN c.t (path.getD (path.length-1) 0) m q (B3 c T path ((cS v.ys c.key).getD 0)) else .done (eG false 0)) a.mm c' s' B') a B D w):=by
 obtain⟨a0,rfl⟩:∃a0:AS,a=AS.wr a0 b u c exp g path x0:=⟨a,qT hpv⟩;have hm:=hm0.small;have hpn:=hf.prN;have hgl:=vz v.xs v.ys v.nd c.key;refine enter func259 ntmps259 rfl rfl hs ?_;simp only[cN]
 simp only[Nd.v,Nd.cells];refine J0 ?_;refine bC (λ x5=>?_);refine aJ (λ x6=>?_);refine pJ ?_;refine K3w ?_;refine hY ?_;refine mD ?_;refine bR (i:=6) (hq:=(cV (hc:=λ w1 hw=>by rw[hpn];exact Jl (c:=v.nd.dF) c.key (hw.cl (.old (mU.eU hAy))) (by omega)))) (h:=λ x18=>?_);refine Kc3 ?_;refine Vz ?_;refine Kb9 ?_;refine aX (λ c22=>?_) (λ c22=>?_);·refine J0 ?_;refine aH (cV (hc:=λ w1 hw=>zO w1)) (λ x23=>?_);refine aM (cC λ _=>aC rf bI rf (aY _) cY rf dM) (λ _=>?_);refine aE ?_;refine bF results259 (λ w hw=>?_);refine⟨(fE (eG false 0),[],AS.wr a0 b u c exp g path x0),rfl,⟨?_,ok,AS.fF.refl _⟩,hw.rI⟩;rw[if_neg (by simpa using c22)];exact⟨rfl,rfl⟩
 ·refine lL ?_;refine lV ?_;refine aH (cV (hc:=λ w1 hw=>L7 (hw.st.at bI) ((cS v.ys c.key).getD 0))) (λ x26=>?_);refine pU ?_;refine aX (λ c27=>?_) (λ c27=>?_);·exact nv c27
  ·refine lL ?_;refine Vs [9,10,30,31,32,33,34,35,36,37,38] (λ j:Nat×Option Addr×Nat=>[(9,pt j.1),(10,.bool (mE v.nd v.xs v.ys c.key).isSome)]) (λ _=>True) (λ j=>[(j.1,.cells ⟨(Sy (mE v.nd v.xs v.ys c.key) v.nd.hash j.2).cells⟩ 194 (0,0))]) (λ j=>[(j.2.1,dF (H6 (mE v.nd v.xs v.ys c.key)))]) (λ _=>[]) (by decide) (λ _=>by exact rfl) (λ _=>by simp only[List.nil_append,List.cons_append];exact rfl) (λ _=>by simp only[List.nil_append,List.cons_append];exact rfl) (λ _=>by simp only[List.nil_append,List.cons_append];exact rfl) ?_ (λ j f hx=>?_)
   ·refine kR (.one 0 [] (.one 1 [] (.one 2 [] (.one 3 [] (.one 4 [] (.two 5 [] (.one 6 [] (.one 7 [] (.one 8 [] (.one 9 [0,4] (.one 10 [] (.one 11 [] .nil)))))) 0 [] (.two 9 [0,4] (.one 5 [] (.one 6 [] (.one 7 [] (.one 8 [] (.one 10 [] (.one 11 [] .nil)))))) 0 [] .nil))))))) ?_;refine bH ?_;refine mD ?_;refine jF (E:=[5,9]) (by decide +kernel) ((.cons ?_ (.cons ?_ .nil)));·refine nM (i:=5) (hq:=(cF (hc:=λ w1 hw=>Q4 (n:=v.nd) (xs:=v.xs) (ys:=v.ys) c.key (hf.xZ (hw.cl (.old (mU.eU hAx))) (hw.cl (.old (mU.eU hAy)))) hc2 (by omega)))) (h:=λ x36 h36=>?_);refine Kc3 ?_;refine nY (h:=λ x9=>?_);refine S9 ?_;refine lZ ((x9,x36)) ?_;·trivial
    ·refine rB (i:=9) (h:=λ x9=>?_);refine bE (i:=5) (hq:=(cF (hc:=λ w1 hw=>Q4 (n:=v.nd) (xs:=v.xs) (ys:=v.ys) c.key (hf.xZ (hw.cl (.old (mU.eU hAx))) (hw.cl (.old (mU.eU hAy)))) hc2 (by omega)))) (h:=λ x36 h36=>?_);refine Kc3 ?_;refine S9 ?_;refine lZ ((x9,x36)) ?_;·trivial
   refine K0c ?_;refine Kb9 ?_;refine aX (λ c40=>?_) (λ c40=>?_);·exact absurd (hin (by simpa using c22)) (by simpa using c40)
   ·refine yO ?_;refine bO ?_;refine aB ?_;refine aI (gK (A0:=(j.2.1,dF (H6 (mE v.nd v.xs v.ys c.key)))::A) (hA:=bV.l6) (λ w1 hw=>E0 (v:=(cS v.ys c.key).getD 0) (g:=g) (x0:=x0) (m:=m) (ys:=H6 (mE v.nd v.xs v.ys c.key)) (nd:=Sy (mE v.nd v.xs v.ys c.key) v.nd.hash j.2) (xs:=[]) hd ht hh hpv hp hl hmm (mw _ _ _).1 (mw _ _ _).2 (Nat.zero_le _) (by omega) (aAN j.2 hv.hash) (.inl rfl) ((aBq _ _ _).imp id λ h=>by rw[h];exact .head _) ok ⟨Nat.le_trans hm0.1 (by decide),Nat.le_trans hm0.2 (by decide)⟩ (λ f hf=>.tail _ (hA f hf)) (λ f hf=>.tail _ (hB f hf)) hw)) (λ x46 h46=>?_);refine aM (cC λ _=>aC rf bI rf (aY _) cY rf dM) (λ _=>?_);refine aE ?_;refine bF results259 (λ w hw=>?_);refine⟨(x46.1,x46.2.1++[(j.2.1,dF (H6 (mE v.nd v.xs v.ys c.key)))],x46.2.2),rfl,⟨?_,h46.2.1,h46.2.2.more λ f hf=>List.mem_append_left _ hf⟩,hw.ret E0a (bM.dB λ f hf=>by simpa using hf) (List.Sublist.refl _)⟩;have h1:=h46.1;rw[if_pos (by simpa using c22)];rw[aDZ] at h1;refine eH.more h1 λ y hy=>?_;simp only[List.mem_append,List.mem_cons,List.not_mem_nil,or_false] at hy ⊢
    exact hy.imp .inl id
end
end
section
theorem ox(v:dW)(k:ByteArray):(mE v.c.nd v.c.xs v.c.ys k).isSome=(mE v.nd v.xs v.ys k).isSome:=by unfold mE;simp only[show LV v.c.nd v.c.xs v.c.ys=LV v.nd v.xs v.ys from s7];rfl
section
variable{b:Nat}{c:qB}{s s2:Mm}{v:dW}{gen m bb:Int}{T:Tr}{down:List Int->Tr}{cd:Cd}{B:Fr}{path:List Int}
theorem Xe(h:Ns (sK c T gen down path m) s)(e:aD s.nodes m=v.c):Ns (if v.c.kind=5 then(if 2<=path.length then tL c.t (path.getD (path.length-2) 0) (path.getD (path.length-1) 0) c.h ((path.length-2:Nat):Int) λ _=>T else .stuck)
  else if v.c.kind=6 then Li c T path m v.c
  else if v.c.kind=3 then
   match iU v.c (eP c.h (path.length-1)) with
   | none=>.done (eG false 0)
   | some b=>.node b λ nb=>if nb.kind=4 then(if nb.key=c.key then Rw c T path m v.c nb.val else .done (eG false 0))
    else if nb.kind=2/\nb.gen=gen then down (path++[b]) else .stuck
  else .stuck) s:=by unfold Ns sK at h;rw[Ct.jT,e] at h;exact h
theorem tg(h:Ns (sK c T gen down path m) s)(e:aD s.nodes m=v.c):v.c.kind=5∨v.c.kind=6∨v.c.kind=3:=by
 have h2:=Xe h e;by_cases k5:v.c.kind=5;·exact .inl k5
 by_cases k:v.c.kind=6;·exact .inr (.inl k)
 by_cases k3:v.c.kind=3;·exact .inr (.inr k3)
 rw[if_neg k5,if_neg k,if_neg k3] at h2;exact(h2 rfl).elim
theorem vk(h:Ns (sK c T gen down path m) s)(e:aD s.nodes m=v.c)(k:v.c.kind=5):2<=path.length:=by
 have h2:=Xe h e;rw[if_pos k] at h2;by_cases k2:2<=path.length;·exact k2
 ·rw[if_neg k2] at h2;exact(h2 rfl).elim
theorem Fg(h:Ns (sK c T gen down path m) s)(e:aD s.nodes m=v.c)(k:v.c.kind=6):v.ys.length<=1000/\((cS v.ys c.key).isSome=true->(mE v.nd v.xs v.ys c.key).isSome=true):=by
 have h2:=Xe h e;rw[if_neg (by rw[k];decide),if_pos k] at h2;unfold Li at h2;by_cases hl:v.c.ys.length<=1000
 ·rw[if_pos hl,show v.c.ys=v.ys from rfl] at h2;refine⟨hl,λ hp=>?_⟩;rw[if_pos hp] at h2;have e5:=ox v c.key;rw[show v.c.ys=v.ys from rfl] at e5;rw[e5] at h2;by_cases hg:(mE v.nd v.xs v.ys c.key).isSome=true
  ·exact hg
  ·rw[if_neg hg] at h2;exact(h2 rfl).elim
 ·rw[if_neg hl] at h2;exact(h2 rfl).elim
theorem ya(h:Ns (sK c T gen down path m) s)(e:aD s.nodes m=v.c)(k:v.c.kind=3)(hk:iU v.c (eP c.h (path.length-1))=some bb):Ns (if(aD s.nodes bb).kind=4 then(if(aD s.nodes bb).key=c.key then Rw c T path m v.c (aD s.nodes bb).val else .done (eG false 0)) else if(aD s.nodes bb).kind=2/\(aD s.nodes bb).gen=gen then down (path++[bb]) else .stuck) s:=by have h2:=Xe h e;rw[if_neg (by rw[k];decide),if_neg (by rw[k];decide),if_pos k,hk] at h2;exact h2
theorem du(h:Ns (sK c T gen down path m) s)(e:aD s.nodes m=v.c)(k:v.c.kind=3)(hk:iU v.c (eP c.h (path.length-1))=some bb)(k4:(aD s.nodes bb).kind=4)(hkey:(aD s.nodes bb).key=c.key):(Ce v (eP c.h (path.length-1))).isSome=true:=by
 have h2:=ya h e k hk;rw[if_pos k4,if_pos hkey] at h2;unfold Rw at h2;rw[y6] at h2;by_cases hg:(Ce v (eP c.h (path.length-1))).isSome=true;·exact hg
 ·rw[if_neg hg] at h2;exact(h2 rfl).elim
theorem Mu(h:Ns (sK c T gen down path m) s)(e:aD s.nodes m=v.c)(k:v.c.kind=3)(hk:iU v.c (eP c.h (path.length-1))=some bb)(k4:(aD s.nodes bb).kind≠4):((aD s.nodes bb).kind=2/\(aD s.nodes bb).gen=gen)/\Ns (down (path++[bb])) s:=by
 have h2:=ya h e k hk;rw[if_neg k4] at h2;by_cases hg:(aD s.nodes bb).kind=2/\(aD s.nodes bb).gen=gen;·rw[if_pos hg] at h2;exact⟨hg,h2⟩
 ·rw[if_neg hg] at h2;exact(h2 rfl).elim
theorem qi(hm:m<=s.nodes.length)(e:aD s.nodes m=v.c)(k:v.c.kind=5)(h2:2<=path.length)(h:eH b (tL c.t (path.getD (path.length-2) 0) (path.getD (path.length-1) 0) c.h ((path.length-2:Nat):Int) λ _=>T) s cd s2 B):eH b (sK c T gen down path m) s cd s2 B:=by refine⟨hm,?_⟩;rw[e];dsimp only;rw[if_pos k,if_pos h2];exact h
theorem uj(hm:m<=s.nodes.length)(e:aD s.nodes m=v.c)(k:v.c.kind=6)(hl:v.ys.length<=1000)(hg:(cS v.ys c.key).isSome=true->(mE v.nd v.xs v.ys c.key).isSome=true)
  (h:eH b (if(cS v.ys c.key).isSome=true then .alloc (bc v.c c.key) m λ q=>iN c.t (path.getD (path.length-1) 0) m q (B3 c T path ((cS v.ys c.key).getD 0)) else .done (eG false 0)) s cd s2 B):eH b (sK c T gen down path m) s cd s2 B:=by
 refine⟨hm,?_⟩;rw[e];dsimp only;rw[if_neg (by rw[k];decide),if_pos k];unfold Li;rw[if_pos (show v.c.ys.length<=1000 from hl)];have e5:=ox v c.key;rw[show v.c.ys=v.ys from rfl] at e5 ⊢;by_cases hp:(cS v.ys c.key).isSome=true
 ·rw[if_pos hp] at h;rw[if_pos hp,e5,if_pos (hg hp)];exact h
 ·rw[if_neg hp] at h;rw[if_neg hp];exact h
theorem sq(hm:m<=s.nodes.length)(e:aD s.nodes m=v.c)(k:v.c.kind=3)(hk:iU v.c (eP c.h (path.length-1))=none)(h:eH b (.done (eG false 0)) s cd s2 B):eH b (sK c T gen down path m) s cd s2 B:=by refine⟨hm,?_⟩;rw[e];dsimp only;rw[if_neg (by rw[k];decide),if_neg (by rw[k];decide),if_pos k,hk];exact h
theorem jh(hm:m<=s.nodes.length)(hb:bb<=s.nodes.length)(e:aD s.nodes m=v.c)(k:v.c.kind=3)(hk:iU v.c (eP c.h (path.length-1))=some bb)
  (h:eH b (if(aD s.nodes bb).kind=4 then(if(aD s.nodes bb).key=c.key then Rw c T path m v.c (aD s.nodes bb).val else .done (eG false 0)) else if(aD s.nodes bb).kind=2/\(aD s.nodes bb).gen=gen then down (path++[bb]) else .stuck) s cd s2 B):eH b (sK c T gen down path m) s cd s2 B:=by refine⟨hm,?_⟩;rw[e];dsimp only;rw[if_neg (by rw[k];decide),if_neg (by rw[k];decide),if_pos k,hk];exact⟨hb,h⟩
theorem aAx{n k2:Nat}(hv:oP n k2 v.c)(hg:(Ce v (eP c.h (path.length-1))).isSome=true)(hso:(uX (uL v.c (eP c.h (path.length-1)))).getD 0<=s.nodes.length){u:Int}{y:Nd×(Option Addr×Nat)×(Option Addr×Option Addr)}
  (h1:y.1.kind=(aD s.nodes ((uX (uL v.c (eP c.h (path.length-1)))).getD 0)).kind) (h2:y.1.hash=(aD s.nodes ((uX (uL v.c (eP c.h (path.length-1)))).getD 0)).hash) (h3:y.1.key=(aD s.nodes ((uX (uL v.c (eP c.h (path.length-1)))).getD 0)).key) (h4:y.1.val=(aD s.nodes ((uX (uL v.c (eP c.h (path.length-1)))).getD 0)).val)
  (h:eH b (.alloc ((woN v (eP c.h (path.length-1)) ((path.length-1:Nat):Int) y).c (p8 v (eP c.h (path.length-1)) ((path.length-1:Nat):Int) y) (te v (eP c.h (path.length-1)) ((path.length-1:Nat):Int) y)) m λ q=>iN c.t (path.getD (path.length-1) 0) m q (B3 c T path u)) s cd s2 B):eH b (Rw c T path m v.c u) s cd s2 B:=by
 unfold Rw;rw[y6,if_pos hg];refine⟨hso,?_⟩;dsimp only;have e:Pd (uL v.c (eP c.h (path.length-1))) ((path.length-1:Nat):Int) (aD s.nodes ((uX (uL v.c (eP c.h (path.length-1)))).getD 0))=(woN v (eP c.h (path.length-1)) ((path.length-1:Nat):Int) y).c (p8 v (eP c.h (path.length-1)) ((path.length-1:Nat):Int) y) (te v (eP c.h (path.length-1)) ((path.length-1:Nat):Int) y):=by rw[yj,<- aBx _ (y.1.c [] []) _ _ h1 h2 h3 h4,o9 hv _ y.2.1];exact(aDg (n:=lI (Ce v (eP c.h (path.length-1))) y.2.1) (s:=y.1) (ys:=[]) _).symm
 rw[e];exact h
end
end
section
theorem aBW{m:Nat}{o:Option (Nat×List Int)}(h:Gg m o){x:Option Addr×Nat}{r:Nv}(e:r=(lI o x).c (gY o) []):(uX r).getD 0<=m:=by
 subst e;unfold uX b9;split
 ·cases o with
  | none=>exact fN m
  | some q=>show q.2.getD 0 0<=m;exact My (h.out q rfl).2.2 0
 ·exact fN m
def FVr(b u:Nat)(c:qB)(exp:Int)(T:Tr)(g:Int)(n:Nat)(path:List Int):Prop:=∀(B:Fr) (m:Int) (x:Option Addr×Nat) (s:Mm),s.pv=Jv b u c exp g path x->Pe s path->m<=s.nodes.length->Ns (sK c T g (Ab c T g n) path m) s->kF b 212 ⟨[pt u],[]⟩ [.int .i64 m] B s (sK c T g (Ab c T g n) path m)
theorem ug{s:Mm}{path:List Int}{r:Int}(h:Pe s path)(hr:r<=s.nodes.length)(hl:path.length<=99):Pe s (path++[r]):=⟨λ q hq=>(List.mem_append.1 hq).elim (h.n q) λ h=>by rw[List.mem_singleton.1 h];exact hr,by rw[List.length_append];simpa using hl⟩
theorem Z2(path:List Int)(r:Int):(path++[r]).getD ((path++[r]).length-1) 0=r:=by rw[Gp,List.length_append,List.getElem?_append_right (by simp)];simp
section
variable{D:List Nat}{A B:Fr}{a:AS}{b u:Nat}{w:World}{c:qB}{exp g:Int}{path:List Int}{x0:Option Addr×Nat}
variable{T:Tr}{n:Nat}{bb:Int}
theorem P8(hV:FVr b u c exp T g n (path++[bb]))(ht:c.t.root<=9223372036854775807)(hpv:a.pv=Jv b u c exp g path x0)(hp:Pe a.mm path)(hl:path.length<=99)(hbb:bb<=a.mm.nodes.length)(ok:a.Ok)(hm0:a.mm.iL)(hA:∀f∈dD a.L,f∈A)(hB:∀x∈B,x∈A)(hs:SF w D [(b,dV a),(a.u,a.po)] A [] (iS a) w) :
  Calls prog 168 #[pt u,.int .i64 bb] w (jP b (λ c' s' B'=>eH b (Ab c T g (n+1) (path++[bb])) a.mm c' s' B') a B D w):=by
 obtain⟨a0,rfl⟩:∃a0:AS,a=AS.wr a0 b u c exp g path x0:=⟨a,qT hpv⟩;have hm:=hm0.small;have ok2:∀x,(AS.wr a0 b u c exp g (path++[bb]) x).Ok:=λ x=>⟨ok.fit,⟨ok.mo.nd,ok.mo.cs,ok.mo.two⟩⟩;have hp2:∀x,Pe (AS.wr a0 b u c exp g (path++[bb]) x).mm (path++[bb]):=λ x=>ug (s:=(AS.wr a0 b u c exp g (path++[bb]) x).mm) ⟨hp.n,hp.l⟩ hbb hl;have hT:∀x:Option Addr×Nat,tJ b (λ m=>sK c T g (Ab c T g n) (path++[bb]) m) (AS.wr a0 b u c exp g (path++[bb]) x).mm 212 ⟨[pt u],[]⟩ B:=λ x=>⟨by kernel_rfl,λ m s1 l1 hm1 hns=>hV B m x s1 (l1.pv.trans rfl) ((hp2 x).le l1.len) hm1 hns⟩;have e0:(path++[bb]).length=path.length+1:=by simp
 refine enter func168 ntmps168 rfl rfl hs ?_;simp only[cN];refine K2f ?_;intro x4;refine Ke2 ?_;refine bN ?_;refine Kd0 ?_;refine nD (λ x11=>?_);(refine Ax (λ x12=>?_);try (refine dQ (λ h12=>?_)));refine E4 ?_;refine Pc ?_;refine aA (cJ (k:=3) (vs:=gI b c.t) rf bI cY rfl rfl) rfl ?_;refine Df ?_;refine aA (jA Jp Jp) rfl ?_;(refine aH (aW.pre (λ w h=>(show SF _ _ [_,(b,dV (AS.wr a0 b u c exp g (path++[bb]) x12)),(u,ij b c exp g (path++[bb]) x12)] _ _ (iS (AS.wr a0 b u c exp g (path++[bb]) x12)) w by rw[ij,rmC,e0];exact h)) (gK (a:=AS.wr a0 b u c exp g (path++[bb]) x12) (A0:=A) (λ w1 hw=>qY ht (hT x12) hbb (ok2 _) hm hA hB hw))) (λ x22=>?_);try (refine dQ (λ h22=>?_)));refine aM (cC λ _=>aC rf bI rf (aY _) cY rf dM) (λ _=>?_);refine aE ?_;refine bF results168 (λ w hw=>?_);refine⟨x22,rfl,⟨?_,h22.2.1,⟨⟨h22.2.2.le.nodes,h22.2.2.le.cl⟩,h22.2.2.fam⟩⟩,hw.ret E0a (bM.dB λ f hf=>List.mem_append_left _ hf) (List.Sublist.refl _)⟩;show eH b (nG c.t ((path++[bb]).getD ((path++[bb]).length-1) 0) λ m=>sK c T g (Ab c T g n) (path++[bb]) m) _ _ _ _
 rw[Z2];exact eH.yx (Jv b u c exp g path x0) h22.1
theorem aDB(hV:∀k,n=k+1->∀bb,FVr b u c exp T g k (path++[bb]))(ht:c.t.root<=9223372036854775807)(hpv:a.pv=Jv b u c exp g path x0)(hp:Pe a.mm path)(hl:path.length<=99)(hbb:bb<=a.mm.nodes.length)(hns:Ns (Ab c T g n (path++[bb])) a.mm)(ok:a.Ok)(hm0:a.mm.iL)(hA:∀f∈dD a.L,f∈A)(hB:∀x∈B,x∈A)(hs:SF w D [(b,dV a),(a.u,a.po)] A [] (iS a) w) :
  Calls prog 168 #[pt u,.int .i64 bb] w (jP b (λ c' s' B'=>eH b (Ab c T g n (path++[bb])) a.mm c' s' B') a B D w):=by
 cases n with
 | zero=>exact(hns rfl).elim
 | succ n=>exact P8 (hV n rfl bb) ht hpv hp hl hbb ok hm0 hA hB hs
set_option maxRecDepth 100000 in
theorem Zl(hd:a9 b u c exp T)(hV:∀k,n=k+1->∀bb,FVr b u c exp T g k (path++[bb]))(ht:c.t.root<=9223372036854775807)(hh:c.h<18446744073709551616){m:Int}{v:dW}(hv:oP a.mm.nodes.length a.mm.cs.length v.c)(hf:v.Fit)(hc1:v.xs.length<=v.nd.brC)(hAx:(v.nd.brA,aT v.xs)∈A)(hAy:(v.nd.prA,dF v.ys)∈A)(e:aD a.mm.nodes m=v.c)(hk3:v.c.kind=3)(hns:Ns (sK c T g (Ab c T g n) path m) a.mm)(hpv:a.pv=Jv b u c exp g path x0)(hp:Pe a.mm path)(hl1:1<=path.length)(hl:path.length<=99)(hmm:m<=a.mm.nodes.length)(ok:a.Ok)(hm0:a.mm.iL)(hA:∀f∈dD a.L,f∈A)(hB:∀x∈B,x∈A)(hs:SF w D [(b,dV a),(a.u,a.po)] A [] (iS a) w) :
  Calls prog 260 #[pt u,.int .i64 m,v.nd.v] w (jP b (λ c' s' B'=>eH b (sK c T g (Ab c T g n) path m) a.mm c' s' B') a B D w):=by
 obtain⟨a0,rfl⟩:∃a0:AS,a=AS.wr a0 b u c exp g path x0:=⟨a,qT hpv⟩;have hm:=hm0.small;have hbb:(iU v.c (eP c.h (path.length-1))).getD 0<=(AS.wr a0 b u c exp g path x0).mm.nodes.length:=D5 hv _;have hso:(uX (uL v.c (eP c.h (path.length-1)))).getD 0<=(AS.wr a0 b u c exp g path x0).mm.nodes.length:=aBW (V8 hv _) (o9 hv _ (none,0))
 have hwl:∀y,(p8 v (eP c.h (path.length-1)) ((path.length-1:Nat):Int) y).length<=1000:=λ y=>by
  have h1:=wU (V8 hv (eP c.h (path.length-1)));show(Ea _ _).length<=_;unfold Ea;split;·exact Nat.zero_le _
  ·exact h1
 have hwy:∀y,(te v (eP c.h (path.length-1)) ((path.length-1:Nat):Int) y).length<=274877906944:=λ y=>by show(Ea _ ([]:List Pr)).length<=_;unfold Ea;split<;>exact Nat.zero_le _
 have hnw:∀y:Nd×(Option Addr×Nat)×(Option Addr×Option Addr),y.1.hash=(aD (AS.wr a0 b u c exp g path x0).mm.nodes ((uX (uL v.c (eP c.h (path.length-1)))).getD 0)).hash->oP (AS.wr a0 b u c exp g path x0).mm.nodes.length (AS.wr a0 b u c exp g path x0).mm.cs.length {(woN v (eP c.h (path.length-1)) ((path.length-1:Nat):Int) y).c (p8 v (eP c.h (path.length-1)) ((path.length-1:Nat):Int) y) (te v (eP c.h (path.length-1)) ((path.length-1:Nat):Int) y) with main:=0,prev:=0,status:=0}:=λ y hy=>by obtain⟨q0,q1,q2⟩:=(ok.mo.at ((uX (uL v.c (eP c.h (path.length-1)))).getD 0)).hash;exact oq (V8 hv _) ⟨q0,hy.trans q1,q2⟩ _ _ _
 refine enter func260 ntmps260 rfl rfl hs ?_;simp only[cN];simp only[Nd.v,Nd.cells];refine J0 ?_;refine K3k ?_;intro x5 x6;refine qQ ?_;refine cP ?_;refine aA (oS (k:=path.length) rf rf (by omega) (by omega)) rfl ?_;refine J1 ?_;refine qQ ?_;refine aB ?_;refine aH (cV (hc:=λ w1 hw=>tF hh ((path.length-1:Nat):Int) w1)) (λ x23=>?_);refine J1 ?_;refine vp ?_;refine aH (cV (hc:=λ w1 hw=>Mw (v:=v) hv (eP c.h (path.length-1)) (hf.xZ (hw.cl (.old (mU.eU hAx))) (hw.cl (.old (mU.eU hAy)))))) (λ x27=>?_);refine Ez ?_;refine Ke9 ?_;refine aX (λ c31=>?_) (λ c31=>?_);·refine J0 ?_;refine aH (cV (hc:=λ w1 hw=>zO w1)) (λ x32=>?_);refine aM (cC λ _=>aC rf bI rf (aY _) cY rf dM) (λ _=>?_);refine aE ?_;refine bF results260 (λ w hw=>?_);exact⟨(fE (eG false 0),[],AS.wr a0 b u c exp g path x0),rfl,⟨sq hmm e hk3 (Bz (by simpa using c31)) ⟨rfl,rfl⟩,ok,AS.fF.refl _⟩,hw.rI⟩
 ·refine bG ?_;refine Pc ?_;refine Kd0 ?_;refine aI (oI ((iU v.c (eP c.h (path.length-1))).getD 0) ok hm hA hbb) (λ x39 h39=>?_);refine aJ (λ x11=>?_);refine J5 ?_;refine Ga ?_;refine E2 ?_;refine aX (λ c42=>?_) (λ c42=>?_)
  ·refine aL ?_;refine K2b ?_;refine hY ?_;refine mD ?_;refine aCi ?_;refine dA ?_;refine aX (λ c49=>?_) (λ c49=>?_);·refine J0 ?_;refine aH (cV (hc:=λ w1 hw=>zO w1)) (λ x50=>?_);refine aM (cC λ _=>aC rf bI rf (aY _) cY rf dM) (λ _=>?_);refine aE ?_;refine bF results260 (λ w hw=>?_);refine⟨(fE (eG false 0),[],AS.wr a0 b u c exp g path x0),rfl,⟨jh hmm hbb e hk3 (jY (by simpa using c31)) ?_,ok,AS.fF.refl _⟩,hw.rI⟩;rw[if_pos (by rw[cE];exact c42),if_neg (by rw[cE];exact c49)];exact⟨rfl,rfl⟩
   ·refine lL ?_;refine J2 ?_;refine J3 ?_;refine aH (cV (hc:=λ w1 hw=>L7 (hw.st.at bI) _)) (λ x54=>?_);refine pU ?_;refine aX (λ c55=>?_) (λ c55=>?_);·exact nv c55
    ·refine lL ?_;refine eO [(0,[]),(1,[]),(2,[]),(3,[]),(4,[]),(5,[]),(7,[]),(8,[]),(6,[8]),(9,[]),(10,[])] ?_;refine yS ?_;refine aP ?_;refine bH ?_;refine yS ?_;refine hY ?_;refine bE (i:=6) (hq:=(cM (V:=λ y:Nd×(Option Addr×Nat)×(Option Addr×Option Addr)=>(woN v (eP c.h (path.length-1)) ((path.length-1:Nat):Int) y).v) (hs:=[(b,dV (AS.wr a0 b u c exp g path x0)),(u,ij b c exp g path x0)]) (os:=iS (AS.wr a0 b u c exp g path x0)) (hs':=λ _=>[(b,dV (AS.wr a0 b u c exp g path x0)),(u,ij b c exp g path x0)]) (os':=λ _=>iS (AS.wr a0 b u c exp g path x0)) (Fc:=λ y=>[(y.2.2.1,aT (p8 v (eP c.h (path.length-1)) ((path.length-1:Nat):Int) y)),(y.2.2.2,dF (te v (eP c.h (path.length-1)) ((path.length-1:Nat):Int) y))]) (A0:=A) (hc:=λ w1 hw=>Rt hv hf hc1 hAx hAy hpv (du hns e hk3 (jY (by simpa using c31)) (by rw[cE];exact c42) (by rw[cE];exact c49)) hso ok hm hA hw))) (h:=λ x65 h65=>?_);refine bE (i:=9) (hq:=(gK (A0:=(x65.2.2.1,aT (p8 v (eP c.h (path.length-1)) ((path.length-1:Nat):Int) x65))::(x65.2.2.2,dF (te v (eP c.h (path.length-1)) ((path.length-1:Nat):Int) x65))::A) (hA:=bV.Tq) (λ w1 hw=>E0 (v:=((aK (aV a0.L) ((iU v.c (eP c.h (path.length-1))).getD 0)).nd.val)) (g:=g) (x0:=x0) (m:=m) (nd:=woN v (eP c.h (path.length-1)) ((path.length-1:Nat):Int) x65) (xs:=p8 v (eP c.h (path.length-1)) ((path.length-1:Nat):Int) x65) (ys:=te v (eP c.h (path.length-1)) ((path.length-1:Nat):Int) x65) hd ht hh hpv hp hl1 hmm (V1 _ _ _ _ _ (tB _ _) (tP _ _) _).1 (V1 _ _ _ _ _ (tB _ _) (tP _ _) _).2 (hwl _) (hwy _) (hnw _ h65.2.1) ((O5 _ _ _ _ _ _).1.imp id λ h=>by rw[h];exact .head _) ((O5 _ _ _ _ _ _).2.imp id λ h=>by rw[h];exact .tail _ (.head _)) ok ⟨Nat.le_trans hm0.1 (by decide),Nat.le_trans hm0.2 (by decide)⟩ (λ f hf=>.tail _ (.tail _ (hA f hf))) (λ f hf=>.tail _ (.tail _ (hB f hf))) hw))) (h:=λ x68 h68=>?_);refine eT (i:=10) (hq:=(cC λ _=>aC rf bI rf (aY _) cY rf dM)) (h:=λ _=>?_);refine dA ?_;refine bF results260 (λ w hw=>?_);refine⟨(x68.1,x68.2.1++[(x65.2.2.1,aT (p8 v (eP c.h (path.length-1)) ((path.length-1:Nat):Int) x65)),(x65.2.2.2,dF (te v (eP c.h (path.length-1)) ((path.length-1:Nat):Int) x65))],x68.2.2),rfl,⟨jh hmm hbb e hk3 (jY (by simpa using c31)) ?_,h68.2.1,h68.2.2.more λ f hf=>List.mem_append_left _ hf⟩,hw.ret E0a (bM.dB λ f hf=>hf) E0a⟩;rw[if_pos (by rw[cE];exact c42),if_pos (by rw[cE];exact c49)];refine aAx hv (du hns e hk3 (jY (by simpa using c31)) (by rw[cE];exact c42) (by rw[cE];exact c49)) hso h65.1 h65.2.1 h65.2.2.1 h65.2.2.2 ?_;have h1:=h68.1;rw[cE];refine eH.more h1 λ y hy=>?_;simp only[List.mem_append] at hy ⊢
     exact hy.imp .inl id
  ·refine lL ?_;refine K2b ?_;refine hY ?_;refine mD ?_;refine uI ?_;refine dA ?_;refine aX (λ c75=>?_) (λ c75=>?_);·exact absurd (Mu hns e hk3 (jY (by simpa using c31)) (by rw[cE];exact c42)).1.2 (by rw[cE];exact c75)
   ·refine yO ?_;refine aI (gK (A0:=A) (λ w1 hw=>aDB hV ht hpv hp hl hbb (Mu hns e hk3 (jY (by simpa using c31)) (by rw[cE];exact c42)).2 ok hm0 hA hB hw)) (λ x94 h94=>?_);refine aM (cC λ _=>aC rf bI rf (aY _) cY rf dM) (λ _=>?_);refine aE ?_;refine bF results260 (λ w hw=>?_);exact⟨x94,rfl,⟨jh hmm hbb e hk3 (jY (by simpa using c31)) (by rw[if_neg (by rw[cE];exact c42),if_pos (Mu hns e hk3 (jY (by simpa using c31)) (by rw[cE];exact c42)).1];exact h94.1),h94.2⟩,hw.rN⟩
end
end
section
section
variable{D:List Nat}{A B:Fr}{a:AS}{b u:Nat}{w:World}{c:qB}{exp g:Int}{path:List Int}{x0:Option Addr×Nat}
theorem Zk{T:Tr}(hd:a9 b u c exp T){s:Mm}(hpv:s.pv=Jv b u c exp g path x0)(k:Bool):kF b 258 ⟨[pt u],[]⟩ [.bool k] B s T:=by intro a D A w em ok hm0 hA hB hw0;subst em;refine K2l ?_;intro hm;obtain⟨a0,rfl⟩:∃a0:AS,a=AS.wr a0 b u c exp g path x0:=⟨a,qT hpv⟩;refine enter func258 ntmps258 rfl rfl hw0 ?_;simp only[cN];refine K2f ?_;intro x4;refine Kb5 ?_;refine aI (gK (λ w1 hw=>hd (AS.wr a0 b u c exp g path x0) _ A _ w1 g path x0 hpv ok hm hA hB hw)) (λ x6 h6=>?_);refine aM (cC λ _=>aC rf bI rf (aY _) cY rf dM) (λ _=>?_);refine aE ?_;refine bF results258 (λ w hw=>?_);exact⟨x6,rfl,h6,hw.rN⟩
set_option maxRecDepth 100000 in
theorem L6{T:Tr}{n:Nat}(hd:a9 b u c exp T)(hV:∀k,n=k+1->∀bb,FVr b u c exp T g k (path++[bb]))(ht:c.t.root<=9223372036854775807)(hh:c.h<18446744073709551616)(hl1:1<=path.length)(hl:path.length<=99):FVr b u c exp T g n path:=by
 intro B m x0 s hpv hp hmm hns a D A w em ok hm0 hA hB hw0;subst em;refine K2l ?_;intro hm;obtain⟨a0,rfl⟩:∃a0:AS,a=AS.wr a0 b u c exp g path x0:=⟨a,qT hpv⟩;have nm:=pP ok m;have k36:=tg hns (cE (a:=AS.wr a0 b u c exp g path x0) m);have hK:O4 b (λ _=>T) (AS.wr a0 b u c exp g path x0).mm 258 ⟨[pt u],[]⟩ B:=⟨by kernel_rfl,λ k s1 l1 _=>Zk hd (l1.pv.trans rfl) k⟩;refine enter func212 ntmps212 rfl rfl hw0 ?_;simp only[cN]
 refine K2f ?_;intro x4;refine aE ?_;refine Pc ?_;refine Kd0 ?_;refine aI (oI m ok hm hA hmm) (λ x14 h14=>?_);refine aJ (λ x5=>?_);refine J5 ?_;refine Ga ?_;refine Kb6 ?_;refine kT ?_;refine aX (λ c17=>?_) (λ c17=>?_)
 ·have h2:2<=path.length:=vk hns (cE (a:=AS.wr a0 b u c exp g path x0) m) (by assumption);refine qQ ?_;refine cP ?_;refine aA (oS (k:=path.length) rf rf (by omega) (by omega)) rfl ?_;refine J1 ?_;refine Ka9 ?_;refine vI ?_;refine aE ?_;refine aX (λ c26=>?_) (λ c26=>?_)
  ·refine Cg ?_;refine bN ?_;refine Kd0 ?_;refine aA (oS (k:=path.length-1) rf rf (by omega) (by omega)) rfl ?_;refine aA (lY (lst:=path) (k:=path.length-1-1) rf rf dP eL fin (by omega) (by omega)) rfl ?_;refine aA (tA (lst:=path) (q:=path.length-1-1) rf eL fin (by omega)) rfl ?_;refine lX ?_;refine fO [0,1,2,3,4,5,6,7,8,9,10,11,12,13,14,15,16,17,18,19,20,21] ?_;refine J9 ?_;refine K1t ?_;refine Em ?_;refine aP ?_;refine K3c ?_;refine Kd4 ?_;refine cD (i:=17) (hq:=(oS (k:=path.length-1) rf rf (by omega) (by omega))) (h:=?_);refine aP ?_;refine cD (i:=19) (hq:=(jA Jp Jp)) (h:=?_);refine bE (i:=20) (hq:=(gK (A0:=A) (λ w1 hw=>Kk ht hh hK (hp.at _) (hp.at _) ok hm hA hB hw))) (h:=λ x55 h55=>?_);refine eT (i:=21) (hq:=(cC λ _=>aC rf bI rf (aY _) cY rf dM)) (h:=λ _=>?_);refine dA ?_;refine bF results212 (λ w hw=>?_);exact⟨x55,rfl,⟨qi (v:=(aK (aV a0.L) m).at_ x14.1 x14.2) hmm (cE m) c17 h2 (by rw[show path.length-2=path.length-1-1 by omega];exact h55.1),h55.2⟩,hw.rN⟩
  ·exfalso;omega
 ·refine kT ?_;refine aX (λ c56=>?_) (λ c56=>?_);·refine lV ?_;refine bO ?_;refine aI (gK (A0:=(x14.1,aT (aK (aV a0.L) m).xs)::(x14.2,dF (aK (aV a0.L) m).ys)::A) (hA:=E0m) (λ w1 hw=>jq (T:=T) (v:=(aK (aV a0.L) m).at_ x14.1 x14.2) hd ht hh nm (dW.rH (iW ok.fit.all m) _ _) (Nat.le_refl _) (Fg (v:=(aK (aV a0.L) m).at_ x14.1 x14.2) hns (cE m) (by assumption)).1 (.head _) (.tail _ (.head _)) hpv hp hl1 hmm (Fg (v:=(aK (aV a0.L) m).at_ x14.1 x14.2) hns (cE m) (by assumption)).2 ok hm0 (λ f hf=>.tail _ (.tail _ (hA f hf))) (λ f hf=>.tail _ (.tail _ (hB f hf))) hw)) (λ x61 h61=>?_);refine aM (cC λ _=>aC rf bI rf (aY _) cY rf dM) (λ _=>?_);refine aE ?_;refine bF results212 (λ w hw=>?_);exact⟨x61,rfl,⟨uj (v:=(aK (aV a0.L) m).at_ x14.1 x14.2) hmm (cE m) c56 (Fg (v:=(aK (aV a0.L) m).at_ x14.1 x14.2) hns (cE m) c56).1 (Fg (v:=(aK (aV a0.L) m).at_ x14.1 x14.2) hns (cE m) c56).2 h61.1,h61.2⟩,hw.rN⟩
  ·refine kT ?_;refine aX (λ c62=>?_) (λ c62=>?_);·refine lV ?_;refine bO ?_;refine aI (gK (A0:=(x14.1,aT (aK (aV a0.L) m).xs)::(x14.2,dF (aK (aV a0.L) m).ys)::A) (hA:=E0m) (λ w1 hw=>Zl (T:=T) (n:=n) (v:=(aK (aV a0.L) m).at_ x14.1 x14.2) hd hV ht hh nm (dW.rH (iW ok.fit.all m) _ _) (Nat.le_refl _) (.head _) (.tail _ (.head _)) (cE m) (by assumption) hns hpv hp hl1 hl hmm ok hm0 (λ f hf=>.tail _ (.tail _ (hA f hf))) (λ f hf=>.tail _ (.tail _ (hB f hf))) hw)) (λ x67 h67=>?_);refine aM (cC λ _=>aC rf bI rf (aY _) cY rf dM) (λ _=>?_);refine aE ?_;refine bF results212 (λ w hw=>?_);exact⟨x67,rfl,h67,hw.rN⟩
   ·rcases k36 with k|k|k<;>exact absurd k (by assumption)
theorem xg{T:Tr}(hd:a9 b u c exp T)(ht:c.t.root<=9223372036854775807)(hh:c.h<18446744073709551616):∀(n:Nat) (path:List Int),1<=path.length->path.length+n<=99->FVr b u c exp T g n path
 | 0,path,h1,h=>L6 hd (λ k e=>by cases e) ht hh h1 h
 | n+1,path,h1,h=>L6 hd (λ k e bb=>by cases e;exact xg hd ht hh n (path++[bb]) (by simp) (by simp;omega)) ht hh h1 (by omega)
theorem ae{T:Tr}(hd:a9 b u c exp T)(ht:c.t.root<=9223372036854775807)(hh:c.h<18446744073709551616){r:Int}{s:Mm}(hpv:s.pv=Jv b u c exp g path x0)(hr:r<=s.nodes.length):kF b 131 ⟨[pt u],[]⟩ [.int .i64 r] B s (.node r λ nr=>Ab c T nr.gen 12 [r]):=by
 intro a D A w em ok hm0 hA hB hw0;subst em;refine K2l ?_;intro hm;obtain⟨a0,rfl⟩:∃a0:AS,a=AS.wr a0 b u c exp g path x0:=⟨a,qT hpv⟩;have ok2:(AS.wr a0 b u c exp (aK (aV a0.L) r).nd.gen [] (none,0)).Ok:=⟨ok.fit,⟨ok.mo.nd,ok.mo.cs,ok.mo.two⟩⟩;refine enter func131 ntmps131 rfl rfl hw0 ?_;simp only[cN]
 refine K2f ?_;intro x4;refine Ke2 ?_;refine P3 ?_;refine Kd0 ?_;refine aI (oI r ok hm hA hr) (λ x12 h12=>?_);refine nV ?_;refine E4 ?_;refine J13 ?_;refine Qd ?_;refine lV ?_;(refine aH (aW.pre (λ w h=>h.gN 39 1) (gK (a:=AS.wr a0 b u c exp (aK (aV a0.L) r).nd.gen [] (none,0)) (A0:=A) (λ w1 hw=>P8 (n:=11) (bb:=r) (g:=(aK (aV a0.L) r).nd.gen) (path:=[]) (x0:=(none,0)) (xg hd ht hh 11 [r] (Nat.le_refl _) (show(12:Nat)<=99 by decide)) ht rfl ⟨λ q hq=>(List.not_mem_nil hq).elim,by decide⟩ (by decide) hr ok2 hm0 hA hB hw))) (λ x21=>?_);try (refine dQ (λ h21=>?_)));refine aM (cC λ _=>aC rf bI rf (aY _) cY rf dM) (λ _=>?_);refine aE ?_;refine bF results131 (λ w hw=>?_);exact⟨x21,rfl,⟨⟨hr,by rw[cE];exact eH.yx (Jv b u c exp g path x0) h21.1⟩,h21.2.1,⟨⟨h21.2.2.le.nodes,h21.2.2.le.cl⟩,h21.2.2.fam⟩⟩,hw.ret E0a (bM.dB λ f hf=>List.mem_append_left _ hf) E0d⟩
theorem v8:a9 b u c exp .stuck:=by intro a D A B w g path x e ok hm hA hB hs;obtain⟨a0,rfl⟩:∃a0:AS,a=AS.wr a0 b u c exp g path x:=⟨a,qT e⟩;refine enter func94 ntmps94 rfl rfl hs ?_;simp only[cN];refine K1e ?_;intro x2;refine aI (gK (A0:=A) (λ w1 hw=>Sh (B:=B) (f:=131) (cap:=⟨[pt u],[]⟩) ok hm hw)) (λ x9 h9=>?_);refine aM (cC λ _=>aC rf bI rf (aY _) cY rf dM) (λ _=>?_);refine aE ?_;refine bF results94 (λ w hw=>?_);exact⟨x9,rfl,⟨trivial,h9.2⟩,hw.rN⟩
theorem vh{K:Int->Tr}(ht:c.t.root<=9223372036854775807)(hb:∀(s:Mm) (B:Fr) (g:Int) (path:List Int) (x:Option Addr×Nat) (r:Int),s.pv=Jv b u c exp g path x->r<=s.nodes.length->kF b 131 ⟨[pt u],[]⟩ [.int .i64 r] B s (K r)):a9 b u c exp (B7 c.t K):=by
 intro a D A B w g path x e ok hm hA hB hs;obtain⟨a0,rfl⟩:∃a0:AS,a=AS.wr a0 b u c exp g path x:=⟨a,qT e⟩;have hT:tJ b K (AS.wr a0 b u c exp g path x).mm 131 ⟨[pt u],[]⟩ B:=⟨by kernel_rfl,λ r s1 l1 hr _=>hb s1 B g path x r l1.pv hr⟩;refine enter func94 ntmps94 rfl rfl hs ?_;simp only[cN]
 refine K1e ?_;intro x2;refine aI (gK (A0:=A) (λ w1 hw=>Ml ht hT ok hm hA hB hw)) (λ x9 h9=>?_);refine aM (cC λ _=>aC rf bI rf (aY _) cY rf dM) (λ _=>?_);refine aE ?_;refine bF results94 (λ w hw=>?_);exact⟨x9,rfl,h9,hw.rN⟩
theorem n7(ht:c.t.root<=9223372036854775807)(hh:c.h<18446744073709551616):∀n,a9 b u c exp (sS c n)
 | 0=>v8
 | n+1=>vh ht λ _ _ _ _ _ _ hpv hr=>ae (n7 ht hh n) ht hh hpv hr
end
end
section
section
variable{D:List Nat}{A B:Fr}{a:AS}{b u:Nat}{w:World}{t:oB}{c:qB}{exp:Int}
theorem ep{n:Nat}(hd:a9 b u c exp (sS c n))(hk:c.key.size<=64){g:Int}{path:List Int}{x0:Option Addr×Nat}{s:Mm}{b1 b3:Nat}(hpv:s.pv=Jv b u c exp g path x0):kF b 93 [pt b1,pt b3] [] (bx b1 [.string c.key]::bx b3 [pt u]::B) s (sS c n):=by
 intro a D A w em ok hm0 hA hB hw0;subst em;refine K2l ?_;intro hm;refine enter func93 ntmps93 rfl rfl hw0 ?_;simp only[cN];refine J0 ?_;refine aJ (λ x2=>?_);refine pJ ?_;refine J0 ?_;refine aA (fG b1 [.string c.key] 0 hB rfl) rfl ?_;refine aH (cV (hc:=λ w1 hw=>sA c.key w1)) (λ x4=>?_);refine pU ?_;refine aX (λ c5=>?_) (λ c5=>?_);·refine Ke0 ?_;refine aH (cV (hc:=λ w1 hw=>oX erR w1)) (λ x7=>?_);refine aM (cC λ _=>aC rf bI rf (aY _) cY rf dM) (λ _=>?_);refine aE ?_;refine bF results93 (λ w hw=>?_);exfalso;omega
 ·refine Kc4 ?_;refine aA (fG b3 [pt u] 0 hB rfl) rfl ?_;refine aI (gK (λ w1 hw=>hd a _ A _ w1 g path x0 hpv ok hm hA hB hw)) (λ x9 h9=>?_);refine aM (cC λ _=>aC rf bI rf (aY _) cY rf dM) (λ _=>?_);refine aE ?_;refine bF results93 (λ w hw=>?_);exact⟨x9,rfl,h9,hw.rN⟩
theorem vb{m n:Nat}{key:ByteArray}{exp:Int}(ht:t.root<=9223372036854775807)(hm0:m<18446744073709551616)(hk:key.size<=64)(hT:∀π:Pv,Ns (sS ⟨t,key,mV key m⟩ n) (AS.wq a π.1.1 π.1.2 π.2).mm)(ok:a.Ok)(hm:a.mm.iL)(hA:∀f∈dD a.L,f∈A)(hB:∀x∈B,x∈A)(hs:SF w D [(b,dV a)] A [] (kM a) w) :
  Calls prog 65 #[.iface 63 (.pointer (some ⟨b,0,none⟩)),.agg ⟨[.int .i64 t.root,.bool t.ro]⟩,.int .u64 (m:Int),.string key,.bool false,.int .u64 exp] w λ e w'=>∃x:Nat×Cd×Fr×AS,e=.returned (.pointer (some ⟨x.1,0,none⟩))/\(∃π:Pv,qL b (Ct.jT (sS ⟨t,key,mV key m⟩ n) (AS.wq a π.1.1 π.1.2 π.2).mm) (AS.wq a π.1.1 π.1.2 π.2) B x.2/\fI (Ct.jT (sS ⟨t,key,mV key m⟩ n) (AS.wq a π.1.1 π.1.2 π.2).mm).1=true)/\SF w D [(x.1,tO b x.2.1 0),(x.2.2.2.u,x.2.2.2.po),(b,dV x.2.2.2)] [] x.2.2.1 (iS x.2.2.2) w':=by
 have h0:=G9 key m;have okw:∀u o l,(AS.wq a u o l).Ok:=λ u o l=>⟨ok.fit,⟨ok.mo.nd,ok.mo.cs,ok.mo.two⟩⟩;refine enter func65 ntmps65 rfl rfl hs ?_;simp only[cN]
 refine J0 ?_;refine bC (λ x7=>?_);refine bC (λ x9=>?_);refine lX ?_;refine nX [13,14,15,16,17,18,19,20,21,22,23,24] (λ j:Nat×Nat=>[(13,.pointer (some ⟨j.1,0,none⟩))]) (λ _=>True) (λ j=>[(j.1,.cells ⟨[pt j.2]⟩ 205 (0,0)),(j.2,ij b ⟨t,key,mV key m⟩ exp 0 [] (none,0)),(x9,.cells ⟨[.string key]⟩ 9 (0,0)),(x7,.cells ⟨[.int .i64 t.root,.bool t.ro]⟩ 42 (0,0)),(b,dV a)]) (λ _=>[]) (λ _=>kM a) (by decide) (λ _=>by exact rfl) ?_ (λ j f hx=>?_)
 ·refine kR (.one 0 [] (.one 1 [] (.one 2 [] (.one 3 [] (.one 4 [] (.one 5 [] (.one 7 [] (.one 8 [] (.two 6 [1,3] (.one 9 [] (.two 10 [] (.one 11 [1,3,4] (.one 12 [] .nil)) 0 [] (.two 11 [1,3,4] (.one 10 [] (.one 12 [] .nil)) 0 [] .nil))) 0 [] (.two 11 [1,3,4] (.one 6 [1,3] (.one 9 [] (.one 10 [] (.one 12 [] .nil)))) 0 [] .nil)))))))))) ?_;refine aP ?_;refine bH ?_;refine iZ ?_;refine bH ?_;refine bH ?_;refine yS ?_;refine aP ?_;refine jF (E:=[6,11]) (by decide +kernel) ((.cons ?_ (.cons ?_ .nil)))
  ·refine lN (i:=6) (hq:=(cV (hc:=λ w1 hw=>pZ key hm0 (by omega) w1))) (h:=λ x20=>?_);refine iZ ?_;refine jF (E:=[10,11]) (by decide +kernel) ((.cons ?_ (.cons ?_ .nil)));·refine ed (i:=10) (h:=λ x24=>?_);refine bR (i:=11) (hq:=(cC λ _=>qP (z:=.pointer none) (by kernel_rfl) rfl)) (h:=λ x13=>?_);refine L8 ?_;refine lZ ((x13,x24)) ?_ (hw1:=E0q);·trivial
   ·refine lN (i:=11) (hq:=(cC λ _=>qP (z:=.pointer none) (by kernel_rfl) rfl)) (h:=λ x13=>?_);refine Ey (h:=λ x24=>?_);refine K2w ?_;·trivial
  ·refine lN (i:=11) (hq:=(cC λ _=>qP (z:=.pointer none) (by kernel_rfl) rfl)) (h:=λ x13=>?_);refine bR (i:=6) (hq:=(cV (hc:=λ w1 hw=>pZ key hm0 (by omega) w1))) (h:=λ x20=>?_);refine iZ ?_;refine Ey (h:=λ x24=>?_);refine K2w ?_;·trivial
 refine K0c ?_;refine J2 ?_;refine K2m ?_;(refine aH (aW.pre (λ w h=>(show SF _ _ [_,_,(b,dV a)] _ ([bx x9 [.string key],bx j.1 [pt j.2]]:Fr) _ w from((h.bS .head).bS (.tail .head)).gN 39 1)) (Og (V:=λ x:Nat×Cd×Fr×AS=>.pointer (some ⟨x.1,0,none⟩)) (hs:=[(b,dV (AS.wr a b j.2 ⟨t,key,mV key m⟩ exp 0 [] (none,0))),(j.2,ij b ⟨t,key,mV key m⟩ exp 0 [] (none,0))]) (os:=iS (AS.wr a b j.2 ⟨t,key,mV key m⟩ exp 0 [] (none,0))) (hs':=λ x=>[(b,dV x.2.2.2),(x.2.2.2.u,x.2.2.2.po)]) (Hc:=λ x=>[(x.1,tO b x.2.1 0)]) (os':=λ x=>iS x.2.2.2) (Oc:=λ _=>[]) (Fc:=λ x=>x.2.2.1) (A0:=[bx x9 [.string key],bx j.1 [pt j.2]]++A) (hA:=bV.vX) (hc:=λ w1 hw=>Da (a:=AS.wr a b j.2 ⟨t,key,mV key m⟩ exp 0 [] (none,0)) (B:=[bx x9 [.string key],bx j.1 [pt j.2]]++B) (hT (Jv b j.2 ⟨t,key,mV key m⟩ exp 0 [] (none,0))) ⟨by kernel_rfl,λ s1 l _=>ep (c:=⟨t,key,mV key m⟩) (n7 ht h0 n) hk (l.pv.trans rfl)⟩ (okw _ _ _) hm (λ f hf=>List.mem_append_right _ (hA f hf)) (mM hB) hw))) (λ x27=>?_);try (refine dQ (λ h27=>?_)));refine J1 ?_;refine bJ results65 (λ w hw=>?_);exact⟨(x27.1,x27.2.1,x27.2.2.1++[bx x9 [.string key],bx j.1 [pt j.2]],x27.2.2.2),rfl,⟨Jv b j.2 ⟨t,key,mV key m⟩ exp 0 [] (none,0),qL.w6 h27.1,h27.2⟩,hw.ret E0d (bM.dB λ f hf=>hf) E0h⟩
end
end
section
section
variable{D:List Nat}{A B:Fr}{a:AS}{b bT m bo bt bi:Nat}{w:World}{t:oB}{o:jX}
theorem Ol(ho:o.kind=5)(ht:t.root<=9223372036854775807)(hm0:m<18446744073709551616)(hk:o.key.size<=64)(hT:∀q:Pv,Ns (sS ⟨t,o.key,mV o.key m⟩ jW) (AS.wq a q.1.1 q.1.2 q.2).mm)(ok:a.Ok)(hm:a.mm.iL)(hA:∀f∈dD a.L,f∈A)(hB:∀x∈B,x∈A)(hs:SF w D [(bT,sL b m bo bt bi),(b,dV a)] A [] (kM a) w) :
  Calls prog 43 #[pt bT,.agg ⟨[.int .i64 t.root,.bool t.ro]⟩,.agg ⟨o.cells⟩] w λ e w'=>∃x:Nat×Cd×Fr×AS,e=.returned (.pointer (some ⟨x.1,0,none⟩))/\(∃q:Pv,qL b (Ct.jT (sS ⟨t,o.key,mV o.key m⟩ jW) (AS.wq a q.1.1 q.1.2 q.2).mm) (AS.wq a q.1.1 q.1.2 q.2) B x.2/\fI (Ct.jT (sS ⟨t,o.key,mV o.key m⟩ jW) (AS.wq a q.1.1 q.1.2 q.2).mm).1=true)/\SF w D [(x.1,tO b x.2.1 0),(x.2.2.2.u,x.2.2.2.po),(bT,sL b m bo bt bi),(b,dV x.2.2.2)] [] x.2.2.1 (iS x.2.2.2) w':=by
 refine enter func43 ntmps43 rfl rfl hs ?_;simp only[cN];simp only[jX.cells,ho];refine J0 ?_;refine bC (λ x4=>?_);refine bC (λ x5=>?_);refine lX ?_;refine K3i ?_;refine aX (λ c9=>?_) (λ c9=>?_);·exact nv c9
 ·try (first|contradiction|(exfalso;omega))
  refine kT ?_;refine aX (λ c9=>?_) (λ c9=>?_);·exact nv c9
  ·try (first|contradiction|(exfalso;omega))
   refine kT ?_;refine aX (λ c9=>?_) (λ c9=>?_);·exact nv c9
   ·try (first|contradiction|(exfalso;omega))
    refine eC ?_;refine Sx ?_;refine aX (λ c9=>?_) (λ c9=>?_);·exact nv c9
    ·try (first|contradiction|(exfalso;omega))
     refine Kd5 ?_;refine aX (λ c33=>?_) (λ c33=>?_)
     ·try (first|contradiction|(exfalso;omega))
      refine bG ?_;refine aX (λ c33=>?_) (λ c33=>?_)
      ·try (first|contradiction|(exfalso;omega))
       refine aL ?_;refine fO [0,1,2,3,4,5,6,7,8,9,10,11,12,13,14,15,16,17] ?_;refine mD ?_;refine aS (i:=4) (hq:=(cJ (k:=2) (vs:=[.int .i64 t.root,.bool t.ro]) rf bI cY rfl rfl)) (h:=?_);refine mD ?_;refine Kc6 ?_;refine uB ?_;refine hY ?_;refine bE (i:=16) (hq:=(Og (V:=λ x:Nat×Cd×Fr×AS=>.pointer (some ⟨x.1,0,none⟩)) (hs:=[(b,dV a)]) (os:=kM a) (hs':=λ x=>[(b,dV x.2.2.2)]) (Hc:=λ x=>[(x.1,tO b x.2.1 0),(x.2.2.2.u,x.2.2.2.po)]) (os':=λ x=>kM x.2.2.2) (Oc:=λ x=>[x.2.2.2.pl]) (Fc:=λ x=>x.2.2.1) (A0:=A) (hc:=λ w1 hw=>(vb (exp:=o.exp) ht hm0 hk hT ok hm hA hB hw).mono λ _ _ ⟨x,e,h,hw⟩=>⟨x,e,h,by exact hw.perm (List.perm_append_comm (l₁:=[(b,dV x.2.2.2)]) (l₂:=[(x.1,tO b x.2.1 0),(x.2.2.2.u,x.2.2.2.po)])) (List.perm_append_comm (l₁:=kM x.2.2.2) (l₂:=[x.2.2.2.pl]))⟩))) (h:=λ x52 h52=>?_);refine J7 ?_;refine bJ results43 (λ w hw=>?_);exact⟨x52,rfl,h52,hw.ret E0d (bM.dB λ f hf=>by simpa using hf) E0h⟩
      ·exact nv c33
     ·exact nv c33
end
end
section
theorem tG(m:Nat)(o:jX)(s:Mm):Ct.jT (pS m o) s=(pS m o,s):=by
 unfold pS;split;·rfl
 ·split<;>rfl
theorem H8(m:Nat)(o:jX):fI (pS m o)=true:=by
 unfold pS;split;·rfl
 ·split<;>rfl
theorem H2(m:Nat)(o:jX):(pS m o).live=true:=by
 unfold pS;split;·rfl
 ·split<;>rfl
theorem Um(m:Nat)(o:jX):pS m o≠.stuck:=λ h=>by have h2:=H8 m o;rw[h] at h2;cases h2
theorem v5{m:Nat}{o:jX}(ho:o.kind=7)(hk:o.key.size<=64):dh t3 (mV o.key m) o.key jW=pS m o:=by unfold dh pS;rw[if_pos hk,if_pos ho]
def Yz(b:Nat)(T:Tr)(s2:Mm)(a:AS)(B:Fr)(y:Cd×Fr×AS):Prop:=eH b T y.2.2.mm y.1 y.2.2.mm (y.2.1++B)/\y.2.2.mm=s2.wp y.2.2.pv/\y.2.2.Ok/\a.fF y.2.2 y.2.1
variable{b:Nat}{a:AS}{B:Fr}{T:Tr}{s:Mm}{π:Pv}
theorem vR{p:Tr×Mm}{y:Cd×Fr×AS}(h:qL b p a B y):Yz b p.1 p.2 a B y:=⟨h.1.1,h.1.2,h.2.1,h.2.2⟩
theorem na{y:Cd×Fr×AS}{q:Nat×Obj}(h:Yz b T (s.wp π) (AS.wp a q.1 q.2) B y):Yz b T s a B y:=⟨h.1,h.2.1,h.2.2.1,⟨⟨h.2.2.2.le.nodes,h.2.2.2.le.cl⟩,h.2.2.2.fam⟩⟩
theorem aAb{y:Cd×Fr×AS}{q:Pv}(h:Yz b T (s.wp π) (AS.wq a q.1.1 q.1.2 q.2) B y):Yz b T s a B y:=⟨h.1,h.2.1,h.2.2.1,⟨⟨h.2.2.2.le.nodes,h.2.2.2.le.cl⟩,h.2.2.2.fam⟩⟩
section
variable{D:List Nat}{A B:Fr}{a:AS}{b bT m bo bt bi:Nat}{w:World}{o:jX}
theorem Ys(ho:Gs o)(hm0:m<18446744073709551616)(ok:a.Ok)(hm:a.mm.iL)(hA:∀f∈dD a.L,f∈A)(hB:∀x∈B,x∈A)(hs:SF w D [(bT,sL b m bo bt bi),(b,dV a)] A [] (kM a) w) :
  Calls prog 43 #[pt bT,.agg ⟨[.int .i64 3,.bool false]⟩,.agg ⟨o.cells⟩] w λ e w'=>∃x:Nat×Cd×Fr×AS,e=.returned (.pointer (some ⟨x.1,0,none⟩))/\Yz b (pS m o) a.mm a B x.2/\SF w D [(x.1,tO b x.2.1 0),(x.2.2.2.u,x.2.2.2.po),(bT,sL b m bo bt bi),(b,dV x.2.2.2)] [] x.2.2.1 (iS x.2.2.2) w':=by
 by_cases h7:o.kind=7;·have e:=v5 (m:=m) h7 ho.key;refine(Kh (t:=t3) h7 (by decide) hm0 ho.key (λ q=>by unfold Ns;rw[e,tG];exact Um m o) ok hm hA hB hs).mono λ en w' ⟨x,e1,⟨q,hq,_⟩,hw⟩=>⟨x,e1,?_,hw⟩;rw[e,tG] at hq;exact na (s:=a.mm) (π:=((q.1,q.2),Hv)) (vR hq)
 by_cases h5:o.kind=5
 ·have e:sS ⟨t3,o.key,mV o.key m⟩ jW=pS m o:=by unfold pS;rw[if_neg h7,if_pos h5]
  refine(Ol (t:=t3) h5 (by decide) hm0 ho.key (λ q=>by unfold Ns;rw[e,tG];exact Um m o) ok hm hA hB hs).mono λ en w' ⟨x,e1,⟨q,hq,_⟩,hw⟩=>⟨x,e1,?_,hw⟩;rw[e,tG] at hq;exact aAb (s:=a.mm) (vR hq)
 ·have hk:o.kind=1∨o.kind=2∨o.kind=3∨o.kind=4:=by have:=ho.kind;omega
  have e:wE ⟨t3,o.key,mV o.key m,o.val,C4 o.kind,o.exp⟩ jW=pS m o:=by unfold pS;rw[if_neg h7,if_neg h5]
  refine(Nm (t:=t3) hk (by decide) hm0 ho.key (λ q=>by unfold Ns;rw[e,tG];exact Um m o) ok hm hA hB hs).mono λ en w' ⟨x,e1,⟨q,hq,_⟩,hw⟩=>⟨x,e1,?_,hw⟩;rw[e,tG] at hq;exact na (s:=a.mm) (π:=((q.1,q.2),Hv)) (vR hq)
end
end
end Go.Proofs.YtdeecdfockjoiaaGreatDoor

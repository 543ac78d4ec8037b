/- Tasks: Done, Next, Result, Steps. -/
import Derived.Test.YtbajmaoegmbfgaaGreatGDfr
import Derived.Test.YtbajmaoegmbfgaaGreatGTp2
import Derived.Test.YtbajmaoegmbfgaaGreatGNode3

set_option linter.unusedSimpArgs false
set_option linter.unusedVariables false
namespace Go.Ct
section
open Go Go.RowKit
theorem SF.same{w w':World}{b:Nat}{o:Obj}(h:SF w [b] [(b,o)] [] [] [] w')(hb:w.heap[b]?=some o):St w [] [] w' :=
 ⟨h.st.os,h.st.tape,h.st.output,h.st.size,λ k hk _=>by
  by_cases e:k=b
  ·subst e;rw[h.st.has (k,o) (List.mem_singleton.2 rfl),hb]
  ·exact h.st.kH k hk (by simpa using e),λ _ h=>(List.not_mem_nil h).elim,λ _ h=>(List.not_mem_nil h).elim,List.nodup_nil⟩
theorem SF.Uk{w:World}{b:Nat}{o:Obj}(hb:w.heap[b]?=some o):SF w [b] [(b,o)] [] [] [] w :=
 ⟨⟨rfl,rfl,rfl,Nat.le_refl _,λ _ _ _=>rfl,λ p hp=>by rw[List.mem_singleton.1 hp];exact hb,λ p hp=>by rw[List.mem_singleton.1 hp];exact .inl (List.mem_singleton.2 rfl),by simp⟩,λ _ h=>(List.not_mem_nil h).elim,λ _ h=>(List.not_mem_nil h).elim,λ _ h=>(List.not_mem_nil h).elim,by simp[Ks]⟩
end
end Go.Ct
namespace Go.Proofs.YtbajmaoegmbfgaaGreat
section
open Go Go.RowKit Go.Ct
abbrev tkC(b:Nat)(c:Cd)(n:Nat)(z:Bool):List Value:=[.iface 42 (.pointer (some ⟨b,0,none⟩)),.int .i64 c.a.k,.int .i64 c.a.c,.int .i64 c.a.o,.int .i64 c.a.n,fnV c.f,fnV c.g,.int .i64 c.r.err,.bool c.r.found,.int .u64 c.r.val,.string c.r.key,.int .i64 c.r.fZ,.int .i64 c.r.ref,.int .i64 c.r.root,.bool c.r.ro,.int .i64 ((n:Nat):Int),.bool z]
abbrev tO(b:Nat)(c:Cd)(n:Nat):Obj:=.cells ⟨tkC b c n false⟩ 141 (0,0)
section
variable{D:List Nat}{A B:Fr}{L:List aZ}{cs:List Int}{gen acc:Int}{pn pc:Option Addr}{cn cc b bt n:Nat}{w:World}{c:Cd}
theorem vS(h:w.heap[bt]?=some (tO b c n)):Calls Tryz.prog 33 #[.pointer (some ⟨bt,0,none⟩)] w λ e w'=>e=.returned (.bool (c.a.k==0))/\St w [] [] w':=by
 refine enter Tryz.func33 Tryz.ntmps33 rfl rfl (SF.Uk h) ?_
 simp only[bY]
 refine cR ?_;refine Ew ?_;refine aE ?_;refine J3 ?_;refine Wb ?_
 refine aT Tryz.results33 (λ w hw=>?_)
 exact⟨rfl,hw.aU.same h⟩
theorem Cu(h:w.heap[bt]?=some (tO b c n)):Calls Tryz.prog 63 #[.pointer (some ⟨bt,0,none⟩)] w λ e w'=>e=.returned (.int .i64 ((n:Nat):Int))/\St w [] [] w':=by
 refine enter Tryz.func63 Tryz.ntmps63 rfl rfl (SF.Uk h) ?_
 simp only[bY]
 refine cR ?_;refine lR ?_;refine J1 ?_
 refine aT Tryz.results63 (λ w hw=>?_)
 exact⟨rfl,hw.aU.same h⟩
theorem cy (h:w.heap[bt]?=some (tO b c n)):Calls Tryz.prog 133 #[.pointer (some ⟨bt,0,none⟩)] w fun e w'=>e=.returned (.tuple #[.agg ⟨(if c.a.k=0 then Ac.zero else c.a).cells⟩,.bool (c.a.k != 0)])∧St w [] [] w':=by
 refine enter Tryz.func133 Tryz.ntmps133 rfl rfl (SF.Uk h) ?_
 simp only [bY]
 refine J0 ?_;refine aI (fun x2=>?_);refine iZ ?_;refine J2 ?_;refine aR (cV (hc:=fun w1 hw=>vS (hw.st.at cL))) (fun x5=>?_);refine aH ?_
 refine bE (fun c5=>?_) (fun c5=>?_)
 ·refine J0 ?_;refine bJ ?_;refine zH ?_
  refine bD Tryz.results133 (fun w hw=>?_)
  refine⟨?_,hw.aU.same h⟩
  rw [if_pos (by simpa using c5),show (c.a.k != 0)=false by simpa using c5]
  rfl
 ·refine bB ?_;refine Ew ?_;refine aE ?_;refine aB (aN (k:=4) (vs:=c.a.cells) rf cL dJ rfl rfl) rfl ?_;refine zH ?_
  refine bD Tryz.results133 (fun w hw=>?_)
  refine⟨?_,hw.aU.same h⟩
  rw [if_neg (by simpa using c5),show (c.a.k != 0)=true by simpa using c5]
  rfl
theorem Tg(h:w.heap[bt]?=some (tO b c n)):Calls Tryz.prog 34 #[.pointer (some ⟨bt,0,none⟩)] w λ e w'=>e=.returned (.agg ⟨(if c.a.k=0 then c.r else Rs.zero).cells⟩)/\St w [] [] w':=by
 refine enter Tryz.func34 Tryz.ntmps34 rfl rfl (SF.Uk h) ?_
 simp only[bY]
 refine J0 ?_;refine aI (λ x2=>?_);refine aH ?_;refine kM ?_;refine aR (cV (hc:=λ w1 hw=>vS (hw.st.at cL))) (λ x4=>?_);refine oX ?_
 refine bE (λ c5=>?_) (λ c5=>?_)
 ·refine J0 ?_;refine xS ?_
  refine bD Tryz.results34 (λ w hw=>?_)
  refine⟨?_,hw.aU.same h⟩
  rw[if_neg (by simpa using c5)]
  rfl
 ·refine bB ?_;refine Ew ?_;refine aE ?_;refine aB (aN (k:=8) (vs:=c.r.cells) rf cL dJ rfl rfl) rfl ?_;refine J5 ?_
  refine bD Tryz.results34 (λ w hw=>?_)
  refine⟨?_,hw.aU.same h⟩
  rw[if_pos (by simpa using c5)]
  rfl
end
end

/- Tasks on an arena: how they begin, how they go on. -/
end Go.Proofs.YtbajmaoegmbfgaaGreat
namespace Go.Ct
section
open Go Go.RowKit
abbrev AS.Y2(a:AS)(cs:List Int):AS:={a with cs:=cs,acc:=up a.acc}
theorem AS.Ok.Y2{a:AS}(ok:a.Ok){x o n:Int}(hn:n<=a.mm.nodes.length):(a.Y2 (eD a.cs x o n)).Ok:=⟨ok.fit,ok.mo.jN hn⟩
end
end Go.Ct
namespace Go.Proofs.YtbajmaoegmbfgaaGreat
section
open Go Go.RowKit Go.Ct
section
variable{D:List Nat}{A B:Fr}{a:AS}{b bt n:Nat}{w:World}{c:Cd}{t:Tr}{f:FuncId}{cap:List Value}
theorem mj(h:Za b t a.mm f cap B)(ok:a.Ok)(hm:a.mm.Small)(hA:∀f∈aM a.L,f∈A)(hB:∀x∈B,x∈A)(hs:SF w D [(b,eX a)] A [] (fU a) w) :
  Calls Tryz.prog 118 #[.func (.func f) #[] ⟨cap⟩] w (zK b (λ c' s' B'=>jB b t a.mm c' s' B') a B D w):=by
 obtain⟨hp,h⟩:=h
 refine Ti Tryz.func118 Tryz.ntmps118 rfl rfl hs ?_
 simp only[bY]
 refine fT ?_;refine dU ?_;refine vU (λ x2=>?_);refine iH ?_;refine fT ?_;refine dU ?_;(refine gL (cA (by(repeat (first|exact cD _|(apply bU;focus ((conv=>{lhs;whnf});try exact rfl))));done)) rfl ?_);refine Ii rfl ?_;refine iH ?_;refine fT ?_;refine fT ?_;refine dU ?_;refine pC ?_;refine gL (Ky rf rf (aAH _ _ _)) rfl ?_;refine iH ?_
 refine Jp (λ c5=>?_) (λ c5=>?_)
 ·exact nv c5
 ·revert c5;(skip);intro c5
  refine Ep ?_;refine fT ?_;refine dU ?_;refine pC ?_;refine A7 (cMf (V:=λ y:Cd×Fr×AS=>.agg ⟨y.1.cells⟩) (hs:=[(b,eX a)]) (os:=fU a) (hs':=λ y=>[(b,eX y.2.2)]) (os':=λ y=>fU y.2.2) (Fc:=λ y=>y.2.1) (A0:=A) (f:=f) (cap:=cap) (vs:=[]) (hp:=hp) (hc:=λ w1 hw=>h a.mm (Mm.Le.refl _) a _ A w1 rfl ok hm hA hB hw)) (λ x8 h8=>?_);refine Mg (fS λ _=>aS rf cL rf (bX _) dJ rf hJ) (λ _=>?_);refine iH ?_
  refine Ij (Rv _) (by kernel_rfl) Tryz.results118 (.cell rf cL dJ .nil) (λ w hw=>?_)
  exact⟨x8,rfl,h8,hw.ret (by repeat (first|exact List.Sublist.refl _|apply List.Sublist.cons)) (aY.iP λ f hf=>by simpa using hf) (List.Sublist.refl _)⟩
theorem Gq{x:Int}{k:Int->Tr}(hr:jB b (.load x k) a.mm c a.mm B)(ok:a.Ok)(hm:a.mm.Small)(hA:∀f∈aM a.L,f∈A)(hB:∀x∈B,x∈A)(hs:SF w D [(b,eX a)] A [] (fU a) w) :
  Calls Tryz.prog 86 #[.iface 42 (.pointer (some ⟨b,0,none⟩)),.agg ⟨c.cells⟩] w (zK b (λ c' s' B'=>jB b (k (cS a.cs x)) a.mm c' s' B') a B D w):=by
 obtain⟨_,hx,f,cap,rfl,hp,hk⟩:=hr
 have hl:a.cs.length<=274877906944:=by have:=hm.2;show a.mm.cs.length<=_;omega
 have hv:cS a.cs x<=a.mm.nodes.length:=ok.mo.cell x
 refine Ti Tryz.func86 Tryz.ntmps86 rfl rfl hs ?_
 simp only[bY]
 refine fT ?_;refine dU ?_;refine da (λ x3=>?_);refine vU (λ x4=>?_);refine iH ?_;refine fT ?_;refine dU ?_;(refine gL (cA (by(repeat (first|exact cD _|(apply bU;focus ((conv=>{lhs;whnf});try exact rfl))));done)) rfl ?_);refine Ii rfl ?_;refine iH ?_;refine fT ?_;refine dU ?_;refine eJ ?_;refine gL (aN (k:=4) (vs:=(mY x f cap).a.cells) rf cL dJ rfl rfl) rfl ?_;refine vU (λ x5=>?_);refine Oe (λ _=>?_);refine iH ?_;refine fT ?_;refine fT ?_;refine dU ?_;refine eJ ?_;refine nL ?_;refine ah ?_;refine iH ?_
 refine Jp (λ c13=>?_) (λ c13=>?_)
 ·revert c13;(refine cv1 ?_);intro c13
  refine fT ?_;refine dU ?_;refine yZ (λ _=>?_);refine iH ?_;refine fT ?_;refine fT ?_;refine dU ?_;refine pC ?_;refine gL (U1 rf rf (Dg _)) rfl ?_;refine iH ?_
  refine Jp (λ c15=>?_) (λ c15=>?_)
  ·revert c15;(skip);intro c15
   refine dU ?_;refine pC ?_;refine eJ ?_;refine nL ?_;refine A7 (cMI (V:=λ _:Unit=>.int .i64 (cS a.cs x)) (os':=λ _=>fU (a.Y2 a.cs)) (hs':=λ _=>[(b,eX (a.Y2 a.cs))]) (Fc:=λ _=>[]) (A0:=A) (hm:=λ w=>jq _ _ w) (hc:=λ w hw=>te hw x hx hl)) (λ x19 h19=>?_);refine yZ (λ _=>?_);refine iH ?_;refine fT ?_;refine fT ?_;refine dU ?_;refine eJ ?_;refine nL ?_;refine gL (Ky rf rf (aAw _ _ _)) rfl ?_;refine iH ?_
   refine Jp (λ c22=>?_) (λ c22=>?_)
   ·exact nv c22
   ·revert c22;(skip);intro c22
    refine Ep ?_;refine fT ?_;refine dU ?_;refine eJ ?_;refine nL ?_;refine pC ?_;refine A7 (cMf (V:=λ y:Cd×Fr×AS=>.agg ⟨y.1.cells⟩) (hs:=[(b,eX (a.Y2 a.cs))]) (os:=fU (a.Y2 a.cs)) (hs':=λ y=>[(b,eX y.2.2)]) (os':=λ y=>fU y.2.2) (Fc:=λ y=>y.2.1) (A0:=A) (f:=f) (cap:=cap) (vs:=[.int .i64 (cS a.cs x)]) (hp:=hp) (hc:=λ w1 hw=>hk (cS a.cs x) a.mm (Mm.Le.refl _) hv (a.Y2 a.cs) _ A w1 rfl ⟨ok.fit,ok.mo⟩ hm hA hB hw)) (λ x27 h27=>?_);refine Mg (fS λ _=>aS rf cL rf (bX _) dJ rf hJ) (λ _=>?_);refine iH ?_
    refine Ij (yC _) (by kernel_rfl) Tryz.results86 (.cell rf cL dJ .nil) (λ w hw=>?_)
    exact⟨x27,rfl,⟨h27.1,h27.2.1,⟨h27.2.2.le,h27.2.2.fam⟩⟩,hw.ret (by repeat (first|exact List.Sublist.refl _|apply List.Sublist.cons)) (aY.iP λ f hf=>by simpa using hf) (List.Sublist.refl _)⟩
  ·exact nv c15
 ·revert c13;(refine cv2 ?_);intro c13
  exact(c13 rfl).elim
theorem Iu{x o n:Int}{k:Bool->Tr}(hr:jB b (.jN x o n k) a.mm c a.mm B)(ok:a.Ok)(hm:a.mm.Small)(hA:∀f∈aM a.L,f∈A)(hB:∀x∈B,x∈A)(hs:SF w D [(b,eX a)] A [] (fU a) w) :
  Calls Tryz.prog 86 #[.iface 42 (.pointer (some ⟨b,0,none⟩)),.agg ⟨c.cells⟩] w (zK b (λ c' s' B'=>jB b (k (Bs a.cs x o)) ⟨a.mm.nodes,eD a.cs x o n,a.gen⟩ c' s' B') a B D w):=by
 obtain⟨_,hx,hn,f,cap,rfl,hp,hk⟩:=hr
 have hl:a.cs.length<=274877906944:=by have:=hm.2;show a.mm.cs.length<=_;omega
 have hle:a.mm.Le ⟨a.mm.nodes,eD a.cs x o n,a.gen⟩:=⟨⟨[],by simp⟩,by show a.cs.length<=(eD a.cs x o n).length;rw[gT];exact Nat.le_refl _⟩
 have hm2:Mm.Small ⟨a.mm.nodes,eD a.cs x o n,a.gen⟩:=⟨hm.1,by show(eD a.cs x o n).length<=_;rw[gT];exact hm.2⟩
 refine Ti Tryz.func86 Tryz.ntmps86 rfl rfl hs ?_
 simp only[bY]
 refine fT ?_;refine dU ?_;refine da (λ x3=>?_);refine vU (λ x4=>?_);refine iH ?_;refine fT ?_;refine dU ?_;(refine gL (cA (by(repeat (first|exact cD _|(apply bU;focus ((conv=>{lhs;whnf});try exact rfl))));done)) rfl ?_);refine Ii rfl ?_;refine iH ?_;refine fT ?_;refine dU ?_;refine eJ ?_;refine gL (aN (k:=4) (vs:=(vY x o n f cap).a.cells) rf cL dJ rfl rfl) rfl ?_;refine vU (λ x5=>?_);refine Oe (λ _=>?_);refine iH ?_;refine fT ?_;refine fT ?_;refine dU ?_;refine eJ ?_;refine nL ?_;refine ah ?_;refine iH ?_
 refine Jp (λ c13=>?_) (λ c13=>?_)
 ·revert c13;(refine cv1 ?_);intro c13
  exact absurd (show(2:Int)=1 from c13) (by decide)
 ·revert c13;(refine cv2 ?_);intro c13
  refine Ep ?_;refine fT ?_;refine dU ?_;refine pC ?_;refine gL (U1 rf rf (Dg _)) rfl ?_;refine pC ?_
  (refine vJ ?_;refine pC ?_)
  ((refine vJ ?_;refine eJ ?_));((refine vJ ?_;refine nL ?_));((refine vJ ?_;refine eJ ?_));((refine vJ ?_;refine nL ?_));((refine vJ ?_;refine eJ ?_));((refine vJ ?_;refine nL ?_));((refine vJ ?_;refine A7 (cMI (V:=Value.bool) (os':=λ _=>fU (a.Y2 (eD a.cs x o n))) (hs':=λ _=>[(b,eX (a.Y2 (eD a.cs x o n)))]) (Fc:=λ _=>[]) (A0:=A) (hm:=λ w=>su _ _ _ _ w) (hc:=λ w hw=>ye hw x o n hx hl)) (λ x38 h38=>?_)));refine qm ?_;refine yZ (λ _=>?_);refine iH ?_;refine fT ?_;refine fT ?_;refine dU ?_;refine eJ ?_;refine nL ?_;refine gL (Ky rf rf (aBY _ _ _)) rfl ?_;refine iH ?_
  refine Jp (λ c42=>?_) (λ c42=>?_)
  ·exact nv c42
  ·revert c42;(skip);intro c42
   refine Ep ?_;refine fT ?_;refine dU ?_;refine eJ ?_;refine nL ?_;refine pC ?_;refine A7 (cMf (V:=λ y:Cd×Fr×AS=>.agg ⟨y.1.cells⟩) (hs:=[(b,eX (a.Y2 (eD a.cs x o n)))]) (os:=fU (a.Y2 (eD a.cs x o n))) (hs':=λ y=>[(b,eX y.2.2)]) (os':=λ y=>fU y.2.2) (Fc:=λ y=>y.2.1) (A0:=A) (f:=f) (cap:=cap) (vs:=[.bool x38]) (hp:=hp) (hc:=λ w1 hw=>hk x38 _ hle (a.Y2 (eD a.cs x o n)) _ A w1 rfl (ok.Y2 hn) hm2 hA hB hw)) (λ x47 h47=>?_);refine Mg (fS λ _=>aS rf cL rf (bX _) dJ rf hJ) (λ _=>?_);refine iH ?_
   refine Ij (yC _) (by kernel_rfl) Tryz.results86 (.cell rf cL dJ .nil) (λ w hw=>?_)
   exact⟨x47,rfl,⟨Es h38▸h47.1,h47.2.1,⟨hle.trans h47.2.2.le,h47.2.2.fam⟩⟩,hw.ret (by repeat (first|exact List.Sublist.refl _|apply List.Sublist.cons)) (aY.iP λ f hf=>by simpa using hf) (List.Sublist.refl _)⟩
def mS(b:Nat)(p:Tr×Mm)(a:AS)(B:Fr)(y:Cd×Fr×AS):Prop:=(jB b p.1 p.2 y.1 p.2 (y.2.1++B)/\y.2.2.mm=p.2)/\y.2.2.Ok/\a.hU y.2.2 y.2.1
theorem mS.of{t0:Tr}{s0:Mm}{y:Cd×Fr×AS}{i m:Nat}(ht:bQ t0 i m)(h:jB b t0 s0 y.1 y.2.2.mm (y.2.1++B)/\y.2.2.Ok/\a.hU y.2.2 y.2.1):mS b (Ct.eV t0 s0) a B y/\dG (Ct.eV t0 s0).1=true:=by
 obtain⟨h1,h2,h3⟩:=jB.eV ht h.1
 exact⟨⟨⟨by rw[h1];exact h3,h1.symm⟩,h.2⟩,h2⟩
theorem Ov{i m:Nat}(ht:bQ t (i+1) m)(ha:dG t=true)(hlv:t.live=true)(hr:jB b t a.mm c a.mm B)(ok:a.Ok)(hm:a.mm.Small)(hA:∀f∈aM a.L,f∈A)(hB:∀x∈B,x∈A)(hs:SF w D [(b,eX a)] A [] (fU a) w) :
  Calls Tryz.prog 86 #[.iface 42 (.pointer (some ⟨b,0,none⟩)),.agg ⟨c.cells⟩] w λ e w'=>∃y:Cd×Fr×AS,e=.returned (.agg ⟨y.1.cells⟩)/\(mS b (tS (t,a.mm)) a B y/\dG (tS (t,a.mm)).1=true)/\SF w D [(b,eX y.2.2)] [] y.2.1 (fU y.2.2) w':=by
 cases t with
 | done r=>cases hlv
 | load x k=>exact(Gq hr ok hm hA hB hs).mono λ e w' ⟨y,he,h,hw⟩=>⟨y,he,mS.of (ht _) h,hw⟩
 | jN x o n k=>exact(Iu hr ok hm hA hB hs).mono λ e w' ⟨y,he,h,hw⟩=>⟨y,he,mS.of (ht _) h,hw⟩
 | alloc n i k=>cases ha
 | cell i k=>cases ha
 | gen k=>cases ha
 | node r k=>cases ha
 | stuck=>cases ha
theorem Kk{i m:Nat}(ht:bQ t (i+1) m)(ha:dG t=true)(hlv:t.live=true)(hr:jB b t a.mm c a.mm B)(ok:a.Ok)(hm:a.mm.Small)(hn:n<1000000000)(hA:∀f∈aM a.L,f∈A)(hB:∀x∈B,x∈A)(hs:SF w D [(bt,tO b c n),(b,eX a)] A [] (fU a) w) :
  Calls Tryz.prog 37 #[.pointer (some ⟨bt,0,none⟩)] w λ e w'=>∃y:Cd×Fr×AS,e=.returned (.tuple #[])/\(mS b (tS (t,a.mm)) a B y/\dG (tS (t,a.mm)).1=true)/\SF w D [(bt,tO b y.1 (n+1)),(b,eX y.2.2)] [] y.2.1 (fU y.2.2) w':=by
 have hk:c.a.k≠0:=λ e=>by have:=(hr.kind ha).1.1 e;rw[hlv] at this;cases this
 refine enter Tryz.func37 Tryz.ntmps37 rfl rfl hs ?_
 simp only[bY]
 refine kM ?_;refine aR (cV (hc:=λ w1 hw=>vS (hw.st.at cL))) (λ x3=>?_);refine aA ?_
 (refine eM 4 (λ g4=>?_) (λ g4=>?_)<;>(try (exfalso;omega))<;>((refine aF ?_;refine aA ?_)))
 ((refine aF ?_;refine dF ?_));refine J6 ?_;refine cH ?_;refine aH ?_
 refine bE (λ c9=>?_) (λ c9=>?_)
 ·exact nv c9
 ·try (exfalso;omega)
  refine bB ?_;refine J13 ?_;refine uN ?_;refine lR ?_;refine Dw ?_;refine O7 ?_;refine aV ?_;refine gJ [0,1,2,3,4,5,6,7,8,9,10,11,12] ?_;refine Zi ?_;refine J9 ?_;refine bT (i:=8) (hq:=(aN (k:=14) (vs:=c.cells) rf cL dJ rfl rfl)) (h:=?_);refine bC (i:=9) (hq:=(cM (V:=λ y:Cd×Fr×AS=>.agg ⟨y.1.cells⟩) (Fc:=λ y=>y.2.1) (hs:=[(b,eX a)]) (os:=fU a) (A0:=A) (hs':=λ y=>[(b,eX y.2.2)]) (os':=λ y=>fU y.2.2) (hc:=λ w hw=>Ov ht ha hlv hr ok hm hA hB hw))) (h:=λ x29 h29=>?_);refine J4 ?_;refine lG (i:=12) (hq:=(fS λ _=>lK (off:=1) (vs:=x29.1.cells) (cs:=tkC b x29.1 (n+1) true) rf cL rf (bX _) dJ (Nat.le_of_ble_eq_true rfl) rf hJ)) (h:=λ _=>?_);refine eC ?_;refine xZ ?_;refine O7 ?_
  refine D9 Tryz.results37 (λ w hw=>?_)
  exact⟨x29,rfl,h29,hw.ret (List.Sublist.refl _) (aY.iP λ f hf=>by simpa using hf) (List.Sublist.refl _)⟩
theorem ew{i m:Nat}(ht:bQ t i m)(h:Za b t a.mm f cap B)(ok:a.Ok)(hm:a.mm.Small)(hA:∀f∈aM a.L,f∈A)(hB:∀x∈B,x∈A)(hs:SF w D [(b,eX a)] A [] (fU a) w) :
  Calls Tryz.prog 73 #[.iface 42 (.pointer (some ⟨b,0,none⟩)),.func (.func f) #[] ⟨cap⟩] w λ e w'=>∃x:Nat×Cd×Fr×AS,e=.returned (.pointer (some ⟨x.1,0,none⟩))/\(mS b (Ct.eV t a.mm) a B x.2/\dG (Ct.eV t a.mm).1=true)/\SF w D [(x.1,tO b x.2.1 0),(b,eX x.2.2.2)] [] x.2.2.1 (fU x.2.2.2) w':=by
 refine enter Tryz.func73 Tryz.ntmps73 rfl rfl hs ?_
 simp only[bY]
 refine cR ?_;refine J2 ?_;refine bJ ?_;refine bO (λ x8=>?_);refine wJ ?_;refine aC (cM (V:=λ y:Cd×Fr×AS=>.agg ⟨y.1.cells⟩) (Fc:=λ y=>y.2.1) (hs:=[(b,eX a)]) (os:=fU a) (A0:=A) (hs':=λ y=>[(b,eX y.2.2)]) (os':=λ y=>fU y.2.2) (hc:=λ w1 hw=>mj h ok hm hA hB hw)) (λ x11 h11=>?_);refine F5 ?_;refine bS (fS λ _=>lK (off:=1) (vs:=x11.1.cells) (cs:=tkC b x11.1 0 false) rf cL rf (bX _) dJ (Nat.le_of_ble_eq_true rfl) rf hJ) (λ _=>?_);refine aH ?_;refine J2 ?_;refine J1 ?_
 refine aT Tryz.results73 (λ w hw=>?_)
 exact⟨(x8,x11),rfl,mS.of ht h11,hw.ret (List.Sublist.refl _) (aY.iP λ f hf=>by simpa using hf) (List.Sublist.refl _)⟩
end
end

/- Calls with an arena; loads out of captured boxes. -/
end Go.Proofs.YtbajmaoegmbfgaaGreat
namespace Go.Ct
section
open Go Go.RowKit
abbrev bx(b:Nat)(cs:List Value):Option Addr×List Value:=(some ⟨b,0,none⟩,cs)
abbrev pt(b:Nat):Value:=.pointer (some ⟨b,0,none⟩)
abbrev fn(f:FuncId)(cap:List Value):Value:=.func (.func f) #[] ⟨cap⟩
abbrev iv(n:Int):Value:=.int .i64 n
theorem Yn{α:Type}{l l' xs:List α}{is:List Nat}(h:lU l is xs l':=by(repeat (first|exact lU.nil|(apply lU.cons;(focus ((repeat (first|exact yN.head|apply yN.tail));done));simp only[qG])));first|done|fail):lU l is xs l':=h
theorem evD{S:List (Nat×Value)}{xs:List Operand}{vs:List Value}(h:pI S xs=vs:=by(repeat (first|exact cD _|(apply bU;focus ((conv=>{lhs;whnf});try exact rfl))));first|done|fail):pI S xs=vs:=h
section
variable{w0 w:World}{M:List Nat}{H H':List (Nat×Obj)}{A F:Fr}{O O':List Ow}
theorem SF.rI(h:SF w0 M H A F O w)(hH:H'.Sublist H:=by repeat (first|exact List.Sublist.refl _|apply List.Sublist.cons))(hO:O'.Sublist O:=by repeat (first|exact List.Sublist.refl _|apply List.Sublist.cons)):SF w0 M H' [] F O' w:=h.ret hH aY.all hO
theorem SF.rN(h:SF w0 M H A (F++[]) O w)(hH:H'.Sublist H:=by repeat (first|exact List.Sublist.refl _|apply List.Sublist.cons))(hO:O'.Sublist O:=by repeat (first|exact List.Sublist.refl _|apply List.Sublist.cons)):SF w0 M H' [] F O' w:=h.ret hH (aY.iP λ f hf=>by simpa using hf) hO
variable{P:Program}{S:List (Nat×Value)}{d:Nat}{ty t:TypeId}{pos:String}{af:Array Edge}{gd:Option (Nat×Bool)}{x:Operand}{v:Value}{vs:List Value}{B:Fr}
theorem kY(b:Nat)(cs:List Value)(q:Nat)(hB:∀x∈B,x∈A)(hq:cs[q]?=some v)(hx:ev S x=.pointer (some ⟨b,q,none⟩):=by exact rfl)(ht:one P t=true:=by first|exact L8 rfl|kernel_rfl)(hm:bx b cs∈B:=by simp):aL P S (SF w0 M H A F O) ⟨some d,.load t x,ty,pos,af,gd⟩ v :=
 jm (a:=some ⟨b,0,none⟩) (q:=q) (hx.trans (by simp[dC,eH])) ht (.bN (yT.oD (hB _ hm))) hq
theorem Rf(b:Nat)(cs:List Value)(q k:Nat)(hB:∀x∈B,x∈A)(hv:(cs.drop q).take k=vs)(hl:vs.length=k)(hx:ev S x=.pointer (some ⟨b,q,none⟩):=by exact rfl)(ht:jQ P t k=true:=by exact dJ)(hm:bx b cs∈B:=by simp):aL P S (SF w0 M H A F O) ⟨some d,.load t x,ty,pos,af,gd⟩ (.agg ⟨vs⟩) :=
 Ap (a:=some ⟨b,0,none⟩) (q:=q) (hx.trans (by simp[dC,eH])) ht (.bN (yT.oD (hB _ hm))) hv hl
end
end
end Go.Ct
namespace Go.Proofs.YtbajmaoegmbfgaaGreat
section
open Go Go.RowKit Go.Ct
abbrev qL(b:Nat)(f:FuncId)(cap arg:List Value)(B:Fr)(s:Mm)(T:Tr):Prop:=Ce b f cap arg B s λ c' s' B'=>jB b T s c' s' B'
theorem Ce.mr{b:Nat}{f:FuncId}{cap arg:List Value}{B B2:Fr}{s:Mm}{T:Tr}(h:qL b f cap arg B s T)(hb:∀x∈B,x∈B2):qL b f cap arg B2 s T:=h.more hb λ _ _ _ _ hC h=>h.more hC
section
variable{S:List (Nat×Value)}{w0 w:World}{M:List Nat}{H H':List (Nat×Obj)}{A A0 F B:Fr}{O O':List Ow}{ty:TypeId}{pos:String}{af:Array Edge}{gd:Option (Nat×Bool)}{b:Nat}{a:AS}{R:Cd->Mm->Fr->Prop}{is js:List Nat}{f:FuncId}{xs:List Operand}{at_:Array TypeId}{vs cap:List Value}{dst:Option Nat}{x:Operand}{H1:Cd×Fr×AS->List (Nat×Obj)}{F1:Cd×Fr×AS->Fr}{O1:Cd×Fr×AS->List Ow}
theorem zI(hc:∀w,SF w (Ks [(b,eX a)] (fU a)) [(b,eX a)] A0 [] (fU a) w->Calls Tryz.prog f ⟨vs⟩ w (zK b R a B (Ks [(b,eX a)] (fU a)) w))
  (ha:pI S xs=vs:=by exact evD) (hp:plain Tryz.prog f=true:=by kernel_rfl) (hH:lU H is [(b,eX a)] H':=by exact Yn) (hO:lU O js (fU a) O':=by exact Yn) (hA:aX A F O' A0:=by exact aX.of (λ _ h=>Or.inr (Or.inl h)))
  (hl1:is.length=1:=by exact rfl) (hl2:js.length=2:=by exact rfl)
  (hH1:∀y,iN is [(b,eX y.2.2)] H'=H1 y:=by intro x;simp only[iN,rD];exact rfl) (hF1:∀y,y.2.1++F=F1 y:=by intro x;exact rfl) (hO1:∀y,iN js (fU y.2.2) O'=O1 y:=by intro x;simp only[iN,rD,mW];exact rfl) :
  bF Tryz.prog S (SF w0 M H A F O) ⟨dst,.call {callee:=.value (.func f),args:=⟨xs⟩,argTypes:=at_},ty,pos,af,gd⟩ (Cd×Fr×AS) (λ y=>.agg ⟨y.1.cells⟩) (λ y w=>(R y.1 y.2.2.mm (y.2.1++B)/\y.2.2.Ok/\a.hU y.2.2 y.2.1)/\SF w0 M (H1 y) A (F1 y) (O1 y) w) :=
 cM (hs:=[(b,eX a)]) (os:=fU a) (hs':=λ y:Cd×Fr×AS=>[(b,eX y.2.2)]) (os':=λ y=>fU y.2.2) (Fc:=λ y=>y.2.1) ha hp hc hH hO hA (λ _=>hl1) (λ _=>hl2) hH1 hF1 hO1
theorem Td(hp:plain Tryz.prog f=true)(hk:Ce b f cap vs B a.mm R)(ok:a.Ok)(hm:a.mm.Small)(hA0:∀f∈aM a.L,f∈A)(hB:∀x∈B,x∈A)(hx:ev S x=.func (.func f) #[] ⟨cap⟩:=by exact rfl)
  (ha:pI S xs=vs:=by exact evD) (hH:lU H is [(b,eX a)] H':=by exact Yn) (hO:lU O js (fU a) O':=by exact Yn)
  (hl1:is.length=1:=by exact rfl) (hl2:js.length=2:=by exact rfl)
  (hH1:∀y,iN is [(b,eX y.2.2)] H'=H1 y:=by intro x;simp only[iN,rD];exact rfl) (hF1:∀y,y.2.1++F=F1 y:=by intro x;exact rfl) (hO1:∀y,iN js (fU y.2.2) O'=O1 y:=by intro x;simp only[iN,rD,mW];exact rfl) :
  bF Tryz.prog S (SF w0 M H A F O) ⟨dst,.call {callee:=.value x,args:=⟨xs⟩,argTypes:=at_},ty,pos,af,gd⟩ (Cd×Fr×AS) (λ y=>.agg ⟨y.1.cells⟩) (λ y w=>(R y.1 y.2.2.mm (y.2.1++B)/\y.2.2.Ok/\a.hU y.2.2 y.2.1)/\SF w0 M (H1 y) A (F1 y) (O1 y) w) :=
 cMf (V:=λ y:Cd×Fr×AS=>.agg ⟨y.1.cells⟩) (hs:=[(b,eX a)]) (os:=fU a) (hs':=λ y:Cd×Fr×AS=>[(b,eX y.2.2)]) (os':=λ y=>fU y.2.2) (Fc:=λ y=>y.2.1) (A0:=A) hx ha hp (λ w hw=>hk a _ A w rfl ok hm hA0 hB hw) hH hO (aX.of λ _ h=>.inr (.inl h)) (λ _=>hl1) (λ _=>hl2) hH1 hF1 hO1
end
end

/- Procedures of the program as codes: calls of the arena through the interface. -/
end Go.Proofs.YtbajmaoegmbfgaaGreat
namespace Go.Ct
section
open Go Go.RowKit
theorem SF.aAT{w0 w:World}{M:List Nat}{H:List (Nat×Obj)}{A A' F:Fr}{O:List Ow}(h:SF w0 M H A F O w)(hA:∀f∈A',f∈A):SF w0 M H A' F O w:=⟨h.st,λ f hf=>h.bN f (hA f hf),h.new,h.own,h.dis⟩
abbrev AS.al(a:AS)(n:Nd)(xs:List Int)(ys:List Pr)(init:Int)(x:AX):AS:=⟨a.L++[oN n xs ys a.cs.length x],fX n.kind a.cs init,a.gen,a.acc,x.pn,x.cn,x.pc,x.cc⟩
theorem fW{a:AS}(r:Int):eA a.mm.nodes r=(aD (cB a.L) r).c:=(Lw _ _).symm
theorem m7(a:AS):a.mm.nodes.length=a.L.length+2:=by show((cB a.L).map aZ.c).length=_;rw[List.length_map,fI]
theorem y8{n c c':Nat}{v:Nv}{i:Int}{cs:List Int}(hb:mK n c {v with main:=0,prev:=0,status:=0})(hc:c=cs.length)(h1:n+1=c'):mK c' (fX v.kind cs i).length (dK v c):=by
 subst hc
 have hcs:=lP (k:=v.kind) (cs:=cs) (init:=i)
 have hb':=hb.mono (n':=c') (c':=(fX v.kind cs i).length) (by omega) hcs.1
 refine⟨hb'.bN,hb'.exp,hb'.new,hb'.br,?_,?_,?_,hb'.bm,hb'.hash⟩
 ·show(if v.kind=2 then((cs.length+1:Nat):Int) else 0)<=_
  split
  ·rename_i hk;unfold fX;rw[if_pos (.inl hk)];simp
  ·omega
 ·show(if v.kind=3∨v.kind=5∨v.kind=6 then((cs.length+1:Nat):Int) else 0)<=_
  split
  ·rename_i hk;unfold fX;rw[if_pos (by omega)];simp
  ·omega
 ·show(if v.kind=8 then((cs.length+1:Nat):Int) else 0)<=_
  split
  ·rename_i hk;unfold fX;rw[if_pos (by omega)];simp
  ·omega
theorem Xg.push{s:Mm}(h:Xg s){v:Nv}{i:Int}(hb:mK s.nodes.length s.cs.length {v with main:=0,prev:=0,status:=0})(hi:i<=s.nodes.length+1):Xg (s.push v i):=by
 have hcs:=lP (k:=v.kind) (cs:=s.cs) (init:=i)
 have hl:(s.nodes++[dK v s.cs.length]).length=s.nodes.length+1:=by simp
 refine⟨λ u hu=>?_,λ u hu=>?_,by have:=h.two;show 2<=(s.nodes++[dK v s.cs.length]).length;omega⟩
 ·show mK (s.nodes++[dK v s.cs.length]).length (fX v.kind s.cs i).length u
  rcases List.mem_append.1 hu with hu|hu
  ·exact(h.nd u hu).mono (by omega) hcs.1
  ·rw[List.mem_singleton.1 hu]
   exact y8 hb rfl hl.symm
 ·show u<=((s.nodes++[dK v s.cs.length]).length:Int)
  have hu':u∈fX v.kind s.cs i:=hu
  unfold fX at hu'
  split at hu'
  ·rcases List.mem_append.1 hu' with h2|h2
   ·have:=h.cs u h2;omega
   ·rw[List.mem_singleton.1 h2];omega
  ·have:=h.cs u hu';omega
theorem M3(a:AS)(n:Nd)(xs:List Int)(ys:List Pr)(init:Int)(x:AX):(a.al n xs ys init x).mm=a.mm.push (n.c xs ys) init:=by
 unfold AS.mm Mm.push
 simp only[cB,List.map_cons,List.map_append,List.map_nil,List.cons_append]
 rfl
theorem AS.Ok.al{a:AS}(ok:a.Ok){n:Nd}{xs:List Int}{ys:List Pr}{init:Int}(x:AX)(hx:xs.length<=274877906944)(hy:ys.length<=274877906944)(hb:mK a.mm.nodes.length a.mm.cs.length {n.c xs ys with main:=0,prev:=0,status:=0})(hi:init<=a.mm.nodes.length+1):(a.al n xs ys init x).Ok:=by
 refine⟨λ v hv=>?_,by rw[M3];exact ok.mo.push hb hi⟩
 rcases List.mem_append.1 hv with hv|hv
 ·exact ok.fit v hv
 ·rw[List.mem_singleton.1 hv];exact L3 (by omega) (by omega)
theorem Ux(s:Mm)(v:Nv)(i:Int):s.Le (s.push v i):=⟨⟨_,rfl⟩,lP.1⟩
theorem AS.hU.al(a:AS)(n:Nd)(xs:List Int)(ys:List Pr)(init:Int)(x:AX):a.hU (a.al n xs ys init x) (oN n xs ys a.cs.length x).fr:=⟨by rw[M3];exact Ux _ _ _,λ f hf=>by
 rw[cZ] at hf
 rcases List.mem_append.1 hf with h|h
 ·exact .inr (.inl h)
 ·refine .inr (.inr ?_)
  simpa[aM] using h⟩
theorem Fk{A B B1:Fr}(h:∀f∈B,f∈A):∀f∈B1++B,f∈B1++A:=λ f hf=>(List.mem_append.1 hf).elim (λ h=>List.mem_append_left _ h) λ hf=>List.mem_append_right _ (h f hf)
theorem aX.S9{A B1:Fr}{O:List Ow}:aX A B1 O (B1++A):=aX.of λ f hf=>(List.mem_append.1 hf).elim (λ h=>.inr (.inr (.inl h))) λ h=>.inr (.inl h)
theorem aX.jb{A F:Fr}{O:List Ow}{x y:Option Addr×List Value}:aX A (x::y::F) O (x::y::A):=aX.of λ f hf=>by
 rcases List.mem_cons.1 hf with h|hf
 ·exact .inr (.inr (.inl (by rw[h];simp)))
 ·rcases List.mem_cons.1 hf with h|hf
  ·exact .inr (.inr (.inl (by rw[h];simp)))
  ·exact .inr (.inl hf)
theorem E8{A B:Fr}{x y:Option Addr×List Value}(h:∀f∈B,f∈A):∀f∈x::y::B,f∈x::y::A:=λ f hf=>(List.mem_cons.1 hf).elim (λ h=>h▸List.mem_cons_self ..) λ hf=>(List.mem_cons.1 hf).elim (λ h=>h▸List.mem_cons_of_mem _ (List.mem_cons_self ..)) λ hf=>List.mem_cons_of_mem _ (List.mem_cons_of_mem _ (h f hf))
theorem Gw{P:Program}{S:List (Nat×Value)}{d:Nat}{ty t:TypeId}{pos:String}{af:Array Edge}{gd:Option (Nat×Bool)}{w0:World}{M:List Nat}{H:List (Nat×Obj)}{z:Value}(hz:dB P t=some z)(h1:z.oneCell'=true):bF P S (St w0 M H) ⟨some d,.alloc t,ty,pos,af,gd⟩ Nat (λ b=>.pointer (some ⟨b,0,none⟩)) (λ b=>St w0 M ((b,.cells ⟨[z]⟩ t (0,0))::H)) :=
 Vj (λ w _=>by
  have e:z.cells = #[z]:=by cases z<;>simp_all[Value.cells,Value.oneCell']
  simp[execOp,Instr.alloc,Pd hz,newVar,newRow,e])
end
end Go.Ct
namespace Go.Proofs.YtbajmaoegmbfgaaGreat
section
open Go Go.RowKit Go.Ct
section
variable{D:List Nat}{A:Fr}{a:AS}{b:Nat}{w:World}
theorem rh(ok:a.Ok)(hm:a.mm.Small)(hA:∀f∈aM a.L,f∈A)(r:Int)(hr:r<=a.mm.nodes.length)(hs:SF w D [(b,eX a)] A [] (fU a) w) :
  Calls Tryz.prog 36 #[.pointer (some ⟨b,0,none⟩),.int .i64 r] w λ e w'=>∃q:Option Addr×Option Addr,e=.returned (.agg ⟨((aD (cB a.L) r).at_ q.1 q.2).nd.cells⟩)/\True /\
  SF w D [(b,eX a)] [] [] (fU a++[⟨q.2,dH (aD (cB a.L) r).ys,(aD (cB a.L) r).ys.length,164,2⟩,⟨q.1,aG (aD (cB a.L) r).xs,(aD (cB a.L) r).xs.length,37,1⟩]) w':=by
 have h1:=hm.1
 have h2:=m7 a
 exact Wn (hs.aAT hA) ok.fit r (by omega) (by omega)
theorem B9{S:List (Nat×Value)}{w0:World}{M:List Nat}{H H':List (Nat×Obj)}{F:Fr}{O O':List Ow}{ty:TypeId}{pos:String}{af:Array Edge}{gd:Option (Nat×Bool)}{is js:List Nat}{recv:Operand}{xs:List Operand}{at_:Array TypeId}{dst:Option Nat}{H1:Option Addr×Option Addr->List (Nat×Obj)}{F1:Option Addr×Option Addr->Fr}{O1:Option Addr×Option Addr->List Ow}
  (r:Int) (ok:a.Ok) (hm:a.mm.Small) (hA:∀f∈aM a.L,f∈A) (hr:r<=a.mm.nodes.length) (hx:ev S recv=.iface 42 (.pointer (some ⟨b,0,none⟩)):=by exact rfl) (ha:pI S xs=[.int .i64 r]:=by exact evD) (hH:lU H is [(b,eX a)] H':=by exact Yn) (hO:lU O js (fU a) O':=by exact Yn)
  (hl1:is.length=1:=by exact rfl) (hl2:js.length=2:=by exact rfl) (hH1:∀x,iN is [(b,eX a)] H'=H1 x:=by intro x;simp only[iN,rD];exact rfl) (hF1:∀x,[]++F=F1 x:=by intro x;exact rfl)
  (hO1:∀x,[⟨x.2,dH (aD (cB a.L) r).ys,(aD (cB a.L) r).ys.length,164,2⟩,⟨x.1,aG (aD (cB a.L) r).xs,(aD (cB a.L) r).xs.length,37,1⟩]++iN js (fU a) O'=O1 x:=by intro x;simp only[iN,rD,mW,List.nil_append,List.cons_append];exact rfl) :
  bF Tryz.prog S (SF w0 M H A F O) ⟨dst,.call {callee:=.invoke recv "Node",args:=⟨xs⟩,argTypes:=at_},ty,pos,af,gd⟩ (Option Addr×Option Addr) (λ q=>.agg ⟨((aD (cB a.L) r).at_ q.1 q.2).nd.cells⟩) (λ x w=>True/\SF w0 M (H1 x) A (F1 x) (O1 x) w) :=
 aCc (hs:=[(b,eX a)]) (os:=fU a) (A0:=A) (hs':=λ _=>[(b,eX a)]) (os':=λ _=>fU a) (Fc:=λ _=>[]) (Oc:=λ q=>[⟨q.2,dH (aD (cB a.L) r).ys,(aD (cB a.L) r).ys.length,164,2⟩,⟨q.1,aG (aD (cB a.L) r).xs,(aD (cB a.L) r).xs.length,37,1⟩]) hx ha (λ w=>de _ _ w) (λ w1 hw=>rh ok hm hA r hr hw) hH hO (aX.of λ _ h=>.inr (.inl h)) (λ _=>hl1) (λ _=>hl2) hH1 hF1 hO1
theorem jt(ok:a.Ok)(hm:a.mm.Small){n:Nd}{xs:List Int}{ys:List Pr}(init:Int)(e1:n.brN=xs.length)(e2:n.prN=ys.length)(hx:xs.length<=274877906944)(hy:ys.length<=274877906944)(hA:∀f∈[(n.brA,aG xs),(n.prA,dH ys)],f∈A)(hs:SF w D [(b,eX a)] A [] (fU a) w) :
  Calls Tryz.prog 29 #[.pointer (some ⟨b,0,none⟩),n.v,.int .i64 init] w λ e w'=>∃x:AX,e=.returned (.int .i64 ((a.mm.nodes.length+1:Nat):Int))/\True/\SF w D [(b,eX (a.al n xs ys init x))] [] (oN n xs ys a.cs.length x).fr (fU (a.al n xs ys init x)) w':=by
 have h1:=hm.1
 have h3:a.cs.length<=137438953472:=hm.2
 have h2:=m7 a
 rw[show a.mm.nodes.length+1=a.L.length+3 by omega]
 exact Zr init (hs.aAT hA) e1 e2 hx hy (by omega) (by omega)
end
end

end Go.Proofs.YtbajmaoegmbfgaaGreat

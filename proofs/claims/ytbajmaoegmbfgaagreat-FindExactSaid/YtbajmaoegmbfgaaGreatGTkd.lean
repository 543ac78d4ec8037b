/- Tasks: Done, Next, Result, Steps. -/
import Derived.Test.YtbajmaoegmbfgaaGreatGDfr
import Derived.Test.YtbajmaoegmbfgaaGreatGTp2
import Derived.Test.YtbajmaoegmbfgaaGreatGNode3

set_option linter.unusedSimpArgs false
set_option linter.unusedVariables false
namespace Go.Ct
section
open Go Go.RowKit
theorem SF.same{w w':World}{b:Nat}{o:Obj}(h:SF w [b] [(b,o)] [] [] [] w')(hb:w.heap[b]?=some o):St w [] [] w' :=
 ⟨h.st.os,h.st.tape,h.st.output,h.st.size,λ k hk _=>by
  by_cases e:k=b
  ·subst e;rw[h.st.has (k,o) (List.mem_singleton.2 rfl),hb]
  ·exact h.st.kD k hk (by simpa using e),λ _ h=>(List.not_mem_nil h).elim,λ _ h=>(List.not_mem_nil h).elim,List.nodup_nil⟩
theorem SF.Ue{w:World}{b:Nat}{o:Obj}(hb:w.heap[b]?=some o):SF w [b] [(b,o)] [] [] [] w :=
 ⟨⟨rfl,rfl,rfl,Nat.le_refl _,λ _ _ _=>rfl,λ p hp=>by rw[List.mem_singleton.1 hp];exact hb,λ p hp=>by rw[List.mem_singleton.1 hp];exact .inl (List.mem_singleton.2 rfl),by simp⟩,λ _ h=>(List.not_mem_nil h).elim,λ _ h=>(List.not_mem_nil h).elim,λ _ h=>(List.not_mem_nil h).elim,by simp[Ks]⟩
end
end Go.Ct
namespace Go.Proofs.YtbajmaoegmbfgaaGreat
section
open Go Go.RowKit Go.Ct
abbrev tkC(b:Nat)(c:Cd)(n:Nat)(z:Bool):List Value:=[.iface 42 (.pointer (some ⟨b,0,none⟩)),.int .i64 c.a.k,.int .i64 c.a.c,.int .i64 c.a.o,.int .i64 c.a.n,fnV c.f,fnV c.g,.int .i64 c.r.err,.bool c.r.found,.int .u64 c.r.val,.string c.r.key,.int .i64 c.r.fX,.int .i64 c.r.ref,.int .i64 c.r.root,.bool c.r.ro,.int .i64 ((n:Nat):Int),.bool z]
abbrev tO(b:Nat)(c:Cd)(n:Nat):Obj:=.cells ⟨tkC b c n false⟩ 141 (0,0)
section
variable{D:List Nat}{A B:Fr}{L:List aY}{cs:List Int}{gen acc:Int}{pn pc:Option Addr}{cn cc b bt n:Nat}{w:World}{c:Cd}
theorem vB(h:w.heap[bt]?=some (tO b c n)):Calls Tryz.prog 33 #[.pointer (some ⟨bt,0,none⟩)] w λ e w'=>e=.returned (.bool (c.a.k==0))/\St w [] [] w':=by
 refine enter Tryz.func33 Tryz.ntmps33 rfl rfl (SF.Ue h) ?_
 simp only[bY]
 refine cQ ?_;refine Eb ?_;refine aE ?_;refine J3 ?_;refine Td ?_
 refine aT Tryz.results33 (λ w hw=>?_)
 exact⟨rfl,hw.aU.same h⟩
theorem I5(h:w.heap[bt]?=some (tO b c n)):Calls Tryz.prog 63 #[.pointer (some ⟨bt,0,none⟩)] w λ e w'=>e=.returned (.int .i64 ((n:Nat):Int))/\St w [] [] w':=by
 refine enter Tryz.func63 Tryz.ntmps63 rfl rfl (SF.Ue h) ?_
 simp only[bY]
 refine cQ ?_;refine lR ?_;refine J1 ?_
 refine aT Tryz.results63 (λ w hw=>?_)
 exact⟨rfl,hw.aU.same h⟩
theorem bh (h:w.heap[bt]?=some (tO b c n)):Calls Tryz.prog 133 #[.pointer (some ⟨bt,0,none⟩)] w fun e w'=>e=.returned (.tuple #[.agg ⟨(if c.a.k=0 then Ac.zero else c.a).cells⟩,.bool (c.a.k != 0)])∧St w [] [] w':=by
 refine enter Tryz.func133 Tryz.ntmps133 rfl rfl (SF.Ue h) ?_
 simp only [bY]
 refine J0 ?_;refine aI (fun x2=>?_);refine iT ?_;refine J2 ?_;refine aQ (cV (hc:=fun w1 hw=>vB (hw.st.at cK))) (fun x5=>?_);refine aG ?_
 refine bE (fun c5=>?_) (fun c5=>?_)
 ·refine J0 ?_;refine bJ ?_;refine yT ?_
  refine bC Tryz.results133 (fun w hw=>?_)
  refine⟨?_,hw.aU.same h⟩
  rw [if_pos (by simpa using c5),show (c.a.k != 0)=false by simpa using c5]
  rfl
 ·refine aZ ?_;refine Eb ?_;refine aE ?_;refine aB (aP (k:=4) (vs:=c.a.cells) rf cK dH rfl rfl) rfl ?_;refine yT ?_
  refine bC Tryz.results133 (fun w hw=>?_)
  refine⟨?_,hw.aU.same h⟩
  rw [if_neg (by simpa using c5),show (c.a.k != 0)=true by simpa using c5]
  rfl
theorem Q7(h:w.heap[bt]?=some (tO b c n)):Calls Tryz.prog 34 #[.pointer (some ⟨bt,0,none⟩)] w λ e w'=>e=.returned (.agg ⟨(if c.a.k=0 then c.r else Rs.zero).cells⟩)/\St w [] [] w':=by
 refine enter Tryz.func34 Tryz.ntmps34 rfl rfl (SF.Ue h) ?_
 simp only[bY]
 refine J0 ?_;refine aI (λ x2=>?_);refine aG ?_;refine kK ?_;refine aQ (cV (hc:=λ w1 hw=>vB (hw.st.at cK))) (λ x4=>?_);refine pA ?_
 refine bE (λ c5=>?_) (λ c5=>?_)
 ·refine J0 ?_;refine xJ ?_
  refine bC Tryz.results34 (λ w hw=>?_)
  refine⟨?_,hw.aU.same h⟩
  rw[if_neg (by simpa using c5)]
  rfl
 ·refine aZ ?_;refine Eb ?_;refine aE ?_;refine aB (aP (k:=8) (vs:=c.r.cells) rf cK dH rfl rfl) rfl ?_;refine J5 ?_
  refine bC Tryz.results34 (λ w hw=>?_)
  refine⟨?_,hw.aU.same h⟩
  rw[if_pos (by simpa using c5)]
  rfl
end
end

/- Tasks on an arena: how they begin, how they go on. -/
end Go.Proofs.YtbajmaoegmbfgaaGreat
namespace Go.Ct
section
open Go Go.RowKit
abbrev AS.Xg(a:AS)(cs:List Int):AS:={a with cs:=cs,acc:=up a.acc}
theorem AS.Ok.Xg{a:AS}(ok:a.Ok){x o n:Int}(hn:n<=a.mm.nodes.length):(a.Xg (eJ a.cs x o n)).Ok:=⟨ok.fit,ok.mo.kO hn⟩
end
end Go.Ct
namespace Go.Proofs.YtbajmaoegmbfgaaGreat
section
open Go Go.RowKit Go.Ct
section
variable{D:List Nat}{A B:Fr}{a:AS}{b bt n:Nat}{w:World}{c:Cd}{t:Tr}{f:FuncId}{cap:List Value}
theorem dj(h:Xm b t a.mm f cap B)(ok:a.Ok)(hm:a.mm.Small)(hA:∀f∈aM a.L,f∈A)(hB:∀x∈B,x∈A)(hs:SF w D [(b,fA a)] A [] (fQ a) w) :
  Calls Tryz.prog 118 #[.func (.func f) #[] ⟨cap⟩] w (zC b (λ c' s' B'=>iY b t a.mm c' s' B') a B D w):=by
 obtain⟨hp,h⟩:=h
 refine Ru Tryz.func118 Tryz.ntmps118 rfl rfl hs ?_
 simp only[bY]
 refine fS ?_;refine dO ?_;refine vU (λ x2=>?_);refine iG ?_;refine fS ?_;refine dO ?_;(refine gK (cA (by(repeat (first|exact cC _|(apply bU;focus ((conv=>{lhs;whnf});try exact rfl))));done)) rfl ?_);refine Fy rfl ?_;refine iG ?_;refine fS ?_;refine fS ?_;refine dO ?_;refine oL ?_;refine gK (Li rf rf (aAC _ _ _)) rfl ?_;refine iG ?_
 refine Iw (λ c5=>?_) (λ c5=>?_)
 ·exact nv c5
 ·revert c5;(skip);intro c5
  refine D0 ?_;refine fS ?_;refine dO ?_;refine oL ?_;refine zS (cMf (V:=λ y:Cd×Fr×AS=>.agg ⟨y.1.cells⟩) (hs:=[(b,fA a)]) (os:=fQ a) (hs':=λ y=>[(b,fA y.2.2)]) (os':=λ y=>fQ y.2.2) (Fc:=λ y=>y.2.1) (A0:=A) (f:=f) (cap:=cap) (vs:=[]) (hp:=hp) (hc:=λ w1 hw=>h a.mm (Mm.Le.refl _) a _ A w1 rfl ok hm hA hB hw)) (λ x8 h8=>?_);refine K8 (fR λ _=>aS rf cK rf (bX _) dH rf hU) (λ _=>?_);refine iG ?_
  refine G4 (Sf _) (by kernel_rfl) Tryz.results118 (.cell rf cK dH .nil) (λ w hw=>?_)
  exact⟨x8,rfl,h8,hw.ret (by repeat (first|exact List.Sublist.refl _|apply List.Sublist.cons)) (aX.hX λ f hf=>by simpa using hf) (List.Sublist.refl _)⟩
theorem Ew{x:Int}{k:Int->Tr}(hr:iY b (.load x k) a.mm c a.mm B)(ok:a.Ok)(hm:a.mm.Small)(hA:∀f∈aM a.L,f∈A)(hB:∀x∈B,x∈A)(hs:SF w D [(b,fA a)] A [] (fQ a) w) :
  Calls Tryz.prog 86 #[.iface 42 (.pointer (some ⟨b,0,none⟩)),.agg ⟨c.cells⟩] w (zC b (λ c' s' B'=>iY b (k (cZ a.cs x)) a.mm c' s' B') a B D w):=by
 obtain⟨_,hx,f,cap,rfl,hp,hk⟩:=hr
 have hl:a.cs.length<=274877906944:=by have:=hm.2;show a.mm.cs.length<=_;omega
 have hv:cZ a.cs x<=a.mm.nodes.length:=ok.mo.cell x
 refine Ru Tryz.func86 Tryz.ntmps86 rfl rfl hs ?_
 simp only[bY]
 refine fS ?_;refine dO ?_;refine kh (λ x3=>?_);refine vU (λ x4=>?_);refine iG ?_;refine fS ?_;refine dO ?_;(refine gK (cA (by(repeat (first|exact cC _|(apply bU;focus ((conv=>{lhs;whnf});try exact rfl))));done)) rfl ?_);refine Fy rfl ?_;refine iG ?_;refine fS ?_;refine dO ?_;refine eI ?_;refine gK (aP (k:=4) (vs:=(mN x f cap).a.cells) rf cK dH rfl rfl) rfl ?_;refine vU (λ x5=>?_);refine Oe (λ _=>?_);refine iG ?_;refine fS ?_;refine fS ?_;refine dO ?_;refine eI ?_;refine nC ?_;refine gg ?_;refine iG ?_
 refine Iw (λ c13=>?_) (λ c13=>?_)
 ·revert c13;(refine cv1 ?_);intro c13
  refine fS ?_;refine dO ?_;refine yO (λ _=>?_);refine iG ?_;refine fS ?_;refine fS ?_;refine dO ?_;refine oL ?_;refine gK (Tv rf rf (Dd _)) rfl ?_;refine iG ?_
  refine Iw (λ c15=>?_) (λ c15=>?_)
  ·revert c15;(skip);intro c15
   refine dO ?_;refine oL ?_;refine eI ?_;refine nC ?_;refine zS (cMI (V:=λ _:Unit=>.int .i64 (cZ a.cs x)) (os':=λ _=>fQ (a.Xg a.cs)) (hs':=λ _=>[(b,fA (a.Xg a.cs))]) (Fc:=λ _=>[]) (A0:=A) (hm:=λ w=>iu _ _ w) (hc:=λ w hw=>og hw x hx hl)) (λ x19 h19=>?_);refine yO (λ _=>?_);refine iG ?_;refine fS ?_;refine fS ?_;refine dO ?_;refine eI ?_;refine nC ?_;refine gK (Li rf rf (aA0 _ _ _)) rfl ?_;refine iG ?_
   refine Iw (λ c22=>?_) (λ c22=>?_)
   ·exact nv c22
   ·revert c22;(skip);intro c22
    refine D0 ?_;refine fS ?_;refine dO ?_;refine eI ?_;refine nC ?_;refine oL ?_;refine zS (cMf (V:=λ y:Cd×Fr×AS=>.agg ⟨y.1.cells⟩) (hs:=[(b,fA (a.Xg a.cs))]) (os:=fQ (a.Xg a.cs)) (hs':=λ y=>[(b,fA y.2.2)]) (os':=λ y=>fQ y.2.2) (Fc:=λ y=>y.2.1) (A0:=A) (f:=f) (cap:=cap) (vs:=[.int .i64 (cZ a.cs x)]) (hp:=hp) (hc:=λ w1 hw=>hk (cZ a.cs x) a.mm (Mm.Le.refl _) hv (a.Xg a.cs) _ A w1 rfl ⟨ok.fit,ok.mo⟩ hm hA hB hw)) (λ x27 h27=>?_);refine K8 (fR λ _=>aS rf cK rf (bX _) dH rf hU) (λ _=>?_);refine iG ?_
    refine G4 (yB _) (by kernel_rfl) Tryz.results86 (.cell rf cK dH .nil) (λ w hw=>?_)
    exact⟨x27,rfl,⟨h27.1,h27.2.1,⟨h27.2.2.le,h27.2.2.fam⟩⟩,hw.ret (by repeat (first|exact List.Sublist.refl _|apply List.Sublist.cons)) (aX.hX λ f hf=>by simpa using hf) (List.Sublist.refl _)⟩
  ·exact nv c15
 ·revert c13;(refine cv2 ?_);intro c13
  exact(c13 rfl).elim
theorem H3{x o n:Int}{k:Bool->Tr}(hr:iY b (.kO x o n k) a.mm c a.mm B)(ok:a.Ok)(hm:a.mm.Small)(hA:∀f∈aM a.L,f∈A)(hB:∀x∈B,x∈A)(hs:SF w D [(b,fA a)] A [] (fQ a) w) :
  Calls Tryz.prog 86 #[.iface 42 (.pointer (some ⟨b,0,none⟩)),.agg ⟨c.cells⟩] w (zC b (λ c' s' B'=>iY b (k (jb a.cs x o)) ⟨a.mm.nodes,eJ a.cs x o n,a.gen⟩ c' s' B') a B D w):=by
 obtain⟨_,hx,hn,f,cap,rfl,hp,hk⟩:=hr
 have hl:a.cs.length<=274877906944:=by have:=hm.2;show a.mm.cs.length<=_;omega
 have hle:a.mm.Le ⟨a.mm.nodes,eJ a.cs x o n,a.gen⟩:=⟨⟨[],by simp⟩,by show a.cs.length<=(eJ a.cs x o n).length;rw[gT];exact Nat.le_refl _⟩
 have hm2:Mm.Small ⟨a.mm.nodes,eJ a.cs x o n,a.gen⟩:=⟨hm.1,by show(eJ a.cs x o n).length<=_;rw[gT];exact hm.2⟩
 refine Ru Tryz.func86 Tryz.ntmps86 rfl rfl hs ?_
 simp only[bY]
 refine fS ?_;refine dO ?_;refine kh (λ x3=>?_);refine vU (λ x4=>?_);refine iG ?_;refine fS ?_;refine dO ?_;(refine gK (cA (by(repeat (first|exact cC _|(apply bU;focus ((conv=>{lhs;whnf});try exact rfl))));done)) rfl ?_);refine Fy rfl ?_;refine iG ?_;refine fS ?_;refine dO ?_;refine eI ?_;refine gK (aP (k:=4) (vs:=(vQ x o n f cap).a.cells) rf cK dH rfl rfl) rfl ?_;refine vU (λ x5=>?_);refine Oe (λ _=>?_);refine iG ?_;refine fS ?_;refine fS ?_;refine dO ?_;refine eI ?_;refine nC ?_;refine gg ?_;refine iG ?_
 refine Iw (λ c13=>?_) (λ c13=>?_)
 ·revert c13;(refine cv1 ?_);intro c13
  exact absurd (show(2:Int)=1 from c13) (by decide)
 ·revert c13;(refine cv2 ?_);intro c13
  refine D0 ?_;refine fS ?_;refine dO ?_;refine oL ?_;refine gK (Tv rf rf (Dd _)) rfl ?_;refine oL ?_
  (refine vK ?_;refine oL ?_)
  ((refine vK ?_;refine eI ?_));((refine vK ?_;refine nC ?_));((refine vK ?_;refine eI ?_));((refine vK ?_;refine nC ?_));((refine vK ?_;refine eI ?_));((refine vK ?_;refine nC ?_));((refine vK ?_;refine zS (cMI (V:=Value.bool) (os':=λ _=>fQ (a.Xg (eJ a.cs x o n))) (hs':=λ _=>[(b,fA (a.Xg (eJ a.cs x o n)))]) (Fc:=λ _=>[]) (A0:=A) (hm:=λ w=>pb _ _ _ _ w) (hc:=λ w hw=>yc hw x o n hx hl)) (λ x38 h38=>?_)));refine nl ?_;refine yO (λ _=>?_);refine iG ?_;refine fS ?_;refine fS ?_;refine dO ?_;refine eI ?_;refine nC ?_;refine gK (Li rf rf (aBs _ _ _)) rfl ?_;refine iG ?_
  refine Iw (λ c42=>?_) (λ c42=>?_)
  ·exact nv c42
  ·revert c42;(skip);intro c42
   refine D0 ?_;refine fS ?_;refine dO ?_;refine eI ?_;refine nC ?_;refine oL ?_;refine zS (cMf (V:=λ y:Cd×Fr×AS=>.agg ⟨y.1.cells⟩) (hs:=[(b,fA (a.Xg (eJ a.cs x o n)))]) (os:=fQ (a.Xg (eJ a.cs x o n))) (hs':=λ y=>[(b,fA y.2.2)]) (os':=λ y=>fQ y.2.2) (Fc:=λ y=>y.2.1) (A0:=A) (f:=f) (cap:=cap) (vs:=[.bool x38]) (hp:=hp) (hc:=λ w1 hw=>hk x38 _ hle (a.Xg (eJ a.cs x o n)) _ A w1 rfl (ok.Xg hn) hm2 hA hB hw)) (λ x47 h47=>?_);refine K8 (fR λ _=>aS rf cK rf (bX _) dH rf hU) (λ _=>?_);refine iG ?_
   refine G4 (yB _) (by kernel_rfl) Tryz.results86 (.cell rf cK dH .nil) (λ w hw=>?_)
   exact⟨x47,rfl,⟨Vb h38▸h47.1,h47.2.1,⟨hle.trans h47.2.2.le,h47.2.2.fam⟩⟩,hw.ret (by repeat (first|exact List.Sublist.refl _|apply List.Sublist.cons)) (aX.hX λ f hf=>by simpa using hf) (List.Sublist.refl _)⟩
def oQ(b:Nat)(p:Tr×Mm)(a:AS)(B:Fr)(y:Cd×Fr×AS):Prop:=(iY b p.1 p.2 y.1 p.2 (y.2.1++B)/\y.2.2.mm=p.2)/\y.2.2.Ok/\a.gZ y.2.2 y.2.1
theorem oQ.of{t0:Tr}{s0:Mm}{y:Cd×Fr×AS}{i m:Nat}(ht:bS t0 i m)(h:iY b t0 s0 y.1 y.2.2.mm (y.2.1++B)/\y.2.2.Ok/\a.gZ y.2.2 y.2.1):oQ b (Ct.fP t0 s0) a B y/\dU (Ct.fP t0 s0).1=true:=by
 obtain⟨h1,h2,h3⟩:=iY.fP ht h.1
 exact⟨⟨⟨by rw[h1];exact h3,h1.symm⟩,h.2⟩,h2⟩
theorem Nj{i m:Nat}(ht:bS t (i+1) m)(ha:dU t=true)(hlv:t.live=true)(hr:iY b t a.mm c a.mm B)(ok:a.Ok)(hm:a.mm.Small)(hA:∀f∈aM a.L,f∈A)(hB:∀x∈B,x∈A)(hs:SF w D [(b,fA a)] A [] (fQ a) w) :
  Calls Tryz.prog 86 #[.iface 42 (.pointer (some ⟨b,0,none⟩)),.agg ⟨c.cells⟩] w λ e w'=>∃y:Cd×Fr×AS,e=.returned (.agg ⟨y.1.cells⟩)/\(oQ b (xI (t,a.mm)) a B y/\dU (xI (t,a.mm)).1=true)/\SF w D [(b,fA y.2.2)] [] y.2.1 (fQ y.2.2) w':=by
 cases t with
 | done r=>cases hlv
 | load x k=>exact(Ew hr ok hm hA hB hs).mono λ e w' ⟨y,he,h,hw⟩=>⟨y,he,oQ.of (ht _) h,hw⟩
 | kO x o n k=>exact(H3 hr ok hm hA hB hs).mono λ e w' ⟨y,he,h,hw⟩=>⟨y,he,oQ.of (ht _) h,hw⟩
 | alloc n i k=>cases ha
 | cell i k=>cases ha
 | gen k=>cases ha
 | node r k=>cases ha
 | stuck=>cases ha
theorem Jb{i m:Nat}(ht:bS t (i+1) m)(ha:dU t=true)(hlv:t.live=true)(hr:iY b t a.mm c a.mm B)(ok:a.Ok)(hm:a.mm.Small)(hn:n<1000000000)(hA:∀f∈aM a.L,f∈A)(hB:∀x∈B,x∈A)(hs:SF w D [(bt,tO b c n),(b,fA a)] A [] (fQ a) w) :
  Calls Tryz.prog 37 #[.pointer (some ⟨bt,0,none⟩)] w λ e w'=>∃y:Cd×Fr×AS,e=.returned (.tuple #[])/\(oQ b (xI (t,a.mm)) a B y/\dU (xI (t,a.mm)).1=true)/\SF w D [(bt,tO b y.1 (n+1)),(b,fA y.2.2)] [] y.2.1 (fQ y.2.2) w':=by
 have hk:c.a.k≠0:=λ e=>by have:=(hr.kind ha).1.1 e;rw[hlv] at this;cases this
 refine enter Tryz.func37 Tryz.ntmps37 rfl rfl hs ?_
 simp only[bY]
 refine kK ?_;refine aQ (cV (hc:=λ w1 hw=>vB (hw.st.at cK))) (λ x3=>?_);refine aA ?_
 (refine eM 4 (λ g4=>?_) (λ g4=>?_)<;>(try (exfalso;omega))<;>((refine aF ?_;refine aA ?_)))
 ((refine aF ?_;refine dF ?_));refine J6 ?_;refine cH ?_;refine aG ?_
 refine bE (λ c9=>?_) (λ c9=>?_)
 ·exact nv c9
 ·try (exfalso;omega)
  refine aZ ?_;refine J13 ?_;refine uE ?_;refine lR ?_;refine C1 ?_;refine N0 ?_;refine aV ?_;refine gI [0,1,2,3,4,5,6,7,8,9,10,11,12] ?_;refine Yu ?_;refine J9 ?_;refine bT (i:=8) (hq:=(aP (k:=14) (vs:=c.cells) rf cK dH rfl rfl)) (h:=?_);refine bD (i:=9) (hq:=(cM (V:=λ y:Cd×Fr×AS=>.agg ⟨y.1.cells⟩) (Fc:=λ y=>y.2.1) (hs:=[(b,fA a)]) (os:=fQ a) (A0:=A) (hs':=λ y=>[(b,fA y.2.2)]) (os':=λ y=>fQ y.2.2) (hc:=λ w hw=>Nj ht ha hlv hr ok hm hA hB hw))) (h:=λ x29 h29=>?_);refine J4 ?_;refine kY (i:=12) (hq:=(fR λ _=>lO (off:=1) (vs:=x29.1.cells) (cs:=tkC b x29.1 (n+1) true) rf cK rf (bX _) dH (Nat.le_of_ble_eq_true rfl) rf hU)) (h:=λ _=>?_);refine eA ?_;refine wQ ?_;refine N0 ?_
  refine Dt Tryz.results37 (λ w hw=>?_)
  exact⟨x29,rfl,h29,hw.ret (List.Sublist.refl _) (aX.hX λ f hf=>by simpa using hf) (List.Sublist.refl _)⟩
theorem Zj{i m:Nat}(ht:bS t i m)(h:Xm b t a.mm f cap B)(ok:a.Ok)(hm:a.mm.Small)(hA:∀f∈aM a.L,f∈A)(hB:∀x∈B,x∈A)(hs:SF w D [(b,fA a)] A [] (fQ a) w) :
  Calls Tryz.prog 73 #[.iface 42 (.pointer (some ⟨b,0,none⟩)),.func (.func f) #[] ⟨cap⟩] w λ e w'=>∃x:Nat×Cd×Fr×AS,e=.returned (.pointer (some ⟨x.1,0,none⟩))/\(oQ b (Ct.fP t a.mm) a B x.2/\dU (Ct.fP t a.mm).1=true)/\SF w D [(x.1,tO b x.2.1 0),(b,fA x.2.2.2)] [] x.2.2.1 (fQ x.2.2.2) w':=by
 refine enter Tryz.func73 Tryz.ntmps73 rfl rfl hs ?_
 simp only[bY]
 refine cQ ?_;refine J2 ?_;refine bJ ?_;refine bN (λ x8=>?_);refine vP ?_;refine aC (cM (V:=λ y:Cd×Fr×AS=>.agg ⟨y.1.cells⟩) (Fc:=λ y=>y.2.1) (hs:=[(b,fA a)]) (os:=fQ a) (A0:=A) (hs':=λ y=>[(b,fA y.2.2)]) (os':=λ y=>fQ y.2.2) (hc:=λ w1 hw=>dj h ok hm hA hB hw)) (λ x11 h11=>?_);refine Hi ?_;refine bQ (fR λ _=>lO (off:=1) (vs:=x11.1.cells) (cs:=tkC b x11.1 0 false) rf cK rf (bX _) dH (Nat.le_of_ble_eq_true rfl) rf hU) (λ _=>?_);refine aG ?_;refine J2 ?_;refine J1 ?_
 refine aT Tryz.results73 (λ w hw=>?_)
 exact⟨(x8,x11),rfl,oQ.of ht h11,hw.ret (List.Sublist.refl _) (aX.hX λ f hf=>by simpa using hf) (List.Sublist.refl _)⟩
end
end

/- Calls with an arena; loads out of captured boxes. -/
end Go.Proofs.YtbajmaoegmbfgaaGreat
namespace Go.Ct
section
open Go Go.RowKit
abbrev bx(b:Nat)(cs:List Value):Option Addr×List Value:=(some ⟨b,0,none⟩,cs)
abbrev pt(b:Nat):Value:=.pointer (some ⟨b,0,none⟩)
abbrev fn(f:FuncId)(cap:List Value):Value:=.func (.func f) #[] ⟨cap⟩
abbrev iv(n:Int):Value:=.int .i64 n
theorem V9{α:Type}{l l' xs:List α}{is:List Nat}(h:lT l is xs l':=by(repeat (first|exact lT.nil|(apply lT.cons;(focus ((repeat (first|exact yD.head|apply yD.tail));done));simp only[pX])));first|done|fail):lT l is xs l':=h
theorem evD{S:List (Nat×Value)}{xs:List Operand}{vs:List Value}(h:oW S xs=vs:=by(repeat (first|exact cC _|(apply bU;focus ((conv=>{lhs;whnf});try exact rfl))));first|done|fail):oW S xs=vs:=h
section
variable{w0 w:World}{M:List Nat}{H H':List (Nat×Obj)}{A F:Fr}{O O':List Ow}
theorem SF.rI(h:SF w0 M H A F O w)(hH:H'.Sublist H:=by repeat (first|exact List.Sublist.refl _|apply List.Sublist.cons))(hO:O'.Sublist O:=by repeat (first|exact List.Sublist.refl _|apply List.Sublist.cons)):SF w0 M H' [] F O' w:=h.ret hH aX.all hO
theorem SF.rN(h:SF w0 M H A (F++[]) O w)(hH:H'.Sublist H:=by repeat (first|exact List.Sublist.refl _|apply List.Sublist.cons))(hO:O'.Sublist O:=by repeat (first|exact List.Sublist.refl _|apply List.Sublist.cons)):SF w0 M H' [] F O' w:=h.ret hH (aX.hX λ f hf=>by simpa using hf) hO
variable{P:Program}{S:List (Nat×Value)}{d:Nat}{ty t:TypeId}{pos:String}{af:Array Edge}{gd:Option (Nat×Bool)}{x:Operand}{v:Value}{vs:List Value}{B:Fr}
theorem kX(b:Nat)(cs:List Value)(q:Nat)(hB:∀x∈B,x∈A)(hq:cs[q]?=some v)(hx:ev S x=.pointer (some ⟨b,q,none⟩):=by exact rfl)(ht:one P t=true:=by first|exact L8 rfl|kernel_rfl)(hm:bx b cs∈B:=by simp):aL P S (SF w0 M H A F O) ⟨some d,.load t x,ty,pos,af,gd⟩ v :=
 dm (a:=some ⟨b,0,none⟩) (q:=q) (hx.trans (by simp[dB,eH])) ht (.bO (yF.nX (hB _ hm))) hq
theorem Rm(b:Nat)(cs:List Value)(q k:Nat)(hB:∀x∈B,x∈A)(hv:(cs.drop q).take k=vs)(hl:vs.length=k)(hx:ev S x=.pointer (some ⟨b,q,none⟩):=by exact rfl)(ht:jL P t k=true:=by exact dH)(hm:bx b cs∈B:=by simp):aL P S (SF w0 M H A F O) ⟨some d,.load t x,ty,pos,af,gd⟩ (.agg ⟨vs⟩) :=
 Gf (a:=some ⟨b,0,none⟩) (q:=q) (hx.trans (by simp[dB,eH])) ht (.bO (yF.nX (hB _ hm))) hv hl
end
end
end Go.Ct
namespace Go.Proofs.YtbajmaoegmbfgaaGreat
section
open Go Go.RowKit Go.Ct
abbrev pW(b:Nat)(f:FuncId)(cap arg:List Value)(B:Fr)(s:Mm)(T:Tr):Prop:=Bf b f cap arg B s λ c' s' B'=>iY b T s c' s' B'
theorem Bf.mr{b:Nat}{f:FuncId}{cap arg:List Value}{B B2:Fr}{s:Mm}{T:Tr}(h:pW b f cap arg B s T)(hb:∀x∈B,x∈B2):pW b f cap arg B2 s T:=h.more hb λ _ _ _ _ hC h=>h.more hC
section
variable{S:List (Nat×Value)}{w0 w:World}{M:List Nat}{H H':List (Nat×Obj)}{A A0 F B:Fr}{O O':List Ow}{ty:TypeId}{pos:String}{af:Array Edge}{gd:Option (Nat×Bool)}{b:Nat}{a:AS}{R:Cd->Mm->Fr->Prop}{is js:List Nat}{f:FuncId}{xs:List Operand}{at_:Array TypeId}{vs cap:List Value}{dst:Option Nat}{x:Operand}{H1:Cd×Fr×AS->List (Nat×Obj)}{F1:Cd×Fr×AS->Fr}{O1:Cd×Fr×AS->List Ow}
theorem zF(hc:∀w,SF w (Ks [(b,fA a)] (fQ a)) [(b,fA a)] A0 [] (fQ a) w->Calls Tryz.prog f ⟨vs⟩ w (zC b R a B (Ks [(b,fA a)] (fQ a)) w))
  (ha:oW S xs=vs:=by exact evD) (hp:plain Tryz.prog f=true:=by kernel_rfl) (hH:lT H is [(b,fA a)] H':=by exact V9) (hO:lT O js (fQ a) O':=by exact V9) (hA:bA A F O' A0:=by exact bA.of (λ _ h=>Or.inr (Or.inl h)))
  (hl1:is.length=1:=by exact rfl) (hl2:js.length=2:=by exact rfl)
  (hH1:∀y,iL is [(b,fA y.2.2)] H'=H1 y:=by intro x;simp only[iL,qV];exact rfl) (hF1:∀y,y.2.1++F=F1 y:=by intro x;exact rfl) (hO1:∀y,iL js (fQ y.2.2) O'=O1 y:=by intro x;simp only[iL,qV,mW];exact rfl) :
  bF Tryz.prog S (SF w0 M H A F O) ⟨dst,.call {callee:=.value (.func f),args:=⟨xs⟩,argTypes:=at_},ty,pos,af,gd⟩ (Cd×Fr×AS) (λ y=>.agg ⟨y.1.cells⟩) (λ y w=>(R y.1 y.2.2.mm (y.2.1++B)/\y.2.2.Ok/\a.gZ y.2.2 y.2.1)/\SF w0 M (H1 y) A (F1 y) (O1 y) w) :=
 cM (hs:=[(b,fA a)]) (os:=fQ a) (hs':=λ y:Cd×Fr×AS=>[(b,fA y.2.2)]) (os':=λ y=>fQ y.2.2) (Fc:=λ y=>y.2.1) ha hp hc hH hO hA (λ _=>hl1) (λ _=>hl2) hH1 hF1 hO1
theorem Rr(hp:plain Tryz.prog f=true)(hk:Bf b f cap vs B a.mm R)(ok:a.Ok)(hm:a.mm.Small)(hA0:∀f∈aM a.L,f∈A)(hB:∀x∈B,x∈A)(hx:ev S x=.func (.func f) #[] ⟨cap⟩:=by exact rfl)
  (ha:oW S xs=vs:=by exact evD) (hH:lT H is [(b,fA a)] H':=by exact V9) (hO:lT O js (fQ a) O':=by exact V9)
  (hl1:is.length=1:=by exact rfl) (hl2:js.length=2:=by exact rfl)
  (hH1:∀y,iL is [(b,fA y.2.2)] H'=H1 y:=by intro x;simp only[iL,qV];exact rfl) (hF1:∀y,y.2.1++F=F1 y:=by intro x;exact rfl) (hO1:∀y,iL js (fQ y.2.2) O'=O1 y:=by intro x;simp only[iL,qV,mW];exact rfl) :
  bF Tryz.prog S (SF w0 M H A F O) ⟨dst,.call {callee:=.value x,args:=⟨xs⟩,argTypes:=at_},ty,pos,af,gd⟩ (Cd×Fr×AS) (λ y=>.agg ⟨y.1.cells⟩) (λ y w=>(R y.1 y.2.2.mm (y.2.1++B)/\y.2.2.Ok/\a.gZ y.2.2 y.2.1)/\SF w0 M (H1 y) A (F1 y) (O1 y) w) :=
 cMf (V:=λ y:Cd×Fr×AS=>.agg ⟨y.1.cells⟩) (hs:=[(b,fA a)]) (os:=fQ a) (hs':=λ y:Cd×Fr×AS=>[(b,fA y.2.2)]) (os':=λ y=>fQ y.2.2) (Fc:=λ y=>y.2.1) (A0:=A) hx ha hp (λ w hw=>hk a _ A w rfl ok hm hA0 hB hw) hH hO (bA.of λ _ h=>.inr (.inl h)) (λ _=>hl1) (λ _=>hl2) hH1 hF1 hO1
end
end

/- Procedures of the program as codes: calls of the arena through the interface. -/
end Go.Proofs.YtbajmaoegmbfgaaGreat
namespace Go.Ct
section
open Go Go.RowKit
theorem SF.aBt{w0 w:World}{M:List Nat}{H:List (Nat×Obj)}{A A' F:Fr}{O:List Ow}(h:SF w0 M H A F O w)(hA:∀f∈A',f∈A):SF w0 M H A' F O w:=⟨h.st,λ f hf=>h.bO f (hA f hf),h.new,h.own,h.dis⟩
abbrev AS.al(a:AS)(n:Nd)(xs:List Int)(ys:List Pr)(init:Int)(x:AX):AS:=⟨a.L++[oE n xs ys a.cs.length x],gF n.kind a.cs init,a.gen,a.acc,x.pn,x.cn,x.pc,x.cc⟩
theorem fU{a:AS}(r:Int):eC a.mm.nodes r=(aD (cB a.L) r).c:=(Lh _ _).symm
theorem fm(a:AS):a.mm.nodes.length=a.L.length+2:=by show((cB a.L).map aY.c).length=_;rw[List.length_map,fN]
theorem xz{n c c':Nat}{v:Nv}{i:Int}{cs:List Int}(hb:mH n c {v with main:=0,prev:=0,status:=0})(hc:c=cs.length)(h1:n+1=c'):mH c' (gF v.kind cs i).length (dJ v c):=by
 subst hc
 have hcs:=lM (k:=v.kind) (cs:=cs) (init:=i)
 have hb':=hb.mono (n':=c') (c':=(gF v.kind cs i).length) (by omega) hcs.1
 refine⟨hb'.bO,hb'.exp,hb'.new,hb'.br,?_,?_,?_,hb'.bm,hb'.hash⟩
 ·show(if v.kind=2 then((cs.length+1:Nat):Int) else 0)<=_
  split
  ·rename_i hk;unfold gF;rw[if_pos (.inl hk)];simp
  ·omega
 ·show(if v.kind=3∨v.kind=5∨v.kind=6 then((cs.length+1:Nat):Int) else 0)<=_
  split
  ·rename_i hk;unfold gF;rw[if_pos (by omega)];simp
  ·omega
 ·show(if v.kind=8 then((cs.length+1:Nat):Int) else 0)<=_
  split
  ·rename_i hk;unfold gF;rw[if_pos (by omega)];simp
  ·omega
theorem W1.push{s:Mm}(h:W1 s){v:Nv}{i:Int}(hb:mH s.nodes.length s.cs.length {v with main:=0,prev:=0,status:=0})(hi:i<=s.nodes.length+1):W1 (s.push v i):=by
 have hcs:=lM (k:=v.kind) (cs:=s.cs) (init:=i)
 have hl:(s.nodes++[dJ v s.cs.length]).length=s.nodes.length+1:=by simp
 refine⟨λ u hu=>?_,λ u hu=>?_,by have:=h.two;show 2<=(s.nodes++[dJ v s.cs.length]).length;omega⟩
 ·show mH (s.nodes++[dJ v s.cs.length]).length (gF v.kind s.cs i).length u
  rcases List.mem_append.1 hu with hu|hu
  ·exact(h.nd u hu).mono (by omega) hcs.1
  ·rw[List.mem_singleton.1 hu]
   exact xz hb rfl hl.symm
 ·show u<=((s.nodes++[dJ v s.cs.length]).length:Int)
  have hu':u∈gF v.kind s.cs i:=hu
  unfold gF at hu'
  split at hu'
  ·rcases List.mem_append.1 hu' with h2|h2
   ·have:=h.cs u h2;omega
   ·rw[List.mem_singleton.1 h2];omega
  ·have:=h.cs u hu';omega
theorem L7(a:AS)(n:Nd)(xs:List Int)(ys:List Pr)(init:Int)(x:AX):(a.al n xs ys init x).mm=a.mm.push (n.c xs ys) init:=by
 unfold AS.mm Mm.push
 simp only[cB,List.map_cons,List.map_append,List.map_nil,List.cons_append]
 rfl
theorem AS.Ok.al{a:AS}(ok:a.Ok){n:Nd}{xs:List Int}{ys:List Pr}{init:Int}(x:AX)(hx:xs.length<=274877906944)(hy:ys.length<=274877906944)(hb:mH a.mm.nodes.length a.mm.cs.length {n.c xs ys with main:=0,prev:=0,status:=0})(hi:init<=a.mm.nodes.length+1):(a.al n xs ys init x).Ok:=by
 refine⟨λ v hv=>?_,by rw[L7];exact ok.mo.push hb hi⟩
 rcases List.mem_append.1 hv with hv|hv
 ·exact ok.fit v hv
 ·rw[List.mem_singleton.1 hv];exact Lv (by omega) (by omega)
theorem Ul(s:Mm)(v:Nv)(i:Int):s.Le (s.push v i):=⟨⟨_,rfl⟩,lM.1⟩
theorem AS.gZ.al(a:AS)(n:Nd)(xs:List Int)(ys:List Pr)(init:Int)(x:AX):a.gZ (a.al n xs ys init x) (oE n xs ys a.cs.length x).fr:=⟨by rw[L7];exact Ul _ _ _,λ f hf=>by
 rw[cY] at hf
 rcases List.mem_append.1 hf with h|h
 ·exact .inr (.inl h)
 ·refine .inr (.inr ?_)
  simpa[aM] using h⟩
theorem En{A B B1:Fr}(h:∀f∈B,f∈A):∀f∈B1++B,f∈B1++A:=λ f hf=>(List.mem_append.1 hf).elim (λ h=>List.mem_append_left _ h) λ hf=>List.mem_append_right _ (h f hf)
theorem bA.Sn{A B1:Fr}{O:List Ow}:bA A B1 O (B1++A):=bA.of λ f hf=>(List.mem_append.1 hf).elim (λ h=>.inr (.inr (.inl h))) λ h=>.inr (.inl h)
theorem bA.ax{A F:Fr}{O:List Ow}{x y:Option Addr×List Value}:bA A (x::y::F) O (x::y::A):=bA.of λ f hf=>by
 rcases List.mem_cons.1 hf with h|hf
 ·exact .inr (.inr (.inl (by rw[h];simp)))
 ·rcases List.mem_cons.1 hf with h|hf
  ·exact .inr (.inr (.inl (by rw[h];simp)))
  ·exact .inr (.inl hf)
theorem Fj{A B:Fr}{x y:Option Addr×List Value}(h:∀f∈B,f∈A):∀f∈x::y::B,f∈x::y::A:=λ f hf=>(List.mem_cons.1 hf).elim (λ h=>h▸List.mem_cons_self ..) λ hf=>(List.mem_cons.1 hf).elim (λ h=>h▸List.mem_cons_of_mem _ (List.mem_cons_self ..)) λ hf=>List.mem_cons_of_mem _ (List.mem_cons_of_mem _ (h f hf))
theorem Gm{P:Program}{S:List (Nat×Value)}{d:Nat}{ty t:TypeId}{pos:String}{af:Array Edge}{gd:Option (Nat×Bool)}{w0:World}{M:List Nat}{H:List (Nat×Obj)}{z:Value}(hz:dA P t=some z)(h1:z.oneCell'=true):bF P S (St w0 M H) ⟨some d,.alloc t,ty,pos,af,gd⟩ Nat (λ b=>.pointer (some ⟨b,0,none⟩)) (λ b=>St w0 M ((b,.cells ⟨[z]⟩ t (0,0))::H)) :=
 Vd (λ w _=>by
  have e:z.cells = #[z]:=by cases z<;>simp_all[Value.cells,Value.oneCell']
  simp[execOp,Instr.alloc,Pg hz,newVar,newRow,e])
end
end Go.Ct
namespace Go.Proofs.YtbajmaoegmbfgaaGreat
section
open Go Go.RowKit Go.Ct
section
variable{D:List Nat}{A:Fr}{a:AS}{b:Nat}{w:World}
theorem mz(ok:a.Ok)(hm:a.mm.Small)(hA:∀f∈aM a.L,f∈A)(r:Int)(hr:r<=a.mm.nodes.length)(hs:SF w D [(b,fA a)] A [] (fQ a) w) :
  Calls Tryz.prog 36 #[.pointer (some ⟨b,0,none⟩),.int .i64 r] w λ e w'=>∃q:Option Addr×Option Addr,e=.returned (.agg ⟨((aD (cB a.L) r).at_ q.1 q.2).nd.cells⟩)/\True /\
  SF w D [(b,fA a)] [] [] (fQ a++[⟨q.2,dE (aD (cB a.L) r).ys,(aD (cB a.L) r).ys.length,164,2⟩,⟨q.1,aH (aD (cB a.L) r).xs,(aD (cB a.L) r).xs.length,37,1⟩]) w':=by
 have h1:=hm.1
 have h2:=fm a
 exact S5 (hs.aBt hA) ok.fit r (by omega) (by omega)
theorem B5{S:List (Nat×Value)}{w0:World}{M:List Nat}{H H':List (Nat×Obj)}{F:Fr}{O O':List Ow}{ty:TypeId}{pos:String}{af:Array Edge}{gd:Option (Nat×Bool)}{is js:List Nat}{recv:Operand}{xs:List Operand}{at_:Array TypeId}{dst:Option Nat}{H1:Option Addr×Option Addr->List (Nat×Obj)}{F1:Option Addr×Option Addr->Fr}{O1:Option Addr×Option Addr->List Ow}
  (r:Int) (ok:a.Ok) (hm:a.mm.Small) (hA:∀f∈aM a.L,f∈A) (hr:r<=a.mm.nodes.length) (hx:ev S recv=.iface 42 (.pointer (some ⟨b,0,none⟩)):=by exact rfl) (ha:oW S xs=[.int .i64 r]:=by exact evD) (hH:lT H is [(b,fA a)] H':=by exact V9) (hO:lT O js (fQ a) O':=by exact V9)
  (hl1:is.length=1:=by exact rfl) (hl2:js.length=2:=by exact rfl) (hH1:∀x,iL is [(b,fA a)] H'=H1 x:=by intro x;simp only[iL,qV];exact rfl) (hF1:∀x,[]++F=F1 x:=by intro x;exact rfl)
  (hO1:∀x,[⟨x.2,dE (aD (cB a.L) r).ys,(aD (cB a.L) r).ys.length,164,2⟩,⟨x.1,aH (aD (cB a.L) r).xs,(aD (cB a.L) r).xs.length,37,1⟩]++iL js (fQ a) O'=O1 x:=by intro x;simp only[iL,qV,mW,List.nil_append,List.cons_append];exact rfl) :
  bF Tryz.prog S (SF w0 M H A F O) ⟨dst,.call {callee:=.invoke recv "Node",args:=⟨xs⟩,argTypes:=at_},ty,pos,af,gd⟩ (Option Addr×Option Addr) (λ q=>.agg ⟨((aD (cB a.L) r).at_ q.1 q.2).nd.cells⟩) (λ x w=>True/\SF w0 M (H1 x) A (F1 x) (O1 x) w) :=
 aBY (hs:=[(b,fA a)]) (os:=fQ a) (A0:=A) (hs':=λ _=>[(b,fA a)]) (os':=λ _=>fQ a) (Fc:=λ _=>[]) (Oc:=λ q=>[⟨q.2,dE (aD (cB a.L) r).ys,(aD (cB a.L) r).ys.length,164,2⟩,⟨q.1,aH (aD (cB a.L) r).xs,(aD (cB a.L) r).xs.length,37,1⟩]) hx ha (λ w=>lb _ _ w) (λ w1 hw=>mz ok hm hA r hr hw) hH hO (bA.of λ _ h=>.inr (.inl h)) (λ _=>hl1) (λ _=>hl2) hH1 hF1 hO1
theorem ap(ok:a.Ok)(hm:a.mm.Small){n:Nd}{xs:List Int}{ys:List Pr}(init:Int)(e1:n.brN=xs.length)(e2:n.prN=ys.length)(hx:xs.length<=274877906944)(hy:ys.length<=274877906944)(hA:∀f∈[(n.brA,aH xs),(n.prA,dE ys)],f∈A)(hs:SF w D [(b,fA a)] A [] (fQ a) w) :
  Calls Tryz.prog 29 #[.pointer (some ⟨b,0,none⟩),n.v,.int .i64 init] w λ e w'=>∃x:AX,e=.returned (.int .i64 ((a.mm.nodes.length+1:Nat):Int))/\True/\SF w D [(b,fA (a.al n xs ys init x))] [] (oE n xs ys a.cs.length x).fr (fQ (a.al n xs ys init x)) w':=by
 have h1:=hm.1
 have h3:a.cs.length<=137438953472:=hm.2
 have h2:=fm a
 rw[show a.mm.nodes.length+1=a.L.length+3 by omega]
 exact fj init (hs.aBt hA) e1 e2 hx hy (by omega) (by omega)
end
end

end Go.Proofs.YtbajmaoegmbfgaaGreat

/- Tasks: Done, Next, Result, Steps. -/
import Derived.Test.YtbajmaoegmbfgaaGreatGDfr
import Derived.Test.YtbajmaoegmbfgaaGreatGTp2

set_option linter.unusedSimpArgs false
set_option linter.unusedVariables false
namespace Go.Ct
section
open Go Go.RowKit
theorem SF.same{w w':World}{b:Nat}{o:Obj}(h:SF w [b] [(b,o)] [] [] [] w')(hb:w.heap[b]?=some o):St w [] [] w' :=
 ⟨h.st.os,h.st.tape,h.st.output,h.st.size,λ k hk _=>by
  by_cases e:k=b
  ·subst e;rw[h.st.has (k,o) (List.mem_singleton.2 rfl),hb]
  ·exact h.st.jS k hk (by simpa using e),λ _ h=>(List.not_mem_nil h).elim,λ _ h=>(List.not_mem_nil h).elim,List.nodup_nil⟩
theorem SF.S7{w:World}{b:Nat}{o:Obj}(hb:w.heap[b]?=some o):SF w [b] [(b,o)] [] [] [] w :=
 ⟨⟨rfl,rfl,rfl,Nat.le_refl _,λ _ _ _=>rfl,λ p hp=>by rw[List.mem_singleton.1 hp];exact hb,λ p hp=>by rw[List.mem_singleton.1 hp];exact .inl (List.mem_singleton.2 rfl),by simp⟩,λ _ h=>(List.not_mem_nil h).elim,λ _ h=>(List.not_mem_nil h).elim,λ _ h=>(List.not_mem_nil h).elim,by simp[Ks]⟩
end
end Go.Ct
namespace Go.Proofs.YtbajmaoegmbfgaaGreat
section
open Go Go.RowKit Go.Ct
abbrev tkC(b:Nat)(c:Cd)(n:Nat)(z:Bool):List Value:=[.iface 42 (.pointer (some ⟨b,0,none⟩)),.int .i64 c.a.k,.int .i64 c.a.c,.int .i64 c.a.o,.int .i64 c.a.n,fnV c.f,fnV c.g,.int .i64 c.r.err,.bool c.r.found,.int .u64 c.r.val,.string c.r.key,.int .i64 c.r.fZ,.int .i64 c.r.ref,.int .i64 c.r.root,.bool c.r.ro,.int .i64 ((n:Nat):Int),.bool z]
abbrev tO(b:Nat)(c:Cd)(n:Nat):Obj:=.cells ⟨tkC b c n false⟩ 141 (0,0)
section
variable{D:List Nat}{A B:Fr}{L:List aU}{cs:List Int}{gen acc:Int}{pn pc:Option Addr}{cn cc b bt n:Nat}{w:World}{c:Cd}
theorem vS(h:w.heap[bt]?=some (tO b c n)):Calls Tryz.prog 33 #[.pointer (some ⟨bt,0,none⟩)] w λ e w'=>e=.returned (.bool (c.a.k==0))/\St w [] [] w':=by
 refine enter Tryz.func33 Tryz.ntmps33 rfl rfl (SF.S7 h) ?_
 simp only[bW]
 refine cP ?_;refine Ex ?_;refine aE ?_;refine J3 ?_;refine P9 ?_
 refine aQ Tryz.results33 (λ w hw=>?_)
 exact⟨rfl,hw.aS.same h⟩
theorem Ih(h:w.heap[bt]?=some (tO b c n)):Calls Tryz.prog 63 #[.pointer (some ⟨bt,0,none⟩)] w λ e w'=>e=.returned (.int .i64 ((n:Nat):Int))/\St w [] [] w':=by
 refine enter Tryz.func63 Tryz.ntmps63 rfl rfl (SF.S7 h) ?_
 simp only[bW]
 refine cP ?_;refine kK ?_;refine J1 ?_
 refine aQ Tryz.results63 (λ w hw=>?_)
 exact⟨rfl,hw.aS.same h⟩
theorem cg (h:w.heap[bt]?=some (tO b c n)):Calls Tryz.prog 133 #[.pointer (some ⟨bt,0,none⟩)] w fun e w'=>e=.returned (.tuple #[.agg ⟨(if c.a.k=0 then Ac.zero else c.a).cells⟩,.bool (c.a.k != 0)])∧St w [] [] w':=by
 refine enter Tryz.func133 Tryz.ntmps133 rfl rfl (SF.S7 h) ?_
 simp only [bW]
 refine J0 ?_;refine aJ (fun x2=>?_);refine hJ ?_;refine J2 ?_;refine aR (cV (hc:=fun w1 hw=>vS (hw.st.at cN))) (fun x5=>?_);refine aH ?_
 refine bB (fun c5=>?_) (fun c5=>?_)
 ·refine J0 ?_;refine bG ?_;refine xP ?_
  refine aZ Tryz.results133 (fun w hw=>?_)
  refine⟨?_,hw.aS.same h⟩
  rw [if_pos (by simpa using c5),show (c.a.k != 0)=false by simpa using c5]
  rfl
 ·refine aW ?_;refine Ex ?_;refine aE ?_;refine aB (aN (k:=4) (vs:=c.a.cells) rf cN dV rfl rfl) rfl ?_;refine xP ?_
  refine aZ Tryz.results133 (fun w hw=>?_)
  refine⟨?_,hw.aS.same h⟩
  rw [if_neg (by simpa using c5),show (c.a.k != 0)=true by simpa using c5]
  rfl
theorem Qc(h:w.heap[bt]?=some (tO b c n)):Calls Tryz.prog 34 #[.pointer (some ⟨bt,0,none⟩)] w λ e w'=>e=.returned (.agg ⟨(if c.a.k=0 then c.r else Rs.zero).cells⟩)/\St w [] [] w':=by
 refine enter Tryz.func34 Tryz.ntmps34 rfl rfl (SF.S7 h) ?_
 simp only[bW]
 refine J0 ?_;refine aJ (λ x2=>?_);refine aH ?_;refine lA ?_;refine aR (cV (hc:=λ w1 hw=>vS (hw.st.at cN))) (λ x4=>?_);refine nY ?_
 refine bB (λ c5=>?_) (λ c5=>?_)
 ·refine J0 ?_;refine uJ ?_
  refine aZ Tryz.results34 (λ w hw=>?_)
  refine⟨?_,hw.aS.same h⟩
  rw[if_neg (by simpa using c5)]
  rfl
 ·refine aW ?_;refine Ex ?_;refine aE ?_;refine aB (aN (k:=8) (vs:=c.r.cells) rf cN dV rfl rfl) rfl ?_;refine J5 ?_
  refine aZ Tryz.results34 (λ w hw=>?_)
  refine⟨?_,hw.aS.same h⟩
  rw[if_pos (by simpa using c5)]
  rfl
end
end

/- Tasks on an arena: how they begin, how they go on. -/
end Go.Proofs.YtbajmaoegmbfgaaGreat
namespace Go.Ct
section
open Go Go.RowKit
abbrev AS.Wr(a:AS)(cs:List Int):AS:={a with cs:=cs,acc:=up a.acc}
theorem AS.Ok.Wr{a:AS}(ok:a.Ok){x o n:Int}(hn:n<=a.mm.nodes.length):(a.Wr (eK a.cs x o n)).Ok:=⟨ok.fit,ok.mo.jZ hn⟩
end
end Go.Ct
namespace Go.Proofs.YtbajmaoegmbfgaaGreat
section
open Go Go.RowKit Go.Ct
section
variable{D:List Nat}{A B:Fr}{a:AS}{b bt n:Nat}{w:World}{c:Cd}{t:Tr}{f:FuncId}{cap:List Value}
theorem Yk(h:Xr b t a.mm f cap B)(ok:a.Ok)(hm:a.mm.Small)(hA:∀f∈aL a.L,f∈A)(hB:∀x∈B,x∈A)(hs:SF w D [(b,eN a)] A [] (eS a) w) :
  Calls Tryz.prog 118 #[.func (.func f) #[] ⟨cap⟩] w (Bh b (λ c' s' B'=>kD b t a.mm c' s' B') a B D w):=by
 obtain⟨hp,h⟩:=h
 refine Qm Tryz.func118 Tryz.ntmps118 rfl rfl hs ?_
 simp only[bW]
 refine fN ?_;refine dK ?_;refine vG (λ x2=>?_);refine iH ?_;refine fN ?_;refine dK ?_;(refine gA (cJ (by(repeat (first|exact cL _|(apply bX;focus ((conv=>{lhs;whnf});try exact rfl))));done)) rfl ?_);refine Gk rfl ?_;refine iH ?_;refine fN ?_;refine fN ?_;refine dK ?_;refine oB ?_;refine gA (Jw rf rf (zv _ _ _)) rfl ?_;refine iH ?_
 refine I3 (λ c5=>?_) (λ c5=>?_)
 ·exact nv c5
 ·revert c5;(skip);intro c5
  refine Dv ?_;refine fN ?_;refine dK ?_;refine oB ?_;refine zN (cMf (V:=λ y:Cd×Fr×AS=>.agg ⟨y.1.cells⟩) (hs:=[(b,eN a)]) (os:=eS a) (hs':=λ y=>[(b,eN y.2.2)]) (os':=λ y=>eS y.2.2) (Fc:=λ y=>y.2.1) (A0:=A) (f:=f) (cap:=cap) (vs:=[]) (hp:=hp) (hc:=λ w1 hw=>h a.mm (Mm.Le.refl _) a _ A w1 rfl ok hm hA hB hw)) (λ x8 h8=>?_);refine Kr (hY λ _=>bF rf cN rf (dA _) dV rf jP) (λ _=>?_);refine iH ?_
  refine G4 (Rv _) (by kernel_rfl) Tryz.results118 (.cell rf cN dV .nil) (λ w hw=>?_)
  exact⟨x8,rfl,h8,hw.ret (by repeat (first|exact List.Sublist.refl _|apply List.Sublist.cons)) (aX.iF λ f hf=>by simpa using hf) (List.Sublist.refl _)⟩
theorem Hr{x:Int}{k:Int->Tr}(hr:kD b (.load x k) a.mm c a.mm B)(ok:a.Ok)(hm:a.mm.Small)(hA:∀f∈aL a.L,f∈A)(hB:∀x∈B,x∈A)(hs:SF w D [(b,eN a)] A [] (eS a) w) :
  Calls Tryz.prog 86 #[.iface 42 (.pointer (some ⟨b,0,none⟩)),.agg ⟨c.cells⟩] w (Bh b (λ c' s' B'=>kD b (k (bU a.cs x)) a.mm c' s' B') a B D w):=by
 obtain⟨_,hx,f,cap,rfl,hp,hk⟩:=hr
 have hl:a.cs.length<=274877906944:=by have:=hm.2;show a.mm.cs.length<=_;omega
 have hv:bU a.cs x<=a.mm.nodes.length:=ok.mo.cell x
 refine Qm Tryz.func86 Tryz.ntmps86 rfl rfl hs ?_
 simp only[bW]
 refine fN ?_;refine dK ?_;refine az (λ x3=>?_);refine vG (λ x4=>?_);refine iH ?_;refine fN ?_;refine dK ?_;(refine gA (cJ (by(repeat (first|exact cL _|(apply bX;focus ((conv=>{lhs;whnf});try exact rfl))));done)) rfl ?_);refine Gk rfl ?_;refine iH ?_;refine fN ?_;refine dK ?_;refine eG ?_;refine gA (aN (k:=4) (vs:=(qK x f cap).a.cells) rf cN dV rfl rfl) rfl ?_;refine vG (λ x5=>?_);refine Np (λ _=>?_);refine iH ?_;refine fN ?_;refine fN ?_;refine dK ?_;refine eG ?_;refine mR ?_;refine aa ?_;refine iH ?_
 refine I3 (λ c13=>?_) (λ c13=>?_)
 ·revert c13;(refine cv1 ?_);intro c13
  refine fN ?_;refine dK ?_;refine zB (λ _=>?_);refine iH ?_;refine fN ?_;refine fN ?_;refine dK ?_;refine oB ?_;refine gA (Uu rf rf (Cp _)) rfl ?_;refine iH ?_
  refine I3 (λ c15=>?_) (λ c15=>?_)
  ·revert c15;(skip);intro c15
   refine dK ?_;refine oB ?_;refine eG ?_;refine mR ?_;refine zN (yq (V:=λ _:Unit=>.int .i64 (bU a.cs x)) (os':=λ _=>eS (a.Wr a.cs)) (hs':=λ _=>[(b,eN (a.Wr a.cs))]) (Fc:=λ _=>[]) (A0:=A) (hm:=λ w=>ak _ _ w) (hc:=λ w hw=>T8 hw x hx hl)) (λ x19 h19=>?_);refine zB (λ _=>?_);refine iH ?_;refine fN ?_;refine fN ?_;refine dK ?_;refine eG ?_;refine mR ?_;refine gA (Jw rf rf (aAs _ _ _)) rfl ?_;refine iH ?_
   refine I3 (λ c22=>?_) (λ c22=>?_)
   ·exact nv c22
   ·revert c22;(skip);intro c22
    refine Dv ?_;refine fN ?_;refine dK ?_;refine eG ?_;refine mR ?_;refine oB ?_;refine zN (cMf (V:=λ y:Cd×Fr×AS=>.agg ⟨y.1.cells⟩) (hs:=[(b,eN (a.Wr a.cs))]) (os:=eS (a.Wr a.cs)) (hs':=λ y=>[(b,eN y.2.2)]) (os':=λ y=>eS y.2.2) (Fc:=λ y=>y.2.1) (A0:=A) (f:=f) (cap:=cap) (vs:=[.int .i64 (bU a.cs x)]) (hp:=hp) (hc:=λ w1 hw=>hk (bU a.cs x) a.mm (Mm.Le.refl _) hv (a.Wr a.cs) _ A w1 rfl ⟨ok.fit,ok.mo⟩ hm hA hB hw)) (λ x27 h27=>?_);refine Kr (hY λ _=>bF rf cN rf (dA _) dV rf jP) (λ _=>?_);refine iH ?_
    refine G4 (yC _) (by kernel_rfl) Tryz.results86 (.cell rf cN dV .nil) (λ w hw=>?_)
    exact⟨x27,rfl,⟨h27.1,h27.2.1,⟨h27.2.2.le,h27.2.2.fam⟩⟩,hw.ret (by repeat (first|exact List.Sublist.refl _|apply List.Sublist.cons)) (aX.iF λ f hf=>by simpa using hf) (List.Sublist.refl _)⟩
  ·exact nv c15
 ·revert c13;(refine cv2 ?_);intro c13
  exact(c13 rfl).elim
theorem Hz{x o n:Int}{k:Bool->Tr}(hr:kD b (.jZ x o n k) a.mm c a.mm B)(ok:a.Ok)(hm:a.mm.Small)(hA:∀f∈aL a.L,f∈A)(hB:∀x∈B,x∈A)(hs:SF w D [(b,eN a)] A [] (eS a) w) :
  Calls Tryz.prog 86 #[.iface 42 (.pointer (some ⟨b,0,none⟩)),.agg ⟨c.cells⟩] w (Bh b (λ c' s' B'=>kD b (k (iq a.cs x o)) ⟨a.mm.nodes,eK a.cs x o n,a.gen⟩ c' s' B') a B D w):=by
 obtain⟨_,hx,hn,f,cap,rfl,hp,hk⟩:=hr
 have hl:a.cs.length<=274877906944:=by have:=hm.2;show a.mm.cs.length<=_;omega
 have hle:a.mm.Le ⟨a.mm.nodes,eK a.cs x o n,a.gen⟩:=⟨⟨[],by simp⟩,by show a.cs.length<=(eK a.cs x o n).length;rw[gR];exact Nat.le_refl _⟩
 have hm2:Mm.Small ⟨a.mm.nodes,eK a.cs x o n,a.gen⟩:=⟨hm.1,by show(eK a.cs x o n).length<=_;rw[gR];exact hm.2⟩
 refine Qm Tryz.func86 Tryz.ntmps86 rfl rfl hs ?_
 simp only[bW]
 refine fN ?_;refine dK ?_;refine az (λ x3=>?_);refine vG (λ x4=>?_);refine iH ?_;refine fN ?_;refine dK ?_;(refine gA (cJ (by(repeat (first|exact cL _|(apply bX;focus ((conv=>{lhs;whnf});try exact rfl))));done)) rfl ?_);refine Gk rfl ?_;refine iH ?_;refine fN ?_;refine dK ?_;refine eG ?_;refine gA (aN (k:=4) (vs:=(tQ x o n f cap).a.cells) rf cN dV rfl rfl) rfl ?_;refine vG (λ x5=>?_);refine Np (λ _=>?_);refine iH ?_;refine fN ?_;refine fN ?_;refine dK ?_;refine eG ?_;refine mR ?_;refine aa ?_;refine iH ?_
 refine I3 (λ c13=>?_) (λ c13=>?_)
 ·revert c13;(refine cv1 ?_);intro c13
  exact absurd (show(2:Int)=1 from c13) (by decide)
 ·revert c13;(refine cv2 ?_);intro c13
  refine Dv ?_;refine fN ?_;refine dK ?_;refine oB ?_;refine gA (Uu rf rf (Cp _)) rfl ?_;refine oB ?_
  (refine wA ?_;refine oB ?_)
  ((refine wA ?_;refine eG ?_));((refine wA ?_;refine mR ?_));((refine wA ?_;refine eG ?_));((refine wA ?_;refine mR ?_));((refine wA ?_;refine eG ?_));((refine wA ?_;refine mR ?_));((refine wA ?_;refine zN (yq (V:=Value.bool) (os':=λ _=>eS (a.Wr (eK a.cs x o n))) (hs':=λ _=>[(b,eN (a.Wr (eK a.cs x o n)))]) (Fc:=λ _=>[]) (A0:=A) (hm:=λ w=>m7 _ _ _ _ w) (hc:=λ w hw=>wu hw x o n hx hl)) (λ x38 h38=>?_)));refine nz ?_;refine zB (λ _=>?_);refine iH ?_;refine fN ?_;refine fN ?_;refine dK ?_;refine eG ?_;refine mR ?_;refine gA (Jw rf rf (z4 _ _ _)) rfl ?_;refine iH ?_
  refine I3 (λ c42=>?_) (λ c42=>?_)
  ·exact nv c42
  ·revert c42;(skip);intro c42
   refine Dv ?_;refine fN ?_;refine dK ?_;refine eG ?_;refine mR ?_;refine oB ?_;refine zN (cMf (V:=λ y:Cd×Fr×AS=>.agg ⟨y.1.cells⟩) (hs:=[(b,eN (a.Wr (eK a.cs x o n)))]) (os:=eS (a.Wr (eK a.cs x o n))) (hs':=λ y=>[(b,eN y.2.2)]) (os':=λ y=>eS y.2.2) (Fc:=λ y=>y.2.1) (A0:=A) (f:=f) (cap:=cap) (vs:=[.bool x38]) (hp:=hp) (hc:=λ w1 hw=>hk x38 _ hle (a.Wr (eK a.cs x o n)) _ A w1 rfl (ok.Wr hn) hm2 hA hB hw)) (λ x47 h47=>?_);refine Kr (hY λ _=>bF rf cN rf (dA _) dV rf jP) (λ _=>?_);refine iH ?_
   refine G4 (yC _) (by kernel_rfl) Tryz.results86 (.cell rf cN dV .nil) (λ w hw=>?_)
   exact⟨x47,rfl,⟨T5 h38▸h47.1,h47.2.1,⟨hle.trans h47.2.2.le,h47.2.2.fam⟩⟩,hw.ret (by repeat (first|exact List.Sublist.refl _|apply List.Sublist.cons)) (aX.iF λ f hf=>by simpa using hf) (List.Sublist.refl _)⟩
def nM(b:Nat)(p:Tr×Mm)(a:AS)(B:Fr)(y:Cd×Fr×AS):Prop:=(kD b p.1 p.2 y.1 p.2 (y.2.1++B)/\y.2.2.mm=p.2)/\y.2.2.Ok/\a.iV y.2.2 y.2.1
theorem nM.of{t0:Tr}{s0:Mm}{y:Cd×Fr×AS}{i m:Nat}(ht:bQ t0 i m)(h:kD b t0 s0 y.1 y.2.2.mm (y.2.1++B)/\y.2.2.Ok/\a.iV y.2.2 y.2.1):nM b (Ct.iZ t0 s0) a B y/\eE (Ct.iZ t0 s0).1=true:=by
 obtain⟨h1,h2,h3⟩:=kD.iZ ht h.1
 exact⟨⟨⟨by rw[h1];exact h3,h1.symm⟩,h.2⟩,h2⟩
theorem M8{i m:Nat}(ht:bQ t (i+1) m)(ha:eE t=true)(hlv:t.live=true)(hr:kD b t a.mm c a.mm B)(ok:a.Ok)(hm:a.mm.Small)(hA:∀f∈aL a.L,f∈A)(hB:∀x∈B,x∈A)(hs:SF w D [(b,eN a)] A [] (eS a) w) :
  Calls Tryz.prog 86 #[.iface 42 (.pointer (some ⟨b,0,none⟩)),.agg ⟨c.cells⟩] w λ e w'=>∃y:Cd×Fr×AS,e=.returned (.agg ⟨y.1.cells⟩)/\(nM b (A1 (t,a.mm)) a B y/\eE (A1 (t,a.mm)).1=true)/\SF w D [(b,eN y.2.2)] [] y.2.1 (eS y.2.2) w':=by
 cases t with
 | done r=>cases hlv
 | load x k=>exact(Hr hr ok hm hA hB hs).mono λ e w' ⟨y,he,h,hw⟩=>⟨y,he,nM.of (ht _) h,hw⟩
 | jZ x o n k=>exact(Hz hr ok hm hA hB hs).mono λ e w' ⟨y,he,h,hw⟩=>⟨y,he,nM.of (ht _) h,hw⟩
 | alloc n i k=>cases ha
 | cell i k=>cases ha
 | gen k=>cases ha
 | node r k=>cases ha
 | stuck=>cases ha
theorem Je{i m:Nat}(ht:bQ t (i+1) m)(ha:eE t=true)(hlv:t.live=true)(hr:kD b t a.mm c a.mm B)(ok:a.Ok)(hm:a.mm.Small)(hn:n<1000000000)(hA:∀f∈aL a.L,f∈A)(hB:∀x∈B,x∈A)(hs:SF w D [(bt,tO b c n),(b,eN a)] A [] (eS a) w) :
  Calls Tryz.prog 37 #[.pointer (some ⟨bt,0,none⟩)] w λ e w'=>∃y:Cd×Fr×AS,e=.returned (.tuple #[])/\(nM b (A1 (t,a.mm)) a B y/\eE (A1 (t,a.mm)).1=true)/\SF w D [(bt,tO b y.1 (n+1)),(b,eN y.2.2)] [] y.2.1 (eS y.2.2) w':=by
 have hk:c.a.k≠0:=λ e=>by have:=(hr.kind ha).1.1 e;rw[hlv] at this;cases this
 refine enter Tryz.func37 Tryz.ntmps37 rfl rfl hs ?_
 simp only[bW]
 refine lA ?_;refine aR (cV (hc:=λ w1 hw=>vS (hw.st.at cN))) (λ x3=>?_);refine aA ?_
 (refine dZ 4 (λ g4=>?_) (λ g4=>?_)<;>(try (exfalso;omega))<;>((refine aF ?_;refine aA ?_)))
 ((refine aF ?_;refine dC ?_));refine J6 ?_;refine cH ?_;refine aH ?_
 refine bB (λ c9=>?_) (λ c9=>?_)
 ·exact nv c9
 ·try (exfalso;omega)
  refine aW ?_;refine J13 ?_;refine uL ?_;refine kK ?_;refine Fo ?_;refine Me ?_;refine aT ?_;refine gD [0,1,2,3,4,5,6,7,8,9,10,11,12] ?_;refine Up ?_;refine J9 ?_;refine bT (i:=8) (hq:=(aN (k:=14) (vs:=c.cells) rf cN dV rfl rfl)) (h:=?_);refine aY (i:=9) (hq:=(cM (V:=λ y:Cd×Fr×AS=>.agg ⟨y.1.cells⟩) (Fc:=λ y=>y.2.1) (hs:=[(b,eN a)]) (os:=eS a) (A0:=A) (hs':=λ y=>[(b,eN y.2.2)]) (os':=λ y=>eS y.2.2) (hc:=λ w hw=>M8 ht ha hlv hr ok hm hA hB hw))) (h:=λ x29 h29=>?_);refine J4 ?_;refine kU (i:=12) (hq:=(hY λ _=>lB (off:=1) (vs:=x29.1.cells) (cs:=tkC b x29.1 (n+1) true) rf cN rf (dA _) dV (Nat.le_of_ble_eq_true rfl) rf jP)) (h:=λ _=>?_);refine dX ?_;refine zA ?_;refine Me ?_
  refine Dk Tryz.results37 (λ w hw=>?_)
  exact⟨x29,rfl,h29,hw.ret (List.Sublist.refl _) (aX.iF λ f hf=>by simpa using hf) (List.Sublist.refl _)⟩
theorem de{i m:Nat}(ht:bQ t i m)(h:Xr b t a.mm f cap B)(ok:a.Ok)(hm:a.mm.Small)(hA:∀f∈aL a.L,f∈A)(hB:∀x∈B,x∈A)(hs:SF w D [(b,eN a)] A [] (eS a) w) :
  Calls Tryz.prog 73 #[.iface 42 (.pointer (some ⟨b,0,none⟩)),.func (.func f) #[] ⟨cap⟩] w λ e w'=>∃x:Nat×Cd×Fr×AS,e=.returned (.pointer (some ⟨x.1,0,none⟩))/\(nM b (Ct.iZ t a.mm) a B x.2/\eE (Ct.iZ t a.mm).1=true)/\SF w D [(x.1,tO b x.2.1 0),(b,eN x.2.2.2)] [] x.2.2.1 (eS x.2.2.2) w':=by
 refine enter Tryz.func73 Tryz.ntmps73 rfl rfl hs ?_
 simp only[bW]
 refine cP ?_;refine J2 ?_;refine bG ?_;refine bL (λ x8=>?_);refine xN ?_;refine aC (cM (V:=λ y:Cd×Fr×AS=>.agg ⟨y.1.cells⟩) (Fc:=λ y=>y.2.1) (hs:=[(b,eN a)]) (os:=eS a) (A0:=A) (hs':=λ y=>[(b,eN y.2.2)]) (os':=λ y=>eS y.2.2) (hc:=λ w1 hw=>Yk h ok hm hA hB hw)) (λ x11 h11=>?_);refine Lg ?_;refine cG (hY λ _=>lB (off:=1) (vs:=x11.1.cells) (cs:=tkC b x11.1 0 false) rf cN rf (dA _) dV (Nat.le_of_ble_eq_true rfl) rf jP) (λ _=>?_);refine aH ?_;refine J2 ?_;refine J1 ?_
 refine aQ Tryz.results73 (λ w hw=>?_)
 exact⟨(x8,x11),rfl,nM.of ht h11,hw.ret (List.Sublist.refl _) (aX.iF λ f hf=>by simpa using hf) (List.Sublist.refl _)⟩
end
end

end Go.Proofs.YtbajmaoegmbfgaaGreat

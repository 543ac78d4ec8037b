/- Tasks on an arena: how they begin, how they go on. -/
import Derived.Test.YtbajmaoegmbfgaaGreatGTp2
set_option linter.unusedSimpArgs false
set_option linter.unusedVariables false
namespace Go.Ct
open Go Go.RowKit
abbrev AS.Vx(a:AS)(cs:List Int):AS:={a with cs:=cs,acc:=up a.acc}
theorem AS.Ok.Vx{a:AS}(ok:a.Ok){x o n:Int}(hn:n<=a.mm.nodes.length):(a.Vx (fG a.cs x o n)).Ok:=⟨ok.fit,ok.mo.kX hn⟩
end Go.Ct
namespace Go.Proofs.YtbajmaoegmbfgaaGreat
open Go Go.RowKit Go.Ct
section
variable{D:List Nat}{A B:Fr}{a:AS}{b bt n:Nat}{w:World}{c:Cd}{t:Tr}{f:FuncId}{cap:List Value}
theorem dq(h:Sn b t a.mm f cap B)(ok:a.Ok)(hm:a.mm.Small)(hA:∀f∈aR a.L,f∈A)(hB:∀x∈B,x∈A)(hs:SF w D [(b,fM a)] A [] (fX a) w) :
  Calls Tryz.prog 118 #[.func (.func f) #[] ⟨cap⟩] w (An b (λ c' s' B'=>kW b t a.mm c' s' B') a B D w):=by
 obtain⟨hp,h⟩:=h
 refine Rz Tryz.func118 Tryz.ntmps118 rfl rfl hs ?_
 simp only[cN]
 all_goals (refine dS ?_;refine cE ?_;refine vJ (λ x2=>?_);refine eX ?_;refine dS ?_;refine cE ?_;(refine fH (cI (by(repeat (first|exact cP _|(apply cC;focus ((conv=>{lhs;whnf});try exact rfl))));first|done|fail)) rfl ?_);refine Ez rfl ?_;refine eX ?_;refine dS ?_;refine dS ?_;refine cE ?_;refine gO ?_;refine fH (wU rf rf (z7 _ _ _)) rfl ?_;refine eX ?_)
 all_goals
 refine yM (λ c5=>?_) (λ c5=>?_)
 ·exact nv c5
 ·all_goals (revert c5;(first|refine aw ?_|refine cv4 ?_|refine cv6 ?_|refine cv8 ?_|refine cva ?_|refine cvc ?_|refine cve ?_|skip);intro c5)
  all_goals (refine oN ?_;refine dS ?_;refine cE ?_;refine gO ?_;refine A3 (cMf (V:=λ y:Cd×Fr×AS=>.agg ⟨y.1.cells⟩) (hs:=[(b,fM a)]) (os:=fX a) (hs':=λ y=>[(b,fM y.2.2)]) (os':=λ y=>fX y.2.2) (Fc:=λ y=>y.2.1) (A0:=A) (f:=f) (cap:=cap) (vs:=[]) (hp:=hp) (hc:=λ w1 hw=>h a.mm (Mm.Le.refl _) a _ A w1 rfl ok hm hA hB hw)) (λ x8 h8=>?_);refine xJ (dR λ _=>aK rf bQ rf (cO _) cD rf eE) (λ _=>?_);refine eX ?_)
  all_goals
   refine mB (Qe _) (by kernel_rfl) Tryz.results118 (.cell rf bQ cD .nil) (λ w hw=>?_)
   exact⟨x8,rfl,h8,hw.ret (by repeat (first|exact List.Sublist.refl _|apply List.Sublist.cons)) (aV.gG λ f hf=>by simpa using hf) (List.Sublist.refl _)⟩
theorem Fj{x:Int}{k:Int->Tr}(hr:kW b (.load x k) a.mm c a.mm B)(ok:a.Ok)(hm:a.mm.Small)(hA:∀f∈aR a.L,f∈A)(hB:∀x∈B,x∈A)(hs:SF w D [(b,fM a)] A [] (fX a) w) :
  Calls Tryz.prog 86 #[.iface 42 (.pointer (some ⟨b,0,none⟩)),.agg ⟨c.cells⟩] w (An b (λ c' s' B'=>kW b (k (dA a.cs x)) a.mm c' s' B') a B D w):=by
 obtain⟨_,hx,f,cap,rfl,hp,hk⟩:=hr
 have hl:a.cs.length<=274877906944:=by have:=hm.2;show a.mm.cs.length<=_;omega
 have hv:dA a.cs x<=a.mm.nodes.length:=ok.mo.cell x
 refine Rz Tryz.func86 Tryz.ntmps86 rfl rfl hs ?_
 simp only[cN]
 all_goals (refine dS ?_;refine cE ?_;refine ig (λ x3=>?_);refine vJ (λ x4=>?_);refine eX ?_;refine dS ?_;refine cE ?_;(refine fH (cI (by(repeat (first|exact cP _|(apply cC;focus ((conv=>{lhs;whnf});try exact rfl))));first|done|fail)) rfl ?_);refine Ez rfl ?_;refine eX ?_;refine dS ?_;refine cE ?_;refine cJ ?_;refine fH (aL (k:=4) (vs:=(nJ x f cap).a.cells) rf bQ cD rfl rfl) rfl ?_;refine vJ (λ x5=>?_);refine vG (λ _=>?_);refine eX ?_;refine dS ?_;refine dS ?_;refine cE ?_;refine cJ ?_;refine gH ?_;refine Z9 ?_;refine eX ?_)
 all_goals
 refine yM (λ c13=>?_) (λ c13=>?_)
 ·all_goals (revert c13;(first|refine n9 ?_|refine cv3 ?_|refine cv5 ?_|refine cv7 ?_|refine cv9 ?_|refine cvb ?_|refine cvd ?_|skip);intro c13)
  all_goals (refine dS ?_;refine cE ?_;refine nD (λ _=>?_);refine eX ?_;refine dS ?_;refine dS ?_;refine cE ?_;refine gO ?_;refine fH (D6 rf rf (qM _)) rfl ?_;refine eX ?_)
  all_goals
   refine yM (λ c15=>?_) (λ c15=>?_)
   ·all_goals (revert c15;(first|refine n9 ?_|refine cv3 ?_|refine cv5 ?_|refine cv7 ?_|refine cv9 ?_|refine cvb ?_|refine cvd ?_|skip);intro c15)
    all_goals (refine cE ?_;refine gO ?_;refine cJ ?_;refine gH ?_;refine A3 (xf (V:=λ _:Unit=>.int .i64 (dA a.cs x)) (os':=λ _=>fX (a.Vx a.cs)) (hs':=λ _=>[(b,fM (a.Vx a.cs))]) (Fc:=λ _=>[]) (A0:=A) (hm:=λ w=>eb _ _ w) (hc:=λ w hw=>S3 hw x hx hl)) (λ x19 h19=>?_);refine nD (λ _=>?_);refine eX ?_;refine dS ?_;refine dS ?_;refine cE ?_;refine cJ ?_;refine gH ?_;refine fH (wU rf rf (cx _ _ _)) rfl ?_;refine eX ?_)
    all_goals
    refine yM (λ c22=>?_) (λ c22=>?_)
    ·exact nv c22
    ·all_goals (revert c22;(first|refine aw ?_|refine cv4 ?_|refine cv6 ?_|refine cv8 ?_|refine cva ?_|refine cvc ?_|refine cve ?_|skip);intro c22)
     all_goals (refine oN ?_;refine dS ?_;refine cE ?_;refine cJ ?_;refine gH ?_;refine gO ?_;refine A3 (cMf (V:=λ y:Cd×Fr×AS=>.agg ⟨y.1.cells⟩) (hs:=[(b,fM (a.Vx a.cs))]) (os:=fX (a.Vx a.cs)) (hs':=λ y=>[(b,fM y.2.2)]) (os':=λ y=>fX y.2.2) (Fc:=λ y=>y.2.1) (A0:=A) (f:=f) (cap:=cap) (vs:=[.int .i64 (dA a.cs x)]) (hp:=hp) (hc:=λ w1 hw=>hk (dA a.cs x) a.mm (Mm.Le.refl _) hv (a.Vx a.cs) _ A w1 rfl ⟨ok.fit,ok.mo⟩ hm hA hB hw)) (λ x27 h27=>?_);refine xJ (dR λ _=>aK rf bQ rf (cO _) cD rf eE) (λ _=>?_);refine eX ?_)
     all_goals
      refine mB (gQ _) (by kernel_rfl) Tryz.results86 (.cell rf bQ cD .nil) (λ w hw=>?_)
      exact⟨x27,rfl,⟨h27.1,h27.2.1,⟨h27.2.2.le,h27.2.2.fam⟩⟩,hw.ret (by repeat (first|exact List.Sublist.refl _|apply List.Sublist.cons)) (aV.gG λ f hf=>by simpa using hf) (List.Sublist.refl _)⟩
   ·exact nv c15
 ·all_goals (revert c13;(first|refine aw ?_|refine cv4 ?_|refine cv6 ?_|refine cv8 ?_|refine cva ?_|refine cvc ?_|refine cve ?_|skip);intro c13)
  all_goals
   exact(c13 rfl).elim
  all_goals (refine oN ?_;refine dS ?_;refine cE ?_;refine gO ?_;refine fH (D6 rf rf (qM _)) rfl ?_;refine gO ?_)
  all_goals (first|refine jd_un ?_|(refine jR ?_;refine gO ?_)|(refine ld_case (g:=30) (by exact rfl) (λ g30=>?_) (λ g30=>?_)<;>(revert g30;(first|refine n9 ?_|refine aw ?_|refine cvb ?_|refine cvc ?_|refine cv9 ?_|refine cva ?_|refine cv7 ?_|refine cv8 ?_|refine cvd ?_|refine cve ?_|skip);intro g30)<;>(first|refine jd_un ?_|(refine jR ?_;refine gO ?_))))
  all_goals ((first|refine jd_un ?_|(refine jR ?_;refine cJ ?_));(first|refine jd_un ?_|(refine jR ?_;refine gH ?_));(first|refine jd_un ?_|(refine jR ?_;refine cJ ?_));(first|refine jd_un ?_|(refine jR ?_;refine gH ?_));(first|refine jd_un ?_|(refine jR ?_;refine cJ ?_));(first|refine jd_un ?_|(refine jR ?_;refine gH ?_));((first|refine jd_un ?_|(refine jR ?_;(refine jd_own (NO) (λ x38=>?_);try (refine xL (λ h38=>?_))))));refine T6 ?_;refine nD (λ _=>?_);refine eX ?_;refine dS ?_;refine dS ?_;refine cE ?_;refine cJ ?_;refine gH ?_;refine fH (wU rf rf (q7 _ _ _)) rfl ?_;refine eX ?_)
  all_goals
   refine yM (λ c42=>?_) (λ c42=>?_)
   ·try exact nv c42
    all_goals (revert c42;(first|refine n9 ?_|refine cv3 ?_|refine cv5 ?_|refine cv7 ?_|refine cv9 ?_|refine cvb ?_|refine cvd ?_|skip);intro c42)
    all_goals (refine dS ?_;refine cE ?_;refine jd_build ?_;refine vG (λ _=>?_);refine eX ?_)
    all_goals
    refine mB (gQ _) (by kernel_rfl) Tryz.results86 (.cell rf bQ cD .nil) (λ w hw=>?_)
    exact⟨x27,rfl,⟨h27.1,h27.2.1,⟨h27.2.2.le,h27.2.2.fam⟩⟩,hw.ret (by repeat (first|exact List.Sublist.refl _|apply List.Sublist.cons)) (aV.gG λ f hf=>by simpa using hf) (List.Sublist.refl _)⟩
   ·try exact nv c42
    all_goals (revert c42;(first|refine aw ?_|refine cv4 ?_|refine cv6 ?_|refine cv8 ?_|refine cva ?_|refine cvc ?_|refine cve ?_|skip);intro c42)
    all_goals (refine oN ?_;refine dS ?_;refine cE ?_;refine cJ ?_;refine gH ?_;refine gO ?_;(refine jd_own (NO) (λ x47=>?_);try (refine xL (λ h47=>?_)));refine xJ (dR λ _=>aK rf bQ rf (cO _) cD rf eE) (λ _=>?_);refine eX ?_)
    all_goals
    refine mB (gQ _) (by kernel_rfl) Tryz.results86 (.cell rf bQ cD .nil) (λ w hw=>?_)
    exact⟨x27,rfl,⟨h27.1,h27.2.1,⟨h27.2.2.le,h27.2.2.fam⟩⟩,hw.ret (by repeat (first|exact List.Sublist.refl _|apply List.Sublist.cons)) (aV.gG λ f hf=>by simpa using hf) (List.Sublist.refl _)⟩
theorem H6{x o n:Int}{k:Bool->Tr}(hr:kW b (.kX x o n k) a.mm c a.mm B)(ok:a.Ok)(hm:a.mm.Small)(hA:∀f∈aR a.L,f∈A)(hB:∀x∈B,x∈A)(hs:SF w D [(b,fM a)] A [] (fX a) w) :
  Calls Tryz.prog 86 #[.iface 42 (.pointer (some ⟨b,0,none⟩)),.agg ⟨c.cells⟩] w (An b (λ c' s' B'=>kW b (k (gu a.cs x o)) ⟨a.mm.nodes,fG a.cs x o n,a.gen⟩ c' s' B') a B D w):=by
 obtain⟨_,hx,hn,f,cap,rfl,hp,hk⟩:=hr
 have hl:a.cs.length<=274877906944:=by have:=hm.2;show a.mm.cs.length<=_;omega
 have hle:a.mm.Le ⟨a.mm.nodes,fG a.cs x o n,a.gen⟩:=⟨⟨[],by simp⟩,by show a.cs.length<=(fG a.cs x o n).length;rw[iF];exact Nat.le_refl _⟩
 have hm2:Mm.Small ⟨a.mm.nodes,fG a.cs x o n,a.gen⟩:=⟨hm.1,by show(fG a.cs x o n).length<=_;rw[iF];exact hm.2⟩
 refine Rz Tryz.func86 Tryz.ntmps86 rfl rfl hs ?_
 simp only[cN]
 all_goals (refine dS ?_;refine cE ?_;refine ig (λ x3=>?_);refine vJ (λ x4=>?_);refine eX ?_;refine dS ?_;refine cE ?_;(refine fH (cI (by(repeat (first|exact cP _|(apply cC;focus ((conv=>{lhs;whnf});try exact rfl))));first|done|fail)) rfl ?_);refine Ez rfl ?_;refine eX ?_;refine dS ?_;refine cE ?_;refine cJ ?_;refine fH (aL (k:=4) (vs:=(tY x o n f cap).a.cells) rf bQ cD rfl rfl) rfl ?_;refine vJ (λ x5=>?_);refine vG (λ _=>?_);refine eX ?_;refine dS ?_;refine dS ?_;refine cE ?_;refine cJ ?_;refine gH ?_;refine Z9 ?_;refine eX ?_)
 all_goals
 refine yM (λ c13=>?_) (λ c13=>?_)
 ·all_goals (revert c13;(first|refine n9 ?_|refine cv3 ?_|refine cv5 ?_|refine cv7 ?_|refine cv9 ?_|refine cvb ?_|refine cvd ?_|skip);intro c13)
  all_goals
   exact absurd (show(2:Int)=1 from c13) (by decide)
  all_goals (refine dS ?_;refine cE ?_;refine nD (λ _=>?_);refine eX ?_;refine dS ?_;refine dS ?_;refine cE ?_;refine gO ?_;refine fH (D6 rf rf (qM _)) rfl ?_;refine eX ?_)
  all_goals
   refine yM (λ c15=>?_) (λ c15=>?_)
   ·try exact nv c15
    all_goals (revert c15;(first|refine n9 ?_|refine cv3 ?_|refine cv5 ?_|refine cv7 ?_|refine cv9 ?_|refine cvb ?_|refine cvd ?_|skip);intro c15)
    all_goals (refine cE ?_;refine gO ?_;refine cJ ?_;refine gH ?_;(refine jd_own (NO) (λ x19=>?_);try (refine xL (λ h19=>?_)));refine nD (λ _=>?_);refine eX ?_;refine dS ?_;refine dS ?_;refine cE ?_;refine cJ ?_;refine gH ?_;refine fH (wU rf rf (cx _ _ _)) rfl ?_;refine eX ?_)
    all_goals
    refine yM (λ c22=>?_) (λ c22=>?_)
    ·try exact nv c22
     all_goals (revert c22;(first|refine n9 ?_|refine cv3 ?_|refine cv5 ?_|refine cv7 ?_|refine cv9 ?_|refine cvb ?_|refine cvd ?_|skip);intro c22)
     all_goals (refine dS ?_;refine cE ?_;refine jd_build ?_;refine vG (λ _=>?_);refine eX ?_)
     all_goals
      refine mB (gQ _) (by kernel_rfl) Tryz.results86 (.cell rf bQ cD .nil) (λ w hw=>?_)
      exact⟨x47,rfl,⟨wI h38▸h47.1,h47.2.1,⟨hle.trans h47.2.2.le,h47.2.2.fam⟩⟩,hw.ret (by repeat (first|exact List.Sublist.refl _|apply List.Sublist.cons)) (aV.gG λ f hf=>by simpa using hf) (List.Sublist.refl _)⟩
    ·try exact nv c22
     all_goals (revert c22;(first|refine aw ?_|refine cv4 ?_|refine cv6 ?_|refine cv8 ?_|refine cva ?_|refine cvc ?_|refine cve ?_|skip);intro c22)
     all_goals (refine oN ?_;refine dS ?_;refine cE ?_;refine cJ ?_;refine gH ?_;refine gO ?_;(refine jd_own (NO) (λ x27=>?_);try (refine xL (λ h27=>?_)));refine xJ (dR λ _=>aK rf bQ rf (cO _) cD rf eE) (λ _=>?_);refine eX ?_)
     all_goals
      refine mB (gQ _) (by kernel_rfl) Tryz.results86 (.cell rf bQ cD .nil) (λ w hw=>?_)
      exact⟨x47,rfl,⟨wI h38▸h47.1,h47.2.1,⟨hle.trans h47.2.2.le,h47.2.2.fam⟩⟩,hw.ret (by repeat (first|exact List.Sublist.refl _|apply List.Sublist.cons)) (aV.gG λ f hf=>by simpa using hf) (List.Sublist.refl _)⟩
   ·try exact nv c15
    all_goals (revert c15;(first|refine aw ?_|refine cv4 ?_|refine cv6 ?_|refine cv8 ?_|refine cva ?_|refine cvc ?_|refine cve ?_|skip);intro c15)
    all_goals (refine oN ?_;refine dS ?_;refine dS ?_;refine cE ?_;refine cJ ?_;refine gH ?_;refine fH (wU rf rf (cx _ _ _)) rfl ?_;refine eX ?_)
    all_goals
    refine yM (λ c22=>?_) (λ c22=>?_)
    ·try exact nv c22
     all_goals (revert c22;(first|refine n9 ?_|refine cv3 ?_|refine cv5 ?_|refine cv7 ?_|refine cv9 ?_|refine cvb ?_|refine cvd ?_|skip);intro c22)
     all_goals (refine dS ?_;refine cE ?_;refine jd_build ?_;refine vG (λ _=>?_);refine eX ?_)
     all_goals
      refine mB (gQ _) (by kernel_rfl) Tryz.results86 (.cell rf bQ cD .nil) (λ w hw=>?_)
      exact⟨x47,rfl,⟨wI h38▸h47.1,h47.2.1,⟨hle.trans h47.2.2.le,h47.2.2.fam⟩⟩,hw.ret (by repeat (first|exact List.Sublist.refl _|apply List.Sublist.cons)) (aV.gG λ f hf=>by simpa using hf) (List.Sublist.refl _)⟩
    ·try exact nv c22
     all_goals (revert c22;(first|refine aw ?_|refine cv4 ?_|refine cv6 ?_|refine cv8 ?_|refine cva ?_|refine cvc ?_|refine cve ?_|skip);intro c22)
     all_goals (refine oN ?_;refine dS ?_;refine cE ?_;refine cJ ?_;refine gH ?_;refine gO ?_;(refine jd_own (NO) (λ x27=>?_);try (refine xL (λ h27=>?_)));refine xJ (dR λ _=>aK rf bQ rf (cO _) cD rf eE) (λ _=>?_);refine eX ?_)
     all_goals
      refine mB (gQ _) (by kernel_rfl) Tryz.results86 (.cell rf bQ cD .nil) (λ w hw=>?_)
      exact⟨x47,rfl,⟨wI h38▸h47.1,h47.2.1,⟨hle.trans h47.2.2.le,h47.2.2.fam⟩⟩,hw.ret (by repeat (first|exact List.Sublist.refl _|apply List.Sublist.cons)) (aV.gG λ f hf=>by simpa using hf) (List.Sublist.refl _)⟩
 ·all_goals (revert c13;(first|refine aw ?_|refine cv4 ?_|refine cv6 ?_|refine cv8 ?_|refine cva ?_|refine cvc ?_|refine cve ?_|skip);intro c13)
  all_goals (refine oN ?_;refine dS ?_;refine cE ?_;refine gO ?_;refine fH (D6 rf rf (qM _)) rfl ?_;refine gO ?_)
  all_goals (first|refine jd_un ?_|(refine jR ?_;refine gO ?_)|(refine ld_case (g:=30) (by exact rfl) (λ g30=>?_) (λ g30=>?_)<;>(revert g30;(first|refine n9 ?_|refine aw ?_|refine cvb ?_|refine cvc ?_|refine cv9 ?_|refine cva ?_|refine cv7 ?_|refine cv8 ?_|refine cvd ?_|refine cve ?_|skip);intro g30)<;>(first|refine jd_un ?_|(refine jR ?_;refine gO ?_))))
  all_goals ((first|refine jd_un ?_|(refine jR ?_;refine cJ ?_));(first|refine jd_un ?_|(refine jR ?_;refine gH ?_));(first|refine jd_un ?_|(refine jR ?_;refine cJ ?_));(first|refine jd_un ?_|(refine jR ?_;refine gH ?_));(first|refine jd_un ?_|(refine jR ?_;refine cJ ?_));(first|refine jd_un ?_|(refine jR ?_;refine gH ?_));(first|refine jd_un ?_|(refine jR ?_;refine A3 (xf (V:=Value.bool) (os':=λ _=>fX (a.Vx (fG a.cs x o n))) (hs':=λ _=>[(b,fM (a.Vx (fG a.cs x o n)))]) (Fc:=λ _=>[]) (A0:=A) (hm:=λ w=>ji _ _ _ _ w) (hc:=λ w hw=>sd hw x o n hx hl)) (λ x38 h38=>?_)));refine T6 ?_;refine nD (λ _=>?_);refine eX ?_;refine dS ?_;refine dS ?_;refine cE ?_;refine cJ ?_;refine gH ?_;refine fH (wU rf rf (q7 _ _ _)) rfl ?_;refine eX ?_)
  all_goals
   refine yM (λ c42=>?_) (λ c42=>?_)
   ·exact nv c42
   ·all_goals (revert c42;(first|refine aw ?_|refine cv4 ?_|refine cv6 ?_|refine cv8 ?_|refine cva ?_|refine cvc ?_|refine cve ?_|skip);intro c42)
    all_goals (refine oN ?_;refine dS ?_;refine cE ?_;refine cJ ?_;refine gH ?_;refine gO ?_;refine A3 (cMf (V:=λ y:Cd×Fr×AS=>.agg ⟨y.1.cells⟩) (hs:=[(b,fM (a.Vx (fG a.cs x o n)))]) (os:=fX (a.Vx (fG a.cs x o n))) (hs':=λ y=>[(b,fM y.2.2)]) (os':=λ y=>fX y.2.2) (Fc:=λ y=>y.2.1) (A0:=A) (f:=f) (cap:=cap) (vs:=[.bool x38]) (hp:=hp) (hc:=λ w1 hw=>hk x38 _ hle (a.Vx (fG a.cs x o n)) _ A w1 rfl (ok.Vx hn) hm2 hA hB hw)) (λ x47 h47=>?_);refine xJ (dR λ _=>aK rf bQ rf (cO _) cD rf eE) (λ _=>?_);refine eX ?_)
    all_goals
    refine mB (gQ _) (by kernel_rfl) Tryz.results86 (.cell rf bQ cD .nil) (λ w hw=>?_)
    exact⟨x47,rfl,⟨wI h38▸h47.1,h47.2.1,⟨hle.trans h47.2.2.le,h47.2.2.fam⟩⟩,hw.ret (by repeat (first|exact List.Sublist.refl _|apply List.Sublist.cons)) (aV.gG λ f hf=>by simpa using hf) (List.Sublist.refl _)⟩
def pZ(b:Nat)(p:Tr×Mm)(a:AS)(B:Fr)(y:Cd×Fr×AS):Prop:=(kW b p.1 p.2 y.1 p.2 (y.2.1++B)/\y.2.2.mm=p.2)/\y.2.2.Ok/\a.iQ y.2.2 y.2.1
theorem pZ.of{t0:Tr}{s0:Mm}{y:Cd×Fr×AS}{i m:Nat}(ht:bY t0 i m)(h:kW b t0 s0 y.1 y.2.2.mm (y.2.1++B)/\y.2.2.Ok/\a.iQ y.2.2 y.2.1):pZ b (Ct.jP t0 s0) a B y/\eW (Ct.jP t0 s0).1=true:=by
 obtain⟨h1,h2,h3⟩:=kW.jP ht h.1
 exact⟨⟨⟨by rw[h1];exact h3,h1.symm⟩,h.2⟩,h2⟩
theorem N4{i m:Nat}(ht:bY t (i+1) m)(ha:eW t=true)(hlv:t.live=true)(hr:kW b t a.mm c a.mm B)(ok:a.Ok)(hm:a.mm.Small)(hA:∀f∈aR a.L,f∈A)(hB:∀x∈B,x∈A)(hs:SF w D [(b,fM a)] A [] (fX a) w) :
  Calls Tryz.prog 86 #[.iface 42 (.pointer (some ⟨b,0,none⟩)),.agg ⟨c.cells⟩] w λ e w'=>∃y:Cd×Fr×AS,e=.returned (.agg ⟨y.1.cells⟩)/\(pZ b (A4 (t,a.mm)) a B y/\eW (A4 (t,a.mm)).1=true)/\SF w D [(b,fM y.2.2)] [] y.2.1 (fX y.2.2) w':=by
 cases t with
 | done r=>cases hlv
 | load x k=>exact(Fj hr ok hm hA hB hs).mono λ e w' ⟨y,he,h,hw⟩=>⟨y,he,pZ.of (ht _) h,hw⟩
 | kX x o n k=>exact(H6 hr ok hm hA hB hs).mono λ e w' ⟨y,he,h,hw⟩=>⟨y,he,pZ.of (ht _) h,hw⟩
 | alloc n i k=>cases ha
 | cell i k=>cases ha
 | gen k=>cases ha
 | node r k=>cases ha
 | stuck=>cases ha
theorem Ii{i m:Nat}(ht:bY t (i+1) m)(ha:eW t=true)(hlv:t.live=true)(hr:kW b t a.mm c a.mm B)(ok:a.Ok)(hm:a.mm.Small)(hn:n<1000000000)(hA:∀f∈aR a.L,f∈A)(hB:∀x∈B,x∈A)(hs:SF w D [(bt,tO b c n),(b,fM a)] A [] (fX a) w) :
  Calls Tryz.prog 37 #[.pointer (some ⟨bt,0,none⟩)] w λ e w'=>∃y:Cd×Fr×AS,e=.returned (.tuple #[])/\(pZ b (A4 (t,a.mm)) a B y/\eW (A4 (t,a.mm)).1=true)/\SF w D [(bt,tO b y.1 (n+1)),(b,fM y.2.2)] [] y.2.1 (fX y.2.2) w':=by
 have hk:c.a.k≠0:=λ e=>by have:=(hr.kind ha).1.1 e;rw[hlv] at this;cases this
 refine enter Tryz.func37 Tryz.ntmps37 rfl rfl hs ?_
 simp only[cN]
 all_goals (refine lW ?_;refine aY (cV (hc:=λ w1 hw=>uT (hw.st.at bQ))) (λ x3=>?_);refine aA ?_)
 all_goals ((refine fS 4 (λ g4=>?_) (λ g4=>?_)<;>(try (exfalso;omega))<;>((refine aF ?_;refine aA ?_))))
 all_goals (((refine aF ?_;refine dZ ?_));refine J6 ?_;refine cX ?_;refine aH ?_)
 all_goals
 refine bG (λ c9=>?_) (λ c9=>?_)
 ·exact nv c9
 ·all_goals try (exfalso;omega)
  all_goals (refine bD ?_;refine J13 ?_;refine qB ?_;refine kY ?_;refine sC ?_;refine D5 ?_;refine aW ?_;refine fL [0,1,2,3,4,5,6,7,8,9,10,11,12] ?_;refine Qh ?_;refine J9 ?_;refine bS (i:=8) (hq:=(aL (k:=14) (vs:=c.cells) rf bQ cD rfl rfl)) (h:=?_);refine bA (i:=9) (hq:=(cM (V:=λ y:Cd×Fr×AS=>.agg ⟨y.1.cells⟩) (Fc:=λ y=>y.2.1) (hs:=[(b,fM a)]) (os:=fX a) (A0:=A) (hs':=λ y=>[(b,fM y.2.2)]) (os':=λ y=>fX y.2.2) (hc:=λ w hw=>N4 ht ha hlv hr ok hm hA hB hw))) (h:=λ x29 h29=>?_);refine J4 ?_;refine jQ (i:=12) (hq:=(dR λ _=>lO (off:=1) (vs:=x29.1.cells) (cs:=tkC b x29.1 (n+1) true) rf bQ rf (cO _) cD (Nat.le_of_ble_eq_true rfl) rf eE)) (h:=λ _=>?_);refine eC ?_;refine zK ?_;refine D5 ?_)
  all_goals
   refine Di Tryz.results37 (λ w hw=>?_)
   exact⟨x29,rfl,h29,hw.ret (List.Sublist.refl _) (aV.gG λ f hf=>by simpa using hf) (List.Sublist.refl _)⟩
theorem cu{i m:Nat}(ht:bY t i m)(h:Sn b t a.mm f cap B)(ok:a.Ok)(hm:a.mm.Small)(hA:∀f∈aR a.L,f∈A)(hB:∀x∈B,x∈A)(hs:SF w D [(b,fM a)] A [] (fX a) w) :
  Calls Tryz.prog 73 #[.iface 42 (.pointer (some ⟨b,0,none⟩)),.func (.func f) #[] ⟨cap⟩] w λ e w'=>∃x:Nat×Cd×Fr×AS,e=.returned (.pointer (some ⟨x.1,0,none⟩))/\(pZ b (Ct.jP t a.mm) a B x.2/\eW (Ct.jP t a.mm).1=true)/\SF w D [(x.1,tO b x.2.1 0),(b,fM x.2.2.2)] [] x.2.2.1 (fX x.2.2.2) w':=by
 refine enter Tryz.func73 Tryz.ntmps73 rfl rfl hs ?_
 simp only[cN]
 all_goals (refine dC ?_;refine J2 ?_;refine bO ?_;refine bW (λ x8=>?_);refine xT ?_;refine aC (cM (V:=λ y:Cd×Fr×AS=>.agg ⟨y.1.cells⟩) (Fc:=λ y=>y.2.1) (hs:=[(b,fM a)]) (os:=fX a) (A0:=A) (hs':=λ y=>[(b,fM y.2.2)]) (os':=λ y=>fX y.2.2) (hc:=λ w1 hw=>dq h ok hm hA hB hw)) (λ x11 h11=>?_);refine D2 ?_;refine bZ (dR λ _=>lO (off:=1) (vs:=x11.1.cells) (cs:=tkC b x11.1 0 false) rf bQ rf (cO _) cD (Nat.le_of_ble_eq_true rfl) rf eE) (λ _=>?_);refine aH ?_;refine J2 ?_;refine J1 ?_)
 all_goals
 refine aU Tryz.results73 (λ w hw=>?_)
 exact⟨(x8,x11),rfl,pZ.of ht h11,hw.ret (List.Sublist.refl _) (aV.gG λ f hf=>by simpa using hf) (List.Sublist.refl _)⟩
end
end Go.Proofs.YtbajmaoegmbfgaaGreat

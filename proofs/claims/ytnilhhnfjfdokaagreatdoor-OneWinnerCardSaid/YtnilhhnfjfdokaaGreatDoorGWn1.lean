/- ref26: when, Result. -/
import Derived.Test.YtnilhhnfjfdokaaGreatDoorGSc2
import Derived.Test.YtnilhhnfjfdokaaGreatDoorGa
import Derived.Test.YtnilhhnfjfdokaaGreatDoorFz
import Derived.Test.YtnilhhnfjfdokaaGreatDoorGNode4

set_option linter.unusedSimpArgs false
set_option linter.unusedVariables false
namespace Go.Proofs.YtnilhhnfjfdokaaGreatDoor
section
open Go Go.RowKit Go.Ct
def El(e:lR)(k i:Nat):Prop:=e.thr=k/\e.idx=i/\e.ret=true
theorem X0{l:List lR}{k i:Nat}{r:Rs}(h:iT l k i=some r):∃(j:Nat) (e:lR),l[j]?=some e/\El e k i/\e.r=r/\∀(j':Nat) (e':lR),j'<j->l[j']?=some e'->¬El e' k i:=by
 unfold iT at h
 obtain⟨e,he,hr⟩:=Option.map_eq_some_iff.1 h
 obtain⟨hp,l1,l2,hl,hn⟩:=List.find?_eq_some_iff_append.1 he
 simp only[Bool.and_eq_true,beq_iff_eq] at hp
 refine⟨l1.length,e,by rw[hl];simp,⟨hp.1.1,hp.1.2,hp.2⟩,hr,λ j' e' hj he' hh=>?_⟩
 rw[hl,List.getElem?_append_left hj] at he'
 have:=hn e' (List.mem_of_getElem? he')
 obtain⟨h1,h2,h3⟩:=hh
 simp[h1,h2,h3] at this
section
variable{w:World}{l:List lR}{p:Option Addr}{c k i j:Nat}{e:lR}
theorem Tg(hl:l.length<=1000000)(hcl:Go.Ct.Cl w p (Bs l))(hj:l[j]?=some e)(hh:El e k i)(hlt:∀(j':Nat) (e':lR),j'<j->l[j']?=some e'->¬El e' k i) :
    Calls Tryz.prog 17 #[.slice p l.length c,.agg ⟨[.int .i64 (k:Int),.int .i64 (i:Int)]⟩,.bool true] w λ en w'=>en=.returned (.int .i64 (j:Int))/\St w [] [] w':=by
  have hjl:j<l.length:=(List.getElem?_eq_some_iff.1 hj).1
  refine enter Tryz.func17 Tryz.ntmps17 rfl rfl (SF.begin (A:=[(p,Bs l)]) (λ f hf=>by rcases List.mem_singleton.1 hf with rfl;exact hcl)) ?_
  simp only[cP]
  refine J0 ?_;refine bF (λ x4=>?_);refine kZ ?_;refine W0 ?_
  refine jY [6,7,8,9,10,11,12,13,14,15,16,17,18,19,20,21,22,23,24,25,26,27,28,29,30,31,32,33,34,35,36,37,38,39,40,41] (λ z:Nat=>[(7,.int .i64 ((z:Nat):Int))]) (λ z=>z<=j) (λ z=>l.length-z) (0) (Nat.zero_le _) ?_ (λ z f hx=>?_)
  · repeat (first|exact bQ _|refine bG (by exact rfl) ?_)
  dsimp only[lP,List.map,List.cons_append,List.nil_append]
  refine pF ?_;refine cO ?_;refine fF ?_
  refine aU (λ c11=>?_) (λ c11=>?_)
  · have hzl:z<l.length:=by omega
    have hzt:l[z]?=some l[z]:=List.getElem?_eq_getElem hzl
    have hzj:z=j->El l[z] k i:=λ e0=>by subst e0;rw[hj] at hzt;injection hzt with hzt;rw[<- hzt];exact hh
    have hzn:z<j->¬El l[z] k i:=λ e0=>hlt z _ e0 hzt
    generalize l[z]=u at hzt hzj hzn
    refine hU ?_;refine aJ ?_;refine iM [0,1,2,3,4,5,6,7,8,9,10,11,12,13,14,15,16,17,18,19,20,21,22,23,24,25,26] ?_;refine Hj ?_;refine aS (i:=2) (hq:=(aY (f:=lR.cells) (k:=z) gA (by decide) rf rf dJ cY (.old .head) hzl hzl)) (h:=?_);refine bM ?_;refine aS (i:=4) (hq:=(Bj (f:=lR.cells) (k:=z) (v:=.int .i64 ((u.thr:Nat):Int)) gA rf eC (.old .head) hzt rfl)) (h:=?_);refine aS (i:=5) (hq:=(cR (n:=2) (k:=0) (e:=3) rf rf (by kernel_rfl) (by kernel_rfl) (by decide))) (h:=?_);refine cB ?_;refine rE ?_;refine aR ?_
    (refine qq 22 (λ g22=>?_) (λ g22=>?_)<;>(first|refine mT ?_|(refine aR ?_)))
    all_goals ((first|refine mT ?_|(refine aR ?_));(first|refine mT ?_|(refine aS (i:=11) (hq:=(aY (f:=lR.cells) (k:=z) gA (by decide) rf rf dJ cY (.old .head) hzl hzl)) (h:=?_)));(first|refine mT ?_|(refine bM ?_));(first|refine mT ?_|(refine aS (i:=13) (hq:=(dF (f:=lR.cells) (k:=z) (j:=1) (v:=.int .i64 ((u.idx:Nat):Int)) gA rf eC (.old .head) hzt rfl)) (h:=?_)));(first|refine mT ?_|(refine aS (i:=14) (hq:=(cR (n:=2) (k:=1) (e:=3) rf rf (by kernel_rfl) (by kernel_rfl) (by decide))) (h:=?_)));(first|refine mT ?_|(refine cB ?_));refine rr ?_;refine aR ?_)
    all_goals (first|refine mT ?_|(refine qq 32 (λ g32=>?_) (λ g32=>?_)<;>(first|refine mT ?_|(refine aR ?_))))
    all_goals ((first|refine mT ?_|(refine aR ?_));(first|refine mT ?_|(refine aS (i:=21) (hq:=(aY (f:=lR.cells) (k:=z) gA (by decide) rf rf dJ cY (.old .head) hzl hzl)) (h:=?_)));(first|refine mT ?_|(refine bM ?_));(first|refine mT ?_|(refine aS (i:=23) (hq:=(dF (f:=lR.cells) (k:=z) (j:=2) (v:=.bool u.ret) gA rf eC (.old .head) hzt rfl)) (h:=?_)));(first|refine mT ?_|(refine aR ?_));(first|refine mT ?_|(refine et ?_));refine Kd4 ?_)
    all_goals
     refine aU (λ c40=>?_) (λ c40=>?_)
     · try exact nv c40
       all_goals (refine J2 ?_;refine J1 ?_)
       all_goals
        refine bE Tryz.results17 (λ w hw=>?_)
        have hzj2:z=j:=by
         rcases Nat.lt_or_ge z j with h|h
         · exfalso
           refine hzn h ⟨by omega,by omega,?_⟩
           simpa using c40
         · omega
        exact⟨by rw[hzj2];rfl,hw.done⟩
     · all_goals (refine oC ?_;refine ik ?_)
       all_goals
        refine gT (z+1) ?_ ?_ ?_
        · omega
        · repeat' (first|exact bQ _|refine bG ?_ ?_)
          all_goals (exact rfl)
        · rcases Nat.lt_or_ge z j with h|h
          · exact h
          · obtain⟨h1,h2,h3⟩:=hzj (by omega)
            exfalso
            first|omega|(rw[h3] at c40;simp at c40)
  · exfalso;omega
end
end

/- ref26.Result. -/
section
open Go Go.RowKit Go.Ct
section
variable{w:World}{l:List lR}{p:Option Addr}{c k i:Nat}{r:Rs}
theorem tJ(hl:l.length<=1000000)(hcl:Go.Ct.Cl w p (Bs l))(hr:iT l k i=some r) :
  Calls Tryz.prog 6 #[.slice p l.length c,.agg ⟨[.int .i64 (k:Int),.int .i64 (i:Int)]⟩] w λ en w'=>en=.returned (.tuple #[.agg ⟨r.cells⟩,.bool true])/\St w [] [] w':=by
 obtain⟨j,e,hj,hh,her,hlt⟩:=X0 hr
 have hjl:j<l.length:=(List.getElem?_eq_some_iff.1 hj).1
 refine enter Tryz.func6 Tryz.ntmps6 rfl rfl (SF.begin (A:=[(p,Bs l)]) (λ f hf=>by rcases List.mem_singleton.1 hf with rfl;exact hcl)) ?_
 simp only[cP]
 refine J0 ?_;refine bF (λ x3=>?_);refine aI (λ x4=>?_);refine Kb7 ?_;refine aA (fR (aN rf bD (by kernel_rfl))) rfl ?_;refine aF (cV (hc:=λ w1 hw=>Tg hl (hw.cl (.old .head)) hj hh hlt)) (λ x9=>?_);refine Kc7 ?_;refine fF ?_
 refine aU (λ c11=>?_) (λ c11=>?_)
 ·try (contradiction)
 ·try (first|contradiction|(exfalso;omega))
  refine C5 ?_;refine aA (aY (f:=lR.cells) (k:=j) gA (by decide) rf rf dJ cY (.old .head) hjl hjl) rfl ?_;refine aK ?_;refine aA (S3 (f:=lR.cells) (k:=j) (j:=3) (n:=8) (vs:=e.r.cells) gA rf cY (.old .head) hj (by decide) rfl) rfl ?_;refine Wv ?_
  refine bV Tryz.results6 (λ w hw=>?_)
  exact⟨by rw[<- her];rfl,hw.done⟩
end
end

/- Loops that are walked round by round. -/
end Go.Proofs.YtnilhhnfjfdokaaGreatDoor
namespace Go.Ct
section
open Go Go.RowKit
def oq(P:Program)(c:Code)(R:Exit->Act->World->Prop)(a:Act)(w:World):Prop :=
 ∀(b:Frame) (k:List Item) (cs:List Frame),∃e a' w',R e a' w'/\Arrives P (lone (b.at a (.inLoop c::k)) cs w) b k cs e a' w'
section
variable{P:Program}{n:Nat}{Q:Exit->Act->World->Prop}{ks ks':List CK}{S:List (Nat×Value)}{G:World->Prop}{c:Code}
theorem B5(h:JK P n Q (.code c::.inv (oq P c (runK P Q ks))::ks) S G)(hS:xJ n S){w:World}(hw:G w)(b:Frame)(k:List Item)(cs:List Frame) :
  ∃e a' w',runK P Q ks e a' w'/\Arrives P (lone (b.at ⟨dX n S,[]⟩ (.code c::.inLoop c::k)) cs w) b k cs e a' w':=by
 have h1:=h.run hS w hw
 simp only[runK] at h1
 obtain⟨e,a₁,w₁,hq,harr⟩:=h1 b (.inLoop c::k) cs
 rw[Cr] at hq
 cases e with
 | normal =>
  obtain⟨e₂,a₂,w₂,hq₂,harr₂⟩:=hq b k cs
  exact⟨e₂,a₂,w₂,hq₂,.of_steps harr harr₂⟩
 | exit id=>exact⟨_,a₁,w₁,hq,.pass (x:=.inLoop c) rfl (λ _ _=>.inl (by simp)) harr⟩
 | goto l=>exact⟨_,a₁,w₁,hq,.pass (x:=.inLoop c) rfl (λ _ _=>.inl (by simp)) harr⟩
 | ret=>exact⟨_,a₁,w₁,hq,.pass (x:=.inLoop c) rfl (λ _ _=>.inl (by simp)) harr⟩
 | panic ch=>exact⟨_,a₁,w₁,hq,.pass (x:=.inLoop c) rfl (λ _ _=>.inl (by simp)) harr⟩
 | outgrown=>exact⟨_,a₁,w₁,hq,.pass (x:=.inLoop c) rfl (λ _ _=>.inl (by simp)) harr⟩
theorem cJ(h:JK P n Q (.code c::.inv (oq P c (runK P Q ks))::ks) S G):JK P n Q (.code (.loop c)::ks) S G:=⟨λ hS w hw=>by
 simp only[runK]
 intro b k cs
 obtain⟨e,a',w',hq,harr⟩:=B5 h hS hw b k cs
 exact⟨e,a',w',hq,.of_steps (.one step_loop) harr⟩⟩
theorem bH(h:JK P n Q (.code c::.inv (oq P c (runK P Q ks))::ks) S G):JK P n Q (.inv (oq P c (runK P Q ks))::ks') S G:=⟨λ hS w hw=>by
 simp only[runK]
 intro b k cs
 obtain⟨e,a',w',hq,harr⟩:=B5 h hS hw b k cs
 exact⟨e,a',w',hq,.of_steps (.one step_inLoop) harr⟩⟩
end
end

/- scheduled: a machine is run by a tape of picks, then drained. -/
end Go.Ct
namespace Go.Proofs.YtnilhhnfjfdokaaGreatDoor
section
open Go Go.RowKit Go.Ct
theorem Z8{l:List Int}{a:Option Addr}{b c k:Nat}{w:World}(ht:k8 w b a l c k) :
  Calls Tryz.prog 15 #[.pointer (some ⟨b,0,none⟩)] w λ e w' =>
  ∃v:Bool,e=.returned (.bool v)/\(v=true↔k<l.length)/\SF w [b] ((b,mu a l c k)::[]) [] [] [] w':=by
 refine enter Tryz.func15 Tryz.ntmps15 rfl rfl ht.start ?_
 simp only[cP]
 refine Lf ?_;refine iM [0,1,2,3,4,5,6,7,8,9,10] ?_;refine iu ?_;refine Ek ?_;refine pK ?_;refine J7 ?_
 refine bE Tryz.results15 (λ w hw=>?_)
 exact⟨_,rfl,by simp,hw.fV⟩
structure o5(m n:Nat)(G:AM->Prop):Prop where
 pick:∀Z k,G Z->k<n->Ju m k Z/\Z.s.jL/\G (dO m k Z)
 drain:∀Z,G Z->∃K,K<=1000/\(∀i,i<K->(wP m n 0 i Z).fT=false)/\(wP m n 0 K Z).fT=true
 len:∀Z,G Z->Z.th.length=n
theorem o5.run{m n:Nat}{G:AM->Prop}(h:o5 m n G)(hn:0<n){Z:AM}(hZ:G Z):∀i,G (wP m n 0 i Z)
 | 0=>hZ
 | i+1=>(h.pick _ _ (h.run hn hZ i) (Nat.mod_lt _ hn)).2.2
theorem Mq{O:List Ow}{A F:Fr}{b C:Nat}{Z:AM}{V':MV}(h:MI b C Z V')(hB:∀f∈V'.B,f∈F):cA A F O (dV V'.a.L++V'.B):=cA.of λ f hf=>by
 rcases List.mem_append.1 hf with hf|hf
 ·rcases h.fam f hf with h1|h1
  ·exact .inl h1
  ·exact .inr (.inr (.inl (hB f h1)))
 ·exact .inr (.inr (.inl (hB f hf)))
abbrev NW.L(m:Nat)(x:NW)(V:MV):List (Nat×Obj):=nc m x.b x.bm x.bT x.bo x.bt x.bi x.pk V
theorem Wf{w0 w:World}{M:List Nat}{A F:Fr}{O:List Ow}{L:List (Nat×Obj)}{q:Nat×Obj}(h:SF w0 M (L++[q]) A (F++[]) (O++[]) w):SF w0 M (q::L) A F O w:=by
 rw[List.append_nil,List.append_nil] at h
 exact h.perm (List.perm_append_comm (l₁:=[q]) (l₂:=L)) (List.Perm.refl _)
structure mz(G:AM->Prop)(x:NW×MV)(Z:AM):Prop where
 mi:MI x.1.b 2000 Z x.2
 g:G Z
 d:Z.fT=true
theorem MI.ry{b C C':Nat}{Z:AM}{V:MV}(h:MI b C Z V)(hC:C<=C'):MI b C' Z V:=⟨h.ok,h.up,h.th,h.hist,h.tb,λ t ht p hp=>by obtain⟨h1,h2,h3,h4⟩:=h.pr t ht p hp;exact⟨h1,h2,h3,by omega⟩,h.fam,h.fo,h.oo,h.tl,by have:=h.hl;omega⟩
set_option maxRecDepth 100000 in
set_option maxHeartbeats 1000000 in
theorem H4{w:World}{m n:Nat}{ls:List kT}{tl:List Int}{p a:Option Addr}{c ca:Nat}{G:AM->Prop}(hG:o5 m n G)(h0:∀π,G (Jl (ls.map kT.l) π))(hn:ls.length=n)(hn0:0<n)(hm0:m<18446744073709551616)(hs8:ls.length<=8)(hs16:∀s∈ls,s.l.length<=16/\∀o∈s.l,F9 o)(hcl:Go.Ct.Cl w p (gQ ls))(hco:∀s∈ls,Go.Ct.Cl w s.p (gG s.l))(hca:Go.Ct.Cl w a (aW tl))(htl:tl.length<=17592186043904) :
    Calls Tryz.prog 5 #[.agg ⟨[.int .u64 (m:Int),.slice p ls.length c,.slice none 0 0]⟩,.int .i64 0,.slice a tl.length ca] w λ e w'=>∃x:NW×MV,e=.returned (.tuple #[pt x.1.bm,.bool true])/\(∃Z,mz G x Z)/\SF w [] (NW.L m x.1 x.2) [] x.2.B (jB x.2) w':=by
  refine enter Tryz.func5 Tryz.ntmps5 rfl rfl (SF.begin (A:=(a,aW tl)::(p,gQ ls)::ls.map λ s=>(s.p,gG s.l)) (λ f hf=>by
rcases List.mem_cons.1 hf with rfl|hf
· exact hca
rcases List.mem_cons.1 hf with rfl|hf
· exact hcl
· obtain⟨s,hs,rfl⟩:=List.mem_map.1 hf
  exact hco s hs)) ?_
  simp only[cP]
  all_goals (refine J0 ?_;refine bF (λ x3=>?_);refine J8 ?_;refine pV ?_;(refine aF (aQ.conv (Ws (V:=λ x:NW=>.tuple #[pt x.bm,.int .i64 0]) (φ:=gz m ls []) (Hc:=λ x=>NW.L m x x.V) (Fc:=λ x=>x.V.B) (Oc:=λ x=>jB x.V) (hc:=λ w1 hw=>Mn (pk:=[]) hs8 hs16 (Nat.zero_le _) (λ k hk=>nomatch hk) (hw.cl (.old (.tail .head))) (Cl.nil _ _) (λ s hs=>hw.cl (.old (.tail (.tail (mV.gE (List.mem_map.2 ⟨s,hs,rfl⟩)))))))) (λ x w h=>And.intro h.1 (show SF _ _ ((x3,.cells ⟨[.int .u64 (m:Int),.slice p ls.length c,.slice none 0 0]⟩ 27 (0,0))::NW.L m x x.V) ((a,aW tl)::(p,gQ ls)::ls.map λ s=>(s.p,gG s.l)) x.V.B (jB x.V) _ from Wf h.2))) (λ x15=>?_);try (refine eH (λ h15=>?_)));refine C9 ?_;refine J8 ?_;refine gS ?_;refine iP ?_;refine aB ?_)
  all_goals ((refine Ka2 ?_))
  all_goals (refine zM ?_;refine aD ?_)
  all_goals
   refine aU (λ c23=>?_) (λ c23=>?_)
   · all_goals try (first|contradiction|(exfalso;omega))
   · all_goals try (first|contradiction|(exfalso;omega))
     all_goals (refine lS ?_;refine W0 ?_;refine cJ ?_;refine gS ?_;refine Kb ?_)
     all_goals ((refine Ka2 ?_))
     all_goals (((refine aE ?_;refine aH (cM (V:=λ x:Option Addr×Nat=>.slice x.1 x15.V.hi.length x.2) (hs:=[(x15.bm,yE x15.b x15.bT x15.pk x15.V)]) (os:=jB x15.V) (A0:=[]) (hs':=λ _=>[(x15.bm,yE x15.b x15.bT x15.pk x15.V)]) (os':=λ _=>jB x15.V) (Fc:=λ x=>[(x.1,Bs x15.V.hi)]) (hc:=λ w1 hw=>qX (by have:=h15.mi.hl;omega) hw)) (λ x28 h28=>?_)));((refine aE ?_;refine cO ?_));((refine Ka2 ?_));((refine aE ?_;refine bs ?_));refine wU ?_;refine aD ?_)
     all_goals
      refine aU (λ c33=>?_) (λ c33=>?_)
      · all_goals try (first|contradiction|(exfalso;omega))
      · all_goals try (first|contradiction|(exfalso;omega))
        all_goals (refine aX rfl ?_;refine J2 ?_;refine aH (Ws (V:=λ b:Nat=>pt b) (Hc:=λ b=>[(b,mu a tl ca 0)]) (Fc:=λ _=>[]) (Oc:=λ _=>[]) (hc:=λ w1 hw=>m4)) (λ x39 h39=>?_);refine kZ ?_;refine W0 ?_)
        all_goals
         refine uD [12,40,41,42,43,44,45,46,47,48,49,50,51,52,53,54] (λ y:Nat×Nat×MV×AM=>[(12,.int .i64 ((y.1:Nat):Int))]) (λ y=>y.1<=300/\MI x15.b y.1 y.2.2.2 y.2.2.1/\G y.2.2.2) (λ y=>[(x39,mu a tl ca y.2.1),(x3,.cells ⟨[.int .u64 (m:Int),.slice p ls.length c,.slice none 0 0]⟩ 27 (0,0))]++NW.L m x15 y.2.2.1) (λ y=>y.2.2.1.B) (λ y=>jB y.2.2.1) (λ y=>300-y.1) ((0,0,x15.V,Jl (ls.map kT.l) x15.V.a.pv)) (⟨Nat.zero_le _,h15.mi,h0 _⟩) (λ y f hx=>?_) (hw0:=λ w hw=>hw.Pd (λ f hf=>.inr (by simp[hf])))
         dsimp only[lP,List.map,List.cons_append,List.nil_append]
         obtain⟨hy1,hy2,hy3⟩:=hx
         have hlen:y.2.2.1.th.length=n:=by rw[hy2.len,hG.len _ hy3]
         all_goals (refine gS ?_;refine Kb ?_)
         all_goals ((refine lN 42 (λ g42=>?_) (λ g42=>?_)<;>(try (first|contradiction|(exfalso;omega)))<;>refine Ka5 ?_))
         all_goals ((first|refine aT ?_|(refine aE ?_;refine aH (rk (hc:=λ w1 hw=>Z8 (hw.tape bD fin htl))) (λ x44 h44=>?_)));refine Kb0 ?_)
         all_goals
          refine aU (λ c45=>?_) (λ c45=>?_)
          · try exact nv c45
            all_goals try (first|contradiction|(exfalso;omega))
            all_goals (refine hU ?_;refine Cw ?_;refine oi ?_;refine aH (rk (hc:=λ w1 hw=>jx (ls.length:Int) (hw.tape bD fin htl) (by omega) (by omega))) (λ x53 h53=>?_);refine aH (cT 2 0 (hs:=NW.L m x15 y.2.2.1) (os:=jB y.2.2.1) (A0:=dV y.2.2.1.a.L++y.2.2.1.B) (V:=λ x:MV×Fr×Bool=>.bool x.2.2) (F1:=λ x:MV×Fr×Bool=>x.1.B) (hc:=λ w1 hw=>Ap (k:=x53) hy2 (by omega) hm0 (by rw[hlen];omega) (hG.pick _ _ hy3 (by omega)).1 (hG.pick _ _ hy3 (by omega)).2.1 (λ f hf=>List.mem_append_left _ hf) (λ f hf=>List.mem_append_right _ hf) hw) (hA:=Mq hy2 (λ f hf=>hf)) (hF1:=λ x hx f hf=>.inr (by rw[hx.2] at hf;exact hf))) (λ x54 h54=>?_);refine aD ?_;refine dZ ?_;refine ik ?_)
            all_goals
             refine zI ((y.1+1,og tl y.2.1,x54.1,dO m x53 y.2.2.2)) ?_ (hw1:=λ w hw=>hw.z1)
             · exact⟨by omega,h54.1,(hG.pick _ _ hy3 (by omega)).2.2⟩
          · all_goals try (first|contradiction|(exfalso;omega))
            all_goals (refine aX rfl ?_;refine aJ ?_)
            all_goals
             obtain⟨K,hK1,hK2,hK3⟩:=hG.drain _ hy3
             have hKi:∀i,i<K->(wP m n 0 i y.2.2.2).fT=false/\Ju m ((0+i)%n) (wP m n 0 i y.2.2.2)/\(wP m n 0 i y.2.2.2).s.jL:=λ i hi=>⟨hK2 i hi,(hG.pick _ ((0+i)%n) (hG.run hn0 hy3 i) (Nat.mod_lt _ hn0)).1,(hG.pick _ ((0+i)%n) (hG.run hn0 hy3 i) (Nat.mod_lt _ hn0)).2.1⟩
            all_goals (refine Cw ?_;refine aH (cT 2 0 (hs:=NW.L m x15 y.2.2.1) (os:=jB y.2.2.1) (A0:=dV y.2.2.1.a.L++y.2.2.1.B) (V:=λ x:MV×Fr=>.bool true) (F1:=λ x:MV×Fr=>x.1.B) (hc:=λ w1 hw=>D2 (most:=1099511627776) hy2 (hG.len _ hy3) hn0 hKi hK3 (by omega) (by omega) (by omega) hm0 (λ f hf=>List.mem_append_right _ hf) hw) (hA:=Mq hy2 (λ f hf=>hf)) (hF1:=λ x hx f hf=>.inr (by rw[hx.2] at hf;exact hf))) (λ x57 h57=>?_);refine J8 ?_)
            all_goals
             refine bV Tryz.results5 (λ w hw=>?_)
             exact⟨(x15,x57.1),rfl,⟨wP m n 0 K y.2.2.2,h57.1.ry (by omega),hG.run hn0 hy3 K,hK3⟩,hw.ret (by repeat (first|exact List.Sublist.refl _|apply List.Sublist.cons)) (by exact bL.all) (List.Sublist.refl _)⟩
end

end Go.Proofs.YtnilhhnfjfdokaaGreatDoor

/- sched: an operation ends. -/
import Derived.Test.YtnilhhnfjfdokaaGreatDoorGMc3
import Derived.Test.YtnilhhnfjfdokaaGreatDoorGCmh
import Derived.Test.YtnilhhnfjfdokaaGreatDoorGPx6

set_option linter.unusedSimpArgs false
set_option linter.unusedVariables false
namespace Go.Proofs.YtnilhhnfjfdokaaGreatDoor
section
open Go Go.RowKit Go.Ct
section
variable{D:List Nat}{A B:Fr}{b bT bm m bo bt bi k:Nat}{w:World}{pk:Option Addr×Nat×Nat}{V:MV}{t:gN}{p:aj}{r:Rs}{q:Nat}{e:jO}
abbrev MV.fin(V:MV)(k:Nat)(t:gN)(q:Nat)(e:jO)(r:Rs)(x:(Cd×Fr×AS)×Option Addr×Nat×Int):MV :=
 ⟨x.1.2.2,V.es.set q ⟨e.n,e.kind,true,e.born⟩,V.ec,V.th.set k ⟨t.op,t.oc,t.ops,t.idx+1,none⟩,V.tp,V.tc,V.hi++[⟨k,t.idx,true,wV r⟩],x.2.1,x.2.2.1,x.2.2.2,x.1.2.1++V.B⟩
set_option maxRecDepth 100000 in
theorem Ss(hk8:k<8)(ht:V.th[k]?=some t)(hpr:t.pr=some p)(hi:t.idx<t.ops.length)(hi16:t.idx<16)(hf:jF V.es (jK k t.idx) 0=some (q,e))(hfin:e.fin=false)(hkd:e.kind=1∨e.kind=2∨e.kind=3∨e.kind=4∨e.kind=7)(hr:fN b p.T (V.ap p).mm p.c (V.ap p).mm V.B)(ha:fK p.T=true)(hlv:p.T.live=true)(hns:(kQ (p.T,(V.ap p).mm)).1≠.stuck)(hd:(kQ (p.T,(V.ap p).mm)).1=.done r)(hn:p.n<1000000000)(ok:V.a.Ok)(hm:V.a.mm.jL)(hA:∀f∈dV V.a.L,f∈A)(hB:∀x∈V.B,x∈A)(hhl:V.hi.length<=1000000)(hs:SF w D ([(p.bt,tO b p.c p.n),(p.u,p.po)]++pS m b bm bT bo bt bi pk V) A [] (jB V) w) :
    Calls Tryz.prog 13 #[pt bm,.int .i64 (k:Int)] w λ en w'=>∃x:(Cd×Fr×AS)×Option Addr×Nat×Int,en=.returned (.bool true)/\Rj b (kQ (p.T,(V.ap p).mm)).1 (kQ (p.T,(V.ap p).mm)).2 (V.ap p) V.B x.1/\SF w D (pS m b bm bT bo bt bi pk (V.fin k t q e r x)) [] x.1.2.1 (jB (V.fin k t q e r x)) w':=by
  have hkl:k<V.th.length:=(List.getElem?_eq_some_iff.1 ht).1
  have hc2:(gN.cells t)[2]?=some (pt p.bt):=by unfold gN.cells;rw[hpr];rfl
  refine enter Tryz.func13 Tryz.ntmps13 rfl rfl hs ?_
  simp only[cP]
  simp only[List.cons_append,List.nil_append]
  refine Kb1 ?_;refine Kb ?_
  (refine Ka2 ?_)
  ((refine Ka2 ?_));((refine Kc3 ?_));refine kj ?_;((refine Kc5 ?_));refine Kb3 ?_
  (refine lN 18 (λ g18=>?_) (λ g18=>?_)<;>(try ((exfalso;omega)))<;>((refine Ka2 ?_)))
  ((refine Kc3 ?_));refine J6 ?_;((refine Ka2 ?_));((refine aE ?_;refine aA (aY (f:=gN.cells) (k:=k) cS (by decide) rf rf dJ cY (.own .head) hkl hkl) rfl ?_));((refine aE ?_;refine aF (cV (v:=.bool false) (hc:=λ w1 hw=>by rw[show(false:Bool)=decide (t.ops.length<=t.idx) by simp;omega];exact qK (hw.cl (.own .head)) ht)) (λ x25=>?_)));refine Kb0 ?_
  refine aU (λ c26=>?_) (λ c26=>?_)
  · exact nv c26
  · try (first|contradiction|(exfalso;omega))
    refine Vz ?_;refine rD ?_;refine Ak ?_;refine oJ ?_;refine aB ?_;refine aA (aY (f:=gN.cells) (k:=k) cS (by decide) rf rf dJ cY (.own .head) hkl hkl) rfl ?_;refine kZ ?_;refine Pj ?_;refine aA (dF (f:=gN.cells) (j:=2) (v:=pt p.bt) cS rf eC (.own .head) ht hc2) rfl ?_;refine D0 ?_
    refine aU (λ c44=>?_) (λ c44=>?_)
    · try (contradiction)
    · try (first|contradiction|(exfalso;omega))
      refine Gt ?_;refine M2 ?_;refine aA (dF (f:=gN.cells) (j:=2) (v:=pt p.bt) cS rf eC (.own .head) ht hc2) rfl ?_;refine aH (cM (V:=λ _:Cd×Fr×AS=>.tuple #[]) (Fc:=λ y=>y.2.1) (hs:=[(p.bt,tO b p.c p.n),(b,eN (V.ap p)),(p.u,p.po)]) (os:=fD V.a) (A0:=A) (hs':=λ y=>[(p.bt,tO b y.1 (p.n+1)),(b,eN y.2.2),(y.2.2.u,y.2.2.po)]) (os':=λ y=>fD y.2.2) (hc:=λ w1 hw=>Ed hns ha hlv hr (cz ok) hm hn hA hB hw)) (λ x87 h87=>?_)
      have hcd:x87.1=fP r:=by
       have h1:=h87.1.1.1
       rw[hd] at h1
       exact h1.2
      refine pT ?_;refine Pj ?_;refine aA (dF (f:=gN.cells) (j:=2) (v:=pt p.bt) cS rf eC (.own .head) ht hc2) rfl ?_;refine aF (cV (v:=.bool true) (hc:=λ w1 hw=>by have h1:=qF (hw.st.at bD);rw[hcd] at h1;exact h1)) (λ x92=>?_);refine aD ?_
      refine aU (λ c92=>?_) (λ c92=>?_)
      · try (first|contradiction|(exfalso;omega))
        refine aJ ?_
        refine oV [6,93,94,95,96,97,98,99,100,101,102,103,104,105,106,107] (λ j:Nat=>[(6,.pointer (some ⟨j,0,none⟩))]) (λ _=>True) (λ j=>[(j,.cells ⟨(wV r).cells⟩ 40 (0,0)),(p.bt,tO b x87.1 (p.n+1)),(x87.2.2.u,x87.2.2.po),(bm,.cells ⟨[pt b,pt bT,.slice V.tp V.th.length V.tc,.slice pk.1 pk.2.1 pk.2.2,.slice V.hp V.hi.length V.hc,.int .i64 (IntKind.i64.wrap (V.iH+1))]⟩ 66 (0,0)),(bT,oT b m bo bt bi),(bo,bW ((V.es.set q (⟨e.n,e.kind,true,e.born⟩:jO)).map (jO.e t3)) V.ec),(bt,bW (Dc t3) 1),(b,eN x87.2.2)]) (λ _=>x87.2.1) (λ _=>[⟨V.tp,db V.th,V.tc,73,3⟩,⟨V.hp,Bs V.hi,V.hc,59,11⟩]++fD x87.2.2) (by decide) (λ _=>by exact rfl) ?_ (λ j f hx=>?_)
        · refine mB (.one 0 [] (.one 1 [] (.one 2 [] (.one 3 [] (.one 4 [] (.one 5 [] (.one 6 [] (.one 7 [] (.one 8 [] (.one 9 [] (.one 10 [] (.one 11 [] (.one 12 [] (.two 13 [3,8] (.two 14 [] (.one 15 [3,8,12] (.one 16 [] .nil)) 0 [] (.two 15 [3,8,12] (.one 14 [] (.one 16 [] .nil)) 0 [] .nil)) 0 [] (.two 15 [3,8,12] (.one 13 [3,8] (.one 14 [] (.one 16 [] .nil))) 0 [] .nil))))))))))))))) ?_
          refine mG ?_;refine aR ?_;refine J9 ?_;refine aS (i:=8) (hq:=(dF (f:=gN.cells) (j:=1) cS rf eC (.own .head) ht rfl)) (h:=?_);refine J9 ?_;refine aS (i:=12) (hq:=(dF (f:=gN.cells) (j:=2) (v:=pt p.bt) cS rf eC (.own .head) ht hc2)) (h:=?_)
          refine kS (E:=[13,15]) (by decide +kernel) ((.cons ?_ (.cons ?_ .nil)))
          · refine nD (i:=13) (hq:=(cV (v:=.agg ⟨r.cells⟩) (hc:=λ w1 hw=>by have h1:=Bx (hw.st.at bD);rw[hcd] at h1;exact h1))) (hfire:=(λ _=>by((repeat (first|exact aM.nil|refine aM.cons (by first|exact eE|exact cX (hq:=dF (f:=gN.cells) (j:=1) cS rf eC (.own .head) ht rfl)) ?_));done))) (h:=λ x106=>?_)
            refine kS (E:=[14,15]) (by decide +kernel) ((.cons ?_ (.cons ?_ .nil)))
            · refine qW (i:=14) (hq:=(cM (φ:=λ _=>True) (V:=λ _:Unit=>.agg ⟨(wV r).cells⟩) (hs:=[(bT,oT b m bo bt bi),(bo,bW (V.es.map (jO.e t3)) V.ec)]) (os:=[]) (A0:=[]) (hs':=λ _=>[(bT,oT b m bo bt bi),(bo,bW ((V.es.set q (⟨e.n,e.kind,true,e.born⟩:jO)).map (jO.e t3)) V.ec)]) (os':=λ _=>[]) (Fc:=λ _=>[]) (hc:=λ w1 hw=>(tN hk8 hi16 hf hfin hkd hw).mono λ _ _ ⟨e,h⟩=>⟨(),e,trivial,h⟩))) (h:=λ x107 h107=>?_)
              refine sB (hfire:=(λ _=>by((repeat (first|exact aM.nil|refine aM.cons (by first|exact eE|exact cX (hq:=dF (f:=gN.cells) (j:=1) cS rf eC (.own .head) ht rfl)|exact cX (hq:=dF (f:=gN.cells) (j:=2) (v:=pt p.bt) cS rf eC (.own .head) ht hc2)) ?_));done))) (h:=λ x6=>?_);refine Jy ?_
              refine nR (x6) ?_ (hw1:=λ w hw=>by exact hw.back (hH:=by exact List.Sublist.refl _) (hF:=by exact bL.dH λ f hf=>by simpa using hf) (hO:=by exact List.Sublist.refl _))
              · trivial
            · refine O0 (i:=15) (hfire:=(λ _=>by((repeat (first|exact aM.nil|refine aM.cons (by first|exact eE|exact cX (hq:=dF (f:=gN.cells) (j:=1) cS rf eC (.own .head) ht rfl)|exact cX (hq:=dF (f:=gN.cells) (j:=2) (v:=pt p.bt) cS rf eC (.own .head) ht hc2)) ?_));done))) (h:=λ x6=>?_)
              refine bS (i:=14) (hq:=(cM (φ:=λ _=>True) (V:=λ _:Unit=>.agg ⟨(wV r).cells⟩) (hs:=[(bT,oT b m bo bt bi),(bo,bW (V.es.map (jO.e t3)) V.ec)]) (os:=[]) (A0:=[]) (hs':=λ _=>[(bT,oT b m bo bt bi),(bo,bW ((V.es.set q (⟨e.n,e.kind,true,e.born⟩:jO)).map (jO.e t3)) V.ec)]) (os':=λ _=>[]) (Fc:=λ _=>[]) (hc:=λ w1 hw=>(tN hk8 hi16 hf hfin hkd hw).mono λ _ _ ⟨e,h⟩=>⟨(),e,trivial,h⟩))) (h:=λ x107 h107=>?_);refine Jy ?_
              refine nR (x6) ?_ (hw1:=λ w hw=>by exact hw.back (hH:=by exact List.Sublist.refl _) (hF:=by exact bL.dH λ f hf=>by simpa using hf) (hO:=by exact List.Sublist.refl _))
              · trivial
          · refine O0 (i:=15) (hfire:=(λ _=>by((repeat (first|exact aM.nil|refine aM.cons (by first|exact eE|exact cX (hq:=dF (f:=gN.cells) (j:=1) cS rf eC (.own .head) ht rfl)|exact cX (hq:=dF (f:=gN.cells) (j:=2) (v:=pt p.bt) cS rf eC (.own .head) ht hc2)) ?_));done))) (h:=λ x6=>?_)
            refine bZ (i:=13) (hq:=(cV (v:=.agg ⟨r.cells⟩) (hc:=λ w1 hw=>by have h1:=Bx (hw.st.at bD);rw[hcd] at h1;exact h1))) (hfire:=(λ _=>by((repeat (first|exact aM.nil|refine aM.cons (by first|exact eE|exact cX (hq:=dF (f:=gN.cells) (j:=1) cS rf eC (.own .head) ht rfl)) ?_));done))) (h:=λ x106=>?_);refine bS (i:=14) (hq:=(cM (φ:=λ _=>True) (V:=λ _:Unit=>.agg ⟨(wV r).cells⟩) (hs:=[(bT,oT b m bo bt bi),(bo,bW (V.es.map (jO.e t3)) V.ec)]) (os:=[]) (A0:=[]) (hs':=λ _=>[(bT,oT b m bo bt bi),(bo,bW ((V.es.set q (⟨e.n,e.kind,true,e.born⟩:jO)).map (jO.e t3)) V.ec)]) (os':=λ _=>[]) (Fc:=λ _=>[]) (hc:=λ w1 hw=>(tN hk8 hi16 hf hfin hkd hw).mono λ _ _ ⟨e,h⟩=>⟨(),e,trivial,h⟩))) (h:=λ x107 h107=>?_);refine Jy ?_
            refine nR (x6) ?_ (hw1:=λ w hw=>by exact hw.back (hH:=by exact List.Sublist.refl _) (hF:=by exact bL.dH λ f hf=>by simpa using hf) (hO:=by exact List.Sublist.refl _))
            · trivial
        dsimp only[lP,List.map,List.cons_append,List.nil_append]
        refine aJ ?_;refine eG [(0,[]),(1,[]),(2,[]),(3,[]),(4,[]),(5,[]),(6,[]),(7,[]),(8,[]),(9,[]),(10,[]),(11,[]),(12,[4]),(13,[]),(14,[]),(15,[]),(16,[])] ?_;refine Cy ?_;refine aR ?_;refine J9 ?_;refine aS (i:=9) (hq:=(dF (f:=gN.cells) (j:=1) cS rf eC (.own .head) ht rfl)) (h:=?_);refine cB ?_;refine jZ ?_;refine bZ (i:=12) (hq:=(by exact gD λ _=>aP oH mH rf rf rf rf (by simp only[dQ,cI,List.cons_append,List.nil_append,List.append_nil];exact rfl))) (h:=λ x120=>?_);((refine bZ (i:=13) (hq:=(aQ.cL (E7 (f:=lR.cells) (v1:=⟨k,t.idx,true,wV r⟩) gA (by decide) rfl rf rf (.tail .head) rfl (.new .head) oH rfl dJ (by omega)) hP)) (h:=λ x121=>?_);try (refine eR (λ h121=>?_))));refine Gq ?_;refine Pj ?_;refine aL (aQ.hJ (wS (f:=gN.cells) (j:=2) (v1:=⟨t.op,t.oc,t.ops,t.idx,none⟩) cS rf rf rfl eC zG ht (by decide) rfl) hP) (λ _=>?_);refine aD ?_;refine Gt ?_;refine M2 ?_;refine aA (dF (f:=gN.cells) (j:=1) (v0:=⟨t.op,t.oc,t.ops,t.idx,none⟩) cS rf eC (.own .head) (by rw[List.getElem?_set_self hkl]) rfl) rfl ?_;refine aA (Sv (k:=t.idx) rf rf (by omega)) rfl ?_;refine M2 ?_;refine aL (aQ.hJ (wS (f:=gN.cells) (j:=1) (v0:=⟨t.op,t.oc,t.ops,t.idx,none⟩) (v1:=⟨t.op,t.oc,t.ops,t.idx+1,none⟩) cS rf rf rfl eC zG (by rw[List.getElem?_set_self hkl]) (by decide) rfl) hP) (λ _=>?_);refine aD ?_;refine dW ?_
        refine bE Tryz.results13 (λ w hw=>?_)
        exact⟨(x87,x121.1,x121.2,IntKind.i64.wrap (V.iH+1)),rfl,uR h87.1,by simp only[pS,yE,ot,jB,MV.fin,List.length_set,List.length_append,List.length_cons,List.length_nil];rw[List.set_set] at hw;exact hw.ret (by repeat (first|exact List.Sublist.refl _|apply List.Sublist.cons)) (bL.dH λ f hf=>by simp[hf]) (by repeat (exact List.Sublist.refl _))⟩
      · exact nv c92
end
end

/- A call inside of a larger state; lists of lists. -/
end Go.Proofs.YtnilhhnfjfdokaaGreatDoor
namespace Go.Ct
section
open Go Go.RowKit
section
variable{α β:Type}
theorem kX.pre:∀(es r:List α),kX (es++r) (List.replicate es.length 0) es r
 | [],r=>.nil
 | a::es,r=>.cons .head (kX.pre es r)
theorem F7{f:α->List β}{l:List α}{k:Nat}{t:α}(hk:l[k]?=some t):(l.flatMap f).Perm (f t++(l.eraseIdx k).flatMap f):=by
 obtain⟨h,rfl⟩:=List.getElem?_eq_some_iff.1 hk
 have e:l=l.take k++l[k]::l.drop (k+1):=by rw[<- List.drop_eq_getElem_cons h,List.take_append_drop]
 rw[List.eraseIdx_eq_take_drop_succ]
 conv=>lhs;rw[e]
 rw[List.flatMap_append,List.flatMap_cons,List.flatMap_append,<- List.append_assoc,<- List.append_assoc]
 exact List.Perm.append_right _ List.perm_append_comm
theorem K4{f:α->List β}{l:List α}{k:Nat}{t:α}(hk:l[k]?=some t)(t':α):((l.set k t').flatMap f).Perm (f t'++(l.eraseIdx k).flatMap f):=by
 have h:=(List.getElem?_eq_some_iff.1 hk).1
 have:=F7 (f:=f) (l:=l.set k t') (k:=k) (t:=t') (by rw[List.getElem?_set_self h])
 rwa [List.eraseIdx_set_eq] at this
end
theorem wJ{P:Program}{f:FuncId}{vs:Array Value}{X:Type}{V:X->Value}{φ:X->Prop}{w0 w:World}{M:List Nat}{H hs H':List (Nat×Obj)}{A A0 F:Fr}{O os O':List Ow}{hs':X->List (Nat×Obj)}{os':X->List Ow}{Fc:X->Fr}
  (h:SF w0 M H A F O w) (pH:H.Perm (hs++H')) (pO:O.Perm (os++O')) (hA:cA A F O' A0)
  (hc:SF w (Ks hs os) hs A0 [] os w->Calls P f vs w λ e w'=>∃x,e=.returned (V x)/\φ x/\SF w (Ks hs os) (hs' x) [] (Fc x) (os' x) w') :
  Calls P f vs w λ e w'=>∃x,e=.returned (V x)/\φ x/\SF w0 M (hs' x++H') A (Fc x++F) (os' x++O') w':=by
 have h1:=h.perm pH.symm pO.symm
 refine(hc (h1.nZ (kX.pre hs H') (kX.pre os O') hA)).mono λ e w' ⟨x,e1,hx,hw⟩=>⟨x,e1,hx,?_⟩
 have kperm:∀(a c:List (Nat×Obj)) (b d:List Ow),(Ks (a++c) (b++d)).Perm (Ks a b++Ks c d):=λ a c b d=>by
  unfold Ks
  rw[List.map_append,List.flatMap_append]
  simp only[List.append_assoc]
  refine List.Perm.append_left _ ?_
  rw[<- List.append_assoc,<- List.append_assoc]
  exact List.Perm.append_right _ List.perm_append_comm
 have nd0:=(kperm hs H' os O').nodup_iff.1 h1.dis
 have disj:∀b∈Ks hs os,b∉Ks H' O':=λ b hb hm=>(List.nodup_append.1 nd0).2.2 b hb b hm rfl
 exact h1.V8 (D:=Ks hs os) (Hm:=[]) (Hc:=hs' x) (H1:=H') (Fc:=Fc x) (Om:=[]) (Oc:=os' x) (O1:=O') hw (λ b hb=>(kperm hs H' os O').mem_iff.2 (List.mem_append_left _ hb))
  (λ p hpm=>.inr ⟨List.mem_append_right _ hpm,λ hm=>disj _ hm (eF.2 (.inl ⟨p,hpm,rfl⟩))⟩)
  (λ o ho=>.inr ⟨List.mem_append_right _ ho,λ b hb hm=>disj _ hm (eF.2 (.inr ⟨o,ho,hb⟩))⟩)
  (List.nodup_append.1 nd0).2.1
end

/- Three threads that put one key where there is none: what holds after any picks. -/
end Go.Ct
namespace Go.Proofs.YtnilhhnfjfdokaaGreatDoor
section
open Go Go.RowKit Go.Ct
def kG(key:ByteArray)(val:Nat->Int)(k:Nat):List lO:=[⟨2,0,key,val k,0⟩,⟨7,0,key,0,0⟩]
inductive TI(key:ByteArray)(h:Nat)(val:Nat->Int)(k:Nat)(s:Mm)(l:List lR)(σ:Gh):Rf->Nat->Prop where
 | a (hn:∀m,σ≠some (k,m)) (r0:iT l k 0=none) (r1:iT l k 1=none):TI key h val k s l σ ⟨kG key val k,0,none⟩ 22
 | b {T:Tr} {d:Nat} (g:Gd key h val k (Qp val k) d T s σ) (hl:T.live=true) (hd:d<=13) (r0:iT l k 0=none) (r1:iT l k 1=none):TI key h val k s l σ ⟨kG key val k,0,some T⟩ (d+8)
 | c {r:Rs} (q:Qp val k r σ) (r0:iT l k 0=some (wV r)) (r1:iT l k 1=none):TI key h val k s l σ ⟨kG key val k,1,none⟩ 7
 | e {T:Tr} {d:Nat} {r:Rs} (g:Gd key h val k (Ql val) d T s σ) (hl:T.live=true) (hd:d<=6) (q:Qp val k r σ) (r0:iT l k 0=some (wV r)) (r1:iT l k 1=none):TI key h val k s l σ ⟨kG key val k,1,some T⟩ d
 | f {r r':Rs} (q:Qp val k r σ) (q':Ql val r' σ) (r0:iT l k 0=some (wV r)) (r1:iT l k 1=some (wV r')):TI key h val k s l σ ⟨kG key val k,2,none⟩ 0
section
variable{key:ByteArray}{h:Nat}{val:Nat->Int}{k j:Nat}{i:Int}{s s1 s2:Mm}{σ τ υ:Gh}{l l2:List lR}{t:Rf}{n:Nat}
theorem Er(l:List lR)(e:lR)(k i:Nat):iT (l++[e]) k i=(iT l k i).or (if(e.thr==k&&e.idx==i&&e.ret)=true then some e.r else none):=by
 unfold iT
 rw[List.find?_append]
 cases hf:l.find? λ e=>e.thr==k&&e.idx==i&&e.ret with
 | some a=>rfl
 | none =>
  simp only[List.find?_cons,List.find?_nil,Option.none_or,Option.map_none]
  cases hb:(e.thr==k&&e.idx==i&&e.ret)<;>rfl
theorem rS(l:List lR)(k' i':Nat)(r:Rs)(k i:Nat):iT (l++[⟨k',i',false,r⟩]) k i=iT l k i:=by
 rw[Er,if_neg (by simp)];simp
theorem E8{e:lR}(l:List lR)(k i:Nat)(h:e.thr≠k∨e.idx≠i):iT (l++[e]) k i=iT l k i:=by
 rw[Er,if_neg (by simp;intro h1 h2;rcases h with h|h<;>contradiction)];simp
theorem O6{k i:Nat}{r:Rs}(l:List lR)(h0:iT l k i=none):iT (l++[⟨k,i,true,r⟩]) k i=some r:=by
 rw[Er,h0,if_pos (by simp)];rfl
theorem Bv{r:Rs}(q:Qp val k r σ)(f:Cz key h val k s σ s1 τ):Qp val k r τ:=by
 rcases q with⟨m,e,e2⟩|⟨w,m,e,hw,e2⟩
 ·exact .inl ⟨m,jR (e▸f),e2⟩
 ·exact .inr ⟨w,m,jR (e▸f),hw,e2⟩
theorem j3{r:Rs}(q:Ql val r σ)(f:Cz key h val k s σ s1 τ):Ql val r τ:=by
 obtain⟨w,m,e,e2⟩:=q
 exact⟨w,m,jR (e▸f),e2⟩
theorem Sb{Q:Rs->Gh->Prop}{d:Nat}{T:Tr}(g:Gd key h val k Q d T s σ)(hl:T.live=true)(f:Cz key h val k s σ s1 τ):Gd key h val k Q d T s1 τ:=by
 cases d with
 | zero=>obtain⟨r,e,_⟩:=g;rw[e] at hl;cases hl
 | succ d =>
  rcases g with⟨r,e,_⟩|⟨h1,h2,h3⟩
  ·rw[e] at hl;cases hl
  ·exact .inr ⟨h1,h2,λ s' σ' f2=>h3 s' σ' (f.trans f2)⟩
theorem TI.C7(x:TI key h val k s l σ t n)(f:Cz key h val k s σ s1 τ)(h0:iT l2 k 0=iT l k 0)(h1:iT l2 k 1=iT l k 1):TI key h val k s1 l2 τ t n:=by
 cases x with
 | a hn r0 r1=>exact .a (Ar hn f) (h0.trans r0) (h1.trans r1)
 | b g hl hd r0 r1=>exact .b (Sb g hl f) hl hd (h0.trans r0) (h1.trans r1)
 | c q r0 r1=>exact .c (Bv q f) (h0.trans r0) (h1.trans r1)
 | e g hl hd q r0 r1=>exact .e (Sb g hl f) hl hd (Bv q f) (h0.trans r0) (h1.trans r1)
 | f q q' r0 r1=>exact .f (Bv q f) (j3 q' f) (h0.trans r0) (h1.trans r1)
theorem uF{Z:AM}{t:Rf}{p:Tr×Mm}{l:List lR}{r:Rs}(e:p.1=.done r):nB Z k t p l=⟨p.2,Z.th.set k ⟨t.ops,t.idx+1,none⟩,l++[⟨k,t.idx,true,wV r⟩]⟩:=by
 unfold nB;rw[e]
theorem kR{Z:AM}{t:Rf}{p:Tr×Mm}{l:List lR}(e:p.1.live=true):nB Z k t p l=⟨p.2,Z.th.set k ⟨t.ops,t.idx,some p.1⟩,l⟩:=by
 unfold nB
 cases hp:p.1 with
 | done r=>rw[hp] at e;cases e
 | load c k=>rfl
 | oI c o n k=>rfl
 | alloc n i k=>rfl
 | cell i k=>rfl
 | gen k=>rfl
 | node r k=>rfl
 | stuck=>rfl
theorem N9{Q:Rs->Gh->Prop}{d:Nat}{T:Tr}(g:Gd key h val k Q d T s σ):(∃r,T=.done r/\Q r σ)∨T.live=true:=by
 cases T with
 | done r =>
  refine .inl ⟨r,rfl,?_⟩
  cases d with
  | zero=>obtain⟨r',e,q⟩:=g;cases e;exact q
  | succ d =>
   rcases g with⟨r',e,q⟩|⟨h1,_⟩
   ·cases e;exact q
   ·cases h1
 | load c k=>exact .inr rfl
 | oI c o n k=>exact .inr rfl
 | alloc n i k=>exact .inr rfl
 | cell i k=>exact .inr rfl
 | gen k=>exact .inr rfl
 | node r k=>exact .inr rfl
 | stuck=>exact .inr rfl
theorem Nt{Q:Rs->Gh->Prop}{d:Nat}{T:Tr}(g:Gd key h val k Q d T s σ)(hl:T.live=true)(j1:Jx key h val s σ):∃d',d=d'+1/\(kQ (T,s)).1≠.stuck/\∃σ2,Gr key h val k s σ (kQ (T,s)).2 σ2/\Gd key h val k Q d' (kQ (T,s)).1 (kQ (T,s)).2 σ2:=by
 cases d with
 | zero=>obtain⟨r,e,_⟩:=g;rw[e] at hl;cases hl
 | succ d =>
  rcases g with⟨r,e,_⟩|⟨h1,h2,h3⟩
  ·rw[e] at hl;cases hl
  ·exact⟨d,rfl,h3 s σ (.refl j1)⟩
structure r7(key:ByteArray)(h:Nat)(val:Nat->Int)(k m:Nat)(Z:AM)(σ:Gh)(n:Nat):Prop where
 ok:Ju m k Z
 to:∃σ2 t n',n'<n/\Gr key h val k Z.s σ (dO m k Z).s σ2/\(dO m k Z).th=Z.th.set k t/\TI key h val k (dO m k Z).s (dO m k Z).hist σ2 t n'/\∀j i,j≠k->iT (dO m k Z).hist j i=iT Z.hist j i
theorem T0{w:Nat}{m:Int}(a:Gr key h val k s (some (w,m)) s1 τ):τ=some (w,m):=by
 rcases a.2.2.1 with e|⟨e,_⟩
 ·exact e
 ·exact nomatch e
theorem Sr(a:Gr key h val k s σ s1 τ){w:Nat}{m:Int}(e:σ=some (w,m)):Cz key h val k s σ s1 τ:=⟨a.1,a.2.1,.inl (by rw[e] at a ⊢;exact T0 a)⟩
theorem A1{m:Nat}{Z:AM}(hh:h=lU key m)(ht:Z.th[k]?=some t)(x:TI key h val k Z.s Z.hist σ t n)(j1:Jx key h val Z.s σ)(h0:n≠0):r7 key h val k m Z σ n:=by
 subst hh
 cases x with
 | a hn r0 r1 =>
  have g:=fq (h:=lU key m) (val:=val) (k:=k) (c:=⟨t3,key,lU key m,val k,1,0⟩) rfl rfl rfl rfl rfl (n:=998) hn j1
  have es:fA (rT m ⟨2,0,key,val k,0⟩) Z.s=(gV ⟨t3,key,lU key m,val k,1,0⟩ (998+2),Z.s):=rfl
  have e:dO m k Z=⟨Z.s,Z.th.set k ⟨kG key val k,0,some (gV ⟨t3,key,lU key m,val k,1,0⟩ (998+2))⟩,Z.hist++[⟨k,0,false,Rs.zero⟩]⟩:=by
   unfold dO
   rw[ht]
   show nB Z k _ (fA (rT m ⟨2,0,key,val k,0⟩) Z.s) _=_
   rw[es,kR rfl]
  refine⟨λ t' o h1 h2=>?_,σ,⟨kG key val k,0,some (gV ⟨t3,key,lU key m,val k,1,0⟩ (998+2))⟩,13+8,by omega,?_⟩
  ·rw[ht] at h1;cases h1;cases h2
   show(fA (rT m ⟨2,0,key,val k,0⟩) Z.s).1≠_
   rw[es];exact λ e=>Tr.noConfusion e
  ·rw[e]
   exact⟨.refl j1,rfl,.b g rfl (Nat.le_refl _) ((rS ..).trans r0) ((rS ..).trans r1),λ j i hj=>rS ..⟩
 | @b T d g hl hd r0 r1 =>
  obtain⟨d',rfl,hns,σ2,st,g2⟩:=Nt g hl j1
  have e0:dO m k Z=nB Z k ⟨kG key val k,0,some T⟩ (kQ (T,Z.s)) Z.hist:=by
   unfold dO;rw[ht];rfl
  have ho:Ju m k Z:=λ t' o h1 h2=>by
   rw[ht] at h1;cases h1;exact hns
  rcases N9 g2 with⟨r,er,q⟩|hl2
  ·rw[uF er] at e0
   refine⟨ho,σ2,⟨kG key val k,1,none⟩,7,by omega,?_⟩
   rw[e0]
   exact⟨st,rfl,.c q (O6 _ r0) ((E8 _ _ _ (.inr (by show(0:Nat)≠1;decide))).trans r1),λ j i hj=>E8 _ _ _ (.inl (λ e=>hj e.symm))⟩
  ·rw[kR hl2] at e0
   refine⟨ho,σ2,⟨kG key val k,0,some (kQ (T,Z.s)).1⟩,d'+8,by omega,?_⟩
   rw[e0]
   exact⟨st,rfl,.b g2 hl2 (by omega) r0 r1,λ j i hj=>rfl⟩
 | @c r q r0 r1 =>
  obtain⟨w,mm,hs⟩:∃w mm,σ=some (w,mm):=by
   rcases q with⟨mm,e,_⟩|⟨w,mm,e,_⟩
   ·exact⟨k,mm,e⟩
   ·exact⟨w,mm,e⟩
  have g:=Yq (k:=k) (n:=999) hs j1
  have es:fA (rT m ⟨7,0,key,0,0⟩) Z.s=(qB t3 λ i=>nK t3 (lU key m) key .done (999+1) i 0,Z.s):=rfl
  have e:dO m k Z=⟨Z.s,Z.th.set k ⟨kG key val k,1,some (qB t3 λ i=>nK t3 (lU key m) key .done (999+1) i 0)⟩,Z.hist++[⟨k,1,false,Rs.zero⟩]⟩:=by
   unfold dO
   rw[ht]
   show nB Z k _ (fA (rT m ⟨7,0,key,0,0⟩) Z.s) _=_
   rw[es,kR rfl]
  refine⟨λ t' o h1 h2=>?_,σ,⟨kG key val k,1,some (qB t3 λ i=>nK t3 (lU key m) key .done (999+1) i 0)⟩,6,by omega,?_⟩
  ·rw[ht] at h1;cases h1;cases h2
   show(fA (rT m ⟨7,0,key,0,0⟩) Z.s).1≠_
   rw[es];exact λ e=>Tr.noConfusion e
  ·rw[e]
   exact⟨.refl j1,rfl,.e g rfl (Nat.le_refl _) q ((rS ..).trans r0) ((rS ..).trans r1),λ j i hj=>rS ..⟩
 | @e T _ r g hl hd q r0 r1 =>
  obtain⟨w,mm,hs⟩:∃w mm,σ=some (w,mm):=by
   rcases q with⟨mm,e,_⟩|⟨w,mm,e,_⟩
   ·exact⟨k,mm,e⟩
   ·exact⟨w,mm,e⟩
  obtain⟨d',rfl,hns,σ2,st,g2⟩:=Nt g hl j1
  have e0:dO m k Z=nB Z k ⟨kG key val k,1,some T⟩ (kQ (T,Z.s)) Z.hist:=by
   unfold dO;rw[ht];rfl
  have ho:Ju m k Z:=λ t' o h1 h2=>by
   rw[ht] at h1;cases h1;exact hns
  have fu:=Sr st hs
  rcases N9 g2 with⟨r',er,q'⟩|hl2
  ·rw[uF er] at e0
   refine⟨ho,σ2,⟨kG key val k,2,none⟩,0,by omega,?_⟩
   rw[e0]
   exact⟨st,rfl,.f (Bv q fu) q' ((E8 _ _ _ (.inr (by show(1:Nat)≠0;decide))).trans r0) (O6 _ r1),λ j i hj=>E8 _ _ _ (.inl (λ e=>hj e.symm))⟩
  ·rw[kR hl2] at e0
   refine⟨ho,σ2,⟨kG key val k,1,some (kQ (T,Z.s)).1⟩,d',by omega,?_⟩
   rw[e0]
   exact⟨st,rfl,.e g2 hl2 (by omega) (Bv q fu) r0 r1,λ j i hj=>rfl⟩
 | f q q' r0 r1=>exact absurd rfl h0
structure O8(key:ByteArray)(m:Nat)(val:Nat->Int)(Z:AM)(N:Nat):Prop where
 ex:∃σ n0 n1 n2 t0 t1 t2,(∀w i,σ=some (w,i)->w<3)/\Jx key (lU key m) val Z.s σ/\Z.th=[t0,t1,t2]/\N=n0+n1+n2/\TI key (lU key m) val 0 Z.s Z.hist σ t0 n0/\TI key (lU key m) val 1 Z.s Z.hist σ t1 n1/\TI key (lU key m) val 2 Z.s Z.hist σ t2 n2
theorem T4{τ2:Gh}(hw:∀w i,σ=some (w,i)->w<3)(st:Gr key h val k s σ s1 τ2)(hk:k<3):∀w i,τ2=some (w,i)->w<3:=λ w i e=>by
 rcases st.2.2.1 with e2|⟨_,m,e2⟩
 ·exact hw w i (e2▸e)
 ·rw[e] at e2;injection e2 with e2;injection e2 with e2 _;omega
theorem TI.tD(x:TI key h val k s l σ t n):n=0↔t.idx=2:=by
 cases x with
 | a=>simp
 | b=>simp
 | c=>simp
 | @e T d r g hl => 
  constructor
  ·intro e;subst e;obtain⟨r,e,_⟩:=g;rw[e] at hl;cases hl
  ·intro e;cases e
 | f=>simp
theorem TI.ops(x:TI key h val k s l σ t n):t.ops=kG key val k:=by cases x<;>rfl
theorem TI.idle{m:Nat}{Z:AM}(ht:Z.th[k]?=some t)(x:TI key h val k s l σ t n)(h0:n=0):dO m k Z=Z:=by
 have e:=x.tD.1 h0
 have e2:=x.ops
 unfold dO
 rw[ht]
 dsimp only
 rw[e,e2]
 rfl
theorem TI.done{m:Nat}{Z:AM}(ht:Z.th[k]?=some t)(x:TI key h val k s l σ t n)(h0:n=0):Ju m k Z:=λ t' o h1 h2=>by
 rw[ht] at h1;cases h1
 rw[x.tD.1 h0,x.ops] at h2
 cases h2
theorem O8.pick{m N:Nat}{Z:AM}(w:O8 key m val Z N)(hk:k<3):Ju m k Z/\∃N',N'<=N/\O8 key m val (dO m k Z) N'/\((∀t,Z.th[k]?=some t->t.idx≠2)->N'<N)/\(dO m k Z).s.nodes.length<=Z.s.nodes.length+2*(N-N')/\(dO m k Z).s.cs.length<=Z.s.cs.length+(N-N')/\((∃t,Z.th[k]?=some t/\t.idx=2)->dO m k Z=Z/\N'=N):=by
 obtain⟨σ,n0,n1,n2,t0,t1,t2,hw3,j1,hth,rfl,x0,x1,x2⟩:=w.ex
 have idle:∀{t:Rf} {n:Nat},Z.th[k]?=some t->TI key (lU key m) val k Z.s Z.hist σ t n->n=0->Ju m k Z/\∃N',N'<=n0+n1+n2/\O8 key m val (dO m k Z) N'/\((∀t,Z.th[k]?=some t->t.idx≠2)->N'<n0+n1+n2)/\(dO m k Z).s.nodes.length<=Z.s.nodes.length+2*(n0+n1+n2-N')/\(dO m k Z).s.cs.length<=Z.s.cs.length+(n0+n1+n2-N')/\((∃t,Z.th[k]?=some t/\t.idx=2)->dO m k Z=Z/\N'=n0+n1+n2):=λ{t n} ht x h0=>by
  refine⟨x.done ht h0,n0+n1+n2,Nat.le_refl _,?_,λ hh=>absurd (x.tD.1 h0) (hh t ht),?_,?_,?_⟩
  ·rw[x.idle ht h0];exact w
  ·rw[x.idle ht h0];omega
  ·rw[x.idle ht h0];omega
  ·intro _;exact⟨x.idle ht h0,rfl⟩
 have hk3:k=0∨k=1∨k=2:=by omega
 rcases hk3 with rfl|rfl|rfl
 ·have ht:Z.th[0]?=some t0:=by rw[hth];rfl
  by_cases h0:n0=0
  ·exact idle ht x0 h0
  ·obtain⟨ok,σ2,t',n',hl,st,eth,x',hr⟩:=A1 rfl ht x0 j1 h0
   refine⟨ok,n'+n1+n2,by omega,⟨σ2,n',n1,n2,t',t1,t2,T4 hw3 st (by decide),st.2.1,by rw[eth,hth];rfl,rfl,x',x1.C7 (st.C7 (by decide)) (hr 1 0 (by decide)) (hr 1 1 (by decide)),x2.C7 (st.C7 (by decide)) (hr 2 0 (by decide)) (hr 2 1 (by decide))⟩,λ _=>by omega,by have:=st.2.2.2.1;omega,by have:=st.2.2.2.2;omega,λ⟨t,e1,e2⟩=>?_⟩
   rw[ht] at e1;cases e1
   exact absurd (x0.tD.2 e2) h0
 ·have ht:Z.th[1]?=some t1:=by rw[hth];rfl
  by_cases h0:n1=0
  ·exact idle ht x1 h0
  ·obtain⟨ok,σ2,t',n',hl,st,eth,x',hr⟩:=A1 rfl ht x1 j1 h0
   refine⟨ok,n0+n'+n2,by omega,⟨σ2,n0,n',n2,t0,t',t2,T4 hw3 st (by decide),st.2.1,by rw[eth,hth];rfl,rfl,x0.C7 (st.C7 (by decide)) (hr 0 0 (by decide)) (hr 0 1 (by decide)),x',x2.C7 (st.C7 (by decide)) (hr 2 0 (by decide)) (hr 2 1 (by decide))⟩,λ _=>by omega,by have:=st.2.2.2.1;omega,by have:=st.2.2.2.2;omega,λ⟨t,e1,e2⟩=>?_⟩
   rw[ht] at e1;cases e1
   exact absurd (x1.tD.2 e2) h0
 ·have ht:Z.th[2]?=some t2:=by rw[hth];rfl
  by_cases h0:n2=0
  ·exact idle ht x2 h0
  ·obtain⟨ok,σ2,t',n',hl,st,eth,x',hr⟩:=A1 rfl ht x2 j1 h0
   refine⟨ok,n0+n1+n',by omega,⟨σ2,n0,n1,n',t0,t1,t',T4 hw3 st (by decide),st.2.1,by rw[eth,hth];rfl,rfl,x0.C7 (st.C7 (by decide)) (hr 0 0 (by decide)) (hr 0 1 (by decide)),x1.C7 (st.C7 (by decide)) (hr 1 0 (by decide)) (hr 1 1 (by decide)),x'⟩,λ _=>by omega,by have:=st.2.2.2.1;omega,by have:=st.2.2.2.2;omega,λ⟨t,e1,e2⟩=>?_⟩
   rw[ht] at e1;cases e1
   exact absurd (x2.tD.2 e2) h0
theorem TI.end(x:TI key h val k s l (some (j,i)) t 0):iT l k 0=some (if k=j then fL false 0 else dG true (val j))/\iT l k 1=some (dG true (val j)):=by
 generalize e0:(0:Nat)=n at x
 cases x with
 | a=>cases e0
 | b=>omega
 | c=>cases e0
 | e g hl=>subst e0;obtain⟨r,e,_⟩:=g;rw[e] at hl;cases hl
 | f q q' r0 r1 =>
  obtain⟨w,m,e,rfl⟩:=q'
  injection e with e;injection e with e1 e2
  subst e1
  refine⟨?_,r1⟩
  rcases q with⟨m',e3,rfl⟩|⟨w',m',e3,hw,rfl⟩
  ·injection e3 with e3;injection e3 with e4 _
   rw[if_pos e4.symm];exact r0
  ·injection e3 with e3;injection e3 with e4 _
   rw[if_neg (by rw[e4];exact λ e=>hw e.symm),e4];exact r0
theorem O8.end{m:Nat}{Z:AM}(w:O8 key m val Z 0):∃j,j<3/\∀k,k<3->iT Z.hist k 0=some (if k=j then fL false 0 else dG true (val j))/\iT Z.hist k 1=some (dG true (val j)):=by
 obtain⟨σ,n0,n1,n2,t0,t1,t2,hw3,j1,hth,e,x0,x1,x2⟩:=w.ex
 have e0:n0=0:=by omega
 have e1:n1=0:=by omega
 have e2:n2=0:=by omega
 subst e0 e1 e2
 obtain⟨j,i,rfl⟩:∃j i,σ=some (j,i):=by
  generalize e0:(0:Nat)=n at x0
  cases x0 with
  | a=>cases e0
  | b=>omega
  | c=>cases e0
  | e g hl=>subst e0;obtain⟨r,e,_⟩:=g;rw[e] at hl;cases hl
  | f q q' r0 r1 =>
   obtain⟨w,m,e,_⟩:=q'
   exact⟨w,m,e⟩
 refine⟨j,hw3 j i rfl,λ k hk=>?_⟩
 have hk3:k=0∨k=1∨k=2:=by omega
 rcases hk3 with rfl|rfl|rfl
 ·exact x0.end
 ·exact x1.end
 ·exact x2.end
theorem fh(m:Nat)(pv:Nat×Obj):O8 key m val ⟨⟨[sX.c,sX.c,eO eZ 0,eO (xQ 1) 1],[0,3,4],1,pv⟩,[⟨kG key val 0,0,none⟩,⟨kG key val 1,0,none⟩,⟨kG key val 2,0,none⟩],[]⟩ 66:=by
 refine⟨none,22,22,22,_,_,_,(λ w i e=>nomatch e),⟨rfl,rfl,Nat.le_refl _,Nat.le_refl _,rfl,rfl,λ c a b=>?_,λ _=>rfl,(λ w i e=>nomatch e)⟩,rfl,rfl,.a (λ m e=>nomatch e) rfl rfl,.a (λ m e=>nomatch e) rfl rfl,.a (λ m e=>nomatch e) rfl rfl⟩
 have:c<=3:=b
 omega
end
end

end Go.Proofs.YtnilhhnfjfdokaaGreatDoor

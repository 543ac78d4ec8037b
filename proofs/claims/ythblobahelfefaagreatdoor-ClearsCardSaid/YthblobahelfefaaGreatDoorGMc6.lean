/- Merged. -/
import Derived.Test.YthblobahelfefaaGreatDoorGMc3
import Derived.Test.YthblobahelfefaaGreatDoorGFd2
import Derived.Test.YthblobahelfefaaGreatDoorGDu2
import Derived.Test.YthblobahelfefaaGreatDoorGTp2
set_option linter.unusedSimpArgs false
set_option linter.unusedVariables false
namespace Go.Proofs.YthblobahelfefaaGreatDoor
open Go.Proofs.Tryz
open Go Go.RowKit Go.Ct
section
section
variable{D:List Nat}{A B:Fr}{b bT bm m bo bt bi k:Nat}{w:World}{pk:Option Addr×Nat×Nat}{V:MV}{t:hJ}{p:PrV}
abbrev hJ.Xw(t:hJ)(p:PrV)(T:Tr)(y:Cd×Fr×AS):hJ:=⟨t.op,t.oc,t.ops,t.idx,some ⟨p.bt,y.1,p.n+1,T,y.2.2.u,y.2.2.po,y.2.2.pl⟩⟩
abbrev MV.Xw(V:MV)(k:Nat)(t:hJ)(p:PrV)(T:Tr)(x:(Cd×Fr×AS)×Int):MV :=⟨x.1.2.2,V.es,V.ec,V.th.set k (t.Xw p T x.1),V.tp,V.tc,V.hi,V.hp,V.hc,x.2,x.1.2.1++V.B⟩
abbrev MV.ap(V:MV)(p:PrV):AS:=AS.wq V.a p.u p.po p.pl
theorem aBq(ok:V.a.Ok):(V.ap p).Ok:=⟨ok.fit,⟨ok.mo.nd,ok.mo.cs,ok.mo.two⟩⟩
set_option maxRecDepth 100000 in
theorem bz(ht:V.th[k]?=some t)(hpr:t.pr=some p)(hi:t.idx<t.ops.length)(hr:dZ b p.T (V.ap p).mm p.c (V.ap p).mm V.B)(ha:fB p.T=true)(hlv:p.T.live=true)(hns:(mJ (p.T,(V.ap p).mm)).1≠.stuck)(hl2:(mJ (p.T,(V.ap p).mm)).1.live=true)(hn:p.n<1000000000)(ok:V.a.Ok)(hm:V.a.mm.gM)(hA:∀f∈cH V.a.L,f∈A)(hB:∀x∈V.B,x∈A)(hs:SF w D ([(p.bt,tO b p.c p.n),(p.u,p.po)]++tS m b bm bT bo bt bi pk V) A [] (Q3 V p.pl) w) :
  Calls prog 17 #[pt bm,.int .i64 (k:Int)] w λ e w'=>∃x:(Cd×Fr×AS)×Int,e=.returned (.bool true)/\qz b (mJ (p.T,(V.ap p).mm)).1 (mJ (p.T,(V.ap p).mm)).2 (V.ap p) V.B x.1/\SF w D ([(p.bt,tO b x.1.1 (p.n+1)),(x.1.2.2.u,x.1.2.2.po)]++tS m b bm bT bo bt bi pk (V.Xw k t p (mJ (p.T,(V.ap p).mm)).1 x)) [] x.1.2.1 (Q3 (V.Xw k t p (mJ (p.T,(V.ap p).mm)).1 x) x.1.2.2.pl) w':=by
 have hkl:k<V.th.length:=(List.getElem?_eq_some_iff.1 ht).1;have hc2:(hJ.cells t)[2]?=some (pt p.bt):=by unfold hJ.cells;rw[hpr];rfl
 refine enter func17 ntmps17 rfl rfl hs ?_;simp only[bY];simp only[List.cons_append,List.nil_append];refine K1t ?_;((refine Ka4 ?_));((refine aG ?_;refine cA ?_));refine J43 ?_;((refine aG ?_;refine kZ ?_));refine dG ?_;refine aD ?_;(refine kT 18 (λ g18=>?_) (λ g18=>?_)<;>(try ((exfalso;omega)))<;>((refine Ka4 ?_)));((refine aG ?_;refine cA ?_));refine J6 ?_;((refine Ka4 ?_));((refine aG ?_;refine aA (cR (f:=hJ.cells) (k:=k) cL (by decide) rf rf fU cW (.own .head) hkl hkl) rfl ?_));((refine aG ?_;refine aK (cV (v:=.bool false) (hc:=λ w1 hw=>by rw[show(false:Bool)=decide (t.ops.length<=t.idx) by simp;omega];exact vN (hw.cl (.own .head)) ht)) (λ x25=>?_)));refine Kc2 ?_;refine aX (λ c26=>?_) (λ c26=>?_);·exact nv c26
 ·try (first|contradiction|(exfalso;omega))
  refine K0m ?_;refine K0j ?_;refine Fe ?_;refine aX (λ c44=>?_) (λ c44=>?_);·try (contradiction)
  ·try (first|contradiction|(exfalso;omega))
   refine K0i ?_;intro x87 h87;have hk0:x87.1.a.k≠0:=λ e=>by have:=(h87.1.1.1.kind h87.2).1.1 e;rw[hl2] at this;cases this
   refine Bz ?_;refine ai ?_;refine K0j ?_;refine aK (cV (v:=.bool (x87.1.a.k==0)) (hc:=λ w1 hw=>uH (hw.st.at bU))) (λ x92=>?_);refine aC ?_;refine aX (λ c92=>?_) (λ c92=>?_);·try (contradiction)
   ·try (first|contradiction|(exfalso;omega))
    refine bD ?_;refine cC ?_;refine aP results17 (λ w hw=>?_);exact⟨(x87,IntKind.i64.wrap (V.iD+1)),rfl,vP h87.1,by simp only[tS,Ju,mcC,Q3,MV.Xw,List.cons_append,List.nil_append,List.length_set];rw[show qn (V.th.set k (t.Xw p (mJ (p.T,(V.ap p).mm)).1 x87))=qn V.th from eb ht (by unfold hJ.cells;rw[hpr];rfl)];exact hw.ret E0f (aT.bA λ f hf=>by simpa using hf) E0f⟩
end
end
section
section
variable{D:List Nat}{A B:Fr}{b bT bm m bo bt bi k:Nat}{w:World}{pk:Option Addr×Nat×Nat}{V:MV}{t:hJ}{p:PrV}{r:Rs}{q:Nat}{e:kX}
abbrev MV.fin(V:MV)(k:Nat)(t:hJ)(q:Nat)(e:kX)(r:Rs)(x:(Cd×Fr×AS)×Option Addr×Nat×Int):MV :=⟨x.1.2.2,V.es.set q ⟨e.n,e.kind,true,e.born⟩,V.ec,V.th.set k ⟨t.op,t.oc,t.ops,t.idx+1,none⟩,V.tp,V.tc,V.hi++[⟨k,t.idx,true,Kh r⟩],x.2.1,x.2.2.1,x.2.2.2,x.1.2.1++V.B⟩
set_option maxRecDepth 100000 in
theorem o9(hk8:k<8)(ht:V.th[k]?=some t)(hpr:t.pr=some p)(hi:t.idx<t.ops.length)(hi16:t.idx<16)(hf:kH V.es (kR k t.idx) 0=some (q,e))(hfin:e.fin=false)(hkd:e.kind=1∨e.kind=2∨e.kind=3∨e.kind=4∨e.kind=10∨e.kind=7)(hr:dZ b p.T (V.ap p).mm p.c (V.ap p).mm V.B)(ha:fB p.T=true)(hlv:p.T.live=true)(hns:(mJ (p.T,(V.ap p).mm)).1≠.stuck)(hd:(mJ (p.T,(V.ap p).mm)).1=.done r)(hn:p.n<1000000000)(ok:V.a.Ok)(hm:V.a.mm.gM)(hA:∀f∈cH V.a.L,f∈A)(hB:∀x∈V.B,x∈A)(hhl:V.hi.length<=1000000)(hs:SF w D ([(p.bt,tO b p.c p.n),(p.u,p.po)]++tS m b bm bT bo bt bi pk V) A [] (Q3 V p.pl) w) :
    Calls prog 17 #[pt bm,.int .i64 (k:Int)] w λ en w'=>∃x:(Cd×Fr×AS)×Option Addr×Nat×Int,en=.returned (.bool true)/\qz b (mJ (p.T,(V.ap p).mm)).1 (mJ (p.T,(V.ap p).mm)).2 (V.ap p) V.B x.1/\SF w D (tS m b bm bT bo bt bi pk (V.fin k t q e r x)) [] x.1.2.1 (xD (V.fin k t q e r x)) w':=by
     have hkl:k<V.th.length:=(List.getElem?_eq_some_iff.1 ht).1;have hc2:(hJ.cells t)[2]?=some (pt p.bt):=by unfold hJ.cells;rw[hpr];rfl
     refine enter func17 ntmps17 rfl rfl hs ?_;simp only[bY];simp only[List.cons_append,List.nil_append];refine K1t ?_;((refine Ka4 ?_));((refine aG ?_;refine cA ?_));refine J43 ?_;((refine aG ?_;refine kZ ?_));refine dG ?_;refine aD ?_;(refine kT 18 (λ g18=>?_) (λ g18=>?_)<;>(try ((exfalso;omega)))<;>((refine Ka4 ?_)));((refine aG ?_;refine cA ?_));refine J6 ?_;((refine Ka4 ?_));((refine aG ?_;refine aA (cR (f:=hJ.cells) (k:=k) cL (by decide) rf rf fU cW (.own .head) hkl hkl) rfl ?_));((refine aG ?_;refine aK (cV (v:=.bool false) (hc:=λ w1 hw=>by rw[show(false:Bool)=decide (t.ops.length<=t.idx) by simp;omega];exact vN (hw.cl (.own .head)) ht)) (λ x25=>?_)));refine Kc2 ?_;refine aX (λ c26=>?_) (λ c26=>?_);·exact nv c26
     ·try (first|contradiction|(exfalso;omega))
      refine K0m ?_;refine K0j ?_;refine Fe ?_;refine aX (λ c44=>?_) (λ c44=>?_);·try (contradiction)
      ·try (first|contradiction|(exfalso;omega))
       refine K0i ?_;intro x87 h87;have hcd:x87.1=eS r:=by have h1:=h87.1.1.1;rw[hd] at h1;exact h1.2
       refine Bz ?_;refine ai ?_;refine K0j ?_;refine aK (cV (v:=.bool true) (hc:=λ w1 hw=>by have h1:=uH (hw.st.at bU);rw[hcd] at h1;exact h1)) (λ x92=>?_);refine aC ?_;refine aX (λ c92=>?_) (λ c92=>?_)
       ·try (first|contradiction|(exfalso;omega))
        refine aU ?_;refine wK [6,93,94,95,96,97,98,99,100,101,102,103,104,105,106,107] (λ j:Nat=>[(6,.pointer (some ⟨j,0,none⟩))]) (λ _=>True) (λ j=>[(j,.cells ⟨(Kh r).cells⟩ 74 (0,0)),(p.bt,tO b x87.1 (p.n+1)),(x87.2.2.u,x87.2.2.po),(bm,.cells ⟨[pt b,pt bT,.slice V.tp V.th.length V.tc,.slice pk.1 pk.2.1 pk.2.2,.slice V.hp V.hi.length V.hc,.int .i64 (IntKind.i64.wrap (V.iD+1))]⟩ 56 (0,0)),(bT,qX b m bo bt bi),(bo,bV ((V.es.set q (⟨e.n,e.kind,true,e.born⟩:kX)).map (kX.e t3)) V.ec),(bt,bV (Jb t3) 1),(b,cX x87.2.2)]) (λ _=>x87.2.1) (λ _=>[⟨V.tp,qn V.th,V.tc,83,3⟩,⟨V.hp,Uo V.hi,V.hc,76,11⟩]++hU x87.2.2) (by decide) (λ _=>by exact rfl) ?_ (λ j f hx=>?_)
        ·refine oG (.one 0 [] (.one 1 [] (.one 2 [] (.one 3 [] (.one 4 [] (.one 5 [] (.one 6 [] (.one 7 [] (.one 8 [] (.one 9 [] (.one 10 [] (.one 11 [] (.one 12 [] (.two 13 [3,8] (.two 14 [] (.one 15 [3,8,12] (.one 16 [] .nil)) 0 [] (.two 15 [3,8,12] (.one 14 [] (.one 16 [] .nil)) 0 [] .nil)) 0 [] (.two 15 [3,8,12] (.one 13 [3,8] (.one 14 [] (.one 16 [] .nil))) 0 [] .nil))))))))))))))) ?_;refine nZ ?_;refine aR ?_;refine J9 ?_;refine bI (i:=8) (hq:=(dM (f:=hJ.cells) (j:=1) cL rf iH (.own .head) ht rfl)) (h:=?_);refine J9 ?_;refine bI (i:=12) (hq:=(dM (f:=hJ.cells) (j:=2) (v:=pt p.bt) cL rf iH (.own .head) ht hc2)) (h:=?_);refine nR (E:=[13,15]) (by decide +kernel) ((.cons ?_ (.cons ?_ .nil)))
         ·refine rE (i:=13) (hq:=(cV (v:=.agg ⟨r.cells⟩) (hc:=λ w1 hw=>by have h1:=He (hw.st.at bU);rw[hcd] at h1;exact h1))) (hfire:=(λ _=>by((repeat (first|exact aS.nil|refine aS.cons (by first|exact fR|exact fO (hq:=dM (f:=hJ.cells) (j:=1) cL rf iH (.own .head) ht rfl)) ?_));done))) (h:=λ x106=>?_);refine nR (E:=[14,15]) (by decide +kernel) ((.cons ?_ (.cons ?_ .nil)));·refine Ch (i:=14) (hq:=(cM (φ:=λ _=>True) (V:=λ _:Unit=>.agg ⟨(Kh r).cells⟩) (hs:=[(bT,qX b m bo bt bi),(bo,bV (V.es.map (kX.e t3)) V.ec)]) (os:=[]) (A0:=[]) (hs':=λ _=>[(bT,qX b m bo bt bi),(bo,bV ((V.es.set q (⟨e.n,e.kind,true,e.born⟩:kX)).map (kX.e t3)) V.ec)]) (os':=λ _=>[]) (Fc:=λ _=>[]) (hc:=λ w1 hw=>(zA hk8 hi16 hf hfin hkd hw).mono λ _ _ ⟨e,h⟩=>⟨(),e,trivial,h⟩))) (h:=λ x107 h107=>?_);refine sN (hfire:=E0j) (h:=λ x6=>?_);refine K0n ?_;·trivial
          ·refine Mh (i:=15) (hfire:=E0j) (h:=λ x6=>?_);refine bS (i:=14) (hq:=(cM (φ:=λ _=>True) (V:=λ _:Unit=>.agg ⟨(Kh r).cells⟩) (hs:=[(bT,qX b m bo bt bi),(bo,bV (V.es.map (kX.e t3)) V.ec)]) (os:=[]) (A0:=[]) (hs':=λ _=>[(bT,qX b m bo bt bi),(bo,bV ((V.es.set q (⟨e.n,e.kind,true,e.born⟩:kX)).map (kX.e t3)) V.ec)]) (os':=λ _=>[]) (Fc:=λ _=>[]) (hc:=λ w1 hw=>(zA hk8 hi16 hf hfin hkd hw).mono λ _ _ ⟨e,h⟩=>⟨(),e,trivial,h⟩))) (h:=λ x107 h107=>?_);refine K0n ?_;·trivial
         ·refine Mh (i:=15) (hfire:=E0j) (h:=λ x6=>?_);refine cB (i:=13) (hq:=(cV (v:=.agg ⟨r.cells⟩) (hc:=λ w1 hw=>by have h1:=He (hw.st.at bU);rw[hcd] at h1;exact h1))) (hfire:=(λ _=>by((repeat (first|exact aS.nil|refine aS.cons (by first|exact fR|exact fO (hq:=dM (f:=hJ.cells) (j:=1) cL rf iH (.own .head) ht rfl)) ?_));done))) (h:=λ x106=>?_);refine bS (i:=14) (hq:=(cM (φ:=λ _=>True) (V:=λ _:Unit=>.agg ⟨(Kh r).cells⟩) (hs:=[(bT,qX b m bo bt bi),(bo,bV (V.es.map (kX.e t3)) V.ec)]) (os:=[]) (A0:=[]) (hs':=λ _=>[(bT,qX b m bo bt bi),(bo,bV ((V.es.set q (⟨e.n,e.kind,true,e.born⟩:kX)).map (kX.e t3)) V.ec)]) (os':=λ _=>[]) (Fc:=λ _=>[]) (hc:=λ w1 hw=>(zA hk8 hi16 hf hfin hkd hw).mono λ _ _ ⟨e,h⟩=>⟨(),e,trivial,h⟩))) (h:=λ x107 h107=>?_);refine K0n ?_;·trivial
        refine K0a ?_;refine aU ?_;refine eQ [(0,[]),(1,[]),(2,[]),(3,[]),(4,[]),(5,[]),(6,[]),(7,[]),(8,[]),(9,[]),(10,[]),(11,[]),(12,[4]),(13,[]),(14,[]),(15,[]),(16,[])] ?_;refine K0z ?_;refine cJ ?_;refine kD ?_;refine cB (i:=12) (hq:=E0t) (h:=λ x120=>?_);((refine cB (i:=13) (hq:=(aQ.eG (wP (f:=gE.cells) (v1:=⟨k,t.idx,true,Kh r⟩) mS (by decide) rfl rf rf (.tail .head) rfl (.new .head) rC rfl fU (by omega)) nM)) (h:=λ x121=>?_);try (refine iV (λ h121=>?_))));refine fy ?_;refine ai ?_;refine aM (aQ.iN (qV (f:=hJ.cells) (j:=2) (v1:=⟨t.op,t.oc,t.ops,t.idx,none⟩) cL rf rf rfl iH tD ht (by decide) rfl) nM) (λ _=>?_);refine aC ?_;refine Js ?_;refine Yn ?_;refine aA (dM (f:=hJ.cells) (j:=1) (v0:=⟨t.op,t.oc,t.ops,t.idx,none⟩) cL rf iH (.own .head) E1j rfl) rfl ?_;refine aA (Fq (k:=t.idx) rf rf (by omega)) rfl ?_;refine Yn ?_;refine aM (aQ.iN (qV (f:=hJ.cells) (j:=1) (v0:=⟨t.op,t.oc,t.ops,t.idx,none⟩) (v1:=⟨t.op,t.oc,t.ops,t.idx+1,none⟩) cL rf rf rfl iH tD E1j (by decide) rfl) nM) (λ _=>?_);refine aC ?_;refine cC ?_;refine aP results17 (λ w hw=>?_);exact⟨(x87,x121.1,x121.2,IntKind.i64.wrap (V.iD+1)),rfl,vP h87.1,by simp only[tS,Ju,mcC,xD,MV.fin,List.length_set,List.length_append,List.length_cons,List.length_nil];rw[List.set_set] at hw;exact hw.ret E0a (aT.bA λ f hf=>by simp[hf]) E0d⟩
       ·exact nv c92
end
end
end Go.Proofs.YthblobahelfefaaGreatDoor
namespace Go.Ct
open Go Go.RowKit
section
section
variable{α β:Type}
theorem mT.pre:∀(es r:List α),mT (es++r) (List.replicate es.length 0) es r
 | [],r=>.nil
 | a::es,r=>.cons .head (mT.pre es r)
theorem zX{f:α->List β}{l:List α}{k:Nat}{t:α}(hk:l[k]?=some t):(l.flatMap f).Perm (f t++(l.eraseIdx k).flatMap f):=by
 obtain⟨h,rfl⟩:=List.getElem?_eq_some_iff.1 hk;have e:l=l.take k++l[k]::l.drop (k+1):=by rw[<- List.drop_eq_getElem_cons h,List.take_append_drop]
 rw[List.eraseIdx_eq_take_drop_succ];conv=>lhs;rw[e]
 rw[List.flatMap_append,List.flatMap_cons,List.flatMap_append,<- List.append_assoc,<- List.append_assoc];exact List.Perm.append_right _ List.perm_append_comm
theorem Cj{f:α->List β}{l:List α}{k:Nat}{t:α}(hk:l[k]?=some t)(t':α):((l.set k t').flatMap f).Perm (f t'++(l.eraseIdx k).flatMap f):=by have h:=(List.getElem?_eq_some_iff.1 hk).1;have:=zX (f:=f) (l:=l.set k t') (k:=k) (t:=t') (by rw[List.getElem?_set_self h]);rwa [List.eraseIdx_set_eq] at this
end
theorem Bv{P:Program}{f:FuncId}{vs:Array Value}{X:Type}{V:X->Value}{φ:X->Prop}{w0 w:World}{M:List Nat}{H hs H':List (Nat×Obj)}{A A0 F:Fr}{O os O':List Ow}{hs':X->List (Nat×Obj)}{os':X->List Ow}{Fc:X->Fr}
  (h:SF w0 M H A F O w) (pH:H.Perm (hs++H')) (pO:O.Perm (os++O')) (hA:bL A F O' A0)
  (hc:SF w (Ks hs os) hs A0 [] os w->Calls P f vs w λ e w'=>∃x,e=.returned (V x)/\φ x/\SF w (Ks hs os) (hs' x) [] (Fc x) (os' x) w') :
  Calls P f vs w λ e w'=>∃x,e=.returned (V x)/\φ x/\SF w0 M (hs' x++H') A (Fc x++F) (os' x++O') w':=by
 have h1:=h.perm pH.symm pO.symm;refine(hc (h1.qT (mT.pre hs H') (mT.pre os O') hA)).mono λ e w' ⟨x,e1,hx,hw⟩=>⟨x,e1,hx,?_⟩
 have kperm:∀(a c:List (Nat×Obj)) (b d:List Ow),(Ks (a++c) (b++d)).Perm (Ks a b++Ks c d):=λ a c b d=>by unfold Ks;rw[List.map_append,List.flatMap_append];simp only[List.append_assoc];refine List.Perm.append_left _ ?_;rw[<- List.append_assoc,<- List.append_assoc];exact List.Perm.append_right _ List.perm_append_comm
 have nd0:=(kperm hs H' os O').nodup_iff.1 h1.dis;have disj:∀b∈Ks hs os,b∉Ks H' O':=λ b hb hm=>(List.nodup_append.1 nd0).2.2 b hb b hm rfl
 exact h1.Wo (D:=Ks hs os) (Hm:=[]) (Hc:=hs' x) (H1:=H') (Fc:=Fc x) (Om:=[]) (Oc:=os' x) (O1:=O') hw (λ b hb=>(kperm hs H' os O').mem_iff.2 (List.mem_append_left _ hb))
  (λ p hpm=>.inr ⟨List.mem_append_right _ hpm,λ hm=>disj _ hm (dX.2 (.inl ⟨p,hpm,rfl⟩))⟩)
  (λ o ho=>.inr ⟨List.mem_append_right _ ho,λ b hb hm=>disj _ hm (dX.2 (.inr ⟨o,ho,hb⟩))⟩)
  (List.nodup_append.1 nd0).2.1
end
end Go.Ct
namespace Go.Proofs.YthblobahelfefaaGreatDoor
open Go.Proofs.Tryz
open Go Go.RowKit Go.Ct
section
def AM.iE(Z:AM):Bool:=Z.th.all λ t=>decide (t.ops.length<=t.idx)
def D7(m n r:Nat):Nat->AM->AM
 | 0,Z=>Z
 | i+1,Z=>fF m ((r+i)%n) (D7 m n r i Z)
theorem rB(m n r:Nat)(Z:AM):∀i,D7 m n r (i+1) Z=D7 m n (r+1) i (fF m (r%n) Z)
 | 0=>rfl
 | i+1=>by show fF m ((r+(i+1))%n) (D7 m n r (i+1) Z)=fF m ((r+1+i)%n) (D7 m n (r+1) i (fF m (r%n) Z));rw[rB m n r Z i,show r+(i+1)=r+1+i by omega]
def oD(m:Nat):List Nat->AM->AM
 | [],Z=>Z
 | k::l,Z=>oD m l (fF m k Z)
theorem Lv(m:Nat):∀(l:List Nat) (k:Nat) (Z:AM),oD m (l++[k]) Z=fF m k (oD m l Z)
 | [],_,_=>rfl
 | j::l,k,Z=>Lv m l k (fF m j Z)
end
section
section
variable{b C k m:Nat}{Z:AM}{V:MV}{t:hJ}{p:PrV}{o:kA}{a a':AS}{F:Fr}{es:List kX}
variable{B:Fr}{t' x:hJ}{j:Nat}
theorem MI.mono(h:MI b C Z V):MI b (C+1) Z V:=⟨h.ok,h.up,h.th,h.hist,h.tb,λ t ht p hp=>by obtain⟨h1,h2,h3,h4⟩:=h.pr t ht p hp;exact⟨h1,h2,h3,by omega⟩,h.fam,h.fo,h.oo,h.tl,by have:=h.hl;omega⟩
theorem Oq(g:a.eC a' F)(h:dZ b p.T (a.mm.wp ((p.u,p.po),p.pl)) p.c (a.mm.wp ((p.u,p.po),p.pl)) B/\fB p.T=true/\p.T.live=true/\p.n<=C):dZ b p.T (a'.mm.wp ((p.u,p.po),p.pl)) p.c (a'.mm.wp ((p.u,p.po),p.pl)) (F++B)/\fB p.T=true/\p.T.live=true/\p.n<=C+1 :=⟨dZ.more (h.1.le h.2.1 (s1:=a'.mm.wp ((p.u,p.po),p.pl)) ⟨⟨g.le.nodes,g.le.cl⟩,rfl⟩) λ _ hx=>List.mem_append_right _ hx,h.2.1,h.2.2.1,by omega⟩
theorem G8(g:a.eC a' F)(h:∀f∈cH a.L,f.2=[]∨f∈B):∀f∈cH a'.L,f.2=[]∨f∈F++B:=λ f hf=>by
 rcases g.fam f hf with h1|h1|h1;·exact .inl h1
 ·exact(h f h1).imp_right λ h=>List.mem_append_right _ h
 ·exact .inr (List.mem_append_left _ h1)
theorem oI{l:List hJ}(hx:x∈l.set k t'):x∈l∨x=t':=List.mem_or_eq_of_mem_set hx
theorem Ui{l:List hJ}(hk:k<l.length)(h:(l.set k t')[j]?=some x):(j=k/\x=t')∨(j≠k/\l[j]?=some x):=by
 rw[List.getElem?_set] at h;by_cases e:k=j;·subst e;rw[if_pos rfl,if_pos hk] at h;injection h with h;exact .inl ⟨rfl,h.symm⟩
 ·rw[if_neg e] at h;exact .inr ⟨λ e2=>e e2.symm,h⟩
theorem Jt.eH{es es':List kX}(hj:j≠k)(h:Jt es j t)(ho:t.ops.length<=16)(hi:t.pr≠none->t.idx<t.ops.length)(he:∀i,i<16->kH es' (kR j i) 0=kH es (kR j i) 0):Jt es' j t:=by
 unfold Jt at *;cases hp:t.pr with
 | none=>rw[hp] at h;exact λ i h1 h2=>(he i h2).trans (h i h1 h2)
 | some p=>rw[hp] at h;obtain⟨⟨q,e,h1,h2,h3⟩,h4⟩:=h;have:=hi (by rw[hp];exact λ e=>nomatch e);exact⟨⟨q,e,(he t.idx (by omega)).trans h1,h2,h3⟩,λ i h5 h6=>(he i h6).trans (h4 i h5 h6)⟩
theorem ae(hth:V.th.map hJ.abs=Z.th)(ht:V.th[k]?=some t)(hpr:t.pr=none)(hop:t.ops[t.idx]?=some o):fF m k Z=⟨Z.s,Z.th.set k ⟨t.ops,t.idx,some (nL m o)⟩,Z.hist++[⟨k,t.idx,false,Rs.zero⟩]⟩:=by
 have h1:Z.th[k]?=some ⟨t.ops,t.idx,none⟩:=by rw[<- hth,List.getElem?_map,ht];show some t.abs=_;unfold hJ.abs;rw[hpr];rfl
 unfold fF;rw[h1];show(match t.ops[t.idx]? with|none=>Z|some o=>_)=_;rw[hop];show uL Z k _ (Ct.iR (nL m o) Z.s) _=_;rw[rL,sA (Ij m o)]
theorem MI.new{x:(Nat×Cd×Fr×AS)×Option Addr×Nat×Int}(h:MI b C Z V)(hk8:k<8)(ht:V.th[k]?=some t)(hpr:t.pr=none)(hop:t.ops[t.idx]?=some o)(hq:qz b (nL m o) V.a.mm V.a V.B x.1.2):MI b (C+1) (fF m k Z) (V.Ww k t o.kind (nL m o) x):=by
 rw[ae h.th ht hpr hop];obtain⟨q1,q2,q3,q4⟩:=hq;have htm:t∈V.th:=List.mem_of_getElem? ht;have hkl:=(List.getElem?_eq_some_iff.1 ht).1;obtain⟨o1,o2,o3,o4⟩:=h.oo t htm
 refine K1w ?_;intro hil;have hoo:=o4 o (List.mem_of_getElem? hop);have htb:=h.tb k t ht;unfold Jt at htb;rw[hpr] at htb;refine⟨q3,?_,?_,?_,λ j u hu=>?_,λ u hu p hp=>?_,G8 q4 h.fam,λ u hu=>?_,λ u hu=>?_,by simpa using h.tl,?_⟩
 ·show x.1.2.2.2.mm=_;rw[q2,h.up]
 ·show(V.th.set k _).map hJ.abs=_;rw[List.map_set,h.th];rfl
 ·show V.hi++_=_;rw[h.hist]
 ·rcases Ui hkl hu with⟨rfl,rfl⟩|⟨hj,hu⟩
  ·refine⟨⟨V.es.length,⟨kR j t.idx,o.kind,false,V.ec⟩,?_,rfl,hoo.kind⟩,λ i h1 h2=>?_⟩;·show kH (V.es++[_]) (kR j t.idx) 0=_;rw[Bq,htb t.idx (Nat.le_refl _) (by omega),if_pos rfl];simp
   ·show kH (V.es++[_]) (kR j i) 0=_;have h1':t.idx<i:=h1;rw[Bq,htb i (by omega) h2,if_neg (λ e=>by have e':kR j t.idx=kR j i:=e;have:=Bk (by omega) h2 e';omega)];rfl
  ·obtain⟨u1,u2,u3,_⟩:=h.oo u (List.mem_of_getElem? hu);refine(h.tb j u hu).eH (k:=k) hj u1 u3 λ i hi=>?_;show kH (V.es++[_]) (kR j i) 0=_;rw[Bq,if_neg (λ e=>by have e':kR k t.idx=kR j i:=e;have:=Bk (by omega) hi e';exact hj this.1.symm),Option.or_none]
 ·rcases oI hu with hu|rfl;·exact Oq q4 (h.pr u hu p hp)
  ·cases hp;exact⟨q1,Gw m o,Ij m o,Nat.zero_le _⟩
 ·rcases oI hu with hu|rfl;·exact List.mem_append_right _ (h.fo u hu)
  ·exact List.mem_append_right _ (h.fo t htm)
 ·rcases oI hu with hu|rfl;·exact h.oo u hu
  ·exact⟨o1,o2,λ _=>hil,o4⟩
 ·have:=h.hl;show(V.hi++[_]).length<=_;simp only[List.length_append,List.length_cons,List.length_nil];omega
theorem aE0(h:MI b C Z V):(V.ap p).mm=Z.s.wp ((p.u,p.po),p.pl):=by show V.a.mm.wp ((p.u,p.po),p.pl)=_;rw[h.up]
theorem Cg(h:MI b C Z V)(T:Tr):mJ (T,(V.ap p).mm)=((mJ (T,Z.s)).1,(mJ (T,Z.s)).2.wp ((p.u,p.po),p.pl)):=by rw[aE0 h];exact aDc _ _ _
theorem Gp(hth:V.th.map hJ.abs=Z.th)(ht:V.th[k]?=some t)(hpr:t.pr=some p)(hop:t.ops[t.idx]?=some o):fF m k Z=uL Z k ⟨t.ops,t.idx,some p.T⟩ (mJ (p.T,Z.s)) Z.hist:=by
 have h1:Z.th[k]?=some ⟨t.ops,t.idx,some p.T⟩:=by rw[<- hth,List.getElem?_map,ht];show some t.abs=_;unfold hJ.abs;rw[hpr];rfl
 unfold fF;rw[h1];show(match t.ops[t.idx]? with|none=>Z|some o=>_)=_;rw[hop]
theorem MI.Xw{x:(Cd×Fr×AS)×Int}(h:MI b C Z V)(ht:V.th[k]?=some t)(hpr:t.pr=some p)(hop:t.ops[t.idx]?=some o)(hl2:(mJ (p.T,Z.s)).1.live=true)(har:fB (mJ (p.T,Z.s)).1=true)(hq:qz b (mJ (p.T,(V.ap p).mm)).1 (mJ (p.T,(V.ap p).mm)).2 (V.ap p) V.B x.1):MI b (C+1) (fF m k Z) (V.Xw k t p (mJ (p.T,(V.ap p).mm)).1 x):=by
 rw[Gp h.th ht hpr hop,sA hl2];rw[Cg h] at hq;simp only[Cg h];obtain⟨q1,q2,q3,q4'⟩:=hq;have q4:V.a.eC x.1.2.2 x.1.2.1:=⟨⟨q4'.le.nodes,q4'.le.cl⟩,q4'.fam⟩;have htm:t∈V.th:=List.mem_of_getElem? ht;have hkl:=(List.getElem?_eq_some_iff.1 ht).1;obtain⟨o1,o2,o3,o4⟩:=h.oo t htm
 refine K1w ?_;intro hil;have htb:=h.tb k t ht;obtain⟨_,_,_,p4⟩:=h.pr t htm p hpr
 refine⟨q3,q2,?_,h.hist,λ j u hu=>?_,λ u hu p' hp=>?_,G8 q4 h.fam,λ u hu=>?_,λ u hu=>?_,by simpa using h.tl,?_⟩;·show(V.th.set k _).map hJ.abs=_;rw[List.map_set,h.th];rfl
 ·rcases Ui hkl hu with⟨rfl,rfl⟩|⟨hj,hu⟩;·unfold Jt at htb ⊢;rw[hpr] at htb;exact htb
  ·exact h.tb j u hu
 ·rcases oI hu with hu|rfl;·exact Oq q4 (h.pr u hu p' hp)
  ·cases hp;exact⟨q1,har,hl2,by show p.n+1<=_;omega⟩
 ·rcases oI hu with hu|rfl;·exact List.mem_append_right _ (h.fo u hu)
  ·exact List.mem_append_right _ (h.fo t htm)
 ·rcases oI hu with hu|rfl;·exact h.oo u hu
  ·exact⟨o1,o2,λ _=>hil,o4⟩
 ·have:=h.hl;show V.hi.length<=_;omega
theorem MI.fin{x:(Cd×Fr×AS)×Option Addr×Nat×Int}{q:Nat}{e:kX}{r:Rs}(h:MI b C Z V)(ht:V.th[k]?=some t)(hpr:t.pr=some p)(hop:t.ops[t.idx]?=some o)(hd:(mJ (p.T,Z.s)).1=.done r)(hf:kH V.es (kR k t.idx) 0=some (q,e))(hq:qz b (mJ (p.T,(V.ap p).mm)).1 (mJ (p.T,(V.ap p).mm)).2 (V.ap p) V.B x.1):MI b (C+1) (fF m k Z) (V.fin k t q e r x):=by
 rw[Gp h.th ht hpr hop,Ga hd];rw[Cg h] at hq;obtain⟨q1,q2,q3,q4'⟩:=hq;have q4:V.a.eC x.1.2.2 x.1.2.1:=⟨⟨q4'.le.nodes,q4'.le.cl⟩,q4'.fam⟩;have htm:t∈V.th:=List.mem_of_getElem? ht;have hkl:=(List.getElem?_eq_some_iff.1 ht).1;obtain⟨o1,o2,o3,o4⟩:=h.oo t htm
 refine K1w ?_;intro hil;have htb:=h.tb k t ht;unfold Jt at htb;rw[hpr] at htb;obtain⟨hen,_,_⟩:=E2 hf
 have hset:∀n',kH (V.es.set q ⟨e.n,e.kind,true,e.born⟩) n' 0=if n'=kR k t.idx then some (q,⟨e.n,e.kind,true,e.born⟩) else kH V.es n' 0:=λ n'=>by have:=Qv hf (e':=⟨e.n,e.kind,true,e.born⟩) hen n';rwa [Nat.sub_zero] at this
 refine⟨q3,q2,?_,?_,λ j u hu=>?_,λ u hu p' hp=>?_,G8 q4 h.fam,λ u hu=>?_,λ u hu=>?_,by simpa using h.tl,?_⟩;·show(V.th.set k _).map hJ.abs=_;rw[List.map_set,h.th];rfl
 ·show V.hi++_=_;rw[h.hist]
 ·rcases Ui hkl hu with⟨rfl,rfl⟩|⟨hj,hu⟩;·intro i h1 h2;have h1':t.idx+1<=i:=h1;show kH (V.es.set q _) (kR j i) 0=none;rw[hset,if_neg (λ e2=>by have:=Bk h2 (by omega) e2;omega)];exact htb.2 i (by omega) h2
  ·obtain⟨u1,u2,u3,_⟩:=h.oo u (List.mem_of_getElem? hu);refine(h.tb j u hu).eH (k:=k) hj u1 u3 λ i hi=>?_;show kH (V.es.set q _) (kR j i) 0=_;rw[hset,if_neg (λ e2=>by have:=Bk hi (by omega) e2;exact hj this.1)]
 ·rcases oI hu with hu|rfl;·exact Oq q4 (h.pr u hu p' hp)
  ·cases hp
 ·rcases oI hu with hu|rfl;·exact List.mem_append_right _ (h.fo u hu)
  ·exact List.mem_append_right _ (h.fo t htm)
 ·rcases oI hu with hu|rfl;·exact h.oo u hu
  ·exact⟨o1,hil,λ hne=>absurd rfl hne,o4⟩
 ·have:=h.hl;show(V.hi++[_]).length<=_;simp only[List.length_append,List.length_cons,List.length_nil];omega
end
end
section
theorem uQ:∀{t:Tr} {s:Mm},(Ct.iR t s).1≠.stuck->fB (Ct.iR t s).1=true
 | .done _,_,_=>rfl
 | .load _ _,_,_=>rfl
 | .qG _ _ _ _,_,_=>rfl
 | .alloc n i k,s,h=>uQ (t:=k ((s.nodes.length+1:Nat):Int)) (s:=s.push n i) h
 | .cell i k,s,h=>uQ (t:=k ((s.cs.length+1:Nat):Int)) (s:=⟨s.nodes,s.cs++[i],s.gen,s.pv⟩) h
 | .gen k,s,h=>uQ (t:=k (s.gen+1)) (s:=⟨s.nodes,s.cs,s.gen+1,s.pv⟩) h
 | .node r k,s,h=>uQ (t:=k (aB s.nodes r)) (s:=s) h
 | .stuck,_,h=>absurd rfl h
theorem Z7{t:Tr}(h:fB t=true):(∃r,t=.done r)∨t.live=true:=by cases t<;>first|exact .inl ⟨_,rfl⟩|exact .inr rfl 
section
variable{D:List Nat}{A:Fr}{b bT bm m bo bt bi k C:Nat}{w:World}{pk:Option Addr×Nat×Nat}{V:MV}{Z:AM}
theorem Qz(h:MI b C Z V)(hC:C<=400000)(hm0:m<18446744073709551616)(hk:k<V.th.length)(hok:Tf m k Z)(hm:Z.s.gM)(hA1:∀f∈cH V.a.L,f∈A)(hA2:∀f∈V.B,f∈A)(hs:SF w D (mcH m b bm bT bo bt bi pk V) A [] (Et V) w) :
  Calls prog 17 #[pt bm,.int .i64 (k:Int)] w λ e w'=>∃x:MV×Fr×Bool,e=.returned (.bool x.2.2)/\(MI b (C+1) (fF m k Z) x.1/\x.1.B=x.2.1++V.B)/\SF w D (mcH m b bm bT bo bt bi pk x.1) [] x.2.1 (Et x.1) w':=by
 have ht:V.th[k]?=some V.th[k]:=List.getElem?_eq_getElem hk;generalize V.th[k]=t at ht;have htm:t∈V.th:=List.mem_of_getElem? ht;obtain⟨o1,o2,o3,o4⟩:=h.oo t htm
 have hzt:Z.th[k]?=some t.abs:=by rw[<- h.th,List.getElem?_map,ht];rfl
 have hmt:V.a.mm.gM:=by rw[h.up];exact hm
 have hl8:=h.tl;have hhl:=h.hl;have hA0:∀{O':List Ow},bL A [] O' A:=bL.of λ f hf=>.inr (.inl hf);cases hop:t.ops[t.idx]? with
 | none=>
  have hd:t.ops.length<=t.idx:=List.getElem?_eq_none_iff.1 hop;have hz:fF m k Z=Z:=by unfold fF;rw[hzt];show(match t.ops[t.idx]? with|none=>Z|some o=>_)=_;rw[hop]
  refine(Bv (X:=Unit) (V:=λ _=>.bool false) (φ:=λ _=>True) (hs:=tS m b bm bT bo bt bi pk V) (H':=V.th.flatMap (N1 b)) (os:=xD V) (O':=V.th.flatMap Pc) (A0:=A) (hs':=λ _=>tS m b bm bT bo bt bi pk V) (os':=λ _=>xD V) (Fc:=λ _=>[]) hs (List.Perm.refl _) (List.Perm.refl _) hA0 (λ h1=>(aAp ht hd h1).mono λ _ _ ⟨e,hw⟩=>⟨(),e,trivial,hw⟩)).mono λ e w' ⟨_,e1,_,hw⟩=>⟨(V,[],false),e1,⟨by rw[hz];exact h.mono,rfl⟩,?_⟩;rw[List.append_nil] at hw;exact hw.u9
 | some o=>
  refine K1w ?_;intro hil;have hoo:=o4 o (List.mem_of_getElem? hop);have htb:=h.tb k t ht;unfold Jt at htb;cases hpr:t.pr with
  | none=>
   rw[hpr] at htb;refine(Bv (hs:=tS m b bm bT bo bt bi pk V) (H':=V.th.flatMap (N1 b)) (os:=xD V) (O':=V.th.flatMap Pc) (A0:=A) (os':=λ x=>x.1.2.2.2.pl::xD (V.Ww k t o.kind (nL m o) x)) (Fc:=λ x:(Nat×Cd×Fr×AS)×Option Addr×Nat×Int=>x.1.2.2.1) (V:=λ _=>.bool true) hs (List.Perm.refl _) (List.Perm.refl _) hA0 (λ h1=>jq (by omega) ht hpr hop hoo (by omega) (htb t.idx (Nat.le_refl _) (by omega)) hm0 h.ok hmt hA1 hA2 (hA2 _ (h.fo t htm)) (by omega) h1)).mono λ e w' ⟨x,e1,hq,hw⟩=>⟨(V.Ww k t o.kind (nL m o) x,x.1.2.2.1,true),e1,⟨h.new (by omega) ht hpr hop hq,rfl⟩,?_⟩;rw[List.append_nil] at hw;have p1:=zX (f:=N1 b) ht;have p2:=Cj (f:=N1 b) ht (t.Ww (nL m o) x.1);have o1:=zX (f:=Pc) ht;have o2:=Cj (f:=Pc) ht (t.Ww (nL m o) x.1);rw[show N1 b t=[] by unfold N1;rw[hpr],List.nil_append] at p1;rw[show Pc t=[] by unfold Pc;rw[hpr],List.nil_append] at o1;refine hw.u9.perm ?_ ?_
   ·refine(List.Perm.append_left _ p2).trans ?_;refine List.Perm.trans ?_ (List.Perm.append_left _ p1.symm);rw[<- List.append_assoc];exact List.perm_append_comm.append_right _
   ·refine(List.Perm.append_left (xD (V.Ww k t o.kind (nL m o) x)) o2).trans ?_;refine List.Perm.trans ?_ (List.Perm.append_left _ o1.symm);rw[<- List.append_assoc];exact(List.perm_append_comm (l₁:=xD (V.Ww k t o.kind (nL m o) x)) (l₂:=[x.1.2.2.2.pl])).append_right _
  | some p=>
   rw[hpr] at htb;obtain⟨⟨q,e0,hf,hfin,hkd⟩,_⟩:=htb;obtain⟨r1,r2,r3,r4⟩:=h.pr t htm p hpr;have hns:(mJ (p.T,Z.s)).1≠.stuck:=by have:=hok t.abs o hzt hop;unfold hJ.abs at this;rw[hpr] at this;exact this
   have hns2:(mJ (p.T,(V.ap p).mm)).1≠.stuck:=by rw[Cg h];exact hns
   have har:fB (mJ (p.T,Z.s)).1=true:=uQ hns;have pH:(mcH m b bm bT bo bt bi pk V).Perm (([(p.bt,tO b p.c p.n),(p.u,p.po)]++tS m b bm bT bo bt bi pk V)++(V.th.eraseIdx k).flatMap (N1 b)):=by have p1:=zX (f:=N1 b) ht;rw[show N1 b t=[(p.bt,tO b p.c p.n),(p.u,p.po)] by unfold N1;rw[hpr]] at p1;refine(List.Perm.append_left _ p1).trans ?_;rw[<- List.append_assoc];exact List.perm_append_comm.append_right _
   have pO:(Et V).Perm (Q3 V p.pl++(V.th.eraseIdx k).flatMap Pc):=by have o1:=zX (f:=Pc) ht;rw[show Pc t=[p.pl] by unfold Pc;rw[hpr]] at o1;refine(List.Perm.append_left (xD V) o1).trans ?_;rw[<- List.append_assoc];exact(((List.perm_append_comm (l₁:=iS V.a) (l₂:=[p.pl])).cons _).cons _).append_right _
   rcases Z7 har with⟨r,hd⟩|hl2
   ·have hd2:(mJ (p.T,(V.ap p).mm)).1=.done r:=by rw[Cg h];exact hd
    refine(Bv (hs:=[(p.bt,tO b p.c p.n),(p.u,p.po)]++tS m b bm bT bo bt bi pk V) (H':=(V.th.eraseIdx k).flatMap (N1 b)) (os:=Q3 V p.pl) (O':=(V.th.eraseIdx k).flatMap Pc) (A0:=A) (os':=λ x=>xD (V.fin k t q e0 r x)) (Fc:=λ x:(Cd×Fr×AS)×Option Addr×Nat×Int=>x.1.2.1) (V:=λ _=>.bool true) hs pH pO hA0 (λ h1=>o9 (by omega) ht hpr hil (by omega) hf hfin hkd r1 r2 r3 hns2 hd2 (by omega) h.ok hmt hA1 hA2 (by omega) h1)).mono λ e w' ⟨x,e1,hq,hw⟩=>⟨(V.fin k t q e0 r x,x.1.2.1,true),e1,⟨h.fin ht hpr hop hd hf hq,rfl⟩,?_⟩;rw[List.append_nil] at hw;have p2:=Cj (f:=N1 b) ht ⟨t.op,t.oc,t.ops,t.idx+1,none⟩;have o2:=Cj (f:=Pc) ht ⟨t.op,t.oc,t.ops,t.idx+1,none⟩;exact hw.u9.perm (List.Perm.append_left _ p2) (List.Perm.append_left (xD (V.fin k t q e0 r x)) o2)
   ·have hl3:(mJ (p.T,(V.ap p).mm)).1.live=true:=by rw[Cg h];exact hl2
    refine(Bv (hs:=[(p.bt,tO b p.c p.n),(p.u,p.po)]++tS m b bm bT bo bt bi pk V) (H':=(V.th.eraseIdx k).flatMap (N1 b)) (os:=Q3 V p.pl) (O':=(V.th.eraseIdx k).flatMap Pc) (A0:=A) (os':=λ x=>Q3 (V.Xw k t p (mJ (p.T,(V.ap p).mm)).1 x) x.1.2.2.pl) (Fc:=λ x:(Cd×Fr×AS)×Int=>x.1.2.1) (V:=λ _=>.bool true) hs pH pO hA0 (λ h1=>bz ht hpr hil r1 r2 r3 hns2 hl3 (by omega) h.ok hmt hA1 hA2 h1)).mono λ e w' ⟨x,e1,hq,hw⟩=>⟨(V.Xw k t p (mJ (p.T,(V.ap p).mm)).1 x,x.1.2.1,true),e1,⟨h.Xw ht hpr hop hl2 har hq,rfl⟩,?_⟩;rw[List.append_nil] at hw;have p2:=Cj (f:=N1 b) ht (t.Xw p (mJ (p.T,(V.ap p).mm)).1 x.1);have o2:=Cj (f:=Pc) ht (t.Xw p (mJ (p.T,(V.ap p).mm)).1 x.1);refine hw.u9.perm ?_ ?_
    ·refine(List.Perm.append_left _ p2).trans ?_;rw[<- List.append_assoc];exact List.perm_append_comm.append_right _
    ·refine(List.Perm.append_left (xD (V.Xw k t p (mJ (p.T,(V.ap p).mm)).1 x)) o2).trans ?_;rw[<- List.append_assoc];exact(((List.perm_append_comm (l₁:=iS x.1.2.2) (l₂:=[x.1.2.2.pl])).cons _).cons _).append_right _
end
end
section
section
variable{S:List (Nat×Value)}{w0 w:World}{M:List Nat}{H:List (Nat×Obj)}{A F:Fr}{O:List Ow}{ty:TypeId}{pos:String}{af:Array Edge}{gd:Option (Nat×Bool)}{X:Type}{V:X->Value}
theorem cT(nH nO:Nat){φ:X->Prop}{hs:List (Nat×Obj)}{os:List Ow}{hs' H1:X->List (Nat×Obj)}{os' O1:X->List Ow}{Fc F1:X->Fr}{A0:Fr}{f:FuncId}{xs:List Operand}{at_:Array TypeId}{vs:List Value}{dst:Option Nat}
  (hc:∀w,SF w (Ks hs os) hs A0 [] os w->Calls prog f ⟨vs⟩ w λ e w'=>∃x,e=.returned (V x)/\φ x/\SF w (Ks hs os) (hs' x) [] (Fc x) (os' x) w')
  (hA:bL A F (O.take nO) A0) (hF1:∀x,φ x->∀f∈F1 x,f.2=[]∨f∈Fc x++F)
  (ha:lX S xs=vs:=by(repeat (first|exact bK _|(apply aZ;focus ((conv=>{lhs;whnf});try exact rfl))));first|done|fail) (hp:plain prog f=true:=by kernel_rfl)
  (hH:H=H.take nH++hs:=by exact rfl) (hO:O=O.take nO++os:=by exact rfl)
  (hH1:∀x,H.take nH++hs' x=H1 x:=by intro x;simp only[List.take_succ_cons,List.take_zero,List.cons_append,List.nil_append];exact rfl) (hO1:∀x,O.take nO++os' x=O1 x:=by intro x;simp only[List.take_succ_cons,List.take_zero,List.cons_append,List.nil_append];exact rfl) :
  aQ prog S (SF w0 M H A F O) ⟨dst,.call {callee:=.value (.func f),args:=⟨xs⟩,argTypes:=at_},ty,pos,af,gd⟩ X V (λ x w=>φ x/\SF w0 M (H1 x) A (F1 x) (O1 x) w) :=
 gD (lZ hp ha) λ w hw=>(Bv (H':=H.take nH) (O':=O.take nO) hw ((List.Perm.of_eq hH).trans List.perm_append_comm) ((List.Perm.of_eq hO).trans List.perm_append_comm) hA (hc w)).mono λ _ _ ⟨x,he,hx,hs⟩=>⟨x,he,hx,by have h2:=(hs.perm (H':=H1 x) (O':=O1 x) (by rw[<- hH1 x];exact List.perm_append_comm) (by rw[<- hO1 x];exact List.perm_append_comm)).db (hF1 x hx);exact h2⟩
end
end
section
def MV.iE(V:MV):Bool:=V.th.all λ t=>decide (t.ops.length<=t.idx)
section
variable{D:List Nat}{A:Fr}{b bT bm m bo bt bi k C:Nat}{w:World}{pk:Option Addr×Nat×Nat}{V:MV}{Z:AM}
theorem MI.iE(h:MI b C Z V):V.iE=Z.iE:=by unfold MV.iE AM.iE;rw[<- h.th,List.all_map];rfl
theorem MI.len(h:MI b C Z V):V.th.length=Z.th.length:=by rw[<- h.th,List.length_map]
theorem Ca(m k:Nat)(Z:AM):(fF m k Z).th.length=Z.th.length:=by
 unfold fF;cases h:Z.th[k]? with
 | none=>rfl
 | some t=>
  dsimp only;cases h2:t.ops[t.idx]? with
  | none=>rfl
  | some o=>
   dsimp only;have key:∀p l,(uL Z k t p l).th.length=Z.th.length:=λ p l=>by unfold uL;cases p.1<;>simp
   cases h3:t.pr<;>exact key _ _
theorem Ml(m n r:Nat)(Z:AM):∀i,(D7 m n r i Z).th.length=Z.th.length
 | 0=>rfl
 | i+1=>(Ca _ _ _).trans (Ml m n r Z i)
theorem Rz(hl8:V.th.length<=8)(hs:SF w D [(bm,Ju b bT pk V)] A [] (tpW V) w) :
    Calls prog 16 #[pt bm] w λ e w'=>e=.returned (.bool V.iE)/\SF w D [(bm,Ju b bT pk V)] [] [] (tpW V) w':=by
     refine enter func16 ntmps16 rfl rfl hs ?_;simp only[bY];refine kt ?_;refine zG ?_;refine Ka9 ?_;refine iI [2,3,9,10,11,12,13,14,15,16,17,18,19,20] (λ i:Nat=>[(9,.int .i64 ((i:Nat):Int))]) (λ i=>i<=V.th.length/\∀j t,j<i->V.th[j]?=some t->t.ops.length<=t.idx) (λ i=>V.th.length-i) (0) (⟨Nat.zero_le _,λ j t h=>absurd h (Nat.not_lt_zero j)⟩) ?_ (λ k f hx=>?_);·repeat (first|exact bH _|refine aY (by exact rfl) ?_)
     refine K2b ?_;refine aX (λ c10=>?_) (λ c10=>?_)
     ·have hkl:k<V.th.length:=by omega
      have ht:=List.getElem?_eq_getElem hkl;refine Kb4 ?_;refine J1 ?_;refine zG ?_;refine aD ?_;refine aA (cR (f:=hJ.cells) (k:=k) cL (by decide) rf rf fU cW (.own .head) hkl hkl) rfl ?_;refine aK (cV (v:=.bool (decide (V.th[k].ops.length<=V.th[k].idx))) (hc:=λ w1 hw=>vN (hw.cl (.own .head)) ht)) (λ x18=>?_);refine pG ?_;refine aX (λ c19=>?_) (λ c19=>?_)
      ·refine cC ?_;refine aP results16 (λ w hw=>?_);refine⟨?_,hw.ret (List.Sublist.refl _) (aT.bA λ f hf=>hf) (List.Sublist.refl _)⟩;have:V.iE=false:=by rw[Bool.eq_false_iff];intro h;unfold MV.iE at h;rw[List.all_eq_true] at h;have h2:=of_decide_eq_true (h _ (List.getElem_mem hkl));omega
       rw[this];rfl
      ·refine Kd0 ?_;refine eO (k+1) ?_ ?_ ?_;·omega
       ·repeat' (first|exact bH _|refine aY ?_ ?_)
        exact rfl
       ·refine⟨hkl,λ j t hj hjt=>?_⟩;by_cases e:j=k;·subst e;rw[ht] at hjt;cases hjt;simpa using c19
        ·exact hx.2 j t (by omega) hjt
     ·refine K1o ?_;refine cC ?_;refine aP results16 (λ w hw=>?_);refine⟨?_,hw.ret (List.Sublist.refl _) (aT.bA λ f hf=>hf) (List.Sublist.refl _)⟩;have:V.iE=true:=by unfold MV.iE;rw[List.all_eq_true];intro t ht;obtain⟨j,hj,rfl⟩:=List.getElem_of_mem ht;exact decide_eq_true (hx.2 j _ (by omega) (List.getElem?_eq_getElem hj))
      rw[this];rfl
end
end
section
section
variable{D:List Nat}{A:Fr}{b bT bm m bo bt bi k C:Nat}{w:World}{pk:Option Addr×Nat×Nat}{V:MV}{Z:AM}
abbrev mcL(m b bm bT bo bt bi:Nat)(pk:Option Addr×Nat×Nat)(V:MV):List (Nat×Obj):=(bm,Ju b bT pk V)::(bT,qX b m bo bt bi)::(bo,bV (V.es.map (kX.e t3)) V.ec)::(bt,bV (Jb t3) 1)::(b,cX V.a)::V.th.flatMap (N1 b)
theorem aA7{O:List Ow}{V':MV}{F:Fr}(h:MI b C Z V')(hB:V'.B=F++V.B)(hA2:∀f∈V.B,f∈A):bL A F O (cH V'.a.L++V'.B):=bL.of λ f hf=>by
 have key:f∈V'.B->f∈A∨f∈F:=λ hf=>by rw[hB] at hf;exact(List.mem_append.1 hf).elim .inr λ h=>.inl (hA2 f h)
 rcases List.mem_append.1 hf with hf|hf
 ·rcases h.fam f hf with h1|h1;·exact .inl h1
  ·exact .inr ((key h1).elim .inl λ h=>.inr (.inl h))
 ·exact .inr ((key hf).elim .inl λ h=>.inr (.inl h))
theorem p8{P:Program}{S:List (Nat×Value)}{G:World->Prop}{d:Nat}{ty t t':TypeId}{pos:String}{af:Array Edge}{gd:Option (Nat×Bool)}{x y:Operand}{i j c:Nat}(hx:ev S x=.int .i64 ((i:Nat):Int))(hy:ev S y=.int .i64 ((j:Nat):Int))(h0:j≠0)(hc:i%j=c):aH P S G ⟨some d,.binOp .rem t x y t',ty,pos,af,gd⟩ (.int .i64 ((c:Nat):Int)):=by have:=aBT (P:=P) (G:=G) (d:=d) (ty:=ty) (pos:=pos) (af:=af) (gd:=gd) (t:=t) (t':=t') hx hy (by omega);rwa [show((i:Nat):Int).tmod ((j:Nat):Int)=((c:Nat):Int) by rw[<- hc,Int.ofNat_tmod]] at this
set_option maxRecDepth 100000 in
theorem Kp{K most n:Nat}(h:MI b C Z V)(hn:Z.th.length=n)(hn0:0<n)(hi:∀i,i<K->(D7 m n 0 i Z).iE=false/\Tf m ((0+i)%n) (D7 m n 0 i Z)/\(D7 m n 0 i Z).s.gM)(hd:(D7 m n 0 K Z).iE=true)(hK:K<=most)(hm2:most<=4611686018427387904)(hC:C+K<=400000)(hm0:m<18446744073709551616)(hA2:∀f∈V.B,f∈A)(hs:SF w D (mcH m b bm bT bo bt bi pk V) A [] (Et V) w) :
    Calls prog 10 #[pt bm,.int .i64 (most:Int)] w λ e w'=>∃x:MV×Fr,e=.returned (.bool true)/\(MI b (C+K) (D7 m n 0 K Z) x.1/\x.1.B=x.2++V.B)/\SF w D (mcH m b bm bT bo bt bi pk x.1) [] x.2 (Et x.1) w':=by
     refine enter func10 ntmps10 rfl rfl hs ?_;simp only[bY];refine cC ?_;refine cC ?_;refine Np ?_;refine mE [1,5,6,7,8,9,10,11,12,13,14,15,16,17,18,19,20,21,22,23,24,25] (λ y:Nat×MV×Fr=>[(5,.int .i64 (((0+y.1)%n:Nat):Int)),(1,.int .i64 ((most-y.1:Nat):Int))]) (λ y=>y.1<=K/\MI b (C+y.1) (D7 m n 0 y.1 Z) y.2.1/\y.2.1.B=y.2.2++V.B) (λ y=>mcL m b bm bT bo bt bi pk y.2.1) (λ y=>y.2.2) (λ y=>Et y.2.1) (λ y=>K-y.1) ((0,V,[])) (⟨Nat.zero_le _,h,rfl⟩) (λ y f hx=>?_);refine K0a ?_;obtain⟨hy1,hy2,hy3⟩:=hx;have hlen:y.2.1.th.length=n:=by rw[hy2.len,Ml,hn]
     have hl8:=hy2.tl;have hdn:=hy2.iE;have hmod:=Nat.mod_lt (0+y.1) hn0;refine jF ?_;refine Bs ?_;refine aD ?_;(refine kT 8 (λ g8=>?_) (λ g8=>?_)<;>refine Ka0 ?_);all_goals ((first|refine bG ?_|(refine aG ?_;refine aJ (cM (φ:=λ _=>True) (V:=λ _:Unit=>.bool y.2.1.iE) (hs:=[(bm,Ju b bT pk y.2.1)]) (os:=tpW y.2.1) (A0:=[]) (hs':=λ _=>[(bm,Ju b bT pk y.2.1)]) (os':=λ _=>tpW y.2.1) (Fc:=λ _=>[]) (hc:=λ w1 hw=>(Rz hl8 hw).mono λ _ _ ⟨e,h⟩=>⟨(),e,trivial,h⟩)) (λ x10 h10=>?_)));refine y7 ?_;refine aC ?_)
     all_goals
      refine aX (λ c12=>?_) (λ c12=>?_)
      ·try exact nv c12
       all_goals
        have hyK:y.1<K:=by
         rcases Nat.lt_or_ge y.1 K with h|h;·exact h
         ·have e:y.1=K:=by omega
          rw[e,hd] at hdn;rw[hdn] at c12;cases c12
       all_goals (refine tG ?_;refine lV ?_;refine aJ (cT 0 0 (hs:=mcL m b bm bT bo bt bi pk y.2.1) (os:=Et y.2.1) (A0:=cH y.2.1.a.L++y.2.1.B) (V:=λ x:MV×Fr×Bool=>.bool x.2.2) (F1:=λ x:MV×Fr×Bool=>x.2.1++y.2.2) (hc:=λ w1 hw=>Qz (k:=(0+y.1)%n) hy2 (by omega) hm0 (by rw[hlen];exact hmod) (hi y.1 hyK).2.1 (hi y.1 hyK).2.2 (λ f hf=>List.mem_append_left _ hf) (λ f hf=>List.mem_append_right _ hf) hw) (hA:=aA7 hy2 hy3 hA2) (hF1:=λ x hx f hf=>.inr hf)) (λ x17 h17=>?_))
       all_goals
        have hlen2:x17.1.th.length=n:=by rw[h17.1.len,Ca,Ml,hn]
        have hmq:((0+y.1)%n+1)%x17.1.th.length=(0+(y.1+1))%n:=by rw[hlen2,Nat.mod_add_mod,Nat.add_assoc]
       all_goals (refine aC ?_;refine J57 ?_;refine aD ?_;refine cA ?_;refine J85 ?_;refine aA (p8 (c:=(0+(y.1+1))%n) rf rf (by omega) hmq) rfl ?_;refine J1 ?_;refine eX ?_;refine Js ?_;refine Xi ?_;refine J1 ?_)
       all_goals refine nS ((y.1+1,x17.1,x17.2.1++y.2.2)) ?_ (hw1:=λ w hw=>hw.v6);·exact⟨hyK,h17.1,by rw[h17.2,hy3,List.append_assoc]⟩
      ·all_goals (refine bQ rfl ?_;refine J2 ?_;refine aJ (cM (φ:=λ _=>True) (V:=λ _:Unit=>.bool y.2.1.iE) (hs:=[(bm,Ju b bT pk y.2.1)]) (os:=tpW y.2.1) (A0:=[]) (hs':=λ _=>[(bm,Ju b bT pk y.2.1)]) (os':=λ _=>tpW y.2.1) (Fc:=λ _=>[]) (hc:=λ w1 hw=>(Rz hl8 hw).mono λ _ _ ⟨e,h⟩=>⟨(),e,trivial,h⟩)) (λ x27 h27=>?_);refine J1 ?_)
       all_goals
        refine aP results10 (λ w hw=>?_);have hyK:y.1=K:=by
         rcases Nat.lt_or_ge y.1 K with h|h;·have h1:=(hi y.1 h).1;rw[h1] at hdn;first|omega|(rw[hdn] at c12;cases c12;done) 
         ·omega
        have hdt:y.2.1.iE=true:=by rw[hdn,hyK];exact hd
        refine⟨(y.2.1,y.2.2),by rw[hdt];rfl,⟨hyK▸hy2,hy3⟩,hw.u9.v6⟩
end
end
end Go.Proofs.YthblobahelfefaaGreatDoor

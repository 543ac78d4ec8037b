/- RootCosts: the walk. -/
import Derived.Test.YtbajmaoegmbfgaaGreatGDp3
import Derived.Test.YtbajmaoegmbfgaaGreatGGt2
import Derived.Test.YtbajmaoegmbfgaaGreatGLr4
set_option linter.unusedSimpArgs false
set_option linter.unusedVariables false
namespace Go.Proofs.YtbajmaoegmbfgaaGreat
open Go Go.RowKit Go.Ct
theorem Gt(t:eQ):bS (qg t) 20 64:=pP (kT 3 t) 0 (by decide)
theorem X3(t:eQ)(o e n:Int):bS (yO t o e n) 20 64:=pP (kS 4 t o e n) 0 (by decide)
theorem v9(t:eQ):Fv (qg t):=pb λ _=>trivial
structure RrE(N:Nat)(m:Nat)(t:eQ)(M:Mm)(n:Nat)(x:Rs)(υ:Kw):Prop where
 ran:Ran N (qg t) M n x υ.mm
 n15:n<=15
 inv:Inv (H8 m) υ
 tr:cL υ t
 rt:υ.ce t.root=x.ref
 ik:rG υ x.ref []
 ys:yK υ.mm
 gen:υ.mm.gen=M.gen
 qu:(bQ M.nodes (bE M.cs t.root)).kind=2->n=1/\υ.mm=M
theorem mv{N m:Nat}(hN:15<N){M:Mm}{t:eQ}(h:∃σ:Kw,σ.mm=M/\Inv (H8 m) σ/\cL σ t)(hy:yK M):∃n x υ,RrE N m t M n x υ:=by
 obtain⟨σ,rfl,i0,hT⟩:=h
 obtain⟨x,υ,h1,l,i1,hm,hI⟩:=yy hN i0 hT
 have h5:=(Fv.run (v9 t) hy N).2
 have h6:=Fv.aA8 (v9 t) hy N
 rw[h1] at h5 h6
 refine⟨_,x,υ,⟨h1,rfl⟩,((v7 t).fin (k:=N) hN).2,i1,hT.up l,hm,hI,h5,h6,λ hq=>?_⟩
 obtain⟨h2,h3⟩:=ng hN (t:=t) hq
 exact⟨h3,by rw[h2] at h1;exact(congrArg Prod.snd h1).symm⟩
structure RsE(N:Nat)(t:eQ)(r p k:Int)(υ:Kw)(g:Int)(n:Nat)(y:Rs)(s:Mm):Prop where
 ran:Ran N (yO t r p k) ((Mm.mk υ.mm.nodes υ.mm.cs g).push (iC g) p) n y s
 n14:n<=14
 qu:υ.ce t.root=r->(υ.nd r).kind=2->υ.ce (υ.nd r).main=p->υ.ce (υ.nd p).prev=0->n=6/\y.found=true
theorem lz{N m:Nat}(hN:14<N){t:eQ}{υ:Kw}(i0:Inv (H8 m) υ)(hT:cL υ t)(hro:t.ro=false)(r p k g:Int):∃n y s,RsE N t r p k υ g n y s:=by
 obtain⟨⟨y,e⟩,hc⟩:=(u6 t r p k).fin (k:=N) (s:=(Mm.mk υ.mm.nodes υ.mm.cs g).push (iC g) p) hN
 refine⟨_,y,_,⟨Prod.ext e rfl,rfl⟩,hc,λ a b c d=>?_⟩
 obtain⟨s',h1,h2⟩:=pj i0 hT hro a b c d k g
 obtain⟨h5,h6⟩:=B9 (p:=Ct.eD (yO t r p k) ((Mm.mk υ.mm.nodes υ.mm.cs g).push (iC g) p)) (j:=6) (k:=N) (by rw[h1];rfl) (by omega)
 refine⟨h6.trans h2,?_⟩
 rw[h5,h1] at e
 rw[<- Tr.done.inj e]
 rfl
theorem aBp{L:List aP}{cs:List Int}{gen acc:Int}{pn pc:Option Addr}{cn cc:Nat}(hf:Fits L)(hm:Vj ⟨L.map aP.c,cs,gen⟩)(hl:L.length<=100000000000)(hc:cs.length<=100000000000)(hg:0<=gen)(hy:yK ⟨L.map aP.c,cs,gen⟩):(XS.new L cs gen acc pn cn pc cc).Ok:=by
 have e:(L.map aP.c).length=L.length:=List.length_map _
 refine⟨hf,λ v hv=>?_,λ v hv=>?_,(λ v hv=>nomatch hv),(λ v hv=>nomatch hv),?_,by show L.length<=_;omega,by show cs.length<=_;omega,Nat.zero_le _,Nat.le_refl _,Nat.le_refl _,Nat.le_refl _,Nat.le_refl _,Nat.zero_le _,λ v hv=>?_,hg,(λ i j _ hj=>absurd hj (Nat.not_lt_zero j)),(λ v hv=>nomatch hv)⟩
 ·have:=hm.nd v.c (List.mem_map_of_mem hv)
  rw[e] at this
  exact this
 ·have:=hm.cs v hv
  rw[e] at this
  exact this
 ·have:=hm.two
  rw[e] at this
  exact this
 ·have:=hy v.c (List.mem_map_of_mem hv)
  rw[e] at this
  exact this
theorem iw{z0:XS}{υ:Kw}{t:eQ}{r p r':Int}{q':List Pl×List Pr}(h0:υ.mm=z0.mm)(hr:iR υ.mm.nodes υ.mm.cs t.root=some r)(hb:fQ υ.mm.nodes υ.mm.cs r=some p)(hr':iR (z0.L.map aP.c) z0.cs t.root=some r')(hpl:Ef (z0.L.map aP.c) z0.cs 12 0 0 r' [] []=some q')(hQ:∀p∈q'.1,QuP (z0.L.map aP.c) z0.cs p.i)(hk:(bQ (z0.L.map aP.c) (bE z0.cs t.root)).kind=2):υ.ce t.root=r/\(υ.nd r).kind=2/\υ.ce (υ.nd r).main=p/\υ.ce (υ.nd p).prev=0:=by
 have e3:z0.L.map aP.c=υ.mm.nodes:=(congrArg Mm.nodes h0).symm
 have e4:z0.cs=υ.mm.cs:=(congrArg Mm.cs h0).symm
 rw[e3,e4] at hr' hpl hQ hk
 have er:r=υ.ce t.root:=yw hk hr
 have hrr:r'=r:=Option.some.inj (hr'.symm.trans hr)
 obtain⟨u,hu,eu⟩:=E8 hpl
 have hq:=hQ u hu
 rw[eu,hrr] at hq
 have ep:=y3 hq hb
 refine⟨er.symm,by rw[er];exact hk,ep.symm,?_⟩
 rw[ep]
 exact hq
theorem qa{z:XS}{υ:Kw}(hZ:z.mm=υ.mm)(p:Int):(Mm.mk (z.L.map aP.c) z.cs (z.gen+1)).push (iC (z.gen+1)) p=(Mm.mk υ.mm.nodes υ.mm.cs (υ.mm.gen+1)).push (iC (υ.mm.gen+1)) p:=by rw[<- hZ];rfl
structure JSw(ba:Nat)(t:eQ)(υ:Kw)(r p:Int)(G:Fr)(q:SW):Prop where
 out:∃F0,(∀f∈F0,f∈q.F)/\pX ba (Ct.eD (yO t r p ((υ.len+1:Nat):Int)) ((Mm.mk υ.mm.nodes υ.mm.cs (υ.mm.gen+1)).push (iC (υ.mm.gen+1)) p)) q.a1 [] (q.c,F0,q.a)
 ga:∀f∈aL q.a.L,f.2=[]∨f∈G∨f∈q.F
theorem aAf{ba:Nat}{a:AS}{z:XS}{q:SW}{t:eQ}{υ:Kw}{r p:Int}(hZ:z.mm=υ.mm)(h:n6 ba a z q/\SWK t z q/\(false=false->SWN t z q))(hr:iR υ.mm.nodes υ.mm.cs t.root=some r)(hb:fQ υ.mm.nodes υ.mm.cs r=some p):JSw ba t υ r p (aL a.L) q:=by
 obtain⟨h1,_,h3⟩:=h
 obtain⟨r1,p1,hr1,hb1,hk,hz1⟩:=h3 rfl
 have e1:z.L.map aP.c=υ.mm.nodes:=congrArg Mm.nodes hZ
 have e2:z.cs=υ.mm.cs:=congrArg Mm.cs hZ
 have e3:z.L.length=υ.len:=by show _=υ.mm.nodes.length;rw[<- e1,List.length_map]
 rw[e1,e2] at hr1 hb1
 obtain rfl:r1=r:=Option.some.inj (hr1.symm.trans hr)
 obtain rfl:p1=p:=Option.some.inj (hb1.symm.trans hb)
 obtain⟨F0,h4,h5⟩:=h1.tk
 refine⟨⟨F0,h4,?_⟩,h1.ga⟩
 rw[hk,ti,h1.mm,hz1,qa hZ,e3] at h5
 exact h5
theorem vV{m ba bm bw:Nat}{a:AS}{L1:List aP}{pn pc:Option Addr}{cn cc:Nat}{t:eQ}{υ:Kw}{r p g:Int}{D:List Nat}{A:Fr}{w:World}{rest:List Value}(ok:a.Ok)(hm:a.mm=υ.mm)(i0:Inv (H8 m) υ)(hT:cL υ t)(hy:yK υ.mm)(hsz:υ.mm.nodes.length<=2415930000/\υ.mm.cs.length<=2415930000)(hg:υ.mm.gen<=2415922570)(hro:iR υ.mm.nodes υ.mm.cs t.root=some r)(hbo:fQ υ.mm.nodes υ.mm.cs r=some p)(hIr:rG υ r [])(hmp:oT υ p [] g)(hrt:t.root<=9223372036854775807)(hL:L1.map aP.c=(cN a.L).map aP.c)(hf:Fits L1)(hA1:∀f∈aL a.L,f∈A)(hA2:∀f∈aL L1,f∈A)
  (hs:SF w D [(ba,dV a),(bm,xM (XS.new L1 a.cs a.gen 0 pn cn pc cc)),(bw,.cells ⟨.pointer (some ⟨bm,0,none⟩)::rest⟩ 35 (0,0))] A [] (eC a++kP (XS.new L1 a.cs a.gen 0 pn cn pc cc)) w) :
  Calls Tryz.prog 51 #[.pointer (some ⟨bw,0,none⟩),.pointer (some ⟨ba,0,none⟩),.agg ⟨[.int .i64 t.root,.bool t.ro]⟩,.bool false] w λ e w'=>∃q:SW,e=.returned (.tuple #[.agg ⟨[.pointer (some ⟨q.tb,0,none⟩),.pointer (some ⟨q.bx,0,none⟩)]⟩,.bool true])/\JSw ba t υ r p (aL a.L) q /\
   SF w D ([(ba,dV q.a),(bm,xM q.x),(bw,.cells ⟨.pointer (some ⟨bm,0,none⟩)::rest⟩ 35 (0,0))]++[(q.tb,tO ba q.c 0),(q.bx,xO q.k bm q.x q.dn q.rs)]) [] q.F ((eC q.a++kP q.x)++nl q.x) w':=by
 have hzm:(XS.new L1 a.cs a.gen 0 pn cn pc cc).mm=υ.mm:=by rw[<- hm];show Mm.mk (L1.map aP.c) _ _=Mm.mk ((cN a.L).map aP.c) _ _;rw[hL];rfl
 have hzl:L1.length=υ.mm.nodes.length:=by rw[<- hzm];show _=(L1.map aP.c).length;rw[List.length_map]
 have hgn:a.gen=υ.mm.gen:=congrArg Mm.gen hm
 have hzc:a.cs.length=υ.mm.cs.length:=by rw[<- hm];rfl
 have e1:(L1.map aP.c)=υ.mm.nodes:=congrArg Mm.nodes hzm
 have e2:a.cs=υ.mm.cs:=congrArg Mm.cs hzm
 have zok:(XS.new L1 a.cs a.gen 0 pn cn pc cc).Ok:=aBp hf (by show Vj (XS.new L1 a.cs a.gen 0 pn cn pc cc).mm;rw[hzm,<- hm];exact ok.mo) (by omega) (by omega) (by rw[hgn];exact i0.gen) (by show yK (XS.new L1 a.cs a.gen 0 pn cn pc cc).mm;rw[hzm];exact hy)
 have hSI:y8 m t (XS.new L1 a.cs a.gen 0 pn cn pc cc).mm:=⟨υ,hzm.symm,i0,hT⟩
 have k2:r<=L1.length:=by rw[hzl];exact hIr.in.2
 have k3:p<=L1.length:=by rw[hzl];exact(oT.in hmp).2
 exact(Z6 (a:=a) (z:=XS.new L1 a.cs a.gen 0 pn cn pc cc) (t:=t) (other:=false) zok ok (hm.trans hzm.symm) ⟨by show L1.length<=_;omega,by show a.cs.length<=_;omega,by show a.gen<=_;omega⟩ hSI.proper (by show iR (L1.map aP.c) a.cs _=_;rw[e1,e2];exact hro) (by show fQ (L1.map aP.c) a.cs _=_;rw[e1,e2];exact hbo) k2 k3 hrt hA1 hA2 hs).mono λ _ _ ⟨q,h1,h2,hw⟩=>⟨q,h1,aAf hzm h2 hro hbo,hw⟩
theorem Aj{w0 w:World}{M:List Nat}{H:List (Nat×Obj)}{A F1 F2 F3:Fr}{o0 o1 o2 o3 o4 o5 o6 o7 o8 o9 o10 o11:Ow}(h:SF w0 M H A (F1++(F2++F3)) [o0,o1,o2,o3,o4,o5,o6,o7,o8,o9,o10,o11] w):SF w0 M H A (F1++F3) [o8,o9] w :=
 (h.sub (O':=[o8,o9]) (List.Sublist.refl _) aV.all (.cons _ (.cons _ (.cons _ (.cons _ (.cons _ (.cons _ (.cons _ (.cons _ (.cons_cons _ (.cons_cons _ (List.nil_sublist _)))))))))))).eY λ f hf=>.inr (by simp only[List.mem_append] at hf ⊢;exact hf.imp_right .inr)
theorem X5{b:Bool}(h:b=true):Ending.returned (pJ [Value.bool b])=.returned (.bool true):=by subst h;rfl
set_option maxRecDepth 100000 in
set_option maxHeartbeats 4000000 in
theorem Qo{l l2:List Int}{a a2:Option Addr}{c c2:Nat}{w:World}(h1:Go.Ct.Cl w a (aH l))(hl:l.length<=17592186043904)(h2:Go.Ct.Cl w a2 (aH l2))(hl2:l2.length<=17592186043904) :
    Calls Tryz.prog 12 #[.slice a l.length c,.slice a2 l2.length c2] w λ e w'=>e=.returned (.bool true)/\St w [] [] w':=by
  refine enter Tryz.func12 Tryz.ntmps12 rfl rfl (SF.s2 h1 h2) ?_
  simp only[cA]
  all_goals (refine Kc8 ?_;refine aD (Sv (V:=λ q:TQ=>.tuple #[.pointer (some ⟨q.bw,0,none⟩),.pointer (some ⟨q.ba,0,none⟩),.agg ⟨[.int .i64 q.t.root,.bool q.t.ro]⟩,.pointer (some ⟨q.tp,0,none⟩)]) (Hc:=λ q=>tqH l2 a2 c2 q) (Fc:=λ q=>aL q.a.L++aL q.W.z.L) (Oc:=λ q=>tqO q) (hc:=λ w1 hw=>gy (hw.cl (.bA .head)) hl (hw.cl (.bA (.tail .head))) hl2)) (λ x18 h18=>?_))
  all_goals
   have hW:=h18.W
   have hrt:=h18.root
   have hys:=Zo hW
   obtain⟨s1,s2,s3⟩:=hW.sz
   obtain⟨r',q',hro',hpl',_,hq⟩:=Oe hW (vS h18.j)
   obtain⟨σ,hσ⟩:=hW.wr.inv
   have hyM:yK x18.a.mm:=by rw[h18.mm];intro v hv;obtain⟨u,hu,rfl⟩:=List.mem_map.1 hv;show u.ys.length<=(x18.W.z.L.map aP.c).length;rw[List.length_map];exact hW.z.ys u hu
   obtain⟨n1,x,υ,hx2⟩:=mv (N:=16) (m:=x18.m) (M:=x18.a.mm) (t:=x18.t) (by decide) ⟨σ,hσ.mm.trans h18.mm.symm,hσ.inv,hσ.ts _ (vS h18.j)⟩ hyM
  all_goals (refine Ny ?_;refine J54 ?_;refine aJ (λ x7=>?_);refine fO (λ _=>?_);refine fO (λ _=>?_);refine kJ (λ _=>?_);refine Kc3 ?_;refine sU ?_)
  all_goals
   refine bD (λ c24=>?_) (λ c24=>?_)
   · all_goals try (first|contradiction|(exfalso;omega)|(exfalso;have:=hn2 (by assumption);omega))
     all_goals
      cases c24
     all_goals refine cS ?_
     all_goals
      refine aQ Tryz.results12 (λ w hw=>?_)
      first
      | exact⟨rfl,hw.done⟩
      | exact⟨X5 (hq6 (by assumption)).2,hw.done⟩
   · all_goals try (first|contradiction|(exfalso;omega)|(exfalso;have:=hn2 (by assumption);omega))
     all_goals (refine kO ?_;refine gS [0,1,2,3,4,5,6,7,8,9] ?_;refine Ym ?_;refine J4 ?_;refine bT (i:=6) (hq:=(aR (k:=3) rf cY eF (by simp only[List.drop_zero,List.take_succ_cons,List.take_zero];exact rfl) rfl)) (h:=?_);refine bO ?_;refine bC (i:=8) (hq:=(c0 (V:=.bool) (hc:=λ w1 hw=>mz (B:=8) (tE hW) (hw.Hi (.inr (.inr (.inr ⟨_,.tail _ (.tail _ (.head _)),rfl,rfl⟩))) (.inr (.inr (.inr ⟨_,.tail _ (.tail _ (.tail _ (.head _))),rfl,rfl⟩))) (λ f hf=>.inr (.inr (.inl (by simp[hf])))) hW.z.fit) (La hW.z) (by omega) (by omega) hys (by omega) _ _ hrt hro' hpl' (λ p hp=>by have h9:=dW (N:=x18.W.z.L.map aP.c) (i:=p.i) (by rw[(hq p hp).1];decide);rw[List.length_map] at h9;exact h9.2)))) (h:=λ x33 h33=>?_))
     all_goals
      have hn10:=hx2.n15
      have hn2:x33=true->n1=1:=λ hb=>(hx2.qu (by rw[h18.mm];exact(h33 hb).2)).1
     all_goals (refine J7 ?_;refine J2 ?_;refine aC (aq rf (λ w=>Cb _ w)) rfl ?_;refine bM ?_;refine aD (Wg (V:=λ x:Nat×Cd×Fr×AS=>.pointer (some ⟨x.1,0,none⟩)) (hs:=[(x18.ba,dV x18.a)]) (os:=eC x18.a) (hs':=λ x=>[(x18.ba,dV x.2.2.2)]) (Hc:=λ x=>[(x.1,tO x18.ba x.2.1 0)]) (os':=λ x=>eC x.2.2.2) (Oc:=λ _=>[]) (Fc:=λ x=>x.2.2.1) (A0:=aL x18.a.L) (hA:=bB.of λ f hf=>.inr (.inr (.inl (by simp[hf])))) (hc:=λ w1 hw=>K6 (jf (B:=[]) (n:=20) (m:=64) hrt (Gt _) h18.a h18.sm (λ f hf=>hf) (λ x hx=>nomatch hx) hw))) (λ x37 h37=>?_);refine Kc3 ?_;refine sU ?_)
     all_goals
      refine bD (λ c39=>?_) (λ c39=>?_)
      · all_goals try (first|contradiction|(exfalso;omega)|(exfalso;have:=hn2 (by assumption);omega))
        all_goals
         cases c39
        all_goals refine cS ?_
        all_goals
         refine aQ Tryz.results12 (λ w hw=>?_)
         first
         | exact⟨rfl,hw.done⟩
         | (exfalso;have h9:=(hq6 (by assumption)).1;omega)
         | exact⟨X5 (hq6 (by assumption)).2,hw.done⟩
      · all_goals try (first|contradiction|(exfalso;omega)|(exfalso;have:=hn2 (by assumption);omega))
        all_goals (refine aW ?_;refine J2 ?_;refine aD (cM (V:=λ y:Fr×AS=>.int .i64 ((n1:Nat):Int)) (hs:=[(x37.1,tO x18.ba x37.2.1 0),(x18.ba,dV x37.2.2.2)]) (os:=eC x37.2.2.2) (hs':=λ y=>[(x37.1,tO x18.ba (rO x) n1),(x18.ba,dV y.2)]) (os':=λ y=>eC y.2) (Fc:=λ y=>y.1) (A0:=aL x37.2.2.2.L++(x37.2.2.1++[])) (hA:=bB.of λ f hf=>(List.mem_append.1 hf).elim (λ h=>(h37.1.2.2.fam f h).imp_right λ h=>.inr (.inl (h.elim (λ h=>List.mem_append_right _ (by simp[h])) λ h=>List.mem_append_left _ h))) λ h=>.inr (.inr (.inl (List.mem_append_left _ (by simpa using h))))) (hc:=λ w1 hw=>a9 (N:=16) (by decide) (Gt _) h37.1 ⟨by rw[h18.mm];show(x18.W.z.L.map aP.c).length<=_;rw[List.length_map];omega,by rw[h18.mm];show x18.W.z.cs.length<=_;omega⟩ hx2.ran (λ f hf=>List.mem_append_left _ hf) (λ f hf=>List.mem_append_right _ hf) hw)) (λ x41 h41=>?_))
        all_goals
         have hmr:=hx2.ik.in
         have hlen:x41.2.mm.nodes.length=υ.len:=by rw[h41.1]
         have hnd:(aB (cN x41.2.L) x.ref).c=υ.nd x.ref:=by rw[<- iN,h41.1]
         have hkd:(aB (cN x41.2.L) x.ref).nd.kind=2:=show(aB (cN x41.2.L) x.ref).c.kind=2 by rw[hnd];exact hx2.ik.1
         have hfa:∀f∈aL x41.2.L,f.2=[]∨f∈x41.1++(x37.2.2.1++(aL x18.a.L++aL x18.W.z.L++[])):=cp h37.1.2.2 h41.2.2 (λ f hf=>by simp[hf])
         have hsz1:=hx2.ran.sz (by decide) (Gt _)
         have hM:x18.a.mm.nodes.length<=2415922570/\x18.a.mm.cs.length<=2415922570:=⟨by rw[h18.mm];show(x18.W.z.L.map aP.c).length<=_;rw[List.length_map];omega,by rw[h18.mm];show x18.W.z.cs.length<=_;omega⟩
         have hsz0:υ.mm.nodes.length<=2415930000/\υ.mm.cs.length<=2415930000:=⟨by omega,by omega⟩
         rw[<- h41.1] at hsz0
         have hsz:x41.2.mm.Small:=⟨by omega,by omega⟩
         have hld:bE x41.2.cs x18.t.root=x.ref:=by have h9:bE υ.mm.cs x18.t.root=x.ref:=hx2.rt;rw[<- h41.1] at h9;exact h9
         have hgM:υ.mm.gen<=2415922570:=by rw[hx2.gen,h18.mm];exact s3
         obtain⟨r,hro,hIr⟩:=Wx hx2.inv hx2.tr
         obtain⟨p,hbo,hmp⟩:=Xe hx2.inv (g:=(υ.nd r).gen) ⟨hIr,rfl⟩
        all_goals (refine iZ ?_;refine J0 ?_;refine aN (cV (hc:=λ w1 hw=>Yz w1)) (λ x42=>?_);refine Bq ?_)
        all_goals ((refine Ka3 ?_))
        all_goals (((refine aE ?_;refine aN (cV (hc:=λ w1 hw=>Pk (d:=true) rfl (hw.st.at cY))) (λ x46=>?_)));((refine aE ?_;refine uP ?_));refine Ka6 ?_)
        all_goals ((refine Ka3 ?_))
        all_goals (((refine aE ?_;refine Ay ?_));refine Ka6 ?_)
        all_goals ((refine dZ 53 (λ g53=>?_) (λ g53=>?_)<;>(try (first|contradiction|(exfalso;omega)|(exfalso;have:=hn2 (by assumption);omega)))<;>((refine Ka3 ?_))))
        all_goals ((refine Ka3 ?_))
        all_goals ((refine dZ 55 (λ g55=>?_) (λ g55=>?_)<;>(try (first|contradiction|(exfalso;omega)|(exfalso;have:=hn2 (by assumption);omega)))<;>refine Ka0 ?_))
        all_goals ((first|refine aI ?_|(refine aE ?_;refine kF ?_));((refine aE ?_;refine bX ?_));refine Ka6 ?_)
        all_goals (first|(refine Ka3 ?_)|(refine dZ 60 (λ g60=>?_) (λ g60=>?_)<;>(try (first|contradiction|(exfalso;omega)|(exfalso;have:=hn2 (by assumption);omega)))<;>((refine Ka3 ?_))))
        all_goals (((refine Ka3 ?_));((refine aE ?_;refine aN (cV (hc:=λ w1 hw=>uD (r:=x) (d:=true) rfl (if_pos rfl) (hw.st.at cY))) (λ x63=>?_)));((refine aE ?_;refine cC ?_));((refine aE ?_;refine aD (Wg (V:=λ q:Option Addr×Option Addr=>.agg ⟨((aB (cN x41.2.L) x.ref).at_ q.1 q.2).nd.cells⟩) (hs:=[(x18.ba,dV x41.2)]) (os:=eC x41.2) (hs':=λ _=>[(x18.ba,dV x41.2)]) (Hc:=λ _=>[]) (os':=λ _=>eC x41.2) (Oc:=λ q=>[⟨q.2,cZ (aB (cN x41.2.L) x.ref).ys,(aB (cN x41.2.L) x.ref).ys.length,164,2⟩,⟨q.1,aH (aB (cN x41.2.L) x.ref).xs,(aB (cN x41.2.L) x.ref).xs.length,37,1⟩]) (Fc:=λ _=>[]) (A0:=aL x41.2.L) (hA:=bB.of λ f hf=>(hfa f hf).imp_right λ h=>.inr (.inl h)) (hc:=λ w1 hw=>Wt h41.2.1 hsz (λ f hf=>hf) x.ref (by rw[hlen];exact hmr.2) hw)) (λ x65 h65=>?_)));((refine aE ?_;refine cC ?_));((refine aE ?_;refine kF ?_));refine Ka6 ?_)
        all_goals ((refine dZ 69 (λ g69=>?_) (λ g69=>?_)<;>(try (first|contradiction|(exfalso;omega)|(exfalso;have:=hn2 (by assumption);omega)))<;>((refine Ka3 ?_))))
        all_goals (((refine aE ?_;refine aF ?_));((refine aE ?_;refine bM ?_));((refine aE ?_;refine aD (cM (V:=λ _:Unit=>.int .i64 x.ref) (hs:=[(x18.ba,dV x41.2)]) (os:=eC x41.2) (hs':=λ _=>[(x18.ba,dV {x41.2 with acc:=up x41.2.acc})]) (os':=λ _=>eC x41.2) (Fc:=λ _=>[]) (hc:=λ w1 hw=>by rw[<- hld];exact Nj hw _ hrt (by have h9:x41.2.cs.length<=2415930000:=hsz0.2;omega))) (λ x73 h73=>?_)));((refine Ka3 ?_));((refine aE ?_;refine aN (cV (hc:=λ w1 hw=>uD (r:=x) (d:=true) rfl (if_pos rfl) (hw.st.at cY))) (λ x75=>?_)));((refine aE ?_;refine cC ?_));((refine aE ?_;refine kF ?_));refine bX ?_;refine aG ?_)
        all_goals
         refine bD (λ c78=>?_) (λ c78=>?_)
         · all_goals try (first|contradiction|(exfalso;omega)|(exfalso;have:=hn2 (by assumption);omega))
           all_goals refine cS ?_
           all_goals
            refine aQ Tryz.results12 (λ w hw=>?_)
            first
            | exact⟨rfl,hw.done⟩
            | (exfalso;have h9:=(hq6 (by assumption)).1;omega)
            | exact⟨X5 (hq6 (by assumption)).2,hw.done⟩
         · all_goals try (first|contradiction|(exfalso;omega)|(exfalso;have:=hn2 (by assumption);omega))
           all_goals (refine kO ?_;refine iB ?_;refine aG ?_)
           all_goals
            refine bD (λ c80=>?_) (λ c80=>?_)
            · all_goals try (first|contradiction|(exfalso;omega)|(exfalso;have:=hn2 (by assumption);omega))
              all_goals refine cS ?_
              all_goals
               refine aQ Tryz.results12 (λ w hw=>?_)
               first
               | exact⟨rfl,hw.done⟩
               | (exfalso;have h9:=(hq6 (by assumption)).1;omega)
               | exact⟨X5 (hq6 (by assumption)).2,hw.done⟩
            · all_goals try (first|contradiction|(exfalso;omega)|(exfalso;have:=hn2 (by assumption);omega))
              all_goals
               have hrF:x18.t.ro=false:=by simpa using c80
              all_goals refine kO ?_
              all_goals
               refine dX [12,13,81,82,83,84,85,86,87,88,89,90,91,92] (λ j:Nat×SW=>[(12,.pointer (some ⟨j.1,0,none⟩)),(13,.bool true)]) (λ j=>JSw x18.ba x18.t υ r p (aL x41.2.L) j.2) (λ j=>[(j.1,.cells ⟨[.pointer (some ⟨j.2.tb,0,none⟩),.pointer (some ⟨j.2.bx,0,none⟩)]⟩ 76 (0,0)),(j.2.tb,tO x18.ba j.2.c 0),(x18.ba,dV j.2.a)]) (λ j=>j.2.F++(x41.1++(x37.2.2.1++(aL x18.a.L++aL x18.W.z.L++[])))) (λ j=>eC j.2.a) (by decide) (λ _=>by exact rfl) ?_ (λ j f hx=>?_)
               · refine fR (.one 0 [] (.one 6 [] (.one 7 [] (.two 1 [7] (.one 2 [] (.two 3 [7] (.one 4 [] (.two 5 [7] (.two 8 [] (.one 9 [] (.one 10 [] (.one 11 [] (.one 12 [7] (.one 13 [] (.one 14 [] .nil)))))) 0 [] (.two 12 [7] (.one 8 [] (.one 9 [] (.one 10 [] (.one 11 [] (.one 13 [] (.one 14 [] .nil)))))) 0 [] .nil)) 0 [] (.two 12 [7] (.one 5 [7] (.one 8 [] (.one 9 [] (.one 10 [] (.one 11 [] (.one 13 [] (.one 14 [] .nil))))))) 0 [] .nil))) 0 [] (.two 12 [7] (.one 3 [7] (.one 4 [] (.one 5 [7] (.one 8 [] (.one 9 [] (.one 10 [] (.one 11 [] (.one 13 [] (.one 14 [] .nil))))))))) 0 [] .nil))) 0 [] (.two 12 [7] (.one 1 [7] (.one 2 [] (.one 3 [7] (.one 4 [] (.one 5 [7] (.one 8 [] (.one 9 [] (.one 10 [] (.one 11 [] (.one 13 [] (.one 14 [] .nil))))))))))) 0 [] .nil))))) ?_
                 all_goals (refine iF ?_;refine bO ?_)
                 all_goals
                  refine fD (E:=[1,12]) (by decide +kernel) ((.cons ?_ (.cons ?_ .nil)))
                  · refine kC (i:=1) (hq:=(cMO (hs:=[(x18.ba,dV {x41.2 with acc:=up x41.2.acc})]) (os:=eC x41.2) (A0:=aL x41.2.L) (hA:=bB.of λ f hf=>(hfa f hf).imp_right λ h=>.inr (.inl h)) (hc:=λ w hs=>Q8 (L:=x41.2.L) (cs:=x41.2.cs) hs h41.2.1.fit (by have h9:=Ht x41.2;omega) (by have h9:x41.2.cs.length<=2415930000:=hsz0.2;omega)))) (h:=λ x83 h83=>?_)
                    all_goals refine fJ ?_
                    all_goals
                     refine fD (E:=[3,12]) (by decide +kernel) ((.cons ?_ (.cons ?_ .nil)))
                     · refine vb (i:=3) (h:=λ x85=>?_)
                       all_goals refine fJ ?_
                       all_goals
                        refine fD (E:=[5,12]) (by decide +kernel) ((.cons ?_ (.cons ?_ .nil)))
                        · refine vb (i:=5) (h:=λ x87=>?_)
                          all_goals
                           refine fD (E:=[8,12]) (by decide +kernel) ((.cons ?_ (.cons ?_ .nil)))
                           · refine kC (i:=8) (hq:=(Wg (V:=λ q:SW=>.tuple #[.agg ⟨[.pointer (some ⟨q.tb,0,none⟩),.pointer (some ⟨q.bx,0,none⟩)]⟩,.bool true]) (hs:=[(x18.ba,dV {x41.2 with acc:=up x41.2.acc}),(x85,xM (XS.new x83.1 x41.2.cs x41.2.gen 0 x83.2.1.1 x83.2.1.2 x83.2.2.1 x83.2.2.2)),(x87,.cells ⟨[.pointer (some ⟨x85,0,none⟩),.int .u64 0,.slice none 0 0,.slice none 0 0]⟩ 35 (0,0))]) (os:=eC x41.2++kP (XS.new x83.1 x41.2.cs x41.2.gen 0 x83.2.1.1 x83.2.1.2 x83.2.2.1 x83.2.2.2)) (hs':=λ q=>[(x18.ba,dV q.a),(x85,xM q.x),(x87,.cells ⟨[.pointer (some ⟨x85,0,none⟩),.int .u64 0,.slice none 0 0,.slice none 0 0]⟩ 35 (0,0))]) (Hc:=λ q=>[(q.tb,tO x18.ba q.c 0),(q.bx,xO q.k x85 q.x q.dn q.rs)]) (os':=λ q=>eC q.a++kP q.x) (Oc:=λ q=>nl q.x) (Fc:=λ q=>q.F) (A0:=aL x41.2.L++aL x83.1) (hA:=bB.of λ f hf=>(List.mem_append.1 hf).elim (λ hf=>(hfa f hf).imp_right λ h=>.inr (.inl (List.mem_append_right _ h))) λ hf=>.inr (.inr (.inl (List.mem_append_left _ hf)))) (hc:=λ w1 hw=>vV (a:={x41.2 with acc:=up x41.2.acc}) ⟨h41.2.1.fit,h41.2.1.mo⟩ h41.1 hx2.inv hx2.tr hx2.ys (by rw[<- h41.1];exact hsz0) hgM hro hbo hIr hmp hrt h83.1 h83.2 (λ f hf=>List.mem_append_left _ hf) (λ f hf=>List.mem_append_right _ hf) hw))) (h:=λ x90 h90=>?_)
                             all_goals (refine aT ?_;refine eL ?_;refine eL ?_;refine gJ (h:=λ x12=>?_);refine yQ ?_)
                             all_goals
                              refine eE ((x12,x90)) ?_ (hw1:=λ w hw=>Aj (by first|exact hw.pick [0,1,7] [2,3,4,5,6,8,9,10] 11|exact hw.pick [2,0,7] [1,3,4,5,6,8,9,10] 11|exact hw.pick [3,0,7] [1,2,4,5,6,8,9,10] 11|exact hw.pick [4,0,7] [1,2,3,5,6,8,9,10] 11))
                              · exact h90
                           · refine fI (i:=12) (h:=λ x12=>?_)
                             all_goals (refine bC (i:=8) (hq:=(Wg (V:=λ q:SW=>.tuple #[.agg ⟨[.pointer (some ⟨q.tb,0,none⟩),.pointer (some ⟨q.bx,0,none⟩)]⟩,.bool true]) (hs:=[(x18.ba,dV {x41.2 with acc:=up x41.2.acc}),(x85,xM (XS.new x83.1 x41.2.cs x41.2.gen 0 x83.2.1.1 x83.2.1.2 x83.2.2.1 x83.2.2.2)),(x87,.cells ⟨[.pointer (some ⟨x85,0,none⟩),.int .u64 0,.slice none 0 0,.slice none 0 0]⟩ 35 (0,0))]) (os:=eC x41.2++kP (XS.new x83.1 x41.2.cs x41.2.gen 0 x83.2.1.1 x83.2.1.2 x83.2.2.1 x83.2.2.2)) (hs':=λ q=>[(x18.ba,dV q.a),(x85,xM q.x),(x87,.cells ⟨[.pointer (some ⟨x85,0,none⟩),.int .u64 0,.slice none 0 0,.slice none 0 0]⟩ 35 (0,0))]) (Hc:=λ q=>[(q.tb,tO x18.ba q.c 0),(q.bx,xO q.k x85 q.x q.dn q.rs)]) (os':=λ q=>eC q.a++kP q.x) (Oc:=λ q=>nl q.x) (Fc:=λ q=>q.F) (A0:=aL x41.2.L++aL x83.1) (hA:=bB.of λ f hf=>(List.mem_append.1 hf).elim (λ hf=>(hfa f hf).imp_right λ h=>.inr (.inl (List.mem_append_right _ h))) λ hf=>.inr (.inr (.inl (List.mem_append_left _ hf)))) (hc:=λ w1 hw=>vV (a:={x41.2 with acc:=up x41.2.acc}) ⟨h41.2.1.fit,h41.2.1.mo⟩ h41.1 hx2.inv hx2.tr hx2.ys (by rw[<- h41.1];exact hsz0) hgM hro hbo hIr hmp hrt h83.1 h83.2 (λ f hf=>List.mem_append_left _ hf) (λ f hf=>List.mem_append_right _ hf) hw))) (h:=λ x90 h90=>?_);refine aT ?_;refine eL ?_;refine eL ?_;refine yQ ?_)
                             all_goals
                              refine eE ((x12,x90)) ?_ (hw1:=λ w hw=>Aj (by first|exact hw.pick [0,1,7] [2,3,4,5,6,8,9,10] 11|exact hw.pick [2,0,7] [1,3,4,5,6,8,9,10] 11|exact hw.pick [3,0,7] [1,2,4,5,6,8,9,10] 11|exact hw.pick [4,0,7] [1,2,3,5,6,8,9,10] 11))
                              · exact h90
                        · refine fI (i:=12) (h:=λ x12=>?_)
                          all_goals (refine Ke (h:=λ x87=>?_);refine bC (i:=8) (hq:=(Wg (V:=λ q:SW=>.tuple #[.agg ⟨[.pointer (some ⟨q.tb,0,none⟩),.pointer (some ⟨q.bx,0,none⟩)]⟩,.bool true]) (hs:=[(x18.ba,dV {x41.2 with acc:=up x41.2.acc}),(x85,xM (XS.new x83.1 x41.2.cs x41.2.gen 0 x83.2.1.1 x83.2.1.2 x83.2.2.1 x83.2.2.2)),(x87,.cells ⟨[.pointer (some ⟨x85,0,none⟩),.int .u64 0,.slice none 0 0,.slice none 0 0]⟩ 35 (0,0))]) (os:=eC x41.2++kP (XS.new x83.1 x41.2.cs x41.2.gen 0 x83.2.1.1 x83.2.1.2 x83.2.2.1 x83.2.2.2)) (hs':=λ q=>[(x18.ba,dV q.a),(x85,xM q.x),(x87,.cells ⟨[.pointer (some ⟨x85,0,none⟩),.int .u64 0,.slice none 0 0,.slice none 0 0]⟩ 35 (0,0))]) (Hc:=λ q=>[(q.tb,tO x18.ba q.c 0),(q.bx,xO q.k x85 q.x q.dn q.rs)]) (os':=λ q=>eC q.a++kP q.x) (Oc:=λ q=>nl q.x) (Fc:=λ q=>q.F) (A0:=aL x41.2.L++aL x83.1) (hA:=bB.of λ f hf=>(List.mem_append.1 hf).elim (λ hf=>(hfa f hf).imp_right λ h=>.inr (.inl (List.mem_append_right _ h))) λ hf=>.inr (.inr (.inl (List.mem_append_left _ hf)))) (hc:=λ w1 hw=>vV (a:={x41.2 with acc:=up x41.2.acc}) ⟨h41.2.1.fit,h41.2.1.mo⟩ h41.1 hx2.inv hx2.tr hx2.ys (by rw[<- h41.1];exact hsz0) hgM hro hbo hIr hmp hrt h83.1 h83.2 (λ f hf=>List.mem_append_left _ hf) (λ f hf=>List.mem_append_right _ hf) hw))) (h:=λ x90 h90=>?_);refine aT ?_;refine eL ?_;refine eL ?_;refine yQ ?_)
                          all_goals
                           refine eE ((x12,x90)) ?_ (hw1:=λ w hw=>Aj (by first|exact hw.pick [0,1,7] [2,3,4,5,6,8,9,10] 11|exact hw.pick [2,0,7] [1,3,4,5,6,8,9,10] 11|exact hw.pick [3,0,7] [1,2,4,5,6,8,9,10] 11|exact hw.pick [4,0,7] [1,2,3,5,6,8,9,10] 11))
                           · exact h90
                     · refine fI (i:=12) (h:=λ x12=>?_)
                       all_goals (refine Ke (h:=λ x85=>?_);refine fJ ?_;refine Ke (h:=λ x87=>?_);refine bC (i:=8) (hq:=(Wg (V:=λ q:SW=>.tuple #[.agg ⟨[.pointer (some ⟨q.tb,0,none⟩),.pointer (some ⟨q.bx,0,none⟩)]⟩,.bool true]) (hs:=[(x18.ba,dV {x41.2 with acc:=up x41.2.acc}),(x85,xM (XS.new x83.1 x41.2.cs x41.2.gen 0 x83.2.1.1 x83.2.1.2 x83.2.2.1 x83.2.2.2)),(x87,.cells ⟨[.pointer (some ⟨x85,0,none⟩),.int .u64 0,.slice none 0 0,.slice none 0 0]⟩ 35 (0,0))]) (os:=eC x41.2++kP (XS.new x83.1 x41.2.cs x41.2.gen 0 x83.2.1.1 x83.2.1.2 x83.2.2.1 x83.2.2.2)) (hs':=λ q=>[(x18.ba,dV q.a),(x85,xM q.x),(x87,.cells ⟨[.pointer (some ⟨x85,0,none⟩),.int .u64 0,.slice none 0 0,.slice none 0 0]⟩ 35 (0,0))]) (Hc:=λ q=>[(q.tb,tO x18.ba q.c 0),(q.bx,xO q.k x85 q.x q.dn q.rs)]) (os':=λ q=>eC q.a++kP q.x) (Oc:=λ q=>nl q.x) (Fc:=λ q=>q.F) (A0:=aL x41.2.L++aL x83.1) (hA:=bB.of λ f hf=>(List.mem_append.1 hf).elim (λ hf=>(hfa f hf).imp_right λ h=>.inr (.inl (List.mem_append_right _ h))) λ hf=>.inr (.inr (.inl (List.mem_append_left _ hf)))) (hc:=λ w1 hw=>vV (a:={x41.2 with acc:=up x41.2.acc}) ⟨h41.2.1.fit,h41.2.1.mo⟩ h41.1 hx2.inv hx2.tr hx2.ys (by rw[<- h41.1];exact hsz0) hgM hro hbo hIr hmp hrt h83.1 h83.2 (λ f hf=>List.mem_append_left _ hf) (λ f hf=>List.mem_append_right _ hf) hw))) (h:=λ x90 h90=>?_);refine aT ?_;refine eL ?_;refine eL ?_;refine yQ ?_)
                       all_goals
                        refine eE ((x12,x90)) ?_ (hw1:=λ w hw=>Aj (by first|exact hw.pick [0,1,7] [2,3,4,5,6,8,9,10] 11|exact hw.pick [2,0,7] [1,3,4,5,6,8,9,10] 11|exact hw.pick [3,0,7] [1,2,4,5,6,8,9,10] 11|exact hw.pick [4,0,7] [1,2,3,5,6,8,9,10] 11))
                        · exact h90
                  · refine fI (i:=12) (h:=λ x12=>?_)
                    all_goals (refine bC (i:=1) (hq:=(cMO (hs:=[(x18.ba,dV {x41.2 with acc:=up x41.2.acc})]) (os:=eC x41.2) (A0:=aL x41.2.L) (hA:=bB.of λ f hf=>(hfa f hf).imp_right λ h=>.inr (.inl h)) (hc:=λ w hs=>Q8 (L:=x41.2.L) (cs:=x41.2.cs) hs h41.2.1.fit (by have h9:=Ht x41.2;omega) (by have h9:x41.2.cs.length<=2415930000:=hsz0.2;omega)))) (h:=λ x83 h83=>?_);refine fJ ?_;refine Ke (h:=λ x85=>?_);refine fJ ?_;refine Ke (h:=λ x87=>?_);refine bC (i:=8) (hq:=(Wg (V:=λ q:SW=>.tuple #[.agg ⟨[.pointer (some ⟨q.tb,0,none⟩),.pointer (some ⟨q.bx,0,none⟩)]⟩,.bool true]) (hs:=[(x18.ba,dV {x41.2 with acc:=up x41.2.acc}),(x85,xM (XS.new x83.1 x41.2.cs x41.2.gen 0 x83.2.1.1 x83.2.1.2 x83.2.2.1 x83.2.2.2)),(x87,.cells ⟨[.pointer (some ⟨x85,0,none⟩),.int .u64 0,.slice none 0 0,.slice none 0 0]⟩ 35 (0,0))]) (os:=eC x41.2++kP (XS.new x83.1 x41.2.cs x41.2.gen 0 x83.2.1.1 x83.2.1.2 x83.2.2.1 x83.2.2.2)) (hs':=λ q=>[(x18.ba,dV q.a),(x85,xM q.x),(x87,.cells ⟨[.pointer (some ⟨x85,0,none⟩),.int .u64 0,.slice none 0 0,.slice none 0 0]⟩ 35 (0,0))]) (Hc:=λ q=>[(q.tb,tO x18.ba q.c 0),(q.bx,xO q.k x85 q.x q.dn q.rs)]) (os':=λ q=>eC q.a++kP q.x) (Oc:=λ q=>nl q.x) (Fc:=λ q=>q.F) (A0:=aL x41.2.L++aL x83.1) (hA:=bB.of λ f hf=>(List.mem_append.1 hf).elim (λ hf=>(hfa f hf).imp_right λ h=>.inr (.inl (List.mem_append_right _ h))) λ hf=>.inr (.inr (.inl (List.mem_append_left _ hf)))) (hc:=λ w1 hw=>vV (a:={x41.2 with acc:=up x41.2.acc}) ⟨h41.2.1.fit,h41.2.1.mo⟩ h41.1 hx2.inv hx2.tr hx2.ys (by rw[<- h41.1];exact hsz0) hgM hro hbo hIr hmp hrt h83.1 h83.2 (λ f hf=>List.mem_append_left _ hf) (λ f hf=>List.mem_append_right _ hf) hw))) (h:=λ x90 h90=>?_);refine aT ?_;refine eL ?_;refine eL ?_;refine yQ ?_)
                    all_goals
                     refine eE ((x12,x90)) ?_ (hw1:=λ w hw=>Aj (by first|exact hw.pick [0,1,7] [2,3,4,5,6,8,9,10] 11|exact hw.pick [2,0,7] [1,3,4,5,6,8,9,10] 11|exact hw.pick [3,0,7] [1,2,4,5,6,8,9,10] 11|exact hw.pick [4,0,7] [1,2,3,5,6,8,9,10] 11))
                     · exact h90
               dsimp only[hX,List.map,List.cons_append,List.nil_append]
               obtain⟨F0,hF0,hO⟩:=hx.out
               have hga:=hx.ga
               obtain⟨n2,y2,s2,hx3⟩:=lz (N:=15) (by decide) hx2.inv hx2.tr hrF r p ((υ.len+1:Nat):Int) (υ.mm.gen+1)
               have hn14:=hx3.n14
               have hq6:x33=true->n2=6/\y2.found=true:=λ hb=>by have hqm:=((hx2.qu (by rw[h18.mm];exact(h33 hb).2)).2).trans h18.mm;obtain⟨u1,u2,u3,u4⟩:=iw hqm hro hbo hro' hpl' (h33 hb).1 (h33 hb).2;exact hx3.qu u1 u2 u3 u4
              all_goals (refine kR ?_;refine Bq ?_)
              all_goals ((refine aE ?_;refine aF ?_))
              all_goals (((refine aE ?_;refine bM ?_));((refine aE ?_;refine kW ?_));refine bX ?_;refine aG ?_)
              all_goals
               refine bD (λ c99=>?_) (λ c99=>?_)
               · all_goals try (first|contradiction|(exfalso;omega)|(exfalso;have:=hn2 (by assumption);omega))
                 all_goals refine cS ?_
                 all_goals
                  refine aQ Tryz.results12 (λ w hw=>?_)
                  first
                  | exact⟨rfl,hw.done⟩
                  | (exfalso;have h9:=(hq6 (by assumption)).1;omega)
                  | exact⟨X5 (hq6 (by assumption)).2,hw.done⟩
               · all_goals try (first|contradiction|(exfalso;omega)|(exfalso;have:=hn2 (by assumption);omega))
                 all_goals (refine aW ?_;refine iB ?_;refine aD (cM (V:=λ y:Fr×AS=>.int .i64 ((n2:Nat):Int)) (hs:=[(j.2.tb,tO x18.ba j.2.c 0),(x18.ba,dV j.2.a)]) (os:=eC j.2.a) (hs':=λ y=>[(j.2.tb,tO x18.ba (rO y2) n2),(x18.ba,dV y.2)]) (os':=λ y=>eC y.2) (Fc:=λ y=>y.1) (A0:=aL j.2.a.L++(F0++[])) (hA:=bB.of λ f hf=>(List.mem_append.1 hf).elim (λ h=>(hga f h).elim .inl λ h=>h.elim (λ h=>(hfa f h).imp_right λ h=>.inr (.inl (List.mem_append_right _ h))) λ h=>.inr (.inr (.inl (List.mem_append_left _ h)))) λ h=>.inr (.inr (.inl (List.mem_append_left _ (hF0 f (by simpa using h)))))) (hc:=λ w1 hw=>a9 (N:=15) (by decide) (X3 _ _ _ _) hO (by have h9:=T9 (v:=iC (υ.mm.gen+1)) (i:=p) (s:=Mm.mk υ.mm.nodes υ.mm.cs (υ.mm.gen+1)) (by rw[<- h41.1];exact⟨by have:=hsz0.1;show x41.2.mm.nodes.length<=_;omega,by have:=hsz0.2;show x41.2.mm.cs.length<=_;omega⟩);exact⟨by omega,by omega⟩) hx3.ran (λ f hf=>List.mem_append_left _ hf) (λ f hf=>List.mem_append_right _ hf) hw)) (λ x102 h102=>?_);refine J1 ?_;refine iB ?_;refine aN (cV (hc:=λ w1 hw=>Pk (d:=true) rfl (hw.st.at cY))) (λ x105=>?_);refine aA ?_)
                 all_goals ((refine Ka3 ?_))
                 all_goals (((refine aE ?_;refine zJ ?_));refine Ka6 ?_)
                 all_goals ((refine dZ 110 (λ g110=>?_) (λ g110=>?_)<;>(try (first|contradiction|(exfalso;omega)|(exfalso;have:=hn2 (by assumption);omega)))<;>((refine Ka3 ?_))))
                 all_goals (((refine aE ?_;refine uP ?_));((refine Ka3 ?_)))
                 all_goals ((refine dZ 113 (λ g113=>?_) (λ g113=>?_)<;>(try (first|contradiction|(exfalso;omega)|(exfalso;have:=hn2 (by assumption);omega)))<;>refine Ka0 ?_))
                 all_goals ((first|refine aI ?_|(refine aE ?_;refine kW ?_));refine Ka0 ?_)
                 all_goals (first|refine sA ?_|(refine dZ 116 (λ g116=>?_) (λ g116=>?_)<;>(try (first|contradiction|(exfalso;omega)|(exfalso;have:=hn2 (by assumption);omega)))<;>refine Ka1 ?_))
                 all_goals ((first|refine aI ?_|refine sA ?_|(refine aE ?_;refine bM ?_));(first|refine aI ?_|refine sA ?_|(refine aE ?_;refine aN (cV (hc:=λ w1 hw=>uD (r:=y2) (d:=true) rfl (if_pos rfl) (hw.st.at cY))) (λ x119=>?_)));(first|refine aI ?_|refine sA ?_|(refine aE ?_;refine cC ?_));(first|refine aI ?_|(refine aE ?_;refine bX ?_));((refine aE ?_;refine bX ?_));refine Kb9 ?_)
                 all_goals
                  refine aQ Tryz.results12 (λ w hw=>?_)
                  first
                  | exact⟨rfl,hw.done⟩
                  | (exfalso;have h9:=(hq6 (by assumption)).1;omega)
                  | exact⟨X5 (hq6 (by assumption)).2,hw.done⟩
end Go.Proofs.YtbajmaoegmbfgaaGreat

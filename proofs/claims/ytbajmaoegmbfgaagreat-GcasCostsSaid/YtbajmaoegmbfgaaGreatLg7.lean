/- GcasCosts: the walk. -/
import Derived.Test.YtbajmaoegmbfgaaGreatGDp2
import Derived.Test.YtbajmaoegmbfgaaGreatGGc4
import Derived.Test.YtbajmaoegmbfgaaGreatGLg1
set_option linter.unusedSimpArgs false
set_option linter.unusedVariables false
namespace Go.Proofs.YtbajmaoegmbfgaaGreat
open Go Go.RowKit Go.Ct
theorem G4(t:fG)(i:Int):bT (q0 t i) 20 64:=qN (kS 1 t i 0 0) 0 (by decide)
theorem N8(t:fG)(i m n:Int):bT (Td t i m n) 20 64:=qN (kS 2 t i m n) 0 (by decide)
structure RdE(N:Nat)(H:ByteArray->Nat)(t:fG)(i:Int)(M:Mm)(n:Nat)(x:Rs)(υ:Kw):Prop where
 ran:Ran N (q0 t i) M n x υ.mm
 n10:n<=10
 inv:Inv H υ
 tr:cU υ t
 ik:(υ.nd i).kind=2
 mkd:bV (υ.nd x.ref)
 qu:vt M.nodes M.cs i->n=2/\υ.mm=M
theorem a8{N m:Nat}(hN:10<N){M:Mm}{t:fG}{i:Int}(h:∃σ:Kw,σ.mm=M/\Inv (H8 m) σ/\cU σ t)(hi:(bH M.nodes i).kind=2):∃n x υ,RdE N (H8 m) t i M n x υ:=by
 obtain⟨σ,rfl,i0,hT⟩:=h
 obtain⟨x,υ,h1,l,i1,hm⟩:=vq hN i0 hT hi
 refine⟨_,x,υ,⟨h1,rfl⟩,((sb t i).fin (k:=N) hN).2,i1,hT.up l,?_,hm,λ hq=>?_⟩
 ·rw[l.nd (dV (N:=σ.mm.nodes) (i:=i) (by rw[hi];decide)).2];exact hi
 ·obtain⟨h2,h3⟩:=Wj hN (t:=t) hq
  exact⟨h3,by rw[h2] at h1;exact(congrArg Prod.snd h1).symm⟩
structure SwE(N:Nat)(t:fG)(i:Int)(υ:Kw)(x:Rs)(n:Nat)(y:Rs)(s:Mm):Prop where
 ran:Ran N (Td t i x.ref ((υ.len+1:Nat):Int)) (υ.mm.push (υ.nd x.ref) x.ref) n y s
 n10:n<=10
 n5:(υ.nd (υ.ce t.root)).kind=2->y.found=true->n=5
theorem ar{N N0:Nat}(hN:10<N){H:ByteArray->Nat}{t:fG}{i:Int}{M:Mm}{n:Nat}{x:Rs}{υ:Kw}(h:RdE N0 H t i M n x υ):∃n2 y s,SwE N t i υ x n2 y s:=by
 obtain⟨⟨y,e⟩,hc⟩:=(rm t i x.ref ((υ.len+1:Nat):Int)).fin (k:=N) (s:=υ.mm.push (υ.nd x.ref) x.ref) hN
 exact⟨_,y,_,⟨Prod.ext e rfl,rfl⟩,hc,λ hR hy=>eu hN h.inv h.tr h.ik h.mkd (λ _=>hR) (Prod.ext e rfl) hy⟩
theorem db{a:AS}(ok:a.Ok)(m:Int):lQ a.mm.nodes.length a.mm.cs.length {(aB (bS a.L) m).c with main:=0,prev:=0,status:=0}:=by
 have:=(ok.mo.at m).zero
 rw[kU] at this
 exact this
theorem Q8{n:Nat}(h:n=5):Ending.returned (oQ [Value.bool (((n:Nat):Int)==5)])=.returned (.bool true):=by subst h;rfl
set_option maxRecDepth 100000 in
set_option maxHeartbeats 4000000 in
theorem P1{l l2:List Int}{a a2:Option Addr}{c c2:Nat}{w:World}(h1:Go.Ct.Cl w a (aG l))(hl:l.length<=17592186043904)(h2:Go.Ct.Cl w a2 (aG l2))(hl2:l2.length<=17592186043904) :
    Calls Tryz.prog 5 #[.slice a l.length c,.slice a2 l2.length c2] w λ e w'=>e=.returned (.bool true)/\St w [] [] w':=by
  refine enter Tryz.func5 Tryz.ntmps5 rfl rfl (SF.s2 h1 h2) ?_
  simp only[cD]
  all_goals (refine cP ?_;refine jA ?_;refine aD (Rb (V:=λ q:TQ×qD=>.tuple #[.pointer (some ⟨q.1.bw,0,none⟩),.pointer (some ⟨q.1.ba,0,none⟩),.agg ⟨q.2.cells⟩,.agg ⟨[.int .i64 q.1.t.root,.bool q.1.t.ro]⟩,.bool true]) (Hc:=λ q=>gqH q) (Fc:=λ q=>aM q.1.a.L++aM q.1.W.z.L) (Oc:=λ q=>tqO q.1) (hc:=λ w1 hw=>N6 (hw.cl (.bJ .head)) hl (hw.cl (.bJ (.tail .head))) hl2)) (λ x19 h19=>?_))
  all_goals
   have hW:=h19.W
   have hrt:=h19.root
   have hpi:=h19.pl.in
   have hle:=h19.ile
   have hys:=I7 hW
   obtain⟨s1,s2,s3⟩:=hW.sz
   obtain⟨r,q,hro,hpl,hmem⟩:=h19.pin
   obtain⟨r',q',hro',hpl',_,hq⟩:=Dd hW (rG h19.j)
   obtain rfl:r'=r:=Option.some.inj (hro'.symm.trans hro)
   obtain rfl:q'=q:=Option.some.inj (hpl'.symm.trans hpl)
   obtain⟨σ,hσ⟩:=hW.wr.inv
   obtain⟨n1,x,υ,hx2⟩:=a8 (N:=11) (m:=x19.1.m) (by decide) (M:=x19.1.a.mm) (t:=x19.1.t) (i:=x19.2.p.i) ⟨σ,hσ.mm.trans h19.mm.symm,hσ.inv,hσ.ts _ (rG h19.j)⟩ (by rw[h19.mm];exact h19.pl.1)
  all_goals (refine Lc ?_;refine J54 ?_;refine rZ ?_;refine aJ (λ x7=>?_);refine aJ (λ x8=>?_);refine eC (λ _=>?_);refine eC (λ _=>?_);refine iV (λ _=>?_);refine iV (λ _=>?_);refine iO ?_;refine J2 ?_;refine oU ?_)
  all_goals
   refine aZ (λ c26=>?_) (λ c26=>?_)
   · exact nv c26
   · all_goals try (first|contradiction|(exfalso;omega)|(exfalso;have:=hn2 (by assumption);omega))
     all_goals (refine kK ?_;refine gM [0,1,2,3,4,5,6,7,8,9] ?_;refine X7 ?_;refine J4 ?_;refine bU (i:=6) (hq:=(aR (k:=3) rf cX eP (by simp only[List.drop_zero,List.take_succ_cons,List.take_zero];exact rfl) rfl)) (h:=?_);refine bN ?_;refine bB (i:=8) (hq:=(c0 (V:=.bool) (hc:=λ w1 hw=>aa (B:=8) (oO hW) (hw.H6 (.inr (.inr (.inr ⟨_,.tail _ (.tail _ (.head _)),rfl,rfl⟩))) (.inr (.inr (.inr ⟨_,.tail _ (.tail _ (.tail _ (.head _))),rfl,rfl⟩))) (λ f hf=>.inr (.inr (.inl (by simp[hf])))) hW.z.fit) (Ut hW.z) (by omega) (by omega) hys (by omega) _ _ hrt hro hpl (λ p hp=>(fg.in (z:=x19.1.W.z) (p:=p) (hq p hp)).2)))) (h:=λ x35 h35=>?_))
     all_goals
      have hn10:=hx2.n10
      have hn2:x35=true->n1=2:=λ hb=>(hx2.qu (by rw[h19.mm];exact(h35 hb).1 _ hmem)).1
     all_goals (refine J7 ?_;refine J2 ?_;refine aC (Zs rf (λ w=>Bd _ w)) rfl ?_;refine bP ?_;refine J3 ?_;refine aD (j5 (V:=λ x:Nat×Cd×Fr×AS=>.pointer (some ⟨x.1,0,none⟩)) (hs:=[(x19.1.ba,fI x19.1.a)]) (os:=fQ x19.1.a) (hs':=λ x=>[(x19.1.ba,fI x.2.2.2)]) (Hc:=λ x=>[(x.1,tO x19.1.ba x.2.1 0)]) (os':=λ x=>fQ x.2.2.2) (Oc:=λ _=>[]) (Fc:=λ x=>x.2.2.1) (A0:=aM x19.1.a.L) (hA:=bE.of λ f hf=>.inr (.inr (.inl (by simp[hf])))) (hc:=λ w1 hw=>Kv (dp (B:=[]) (n:=20) (m:=64) hrt hle (G4 _ _) h19.a h19.sm (λ f hf=>hf) (λ x hx=>nomatch hx) hw))) (λ x41 h41=>?_);refine iO ?_;refine J2 ?_;refine sH ?_)
     all_goals
      refine aZ (λ c43=>?_) (λ c43=>?_)
      · all_goals try (first|contradiction|(exfalso;omega)|(exfalso;have:=hn2 (by assumption);omega))
        all_goals
         cases c43
        all_goals refine cP ?_
        all_goals
         refine aQ Tryz.results5 (λ w hw=>?_)
         first
         | exact⟨rfl,hw.done⟩
         | exact⟨Q8 (hn5 (by assumption) (by assumption)),hw.done⟩
      · all_goals try (first|contradiction|(exfalso;omega)|(exfalso;have:=hn2 (by assumption);omega))
        all_goals (refine aX ?_;refine J2 ?_;refine aD (cM (V:=λ y:Fr×AS=>.int .i64 ((n1:Nat):Int)) (hs:=[(x41.1,tO x19.1.ba x41.2.1 0),(x19.1.ba,fI x41.2.2.2)]) (os:=fQ x41.2.2.2) (hs':=λ y=>[(x41.1,tO x19.1.ba (sN x) n1),(x19.1.ba,fI y.2)]) (os':=λ y=>fQ y.2) (Fc:=λ y=>y.1) (A0:=aM x41.2.2.2.L++(x41.2.2.1++[])) (hA:=bE.of λ f hf=>(List.mem_append.1 hf).elim (λ h=>(h41.1.2.2.fam f h).imp_right λ h=>.inr (.inl (h.elim (λ h=>List.mem_append_right _ (by simp[h])) λ h=>List.mem_append_left _ h))) λ h=>.inr (.inr (.inl (List.mem_append_left _ (by simpa using h))))) (hc:=λ w1 hw=>ei (N:=11) (by decide) (G4 _ _) h41.1 ⟨by rw[h19.mm];show(x19.1.W.z.L.map aP.c).length<=_;rw[List.length_map];omega,by rw[h19.mm];show x19.1.W.z.cs.length<=_;omega⟩ hx2.ran (λ f hf=>List.mem_append_left _ hf) (λ f hf=>List.mem_append_right _ hf) hw)) (λ x45 h45=>?_))
        all_goals
         have hmr:=iG hx2.mkd
         have hlen:x45.2.mm.nodes.length=υ.len:=by rw[h45.1]
         have hnd:(aB (bS x45.2.L) x.ref).c=υ.nd x.ref:=by rw[<- kU,h45.1]
         have hfa:∀f∈aM x45.2.L,f.2=[]∨f∈x45.1++(x41.2.2.1++(aM x19.1.a.L++aM x19.1.W.z.L++[])):=iy h41.1.2.2 h45.2.2 (λ f hf=>by simp[hf])
         have hsz1:=hx2.ran.sz (by decide) (G4 _ _)
         have hM:x19.1.a.mm.nodes.length<=100000000000/\x19.1.a.mm.cs.length<=100000000000:=⟨by rw[h19.mm];show(x19.1.W.z.L.map aP.c).length<=_;rw[List.length_map];omega,by rw[h19.mm];show x19.1.W.z.cs.length<=_;omega⟩
         have hsz0:υ.mm.nodes.length<=100000002000/\υ.mm.cs.length<=100000002000:=⟨by omega,by omega⟩
         rw[<- h45.1] at hsz0
         have hsz:x45.2.mm.Small:=⟨by omega,by omega⟩
         have hux:(aB (bS x45.2.L) x.ref).xs.length<=64:=by have:=xc hx2.inv hmr.1 hmr.2;rw[<- hnd] at this;exact this
         have huy:(aB (bS x45.2.L) x.ref).ys.length<=8:=by have:=vb hx2.inv hmr.1 hmr.2;rw[<- hnd] at this;exact this
        all_goals (refine iO ?_;refine J0 ?_;refine aN (cV (hc:=λ w1 hw=>V9 w1)) (λ x46=>?_);refine Cb ?_)
        all_goals ((refine aE ?_;refine aA ?_))
        all_goals (((refine aE ?_;refine aN (cV (hc:=λ w1 hw=>O6 (d:=true) rfl (hw.st.at cX))) (λ x50=>?_)));refine Mv ?_;refine aA ?_)
        all_goals ((refine aE ?_;refine aA ?_))
        all_goals (refine zJ ?_;refine aA ?_)
        all_goals ((refine dX 57 (λ g57=>?_) (λ g57=>?_)<;>(try (first|contradiction|(exfalso;omega)|(exfalso;have:=hn2 (by assumption);omega)))<;>((refine aE ?_;refine aA ?_))))
        all_goals ((refine aE ?_;refine aA ?_))
        all_goals ((refine dX 59 (λ g59=>?_) (λ g59=>?_)<;>(try (first|contradiction|(exfalso;omega)|(exfalso;have:=hn2 (by assumption);omega)))<;>(first|refine aI ?_|(refine aE ?_;refine aA ?_))))
        all_goals ((first|refine aI ?_|(refine aE ?_;refine lU ?_));((refine aE ?_;refine bY ?_));refine bY ?_;refine aA ?_)
        all_goals (first|(refine aE ?_;refine aA ?_)|(refine dX 64 (λ g64=>?_) (λ g64=>?_)<;>(try (first|contradiction|(exfalso;omega)|(exfalso;have:=hn2 (by assumption);omega)))<;>((refine aE ?_;refine aA ?_))))
        all_goals (((refine aE ?_;refine aN (cV (hc:=λ w1 hw=>pE (r:=x) (d:=true) rfl (if_pos rfl) (hw.st.at cX))) (λ x66=>?_)));((refine aE ?_;refine bZ ?_));refine ma ?_;refine aA ?_)
        all_goals ((refine dX 70 (λ g70=>?_) (λ g70=>?_)<;>(try (first|contradiction|(exfalso;omega)|(exfalso;have:=hn2 (by assumption);omega)))<;>((refine aE ?_;refine aA ?_))))
        all_goals (((refine aE ?_;refine aA ?_));((refine aE ?_;refine aN (cV (hc:=λ w1 hw=>pE (r:=x) (d:=true) rfl (if_pos rfl) (hw.st.at cX))) (λ x73=>?_)));((refine aE ?_;refine bZ ?_));((refine aE ?_;refine aD (j5 (V:=λ q:Option Addr×Option Addr=>.agg ⟨((aB (bS x45.2.L) x.ref).at_ q.1 q.2).nd.cells⟩) (hs:=[(x19.1.ba,fI x45.2)]) (os:=fQ x45.2) (hs':=λ _=>[(x19.1.ba,fI x45.2)]) (Hc:=λ _=>[]) (os':=λ _=>fQ x45.2) (Oc:=λ q=>[⟨q.2,cR (aB (bS x45.2.L) x.ref).ys,(aB (bS x45.2.L) x.ref).ys.length,164,2⟩,⟨q.1,aG (aB (bS x45.2.L) x.ref).xs,(aB (bS x45.2.L) x.ref).xs.length,37,1⟩]) (Fc:=λ _=>[]) (A0:=aM x45.2.L) (hA:=bE.of λ f hf=>(hfa f hf).imp_right λ h=>.inr (.inl h)) (hc:=λ w1 hw=>D8 h45.2.1 hsz (λ f hf=>hf) x.ref (by rw[hlen];exact hmr.2) hw)) (λ x75 h75=>?_)));((refine aE ?_;refine aD (c0 (V:=.bool) (hc:=λ w1 hw=>rU _ w1)) (λ x76 h76=>?_))))
        all_goals
         have hmt:x76=true:=h76.2 (show bV (aB (bS x45.2.L) x.ref).c by rw[hnd];exact hx2.mkd)
         subst hmt
        all_goals (refine Mv ?_;refine aH ?_)
        all_goals
         refine aZ (λ c78=>?_) (λ c78=>?_)
         · exact nv c78
         · all_goals try (first|contradiction|(exfalso;omega)|(exfalso;have:=hn2 (by assumption);omega))
           all_goals (refine aX ?_;refine J2 ?_;refine aN (cV (hc:=λ w1 hw=>pE (r:=x) (d:=true) rfl (if_pos rfl) (hw.st.at cX))) (λ x80=>?_);refine bZ ?_;refine iO ?_;refine dZ [(0,[]),(1,[]),(2,[]),(3,[]),(4,[]),(5,[]),(6,[]),(7,[]),(8,[]),(10,[]),(9,[2,4]),(11,[2,4]),(12,[]),(13,[])] ?_;refine aT ?_;refine cI (i:=1) (hq:=(Zs rf (λ w=>Bd _ w))) (h:=?_);refine bN ?_;refine mI ?_;refine gV ?_;refine gV ?_;refine aT ?_;refine bB (i:=9) (hq:=(j5 (V:=λ q:Option Addr×Option Addr=>.agg ⟨((aB (bS x45.2.L) x.ref).at_ q.1 q.2).nd.cells⟩) (hs:=[(x19.1.ba,fI x45.2)]) (os:=fQ x45.2) (hs':=λ _=>[(x19.1.ba,fI x45.2)]) (Hc:=λ _=>[]) (os':=λ _=>fQ x45.2) (Oc:=λ q=>[⟨q.2,cR (aB (bS x45.2.L) x.ref).ys,(aB (bS x45.2.L) x.ref).ys.length,164,2⟩,⟨q.1,aG (aB (bS x45.2.L) x.ref).xs,(aB (bS x45.2.L) x.ref).xs.length,37,1⟩]) (Fc:=λ _=>[]) (A0:=aM x45.2.L) (hA:=bE.of λ f hf=>(hfa f hf).imp_right λ h=>.inr (.inl h)) (hc:=λ w1 hw=>D8 h45.2.1 hsz (λ f hf=>hf) x.ref (by rw[hlen];exact hmr.2) hw))) (h:=λ x91 h91=>?_))
           all_goals
            have haA:∀X:AX,(x45.2.al ((aB (bS x45.2.L) x.ref).at_ x91.1 x91.2).nd (aB (bS x45.2.L) x.ref).xs (aB (bS x45.2.L) x.ref).ys x.ref X).Ok:=λ X=>h45.2.1.al X (by omega) (by omega) (db h45.2.1 x.ref) (by rw[hlen];have h9:x.ref<=(υ.len:Int):=hmr.2;omega)
            have hmA:∀X:AX,(x45.2.al ((aB (bS x45.2.L) x.ref).at_ x91.1 x91.2).nd (aB (bS x45.2.L) x.ref).xs (aB (bS x45.2.L) x.ref).ys x.ref X).mm=υ.mm.push (υ.nd x.ref) x.ref:=λ X=>by rw[Au,h45.1,<- hnd];rfl
            have hlA:∀X:AX,(x45.2.al ((aB (bS x45.2.L) x.ref).at_ x91.1 x91.2).nd (aB (bS x45.2.L) x.ref).xs (aB (bS x45.2.L) x.ref).ys x.ref X).mm.nodes.length=υ.len+1:=λ X=>by rw[hmA X];show(υ.mm.nodes++[_]).length=_;rw[List.length_append];rfl
            have hsA:∀X:AX,(x45.2.al ((aB (bS x45.2.L) x.ref).at_ x91.1 x91.2).nd (aB (bS x45.2.L) x.ref).xs (aB (bS x45.2.L) x.ref).ys x.ref X).mm.Small:=λ X=>by rw[hmA X];have:=E2 (v:=υ.nd x.ref) (i:=x.ref) (s:=υ.mm) (by rw[<- h45.1];exact hsz0);exact⟨by omega,by omega⟩
            obtain⟨n2,y2,s2,hx3⟩:=ar (N:=11) (by decide) hx2
            have hn20:=hx3.n10
            have hn5:x35=true->y2.found=true->n2=5:=λ hb hy=>hx3.n5 (by have h5:=(hx2.qu (by rw[h19.mm];exact(h35 hb).1 _ hmem)).2;show(bH υ.mm.nodes (bD υ.mm.cs x19.1.t.root)).kind=2;rw[h5,h19.mm];exact(h35 hb).2) hy
           all_goals (refine bB (i:=11) (hq:=(cM (V:=λ _:AX=>.int .i64 ((υ.len+1:Nat):Int)) (hs:=[(x19.1.ba,fI x45.2)]) (os:=fQ x45.2) (A0:=[(((aB (bS x45.2.L) x.ref).at_ x91.1 x91.2).nd.brA,aG (aB (bS x45.2.L) x.ref).xs),(((aB (bS x45.2.L) x.ref).at_ x91.1 x91.2).nd.prA,cR (aB (bS x45.2.L) x.ref).ys)]) (hs':=λ X=>[(x19.1.ba,fI (x45.2.al ((aB (bS x45.2.L) x.ref).at_ x91.1 x91.2).nd (aB (bS x45.2.L) x.ref).xs (aB (bS x45.2.L) x.ref).ys x.ref X))]) (os':=λ X=>fQ (x45.2.al ((aB (bS x45.2.L) x.ref).at_ x91.1 x91.2).nd (aB (bS x45.2.L) x.ref).xs (aB (bS x45.2.L) x.ref).ys x.ref X)) (hA:=bE.cons (.inr (.inr (.inr ⟨_,.tail _ (.head _),rfl,rfl⟩))) (bE.cons (.inr (.inr (.inr ⟨_,.head _,rfl,rfl⟩))) bE.nil)) (Fc:=λ X=>(nX ((aB (bS x45.2.L) x.ref).at_ x91.1 x91.2).nd (aB (bS x45.2.L) x.ref).xs (aB (bS x45.2.L) x.ref).ys x45.2.cs.length X).fr) (hc:=λ w1 hw=>by rw[<- hlen];exact Hq (n:=((aB (bS x45.2.L) x.ref).at_ x91.1 x91.2).nd) (xs:=(aB (bS x45.2.L) x.ref).xs) (ys:=(aB (bS x45.2.L) x.ref).ys) h45.2.1 hsz x.ref (Bk h45.2.1.fit.all x.ref).brN (Bk h45.2.1.fit.all x.ref).prN (by omega) (by omega) (λ f hf=>hf) hw))) (h:=λ x93 h93=>?_);refine bB (i:=12) (hq:=(j5 (V:=λ x:Nat×Cd×Fr×AS=>.pointer (some ⟨x.1,0,none⟩)) (hs:=[(x19.1.ba,fI (x45.2.al ((aB (bS x45.2.L) x.ref).at_ x91.1 x91.2).nd (aB (bS x45.2.L) x.ref).xs (aB (bS x45.2.L) x.ref).ys x.ref x93))]) (os:=fQ (x45.2.al ((aB (bS x45.2.L) x.ref).at_ x91.1 x91.2).nd (aB (bS x45.2.L) x.ref).xs (aB (bS x45.2.L) x.ref).ys x.ref x93)) (hs':=λ x=>[(x19.1.ba,fI x.2.2.2)]) (Hc:=λ x=>[(x.1,tO x19.1.ba x.2.1 0)]) (os':=λ x=>fQ x.2.2.2) (Oc:=λ _=>[]) (Fc:=λ x=>x.2.2.1) (A0:=aM (x45.2.al ((aB (bS x45.2.L) x.ref).at_ x91.1 x91.2).nd (aB (bS x45.2.L) x.ref).xs (aB (bS x45.2.L) x.ref).ys x.ref x93).L) (hA:=bE.of λ f hf=>((AS.iP.al x45.2 ((aB (bS x45.2.L) x.ref).at_ x91.1 x91.2).nd (aB (bS x45.2.L) x.ref).xs (aB (bS x45.2.L) x.ref).ys x.ref x93).fam f hf).elim .inl λ h=>h.elim (λ h=>(hfa f h).imp_right λ h=>.inr (.inl (List.mem_append_right _ h))) λ h=>.inr (.inr (.inl (List.mem_append_left _ h)))) (hc:=λ w1 hw=>Kv (Oj (t:=x19.1.t) (i:=x19.2.p.i) (bJ:=x.ref) (nw:=((υ.len+1:Nat):Int)) (B:=[]) (n:=20) (m:=64) hrt (by rw[hlA x93];have:=hx2.ik;have:=dV (N:=υ.mm.nodes) (i:=x19.2.p.i) (by rw[show(bH υ.mm.nodes x19.2.p.i).kind=2 from hx2.ik];decide);show _<=((υ.mm.nodes.length+1:Nat):Int);omega) (by rw[hlA x93];exact Int.le_refl _) (N8 _ _ _ _) (haA x93) (hsA x93) (λ f hf=>hf) (λ x hx=>nomatch hx) hw)))) (h:=λ x94 h94=>?_);refine J7 ?_;refine kX ?_;refine sH ?_)
           all_goals
            refine aZ (λ c96=>?_) (λ c96=>?_)
            · all_goals try (first|contradiction|(exfalso;omega)|(exfalso;have:=hn2 (by assumption);omega))
              all_goals
               cases c96
              all_goals refine cP ?_
              all_goals
               refine aQ Tryz.results5 (λ w hw=>?_)
               first
               | exact⟨rfl,hw.done⟩
               | exact⟨Q8 (hn5 (by assumption) (by assumption)),hw.done⟩
            · all_goals try (first|contradiction|(exfalso;omega)|(exfalso;have:=hn2 (by assumption);omega))
              all_goals (refine aX ?_;refine J2 ?_;refine aD (cM (V:=λ y:Fr×AS=>.int .i64 ((n2:Nat):Int)) (hs:=[(x94.1,tO x19.1.ba x94.2.1 0),(x19.1.ba,fI x94.2.2.2)]) (os:=fQ x94.2.2.2) (hs':=λ y=>[(x94.1,tO x19.1.ba (sN y2) n2),(x19.1.ba,fI y.2)]) (os':=λ y=>fQ y.2) (Fc:=λ y=>y.1) (A0:=aM x94.2.2.2.L++(x94.2.2.1++[])) (hA:=bE.of λ f hf=>(List.mem_append.1 hf).elim (λ h=>(h94.1.2.2.fam f h).elim .inl λ h=>h.elim (λ h=>((AS.iP.al x45.2 ((aB (bS x45.2.L) x.ref).at_ x91.1 x91.2).nd (aB (bS x45.2.L) x.ref).xs (aB (bS x45.2.L) x.ref).ys x.ref x93).fam f h).elim .inl λ h=>h.elim (λ h=>(hfa f h).imp_right λ h=>.inr (.inl (List.mem_append_right _ (List.mem_append_right _ h)))) λ h=>.inr (.inr (.inl (List.mem_append_right _ (List.mem_append_left _ h))))) λ h=>.inr (.inr (.inl (List.mem_append_left _ h)))) λ h=>.inr (.inr (.inl (List.mem_append_left _ (by simpa using h))))) (hc:=λ w1 hw=>ei (N:=11) (by decide) (N8 _ _ _ _) (by have:=h94.1;rw[hmA x93] at this;exact this) (by have:=E2 (v:=υ.nd x.ref) (i:=x.ref) (s:=υ.mm) (by rw[<- h45.1];exact hsz0);exact⟨by omega,by omega⟩) hx3.ran (λ f hf=>List.mem_append_left _ hf) (λ f hf=>List.mem_append_right _ hf) hw)) (λ x98 h98=>?_);refine J1 ?_;refine J2 ?_;refine aN (cV (hc:=λ w1 hw=>O6 (d:=true) rfl (hw.st.at cX))) (λ x100=>?_);refine aA ?_)
              all_goals ((refine aE ?_;refine aA ?_))
              all_goals (((refine aE ?_;refine xY ?_));refine bY ?_;refine aA ?_)
              all_goals ((refine dX 105 (λ g105=>?_) (λ g105=>?_)<;>(try (first|contradiction|(exfalso;omega)|(exfalso;have:=hn2 (by assumption);omega)))<;>((refine aE ?_;refine aA ?_))))
              all_goals (((refine aE ?_;refine tS ?_));((refine aE ?_;refine aA ?_)))
              all_goals ((refine dX 108 (λ g108=>?_) (λ g108=>?_)<;>(try (first|contradiction|(exfalso;omega)|(exfalso;have:=hn2 (by assumption);omega)))<;>(first|refine aI ?_|(refine aE ?_;refine aA ?_))))
              all_goals ((first|refine aI ?_|(refine aE ?_;refine aN (cV (hc:=λ w1 hw=>pE (r:=y2) (d:=true) rfl (if_pos rfl) (hw.st.at cX))) (λ x110=>?_)));(first|refine aI ?_|(refine aE ?_;refine bZ ?_));(first|refine aI ?_|(refine aE ?_;refine tS ?_));((refine aE ?_;refine bY ?_));((refine aE ?_;refine aA ?_)))
              all_goals (first|refine aI ?_|(refine dX 114 (λ g114=>?_) (λ g114=>?_)<;>(try (first|contradiction|(exfalso;omega)|(exfalso;have:=hn2 (by assumption);omega)))<;>(first|refine aI ?_|(refine aE ?_;refine aA ?_))))
              all_goals ((first|refine aI ?_|(refine aE ?_;refine lK ?_));((refine aE ?_;refine bY ?_));refine bY ?_;refine J1 ?_)
              all_goals
               refine aQ Tryz.results5 (λ w hw=>?_)
               first
               | exact⟨rfl,hw.done⟩
               | exact⟨Q8 (hn5 (by assumption) (by assumption)),hw.done⟩
end Go.Proofs.YtbajmaoegmbfgaaGreat

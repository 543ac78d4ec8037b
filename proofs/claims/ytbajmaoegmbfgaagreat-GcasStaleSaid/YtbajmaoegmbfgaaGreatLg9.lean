/- Merged. -/
import Derived.Test.YtbajmaoegmbfgaaGreatGWq1
import Derived.Test.YtbajmaoegmbfgaaGreatGAr4
set_option linter.unusedSimpArgs false
set_option linter.unusedVariables false
namespace Go.Proofs.YtbajmaoegmbfgaaGreat
open Go Go.RowKit Go.Ct
theorem rq{a:AS}{L:List aP}(ok:a.Ok)(e:L.map aP.c=a.mm.nodes)(hc:a.mm.cs.length<=100000000000):D7 L:=λ v hv=>by
 have hb:=ok.mo.nd v.c (by rw[<- e];exact List.mem_map_of_mem hv)
 have h1:=hb.main
 have h2:=hb.prev
 have h3:=hb.status
 have e1:v.c.main=v.nd.main:=rfl
 have e2:v.c.prev=v.nd.prev:=rfl
 have e3:v.c.status=v.nd.status:=rfl
 exact⟨hb.bm,by omega,by omega,by omega⟩
theorem Ui{H:ByteArray->Nat}{M:Mm}{ts:List dL}{σ:Kw}{t:dL}{i m:Int}{u:Nv}(q:QS H M ts σ)(ht:t∈ts)(hu:bQ u)(hi:i<=M.nodes.length)(h:t.ro=false->(aS M.nodes (aW M.cs t.root)).gen≠(aS M.nodes i).gen) :
  t.ro=false->(aS (M.push u m).nodes (aW (M.push u m).cs t.root)).gen≠(aS (M.push u m).nodes i).gen:=by
 obtain⟨e1,e2,_⟩:=Jv (M:=M) (m:=m) hu
 obtain⟨_,r2,r3⟩:=q.root ht
 have hrb:aW M.cs t.root<=M.nodes.length:=(dJ (N:=M.nodes) (i:=aW M.cs t.root) (by rw[r3];decide)).2
 rw[e2,nQ r2,e1,iG hrb,iG hi]
 exact h
theorem Xq{ba k B k' B1 q N:Nat}{t:dL}{i m n:Int}{a:AS}{G:Fr}{y z:TY}(hN:6<=N)(h:Ew t i m n a.mm)(hg:t.ro=false->(aS a.mm.nodes (aW a.mm.cs t.root)).gen≠(aS a.mm.nodes i).gen)(hy:zb ba (Xv t i m n) a G k B y)
  (hz:TYS ba (lG ((Ct.gX (Xv t i m n) a.mm).1,y.a.mm) N) y.a (y.F++G) k' B1 q z):TK ba (.done (kF 0 false)) z.c z.a (z.F++(y.F++G)) 0/\z.a.mm=Cy a.mm i m n:=by
 have e:lG ((Ct.gX (Xv t i m n) a.mm).1,y.a.mm) N=(.done (kF 0 false),Cy a.mm i m n):=by
  rw[hy.mm]
  exact h.aAN hg hN
 refine⟨hz.tk.zero (by rw[e]),?_⟩
 rw[hz.mm,e]
set_option maxRecDepth 100000 in
set_option maxHeartbeats 4000000 in
theorem Qx{l l2:List Int}{a a2:Option Addr}{c c2:Nat}{w:World}(h1:Go.Ct.Cl w a (aG l))(hl:l.length<=17592186043904)(h2:Go.Ct.Cl w a2 (aG l2))(hl2:l2.length<=17592186043904) :
    Calls Tryz.prog 3 #[.slice a l.length c,.slice a2 l2.length c2] w λ e w'=>e=.returned (.bool true)/\St w [] [] w':=by
  refine enter Tryz.func3 Tryz.ntmps3 rfl rfl (SF.s2 h1 h2) ?_
  simp only[cC]
  all_goals (refine Kc5 ?_;refine aD (Ul (Hc:=λ q:Nat×Nat×Nat×Wd=>wH q.2.2.1 q.1 q.2.1 q.2.2.2) (H1:=λ q=>(q.1,mR q.2.1 (q.2.2.1:Int) q.2.2.2.pt q.2.2.2.ts.length q.2.2.2.kt q.2.2.2.pe (nL q.2.2.2.ex).length q.2.2.2.ke)::(q.2.1,xM q.2.2.2.z)::Ha q.2.1 q.2.2.2.ex) (Fc:=λ q=>aM q.2.2.2.z.L) (F1:=λ q=>aM q.2.2.2.z.L) (Oc:=λ q=>wO q.2.2.2) (O1:=λ q=>⟨q.2.2.2.pt,rZ q.2.2.2.ts,q.2.2.2.kt,29,2⟩::⟨q.2.2.2.pe,yP (nL q.2.2.2.ex),q.2.2.2.ke,74,1⟩::⟨q.2.2.2.z.pn,iJ q.2.2.2.z.L,q.2.2.2.z.cn,47,14⟩::⟨q.2.2.2.z.pc,aG q.2.2.2.z.cs,q.2.2.2.z.cc,37,1⟩::Db q.2.2.2.ex) (hH1:=λ q=>List.append_nil _) (hF1:=λ q=>List.append_nil _) (hO1:=λ q=>List.append_nil _) (hc:=λ w1 hw=>ay (hw.cl fin) hl)) (λ x15 h15=>?_))
  all_goals
   have hm:=h15.1
   have hW:=h15.2
   have htl:=hW.tl
   have ht0:=hW.t0
  all_goals (refine Ka5 ?_;refine aD (cT 0 0 (V:=λ _:XS×List aP=>.tuple #[]) (hs:=wH x15.2.2.1 x15.1 x15.2.1 x15.2.2.2) (os:=wO x15.2.2.2) (A0:=aM x15.2.2.2.z.L) (H1:=λ r:XS×List aP=>[(x15.1,mR x15.2.1 (x15.2.2.1:Int) x15.2.2.2.pt x15.2.2.2.ts.length x15.2.2.2.kt none 0 0),(x15.2.1,xM r.1)]) (O1:=λ r=>[⟨x15.2.2.2.pt,rZ x15.2.2.2.ts,x15.2.2.2.kt,29,2⟩,⟨none,yP [],0,74,1⟩,⟨r.1.pn,iJ r.1.L,r.1.cn,47,14⟩,⟨r.1.pc,aG r.1.cs,r.1.cc,37,1⟩]) (F1:=λ r=>aM r.1.L) (hc:=λ w hs=>m8 (by decide) (by decide) (by decide) hm hW (λ f hf=>hf) hs) (hA:=bG.of λ f hf=>.inr (.inr (.inl hf))) (hF1:=λ r hr f hf=>by rw[hr.2,dD] at hf;exact .inr ((List.mem_append.1 hf).elim (λ h=>List.mem_append_right _ h) (λ h=>List.mem_append_left _ h)))) (λ x17 h17=>?_))
  all_goals
   have hZ:Cs x15.2.2.1 2434356874 1192612 0 (zW x15.2.2.2 x17.1):=h17.1
   have s1:x17.1.L.length<=2434356874:=hZ.sz.1
   have s2:x17.1.cs.length<=2434356874:=hZ.sz.2.1
   obtain⟨σ,hq⟩:=WR.rest (show WR (H8 x15.2.2.1) x15.2.2.1 x17.1.mm x15.2.2.2.ts [] from hZ.wr)
  all_goals (refine aH ?_;refine J2 ?_;refine aD (Ul (Fc:=λ _=>[]) (Oc:=λ _=>[]) (hc:=λ w1 hw=>vn)) (λ x19 h19=>?_);refine jF ?_)
  all_goals
   refine eO [7,20,21,22,23,24,25,26,27,28,29,30,31,32] (λ j:Nat×Nat=>[(7,.pointer (some ⟨j.1,0,none⟩))]) (λ j=>j.2<x15.2.2.2.ts.length) (λ j=>[(j.1,.cells ⟨[.int .i64 (x15.2.2.2.ts.getD j.2 ⟨0,false⟩).root,.bool (x15.2.2.2.ts.getD j.2 ⟨0,false⟩).ro]⟩ 29 (0,0)),(x19,Jo a2 l2 c2 (mX l2 0)),(x15.1,mR x15.2.1 (x15.2.2.1:Int) x15.2.2.2.pt x15.2.2.2.ts.length x15.2.2.2.kt none 0 0),(x15.2.1,xM x17.1)]) (λ _=>aM x17.1.L) (λ _=>[⟨x15.2.2.2.pt,rZ x15.2.2.2.ts,x15.2.2.2.kt,29,2⟩,⟨none,yP [],0,74,1⟩,⟨x17.1.pn,iJ x17.1.L,x17.1.cn,47,14⟩,⟨x17.1.pc,aG x17.1.cs,x17.1.cc,37,1⟩]) (by decide) (λ _=>by exact rfl) ?_ (λ j f hx=>?_)
   · refine gI (.one 0 [] (.one 1 [] (.one 2 [] (.one 3 [] (.one 4 [] (.one 5 [] (.one 6 [] (.one 7 [] (.one 8 [] (.one 9 [] (.two 10 [3] (.one 11 [] (.one 12 [] (.one 13 [3,8,11,12] (.one 14 [] .nil)))) 0 [] (.two 13 [3,8] (.one 10 [3] (.one 11 [] (.one 12 [] (.one 14 [] .nil)))) 0 [] .nil)))))))))))) ?_
     all_goals (refine bj ?_;refine Wf ?_;refine oI ?_)
     all_goals
      refine gR (E:=[10,13]) (by decide +kernel) ((.cons ?_ (.cons ?_ .nil)))
      · refine mN (i:=10) (hq:=(xA (hc:=λ w1 hw=>eR x15.2.2.2.ts.length (hw.tape dC fin hl2) (by omega) (by omega)))) (h:=λ x30 h30=>?_)
        all_goals (refine bV (i:=11) (hq:=(Kt (cs:=rZ x15.2.2.2.ts) (k:=x30) rf rf gE eT (.own .head) (by omega) (by rw[kE];omega))) (h:=?_);refine bV (i:=12) (hq:=(Cr (ts:=x15.2.2.2.ts) (q:=x30) rf eT (.own .head) (by omega))) (h:=?_);refine gU (hfire:=(λ _=>by first|((repeat (first|exact aJ.nil|refine aJ.cons (by first|exact eG|exact fC (hq:=Kt (cs:=rZ x15.2.2.2.ts) (k:=x30) rf rf gE eT (.own .head) (by omega) (by rw[kE];omega))|exact fC (hq:=Cr (ts:=x15.2.2.2.ts) (q:=x30) rf eT (.own .head) (by omega))|exact a_un) ?_));done)|(refine eY ?_;(repeat (first|exact aJ.nil|refine aJ.cons (by first|exact eG|exact fC (hq:=Kt (cs:=rZ x15.2.2.2.ts) (k:=x30) rf rf gE eT (.own .head) (by omega) (by rw[kE];omega))|exact fC (hq:=Cr (ts:=x15.2.2.2.ts) (q:=x30) rf eT (.own .head) (by omega))|exact a_un) ?_));done))) (h:=λ x7=>?_);refine zT ?_)
        all_goals
         refine fH ((x7,x30)) ?_ (hw1:=λ w hw=>hw)
         · omega
      · refine gW (i:=13) (h:=λ x7=>?_)
        all_goals (refine bB (i:=10) (hq:=(xA (hc:=λ w1 hw=>eR x15.2.2.2.ts.length (hw.tape dC fin hl2) (by omega) (by omega)))) (h:=λ x30 h30=>?_);refine bV (i:=11) (hq:=(Kt (cs:=rZ x15.2.2.2.ts) (k:=x30) rf rf gE eT (.own .head) (by omega) (by rw[kE];omega))) (h:=?_);refine bV (i:=12) (hq:=(Cr (ts:=x15.2.2.2.ts) (q:=x30) rf eT (.own .head) (by omega))) (h:=?_);refine zT ?_)
        all_goals
         refine fH ((x7,x30)) ?_ (hw1:=λ w hw=>hw)
         · omega
   dsimp only[hY,List.map,List.cons_append,List.nil_append]
   have htm:=Fu hx
   have hrt:=hZ.root (by decide) htm
  all_goals (refine Kb3 ?_;refine aA ?_;refine aD (cM (V:=λ v:vF=>.tuple #[.agg ⟨v.cells⟩,.bool true]) (hs:=[(x19,Jo a2 l2 c2 (mX l2 0)),(x15.1,mR x15.2.1 (x15.2.2.1:Int) x15.2.2.2.pt x15.2.2.2.ts.length x15.2.2.2.kt none 0 0),(x15.2.1,xM x17.1)]) (os:=Al x17.1) (hs':=λ _=>[(x19,Jo a2 l2 c2 (mX l2 (mX l2 0))),(x15.1,mR x15.2.1 (x15.2.2.1:Int) x15.2.2.2.pt x15.2.2.2.ts.length x15.2.2.2.kt none 0 0),(x15.2.1,xM x17.1)]) (os':=λ _=>Al x17.1) (Fc:=λ _=>[]) (A0:=(a2,aG l2)::aM x17.1.L) (hA:=bG.cons (.inr (.inl (.tail _ (.head _)))) (bG.of λ f hf=>.inr (.inr (.inl hf)))) (hc:=λ w1 hw=>jh hZ (by decide) htm hrt hl2 (λ f hf=>List.mem_cons_of_mem _ hf) (List.mem_cons_self ..) hw)) (λ x37 h37=>?_))
  all_goals
   have hpl:=h37.1
   have hpi:=hpl.in
   have hpm:=hpl.inm
   have hmk:=hpl.mk
   have hbm:=hq.body (M:=x17.1.mm) hpl.2
   obtain⟨r,_,hro0,_,hr1,hr2,_⟩:=Sc hZ htm
   obtain⟨kr,rfl⟩:∃k:Nat,r=((k+1:Nat):Int):=⟨(r-1).toNat,by omega⟩
   have hrv:=hq.kC (M:=x17.1.mm) htm hro0
   replace hr2:((kr+1:Nat):Int)<=x17.1.L.length:=hr2
   obtain⟨u,hu⟩:∃u,u=aB x17.1.L x37.p.m:=⟨_,rfl⟩
   replace hpm:1<=x37.p.m/\x37.p.m<=x17.1.L.length:=hpm
   replace hpi:1<=x37.p.i/\x37.p.i<=x17.1.L.length:=hpi
   have hum:u∈x17.1.L:=by rw[hu];unfold aB;rw[if_pos hpm];exact fL (by omega)
   have huc:u.c=aS x17.1.mm.nodes x37.p.m:=by rw[hu];exact rA _ _
   have hfit:=hZ.z.fit u hum
   have hub:lX x17.1.L.length x17.1.cs.length {u.c with main:=0,prev:=0,status:=0}:=Y7 (hZ.z.nd u hum)
   have huy:u.ys.length<=8:=Ju hZ u hum
   have hux:u.xs.length<=64:=by rw[hu];exact Gk (mT hZ) (L0 hZ.z) x37.p.m
   have hbr:(u.nd.brA,aG u.xs)∈aM x17.1.L:=oJ.2 ⟨u,hum,by simp[aP.fr]⟩
   have hpr:(u.nd.prA,cY u.ys)∈aM x17.1.L:=oJ.2 ⟨u,hum,by simp[aP.fr]⟩
  all_goals (refine N0 ?_;refine aK (λ x8=>?_);refine Br ?_;refine mD ?_;refine aD (y3 (V:=λ q:Nat×AS=>.pointer (some ⟨q.1,0,none⟩)) (hs:=[(x15.2.1,xM x17.1)]) (os:=Al x17.1) (hs':=λ _=>[(x15.2.1,xM x17.1.a0)]) (Hc:=λ q=>[(q.1,gH q.2)]) (os':=λ _=>Al x17.1) (Oc:=λ q=>gK q.2) (Fc:=λ q=>aM q.2.L) (A0:=aM x17.1.L) (hA:=bG.of λ f hf=>.inr (.inr (.inl hf))) (hc:=λ w1 hw=>Xe hZ.z (mT hZ) (by omega) (by omega) (λ f hf=>hf) hw)) (λ x44 h44=>?_))
  all_goals
   obtain⟨hmm0,hok0⟩:=h44
   have hl0:x44.2.mm.nodes.length=x17.1.L.length:=by rw[hmm0];show(x17.1.L.map aP.c).length=_;rw[List.length_map]
   have hc0:x44.2.mm.cs.length=x17.1.cs.length:=by rw[hmm0];rfl
   have hak0:AK x44.2 (aM x44.2.L++aM x17.1.L) 2434356874:=⟨hok0,by omega,by omega,λ f hf=>.inr (List.mem_append_left _ hf)⟩
  all_goals (refine jF ?_;refine aV ?_;refine eC [(0,[]),(1,[]),(2,[]),(3,[]),(4,[]),(5,[]),(6,[]),(7,[]),(8,[]),(9,[]),(10,[]),(11,[]),(12,[]),(13,[]),(14,[]),(15,[]),(16,[]),(19,[]),(20,[]),(21,[]),(22,[]),(23,[]),(24,[]),(25,[]),(26,[]),(17,[22,25,26]),(18,[]),(27,[]),(28,[]),(29,[]),(30,[])] ?_;refine aN ?_;refine K3 ?_;refine aN ?_)
  all_goals ((refine aN ?_))
  all_goals (refine vp ?_;refine aN ?_)
  all_goals ((refine aU ?_))
  all_goals (((refine bT ?_));((refine K3 ?_));((refine aN ?_)))
  all_goals ((refine n7 55 (λ g55=>?_) (λ g55=>?_)<;>(try (first|contradiction|(exfalso;omega)))<;>(first|refine fN ?_|(refine aN ?_))))
  all_goals (refine vu ?_;refine w4 ?_;(first|refine fN ?_|(refine aN ?_));refine vu ?_;(first|refine fN ?_|(refine sY ?_));(first|refine fN ?_|(refine aU ?_));(first|refine fN ?_|(refine bV (i:=25) (hq:=(aT (k:=3) rf dC eT (by simp only[List.drop_zero,List.take_succ_cons,List.take_zero];exact rfl) rfl)) (h:=?_)));(first|refine fN ?_|(refine bT ?_));(first|refine fN ?_|(refine bB (i:=17) (hq:=(cM (V:=λ _:Unit=>(aB x17.1.L x37.p.i).nd.v) (hs:=[(x15.2.1,xM x17.1.a0)]) (os:=Al x17.1) (hs':=λ _=>[(x15.2.1,xM x17.1.a0)]) (os':=λ _=>Al x17.1) (Fc:=λ _=>[]) (A0:=[]) (hc:=λ w1 hw=>Md hw x37.p.i (by omega) (by show x17.1.L.length<=_;omega)))) (hfire:=(λ _=>by first|((repeat (first|exact aJ.nil|refine aJ.cons (by first|exact eG|exact fC (hq:=aT (k:=3) rf dC eT (by simp only[List.drop_zero,List.take_succ_cons,List.take_zero];exact rfl) rfl)|exact a_un) ?_));done)|(refine eY ?_;(repeat (first|exact aJ.nil|refine aJ.cons (by first|exact eG|exact fC (hq:=aT (k:=3) rf dC eT (by simp only[List.drop_zero,List.take_succ_cons,List.take_zero];exact rfl) rfl)|exact a_un) ?_));done))) (h:=λ x62 h62=>?_)));(first|refine fN ?_|(refine lC ?_));(first|refine fN ?_|(refine cR (i:=27) (hq:=(cV (hc:=λ w1 hw=>a7 (k:=kr) (mT hZ) (hw.Gm (.inr (.inr (.inr ⟨_,.tail _ (.tail _ (.tail _ (.tail _ (.head _)))),rfl,rfl⟩))) (.inr (.inr (.inr ⟨_,.tail _ (.tail _ (.tail _ (.tail _ (.tail _ (.head _))))),rfl,rfl⟩))) (λ f hf=>.inr (.inr (.inl (by simp[hf])))) hZ.z.fit) (L0 hZ.z) (by show x17.1.L.length<=_;omega) (by show x17.1.cs.length<=_;omega) _ _ hro0 (by show kr<x17.1.L.length;omega) hrt))) (h:=λ x72=>?_)));(first|refine fN ?_|(refine nE ?_));((refine jD ?_));refine jD ?_;refine eL ?_)
  all_goals
   refine bC (λ c75=>?_) (λ c75=>?_)
   · try exact nv c75
     all_goals try (first|contradiction|(exfalso;omega))
     all_goals refine jG ?_
     all_goals ((refine Ka3 ?_))
     all_goals (refine Rx ?_;refine aA ?_)
     all_goals ((refine aE ?_;refine aQ (cV (hc:=λ w1 hw=>Kq w1)) (λ x82=>?_)))
     all_goals (refine Kb7 ?_)
     all_goals
      refine aR Tryz.results3 (λ w hw=>?_)
      first
      | exact⟨rfl,hw.done⟩
      | exact⟨L6 _,hw.done⟩
   · all_goals try (first|contradiction|(exfalso;omega))
     all_goals refine kW ?_
     all_goals
      have hst:(x15.2.2.2.ts.getD j.2 ⟨0,false⟩).ro=false->(aS x17.1.mm.nodes (aW x17.1.mm.cs (x15.2.2.2.ts.getD j.2 ⟨0,false⟩).root)).gen≠(aS x17.1.mm.nodes x37.p.i).gen:=by
       intro hro
       rw[hrv,show aS x17.1.mm.nodes x37.p.i=(aB x17.1.L x37.p.i).c from(rA _ _).symm,show aS x17.1.mm.nodes ((kr+1:Nat):Int)=(aB x17.1.L ((kr+1:Nat):Int)).c from(rA _ _).symm]
       first
        | (exfalso;simp_all;done)
        | exact λ e=>c75 e.symm
     all_goals (refine eC [(0,[]),(1,[]),(2,[]),(3,[]),(4,[]),(5,[]),(6,[]),(7,[]),(8,[]),(9,[]),(10,[]),(11,[]),(12,[]),(13,[]),(15,[]),(16,[]),(14,[2,4,6,16]),(17,[2,4,6]),(18,[]),(19,[])] ?_;refine aN ?_;refine cJ (i:=1) (hq:=(u7 rf (λ w=>Jq _ w))) (h:=?_);refine bT ?_;refine lH ?_;refine lH ?_;refine Wf ?_;refine lH ?_;refine lH ?_;refine bB (i:=14) (hq:=(cM (V:=λ _:Unit=>u.nd.v) (hs:=[(x15.2.1,xM x17.1.a0)]) (os:=Al x17.1) (hs':=λ _=>[(x15.2.1,xM x17.1.a0)]) (os':=λ _=>Al x17.1) (Fc:=λ _=>[]) (A0:=[]) (hc:=λ w1 hw=>by rw[hu];exact Md hw x37.p.m (by omega) (by show x17.1.L.length<=_;omega)))) (h:=λ x98 h98=>?_);refine bB (i:=17) (hq:=(cM (V:=λ _:AX=>.int .i64 ((x17.1.L.length+1:Nat):Int)) (hs:=[(x44.1,gH x44.2)]) (os:=gK x44.2) (A0:=[(u.nd.brA,aG u.xs),(u.nd.prA,cY u.ys)]) (hA:=bG.of λ f hf=>.inr (.inr (.inl (List.mem_append_right _ (by simp only[List.mem_cons,List.not_mem_nil,or_false] at hf;rcases hf with rfl|rfl;exact hbr;exact hpr))))) (hs':=λ X=>[(x44.1,gH (x44.2.al u.nd u.xs u.ys x37.p.m X))]) (os':=λ X=>gK (x44.2.al u.nd u.xs u.ys x37.p.m X)) (Fc:=λ X=>(nM u.nd u.xs u.ys x44.2.cs.length X).fr) (hc:=λ w1 hw=>by rw[<- hl0];exact Gt (n:=u.nd) (xs:=u.xs) (ys:=u.ys) hok0 (hak0.small (by omega)) x37.p.m hfit.brN hfit.prN (by omega) (by omega) (λ f hf=>hf) hw))) (h:=λ x101 h101=>?_))
     all_goals
      have hak1:=hak0.al (n:=u.nd) (xs:=u.xs) (ys:=u.ys) (init:=x37.p.m) (by omega) (by omega) (by rw[hl0,hc0];exact hub) (by omega) x101
      have hmm1:(x44.2.al u.nd u.xs u.ys x37.p.m x101).mm=x17.1.mm.push u.c x37.p.m:=by rw[tR,hmm0];rfl
      have hl1:(x44.2.al u.nd u.xs u.ys x37.p.m x101).mm.nodes.length=x17.1.L.length+1:=by rw[hmm1];show(x17.1.mm.nodes++[_]).length=_;rw[List.length_append,<- hmm0,hl0];rfl
      have hsw:=uc (u:=u.c) hq htm hbm.1 hbm.2 (by rw[huc];exact hmk)
      have hpp:=Qw hq (m:=x37.p.m) hmk
      have hg1:(x44.2.al u.nd u.xs u.ys x37.p.m x101).mm.gen=x17.1.mm.gen:=by rw[hmm1];rfl
      rw[<- huc,<- hmm1,<- hg1] at hpp
      rw[<- hmm1,show x17.1.mm.nodes.length=x17.1.L.length by rw[<- hl0,hmm0]] at hsw
      have hstA:(x15.2.2.2.ts.getD j.2 ⟨0,false⟩).ro=false->(aS (x44.2.al u.nd u.xs u.ys x37.p.m x101).mm.nodes (aW (x44.2.al u.nd u.xs u.ys x37.p.m x101).mm.cs (x15.2.2.2.ts.getD j.2 ⟨0,false⟩).root)).gen≠(aS (x44.2.al u.nd u.xs u.ys x37.p.m x101).mm.nodes x37.p.i).gen:=by
       rw[hmm1]
       exact Ui hq htm (by rw[huc];exact hmk) (by rw[show x17.1.mm.nodes.length=x17.1.L.length by rw[<- hl0,hmm0]];exact hpi.2) hst
     all_goals (refine bB (i:=18) (hq:=(y3 (V:=λ x:Nat×TY=>.pointer (some ⟨x.1,0,none⟩)) (hs:=[(x44.1,gH (x44.2.al u.nd u.xs u.ys x37.p.m x101))]) (os:=gK (x44.2.al u.nd u.xs u.ys x37.p.m x101)) (hs':=λ x=>[(x44.1,gH x.2.a)]) (Hc:=λ x=>[(x.1,tO x44.1 x.2.c 0)]) (os':=λ x=>gK x.2.a) (Oc:=λ _=>[]) (Fc:=λ x=>x.2.F) (A0:=aM (x44.2.al u.nd u.xs u.ys x37.p.m x101).L) (hA:=hak1.aBF) (hc:=λ w1 hw=>ag (t:=(x15.2.2.2.ts.getD j.2 ⟨0,false⟩)) (i:=x37.p.i) (bJ:=x37.p.m) (nw:=((x17.1.L.length+1:Nat):Int)) hrt (by omega) (by omega) hak1 (by omega) (λ f hf=>hf) hw))) (h:=λ x102 h102=>?_);refine J7 ?_;refine kT ?_;refine uI ?_)
     all_goals
      refine bC (λ c104=>?_) (λ c104=>?_)
      · all_goals try (first|contradiction|(exfalso;omega))
        all_goals refine cX ?_
        all_goals
         refine aR Tryz.results3 (λ w hw=>?_)
         first
         | exact⟨rfl,hw.done⟩
         | exact⟨L6 _,hw.done⟩
      · all_goals try (first|contradiction|(exfalso;omega))
        all_goals (refine aZ ?_;refine J2 ?_;refine aD (cM (V:=λ _:TY=>.int .i64 ((vB ((Ct.gX (Xv (x15.2.2.2.ts.getD j.2 ⟨0,false⟩) x37.p.i x37.p.m ((x17.1.L.length+1:Nat):Int)) (x44.2.al u.nd u.xs u.ys x37.p.m x101).mm).1,x102.2.a.mm) 30:Nat):Int)) (hs:=[(x102.1,tO x44.1 x102.2.c 0),(x44.1,gH x102.2.a)]) (os:=gK x102.2.a) (hs':=λ r=>[(x102.1,tO x44.1 r.c r.n),(x44.1,gH r.a)]) (os':=λ r=>gK r.a) (Fc:=λ r=>r.F) (A0:=aM x102.2.a.L++(x102.2.F++((nM u.nd u.xs u.ys x44.2.cs.length x101).fr++(aM x44.2.L++aM x17.1.L)))) (hA:=h102.ak.all) (hc:=λ w1 hw=>l8 (most:=30) (k:=970) h102.tk h102.ak (by omega) (by omega) (λ f hf=>List.mem_append_left _ hf) (λ f hf=>List.mem_append_right _ hf) hw)) (λ x106 h106=>?_))
        all_goals
         obtain⟨hk6,hm6⟩:=Xq (N:=30) (by decide) hsw hstA h102 h106
         have hak6:=h106.ak
         have hpr6:dY x106.a.mm.nodes x106.a.cs x106.a.gen:=by have:=hsw.proper hpp (bK _) hpm.1;rw[<- hm6] at this;exact(by have e:x106.a.gen=(x44.2.al u.nd u.xs u.ys x37.p.m x101).gen:=(congrArg Mm.gen hm6);rw[e];exact this)
         have hbd:=Wp.body hsw hsw.aBh (by rw[hmm1];exact(by rw[show(x17.1.mm.push u.c x37.p.m).nodes=x17.1.mm.nodes++[_] from rfl,iG (by rw[<- hmm0,hl0];exact hpi.2)];exact hbm.1))
         rw[<- hm6] at hbd
         have hld:=hsw.aBh.main
         rw[<- hm6] at hld
         have hn6:x106.a.mm.nodes.length=x17.1.L.length+2:=by rw[hm6];show((x44.2.al u.nd u.xs u.ys x37.p.m x101).mm.nodes++[_]).length=_;rw[List.length_append,hl1];rfl
         have hc6:x106.a.cs.length<=2434360000:=Nat.le_trans hak6.s2 (by decide)
         have hmn6:(aB (cP x106.a.L) x37.p.i).nd.main=(aS (x44.2.al u.nd u.xs u.ys x37.p.m x101).mm.nodes x37.p.i).main:=by
          have e1:aS x106.a.mm.nodes x37.p.i=aS (x44.2.al u.nd u.xs u.ys x37.p.m x101).mm.nodes x37.p.i:=by rw[hm6];exact iG (by rw[hl1];omega)
          rw[<- e1,mU]
          rfl
         have hmb6:(aS (x44.2.al u.nd u.xs u.ys x37.p.m x101).mm.nodes x37.p.i).main<=2434360000:=by have:=hsw.c2;have:=hak1.s2;omega
        all_goals (refine Qo ?_;refine eC [(0,[]),(2,[]),(3,[]),(1,[3]),(4,[]),(5,[]),(6,[]),(7,[]),(8,[]),(9,[])] ?_;refine aN ?_;refine lH ?_;refine bB (i:=1) (hq:=(cMO (hs:=[(x44.1,gH x106.a)]) (os:=gK x106.a) (A0:=aM x106.a.L) (hA:=hak6.aBF) (hc:=λ w hs=>lh (L:=x106.a.L) (cs:=x106.a.cs) hs hak6.ok.fit (by have h9:=Tu x106.a;omega) (by omega)))) (h:=λ x109 h109=>?_))
        all_goals
         have hL9:x109.1.map aP.c=x106.a.mm.nodes:=h109.1
         have hl9:x109.1.length=x17.1.L.length+2:=by have:=congrArg List.length hL9;rw[List.length_map] at this;omega
        all_goals (refine cR (i:=4) (hq:=(cV (hc:=λ w1 hw=>cq (hpr6.to hL9) (hw.Gm (by first|exact .inr (.inr (.inr ⟨_,.head _,rfl,rfl⟩))|exact .inr (.inr (.inr ⟨_,.tail _ (.head _),rfl,rfl⟩))|exact .inr (.inr (.inr ⟨_,.tail _ (.tail _ (.head _)),rfl,rfl⟩))|exact .inr (.inr (.inr ⟨_,.tail _ (.tail _ (.tail _ (.head _))),rfl,rfl⟩))|exact .inr (.inr (.inr ⟨_,.tail _ (.tail _ (.tail _ (.tail _ (.head _)))),rfl,rfl⟩))|exact .inr (.inr (.inr ⟨_,.tail _ (.tail _ (.tail _ (.tail _ (.tail _ (.head _))))),rfl,rfl⟩))|exact .inr (.inr (.inr ⟨_,.tail _ (.tail _ (.tail _ (.tail _ (.tail _ (.tail _ (.head _)))))),rfl,rfl⟩))|exact .inr (.inr (.inr ⟨_,.tail _ (.tail _ (.tail _ (.tail _ (.tail _ (.tail _ (.tail _ (.head _))))))),rfl,rfl⟩))|exact .inr (.inr (.inr ⟨_,.tail _ (.tail _ (.tail _ (.tail _ (.tail _ (.tail _ (.tail _ (.tail _ (.head _)))))))),rfl,rfl⟩))|exact .inr (.inr (.inr ⟨_,.tail _ (.tail _ (.tail _ (.tail _ (.tail _ (.tail _ (.tail _ (.tail _ (.tail _ (.head _))))))))),rfl,rfl⟩))) (by first|exact .inr (.inr (.inr ⟨_,.head _,rfl,rfl⟩))|exact .inr (.inr (.inr ⟨_,.tail _ (.head _),rfl,rfl⟩))|exact .inr (.inr (.inr ⟨_,.tail _ (.tail _ (.head _)),rfl,rfl⟩))|exact .inr (.inr (.inr ⟨_,.tail _ (.tail _ (.tail _ (.head _))),rfl,rfl⟩))|exact .inr (.inr (.inr ⟨_,.tail _ (.tail _ (.tail _ (.tail _ (.head _)))),rfl,rfl⟩))|exact .inr (.inr (.inr ⟨_,.tail _ (.tail _ (.tail _ (.tail _ (.tail _ (.head _))))),rfl,rfl⟩))|exact .inr (.inr (.inr ⟨_,.tail _ (.tail _ (.tail _ (.tail _ (.tail _ (.tail _ (.head _)))))),rfl,rfl⟩))|exact .inr (.inr (.inr ⟨_,.tail _ (.tail _ (.tail _ (.tail _ (.tail _ (.tail _ (.tail _ (.head _))))))),rfl,rfl⟩))|exact .inr (.inr (.inr ⟨_,.tail _ (.tail _ (.tail _ (.tail _ (.tail _ (.tail _ (.tail _ (.tail _ (.head _)))))))),rfl,rfl⟩))|exact .inr (.inr (.inr ⟨_,.tail _ (.tail _ (.tail _ (.tail _ (.tail _ (.tail _ (.tail _ (.tail _ (.tail _ (.head _))))))))),rfl,rfl⟩))) (λ f hf=>.inr (.inr (.inl (by simp[hf])))) h109.2) (rq hak6.ok hL9 (Nat.le_trans hak6.s2 (by decide))) (by omega) (by omega) _ (by rw[hL9];exact hbd) (by omega)))) (h:=λ x112=>?_);refine aN ?_;refine iP ?_;refine iP ?_;refine Oz ?_;refine aV ?_;refine eC [(0,[]),(1,[]),(2,[]),(3,[]),(4,[]),(5,[]),(6,[]),(7,[]),(8,[]),(9,[]),(10,[]),(11,[]),(12,[]),(13,[]),(14,[]),(15,[]),(16,[]),(17,[]),(18,[]),(19,[]),(20,[]),(21,[]),(22,[]),(23,[]),(24,[]),(28,[]),(29,[]),(25,[29]),(26,[]),(27,[29]),(30,[]),(31,[]),(32,[])] ?_;refine cR (i:=0) (hq:=(cV (hc:=λ w1 hw=>Kq w1))) (h:=λ x115=>?_);refine aN ?_)
        all_goals ((refine aN ?_))
        all_goals (((refine cR (i:=3) (hq:=(cV (hc:=λ w1 hw=>jd (d:=true) hk6.done.1 (hw.st.at dC)))) (h:=λ x118=>?_)));refine jD ?_;refine aN ?_)
        all_goals ((refine aN ?_))
        all_goals (((refine cR (i:=7) (hq:=(cV (hc:=λ w1 hw=>H5 (d:=true) hk6.done.1 hk6.done.2 (hw.st.at dC)))) (h:=λ x122=>?_)));((refine lC ?_));((refine K3 ?_));refine jD ?_;refine aN ?_)
        all_goals ((refine aN ?_))
        all_goals (refine jD ?_;refine aN ?_)
        all_goals ((refine aN ?_))
        all_goals (refine w4 ?_;refine vp ?_;refine aN ?_)
        all_goals ((refine n7 135 (λ g135=>?_) (λ g135=>?_)<;>(try (first|contradiction|(exfalso;omega)))<;>((refine aN ?_))))
        all_goals (((refine aN ?_));refine w4 ?_;refine w4 ?_;((refine bB (i:=25) (hq:=(y3 (V:=λ q:Option Addr×Option Addr=>.agg ⟨((aB (cP x106.a.L) x37.p.i).at_ q.1 q.2).nd.cells⟩) (hs:=[(x44.1,gH x106.a)]) (os:=gK x106.a) (hs':=λ _=>[(x44.1,gH x106.a)]) (Hc:=λ _=>[]) (os':=λ _=>gK x106.a) (Oc:=λ q=>[⟨q.2,cY (aB (cP x106.a.L) x37.p.i).ys,(aB (cP x106.a.L) x37.p.i).ys.length,164,2⟩,⟨q.1,aG (aB (cP x106.a.L) x37.p.i).xs,(aB (cP x106.a.L) x37.p.i).xs.length,37,1⟩]) (Fc:=λ _=>[]) (A0:=aM x106.a.L) (hA:=bG.of λ f hf=>(hak6.fam f hf).imp_right λ h=>.inr (.inl (List.mem_append_right _ h))) (hc:=λ w1 hw=>Lt hak6.ok (hak6.small (by omega)) (λ f hf=>hf) x37.p.i (by omega) hw))) (h:=λ x140 h140=>?_)));((refine lC ?_));((refine bB (i:=27) (hq:=(cM (V:=λ _:Unit=>.int .i64 x37.p.m) (hs:=[(x44.1,gH x106.a)]) (os:=gK x106.a) (hs':=λ _=>[(x44.1,gH {x106.a with acc:=up x106.a.acc})]) (os':=λ _=>gK x106.a) (Fc:=λ _=>[]) (hc:=λ w1 hw=>by rw[<- hld,<- hmn6];exact Nc hw _ (by show(aB (cP x106.a.L) x37.p.i).nd.main<=_;rw[hmn6];omega) (by omega)))) (h:=λ x142 h142=>?_)));refine vp ?_;refine J7 ?_)
        all_goals
         refine aR Tryz.results3 (λ w hw=>?_)
         first
         | exact⟨rfl,hw.done⟩
         | exact⟨L6 _,hw.done⟩
end Go.Proofs.YtbajmaoegmbfgaaGreat

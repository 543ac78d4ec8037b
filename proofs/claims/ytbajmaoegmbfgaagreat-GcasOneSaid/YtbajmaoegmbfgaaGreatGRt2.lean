/- Merged. -/
import Derived.Test.YtbajmaoegmbfgaaGreatGGc1
import Derived.Test.YtbajmaoegmbfgaaGreatGTt1
import Derived.Test.YtbajmaoegmbfgaaGreatGLe1
import Derived.Test.YtbajmaoegmbfgaaGreatGIxg
import Derived.Test.YtbajmaoegmbfgaaGreatGWo6
import Derived.Test.YtbajmaoegmbfgaaGreatGRn1
import Derived.Test.YtbajmaoegmbfgaaGreatGKw5
import Derived.Test.YtbajmaoegmbfgaaGreatGKx8
set_option linter.unusedSimpArgs false
set_option linter.unusedVariables false
namespace Go.Proofs.YtbajmaoegmbfgaaGreat
open Go Go.RowKit Go.Ct
section
section
variable{D:List Nat}{A B:Fr}{a:AS}{b:Nat}{w:World}{f:FuncId}{cap:List Value}{t:dU}
end
end
section
section
variable{D:List Nat}{A B:Fr}{a:AS}{b:Nat}{w:World}{f:FuncId}{cap:List Value}{t:dU}
end
end
section
section
variable{D:List Nat}{A B:Fr}{a:AS}{b:Nat}{w:World}{f:FuncId}{cap:List Value}{t:dU}
end
end
end Go.Proofs.YtbajmaoegmbfgaaGreat
namespace Go.Ct
open Go Go.RowKit
section
end
end Go.Ct
namespace Go.Proofs.YtbajmaoegmbfgaaGreat
open Go Go.RowKit Go.Ct
section
end
section
theorem Zq(x y:AX):gJ (L4 x y) [0,3,4] 1 :=
 mU (m:=0) (B:=8) (C:=0) (E:=0) (W:=⟨XS.new (L4 x y) [0,3,4] 1 0 none 0 none 0,[⟨3,false⟩],none,0,[],none,0⟩) ⟨Vl _ _ _ _ _ _ _,⟨by show 4<=8;decide,by show 3<=8;decide,by show(1:Int)<=((8:Nat):Int);decide⟩,(λ e he=>nomatch he),by show 0<1;decide,rfl,by show 1<=5;decide,Nat.le_refl _,.new⟩
section
variable{D:List Nat}{A B:Fr}{a0 a:AS}{b bt n m most:Nat}{w:World}{c:Cd}{F:Fr}{p:Tr×Mm}
theorem nq(hp:rQ b p a0 B (c,F,a))(ha:eE p.1=true)(ht:bW p.1 m 64)(hmm:most<=m)(hm:p.2.nodes.length+64*most<=137438953472/\p.2.cs.length+64*most<=137438953472)(hn:n+most<1000000000)(hA:∀f∈aN a.L,f∈A)(hB:∀x∈F++B,x∈A)(hs:SF w D [(bt,tO b c n),(b,eV a)] A [] (fJ a) w) :
  Calls Tryz.prog 30 #[.pointer (some ⟨bt,0,none⟩),.int .i64 ((most:Nat):Int)] w λ e w'=>∃y:Cd×Fr×AS,e=.returned (.int .i64 ((rR p most:Nat):Int))/\v9 b (gI p most) a (F++B) y/\SF w D [(bt,tO b y.1 (n+rR p most)),(b,eV y.2.2)] [] y.2.1 (fJ y.2.2) w':=by
 obtain⟨⟨h1,h2⟩,h3,h4⟩:=hp
 simp only at h1 h2 h3
 have e:(p.1,a.mm)=p:=by rw[h2]
 have:=Qs (b:=b) (bt:=bt) (n:=n) (D:=D) (A:=A) (B:=F++B) (w:=w) (most:=most) ht hmm ha (a:=a) (c:=c) (by rw[h2];exact h1) h3 (by rw[h2];exact hm) hn hA hB hs
 rw[e] at this
 exact this
end
end
section
end
end Go.Proofs.YtbajmaoegmbfgaaGreat
namespace Go.Ct
open Go Go.RowKit
section
end
end Go.Ct
namespace Go.Proofs.YtbajmaoegmbfgaaGreat
open Go.Proofs.Tryz (prog)
open Go Go.RowKit Go.Ct
section
theorem Mb{x:XS}(h:x.Ok):I4 x.L:=λ v hv=>by
 have hb:=h.nd v hv
 have h1:=hb.main
 have h2:=hb.prev
 have h3:=hb.status
 have h4:=h.lc
 have e1:v.c.main=v.nd.main:=rfl
 have e2:v.c.prev=v.nd.prev:=rfl
 have e3:v.c.status=v.nd.status:=rfl
 exact⟨hb.bm,by omega,by omega,by omega⟩
end
section
def Qc(z:XS)(p:Pl):Prop:=(bA (z.L.map aQ.c) p.i).kind=2/\gN (z.L.map aQ.c) z.cs p.i=some p.m
theorem Qc.in{z:XS}{p:Pl}(h:Qc z p):1<=p.i/\p.i<=z.L.length:=by
 have:=dG (N:=z.L.map aQ.c) (i:=p.i) (by have:=h.1;omega)
 rwa [List.length_map] at this
theorem X5{N:List Nv}{cs:List Int}{i m:Int}(h:gN N cs i=some m):bV (bA N m):=by
 unfold gN at h
 split at h
 ·rename_i h1
  split at h
  ·cases h;exact h1.2
  ·split at h
   ·cases h;assumption
   ·cases h
 ·cases h
theorem Qc.mk{z:XS}{p:Pl}(h:Qc z p):bV (bA (z.L.map aQ.c) p.m):=X5 h.2
theorem Qc.inm{z:XS}{p:Pl}(h:Qc z p):1<=p.m/\p.m<=z.L.length:=by
 have:=dG (N:=z.L.map aQ.c) (i:=p.m) (by have:=h.mk;unfold bV at this;omega)
 rwa [List.length_map] at this
abbrev o9:vE:=⟨⟨0,0,0,0,[]⟩,none,0⟩
def aBj(z:XS)(t:dU)(p:Pl):Prop:=∃r q,kE (z.L.map aQ.c) z.cs t.root=some r/\It (z.L.map aQ.c) z.cs 12 0 0 r [] []=some q/\p∈q.1
theorem oc{bw bm tp m B C E:Nat}{W:Wd}{t:dU}{l:List Int}{a:Option Addr}{c pos:Nat}{D:List Nat}{A:Fr}{w:World}(hW:C1 m B C E W)(hB:B<=3000000000)(ht:t∈W.ts)(hrt:t.root<=9223372036854775807)(hl:l.length<=17592186043904)(hA:∀f∈aN W.z.L,f∈A)(hT:(a,aH l)∈A)
    (hs:SF w D [(tp,E3 a l c pos),(bw,lB bm (m:Int) W.pt W.ts.length W.kt W.pe (nL W.ex).length W.ke),(bm,xM W.z)] A [] (yL W.z) w) :
    Calls prog 23 #[.pointer (some ⟨bw,0,none⟩),.agg ⟨[.int .i64 t.root,.bool t.ro]⟩,.pointer (some ⟨tp,0,none⟩)] w λ e w'=>∃v:vE,e=.returned (.tuple #[.agg ⟨v.cells⟩,.bool true])/\(Qc W.z v.p/\aBj W.z t v.p) /\
      SF w D [(tp,E3 a l c (lA l pos)),(bw,lB bm (m:Int) W.pt W.ts.length W.kt W.pe (nL W.ex).length W.ke),(bm,xM W.z)] [] [] (yL W.z) w':=by
  obtain⟨r,q,hro,hpl,hne,hq⟩:=Pt hW ht
  obtain⟨s1,s2,s3⟩:=hW.sz
  have hys:=Kl hW
  have hpr:=mU hW
  refine enter Tryz.func23 Tryz.ntmps23 rfl rfl hs ?_
  simp only[cG]
  refine J0 ?_;refine bM (λ x4=>?_);refine aL (λ x6=>?_);refine iT ?_;refine gZ [0,1,2,3,4,5,6,7,8,9,10,11,12,13,14,15] ?_;refine Zx ?_;refine J4 ?_;refine bU (i:=6) (hq:=(aU (k:=3) rf cS eT (by simp only[List.drop_zero,List.take_succ_cons,List.take_zero];exact rfl) rfl)) (h:=?_);refine bS ?_;refine bE (i:=8) (hq:=(U0 (V:=λ x:Je=>.tuple #[.slice x.lp x.l.length x.lc,.slice x.pp x.ps.length x.pc,.bool true]) (Hc:=λ _=>[]) (Fc:=λ x=>x.fr) (F1:=λ x=>x.fr) (Oc:=λ _=>[]) (hF1:=λ x=>List.append_nil _) (hc:=λ w1 hw=>R9 (B:=8) hpr (hw.Jj (.inr (.inr (.inr ⟨_,.head _,rfl,rfl⟩))) (.inr (.inr (.inr ⟨_,.tail _ (.head _),rfl,rfl⟩))) (λ f hf=>.inr (.inl (hA f hf))) hW.z.fit) (Mb hW.z) (by omega) (by omega) hys (by omega) _ _ hrt hro hpl))) (h:=λ x20 h20=>?_)
  obtain⟨hx1,hx2⟩:=h20
  have hln:0<x20.l.length:=by
   have:=congrArg List.length hx1
   rw[List.length_map] at this
   have:=List.length_pos_iff.2 hne
   omega
  refine aR ?_;refine kM ?_;refine kM ?_;refine kM ?_;refine kO (h:=λ _=>?_);refine Pf ?_;refine kT ?_;refine Dg ?_
  (refine Ka3 ?_)
  ((refine aF ?_;refine dS ?_));refine uM ?_;refine aI ?_
  refine bC (λ c30=>?_) (λ c30=>?_)
  · exfalso;have c30':x20.l.length=0:=by simpa using c30
    omega
  · refine Du ?_;refine aB ?_;refine dS ?_;refine aE (vK (hc:=λ w1 hw=>eM x20.l.length (hw.tape cS (.bK (uC.iM hT)) hl) (by omega) (by omega))) (λ x36 h36=>?_);refine aD (a9 (lst:=x20.l) (g:=vE.cells) (sz:=5) (k:=x36) (λ _=>rfl) (by decide) rf rf fZ eT (.new (uC.iM (List.mem_cons_self ..))) (by omega) (by omega)) rfl ?_;refine aD (sq (lst:=x20.l) (g:=vE.cells) (sz:=5) (q:=x36) o9 (λ _=>rfl) rf eT (.new (uC.iM (List.mem_cons_self ..))) (by omega)) rfl ?_;refine Cg ?_
    refine bD Tryz.results23 (λ w hw=>?_)
    have hmem:(x20.l.getD x36 o9).p∈q.1:=by rw[<- hx1,List.mem_map];exact⟨x20.l.getD x36 o9,by rw[iU,List.getElem?_eq_getElem (show x36<x20.l.length by omega)];exact List.getElem_mem _,rfl⟩
    refine⟨x20.l.getD x36 o9,rfl,⟨hq _ hmem,r,q,hro,hpl,hmem⟩,?_⟩
    · exact hw.ret (by repeat (first|exact List.Sublist.refl _|apply List.Sublist.cons)) aX.nil (List.Sublist.refl _)
end
section
abbrev od:Nd:={Nd.zero with kind:=3}
def K8:Mm:=mm0.push (od.c [] []) 3
def Qr:Tr:=jU ⟨3,false⟩ 4 3 5 λ ok=>.done (fC 0 ok)
theorem Ae:bW Qr 20 64:=by
 have h:Qr=lG ⟨2,⟨3,false⟩,4,3,5,0,0,0,⟨#[]⟩,0,0,0,false⟩ 0 21:=by
  unfold Qr lG
  rfl
 rw[h]
 exact La (by decide)
theorem aAK:gI (Ct.gF Qr K8) 9=(.done (fC 0 true),(gI (Ct.gF Qr K8) 9).2)/\rR (Ct.gF Qr K8) 9=5/\aS (gI (Ct.gF Qr K8) 9).2.cs 2=5/\(bA (gI (Ct.gF Qr K8) 9).2.nodes 4).main=2/\(gI (Ct.gF Qr K8) 9).2.nodes.length=5:=⟨rfl,rfl,rfl,rfl,rfl⟩
theorem aAj:(Ct.gF Qr K8).2.nodes.length=5/\(Ct.gF Qr K8).2.cs.length=4:=⟨rfl,rfl⟩
theorem rr{D:List Nat}{A B F:Fr}{a0 a:AS}{b bt:Nat}{c:Cd}{w:World}(hp:rQ b (Ct.gF Qr K8) a0 B (c,F,a))(hA:∀f∈aN a.L,f∈A)(hB:∀x∈F++B,x∈A)(hs:SF w D [(bt,tO b c 0),(b,eV a)] A [] (fJ a) w) :
  Calls prog 30 #[.pointer (some ⟨bt,0,none⟩),.int .i64 9] w λ e w'=>∃y:Fr×AS,e=.returned (.int .i64 5)/\(aS y.2.cs 2=5/\(aC (dL y.2.L) 4).nd.main=2/\y.2.Ok/\y.2.mm.Small/\a.jM y.2 y.1/\(4:Int)<=y.2.mm.nodes.length)/\SF w D [(bt,tO b (Bm (fC 0 true)) 5),(b,eV y.2)] [] y.1 (fJ y.2) w':=by
 obtain⟨e1,e2,e3,e4,e5⟩:=aAK
 obtain⟨g1,g2⟩:=aAj
 refine(nq (n:=0) (m:=20) (most:=9) hp (oT K8 Ae) (mV K8 Ae 64) (by decide) ⟨by omega,by omega⟩ (by decide) hA hB hs).mono λ e w' ⟨y,h1,h2,hw⟩=>?_
 have h3:=h2.rp
 rw[e1] at h3
 obtain⟨_,h4⟩:=h3
 have h5:y.2.2.cs=(gI (Ct.gF Qr K8) 9).2.cs:=congrArg Mm.cs h2.mm
 have h7:(dL y.2.2.L).map aQ.c=(gI (Ct.gF Qr K8) 9).2.nodes:=congrArg Mm.nodes h2.mm
 obtain⟨_,_,_,h6⟩:=Aq (mV K8 Ae 64) (oT K8 Ae) 9 (by decide) (s:=(Ct.gF Qr K8).2)
 have h6':(gI (Ct.gF Qr K8) 9).2.cs.length<=(Ct.gF Qr K8).2.cs.length+64*9:=h6
 rw[e2,h4] at hw
 refine⟨(y.2.1,y.2.2),by rw[h1,e2];rfl,⟨by show aS y.2.2.cs 2=5;rw[h5];exact e3,?_,h2.ok,?_,h2.gr,?_⟩,hw⟩
 ·rw[<- h7,<- qX] at e4
  exact e4
 ·rw[h2.mm]
  exact⟨by rw[e5];decide,by omega⟩
 ·show(4:Int)<=y.2.2.mm.nodes.length
  rw[h2.mm,e5];decide
set_option maxRecDepth 100000 in
set_option maxHeartbeats 1000000 in
theorem Yg(w:World):Calls prog 72 #[] w λ e w'=>∃q:Nat×AS,e=.returned (.tuple #[.pointer (some ⟨q.1,0,none⟩),.agg ⟨[.int .i64 3,.bool false]⟩,.int .i64 4,.int .i64 3,.int .i64 5])/\(q.2.mm=K8/\q.2.Ok)/\SF w [] [(q.1,eV q.2)] [] (aN q.2.L) (fJ q.2) w':=by
 refine enter Tryz.func72 Tryz.ntmps72 rfl rfl (SF.s0 w) ?_
 simp only[cG]
 refine J0 ?_;refine gB (λ _=>?_);refine aL (λ x1=>?_);refine gB (λ _=>?_);refine J8 ?_;refine J0 ?_;refine aE (U0 (Fc:=λ _=>[]) (hc:=λ w1 hw=>mu w1)) (λ x6 h6=>?_);refine Ka4 ?_;refine aE (cM (hc:=λ w hs=>Qe hs)) (λ x8 h8=>?_);refine J5 ?_;refine I1 ?_;refine aD (aU (k:=3) rf cS eT (by simp only[List.drop_zero,List.take_succ_cons,List.take_zero];exact rfl) rfl) rfl ?_;refine aE (U0 (V:=λ x:Nat×List aQ×(Option Addr×Nat)×(Option Addr×Nat)=>.tuple #[.pointer (some ⟨x.1,0,none⟩),.int .i64 0]) (Hc:=λ x=>[(x.1,aO x.2.1 [0,3,4] 1 0 x.2.2.1.1 x.2.2.1.2 x.2.2.2.1 x.2.2.2.2)]) (Fc:=λ x=>aN x.2.1) (Oc:=λ x=>mW x.2.1 [0,3,4] x.2.2.1.1 x.2.2.1.2 x.2.2.2.1 x.2.2.2.2) (hc:=λ w1 hw=>l9 (L:=L4 x8.1 x8.2.1) (cs:=[0,3,4]) (hw.Jj (.inr (.inr (.inr ⟨_,.head _,rfl,rfl⟩))) (.inr (.inr (.inr ⟨_,.tail _ (.head _),rfl,rfl⟩))) (λ f hf=>.inl (lx f hf)) (Vl x8.1 x8.2.1 0 none 0 none 0).fit) (by show 4<=_;decide) (by decide) (hw.aAd .head) (Zq _ _))) (λ x14 h14=>?_)
 obtain⟨a0,ha0⟩:∃a:AS,a=⟨x14.2.1,[0,3,4],1,0,x14.2.2.1.1,x14.2.2.1.2,x14.2.2.2.1,x14.2.2.2.2⟩:=⟨_,rfl⟩
 have hmm:a0.mm=mm0:=by rw[ha0];show Mm.mk ((dL x14.2.1).map aQ.c) [0,3,4] 1=mm0;rw[h14.1];rfl
 have hok:a0.Ok:=⟨by rw[ha0];exact h14.2,by rw[hmm];exact(Vl x8.1 x8.2.1 0 none 0 none 0).mo⟩
 have hsm:a0.mm.Small:=by rw[hmm];exact⟨by decide,by decide⟩
 have hoA:∀x:AX,(a0.al od [] [] 3 x).Ok:=λ x=>hok.al x (by simp) (by simp) ⟨bL _,bL _,bL _,(λ r hr=>nomatch hr),bL _,bL _,bL _,⟨0,rfl,by decide⟩,⟨0,rfl,by decide⟩⟩ (by rw[hmm];decide)
 have hmA:∀x:AX,(a0.al od [] [] 3 x).mm=K8:=λ x=>by rw[qY,hmm];rfl
 refine Nu ?_;refine Kc2 ?_;refine uQ ?_
 refine bC (λ c18=>?_) (λ c18=>?_)
 ·cases c18
 ·refine kZ ?_;refine eH [(0,[]),(1,[]),(2,[]),(3,[]),(4,[1]),(5,[1]),(6,[]),(7,[]),(8,[]),(9,[])] ?_;refine Ka9 ?_;refine aR ?_;refine jC ?_;refine bE (i:=4) (hq:=(cM (V:=λ _:AX=>.int .i64 5) (hs:=[(x14.1,eV a0)]) (os:=fJ a0) (A0:=[(none,aH []),(none,cX [])]) (hs':=λ x=>[(x14.1,eV (a0.al od [] [] 3 x))]) (os':=λ x=>fJ (a0.al od [] [] 3 x)) (Fc:=λ x=>(mZ od [] [] a0.cs.length x).fr) (hH:=by rw[ha0];exact .cons .head .nil) (hO:=by rw[ha0];exact .cons .head (.cons .head .nil)) (hc:=λ w1 hw=>by have:=Bb (n:=od) (xs:=[]) (ys:=[]) hok hsm 3 rfl rfl (by simp) (by simp) (λ f hf=>hf) hw;rw[hmm] at this;exact this))) (h:=λ x24 h24=>?_);refine kO (h:=λ _=>?_);refine nY (h:=λ _=>?_);refine kO (h:=λ _=>?_);refine Pf ?_
  refine bD Tryz.results72 (λ w hw=>?_)
  have hw:=hw.eX (F':=aN (a0.al od [] [] 3 x24).L) λ f hf=>((AS.jM.al a0 od [] [] 3 x24).fam f hf).imp_right λ h=>h.elim (λ h=>List.mem_append_right _ (by rw[ha0] at h;exact List.mem_append_left _ h)) λ h=>List.mem_append_left _ h
  exact⟨(x14.1,a0.al od [] [] 3 x24),rfl,⟨hmA x24,hoA x24⟩,hw.ret (by repeat (first|exact List.nil_sublist _|apply List.Sublist.cons_cons)) aX.all (by repeat (first|exact List.nil_sublist _|apply List.Sublist.cons_cons))⟩
set_option maxRecDepth 100000 in
set_option maxHeartbeats 1000000 in
theorem B5(w:World):Calls prog 27 #[] w λ e w'=>e=.returned (.bool true)/\St w [] [] w':=by
 refine enter Tryz.func27 Tryz.ntmps27 rfl rfl (SF.s0 w) ?_
 simp only[cG]
 refine dA ?_;refine J0 ?_;refine aE (U0 (V:=λ q:Nat×AS=>.tuple #[.pointer (some ⟨q.1,0,none⟩),.agg ⟨[.int .i64 3,.bool false]⟩,.int .i64 4,.int .i64 3,.int .i64 5]) (Hc:=λ q=>[(q.1,eV q.2)]) (Fc:=λ q=>aN q.2.L) (Oc:=λ q=>fJ q.2) (hc:=λ w1 hw=>Yg w1)) (λ x8 h8=>?_)
 obtain⟨hmm,hok⟩:=h8
 refine Nu ?_;refine J54 ?_;refine B9 ?_;refine aL (λ x2=>?_);refine gB (λ _=>?_);refine kP (λ _=>?_);refine gB (λ _=>?_);refine Kb2 ?_;refine uQ ?_
 refine bC (λ c15=>?_) (λ c15=>?_)
 ·try (contradiction)
 ·try (first|contradiction|(exfalso;omega))
  refine aZ ?_;refine J2 ?_;refine aD (Wg rf (λ w=>xZ _ w)) rfl ?_;refine bQ ?_;refine pM ?_;refine aB ?_;refine aE (th (V:=λ x:Nat×Cd×Fr×AS=>.pointer (some ⟨x.1,0,none⟩)) (hs:=[(x8.1,eV x8.2)]) (os:=fJ x8.2) (hs':=λ x=>[(x8.1,eV x.2.2.2)]) (Hc:=λ x=>[(x.1,tO x8.1 x.2.1 0)]) (os':=λ x=>fJ x.2.2.2) (Oc:=λ _=>[]) (Fc:=λ x=>x.2.2.1) (A0:=aN x8.2.L) (hA:=bH.of λ f hf=>.inr (.inr (.inl (by simpa using hf)))) (hc:=λ w1 hw=>by have:=Nq (O2 (t:=⟨3,false⟩) (i:=4) (bK:=3) (nw:=5) (B:=[]) (n:=20) (m:=64) (by decide) (by rw[hmm];decide) (by rw[hmm];decide) Ae hok (by rw[hmm];exact⟨by decide,by decide⟩) (λ f hf=>hf) (λ x hx=>nomatch hx) hw);rw[hmm] at this;exact this)) (λ x22 h22=>?_);refine Ka4 ?_;refine nD ?_;refine aB ?_
  (refine Ka3 ?_)
  ((refine aF ?_;refine aE (cM (V:=λ y:Fr×AS=>.int .i64 5) (hs:=[(x22.1,tO x8.1 x22.2.1 0),(x8.1,eV x22.2.2.2)]) (os:=fJ x22.2.2.2) (hs':=λ y=>[(x22.1,tO x8.1 (Bm (fC 0 true)) 5),(x8.1,eV y.2)]) (os':=λ y=>fJ y.2) (Fc:=λ y=>y.1) (A0:=aN x22.2.2.2.L++(x22.2.2.1++[])) (hA:=bH.of λ f hf=>(List.mem_append.1 hf).elim (λ h=>(h22.1.2.2.fam f h).imp_right λ h=>.inr (.inl (h.elim (λ h=>List.mem_append_right _ (by simpa using h)) λ h=>List.mem_append_left _ h))) λ h=>.inr (.inr (.inl (List.mem_append_left _ (by simpa using h))))) (hc:=λ w1 hw=>rr h22.1 (λ f hf=>List.mem_append_left _ hf) (λ f hf=>List.mem_append_right _ hf) hw)) (λ x27 h27=>?_)));refine Kb1 ?_
  (refine Ka3 ?_)
  ((refine aF ?_;refine aP (cV (hc:=λ w1 hw=>kH (r:=fC 0 true) (d:=true) rfl (if_pos rfl) (hw.st.at cS))) (λ x32=>?_)));((refine aF ?_;refine cB ?_));refine Ka6 ?_
  (refine Ka3 ?_)
  ((refine Ka3 ?_));((refine Ka3 ?_));((refine aF ?_;refine aE (th (V:=λ q:Option Addr×Option Addr=>.agg ⟨((aC (dL x27.2.L) 4).at_ q.1 q.2).nd.cells⟩) (hs:=[(x8.1,eV x27.2)]) (os:=fJ x27.2) (hs':=λ _=>[(x8.1,eV x27.2)]) (Hc:=λ _=>[]) (os':=λ _=>fJ x27.2) (Oc:=λ q=>[⟨q.2,cX (aC (dL x27.2.L) 4).ys,(aC (dL x27.2.L) 4).ys.length,164,2⟩,⟨q.1,aH (aC (dL x27.2.L) 4).xs,(aC (dL x27.2.L) 4).xs.length,37,1⟩]) (Fc:=λ _=>[]) (A0:=aN x27.2.L) (hA:=bH.of λ f hf=>(h27.2.2.2.2.1.fam f hf).elim .inl λ h=>h.elim (λ h=>(h22.1.2.2.fam f h).imp_right λ h=>.inr (.inl (List.mem_append_right _ (h.elim (λ h=>List.mem_append_right _ (by simpa using h)) λ h=>List.mem_append_left _ h)))) λ h=>.inr (.inr (.inl (List.mem_append_left _ h)))) (hc:=λ w1 hw=>Wh h27.2.2.1 h27.2.2.2.1 (λ f hf=>hf) 4 h27.2.2.2.2.2 hw)) (λ x39 h39=>?_)));((refine aF ?_;refine aD (M4 rf (by exact Mf rfl) (show _=some (Value.int .i64 2) by rw[<- h27.2.1];rfl)) rfl ?_));((refine aF ?_;refine aE (cM (V:=λ _:Unit=>.int .i64 5) (hs:=[(x8.1,eV x27.2)]) (os:=fJ x27.2) (hs':=λ _=>[(x8.1,eV {x27.2 with acc:=up x27.2.acc})]) (os':=λ _=>fJ x27.2) (Fc:=λ _=>[]) (hc:=λ w1 hw=>by rw[<- h27.1];exact Vo hw 2 (by decide) (Nat.le_trans (show x27.2.cs.length<=137438953472 from h27.2.2.2.1.2) (by decide)))) (λ x41 h41=>?_)));((refine Ka3 ?_));refine uM ?_;refine J1 ?_
  refine aT Tryz.results27 (λ w hw=>?_)
  exact⟨rfl,hw.done⟩
end
section
section
variable{L:List aQ}{cs:List Int}{gen:Int}{pn pc:Option Addr}{cn cc:Nat}{w:World}
theorem mg(hp:gJ L cs gen)(h:rU w L cs pn pc)(hr:I4 L)(hl:L.length<=274877906944)(hc:cs.length<=274877906944)(c:Int)(ro:Bool){k:Nat}(ho:kE (L.map aQ.c) cs c=some ((k+1:Nat):Int))(hk:k<L.length)(hi:c<=9223372036854775807) :
  Calls prog 26 #[Lm L cs gen pn cn pc cc,.agg ⟨[.int .i64 c,.bool ro]⟩] w λ e w'=>e=.returned (.int .i64 (aC L ((k+1:Nat):Int)).nd.gen)/\St w [] [] w':=by
 refine enter Tryz.func26 Tryz.ntmps26 rfl rfl h.start ?_
 simp only[cG]
 refine J0 ?_;refine bM (λ x2=>?_);refine bM (λ x3=>?_);refine J1 ?_;refine oR ?_;refine bQ ?_;refine aP (cV (hc:=λ w1 hw=>Q8 hp (h.Jl hw) hr hl hc _ _ ho hi)) (λ x10=>?_);refine Kb5 ?_;refine pE ?_
 refine bC (λ c14=>?_) (λ c14=>?_)
 ·exact nv c14
 ·try (exfalso;omega)
  refine aZ ?_;refine Kb9 ?_;refine qW ?_;refine fT ?_;refine J3 ?_;refine J1 ?_
  refine aT Tryz.results26 (λ w hw=>?_)
  exact⟨by rw[sE (by omega)];rfl,hw.done⟩
end
theorem Mq(x:Int):Ending.returned (pK [Value.bool (x==x)])=.returned (.bool true):=by rw[beq_self_eq_true];rfl
abbrev aAQ(v:vE):Obj:=.cells ⟨v.cells⟩ 39 (0,0)
abbrev zW(W:Wd)(z:XS):Wd:=⟨z,W.ts,W.pt,W.kt,[],none,0⟩
end
section
structure TK(ba:Nat)(t:Tr)(c:Cd)(a:AS)(G:Fr)(k:Nat):Prop where
 rp:kU ba t a.mm c a.mm G
 ar:eE t=true
 tm:bW t k 64
structure AK(a:AS)(G:Fr)(B:Nat):Prop where
 ok:a.Ok
 s1:a.mm.nodes.length<=B
 s2:a.mm.cs.length<=B
 fam:∀f∈aN a.L,f.2=[]∨f∈G
section
variable{ba bt n k B:Nat}{t:Tr}{c:Cd}{a a':AS}{G G' A:Fr}{D:List Nat}{w:World}{O:List Ow}
theorem AK.all(h:AK a G B):bH A G O (aN a.L++G):=bH.of λ f hf=>(List.mem_append.1 hf).elim (λ h1=>(h.fam f h1).imp_right λ h=>.inr (.inl h)) λ h1=>.inr (.inr (.inl h1))
theorem AK.xo(h:AK a G B):bH A G O (aN a.L):=bH.of λ f hf=>(h.fam f hf).imp_right λ h=>.inr (.inl h)
theorem AK.mono{B':Nat}(h:AK a G B)(hB:B<=B'):AK a G B':=⟨h.ok,by have:=h.s1;omega,by have:=h.s2;omega,h.fam⟩
theorem AK.small(h:AK a G B)(hB:B<=100000000000):a.mm.Small:=⟨by have:=h.s1;omega,by have:=h.s2;omega⟩
theorem TK.to(h:TK ba t c a G k)(l:a.mm.Le a'.mm)(hG:∀x∈G,x∈G'):TK ba t c a' G' k:=⟨kU.more (h.rp.le h.ar l) hG,h.ar,h.tm⟩
theorem TK.dead(h:TK ba t c a G k)(hl:t.live=false):c.a.k=0:=(h.rp.kind h.ar).1.2 hl
theorem TK.done{r:Rs}(h:TK ba (.done r) c a G k):(c.a.k==0)=true/\(if(true:Bool)=true then c.r else Rs.zero)=r:=⟨by rw[h.dead rfl];rfl,by rw[if_pos rfl];exact(h.rp.kind h.ar).2.1 r rfl⟩
theorem TK.zero{ba k:Nat}{t:Tr}{c:Cd}{a:AS}{G:Fr}{r:Rs}(h:TK ba t c a G k)(e:t=.done r):TK ba (.done r) c a G 0:=by
 subst e
 exact⟨h.rp,h.ar,trivial⟩
theorem Yp(hk:c.a.k=0)(hs:SF w D [(bt,tO ba c n),(ba,eV a)] A [] (fJ a) w) :
  Calls prog 37 #[.pointer (some ⟨bt,0,none⟩)] w λ e w'=>e=.returned (.tuple #[])/\SF w D [(bt,tO ba c n),(ba,eV a)] [] [] (fJ a) w':=by
 refine enter Tryz.func37 Tryz.ntmps37 rfl rfl hs ?_
 simp only[cG]
 refine kT ?_;refine aP (cV (hc:=λ w1 hw=>vZ (hw.st.at cS))) (λ x3=>?_);refine aB ?_
 (refine eI 4 (λ g4=>?_) (λ g4=>?_)<;>(try (exfalso;omega))<;>(refine aJ ?_))
 (refine aJ ?_);refine J6 ?_;refine cA ?_;refine aI ?_
 refine bC (λ c9=>?_) (λ c9=>?_)
 ·try (exfalso;omega)
  refine bD Tryz.results37 (λ w hw=>?_)
  exact⟨rfl,hw.ret (List.Sublist.refl _) aX.nil (List.Sublist.refl _)⟩
 ·exact nv c9
structure TY where
 c:Cd
 F:Fr
 a:AS
 n:Nat
structure TYS(ba:Nat)(p:Tr×Mm)(a:AS)(G:Fr)(k B n:Nat)(y:TY):Prop where
 tk:TK ba p.1 y.c y.a (y.F++G) k
 mm:y.a.mm=p.2
 ak:AK y.a (y.F++G) B
 le:a.mm.Le y.a.mm
 n:y.n<=n
theorem Cx{F:Fr}(h:a.jM a' F)(h2:∀f∈aN a.L,f.2=[]∨f∈G):∀f∈aN a'.L,f.2=[]∨f∈F++G:=λ f hf=>(h.fam f hf).elim .inl λ h=>h.elim (λ h=>(h2 f h).imp_right λ h=>List.mem_append_right _ h) λ h=>.inr (List.mem_append_left _ h)
theorem Lg(h:TK ba t c a G (k+1))(ha:AK a G B)(hB:B<=90000000000)(hn:n<1000000)(hA1:∀f∈aN a.L,f∈A)(hA2:∀f∈G,f∈A)(hs:SF w D [(bt,tO ba c n),(ba,eV a)] A [] (fJ a) w) :
  Calls prog 37 #[.pointer (some ⟨bt,0,none⟩)] w λ e w'=>∃y:TY,e=.returned (.tuple #[])/\TYS ba (rB (t,a.mm)) a G k (B+64) (n+1) y/\SF w D [(bt,tO ba y.c y.n),(ba,eV y.a)] [] y.F (fJ y.a) w':=by
 cases hl:t.live with
 | true =>
  refine(Kr (i:=k) (m:=64) h.tm h.ar hl h.rp ha.ok (ha.small (by omega)) (by omega) hA1 hA2 hs).mono λ e w' ⟨y,e1,⟨hy,har⟩,hw⟩=>⟨⟨y.1,y.2.1,y.2.2,n+1⟩,e1,?_,hw⟩
  have h5:=v9.of hy
  obtain⟨z1,z2⟩:=Qu a.mm h.tm h.ar
  have hs1:=ha.s1
  have hs2:=ha.s2
  have em:y.2.2.mm=(rB (t,a.mm)).2:=h5.mm
  exact⟨⟨by show kU ba _ y.2.2.mm _ y.2.2.mm _;rw[em];exact h5.rp,har,Rb a.mm h.tm h.ar 64⟩,em,⟨h5.ok,by show y.2.2.mm.nodes.length<=_;rw[em];omega,by show y.2.2.mm.cs.length<=_;rw[em];omega,Cx h5.gr ha.fam⟩,h5.gr.le,Nat.le_refl _⟩
 | false =>
  have e:rB (t,a.mm)=(t,a.mm):=Ra hl
  rw[e]
  refine(Yp (h.dead hl) hs).mono λ e w' ⟨e1,hw⟩=>⟨⟨c,[],a,n⟩,e1,⟨⟨h.rp,h.ar,?_⟩,rfl,ha.mono (by omega),Mm.Le.refl _,Nat.le_succ _⟩,hw⟩
  cases t with
  | done r=>trivial
  | _=>cases hl
theorem Hl{most:Nat}(h:TK ba t c a G (k+most))(ha:AK a G B)(hB:B+64*most<=100000000000)(hn:n+most<1000000000)(hA1:∀f∈aN a.L,f∈A)(hA2:∀f∈G,f∈A)(hs:SF w D [(bt,tO ba c n),(ba,eV a)] A [] (fJ a) w) :
  Calls prog 30 #[.pointer (some ⟨bt,0,none⟩),.int .i64 ((most:Nat):Int)] w λ e w'=>∃y:TY,e=.returned (.int .i64 ((rR (t,a.mm) most:Nat):Int))/\TYS ba (gI (t,a.mm) most) a G k (B+64*most) (n+rR (t,a.mm) most) y/\SF w D [(bt,tO ba y.c y.n),(ba,eV y.a)] [] y.F (fJ y.a) w':=by
 have hs1:=ha.s1
 have hs2:=ha.s2
 refine(Qs (most:=most) (m:=k+most) h.tm (by omega) h.ar h.rp ha.ok ⟨by omega,by omega⟩ hn hA1 hA2 hs).mono λ e w' ⟨y,e1,h5,hw⟩=>⟨⟨y.1,y.2.1,y.2.2,n+rR (t,a.mm) most⟩,e1,?_,hw⟩
 obtain⟨z0,z1,z2,z3⟩:=Aq (s:=a.mm) h.tm h.ar most (by omega)
 have em:y.2.2.mm=(gI (t,a.mm) most).2:=h5.mm
 exact⟨⟨by show kU ba _ y.2.2.mm _ y.2.2.mm _;rw[em];exact h5.rp,z1,by rw[show k=k+most-most by omega];exact z0⟩,em,⟨h5.ok,by show y.2.2.mm.nodes.length<=_;rw[em];omega,by show y.2.2.mm.cs.length<=_;rw[em];omega,Cx h5.gr ha.fam⟩,h5.gr.le,Nat.le_refl _⟩
structure qc(ba:Nat)(T:Tr)(a:AS)(G:Fr)(k B:Nat)(y:TY):Prop where
 tk:TK ba (Ct.gF T a.mm).1 y.c y.a (y.F++G) k
 mm:y.a.mm=(Ct.gF T a.mm).2
 ak:AK y.a (y.F++G) B
 le:a.mm.Le y.a.mm
theorem W6{T:Tr}{y:Nat×Cd×Fr×AS}(hT:bW T k 64)(ha:AK a G B)(h:rQ ba (Ct.gF T a.mm) a [] y.2/\eE (Ct.gF T a.mm).1=true):qc ba T a G k (B+64) ⟨y.2.1,y.2.2.1,y.2.2.2,0⟩:=by
 obtain⟨h1,h2⟩:=h
 have h5:=v9.of h1
 obtain⟨z1,z2⟩:=qM a.mm hT
 have hs1:=ha.s1
 have hs2:=ha.s2
 have em:y.2.2.2.mm=(Ct.gF T a.mm).2:=h5.mm
 exact⟨⟨by show kU ba _ y.2.2.2.mm _ y.2.2.2.mm _;rw[em];exact kU.more h5.rp λ x hx=>by rw[List.append_nil] at hx;exact List.mem_append_left _ hx,h2,mV a.mm hT 64⟩,em,⟨h5.ok,by show y.2.2.2.mm.nodes.length<=_;rw[em];omega,by show y.2.2.2.mm.cs.length<=_;rw[em];omega,Cx h5.gr ha.fam⟩,h5.gr.le⟩
theorem Zi{n c:Nat}{v:Nv}(h:mC n c v):mC n c {v with main:=0,prev:=0,status:=0}:=⟨h.bK,h.exp,h.new,h.br,bL _,bL _,bL _,h.bm,h.hash⟩
theorem AK.al(h:AK a G B){n:Nd}{xs:List Int}{ys:List Pr}{init:Int}(hx:xs.length<=274877906944)(hy:ys.length<=274877906944)(hb:mC a.mm.nodes.length a.mm.cs.length {n.c xs ys with main:=0,prev:=0,status:=0})(hi:init<=a.mm.nodes.length+1)(X:AX):AK (a.al n xs ys init X) ((mZ n xs ys a.cs.length X).fr++G) (B+1):=by
 have hs1:=h.s1
 have hs2:=h.s2
 refine⟨h.ok.al X hx hy hb hi,?_,?_,λ f hf=>((AS.jM.al a n xs ys init X).fam f hf).elim .inl λ h1=>h1.elim (λ h1=>(h.fam f h1).imp_right λ h=>List.mem_append_right _ h) λ h1=>.inr (List.mem_append_left _ h1)⟩
 ·rw[qY]
  show(a.mm.nodes++[_]).length<=_
  rw[List.length_append]
  exact Nat.succ_le_succ hs1
 ·rw[qY]
  have:=(jY (k:=n.kind) (cs:=a.mm.cs) (init:=init)).2
  show(eZ _ a.mm.cs init).length<=_
  exact Nat.le_trans this (Nat.succ_le_succ hs2)
end
end
section
section
variable{t:dU}{i m p v:Int}{n:Nat}
end
end
section
def QuP(N:List Nv)(cs:List Int)(i:Int):Prop:=aS cs (bA N (aS cs (bA N i).main)).prev=0
section
variable{w:World}{L:List aQ}{cs:List Int}{gen:Int}{pn pc:Option Addr}{cn cc:Nat}
end
end
section
section
variable{H:ByteArray->Nat}{Q:Rs->Kw->Prop}{σ:Kw}
end
abbrev X4(t:dU)(i:Int):Tr:=jQ t i λ r=>.done (fC r false)
abbrev Sa(t:dU)(i m n:Int):Tr:=jU t i m n λ ok=>.done (fC 0 ok)
section
variable{H:ByteArray->Nat}{σ:Kw}{t:dU}{i:Int}
end
section
variable{s:Mm}{t:dU}{i m n c pc:Int}{K:Int->Tr}
theorem Ur{k:Int->Tr}:rB (.load c k,s)=Ct.gF (k (aS s.cs c)) s:=rfl
theorem fh(h:QuP s.nodes s.cs i):gI (Ct.gF (X4 t i) s) 2=(.done (fC (aS s.cs (bA s.nodes i).main) false),s):=by
 have e1:gI (Ct.gF (X4 t i) s) 1=(.load (bA s.nodes (aS s.cs (bA s.nodes i).main)).prev λ p=>if p=0 then .done (fC (aS s.cs (bA s.nodes i).main) false) else .node p λ np =>
  if bV np then(if t.ro=true then kR i (aS s.cs (bA s.nodes i).main) p false (λ r=>.done (fC r false)) else Ak t λ r=>.node r λ nr=>.node i λ ni=>kR i (aS s.cs (bA s.nodes i).main) p (nr.gen==ni.gen) (λ r=>.done (fC r false)))
  else Ih i (aS s.cs (bA s.nodes i).main) p (λ r=>.done (fC r false)),s):=rfl
 show rB (gI _ 1)=_
 have h':aS s.cs (bA s.nodes (aS s.cs (bA s.nodes i).main)).prev=0:=h
 rw[e1,Ur,if_pos h']
 rfl
theorem Wl{cs:List Int}{c o:Int}(h1:1<=c)(h2:c<=cs.length)(h:aS cs c=o):Ix cs c o=true/\gA cs c o:=by
 have hc:gA cs c o:=⟨h1,h2,by unfold aS at h;rwa [if_pos ⟨h1,h2⟩] at h⟩
 exact⟨(Mg (r:=true) ⟨λ _=>hc,λ _=>rfl⟩).symm,hc⟩
end
end
section
theorem Lh(N:List Nv)(v:Nv):bA (N++[v]) ((N.length+1:Nat):Int)=v:=by
 unfold bA
 rw[if_pos ⟨by omega,by simp⟩,iU,show(((N.length+1:Nat):Int)-1).toNat=N.length by omega]
 simp
theorem Ie(cs:List Int)(m:Int):aS (cs++[m]) ((cs.length+1:Nat):Int)=m:=by
 unfold aS
 rw[if_pos ⟨by omega,by simp⟩,iU,show(((cs.length+1:Nat):Int)-1).toNat=cs.length by omega]
 simp
section
variable{H:ByteArray->Nat}{σ:Kw}{t:dU}{i m:Int}
theorem Y6{N:Nat}(hN:10<N){s:Mm}(h:QuP s.nodes s.cs i):gI (Ct.gF (X4 t i) s) N=(.done (fC (aS s.cs (bA s.nodes i).main) false),s)/\rR (Ct.gF (X4 t i) s) N=2:=by
 have h1:=fh (t:=t) h
 obtain⟨h5,h6⟩:=Ci (p:=Ct.gF (X4 t i) s) (j:=2) (k:=N) (by rw[h1];rfl) (by omega)
 exact⟨h5.trans h1,h6.trans rfl⟩
end
end
section
structure Gp(t:dU)(i m n:Int)(s:Mm):Prop where
 hn:n<=s.nodes.length
 hi:i<=s.nodes.length
 hm:m<=s.nodes.length
 m0:m≠0
 mn:m≠n
 c1:1<=(bA s.nodes i).main
 c2:(bA s.nodes i).main<=s.cs.length
 cv:aS s.cs (bA s.nodes i).main=m
 p1:1<=(bA s.nodes n).prev
 p2:(bA s.nodes n).prev<=s.cs.length
 pv:aS s.cs (bA s.nodes n).prev=m
 pc:(bA s.nodes n).prev≠(bA s.nodes i).main
 km:bV (bA s.nodes m)
 qm:aS s.cs (bA s.nodes m).prev=0
 rc:t.ro=false->t.root≠(bA s.nodes i).main/\(bA s.nodes (aS s.cs t.root)).kind=2
section
variable{s M:Mm}{t:dU}{i m n n0 n1:Int}
theorem Gp.jW(h:Gp t i m n s):Ix s.cs (bA s.nodes i).main m=true/\gA s.cs (bA s.nodes i).main m:=Wl h.c1 h.c2 h.cv
def Zj(s:Mm)(i m n:Int):List Int:=eG s.cs (bA s.nodes i).main m n
theorem Gp.at1(h:Gp t i m n s)(x:Int):aS (Zj s i m n) x=if x=(bA s.nodes i).main then n else aS s.cs x:=iP h.jW.2 x
theorem L5:(Zj s i m n).length=s.cs.length:=fN
def Zw(n:Int):Int->Tr:=λ v=>.done (fC 0 (v==n))
theorem Gp.e1(h:Gp t i m n s):gI (Ct.gF (Sa t i m n) s) 1=(.load (bA s.nodes n).prev λ p=>if p=0 then Zw n n else .node p λ np=>if bV np then(if t.ro=true then kR i n p false (Zw n) else Ak t λ r=>.node r λ nr=>.node i λ ni=>kR i n p (nr.gen==ni.gen) (Zw n)) else Ih i n p (Zw n),⟨s.nodes,Zj s i m n,s.gen⟩):=by
 have e:gI (Ct.gF (Sa t i m n) s) 1=Ct.gF (if Ix s.cs (bA s.nodes i).main m=true then mY t i n (Zw n) else .done (fC 0 false)) ⟨s.nodes,Zj s i m n,s.gen⟩:=rfl
 rw[e,h.jW.1,if_pos rfl]
 rfl
theorem Gp.e2(h:Gp t i m n s):gI (Ct.gF (Sa t i m n) s) 2=Ct.gF (if t.ro=true then kR i n m false (Zw n) else Ak t λ r=>.node r λ nr=>.node i λ ni=>kR i n m (nr.gen==ni.gen) (Zw n)) ⟨s.nodes,Zj s i m n,s.gen⟩:=by
 show rB (gI _ 1)=_
 rw[h.e1,Ur]
 dsimp only
 rw[h.at1,if_neg h.pc,h.pv,if_neg h.m0]
 show Ct.gF (if bV (bA s.nodes m) then _ else _) _=_
 rw[if_pos h.km]
theorem Gp.e3(h:Gp t i m n s)(hro:t.ro=false):gI (Ct.gF (Sa t i m n) s) 3=Ct.gF (kR i n m ((bA s.nodes (aS s.cs t.root)).gen==(bA s.nodes i).gen) (Zw n)) ⟨s.nodes,Zj s i m n,s.gen⟩/\(gI (Ct.gF (Sa t i m n) s) 2).2=⟨s.nodes,Zj s i m n,s.gen⟩:=by
 have e2:=h.e2
 rw[hro,if_neg (by decide)] at e2
 refine⟨?_,by rw[e2];rfl⟩
 show rB (gI _ 2)=_
 rw[e2]
 show Ct.gF (if(bA s.nodes (aS (Zj s i m n) t.root)).kind=2 then(Tr.node (aS (Zj s i m n) t.root) λ nr=>.node i λ ni=>kR i n m (nr.gen==ni.gen) (Zw n)) else _) _=_
 rw[h.at1,if_neg (h.rc hro).1,if_pos (h.rc hro).2]
 rfl
def ot(s:Mm)(i m n:Int):List Int:=eG (Zj s i m n) (bA s.nodes n).prev m 0
theorem Gp.ok2(h:Gp t i m n s):gA (Zj s i m n) (bA s.nodes n).prev m:=(Wl h.p1 (by rw[L5];exact h.p2) (by rw[h.at1,if_neg h.pc];exact h.pv)).2
theorem Gp.at2(h:Gp t i m n s)(x:Int):aS (ot s i m n) x=if x=(bA s.nodes n).prev then 0 else aS (Zj s i m n) x:=iP h.ok2 x
theorem ul:(ot s i m n).length=s.cs.length:=fN.trans L5
structure aAL(i m n:Int)(s M:Mm):Prop where
 nodes:M.nodes=s.nodes
 len:M.cs.length=s.cs.length
 main:aS M.cs (bA s.nodes i).main=n
theorem Gp.aA0(h:Gp t i m n s):aAL i m n s ⟨s.nodes,Zj s i m n,s.gen⟩:=⟨rfl,L5,by rw[h.at1,if_pos rfl]⟩
theorem Gp.u9(h:Gp t i m n s):aAL i m n s ⟨s.nodes,ot s i m n,s.gen⟩:=⟨rfl,ul,by show aS (ot s i m n) _=_;rw[h.at2,if_neg (Ne.symm h.pc),h.at1,if_pos rfl]⟩
theorem Gp.win(h:Gp t i m n s)(hro:t.ro=false)(hg:(bA s.nodes (aS s.cs t.root)).gen=(bA s.nodes i).gen) :
  (∀k,5<=k->gI (Ct.gF (Sa t i m n) s) k=(.done (fC 0 true),⟨s.nodes,ot s i m n,s.gen⟩))/\∀k,1<=k->aAL i m n s (gI (Ct.gF (Sa t i m n) s) k).2:=by
 obtain⟨e3,e2⟩:=h.e3 hro
 rw[hg,show((bA s.nodes i).gen==(bA s.nodes i).gen)=true from beq_self_eq_true _] at e3
 have e4:gI (Ct.gF (Sa t i m n) s) 4=(.load (bA s.nodes n).prev λ p=>if p=0 then Zw n n else Ih i n p (Zw n),⟨s.nodes,ot s i m n,s.gen⟩):=by
  show rB (gI _ 3)=_
  rw[e3]
  rfl
 have e5:gI (Ct.gF (Sa t i m n) s) 5=(.done (fC 0 true),⟨s.nodes,ot s i m n,s.gen⟩):=by
  show rB (gI _ 4)=_
  rw[e4,Ur]
  dsimp only
  rw[h.at2,if_pos rfl,if_pos rfl]
  show(Tr.done (fC 0 (n==n)),_)=_
  rw[show(n==n)=true from beq_self_eq_true n]
 have hk:∀k,5<=k->gI (Ct.gF (Sa t i m n) s) k=(.done (fC 0 true),⟨s.nodes,ot s i m n,s.gen⟩):=λ k hk=>(Ci (by rw[e5];rfl) hk).1.trans e5
 refine⟨hk,λ k h1=>?_⟩
 by_cases h5:5<=k
 ·rw[hk k h5];exact h.u9
 ·have:k=1∨k=2∨k=3∨k=4:=by omega
  rcases this with rfl|rfl|rfl|rfl
  ·rw[h.e1];exact h.aA0
  ·rw[e2];exact h.aA0
  ·rw[e3];exact h.aA0
  ·rw[e4];exact h.u9
theorem Uz(hM:aS M.cs (bA s.nodes i).main≠m):rB ((Ct.gF (Sa t i m n) s).1,M)=(.done (fC 0 false),M):=by
 have hc:¬gA M.cs (bA s.nodes i).main m:=λ h=>hM (sS h)
 have eb:Ix M.cs (bA s.nodes i).main m=false:=(Mg (r:=false) ⟨λ h=>(nomatch h),λ h=>absurd h hc⟩).symm
 have e:rB ((Ct.gF (Sa t i m n) s).1,M)=Ct.gF (if Ix M.cs (bA s.nodes i).main m=true then mY t i n (Zw n) else .done (fC 0 false)) ⟨M.nodes,eG M.cs (bA s.nodes i).main m n,M.gen⟩:=rfl
 rw[e,eb,if_neg (by decide),rF hc]
 rfl
theorem U6(p:Tr×Mm)(n:Nat):gI p (n+1)=gI (rB p) n:=by rw[Nat.add_comm,Ep];rfl
inductive Zt(T0 T1:Tr×Mm):Tr->Tr->Mm->Prop where
 | none:Zt T0 T1 T0.1 T1.1 T0.2
 | one (k:Nat) (hk:1<=k) (u:Tr) (hu:u=T1.1∨u=.done (fC 0 false)):Zt T0 T1 (gI T0 k).1 u (gI T0 k).2
 | two (k:Nat) (hk:1<=k) (u:Tr) (hu:u=T0.1∨u=.done (fC 0 false)):Zt T0 T1 u (gI T1 k).1 (gI T1 k).2
structure Uy(t:dU)(i m n0 n1:Int)(s:Mm):Prop where
 a:Gp t i m n0 s
 b:Gp t i m n1 s
 ro:t.ro=false
 gen:(bA s.nodes (aS s.cs t.root)).gen=(bA s.nodes i).gen
abbrev pQ(t:dU)(i m n:Int)(s:Mm):Tr×Mm:=Ct.gF (Sa t i m n) s
theorem Uy.ve(h:Uy t i m n0 n1 s){k:Nat}(hk:1<=k):rB ((pQ t i m n1 s).1,(gI (pQ t i m n0 s) k).2)=(.done (fC 0 false),(gI (pQ t i m n0 s) k).2):=Uz (by rw[((h.a.win h.ro h.gen).2 k hk).main];exact Ne.symm h.a.mn)
theorem Uy.wb(h:Uy t i m n0 n1 s){k:Nat}(hk:1<=k):rB ((pQ t i m n0 s).1,(gI (pQ t i m n1 s) k).2)=(.done (fC 0 false),(gI (pQ t i m n1 s) k).2):=Uz (by rw[((h.b.win h.ro h.gen).2 k hk).main];exact Ne.symm h.b.mn)
theorem Uy.x(h:Uy t i m n0 n1 s){tx ty:Tr}{M:Mm}(h2:Zt (pQ t i m n0 s) (pQ t i m n1 s) tx ty M):Zt (pQ t i m n0 s) (pQ t i m n1 s) (rB (tx,M)).1 ty (rB (tx,M)).2:=by
 cases h2 with
 | none=>exact .one 1 (Nat.le_refl 1) _ (.inl rfl)
 | one k hk u hu=>exact .one (k+1) (by omega) _ hu
 | two k hk u hu =>
  rcases hu with rfl|rfl
  ·rw[h.wb hk];exact .two k hk _ (.inr rfl)
  ·exact .two k hk _ (.inr rfl)
theorem Uy.y(h:Uy t i m n0 n1 s){tx ty:Tr}{M:Mm}(h2:Zt (pQ t i m n0 s) (pQ t i m n1 s) tx ty M):Zt (pQ t i m n0 s) (pQ t i m n1 s) tx (rB (ty,M)).1 (rB (ty,M)).2:=by
 cases h2 with
 | none=>exact .two 1 (Nat.le_refl 1) _ (.inl rfl)
 | two k hk u hu=>exact .two (k+1) (by omega) _ hu
 | one k hk u hu =>
  rcases hu with rfl|rfl
  ·rw[h.ve hk];exact .one k hk _ (.inr rfl)
  ·exact .one k hk _ (.inr rfl)
structure TwE(i n0 n1:Int)(s:Mm)(tx ty:Tr)(M:Mm):Prop where
 e:∃b,tx=.done (fC 0 b)/\ty=.done (fC 0 (!b))/\aS M.cs (bA s.nodes i).main=(if b=true then n0 else n1)/\aS M.cs (bA s.nodes (if b=true then n0 else n1)).prev=0
 nodes:M.nodes=s.nodes
theorem Uy.end{N:Nat}(hN:6<=N)(h:Uy t i m n0 n1 s){tx ty:Tr}{M:Mm}(h2:Zt (pQ t i m n0 s) (pQ t i m n1 s) tx ty M):TwE i n0 n1 s (gI (tx,M) N).1 (gI (ty,(gI (tx,M) N).2) N).1 (gI (ty,(gI (tx,M) N).2) N).2:=by
 obtain⟨j,rfl⟩:∃j,N=j+1:=⟨N-1,by omega⟩
 have w0:=(h.a.win h.ro h.gen).1
 have w1:=(h.b.win h.ro h.gen).1
 have key0:∀k u,5<=k->(u=(pQ t i m n1 s).1∨u=.done (fC 0 false))->TwE i n0 n1 s (gI (pQ t i m n0 s) k).1 (gI (u,(gI (pQ t i m n0 s) k).2) (j+1)).1 (gI (u,(gI (pQ t i m n0 s) k).2) (j+1)).2:=λ k u hk hu=>by
  have e:gI (u,(gI (pQ t i m n0 s) k).2) (j+1)=(.done (fC 0 false),(gI (pQ t i m n0 s) k).2):=by
   rcases hu with rfl|rfl
   ·rw[U6 _ j,h.ve (by omega),vO]
   ·rw[vO]
  rw[e,w0 k hk]
  exact⟨⟨true,rfl,rfl,h.a.u9.main,by rw[if_pos rfl];show aS (ot s i m n0) _=0;rw[h.a.at2,if_pos rfl]⟩,rfl⟩
 cases h2 with
 | none =>
  exact key0 (j+1) _ (by omega) (.inl rfl)
 | one k hk u hu =>
  rw[show gI ((gI (pQ t i m n0 s) k).1,(gI (pQ t i m n0 s) k).2) (j+1)=gI (pQ t i m n0 s) (k+(j+1)) from(Ep _ _ _).symm]
  exact key0 (k+(j+1)) ty (by omega) hu
 | two k hk u hu =>
  have e:gI (tx,(gI (pQ t i m n1 s) k).2) (j+1)=(.done (fC 0 false),(gI (pQ t i m n1 s) k).2):=by
   rcases hu with rfl|rfl
   ·rw[U6 _ j,h.wb hk,vO]
   ·rw[vO]
  rw[e]
  show TwE i n0 n1 s (.done (fC 0 false)) (gI (gI (pQ t i m n1 s) k) (j+1)).1 (gI (gI (pQ t i m n1 s) k) (j+1)).2
  rw[<- Ep,w1 (k+(j+1)) (by omega)]
  exact⟨⟨false,rfl,rfl,h.b.u9.main,by rw[if_neg (by decide)];show aS (ot s i m n1) _=0;rw[h.b.at2,if_pos rfl]⟩,rfl⟩
end
end
section
def kG(kind:Int)(t:dU)(a b n:Int):Cl:=⟨kind,t,a,b,n,0,0,0,⟨#[]⟩,0,0,0,false⟩
section
variable{ba k B:Nat}{t:dU}{a:AS}{G A:Fr}{D:List Nat}{w:World}{i bK nw:Int}
theorem Jr(t:dU)(i m n:Int){k:Nat}(h:k<1073741824):bW (Sa t i m n) k 64:=rC (kG 2 t i m n) 0 h
theorem Ju(t:dU)(i:Int){k:Nat}(h:k<1073741824):bW (X4 t i) k 64:=rC (kG 1 t i 0 0) 0 h
theorem Pp(ht:t.root<=9223372036854775807)(hi:i<=a.mm.nodes.length)(hnn:nw<=a.mm.nodes.length)(ha:AK a G B)(hB:B<=90000000000)(hA:∀f∈aN a.L,f∈A)(hs:SF w D [(ba,eV a)] A [] (fJ a) w) :
  Calls prog 28 #[.iface 42 (.pointer (some ⟨ba,0,none⟩)),.agg ⟨[.int .i64 t.root,.bool t.ro]⟩,.int .i64 i,.int .i64 bK,.int .i64 nw] w λ e w'=>∃x:Nat×TY,e=.returned (.pointer (some ⟨x.1,0,none⟩))/\qc ba (Sa t i bK nw) a G 1000 (B+64) x.2/\SF w D ([(ba,eV x.2.a)]++[(x.1,tO ba x.2.c 0)]) [] x.2.F (fJ x.2.a++[]) w' :=
 (Nq (O2 (t:=t) (i:=i) (bK:=bK) (nw:=nw) (B:=[]) (n:=1000) (m:=64) ht hi hnn (Jr _ _ _ _ (by decide)) ha.ok (ha.small (by omega)) hA (λ x hx=>nomatch hx) hs)).mono λ e w' ⟨x,e1,h,hw⟩=>⟨(x.1,⟨x.2.1,x.2.2.1,x.2.2.2,0⟩),e1,W6 (Jr _ _ _ _ (by decide)) ha h,hw⟩
theorem dj(ht:t.root<=9223372036854775807)(hi:i<=a.mm.nodes.length)(ha:AK a G B)(hB:B<=90000000000)(hA:∀f∈aN a.L,f∈A)(hs:SF w D [(ba,eV a)] A [] (fJ a) w) :
  Calls prog 38 #[.iface 42 (.pointer (some ⟨ba,0,none⟩)),.agg ⟨[.int .i64 t.root,.bool t.ro]⟩,.int .i64 i] w λ e w'=>∃x:Nat×TY,e=.returned (.pointer (some ⟨x.1,0,none⟩))/\qc ba (X4 t i) a G 1000 (B+64) x.2/\SF w D ([(ba,eV x.2.a)]++[(x.1,tO ba x.2.c 0)]) [] x.2.F (fJ x.2.a++[]) w' :=
 (Nq (jk (t:=t) (i:=i) (B:=[]) (n:=1000) (m:=64) ht hi (Ju _ _ (by decide)) ha.ok (ha.small (by omega)) hA (λ x hx=>nomatch hx) hs)).mono λ e w' ⟨x,e1,h,hw⟩=>⟨(x.1,⟨x.2.1,x.2.2.1,x.2.2.2,0⟩),e1,W6 (Ju _ _ (by decide)) ha h,hw⟩
end
end
section
section
variable{H:ByteArray->Nat}{M s:Mm}{ts:List dU}{σ:Kw}{t:dU}{i m n:Int}{u:Nv}
theorem QS.main(q:QS H M ts σ)(hi:(bA M.nodes i).kind=2):1<=(bA M.nodes i).main/\(bA M.nodes i).main<=M.cs.length/\bV (bA M.nodes (aS M.cs (bA M.nodes i).main))/\aS M.cs (bA M.nodes (aS M.cs (bA M.nodes i).main)).prev=0:=by
 have e:=q.mm
 subst e
 have h1:=q.inv.dO hi
 exact⟨h1.1,h1.2.1,S9 q.inv hi,q.st i hi⟩
theorem QS.root(q:QS H M ts σ)(ht:t∈ts):1<=t.root/\t.root<=M.cs.length/\(bA M.nodes (aS M.cs t.root)).kind=2:=by
 have e:=q.mm
 subst e
 have hT:=q.ts t ht
 refine⟨hT.1,hT.2.1,?_⟩
 cases hro:t.ro with
 | true=>exact(hT.roI q.inv hro).1
 | false=>exact q.rt _ hT.1 hT.2.1 (hT.rw hro)
theorem QS.yq(q:QS H M ts σ)(ht:t∈ts)(hi:(bA M.nodes i).kind=2):t.root≠(bA M.nodes i).main:=λ e=>by
 have em:=q.mm
 subst em
 have hT:=q.ts t ht
 have h1:=(q.inv.dO hi).2.2
 have h2:=hT.2.2
 rw[e,show σ.ct (bA σ.mm.nodes i).main=.main i from h1] at h2
 unfold ctR at h2
 split at h2<;>cases h2
theorem jv(q:QS H M ts σ)(ht:t∈ts)(hi:(bA M.nodes i).kind=2)(hm:aS M.cs (bA M.nodes i).main=m)(e1:∃N,s.nodes=M.nodes++N)(e2:∃C,s.cs=M.cs++C)
  (hn:n<=s.nodes.length) (hmn:(M.nodes.length:Int)<n) (p1:(M.cs.length:Int)<(bA s.nodes n).prev) (p2:(bA s.nodes n).prev<=s.cs.length) (pv:aS s.cs (bA s.nodes n).prev=m):Gp t i m n s:=by
 obtain⟨N,e1⟩:=e1
 obtain⟨C,e2⟩:=e2
 have hir:=dG (N:=M.nodes) (i:=i) (by rw[hi];decide)
 obtain⟨c1,c2,hk,hp⟩:=q.main hi
 rw[hm] at hk hp
 have hmr:=iD hk
 obtain⟨r1,r2,r3⟩:=q.root ht
 have hl1:s.nodes.length=M.nodes.length+N.length:=by rw[e1,List.length_append]
 have hl2:s.cs.length=M.cs.length+C.length:=by rw[e2,List.length_append]
 have ni:bA s.nodes i=bA M.nodes i:=by rw[e1];exact mN hir.2
 have nm:bA s.nodes m=bA M.nodes m:=by rw[e1];exact mN hmr.2
 have ce:∀x:Int,x<=M.cs.length->aS s.cs x=aS M.cs x:=λ x hx=>by rw[e2];exact lW hx
 have hpb:(bA M.nodes m).prev<=M.cs.length:=by
  have e:=q.mm
  subst e
  exact(q.inv.jI hk).2.1
 have hrb:aS M.cs t.root<=M.nodes.length:=(dG (N:=M.nodes) (i:=aS M.cs t.root) (by rw[r3];decide)).2
 refine⟨hn,by omega,by omega,by omega,by omega,by rw[ni];exact c1,by rw[ni];omega,by rw[ni,ce _ c2];exact hm,by omega,p2,pv,by rw[ni];omega,by rw[nm];exact hk,by rw[nm,ce _ hpb];exact hp,λ hro=>⟨by rw[ni];exact q.yq ht hi,?_⟩⟩
 rw[ce _ r2,e1,mN hrb]
 exact r3
theorem Jk(hu:bV u):(M.push u m).nodes=M.nodes++[cY u M.cs.length]/\(M.push u m).cs=M.cs++[m]/\(cY u M.cs.length).prev=((M.cs.length+1:Nat):Int):=by
 have hk:u.kind=3∨u.kind=5∨u.kind=6:=hu
 refine⟨rfl,?_,if_pos hk⟩
 show eZ _ _ _=_
 unfold eZ
 exact if_pos (by omega)
theorem kw(q:QS H M ts σ)(ht:t∈ts)(hi:(bA M.nodes i).kind=2)(hm:aS M.cs (bA M.nodes i).main=m)(hu:bV u)(hro:t.ro=false)(hg:(bA M.nodes (aS M.cs t.root)).gen=(bA M.nodes i).gen) :
  Uy t i m ((M.nodes.length+1:Nat):Int) ((M.nodes.length+1+1:Nat):Int) ((M.push u m).push u m):=by
 obtain⟨e1,e2,e3⟩:=Jk (M:=M) (m:=m) hu
 obtain⟨f1,f2,f3⟩:=Jk (M:=M.push u m) (m:=m) hu
 have hl1:(M.push u m).nodes.length=M.nodes.length+1:=by rw[e1];simp
 have hl2:(M.push u m).cs.length=M.cs.length+1:=by rw[e2];simp
 have hk1:((M.push u m).push u m).nodes.length=M.nodes.length+2:=by rw[f1,List.length_append,hl1];rfl
 have hk2:((M.push u m).push u m).cs.length=M.cs.length+2:=by rw[f2,List.length_append,hl2];rfl
 have en0:bA ((M.push u m).push u m).nodes ((M.nodes.length+1:Nat):Int)=cY u M.cs.length:=by rw[f1,mN (by omega),e1];exact Lh _ _
 have Jc:bA ((M.push u m).push u m).nodes ((M.nodes.length+1+1:Nat):Int)=cY u (M.push u m).cs.length:=by rw[f1,<- hl1];exact Lh _ _
 have x1:∃N,((M.push u m).push u m).nodes=M.nodes++N:=⟨_,by rw[f1,e1,List.append_assoc]⟩
 have x2:∃C,((M.push u m).push u m).cs=M.cs++C:=⟨_,by rw[f2,e2,List.append_assoc]⟩
 have a:=jv (n:=((M.nodes.length+1:Nat):Int)) q ht hi hm x1 x2 (by omega) (by omega) (by rw[en0,e3];omega) (by rw[en0,e3];omega) (by rw[en0,e3,f2,lW (by omega),e2];exact Ie _ _)
 have b:=jv (n:=((M.nodes.length+1+1:Nat):Int)) q ht hi hm x1 x2 (by omega) (by omega) (by rw[Jc,f3];omega) (by rw[Jc,f3];omega) (by rw[Jc,f3,f2];exact Ie _ _)
 obtain⟨r1,r2,r3⟩:=q.root ht
 have hrb:aS M.cs t.root<=M.nodes.length:=(dG (N:=M.nodes) (i:=aS M.cs t.root) (by rw[r3];decide)).2
 have hir:=dG (N:=M.nodes) (i:=i) (by rw[hi];decide)
 refine⟨a,b,hro,?_⟩
 obtain⟨N,x1⟩:=x1
 obtain⟨C,x2⟩:=x2
 rw[x2,lW r2,x1,mN hrb,mN hir.2]
 exact hg
theorem QS.body(q:QS H M ts σ)(hb:gN M.nodes M.cs i=some m):(bA M.nodes i).kind=2/\aS M.cs (bA M.nodes i).main=m:=by
 have hi:=(Bo hb).1
 refine⟨hi,?_⟩
 have hp:oU M.nodes M.cs i=0:=(q.main hi).2.2.2
 unfold gN at hb
 split at hb
 ·exact Option.some.inj hb
 ·cases hb
theorem QS.kE(q:QS H M ts σ)(ht:t∈ts){r:Int}(h:kE M.nodes M.cs t.root=some r):aS M.cs t.root=r:=by
 have h2:=(q.root ht).2.2
 have e:rK M.nodes M.cs t.root=aS M.cs t.root:=by
  unfold rK
  rw[if_neg (by rw[h2];decide)]
 unfold Go.Ct.kE at h
 rw[e,if_pos h2] at h
 exact Option.some.inj h
end
end
end Go.Proofs.YtbajmaoegmbfgaaGreat

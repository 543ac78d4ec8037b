/- The laws of gcas: the sanity check. -/
import Derived.Test.YtbajmaoegmbfgaaGreatGGc4
import Derived.Test.YtbajmaoegmbfgaaGreatGR9r
import Derived.Test.YtbajmaoegmbfgaaGreatKw8

set_option linter.unusedSimpArgs false
set_option linter.unusedVariables false
namespace Go.Proofs.YtbajmaoegmbfgaaGreat
section
open Go Go.RowKit Go.Ct
abbrev j7:Nd:={Nd.zero with kind:=3}
def Ix:Mm:=mm0.push (j7.c [] []) 3
def Nw:Tr:=jD ⟨3,false⟩ 4 3 5 λ ok=>.done (gG 0 ok)
theorem Ae:bT Nw 20 64:=by
 have h:Nw=kT ⟨2,⟨3,false⟩,4,3,5,0,0,0,⟨#[]⟩,0,0,0,false⟩ 0 21:=by
  unfold Nw kT
  rfl
 rw[h]
 exact I8 (by decide)
theorem vy:iM (Ct.dY Nw Ix) 9=(.done (gG 0 true),(iM (Ct.dY Nw Ix) 9).2)/\nB (Ct.dY Nw Ix) 9=5/\bD (iM (Ct.dY Nw Ix) 9).2.cs 2=5/\(bH (iM (Ct.dY Nw Ix) 9).2.nodes 4).main=2/\(iM (Ct.dY Nw Ix) 9).2.nodes.length=5:=⟨rfl,rfl,rfl,rfl,rfl⟩
theorem ul:(Ct.dY Nw Ix).2.nodes.length=5/\(Ct.dY Nw Ix).2.cs.length=4:=⟨rfl,rfl⟩
theorem mh{D:List Nat}{A B F:Fr}{a0 a:AS}{b bt:Nat}{c:Cd}{w:World}(hp:qF b (Ct.dY Nw Ix) a0 B (c,F,a))(hA:∀f∈aM a.L,f∈A)(hB:∀x∈F++B,x∈A)(hs:SF w D [(bt,tO b c 0),(b,fI a)] A [] (fQ a) w) :
  Calls Tryz.prog 30 #[.pointer (some ⟨bt,0,none⟩),.int .i64 9] w λ e w'=>∃y:Fr×AS,e=.returned (.int .i64 5)/\(bD y.2.cs 2=5/\(aB (bS y.2.L) 4).nd.main=2/\y.2.Ok/\y.2.mm.Small/\a.iP y.2 y.1/\(4:Int)<=y.2.mm.nodes.length)/\SF w D [(bt,tO b (sN (gG 0 true)) 5),(b,fI y.2)] [] y.1 (fQ y.2) w':=by
 obtain⟨e1,e2,e3,e4,e5⟩:=vy
 obtain⟨g1,g2⟩:=ul
 refine(Oq (n:=0) (m:=20) (most:=9) hp (kM Ix Ae) (kP Ix Ae 64) (by decide) ⟨by omega,by omega⟩ (by decide) hA hB hs).mono λ e w' ⟨y,h1,h2,hw⟩=>?_
 have h3:=h2.rp
 rw[e1] at h3
 obtain⟨_,h4⟩:=h3
 have h5:y.2.2.cs=(iM (Ct.dY Nw Ix) 9).2.cs:=congrArg Mm.cs h2.mm
 have h7:(bS y.2.2.L).map aP.c=(iM (Ct.dY Nw Ix) 9).2.nodes:=congrArg Mm.nodes h2.mm
 obtain⟨_,_,_,h6⟩:=Ab (kP Ix Ae 64) (kM Ix Ae) 9 (by decide) (s:=(Ct.dY Nw Ix).2)
 have h6':(iM (Ct.dY Nw Ix) 9).2.cs.length<=(Ct.dY Nw Ix).2.cs.length+64*9:=h6
 rw[e2,h4] at hw
 refine⟨(y.2.1,y.2.2),by rw[h1,e2];rfl,⟨by show bD y.2.2.cs 2=5;rw[h5];exact e3,?_,h2.ok,?_,h2.gr,?_⟩,hw⟩
 ·rw[<- h7,<- qL] at e4
  exact e4
 ·rw[h2.mm]
  exact⟨by rw[e5];decide,by omega⟩
 ·show(4:Int)<=y.2.2.mm.nodes.length
  rw[h2.mm,e5];decide
set_option maxRecDepth 100000 in
set_option maxHeartbeats 1000000 in
theorem Xe(w:World):Calls Tryz.prog 72 #[] w λ e w'=>∃q:Nat×AS,e=.returned (.tuple #[.pointer (some ⟨q.1,0,none⟩),.agg ⟨[.int .i64 3,.bool false]⟩,.int .i64 4,.int .i64 3,.int .i64 5])/\(q.2.mm=Ix/\q.2.Ok)/\SF w [] [(q.1,fI q.2)] [] (aM q.2.L) (fQ q.2) w':=by
 refine enter Tryz.func72 Tryz.ntmps72 rfl rfl (SF.s0 w) ?_
 simp only[cD]
 refine J0 ?_;refine eC (λ _=>?_);refine aJ (λ x1=>?_);refine eC (λ _=>?_);refine J8 ?_;refine J0 ?_;refine aD (Rb (Fc:=λ _=>[]) (hc:=λ w1 hw=>bz w1)) (λ x6 h6=>?_);refine J1 ?_;refine J2 ?_;refine aD (cM (hc:=λ w hs=>O2 hs)) (λ x8 h8=>?_);refine J5 ?_;refine H7 ?_;refine aC (aR (k:=3) rf cX eP (by simp only[List.drop_zero,List.take_succ_cons,List.take_zero];exact rfl) rfl) rfl ?_;refine aD (Rb (V:=λ x:Nat×List aP×(Option Addr×Nat)×(Option Addr×Nat)=>.tuple #[.pointer (some ⟨x.1,0,none⟩),.int .i64 0]) (Hc:=λ x=>[(x.1,aO x.2.1 [0,3,4] 1 0 x.2.2.1.1 x.2.2.1.2 x.2.2.2.1 x.2.2.2.2)]) (Fc:=λ x=>aM x.2.1) (Oc:=λ x=>mW x.2.1 [0,3,4] x.2.2.1.1 x.2.2.1.2 x.2.2.2.1 x.2.2.2.2) (hc:=λ w1 hw=>Y3 (L:=L4 x8.1 x8.2.1) (cs:=[0,3,4]) (hw.H6 (.inr (.inr (.inr ⟨_,.head _,rfl,rfl⟩))) (.inr (.inr (.inr ⟨_,.tail _ (.head _),rfl,rfl⟩))) (λ f hf=>.inl (cw f hf)) (U0 x8.1 x8.2.1 0 none 0 none 0).fit) (by show 4<=_;decide) (by decide) (hw.yq .head) (Wl _ _))) (λ x14 h14=>?_)
 obtain⟨a0,ha0⟩:∃a:AS,a=⟨x14.2.1,[0,3,4],1,0,x14.2.2.1.1,x14.2.2.1.2,x14.2.2.2.1,x14.2.2.2.2⟩:=⟨_,rfl⟩
 have hmm:a0.mm=mm0:=by rw[ha0];show Mm.mk ((bS x14.2.1).map aP.c) [0,3,4] 1=mm0;rw[h14.1];rfl
 have hok:a0.Ok:=⟨by rw[ha0];exact h14.2,by rw[hmm];exact(U0 x8.1 x8.2.1 0 none 0 none 0).mo⟩
 have hsm:a0.mm.Small:=by rw[hmm];exact⟨by decide,by decide⟩
 have hoA:∀x:AX,(a0.al j7 [] [] 3 x).Ok:=λ x=>hok.al x (by simp) (by simp) ⟨bI _,bI _,bI _,(λ r hr=>nomatch hr),bI _,bI _,bI _,⟨0,rfl,by decide⟩,⟨0,rfl,by decide⟩⟩ (by rw[hmm];decide)
 have hmA:∀x:AX,(a0.al j7 [] [] 3 x).mm=Ix:=λ x=>by rw[Au,hmm];rfl
 refine Lc ?_;refine iO ?_;refine J2 ?_;refine sH ?_
 refine aZ (λ c18=>?_) (λ c18=>?_)
 ·cases c18
 ·refine kK ?_;refine dZ [(0,[]),(1,[]),(2,[]),(3,[]),(4,[1]),(5,[1]),(6,[]),(7,[]),(8,[]),(9,[])] ?_;refine aT ?_;refine bN ?_;refine aT ?_;refine iT ?_;refine bB (i:=4) (hq:=(cM (V:=λ _:AX=>.int .i64 5) (hs:=[(x14.1,fI a0)]) (os:=fQ a0) (A0:=[(none,aG []),(none,cR [])]) (hs':=λ x=>[(x14.1,fI (a0.al j7 [] [] 3 x))]) (os':=λ x=>fQ (a0.al j7 [] [] 3 x)) (Fc:=λ x=>(nX j7 [] [] a0.cs.length x).fr) (hH:=by rw[ha0];exact .cons .head .nil) (hO:=by rw[ha0];exact .cons .head (.cons .head .nil)) (hc:=λ w1 hw=>by have:=Hq (n:=j7) (xs:=[]) (ys:=[]) hok hsm 3 rfl rfl (by simp) (by simp) (λ f hf=>hf) hw;rw[hmm] at this;exact this))) (h:=λ x24 h24=>?_);refine iK (h:=λ _=>?_);refine lX (h:=λ _=>?_);refine iK (h:=λ _=>?_);refine Qp ?_
  refine aY Tryz.results72 (λ w hw=>?_)
  have hw:=hw.eU (F':=aM (a0.al j7 [] [] 3 x24).L) λ f hf=>((AS.iP.al a0 j7 [] [] 3 x24).fam f hf).imp_right λ h=>h.elim (λ h=>List.mem_append_right _ (by rw[ha0] at h;exact List.mem_append_left _ h)) λ h=>List.mem_append_left _ h
  exact⟨(x14.1,a0.al j7 [] [] 3 x24),rfl,⟨hmA x24,hoA x24⟩,hw.ret (by repeat (first|exact List.nil_sublist _|apply List.Sublist.cons_cons)) aW.all (by repeat (first|exact List.nil_sublist _|apply List.Sublist.cons_cons))⟩
set_option maxRecDepth 100000 in
set_option maxHeartbeats 1000000 in
theorem V9(w:World):Calls Tryz.prog 27 #[] w λ e w'=>e=.returned (.bool true)/\St w [] [] w':=by
 refine enter Tryz.func27 Tryz.ntmps27 rfl rfl (SF.s0 w) ?_
 simp only[cD]
 refine cP ?_;refine J0 ?_;refine aD (Rb (V:=λ q:Nat×AS=>.tuple #[.pointer (some ⟨q.1,0,none⟩),.agg ⟨[.int .i64 3,.bool false]⟩,.int .i64 4,.int .i64 3,.int .i64 5]) (Hc:=λ q=>[(q.1,fI q.2)]) (Fc:=λ q=>aM q.2.L) (Oc:=λ q=>fQ q.2) (hc:=λ w1 hw=>Xe w1)) (λ x8 h8=>?_)
 obtain⟨hmm,hok⟩:=h8
 refine Lc ?_;refine J54 ?_;refine rZ ?_;refine aJ (λ x2=>?_);refine eC (λ _=>?_);refine iV (λ _=>?_);refine eC (λ _=>?_);refine J8 ?_;refine kX ?_;refine sH ?_
 refine aZ (λ c15=>?_) (λ c15=>?_)
 ·try (contradiction)
 ·try (first|contradiction|(exfalso;omega))
  refine aX ?_;refine J2 ?_;refine aC (Zs rf (λ w=>Bd _ w)) rfl ?_;refine bP ?_;refine pD ?_;refine aA ?_;refine aD (j5 (V:=λ x:Nat×Cd×Fr×AS=>.pointer (some ⟨x.1,0,none⟩)) (hs:=[(x8.1,fI x8.2)]) (os:=fQ x8.2) (hs':=λ x=>[(x8.1,fI x.2.2.2)]) (Hc:=λ x=>[(x.1,tO x8.1 x.2.1 0)]) (os':=λ x=>fQ x.2.2.2) (Oc:=λ _=>[]) (Fc:=λ x=>x.2.2.1) (A0:=aM x8.2.L) (hA:=bE.of λ f hf=>.inr (.inr (.inl (by simpa using hf)))) (hc:=λ w1 hw=>by have:=Kv (Oj (t:=⟨3,false⟩) (i:=4) (bJ:=3) (nw:=5) (B:=[]) (n:=20) (m:=64) (by decide) (by rw[hmm];decide) (by rw[hmm];decide) Ae hok (by rw[hmm];exact⟨by decide,by decide⟩) (λ f hf=>hf) (λ x hx=>nomatch hx) hw);rw[hmm] at this;exact this)) (λ x22 h22=>?_);refine J1 ?_;refine J2 ?_;refine lU ?_;refine aA ?_
  (refine aE ?_;refine aA ?_)
  ((refine aE ?_;refine aD (cM (V:=λ y:Fr×AS=>.int .i64 5) (hs:=[(x22.1,tO x8.1 x22.2.1 0),(x8.1,fI x22.2.2.2)]) (os:=fQ x22.2.2.2) (hs':=λ y=>[(x22.1,tO x8.1 (sN (gG 0 true)) 5),(x8.1,fI y.2)]) (os':=λ y=>fQ y.2) (Fc:=λ y=>y.1) (A0:=aM x22.2.2.2.L++(x22.2.2.1++[])) (hA:=bE.of λ f hf=>(List.mem_append.1 hf).elim (λ h=>(h22.1.2.2.fam f h).imp_right λ h=>.inr (.inl (h.elim (λ h=>List.mem_append_right _ (by simpa using h)) λ h=>List.mem_append_left _ h))) λ h=>.inr (.inr (.inl (List.mem_append_left _ (by simpa using h))))) (hc:=λ w1 hw=>mh h22.1 (λ f hf=>List.mem_append_left _ hf) (λ f hf=>List.mem_append_right _ hf) hw)) (λ x27 h27=>?_)));refine vW ?_;refine aA ?_
  (refine aE ?_;refine aA ?_)
  ((refine aE ?_;refine aN (cV (hc:=λ w1 hw=>pE (r:=gG 0 true) (d:=true) rfl (if_pos rfl) (hw.st.at cX))) (λ x32=>?_)));((refine aE ?_;refine bZ ?_));refine bY ?_;refine aA ?_
  (refine aE ?_;refine aA ?_)
  ((refine aE ?_;refine aA ?_));((refine aE ?_;refine aA ?_));((refine aE ?_;refine aD (j5 (V:=λ q:Option Addr×Option Addr=>.agg ⟨((aB (bS x27.2.L) 4).at_ q.1 q.2).nd.cells⟩) (hs:=[(x8.1,fI x27.2)]) (os:=fQ x27.2) (hs':=λ _=>[(x8.1,fI x27.2)]) (Hc:=λ _=>[]) (os':=λ _=>fQ x27.2) (Oc:=λ q=>[⟨q.2,cR (aB (bS x27.2.L) 4).ys,(aB (bS x27.2.L) 4).ys.length,164,2⟩,⟨q.1,aG (aB (bS x27.2.L) 4).xs,(aB (bS x27.2.L) 4).xs.length,37,1⟩]) (Fc:=λ _=>[]) (A0:=aM x27.2.L) (hA:=bE.of λ f hf=>(h27.2.2.2.2.1.fam f hf).elim .inl λ h=>h.elim (λ h=>(h22.1.2.2.fam f h).imp_right λ h=>.inr (.inl (List.mem_append_right _ (h.elim (λ h=>List.mem_append_right _ (by simpa using h)) λ h=>List.mem_append_left _ h)))) λ h=>.inr (.inr (.inl (List.mem_append_left _ h)))) (hc:=λ w1 hw=>D8 h27.2.2.1 h27.2.2.2.1 (λ f hf=>hf) 4 h27.2.2.2.2.2 hw)) (λ x39 h39=>?_)));((refine aE ?_;refine aC (L5 rf (by exact Lt rfl) (show _=some (Value.int .i64 2) by rw[<- h27.2.1];rfl)) rfl ?_));((refine aE ?_;refine aD (cM (V:=λ _:Unit=>.int .i64 5) (hs:=[(x8.1,fI x27.2)]) (os:=fQ x27.2) (hs':=λ _=>[(x8.1,fI {x27.2 with acc:=up x27.2.acc})]) (os':=λ _=>fQ x27.2) (Fc:=λ _=>[]) (hc:=λ w1 hw=>by rw[<- h27.1];exact Uh hw 2 (by decide) (Nat.le_trans (show x27.2.cs.length<=137438953472 from h27.2.2.2.1.2) (by decide)))) (λ x41 h41=>?_)));((refine aE ?_;refine aA ?_));refine vW ?_;refine J1 ?_
  refine aQ Tryz.results27 (λ w hw=>?_)
  exact⟨rfl,hw.done⟩
end

/- RootReads: the walk. -/
section
open Go Go.RowKit Go.Ct
end

/- The laws of root: a swap begins, on the arena and on the memory. -/
end Go.Proofs.YtbajmaoegmbfgaaGreat
namespace Go.Ct
section
open Go Go.RowKit
end
end Go.Ct
namespace Go.Proofs.YtbajmaoegmbfgaaGreat
section
open Go Go.RowKit Go.Ct
theorem Ut{x:XS}(h:x.Ok):H5 x.L:=λ v hv=>by
 have hb:=h.nd v hv
 have h1:=hb.main
 have h2:=hb.prev
 have h3:=hb.status
 have h4:=h.lc
 have e1:v.c.main=v.nd.main:=rfl
 have e2:v.c.prev=v.nd.prev:=rfl
 have e3:v.c.status=v.nd.status:=rfl
 exact⟨hb.bm,by omega,by omega,by omega⟩
def kS(kind:Int)(t:fG)(a b n:Int):Cl:=⟨kind,t,a,b,n,0,0,0,⟨#[]⟩,0,0,0,false⟩
structure SW where
 a1:AS
 z1:XS
 k:Cl
 tb:Nat
 c:Cd
 F:Fr
 a:AS
 bx:Nat
 x:XS
 N:List aP
 dn:Bool
 rs:Rs
end

/- A place of a world's trie. -/
section
open Go Go.RowKit Go.Ct
def fg(z:XS)(p:Pl):Prop:=(bH (z.L.map aP.c) p.i).kind=2/\iN (z.L.map aP.c) z.cs p.i=some p.m
theorem fg.in{z:XS}{p:Pl}(h:fg z p):1<=p.i/\p.i<=z.L.length:=by
 have:=dV (N:=z.L.map aP.c) (i:=p.i) (by have:=h.1;omega)
 rwa [List.length_map] at this
abbrev pb:qD:=⟨⟨0,0,0,0,[]⟩,none,0⟩
def z7(z:XS)(t:fG)(p:Pl):Prop:=∃r q,mP (z.L.map aP.c) z.cs t.root=some r/\Fl (z.L.map aP.c) z.cs 12 0 0 r [] []=some q/\p∈q.1
theorem Zi{bw bm tp m B C E:Nat}{W:Wd}{t:fG}{l:List Int}{a:Option Addr}{c pos:Nat}{D:List Nat}{A:Fr}{w:World}(hW:Kx m B C E W)(hB:B<=2415922570)(ht:t∈W.ts)(hrt:t.root<=9223372036854775807)(hl:l.length<=17592186043904)(hA:∀f∈aM W.z.L,f∈A)(hT:(a,aG l)∈A)
    (hs:SF w D [(tp,Jw a l c pos),(bw,mF bm (m:Int) W.pt W.ts.length W.kt W.pe (qP W.ex).length W.ke),(bm,xM W.z)] A [] (Ga W.z) w) :
    Calls Tryz.prog 23 #[.pointer (some ⟨bw,0,none⟩),.agg ⟨[.int .i64 t.root,.bool t.ro]⟩,.pointer (some ⟨tp,0,none⟩)] w λ e w'=>∃v:qD,e=.returned (.tuple #[.agg ⟨v.cells⟩,.bool true])/\(fg W.z v.p/\z7 W.z t v.p) /\
      SF w D [(tp,Jw a l c (mM l pos)),(bw,mF bm (m:Int) W.pt W.ts.length W.kt W.pe (qP W.ex).length W.ke),(bm,xM W.z)] [] [] (Ga W.z) w':=by
  obtain⟨r,q,hro,hpl,hne,hq⟩:=Dd hW ht
  obtain⟨s1,s2,s3⟩:=hW.sz
  have hys:=I7 hW
  have hpr:=oO hW
  refine enter Tryz.func23 Tryz.ntmps23 rfl rfl hs ?_
  simp only[cD]
  refine J0 ?_;refine bK (λ x4=>?_);refine aJ (λ x6=>?_);refine iO ?_;refine gM [0,1,2,3,4,5,6,7,8,9,10,11,12,13,14,15] ?_;refine X7 ?_;refine J4 ?_;refine bU (i:=6) (hq:=(aR (k:=3) rf cX eP (by simp only[List.drop_zero,List.take_succ_cons,List.take_zero];exact rfl) rfl)) (h:=?_);refine bN ?_;refine bB (i:=8) (hq:=(Rb (V:=λ x:Hz=>.tuple #[.slice x.lp x.l.length x.lc,.slice x.pp x.ps.length x.pc,.bool true]) (Hc:=λ _=>[]) (Fc:=λ x=>x.fr) (F1:=λ x=>x.fr) (Oc:=λ _=>[]) (hF1:=λ x=>List.append_nil _) (hc:=λ w1 hw=>Gi (B:=8) hpr (hw.H6 (.inr (.inr (.inr ⟨_,.head _,rfl,rfl⟩))) (.inr (.inr (.inr ⟨_,.tail _ (.head _),rfl,rfl⟩))) (λ f hf=>.inr (.inl (hA f hf))) hW.z.fit) (Ut hW.z) (by omega) (by omega) hys (by omega) _ _ hrt hro hpl))) (h:=λ x20 h20=>?_)
  obtain⟨hx1,hx2⟩:=h20
  have hln:0<x20.l.length:=by
   have:=congrArg List.length hx1
   rw[List.length_map] at this
   have:=List.length_pos_iff.2 hne
   omega
  refine aT ?_;refine kA ?_;refine kA ?_;refine kA ?_;refine iK (h:=λ _=>?_);refine Qp ?_;refine kX ?_;refine Cb ?_
  (refine aE ?_;refine aA ?_)
  ((refine aE ?_;refine dJ ?_));refine vW ?_;refine aH ?_
  refine aZ (λ c30=>?_) (λ c30=>?_)
  · exfalso;have c30':x20.l.length=0:=by simpa using c30
    omega
  · refine C6 ?_;refine aA ?_;refine dJ ?_;refine aD (vC (hc:=λ w1 hw=>eL x20.l.length (hw.tape cX (.bJ (zF.oM hT)) hl) (by omega) (by omega))) (λ x36 h36=>?_);refine aC (Nt (lst:=x20.l) (g:=qD.cells) (sz:=5) (k:=x36) (λ _=>rfl) (by decide) rf rf gA eP (.new (zF.oM (List.mem_cons_self ..))) (by omega) (by omega)) rfl ?_;refine aC (oq (lst:=x20.l) (g:=qD.cells) (sz:=5) (q:=x36) pb (λ _=>rfl) rf eP (.new (zF.oM (List.mem_cons_self ..))) (by omega)) rfl ?_;refine Bi ?_
    refine aY Tryz.results23 (λ w hw=>?_)
    have hmem:(x20.l.getD x36 pb).p∈q.1:=by rw[<- hx1,List.mem_map];exact⟨x20.l.getD x36 pb,by rw[jC,List.getElem?_eq_getElem (show x36<x20.l.length by omega)];exact List.getElem_mem _,rfl⟩
    refine⟨x20.l.getD x36 pb,rfl,⟨hq _ hmem,r,q,hro,hpl,hmem⟩,?_⟩
    · exact hw.ret (by repeat (first|exact List.Sublist.refl _|apply List.Sublist.cons)) aW.nil (List.Sublist.refl _)
end

/- The laws of gcas: a world, an arena, a place. -/
end Go.Proofs.YtbajmaoegmbfgaaGreat
namespace Go.Ct
section
open Go Go.RowKit
theorem SF.z0{w0 w:World}{M:List Nat}{p q x y:Nat×Obj}{E:List (Nat×Obj)}{A F:Fr}{O:List Ow}(h:SF w0 M (p::q::(E++[x,y])) A F O w):SF w0 M (x::y::p::q::E) A F O w:=h.perm (List.perm_append_comm (l₁:=[x,y]) (l₂:=p::q::E)) (List.Perm.refl _)
end
end Go.Ct
namespace Go.Proofs.YtbajmaoegmbfgaaGreat
section
open Go Go.RowKit Go.Ct
structure uj(q:TQ×qD):Prop extends Zx q.1 where
 pl:fg q.1.W.z q.2.p
 pin:z7 q.1.W.z q.1.t q.2.p
abbrev gqH(q:TQ×qD):List (Nat×Obj):=[(q.1.ba,fI q.1.a),(q.1.bw,mF q.1.bm (q.1.m:Int) q.1.W.pt q.1.W.ts.length q.1.W.kt q.1.W.pe (qP q.1.W.ex).length q.1.W.ke),(q.1.bm,xM q.1.W.z.a0)]
abbrev aAt:Obj:=.cells ⟨[.int .i64 0,.int .i64 0,.int .i64 0,.int .i64 0,.slice none 0 0]⟩ 39 (0,0)
set_option maxRecDepth 100000 in
set_option maxHeartbeats 2000000 in
theorem N6{l l2:List Int}{a a2:Option Addr}{c c2:Nat}{w:World}(h1:Go.Ct.Cl w a (aG l))(hl:l.length<=17592186043904)(h2:Go.Ct.Cl w a2 (aG l2))(hl2:l2.length<=17592186043904) :
  Calls Tryz.prog 39 #[.slice a l.length c,.slice a2 l2.length c2] w λ e w'=>∃q:TQ×qD,e=.returned (.tuple #[.pointer (some ⟨q.1.bw,0,none⟩),.pointer (some ⟨q.1.ba,0,none⟩),.agg ⟨q.2.cells⟩,.agg ⟨[.int .i64 q.1.t.root,.bool q.1.t.ro]⟩,.bool true])/\uj q/\SF w [] (gqH q) [] (aM q.1.a.L++aM q.1.W.z.L) (tqO q.1) w':=by
 refine enter Tryz.func39 Tryz.ntmps39 rfl rfl (SF.s2 h1 h2) ?_
 simp only[cD]
 refine J0 ?_;refine eC (λ _=>?_);refine eC (λ _=>?_);refine aJ (λ x6=>?_);refine aJ (λ x7=>?_);refine J1 ?_;refine J2 ?_;refine aD (Rb (Hc:=λ q:Nat×Nat×Nat×Wd=>wH q.2.2.1 q.1 q.2.1 q.2.2.2) (H1:=λ q=>(q.1,mF q.2.1 (q.2.2.1:Int) q.2.2.2.pt q.2.2.2.ts.length q.2.2.2.kt q.2.2.2.pe (qP q.2.2.2.ex).length q.2.2.2.ke)::(q.2.1,xM q.2.2.2.z)::(Eg q.2.1 q.2.2.2.ex++[(x7,.cells ⟨[.int .i64 0,.bool false]⟩ 29 (0,0)),(x6,aAt)])) (Fc:=λ q=>aM q.2.2.2.z.L) (F1:=λ q=>aM q.2.2.2.z.L) (Oc:=λ q=>wO q.2.2.2) (O1:=λ q=>⟨q.2.2.2.pt,tB q.2.2.2.ts,q.2.2.2.kt,29,2⟩::⟨q.2.2.2.pe,zQ (qP q.2.2.2.ex),q.2.2.2.ke,74,1⟩::⟨q.2.2.2.z.pn,iY q.2.2.2.z.L,q.2.2.2.z.cn,47,14⟩::⟨q.2.2.2.z.pc,aG q.2.2.2.z.cs,q.2.2.2.z.cc,37,1⟩::Bx q.2.2.2.ex) (hH1:=λ q=>by simp only[wH,List.cons_append]) (hF1:=λ q=>List.append_nil _) (hO1:=λ q=>List.append_nil _) (hc:=λ w1 hw=>de (hw.cl (.bJ .head)) hl)) (λ x16 h16=>?_)
 have hm:=h16.1
 have hW:=h16.2
 have htl:=hW.tl
 have ht0:=hW.t0
 obtain⟨s1,s2,s3⟩:=hW.sz
 refine wa (λ w hw=>SF.z0 hw) ?_
 refine J1 ?_;refine J2 ?_;refine aD (Rb (Fc:=λ _=>[]) (Oc:=λ _=>[]) (hc:=λ w1 hw=>s7)) (λ x18 h18=>?_);refine iO ?_
 refine eQ [11,19,20,21,22,23,24,25,26,27,28,29,30,31] (λ j:Nat×Nat=>[(11,.pointer (some ⟨j.1,0,none⟩))]) (λ j=>j.2<x16.2.2.2.ts.length) (λ j=>(j.1,.cells ⟨[.int .i64 (x16.2.2.2.ts.getD j.2 ⟨0,false⟩).root,.bool (x16.2.2.2.ts.getD j.2 ⟨0,false⟩).ro]⟩ 29 (0,0))::(x18,Jw a2 l2 c2 (mM l2 0))::(x7,.cells ⟨[.int .i64 0,.bool false]⟩ 29 (0,0))::(x6,aAt)::(x16.1,mF x16.2.1 (x16.2.2.1:Int) x16.2.2.2.pt x16.2.2.2.ts.length x16.2.2.2.kt x16.2.2.2.pe (qP x16.2.2.2.ex).length x16.2.2.2.ke)::(x16.2.1,xM x16.2.2.2.z)::Eg x16.2.1 x16.2.2.2.ex) (λ _=>aM x16.2.2.2.z.L) (λ _=>⟨x16.2.2.2.pt,tB x16.2.2.2.ts,x16.2.2.2.kt,29,2⟩::⟨x16.2.2.2.pe,zQ (qP x16.2.2.2.ex),x16.2.2.2.ke,74,1⟩::⟨x16.2.2.2.z.pn,iY x16.2.2.2.z.L,x16.2.2.2.z.cn,47,14⟩::⟨x16.2.2.2.z.pc,aG x16.2.2.2.z.cs,x16.2.2.2.z.cc,37,1⟩::Bx x16.2.2.2.ex) (by decide) (λ _=>by exact rfl) ?_ (λ j f hx=>?_)
 ·refine gR (.one 0 [] (.one 1 [] (.one 2 [] (.one 3 [] (.one 4 [] (.one 5 [] (.one 6 [] (.one 7 [] (.one 8 [] (.one 9 [] (.two 10 [3] (.one 11 [] (.one 12 [] (.one 13 [3,8,11,12] (.one 14 [] .nil)))) 0 [] (.two 13 [3,8] (.one 10 [3] (.one 11 [] (.one 12 [] (.one 14 [] .nil)))) 0 [] .nil)))))))))))) ?_
  refine X7 ?_;refine W0 ?_;refine nV ?_
  refine gT (E:=[10,13]) (by decide +kernel) ((.cons ?_ (.cons ?_ .nil)))
  ·refine mY (i:=10) (hq:=(vC (hc:=λ w1 hw=>eL x16.2.2.2.ts.length (hw.tape cX fin hl2) (by omega) (by omega)))) (h:=λ x29 h29=>?_)
   refine bU (i:=11) (hq:=(Px (cs:=tB x16.2.2.2.ts) (k:=x29) rf rf gA eP (.own .head) (by omega) (by rw[lD];omega))) (h:=?_);refine bU (i:=12) (hq:=(E3 (ts:=x16.2.2.2.ts) (q:=x29) rf eP (.own .head) (by omega))) (h:=?_);refine gY (hfire:=(λ _=>by((repeat (first|exact aK.nil|refine aK.cons (by first|exact eT|exact fK (hq:=Px (cs:=tB x16.2.2.2.ts) (k:=x29) rf rf gA eP (.own .head) (by omega) (by rw[lD];omega))|exact fK (hq:=E3 (ts:=x16.2.2.2.ts) (q:=x29) rf eP (.own .head) (by omega))) ?_));done))) (h:=λ x11=>?_);refine B8 ?_
   refine fC ((x11,x29)) ?_ (hw1:=λ w hw=>hw.back (hH:=by exact List.Sublist.refl _) (hF:=by exact aW.all) (hO:=by exact List.Sublist.refl _))
   ·omega
  ·refine gZ (i:=13) (h:=λ x11=>?_)
   refine bB (i:=10) (hq:=(vC (hc:=λ w1 hw=>eL x16.2.2.2.ts.length (hw.tape cX fin hl2) (by omega) (by omega)))) (h:=λ x29 h29=>?_);refine bU (i:=11) (hq:=(Px (cs:=tB x16.2.2.2.ts) (k:=x29) rf rf gA eP (.own .head) (by omega) (by rw[lD];omega))) (h:=?_);refine bU (i:=12) (hq:=(E3 (ts:=x16.2.2.2.ts) (q:=x29) rf eP (.own .head) (by omega))) (h:=?_);refine B8 ?_
   refine fC ((x11,x29)) ?_ (hw1:=λ w hw=>hw.back (hH:=by exact List.Sublist.refl _) (hF:=by exact aW.all) (hO:=by exact List.Sublist.refl _))
   ·omega
 dsimp only[iA,List.map,List.cons_append,List.nil_append]
 have htm:=rG hx
 have hrt:=hW.root (by decide) htm
 refine J2 ?_;refine bP ?_;refine aA ?_;refine aD (cM (V:=λ v:qD=>.tuple #[.agg ⟨v.cells⟩,.bool true]) (hs:=[(x18,Jw a2 l2 c2 (mM l2 0)),(x16.1,mF x16.2.1 (x16.2.2.1:Int) x16.2.2.2.pt x16.2.2.2.ts.length x16.2.2.2.kt x16.2.2.2.pe (qP x16.2.2.2.ex).length x16.2.2.2.ke),(x16.2.1,xM x16.2.2.2.z)]) (os:=Ga x16.2.2.2.z) (hs':=λ _=>[(x18,Jw a2 l2 c2 (mM l2 (mM l2 0))),(x16.1,mF x16.2.1 (x16.2.2.1:Int) x16.2.2.2.pt x16.2.2.2.ts.length x16.2.2.2.kt x16.2.2.2.pe (qP x16.2.2.2.ex).length x16.2.2.2.ke),(x16.2.1,xM x16.2.2.2.z)]) (os':=λ _=>Ga x16.2.2.2.z) (Fc:=λ _=>[]) (A0:=(a2,aG l2)::aM x16.2.2.2.z.L) (hA:=bE.cons (.inr (.inl (.tail _ (.head _)))) (bE.of λ f hf=>.inr (.inr (.inl hf)))) (hc:=λ w1 hw=>Zi hW (by decide) htm hrt hl2 (λ f hf=>List.mem_cons_of_mem _ hf) (List.mem_cons_self ..) hw)) (λ x36 h36=>?_);refine Lc ?_;refine aJ (λ x12=>?_);refine Bi ?_;refine mJ ?_;refine aD (j5 (V:=λ q:Nat×AS=>.pointer (some ⟨q.1,0,none⟩)) (hs:=[(x16.2.1,xM x16.2.2.2.z)]) (os:=Ga x16.2.2.2.z) (hs':=λ _=>[(x16.2.1,xM x16.2.2.2.z.a0)]) (Hc:=λ q=>[(q.1,fI q.2)]) (os':=λ _=>Ga x16.2.2.2.z) (Oc:=λ q=>fQ q.2) (Fc:=λ q=>aM q.2.L) (A0:=aM x16.2.2.2.z.L) (hA:=bE.of λ f hf=>.inr (.inr (.inl hf))) (hc:=λ w1 hw=>Xh hW.z (oO hW) (by omega) (by omega) (λ f hf=>hf) hw)) (λ x43 h43=>?_);refine iO ?_;refine dZ [(0,[]),(1,[]),(2,[]),(3,[]),(4,[]),(5,[]),(6,[]),(7,[]),(8,[]),(9,[2,3]),(10,[2,3]),(11,[3]),(12,[]),(13,[])] ?_;refine gV ?_;refine bN ?_;refine bN ?_;refine gV ?_
 (refine aT ?_)
 ((refine Us ?_));refine lH ?_;refine iK (h:=λ _=>?_);refine iK (h:=λ _=>?_);refine lX (h:=λ _=>?_);refine A1 ?_
 refine aY Tryz.results39 (λ w hw=>?_)
 exact⟨(⟨x16.1,x16.2.1,x16.2.2.1,x16.2.2.2,x43.1,x43.2,j.2,0,0⟩,x36),rfl,⟨⟨hm,hW,hx,h43.1,h43.2⟩,h36.1,h36.2⟩,hw.ret (by repeat (first|exact List.nil_sublist _|apply List.Sublist.cons_cons|apply List.Sublist.cons)) (aW.iI λ f hf=>hf) (by repeat (first|exact List.nil_sublist _|apply List.Sublist.cons_cons|apply List.Sublist.cons))⟩
end

/- RootSwaps: the walk. -/
section
open Go Go.RowKit Go.Ct
end

/- RootTogether: a memory with a trie keeps the labels behind a swap's beginning. -/
end Go.Proofs.YtbajmaoegmbfgaaGreat
namespace Go.Ct
section
open Go Go.RowKit
end
end Go.Ct
namespace Go.Proofs.YtbajmaoegmbfgaaGreat
section
open Go Go.RowKit Go.Ct
section
variable{m:Nat}{t:fG}{z:XS}
end
end

/- RootTogether: the walk. -/
end Go.Proofs.YtbajmaoegmbfgaaGreat
namespace Go.Ct
section
open Go Go.RowKit
end
end Go.Ct
namespace Go.Proofs.YtbajmaoegmbfgaaGreat
section
open Go Go.RowKit Go.Ct
structure RP where
 tb:Nat
 c:Cd
 F:Fr
 a:AS
 bx:Nat
 x:XS
 N:List aP
 dn:Bool
 rs:Rs
end

/- GcasReads: the walk. -/
section
open Go Go.RowKit Go.Ct
theorem uj.ile{q:TQ×qD}(h:uj q):q.2.p.i<=q.1.a.mm.nodes.length:=by
 have h1:=h.pl.in.2
 rw[h.mm]
 show _<=(((q.1.W.z.L.map aP.c).length:Nat):Int)
 rw[List.length_map]
 exact h1
end

/- The laws of gcas: a swap begins, on the arena and on the memory. -/
end Go.Proofs.YtbajmaoegmbfgaaGreat
namespace Go.Ct
section
open Go Go.RowKit
theorem lQ.zero{n c:Nat}{v:Nv}(h:lQ n c v):lQ n c {v with main:=0,prev:=0,status:=0}:=⟨h.bJ,h.exp,h.new,h.br,bI _,bI _,bI _,h.bm,h.hash⟩
end
end Go.Ct
namespace Go.Proofs.YtbajmaoegmbfgaaGreat
section
open Go Go.RowKit Go.Ct
end

/- Memories with labels: how long the lists of a node are. -/
section
open Go Go.RowKit Go.Ct
section
variable{m:Nat}{σ:Kw}{r:Int}
theorem xc{H:ByteArray->Nat}(i0:Inv H σ)(h1:1<=r)(h2:r<=σ.len):(σ.nd r).xs.length<=64:=by
 have hn:=i0.nd r h1 h2
 by_cases h:(σ.nd r).nd.kind=3
 ·obtain⟨b,hb,hlt⟩:=hn.bd.bm
  have:=(pY h hn.valid).1
  have hb':(σ.nd r).nd.bm=(b:Int):=hb
  rw[hb',pC hlt] at this
  have h3:=vE b 64
  omega
 ·rw[hn.valid.1.2.2.2.2.1.trans (if_neg (by simpa using h))];decide
theorem vb(i0:Inv (H8 m) σ)(h1:1<=r)(h2:r<=σ.len):(σ.nd r).ys.length<=8:=by
 have hn:=i0.nd r h1 h2
 have hval:=hn.valid
 by_cases h6:(σ.nd r).kind=6
 ·have hk6:=hn.k6 h6
  obtain⟨b,hb,hblt⟩:=hn.bd.hash
  have hasc:SA (σ.nd r).ys:=by
   have:=hval.2.2.2.2
   have h6':(σ.nd r).nd.kind=6:=h6
   rcases this with h|h|h|h|h|h|h
   ·omega
   ·omega
   ·omega
   ·omega
   ·exact mV.1 h.2.2.1
   ·omega
   ·omega
  have hnd:((σ.nd r).ys.map Prod.fst).Nodup:=by
   unfold List.Nodup
   rw[List.pairwise_map]
   exact hasc.imp λ{a b} hab e=>by rw[e,oT] at hab;cases hab
  have:=Bo _ kO hnd λ q hq=>by
   obtain⟨p,hp,rfl⟩:=List.mem_map.1 hq
   exact(sv (hk6.2.2.1 p hp) (by omega)).1
  rw[List.length_map] at this
  exact this
 ·have:(σ.nd r).ys=[]:=hval.1.2.2.2.2.2.2.2.2.1.trans (if_neg (by have h7:¬(σ.nd r).nd.kind=6:=h6;simpa using h7))
  rw[this];decide
end
end

end Go.Proofs.YtbajmaoegmbfgaaGreat

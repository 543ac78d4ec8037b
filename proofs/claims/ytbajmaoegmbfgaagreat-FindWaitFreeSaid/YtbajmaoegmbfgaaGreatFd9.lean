/- FindWaitFree: the walk. -/
import Derived.Test.YtbajmaoegmbfgaaGreatGBw1
set_option linter.unusedSimpArgs false
set_option linter.unusedVariables false
namespace Go.Proofs.YtbajmaoegmbfgaaGreat
open Go Go.RowKit Go.Ct
structure FY where
 i:Nat
 pos:Nat
 S:LS
 G:Fr
 lp:Option Addr
 lc:Nat
theorem bu(l:List PX)(p:PX):sP (pW (l++[p]))=sP (pW l)++sP [(p.tb,p.e.b)]:=by simp[sP,pW]
abbrev fyH(ba bm:Nat)(S:LS):List (Nat×Obj):=(ba,eX S.a)::(bm,xM S.z)::(Ni ba S.l++oF bm (S.l.map PX.e))
abbrev fyO(tr:Ow)(lp:Option Addr)(lc:Nat)(S:LS):List Ow:=⟨lp,sP (pW S.l),lc,76,2⟩::tr::⟨S.a.pn,gN S.a.L,S.a.cn,47,14⟩::⟨S.a.pc,aG S.a.cs,S.a.cc,37,1⟩::⟨S.z.pn,gN S.z.L,S.z.cn,47,14⟩::⟨S.z.pc,aG S.z.cs,S.z.cc,37,1⟩::mQ (S.l.map PX.e)
theorem ta{α:Type}(e t x w a b:α)(T E:List α):(x::w::a::b::((T++[t])++(E++[e]))).Perm (e::t::x::w::a::b::(T++E)):=by
 have h1:((T++[t])++(E++[e])).Perm (e::t::(T++E)):=by
  rw[<- List.append_assoc]
  refine List.perm_append_comm.trans ?_
  refine List.Perm.cons e ?_
  rw[List.append_assoc]
  exact List.perm_middle
 refine(List.Perm.append_left [x,w,a,b] h1).trans ?_
 exact(List.perm_append_comm (l₁:=[x,w,a,b]) (l₂:=[e,t])).append_right (T++E)
theorem Wh{w0 w:World}{M:List Nat}{A F:Fr}{ba bm m:Nat}{l:List PX}{B:Fr}{x:Nat×Cd×Fr×AS}{q:Nat×XS×List aZ×Bool×Rs}{k:Cl}{R:Tr}{c tp wo:Nat×Obj}{tr:Ow}{lp:Option Addr}{lc:Nat}
  (h:SF w0 M ((q.1,xO k bm q.2.1 q.2.2.2.1 q.2.2.2.2)::(x.1,tO ba x.2.1 0)::c::tp::wo::(ba,eX x.2.2.2)::(bm,xM q.2.1)::(Ni ba l++oF bm (l.map PX.e))) A F (exL q.2.1++(⟨lp,sP (pW l)++sP [(x.1,q.1)],lc,76,2⟩::tr::⟨x.2.2.2.pn,gN x.2.2.2.L,x.2.2.2.cn,47,14⟩::⟨x.2.2.2.pc,aG x.2.2.2.cs,x.2.2.2.cc,37,1⟩::⟨q.2.1.pn,gN q.2.1.L,q.2.1.cn,47,14⟩::⟨q.2.1.pc,aG q.2.1.cs,q.2.1.cc,37,1⟩::mQ (l.map PX.e))) w) :
  SF w0 M (tp::wo::fyH ba bm ⟨x.2.2.2,q.2.1,l++[fpx x k m q R],B⟩) A F (fyO tr lp lc ⟨x.2.2.2,q.2.1,l++[fpx x k m q R],B⟩) w:=by
 have h1:=h.sub (H':=(q.1,xO k bm q.2.1 q.2.2.2.1 q.2.2.2.2)::(x.1,tO ba x.2.1 0)::tp::wo::(ba,eX x.2.2.2)::(bm,xM q.2.1)::(Ni ba l++oF bm (l.map PX.e))) (.cons_cons _ (.cons_cons _ (.cons _ (List.Sublist.refl _)))) aY.all (List.Sublist.refl _)
 have h2:=h1.perm (ta _ _ _ _ _ _ _ _) (List.perm_append_comm (l₁:=_::_::_::_::_::_::mQ (l.map PX.e)) (l₂:=exL q.2.1))
 dsimp only[fyH,fyO]
 rw[bu,y6,zi,zr]
 exact h2
theorem td{ba bm B0 n:Nat}{D:List Nat}{A:Fr}{w:World}{S:LS}{l:List Int}{a pa:Option Addr}{c pc:Nat}(hn:S.l.length=n)(hS:Ek ba B0 0 S)(hB0:B0<=50000000000)(h0:0<n)(h1:n<=1000)(hpc:n<=pc)(hl:l.length<=17592186043904)(hA1:∀f∈aM S.a.L,f.2=[]∨f∈A)(hA2:∀f∈aM S.z.L,f.2=[]∨f∈A)(hA3:∀f∈S.B,f∈A)(hP:(pa,sP (pW S.l))∈A)(hT:(a,aG l)∈A)(hs:SF w D (qJ ba bm S) A [] (rL S) w) :
  Calls Tryz.prog 43 #[.pointer (some ⟨ba,0,none⟩),.pointer (some ⟨bm,0,none⟩),.slice a l.length c,.slice pa n pc] w λ e w'=>∃y:LY,e=.returned (.bool true)/\(na ba B0 0 A S y/\(y.i=400∨∀k,k<y.S.l.length->Q1 y.S.l k=true))/\SF w D (qJ ba bm y.S) [] y.G (rL y.S) w':=by
 have hp:(pW S.l).length=n:=by rw[nI,hn]
 have:=zy (a:=a) (c:=c) (pc:=pc) (ps:=pW S.l) rfl hS hB0 (by decide) (by omega) (by omega) (by rw[hp];exact hpc) hl hA1 hA2 hA3 hP hT hs
 rw[hp] at this
 exact this
theorem rm{ba bm Bz C n k:Nat}{S S':LS}(hS:Ek ba Bz C S')(hp:pW S'.l=pW S.l)(hlen:S.l.length=n)(hk:k<n)(he:∀p∈S'.l,p.e.dn=true/\p.n<=87):∃(cd:Cd) (j:Nat),(((pW S.l).getD k (0,0)).1,tO ba cd j)∈Ni ba S'.l++oF bm (S'.l.map PX.e)/\(cd.a.k==0)=true/\j<=87:=by
 have hl:k<S'.l.length:=by rw[<- nI,hp,nI,hlen];exact hk
 obtain⟨l1,p,l2,e,ek⟩:=Bf hl
 have hpm:p∈S'.l:=by rw[e];exact List.mem_append_right _ (List.mem_cons_self ..)
 obtain⟨h1,h2⟩:=he p hpm
 refine⟨p.c,p.n,?_,?_,h2⟩
 ·rw[<- hp,e,<- ek,Ad]
  refine List.mem_append_left _ ?_
  rw[Ia]
  exact List.mem_append_right _ (List.mem_cons_self ..)
 ·have hpk:=hS.p p hpm
  obtain⟨hk1,_,_⟩:=(hS.rp p hpm).kind hpk.rest
  rw[hpk.live,h1] at hk1
  have:=hk1.2 rfl
  simpa using this
set_option maxRecDepth 100000 in
set_option maxHeartbeats 4000000 in
theorem Gy{l l2 l3:List Int}{a a2 a3:Option Addr}{c c2 c3:Nat}{w:World}(h1:Go.Ct.Cl w a (aG l))(hl:l.length<=17592186043904)(h2:Go.Ct.Cl w a2 (aG l2))(hl2:l2.length<=17592186043904)(h3:Go.Ct.Cl w a3 (aG l3))(hl3:l3.length<=17592186043904) :
  Calls Tryz.prog 18 #[.slice a l.length c,.slice a2 l2.length c2,.slice a3 l3.length c3] w λ e w'=>e=.returned (.bool true)/\St w [] [] w':=by
 refine enter Tryz.func18 Tryz.ntmps18 rfl rfl (SF.s3 h1 h2 h3) ?_
 simp only[bY]
 refine cR ?_;refine J2 ?_;refine aC (Rx (Hc:=λ q:Nat×Nat×Nat×Wd=>wH q.2.2.1 q.1 q.2.1 q.2.2.2) (H1:=λ q=>(q.1,mE q.2.1 (q.2.2.1:Int) q.2.2.2.pt q.2.2.2.ts.length q.2.2.2.kt q.2.2.2.pe (rF q.2.2.2.ex).length q.2.2.2.ke)::(q.2.1,xM q.2.2.2.z)::oF q.2.1 q.2.2.2.ex) (Fc:=λ q=>aM q.2.2.2.z.L) (F1:=λ q=>aM q.2.2.2.z.L) (Oc:=λ q=>wO q.2.2.2) (O1:=λ q=>⟨q.2.2.2.pt,rV q.2.2.2.ts,q.2.2.2.kt,29,2⟩::⟨q.2.2.2.pe,Bk (rF q.2.2.2.ex),q.2.2.2.ke,74,1⟩::⟨q.2.2.2.z.pn,gN q.2.2.2.z.L,q.2.2.2.z.cn,47,14⟩::⟨q.2.2.2.z.pc,aG q.2.2.2.z.cs,q.2.2.2.z.cc,37,1⟩::mQ q.2.2.2.ex) (hH1:=λ q=>by simp only[wH,List.append_nil]) (hF1:=λ q=>List.append_nil _) (hO1:=λ q=>List.append_nil _) (hc:=λ w1 hw=>cf (hw.cl (.bN .head)) hl)) (λ x17 h17=>?_)
 have hm:=h17.1
 have hW:=h17.2
 have htl:=hW.tl
 have ht0:=hW.t0
 obtain⟨s1,s2,s3⟩:=hW.sz
 refine gk (λ w hw=>(show SF _ _ [(x17.1,mE x17.2.1 (x17.2.2.1:Int) x17.2.2.2.pt x17.2.2.2.ts.length x17.2.2.2.kt x17.2.2.2.pe (rF x17.2.2.2.ex).length x17.2.2.2.ke),(x17.2.1,xM x17.2.2.2.z)] _ _ [⟨x17.2.2.2.pt,rV x17.2.2.2.ts,x17.2.2.2.kt,29,2⟩,⟨x17.2.2.2.z.pn,gN x17.2.2.2.z.L,x17.2.2.2.z.cn,47,14⟩,⟨x17.2.2.2.z.pc,aG x17.2.2.2.z.cs,x17.2.2.2.z.cc,37,1⟩] w from hw.sub (.cons_cons _ (.cons_cons _ (List.nil_sublist _))) aY.all (.cons_cons _ (.cons _ (.cons_cons _ (.cons_cons _ (List.nil_sublist _))))))) ?_
 refine J1 ?_;refine J2 ?_;refine aC (Rx (Fc:=λ _=>[]) (Oc:=λ _=>[]) (hc:=λ w1 hw=>lq)) (λ x19 h19=>?_);refine J1 ?_;refine lR ?_;refine aC (nh (V:=λ q:Nat×AS=>.pointer (some ⟨q.1,0,none⟩)) (hs:=[(x17.2.1,xM x17.2.2.2.z)]) (os:=H2 x17.2.2.2.z) (hs':=λ _=>[(x17.2.1,xM x17.2.2.2.z.a0)]) (Hc:=λ q=>[(q.1,eX q.2)]) (os':=λ _=>H2 x17.2.2.2.z) (Oc:=λ q=>fU q.2) (Fc:=λ q=>aM q.2.L) (A0:=aM x17.2.2.2.z.L) (hA:=aX.of λ f hf=>.inr (.inr (.inl hf))) (hc:=λ w1 hw=>Yf hW.z (sX hW) (by omega) (by omega) (λ f hf=>hf) hw)) (λ x24 h24=>?_)
 have hsm:x24.2.mm.Small:=by rw[h24.1];refine⟨?_,?_⟩;show(x17.2.2.2.z.L.map aZ.c).length<=_;rw[List.length_map];omega;show x17.2.2.2.z.cs.length<=_;omega
 have hF0:=Yd.none (ba:=x24.1) (G:=aM x24.2.L++aM x17.2.2.2.z.L) hW.z hW.sz h24.2 h24.1 (λ f hf=>.inr hf)
 refine gk (λ w hw=>(show SF _ _ [(x19,Bh a2 l2 c2 0),(x17.1,mE x17.2.1 (x17.2.2.1:Int) x17.2.2.2.pt x17.2.2.2.ts.length x17.2.2.2.kt x17.2.2.2.pe (rF x17.2.2.2.ex).length x17.2.2.2.ke),(x24.1,eX x24.2),(x17.2.1,xM x17.2.2.2.z.a0)] _ (aM x24.2.L++aM x17.2.2.2.z.L) [⟨x17.2.2.2.pt,rV x17.2.2.2.ts,x17.2.2.2.kt,29,2⟩,⟨x24.2.pn,gN x24.2.L,x24.2.cn,47,14⟩,⟨x24.2.pc,aG x24.2.cs,x24.2.cc,37,1⟩,⟨x17.2.2.2.z.pn,gN x17.2.2.2.z.L,x17.2.2.2.z.cn,47,14⟩,⟨x17.2.2.2.z.pc,aG x17.2.2.2.z.cs,x17.2.2.2.z.cc,37,1⟩] w from(hw.pick [1,2,0,3] [] 4).uw [2,0,1,3,4] 5)) ?_
 refine iZ ?_;refine J2 ?_;refine uI ?_
 refine bE (λ c26=>?_) (λ c26=>?_)
 ·try (contradiction)
 ·try (first|contradiction|(exfalso;omega))
  refine yV ?_;refine aC (cM (hs:=[(x19,Bh a2 l2 c2 0),(x17.1,mE x17.2.1 (x17.2.2.1:Int) x17.2.2.2.pt x17.2.2.2.ts.length x17.2.2.2.kt x17.2.2.2.pe (rF x17.2.2.2.ex).length x17.2.2.2.ke)]) (os:=[⟨x17.2.2.2.pt,rV x17.2.2.2.ts,x17.2.2.2.kt,29,2⟩]) (A0:=[(a2,aG l2)]) (hA:=aX.cons (.inr (.inl (.tail _ (.head _)))) aX.nil) (hc:=λ w hs=>Mb 7 (by decide) hl2 ht0 (by omega) hW.tr hs)) (λ x29 h29=>?_)
  have hrt:=hW.root (by decide) h29.mem
  have hky:=Ds h29.ky
  refine aI (λ x10=>?_);refine J5 ?_;refine aV ?_;refine dX [(0,[]),(1,[]),(2,[]),(3,[]),(4,[]),(5,[]),(6,[]),(7,[]),(9,[]),(10,[]),(11,[]),(12,[]),(13,[]),(8,[12,13]),(14,[]),(15,[]),(16,[]),(17,[])] ?_;refine aP ?_;refine cE (i:=1) (hq:=(U9 rf (λ w=>xC _ w))) (h:=?_);refine aQ ?_;refine bT (i:=3) (hq:=(aN (k:=2) rf cL dJ (by simp only[List.drop_succ_cons,List.drop_zero,List.take_succ_cons,List.take_zero];exact rfl) rfl)) (h:=?_);refine lV ?_;refine lV ?_;refine mx ?_;refine bP ?_;refine bC (i:=8) (hq:=(nh (V:=λ x:Nat×Cd×Fr×AS=>.pointer (some ⟨x.1,0,none⟩)) (hs:=[(x24.1,eX x24.2)]) (os:=fU x24.2) (hs':=λ x=>[(x24.1,eX x.2.2.2)]) (Hc:=λ x=>[(x.1,tO x24.1 x.2.1 0)]) (os':=λ x=>fU x.2.2.2) (Oc:=λ _=>[]) (Fc:=λ x=>x.2.2.1) (A0:=aM x24.2.L) (hA:=aX.of λ f hf=>.inr (.inr (.inl (by simp[hf])))) (hc:=λ w1 hw=>Ey (U4 (k:=qK x29 (x17.2.2.1:Int) x29.key) (m:=x17.2.2.1) (B:=[]) rfl hrt hm hky h24.2 hsm (λ f hf=>hf) (λ x hx=>nomatch hx) hw)))) (h:=λ x38 h38=>?_);refine bC (i:=14) (hq:=(nh (V:=λ q:Nat×XS×List aZ×Bool×Rs=>.pointer (some ⟨q.1,0,none⟩)) (hs:=[(x17.2.1,xM x17.2.2.2.z.a0)]) (os:=H2 x17.2.2.2.z) (hs':=λ q=>[(x17.2.1,xM q.2.1)]) (Hc:=λ q=>[(q.1,xO (qK x29 (x17.2.2.1:Int) x29.key) x17.2.1 q.2.1 q.2.2.2.1 q.2.2.2.2)]) (os':=λ q=>H2 q.2.1) (Oc:=λ q=>exL q.2.1) (Fc:=λ q=>aM q.2.2.1) (A0:=aM x17.2.2.2.z.L) (hA:=aX.of λ f hf=>.inr (.inr (.inl (by simp[hf])))) (hc:=λ w1 hw=>Bc (k:=qK x29 (x17.2.2.1:Int) x29.key) (m:=x17.2.2.1) (L:=x17.2.2.2.z.L) (cs:=x17.2.2.2.z.cs) (gen:=x17.2.2.2.z.gen) (acc:=0) ⟨by omega,by omega,by omega⟩ (vb _ _ _) hm rfl hrt (bH _) (bH _) (bH _) (λ f hf=>hf) (K9 (vd hW.z)) hw))) (h:=λ x44 h44=>?_)
  obtain⟨R1,hF1⟩:=Yd.add (k:=qK x29 (x17.2.2.1:Int) x29.key) (x:=x38) (q:=x44) hF0 rfl hm rfl hrt h29.mem rfl rfl rfl h44 h38.1
  refine gC ?_;refine cN (i:=16) (hq:=(Pt (sz:=2) (cs:=sP [(x38.1,x44.1)]) zM Ix rf rf rf rf rf rf)) (h:=λ x46=>?_);refine J7 ?_;refine aV ?_;refine Fs ?_
  refine nA [11,12,13,47,48,49,50,51,52,53,54,55,56,57,58,59,60,61,62,63,64,65,66,67,68,69,70,71,72] (λ y:FY=>[(12,.int .i64 ((y.i:Nat):Int)),(11,.slice y.lp (y.i+1) y.lc)]) (λ y=>Yd x24.1 x17.2.2.2 (y.i+1) y.S y.G/\y.i<=3/\y.i+1<=y.lc) (λ y=>(x19,Bh a2 l2 c2 y.pos)::(x17.1,mE x17.2.1 (x17.2.2.1:Int) x17.2.2.2.pt x17.2.2.2.ts.length x17.2.2.2.kt x17.2.2.2.pe (rF x17.2.2.2.ex).length x17.2.2.2.ke)::fyH x24.1 x17.2.1 y.S) (λ y=>y.G) (λ y=>fyO ⟨x17.2.2.2.pt,rV x17.2.2.2.ts,x17.2.2.2.kt,29,2⟩ y.lp y.lc y.S) (λ y=>3-y.i) (⟨0,x29.pos,⟨x38.2.2.2,x44.2.1,[]++[fpx x38 (qK x29 (x17.2.2.1:Int) x29.key) x17.2.2.1 x44 R1],x38.2.2.1++[]⟩,aM x44.2.2.1++(x38.2.2.1++(aM x24.2.L++aM x17.2.2.2.z.L)),some ⟨x46,0,none⟩,1⟩) (⟨hF1,by show 0<=3;decide,by show 0+1<=1;decide⟩) (λ y f hx=>?_) (hw0:=λ w hw=>Wh (l:=[]) (k:=qK x29 (x17.2.2.1:Int) x29.key) (m:=x17.2.2.1) (R:=R1) (hw.uw [1,2,3,4,0,5,6,7,8,9] 10))
  dsimp only[gR,List.map,List.cons_append,List.nil_append]
  obtain⟨hF,hi,hlc⟩:=hx
  obtain⟨z1,z2,z3⟩:=hF.ok.sz
  have hlen:=hF.len
  have hsmy:y.S.a.mm.Small:=by rw[hF.ok.mm];refine⟨?_,?_⟩;show(y.S.z.L.map aZ.c).length<=_;rw[List.length_map];omega;show y.S.z.cs.length<=_;omega
  have hfa:∀f∈aM y.S.a.L,f.2=[]∨f∈y.G:=λ f hf=>hF.fa f (by simp[hf])
  have hfb:∀f∈y.S.B,f∈y.G:=hF.fb
  have hfz:∀f∈aM y.S.z.L,f.2=[]∨f∈y.G:=λ f hf=>hF.fa f (by simp[hf])
  refine kM ?_;refine vX ?_
  refine bE (λ c48=>?_) (λ c48=>?_)
  ·try (first|contradiction|(exfalso;omega))
   refine qI ?_;refine iO ?_;refine aC (cM (hs:=[(x19,Bh a2 l2 c2 y.pos),(x17.1,mE x17.2.1 (x17.2.2.1:Int) x17.2.2.2.pt x17.2.2.2.ts.length x17.2.2.2.kt x17.2.2.2.pe (rF x17.2.2.2.ex).length x17.2.2.2.ke)]) (os:=[⟨x17.2.2.2.pt,rV x17.2.2.2.ts,x17.2.2.2.kt,29,2⟩]) (A0:=[(a2,aG l2)]) (hA:=aX.cons (.inr (.inl (.tail _ (.head _)))) aX.nil) (hc:=λ w hs=>Mb 7 (by decide) hl2 ht0 (by omega) hW.tr hs)) (λ x53 h53=>?_)
   have hrt2:=hW.root (by decide) h53.mem
   have hky2:=Ds h53.ky
   refine aI (λ x13=>?_);refine J5 ?_;refine dX [(0,[]),(1,[]),(2,[]),(3,[]),(4,[]),(5,[]),(6,[]),(7,[]),(8,[]),(10,[]),(11,[]),(12,[]),(13,[]),(14,[]),(9,[13,14]),(15,[]),(16,[]),(17,[]),(18,[]),(19,[])] ?_;refine hZ ?_;refine cE (i:=2) (hq:=(U9 rf (λ w=>xC _ w))) (h:=?_);refine aQ ?_;refine bT (i:=4) (hq:=(aN (k:=2) rf cL dJ (by simp only[List.drop_succ_cons,List.drop_zero,List.take_succ_cons,List.take_zero];exact rfl) rfl)) (h:=?_);refine lV ?_;refine lV ?_;refine mx ?_;refine bP ?_;refine bC (i:=9) (hq:=(nh (V:=λ x:Nat×Cd×Fr×AS=>.pointer (some ⟨x.1,0,none⟩)) (hs:=[(x24.1,eX y.S.a)]) (os:=fU y.S.a) (hs':=λ x=>[(x24.1,eX x.2.2.2)]) (Hc:=λ x=>[(x.1,tO x24.1 x.2.1 0)]) (os':=λ x=>fU x.2.2.2) (Oc:=λ _=>[]) (Fc:=λ x=>x.2.2.1) (A0:=aM y.S.a.L++y.S.B) (hA:=aX.of λ f hf=>(List.mem_append.1 hf).elim (λ hf=>(hfa f hf).imp_right λ h=>.inr (.inl h)) λ hf=>.inr (.inr (.inl (hfb f hf)))) (hc:=λ w1 hw=>Ey (U4 (k:=qK x53 (x17.2.2.1:Int) x53.key) (m:=x17.2.2.1) (B:=y.S.B) rfl hrt2 hm hky2 hF.ok.a hsmy (λ f hf=>List.mem_append_left _ hf) (λ x hx=>List.mem_append_right _ hx) hw)))) (h:=λ x63 h63=>?_);refine bC (i:=15) (hq:=(nh (V:=λ q:Nat×XS×List aZ×Bool×Rs=>.pointer (some ⟨q.1,0,none⟩)) (hs:=[(x17.2.1,xM y.S.z)]) (os:=H2 y.S.z) (hs':=λ q=>[(x17.2.1,xM q.2.1)]) (Hc:=λ q=>[(q.1,xO (qK x53 (x17.2.2.1:Int) x53.key) x17.2.1 q.2.1 q.2.2.2.1 q.2.2.2.2)]) (os':=λ q=>H2 q.2.1) (Oc:=λ q=>exL q.2.1) (Fc:=λ q=>aM q.2.2.1) (A0:=aM y.S.z.L) (hA:=aX.of λ f hf=>(hfz f hf).imp_right λ h=>.inr (.inl (List.mem_append_right _ h))) (hc:=λ w1 hw=>Bc (k:=qK x53 (x17.2.2.1:Int) x53.key) (m:=x17.2.2.1) (L:=y.S.z.L) (cs:=y.S.z.cs) (gen:=y.S.z.gen) (acc:=y.S.z.acc) ⟨by omega,by omega,by omega⟩ (vb _ _ _) hm rfl hrt2 (bH _) (bH _) (bH _) (λ f hf=>hf) (K9 hF.ok.z) hw))) (h:=λ x69 h69=>?_)
   obtain⟨R2,hF2⟩:=Yd.add (k:=qK x53 (x17.2.2.1:Int) x53.key) (x:=x63) (q:=x69) hF rfl hm rfl hrt2 h53.mem rfl rfl rfl h69 h63.1
   refine gC ?_;refine cN (i:=17) (hq:=((by exact I0 (λ _=>cP (cs:=sP [(x63.1,x69.1)]) zM Ix rfl rfl rfl rfl rfl)))) (h:=λ x71=>?_);((refine cN (i:=18) (hq:=(bF.eK (fJ (sz:=2) (cs:=sP (pW y.S.l)) (ys:=sP [(x63.1,x69.1)]) rf rf yS (by rw[iW,nI,hlen]) (.new .head) (by rfl) rfl zM rfl (by decide) hX (by omega)) uO)) (h:=λ x72=>?_);try (refine eY (λ h72=>?_))));refine J7 ?_;refine eP ?_;refine yH ?_
   refine iJ (⟨y.i+1,x53.pos,⟨x63.2.2.2,x69.2.1,y.S.l++[fpx x63 (qK x53 (x17.2.2.1:Int) x53.key) x17.2.2.1 x69 R2],x63.2.2.1++y.S.B⟩,aM x69.2.2.1++(x63.2.2.1++y.G),x72.1,x72.2⟩) ?_ (hw1:=λ w hw=>Wh (k:=qK x53 (x17.2.2.1:Int) x53.key) (m:=x17.2.2.1) (R:=R2) (hw.fE λ f hf=>.inr (List.mem_cons_of_mem _ hf)))
   ·exact⟨hF2,by show y.i+1<=3;omega,h72⟩
  ·try (first|contradiction|(exfalso;omega))
   refine bM rfl ?_;refine Df ?_;refine dF ?_;refine J3 ?_;refine pY ?_;refine aC (cT 2 2 (V:=λ _:LY=>.bool true) (hs:=qJ x24.1 x17.2.1 y.S) (os:=rL y.S) (A0:=(y.lp,sP (pW y.S.l))::(a3,aG l3)::y.G) (hs':=λ v=>qJ x24.1 x17.2.1 v.S) (os':=λ v=>rL v.S) (Fc:=λ v=>v.G) (F1:=λ v=>v.G) (hA:=aX.cons (.inr (.inr (.inr ⟨_,.head _,rfl,rfl⟩))) (aX.cons (.inr (.inl (by simp))) (aX.of λ f hf=>.inr (.inr (.inl hf))))) (hF1:=λ v _ f hf=>.inr (List.mem_append_left _ hf)) (hc:=λ w1 hw=>td (l:=l3) (a:=a3) (c:=c3) hlen hF.ok (by omega) (by omega) (by omega) (by omega) hl3 (λ f hf=>(hfa f hf).imp_right λ h=>List.mem_cons_of_mem _ (List.mem_cons_of_mem _ h)) (λ f hf=>(hfz f hf).imp_right λ h=>List.mem_cons_of_mem _ (List.mem_cons_of_mem _ h)) (λ f hf=>List.mem_cons_of_mem _ (List.mem_cons_of_mem _ (hfb f hf))) (List.mem_cons_self ..) (List.mem_cons_of_mem _ (List.mem_cons_self ..)) hw)) (λ x80 h80=>?_)
   have hend:=hF.end hW (by omega) h80.1 h80.2
   refine oX ?_
   refine bE (λ c81=>?_) (λ c81=>?_)
   ·exact nv c81
   ·try (first|contradiction|(exfalso;omega))
    refine lA ?_;refine J2 ?_;refine dI ?_;refine Af ?_;refine cI ?_
    refine nA [6,15,84,85,86,87,88,89,90,91,92,93,94,95,96,97,98] (λ k=>[(84,.int .i64 ((k:Nat):Int))]) (λ k=>k<=y.i+1) (λ _=>(x19,Bh a2 l2 c2 y.pos)::(x17.1,mE x17.2.1 (x17.2.2.1:Int) x17.2.2.2.pt x17.2.2.2.ts.length x17.2.2.2.kt x17.2.2.2.pe (rF x17.2.2.2.ex).length x17.2.2.2.ke)::qJ x24.1 x17.2.1 x80.S) (λ _=>x80.G) (λ _=>⟨y.lp,sP (pW y.S.l),y.lc,76,2⟩::⟨x17.2.2.2.pt,rV x17.2.2.2.ts,x17.2.2.2.kt,29,2⟩::rL x80.S) (λ k=>y.i+1-k) (0) (Nat.zero_le _) (λ k f hx=>?_) (hw0:=λ w hw=>hw.back (hH:=by exact List.Sublist.refl _) (hF:=by exact aY.all) (hO:=by exact List.Sublist.refl _))
    dsimp only[gR,List.map,List.cons_append,List.nil_append]
    have hkk:=hx
    refine J0 ?_;refine vX ?_;refine aV ?_
    refine bE (λ c85=>?_) (λ c85=>?_)
    ·try (first|contradiction|(exfalso;omega))
     refine qI ?_;refine J0 ?_;refine aB (A2 (cs:=sP (pW y.S.l)) (k:=k) rf rf hX dJ (.own .head) (by omega) (by rw[iW,nI];omega)) rfl ?_;refine aB (Ap (k:=2) (cs:=sP (pW y.S.l)) (q:=2*k) rf dJ (.own .head) (Lr (by rw[nI];omega)) rfl) rfl ?_
     obtain⟨cd,j,hmem,hk0,hj⟩:=rm (bm:=x17.2.1) (k:=k) h80.1.ok h80.1.pr hlen (by omega) hend
     refine aI (λ x15=>?_);refine J5 ?_;refine gZ ?_;refine aR (cV (hc:=λ w1 hw=>Bd (d:=true) hk0 (hw.st.has _ (.tail _ (.tail _ (.tail _ (.tail _ (.tail _ hmem)))))))) (λ x90=>?_);refine En ?_
     (refine aF ?_;refine aE ?_)
     ((refine aF ?_;refine bR ?_));((refine aF ?_;refine aR (cV (hc:=λ w1 hw=>Cu (hw.st.has _ (.tail _ (.tail _ (.tail _ (.tail _ (.tail _ hmem)))))))) (λ x95=>?_)));refine Iw ?_;refine aH ?_
     refine bE (λ c97=>?_) (λ c97=>?_)
     ·try ((exfalso;omega))
     ·try (first|contradiction|(exfalso;omega))
      refine oB ?_;refine Rt ?_;refine Af ?_
      refine iJ (k+1) ?_ (hw1:=λ w hw=>hw.back (hH:=by exact List.Sublist.cons _ (List.Sublist.refl _)) (hF:=by exact aY.all) (hO:=by exact List.Sublist.refl _))
      ·omega
    ·try (first|contradiction|(exfalso;omega))
     refine bM rfl ?_;refine J0 ?_;refine aR (cV (hc:=λ w1 hw=>Xh w1)) (λ x99=>?_);refine J1 ?_
     refine aT Tryz.results18 (λ w hw=>?_)
     exact⟨rfl,hw.done⟩
end Go.Proofs.YtbajmaoegmbfgaaGreat

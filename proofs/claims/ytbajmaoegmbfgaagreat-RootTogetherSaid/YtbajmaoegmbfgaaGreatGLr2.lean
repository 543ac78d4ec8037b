/- The laws of root: the sanity check. -/
import Derived.Test.YtbajmaoegmbfgaaGreatGRt3
import Derived.Test.YtbajmaoegmbfgaaGreatGVw1
import Derived.Test.YtbajmaoegmbfgaaGreatGAr8
import Derived.Test.YtbajmaoegmbfgaaGreatGNode2

set_option linter.unusedSimpArgs false
set_option linter.unusedVariables false
namespace Go.Proofs.YtbajmaoegmbfgaaGreat
section
open Go Go.RowKit Go.Ct
theorem Xq(x y:AX):hY (L4 x y) [0,3,4] 1 :=
 A9 (m:=0) (B:=8) (C:=0) (E:=0) (W:=⟨XS.new (L4 x y) [0,3,4] 1 0 none 0 none 0,[⟨3,false⟩],none,0,[],none,0⟩) ⟨Vk _ _ _ _ _ _ _,⟨by show 4<=8;decide,by show 3<=8;decide,by show(1:Int)<=((8:Nat):Int);decide⟩,(λ e he=>nomatch he),by show 0<1;decide,rfl,by show 1<=5;decide,Nat.le_refl _,.new⟩
section
variable{D:List Nat}{A B:Fr}{a0 a:AS}{b bt n m most:Nat}{w:World}{c:Cd}{F:Fr}{p:Tr×Mm}
theorem Y9(hp:mH b p a0 B (c,F,a))(ha:eE p.1=true)(ht:bQ p.1 m 64)(hmm:most<=m)(hm:p.2.nodes.length+64*most<=137438953472/\p.2.cs.length+64*most<=137438953472)(hn:n+most<1000000000)(hA:∀f∈aK a.L,f∈A)(hB:∀x∈F++B,x∈A)(hs:SF w D [(bt,tO b c n),(b,dS a)] A [] (dZ a) w) :
  Calls Tryz.prog 30 #[.pointer (some ⟨bt,0,none⟩),.int .i64 ((most:Nat):Int)] w λ e w'=>∃y:Cd×Fr×AS,e=.returned (.int .i64 ((Am p most:Nat):Int))/\zj b (xB p most) a (F++B) y/\SF w D [(bt,tO b y.1 (n+Am p most)),(b,dS y.2.2)] [] y.2.1 (dZ y.2.2) w':=by
 obtain⟨⟨h1,h2⟩,h3,h4⟩:=hp
 simp only at h1 h2 h3
 have e:(p.1,a.mm)=p:=by rw[h2]
 have:=jb (b:=b) (bt:=bt) (n:=n) (D:=D) (A:=A) (B:=F++B) (w:=w) (most:=most) ht hmm ha (a:=a) (c:=c) (by rw[h2];exact h1) h3 (by rw[h2];exact hm) hn hA hB hs
 rw[e] at this
 exact this
end
def Y1:Nd:={Nd.zero with kind:=2,gen:=1}
def Qm:Mm:=zr.push (Y1.c [] []) 3
def Wa:Tr:=mQ ⟨3,false⟩ 4 3 5 λ ok=>.done (lD 0 ok)
theorem zV:bQ Wa 20 64:=by
 have h:Wa=kJ ⟨4,⟨3,false⟩,4,3,5,0,0,0,⟨#[]⟩,0,0,0,false⟩ 0 21:=by
  unfold Wa kJ
  rfl
 rw[h]
 exact Jz (by decide)
theorem y5:xB (Ct.iU Wa Qm) 9=(.done (lD 0 true),(xB (Ct.iU Wa Qm) 9).2)/\Am (Ct.iU Wa Qm) 9=6/\bV (xB (Ct.iU Wa Qm) 9).2.cs 3=5:=⟨rfl,rfl,rfl⟩
theorem vz:(Ct.iU Wa Qm).2.nodes.length=6/\(Ct.iU Wa Qm).2.cs.length=5:=⟨rfl,rfl⟩
theorem nh{D:List Nat}{A B F:Fr}{a0 a:AS}{b bt:Nat}{c:Cd}{w:World}(hp:mH b (Ct.iU Wa Qm) a0 B (c,F,a))(hA:∀f∈aK a.L,f∈A)(hB:∀x∈F++B,x∈A)(hs:SF w D [(bt,tO b c 0),(b,dS a)] A [] (dZ a) w) :
  Calls Tryz.prog 30 #[.pointer (some ⟨bt,0,none⟩),.int .i64 9] w λ e w'=>∃y:Fr×AS,e=.returned (.int .i64 6)/\(bV y.2.cs 3=5/\y.2.cs.length<=1000)/\SF w D [(bt,tO b (zK (lD 0 true)) 6),(b,dS y.2)] [] y.1 (dZ y.2) w':=by
 obtain⟨e1,e2,e3⟩:=y5
 obtain⟨g1,g2⟩:=vz
 refine(Y9 (n:=0) (m:=20) (most:=9) hp (nJ Qm zV) (nR Qm zV 64) (by decide) ⟨by omega,by omega⟩ (by decide) hA hB hs).mono λ e w' ⟨y,h1,h2,hw⟩=>?_
 have h3:=h2.rp
 rw[e1] at h3
 obtain⟨_,h4⟩:=h3
 have h5:y.2.2.cs=(xB (Ct.iU Wa Qm) 9).2.cs:=congrArg Mm.cs h2.mm
 obtain⟨_,_,_,h6⟩:=F8 (nR Qm zV 64) (nJ Qm zV) 9 (by decide) (s:=(Ct.iU Wa Qm).2)
 rw[e2,h4] at hw
 refine⟨(y.2.1,y.2.2),by rw[h1,e2];rfl,⟨by show bV y.2.2.cs 3=5;rw[h5];exact e3,?_⟩,hw⟩
 show y.2.2.cs.length<=1000
 rw[h5]
 have:(xB (Ct.iU Wa Qm) 9).2.cs.length<=(Ct.iU Wa Qm).2.cs.length+64*9:=h6
 omega
set_option maxRecDepth 100000 in
set_option maxHeartbeats 1000000 in
theorem Ko(w:World):Calls Tryz.prog 45 #[] w λ e w'=>e=.returned (.bool true)/\St w [] [] w':=by
 refine enter Tryz.func45 Tryz.ntmps45 rfl rfl (SF.s0 w) ?_
 simp only[bX]
 refine cR ?_;refine J0 ?_;refine aC (Sl (Fc:=λ _=>[]) (hc:=λ w1 hw=>Ze w1)) (λ x7 h7=>?_);refine J1 ?_;refine J2 ?_;refine aC (cM (hc:=λ w hs=>Pc hs)) (λ x9 h9=>?_);refine aI (λ x2=>?_);refine J5 ?_;refine E0 ?_;refine aB (aN (k:=3) rf cN dI (by simp only[List.drop_zero,List.take_succ_cons,List.take_zero];exact rfl) rfl) rfl ?_;refine aC (Sl (V:=λ x:Nat×List aS×(Option Addr×Nat)×(Option Addr×Nat)=>.tuple #[.pointer (some ⟨x.1,0,none⟩),.int .i64 0]) (Hc:=λ x=>[(x.1,aO x.2.1 [0,3,4] 1 0 x.2.2.1.1 x.2.2.1.2 x.2.2.2.1 x.2.2.2.2)]) (Fc:=λ x=>aK x.2.1) (Oc:=λ x=>mW x.2.1 [0,3,4] x.2.2.1.1 x.2.2.1.2 x.2.2.2.1 x.2.2.2.2) (hc:=λ w1 hw=>Zi (L:=L4 x9.1 x9.2.1) (cs:=[0,3,4]) (hw.Gf (.inr (.inr (.inr ⟨_,.head _,rfl,rfl⟩))) (.inr (.inr (.inr ⟨_,.tail _ (.head _),rfl,rfl⟩))) (λ f hf=>.inl (jk f hf)) (Vk x9.1 x9.2.1 0 none 0 none 0).fit) (by show 4<=_;decide) (by decide) (hw.v5 .head) (Xq _ _))) (λ x15 h15=>?_)
 obtain⟨a0,ha0⟩:∃a:AS,a=⟨x15.2.1,[0,3,4],1,0,x15.2.2.1.1,x15.2.2.1.2,x15.2.2.2.1,x15.2.2.2.2⟩:=⟨_,rfl⟩
 have hmm:a0.mm=zr:=by rw[ha0];show Mm.mk ((cW x15.2.1).map aS.c) [0,3,4] 1=zr;rw[h15.1];rfl
 have hok:a0.Ok:=⟨by rw[ha0];exact h15.2,by rw[hmm];exact(Vk x9.1 x9.2.1 0 none 0 none 0).mo⟩
 have hsm:a0.mm.Small:=by rw[hmm];exact⟨by decide,by decide⟩
 have hoA:∀x:AX,(a0.al Y1 [] [] 3 x).Ok:=λ x=>hok.al x (by simp) (by simp) ⟨bH _,bH _,bH _,(λ r hr=>nomatch hr),bH _,bH _,bH _,⟨0,rfl,by decide⟩,⟨0,rfl,by decide⟩⟩ (by rw[hmm];decide)
 have hmA:∀x:AX,(a0.al Y1 [] [] 3 x).mm=Qm:=λ x=>by rw[oP,hmm];rfl
 refine Lw ?_;refine J8 ?_;refine kY ?_;refine uB ?_
 refine bC (λ c19=>?_) (λ c19=>?_)
 ·try (contradiction)
 ·try (first|contradiction|(exfalso;omega))
  refine aX ?_;refine J2 ?_;refine bG ?_;refine aC (cM (V:=λ _:AX=>.int .i64 5) (hs:=[(x15.1,dS a0)]) (os:=dZ a0) (A0:=[(none,aH []),(none,dC [])]) (hs':=λ x=>[(x15.1,dS (a0.al Y1 [] [] 3 x))]) (os':=λ x=>dZ (a0.al Y1 [] [] 3 x)) (Fc:=λ x=>(jK Y1 [] [] a0.cs.length x).fr) (hH:=by rw[ha0];exact .cons .head .nil) (hO:=by rw[ha0];exact .cons .head (.cons .head .nil)) (hc:=λ w1 hw=>by have:=rY (n:=Y1) (xs:=[]) (ys:=[]) hok hsm 3 rfl rfl (by simp) (by simp) (λ f hf=>hf) hw;rw[hmm] at this;exact this)) (λ x22 h22=>?_);refine J1 ?_;refine J2 ?_;refine aB (jg rf (λ w=>B3 _ w)) rfl ?_;refine bN ?_;refine aA ?_;refine aC (M1 (V:=λ x:Nat×Cd×Fr×AS=>.pointer (some ⟨x.1,0,none⟩)) (hs:=[(x15.1,dS (a0.al Y1 [] [] 3 x22))]) (os:=dZ (a0.al Y1 [] [] 3 x22)) (hs':=λ x=>[(x15.1,dS x.2.2.2)]) (Hc:=λ x=>[(x.1,tO x15.1 x.2.1 0)]) (os':=λ x=>dZ x.2.2.2) (Oc:=λ _=>[]) (Fc:=λ x=>x.2.2.1) (A0:=aK (a0.al Y1 [] [] 3 x22).L) (hA:=aW.of λ f hf=>((AS.iD.al a0 Y1 [] [] 3 x22).fam f hf).imp_right λ h=>.inr (.inl (h.elim (λ h=>List.mem_append_right _ (by rw[ha0] at h;exact List.mem_append_left _ h)) λ h=>List.mem_append_left _ h))) (hc:=λ w1 hw=>by have:=Ej (Oz (t:=⟨3,false⟩) (bD:=4) (exp:=3) (nw:=5) (B:=[]) (n:=20) (m:=64) (by decide) (by rw[hmA];decide) (by rw[hmA];decide) (by rw[hmA];decide) zV (hoA x22) (by rw[hmA];exact⟨by decide,by decide⟩) (λ f hf=>hf) (λ x hx=>nomatch hx) hw);rw[hmA] at this;exact this)) (λ x27 h27=>?_);refine J1 ?_;refine J2 ?_;refine kM ?_;refine aA ?_
  (refine aF ?_;refine aA ?_)
  ((refine aF ?_;refine aC (cM (V:=λ y:Fr×AS=>.int .i64 6) (hs:=[(x27.1,tO x15.1 x27.2.1 0),(x15.1,dS x27.2.2.2)]) (os:=dZ x27.2.2.2) (hs':=λ y=>[(x27.1,tO x15.1 (zK (lD 0 true)) 6),(x15.1,dS y.2)]) (os':=λ y=>dZ y.2) (Fc:=λ y=>y.1) (A0:=aK x27.2.2.2.L++(x27.2.2.1++[])) (hA:=aW.of λ f hf=>(List.mem_append.1 hf).elim (λ h=>(h27.1.2.2.fam f h).elim .inl λ h=>h.elim (λ h=>((AS.iD.al a0 Y1 [] [] 3 x22).fam f h).imp_right λ h=>.inr (.inl (h.elim (λ h=>List.mem_append_right _ (List.mem_append_right _ (by rw[ha0] at h;exact List.mem_append_left _ h))) λ h=>List.mem_append_right _ (List.mem_append_left _ h)))) λ h=>.inr (.inr (.inl (List.mem_append_left _ h)))) λ h=>.inr (.inr (.inl (List.mem_append_left _ (by simpa using h))))) (hc:=λ w1 hw=>nh h27.1 (λ f hf=>List.mem_append_left _ hf) (λ f hf=>List.mem_append_right _ hf) hw)) (λ x32 h32=>?_)));refine wW ?_;refine aA ?_
  (refine aF ?_;refine aA ?_)
  ((refine aF ?_;refine aP (cV (hc:=λ w1 hw=>zM (r:=lD 0 true) (d:=true) rfl (if_pos rfl) (hw.st.at cN))) (λ x37=>?_)));((refine aF ?_;refine cD ?_));refine cJ ?_;refine aA ?_
  (refine aF ?_;refine aA ?_)
  refine J6 ?_;((refine aF ?_;refine aC (cM (V:=λ _:Unit=>.int .i64 5) (hs:=[(x15.1,dS x32.2)]) (os:=dZ x32.2) (hs':=λ _=>[(x15.1,dS {x32.2 with acc:=up x32.2.acc})]) (os':=λ _=>dZ x32.2) (Fc:=λ _=>[]) (hc:=λ w1 hw=>by rw[<- h32.1];exact U7 hw 3 (by decide) (by omega))) (λ x44 h44=>?_)));((refine aF ?_;refine aA ?_));refine wW ?_;refine J1 ?_
  refine aR Tryz.results45 (λ w hw=>?_)
  exact⟨rfl,hw.done⟩
end

/- RootReads: the walk. -/
section
open Go Go.RowKit Go.Ct
def kT(kind:Int)(t:fR):Cl:=⟨kind,t,0,0,0,0,0,0,⟨#[]⟩,0,0,0,false⟩
theorem U5{kind:Int}{t:fR}(h1:1<=kind)(h2:kind<=4):Ue (kT kind t):=.inl ⟨h1,h2⟩
theorem qp(t:fR)(m:Nat):T0 (kT 3 t) m=oL t λ r=>.done (lD r false):=rfl
abbrev Pn(x:XS):List Ow:=[⟨x.pg,aH x.got,x.kg,37,1⟩,⟨x.pm,aH x.made,x.km,37,1⟩,⟨x.pl,aH x.cel,x.kl,27,1⟩,⟨x.pe,aH x.gns,x.ke,3,1⟩]
end

/- Views: the root of a trie, the main node of an I-node. -/
end Go.Proofs.YtbajmaoegmbfgaaGreat
namespace Go.Ct
section
open Go Go.RowKit
theorem nV.Km{L:List aS}{cs:List Int}{pn pc:Option Addr}{w w0:World}{M:List Nat}{H:List (Nat×Obj)}{F:Fr}{O:List Ow}(h:nV w0 L cs pn pc)(hw:SF w0 M H ((pn,gS L)::(pc,aH cs)::aK L) F O w):nV w L cs pn pc:=hw.Gf (.inr (.inl (.head _))) (.inr (.inl (.tail _ (.head _)))) (λ f hf=>.inr (.inl (.tail _ (.tail _ hf)))) h.fit
theorem iK(L:List aS)(r:Int):dY (L.map aS.c) r=(aD L r).c:=(Ef L r).symm
end
end Go.Ct
namespace Go.Proofs.YtbajmaoegmbfgaaGreat
section
open Go Go.RowKit Go.Ct
section
variable{L:List aS}{cs:List Int}{gen:Int}{pn pc:Option Addr}{cn cc:Nat}{w:World}
abbrev Tl(L:List aS)(cs:List Int)(gen:Int)(pn:Option Addr)(cn:Nat)(pc:Option Addr)(cc:Nat):Value:=.agg ⟨[.slice pn L.length cn,.slice pc cs.length cc,.int .i64 gen]⟩
structure StB(L:List aS)(cs:List Int):Prop where
 cs:∀c,bV cs c<=9223372036854775807
 bD:∀r,(aD L r).nd.bD<=9223372036854775807
 new:∀r,(aD L r).nd.new<=9223372036854775807
 main:∀r,(aD L r).nd.main<=9223372036854775807
 prev:∀r,(aD L r).nd.prev<=9223372036854775807
 status:∀r,(aD L r).nd.status<=9223372036854775807
 br:∀r,∀b∈(aD L r).xs,b<=9223372036854775807
end
end

/- The reference of views: a node, a cell, the root, the main node of an I-node. -/
section
open Go Go.RowKit Go.Ct
section
variable{L:List aS}{cs:List Int}{gen:Int}{pn pc:Option Addr}{cn cc:Nat}{w:World}
theorem u9(h:nV w L cs pn pc)(r:Int)(hr:r<1):Calls Tryz.prog 91 #[Tl L cs gen pn cn pc cc,.int .i64 r] w λ e w'=>e=.returned (aD L r).nd.v/\St w [] [] w':=by
 refine enter Tryz.func91 Tryz.ntmps91 rfl rfl h.start ?_
 simp only[bX]
 refine J0 ?_;refine bL (λ x2=>?_);refine aI (λ x4=>?_);refine aG ?_;refine kY ?_;refine Ce ?_
 (refine eI 7 (λ g7=>?_) (λ g7=>?_)<;>(try (exfalso;omega))<;>(refine aJ ?_))
 refine Qu ?_;refine B7 ?_;refine aG ?_
 refine bC (λ c13=>?_) (λ c13=>?_)
 ·try (exfalso;omega)
  refine J0 ?_;refine uO ?_
  refine bB Tryz.results91 (λ w hw=>?_)
  exact⟨by rw[pC (by omega)];rfl,hw.done⟩
 ·exact nv c13
theorem xj(h:nV w L cs pn pc){k:Nat}(hk:(k:Int)<9223372036854775807)(hl:L.length<=274877906944):Calls Tryz.prog 91 #[Tl L cs gen pn cn pc cc,.int .i64 ((k+1:Nat):Int)] w λ e w'=>e=.returned (aD L ((k+1:Nat):Int)).nd.v/\St w [] [] w':=by
 refine enter Tryz.func91 Tryz.ntmps91 rfl rfl h.start ?_
 simp only[bX]
 refine J0 ?_;refine bL (λ x2=>?_);refine aI (λ x4=>?_);refine aG ?_;refine kY ?_;refine Ce ?_
 (refine aF ?_;refine aA ?_)
 refine Qu ?_;refine B7 ?_;refine aG ?_
 refine bC (λ c13=>?_) (λ c13=>?_)
 ·try (exfalso;omega)
  refine J0 ?_;refine uO ?_
  refine bB Tryz.results91 (λ w hw=>?_)
  (exact⟨by rw[pC (by omega)];rfl,hw.done⟩)
 ·try (exfalso;omega)
  refine aX ?_;refine gM ?_;refine aA ?_;refine rR ?_;refine Qp ?_;refine J5 ?_
  refine bB Tryz.results91 (λ w hw=>?_)
  (exact⟨by rw[vS (by omega)];rfl,hw.done⟩)
theorem tT(h:nV w L cs pn pc)(r:Int)(hr:r<=9223372036854775807)(hl:L.length<=274877906944):Calls Tryz.prog 91 #[Tl L cs gen pn cn pc cc,.int .i64 r] w λ e w'=>e=.returned (aD L r).nd.v/\St w [] [] w':=by
 rcases Int.lt_or_le r 1 with h1|h1
 ·exact u9 h r h1
 ·obtain⟨k,rfl⟩:∃k:Nat,r=((k+1:Nat):Int):=⟨(r-1).toNat,by omega⟩
  exact xj h (by omega) hl
theorem ee(h:nV w L cs pn pc)(r:Int)(hr:r<1):Calls Tryz.prog 90 #[Tl L cs gen pn cn pc cc,.int .i64 r] w λ e w'=>e=.returned (.int .i64 (bV cs r))/\St w [] [] w':=by
 refine enter Tryz.func90 Tryz.ntmps90 rfl rfl h.start ?_
 simp only[bX]
 refine J0 ?_;refine bL (λ x2=>?_);refine hZ ?_;refine J2 ?_;refine Ce ?_
 (refine eI 7 (λ g7=>?_) (λ g7=>?_)<;>(try (exfalso;omega))<;>(refine aJ ?_))
 refine Qu ?_;refine B7 ?_;refine aG ?_
 refine bC (λ c13=>?_) (λ c13=>?_)
 ·try (exfalso;omega)
  refine cR ?_
  refine aR Tryz.results90 (λ w hw=>?_)
  exact⟨by rw[rG (by omega)];rfl,hw.done⟩
 ·exact nv c13
theorem bk(h:nV w L cs pn pc){k:Nat}(hk:(k:Int)<9223372036854775807)(hl:cs.length<=274877906944):Calls Tryz.prog 90 #[Tl L cs gen pn cn pc cc,.int .i64 ((k+1:Nat):Int)] w λ e w'=>e=.returned (.int .i64 (bV cs ((k+1:Nat):Int)))/\St w [] [] w':=by
 refine enter Tryz.func90 Tryz.ntmps90 rfl rfl h.start ?_
 simp only[bX]
 refine J0 ?_;refine bL (λ x2=>?_);refine hZ ?_;refine J2 ?_;refine Ce ?_
 (refine aF ?_;refine aA ?_)
 refine Qu ?_;refine B7 ?_;refine aG ?_
 refine bC (λ c13=>?_) (λ c13=>?_)
 ·try (exfalso;omega)
  refine cR ?_
  refine aR Tryz.results90 (λ w hw=>?_)
  (exact⟨by rw[rG (by omega)];rfl,hw.done⟩)
 ·try (exfalso;omega)
  refine aX ?_;refine gM ?_;refine aA ?_;refine rR ?_;refine Qp ?_;refine J1 ?_
  refine aR Tryz.results90 (λ w hw=>?_)
  (exact⟨by rw[Gh (by omega)];rfl,hw.done⟩)
theorem Eo(h:nV w L cs pn pc)(r:Int)(hr:r<=9223372036854775807)(hl:cs.length<=274877906944):Calls Tryz.prog 90 #[Tl L cs gen pn cn pc cc,.int .i64 r] w λ e w'=>e=.returned (.int .i64 (bV cs r))/\St w [] [] w':=by
 rcases Int.lt_or_le r 1 with h1|h1
 ·exact ee h r h1
 ·obtain⟨k,rfl⟩:∃k:Nat,r=((k+1:Nat):Int):=⟨(r-1).toNat,by omega⟩
  exact bk h (by omega) hl
theorem qn(h:nV w L cs pn pc)(hb:StB L cs)(hl:L.length<=274877906944)(hc:cs.length<=274877906944)(i:Int)(hi:i<=9223372036854775807):Calls Tryz.prog 83 #[Tl L cs gen pn cn pc cc,.int .i64 i] w λ e w'=>e=.returned (.tuple #[.int .i64 ((pS (L.map aS.c) cs i).getD 0),.bool (pS (L.map aS.c) cs i).isSome])/\St w [] [] w':=by
 refine enter Tryz.func83 Tryz.ntmps83 rfl rfl h.start ?_
 simp only[bX]
 simp only[Tl]
 refine J0 ?_;refine bL (λ x2=>?_);refine J8 ?_;refine aT ?_;refine Dz ?_;refine aP (cV (hc:=λ w1 hw=>tT (h.Km hw) i hi hl)) (λ x10=>?_);refine cD ?_;refine kM ?_;refine aG ?_
 refine bC (λ c12=>?_) (λ c12=>?_)
 ·refine O9 ?_
  refine bB Tryz.results83 (λ w hw=>?_)
  refine⟨?_,hw.done⟩
  unfold pS yP oJ vR
  simp only[iK,cL,aS.c,Nd.c]
  simp_all
  rfl
 ·refine kG ?_;refine dV [(0,[]),(1,[]),(2,[]),(3,[0]),(4,[]),(5,[]),(6,[])] ?_;refine bK ?_;refine bK ?_;refine aM ?_;refine cB (i:=3) (hq:=(cV (hc:=λ w1 hw=>tT (h.Km hw) i hi hl))) (h:=λ x16=>?_);refine qR ?_;refine cB (i:=5) (hq:=(cV (hc:=λ w1 hw=>Eo (h.Km hw) (aD L i).nd.main (hb.main i) hc))) (h:=λ x18=>?_);refine J7 ?_;refine aT ?_;refine Dz ?_;refine aP (cV (hc:=λ w1 hw=>tT (h.Km hw) (bV cs (aD L i).nd.main) (hb.cs _) hl)) (λ x21=>?_);refine aC (c0 (V:=.bool) (hc:=λ w1 hw=>xP _ w1)) (λ x22 h22=>?_);refine oK ?_
  refine bC (λ c23=>?_) (λ c23=>?_)
  ·refine O9 ?_
   refine bB Tryz.results83 (λ w hw=>?_)
   refine⟨?_,hw.done⟩
   unfold pS yP oJ vR
   simp only[iK,cL,aS.c,Nd.c]
   simp_all
   rfl
  ·refine kG ?_;refine dV [(0,[]),(1,[]),(2,[]),(3,[0]),(4,[]),(5,[]),(6,[])] ?_;refine bK ?_;refine bK ?_;refine aM ?_;refine cB (i:=3) (hq:=(cV (hc:=λ w1 hw=>tT (h.Km hw) (bV cs (aD L i).nd.main) (hb.cs _) hl))) (h:=λ x27=>?_);refine qR ?_;refine cB (i:=5) (hq:=(cV (hc:=λ w1 hw=>Eo (h.Km hw) (aD L (bV cs (aD L i).nd.main)).nd.prev (hb.prev _) hc))) (h:=λ x29=>?_);refine J7 ?_;refine Cp ?_;refine J2 ?_;refine Qq ?_
   refine bC (λ c30=>?_) (λ c30=>?_)
   ·refine J2 ?_;refine J8 ?_
    refine bB Tryz.results83 (λ w hw=>?_)
    refine⟨?_,hw.done⟩
    unfold pS yP oJ vR
    simp only[iK,cL,aS.c,Nd.c]
    simp_all
    rfl
   ·refine Dz ?_;refine aP (cV (hc:=λ w1 hw=>tT (h.Km hw) (bV cs (aD L (bV cs (aD L i).nd.main)).nd.prev) (hb.cs _) hl)) (λ x37=>?_);refine cD ?_;refine Qq ?_
    refine bC (λ c34=>?_) (λ c34=>?_)
    ·refine dG ?_;refine bN ?_;refine aA ?_;refine aP (cV (hc:=λ w1 hw=>tT (h.Km hw) (bV cs (aD L (bV cs (aD L i).nd.main)).nd.prev) (hb.cs _) hl)) (λ x42=>?_);refine cD ?_;refine J1 ?_;refine fC ?_;refine aT ?_;refine Dz ?_;refine aP (cV (hc:=λ w1 hw=>tT (h.Km hw) _ (by exact hb.bD _) hl)) (λ x46=>?_);refine aC (c0 (V:=.bool) (hc:=λ w1 hw=>xP _ w1)) (λ x47 h47=>?_);refine oK ?_
     refine bC (λ c48=>?_) (λ c48=>?_)
     ·refine O9 ?_
      refine bB Tryz.results83 (λ w hw=>?_)
      refine⟨?_,hw.done⟩
      unfold pS yP oJ vR
      simp only[iK,cL,aS.c,Nd.c]
      simp_all
      rfl
     ·refine aX ?_;refine J2 ?_;refine J8 ?_
      refine bB Tryz.results83 (λ w hw=>?_)
      refine⟨?_,hw.done⟩
      unfold pS yP oJ vR
      simp only[iK,cL,aS.c,Nd.c]
      simp_all
      rfl
    ·refine oF ?_;refine aT ?_;refine Dz ?_;refine aP (cV (hc:=λ w1 hw=>tT (h.Km hw) _ (by exact hb.cs _) hl)) (λ x46=>?_);refine aC (c0 (V:=.bool) (hc:=λ w1 hw=>xP _ w1)) (λ x47 h47=>?_);refine oK ?_
     refine bC (λ c48=>?_) (λ c48=>?_)
     ·refine O9 ?_
      refine bB Tryz.results83 (λ w hw=>?_)
      refine⟨?_,hw.done⟩
      unfold pS yP oJ vR
      simp only[iK,cL,aS.c,Nd.c]
      simp_all
      rfl
     ·refine aX ?_;refine J2 ?_;refine J8 ?_
      refine bB Tryz.results83 (λ w hw=>?_)
      refine⟨?_,hw.done⟩
      unfold pS yP oJ vR
      simp only[iK,cL,aS.c,Nd.c]
      simp_all
      rfl
theorem oi(h:nV w L cs pn pc)(hb:StB L cs)(hl:L.length<=274877906944)(hc:cs.length<=274877906944)(c:Int)(ro:Bool)(hi:c<=9223372036854775807):Calls Tryz.prog 95 #[Tl L cs gen pn cn pc cc,.agg ⟨[.int .i64 c,.bool ro]⟩] w λ e w'=>e=.returned (.tuple #[.int .i64 ((pD (L.map aS.c) cs c).getD 0),.bool (pD (L.map aS.c) cs c).isSome])/\St w [] [] w':=by
 refine enter Tryz.func95 Tryz.ntmps95 rfl rfl h.start ?_
 simp only[bX]
 simp only[Tl]
 refine J0 ?_;refine bL (λ x2=>?_);refine bL (λ x3=>?_);refine J8 ?_;refine nX ?_;refine J3 ?_;refine aP (cV (hc:=λ w1 hw=>Eo (h.Km hw) c hi hc)) (λ x11=>?_);refine hZ ?_;refine Dz ?_;refine aP (cV (hc:=λ w1 hw=>tT (h.Km hw) (bV cs c) (hb.cs _) hl)) (λ x14=>?_);refine aI (λ x7=>?_);refine J5 ?_;refine gM ?_;refine uB ?_
 refine bC (λ c17=>?_) (λ c17=>?_)
 ·refine gM ?_;refine J1 ?_;refine nX ?_;refine J3 ?_;refine aP (cV (hc:=λ w1 hw=>Eo (h.Km hw) (aD L (bV cs c)).nd.status (hb.status _) hc)) (λ x23=>?_);refine uB ?_
  refine bC (λ c24=>?_) (λ c24=>?_)
  ·refine dG ?_;refine J3 ?_;refine hZ ?_;refine Dz ?_;refine aP (cV (hc:=λ w1 hw=>tT (h.Km hw) _ (by exact hb.new _) hl)) (λ x29=>?_);refine cD ?_;refine kM ?_;refine aG ?_
   refine bC (λ c31=>?_) (λ c31=>?_)
   ·refine O9 ?_
    refine bB Tryz.results95 (λ w hw=>?_)
    refine⟨?_,hw.done⟩
    unfold pD yL
    simp only[iK,cL,aS.c,Nd.c]
    simp_all
    rfl
   ·refine aX ?_;refine J2 ?_;refine J8 ?_
    refine bB Tryz.results95 (λ w hw=>?_)
    refine⟨?_,hw.done⟩
    unfold pD yL
    simp only[iK,cL,aS.c,Nd.c]
    simp_all
    rfl
  ·refine kG ?_;refine Dz ?_;refine aP (cV (hc:=λ w1 hw=>tT (h.Km hw) _ (by exact hb.bD _) hl)) (λ x29=>?_);refine cD ?_;refine kM ?_;refine aG ?_
   refine bC (λ c31=>?_) (λ c31=>?_)
   ·refine O9 ?_
    refine bB Tryz.results95 (λ w hw=>?_)
    refine⟨?_,hw.done⟩
    unfold pD yL
    simp only[iK,cL,aS.c,Nd.c]
    simp_all
    rfl
   ·refine aX ?_;refine J2 ?_;refine J8 ?_
    refine bB Tryz.results95 (λ w hw=>?_)
    refine⟨?_,hw.done⟩
    unfold pD yL
    simp only[iK,cL,aS.c,Nd.c]
    simp_all
    rfl
 ·refine kG ?_;refine Dz ?_;refine aP (cV (hc:=λ w1 hw=>tT (h.Km hw) _ (by exact hb.cs _) hl)) (λ x29=>?_);refine cD ?_;refine kM ?_;refine aG ?_
  refine bC (λ c31=>?_) (λ c31=>?_)
  ·refine O9 ?_
   refine bB Tryz.results95 (λ w hw=>?_)
   refine⟨?_,hw.done⟩
   unfold pD yL
   simp only[iK,cL,aS.c,Nd.c]
   simp_all
   rfl
  ·refine aX ?_;refine J2 ?_;refine J8 ?_
   refine bB Tryz.results95 (λ w hw=>?_)
   refine⟨?_,hw.done⟩
   unfold pD yL
   simp only[iK,cL,aS.c,Nd.c]
   simp_all
   rfl
end
end

end Go.Proofs.YtbajmaoegmbfgaaGreat

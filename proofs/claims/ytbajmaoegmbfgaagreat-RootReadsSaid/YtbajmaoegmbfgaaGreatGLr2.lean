/- The laws of root: the sanity check. -/
import Derived.Test.YtbajmaoegmbfgaaGreatGRt3

set_option linter.unusedSimpArgs false
set_option linter.unusedVariables false
namespace Go.Proofs.YtbajmaoegmbfgaaGreat
section
open Go Go.RowKit Go.Ct
theorem Xf(x y:AX):mD (L4 x y) [0,3,4] 1 :=
 zV (m:=0) (B:=8) (C:=0) (E:=0) (W:=⟨XS.new (L4 x y) [0,3,4] 1 0 none 0 none 0,[⟨3,false⟩],none,0,[],none,0⟩) ⟨Us _ _ _ _ _ _ _,⟨by show 4<=8;decide,by show 3<=8;decide,by show(1:Int)<=((8:Nat):Int);decide⟩,(λ e he=>nomatch he),by show 0<1;decide,rfl,by show 1<=5;decide,Nat.le_refl _,.new⟩
section
variable{D:List Nat}{A B:Fr}{a0 a:AS}{b bt n m most:Nat}{w:World}{c:Cd}{F:Fr}{p:Tr×Mm}
theorem Xz(hp:pZ b p a0 B (c,F,a))(ha:eW p.1=true)(ht:bY p.1 m 64)(hmm:most<=m)(hm:p.2.nodes.length+64*most<=137438953472/\p.2.cs.length+64*most<=137438953472)(hn:n+most<1000000000)(hA:∀f∈aR a.L,f∈A)(hB:∀x∈F++B,x∈A)(hs:SF w D [(bt,tO b c n),(b,fM a)] A [] (fX a) w) :
  Calls Tryz.prog 30 #[.pointer (some ⟨bt,0,none⟩),.int .i64 ((most:Nat):Int)] w λ e w'=>∃y:Cd×Fr×AS,e=.returned (.int .i64 ((Ae p most:Nat):Int))/\xh b (wW p most) a (F++B) y/\SF w D [(bt,tO b y.1 (n+Ae p most)),(b,fM y.2.2)] [] y.2.1 (fX y.2.2) w':=by
 obtain⟨⟨h1,h2⟩,h3,h4⟩:=hp
 simp only at h1 h2 h3
 have e:(p.1,a.mm)=p:=by rw[h2]
 have:=dp (b:=b) (bt:=bt) (n:=n) (D:=D) (A:=A) (B:=F++B) (w:=w) (most:=most) ht hmm ha (a:=a) (c:=c) (by rw[h2];exact h1) h3 (by rw[h2];exact hm) hn hA hB hs
 rw[e] at this
 exact this
end
def Xw:Nd:={Nd.zero with kind:=2,gen:=1}
def Pw:Mm:=y7.push (Xw.c [] []) 3
def U4:Tr:=oI ⟨3,false⟩ 4 3 5 λ ok=>.done (lV 0 ok)
theorem Ah:bY U4 20 64:=by
 have h:U4=kZ ⟨4,⟨3,false⟩,4,3,5,0,0,0,⟨#[]⟩,0,0,0,false⟩ 0 21:=by
  unfold U4 kZ
  rfl
 rw[h]
 exact Jq (by decide)
theorem ta:wW (Ct.jP U4 Pw) 9=(.done (lV 0 true),(wW (Ct.jP U4 Pw) 9).2)/\Ae (Ct.jP U4 Pw) 9=6/\dA (wW (Ct.jP U4 Pw) 9).2.cs 3=5:=⟨rfl,rfl,rfl⟩
theorem vg:(Ct.jP U4 Pw).2.nodes.length=6/\(Ct.jP U4 Pw).2.cs.length=5:=⟨rfl,rfl⟩
theorem lx{D:List Nat}{A B F:Fr}{a0 a:AS}{b bt:Nat}{c:Cd}{w:World}(hp:pZ b (Ct.jP U4 Pw) a0 B (c,F,a))(hA:∀f∈aR a.L,f∈A)(hB:∀x∈F++B,x∈A)(hs:SF w D [(bt,tO b c 0),(b,fM a)] A [] (fX a) w) :
  Calls Tryz.prog 30 #[.pointer (some ⟨bt,0,none⟩),.int .i64 9] w λ e w'=>∃y:Fr×AS,e=.returned (.int .i64 6)/\(dA y.2.cs 3=5/\y.2.cs.length<=1000)/\SF w D [(bt,tO b (yT (lV 0 true)) 6),(b,fM y.2)] [] y.1 (fX y.2) w':=by
 obtain⟨e1,e2,e3⟩:=ta
 obtain⟨g1,g2⟩:=vg
 refine(Xz (n:=0) (m:=20) (most:=9) hp (nX Pw Ah) (nU Pw Ah 64) (by decide) ⟨by omega,by omega⟩ (by decide) hA hB hs).mono λ e w' ⟨y,h1,h2,hw⟩=>?_
 have h3:=h2.rp
 rw[e1] at h3
 obtain⟨_,h4⟩:=h3
 have h5:y.2.2.cs=(wW (Ct.jP U4 Pw) 9).2.cs:=congrArg Mm.cs h2.mm
 obtain⟨_,_,_,h6⟩:=Gs (nU Pw Ah 64) (nX Pw Ah) 9 (by decide) (s:=(Ct.jP U4 Pw).2)
 rw[e2,h4] at hw
 refine⟨(y.2.1,y.2.2),by rw[h1,e2];rfl,⟨by show dA y.2.2.cs 3=5;rw[h5];exact e3,?_⟩,hw⟩
 show y.2.2.cs.length<=1000
 rw[h5]
 have:(wW (Ct.jP U4 Pw) 9).2.cs.length<=(Ct.jP U4 Pw).2.cs.length+64*9:=h6
 omega
set_option maxRecDepth 100000 in
set_option maxHeartbeats 1000000 in
theorem W8(w:World):Calls Tryz.prog 45 #[] w λ e w'=>e=.returned (.bool true)/\St w [] [] w':=by
  refine enter Tryz.func45 Tryz.ntmps45 rfl rfl (SF.s0 w) ?_
  simp only[cN]
  all_goals (refine dC ?_;refine J0 ?_;refine aC (P8 (Fc:=λ _=>[]) (hc:=λ w1 hw=>bc w1)) (λ x7 h7=>?_);refine J1 ?_;refine J2 ?_;refine aC (cM (hc:=λ w hs=>Pn hs)) (λ x9 h9=>?_);refine aJ (λ x2=>?_);refine J5 ?_;refine Bt ?_;refine aB (aL (k:=3) rf bQ cD (by simp only[List.drop_zero,List.take_succ_cons,List.take_zero];exact rfl) rfl) rfl ?_;refine aC (P8 (V:=λ x:Nat×List aX×(Option Addr×Nat)×(Option Addr×Nat)=>.tuple #[.pointer (some ⟨x.1,0,none⟩),.int .i64 0]) (Hc:=λ x=>[(x.1,aO x.2.1 [0,3,4] 1 0 x.2.2.1.1 x.2.2.1.2 x.2.2.2.1 x.2.2.2.2)]) (Fc:=λ x=>aR x.2.1) (Oc:=λ x=>mW x.2.1 [0,3,4] x.2.2.1.1 x.2.2.1.2 x.2.2.2.1 x.2.2.2.2) (hc:=λ w1 hw=>bg (L:=L4 x9.1 x9.2.1) (cs:=[0,3,4]) (hw.Pp (.inr (.inr (.inr ⟨_,.head _,rfl,rfl⟩))) (.inr (.inr (.inr ⟨_,.tail _ (.head _),rfl,rfl⟩))) (λ f hf=>.inl (cq f hf)) (Us x9.1 x9.2.1 0 none 0 none 0).fit) (by show 4<=_;decide) (by decide) (hw.wh .head) (Xf _ _))) (λ x15 h15=>?_))
  all_goals
   obtain⟨a0,ha0⟩:∃a:AS,a=⟨x15.2.1,[0,3,4],1,0,x15.2.2.1.1,x15.2.2.1.2,x15.2.2.2.1,x15.2.2.2.2⟩:=⟨_,rfl⟩
   have hmm:a0.mm=y7:=by rw[ha0];show Mm.mk ((dG x15.2.1).map aX.c) [0,3,4] 1=y7;rw[h15.1];rfl
   have hok:a0.Ok:=⟨by rw[ha0];exact h15.2,by rw[hmm];exact(Us x9.1 x9.2.1 0 none 0 none 0).mo⟩
   have hsm:a0.mm.Small:=by rw[hmm];exact⟨by decide,by decide⟩
   have hoA:∀x:AX,(a0.al Xw [] [] 3 x).Ok:=λ x=>hok.al x (by simp) (by simp) ⟨bM _,bM _,bM _,(λ r hr=>nomatch hr),bM _,bM _,bM _,⟨0,rfl,by decide⟩,⟨0,rfl,by decide⟩⟩ (by rw[hmm];decide)
   have hmA:∀x:AX,(a0.al Xw [] [] 3 x).mm=Pw:=λ x=>by rw[qN,hmm];rfl
  all_goals (refine No ?_;refine J8 ?_;refine lW ?_;refine uS ?_)
  all_goals
   refine bG (λ c19=>?_) (λ c19=>?_)
   · all_goals try (first|contradiction|(exfalso;omega))
     all_goals
      cases c19
     all_goals refine dC ?_
     all_goals
      refine aU Tryz.results45 (λ w hw=>?_)
      exact⟨rfl,hw.done⟩
   · all_goals try (first|contradiction|(exfalso;omega))
     all_goals (refine bD ?_;refine J2 ?_;refine bO ?_;refine aC (cM (V:=λ _:AX=>.int .i64 5) (hs:=[(x15.1,fM a0)]) (os:=fX a0) (A0:=[(none,aG []),(none,dW [])]) (hs':=λ x=>[(x15.1,fM (a0.al Xw [] [] 3 x))]) (os':=λ x=>fX (a0.al Xw [] [] 3 x)) (Fc:=λ x=>(gI Xw [] [] a0.cs.length x).fr) (hH:=by rw[ha0];exact .cons .head .nil) (hO:=by rw[ha0];exact .cons .head (.cons .head .nil)) (hc:=λ w1 hw=>by have:=vF (n:=Xw) (xs:=[]) (ys:=[]) hok hsm 3 rfl rfl (by simp) (by simp) (λ f hf=>hf) hw;rw[hmm] at this;exact this)) (λ x22 h22=>?_);refine J1 ?_;refine J2 ?_;refine aB (qk rf (λ w=>Jj _ w)) rfl ?_;refine bX ?_;refine aA ?_;refine aC (vy (V:=λ x:Nat×Cd×Fr×AS=>.pointer (some ⟨x.1,0,none⟩)) (hs:=[(x15.1,fM (a0.al Xw [] [] 3 x22))]) (os:=fX (a0.al Xw [] [] 3 x22)) (hs':=λ x=>[(x15.1,fM x.2.2.2)]) (Hc:=λ x=>[(x.1,tO x15.1 x.2.1 0)]) (os':=λ x=>fX x.2.2.2) (Oc:=λ _=>[]) (Fc:=λ x=>x.2.2.1) (A0:=aR (a0.al Xw [] [] 3 x22).L) (hA:=bB.of λ f hf=>((AS.iQ.al a0 Xw [] [] 3 x22).fam f hf).imp_right λ h=>.inr (.inl (h.elim (λ h=>List.mem_append_right _ (by rw[ha0] at h;exact List.mem_append_left _ h)) λ h=>List.mem_append_left _ h))) (hc:=λ w1 hw=>by have:=Ug (cf (t:=⟨3,false⟩) (bF:=4) (exp:=3) (nw:=5) (B:=[]) (n:=20) (m:=64) (by decide) (by rw[hmA];decide) (by rw[hmA];decide) (by rw[hmA];decide) Ah (hoA x22) (by rw[hmA];exact⟨by decide,by decide⟩) (λ f hf=>hf) (λ x hx=>nomatch hx) hw);rw[hmA] at this;exact this)) (λ x27 h27=>?_);refine J1 ?_;refine J2 ?_;refine pP ?_;refine aA ?_)
     all_goals ((refine aF ?_;refine aA ?_))
     all_goals (((refine aF ?_;refine aC (cM (V:=λ y:Fr×AS=>.int .i64 6) (hs:=[(x27.1,tO x15.1 x27.2.1 0),(x15.1,fM x27.2.2.2)]) (os:=fX x27.2.2.2) (hs':=λ y=>[(x27.1,tO x15.1 (yT (lV 0 true)) 6),(x15.1,fM y.2)]) (os':=λ y=>fX y.2) (Fc:=λ y=>y.1) (A0:=aR x27.2.2.2.L++(x27.2.2.1++[])) (hA:=bB.of λ f hf=>(List.mem_append.1 hf).elim (λ h=>(h27.1.2.2.fam f h).elim .inl λ h=>h.elim (λ h=>((AS.iQ.al a0 Xw [] [] 3 x22).fam f h).imp_right λ h=>.inr (.inl (h.elim (λ h=>List.mem_append_right _ (List.mem_append_right _ (by rw[ha0] at h;exact List.mem_append_left _ h))) λ h=>List.mem_append_right _ (List.mem_append_left _ h)))) λ h=>.inr (.inr (.inl (List.mem_append_left _ h)))) λ h=>.inr (.inr (.inl (List.mem_append_left _ (by simpa using h))))) (hc:=λ w1 hw=>lx h27.1 (λ f hf=>List.mem_append_left _ hf) (λ f hf=>List.mem_append_right _ hf) hw)) (λ x32 h32=>?_)));refine zM ?_;refine aA ?_)
     all_goals ((refine aF ?_;refine aA ?_))
     all_goals (((refine aF ?_;refine aY (cV (hc:=λ w1 hw=>zD (r:=lV 0 true) (d:=true) rfl (if_pos rfl) (hw.st.at bQ))) (λ x37=>?_)));((refine aF ?_;refine dF ?_));refine cX ?_;refine aA ?_)
     all_goals ((refine aF ?_;refine aA ?_))
     all_goals (refine J6 ?_;((refine aF ?_;refine aC (cM (V:=λ _:Unit=>.int .i64 5) (hs:=[(x15.1,fM x32.2)]) (os:=fX x32.2) (hs':=λ _=>[(x15.1,fM {x32.2 with acc:=up x32.2.acc})]) (os':=λ _=>fX x32.2) (Fc:=λ _=>[]) (hc:=λ w1 hw=>by rw[<- h32.1];exact S3 hw 3 (by decide) (by omega))) (λ x44 h44=>?_)));((refine aF ?_;refine aA ?_));refine zM ?_;refine J1 ?_)
     all_goals
      refine aU Tryz.results45 (λ w hw=>?_)
      exact⟨rfl,hw.done⟩
end

/- RootReads: the walk. -/
section
open Go Go.RowKit Go.Ct
def kT(kind:Int)(t:gY):Cl:=⟨kind,t,0,0,0,0,0,0,⟨#[]⟩,0,0,0,false⟩
theorem qn{kind:Int}{t:gY}(h1:1<=kind)(h2:kind<=4):Xo (kT kind t):=.inl ⟨h1,h2⟩
abbrev exL(x:XS):List Ow:=[⟨x.pg,aG x.got,x.kg,37,1⟩,⟨x.pm,aG x.made,x.km,37,1⟩,⟨x.pl,aG x.cel,x.kl,27,1⟩,⟨x.pe,aG x.gns,x.ke,3,1⟩]
theorem u9{w0 w:World}{M:List Nat}{H:List (Nat×Obj)}{A F:Fr}{O:List Ow}{ba bm:Nat}{a:AS}{p:PX}{B:Fr}(h:SF w0 M H A F O w)(hH:[(p.tb,tO ba p.c p.n),(p.e.b,xO p.e.k bm p.e.x p.e.dn p.e.rs),(ba,fM a),(bm,xM p.e.x)].Sublist H)(hO:(exL p.e.x++(fX a++Et p.e.x)).Sublist O):SF w0 M (rH ba bm ⟨a,p.e.x,[p],B⟩) A F (tC ⟨a,p.e.x,[p],B⟩) w :=
 (h.sub hH aV.all hO).perm (List.perm_append_comm (l₁:=[(ba,fM a),(bm,xM p.e.x)]) (l₂:=[(p.tb,tO ba p.c p.n),(p.e.b,xO p.e.k bm p.e.x p.e.dn p.e.rs)])) (List.perm_append_comm (l₁:=fX a++Et p.e.x) (l₂:=exL p.e.x))
set_option maxRecDepth 100000 in
set_option maxHeartbeats 2000000 in
theorem M8{l l2:List Int}{a a2:Option Addr}{c c2:Nat}{w:World}(h1:Go.Ct.Cl w a (aG l))(hl:l.length<=17592186043904)(h2:Go.Ct.Cl w a2 (aG l2))(hl2:l2.length<=17592186043904) :
    Calls Tryz.prog 13 #[.slice a l.length c,.slice a2 l2.length c2] w λ e w'=>e=.returned (.bool true)/\St w [] [] w':=by
  refine enter Tryz.func13 Tryz.ntmps13 rfl rfl (SF.s2 h1 h2) ?_
  simp only[cN]
  all_goals (refine dC ?_;refine jN ?_;refine aC (P8 (V:=λ q:TQ=>.tuple #[.pointer (some ⟨q.bw,0,none⟩),.pointer (some ⟨q.ba,0,none⟩),.agg ⟨[.int .i64 q.t.root,.bool q.t.ro]⟩,.pointer (some ⟨q.tp,0,none⟩)]) (Hc:=λ q=>tqH l2 a2 c2 q) (Fc:=λ q=>aR q.a.L++aR q.W.z.L) (Oc:=λ q=>tqO q) (hc:=λ w1 hw=>im (hw.cl (.bF .head)) hl (hw.cl (.bF (.tail .head))) hl2)) (λ x13 h13=>?_))
  all_goals
   have hW:=h13.W
   have hrt:=h13.root
   obtain⟨s1,s2,s3⟩:=hW.sz
  all_goals (refine No ?_;refine J54 ?_;refine aJ (λ x7=>?_);refine oX (λ _=>?_);refine oX (λ _=>?_);refine jD (λ _=>?_);refine jM ?_;refine J2 ?_;refine uS ?_)
  all_goals
   refine bG (λ c19=>?_) (λ c19=>?_)
   · all_goals try (first|contradiction|(exfalso;omega))
     all_goals
      cases c19
     all_goals refine dC ?_
     all_goals
      refine aU Tryz.results13 (λ w hw=>?_)
      exact⟨rfl,hw.done⟩
   · all_goals try (first|contradiction|(exfalso;omega))
     all_goals (refine lG ?_;refine fL [0,1,2,3,4,5,6,7] ?_;refine Yj ?_;refine bR ?_;refine iK ?_;refine bA (i:=6) (hq:=(vy (V:=λ q:Nat×XS×List aX×Bool×Rs=>.pointer (some ⟨q.1,0,none⟩)) (hs:=[(x13.bm,xM x13.W.z.a0)]) (os:=Et x13.W.z) (hs':=λ q=>[(x13.bm,xM q.2.1)]) (Hc:=λ q=>[(q.1,xO (kT 3 x13.t) x13.bm q.2.1 q.2.2.2.1 q.2.2.2.2)]) (os':=λ q=>Et q.2.1) (Oc:=λ q=>exL q.2.1) (Fc:=λ q=>aR q.2.2.1) (A0:=aR x13.W.z.L) (hA:=bB.of λ f hf=>.inr (.inr (.inl (by simp[hf])))) (hc:=λ w1 hw=>M5 (k:=kT 3 x13.t) (m:=0) (L:=x13.W.z.L) (cs:=x13.W.z.cs) (gen:=x13.W.z.gen) (acc:=0) ⟨by omega,by omega,by omega⟩ (qn (by decide) (by decide)) (by decide) rfl hrt (bM _) (bM _) (bM _) (λ f hf=>hf) (Tu (rl hW.z)) hw))) (h:=λ x26 h26=>?_);refine J7 ?_;refine aW ?_;refine dX [(0,[]),(1,[]),(2,[]),(3,[]),(4,[]),(5,[]),(6,[]),(7,[]),(8,[]),(9,[]),(11,[]),(10,[6]),(12,[]),(13,[6]),(14,[]),(15,[]),(16,[])] ?_;refine cL (i:=0) (hq:=(cV (hc:=λ w1 hw=>W8 w1))) (h:=λ x27=>?_);refine aQ ?_)
     all_goals ((refine aQ ?_))
     all_goals (((refine aQ ?_));refine xb ?_;((refine cH (i:=8) (hq:=(qk rf (λ w=>Jj _ w))) (h:=?_)));((refine bR ?_));((refine aQ ?_));((refine bA (i:=10) (hq:=(vy (V:=λ x:Nat×Cd×Fr×AS=>.pointer (some ⟨x.1,0,none⟩)) (hs:=[(x13.ba,fM x13.a)]) (os:=fX x13.a) (hs':=λ x=>[(x13.ba,fM x.2.2.2)]) (Hc:=λ x=>[(x.1,tO x13.ba x.2.1 0)]) (os':=λ x=>fX x.2.2.2) (Oc:=λ _=>[]) (Fc:=λ x=>x.2.2.1) (A0:=aR x13.a.L) (hA:=bB.of λ f hf=>.inr (.inr (.inl (by simp[hf])))) (hc:=λ w1 hw=>Ug (df (B:=[]) (n:=0) (m:=64) hrt (mN (kT 3 x13.t) 0 (by decide)) h13.a h13.sm (λ f hf=>hf) (λ x hx=>nomatch hx) hw)))) (h:=λ x37 h37=>?_))))
     all_goals
      obtain⟨R,hL,_,_⟩:=H4.add (bx:=x26.1) (tb:=x37.1) h13.lok h26 h37.1 (qn (by decide) (by decide)) (by decide) rfl hrt (bM _) (bM _) (bM _)
      have hfa:=h37.1.2.2.fam
      have hfz:∀f∈aR x26.2.1.L,f∈aR x26.2.2.1∨f∈aR x13.W.z.L:=λ f hf=>by
       rw[h26.ext,eI] at hf
       exact(List.mem_append.1 hf).symm
     all_goals (((refine iK ?_));((refine cL (i:=13) (hq:=((by exact Ib (λ _=>cZ (cs:=Dd [(x37.1,x26.1)]) Ql It rfl rfl rfl rfl rfl)))) (h:=λ x40=>?_)));((((refine cL (i:=14) (hq:=(aM.pre (λ w h=>u9 (ba:=x13.ba) (bm:=x13.bm) (a:=x37.2.2.2) (p:=⟨⟨x26.1,kT 3 x13.t,x26.2.1,x26.2.2.2.1,x26.2.2.2.2,R⟩,0,x37.1,x37.2.1,0⟩) (B:=x37.2.2.1++[]) h (by repeat (first|exact List.nil_sublist _|exact List.Sublist.refl _|apply List.Sublist.cons_cons|apply List.Sublist.cons)) (by repeat (first|exact List.nil_sublist _|exact List.Sublist.refl _|apply List.Sublist.cons_cons|apply List.Sublist.cons))) (cT 0 0 (V:=λ _:LY=>.bool true) (hs:=rH x13.ba x13.bm ⟨x37.2.2.2,x26.2.1,[⟨⟨x26.1,kT 3 x13.t,x26.2.1,x26.2.2.2.1,x26.2.2.2.2,R⟩,0,x37.1,x37.2.1,0⟩],x37.2.2.1++[]⟩) (os:=tC ⟨x37.2.2.2,x26.2.1,[⟨⟨x26.1,kT 3 x13.t,x26.2.1,x26.2.2.2.1,x26.2.2.2.2,R⟩,0,x37.1,x37.2.1,0⟩],x37.2.2.1++[]⟩) (A0:=(some ⟨x40,0,none⟩,Dd [(x37.1,x26.1)])::(none,aG [])::(x37.2.2.1++(aR x13.a.L++(aR x26.2.2.1++aR x13.W.z.L)))) (hs':=λ y=>rH x13.ba x13.bm y.S) (os':=λ y=>tC y.S) (Fc:=λ y=>y.G) (F1:=λ y=>y.G) (hA:=bB.of λ f hf=>by simp only[List.mem_cons,List.mem_append] at hf;rcases hf with h|h|h|h|h|h;exact .inr (.inr (.inl (by simp[h])));exact .inl (by rw[h];rfl);exact .inr (.inr (.inl (by simp[h])));exact .inr (.inr (.inl (by simp[h])));exact .inr (.inr (.inl (by simp[h])));exact .inr (.inr (.inl (by simp[h])))) (hF1:=λ y _ f hf=>.inr (List.mem_append_left _ hf)) (hc:=λ w1 hw=>r9 (l:=[]) (a:=none) (c:=0) (ps:=[(x37.1,x26.1)]) rfl hL (by decide) (by decide) (by show 0<1;decide) (by show 1<=1000;decide) (by show 1<=1;decide) (by show 0<=_;decide) (λ f hf=>(hfa f hf).imp_right λ h=>by simp only[List.mem_cons,List.mem_append];exact h.elim (λ h=>.inr (.inr (.inr (.inl h)))) λ h=>.inr (.inr (.inl h))) (λ f hf=>.inr (by simp only[List.mem_cons,List.mem_append];exact(hfz f hf).elim (λ h=>.inr (.inr (.inr (.inr (.inl h))))) λ h=>.inr (.inr (.inr (.inr (.inr h)))))) (λ f hf=>by simp only[List.mem_cons,List.mem_append];exact .inr (.inr (.inl (by simpa using hf)))) (List.mem_cons_self ..) (List.mem_cons_of_mem _ (List.mem_cons_self ..)) hw)))) (h:=λ x41=>?_);try (refine cW (λ h41=>?_))))));refine fK ?_;refine J7 ?_)
     all_goals
      refine aU Tryz.results13 (λ w hw=>?_)
      exact⟨rfl,hw.done⟩
end

end Go.Proofs.YtbajmaoegmbfgaaGreat

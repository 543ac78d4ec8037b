/- Merged. -/
import Derived.Test.YtdeecdfockjoiaaGreatDoorGShort
import Derived.Test.YtdeecdfockjoiaaGreatDoorAuto
import Derived.Test.YtdeecdfockjoiaaGreatDoorGLst2
import Derived.Test.YtdeecdfockjoiaaGreatDoorGNode1
set_option linter.unusedSimpArgs false
set_option linter.unusedVariables false
namespace Go.Proofs.YtdeecdfockjoiaaGreatDoor
open Go.Proofs.Tryz
open Go.RowKit Go.Ct
section
variable{a p1 p2:Option Addr}{ca m1 m2 c1 c2:Nat}{w:World}{l1 l2 l:List Int}
theorem Pu{L:List Sl}(b:Nat)(ha:Cl w a (xr L))(hl:∀q∈L,Cl w q.1 (aT q.2.1))(h3:L.length<=3)(hB:∀q∈L,q.2.1.length<=1000) :
  Calls prog 277 #[.int .u64 (b:Int),.slice a L.length ca] w λ e w'=>∃x:Option Addr×Nat,e=.returned (cn b (Ek L) x).v/\(Ek L).length<=x.2/\SF w [] [] [] [(x.1,aT (Ek L))] [] w':=by refine enter func277 ntmps277 rfl rfl (SF.s0 w) ?_;simp only[cN];refine K2f ?_;intro x4;refine Ke2 ?_;refine aI (aj (Hc:=λ _=>[]) (Fc:=λ _=>[]) (hc:=λ w1 hw=>dm (L:=L) (ha.jR hw.done) (λ q hq=>(hl q hq).jR hw.done) h3 hB)) (λ x7 h7=>?_);refine Sv ?_;refine bF results277 (λ w hw=>?_);exact⟨x7,rfl,h7,SF.frz hw.fS⟩
theorem Qy{p3:Option Addr}{l3:List Int}{m3 c3:Nat}(b:Nat)(ha:Cl w a [.slice p1 m1 c1,.slice p2 m2 c2,.slice p3 m3 c3])(h1:Cl w p1 (aT l1))(h2:Cl w p2 (aT l2))(h3:Cl w p3 (aT l3))(e1:l1.length=m1)(e2:l2.length=m2)(e3:l3.length=m3)(b1:m1<=1000)(b2:m2<=1000)(b3:m3<=1000)(hl:l1++(l2++l3)=l) :
  Calls prog 277 #[.int .u64 (b:Int),.slice a 3 ca] w λ e w'=>∃x:Option Addr×Nat,e=.returned (cn b l x).v/\l.length<=x.2/\SF w [] [] [] [(x.1,aT l)] [] w':=by subst e1 e2 e3 hl;have:=Pu (L:=[(p1,l1,c1),(p2,l2,c2),(p3,l3,c3)]) (a:=a) (ca:=ca) (w:=w) b ha (by simp[h1,h2,h3]) (by simp) (by simp;omega);simpa[Ek] using this
theorem dj(b:Nat)(ha:Cl w a [.slice p1 m1 c1,.slice p2 m2 c2])(h1:Cl w p1 (aT l1))(h2:Cl w p2 (aT l2))(e1:l1.length=m1)(e2:l2.length=m2)(b1:m1<=1000)(b2:m2<=1000)(hl:l1++l2=l) :
  Calls prog 277 #[.int .u64 (b:Int),.slice a 2 ca] w λ e w'=>∃x:Option Addr×Nat,e=.returned (cn b l x).v/\l.length<=x.2/\SF w [] [] [] [(x.1,aT l)] [] w':=by subst e1 e2 hl;have:=Pu (L:=[(p1,l1,c1),(p2,l2,c2)]) (a:=a) (ca:=ca) (w:=w) b ha (by simp[h1,h2]) (by simp) (by simp;omega);simpa[Ek] using this
def O0(n:Nd)(xs:List Int)(ys:List Pr)(b:Nat)(i r:Int):Option (Nat×List Int):=if CV n xs ys/\(0<=i/\i<64)/\1<=r/\sQ b i=false then some (eI b i,tW xs (iD b i) r) else none
def Cy(n:Nd)(xs:List Int)(ys:List Pr)(b:Nat)(i r:Int):Option (Nat×List Int):=if CV n xs ys/\1<=r/\sQ b i=true then some (b,Ds xs (iD b i) r) else none
def R4(n:Nd)(xs:List Int)(ys:List Pr)(b:Nat)(i:Int):Option (Nat×List Int):=if CV n xs ys/\sQ b i=true then some (kG b i,D3 xs (iD b i)) else none
def lI(o:Option (Nat×List Int))(x:Option Addr×Nat):Nd:=match o with|some q=>cn q.1 q.2 x|none=>Nd.zero
def gY(o:Option (Nat×List Int)):List Int:=match o with|some q=>q.2|none=>[]
def aBM(w:World)(o:Option (Nat×List Int))(e:Ending)(w':World):Prop:=∃x:Option Addr×Nat,e=.returned (.tuple #[(lI o x).v,.bool o.isSome])/\(gY o).length<=x.2/\SF w [] [] [] [(x.1,aT (gY o))] [] w'
theorem p9{b:Nat}{xs:List Int}(h:BV b xs)(i:Int):iD b i<=xs.length:=by rw[h.len];unfold iD;obtain⟨d,hd⟩:=Nat.exists_eq_add_of_le (Nat.min_le_right i.toNat 64);have:=vS b (min i.toNat 64) d;rw[<- hd] at this;exact this
section
variable{n:Nd}{xs:List Int}{ys:List Pr}{w:World}{b:Nat}
theorem tI(i:Int)(hr:Cp w n xs ys):Calls prog 276 #[n.v,.int .i64 i] w λ e w'=>∃r:Bool,e=.returned (.bool r)/\(r=true↔CV n xs ys/\(0<=i/\i<64))/\St w [] [] w':=by
 refine enter func276 ntmps276 rfl rfl (SF.s0 w) ?_;simp only[cN];simp only[Nd.v,Nd.cells];refine J0 ?_;refine bC (λ x2=>?_);refine J1 ?_;refine oT ?_;refine aI (c0 (V:=.bool) (hc:=λ w1 hw=>Ja (n:=n) (hr.jR hw.done))) (λ x6 h6=>?_);refine aB ?_;(refine mN 7 (λ g7=>?_) (λ g7=>?_)<;>refine Ka3 ?_);all_goals ((first|refine aZ ?_|(refine aF ?_;refine iF ?_));refine Kb3 ?_)
 all_goals (first|refine aZ ?_|(refine mN 11 (λ g11=>?_) (λ g11=>?_)<;>refine Ka3 ?_))
 all_goals (refine Cn ?_;refine J1 ?_)
 all_goals
 refine bJ results276 (λ w hw=>?_);refine⟨_,rfl,?_,hw.done⟩;first|(simp_all;done)|(simp_all;omega)
theorem Iy(i r:Int)(hb:n.bm=(b:Int))(hb2:b<18446744073709551616)(hr:Cp w n xs ys)(hc:xs.length<=n.brC)(hx:xs.length<=1000):Calls prog 286 #[n.v,.int .i64 i,.int .i64 r] w (aBM w (O0 n xs ys b i r)):=by
 have e1:=hr.brN;refine enter func286 ntmps286 rfl rfl (SF.s2 hr.br hr.pr) ?_;simp only[cN]
 simp only[Nd.v,Nd.cells,hb,e1];refine K3f ?_;intro x3;refine aJ (λ x6=>?_);refine lX ?_;refine vp ?_;refine aI (c0 (V:=.bool) (hc:=λ w1 hw=>by rw[<- e1,<- hb];exact tI i (n:=n) (hr.jR hw.done))) (λ x12 h12=>?_);refine Ti ?_;(refine mN 14 (λ g14=>?_) (λ g14=>?_)<;>refine Ka3 ?_);all_goals (refine Kb8 ?_)
 all_goals (first|refine aZ ?_|(refine mN 18 (λ g18=>?_) (λ g18=>?_)<;>refine Ka5 ?_))
 all_goals (refine um ?_;(first|refine aZ ?_|(refine aF ?_;refine aH (cV (hc:=λ w1 hw=>W8 hb2 i w1)) (λ x22=>?_)));refine Kb1 ?_)
 all_goals
 refine aX (λ c23=>?_) (λ c23=>?_)
 ·all_goals (refine Ke0 ?_;refine Px ?_)
  all_goals refine bF results286 (λ w hw=>?_);rw[show O0 n xs ys b i r=none from if_neg (by rintro ⟨k1,k2,k3,k4⟩;have h:=h12.2 ⟨k1,k2⟩;clear hw;first|omega|(simp_all;done))];exact⟨(none,0),rfl,Nat.le_refl _,(hw.M7 none).fin⟩
 ·try exact nv c23
  all_goals have hcv:=h12.1 (by simpa using g14);have hbv:=hcv.1.bv hb hb2;have hpl:=p9 hbv i;refine rE (λ w hw=>(hw.m9 (k:=iD b i) fin).me (k:=iD b i) (c:=n.brC) fin hc) ?_
  all_goals (refine bG ?_;refine Ke5 ?_;refine aH (cV (hc:=λ w1 hw=>Xp hb2 i w1)) (λ x28=>?_);refine J1 ?_;refine Ke5 ?_;refine aH (cV (hc:=λ w1 hw=>aAK hb2 i w1)) (λ x32=>?_);refine lX ?_;refine eO [(0,[]),(1,[]),(2,[]),(3,[]),(4,[]),(5,[]),(7,[]),(8,[]),(9,[]),(10,[]),(6,[2,8]),(11,[]),(12,[]),(13,[]),(14,[])] ?_;refine aP ?_;refine hY ?_;refine aP ?_;refine cD (i:=4) (hq:=(rV rf rf dP (by exact C3 rfl) (by omega))) (h:=?_);refine aP ?_;refine hY ?_;refine aP ?_;refine cD (i:=10) (hq:=(Mz rf rf dP (by exact kY rfl) (by omega) (by omega))) (h:=?_);refine kB (h:=λ x39=>?_);refine bR (i:=11) (hq:=(gG λ _=>aU (Hs rfl) nK rf rf rf rf E0z)) (h:=λ x44=>?_);refine bE (i:=12) (hq:=(cF (hc:=λ w1 hw=>Qy (l:=tW xs (iD b i) r) (eI b i) (hw.cl fin) (hw.cl fin) (l2:=[r]) (show Cl w1 (some ⟨x39,0,none⟩) (aT [r]) from hw.cl fin) (hw.cl fin) E0p rfl (by rw[List.length_drop]) (by omega) (show 1<=1000 by decide) (by omega) rfl))) (h:=λ x45 h45=>?_);refine S9 ?_)
  all_goals refine bF results286 (λ w hw=>?_);rw[show O0 n xs ys b i r=some (eI b i,tW xs (iD b i) r) from if_pos ⟨hcv.1,hcv.2,by omega,c23⟩];exact⟨x45,rfl,h45,hw.fin⟩
theorem pN(i r:Int)(hb:n.bm=(b:Int))(hb2:b<18446744073709551616)(hr:Cp w n xs ys)(hc:xs.length<=n.brC)(hx:xs.length<=1000):Calls prog 246 #[n.v,.int .i64 i,.int .i64 r] w (aBM w (Cy n xs ys b i r)):=by
 have e1:=hr.brN;refine enter func246 ntmps246 rfl rfl (SF.s2 hr.br hr.pr) ?_;simp only[cN]
 simp only[Nd.v,Nd.cells,hb,e1];refine K3f ?_;intro x3;refine aJ (λ x6=>?_);refine lX ?_;refine vp ?_;refine aI (c0 (V:=.bool) (hc:=λ w1 hw=>by rw[<- e1,<- hb];exact tI i (n:=n) (hr.jR hw.done))) (λ x11 h11=>?_);refine Ti ?_;(refine mN 13 (λ g13=>?_) (λ g13=>?_)<;>refine Ka3 ?_);all_goals (refine Kb8 ?_)
 all_goals (first|refine aZ ?_|(refine mN 17 (λ g17=>?_) (λ g17=>?_)<;>refine Ka5 ?_))
 all_goals (refine um ?_;(first|refine aZ ?_|(refine aF ?_;refine aH (cV (hc:=λ w1 hw=>W8 hb2 i w1)) (λ x21=>?_)));refine Ke4 ?_)
 all_goals
 refine aX (λ c23=>?_) (λ c23=>?_)
 ·all_goals (refine Ke0 ?_;refine Px ?_)
  all_goals refine bF results246 (λ w hw=>?_);rw[show Cy n xs ys b i r=none from if_neg (by rintro ⟨k1,k3,k4⟩;have h:=h11.2 ⟨k1,(nR k4).1,(nR k4).2.1⟩;clear hw;first|omega|(simp_all;done))];exact⟨(none,0),rfl,Nat.le_refl _,(hw.M7 none).fin⟩
 ·try exact nv c23
  all_goals have hcv:=h11.1 (by simpa using g13);have hbv:=hcv.1.bv hb hb2;have hpl:=l8 hbv c23;refine rE (λ w hw=>(hw.m9 (k:=iD b i) fin).me (k:=iD b i+1) (c:=n.brC) fin hc) ?_
  all_goals (refine bG ?_;refine Ke5 ?_;refine aH (cV (hc:=λ w1 hw=>Xp hb2 i w1)) (λ x28=>?_);refine lX ?_;refine eO [(0,[]),(1,[]),(2,[]),(3,[]),(4,[]),(5,[]),(6,[]),(8,[]),(9,[]),(10,[]),(11,[]),(12,[]),(7,[1,3,9]),(13,[1]),(14,[]),(15,[]),(16,[])] ?_;refine Kc6 ?_;refine aP ?_;refine cD (i:=5) (hq:=(rV rf rf dP (by exact C3 rfl) (by omega))) (h:=?_);refine aP ?_;refine hY ?_;refine aP ?_;refine Lb ?_;refine cD (i:=12) (hq:=(Mz (k:=iD b i+1) rf rf dP (by exact kY rfl) (by omega) (by omega))) (h:=?_);refine kB (h:=λ x36=>?_);refine bR (i:=13) (hq:=(gG λ _=>aU (Hs rfl) nK rf rf rf rf E0z)) (h:=λ x42=>?_);refine bE (i:=14) (hq:=(cF (hc:=λ w1 hw=>Qy (l:=Ds xs (iD b i) r) b (hw.cl fin) (hw.cl fin) (l2:=[r]) (show Cl w1 (some ⟨x36,0,none⟩) (aT [r]) from hw.cl fin) (hw.cl fin) E0p rfl (by rw[List.length_drop]) (by omega) (show 1<=1000 by decide) (by omega) rfl))) (h:=λ x43 h43=>?_);refine S9 ?_)
  all_goals refine bF results246 (λ w hw=>?_);rw[show Cy n xs ys b i r=some (b,Ds xs (iD b i) r) from if_pos ⟨hcv.1,by omega,c23⟩];exact⟨x43,rfl,h43,hw.fin⟩
theorem Y6(i:Int)(hb:n.bm=(b:Int))(hb2:b<18446744073709551616)(hr:Cp w n xs ys)(hc:xs.length<=n.brC)(hx:xs.length<=1000):Calls prog 306 #[n.v,.int .i64 i] w (aBM w (R4 n xs ys b i)):=by
 have e1:=hr.brN;refine enter func306 ntmps306 rfl rfl (SF.s2 hr.br hr.pr) ?_;simp only[cN]
 simp only[Nd.v,Nd.cells,hb,e1];refine J0 ?_;refine bC (λ x2=>?_);refine aJ (λ x4=>?_);refine lX ?_;refine vp ?_;refine aI (c0 (V:=.bool) (hc:=λ w1 hw=>by rw[<- e1,<- hb];exact tI i (n:=n) (hr.jR hw.done))) (λ x10 h10=>?_);refine Ti ?_;(refine mN 12 (λ g12=>?_) (λ g12=>?_)<;>refine Ka5 ?_);all_goals (refine um ?_;(first|refine aZ ?_|(refine aF ?_;refine aH (cV (hc:=λ w1 hw=>W8 hb2 i w1)) (λ x16=>?_)));refine Ke4 ?_)
 all_goals
 refine aX (λ c18=>?_) (λ c18=>?_)
 ·all_goals (refine Ke0 ?_;refine Px ?_)
  all_goals refine bF results306 (λ w hw=>?_);rw[show R4 n xs ys b i=none from if_neg (by rintro ⟨k1,k4⟩;have h:=h10.2 ⟨k1,(nR k4).1,(nR k4).2.1⟩;clear hw;(simp_all;done))];exact⟨(none,0),rfl,Nat.le_refl _,(hw.M7 none).fin⟩
 ·try exact nv c18
  all_goals have hcv:=h10.1 (by simpa using g12);have hbv:=hcv.1.bv hb hb2;have hpl:=l8 hbv c18;refine rE (λ w hw=>(hw.m9 (k:=iD b i) fin).me (k:=iD b i+1) (c:=n.brC) fin hc) ?_
  all_goals (refine bG ?_;refine Ke5 ?_;refine aH (cV (hc:=λ w1 hw=>Xp hb2 i w1)) (λ x23=>?_);refine J1 ?_;refine Ke5 ?_;refine aH (cV (hc:=λ w1 hw=>Zo hb2 i w1)) (λ x27=>?_);refine lX ?_;refine fO [0,1,2,3,4,5,6,7,8,9,10,11,12,13] ?_;refine aP ?_;refine hY ?_;refine aP ?_;refine cD (i:=4) (hq:=(rV rf rf dP (by exact C3 rfl) (by omega))) (h:=?_);refine hY ?_;refine aP ?_;refine Lb ?_;refine cD (i:=9) (hq:=(Mz (k:=iD b i+1) rf rf dP (by exact kY rfl) (by omega) (by omega))) (h:=?_);refine bR (i:=10) (hq:=(gG λ _=>aU (Hs rfl) nK rf rf rf rf E0z)) (h:=λ x38=>?_);refine bE (i:=11) (hq:=(cF (hc:=λ w1 hw=>dj (l:=D3 xs (iD b i)) (kG b i) (hw.cl fin) (hw.cl fin) (hw.cl fin) E0p (by rw[List.length_drop]) (by omega) (by omega) rfl))) (h:=λ x39 h39=>?_);refine S9 ?_)
  all_goals refine bF results306 (λ w hw=>?_);rw[show R4 n xs ys b i=some (kG b i,D3 xs (iD b i)) from if_pos ⟨hcv.1,c18⟩];exact⟨x39,rfl,h39,hw.fin⟩
end
end
end Go.Proofs.YtdeecdfockjoiaaGreatDoor
namespace Go.Ct
open Go Go.RowKit
section
section
variable{P:Program}{n:Nat}{Q:Exit->Act->World->Prop}{ks:List CK}{ops:Array Oper}{pl pl':nS}{LL:List Nat}{Dl Dp Dq:List Nat}{S:List (Nat×Value)}{G:World->Prop}{w0:World}{M:List Nat}{H:List (Nat×Obj)}{A F:Fr}{O:List Ow}
inductive LS(P:Program)(n:Nat)(Q:Exit->Act->World->Prop)(ks:List CK)(ops:Array Oper)(Dl Dp Dq:List Nat)(S:List (Nat×Value))(G:World->Prop):nS->List Nat->Prop where
 | nil:LS P n Q ks ops Dl Dp Dq S G .nil []
 | cons {i:Nat} {L:List Nat} {pl q:nS} {E:List Nat} (h:gW P n Q ks ops pl Dl Dp Dq S G i L) (r:LS P n Q ks ops Dl Dp Dq S G q E):LS P n Q ks ops Dl Dp Dq S G (.two i L pl 0 [] q) (i::E)
variable{E:List Nat}{c:Code}{Y:Type}{H':List (Nat×Obj)}{O':List Ow}{w:World}
theorem LS.get{pl:nS}(h:LS P n Q ks ops Dl Dp Dq S G pl E):∀i∈E,gW P n Q ks ops .nil Dl Dp Dq S G i []:=by
 induction h with
 | nil=>exact λ _ h=>(List.not_mem_nil h).elim
 | cons h _ ih=>
  intro j hj;rcases List.mem_cons.1 hj with rfl|hj;·exact h.va
  ·exact ih j hj
theorem jF{q:nS}(hc:lE ops Dl Dp Dq E=true)(h:LS P n Q ks ops Dl Dp Dq S G q E):JR P n Q ks ops q Dl Dp Dq S G:=by simp only[lE,Bool.and_eq_true] at hc;exact⟨bh (pl':=.nil) (LL:=[]) hc.1.1 hc.1.2 hc.2 h.get⟩
theorem ji{X:Type}(keys:List Nat)(K:X->List (Nat×Value))(GI:X->World->Prop)(hn:(keys.all λ k=>Nat.blt k n)=true)(hKn:∀x,((K x).all λ p=>Nat.blt p.1 n)=true)(h1:JK P n Q (.code c::.inv (mI n keys K GI (λ _=>0) S 1)::ks) S G)(h2:∀x f,JK P n Q ks (K x++(mH keys f++S)) (GI x)):JK P n Q (.code c::ks) S G:=⟨λ hS w hw=>by
 have h:=h1.run hS w hw;simp only[runK] at h ⊢;intro b k cs;obtain⟨e,a₁,w₁,hq,harr⟩:=h b k cs;rw[Gy] at hq;refine⟨e,a₁,w₁,?_,harr⟩;cases e with
 | normal=>obtain⟨x',S1,_,rfl,_,hk',hp',hg'⟩:=hq;have:=(h2 x' (look S1)).run ((hS.mH hn).nB (hKn x')) w₁ hg';rw[<- Tc hp' hk'] at this;exact this
 | exit id=>exact hq
 | goto l=>exact hq
 | ret=>exact hq
 | panic ch=>exact hq
 | outgrown=>exact hq⟩
theorem Vs(keys:List Nat)(K:Y->List (Nat×Value))(I:Y->Prop)(Hc:Y->List (Nat×Obj))(Fc:Y->Fr)(Oc:Y->List Ow){H1:Y->List (Nat×Obj)}{F1:Y->Fr}{O1:Y->List Ow}(hn:(keys.all λ k=>Nat.blt k n)=true)(hKn:∀x,((K x).all λ p=>Nat.blt p.1 n)=true)(hH1:∀x,Hc x++H=H1 x)(hF1:∀x,Fc x++F=F1 x)(hO1:∀x,Oc x++O=O1 x)(h1:JK P n Q (.code c::.inv (mI n keys K (λ x w=>I x/\SF w0 M (H1 x) A (F1 x) (O1 x) w) (λ _=>0) S 1)::ks) S (SF w0 M H A F O))(h2:∀x f,I x->JK P n Q ks (K x++(mH keys f++S)) (SF w0 M (H1 x) A (F1 x) (O1 x))):JK P n Q (.code c::ks) S (SF w0 M H A F O):=ji keys K _ hn hKn h1 λ x f=>Tv λ h=>h2 x f h
theorem nX(keys:List Nat)(K:Y->List (Nat×Value))(I:Y->Prop)(H1:Y->List (Nat×Obj))(F1:Y->Fr)(O1:Y->List Ow)(hn:(keys.all λ k=>Nat.blt k n)=true)(hKn:∀x,((K x).all λ p=>Nat.blt p.1 n)=true)(h1:JK P n Q (.code c::.inv (mI n keys K (λ x w=>I x/\SF w0 M (H1 x) A (F1 x) (O1 x) w) (λ _=>0) S 1)::ks) S (SF w0 M H A F O))(h2:∀x f,I x->JK P n Q ks (K x++(mH keys f++S)) (SF w0 M (H1 x) A (F1 x) (O1 x))):JK P n Q (.code c::ks) S (SF w0 M H A F O):=ji keys K _ hn hKn h1 λ x f=>Tv λ h=>h2 x f h
theorem Vl(hH:H'.Perm H)(hO:O'.Perm O):(Ks H' O').Perm (Ks H O):=(hH.map _).append (List.Perm.flatMap_right _ hO)
theorem St.perm{w0:World}{H:List (Nat×Obj)}(h:St w0 M H w)(hs:H'.Perm H):St w0 M H' w:=⟨h.os,h.tape,h.output,h.size,h.iT,λ p hp=>h.has p (hs.mem_iff.1 hp),λ p hp=>h.new p (hs.mem_iff.1 hp),(hs.map _).nodup_iff.2 h.nodup⟩
theorem SF.perm{w:World}{H':List (Nat×Obj)}{O':List Ow}(h:SF w0 M H A F O w)(hH:H'.Perm H)(hO:O'.Perm O):SF w0 M H' A F O' w:=by have hs:=Vl hH hO;exact⟨h.st.perm hH,λ f hf=>⟨(h.old f hf).1,λ hc hm=>(h.old f hf).2 hc (hs.mem_iff.1 hm)⟩,λ f hf=>⟨(h.new f hf).1,λ hc=>⟨λ hm=>((h.new f hf).2 hc).1 (hs.mem_iff.1 hm),((h.new f hf).2 hc).2⟩⟩,λ o ho=>h.own o (hO.mem_iff.1 ho),hs.nodup_iff.2 h.dis⟩
end
end
end Go.Ct
namespace Go.Proofs.YtdeecdfockjoiaaGreatDoor
open Go.Proofs.Tryz
section
open Go Go.RowKit Go.Ct
variable{n:Nat}{Q:Exit->Act->World->Prop}{ks:List CK}{S:List (Nat×Value)}{ops:Array Oper}{l ol:List Oper}{pl:nS}{LL:List Nat}{Dl Dp Dq:List Nat}
variable{w0:World}{M:List Nat}{H:List (Nat×Obj)}{A F:Fr}{O:List Ow}{G:World->Prop}{i d:Nat}{v:Value}{op:Op}{ty:TypeId}{pos:String}{af:Array Edge}{gd:Option (Nat×Bool)}{X:Type}{V:X->Value}{G':X->World->Prop}{j g:Nat}{want t:Bool}
theorem ed(ho:gC ol i ⟨some d,op,ty,pos,af,gd⟩:=by exact jM)(hw:Region.wanted ⟨some d,op,ty,pos,af,gd⟩ (cA ⟨ol⟩ S)=true:=by exact rfl)(hq:aW prog S G ⟨some d,op,ty,pos,af,gd⟩ X V G':=by first|exact cC λ _=>We rf|exact cC λ _=>Nr rf rfl)(hc:lQ ⟨ol⟩ n Dl Dp Dq i (some d)=true:=by decide +kernel)(hL:((Ct.waiting ⟨ol⟩ Dq i).all λ j=>LL.elem j)=true:=by decide +kernel)(hfire:∀x,aR prog ⟨ol⟩ ((d,V x)::S) (G' x) LL:=by exact uE)(h:∀x,JR prog n Q ks ⟨ol⟩ pl (i::Dl) Dp Dq ((d,V x)::S) (G' x)):gW prog n Q ks ⟨ol⟩ pl Dl Dp Dq S G i LL:=rJ ho hw hq hc hL hfire h
theorem rB(ho:gC ol i ⟨some d,op,ty,pos,af,gd⟩:=by exact jM)(hw:Region.wanted ⟨some d,op,ty,pos,af,gd⟩ (cA ⟨ol⟩ S)=true:=by exact rfl)(hq:aW prog S G ⟨some d,op,ty,pos,af,gd⟩ X V G':=by exact Ft)(hc:lQ ⟨ol⟩ n Dl Dp Dq i (some d)=true:=by decide +kernel)(hL:((Ct.waiting ⟨ol⟩ Dq i).all λ j=>LL.elem j)=true:=by decide +kernel)(hfire:∀x,aR prog ⟨ol⟩ ((d,V x)::S) (G' x) LL:=by exact uE)(h:∀x,JR prog n Q ks ⟨ol⟩ pl (i::Dl) Dp Dq ((d,V x)::S) (G' x)):gW prog n Q ks ⟨ol⟩ pl Dl Dp Dq S G i LL:=rJ ho hw hq hc hL hfire h
theorem lN(ho:gC ol i ⟨some d,op,ty,pos,af,gd⟩:=by exact jM)(hw:Region.wanted ⟨some d,op,ty,pos,af,gd⟩ (cA ⟨ol⟩ S)=true:=by exact rfl)(hq:aW prog S G ⟨some d,op,ty,pos,af,gd⟩ X V G')(hc:lQ ⟨ol⟩ n Dl Dp Dq i (some d)=true:=by decide +kernel)(hL:((Ct.waiting ⟨ol⟩ Dq i).all λ j=>LL.elem j)=true:=by decide +kernel)(hfire:∀x,aR prog ⟨ol⟩ ((d,V x)::S) (G' x) LL:=by exact uE)(h:∀x,JR prog n Q ks ⟨ol⟩ pl (i::Dl) Dp Dq ((d,V x)::S) (G' x)):gW prog n Q ks ⟨ol⟩ pl Dl Dp Dq S G i LL:=rJ ho hw hq hc hL hfire h
theorem nM{φ:X->Prop}(ho:gC ol i ⟨some d,op,ty,pos,af,gd⟩:=by exact jM)(hw:Region.wanted ⟨some d,op,ty,pos,af,gd⟩ (cA ⟨ol⟩ S)=true:=by exact rfl)(hq:aW prog S G ⟨some d,op,ty,pos,af,gd⟩ X V (λ x w=>φ x/\G' x w))(hc:lQ ⟨ol⟩ n Dl Dp Dq i (some d)=true:=by decide +kernel)(hL:((Ct.waiting ⟨ol⟩ Dq i).all λ j=>LL.elem j)=true:=by decide +kernel)(hfire:∀x,aR prog ⟨ol⟩ ((d,V x)::S) (λ w=>φ x/\G' x w) LL:=by exact uE)(h:∀x,φ x->JR prog n Q ks ⟨ol⟩ pl (i::Dl) Dp Dq ((d,V x)::S) (G' x)):gW prog n Q ks ⟨ol⟩ pl Dl Dp Dq S G i LL:=rJ ho hw hq hc hL hfire λ x=>eZ (h x)
end
section
open Go.RowKit Go.Ct
section
variable{n:Nd}{xs:List Int}{ys:List Pr}{w:World}{b:Nat}
end
end
section
open Go.RowKit Go.Ct
theorem wJ{k:Nat}(b:Nat)(hk:k<64):eI b (k:Int)=b ||| 2^k:=by unfold eI;rw[if_pos (by omega),Int.toNat_natCast]
theorem A8{k:Nat}(b:Nat)(hk:k<64):kG b (k:Int)=b ^^^ (b &&& 2^k):=by unfold kG;rw[if_pos (by omega),Int.toNat_natCast]
theorem oL{k:Nat}(b:Nat)(hk:k<64):iD b (k:Int)=jG b k:=by unfold iD;rw[Int.toNat_natCast,Nat.min_eq_left (by omega)]
theorem rX{k:Nat}(b:Nat)(hk:k<64):sQ b (k:Int)=b.testBit k:=by rw[N8 b (by omega) (by omega),Int.toNat_natCast]
section
variable{n:Nd}{xs:List Int}{ys:List Pr}{w:World}{b:Nat}
theorem mv{i:Int}(h:(V5 n xs ys b i).isSome=true):CV n xs ys/\sQ b i=true:=by
 unfold V5 at h;split at h;·assumption
 ·cases h
end
end
end Go.Proofs.YtdeecdfockjoiaaGreatDoor
namespace Go.Ct
open Go Go.RowKit
section
section
variable{α:Type}
inductive Cf:List α->Nat->α->Prop where
 | head {a:α} {l:List α}:Cf (a::l) 0 a
 | tail {a b:α} {l:List α} {i:Nat}:Cf l i b->Cf (a::l) (i+1) b
def rW:List α->Nat->List α
 | [],_=>[]
 | _::r,0=>r
 | p::r,i+1=>p::rW r i
def sX:List α->Nat->α->List α
 | l,0,a=>a::l
 | p::r,i+1,a=>p::sX r i a
 | [],_+1,a=>[a]
inductive nW:List α->List Nat->List α->List α->Prop where
 | nil {l:List α}:nW l [] [] l
 | cons {l es r:List α} {i:Nat} {a:α} {js:List Nat}:Cf l i a->nW (rW l i) js es r->nW l (i::js) (a::es) r
def kS:List Nat->List α->List α->List α
 | i::js,a::es,r=>sX (kS js es r) i a
 | _,_,r=>r
theorem Cf.perm{l:List α}{i:Nat}{a:α}(h:Cf l i a):l.Perm (a::rW l i):=by
 induction h with
 | head=>exact List.Perm.refl _
 | tail _ ih=>exact(ih.cons _).trans (List.Perm.swap _ _ _)
theorem K0(a:α):∀(l:List α) (i:Nat),(sX l i a).Perm (a::l)
 | l,0=>by cases l<;>exact List.Perm.refl _
 | [],_+1=>List.Perm.refl _
 | p::r,i+1=>((K0 a r i).cons p).trans (List.Perm.swap _ _ _)
theorem nW.perm{l es r:List α}{js:List Nat}(h:nW l js es r):l.Perm (es++r):=by
 induction h with
 | nil=>exact List.Perm.refl _
 | cons h _ ih=>exact h.perm.trans (ih.cons _)
theorem D6:∀(js:List Nat) (es r:List α),js.length=es.length->(kS js es r).Perm (es++r)
 | [],[],_,_=>List.Perm.refl _
 | i::js,a::es,r,h=>(K0 a _ i).trans ((D6 js es r (by simpa using h)).cons a)
 | [],_::_,_,h=>by simp at h
 | _::_,[],_,h=>by simp at h
end
section
variable{P:Program}{S:List (Nat×Value)}{w0 w w':World}{M:List Nat}{H H' hs:List (Nat×Obj)}{A F:Fr}{O O' os:List Ow}{is js:List Nat}
def Has(A F:Fr)(O:List Ow)(f:Option Addr×List Value):Prop:=f.2=[]∨f∈A∨f∈F∨∃o∈O,o.p=f.1/\o.cs=f.2
inductive bV(A F:Fr)(O:List Ow):Fr->Prop where
 | nil:bV A F O []
 | cons {f:Option Addr×List Value} {r:Fr} (h:Has A F O f) (hr:bV A F O r):bV A F O (f::r)
 | of {A0:Fr} (h:∀f∈A0,Has A F O f):bV A F O A0
theorem bV.get{A0:Fr}(h:bV A F O A0):∀f∈A0,Has A F O f:=by
 induction h with
 | nil=>intro f hf;exact(List.not_mem_nil hf).elim
 | cons h _ ih=>
  intro f hf;rcases List.mem_cons.1 hf with rfl|hf;·exact h
  ·exact ih f hf
 | of h=>exact h
theorem mU.eU{a:Option Addr}{cs:List Value}:∀{F:Fr},(a,cs)∈F->mU F a cs
 | [],h=>(List.not_mem_nil h).elim
 | (b,d)::F,h=>by
  rcases List.mem_cons.1 h with h|h;·cases h;exact .head
  ·exact .tail (mU.eU h)
theorem bM.dB{F:Fr}:∀{F':Fr},(∀f∈F',f∈F)->bM F F'
 | [],_=>.nil
 | (a,cs)::F',h=>.cons (mU.eU (h _ (List.mem_cons_self ..))) (bM.dB λ f hf=>h f (List.mem_cons_of_mem _ hf))
theorem SF.sD(h:SF w0 M H A F O w)(hH:nW H is hs H')(hO:nW O js os O'){A0:Fr}(hA:bV A F O' A0):SF w (Ks hs os) hs A0 [] os w:=by
 have pH:=hH.perm;have pO:=hO.perm;have h1:=h.perm pH.symm pO.symm;have hnd:=(Vl pH.symm pO.symm).nodup_iff.2 h.dis
 have sub:(Ks hs os).Sublist (Ks (hs++H') (os++O')):=by unfold Ks;rw[List.map_append,List.flatMap_append];exact(List.sublist_append_left _ _).append (List.sublist_append_left _ _)
 have nd1:(Ks hs os).Nodup:=hnd.sublist sub;have kperm:(Ks (hs++H') (os++O')).Perm (Ks hs os++Ks H' O'):=by unfold Ks;rw[List.map_append,List.flatMap_append];simp only[List.append_assoc];refine List.Perm.append_left _ ?_;rw[<- List.append_assoc,<- List.append_assoc];exact List.Perm.append_right _ List.perm_append_comm
 have disj:∀b∈Ks hs os,b∉Ks H' O':=λ b hb hm=>(List.nodup_append.1 (kperm.nodup_iff.1 hnd)).2.2 b hb b hm rfl;refine⟨⟨rfl,rfl,rfl,Nat.le_refl _,λ _ _ _=>rfl,λ p hp=>h1.st.has p (List.mem_append_left _ hp),λ p hp=>.inl (fA.2 (.inl ⟨p,hp,rfl⟩)),(List.nodup_append.1 nd1).1⟩,λ f hf=>?_,λ _ h=>(List.not_mem_nil h).elim,λ o ho=>⟨(h1.own o (List.mem_append_left _ ho)).1,λ b hb=>.inr (fA.2 (.inr ⟨o,ho,hb⟩))⟩,nd1⟩;have hg:=hA.get f hf;refine⟨?_,λ hc hm=>?_⟩
 ·rcases hg with h0|h2|h2|⟨o,ho,h2,h3⟩;·rw[h0];exact Cl.nil _ _
  ·exact(h.old f h2).1
  ·exact(h.new f h2).1
  ·rw[<- h2,<- h3];exact(h1.own o (List.mem_append_right _ ho)).1.cl
 ·rcases hg with h0|h2|h2|⟨o,ho,h2,h3⟩;·exact hc h0
  ·exact(h1.old f h2).2 hc (sub.subset hm)
  ·exact((h1.new f h2).2 hc).1 (sub.subset hm)
  ·have hok:=(h1.own o (List.mem_append_right _ ho)).1;have hb:=hok.Sz (by rw[h3];exact hc);exact disj _ hm (fA.2 (.inr ⟨o,ho,by rw[hb,h2];exact List.mem_singleton.2 rfl⟩))
theorem SF.Ao(h:SF w0 M H A F O w)(hH:nW H is hs H')(hO:nW O js os O'){hs' Hc:List (Nat×Obj)}{os' Oc:List Ow}{Fc:Fr}
  (hc:SF w (Ks hs os) (hs'++Hc) [] Fc (os'++Oc) w') (h1:is.length=hs'.length) (h2:js.length=os'.length) :
  SF w0 M (Hc++kS is hs' H') A (Fc++F) (Oc++kS js os' O') w':=by
 have pH:=hH.perm;have pO:=hO.perm;have hp:=h.perm pH.symm pO.symm;have qH:=D6 is hs' H' h1;have qO:=D6 js os' O' h2
 have kperm:∀(a c:List (Nat×Obj)) (b d:List Ow),(Ks (a++c) (b++d)).Perm (Ks a b++Ks c d):=λ a c b d=>by unfold Ks;rw[List.map_append,List.flatMap_append];simp only[List.append_assoc];refine List.Perm.append_left _ ?_;rw[<- List.append_assoc,<- List.append_assoc];exact List.Perm.append_right _ List.perm_append_comm
 have nd0:=(kperm hs H' os O').nodup_iff.1 hp.dis;have disj:∀b∈Ks hs os,b∉Ks H' O':=λ b hb hm=>(List.nodup_append.1 nd0).2.2 b hb b hm rfl;have sub:∀b∈Ks hs' os',b∈Ks (hs'++Hc) (os'++Oc):=λ b hb=>(kperm hs' Hc os' Oc).mem_iff.2 (List.mem_append_left _ hb)
 have nd1:(Ks (hs'++H') (os'++O')).Nodup:=by
  rw[(kperm hs' H' os' O').nodup_iff];refine List.nodup_append.2 ⟨(List.nodup_append.1 ((kperm hs' Hc os' Oc).nodup_iff.1 hc.dis)).1,(List.nodup_append.1 nd0).2.1,λ a ha b hb e=>?_⟩;subst e;rcases hc.T4 a (sub a ha) with h3|h3
  ·have:=hp.lt a ((kperm hs H' os O').mem_iff.2 (List.mem_append_right _ hb));omega
  ·exact disj a h3 hb
 have r:=hp.X9 (D:=Ks hs os) (Hm:=hs') (Hc:=Hc) (H1:=hs'++H') (Fc:=Fc) (Om:=os') (Oc:=Oc) (O1:=os'++O') hc (λ b hb=>(kperm hs H' os O').mem_iff.2 (List.mem_append_left _ hb))
  (λ p hpm=>by
   rcases List.mem_append.1 hpm with h3|h3
   ·exact .inl h3
   ·exact .inr ⟨List.mem_append_right _ h3,λ hm=>disj _ hm (fA.2 (.inl ⟨p,h3,rfl⟩))⟩)
  (λ o ho=>by
   rcases List.mem_append.1 ho with h3|h3
   ·exact .inl h3
   ·exact .inr ⟨List.mem_append_right _ h3,λ b hb hm=>disj _ hm (fA.2 (.inr ⟨o,h3,hb⟩))⟩)
  nd1
 exact r.perm (List.Perm.append_left _ qH) (List.Perm.append_left _ qO)
theorem SF.Us(h:SF w0 M H A F O w){F':Fr}(hF:∀f∈F',f.2=[]∨f∈F):SF w0 M H A F' O w:=⟨h.st,h.old,λ f hf=>by
 rcases hF f hf with h0|h1;·exact⟨by rw[h0];exact Cl.nil _ _,λ hc=>absurd h0 hc⟩
 ·exact h.new f h1,h.own,h.dis⟩
theorem SF.aAZ(h:SF w0 M H A F O w)(T1:TypeId)(s1:Nat)(T2:TypeId)(s2:Nat):SF w0 M H A F (O++[⟨none,[],0,T1,s1⟩,⟨none,[],0,T2,s2⟩]) w:=((h.gN T2 s2).gN T1 s1).perm (List.Perm.refl _) List.perm_append_comm
theorem SF.toEnd{o1 o2:Ow}(h:SF w0 M H A F (o1::o2::O) w):SF w0 M H A F (O++[o1,o2]) w:=h.perm (List.Perm.refl _) List.perm_append_comm
theorem bM.all{F:Fr}:bM F F:=bM.dB λ _ h=>h
theorem SF.v6{w:World}{H':List (Nat×Obj)}{O':List Ow}(h:SF w0 M H A F O w)(hH:H'.Sublist H:=by repeat (first|exact List.nil_sublist _|apply List.Sublist.cons_cons|apply List.Sublist.cons))(hO:O'.Sublist O:=by repeat (first|exact List.nil_sublist _|apply List.Sublist.cons_cons|apply List.Sublist.cons)):SF w0 M H' [] F O' w:=h.fS hH bM.all hO
theorem SF.zA0{w:World}{H':List (Nat×Obj)}{O':List Ow}(h:SF w0 M H A F O w)(hH:H'.Sublist H:=by repeat (first|exact List.Sublist.refl _|exact List.nil_sublist _|apply List.Sublist.cons))(hO:O'.Sublist O:=by repeat (first|exact List.Sublist.refl _|exact List.nil_sublist _|apply List.Sublist.cons)):SF w0 M H' A F O' w:=h.back hH bM.all hO
end
end
end Go.Ct
namespace Go.Proofs.YtdeecdfockjoiaaGreatDoor
open Go.Proofs.Tryz
section
open Go Go.RowKit Go.Ct
abbrev mO(L:List dW)(cs:List Int)(gen acc:Int)(pn:Option Addr)(cn:Nat)(pc:Option Addr)(cc:Nat):Obj:=.cells ⟨[.slice pn L.length cn,.slice pc cs.length cc,.int .i64 gen,.int .i64 acc]⟩ 0 (0,0)
abbrev aO(L:List dW)(cs:List Int)(gen acc:Int)(pn:Option Addr)(cn:Nat)(pc:Option Addr)(cc:Nat):Obj:=.cells ⟨[.slice pn L.length cn,.slice pc cs.length cc,.int .i64 gen,.int .i64 acc]⟩ 98 (0,0)
abbrev mW(L:List dW)(cs:List Int)(pn:Option Addr)(cn:Nat)(pc:Option Addr)(cc:Nat):List Ow:=[⟨pn,Se L,cn,194,14⟩,⟨pc,aT cs,cc,39,1⟩]
theorem vD{w0 w:World}{D:List Nat}{b:Nat}{L:List dW}{cs:List Int}{gen acc:Int}{pn pc:Option Addr}{cn cc:Nat}{A F:Fr}(h:SF w0 D [(b,aO L cs gen acc pn cn pc cc)] A F (mW L cs pn cn pc cc) w) :
  SF w0 D [(b,.cells ⟨[.slice pn L.length cn,.slice pc cs.length cc,.int .i64 gen,.int .i64 acc]⟩ 98 (0,0))] A F [⟨pn,Se L,cn,194,14⟩,⟨pc,aT cs,cc,39,1⟩] w:=h
variable{S:List (Nat×Value)}{w0 w:World}{M:List Nat}{H:List (Nat×Obj)}{A F:Fr}{O:List Ow}{ty:TypeId}{pos:String}{af:Array Edge}{gd:Option (Nat×Bool)}{X:Type}{V:X->Value}
theorem cM{φ:X->Prop}{hs H':List (Nat×Obj)}{os O':List Ow}{hs' H1:X->List (Nat×Obj)}{os' O1:X->List Ow}{Fc F1:X->Fr}{A0:Fr}{is js:List Nat}{f:FuncId}{xs:List Operand}{at_:Array TypeId}{vs:List Value}{dst:Option Nat}
  (ha:nZ S xs=vs:=by(repeat (first|exact cB _|(apply bK;focus ((conv=>{lhs;whnf});try exact rfl))));first|done|fail) (hp:plain prog f=true:=by kernel_rfl)
  (hc:∀w,SF w (Ks hs os) hs A0 [] os w->Calls prog f ⟨vs⟩ w λ e w'=>∃x,e=.returned (V x)/\φ x/\SF w (Ks hs os) (hs' x) [] (Fc x) (os' x) w')
  (hH:nW H is hs H':=by(repeat (first|exact nW.nil|(apply nW.cons;(focus ((repeat (first|exact Cf.head|apply Cf.tail));done));simp only[rW])));first|done|fail)
  (hO:nW O js os O':=by(repeat (first|exact nW.nil|(apply nW.cons;(focus ((repeat (first|exact Cf.head|apply Cf.tail));done));simp only[rW])));first|done|fail)
  (hA:bV A F O' A0:=by(repeat (first|exact bV.of (λ _ h=>Or.inr (Or.inl h))|exact bV.nil|(refine bV.cons (by first|exact Or.inl rfl|exact Or.inr (Or.inr (Or.inl (by simp)))|exact Or.inr (Or.inl (by simp))|exact Or.inr (Or.inr (Or.inr (by simp)))) ?_)));first|done|fail)
  (hl1:∀x,is.length=(hs' x).length:=by intro x;exact rfl) (hl2:∀x,js.length=(os' x).length:=by intro x;exact rfl)
  (hH1:∀x,kS is (hs' x) H'=H1 x:=by intro x;first|(simp only[kS,sX];exact rfl)|exact rfl) (hF1:∀x,Fc x++F=F1 x:=by intro x;first|(simp only[List.nil_append,List.cons_append];exact rfl)|exact rfl) (hO1:∀x,kS js (os' x) O'=O1 x:=by intro x;simp only[kS,sX,mW];exact rfl) :
  aW prog S (SF w0 M H A F O) ⟨dst,.call {callee:=.value (.func f),args:=⟨xs⟩,argTypes:=at_},ty,pos,af,gd⟩ X V (λ x w=>φ x/\SF w0 M (H1 x) A (F1 x) (O1 x) w) :=
 iJ (nA hp ha) λ w hw=>(hc w (hw.sD hH hO hA)).mono λ _ _ ⟨x,he,hx,hs⟩=>⟨x,he,hx,by have:=hw.Ao (hs':=hs' x) (Hc:=[]) (os':=os' x) (Oc:=[]) hH hO (by simpa using hs) (hl1 x) (hl2 x);rw[<- hH1 x,<- hF1 x,<- hO1 x];simpa using this⟩
end
section
open Go.RowKit Go.Ct
variable{w:World}{D:List Nat}{b:Nat}{L:List dW}{cs:List Int}{gen acc:Int}{pn pc:Option Addr}{cn cc:Nat}{A:Fr}
theorem tT(v:Int)(hs:SF w D [(b,aO L cs gen acc pn cn pc cc)] A [] (mW L cs pn cn pc cc) w)(hl:cs.length<=274877906944) :
  Calls prog 338 #[.pointer (some ⟨b,0,none⟩),.int .i64 v] w λ e w'=>∃q:Option Addr×Nat,e=.returned (.int .i64 ((cs.length+1:Nat):Int))/\True /\
   SF w D [(b,aO L (cs++[v]) gen acc pn cn q.1 q.2)] [] [] (mW L (cs++[v]) pn cn q.1 q.2) w':=by refine enter func338 ntmps338 rfl rfl (vD hs) ?_;simp only[cN];refine eD ?_;refine lV ?_;refine bN ?_;refine Kd0 ?_;refine nD (λ x11=>?_);(refine Ax (λ x12=>?_);try (refine dQ (λ h12=>?_)));refine E4 ?_;refine qQ ?_;refine cP ?_;refine J1 ?_;refine bJ results338 (λ w hw=>?_);exact⟨x12,rfl,trivial,by simpa[aO,mW] using hw.fS (F':=[])⟩
end
end Go.Proofs.YtdeecdfockjoiaaGreatDoor
namespace Go.Ct
section
def aG(cs:List Int)(c:Int):Int:=if 1<=c/\c<=cs.length then cs.getD (c-1).toNat 0 else 0
def yT(cs:List Int)(c old:Int):Prop:=1<=c/\c<=cs.length/\cs.getD (c-1).toNat 0=old
def cU(cs:List Int)(c old new:Int):List Int:=if 1<=c/\c<=cs.length/\cs.getD (c-1).toNat 0=old then cs.set (c-1).toNat new else cs
def up(i:Int):Int:=Go.IntKind.i64.wrap (i+1)
variable{cs:List Int}{c old new:Int}{k:Nat}
theorem pR(h:¬(1<=c/\c<=cs.length)):aG cs c=0:=if_neg h
theorem mZ(h:k<cs.length):aG cs ((k+1:Nat):Int)=cs.getD k 0:=by unfold aG;rw[if_pos (by omega),show(((k+1:Nat):Int)-1).toNat=k by omega]
theorem Nh(h:¬(1<=c/\c<=cs.length/\cs.getD (c-1).toNat 0=old)):cU cs c old new=cs:=if_neg h
theorem q7(h:k<cs.length)(ho:cs.getD k 0=old):cU cs ((k+1:Nat):Int) old new=cs.set k new:=by
 have e:(((k+1:Nat):Int)-1).toNat=k:=by omega
 unfold cU;rw[e,if_pos ⟨by omega,by omega,ho⟩]
theorem aBr(h:c<1):(false=true↔yT cs c old):=⟨(λ h=>nomatch h),λ h2=>absurd h2.1 (by omega)⟩
theorem vd(h:c<1):cU cs c old new=cs:=Nh (by omega)
theorem z0(h:(cs.length:Int)<c):(false=true↔yT cs c old):=⟨(λ h=>nomatch h),λ h2=>absurd h2.2.1 (by omega)⟩
theorem wg(h:(cs.length:Int)<c):cU cs c old new=cs:=Nh (by omega)
theorem aAT(h:cs.getD k 0≠old):(false=true↔yT cs ((k+1:Nat):Int) old):=⟨(λ h=>nomatch h),λ h2=>absurd E1n h⟩
theorem qq(h:cs.getD k 0≠old):cU cs ((k+1:Nat):Int) old new=cs:=Nh λ h2=>absurd E1n h
theorem aAn(hk:k<cs.length)(h:cs.getD k 0=old):(true=true↔yT cs ((k+1:Nat):Int) old):=⟨λ _=>⟨by omega,by omega,by rw[show(((k+1:Nat):Int)-1).toNat=k by omega];exact h⟩,λ _=>rfl⟩
theorem gO:(cU cs c old new).length=cs.length:=by unfold cU;split<;>simp
end
end Go.Ct
namespace Go.Proofs.YtdeecdfockjoiaaGreatDoor
open Go.Proofs.Tryz
open Go.RowKit Go.Ct
section
variable{w:World}{D:List Nat}{b:Nat}{L:List dW}{cs:List Int}{gen acc:Int}{pn pc:Option Addr}{cn cc:Nat}{A:Fr}
theorem Zd(hs:SF w D [(b,aO L cs gen acc pn cn pc cc)] A [] (mW L cs pn cn pc cc) w):Calls prog 339 #[.pointer (some ⟨b,0,none⟩)] w λ e w'=>∃q:Unit,e=.returned (.int .i64 (up gen))/\True/\SF w D [(b,aO L cs (up gen) acc pn cn pc cc)] [] [] (mW L cs pn cn pc cc) w':=by refine enter func339 ntmps339 rfl rfl (vD hs) ?_;simp only[cN];refine K2n ?_;refine qQ ?_;refine J1 ?_;refine bJ results339 (λ w hw=>?_);exact⟨(),rfl,trivial,by simpa[aO,mW] using hw.fS (F':=[])⟩
theorem Mb(hs:SF w D [(b,aO L cs gen acc pn cn pc cc)] A [] (mW L cs pn cn pc cc) w)(c:Int):Calls prog 342 #[.pointer (some ⟨b,0,none⟩),.int .i64 c] w λ e w'=>∃q:Unit,e=.returned (.bool (decide (1<=c/\c<=(cs.length:Int))))/\True/\SF w D [(b,aO L cs gen acc pn cn pc cc)] [] [] (mW L cs pn cn pc cc) w':=by
 refine enter func342 ntmps342 rfl rfl (vD hs) ?_;simp only[cN];refine Kd3 ?_;refine iF ?_;refine aB ?_;(refine mN 7 (λ g7=>?_) (λ g7=>?_)<;>refine Ka3 ?_);all_goals (refine Ka3 ?_;(first|refine aZ ?_|(refine aF ?_;refine bN ?_));refine J43 ?_;(first|refine aZ ?_|(refine aF ?_;refine yC ?_));refine bY ?_;refine J1 ?_)
 all_goals
 refine bJ results342 (λ w hw=>?_);first|exact⟨(),by rw[decide_eq_false (show ¬(1<=c/\c<=(cs.length:Int)) by omega)];first|rfl|(rw[decide_eq_false (by omega)];rfl),trivial,hw.fS⟩|exact⟨(),by rw[show decide (1<=c/\c<=(cs.length:Int))=decide (c<=(cs.length:Int)) by simp;omega];rfl,trivial,hw.fS⟩
theorem ie(hs:SF w D [(b,aO L cs gen acc pn cn pc cc)] A [] (mW L cs pn cn pc cc) w)(c:Int)(hc:c<1):Calls prog 337 #[.pointer (some ⟨b,0,none⟩),.int .i64 c] w λ e w'=>∃q:Unit,e=.returned (.int .i64 (aG cs c))/\True/\SF w D [(b,aO L cs gen (up acc) pn cn pc cc)] [] [] (mW L cs pn cn pc cc) w':=by
 refine enter func337 ntmps337 rfl rfl (vD hs) ?_;simp only[cN];refine K2n ?_;refine qJ ?_;refine aI (cM (hc:=λ w hs=>Mb hs c)) (λ x14 h14=>?_);refine pU ?_;refine aX (λ c15=>?_) (λ c15=>?_)
 ·try (exfalso;omega)
  refine eD ?_;refine bJ results337 (λ w hw=>?_);(exact⟨(),by rw[pR (by omega)];rfl,trivial,hw.fS⟩)
 ·try (exfalso;omega)
theorem vl(hs:SF w D [(b,aO L cs gen acc pn cn pc cc)] A [] (mW L cs pn cn pc cc) w)(c:Int)(old new:Int)(hc:c<1):Calls prog 336 #[.pointer (some ⟨b,0,none⟩),.int .i64 c,.int .i64 old,.int .i64 new] w λ e w'=>∃r:Bool,e=.returned (.bool r)/\(r=true↔yT cs c old)/\SF w D [(b,aO L (cU cs c old new) gen (up acc) pn cn pc cc)] [] [] (mW L (cU cs c old new) pn cn pc cc) w':=by
 refine enter func336 ntmps336 rfl rfl (vD hs) ?_;simp only[cN];refine K2n ?_;refine qJ ?_;refine aI (cM (hc:=λ w hs=>Mb hs c)) (λ x18 h18=>?_);refine Ti ?_;(refine mN 20 (λ g20=>?_) (λ g20=>?_)<;>(try (exfalso;omega))<;>(refine aZ ?_));(refine aZ ?_);refine J6 ?_;refine J68 ?_;(refine aZ ?_);refine um ?_;refine ka ?_;refine aE ?_;refine aX (λ c31=>?_) (λ c31=>?_)
 ·try (exfalso;omega)
  refine eD ?_;refine bJ results336 (λ w hw=>?_);(exact⟨false,rfl,aBr hc,by rw[vd hc];exact hw.fS⟩)
 ·exact nv c31
theorem n5(hs:SF w D [(b,aO L cs gen acc pn cn pc cc)] A [] (mW L cs pn cn pc cc) w){k:Nat}(hk:(k:Int)<9223372036854775807)(hl:cs.length<=274877906944):Calls prog 337 #[.pointer (some ⟨b,0,none⟩),.int .i64 ((k+1:Nat):Int)] w λ e w'=>∃q:Unit,e=.returned (.int .i64 (aG cs ((k+1:Nat):Int)))/\True/\SF w D [(b,aO L cs gen (up acc) pn cn pc cc)] [] [] (mW L cs pn cn pc cc) w':=by
 refine enter func337 ntmps337 rfl rfl (vD hs) ?_;simp only[cN];refine K2n ?_;refine qJ ?_;refine aI (cM (hc:=λ w hs=>Mb hs ((k+1:Nat):Int))) (λ x14 h14=>?_);refine pU ?_;refine aX (λ c15=>?_) (λ c15=>?_)
 ·try (exfalso;omega)
  refine eD ?_;refine bJ results337 (λ w hw=>?_);(exact⟨(),by rw[pR (by omega)];rfl,trivial,hw.fS⟩)
 ·try (exfalso;omega)
  refine bk ?_;refine aB ?_;refine L5 ?_;refine J53 ?_;refine J1 ?_;refine bJ results337 (λ w hw=>?_);(exact⟨(),by rw[mZ (by omega)];rfl,trivial,hw.fS⟩)
theorem qu(hs:SF w D [(b,aO L cs gen acc pn cn pc cc)] A [] (mW L cs pn cn pc cc) w){k:Nat}(hk:(k:Int)<9223372036854775807)(old new:Int)(hl:cs.length<=274877906944):Calls prog 336 #[.pointer (some ⟨b,0,none⟩),.int .i64 ((k+1:Nat):Int),.int .i64 old,.int .i64 new] w λ e w'=>∃r:Bool,e=.returned (.bool r)/\(r=true↔yT cs ((k+1:Nat):Int) old)/\SF w D [(b,aO L (cU cs ((k+1:Nat):Int) old new) gen (up acc) pn cn pc cc)] [] [] (mW L (cU cs ((k+1:Nat):Int) old new) pn cn pc cc) w':=by
 refine enter func336 ntmps336 rfl rfl (vD hs) ?_;simp only[cN];refine K2n ?_;refine qJ ?_;refine aI (cM (hc:=λ w hs=>Mb hs ((k+1:Nat):Int))) (λ x18 h18=>?_);refine Ti ?_;(refine mN 20 (λ g20=>?_) (λ g20=>?_)<;>refine Ka3 ?_);all_goals ((first|refine aZ ?_|(refine aF ?_;refine bN ?_));refine J6 ?_;refine J68 ?_;(first|refine aZ ?_|(refine aF ?_;refine jC ?_));refine um ?_;refine ka ?_;refine aE ?_)
 all_goals
 refine aX (λ c31=>?_) (λ c31=>?_)
 ·all_goals try (exfalso;omega)
  all_goals refine eD ?_
  all_goals refine bJ results336 (λ w hw=>?_);first|exact⟨false,rfl,z0 (by omega),by rw[wg (by omega)];exact hw.fS⟩|exact⟨false,rfl,aAT (by simpa using c31),by rw[qq (by simpa using c31)];exact hw.fS⟩ 
 ·try exact nv c31
  all_goals (refine bk ?_;refine aB ?_;refine L5 ?_;refine aB ?_;refine jC ?_;refine J5 ?_;refine eD ?_)
  all_goals refine bJ results336 (λ w hw=>?_);(exact⟨true,rfl,aAn (by omega) (by simpa using c31),by rw[q7 (by omega) (by simpa using c31)];simpa[mW,aO,mO] using hw.fS (F':=[])⟩)
theorem vw(hs:SF w D [(b,aO L cs gen acc pn cn pc cc)] A [] (mW L cs pn cn pc cc) w)(c:Int)(hc:c<=9223372036854775807)(hl:cs.length<=274877906944):Calls prog 337 #[.pointer (some ⟨b,0,none⟩),.int .i64 c] w λ e w'=>∃q:Unit,e=.returned (.int .i64 (aG cs c))/\True/\SF w D [(b,aO L cs gen (up acc) pn cn pc cc)] [] [] (mW L cs pn cn pc cc) w':=by
 rcases Int.lt_or_le c 1 with h|h;·exact ie hs c h
 ·obtain⟨k,rfl⟩:∃k:Nat,c=((k+1:Nat):Int):=⟨(c-1).toNat,by omega⟩;exact n5 hs (by omega) hl
theorem aBl(hs:SF w D [(b,aO L cs gen acc pn cn pc cc)] A [] (mW L cs pn cn pc cc) w)(c old new:Int)(hc:c<=9223372036854775807)(hl:cs.length<=274877906944):Calls prog 336 #[.pointer (some ⟨b,0,none⟩),.int .i64 c,.int .i64 old,.int .i64 new] w λ e w'=>∃r:Bool,e=.returned (.bool r)/\(r=true↔yT cs c old)/\SF w D [(b,aO L (cU cs c old new) gen (up acc) pn cn pc cc)] [] [] (mW L (cU cs c old new) pn cn pc cc) w':=by
 rcases Int.lt_or_le c 1 with h|h;·exact vl hs c old new h
 ·obtain⟨k,rfl⟩:∃k:Nat,c=((k+1:Nat):Int):=⟨(c-1).toNat,by omega⟩;exact qu hs (by omega) old new hl
end
end Go.Proofs.YtdeecdfockjoiaaGreatDoor
namespace Go.Ct
open Go Go.RowKit
section
structure Ac where
 k:Int
 c:Int
 o:Int
 n:Int
structure Rs where
 err:Int
 found:Bool
 val:Int
 key:ByteArray
 jG:Int
 ref:Int
 root:Int
 ro:Bool
abbrev Ac.cells(a:Ac):List Value:=[.int .i64 a.k,.int .i64 a.c,.int .i64 a.o,.int .i64 a.n]
abbrev Rs.cells(r:Rs):List Value:=[.int .i64 r.err,.bool r.found,.int .u64 r.val,.string r.key,.int .i64 r.jG,.int .i64 r.ref,.int .i64 r.root,.bool r.ro]
abbrev Rs.zero:Rs:=⟨0,false,0,⟨#[]⟩,0,0,0,false⟩
end
section
def Eh:dW:=⟨{Nd.zero with kind:=1},[],[]⟩
def aK(L:List dW)(r:Int):dW:=if 1<=r/\r<=L.length then L.getD (r-1).toNat dW.zero else dW.zero
theorem Jj{L:List dW}{r:Int}(h:¬(1<=r/\r<=L.length)):aK L r=dW.zero:=if_neg h
theorem Rv{L:List dW}{k:Nat}(h:k<L.length):aK L ((k+1:Nat):Int)=L.getD k dW.zero:=by unfold aK;rw[if_pos (by omega),show(((k+1:Nat):Int)-1).toNat=k by omega]
def aV(L:List dW):List dW:=Eh::Eh::L
theorem oA(L:List dW):(aV L).length=L.length+2:=rfl
theorem Rg:Eh.Fit:=⟨rfl,rfl,by decide,by decide⟩
theorem Fits.all{L:List dW}(h:Fits L):Fits (aV L):=λ v hv=>by
 simp only[aV,List.mem_cons] at hv;rcases hv with rfl|rfl|hv;·exact Rg
 ·exact Rg
 ·exact h v hv
theorem iW{L:List dW}(h:Fits L)(r:Int):(aK L r).Fit:=by
 unfold aK;split;·rename_i hr;exact h.at (by omega)
 ·exact jm
structure AX where
 pn:Option Addr
 cn:Nat
 pc:Option Addr
 cc:Nat
 b1:Option Addr
 c1:Nat
 b2:Option Addr
 c2:Nat
def gH(k:Int)(cs:List Int)(init:Int):List Int:=if k=2∨k=3∨k=5∨k=6∨k=8 then cs++[init] else cs
def mX(n:Nd)(xs:List Int)(ys:List Pr)(c:Nat)(x:AX):dW :=dW.mk {n with main:=if n.kind=2 then((c+1:Nat):Int) else 0,prev:=if n.kind=3∨n.kind=5∨n.kind=6 then((c+1:Nat):Int) else 0,status:=if n.kind=8 then((c+1:Nat):Int) else 0,brA:=x.b1,brN:=xs.length,brC:=x.c1,prA:=x.b2,prN:=ys.length,dF:=x.c2} xs ys
theorem eJ{k:Int}{cs:List Int}{init:Int}:cs.length<=(gH k cs init).length/\(gH k cs init).length<=cs.length+1:=by unfold gH;split<;>simp
theorem U7{n:Nd}{xs:List Int}{ys:List Pr}{c:Nat}{x:AX}(h1:xs.length<=35184372088832)(h2:ys.length<=11728124029610):(mX n xs ys c x).Fit:=⟨rfl,rfl,h1,h2⟩
def dW.at_(v:dW)(p q:Option Addr):dW:=⟨{v.nd with brA:=p,brC:=v.xs.length,prA:=q,dF:=v.ys.length},v.xs,v.ys⟩
theorem dW.rH{v:dW}(h:v.Fit)(p q:Option Addr):(v.at_ p q).Fit:=⟨h.brN,h.prN,h.brS,h.prS⟩
end
end Go.Ct
namespace Go.Proofs.YtdeecdfockjoiaaGreatDoor
open Go.Proofs.Tryz
open Go.RowKit Go.Ct
section
variable{w:World}{D:List Nat}{b:Nat}{L:List dW}{cs:List Int}{gen acc:Int}{pn pc:Option Addr}{cn cc:Nat}{A:Fr}
end
section
variable{w:World}{D:List Nat}{b:Nat}{L:List dW}{cs:List Int}{gen acc:Int}{pn pc:Option Addr}{cn cc:Nat}{A:Fr}
theorem rY{m c:Nat}{p:Option Addr}{v1 v2 v3:Value}(hs:SF w D [(b,.cells ⟨[.slice p m c,v1,v2,v3]⟩ 98 (0,0))] A [] [] w)(hl:m<=274877906945):Calls prog 341 #[.pointer (some ⟨b,0,none⟩)] w λ e w'=>∃q:Unit,e=.returned (.int .i64 ((m+2:Nat):Int))/\True /\
  SF w D [(b,.cells ⟨[.slice p m c,v1,v2,v3]⟩ 98 (0,0))] [] [] [] w':=by refine enter func341 ntmps341 rfl rfl hs ?_;simp only[cN];refine eD ?_;refine qQ ?_;refine cP ?_;refine rQ ?_;refine J1 ?_;refine bJ results341 (λ w hw=>?_);exact⟨(),by rw[show(2:Int)+(m:Int)=((m+2:Nat):Int) by omega];rfl,trivial,hw.fS⟩
theorem Aq{n:Nd}{xs:List Int}{ys:List Pr}(init:Int)(hs:SF w D [(b,aO L cs gen acc pn cn pc cc)] [(n.brA,aT xs),(n.prA,dF ys)] [] (mW L cs pn cn pc cc) w)(e1:n.brN=xs.length)(e2:n.prN=ys.length)(h1:xs.length<=274877906944)(h2:ys.length<=274877906944)
  (hl:L.length<=274877906944) (hc:cs.length<=274877906944) :
  Calls prog 335 #[.pointer (some ⟨b,0,none⟩),n.v,.int .i64 init] w λ e w'=>∃x:AX,e=.returned (.int .i64 ((L.length+3:Nat):Int))/\True /\
   SF w D [(b,aO (L++[mX n xs ys cs.length x]) (gH n.kind cs init) gen acc x.pn x.cn x.pc x.cc)] [] (mX n xs ys cs.length x).fr (mW (L++[mX n xs ys cs.length x]) (gH n.kind cs init) x.pn x.cn x.pc x.cc) w':=by
 refine enter func335 ntmps335 rfl rfl (vD hs) ?_;simp only[cN];simp only[Nd.v,Nd.cells];refine J0 ?_;refine bC (λ x4=>?_);refine J1 ?_;refine oT ?_;refine aI (cF (V:=λ p:Option Addr×Option Addr=>.agg ⟨[.int .i64 n.kind,.int .i64 n.gen,.int .i64 n.main,.int .u64 n.bm,.slice p.1 n.brN xs.length,.int .u64 n.hash,.string n.key,.int .u64 n.val,.slice p.2 n.prN ys.length,.int .i64 n.prev,.int .i64 n.old,.int .i64 n.exp,.int .i64 n.new,.int .i64 n.status]⟩) (hc:=λ w1 hw=>V6 (n:=n) ⟨e1,e2,hw.cl (.old .head),hw.cl (.old (.tail .head)),by omega,by omega⟩ (by omega) (by omega))) (λ x8 h8=>?_);refine J5 ?_;refine J0 ?_;refine aQ ?_;refine oW (λ _=>?_);refine aQ ?_;refine oW (λ _=>?_);refine Qd ?_;refine Oy ?_;refine jN ?_;refine Sx ?_;refine aX (λ c12=>?_) (λ c12=>?_)
 ·try (exfalso;omega)
  refine Fw ?_;refine aI (cM (hc:=λ w hs=>tT init hs hc)) (λ x18 h18=>?_);refine Qd ?_;refine eN ?_;refine K2d ?_;refine kB (h:=λ x41=>?_);((refine bR (i:=7) (hq:=(aW.cX (dG (sz:=14) rf rf rP (by rw[pQ]) fin rfl rfl en1 rfl (by decide) dP om) jK)) (h:=λ x42=>?_);try (refine eZ (λ h42=>?_))));refine K1m ?_;intro x46 h46 w hw h3;exact⟨⟨x42.1,x42.2,x18.1,x18.2,x8.1,xs.length,x8.2,ys.length⟩,rfl,trivial,by simpa[mO,aO,mW,mX,dW.fr,gH,Av,Nd.cells, *] using h3⟩
 ·try (exfalso;omega)
  refine oT ?_;refine aI (c0 (V:=.bool) (hc:=λ w1 hw=>fl ({n with main:=0,prev:=0,status:=0,brA:=x8.1,brC:=xs.length,prA:=x8.2,dF:=ys.length}:Nd) w1)) (λ x22 h22=>?_);refine J1 ?_;refine aX (λ c20=>?_) (λ c20=>?_)
  ·try (exfalso;omega)
   have k22:n.kind=3∨n.kind=5∨n.kind=6:=h22.1 c20;rcases k22 with k22|k22|k22
   all_goals (refine Fw ?_;refine aI (cM (hc:=λ w hs=>tT init hs hc)) (λ x25 h25=>?_);refine Qd ?_;refine eN ?_;refine aL ?_;refine eO [(0,[]),(1,[]),(2,[]),(3,[]),(4,[]),(5,[]),(6,[4]),(7,[]),(8,[]),(9,[]),(10,[])] ?_;refine Em ?_;refine bH ?_;refine kB (h:=λ x41=>?_);((refine bR (i:=7) (hq:=(aW.cX (dG (sz:=14) rf rf rP (by rw[pQ]) fin rfl rfl en1 rfl (by decide) dP om) jK)) (h:=λ x42=>?_);try (refine eZ (λ h42=>?_))));refine Ln ?_;refine J2 ?_;refine aI (cM (hc:=λ w hs=>rY (m:=L.length+1) hs (by omega))) (λ x46 h46=>?_);refine J1 ?_)
   all_goals
   refine bJ results335 (λ w hw=>?_);have h3:=hw.fS (H':=[(b,_)]) (F':=[(x8.1,aT xs),(x8.2,dF ys)]) (O':=[_,_]);exact⟨⟨x42.1,x42.2,x25.1,x25.2,x8.1,xs.length,x8.2,ys.length⟩,rfl,trivial,by simpa[mO,aO,mW,mX,dW.fr,gH,Av,Nd.cells, *] using h3⟩
  ·try (exfalso;omega)
   have k22:¬(n.kind=3∨n.kind=5∨n.kind=6):=λ k=>by rw[h22.2 k] at c20;cases c20
   obtain⟨k3,k56⟩:=not_or.1 k22;obtain⟨k5,k6⟩:=not_or.1 k56;refine jN ?_;refine Sx ?_;refine aX (λ c27=>?_) (λ c27=>?_)
   ·try (exfalso;omega)
    refine Fw ?_;refine aI (cM (hc:=λ w hs=>tT init hs hc)) (λ x33 h33=>?_);refine Qd ?_;refine eN ?_;refine K2d ?_;refine kB (h:=λ x41=>?_);((refine bR (i:=7) (hq:=(aW.cX (dG (sz:=14) rf rf rP (by rw[pQ]) fin rfl rfl en1 rfl (by decide) dP om) jK)) (h:=λ x42=>?_);try (refine eZ (λ h42=>?_))));refine K1m ?_;intro x46 h46 w hw h3;exact⟨⟨x42.1,x42.2,x33.1,x33.2,x8.1,xs.length,x8.2,ys.length⟩,rfl,trivial,by simpa[mO,aO,mW,mX,dW.fr,gH,Av,Nd.cells, *] using h3⟩
   ·try (exfalso;omega)
    refine rL ?_;refine K2d ?_;refine kB (h:=λ x41=>?_);((refine bR (i:=7) (hq:=(aW.cX (dG (sz:=14) rf rf rP (by rw[pQ]) fin rfl rfl en1 rfl (by decide) dP om) jK)) (h:=λ x42=>?_);try (refine eZ (λ h42=>?_))));refine K1m ?_;intro x46 h46 w hw h3;exact⟨⟨x42.1,x42.2,pc,cc,x8.1,xs.length,x8.2,ys.length⟩,rfl,trivial,by simpa[mO,aO,mW,mX,dW.fr,gH,Av,Nd.cells, *] using h3⟩
end
end Go.Proofs.YtdeecdfockjoiaaGreatDoor

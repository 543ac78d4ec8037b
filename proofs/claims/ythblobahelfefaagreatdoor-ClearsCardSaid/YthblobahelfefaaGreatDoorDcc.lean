/- Merged. -/
import Derived.Test.YthblobahelfefaaGreatDoorGDc9
set_option linter.unusedSimpArgs false
set_option linter.unusedVariables false
namespace Go.Ct
open Go Go.RowKit
section
variable{P:Program}{S:List (Nat×Value)}{w0:World}{M:List Nat}{H:List (Nat×Obj)}{A F:Fr}{G:World->Prop}{d:Nat}{ty t t2 e:TypeId}{pos:String}{af:Array Edge}{gd:Option (Nat×Bool)}{x y:Operand}{v r:Value}{n m c:Nat}
theorem qc(hx:ev S x=v)(h:∀w,(Instr.field t v n).run P w=.ok r w):aH P S G ⟨some d,.field t x n,ty,pos,af,gd⟩ r:=⟨λ w _=>by simp[execOp,hx,h]⟩
theorem Vg{α:Type}{f:α->List Value}{sz:Nat}{l:List α}{v1:α}{p a:Option Addr}{c2:Nat}{zc:List Value}(hf:∀a,(f a).length=sz)(h0:0<sz)(h1:(f v1).all (·.oneCell')=true)(hx:ev S x=.slice p m c)(hy:ev S y=.slice a 1 c2)(hm:l.length=m)(hl:pB A F [⟨p,dE f l,c,e,sz⟩] a (f v1))(he:cS P t e zc)(hz:zc.length=sz)(ht2:P.underlying t2=some (.slice e))(hb:m+1<=549755813888) :
  aQ P S (SF w0 M H A F [⟨p,dE f l,c,e,sz⟩]) ⟨some d,.call {callee:=.builtin .append,args := #[x,y],argTypes := #[t,t2]},ty,pos,af,gd⟩ (Option Addr×Nat×List Ow) (λ q=>.slice q.1 (l++[v1]).length q.2.1)
   (λ q w=>((q.2.2=[]/\q.1=p/\q.2.1=c)∨q.2.2=[⟨p,dE f l,c,e,sz⟩])/\SF w0 M H A F (⟨q.1,dE f (l++[v1]),q.2.1,e,sz⟩::q.2.2) w):=by rw[Hd,show dE f [v1]=f v1 by simp[dE],show(l++[v1]).length=m+1 by rw[List.length_append,hm];rfl];exact aw hx hy (by rw[iP hf,hm]) hl (hf v1) h1 he hz h0 ht2 hb
theorem SF.P0{w:World}{α:Type}{f:α->List Value}{sz:Nat}{l:List α}{v1:α}{p:Option Addr}{q:Option Addr×Nat×List Ow}(h:SF w0 M H A F (⟨q.1,dE f (l++[v1]),q.2.1,e,sz⟩::q.2.2) w)(hq:(q.2.2=[]/\q.1=p/\q.2.1=c)∨q.2.2=[⟨p,dE f l,c,e,sz⟩]):SF w0 M H A F [⟨p,dE f l,c,e,sz⟩] w:=by
 rcases hq with⟨h1,h2,h3⟩|h1;·rw[h1,h2,h3,Hd] at h;exact h.aEY .head
 ·rw[h1] at h;exact h.sub (List.Sublist.refl _) aT.all (List.sublist_cons_self _ _)
end
end Go.Ct
namespace Go.Proofs.YthblobahelfefaaGreatDoor
open Go.Proofs.Tryz
open Go Go.RowKit Go.Ct
theorem q5(s:zE)(w:World):(Instr.field 98 (.agg ⟨s.cells⟩) 2).run prog w=.ok (.agg ⟨s.r.cells⟩) w:=by kernel_rfl
theorem oj(st:Int)(s:ByteArray):∀e w,(Instr.checkKey e 10000 111 (.agg ⟨[.int .u32 st,.string s]⟩)).run prog w=.ok () w:=λ e w=>by kernel_rfl
abbrev yI(T:Nat)(s:ByteArray):Value:=.agg ⟨[.int .u32 (T:Int),.string s]⟩
theorem Hk{T T':Nat}{s s':ByteArray}(h:yI T s=yI T' s'):T=T'/\s=s':=by simp only[yI,Value.agg.injEq,Array.mk.injEq,List.cons.injEq,Value.int.injEq,Value.string.injEq,and_true,true_and] at h;exact⟨by omega,h.2⟩
def aD2(y:Value):Prop:=∃T s,y=yI T s
theorem Rh(T:Nat)(s:ByteArray)(es:List MapEntry)(h:∀e∈es,aD2 e.key):∃r,(∀w,(Instr.findKey 111 (yI T s) es).run prog w=.ok r w)/\((r=none/\∀e∈es,e.key≠yI T s)∨∃j e,r=some (j,e.val)/\e∈es/\e.key=yI T s):=by
 refine aBo (by kernel_rfl) aD2 (λ z ⟨T',s',hz⟩=>?_) es h;subst hz;refine⟨((T:Int)==(T':Int)&&(decide (s=s')&&true)),λ w=>(D9 (w:=w) (by kernel_rfl) (Em.cons (vk.int .u32 (T:Int) (T':Int)) (.cons (.str s s') .nil)) 9998).1,?_⟩;simp only[Bool.and_true,Bool.and_eq_true,beq_iff_eq,decide_eq_true_iff];constructor;·rintro ⟨h1,rfl⟩;rw[show T=T' by omega]
 ·intro h;obtain⟨h1,h2⟩:=Hk h;exact⟨by rw[h1],h2⟩
section
variable{w:World}{D:List Nat}{y:Xg}{x:Yv}{S n m k c:Nat}{ls:List eE}{l:List gE}{cs L:List (Nat×Nat)}{pk:Nat->ByteArray}{mv:List (Nat×Nat)}{u:fz}{A:Fr}{es es':List MapEntry}{p:Option Addr}
def FOk(pk:Nat->ByteArray)(ls:List eE)(l:List gE)(cs:List (Nat×Nat))(es:List MapEntry):Prop:=∀e∈es,∃T s,e.key=yI T s/\e.val=.bool true/\∀mv k q,VM pk mv k->q.Perm (mv.map Prod.fst)->s=Ar (tM pk q)->¬oV pk ls l cs T (mv.map Prod.fst)
def wu(es es':List MapEntry)(S:Nat):Prop:=∀e∈es',e∈es∨∃T s,e.key=yI T s/\S<=T
abbrev frH(p:Option Addr)(N c m n:Nat)(x:Yv)(y:Xg)(u:fz)(es:List MapEntry)(ck:Nat)(ve:List MapEntry)(vc:Nat):List (Nat×Obj):=(y.b,cz x.b n y)::(y.mf,bV es ck)::(x.b,sD p N c x)::pP m u ve vc
abbrev frA(x:Yv)(y:Xg)(p:Option Addr)(ls:List eE)(l:List gE)(cs:List (Nat×Nat)):Fr:=y.fr l ls cs++Ie x l p ls
theorem aFo{F:Fr}{O:List Ow}:bL (frA x y p ls l cs) F O (y.fr l ls cs):=bL.of λ f hf=>.inr (.inl (List.mem_append_left _ hf))
theorem n0{F:Fr}{O:List Ow}:bL (frA x y p ls l cs) F O (Ie x l p ls):=bL.of λ f hf=>.inr (.inl (List.mem_append_right _ hf))
abbrev FrR:=Bool×(Option Addr×Nat×Nat)×List MapEntry×Nat
def aCX(pk:Nat->ByteArray)(ls:List eE)(l:List gE)(cs:List (Nat×Nat))(S:Nat)(c:List Nat)(es:List MapEntry)(q:FrR):Prop:=(q.1=true->q.2.1.2.1=cs.length)/\(q.1=false->¬oV pk ls l cs S c/\FOk pk ls l cs q.2.2.1/\wu es q.2.2.1 S)
abbrev FrV(q:FrR):Value:=.tuple #[.slice q.2.1.1 q.2.1.2.1 q.2.1.2.2,.bool q.1]
def jb(pk:Nat->ByteArray)(ls:List eE)(l:List gE)(cs:List (Nat×Nat))(S:Nat)(c:List Nat)(j:Nat):Prop:=∀a o,cs[j]?=some a->Ki ls a=some o->S.testBit j=false->(∀i,i<cs.length->tW l cs a i=true->S.testBit i=true)->(B0 pk o c).1=(Ee l a).r->¬oV pk ls l cs (S ||| 2^j) (B0 pk o c).2
theorem lu{c:List Nat}(h:pZ cs.length S)(hs:∀j,j<cs.length->jb pk ls l cs S c j):¬oV pk ls l cs S c:=λ hc=>by
 cases hc with
 | done hd=>exact hd h
 | step j a o ha ho hS hb hr hc=>exact hs j (List.getElem?_eq_some_iff.1 ha).1 a o ha ho hS hb hr hc
set_option maxRecDepth 100000 in
set_option maxHeartbeats 2000000 in
theorem aCm(hd:DP pk ls l)(hts:A9 ls ls.length x.ts)(hK:Vb pk)(hm:m<18446744073709551616)(hn:cs.length<=16)(hcs:∀a∈cs,∃o,Ki ls a=some o):∀(r S:Nat) (L mv:List (Nat×Nat)) (k:Nat) (u:fz) (es:List MapEntry) (ck:Nat) (po:Option Addr) (co:Nat) (D:List Nat) (w:World),S<2^cs.length->iD S cs.length+r=cs.length->L.length=iD S cs.length->VM pk mv k->FOk pk ls l cs es ->
    SF w D (frH p ls.length c m cs.length x y u es ck (kW pk mv) k) (frA x y p ls l cs) [] [⟨po,dE sU L,co,91,2⟩] w ->
    Calls prog 23 #[pt y.b,.int .u32 (S:Int),pt u.b,.slice po L.length co] w λ e w'=>∃q:FrR,e=.returned (FrV q)/\aCX pk ls l cs S (mv.map Prod.fst) es q/\SF w D (frH p ls.length c m cs.length x y u q.2.2.1 q.2.2.2 (kW pk mv) k) [] [] [⟨po,dE sU L,co,91,2⟩] w':=by
     intro r;induction r using Nat.strongRecOn with
     | ind r ih=>
     intro S L mv k u es ck po co D w hS hr hL hv hF hs;have hop:∀a∈cs,∃o,Ki ls a=some o/\Jg pk o:=λ a ha=>by obtain⟨o,ho⟩:=hcs a ha;exact⟨o,ho,hd.op a o ho⟩
     have hS32:S<4294967296:=Nat.lt_of_lt_of_le hS (Nat.le_trans (Nat.pow_le_pow_right (by decide) hn) (by decide:2^16<=4294967296));have hR32:=aCT (λ _=>true) hn;have hreq:=zy (n:=cs.length) hS;have hcl:=Ck S cs.length;have hn8:=hd.hp.n;refine enter func23 ntmps23 rfl rfl hs ?_;simp only[bY]
     refine Pa ?_;refine aU ?_;refine aU ?_;refine gL [0,1,2,3,4,5,6,7,8,9,10] ?_;refine Th ?_;refine dA (i:=5) (hq:=(Ha (c:=((S &&& bB (λ _=>true) cs.length:Nat):Int)) rf rf (lx hS32 hR32))) (h:=?_);refine nZ ?_;refine Wm ?_;refine dY ?_;refine aX (λ c27=>?_) (λ c27=>?_)
     ·try (first|contradiction|(exfalso;omega))
      have hall:¬pZ cs.length S:=hreq.1 (by omega);have hfull:=Pm hall;refine J2 ?_;refine aJ (cF (V:=λ q:Option Addr×Nat=>.slice q.1 L.length q.2) (Fc:=λ q=>[(q.1,dE sU L)]) (hc:=λ w1 hw=>U9 (l:=L) (hw.cl (.own .head)) (by omega))) (λ x29 h29=>?_);refine J8 ?_;refine bJ results23 (λ w hw=>?_);exact⟨(true,(x29.1,L.length,x29.2),es,ck),rfl,⟨λ _=>by show L.length=_;omega,λ h=>by cases h⟩,hw.ret E0f aT.nil (List.Sublist.refl _)⟩
     ·try (first|contradiction|(exfalso;omega))
      have hna:pZ cs.length S:=Classical.byContradiction λ h=>c27 (by rw[hreq.2 h]);have hlt:=zL hna;refine Ix ?_;refine Jh ?_;refine aJ (cM (φ:=λ q:List Nat=>q.Perm (mv.map Prod.fst)) (V:=λ q:List Nat=>.string (Ar (tM pk q))) (hs:=(y.b,cz x.b cs.length y)::pP m u (kW pk mv) k) (os:=[]) (A0:=y.fr l ls cs) (hs':=λ _=>(y.b,cz x.b cs.length y)::pP m u (kW pk mv) k) (os':=λ _=>[]) (Fc:=λ _=>[]) (hc:=λ w1 hw=>aCD hK hm hv hn hop hS hna hw) (hA:=aFo)) (λ x34 h34=>?_);obtain⟨s,hsx⟩:∃s,s=Ar (tM pk x34):=⟨_,rfl⟩
      rw[<- hsx];obtain⟨r0,hr0,hr1⟩:=Rh S s es (λ e he=>by obtain⟨T,s,h,_⟩:=hF e he;exact⟨T,s,h⟩);have hr2:(r0=none/\∀e∈es,e.key≠yI S s)∨∃j,r0=some (j,.bool true)/\¬oV pk ls l cs S (mv.map Prod.fst):=by
       rcases hr1 with h|⟨j,e,h1,h2,h3⟩;·exact .inl h
       ·obtain⟨T,s2,h4,h5,h6⟩:=hF e h2;obtain⟨rfl,rfl⟩:=Hk (h4.symm.trans h3);exact .inr ⟨j,by rw[h1,h5],h6 mv k x34 hv h34 hsx⟩
      rcases hr2 with⟨rfl,hnk⟩|⟨j0,rfl,hnc⟩;all_goals (refine bX ?_;refine aK (cK λ _=>iJ (z:=[.int .u32 0,.string ⟨#[]⟩]) (by kernel_rfl)) (λ x10=>?_);refine aM (cK λ _=>aE (old:=[.int .u32 0,.string ⟨#[]⟩]) (cs:=[.int .u32 (S:Int),.string s]) rf bU rf rfl (by kernel_rfl) rf dV) (λ _=>?_);refine Bz ?_;refine aU ?_;refine gL [0,1,2,3,4,5] ?_;refine nZ ?_;refine bI (i:=4) (hq:=(nT (dQ rf bU (by kernel_rfl)))) (h:=?_);refine bI (i:=5) (hq:=(nT (Rl (k:=yI S s) (K:=111) (E:=4) (ze:=.bool false) rf rf bU (by kernel_rfl) (oj S s) hr0 (by kernel_rfl)))) (h:=?_);refine dY ?_)
      all_goals
       refine aX (λ c41=>?_) (λ c41=>?_)
       ·try exact nv c41
        all_goals refine Pa ?_
        all_goals refine bJ results23 (λ w hw=>?_);exact⟨(false,(none,0,0),es,ck),rfl,⟨λ h=>(by cases h),λ _=>⟨hnc,hF,λ e he=>.inl he⟩⟩,hw.ret E0a aT.nil (List.Sublist.refl _)⟩
       ·try exact nv c41
        all_goals (refine mD ?_;refine zG ?_;refine Ka9 ?_)
        all_goals
         refine mE [8,9,11,12,13,14,15,16,47,48,49,50,51,52,53,54,55,56,57,58,59,60,61,62,63,64,65,66,67,68,69,70,71,72,73,74,75,76,77,78,79,80,81,82,83,84,85,86,87,88,89,90,91,92,93,94,95,96,97,98,99,100,101,102,103,104,105,106,107,108,109,110,111,112,113,114,115,116,117,118] (λ v:Nat×List MapEntry×Nat=>[(47,.int .i64 ((v.1:Nat):Int))]) (λ v=>v.1<=cs.length/\FOk pk ls l cs v.2.1/\wu es v.2.1 (S+1)/\∀i,i<v.1->jb pk ls l cs S (mv.map Prod.fst) i) (λ v=>(x10,.cells ⟨[.int .u32 (S:Int),.string s]⟩ 111 (0,0))::frH p ls.length c m cs.length x y u v.2.1 v.2.2 (kW pk mv) k) (λ v=>[]) (λ v=>[⟨po,dE sU L,co,91,2⟩]) (λ v=>cs.length-v.1) ((0,es,ck)) (⟨Nat.zero_le _,hF,λ e he=>.inl he,λ i hi=>absurd hi (Nat.not_lt_zero i)⟩) (λ v f hx=>?_);refine K0a ?_;obtain⟨j,es1,ck1⟩:=v;replace hx:j<=cs.length/\FOk pk ls l cs es1/\wu es es1 (S+1)/\∀i,i<j->jb pk ls l cs S (mv.map Prod.fst) i:=hx;obtain⟨hj,hF1,hN1,hno⟩:=hx;dsimp only;refine Ka7 ?_;refine aX (λ c48=>?_) (λ c48=>?_)
         ·try (first|contradiction|(exfalso;omega))
          have hj:j<cs.length:=by omega
          obtain⟨a,ha⟩:∃a,cs[j]?=some a:=⟨cs[j],List.getElem?_eq_getElem hj⟩;obtain⟨o,ho,hod⟩:=hop a (List.mem_of_getElem? ha);obtain⟨s3,g1,g2,g3⟩:=Cs ho;have ha8:a.1<ls.length:=(List.getElem?_eq_some_iff.1 g1).1;have ha16:=hd.hp.m s3 (List.mem_of_getElem? g1);have hE32:=aCT (tW l cs a) hn;have hEz:=L9 (Xf (tW l cs a) cs.length) (by omega) hS32;have hpj:2^j<=2^16:=Nat.pow_le_pow_right (by decide) (by omega)
          have hnx:jb pk ls l cs S (mv.map Prod.fst) j->∀i,i<j+1->jb pk ls l cs S (mv.map Prod.fst) i:=λ h i hi=>by
           rcases Nat.lt_succ_iff_lt_or_eq.1 hi with h2|rfl;·exact hno i h2
           ·exact h
          refine Kb4 ?_;refine aA (cR (f:=sU) (l:=cs) oW (by decide) rf rf fU (by kernel_rfl) (.old (.tail (.tail (.tail (.tail .head))))) hj hj) rfl ?_;refine aA (fJ (f:=sU) (l:=cs) (k:=j) oW rf (by kernel_rfl) (.old (.tail (.tail (.tail (.tail .head))))) ha) rfl ?_;refine aK (cK λ _=>iJ (z:=[.int .i64 0,.int .i64 0]) (by kernel_rfl)) (λ x12=>?_);refine fD (λ _=>?_);refine aM (cK λ _=>aE rf bU rf rfl (by kernel_rfl) rf dV) (λ _=>?_);refine aC ?_;refine Ir ?_;refine aA (Fs rf rf (by omega)) rfl ?_;refine aA (Ha (c:=if S.testBit j=true then 1 else 0) rf rf (Wn hS32 (by omega))) rfl ?_;refine tL ?_;refine aD ?_;(refine kT 57 (λ g57=>?_) (λ g57=>?_)<;>refine Ka0 ?_);all_goals ((first|refine bG ?_|(refine aG ?_;refine cA ?_));refine J6 ?_;refine Ka0 ?_;(first|refine bG ?_|(refine aG ?_;refine aA (fM (cs:=gF (ru l cs) cs cs.length) rf rf fU iH (.old (.tail (.tail (.tail .head)))) hj (by rw[jR (Nat.le_refl _)];exact hj)) rfl ?_));(first|refine bG ?_|(refine aG ?_;refine aA (eY (cs:=gF (ru l cs) cs cs.length) (v:=.int .u32 ((bB (tW l cs a) cs.length:Nat):Int)) rf iH (.old (.tail (.tail (.tail .head)))) (wN ha hj)) rfl ?_));refine Ka0 ?_;(first|refine bG ?_|(refine aG ?_;refine aA (bk (c:=((bB (tW l cs a) cs.length &&& (4294967295-S):Nat):Int)) rf rf (cu hE32 hS32)) rfl ?_));refine J38 ?_;refine aC ?_)
          all_goals
           refine aX (λ c68=>?_) (λ c68=>?_)
           ·all_goals try (first|contradiction|(exfalso;omega))
            all_goals (refine bQ rfl ?_;refine Ka3 ?_)
            all_goals refine K0w ?_;·first|exact⟨hj,hF1,hN1,hnx λ a2 o2 ha2 ho2 _ h _=>by rw[ha] at ha2;cases ha2;exact absurd (congrArg (λ n:Nat=>(n:Int)) (hEz.2 λ i hi hb=>h i hi (by rw[Vd] at hb;simpa[hi] using hb))) c68⟩|exact⟨hj,hF1,hN1,hnx λ a2 o2 ha2 ho2 h _ _=>by rw[h] at g57;simp at g57⟩
           ·try exact nv c68
            all_goals
             have hSj:S.testBit j=false:=by
              cases h:S.testBit j with
              | false=>rfl
              | true=>exfalso;simp_all
             obtain⟨rs,hrs⟩:∃rs,rs=(B0 pk o (mv.map Prod.fst)).1:=⟨_,rfl⟩
            all_goals (refine Kc6 ?_;refine aJ (Pq (V:=λ g:fz=>pt g.b) (hs:=pP m u (kW pk mv) k) (os:=[]) (hs':=λ _=>pP m u (kW pk mv) k) (Hc:=λ g=>pP m g (kW pk mv) k) (os':=λ _=>[]) (Oc:=λ _=>[]) (Fc:=λ _=>[]) (A0:=[]) (hc:=λ w1 hw=>ob hw)) (λ x70 h70=>?_);refine nN ?_)
            all_goals
             refine wK [14,71,72,73,74,75,76,77,78,79,80,81,82] (λ kk:Nat=>[(14,.pointer (some ⟨kk,0,none⟩))]) (λ _=>True) (λ kk=>[(kk,.cells ⟨rs.cells⟩ 74 (0,0))]++pP m x70 (kW pk (Ke pk o mv k).1) (Ke pk o mv k).2++[(x12,.cells ⟨sU a⟩ 91 (0,0)),(x10,.cells ⟨[.int .u32 (S:Int),.string s]⟩ 111 (0,0))]++frH p ls.length c m cs.length x y u es1 ck1 (kW pk mv) k) (λ _=>[]) (λ _=>[⟨po,dE sU L,co,91,2⟩]) (by decide) (λ _=>by exact rfl) ?_ (λ kk f hx=>?_)
             ·refine oG (.one 0 [] (.one 1 [] (.one 2 [] (.one 3 [] (.one 4 [] (.one 5 [] (.one 6 [] (.one 7 [] (.one 8 [] (.one 9 [] (.two 10 [1,2,3,4] (.two 11 [] (.one 12 [1,2,3,4,8,9] (.one 13 [] .nil)) 0 [] (.two 12 [1,2,3,4,8,9] (.one 11 [] (.one 13 [] .nil)) 0 [] .nil)) 0 [] (.two 12 [1,2,3,4,8,9] (.one 10 [1,2,3,4] (.one 11 [] (.one 13 [] .nil))) 0 [] .nil)))))))))))) ?_;refine aR ?_;refine bI (i:=1) (hq:=(jY (n:=2) (k:=0) (e:=3) rf rf (by kernel_rfl) (by kernel_rfl) (by decide))) (h:=?_);refine cJ ?_;refine bI (i:=3) (hq:=(jY (n:=2) (k:=1) (e:=3) rf rf (by kernel_rfl) (by kernel_rfl) (by decide))) (h:=?_);refine cJ ?_;refine nZ ?_;refine bI (i:=9) (hq:=(nT (dQ rf bU (by kernel_rfl)))) (h:=?_);refine nR (E:=[10,12]) (by decide +kernel) ((.cons ?_ (.cons ?_ .nil)))
              ·refine Ch (i:=10) (hq:=(cM (φ:=λ _=>True) (V:=λ _:Unit=>.agg ⟨o.cells⟩) (hs:=[(x.b,sD p ls.length c x)]) (os:=[]) (A0:=Ie x l p ls) (hs':=λ _=>[(x.b,sD p ls.length c x)]) (os':=λ _=>[]) (Fc:=λ _=>[]) (hc:=λ w1 hw=>(M0 ho hw).mono λ _ _ ⟨e,h⟩=>⟨(),e,trivial,h⟩) (hA:=n0))) (hfire:=(λ _=>by(refine gT ?_;(repeat (first|exact aS.nil|refine aS.cons (by first|exact fO (hq:=jY (n:=2) (k:=0) (e:=3) rf rf (by kernel_rfl) (by kernel_rfl) (by decide))|exact fR|exact fO (hq:=jY (n:=2) (k:=1) (e:=3) rf rf (by kernel_rfl) (by kernel_rfl) (by decide))) ?_));done))) (h:=λ x81 h81=>?_);refine nR (E:=[11,12]) (by decide +kernel) ((.cons ?_ (.cons ?_ .nil)));·refine Ch (i:=11) (hq:=(cM (φ:=λ _=>True) (V:=λ _:Unit=>.agg ⟨rs.cells⟩) (hs:=pP m x70 (kW pk mv) k) (os:=[]) (A0:=[]) (hs':=λ _=>pP m x70 (kW pk (Ke pk o mv k).1) (Ke pk o mv k).2) (os':=λ _=>[]) (Fc:=λ _=>[]) (hc:=λ w1 hw=>(hrs▸Cp (a:=a) (by omega) (by omega) hod hw).mono λ _ _ ⟨e,h⟩=>⟨(),e,trivial,h⟩))) (h:=λ x82 h82=>?_);refine cB (i:=12) (hq:=(cK λ _=>iJ (z:=Rs.zero.cells) (by kernel_rfl))) (hfire:=E0g) (h:=λ x14=>?_);refine fC (i:=13) (hq:=(cK λ _=>aE (old:=Rs.zero.cells) (cs:=rs.cells) rf bU rf rfl cW rf dV)) (h:=λ _=>?_);refine K0o ?_;·trivial
               ·refine rE (i:=12) (hq:=(cK λ _=>iJ (z:=Rs.zero.cells) (by kernel_rfl))) (hfire:=E0g) (h:=λ x14=>?_);refine bS (i:=11) (hq:=(cM (φ:=λ _=>True) (V:=λ _:Unit=>.agg ⟨rs.cells⟩) (hs:=pP m x70 (kW pk mv) k) (os:=[]) (A0:=[]) (hs':=λ _=>pP m x70 (kW pk (Ke pk o mv k).1) (Ke pk o mv k).2) (os':=λ _=>[]) (Fc:=λ _=>[]) (hc:=λ w1 hw=>(hrs▸Cp (a:=a) (by omega) (by omega) hod hw).mono λ _ _ ⟨e,h⟩=>⟨(),e,trivial,h⟩))) (h:=λ x82 h82=>?_);refine fC (i:=13) (hq:=(cK λ _=>aE (old:=Rs.zero.cells) (cs:=rs.cells) rf bU rf rfl cW rf dV)) (h:=λ _=>?_);refine K0o ?_;·trivial
              ·refine rE (i:=12) (hq:=(cK λ _=>iJ (z:=Rs.zero.cells) (by kernel_rfl))) (hfire:=E0g) (h:=λ x14=>?_);refine bS (i:=10) (hq:=(cM (φ:=λ _=>True) (V:=λ _:Unit=>.agg ⟨o.cells⟩) (hs:=[(x.b,sD p ls.length c x)]) (os:=[]) (A0:=Ie x l p ls) (hs':=λ _=>[(x.b,sD p ls.length c x)]) (os':=λ _=>[]) (Fc:=λ _=>[]) (hc:=λ w1 hw=>(M0 ho hw).mono λ _ _ ⟨e,h⟩=>⟨(),e,trivial,h⟩) (hA:=n0))) (hfire:=(λ _=>by(refine gT ?_;(repeat (first|exact aS.nil|refine aS.cons (by first|exact fO (hq:=jY (n:=2) (k:=0) (e:=3) rf rf (by kernel_rfl) (by kernel_rfl) (by decide))|exact fR|exact fO (hq:=jY (n:=2) (k:=1) (e:=3) rf rf (by kernel_rfl) (by kernel_rfl) (by decide))) ?_));done))) (h:=λ x81 h81=>?_);refine bS (i:=11) (hq:=(cM (φ:=λ _=>True) (V:=λ _:Unit=>.agg ⟨rs.cells⟩) (hs:=pP m x70 (kW pk mv) k) (os:=[]) (A0:=[]) (hs':=λ _=>pP m x70 (kW pk (Ke pk o mv k).1) (Ke pk o mv k).2) (os':=λ _=>[]) (Fc:=λ _=>[]) (hc:=λ w1 hw=>(hrs▸Cp (a:=a) (by omega) (by omega) hod hw).mono λ _ _ ⟨e,h⟩=>⟨(),e,trivial,h⟩))) (h:=λ x82 h82=>?_);refine fC (i:=13) (hq:=(cK λ _=>aE (old:=Rs.zero.cells) (cs:=rs.cells) rf bU rf rfl cW rf dV)) (h:=λ _=>?_);refine K0o ?_;·trivial
             refine K0a ?_
            all_goals (refine aU ?_;refine aU ?_;refine eQ [(0,[]),(1,[]),(2,[]),(3,[]),(4,[]),(5,[]),(6,[]),(7,[]),(8,[]),(9,[]),(10,[]),(11,[]),(12,[]),(13,[]),(14,[]),(15,[9]),(16,[]),(17,[]),(18,[])] ?_;refine nZ ?_;refine aR ?_;refine dA (i:=5) (hq:=(Fs rf rf (by omega))) (h:=?_);refine dA (i:=6) (hq:=(Ha (c:=1) rf rf (by rw[Wn hR32 (by omega),if_pos (M3 hj)]))) (h:=?_);refine Wm ?_;refine aR ?_)
            all_goals ((refine bI (i:=9) (hq:=(nT (dQ rf bU (by kernel_rfl)))) (h:=?_)))
            all_goals (((refine aR ?_));refine J30 ?_;((refine bI (i:=14) (hq:=(nT (dQ rf bU (by kernel_rfl)))) (h:=?_)));((refine bS (i:=15) (hq:=(cM (φ:=λ _=>True) (V:=λ _:Unit=>.agg ⟨(Ee l a).cells⟩) (hs:=[(x.b,sD p ls.length c x)]) (os:=[]) (A0:=Ie x l p ls) (hs':=λ _=>[(x.b,sD p ls.length c x)]) (os':=λ _=>[]) (Fc:=λ _=>[]) (hc:=λ w1 hw=>(Bj hts ho hw).mono λ _ _ ⟨e,h⟩=>⟨(),e,trivial,h⟩) (hA:=n0))) (hfire:=(λ _=>by(refine gT ?_;refine aS.cons (by exact fO (hq:=nT (dQ rf bU (by kernel_rfl)))) ?_;exact aS.nil))) (h:=λ x98 h98=>?_)));((refine dA (i:=16) (hq:=(qc (v:=.agg ⟨(Ee l a).cells⟩) rf (q5 _))) (h:=?_)));((refine dA (i:=17) (hq:=(W4 (a:=rs) (b:=(Ee l a).r) rf rf (by kernel_rfl))) (h:=?_)));refine sB ?_;refine dY ?_)
            all_goals
             refine aX (λ c101=>?_) (λ c101=>?_)
             ·try (first|contradiction|(exfalso;omega))
              refine K1o ?_;refine Ka3 ?_;refine K0w ?_;·(exact⟨hj,hF1,hN1,hnx λ a2 o2 ha2 ho2 _ _ h=>by rw[ha] at ha2;cases ha2;rw[ho] at ho2;cases ho2;exact absurd (hrs.trans h) c101⟩)
             ·try (first|contradiction|(exfalso;omega))
              have hre:(B0 pk o (mv.map Prod.fst)).1=(Ee l a).r:=by rw[<- hrs];assumption
              have hS2:=aEw hS hj;have hS232:S ||| 2^j<4294967296:=Nat.lt_of_lt_of_le hS2 (Nat.le_trans (Nat.pow_le_pow_right (by decide) hn) (by decide:2^16<=4294967296));have hgt:=aFu hSj;have hcm:=Br (b':=S ||| 2^j) hSj (λ i _=>qI S j i) cs.length (by omega);rw[if_pos hj] at hcm;refine mD ?_;refine gL [0,1,2,3,4,5,6,7,8,9,10,11,12,13,14,15] ?_;refine Bx ?_;refine aR ?_;refine dA (i:=3) (hq:=(Vx (c:=((2^j:Nat):Int)) rf rf (by omega) (U0 (by omega)))) (h:=?_);refine dA (i:=4) (hq:=(ov (c:=((S ||| 2^j:Nat):Int)) rf rf (u5 hS32 (by omega)))) (h:=?_);refine Bx ?_;refine bI (i:=7) (hq:=(nT (dQ rf bU (by kernel_rfl)))) (h:=?_);refine cB (i:=8) (hq:=E0n) (h:=λ x111=>?_);((refine cB (i:=9) (hq:=(Vg (f:=sU) (l:=L) (v1:=a) oW (by decide) rfl rf rf rfl (.new .head) mZ rfl fU (by omega))) (h:=λ x112=>?_);try (refine iV (λ h112=>?_))));refine bS (i:=10) (hq:=(cM (φ:=aCX pk ls l cs (S ||| 2^j) ((Ke pk o mv k).1.map Prod.fst) es1) (V:=FrV) (hs:=frH p ls.length c m cs.length x y x70 es1 ck1 (kW pk (Ke pk o mv k).1) (Ke pk o mv k).2) (os:=[⟨x112.1,dE sU (L++[a]),x112.2.1,91,2⟩]) (A0:=frA x y p ls l cs) (hs':=λ q:FrR=>frH p ls.length c m cs.length x y x70 q.2.2.1 q.2.2.2 (kW pk (Ke pk o mv k).1) (Ke pk o mv k).2) (os':=λ _=>[⟨x112.1,dE sU (L++[a]),x112.2.1,91,2⟩]) (Fc:=λ _=>[]) (hc:=λ w1 hw=>ih (r-1) (by omega) (S ||| 2^j) (L++[a]) (Ke pk o mv k).1 (Ke pk o mv k).2 x70 es1 ck1 x112.1 x112.2.1 _ w1 hS2 (by omega) (by rw[List.length_append,hL,hcm];rfl) (hv.ap hod) hF1 hw))) (h:=λ x113 h113=>?_);refine K0x ?_;refine mg ?_;refine J2 ?_;refine aC ?_;refine aX (λ c116=>?_) (λ c116=>?_)
              ·try (first|contradiction|(exfalso;omega))
               refine J2 ?_;refine J8 ?_;refine bJ results23 (λ w hw=>?_);exact⟨(true,x113.2.1,x113.2.2.1,x113.2.2.2),rfl,⟨λ _=>h113.1 (by assumption),λ h=>(by cases h)⟩,(SF.P0 hw h112).ret E0a aT.nil (List.Sublist.refl _)⟩
              ·try (first|contradiction|(exfalso;omega))
               refine Kd0 ?_;refine nS (by exact(j+1,x113.2.2.1,x113.2.2.2)) ?_ (hw1:=λ w hw=>by exact(SF.P0 hw h112).back (hH:=by repeat (first|exact List.Sublist.refl _|apply List.Sublist.cons)) (hF:=by exact aT.nil) (hO:=E0q)) (hμ:=by show cs.length-(j+1)<_;omega);·(exact⟨hj,(h113.2 c116).2.1,λ e he=>((h113.2 c116).2.2 e he).elim (λ h=>hN1 e h) (λ⟨T,s,h1,h2⟩=>.inr ⟨T,s,h1,by omega⟩),hnx λ a2 o2 ha2 ho2 _ _ _=>by rw[ha] at ha2;cases ha2;rw[ho] at ho2;cases ho2;rw[<- aAo];exact(h113.2 c116).1⟩)
         ·try (first|contradiction|(exfalso;omega))
          obtain rfl:j=cs.length:=by omega
          obtain⟨r1,hr3,hr4⟩:=Rh S s es1 (λ e he=>by obtain⟨T,s,h,_⟩:=hF1 e he;exact⟨T,s,h⟩);have hrn:r1=none:=by
           rcases hr4 with h|⟨_,e,_,h2,h3⟩;·exact h.1
           ·exfalso;rcases hN1 e h2 with h4|⟨T,s4,h4,h5⟩;·exact hnk e h4 h3
            ·have:=(Hk (h4.symm.trans h3)).1;omega
          subst hrn;have hnc:=lu hna hno
          have hFE:FOk pk ls l cs (es1++[⟨yI S s,.bool true,ck1⟩]):=λ e he=>by
           rcases List.mem_append.1 he with he|he;·exact hF1 e he
           ·rw[List.mem_singleton.1 he];exact⟨S,s,rfl,rfl,λ mv' k' q' hv' hq' hs' hc'=>hnc (hc'.eqv (ua hv' hv hq' h34 (hs'.symm.trans hsx)))⟩
          have hNE:wu es (es1++[⟨yI S s,.bool true,ck1⟩]) S:=λ e he=>by
           rcases List.mem_append.1 he with he|he;·exact(hN1 e he).imp id λ⟨T,s,h1,h2⟩=>⟨T,s,h1,by omega⟩
           ·rw[List.mem_singleton.1 he];exact .inr ⟨S,s,rfl,Nat.le_refl _⟩
          refine K1o ?_;refine aU ?_;refine gL [0,1,2,3,4,5] ?_;refine nZ ?_;refine cJ ?_;refine fC (i:=5) (hq:=(cK λ _=>ur (k:=yI S s) (v:=.bool true) (K:=111) (E:=4) rf rf rf bU (by kernel_rfl) (oj S s) hr3 dV)) (h:=λ _=>?_);refine dY ?_;refine Pa ?_;refine bJ results23 (λ w hw=>?_);exact⟨(false,(none,0,0),es1++[⟨yI S s,.bool true,ck1⟩],ck1+1),rfl,⟨λ h=>(by cases h),λ _=>⟨hnc,hFE,hNE⟩⟩,hw.ret E0a aT.nil (List.Sublist.refl _)⟩
end
end Go.Proofs.YthblobahelfefaaGreatDoor

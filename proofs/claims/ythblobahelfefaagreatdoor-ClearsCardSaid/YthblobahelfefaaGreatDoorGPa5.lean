/- Merged. -/
import Derived.Test.YthblobahelfefaaGreatDoorGAutoD
import Derived.Test.YthblobahelfefaaGreatDoorGBit2
import Derived.Test.YthblobahelfefaaGreatDoorGPa2
import Derived.Test.YthblobahelfefaaGreatDoorGAr5
import Derived.Test.YthblobahelfefaaGreatDoorGBr3
set_option linter.unusedSimpArgs false
set_option linter.unusedVariables false
namespace Go.Proofs.YthblobahelfefaaGreatDoor
open Go.RowKit Go.Ct
section
def sw(ys:List Pr)(i j:Nat):List Pr:=(ys.set i (ys.getD j (⟨#[]⟩,0))).set j (ys.getD i (⟨#[]⟩,0))
variable{i j:Nat}{ys:List Pr}
theorem nh(ys:List Pr)(i j:Nat):(sw ys i j).length=ys.length:=by simp[sw]
theorem za(ys:List Pr)(h:i≠j):sw ys i j=sw ys j i:=List.set_comm _ _ h
theorem Q8{t:Nat}{v:Pr}(hi:i<ys.length):(ys.set i v).getD t (⟨#[]⟩,0)=if t=i then v else ys.getD t (⟨#[]⟩,0):=by
 simp only[List.getD,List.getElem?_set];by_cases h:t=i;·subst h;simp[hi]
 ·rw[if_neg h,if_neg λ e=>h e.symm]
theorem aCk(hi:i<ys.length)(hj:j<ys.length)(t:Nat):(sw ys i j).getD t (⟨#[]⟩,0)=if t=j then ys.getD i (⟨#[]⟩,0) else if t=i then ys.getD j (⟨#[]⟩,0) else ys.getD t (⟨#[]⟩,0):=by unfold sw;rw[Q8 (by rw[List.length_set];exact hj),Q8 hi]
theorem aDe(P M Q:List Pr)(x y:Pr)(hi:i=P.length)(hj:j=P.length+1+M.length):sw (P++x::(M++y::Q)) i j=P++y::(M++x::Q):=by
 subst hi hj;have e1:(P++x::(M++y::Q)).getD P.length (⟨#[]⟩,0)=x:=by simp[List.getD]
 have e2:(P++x::(M++y::Q)).getD (P.length+1+M.length) (⟨#[]⟩,0)=y:=by rw[show P++x::(M++y::Q)=(P++x::M)++y::Q by simp,show P.length+1+M.length=(P++x::M).length by simp;omega];simp[List.getD]
 unfold sw;rw[e1,e2,List.set_append_right _ _ (Nat.le_refl _),Nat.sub_self,List.set_cons_zero];rw[List.set_append_right _ _ (by omega),show P.length+1+M.length-P.length=M.length+1 by omega,List.set_cons_succ,List.set_append_right _ _ (Nat.le_refl _),Nat.sub_self,List.set_cons_zero]
structure Sg(a b:Nat)(zs ys:List Pr):Prop where
 len:zs.length=ys.length
 lo:zs.take a=ys.take a
 hi:zs.drop b=ys.drop b
 stb:Nk zs ys
theorem Sg.rfl{a b:Nat}{ys:List Pr}:Sg a b ys ys:=⟨.refl _,.refl _,.refl _,Nk.rfl⟩
theorem Sg.trans{a b:Nat}{xs ys zs:List Pr}(h:Sg a b xs ys)(h2:Sg a b ys zs):Sg a b xs zs:=⟨h.len.trans h2.len,h.lo.trans h2.lo,h.hi.trans h2.hi,h.stb.trans h2.stb⟩
theorem Sg.wide{a b a' b':Nat}{zs ys:List Pr}(h:Sg a b zs ys)(ha:a'<=a)(hb:b<=b'):Sg a' b' zs ys :=
 ⟨h.len,by have:=congrArg (List.take a') h.lo;rwa [List.take_take,List.take_take,Nat.min_eq_left ha] at this,by have:=congrArg (List.drop (b'-b)) h.hi;rwa [List.drop_drop,List.drop_drop,show b+(b'-b)=b' by omega] at this,h.stb⟩
def SR(ys:List Pr)(a b:Nat):Prop:=∀i j,a<=i->i<j->j<b->cG (ys.getD j (⟨#[]⟩,0)).1 (ys.getD i (⟨#[]⟩,0)).1=false
variable{k a b:Nat}
theorem SR.ws{ys:List Pr}(h:SR ys 0 ys.length):WS ys:=List.pairwise_iff_getElem.2 λ i j hi hj hij=>by have:=h i j (Nat.zero_le _) hij hj;rwa [iM hi,iM hj] at this
theorem nl{ys:List Pr}(h:k+1<ys.length):ys=ys.take k++ys.getD k (⟨#[]⟩,0)::([]++ys.getD (k+1) (⟨#[]⟩,0)::ys.drop (k+2)):=by
 conv=>lhs;rw[<- List.take_append_drop k ys]
 rw[List.drop_eq_getElem_cons (by omega),List.drop_eq_getElem_cons h,iM (by omega),iM h];rfl
theorem aB5{ys:List Pr}(h:k+1<ys.length):sw ys k (k+1)=ys.take k++ys.getD (k+1) (⟨#[]⟩,0)::([]++ys.getD k (⟨#[]⟩,0)::ys.drop (k+2)):=by
 conv=>lhs;rw[nl h]
 exact aDe _ _ _ _ _ E0p (by rw[List.length_take];simp;omega)
theorem aEc{ys zs P X Y Q:List Pr}(e:ys=P++(X++Q))(e2:zs=P++(Y++Q))(hl:Y.length=X.length)(hs:Nk Y X)(ha:a<=P.length)(hb:P.length+X.length<=b):Sg a b zs ys:=by subst e e2;refine⟨by simp[hl],by rw[List.take_append_of_le_length ha,List.take_append_of_le_length ha],?_,Nk.rfl.dg (hs.dg Nk.rfl)⟩;obtain⟨d,rfl⟩:=Nat.exists_eq_add_of_le hb;rw[show P.length+X.length+d=P.length+(X.length+d) by omega,List.drop_append,List.drop_append,List.drop_append,List.drop_append];simp only[List.drop_eq_nil_of_le (show P.length<=P.length+(X.length+d) by omega),Nat.add_sub_cancel_left,List.nil_append];rw[List.drop_eq_nil_of_le (show X.length<=X.length+d by omega),List.drop_eq_nil_of_le (show Y.length<=X.length+d by omega),hl,Nat.add_sub_cancel_left]
theorem aFp{ys:List Pr}(h:k+1<ys.length)(ha:a<=k)(hb:k+2<=b)(hn:(ys.getD (k+1) (⟨#[]⟩,0)).1≠(ys.getD k (⟨#[]⟩,0)).1):Sg a b (sw ys k (k+1)) ys :=
 aEc (P:=ys.take k) (X:=[ys.getD k (⟨#[]⟩,0),ys.getD (k+1) (⟨#[]⟩,0)]) (Y:=[ys.getD (k+1) (⟨#[]⟩,0),ys.getD k (⟨#[]⟩,0)]) (Q:=ys.drop (k+2)) (nl h) (aB5 h) (.refl _)
  (j9 (l:=[ys.getD (k+1) (⟨#[]⟩,0)]) (m:=[ys.getD k (⟨#[]⟩,0)]) λ p hp q hq=>by rw[List.mem_singleton.1 hp,List.mem_singleton.1 hq];exact hn)
  E0p (by rw[List.length_take];simp;omega)
def Dh(a:Nat):Nat->List Pr->List Pr
 | 0,ys=>ys
 | j+1,ys=>if a<j+1/\cG (ys.getD (j+1) (⟨#[]⟩,0)).1 (ys.getD j (⟨#[]⟩,0)).1=true then Dh a j (sw ys (j+1) j) else ys
def Jx(a:Nat):Nat->Nat->List Pr->List Pr
 | _,0,ys=>ys
 | i,n+1,ys=>Jx a (i+1) n (Dh a i ys)
theorem aq{a i:Nat}:∀{j:Nat} {ys:List Pr},a<=j->j<=i->i<ys.length->(∀p q,a<=p->p<q->q<=i->p≠j->q≠j->cG (ys.getD q (⟨#[]⟩,0)).1 (ys.getD p (⟨#[]⟩,0)).1=false) ->
  (∀q,j<q->q<=i->cG (ys.getD j (⟨#[]⟩,0)).1 (ys.getD q (⟨#[]⟩,0)).1=true)->SR (Dh a j ys) a (i+1)/\Sg a (i+1) (Dh a j ys) ys:=by
 intro j;induction j with
 | zero=>
  intro ys h1 h2 h3 h4 h5;refine⟨λ p q p1 p2 p3=>?_,Sg.rfl⟩;by_cases hp:p=0;·subst hp;exact vS (h5 q p2 (by omega))
  ·exact h4 p q p1 p2 (by omega) hp (by omega)
 | succ j ih=>
  intro ys h1 h2 h3 h4 h5;rw[Dh];split
  ·next hc =>
   obtain⟨c1,c2⟩:=hc;have g:=aCk (ys:=ys) (i:=j+1) (j:=j) (by omega) (by omega);have gj:(sw ys (j+1) j).getD j (⟨#[]⟩,0)=ys.getD (j+1) (⟨#[]⟩,0):=by rw[g,if_pos rfl]
   have gj1:(sw ys (j+1) j).getD (j+1) (⟨#[]⟩,0)=ys.getD j (⟨#[]⟩,0):=by rw[g,if_neg (by omega),if_pos rfl]
   have go:∀t,t≠j->t≠j+1->(sw ys (j+1) j).getD t (⟨#[]⟩,0)=ys.getD t (⟨#[]⟩,0):=λ t t1 t2=>by rw[g,if_neg t1,if_neg t2]
   have key:=ih (ys:=sw ys (j+1) j) (by omega) (by omega) (by rw[nh];exact h3) (λ p q p1 p2 p3 p4 p5=>by
    by_cases hq:q=j+1;·subst hq;rw[gj1,go p p4 (by omega)];exact h4 p j p1 (by omega) (by omega) (by omega) (by omega)
    ·by_cases hp:p=j+1;·subst hp;rw[gj1,go q p5 hq];exact h4 j q (by omega) (by omega) p3 (by omega) hq
     ·rw[go p p4 hp,go q p5 hq];exact h4 p q p1 p2 p3 hp hq) (λ q q1 q2=>by
    rw[gj];by_cases hq:q=j+1;·subst hq;rw[gj1];exact c2
    ·rw[go q (by omega) hq];exact h5 q (by omega) q2)
   have hsg:Sg a (i+1) (sw ys (j+1) j) ys:=by rw[za ys (by omega)];exact aFp (by omega) (by omega) (by omega) (lK c2)
   exact⟨key.1,key.2.trans hsg⟩
  ·next hc =>
   refine⟨λ p q p1 p2 p3=>?_,Sg.rfl⟩;by_cases hq:q=j+1
   ·subst hq;have h0:cG (ys.getD (j+1) (⟨#[]⟩,0)).1 (ys.getD j (⟨#[]⟩,0)).1=false:=by
     cases hb:cG (ys.getD (j+1) (⟨#[]⟩,0)).1 (ys.getD j (⟨#[]⟩,0)).1 with
     | false=>rfl
     | true=>exact absurd ⟨by omega,hb⟩ hc
    by_cases hpj:p=j;·subst hpj;exact h0
    ·exact nj (h4 p j p1 (by omega) (by omega) (by omega) (by omega)) h0
   ·by_cases hp:p=j+1;·subst hp;exact vS (h5 q p2 (by omega))
    ·exact h4 p q p1 p2 (by omega) hp hq
theorem K8{a:Nat}:∀{n i:Nat} {ys:List Pr},a<=i->i+n<=ys.length->SR ys a i->SR (Jx a i n ys) a (i+n)/\Sg a (i+n) (Jx a i n ys) ys
 | 0,_,_,_,_,h=>⟨h,Sg.rfl⟩
 | n+1,i,ys,h1,h2,h=>by have k:=aq (a:=a) (i:=i) (j:=i) (ys:=ys) h1 (Nat.le_refl _) (by omega) (λ p q p1 p2 p3 p4 p5=>h p q p1 p2 (by omega)) (λ q q1 q2=>by omega);have k2:=K8 (a:=a) (n:=n) (i:=i+1) (ys:=Dh a i ys) (by omega) (by rw[k.2.len];omega) k.1;rw[Jx,show i+(n+1)=i+1+n by omega];exact⟨k2.1,k2.2.trans (k.2.wide (Nat.le_refl _) (by omega))⟩
end
end Go.Proofs.YthblobahelfefaaGreatDoor
namespace Go.Ct
open Go Go.RowKit
section
section
variable{P:Program}{S:List (Nat×Value)}{w0 w w':World}{M:List Nat}{H:List (Nat×Obj)}{A F:Fr}{O:List Ow}
variable{i c sz:Nat}{p:Option Addr}{cs:List Value}{T:TypeId}
theorem SF.o1{o:Ow}(h:tT w o):SF w (fV o.p) [] [] [] [o] w:=by
 refine⟨⟨rfl,rfl,rfl,Nat.le_refl _,λ _ _ _=>rfl,λ _ h=>(List.not_mem_nil h).elim,λ _ h=>(List.not_mem_nil h).elim,List.nodup_nil⟩,λ _ h=>(List.not_mem_nil h).elim,λ _ h=>(List.not_mem_nil h).elim,λ o' ho=>?_,?_⟩;·simp only[List.mem_singleton] at ho;subst ho;exact⟨h,λ b hb=>.inr hb⟩
 ·simpa[Ks] using eN o.p
theorem SF.ow(h:SF w0 M H A F O w)(ho:mN O i p cs c T sz):tT w ⟨p,cs,c,T,sz⟩:=(h.own _ ho.mem).1
theorem SF.aEC(h:SF w0 M H A F O w){cs':List Value}(ho:mN O i p cs c T sz)(hc:SF w (fV p) [] [] [] [⟨p,cs',c,T,sz⟩] w'):SF w0 M H A F (eL O i ⟨p,cs',c,T,sz⟩) w':=by
 have hin:∀b∈fV p,b∈Ks H O:=λ b hb=>dX.2 (.inr ⟨_,ho.mem,hb⟩);have nd:=List.nodup_append.1 h.dis;have nd2:=List.nodup_append.1 ((wD ho).nodup_iff.1 nd.2.1)
 have:=h.Wo (D:=fV p) (Hm:=[]) (Hc:=[]) (Om:=[⟨p,cs',c,T,sz⟩]) (Oc:=[]) (H1:=H) (O1:=eL O i ⟨p,cs',c,T,sz⟩) (Fc:=[]) (by simpa using hc) hin
  (λ q hq=>.inr ⟨hq,λ hm=>nd.2.2 q.1 (List.mem_map.2 ⟨q,hq,rfl⟩) q.1 (List.mem_flatMap.2 ⟨_,ho.mem,hm⟩) rfl⟩)
  (λ o h1=>by
   rcases Gi ho o h1 with rfl|h2
   ·exact .inl (List.mem_singleton.2 rfl)
   ·exact .inr ⟨(uA O i).subset h2,λ b hb hm=>nd2.2.2 b hm b (List.mem_flatMap.2 ⟨o,h2,hb⟩) rfl⟩)
  (by
   unfold Ks
   rw[(List.Perm.append_left _ (L3 ho)).nodup_iff]
   exact((List.Perm.append_left _ (wD ho)).nodup_iff).1 h.dis)
 simpa using this
end
end
end Go.Ct
namespace Go.Proofs.YthblobahelfefaaGreatDoor
open Go Go.RowKit Go.Ct
section
variable{S:List (Nat×Value)}{w0 w w':World}{M:List Nat}{H:List (Nat×Obj)}{A F:Fr}{O:List Ow}{i d:Nat}{ty:TypeId}{pos:String}{af:Array Edge}{gd:Option (Nat×Bool)}{X:Type}{V:X->Value}
theorem cFO{φ:X->Prop}{p:Option Addr}{cs:List Value}{cs':X->List Value}{c:Nat}{T:TypeId}{sz:Nat}{O1:X->List Ow}{f:FuncId}{xs:List Operand}{at_:Array TypeId}{vs:List Value}{dst:Option Nat}
  (ha:lX S xs=vs:=by(repeat (first|exact bK _|(apply aZ;focus ((conv=>{lhs;whnf});try exact rfl))));first|done|fail) (hp:plain Tryz.prog f=true:=by kernel_rfl)
  (ho:mN O i p cs c T sz) (hc:∀w,SF w0 M H A F O w->Calls Tryz.prog f ⟨vs⟩ w λ e w'=>∃x,e=.returned (V x)/\φ x/\SF w (fV p) [] [] [] [⟨p,cs' x,c,T,sz⟩] w') (hO:∀x,eL O i ⟨p,cs' x,c,T,sz⟩=O1 x:=by intro x;simp only[eL];exact rfl) :
  aQ Tryz.prog S (SF w0 M H A F O) ⟨dst,.call {callee:=.value (.func f),args:=⟨xs⟩,argTypes:=at_},ty,pos,af,gd⟩ X V (λ x w=>φ x/\SF w0 M H A F (O1 x) w) :=
 gD (lZ hp ha) λ w hw=>(hc w hw).mono λ _ _ ⟨x,he,hx,hs⟩=>⟨x,he,hx,by rw[<- hO x];exact hw.aEC ho hs⟩
end
end Go.Proofs.YthblobahelfefaaGreatDoor
namespace Go.Ct
open Go Go.RowKit
section
section
variable{P:Program}{S:List (Nat×Value)}{G:World->Prop}{d:Nat}{ty t t':TypeId}{pos:String}{af:Array Edge}{gd:Option (Nat×Bool)}{x y:Operand}{m n:Nat}
theorem Qx{w0:World}{M:List Nat}{H:List (Nat×Obj)}{A F:Fr}{O:List Ow}{i c:Nat}{p:Option Addr}{e:TypeId}{q:Nat}{l:List Pr}{v:Pr}(hx:ev S x=.pointer (some ⟨cI p,dH p+2*q,none⟩))(hy:ev S y=.agg ⟨[.string v.1,.int .u64 v.2]⟩)(ht:gX P t 2=true)(ho:mN O i p (cY l) c e 2)(hq:q<l.length) :
  aQ P S (SF w0 M H A F O) ⟨none,.store t x y,ty,pos,af,gd⟩ Unit (λ _=>undef) (λ _=>SF w0 M H A F (eL O i ⟨p,cY (l.set q v),c,e,2⟩)):=Ft hx hy ht ho hq
end
end
end Go.Ct
namespace Go.Proofs.YthblobahelfefaaGreatDoor
open Go.Proofs.Tryz
open Go.RowKit Go.Ct
section
theorem aEX(p q:Pr)(w:World):Calls prog 309 #[.agg ⟨[.string p.1,.int .u64 p.2]⟩,.agg ⟨[.string q.1,.int .u64 q.2]⟩] w λ e w'=>e=.returned (.int .i64 (rU p.1 q.1))/\St w [] [] w':=by refine enter func309 ntmps309 rfl rfl (SF.s0 w) ?_;simp only[bY];refine K1j ?_;intro x2 x3;refine J1 ?_;refine gP ?_;refine J3 ?_;refine aK (cV (hc:=λ w1 hw=>S9 p.1 q.1 w1)) (λ x9=>?_);refine J1 ?_;refine aP results309 (λ w hw=>?_);exact⟨rfl,hw.done⟩
abbrev fOf:Value:=.func (.func 309) #[] #[]
section
variable{ys:List Pr}{p:Option Addr}{c a b m n N:Nat}{w:World}
theorem aAJ{a j:Nat}{ys:List Pr}(h:a<j)(h2:cG (ys.getD j (⟨#[]⟩,0)).1 (ys.getD (j-1) (⟨#[]⟩,0)).1=true):Dh a (j-1) (sw ys j (j-1))=Dh a j ys:=by
 cases j with
 | zero=>omega
 | succ j=>rw[Nat.add_sub_cancel] at h2 ⊢;rw[Dh];exact(if_pos ⟨h,h2⟩).symm
theorem Z9{a j:Nat}{ys:List Pr}(h:¬(a<j/\cG (ys.getD j (⟨#[]⟩,0)).1 (ys.getD (j-1) (⟨#[]⟩,0)).1=true)):Dh a j ys=ys:=by
 cases j with
 | zero=>rfl
 | succ j=>rw[Nat.add_sub_cancel] at h;rw[Dh];exact if_neg h
theorem Po(a b:Nat)(ho:tT w ⟨p,cY ys,c,162,2⟩)(hN:ys.length=N)(hl:N<=1000000)(h3:b<=N)(h4:a<=N) :
  Calls prog 311 #[.slice p N c,.int .i64 (a:Int),.int .i64 (b:Int),fOf] w λ e w'=>∃x:Unit,e=.returned (.tuple #[])/\True/\SF w (fV p) [] [] [] [⟨p,cY (Jx a (a+1) (b-(a+1)) ys),c,162,2⟩] w':=by
 refine enter func311 ntmps311 rfl rfl (SF.o1 ho) ?_;simp only[bY];refine J2 ?_;refine aA (Fq rf rf (by omega)) rfl ?_;refine J1 ?_;refine bF ?_;refine mE [8,9,12,13,14,15,16,17,18,19,20,21,22,23,24,25,26,27,28,29,30,31,32,33,34,35,36,37,38,39,40,41,42,43,44,45,46,47,48,49,50,51,52] (λ z:Nat×List Pr=>[(8,.int .i64 ((z.1:Nat):Int))]) (λ z=>Jx a z.1 (b-z.1) z.2=Jx a (a+1) (b-(a+1)) ys/\z.2.length=N/\a+1<=z.1/\z.1<=N+1) (λ _=>_) (λ _=>_) (λ z=>[⟨p,cY z.2,c,162,2⟩]) (λ z=>b-z.1) ((a+1,ys)) (⟨rfl,hN,Nat.le_refl _,by show a+1<=N+1;omega⟩) (λ z f hx=>?_);refine K0a ?_;obtain⟨q1,q2,q3,q4⟩:=hx;refine Ir ?_;refine pD ?_;refine aX (λ c14=>?_) (λ c14=>?_)
 ·refine Kb4 ?_;refine J1 ?_;refine bF ?_;refine mE [9,18,19,20,21,22,23,24,25,26,27,28,29,30,31,32,33,34,35,36,37,38,39,40,41,42,43,44,45,46,47,48,49,50,51,52] (λ y:Nat×List Pr=>[(9,.int .i64 ((y.1:Nat):Int))]) (λ y=>Dh a y.1 y.2=Dh a z.1 z.2/\y.2.length=N/\a<=y.1/\y.1<=z.1) (λ _=>_) (λ _=>_) (λ y=>[⟨p,cY y.2,c,162,2⟩]) (λ y=>y.1) ((z.1,z.2)) (⟨rfl,q2,by show a<=z.1;omega,Nat.le_refl _⟩) (λ y f hx=>?_);refine K0a ?_;obtain⟨r1,r2,r3,r4⟩:=hx;have r5:∀t (v:Pr),(y.2.set t v).length=N:=λ t v=>by rw[List.length_set];exact r2
  have r6:=r5 y.1 (y.2.getD (y.1-1) (⟨#[]⟩,0));refine aU ?_;refine aU ?_;refine gL [0,1,2,3,4,5,6,7,8,9,10,11,12,13,14,15,16] ?_;refine Bx ?_;refine aBp ?_;refine aR ?_;(refine rcs 21 (λ g21=>?_) (λ g21=>?_)<;>(first|refine kS ?_|(refine aR ?_)));all_goals ((first|refine kS ?_|(refine aR ?_));(first|refine kS ?_|(refine aR ?_));refine J74 ?_;(first|refine kS ?_|(refine aR ?_));(first|refine kS ?_|(refine aR ?_));(first|refine kS ?_|(refine dA (i:=11) (hq:=(uY rf rf (by omega) (by omega))) (h:=?_)));refine J74 ?_;((first|refine kS ?_|((refine cB (i:=14) (hq:=(cVd rf (by(repeat (first|exact bK _|(apply aZ;focus ((conv=>{lhs;whnf});try exact rfl))));done) (by kernel_rfl) (λ w1 hw=>aEX (y.2.getD y.1 (⟨#[]⟩,0)) (y.2.getD (y.1-1) (⟨#[]⟩,0)) w1))) (h:=λ x32=>?_)))));(first|refine kS ?_|(refine Gm ?_));refine sB ?_;refine dY ?_)
  all_goals
  refine aX (λ c34=>?_) (λ c34=>?_)
  ·try exact nv c34
   all_goals (refine tG ?_;refine gL [0,1,2,3,4,5,6,7,8,9,10,11,12,13,14,15,16,17] ?_;refine Bx ?_;refine Bx ?_;refine dA (i:=4) (hq:=(uY rf rf (by omega) (by omega))) (h:=?_);refine Bx ?_;refine dA (i:=7) (hq:=(uY rf rf (by omega) (by omega))) (h:=?_);refine J48 ?_;refine Bx ?_;refine J48 ?_;refine jW ?_;refine fC (i:=15) (hq:=(aQ.iN (Qx rf rf cW tD (by omega)) E1a)) (h:=λ _=>?_);refine jW ?_;refine fC (i:=17) (hq:=(aQ.iN (Qx rf rf cW tD (by omega)) E1a)) (h:=λ _=>?_);refine dY ?_;refine eX ?_;refine Js ?_;refine aA (uY rf rf (by omega) (by omega)) rfl ?_;refine J1 ?_)
   all_goals refine nS ((y.1-1,sw y.2 y.1 (y.1-1))) ?_;·exact⟨(aAJ (by omega) (sS.1 (by assumption))).trans r1,(nh _ _ _).trans r2,by show a<=y.1-1;omega,by show y.1-1<=z.1;omega⟩
  ·all_goals (refine J84 ?_;refine Js ?_;refine aA (Fq rf rf (by omega)) rfl ?_;refine J1 ?_)
   all_goals
    refine nS ((z.1+1,y.2)) ?_
    ·refine⟨?_,r2,by show a+1<=z.1+1;omega,by show z.1+1<=N+1;omega⟩;rw[show b-z.1=(b-(z.1+1))+1 by omega,Jx,<- r1,Z9 ?_] at q1;·exact q1
     ·rintro ⟨s1,s2⟩;first|omega|exact absurd (sS.2 s2) (by assumption) 
 ·refine K1o ?_;refine Qd results311 (λ w hw=>?_);rw[show b-z.1=0 by omega] at q1;rw[<- q1];exact⟨(),rfl,trivial,hw.eP⟩
end
end
section
section
variable{ys l:List Pr}{p a:Option Addr}{c N:Nat}{w:World}
theorem SR.nil{ys:List Pr}{a:Nat}:SR ys a (a+1):=λ i j h1 h2 h3=>by omega
def MS(ys:List Pr)(a b:Nat)(zs:List Pr):Prop:=SR zs a b/\Sg a b zs ys
theorem aCI{ys:List Pr}{a b:Nat}(hab:a<=b)(hb:b<=ys.length):MS ys a b (Jx a (a+1) (b-(a+1)) ys):=by
 by_cases h:a<b;·have:=K8 (a:=a) (n:=b-(a+1)) (i:=a+1) (ys:=ys) (by omega) (by omega) SR.nil;rw[show a+1+(b-(a+1))=b by omega] at this;exact this
 ·rw[show b-(a+1)=0 by omega];exact⟨λ i j h1 h2 h3=>by omega,Sg.rfl⟩
theorem ot(ho:tT w ⟨p,cY ys,c,162,2⟩)(hN:ys.length=N)(hl:N<=19) :
  Calls prog 310 #[.slice p N c,.int .i64 (N:Int),fOf] w λ e w'=>∃x:List Pr,e=.returned (.tuple #[])/\MS ys 0 N x/\SF w (fV p) [] [] [] [⟨p,cY x,c,162,2⟩] w':=by
 refine enter func310 ntmps310 rfl rfl (SF.o1 ho) ?_;simp only[bY];refine Kc1 ?_;refine J8 ?_;refine Np ?_;refine mE [7,8,11,12,13,14,15,16,17,18,19,20,21,22] (λ _:Unit=>[(7,.int .i64 ((0:Nat):Int)),(8,.int .i64 ((20:Nat):Int))]) (λ _=>True) (λ _=>_) (λ _=>_) (λ _=>[⟨p,cY ys,c,162,2⟩]) (λ _=>0) (()) (trivial) (λ z f hx=>?_);refine K0a ?_;refine Ir ?_;refine xW ?_;refine aC ?_;refine aX (λ c13=>?_) (λ c13=>?_);·try (exfalso;omega)
 ·try (exfalso;omega)
  refine K1o ?_;refine lV ?_;refine Jh ?_;(refine aK (cFO (ho:=tD) (hc:=λ w1 hw=>Po 0 N (hw.ow tD) hN (by omega) (by omega) (by omega))) (λ x27=>?_);try (refine eF (λ h27=>?_)));refine Kb2 ?_;refine mE [6,7,8,9,28,29,30,31,32,33,34,35,36,37,38,39,40,41,42,43,44,45,46,47,48,49,50,51,52,53,54,55,56,57,58,59,60,61,62] (λ _:Unit=>[(6,.int .i64 ((20:Nat):Int))]) (λ _=>True) (λ _=>_) (λ _=>_) (λ _=>[⟨p,cY (Jx 0 (0+1) (N-(0+1)) ys),c,162,2⟩]) (λ _=>0) (()) (trivial) (λ k f hx=>?_);refine K0a ?_;refine Ir ?_;refine pD ?_;refine aX (λ c30=>?_) (λ c30=>?_);·try (exfalso;omega)
  ·try (exfalso;omega)
   refine K1o ?_;refine Qd results310 (λ w hw=>?_);exact⟨_,rfl,aCI (Nat.zero_le _) (by omega),hw.eP⟩
theorem Me(ho:tT w ⟨p,cY ys,c,162,2⟩)(hN:ys.length=N)(hl:N<=19) :
  Calls prog 308 #[.slice p N c,fOf] w λ e w'=>∃x:List Pr,e=.returned (.tuple #[])/\MS ys 0 N x/\SF w (fV p) [] [] [] [⟨p,cY x,c,162,2⟩] w':=by refine enter func308 ntmps308 rfl rfl (SF.o1 ho) ?_;simp only[bY];refine U4 ?_;refine cZ ?_;refine aD ?_;(refine aK (cFO (ho:=tD) (hc:=λ w1 hw=>ot (hw.ow tD) hN hl)) (λ x8=>?_);try (refine eF (λ h8=>?_)));refine aC ?_;refine Qd results308 (λ w hw=>?_);exact⟨x8,rfl,h8,hw.eP⟩
end
end
section
section
variable{ys l:List Pr}{p a:Option Addr}{c N:Nat}{w:World}
theorem A6{ys:List Pr}{k:Nat}(h:k<ys.length):ys.drop k=ys.getD k (⟨#[]⟩,0)::ys.drop (k+1):=by rw[List.drop_eq_getElem_cons h,iM h]
theorem Fy{ys:List Pr}{k:Nat}(h:k+1<ys.length)(e:(ys.getD (k+1) (⟨#[]⟩,0)).1=(ys.getD k (⟨#[]⟩,0)).1):iZ (ys.drop k)=iZ (ys.drop (k+1)):=by rw[A6 (by omega),A6 h,iZ,if_pos e]
theorem F7{ys:List Pr}{k:Nat}(h:k<ys.length)(hn:¬(k+1<ys.length/\(ys.getD (k+1) (⟨#[]⟩,0)).1=(ys.getD k (⟨#[]⟩,0)).1)):iZ (ys.drop k)=ys.getD k (⟨#[]⟩,0)::iZ (ys.drop (k+1)):=by
 rw[A6 h];by_cases h1:k+1<ys.length;·rw[A6 h1,iZ,if_neg λ e=>hn ⟨h1,e⟩]
 ·rw[List.drop_eq_nil_of_le (by omega)];rfl
theorem aC2(ha:Cl w a (cY l))(hc:l.length<=c)(hlen:l.length<=19) :
    Calls prog 304 #[.slice a l.length c] w (aAi w (yN l)):=by
  refine enter func304 ntmps304 rfl rfl (SF.s1 ha) ?_;simp only[bY];refine Kc1 ?_;refine cZ ?_;refine vH (λ x9=>?_);refine P2 ?_;refine Ur (λ x12=>?_);refine aC ?_;refine J2 ?_;(refine aK (cFO (ho:=tD) (hc:=λ w1 hw=>Me (hw.ow tD) rfl hlen)) (λ x14=>?_);try (refine eF (λ h14=>?_)));refine aC ?_;refine J2 ?_;refine cZ ?_;refine aK (Ze (m:=0) (k:=l.length) rf rf (by exact zJ rfl) (by omega) (by omega)) (λ x17=>?_);refine Kc5 ?_;refine Ka9 ?_;have hl14:=h14.2.len;refine mE [4,5,6,20,21,22,23,24,25,26,27,28,29,30,31,32,33,34,35,36,37,38,39,40,41,42,43,44,45] (λ z:Nat×Option Addr×List Pr×Nat=>[(20,.int .i64 ((z.1:Nat):Int)),(4,.slice z.2.1 z.2.2.1.length z.2.2.2)]) (λ z=>z.1<=l.length/\z.2.2.1.length<=z.2.2.2/\z.2.2.1++iZ (x14.drop z.1)=iZ x14/\z.2.2.1.length<=z.1) (λ _=>_) (λ _=>_) (λ z=>[⟨z.2.1,cY z.2.2.1,z.2.2.2,162,2⟩,⟨some ⟨x9,0,none⟩,cY x14,l.length,162,2⟩]) (λ z=>l.length-z.1) ((0,some ⟨x17,0,none⟩,[],l.length)) (⟨Nat.zero_le _,Nat.zero_le _,rfl,Nat.le_refl _⟩) (λ z f hx=>?_);refine K0a ?_;obtain⟨q1,q2,q3,q4⟩:=hx
  refine Ka7 ?_;refine aX (λ c21=>?_) (λ c21=>?_)
  · refine Kb4 ?_;refine J53 ?_;refine aI (λ x6=>?_);refine fD (λ _=>?_);refine J5 ?_;refine aU ?_;refine aU ?_;refine gL [0,1,2,3,4,5,6,7,8,9,10,11,12,13,14,15] ?_;refine aR ?_;refine Zr ?_;refine aR ?_;refine Gj ?_;refine Gm ?_;refine aR ?_;(refine rcs 30 (λ g30=>?_) (λ g30=>?_)<;>(first|refine kS ?_|(refine aR ?_)));all_goals ((first|refine kS ?_|(refine aR ?_));(first|refine kS ?_|(refine Zr ?_));(first|refine kS ?_|(refine jW ?_));refine J18 ?_;refine J18 ?_;(first|refine kS ?_|(refine aBP ?_));refine sB ?_;refine dY ?_)
    all_goals
     refine aX (λ c40=>?_) (λ c40=>?_)
     · try exact nv c40
       all_goals (refine bQ rfl ?_;refine Ka3 ?_)
       all_goals
        refine nS ((by exact(z.1+1,z.2.1,z.2.2.1,z.2.2.2))) ?_ (hw1:=λ w hw=>by exact hw.back (hO:=E0q))
        · first
          | (rw[Fy (by omega) (by assumption)] at q3;exact⟨by show z.1+1<=l.length;omega,q2,q3,by show z.2.2.1.length<=z.1+1;omega⟩)
          | (rw[F7 (by omega) (by first|(rintro ⟨s1,s2⟩;omega)|(rintro ⟨s1,s2⟩;exact absurd s2 (by assumption)))] at q3;exact⟨by show z.1+1<=l.length;omega,by simp only[List.length_append,List.length_cons,List.length_nil];omega,by show z.2.2.1++[x14.getD z.1 (⟨#[]⟩,0)]++_=_;rw[List.append_assoc];exact q3,by simp only[List.length_append,List.length_cons,List.length_nil];omega⟩)
     · all_goals (refine bD ?_;refine Js ?_;refine bW ?_;refine sP (λ x43=>?_);(refine Iw (λ x44=>?_);try (refine eF (λ h44=>?_)));refine J1 ?_;refine Kb6 ?_)
       all_goals
        refine nS ((by exact(z.1+1,x44.1,z.2.2.1++[x14.getD z.1 (⟨#[]⟩,0)],x44.2))) ?_ (hw1:=λ w hw=>by exact hw.back (hO:=E0q))
        · first
          | (rw[Fy (by omega) (by assumption)] at q3;exact⟨by show z.1+1<=l.length;omega,q2,q3,by show z.2.2.1.length<=z.1+1;omega⟩)
          | (rw[F7 (by omega) (by first|(rintro ⟨s1,s2⟩;omega)|(rintro ⟨s1,s2⟩;exact absurd s2 (by assumption)))] at q3;exact⟨by show z.1+1<=l.length;omega,by simp only[List.length_append,List.length_cons,List.length_nil];omega,by show z.2.2.1++[x14.getD z.1 (⟨#[]⟩,0)]++_=_;rw[List.append_assoc];exact q3,by simp only[List.length_append,List.length_cons,List.length_nil];omega⟩)
  · refine K1o ?_;refine Kc4 ?_;refine aP results304 (λ w hw=>?_)
    have e:z.2.2.1=yN l:=by
     rw[List.drop_eq_nil_of_le (by omega),show iZ []=[] from rfl,List.append_nil] at q3
     rw[q3]
     exact na (SR.ws (by rw[hl14];exact h14.1)) h14.2.stb
    rw[<- e]
    exact⟨(z.2.1,z.2.2.2),rfl,q2,hw.eP⟩
end
end
end Go.Proofs.YthblobahelfefaaGreatDoor
namespace Go.Ct
open Go Go.RowKit
section
variable{i k:Nat}
theorem L8:BV 0 []:=⟨by decide,by decide,λ i hi=>absurd hi (Nat.not_lt_zero i)⟩
theorem p9(hi:i<64):dF 0 (i:Int)=2^i:=by unfold dF;rw[if_pos ⟨by omega,by omega⟩,Int.toNat_natCast,Nat.zero_or]
theorem vq:∀i:Fin 64,iD (2^i.val) 64=1:=by decide +kernel
theorem aDn:∀k:Fin 65,iD 0 k.val=0:=by decide +kernel
theorem sk:∀i:Fin 64,∀k:Fin 64,iD (2^i.val) k.val=if i.val<k.val then 1 else 0:=by decide +kernel
theorem aF9(hi:i<64):iK 0 (i:Int)=0:=by unfold iK;rw[Int.toNat_natCast,Nat.min_eq_left (by omega)];exact aDn ⟨i,by omega⟩
theorem aFY(hi:i<64)(hk:k<64):iK (dF 0 (i:Int)) (k:Int)=if i<k then 1 else 0:=by unfold iK;rw[p9 hi,Int.toNat_natCast,Nat.min_eq_left (by omega)];exact sk ⟨i,hi⟩ ⟨k,hk⟩
theorem aGe(i:Int):tU 0 i=false:=by simp[tU]
theorem aEx(hi:i<64)(hk:k<64)(hne:i≠k):tU (dF 0 (i:Int)) (k:Int)=false:=by rw[Mi _ (by omega) (by omega),p9 hi,Int.toNat_natCast,Nat.testBit_two_pow];exact decide_eq_false hne
theorem jl{x:Int}(hi:i<64)(hx:1<=x):BV (dF 0 (i:Int)) [x]:=by
 refine⟨Bf (by decide) _,?_,λ j hj=>?_⟩;·rw[p9 hi];exact(vq ⟨i,hi⟩).symm
 ·simp only[List.length_cons,List.length_nil] at hj;rw[show j=0 by omega];exact hx
def two(i k:Nat)(x s:Int):List Int:=if i<k then [x,s] else [s,x]
theorem Xn(i k:Nat)(x s:Int):(two i k x s).length=2:=by unfold two;split<;>rfl
theorem aD6{i:Nat}(hi:i<64)(x:Int):sO [] (iK 0 (i:Int)) x=[x]:=by rw[aF9 hi];rfl
theorem aEQ{i k:Nat}(hi:i<64)(hk:k<64)(x s:Int):sO [x] (iK (dF 0 (i:Int)) (k:Int)) s=two i k x s:=by rw[aFY hi hk];unfold two;split<;>rfl
structure NI where
 n:Nd
 xs:List Int
 ys:List Pr
 init:Int
def AX.no:AX:=⟨none,0,none,0,none,0,none,0⟩
def nC(k:Int):Nat:=if k=2∨k=3∨k=5∨k=6∨k=8 then 1 else 0
theorem qY(k:Int)(cs:List Int)(i:Int):(gJ k cs i).length=cs.length+nC k:=by unfold gJ nC;split<;>simp
def NI.c(a:NI)(c:Nat):Nv:=(kP a.n a.xs a.ys c AX.no).c
def tV:List NI->Nat->List Nv
 | [],_=>[]
 | a::r,c=>a.c c::tV r (c+nC a.n.kind)
def M1(l:List NI)(c:Nat):Nat:=l.foldl (λ c a=>c+nC a.n.kind) c
def kO(l:List NI)(cs:List Int):List Int:=l.foldl (λ cs a=>gJ a.n.kind cs a.init) cs
theorem lR:∀(l:List NI) (cs:List Int),(kO l cs).length=M1 l cs.length
 | [],_=>rfl
 | a::r,cs=>by show(kO r (gJ a.n.kind cs a.init)).length=M1 r (cs.length+nC a.n.kind);rw[lR r,qY]
theorem Eg:∀(l r:List NI) (c:Nat),tV (l++r) c=tV l c++tV r (M1 l c)
 | [],_,_=>rfl
 | a::l,r,c=>by show a.c c::tV (l++r) (c+nC a.n.kind)=a.c c::(tV l (c+nC a.n.kind)++tV r (M1 l (c+nC a.n.kind)));rw[Eg l r]
theorem Mw(l r:List NI)(cs:List Int):kO (l++r) cs=kO r (kO l cs):=by unfold kO;rw[List.foldl_append]
theorem nA:∀(l:List NI) (c:Nat),(tV l c).length=l.length
 | [],_=>rfl
 | a::r,c=>by simp only[tV,List.length_cons,nA r]
theorem N3:∀(l:List NI) (c:Nat),M1 l c<=c+l.length
 | [],_=>Nat.le_refl _
 | a::r,c=>by
  have h:nC a.n.kind<=1:=by unfold nC;split<;>omega
  have:=N3 r (c+nC a.n.kind);show M1 r (c+nC a.n.kind)<=c+(r.length+1);omega
end
end Go.Ct
namespace Go.Proofs.YthblobahelfefaaGreatDoor
open Go.Proofs.Tryz
open Go.RowKit Go.Ct
section
theorem aC0{l:List Pr}{a:Option Addr}{c:Nat}{w:World}(ha:Cl w a (cY l))(hc:l.length<=c)(hlen:l.length<=19) :
  Calls prog 304 #[.slice a l.length c] w λ e w'=>∃x:Option Addr×Nat,e=.returned (.slice x.1 (yN l).length x.2)/\(yN l).length<=x.2/\SF w [] [] [] [(x.1,cY (yN l))] [] w':=(aC2 ha hc hlen).mono λ _ _ h=>h.res
theorem aBe{b:Nat}{xs:List Int}{x:Option Addr×Nat}{w:World}(hbv:BV b xs){i:Nat}(hi:i<64)(hn:tU b (i:Int)=false){r:Int}(hr:1<=r)(hx:xs.length<=x.2)(hxl:xs.length<=64)(hc:Cl w x.1 (aN xs)) :
  Calls prog 284 #[(cn b xs x).v,.int .i64 (i:Int),.int .i64 r] w λ e w'=>∃y:Option Addr×Nat,e=.returned (.tuple #[(cn (dF b (i:Int)) (sO xs (iK b (i:Int)) r) y).v,.bool true])/\(sO xs (iK b (i:Int)) r).length<=y.2/\SF w [] [] [] [(y.1,aN (sO xs (iK b (i:Int)) r))] [] w':=by have h:=F9 (n:=cn b xs x) (xs:=xs) (ys:=[]) (b:=b) (i:Int) r rfl hbv.lt ⟨rfl,rfl,hc,Cl.nil _ _,by omega,by decide⟩ hx (by omega);rw[show K4 (cn b xs x) xs [] b (i:Int) r=some (dF b (i:Int),sO xs (iK b (i:Int)) r) from if_pos ⟨aDm hbv x,⟨by omega,by omega⟩,hr,hn⟩] at h;exact h.mono λ e w' ⟨y,he,h1,h2⟩=>⟨y,he,h1,h2⟩
theorem Rn(w:World):Calls prog 92 #[] w λ e w'=>e=.returned (cn 0 [] (none,0)).v/\St w [] [] w':=Nj w
abbrev blL(ba:Nat)(x:Int)(v:dJ)(h:Nat)(k:ByteArray)(u:Int)(gen:Int):List Value:=[.iface 51 (.pointer (some ⟨ba,0,none⟩)),.int .i64 x,.int .i64 v.nd.kind,.int .i64 v.nd.gen,.int .i64 v.nd.main,.int .u64 v.nd.bm,.slice v.nd.brA v.nd.brN v.nd.brC,.int .u64 v.nd.hash,.string v.nd.key,.int .u64 v.nd.val,.slice v.nd.prA v.nd.prN v.nd.cY,.int .i64 v.nd.prev,.int .i64 v.nd.old,.int .i64 v.nd.exp,.int .i64 v.nd.new,.int .i64 v.nd.status,.int .u64 (h:Int),.string k,.int .u64 u,.int .i64 gen]
abbrev blO(ba:Nat)(x:Int)(v:dJ)(h:Nat)(k:ByteArray)(u:Int)(gen:Int):Obj:=.cells ⟨blL ba x v h k u gen⟩ 348 (0,0)
structure DX where
 L:List dJ
 pn:Option Addr
 cn:Nat
 pc:Option Addr
 cc:Nat
variable{w:World}{D:List Nat}{ba bb:Nat}{L:List dJ}{cs:List Int}{g acc:Int}{pn pc:Option Addr}{kn kc:Nat}{A:Fr}{x:Int}{v:dJ}{h h0:Nat}{k:ByteArray}{u gen:Int}
theorem qL(a:NI){n:Nd}(hs:SF w D [(ba,aO L cs g acc pn kn pc kc)] [(n.brA,aN a.xs),(n.prA,cY a.ys)] [] (mW L cs pn kn pc kc) w)(e1:n.brN=a.xs.length)(e2:n.prN=a.ys.length)(h1:a.xs.length<=1000)(h2:a.ys.length<=1000)
  (hl:L.length<=137438953400) (hc:cs.length<=137438953400) (hn:(kP n a.xs a.ys cs.length AX.no).c=a.c cs.length) (hk:n.kind=a.n.kind) :
  Calls prog 333 #[.pointer (some ⟨ba,0,none⟩),n.v,.int .i64 a.init] w λ e w'=>∃y:dJ×AX,e=.returned (.int .i64 ((L.length+3:Nat):Int))/\(y.1.c=a.c cs.length/\y.1.Fit) /\
   SF w D [(ba,aO (L++[y.1]) (gJ a.n.kind cs a.init) g acc y.2.pn y.2.cn y.2.pc y.2.cc)] [] y.1.fr (mW (L++[y.1]) (gJ a.n.kind cs a.init) y.2.pn y.2.cn y.2.pc y.2.cc) w':=by rw[<- hk];exact(Bt a.init hs e1 e2 (by omega) (by omega) (by omega) (by omega)).mono λ e w' ⟨y,he,_,h⟩=>⟨(kP n a.xs a.ys cs.length y,y),he,⟨hn,T0 (by omega) (by omega)⟩,h⟩
abbrev Od(h:Nat)(ys:List Pr):NI:=⟨{Nd.zero with kind:=6,hash:=(h:Int)},[],ys,0⟩
abbrev vM(h:Nat)(k:ByteArray)(u:Int):NI:=⟨{Nd.zero with kind:=4,hash:=(h:Int),key:=k,val:=u},[],[],0⟩
abbrev A4(gen m:Int):NI:=⟨{Nd.zero with kind:=2,gen:=gen},[],[],m⟩
abbrev y3(b:Nat)(xs:List Int):NI:=⟨{Nd.zero with kind:=3,bm:=(b:Int)},xs,[],0⟩
abbrev Did(w:World)(D:List Nat)(bb ba:Nat)(x:Int)(v:dJ)(h:Nat)(k:ByteArray)(u gen:Int)(L:List dJ)(cs:List Int)(g acc:Int)(l:List NI)(e:Ending)(w':World):Prop :=
 ∃d:DX,e=.returned (.int .i64 ((L.length+2+l.length:Nat):Int))/\(d.L.map dJ.c=tV l cs.length/\Fits d.L) /\
  SF w D [(bb,blO ba x v h k u gen),(ba,aO (L++d.L) (kO l cs) g acc d.pn d.cn d.pc d.cc)] [] (cH d.L) (mW (L++d.L) (kO l cs) d.pn d.cn d.pc d.cc) w'
theorem uh(hs:SF w D [(bb,blO ba x v h k u gen),(ba,aO L cs g acc pn kn pc kc)] A [] (mW L cs pn kn pc kc) w)(hl:L.length<=137438953300)(hc:cs.length<=137438953300) :
  Calls prog 298 #[.pointer (some ⟨bb,0,none⟩),.int .i64 ((11:Nat):Int)] w (Did w D bb ba x v h k u gen L cs g acc [Od h (yN [(v.nd.key,v.nd.val),(k,u)])]):=by
 have hol:=W3 [(v.nd.key,v.nd.val),(k,u)];simp only[List.length_cons,List.length_nil] at hol;refine enter func298 ntmps298 rfl rfl hs ?_;simp only[bY];refine Ka5 ?_;refine Fe ?_;refine aX (λ c13=>?_) (λ c13=>?_)
 ·try (exfalso;omega)
  refine aU ?_;refine gL [0,1,2,3,4,5,6,7,8,9,10,11,12,13,14,15,16,17] ?_;refine va ?_;refine va ?_;refine kD ?_;refine J9 ?_;refine bI (i:=14) (hq:=(cO (k:=2) rf bU cW (by simp only[List.drop_succ_cons,List.drop_zero,List.take_succ_cons,List.take_zero];exact rfl) rfl)) (h:=?_);refine iW (h:=λ x29=>?_);refine bS (i:=16) (hq:=(cF (V:=λ x:Option Addr×Nat=>.slice x.1 (yN [(v.nd.key,v.nd.val),(k,u)]).length x.2) (hc:=λ w1 hw=>aC0 (l:=[(v.nd.key,v.nd.val),(k,u)]) (hw.cl (.new .head)) (by simp) (by simp)))) (h:=λ x30 h30=>?_);refine J7 ?_;refine aU ?_;refine eQ [(0,[]),(1,[]),(2,[]),(3,[]),(4,[]),(5,[]),(6,[]),(7,[]),(8,[]),(10,[]),(11,[]),(9,[3]),(12,[]),(13,[])] ?_;refine bs ?_;refine aR ?_;refine dA (i:=10) (hq:=(fK rf)) (h:=?_);refine aR ?_;refine bS (i:=9) (hq:=(cF (V:=λ p:Option Addr=>({Nd.zero with kind:=6,hash:=(h:Int),prA:=p,prN:=(yN [(v.nd.key,v.nd.val),(k,u)]).length,cY:=(yN [(v.nd.key,v.nd.val),(k,u)]).length}:Nd).v) (hc:=λ w1 hw=>qe (hw.cl (.new .head)) (by omega)))) (h:=λ x40 h40=>?_);refine bS (i:=12) (hq:=(Jc (hm:=λ w=>eK _ _ _ w) (hc:=λ w hs=>qL (Od h (yN [(v.nd.key,v.nd.val),(k,u)])) (L:=L) (cs:=cs) (n:={Nd.zero with kind:=6,hash:=(h:Int),prA:=x40,prN:=(yN [(v.nd.key,v.nd.val),(k,u)]).length,cY:=(yN [(v.nd.key,v.nd.val),(k,u)]).length}) hs rfl rfl (by simp) (by show(yN _).length<=_;omega) (by omega) (by omega) rfl rfl))) (h:=λ x43 h43=>?_);refine J7 ?_;refine aP results298 (λ w hw=>?_);exact⟨⟨[x43.1],x43.2.pn,x43.2.cn,x43.2.pc,x43.2.cc⟩,rfl,⟨by simp only[List.map_cons,List.map_nil,tV,h43.1],λ z hz=>by rw[List.mem_singleton.1 hz];exact h43.2⟩,hw.ret (List.Sublist.refl _) (aT.bA λ f hf=>List.mem_append_left _ (by simpa[cH] using hf)) (List.Sublist.refl _)⟩
 ·exact nv c13
theorem ra{i:Nat}(hi:i<64){x:Int}(hx:1<=x)(w:World) :
  Calls prog 284 #[(cn 0 [] (none,0)).v,.int .i64 (i:Int),.int .i64 x] w λ e w'=>∃y:Option Addr×Nat,e=.returned (.tuple #[(cn (dF 0 (i:Int)) [x] y).v,.bool true])/\1<=y.2/\SF w [] [] [] [(y.1,aN [x])] [] w':=by have:=aBe (w:=w) (b:=0) (xs:=[]) (x:=(none,0)) L8 hi (aGe _) hx (by simp) (by simp) (Cl.nil _ _);rwa [aD6 hi] at this
theorem aDs{i k:Nat}(hi:i<64)(hk:k<64)(hne:i≠k){x s:Int}(hx:1<=x)(hs:1<=s){y:Option Addr×Nat}(hy:1<=y.2){w:World}(hc:Cl w y.1 (aN [x])) :
  Calls prog 284 #[(cn (dF 0 (i:Int)) [x] y).v,.int .i64 (k:Int),.int .i64 s] w λ e w'=>∃z:Option Addr×Nat,e=.returned (.tuple #[(cn (dF (dF 0 (i:Int)) (k:Int)) (two i k x s) z).v,.bool true])/\2<=z.2/\SF w [] [] [] [(z.1,aN (two i k x s))] [] w':=by have:=aBe (w:=w) (b:=dF 0 (i:Int)) (xs:=[x]) (x:=y) (jl hi hx) hk (aEx hi hk hne) hs hy (by simp) hc;rwa [aEQ hi hk,Xn] at this
theorem v8{lvl:Nat}(hs:SF w D [(bb,blO ba x v h k u gen),(ba,aO L cs g acc pn kn pc kc)] A [] (mW L cs pn kn pc kc) w)(hl:L.length<=137438953300)(hc:cs.length<=137438953300)(hv:v.nd.hash=(h0:Int))(hh0:h0<18446744073709551616)(hh:h<18446744073709551616)(hlv:lvl<=10)(hne:sl h lvl≠sl h0 lvl)(hx:1<=x) :
  Calls prog 298 #[.pointer (some ⟨bb,0,none⟩),.int .i64 ((lvl:Nat):Int)] w (Did w D bb ba x v h k u gen L cs g acc [vM h k u,y3 (dF (dF 0 (sl h0 lvl:Int)) (sl h lvl:Int)) (two (sl h0 lvl) (sl h lvl) x ((L.length+3:Nat):Int))]):=by
 refine enter func298 ntmps298 rfl rfl hs ?_;simp only[bY];refine Ka5 ?_;refine Fe ?_;refine aX (λ c13=>?_) (λ c13=>?_);·try (exfalso;omega)
 ·try (exfalso;omega)
  refine K1l ?_;refine cB (i:=5) (hq:=(cV (hc:=λ w1 hw=>kF hh hlv w1))) (h:=λ x49=>?_);refine cB (i:=12) (hq:=(cV (hc:=λ w1 hw=>by rw[hv];exact kF hh0 hlv w1))) (h:=λ x56=>?_);refine mg ?_;refine J0 ?_;refine aK (cV (hc:=λ w1 hw=>Rn w1)) (λ x57=>?_);refine aI (λ x8=>?_);refine J5 ?_;refine Ir ?_;refine Kc0 ?_;refine aX (λ c60=>?_) (λ c60=>?_)
  ·try (exfalso;omega)
   refine aU ?_;refine eQ [(0,[]),(1,[]),(2,[]),(3,[]),(4,[]),(5,[]),(6,[]),(7,[]),(8,[]),(9,[]),(10,[]),(11,[]),(12,[]),(13,[]),(14,[]),(15,[]),(16,[]),(17,[]),(19,[]),(20,[]),(18,[3]),(21,[]),(22,[])] ?_;refine bs ?_;refine va ?_;refine va ?_;refine dA (i:=19) (hq:=(fK rf)) (h:=?_);refine aR ?_;refine cB (i:=18) (hq:=(cV (hc:=λ w1 hw=>F5 (h:Int) k u w1))) (h:=λ x79=>?_);refine bS (i:=21) (hq:=(Jc (A0:=[(none,aN []),(none,cY [])]) (hm:=λ w=>eK _ _ _ w) (hc:=λ w hs=>qL (vM h k u) (L:=L) (cs:=cs) (n:={Nd.zero with kind:=4,hash:=(h:Int),key:=k,val:=u}) hs rfl rfl (by simp) (by simp) (by omega) (by omega) rfl rfl))) (h:=λ x82 h82=>?_);refine J7 ?_;refine aU ?_;refine gL [0,1,2,3,4,5,6,7,8,9,10] ?_;refine cJ ?_;refine Th ?_;refine bS (i:=6) (hq:=(cF (V:=λ y:Option Addr×Nat=>.tuple #[(cn (dF 0 (sl h0 lvl:Int)) [x] y).v,.bool true]) (hc:=λ w1 hw=>ra (mI _ _) hx w1))) (h:=λ x90 h90=>?_);refine K0x ?_;refine Kg ?_;refine tB ?_;refine Jh ?_;refine aJ (cF (V:=λ y:Option Addr×Nat=>.tuple #[(cn (dF (dF 0 (sl h0 lvl:Int)) (sl h lvl:Int)) (two (sl h0 lvl) (sl h lvl) x ((L.length+3:Nat):Int)) y).v,.bool true]) (hc:=λ w1 hw=>aDs (mI _ _) (mI _ _) (λ e=>hne e.symm) hx (by omega) h90 (hw.cl (.new .head)))) (λ x97 h97=>?_);refine Ot ?_;refine J5 ?_;refine K0y ?_;refine nZ ?_;refine cJ ?_;refine bS (i:=5) (hq:=(Jc (A0:=[(x97.1,aN (two (sl h0 lvl) (sl h lvl) x ((L.length+3:Nat):Int))),(none,cY [])]) (hm:=λ w=>eK _ _ _ w) (hc:=λ w hs=>qL (y3 (dF (dF 0 (sl h0 lvl:Int)) (sl h lvl:Int)) (two (sl h0 lvl) (sl h lvl) x ((L.length+3:Nat):Int))) (L:=L++[x82.1]) (cs:=gJ 4 cs 0) (n:=cn (dF (dF 0 (sl h0 lvl:Int)) (sl h lvl:Int)) (two (sl h0 lvl) (sl h lvl) x ((L.length+3:Nat):Int)) x97) hs rfl rfl (by rw[Xn];decide) (by simp) (by simp;omega) (by rw[qY];have:nC 4=0:=rfl;omega) rfl rfl))) (h:=λ x105 h105=>?_);refine J7 ?_;refine aP results298 (λ w hw=>?_);refine⟨⟨[x82.1,x105.1],x105.2.pn,x105.2.cn,x105.2.pc,x105.2.cc⟩,by simp only[List.length_append,List.length_cons,List.length_nil];rfl,⟨?_,λ z hz=>?_⟩,?_⟩;·have e:(gJ 4 cs 0).length=cs.length+nC 4:=qY 4 cs 0;simp only[List.map_cons,List.map_nil,tV,h82.1,h105.1,e]
   ·simp only[List.mem_cons,List.not_mem_nil,or_false] at hz;rcases hz with rfl|rfl;·exact h82.2
    ·exact h105.2
   ·have e:(L++[x82.1])++[x105.1]=L++[x82.1,x105.1]:=by simp
    rw[e] at hw;exact hw.ret E0a (aT.bA λ f hf=>by simp only[cH,List.flatMap_cons,List.flatMap_nil,List.append_nil,List.mem_append] at hf;rcases hf with h|h<;>simp[h]) (List.Sublist.refl _)
  ·try (exfalso;omega)
theorem aAH{lvl:Nat}{l:List NI}(hs:SF w D [(bb,blO ba x v h k u gen),(ba,aO L cs g acc pn kn pc kc)] A [] (mW L cs pn kn pc kc) w)(hl:L.length+l.length<=137438953300)(hc:cs.length+l.length<=137438953300)(hv:v.nd.hash=(h0:Int))(hh0:h0<18446744073709551616)(hh:h<18446744073709551616)(hlv:lvl<=10)(heq:sl h lvl=sl h0 lvl)
  (ih:∀(D:List Nat) (w:World),SF w D [(bb,blO ba x v h k u gen),(ba,aO L cs g acc pn kn pc kc)] [] [] (mW L cs pn kn pc kc) w->Calls prog 298 #[.pointer (some ⟨bb,0,none⟩),.int .i64 ((lvl+1:Nat):Int)] w (Did w D bb ba x v h k u gen L cs g acc l)) :
  Calls prog 298 #[.pointer (some ⟨bb,0,none⟩),.int .i64 ((lvl:Nat):Int)] w (Did w D bb ba x v h k u gen L cs g acc (l++[A4 gen ((L.length+2+l.length:Nat):Int),y3 (dF 0 (sl h lvl:Int)) [((L.length+3+l.length:Nat):Int)]])):=by
 have hN:=N3 l cs.length;refine enter func298 ntmps298 rfl rfl hs ?_;simp only[bY]
 refine Ka5 ?_;refine Fe ?_;refine aX (λ c13=>?_) (λ c13=>?_);·try (exfalso;omega)
 ·try (exfalso;omega)
  refine K1l ?_;refine cB (i:=5) (hq:=(cV (hc:=λ w1 hw=>kF hh hlv w1))) (h:=λ x49=>?_);refine cB (i:=12) (hq:=(cV (hc:=λ w1 hw=>by rw[hv];exact kF hh0 hlv w1))) (h:=λ x56=>?_);refine mg ?_;refine J0 ?_;refine aK (cV (hc:=λ w1 hw=>Rn w1)) (λ x57=>?_);refine aI (λ x8=>?_);refine J5 ?_;refine Ir ?_;refine Kc0 ?_;refine aX (λ c60=>?_) (λ c60=>?_);·try (exfalso;omega)
  ·try (exfalso;omega)
   refine Ix ?_;refine aA (aCa (n:=1) rf rf (by omega)) rfl ?_;refine aJ (cM (A0:=[]) (hc:=λ w hs=>ih _ w hs)) (λ x109 h109=>?_);refine nN ?_;refine eQ [(0,[]),(1,[]),(2,[]),(3,[]),(4,[]),(5,[]),(6,[]),(7,[]),(9,[]),(10,[]),(11,[]),(8,[3]),(12,[]),(13,[])] ?_;refine bs ?_;refine aR ?_;refine dA (i:=10) (hq:=(fK rf)) (h:=?_);refine aR ?_;refine cB (i:=8) (hq:=(cV (hc:=λ w1 hw=>Fl gen w1))) (h:=λ x118=>?_);refine bS (i:=12) (hq:=(Jc (A0:=[(none,aN []),(none,cY [])]) (hm:=λ w=>eK _ _ _ w) (hc:=λ w hs=>qL (A4 gen ((L.length+2+l.length:Nat):Int)) (L:=L++x109.L) (cs:=kO l cs) (n:={Nd.zero with kind:=2,gen:=gen}) hs rfl rfl (by simp) (by simp) (by have h1:=congrArg List.length h109.1;simp only[List.length_map,nA] at h1;simp only[List.length_append];omega) (by rw[lR];omega) rfl rfl))) (h:=λ x122 h122=>?_);refine J7 ?_;refine tB ?_;refine Jh ?_;refine aJ (cF (V:=λ y:Option Addr×Nat=>.tuple #[(cn (dF 0 (sl h lvl:Int)) [(((L++x109.L).length+3:Nat):Int)] y).v,.bool true]) (hc:=λ w1 hw=>ra (mI _ _) (by omega) w1)) (λ x127 h127=>?_);refine Ot ?_;refine J5 ?_;refine K0y ?_;refine nZ ?_;refine cJ ?_;refine bS (i:=5) (hq:=(Jc (A0:=[(x127.1,aN [(((L++x109.L).length+3:Nat):Int)]),(none,cY [])]) (hm:=λ w=>eK _ _ _ w) (hc:=λ w hs=>qL (y3 (dF 0 (sl h lvl:Int)) [(((L++x109.L).length+3:Nat):Int)]) (L:=(L++x109.L)++[x122.1]) (cs:=gJ 2 (kO l cs) ((L.length+2+l.length:Nat):Int)) (n:=cn (dF 0 (sl h lvl:Int)) [(((L++x109.L).length+3:Nat):Int)] x127) hs rfl rfl (by simp) (by simp) (by have h1:=congrArg List.length h109.1;simp only[List.length_map,nA] at h1;simp only[List.length_append,List.length_cons,List.length_nil];omega) (by rw[qY,lR];have:nC 2=1:=rfl;omega) rfl rfl))) (h:=λ x135 h135=>?_);refine J7 ?_;refine aP results298 (λ w hw=>?_);have h1:=congrArg List.length h109.1;simp only[List.length_map,nA] at h1
   have e0:(L++x109.L).length+3=L.length+3+l.length:=by simp only[List.length_append];omega
   rw[e0] at h135 hw;have e:((L++x109.L)++[x122.1])++[x135.1]=L++(x109.L++[x122.1,x135.1]):=by simp
   have e2:kO (l++[A4 gen ((L.length+2+l.length:Nat):Int),y3 (dF 0 (sl h lvl:Int)) [((L.length+3+l.length:Nat):Int)]]) cs=gJ 3 (gJ 2 (kO l cs) ((L.length+2+l.length:Nat):Int)) 0:=by rw[Mw];rfl
   refine⟨⟨x109.L++[x122.1,x135.1],x135.2.pn,x135.2.cn,x135.2.pc,x135.2.cc⟩,?_,⟨?_,λ z hz=>?_⟩,?_⟩;·show Ending.returned (.int .i64 _)=Ending.returned (.int .i64 _);simp only[List.length_append,List.length_cons,List.length_nil];rw[h1];congr 3;omega
   ·have e3:(gJ 2 (kO l cs) ((L.length+2+l.length:Nat):Int)).length=M1 l cs.length+nC 2:=by rw[qY,lR]
    rw[Eg,List.map_append,h109.1];simp only[List.map_cons,List.map_nil,tV,h122.1,h135.1,e3,lR]
   ·rcases List.mem_append.1 hz with hz|hz;·exact h109.2 z hz
    simp only[List.mem_cons,List.not_mem_nil,or_false] at hz;rcases hz with rfl|rfl;·exact h122.2
    ·exact h135.2
   ·rw[e] at hw;rw[e2];exact hw.ret E0a (aT.bA λ f hf=>by simp only[cH,List.flatMap_append,List.flatMap_cons,List.flatMap_nil,List.append_nil,List.mem_append] at hf;rcases hf with h|h|h<;>simp[h,cH]) (List.Sublist.refl _)
end
end Go.Proofs.YthblobahelfefaaGreatDoor

/- Merged. -/
import Derived.Test.YtdeecdfockjoiaaGreatDoorGAr5
import Derived.Test.YtdeecdfockjoiaaGreatDoorGSlices
import Derived.Test.YtdeecdfockjoiaaGreatDoorGShort
import Derived.Test.YtdeecdfockjoiaaGreatDoorGPa2
set_option linter.unusedSimpArgs false
set_option linter.unusedVariables false
namespace Go.Ct
open Go Go.RowKit
section
def Jx(cs:List Int)(c o:Int):Bool:=decide (1<=c/\c<=(cs.length:Int)/\cs.getD (c-1).toNat 0=o)
theorem Wo{cs:List Int}{c o:Int}{r:Bool}(h:r=true↔yT cs c o):r=Jx cs c o:=by rw[Bool.eq_iff_iff,h];unfold Jx yT;rw[decide_eq_true_eq]
def jT:Tr->Mm->Tr×Mm
 | .alloc n i k,s=>jT (k ((s.nodes.length+1:Nat):Int)) (s.push n i)
 | .cell i k,s=>jT (k ((s.cs.length+1:Nat):Int)) ⟨s.nodes,s.cs++[i],s.gen,s.pv⟩
 | .gen k,s=>jT (k (s.gen+1)) ⟨s.nodes,s.cs,s.gen+1,s.pv⟩
 | .node r k,s=>jT (k (aD s.nodes r)) s
 | t,s=>(t,s)
def nxT:Tr->Mm->Tr×Mm
 | .load c k,s=>(k (aG s.cs c),s)
 | .sJ c o n k,s=>(k (Jx s.cs c o),⟨s.nodes,cU s.cs c o n,s.gen,s.pv⟩)
 | t,s=>(t,s)
def mC(p:Tr×Mm):Tr×Mm:=jT (nxT p.1 p.2).1 (nxT p.1 p.2).2
def Tr.live:Tr->Bool
 | .done _=>false
 | _=>true
end
section
structure oP(n c:Nat)(v:Nv):Prop where
 old:v.old<=n
 exp:v.exp<=n
 new:v.new<=n
 br:∀r∈v.xs,r<=n
 main:v.main<=c
 prev:v.prev<=c
 status:v.status<=c
 bm:∃b:Nat,v.bm=(b:Int)/\b<18446744073709551616
 hash:∃b:Nat,v.hash=(b:Int)/\b<18446744073709551616
theorem oP.mono{n c n' c':Nat}{v:Nv}(h:oP n c v)(h1:n<=n')(h2:c<=c'):oP n' c' v :=⟨by have:=h.old;omega,by have:=h.exp;omega,by have:=h.new;omega,λ r hr=>by have:=h.br r hr;omega,by have:=h.main;omega,by have:=h.prev;omega,by have:=h.status;omega,h.bm,h.hash⟩
theorem nh(n c:Nat):oP n c Nv.zero:=⟨fN _,fN _,fN _,(λ r hr=>nomatch hr),fN _,fN _,fN _,⟨0,rfl,by decide⟩,⟨0,rfl,by decide⟩⟩
theorem My{l:List Int}{n:Nat}(h:∀v∈l,v<=n)(k:Nat):l.getD k 0<=n:=by
 rw[Gp];cases hk:l[k]? with
 | none=>exact fN n
 | some v=>exact h v (List.mem_of_getElem? hk)
end
section
def Tr.acc:Tr->Option Ac
 | .load c _=>some ⟨1,c,0,0⟩
 | .sJ c o n _=>some ⟨2,c,o,n⟩
 | _=>none
def fI:Tr->Bool
 | .load _ _=>true
 | .sJ _ _ _ _=>true
 | .done _=>true
 | _=>false
end
section
abbrev atL(v:dW)(p q:Option Addr):List Value:=[.int .i64 v.nd.kind,.int .i64 v.nd.gen,.int .i64 v.nd.main,.int .u64 v.nd.bm,.slice p v.xs.length v.xs.length,.int .u64 v.nd.hash,.string v.nd.key,.int .u64 v.nd.val,.slice q v.ys.length v.ys.length,.int .i64 v.nd.prev,.int .i64 v.nd.old,.int .i64 v.nd.exp,.int .i64 v.nd.new,.int .i64 v.nd.status]
abbrev atN(v:dW)(p q:Option Addr):Nd:={v.nd with brA:=p,brN:=v.xs.length,brC:=v.xs.length,prA:=q,prN:=v.ys.length,dF:=v.ys.length}
end
end Go.Ct
namespace Go.Proofs.YtdeecdfockjoiaaGreatDoor
open Go.RowKit Go.Ct
section
section
variable{w:World}{D:List Nat}{b:Nat}{L:List dW}{cs:List Int}{gen acc:Int}{pn pc:Option Addr}{cn cc:Nat}{A:Fr}
theorem iz{v:dW}{r:Int}(hs:SF w D [(b,aO L cs gen acc pn cn pc cc)] (dD L) [] (mW L cs pn cn pc cc) w)(hf:Fits L)(hr:r<=9223372036854775807)(hl:L.length<=274877906944)(hv:aK (aV L) r=v) :
  Calls Tryz.prog 340 #[.pointer (some ⟨b,0,none⟩),.int .i64 r] w λ e w'=>∃q:Option Addr×Option Addr,e=.returned (.agg ⟨atL v q.1 q.2⟩)/\True /\
  SF w D [(b,aO L cs gen acc pn cn pc cc)] [] [] (mW L cs pn cn pc cc++[⟨q.2,dF v.ys,v.ys.length,182,2⟩,⟨q.1,aT v.xs,v.xs.length,39,1⟩]) w':=by
 have h2:=Xo hs hf r hr hl;have h3:=iW hf.all r;rw[hv] at h2 h3
 have e:atL v=λ p q=>(v.at_ p q).nd.cells:=by funext p q;simp only[atL,dW.at_,Nd.cells,h3.brN,h3.prN]
 rw[e];exact h2
end
end
end Go.Proofs.YtdeecdfockjoiaaGreatDoor
namespace Go.Ct
open Go Go.RowKit
section
section
variable{P:Program}{S:List (Nat×Value)}{G:World->Prop}{d:Nat}{ty t t2:TypeId}{pos:String}{af:Array Edge}{gd:Option (Nat×Bool)}{x y:Operand}{dst:Option Nat}{v:Value}
theorem Wy{f:FuncId}{xs:List Operand}{at_:Array TypeId}{vs:List Value}{t:TypeId}{pv:Value}{name:String}(hx:ev S x=.iface t pv)(ha:nZ S xs=vs)(hm:∀w,(callMethod (.iface t pv) name ⟨vs⟩).run P w=.ok (.enter f ⟨pv::vs⟩) w)(w:World) :
  (execOp (ev S) ⟨dst,.call {callee:=.invoke x name,args:=⟨xs⟩,argTypes:=at_},ty,pos,af,gd⟩).run P w=.ok (.enter f ⟨pv::vs⟩) w:=by
 subst ha;have hm':(xs.map (ev S)).toArray=⟨nZ S xs⟩:=by rw[tE]
 have:=hm w;simp only[execOp,resolve,hx];simp[invoke,hm',this]
theorem ov(hx:ev S x=v)(h:∀w,(Instr.makeInterface t v).run P w=.ok (.iface t v) w):aN P S G ⟨some d,.makeInterface t x,ty,pos,af,gd⟩ (.iface t v):=⟨λ w _=>by simp[execOp,hx,h w]⟩
theorem qf{pv:Value}(hx:ev S x=.iface t2 pv)(hy:ev S y=.nilIface)(h:∀w,(binOp .eql t (.iface t2 pv) .nilIface).run P w=.ok (.bool false) w){t':TypeId}:aN P S G ⟨some d,.binOp .eql t x y t',ty,pos,af,gd⟩ (.bool false):=⟨λ w _=>by simp[execOp,hx,hy,h w,eqGuard]⟩
theorem jU{b off:Nat}(hx:ev S x=.iface t (.pointer (some ⟨b,off,none⟩))):aN P S G ⟨some d,.nilCheck x,ty,pos,af,gd⟩ (.iface t (.pointer (some ⟨b,off,none⟩))):=⟨λ w _=>by simp[execOp,hx]⟩
end
end
end Go.Ct
namespace Go.Proofs.YtdeecdfockjoiaaGreatDoor
open Go.Proofs.Tryz
section
open Go Go.RowKit Go.Ct
theorem P9(p:Option Addr)(a:Value)(w:World):(callMethod (.iface 63 (.pointer p)) "Node" #[a]).run prog w=.ok (.enter 340 #[.pointer p,a]) w:=by kernel_rfl
theorem fP(p:Option Addr)(a b:Value)(w:World):(callMethod (.iface 63 (.pointer p)) "Alloc" #[a,b]).run prog w=.ok (.enter 335 #[.pointer p,a,b]) w:=by kernel_rfl
theorem Zu(p:Option Addr)(w:World):(Instr.makeInterface 63 (.pointer p)).run prog w=.ok (.iface 63 (.pointer p)) w:=by kernel_rfl
theorem Ul(p:Option Addr)(w:World):(binOp .eql 100 (.iface 63 (.pointer p)) .nilIface).run prog w=.ok (.bool false) w:=by kernel_rfl
section
variable{S:List (Nat×Value)}{w0 w:World}{M:List Nat}{H:List (Nat×Obj)}{A F:Fr}{O:List Ow}{ty:TypeId}{pos:String}{af:Array Edge}{gd:Option (Nat×Bool)}{X:Type}{V:X->Value}
variable{hs H':List (Nat×Obj)}{os O':List Ow}{A0:Fr}{is js:List Nat}{f:FuncId}{recv:Operand}{t:TypeId}{pv:Value}{name:String}{xs:List Operand}{at_:Array TypeId}{vs:List Value}{dst:Option Nat}
theorem Ju{φ:X->Prop}{hs' H1:X->List (Nat×Obj)}{os' O1:X->List Ow}{Fc F1:X->Fr}(hx:ev S recv=.iface t pv:=by(conv=>{lhs;whnf}))(ha:nZ S xs=vs:=by(repeat (first|exact cB _|(apply bK;focus ((conv=>{lhs;whnf});try exact rfl))));first|done|fail)(hm:∀w,(callMethod (.iface t pv) name ⟨vs⟩).run prog w=.ok (.enter f ⟨pv::vs⟩) w)(hc:∀w,SF w (Ks hs os) hs A0 [] os w->Calls prog f ⟨pv::vs⟩ w λ e w'=>∃x,e=.returned (V x)/\φ x/\SF w (Ks hs os) (hs' x) [] (Fc x) (os' x) w')(hH:nW H is hs H':=by(repeat (first|exact nW.nil|(apply nW.cons;(focus ((repeat (first|exact Cf.head|apply Cf.tail));done));simp only[rW])));first|done|fail)(hO:nW O js os O':=by(repeat (first|exact nW.nil|(apply nW.cons;(focus ((repeat (first|exact Cf.head|apply Cf.tail));done));simp only[rW])));first|done|fail)(hA:bV A F O' A0:=by(repeat (first|exact bV.of (λ _ h=>Or.inr (Or.inl h))|exact bV.nil|(refine bV.cons (by first|exact Or.inl rfl|exact Or.inr (Or.inr (Or.inl (by simp)))|exact Or.inr (Or.inl (by simp))|exact Or.inr (Or.inr (Or.inr (by simp)))) ?_)));first|done|fail)(hl1:∀x,is.length=(hs' x).length:=by intro x;exact rfl)(hl2:∀x,js.length=(os' x).length:=by intro x;exact rfl)(hH1:∀x,kS is (hs' x) H'=H1 x:=by intro x;first|(simp only[kS,sX];exact rfl)|exact rfl)(hF1:∀x,Fc x++F=F1 x:=by intro x;first|(simp only[List.nil_append,List.cons_append];exact rfl)|exact rfl)(hO1:∀x,kS js (os' x) O'=O1 x:=by intro x;simp only[kS,sX,mW];exact rfl) :
  aW prog S (SF w0 M H A F O) ⟨dst,.call {callee:=.invoke recv name,args:=⟨xs⟩,argTypes:=at_},ty,pos,af,gd⟩ X V (λ x w=>φ x/\SF w0 M (H1 x) A (F1 x) (O1 x) w) :=
 iJ (Wy hx ha hm) λ w hw=>(hc w (hw.sD hH hO hA)).mono λ _ _ ⟨x,he,hx,hs⟩=>⟨x,he,hx,by have:=hw.Ao (hs':=hs' x) (Hc:=[]) (os':=os' x) (Oc:=[]) hH hO (by simpa using hs) (hl1 x) (hl2 x);rw[<- hH1 x,<- hF1 x,<- hO1 x];simpa using this⟩
theorem aBX{φ:X->Prop}{hs' H1:X->List (Nat×Obj)}{os' Oc O1:X->List Ow}{Fc F1:X->Fr}(hx:ev S recv=.iface t pv:=by(conv=>{lhs;whnf}))(ha:nZ S xs=vs:=by(repeat (first|exact cB _|(apply bK;focus ((conv=>{lhs;whnf});try exact rfl))));first|done|fail)(hm:∀w,(callMethod (.iface t pv) name ⟨vs⟩).run prog w=.ok (.enter f ⟨pv::vs⟩) w)(hc:∀w,SF w (Ks hs os) hs A0 [] os w->Calls prog f ⟨pv::vs⟩ w λ e w'=>∃x,e=.returned (V x)/\φ x/\SF w (Ks hs os) (hs' x) [] (Fc x) (os' x++Oc x) w')(hH:nW H is hs H':=by(repeat (first|exact nW.nil|(apply nW.cons;(focus ((repeat (first|exact Cf.head|apply Cf.tail));done));simp only[rW])));first|done|fail)(hO:nW O js os O':=by(repeat (first|exact nW.nil|(apply nW.cons;(focus ((repeat (first|exact Cf.head|apply Cf.tail));done));simp only[rW])));first|done|fail)(hA:bV A F O' A0:=by(repeat (first|exact bV.of (λ _ h=>Or.inr (Or.inl h))|exact bV.nil|(refine bV.cons (by first|exact Or.inl rfl|exact Or.inr (Or.inr (Or.inl (by simp)))|exact Or.inr (Or.inl (by simp))|exact Or.inr (Or.inr (Or.inr (by simp)))) ?_)));first|done|fail)(hl1:∀x,is.length=(hs' x).length:=by intro x;exact rfl)(hl2:∀x,js.length=(os' x).length:=by intro x;exact rfl)(hH1:∀x,kS is (hs' x) H'=H1 x:=by intro x;first|(simp only[kS,sX];exact rfl)|exact rfl)(hF1:∀x,Fc x++F=F1 x:=by intro x;first|(simp only[List.nil_append,List.cons_append];exact rfl)|exact rfl)(hO1:∀x,Oc x++kS js (os' x) O'=O1 x:=by intro x;simp only[kS,sX,mW,List.nil_append,List.cons_append];exact rfl) :
  aW prog S (SF w0 M H A F O) ⟨dst,.call {callee:=.invoke recv name,args:=⟨xs⟩,argTypes:=at_},ty,pos,af,gd⟩ X V (λ x w=>φ x/\SF w0 M (H1 x) A (F1 x) (O1 x) w) :=
 iJ (Wy hx ha hm) λ w hw=>(hc w (hw.sD hH hO hA)).mono λ _ _ ⟨x,he,hx,hs⟩=>⟨x,he,hx,by have:=hw.Ao (hs':=hs' x) (Hc:=[]) (os':=os' x) (Oc:=Oc x) hH hO (by simpa using hs) (hl1 x) (hl2 x);rw[<- hH1 x,<- hF1 x,<- hO1 x];simpa using this⟩
end
end
section
open Go.RowKit Go.Ct
def sw(ys:List Pr)(i j:Nat):List Pr:=(ys.set i (ys.getD j (⟨#[]⟩,0))).set j (ys.getD i (⟨#[]⟩,0))
variable{i j:Nat}{ys:List Pr}
theorem iq(ys:List Pr)(i j:Nat):(sw ys i j).length=ys.length:=by simp[sw]
theorem qd(ys:List Pr)(h:i≠j):sw ys i j=sw ys j i:=List.set_comm _ _ h
theorem Sm{t:Nat}{v:Pr}(hi:i<ys.length):(ys.set i v).getD t (⟨#[]⟩,0)=if t=i then v else ys.getD t (⟨#[]⟩,0):=by
 simp only[List.getD,List.getElem?_set];by_cases h:t=i;·subst h;simp[hi]
 ·rw[if_neg h,if_neg λ e=>h e.symm]
theorem aAC(hi:i<ys.length)(hj:j<ys.length)(t:Nat):(sw ys i j).getD t (⟨#[]⟩,0)=if t=j then ys.getD i (⟨#[]⟩,0) else if t=i then ys.getD j (⟨#[]⟩,0) else ys.getD t (⟨#[]⟩,0):=by unfold sw;rw[Sm (by rw[List.length_set];exact hj),Sm hi]
theorem aAa(P M Q:List Pr)(x y:Pr)(hi:i=P.length)(hj:j=P.length+1+M.length):sw (P++x::(M++y::Q)) i j=P++y::(M++x::Q):=by
 subst hi hj;have e1:(P++x::(M++y::Q)).getD P.length (⟨#[]⟩,0)=x:=by simp[List.getD]
 have e2:(P++x::(M++y::Q)).getD (P.length+1+M.length) (⟨#[]⟩,0)=y:=by rw[show P++x::(M++y::Q)=(P++x::M)++y::Q by simp,show P.length+1+M.length=(P++x::M).length by simp;omega];simp[List.getD]
 unfold sw;rw[e1,e2,List.set_append_right _ _ (Nat.le_refl _),Nat.sub_self,List.set_cons_zero];rw[List.set_append_right _ _ (by omega),show P.length+1+M.length-P.length=M.length+1 by omega,List.set_cons_succ,List.set_append_right _ _ (Nat.le_refl _),Nat.sub_self,List.set_cons_zero]
structure Sg(a b:Nat)(zs ys:List Pr):Prop where
 len:zs.length=ys.length
 lo:zs.take a=ys.take a
 hi:zs.drop b=ys.drop b
 stb:Ni zs ys
theorem Sg.rfl{a b:Nat}{ys:List Pr}:Sg a b ys ys:=⟨.refl _,.refl _,.refl _,Ni.rfl⟩
theorem Sg.trans{a b:Nat}{xs ys zs:List Pr}(h:Sg a b xs ys)(h2:Sg a b ys zs):Sg a b xs zs:=⟨h.len.trans h2.len,h.lo.trans h2.lo,h.hi.trans h2.hi,h.stb.trans h2.stb⟩
theorem Sg.wide{a b a' b':Nat}{zs ys:List Pr}(h:Sg a b zs ys)(ha:a'<=a)(hb:b<=b'):Sg a' b' zs ys :=
 ⟨h.len,by have:=congrArg (List.take a') h.lo;rwa [List.take_take,List.take_take,Nat.min_eq_left ha] at this,by have:=congrArg (List.drop (b'-b)) h.hi;rwa [List.drop_drop,List.drop_drop,show b+(b'-b)=b' by omega] at this,h.stb⟩
def SR(ys:List Pr)(a b:Nat):Prop:=∀i j,a<=i->i<j->j<b->dR (ys.getD j (⟨#[]⟩,0)).1 (ys.getD i (⟨#[]⟩,0)).1=false
variable{k a b:Nat}
theorem SR.ws{ys:List Pr}(h:SR ys 0 ys.length):WS ys:=List.pairwise_iff_getElem.2 λ i j hi hj hij=>by have:=h i j (Nat.zero_le _) hij hj;rwa [iO hi,iO hj] at this
theorem dy{ys:List Pr}(h:k+1<ys.length):ys=ys.take k++ys.getD k (⟨#[]⟩,0)::([]++ys.getD (k+1) (⟨#[]⟩,0)::ys.drop (k+2)):=by
 conv=>lhs;rw[<- List.take_append_drop k ys]
 rw[List.drop_eq_getElem_cons (by omega),List.drop_eq_getElem_cons h,iO (by omega),iO h];rfl
theorem aAD{ys:List Pr}(h:k+1<ys.length):sw ys k (k+1)=ys.take k++ys.getD (k+1) (⟨#[]⟩,0)::([]++ys.getD k (⟨#[]⟩,0)::ys.drop (k+2)):=by
 conv=>lhs;rw[dy h]
 exact aAa _ _ _ _ _ E0p (by rw[List.length_take];simp;omega)
theorem aC6{ys zs P X Y Q:List Pr}(e:ys=P++(X++Q))(e2:zs=P++(Y++Q))(hl:Y.length=X.length)(hs:Ni Y X)(ha:a<=P.length)(hb:P.length+X.length<=b):Sg a b zs ys:=by subst e e2;refine⟨by simp[hl],by rw[List.take_append_of_le_length ha,List.take_append_of_le_length ha],?_,Ni.rfl.w6 (hs.w6 Ni.rfl)⟩;obtain⟨d,rfl⟩:=Nat.exists_eq_add_of_le hb;rw[show P.length+X.length+d=P.length+(X.length+d) by omega,List.drop_append,List.drop_append,List.drop_append,List.drop_append];simp only[List.drop_eq_nil_of_le (show P.length<=P.length+(X.length+d) by omega),Nat.add_sub_cancel_left,List.nil_append];rw[List.drop_eq_nil_of_le (show X.length<=X.length+d by omega),List.drop_eq_nil_of_le (show Y.length<=X.length+d by omega),hl,Nat.add_sub_cancel_left]
theorem aC1{ys:List Pr}(h:k+1<ys.length)(ha:a<=k)(hb:k+2<=b)(hn:(ys.getD (k+1) (⟨#[]⟩,0)).1≠(ys.getD k (⟨#[]⟩,0)).1):Sg a b (sw ys k (k+1)) ys :=
 aC6 (P:=ys.take k) (X:=[ys.getD k (⟨#[]⟩,0),ys.getD (k+1) (⟨#[]⟩,0)]) (Y:=[ys.getD (k+1) (⟨#[]⟩,0),ys.getD k (⟨#[]⟩,0)]) (Q:=ys.drop (k+2)) (dy h) (aAD h) (.refl _)
  (iy (l:=[ys.getD (k+1) (⟨#[]⟩,0)]) (m:=[ys.getD k (⟨#[]⟩,0)]) λ p hp q hq=>by rw[List.mem_singleton.1 hp,List.mem_singleton.1 hq];exact hn)
  E0p (by rw[List.length_take];simp;omega)
def Dy(a:Nat):Nat->List Pr->List Pr
 | 0,ys=>ys
 | j+1,ys=>if a<j+1/\dR (ys.getD (j+1) (⟨#[]⟩,0)).1 (ys.getD j (⟨#[]⟩,0)).1=true then Dy a j (sw ys (j+1) j) else ys
def Jw(a:Nat):Nat->Nat->List Pr->List Pr
 | _,0,ys=>ys
 | i,n+1,ys=>Jw a (i+1) n (Dy a i ys)
theorem Zs{a i:Nat}:∀{j:Nat} {ys:List Pr},a<=j->j<=i->i<ys.length->(∀p q,a<=p->p<q->q<=i->p≠j->q≠j->dR (ys.getD q (⟨#[]⟩,0)).1 (ys.getD p (⟨#[]⟩,0)).1=false) ->
  (∀q,j<q->q<=i->dR (ys.getD j (⟨#[]⟩,0)).1 (ys.getD q (⟨#[]⟩,0)).1=true)->SR (Dy a j ys) a (i+1)/\Sg a (i+1) (Dy a j ys) ys:=by
 intro j;induction j with
 | zero=>
  intro ys h1 h2 h3 h4 h5;refine⟨λ p q p1 p2 p3=>?_,Sg.rfl⟩;by_cases hp:p=0;·subst hp;exact wA (h5 q p2 (by omega))
  ·exact h4 p q p1 p2 (by omega) hp (by omega)
 | succ j ih=>
  intro ys h1 h2 h3 h4 h5;rw[Dy];split
  ·next hc =>
   obtain⟨c1,c2⟩:=hc;have g:=aAC (ys:=ys) (i:=j+1) (j:=j) (by omega) (by omega);have gj:(sw ys (j+1) j).getD j (⟨#[]⟩,0)=ys.getD (j+1) (⟨#[]⟩,0):=by rw[g,if_pos rfl]
   have gj1:(sw ys (j+1) j).getD (j+1) (⟨#[]⟩,0)=ys.getD j (⟨#[]⟩,0):=by rw[g,if_neg (by omega),if_pos rfl]
   have go:∀t,t≠j->t≠j+1->(sw ys (j+1) j).getD t (⟨#[]⟩,0)=ys.getD t (⟨#[]⟩,0):=λ t t1 t2=>by rw[g,if_neg t1,if_neg t2]
   have key:=ih (ys:=sw ys (j+1) j) (by omega) (by omega) (by rw[iq];exact h3) (λ p q p1 p2 p3 p4 p5=>by
    by_cases hq:q=j+1;·subst hq;rw[gj1,go p p4 (by omega)];exact h4 p j p1 (by omega) (by omega) (by omega) (by omega)
    ·by_cases hp:p=j+1;·subst hp;rw[gj1,go q p5 hq];exact h4 j q (by omega) (by omega) p3 (by omega) hq
     ·rw[go p p4 hp,go q p5 hq];exact h4 p q p1 p2 p3 hp hq) (λ q q1 q2=>by
    rw[gj];by_cases hq:q=j+1;·subst hq;rw[gj1];exact c2
    ·rw[go q (by omega) hq];exact h5 q (by omega) q2)
   have hsg:Sg a (i+1) (sw ys (j+1) j) ys:=by rw[qd ys (by omega)];exact aC1 (by omega) (by omega) (by omega) (lA c2)
   exact⟨key.1,key.2.trans hsg⟩
  ·next hc =>
   refine⟨λ p q p1 p2 p3=>?_,Sg.rfl⟩;by_cases hq:q=j+1
   ·subst hq;have h0:dR (ys.getD (j+1) (⟨#[]⟩,0)).1 (ys.getD j (⟨#[]⟩,0)).1=false:=by
     cases hb:dR (ys.getD (j+1) (⟨#[]⟩,0)).1 (ys.getD j (⟨#[]⟩,0)).1 with
     | false=>rfl
     | true=>exact absurd ⟨by omega,hb⟩ hc
    by_cases hpj:p=j;·subst hpj;exact h0
    ·exact nz (h4 p j p1 (by omega) (by omega) (by omega) (by omega)) h0
   ·by_cases hp:p=j+1;·subst hp;exact wA (h5 q p2 (by omega))
    ·exact h4 p q p1 p2 (by omega) hp hq
theorem Lu{a:Nat}:∀{n i:Nat} {ys:List Pr},a<=i->i+n<=ys.length->SR ys a i->SR (Jw a i n ys) a (i+n)/\Sg a (i+n) (Jw a i n ys) ys
 | 0,_,_,_,_,h=>⟨h,Sg.rfl⟩
 | n+1,i,ys,h1,h2,h=>by have k:=Zs (a:=a) (i:=i) (j:=i) (ys:=ys) h1 (Nat.le_refl _) (by omega) (λ p q p1 p2 p3 p4 p5=>h p q p1 p2 (by omega)) (λ q q1 q2=>by omega);have k2:=Lu (a:=a) (n:=n) (i:=i+1) (ys:=Dy a i ys) (by omega) (by rw[k.2.len];omega) k.1;rw[Jw,show i+(n+1)=i+1+n by omega];exact⟨k2.1,k2.2.trans (k.2.wide (Nat.le_refl _) (by omega))⟩
end
end Go.Proofs.YtdeecdfockjoiaaGreatDoor
namespace Go.Ct
open Go Go.RowKit
section
section
variable{P:Program}{S:List (Nat×Value)}{w0 w w':World}{M:List Nat}{H:List (Nat×Obj)}{A F:Fr}{O:List Ow}
variable{i c sz:Nat}{p:Option Addr}{cs:List Value}{T:TypeId}
theorem SF.o1{o:Ow}(h:uU w o):SF w (iC o.p) [] [] [] [o] w:=by
 refine⟨⟨rfl,rfl,rfl,Nat.le_refl _,λ _ _ _=>rfl,λ _ h=>(List.not_mem_nil h).elim,λ _ h=>(List.not_mem_nil h).elim,List.nodup_nil⟩,λ _ h=>(List.not_mem_nil h).elim,λ _ h=>(List.not_mem_nil h).elim,λ o' ho=>?_,?_⟩;·simp only[List.mem_singleton] at ho;subst ho;exact⟨h,λ b hb=>.inr hb⟩
 ·simpa[Ks] using iM o.p
theorem SF.ow(h:SF w0 M H A F O w)(ho:rM O i p cs c T sz):uU w ⟨p,cs,c,T,sz⟩:=(h.own _ ho.mem).1
theorem SF.aCc(h:SF w0 M H A F O w){cs':List Value}(ho:rM O i p cs c T sz)(hc:SF w (iC p) [] [] [] [⟨p,cs',c,T,sz⟩] w'):SF w0 M H A F (gU O i ⟨p,cs',c,T,sz⟩) w':=by
 have hin:∀b∈iC p,b∈Ks H O:=λ b hb=>fA.2 (.inr ⟨_,ho.mem,hb⟩);have nd:=List.nodup_append.1 h.dis;have nd2:=List.nodup_append.1 ((wV ho).nodup_iff.1 nd.2.1)
 have:=h.X9 (D:=iC p) (Hm:=[]) (Hc:=[]) (Om:=[⟨p,cs',c,T,sz⟩]) (Oc:=[]) (H1:=H) (O1:=gU O i ⟨p,cs',c,T,sz⟩) (Fc:=[]) (by simpa using hc) hin
  (λ q hq=>.inr ⟨hq,λ hm=>nd.2.2 q.1 (List.mem_map.2 ⟨q,hq,rfl⟩) q.1 (List.mem_flatMap.2 ⟨_,ho.mem,hm⟩) rfl⟩)
  (λ o h1=>by
   rcases Ig ho o h1 with rfl|h2
   ·exact .inl (List.mem_singleton.2 rfl)
   ·exact .inr ⟨(vG O i).subset h2,λ b hb hm=>nd2.2.2 b hm b (List.mem_flatMap.2 ⟨o,h2,hb⟩) rfl⟩)
  (by
   unfold Ks
   rw[(List.Perm.append_left _ (Kl ho)).nodup_iff]
   exact((List.Perm.append_left _ (wV ho)).nodup_iff).1 h.dis)
 simpa using this
end
end
end Go.Ct
namespace Go.Proofs.YtdeecdfockjoiaaGreatDoor
open Go Go.RowKit Go.Ct
section
variable{S:List (Nat×Value)}{w0 w w':World}{M:List Nat}{H:List (Nat×Obj)}{A F:Fr}{O:List Ow}{i d:Nat}{ty:TypeId}{pos:String}{af:Array Edge}{gd:Option (Nat×Bool)}{X:Type}{V:X->Value}
theorem cFO{φ:X->Prop}{p:Option Addr}{cs:List Value}{cs':X->List Value}{c:Nat}{T:TypeId}{sz:Nat}{O1:X->List Ow}{f:FuncId}{xs:List Operand}{at_:Array TypeId}{vs:List Value}{dst:Option Nat}
  (ha:nZ S xs=vs:=by(repeat (first|exact cB _|(apply bK;focus ((conv=>{lhs;whnf});try exact rfl))));first|done|fail) (hp:plain Tryz.prog f=true:=by kernel_rfl)
  (ho:rM O i p cs c T sz) (hc:∀w,SF w0 M H A F O w->Calls Tryz.prog f ⟨vs⟩ w λ e w'=>∃x,e=.returned (V x)/\φ x/\SF w (iC p) [] [] [] [⟨p,cs' x,c,T,sz⟩] w') (hO:∀x,gU O i ⟨p,cs' x,c,T,sz⟩=O1 x:=by intro x;simp only[gU];exact rfl) :
  aW Tryz.prog S (SF w0 M H A F O) ⟨dst,.call {callee:=.value (.func f),args:=⟨xs⟩,argTypes:=at_},ty,pos,af,gd⟩ X V (λ x w=>φ x/\SF w0 M H A F (O1 x) w) :=
 iJ (nA hp ha) λ w hw=>(hc w hw).mono λ _ _ ⟨x,he,hx,hs⟩=>⟨x,he,hx,by rw[<- hO x];exact hw.aCc ho hs⟩
end
end Go.Proofs.YtdeecdfockjoiaaGreatDoor
namespace Go.Ct
open Go Go.RowKit
section
section
variable{P:Program}{S:List (Nat×Value)}{G:World->Prop}{d:Nat}{ty t t':TypeId}{pos:String}{af:Array Edge}{gd:Option (Nat×Bool)}{x y:Operand}{m n:Nat}
theorem Qc{w0:World}{M:List Nat}{H:List (Nat×Obj)}{A F:Fr}{O:List Ow}{i c:Nat}{p:Option Addr}{e:TypeId}{q:Nat}{l:List Pr}{v:Pr}(hx:ev S x=.pointer (some ⟨dJ p,eQ p+2*q,none⟩))(hy:ev S y=.agg ⟨[.string v.1,.int .u64 v.2]⟩)(ht:jB P t 2=true)(ho:rM O i p (dF l) c e 2)(hq:q<l.length) :
  aW P S (SF w0 M H A F O) ⟨none,.store t x y,ty,pos,af,gd⟩ Unit (λ _=>undef) (λ _=>SF w0 M H A F (gU O i ⟨p,dF (l.set q v),c,e,2⟩)):=Im hx hy ht ho hq
end
end
end Go.Ct
namespace Go.Proofs.YtdeecdfockjoiaaGreatDoor
open Go.Proofs.Tryz
open Go.RowKit Go.Ct
section
theorem aCJ(p q:Pr)(w:World):Calls prog 312 #[.agg ⟨[.string p.1,.int .u64 p.2]⟩,.agg ⟨[.string q.1,.int .u64 q.2]⟩] w λ e w'=>e=.returned (.int .i64 (tV p.1 q.1))/\St w [] [] w':=by refine enter func312 ntmps312 rfl rfl (SF.s0 w) ?_;simp only[cN];refine J0 ?_;refine bC (λ x2=>?_);refine bC (λ x3=>?_);refine J1 ?_;refine jN ?_;refine J3 ?_;refine aH (cV (hc:=λ w1 hw=>R6 p.1 q.1 w1)) (λ x9=>?_);refine J1 ?_;refine bJ results312 (λ w hw=>?_);exact⟨rfl,hw.done⟩
abbrev fOf:Value:=.func (.func 312) #[] #[]
section
variable{ys:List Pr}{p:Option Addr}{c a b m n N:Nat}{w:World}
theorem q5{a j:Nat}{ys:List Pr}(h:a<j)(h2:dR (ys.getD j (⟨#[]⟩,0)).1 (ys.getD (j-1) (⟨#[]⟩,0)).1=true):Dy a (j-1) (sw ys j (j-1))=Dy a j ys:=by
 cases j with
 | zero=>omega
 | succ j=>rw[Nat.add_sub_cancel] at h2 ⊢;rw[Dy];exact(if_pos ⟨h,h2⟩).symm
theorem Y5{a j:Nat}{ys:List Pr}(h:¬(a<j/\dR (ys.getD j (⟨#[]⟩,0)).1 (ys.getD (j-1) (⟨#[]⟩,0)).1=true)):Dy a j ys=ys:=by
 cases j with
 | zero=>rfl
 | succ j=>rw[Nat.add_sub_cancel] at h;rw[Dy];exact if_neg h
theorem Qj(a b:Nat)(ho:uU w ⟨p,dF ys,c,182,2⟩)(hN:ys.length=N)(hl:N<=1000000)(h3:b<=N)(h4:a<=N) :
  Calls prog 314 #[.slice p N c,.int .i64 (a:Int),.int .i64 (b:Int),fOf] w λ e w'=>∃x:Unit,e=.returned (.tuple #[])/\True/\SF w (iC p) [] [] [] [⟨p,dF (Jw a (a+1) (b-(a+1)) ys),c,182,2⟩] w':=by
 refine enter func314 ntmps314 rfl rfl (SF.o1 ho) ?_;simp only[cN];refine J2 ?_;refine aA (H5 rf rf (by omega)) rfl ?_;refine J1 ?_;refine bB ?_;refine sF [8,9,12,13,14,15,16,17,18,19,20,21,22,23,24,25,26,27,28,29,30,31,32,33,34,35,36,37,38,39,40,41,42,43,44,45,46,47,48,49,50,51,52] (λ z:Nat×List Pr=>[(8,.int .i64 ((z.1:Nat):Int))]) (λ z=>Jw a z.1 (b-z.1) z.2=Jw a (a+1) (b-(a+1)) ys/\z.2.length=N/\a+1<=z.1/\z.1<=N+1) (λ _=>_) (λ _=>_) (λ z=>[⟨p,dF z.2,c,182,2⟩]) (λ z=>b-z.1) ((a+1,ys)) (⟨rfl,hN,Nat.le_refl _,by show a+1<=N+1;omega⟩) (λ z f hx=>?_);refine K0c ?_;obtain⟨q1,q2,q3,q4⟩:=hx;refine qJ ?_;refine fX ?_;refine aX (λ c14=>?_) (λ c14=>?_)
 ·refine Ka6 ?_;refine J1 ?_;refine bB ?_;refine sF [9,18,19,20,21,22,23,24,25,26,27,28,29,30,31,32,33,34,35,36,37,38,39,40,41,42,43,44,45,46,47,48,49,50,51,52] (λ y:Nat×List Pr=>[(9,.int .i64 ((y.1:Nat):Int))]) (λ y=>Dy a y.1 y.2=Dy a z.1 z.2/\y.2.length=N/\a<=y.1/\y.1<=z.1) (λ _=>_) (λ _=>_) (λ y=>[⟨p,dF y.2,c,182,2⟩]) (λ y=>y.1) ((z.1,z.2)) (⟨rfl,q2,by show a<=z.1;omega,Nat.le_refl _⟩) (λ y f hx=>?_);refine K0c ?_;obtain⟨r1,r2,r3,r4⟩:=hx;have r5:∀t (v:Pr),(y.2.set t v).length=N:=λ t v=>by rw[List.length_set];exact r2
  have r6:=r5 y.1 (y.2.getD (y.1-1) (⟨#[]⟩,0));refine aL ?_;refine aL ?_;refine fO [0,1,2,3,4,5,6,7,8,9,10,11,12,13,14,15,16] ?_;refine yS ?_;refine aCM ?_;refine aP ?_;(refine rcs 21 (λ g21=>?_) (λ g21=>?_)<;>(first|refine kN ?_|(refine aP ?_)));all_goals ((first|refine kN ?_|(refine aP ?_));(first|refine kN ?_|(refine aP ?_));refine J74 ?_;(first|refine kN ?_|(refine aP ?_));(first|refine kN ?_|(refine aP ?_));(first|refine kN ?_|(refine cD (i:=11) (hq:=(oS rf rf (by omega) (by omega))) (h:=?_)));refine J74 ?_;((first|refine kN ?_|((refine bR (i:=14) (hq:=(cVd rf (by(repeat (first|exact cB _|(apply bK;focus ((conv=>{lhs;whnf});try exact rfl))));done) (by kernel_rfl) (λ w1 hw=>aCJ (y.2.getD y.1 (⟨#[]⟩,0)) (y.2.getD (y.1-1) (⟨#[]⟩,0)) w1))) (h:=λ x32=>?_)))));(first|refine kN ?_|(refine qZ ?_));refine Kd7 ?_)
  all_goals
  refine aX (λ c34=>?_) (λ c34=>?_)
  ·try exact nv c34
   all_goals (refine jH ?_;refine fO [0,1,2,3,4,5,6,7,8,9,10,11,12,13,14,15,16,17] ?_;refine yS ?_;refine yS ?_;refine cD (i:=4) (hq:=(oS rf rf (by omega) (by omega))) (h:=?_);refine yS ?_;refine cD (i:=7) (hq:=(oS rf rf (by omega) (by omega))) (h:=?_);refine yg ?_;refine yS ?_;refine yg ?_;refine kW ?_;refine eT (i:=15) (hq:=(aW.gJ (Qc rf rf cY rP (by omega)) E0y)) (h:=λ _=>?_);refine kW ?_;refine eT (i:=17) (hq:=(aW.gJ (Qc rf rf cY rP (by omega)) E0y)) (h:=λ _=>?_);refine dA ?_;refine eN ?_;refine Cg ?_;refine aA (oS rf rf (by omega) (by omega)) rfl ?_;refine J1 ?_)
   all_goals refine xS ((y.1-1,sw y.2 y.1 (y.1-1))) ?_;·exact⟨(q5 (by omega) (sR.1 (by assumption))).trans r1,(iq _ _ _).trans r2,by show a<=y.1-1;omega,by show y.1-1<=z.1;omega⟩
  ·all_goals (refine bg ?_;refine Cg ?_;refine aA (H5 rf rf (by omega)) rfl ?_;refine J1 ?_)
   all_goals
    refine xS ((z.1+1,y.2)) ?_
    ·refine⟨?_,r2,by show a+1<=z.1+1;omega,by show z.1+1<=N+1;omega⟩;rw[show b-z.1=(b-(z.1+1))+1 by omega,Jw,<- r1,Y5 ?_] at q1;·exact q1
     ·rintro ⟨s1,s2⟩;first|omega|exact absurd (sR.2 s2) (by assumption) 
 ·refine K1z ?_;refine Qb results314 (λ w hw=>?_);rw[show b-z.1=0 by omega] at q1;rw[<- q1];exact⟨(),rfl,trivial,hw.fS⟩
end
end
section
section
variable{ys l:List Pr}{p a:Option Addr}{c N:Nat}{w:World}
theorem SR.nil{ys:List Pr}{a:Nat}:SR ys a (a+1):=λ i j h1 h2 h3=>by omega
def MS(ys:List Pr)(a b:Nat)(zs:List Pr):Prop:=SR zs a b/\Sg a b zs ys
theorem aAI{ys:List Pr}{a b:Nat}(hab:a<=b)(hb:b<=ys.length):MS ys a b (Jw a (a+1) (b-(a+1)) ys):=by
 by_cases h:a<b;·have:=Lu (a:=a) (n:=b-(a+1)) (i:=a+1) (ys:=ys) (by omega) (by omega) SR.nil;rw[show a+1+(b-(a+1))=b by omega] at this;exact this
 ·rw[show b-(a+1)=0 by omega];exact⟨λ i j h1 h2 h3=>by omega,Sg.rfl⟩
theorem kg(ho:uU w ⟨p,dF ys,c,182,2⟩)(hN:ys.length=N)(hl:N<=19) :
  Calls prog 313 #[.slice p N c,.int .i64 (N:Int),fOf] w λ e w'=>∃x:List Pr,e=.returned (.tuple #[])/\MS ys 0 N x/\SF w (iC p) [] [] [] [⟨p,dF x,c,182,2⟩] w':=by
 refine enter func313 ntmps313 rfl rfl (SF.o1 ho) ?_;simp only[cN];refine Kd3 ?_;refine J8 ?_;refine Oy ?_;refine sF [7,8,11,12,13,14,15,16,17,18,19,20,21,22] (λ _:Unit=>[(7,.int .i64 ((0:Nat):Int)),(8,.int .i64 ((20:Nat):Int))]) (λ _=>True) (λ _=>_) (λ _=>_) (λ _=>[⟨p,dF ys,c,182,2⟩]) (λ _=>0) (()) (trivial) (λ z f hx=>?_);refine K0c ?_;refine qJ ?_;refine yC ?_;refine aE ?_;refine aX (λ c13=>?_) (λ c13=>?_);·try (exfalso;omega)
 ·try (exfalso;omega)
  refine K1z ?_;refine lV ?_;refine Df ?_;(refine aH (cFO (ho:=rP) (hc:=λ w1 hw=>Qj 0 N (hw.ow rP) hN (by omega) (by omega) (by omega))) (λ x27=>?_);try (refine dQ (λ h27=>?_)));refine Kb6 ?_;refine sF [6,7,8,9,28,29,30,31,32,33,34,35,36,37,38,39,40,41,42,43,44,45,46,47,48,49,50,51,52,53,54,55,56,57,58,59,60,61,62] (λ _:Unit=>[(6,.int .i64 ((20:Nat):Int))]) (λ _=>True) (λ _=>_) (λ _=>_) (λ _=>[⟨p,dF (Jw 0 (0+1) (N-(0+1)) ys),c,182,2⟩]) (λ _=>0) (()) (trivial) (λ k f hx=>?_);refine K0c ?_;refine qJ ?_;refine fX ?_;refine aX (λ c30=>?_) (λ c30=>?_);·try (exfalso;omega)
  ·try (exfalso;omega)
   refine K1z ?_;refine Qb results313 (λ w hw=>?_);exact⟨_,rfl,aAI (Nat.zero_le _) (by omega),hw.fS⟩
theorem Nc(ho:uU w ⟨p,dF ys,c,182,2⟩)(hN:ys.length=N)(hl:N<=19) :
  Calls prog 311 #[.slice p N c,fOf] w λ e w'=>∃x:List Pr,e=.returned (.tuple #[])/\MS ys 0 N x/\SF w (iC p) [] [] [] [⟨p,dF x,c,182,2⟩] w':=by refine enter func311 ntmps311 rfl rfl (SF.o1 ho) ?_;simp only[cN];refine Fw ?_;refine cP ?_;refine aB ?_;(refine aH (cFO (ho:=rP) (hc:=λ w1 hw=>kg (hw.ow rP) hN hl)) (λ x8=>?_);try (refine dQ (λ h8=>?_)));refine aE ?_;refine Qb results311 (λ w hw=>?_);exact⟨x8,rfl,h8,hw.fS⟩
end
end
section
section
variable{ys l:List Pr}{p a:Option Addr}{c N:Nat}{w:World}
theorem Ca{ys:List Pr}{k:Nat}(h:k<ys.length):ys.drop k=ys.getD k (⟨#[]⟩,0)::ys.drop (k+1):=by rw[List.drop_eq_getElem_cons h,iO h]
theorem G0{ys:List Pr}{k:Nat}(h:k+1<ys.length)(e:(ys.getD (k+1) (⟨#[]⟩,0)).1=(ys.getD k (⟨#[]⟩,0)).1):kA (ys.drop k)=kA (ys.drop (k+1)):=by rw[Ca (by omega),Ca h,kA,if_pos e]
theorem I1{ys:List Pr}{k:Nat}(h:k<ys.length)(hn:¬(k+1<ys.length/\(ys.getD (k+1) (⟨#[]⟩,0)).1=(ys.getD k (⟨#[]⟩,0)).1)):kA (ys.drop k)=ys.getD k (⟨#[]⟩,0)::kA (ys.drop (k+1)):=by
 rw[Ca h];by_cases h1:k+1<ys.length;·rw[Ca h1,kA,if_neg λ e=>hn ⟨h1,e⟩]
 ·rw[List.drop_eq_nil_of_le (by omega)];rfl
theorem aBz(ha:Cl w a (dF l))(hc:l.length<=c)(hlen:l.length<=19) :
    Calls prog 307 #[.slice a l.length c] w (fh w (xV l)):=by
  refine enter func307 ntmps307 rfl rfl (SF.s1 ha) ?_;simp only[cN];refine Kd3 ?_;refine cP ?_;refine oM (λ x9=>?_);refine Jo ?_;refine Ts (λ x12=>?_);refine Kb5 ?_;(refine aH (cFO (ho:=rP) (hc:=λ w1 hw=>Nc (hw.ow rP) rfl hlen)) (λ x14=>?_);try (refine dQ (λ h14=>?_)));refine Kb5 ?_;refine cP ?_;refine aH (Xy (m:=0) (k:=l.length) rf rf (by exact zR rfl) (by omega) (by omega)) (λ x17=>?_);refine Kc7 ?_;refine Ka8 ?_;have hl14:=h14.2.len;refine sF [4,5,6,20,21,22,23,24,25,26,27,28,29,30,31,32,33,34,35,36,37,38,39,40,41,42,43,44,45] (λ z:Nat×Option Addr×List Pr×Nat=>[(20,.int .i64 ((z.1:Nat):Int)),(4,.slice z.2.1 z.2.2.1.length z.2.2.2)]) (λ z=>z.1<=l.length/\z.2.2.1.length<=z.2.2.2/\z.2.2.1++kA (x14.drop z.1)=kA x14/\z.2.2.1.length<=z.1) (λ _=>_) (λ _=>_) (λ z=>[⟨z.2.1,dF z.2.2.1,z.2.2.2,182,2⟩,⟨some ⟨x9,0,none⟩,dF x14,l.length,182,2⟩]) (λ z=>l.length-z.1) ((0,some ⟨x17,0,none⟩,[],l.length)) (⟨Nat.zero_le _,Nat.zero_le _,rfl,Nat.le_refl _⟩) (λ z f hx=>?_);refine K0c ?_;obtain⟨q1,q2,q3,q4⟩:=hx
  refine Ka1 ?_;refine aX (λ c21=>?_) (λ c21=>?_)
  · refine Ka6 ?_;refine J53 ?_;refine aJ (λ x6=>?_);refine cO (λ _=>?_);refine J5 ?_;refine aL ?_;refine aL ?_;refine fO [0,1,2,3,4,5,6,7,8,9,10,11,12,13,14,15] ?_;refine aP ?_;refine Lb ?_;refine aP ?_;refine Cb ?_;refine qZ ?_;refine aP ?_;(refine rcs 30 (λ g30=>?_) (λ g30=>?_)<;>(first|refine kN ?_|(refine aP ?_)));all_goals ((first|refine kN ?_|(refine aP ?_));(first|refine kN ?_|(refine Lb ?_));(first|refine kN ?_|(refine kW ?_));refine J18 ?_;refine J18 ?_;(first|refine kN ?_|(refine yb ?_));refine Kd7 ?_)
    all_goals
     refine aX (λ c40=>?_) (λ c40=>?_)
     · try exact nv c40
       all_goals (refine bD rfl ?_;refine Ka4 ?_)
       all_goals
        refine xS ((by exact(z.1+1,z.2.1,z.2.2.1,z.2.2.2))) ?_ (hw1:=λ w hw=>by exact hw.back (hO:=E0x))
        · first
          | (rw[G0 (by omega) (by assumption)] at q3;exact⟨by show z.1+1<=l.length;omega,q2,q3,by show z.2.2.1.length<=z.1+1;omega⟩)
          | (rw[I1 (by omega) (by first|(rintro ⟨s1,s2⟩;omega)|(rintro ⟨s1,s2⟩;exact absurd s2 (by assumption)))] at q3;exact⟨by show z.1+1<=l.length;omega,by simp only[List.length_append,List.length_cons,List.length_nil];omega,by show z.2.2.1++[x14.getD z.1 (⟨#[]⟩,0)]++_=_;rw[List.append_assoc];exact q3,by simp only[List.length_append,List.length_cons,List.length_nil];omega⟩)
     · all_goals (refine bG ?_;refine Cg ?_;refine bO ?_;refine nD (λ x43=>?_);(refine Ax (λ x44=>?_);try (refine dQ (λ h44=>?_)));refine Kd8 ?_)
       all_goals
        refine xS ((by exact(z.1+1,x44.1,z.2.2.1++[x14.getD z.1 (⟨#[]⟩,0)],x44.2))) ?_ (hw1:=λ w hw=>by exact hw.back (hO:=E0x))
        · first
          | (rw[G0 (by omega) (by assumption)] at q3;exact⟨by show z.1+1<=l.length;omega,q2,q3,by show z.2.2.1.length<=z.1+1;omega⟩)
          | (rw[I1 (by omega) (by first|(rintro ⟨s1,s2⟩;omega)|(rintro ⟨s1,s2⟩;exact absurd s2 (by assumption)))] at q3;exact⟨by show z.1+1<=l.length;omega,by simp only[List.length_append,List.length_cons,List.length_nil];omega,by show z.2.2.1++[x14.getD z.1 (⟨#[]⟩,0)]++_=_;rw[List.append_assoc];exact q3,by simp only[List.length_append,List.length_cons,List.length_nil];omega⟩)
  · refine K1z ?_;refine Kd6 ?_;refine bJ results307 (λ w hw=>?_)
    have e:z.2.2.1=xV l:=by
     rw[List.drop_eq_nil_of_le (by omega),show kA []=[] from rfl,List.append_nil] at q3
     rw[q3]
     exact ga (SR.ws (by rw[hl14];exact h14.1)) h14.2.stb
    rw[<- e]
    exact⟨(z.2.1,z.2.2.2),rfl,q2,hw.fS⟩
end
end
end Go.Proofs.YtdeecdfockjoiaaGreatDoor

/- Merged. -/
import Derived.Test.YthblobahelfefaaGreatDoorGAutoD
import Derived.Test.YthblobahelfefaaGreatDoorGJoin
import Derived.Test.YthblobahelfefaaGreatDoorHa4
import Derived.Test.YthblobahelfefaaGreatDoorGFd1
import Derived.Test.YthblobahelfefaaGreatDoorGTkd
import Derived.Test.YthblobahelfefaaGreatDoorGDu2
import Derived.Test.YthblobahelfefaaGreatDoorGFd2
import Derived.Test.YthblobahelfefaaGreatDoorGHa1
set_option linter.unusedSimpArgs false
set_option linter.unusedVariables false
namespace Go.Ct
open Go Go.RowKit
section
abbrev Mm.wp(s:Mm)(π:Pv):Mm:=⟨s.nodes,s.cs,s.gen,π⟩
theorem Fw(π:Pv):∀(t:Tr) (s:Mm),iR t (s.wp π)=((iR t s).1,(iR t s).2.wp π)
 | .done _,_=>rfl
 | .load _ _,_=>rfl
 | .qG _ _ _ _,_=>rfl
 | .alloc n i k,s=>Fw π (k ((s.nodes.length+1:Nat):Int)) (s.push n i)
 | .cell i k,s=>Fw π (k ((s.cs.length+1:Nat):Int)) ⟨s.nodes,s.cs++[i],s.gen,s.pv⟩
 | .gen k,s=>Fw π (k (s.gen+1)) ⟨s.nodes,s.cs,s.gen+1,s.pv⟩
 | .node r k,s=>Fw π (k (aB s.nodes r)) s
 | .stuck,_=>rfl
theorem aDG(π:Pv)(t:Tr)(s:Mm):nxT t (s.wp π)=((nxT t s).1,(nxT t s).2.wp π):=by cases t<;>rfl
theorem aDc(π:Pv)(t:Tr)(s:Mm):mJ (t,s.wp π)=((mJ (t,s)).1,(mJ (t,s)).2.wp π):=by unfold mJ;simp only[aDG];exact Fw π _ _
end
section
structure kX where
 n:Nat
 kind:Int
 fin:Bool
 born:Nat
def kH:List kX->Nat->Nat->Option (Nat×kX)
 | [],_,_=>none
 | e::l,n,i=>if e.n=n then some (i,e) else kH l n (i+1)
theorem Bq(e:kX):∀(l:List kX) (n i:Nat),kH (l++[e]) n i=(kH l n i).or (if e.n=n then some (i+l.length,e) else none)
 | [],n,i=>by simp[kH]
 | x::l,n,i=>by
  simp only[List.cons_append,kH];by_cases h:x.n=n;·simp[h]
  ·rw[if_neg h,if_neg h,Bq e l n (i+1)];simp only[List.length_cons];rw[show i+1+l.length=i+(l.length+1) by omega]
theorem E2:∀{l:List kX} {n i q:Nat} {e:kX},kH l n i=some (q,e)->e.n=n/\i<=q/\l[q-i]?=some e
 | [],_,_,_,_,h=>by cases h
 | x::l,n,i,q,e,h=>by
  simp only[kH] at h;by_cases hx:x.n=n
  ·rw[if_pos hx] at h;injection h with h
   injection h with h1 h2
   subst h1 h2;exact⟨hx,Nat.le_refl _,by simp⟩
  ·rw[if_neg hx] at h;obtain⟨h1,h2,h3⟩:=E2 h;refine⟨h1,by omega,?_⟩;rw[show q-i=q-(i+1)+1 by omega,List.getElem?_cons_succ];exact h3
theorem Qv:∀{l:List kX} {n i q:Nat} {e e':kX},kH l n i=some (q,e)->e'.n=n->∀n',kH (l.set (q-i) e') n' i=if n'=n then some (q,e') else kH l n' i
 | [],_,_,_,_,_,h,_,_=>by cases h
 | x::l,n,i,q,e,e',h,he,n'=>by
  simp only[kH] at h;by_cases hx:x.n=n
  ·rw[if_pos hx] at h;injection h with h
   injection h with h1 h2
   subst h1 h2;rw[Nat.sub_self,List.set_cons_zero];simp only[kH];by_cases h':n'=n;·rw[if_pos h',if_pos (by omega)]
   ·rw[if_neg h',if_neg (by omega),if_neg (by omega)]
  ·rw[if_neg hx] at h;obtain⟨h1,h2,h3⟩:=E2 h;have ih:=Qv h he n';rw[show q-i=q-(i+1)+1 by omega,List.set_cons_succ];simp only[kH];by_cases h':x.n=n';·rw[if_pos h',if_pos h',if_neg (by omega)]
   ·rw[if_neg h',if_neg h',ih]
end
end Go.Ct
namespace Go.Proofs.YthblobahelfefaaGreatDoor
open Go.Proofs.Tryz
open Go Go.RowKit Go.Ct
section
structure PrV where
 bt:Nat
 c:Cd
 n:Nat
 T:Tr
 u:Nat
 po:Obj
 pl:Ow
structure hJ where
 op:Option Addr
 oc:Nat
 ops:List kA
 idx:Nat
 pr:Option PrV
def hJ.cells(t:hJ):List Value:=[.slice t.op t.ops.length t.oc,.int .i64 ((t.idx:Nat):Int),.pointer (t.pr.map λ p=>⟨p.bt,0,none⟩)]
def hJ.abs(t:hJ):Xs:=⟨t.ops,t.idx,t.pr.map PrV.T⟩
def gE.cells(e:gE):List Value:=[.int .i64 ((e.thr:Nat):Int),.int .i64 ((e.idx:Nat):Int),.bool e.ret,.int .i64 e.r.err,.bool e.r.found,.int .u64 e.r.val,.string e.r.key,.int .i64 e.r.iD,.int .i64 e.r.ref,.int .i64 e.r.root,.bool e.r.ro]
theorem cL(t:hJ):t.cells.length=3:=rfl
theorem mS(e:gE):e.cells.length=11:=rfl
theorem wJ(o:kA):o.cells.length=5:=rfl
abbrev qn(l:List hJ):List Value:=dE hJ.cells l
abbrev Uo(l:List gE):List Value:=dE gE.cells l
abbrev iG(l:List kA):List Value:=dE kA.cells l
def kR(k i:Nat):Nat:=1+k*16+i
theorem Bk{k i k' i':Nat}(hi:i<16)(hi':i'<16)(h:kR k i=kR k' i'):k=k'/\i=i':=by unfold kR at h;omega
structure MV where
 a:AS
 es:List kX
 ec:Nat
 th:List hJ
 tp:Option Addr
 tc:Nat
 hi:List gE
 hp:Option Addr
 hc:Nat
 iD:Int
 B:Fr
structure H7(o:kA):Prop where
 kind:o.kind=1∨o.kind=2∨o.kind=3∨o.kind=4∨o.kind=10∨o.kind=7
 handle:o.handle=0
 key:o.key.size<=64
def Jt(es:List kX)(k:Nat)(t:hJ):Prop :=
 match t.pr with
 | none=>∀i,t.idx<=i->i<16->kH es (kR k i) 0=none
 | some _=>(∃q e,kH es (kR k t.idx) 0=some (q,e)/\e.fin=false/\(e.kind=1∨e.kind=2∨e.kind=3∨e.kind=4∨e.kind=10∨e.kind=7))/\∀i,t.idx<i->i<16->kH es (kR k i) 0=none
def kX.e(t:nV)(x:kX):MapEntry:=⟨.int .i64 ((x.n:Nat):Int),.agg ⟨[.int .i64 x.kind,.int .i64 t.root,.bool t.ro,.bool x.fin]⟩,x.born⟩
theorem On(t:nV):∀(l:List kX) (n i:Nat),Instr.findNow (.int .i64) (.int .i64 ((n:Nat):Int)) (l.map (kX.e t)) i=some ((kH l n i).map λ q=>(q.1,(kX.e t q.2).val))
 | [],n,i=>rfl
 | x::l,n,i=>by
  simp only[List.map_cons,Instr.findNow,kX.e,Instr.sameNow,kH];by_cases h:x.n=n;·subst h;simp
  ·have hne:((((n:Nat):Int))==((x.n:Nat):Int))=false:=by simp;omega
   rw[if_neg h,hne];exact On t l n (i+1)
abbrev mcC(b bT:Nat)(pk:Option Addr×Nat×Nat)(V:MV):List Value:=[pt b,pt bT,.slice V.tp V.th.length V.tc,.slice pk.1 pk.2.1 pk.2.2,.slice V.hp V.hi.length V.hc,.int .i64 V.iD]
abbrev Ju(b bT:Nat)(pk:Option Addr×Nat×Nat)(V:MV):Obj:=.cells ⟨mcC b bT pk V⟩ 56 (0,0)
def N1(b:Nat)(t:hJ):List (Nat×Obj):=match t.pr with|none=>[]|some p=>[(p.bt,tO b p.c p.n),(p.u,p.po)]
abbrev tS(m b bm bT bo bt bi:Nat)(pk:Option Addr×Nat×Nat)(V:MV):List (Nat×Obj):=[(bm,Ju b bT pk V),(bT,qX b m bo bt bi),(bo,bV (V.es.map (kX.e t3)) V.ec),(bt,bV (Jb t3) 1),(b,cX V.a)]
abbrev mcH(m b bm bT bo bt bi:Nat)(pk:Option Addr×Nat×Nat)(V:MV):List (Nat×Obj):=tS m b bm bT bo bt bi pk V++V.th.flatMap (N1 b)
def Pc(t:hJ):List Ow:=match t.pr with|none=>[]|some p=>[p.pl]
abbrev xD(V:MV):List Ow:=⟨V.tp,qn V.th,V.tc,83,3⟩::⟨V.hp,Uo V.hi,V.hc,76,11⟩::iS V.a
abbrev tpW(V:MV):List Ow:=[⟨V.tp,qn V.th,V.tc,83,3⟩]
abbrev vj(V:MV):List Ow:=[⟨V.hp,Uo V.hi,V.hc,76,11⟩]
abbrev Q3(V:MV)(o:Ow):List Ow:=⟨V.tp,qn V.th,V.tc,83,3⟩::⟨V.hp,Uo V.hi,V.hc,76,11⟩::o::iS V.a
abbrev Et(V:MV):List Ow:=⟨V.tp,qn V.th,V.tc,83,3⟩::⟨V.hp,Uo V.hi,V.hc,76,11⟩::(iS V.a++V.th.flatMap Pc)
structure MI(b C:Nat)(Z:AM)(V:MV):Prop where
 ok:V.a.Ok
 up:V.a.mm=Z.s.wp V.a.pv
 th:V.th.map hJ.abs=Z.th
 hist:V.hi=Z.hist
 tb:∀k t,V.th[k]?=some t->Jt V.es k t
 pr:∀t∈V.th,∀p,t.pr=some p->dZ b p.T (V.a.mm.wp ((p.u,p.po),p.pl)) p.c (V.a.mm.wp ((p.u,p.po),p.pl)) V.B/\fB p.T=true/\p.T.live=true/\p.n<=C
 fam:∀f∈cH V.a.L,f.2=[]∨f∈V.B
 fo:∀t∈V.th,(t.op,iG t.ops)∈V.B
 oo:∀t∈V.th,t.ops.length<=16/\t.idx<=t.ops.length/\(t.pr≠none->t.idx<t.ops.length)/\∀o∈t.ops,H7 o
 tl:V.th.length<=8
 hl:V.hi.length<=2*C
end
section
section
variable{D:List Nat}{A B:Fr}{a:AS}{b:Nat}{w:World}{f:FuncId}{cap:xK}{t:nV}
variable{x v:Int}{s:Mm}{b3 b1 b2 b0:Nat}{nd:Nd}
theorem z8{K:Bool->Tr}{r:Int}{b4:Nat}(hK:Na b K s f cap B)(hns:Ns (K (x==1)) s):jK b 196 [pt b3,pt b4] [.int .i64 r] (bx b3 [fn f cap]::bx b4 [iv x]::B) s (K (x==1)):=by
 intro a D A w em ok hm0 hA hB hw0;subst em;refine K1c ?_;intro hm;have hK2:=hK.more (B2:=(bx b3 [fn f cap]::bx b4 [iv x]::B)) (λ x hx=>by simp[hx]);refine enter func196 ntmps196 rfl rfl hw0 ?_;simp only[bY]
 refine K1h ?_;intro x4;refine Kb0 ?_;refine aA (iA b3 [fn f cap] 0 hB rfl) rfl ?_;refine aA (iA b4 [.int .i64 x] 0 hB rfl) rfl ?_;refine tL ?_;refine aJ (Ik hK2.1 (hK2.2 (x==1) a.mm (Mm.Le.refl _) hns) ok hm0 hA hB) (λ x8 h8=>?_);refine aM (cK λ _=>aE rf bU rf (aW _) cW rf dV) (λ _=>?_);refine aC ?_;refine bJ results196 (λ w hw=>?_);exact⟨x8,rfl,h8,hw.rN⟩
theorem aAq{K:Bool->Tr}(ht:t.root<=9223372036854775807)(hK:Na b K s f cap B)(hv:v<=s.nodes.length):jK b 195 [pt b1,pt b2,pt b3] [.int .i64 x] (bx b1 (eZ b t)::bx b2 [iv v]::bx b3 [fn f cap]::B) s (lM t v x λ _=>K (x==1)):=by
 intro a D A w em ok hm0 hA hB hw0;subst em;refine K1c ?_;intro hm;have hT:∀x4:Nat,tQ b (λ _=>K (x==1)) a.mm 196 ⟨[],[.pointer (some ⟨b3,0,none⟩),.pointer (some ⟨x4,0,none⟩)]⟩ (bx x4 [iv x]::(bx b1 (eZ b t)::bx b2 [iv v]::bx b3 [fn f cap]::B)):=λ x4=>⟨by kernel_rfl,λ r s1 l hr hns=>(z8 (b3:=b3) (b4:=x4) (r:=r) (hK.le l) hns).mr (λ y hy=>by simp only[List.mem_cons] at hy ⊢;rcases hy with h|h|h<;>simp[h])⟩
 refine enter func195 ntmps195 rfl rfl hw0 ?_;simp only[bY];refine J0 ?_;refine bC (λ x4=>?_);refine aI (λ x5=>?_);refine Kb0 ?_;refine K0k ?_;refine aA (iA b2 [.int .i64 v] 0 hB rfl) rfl ?_;refine bW ?_;refine K0q ?_;(refine aK (aQ.pre (λ w h=>(show SF _ _ [_,(b,cX a),(a.u,a.po)] _ [(bx x4 [iv x]:Option Addr×List Value)] _ w from h.bP (.tail .head))) (cM (V:=λ y:Cd×Fr×AS=>.agg ⟨y.1.cells⟩) (hs:=[(b,cX a),(a.u,a.po)]) (os:=hU a) (hs':=λ y=>[(b,cX y.2.2),(y.2.2.u,y.2.2.po)]) (os':=λ y=>hU y.2.2) (Fc:=λ y=>y.2.1) (A0:=bx x4 [iv x]::A) (hA:=bL.Mv) (hc:=λ w1 hw=>nF ht (hT x4) hv ok hm (λ f hf=>List.mem_cons_of_mem _ (hA f hf)) (yR hB) hw))) (λ x10=>?_);try (refine eF (λ h10=>?_)));refine aM (cK λ _=>aE rf bU rf (aW _) cW rf dV) (λ _=>?_);refine aC ?_;refine bJ results195 (λ w hw=>?_);refine⟨(x10.1,x10.2.1++[bx x4 [iv x]],x10.2.2),rfl,⟨?_,h10.2.1,h10.2.2.more (λ f hf=>List.mem_append_left _ hf)⟩,hw.rI⟩;dsimp only;rw[List.append_assoc];exact h10.1
theorem yy{K:Bool->Tr}(ht:t.root<=9223372036854775807)(hK:Na b K s f cap B)(hv:v<=s.nodes.length)(hst:(aB s.nodes v).status=nd.status):jK b 194 [pt b0,pt b1,pt b2,pt b3] [] (bx b0 (nd.cells:List Value)::bx b1 (eZ b t)::bx b2 [iv v]::bx b3 [fn f cap]::B) s (.node v λ nd=>.load nd.status λ s=>lM t v s λ _=>K (s==1)):=by
 intro a D A w em ok hm0 hA hB hw0;subst em;refine K1c ?_;intro hm;have hd:nd.status<=9223372036854775807:=by rw[<- hst];exact lF hm (ok.mo.at v).status
 refine enter func194 ntmps194 rfl rfl hw0 ?_;simp only[bY];refine K1h ?_;intro x4;refine Kb0 ?_;refine K1p ?_;refine K0q ?_;refine aK (cV (hc:=λ w1 hw=>lH _ _ _ w1)) (λ x8=>?_);refine aM (cK λ _=>aE rf bU rf (aW _) cW rf dV) (λ _=>?_);refine aC ?_;refine bJ results194 (λ w hw=>?_);refine⟨(lL nd.status _ _,[],a),rfl,⟨⟨hv,?_⟩,ok,AS.eC.refl a⟩,hw.rI⟩;dsimp only;rw[hst];exact⟨rfl,hd,_,_,rfl,by kernel_rfl,λ x s1 l hx _=>(aAq (b1:=b1) (b2:=b2) (b3:=b3) ht (hK.le l) E0c).mr (λ y hy=>List.mem_cons_of_mem _ hy)⟩
theorem aAx{K:Bool->Tr}(ht:t.root<=9223372036854775807)(hK:Na b K s f cap B)(hv:v<=s.nodes.length)(ho:(aB s.nodes v).old=nd.old)(he:(aB s.nodes v).exp=nd.exp)(hst:(aB s.nodes v).status=nd.status)(o:Bool)(hns:o=false->Ns (K false) s):jK b 193 [pt b3,pt b1,pt b0,pt b2] [.bool o] (bx b3 [fn f cap]::bx b1 (eZ b t)::bx b0 (nd.cells:List Value)::bx b2 [iv v]::B) s (if o=true then oB t v (.node v λ nd=>.load nd.status λ s=>lM t v s λ _=>K (s==1)) else K false):=by
 intro a D A w em ok hm0 hA hB hw0;subst em;refine K1c ?_;intro hm;have hK2:=hK.more (B2:=(bx b3 [fn f cap]::bx b1 (eZ b t)::bx b0 (nd.cells:List Value)::bx b2 [iv v]::B)) (λ x hx=>by simp[hx])
 have hT:X3 b (.node v λ nd=>.load nd.status λ s=>lM t v s λ _=>K (s==1)) a.mm 194 ⟨[],[.pointer (some ⟨b0,0,none⟩),.pointer (some ⟨b1,0,none⟩),.pointer (some ⟨b2,0,none⟩),.pointer (some ⟨b3,0,none⟩)]⟩ (bx b3 [fn f cap]::bx b1 (eZ b t)::bx b0 (nd.cells:List Value)::bx b2 [iv v]::B):=⟨by kernel_rfl,λ s1 l _=>(yy (b0:=b0) (b1:=b1) (b2:=b2) (b3:=b3) (nd:=nd) ht (hK.le l) E0c (by rw[l.nd hv];exact hst)).mr (λ y hy=>by simp only[List.mem_cons] at hy ⊢;rcases hy with h|h|h|h|h<;>simp[h])⟩
 refine enter func193 ntmps193 rfl rfl hw0 ?_;simp only[bY];refine J0 ?_;refine aI (λ x6=>?_);refine Kc3 ?_;refine pG ?_;refine aX (λ c8=>?_) (λ c8=>?_);·refine J0 ?_;refine aA (iA b3 [fn f cap] 0 hB rfl) rfl ?_;refine aJ (Ik hK2.1 (hK2.2 false a.mm (Mm.Le.refl _) (hns (by simpa using c8))) ok hm0 hA hB) (λ x10 h10=>?_);refine aM (cK λ _=>aE rf bU rf (aW _) cW rf dV) (λ _=>?_);refine aC ?_;refine bJ results193 (λ w hw=>?_);refine⟨x10,rfl,⟨?_,h10.2⟩,hw.rN⟩;rw[if_neg (by rw[show o=false by simpa using c8];decide)];exact h10.1
 ·refine Kb5 ?_;refine K0k ?_;refine aA (Hq b0 (nd.cells:List Value) 0 14 hB rfl rfl) rfl ?_;refine K0q ?_;refine aJ (jN (λ w1 hw=>Kj (nd:=nd) ht hT hv ho he hst ok hm hA hB hw)) (λ x14 h14=>?_);refine aM (cK λ _=>aE rf bU rf (aW _) cW rf dV) (λ _=>?_);refine aC ?_;refine bJ results193 (λ w hw=>?_);refine⟨x14,rfl,⟨?_,h14.2⟩,hw.rN⟩;rw[if_pos (by simpa using c8)];exact h14.1
theorem Ub{K:Bool->Tr}{fq:FuncId}{old exp nw:Int}(ht:t.root<=9223372036854775807)(hK:Na b K a.mm fq cap B)(ho:old<=a.mm.nodes.length)(he:exp<=a.mm.nodes.length+1)(hnw:nw<=a.mm.nodes.length)(ok:a.Ok)(hm:a.mm.Small)(hA:∀f∈cH a.L,f∈A)(hB:∀x∈B,x∈A)(hs:SF w D [(b,cX a),(a.u,a.po)] A [] (hU a) w) :
  Calls prog 154 #[.agg ⟨eZ b t⟩,.int .i64 old,.int .i64 exp,.int .i64 nw,fn fq cap] w (kC b (λ c' s' B'=>dZ b (uE t old exp nw K) a.mm c' s' B') a B D w):=by
 have Tf:∀x:AX,(a.al ({Nd.zero with kind:=8,old:=old,exp:=exp,new:=nw}:Nd) [] [] 0 x).Ok:=λ x=>ok.al1 x (by simp) (by simp) ⟨show old<=((a.mm.nodes.length+1:Nat):Int) by omega,show exp<=((a.mm.nodes.length+1:Nat):Int) by omega,show nw<=((a.mm.nodes.length+1:Nat):Int) by omega,(λ r hr=>nomatch hr),fQ _,fQ _,fQ _,⟨0,rfl,by decide⟩,⟨0,rfl,by decide⟩⟩ (by omega);have hlA:∀x:AX,(a.al ({Nd.zero with kind:=8,old:=old,exp:=exp,new:=nw}:Nd) [] [] 0 x).mm.nodes.length=a.mm.nodes.length+1:=λ x=>by rw[eU];show(a.mm.nodes++[_]).length=_;simp
 have hleA:∀x:AX,a.mm.Le (a.al ({Nd.zero with kind:=8,old:=old,exp:=exp,new:=nw}:Nd) [] [] 0 x).mm:=λ x=>by rw[eU];exact My _ _ _
 refine enter func154 ntmps154 rfl rfl hs ?_;simp only[bY];refine J0 ?_;refine bC (λ x5=>?_);refine bC (λ x9=>?_);refine aI (λ x10=>?_);refine Bz ?_;refine wK [11,13,14,15,16,17,18,19,20,21] (λ j:Nat×AX=>[(11,.pointer (some ⟨j.1,0,none⟩))]) (λ _=>True) (λ j=>[(j.1,.cells ⟨[.int .i64 ((a.mm.nodes.length+1:Nat):Int)]⟩ 69 (0,0)),(x10,.cells ⟨(eS Rs.zero).cells⟩ 144 (0,0)),(x9,.cells ⟨[fn fq cap]⟩ 142 (0,0)),(x5,.cells ⟨eZ b t⟩ 201 (0,0)),(b,cX (a.al ({Nd.zero with kind:=8,old:=old,exp:=exp,new:=nw}:Nd) [] [] 0 j.2)),((a.al ({Nd.zero with kind:=8,old:=old,exp:=exp,new:=nw}:Nd) [] [] 0 j.2).u,(a.al ({Nd.zero with kind:=8,old:=old,exp:=exp,new:=nw}:Nd) [] [] 0 j.2).po)]) (λ j=>(kP ({Nd.zero with kind:=8,old:=old,exp:=exp,new:=nw}:Nd) [] [] a.cs.length j.2).fr) (λ j=>hU (a.al ({Nd.zero with kind:=8,old:=old,exp:=exp,new:=nw}:Nd) [] [] 0 j.2)) (by decide) (λ _=>by exact rfl) ?_ (λ j f hx=>?_)
 ·refine oG (.one 0 [] (.one 1 [] (.one 2 [] (.one 3 [] (.one 4 [] (.one 6 [] (.one 7 [] (.two 5 [1] (.two 8 [] (.one 9 [1] (.one 10 [] .nil)) 0 [] (.two 9 [1] (.one 8 [] (.one 10 [] .nil)) 0 [] .nil)) 0 [] (.two 9 [1] (.one 5 [1] (.one 8 [] (.one 10 [] .nil))) 0 [] .nil))))))))) ?_;refine iX ?_;refine Bx ?_;refine aR ?_;refine dA (i:=6) (hq:=(fK rf)) (h:=?_);refine aR ?_;refine nR (E:=[5,9]) (by decide +kernel) ((.cons ?_ (.cons ?_ .nil)))
  ·refine rE (i:=5) (hq:=(cV (hc:=λ w1 hw=>nq old exp nw w1))) (h:=λ x18=>?_);refine nR (E:=[8,9]) (by decide +kernel) ((.cons ?_ (.cons ?_ .nil)));·refine Ch (i:=8) (hq:=(Jc (V:=λ _:AX=>.int .i64 ((a.mm.nodes.length+1:Nat):Int)) (hs:=[(b,cX a)]) (os:=iS a) (A0:=[(none,aN []),(none,cY [])]) (hs':=λ x=>[(b,cX (a.al ({Nd.zero with kind:=8,old:=old,exp:=exp,new:=nw}:Nd) [] [] 0 x))]) (os':=λ x=>iS (a.al ({Nd.zero with kind:=8,old:=old,exp:=exp,new:=nw}:Nd) [] [] 0 x)) (Fc:=λ x=>(kP ({Nd.zero with kind:=8,old:=old,exp:=exp,new:=nw}:Nd) [] [] a.cs.length x).fr) (hm:=λ w=>eK _ _ _ w) (hc:=λ w1 hw=>kY ok hm 0 rfl rfl (by simp) (by simp) (λ f hf=>hf) hw))) (h:=λ x21 h21=>?_);refine cB (i:=9) (hq:=(cK λ _=>qN (z:=.int .i64 0) (by kernel_rfl) rfl)) (h:=λ x11=>?_);refine Kg ?_;refine rX ((x11,x21)) ?_;·trivial
   ·refine rE (i:=9) (hq:=(cK λ _=>qN (z:=.int .i64 0) (by kernel_rfl) rfl)) (h:=λ x11=>?_);refine bS (i:=8) (hq:=(Jc (V:=λ _:AX=>.int .i64 ((a.mm.nodes.length+1:Nat):Int)) (hs:=[(b,cX a)]) (os:=iS a) (A0:=[(none,aN []),(none,cY [])]) (hs':=λ x=>[(b,cX (a.al ({Nd.zero with kind:=8,old:=old,exp:=exp,new:=nw}:Nd) [] [] 0 x))]) (os':=λ x=>iS (a.al ({Nd.zero with kind:=8,old:=old,exp:=exp,new:=nw}:Nd) [] [] 0 x)) (Fc:=λ x=>(kP ({Nd.zero with kind:=8,old:=old,exp:=exp,new:=nw}:Nd) [] [] a.cs.length x).fr) (hm:=λ w=>eK _ _ _ w) (hc:=λ w1 hw=>kY ok hm 0 rfl rfl (by simp) (by simp) (λ f hf=>hf) hw))) (h:=λ x21 h21=>?_);refine Kg ?_;refine rX ((x11,x21)) ?_;·trivial
  ·refine rE (i:=9) (hq:=(cK λ _=>qN (z:=.int .i64 0) (by kernel_rfl) rfl)) (h:=λ x11=>?_);refine cB (i:=5) (hq:=(cV (hc:=λ w1 hw=>nq old exp nw w1))) (h:=λ x18=>?_);refine bS (i:=8) (hq:=(Jc (V:=λ _:AX=>.int .i64 ((a.mm.nodes.length+1:Nat):Int)) (hs:=[(b,cX a)]) (os:=iS a) (A0:=[(none,aN []),(none,cY [])]) (hs':=λ x=>[(b,cX (a.al ({Nd.zero with kind:=8,old:=old,exp:=exp,new:=nw}:Nd) [] [] 0 x))]) (os':=λ x=>iS (a.al ({Nd.zero with kind:=8,old:=old,exp:=exp,new:=nw}:Nd) [] [] 0 x)) (Fc:=λ x=>(kP ({Nd.zero with kind:=8,old:=old,exp:=exp,new:=nw}:Nd) [] [] a.cs.length x).fr) (hm:=λ w=>eK _ _ _ w) (hc:=λ w1 hw=>kY ok hm 0 rfl rfl (by simp) (by simp) (λ f hf=>hf) hw))) (h:=λ x21 h21=>?_);refine Kg ?_;refine rX ((x11,x21)) ?_;·trivial
 refine K0a ?_;refine gP ?_;refine bW ?_;refine aJ (aCE (V:=λ q:Option Addr×Option Addr=>.agg ⟨((aV (bM (a.al ({Nd.zero with kind:=8,old:=old,exp:=exp,new:=nw}:Nd) [] [] 0 j.2).L) ((a.mm.nodes.length+1:Nat):Int)).at_ q.1 q.2).nd.cells⟩) (hs:=[(b,cX (a.al ({Nd.zero with kind:=8,old:=old,exp:=exp,new:=nw}:Nd) [] [] 0 j.2))]) (os:=iS (a.al ({Nd.zero with kind:=8,old:=old,exp:=exp,new:=nw}:Nd) [] [] 0 j.2)) (A0:=cH (a.al ({Nd.zero with kind:=8,old:=old,exp:=exp,new:=nw}:Nd) [] [] 0 j.2).L) (hA:=bL.of λ f hf=>((AS.eC.al a _ _ _ _ j.2).fam f hf).imp_right λ h=>h.elim (λ h=>.inl (hA f h)) λ h=>.inr (.inl h)) (hm:=λ w=>Ib _ _ w) (hc:=λ w1 hw=>rq (Tf j.2) (by have:=hm.1;have:=hlA j.2;omega) ((a.mm.nodes.length+1:Nat):Int) (by have:=hlA j.2;have:=hm.1;omega) hw)) (λ x25 h25=>?_);refine aI (λ x12=>?_);refine J5 ?_;refine J0 ?_;refine Kc9 ?_;refine aD ?_;refine bW ?_;refine K0q ?_;refine aK (cV (hc:=λ w1 hw=>qB _ _ _ _ _ w1)) (λ x32=>?_);refine aM (cK λ _=>aE rf bU rf (aW _) cW rf dV) (λ _=>?_);refine aC ?_;refine bJ results154 (λ w hw=>?_);refine⟨(qS t.root old ((a.mm.nodes.length+1:Nat):Int) _ _,[bx x12 (((aV (bM (a.al ({Nd.zero with kind:=8,old:=old,exp:=exp,new:=nw}:Nd) [] [] 0 j.2).L) ((a.mm.nodes.length+1:Nat):Int)).at_ x25.1 x25.2).nd.cells:List Value),bx j.1 [iv ((a.mm.nodes.length+1:Nat):Int)],bx x9 [fn fq cap],bx x5 (eZ b t)]++(kP ({Nd.zero with kind:=8,old:=old,exp:=exp,new:=nw}:Nd) [] [] a.cs.length j.2).fr,(a.al ({Nd.zero with kind:=8,old:=old,exp:=exp,new:=nw}:Nd) [] [] 0 j.2)),rfl,⟨?_,Tf j.2,(AS.eC.al a _ _ _ _ j.2).more (λ f hf=>List.mem_append_right _ hf)⟩,?_⟩
 ·refine⟨(by show _=_;rw[eU];rfl),ht,?_,_,_,rfl,by kernel_rfl,λ o s1 l hns=>?_⟩;·show _<=(((a.mm.nodes++[_]).length:Nat):Int);rw[List.length_append];simp
  ·have l1:(a.al ({Nd.zero with kind:=8,old:=old,exp:=exp,new:=nw}:Nd) [] [] 0 j.2).mm.Le s1:=by exact l
   have hl1:=l1.len;have hl2:=hlA j.2;have hv1:((a.mm.nodes.length+1:Nat):Int)<=(a.al ({Nd.zero with kind:=8,old:=old,exp:=exp,new:=nw}:Nd) [] [] 0 j.2).mm.nodes.length:=by omega
   exact(aAx (b0:=x12) (b1:=x5) (b2:=j.1) (b3:=x9) (nd:=((aV (bM (a.al ({Nd.zero with kind:=8,old:=old,exp:=exp,new:=nw}:Nd) [] [] 0 j.2).L) ((a.mm.nodes.length+1:Nat):Int)).at_ x25.1 x25.2).nd) ht (hK.le ((hleA j.2).trans l1)) (by omega) (by rw[l1.nd hv1,dD];rfl) (by rw[l1.nd hv1,dD];rfl) (by rw[l1.nd hv1,dD];rfl) o (λ e=>by have h:Ns (if o=true then _ else K false) s1:=hns;rw[if_neg (by rw[e];decide)] at h;exact h)).mr (λ y hy=>by
   simp only[List.mem_cons,List.mem_append,List.not_mem_nil,or_false] at hy ⊢;rcases hy with h|h|h|h|h<;>simp[h])
 ·exact((((hw.bP (.tail (.tail (.tail (.tail .head))))).bP (.tail (.tail (.tail .head)))).bP (.tail .head)).bP .head).rI
end
end
end Go.Proofs.YthblobahelfefaaGreatDoor
namespace Go.Ct
open Go Go.RowKit
section
theorem Nn{P:Program}{S:List (Nat×Value)}{G:World->Prop}{d:Nat}{ty:TypeId}{pos:String}{af:Array Edge}{gd:Option (Nat×Bool)}{x:Operand}{nm:String}{t:TypeId}{p:Value}{b:Array Value}(hx:ev S x=.func (.method nm) ⟨[.iface t p]⟩ b)(h:∀w,(nilAhead (P.types.size+100) t p nm).run P w=.ok (some false) w):aH P S G ⟨some d,.nilCheck x,ty,pos,af,gd⟩ (.func (.method nm) ⟨[.iface t p]⟩ b):=⟨λ w _=>by simp[execOp,hx,h,go_sem,Result.andThen]⟩
end
end Go.Ct
namespace Go.Proofs.YthblobahelfefaaGreatDoor
open Go.Proofs.Tryz
open Go Go.RowKit Go.Ct
section
theorem Hl(p:Option Addr)(w:World):(callMethod (.iface 51 (.pointer p)) "NewGen" #[]).run prog w=.ok (.enter 337 #[.pointer p]) w:=by kernel_rfl
theorem S3(p:Option Addr)(a:Value)(w:World):(callMethod (.iface 51 (.pointer p)) "NewCell" #[a]).run prog w=.ok (.enter 336 #[.pointer p,a]) w:=by kernel_rfl
theorem U3(a:Addr)(w:World):(nilAhead (prog.types.size+100) 51 (.pointer (some a)) "Alloc").run prog w=.ok (some false) w:=by kernel_rfl
end
section
def ed(b:Nat)(t:nV)(T:Tr):Prop:=∀(a:AS) (D:List Nat) (A B:Fr) (w:World),a.Ok->a.mm.gM->(∀f∈cH a.L,f∈A)->(∀x∈B,x∈A)->SF w D [(b,cX a),(a.u,a.po)] A [] (hU a) w ->
  Calls prog 117 #[.agg ⟨eZ b t⟩] w (kC b (λ c' s' B'=>dZ b T a.mm c' s' B') a B D w)
section
variable{D:List Nat}{A B:Fr}{a:AS}{b:Nat}{w:World}{f:FuncId}{cap:xK}{t:nV}
theorem aDb:ed b t .stuck:=by intro a D A B w ok hm0 hA hB hs;refine K1c ?_;intro hm;refine enter func117 ntmps117 rfl rfl hs ?_;simp only[bY];refine K1r ?_;intro x1 x2;refine tB ?_;refine K0q ?_;refine aJ (jN (A0:=A) (λ w1 hw=>P3 (B:=B) (f:=156) (cap:=⟨[],[pt x1]⟩) ok hm hw)) (λ x5 h5=>?_);refine aM (cK λ _=>aE rf bU rf (aW _) cW rf dV) (λ _=>?_);refine aC ?_;refine bJ results117 (λ w hw=>?_);exact⟨x5,rfl,⟨trivial,h5.2⟩,hw.rN⟩
theorem aDy{K:Int->Tr}(ht:t.root<=9223372036854775807)(hb:∀(s:Mm) (B:Fr) (b1:Nat) (r:Int),r<=s.nodes.length->jK b 156 [pt b1] [.int .i64 r] (bx b1 (eZ b t)::B) s (K r)):ed b t (xO t K):=by
 intro a D A B w ok hm0 hA hB hs;refine K1c ?_;intro hm;have hT:∀x1:Nat,tQ b K a.mm 156 ⟨[],[pt x1]⟩ (bx x1 (eZ b t)::B):=λ x1=>⟨by kernel_rfl,λ r s1 l1 hr _=>hb s1 B x1 r hr⟩;refine enter func117 ntmps117 rfl rfl hs ?_;simp only[bY]
 refine K1r ?_;intro x1 x2;refine tB ?_;refine K0q ?_;(refine aK (aQ.pre (λ w h=>(show SF _ _ [_,(b,cX a),(a.u,a.po)] _ [(bx x1 (eZ b t):Option Addr×List Value)] _ w from h.bP (.tail .head))) (cM (V:=λ y:Cd×Fr×AS=>.agg ⟨y.1.cells⟩) (hs:=[(b,cX a),(a.u,a.po)]) (os:=hU a) (hs':=λ y=>[(b,cX y.2.2),(y.2.2.u,y.2.2.po)]) (os':=λ y=>hU y.2.2) (Fc:=λ y=>y.2.1) (A0:=bx x1 (eZ b t)::A) (hA:=bL.Mv) (hc:=λ w1 hw=>Mn ht (hT x1) ok hm (λ f hf=>List.mem_cons_of_mem _ (hA f hf)) (yR hB) hw))) (λ x5=>?_);try (refine eF (λ h5=>?_)));refine aM (cK λ _=>aE rf bU rf (aW _) cW rf dV) (λ _=>?_);refine aC ?_;refine bJ results117 (λ w hw=>?_);refine⟨(x5.1,x5.2.1++[bx x1 (eZ b t)],x5.2.2),rfl,⟨?_,h5.2.1,h5.2.2.more (λ f hf=>List.mem_append_left _ hf)⟩,hw.rI⟩;rw[List.append_assoc];exact h5.1
end
end
end Go.Proofs.YthblobahelfefaaGreatDoor
namespace Go.Ct
open Go Go.RowKit
section
abbrev AS.gn(a:AS):AS:=⟨a.L,a.cs,a.gen+1,a.acc,a.pn,a.cn,a.pc,a.cc,a.u,a.po,a.pl⟩
def L6:Nd:={Nd.zero with kind:=3}
def bu(g:Int):Nd:={Nd.zero with kind:=2,gen:=g}
theorem AS.eC.gn(a:AS):a.eC a.gn []:=⟨⟨⟨[],(List.append_nil _).symm⟩,Nat.le_refl _⟩,λ f hf=>.inr (.inl hf)⟩
theorem aEu(a:AS):a.gn.mm=⟨a.mm.nodes,a.mm.cs,a.mm.gen+1,a.mm.pv⟩:=rfl
theorem AS.Ok.gn{a:AS}(ok:a.Ok):a.gn.Ok:=⟨ok.fit,⟨ok.mo.nd,ok.mo.cs,ok.mo.two⟩⟩
abbrev AS.c1(a:AS)(x:AX):AS:=(a.al L6 [] [] 0 x).gn
abbrev AS.c2(a:AS)(x y:AX):AS:=(a.c1 x).al (bu (a.gen+1)) [] [] ((a.mm.nodes.length+1:Nat):Int) y
end
end Go.Ct
namespace Go.Proofs.YthblobahelfefaaGreatDoor
open Go.Proofs.Tryz
open Go Go.RowKit Go.Ct
section
section
variable{D:List Nat}{A B:Fr}{a:AS}{b:Nat}{w:World}{f:FuncId}{cap:xK}{t:nV}
theorem aC6(hg:0<=a.mm.gen/\a.mm.gen<=137438953000)(hs:SF w D [(b,cX a)] A [] (iS a) w) :
  Calls prog 337 #[.pointer (some ⟨b,0,none⟩)] w λ e w'=>∃q:Unit,e=.returned (.int .i64 (a.gen+1))/\True/\SF w D [(b,cX a.gn)] [] [] (iS a.gn) w':=by
 have hg2:0<=a.gen/\a.gen<=137438953000:=hg;have e:up a.gen=a.gen+1:=by unfold up;rw[wrap_i64]<;>omega
 have:=L1 (gen:=a.gen) hs;rw[e] at this;exact this
abbrev Rb(T:Tr):Bool->Tr:=λ ok=>if ok=true then .done (dW true 0) else T
variable{T:Tr}{s:Mm}{b1 n:Nat}{r:Int}
theorem aCC(hd:ed b t T)(ok1:Bool):jK b 158 [pt b1] [.bool ok1] (bx b1 (eZ b t)::B) s (Rb T ok1):=by
 intro a D A w em ok hm0 hA hB hw0;subst em;refine enter func158 ntmps158 rfl rfl hw0 ?_;simp only[bY];refine J0 ?_;refine aI (λ x3=>?_);refine Kc3 ?_;refine pG ?_;refine aX (λ c5=>?_) (λ c5=>?_);·refine J0 ?_;refine K0k ?_;refine aJ (jN (λ w1 hw=>hd a _ A _ w1 ok hm0 hA hB hw)) (λ x7 h7=>?_);refine aM (cK λ _=>aE rf bU rf (aW _) cW rf dV) (λ _=>?_);refine aC ?_;refine bJ results158 (λ w hw=>?_);refine⟨x7,rfl,⟨?_,h7.2⟩,hw.rN⟩;unfold Rb;rw[if_neg (by simpa using c5)];exact h7.1
 ·refine Kb5 ?_;refine bX ?_;refine aK (cV (hc:=λ w1 hw=>rP (dW true 0) w1)) (λ x9=>?_);refine aM (cK λ _=>aE rf bU rf (aW _) cW rf dV) (λ _=>?_);refine aC ?_;refine bJ results158 (λ w hw=>?_);refine⟨(eS (dW true 0),[],a),rfl,⟨?_,ok,AS.eC.refl a⟩,hw.rI⟩;unfold Rb;rw[if_pos (by simpa using c5)];exact⟨rfl,rfl⟩
theorem aD4{A F1 F2:Fr}{O:List Ow}:bL A (F1++(F2++[])) O (F1++(F2++A)):=bL.of λ f hf=>by
 simp only[List.mem_append] at hf;rcases hf with h|h|h;·exact .inr (.inr (.inl (by simp[h])))
 ·exact .inr (.inr (.inl (by simp[h])))
 ·exact .inr (.inl h)
theorem aAI(m k:Nat):rH m k {L6.c [] [] with main:=0,prev:=0,status:=0}:=⟨fQ _,fQ _,fQ _,(λ r hr=>nomatch hr),fQ _,fQ _,fQ _,⟨0,rfl,by decide⟩,⟨0,rfl,by decide⟩⟩
theorem xe(g:Int)(m k:Nat):rH m k {(bu g).c [] [] with main:=0,prev:=0,status:=0}:=⟨fQ _,fQ _,fQ _,(λ r hr=>nomatch hr),fQ _,fQ _,fQ _,⟨0,rfl,by decide⟩,⟨0,rfl,by decide⟩⟩
theorem aBQ(a:AS)(x:AX):(a.c1 x).mm=⟨(a.mm.push cQ 0).nodes,(a.mm.push cQ 0).cs,(a.mm.push cQ 0).gen+1,(a.mm.push cQ 0).pv⟩:=by rw[aEu,eU];rfl
theorem aEn(a:AS)(x y:AX):(a.c2 x y).mm=(⟨(a.mm.push cQ 0).nodes,(a.mm.push cQ 0).cs,(a.mm.push cQ 0).gen+1,(a.mm.push cQ 0).pv⟩:Mm).push (dC (a.mm.gen+1)) ((a.mm.nodes.length+1:Nat):Int):=by rw[eU,aBQ];rfl
theorem C8(a:AS)(x:AX):(a.c1 x).mm.nodes.length=a.mm.nodes.length+1/\(a.c1 x).mm.cs.length=a.mm.cs.length+1:=by rw[aBQ];refine⟨by show(_++[_]).length=_;rw[List.length_append];rfl,?_⟩;show(gJ 3 a.mm.cs 0).length=_;unfold gJ;rw[if_pos (by decide),List.length_append];rfl
theorem Ht(a:AS)(x y:AX):(a.c2 x y).mm.nodes.length=a.mm.nodes.length+2/\(a.c2 x y).mm.cs.length=a.mm.cs.length+2:=by obtain⟨h1,h2⟩:=C8 a x;rw[eU];refine⟨by show(_++[_]).length=_;rw[List.length_append,h1];rfl,?_⟩;show(gJ 2 (a.c1 x).mm.cs _).length=_;unfold gJ;rw[if_pos (by decide),List.length_append,h2];rfl
theorem aDX(hd:ed b t T)(ht:t.root<=9223372036854775807){b2:Nat}{m:Int}(hr:r<=s.nodes.length)(hmm:m<=s.nodes.length):jK b 157 [pt b1,pt b2] [.int .i64 m] (bx b1 (eZ b t)::bx b2 [iv r]::B) s (.alloc cQ 0 λ c=>.gen λ g=>.alloc (dC g) c λ i=>uE t r m i (Rb T)):=by
 intro a D A w em ok hm0 hA hB hw0;subst em;refine K1c ?_;intro hm;have hg:=hm0.3;have h1:=hm0.1;have h2:=hm0.2;have okx:∀x:AX,(a.c1 x).Ok:=λ x=>(ok.al x (by simp) (by simp) (aAI _ _) (by omega)).gn;have okxy:∀x y:AX,(a.c2 x y).Ok:=λ x y=>(okx x).al y (by simp) (by simp) (xe _ _ _) (by rw[(C8 a x).1];omega);have hmx:∀x:AX,(a.c1 x).mm.Small:=λ x=>⟨by rw[(C8 a x).1];omega,by rw[(C8 a x).2];omega⟩;have hmx0:∀x:AX,(a.al L6 [] [] 0 x).mm.Small:=hmx;have hmxy:∀x y:AX,(a.c2 x y).mm.Small:=λ x y=>⟨by rw[(Ht a x y).1];omega,by rw[(Ht a x y).2];omega⟩
 have hK:∀x y:AX,Na b (Rb T) (a.c2 x y).mm 158 ⟨[],[pt b1]⟩ ((kP (bu (a.gen+1)) [] [] (a.c1 x).cs.length y).fr++((kP L6 [] [] a.cs.length x).fr++(bx b1 (eZ b t)::bx b2 [iv r]::B))):=λ x y=>⟨by kernel_rfl,λ v s1 _ _=>(aCC (B:=[]) (b1:=b1) hd v).mr (λ z hz=>by
  rcases List.mem_cons.1 hz with h|h;·simp[h]
  ·cases h)⟩
 have hA2:∀x y:AX,∀f∈cH (a.c2 x y).L,f∈(kP (bu (a.gen+1)) [] [] (a.c1 x).cs.length y).fr++((kP L6 [] [] a.cs.length x).fr++A):=λ x y=>e8 (a:=a.c1 x) (A:=(kP L6 [] [] a.cs.length x).fr++A) (e8 (init:=0) hA)
 have hB2:∀x y:AX,∀z∈(kP (bu (a.gen+1)) [] [] (a.c1 x).cs.length y).fr++((kP L6 [] [] a.cs.length x).fr++(bx b1 (eZ b t)::bx b2 [iv r]::B)),z∈(kP (bu (a.gen+1)) [] [] (a.c1 x).cs.length y).fr++((kP L6 [] [] a.cs.length x).fr++A):=λ x y z hz=>by
  rcases List.mem_append.1 hz with h|h;·exact List.mem_append_left _ h
  ·rcases List.mem_append.1 h with h|h;·exact List.mem_append_right _ (List.mem_append_left _ h)
   ·exact List.mem_append_right _ (List.mem_append_right _ (hB z h))
 refine enter func157 ntmps157 rfl rfl hw0 ?_;simp only[bY];refine K1h ?_;intro x4;refine Bz ?_;refine eQ [(0,[]),(1,[]),(3,[]),(4,[]),(2,[1]),(5,[]),(6,[])] ?_;refine cE ?_;refine bI (i:=1) (hq:=(iA b1 (eZ b t) 0 hB rfl)) (h:=?_);refine dA (i:=3) (hq:=(fK rf)) (h:=?_);refine aR ?_;refine cB (i:=2) (hq:=(cV (hc:=λ w1 hw=>Nj w1))) (hfire:=E1d) (h:=λ x10=>?_);refine bS (i:=5) (hq:=(Jc (V:=λ _:AX=>.int .i64 ((a.mm.nodes.length+1:Nat):Int)) (hs:=[(b,cX a)]) (os:=iS a) (A0:=[(none,aN []),(none,cY [])]) (hs':=λ x=>[(b,cX (a.al L6 [] [] 0 x))]) (os':=λ x=>iS (a.al L6 [] [] 0 x)) (Fc:=λ x=>(kP L6 [] [] a.cs.length x).fr) (hm:=λ w=>eK _ _ _ w) (hc:=λ w1 hw=>kY (n:=L6) (xs:=[]) (ys:=[]) ok hm 0 rfl rfl (by simp) (by simp) (λ f hf=>hf) hw))) (h:=λ x13 h13=>?_);refine J7 ?_;refine J0 ?_;refine aF ?_;refine aA (iA b1 (eZ b t) 0 hB rfl) rfl ?_;refine aJ (Jc (V:=λ _:Unit=>.int .i64 (a.gen+1)) (hs:=[(b,cX (a.al L6 [] [] 0 x13))]) (os:=iS (a.al L6 [] [] 0 x13)) (A0:=[]) (hs':=λ _=>[(b,cX (a.c1 x13))]) (os':=λ _=>iS (a.c1 x13)) (Fc:=λ _=>[]) (hm:=λ w=>Hl _ w) (hc:=λ w1 hw=>aC6 (a:=a.al L6 [] [] 0 x13) hg hw)) (λ x16 h16=>?_);refine nN ?_;refine eQ [(0,[]),(1,[]),(2,[]),(4,[]),(5,[]),(6,[]),(3,[1]),(7,[]),(8,[])] ?_;refine cE ?_;refine bI (i:=1) (hq:=(iA b1 (eZ b t) 0 hB rfl)) (h:=?_);refine Bx ?_;refine dA (i:=5) (hq:=(fK rf)) (h:=?_);refine aR ?_;refine cB (i:=3) (hq:=(cV (hc:=λ w1 hw=>Fl (a.gen+1) w1))) (hfire:=E1d) (h:=λ x20=>?_);refine bS (i:=7) (hq:=(Jc (V:=λ _:AX=>.int .i64 (((a.c1 x13).mm.nodes.length+1:Nat):Int)) (hs:=[(b,cX (a.c1 x13))]) (os:=iS (a.c1 x13)) (A0:=[(none,aN []),(none,cY [])]) (hs':=λ y=>[(b,cX (a.c2 x13 y))]) (os':=λ y=>iS (a.c2 x13 y)) (Fc:=λ y=>(kP (bu (a.gen+1)) [] [] (a.c1 x13).cs.length y).fr) (hm:=λ w=>eK _ _ _ w) (hc:=λ w1 hw=>kY (n:=bu (a.gen+1)) (xs:=[]) (ys:=[]) (okx x13) (hmx x13) ((a.mm.nodes.length+1:Nat):Int) rfl rfl (by simp) (by simp) (λ f hf=>hf) hw))) (h:=λ x24 h24=>?_);refine J7 ?_;refine J0 ?_;refine K0k ?_;refine aA (iA b2 [.int .i64 r] 0 hB rfl) rfl ?_;refine Jh ?_;refine K0q ?_;refine aJ (jN (a:=a.c2 x13 x24) (A0:=(kP (bu (a.gen+1)) [] [] (a.c1 x13).cs.length x24).fr++((kP L6 [] [] a.cs.length x13).fr++A)) (B:=(kP (bu (a.gen+1)) [] [] (a.c1 x13).cs.length x24).fr++((kP L6 [] [] a.cs.length x13).fr++(bx b1 (eZ b t)::bx b2 [iv r]::B))) (hA:=aD4) (λ w1 hw=>Ub (a:=a.c2 x13 x24) (old:=r) (exp:=m) (nw:=(((a.c1 x13).mm.nodes.length+1:Nat):Int)) ht (hK x13 x24) (by rw[(Ht a x13 x24).1];omega) (by rw[(Ht a x13 x24).1];omega) (by rw[(Ht a x13 x24).1,(C8 a x13).1];omega) (okxy x13 x24) (hmxy x13 x24) (hA2 x13 x24) (hB2 x13 x24) hw)) (λ x30 h30=>?_);refine aM (cK λ _=>aE rf bU rf (aW _) cW rf dV) (λ _=>?_);refine aC ?_;refine bJ results157 (λ w hw=>?_);refine⟨(x30.1,x30.2.1++((kP (bu (a.gen+1)) [] [] (a.c1 x13).cs.length x24).fr++(kP L6 [] [] a.cs.length x13).fr),x30.2.2),rfl,⟨?_,h30.2.1,?_⟩,?_⟩
 ·have h1:=h30.1;rw[(C8 a x13).1,aEn] at h1;show dZ b (uE t r m (((⟨(a.mm.push cQ 0).nodes,(a.mm.push cQ 0).cs,(a.mm.push cQ 0).gen+1,(a.mm.push cQ 0).pv⟩:Mm).nodes.length+1:Nat):Int) (Rb T)) _ _ _ _;rw[show(⟨(a.mm.push cQ 0).nodes,(a.mm.push cQ 0).cs,(a.mm.push cQ 0).gen+1,(a.mm.push cQ 0).pv⟩:Mm).nodes.length=a.mm.nodes.length+1 from by show(_++[_]).length=_;rw[List.length_append];rfl];refine dZ.more h1 λ y hy=>?_;simp only[List.mem_append] at hy ⊢;rcases hy with h|h|h|h;·exact .inl (.inl h)
  ·exact .inl (.inr (.inl h))
  ·exact .inl (.inr (.inr h))
  ·exact .inr h
 ·exact((((AS.eC.al a L6 [] [] 0 x13).trans (AS.eC.gn _)).trans (AS.eC.al (a.c1 x13) (bu (a.gen+1)) [] [] _ x24)).trans h30.2.2).more λ f hf=>by
   simp only[List.mem_append,List.not_mem_nil,false_or] at hf ⊢;rcases hf with h|h|h;·exact .inl h
   ·exact .inr (.inl h)
   ·exact .inr (.inr h)
 ·exact Nb (G:=(kP (bu (a.gen+1)) [] [] (a.c1 x13).cs.length x24).fr++(kP L6 [] [] a.cs.length x13).fr) (by simpa[List.append_assoc] using hw)
theorem aCq(hd:ed b t T)(ht:t.root<=9223372036854775807)(hr:r<=s.nodes.length):jK b 156 [pt b1] [.int .i64 r] (bx b1 (eZ b t)::B) s (xV t r λ m=>.alloc cQ 0 λ c=>.gen λ g=>.alloc (dC g) c λ i=>uE t r m i (Rb T)):=by
 intro a D A w em ok hm0 hA hB hw0;subst em;refine K1c ?_;intro hm;have hT:∀x2:Nat,tQ b (λ m=>.alloc cQ 0 λ c=>.gen λ g=>.alloc (dC g) c λ i=>uE t r m i (Rb T)) a.mm 157 ⟨[],[pt b1,pt x2]⟩ (bx x2 [iv r]::(bx b1 (eZ b t)::B)):=λ x2=>⟨by kernel_rfl,λ m s1 l1 hm1 _=>(aDX (B:=B) (b1:=b1) (b2:=x2) hd ht (by have hl:a.mm.nodes.length<=s1.nodes.length:=l1.len;omega) hm1).mr (λ y hy=>by simp only[List.mem_cons] at hy ⊢;rcases hy with h|h|h<;>simp[h])⟩
 refine enter func156 ntmps156 rfl rfl hw0 ?_;simp only[bY];refine J0 ?_;refine bC (λ x2=>?_);refine aI (λ x3=>?_);refine Kb0 ?_;refine K0k ?_;refine bW ?_;refine K0q ?_;(refine aK (aQ.pre (λ w h=>(show SF _ _ [_,(b,cX a),(a.u,a.po)] _ [(bx x2 [iv r]:Option Addr×List Value)] _ w from h.bP (.tail .head))) (cM (V:=λ y:Cd×Fr×AS=>.agg ⟨y.1.cells⟩) (hs:=[(b,cX a),(a.u,a.po)]) (os:=hU a) (hs':=λ y=>[(b,cX y.2.2),(y.2.2.u,y.2.2.po)]) (os':=λ y=>hU y.2.2) (Fc:=λ y=>y.2.1) (A0:=bx x2 [iv r]::A) (hA:=bL.Mv) (hc:=λ w1 hw=>Ay ht (hT x2) hr ok hm (λ f hf=>List.mem_cons_of_mem _ (hA f hf)) (yR hB) hw))) (λ x7=>?_);try (refine eF (λ h7=>?_)));refine aM (cK λ _=>aE rf bU rf (aW _) cW rf dV) (λ _=>?_);refine aC ?_;refine bJ results156 (λ w hw=>?_);refine⟨(x7.1,x7.2.1++[bx x2 [iv r]],x7.2.2),rfl,⟨?_,h7.2.1,h7.2.2.more (λ f hf=>List.mem_append_left _ hf)⟩,hw.rI⟩;rw[List.append_assoc];exact h7.1
theorem gh(ht:t.root<=9223372036854775807):∀n,ed b t (jB t n)
 | 0=>aDb
 | n+1=>aDy ht λ _ _ _ _ hr=>aCq (gh ht n) ht hr
theorem lq(ht:t.root<=9223372036854775807):jK b 116 [pt b1] [] (bx b1 (eZ b t)::B) s (jB t n):=by intro a D A w em ok hm0 hA hB hw0;subst em;refine enter func116 ntmps116 rfl rfl hw0 ?_;simp only[bY];refine J0 ?_;refine aI (λ x1=>?_);refine Kb0 ?_;refine K0k ?_;refine aJ (jN (λ w1 hw=>gh ht n a _ A _ w1 ok hm0 hA hB hw)) (λ x3 h3=>?_);refine aM (cK λ _=>aE rf bU rf (aW _) cW rf dV) (λ _=>?_);refine aC ?_;refine bJ results116 (λ w hw=>?_);exact⟨x3,rfl,h3,hw.rN⟩
theorem q8(ht:t.root<=9223372036854775807)(hT:∀o:Nat×Obj,Ns (jB t n) (AS.wp a o.1 o.2).mm)(ok:a.Ok)(hm:a.mm.gM)(hA:∀f∈cH a.L,f∈A)(hB:∀x∈B,x∈A)(hs:SF w D [(b,cX a)] A [] (iS a) w) :
  Calls prog 78 #[.iface 51 (.pointer (some ⟨b,0,none⟩)),.agg ⟨[.int .i64 t.root,.bool t.ro]⟩] w λ e w'=>∃x:Nat×Cd×Fr×AS,e=.returned (.pointer (some ⟨x.1,0,none⟩))/\(∃o:Nat×Obj,pF b (Ct.iR (jB t n) (AS.wp a o.1 o.2).mm) (AS.wp a o.1 o.2) B x.2/\fB (Ct.iR (jB t n) (AS.wp a o.1 o.2).mm).1=true)/\SF w D [(x.1,tO b x.2.1 0),(x.2.2.2.u,x.2.2.2.po),(b,cX x.2.2.2)] [] x.2.2.1 (hU x.2.2.2) w':=by
 have okw:∀u o,(AS.wp a u o).Ok:=λ u o=>⟨ok.fit,⟨ok.mo.nd,ok.mo.cs,ok.mo.two⟩⟩;refine enter func78 ntmps78 rfl rfl hs ?_;simp only[bY]
 refine K1m ?_;intro x3;refine Kb7 ?_;refine bW ?_;refine bX ?_;refine aI (λ x5=>?_);refine J5 ?_;refine J2 ?_;refine K0q ?_;(refine aK (aQ.pre (λ w h=>(show SF _ _ [_,(b,cX a)] _ ([bx x5 (eZ b t)]:Fr) _ w from(h.bP .head).gN 0 1)) (Pq (V:=λ x:Nat×Cd×Fr×AS=>.pointer (some ⟨x.1,0,none⟩)) (hs:=[(b,cX (AS.wp a x3 (.cells ⟨[.int .i64 t.root,.bool t.ro]⟩ 72 (0,0)))),(x3,(.cells ⟨[.int .i64 t.root,.bool t.ro]⟩ 72 (0,0)))]) (os:=hU (AS.wp a x3 (.cells ⟨[.int .i64 t.root,.bool t.ro]⟩ 72 (0,0)))) (hs':=λ x=>[(b,cX x.2.2.2),(x.2.2.2.u,x.2.2.2.po)]) (Hc:=λ x=>[(x.1,tO b x.2.1 0)]) (os':=λ x=>hU x.2.2.2) (Oc:=λ _=>[]) (Fc:=λ x=>x.2.2.1) (A0:=[bx x5 (eZ b t)]++A) (hA:=bL.Iu) (hc:=λ w1 hw=>C0 (a:=AS.wp a x3 (.cells ⟨[.int .i64 t.root,.bool t.ro]⟩ 72 (0,0))) (B:=[bx x5 (eZ b t)]++B) (hT (x3,(.cells ⟨[.int .i64 t.root,.bool t.ro]⟩ 72 (0,0)))) ⟨by kernel_rfl,λ s1 l _=>lq ht⟩ (okw _ _) hm (λ f hf=>List.mem_append_right _ (hA f hf)) (rW hB) hw))) (λ x11=>?_);try (refine eF (λ h11=>?_)));refine J1 ?_;refine aP results78 (λ w hw=>?_);exact⟨(x11.1,x11.2.1,x11.2.2.1++[bx x5 (eZ b t)],x11.2.2.2),rfl,⟨(x3,(.cells ⟨[.int .i64 t.root,.bool t.ro]⟩ 72 (0,0))),pF.dg h11.1,h11.2⟩,hw.ret E0f (aT.bA λ f hf=>hf) E0f⟩
end
end
section
section
variable{D:List Nat}{A B:Fr}{a:AS}{b bT m bo bt bi:Nat}{w:World}{t:nV}{o:kA}
theorem Ng(ho:o.kind=10)(ht:t.root<=9223372036854775807)(hT:∀q:Nat×Obj,Ns (jB t lC) (AS.wp a q.1 q.2).mm)(ok:a.Ok)(hm:a.mm.gM)(hA:∀f∈cH a.L,f∈A)(hB:∀x∈B,x∈A)(hs:SF w D [(bT,qX b m bo bt bi),(b,cX a)] A [] (iS a) w) :
  Calls prog 51 #[pt bT,.agg ⟨[.int .i64 t.root,.bool t.ro]⟩,.agg ⟨o.cells⟩] w λ e w'=>∃x:Nat×Cd×Fr×AS,e=.returned (.pointer (some ⟨x.1,0,none⟩))/\(∃q:Nat×Obj,pF b (Ct.iR (jB t lC) (AS.wp a q.1 q.2).mm) (AS.wp a q.1 q.2) B x.2/\fB (Ct.iR (jB t lC) (AS.wp a q.1 q.2).mm).1=true)/\SF w D [(x.1,tO b x.2.1 0),(x.2.2.2.u,x.2.2.2.po),(bT,qX b m bo bt bi),(b,cX x.2.2.2)] [] x.2.2.1 (hU x.2.2.2) w':=by
 refine enter func51 ntmps51 rfl rfl hs ?_;simp only[bY];simp only[kA.cells,ho];refine K1u ?_;intro x4 x5;refine aX (λ c9=>?_) (λ c9=>?_);·exact nv c9
 ·try (first|contradiction|(exfalso;omega))
  refine iC ?_;refine aX (λ c9=>?_) (λ c9=>?_);·exact nv c9
  ·try (first|contradiction|(exfalso;omega))
   refine iC ?_;refine aX (λ c9=>?_) (λ c9=>?_);·exact nv c9
   ·try (first|contradiction|(exfalso;omega))
    refine Kb3 ?_;refine aX (λ c9=>?_) (λ c9=>?_);·exact nv c9
    ·try (first|contradiction|(exfalso;omega))
     refine Kb1 ?_;refine aX (λ c33=>?_) (λ c33=>?_);·exact nv c33
     ·try (first|contradiction|(exfalso;omega))
      refine Kb3 ?_;refine aX (λ c33=>?_) (λ c33=>?_);·exact nv c33
      ·try (first|contradiction|(exfalso;omega))
       refine iC ?_;refine aX (λ c53=>?_) (λ c53=>?_);·exact nv c53
       ·try (first|contradiction|(exfalso;omega))
        refine iC ?_;refine aX (λ c67=>?_) (λ c67=>?_);·exact nv c67
        ·try (first|contradiction|(exfalso;omega))
         refine iC ?_;refine aX (λ c75=>?_) (λ c75=>?_);·exact nv c75
         ·try (first|contradiction|(exfalso;omega))
          refine iC ?_;refine aX (λ c83=>?_) (λ c83=>?_)
          ·try (first|contradiction|(exfalso;omega))
           refine K0y ?_;refine nZ ?_;refine bI (i:=4) (hq:=(cO (k:=2) (vs:=[.int .i64 t.root,.bool t.ro]) rf bU cW rfl rfl)) (h:=?_);refine bS (i:=5) (hq:=(Pq (V:=λ x:Nat×Cd×Fr×AS=>.pointer (some ⟨x.1,0,none⟩)) (hs:=[(b,cX a)]) (os:=iS a) (hs':=λ x=>[(b,cX x.2.2.2)]) (Hc:=λ x=>[(x.1,tO b x.2.1 0),(x.2.2.2.u,x.2.2.2.po)]) (os':=λ x=>iS x.2.2.2) (Oc:=λ x=>[x.2.2.2.pl]) (Fc:=λ x=>x.2.2.1) (A0:=A) (hc:=λ w1 hw=>(q8 ht hT ok hm hA hB hw).mono λ _ _ ⟨x,e,h,hw⟩=>⟨x,e,h,by exact hw.perm (List.perm_append_comm (l₁:=[(b,cX x.2.2.2)]) (l₂:=[(x.1,tO b x.2.1 0),(x.2.2.2.u,x.2.2.2.po)])) (List.perm_append_comm (l₁:=iS x.2.2.2) (l₂:=[x.2.2.2.pl]))⟩))) (h:=λ x90 h90=>?_);refine J7 ?_;refine aP results51 (λ w hw=>?_);exact⟨x90,rfl,h90,hw.ret E0d (aT.bA λ f hf=>by simpa using hf) E0f⟩
          ·exact nv c83
end
end
section
theorem rL(m:Nat)(o:kA)(s:Mm):Ct.iR (nL m o) s=(nL m o,s):=by
 unfold nL;split;·rfl
 ·split<;>rfl
theorem Gw(m:Nat)(o:kA):fB (nL m o)=true:=by
 unfold nL;split;·rfl
 ·split<;>rfl
theorem Ij(m:Nat)(o:kA):(nL m o).live=true:=by
 unfold nL;split;·rfl
 ·split<;>rfl
theorem Vq(m:Nat)(o:kA):nL m o≠.stuck:=λ h=>by have h2:=Gw m o;rw[h] at h2;cases h2
theorem xu{m:Nat}{o:kA}(ho:o.kind=7)(hk:o.key.size<=64):iz t3 (tP o.key m) o.key lC=nL m o:=by unfold iz nL;rw[if_pos hk,if_pos ho]
def qz(b:Nat)(T:Tr)(s2:Mm)(a:AS)(B:Fr)(y:Cd×Fr×AS):Prop:=dZ b T y.2.2.mm y.1 y.2.2.mm (y.2.1++B)/\y.2.2.mm=s2.wp y.2.2.pv/\y.2.2.Ok/\a.eC y.2.2 y.2.1
theorem vP{b:Nat}{p:Tr×Mm}{a:AS}{B:Fr}{y:Cd×Fr×AS}(h:pF b p a B y):qz b p.1 p.2 a B y:=⟨h.1.1,h.1.2,h.2.1,h.2.2⟩
theorem Uj{b:Nat}{T:Tr}{s:Mm}{a:AS}{B:Fr}{y:Cd×Fr×AS}{q:Nat×Obj}{π:Pv}(h:qz b T (s.wp π) (AS.wp a q.1 q.2) B y):qz b T s a B y:=⟨h.1,h.2.1,h.2.2.1,⟨⟨h.2.2.2.le.nodes,h.2.2.2.le.cl⟩,h.2.2.2.fam⟩⟩
section
variable{D:List Nat}{A B:Fr}{a:AS}{b bT m bo bt bi:Nat}{w:World}{o:kA}
theorem dt(ho:H7 o)(hm0:m<18446744073709551616)(ok:a.Ok)(hm:a.mm.gM)(hA:∀f∈cH a.L,f∈A)(hB:∀x∈B,x∈A)(hs:SF w D [(bT,qX b m bo bt bi),(b,cX a)] A [] (iS a) w) :
  Calls prog 51 #[pt bT,.agg ⟨[.int .i64 3,.bool false]⟩,.agg ⟨o.cells⟩] w λ e w'=>∃x:Nat×Cd×Fr×AS,e=.returned (.pointer (some ⟨x.1,0,none⟩))/\qz b (nL m o) a.mm a B x.2/\SF w D [(x.1,tO b x.2.1 0),(x.2.2.2.u,x.2.2.2.po),(bT,qX b m bo bt bi),(b,cX x.2.2.2)] [] x.2.2.1 (hU x.2.2.2) w':=by
 by_cases h7:o.kind=7;·have e:=xu (m:=m) h7 ho.key;refine(Jk (t:=t3) h7 (by decide) hm0 ho.key (λ q=>by unfold Ns;rw[e,rL];exact Vq m o) ok hm hA hB hs).mono λ en w' ⟨x,e1,⟨q,hq,_⟩,hw⟩=>⟨x,e1,?_,hw⟩;rw[e,rL] at hq;exact Uj (s:=a.mm) (π:=((q.1,q.2),E0)) (vP hq)
 by_cases h5:o.kind=10
 ·have e:jB t3 lC=nL m o:=by unfold nL;rw[if_neg h7,if_pos h5]
  refine(Ng (t:=t3) h5 (by decide) (λ q=>by unfold Ns;rw[e,rL];exact Vq m o) ok hm hA hB hs).mono λ en w' ⟨x,e1,⟨q,hq,_⟩,hw⟩=>⟨x,e1,?_,hw⟩;rw[e,rL] at hq;exact Uj (s:=a.mm) (π:=((q.1,q.2),E0)) (vP hq)
 ·have hk:o.kind=1∨o.kind=2∨o.kind=3∨o.kind=4:=by have:=ho.kind;omega
  have e:mF ⟨t3,o.key,tP o.key m,o.val,Dn o.kind,o.exp⟩ lC=nL m o:=by unfold nL;rw[if_neg h7,if_neg h5]
  refine(O0 (t:=t3) hk (by decide) hm0 ho.key (λ q=>by unfold Ns;rw[e,rL];exact Vq m o) ok hm hA hB hs).mono λ en w' ⟨x,e1,⟨q,hq,_⟩,hw⟩=>⟨x,e1,?_,hw⟩;rw[e,rL] at hq;exact Uj (s:=a.mm) (π:=((q.1,q.2),E0)) (vP hq)
end
end
end Go.Proofs.YthblobahelfefaaGreatDoor

/- Merged. -/
import Derived.Test.YtbajmaoegmbfgaaGreatGWo6
import Derived.Test.YtbajmaoegmbfgaaGreatGNode2
import Derived.Test.YtbajmaoegmbfgaaGreatGWo1
set_option linter.unusedSimpArgs false
set_option linter.unusedVariables false
namespace Go.Ct
open Go Go.RowKit
section
theorem SF.aDe{w0 w:World}{M:List Nat}{H:List (Nat×Obj)}{A A' F:Fr}{O:List Ow}(h:SF w0 M H A F O w)(hA:∀f∈A',f∈A):SF w0 M H A' F O w:=⟨h.st,λ f hf=>h.bS f (hA f hf),h.new,h.own,h.dis⟩
abbrev AS.al(a:AS)(n:Nd)(xs:List Int)(ys:List Pr)(init:Int)(x:AX):AS:=⟨a.L++[pP n xs ys a.cs.length x],fL n.kind a.cs init,a.gen,a.acc,x.pn,x.cn,x.pc,x.cc⟩
variable{a:AS}{v:Nv}{i init:Int}{n:Nd}{xs:List Int}{ys:List Pr}{A B B1:Fr}{O:List Ow}
theorem gJ(r:Int):bE a.mm.nodes r=(aB (cI a.L) r).c:=(Bg _ _).symm
theorem Vj(a:AS):a.mm.nodes.length=a.L.length+2:=by show((cI a.L).map aQ.c).length=_;rw[List.length_map,kS]
theorem te{c c':Nat}{cs:List Int}(hb:mX c' c {v with main:=0,prev:=0,status:=0})(hc:c=cs.length):mX c' (fL v.kind cs i).length (dI v c):=by
 subst hc;have hcs:=mH (k:=v.kind) (cs:=cs) (init:=i);have hb':=hb.mono (n':=c') (c':=(fL v.kind cs i).length) (Nat.le_refl _) hcs.1;refine⟨hb'.bS,hb'.exp,hb'.new,hb'.br,?_,?_,?_,hb'.bm,hb'.hash⟩
 ·show(if v.kind=2 then((cs.length+1:Nat):Int) else 0)<=_;split;·rename_i hk;unfold fL;rw[if_pos (.inl hk)];simp
  ·omega
 ·show(if v.kind=3∨v.kind=5∨v.kind=6 then((cs.length+1:Nat):Int) else 0)<=_;split;·rename_i hk;unfold fL;rw[if_pos (by omega)];simp
  ·omega
 ·show(if v.kind=8 then((cs.length+1:Nat):Int) else 0)<=_;split;·rename_i hk;unfold fL;rw[if_pos (by omega)];simp
  ·omega
theorem ax.aDD{s:Mm}(h:ax s)(hb:mX (s.nodes.length+1) s.cs.length {v with main:=0,prev:=0,status:=0})(hi:i<=s.nodes.length+1):ax (s.push v i):=by
 have hcs:=mH (k:=v.kind) (cs:=s.cs) (init:=i);have hl:(s.nodes++[dI v s.cs.length]).length=s.nodes.length+1:=by simp
 refine⟨λ u hu=>?_,λ u hu=>?_,by have:=h.two;show 2<=(s.nodes++[dI v s.cs.length]).length;omega⟩
 ·show mX (s.nodes++[dI v s.cs.length]).length (fL v.kind s.cs i).length u;rcases List.mem_append.1 hu with hu|hu;·exact(h.nd u hu).mono (by omega) hcs.1
  ·rw[List.mem_singleton.1 hu];exact te (by rw[hl];exact hb) rfl
 ·show u<=((s.nodes++[dI v s.cs.length]).length:Int);have hu':u∈fL v.kind s.cs i:=hu;unfold fL at hu';split at hu'
  ·rcases List.mem_append.1 hu' with h2|h2;·have:=h.cs u h2;omega
   ·rw[List.mem_singleton.1 h2];omega
  ·have:=h.cs u hu';omega
theorem Mw(a:AS)(n:Nd)(xs:List Int)(ys:List Pr)(init:Int)(x:AX):(a.al n xs ys init x).mm=a.mm.push (n.c xs ys) init:=by unfold AS.mm Mm.push;simp only[cI,List.map_cons,List.map_append,List.map_nil,List.cons_append];rfl
theorem AS.Ok.al1(ok:a.Ok)(x:AX)(hx:xs.length<=274877906944)(hy:ys.length<=274877906944)(hb:mX (a.mm.nodes.length+1) a.mm.cs.length {n.c xs ys with main:=0,prev:=0,status:=0})(hi:init<=a.mm.nodes.length+1):(a.al n xs ys init x).Ok:=by
 refine⟨λ v hv=>?_,by rw[Mw];exact ok.mo.aDD hb hi⟩;rcases List.mem_append.1 hv with hv|hv;·exact ok.fit v hv
 ·rw[List.mem_singleton.1 hv];exact N6 (by omega) (by omega)
theorem AS.Ok.al{a:AS}(ok:a.Ok){n:Nd}{xs:List Int}{ys:List Pr}{init:Int}(x:AX)(hx:xs.length<=274877906944)(hy:ys.length<=274877906944)(hb:mX a.mm.nodes.length a.mm.cs.length {n.c xs ys with main:=0,prev:=0,status:=0})(hi:init<=a.mm.nodes.length+1):(a.al n xs ys init x).Ok:=ok.al1 x hx hy (hb.mono (Nat.le_succ _) (Nat.le_refl _)) hi
theorem Yo(s:Mm)(v:Nv)(i:Int):s.Le (s.push v i):=⟨⟨_,rfl⟩,mH.1⟩
theorem AS.iN.al(a:AS)(n:Nd)(xs:List Int)(ys:List Pr)(init:Int)(x:AX):a.iN (a.al n xs ys init x) (pP n xs ys a.cs.length x).fr:=⟨by rw[Mw];exact Yo _ _ _,λ f hf=>by
 rw[cX] at hf;rcases List.mem_append.1 hf with h|h;·exact .inr (.inl h)
 ·refine .inr (.inr ?_);simpa[aN] using h⟩
theorem Jh(h:∀f∈B,f∈A):∀f∈B1++B,f∈B1++A:=λ f hf=>(List.mem_append.1 hf).elim (λ h=>List.mem_append_left _ h) λ hf=>List.mem_append_right _ (h f hf)
theorem bH.Ue:bH A B1 O (B1++A):=bH.of λ f hf=>(List.mem_append.1 hf).elim (λ h=>.inr (.inr (.inl h))) λ h=>.inr (.inl h)
theorem bH.pz{F:Fr}{x y:Option Addr×List Value}:bH A (x::y::F) O (x::y::A):=bH.of λ f hf=>by
 rcases List.mem_cons.1 hf with h|hf;·exact .inr (.inr (.inl (by rw[h];simp)))
 ·rcases List.mem_cons.1 hf with h|hf;·exact .inr (.inr (.inl (by rw[h];simp)))
  ·exact .inr (.inl hf)
theorem Ic{x y:Option Addr×List Value}(h:∀f∈B,f∈A):∀f∈x::y::B,f∈x::y::A:=λ f hf=>(List.mem_cons.1 hf).elim (λ h=>h▸List.mem_cons_self ..) λ hf=>(List.mem_cons.1 hf).elim (λ h=>h▸List.mem_cons_of_mem _ (List.mem_cons_self ..)) λ hf=>List.mem_cons_of_mem _ (List.mem_cons_of_mem _ (h f hf))
theorem Hn{P:Program}{S:List (Nat×Value)}{d:Nat}{ty t:TypeId}{pos:String}{af:Array Edge}{gd:Option (Nat×Bool)}{w0:World}{M:List Nat}{H:List (Nat×Obj)}{z:Value}(hz:dJ P t=some z)(h1:z.oneCell'=true):bG P S (St w0 M H) ⟨some d,.alloc t,ty,pos,af,gd⟩ Nat (λ b=>.pointer (some ⟨b,0,none⟩)) (λ b=>St w0 M ((b,.cells ⟨[z]⟩ t (0,0))::H)) :=
 Xd (λ w _=>by
  have e:z.cells = #[z]:=by cases z<;>simp_all[Value.cells,Value.oneCell']
  simp[execOp,Instr.alloc,R4 hz,newVar,newRow,e])
end
end Go.Ct
namespace Go.Proofs.YtbajmaoegmbfgaaGreat
open Go Go.RowKit Go.Ct
section
section
variable{D:List Nat}{A:Fr}{a:AS}{b:Nat}{w:World}
theorem ub(ok:a.Ok)(hm:a.mm.Small)(hA:∀f∈aN a.L,f∈A)(r:Int)(hr:r<=a.mm.nodes.length)(hs:SF w D [(b,fR a)] A [] (gC a) w) :
  Calls Tryz.prog 36 #[.pointer (some ⟨b,0,none⟩),.int .i64 r] w λ e w'=>∃q:Option Addr×Option Addr,e=.returned (.agg ⟨((aB (cI a.L) r).at_ q.1 q.2).nd.cells⟩)/\True /\
  SF w D [(b,fR a)] [] [] (gC a++[⟨q.2,dF (aB (cI a.L) r).ys,(aB (cI a.L) r).ys.length,164,2⟩,⟨q.1,aH (aB (cI a.L) r).xs,(aB (cI a.L) r).xs.length,37,1⟩]) w':=by have h1:=hm.1;have h2:=Vj a;exact Xl (hs.aDe hA) ok.fit r (by omega) (by omega)
theorem Da{S:List (Nat×Value)}{w0:World}{M:List Nat}{H H':List (Nat×Obj)}{F:Fr}{O O':List Ow}{ty:TypeId}{pos:String}{af:Array Edge}{gd:Option (Nat×Bool)}{is js:List Nat}{recv:Operand}{xs:List Operand}{at_:Array TypeId}{dst:Option Nat}{H1:Option Addr×Option Addr->List (Nat×Obj)}{F1:Option Addr×Option Addr->Fr}{O1:Option Addr×Option Addr->List Ow}
  (r:Int) (ok:a.Ok) (hm:a.mm.Small) (hA:∀f∈aN a.L,f∈A) (hr:r<=a.mm.nodes.length) (hx:ev S recv=.iface 42 (.pointer (some ⟨b,0,none⟩)):=by exact rfl) (ha:qR S xs=[.int .i64 r]:=by exact evD) (hH:mR H is [(b,fR a)] H':=by exact Z8) (hO:mR O js (gC a) O':=by exact Z8)
  (hl1:is.length=1:=by exact rfl) (hl2:js.length=2:=by exact rfl) (hH1:∀x,jE is [(b,fR a)] H'=H1 x:=by intro x;simp only[jE,sS];exact rfl) (hF1:∀x,[]++F=F1 x:=by intro x;exact rfl)
  (hO1:∀x,[⟨x.2,dF (aB (cI a.L) r).ys,(aB (cI a.L) r).ys.length,164,2⟩,⟨x.1,aH (aB (cI a.L) r).xs,(aB (cI a.L) r).xs.length,37,1⟩]++jE js (gC a) O'=O1 x:=by intro x;simp only[jE,sS,mW,List.nil_append,List.cons_append];exact rfl) :
  bG Tryz.prog S (SF w0 M H A F O) ⟨dst,.call {callee:=.invoke recv "Node",args:=⟨xs⟩,argTypes:=at_},ty,pos,af,gd⟩ (Option Addr×Option Addr) (λ q=>.agg ⟨((aB (cI a.L) r).at_ q.1 q.2).nd.cells⟩) (λ x w=>True/\SF w0 M (H1 x) A (F1 x) (O1 x) w) :=
 aEm (hs:=[(b,fR a)]) (os:=gC a) (A0:=A) (hs':=λ _=>[(b,fR a)]) (os':=λ _=>gC a) (Fc:=λ _=>[]) (Oc:=λ q=>[⟨q.2,dF (aB (cI a.L) r).ys,(aB (cI a.L) r).ys.length,164,2⟩,⟨q.1,aH (aB (cI a.L) r).xs,(aB (cI a.L) r).xs.length,37,1⟩]) hx ha (λ w=>qw _ _ w) (λ w1 hw=>ub ok hm hA r hr hw) hH hO (bH.of λ _ h=>.inr (.inl h)) (λ _=>hl1) (λ _=>hl2) hH1 hF1 hO1
theorem gg(ok:a.Ok)(hm:a.mm.Small){n:Nd}{xs:List Int}{ys:List Pr}(init:Int)(e1:n.brN=xs.length)(e2:n.prN=ys.length)(hx:xs.length<=274877906944)(hy:ys.length<=274877906944)(hA:∀f∈[(n.brA,aH xs),(n.prA,dF ys)],f∈A)(hs:SF w D [(b,fR a)] A [] (gC a) w) :
  Calls Tryz.prog 29 #[.pointer (some ⟨b,0,none⟩),n.v,.int .i64 init] w λ e w'=>∃x:AX,e=.returned (.int .i64 ((a.mm.nodes.length+1:Nat):Int))/\True/\SF w D [(b,fR (a.al n xs ys init x))] [] (pP n xs ys a.cs.length x).fr (gC (a.al n xs ys init x)) w':=by have h1:=hm.1;have h3:a.cs.length<=137438953472:=hm.2;have h2:=Vj a;rw[show a.mm.nodes.length+1=a.L.length+3 by omega];exact fg init (hs.aDe hA) e1 e2 hx hy (by omega) (by omega)
end
end
end Go.Proofs.YtbajmaoegmbfgaaGreat
namespace Go.Ct
open Go Go.RowKit
section
abbrev XS.a0(z:XS):XS:={z with acc:=0}
theorem XS.Ok.mo{x:XS}(h:x.Ok):ax x.mm:=by
 have hl:x.mm.nodes.length=x.L.length:=by show(x.L.map aQ.c).length=_;rw[List.length_map]
 refine⟨λ v hv=>?_,λ v hv=>?_,by have:=h.two;omega⟩;·obtain⟨u,hu,rfl⟩:=List.mem_map.1 hv;rw[hl];exact h.nd u hu
 ·rw[hl];exact h.cs v hv
end
end Go.Ct
namespace Go.Proofs.YtbajmaoegmbfgaaGreat
open Go.Proofs.Tryz
open Go Go.RowKit Go.Ct
section
abbrev Vd(z:XS):List Ow:=[⟨z.pn,iH z.L,z.cn,47,14⟩,⟨z.pc,aH z.cs,z.cc,37,1⟩]
theorem b9{bm:Nat}{z:XS}{D:List Nat}{A:Fr}{w:World}(ok:z.Ok)(hp:fS z.L z.cs z.gen)(hl:z.L.length<=137438953472)(hc:z.cs.length<=137438953472)(hA:∀f∈aN z.L,f∈A)(hs:SF w D [(bm,xM z)] A [] (Vd z) w) :
    Calls prog 24 #[.pointer (some ⟨bm,0,none⟩)] w λ e w'=>∃q:Nat×AS,e=.returned (.pointer (some ⟨q.1,0,none⟩))/\(q.2.mm=z.mm/\q.2.Ok)/\SF w D ([(bm,xM z.a0)]++[(q.1,fR q.2)]) [] (aN q.2.L) (Vd z++gC q.2) w':=by
     refine enter func24 ntmps24 rfl rfl hs ?_;simp only[cC];refine cU ?_;refine K1g ?_;refine aD (Tg (V:=λ x:Nat×List aQ×(Option Addr×Nat)×(Option Addr×Nat)=>.tuple #[.pointer (some ⟨x.1,0,none⟩),.int .i64 0]) (Hc:=λ x=>[(x.1,aO x.2.1 z.cs z.gen 0 x.2.2.1.1 x.2.2.1.2 x.2.2.2.1 x.2.2.2.2)]) (Fc:=λ x=>aN x.2.1) (Oc:=λ x=>mW x.2.1 z.cs x.2.2.1.1 x.2.2.1.2 x.2.2.2.1 x.2.2.2.2) (hc:=λ w1 hw=>li (L:=z.L) (cs:=z.cs) (hw.Fe (.inr (.inr (.inr ⟨_,.head _,rfl,rfl⟩))) (.inr (.inr (.inr ⟨_,.tail _ (.head _),rfl,rfl⟩))) (λ f hf=>.inr (.inl (hA f hf))) ok.fit) (by omega) (by omega) (hw.yy .head) hp)) (λ x10 h10=>?_);refine Kb8 ?_;refine Kc5 ?_;refine bD (λ c14=>?_) (λ c14=>?_);·exact nv c14
     ·refine aW ?_;refine J13 ?_;refine vO ?_;refine Ka4 ?_;refine aS results24 (λ w hw=>?_);have e1:(⟨x10.2.1,z.cs,z.gen,0,x10.2.2.1.1,x10.2.2.1.2,x10.2.2.2.1,x10.2.2.2.2⟩:AS).mm=z.mm:=by show Mm.mk ((cI x10.2.1).map aQ.c) z.cs z.gen=Mm.mk (z.L.map aQ.c) z.cs z.gen;rw[h10.1]
      refine⟨(x10.1,⟨x10.2.1,z.cs,z.gen,0,x10.2.2.1.1,x10.2.2.1.2,x10.2.2.2.1,x10.2.2.2.2⟩),rfl,⟨e1,⟨h10.2,by rw[e1];exact ok.mo⟩⟩,?_⟩;exact(hw.perm (H':=[(bm,xM z.a0),(x10.1,_)]) (O':=Vd z++mW x10.2.1 z.cs x10.2.2.1.1 x10.2.2.1.2 x10.2.2.2.1 x10.2.2.2.2) (List.Perm.swap _ _ _) (List.perm_append_comm (l₁:=Vd z))).ret (List.Sublist.refl _) (bA.iT λ f hf=>by simpa using hf) (List.Sublist.refl _)
theorem mT{m B C E:Nat}{W:Wd}(h:Fa m B C E W):fS W.z.L W.z.cs W.z.gen:=by
 obtain⟨σ,hi⟩:=h.wr.inv;have e1:σ.mm.nodes=W.z.L.map aQ.c:=by rw[hi.mm];rfl
 have e2:σ.mm.cs=W.z.cs:=by rw[hi.mm];rfl
 have e3:σ.mm.gen=W.z.gen:=by rw[hi.mm];rfl
 have:=hi.inv.prop;rw[e2,e3] at this;exact this.to e1.symm
theorem Nh{f:FuncId}{vs:Array Value}{w:World}{D:List Nat}{b:Nat}{φ:Nat×Cd×Fr×AS->Prop}(h:Calls prog f vs w λ e w'=>∃x:Nat×Cd×Fr×AS,e=.returned (.pointer (some ⟨x.1,0,none⟩))/\φ x/\SF w D [(x.1,tO b x.2.1 0),(b,fR x.2.2.2)] [] x.2.2.1 (gC x.2.2.2) w') :
  Calls prog f vs w λ e w'=>∃x:Nat×Cd×Fr×AS,e=.returned (.pointer (some ⟨x.1,0,none⟩))/\φ x/\SF w D ([(b,fR x.2.2.2)]++[(x.1,tO b x.2.1 0)]) [] x.2.2.1 (gC x.2.2.2++[]) w' :=
 h.mono λ _ _ ⟨x,e,h,hw⟩=>⟨x,e,h,by rw[List.append_nil];exact hw.perm (List.Perm.swap _ _ _) (List.Perm.refl _)⟩
end
section
abbrev mQ(b:Nat)(t:dW):List Value:=[.iface 42 (.pointer (some ⟨b,0,none⟩)),.int .i64 t.root,.bool t.ro]
def ft(prev p:Int)(c:Bool)(K:Bool->Tr):Tr:=if c=true then .kG prev p 0 K else .alloc (zV p) 0 λ f=>.kG prev p f K
theorem oK{a:AS}(hm:a.mm.Small){x:Int}(h:x<=a.mm.cs.length):x<=9223372036854775807:=by have:=hm.2;omega
theorem A7{a:AS}(ok:a.Ok)(r:Int):mX a.mm.nodes.length a.mm.cs.length (aB (cI a.L) r).c:=by rw[<- gJ];exact ok.mo.at r
section
variable{D:List Nat}{A B:Fr}{a:AS}{b:Nat}{w:World}{f:FuncId}{cap:List Value}{t:dW}
variable{v p:Int}{s:Mm}{b2 b3:Nat}
theorem il{K:Int->Tr}(hK:A3 b K s f cap B)(hv:v<=s.nodes.length)(o:Bool):rU b 201 [pt b2,pt b3] [.bool o] (bx b3 [.int .i64 v]::bx b2 [fn f cap]::B) s (K v):=by
 intro a D A w em ok hm hA hB hw0;subst em;have hK2:=hK.more (B2:=(bx b3 [.int .i64 v]::bx b2 [fn f cap]::B)) (λ x hx=>by simp[hx]);refine enter func201 ntmps201 rfl rfl hw0 ?_;simp only[cC]
 refine K0t ?_;intro x4;refine J0 ?_;refine aC (lX b2 [fn f cap] 0 hB rfl) rfl ?_;refine aC (lX b3 [.int .i64 v] 0 hB rfl) rfl ?_;refine aD (V1 hK.1 (hK2.2 v a.mm (Mm.Le.refl _) hv) ok hm hA hB) (λ x7 h7=>?_);refine bT (gE λ _=>aR rf cY rf (cD _) eD rf iR) (λ _=>?_);refine aG ?_;refine aZ results201 (λ w hw=>?_);exact⟨x7,rfl,h7,hw.rN⟩
theorem Bj{K:Int->Tr}(hK:A3 b K s f cap B)(hv:v<=s.nodes.length)(o:Bool):rU b 174 [pt b2,pt b3] [.bool o] (bx b3 [.int .i64 v]::bx b2 [fn f cap]::B) s (K v):=by
 intro a D A w em ok hm hA hB hw0;subst em;have hK2:=hK.more (B2:=(bx b3 [.int .i64 v]::bx b2 [fn f cap]::B)) (λ x hx=>by simp[hx]);refine enter func174 ntmps174 rfl rfl hw0 ?_;simp only[cC]
 refine K0t ?_;intro x4;refine J0 ?_;refine aC (lX b2 [fn f cap] 0 hB rfl) rfl ?_;refine aC (lX b3 [.int .i64 v] 0 hB rfl) rfl ?_;refine aD (V1 hK.1 (hK2.2 v a.mm (Mm.Le.refl _) hv) ok hm hA hB) (λ x7 h7=>?_);refine bT (gE λ _=>aR rf cY rf (cD _) eD rf iR) (λ _=>?_);refine aG ?_;refine aZ results174 (λ w hw=>?_);exact⟨x7,rfl,h7,hw.rN⟩
theorem W0{K:Int->Tr}{i m:Int}(hK:A3 b K a.mm f cap B)(hi:i<=a.mm.nodes.length)(hmm:m<=a.mm.nodes.length)(hp:p<=a.mm.nodes.length)(ok:a.Ok)(hm:a.mm.Small)(hA:∀f∈aN a.L,f∈A)(hB:∀x∈B,x∈A)(hs:SF w D [(b,fR a)] A [] (gC a) w) :
  Calls prog 163 #[.agg ⟨mQ b t⟩,.int .i64 i,.int .i64 m,.int .i64 p,fn f cap] w (Af b (λ c' s' B'=>jT b (Ka i m p K) a.mm c' s' B') a B D w):=by
 have ni:=A7 ok i;have np:=A7 ok p;refine enter func163 ntmps163 rfl rfl hs ?_;simp only[cC]
 refine J0 ?_;refine bJ (λ x5=>?_);refine bJ (λ x9=>?_);refine aJ (λ x10=>?_);refine aG ?_;refine Kc8 ?_;refine aD (Da p ok hm hA hp) (λ x15 h15=>?_);refine cP ?_;refine aP (gE λ _=>Hn (z:=.int .i64 0) (by kernel_rfl) rfl) (λ x11=>?_);refine J5 ?_;refine aT ?_;refine eI [(0,[]),(1,[]),(2,[]),(5,[]),(6,[]),(7,[]),(3,[6]),(4,[]),(8,[]),(9,[])] ?_;refine mE ?_;refine iW ?_;refine bV ?_;(refine cZ (i:=7) (hq:=cG) (h:=?_));refine bI (i:=3) (hq:=(Da i ok hm hA hi)) (h:=λ x20 h20=>?_);refine sF ?_;refine dB (i:=8) (hq:=(cV (hc:=λ w1 hw=>wY _ _ _ _ _ w1))) (h:=λ x25=>?_);refine mC (i:=9) (hq:=(gE λ _=>aR rf cY rf (cD _) eD rf iR)) (h:=λ _=>?_);refine eN ?_;refine aZ results163 (λ w hw=>?_);refine⟨(wW (aB (cI a.L) i).nd.main m (aB (cI a.L) p).nd.bS _ _,[bx x11 [.int .i64 (aB (cI a.L) p).nd.bS],bx x9 [fn f cap]],a),rfl,⟨?_,ok,(AS.iN.refl a).more (λ _ h=>(List.not_mem_nil h).elim)⟩,?_⟩
 ·refine⟨hi,hp,?_⟩;rw[gJ,gJ];refine⟨rfl,oK hm ni.main,np.bS,_,_,rfl,by kernel_rfl,λ v s1 l=>?_⟩;show C6 b _ _ _ _ s1 λ c' s' B'=>p<=s1.nodes.length/\jT b (K (bE s1.nodes p).bS) s1 c' s' B'
  rw[l.nd hp,gJ];have hlen:=l.len;exact(il (hK.le l) (by have h2:(aB (cI a.L) p).nd.bS<=a.mm.nodes.length:=np.bS;omega) v).more (λ _ h=>h) λ c m C C2 hC h=>⟨by omega,h.more hC⟩
 ·exact((hw.dD (.tail (.tail .head))).dD .head).rI
theorem sI{K:Int->Tr}{s:Int}(ht:t.root<=9223372036854775807)(hK:A3 b K a.mm f cap B)(hv:v<=a.mm.nodes.length)(ok:a.Ok)(hm:a.mm.Small)(hA:∀f∈aN a.L,f∈A)(hB:∀x∈B,x∈A)(hs:SF w D [(b,fR a)] A [] (gC a) w) :
  Calls prog 141 #[.agg ⟨mQ b t⟩,.int .i64 v,.int .i64 s,fn f cap] w (Af b (λ c' s' B'=>jT b (pT t v s K) a.mm c' s' B') a B D w):=by
 have nv:=A7 ok v;refine enter func141 ntmps141 rfl rfl hs ?_;simp only[cC]
 refine J0 ?_;refine bJ (λ x4=>?_);refine bJ (λ x7=>?_);refine aJ (λ x8=>?_);refine aG ?_;refine Kc8 ?_;refine aD (Da v ok hm hA hv) (λ x14 h14=>?_);refine aJ (λ x9=>?_);refine J5 ?_;refine iE ?_;refine aP (gE λ _=>Hn (z:=.int .i64 0) (by kernel_rfl) rfl) (λ x10=>?_);refine J5 ?_;refine jS ?_;refine tG ?_;refine bD (λ c18=>?_) (λ c18=>?_)
 ·refine dS ?_;refine J3 ?_;refine J5 ?_;refine Ka6 ?_;refine J3 ?_;refine aA ?_;refine bO ?_;refine K1v ?_;refine aP (cV (hc:=λ w1 hw=>wY _ _ _ _ _ w1)) (λ x27=>?_);refine bT (gE λ _=>aR rf cY rf (cD _) eD rf iR) (λ _=>?_);refine aG ?_;refine aZ results141 (λ w hw=>?_);refine⟨(wW t.root v (aB (cI a.L) v).nd.new _ _,[bx x10 [.int .i64 (aB (cI a.L) v).nd.new],bx x7 [fn f cap]],a),rfl,⟨?_,ok,(AS.iN.refl a).more (λ _ h=>(List.not_mem_nil h).elim)⟩,?_⟩
  ·refine⟨hv,?_⟩;rw[gJ];have e:(if s=1 then(aB (cI a.L) v).c.new else(aB (cI a.L) v).c.bS)=(aB (cI a.L) v).nd.new:=by exact if_pos (by omega)
   dsimp only;rw[e];refine⟨rfl,ht,nv.new,_,_,rfl,by kernel_rfl,λ o s1 l=>?_⟩;have hlen:=l.len;exact Bj (hK.le l) (by have h2:(aB (cI a.L) v).nd.new<=a.mm.nodes.length:=nv.new;omega) o
  ·exact((hw.dD (.tail (.tail (.tail .head)))).dD .head).rI
 ·refine aW ?_;refine Ka6 ?_;refine J3 ?_;refine aA ?_;refine bO ?_;refine K1v ?_;refine aP (cV (hc:=λ w1 hw=>wY _ _ _ _ _ w1)) (λ x27=>?_);refine bT (gE λ _=>aR rf cY rf (cD _) eD rf iR) (λ _=>?_);refine aG ?_;refine aZ results141 (λ w hw=>?_);refine⟨(wW t.root v (aB (cI a.L) v).nd.bS _ _,[bx x10 [.int .i64 (aB (cI a.L) v).nd.bS],bx x7 [fn f cap]],a),rfl,⟨?_,ok,(AS.iN.refl a).more (λ _ h=>(List.not_mem_nil h).elim)⟩,?_⟩
  ·refine⟨hv,?_⟩;rw[gJ];have e:(if s=1 then(aB (cI a.L) v).c.new else(aB (cI a.L) v).c.bS)=(aB (cI a.L) v).nd.bS:=by exact if_neg (by omega)
   dsimp only;rw[e];refine⟨rfl,ht,nv.bS,_,_,rfl,by kernel_rfl,λ o s1 l=>?_⟩;have hlen:=l.len;exact Bj (hK.le l) (by have h2:(aB (cI a.L) v).nd.bS<=a.mm.nodes.length:=nv.bS;omega) o
  ·exact((hw.dD (.tail (.tail (.tail .head)))).dD .head).rI
theorem Kz{K:Bool->Tr}{prev:Int}{c:Bool}(hK:xu b K a.mm f cap B)(hpr:prev<=a.mm.cs.length)(hp:p<=a.mm.nodes.length)(ok:a.Ok)(hm:a.mm.Small)(hA:∀f∈aN a.L,f∈A)(hB:∀x∈B,x∈A)(hs:SF w D [(b,fR a)] A [] (gC a) w) :
  Calls prog 166 #[.agg ⟨mQ b t⟩,.int .i64 prev,.int .i64 p,.bool c,fn f cap] w (Af b (λ c' s' B'=>jT b (ft prev p c K) a.mm c' s' B') a B D w):=by
 refine enter func166 ntmps166 rfl rfl hs ?_;simp only[cC];refine J0 ?_;refine bJ (λ x5=>?_);refine aJ (λ x10=>?_);refine aG ?_;refine jS ?_;refine aG ?_;refine bD (λ c12=>?_) (λ c12=>?_);·refine Kc4 ?_;refine aP (cV (hc:=λ w1 hw=>wY _ _ _ _ _ w1)) (λ x16=>?_);refine bT (gE λ _=>aR rf cY rf (cD _) eD rf iR) (λ _=>?_);refine aG ?_;refine aZ results166 (λ w hw=>?_);refine⟨(wW prev p 0 f cap,[],a),rfl,⟨?_,ok,AS.iN.refl a⟩,hw.rI⟩;unfold ft;rw[if_pos (by assumption)];exact⟨rfl,oK hm hpr,bN _,f,cap,rfl,hK.1,λ v s1 l=>hK.2 v s1 l⟩
 ·refine lB ?_;refine eI [(0,[]),(1,[]),(2,[]),(4,[]),(5,[]),(3,[1]),(6,[]),(7,[])] ?_;refine Ke0 ?_;refine cZ (i:=4) (hq:=(Ry rf)) (h:=?_);refine aV ?_;refine dB (i:=3) (hq:=(cV (hc:=λ w1 hw=>nf p w1))) (h:=λ x20=>?_);refine bI (i:=6) (hq:=(cMI (V:=λ _:AX=>.int .i64 ((a.mm.nodes.length+1:Nat):Int)) (hs:=[(b,fR a)]) (os:=gC a) (A0:=[(none,aH []),(none,dF [])]) (hs':=λ x=>[(b,fR (a.al ({Nd.zero with kind:=7,bS:=p}:Nd) [] [] 0 x))]) (os':=λ x=>gC (a.al ({Nd.zero with kind:=7,bS:=p}:Nd) [] [] 0 x)) (Fc:=λ x=>(pP ({Nd.zero with kind:=7,bS:=p}:Nd) [] [] a.cs.length x).fr) (hm:=λ w=>Zn _ _ _ w) (hc:=λ w1 hw=>gg ok hm 0 rfl rfl (by simp) (by simp) (λ f hf=>hf) hw))) (h:=λ x23 h23=>?_);refine J7 ?_;refine jD ?_;refine qX ?_;refine aP (cV (hc:=λ w1 hw=>wY _ _ _ _ _ w1)) (λ x28=>?_);refine bT (gE λ _=>aR rf cY rf (cD _) eD rf iR) (λ _=>?_);refine aG ?_;refine aZ results166 (λ w hw=>?_);refine⟨(wW prev p ((a.mm.nodes.length+1:Nat):Int) f cap,(pP ({Nd.zero with kind:=7,bS:=p}:Nd) [] [] a.cs.length x23).fr,a.al ({Nd.zero with kind:=7,bS:=p}:Nd) [] [] 0 x23),rfl,⟨?_,ok.al x23 (by simp) (by simp) ⟨?_,bN _,bN _,(λ r hr=>nomatch hr),bN _,bN _,bN _,⟨0,rfl,by decide⟩,⟨0,rfl,by decide⟩⟩ (by omega),AS.iN.al a _ _ _ _ x23⟩,hw.rI⟩
  ·unfold ft;rw[if_neg (by simp_all)];have hl:=Yo a.mm (zV p) 0;refine⟨Mw a _ _ _ _ x23,?_,?_,f,cap,rfl,hK.1,λ v s1 l=>(hK.2 v s1 (hl.trans l)).more (λ x hx=>List.mem_append_right _ hx) λ _ _ _ _ hC h=>h.more hC⟩
   ·have:=hl.cl;have:=hm.2;omega
   ·show _<=(((a.mm.nodes++[_]).length:Nat):Int);rw[List.length_append];simp
  ·show p<=_;exact hp
end
end
section
section
variable{D:List Nat}{A B:Fr}{a:AS}{b:Nat}{w:World}{f:FuncId}{cap:List Value}{t:dW}
variable{v x:Int}{s:Mm}{b1 b2 b3 b0:Nat}{nd:Nd}
theorem fw{K:Int->Tr}(ht:t.root<=9223372036854775807)(hK:A3 b K s f cap B)(hv:v<=s.nodes.length):rU b 206 [pt b1,pt b2,pt b3] [.int .i64 x] (bx b1 (mQ b t)::bx b2 [iv v]::bx b3 [fn f cap]::B) s (pT t v x K):=by
 intro a D A w em ok hm hA hB hw0;subst em;have hK2:=hK.more (B2:=(bx b1 (mQ b t)::bx b2 [iv v]::bx b3 [fn f cap]::B)) (λ x hx=>by simp[hx]);refine enter func206 ntmps206 rfl rfl hw0 ?_;simp only[cC]
 refine J0 ?_;refine aJ (λ x5=>?_);refine aG ?_;refine K0n ?_;refine aD (Ae (λ w1 hw=>sI ht hK2 hv ok hm hA hB hw)) (λ x10 h10=>?_);refine bT (gE λ _=>aR rf cY rf (cD _) eD rf iR) (λ _=>?_);refine aG ?_;refine aZ results206 (λ w hw=>?_);exact⟨x10,rfl,h10,hw.rN⟩
theorem qv{K:Int->Tr}(ht:t.root<=9223372036854775807)(hK:A3 b K s f cap B)(hv:v<=s.nodes.length)(hd:nd.status<=9223372036854775807)(o:Bool):rU b 205 [pt b0,pt b1,pt b2,pt b3] [.bool o] (bx b0 (nd.cells:List Value)::bx b1 (mQ b t)::bx b2 [iv v]::bx b3 [fn f cap]::B) s (.load nd.status λ s=>pT t v s K):=by
 intro a D A w em ok hm hA hB hw0;subst em;have hK2:=hK.more (B2:=(bx b0 (nd.cells:List Value)::bx b1 (mQ b t)::bx b2 [iv v]::bx b3 [fn f cap]::B)) (λ x hx=>by simp[hx]);refine enter func205 ntmps205 rfl rfl hw0 ?_;simp only[cC]
 refine J0 ?_;refine aJ (λ x6=>?_);refine aG ?_;refine K2r ?_;refine aP (cV (hc:=λ w1 hw=>oN _ _ _ w1)) (λ x10=>?_);refine bT (gE λ _=>aR rf cY rf (cD _) eD rf iR) (λ _=>?_);refine aG ?_;refine aZ results205 (λ w hw=>?_);exact⟨(oB nd.status _ _,[],a),rfl,⟨⟨rfl,hd,_,_,rfl,by kernel_rfl,λ x s1 l hx=>(fw (b1:=b1) (b2:=b2) (b3:=b3) ht (hK.le l) (by have:=l.len;omega)).mr (λ y hy=>List.mem_cons_of_mem _ hy)⟩,ok,AS.iN.refl a⟩,hw.rI⟩
theorem jx{K:Int->Tr}(ht:t.root<=9223372036854775807)(hK:A3 b K s f cap B)(hv:v<=s.nodes.length)(hd:nd.status<=9223372036854775807)(hn:(bE s.nodes v).status=nd.status):rU b 204 [pt b1,pt b2,pt b3,pt b0] [.int .i64 x] (bx b1 (mQ b t)::bx b2 [iv v]::bx b3 [fn f cap]::bx b0 (nd.cells:List Value)::B) s (if x=0 then .node v λ n=>.kG n.status 0 2 λ _=>.node v λ n=>.load n.status λ s=>pT t v s K else pT t v x K):=by
 intro a D A w em ok hm hA hB hw0;subst em;have hK2:=hK.more (B2:=(bx b1 (mQ b t)::bx b2 [iv v]::bx b3 [fn f cap]::bx b0 (nd.cells:List Value)::B)) (λ x hx=>by simp[hx]);refine enter func204 ntmps204 rfl rfl hw0 ?_;simp only[cC]
 refine J0 ?_;refine aJ (λ x6=>?_);refine aG ?_;refine jS ?_;refine Kc5 ?_;refine bD (λ c8=>?_) (λ c8=>?_);·refine K0n ?_;refine aD (Ae (λ w1 hw=>sI ht hK2 hv ok hm hA hB hw)) (λ x13 h13=>?_);refine bT (gE λ _=>aR rf cY rf (cD _) eD rf iR) (λ _=>?_);refine aG ?_;refine aZ results204 (λ w hw=>?_);refine⟨x13,rfl,⟨?_,h13.2⟩,hw.rN⟩;rw[if_neg (by omega)];exact h13.1
 ·refine aW ?_;refine K2r ?_;refine aP (cV (hc:=λ w1 hw=>wY _ _ _ _ _ w1)) (λ x17=>?_);refine bT (gE λ _=>aR rf cY rf (cD _) eD rf iR) (λ _=>?_);refine aG ?_;refine aZ results204 (λ w hw=>?_);refine⟨(wW nd.status 0 2 _ _,[],a),rfl,⟨?_,ok,AS.iN.refl a⟩,hw.rI⟩;rw[if_pos (by omega)];refine⟨hv,?_⟩;dsimp only;rw[hn];refine⟨rfl,hd,by have:=ok.mo.two;omega,_,_,rfl,by kernel_rfl,λ o s1 l=>?_⟩;have hlen:=l.len;show C6 b _ _ _ _ s1 λ c' s' B'=>v<=s1.nodes.length/\jT b (.load (bE s1.nodes v).status λ s=>pT t v s K) s1 c' s' B'
  rw[l.nd hv,hn];exact(qv (b0:=b0) (b1:=b1) (b2:=b2) (b3:=b3) (nd:=nd) ht (hK.le l) (by omega) hd o).more (λ y hy=>by
  simp only[List.mem_cons,List.append_eq,List.nil_append] at hy ⊢;rcases hy with h|h|h|h|h<;>simp[h]) λ c m C C2 hC h=>⟨by omega,h.more hC⟩
theorem mu{K:Int->Tr}(ht:t.root<=9223372036854775807)(hK:A3 b K s f cap B)(hv:v<=s.nodes.length):rU b 203 [pt b1,pt b3] [.int .i64 v] (bx b1 (mQ b t)::bx b3 [fn f cap]::B) s (.node v λ n=>if n.kind=2 then K v else .node v λ n=>.load n.status λ s=>if s=0 then .node v λ n=>.kG n.status 0 2 λ _=>.node v λ n=>.load n.status λ s=>pT t v s K else pT t v s K):=by
 intro a D A w em ok hm hA hB hw0;subst em;have hK2:=hK.more (B2:=(bx b1 (mQ b t)::bx b3 [fn f cap]::B)) (λ x hx=>by simp[hx]);have nv:=A7 ok v;refine enter func203 ntmps203 rfl rfl hw0 ?_;simp only[cC]
 refine K1m ?_;intro x3;refine aJ (λ x4=>?_);refine aG ?_;refine Ka6 ?_;refine aC (lX b1 (mQ b t) 0 hB rfl) rfl ?_;refine bO ?_;refine aD (Da v ok hm hA hv) (λ x9 h9=>?_);refine aJ (λ x5=>?_);refine J5 ?_;refine Kd1 ?_;refine bD (λ c12=>?_) (λ c12=>?_);·refine J0 ?_;refine aC (lX b3 [fn f cap] 0 hB rfl) rfl ?_;refine bO ?_;refine aD (V1 hK2.1 (hK2.2 v a.mm (Mm.Le.refl _) hv) ok hm hA hB) (λ x15 h15=>?_);refine bT (gE λ _=>aR rf cY rf (cD _) eD rf iR) (λ _=>?_);refine aG ?_;refine aZ results203 (λ w hw=>?_);refine⟨x15,rfl,⟨⟨hv,?_⟩,h15.2⟩,hw.rN⟩;rw[gJ];dsimp only;rw[if_pos (by assumption)];exact h15.1
 ·refine aW ?_;refine iE ?_;refine K1v ?_;refine aP (cV (hc:=λ w1 hw=>oN _ _ _ w1)) (λ x19=>?_);refine bT (gE λ _=>aR rf cY rf (cD _) eD rf iR) (λ _=>?_);refine aG ?_;refine aZ results203 (λ w hw=>?_);refine⟨(oB (aB (cI a.L) v).nd.status _ _,[bx x5 (((aB (cI a.L) v).at_ x9.1 x9.2).nd.cells:List Value),bx x3 [iv v]],a),rfl,⟨⟨hv,?_⟩,ok,(AS.iN.refl a).more (λ _ h=>(List.not_mem_nil h).elim)⟩,?_⟩
  ·rw[gJ];dsimp only;rw[if_neg (by assumption)];refine⟨hv,?_⟩;rw[gJ];refine⟨rfl,oK hm nv.status,_,_,rfl,by kernel_rfl,λ x s1 l hx=>?_⟩;have hlen:=l.len
   exact(jx (b0:=x5) (b1:=b1) (b2:=x3) (b3:=b3) (nd:=((aB (cI a.L) v).at_ x9.1 x9.2).nd) ht (hK.le l) (by omega) (oK hm nv.status) (by rw[l.nd hv,gJ];rfl)).mr (λ y hy=>by
   simp only[List.mem_cons,List.append_eq,List.nil_append,List.mem_append,List.not_mem_nil,or_false] at hy ⊢;rcases hy with h|h|h|h|h<;>simp[h])
  ·exact((hw.dD (.tail (.tail .head))).dD .head).rI
theorem vi{K:Int->Tr}(ht:t.root<=9223372036854775807)(hK:A3 b K a.mm f cap B)(ok:a.Ok)(hm:a.mm.Small)(hA:∀f∈aN a.L,f∈A)(hB:∀x∈B,x∈A)(hs:SF w D [(b,fR a)] A [] (gC a) w) :
  Calls prog 167 #[.agg ⟨mQ b t⟩,fn f cap] w (Af b (λ c' s' B'=>jT b (zU t K) a.mm c' s' B') a B D w):=by refine enter func167 ntmps167 rfl rfl hs ?_;simp only[cC];refine K1i ?_;intro x2 x3;refine aJ (λ x4=>?_);refine aG ?_;refine Ka6 ?_;refine J3 ?_;refine K1v ?_;refine aP (cV (hc:=λ w1 hw=>oN _ _ _ w1)) (λ x9=>?_);refine bT (gE λ _=>aR rf cY rf (cD _) eD rf iR) (λ _=>?_);refine aG ?_;refine aZ results167 (λ w hw=>?_);refine⟨(oB t.root _ _,[bx x2 (mQ b t),bx x3 [fn f cap]],a),rfl,⟨⟨rfl,ht,_,_,rfl,by kernel_rfl,λ v s1 l hv=>mu (b1:=x2) (b3:=x3) ht (hK.le l) hv⟩,ok,(AS.iN.refl a).more (λ _ h=>(List.not_mem_nil h).elim)⟩,?_⟩;exact((hw.dD (.tail .head)).dD (.tail .head)).rI
end
end
section
theorem Yh{b:Nat}{i m p prev:Int}{c:Bool}{K:Int->Tr}{s s2:Mm}{cd:Cd}{B:Fr}(hmm:m<=s.nodes.length)(hn:(bE s.nodes m).prev=prev)(h:jT b (ft prev p c λ _=>kP i m K) s cd s2 B):jT b (lG i m p c K) s cd s2 B:=by
 subst hn;unfold ft at h;unfold lG;split;·rename_i hc;rw[if_pos hc] at h;exact⟨hmm,h⟩
 ·rename_i hc;rw[if_neg hc] at h;exact⟨hmm,h⟩
section
variable{D:List Nat}{A B:Fr}{a:AS}{b:Nat}{w:World}{f:FuncId}{cap:List Value}{t:dW}
variable{i m p prev:Int}{s:Mm}{bt bm bo bi bp:Nat}
theorem ue{K:Int->Tr}(hK:A3 b K s f cap B)(hi:i<=s.nodes.length)(hmm:m<=s.nodes.length)(hp:p<=s.nodes.length):rU b 165 [pt bt,pt bm,pt bo,pt bi] [.int .i64 p] (bx bt [fn f cap]::bx bm [iv m]::bx bo (mQ b t)::bx bi [iv i]::B) s (if p=0 then K m else Ka i m p K):=by
 intro a D A w em ok hm hA hB hw0;subst em;have hK2:=hK.more (B2:=(bx bt [fn f cap]::bx bm [iv m]::bx bo (mQ b t)::bx bi [iv i]::B)) (λ x hx=>by simp[hx]);refine enter func165 ntmps165 rfl rfl hw0 ?_;simp only[cC]
 refine J0 ?_;refine aJ (λ x6=>?_);refine aG ?_;refine jS ?_;refine tG ?_;refine bD (λ c8=>?_) (λ c8=>?_);·refine J0 ?_;refine aC (lX bt [fn f cap] 0 hB rfl) rfl ?_;refine aC (lX bm [.int .i64 m] 0 hB rfl) rfl ?_;refine aD (V1 hK2.1 (hK2.2 m a.mm (Mm.Le.refl _) hmm) ok hm hA hB) (λ x11 h11=>?_);refine bT (gE λ _=>aR rf cY rf (cD _) eD rf iR) (λ _=>?_);refine aG ?_;refine aZ results165 (λ w hw=>?_);refine⟨x11,rfl,⟨?_,h11.2⟩,hw.rN⟩;rw[if_pos (by omega)];exact h11.1
 ·refine aW ?_;refine K1e ?_;refine aC (lX bi [.int .i64 i] 0 hB rfl) rfl ?_;refine aC (lX bm [.int .i64 m] 0 hB rfl) rfl ?_;refine aA ?_;refine aC (lX bt [fn f cap] 0 hB rfl) rfl ?_;refine aD (Ae (λ w1 hw=>W0 hK2 hi hmm hp ok hm hA hB hw)) (λ x17 h17=>?_);refine bT (gE λ _=>aR rf cY rf (cD _) eD rf iR) (λ _=>?_);refine aG ?_;refine aZ results165 (λ w hw=>?_);refine⟨x17,rfl,⟨?_,h17.2⟩,hw.rN⟩;rw[if_neg (by omega)];exact h17.1
theorem u7{K:Int->Tr}(hK:A3 b K s f cap B)(hi:i<=s.nodes.length)(hmm:m<=s.nodes.length)(hpr:prev<=9223372036854775807)(hn:(bE s.nodes m).prev=prev)(o:Bool):rU b 164 [pt bp,pt bt,pt bm,pt bo,pt bi] [.bool o] (bx bp [iv prev]::bx bt [fn f cap]::bx bm [iv m]::bx bo (mQ b t)::bx bi [iv i]::B) s (kP i m K):=by intro a D A w em ok hm hA hB hw0;subst em;refine enter func164 ntmps164 rfl rfl hw0 ?_;simp only[cC];refine J0 ?_;refine aJ (λ x7=>?_);refine aG ?_;refine J0 ?_;refine aC (lX bp [.int .i64 prev] 0 hB rfl) rfl ?_;refine K1v ?_;refine aP (cV (hc:=λ w1 hw=>oN _ _ _ w1)) (λ x10=>?_);refine bT (gE λ _=>aR rf cY rf (cD _) eD rf iR) (λ _=>?_);refine aG ?_;refine aZ results164 (λ w hw=>?_);refine⟨(oB prev _ _,[],a),rfl,⟨⟨hmm,?_⟩,ok,AS.iN.refl a⟩,hw.rI⟩;dsimp only;rw[hn];exact⟨rfl,hpr,_,_,rfl,by kernel_rfl,λ p s1 l hp=>(ue (bt:=bt) (bm:=bm) (bo:=bo) (bi:=bi) (hK.le l) (by have:=l.len;omega) (by have:=l.len;omega) hp).mr (λ y hy=>List.mem_cons_of_mem _ hy)⟩
theorem uc{K:Int->Tr}{r:Int}{bq ba:Nat}(hK:xu b (λ _=>kP i m K) s f cap B)(hi:i<=s.nodes.length)(hmm:m<=s.nodes.length)(hp:p<=s.nodes.length)(hr:r<=s.nodes.length)(hn:(bE s.nodes m).prev=prev):rU b 168 [pt bo,pt bi,pt bp,pt bq,pt ba] [.int .i64 r] (bx bo (mQ b t)::bx bi [iv i]::bx bp [iv prev]::bx bq [iv p]::bx ba [fn f cap]::B) s (.node r λ nr=>.node i λ ni=>lG i m p (nr.gen==ni.gen) K):=by
 intro a D A w em ok hm hA hB hw0;subst em;have hK2:=hK.more (B2:=(bx bo (mQ b t)::bx bi [iv i]::bx bp [iv prev]::bx bq [iv p]::bx ba [fn f cap]::B)) (λ x hx=>by simp[hx]);have hpr:prev<=a.mm.cs.length:=by rw[<- hn];exact(ok.mo.at m).prev
 refine enter func168 ntmps168 rfl rfl hw0 ?_;simp only[cC];refine J0 ?_;refine aJ (λ x7=>?_);refine Qa ?_;refine eI [(0,[]),(1,[]),(2,[]),(5,[]),(6,[]),(7,[]),(3,[6,7]),(4,[]),(8,[]),(9,[]),(10,[]),(11,[])] ?_;refine aY ?_;refine bU (i:=1) (hq:=(lX bo (mQ b t) 0 hB rfl)) (h:=?_);refine aV ?_;refine aY ?_;refine bU (i:=6) (hq:=(lX bo (mQ b t) 0 hB rfl)) (h:=?_);refine bU (i:=7) (hq:=(lX bi [.int .i64 i] 0 hB rfl)) (h:=?_);refine bI (i:=3) (hq:=(Da r ok hm hA hr)) (hfire:=(λ _=>by(refine fV ?_;(repeat (first|exact aL.nil|refine aL.cons (by first|exact gD (hq:=lX bo (mQ b t) 0 hB rfl)|exact gD (hq:=lX bi [.int .i64 i] 0 hB rfl)) ?_));done))) (h:=λ x12 h12=>?_);refine sF ?_;refine bI (i:=8) (hq:=(Da i ok hm hA hi)) (h:=λ x17 h17=>?_);refine sF ?_;refine pI ?_;refine J7 ?_;refine K1e ?_;refine aC (lX bp [.int .i64 prev] 0 hB rfl) rfl ?_;refine aC (lX bq [.int .i64 p] 0 hB rfl) rfl ?_;refine aA ?_;refine aC (lX ba [fn f cap] 0 hB rfl) rfl ?_;refine aD (Ae (λ w1 hw=>Kz (K:=λ _=>kP i m K) hK2 hpr hp ok hm hA hB hw)) (λ x25 h25=>?_);refine bT (gE λ _=>aR rf cY rf (cD _) eD rf iR) (λ _=>?_);refine aG ?_;refine aZ results168 (λ w hw=>?_);refine⟨x25,rfl,⟨⟨hr,hi,?_⟩,h25.2⟩,hw.rN⟩;rw[gJ,gJ];exact Yh hmm hn h25.1
set_option maxRecDepth 100000 in
set_option maxHeartbeats 2000000 in
theorem yb{K:Int->Tr}(ht:t.root<=9223372036854775807)(hK:A3 b K s f cap B)(hi:i<=s.nodes.length)(hmm:m<=s.nodes.length)(hp:p<=s.nodes.length)(hn:(bE s.nodes m).prev=prev):rU b 162 [pt bt,pt bm,pt bo,pt bi,pt bp] [.int .i64 p] (bx bt [fn f cap]::bx bm [iv m]::bx bo (mQ b t)::bx bi [iv i]::bx bp [iv prev]::B) s (if p=0 then K m else .node p λ np=>if cB np then(if t.ro=true then lG i m p false K else zU t λ r=>.node r λ nr=>.node i λ ni=>lG i m p (nr.gen==ni.gen) K) else Ka i m p K):=by
 intro a D A w em ok hm hA hB hw0;subst em;have hK2:=hK.more (B2:=(bx bt [fn f cap]::bx bm [iv m]::bx bo (mQ b t)::bx bi [iv i]::bx bp [iv prev]::B)) (λ x hx=>by simp[hx]);have np:=A7 ok p;have hpr:prev<=a.mm.cs.length:=by rw[<- hn];exact(ok.mo.at m).prev
 have hAg:xu b (λ _=>kP i m K) a.mm 164 [.pointer (some ⟨bp,0,none⟩),.pointer (some ⟨bt,0,none⟩),.pointer (some ⟨bm,0,none⟩),.pointer (some ⟨bo,0,none⟩),.pointer (some ⟨bi,0,none⟩)] (bx bt [fn f cap]::bx bm [iv m]::bx bo (mQ b t)::bx bi [iv i]::bx bp [iv prev]::B):=⟨by kernel_rfl,λ o s1 l=>(u7 (t:=t) (prev:=prev) (bp:=bp) (bt:=bt) (bm:=bm) (bo:=bo) (bi:=bi) (hK.le l) (by have:=l.len;omega) (by have:=l.len;omega) (oK hm hpr) (by rw[l.nd hmm];exact hn) o).mr (λ y hy=>by simp only[List.mem_cons] at hy ⊢;rcases hy with h|h|h|h|h|h<;>simp[h])⟩
 have hRt:∀x6 x8:Nat,A3 b (λ r=>.node r λ nr=>.node i λ ni=>lG i m p (nr.gen==ni.gen) K) a.mm 168 [.pointer (some ⟨bo,0,none⟩),.pointer (some ⟨bi,0,none⟩),.pointer (some ⟨bp,0,none⟩),.pointer (some ⟨x6,0,none⟩),.pointer (some ⟨x8,0,none⟩)] (bx x8 [.func (.func 164) #[] ⟨[.pointer (some ⟨bp,0,none⟩),.pointer (some ⟨bt,0,none⟩),.pointer (some ⟨bm,0,none⟩),.pointer (some ⟨bo,0,none⟩),.pointer (some ⟨bi,0,none⟩)]⟩]::bx x6 [iv p]::(bx bt [fn f cap]::bx bm [iv m]::bx bo (mQ b t)::bx bi [iv i]::bx bp [iv prev]::B)):=λ x6 x8=>⟨by kernel_rfl,λ r s1 l hr=>(uc (t:=t) (prev:=prev) (bo:=bo) (bi:=bi) (bp:=bp) (bq:=x6) (ba:=x8) (hAg.le l) (by have:=l.len;omega) (by have:=l.len;omega) (by have:=l.len;omega) hr (by rw[l.nd hmm];exact hn)).mr (λ y hy=>by simp only[List.mem_cons] at hy ⊢;rcases hy with h|h|h|h|h|h<;>simp[h])⟩
 refine enter func162 ntmps162 rfl rfl hw0 ?_;simp only[cC];refine J0 ?_;refine bJ (λ x6=>?_);refine aJ (λ x7=>?_);refine Qa ?_;refine nJ ?_;refine tG ?_;refine bD (λ c10=>?_) (λ c10=>?_);·refine J0 ?_;refine aC (lX bt [fn f cap] 0 hB rfl) rfl ?_;refine aC (lX bm [.int .i64 m] 0 hB rfl) rfl ?_;refine aD (V1 hK2.1 (hK2.2 m a.mm (Mm.Le.refl _) hmm) ok hm hA hB) (λ x13 h13=>?_);refine bT (gE λ _=>aR rf cY rf (cD _) eD rf iR) (λ _=>?_);refine aG ?_;refine aZ results162 (λ w hw=>?_);refine⟨x13,rfl,⟨?_,h13.2⟩,hw.rN⟩;rw[if_pos (by omega)];exact h13.1
 ·refine lB ?_;refine Ka6 ?_;refine aC (lX bo (mQ b t) 0 hB rfl) rfl ?_;refine bO ?_;refine aD (Da p ok hm hA hp) (λ x17 h17=>?_);refine aD (c0 (V:=.bool) (hc:=λ w1 hw=>Vt ((aB (cI a.L) p).at_ x17.1 x17.2).nd w1)) (λ x18 h18=>?_);refine oG ?_;refine bD (λ c19=>?_) (λ c19=>?_);·refine K1e ?_;refine aC (lX bi [.int .i64 i] 0 hB rfl) rfl ?_;refine aC (lX bm [.int .i64 m] 0 hB rfl) rfl ?_;refine bO ?_;refine aC (lX bt [fn f cap] 0 hB rfl) rfl ?_;refine aD (Ae (λ w1 hw=>W0 hK2 hi hmm hp ok hm hA hB hw)) (λ x25 h25=>?_);refine bT (gE λ _=>aR rf cY rf (cD _) eD rf iR) (λ _=>?_);refine aG ?_;refine aZ results162 (λ w hw=>?_);refine⟨x25,rfl,⟨?_,h25.2⟩,hw.rN⟩;rw[if_neg (by omega)];refine⟨hp,?_⟩;rw[gJ];dsimp only;rw[if_neg (λ hk=>by have h2:=h18.2 hk;rw[h2] at c19;cases c19)];exact h25.1
  ·refine aW ?_;refine J0 ?_;refine K1v ?_;refine aP (gE λ _=>Hn (z:=.nilFunc) (by kernel_rfl) rfl) (λ x8=>?_);refine J5 ?_;refine aT ?_;refine Ka6 ?_;refine aE ?_;refine aC (lX bo (mQ b t) 2 hB rfl) rfl ?_;refine aG ?_;refine bD (λ c29=>?_) (λ c29=>?_);·refine K1e ?_;refine aC (lX bp [.int .i64 prev] 0 hB rfl) rfl ?_;refine bO ?_;refine bO ?_;refine aD (Ae (λ w1 hw=>Kz (K:=λ _=>kP i m K) hAg hpr hp ok hm hA hB hw)) (λ x34 h34=>?_);refine bT (gE λ _=>aR rf cY rf (cD _) eD rf iR) (λ _=>?_);refine aG ?_;refine aZ results162 (λ w hw=>?_);refine⟨x34,rfl,⟨?_,h34.2⟩,hw.rN⟩;rw[if_neg (by omega)];refine⟨hp,?_⟩;rw[gJ];dsimp only;rw[if_pos (show cB (aB (cI a.L) p).c from h18.1 (by simpa using c19)),if_pos c29];exact Yh hmm hn h34.1
   ·refine dx (λ w h=>(show SF _ _ [_,(b,fR a)] _ [_,_] _ w from(h.dD (.tail (.tail .head))).dD .head)) ?_;refine aW ?_;refine K1e ?_;refine K1v ?_;refine aD (cM (V:=λ y:Cd×Fr×AS=>.agg ⟨y.1.cells⟩) (hs:=[(b,fR a)]) (os:=gC a) (hs':=λ y=>[(b,fR y.2.2)]) (os':=λ y=>gC y.2.2) (Fc:=λ y=>y.2.1) (A0:=bx x8 [.func (.func 164) #[] ⟨[.pointer (some ⟨bp,0,none⟩),.pointer (some ⟨bt,0,none⟩),.pointer (some ⟨bm,0,none⟩),.pointer (some ⟨bo,0,none⟩),.pointer (some ⟨bi,0,none⟩)]⟩]::bx x6 [iv p]::A) (hA:=bH.pz) (hc:=λ w1 hw=>vi (K:=λ r=>.node r λ nr=>.node i λ ni=>lG i m p (nr.gen==ni.gen) K) (B:=bx x8 [.func (.func 164) #[] ⟨[.pointer (some ⟨bp,0,none⟩),.pointer (some ⟨bt,0,none⟩),.pointer (some ⟨bm,0,none⟩),.pointer (some ⟨bo,0,none⟩),.pointer (some ⟨bi,0,none⟩)]⟩]::bx x6 [iv p]::(bx bt [fn f cap]::bx bm [iv m]::bx bo (mQ b t)::bx bi [iv i]::bx bp [iv prev]::B)) ht (hRt x6 x8) ok hm (λ f hf=>List.mem_cons_of_mem _ (List.mem_cons_of_mem _ (hA f hf))) (Ic hB) hw)) (λ x37 h37=>?_);refine bT (gE λ _=>aR rf cY rf (cD _) eD rf iR) (λ _=>?_);refine aG ?_;refine aZ results162 (λ w hw=>?_);refine⟨(x37.1,x37.2.1++[bx x8 [.func (.func 164) #[] ⟨[.pointer (some ⟨bp,0,none⟩),.pointer (some ⟨bt,0,none⟩),.pointer (some ⟨bm,0,none⟩),.pointer (some ⟨bo,0,none⟩),.pointer (some ⟨bi,0,none⟩)]⟩],bx x6 [iv p]],x37.2.2),rfl,⟨?_,h37.2.1,h37.2.2.more (λ f hf=>List.mem_append_left _ hf)⟩,hw.rI⟩;rw[if_neg (by omega)];refine⟨hp,?_⟩;rw[gJ];dsimp only;rw[if_pos (show cB (aB (cI a.L) p).c from h18.1 (by simpa using c19)),if_neg (by rw[c29];decide)];rw[List.append_assoc];exact h37.1
theorem au{K:Int->Tr}(ht:t.root<=9223372036854775807)(hK:A3 b K a.mm f cap B)(hi:i<=a.mm.nodes.length)(hmm:m<=a.mm.nodes.length)(ok:a.Ok)(hm:a.mm.Small)(hA:∀f∈aN a.L,f∈A)(hB:∀x∈B,x∈A)(hs:SF w D [(b,fR a)] A [] (gC a) w) :
  Calls prog 121 #[.agg ⟨mQ b t⟩,.int .i64 i,.int .i64 m,fn f cap] w (Af b (λ c' s' B'=>jT b (oO t i m K) a.mm c' s' B') a B D w):=by
 have nm:=A7 ok m;refine enter func121 ntmps121 rfl rfl hs ?_;simp only[cC]
 refine J0 ?_;refine bJ (λ x4=>?_);refine bJ (λ x5=>?_);refine bJ (λ x6=>?_);refine bJ (λ x7=>?_);refine aJ (λ x8=>?_);refine aG ?_;refine iE ?_;refine bO ?_;refine aD (Da m ok hm hA hmm) (λ x13 h13=>?_);refine cP ?_;refine aP (gE λ _=>Hn (z:=.int .i64 0) (by kernel_rfl) rfl) (λ x9=>?_);refine J5 ?_;refine nJ ?_;refine K1v ?_;refine aP (cV (hc:=λ w1 hw=>oN _ _ _ w1)) (λ x17=>?_);refine bT (gE λ _=>aR rf cY rf (cD _) eD rf iR) (λ _=>?_);refine aG ?_;refine aZ results121 (λ w hw=>?_);refine⟨(oB (aB (cI a.L) m).nd.prev _ _,[bx x4 (mQ b t),bx x5 [iv i],bx x6 [iv m],bx x7 [fn f cap],bx x9 [iv (aB (cI a.L) m).nd.prev]],a),rfl,⟨⟨hmm,?_⟩,ok,(AS.iN.refl a).more (λ _ h=>(List.not_mem_nil h).elim)⟩,?_⟩;·rw[gJ];refine⟨rfl,oK hm nm.prev,_,_,rfl,by kernel_rfl,λ p s1 l hp=>(yb (bt:=x7) (bm:=x6) (bo:=x4) (bi:=x5) (bp:=x9) (prev:=(aB (cI a.L) m).nd.prev) ht (hK.le l) (by have:=l.len;omega) (by have:=l.len;omega) hp (by rw[l.nd hmm,gJ];rfl)).mr (λ y hy=>?_)⟩;simp only[List.mem_cons,List.mem_append,List.not_mem_nil,or_false] at hy ⊢;rcases hy with h|h|h|h|h|h<;>simp[h]
 ·exact(((((hw.dD .head).dD (.tail .head)).dD (.tail .head)).dD (.tail .head)).dD (.tail .head)).rI
end
end
section
section
variable{D:List Nat}{A B:Fr}{a:AS}{b:Nat}{w:World}{f:FuncId}{cap:List Value}{t:dW}
theorem iy{K:Int->Tr}{i m:Int}{s:Mm}{bt bo bi:Nat}(ht:t.root<=9223372036854775807)(hK:A3 b K s f cap B)(hi:i<=s.nodes.length)(hmm:m<=s.nodes.length):rU b 131 [pt bo,pt bi,pt bt] [.int .i64 m] (bx bo (mQ b t)::bx bi [iv i]::bx bt [fn f cap]::B) s (oO t i m K):=by
 intro a D A w em ok hm hA hB hw0;subst em;have hK2:=hK.more (B2:=(bx bo (mQ b t)::bx bi [iv i]::bx bt [fn f cap]::B)) (λ x hx=>by simp[hx]);refine enter func131 ntmps131 rfl rfl hw0 ?_;simp only[cC]
 refine J0 ?_;refine aJ (λ x5=>?_);refine aG ?_;refine K1e ?_;refine aC (lX bi [.int .i64 i] 0 hB rfl) rfl ?_;refine aA ?_;refine aC (lX bt [fn f cap] 0 hB rfl) rfl ?_;refine aD (Ae (λ w1 hw=>au ht hK2 hi hmm ok hm hA hB hw)) (λ x10 h10=>?_);refine bT (gE λ _=>aR rf cY rf (cD _) eD rf iR) (λ _=>?_);refine aG ?_;refine aZ results131 (λ w hw=>?_);exact⟨x10,rfl,h10,hw.rN⟩
theorem W6{K:Int->Tr}{i:Int}(ht:t.root<=9223372036854775807)(hK:A3 b K a.mm f cap B)(hi:i<=a.mm.nodes.length)(ok:a.Ok)(hm:a.mm.Small)(hA:∀f∈aN a.L,f∈A)(hB:∀x∈B,x∈A)(hs:SF w D [(b,fR a)] A [] (gC a) w) :
  Calls prog 88 #[.agg ⟨mQ b t⟩,.int .i64 i,fn f cap] w (Af b (λ c' s' B'=>jT b (iM t i K) a.mm c' s' B') a B D w):=by
 have ni:=A7 ok i;refine enter func88 ntmps88 rfl rfl hs ?_;simp only[cC]
 refine K1m ?_;intro x3;refine K2s ?_;intro x4 x5 x6 x10 h10 x13;refine bT (gE λ _=>aR rf cY rf (cD _) eD rf iR) (λ _=>?_);refine aG ?_;refine aZ results88 (λ w hw=>?_);refine⟨(oB (aB (cI a.L) i).nd.main _ _,[bx x3 (mQ b t),bx x4 [iv i],bx x5 [fn f cap]],a),rfl,⟨⟨hi,?_⟩,ok,(AS.iN.refl a).more (λ _ h=>(List.not_mem_nil h).elim)⟩,?_⟩;·rw[gJ];exact⟨rfl,oK hm ni.main,_,_,rfl,by kernel_rfl,λ m s1 l hmm=>iy (bo:=x3) (bi:=x4) (bt:=x5) ht (hK.le l) (by have:=l.len;omega) hmm⟩
 ·exact(((hw.dD (.tail .head)).dD (.tail .head)).dD (.tail .head)).rI
end
end
end Go.Proofs.YtbajmaoegmbfgaaGreat
namespace Go.Ct
open Go Go.RowKit
section
theorem bG.pre{P:Program}{S:List (Nat×Value)}{G G2:World->Prop}{o:Oper}{X:Type}{V:X->Value}{G':X->World->Prop}(h:∀w,G w->G2 w)(hl:bG P S G2 o X V G'):bG P S G o X V G':=⟨λ w hw=>hl.run w (h w hw)⟩
end
end Go.Ct
namespace Go.Proofs.YtbajmaoegmbfgaaGreat
open Go.Proofs.Tryz
open Go Go.RowKit Go.Ct
section
section
variable{D:List Nat}{A B:Fr}{a:AS}{b:Nat}{w:World}{f:FuncId}{cap:List Value}{t:dW}
variable{Kt:Tr}{s:Mm}{b5:Nat}{v:Int}{nd:Nd}
theorem Yg(hK:Zs b Kt s f cap B)(o:Bool):rU b 173 [pt b5] [.bool o] (bx b5 [fn f cap]::B) s (Kt):=by
 intro a D A w em ok hm hA hB hw0;subst em;have hK2:=hK.more (B2:=(bx b5 [fn f cap]::B)) (λ x hx=>by simp[hx]);refine enter func173 ntmps173 rfl rfl hw0 ?_;simp only[cC]
 refine J0 ?_;refine aJ (λ x3=>?_);refine aG ?_;refine J0 ?_;refine aC (lX b5 [fn f cap] 0 hB rfl) rfl ?_;refine aD (V1 hK2.1 (hK2.2 a.mm (Mm.Le.refl _)) ok hm hA hB) (λ x5 h5=>?_);refine bT (gE λ _=>aR rf cY rf (cD _) eD rf iR) (λ _=>?_);refine aG ?_;refine aZ results173 (λ w hw=>?_);exact⟨x5,rfl,h5,hw.rN⟩
theorem y7{r:Int}{b4:Nat}(hK:Zs b Kt s f cap B)(hv:v<=s.nodes.length)(he:(bE s.nodes v).exp=nd.exp)(hst:(bE s.nodes v).status=nd.status)(hd:nd.status<=9223372036854775807):rU b 172 [pt b4,pt b5] [.int .i64 r] (bx b4 (nd.cells:List Value)::bx b5 [fn f cap]::B) s (.node v λ n2=>.node v λ n3=>.kG n3.status 0 (if r=n2.exp then 1 else 2) λ _=>Kt):=by
 intro a D A w em ok hm hA hB hw0;subst em;refine enter func172 ntmps172 rfl rfl hw0 ?_;simp only[cC];refine K0t ?_;intro x4;refine Ka7 ?_;refine aE ?_;refine aC (lX b4 (nd.cells:List Value) 11 hB rfl) rfl ?_;refine tG ?_;refine bD (λ c9=>?_) (λ c9=>?_);·refine dS ?_;refine J1 ?_;refine Ka6 ?_;refine aC (lX b4 (nd.cells:List Value) 13 hB rfl) rfl ?_;refine aA ?_;refine K1v ?_;refine aP (cV (hc:=λ w1 hw=>wY _ _ _ _ _ w1)) (λ x14=>?_);refine bT (gE λ _=>aR rf cY rf (cD _) eD rf iR) (λ _=>?_);refine aG ?_;refine aZ results172 (λ w hw=>?_);refine⟨(wW nd.status 0 1 _ _,[],a),rfl,⟨⟨hv,hv,?_⟩,ok,AS.iN.refl a⟩,hw.rI⟩;dsimp only;rw[he,hst,if_pos (by omega)];exact⟨rfl,hd,by have:=ok.mo.two;omega,_,_,rfl,by kernel_rfl,λ o s1 l=>(Yg (b5:=b5) (hK.le l) o).mr (λ y hy=>List.mem_cons_of_mem _ hy)⟩
 ·refine aW ?_;refine Ka6 ?_;refine aC (lX b4 (nd.cells:List Value) 13 hB rfl) rfl ?_;refine aA ?_;refine K1v ?_;refine aP (cV (hc:=λ w1 hw=>wY _ _ _ _ _ w1)) (λ x14=>?_);refine bT (gE λ _=>aR rf cY rf (cD _) eD rf iR) (λ _=>?_);refine aG ?_;refine aZ results172 (λ w hw=>?_);refine⟨(wW nd.status 0 2 _ _,[],a),rfl,⟨⟨hv,hv,?_⟩,ok,AS.iN.refl a⟩,hw.rI⟩;dsimp only;rw[he,hst,if_neg (by omega)];exact⟨rfl,hd,by have:=ok.mo.two;omega,_,_,rfl,by kernel_rfl,λ o s1 l=>(Yg (b5:=b5) (hK.le l) o).mr (λ y hy=>List.mem_cons_of_mem _ hy)⟩
theorem Zu(ht:t.root<=9223372036854775807)(hK:Zs b Kt a.mm f cap B)(hv:v<=a.mm.nodes.length)(ho:(bE a.mm.nodes v).bS=nd.bS)(he:(bE a.mm.nodes v).exp=nd.exp)(hst:(bE a.mm.nodes v).status=nd.status)(ok:a.Ok)(hm:a.mm.Small)(hA:∀f∈aN a.L,f∈A)(hB:∀x∈B,x∈A)(hs:SF w D [(b,fR a)] A [] (gC a) w) :
  Calls prog 138 #[.agg ⟨mQ b t⟩,nd.v,fn f cap] w (Af b (λ c' s' B'=>jT b (qD t v Kt) a.mm c' s' B') a B D w):=by
 have hol:nd.bS<=a.mm.nodes.length:=by rw[<- ho];exact(ok.mo.at v).bS
 have hd:nd.status<=9223372036854775807:=by rw[<- hst];exact oK hm (ok.mo.at v).status
 have hT:∀x4 x5:Nat,A3 b (λ r=>.node v λ n2=>.node v λ n3=>.kG n3.status 0 (if r=n2.exp then 1 else 2) λ _=>Kt) a.mm 172 [.pointer (some ⟨x4,0,none⟩),.pointer (some ⟨x5,0,none⟩)] (bx x5 [fn f cap]::bx x4 (nd.cells:List Value)::B):=λ x4 x5=>⟨by kernel_rfl,λ r s1 l hr=>(y7 (b4:=x4) (b5:=x5) (nd:=nd) (hK.le l) (by have:=l.len;omega) (by rw[l.nd hv];exact he) (by rw[l.nd hv];exact hst) hd).mr (λ y hy=>by simp only[List.mem_cons] at hy ⊢;rcases hy with h|h|h<;>simp[h])⟩
 refine enter func138 ntmps138 rfl rfl hs ?_;simp only[cC];simp only[Nd.v,Nd.cells];refine K1m ?_;intro x3;refine bJ (λ x4=>?_);refine bJ (λ x5=>?_);refine aJ (λ x6=>?_);refine aG ?_;refine nJ ?_;refine J3 ?_;refine K1v ?_;(refine aP (bG.pre (λ w h=>(show SF _ _ [_,_,(b,fR a)] _ [(bx x5 [fn f cap]:Option Addr×List Value),bx x4 (nd.cells:List Value)] _ w from(h.dD (.tail (.tail .head))).dD (.tail .head))) (cM (V:=λ y:Cd×Fr×AS=>.agg ⟨y.1.cells⟩) (hs:=[(b,fR a)]) (os:=gC a) (hs':=λ y=>[(b,fR y.2.2)]) (os':=λ y=>gC y.2.2) (Fc:=λ y=>y.2.1) (A0:=bx x5 [fn f cap]::bx x4 (nd.cells:List Value)::A) (hA:=bH.pz) (hc:=λ w1 hw=>W6 ht (hT x4 x5) hol ok hm (λ f hf=>List.mem_cons_of_mem _ (List.mem_cons_of_mem _ (hA f hf))) (Ic hB) hw))) (λ x11=>?_);try (refine eP (λ h11=>?_)));refine bT (gE λ _=>aR rf cY rf (cD _) eD rf iR) (λ _=>?_);refine aG ?_;refine aZ results138 (λ w hw=>?_);refine⟨(x11.1,x11.2.1++[bx x5 [fn f cap],bx x4 (nd.cells:List Value)],x11.2.2),rfl,⟨⟨hv,?_⟩,h11.2.1,h11.2.2.more (λ f hf=>List.mem_append_left _ hf)⟩,hw.rI⟩;dsimp only;rw[ho,List.append_assoc];exact h11.1
end
end
section
theorem rW.app{b:Nat}{p:Tr×Mm}{a:AS}{B B1 F:Fr}{c:Cd}{a':AS}(h:rW b p a (B1++B) (c,F,a')):rW b p a B (c,F++B1,a'):=by obtain⟨⟨h1,h2⟩,h3,h4⟩:=h;refine⟨⟨?_,h2⟩,h3,h4.more λ f hf=>List.mem_append_left _ hf⟩;simp only at h1 ⊢;rw[List.append_assoc];exact h1
section
variable{D:List Nat}{A B:Fr}{a:AS}{b:Nat}{w:World}{f:FuncId}{cap:List Value}{t:dW}
theorem Zy{t:Tr}{i m:Nat}(ht:bW t i m)(h:Zs b t a.mm f cap B)(ok:a.Ok)(hm:a.mm.Small)(hA:∀f∈aN a.L,f∈A)(hB:∀x∈B,x∈A)(hs:SF w D [(b,fR a)] A [] (gC a) w) :
  Calls prog 73 #[.iface 42 (.pointer (some ⟨b,0,none⟩)),.func (.func f) #[] ⟨cap⟩] w λ e w'=>∃x:Nat×Cd×Fr×AS,e=.returned (.pointer (some ⟨x.1,0,none⟩))/\(rW b (Ct.eF t a.mm) a B x.2/\dK (Ct.eF t a.mm).1=true)/\SF w D ([(b,fR x.2.2.2)]++[(x.1,tO b x.2.1 0)]) [] x.2.2.1 (gC x.2.2.2++[]) w' :=
 (me ht h ok hm hA hB hs).mono λ _ _ ⟨x,e,h,hw⟩=>⟨x,e,h,by rw[List.append_nil];exact hw.perm (List.Perm.swap _ _ _) (List.Perm.refl _)⟩
end
end
section
section
variable{D:List Nat}{A B:Fr}{a:AS}{b:Nat}{w:World}{f:FuncId}{cap:List Value}{t:dW}
variable{v x:Int}{s:Mm}{b1 b2 b3 b0:Nat}{nd:Nd}
theorem qh{K:Int->Tr}(ht:t.root<=9223372036854775807)(hK:A3 b K s f cap B)(hv:v<=s.nodes.length):rU b 147 [pt b1,pt b2,pt b3] [.int .i64 x] (bx b1 (mQ b t)::bx b2 [iv v]::bx b3 [fn f cap]::B) s (pT t v x K):=by
 intro a D A w em ok hm hA hB hw0;subst em;have hK2:=hK.more (B2:=(bx b1 (mQ b t)::bx b2 [iv v]::bx b3 [fn f cap]::B)) (λ x hx=>by simp[hx]);refine enter func147 ntmps147 rfl rfl hw0 ?_;simp only[cC]
 refine J0 ?_;refine aJ (λ x5=>?_);refine aG ?_;refine K0n ?_;refine aD (Ae (λ w1 hw=>sI ht hK2 hv ok hm hA hB hw)) (λ x10 h10=>?_);refine bT (gE λ _=>aR rf cY rf (cD _) eD rf iR) (λ _=>?_);refine aG ?_;refine aZ results147 (λ w hw=>?_);exact⟨x10,rfl,h10,hw.rN⟩
theorem oh{K:Int->Tr}(ht:t.root<=9223372036854775807)(hK:A3 b K s f cap B)(hv:v<=s.nodes.length)(hst:(bE s.nodes v).status=nd.status):rU b 146 [pt b0,pt b1,pt b2,pt b3] [] (bx b0 (nd.cells:List Value)::bx b1 (mQ b t)::bx b2 [iv v]::bx b3 [fn f cap]::B) s (.node v λ n=>.load n.status λ s=>pT t v s K):=by
 intro a D A w em ok hm hA hB hw0;subst em;have hd:nd.status<=9223372036854775807:=by rw[<- hst];exact oK hm (ok.mo.at v).status
 refine enter func146 ntmps146 rfl rfl hw0 ?_;simp only[cC];refine K0t ?_;intro x4;refine K2r ?_;refine aP (cV (hc:=λ w1 hw=>oN _ _ _ w1)) (λ x8=>?_);refine bT (gE λ _=>aR rf cY rf (cD _) eD rf iR) (λ _=>?_);refine aG ?_;refine aZ results146 (λ w hw=>?_);refine⟨(oB nd.status _ _,[],a),rfl,⟨⟨hv,?_⟩,ok,AS.iN.refl a⟩,hw.rI⟩;dsimp only;rw[hst];exact⟨rfl,hd,_,_,rfl,by kernel_rfl,λ x s1 l hx=>(qh (b1:=b1) (b2:=b2) (b3:=b3) ht (hK.le l) (by have:=l.len;omega)).mr (λ y hy=>List.mem_cons_of_mem _ hy)⟩
theorem po{K:Int->Tr}(ht:t.root<=9223372036854775807)(hK:A3 b K s f cap B)(hv:v<=s.nodes.length)(ho:(bE s.nodes v).bS=nd.bS)(he:(bE s.nodes v).exp=nd.exp)(hst:(bE s.nodes v).status=nd.status):rU b 145 [pt b1,pt b2,pt b3,pt b0] [.int .i64 x] (bx b1 (mQ b t)::bx b2 [iv v]::bx b3 [fn f cap]::bx b0 (nd.cells:List Value)::B) s (if x=0 then qD t v (.node v λ n=>.load n.status λ s=>pT t v s K) else pT t v x K):=by
 intro a D A w em ok hm hA hB hw0;subst em;have hK2:=hK.more (B2:=(bx b1 (mQ b t)::bx b2 [iv v]::bx b3 [fn f cap]::bx b0 (nd.cells:List Value)::B)) (λ x hx=>by simp[hx])
 have hT:Zs b (.node v λ n=>.load n.status λ s=>pT t v s K) a.mm 146 [.pointer (some ⟨b0,0,none⟩),.pointer (some ⟨b1,0,none⟩),.pointer (some ⟨b2,0,none⟩),.pointer (some ⟨b3,0,none⟩)] (bx b1 (mQ b t)::bx b2 [iv v]::bx b3 [fn f cap]::bx b0 (nd.cells:List Value)::B):=⟨by kernel_rfl,λ s1 l=>(oh (b0:=b0) (b1:=b1) (b2:=b2) (b3:=b3) (nd:=nd) ht (hK.le l) (by have:=l.len;omega) (by rw[l.nd hv];exact hst)).mr (λ y hy=>by simp only[List.mem_cons] at hy ⊢;rcases hy with h|h|h|h|h<;>simp[h])⟩
 refine enter func145 ntmps145 rfl rfl hw0 ?_;simp only[cC];refine J0 ?_;refine aJ (λ x6=>?_);refine aG ?_;refine jS ?_;refine Kc5 ?_;refine bD (λ c8=>?_) (λ c8=>?_);·refine K0n ?_;refine aD (Ae (λ w1 hw=>sI ht hK2 hv ok hm hA hB hw)) (λ x13 h13=>?_);refine bT (gE λ _=>aR rf cY rf (cD _) eD rf iR) (λ _=>?_);refine aG ?_;refine aZ results145 (λ w hw=>?_);refine⟨x13,rfl,⟨?_,h13.2⟩,hw.rN⟩;rw[if_neg (by omega)];exact h13.1
 ·refine aW ?_;refine J0 ?_;refine aC (Tq b1 (mQ b t) 0 3 hB rfl rfl) rfl ?_;refine aC (Tq b0 (nd.cells:List Value) 0 14 hB rfl rfl) rfl ?_;refine K1v ?_;refine aD (Ae (λ w1 hw=>Zu (nd:=nd) ht hT hv ho he hst ok hm hA hB hw)) (λ x17 h17=>?_);refine bT (gE λ _=>aR rf cY rf (cD _) eD rf iR) (λ _=>?_);refine aG ?_;refine aZ results145 (λ w hw=>?_);refine⟨x17,rfl,⟨?_,h17.2⟩,hw.rN⟩;rw[if_pos (by omega)];exact h17.1
theorem oi{K:Int->Tr}(ht:t.root<=9223372036854775807)(hK:A3 b K s f cap B)(hv:v<=s.nodes.length):rU b 144 [pt b1,pt b3] [.int .i64 v] (bx b1 (mQ b t)::bx b3 [fn f cap]::B) s (.node v λ n=>if n.kind=2 then K v else .node v λ n=>.load n.status λ s=>if s=0 then qD t v (.node v λ n=>.load n.status λ s=>pT t v s K) else pT t v s K):=by
 intro a D A w em ok hm hA hB hw0;subst em;have hK2:=hK.more (B2:=(bx b1 (mQ b t)::bx b3 [fn f cap]::B)) (λ x hx=>by simp[hx]);have nv:=A7 ok v;refine enter func144 ntmps144 rfl rfl hw0 ?_;simp only[cC]
 refine K1m ?_;intro x3;refine aJ (λ x4=>?_);refine aG ?_;refine Ka6 ?_;refine aC (lX b1 (mQ b t) 0 hB rfl) rfl ?_;refine bO ?_;refine aD (Da v ok hm hA hv) (λ x9 h9=>?_);refine aJ (λ x5=>?_);refine J5 ?_;refine Kd1 ?_;refine bD (λ c12=>?_) (λ c12=>?_);·refine J0 ?_;refine aC (lX b3 [fn f cap] 0 hB rfl) rfl ?_;refine bO ?_;refine aD (V1 hK2.1 (hK2.2 v a.mm (Mm.Le.refl _) hv) ok hm hA hB) (λ x15 h15=>?_);refine bT (gE λ _=>aR rf cY rf (cD _) eD rf iR) (λ _=>?_);refine aG ?_;refine aZ results144 (λ w hw=>?_);refine⟨x15,rfl,⟨⟨hv,?_⟩,h15.2⟩,hw.rN⟩;rw[gJ];dsimp only;rw[if_pos (by assumption)];exact h15.1
 ·refine aW ?_;refine iE ?_;refine K1v ?_;refine aP (cV (hc:=λ w1 hw=>oN _ _ _ w1)) (λ x19=>?_);refine bT (gE λ _=>aR rf cY rf (cD _) eD rf iR) (λ _=>?_);refine aG ?_;refine aZ results144 (λ w hw=>?_);refine⟨(oB (aB (cI a.L) v).nd.status _ _,[bx x5 (((aB (cI a.L) v).at_ x9.1 x9.2).nd.cells:List Value),bx x3 [iv v]],a),rfl,⟨⟨hv,?_⟩,ok,(AS.iN.refl a).more (λ _ h=>(List.not_mem_nil h).elim)⟩,?_⟩
  ·rw[gJ];dsimp only;rw[if_neg (by assumption)];refine⟨hv,?_⟩;rw[gJ];refine⟨rfl,oK hm nv.status,_,_,rfl,by kernel_rfl,λ x s1 l hx=>?_⟩;have hlen:=l.len
   exact(po (b0:=x5) (b1:=b1) (b2:=x3) (b3:=b3) (nd:=((aB (cI a.L) v).at_ x9.1 x9.2).nd) ht (hK.le l) (by omega) (by rw[l.nd hv,gJ];rfl) (by rw[l.nd hv,gJ];rfl) (by rw[l.nd hv,gJ];rfl)).mr (λ y hy=>by
   simp only[List.mem_cons,List.append_eq,List.nil_append,List.mem_append,List.not_mem_nil,or_false] at hy ⊢;rcases hy with h|h|h|h|h<;>simp[h])
  ·exact((hw.dD (.tail (.tail .head))).dD .head).rI
theorem uy{K:Int->Tr}(ht:t.root<=9223372036854775807)(hK:A3 b K a.mm f cap B)(ok:a.Ok)(hm:a.mm.Small)(hA:∀f∈aN a.L,f∈A)(hB:∀x∈B,x∈A)(hs:SF w D [(b,fR a)] A [] (gC a) w) :
  Calls prog 102 #[.agg ⟨mQ b t⟩,fn f cap] w (Af b (λ c' s' B'=>jT b (kI t K) a.mm c' s' B') a B D w):=by refine enter func102 ntmps102 rfl rfl hs ?_;simp only[cC];refine K1i ?_;intro x2 x3;refine aJ (λ x4=>?_);refine aG ?_;refine Ka6 ?_;refine J3 ?_;refine K1v ?_;refine aP (cV (hc:=λ w1 hw=>oN _ _ _ w1)) (λ x9=>?_);refine bT (gE λ _=>aR rf cY rf (cD _) eD rf iR) (λ _=>?_);refine aG ?_;refine aZ results102 (λ w hw=>?_);refine⟨(oB t.root _ _,[bx x2 (mQ b t),bx x3 [fn f cap]],a),rfl,⟨⟨rfl,ht,_,_,rfl,by kernel_rfl,λ v s1 l hv=>oi (b1:=x2) (b3:=x3) ht (hK.le l) hv⟩,ok,(AS.iN.refl a).more (λ _ h=>(List.not_mem_nil h).elim)⟩,?_⟩;exact((hw.dD (.tail .head)).dD (.tail .head)).rI
end
end
section
section
variable{D:List Nat}{A B:Fr}{a:AS}{b:Nat}{w:World}{f:FuncId}{cap:List Value}{t:dW}
end
end
section
section
variable{D:List Nat}{A B:Fr}{a:AS}{b:Nat}{w:World}{f:FuncId}{cap:List Value}{t:dW}
end
end
end Go.Proofs.YtbajmaoegmbfgaaGreat
namespace Go.Ct
open Go Go.RowKit
section
end
end Go.Ct
namespace Go.Proofs.YtbajmaoegmbfgaaGreat
open Go Go.RowKit Go.Ct
section
end
section
theorem Z4(x y:AX):fS (L4 x y) [0,3,4] 1 :=mT (m:=0) (B:=8) (C:=0) (E:=0) (W:=⟨XS.new (L4 x y) [0,3,4] 1 0 none 0 none 0,[⟨3,false⟩],none,0,[],none,0⟩) ⟨P1 _ _ _ _ _ _ _,⟨by show 4<=8;decide,by show 3<=8;decide,by show(1:Int)<=((8:Nat):Int);decide⟩,(λ e he=>nomatch he),by show 0<1;decide,rfl,by show 1<=5;decide,Nat.le_refl _,.new⟩
section
variable{D:List Nat}{A B:Fr}{a0 a:AS}{b bt n m most:Nat}{w:World}{c:Cd}{F:Fr}{p:Tr×Mm}
theorem qk(hp:rW b p a0 B (c,F,a))(ha:dK p.1=true)(ht:bW p.1 m 64)(hmm:most<=m)(hm:p.2.nodes.length+64*most<=137438953472/\p.2.cs.length+64*most<=137438953472)(hn:n+most<1000000000)(hA:∀f∈aN a.L,f∈A)(hB:∀x∈F++B,x∈A)(hs:SF w D [(bt,tO b c n),(b,fR a)] A [] (gC a) w) :
  Calls Tryz.prog 30 #[.pointer (some ⟨bt,0,none⟩),.int .i64 ((most:Nat):Int)] w λ e w'=>∃y:Cd×Fr×AS,e=.returned (.int .i64 ((pF p most:Nat):Int))/\TkI b (jI p most) a (F++B) y/\SF w D [(bt,tO b y.1 (n+pF p most)),(b,fR y.2.2)] [] y.2.1 (gC y.2.2) w':=by
 obtain⟨⟨h1,h2⟩,h3,h4⟩:=hp;simp only at h1 h2 h3;have e:(p.1,a.mm)=p:=by rw[h2]
 have:=Ru (b:=b) (bt:=bt) (n:=n) (D:=D) (A:=A) (B:=F++B) (w:=w) (most:=most) ht hmm ha (a:=a) (c:=c) (by rw[h2];exact h1) h3 (by rw[h2];exact hm) hn hA hB hs;rw[e] at this;exact this
end
end
section
abbrev exL(x:XS):List Ow:=[⟨x.pg,aH x.got,x.kg,37,1⟩,⟨x.pm,aH x.made,x.km,37,1⟩,⟨x.pl,aH x.cel,x.kl,27,1⟩,⟨x.pe,aH x.gns,x.ke,3,1⟩]
end
end Go.Proofs.YtbajmaoegmbfgaaGreat
namespace Go.Ct
open Go Go.RowKit
section
end
end Go.Ct
namespace Go.Proofs.YtbajmaoegmbfgaaGreat
open Go Go.RowKit Go.Ct
section
theorem xv{x:XS}(h:x.Ok):Kn x.L:=λ v hv=>by have hb:=h.nd v hv;have h1:=hb.main;have h2:=hb.prev;have h3:=hb.status;have h4:=h.lc;have e1:v.c.main=v.nd.main:=rfl;have e2:v.c.prev=v.nd.prev:=rfl;have e3:v.c.status=v.nd.status:=rfl;exact⟨hb.bm,by omega,by omega,by omega⟩
end
section
end
section
end
section
section
variable{L:List aQ}{cs:List Int}{gen:Int}{pn pc:Option Addr}{cn cc:Nat}{w:World}
end
abbrev zW(W:Wd)(z:XS):Wd:=⟨z,W.ts,W.pt,W.kt,[],none,0⟩
end
end Go.Proofs.YtbajmaoegmbfgaaGreat
namespace Go.Ct
open Go Go.RowKit
section
end
end Go.Ct
namespace Go.Proofs.YtbajmaoegmbfgaaGreat
open Go Go.RowKit Go.Ct
section
section
variable{P:Program}{S:List (Nat×Value)}{G:World->Prop}{d:Nat}{ty t t':TypeId}{pos:String}{af:Array Edge}{gd:Option (Nat×Bool)}{x y:Operand}
end
section
variable{w:World}{L:List aQ}{cs:List Int}{gen:Int}{pn pc:Option Addr}{cn cc:Nat}
end
end
end Go.Proofs.YtbajmaoegmbfgaaGreat

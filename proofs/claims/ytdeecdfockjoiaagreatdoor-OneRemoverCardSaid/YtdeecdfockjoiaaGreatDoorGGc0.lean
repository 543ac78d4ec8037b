/- Merged. -/
import Derived.Test.YtdeecdfockjoiaaGreatDoorGTt1
import Derived.Test.YtdeecdfockjoiaaGreatDoorGShort
set_option linter.unusedSimpArgs false
set_option linter.unusedVariables false
namespace Go.Ct
open Go Go.RowKit
section
abbrev bx(b:Nat)(cs:List Value):Option Addr×List Value:=(some ⟨b,0,none⟩,cs)
abbrev pt(b:Nat):Value:=.pointer (some ⟨b,0,none⟩)
abbrev fn(f:FuncId)(cap:yK):Value:=.func (.func f) ⟨cap.bd⟩ ⟨cap.cp⟩
abbrev iv(n:Int):Value:=.int .i64 n
theorem ar{α:Type}{l l' xs:List α}{is:List Nat}(h:nW l is xs l':=by(repeat (first|exact nW.nil|(apply nW.cons;(focus ((repeat (first|exact Cf.head|apply Cf.tail));done));simp only[rW])));first|done|fail):nW l is xs l':=h
theorem Jp{S:List (Nat×Value)}{xs:List Operand}{vs:List Value}(h:nZ S xs=vs:=by(repeat (first|exact cB _|(apply bK;focus ((conv=>{lhs;whnf});try exact rfl))));first|done|fail):nZ S xs=vs:=h
section
variable{w0 w:World}{M:List Nat}{H H':List (Nat×Obj)}{A F:Fr}{O O':List Ow}
theorem SF.rI(h:SF w0 M H A F O w)(hH:H'.Sublist H:=by repeat (first|exact List.Sublist.refl _|apply List.Sublist.cons))(hO:O'.Sublist O:=by repeat (first|exact List.Sublist.refl _|apply List.Sublist.cons)):SF w0 M H' [] F O' w:=h.ret hH bM.all hO
theorem SF.rN(h:SF w0 M H A (F++[]) O w)(hH:H'.Sublist H:=by repeat (first|exact List.Sublist.refl _|apply List.Sublist.cons))(hO:O'.Sublist O:=by repeat (first|exact List.Sublist.refl _|apply List.Sublist.cons)):SF w0 M H' [] F O' w:=h.ret hH (bM.dB λ f hf=>by simpa using hf) hO
variable{P:Program}{S:List (Nat×Value)}{d:Nat}{ty t:TypeId}{pos:String}{af:Array Edge}{gd:Option (Nat×Bool)}{x:Operand}{v:Value}{vs:List Value}{B:Fr}
theorem fG(b:Nat)(cs:List Value)(q:Nat)(hB:∀x∈B,x∈A)(hq:cs[q]?=some v)(hx:ev S x=.pointer (some ⟨b,q,none⟩):=by exact rfl)(ht:one P t=true:=by first|exact O9 rfl|kernel_rfl)(hm:bx b cs∈B:=by simp):aN P S (SF w0 M H A F O) ⟨some d,.load t x,ty,pos,af,gd⟩ v :=cG (a:=some ⟨b,0,none⟩) (q:=q) (hx.trans (by simp[dJ,eQ])) ht (.old (mU.eU (hB _ hm))) hq
theorem M2(b:Nat)(cs:List Value)(q k:Nat)(hB:∀x∈B,x∈A)(hv:(cs.drop q).take k=vs)(hl:vs.length=k)(hx:ev S x=.pointer (some ⟨b,q,none⟩):=by exact rfl)(ht:jB P t k=true:=by exact cY)(hm:bx b cs∈B:=by simp):aN P S (SF w0 M H A F O) ⟨some d,.load t x,ty,pos,af,gd⟩ (.agg ⟨vs⟩) :=G7 (a:=some ⟨b,0,none⟩) (q:=q) (hx.trans (by simp[dJ,eQ])) ht (.old (mU.eU (hB _ hm))) hv hl
end
end
end Go.Ct
namespace Go.Proofs.YtdeecdfockjoiaaGreatDoor
open Go.Proofs.Tryz (prog)
open Go Go.RowKit Go.Ct
section
abbrev kF(b:Nat)(f:FuncId)(cap:yK)(arg:List Value)(B:Fr)(s:Mm)(T:Tr):Prop:=Ec b f cap arg B s λ c' s' B'=>eH b T s c' s' B'
theorem Ec.mr{b:Nat}{f:FuncId}{cap:yK}{arg:List Value}{B B2:Fr}{s:Mm}{T:Tr}(h:kF b f cap arg B s T)(hb:∀x∈B,x∈B2):kF b f cap arg B2 s T:=h.more hb λ _ _ _ _ hC h=>h.more hC
section
variable{S:List (Nat×Value)}{w0 w:World}{M:List Nat}{H H':List (Nat×Obj)}{A A0 F B:Fr}{O O':List Ow}{ty:TypeId}{pos:String}{af:Array Edge}{gd:Option (Nat×Bool)}{b:Nat}{a:AS}{R:Cd->Mm->Fr->Prop}{is js:List Nat}{f:FuncId}{xs:List Operand}{at_:Array TypeId}{vs:List Value}{cap:yK}{dst:Option Nat}{x:Operand}{H1:Cd×Fr×AS->List (Nat×Obj)}{F1:Cd×Fr×AS->Fr}{O1:Cd×Fr×AS->List Ow}
theorem gK(hc:∀w,SF w (Ks [(b,dV a),(a.u,a.po)] (iS a)) [(b,dV a),(a.u,a.po)] A0 [] (iS a) w->Calls prog f ⟨vs⟩ w (jP b R a B (Ks [(b,dV a),(a.u,a.po)] (iS a)) w))
  (ha:nZ S xs=vs:=by exact Jp) (hp:plain prog f=true:=by kernel_rfl) (hH:nW H is [(b,dV a),(a.u,a.po)] H':=by exact ar) (hO:nW O js (iS a) O':=by exact ar) (hA:bV A F O' A0:=by exact bV.of (λ _ h=>Or.inr (Or.inl h)))
  (hl1:is.length=2:=by exact rfl) (hl2:js.length=3:=by exact rfl)
  (hH1:∀y,kS is [(b,dV y.2.2),(y.2.2.u,y.2.2.po)] H'=H1 y:=by intro x;simp only[kS,sX];exact rfl) (hF1:∀y,y.2.1++F=F1 y:=by intro x;exact rfl) (hO1:∀y,kS js (iS y.2.2) O'=O1 y:=by intro x;simp only[kS,sX,mW];exact rfl) :
  aW prog S (SF w0 M H A F O) ⟨dst,.call {callee:=.value (.func f),args:=⟨xs⟩,argTypes:=at_},ty,pos,af,gd⟩ (Cd×Fr×AS) (λ y=>.agg ⟨y.1.cells⟩) (λ y w=>(R y.1 y.2.2.mm (y.2.1++B)/\y.2.2.Ok/\a.fF y.2.2 y.2.1)/\SF w0 M (H1 y) A (F1 y) (O1 y) w) :=
 cM (hs:=[(b,dV a),(a.u,a.po)]) (os:=iS a) (hs':=λ y:Cd×Fr×AS=>[(b,dV y.2.2),(y.2.2.u,y.2.2.po)]) (os':=λ y=>iS y.2.2) (Fc:=λ y=>y.2.1) ha hp hc hH hO hA (λ _=>hl1) (λ _=>hl2) hH1 hF1 hO1
theorem Kc(hp:plain prog f=true)(hk:Ec b f cap vs B a.mm R)(ok:a.Ok)(hm:a.mm.iL)(hA0:∀f∈dD a.L,f∈A)(hB:∀x∈B,x∈A)(hx:ev S x=.func (.func f) ⟨cap.bd⟩ ⟨cap.cp⟩:=by exact rfl)
  (ha:nZ S xs=vs:=by exact Jp) (hH:nW H is [(b,dV a),(a.u,a.po)] H':=by exact ar) (hO:nW O js (iS a) O':=by exact ar)
  (hl1:is.length=2:=by exact rfl) (hl2:js.length=3:=by exact rfl)
  (hH1:∀y,kS is [(b,dV y.2.2),(y.2.2.u,y.2.2.po)] H'=H1 y:=by intro x;simp only[kS,sX];exact rfl) (hF1:∀y,y.2.1++F=F1 y:=by intro x;exact rfl) (hO1:∀y,kS js (iS y.2.2) O'=O1 y:=by intro x;simp only[kS,sX,mW];exact rfl) :
  aW prog S (SF w0 M H A F O) ⟨dst,.call {callee:=.value x,args:=⟨xs⟩,argTypes:=at_},ty,pos,af,gd⟩ (Cd×Fr×AS) (λ y=>.agg ⟨y.1.cells⟩) (λ y w=>(R y.1 y.2.2.mm (y.2.1++B)/\y.2.2.Ok/\a.fF y.2.2 y.2.1)/\SF w0 M (H1 y) A (F1 y) (O1 y) w) :=
 cMf (V:=λ y:Cd×Fr×AS=>.agg ⟨y.1.cells⟩) (hs:=[(b,dV a),(a.u,a.po)]) (os:=iS a) (hs':=λ y:Cd×Fr×AS=>[(b,dV y.2.2),(y.2.2.u,y.2.2.po)]) (os':=λ y=>iS y.2.2) (Fc:=λ y=>y.2.1) (A0:=A) hx ha hp (λ w hw=>hk a _ A w rfl ok hm hA0 hB hw) hH hO (bV.of λ _ h=>.inr (.inl h)) (λ _=>hl1) (λ _=>hl2) hH1 hF1 hO1
end
end
end Go.Proofs.YtdeecdfockjoiaaGreatDoor
namespace Go.Ct
open Go Go.RowKit
section
theorem SF.aAW{w0 w:World}{M:List Nat}{H:List (Nat×Obj)}{A A' F:Fr}{O:List Ow}(h:SF w0 M H A F O w)(hA:∀f∈A',f∈A):SF w0 M H A' F O w:=⟨h.st,λ f hf=>h.old f (hA f hf),h.new,h.own,h.dis⟩
abbrev AS.al(a:AS)(n:Nd)(xs:List Int)(ys:List Pr)(init:Int)(x:AX):AS:=⟨a.L++[mX n xs ys a.cs.length x],gH n.kind a.cs init,a.gen,a.acc,x.pn,x.cn,x.pc,x.cc,a.u,a.po,a.pl⟩
variable{a:AS}{v:Nv}{i init:Int}{n:Nd}{xs:List Int}{ys:List Pr}{A B B1 F:Fr}{O:List Ow}
theorem cE(r:Int):aD a.mm.nodes r=(aK (aV a.L) r).c:=(Yi _ _).symm
theorem Vh(a:AS):a.mm.nodes.length=a.L.length+2:=by show((aV a.L).map dW.c).length=_;rw[List.length_map,oA]
theorem uu{c c':Nat}{cs:List Int}(hb:oP c' c {v with main:=0,prev:=0,status:=0})(hc:c=cs.length):oP c' (gH v.kind cs i).length (fY v c):=by
 subst hc;have hcs:=eJ (k:=v.kind) (cs:=cs) (init:=i);have hb':=hb.mono (n':=c') (c':=(gH v.kind cs i).length) (Nat.le_refl _) hcs.1;refine⟨hb'.old,hb'.exp,hb'.new,hb'.br,?_,?_,?_,hb'.bm,hb'.hash⟩
 ·show(if v.kind=2 then((cs.length+1:Nat):Int) else 0)<=_;split;·rename_i hk;unfold gH;rw[if_pos (.inl hk)];simp
  ·omega
 ·show(if v.kind=3∨v.kind=5∨v.kind=6 then((cs.length+1:Nat):Int) else 0)<=_;split;·rename_i hk;unfold gH;rw[if_pos (by omega)];simp
  ·omega
 ·show(if v.kind=8 then((cs.length+1:Nat):Int) else 0)<=_;split;·rename_i hk;unfold gH;rw[if_pos (by omega)];simp
  ·omega
theorem Ub.y4{s:Mm}(h:Ub s)(hb:oP (s.nodes.length+1) s.cs.length {v with main:=0,prev:=0,status:=0})(hi:i<=s.nodes.length+1):Ub (s.push v i):=by
 have hcs:=eJ (k:=v.kind) (cs:=s.cs) (init:=i);have hl:(s.nodes++[fY v s.cs.length]).length=s.nodes.length+1:=by simp
 refine⟨λ u hu=>?_,λ u hu=>?_,by have:=h.two;show 2<=(s.nodes++[fY v s.cs.length]).length;omega⟩
 ·show oP (s.nodes++[fY v s.cs.length]).length (gH v.kind s.cs i).length u;rcases List.mem_append.1 hu with hu|hu;·exact(h.nd u hu).mono (by omega) hcs.1
  ·rw[List.mem_singleton.1 hu];exact uu (by rw[hl];exact hb) rfl
 ·show u<=((s.nodes++[fY v s.cs.length]).length:Int);have hu':u∈gH v.kind s.cs i:=hu;unfold gH at hu';split at hu'
  ·rcases List.mem_append.1 hu' with h2|h2;·have:=h.cs u h2;omega
   ·rw[List.mem_singleton.1 h2];omega
  ·have:=h.cs u hu';omega
theorem fK(a:AS)(n:Nd)(xs:List Int)(ys:List Pr)(init:Int)(x:AX):(a.al n xs ys init x).mm=a.mm.push (n.c xs ys) init:=by unfold AS.mm Mm.push;simp only[aV,List.map_cons,List.map_append,List.map_nil,List.cons_append];rfl
theorem AS.Ok.al1(ok:a.Ok)(x:AX)(hx:xs.length<=274877906944)(hy:ys.length<=274877906944)(hb:oP (a.mm.nodes.length+1) a.mm.cs.length {n.c xs ys with main:=0,prev:=0,status:=0})(hi:init<=a.mm.nodes.length+1):(a.al n xs ys init x).Ok:=by
 refine⟨λ v hv=>?_,by rw[fK];exact ok.mo.y4 hb hi⟩;rcases List.mem_append.1 hv with hv|hv;·exact ok.fit v hv
 ·rw[List.mem_singleton.1 hv];exact U7 (by omega) (by omega)
theorem AS.Ok.al{a:AS}(ok:a.Ok){n:Nd}{xs:List Int}{ys:List Pr}{init:Int}(x:AX)(hx:xs.length<=274877906944)(hy:ys.length<=274877906944)(hb:oP a.mm.nodes.length a.mm.cs.length {n.c xs ys with main:=0,prev:=0,status:=0})(hi:init<=a.mm.nodes.length+1):(a.al n xs ys init x).Ok:=ok.al1 x hx hy (hb.mono (Nat.le_succ _) (Nat.le_refl _)) hi
theorem Fl(s:Mm)(v:Nv)(i:Int):s.Le (s.push v i):=⟨⟨⟨_,rfl⟩,eJ.1⟩,rfl⟩
theorem AS.fF.al(a:AS)(n:Nd)(xs:List Int)(ys:List Pr)(init:Int)(x:AX):a.fF (a.al n xs ys init x) (mX n xs ys a.cs.length x).fr:=⟨by rw[fK];exact(Fl _ _ _).le,λ f hf=>by
 rw[qS] at hf;rcases List.mem_append.1 hf with h|h;·exact .inr (.inl h)
 ·refine .inr (.inr ?_);simpa[dD] using h⟩
theorem mM(h:∀f∈B,f∈A):∀f∈B1++B,f∈B1++A:=λ f hf=>(List.mem_append.1 hf).elim (λ h=>List.mem_append_left _ h) λ hf=>List.mem_append_right _ (h f hf)
theorem bV.vX:bV A B1 O (B1++A):=bV.of λ f hf=>(List.mem_append.1 hf).elim (λ h=>.inr (.inr (.inl h))) λ h=>.inr (.inl h)
theorem bV.l6{x:Option Addr×List Value}:bV A (x::F) O (x::A):=bV.of λ f hf=>by
 rcases List.mem_cons.1 hf with h|hf;·exact .inr (.inr (.inl (by rw[h];simp)))
 ·exact .inr (.inl hf)
theorem bV.Tq{x y:Option Addr×List Value}:bV A (x::y::F) O (x::y::A):=bV.of λ f hf=>by
 rcases List.mem_cons.1 hf with h|hf;·exact .inr (.inr (.inl (by rw[h];simp)))
 ·rcases List.mem_cons.1 hf with h|hf;·exact .inr (.inr (.inl (by rw[h];simp)))
  ·exact .inr (.inl hf)
theorem Hb{x y:Option Addr×List Value}(h:∀f∈B,f∈A):∀f∈x::y::B,f∈x::y::A:=λ f hf=>(List.mem_cons.1 hf).elim (λ h=>h▸List.mem_cons_self ..) λ hf=>(List.mem_cons.1 hf).elim (λ h=>h▸List.mem_cons_of_mem _ (List.mem_cons_self ..)) λ hf=>List.mem_cons_of_mem _ (List.mem_cons_of_mem _ (h f hf))
theorem qP{P:Program}{S:List (Nat×Value)}{d:Nat}{ty t:TypeId}{pos:String}{af:Array Edge}{gd:Option (Nat×Bool)}{w0:World}{M:List Nat}{H:List (Nat×Obj)}{z:Value}(hz:cH P t=some z)(h1:z.oneCell'=true):aW P S (St w0 M H) ⟨some d,.alloc t,ty,pos,af,gd⟩ Nat (λ b=>.pointer (some ⟨b,0,none⟩)) (λ b=>St w0 M ((b,.cells ⟨[z]⟩ t (0,0))::H)) :=
 W2 (λ w _=>by
  have e:z.cells = #[z]:=by cases z<;>simp_all[Value.cells,Value.oneCell']
  simp[execOp,Instr.alloc,Ar hz,newVar,newRow,e])
end
end Go.Ct
namespace Go.Proofs.YtdeecdfockjoiaaGreatDoor
open Go.Proofs.Tryz
open Go Go.RowKit Go.Ct
section
section
variable{D:List Nat}{A:Fr}{a:AS}{b:Nat}{w:World}
theorem wu(ok:a.Ok)(hm:a.mm.Small)(hA:∀f∈dD a.L,f∈A)(r:Int)(hr:r<=a.mm.nodes.length)(hs:SF w D [(b,dV a)] A [] (kM a) w) :
  Calls prog 340 #[.pointer (some ⟨b,0,none⟩),.int .i64 r] w λ e w'=>∃q:Option Addr×Option Addr,e=.returned (.agg ⟨((aK (aV a.L) r).at_ q.1 q.2).nd.cells⟩)/\True /\
  SF w D [(b,dV a)] [] [] (kM a++[⟨q.2,dF (aK (aV a.L) r).ys,(aK (aV a.L) r).ys.length,182,2⟩,⟨q.1,aT (aK (aV a.L) r).xs,(aK (aV a.L) r).xs.length,39,1⟩]) w':=by have h1:=hm.1;have h2:=Vh a;exact Xo (hs.aAW hA) ok.fit r (by omega) (by omega)
theorem oI{S:List (Nat×Value)}{w0:World}{M:List Nat}{H H':List (Nat×Obj)}{F:Fr}{O O':List Ow}{ty:TypeId}{pos:String}{af:Array Edge}{gd:Option (Nat×Bool)}{is js:List Nat}{recv:Operand}{xs:List Operand}{at_:Array TypeId}{dst:Option Nat}{H1:Option Addr×Option Addr->List (Nat×Obj)}{F1:Option Addr×Option Addr->Fr}{O1:Option Addr×Option Addr->List Ow}
  (r:Int) (ok:a.Ok) (hm:a.mm.Small) (hA:∀f∈dD a.L,f∈A) (hr:r<=a.mm.nodes.length) (hx:ev S recv=.iface 63 (.pointer (some ⟨b,0,none⟩)):=by exact rfl) (ha:nZ S xs=[.int .i64 r]:=by exact Jp) (hH:nW H is [(b,dV a)] H':=by exact ar) (hO:nW O js (kM a) O':=by exact ar)
  (hl1:is.length=1:=by exact rfl) (hl2:js.length=2:=by exact rfl) (hH1:∀x,kS is [(b,dV a)] H'=H1 x:=by intro x;simp only[kS,sX];exact rfl) (hF1:∀x,[]++F=F1 x:=by intro x;exact rfl)
  (hO1:∀x,[⟨x.2,dF (aK (aV a.L) r).ys,(aK (aV a.L) r).ys.length,182,2⟩,⟨x.1,aT (aK (aV a.L) r).xs,(aK (aV a.L) r).xs.length,39,1⟩]++kS js (kM a) O'=O1 x:=by intro x;simp only[kS,sX,mW,List.nil_append,List.cons_append];exact rfl) :
  aW prog S (SF w0 M H A F O) ⟨dst,.call {callee:=.invoke recv "Node",args:=⟨xs⟩,argTypes:=at_},ty,pos,af,gd⟩ (Option Addr×Option Addr) (λ q=>.agg ⟨((aK (aV a.L) r).at_ q.1 q.2).nd.cells⟩) (λ x w=>True/\SF w0 M (H1 x) A (F1 x) (O1 x) w) :=
 aBX (hs:=[(b,dV a)]) (os:=kM a) (A0:=A) (hs':=λ _=>[(b,dV a)]) (os':=λ _=>kM a) (Fc:=λ _=>[]) (Oc:=λ q=>[⟨q.2,dF (aK (aV a.L) r).ys,(aK (aV a.L) r).ys.length,182,2⟩,⟨q.1,aT (aK (aV a.L) r).xs,(aK (aV a.L) r).xs.length,39,1⟩]) hx ha (λ w=>P9 _ _ w) (λ w1 hw=>wu ok hm hA r hr hw) hH hO (bV.of λ _ h=>.inr (.inl h)) (λ _=>hl1) (λ _=>hl2) hH1 hF1 hO1
theorem mA(ok:a.Ok)(hm:a.mm.Small){n:Nd}{xs:List Int}{ys:List Pr}(init:Int)(e1:n.brN=xs.length)(e2:n.prN=ys.length)(hx:xs.length<=274877906944)(hy:ys.length<=274877906944)(hA:∀f∈[(n.brA,aT xs),(n.prA,dF ys)],f∈A)(hs:SF w D [(b,dV a)] A [] (kM a) w) :
  Calls prog 335 #[.pointer (some ⟨b,0,none⟩),n.v,.int .i64 init] w λ e w'=>∃x:AX,e=.returned (.int .i64 ((a.mm.nodes.length+1:Nat):Int))/\True/\SF w D [(b,dV (a.al n xs ys init x))] [] (mX n xs ys a.cs.length x).fr (kM (a.al n xs ys init x)) w':=by have h1:=hm.1;have h3:a.cs.length<=137438953472:=hm.2;have h2:=Vh a;rw[show a.mm.nodes.length+1=a.L.length+3 by omega];exact Aq init (hs.aAW hA) e1 e2 hx hy (by omega) (by omega)
end
end
section
abbrev gI(b:Nat)(t:oB):List Value:=[.iface 63 (.pointer (some ⟨b,0,none⟩)),.int .i64 t.root,.bool t.ro]
def cy(prev p:Int)(c:Bool)(K:Bool->Tr):Tr:=if c=true then .sJ prev p 0 K else .alloc (gr p) 0 λ f=>.sJ prev p f K
theorem nI{a:AS}(hm:a.mm.Small){x:Int}(h:x<=a.mm.cs.length):x<=9223372036854775807:=by have:=hm.2;omega
theorem pP{a:AS}(ok:a.Ok)(r:Int):oP a.mm.nodes.length a.mm.cs.length (aK (aV a.L) r).c:=by rw[<- cE];exact ok.mo.at r
section
variable{D:List Nat}{A B:Fr}{a:AS}{b:Nat}{w:World}{f:FuncId}{cap:yK}{t:oB}
variable{v p:Int}{s:Mm}{b2 b3:Nat}
theorem fg{K:Int->Tr}(hK:tJ b K s f cap B)(hv:v<=s.nodes.length)(hns:Ns (K v) s)(o:Bool):kF b 219 [pt b2,pt b3] [.bool o] (bx b3 [.int .i64 v]::bx b2 [fn f cap]::B) s (K v):=by
 intro a D A w em ok hm0 hA hB hw0;subst em;refine K2l ?_;intro hm;have hK2:=hK.more (B2:=(bx b3 [.int .i64 v]::bx b2 [fn f cap]::B)) (λ x hx=>by simp[hx]);refine enter func219 ntmps219 rfl rfl hw0 ?_;simp only[cN]
 refine K2f ?_;intro x4;refine K3r ?_;intro x7 h7;refine aM (cC λ _=>aC rf bI rf (aY _) cY rf dM) (λ _=>?_);refine aE ?_;refine bF results219 (λ w hw=>?_);exact⟨x7,rfl,h7,hw.rN⟩
theorem Bh{K:Int->Tr}(hK:tJ b K s f cap B)(hv:v<=s.nodes.length)(hns:Ns (K v) s)(o:Bool):kF b 170 [pt b2,pt b3] [.bool o] (bx b3 [.int .i64 v]::bx b2 [fn f cap]::B) s (K v):=by
 intro a D A w em ok hm0 hA hB hw0;subst em;refine K2l ?_;intro hm;have hK2:=hK.more (B2:=(bx b3 [.int .i64 v]::bx b2 [fn f cap]::B)) (λ x hx=>by simp[hx]);refine enter func170 ntmps170 rfl rfl hw0 ?_;simp only[cN]
 refine K2f ?_;intro x4;refine K3r ?_;intro x7 h7;refine aM (cC λ _=>aC rf bI rf (aY _) cY rf dM) (λ _=>?_);refine aE ?_;refine bF results170 (λ w hw=>?_);exact⟨x7,rfl,h7,hw.rN⟩
theorem Yb{K:Int->Tr}{i m:Int}(hK:tJ b K a.mm f cap B)(hi:i<=a.mm.nodes.length)(hmm:m<=a.mm.nodes.length)(hp:p<=a.mm.nodes.length)(ok:a.Ok)(hm:a.mm.Small)(hA:∀f∈dD a.L,f∈A)(hB:∀x∈B,x∈A)(hs:SF w D [(b,dV a),(a.u,a.po)] A [] (iS a) w) :
    Calls prog 180 #[.agg ⟨gI b t⟩,.int .i64 i,.int .i64 m,.int .i64 p,fn f cap] w (jP b (λ c' s' B'=>eH b (og i m p K) a.mm c' s' B') a B D w):=by
     have ni:=pP ok i;have np:=pP ok p;refine enter func180 ntmps180 rfl rfl hs ?_;simp only[cN]
     refine J0 ?_;refine bC (λ x5=>?_);refine bC (λ x9=>?_);refine aJ (λ x10=>?_);refine aE ?_;refine Ke5 ?_;refine aI (oI p ok hm hA hp) (λ x15 h15=>?_);refine nV ?_;refine aH (cC λ _=>qP (z:=.int .i64 0) (by kernel_rfl) rfl) (λ x11=>?_);refine J5 ?_;refine aL ?_;refine eO [(0,[]),(1,[]),(2,[]),(5,[]),(6,[]),(7,[]),(3,[6]),(4,[]),(8,[]),(9,[])] ?_;refine hY ?_;refine yS ?_;refine bH ?_;(refine cD (i:=7) (hq:=bU) (h:=?_));refine bE (i:=3) (hq:=(oI i ok hm hA hi)) (h:=λ x20 h20=>?_);refine jI ?_;refine bR (i:=8) (hq:=(cV (hc:=λ w1 hw=>sY _ _ _ _ _ w1))) (h:=λ x25=>?_);refine eT (i:=9) (hq:=(cC λ _=>aC rf bI rf (aY _) cY rf dM)) (h:=λ _=>?_);refine dA ?_;refine bF results180 (λ w hw=>?_);refine⟨(uK (aK (aV a.L) i).nd.main m (aK (aV a.L) p).nd.old _ _,[bx x11 [.int .i64 (aK (aV a.L) p).nd.old],bx x9 [fn f cap]],a),rfl,⟨?_,ok,(AS.fF.refl a).more (λ _ h=>(List.not_mem_nil h).elim)⟩,?_⟩
     ·refine⟨hi,hp,?_⟩;rw[cE,cE];refine⟨rfl,nI hm ni.main,np.old,_,_,rfl,by kernel_rfl,λ v s1 l hns=>?_⟩;have hns2:Ns (K (aK (aV a.L) p).nd.old) s1:=by have h:Ns (K (aD s1.nodes p).old) s1:=hns;rw[l.nd hp,cE] at h;exact h
      show Ec b _ _ _ _ s1 λ c' s' B'=>p<=s1.nodes.length/\eH b (K (aD s1.nodes p).old) s1 c' s' B'
      rw[l.nd hp,cE];have hlen:a.mm.nodes.length<=s1.nodes.length:=l.len;exact(fg (hK.le l) (by have h2:(aK (aV a.L) p).nd.old<=a.mm.nodes.length:=np.old;omega) hns2 v).more (λ _ h=>h) λ c m C C2 hC h=>⟨by omega,h.more hC⟩
     ·exact((hw.bS (.tail (.tail .head))).bS .head).rI
theorem qX{K:Int->Tr}{s:Int}(ht:t.root<=9223372036854775807)(hK:tJ b K a.mm f cap B)(hv:v<=a.mm.nodes.length)(ok:a.Ok)(hm:a.mm.Small)(hA:∀f∈dD a.L,f∈A)(hB:∀x∈B,x∈A)(hs:SF w D [(b,dV a),(a.u,a.po)] A [] (iS a) w) :
  Calls prog 134 #[.agg ⟨gI b t⟩,.int .i64 v,.int .i64 s,fn f cap] w (jP b (λ c' s' B'=>eH b (tR t v s K) a.mm c' s' B') a B D w):=by
 have nv:=pP ok v;refine enter func134 ntmps134 rfl rfl hs ?_;simp only[cN]
 refine J0 ?_;refine bC (λ x4=>?_);refine bC (λ x7=>?_);refine aJ (λ x8=>?_);refine aE ?_;refine Ke5 ?_;refine aI (oI v ok hm hA hv) (λ x14 h14=>?_);refine aJ (λ x9=>?_);refine J5 ?_;refine jN ?_;refine aH (cC λ _=>qP (z:=.int .i64 0) (by kernel_rfl) rfl) (λ x10=>?_);refine J5 ?_;refine gQ ?_;refine E2 ?_;refine aX (λ c18=>?_) (λ c18=>?_)
 ·refine eC ?_;refine J3 ?_;refine J5 ?_;refine J0 ?_;refine aQ ?_;refine Kd0 ?_;refine bO ?_;refine K2m ?_;refine aH (cV (hc:=λ w1 hw=>sY _ _ _ _ _ w1)) (λ x27=>?_);refine aM (cC λ _=>aC rf bI rf (aY _) cY rf dM) (λ _=>?_);refine aE ?_;refine bF results134 (λ w hw=>?_);refine⟨(uK t.root v (aK (aV a.L) v).nd.new _ _,[bx x10 [.int .i64 (aK (aV a.L) v).nd.new],bx x7 [fn f cap]],a),rfl,⟨?_,ok,(AS.fF.refl a).more (λ _ h=>(List.not_mem_nil h).elim)⟩,?_⟩
  ·refine⟨hv,?_⟩;rw[cE];have e:(if s=1 then(aK (aV a.L) v).c.new else(aK (aV a.L) v).c.old)=(aK (aV a.L) v).nd.new:=by exact if_pos (by omega)
   dsimp only;rw[e];refine⟨rfl,ht,nv.new,_,_,rfl,by kernel_rfl,λ o s1 l hns=>?_⟩;have hlen:a.mm.nodes.length<=s1.nodes.length:=l.len;exact Bh (hK.le l) (by have h2:(aK (aV a.L) v).nd.new<=a.mm.nodes.length:=nv.new;omega) hns o
  ·exact((hw.bS (.tail (.tail (.tail .head)))).bS .head).rI
 ·refine Kc4 ?_;refine aQ ?_;refine Kd0 ?_;refine bO ?_;refine K2m ?_;refine aH (cV (hc:=λ w1 hw=>sY _ _ _ _ _ w1)) (λ x27=>?_);refine aM (cC λ _=>aC rf bI rf (aY _) cY rf dM) (λ _=>?_);refine aE ?_;refine bF results134 (λ w hw=>?_);refine⟨(uK t.root v (aK (aV a.L) v).nd.old _ _,[bx x10 [.int .i64 (aK (aV a.L) v).nd.old],bx x7 [fn f cap]],a),rfl,⟨?_,ok,(AS.fF.refl a).more (λ _ h=>(List.not_mem_nil h).elim)⟩,?_⟩
  ·refine⟨hv,?_⟩;rw[cE];have e:(if s=1 then(aK (aV a.L) v).c.new else(aK (aV a.L) v).c.old)=(aK (aV a.L) v).nd.old:=by exact if_neg (by omega)
   dsimp only;rw[e];refine⟨rfl,ht,nv.old,_,_,rfl,by kernel_rfl,λ o s1 l hns=>?_⟩;have hlen:a.mm.nodes.length<=s1.nodes.length:=l.len;exact Bh (hK.le l) (by have h2:(aK (aV a.L) v).nd.old<=a.mm.nodes.length:=nv.old;omega) hns o
  ·exact((hw.bS (.tail (.tail (.tail .head)))).bS .head).rI
theorem Kj{cap:List Value}{K:Bool->Tr}{prev:Int}{c:Bool}(hK:O4 b K a.mm f cap B)(hpr:prev<=a.mm.cs.length)(hp:p<=a.mm.nodes.length)(ok:a.Ok)(hm:a.mm.Small)(hA:∀f∈dD a.L,f∈A)(hB:∀x∈B,x∈A)(hs:SF w D [(b,dV a),(a.u,a.po)] A [] (iS a) w) :
  Calls prog 183 #[.agg ⟨gI b t⟩,.int .i64 prev,.int .i64 p,.bool c,fn f cap] w (jP b (λ c' s' B'=>eH b (cy prev p c K) a.mm c' s' B') a B D w):=by
 refine enter func183 ntmps183 rfl rfl hs ?_;simp only[cN];refine J0 ?_;refine bC (λ x5=>?_);refine aJ (λ x10=>?_);refine Ke3 ?_;refine aE ?_;refine aX (λ c12=>?_) (λ c12=>?_);·refine lV ?_;refine aB ?_;refine aH (cV (hc:=λ w1 hw=>sY _ _ _ _ _ w1)) (λ x16=>?_);refine aM (cC λ _=>aC rf bI rf (aY _) cY rf dM) (λ _=>?_);refine aE ?_;refine bF results183 (λ w hw=>?_);refine⟨(uK prev p 0 f cap,[],a),rfl,⟨?_,ok,AS.fF.refl a⟩,hw.rI⟩;unfold cy;rw[if_pos (by assumption)];exact⟨rfl,nI hm hpr,fN _,f,cap,rfl,hK.1,λ v s1 l hn=>hK.2 v s1 l hn⟩
 ·refine lL ?_;refine eO [(0,[]),(1,[]),(2,[]),(4,[]),(5,[]),(3,[1]),(6,[]),(7,[])] ?_;refine hY ?_;refine aP ?_;refine cD (i:=4) (hq:=(jU rf)) (h:=?_);refine aP ?_;refine bR (i:=3) (hq:=(cV (hc:=λ w1 hw=>oh p w1))) (h:=λ x20=>?_);refine bE (i:=6) (hq:=(Ju (V:=λ _:AX=>.int .i64 ((a.mm.nodes.length+1:Nat):Int)) (hs:=[(b,dV a)]) (os:=kM a) (A0:=[(none,aT []),(none,dF [])]) (hs':=λ x=>[(b,dV (a.al ({Nd.zero with kind:=7,old:=p}:Nd) [] [] 0 x))]) (os':=λ x=>kM (a.al ({Nd.zero with kind:=7,old:=p}:Nd) [] [] 0 x)) (Fc:=λ x=>(mX ({Nd.zero with kind:=7,old:=p}:Nd) [] [] a.cs.length x).fr) (hm:=λ w=>fP _ _ _ w) (hc:=λ w1 hw=>mA ok hm 0 rfl rfl (by simp) (by simp) (λ f hf=>hf) hw))) (h:=λ x23 h23=>?_);refine J7 ?_;refine lV ?_;refine Df ?_;refine aH (cV (hc:=λ w1 hw=>sY _ _ _ _ _ w1)) (λ x28=>?_);refine aM (cC λ _=>aC rf bI rf (aY _) cY rf dM) (λ _=>?_);refine aE ?_;refine bF results183 (λ w hw=>?_);refine⟨(uK prev p ((a.mm.nodes.length+1:Nat):Int) f cap,(mX ({Nd.zero with kind:=7,old:=p}:Nd) [] [] a.cs.length x23).fr,a.al ({Nd.zero with kind:=7,old:=p}:Nd) [] [] 0 x23),rfl,⟨?_,ok.al x23 (by simp) (by simp) ⟨?_,fN _,fN _,(λ r hr=>nomatch hr),fN _,fN _,fN _,⟨0,rfl,by decide⟩,⟨0,rfl,by decide⟩⟩ (by omega),AS.fF.al a _ _ _ _ x23⟩,hw.rI⟩
  ·unfold cy;rw[if_neg (by simp_all)];have hl:=Fl a.mm (gr p) 0;refine⟨(by show _=_;rw[fK];rfl),?_,?_,f,cap,rfl,hK.1,λ v s1 l hn=>(hK.2 v s1 (by rw[fK] at l;exact hl.trans l) hn).more (λ x hx=>List.mem_append_right _ hx) λ _ _ _ _ hC h=>h.more hC⟩
   ·have:=hl.cl;have:=hm.2;omega
   ·show _<=(((a.mm.nodes++[_]).length:Nat):Int);rw[List.length_append];simp
  ·show p<=_;exact hp
end
end
section
section
variable{D:List Nat}{A B:Fr}{a:AS}{b:Nat}{w:World}{f:FuncId}{cap:yK}{t:oB}
variable{v x:Int}{s:Mm}{b1 b2 b3 b0:Nat}{nd:Nd}
theorem o0{K:Int->Tr}(ht:t.root<=9223372036854775807)(hK:tJ b K s f cap B)(hv:v<=s.nodes.length):kF b 224 [pt b1,pt b2,pt b3] [.int .i64 x] (bx b1 (gI b t)::bx b2 [iv v]::bx b3 [fn f cap]::B) s (tR t v x K):=by
 intro a D A w em ok hm0 hA hB hw0;subst em;refine K2l ?_;intro hm;have hK2:=hK.more (B2:=(bx b1 (gI b t)::bx b2 [iv v]::bx b3 [fn f cap]::B)) (λ x hx=>by simp[hx]);refine enter func224 ntmps224 rfl rfl hw0 ?_;simp only[cN]
 refine J0 ?_;refine aJ (λ x5=>?_);refine Kb4 ?_;refine K1d ?_;refine aI (gK (λ w1 hw=>qX ht hK2 hv ok hm hA hB hw)) (λ x10 h10=>?_);refine aM (cC λ _=>aC rf bI rf (aY _) cY rf dM) (λ _=>?_);refine aE ?_;refine bF results224 (λ w hw=>?_);exact⟨x10,rfl,h10,hw.rN⟩
theorem la{K:Int->Tr}(ht:t.root<=9223372036854775807)(hK:tJ b K s f cap B)(hv:v<=s.nodes.length)(hd:nd.status<=9223372036854775807)(o:Bool):kF b 223 [pt b0,pt b1,pt b2,pt b3] [.bool o] (bx b0 (nd.cells:List Value)::bx b1 (gI b t)::bx b2 [iv v]::bx b3 [fn f cap]::B) s (.load nd.status λ s=>tR t v s K):=by
 intro a D A w em ok hm0 hA hB hw0;subst em;refine K2l ?_;intro hm;have hK2:=hK.more (B2:=(bx b0 (nd.cells:List Value)::bx b1 (gI b t)::bx b2 [iv v]::bx b3 [fn f cap]::B)) (λ x hx=>by simp[hx]);refine enter func223 ntmps223 rfl rfl hw0 ?_;simp only[cN]
 refine J0 ?_;refine aJ (λ x6=>?_);refine Kb4 ?_;refine K4d ?_;refine aH (cV (hc:=λ w1 hw=>nE _ _ _ w1)) (λ x10=>?_);refine aM (cC λ _=>aC rf bI rf (aY _) cY rf dM) (λ _=>?_);refine aE ?_;refine bF results223 (λ w hw=>?_);exact⟨(nF nd.status _ _,[],a),rfl,⟨⟨rfl,hd,_,_,rfl,by kernel_rfl,λ x s1 l hx _=>(o0 (b1:=b1) (b2:=b2) (b3:=b3) ht (hK.le l) E0f).mr (λ y hy=>List.mem_cons_of_mem _ hy)⟩,ok,AS.fF.refl a⟩,hw.rI⟩
theorem jv{K:Int->Tr}(ht:t.root<=9223372036854775807)(hK:tJ b K s f cap B)(hv:v<=s.nodes.length)(hd:nd.status<=9223372036854775807)(hn:(aD s.nodes v).status=nd.status):kF b 222 [pt b1,pt b2,pt b3,pt b0] [.int .i64 x] (bx b1 (gI b t)::bx b2 [iv v]::bx b3 [fn f cap]::bx b0 (nd.cells:List Value)::B) s (if x=0 then .node v λ n=>.sJ n.status 0 2 λ _=>.node v λ n=>.load n.status λ s=>tR t v s K else tR t v x K):=by
 intro a D A w em ok hm0 hA hB hw0;subst em;refine K2l ?_;intro hm;have hK2:=hK.more (B2:=(bx b1 (gI b t)::bx b2 [iv v]::bx b3 [fn f cap]::bx b0 (nd.cells:List Value)::B)) (λ x hx=>by simp[hx]);refine enter func222 ntmps222 rfl rfl hw0 ?_;simp only[cN]
 refine J0 ?_;refine aJ (λ x6=>?_);refine Ke3 ?_;refine Kc0 ?_;refine aX (λ c8=>?_) (λ c8=>?_);·refine J0 ?_;refine K1d ?_;refine aI (gK (λ w1 hw=>qX ht hK2 hv ok hm hA hB hw)) (λ x13 h13=>?_);refine aM (cC λ _=>aC rf bI rf (aY _) cY rf dM) (λ _=>?_);refine aE ?_;refine bF results222 (λ w hw=>?_);refine⟨x13,rfl,⟨?_,h13.2⟩,hw.rN⟩;rw[if_neg (by omega)];exact h13.1
 ·refine Kc4 ?_;refine K4d ?_;refine aH (cV (hc:=λ w1 hw=>sY _ _ _ _ _ w1)) (λ x17=>?_);refine aM (cC λ _=>aC rf bI rf (aY _) cY rf dM) (λ _=>?_);refine aE ?_;refine bF results222 (λ w hw=>?_);refine⟨(uK nd.status 0 2 _ _,[],a),rfl,⟨?_,ok,AS.fF.refl a⟩,hw.rI⟩;rw[if_pos (by omega)];refine⟨hv,?_⟩;dsimp only;rw[hn];refine⟨rfl,hd,by have:=ok.mo.two;omega,_,_,rfl,by kernel_rfl,λ o s1 l _=>?_⟩;have hlen:a.mm.nodes.length<=s1.nodes.length:=l.len;show Ec b _ _ _ _ s1 λ c' s' B'=>v<=s1.nodes.length/\eH b (.load (aD s1.nodes v).status λ s=>tR t v s K) s1 c' s' B'
  rw[l.nd hv,hn];exact(la (b0:=b0) (b1:=b1) (b2:=b2) (b3:=b3) (nd:=nd) ht (hK.le l) (by omega) hd o).more (λ y hy=>by
  simp only[List.mem_cons,List.append_eq,List.nil_append] at hy ⊢;rcases hy with h|h|h|h|h<;>simp[h]) λ c m C C2 hC h=>⟨by omega,h.more hC⟩
theorem mg{K:Int->Tr}(ht:t.root<=9223372036854775807)(hK:tJ b K s f cap B)(hv:v<=s.nodes.length)(hns:(aD s.nodes v).kind=2->Ns (K v) s):kF b 221 [pt b1,pt b3] [.int .i64 v] (bx b1 (gI b t)::bx b3 [fn f cap]::B) s (.node v λ n=>if n.kind=2 then K v else .node v λ n=>.load n.status λ s=>if s=0 then .node v λ n=>.sJ n.status 0 2 λ _=>.node v λ n=>.load n.status λ s=>tR t v s K else tR t v s K):=by
 intro a D A w em ok hm0 hA hB hw0;subst em;refine K2l ?_;intro hm;have hK2:=hK.more (B2:=(bx b1 (gI b t)::bx b3 [fn f cap]::B)) (λ x hx=>by simp[hx]);have nv:=pP ok v;refine enter func221 ntmps221 rfl rfl hw0 ?_;simp only[cN]
 refine K3f ?_;intro x3;refine K3s ?_;intro x4 x9 h9 x5;refine aX (λ c12=>?_) (λ c12=>?_);·refine J0 ?_;refine aA (fG b3 [fn f cap] 0 hB rfl) rfl ?_;refine bO ?_;refine aI (Kc hK2.1 (hK2.2 v a.mm (Mm.Le.refl _) hv (hns (by rw[cE];assumption))) ok hm0 hA hB) (λ x15 h15=>?_);refine aM (cC λ _=>aC rf bI rf (aY _) cY rf dM) (λ _=>?_);refine aE ?_;refine bF results221 (λ w hw=>?_);refine⟨x15,rfl,⟨⟨hv,?_⟩,h15.2⟩,hw.rN⟩;rw[cE];dsimp only;rw[if_pos (by assumption)];exact h15.1
 ·refine bG ?_;refine jN ?_;refine K2m ?_;refine aH (cV (hc:=λ w1 hw=>nE _ _ _ w1)) (λ x19=>?_);refine aM (cC λ _=>aC rf bI rf (aY _) cY rf dM) (λ _=>?_);refine aE ?_;refine bF results221 (λ w hw=>?_);refine⟨(nF (aK (aV a.L) v).nd.status _ _,[bx x5 (((aK (aV a.L) v).at_ x9.1 x9.2).nd.cells:List Value),bx x3 [iv v]],a),rfl,⟨⟨hv,?_⟩,ok,(AS.fF.refl a).more (λ _ h=>(List.not_mem_nil h).elim)⟩,?_⟩
  ·rw[cE];dsimp only;rw[if_neg (by assumption)];refine⟨hv,?_⟩;rw[cE];refine⟨rfl,nI hm nv.status,_,_,rfl,by kernel_rfl,λ x s1 l hx _=>?_⟩;have hlen:a.mm.nodes.length<=s1.nodes.length:=l.len
   exact(jv (b0:=x5) (b1:=b1) (b2:=x3) (b3:=b3) (nd:=((aK (aV a.L) v).at_ x9.1 x9.2).nd) ht (hK.le l) (by omega) (nI hm nv.status) (by rw[l.nd hv,cE];rfl)).mr (λ y hy=>by
   simp only[List.mem_cons,List.append_eq,List.nil_append,List.mem_append,List.not_mem_nil,or_false] at hy ⊢;rcases hy with h|h|h|h|h<;>simp[h])
  ·exact((hw.bS (.tail (.tail .head))).bS .head).rI
theorem tu{K:Int->Tr}(ht:t.root<=9223372036854775807)(hK:tJ b K a.mm f cap B)(ok:a.Ok)(hm:a.mm.Small)(hA:∀f∈dD a.L,f∈A)(hB:∀x∈B,x∈A)(hs:SF w D [(b,dV a),(a.u,a.po)] A [] (iS a) w) :
  Calls prog 184 #[.agg ⟨gI b t⟩,fn f cap] w (jP b (λ c' s' B'=>eH b (m6 t K) a.mm c' s' B') a B D w):=by refine enter func184 ntmps184 rfl rfl hs ?_;simp only[cN];refine K1u ?_;intro x2 x3 x4 x9;refine aM (cC λ _=>aC rf bI rf (aY _) cY rf dM) (λ _=>?_);refine aE ?_;refine bF results184 (λ w hw=>?_);refine⟨(nF t.root _ _,[bx x2 (gI b t),bx x3 [fn f cap]],a),rfl,⟨⟨rfl,ht,_,_,rfl,by kernel_rfl,λ v s1 l hv hns=>mg (b1:=x2) (b3:=x3) ht (hK.le l) hv (λ k=>by have h:Ns (if(aD s1.nodes v).kind=2 then K v else _) s1:=hns;rw[if_pos k] at h;exact h)⟩,ok,(AS.fF.refl a).more (λ _ h=>(List.not_mem_nil h).elim)⟩,?_⟩;exact((hw.bS (.tail .head)).bS (.tail .head)).rI
end
end
end Go.Proofs.YtdeecdfockjoiaaGreatDoor

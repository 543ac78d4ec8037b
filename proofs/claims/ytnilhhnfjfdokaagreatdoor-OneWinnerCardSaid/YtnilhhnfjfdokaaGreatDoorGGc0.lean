/- Calls with an arena; loads out of captured boxes. -/
import Derived.Test.YtnilhhnfjfdokaaGreatDoorGTt1
import Derived.Test.YtnilhhnfjfdokaaGreatDoorGNode3

set_option linter.unusedSimpArgs false
set_option linter.unusedVariables false
namespace Go.Ct
section
open Go Go.RowKit
abbrev bx(b:Nat)(cs:List Value):Option Addr×List Value:=(some ⟨b,0,none⟩,cs)
abbrev pt(b:Nat):Value:=.pointer (some ⟨b,0,none⟩)
abbrev fn(f:FuncId)(cap:wN):Value:=.func (.func f) ⟨cap.bd⟩ ⟨cap.cp⟩
abbrev iv(n:Int):Value:=.int .i64 n
theorem Qn{α:Type}{l l' xs:List α}{is:List Nat}(h:kX l is xs l':=by(repeat (first|exact kX.nil|(apply kX.cons;(focus ((repeat (first|exact wK.head|apply wK.tail));done));simp only[nW])));first|done|fail):kX l is xs l':=h
theorem Uu{S:List (Nat×Value)}{xs:List Operand}{vs:List Value}(h:lD S xs=vs:=by(repeat (first|exact cD _|(apply bK;focus ((conv=>{lhs;whnf});try exact rfl))));first|done|fail):lD S xs=vs:=h
section
variable{w0 w:World}{M:List Nat}{H H':List (Nat×Obj)}{A F:Fr}{O O':List Ow}
theorem SF.rI(h:SF w0 M H A F O w)(hH:H'.Sublist H:=by repeat (first|exact List.Sublist.refl _|apply List.Sublist.cons))(hO:O'.Sublist O:=by repeat (first|exact List.Sublist.refl _|apply List.Sublist.cons)):SF w0 M H' [] F O' w:=h.ret hH bL.all hO
theorem SF.rN(h:SF w0 M H A (F++[]) O w)(hH:H'.Sublist H:=by repeat (first|exact List.Sublist.refl _|apply List.Sublist.cons))(hO:O'.Sublist O:=by repeat (first|exact List.Sublist.refl _|apply List.Sublist.cons)):SF w0 M H' [] F O' w:=h.ret hH (bL.dH λ f hf=>by simpa using hf) hO
variable{P:Program}{S:List (Nat×Value)}{d:Nat}{ty t:TypeId}{pos:String}{af:Array Edge}{gd:Option (Nat×Bool)}{x:Operand}{v:Value}{vs:List Value}{B:Fr}
theorem iG(b:Nat)(cs:List Value)(q:Nat)(hB:∀x∈B,x∈A)(hq:cs[q]?=some v)(hx:ev S x=.pointer (some ⟨b,q,none⟩):=by exact rfl)(ht:one P t=true:=by first|exact Es rfl|kernel_rfl)(hm:bx b cs∈B:=by simp):aG P S (SF w0 M H A F O) ⟨some d,.load t x,ty,pos,af,gd⟩ v :=
 bO (a:=some ⟨b,0,none⟩) (q:=q) (hx.trans (by simp[cU,dY])) ht (.old (mV.gE (hB _ hm))) hq
theorem Jz(b:Nat)(cs:List Value)(q k:Nat)(hB:∀x∈B,x∈A)(hv:(cs.drop q).take k=vs)(hl:vs.length=k)(hx:ev S x=.pointer (some ⟨b,q,none⟩):=by exact rfl)(ht:gX P t k=true:=by exact cY)(hm:bx b cs∈B:=by simp):aG P S (SF w0 M H A F O) ⟨some d,.load t x,ty,pos,af,gd⟩ (.agg ⟨vs⟩) :=
 Cn (a:=some ⟨b,0,none⟩) (q:=q) (hx.trans (by simp[cU,dY])) ht (.old (mV.gE (hB _ hm))) hv hl
end
end
end Go.Ct
namespace Go.Proofs.YtnilhhnfjfdokaaGreatDoor
section
open Go Go.RowKit Go.Ct
abbrev kL(b:Nat)(f:FuncId)(cap:wN)(arg:List Value)(B:Fr)(s:Mm)(T:Tr):Prop:=yK b f cap arg B s λ c' s' B'=>fN b T s c' s' B'
theorem yK.mr{b:Nat}{f:FuncId}{cap:wN}{arg:List Value}{B B2:Fr}{s:Mm}{T:Tr}(h:kL b f cap arg B s T)(hb:∀x∈B,x∈B2):kL b f cap arg B2 s T:=h.more hb λ _ _ _ _ hC h=>h.more hC
section
variable{S:List (Nat×Value)}{w0 w:World}{M:List Nat}{H H':List (Nat×Obj)}{A A0 F B:Fr}{O O':List Ow}{ty:TypeId}{pos:String}{af:Array Edge}{gd:Option (Nat×Bool)}{b:Nat}{a:AS}{R:Cd->Mm->Fr->Prop}{is js:List Nat}{f:FuncId}{xs:List Operand}{at_:Array TypeId}{vs:List Value}{cap:wN}{dst:Option Nat}{x:Operand}{H1:Cd×Fr×AS->List (Nat×Obj)}{F1:Cd×Fr×AS->Fr}{O1:Cd×Fr×AS->List Ow}
theorem kV(hc:∀w,SF w (Ks [(b,eN a),(a.u,a.po)] (fD a)) [(b,eN a),(a.u,a.po)] A0 [] (fD a) w->Calls Tryz.prog f ⟨vs⟩ w (mS b R a B (Ks [(b,eN a),(a.u,a.po)] (fD a)) w))
  (ha:lD S xs=vs:=by exact Uu) (hp:plain Tryz.prog f=true:=by kernel_rfl) (hH:kX H is [(b,eN a),(a.u,a.po)] H':=by exact Qn) (hO:kX O js (fD a) O':=by exact Qn) (hA:cA A F O' A0:=by exact cA.of (λ _ h=>Or.inr (Or.inl h)))
  (hl1:is.length=2:=by exact rfl) (hl2:js.length=2:=by exact rfl)
  (hH1:∀y,iR is [(b,eN y.2.2),(y.2.2.u,y.2.2.po)] H'=H1 y:=by intro x;simp only[iR,oY];exact rfl) (hF1:∀y,y.2.1++F=F1 y:=by intro x;exact rfl) (hO1:∀y,iR js (fD y.2.2) O'=O1 y:=by intro x;simp only[iR,oY,mW];exact rfl) :
  aQ Tryz.prog S (SF w0 M H A F O) ⟨dst,.call {callee:=.value (.func f),args:=⟨xs⟩,argTypes:=at_},ty,pos,af,gd⟩ (Cd×Fr×AS) (λ y=>.agg ⟨y.1.cells⟩) (λ y w=>(R y.1 y.2.2.mm (y.2.1++B)/\y.2.2.Ok/\a.fG y.2.2 y.2.1)/\SF w0 M (H1 y) A (F1 y) (O1 y) w) :=
 cM (hs:=[(b,eN a),(a.u,a.po)]) (os:=fD a) (hs':=λ y:Cd×Fr×AS=>[(b,eN y.2.2),(y.2.2.u,y.2.2.po)]) (os':=λ y=>fD y.2.2) (Fc:=λ y=>y.2.1) ha hp hc hH hO hA (λ _=>hl1) (λ _=>hl2) hH1 hF1 hO1
theorem Fs(hp:plain Tryz.prog f=true)(hk:yK b f cap vs B a.mm R)(ok:a.Ok)(hm:a.mm.jL)(hA0:∀f∈dV a.L,f∈A)(hB:∀x∈B,x∈A)(hx:ev S x=.func (.func f) ⟨cap.bd⟩ ⟨cap.cp⟩:=by exact rfl)
  (ha:lD S xs=vs:=by exact Uu) (hH:kX H is [(b,eN a),(a.u,a.po)] H':=by exact Qn) (hO:kX O js (fD a) O':=by exact Qn)
  (hl1:is.length=2:=by exact rfl) (hl2:js.length=2:=by exact rfl)
  (hH1:∀y,iR is [(b,eN y.2.2),(y.2.2.u,y.2.2.po)] H'=H1 y:=by intro x;simp only[iR,oY];exact rfl) (hF1:∀y,y.2.1++F=F1 y:=by intro x;exact rfl) (hO1:∀y,iR js (fD y.2.2) O'=O1 y:=by intro x;simp only[iR,oY,mW];exact rfl) :
  aQ Tryz.prog S (SF w0 M H A F O) ⟨dst,.call {callee:=.value x,args:=⟨xs⟩,argTypes:=at_},ty,pos,af,gd⟩ (Cd×Fr×AS) (λ y=>.agg ⟨y.1.cells⟩) (λ y w=>(R y.1 y.2.2.mm (y.2.1++B)/\y.2.2.Ok/\a.fG y.2.2 y.2.1)/\SF w0 M (H1 y) A (F1 y) (O1 y) w) :=
 oe (V:=λ y:Cd×Fr×AS=>.agg ⟨y.1.cells⟩) (hs:=[(b,eN a),(a.u,a.po)]) (os:=fD a) (hs':=λ y:Cd×Fr×AS=>[(b,eN y.2.2),(y.2.2.u,y.2.2.po)]) (os':=λ y=>fD y.2.2) (Fc:=λ y=>y.2.1) (A0:=A) hx ha hp (λ w hw=>hk a _ A w rfl ok hm hA0 hB hw) hH hO (cA.of λ _ h=>.inr (.inl h)) (λ _=>hl1) (λ _=>hl2) hH1 hF1 hO1
end
end

/- Procedures of the program as codes: calls of the arena through the interface. -/
end Go.Proofs.YtnilhhnfjfdokaaGreatDoor
namespace Go.Ct
section
open Go Go.RowKit
theorem SF.me{w0 w:World}{M:List Nat}{H:List (Nat×Obj)}{A A' F:Fr}{O:List Ow}(h:SF w0 M H A F O w)(hA:∀f∈A',f∈A):SF w0 M H A' F O w:=⟨h.st,λ f hf=>h.old f (hA f hf),h.new,h.own,h.dis⟩
abbrev AS.al(a:AS)(n:Nd)(xs:List Int)(ys:List Pr)(init:Int)(x:AX):AS:=⟨a.L++[pQ n xs ys a.cs.length x],mR n.kind a.cs init,a.gen,a.acc,x.pn,x.cn,x.pc,x.cc,a.u,a.po⟩
theorem eJ{a:AS}(r:Int):bU a.mm.nodes r=(aZ (cN a.L) r).c:=(Yd _ _).symm
theorem Vv(a:AS):a.mm.nodes.length=a.L.length+2:=by show((cN a.L).map eY.c).length=_;rw[List.length_map,lC]
theorem Zx{c c':Nat}{v:Nv}{i:Int}{cs:List Int}(hb:uJ c' c {v with main:=0,prev:=0,status:=0})(hc:c=cs.length):uJ c' (mR v.kind cs i).length (eO v c):=by
 subst hc
 have hcs:=nC (k:=v.kind) (cs:=cs) (init:=i)
 have hb':=hb.mono (n':=c') (c':=(mR v.kind cs i).length) (Nat.le_refl _) hcs.1
 refine⟨hb'.old,hb'.exp,hb'.new,hb'.br,?_,?_,?_,hb'.bm,hb'.hash⟩
 ·show(if v.kind=2 then((cs.length+1:Nat):Int) else 0)<=_
  split
  ·rename_i hk;unfold mR;rw[if_pos (.inl hk)];simp
  ·omega
 ·show(if v.kind=3∨v.kind=5∨v.kind=6 then((cs.length+1:Nat):Int) else 0)<=_
  split
  ·rename_i hk;unfold mR;rw[if_pos (by omega)];simp
  ·omega
 ·show(if v.kind=8 then((cs.length+1:Nat):Int) else 0)<=_
  split
  ·rename_i hk;unfold mR;rw[if_pos (by omega)];simp
  ·omega
theorem Sm.m8{s:Mm}(h:Sm s){v:Nv}{i:Int}(hb:uJ (s.nodes.length+1) s.cs.length {v with main:=0,prev:=0,status:=0})(hi:i<=s.nodes.length+1):Sm (s.push v i):=by
 have hcs:=nC (k:=v.kind) (cs:=s.cs) (init:=i)
 have hl:(s.nodes++[eO v s.cs.length]).length=s.nodes.length+1:=by simp
 refine⟨λ u hu=>?_,λ u hu=>?_,by have:=h.two;show 2<=(s.nodes++[eO v s.cs.length]).length;omega⟩
 ·show uJ (s.nodes++[eO v s.cs.length]).length (mR v.kind s.cs i).length u
  rcases List.mem_append.1 hu with hu|hu
  ·exact(h.nd u hu).mono (by omega) hcs.1
  ·rw[List.mem_singleton.1 hu]
   exact Zx (by rw[hl];exact hb) rfl
 ·show u<=((s.nodes++[eO v s.cs.length]).length:Int)
  have hu':u∈mR v.kind s.cs i:=hu
  unfold mR at hu'
  split at hu'
  ·rcases List.mem_append.1 hu' with h2|h2
   ·have:=h.cs u h2;omega
   ·rw[List.mem_singleton.1 h2];omega
  ·have:=h.cs u hu';omega
theorem jV(a:AS)(n:Nd)(xs:List Int)(ys:List Pr)(init:Int)(x:AX):(a.al n xs ys init x).mm=a.mm.push (n.c xs ys) init:=by
 unfold AS.mm Mm.push
 simp only[cN,List.map_cons,List.map_append,List.map_nil,List.cons_append]
 rfl
theorem AS.Ok.ru{a:AS}(ok:a.Ok){n:Nd}{xs:List Int}{ys:List Pr}{init:Int}(x:AX)(hx:xs.length<=274877906944)(hy:ys.length<=274877906944)(hb:uJ (a.mm.nodes.length+1) a.mm.cs.length {n.c xs ys with main:=0,prev:=0,status:=0})(hi:init<=a.mm.nodes.length+1):(a.al n xs ys init x).Ok:=by
 refine⟨λ v hv=>?_,by rw[jV];exact ok.mo.m8 hb hi⟩
 rcases List.mem_append.1 hv with hv|hv
 ·exact ok.fit v hv
 ·rw[List.mem_singleton.1 hv];exact Us (by omega) (by omega)
theorem AS.Ok.al{a:AS}(ok:a.Ok){n:Nd}{xs:List Int}{ys:List Pr}{init:Int}(x:AX)(hx:xs.length<=274877906944)(hy:ys.length<=274877906944)(hb:uJ a.mm.nodes.length a.mm.cs.length {n.c xs ys with main:=0,prev:=0,status:=0})(hi:init<=a.mm.nodes.length+1):(a.al n xs ys init x).Ok:=ok.ru x hx hy (hb.mono (Nat.le_succ _) (Nat.le_refl _)) hi
theorem On(s:Mm)(v:Nv)(i:Int):s.Le (s.push v i):=⟨⟨⟨_,rfl⟩,nC.1⟩,rfl⟩
theorem AS.fG.al(a:AS)(n:Nd)(xs:List Int)(ys:List Pr)(init:Int)(x:AX):a.fG (a.al n xs ys init x) (pQ n xs ys a.cs.length x).fr:=⟨by rw[jV];exact(On _ _ _).le,λ f hf=>by
 rw[yM] at hf
 rcases List.mem_append.1 hf with h|h
 ·exact .inr (.inl h)
 ·refine .inr (.inr ?_)
  simpa[dV] using h⟩
theorem uH{A B B1:Fr}(h:∀f∈B,f∈A):∀f∈B1++B,f∈B1++A:=λ f hf=>(List.mem_append.1 hf).elim (λ h=>List.mem_append_left _ h) λ hf=>List.mem_append_right _ (h f hf)
theorem cA.Gm{A B1:Fr}{O:List Ow}:cA A B1 O (B1++A):=cA.of λ f hf=>(List.mem_append.1 hf).elim (λ h=>.inr (.inr (.inl h))) λ h=>.inr (.inl h)
theorem cA.V4{A F:Fr}{O:List Ow}{x y:Option Addr×List Value}:cA A (x::y::F) O (x::y::A):=cA.of λ f hf=>by
 rcases List.mem_cons.1 hf with h|hf
 ·exact .inr (.inr (.inl (by rw[h];simp)))
 ·rcases List.mem_cons.1 hf with h|hf
  ·exact .inr (.inr (.inl (by rw[h];simp)))
  ·exact .inr (.inl hf)
theorem By{A B:Fr}{x y:Option Addr×List Value}(h:∀f∈B,f∈A):∀f∈x::y::B,f∈x::y::A:=λ f hf=>(List.mem_cons.1 hf).elim (λ h=>h▸List.mem_cons_self ..) λ hf=>(List.mem_cons.1 hf).elim (λ h=>h▸List.mem_cons_of_mem _ (List.mem_cons_self ..)) λ hf=>List.mem_cons_of_mem _ (List.mem_cons_of_mem _ (h f hf))
theorem sW{P:Program}{S:List (Nat×Value)}{d:Nat}{ty t:TypeId}{pos:String}{af:Array Edge}{gd:Option (Nat×Bool)}{w0:World}{M:List Nat}{H:List (Nat×Obj)}{z:Value}(hz:bY P t=some z)(h1:z.oneCell'=true):aQ P S (St w0 M H) ⟨some d,.alloc t,ty,pos,af,gd⟩ Nat (λ b=>.pointer (some ⟨b,0,none⟩)) (λ b=>St w0 M ((b,.cells ⟨[z]⟩ t (0,0))::H)) :=
 Ob (λ w _=>by
  have e:z.cells = #[z]:=by cases z<;>simp_all[Value.cells,Value.oneCell']
  simp[execOp,Instr.alloc,uN hz,newVar,newRow,e])
end
end Go.Ct
namespace Go.Proofs.YtnilhhnfjfdokaaGreatDoor
section
open Go Go.RowKit Go.Ct
section
variable{D:List Nat}{A:Fr}{a:AS}{b:Nat}{w:World}
theorem Zj(ok:a.Ok)(hm:a.mm.Small)(hA:∀f∈dV a.L,f∈A)(r:Int)(hr:r<=a.mm.nodes.length)(hs:SF w D [(b,eN a)] A [] (fD a) w) :
  Calls Tryz.prog 340 #[.pointer (some ⟨b,0,none⟩),.int .i64 r] w λ e w'=>∃q:Option Addr×Option Addr,e=.returned (.agg ⟨((aZ (cN a.L) r).at_ q.1 q.2).nd.cells⟩)/\True /\
  SF w D [(b,eN a)] [] [] (fD a++[⟨q.2,gK (aZ (cN a.L) r).ys,(aZ (cN a.L) r).ys.length,165,2⟩,⟨q.1,aW (aZ (cN a.L) r).xs,(aZ (cN a.L) r).xs.length,35,1⟩]) w':=by
 have h1:=hm.1
 have h2:=Vv a
 exact Y7 (hs.me hA) ok.fit r (by omega) (by omega)
theorem qG{S:List (Nat×Value)}{w0:World}{M:List Nat}{H H':List (Nat×Obj)}{F:Fr}{O O':List Ow}{ty:TypeId}{pos:String}{af:Array Edge}{gd:Option (Nat×Bool)}{is js:List Nat}{recv:Operand}{xs:List Operand}{at_:Array TypeId}{dst:Option Nat}{H1:Option Addr×Option Addr->List (Nat×Obj)}{F1:Option Addr×Option Addr->Fr}{O1:Option Addr×Option Addr->List Ow}
  (r:Int) (ok:a.Ok) (hm:a.mm.Small) (hA:∀f∈dV a.L,f∈A) (hr:r<=a.mm.nodes.length) (hx:ev S recv=.iface 61 (.pointer (some ⟨b,0,none⟩)):=by exact rfl) (ha:lD S xs=[.int .i64 r]:=by exact Uu) (hH:kX H is [(b,eN a)] H':=by exact Qn) (hO:kX O js (fD a) O':=by exact Qn)
  (hl1:is.length=1:=by exact rfl) (hl2:js.length=2:=by exact rfl) (hH1:∀x,iR is [(b,eN a)] H'=H1 x:=by intro x;simp only[iR,oY];exact rfl) (hF1:∀x,[]++F=F1 x:=by intro x;exact rfl)
  (hO1:∀x,[⟨x.2,gK (aZ (cN a.L) r).ys,(aZ (cN a.L) r).ys.length,165,2⟩,⟨x.1,aW (aZ (cN a.L) r).xs,(aZ (cN a.L) r).xs.length,35,1⟩]++iR js (fD a) O'=O1 x:=by intro x;simp only[iR,oY,mW,List.nil_append,List.cons_append];exact rfl) :
  aQ Tryz.prog S (SF w0 M H A F O) ⟨dst,.call {callee:=.invoke recv "Node",args:=⟨xs⟩,argTypes:=at_},ty,pos,af,gd⟩ (Option Addr×Option Addr) (λ q=>.agg ⟨((aZ (cN a.L) r).at_ q.1 q.2).nd.cells⟩) (λ x w=>True/\SF w0 M (H1 x) A (F1 x) (O1 x) w) :=
 px (hs:=[(b,eN a)]) (os:=fD a) (A0:=A) (hs':=λ _=>[(b,eN a)]) (os':=λ _=>fD a) (Fc:=λ _=>[]) (Oc:=λ q=>[⟨q.2,gK (aZ (cN a.L) r).ys,(aZ (cN a.L) r).ys.length,165,2⟩,⟨q.1,aW (aZ (cN a.L) r).xs,(aZ (cN a.L) r).xs.length,35,1⟩]) hx ha (λ w=>Wm _ _ w) (λ w1 hw=>Zj ok hm hA r hr hw) hH hO (cA.of λ _ h=>.inr (.inl h)) (λ _=>hl1) (λ _=>hl2) hH1 hF1 hO1
theorem uT(ok:a.Ok)(hm:a.mm.Small){n:Nd}{xs:List Int}{ys:List Pr}(init:Int)(e1:n.brN=xs.length)(e2:n.prN=ys.length)(hx:xs.length<=274877906944)(hy:ys.length<=274877906944)(hA:∀f∈[(n.brA,aW xs),(n.prA,gK ys)],f∈A)(hs:SF w D [(b,eN a)] A [] (fD a) w) :
  Calls Tryz.prog 335 #[.pointer (some ⟨b,0,none⟩),n.v,.int .i64 init] w λ e w'=>∃x:AX,e=.returned (.int .i64 ((a.mm.nodes.length+1:Nat):Int))/\True/\SF w D [(b,eN (a.al n xs ys init x))] [] (pQ n xs ys a.cs.length x).fr (fD (a.al n xs ys init x)) w':=by
 have h1:=hm.1
 have h3:a.cs.length<=137438953472:=hm.2
 have h2:=Vv a
 rw[show a.mm.nodes.length+1=a.L.length+3 by omega]
 exact Bi init (hs.me hA) e1 e2 hx hy (by omega) (by omega)
end
end

/- gcas: back, Complete, decide. -/
section
open Go Go.RowKit Go.Ct
abbrev iS(b:Nat)(t:nS):List Value:=[.iface 61 (.pointer (some ⟨b,0,none⟩)),.int .i64 t.root,.bool t.ro]
def Ri(prev p:Int)(c:Bool)(K:Bool->Tr):Tr:=if c=true then .oI prev p 0 K else .alloc (Rp p) 0 λ f=>.oI prev p f K
theorem kI{a:AS}(hm:a.mm.Small){x:Int}(h:x<=a.mm.cs.length):x<=9223372036854775807:=by have:=hm.2;omega
theorem rA{a:AS}(ok:a.Ok)(r:Int):uJ a.mm.nodes.length a.mm.cs.length (aZ (cN a.L) r).c:=by rw[<- eJ];exact ok.mo.at r
section
variable{D:List Nat}{A B:Fr}{a:AS}{b:Nat}{w:World}{f:FuncId}{cap:wN}{t:nS}
theorem Vn{K:Int->Tr}{v:Int}{s:Mm}{b2 b3:Nat}(hK:sP b K s f cap B)(hv:v<=s.nodes.length)(hns:Ns (K v) s)(o:Bool):kL b 229 [pt b2,pt b3] [.bool o] (bx b3 [.int .i64 v]::bx b2 [fn f cap]::B) s (K v):=by
 intro a D A w em ok hm0 hA hB hw0
 subst em
 have hm:a.mm.Small:=hm0.small
 have hK2:=hK.more (B2:=(bx b3 [.int .i64 v]::bx b2 [fn f cap]::B)) (λ x hx=>by simp[hx])
 refine enter Tryz.func229 Tryz.ntmps229 rfl rfl hw0 ?_
 simp only[cP]
 refine J0 ?_;refine aI (λ x4=>?_);refine Kb4 ?_;refine aA (iG b2 [fn f cap] 0 hB rfl) rfl ?_;refine aA (iG b3 [.int .i64 v] 0 hB rfl) rfl ?_;refine aH (Fs hK.1 (hK2.2 v a.mm (Mm.Le.refl _) hv hns) ok hm0 hA hB) (λ x7 h7=>?_);refine aL (cE λ _=>aC rf bD rf (bA _) cY rf dI) (λ _=>?_);refine aD ?_
 refine bV Tryz.results229 (λ w hw=>?_)
 exact⟨x7,rfl,h7,hw.rN⟩
theorem vL{K:Int->Tr}{v:Int}{s:Mm}{b2 b3:Nat}(hK:sP b K s f cap B)(hv:v<=s.nodes.length)(hns:Ns (K v) s)(o:Bool):kL b 178 [pt b2,pt b3] [.bool o] (bx b3 [.int .i64 v]::bx b2 [fn f cap]::B) s (K v):=by
 intro a D A w em ok hm0 hA hB hw0
 subst em
 have hm:a.mm.Small:=hm0.small
 have hK2:=hK.more (B2:=(bx b3 [.int .i64 v]::bx b2 [fn f cap]::B)) (λ x hx=>by simp[hx])
 refine enter Tryz.func178 Tryz.ntmps178 rfl rfl hw0 ?_
 simp only[cP]
 refine J0 ?_;refine aI (λ x4=>?_);refine Kb4 ?_;refine aA (iG b2 [fn f cap] 0 hB rfl) rfl ?_;refine aA (iG b3 [.int .i64 v] 0 hB rfl) rfl ?_;refine aH (Fs hK.1 (hK2.2 v a.mm (Mm.Le.refl _) hv hns) ok hm0 hA hB) (λ x7 h7=>?_);refine aL (cE λ _=>aC rf bD rf (bA _) cY rf dI) (λ _=>?_);refine aD ?_
 refine bV Tryz.results178 (λ w hw=>?_)
 exact⟨x7,rfl,h7,hw.rN⟩
theorem Nf{K:Int->Tr}{i m p:Int}(hK:sP b K a.mm f cap B)(hi:i<=a.mm.nodes.length)(hmm:m<=a.mm.nodes.length)(hp:p<=a.mm.nodes.length)(ok:a.Ok)(hm:a.mm.Small)(hA:∀f∈dV a.L,f∈A)(hB:∀x∈B,x∈A)(hs:SF w D [(b,eN a),(a.u,a.po)] A [] (fD a) w) :
    Calls Tryz.prog 188 #[.agg ⟨iS b t⟩,.int .i64 i,.int .i64 m,.int .i64 p,fn f cap] w (mS b (λ c' s' B'=>fN b (Kl i m p K) a.mm c' s' B') a B D w):=by
  have ni:=rA ok i
  have np:=rA ok p
  refine enter Tryz.func188 Tryz.ntmps188 rfl rfl hs ?_
  simp only[cP]
  refine J0 ?_;refine bF (λ x5=>?_);refine bF (λ x9=>?_);refine aI (λ x10=>?_);refine aD ?_;refine jA ?_;refine aB ?_;refine aH (qG p ok hm hA hp) (λ x15 h15=>?_);refine nF ?_;refine aF (cE λ _=>sW (z:=.int .i64 0) (by kernel_rfl) rfl) (λ x11=>?_);refine J5 ?_;refine aJ ?_;refine eG [(0,[]),(1,[]),(2,[]),(5,[]),(6,[]),(7,[]),(3,[6]),(4,[]),(8,[]),(9,[])] ?_;refine gY ?_;refine Hj ?_;refine cB ?_;(refine cZ (i:=7) (hq:=bN) (h:=?_));refine bS (i:=3) (hq:=(qG i ok hm hA hi)) (h:=λ x20 h20=>?_);refine gR ?_;refine bZ (i:=8) (hq:=(cV (hc:=λ w1 hw=>oZ _ _ _ _ _ w1))) (h:=λ x25=>?_);refine fE (i:=9) (hq:=(cE λ _=>aC rf bD rf (bA _) cY rf dI)) (h:=λ _=>?_);refine dC ?_
  refine bV Tryz.results188 (λ w hw=>?_)
  refine⟨(pG (aZ (cN a.L) i).nd.main m (aZ (cN a.L) p).nd.old _ _,[bx x11 [.int .i64 (aZ (cN a.L) p).nd.old],bx x9 [fn f cap]],a),rfl,⟨?_,ok,(AS.fG.refl a).more (λ _ h=>(List.not_mem_nil h).elim)⟩,?_⟩
  · refine⟨hi,hp,?_⟩
    rw[eJ,eJ]
    refine⟨rfl,kI hm ni.main,np.old,_,_,rfl,by kernel_rfl,λ v s1 l hns=>?_⟩
    have hns2:Ns (K (aZ (cN a.L) p).nd.old) s1:=by
     have h:Ns (K (bU s1.nodes p).old) s1:=hns
     rw[l.nd hp,eJ] at h
     exact h
    show yK b _ _ _ _ s1 λ c' s' B'=>p<=s1.nodes.length/\fN b (K (bU s1.nodes p).old) s1 c' s' B'
    rw[l.nd hp,eJ]
    have hlen:a.mm.nodes.length<=s1.nodes.length:=l.len
    exact(Vn (hK.le l) (by have h2:(aZ (cN a.L) p).nd.old<=a.mm.nodes.length:=np.old;omega) hns2 v).more (λ _ h=>h) λ c m C C2 hC h=>⟨by omega,h.more hC⟩
  · exact((hw.cC (.tail (.tail .head))).cC .head).rI
theorem mU{K:Int->Tr}{v s:Int}(ht:t.root<=9223372036854775807)(hK:sP b K a.mm f cap B)(hv:v<=a.mm.nodes.length)(ok:a.Ok)(hm:a.mm.Small)(hA:∀f∈dV a.L,f∈A)(hB:∀x∈B,x∈A)(hs:SF w D [(b,eN a),(a.u,a.po)] A [] (fD a) w) :
  Calls Tryz.prog 141 #[.agg ⟨iS b t⟩,.int .i64 v,.int .i64 s,fn f cap] w (mS b (λ c' s' B'=>fN b (nN t v s K) a.mm c' s' B') a B D w):=by
 have nv:=rA ok v
 refine enter Tryz.func141 Tryz.ntmps141 rfl rfl hs ?_
 simp only[cP]
 refine J0 ?_;refine bF (λ x4=>?_);refine bF (λ x7=>?_);refine aI (λ x8=>?_);refine aD ?_;refine jA ?_;refine aB ?_;refine aH (qG v ok hm hA hv) (λ x14 h14=>?_);refine aI (λ x9=>?_);refine J5 ?_;refine jA ?_;refine aF (cE λ _=>sW (z:=.int .i64 0) (by kernel_rfl) rfl) (λ x10=>?_);refine J5 ?_;refine gS ?_;refine D0 ?_
 refine aU (λ c18=>?_) (λ c18=>?_)
 ·refine dD ?_;refine J3 ?_;refine J5 ?_;refine J0 ?_;refine aK ?_;refine J3 ?_;refine aB ?_;refine bP ?_;(refine aA bN rfl ?_);refine aF (cV (hc:=λ w1 hw=>oZ _ _ _ _ _ w1)) (λ x27=>?_);refine aL (cE λ _=>aC rf bD rf (bA _) cY rf dI) (λ _=>?_);refine aD ?_
  refine bV Tryz.results141 (λ w hw=>?_)
  refine⟨(pG t.root v (aZ (cN a.L) v).nd.new _ _,[bx x10 [.int .i64 (aZ (cN a.L) v).nd.new],bx x7 [fn f cap]],a),rfl,⟨?_,ok,(AS.fG.refl a).more (λ _ h=>(List.not_mem_nil h).elim)⟩,?_⟩
  ·refine⟨hv,?_⟩
   rw[eJ]
   have e:(if s=1 then(aZ (cN a.L) v).c.new else(aZ (cN a.L) v).c.old)=(aZ (cN a.L) v).nd.new:=by exact if_pos (by omega)
   dsimp only
   rw[e]
   refine⟨rfl,ht,nv.new,_,_,rfl,by kernel_rfl,λ o s1 l hns=>?_⟩
   have hlen:a.mm.nodes.length<=s1.nodes.length:=l.len
   exact vL (hK.le l) (by have h2:(aZ (cN a.L) v).nd.new<=a.mm.nodes.length:=nv.new;omega) hns o
  ·exact((hw.cC (.tail (.tail (.tail .head)))).cC .head).rI
 ·refine Kc1 ?_;refine aK ?_;refine J3 ?_;refine aB ?_;refine bP ?_;(refine aA bN rfl ?_);refine aF (cV (hc:=λ w1 hw=>oZ _ _ _ _ _ w1)) (λ x27=>?_);refine aL (cE λ _=>aC rf bD rf (bA _) cY rf dI) (λ _=>?_);refine aD ?_
  refine bV Tryz.results141 (λ w hw=>?_)
  refine⟨(pG t.root v (aZ (cN a.L) v).nd.old _ _,[bx x10 [.int .i64 (aZ (cN a.L) v).nd.old],bx x7 [fn f cap]],a),rfl,⟨?_,ok,(AS.fG.refl a).more (λ _ h=>(List.not_mem_nil h).elim)⟩,?_⟩
  ·refine⟨hv,?_⟩
   rw[eJ]
   have e:(if s=1 then(aZ (cN a.L) v).c.new else(aZ (cN a.L) v).c.old)=(aZ (cN a.L) v).nd.old:=by exact if_neg (by omega)
   dsimp only
   rw[e]
   refine⟨rfl,ht,nv.old,_,_,rfl,by kernel_rfl,λ o s1 l hns=>?_⟩
   have hlen:a.mm.nodes.length<=s1.nodes.length:=l.len
   exact vL (hK.le l) (by have h2:(aZ (cN a.L) v).nd.old<=a.mm.nodes.length:=nv.old;omega) hns o
  ·exact((hw.cC (.tail (.tail (.tail .head)))).cC .head).rI
theorem Em{cap:List Value}{K:Bool->Tr}{prev p:Int}{c:Bool}(hK:Q0 b K a.mm f cap B)(hpr:prev<=a.mm.cs.length)(hp:p<=a.mm.nodes.length)(ok:a.Ok)(hm:a.mm.Small)(hA:∀f∈dV a.L,f∈A)(hB:∀x∈B,x∈A)(hs:SF w D [(b,eN a),(a.u,a.po)] A [] (fD a) w) :
  Calls Tryz.prog 191 #[.agg ⟨iS b t⟩,.int .i64 prev,.int .i64 p,.bool c,fn f cap] w (mS b (λ c' s' B'=>fN b (Ri prev p c K) a.mm c' s' B') a B D w):=by
 refine enter Tryz.func191 Tryz.ntmps191 rfl rfl hs ?_
 simp only[cP]
 refine J0 ?_;refine bF (λ x5=>?_);refine aI (λ x10=>?_);refine Kc8 ?_;refine aD ?_
 refine aU (λ c12=>?_) (λ c12=>?_)
 ·refine mL ?_;refine aB ?_;refine aF (cV (hc:=λ w1 hw=>oZ _ _ _ _ _ w1)) (λ x16=>?_);refine aL (cE λ _=>aC rf bD rf (bA _) cY rf dI) (λ _=>?_);refine aD ?_
  refine bV Tryz.results191 (λ w hw=>?_)
  refine⟨(pG prev p 0 f cap,[],a),rfl,⟨?_,ok,AS.fG.refl a⟩,hw.rI⟩
  unfold Ri
  rw[if_pos (by assumption)]
  exact⟨rfl,kI hm hpr,pR _,f,cap,rfl,hK.1,λ v s1 l hn=>hK.2 v s1 l hn⟩
 ·refine lS ?_;refine eG [(0,[]),(1,[]),(2,[]),(4,[]),(5,[]),(3,[1]),(6,[]),(7,[])] ?_;refine gY ?_;refine aR ?_;refine cZ (i:=4) (hq:=(mZ rf)) (h:=?_);refine aR ?_;refine bZ (i:=3) (hq:=(cV (hc:=λ w1 hw=>Ub p w1))) (h:=λ x20=>?_);refine bS (i:=6) (hq:=(Wu (V:=λ _:AX=>.int .i64 ((a.mm.nodes.length+1:Nat):Int)) (hs:=[(b,eN a)]) (os:=fD a) (A0:=[(none,aW []),(none,gK [])]) (hs':=λ x=>[(b,eN (a.al ({Nd.zero with kind:=7,old:=p}:Nd) [] [] 0 x))]) (os':=λ x=>fD (a.al ({Nd.zero with kind:=7,old:=p}:Nd) [] [] 0 x)) (Fc:=λ x=>(pQ ({Nd.zero with kind:=7,old:=p}:Nd) [] [] a.cs.length x).fr) (hm:=λ w=>mF _ _ _ w) (hc:=λ w1 hw=>uT ok hm 0 rfl rfl (by simp) (by simp) (λ f hf=>hf) hw))) (h:=λ x23 h23=>?_);refine J7 ?_;refine mL ?_;refine G3 ?_;refine aF (cV (hc:=λ w1 hw=>oZ _ _ _ _ _ w1)) (λ x28=>?_);refine aL (cE λ _=>aC rf bD rf (bA _) cY rf dI) (λ _=>?_);refine aD ?_
  refine bV Tryz.results191 (λ w hw=>?_)
  refine⟨(pG prev p ((a.mm.nodes.length+1:Nat):Int) f cap,(pQ ({Nd.zero with kind:=7,old:=p}:Nd) [] [] a.cs.length x23).fr,a.al ({Nd.zero with kind:=7,old:=p}:Nd) [] [] 0 x23),rfl,⟨?_,ok.al x23 (by simp) (by simp) ⟨?_,pR _,pR _,(λ r hr=>nomatch hr),pR _,pR _,pR _,⟨0,rfl,by decide⟩,⟨0,rfl,by decide⟩⟩ (by omega),AS.fG.al a _ _ _ _ x23⟩,hw.rI⟩
  ·unfold Ri
   rw[if_neg (by simp_all)]
   have hl:=On a.mm (Rp p) 0
   refine⟨(by show _=_;rw[jV];rfl),?_,?_,f,cap,rfl,hK.1,λ v s1 l hn=>(hK.2 v s1 (by rw[jV] at l;exact hl.trans l) hn).more (λ x hx=>List.mem_append_right _ hx) λ _ _ _ _ hC h=>h.more hC⟩
   ·have:=hl.cl;have:=hm.2;omega
   ·show _<=(((a.mm.nodes++[_]).length:Nat):Int)
    rw[List.length_append]
    simp
  ·show p<=_
   exact hp
end
end

/- gcas: root. -/
section
open Go Go.RowKit Go.Ct
section
variable{D:List Nat}{A B:Fr}{a:AS}{b:Nat}{w:World}{f:FuncId}{cap:wN}{t:nS}
theorem Tx{K:Int->Tr}{v x:Int}{s:Mm}{b1 b2 b3:Nat}(ht:t.root<=9223372036854775807)(hK:sP b K s f cap B)(hv:v<=s.nodes.length):kL b 234 [pt b1,pt b2,pt b3] [.int .i64 x] (bx b1 (iS b t)::bx b2 [iv v]::bx b3 [fn f cap]::B) s (nN t v x K):=by
 intro a D A w em ok hm0 hA hB hw0
 subst em
 have hm:a.mm.Small:=hm0.small
 have hK2:=hK.more (B2:=(bx b1 (iS b t)::bx b2 [iv v]::bx b3 [fn f cap]::B)) (λ x hx=>by simp[hx])
 refine enter Tryz.func234 Tryz.ntmps234 rfl rfl hw0 ?_
 simp only[cP]
 refine J0 ?_;refine aI (λ x5=>?_);refine Kb4 ?_;refine aA (Jz b1 (iS b t) 0 3 hB rfl rfl) rfl ?_;refine aA (iG b2 [.int .i64 v] 0 hB rfl) rfl ?_;refine aB ?_;refine aA (iG b3 [fn f cap] 0 hB rfl) rfl ?_;refine aH (kV (λ w1 hw=>mU ht hK2 hv ok hm hA hB hw)) (λ x10 h10=>?_);refine aL (cE λ _=>aC rf bD rf (bA _) cY rf dI) (λ _=>?_);refine aD ?_
 refine bV Tryz.results234 (λ w hw=>?_)
 exact⟨x10,rfl,h10,hw.rN⟩
theorem Vf{K:Int->Tr}{v:Int}{s:Mm}{b0 b1 b2 b3:Nat}{nd:Nd}(ht:t.root<=9223372036854775807)(hK:sP b K s f cap B)(hv:v<=s.nodes.length)(hd:nd.status<=9223372036854775807)(o:Bool):kL b 233 [pt b0,pt b1,pt b2,pt b3] [.bool o] (bx b0 (nd.cells:List Value)::bx b1 (iS b t)::bx b2 [iv v]::bx b3 [fn f cap]::B) s (.load nd.status λ s=>nN t v s K):=by
 intro a D A w em ok hm0 hA hB hw0
 subst em
 have hm:a.mm.Small:=hm0.small
 have hK2:=hK.more (B2:=(bx b0 (nd.cells:List Value)::bx b1 (iS b t)::bx b2 [iv v]::bx b3 [fn f cap]::B)) (λ x hx=>by simp[hx])
 refine enter Tryz.func233 Tryz.ntmps233 rfl rfl hw0 ?_
 simp only[cP]
 refine J0 ?_;refine aI (λ x6=>?_);refine Kb4 ?_;refine aK ?_;refine aA (iG b0 (nd.cells:List Value) 13 hB rfl) rfl ?_;(refine aA bN rfl ?_);refine aF (cV (hc:=λ w1 hw=>kP _ _ _ w1)) (λ x10=>?_);refine aL (cE λ _=>aC rf bD rf (bA _) cY rf dI) (λ _=>?_);refine aD ?_
 refine bV Tryz.results233 (λ w hw=>?_)
 exact⟨(kO nd.status _ _,[],a),rfl,⟨⟨rfl,hd,_,_,rfl,by kernel_rfl,λ x s1 l hx _=>(Tx (b1:=b1) (b2:=b2) (b3:=b3) ht (hK.le l) (by have hl:a.mm.nodes.length<=s1.nodes.length:=l.len;omega)).mr (λ y hy=>List.mem_cons_of_mem _ hy)⟩,ok,AS.fG.refl a⟩,hw.rI⟩
theorem Wd{K:Int->Tr}{v x:Int}{s:Mm}{b0 b1 b2 b3:Nat}{nd:Nd}(ht:t.root<=9223372036854775807)(hK:sP b K s f cap B)(hv:v<=s.nodes.length)(hd:nd.status<=9223372036854775807)(hn:(bU s.nodes v).status=nd.status):kL b 232 [pt b1,pt b2,pt b3,pt b0] [.int .i64 x] (bx b1 (iS b t)::bx b2 [iv v]::bx b3 [fn f cap]::bx b0 (nd.cells:List Value)::B) s (if x=0 then .node v λ n=>.oI n.status 0 2 λ _=>.node v λ n=>.load n.status λ s=>nN t v s K else nN t v x K):=by
 intro a D A w em ok hm0 hA hB hw0
 subst em
 have hm:a.mm.Small:=hm0.small
 have hK2:=hK.more (B2:=(bx b1 (iS b t)::bx b2 [iv v]::bx b3 [fn f cap]::bx b0 (nd.cells:List Value)::B)) (λ x hx=>by simp[hx])
 refine enter Tryz.func232 Tryz.ntmps232 rfl rfl hw0 ?_
 simp only[cP]
 refine J0 ?_;refine aI (λ x6=>?_);refine Kc8 ?_;refine Kc9 ?_
 refine aU (λ c8=>?_) (λ c8=>?_)
 ·refine J0 ?_;refine aA (Jz b1 (iS b t) 0 3 hB rfl rfl) rfl ?_;refine aA (iG b2 [.int .i64 v] 0 hB rfl) rfl ?_;refine aB ?_;refine aA (iG b3 [fn f cap] 0 hB rfl) rfl ?_;refine aH (kV (λ w1 hw=>mU ht hK2 hv ok hm hA hB hw)) (λ x13 h13=>?_);refine aL (cE λ _=>aC rf bD rf (bA _) cY rf dI) (λ _=>?_);refine aD ?_
  refine bV Tryz.results232 (λ w hw=>?_)
  refine⟨x13,rfl,⟨?_,h13.2⟩,hw.rN⟩
  rw[if_neg (by omega)]
  exact h13.1
 ·refine Kc1 ?_;refine aK ?_;refine aA (iG b0 (nd.cells:List Value) 13 hB rfl) rfl ?_;(refine aA bN rfl ?_);refine aF (cV (hc:=λ w1 hw=>oZ _ _ _ _ _ w1)) (λ x17=>?_);refine aL (cE λ _=>aC rf bD rf (bA _) cY rf dI) (λ _=>?_);refine aD ?_
  refine bV Tryz.results232 (λ w hw=>?_)
  refine⟨(pG nd.status 0 2 _ _,[],a),rfl,⟨?_,ok,AS.fG.refl a⟩,hw.rI⟩
  rw[if_pos (by omega)]
  refine⟨hv,?_⟩
  dsimp only
  rw[hn]
  refine⟨rfl,hd,by have:=ok.mo.two;omega,_,_,rfl,by kernel_rfl,λ o s1 l _=>?_⟩
  have hlen:a.mm.nodes.length<=s1.nodes.length:=l.len
  show yK b _ _ _ _ s1 λ c' s' B'=>v<=s1.nodes.length/\fN b (.load (bU s1.nodes v).status λ s=>nN t v s K) s1 c' s' B'
  rw[l.nd hv,hn]
  exact(Vf (b0:=b0) (b1:=b1) (b2:=b2) (b3:=b3) (nd:=nd) ht (hK.le l) (by omega) hd o).more (λ y hy=>by
  simp only[List.mem_cons,List.append_eq,List.nil_append] at hy ⊢
  rcases hy with h|h|h|h|h<;>simp[h]) λ c m C C2 hC h=>⟨by omega,h.more hC⟩
theorem S8{K:Int->Tr}{v:Int}{s:Mm}{b1 b3:Nat}(ht:t.root<=9223372036854775807)(hK:sP b K s f cap B)(hv:v<=s.nodes.length)(hns:(bU s.nodes v).kind=2->Ns (K v) s):kL b 231 [pt b1,pt b3] [.int .i64 v] (bx b1 (iS b t)::bx b3 [fn f cap]::B) s (.node v λ n=>if n.kind=2 then K v else .node v λ n=>.load n.status λ s=>if s=0 then .node v λ n=>.oI n.status 0 2 λ _=>.node v λ n=>.load n.status λ s=>nN t v s K else nN t v s K):=by
 intro a D A w em ok hm0 hA hB hw0
 subst em
 have hm:a.mm.Small:=hm0.small
 have hK2:=hK.more (B2:=(bx b1 (iS b t)::bx b3 [fn f cap]::B)) (λ x hx=>by simp[hx])
 have nv:=rA ok v
 refine enter Tryz.func231 Tryz.ntmps231 rfl rfl hw0 ?_
 simp only[cP]
 refine J0 ?_;refine bF (λ x3=>?_);refine aI (λ x4=>?_);refine Kb4 ?_;refine aK ?_;refine aA (iG b1 (iS b t) 0 hB rfl) rfl ?_;refine bP ?_;refine aH (qG v ok hm hA hv) (λ x9 h9=>?_);refine aI (λ x5=>?_);refine J5 ?_;refine C3 ?_;refine D0 ?_
 refine aU (λ c12=>?_) (λ c12=>?_)
 ·refine J0 ?_;refine aA (iG b3 [fn f cap] 0 hB rfl) rfl ?_;refine bP ?_;refine aH (Fs hK2.1 (hK2.2 v a.mm (Mm.Le.refl _) hv (hns (by rw[eJ];assumption))) ok hm0 hA hB) (λ x15 h15=>?_);refine aL (cE λ _=>aC rf bD rf (bA _) cY rf dI) (λ _=>?_);refine aD ?_
  refine bV Tryz.results231 (λ w hw=>?_)
  refine⟨x15,rfl,⟨⟨hv,?_⟩,h15.2⟩,hw.rN⟩
  rw[eJ]
  dsimp only
  rw[if_pos (by assumption)]
  exact h15.1
 ·refine bB ?_;refine jA ?_;(refine aA bN rfl ?_);refine aF (cV (hc:=λ w1 hw=>kP _ _ _ w1)) (λ x19=>?_);refine aL (cE λ _=>aC rf bD rf (bA _) cY rf dI) (λ _=>?_);refine aD ?_
  refine bV Tryz.results231 (λ w hw=>?_)
  refine⟨(kO (aZ (cN a.L) v).nd.status _ _,[bx x5 (((aZ (cN a.L) v).at_ x9.1 x9.2).nd.cells:List Value),bx x3 [iv v]],a),rfl,⟨⟨hv,?_⟩,ok,(AS.fG.refl a).more (λ _ h=>(List.not_mem_nil h).elim)⟩,?_⟩
  ·rw[eJ]
   dsimp only
   rw[if_neg (by assumption)]
   refine⟨hv,?_⟩
   rw[eJ]
   refine⟨rfl,kI hm nv.status,_,_,rfl,by kernel_rfl,λ x s1 l hx _=>?_⟩
   have hlen:a.mm.nodes.length<=s1.nodes.length:=l.len
   exact(Wd (b0:=x5) (b1:=b1) (b2:=x3) (b3:=b3) (nd:=((aZ (cN a.L) v).at_ x9.1 x9.2).nd) ht (hK.le l) (by omega) (kI hm nv.status) (by rw[l.nd hv,eJ];rfl)).mr (λ y hy=>by
   simp only[List.mem_cons,List.append_eq,List.nil_append,List.mem_append,List.not_mem_nil,or_false] at hy ⊢
   rcases hy with h|h|h|h|h<;>simp[h])
  ·exact((hw.cC (.tail (.tail .head))).cC .head).rI
theorem Zb{K:Int->Tr}(ht:t.root<=9223372036854775807)(hK:sP b K a.mm f cap B)(ok:a.Ok)(hm:a.mm.Small)(hA:∀f∈dV a.L,f∈A)(hB:∀x∈B,x∈A)(hs:SF w D [(b,eN a),(a.u,a.po)] A [] (fD a) w) :
  Calls Tryz.prog 192 #[.agg ⟨iS b t⟩,fn f cap] w (mS b (λ c' s' B'=>fN b (Dr t K) a.mm c' s' B') a B D w):=by
 refine enter Tryz.func192 Tryz.ntmps192 rfl rfl hs ?_
 simp only[cP]
 refine J0 ?_;refine bF (λ x2=>?_);refine bF (λ x3=>?_);refine aI (λ x4=>?_);refine Kb4 ?_;refine aK ?_;refine J3 ?_;(refine aA bN rfl ?_);refine aF (cV (hc:=λ w1 hw=>kP _ _ _ w1)) (λ x9=>?_);refine aL (cE λ _=>aC rf bD rf (bA _) cY rf dI) (λ _=>?_);refine aD ?_
 refine bV Tryz.results192 (λ w hw=>?_)
 refine⟨(kO t.root _ _,[bx x2 (iS b t),bx x3 [fn f cap]],a),rfl,⟨⟨rfl,ht,_,_,rfl,by kernel_rfl,λ v s1 l hv hns=>S8 (b1:=x2) (b3:=x3) ht (hK.le l) hv (λ k=>by have h:Ns (if(bU s1.nodes v).kind=2 then K v else _) s1:=hns;rw[if_pos k] at h;exact h)⟩,ok,(AS.fG.refl a).more (λ _ h=>(List.not_mem_nil h).elim)⟩,?_⟩
 exact((hw.cC (.tail .head)).cC (.tail .head)).rI
end
end

end Go.Proofs.YtnilhhnfjfdokaaGreatDoor

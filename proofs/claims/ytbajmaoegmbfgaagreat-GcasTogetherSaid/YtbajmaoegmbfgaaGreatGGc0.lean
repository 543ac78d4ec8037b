/- Calls with an arena; loads out of captured boxes. -/
import Derived.Test.YtbajmaoegmbfgaaGreatGTp2
import Derived.Test.YtbajmaoegmbfgaaGreatGNode3
import Derived.Test.YtbajmaoegmbfgaaGreatGLk1

set_option linter.unusedSimpArgs false
set_option linter.unusedVariables false
namespace Go.Ct
section
open Go Go.RowKit
abbrev bx(b:Nat)(cs:List Value):Option Addr×List Value:=(some ⟨b,0,none⟩,cs)
abbrev pt(b:Nat):Value:=.pointer (some ⟨b,0,none⟩)
abbrev fn(f:FuncId)(cap:List Value):Value:=.func (.func f) #[] ⟨cap⟩
abbrev iv(n:Int):Value:=.int .i64 n
theorem Y2{α:Type}{l l' xs:List α}{is:List Nat}(h:lX l is xs l':=by(repeat (first|exact lX.nil|(apply lX.cons;(focus ((repeat (first|exact yN.head|apply yN.tail));done));simp only[qF])));first|done|fail):lX l is xs l':=h
theorem evD{S:List (Nat×Value)}{xs:List Operand}{vs:List Value}(h:qS S xs=vs:=by(repeat (first|exact dC _|(apply cI;focus ((conv=>{lhs;whnf});try exact rfl))));first|done|fail):qS S xs=vs:=h
section
variable{w0 w:World}{M:List Nat}{H H':List (Nat×Obj)}{A F:Fr}{O O':List Ow}
theorem SF.rI(h:SF w0 M H A F O w)(hH:H'.Sublist H:=by repeat (first|exact List.Sublist.refl _|apply List.Sublist.cons))(hO:O'.Sublist O:=by repeat (first|exact List.Sublist.refl _|apply List.Sublist.cons)):SF w0 M H' [] F O' w:=h.ret hH aY.all hO
theorem SF.rN(h:SF w0 M H A (F++[]) O w)(hH:H'.Sublist H:=by repeat (first|exact List.Sublist.refl _|apply List.Sublist.cons))(hO:O'.Sublist O:=by repeat (first|exact List.Sublist.refl _|apply List.Sublist.cons)):SF w0 M H' [] F O' w:=h.ret hH (aY.hX λ f hf=>by simpa using hf) hO
variable{P:Program}{S:List (Nat×Value)}{d:Nat}{ty t:TypeId}{pos:String}{af:Array Edge}{gd:Option (Nat×Bool)}{x:Operand}{v:Value}{vs:List Value}{B:Fr}
theorem qI(b:Nat)(cs:List Value)(q:Nat)(hB:∀x∈B,x∈A)(hq:cs[q]?=some v)(hx:ev S x=.pointer (some ⟨b,q,none⟩):=by exact rfl)(ht:one P t=true:=by first|exact L0 rfl|kernel_rfl)(hm:bx b cs∈B:=by simp):aM P S (SF w0 M H A F O) ⟨some d,.load t x,ty,pos,af,gd⟩ v :=
 dj (a:=some ⟨b,0,none⟩) (q:=q) (hx.trans (by simp[cK,dZ])) ht (.bK (vD.kI (hB _ hm))) hq
theorem mw(b:Nat)(cs:List Value)(q k:Nat)(hB:∀x∈B,x∈A)(hv:(cs.drop q).take k=vs)(hl:vs.length=k)(hx:ev S x=.pointer (some ⟨b,q,none⟩):=by exact rfl)(ht:iS P t k=true:=by exact eD)(hm:bx b cs∈B:=by simp):aM P S (SF w0 M H A F O) ⟨some d,.load t x,ty,pos,af,gd⟩ (.agg ⟨vs⟩) :=
 F7 (a:=some ⟨b,0,none⟩) (q:=q) (hx.trans (by simp[cK,dZ])) ht (.bK (vD.kI (hB _ hm))) hv hl
end
end
end Go.Ct
namespace Go.Proofs.YtbajmaoegmbfgaaGreat
section
open Go Go.RowKit Go.Ct
abbrev wM(b:Nat)(f:FuncId)(cap arg:List Value)(B:Fr)(s:Mm)(T:Tr):Prop:=zK b f cap arg B s λ c' s' B'=>kZ b T s c' s' B'
theorem zK.mr{b:Nat}{f:FuncId}{cap arg:List Value}{B B2:Fr}{s:Mm}{T:Tr}(h:wM b f cap arg B s T)(hb:∀x∈B,x∈B2):wM b f cap arg B2 s T:=h.more hb λ _ _ _ _ hC h=>h.more hC
section
variable{S:List (Nat×Value)}{w0 w:World}{M:List Nat}{H H':List (Nat×Obj)}{A A0 F B:Fr}{O O':List Ow}{ty:TypeId}{pos:String}{af:Array Edge}{gd:Option (Nat×Bool)}{b:Nat}{a:AS}{R:Cd->Mm->Fr->Prop}{is js:List Nat}{f:FuncId}{xs:List Operand}{at_:Array TypeId}{vs cap:List Value}{dst:Option Nat}{x:Operand}{H1:Cd×Fr×AS->List (Nat×Obj)}{F1:Cd×Fr×AS->Fr}{O1:Cd×Fr×AS->List Ow}
theorem I9(hc:∀w,SF w (Ks [(b,fH a)] (fM a)) [(b,fH a)] A0 [] (fM a) w->Calls Tryz.prog f ⟨vs⟩ w (Ea b R a B (Ks [(b,fH a)] (fM a)) w))
  (ha:qS S xs=vs:=by exact evD) (hp:plain Tryz.prog f=true:=by kernel_rfl) (hH:lX H is [(b,fH a)] H':=by exact Y2) (hO:lX O js (fM a) O':=by exact Y2) (hA:aW A F O' A0:=by exact aW.of (λ _ h=>Or.inr (Or.inl h)))
  (hl1:is.length=1:=by exact rfl) (hl2:js.length=2:=by exact rfl)
  (hH1:∀y,iQ is [(b,fH y.2.2)] H'=H1 y:=by intro x;simp only[iQ,qW];exact rfl) (hF1:∀y,y.2.1++F=F1 y:=by intro x;exact rfl) (hO1:∀y,iQ js (fM y.2.2) O'=O1 y:=by intro x;simp only[iQ,qW,mW];exact rfl) :
  bE Tryz.prog S (SF w0 M H A F O) ⟨dst,.call {callee:=.value (.func f),args:=⟨xs⟩,argTypes:=at_},ty,pos,af,gd⟩ (Cd×Fr×AS) (λ y=>.agg ⟨y.1.cells⟩) (λ y w=>(R y.1 y.2.2.mm (y.2.1++B)/\y.2.2.Ok/\a.jF y.2.2 y.2.1)/\SF w0 M (H1 y) A (F1 y) (O1 y) w) :=
 cM (hs:=[(b,fH a)]) (os:=fM a) (hs':=λ y:Cd×Fr×AS=>[(b,fH y.2.2)]) (os':=λ y=>fM y.2.2) (Fc:=λ y=>y.2.1) ha hp hc hH hO hA (λ _=>hl1) (λ _=>hl2) hH1 hF1 hO1
theorem T5(hp:plain Tryz.prog f=true)(hk:zK b f cap vs B a.mm R)(ok:a.Ok)(hm:a.mm.Small)(hA0:∀f∈aK a.L,f∈A)(hB:∀x∈B,x∈A)(hx:ev S x=.func (.func f) #[] ⟨cap⟩:=by exact rfl)
  (ha:qS S xs=vs:=by exact evD) (hH:lX H is [(b,fH a)] H':=by exact Y2) (hO:lX O js (fM a) O':=by exact Y2)
  (hl1:is.length=1:=by exact rfl) (hl2:js.length=2:=by exact rfl)
  (hH1:∀y,iQ is [(b,fH y.2.2)] H'=H1 y:=by intro x;simp only[iQ,qW];exact rfl) (hF1:∀y,y.2.1++F=F1 y:=by intro x;exact rfl) (hO1:∀y,iQ js (fM y.2.2) O'=O1 y:=by intro x;simp only[iQ,qW,mW];exact rfl) :
  bE Tryz.prog S (SF w0 M H A F O) ⟨dst,.call {callee:=.value x,args:=⟨xs⟩,argTypes:=at_},ty,pos,af,gd⟩ (Cd×Fr×AS) (λ y=>.agg ⟨y.1.cells⟩) (λ y w=>(R y.1 y.2.2.mm (y.2.1++B)/\y.2.2.Ok/\a.jF y.2.2 y.2.1)/\SF w0 M (H1 y) A (F1 y) (O1 y) w) :=
 cMf (V:=λ y:Cd×Fr×AS=>.agg ⟨y.1.cells⟩) (hs:=[(b,fH a)]) (os:=fM a) (hs':=λ y:Cd×Fr×AS=>[(b,fH y.2.2)]) (os':=λ y=>fM y.2.2) (Fc:=λ y=>y.2.1) (A0:=A) hx ha hp (λ w hw=>hk a _ A w rfl ok hm hA0 hB hw) hH hO (aW.of λ _ h=>.inr (.inl h)) (λ _=>hl1) (λ _=>hl2) hH1 hF1 hO1
end
end

/- Procedures of the program as codes: calls of the arena through the interface. -/
end Go.Proofs.YtbajmaoegmbfgaaGreat
namespace Go.Ct
section
open Go Go.RowKit
theorem SF.aAK{w0 w:World}{M:List Nat}{H:List (Nat×Obj)}{A A' F:Fr}{O:List Ow}(h:SF w0 M H A F O w)(hA:∀f∈A',f∈A):SF w0 M H A' F O w:=⟨h.st,λ f hf=>h.bK f (hA f hf),h.new,h.own,h.dis⟩
abbrev AS.al(a:AS)(n:Nd)(xs:List Int)(ys:List Pr)(init:Int)(x:AX):AS:=⟨a.L++[kV n xs ys a.cs.length x],fU n.kind a.cs init,a.gen,a.acc,x.pn,x.cn,x.pc,x.cc⟩
theorem mB{a:AS}(r:Int):cD a.mm.nodes r=(aB (cZ a.L) r).c:=(Ak _ _).symm
theorem bc(a:AS):a.mm.nodes.length=a.L.length+2:=by show((cZ a.L).map aP.c).length=_;rw[List.length_map,fS]
theorem mh{n c c':Nat}{v:Nv}{i:Int}{cs:List Int}(hb:lD n c {v with main:=0,prev:=0,status:=0})(hc:c=cs.length)(h1:n+1=c'):lD c' (fU v.kind cs i).length (dW v c):=by
 subst hc
 have hcs:=iF (k:=v.kind) (cs:=cs) (init:=i)
 have hb':=hb.mono (n':=c') (c':=(fU v.kind cs i).length) (by omega) hcs.1
 refine⟨hb'.bK,hb'.exp,hb'.new,hb'.br,?_,?_,?_,hb'.bm,hb'.hash⟩
 ·show(if v.kind=2 then((cs.length+1:Nat):Int) else 0)<=_
  split
  ·rename_i hk;unfold fU;rw[if_pos (.inl hk)];simp
  ·omega
 ·show(if v.kind=3∨v.kind=5∨v.kind=6 then((cs.length+1:Nat):Int) else 0)<=_
  split
  ·rename_i hk;unfold fU;rw[if_pos (by omega)];simp
  ·omega
 ·show(if v.kind=8 then((cs.length+1:Nat):Int) else 0)<=_
  split
  ·rename_i hk;unfold fU;rw[if_pos (by omega)];simp
  ·omega
theorem Zv.push{s:Mm}(h:Zv s){v:Nv}{i:Int}(hb:lD s.nodes.length s.cs.length {v with main:=0,prev:=0,status:=0})(hi:i<=s.nodes.length+1):Zv (s.push v i):=by
 have hcs:=iF (k:=v.kind) (cs:=s.cs) (init:=i)
 have hl:(s.nodes++[dW v s.cs.length]).length=s.nodes.length+1:=by simp
 refine⟨λ u hu=>?_,λ u hu=>?_,by have:=h.two;show 2<=(s.nodes++[dW v s.cs.length]).length;omega⟩
 ·show lD (s.nodes++[dW v s.cs.length]).length (fU v.kind s.cs i).length u
  rcases List.mem_append.1 hu with hu|hu
  ·exact(h.nd u hu).mono (by omega) hcs.1
  ·rw[List.mem_singleton.1 hu]
   exact mh hb rfl hl.symm
 ·show u<=((s.nodes++[dW v s.cs.length]).length:Int)
  have hu':u∈fU v.kind s.cs i:=hu
  unfold fU at hu'
  split at hu'
  ·rcases List.mem_append.1 hu' with h2|h2
   ·have:=h.cs u h2;omega
   ·rw[List.mem_singleton.1 h2];omega
  ·have:=h.cs u hu';omega
theorem Bg(a:AS)(n:Nd)(xs:List Int)(ys:List Pr)(init:Int)(x:AX):(a.al n xs ys init x).mm=a.mm.push (n.c xs ys) init:=by
 unfold AS.mm Mm.push
 simp only[cZ,List.map_cons,List.map_append,List.map_nil,List.cons_append]
 rfl
theorem AS.Ok.al{a:AS}(ok:a.Ok){n:Nd}{xs:List Int}{ys:List Pr}{init:Int}(x:AX)(hx:xs.length<=274877906944)(hy:ys.length<=274877906944)(hb:lD a.mm.nodes.length a.mm.cs.length {n.c xs ys with main:=0,prev:=0,status:=0})(hi:init<=a.mm.nodes.length+1):(a.al n xs ys init x).Ok:=by
 refine⟨λ v hv=>?_,by rw[Bg];exact ok.mo.push hb hi⟩
 rcases List.mem_append.1 hv with hv|hv
 ·exact ok.fit v hv
 ·rw[List.mem_singleton.1 hv];exact Hk (by omega) (by omega)
theorem Vk(s:Mm)(v:Nv)(i:Int):s.Le (s.push v i):=⟨⟨_,rfl⟩,iF.1⟩
theorem AS.jF.al(a:AS)(n:Nd)(xs:List Int)(ys:List Pr)(init:Int)(x:AX):a.jF (a.al n xs ys init x) (kV n xs ys a.cs.length x).fr:=⟨by rw[Bg];exact Vk _ _ _,λ f hf=>by
 rw[dA] at hf
 rcases List.mem_append.1 hf with h|h
 ·exact .inr (.inl h)
 ·refine .inr (.inr ?_)
  simpa[aK] using h⟩
theorem H5{A B B1:Fr}(h:∀f∈B,f∈A):∀f∈B1++B,f∈B1++A:=λ f hf=>(List.mem_append.1 hf).elim (λ h=>List.mem_append_left _ h) λ hf=>List.mem_append_right _ (h f hf)
theorem aW.iw{A B1:Fr}{O:List Ow}:aW A B1 O (B1++A):=aW.of λ f hf=>(List.mem_append.1 hf).elim (λ h=>.inr (.inr (.inl h))) λ h=>.inr (.inl h)
theorem aW.zj{A F:Fr}{O:List Ow}{x y:Option Addr×List Value}:aW A (x::y::F) O (x::y::A):=aW.of λ f hf=>by
 rcases List.mem_cons.1 hf with h|hf
 ·exact .inr (.inr (.inl (by rw[h];simp)))
 ·rcases List.mem_cons.1 hf with h|hf
  ·exact .inr (.inr (.inl (by rw[h];simp)))
  ·exact .inr (.inl hf)
theorem Uh{A B:Fr}{x y:Option Addr×List Value}(h:∀f∈B,f∈A):∀f∈x::y::B,f∈x::y::A:=λ f hf=>(List.mem_cons.1 hf).elim (λ h=>h▸List.mem_cons_self ..) λ hf=>(List.mem_cons.1 hf).elim (λ h=>h▸List.mem_cons_of_mem _ (List.mem_cons_self ..)) λ hf=>List.mem_cons_of_mem _ (List.mem_cons_of_mem _ (h f hf))
theorem U7{P:Program}{S:List (Nat×Value)}{d:Nat}{ty t:TypeId}{pos:String}{af:Array Edge}{gd:Option (Nat×Bool)}{w0:World}{M:List Nat}{H:List (Nat×Obj)}{z:Value}(hz:cL P t=some z)(h1:z.oneCell'=true):bE P S (St w0 M H) ⟨some d,.alloc t,ty,pos,af,gd⟩ Nat (λ b=>.pointer (some ⟨b,0,none⟩)) (λ b=>St w0 M ((b,.cells ⟨[z]⟩ t (0,0))::H)) :=
 Wz (λ w _=>by
  have e:z.cells = #[z]:=by cases z<;>simp_all[Value.cells,Value.oneCell']
  simp[execOp,Instr.alloc,On hz,newVar,newRow,e])
end
end Go.Ct
namespace Go.Proofs.YtbajmaoegmbfgaaGreat
section
open Go Go.RowKit Go.Ct
section
variable{D:List Nat}{A:Fr}{a:AS}{b:Nat}{w:World}
theorem Vi(ok:a.Ok)(hm:a.mm.Small)(hA:∀f∈aK a.L,f∈A)(r:Int)(hr:r<=a.mm.nodes.length)(hs:SF w D [(b,fH a)] A [] (fM a) w) :
  Calls Tryz.prog 36 #[.pointer (some ⟨b,0,none⟩),.int .i64 r] w λ e w'=>∃q:Option Addr×Option Addr,e=.returned (.agg ⟨((aB (cZ a.L) r).at_ q.1 q.2).nd.cells⟩)/\True /\
  SF w D [(b,fH a)] [] [] (fM a++[⟨q.2,cU (aB (cZ a.L) r).ys,(aB (cZ a.L) r).ys.length,164,2⟩,⟨q.1,aG (aB (cZ a.L) r).xs,(aB (cZ a.L) r).xs.length,37,1⟩]) w':=by
 have h1:=hm.1
 have h2:=bc a
 exact Vg (hs.aAK hA) ok.fit r (by omega) (by omega)
theorem Je{S:List (Nat×Value)}{w0:World}{M:List Nat}{H H':List (Nat×Obj)}{F:Fr}{O O':List Ow}{ty:TypeId}{pos:String}{af:Array Edge}{gd:Option (Nat×Bool)}{is js:List Nat}{recv:Operand}{xs:List Operand}{at_:Array TypeId}{dst:Option Nat}{H1:Option Addr×Option Addr->List (Nat×Obj)}{F1:Option Addr×Option Addr->Fr}{O1:Option Addr×Option Addr->List Ow}
  (r:Int) (ok:a.Ok) (hm:a.mm.Small) (hA:∀f∈aK a.L,f∈A) (hr:r<=a.mm.nodes.length) (hx:ev S recv=.iface 42 (.pointer (some ⟨b,0,none⟩)):=by exact rfl) (ha:qS S xs=[.int .i64 r]:=by exact evD) (hH:lX H is [(b,fH a)] H':=by exact Y2) (hO:lX O js (fM a) O':=by exact Y2)
  (hl1:is.length=1:=by exact rfl) (hl2:js.length=2:=by exact rfl) (hH1:∀x,iQ is [(b,fH a)] H'=H1 x:=by intro x;simp only[iQ,qW];exact rfl) (hF1:∀x,[]++F=F1 x:=by intro x;exact rfl)
  (hO1:∀x,[⟨x.2,cU (aB (cZ a.L) r).ys,(aB (cZ a.L) r).ys.length,164,2⟩,⟨x.1,aG (aB (cZ a.L) r).xs,(aB (cZ a.L) r).xs.length,37,1⟩]++iQ js (fM a) O'=O1 x:=by intro x;simp only[iQ,qW,mW,List.nil_append,List.cons_append];exact rfl) :
  bE Tryz.prog S (SF w0 M H A F O) ⟨dst,.call {callee:=.invoke recv "Node",args:=⟨xs⟩,argTypes:=at_},ty,pos,af,gd⟩ (Option Addr×Option Addr) (λ q=>.agg ⟨((aB (cZ a.L) r).at_ q.1 q.2).nd.cells⟩) (λ x w=>True/\SF w0 M (H1 x) A (F1 x) (O1 x) w) :=
 aCr (hs:=[(b,fH a)]) (os:=fM a) (A0:=A) (hs':=λ _=>[(b,fH a)]) (os':=λ _=>fM a) (Fc:=λ _=>[]) (Oc:=λ q=>[⟨q.2,cU (aB (cZ a.L) r).ys,(aB (cZ a.L) r).ys.length,164,2⟩,⟨q.1,aG (aB (cZ a.L) r).xs,(aB (cZ a.L) r).xs.length,37,1⟩]) hx ha (λ w=>gu _ _ w) (λ w1 hw=>Vi ok hm hA r hr hw) hH hO (aW.of λ _ h=>.inr (.inl h)) (λ _=>hl1) (λ _=>hl2) hH1 hF1 hO1
theorem Gv(ok:a.Ok)(hm:a.mm.Small){n:Nd}{xs:List Int}{ys:List Pr}(init:Int)(e1:n.brN=xs.length)(e2:n.prN=ys.length)(hx:xs.length<=274877906944)(hy:ys.length<=274877906944)(hA:∀f∈[(n.brA,aG xs),(n.prA,cU ys)],f∈A)(hs:SF w D [(b,fH a)] A [] (fM a) w) :
  Calls Tryz.prog 29 #[.pointer (some ⟨b,0,none⟩),n.v,.int .i64 init] w λ e w'=>∃x:AX,e=.returned (.int .i64 ((a.mm.nodes.length+1:Nat):Int))/\True/\SF w D [(b,fH (a.al n xs ys init x))] [] (kV n xs ys a.cs.length x).fr (fM (a.al n xs ys init x)) w':=by
 have h1:=hm.1
 have h3:a.cs.length<=137438953472:=hm.2
 have h2:=bc a
 rw[show a.mm.nodes.length+1=a.L.length+3 by omega]
 exact Z5 init (hs.aAK hA) e1 e2 hx hy (by omega) (by omega)
end
end

/- Pairs: an arena is made of a memory; a pair is added. -/
end Go.Proofs.YtbajmaoegmbfgaaGreat
namespace Go.Ct
section
open Go Go.RowKit
abbrev XS.a0(z:XS):XS:={z with acc:=0}
theorem XS.Ok.mo{x:XS}(h:x.Ok):Zv x.mm:=by
 have hl:x.mm.nodes.length=x.L.length:=by show(x.L.map aP.c).length=_;rw[List.length_map]
 refine⟨λ v hv=>?_,λ v hv=>?_,by have:=h.two;omega⟩
 ·obtain⟨u,hu,rfl⟩:=List.mem_map.1 hv
  rw[hl]
  exact h.nd u hu
 ·rw[hl];exact h.cs v hv
end
end Go.Ct
namespace Go.Proofs.YtbajmaoegmbfgaaGreat
section
open Go Go.RowKit Go.Ct
abbrev jZ(z:XS):List Ow:=[⟨z.pn,hU z.L,z.cn,47,14⟩,⟨z.pc,aG z.cs,z.cc,37,1⟩]
theorem Yv{bm:Nat}{z:XS}{D:List Nat}{A:Fr}{w:World}(ok:z.Ok)(hp:gV z.L z.cs z.gen)(hl:z.L.length<=137438953472)(hc:z.cs.length<=137438953472)(hA:∀f∈aK z.L,f∈A)(hs:SF w D [(bm,xM z)] A [] (jZ z) w) :
    Calls Tryz.prog 24 #[.pointer (some ⟨bm,0,none⟩)] w λ e w'=>∃q:Nat×AS,e=.returned (.pointer (some ⟨q.1,0,none⟩))/\(q.2.mm=z.mm/\q.2.Ok)/\SF w D ([(bm,xM z.a0)]++[(q.1,fH q.2)]) [] (aK q.2.L) (jZ z++fM q.2) w':=by
  refine enter Tryz.func24 Tryz.ntmps24 rfl rfl hs ?_
  simp only[bX]
  refine cO ?_;refine Ia ?_;refine aC (aQ (k:=3) rf cQ eD (by simp only[List.drop_zero,List.take_succ_cons,List.take_zero];exact rfl) rfl) rfl ?_;refine aD (Pn (V:=λ x:Nat×List aP×(Option Addr×Nat)×(Option Addr×Nat)=>.tuple #[.pointer (some ⟨x.1,0,none⟩),.int .i64 0]) (Hc:=λ x=>[(x.1,aO x.2.1 z.cs z.gen 0 x.2.2.1.1 x.2.2.1.2 x.2.2.2.1 x.2.2.2.2)]) (Fc:=λ x=>aK x.2.1) (Oc:=λ x=>mW x.2.1 z.cs x.2.2.1.1 x.2.2.1.2 x.2.2.2.1 x.2.2.2.2) (hc:=λ w1 hw=>j5 (L:=z.L) (cs:=z.cs) (hw.zO (.inr (.inr (.inr ⟨_,.head _,rfl,rfl⟩))) (.inr (.inr (.inr ⟨_,.tail _ (.head _),rfl,rfl⟩))) (λ f hf=>.inr (.inl (hA f hf))) ok.fit) (by omega) (by omega) (hw.yi .head) hp)) (λ x10 h10=>?_);refine Ev ?_;refine J8 ?_;refine kB ?_;refine lS ?_;refine aH ?_
  refine bB (λ c14=>?_) (λ c14=>?_)
  · exact nv c14
  · refine bA ?_;refine J13 ?_;refine uK ?_;refine J2 ?_;refine J1 ?_
    refine aT Tryz.results24 (λ w hw=>?_)
    have e1:(⟨x10.2.1,z.cs,z.gen,0,x10.2.2.1.1,x10.2.2.1.2,x10.2.2.2.1,x10.2.2.2.2⟩:AS).mm=z.mm:=by
     show Mm.mk ((cZ x10.2.1).map aP.c) z.cs z.gen=Mm.mk (z.L.map aP.c) z.cs z.gen
     rw[h10.1]
    refine⟨(x10.1,⟨x10.2.1,z.cs,z.gen,0,x10.2.2.1.1,x10.2.2.1.2,x10.2.2.2.1,x10.2.2.2.2⟩),rfl,⟨e1,⟨h10.2,by rw[e1];exact ok.mo⟩⟩,?_⟩
    exact(hw.perm (H':=[(bm,xM z.a0),(x10.1,_)]) (O':=jZ z++mW x10.2.1 z.cs x10.2.2.1.1 x10.2.2.1.2 x10.2.2.2.1 x10.2.2.2.2) (List.Perm.swap _ _ _) (List.perm_append_comm (l₁:=jZ z))).ret (List.Sublist.refl _) (aY.hX λ f hf=>by simpa using hf) (List.Sublist.refl _)
theorem Bo.add{ba Bz C m bx tb:Nat}{S:LS}{k:Cl}{x1:XS}{N:List aP}{dn:Bool}{rs:Rs}{c:Cd}{F:Fr}{a1:AS}(hS:Bo ba Bz C S)(hq:tS (T0 k m) (T0 k m) 0 0 Rs.zero (XS.new S.z.L S.z.cs S.z.gen S.z.acc S.z.pn S.z.cn S.z.pc S.z.cc) x1 N dn rs)(ho:mS ba (Ct.iO (T0 k m) S.a.mm) S.a S.B (c,F,a1))(hk:Yo k)(hm:m<18446744073709551616)(em:k.mask=(m:Int))(ht:k.t.root<=9223372036854775807)(ha:k.a<=S.z.L.length)(hb:k.b<=S.z.L.length)(hn:k.n<=S.z.L.length) :
  ∃R,Bo ba (Bz+64) C ⟨a1,x1,S.l++[⟨⟨bx,k,x1,dn,rs,R⟩,m,tb,c,0⟩],F++S.B⟩/\x1.mm=(Ct.iO (T0 k m) S.z.mm).2/\R=(Ct.iO (T0 k m) S.z.mm).1:=by
 obtain⟨R,j,h1,h2,h3,h4,h5,h6,h7⟩:=hq.exN
 have hj:j=0:=by omega
 subst hj
 replace h5:x1.L=S.z.L++N:=h5
 replace h4:Rc 0 (T0 k m) S.z.mm R x1.mm:=h4
 have est:Ct.iO (T0 k m) S.z.mm=(R,x1.mm):=zb h4 (uZ h3)
 have hlen:S.z.L.length<=x1.L.length:=by rw[h5,List.length_append];omega
 have hle:S.z.mm.Le x1.mm:=⟨⟨N.map aP.c,by show x1.L.map aP.c=_;rw[h5,List.map_append];rfl⟩,h6⟩
 rw[hS.mm] at ho
 obtain⟨⟨y1,y2⟩,y3,y4⟩:=ho
 rw[est] at y1 y2
 have hg:x1.got.length=0:=by have:x1.got.length+0=0+0:=h7;omega
 refine⟨R,⟨h3.ok,y3,y2,Iw (jY k m (n:=0) (by decide)) h4 (Nat.le_refl _) hS.sz,λ q hq=>?_,λ q hq=>?_⟩,by rw[est],by rw[est]⟩
 ·rcases List.mem_append.1 hq with hq|hq
  ·exact((hS.p q hq).wm h3.ok h5)
  ·rw[List.mem_singleton.1 hq]
   exact⟨h3,hk,hm,em,ht,by show k.a<=x1.L.length;omega,by show k.b<=x1.L.length;omega,by show k.n<=x1.L.length;omega,hg,Nat.zero_le _⟩
 ·rcases List.mem_append.1 hq with hq|hq
  ·exact((hS.rp q hq).le (hS.p q hq).rest hle).more λ x hx=>List.mem_append_right _ hx
  ·rw[List.mem_singleton.1 hq]
   exact y1
theorem Bo.none{ba Bz:Nat}{a:AS}{z:XS}(hz:z.Ok)(ha:a.Ok)(hm:a.mm=z.mm)(hs:Sz z Bz):Bo ba Bz 0 ⟨a,z,[],[]⟩:=⟨hz,ha,hm,hs,(λ p hp=>nomatch hp),(λ p hp=>nomatch hp)⟩
theorem oT{m B C E:Nat}{W:Wd}(h:P9 m B C E W):gV W.z.L W.z.cs W.z.gen:=by
 obtain⟨σ,hi⟩:=h.wr.inv
 have e1:σ.mm.nodes=W.z.L.map aP.c:=by rw[hi.mm];rfl
 have e2:σ.mm.cs=W.z.cs:=by rw[hi.mm];rfl
 have e3:σ.mm.gen=W.z.gen:=by rw[hi.mm];rfl
 have:=hi.inv.prop
 rw[e2,e3] at this
 exact this.to e1.symm
theorem Tk:dJ Tryz.prog 108 76 [.pointer none,.pointer none]:=lB (z:=.agg ⟨[.pointer none,.pointer none]⟩) (by kernel_rfl) (by kernel_rfl) rfl
theorem En{f:FuncId}{vs:Array Value}{w:World}{D:List Nat}{b:Nat}{φ:Nat×Cd×Fr×AS->Prop}(h:Calls Tryz.prog f vs w λ e w'=>∃x:Nat×Cd×Fr×AS,e=.returned (.pointer (some ⟨x.1,0,none⟩))/\φ x/\SF w D [(x.1,tO b x.2.1 0),(b,fH x.2.2.2)] [] x.2.2.1 (fM x.2.2.2) w') :
  Calls Tryz.prog f vs w λ e w'=>∃x:Nat×Cd×Fr×AS,e=.returned (.pointer (some ⟨x.1,0,none⟩))/\φ x/\SF w D ([(b,fH x.2.2.2)]++[(x.1,tO b x.2.1 0)]) [] x.2.2.1 (fM x.2.2.2++[]) w' :=
 h.mono λ _ _ ⟨x,e,h,hw⟩=>⟨x,e,h,by rw[List.append_nil];exact hw.perm (List.Perm.swap _ _ _) (List.Perm.refl _)⟩
end

/- gcas: back, Complete, decide. -/
section
open Go Go.RowKit Go.Ct
abbrev lJ(b:Nat)(t:gK):List Value:=[.iface 42 (.pointer (some ⟨b,0,none⟩)),.int .i64 t.root,.bool t.ro]
def jq(prev p:Int)(c:Bool)(K:Bool->Tr):Tr:=if c=true then .kY prev p 0 K else .alloc (yT p) 0 λ f=>.kY prev p f K
theorem qL{a:AS}(hm:a.mm.Small){x:Int}(h:x<=a.mm.cs.length):x<=9223372036854775807:=by have:=hm.2;omega
theorem Db{a:AS}(ok:a.Ok)(r:Int):lD a.mm.nodes.length a.mm.cs.length (aB (cZ a.L) r).c:=by rw[<- mB];exact ok.mo.at r
section
variable{D:List Nat}{A B:Fr}{a:AS}{b:Nat}{w:World}{f:FuncId}{cap:List Value}{t:gK}
theorem cx{K:Int->Tr}{v:Int}{s:Mm}{b2 b3:Nat}(hK:Ex b K s f cap B)(hv:v<=s.nodes.length)(o:Bool):wM b 201 [pt b2,pt b3] [.bool o] (bx b3 [.int .i64 v]::bx b2 [fn f cap]::B) s (K v):=by
 intro a D A w em ok hm hA hB hw0
 subst em
 have hK2:=hK.more (B2:=(bx b3 [.int .i64 v]::bx b2 [fn f cap]::B)) (λ x hx=>by simp[hx])
 refine enter Tryz.func201 Tryz.ntmps201 rfl rfl hw0 ?_
 simp only[bX]
 refine J0 ?_;refine aJ (λ x4=>?_);refine aH ?_;refine J0 ?_;refine aC (qI b2 [fn f cap] 0 hB rfl) rfl ?_;refine aC (qI b3 [.int .i64 v] 0 hB rfl) rfl ?_;refine aD (T5 hK.1 (hK2.2 v a.mm (Mm.Le.refl _) hv) ok hm hA hB) (λ x7 h7=>?_);refine cP (jA λ _=>bO rf cQ rf (dM _) eD rf kO) (λ _=>?_);refine aH ?_
 refine bC Tryz.results201 (λ w hw=>?_)
 exact⟨x7,rfl,h7,hw.rN⟩
theorem A5{K:Int->Tr}{v:Int}{s:Mm}{b2 b3:Nat}(hK:Ex b K s f cap B)(hv:v<=s.nodes.length)(o:Bool):wM b 174 [pt b2,pt b3] [.bool o] (bx b3 [.int .i64 v]::bx b2 [fn f cap]::B) s (K v):=by
 intro a D A w em ok hm hA hB hw0
 subst em
 have hK2:=hK.more (B2:=(bx b3 [.int .i64 v]::bx b2 [fn f cap]::B)) (λ x hx=>by simp[hx])
 refine enter Tryz.func174 Tryz.ntmps174 rfl rfl hw0 ?_
 simp only[bX]
 refine J0 ?_;refine aJ (λ x4=>?_);refine aH ?_;refine J0 ?_;refine aC (qI b2 [fn f cap] 0 hB rfl) rfl ?_;refine aC (qI b3 [.int .i64 v] 0 hB rfl) rfl ?_;refine aD (T5 hK.1 (hK2.2 v a.mm (Mm.Le.refl _) hv) ok hm hA hB) (λ x7 h7=>?_);refine cP (jA λ _=>bO rf cQ rf (dM _) eD rf kO) (λ _=>?_);refine aH ?_
 refine bC Tryz.results174 (λ w hw=>?_)
 exact⟨x7,rfl,h7,hw.rN⟩
theorem Vz{K:Int->Tr}{i m p:Int}(hK:Ex b K a.mm f cap B)(hi:i<=a.mm.nodes.length)(hmm:m<=a.mm.nodes.length)(hp:p<=a.mm.nodes.length)(ok:a.Ok)(hm:a.mm.Small)(hA:∀f∈aK a.L,f∈A)(hB:∀x∈B,x∈A)(hs:SF w D [(b,fH a)] A [] (fM a) w) :
  Calls Tryz.prog 163 #[.agg ⟨lJ b t⟩,.int .i64 i,.int .i64 m,.int .i64 p,fn f cap] w (Ea b (λ c' s' B'=>kZ b (Qc i m p K) a.mm c' s' B') a B D w):=by
 have ni:=Db ok i
 have np:=Db ok p
 refine enter Tryz.func163 Tryz.ntmps163 rfl rfl hs ?_
 simp only[bX]
 refine J0 ?_;refine bI (λ x5=>?_);refine bI (λ x9=>?_);refine aJ (λ x10=>?_);refine aH ?_;refine gZ ?_;refine aA ?_;refine aD (Je p ok hm hA hp) (λ x15 h15=>?_);refine cC ?_;refine aS (jA λ _=>U7 (z:=.int .i64 0) (by kernel_rfl) rfl) (λ x11=>?_);refine J5 ?_;refine aV ?_;refine dK [(0,[]),(1,[]),(2,[]),(5,[]),(6,[]),(7,[]),(3,[6]),(4,[]),(8,[]),(9,[])] ?_;refine kG ?_;refine iH ?_;refine bG ?_;(refine cA (i:=7) (hq:=(dD (by(repeat (first|exact dC _|(apply cI;focus ((conv=>{lhs;whnf});try exact rfl))));done))) (h:=?_));refine aZ (i:=3) (hq:=(Je i ok hm hA hi)) (h:=λ x20 h20=>?_);refine oS ?_;refine cH (i:=8) (hq:=(cV (hc:=λ w1 hw=>zF _ _ _ _ _ w1))) (h:=λ x25=>?_);refine kN (i:=9) (hq:=(jA λ _=>bO rf cQ rf (dM _) eD rf kO)) (h:=λ _=>?_);refine dY ?_
 refine bC Tryz.results163 (λ w hw=>?_)
 refine⟨(yL (aB (cZ a.L) i).nd.main m (aB (cZ a.L) p).nd.bK _ _,[bx x11 [.int .i64 (aB (cZ a.L) p).nd.bK],bx x9 [fn f cap]],a),rfl,⟨?_,ok,(AS.jF.refl a).more (λ _ h=>(List.not_mem_nil h).elim)⟩,?_⟩
 ·refine⟨hi,hp,?_⟩
  rw[mB,mB]
  refine⟨rfl,qL hm ni.main,np.bK,_,_,rfl,by kernel_rfl,λ v s1 l=>?_⟩
  show zK b _ _ _ _ s1 λ c' s' B'=>p<=s1.nodes.length/\kZ b (K (cD s1.nodes p).bK) s1 c' s' B'
  rw[l.nd hp,mB]
  have hlen:=l.len
  exact(cx (hK.le l) (by have h2:(aB (cZ a.L) p).nd.bK<=a.mm.nodes.length:=np.bK;omega) v).more (λ _ h=>h) λ c m C C2 hC h=>⟨by omega,h.more hC⟩
 ·exact((hw.dG (.tail (.tail .head))).dG .head).rI
theorem Cz{K:Int->Tr}{v s:Int}(ht:t.root<=9223372036854775807)(hK:Ex b K a.mm f cap B)(hv:v<=a.mm.nodes.length)(ok:a.Ok)(hm:a.mm.Small)(hA:∀f∈aK a.L,f∈A)(hB:∀x∈B,x∈A)(hs:SF w D [(b,fH a)] A [] (fM a) w) :
  Calls Tryz.prog 141 #[.agg ⟨lJ b t⟩,.int .i64 v,.int .i64 s,fn f cap] w (Ea b (λ c' s' B'=>kZ b (vJ t v s K) a.mm c' s' B') a B D w):=by
 have nv:=Db ok v
 refine enter Tryz.func141 Tryz.ntmps141 rfl rfl hs ?_
 simp only[bX]
 refine J0 ?_;refine bI (λ x4=>?_);refine bI (λ x7=>?_);refine aJ (λ x8=>?_);refine aH ?_;refine gZ ?_;refine aA ?_;refine aD (Je v ok hm hA hv) (λ x14 h14=>?_);refine aJ (λ x9=>?_);refine J5 ?_;refine gZ ?_;refine aS (jA λ _=>U7 (z:=.int .i64 0) (by kernel_rfl) rfl) (λ x10=>?_);refine J5 ?_;refine kB ?_;refine uG ?_
 refine bB (λ c18=>?_) (λ c18=>?_)
 ·refine dL ?_;refine J3 ?_;refine J5 ?_;refine J0 ?_;refine aE ?_;refine J3 ?_;refine aA ?_;refine bL ?_;(refine aC (dD (by(repeat (first|exact dC _|(apply cI;focus ((conv=>{lhs;whnf});try exact rfl))));done)) rfl ?_);refine aS (cV (hc:=λ w1 hw=>zF _ _ _ _ _ w1)) (λ x27=>?_);refine cP (jA λ _=>bO rf cQ rf (dM _) eD rf kO) (λ _=>?_);refine aH ?_
  refine bC Tryz.results141 (λ w hw=>?_)
  refine⟨(yL t.root v (aB (cZ a.L) v).nd.new _ _,[bx x10 [.int .i64 (aB (cZ a.L) v).nd.new],bx x7 [fn f cap]],a),rfl,⟨?_,ok,(AS.jF.refl a).more (λ _ h=>(List.not_mem_nil h).elim)⟩,?_⟩
  ·refine⟨hv,?_⟩
   rw[mB]
   have e:(if s=1 then(aB (cZ a.L) v).c.new else(aB (cZ a.L) v).c.bK)=(aB (cZ a.L) v).nd.new:=by exact if_pos (by omega)
   dsimp only
   rw[e]
   refine⟨rfl,ht,nv.new,_,_,rfl,by kernel_rfl,λ o s1 l=>?_⟩
   have hlen:=l.len
   exact A5 (hK.le l) (by have h2:(aB (cZ a.L) v).nd.new<=a.mm.nodes.length:=nv.new;omega) o
  ·exact((hw.dG (.tail (.tail (.tail .head)))).dG .head).rI
 ·refine bA ?_;refine J0 ?_;refine aE ?_;refine J3 ?_;refine aA ?_;refine bL ?_;(refine aC (dD (by(repeat (first|exact dC _|(apply cI;focus ((conv=>{lhs;whnf});try exact rfl))));done)) rfl ?_);refine aS (cV (hc:=λ w1 hw=>zF _ _ _ _ _ w1)) (λ x27=>?_);refine cP (jA λ _=>bO rf cQ rf (dM _) eD rf kO) (λ _=>?_);refine aH ?_
  refine bC Tryz.results141 (λ w hw=>?_)
  refine⟨(yL t.root v (aB (cZ a.L) v).nd.bK _ _,[bx x10 [.int .i64 (aB (cZ a.L) v).nd.bK],bx x7 [fn f cap]],a),rfl,⟨?_,ok,(AS.jF.refl a).more (λ _ h=>(List.not_mem_nil h).elim)⟩,?_⟩
  ·refine⟨hv,?_⟩
   rw[mB]
   have e:(if s=1 then(aB (cZ a.L) v).c.new else(aB (cZ a.L) v).c.bK)=(aB (cZ a.L) v).nd.bK:=by exact if_neg (by omega)
   dsimp only
   rw[e]
   refine⟨rfl,ht,nv.bK,_,_,rfl,by kernel_rfl,λ o s1 l=>?_⟩
   have hlen:=l.len
   exact A5 (hK.le l) (by have h2:(aB (cZ a.L) v).nd.bK<=a.mm.nodes.length:=nv.bK;omega) o
  ·exact((hw.dG (.tail (.tail (.tail .head)))).dG .head).rI
theorem Jv{K:Bool->Tr}{prev p:Int}{c:Bool}(hK:Yg b K a.mm f cap B)(hpr:prev<=a.mm.cs.length)(hp:p<=a.mm.nodes.length)(ok:a.Ok)(hm:a.mm.Small)(hA:∀f∈aK a.L,f∈A)(hB:∀x∈B,x∈A)(hs:SF w D [(b,fH a)] A [] (fM a) w) :
  Calls Tryz.prog 166 #[.agg ⟨lJ b t⟩,.int .i64 prev,.int .i64 p,.bool c,fn f cap] w (Ea b (λ c' s' B'=>kZ b (jq prev p c K) a.mm c' s' B') a B D w):=by
 refine enter Tryz.func166 Tryz.ntmps166 rfl rfl hs ?_
 simp only[bX]
 refine J0 ?_;refine bI (λ x5=>?_);refine aJ (λ x10=>?_);refine aH ?_;refine kB ?_;refine aH ?_
 refine bB (λ c12=>?_) (λ c12=>?_)
 ·refine iR ?_;refine aA ?_;refine aS (cV (hc:=λ w1 hw=>zF _ _ _ _ _ w1)) (λ x16=>?_);refine cP (jA λ _=>bO rf cQ rf (dM _) eD rf kO) (λ _=>?_);refine aH ?_
  refine bC Tryz.results166 (λ w hw=>?_)
  refine⟨(yL prev p 0 f cap,[],a),rfl,⟨?_,ok,AS.jF.refl a⟩,hw.rI⟩
  unfold jq
  rw[if_pos (by assumption)]
  exact⟨rfl,qL hm hpr,bH _,f,cap,rfl,hK.1,λ v s1 l=>hK.2 v s1 l⟩
 ·refine jV ?_;refine dK [(0,[]),(1,[]),(2,[]),(4,[]),(5,[]),(3,[1]),(6,[]),(7,[])] ?_;refine kG ?_;refine aN ?_;refine cA (i:=4) (hq:=(Nz rf)) (h:=?_);refine aN ?_;refine cH (i:=3) (hq:=(cV (hc:=λ w1 hw=>jy p w1))) (h:=λ x20=>?_);refine aZ (i:=6) (hq:=(cMI (V:=λ _:AX=>.int .i64 ((a.mm.nodes.length+1:Nat):Int)) (hs:=[(b,fH a)]) (os:=fM a) (A0:=[(none,aG []),(none,cU [])]) (hs':=λ x=>[(b,fH (a.al ({Nd.zero with kind:=7,bK:=p}:Nd) [] [] 0 x))]) (os':=λ x=>fM (a.al ({Nd.zero with kind:=7,bK:=p}:Nd) [] [] 0 x)) (Fc:=λ x=>(kV ({Nd.zero with kind:=7,bK:=p}:Nd) [] [] a.cs.length x).fr) (hm:=λ w=>Xu _ _ _ w) (hc:=λ w1 hw=>Gv ok hm 0 rfl rfl (by simp) (by simp) (λ f hf=>hf) hw))) (h:=λ x23 h23=>?_);refine J7 ?_;refine iR ?_;refine pE ?_;refine aS (cV (hc:=λ w1 hw=>zF _ _ _ _ _ w1)) (λ x28=>?_);refine cP (jA λ _=>bO rf cQ rf (dM _) eD rf kO) (λ _=>?_);refine aH ?_
  refine bC Tryz.results166 (λ w hw=>?_)
  refine⟨(yL prev p ((a.mm.nodes.length+1:Nat):Int) f cap,(kV ({Nd.zero with kind:=7,bK:=p}:Nd) [] [] a.cs.length x23).fr,a.al ({Nd.zero with kind:=7,bK:=p}:Nd) [] [] 0 x23),rfl,⟨?_,ok.al x23 (by simp) (by simp) ⟨?_,bH _,bH _,(λ r hr=>nomatch hr),bH _,bH _,bH _,⟨0,rfl,by decide⟩,⟨0,rfl,by decide⟩⟩ (by omega),AS.jF.al a _ _ _ _ x23⟩,hw.rI⟩
  ·unfold jq
   rw[if_neg (by simp_all)]
   have hl:=Vk a.mm (yT p) 0
   refine⟨Bg a _ _ _ _ x23,?_,?_,f,cap,rfl,hK.1,λ v s1 l=>(hK.2 v s1 (hl.trans l)).more (λ x hx=>List.mem_append_right _ hx) λ _ _ _ _ hC h=>h.more hC⟩
   ·have:=hl.cl;have:=hm.2;omega
   ·show _<=(((a.mm.nodes++[_]).length:Nat):Int)
    rw[List.length_append]
    simp
  ·show p<=_
   exact hp
end
end

end Go.Proofs.YtbajmaoegmbfgaaGreat

/- Pairs: the next one to step; the steps of pair number k. -/
import Derived.Test.YtbajmaoegmbfgaaGreatGDp3
import Derived.Test.YtbajmaoegmbfgaaGreatGVw1
import Derived.Test.YtbajmaoegmbfgaaGreatGTt1
import Derived.Test.YtbajmaoegmbfgaaGreatGBr

set_option linter.unusedSimpArgs false
set_option linter.unusedVariables false
namespace Go.Proofs.YtbajmaoegmbfgaaGreat
section
open Go Go.RowKit Go.Ct
section
variable{ba bm Bz C:Nat}{D:List Nat}{A:Fr}{w:World}{S:LS}
end
section
variable{ba bm Bz C tp:Nat}{D:List Nat}{w:World}{S:LS}{l:List Int}{a pa:Option Addr}{c pc pos:Nat}
end
end

/- Pairs: Run. -/
section
open Go Go.RowKit Go.Ct
section
variable{ba bm Bz C:Nat}{D:List Nat}{A:Fr}{w:World}{S:LS}{ps:List (Nat×Nat)}
end
structure LY where
 i:Nat
 S:LS
 pos:Nat
 G:Fr
end

/- Calls with an arena; loads out of captured boxes. -/
end Go.Proofs.YtbajmaoegmbfgaaGreat
namespace Go.Ct
section
open Go Go.RowKit
abbrev bx(b:Nat)(cs:List Value):Option Addr×List Value:=(some ⟨b,0,none⟩,cs)
abbrev pt(b:Nat):Value:=.pointer (some ⟨b,0,none⟩)
abbrev fn(f:FuncId)(cap:List Value):Value:=.func (.func f) #[] ⟨cap⟩
abbrev iv(n:Int):Value:=.int .i64 n
theorem Yw{α:Type}{l l' xs:List α}{is:List Nat}(h:mC l is xs l':=by(repeat (first|exact mC.nil|(apply mC.cons;(focus ((repeat (first|exact zK.head|apply zK.tail));done));simp only[qW])));first|done|fail):mC l is xs l':=h
theorem evD{S:List (Nat×Value)}{xs:List Operand}{vs:List Value}(h:qZ S xs=vs:=by(repeat (first|exact cH _|(apply bV;focus ((conv=>{lhs;whnf});try exact rfl))));first|done|fail):qZ S xs=vs:=h
section
variable{w0 w:World}{M:List Nat}{H H':List (Nat×Obj)}{A F:Fr}{O O':List Ow}
theorem SF.rI(h:SF w0 M H A F O w)(hH:H'.Sublist H:=by repeat (first|exact List.Sublist.refl _|apply List.Sublist.cons))(hO:O'.Sublist O:=by repeat (first|exact List.Sublist.refl _|apply List.Sublist.cons)):SF w0 M H' [] F O' w:=h.ret hH aV.all hO
theorem SF.rN(h:SF w0 M H A (F++[]) O w)(hH:H'.Sublist H:=by repeat (first|exact List.Sublist.refl _|apply List.Sublist.cons))(hO:O'.Sublist O:=by repeat (first|exact List.Sublist.refl _|apply List.Sublist.cons)):SF w0 M H' [] F O' w:=h.ret hH (aV.iM λ f hf=>by simpa using hf) hO
variable{P:Program}{S:List (Nat×Value)}{d:Nat}{ty t:TypeId}{pos:String}{af:Array Edge}{gd:Option (Nat×Bool)}{x:Operand}{v:Value}{vs:List Value}{B:Fr}
theorem nQ(b:Nat)(cs:List Value)(q:Nat)(hB:∀x∈B,x∈A)(hq:cs[q]?=some v)(hx:ev S x=.pointer (some ⟨b,q,none⟩):=by exact rfl)(ht:one P t=true:=by first|exact Hl rfl|kernel_rfl)(hm:bx b cs∈B:=by simp):aM P S (SF w0 M H A F O) ⟨some d,.load t x,ty,pos,af,gd⟩ v :=
 fg (a:=some ⟨b,0,none⟩) (q:=q) (hx.trans (by simp[cU,eJ])) ht (.bA (Bt.tH (hB _ hm))) hq
theorem Qv(b:Nat)(cs:List Value)(q k:Nat)(hB:∀x∈B,x∈A)(hv:(cs.drop q).take k=vs)(hl:vs.length=k)(hx:ev S x=.pointer (some ⟨b,q,none⟩):=by exact rfl)(ht:kH P t k=true:=by exact eF)(hm:bx b cs∈B:=by simp):aM P S (SF w0 M H A F O) ⟨some d,.load t x,ty,pos,af,gd⟩ (.agg ⟨vs⟩) :=
 On (a:=some ⟨b,0,none⟩) (q:=q) (hx.trans (by simp[cU,eJ])) ht (.bA (Bt.tH (hB _ hm))) hv hl
end
end
end Go.Ct
namespace Go.Proofs.YtbajmaoegmbfgaaGreat
section
open Go Go.RowKit Go.Ct
abbrev pA(b:Nat)(f:FuncId)(cap arg:List Value)(B:Fr)(s:Mm)(T:Tr):Prop:=zQ b f cap arg B s λ c' s' B'=>lW b T s c' s' B'
theorem zQ.mr{b:Nat}{f:FuncId}{cap arg:List Value}{B B2:Fr}{s:Mm}{T:Tr}(h:pA b f cap arg B s T)(hb:∀x∈B,x∈B2):pA b f cap arg B2 s T:=h.more hb λ _ _ _ _ hC h=>h.more hC
section
variable{S:List (Nat×Value)}{w0 w:World}{M:List Nat}{H H':List (Nat×Obj)}{A A0 F B:Fr}{O O':List Ow}{ty:TypeId}{pos:String}{af:Array Edge}{gd:Option (Nat×Bool)}{b:Nat}{a:AS}{R:Cd->Mm->Fr->Prop}{is js:List Nat}{f:FuncId}{xs:List Operand}{at_:Array TypeId}{vs cap:List Value}{dst:Option Nat}{x:Operand}{H1:Cd×Fr×AS->List (Nat×Obj)}{F1:Cd×Fr×AS->Fr}{O1:Cd×Fr×AS->List Ow}
theorem Cn(hc:∀w,SF w (Ks [(b,dV a)] (eC a)) [(b,dV a)] A0 [] (eC a) w->Calls Tryz.prog f ⟨vs⟩ w (Av b R a B (Ks [(b,dV a)] (eC a)) w))
  (ha:qZ S xs=vs:=by exact evD) (hp:plain Tryz.prog f=true:=by kernel_rfl) (hH:mC H is [(b,dV a)] H':=by exact Yw) (hO:mC O js (eC a) O':=by exact Yw) (hA:bB A F O' A0:=by exact bB.of (λ _ h=>Or.inr (Or.inl h)))
  (hl1:is.length=1:=by exact rfl) (hl2:js.length=2:=by exact rfl)
  (hH1:∀y,iX is [(b,dV y.2.2)] H'=H1 y:=by intro x;simp only[iX,rD];exact rfl) (hF1:∀y,y.2.1++F=F1 y:=by intro x;exact rfl) (hO1:∀y,iX js (eC y.2.2) O'=O1 y:=by intro x;simp only[iX,rD,mW];exact rfl) :
  bG Tryz.prog S (SF w0 M H A F O) ⟨dst,.call {callee:=.value (.func f),args:=⟨xs⟩,argTypes:=at_},ty,pos,af,gd⟩ (Cd×Fr×AS) (λ y=>.agg ⟨y.1.cells⟩) (λ y w=>(R y.1 y.2.2.mm (y.2.1++B)/\y.2.2.Ok/\a.iD y.2.2 y.2.1)/\SF w0 M (H1 y) A (F1 y) (O1 y) w) :=
 cM (hs:=[(b,dV a)]) (os:=eC a) (hs':=λ y:Cd×Fr×AS=>[(b,dV y.2.2)]) (os':=λ y=>eC y.2.2) (Fc:=λ y=>y.2.1) ha hp hc hH hO hA (λ _=>hl1) (λ _=>hl2) hH1 hF1 hO1
theorem Na(hp:plain Tryz.prog f=true)(hk:zQ b f cap vs B a.mm R)(ok:a.Ok)(hm:a.mm.Small)(hA0:∀f∈aL a.L,f∈A)(hB:∀x∈B,x∈A)(hx:ev S x=.func (.func f) #[] ⟨cap⟩:=by exact rfl)
  (ha:qZ S xs=vs:=by exact evD) (hH:mC H is [(b,dV a)] H':=by exact Yw) (hO:mC O js (eC a) O':=by exact Yw)
  (hl1:is.length=1:=by exact rfl) (hl2:js.length=2:=by exact rfl)
  (hH1:∀y,iX is [(b,dV y.2.2)] H'=H1 y:=by intro x;simp only[iX,rD];exact rfl) (hF1:∀y,y.2.1++F=F1 y:=by intro x;exact rfl) (hO1:∀y,iX js (eC y.2.2) O'=O1 y:=by intro x;simp only[iX,rD,mW];exact rfl) :
  bG Tryz.prog S (SF w0 M H A F O) ⟨dst,.call {callee:=.value x,args:=⟨xs⟩,argTypes:=at_},ty,pos,af,gd⟩ (Cd×Fr×AS) (λ y=>.agg ⟨y.1.cells⟩) (λ y w=>(R y.1 y.2.2.mm (y.2.1++B)/\y.2.2.Ok/\a.iD y.2.2 y.2.1)/\SF w0 M (H1 y) A (F1 y) (O1 y) w) :=
 cMf (V:=λ y:Cd×Fr×AS=>.agg ⟨y.1.cells⟩) (hs:=[(b,dV a)]) (os:=eC a) (hs':=λ y:Cd×Fr×AS=>[(b,dV y.2.2)]) (os':=λ y=>eC y.2.2) (Fc:=λ y=>y.2.1) (A0:=A) hx ha hp (λ w hw=>hk a _ A w rfl ok hm hA0 hB hw) hH hO (bB.of λ _ h=>.inr (.inl h)) (λ _=>hl1) (λ _=>hl2) hH1 hF1 hO1
end
end

/- Procedures of the program as codes: calls of the arena through the interface. -/
end Go.Proofs.YtbajmaoegmbfgaaGreat
namespace Go.Ct
section
open Go Go.RowKit
theorem SF.aBw{w0 w:World}{M:List Nat}{H:List (Nat×Obj)}{A A' F:Fr}{O:List Ow}(h:SF w0 M H A F O w)(hA:∀f∈A',f∈A):SF w0 M H A' F O w:=⟨h.st,λ f hf=>h.bA f (hA f hf),h.new,h.own,h.dis⟩
abbrev AS.al(a:AS)(n:Nd)(xs:List Int)(ys:List Pr)(init:Int)(x:AX):AS:=⟨a.L++[jU n xs ys a.cs.length x],fN n.kind a.cs init,a.gen,a.acc,x.pn,x.cn,x.pc,x.cc⟩
theorem iN{a:AS}(r:Int):bQ a.mm.nodes r=(aB (cN a.L) r).c:=(uH _ _).symm
theorem Ht(a:AS):a.mm.nodes.length=a.L.length+2:=by show((cN a.L).map aP.c).length=_;rw[List.length_map,kA]
theorem je{n c c':Nat}{v:Nv}{i:Int}{cs:List Int}(hb:mB n c {v with main:=0,prev:=0,status:=0})(hc:c=cs.length)(h1:n+1=c'):mB c' (fN v.kind cs i).length (dK v c):=by
 subst hc
 have hcs:=gN (k:=v.kind) (cs:=cs) (init:=i)
 have hb':=hb.mono (n':=c') (c':=(fN v.kind cs i).length) (by omega) hcs.1
 refine⟨hb'.bA,hb'.exp,hb'.new,hb'.br,?_,?_,?_,hb'.bm,hb'.hash⟩
 ·show(if v.kind=2 then((cs.length+1:Nat):Int) else 0)<=_
  split
  ·rename_i hk;unfold fN;rw[if_pos (.inl hk)];simp
  ·omega
 ·show(if v.kind=3∨v.kind=5∨v.kind=6 then((cs.length+1:Nat):Int) else 0)<=_
  split
  ·rename_i hk;unfold fN;rw[if_pos (by omega)];simp
  ·omega
 ·show(if v.kind=8 then((cs.length+1:Nat):Int) else 0)<=_
  split
  ·rename_i hk;unfold fN;rw[if_pos (by omega)];simp
  ·omega
theorem Vj.push{s:Mm}(h:Vj s){v:Nv}{i:Int}(hb:mB s.nodes.length s.cs.length {v with main:=0,prev:=0,status:=0})(hi:i<=s.nodes.length+1):Vj (s.push v i):=by
 have hcs:=gN (k:=v.kind) (cs:=s.cs) (init:=i)
 have hl:(s.nodes++[dK v s.cs.length]).length=s.nodes.length+1:=by simp
 refine⟨λ u hu=>?_,λ u hu=>?_,by have:=h.two;show 2<=(s.nodes++[dK v s.cs.length]).length;omega⟩
 ·show mB (s.nodes++[dK v s.cs.length]).length (fN v.kind s.cs i).length u
  rcases List.mem_append.1 hu with hu|hu
  ·exact(h.nd u hu).mono (by omega) hcs.1
  ·rw[List.mem_singleton.1 hu]
   exact je hb rfl hl.symm
 ·show u<=((s.nodes++[dK v s.cs.length]).length:Int)
  have hu':u∈fN v.kind s.cs i:=hu
  unfold fN at hu'
  split at hu'
  ·rcases List.mem_append.1 hu' with h2|h2
   ·have:=h.cs u h2;omega
   ·rw[List.mem_singleton.1 h2];omega
  ·have:=h.cs u hu';omega
theorem pQ(a:AS)(n:Nd)(xs:List Int)(ys:List Pr)(init:Int)(x:AX):(a.al n xs ys init x).mm=a.mm.push (n.c xs ys) init:=by
 unfold AS.mm Mm.push
 simp only[cN,List.map_cons,List.map_append,List.map_nil,List.cons_append]
 rfl
theorem AS.Ok.al{a:AS}(ok:a.Ok){n:Nd}{xs:List Int}{ys:List Pr}{init:Int}(x:AX)(hx:xs.length<=274877906944)(hy:ys.length<=274877906944)(hb:mB a.mm.nodes.length a.mm.cs.length {n.c xs ys with main:=0,prev:=0,status:=0})(hi:init<=a.mm.nodes.length+1):(a.al n xs ys init x).Ok:=by
 refine⟨λ v hv=>?_,by rw[pQ];exact ok.mo.push hb hi⟩
 rcases List.mem_append.1 hv with hv|hv
 ·exact ok.fit v hv
 ·rw[List.mem_singleton.1 hv];exact Gv (by omega) (by omega)
theorem Mi(s:Mm)(v:Nv)(i:Int):s.Le (s.push v i):=⟨⟨_,rfl⟩,gN.1⟩
theorem AS.iD.al(a:AS)(n:Nd)(xs:List Int)(ys:List Pr)(init:Int)(x:AX):a.iD (a.al n xs ys init x) (jU n xs ys a.cs.length x).fr:=⟨by rw[pQ];exact Mi _ _ _,λ f hf=>by
 rw[dE] at hf
 rcases List.mem_append.1 hf with h|h
 ·exact .inr (.inl h)
 ·refine .inr (.inr ?_)
  simpa[aL] using h⟩
theorem Gq{A B B1:Fr}(h:∀f∈B,f∈A):∀f∈B1++B,f∈B1++A:=λ f hf=>(List.mem_append.1 hf).elim (λ h=>List.mem_append_left _ h) λ hf=>List.mem_append_right _ (h f hf)
theorem bB.Z5{A B1:Fr}{O:List Ow}:bB A B1 O (B1++A):=bB.of λ f hf=>(List.mem_append.1 hf).elim (λ h=>.inr (.inr (.inl h))) λ h=>.inr (.inl h)
theorem bB.xy{A F:Fr}{O:List Ow}{x:Option Addr×List Value}:bB A (x::F) O (x::A):=bB.of λ f hf=>by
 rcases List.mem_cons.1 hf with h|hf
 ·exact .inr (.inr (.inl (by rw[h];simp)))
 ·exact .inr (.inl hf)
theorem T7{A B:Fr}{x:Option Addr×List Value}(h:∀f∈B,f∈A):∀f∈x::B,f∈x::A:=λ f hf=>(List.mem_cons.1 hf).elim (λ h=>h▸List.mem_cons_self ..) λ hf=>List.mem_cons_of_mem _ (h f hf)
theorem bB.ll{A F:Fr}{O:List Ow}{x y:Option Addr×List Value}:bB A (x::y::F) O (x::y::A):=bB.of λ f hf=>by
 rcases List.mem_cons.1 hf with h|hf
 ·exact .inr (.inr (.inl (by rw[h];simp)))
 ·rcases List.mem_cons.1 hf with h|hf
  ·exact .inr (.inr (.inl (by rw[h];simp)))
  ·exact .inr (.inl hf)
theorem Fs{A B:Fr}{x y:Option Addr×List Value}(h:∀f∈B,f∈A):∀f∈x::y::B,f∈x::y::A:=λ f hf=>(List.mem_cons.1 hf).elim (λ h=>h▸List.mem_cons_self ..) λ hf=>(List.mem_cons.1 hf).elim (λ h=>h▸List.mem_cons_of_mem _ (List.mem_cons_self ..)) λ hf=>List.mem_cons_of_mem _ (List.mem_cons_of_mem _ (h f hf))
theorem Ih{P:Program}{S:List (Nat×Value)}{d:Nat}{ty t:TypeId}{pos:String}{af:Array Edge}{gd:Option (Nat×Bool)}{w0:World}{M:List Nat}{H:List (Nat×Obj)}{z:Value}(hz:cX P t=some z)(h1:z.oneCell'=true):bG P S (St w0 M H) ⟨some d,.alloc t,ty,pos,af,gd⟩ Nat (λ b=>.pointer (some ⟨b,0,none⟩)) (λ b=>St w0 M ((b,.cells ⟨[z]⟩ t (0,0))::H)) :=
 W7 (λ w _=>by
  have e:z.cells = #[z]:=by cases z<;>simp_all[Value.cells,Value.oneCell']
  simp[execOp,Instr.alloc,Pp hz,newVar,newRow,e])
end
end Go.Ct
namespace Go.Proofs.YtbajmaoegmbfgaaGreat
section
open Go Go.RowKit Go.Ct
section
variable{D:List Nat}{A:Fr}{a:AS}{b:Nat}{w:World}
theorem Wt(ok:a.Ok)(hm:a.mm.Small)(hA:∀f∈aL a.L,f∈A)(r:Int)(hr:r<=a.mm.nodes.length)(hs:SF w D [(b,dV a)] A [] (eC a) w) :
  Calls Tryz.prog 36 #[.pointer (some ⟨b,0,none⟩),.int .i64 r] w λ e w'=>∃q:Option Addr×Option Addr,e=.returned (.agg ⟨((aB (cN a.L) r).at_ q.1 q.2).nd.cells⟩)/\True /\
  SF w D [(b,dV a)] [] [] (eC a++[⟨q.2,cZ (aB (cN a.L) r).ys,(aB (cN a.L) r).ys.length,164,2⟩,⟨q.1,aH (aB (cN a.L) r).xs,(aB (cN a.L) r).xs.length,37,1⟩]) w':=by
 have h1:=hm.1
 have h2:=Ht a
 exact L0 (hs.aBw hA) ok.fit r (by omega) (by omega)
theorem I6{S:List (Nat×Value)}{w0:World}{M:List Nat}{H H':List (Nat×Obj)}{F:Fr}{O O':List Ow}{ty:TypeId}{pos:String}{af:Array Edge}{gd:Option (Nat×Bool)}{is js:List Nat}{recv:Operand}{xs:List Operand}{at_:Array TypeId}{dst:Option Nat}{H1:Option Addr×Option Addr->List (Nat×Obj)}{F1:Option Addr×Option Addr->Fr}{O1:Option Addr×Option Addr->List Ow}
  (r:Int) (ok:a.Ok) (hm:a.mm.Small) (hA:∀f∈aL a.L,f∈A) (hr:r<=a.mm.nodes.length) (hx:ev S recv=.iface 42 (.pointer (some ⟨b,0,none⟩)):=by exact rfl) (ha:qZ S xs=[.int .i64 r]:=by exact evD) (hH:mC H is [(b,dV a)] H':=by exact Yw) (hO:mC O js (eC a) O':=by exact Yw)
  (hl1:is.length=1:=by exact rfl) (hl2:js.length=2:=by exact rfl) (hH1:∀x,iX is [(b,dV a)] H'=H1 x:=by intro x;simp only[iX,rD];exact rfl) (hF1:∀x,[]++F=F1 x:=by intro x;exact rfl)
  (hO1:∀x,[⟨x.2,cZ (aB (cN a.L) r).ys,(aB (cN a.L) r).ys.length,164,2⟩,⟨x.1,aH (aB (cN a.L) r).xs,(aB (cN a.L) r).xs.length,37,1⟩]++iX js (eC a) O'=O1 x:=by intro x;simp only[iX,rD,mW,List.nil_append,List.cons_append];exact rfl) :
  bG Tryz.prog S (SF w0 M H A F O) ⟨dst,.call {callee:=.invoke recv "Node",args:=⟨xs⟩,argTypes:=at_},ty,pos,af,gd⟩ (Option Addr×Option Addr) (λ q=>.agg ⟨((aB (cN a.L) r).at_ q.1 q.2).nd.cells⟩) (λ x w=>True/\SF w0 M (H1 x) A (F1 x) (O1 x) w) :=
 aB5 (hs:=[(b,dV a)]) (os:=eC a) (A0:=A) (hs':=λ _=>[(b,dV a)]) (os':=λ _=>eC a) (Fc:=λ _=>[]) (Oc:=λ q=>[⟨q.2,cZ (aB (cN a.L) r).ys,(aB (cN a.L) r).ys.length,164,2⟩,⟨q.1,aH (aB (cN a.L) r).xs,(aB (cN a.L) r).xs.length,37,1⟩]) hx ha (λ w=>Oj _ _ w) (λ w1 hw=>Wt ok hm hA r hr hw) hH hO (bB.of λ _ h=>.inr (.inl h)) (λ _=>hl1) (λ _=>hl2) hH1 hF1 hO1
theorem dk(ok:a.Ok)(hm:a.mm.nodes.length<=274877906944)(r:Int)(hr:r<=9223372036854775807)(hs:SF w D [(b,dV a)] (aL a.L) [] (eC a) w) :
  Calls Tryz.prog 36 #[.pointer (some ⟨b,0,none⟩),.int .i64 r] w λ e w'=>∃q:Option Addr×Option Addr,e=.returned (.agg ⟨((aB (cN a.L) r).at_ q.1 q.2).nd.cells⟩)/\True /\
  SF w D [(b,dV a)] [] [] (eC a++[⟨q.2,cZ (aB (cN a.L) r).ys,(aB (cN a.L) r).ys.length,164,2⟩,⟨q.1,aH (aB (cN a.L) r).xs,(aB (cN a.L) r).xs.length,37,1⟩]) w':=by
 have h2:=Ht a
 exact L0 hs ok.fit r hr (by omega)
theorem sC(ok:a.Ok)(hm:a.mm.Small){n:Nd}{xs:List Int}{ys:List Pr}(init:Int)(e1:n.brN=xs.length)(e2:n.prN=ys.length)(hx:xs.length<=274877906944)(hy:ys.length<=274877906944)(hA:∀f∈[(n.brA,aH xs),(n.prA,cZ ys)],f∈A)(hs:SF w D [(b,dV a)] A [] (eC a) w) :
  Calls Tryz.prog 29 #[.pointer (some ⟨b,0,none⟩),n.v,.int .i64 init] w λ e w'=>∃x:AX,e=.returned (.int .i64 ((a.mm.nodes.length+1:Nat):Int))/\True/\SF w D [(b,dV (a.al n xs ys init x))] [] (jU n xs ys a.cs.length x).fr (eC (a.al n xs ys init x)) w':=by
 have h1:=hm.1
 have h3:a.cs.length<=137438953472:=hm.2
 have h2:=Ht a
 rw[show a.mm.nodes.length+1=a.L.length+3 by omega]
 exact ck init (hs.aBw hA) e1 e2 hx hy (by omega) (by omega)
end
end

/- Pairs: an arena is made of a memory; a pair is added. -/
end Go.Proofs.YtbajmaoegmbfgaaGreat
namespace Go.Ct
section
open Go Go.RowKit
abbrev XS.a0(z:XS):XS:={z with acc:=0}
theorem XS.Ok.mo{x:XS}(h:x.Ok):Vj x.mm:=by
 have hl:x.mm.nodes.length=x.L.length:=by show(x.L.map aP.c).length=_;rw[List.length_map]
 refine⟨λ v hv=>?_,λ v hv=>?_,by have:=h.two;omega⟩
 ·obtain⟨u,hu,rfl⟩:=List.mem_map.1 hv
  rw[hl]
  exact h.nd u hu
 ·rw[hl];exact h.cs v hv
end
end Go.Ct
namespace Go.Proofs.YtbajmaoegmbfgaaGreat
section
open Go Go.RowKit Go.Ct
abbrev kP(z:XS):List Ow:=[⟨z.pn,iO z.L,z.cn,47,14⟩,⟨z.pc,aH z.cs,z.cc,37,1⟩]
theorem Y2{bm:Nat}{z:XS}{D:List Nat}{A:Fr}{w:World}(ok:z.Ok)(hp:fP z.L z.cs z.gen)(hl:z.L.length<=137438953472)(hc:z.cs.length<=137438953472)(hA:∀f∈aL z.L,f∈A)(hs:SF w D [(bm,xM z)] A [] (kP z) w) :
    Calls Tryz.prog 24 #[.pointer (some ⟨bm,0,none⟩)] w λ e w'=>∃q:Nat×AS,e=.returned (.pointer (some ⟨q.1,0,none⟩))/\(q.2.mm=z.mm/\q.2.Ok)/\SF w D ([(bm,xM z.a0)]++[(q.1,dV q.2)]) [] (aL q.2.L) (kP z++eC q.2) w':=by
  refine enter Tryz.func24 Tryz.ntmps24 rfl rfl hs ?_
  simp only[cA]
  refine cS ?_;refine I1 ?_;refine aC (aR (k:=3) rf cY eF (by simp only[List.drop_zero,List.take_succ_cons,List.take_zero];exact rfl) rfl) rfl ?_;refine aD (Sv (V:=λ x:Nat×List aP×(Option Addr×Nat)×(Option Addr×Nat)=>.tuple #[.pointer (some ⟨x.1,0,none⟩),.int .i64 0]) (Hc:=λ x=>[(x.1,aO x.2.1 z.cs z.gen 0 x.2.2.1.1 x.2.2.1.2 x.2.2.2.1 x.2.2.2.2)]) (Fc:=λ x=>aL x.2.1) (Oc:=λ x=>mW x.2.1 z.cs x.2.2.1.1 x.2.2.1.2 x.2.2.2.1 x.2.2.2.2) (hc:=λ w1 hw=>fl (L:=z.L) (cs:=z.cs) (hw.Hi (.inr (.inr (.inr ⟨_,.head _,rfl,rfl⟩))) (.inr (.inr (.inr ⟨_,.tail _ (.head _),rfl,rfl⟩))) (λ f hf=>.inr (.inl (hA f hf))) ok.fit) (by omega) (by omega) (hw.xh .head) hp)) (λ x10 h10=>?_);refine Kb5 ?_;refine Kc6 ?_
  refine bD (λ c14=>?_) (λ c14=>?_)
  · exact nv c14
  · refine aW ?_;refine J13 ?_;refine vF ?_;refine Ka5 ?_
    refine aQ Tryz.results24 (λ w hw=>?_)
    have e1:(⟨x10.2.1,z.cs,z.gen,0,x10.2.2.1.1,x10.2.2.1.2,x10.2.2.2.1,x10.2.2.2.2⟩:AS).mm=z.mm:=by
     show Mm.mk ((cN x10.2.1).map aP.c) z.cs z.gen=Mm.mk (z.L.map aP.c) z.cs z.gen
     rw[h10.1]
    refine⟨(x10.1,⟨x10.2.1,z.cs,z.gen,0,x10.2.2.1.1,x10.2.2.1.2,x10.2.2.2.1,x10.2.2.2.2⟩),rfl,⟨e1,⟨h10.2,by rw[e1];exact ok.mo⟩⟩,?_⟩
    exact(hw.perm (H':=[(bm,xM z.a0),(x10.1,_)]) (O':=kP z++mW x10.2.1 z.cs x10.2.2.1.1 x10.2.2.1.2 x10.2.2.2.1 x10.2.2.2.2) (List.Perm.swap _ _ _) (List.perm_append_comm (l₁:=kP z))).ret (List.Sublist.refl _) (aV.iM λ f hf=>by simpa using hf) (List.Sublist.refl _)
theorem tE{m B C E:Nat}{W:Wd}(h:Ns m B C E W):fP W.z.L W.z.cs W.z.gen:=by
 obtain⟨σ,hi⟩:=h.wr.inv
 have e1:σ.mm.nodes=W.z.L.map aP.c:=by rw[hi.mm];rfl
 have e2:σ.mm.cs=W.z.cs:=by rw[hi.mm];rfl
 have e3:σ.mm.gen=W.z.gen:=by rw[hi.mm];rfl
 have:=hi.inv.prop
 rw[e2,e3] at this
 exact this.to e1.symm
theorem K6{f:FuncId}{vs:Array Value}{w:World}{D:List Nat}{b:Nat}{φ:Nat×Cd×Fr×AS->Prop}(h:Calls Tryz.prog f vs w λ e w'=>∃x:Nat×Cd×Fr×AS,e=.returned (.pointer (some ⟨x.1,0,none⟩))/\φ x/\SF w D [(x.1,tO b x.2.1 0),(b,dV x.2.2.2)] [] x.2.2.1 (eC x.2.2.2) w') :
  Calls Tryz.prog f vs w λ e w'=>∃x:Nat×Cd×Fr×AS,e=.returned (.pointer (some ⟨x.1,0,none⟩))/\φ x/\SF w D ([(b,dV x.2.2.2)]++[(x.1,tO b x.2.1 0)]) [] x.2.2.1 (eC x.2.2.2++[]) w' :=
 h.mono λ _ _ ⟨x,e,h,hw⟩=>⟨x,e,h,by rw[List.append_nil];exact hw.perm (List.Perm.swap _ _ _) (List.Perm.refl _)⟩
end

end Go.Proofs.YtbajmaoegmbfgaaGreat

/- Calls with an arena; loads out of captured boxes. -/
import Derived.Test.YtbajmaoegmbfgaaGreatGTp2
import Derived.Test.YtbajmaoegmbfgaaGreatGNode3
import Derived.Test.YtbajmaoegmbfgaaGreatGLk1

set_option linter.unusedSimpArgs false
set_option linter.unusedVariables false
namespace Go.Ct
section
open Go Go.RowKit
abbrev bx(b:Nat)(cs:List Value):Option Addr×List Value:=(some ⟨b,0,none⟩,cs)
abbrev pt(b:Nat):Value:=.pointer (some ⟨b,0,none⟩)
abbrev fn(f:FuncId)(cap:List Value):Value:=.func (.func f) #[] ⟨cap⟩
abbrev iv(n:Int):Value:=.int .i64 n
theorem Yb{α:Type}{l l' xs:List α}{is:List Nat}(h:lQ l is xs l':=by(repeat (first|exact lQ.nil|(apply lQ.cons;(focus ((repeat (first|exact yV.head|apply yV.tail));done));simp only[qE])));first|done|fail):lQ l is xs l':=h
theorem evD{S:List (Nat×Value)}{xs:List Operand}{vs:List Value}(h:qJ S xs=vs:=by(repeat (first|exact dB _|(apply cI;focus ((conv=>{lhs;whnf});try exact rfl))));first|done|fail):qJ S xs=vs:=h
section
variable{w0 w:World}{M:List Nat}{H H':List (Nat×Obj)}{A F:Fr}{O O':List Ow}
theorem SF.rI(h:SF w0 M H A F O w)(hH:H'.Sublist H:=by repeat (first|exact List.Sublist.refl _|apply List.Sublist.cons))(hO:O'.Sublist O:=by repeat (first|exact List.Sublist.refl _|apply List.Sublist.cons)):SF w0 M H' [] F O' w:=h.ret hH aX.all hO
theorem SF.rN(h:SF w0 M H A (F++[]) O w)(hH:H'.Sublist H:=by repeat (first|exact List.Sublist.refl _|apply List.Sublist.cons))(hO:O'.Sublist O:=by repeat (first|exact List.Sublist.refl _|apply List.Sublist.cons)):SF w0 M H' [] F O' w:=h.ret hH (aX.hJ λ f hf=>by simpa using hf) hO
variable{P:Program}{S:List (Nat×Value)}{d:Nat}{ty t:TypeId}{pos:String}{af:Array Edge}{gd:Option (Nat×Bool)}{x:Operand}{v:Value}{vs:List Value}{B:Fr}
theorem qC(b:Nat)(cs:List Value)(q:Nat)(hB:∀x∈B,x∈A)(hq:cs[q]?=some v)(hx:ev S x=.pointer (some ⟨b,q,none⟩):=by exact rfl)(ht:one P t=true:=by first|exact M4 rfl|kernel_rfl)(hm:bx b cs∈B:=by simp):aL P S (SF w0 M H A F O) ⟨some d,.load t x,ty,pos,af,gd⟩ v :=
 Zm (a:=some ⟨b,0,none⟩) (q:=q) (hx.trans (by simp[cL,eA])) ht (.bK (vV.kE (hB _ hm))) hq
theorem im(b:Nat)(cs:List Value)(q k:Nat)(hB:∀x∈B,x∈A)(hv:(cs.drop q).take k=vs)(hl:vs.length=k)(hx:ev S x=.pointer (some ⟨b,q,none⟩):=by exact rfl)(ht:iS P t k=true:=by exact eC)(hm:bx b cs∈B:=by simp):aL P S (SF w0 M H A F O) ⟨some d,.load t x,ty,pos,af,gd⟩ (.agg ⟨vs⟩) :=
 Hp (a:=some ⟨b,0,none⟩) (q:=q) (hx.trans (by simp[cL,eA])) ht (.bK (vV.kE (hB _ hm))) hv hl
end
end
end Go.Ct
namespace Go.Proofs.YtbajmaoegmbfgaaGreat
section
open Go Go.RowKit Go.Ct
abbrev vQ(b:Nat)(f:FuncId)(cap arg:List Value)(B:Fr)(s:Mm)(T:Tr):Prop:=zG b f cap arg B s λ c' s' B'=>kV b T s c' s' B'
theorem zG.mr{b:Nat}{f:FuncId}{cap arg:List Value}{B B2:Fr}{s:Mm}{T:Tr}(h:vQ b f cap arg B s T)(hb:∀x∈B,x∈B2):vQ b f cap arg B2 s T:=h.more hb λ _ _ _ _ hC h=>h.more hC
section
variable{S:List (Nat×Value)}{w0 w:World}{M:List Nat}{H H':List (Nat×Obj)}{A A0 F B:Fr}{O O':List Ow}{ty:TypeId}{pos:String}{af:Array Edge}{gd:Option (Nat×Bool)}{b:Nat}{a:AS}{R:Cd->Mm->Fr->Prop}{is js:List Nat}{f:FuncId}{xs:List Operand}{at_:Array TypeId}{vs cap:List Value}{dst:Option Nat}{x:Operand}{H1:Cd×Fr×AS->List (Nat×Obj)}{F1:Cd×Fr×AS->Fr}{O1:Cd×Fr×AS->List Ow}
theorem It(hc:∀w,SF w (Ks [(b,fS a)] (gI a)) [(b,fS a)] A0 [] (gI a) w->Calls Tryz.prog f ⟨vs⟩ w (Dx b R a B (Ks [(b,fS a)] (gI a)) w))
  (ha:qJ S xs=vs:=by exact evD) (hp:plain Tryz.prog f=true:=by kernel_rfl) (hH:lQ H is [(b,fS a)] H':=by exact Yb) (hO:lQ O js (gI a) O':=by exact Yb) (hA:bA A F O' A0:=by exact bA.of (λ _ h=>Or.inr (Or.inl h)))
  (hl1:is.length=1:=by exact rfl) (hl2:js.length=2:=by exact rfl)
  (hH1:∀y,iO is [(b,fS y.2.2)] H'=H1 y:=by intro x;simp only[iO,qV];exact rfl) (hF1:∀y,y.2.1++F=F1 y:=by intro x;exact rfl) (hO1:∀y,iO js (gI y.2.2) O'=O1 y:=by intro x;simp only[iO,qV,mW];exact rfl) :
  bE Tryz.prog S (SF w0 M H A F O) ⟨dst,.call {callee:=.value (.func f),args:=⟨xs⟩,argTypes:=at_},ty,pos,af,gd⟩ (Cd×Fr×AS) (λ y=>.agg ⟨y.1.cells⟩) (λ y w=>(R y.1 y.2.2.mm (y.2.1++B)/\y.2.2.Ok/\a.jM y.2.2 y.2.1)/\SF w0 M (H1 y) A (F1 y) (O1 y) w) :=
 cM (hs:=[(b,fS a)]) (os:=gI a) (hs':=λ y:Cd×Fr×AS=>[(b,fS y.2.2)]) (os':=λ y=>gI y.2.2) (Fc:=λ y=>y.2.1) ha hp hc hH hO hA (λ _=>hl1) (λ _=>hl2) hH1 hF1 hO1
theorem So(hp:plain Tryz.prog f=true)(hk:zG b f cap vs B a.mm R)(ok:a.Ok)(hm:a.mm.Small)(hA0:∀f∈aM a.L,f∈A)(hB:∀x∈B,x∈A)(hx:ev S x=.func (.func f) #[] ⟨cap⟩:=by exact rfl)
  (ha:qJ S xs=vs:=by exact evD) (hH:lQ H is [(b,fS a)] H':=by exact Yb) (hO:lQ O js (gI a) O':=by exact Yb)
  (hl1:is.length=1:=by exact rfl) (hl2:js.length=2:=by exact rfl)
  (hH1:∀y,iO is [(b,fS y.2.2)] H'=H1 y:=by intro x;simp only[iO,qV];exact rfl) (hF1:∀y,y.2.1++F=F1 y:=by intro x;exact rfl) (hO1:∀y,iO js (gI y.2.2) O'=O1 y:=by intro x;simp only[iO,qV,mW];exact rfl) :
  bE Tryz.prog S (SF w0 M H A F O) ⟨dst,.call {callee:=.value x,args:=⟨xs⟩,argTypes:=at_},ty,pos,af,gd⟩ (Cd×Fr×AS) (λ y=>.agg ⟨y.1.cells⟩) (λ y w=>(R y.1 y.2.2.mm (y.2.1++B)/\y.2.2.Ok/\a.jM y.2.2 y.2.1)/\SF w0 M (H1 y) A (F1 y) (O1 y) w) :=
 cMf (V:=λ y:Cd×Fr×AS=>.agg ⟨y.1.cells⟩) (hs:=[(b,fS a)]) (os:=gI a) (hs':=λ y:Cd×Fr×AS=>[(b,fS y.2.2)]) (os':=λ y=>gI y.2.2) (Fc:=λ y=>y.2.1) (A0:=A) hx ha hp (λ w hw=>hk a _ A w rfl ok hm hA0 hB hw) hH hO (bA.of λ _ h=>.inr (.inl h)) (λ _=>hl1) (λ _=>hl2) hH1 hF1 hO1
end
end

/- Procedures of the program as codes: calls of the arena through the interface. -/
end Go.Proofs.YtbajmaoegmbfgaaGreat
namespace Go.Ct
section
open Go Go.RowKit
theorem SF.aAO{w0 w:World}{M:List Nat}{H:List (Nat×Obj)}{A A' F:Fr}{O:List Ow}(h:SF w0 M H A F O w)(hA:∀f∈A',f∈A):SF w0 M H A' F O w:=⟨h.st,λ f hf=>h.bK f (hA f hf),h.new,h.own,h.dis⟩
abbrev AS.al(a:AS)(n:Nd)(xs:List Int)(ys:List Pr)(init:Int)(x:AX):AS:=⟨a.L++[oE n xs ys a.cs.length x],gJ n.kind a.cs init,a.gen,a.acc,x.pn,x.cn,x.pc,x.cc⟩
theorem lY{a:AS}(r:Int):cG a.mm.nodes r=(aB (cY a.L) r).c:=(Aq _ _).symm
theorem iq(a:AS):a.mm.nodes.length=a.L.length+2:=by show((cY a.L).map aP.c).length=_;rw[List.length_map,fQ]
theorem zx{n c c':Nat}{v:Nv}{i:Int}{cs:List Int}(hb:mP n c {v with main:=0,prev:=0,status:=0})(hc:c=cs.length)(h1:n+1=c'):mP c' (gJ v.kind cs i).length (dW v c):=by
 subst hc
 have hcs:=lF (k:=v.kind) (cs:=cs) (init:=i)
 have hb':=hb.mono (n':=c') (c':=(gJ v.kind cs i).length) (by omega) hcs.1
 refine⟨hb'.bK,hb'.exp,hb'.new,hb'.br,?_,?_,?_,hb'.bm,hb'.hash⟩
 ·show(if v.kind=2 then((cs.length+1:Nat):Int) else 0)<=_
  split
  ·rename_i hk;unfold gJ;rw[if_pos (.inl hk)];simp
  ·omega
 ·show(if v.kind=3∨v.kind=5∨v.kind=6 then((cs.length+1:Nat):Int) else 0)<=_
  split
  ·rename_i hk;unfold gJ;rw[if_pos (by omega)];simp
  ·omega
 ·show(if v.kind=8 then((cs.length+1:Nat):Int) else 0)<=_
  split
  ·rename_i hk;unfold gJ;rw[if_pos (by omega)];simp
  ·omega
theorem Zg.push{s:Mm}(h:Zg s){v:Nv}{i:Int}(hb:mP s.nodes.length s.cs.length {v with main:=0,prev:=0,status:=0})(hi:i<=s.nodes.length+1):Zg (s.push v i):=by
 have hcs:=lF (k:=v.kind) (cs:=s.cs) (init:=i)
 have hl:(s.nodes++[dW v s.cs.length]).length=s.nodes.length+1:=by simp
 refine⟨λ u hu=>?_,λ u hu=>?_,by have:=h.two;show 2<=(s.nodes++[dW v s.cs.length]).length;omega⟩
 ·show mP (s.nodes++[dW v s.cs.length]).length (gJ v.kind s.cs i).length u
  rcases List.mem_append.1 hu with hu|hu
  ·exact(h.nd u hu).mono (by omega) hcs.1
  ·rw[List.mem_singleton.1 hu]
   exact zx hb rfl hl.symm
 ·show u<=((s.nodes++[dW v s.cs.length]).length:Int)
  have hu':u∈gJ v.kind s.cs i:=hu
  unfold gJ at hu'
  split at hu'
  ·rcases List.mem_append.1 hu' with h2|h2
   ·have:=h.cs u h2;omega
   ·rw[List.mem_singleton.1 h2];omega
  ·have:=h.cs u hu';omega
theorem Eu(a:AS)(n:Nd)(xs:List Int)(ys:List Pr)(init:Int)(x:AX):(a.al n xs ys init x).mm=a.mm.push (n.c xs ys) init:=by
 unfold AS.mm Mm.push
 simp only[cY,List.map_cons,List.map_append,List.map_nil,List.cons_append]
 rfl
theorem AS.Ok.al{a:AS}(ok:a.Ok){n:Nd}{xs:List Int}{ys:List Pr}{init:Int}(x:AX)(hx:xs.length<=274877906944)(hy:ys.length<=274877906944)(hb:mP a.mm.nodes.length a.mm.cs.length {n.c xs ys with main:=0,prev:=0,status:=0})(hi:init<=a.mm.nodes.length+1):(a.al n xs ys init x).Ok:=by
 refine⟨λ v hv=>?_,by rw[Eu];exact ok.mo.push hb hi⟩
 rcases List.mem_append.1 hv with hv|hv
 ·exact ok.fit v hv
 ·rw[List.mem_singleton.1 hv];exact Lu (by omega) (by omega)
theorem T4(s:Mm)(v:Nv)(i:Int):s.Le (s.push v i):=⟨⟨_,rfl⟩,lF.1⟩
theorem AS.jM.al(a:AS)(n:Nd)(xs:List Int)(ys:List Pr)(init:Int)(x:AX):a.jM (a.al n xs ys init x) (oE n xs ys a.cs.length x).fr:=⟨by rw[Eu];exact T4 _ _ _,λ f hf=>by
 rw[dH] at hf
 rcases List.mem_append.1 hf with h|h
 ·exact .inr (.inl h)
 ·refine .inr (.inr ?_)
  simpa[aM] using h⟩
theorem E9{A B B1:Fr}(h:∀f∈B,f∈A):∀f∈B1++B,f∈B1++A:=λ f hf=>(List.mem_append.1 hf).elim (λ h=>List.mem_append_left _ h) λ hf=>List.mem_append_right _ (h f hf)
theorem bA.jk{A B1:Fr}{O:List Ow}:bA A B1 O (B1++A):=bA.of λ f hf=>(List.mem_append.1 hf).elim (λ h=>.inr (.inr (.inl h))) λ h=>.inr (.inl h)
theorem bA.wb{A F:Fr}{O:List Ow}{x y:Option Addr×List Value}:bA A (x::y::F) O (x::y::A):=bA.of λ f hf=>by
 rcases List.mem_cons.1 hf with h|hf
 ·exact .inr (.inr (.inl (by rw[h];simp)))
 ·rcases List.mem_cons.1 hf with h|hf
  ·exact .inr (.inr (.inl (by rw[h];simp)))
  ·exact .inr (.inl hf)
theorem Sy{A B:Fr}{x y:Option Addr×List Value}(h:∀f∈B,f∈A):∀f∈x::y::B,f∈x::y::A:=λ f hf=>(List.mem_cons.1 hf).elim (λ h=>h▸List.mem_cons_self ..) λ hf=>(List.mem_cons.1 hf).elim (λ h=>h▸List.mem_cons_of_mem _ (List.mem_cons_self ..)) λ hf=>List.mem_cons_of_mem _ (List.mem_cons_of_mem _ (h f hf))
theorem Wr{P:Program}{S:List (Nat×Value)}{d:Nat}{ty t:TypeId}{pos:String}{af:Array Edge}{gd:Option (Nat×Bool)}{w0:World}{M:List Nat}{H:List (Nat×Obj)}{z:Value}(hz:cK P t=some z)(h1:z.oneCell'=true):bE P S (St w0 M H) ⟨some d,.alloc t,ty,pos,af,gd⟩ Nat (λ b=>.pointer (some ⟨b,0,none⟩)) (λ b=>St w0 M ((b,.cells ⟨[z]⟩ t (0,0))::H)) :=
 Ue (λ w _=>by
  have e:z.cells = #[z]:=by cases z<;>simp_all[Value.cells,Value.oneCell']
  simp[execOp,Instr.alloc,Pd hz,newVar,newRow,e])
end
end Go.Ct
namespace Go.Proofs.YtbajmaoegmbfgaaGreat
section
open Go Go.RowKit Go.Ct
section
variable{D:List Nat}{A:Fr}{a:AS}{b:Nat}{w:World}
theorem Uf(ok:a.Ok)(hm:a.mm.Small)(hA:∀f∈aM a.L,f∈A)(r:Int)(hr:r<=a.mm.nodes.length)(hs:SF w D [(b,fS a)] A [] (gI a) w) :
  Calls Tryz.prog 36 #[.pointer (some ⟨b,0,none⟩),.int .i64 r] w λ e w'=>∃q:Option Addr×Option Addr,e=.returned (.agg ⟨((aB (cY a.L) r).at_ q.1 q.2).nd.cells⟩)/\True /\
  SF w D [(b,fS a)] [] [] (gI a++[⟨q.2,cZ (aB (cY a.L) r).ys,(aB (cY a.L) r).ys.length,164,2⟩,⟨q.1,aG (aB (cY a.L) r).xs,(aB (cY a.L) r).xs.length,37,1⟩]) w':=by
 have h1:=hm.1
 have h2:=iq a
 exact U0 (hs.aAO hA) ok.fit r (by omega) (by omega)
theorem I4{S:List (Nat×Value)}{w0:World}{M:List Nat}{H H':List (Nat×Obj)}{F:Fr}{O O':List Ow}{ty:TypeId}{pos:String}{af:Array Edge}{gd:Option (Nat×Bool)}{is js:List Nat}{recv:Operand}{xs:List Operand}{at_:Array TypeId}{dst:Option Nat}{H1:Option Addr×Option Addr->List (Nat×Obj)}{F1:Option Addr×Option Addr->Fr}{O1:Option Addr×Option Addr->List Ow}
  (r:Int) (ok:a.Ok) (hm:a.mm.Small) (hA:∀f∈aM a.L,f∈A) (hr:r<=a.mm.nodes.length) (hx:ev S recv=.iface 42 (.pointer (some ⟨b,0,none⟩)):=by exact rfl) (ha:qJ S xs=[.int .i64 r]:=by exact evD) (hH:lQ H is [(b,fS a)] H':=by exact Yb) (hO:lQ O js (gI a) O':=by exact Yb)
  (hl1:is.length=1:=by exact rfl) (hl2:js.length=2:=by exact rfl) (hH1:∀x,iO is [(b,fS a)] H'=H1 x:=by intro x;simp only[iO,qV];exact rfl) (hF1:∀x,[]++F=F1 x:=by intro x;exact rfl)
  (hO1:∀x,[⟨x.2,cZ (aB (cY a.L) r).ys,(aB (cY a.L) r).ys.length,164,2⟩,⟨x.1,aG (aB (cY a.L) r).xs,(aB (cY a.L) r).xs.length,37,1⟩]++iO js (gI a) O'=O1 x:=by intro x;simp only[iO,qV,mW,List.nil_append,List.cons_append];exact rfl) :
  bE Tryz.prog S (SF w0 M H A F O) ⟨dst,.call {callee:=.invoke recv "Node",args:=⟨xs⟩,argTypes:=at_},ty,pos,af,gd⟩ (Option Addr×Option Addr) (λ q=>.agg ⟨((aB (cY a.L) r).at_ q.1 q.2).nd.cells⟩) (λ x w=>True/\SF w0 M (H1 x) A (F1 x) (O1 x) w) :=
 aB6 (hs:=[(b,fS a)]) (os:=gI a) (A0:=A) (hs':=λ _=>[(b,fS a)]) (os':=λ _=>gI a) (Fc:=λ _=>[]) (Oc:=λ q=>[⟨q.2,cZ (aB (cY a.L) r).ys,(aB (cY a.L) r).ys.length,164,2⟩,⟨q.1,aG (aB (cY a.L) r).xs,(aB (cY a.L) r).xs.length,37,1⟩]) hx ha (λ w=>ln _ _ w) (λ w1 hw=>Uf ok hm hA r hr hw) hH hO (bA.of λ _ h=>.inr (.inl h)) (λ _=>hl1) (λ _=>hl2) hH1 hF1 hO1
theorem P9(ok:a.Ok)(hm:a.mm.Small){n:Nd}{xs:List Int}{ys:List Pr}(init:Int)(e1:n.brN=xs.length)(e2:n.prN=ys.length)(hx:xs.length<=274877906944)(hy:ys.length<=274877906944)(hA:∀f∈[(n.brA,aG xs),(n.prA,cZ ys)],f∈A)(hs:SF w D [(b,fS a)] A [] (gI a) w) :
  Calls Tryz.prog 29 #[.pointer (some ⟨b,0,none⟩),n.v,.int .i64 init] w λ e w'=>∃x:AX,e=.returned (.int .i64 ((a.mm.nodes.length+1:Nat):Int))/\True/\SF w D [(b,fS (a.al n xs ys init x))] [] (oE n xs ys a.cs.length x).fr (gI (a.al n xs ys init x)) w':=by
 have h1:=hm.1
 have h3:a.cs.length<=137438953472:=hm.2
 have h2:=iq a
 rw[show a.mm.nodes.length+1=a.L.length+3 by omega]
 exact jf init (hs.aAO hA) e1 e2 hx hy (by omega) (by omega)
end
end

/- Pairs: an arena is made of a memory; a pair is added. -/
end Go.Proofs.YtbajmaoegmbfgaaGreat
namespace Go.Ct
section
open Go Go.RowKit
abbrev XS.a0(z:XS):XS:={z with acc:=0}
theorem XS.Ok.mo{x:XS}(h:x.Ok):Zg x.mm:=by
 have hl:x.mm.nodes.length=x.L.length:=by show(x.L.map aP.c).length=_;rw[List.length_map]
 refine⟨λ v hv=>?_,λ v hv=>?_,by have:=h.two;omega⟩
 ·obtain⟨u,hu,rfl⟩:=List.mem_map.1 hv
  rw[hl]
  exact h.nd u hu
 ·rw[hl];exact h.cs v hv
end
end Go.Ct
namespace Go.Proofs.YtbajmaoegmbfgaaGreat
section
open Go Go.RowKit Go.Ct
abbrev zC(z:XS):List Ow:=[⟨z.pn,hZ z.L,z.cn,47,14⟩,⟨z.pc,aG z.cs,z.cc,37,1⟩]
theorem Xo{bm:Nat}{z:XS}{D:List Nat}{A:Fr}{w:World}(ok:z.Ok)(hp:gR z.L z.cs z.gen)(hl:z.L.length<=137438953472)(hc:z.cs.length<=137438953472)(hA:∀f∈aM z.L,f∈A)(hs:SF w D [(bm,xM z)] A [] (zC z) w) :
    Calls Tryz.prog 24 #[.pointer (some ⟨bm,0,none⟩)] w λ e w'=>∃q:Nat×AS,e=.returned (.pointer (some ⟨q.1,0,none⟩))/\(q.2.mm=z.mm/\q.2.Ok)/\SF w D ([(bm,xM z.a0)]++[(q.1,fS q.2)]) [] (aM q.2.L) (zC z++gI q.2) w':=by
  refine enter Tryz.func24 Tryz.ntmps24 rfl rfl hs ?_
  simp only[bX]
  refine cO ?_;refine Ho ?_;refine aC (aQ (k:=3) rf cQ eC (by simp only[List.drop_zero,List.take_succ_cons,List.take_zero];exact rfl) rfl) rfl ?_;refine aD (Oh (V:=λ x:Nat×List aP×(Option Addr×Nat)×(Option Addr×Nat)=>.tuple #[.pointer (some ⟨x.1,0,none⟩),.int .i64 0]) (Hc:=λ x=>[(x.1,aO x.2.1 z.cs z.gen 0 x.2.2.1.1 x.2.2.1.2 x.2.2.2.1 x.2.2.2.2)]) (Fc:=λ x=>aM x.2.1) (Oc:=λ x=>mW x.2.1 z.cs x.2.2.1.1 x.2.2.1.2 x.2.2.2.1 x.2.2.2.2) (hc:=λ w1 hw=>Z3 (L:=z.L) (cs:=z.cs) (hw.zN (.inr (.inr (.inr ⟨_,.head _,rfl,rfl⟩))) (.inr (.inr (.inr ⟨_,.tail _ (.head _),rfl,rfl⟩))) (λ f hf=>.inr (.inl (hA f hf))) ok.fit) (by omega) (by omega) (hw.zj .head) hp)) (λ x10 h10=>?_);refine Ii ?_;refine J8 ?_;refine kA ?_;refine mK ?_;refine aH ?_
  refine bB (λ c14=>?_) (λ c14=>?_)
  · exact nv c14
  · refine aY ?_;refine J13 ?_;refine uG ?_;refine J2 ?_;refine J1 ?_
    refine aS Tryz.results24 (λ w hw=>?_)
    have e1:(⟨x10.2.1,z.cs,z.gen,0,x10.2.2.1.1,x10.2.2.1.2,x10.2.2.2.1,x10.2.2.2.2⟩:AS).mm=z.mm:=by
     show Mm.mk ((cY x10.2.1).map aP.c) z.cs z.gen=Mm.mk (z.L.map aP.c) z.cs z.gen
     rw[h10.1]
    refine⟨(x10.1,⟨x10.2.1,z.cs,z.gen,0,x10.2.2.1.1,x10.2.2.1.2,x10.2.2.2.1,x10.2.2.2.2⟩),rfl,⟨e1,⟨h10.2,by rw[e1];exact ok.mo⟩⟩,?_⟩
    exact(hw.perm (H':=[(bm,xM z.a0),(x10.1,_)]) (O':=zC z++mW x10.2.1 z.cs x10.2.2.1.1 x10.2.2.1.2 x10.2.2.2.1 x10.2.2.2.2) (List.Perm.swap _ _ _) (List.perm_append_comm (l₁:=zC z))).ret (List.Sublist.refl _) (aX.hJ λ f hf=>by simpa using hf) (List.Sublist.refl _)
theorem Iy.add{ba Bz C m bx tb:Nat}{S:LS}{k:Cl}{x1:XS}{N:List aP}{dn:Bool}{rs:Rs}{c:Cd}{F:Fr}{a1:AS}(hS:Iy ba Bz C S)(hq:sZ (T0 k m) (T0 k m) 0 0 Rs.zero (XS.new S.z.L S.z.cs S.z.gen S.z.acc S.z.pn S.z.cn S.z.pc S.z.cc) x1 N dn rs)(ho:oJ ba (Ct.iR (T0 k m) S.a.mm) S.a S.B (c,F,a1))(hk:Xr k)(hm:m<18446744073709551616)(em:k.mask=(m:Int))(ht:k.t.root<=9223372036854775807)(ha:k.a<=S.z.L.length)(hb:k.b<=S.z.L.length)(hn:k.n<=S.z.L.length) :
  ∃R,Iy ba (Bz+64) C ⟨a1,x1,S.l++[⟨⟨bx,k,x1,dn,rs,R⟩,m,tb,c,0⟩],F++S.B⟩/\x1.mm=(Ct.iR (T0 k m) S.z.mm).2/\R=(Ct.iR (T0 k m) S.z.mm).1:=by
 obtain⟨R,j,h1,h2,h3,h4,h5,h6,h7⟩:=hq.exN
 have hj:j=0:=by omega
 subst hj
 replace h5:x1.L=S.z.L++N:=h5
 replace h4:Rc 0 (T0 k m) S.z.mm R x1.mm:=h4
 have est:Ct.iR (T0 k m) S.z.mm=(R,x1.mm):=xe h4 (vU h3)
 have hlen:S.z.L.length<=x1.L.length:=by rw[h5,List.length_append];omega
 have hle:S.z.mm.Le x1.mm:=⟨⟨N.map aP.c,by show x1.L.map aP.c=_;rw[h5,List.map_append];rfl⟩,h6⟩
 rw[hS.mm] at ho
 obtain⟨⟨y1,y2⟩,y3,y4⟩:=ho
 rw[est] at y1 y2
 have hg:x1.got.length=0:=by have:x1.got.length+0=0+0:=h7;omega
 refine⟨R,⟨h3.ok,y3,y2,E3 (mI k m (n:=0) (by decide)) h4 (Nat.le_refl _) hS.sz,λ q hq=>?_,λ q hq=>?_⟩,by rw[est],by rw[est]⟩
 ·rcases List.mem_append.1 hq with hq|hq
  ·exact((hS.p q hq).wm h3.ok h5)
  ·rw[List.mem_singleton.1 hq]
   exact⟨h3,hk,hm,em,ht,by show k.a<=x1.L.length;omega,by show k.b<=x1.L.length;omega,by show k.n<=x1.L.length;omega,hg,Nat.zero_le _⟩
 ·rcases List.mem_append.1 hq with hq|hq
  ·exact((hS.rp q hq).le (hS.p q hq).rest hle).more λ x hx=>List.mem_append_right _ hx
  ·rw[List.mem_singleton.1 hq]
   exact y1
theorem Iy.none{ba Bz:Nat}{a:AS}{z:XS}(hz:z.Ok)(ha:a.Ok)(hm:a.mm=z.mm)(hs:Sz z Bz):Iy ba Bz 0 ⟨a,z,[],[]⟩:=⟨hz,ha,hm,hs,(λ p hp=>nomatch hp),(λ p hp=>nomatch hp)⟩
theorem tF{m B C E:Nat}{W:Wd}(h:Ql m B C E W):gR W.z.L W.z.cs W.z.gen:=by
 obtain⟨σ,hi⟩:=h.wr.inv
 have e1:σ.mm.nodes=W.z.L.map aP.c:=by rw[hi.mm];rfl
 have e2:σ.mm.cs=W.z.cs:=by rw[hi.mm];rfl
 have e3:σ.mm.gen=W.z.gen:=by rw[hi.mm];rfl
 have:=hi.inv.prop
 rw[e2,e3] at this
 exact this.to e1.symm
theorem S4:dJ Tryz.prog 108 76 [.pointer none,.pointer none]:=kT (z:=.agg ⟨[.pointer none,.pointer none]⟩) (by kernel_rfl) (by kernel_rfl) rfl
theorem Us{f:FuncId}{vs:Array Value}{w:World}{D:List Nat}{b:Nat}{φ:Nat×Cd×Fr×AS->Prop}(h:Calls Tryz.prog f vs w λ e w'=>∃x:Nat×Cd×Fr×AS,e=.returned (.pointer (some ⟨x.1,0,none⟩))/\φ x/\SF w D [(x.1,tO b x.2.1 0),(b,fS x.2.2.2)] [] x.2.2.1 (gI x.2.2.2) w') :
  Calls Tryz.prog f vs w λ e w'=>∃x:Nat×Cd×Fr×AS,e=.returned (.pointer (some ⟨x.1,0,none⟩))/\φ x/\SF w D ([(b,fS x.2.2.2)]++[(x.1,tO b x.2.1 0)]) [] x.2.2.1 (gI x.2.2.2++[]) w' :=
 h.mono λ _ _ ⟨x,e,h,hw⟩=>⟨x,e,h,by rw[List.append_nil];exact hw.perm (List.Perm.swap _ _ _) (List.Perm.refl _)⟩
end

/- gcas: back, Complete, decide. -/
section
open Go Go.RowKit Go.Ct
abbrev kW(b:Nat)(t:gO):List Value:=[.iface 42 (.pointer (some ⟨b,0,none⟩)),.int .i64 t.root,.bool t.ro]
def jg(prev p:Int)(c:Bool)(K:Bool->Tr):Tr:=if c=true then .kO prev p 0 K else .alloc (yM p) 0 λ f=>.kO prev p f K
theorem qQ{a:AS}(hm:a.mm.Small){x:Int}(h:x<=a.mm.cs.length):x<=9223372036854775807:=by have:=hm.2;omega
theorem Cr{a:AS}(ok:a.Ok)(r:Int):mP a.mm.nodes.length a.mm.cs.length (aB (cY a.L) r).c:=by rw[<- lY];exact ok.mo.at r
section
variable{D:List Nat}{A B:Fr}{a:AS}{b:Nat}{w:World}{f:FuncId}{cap:List Value}{t:gO}
theorem ju{K:Int->Tr}{v:Int}{s:Mm}{b2 b3:Nat}(hK:Es b K s f cap B)(hv:v<=s.nodes.length)(o:Bool):vQ b 201 [pt b2,pt b3] [.bool o] (bx b3 [.int .i64 v]::bx b2 [fn f cap]::B) s (K v):=by
 intro a D A w em ok hm hA hB hw0
 subst em
 have hK2:=hK.more (B2:=(bx b3 [.int .i64 v]::bx b2 [fn f cap]::B)) (λ x hx=>by simp[hx])
 refine enter Tryz.func201 Tryz.ntmps201 rfl rfl hw0 ?_
 simp only[bX]
 refine J0 ?_;refine aJ (λ x4=>?_);refine aH ?_;refine J0 ?_;refine aC (qC b2 [fn f cap] 0 hB rfl) rfl ?_;refine aC (qC b3 [.int .i64 v] 0 hB rfl) rfl ?_;refine aD (So hK.1 (hK2.2 v a.mm (Mm.Le.refl _) hv) ok hm hA hB) (λ x7 h7=>?_);refine cP (iZ λ _=>bN rf cQ rf (dM _) eC rf kM) (λ _=>?_);refine aH ?_
 refine bC Tryz.results201 (λ w hw=>?_)
 exact⟨x7,rfl,h7,hw.rN⟩
theorem Ag{K:Int->Tr}{v:Int}{s:Mm}{b2 b3:Nat}(hK:Es b K s f cap B)(hv:v<=s.nodes.length)(o:Bool):vQ b 174 [pt b2,pt b3] [.bool o] (bx b3 [.int .i64 v]::bx b2 [fn f cap]::B) s (K v):=by
 intro a D A w em ok hm hA hB hw0
 subst em
 have hK2:=hK.more (B2:=(bx b3 [.int .i64 v]::bx b2 [fn f cap]::B)) (λ x hx=>by simp[hx])
 refine enter Tryz.func174 Tryz.ntmps174 rfl rfl hw0 ?_
 simp only[bX]
 refine J0 ?_;refine aJ (λ x4=>?_);refine aH ?_;refine J0 ?_;refine aC (qC b2 [fn f cap] 0 hB rfl) rfl ?_;refine aC (qC b3 [.int .i64 v] 0 hB rfl) rfl ?_;refine aD (So hK.1 (hK2.2 v a.mm (Mm.Le.refl _) hv) ok hm hA hB) (λ x7 h7=>?_);refine cP (iZ λ _=>bN rf cQ rf (dM _) eC rf kM) (λ _=>?_);refine aH ?_
 refine bC Tryz.results174 (λ w hw=>?_)
 exact⟨x7,rfl,h7,hw.rN⟩
theorem Vp{K:Int->Tr}{i m p:Int}(hK:Es b K a.mm f cap B)(hi:i<=a.mm.nodes.length)(hmm:m<=a.mm.nodes.length)(hp:p<=a.mm.nodes.length)(ok:a.Ok)(hm:a.mm.Small)(hA:∀f∈aM a.L,f∈A)(hB:∀x∈B,x∈A)(hs:SF w D [(b,fS a)] A [] (gI a) w) :
  Calls Tryz.prog 163 #[.agg ⟨kW b t⟩,.int .i64 i,.int .i64 m,.int .i64 p,fn f cap] w (Dx b (λ c' s' B'=>kV b (P6 i m p K) a.mm c' s' B') a B D w):=by
 have ni:=Cr ok i
 have np:=Cr ok p
 refine enter Tryz.func163 Tryz.ntmps163 rfl rfl hs ?_
 simp only[bX]
 refine J0 ?_;refine bI (λ x5=>?_);refine bI (λ x9=>?_);refine aJ (λ x10=>?_);refine aH ?_;refine gY ?_;refine aA ?_;refine aD (I4 p ok hm hA hp) (λ x15 h15=>?_);refine cA ?_;refine aT (iZ λ _=>Wr (z:=.int .i64 0) (by kernel_rfl) rfl) (λ x11=>?_);refine J5 ?_;refine aV ?_;refine dK [(0,[]),(1,[]),(2,[]),(5,[]),(6,[]),(7,[]),(3,[6]),(4,[]),(8,[]),(9,[])] ?_;refine kX ?_;refine iF ?_;refine bG ?_;(refine bZ (i:=7) (hq:=(dC (by(repeat (first|exact dB _|(apply cI;focus ((conv=>{lhs;whnf});try exact rfl))));done))) (h:=?_));refine aZ (i:=3) (hq:=(I4 i ok hm hA hi)) (h:=λ x20 h20=>?_);refine oV ?_;refine cH (i:=8) (hq:=(cV (hc:=λ w1 hw=>zL _ _ _ _ _ w1))) (h:=λ x25=>?_);refine kB (i:=9) (hq:=(iZ λ _=>bN rf cQ rf (dM _) eC rf kM)) (h:=λ _=>?_);refine dY ?_
 refine bC Tryz.results163 (λ w hw=>?_)
 refine⟨(yD (aB (cY a.L) i).nd.main m (aB (cY a.L) p).nd.bK _ _,[bx x11 [.int .i64 (aB (cY a.L) p).nd.bK],bx x9 [fn f cap]],a),rfl,⟨?_,ok,(AS.jM.refl a).more (λ _ h=>(List.not_mem_nil h).elim)⟩,?_⟩
 ·refine⟨hi,hp,?_⟩
  rw[lY,lY]
  refine⟨rfl,qQ hm ni.main,np.bK,_,_,rfl,by kernel_rfl,λ v s1 l=>?_⟩
  show zG b _ _ _ _ s1 λ c' s' B'=>p<=s1.nodes.length/\kV b (K (cG s1.nodes p).bK) s1 c' s' B'
  rw[l.nd hp,lY]
  have hlen:=l.len
  exact(ju (hK.le l) (by have h2:(aB (cY a.L) p).nd.bK<=a.mm.nodes.length:=np.bK;omega) v).more (λ _ h=>h) λ c m C C2 hC h=>⟨by omega,h.more hC⟩
 ·exact((hw.dF (.tail (.tail .head))).dF .head).rI
theorem Cs{K:Int->Tr}{v s:Int}(ht:t.root<=9223372036854775807)(hK:Es b K a.mm f cap B)(hv:v<=a.mm.nodes.length)(ok:a.Ok)(hm:a.mm.Small)(hA:∀f∈aM a.L,f∈A)(hB:∀x∈B,x∈A)(hs:SF w D [(b,fS a)] A [] (gI a) w) :
  Calls Tryz.prog 141 #[.agg ⟨kW b t⟩,.int .i64 v,.int .i64 s,fn f cap] w (Dx b (λ c' s' B'=>kV b (wB t v s K) a.mm c' s' B') a B D w):=by
 have nv:=Cr ok v
 refine enter Tryz.func141 Tryz.ntmps141 rfl rfl hs ?_
 simp only[bX]
 refine J0 ?_;refine bI (λ x4=>?_);refine bI (λ x7=>?_);refine aJ (λ x8=>?_);refine aH ?_;refine gY ?_;refine aA ?_;refine aD (I4 v ok hm hA hv) (λ x14 h14=>?_);refine aJ (λ x9=>?_);refine J5 ?_;refine gY ?_;refine aT (iZ λ _=>Wr (z:=.int .i64 0) (by kernel_rfl) rfl) (λ x10=>?_);refine J5 ?_;refine kA ?_;refine uK ?_
 refine bB (λ c18=>?_) (λ c18=>?_)
 ·refine dL ?_;refine J3 ?_;refine J5 ?_;refine J0 ?_;refine aE ?_;refine J3 ?_;refine aA ?_;refine bP ?_;(refine aC (dC (by(repeat (first|exact dB _|(apply cI;focus ((conv=>{lhs;whnf});try exact rfl))));done)) rfl ?_);refine aT (cV (hc:=λ w1 hw=>zL _ _ _ _ _ w1)) (λ x27=>?_);refine cP (iZ λ _=>bN rf cQ rf (dM _) eC rf kM) (λ _=>?_);refine aH ?_
  refine bC Tryz.results141 (λ w hw=>?_)
  refine⟨(yD t.root v (aB (cY a.L) v).nd.new _ _,[bx x10 [.int .i64 (aB (cY a.L) v).nd.new],bx x7 [fn f cap]],a),rfl,⟨?_,ok,(AS.jM.refl a).more (λ _ h=>(List.not_mem_nil h).elim)⟩,?_⟩
  ·refine⟨hv,?_⟩
   rw[lY]
   have e:(if s=1 then(aB (cY a.L) v).c.new else(aB (cY a.L) v).c.bK)=(aB (cY a.L) v).nd.new:=by exact if_pos (by omega)
   dsimp only
   rw[e]
   refine⟨rfl,ht,nv.new,_,_,rfl,by kernel_rfl,λ o s1 l=>?_⟩
   have hlen:=l.len
   exact Ag (hK.le l) (by have h2:(aB (cY a.L) v).nd.new<=a.mm.nodes.length:=nv.new;omega) o
  ·exact((hw.dF (.tail (.tail (.tail .head)))).dF .head).rI
 ·refine aY ?_;refine J0 ?_;refine aE ?_;refine J3 ?_;refine aA ?_;refine bP ?_;(refine aC (dC (by(repeat (first|exact dB _|(apply cI;focus ((conv=>{lhs;whnf});try exact rfl))));done)) rfl ?_);refine aT (cV (hc:=λ w1 hw=>zL _ _ _ _ _ w1)) (λ x27=>?_);refine cP (iZ λ _=>bN rf cQ rf (dM _) eC rf kM) (λ _=>?_);refine aH ?_
  refine bC Tryz.results141 (λ w hw=>?_)
  refine⟨(yD t.root v (aB (cY a.L) v).nd.bK _ _,[bx x10 [.int .i64 (aB (cY a.L) v).nd.bK],bx x7 [fn f cap]],a),rfl,⟨?_,ok,(AS.jM.refl a).more (λ _ h=>(List.not_mem_nil h).elim)⟩,?_⟩
  ·refine⟨hv,?_⟩
   rw[lY]
   have e:(if s=1 then(aB (cY a.L) v).c.new else(aB (cY a.L) v).c.bK)=(aB (cY a.L) v).nd.bK:=by exact if_neg (by omega)
   dsimp only
   rw[e]
   refine⟨rfl,ht,nv.bK,_,_,rfl,by kernel_rfl,λ o s1 l=>?_⟩
   have hlen:=l.len
   exact Ag (hK.le l) (by have h2:(aB (cY a.L) v).nd.bK<=a.mm.nodes.length:=nv.bK;omega) o
  ·exact((hw.dF (.tail (.tail (.tail .head)))).dF .head).rI
theorem Kk{K:Bool->Tr}{prev p:Int}{c:Bool}(hK:Xk b K a.mm f cap B)(hpr:prev<=a.mm.cs.length)(hp:p<=a.mm.nodes.length)(ok:a.Ok)(hm:a.mm.Small)(hA:∀f∈aM a.L,f∈A)(hB:∀x∈B,x∈A)(hs:SF w D [(b,fS a)] A [] (gI a) w) :
  Calls Tryz.prog 166 #[.agg ⟨kW b t⟩,.int .i64 prev,.int .i64 p,.bool c,fn f cap] w (Dx b (λ c' s' B'=>kV b (jg prev p c K) a.mm c' s' B') a B D w):=by
 refine enter Tryz.func166 Tryz.ntmps166 rfl rfl hs ?_
 simp only[bX]
 refine J0 ?_;refine bI (λ x5=>?_);refine aJ (λ x10=>?_);refine aH ?_;refine kA ?_;refine aH ?_
 refine bB (λ c12=>?_) (λ c12=>?_)
 ·refine iY ?_;refine aA ?_;refine aT (cV (hc:=λ w1 hw=>zL _ _ _ _ _ w1)) (λ x16=>?_);refine cP (iZ λ _=>bN rf cQ rf (dM _) eC rf kM) (λ _=>?_);refine aH ?_
  refine bC Tryz.results166 (λ w hw=>?_)
  refine⟨(yD prev p 0 f cap,[],a),rfl,⟨?_,ok,AS.jM.refl a⟩,hw.rI⟩
  unfold jg
  rw[if_pos (by assumption)]
  exact⟨rfl,qQ hm hpr,bH _,f,cap,rfl,hK.1,λ v s1 l=>hK.2 v s1 l⟩
 ·refine jU ?_;refine dK [(0,[]),(1,[]),(2,[]),(4,[]),(5,[]),(3,[1]),(6,[]),(7,[])] ?_;refine kX ?_;refine aN ?_;refine bZ (i:=4) (hq:=(Oz rf)) (h:=?_);refine aN ?_;refine cH (i:=3) (hq:=(cV (hc:=λ w1 hw=>gp p w1))) (h:=λ x20=>?_);refine aZ (i:=6) (hq:=(cMI (V:=λ _:AX=>.int .i64 ((a.mm.nodes.length+1:Nat):Int)) (hs:=[(b,fS a)]) (os:=gI a) (A0:=[(none,aG []),(none,cZ [])]) (hs':=λ x=>[(b,fS (a.al ({Nd.zero with kind:=7,bK:=p}:Nd) [] [] 0 x))]) (os':=λ x=>gI (a.al ({Nd.zero with kind:=7,bK:=p}:Nd) [] [] 0 x)) (Fc:=λ x=>(oE ({Nd.zero with kind:=7,bK:=p}:Nd) [] [] a.cs.length x).fr) (hm:=λ w=>Y5 _ _ _ w) (hc:=λ w1 hw=>P9 ok hm 0 rfl rfl (by simp) (by simp) (λ f hf=>hf) hw))) (h:=λ x23 h23=>?_);refine J7 ?_;refine iY ?_;refine oX ?_;refine aT (cV (hc:=λ w1 hw=>zL _ _ _ _ _ w1)) (λ x28=>?_);refine cP (iZ λ _=>bN rf cQ rf (dM _) eC rf kM) (λ _=>?_);refine aH ?_
  refine bC Tryz.results166 (λ w hw=>?_)
  refine⟨(yD prev p ((a.mm.nodes.length+1:Nat):Int) f cap,(oE ({Nd.zero with kind:=7,bK:=p}:Nd) [] [] a.cs.length x23).fr,a.al ({Nd.zero with kind:=7,bK:=p}:Nd) [] [] 0 x23),rfl,⟨?_,ok.al x23 (by simp) (by simp) ⟨?_,bH _,bH _,(λ r hr=>nomatch hr),bH _,bH _,bH _,⟨0,rfl,by decide⟩,⟨0,rfl,by decide⟩⟩ (by omega),AS.jM.al a _ _ _ _ x23⟩,hw.rI⟩
  ·unfold jg
   rw[if_neg (by simp_all)]
   have hl:=T4 a.mm (yM p) 0
   refine⟨Eu a _ _ _ _ x23,?_,?_,f,cap,rfl,hK.1,λ v s1 l=>(hK.2 v s1 (hl.trans l)).more (λ x hx=>List.mem_append_right _ hx) λ _ _ _ _ hC h=>h.more hC⟩
   ·have:=hl.cl;have:=hm.2;omega
   ·show _<=(((a.mm.nodes++[_]).length:Nat):Int)
    rw[List.length_append]
    simp
  ·show p<=_
   exact hp
end
end

end Go.Proofs.YtbajmaoegmbfgaaGreat

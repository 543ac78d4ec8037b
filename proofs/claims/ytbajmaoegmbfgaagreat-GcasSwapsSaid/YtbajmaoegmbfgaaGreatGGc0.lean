/- Calls with an arena; loads out of captured boxes. -/
import Derived.Test.YtbajmaoegmbfgaaGreatGTp2
import Derived.Test.YtbajmaoegmbfgaaGreatGNode3
import Derived.Test.YtbajmaoegmbfgaaGreatGLk1

set_option linter.unusedSimpArgs false
set_option linter.unusedVariables false
namespace Go.Ct
section
open Go Go.RowKit
abbrev bx(b:Nat)(cs:List Value):Option Addr×List Value:=(some ⟨b,0,none⟩,cs)
abbrev pt(b:Nat):Value:=.pointer (some ⟨b,0,none⟩)
abbrev fn(f:FuncId)(cap:List Value):Value:=.func (.func f) #[] ⟨cap⟩
abbrev iv(n:Int):Value:=.int .i64 n
theorem Yt{α:Type}{l l' xs:List α}{is:List Nat}(h:lS l is xs l':=by(repeat (first|exact lS.nil|(apply lS.cons;(focus ((repeat (first|exact yH.head|apply yH.tail));done));simp only[qF])));first|done|fail):lS l is xs l':=h
theorem evD{S:List (Nat×Value)}{xs:List Operand}{vs:List Value}(h:qR S xs=vs:=by(repeat (first|exact dE _|(apply cJ;focus ((conv=>{lhs;whnf});try exact rfl))));first|done|fail):qR S xs=vs:=h
section
variable{w0 w:World}{M:List Nat}{H H':List (Nat×Obj)}{A F:Fr}{O O':List Ow}
theorem SF.rI(h:SF w0 M H A F O w)(hH:H'.Sublist H:=by repeat (first|exact List.Sublist.refl _|apply List.Sublist.cons))(hO:O'.Sublist O:=by repeat (first|exact List.Sublist.refl _|apply List.Sublist.cons)):SF w0 M H' [] F O' w:=h.ret hH aX.all hO
theorem SF.rN(h:SF w0 M H A (F++[]) O w)(hH:H'.Sublist H:=by repeat (first|exact List.Sublist.refl _|apply List.Sublist.cons))(hO:O'.Sublist O:=by repeat (first|exact List.Sublist.refl _|apply List.Sublist.cons)):SF w0 M H' [] F O' w:=h.ret hH (aX.iD λ f hf=>by simpa using hf) hO
variable{P:Program}{S:List (Nat×Value)}{d:Nat}{ty t:TypeId}{pos:String}{af:Array Edge}{gd:Option (Nat×Bool)}{x:Operand}{v:Value}{vs:List Value}{B:Fr}
theorem rE(b:Nat)(cs:List Value)(q:Nat)(hB:∀x∈B,x∈A)(hq:cs[q]?=some v)(hx:ev S x=.pointer (some ⟨b,q,none⟩):=by exact rfl)(ht:one P t=true:=by first|exact Ma rfl|kernel_rfl)(hm:bx b cs∈B:=by simp):aL P S (SF w0 M H A F O) ⟨some d,.load t x,ty,pos,af,gd⟩ v :=
 Zz (a:=some ⟨b,0,none⟩) (q:=q) (hx.trans (by simp[cN,dX])) ht (.bI (wE.kD (hB _ hm))) hq
theorem po(b:Nat)(cs:List Value)(q k:Nat)(hB:∀x∈B,x∈A)(hv:(cs.drop q).take k=vs)(hl:vs.length=k)(hx:ev S x=.pointer (some ⟨b,q,none⟩):=by exact rfl)(ht:iQ P t k=true:=by exact eA)(hm:bx b cs∈B:=by simp):aL P S (SF w0 M H A F O) ⟨some d,.load t x,ty,pos,af,gd⟩ (.agg ⟨vs⟩) :=
 Fy (a:=some ⟨b,0,none⟩) (q:=q) (hx.trans (by simp[cN,dX])) ht (.bI (wE.kD (hB _ hm))) hv hl
end
end
end Go.Ct
namespace Go.Proofs.YtbajmaoegmbfgaaGreat
section
open Go Go.RowKit Go.Ct
abbrev zE(b:Nat)(f:FuncId)(cap arg:List Value)(B:Fr)(s:Mm)(T:Tr):Prop:=Aw b f cap arg B s λ c' s' B'=>lP b T s c' s' B'
theorem Aw.mr{b:Nat}{f:FuncId}{cap arg:List Value}{B B2:Fr}{s:Mm}{T:Tr}(h:zE b f cap arg B s T)(hb:∀x∈B,x∈B2):zE b f cap arg B2 s T:=h.more hb λ _ _ _ _ hC h=>h.more hC
section
variable{S:List (Nat×Value)}{w0 w:World}{M:List Nat}{H H':List (Nat×Obj)}{A A0 F B:Fr}{O O':List Ow}{ty:TypeId}{pos:String}{af:Array Edge}{gd:Option (Nat×Bool)}{b:Nat}{a:AS}{R:Cd->Mm->Fr->Prop}{is js:List Nat}{f:FuncId}{xs:List Operand}{at_:Array TypeId}{vs cap:List Value}{dst:Option Nat}{x:Operand}{H1:Cd×Fr×AS->List (Nat×Obj)}{F1:Cd×Fr×AS->Fr}{O1:Cd×Fr×AS->List Ow}
theorem Nu(hc:∀w,SF w (Ks [(b,fT a)] (gD a)) [(b,fT a)] A0 [] (gD a) w->Calls Tryz.prog f ⟨vs⟩ w (Hh b R a B (Ks [(b,fT a)] (gD a)) w))
  (ha:qR S xs=vs:=by exact evD) (hp:plain Tryz.prog f=true:=by kernel_rfl) (hH:lS H is [(b,fT a)] H':=by exact Yt) (hO:lS O js (gD a) O':=by exact Yt) (hA:aY A F O' A0:=by exact aY.of (λ _ h=>Or.inr (Or.inl h)))
  (hl1:is.length=1:=by exact rfl) (hl2:js.length=2:=by exact rfl)
  (hH1:∀y,iO is [(b,fT y.2.2)] H'=H1 y:=by intro x;simp only[iO,qT];exact rfl) (hF1:∀y,y.2.1++F=F1 y:=by intro x;exact rfl) (hO1:∀y,iO js (gD y.2.2) O'=O1 y:=by intro x;simp only[iO,qT,mW];exact rfl) :
  bE Tryz.prog S (SF w0 M H A F O) ⟨dst,.call {callee:=.value (.func f),args:=⟨xs⟩,argTypes:=at_},ty,pos,af,gd⟩ (Cd×Fr×AS) (λ y=>.agg ⟨y.1.cells⟩) (λ y w=>(R y.1 y.2.2.mm (y.2.1++B)/\y.2.2.Ok/\a.jO y.2.2 y.2.1)/\SF w0 M (H1 y) A (F1 y) (O1 y) w) :=
 cM (hs:=[(b,fT a)]) (os:=gD a) (hs':=λ y:Cd×Fr×AS=>[(b,fT y.2.2)]) (os':=λ y=>gD y.2.2) (Fc:=λ y=>y.2.1) ha hp hc hH hO hA (λ _=>hl1) (λ _=>hl2) hH1 hF1 hO1
theorem Ty(hp:plain Tryz.prog f=true)(hk:Aw b f cap vs B a.mm R)(ok:a.Ok)(hm:a.mm.Small)(hA0:∀f∈aM a.L,f∈A)(hB:∀x∈B,x∈A)(hx:ev S x=.func (.func f) #[] ⟨cap⟩:=by exact rfl)
  (ha:qR S xs=vs:=by exact evD) (hH:lS H is [(b,fT a)] H':=by exact Yt) (hO:lS O js (gD a) O':=by exact Yt)
  (hl1:is.length=1:=by exact rfl) (hl2:js.length=2:=by exact rfl)
  (hH1:∀y,iO is [(b,fT y.2.2)] H'=H1 y:=by intro x;simp only[iO,qT];exact rfl) (hF1:∀y,y.2.1++F=F1 y:=by intro x;exact rfl) (hO1:∀y,iO js (gD y.2.2) O'=O1 y:=by intro x;simp only[iO,qT,mW];exact rfl) :
  bE Tryz.prog S (SF w0 M H A F O) ⟨dst,.call {callee:=.value x,args:=⟨xs⟩,argTypes:=at_},ty,pos,af,gd⟩ (Cd×Fr×AS) (λ y=>.agg ⟨y.1.cells⟩) (λ y w=>(R y.1 y.2.2.mm (y.2.1++B)/\y.2.2.Ok/\a.jO y.2.2 y.2.1)/\SF w0 M (H1 y) A (F1 y) (O1 y) w) :=
 cMf (V:=λ y:Cd×Fr×AS=>.agg ⟨y.1.cells⟩) (hs:=[(b,fT a)]) (os:=gD a) (hs':=λ y:Cd×Fr×AS=>[(b,fT y.2.2)]) (os':=λ y=>gD y.2.2) (Fc:=λ y=>y.2.1) (A0:=A) hx ha hp (λ w hw=>hk a _ A w rfl ok hm hA0 hB hw) hH hO (aY.of λ _ h=>.inr (.inl h)) (λ _=>hl1) (λ _=>hl2) hH1 hF1 hO1
end
end

/- Procedures of the program as codes: calls of the arena through the interface. -/
end Go.Proofs.YtbajmaoegmbfgaaGreat
namespace Go.Ct
section
open Go Go.RowKit
theorem SF.aAN{w0 w:World}{M:List Nat}{H:List (Nat×Obj)}{A A' F:Fr}{O:List Ow}(h:SF w0 M H A F O w)(hA:∀f∈A',f∈A):SF w0 M H A' F O w:=⟨h.st,λ f hf=>h.bI f (hA f hf),h.new,h.own,h.dis⟩
abbrev AS.al(a:AS)(n:Nd)(xs:List Int)(ys:List Pr)(init:Int)(x:AX):AS:=⟨a.L++[kM n xs ys a.cs.length x],fO n.kind a.cs init,a.gen,a.acc,x.pn,x.cn,x.pc,x.cc⟩
theorem mR{a:AS}(r:Int):cB a.mm.nodes r=(aB (cY a.L) r).c:=(Ax _ _).symm
theorem cf(a:AS):a.mm.nodes.length=a.L.length+2:=by show((cY a.L).map aP.c).length=_;rw[List.length_map,fN]
theorem gg{n c c':Nat}{v:Nv}{i:Int}{cs:List Int}(hb:kX n c {v with main:=0,prev:=0,status:=0})(hc:c=cs.length)(h1:n+1=c'):kX c' (fO v.kind cs i).length (dU v c):=by
 subst hc
 have hcs:=iG (k:=v.kind) (cs:=cs) (init:=i)
 have hb':=hb.mono (n':=c') (c':=(fO v.kind cs i).length) (by omega) hcs.1
 refine⟨hb'.bI,hb'.exp,hb'.new,hb'.br,?_,?_,?_,hb'.bm,hb'.hash⟩
 ·show(if v.kind=2 then((cs.length+1:Nat):Int) else 0)<=_
  split
  ·rename_i hk;unfold fO;rw[if_pos (.inl hk)];simp
  ·omega
 ·show(if v.kind=3∨v.kind=5∨v.kind=6 then((cs.length+1:Nat):Int) else 0)<=_
  split
  ·rename_i hk;unfold fO;rw[if_pos (by omega)];simp
  ·omega
 ·show(if v.kind=8 then((cs.length+1:Nat):Int) else 0)<=_
  split
  ·rename_i hk;unfold fO;rw[if_pos (by omega)];simp
  ·omega
theorem Ze.push{s:Mm}(h:Ze s){v:Nv}{i:Int}(hb:kX s.nodes.length s.cs.length {v with main:=0,prev:=0,status:=0})(hi:i<=s.nodes.length+1):Ze (s.push v i):=by
 have hcs:=iG (k:=v.kind) (cs:=s.cs) (init:=i)
 have hl:(s.nodes++[dU v s.cs.length]).length=s.nodes.length+1:=by simp
 refine⟨λ u hu=>?_,λ u hu=>?_,by have:=h.two;show 2<=(s.nodes++[dU v s.cs.length]).length;omega⟩
 ·show kX (s.nodes++[dU v s.cs.length]).length (fO v.kind s.cs i).length u
  rcases List.mem_append.1 hu with hu|hu
  ·exact(h.nd u hu).mono (by omega) hcs.1
  ·rw[List.mem_singleton.1 hu]
   exact gg hb rfl hl.symm
 ·show u<=((s.nodes++[dU v s.cs.length]).length:Int)
  have hu':u∈fO v.kind s.cs i:=hu
  unfold fO at hu'
  split at hu'
  ·rcases List.mem_append.1 hu' with h2|h2
   ·have:=h.cs u h2;omega
   ·rw[List.mem_singleton.1 h2];omega
  ·have:=h.cs u hu';omega
theorem Bc(a:AS)(n:Nd)(xs:List Int)(ys:List Pr)(init:Int)(x:AX):(a.al n xs ys init x).mm=a.mm.push (n.c xs ys) init:=by
 unfold AS.mm Mm.push
 simp only[cY,List.map_cons,List.map_append,List.map_nil,List.cons_append]
 rfl
theorem AS.Ok.al{a:AS}(ok:a.Ok){n:Nd}{xs:List Int}{ys:List Pr}{init:Int}(x:AX)(hx:xs.length<=274877906944)(hy:ys.length<=274877906944)(hb:kX a.mm.nodes.length a.mm.cs.length {n.c xs ys with main:=0,prev:=0,status:=0})(hi:init<=a.mm.nodes.length+1):(a.al n xs ys init x).Ok:=by
 refine⟨λ v hv=>?_,by rw[Bc];exact ok.mo.push hb hi⟩
 rcases List.mem_append.1 hv with hv|hv
 ·exact ok.fit v hv
 ·rw[List.mem_singleton.1 hv];exact Gm (by omega) (by omega)
theorem Wi(s:Mm)(v:Nv)(i:Int):s.Le (s.push v i):=⟨⟨_,rfl⟩,iG.1⟩
theorem AS.jO.al(a:AS)(n:Nd)(xs:List Int)(ys:List Pr)(init:Int)(x:AX):a.jO (a.al n xs ys init x) (kM n xs ys a.cs.length x).fr:=⟨by rw[Bc];exact Wi _ _ _,λ f hf=>by
 rw[dB] at hf
 rcases List.mem_append.1 hf with h|h
 ·exact .inr (.inl h)
 ·refine .inr (.inr ?_)
  simpa[aM] using h⟩
theorem Th{A B B1:Fr}(h:∀f∈B,f∈A):∀f∈B1++B,f∈B1++A:=λ f hf=>(List.mem_append.1 hf).elim (λ h=>List.mem_append_left _ h) λ hf=>List.mem_append_right _ (h f hf)
theorem aY.xf{A B1:Fr}{O:List Ow}:aY A B1 O (B1++A):=aY.of λ f hf=>(List.mem_append.1 hf).elim (λ h=>.inr (.inr (.inl h))) λ h=>.inr (.inl h)
theorem aY.wi{A F:Fr}{O:List Ow}{x y:Option Addr×List Value}:aY A (x::y::F) O (x::y::A):=aY.of λ f hf=>by
 rcases List.mem_cons.1 hf with h|hf
 ·exact .inr (.inr (.inl (by rw[h];simp)))
 ·rcases List.mem_cons.1 hf with h|hf
  ·exact .inr (.inr (.inl (by rw[h];simp)))
  ·exact .inr (.inl hf)
theorem Rj{A B:Fr}{x y:Option Addr×List Value}(h:∀f∈B,f∈A):∀f∈x::y::B,f∈x::y::A:=λ f hf=>(List.mem_cons.1 hf).elim (λ h=>h▸List.mem_cons_self ..) λ hf=>(List.mem_cons.1 hf).elim (λ h=>h▸List.mem_cons_of_mem _ (List.mem_cons_self ..)) λ hf=>List.mem_cons_of_mem _ (List.mem_cons_of_mem _ (h f hf))
theorem Wl{P:Program}{S:List (Nat×Value)}{d:Nat}{ty t:TypeId}{pos:String}{af:Array Edge}{gd:Option (Nat×Bool)}{w0:World}{M:List Nat}{H:List (Nat×Obj)}{z:Value}(hz:cL P t=some z)(h1:z.oneCell'=true):bE P S (St w0 M H) ⟨some d,.alloc t,ty,pos,af,gd⟩ Nat (λ b=>.pointer (some ⟨b,0,none⟩)) (λ b=>St w0 M ((b,.cells ⟨[z]⟩ t (0,0))::H)) :=
 Wn (λ w _=>by
  have e:z.cells = #[z]:=by cases z<;>simp_all[Value.cells,Value.oneCell']
  simp[execOp,Instr.alloc,Qz hz,newVar,newRow,e])
end
end Go.Ct
namespace Go.Proofs.YtbajmaoegmbfgaaGreat
section
open Go Go.RowKit Go.Ct
section
variable{D:List Nat}{A:Fr}{a:AS}{b:Nat}{w:World}
theorem Uh(ok:a.Ok)(hm:a.mm.Small)(hA:∀f∈aM a.L,f∈A)(r:Int)(hr:r<=a.mm.nodes.length)(hs:SF w D [(b,fT a)] A [] (gD a) w) :
  Calls Tryz.prog 36 #[.pointer (some ⟨b,0,none⟩),.int .i64 r] w λ e w'=>∃q:Option Addr×Option Addr,e=.returned (.agg ⟨((aB (cY a.L) r).at_ q.1 q.2).nd.cells⟩)/\True /\
  SF w D [(b,fT a)] [] [] (gD a++[⟨q.2,cR (aB (cY a.L) r).ys,(aB (cY a.L) r).ys.length,164,2⟩,⟨q.1,aG (aB (cY a.L) r).xs,(aB (cY a.L) r).xs.length,37,1⟩]) w':=by
 have h1:=hm.1
 have h2:=cf a
 exact Uq (hs.aAN hA) ok.fit r (by omega) (by omega)
theorem K4{S:List (Nat×Value)}{w0:World}{M:List Nat}{H H':List (Nat×Obj)}{F:Fr}{O O':List Ow}{ty:TypeId}{pos:String}{af:Array Edge}{gd:Option (Nat×Bool)}{is js:List Nat}{recv:Operand}{xs:List Operand}{at_:Array TypeId}{dst:Option Nat}{H1:Option Addr×Option Addr->List (Nat×Obj)}{F1:Option Addr×Option Addr->Fr}{O1:Option Addr×Option Addr->List Ow}
  (r:Int) (ok:a.Ok) (hm:a.mm.Small) (hA:∀f∈aM a.L,f∈A) (hr:r<=a.mm.nodes.length) (hx:ev S recv=.iface 42 (.pointer (some ⟨b,0,none⟩)):=by exact rfl) (ha:qR S xs=[.int .i64 r]:=by exact evD) (hH:lS H is [(b,fT a)] H':=by exact Yt) (hO:lS O js (gD a) O':=by exact Yt)
  (hl1:is.length=1:=by exact rfl) (hl2:js.length=2:=by exact rfl) (hH1:∀x,iO is [(b,fT a)] H'=H1 x:=by intro x;simp only[iO,qT];exact rfl) (hF1:∀x,[]++F=F1 x:=by intro x;exact rfl)
  (hO1:∀x,[⟨x.2,cR (aB (cY a.L) r).ys,(aB (cY a.L) r).ys.length,164,2⟩,⟨x.1,aG (aB (cY a.L) r).xs,(aB (cY a.L) r).xs.length,37,1⟩]++iO js (gD a) O'=O1 x:=by intro x;simp only[iO,qT,mW,List.nil_append,List.cons_append];exact rfl) :
  bE Tryz.prog S (SF w0 M H A F O) ⟨dst,.call {callee:=.invoke recv "Node",args:=⟨xs⟩,argTypes:=at_},ty,pos,af,gd⟩ (Option Addr×Option Addr) (λ q=>.agg ⟨((aB (cY a.L) r).at_ q.1 q.2).nd.cells⟩) (λ x w=>True/\SF w0 M (H1 x) A (F1 x) (O1 x) w) :=
 aCg (hs:=[(b,fT a)]) (os:=gD a) (A0:=A) (hs':=λ _=>[(b,fT a)]) (os':=λ _=>gD a) (Fc:=λ _=>[]) (Oc:=λ q=>[⟨q.2,cR (aB (cY a.L) r).ys,(aB (cY a.L) r).ys.length,164,2⟩,⟨q.1,aG (aB (cY a.L) r).xs,(aB (cY a.L) r).xs.length,37,1⟩]) hx ha (λ w=>jl _ _ w) (λ w1 hw=>Uh ok hm hA r hr hw) hH hO (aY.of λ _ h=>.inr (.inl h)) (λ _=>hl1) (λ _=>hl2) hH1 hF1 hO1
theorem G5(ok:a.Ok)(hm:a.mm.Small){n:Nd}{xs:List Int}{ys:List Pr}(init:Int)(e1:n.brN=xs.length)(e2:n.prN=ys.length)(hx:xs.length<=274877906944)(hy:ys.length<=274877906944)(hA:∀f∈[(n.brA,aG xs),(n.prA,cR ys)],f∈A)(hs:SF w D [(b,fT a)] A [] (gD a) w) :
  Calls Tryz.prog 29 #[.pointer (some ⟨b,0,none⟩),n.v,.int .i64 init] w λ e w'=>∃x:AX,e=.returned (.int .i64 ((a.mm.nodes.length+1:Nat):Int))/\True/\SF w D [(b,fT (a.al n xs ys init x))] [] (kM n xs ys a.cs.length x).fr (gD (a.al n xs ys init x)) w':=by
 have h1:=hm.1
 have h3:a.cs.length<=137438953472:=hm.2
 have h2:=cf a
 rw[show a.mm.nodes.length+1=a.L.length+3 by omega]
 exact Zt init (hs.aAN hA) e1 e2 hx hy (by omega) (by omega)
end
end

/- Pairs: an arena is made of a memory; a pair is added. -/
end Go.Proofs.YtbajmaoegmbfgaaGreat
namespace Go.Ct
section
open Go Go.RowKit
abbrev XS.a0(z:XS):XS:={z with acc:=0}
theorem XS.Ok.mo{x:XS}(h:x.Ok):Ze x.mm:=by
 have hl:x.mm.nodes.length=x.L.length:=by show(x.L.map aP.c).length=_;rw[List.length_map]
 refine⟨λ v hv=>?_,λ v hv=>?_,by have:=h.two;omega⟩
 ·obtain⟨u,hu,rfl⟩:=List.mem_map.1 hv
  rw[hl]
  exact h.nd u hu
 ·rw[hl];exact h.cs v hv
end
end Go.Ct
namespace Go.Proofs.YtbajmaoegmbfgaaGreat
section
open Go Go.RowKit Go.Ct
abbrev nB(z:XS):List Ow:=[⟨z.pn,gZ z.L,z.cn,47,14⟩,⟨z.pc,aG z.cs,z.cc,37,1⟩]
theorem Y5{bm:Nat}{z:XS}{D:List Nat}{A:Fr}{w:World}(ok:z.Ok)(hp:gV z.L z.cs z.gen)(hl:z.L.length<=137438953472)(hc:z.cs.length<=137438953472)(hA:∀f∈aM z.L,f∈A)(hs:SF w D [(bm,xM z)] A [] (nB z) w) :
    Calls Tryz.prog 24 #[.pointer (some ⟨bm,0,none⟩)] w λ e w'=>∃q:Nat×AS,e=.returned (.pointer (some ⟨q.1,0,none⟩))/\(q.2.mm=z.mm/\q.2.Ok)/\SF w D ([(bm,xM z.a0)]++[(q.1,fT q.2)]) [] (aM q.2.L) (nB z++gD q.2) w':=by
  refine enter Tryz.func24 Tryz.ntmps24 rfl rfl hs ?_
  simp only[bX]
  refine cO ?_;refine Hj ?_;refine aC (aQ (k:=3) rf cQ eA (by simp only[List.drop_zero,List.take_succ_cons,List.take_zero];exact rfl) rfl) rfl ?_;refine aD (P0 (V:=λ x:Nat×List aP×(Option Addr×Nat)×(Option Addr×Nat)=>.tuple #[.pointer (some ⟨x.1,0,none⟩),.int .i64 0]) (Hc:=λ x=>[(x.1,aO x.2.1 z.cs z.gen 0 x.2.2.1.1 x.2.2.1.2 x.2.2.2.1 x.2.2.2.2)]) (Fc:=λ x=>aM x.2.1) (Oc:=λ x=>mW x.2.1 z.cs x.2.2.1.1 x.2.2.1.2 x.2.2.2.1 x.2.2.2.2) (hc:=λ w1 hw=>Z0 (L:=z.L) (cs:=z.cs) (hw.yY (.inr (.inr (.inr ⟨_,.head _,rfl,rfl⟩))) (.inr (.inr (.inr ⟨_,.tail _ (.head _),rfl,rfl⟩))) (λ f hf=>.inr (.inl (hA f hf))) ok.fit) (by omega) (by omega) (hw.vv .head) hp)) (λ x10 h10=>?_);refine E6 ?_;refine J8 ?_;refine jV ?_;refine lO ?_;refine aH ?_
  refine bB (λ c14=>?_) (λ c14=>?_)
  · exact nv c14
  · refine bA ?_;refine J13 ?_;refine uP ?_;refine J2 ?_;refine J1 ?_
    refine aS Tryz.results24 (λ w hw=>?_)
    have e1:(⟨x10.2.1,z.cs,z.gen,0,x10.2.2.1.1,x10.2.2.1.2,x10.2.2.2.1,x10.2.2.2.2⟩:AS).mm=z.mm:=by
     show Mm.mk ((cY x10.2.1).map aP.c) z.cs z.gen=Mm.mk (z.L.map aP.c) z.cs z.gen
     rw[h10.1]
    refine⟨(x10.1,⟨x10.2.1,z.cs,z.gen,0,x10.2.2.1.1,x10.2.2.1.2,x10.2.2.2.1,x10.2.2.2.2⟩),rfl,⟨e1,⟨h10.2,by rw[e1];exact ok.mo⟩⟩,?_⟩
    exact(hw.perm (H':=[(bm,xM z.a0),(x10.1,_)]) (O':=nB z++mW x10.2.1 z.cs x10.2.2.1.1 x10.2.2.1.2 x10.2.2.2.1 x10.2.2.2.2) (List.Perm.swap _ _ _) (List.perm_append_comm (l₁:=nB z))).ret (List.Sublist.refl _) (aX.iD λ f hf=>by simpa using hf) (List.Sublist.refl _)
theorem Ed.add{ba Bz C m bx tb:Nat}{S:LS}{k:Cl}{x1:XS}{N:List aP}{dn:Bool}{rs:Rs}{c:Cd}{F:Fr}{a1:AS}(hS:Ed ba Bz C S)(hq:tL (T0 k m) (T0 k m) 0 0 Rs.zero (XS.new S.z.L S.z.cs S.z.gen S.z.acc S.z.pn S.z.cn S.z.pc S.z.cc) x1 N dn rs)(ho:nV ba (Ct.iZ (T0 k m) S.a.mm) S.a S.B (c,F,a1))(hk:Xt k)(hm:m<18446744073709551616)(em:k.mask=(m:Int))(ht:k.t.root<=9223372036854775807)(ha:k.a<=S.z.L.length)(hb:k.b<=S.z.L.length)(hn:k.n<=S.z.L.length) :
  ∃R,Ed ba (Bz+64) C ⟨a1,x1,S.l++[⟨⟨bx,k,x1,dn,rs,R⟩,m,tb,c,0⟩],F++S.B⟩/\x1.mm=(Ct.iZ (T0 k m) S.z.mm).2/\R=(Ct.iZ (T0 k m) S.z.mm).1:=by
 obtain⟨R,j,h1,h2,h3,h4,h5,h6,h7⟩:=hq.exN
 have hj:j=0:=by omega
 subst hj
 replace h5:x1.L=S.z.L++N:=h5
 replace h4:Rc 0 (T0 k m) S.z.mm R x1.mm:=h4
 have est:Ct.iZ (T0 k m) S.z.mm=(R,x1.mm):=zb h4 (wP h3)
 have hlen:S.z.L.length<=x1.L.length:=by rw[h5,List.length_append];omega
 have hle:S.z.mm.Le x1.mm:=⟨⟨N.map aP.c,by show x1.L.map aP.c=_;rw[h5,List.map_append];rfl⟩,h6⟩
 rw[hS.mm] at ho
 obtain⟨⟨y1,y2⟩,y3,y4⟩:=ho
 rw[est] at y1 y2
 have hg:x1.got.length=0:=by have:x1.got.length+0=0+0:=h7;omega
 refine⟨R,⟨h3.ok,y3,y2,Fp (lX k m (n:=0) (by decide)) h4 (Nat.le_refl _) hS.sz,λ q hq=>?_,λ q hq=>?_⟩,by rw[est],by rw[est]⟩
 ·rcases List.mem_append.1 hq with hq|hq
  ·exact((hS.p q hq).wm h3.ok h5)
  ·rw[List.mem_singleton.1 hq]
   exact⟨h3,hk,hm,em,ht,by show k.a<=x1.L.length;omega,by show k.b<=x1.L.length;omega,by show k.n<=x1.L.length;omega,hg,Nat.zero_le _⟩
 ·rcases List.mem_append.1 hq with hq|hq
  ·exact((hS.rp q hq).le (hS.p q hq).rest hle).more λ x hx=>List.mem_append_right _ hx
  ·rw[List.mem_singleton.1 hq]
   exact y1
theorem Ed.none{ba Bz:Nat}{a:AS}{z:XS}(hz:z.Ok)(ha:a.Ok)(hm:a.mm=z.mm)(hs:Sz z Bz):Ed ba Bz 0 ⟨a,z,[],[]⟩:=⟨hz,ha,hm,hs,(λ p hp=>nomatch hp),(λ p hp=>nomatch hp)⟩
theorem oP{m B C E:Nat}{W:Wd}(h:Px m B C E W):gV W.z.L W.z.cs W.z.gen:=by
 obtain⟨σ,hi⟩:=h.wr.inv
 have e1:σ.mm.nodes=W.z.L.map aP.c:=by rw[hi.mm];rfl
 have e2:σ.mm.cs=W.z.cs:=by rw[hi.mm];rfl
 have e3:σ.mm.gen=W.z.gen:=by rw[hi.mm];rfl
 have:=hi.inv.prop
 rw[e2,e3] at this
 exact this.to e1.symm
theorem R8:dH Tryz.prog 108 76 [.pointer none,.pointer none]:=kV (z:=.agg ⟨[.pointer none,.pointer none]⟩) (by kernel_rfl) (by kernel_rfl) rfl
theorem Up{f:FuncId}{vs:Array Value}{w:World}{D:List Nat}{b:Nat}{φ:Nat×Cd×Fr×AS->Prop}(h:Calls Tryz.prog f vs w λ e w'=>∃x:Nat×Cd×Fr×AS,e=.returned (.pointer (some ⟨x.1,0,none⟩))/\φ x/\SF w D [(x.1,tO b x.2.1 0),(b,fT x.2.2.2)] [] x.2.2.1 (gD x.2.2.2) w') :
  Calls Tryz.prog f vs w λ e w'=>∃x:Nat×Cd×Fr×AS,e=.returned (.pointer (some ⟨x.1,0,none⟩))/\φ x/\SF w D ([(b,fT x.2.2.2)]++[(x.1,tO b x.2.1 0)]) [] x.2.2.1 (gD x.2.2.2++[]) w' :=
 h.mono λ _ _ ⟨x,e,h,hw⟩=>⟨x,e,h,by rw[List.append_nil];exact hw.perm (List.Perm.swap _ _ _) (List.Perm.refl _)⟩
end

/- gcas: back, Complete, decide. -/
section
open Go Go.RowKit Go.Ct
abbrev oI(b:Nat)(t:gO):List Value:=[.iface 42 (.pointer (some ⟨b,0,none⟩)),.int .i64 t.root,.bool t.ro]
def jr(prev p:Int)(c:Bool)(K:Bool->Tr):Tr:=if c=true then .kR prev p 0 K else .alloc (yP p) 0 λ f=>.kR prev p f K
theorem sE{a:AS}(hm:a.mm.Small){x:Int}(h:x<=a.mm.cs.length):x<=9223372036854775807:=by have:=hm.2;omega
theorem Ie{a:AS}(ok:a.Ok)(r:Int):kX a.mm.nodes.length a.mm.cs.length (aB (cY a.L) r).c:=by rw[<- mR];exact ok.mo.at r
section
variable{D:List Nat}{A B:Fr}{a:AS}{b:Nat}{w:World}{f:FuncId}{cap:List Value}{t:gO}
theorem je{K:Int->Tr}{v:Int}{s:Mm}{b2 b3:Nat}(hK:Iz b K s f cap B)(hv:v<=s.nodes.length)(o:Bool):zE b 201 [pt b2,pt b3] [.bool o] (bx b3 [.int .i64 v]::bx b2 [fn f cap]::B) s (K v):=by
 intro a D A w em ok hm hA hB hw0
 subst em
 have hK2:=hK.more (B2:=(bx b3 [.int .i64 v]::bx b2 [fn f cap]::B)) (λ x hx=>by simp[hx])
 refine enter Tryz.func201 Tryz.ntmps201 rfl rfl hw0 ?_
 simp only[bX]
 refine J0 ?_;refine aJ (λ x4=>?_);refine aH ?_;refine J0 ?_;refine aC (rE b2 [fn f cap] 0 hB rfl) rfl ?_;refine aC (rE b3 [.int .i64 v] 0 hB rfl) rfl ?_;refine aD (Ty hK.1 (hK2.2 v a.mm (Mm.Le.refl _) hv) ok hm hA hB) (λ x7 h7=>?_);refine cZ (jF λ _=>bP rf cQ rf (eD _) eA rf lJ) (λ _=>?_);refine aH ?_
 refine bC Tryz.results201 (λ w hw=>?_)
 exact⟨x7,rfl,h7,hw.rN⟩
theorem Ar{K:Int->Tr}{v:Int}{s:Mm}{b2 b3:Nat}(hK:Iz b K s f cap B)(hv:v<=s.nodes.length)(o:Bool):zE b 174 [pt b2,pt b3] [.bool o] (bx b3 [.int .i64 v]::bx b2 [fn f cap]::B) s (K v):=by
 intro a D A w em ok hm hA hB hw0
 subst em
 have hK2:=hK.more (B2:=(bx b3 [.int .i64 v]::bx b2 [fn f cap]::B)) (λ x hx=>by simp[hx])
 refine enter Tryz.func174 Tryz.ntmps174 rfl rfl hw0 ?_
 simp only[bX]
 refine J0 ?_;refine aJ (λ x4=>?_);refine aH ?_;refine J0 ?_;refine aC (rE b2 [fn f cap] 0 hB rfl) rfl ?_;refine aC (rE b3 [.int .i64 v] 0 hB rfl) rfl ?_;refine aD (Ty hK.1 (hK2.2 v a.mm (Mm.Le.refl _) hv) ok hm hA hB) (λ x7 h7=>?_);refine cZ (jF λ _=>bP rf cQ rf (eD _) eA rf lJ) (λ _=>?_);refine aH ?_
 refine bC Tryz.results174 (λ w hw=>?_)
 exact⟨x7,rfl,h7,hw.rN⟩
theorem Ua{K:Int->Tr}{i m p:Int}(hK:Iz b K a.mm f cap B)(hi:i<=a.mm.nodes.length)(hmm:m<=a.mm.nodes.length)(hp:p<=a.mm.nodes.length)(ok:a.Ok)(hm:a.mm.Small)(hA:∀f∈aM a.L,f∈A)(hB:∀x∈B,x∈A)(hs:SF w D [(b,fT a)] A [] (gD a) w) :
  Calls Tryz.prog 163 #[.agg ⟨oI b t⟩,.int .i64 i,.int .i64 m,.int .i64 p,fn f cap] w (Hh b (λ c' s' B'=>lP b (Pc i m p K) a.mm c' s' B') a B D w):=by
 have ni:=Ie ok i
 have np:=Ie ok p
 refine enter Tryz.func163 Tryz.ntmps163 rfl rfl hs ?_
 simp only[bX]
 refine J0 ?_;refine bK (λ x5=>?_);refine bK (λ x9=>?_);refine aJ (λ x10=>?_);refine aH ?_;refine hX ?_;refine aA ?_;refine aD (K4 p ok hm hA hp) (λ x15 h15=>?_);refine cD ?_;refine aT (jF λ _=>Wl (z:=.int .i64 0) (by kernel_rfl) rfl) (λ x11=>?_);refine J5 ?_;refine aV ?_;refine dI [(0,[]),(1,[]),(2,[]),(5,[]),(6,[]),(7,[]),(3,[6]),(4,[]),(8,[]),(9,[])] ?_;refine kJ ?_;refine iH ?_;refine bG ?_;(refine cC (i:=7) (hq:=(dS (by(repeat (first|exact dE _|(apply cJ;focus ((conv=>{lhs;whnf});try exact rfl))));done))) (h:=?_));refine aZ (i:=3) (hq:=(K4 i ok hm hA hi)) (h:=λ x20 h20=>?_);refine oX ?_;refine cH (i:=8) (hq:=(cV (hc:=λ w1 hw=>zJ _ _ _ _ _ w1))) (h:=λ x25=>?_);refine kH (i:=9) (hq:=(jF λ _=>bP rf cQ rf (eD _) eA rf lJ)) (h:=λ _=>?_);refine dW ?_
 refine bC Tryz.results163 (λ w hw=>?_)
 refine⟨(yJ (aB (cY a.L) i).nd.main m (aB (cY a.L) p).nd.bI _ _,[bx x11 [.int .i64 (aB (cY a.L) p).nd.bI],bx x9 [fn f cap]],a),rfl,⟨?_,ok,(AS.jO.refl a).more (λ _ h=>(List.not_mem_nil h).elim)⟩,?_⟩
 ·refine⟨hi,hp,?_⟩
  rw[mR,mR]
  refine⟨rfl,sE hm ni.main,np.bI,_,_,rfl,by kernel_rfl,λ v s1 l=>?_⟩
  show Aw b _ _ _ _ s1 λ c' s' B'=>p<=s1.nodes.length/\lP b (K (cB s1.nodes p).bI) s1 c' s' B'
  rw[l.nd hp,mR]
  have hlen:=l.len
  exact(je (hK.le l) (by have h2:(aB (cY a.L) p).nd.bI<=a.mm.nodes.length:=np.bI;omega) v).more (λ _ h=>h) λ c m C C2 hC h=>⟨by omega,h.more hC⟩
 ·exact((hw.eQ (.tail (.tail .head))).eQ .head).rI
theorem C7{K:Int->Tr}{v s:Int}(ht:t.root<=9223372036854775807)(hK:Iz b K a.mm f cap B)(hv:v<=a.mm.nodes.length)(ok:a.Ok)(hm:a.mm.Small)(hA:∀f∈aM a.L,f∈A)(hB:∀x∈B,x∈A)(hs:SF w D [(b,fT a)] A [] (gD a) w) :
  Calls Tryz.prog 141 #[.agg ⟨oI b t⟩,.int .i64 v,.int .i64 s,fn f cap] w (Hh b (λ c' s' B'=>lP b (vS t v s K) a.mm c' s' B') a B D w):=by
 have nv:=Ie ok v
 refine enter Tryz.func141 Tryz.ntmps141 rfl rfl hs ?_
 simp only[bX]
 refine J0 ?_;refine bK (λ x4=>?_);refine bK (λ x7=>?_);refine aJ (λ x8=>?_);refine aH ?_;refine hX ?_;refine aA ?_;refine aD (K4 v ok hm hA hv) (λ x14 h14=>?_);refine aJ (λ x9=>?_);refine J5 ?_;refine hX ?_;refine aT (jF λ _=>Wl (z:=.int .i64 0) (by kernel_rfl) rfl) (λ x10=>?_);refine J5 ?_;refine jV ?_;refine uB ?_
 refine bB (λ c18=>?_) (λ c18=>?_)
 ·refine dJ ?_;refine J3 ?_;refine J5 ?_;refine J0 ?_;refine aE ?_;refine J3 ?_;refine aA ?_;refine bN ?_;(refine aC (dS (by(repeat (first|exact dE _|(apply cJ;focus ((conv=>{lhs;whnf});try exact rfl))));done)) rfl ?_);refine aT (cV (hc:=λ w1 hw=>zJ _ _ _ _ _ w1)) (λ x27=>?_);refine cZ (jF λ _=>bP rf cQ rf (eD _) eA rf lJ) (λ _=>?_);refine aH ?_
  refine bC Tryz.results141 (λ w hw=>?_)
  refine⟨(yJ t.root v (aB (cY a.L) v).nd.new _ _,[bx x10 [.int .i64 (aB (cY a.L) v).nd.new],bx x7 [fn f cap]],a),rfl,⟨?_,ok,(AS.jO.refl a).more (λ _ h=>(List.not_mem_nil h).elim)⟩,?_⟩
  ·refine⟨hv,?_⟩
   rw[mR]
   have e:(if s=1 then(aB (cY a.L) v).c.new else(aB (cY a.L) v).c.bI)=(aB (cY a.L) v).nd.new:=by exact if_pos (by omega)
   dsimp only
   rw[e]
   refine⟨rfl,ht,nv.new,_,_,rfl,by kernel_rfl,λ o s1 l=>?_⟩
   have hlen:=l.len
   exact Ar (hK.le l) (by have h2:(aB (cY a.L) v).nd.new<=a.mm.nodes.length:=nv.new;omega) o
  ·exact((hw.eQ (.tail (.tail (.tail .head)))).eQ .head).rI
 ·refine bA ?_;refine J0 ?_;refine aE ?_;refine J3 ?_;refine aA ?_;refine bN ?_;(refine aC (dS (by(repeat (first|exact dE _|(apply cJ;focus ((conv=>{lhs;whnf});try exact rfl))));done)) rfl ?_);refine aT (cV (hc:=λ w1 hw=>zJ _ _ _ _ _ w1)) (λ x27=>?_);refine cZ (jF λ _=>bP rf cQ rf (eD _) eA rf lJ) (λ _=>?_);refine aH ?_
  refine bC Tryz.results141 (λ w hw=>?_)
  refine⟨(yJ t.root v (aB (cY a.L) v).nd.bI _ _,[bx x10 [.int .i64 (aB (cY a.L) v).nd.bI],bx x7 [fn f cap]],a),rfl,⟨?_,ok,(AS.jO.refl a).more (λ _ h=>(List.not_mem_nil h).elim)⟩,?_⟩
  ·refine⟨hv,?_⟩
   rw[mR]
   have e:(if s=1 then(aB (cY a.L) v).c.new else(aB (cY a.L) v).c.bI)=(aB (cY a.L) v).nd.bI:=by exact if_neg (by omega)
   dsimp only
   rw[e]
   refine⟨rfl,ht,nv.bI,_,_,rfl,by kernel_rfl,λ o s1 l=>?_⟩
   have hlen:=l.len
   exact Ar (hK.le l) (by have h2:(aB (cY a.L) v).nd.bI<=a.mm.nodes.length:=nv.bI;omega) o
  ·exact((hw.eQ (.tail (.tail (.tail .head)))).eQ .head).rI
theorem I7{K:Bool->Tr}{prev p:Int}{c:Bool}(hK:Yc b K a.mm f cap B)(hpr:prev<=a.mm.cs.length)(hp:p<=a.mm.nodes.length)(ok:a.Ok)(hm:a.mm.Small)(hA:∀f∈aM a.L,f∈A)(hB:∀x∈B,x∈A)(hs:SF w D [(b,fT a)] A [] (gD a) w) :
  Calls Tryz.prog 166 #[.agg ⟨oI b t⟩,.int .i64 prev,.int .i64 p,.bool c,fn f cap] w (Hh b (λ c' s' B'=>lP b (jr prev p c K) a.mm c' s' B') a B D w):=by
 refine enter Tryz.func166 Tryz.ntmps166 rfl rfl hs ?_
 simp only[bX]
 refine J0 ?_;refine bK (λ x5=>?_);refine aJ (λ x10=>?_);refine aH ?_;refine jV ?_;refine aH ?_
 refine bB (λ c12=>?_) (λ c12=>?_)
 ·refine iU ?_;refine aA ?_;refine aT (cV (hc:=λ w1 hw=>zJ _ _ _ _ _ w1)) (λ x16=>?_);refine cZ (jF λ _=>bP rf cQ rf (eD _) eA rf lJ) (λ _=>?_);refine aH ?_
  refine bC Tryz.results166 (λ w hw=>?_)
  refine⟨(yJ prev p 0 f cap,[],a),rfl,⟨?_,ok,AS.jO.refl a⟩,hw.rI⟩
  unfold jr
  rw[if_pos (by assumption)]
  exact⟨rfl,sE hm hpr,bH _,f,cap,rfl,hK.1,λ v s1 l=>hK.2 v s1 l⟩
 ·refine jY ?_;refine dI [(0,[]),(1,[]),(2,[]),(4,[]),(5,[]),(3,[1]),(6,[]),(7,[])] ?_;refine kJ ?_;refine aN ?_;refine cC (i:=4) (hq:=(Nq rf)) (h:=?_);refine aN ?_;refine cH (i:=3) (hq:=(cV (hc:=λ w1 hw=>iz p w1))) (h:=λ x20=>?_);refine aZ (i:=6) (hq:=(cMI (V:=λ _:AX=>.int .i64 ((a.mm.nodes.length+1:Nat):Int)) (hs:=[(b,fT a)]) (os:=gD a) (A0:=[(none,aG []),(none,cR [])]) (hs':=λ x=>[(b,fT (a.al ({Nd.zero with kind:=7,bI:=p}:Nd) [] [] 0 x))]) (os':=λ x=>gD (a.al ({Nd.zero with kind:=7,bI:=p}:Nd) [] [] 0 x)) (Fc:=λ x=>(kM ({Nd.zero with kind:=7,bI:=p}:Nd) [] [] a.cs.length x).fr) (hm:=λ w=>Xq _ _ _ w) (hc:=λ w1 hw=>G5 ok hm 0 rfl rfl (by simp) (by simp) (λ f hf=>hf) hw))) (h:=λ x23 h23=>?_);refine J7 ?_;refine iU ?_;refine oZ ?_;refine aT (cV (hc:=λ w1 hw=>zJ _ _ _ _ _ w1)) (λ x28=>?_);refine cZ (jF λ _=>bP rf cQ rf (eD _) eA rf lJ) (λ _=>?_);refine aH ?_
  refine bC Tryz.results166 (λ w hw=>?_)
  refine⟨(yJ prev p ((a.mm.nodes.length+1:Nat):Int) f cap,(kM ({Nd.zero with kind:=7,bI:=p}:Nd) [] [] a.cs.length x23).fr,a.al ({Nd.zero with kind:=7,bI:=p}:Nd) [] [] 0 x23),rfl,⟨?_,ok.al x23 (by simp) (by simp) ⟨?_,bH _,bH _,(λ r hr=>nomatch hr),bH _,bH _,bH _,⟨0,rfl,by decide⟩,⟨0,rfl,by decide⟩⟩ (by omega),AS.jO.al a _ _ _ _ x23⟩,hw.rI⟩
  ·unfold jr
   rw[if_neg (by simp_all)]
   have hl:=Wi a.mm (yP p) 0
   refine⟨Bc a _ _ _ _ x23,?_,?_,f,cap,rfl,hK.1,λ v s1 l=>(hK.2 v s1 (hl.trans l)).more (λ x hx=>List.mem_append_right _ hx) λ _ _ _ _ hC h=>h.more hC⟩
   ·have:=hl.cl;have:=hm.2;omega
   ·show _<=(((a.mm.nodes++[_]).length:Nat):Int)
    rw[List.length_append]
    simp
  ·show p<=_
   exact hp
end
end

end Go.Proofs.YtbajmaoegmbfgaaGreat

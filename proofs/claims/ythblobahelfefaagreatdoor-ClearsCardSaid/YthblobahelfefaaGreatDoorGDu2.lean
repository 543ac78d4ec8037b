/- Merged. -/
import Derived.Test.YthblobahelfefaaGreatDoorGPa5
import Derived.Test.YthblobahelfefaaGreatDoorGTp2
import Derived.Test.YthblobahelfefaaGreatDoorGAutoD
import Derived.Test.YthblobahelfefaaGreatDoorGBr3
import Derived.Test.YthblobahelfefaaGreatDoorGGc2
import Derived.Test.YthblobahelfefaaGreatDoorGFd2
import Derived.Test.YthblobahelfefaaGreatDoorGFd1
set_option linter.unusedSimpArgs false
set_option linter.unusedVariables false
namespace Go.Proofs.YthblobahelfefaaGreatDoor
open Go.Proofs.Tryz
open Go Go.RowKit Go.Ct
section
def dN(x:Int)(h0 h:Nat)(p0:Pr)(k:ByteArray)(u gen:Int)(f:Nat):Nat->Nat->List NI
 | 0,lvl=>if lvl=11 then [Od h (yN [p0,(k,u)])] else [vM h k u,y3 (dF (dF 0 (sl h0 lvl:Int)) (sl h lvl:Int)) (two (sl h0 lvl) (sl h lvl) x (f:Int))]
 | n+1,lvl=>dN x h0 h p0 k u gen f n (lvl+1)++[A4 gen ((f-1+(dN x h0 h p0 k u gen f n (lvl+1)).length:Nat):Int),y3 (dF 0 (sl h lvl:Int)) [((f+(dN x h0 h p0 k u gen f n (lvl+1)).length:Nat):Int)]]
theorem M9{x:Int}{h0 h:Nat}{p0:Pr}{k:ByteArray}{u gen:Int}{f:Nat}:∀n lvl,(dN x h0 h p0 k u gen f n lvl).length<=2+2*n
 | 0,lvl=>by
  unfold dN
  split<;>simp
 | n+1,lvl=>by
  have:=M9 (x:=x) (h0:=h0) (h:=h) (p0:=p0) (k:=k) (u:=u) (gen:=gen) (f:=f) n (lvl+1);unfold dN;simp only[List.length_append,List.length_cons,List.length_nil]
  omega
variable{ba bb:Nat}{L:List dJ}{cs:List Int}{g acc:Int}{pn pc:Option Addr}{kn kc:Nat}{x:Int}{v:dJ}{h h0:Nat}{k:ByteArray}{u gen:Int}
theorem D2(hl:L.length<=137438953200)(hc:cs.length<=137438953200)(hv:v.nd.hash=(h0:Int))(hh0:h0<18446744073709551616)(hh:h<18446744073709551616)(hx:1<=x):∀(n lvl:Nat),lvl+n=mU h0 h->∀(D:List Nat) (A:Fr) (w:World),SF w D [(bb,blO ba x v h k u gen),(ba,aO L cs g acc pn kn pc kc)] A [] (mW L cs pn kn pc kc) w ->
  Calls prog 298 #[.pointer (some ⟨bb,0,none⟩),.int .i64 ((lvl:Nat):Int)] w (Did w D bb ba x v h k u gen L cs g acc (dN x h0 h (v.nd.key,v.nd.val) k u gen (L.length+3) n lvl))
 | 0,lvl,hn,D,A,w,hs=>by
  have hle:=rJ h0 h;unfold dN;split
  ·rename_i e
   subst e
   exact uh hs (by omega) (by omega)
  ·rename_i e
   have hlv:lvl=mU h0 h:=by omega
   exact v8 hs (by omega) (by omega) hv hh0 hh (by omega) (by rw[hlv];exact λ e2=>N8 (by omega) e2.symm) hx
 | n+1,lvl,hn,D,A,w,hs=>by
  have hle:=rJ h0 h;have hd:=M9 (x:=x) (h0:=h0) (h:=h) (p0:=(v.nd.key,v.nd.val)) (k:=k) (u:=u) (gen:=gen) (f:=L.length+3) n (lvl+1);have:=aAH (l:=dN x h0 h (v.nd.key,v.nd.val) k u gen (L.length+3) n (lvl+1)) hs (by omega) (by omega) hv hh0 hh (by omega) (V0 (by omega)).symm (λ D w hs=>D2 hl hc hv hh0 hh hx n (lvl+1) (by omega) D [] w hs);exact this
def xB(v:dJ)(h0 h:Nat)(k:ByteArray)(lvl:Nat)(gen:Int):Int:=if 11<lvl∨gen<1 then 2 else if v.nd.kind≠4∨64<k.size∨k=v.nd.key∨mU h0 h<lvl then 1 else 0
def Hi(x:Int)(v:dJ)(h0 h:Nat)(k:ByteArray)(u gen:Int)(f lvl:Nat):List NI:=if xB v h0 h k lvl gen=0 then dN x h0 h (v.nd.key,v.nd.val) k u gen f (mU h0 h-lvl) lvl else []
theorem qv{x:Int}{v:dJ}{h0 h:Nat}{k:ByteArray}{u gen:Int}{f lvl:Nat}(he:xB v h0 h k lvl gen≠0):Hi x v h0 h k u gen f lvl=[]:=if_neg he
theorem E1{x:Int}{v:dJ}{h0 h:Nat}{k:ByteArray}{u gen:Int}{f lvl:Nat}(he:xB v h0 h k lvl gen=0):Hi x v h0 h k u gen f lvl=dN x h0 h (v.nd.key,v.nd.val) k u gen f (mU h0 h-lvl) lvl:=if_pos he
abbrev aCM(e:Int)(f n:Nat):Int:=if e=0 then((f-1+n:Nat):Int) else 0
variable{D:List Nat}{w:World}{lvl:Nat}
theorem Dk{w0:World}{H:List (Nat×Obj)}{A F:Fr}{O:List Ow}{e0:Int}(hw:SF w0 D H A F O w)(hH:[(ba,aO L cs g acc pn kn pc kc)].Sublist H)(hO:(mW L cs pn kn pc kc).Sublist O)(he:xB v h0 h k lvl gen=e0)(h0':e0≠0) :
  ∃d:DX,(Ending.returned (.tuple #[.int .i64 0,.int .i64 e0]):Ending)=.returned (.tuple #[.int .i64 (aCM (xB v h0 h k lvl gen) (L.length+3) (Hi x v h0 h k u gen (L.length+3) lvl).length),.int .i64 (xB v h0 h k lvl gen)])/\(d.L.map dJ.c=tV (Hi x v h0 h k u gen (L.length+3) lvl) cs.length/\Fits d.L) /\
   SF w0 D [(ba,aO (L++d.L) (kO (Hi x v h0 h k u gen (L.length+3) lvl) cs) g acc d.pn d.cn d.pc d.cc)] [] (cH d.L) (mW (L++d.L) (kO (Hi x v h0 h k u gen (L.length+3) lvl) cs) d.pn d.cn d.pc d.cc) w:=by
 have h1:xB v h0 h k lvl gen≠0:=by rw[he];exact h0'
 rw[qv h1,he];refine⟨⟨[],pn,kn,pc,kc⟩,?_,⟨rfl,λ z hz=>(List.not_mem_nil hz).elim⟩,?_⟩;·simp only[aCM,if_neg h0']
 ·simp only[List.append_nil];exact hw.ret hH (aT.bA λ f hf=>(List.not_mem_nil hf).elim) hO
theorem aAD(hs:SF w D [(ba,aO L cs g acc pn kn pc kc)] (cH L) [] (mW L cs pn kn pc kc) w)(hf:Fits L)(hl:L.length<=137438953200)(hc:cs.length<=137438953200)(hxm:x<=9223372036854775807)(hnv:aV (bM L) x=v)(hv:v.nd.kind=4->v.nd.hash=(h0:Int)/\1<=x)(hh0:h0<18446744073709551616)(hh:h<18446744073709551616)(hlv:(lvl:Int)<=9223372036854775807) :
    Calls prog 285 #[.iface 51 (.pointer (some ⟨ba,0,none⟩)),.int .i64 x,.int .u64 (h:Int),.string k,.int .u64 u,.int .i64 (lvl:Int),.int .i64 gen] w λ e w' =>
      ∃d:DX,e=.returned (.tuple #[.int .i64 (aCM (xB v h0 h k lvl gen) (L.length+3) (Hi x v h0 h k u gen (L.length+3) lvl).length),.int .i64 (xB v h0 h k lvl gen)])/\(d.L.map dJ.c=tV (Hi x v h0 h k u gen (L.length+3) lvl) cs.length/\Fits d.L) /\
      SF w D [(ba,aO (L++d.L) (kO (Hi x v h0 h k u gen (L.length+3) lvl) cs) g acc d.pn d.cn d.pc d.cc)] [] (cH d.L) (mW (L++d.L) (kO (Hi x v h0 h k u gen (L.length+3) lvl) cs) d.pn d.cn d.pc d.cc) w':=by
       refine enter func285 ntmps285 rfl rfl (vK hs) ?_;simp only[bY];refine Pa ?_;refine jF ?_;refine Q9 ?_;(refine Ka4 ?_);refine vd ?_;refine aD ?_;(refine kT 24 (λ g24=>?_) (λ g24=>?_)<;>refine Ka0 ?_);all_goals (refine vb ?_;refine aC ?_)
       all_goals
        refine aX (λ c27=>?_) (λ c27=>?_)
        ·all_goals try (exfalso;omega)
         all_goals refine Pa ?_
         all_goals refine bJ results285 (λ w hw=>?_);exact Dk hw E0f E0f (by unfold xB;exact if_pos (by omega)) (by decide)
        ·try exact nv c27
         all_goals (refine mD ?_;refine J2 ?_;refine aA (aAA rf rf (λ w=>Ut _ w)) rfl ?_;refine aC ?_)
         all_goals
          refine aX (λ c29=>?_) (λ c29=>?_);·exact nv c29
          ·try (exfalso;omega)
           refine Ix ?_;refine aJ (aCE (hm:=λ w=>Ib _ _ w) (hc:=λ w hs=>o0 (L:=L) (cs:=cs) (v:=v) (r:=x) hs hf hxm (by omega) hnv)) (λ x32 h32=>?_);refine aI (λ x16=>?_);refine J5 ?_;refine I9 ?_;refine jI ?_;refine aD ?_;(refine kT 36 (λ g36=>?_) (λ g36=>?_)<;>refine Ka0 ?_);all_goals ((first|refine bG ?_|(refine aG ?_;refine lW ?_));refine vd ?_;refine aD ?_)
           all_goals (first|refine bG ?_|(refine kT 41 (λ g41=>?_) (λ g41=>?_)<;>refine Ka0 ?_))
           all_goals (refine J6 ?_;(first|refine bG ?_|(refine aG ?_;refine m9 ?_));refine Kc2 ?_)
           all_goals
            refine aX (λ c46=>?_) (λ c46=>?_)
            ·all_goals try (exfalso;omega)
             all_goals refine Pa ?_
             all_goals refine K1q ?_;intro w hw;unfold xB;rw[if_neg (by omega)];refine if_pos ?_;first|exact .inl (by omega)|exact .inr (.inl (by omega))|exact .inr (.inr (.inl (by simpa using c46)))
            ·try exact nv c46
             all_goals obtain⟨hvh,hx1⟩:=hv (by omega)
             all_goals (refine mD ?_;refine gP ?_;refine aD ?_;refine aK (cV (hc:=λ w1 hw=>by rw[hvh];exact Fv hh0 hh w1)) (λ x50=>?_);refine aD ?_;refine pD ?_)
             all_goals
              refine aX (λ c52=>?_) (λ c52=>?_)
              ·try (exfalso;omega)
               refine Pa ?_;refine K1q ?_;intro w hw;unfold xB;rw[if_neg (by omega)];exact if_pos (.inr (.inr (.inr (by omega))))
              ·try (exfalso;omega)
               refine Ix ?_;refine bW ?_;refine Jh ?_;refine aD ?_;refine bX ?_;refine aD ?_;refine bX ?_;refine aI (λ x17=>?_);refine J5 ?_;refine J2 ?_;refine aJ (cM (A0:=[]) (hc:=λ w hs=>D2 (L:=L) (cs:=cs) (x:=x) (v:=⟨atN v x32.1 x32.2,v.xs,v.ys⟩) (k:=k) (u:=u) (gen:=gen) (by omega) (by omega) hvh hh0 hh hx1 (mU h0 h-lvl) lvl (by omega) _ [] w hs)) (λ x63 h63=>?_);refine J8 ?_;refine bJ results285 (λ w hw=>?_);have he:xB v h0 h k lvl gen=0:=by
                unfold xB;rw[if_neg (by omega)];refine if_neg ?_;rintro (h1|h1|h1|h1);·omega
                ·omega
                ·exact absurd h1 c46
                ·omega
               refine⟨x63,?_,?_,?_⟩;·rw[he,E1 he];rfl
               ·rw[E1 he];exact h63
               ·rw[E1 he];exact hw.ret (List.Sublist.cons _ (List.Sublist.cons _ (List.Sublist.refl _))) (aT.bA λ f hf=>by exact List.mem_append_left _ hf) (List.Sublist.cons _ (List.Sublist.cons _ (List.Sublist.refl _)))
end
end Go.Proofs.YthblobahelfefaaGreatDoor
namespace Go.Ct
section
def NI.c0(a:NI):Nv:=a.n.c a.xs a.ys
def NI.no:NI:=⟨Nd.zero,[],[],0⟩
end
end Go.Ct
namespace Go.Proofs.YthblobahelfefaaGreatDoor
open Go Go.RowKit Go.Ct
section
structure jG where
 t:nV
 key:ByteArray
 h:Nat
 val:Int
 pol:Int
 exp:Int
def fG(c:jG)(found:Bool)(v:Int):Bool:=if c.pol=1 then !found else if c.pol=2 then found else if c.pol=3 then found&&v==c.exp else true
def El:List NI->Int->(Int->Tr)->Tr
 | [],r,K=>K r
 | a::l,_,K=>.alloc a.c0 a.init λ r=>El l r K
def ma(x:Int)(h0 h:Nat)(p:Pr)(k:ByteArray)(u gen:Int)(fi lvl:Nat):List NI:=dN x h0 h p k u gen fi (mU h0 h-lvl) lvl
def lO(c:jG)(nb:Nv)(level:Nat)(gen b:Int):Prop:=nb.kind=4/\c.key.size<=64/\c.key≠nb.key/\level<=mU nb.hash.toNat c.h/\level<=11/\1<=gen/\1<=b
instance (c:jG) (nb:Nv) (level:Nat) (gen b:Int):Decidable (lO c nb level gen b):=inferInstanceAs (Decidable (_/\_))
def yD(c:jG)(b:Int)(level:Nat)(gen:Int)(K:Int->Tr):Tr:=.node b λ nb=>if lO c nb level gen b then
 .alloc ((ma b nb.hash.toNat c.h (nb.key,nb.val) c.key c.val gen 0 level).headD NI.no).c0 ((ma b nb.hash.toNat c.h (nb.key,nb.val) c.key c.val gen 0 level).headD NI.no).init λ f =>
 El (ma b nb.hash.toNat c.h (nb.key,nb.val) c.key c.val gen f.toNat level).tail f K
 else .stuck
abbrev qP(T:Tr)(found:Bool)(v:Int):Bool->Tr:=λ ok=>if ok=true then .done (A7 found v) else T
abbrev gO(h level:Nat):Int:=En h ((level:Nat):Int)
def X6(c:jG)(T:Tr)(i m:Int)(n:Nv):Tr:=if n.ys.length<=1000 then
 if fG c (cU n.ys c.key).isSome ((cU n.ys c.key).getD 0)=true then
  (if(iF n.nd n.xs n.ys c.key c.val).isSome=true then .alloc (grV n c.key c.val) m λ q=>kQ c.t i m q (qP T (cU n.ys c.key).isSome ((cU n.ys c.key).getD 0)) else .stuck)
 else .done (dW (cU n.ys c.key).isSome ((cU n.ys c.key).getD 0))
 else .stuck
def U5(c:jG)(T:Tr)(i m:Int)(level:Nat)(n:Nv):Tr :=
 if fG c false 0=true then .alloc (qZ c.h c.key c.val) 0 λ s =>
  if(K4 n.nd n.xs n.ys n.bm.toNat (gO c.h level) s).isSome=true then .alloc (Tm n (gO c.h level) s) m λ q=>kQ c.t i m q (qP T false 0) else .stuck
 else .done (dW false 0)
def Pp(c:jG)(T:Tr)(i m:Int)(level:Nat)(n:Nv)(u:Int):Tr :=
 if fG c true u=true then .alloc (qZ c.h c.key c.val) 0 λ s =>
  if(Jn n.nd n.xs n.ys n.bm.toNat (gO c.h level) s).isSome=true then .alloc (Kn n (gO c.h level) s) m λ q=>kQ c.t i m q (qP T true u) else .stuck
 else .done (dW true u)
def Kc(c:jG)(T:Tr)(gen i m:Int)(level:Nat)(n:Nv)(b:Int):Tr :=
 if fG c false 0=true then yD c b (level+1) gen λ d=>.alloc (dC gen) d λ j =>
  if(Jn n.nd n.xs n.ys n.bm.toNat (gO c.h level) j).isSome=true then .alloc (Kn n (gO c.h level) j) m λ q=>kQ c.t i m q (qP T false 0) else .stuck
 else .done (dW false 0)
def oR(c:jG)(T:Tr)(gen:Int)(down:Int->Nat->Tr)(i:Int)(level:Nat)(m:Int):Tr:=.node m λ nm =>
 if nm.kind=6 then X6 c T i m nm
 else if nm.kind=3 then
  match lY nm (gO c.h level) with
  | none=>U5 c T i m level nm
  | some b=>.node b λ nb=>if nb.kind=4 then(if nb.key=c.key then Pp c T i m level nm nb.val else Kc c T gen i m level nm b)
   else if nb.kind=2/\nb.gen=gen then down b (level+1) else .stuck
 else .stuck
def xE(c:jG)(T:Tr)(gen:Int):Nat->Int->Nat->Tr
 | 0,_,_=>.stuck
 | n+1,i,level=>xV c.t i λ m=>oR c T gen (xE c T gen n) i level m
def mF(c:jG):Nat->Tr
 | 0=>.stuck
 | n+1=>xO c.t λ r=>.node r λ nr=>xE c (mF c n) nr.gen 12 r 0
def jB(t:nV):Nat->Tr
 | 0=>.stuck
 | n+1=>xO t λ r=>xV t r λ m=>.alloc cQ 0 λ c=>.gen λ g=>.alloc (dC g) c λ i=>uE t r m i λ ok=>if ok=true then .done (dW true 0) else jB t n
end
section
abbrev t3:nV:=⟨3,false⟩
structure kA where
 kind:Int
 handle:Int
 key:ByteArray
 val:Int
 exp:Int
structure gE where
 thr:Nat
 idx:Nat
 ret:Bool
 r:Rs
structure Xs where
 ops:List kA
 idx:Nat
 pr:Option Tr
structure AM where
 s:Mm
 th:List Xs
 hist:List gE
def lC:Nat:=100000
def Dn(k:Int):Int:=if k=2 then 1 else if k=3 then 2 else if k=4 then 3 else 0
def nL(m:Nat)(o:kA):Tr :=
 if o.kind=7 then xO t3 λ i=>uW t3 (tP o.key m) o.key .done lC i 0
 else if o.kind=10 then jB t3 lC
 else mF ⟨t3,o.key,tP o.key m,o.val,Dn o.kind,o.exp⟩ lC
def Kh(r:Rs):Rs:={r with ref:=0,root:=0,ro:=false}
def uL(Z:AM)(k:Nat)(t:Xs)(p:Tr×Mm)(l:List gE):AM :=
 match p.1 with
 | .done r=>⟨p.2,Z.th.set k ⟨t.ops,t.idx+1,none⟩,l++[⟨k,t.idx,true,Kh r⟩]⟩
 | T=>⟨p.2,Z.th.set k ⟨t.ops,t.idx,some T⟩,l⟩
def fF(m:Nat)(k:Nat)(Z:AM):AM :=
 match Z.th[k]? with
 | none=>Z
 | some t =>
  match t.ops[t.idx]? with
  | none=>Z
  | some o =>
   match t.pr with
   | none=>uL Z k t (iR (nL m o) Z.s) (Z.hist++[⟨k,t.idx,false,Rs.zero⟩])
   | some T=>uL Z k t (mJ (T,Z.s)) Z.hist
def Tf(m:Nat)(k:Nat)(Z:AM):Prop :=∀t o,Z.th[k]?=some t->t.ops[t.idx]?=some o->(match t.pr with|none=>(iR (nL m o) Z.s).1|some T=>(mJ (T,Z.s)).1)≠.stuck
section
variable{k:Nat}
theorem Ga{Z:AM}{t:Xs}{p:Tr×Mm}{l:List gE}{r:Rs}(e:p.1=.done r):uL Z k t p l=⟨p.2,Z.th.set k ⟨t.ops,t.idx+1,none⟩,l++[⟨k,t.idx,true,Kh r⟩]⟩:=by unfold uL;rw[e]
theorem sA{Z:AM}{t:Xs}{p:Tr×Mm}{l:List gE}(e:p.1.live=true):uL Z k t p l=⟨p.2,Z.th.set k ⟨t.ops,t.idx,some p.1⟩,l⟩:=by
 unfold uL;cases hp:p.1 with
 | done r=>rw[hp] at e;cases e
 | load c k=>rfl
 | qG c o n k=>rfl
 | alloc n i k=>rfl
 | cell i k=>rfl
 | gen k=>rfl
 | node r k=>rfl
 | stuck=>rfl
end
end
end Go.Proofs.YthblobahelfefaaGreatDoor
namespace Go.Ct
open Go Go.RowKit
section
theorem nK{P:Program}{S:List (Nat×Value)}{G:World->Prop}{d:Nat}{ty:TypeId}{pos:String}{af:Array Edge}{gd:Option (Nat×Bool)}{fn:Fn}{fs cap:List Operand}{us vs:List Value}(hf:lX S fs=us)(hc:lX S cap=vs):aH P S G ⟨some d,.makeFunc fn ⟨fs⟩ ⟨cap⟩,ty,pos,af,gd⟩ (.func fn ⟨us⟩ ⟨vs⟩):=⟨λ w _=>by
 subst hf hc;have hm:(cap.map (ev S)).toArray=⟨lX S cap⟩:=by rw[sE]
 have hn:(fs.map (ev S)).toArray=⟨lX S fs⟩:=by rw[sE]
 simp only[execOp,List.map_toArray,hm,hn];rfl⟩
end
end Go.Ct
namespace Go.Proofs.YthblobahelfefaaGreatDoor
open Go.Proofs.Tryz
open Go Go.RowKit Go.Ct
section
abbrev pC(b:Nat)(c:jG)(g par i l:Int):List Value:=[.iface 51 (.pointer (some ⟨b,0,none⟩)),.int .i64 c.t.root,.bool c.t.ro,.string c.key,.int .u64 (c.h:Int),.int .u64 c.val,.int .i64 c.pol,.int .u64 c.exp,.int .i64 g,.int .i64 par,.int .i64 i,.int .i64 l]
abbrev pO(b:Nat)(c:jG)(g par i l:Int):Obj:=.cells ⟨pC b c g par i l⟩ 204 (0,0)
theorem dZ.pv0{b:Nat}:∀{t:Tr} {s s2:Mm} {c:Cd} {B:Fr} (π:Pv),dZ b t s c s2 B->dZ b t ⟨s.nodes,s.cs,s.gen,π⟩ c s2 B
 | .done _,_,_,_,_,_,h=>h
 | .load _ k,_,_,_,_,_,h=>h
 | .qG _ _ _ k,_,_,_,_,_,h=>h
 | .alloc n i k,s,_,_,_,π,h=>dZ.pv0 (t:=k ((s.nodes.length+1:Nat):Int)) π h
 | .cell i k,s,_,_,_,π,h=>dZ.pv0 (t:=k ((s.cs.length+1:Nat):Int)) π h
 | .gen k,s,_,_,_,π,h=>dZ.pv0 (t:=k (s.gen+1)) π h
 | .node r k,s,_,_,_,π,h=>⟨h.1,dZ.pv0 (t:=k (aB s.nodes r)) π h.2⟩
 | .stuck,_,_,_,_,_,_=>trivial
section
variable{D:List Nat}{A B:Fr}{a:AS}{b u:Nat}{w:World}{f:FuncId}{cap:xK}{t:nV}{c:jG}
theorem pS(found:Bool)(v:Int)(w:World):Calls prog 252 #[.bool found,.int .u64 v] w λ e w'=>e=.returned (.agg ⟨(eS (dW found v)).cells⟩)/\St w [] [] w':=by refine enter func252 ntmps252 rfl rfl (SF.s0 w) ?_;simp only[bY];refine K1h ?_;intro x4;refine aC ?_;refine lV ?_;refine bX ?_;refine aK (cV (hc:=λ w1 hw=>rP (dW found v) w1)) (λ x8=>?_);refine aM (cK λ _=>aE rf bU rf (aW _) cW rf dV) (λ _=>?_);refine aC ?_;refine bJ results252 (λ w hw=>?_);exact⟨rfl,hw.done⟩
theorem pT{g par i l:Int}(hb:w.heap[u]?=some (pO b c g par i l))(found:Bool)(v:Int):Calls prog 251 #[pt u,.bool found,.int .u64 v] w λ e w'=>e=.returned (.bool (fG c found v))/\St w [] [] w':=by
 refine enter func251 ntmps251 rfl rfl (SF.im hb) ?_;simp only[bY];refine kt ?_;refine zG ?_;refine Kb2 ?_;refine iC ?_;refine aX (λ c11=>?_) (λ c11=>?_);·refine J2 ?_;refine Yb ?_;refine J1 ?_;refine aP results251 (λ w hw=>?_);refine⟨?_,hw.eP.same hb⟩;unfold fG;rw[if_pos (by assumption)];rfl
 ·refine iC ?_;refine aX (λ c15=>?_) (λ c15=>?_);·refine Kc4 ?_;refine aP results251 (λ w hw=>?_);refine⟨?_,hw.eP.same hb⟩;unfold fG;rw[if_neg (by assumption),if_pos (by assumption)];rfl
  ·refine iC ?_;refine aX (λ c18=>?_) (λ c18=>?_)
   ·refine lV ?_;(refine kT 21 (λ g21=>?_) (λ g21=>?_)<;>refine Ka0 ?_);all_goals (refine Ka0 ?_;(first|refine bG ?_|(refine aG ?_;refine cA ?_));refine J6 ?_;refine Ja ?_;refine J1 ?_)
    all_goals
    refine aP results251 (λ w hw=>?_);refine⟨?_,hw.eP.same hb⟩;unfold fG;rw[if_neg (by assumption),if_neg (by assumption),if_pos (by assumption),g21];rfl
   ·refine Ka2 ?_;refine aP results251 (λ w hw=>?_);refine⟨?_,hw.eP.same hb⟩;unfold fG;rw[if_neg (by assumption),if_neg (by assumption),if_neg (by assumption)];rfl
theorem P3(ok:a.Ok)(hm:a.mm.Small)(hs:SF w D [(b,cX a),(a.u,a.po)] A [] (hU a) w) :
  Calls prog 101 #[.agg ⟨eZ b t⟩,fn f cap] w (kC b (λ _ _ _=>True) a B D w):=by refine enter func101 ntmps101 rfl rfl hs ?_;simp only[bY];refine K1j ?_;intro x2 x3;refine K2c ?_;intro x4 x9;refine aM (cK λ _=>aE rf bU rf (aW _) cW rf dV) (λ _=>?_);refine aC ?_;refine bJ results101 (λ w hw=>?_);exact⟨(lL t.root _ _,[bx x2 (eZ b t),bx x3 [fn f cap]],a),rfl,⟨trivial,ok,(AS.eC.refl a).more (λ _ h=>(List.not_mem_nil h).elim)⟩,((hw.bP (.tail .head)).bP (.tail .head)).rI⟩
end
end
section
abbrev AS.wp(a:AS)(u:Nat)(o:Obj):AS:=⟨a.L,a.cs,a.gen,a.acc,a.pn,a.cn,a.pc,a.cc,u,o,E0⟩
abbrev AS.wq(a:AS)(u:Nat)(o:Obj)(l:Ow):AS:=⟨a.L,a.cs,a.gen,a.acc,a.pn,a.cn,a.pc,a.cc,u,o,l⟩
theorem sX{a:AS}{u:Nat}{o:Obj}(e:a.pv=((u,o),E0)):a=AS.wp a u o:=by cases a;cases e;rfl
def U7(b u:Nat)(c:jG)(T:Tr):Prop:=∀(a:AS) (D:List Nat) (A B:Fr) (w:World) (g par i l:Int),a.pv=((u,pO b c g par i l),E0)->a.Ok->a.mm.Small->(∀f∈cH a.L,f∈A)->(∀x∈B,x∈A)->SF w D [(b,cX a),(a.u,a.po)] A [] (hU a) w ->
  Calls prog 97 #[pt u] w (kC b (λ c' s' B'=>dZ b T a.mm c' s' B') a B D w)
section
variable{D:List Nat}{A B:Fr}{a:AS}{b u:Nat}{w:World}{f:FuncId}{cap:xK}{t:nV}{c:jG}
theorem z7:U7 b u c .stuck:=by intro a D A B w g par i l e ok hm hA hB hs;obtain⟨a0,rfl⟩:∃a0:AS,a=AS.wp a0 u (pO b c g par i l):=⟨a,sX e⟩;refine enter func97 ntmps97 rfl rfl hs ?_;simp only[bY];refine J0 ?_;refine aI (λ x2=>?_);refine aC ?_;refine ai ?_;refine aA (cO (k:=3) (vs:=eZ b c.t) rf bU cW rfl rfl) rfl ?_;refine aD ?_;refine aA (nK aj aj) rfl ?_;refine aJ (jN (A0:=A) (λ w1 hw=>P3 (B:=B) (f:=135) (cap:=⟨[pt u],[]⟩) ok hm hw)) (λ x9 h9=>?_);refine aM (cK λ _=>aE rf bU rf (aW _) cW rf dV) (λ _=>?_);refine aC ?_;refine bJ results97 (λ w hw=>?_);exact⟨x9,rfl,⟨trivial,h9.2⟩,hw.rN⟩
theorem wb{K:Int->Tr}(ht:c.t.root<=9223372036854775807)(hb:∀(s:Mm) (B:Fr) (g par i l r:Int),s.pv=((u,pO b c g par i l),E0)->r<=s.nodes.length->jK b 135 ⟨[pt u],[]⟩ [.int .i64 r] B s (K r)):U7 b u c (xO c.t K):=by
 intro a D A B w g par i l e ok hm hA hB hs;obtain⟨a0,rfl⟩:∃a0:AS,a=AS.wp a0 u (pO b c g par i l):=⟨a,sX e⟩;have hT:tQ b K (AS.wp a0 u (pO b c g par i l)).mm 135 ⟨[pt u],[]⟩ B:=⟨by kernel_rfl,λ r s1 l1 hr _=>hb s1 B g par i l r l1.pv hr⟩;refine enter func97 ntmps97 rfl rfl hs ?_;simp only[bY]
 refine J0 ?_;refine aI (λ x2=>?_);refine aC ?_;refine ai ?_;refine aA (cO (k:=3) (vs:=eZ b c.t) rf bU cW rfl rfl) rfl ?_;refine aD ?_;refine aA (nK aj aj) rfl ?_;refine aJ (jN (A0:=A) (λ w1 hw=>Mn ht hT ok hm hA hB hw)) (λ x9 h9=>?_);refine aM (cK λ _=>aE rf bU rf (aW _) cW rf dV) (λ _=>?_);refine aC ?_;refine bJ results97 (λ w hw=>?_);exact⟨x9,rfl,h9,hw.rN⟩
theorem bl{T:Tr}(hd:U7 b u c T){found:Bool}{v g par i l:Int}{s:Mm}{b1 b2 b3:Nat}(hpv:s.pv=((u,pO b c g par i l),E0))(k:Bool):jK b 283 [pt b1,pt b2,pt b3] [.bool k] (bx b1 [pt u]::bx b2 [.bool found]::bx b3 [.int .u64 v]::B) s (if k=true then .done (A7 found v) else T):=by
 intro a D A w em ok hm0 hA hB hw0;subst em;refine K1c ?_;intro hm;refine enter func283 ntmps283 rfl rfl hw0 ?_;simp only[bY];refine J0 ?_;refine aI (λ x5=>?_);refine Kc3 ?_;refine pG ?_;refine aX (λ c7=>?_) (λ c7=>?_);·refine J0 ?_;refine aA (iA b1 [pt u] 0 hB rfl) rfl ?_;refine aJ (jN (λ w1 hw=>hd a _ A _ w1 g par i l hpv ok hm hA hB hw)) (λ x9 h9=>?_);refine aM (cK λ _=>aE rf bU rf (aW _) cW rf dV) (λ _=>?_);refine aC ?_;refine bJ results283 (λ w hw=>?_);refine⟨x9,rfl,⟨?_,h9.2⟩,hw.rN⟩;rw[if_neg (by simpa using c7)];exact h9.1
 ·refine Kb5 ?_;refine aA (iA b2 [.bool found] 0 hB rfl) rfl ?_;refine aA (iA b3 [.int .u64 v] 0 hB rfl) rfl ?_;refine bX ?_;refine aK (cV (hc:=λ w1 hw=>rP (A7 found v) w1)) (λ x13=>?_);refine aM (cK λ _=>aE rf bU rf (aW _) cW rf dV) (λ _=>?_);refine aC ?_;refine bJ results283 (λ w hw=>?_);refine⟨(eS (A7 found v),[],a),rfl,⟨?_,ok,AS.eC.refl a⟩,hw.rI⟩;rw[if_pos (by simpa using c7)];exact⟨rfl,rfl⟩
end
end
section
variable{A F B:Fr}{O:List Ow}
theorem aFz{x y z:Option Addr×List Value}:bL A (x::y::z::(F++[])) O (x::y::z::(F++A)):=bL.of λ f hf=>by
 simp only[List.mem_cons,List.mem_append] at hf;rcases hf with h|h|h|h|h;·exact .inr (.inr (.inl (by simp[h])))
 ·exact .inr (.inr (.inl (by simp[h])))
 ·exact .inr (.inr (.inl (by simp[h])))
 ·exact .inr (.inr (.inl (by simp[h])))
 ·exact .inr (.inl h)
theorem aBR{x y z f:Option Addr×List Value}(h:f∈F):f∈x::y::z::F:=.tail _ (.tail _ (.tail _ h))
theorem aEj{x y z:Option Addr×List Value}(h:∀f∈B,f∈A):∀f∈x::y::z::(F++B),f∈x::y::z::(F++A):=λ f hf=>by
 simp only[List.mem_cons,List.mem_append] at hf ⊢;rcases hf with h1|h1|h1|h1|h1;·exact .inl h1
 ·exact .inr (.inl h1)
 ·exact .inr (.inr (.inl h1))
 ·exact .inr (.inr (.inr (.inl h1)))
 ·exact .inr (.inr (.inr (.inr (h f h1))))
theorem e8{a:AS}{n:Nd}{xs:List Int}{ys:List Pr}{init:Int}{x:AX}(h:∀f∈cH a.L,f∈A):∀f∈cH (a.al n xs ys init x).L,f∈(kP n xs ys a.cs.length x).fr++A:=λ f hf=>by
 rw[pW] at hf;rcases List.mem_append.1 hf with h1|h1;·exact List.mem_append_right _ (h f h1)
 ·exact List.mem_append_left _ (by simpa[cH] using h1)
theorem aBv{x:Option Addr×List Value}:bL A (x::(F++[])) O (x::(F++A)):=bL.of λ f hf=>by
 simp only[List.mem_cons,List.mem_append] at hf;rcases hf with h|h|h;·exact .inr (.inr (.inl (by simp[h])))
 ·exact .inr (.inr (.inl (by simp[h])))
 ·exact .inr (.inl h)
theorem aBw{x:Option Addr×List Value}(h:∀f∈B,f∈A):∀f∈F++B,f∈x::(F++A):=λ f hf=>by
 simp only[List.mem_cons,List.mem_append] at hf ⊢;rcases hf with h1|h1;·exact .inr (.inl h1)
 ·exact .inr (.inr (h f h1))
theorem Nb{w0 w:World}{M:List Nat}{H H':List (Nat×Obj)}{G:Fr}(h:SF w0 M H A (F++(G++[])) O w)(hH:H'.Sublist H:=by repeat (first|exact List.Sublist.refl _|apply List.Sublist.cons)):SF w0 M H' [] (F++G) O w:=h.ret hH (aT.bA λ f hf=>by simpa using hf) (List.Sublist.refl _)
section
variable{D:List Nat}{A B:Fr}{a:AS}{b u:Nat}{w:World}{f:FuncId}{cap:xK}{t:nV}{c:jG}
theorem pM{T:Tr}(hd:U7 b u c T)(ht:c.t.root<=9223372036854775807){found:Bool}{v g par r l m:Int}{nd:Nd}{xs:List Int}{ys:List Pr}{k:Bool}(hk:k=true)(hpv:a.pv=((u,pO b c g par r l),E0))(hr:r<=a.mm.nodes.length)(hmm:m<=a.mm.nodes.length)(e1:nd.brN=xs.length)(e2:nd.prN=ys.length)(hx:xs.length<=1000)(hy:ys.length<=274877906944)(hnb:rH a.mm.nodes.length a.mm.cs.length {nd.c xs ys with main:=0,prev:=0,status:=0})(hAx:aN xs=[]∨(nd.brA,aN xs)∈A)(hAy:cY ys=[]∨(nd.prA,cY ys)∈A)(ok:a.Ok)(hm1:a.mm.nodes.length<=137438953100/\a.mm.cs.length<=137438953100)(hA:∀f∈cH a.L,f∈A)(hB:∀x∈B,x∈A)(hs:SF w D [(b,cX a),(a.u,a.po)] A [] (hU a) w) :
  Calls prog 254 #[pt u,.int .i64 m,nd.v,.bool k,.bool found,.int .u64 v] w (kC b (λ c' s' B'=>dZ b (.alloc (nd.c xs ys) m λ q=>kQ c.t r m q (qP T found v)) a.mm c' s' B') a B D w):=by
 subst hk;obtain⟨a0,rfl⟩:∃a0:AS,a=AS.wp a0 u (pO b c g par r l):=⟨a,sX hpv⟩;have hm:(AS.wp a0 u (pO b c g par r l)).mm.Small:=⟨Nat.le_trans hm1.1 (by decide),Nat.le_trans hm1.2 (by decide)⟩;have okx:∀x:AX,((AS.wp a0 u (pO b c g par r l)).al nd xs ys m x).Ok:=λ x=>ok.al x (by omega) hy hnb (by omega)
 have hmx:∀x:AX,((AS.wp a0 u (pO b c g par r l)).al nd xs ys m x).mm.Small:=λ x=>by rw[eU];have h1:=hm1.1;have h2:=hm1.2;have h3:=jZ (k:=(nd.c xs ys).kind) (cs:=(AS.wp a0 u (pO b c g par r l)).mm.cs) (init:=m);exact⟨by show((AS.wp a0 u (pO b c g par r l)).mm.nodes++[_]).length<=_;rw[List.length_append];simp only[List.length_singleton];omega,by show(gJ _ _ _).length<=_;omega⟩
 have hlx:∀x:AX,((AS.wp a0 u (pO b c g par r l)).al nd xs ys m x).mm.nodes.length=(AS.wp a0 u (pO b c g par r l)).mm.nodes.length+1:=λ x=>by rw[eU];show(_++[_]).length=_;rw[List.length_append];rfl
 have hT:∀(x:AX) (x6 xa xb:Nat),Na b (qP T found v) ((AS.wp a0 u (pO b c g par r l)).al nd xs ys m x).mm 283 ⟨[],[pt x6,pt xa,pt xb]⟩ (bx x6 [pt u]::bx xa [.bool found]::bx xb [.int .u64 v]::((kP nd xs ys a0.cs.length x).fr++B)):=λ x x6 xa xb=>⟨by kernel_rfl,λ k s1 l1 _=>bl hd (g:=g) (par:=par) (i:=r) (l:=l) (l1.pv.trans rfl) k⟩;refine enter func254 ntmps254 rfl rfl hs ?_;simp only[bY]
 simp only[Nd.v,Nd.cells];refine J0 ?_;refine bC (λ x6=>?_);refine bC (λ x8=>?_);refine bC (λ x10=>?_);refine bC (λ x11=>?_);refine aI (λ x12=>?_);refine Kc3 ?_;refine pG ?_;refine aX (λ c14=>?_) (λ c14=>?_);·exact nv c14
 ·try (first|contradiction|(exfalso;omega))
  refine mD ?_;refine eQ [(0,[]),(1,[]),(2,[]),(3,[]),(4,[]),(5,[]),(6,[]),(7,[]),(8,[]),(9,[]),(10,[]),(11,[]),(12,[]),(13,[]),(14,[]),(15,[]),(17,[]),(16,[0,3,4,7]),(18,[]),(19,[])] ?_;refine cJ ?_;refine J4 ?_;refine bI (i:=3) (hq:=(cO (k:=3) (vs:=eZ b c.t) rf bU cW rfl rfl)) (h:=?_);refine cJ ?_;refine J4 ?_;refine cJ ?_;refine aR ?_;refine cJ ?_;refine J4 ?_;refine iX ?_;refine cJ ?_;refine aR ?_;(refine dA (i:=17) (hq:=bE) (h:=?_));refine bS (i:=16) (hq:=(Jc (V:=λ _:AX=>.int .i64 ((a0.mm.nodes.length+1:Nat):Int)) (hs:=[(b,cX (AS.wp a0 u (pO b c g par r l)))]) (os:=iS (AS.wp a0 u (pO b c g par r l))) (A0:=[(nd.brA,aN xs),(nd.prA,cY ys)]) (hs':=λ x=>[(b,cX ((AS.wp a0 u (pO b c g par r l)).al nd xs ys m x))]) (os':=λ x=>iS ((AS.wp a0 u (pO b c g par r l)).al nd xs ys m x)) (Fc:=λ x=>(kP nd xs ys a0.cs.length x).fr) (hA:=.cons (hAx.elim .inl λ h=>.inr (.inl h)) (.cons (hAy.elim .inl λ h=>.inr (.inl h)) .nil)) (hm:=λ w=>eK _ _ _ w) (hc:=λ w1 hw=>kY (n:=nd) (xs:=xs) (ys:=ys) ok hm m e1 e2 (by omega) hy (λ f hf=>hf) hw))) (hfire:=(λ _=>by(refine gT ?_;(repeat (first|exact aS.nil|refine aS.cons (by first|exact fR|exact fO (hq:=cO (k:=3) (vs:=eZ b c.t) rf bU cW rfl rfl)) ?_));done))) (h:=λ x33 h33=>?_);((refine cB (i:=18) (hq:=(aQ.pre (λ w h=>(show SF _ _ [_,_,(b,cX ((AS.wp a0 u (pO b c g par r l)).al nd xs ys m x33)),(u,pO b c g par r l)] _ (bx x6 [pt u]::bx x10 [.bool found]::bx x11 [.int .u64 v]::((kP nd xs ys a0.cs.length x33).fr++[]):Fr) _ w from((h.bP (.tail .head)).bP (.tail .head)).bP (.tail (.tail .head)))) (jN (a:=(AS.wp a0 u (pO b c g par r l)).al nd xs ys m x33) (A0:=bx x6 [pt u]::bx x10 [.bool found]::bx x11 [.int .u64 v]::((kP nd xs ys a0.cs.length x33).fr++A)) (B:=bx x6 [pt u]::bx x10 [.bool found]::bx x11 [.int .u64 v]::((kP nd xs ys a0.cs.length x33).fr++B)) (hA:=aFz) (λ w1 hw=>zo (i:=r) (old:=m) (n:=((a0.mm.nodes.length+1:Nat):Int)) ht (hT x33 x6 x10 x11) (by rw[hlx];omega) (by rw[hlx];exact Int.le_refl _) (okx x33) (hmx x33) (λ f hf=>aBR (e8 (hA) f hf)) (aEj hB) hw)))) (h:=λ x35=>?_);try (refine iV (λ h35=>?_))));refine fC (i:=19) (hq:=(cK λ _=>aE rf bU rf (aW _) cW rf dV)) (h:=λ _=>?_);refine dY ?_;refine bJ results254 (λ w hw=>?_);refine⟨(x35.1,x35.2.1++(bx x6 [pt u]::bx x10 [.bool found]::bx x11 [.int .u64 v]::(kP nd xs ys a0.cs.length x33).fr),x35.2.2),rfl,⟨?_,h35.2.1,?_⟩,?_⟩;·have h1:=h35.1;rw[eU] at h1;rw[List.append_assoc];exact h1
  ·exact((AS.eC.al (AS.wp a0 u (pO b c g par r l)) nd xs ys m x33).trans h35.2.2).more λ f hf=>(List.mem_append.1 hf).elim (λ h=>List.mem_append_left _ h) λ h=>List.mem_append_right _ (aBR h)
  ·exact Nb (G:=bx x6 [pt u]::bx x10 [.bool found]::bx x11 [.int .u64 v]::(kP nd xs ys a0.cs.length x33).fr) hw
end
end
section
theorem aBB(v:dJ)(b:Nat)(i r:Int):K4 v.c.nd v.c.xs v.c.ys b i r=K4 v.nd v.xs v.ys b i r:=by unfold K4;simp only[show CV v.c.nd v.c.xs v.c.ys=CV v.nd v.xs v.ys from rm];rfl
theorem Xr(v:dJ)(b:Nat)(i r:Int):Jn v.c.nd v.c.xs v.c.ys b i r=Jn v.nd v.xs v.ys b i r:=by unfold Jn;simp only[show CV v.c.nd v.c.xs v.c.ys=CV v.nd v.xs v.ys from rm];rfl
abbrev Tl(c:jG):Nd:={Nd.zero with kind:=4,hash:=(c.h:Int),key:=c.key,val:=c.val}
variable{v:dJ}{n k:Nat}{i r:Int}
theorem pb{c:jG}(hh:c.h<18446744073709551616)(m k:Nat):rH m k {(Tl c).c [] [] with main:=0,prev:=0,status:=0}:=⟨fQ _,fQ _,fQ _,(λ r hr=>nomatch hr),fQ _,fQ _,fQ _,⟨0,rfl,by decide⟩,⟨c.h,rfl,hh⟩⟩
theorem zj(hv:rH n k v.c)(h:(Wi v i r).isSome=true):v.xs.length<=1000:=by
 have hc:CV v.nd v.xs v.ys:=by
  unfold Wi K4 at h;split at h;·rename_i hc;exact hc.1
  ·cases h
 exact Nat.le_trans (Yd (hc.bv (gZ hv).1 (gZ hv).2)) (by decide)
theorem Xo(hv:rH n k v.c)(h:(Ji v i r).isSome=true):v.xs.length<=1000:=by
 have hc:CV v.nd v.xs v.ys:=by
  unfold Ji Jn at h;split at h;·rename_i hc;exact hc.1
  ·cases h
 exact Nat.le_trans (Yd (hc.bv (gZ hv).1 (gZ hv).2)) (by decide)
theorem Ny{o:Option (Nat×List Int)}(h:o.isSome=true)(x:Option Addr×Nat):(Ig o x).brA=x.1:=by
 cases o with
 | none=>cases h
 | some q=>rfl
theorem Mc{m:Nat}{o:Option (Nat×List Int)}(h:Uz m o):(sQ o).length<=1000:=by
 cases o with
 | none=>exact Nat.zero_le _
 | some q=>exact Nat.le_trans (h.out q rfl).2.1 (by decide)
section
variable{D:List Nat}{A B:Fr}{a:AS}{b u:Nat}{w:World}{f:FuncId}{cap:xK}{t:nV}{c:jG}
abbrev AS.sg(a:AS)(c:jG)(x:AX):AS:=a.al (Tl c) [] [] 0 x
theorem uI(a:AS)(c:jG)(x:AX):(AS.sg a c x).mm.nodes.length=a.mm.nodes.length+1:=by rw[eU];show(_++[_]).length=_;rw[List.length_append];rfl
theorem ep{T:Tr}{level:Nat}(hd:U7 b u c T)(ht:c.t.root<=9223372036854775807)(hh:c.h<18446744073709551616){g par r l m:Int}{v:dJ}(hv:rH a.mm.nodes.length a.mm.cs.length v.c)(hf:v.Fit)(hc1:v.xs.length<=v.nd.brC)(hAx:(v.nd.brA,aN v.xs)∈A)(hAy:(v.nd.prA,cY v.ys)∈A)(hpv:a.pv=((u,pO b c g par r l),E0))(hr:r<=a.mm.nodes.length)(hmm:m<=a.mm.nodes.length)
  (hin:fG c false 0=true->(Wi v (gO c.h level) ((a.mm.nodes.length+1:Nat):Int)).isSome=true) (ok:a.Ok) (hm0:a.mm.gM) (hA:∀f∈cH a.L,f∈A) (hB:∀x∈B,x∈A) (hs:SF w D [(b,cX a),(a.u,a.po)] A [] (hU a) w) :
  Calls prog 255 #[pt u,.int .i64 m,v.nd.v,.int .i64 (gO c.h level)] w (kC b (λ c' s' B'=>dZ b (if fG c false 0=true then .alloc (qZ c.h c.key c.val) 0 λ s=>.alloc (Tm v.c (gO c.h level) s) m λ q=>kQ c.t r m q (qP T false 0) else .done (dW false 0)) a.mm c' s' B') a B D w):=by
 obtain⟨a0,rfl⟩:∃a0:AS,a=AS.wp a0 u (pO b c g par r l):=⟨a,sX hpv⟩;have hm:=hm0.small;have okx:∀x:AX,(AS.sg (AS.wp a0 u (pO b c g par r l)) c x).Ok:=λ x=>ok.al x (by simp) (by simp) (pb hh _ _) (by omega)
 have hmx:∀x:AX,(AS.sg (AS.wp a0 u (pO b c g par r l)) c x).mm.nodes.length<=137438953100/\(AS.sg (AS.wp a0 u (pO b c g par r l)) c x).mm.cs.length<=137438953100:=λ x=>by have h1:=hm0.1;have h2:=hm0.2;refine⟨by rw[uI];omega,?_⟩;rw[eU];exact Nat.le_trans h2 (by decide)
 have hv2:rH ((AS.wp a0 u (pO b c g par r l)).mm.nodes.length+1) (AS.wp a0 u (pO b c g par r l)).mm.cs.length v.c:=hv.mono (Nat.le_succ _) (Nat.le_refl _);refine enter func255 ntmps255 rfl rfl hs ?_;simp only[bY]
 simp only[Nd.v,Nd.cells];refine J0 ?_;refine bC (λ x6=>?_);refine aI (λ x8=>?_);refine Kc3 ?_;refine aK (cV (hc:=λ w1 hw=>pT (hw.st.at bU) false 0)) (λ x13=>?_);refine pG ?_;refine aX (λ c14=>?_) (λ c14=>?_);·refine J0 ?_;refine aK (cV (hc:=λ w1 hw=>pS false 0 w1)) (λ x15=>?_);refine aM (cK λ _=>aE rf bU rf (aW _) cW rf dV) (λ _=>?_);refine aC ?_;refine bJ results255 (λ w hw=>?_);refine⟨(eS (dW false 0),[],AS.wp a0 u (pO b c g par r l)),rfl,⟨?_,ok,AS.eC.refl _⟩,hw.rI⟩;rw[if_neg (by simpa using c14)];exact⟨rfl,rfl⟩
 ·refine K0p ?_;refine cB (i:=17) (hq:=(cV (hc:=λ w1 hw=>F5 (c.h:Int) c.key c.val w1))) (h:=λ x33=>?_);refine bS (i:=20) (hq:=(Jc (V:=λ _:AX=>.int .i64 (((AS.wp a0 u (pO b c g par r l)).mm.nodes.length+1:Nat):Int)) (hs:=[(b,cX (AS.wp a0 u (pO b c g par r l)))]) (os:=iS (AS.wp a0 u (pO b c g par r l))) (A0:=[(none,aN []),(none,cY [])]) (hs':=λ x=>[(b,cX (AS.sg (AS.wp a0 u (pO b c g par r l)) c x))]) (os':=λ x=>iS (AS.sg (AS.wp a0 u (pO b c g par r l)) c x)) (Fc:=λ x=>(kP (Tl c) [] [] a0.cs.length x).fr) (hm:=λ w=>eK _ _ _ w) (hc:=λ w1 hw=>kY (n:=Tl c) (xs:=[]) (ys:=[]) ok hm 0 rfl rfl (by simp) (by simp) (λ f hf=>hf) hw))) (h:=λ x36 h36=>?_);refine J7 ?_;refine tB ?_;refine Jh ?_;refine aJ (cF (hc:=λ w1 hw=>F9 (n:=v.nd) (xs:=v.xs) (ys:=v.ys) (gO c.h level) (((AS.wp a0 u (pO b c g par r l)).mm.nodes.length+1:Nat):Int) (gZ hv).1 (gZ hv).2 (hf.Fp (hw.cl (.old (lQ.dS hAx))) (hw.cl (.old (lQ.dS hAy)))) hc1 (zj hv (hin (by simpa using c14))))) (λ x41 h41=>?_);refine Ot ?_;refine aI (λ x10=>?_);refine J46 ?_;refine lV ?_;refine bW ?_;refine aD ?_;refine aJ (jN (a:=AS.sg (AS.wp a0 u (pO b c g par r l)) c x36) (A0:=(x41.1,aN (sQ (Wi v (gO c.h level) (((AS.wp a0 u (pO b c g par r l)).mm.nodes.length+1:Nat):Int))))::((kP (Tl c) [] [] a0.cs.length x36).fr++A)) (B:=(kP (Tl c) [] [] a0.cs.length x36).fr++B) (hA:=aBv) (λ w1 hw=>pM (a:=AS.sg (AS.wp a0 u (pO b c g par r l)) c x36) (found:=false) (v:=0) (g:=g) (par:=par) (r:=r) (l:=l) (m:=m) (ys:=[]) (nd:=Ig (Wi v (gO c.h level) (((AS.wp a0 u (pO b c g par r l)).mm.nodes.length+1:Nat):Int)) x41) (xs:=sQ (Wi v (gO c.h level) (((AS.wp a0 u (pO b c g par r l)).mm.nodes.length+1:Nat):Int))) hd ht (hin (by simpa using c14)) rfl (by rw[uI];omega) (by rw[uI];omega) (N7 _ _) (O8 _ _) (Mc (aBf hv2 (Int.le_refl _) _)) (Nat.zero_le _) (by rw[uI];exact(aBf hv2 (Int.le_refl _) _).nvB x41) (.inr (by rw[Ny (hin (by simpa using c14))];exact .head _)) (.inl rfl) (okx x36) (hmx x36) (λ f hf=>.tail _ (e8 hA f hf)) (aBw hB) hw)) (λ x48 h48=>?_);refine aM (cK λ _=>aE rf bU rf (aW _) cW rf dV) (λ _=>?_);refine aC ?_;refine bJ results255 (λ w hw=>?_);refine⟨(x48.1,x48.2.1++((x41.1,aN (sQ (Wi v (gO c.h level) (((AS.wp a0 u (pO b c g par r l)).mm.nodes.length+1:Nat):Int))))::(kP (Tl c) [] [] a0.cs.length x36).fr),x48.2.2),rfl,⟨?_,h48.2.1,?_⟩,?_⟩
  ·have h1:=h48.1;rw[if_pos (by simpa using c14)];rw[eU] at h1;show dZ b (.alloc (Tm v.c (gO c.h level) (((AS.wp a0 u (pO b c g par r l)).mm.nodes.length+1:Nat):Int)) m λ q=>kQ c.t r m q (qP T false 0)) _ _ _ _
   rw[aFk hv _ _ x41];refine dZ.more h1 λ y hy=>?_;simp only[List.mem_append,List.mem_cons] at hy ⊢;rcases hy with h|h|h;·exact .inl (.inl h)
   ·exact .inl (.inr (.inr h))
   ·exact .inr h
  ·exact((AS.eC.al (AS.wp a0 u (pO b c g par r l)) (Tl c) [] [] 0 x36).trans h48.2.2).more λ f hf=>(List.mem_append.1 hf).elim (λ h=>List.mem_append_left _ h) λ h=>List.mem_append_right _ (.tail _ h)
  ·exact Nb (G:=(x41.1,aN (sQ (Wi v (gO c.h level) (((AS.wp a0 u (pO b c g par r l)).mm.nodes.length+1:Nat):Int))))::(kP (Tl c) [] [] a0.cs.length x36).fr) hw
end
end
end Go.Proofs.YthblobahelfefaaGreatDoor
namespace Go.Ct
open Go Go.RowKit
section
section
variable{P:Program}{S:List (Nat×Value)}{G:World->Prop}{d:Nat}{ty t t':TypeId}{pos:String}{af:Array Edge}{gd:Option (Nat×Bool)}{x y:Operand}{a b:ByteArray}
theorem aEO{a b:ByteArray}(h:a=b):(a.toList==b.toList)=true:=by subst h;simp
theorem vy(hx:ev S x=.string a)(hy:ev S y=.string b)(h:a=b):aH P S G ⟨some d,.binOp .eql t x y t',ty,pos,af,gd⟩ (.bool true):=by have:=Gb (P:=P) (G:=G) (d:=d) (ty:=ty) (pos:=pos) (af:=af) (gd:=gd) (t:=t) (t':=t') hx hy;rwa [aEO h] at this
end
end
end Go.Ct
namespace Go.Proofs.YthblobahelfefaaGreatDoor
open Go Go.RowKit Go.Ct
section
section
variable{D:List Nat}{A B:Fr}{a:AS}{b u:Nat}{w:World}{f:FuncId}{cap:xK}{t:nV}{c:jG}
theorem Um{T:Tr}{level:Nat}(hd:U7 b u c T)(ht:c.t.root<=9223372036854775807)(hh:c.h<18446744073709551616){g par r l m:Int}{bb:Int}{sx:Nd}(hkey:sx.key=c.key){v:dJ}(hv:rH a.mm.nodes.length a.mm.cs.length v.c)(hf:v.Fit)(hc1:v.xs.length<=v.nd.brC)(hAx:(v.nd.brA,aN v.xs)∈A)(hAy:(v.nd.prA,cY v.ys)∈A)(hpv:a.pv=((u,pO b c g par r l),E0))(hr:r<=a.mm.nodes.length)(hmm:m<=a.mm.nodes.length)
  (hin:fG c true sx.val=true->(Ji v (gO c.h level) ((a.mm.nodes.length+1:Nat):Int)).isSome=true) (ok:a.Ok) (hm0:a.mm.gM) (hA:∀f∈cH a.L,f∈A) (hB:∀x∈B,x∈A) (hs:SF w D [(b,cX a),(a.u,a.po)] A [] (hU a) w) :
  Calls Tryz.prog 256 #[pt u,.int .i64 m,v.nd.v,.int .i64 (gO c.h level),.int .i64 bb,sx.v] w (kC b (λ c' s' B'=>dZ b (if fG c true sx.val=true then .alloc (qZ c.h c.key c.val) 0 λ s=>.alloc (Kn v.c (gO c.h level) s) m λ q=>kQ c.t r m q (qP T true sx.val) else .done (dW true sx.val)) a.mm c' s' B') a B D w):=by
 obtain⟨a0,rfl⟩:∃a0:AS,a=AS.wp a0 u (pO b c g par r l):=⟨a,sX hpv⟩;have hm:=hm0.small;have okx:∀x:AX,(AS.sg (AS.wp a0 u (pO b c g par r l)) c x).Ok:=λ x=>ok.al x (by simp) (by simp) (pb hh _ _) (by omega)
 have hmx:∀x:AX,(AS.sg (AS.wp a0 u (pO b c g par r l)) c x).mm.nodes.length<=137438953100/\(AS.sg (AS.wp a0 u (pO b c g par r l)) c x).mm.cs.length<=137438953100:=λ x=>by have h1:=hm0.1;have h2:=hm0.2;refine⟨by rw[uI];omega,?_⟩;rw[eU];exact Nat.le_trans h2 (by decide)
 have hv2:rH ((AS.wp a0 u (pO b c g par r l)).mm.nodes.length+1) (AS.wp a0 u (pO b c g par r l)).mm.cs.length v.c:=hv.mono (Nat.le_succ _) (Nat.le_refl _);refine enter Tryz.func256 Tryz.ntmps256 rfl rfl hs ?_;simp only[bY]
 simp only[Nd.v,Nd.cells];refine J0 ?_;refine bC (λ x8=>?_);refine bC (λ x11=>?_);refine aI (λ x12=>?_);refine Bz ?_;refine K0y ?_;refine iX ?_;refine nZ ?_;refine dA (i:=6) (hq:=(vy rf rf hkey)) (h:=?_);refine dY ?_;refine aX (λ c27=>?_) (λ c27=>?_)
 ·refine jF ?_;refine J3 ?_;refine aK (cV (hc:=λ w1 hw=>pT (hw.st.at bU) true sx.val)) (λ x31=>?_);refine pG ?_;refine aX (λ c32=>?_) (λ c32=>?_);·refine gP ?_;refine aK (cV (hc:=λ w1 hw=>pS true sx.val w1)) (λ x35=>?_);refine aM (cK λ _=>aE rf bU rf (aW _) cW rf dV) (λ _=>?_);refine aC ?_;refine bJ Tryz.results256 (λ w hw=>?_);refine⟨(eS (dW true sx.val),[],AS.wp a0 u (pO b c g par r l)),rfl,⟨?_,ok,AS.eC.refl _⟩,hw.rI⟩;rw[if_neg (by simpa using c32)];exact⟨rfl,rfl⟩
  ·refine K0p ?_;refine cB (i:=17) (hq:=(cV (hc:=λ w1 hw=>F5 (c.h:Int) c.key c.val w1))) (h:=λ x53=>?_);refine bS (i:=20) (hq:=(Jc (V:=λ _:AX=>.int .i64 (((AS.wp a0 u (pO b c g par r l)).mm.nodes.length+1:Nat):Int)) (hs:=[(b,cX (AS.wp a0 u (pO b c g par r l)))]) (os:=iS (AS.wp a0 u (pO b c g par r l))) (A0:=[(none,aN []),(none,cY [])]) (hs':=λ x=>[(b,cX (AS.sg (AS.wp a0 u (pO b c g par r l)) c x))]) (os':=λ x=>iS (AS.sg (AS.wp a0 u (pO b c g par r l)) c x)) (Fc:=λ x=>(kP (Tl c) [] [] a0.cs.length x).fr) (hm:=λ w=>eK _ _ _ w) (hc:=λ w1 hw=>kY (n:=Tl c) (xs:=[]) (ys:=[]) ok hm 0 rfl rfl (by simp) (by simp) (λ f hf=>hf) hw))) (h:=λ x56 h56=>?_);refine J7 ?_;refine tB ?_;refine Jh ?_;refine aJ (cF (hc:=λ w1 hw=>L0 (n:=v.nd) (xs:=v.xs) (ys:=v.ys) (gO c.h level) (((AS.wp a0 u (pO b c g par r l)).mm.nodes.length+1:Nat):Int) (gZ hv).1 (gZ hv).2 (hf.Fp (hw.cl (.old (lQ.dS hAx))) (hw.cl (.old (lQ.dS hAy)))) hc1 (Xo hv (hin (by simpa using c32))))) (λ x61 h61=>?_);refine Ot ?_;refine aI (λ x14=>?_);refine J46 ?_;refine lV ?_;refine bW ?_;refine aD ?_;refine J3 ?_;refine aJ (jN (a:=AS.sg (AS.wp a0 u (pO b c g par r l)) c x56) (A0:=(x61.1,aN (sQ (Ji v (gO c.h level) (((AS.wp a0 u (pO b c g par r l)).mm.nodes.length+1:Nat):Int))))::((kP (Tl c) [] [] a0.cs.length x56).fr++A)) (B:=(kP (Tl c) [] [] a0.cs.length x56).fr++B) (hA:=aBv) (λ w1 hw=>pM (a:=AS.sg (AS.wp a0 u (pO b c g par r l)) c x56) (found:=true) (v:=sx.val) (g:=g) (par:=par) (r:=r) (l:=l) (m:=m) (ys:=[]) (nd:=Ig (Ji v (gO c.h level) (((AS.wp a0 u (pO b c g par r l)).mm.nodes.length+1:Nat):Int)) x61) (xs:=sQ (Ji v (gO c.h level) (((AS.wp a0 u (pO b c g par r l)).mm.nodes.length+1:Nat):Int))) hd ht (hin (by simpa using c32)) rfl (by rw[uI];omega) (by rw[uI];omega) (N7 _ _) (O8 _ _) (Mc (Wv hv2 (Int.le_refl _) _)) (Nat.zero_le _) (by rw[uI];exact(Wv hv2 (Int.le_refl _) _).nvB x61) (.inr (by rw[Ny (hin (by simpa using c32))];exact .head _)) (.inl rfl) (okx x56) (hmx x56) (λ f hf=>.tail _ (e8 hA f hf)) (aBw hB) hw)) (λ x70 h70=>?_);refine aM (cK λ _=>aE rf bU rf (aW _) cW rf dV) (λ _=>?_);refine aC ?_;refine bJ Tryz.results256 (λ w hw=>?_);refine⟨(x70.1,x70.2.1++((x61.1,aN (sQ (Ji v (gO c.h level) (((AS.wp a0 u (pO b c g par r l)).mm.nodes.length+1:Nat):Int))))::(kP (Tl c) [] [] a0.cs.length x56).fr),x70.2.2),rfl,⟨?_,h70.2.1,?_⟩,?_⟩
   ·have h1:=h70.1;rw[if_pos (by simpa using c32)];rw[eU] at h1;show dZ b (.alloc (Kn v.c (gO c.h level) (((AS.wp a0 u (pO b c g par r l)).mm.nodes.length+1:Nat):Int)) m λ q=>kQ c.t r m q (qP T true sx.val)) _ _ _ _
    rw[aBt hv _ _ x61];refine dZ.more h1 λ y hy=>?_;simp only[List.mem_append,List.mem_cons] at hy ⊢;rcases hy with h|h|h;·exact .inl (.inl h)
    ·exact .inl (.inr (.inr h))
    ·exact .inr h
   ·exact((AS.eC.al (AS.wp a0 u (pO b c g par r l)) (Tl c) [] [] 0 x56).trans h70.2.2).more λ f hf=>(List.mem_append.1 hf).elim (λ h=>List.mem_append_left _ h) λ h=>List.mem_append_right _ (.tail _ h)
   ·exact Nb (G:=(x61.1,aN (sQ (Ji v (gO c.h level) (((AS.wp a0 u (pO b c g par r l)).mm.nodes.length+1:Nat):Int))))::(kP (Tl c) [] [] a0.cs.length x56).fr) hw
 ·exact nv c27
end
end
end Go.Proofs.YthblobahelfefaaGreatDoor

/- Merged. -/
import Derived.Test.YtdeecdfockjoiaaGreatDoorDu1
import Derived.Test.YtdeecdfockjoiaaGreatDoorTp2
import Derived.Test.YtdeecdfockjoiaaGreatDoorGRn0
import Derived.Test.YtdeecdfockjoiaaGreatDoorGAr5
import Derived.Test.YtdeecdfockjoiaaGreatDoorGBr4
import Derived.Test.YtdeecdfockjoiaaGreatDoorGNode1
set_option linter.unusedSimpArgs false
set_option linter.unusedVariables false
namespace Go.Proofs.YtdeecdfockjoiaaGreatDoor
open Go.Proofs.Tryz
open Go Go.RowKit Go.Ct
section
def dN(x:Int)(h0 h:Nat)(p0:Pr)(k:ByteArray)(u gen:Int)(f:Nat):Nat->Nat->List NI
 | 0,lvl=>if lvl=11 then [Pa h (xV [p0,(k,u)])] else [vQ h k u,u4 (eI (eI 0 (sl h0 lvl:Int)) (sl h lvl:Int)) (two (sl h0 lvl) (sl h lvl) x (f:Int))]
 | n+1,lvl=>dN x h0 h p0 k u gen f n (lvl+1)++[Au gen ((f-1+(dN x h0 h p0 k u gen f n (lvl+1)).length:Nat):Int),u4 (eI 0 (sl h lvl:Int)) [((f+(dN x h0 h p0 k u gen f n (lvl+1)).length:Nat):Int)]]
theorem Oo{x:Int}{h0 h:Nat}{p0:Pr}{k:ByteArray}{u gen:Int}{f:Nat}:∀n lvl,(dN x h0 h p0 k u gen f n lvl).length<=2+2*n
 | 0,lvl=>by
  unfold dN
  split<;>simp
 | n+1,lvl=>by
  have:=Oo (x:=x) (h0:=h0) (h:=h) (p0:=p0) (k:=k) (u:=u) (gen:=gen) (f:=f) n (lvl+1);unfold dN;simp only[List.length_append,List.length_cons,List.length_nil]
  omega
variable{ba bb:Nat}{L:List dW}{cs:List Int}{g acc:Int}{pn pc:Option Addr}{kn kc:Nat}{x:Int}{v:dW}{h h0:Nat}{k:ByteArray}{u gen:Int}
theorem En(hl:L.length<=137438953200)(hc:cs.length<=137438953200)(hv:v.nd.hash=(h0:Int))(hh0:h0<18446744073709551616)(hh:h<18446744073709551616)(hx:1<=x):∀(n lvl:Nat),lvl+n=xR h0 h->∀(D:List Nat) (A:Fr) (w:World),SF w D [(bb,blO ba x v h k u gen),(ba,aO L cs g acc pn kn pc kc)] A [] (mW L cs pn kn pc kc) w ->
  Calls prog 301 #[.pointer (some ⟨bb,0,none⟩),.int .i64 ((lvl:Nat):Int)] w (Did w D bb ba x v h k u gen L cs g acc (dN x h0 h (v.nd.key,v.nd.val) k u gen (L.length+3) n lvl))
 | 0,lvl,hn,D,A,w,hs=>by
  have hle:=zZ h0 h;unfold dN;split
  ·rename_i e
   subst e
   exact od hs (by omega) (by omega)
  ·rename_i e
   have hlv:lvl=xR h0 h:=by omega
   exact w7 hs (by omega) (by omega) hv hh0 hh (by omega) (by rw[hlv];exact λ e2=>Nn (by omega) e2.symm) hx
 | n+1,lvl,hn,D,A,w,hs=>by
  have hle:=zZ h0 h;have hd:=Oo (x:=x) (h0:=h0) (h:=h) (p0:=(v.nd.key,v.nd.val)) (k:=k) (u:=u) (gen:=gen) (f:=L.length+3) n (lvl+1);have:=vj (l:=dN x h0 h (v.nd.key,v.nd.val) k u gen (L.length+3) n (lvl+1)) hs (by omega) (by omega) hv hh0 hh (by omega) (Tp (by omega)).symm (λ D w hs=>En hl hc hv hh0 hh hx n (lvl+1) (by omega) D [] w hs);exact this
def yA(v:dW)(h0 h:Nat)(k:ByteArray)(lvl:Nat)(gen:Int):Int:=if 11<lvl∨gen<1 then 2 else if v.nd.kind≠4∨64<k.size∨k=v.nd.key∨xR h0 h<lvl then 1 else 0
def Gl(x:Int)(v:dW)(h0 h:Nat)(k:ByteArray)(u gen:Int)(f lvl:Nat):List NI:=if yA v h0 h k lvl gen=0 then dN x h0 h (v.nd.key,v.nd.val) k u gen f (xR h0 h-lvl) lvl else []
theorem km{x:Int}{v:dW}{h0 h:Nat}{k:ByteArray}{u gen:Int}{f lvl:Nat}(he:yA v h0 h k lvl gen≠0):Gl x v h0 h k u gen f lvl=[]:=if_neg he
theorem Fv{x:Int}{v:dW}{h0 h:Nat}{k:ByteArray}{u gen:Int}{f lvl:Nat}(he:yA v h0 h k lvl gen=0):Gl x v h0 h k u gen f lvl=dN x h0 h (v.nd.key,v.nd.val) k u gen f (xR h0 h-lvl) lvl:=if_pos he
abbrev aA4(e:Int)(f n:Nat):Int:=if e=0 then((f-1+n:Nat):Int) else 0
variable{D:List Nat}{w:World}{lvl:Nat}
theorem Dr{w0:World}{H:List (Nat×Obj)}{A F:Fr}{O:List Ow}{e0:Int}(hw:SF w0 D H A F O w)(hH:[(ba,aO L cs g acc pn kn pc kc)].Sublist H)(hO:(mW L cs pn kn pc kc).Sublist O)(he:yA v h0 h k lvl gen=e0)(h0':e0≠0) :
  ∃d:DX,(Ending.returned (.tuple #[.int .i64 0,.int .i64 e0]):Ending)=.returned (.tuple #[.int .i64 (aA4 (yA v h0 h k lvl gen) (L.length+3) (Gl x v h0 h k u gen (L.length+3) lvl).length),.int .i64 (yA v h0 h k lvl gen)])/\(d.L.map dW.c=uT (Gl x v h0 h k u gen (L.length+3) lvl) cs.length/\Fits d.L) /\
   SF w0 D [(ba,aO (L++d.L) (lO (Gl x v h0 h k u gen (L.length+3) lvl) cs) g acc d.pn d.cn d.pc d.cc)] [] (dD d.L) (mW (L++d.L) (lO (Gl x v h0 h k u gen (L.length+3) lvl) cs) d.pn d.cn d.pc d.cc) w:=by
 have h1:yA v h0 h k lvl gen≠0:=by rw[he];exact h0'
 rw[km h1,he];refine⟨⟨[],pn,kn,pc,kc⟩,?_,⟨rfl,λ z hz=>(List.not_mem_nil hz).elim⟩,?_⟩;·simp only[aA4,if_neg h0']
 ·simp only[List.append_nil];exact hw.ret hH (bM.dB λ f hf=>(List.not_mem_nil hf).elim) hO
theorem qc(hs:SF w D [(ba,aO L cs g acc pn kn pc kc)] (dD L) [] (mW L cs pn kn pc kc) w)(hf:Fits L)(hl:L.length<=137438953200)(hc:cs.length<=137438953200)(hxm:x<=9223372036854775807)(hnv:aK (aV L) x=v)(hv:v.nd.kind=4->v.nd.hash=(h0:Int)/\1<=x)(hh0:h0<18446744073709551616)(hh:h<18446744073709551616)(hlv:(lvl:Int)<=9223372036854775807) :
    Calls prog 287 #[.iface 63 (.pointer (some ⟨ba,0,none⟩)),.int .i64 x,.int .u64 (h:Int),.string k,.int .u64 u,.int .i64 (lvl:Int),.int .i64 gen] w λ e w' =>
      ∃d:DX,e=.returned (.tuple #[.int .i64 (aA4 (yA v h0 h k lvl gen) (L.length+3) (Gl x v h0 h k u gen (L.length+3) lvl).length),.int .i64 (yA v h0 h k lvl gen)])/\(d.L.map dW.c=uT (Gl x v h0 h k u gen (L.length+3) lvl) cs.length/\Fits d.L) /\
      SF w D [(ba,aO (L++d.L) (lO (Gl x v h0 h k u gen (L.length+3) lvl) cs) g acc d.pn d.cn d.pc d.cc)] [] (dD d.L) (mW (L++d.L) (lO (Gl x v h0 h k u gen (L.length+3) lvl) cs) d.pn d.cn d.pc d.cc) w':=by
       refine enter func287 ntmps287 rfl rfl (vD hs) ?_;simp only[cN];refine Kq ?_;refine gQ ?_;refine Ph ?_;(refine Ka2 ?_);refine w9 ?_;refine aB ?_;(refine mN 24 (λ g24=>?_) (λ g24=>?_)<;>refine Ka3 ?_);all_goals (refine Cn ?_;refine aE ?_)
       all_goals
        refine aX (λ c27=>?_) (λ c27=>?_)
        ·all_goals try (exfalso;omega)
         all_goals refine Kq ?_
         all_goals refine bF results287 (λ w hw=>?_);exact Dr hw E0h E0h (by unfold yA;exact if_pos (by omega)) (by decide)
        ·try exact nv c27
         all_goals (refine lL ?_;refine J2 ?_;refine aA (qf rf rf (λ w=>Ul _ w)) rfl ?_;refine aE ?_)
         all_goals
          refine aX (λ c29=>?_) (λ c29=>?_);·exact nv c29
          ·try (exfalso;omega)
           refine yO ?_;refine aI (aBX (hm:=λ w=>P9 _ _ w) (hc:=λ w hs=>iz (L:=L) (cs:=cs) (v:=v) (r:=x) hs hf hxm (by omega) hnv)) (λ x32 h32=>?_);refine aJ (λ x16=>?_);refine J5 ?_;refine Ga ?_;refine iK ?_;refine aB ?_;(refine mN 36 (λ g36=>?_) (λ g36=>?_)<;>refine Ka3 ?_);all_goals ((first|refine aZ ?_|(refine aF ?_;refine pW ?_));refine w9 ?_;refine aB ?_)
           all_goals (first|refine aZ ?_|(refine mN 41 (λ g41=>?_) (λ g41=>?_)<;>refine Ka3 ?_))
           all_goals (refine J6 ?_;(first|refine aZ ?_|(refine aF ?_;refine xm ?_));refine Kb1 ?_)
           all_goals
            refine aX (λ c46=>?_) (λ c46=>?_)
            ·all_goals try (exfalso;omega)
             all_goals refine Kq ?_
             all_goals refine K3l ?_;intro w hw;unfold yA;rw[if_neg (by omega)];refine if_pos ?_;first|exact .inl (by omega)|exact .inr (.inl (by omega))|exact .inr (.inr (.inl (by simpa using c46)))
            ·try exact nv c46
             all_goals obtain⟨hvh,hx1⟩:=hv (by omega)
             all_goals (refine lL ?_;refine Ke5 ?_;refine aH (cV (hc:=λ w1 hw=>by rw[hvh];exact Tb hh0 hh w1)) (λ x50=>?_);refine aB ?_;refine fX ?_)
             all_goals
              refine aX (λ c52=>?_) (λ c52=>?_)
              ·try (exfalso;omega)
               refine Kq ?_;refine K3l ?_;intro w hw;unfold yA;rw[if_neg (by omega)];exact if_pos (.inr (.inr (.inr (by omega))))
              ·try (exfalso;omega)
               refine yO ?_;refine bO ?_;refine Df ?_;refine aB ?_;refine cI ?_;refine aB ?_;refine cI ?_;refine aJ (λ x17=>?_);refine J5 ?_;refine J2 ?_;refine aI (cM (A0:=[]) (hc:=λ w hs=>En (L:=L) (cs:=cs) (x:=x) (v:=⟨atN v x32.1 x32.2,v.xs,v.ys⟩) (k:=k) (u:=u) (gen:=gen) (by omega) (by omega) hvh hh0 hh hx1 (xR h0 h-lvl) lvl (by omega) _ [] w hs)) (λ x63 h63=>?_);refine J8 ?_;refine bF results287 (λ w hw=>?_);have he:yA v h0 h k lvl gen=0:=by
                unfold yA;rw[if_neg (by omega)];refine if_neg ?_;rintro (h1|h1|h1|h1);·omega
                ·omega
                ·exact absurd h1 c46
                ·omega
               refine⟨x63,?_,?_,?_⟩;·rw[he,Fv he];rfl
               ·rw[Fv he];exact h63
               ·rw[Fv he];exact hw.ret (List.Sublist.cons _ (List.Sublist.cons _ (List.Sublist.refl _))) (bM.dB λ f hf=>by exact List.mem_append_left _ hf) (List.Sublist.cons _ (List.Sublist.cons _ (List.Sublist.refl _)))
end
end Go.Proofs.YtdeecdfockjoiaaGreatDoor
namespace Go.Ct
section
def NI.c0(a:NI):Nv:=a.n.c a.xs a.ys
def NI.no:NI:=⟨Nd.zero,[],[],0⟩
end
end Go.Ct
namespace Go.Proofs.YtdeecdfockjoiaaGreatDoor
open Go Go.RowKit Go.Ct
section
structure jQ where
 t:oB
 key:ByteArray
 h:Nat
 val:Int
 pol:Int
 exp:Int
def fQ(c:jQ)(found:Bool)(v:Int):Bool:=if c.pol=1 then !found else if c.pol=2 then found else if c.pol=3 then found&&v==c.exp else true
def Bi:List NI->Int->(Int->Tr)->Tr
 | [],r,K=>K r
 | a::l,_,K=>.alloc a.c0 a.init λ r=>Bi l r K
def dk(x:Int)(h0 h:Nat)(p:Pr)(k:ByteArray)(u gen:Int)(fi lvl:Nat):List NI:=dN x h0 h p k u gen fi (xR h0 h-lvl) lvl
def lS(c:jQ)(nb:Nv)(level:Nat)(gen b:Int):Prop:=nb.kind=4/\c.key.size<=64/\c.key≠nb.key/\level<=xR nb.hash.toNat c.h/\level<=11/\1<=gen/\1<=b
instance (c:jQ) (nb:Nv) (level:Nat) (gen b:Int):Decidable (lS c nb level gen b):=inferInstanceAs (Decidable (_/\_))
def yH(c:jQ)(b:Int)(level:Nat)(gen:Int)(K:Int->Tr):Tr:=.node b λ nb=>if lS c nb level gen b then
 .alloc ((dk b nb.hash.toNat c.h (nb.key,nb.val) c.key c.val gen 0 level).headD NI.no).c0 ((dk b nb.hash.toNat c.h (nb.key,nb.val) c.key c.val gen 0 level).headD NI.no).init λ f =>
 Bi (dk b nb.hash.toNat c.h (nb.key,nb.val) c.key c.val gen f.toNat level).tail f K
 else .stuck
abbrev uN(T:Tr)(found:Bool)(v:Int):Bool->Tr:=λ ok=>if ok=true then .done (gP found v) else T
abbrev eP(h level:Nat):Int:=oU h ((level:Nat):Int)
def Xg(c:jQ)(T:Tr)(i m:Int)(n:Nv):Tr:=if n.ys.length<=1000 then
 if fQ c (cS n.ys c.key).isSome ((cS n.ys c.key).getD 0)=true then
  (if(iY n.nd n.xs n.ys c.key c.val).isSome=true then .alloc (grV n c.key c.val) m λ q=>iN c.t i m q (uN T (cS n.ys c.key).isSome ((cS n.ys c.key).getD 0)) else .stuck)
 else .done (eG (cS n.ys c.key).isSome ((cS n.ys c.key).getD 0))
 else .stuck
def wz(c:jQ)(T:Tr)(i m:Int)(level:Nat)(n:Nv):Tr :=
 if fQ c false 0=true then .alloc (gA c.h c.key c.val) 0 λ s =>
  if(O0 n.nd n.xs n.ys n.bm.toNat (eP c.h level) s).isSome=true then .alloc (az n (eP c.h level) s) m λ q=>iN c.t i m q (uN T false 0) else .stuck
 else .done (eG false 0)
def Tk(c:jQ)(T:Tr)(i m:Int)(level:Nat)(n:Nv)(u:Int):Tr :=
 if fQ c true u=true then .alloc (gA c.h c.key c.val) 0 λ s =>
  if(Cy n.nd n.xs n.ys n.bm.toNat (eP c.h level) s).isSome=true then .alloc (Cj n (eP c.h level) s) m λ q=>iN c.t i m q (uN T true u) else .stuck
 else .done (eG true u)
def Vc(c:jQ)(T:Tr)(gen i m:Int)(level:Nat)(n:Nv)(b:Int):Tr :=
 if fQ c false 0=true then yH c b (level+1) gen λ d=>.alloc (eY gen) d λ j =>
  if(Cy n.nd n.xs n.ys n.bm.toNat (eP c.h level) j).isSome=true then .alloc (Cj n (eP c.h level) j) m λ q=>iN c.t i m q (uN T false 0) else .stuck
 else .done (eG false 0)
def qM(c:jQ)(T:Tr)(gen:Int)(down:Int->Nat->Tr)(i:Int)(level:Nat)(m:Int):Tr:=.node m λ nm =>
 if nm.kind=6 then Xg c T i m nm
 else if nm.kind=3 then
  match iU nm (eP c.h level) with
  | none=>wz c T i m level nm
  | some b=>.node b λ nb=>if nb.kind=4 then(if nb.key=c.key then Tk c T i m level nm nb.val else Vc c T gen i m level nm b)
   else if nb.kind=2/\nb.gen=gen then down b (level+1) else .stuck
 else .stuck
def uS(c:jQ)(T:Tr)(gen:Int):Nat->Int->Nat->Tr
 | 0,_,_=>.stuck
 | n+1,i,level=>nG c.t i λ m=>qM c T gen (uS c T gen n) i level m
def wE(c:jQ):Nat->Tr
 | 0=>.stuck
 | n+1=>B7 c.t λ r=>.node r λ nr=>uS c (wE c n) nr.gen 12 r 0
structure qB where
 t:oB
 key:ByteArray
 h:Nat
def tL(t:oB)(parent child:Int)(h:Nat)(level:Int)(K:Bool->Tr):Tr:=nG t parent λ m=>.node m λ nm =>
 if iU nm (oU h level)=some child then nG t child λ mc=>.node mc λ nmc =>
  if nmc.kind=5 then .alloc (F6 nmc) 0 λ s=>.node m λ nm2 =>
   if(Cy nm2.nd nm2.xs nm2.ys nm2.bm.toNat (oU h level) s).isSome=true then .alloc (Pd (Cj nm2 (oU h level) s) level (F6 nmc)) m λ r=>iN t parent m r K else .stuck
  else .stuck
 else K false
def zl(t:oB)(path:List Int)(h:Nat)(K:Tr):Nat->Tr
 | 0=>K
 | l+1=>nG t (path.getD (l+1) 0) λ m=>.node m λ nm=>if nm.kind=5 then tL t (path.getD l 0) (path.getD (l+1) 0) h ((l:Nat):Int) λ _=>zl t path h K l else K
abbrev B3(c:qB)(T:Tr)(path:List Int)(v:Int):Bool->Tr:=λ ok=>if ok=true then zl c.t path c.h (.done (gP true v)) (path.length-1) else T
def Li(c:qB)(T:Tr)(path:List Int)(m:Int)(n:Nv):Tr:=if n.ys.length<=1000 then
 if(cS n.ys c.key).isSome=true then
  (if(mE n.nd n.xs n.ys c.key).isSome=true then .alloc (bc n c.key) m λ r=>iN c.t (path.getD (path.length-1) 0) m r (B3 c T path ((cS n.ys c.key).getD 0)) else .stuck)
 else .done (eG false 0)
 else .stuck
def Rw(c:qB)(T:Tr)(path:List Int)(m:Int)(n:Nv)(u:Int):Tr :=
 if(R4 n.nd n.xs n.ys n.bm.toNat (eP c.h (path.length-1))).isSome=true then
  .node ((uX (uL n (eP c.h (path.length-1)))).getD 0) λ so=>.alloc (Pd (uL n (eP c.h (path.length-1))) (((path.length-1:Nat):Nat):Int) so) m λ r=>iN c.t (path.getD (path.length-1) 0) m r (B3 c T path u)
 else .stuck
def sK(c:qB)(T:Tr)(gen:Int)(down:List Int->Tr)(path:List Int)(m:Int):Tr:=.node m λ nm =>
 if nm.kind=5 then(if 2<=path.length then tL c.t (path.getD (path.length-2) 0) (path.getD (path.length-1) 0) c.h ((path.length-2:Nat):Int) λ _=>T else .stuck)
 else if nm.kind=6 then Li c T path m nm
 else if nm.kind=3 then
  match iU nm (eP c.h (path.length-1)) with
  | none=>.done (eG false 0)
  | some b=>.node b λ nb=>if nb.kind=4 then(if nb.key=c.key then Rw c T path m nm nb.val else .done (eG false 0))
   else if nb.kind=2/\nb.gen=gen then down (path++[b]) else .stuck
 else .stuck
def Ab(c:qB)(T:Tr)(gen:Int):Nat->List Int->Tr
 | 0,_=>.stuck
 | n+1,path=>nG c.t (path.getD (path.length-1) 0) λ m=>sK c T gen (Ab c T gen n) path m
def sS(c:qB):Nat->Tr
 | 0=>.stuck
 | n+1=>B7 c.t λ r=>.node r λ nr=>Ab c (sS c n) nr.gen 12 [r]
end
end Go.Proofs.YtdeecdfockjoiaaGreatDoor
namespace Go.Ct
open Go Go.RowKit
section
def byt(s:ByteArray)(i:Nat):Nat:=(s.data.getD i 0).toNat
theorem dp(s:ByteArray)(i:Nat):byt s i<256:=(s.data.getD i 0).toNat_lt
def hsN(s:ByteArray):Nat->Nat
 | 0=>14695981039346656037
 | i+1=>((hsN s i ^^^ byt s i)*1099511628211)%18446744073709551616
theorem To(s:ByteArray):∀i,hsN s i<18446744073709551616
 | 0=>by show 14695981039346656037<18446744073709551616;decide
 | _+1=>Nat.mod_lt _ (by decide)
def mV(s:ByteArray)(m:Nat):Nat:=hsN s s.size &&& m
theorem G9(s:ByteArray)(m:Nat):mV s m<18446744073709551616:=Nat.lt_of_le_of_lt Nat.and_le_left (To s _)
section
variable{P:Program}{S:List (Nat×Value)}{G:World->Prop}{d:Nat}{ty t t':TypeId}{pos:String}{af:Array Edge}{gd:Option (Nat×Bool)}{x y:Operand}{a b i:Nat}{s:ByteArray}
theorem aAl(hx:ev S x=.string s)(hy:ev S y=.int .i64 (i:Int))(ht:P.underlying t=some .string)(h:i<s.size):aN P S G ⟨some d,.index t x y,ty,pos,af,gd⟩ (.int .u8 (byt s i:Int)):=⟨λ w _=>by
 have e:(s[((i:Nat):Int).toNat]'(by simpa using h)).toNat=byt s i:=by unfold byt;rw[Array.getD_eq_getD_getElem?,Array.getElem?_eq_getElem (by simpa using h)];rfl
 simp only[execOp,hx,hy,Sem.run_bind];rw[run_index_string w t s .i64 i ht,dif_pos ⟨fN _,by omega⟩,e];rfl⟩
theorem aA5(hx:ev S x=.int .u64 (a:Int))(hy:ev S y=.int .u64 (b:Int))(ha:a<18446744073709551616)(hb:b<18446744073709551616):aN P S G ⟨some d,.binOp .xor t x y t',ty,pos,af,gd⟩ (.int .u64 ((a ^^^ b:Nat):Int)):=by have:=aCg (P:=P) (G:=G) (d:=d) (ty:=ty) (pos:=pos) (af:=af) (gd:=gd) (t:=t) (t':=t') hx hy;rwa [n0 ha hb] at this
theorem aAj(hx:ev S x=.int .u64 (a:Int))(hy:ev S y=.int .u64 (b:Int)):aN P S G ⟨some d,.binOp .mul t x y t',ty,pos,af,gd⟩ (.int .u64 ((a*b%18446744073709551616:Nat):Int)):=by
 have:=o6 (P:=P) (G:=G) (d:=d) (ty:=ty) (pos:=pos) (af:=af) (gd:=gd) (t:=t) (t':=t') hx hy;have e:IntKind.u64.wrap ((a:Int)*(b:Int))=((a*b%18446744073709551616:Nat):Int):=by rw[<- Int.natCast_mul,wrap_u64];generalize a*b=q;omega
 rwa [e] at this
end
end
end Go.Ct
namespace Go.Proofs.YtdeecdfockjoiaaGreatDoor
open Go Go.RowKit Go.Ct
section
end
section
abbrev t3:oB:=⟨3,false⟩
structure jX where
 kind:Int
 handle:Int
 key:ByteArray
 val:Int
 exp:Int
structure oR where
 thr:Nat
 idx:Nat
 ret:Bool
 r:Rs
structure X5 where
 ops:List jX
 idx:Nat
 pr:Option Tr
structure AM where
 s:Mm
 th:List X5
 hist:List oR
def jW:Nat:=1000
def C4(k:Int):Int:=if k=2 then 1 else if k=3 then 2 else if k=4 then 3 else 0
def pS(m:Nat)(o:jX):Tr :=
 if o.kind=7 then B7 t3 λ i=>Ej t3 (mV o.key m) o.key .done jW i 0
 else if o.kind=5 then sS ⟨t3,o.key,mV o.key m⟩ jW
 else wE ⟨t3,o.key,mV o.key m,o.val,C4 o.kind,o.exp⟩ jW
def He(r:Rs):Rs:={r with ref:=0,root:=0,ro:=false}
def uD(Z:AM)(k:Nat)(t:X5)(p:Tr×Mm)(l:List oR):AM :=
 match p.1 with
 | .done r=>⟨p.2,Z.th.set k ⟨t.ops,t.idx+1,none⟩,l++[⟨k,t.idx,true,He r⟩]⟩
 | T=>⟨p.2,Z.th.set k ⟨t.ops,t.idx,some T⟩,l⟩
def fD(m:Nat)(k:Nat)(Z:AM):AM :=
 match Z.th[k]? with
 | none=>Z
 | some t =>
  match t.ops[t.idx]? with
  | none=>Z
  | some o =>
   match t.pr with
   | none=>uD Z k t (jT (pS m o) Z.s) (Z.hist++[⟨k,t.idx,false,Rs.zero⟩])
   | some T=>uD Z k t (mC (T,Z.s)) Z.hist
def Uw(m:Nat)(k:Nat)(Z:AM):Prop :=∀t o,Z.th[k]?=some t->t.ops[t.idx]?=some o->(match t.pr with|none=>(jT (pS m o) Z.s).1|some T=>(mC (T,Z.s)).1)≠.stuck
def mY(l:List oR)(k i:Nat):Option Rs:=(l.find? λ e=>e.thr==k&&e.idx==i&&e.ret).map oR.r
theorem Mj(l:List oR)(e:oR)(k i:Nat):mY (l++[e]) k i=(mY l k i).or (if(e.thr==k&&e.idx==i&&e.ret)=true then some e.r else none):=by
 unfold mY;rw[List.find?_append];cases hf:l.find? λ e=>e.thr==k&&e.idx==i&&e.ret with
 | some a=>rfl
 | none=>simp only[List.find?_cons,List.find?_nil,Option.none_or,Option.map_none];cases hb:(e.thr==k&&e.idx==i&&e.ret)<;>rfl
theorem Bd(l:List oR)(k' i':Nat)(r:Rs)(k i:Nat):mY (l++[⟨k',i',false,r⟩]) k i=mY l k i:=by rw[Mj,if_neg (by simp)];simp
theorem M5{e:oR}(l:List oR)(k i:Nat)(h:e.thr≠k∨e.idx≠i):mY (l++[e]) k i=mY l k i:=by rw[Mj,if_neg (by simp;intro h1 h2;rcases h with h|h<;>contradiction)];simp
theorem wm{k i:Nat}{r:Rs}(l:List oR)(h0:mY l k i=none):mY (l++[⟨k,i,true,r⟩]) k i=some r:=by rw[Mj,h0,if_pos (by simp)];rfl
section
variable{k:Nat}
theorem zQ{Z:AM}{t:X5}{p:Tr×Mm}{l:List oR}{r:Rs}(e:p.1=.done r):uD Z k t p l=⟨p.2,Z.th.set k ⟨t.ops,t.idx+1,none⟩,l++[⟨k,t.idx,true,He r⟩]⟩:=by unfold uD;rw[e]
theorem nL{Z:AM}{t:X5}{p:Tr×Mm}{l:List oR}(e:p.1.live=true):uD Z k t p l=⟨p.2,Z.th.set k ⟨t.ops,t.idx,some p.1⟩,l⟩:=by
 unfold uD;cases hp:p.1 with
 | done r=>rw[hp] at e;cases e
 | load c k=>rfl
 | sJ c o n k=>rfl
 | alloc n i k=>rfl
 | cell i k=>rfl
 | gen k=>rfl
 | node r k=>rfl
 | stuck=>rfl
end
end
end Go.Proofs.YtdeecdfockjoiaaGreatDoor
namespace Go.Ct
section
section
variable{gen:Int}{n c:Nat}
theorem Ht:S4 0 n:=⟨Int.le_refl _,fN n⟩
theorem wc{h:Int}{ys:List Pr}(hg:0<=gen)(h2:2<=ys.length)(ha:Asc ys)(hs:Ql ys):aBh gen n (fY (({Nd.zero with kind:=6,hash:=h}:Nd).c [] ys) c).dv :=⟨⟨by simp[Kf,Nd.own,Nd.oQ,Nd.mB,Nd.zero,fY,Nd.c,Nv.dv,Nv.nd],by simp[fY,Nd.c,Nv.dv,Nv.nd,Nd.zero],by simp[fY,Nd.c,Nv.dv,Nv.nd,Nd.zero];omega,by simp[fY,Nd.c,Nv.dv,Nv.nd,Nd.zero],.inr (.inr (.inr (.inr (.inl ⟨rfl,h2,ha,hs⟩))))⟩,hg,λ i hi=>by simp[fY,Nd.c,Nv.dv] at hi,Ht,Ht,Ht⟩
end
end
end Go.Ct

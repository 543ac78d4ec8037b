/- The program's numbers of a bitmap's bits: TrailingZeros64 by its table, Indices. -/
import Derived.Test.YtadnboagdhcedaaGreatDoorGGa
import Derived.Test.YtadnboagdhcedaaGreatDoorGBits
import Derived.Test.YtadnboagdhcedaaGreatDoorGFun
import Derived.Test.YtadnboagdhcedaaGreatDoorCards
import Derived.Test.YtadnboagdhcedaaGreatDoorTie
import Derived.Deep.DeepHandedRow
import Derived.Lib.LaidTab

set_option linter.unusedSimpArgs false
set_option linter.unusedVariables false
namespace Go.Ct
section
def jB:List Nat:=[0,1,56,2,57,49,28,3,61,58,42,50,38,29,17,4,62,47,59,36,45,43,51,22,53,39,33,30,24,18,12,5,63,55,48,27,60,41,37,16,46,35,44,21,52,32,23,11,54,26,40,15,34,20,31,10,25,14,19,9,13,8,7,6]
def dbI(t:Nat):Nat:=2^t*285870213051353865%18446744073709551616/288230376151711744
theorem fj(t:Nat):dbI t<64:=by unfold dbI;omega
theorem a7:∀t:Fin 64,jB.getD (dbI t.val) 0=t.val:=by decide +kernel
end
end Go.Ct
namespace Go.Proofs.YtadnboagdhcedaaGreatDoor
section
open Go Go.RowKit Go.Ct
theorem pN(b:Nat):∀k,(fZ b k).length=gB b k
 | 0=>rfl
 | k+1=>by
  simp only[fZ,List.length_append,pN b k,gB]
  split<;>simp_all
theorem Xl(n:Nat):IntKind.u64.wrap ((n:Nat):Int)=((n%18446744073709551616:Nat):Int):=by
 simp[IntKind.wrap,IntKind.signed,IntKind.bits]
theorem aBT{n t:Nat}(h:Wu n t)(hn:n<18446744073709551616):pI .u64 (IntKind.u64.wrap (oT .u64 (n:Int) (IntKind.u64.wrap (0-(n:Int)))*285870213051353865)) 58=((dbI t:Nat):Int):=by
 have h0:0<n:=by
  rcases Nat.eq_zero_or_pos n with e|e
  ·have:=h.at_;rw[e,Nat.zero_testBit] at this;cases this
  ·exact e
 have e1:IntKind.u64.wrap (0-(n:Int))=((18446744073709551616-n:Nat):Int):=by
  simp[IntKind.wrap,IntKind.signed,IntKind.bits]
  omega
 rw[e1,mL hn (by omega),h.neg (n:=64) hn];have e2:(((2^t:Nat):Int)*285870213051353865)=((2^t*285870213051353865:Nat):Int):=by rw[Int.natCast_mul];rfl
 rw[e2,Xl,show(58:Int)=((58:Nat):Int) from rfl,mM (by decide),Nat.shiftRight_eq_div_pow]
 rfl
theorem aAC{n t:Nat}(h:Wu n t)(hn:n<18446744073709551616):t<64:=by
 rcases Nat.lt_or_ge t 64 with h1|h1
 ·exact h1
 ·have:=Nat.testBit_lt_two_pow (i:=t) (x:=n) (Nat.lt_of_lt_of_le hn (Nat.pow_le_pow_right (n:=2) (by decide) h1));rw[h.at_] at this;cases this
theorem Ys{t:Nat}(h:t<64):IntKind.i64.wrap ((t:Nat):Int)=(t:Int):=by
 simp[IntKind.wrap,IntKind.signed,IntKind.bits]
 omega
theorem aCO{n t:Nat}(h:Wu n t)(hn:n<18446744073709551616){w:World}(hT:Go.Ct.Cl w (some ⟨0,0,none⟩) (oH jB)):Calls Tryz.prog 74 #[.int .u64 (n:Int)] w λ e w'=>e=.returned (.int .i64 ((t:Nat):Int))/\St w [] [] w':=by
 refine enter Tryz.func74 Tryz.ntmps74 rfl rfl (SF.s1 hT) ?_;simp only[cP]
 refine Kb4 ?_;refine rW ?_;refine bA (λ c4=>?_) (λ c4=>?_)
 ·exfalso;have h4:=h.at_;have:n=0:=by omega
  rw[this,Nat.zero_testBit] at h4;cases h4
 ·refine Cg ?_;refine aBM ?_;refine A6 ?_;refine aBn ?_;refine D4 ?_;refine aE (V5 (e:=5) (n:=64) (k:=dbI t) rfl (by rw[<- aBT h hn];exact rfl) (by kernel_rfl) (by kernel_rfl) (fj t)) rfl ?_;refine aE (py (q:=dbI t) (lst:=jB) rfl (by kernel_rfl) (.bO (.head)) (fj t)) rfl ?_;refine jO ?_;refine J1 ?_;refine aR Tryz.results74 (λ w hw=>?_);have ht:=aAC h hn;have e:=a7 ⟨t,ht⟩;exact⟨by rw[e];show Ending.returned (rF [Value.int IntKind.i64 (IntKind.i64.wrap ((t:Nat):Int))])=_;rw[Ys ht];rfl,hw.done⟩
theorem Jh:∀n,fZ 0 n=[]
 | 0=>rfl
 | n+1=>by simp only[fZ];rw[Jh n,Nat.zero_testBit];rfl
theorem pj{b:Nat}(h0:0<b)(hb:b<18446744073709551616):oT .u64 ((b:Nat):Int) (IntKind.u64.wrap (((b:Nat):Int)-1))=((b &&& (b-1):Nat):Int):=by
 rw[show((b:Nat):Int)-1=((b-1:Nat):Int) by omega,lZ (by omega),mL hb (by omega)]
theorem Dy{n:Nat}(hn:n<18446744073709551616){w:World}(hT:Go.Ct.Cl w (some ⟨0,0,none⟩) (oH jB)):Calls Tryz.prog 58 #[.int .u64 (n:Int)] w λ e w'=>∃x:Option Addr×Nat,e=.returned (.slice x.1 (fZ n 64).length x.2)/\True/\SF w [] [] [] [(x.1,aH (fZ n 64))] [] w':=by
  have hil:=pN n 64;have hcl:=oY n 64;refine enter Tryz.func58 Tryz.ntmps58 rfl rfl (SF.s1 hT) ?_;simp only[cP]
  refine cR ?_;refine J2 ?_;refine aS (cV (hc:=λ w1 hw=>bu hn w1)) (λ x5=>?_);refine aS (V2 (m:=0) (k:=gB n 64) rf rf Yd om om) (λ x6=>?_);refine gX ?_;refine cE ?_;refine kK [0,3,7,8,9,10,11,12,13,14,15,16,17] (λ y:List Int×Nat×Option Addr×Nat=>[(3,.slice y.2.2.1 y.1.length y.2.2.2),(0,.int .u64 ((y.2.1:Nat):Int))]) (λ y=>y.2.1<18446744073709551616/\y.1++fZ y.2.1 64=fZ n 64) (λ _=>_) (λ _=>_) (λ y=>[⟨y.2.2.1,aH y.1,y.2.2.2,3,1⟩]) (λ y=>y.2.1) (([],n,some ⟨x6,0,none⟩,gB n 64)) (⟨hn,List.nil_append _⟩) (λ y f hx=>?_);refine K0a ?_
  have hll:y.1.length<=64:=by
   have:=congrArg List.length hx.2;rw[List.length_append] at this;omega
  refine jL ?_;refine Ka7 ?_;refine bA (λ c8=>?_) (λ c8=>?_)
  · have hb0:0<y.2.1:=by omega
    obtain⟨t,ht,hlow⟩:=aAo (n:=64) hb0 hx.1
    have hle:y.2.1 &&& (y.2.1-1)<y.2.1:=Nat.lt_of_le_of_lt Nat.and_le_right (by omega);have hidx:=Qj hlow hlow.clear 64 ht;have hand:=pj hb0 hx.1;refine mZ ?_;refine Il ?_;refine aS (cV (v:=.int .i64 ((t:Nat):Int)) (hc:=λ w1 hw=>aCO hlow hx.1 (hw.cl (.bO .head)))) (λ x15=>?_);refine fD (λ x16=>?_);(refine fB (λ x17=>?_);try (refine fL (λ h17=>?_)));refine J1 ?_;refine eX ?_;refine Il ?_;refine aA5 ?_;refine A6 ?_;refine J1 ?_;refine kD ((y.1++[((t:Nat):Int)],y.2.1 &&& (y.2.1-1),x17)) ?_ ?_ (by repeat (first|(with_reducible exact xP.refl)|refine xP.cons (by exact rfl) ?_)) ?_ (λ w hw=>by exact hw.back)
    · omega
    · repeat' (first|exact bC _|refine aY ?_ ?_)
      all_goals (first|(rw[<- hand];exact rfl)|(conv=>{lhs;whnf};simp;done))
    · exact⟨Nat.lt_trans hle hx.1,by rw[List.append_assoc,List.singleton_append,<- hidx];exact hx.2⟩
  · refine bM rfl ?_;refine Ka5 ?_;refine aR Tryz.results58 (λ w hw=>?_);have e0:y.2.1=0:=by omega
    have e1:y.1=fZ n 64:=by rw[<- hx.2,e0,Jh,List.append_nil]
    rw[e1] at hw ⊢
    generalize fZ n 64=B at hw ⊢
    exact⟨y.2.2,rfl,trivial,SF.frz hw.aQ⟩
end

/- From the walk of a law to its row and its card, where the row lists the table of math/bits. -/
end Go.Proofs.YtadnboagdhcedaaGreatDoor
namespace Go.Ct
section
open Go Go.RowKit Go.ChangeShapes Go.WideShapes Go.ChangeAt
theorem Ip{P:Program}{f:FuncId}{fn:Func}{s:ChangeSpec}{H:Type}{enc:TypeId×Value->H}{tb:TypeId}
  (hl:laidOutB P=true) (hrd:(fn.params.toList.all λ t=>P.readableRec t&&Nat.blt t P.types.size)=true) (hrt:fn.resultTypes = #[tb]) (hb:P.underlying tb=some .bool) (hv:s.vars=[])
  (hs:∀ds:List (DataW H),ds.length=fn.params.size->(s.fn H ds).results=[.lit (.bool true)]/\(s.fn H ds).args=ds/\(s.fn H ds).vars=[])
  {W:World} {base:Nat} {args:Array Value} {ds gs:List (DataW H)} {before:List MemPlace}
  (hval:∀(j:Nat) t v,fn.params[j]?=some t->args[j]?=some v->Value.okWide P W .any base t v)
  (hW:DataW.Whole enc P fn.params.toList s.vars false W args.toList ds gs before)
  (hwt:(DataW.weightsEach P (fn.params.toList++s.plain.varTypes P) (ds++gs)).all (· <= reachBytes)=true)
  (walk:∀args:List Value,ox enc P fn W args ds->Calls P f ⟨args⟩ W λ e W'=>e=.returned (.bool true)/\St W [] [] W') :
  Calls P f args W λ e W'=>∃v,e=.returned v/\s.post enc P fn false true false false W args v W':=by
 have hlt:=λ x hx=>hW.lt x hx;have hW':=hW;obtain⟨p,q,hA,hV,rfl,_,_⟩:=hW
 have hlen:ds.length=fn.params.size:=by
  have:∀{ts:List TypeId} {vs:List Value} {ds:List (DataW H)} {ps:List MemPlace},DataW.TrodAll enc P W 0 (λ _=>true) true ts vs ds ps->ds.length=ts.length:=by
   intro ts
   induction ts with
   | nil=>intro vs ds ps h;obtain⟨_,rfl,_⟩:=trodAll_nil h;rfl
   | cons t ts ih=>intro vs ds ps h;obtain⟨v,vs,d,ds,a,b,rfl,rfl,rfl,_,h2⟩:=trodAll_cons h;simp[ih h2]
  simpa using this hA
 obtain⟨args⟩:=args
 have hwt':∀k∈DataW.weightsEach P fn.params.toList ds,k<=reachBytes:=λ k hk=>by
  have h1:=List.all_eq_true.1 hwt k (by
   have:∀{ts ts':List TypeId} {l l':List (DataW H)},k∈DataW.weightsEach P ts l->k∈DataW.weightsEach P (ts++ts') (l++l'):=by
    intro ts
    induction ts with
    | nil=>intro ts' l l' h;simp[DataW.weightsEach] at h
    | cons t ts ih =>
     intro ts' l l' h
     cases l with
     | nil=>simp[DataW.weightsEach] at h
     | cons x l =>
      simp only[DataW.weightsEach,List.cons_append,List.mem_append] at h ⊢
      exact h.imp id ih
   exact this hk)
  simpa using h1
 refine(walk args ⟨⟨base,λ j t v h1 h2=>hval j t v (by simpa using h1) (by simpa using h2)⟩,⟨p,hA,λ x hx=>hlt x (List.mem_append_left _ hx)⟩,hwt'⟩).mono ?_
 rintro e W' ⟨rfl,hst⟩
 exact⟨_,rfl,li hl hrd hrt hb hv (hs ds hlen) hW' hst⟩
end
end Go.Ct
namespace Go.Proofs.YtadnboagdhcedaaGreatDoor
section
open Go Go.RowKit Go.Ct Go.ChangeShapes Go.WideShapes Go.ChangeAt
theorem aCf:Tryz.prog.globalNamed "math/bits.deBruijn64tab" = some 0:=by kernel_rfl
theorem lq:(Tryz.prog.globals[0]?).map (·.type)=some 154:=by kernel_rfl
theorem aC2:Tryz.prog.underlying 154=some (.array 64 5):=by kernel_rfl
theorem aBQ:Tryz.prog.underlying 5=some (.int .u8):=by kernel_rfl
theorem aCY:Tryz.prog.cellsOf 154=64:=by kernel_rfl
theorem aBO:Tryz.prog.cellsOf 5=1:=by kernel_rfl
abbrev zj:List (String×DataW Unit):=[("math/bits.deBruijn64tab",Rows.laid_math_bits_deBruijn64tab)]
theorem aAw{W:World}(h:laidMetH Tryz.prog zj W):Lib.TabIs Tryz.prog W "math/bits.deBruijn64tab" .u8 (jB.map λ k:Nat=>(k:Int)) :=
 Lib.tabIs_of_head (rest:=[]) aCf lq aC2 aBQ aBO aCY h
theorem aAL{W:World}(h:laidMetH Tryz.prog zj W):Go.Ct.Cl W (some ⟨0,0,none⟩) (oH jB):=⟨λ j u hj=>by
 have hl:j<jB.length:=by
  have:=(List.getElem?_eq_some_iff.1 hj).1;rwa [oH,List.length_map] at this
 have h1:=(aAw h).cell aCf j (by rwa [List.length_map]);rw[Uo hl] at hj;cases hj
 refine⟨rfl,?_⟩
 show W.cell? ⟨0,0+j,none⟩=_
 rw[Nat.zero_add,h1]
 simp only[List.getD,List.getElem?_map]
 rw[List.getElem?_eq_getElem hl]
 rfl⟩
noncomputable def Kl (os:Os):World :=
 {World.holding Tryz.prog os ⟨#[],#[],[]⟩ with heap:=(World.holding Tryz.prog os ⟨#[],#[],[]⟩).heap.modify 0 λ
   | .cells _ t frozen=>.cells (oH jB).toArray t frozen
   | o=>o}
theorem dg(os:Os)(args:Array Value):laidMet Tryz.prog zj ((Kl os).forCall (λ _ _=>0) ⟨#[],args,[]⟩).memory :=
 laidMet_of_run' 8 (by kernel_rfl) (by kernel_rfl)
end

/- An execution of the reference: its state, and how it stands to a tree. -/
end Go.Proofs.YtadnboagdhcedaaGreatDoor
namespace Go.Ct
section
open Go Go.RowKit
structure XS where
 L:List aI
 cs:List Int
 gen:Int
 acc:Int
 pn:Option Addr
 cn:Nat
 pc:Option Addr
 cc:Nat
 got:List Int
 made:List Int
 cel:List Int
 gns:List Int
 pg:Option Addr
 kg:Nat
 pm:Option Addr
 km:Nat
 pl:Option Addr
 kl:Nat
 pe:Option Addr
 ke:Nat
 a:Nat
 m:Nat
 c:Nat
 g:Nat
 fr:Nat
 st:Bool
 nx:Ac
def XS.nodes(x:XS):List Nv:=x.L.map aI.c
def XS.mm(x:XS):Mm:=⟨x.L.map aI.c,x.cs,x.gen⟩
structure Gx where
 T:Tr
 R:Tr
 s:Mm
 fr:Nat
 N:Nat
structure Gx.Ok(g:Gx):Prop where
 xB:cN g.T g.N 64
 tameR:∃n,g.fr<=n/\cN g.R n 64
 hN:g.N<=1073741824
 hf:g.fr<=1
 hs:g.s.nodes.length<=137438953472/\g.s.cs.length<=137438953472/\g.s.gen<=137438953472
structure GdR(g:Gx)(x:XS)(t R:Tr):Prop where
 pre:Wk x.nodes g.T (x.got.take x.a) (x.made.take x.m) (x.cel.take x.c) (x.gns.take x.g) t
 suf:Wk x.nodes t (x.got.drop x.a) (x.made.drop x.m) (x.cel.drop x.c) (x.gns.drop x.g) R
 rc:Rc (g.fr-x.fr) g.R g.s R x.mm
 hf:x.fr<=g.fr
 la:x.a<=x.got.length
 lm:x.m<=x.made.length
 lc:x.c<=x.cel.length
 lg:x.g<=x.gns.length
 hN:x.got.length+x.fr=g.N
def Gd(g:Gx)(x:XS)(t:Tr):Prop:=∃R,GdR g x t R
def Tr.acc:Tr->Option Ac
 | .load c _=>some ⟨1,c,0,0⟩
 | .rP c o n _=>some ⟨2,c,o,n⟩
 | _=>none
structure yz(g:Gx)(x:XS)(R:Tr):Prop where
 ac:R.acc=some x.nx
 wk:Wk x.nodes g.T x.got x.made x.cel x.gns R
 rc:Rc g.fr g.R g.s R x.mm
 hN:x.got.length=g.N
def aBg(g:Gx)(x:XS):Prop:=∃R,yz g x R
def gS(g:Gx)(x:XS)(t:Tr):Prop:=(x.st=false/\Gd g x t)∨(x.st=true/\aBg g x)
theorem gS.cB{g:Gx}{x:XS}{t t':Tr}(h:gS g x t)(hs:x.st=true):gS g x t':=by
 rcases h with h|h
 ·rw[hs] at h;exact nomatch h.1
 ·exact .inr h
theorem gS.run{g:Gx}{x:XS}{t:Tr}(h:gS g x t)(hs:x.st=false):Gd g x t:=by
 rcases h with h|h
 ·exact h.2
 ·rw[hs] at h;exact nomatch h.1
theorem gS.to{g:Gx}{x:XS}{t t':Tr}(h:gS g x t)(e:x.st=false->t=t'):gS g x t':=by
 rcases h with h|h
 ·exact .inl ⟨h.1,e h.1▸h.2⟩
 ·exact .inr h
theorem drop_cons{l:List Int}{k:Nat}(h:k<l.length):l.drop k=l.getD k 0::l.drop (k+1):=by
 rw[List.drop_eq_getElem_cons h]
 simp[gF,h]
theorem mD{l:List Int}{k:Nat}(h:k<l.length):l.take (k+1)=l.take k++[l.getD k 0]:=by
 rw[List.take_add_one]
 simp[gF,h]
theorem Wk.vq{L:List Nv}{c:Int}{k:Int->Tr}(v:Int):Wk L (.load c k) [v] [] [] [] (k v):=.load (.nil _)
theorem Wk.aBr{L:List Nv}{c o n:Int}{k:Bool->Tr}(v:Int):Wk L (.rP c o n k) [v] [] [] [] (k (v==1)):=.rP (.nil _)
theorem Wk.iv{L:List Nv}{n:Nv}{i:Int}{k:Int->Tr}(v:Int):Wk L (.alloc n i k) [] [v] [] [] (k v):=.alloc (.nil _)
theorem Wk.Jn{L:List Nv}{i:Int}{k:Int->Tr}(v:Int):Wk L (.cell i k) [] [] [v] [] (k v):=.cell (.nil _)
theorem Wk.aBh{L:List Nv}{k:Int->Tr}(v:Int):Wk L (.gen k) [] [] [] [v] (k v):=.gen (.nil _)
theorem Wk.node1{L:List Nv}{r:Int}{k:Nv->Tr}(h:r<=L.length):Wk L (.node r k) [] [] [] [] (k (bH L r)):=.node h (.nil _)
section
variable{g:Gx}{x:XS}{c o n i r:Int}{k:Int->Tr}{kb:Bool->Tr}{kn:Nv->Tr}{nn:Nv}{t R:Tr}
theorem GdR.full(h:GdR g x t R):Wk x.nodes g.T x.got x.made x.cel x.gns R:=by
 have:=h.pre.trans h.suf;simpa only[List.take_append_drop] using this
theorem yI{l:List Int}{k:Nat}(h:l.drop k=[])(h2:k<=l.length):k=l.length:=by
 have:=List.drop_eq_nil_iff.1 h;omega
theorem Gd.Hr(h:Gd g x (.load c k))(ha:x.a<x.got.length):Gd g {x with a:=x.a+1} (k (x.got.getD x.a 0)):=by
 obtain⟨R,h⟩:=h
 have hs:=h.suf;rw[drop_cons ha] at hs;have hp:=h.pre.trans (Wk.vq (x.got.getD x.a 0));simp only[List.append_nil] at hp
 rw[<- mD ha] at hp
 cases hs with
 | load hs=>exact⟨R,hp,hs,h.rc,h.hf,ha,h.lm,h.lc,h.lg,h.hN⟩
theorem Gd.Mg(h:Gd g x (.rP c o n kb))(ha:x.a<x.got.length):Gd g {x with a:=x.a+1} (kb (x.got.getD x.a 0==1)):=by
 obtain⟨R,h⟩:=h
 have hs:=h.suf;rw[drop_cons ha] at hs;have hp:=h.pre.trans (Wk.aBr (x.got.getD x.a 0));simp only[List.append_nil] at hp
 rw[<- mD ha] at hp
 cases hs with
 | rP hs=>exact⟨R,hp,hs,h.rc,h.hf,ha,h.lm,h.lc,h.lg,h.hN⟩
structure AtR(g:Gx)(x:XS)(t:Tr):Prop where
 wk:Wk x.nodes g.T x.got x.made x.cel x.gns t
 rc:Rc (g.fr-x.fr) g.R g.s t x.mm
 hf:x.fr<=g.fr
 ea:x.a=x.got.length
 em:x.m=x.made.length
 ec:x.c=x.cel.length
 eg:x.g=x.gns.length
 hN:x.got.length+x.fr=g.N
theorem AtR.aCj(h:AtR g x t):Gd g x t:=by
 refine⟨t,?_,?_,h.rc,h.hf,by rw[h.ea];exact Nat.le_refl _,by rw[h.em];exact Nat.le_refl _,by rw[h.ec];exact Nat.le_refl _,by rw[h.eg];exact Nat.le_refl _,h.hN⟩
 ·rw[h.ea,h.em,h.ec,h.eg];simpa using h.wk
 ·rw[h.ea,h.em,h.ec,h.eg];simpa using Wk.nil t
theorem GdR.atR(h:GdR g x t t)(h1:x.got.drop x.a=[])(h2:x.made.drop x.m=[])(h3:x.cel.drop x.c=[])(h4:x.gns.drop x.g=[]):AtR g x t :=
 ⟨h.full,h.rc,h.hf,yI h1 h.la,yI h2 h.lm,yI h3 h.lc,yI h4 h.lg,h.hN⟩
theorem Gd.ob(h:Gd g x (.load c k))(ha:¬x.a<x.got.length):AtR g x (.load c k):=by
 obtain⟨R,h⟩:=h
 have hs:=h.suf;have e:x.got.drop x.a=[]:=List.drop_eq_nil_iff.2 (by omega);rw[e] at hs;generalize e2:x.made.drop x.m=l2 at hs;generalize e3:x.cel.drop x.c=l3 at hs;generalize e4:x.gns.drop x.g=l4 at hs;cases hs
 exact h.atR e e2 e3 e4
theorem Gd.xk(h:Gd g x (.rP c o n kb))(ha:¬x.a<x.got.length):AtR g x (.rP c o n kb):=by
 obtain⟨R,h⟩:=h
 have hs:=h.suf;have e:x.got.drop x.a=[]:=List.drop_eq_nil_iff.2 (by omega);rw[e] at hs;generalize e2:x.made.drop x.m=l2 at hs;generalize e3:x.cel.drop x.c=l3 at hs;generalize e4:x.gns.drop x.g=l4 at hs;cases hs
 exact h.atR e e2 e3 e4
theorem AtR.stop{y:XS}(h:AtR g x t)(h0:x.fr=0)(ht:t.acc=some y.nx)(hs:y.st=true)(e1:y.got=x.got)(e2:y.made=x.made)(e3:y.cel=x.cel)(e4:y.gns=x.gns)(e5:y.L=x.L)(e6:y.cs=x.cs)(e7:y.gen=x.gen):gS g y t:=by
 refine .inr ⟨hs,t,ht,?_,?_,?_⟩
 ·simp only[XS.nodes,e1,e2,e3,e4,e5];exact h.wk
 ·have:=h.rc;rw[h0] at this;simpa only[XS.mm,e5,e6,e7,Nat.sub_zero] using this
 ·rw[e1];have:=h.hN;omega
theorem AtR.now{y:XS}{t':Tr}{v:Int}(h:AtR g x t)(h0:0<x.fr)(hw:∀L,Wk L t [v] [] [] [] t')(hl:Lp t x.mm t' y.mm)
  (hs:y.st=false) (e1:y.got=x.got++[v]) (e2:y.made=x.made) (e3:y.cel=x.cel) (e4:y.gns=x.gns) (e5:y.L=x.L) (e8:y.fr=x.fr-1) (e9:y.a=x.a+1) (em:y.m=x.m) (ec:y.c=x.c) (eg:y.g=x.g):gS g y t':=by
 refine .inl ⟨hs,AtR.aCj ⟨?_,?_,by have:=h.hf;omega,by rw[e9,e1,h.ea];simp,by rw[em,e2,h.em],by rw[ec,e3,h.ec],by rw[eg,e4,h.eg],by rw[e1,e8];have:=h.hN;simp;omega⟩⟩
 ·have:=h.wk.trans (hw x.nodes);simp only[List.append_nil] at this
  simp only[XS.nodes,e1,e2,e3,e4,e5];exact this
 ·have:=h.rc.loud hl;rwa [show g.fr-x.fr+1=g.fr-y.fr by have:=h.hf;omega] at this
theorem Gd.alloc_old(h:Gd g x (.alloc nn i k))(ha:x.m<x.made.length):Gd g {x with m:=x.m+1} (k (x.made.getD x.m 0)):=by
 obtain⟨R,h⟩:=h
 have hs:=h.suf;rw[drop_cons ha] at hs;have hp:=h.pre.trans (Wk.iv (x.made.getD x.m 0));simp only[List.append_nil] at hp
 rw[<- mD ha] at hp
 generalize e0:x.got.drop x.a=l0 at hs
 generalize e1:x.cel.drop x.c=l1 at hs
 generalize e2:x.gns.drop x.g=l2 at hs
 cases hs with
 | alloc hs=>exact⟨R,hp,by simp only[];rw[e0,e1,e2];exact hs,h.rc,h.hf,h.la,ha,h.lc,h.lg,h.hN⟩
theorem Gd.ax(h:Gd g x (.alloc nn i k))(ha:x.m=x.made.length):AtR g x (.alloc nn i k):=by
 obtain⟨R,h⟩:=h
 have hs:=h.suf;have e:x.made.drop x.m=[]:=List.drop_eq_nil_iff.2 (by omega);rw[e] at hs;generalize e2:x.got.drop x.a=l2 at hs;generalize e3:x.cel.drop x.c=l3 at hs;generalize e4:x.gns.drop x.g=l4 at hs;cases hs
 exact h.atR e2 e e3 e4
theorem Gd.Ho(h:Gd g x (.cell i k))(ha:x.c<x.cel.length):Gd g {x with c:=x.c+1} (k (x.cel.getD x.c 0)):=by
 obtain⟨R,h⟩:=h
 have hs:=h.suf;rw[drop_cons ha] at hs;have hp:=h.pre.trans (Wk.Jn (x.cel.getD x.c 0));simp only[List.append_nil] at hp
 rw[<- mD ha] at hp
 generalize e0:x.got.drop x.a=l0 at hs
 generalize e1:x.made.drop x.m=l1 at hs
 generalize e2:x.gns.drop x.g=l2 at hs
 cases hs with
 | cell hs=>exact⟨R,hp,by simp only[];rw[e0,e1,e2];exact hs,h.rc,h.hf,h.la,h.lm,ha,h.lg,h.hN⟩
theorem Gd.ud(h:Gd g x (.cell i k))(ha:x.c=x.cel.length):AtR g x (.cell i k):=by
 obtain⟨R,h⟩:=h
 have hs:=h.suf;have e:x.cel.drop x.c=[]:=List.drop_eq_nil_iff.2 (by omega);rw[e] at hs;generalize e2:x.got.drop x.a=l2 at hs;generalize e3:x.made.drop x.m=l3 at hs;generalize e4:x.gns.drop x.g=l4 at hs;cases hs
 exact h.atR e2 e3 e e4
theorem Gd.Kv(h:Gd g x (.gen k))(ha:x.g<x.gns.length):Gd g {x with g:=x.g+1} (k (x.gns.getD x.g 0)):=by
 obtain⟨R,h⟩:=h
 have hs:=h.suf;rw[drop_cons ha] at hs;have hp:=h.pre.trans (Wk.aBh (x.gns.getD x.g 0));simp only[List.append_nil] at hp
 rw[<- mD ha] at hp
 generalize e0:x.got.drop x.a=l0 at hs
 generalize e1:x.made.drop x.m=l1 at hs
 generalize e2:x.cel.drop x.c=l2 at hs
 cases hs with
 | gen hs=>exact⟨R,hp,by simp only[];rw[e0,e1,e2];exact hs,h.rc,h.hf,h.la,h.lm,h.lc,ha,h.hN⟩
theorem Gd.z8(h:Gd g x (.gen k))(ha:x.g=x.gns.length):AtR g x (.gen k):=by
 obtain⟨R,h⟩:=h
 have hs:=h.suf;have e:x.gns.drop x.g=[]:=List.drop_eq_nil_iff.2 (by omega);rw[e] at hs;generalize e2:x.got.drop x.a=l2 at hs;generalize e3:x.made.drop x.m=l3 at hs;generalize e4:x.cel.drop x.c=l4 at hs;cases hs
 exact h.atR e2 e3 e4 e
theorem Gd.node(h:Gd g x (.node r kn))(hr:r<=x.L.length):Gd g x (kn (bH x.nodes r)):=by
 have hr':r<=x.nodes.length:=by simpa[XS.nodes] using hr
 obtain⟨R,h⟩:=h
 have hs:=h.suf;have hp:=h.pre.trans (Wk.node1 (k:=kn) hr');simp only[List.append_nil] at hp
 generalize e1:x.got.drop x.a=l1 at hs
 generalize e2:x.made.drop x.m=l2 at hs
 generalize e3:x.cel.drop x.c=l3 at hs
 generalize e4:x.gns.drop x.g=l4 at hs
 cases hs with
 | nil=>exact⟨_,hp,by rw[e1,e2,e3,e4];exact .nil _,h.rc.Um (.node r kn x.mm (by simpa[XS.mm] using hr)),h.hf,h.la,h.lm,h.lc,h.lg,h.hN⟩
 | node _ hs=>exact⟨R,hp,by rw[e1,e2,e3,e4];exact hs,h.rc,h.hf,h.la,h.lm,h.lc,h.lg,h.hN⟩
theorem gS.node(h:gS g x (.node r kn))(hr:r<=x.L.length):gS g x (kn (bH x.nodes r)):=by
 rcases h with h|h
 ·exact .inl ⟨h.1,h.2.node hr⟩
 ·exact .inr h
theorem AtR.Um{y:XS}{t':Tr}{ms cl gn:List Int}{N:List aI}(h:AtR g x t)(hw:∀L,Wk L t [] ms cl gn t')(hl:Sp t x.mm t' y.mm)
  (hs:y.st=false) (e1:y.got=x.got) (e2:y.made=x.made++ms) (e3:y.cel=x.cel++cl) (e4:y.gns=x.gns++gn) (e5:y.L=x.L++N) (e8:y.fr=x.fr) (e9:y.a=x.a) (em:y.m=x.m+ms.length) (ec:y.c=x.c+cl.length) (eg:y.g=x.g+gn.length):gS g y t':=by
 refine .inl ⟨hs,AtR.aCj ⟨?_,?_,by rw[e8];exact h.hf,by rw[e9,e1,h.ea],by rw[em,e2,h.em];simp,by rw[ec,e3,h.ec];simp,by rw[eg,e4,h.eg];simp,by rw[e1,e8];exact h.hN⟩⟩
 ·have:=(h.wk.trans (hw x.nodes)).mono (N:=N.map aI.c);simp only[List.append_nil] at this
  have e:y.nodes=x.nodes++N.map aI.c:=by simp[XS.nodes,e5]
  rw[e,e1,e2,e3,e4];exact this
 ·rw[e8];exact h.rc.Um hl
theorem AtR.room(hg:g.Ok)(h:AtR g x t):∃n c,cN t n c/\c<=64/\x.L.length+c<=137438953600/\x.cs.length+c<=137438953600/\x.gen+c<=137438953600/\x.made.length<=137438953472/\x.cel.length<=137438953472/\x.gns.length<=137438953472:=by
 obtain⟨n,h1,h2⟩:=hg.tameR
 have hf:=hg.hf;obtain⟨c',t1,t2,_,t3,t4,t5⟩:=h.rc.xB (Nat.le_refl 64) h2 (by omega)
 obtain⟨c2,_,_,u3⟩:=h.wk.xB (Nat.le_refl 64) hg.xB (by have:=h.hN;omega)
 have:=hg.hs;have:=hg.hN;have:=h.hN;simp only[XS.mm,List.length_map] at t3 t4 t5
 refine⟨_,c',t1,t2,by omega,by omega,by omega,by omega,by omega,by omega⟩
theorem Gd.Y2(hg:g.Ok)(h:Gd g x .stuck):False:=by
 obtain⟨R,h⟩:=h
 obtain⟨c2,u1,_,_⟩:=h.pre.xB (Nat.le_refl 64) hg.xB (by have:=h.hN;have:=h.la;simp;omega)
 exact u1
end
end

/- An execution of the reference: what is kept by every function. -/
section
open Go Go.RowKit
structure pJ(n c:Nat)(v:Nv):Prop where
 bO:v.bO<=n
 exp:v.exp<=n
 new:v.new<=n
 br:∀r∈v.xs,r<=n
 main:v.main<=c
 prev:v.prev<=c
 status:v.status<=c
 bm:∃b:Nat,v.bm=(b:Int)/\b<18446744073709551616
 hash:∃b:Nat,v.hash=(b:Int)/\b<18446744073709551616
theorem pJ.mono{n c n' c':Nat}{v:Nv}(h:pJ n c v)(h1:n<=n')(h2:c<=c'):pJ n' c' v :=
 ⟨by have:=h.bO;omega,by have:=h.exp;omega,by have:=h.new;omega,λ r hr=>by have:=h.br r hr;omega,by have:=h.main;omega,by have:=h.prev;omega,by have:=h.status;omega,h.bm,h.hash⟩
theorem me(n c:Nat):pJ n c Nv.zero:=⟨bT _,bT _,bT _,(λ r hr=>nomatch hr),bT _,bT _,bT _,⟨0,rfl,by decide⟩,⟨0,rfl,by decide⟩⟩
structure XS.Ok(x:XS):Prop where
 fit:Fits x.L
 nd:∀v∈x.L,pJ x.L.length x.cs.length v.c
 cs:∀v∈x.cs,v<=x.L.length
 got:∀v∈x.got,v<=x.L.length
 made:∀v∈x.made,v<=x.L.length
 two:2<=x.L.length
 lL:x.L.length<=137438953600
 lc:x.cs.length<=137438953600
 lg:x.got.length<=1073741824
 la:x.a<=x.got.length
 lm:x.m<=x.made.length
 lk:x.c<=x.cel.length
 le:x.g<=x.gns.length
 fr:x.fr<=1
 ys:∀v∈x.L,v.ys.length<=x.L.length
 gen0:0<=x.gen
 ms:∀i j:Nat,i<j->j<x.made.length->x.made.getD i 0<x.made.getD j 0
 m1:∀v∈x.made,1<=v
theorem nV{l:List Int}{n:Nat}(h:∀v∈l,v<=n)(k:Nat):l.getD k 0<=n:=by
 rw[gF]
 cases hk:l[k]? with
 | none=>exact bT n
 | some v=>exact h v (List.mem_of_getElem? hk)
theorem XS.Ok.nv{x:XS}(h:x.Ok)(r:Int):pJ x.L.length x.cs.length (aA x.L r).c:=by
 unfold aA
 split
 ·exact h.nd _ (eE (by omega))
 ·exact me _ _
theorem XS.Ok.cell{x:XS}(h:x.Ok)(c:Int):bV x.cs c<=x.L.length:=by
 unfold bV
 split
 ·exact nV h.cs _
 ·exact bT _
structure Nx(g:Gx)(x x':XS)(N:List aI)(t:Tr)(b:Int):Prop where
 go:gS g x' t
 ok:x'.Ok
 ext:x'.L=x.L++N
 lc:x.cs.length<=x'.cs.length
 bd:b<=x'.L.length
def Ch(x0 x:XS)(F:Fr):Prop:=∃N,x.L=x0.L++N/\∀f∈bD N,f.2=[]∨f∈F
theorem Ch.base{x0:XS}{F:Fr}:Ch x0 x0 F:=⟨[],by simp,λ f hf=>by simp[bD] at hf⟩
theorem Ch.ext{x0 x x':XS}{F:Fr}{N:List aI}(h:Ch x0 x F)(e:x'.L=x.L++N):Ch x0 x' (bD N++F):=by
 obtain⟨M,h1,h2⟩:=h
 refine⟨M++N,by rw[e,h1,List.append_assoc],λ f hf=>?_⟩
 rw[fH] at hf
 rcases List.mem_append.1 hf with hf|hf
 ·exact(h2 f hf).imp_right λ h=>List.mem_append_right _ h
 ·exact .inr (List.mem_append_left _ hf)
theorem Ch.nx{g:Gx}{x0 x x':XS}{F:Fr}{N:List aI}{t:Tr}{b:Int}(h:Nx g x x' N t b)(hc:Ch x0 x F):Ch x0 x' (bD N++F):=hc.ext h.ext
theorem Ch.cons{x0 x:XS}{F:Fr}{f:Option Addr×List Value}(h:Ch x0 x F):Ch x0 x (f::F):=by
 obtain⟨M,h1,h2⟩:=h
 exact⟨M,h1,λ g hg=>(h2 g hg).imp_right λ h=>List.mem_cons_of_mem _ h⟩
theorem Ch.all{x0 x:XS}{A F:Fr}{O:List Ow}(h:Ch x0 x F)(hA:∀f∈bD x0.L,f∈A):bU A F O (bD x.L):=by
 obtain⟨M,h1,h2⟩:=h
 refine .of λ f hf=>?_;rw[h1,fH] at hf;rcases List.mem_append.1 hf with hf|hf
 ·exact .inr (.inl (hA f hf))
 ·exact(h2 f hf).imp_right λ h=>.inr (.inl h)
theorem SF.fp{w0 w:World}{M:List Nat}{H:List (Nat×Obj)}{A F:Fr}{O:List Ow}{x0 x:XS}(h:SF w0 M H A F O w)(hc:Ch x0 x F)(hA:∀f∈bD x0.L,f∈A)(ok:x.Ok)(r:Int):qR w (aA x.L r).nd (aA x.L r).xs (aA x.L r).ys:=by
 unfold aA
 split
 ·have hv:=eE (L:=x.L) (k:=(r-1).toNat) (by omega);have hk:=(hc.all (O:=O) hA).get;generalize x.L.getD (r-1).toNat aI.zero=v at hv ⊢;exact(ok.fit _ hv).sR (h.clH (hk (v.nd.brA,aH v.xs) (gK.2 ⟨v,hv,by simp[aI.fr]⟩))) (h.clH (hk (v.nd.prA,dK v.ys) (gK.2 ⟨v,hv,by simp[aI.fr]⟩)))
 ·exact Rh.sR (Cl.nil _ _) (Cl.nil _ _)
end

end Go.Ct

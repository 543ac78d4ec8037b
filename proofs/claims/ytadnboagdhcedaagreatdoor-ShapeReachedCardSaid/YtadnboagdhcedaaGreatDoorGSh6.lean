/- The program's numbers of a bitmap's bits: TrailingZeros64 by its table, Indices. -/
import Derived.Test.YtadnboagdhcedaaGreatDoorGGa
import Derived.Test.YtadnboagdhcedaaGreatDoorGBits
import Derived.Test.YtadnboagdhcedaaGreatDoorGMem
import Derived.Test.YtadnboagdhcedaaGreatDoorCards
import Derived.Test.YtadnboagdhcedaaGreatDoorTie
import Derived.Deep.DeepHandedRow
import Derived.Lib.LaidTab
import Derived.Test.YtadnboagdhcedaaGreatDoorGAr9
import Derived.Test.YtadnboagdhcedaaGreatDoorGJoin

set_option linter.unusedSimpArgs false
set_option linter.unusedVariables false
namespace Go.Ct
section
def iS:List Nat:=[0,1,56,2,57,49,28,3,61,58,42,50,38,29,17,4,62,47,59,36,45,43,51,22,53,39,33,30,24,18,12,5,63,55,48,27,60,41,37,16,46,35,44,21,52,32,23,11,54,26,40,15,34,20,31,10,25,14,19,9,13,8,7,6]
def vn(t:Nat):Nat:=2^t*285870213051353865%18446744073709551616/288230376151711744
theorem Xh(t:Nat):vn t<64:=by unfold vn;omega
theorem a6:∀t:Fin 64,iS.getD (vn t.val) 0=t.val:=by decide +kernel
end
end Go.Ct
namespace Go.Proofs.YtadnboagdhcedaaGreatDoor
section
open Go Go.RowKit Go.Ct
theorem uZ(b:Nat):∀k,(jZ b k).length=eM b k
 | 0=>rfl
 | k+1=>by
  simp only[jZ,List.length_append,uZ b k,eM]
  split<;>simp_all
theorem U4(n:Nat):IntKind.u64.wrap ((n:Nat):Int)=((n%18446744073709551616:Nat):Int):=by
 simp[IntKind.wrap,IntKind.signed,IntKind.bits]
theorem xr{n t:Nat}(h:Sv n t)(hn:n<18446744073709551616):nP .u64 (IntKind.u64.wrap (nL .u64 (n:Int) (IntKind.u64.wrap (0-(n:Int)))*285870213051353865)) 58=((vn t:Nat):Int):=by
 have h0:0<n:=by
  rcases Nat.eq_zero_or_pos n with e|e
  ·have:=h.at_;rw[e,Nat.zero_testBit] at this;cases this
  ·exact e
 have e1:IntKind.u64.wrap (0-(n:Int))=((18446744073709551616-n:Nat):Int):=by
  simp[IntKind.wrap,IntKind.signed,IntKind.bits]
  omega
 rw[e1,kR hn (by omega),h.neg (n:=64) hn]
 have e2:(((2^t:Nat):Int)*285870213051353865)=((2^t*285870213051353865:Nat):Int):=by rw[Int.natCast_mul];rfl
 rw[e2,U4,show(58:Int)=((58:Nat):Int) from rfl,lB (by decide),Nat.shiftRight_eq_div_pow]
 rfl
theorem vb{n t:Nat}(h:Sv n t)(hn:n<18446744073709551616):t<64:=by
 rcases Nat.lt_or_ge t 64 with h1|h1
 ·exact h1
 ·have:=Nat.testBit_lt_two_pow (i:=t) (x:=n) (Nat.lt_of_lt_of_le hn (Nat.pow_le_pow_right (n:=2) (by decide) h1))
  rw[h.at_] at this;cases this
theorem Vk{t:Nat}(h:t<64):IntKind.i64.wrap ((t:Nat):Int)=(t:Int):=by
 simp[IntKind.wrap,IntKind.signed,IntKind.bits]
 omega
theorem aAG{n t:Nat}(h:Sv n t)(hn:n<18446744073709551616){w:World}(hT:Go.Ct.Cl w (some ⟨0,0,none⟩) (oV iS)):Calls Tryz.prog 74 #[.int .u64 (n:Int)] w λ e w'=>e=.returned (.int .i64 ((t:Nat):Int))/\St w [] [] w':=by
 refine enter Tryz.func74 Tryz.ntmps74 rfl rfl (SF.s1 hT) ?_
 simp only[cO]
 refine Ka7 ?_;refine sX ?_
 refine aZ (λ c4=>?_) (λ c4=>?_)
 ·exfalso;have h4:=h.at_;have:n=0:=by omega
  rw[this,Nat.zero_testBit] at h4;cases h4
 ·refine zS ?_;refine xo ?_;refine zC ?_;refine wq ?_;refine Bx ?_;refine aE (Qx (e:=5) (n:=64) (k:=vn t) rfl (by rw[<- xr h hn];exact rfl) (by kernel_rfl) (by kernel_rfl) (Xh t)) rfl ?_;refine aE (mv (q:=vn t) (lst:=iS) rfl (by kernel_rfl) (.bM (.head)) (Xh t)) rfl ?_;refine iE ?_;refine J1 ?_
  refine aQ Tryz.results74 (λ w hw=>?_)
  have ht:=vb h hn
  have e:=a6 ⟨t,ht⟩
  exact⟨by rw[e];show Ending.returned (pN [Value.int IntKind.i64 (IntKind.i64.wrap ((t:Nat):Int))])=_;rw[Vk ht];rfl,hw.done⟩
theorem H2:∀n,jZ 0 n=[]
 | 0=>rfl
 | n+1=>by simp only[jZ];rw[H2 n,Nat.zero_testBit];rfl
theorem ey{b:Nat}(h0:0<b)(hb:b<18446744073709551616):nL .u64 ((b:Nat):Int) (IntKind.u64.wrap (((b:Nat):Int)-1))=((b &&& (b-1):Nat):Int):=by
 rw[show((b:Nat):Int)-1=((b-1:Nat):Int) by omega,kK (by omega),kR hb (by omega)]
theorem Bs{n:Nat}(hn:n<18446744073709551616){w:World}(hT:Go.Ct.Cl w (some ⟨0,0,none⟩) (oV iS)):Calls Tryz.prog 58 #[.int .u64 (n:Int)] w λ e w'=>∃x:Option Addr×Nat,e=.returned (.slice x.1 (jZ n 64).length x.2)/\True/\SF w [] [] [] [(x.1,aG (jZ n 64))] [] w':=by
  have hil:=uZ n 64
  have hcl:=tF n 64
  refine enter Tryz.func58 Tryz.ntmps58 rfl rfl (SF.s1 hT) ?_
  simp only[cO]
  refine cQ ?_;refine J2 ?_;refine aT (cV (hc:=λ w1 hw=>X7 hn w1)) (λ x5=>?_);refine aT (S9 (m:=0) (k:=eM n 64) rf rf Xg om om) (λ x6=>?_);refine gQ ?_;refine bW ?_
  refine kZ [0,3,7,8,9,10,11,12,13,14,15,16,17] (λ y:List Int×Nat×Option Addr×Nat=>[(3,.slice y.2.2.1 y.1.length y.2.2.2),(0,.int .u64 ((y.2.1:Nat):Int))]) (λ y=>y.2.1<18446744073709551616/\y.1++jZ y.2.1 64=jZ n 64) (λ _=>_) (λ _=>_) (λ y=>[⟨y.2.2.1,aG y.1,y.2.2.2,3,1⟩]) (λ y=>y.2.1) (([],n,some ⟨x6,0,none⟩,eM n 64)) (⟨hn,List.nil_append _⟩) (λ y f hx=>?_)
  dsimp only[fY,List.map,List.cons_append,List.nil_append]
  have hll:y.1.length<=64:=by
   have:=congrArg List.length hx.2
   rw[List.length_append] at this
   omega
  refine kT ?_;refine Kc0 ?_
  refine aZ (λ c8=>?_) (λ c8=>?_)
  · have hb0:0<y.2.1:=by omega
    obtain⟨t,ht,hlow⟩:=s8 (n:=64) hb0 hx.1
    have hle:y.2.1 &&& (y.2.1-1)<y.2.1:=Nat.lt_of_le_of_lt Nat.and_le_right (by omega)
    have hidx:=K0 hlow hlow.clear 64 ht
    have hand:=ey hb0 hx.1
    refine nZ ?_;refine Kp ?_;refine aT (cV (v:=.int .i64 ((t:Nat):Int)) (hc:=λ w1 hw=>aAG hlow hx.1 (hw.cl (.bM .head)))) (λ x15=>?_);refine fF (λ x16=>?_);(refine eL (λ x17=>?_);try (refine fB (λ h17=>?_)));refine J1 ?_;refine eX ?_;refine Kp ?_;refine wc ?_;refine zC ?_;refine J1 ?_
    refine yZ ((y.1++[((t:Nat):Int)],y.2.1 &&& (y.2.1-1),x17)) ?_ ?_ (by repeat (first|(with_reducible exact Hl.refl)|refine Hl.cons (by exact rfl) ?_)) ?_ (λ w hw=>by exact hw.back)
    · omega
    · repeat' (first|exact bB _|refine aY ?_ ?_)
      all_goals (first|(rw[<- hand];exact rfl)|(conv=>{lhs;whnf};simp;done))
    · exact⟨Nat.lt_trans hle hx.1,by rw[List.append_assoc,List.singleton_append,<- hidx];exact hx.2⟩
  · refine bF rfl ?_;refine Ka5 ?_
    refine aQ Tryz.results58 (λ w hw=>?_)
    have e0:y.2.1=0:=by omega
    have e1:y.1=jZ n 64:=by rw[<- hx.2,e0,H2,List.append_nil]
    rw[e1] at hw ⊢
    generalize jZ n 64=B at hw ⊢
    exact⟨y.2.2,rfl,trivial,SF.frz hw.aS⟩
end

/- From the walk of a law to its row and its card, where the row lists the table of math/bits. -/
end Go.Proofs.YtadnboagdhcedaaGreatDoor
namespace Go.Ct
section
open Go Go.RowKit Go.ChangeShapes Go.WideShapes Go.ChangeAt
theorem F9{P:Program}{f:FuncId}{fn:Func}{s:ChangeSpec}{H:Type}{enc:TypeId×Value->H}{tb:TypeId}
  (hl:laidOutB P=true) (hrd:(fn.params.toList.all λ t=>P.readableRec t&&Nat.blt t P.types.size)=true) (hrt:fn.resultTypes = #[tb]) (hb:P.underlying tb=some .bool) (hv:s.vars=[])
  (hs:∀ds:List (DataW H),ds.length=fn.params.size->(s.fn H ds).results=[.lit (.bool true)]/\(s.fn H ds).args=ds/\(s.fn H ds).vars=[])
  {W:World} {base:Nat} {args:Array Value} {ds gs:List (DataW H)} {before:List MemPlace}
  (hval:∀(j:Nat) t v,fn.params[j]?=some t->args[j]?=some v->Value.okWide P W .any base t v)
  (hW:DataW.Whole enc P fn.params.toList s.vars false W args.toList ds gs before)
  (hwt:(DataW.weightsEach P (fn.params.toList++s.plain.varTypes P) (ds++gs)).all (· <= reachBytes)=true)
  (walk:∀args:List Value,ux enc P fn W args ds->Calls P f ⟨args⟩ W λ e W'=>e=.returned (.bool true)/\St W [] [] W') :
  Calls P f args W λ e W'=>∃v,e=.returned v/\s.post enc P fn false true false false W args v W':=by
 have hlt:=λ x hx=>hW.lt x hx
 have hW':=hW
 obtain⟨p,q,hA,hV,rfl,_,_⟩:=hW
 have hlen:ds.length=fn.params.size:=by
  have:∀{ts:List TypeId} {vs:List Value} {ds:List (DataW H)} {ps:List MemPlace},DataW.TrodAll enc P W 0 (λ _=>true) true ts vs ds ps->ds.length=ts.length:=by
   intro ts
   induction ts with
   | nil=>intro vs ds ps h;obtain⟨_,rfl,_⟩:=trodAll_nil h;rfl
   | cons t ts ih=>intro vs ds ps h;obtain⟨v,vs,d,ds,a,b,rfl,rfl,rfl,_,h2⟩:=trodAll_cons h;simp[ih h2]
  simpa using this hA
 obtain⟨args⟩:=args
 have hwt':∀k∈DataW.weightsEach P fn.params.toList ds,k<=reachBytes:=λ k hk=>by
  have h1:=List.all_eq_true.1 hwt k (by
   have:∀{ts ts':List TypeId} {l l':List (DataW H)},k∈DataW.weightsEach P ts l->k∈DataW.weightsEach P (ts++ts') (l++l'):=by
    intro ts
    induction ts with
    | nil=>intro ts' l l' h;simp[DataW.weightsEach] at h
    | cons t ts ih =>
     intro ts' l l' h
     cases l with
     | nil=>simp[DataW.weightsEach] at h
     | cons x l =>
      simp only[DataW.weightsEach,List.cons_append,List.mem_append] at h ⊢
      exact h.imp id ih
   exact this hk)
  simpa using h1
 refine(walk args ⟨⟨base,λ j t v h1 h2=>hval j t v (by simpa using h1) (by simpa using h2)⟩,⟨p,hA,λ x hx=>hlt x (List.mem_append_left _ hx)⟩,hwt'⟩).mono ?_
 rintro e W' ⟨rfl,hst⟩
 exact⟨_,rfl,W9 hl hrd hrt hb hv (hs ds hlen) hW' hst⟩
end
end Go.Ct
namespace Go.Proofs.YtadnboagdhcedaaGreatDoor
section
open Go Go.RowKit Go.Ct Go.ChangeShapes Go.WideShapes Go.ChangeAt
theorem zw:Tryz.prog.globalNamed "math/bits.deBruijn64tab" = some 0:=by kernel_rfl
theorem Xa:(Tryz.prog.globals[0]?).map (·.type)=some 154:=by kernel_rfl
theorem aAm:Tryz.prog.underlying 154=some (.array 64 5):=by kernel_rfl
theorem xf:Tryz.prog.underlying 5=some (.int .u8):=by kernel_rfl
theorem aAv:Tryz.prog.cellsOf 154=64:=by kernel_rfl
theorem xw:Tryz.prog.cellsOf 5=1:=by kernel_rfl
abbrev qq:List (String×DataW Unit):=[("math/bits.deBruijn64tab",Rows.laid_math_bits_deBruijn64tab)]
theorem qb{W:World}(h:laidMetH Tryz.prog qq W):Lib.TabIs Tryz.prog W "math/bits.deBruijn64tab" .u8 (iS.map λ k:Nat=>(k:Int)) :=
 Lib.tabIs_of_head (rest:=[]) zw Xa aAm xf xw aAv h
theorem rh{W:World}(h:laidMetH Tryz.prog qq W):Go.Ct.Cl W (some ⟨0,0,none⟩) (oV iS):=⟨λ j u hj=>by
 have hl:j<iS.length:=by
  have:=(List.getElem?_eq_some_iff.1 hj).1
  rwa [oV,List.length_map] at this
 have h1:=(qb h).cell zw j (by rwa [List.length_map])
 rw[Tc hl] at hj
 cases hj
 refine⟨rfl,?_⟩
 show W.cell? ⟨0,0+j,none⟩=_
 rw[Nat.zero_add,h1]
 simp only[List.getD,List.getElem?_map]
 rw[List.getElem?_eq_getElem hl]
 rfl⟩
noncomputable def Hh (os:Os):World :=
 {World.holding Tryz.prog os ⟨#[],#[],[]⟩ with heap:=(World.holding Tryz.prog os ⟨#[],#[],[]⟩).heap.modify 0 λ
   | .cells _ t frozen=>.cells (oV iS).toArray t frozen
   | o=>o}
theorem V3(os:Os)(args:Array Value):laidMet Tryz.prog qq ((Hh os).forCall (λ _ _=>0) ⟨#[],args,[]⟩).memory :=
 laidMet_of_run' 8 (by kernel_rfl) (by kernel_rfl)
end

/- Views: the root of a trie, the main node of an I-node. -/
end Go.Proofs.YtadnboagdhcedaaGreatDoor
namespace Go.Ct
section
open Go Go.RowKit
theorem iQ.Eg{L:List aL}{cs:List Int}{pn pc:Option Addr}{w w0:World}{M:List Nat}{H:List (Nat×Obj)}{F:Fr}{O:List Ow}(h:iQ w0 L cs pn pc)(hw:SF w0 M H ((pn,gR L)::(pc,aG cs)::aW L) F O w):iQ w L cs pn pc:=hw.vY (.inr (.inl (.head _))) (.inr (.inl (.tail _ (.head _)))) (λ f hf=>.inr (.inl (.tail _ (.tail _ hf)))) h.fit
theorem cI(L:List aL)(r:Int):cB (L.map aL.c) r=(aA L r).c:=(Iw L r).symm
end
end Go.Ct
namespace Go.Proofs.YtadnboagdhcedaaGreatDoor
section
open Go Go.RowKit Go.Ct
section
variable{L:List aL}{cs:List Int}{gen:Int}{pn pc:Option Addr}{cn cc:Nat}{w:World}
abbrev sI(L:List aL)(cs:List Int)(gen:Int)(pn:Option Addr)(cn:Nat)(pc:Option Addr)(cc:Nat):Value:=.agg ⟨[.slice pn L.length cn,.slice pc cs.length cc,.int .i64 gen]⟩
theorem rq(h:iQ w L cs pn pc)(r:Int)(hr:r<1):Calls Tryz.prog 70 #[sI L cs gen pn cn pc cc,.int .i64 r] w λ e w'=>e=.returned (aA L r).nd.v/\St w [] [] w':=by
 refine enter Tryz.func70 Tryz.ntmps70 rfl rfl h.start ?_
 simp only[cO]
 refine J0 ?_;refine bQ (λ x2=>?_);refine aN (λ x4=>?_);refine aI ?_;refine kT ?_;refine Fu ?_
 (refine eF 7 (λ g7=>?_) (λ g7=>?_)<;>(try (exfalso;omega))<;>(refine aH ?_))
 refine Uw ?_;refine Kb9 ?_
 refine aZ (λ c13=>?_) (λ c13=>?_)
 ·try (exfalso;omega)
  refine J0 ?_;refine As ?_
  refine bK Tryz.results70 (λ w hw=>?_)
  exact⟨by rw[yP (by omega)];rfl,hw.done⟩
 ·exact nv c13
theorem tp(h:iQ w L cs pn pc){k:Nat}(hk:(k:Int)<9223372036854775807)(hl:L.length<=274877906944):Calls Tryz.prog 70 #[sI L cs gen pn cn pc cc,.int .i64 ((k+1:Nat):Int)] w λ e w'=>e=.returned (aA L ((k+1:Nat):Int)).nd.v/\St w [] [] w':=by
 refine enter Tryz.func70 Tryz.ntmps70 rfl rfl h.start ?_
 simp only[cO]
 refine J0 ?_;refine bQ (λ x2=>?_);refine aN (λ x4=>?_);refine aI ?_;refine kT ?_;refine Fu ?_
 (refine Ka6 ?_)
 refine Uw ?_;refine Kb9 ?_
 refine aZ (λ c13=>?_) (λ c13=>?_)
 ·try (exfalso;omega)
  refine J0 ?_;refine As ?_
  refine bK Tryz.results70 (λ w hw=>?_)
  (exact⟨by rw[yP (by omega)];rfl,hw.done⟩)
 ·try (exfalso;omega)
  refine bA ?_;refine gU ?_;refine aB ?_;refine pF ?_;refine Tl ?_;refine J5 ?_
  refine bK Tryz.results70 (λ w hw=>?_)
  (exact⟨by rw[fN (by omega)];rfl,hw.done⟩)
theorem sD(h:iQ w L cs pn pc)(r:Int)(hr:r<=9223372036854775807)(hl:L.length<=274877906944):Calls Tryz.prog 70 #[sI L cs gen pn cn pc cc,.int .i64 r] w λ e w'=>e=.returned (aA L r).nd.v/\St w [] [] w':=by
 rcases Int.lt_or_le r 1 with h1|h1
 ·exact rq h r h1
 ·obtain⟨k,rfl⟩:∃k:Nat,r=((k+1:Nat):Int):=⟨(r-1).toNat,by omega⟩
  exact tp h (by omega) hl
theorem Wg(h:iQ w L cs pn pc)(r:Int)(hr:r<1):Calls Tryz.prog 69 #[sI L cs gen pn cn pc cc,.int .i64 r] w λ e w'=>e=.returned (.int .i64 (bV cs r))/\St w [] [] w':=by
 refine enter Tryz.func69 Tryz.ntmps69 rfl rfl h.start ?_
 simp only[cO]
 refine J0 ?_;refine bQ (λ x2=>?_);refine gQ ?_;refine J2 ?_;refine Fu ?_
 (refine eF 7 (λ g7=>?_) (λ g7=>?_)<;>(try (exfalso;omega))<;>(refine aH ?_))
 refine Uw ?_;refine Kb9 ?_
 refine aZ (λ c13=>?_) (λ c13=>?_)
 ·try (exfalso;omega)
  refine cQ ?_
  refine aQ Tryz.results69 (λ w hw=>?_)
  exact⟨by rw[yK (by omega)];rfl,hw.done⟩
 ·exact nv c13
theorem Y5(h:iQ w L cs pn pc){k:Nat}(hk:(k:Int)<9223372036854775807)(hl:cs.length<=274877906944):Calls Tryz.prog 69 #[sI L cs gen pn cn pc cc,.int .i64 ((k+1:Nat):Int)] w λ e w'=>e=.returned (.int .i64 (bV cs ((k+1:Nat):Int)))/\St w [] [] w':=by
 refine enter Tryz.func69 Tryz.ntmps69 rfl rfl h.start ?_
 simp only[cO]
 refine J0 ?_;refine bQ (λ x2=>?_);refine gQ ?_;refine J2 ?_;refine Fu ?_
 (refine Ka6 ?_)
 refine Uw ?_;refine Kb9 ?_
 refine aZ (λ c13=>?_) (λ c13=>?_)
 ·try (exfalso;omega)
  refine cQ ?_
  refine aQ Tryz.results69 (λ w hw=>?_)
  (exact⟨by rw[yK (by omega)];rfl,hw.done⟩)
 ·try (exfalso;omega)
  refine bA ?_;refine gU ?_;refine aB ?_;refine pF ?_;refine Tl ?_;refine J1 ?_
  refine aQ Tryz.results69 (λ w hw=>?_)
  (exact⟨by rw[Dd (by omega)];rfl,hw.done⟩)
theorem Cv(h:iQ w L cs pn pc)(r:Int)(hr:r<=9223372036854775807)(hl:cs.length<=274877906944):Calls Tryz.prog 69 #[sI L cs gen pn cn pc cc,.int .i64 r] w λ e w'=>e=.returned (.int .i64 (bV cs r))/\St w [] [] w':=by
 rcases Int.lt_or_le r 1 with h1|h1
 ·exact Wg h r h1
 ·obtain⟨k,rfl⟩:∃k:Nat,r=((k+1:Nat):Int):=⟨(r-1).toNat,by omega⟩
  exact Y5 h (by omega) hl
structure xh(L:List aL)(cs:List Int):Prop where
 cs:∀c,bV cs c<=9223372036854775807
 bM:∀r,(aA L r).nd.bM<=9223372036854775807
 new:∀r,(aA L r).nd.new<=9223372036854775807
 main:∀r,(aA L r).nd.main<=9223372036854775807
 prev:∀r,(aA L r).nd.prev<=9223372036854775807
 status:∀r,(aA L r).nd.status<=9223372036854775807
 br:∀r,∀b∈(aA L r).xs,b<=9223372036854775807
theorem di(h:iQ w L cs pn pc)(hb:xh L cs)(hl:L.length<=274877906944)(hc:cs.length<=274877906944)(i:Int)(hi:i<=9223372036854775807):Calls Tryz.prog 95 #[sI L cs gen pn cn pc cc,.int .i64 i] w λ e w'=>e=.returned (.tuple #[.int .i64 ((eK (L.map aL.c) cs i).getD 0),.bool (eK (L.map aL.c) cs i).isSome])/\St w [] [] w':=by
 refine enter Tryz.func95 Tryz.ntmps95 rfl rfl h.start ?_
 simp only[cO]
 simp only[sI]
 refine J0 ?_;refine bQ (λ x2=>?_);refine J8 ?_;refine B6 ?_;refine aT (cV (hc:=λ w1 hw=>sD (h.Eg hw) i hi hl)) (λ x12=>?_);refine aN (λ x6=>?_);refine J5 ?_;refine Az ?_;refine Kc0 ?_
 refine aZ (λ c15=>?_) (λ c15=>?_)
 ·refine Gc ?_
  refine bK Tryz.results95 (λ w hw=>?_)
  refine⟨?_,hw.done⟩
  unfold eK mS iK oM
  simp only[cI,bU,aL.c,Nd.c]
  simp_all
  rfl
 ·refine bA ?_;refine kV ?_;refine J3 ?_;refine aT (cV (hc:=λ w1 hw=>Cv (h.Eg hw) (aA L i).nd.main (hb.main i) hc)) (λ x19=>?_);refine gQ ?_;refine B6 ?_;refine aT (cV (hc:=λ w1 hw=>sD (h.Eg hw) (bV cs (aA L i).nd.main) (hb.cs _) hl)) (λ x22=>?_);refine aC (c0 (V:=.bool) (hc:=λ w1 hw=>Dv _ w1)) (λ x23 h23=>?_);refine mJ ?_
  refine aZ (λ c24=>?_) (λ c24=>?_)
  ·refine Gc ?_
   refine bK Tryz.results95 (λ w hw=>?_)
   refine⟨?_,hw.done⟩
   unfold eK mS iK oM
   simp only[cI,bU,aL.c,Nd.c]
   simp_all
   rfl
  ·refine jM ?_;refine eG [(0,[]),(1,[]),(2,[]),(3,[0]),(4,[]),(5,[]),(6,[])] ?_;refine bO ?_;refine bO ?_;refine aU ?_;refine cY (i:=3) (hq:=(cV (hc:=λ w1 hw=>sD (h.Eg hw) (bV cs (aA L i).nd.main) (hb.cs _) hl))) (h:=λ x28=>?_);refine Cs ?_;refine cY (i:=5) (hq:=(cV (hc:=λ w1 hw=>Cv (h.Eg hw) (aA L (bV cs (aA L i).nd.main)).nd.prev (hb.prev _) hc))) (h:=λ x30=>?_);refine J7 ?_;refine kT ?_;refine sX ?_
   refine aZ (λ c32=>?_) (λ c32=>?_)
   ·refine J2 ?_;refine J8 ?_
    refine bK Tryz.results95 (λ w hw=>?_)
    refine⟨?_,hw.done⟩
    unfold eK mS iK oM
    simp only[cI,bU,aL.c,Nd.c]
    simp_all
    rfl
   ·refine jM ?_;refine B6 ?_;refine aT (cV (hc:=λ w1 hw=>sD (h.Eg hw) (bV cs (aA L (bV cs (aA L i).nd.main)).nd.prev) (hb.cs _) hl)) (λ x36=>?_);refine aN (λ x9=>?_);refine J5 ?_;refine gU ?_;refine sX ?_
    refine aZ (λ c39=>?_) (λ c39=>?_)
    ·refine dL ?_;refine J3 ?_;refine gQ ?_;refine B6 ?_;refine aT (cV (hc:=λ w1 hw=>sD (h.Eg hw) _ (by exact hb.bM _) hl)) (λ x44=>?_);refine aC (c0 (V:=.bool) (hc:=λ w1 hw=>Dv _ w1)) (λ x45 h45=>?_);refine mJ ?_
     refine aZ (λ c46=>?_) (λ c46=>?_)
     ·refine Gc ?_
      refine bK Tryz.results95 (λ w hw=>?_)
      refine⟨?_,hw.done⟩
      unfold eK mS iK oM
      simp only[cI,bU,aL.c,Nd.c]
      simp_all
      rfl
     ·refine bA ?_;refine J2 ?_;refine J8 ?_
      refine bK Tryz.results95 (λ w hw=>?_)
      refine⟨?_,hw.done⟩
      unfold eK mS iK oM
      simp only[cI,bU,aL.c,Nd.c]
      simp_all
      rfl
    ·refine jM ?_;refine B6 ?_;refine aT (cV (hc:=λ w1 hw=>sD (h.Eg hw) _ (by exact hb.cs _) hl)) (λ x44=>?_);refine aC (c0 (V:=.bool) (hc:=λ w1 hw=>Dv _ w1)) (λ x45 h45=>?_);refine mJ ?_
     refine aZ (λ c46=>?_) (λ c46=>?_)
     ·refine Gc ?_
      refine bK Tryz.results95 (λ w hw=>?_)
      refine⟨?_,hw.done⟩
      unfold eK mS iK oM
      simp only[cI,bU,aL.c,Nd.c]
      simp_all
      rfl
     ·refine bA ?_;refine J2 ?_;refine J8 ?_
      refine bK Tryz.results95 (λ w hw=>?_)
      refine⟨?_,hw.done⟩
      unfold eK mS iK oM
      simp only[cI,bU,aL.c,Nd.c]
      simp_all
      rfl
end
end

/- The program's shape, part 1: nodes, main nodes. -/
section
open Go Go.RowKit Go.Ct
section
variable{L:List aL}{cs:List Int}{gen:Int}{m:Nat}{pn pc:Option Addr}{cn cc:Nat}{w:World}{D:List Nat}{b:Nat}
abbrev jV(L:List aL)(cs:List Int)(gen:Int)(m:Nat)(pn:Option Addr)(cn:Nat)(pc:Option Addr)(cc:Nat):Obj:=.cells ⟨[.slice pn L.length cn,.slice pc cs.length cc,.int .i64 gen,.int .u64 ((m:Nat):Int)]⟩ 87 (0,0)
abbrev uV(L:List aL)(cs:List Int)(pn pc:Option Addr):Fr:=(pn,gR L)::(pc,aG cs)::(some ⟨0,0,none⟩,oV iS)::aW L
theorem jQ(hs:SF w D [(b,jV L cs gen m pn cn pc cc)] (uV L cs pn pc) [] [] w){k:Nat}(hk:k<L.length)(hl:L.length<=274877906944):Calls Tryz.prog 36 #[.pointer (some ⟨b,0,none⟩),.int .i64 ((k+1:Nat):Int)] w λ e w'=>∃q:Unit,e=.returned (aA L ((k+1:Nat):Int)).nd.v/\True/\SF w D [(b,jV L cs gen m pn cn pc cc)] [] [] [] w':=by
 refine enter Tryz.func36 Tryz.ntmps36 rfl rfl hs ?_
 simp only[cO]
 refine J0 ?_;refine aN (λ x4=>?_);refine aI ?_;refine Fv ?_;refine J3 ?_;refine aB ?_;refine pF ?_;refine Tl ?_;refine J5 ?_
 refine bK Tryz.results36 (λ w hw=>?_)
 exact⟨(),by rw[fN (by omega)];rfl,trivial,hw.aS⟩
def MnO(L:List aL)(cs:List Int)(v:Nd)(r:Nat):Prop:=∃c k p:Nat,v.main=((c+1:Nat):Int)/\c<cs.length/\cs.getD c 0=((k+1:Nat):Int)/\k<L.length/\(aA L ((k+1:Nat):Int)).nd.prev=((p+1:Nat):Int)/\p<cs.length /\
 ((cs.getD p 0=0/\r=k)∨∃q:Nat,cs.getD p 0=((q+1:Nat):Int)/\q<L.length/\(((aA L ((q+1:Nat):Int)).nd.kind=7/\(aA L ((q+1:Nat):Int)).nd.bM=((r+1:Nat):Int))∨((aA L ((q+1:Nat):Int)).nd.kind≠7/\r=q)))
set_option maxRecDepth 100000 in
theorem yE(hs:SF w D [(b,jV L cs gen m pn cn pc cc)] (uV L cs pn pc) [] [] w){v:Nd}{r:Nat}(ho:MnO L cs v r)(hr:r<L.length)(hl:L.length<=274877906944)(hc:cs.length<=274877906944):Calls Tryz.prog 38 #[.pointer (some ⟨b,0,none⟩),v.v] w λ e w'=>∃q:Unit,e=.returned (aA L ((r+1:Nat):Int)).nd.v/\True/\SF w D [(b,jV L cs gen m pn cn pc cc)] [] [] [] w':=by
  obtain⟨c,k,p,hv,hc1,e1,hk,e2,hp,h3⟩:=ho
  refine enter Tryz.func38 Tryz.ntmps38 rfl rfl hs ?_
  simp only[cO]
  simp only[Nd.v,Nd.cells]
  refine J0 ?_;refine bQ (λ x3=>?_);refine aN (λ x4=>?_);refine Sx ?_
  refine dW [5,8,9,10,11,12,13,14,15,16,17,18,19] (λ j:Nat=>[(5,.pointer (some ⟨j,0,none⟩))]) (λ _=>True) (λ j=>[(j,.cells ⟨(aA L ((k+1:Nat):Int)).nd.cells⟩ 77 (0,0)),(x4,.cells ⟨Nd.zero.cells⟩ 77 (0,0)),(x3,.cells ⟨v.cells⟩ 77 (0,0)),(b,jV L cs gen m pn cn pc cc)]) (λ _=>[]) (λ _=>[]) (by decide) (λ _=>by exact rfl) ?_ (λ j f hx=>?_)
  · refine gK (.one 0 [] (.one 1 [] (.one 2 [] (.one 3 [] (.one 4 [] (.one 5 [] (.one 6 [] (.one 7 [] (.one 8 [] (.one 9 [] (.one 10 [] (.two 11 [] (.one 12 [5,7,9,10] (.one 13 [] .nil)) 0 [] (.two 12 [5,7,9,10] (.one 11 [] (.one 13 [] .nil)) 0 [] .nil))))))))))))) ?_
    refine aU ?_;refine uB ?_;refine mF ?_;refine tX ?_;refine bJ (i:=9) (hq:=(cA (k:=c) rf (by rw[show((c:Nat):Int)=v.main-1 by omega];exact rfl) fC wn (.bM (.tail .head)) hc1 hc1)) (h:=?_);refine bJ (i:=10) (hq:=(cW (lst:=cs) (q:=c) rf wn (.bM (.tail .head)) hc1)) (h:=?_)
    refine gW (E:=[11,12]) (by decide +kernel) ((.cons ?_ (.cons ?_ .nil)))
    · refine kP (i:=11) (hq:=(cM (V:=λ _:Unit=>(aA L ((k+1:Nat):Int)).nd.v) (hs:=[(b,jV L cs gen m pn cn pc cc)]) (os:=[]) (hs':=λ _=>[(b,jV L cs gen m pn cn pc cc)]) (os':=λ _=>[]) (Fc:=λ _=>[]) (A0:=uV L cs pn pc) (hA:=bP.of λ f hf=>.inr (.inl hf)) (hc:=λ w1 hw=>by rw[e1];exact jQ hw hk hl))) (h:=λ x19 h19=>?_)
      refine fQ (hfire:=(λ _=>by((repeat (first|exact aM.nil|refine aM.cons (by first|exact fA|exact eR (hq:=cA (k:=c) rf (by rw[show((c:Nat):Int)=v.main-1 by omega];exact rfl) fC wn (.bM (.tail .head)) hc1 hc1)) ?_));done))) (h:=λ x5=>?_);refine zO ?_
      refine eN (x5) ?_ (hw1:=λ w hw=>hw)
      · trivial
    · refine gF (i:=12) (hfire:=(λ _=>by((repeat (first|exact aM.nil|refine aM.cons (by first|exact fA|exact eR (hq:=cA (k:=c) rf (by rw[show((c:Nat):Int)=v.main-1 by omega];exact rfl) fC wn (.bM (.tail .head)) hc1 hc1)) ?_));done))) (h:=λ x5=>?_)
      refine bC (i:=11) (hq:=(cM (V:=λ _:Unit=>(aA L ((k+1:Nat):Int)).nd.v) (hs:=[(b,jV L cs gen m pn cn pc cc)]) (os:=[]) (hs':=λ _=>[(b,jV L cs gen m pn cn pc cc)]) (os':=λ _=>[]) (Fc:=λ _=>[]) (A0:=uV L cs pn pc) (hA:=bP.of λ f hf=>.inr (.inl hf)) (hc:=λ w1 hw=>by rw[e1];exact jQ hw hk hl))) (h:=λ x19 h19=>?_);refine zO ?_
      refine eN (x5) ?_ (hw1:=λ w hw=>hw)
      · trivial
  dsimp only[fY,List.map,List.cons_append,List.nil_append]
  refine aR ?_;refine fJ [0,1,2,3,4,5,6,7,8,9,10] ?_;refine uB ?_;refine mF ?_;refine tX ?_;refine bJ (i:=8) (hq:=(cA (k:=p) rf (by rw[show((p:Nat):Int)=(aA L ((k+1:Nat):Int)).nd.prev-1 by omega];exact rfl) fC wn (.bM (.tail .head)) hp hp)) (h:=?_);refine bJ (i:=9) (hq:=(cW (lst:=cs) (q:=p) rf wn (.bM (.tail .head)) hp)) (h:=?_);refine J7 ?_;refine kT ?_;refine sX ?_
  refine aZ (λ c31=>?_) (λ c31=>?_)
  · try (exfalso;omega)
    have hrk:r=k:=by
     rcases h3 with⟨_,h⟩|⟨q,h,_⟩
     · exact h
     · omega
    refine Ka9 ?_
    refine bK Tryz.results38 (λ w hw=>?_)
    first
    | (subst hrk;exact⟨(),rfl,trivial,hw.aS⟩)
    | (subst hrq;exact⟨(),rfl,trivial,hw.aS⟩)
    | exact⟨(),rfl,trivial,hw.aS⟩
  · try (exfalso;omega)
    obtain⟨q,hq,hql,h4⟩:=h3.resolve_left (λ h=>c31 h.1)
    refine zS ?_;refine aC (cM (V:=λ _:Unit=>(aA L ((q+1:Nat):Int)).nd.v) (hs:=[(b,jV L cs gen m pn cn pc cc)]) (os:=[]) (hs':=λ _=>[(b,jV L cs gen m pn cn pc cc)]) (os':=λ _=>[]) (Fc:=λ _=>[]) (A0:=uV L cs pn pc) (hA:=bP.of λ f hf=>.inr (.inl hf)) (hc:=λ w1 hw=>by rw[hq];exact jQ hw hql hl)) (λ x35 h35=>?_);refine aN (λ x7=>?_);refine J5 ?_;refine Az ?_;refine sX ?_
    refine aZ (λ c38=>?_) (λ c38=>?_)
    · try (exfalso;omega)
      have hold:=(h4.resolve_right (λ h=>h.1 c38)).2
      refine J2 ?_;refine J3 ?_;refine aC (cM (V:=λ _:Unit=>(aA L ((r+1:Nat):Int)).nd.v) (hs:=[(b,jV L cs gen m pn cn pc cc)]) (os:=[]) (hs':=λ _=>[(b,jV L cs gen m pn cn pc cc)]) (os':=λ _=>[]) (Fc:=λ _=>[]) (A0:=uV L cs pn pc) (hA:=bP.of λ f hf=>.inr (.inl hf)) (hc:=λ w1 hw=>by rw[hold];exact jQ hw hr hl)) (λ x42 h42=>?_);refine J5 ?_
      refine bK Tryz.results38 (λ w hw=>?_)
      first
      | (subst hrk;exact⟨(),rfl,trivial,hw.aS⟩)
      | (subst hrq;exact⟨(),rfl,trivial,hw.aS⟩)
      | exact⟨(),rfl,trivial,hw.aS⟩
    · try (exfalso;omega)
      have hrq:=(h4.resolve_left (λ h=>c38 h.1)).2
      refine bA ?_;refine Ka9 ?_
      refine bK Tryz.results38 (λ w hw=>?_)
      first
      | (subst hrk;exact⟨(),rfl,trivial,hw.aS⟩)
      | (subst hrq;exact⟨(),rfl,trivial,hw.aS⟩)
      | exact⟨(),rfl,trivial,hw.aS⟩
end
end

end Go.Proofs.YtadnboagdhcedaaGreatDoor

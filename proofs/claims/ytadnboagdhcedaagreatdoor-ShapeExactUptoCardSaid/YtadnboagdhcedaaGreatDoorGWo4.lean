/- Worlds: the call of an operation. -/
import Derived.Test.YtadnboagdhcedaaGreatDoorGEx24
import Derived.Test.YtadnboagdhcedaaGreatDoorGBits
import Derived.Test.YtadnboagdhcedaaGreatDoorGEx18
import Derived.Test.YtadnboagdhcedaaGreatDoorGHs
import Derived.Test.YtadnboagdhcedaaGreatDoorGSh22

set_option linter.unusedSimpArgs false
set_option linter.unusedVariables false
namespace Go.Proofs.YtadnboagdhcedaaGreatDoor
section
open Go Go.RowKit Go.Ct
theorem z0{ts:List iS}{j:Nat}(h:j<ts.length):((sQ ts).drop (2*j)).take 2=[.int .i64 (ts.getD j ⟨0,false⟩).root,.bool (ts.getD j ⟨0,false⟩).ro]:=by
 induction ts generalizing j with
 | nil=>simp at h
 | cons t ts ih =>
  cases j with
  | zero=>simp[sQ]
  | succ j =>
   have:=ih (j:=j) (by simpa using h);rw[show 2*(j+1)=2*j+1+1 by omega];simpa[sQ] using this
section
variable{P:Program}{S:List (Nat×Value)}{d:Nat}{ty t t' e:TypeId}{pos:String}{af:Array Edge}{gd:Option (Nat×Bool)}{x y:Operand}{w0 w:World}{M:List Nat}{H:List (Nat×Obj)}{A F:Fr}{O:List Ow}{a:Option Addr}
theorem Sx{ts:List iS}{q:Nat}(hx:ev S x=.pointer (some ⟨cZ a,eG a+2*q,none⟩))(ht:jK P t 2=true)(hf:pS A F O a (sQ ts))(hq:q<ts.length) :
  aM P S (SF w0 M H A F O) ⟨some d,.load t x,ty,pos,af,gd⟩ (.agg ⟨[.int .i64 (ts.getD q ⟨0,false⟩).root,.bool (ts.getD q ⟨0,false⟩).ro]⟩):=j1 hx ht hf (z0 hq) rfl
end
structure Gs where
 key:ByteArray
 val:Int
 exp:Int
 Is:Int
 only:Bool
 t:iS
 pos:Nat
def Gs.cl(q:Gs)(kind mask:Int):Cl:=⟨kind,q.t,0,0,0,0,0,mask,q.key,q.val,q.exp,q.Is,q.only⟩
def wrK(kind:Int):Prop:=kind=8∨kind=9∨kind=12∨kind=4
structure Rl(kind:Int)(ts:List iS)(q:Gs):Prop where
 ky:q.key∈mA
 mem:q.t∈ts
 ro:wrK kind->q.t.ro=false
theorem pQ{v:Nat}(h:v<8):mA.getD v ⟨#[]⟩∈mA:=by
 have:v=0∨v=1∨v=2∨v=3∨v=4∨v=5∨v=6∨v=7:=by omega
 rcases this with rfl|rfl|rfl|rfl|rfl|rfl|rfl|rfl<;>simp[mA]
theorem rS{ts:List iS}{j:Nat}(h:j<ts.length):ts.getD j ⟨0,false⟩∈ts:=by
 rw[gF,List.getElem?_eq_getElem h];exact List.getElem_mem h
section
variable{P:Program}{S:List (Nat×Value)}{G:World->Prop}{d:Nat}{ty t t':TypeId}{pos:String}{af:Array Edge}{gd:Option (Nat×Bool)}{x y:Operand}
theorem yr{a b:Nat}(hx:ev S x=.int .i64 ((a:Nat):Int))(hy:ev S y=.int .i64 ((b:Nat):Int))(h0:b≠0):aM P S G ⟨some d,.binOp .rem t x y t',ty,pos,af,gd⟩ (.int .i64 ((a%b:Nat):Int)):=by
 have:=fm (P:=P) (G:=G) (d:=d) (ty:=ty) (pos:=pos) (af:=af) (gd:=gd) (t:=t) (t':=t') hx hy (by omega);rwa [Int.tmod_eq_emod_of_nonneg (by omega),<- Int.natCast_emod] at this
end
section
variable{bw bm tb:Nat}{D:List Nat}{A:Fr}{w:World}{mask:Int}{ts:List iS}{pt pe:Option Addr}{kt ke ne:Nat}{l:List Int}{a:Option Addr}{c p:Nat}
set_option maxRecDepth 100000 in
set_option maxHeartbeats 2000000 in
theorem ot(kind:Int)(hkd:7<=kind/\kind<=12)(hl:l.length<=17592186043904)(h0:0<ts.length)(hts:ts.length<=1000)(hr0:(ts.getD 0 ⟨0,false⟩).ro=false)
  (hs:SF w D [(tb,T4 a l c p),(bw,oG bm mask pt ts.length kt pe ne ke)] [(a,aH l)] [] [⟨pt,sQ ts,kt,29,2⟩] w) :
  Calls Tryz.prog 27 #[.pointer (some ⟨bw,0,none⟩),.int .i64 kind,.pointer (some ⟨tb,0,none⟩)] w λ e w'=>∃q:Gs,e=.returned (.agg ⟨Rt (q.cl kind mask)⟩)/\Rl kind ts q /\
   SF w D [(tb,T4 a l c q.pos),(bw,oG bm mask pt ts.length kt pe ne ke)] [] [] [⟨pt,sQ ts,kt,29,2⟩] w':=by
 refine enter Tryz.func27 Tryz.ntmps27 rfl rfl hs ?_;simp only[cP]
 refine J0 ?_;refine aT (λ x6=>?_);refine Vy ?_;refine eN [7,12,13,14,15,16,17,18,19,20,21,22,23,24,25,26,27,28,29,30] (λ y:Nat×Gs=>[(7,.pointer (some ⟨y.1,0,none⟩))]) (λ y=>y.2.key∈mA) (λ y=>[(y.1,.cells ⟨Rt (y.2.cl kind mask)⟩ 70 (0,0)),(x6,.cells ⟨Rt ⟨0,⟨0,false⟩,0,0,0,0,0,0,⟨#[]⟩,0,0,0,false⟩⟩ 70 (0,0)),(tb,T4 a l c y.2.pos),(bw,oG bm mask pt ts.length kt pe ne ke)]) (λ _=>[]) (λ _=>[⟨pt,sQ ts,kt,29,2⟩]) (by decide) (λ _=>by exact rfl) ?_ (λ y f hx=>?_)
 ·refine fY (.one 0 [] (.one 1 [] (.one 2 [] (.one 3 [] (.one 4 [] (.one 5 [] (.one 7 [] (.one 10 [] (.one 13 [] (.one 15 [] (.two 6 [4] (.two 8 [4] (.one 9 [] (.two 11 [4] (.one 12 [] (.two 14 [4] (.two 16 [4] (.one 17 [] (.one 18 [] (.one 19 [4] (.one 20 [] .nil)))) 0 [] (.two 19 [4] (.one 16 [4] (.one 17 [] (.one 18 [] (.one 20 [] .nil)))) 0 [] .nil)) 0 [] (.two 19 [4] (.one 14 [4] (.one 16 [4] (.one 17 [] (.one 18 [] (.one 20 [] .nil))))) 0 [] .nil))) 0 [] (.two 19 [4] (.one 11 [4] (.one 12 [] (.one 14 [4] (.one 16 [4] (.one 17 [] (.one 18 [] (.one 20 [] .nil))))))) 0 [] .nil))) 0 [] (.two 19 [4] (.one 8 [4] (.one 9 [] (.one 11 [4] (.one 12 [] (.one 14 [4] (.one 16 [4] (.one 17 [] (.one 18 [] (.one 20 [] .nil))))))))) 0 [] .nil)) 0 [] (.two 19 [4] (.one 6 [4] (.one 8 [4] (.one 9 [] (.one 11 [4] (.one 12 [] (.one 14 [4] (.one 16 [4] (.one 17 [] (.one 18 [] (.one 20 [] .nil)))))))))) 0 [] .nil)))))))))))) ?_;refine J67 ?_;refine iJ ?_;refine iJ ?_;refine aL ?_;refine fV (E:=[6,19]) (by decide +kernel) ((.cons ?_ (.cons ?_ .nil)))
  ·refine mI (i:=6) (hq:=(zS (hc:=λ w1 hw=>um (hw.tape dI fin hl)))) (h:=λ x18 h18=>?_);refine fV (E:=[8,19]) (by decide +kernel) ((.cons ?_ (.cons ?_ .nil)))
   ·refine mI (i:=8) (hq:=(zS (hc:=λ w1 hw=>fW 6 (hw.tape dI fin hl) (by decide) (by decide)))) (h:=λ x20 h20=>?_);refine lY ?_;refine fV (E:=[11,19]) (by decide +kernel) ((.cons ?_ (.cons ?_ .nil)))
    ·refine mI (i:=11) (hq:=(zS (hc:=λ w1 hw=>fW 6 (hw.tape dI fin hl) (by decide) (by decide)))) (h:=λ x23 h23=>?_);refine lY ?_;refine fV (E:=[14,19]) (by decide +kernel) ((.cons ?_ (.cons ?_ .nil)))
     ·refine mI (i:=14) (hq:=(zS (hc:=λ w1 hw=>fW 4 (hw.tape dI fin hl) (by decide) (by decide)))) (h:=λ x26 h26=>?_);refine fV (E:=[16,19]) (by decide +kernel) ((.cons ?_ (.cons ?_ .nil)))
      ·refine mI (i:=16) (hq:=(zS (hc:=λ w1 hw=>fW 3 (hw.tape dI fin hl) (by decide) (by decide)))) (h:=λ x28 h28=>?_);refine jQ ?_;refine gQ ?_;refine gG (h:=λ x7=>?_);refine K0h ?_
       ·exact pQ h18.1
      ·refine gW (i:=19) (h:=λ x7=>?_);refine bL (i:=16) (hq:=(zS (hc:=λ w1 hw=>fW 3 (hw.tape dI fin hl) (by decide) (by decide)))) (h:=λ x28 h28=>?_);refine jQ ?_;refine gQ ?_;refine K0h ?_
       ·exact pQ h18.1
     ·refine gW (i:=19) (h:=λ x7=>?_);refine bL (i:=14) (hq:=(zS (hc:=λ w1 hw=>fW 4 (hw.tape dI fin hl) (by decide) (by decide)))) (h:=λ x26 h26=>?_);refine bL (i:=16) (hq:=(zS (hc:=λ w1 hw=>fW 3 (hw.tape dI fin hl) (by decide) (by decide)))) (h:=λ x28 h28=>?_);refine jQ ?_;refine gQ ?_;refine K0h ?_
      ·exact pQ h18.1
    ·refine gW (i:=19) (h:=λ x7=>?_);refine bL (i:=11) (hq:=(zS (hc:=λ w1 hw=>fW 6 (hw.tape dI fin hl) (by decide) (by decide)))) (h:=λ x23 h23=>?_);refine lY ?_;refine bL (i:=14) (hq:=(zS (hc:=λ w1 hw=>fW 4 (hw.tape dI fin hl) (by decide) (by decide)))) (h:=λ x26 h26=>?_);refine bL (i:=16) (hq:=(zS (hc:=λ w1 hw=>fW 3 (hw.tape dI fin hl) (by decide) (by decide)))) (h:=λ x28 h28=>?_);refine jQ ?_;refine gQ ?_;refine K0h ?_
     ·exact pQ h18.1
   ·refine gW (i:=19) (h:=λ x7=>?_);refine bL (i:=8) (hq:=(zS (hc:=λ w1 hw=>fW 6 (hw.tape dI fin hl) (by decide) (by decide)))) (h:=λ x20 h20=>?_);refine lY ?_;refine bL (i:=11) (hq:=(zS (hc:=λ w1 hw=>fW 6 (hw.tape dI fin hl) (by decide) (by decide)))) (h:=λ x23 h23=>?_);refine lY ?_;refine bL (i:=14) (hq:=(zS (hc:=λ w1 hw=>fW 4 (hw.tape dI fin hl) (by decide) (by decide)))) (h:=λ x26 h26=>?_);refine bL (i:=16) (hq:=(zS (hc:=λ w1 hw=>fW 3 (hw.tape dI fin hl) (by decide) (by decide)))) (h:=λ x28 h28=>?_);refine jQ ?_;refine gQ ?_;refine K0h ?_
    ·exact pQ h18.1
  ·refine gW (i:=19) (h:=λ x7=>?_);refine bL (i:=6) (hq:=(zS (hc:=λ w1 hw=>um (hw.tape dI fin hl)))) (h:=λ x18 h18=>?_);refine bL (i:=8) (hq:=(zS (hc:=λ w1 hw=>fW 6 (hw.tape dI fin hl) (by decide) (by decide)))) (h:=λ x20 h20=>?_);refine lY ?_;refine bL (i:=11) (hq:=(zS (hc:=λ w1 hw=>fW 6 (hw.tape dI fin hl) (by decide) (by decide)))) (h:=λ x23 h23=>?_);refine lY ?_;refine bL (i:=14) (hq:=(zS (hc:=λ w1 hw=>fW 4 (hw.tape dI fin hl) (by decide) (by decide)))) (h:=λ x26 h26=>?_);refine bL (i:=16) (hq:=(zS (hc:=λ w1 hw=>fW 3 (hw.tape dI fin hl) (by decide) (by decide)))) (h:=λ x28 h28=>?_);refine jQ ?_;refine gQ ?_;refine K0h ?_
   ·exact pQ h18.1
 refine K0a ?_;have hy:=hx;refine J2 ?_;refine lC ?_;refine aB ?_;(refine eM 33 (λ g33=>?_) (λ g33=>?_)<;>(try (exfalso;omega))<;>((refine Ka4 ?_)));((refine aF ?_;refine lC ?_));refine cI ?_;refine Ka6 ?_;refine lC ?_;refine aB ?_;(refine eM 39 (λ g39=>?_) (λ g39=>?_)<;>refine Ka0 ?_);all_goals ((first|refine aJ ?_|(refine aF ?_;refine lC ?_));refine Kc4 ?_)
 all_goals (first|refine aJ ?_|(refine eM 43 (λ g43=>?_) (λ g43=>?_)<;>refine Ka0 ?_))
 all_goals ((first|refine aJ ?_|(refine aF ?_;refine lC ?_));refine Kc4 ?_)
 all_goals (first|refine aJ ?_|(refine eM 47 (λ g47=>?_) (λ g47=>?_)<;>refine Ka0 ?_))
 all_goals ((first|refine aJ ?_|(refine aF ?_;refine lC ?_));refine cI ?_;refine vE ?_;refine eR ?_;refine I3 ?_;refine aD (zS (hc:=λ w1 hw=>fW ts.length (hw.tape dI fin hl) (by omega) (by omega))) (λ x57 h57=>?_);refine gX ?_;refine zR ?_)
 all_goals
 refine kK [11,58,59,60,61,62,63,64,65,66,67,68,69,70,71,72,73,74,75,76,77,78,79,80,81,82,83,84,85,86,87,88,89,90,91,92,93,94,95,96,97,98,99,100] (λ z:Nat×iS=>[(11,.int .i64 ((z.1:Nat):Int))]) (λ z=>z.1<=ts.length) (λ z=>[(y.1,.cells ⟨Rt (({y.2 with t:=z.2}:Gs).cl kind mask)⟩ 70 (0,0)),(x6,.cells ⟨Rt ⟨0,⟨0,false⟩,0,0,0,0,0,0,⟨#[]⟩,0,0,0,false⟩⟩ 70 (0,0)),(tb,T4 a l c (oS l y.2.pos)),(bw,oG bm mask pt ts.length kt pe ne ke)]) (λ _=>_) (λ _=>_) (λ z=>ts.length-z.1) ((0,y.2.t)) (Nat.zero_le _) (λ z f hx=>?_);refine K0a ?_;all_goals (refine B8 ?_;refine eR ?_;refine I3 ?_;refine rJ ?_)
 all_goals
  refine bA (λ c64=>?_) (λ c64=>?_)
  ·all_goals try (exfalso;omega)
   all_goals (refine mZ ?_;refine aV ?_;refine gP [0,1,2,3,4,5,6,7,8,9,10,11,12,13,14,15,16] ?_;refine mz ?_;refine iJ ?_;refine cS (i:=6) (hq:=(lT (m:=x57) (n:=z.1) rf rf (by omega))) (h:=?_);refine mz ?_;refine iW ?_;refine cS (i:=12) (hq:=(yr (a:=x57+z.1) (b:=ts.length) rf rf (by omega))) (h:=?_);refine bJ (i:=13) (hq:=(ie (cs:=sQ ts) (k:=(x57+z.1)%ts.length) rf rf eC dR fin (Nat.mod_lt _ h0) (by rw[qB];have:=Nat.mod_lt (x57+z.1) h0;omega))) (h:=?_);refine bJ (i:=14) (hq:=(Sx (ts:=ts) (q:=(x57+z.1)%ts.length) rf dR fin (Nat.mod_lt _ h0))) (h:=?_);refine aN ?_;refine kW (i:=16) (hq:=(jI λ _=>rB (off:=1) (vs:=[.int .i64 (ts.getD ((x57+z.1)%ts.length) ⟨0,false⟩).root,.bool (ts.getD ((x57+z.1)%ts.length) ⟨0,false⟩).ro]) rf dI rf rfl dR (Nat.le_of_ble_eq_true rfl) rf jX)) (h:=λ _=>?_);refine dJ ?_;refine J0 ?_;refine Kc5 ?_;refine aB ?_)
   all_goals ((refine eM 86 (λ g86=>?_) (λ g86=>?_)<;>refine Ka0 ?_))
   all_goals ((first|refine aJ ?_|(refine aF ?_;refine zA ?_));refine Kc4 ?_)
   all_goals (first|(refine aF ?_;refine aC ?_)|(refine eM 90 (λ g90=>?_) (λ g90=>?_)<;>(try (exfalso;omega))<;>(refine aJ ?_)))
   all_goals (refine Ka1 ?_;refine Ka2 ?_;(first|refine aJ ?_|(refine aF ?_;refine zA ?_));refine Ka0 ?_)
   all_goals (first|refine Ca ?_|(refine eM 95 (λ g95=>?_) (λ g95=>?_)<;>refine Ka0 ?_))
   all_goals ((first|refine aJ ?_|refine Ca ?_|(refine aF ?_;refine zA ?_));(first|refine aJ ?_|(refine aF ?_;refine cI ?_));refine cI ?_;refine aK ?_)
   all_goals
   refine bA (λ c99=>?_) (λ c99=>?_)
   ·try exact nv c99
    all_goals (refine Kb5 ?_)
    all_goals
     refine bK Tryz.results27 (λ w hw=>?_);exact⟨{y.2 with t:=ts.getD ((x57+z.1)%ts.length) ⟨0,false⟩,pos:=oS l y.2.pos},rfl,⟨hy,rS (Nat.mod_lt _ h0),λ hk=>by first|(simp_all;done)|(unfold wrK at hk;exfalso;omega)⟩,hw.aQ⟩
   ·try exact nv c99
    all_goals try (exfalso;omega)
    all_goals (refine Kc1 ?_)
    all_goals
     refine gT ((z.1+1,ts.getD ((x57+z.1)%ts.length) ⟨0,false⟩)) ?_
     ·omega
  ·all_goals try (exfalso;omega)
   all_goals (refine bM rfl ?_;refine oR ?_;refine aE (ie (cs:=sQ ts) (k:=0) rf rf eC dR fin h0 (by rw[qB];omega)) rfl ?_;refine aE (Sx (ts:=ts) (q:=0) rf dR fin h0) rfl ?_;refine aC ?_;refine eJ (jI λ _=>rB (off:=1) (vs:=[.int .i64 (ts.getD 0 ⟨0,false⟩).root,.bool (ts.getD 0 ⟨0,false⟩).ro]) rf dI rf rfl dR (Nat.le_of_ble_eq_true rfl) rf jX) (λ _=>?_);refine aK ?_;refine Kb5 ?_)
   all_goals
   refine bK Tryz.results27 (λ w hw=>?_);exact⟨{y.2 with t:=ts.getD 0 ⟨0,false⟩,pos:=oS l y.2.pos},rfl,⟨hy,rS h0,λ _=>hr0⟩,hw.aQ⟩
end
end

/- Worlds keep the labels. -/
section
open Go Go.RowKit Go.Ct
structure WI(H:ByteArray->Nat)(s:Mm)(ts:List iS)(σ:Kw):Prop where
 mm:σ.mm=s
 inv:Inv H σ
 ts:∀t∈ts,dX σ t
structure WJ(H:ByteArray->Nat)(s:Mm)(ts:List iS)(rs:List Tr)(σ:Kw):Prop where
 mm:σ.mm=s
 inv:Inv H σ
 ts:∀t∈ts,dX σ t
 rs:∀t∈rs,Fe t=true/\WT H Q0 t σ
theorem WR.aC3{H:ByteArray->Nat}{m:Nat}{s:Mm}{ts:List iS}{rs:List Tr}(h:WR H m s ts rs):∃σ,WJ H s ts rs σ:=by
 induction h with
 | new =>
  obtain⟨υ,l,i,e,hq⟩:=WT.rc Y0 rfl (Va H) (Zq (Va H))
  refine⟨υ,e,i,λ t ht=>?_,λ t ht=>nomatch ht⟩
  rw[List.mem_singleton.1 ht]
  exact hq (by decide)
 | start _ hk hr ha ih =>
  obtain⟨σ,hi⟩:=ih
  obtain⟨υ,l,i,e,hw⟩:=WT.rc hr hi.mm hi.inv (o9 hi.inv (hk σ hi.mm hi.inv hi.ts) _)
  refine⟨υ,e,i,λ t ht=>(hi.ts t ht).up l,λ t ht=>?_⟩
  rcases List.mem_cons.1 ht with rfl|ht
  ·exact⟨ha,hw⟩
  ·exact⟨(hi.rs t ht).1,WT.mono Xa (hi.rs t ht).1 hi.inv i l (hi.rs t ht).2⟩
 | step _ hr ha ih =>
  obtain⟨σ,hi⟩:=ih
  obtain⟨υ,l,i,e,hw⟩:=WT.rc hr hi.mm hi.inv (hi.rs _ (List.mem_cons_self ..)).2
  refine⟨υ,e,i,λ t ht=>(hi.ts t ht).up l,λ t ht=>?_⟩
  rcases List.mem_cons.1 ht with rfl|ht
  ·exact⟨ha,hw⟩
  ·have:=hi.rs t (List.mem_cons_of_mem _ ht);exact⟨this.1,WT.mono Xa this.1 hi.inv i l this.2⟩
 | perm _ hp ih =>
  obtain⟨σ,hi⟩:=ih
  exact⟨σ,hi.mm,hi.inv,hi.ts,λ t ht=>hi.rs t (hp.mem_iff.2 ht)⟩
 | drop _ ih =>
  obtain⟨σ,hi⟩:=ih
  exact⟨σ,hi.mm,hi.inv,hi.ts,λ t ht=>hi.rs t (List.mem_cons_of_mem _ ht)⟩
 | add _ h0 ih =>
  obtain⟨σ,hi⟩:=ih
  refine⟨σ,hi.mm,hi.inv,λ t ht=>?_,hi.rs⟩
  rcases List.mem_append.1 ht with ht|ht
  ·exact hi.ts t ht
  ·rw[List.mem_singleton.1 ht]
   exact(hi.rs _ (List.mem_cons_self ..)).2 h0
theorem WR.inv{H:ByteArray->Nat}{m:Nat}{s:Mm}{ts:List iS}{rs:List Tr}(h:WR H m s ts rs):∃σ,WI H s ts σ:=by
 obtain⟨σ,w⟩:=h.aC3
 exact⟨σ,w.mm,w.inv,w.ts⟩
end

/- Worlds: the state of a world; an operation is run in it, an execution makes a step. -/
end Go.Proofs.YtadnboagdhcedaaGreatDoor
namespace Go.Ct
section
open Go Go.RowKit
section
variable{α:Type}
theorem D3.pre:∀(es r:List α),D3 (es++r) (List.replicate es.length 0) es r
 | [],r=>.nil
 | a::es,r=>.cons .head (D3.pre es r)
end
theorem Mw{P:Program}{f:FuncId}{vs:Array Value}{X:Type}{V:X->Value}{φ:X->Prop}{w0 w:World}{M:List Nat}{H hs H':List (Nat×Obj)}{A A0 F:Fr}{O os O':List Ow}{hs':X->List (Nat×Obj)}{os':X->List Ow}{Fc:X->Fr}
  (h:SF w0 M H A F O w) (pH:H.Perm (hs++H')) (pO:O.Perm (os++O')) (hA:bU A F O' A0)
  (hc:SF w (Ks hs os) hs A0 [] os w->Calls P f vs w λ e w'=>∃x,e=.returned (V x)/\φ x/\SF w (Ks hs os) (hs' x) [] (Fc x) (os' x) w') :
  Calls P f vs w λ e w'=>∃x,e=.returned (V x)/\φ x/\SF w0 M (hs' x++H') A (Fc x++F) (os' x++O') w':=by
 have h1:=h.perm pH.symm pO.symm;refine(hc (h1.E6 (D3.pre hs H') (D3.pre os O') hA)).mono λ e w' ⟨x,e1,hx,hw⟩=>⟨x,e1,hx,?_⟩
 have kperm:∀(a c:List (Nat×Obj)) (b d:List Ow),(Ks (a++c) (b++d)).Perm (Ks a b++Ks c d):=λ a c b d=>by
  unfold Ks
  rw[List.map_append,List.flatMap_append]
  simp only[List.append_assoc]
  refine List.Perm.append_left _ ?_;rw[<- List.append_assoc,<- List.append_assoc];exact List.Perm.append_right _ List.perm_append_comm
 have nd0:=(kperm hs H' os O').nodup_iff.1 h1.dis;have disj:∀b∈Ks hs os,b∉Ks H' O':=λ b hb hm=>(List.nodup_append.1 nd0).2.2 b hb b hm rfl
 exact h1.iy (D:=Ks hs os) (Hm:=[]) (Hc:=hs' x) (H1:=H') (Fc:=Fc x) (Om:=[]) (Oc:=os' x) (O1:=O') hw (λ b hb=>(kperm hs H' os O').mem_iff.2 (List.mem_append_left _ hb))
  (λ p hpm=>.inr ⟨List.mem_append_right _ hpm,λ hm=>disj _ hm (eW.2 (.inl ⟨p,hpm,rfl⟩))⟩)
  (λ o ho=>.inr ⟨List.mem_append_right _ ho,λ b hb hm=>disj _ hm (eW.2 (.inr ⟨o,ho,hb⟩))⟩)
  (List.nodup_append.1 nd0).2.1
end
end Go.Ct
namespace Go.Proofs.YtadnboagdhcedaaGreatDoor
section
open Go Go.RowKit Go.Ct
structure EX where
 b:Nat
 k:Cl
 x:XS
 dn:Bool
 rs:Rs
 R:Tr
structure Wd where
 z:XS
 ts:List iS
 pt:Option Addr
 kt:Nat
 ex:List EX
 pe:Option Addr
 ke:Nat
def Dk(bm:Nat)(l:List EX):List (Nat×Obj):=l.map λ e=>(e.b,xO e.k bm e.x e.dn e.rs)
def Av(l:List EX):List Ow:=l.flatMap λ e=>[⟨e.x.pg,aH e.x.got,e.x.kg,62,1⟩,⟨e.x.pm,aH e.x.made,e.x.km,62,1⟩,⟨e.x.pl,aH e.x.cel,e.x.kl,27,1⟩,⟨e.x.pe,aH e.x.gns,e.x.ke,3,1⟩]
def rE(l:List EX):List Nat:=l.map EX.b
abbrev wH(m bw bm:Nat)(W:Wd):List (Nat×Obj):=(bw,oG bm (m:Int) W.pt W.ts.length W.kt W.pe (rE W.ex).length W.ke)::(bm,xM W.z)::Dk bm W.ex
abbrev wO(W:Wd):List Ow:=⟨W.pt,sQ W.ts,W.kt,29,2⟩::⟨W.pe,zN (rE W.ex),W.ke,73,1⟩::⟨W.z.pn,fX W.z.L,W.z.cn,77,14⟩::⟨W.z.pc,aH W.z.cs,W.z.cc,62,1⟩::Av W.ex
def XS.wm(x z:XS):XS:={x with L:=z.L,cs:=z.cs,gen:=z.gen,acc:=z.acc,pn:=z.pn,cn:=z.cn,pc:=z.pc,cc:=z.cc}
theorem xx{x z z':XS}{N:List aI}(h:(XS.wm x z).Ok)(h':z'.Ok)(e:z'.L=z.L++N):(XS.wm x z').Ok:=by
 have hl:z.L.length<=z'.L.length:=by rw[e,List.length_append];omega
 exact⟨h'.fit,h'.nd,h'.cs,λ v hv=>by have:=h.got v hv;show v<=z'.L.length;have h2:v<=z.L.length:=this;omega,λ v hv=>by have:=h.made v hv;show v<=z'.L.length;have h2:v<=z.L.length:=this;omega,h'.two,h'.lL,h'.lc,h.lg,h.la,h.lm,h.lk,h.le,h.fr,h'.ys,h'.gen0,h.ms,h.m1⟩
theorem nz{z:XS}(h:z.Ok):(XS.new z.L z.cs z.gen z.acc z.pn z.cn z.pc z.cc).Ok :=
 ⟨h.fit,h.nd,h.cs,(λ v hv=>nomatch hv),(λ v hv=>nomatch hv),h.two,h.lL,h.lc,Nat.zero_le _,Nat.le_refl _,Nat.le_refl _,Nat.le_refl _,Nat.le_refl _,Nat.zero_le _,h.ys,h.gen0,(λ i j _ hj=>absurd hj (Nat.not_lt_zero j)),(λ v hv=>nomatch hv)⟩
theorem xq{T:Tr}{x z z':XS}{dn:Bool}{rs:Rs}{R:Tr}{N:List aI}(h:ul T (XS.wm x z) dn rs R)(h':z'.Ok)(e:z'.L=z.L++N):ul T (XS.wm x z') dn rs R:=by
 refine⟨xx h.ok h' e,?_,h.ml⟩;have hw:=h.wk;show Wk (z'.L.map aI.c) T x.got x.made x.cel x.gns R
 rw[e,List.map_append]
 exact Wk.mono hw
structure EOk(m C:Nat)(z:XS)(e:EX):Prop where
 i:ul (T0 e.k m) (XS.wm e.x z) e.dn e.rs e.R
 k:7<=e.k.kind/\e.k.kind<=12
 em:e.k.mask=(m:Int)
 ht:e.k.t.root<=9223372036854775807
 ha:e.k.a=0/\e.k.b=0/\e.k.n=0
 gl:e.x.got.length<=C
theorem EOk.wm{m C:Nat}{z z':XS}{e:EX}{N:List aI}(h:EOk m C z e)(h':z'.Ok)(he:z'.L=z.L++N):EOk m C z' e:=⟨xq h.i h' he,h.k,h.em,h.ht,h.ha,h.gl⟩
theorem Qw{T R:Tr}{x:XS}{dn:Bool}{rs:Rs}(h:ul T x dn rs R):Fe R=true:=by
 rcases h.ml with⟨_,e⟩|⟨_,e⟩
 ·rw[e];rfl
 ·cases R<;>first|rfl|(simp[Tr.acc] at e)
structure Ql(m B C E:Nat)(W:Wd):Prop where
 z:W.z.Ok
 sz:Sz W.z B
 ex:∀e∈W.ex,EOk m C W.z e
 t0:0<W.ts.length
 tr:(W.ts.getD 0 ⟨0,false⟩).ro=false
 tl:W.ts.length<=5
 el:W.ex.length<=E
 wr:WR (H8 m) m W.z.mm W.ts (W.ex.map EX.R)
theorem Ql.root{m B C E:Nat}{W:Wd}(h:Ql m B C E W)(hB:B<=1000000000000){t:iS}(ht:t∈W.ts):t.root<=9223372036854775807:=by
 obtain⟨σ,hi⟩:=h.wr.inv
 have h1:=(hi.ts t ht).2.1;have h2:=h.sz.2.1;have e:σ.cl=W.z.cs.length:=by simp only[Kw.cl,hi.mm];rfl
 omega
theorem Y1{m:Nat}{k:Cl}{ts:List iS}(hk:7<=k.kind/\k.kind<=12)(hm:m<18446744073709551616)(ht:k.t∈ts)(hky:k.key∈mA)(hro:wrK k.kind->k.t.ro=false){s:Mm}:∀σ:Kw,σ.mm=s->Inv (H8 m) σ->(∀t∈ts,dX σ t)->Ta (H8 m) σ k (jW k.key m):=λ σ _ _ h =>
 ⟨h _ ht,tK _ _,if_pos hky,hro,.inl hk⟩
section
variable{m B C E bw bm:Nat}{D:List Nat}{A:Fr}{w:World}
set_option maxHeartbeats 1000000 in
theorem tp{W:Wd}{q:Gs}{kind:Int}(steps:Nat)(hst:steps<=1048576)(hC:steps<=C)(hB:B<=100000000000)(hm:m<18446744073709551616)(hW:Ql m B C E W)(hE:E<=900)(hkd:7<=kind/\kind<=12)(hq:Rl kind W.ts q)(hA:∀f∈bD W.z.L,f∈A)(hs:SF w D (wH m bw bm W) A [] (wO W) w) :
  Calls Tryz.prog 28 #[.pointer (some ⟨bw,0,none⟩),.agg ⟨Rt (q.cl kind m)⟩,.int .i64 (steps:Int)] w λ e w'=>∃r:Wd×List aI,e=.returned (.tuple #[])/\(Ql m (B+64+128*steps) C (E+1) r.1/\r.1.z.L=W.z.L++r.2)/\SF w D (wH m bw bm r.1) [] (bD r.2) (wO r.1) w':=by
 have hwt:=hW.root (by omega) hq.mem;have hlen:(rE W.ex).length=W.ex.length:=by simp[rE]
 have hel:=hW.el;have htl:=hW.tl
 have:=Mw (f:=28) (H':=Dk bm W.ex) (O':=Av W.ex) (hs:=[(bw,oG bm (m:Int) W.pt W.ts.length W.kt W.pe (rE W.ex).length W.ke),(bm,xM W.z)]) (os:=[⟨W.pt,sQ W.ts,W.kt,29,2⟩,⟨W.pe,zN (rE W.ex),W.ke,73,1⟩,⟨W.z.pn,fX W.z.L,W.z.cn,77,14⟩,⟨W.z.pc,aH W.z.cs,W.z.cc,62,1⟩]) (A0:=bD W.z.L) hs (List.Perm.refl _) (List.Perm.refl _) (bU.of λ f hf=>.inr (.inl (hA f hf)))
  (λ h=>wz (k:=q.cl kind m) (m:=m) (B:=B) steps hst hB hW.sz (.inr ⟨hkd.1,hkd.2⟩) hm rfl hwt rfl rfl rfl (λ f hf=>hf) (nz hW.z) (by omega) (by omega) h)
 refine this.mono λ e w' ⟨⟨bx,y,kq⟩,e1,⟨hi,his,hk⟩,hw⟩=>?_;replace his:y.i<=steps:=his;replace hi:Mj (q.cl kind m) m (XS.new W.z.L W.z.cs W.z.gen W.z.acc W.z.pn W.z.cn W.z.pc W.z.cc) B y:=hi;have hext:y.x.L=W.z.L++y.N:=hi.ext;obtain⟨j,hrc⟩:=hi.rc
 have hstart:WR (H8 m) m y.x.mm W.ts (y.R::W.ex.map EX.R):=.start hW.wr (Y1 hkd hm hq.mem hq.ky hq.ro) hrc (Qw hi.ex);have hszy:Sz y.x (B+64+128*steps):=by obtain⟨z1,z2,z3⟩:=hi.sz;exact⟨by omega,by omega,by omega⟩
 have hexs:∀e∈W.ex,EOk m C y.x e:=λ e he=>(hW.ex e he).wm hi.ex.ok hext;rw[List.append_nil] at hw;obtain⟨i,x,N,dn,rs,R⟩:=y
 cases dn with
 | true =>
  rcases hk with⟨hd,_⟩|⟨_,he,hts⟩
  ·cases hd
  ·have hR:R=.done rs:=by rcases hi.ex.ml with⟨_,h⟩|⟨h,_⟩;exact h;cases h
   have hL:kq.ts.length<=5/\0<kq.ts.length/\(kq.ts.getD 0 ⟨0,false⟩).ro=false/\WR (H8 m) m x.mm kq.ts (W.ex.map EX.R):=by
    rcases hts with hts|⟨h0,h5,hts⟩
    ·rw[hts];exact⟨hW.tl,hW.t0,hW.tr,by subst hR;exact hstart.drop⟩
    ·refine⟨h5,by rw[hts];simp,?_,?_⟩
     ·rw[hts,gF,List.getElem?_append_left hW.t0,<- gF];exact hW.tr
     ·rw[hts]
      subst hR
      exact(hstart.add h0).drop
   refine⟨(⟨x,kq.ts,kq.pt,kq.kt,W.ex,kq.pe,kq.ke⟩,N),e1,⟨⟨hi.ex.ok,hszy,hexs,hL.2.1,hL.2.2.1,hL.1,by show W.ex.length<=E+1;omega,hL.2.2.2⟩,hext⟩,?_⟩;have hes:kq.es=rE W.ex:=he;dsimp only[wH,wO];rw[<- hes];exact hw.noA
 | false =>
  rcases hk with⟨_,he,hts⟩|⟨hd,_⟩
  ·have hes:rE (W.ex++[⟨bx,q.cl kind m,x,false,rs,R⟩])=kq.es:=by rw[he];simp[rE]
   refine⟨(⟨x,kq.ts,kq.pt,kq.kt,W.ex++[⟨bx,q.cl kind m,x,false,rs,R⟩],kq.pe,kq.ke⟩,N),e1,⟨⟨hi.ex.ok,hszy,λ e he=>?_,by rw[show kq.ts=W.ts from hts];exact hW.t0,by rw[show kq.ts=W.ts from hts];exact hW.tr,by rw[show kq.ts=W.ts from hts];exact hW.tl,by simp;omega,?_⟩,hext⟩,?_⟩
   ·rcases List.mem_append.1 he with he|he
    ·exact hexs e he
    ·rw[List.mem_singleton.1 he]
     exact⟨hi.ex,hkd,rfl,hwt,⟨rfl,rfl,rfl⟩,by have:=hi.gl;show x.got.length<=C;simp only at this his;omega⟩
   ·rw[show kq.ts=W.ts from hts,List.map_append]
    exact hstart.perm (List.perm_append_comm (l₁:=[R]))
   ·dsimp only[wH,wO];rw[hes];refine hw.noA.perm ?_ ?_
    ·have e2:Dk bm (W.ex++[⟨bx,q.cl kind m,x,false,rs,R⟩])=Dk bm W.ex++[(bx,xO (q.cl kind m) bm x false rs)]:=by simp[Dk]
     rw[e2]
     exact(List.perm_append_comm (l₁:=(bw,_)::(bm,_)::Dk bm W.ex) (l₂:=[(bx,xO (q.cl kind m) bm x false rs)]))
    ·have e2:Av (W.ex++[⟨bx,q.cl kind m,x,false,rs,R⟩])=Av W.ex++xE4 x false:=by simp[Av,xE4]
     rw[e2]
     exact(List.perm_append_comm (l₁:=_::_::_::_::Av W.ex) (l₂:=xE4 x false))
  ·cases hd
abbrev Wd.go(W:Wd)(z:XS)(ex:List EX):Wd:=⟨z,W.ts,W.pt,W.kt,ex,W.pe,W.ke⟩
def StX(W:Wd)(i:Nat)(z:XS)(ex:List EX):Prop:=∃l1 e e' l2,W.ex=l1++e::l2/\l1.length=i/\ex=l1++e'::l2/\e'.b=e.b/\((e.dn=true/\e'=e)∨(e.dn=false/\∃j,j<=1/\(e'.dn=false->j=1)/\Rc j e.R W.z.mm e'.R z.mm))
theorem kh{l:List EX}{i:Nat}(hi:i<l.length):∃l1 e l2,l=l1++e::l2/\l1.length=i:=by
 refine⟨l.take i,l[i],l.drop (i+1),?_,by simp;omega⟩
 rw[<- List.drop_eq_getElem_cons hi,List.take_append_drop]
theorem aCh{W:Wd}{l1 l2:List EX}{e:EX}(hl:W.ex=l1++e::l2):(wH m bw bm W).Perm (xH e.k e.b bm (XS.wm e.x W.z) e.dn e.rs++((bw,oG bm (m:Int) W.pt W.ts.length W.kt W.pe (rE W.ex).length W.ke)::Dk bm (l1++l2))):=by
 have e1:Dk bm W.ex=Dk bm l1++(e.b,xO e.k bm (XS.wm e.x W.z) e.dn e.rs)::Dk bm l2:=by rw[hl];simp only[Dk,List.map_append,List.map_cons];rfl
 have e2:Dk bm (l1++l2)=Dk bm l1++Dk bm l2:=by simp[Dk]
 dsimp only[wH];rw[e1,e2];refine(List.Perm.swap _ _ _).trans ?_;refine(((List.perm_middle (a:=(e.b,xO e.k bm (XS.wm e.x W.z) e.dn e.rs)) (l₁:=Dk bm l1) (l₂:=Dk bm l2)).cons _).cons _).trans ?_;refine((List.Perm.swap _ _ _).cons _).trans ?_;exact List.Perm.swap _ _ _
theorem aBb{W:Wd}{l1 l2:List EX}{e:EX}(hl:W.ex=l1++e::l2):(wO W).Perm (xW (XS.wm e.x W.z)++(⟨W.pt,sQ W.ts,W.kt,29,2⟩::⟨W.pe,zN (rE W.ex),W.ke,73,1⟩::Av (l1++l2))):=by
 have e1:Av W.ex=Av l1++(Av [e]++Av l2):=by rw[hl];simp[Av]
 have e2:Av (l1++l2)=Av l1++Av l2:=by simp[Av]
 dsimp only[wO];rw[e1,e2];have hx:xW (XS.wm e.x W.z)=Av [e]++[⟨W.z.pn,fX W.z.L,W.z.cn,77,14⟩,⟨W.z.pc,aH W.z.cs,W.z.cc,62,1⟩]:=rfl;rw[hx];generalize Av [e]=oe;generalize Av l1=o1;generalize Av l2=o2
 have p1:(o1++(oe++o2)).Perm (oe++(o1++o2)):=by
  rw[<- List.append_assoc,<- List.append_assoc]
  exact List.perm_append_comm.append_right _
 refine((((p1.cons _).cons _).cons _).cons _).trans ?_
 have p2:∀(a b c d:Ow) (l r:List Ow),(a::b::c::d::(l++r)).Perm (l++[c,d]++(a::b::r)):=λ a b c d l r=>by
  have h1:([a,b]++[c,d]++l++r).Perm (l++[c,d]++[a,b]++r):=by
   refine List.Perm.append_right r ?_;refine List.perm_append_comm.trans ?_;rw[List.append_assoc];exact List.Perm.append_left l List.perm_append_comm
  simpa using h1
 exact p2 _ _ _ _ _ _
theorem mg{W:Wd}{i:Nat}(hi:i<W.ex.length)(hC:C<=1000000000)(hB:B<=100000000000)(hm:m<18446744073709551616)(hW:Ql m B C E W)(hA:∀f∈bD W.z.L,f∈A)(hs:SF w D (wH m bw bm W) A [] (wO W) w) :
  Calls Tryz.prog 29 #[.pointer (some ⟨(rE W.ex).getD i 0,0,none⟩)] w λ e w'=>∃q:XS×List EX×List aI,e=.returned (.tuple #[])/\(Ql m (B+128) (C+1) E (W.go q.1 q.2.1)/\q.1.L=W.z.L++q.2.2/\StX W i q.1 q.2.1)/\SF w D (wH m bw bm (W.go q.1 q.2.1)) [] (bD q.2.2) (wO (W.go q.1 q.2.1)) w':=by
 obtain⟨l1,e,l2,hl,hi1⟩:=kh hi
 have hb:(rE W.ex).getD i 0=e.b:=by rw[hl,<- hi1];simp[rE]
 rw[hb];have he:=hW.ex e (by rw[hl];simp);have hsz:=hW.sz;obtain⟨s1,s2,s3⟩:=hsz
 have hgl:=he.gl;have pH:=aCh (m:=m) (bw:=bw) (bm:=bm) hl;have pO:=aBb hl
 have key:=Mw (f:=29) (A0:=bD W.z.L) hs pH pO (bU.of λ f hf=>.inr (.inl (hA f hf)))
  (λ h=>eh (x:=XS.wm e.x W.z) (N:=e.x.got.length+1) (n:=1073741824) (m:=m) (xQ e.k m (by omega)) (by omega) rfl ⟨by show W.z.L.length<=_;omega,by show W.z.cs.length<=_;omega,by show W.z.gen<=_;omega⟩ he.i (.inr he.k) (Nat.le_refl _) hm he.em he.ht (by rw[he.ha.1];exact bT _) (by rw[he.ha.2.1];exact bT _) (by rw[he.ha.2.2];exact bT _) (λ f hf=>hf) h)
 refine key.mono λ en w' ⟨⟨x',N,dn',rs'⟩,e1,hq,hw⟩=>?_;rw[List.append_nil] at hw;rcases hq with⟨hd,hq⟩|⟨hd,hq⟩
 ·have h1:x'=XS.wm e.x W.z:=congrArg (λ q:XS×List aI×Bool×Rs=>q.1) hq;have h2:N=[]:=congrArg (λ q:XS×List aI×Bool×Rs=>q.2.1) hq;have h3:dn'=true:=congrArg (λ q:XS×List aI×Bool×Rs=>q.2.2.1) hq;have h4:rs'=e.rs:=congrArg (λ q:XS×List aI×Bool×Rs=>q.2.2.2) hq;subst h1 h2 h3 h4;refine⟨(W.z,W.ex,[]),e1,⟨⟨hW.z,⟨by show W.z.L.length<=_;omega,by show W.z.cs.length<=_;omega,by show W.z.gen<=_;omega⟩,λ x hx=>?_,hW.t0,hW.tr,hW.tl,hW.el,hW.wr⟩,by simp,l1,e,e,l2,hl,hi1,hl,rfl,.inl ⟨hd,rfl⟩⟩,?_⟩
  ·have:=hW.ex x hx;exact⟨this.i,this.k,this.em,this.ht,this.ha,by have:=this.gl;omega⟩
  ·have hw2:=hw.noA.perm (H':=wH m bw bm W) (O':=wO W) (by rw[hd] at pH;exact pH) pO;exact hw2
 ·obtain⟨R',j,h1,h2,h3,h4,h5,h6⟩:=C4.exI hq
  have hx':XS.wm x' x'=x':=rfl;have hext:x'.L=W.z.L++N:=h5;have hsz':Sz x' (B+128):=I2 he.i hd (xQ e.k m (n:=e.x.got.length+1) (by omega)) (Nat.le_refl _) h4 h1 hW.sz
  have hwr:WR (H8 m) m x'.mm W.ts ((l1++⟨e.b,e.k,x',dn',rs',R'⟩::l2).map EX.R):=by
   have w1:=hW.wr;rw[hl,List.map_append,List.map_cons] at w1;have w2:=(w1.perm List.perm_middle).step h4 (Qw h3);rw[List.map_append,List.map_cons];exact w2.perm List.perm_middle.symm
  have hgl':=C4.gl hq;have hexB:rE (l1++⟨e.b,e.k,x',dn',rs',R'⟩::l2)=rE W.ex:=by rw[hl];simp[rE]
  refine⟨(x',l1++⟨e.b,e.k,x',dn',rs',R'⟩::l2,N),e1,⟨⟨h3.ok,hsz',λ y hy=>?_,hW.t0,hW.tr,hW.tl,by have:=hW.el;rw[hl] at this;simpa using this,hwr⟩,hext,l1,e,⟨e.b,e.k,x',dn',rs',R'⟩,l2,hl,hi1,rfl,rfl,.inr ⟨hd,j,h1,h2,h4⟩⟩,?_⟩
  ·rcases List.mem_append.1 hy with hy|hy
   ·have:=(hW.ex y (by rw[hl];exact List.mem_append_left _ hy)).wm h3.ok hext;exact⟨this.i,this.k,this.em,this.ht,this.ha,by have:=this.gl;omega⟩
   ·rcases List.mem_cons.1 hy with rfl|hy
    ·exact⟨h3,he.k,he.em,he.ht,he.ha,by show x'.got.length<=C+1;have:x'.got.length<=e.x.got.length+1:=hgl';omega⟩
    ·have:=(hW.ex y (by rw[hl];exact List.mem_append_right _ (List.mem_cons_of_mem _ hy))).wm h3.ok hext;exact⟨this.i,this.k,this.em,this.ht,this.ha,by have:=this.gl;omega⟩
  ·rw[<- hexB] at hw
   exact hw.noA.perm (aCh (W:=W.go x' (l1++⟨e.b,e.k,x',dn',rs',R'⟩::l2)) rfl) (aBb (W:=W.go x' (l1++⟨e.b,e.k,x',dn',rs',R'⟩::l2)) rfl)
theorem lj{W:Wd}{i:Nat}(hi:i<W.ex.length)(hC:C<=1000000000)(hB:B<=100000000000)(hm:m<18446744073709551616)(hW:Ql m B C E W)(hA:∀f∈bD W.z.L,f∈A)(hs:SF w D (wH m bw bm W) A [] (wO W) w) :
  Calls Tryz.prog 29 #[.pointer (some ⟨(rE W.ex).getD i 0,0,none⟩)] w λ e w'=>∃r:Wd×List aI,e=.returned (.tuple #[])/\(Ql m (B+128) (C+1) E r.1/\r.1.ts=W.ts/\r.1.z.L=W.z.L++r.2)/\SF w D (wH m bw bm r.1) [] (bD r.2) (wO r.1) w' :=
 (mg hi hC hB hm hW hA hs).mono λ _ _ ⟨q,e,h,hw⟩=>⟨(W.go q.1 q.2.1,q.2.2),e,⟨h.1,rfl,h.2.1⟩,hw⟩
end
end

end Go.Proofs.YtadnboagdhcedaaGreatDoor

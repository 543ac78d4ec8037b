/- node.Valid. -/
import Derived.Test.YtnilhhnfjfdokaaGreatDoorGNode3
import Derived.Test.YtnilhhnfjfdokaaGreatDoorGLf
import Derived.Test.YtnilhhnfjfdokaaGreatDoorAuto
import Derived.Test.YtnilhhnfjfdokaaGreatDoorGLst2

set_option linter.unusedSimpArgs false
set_option linter.unusedVariables false
namespace Go.Proofs.YtnilhhnfjfdokaaGreatDoor
section
open Go.RowKit Go.Ct
theorem jo(b:Int)(w:World):Calls Tryz.prog 270 #[.int .u64 b] w λ e w'=>e=.returned (.int .i64 (yP b))/\St w [] [] w':=by
 refine enter Tryz.func270 Tryz.ntmps270 rfl rfl (SF.s0 w) ?_
 simp only[cP]
 refine Kd1 ?_;refine Cs ?_;refine zA ?_;refine aB ?_;refine zA ?_;refine oA ?_;refine Kb7 ?_;refine Cs ?_;refine zA ?_;refine aB ?_;refine zA ?_;refine oA ?_;refine Kb7 ?_;refine Cs ?_;refine aB ?_;refine oA ?_;refine zA ?_;refine Ni ?_;refine Cs ?_;refine oA ?_;refine Ni ?_;refine Cs ?_;refine oA ?_;refine Ni ?_;refine Cs ?_;refine oA ?_;refine Kb7 ?_;refine fC ?_;refine zA ?_;refine J1 ?_
 refine bE Tryz.results270 (λ w hw=>?_)
 exact⟨rfl,hw.done⟩
theorem F4(b:Int)(w:World):Calls Tryz.prog 225 #[.int .u64 b] w λ e w'=>e=.returned (.int .i64 (yP b))/\St w [] [] w':=by
 refine enter Tryz.func225 Tryz.ntmps225 rfl rfl (SF.s0 w) ?_
 simp only[cP]
 refine Kd1 ?_;refine aF (cV (hc:=λ w1 hw=>jo b w1)) (λ x4=>?_);refine J1 ?_
 refine bE Tryz.results225 (λ w hw=>?_)
 exact⟨rfl,hw.done⟩
theorem Pf{n:Nd}{xs:List Int}{ys:List Pr}{w:World}(hr:Fv w n xs ys) :
  Calls Tryz.prog 223 #[n.v] w λ e w'=>∃r:Bool,e=.returned (.bool r)/\(r=true↔eW n xs ys)/\St w [] [] w':=by
 have e1:=hr.brN;have e2:=hr.prN
 refine enter Tryz.func223 Tryz.ntmps223 rfl rfl (SF.s0 w) ?_
 simp only[cP]
 refine J0 ?_;refine bF (λ x1=>?_);refine kZ ?_;refine aJ ?_;refine eG [(0,[]),(1,[]),(2,[0]),(3,[]),(4,[])] ?_;refine cB ?_;refine cB ?_;refine bZ (i:=2) (hq:=(cV (hc:=λ w1 hw=>kx n w1))) (h:=λ x5=>?_);refine bS (i:=3) (hq:=(c0 (V:=.bool) (hc:=λ w1 hw=>iy (hr.kJ hw.st) (hr.kJ hw.st).own))) (h:=λ x6 h6=>?_);refine n6 ?_;refine dC ?_
 refine aU (λ c7=>?_) (λ c7=>?_)
 ·refine dW ?_
  refine bE Tryz.results223 (λ w hw=>?_)
  refine⟨_,rfl,?_,hw.done⟩
  (simp_all[eW];done)
 ·refine lS ?_;refine jA ?_;refine Kb ?_
  (refine lN 11 (λ g11=>?_) (λ g11=>?_)<;>refine Ka4 ?_)
  all_goals (refine o6 ?_;refine aB ?_)
  all_goals (first|refine aT ?_|(refine lN 16 (λ g16=>?_) (λ g16=>?_)<;>refine Ka4 ?_))
  all_goals (refine o6 ?_;refine aD ?_)
  all_goals
  refine aU (λ c20=>?_) (λ c20=>?_)
  ·all_goals refine dW ?_
   all_goals
    refine bE Tryz.results223 (λ w hw=>?_)
    refine⟨_,rfl,?_,hw.done⟩
    (simp_all[eW];omega)
  ·try exact nv c20
   all_goals (refine lS ?_;refine jA ?_;refine Kb9 ?_;refine H3 ?_;refine H3 ?_;refine H3 ?_;refine H3 ?_;refine aV ?_;refine H3 ?_;refine H3 ?_;refine H3 ?_;refine aJ ?_;refine Kd0 ?_)
   all_goals
    refine aU (λ c23=>?_) (λ c23=>?_)
    ·refine aX rfl ?_;refine aJ ?_;refine dW ?_
     refine bE Tryz.results223 (λ w hw=>?_)
     refine⟨_,rfl,?_,hw.done⟩
     (simp_all[eW];done)
    ·refine lS ?_;refine jN ?_
     refine aU (λ c25=>?_) (λ c25=>?_)
     ·refine aX rfl ?_;refine C3 ?_;refine fS ?_;refine J1 ?_
      refine bE Tryz.results223 (λ w hw=>?_)
      refine⟨_,rfl,?_,hw.done⟩
      (simp_all[eW];done)
     ·refine lS ?_;refine jN ?_
      refine aU (λ c27=>?_) (λ c27=>?_)
      ·refine aX rfl ?_;refine aJ ?_;refine aJ ?_;refine eG [(0,[]),(1,[]),(2,[]),(3,[]),(4,[]),(5,[1]),(6,[]),(7,[]),(8,[]),(9,[]),(10,[]),(11,[]),(12,[])] ?_;refine gY ?_;refine Ek ?_;refine gY ?_;refine bZ (i:=5) (hq:=(cV (hc:=λ w1 hw=>F4 n.bm w1))) (h:=λ x47=>?_);refine rE ?_;refine aR ?_
       (refine qq 49 (λ g49=>?_) (λ g49=>?_)<;>(first|refine mT ?_|(refine bM ?_)))
       all_goals ((first|refine mT ?_|(refine cB ?_));(first|refine mT ?_|(refine bS (i:=10) (hq:=(c0 (V:=.bool) (hc:=λ w1 hw=>by rw[e1];exact Kx (hr.br.kJ hw.st) hr.brS))) (h:=λ x52 h52=>?_)));refine iN ?_;refine J7 ?_)
       all_goals
       refine bE Tryz.results223 (λ w hw=>?_)
       refine⟨_,rfl,?_,hw.done⟩
       (simp_all[eW];done)
      ·refine lS ?_;refine jN ?_
       refine aU (λ c29=>?_) (λ c29=>?_)
       ·refine Ry ?_;refine C3 ?_;refine oG ?_;refine vI ?_;refine J1 ?_
        refine bE Tryz.results223 (λ w hw=>?_)
        refine⟨_,rfl,?_,hw.done⟩
        (simp_all[eW];omega)
       ·refine lS ?_;refine jN ?_
        refine aU (λ c31=>?_) (λ c31=>?_)
        ·refine aX rfl ?_;refine C3 ?_;refine oG ?_;refine vI ?_;refine J1 ?_
         refine bE Tryz.results223 (λ w hw=>?_)
         refine⟨_,rfl,?_,hw.done⟩
         (simp_all[eW];omega)
        ·refine lS ?_;refine jN ?_
         refine aU (λ c33=>?_) (λ c33=>?_)
         ·refine aX rfl ?_;refine C3 ?_;refine cO ?_;refine fS ?_;refine aB ?_
          (refine lN 62 (λ g62=>?_) (λ g62=>?_)<;>refine Ka4 ?_)
          all_goals ((first|refine aT ?_|(refine aE ?_;refine bP ?_));(first|refine aT ?_|(refine aE ?_;refine aH (c0 (V:=.bool) (hc:=λ w1 hw=>by rw[e2];exact Eh (hr.pr.kJ hw.st) hr.prS)) (λ x65 h65=>?_)));refine Kb3 ?_)
          all_goals (first|refine aT ?_|(refine lN 67 (λ g67=>?_) (λ g67=>?_)<;>refine Ka4 ?_))
          all_goals ((first|refine aT ?_|(refine aE ?_;refine bP ?_));(first|refine aT ?_|(refine aE ?_;refine aH (c0 (V:=.bool) (hc:=λ w1 hw=>by rw[e2];exact Ia (hr.pr.kJ hw.st) hr.prS)) (λ x70 h70=>?_)));refine bI ?_;refine J1 ?_)
          all_goals
          refine bE Tryz.results223 (λ w hw=>?_)
          refine⟨_,rfl,?_,hw.done⟩
          first|(simp_all[eW];done)|(simp_all[eW];omega)
         ·refine lS ?_;refine jN ?_
          refine aU (λ c35=>?_) (λ c35=>?_)
          ·refine aX rfl ?_;refine jA ?_;refine Kb ?_
           (refine lN 75 (λ g75=>?_) (λ g75=>?_)<;>refine Ka4 ?_)
           all_goals (refine o6 ?_;refine aD ?_)
           all_goals
           refine aU (λ c79=>?_) (λ c79=>?_)
           ·all_goals refine dW ?_
            all_goals
             refine bE Tryz.results223 (λ w hw=>?_)
             refine⟨_,rfl,?_,hw.done⟩
             (simp_all[eW];omega)
           ·try exact nv c79
            all_goals (refine oC ?_;refine C3 ?_;refine fS ?_;refine J1 ?_)
            all_goals
             refine bE Tryz.results223 (λ w hw=>?_)
             refine⟨_,rfl,?_,hw.done⟩
             (simp_all[eW];done)
          ·refine bB ?_;refine jN ?_
           refine aU (λ c37=>?_) (λ c37=>?_)
           ·refine aX rfl ?_;refine C3 ?_;refine fS ?_;refine J1 ?_
            refine bE Tryz.results223 (λ w hw=>?_)
            refine⟨_,rfl,?_,hw.done⟩
            (simp_all[eW];done)
           ·refine bB ?_;refine aX rfl ?_;refine dW ?_
            refine bE Tryz.results223 (λ w hw=>?_)
            refine⟨_,rfl,?_,hw.done⟩
            (simp_all[eW];done)
end

/- Proper states: the program's check. -/
end Go.Proofs.YtnilhhnfjfdokaaGreatDoor
namespace Go.Ct
section
def mc(n:Nd):Option Int:=if n.kind=2 then some n.main else if n.kind=3∨n.kind=5∨n.kind=6 then some n.prev else if n.kind=8 then some n.status else none
def ob(u:Option (List Bool))(n:Nd):Option (List Bool) :=
 match u with
 | none=>none
 | some u=>match mc n with
  | none=>some u
  | some c=>if 1<=c/\c<=u.length/\u.getD (c-1).toNat false=false then some (u.set (c-1).toNat true) else none
def marks(m:Nat)(L:List eY):Option (List Bool):=L.foldl (λ u v=>ob u v.nd) (some (List.replicate m false))
def jm(r:Int)(n:Nat):Prop:=0<=r/\r<=(n:Int)
instance (r:Int) (n:Nat):Decidable (jm r n):=inferInstanceAs (Decidable (0<=r/\r<=(n:Int)))
def ee(n:Nd)(xs:List Int)(N:Nat):Prop:=(∀i,i<xs.length->jm (xs.getD i 0) N)/\jm n.old N/\jm n.exp N/\jm n.new N
def jh(gen:Int)(N:Nat)(v:eY):Prop:=eW v.nd v.xs v.ys/\v.nd.gen<=gen/\ee v.nd v.xs N
end
end Go.Ct
namespace Go.Proofs.YtnilhhnfjfdokaaGreatDoor
section
open Go.RowKit Go.Ct
end

/- Proper states: the walk through the program's check. -/
section
open Go.RowKit Go.Ct
end

/- An arena with a state. -/
end Go.Proofs.YtnilhhnfjfdokaaGreatDoor
namespace Go.Ct
section
end
end Go.Ct
namespace Go.Proofs.YtnilhhnfjfdokaaGreatDoor
section
open Go.RowKit Go.Ct
end

/- Tapes: choices out of a list of numbers. -/
section
open Go.RowKit Go.Ct
abbrev mu:=Sf 91
abbrev k8(w:World):=Fo w 91
theorem l7(v n:Int)(w:World)(hn:IntKind.u64.wrap n≠0):Calls Tryz.prog 37 #[.int .i64 v,.int .i64 n] w λ e w'=>e=.returned (.int .i64 (Qk v n))/\St w [] [] w':=by
 refine enter Tryz.func37 Tryz.ntmps37 rfl rfl (SF.s0 w) ?_
 simp only[cP]
 refine Kd1 ?_;refine fC ?_;refine aB ?_;refine fC ?_;refine ky ?_;refine fC ?_;refine J1 ?_
 refine bE Tryz.results37 (λ w hw=>?_)
 exact⟨rfl,hw.done⟩
theorem m4{l:List Int}{a:Option Addr}{c:Nat}{w:World}:Calls Tryz.prog 14 #[.slice a l.length c] w λ e w' =>
  ∃b:Nat,e=.returned (.pointer (some ⟨b,0,none⟩))/\True/\SF w [] [(b,mu a l c 0)] [] [] [] w':=by
 refine enter Tryz.func14 Tryz.ntmps14 rfl rfl (SF.s0 w) ?_
 simp only[cP]
 refine Kd1 ?_;refine cK ?_;refine bF (λ x5=>?_);refine J1 ?_
 refine bE Tryz.results14 (λ w hw=>?_)
 exact⟨x5,rfl,trivial,hw.fV⟩
theorem jx{l:List Int}{a:Option Addr}{b c k:Nat}{w:World}(n:Int)(ht:k8 w b a l c k)(h0:0<n)(h1:n<=9223372036854775807) :
  Calls Tryz.prog 16 #[.pointer (some ⟨b,0,none⟩),.int .i64 n] w λ e w' =>
  ∃v:Nat,e=.returned (.int .i64 ((v:Nat):Int))/\((v:Int)<n/\v=qv l k n)/\SF w [b] ((b,mu a l c (og l k))::[]) [] [] [] w':=by
 have hl:=ht.len
 have hu:IntKind.u64.wrap n≠0:=by rw[wrap_u64];omega
 refine enter Tryz.func16 Tryz.ntmps16 rfl rfl ht.start ?_
 simp only[cP]
 refine Lf ?_;refine aJ ?_;refine iM [0,1,2,3,4,5,6,7,8,9] ?_;refine iu ?_;refine Ek ?_;refine Nh ?_;refine dC ?_
 refine aU (λ c14=>?_) (λ c14=>?_)
 ·refine dW ?_
  refine bE Tryz.results16 (λ w hw=>?_)
  exact⟨0,rfl,⟨by omega,by simp only[qv];rw[if_neg (by omega)]⟩,by simp only[og];rw[if_neg (by omega)];exact hw.fV⟩
 ·refine Vz ?_;refine rD ?_;refine Ak ?_;refine aJ ?_;refine iM [0,1,2,3,4,5,6,7,8,9,10,11,12,13] ?_;refine iu ?_;refine an ?_;refine ke ?_;refine aR ?_;refine bZ (i:=12) (hq:=(cV (hc:=λ w1 hw=>l7 (l.getD (k+1-1) 0) n w1 hu))) (h:=λ x34=>?_);refine J7 ?_
  refine bE Tryz.results16 (λ w hw=>?_)
  have hb:=Ln (v:=l.getD k 0) h0 h1
  exact⟨(Qk (l.getD k 0) n).toNat,by rw[Int.toNat_of_nonneg hb.1];rfl,⟨by omega,by simp only[qv];rw[if_pos (by omega)]⟩,by simp only[og];rw[if_pos (by omega)];exact hw.fV⟩
end

/- States are compared. -/
end Go.Proofs.YtnilhhnfjfdokaaGreatDoor
namespace Go.Ct
section
end
end Go.Ct
namespace Go.Proofs.YtnilhhnfjfdokaaGreatDoor
section
open Go.RowKit Go.Ct
end

/- Nodes of arenas, written out. -/
end Go.Proofs.YtnilhhnfjfdokaaGreatDoor
namespace Go.Ct
section
open Go Go.RowKit
end
end Go.Ct
namespace Go.Proofs.YtnilhhnfjfdokaaGreatDoor
section
open Go.RowKit Go.Ct
section
variable{w:World}{D:List Nat}{b:Nat}{L:List eY}{cs:List Int}{gen acc:Int}{pn pc:Option Addr}{cn cc:Nat}{A:Fr}
end
end

/- Calls through interfaces. -/
end Go.Proofs.YtnilhhnfjfdokaaGreatDoor
namespace Go.Ct
section
open Go Go.RowKit
section
variable{P:Program}{S:List (Nat×Value)}{G:World->Prop}{d:Nat}{ty t t2:TypeId}{pos:String}{af:Array Edge}{gd:Option (Nat×Bool)}{x y:Operand}{dst:Option Nat}{v:Value}
theorem Oh{f:FuncId}{xs:List Operand}{at_:Array TypeId}{vs:List Value}{t:TypeId}{pv:Value}{name:String}(hx:ev S x=.iface t pv)(ha:lD S xs=vs)(hm:∀w,(callMethod (.iface t pv) name ⟨vs⟩).run P w=.ok (.enter f ⟨pv::vs⟩) w)(w:World) :
  (execOp (ev S) ⟨dst,.call {callee:=.invoke x name,args:=⟨xs⟩,argTypes:=at_},ty,pos,af,gd⟩).run P w=.ok (.enter f ⟨pv::vs⟩) w:=by
 subst ha
 have hm':(xs.map (ev S)).toArray=⟨lD S xs⟩:=by rw[oR]
 have:=hm w
 simp only[execOp,resolve,hx]
 simp[invoke,hm',this]
theorem Ui(hx:ev S x=v)(h:∀w,(Instr.makeInterface t v).run P w=.ok (.iface t v) w):aG P S G ⟨some d,.makeInterface t x,ty,pos,af,gd⟩ (.iface t v):=⟨λ w _=>by
 simp[execOp,hx,h w]⟩
theorem mZ{b off:Nat}(hx:ev S x=.iface t (.pointer (some ⟨b,off,none⟩))):aG P S G ⟨some d,.nilCheck x,ty,pos,af,gd⟩ (.iface t (.pointer (some ⟨b,off,none⟩))):=⟨λ w _=>by
 simp[execOp,hx]⟩
end
end
end Go.Ct
namespace Go.Proofs.YtnilhhnfjfdokaaGreatDoor
section
open Go Go.RowKit Go.Ct
theorem Wm(p:Option Addr)(a:Value)(w:World):(callMethod (.iface 61 (.pointer p)) "Node" #[a]).run Tryz.prog w=.ok (.enter 340 #[.pointer p,a]) w:=by kernel_rfl
theorem mF(p:Option Addr)(a b:Value)(w:World):(callMethod (.iface 61 (.pointer p)) "Alloc" #[a,b]).run Tryz.prog w=.ok (.enter 335 #[.pointer p,a,b]) w:=by kernel_rfl
theorem Qz(p:Option Addr)(w:World):(Instr.makeInterface 61 (.pointer p)).run Tryz.prog w=.ok (.iface 61 (.pointer p)) w:=by kernel_rfl
section
variable{S:List (Nat×Value)}{w0 w:World}{M:List Nat}{H:List (Nat×Obj)}{A F:Fr}{O:List Ow}{ty:TypeId}{pos:String}{af:Array Edge}{gd:Option (Nat×Bool)}{X:Type}{V:X->Value}
theorem Wu{φ:X->Prop}{hs H':List (Nat×Obj)}{os O':List Ow}{hs' H1:X->List (Nat×Obj)}{os' O1:X->List Ow}{Fc F1:X->Fr}{A0:Fr}{is js:List Nat}{f:FuncId}{recv:Operand}{t:TypeId}{pv:Value}{name:String}{xs:List Operand}{at_:Array TypeId}{vs:List Value}{dst:Option Nat}
  (hx:ev S recv=.iface t pv:=by(conv=>{lhs;whnf}))
  (ha:lD S xs=vs:=by(repeat (first|exact cD _|(apply bK;focus ((conv=>{lhs;whnf});try exact rfl))));first|done|fail) (hm:∀w,(callMethod (.iface t pv) name ⟨vs⟩).run Tryz.prog w=.ok (.enter f ⟨pv::vs⟩) w)
  (hc:∀w,SF w (Ks hs os) hs A0 [] os w->Calls Tryz.prog f ⟨pv::vs⟩ w λ e w'=>∃x,e=.returned (V x)/\φ x/\SF w (Ks hs os) (hs' x) [] (Fc x) (os' x) w')
  (hH:kX H is hs H':=by(repeat (first|exact kX.nil|(apply kX.cons;(focus ((repeat (first|exact wK.head|apply wK.tail));done));simp only[nW])));first|done|fail)
  (hO:kX O js os O':=by(repeat (first|exact kX.nil|(apply kX.cons;(focus ((repeat (first|exact wK.head|apply wK.tail));done));simp only[nW])));first|done|fail)
  (hA:cA A F O' A0:=by(repeat (first|exact cA.of (λ _ h=>Or.inr (Or.inl h))|exact cA.nil|(refine cA.cons (by first|exact Or.inl rfl|exact Or.inr (Or.inr (Or.inl (by simp)))|exact Or.inr (Or.inl (by simp))|exact Or.inr (Or.inr (Or.inr (by simp)))) ?_)));first|done|fail)
  (hl1:∀x,is.length=(hs' x).length:=by intro x;exact rfl) (hl2:∀x,js.length=(os' x).length:=by intro x;exact rfl)
  (hH1:∀x,iR is (hs' x) H'=H1 x:=by intro x;first|(simp only[iR,oY];exact rfl)|exact rfl) (hF1:∀x,Fc x++F=F1 x:=by intro x;first|(simp only[List.nil_append,List.cons_append];exact rfl)|exact rfl) (hO1:∀x,iR js (os' x) O'=O1 x:=by intro x;simp only[iR,oY,mW];exact rfl) :
  aQ Tryz.prog S (SF w0 M H A F O) ⟨dst,.call {callee:=.invoke recv name,args:=⟨xs⟩,argTypes:=at_},ty,pos,af,gd⟩ X V (λ x w=>φ x/\SF w0 M (H1 x) A (F1 x) (O1 x) w) :=
 gH (Oh hx ha hm) λ w hw=>(hc w (hw.nZ hH hO hA)).mono λ _ _ ⟨x,he,hx,hs⟩=>⟨x,he,hx,by
  have:=hw.wE (hs':=hs' x) (Hc:=[]) (os':=os' x) (Oc:=[]) hH hO (by simpa using hs) (hl1 x) (hl2 x)
  rw[<- hH1 x,<- hF1 x,<- hO1 x]
  simpa using this⟩
theorem px{φ:X->Prop}{hs H':List (Nat×Obj)}{os O':List Ow}{hs' H1:X->List (Nat×Obj)}{os' Oc O1:X->List Ow}{Fc F1:X->Fr}{A0:Fr}{is js:List Nat}{f:FuncId}{recv:Operand}{t:TypeId}{pv:Value}{name:String}{xs:List Operand}{at_:Array TypeId}{vs:List Value}{dst:Option Nat}
  (hx:ev S recv=.iface t pv:=by(conv=>{lhs;whnf}))
  (ha:lD S xs=vs:=by(repeat (first|exact cD _|(apply bK;focus ((conv=>{lhs;whnf});try exact rfl))));first|done|fail) (hm:∀w,(callMethod (.iface t pv) name ⟨vs⟩).run Tryz.prog w=.ok (.enter f ⟨pv::vs⟩) w)
  (hc:∀w,SF w (Ks hs os) hs A0 [] os w->Calls Tryz.prog f ⟨pv::vs⟩ w λ e w'=>∃x,e=.returned (V x)/\φ x/\SF w (Ks hs os) (hs' x) [] (Fc x) (os' x++Oc x) w')
  (hH:kX H is hs H':=by(repeat (first|exact kX.nil|(apply kX.cons;(focus ((repeat (first|exact wK.head|apply wK.tail));done));simp only[nW])));first|done|fail)
  (hO:kX O js os O':=by(repeat (first|exact kX.nil|(apply kX.cons;(focus ((repeat (first|exact wK.head|apply wK.tail));done));simp only[nW])));first|done|fail)
  (hA:cA A F O' A0:=by(repeat (first|exact cA.of (λ _ h=>Or.inr (Or.inl h))|exact cA.nil|(refine cA.cons (by first|exact Or.inl rfl|exact Or.inr (Or.inr (Or.inl (by simp)))|exact Or.inr (Or.inl (by simp))|exact Or.inr (Or.inr (Or.inr (by simp)))) ?_)));first|done|fail)
  (hl1:∀x,is.length=(hs' x).length:=by intro x;exact rfl) (hl2:∀x,js.length=(os' x).length:=by intro x;exact rfl)
  (hH1:∀x,iR is (hs' x) H'=H1 x:=by intro x;first|(simp only[iR,oY];exact rfl)|exact rfl) (hF1:∀x,Fc x++F=F1 x:=by intro x;first|(simp only[List.nil_append,List.cons_append];exact rfl)|exact rfl) (hO1:∀x,Oc x++iR js (os' x) O'=O1 x:=by intro x;simp only[iR,oY,mW,List.nil_append,List.cons_append];exact rfl) :
  aQ Tryz.prog S (SF w0 M H A F O) ⟨dst,.call {callee:=.invoke recv name,args:=⟨xs⟩,argTypes:=at_},ty,pos,af,gd⟩ X V (λ x w=>φ x/\SF w0 M (H1 x) A (F1 x) (O1 x) w) :=
 gH (Oh hx ha hm) λ w hw=>(hc w (hw.nZ hH hO hA)).mono λ _ _ ⟨x,he,hx,hs⟩=>⟨x,he,hx,by
  have:=hw.wE (hs':=hs' x) (Hc:=[]) (os':=os' x) (Oc:=Oc x) hH hO (by simpa using hs) (hl1 x) (hl2 x)
  rw[<- hH1 x,<- hF1 x,<- hO1 x]
  simpa using this⟩
end
end

/- A store of several cells into a known block. -/
end Go.Proofs.YtnilhhnfjfdokaaGreatDoor
namespace Go.Ct
section
open Go Go.RowKit
section
variable{P:Program}{n:Nat}{ds:List Deferred}{Q:Exit->Act->World->Prop}{ks:List CK}{S:List (Nat×Value)}{G:World->Prop}{ops:Array Oper}{l:List Oper}
variable{w0:World}{M:List Nat}{H:List (Nat×Obj)}{A F:Fr}{O:List Ow}
variable{d:Nat}{ty t:TypeId}{pos:String}{af:Array Edge}{gd:Option (Nat×Bool)}{dst:Option Nat}{x y:Operand}{v:Value}{w w':World}
theorem lH{b off i:Nat}{vs old cs:List Value}{T:TypeId}{H':List (Nat×Obj)}(hx:ev S x=.pointer (some ⟨b,off,none⟩))(ha:At H i b (.cells ⟨old⟩ T (0,0)))(hy:ev S y=.agg ⟨vs⟩)(h1:vs.all (·.oneCell')=true)
  (ht:gX P t vs.length=true) (hl:off+vs.length<=old.length) (hcs:old.take off++vs++old.drop (off+vs.length)=cs) (hH:setAt H i (.cells ⟨cs⟩ T (0,0))=H') :
  aQ P S (St w0 M H) ⟨none,.store t x y,ty,pos,af,gd⟩ Unit (λ _=>undef) (λ _=>St w0 M H') :=
 iZ (λ w hw=>by
  subst hH hcs
  have hb:=hw.at ha
  obtain⟨dd,hu,hm,hi⟩:=fX ht
  have hst:=run_storeCells_at (P:=P) b off T vs 0 ⟨old⟩ w hb (by simpa using hl) (by simpa using h1)
  simp only[Nat.add_zero] at hst
  refine⟨w.setRow b ⟨old.take off++vs++old.drop (off+vs.length)⟩,?_,hw.write ha rfl rfl rfl (by simp) (λ k hk=>setRow_other w b k _ hk) (setRow_heap w b ⟨old⟩ _ T (0,0) hb)⟩
  cases hq':P.info? t with
  | none=>rw[hq'] at hi;simp at hi
  | some inf =>
   have hs:inf.size=vs.length:=by rw[hq'] at hi;simpa using hi
   simp[execOp,hx,hy,Instr.storeAt,Instr.sureAddr,storeVar,sizeOf,typeInfo,hq',hs,Value.cells,hst])
end
end

end Go.Ct

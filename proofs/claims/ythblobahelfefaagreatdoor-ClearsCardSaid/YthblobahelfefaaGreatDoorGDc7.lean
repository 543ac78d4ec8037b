/- Merged. -/
import Derived.Test.YthblobahelfefaaGreatDoorDc6
import Derived.Test.YthblobahelfefaaGreatDoorGBr3
import Derived.Test.YthblobahelfefaaGreatDoorGFd1
set_option linter.unusedSimpArgs false
set_option linter.unusedVariables false
namespace Go.Ct
open Go Go.RowKit
section
theorem sw2{α:Type}(d:α){j:Nat}:∀{q:List α},q.length<=2->0<j->j<q.length->((q.set j (q.getD (j-1) d)).set (j-1) (q.getD j d)).Perm q
 | [],_,_,h=>by simp at h
 | [_],_,h0,h=>by simp at h;omega
 | [a,b],_,h0,h=>by
  have:j=1:=by simp at h;omega
  subst this
  exact List.Perm.swap _ _ _
 | _::_::_::_,h,_,_=>by simp at h
theorem rK{α:Type}(d:α){q:List α}{j:Nat}(h:j<q.length):q[j]?=some (q.getD j d):=by rw[List.getD,List.getElem?_eq_getElem h];rfl
end
end Go.Ct
namespace Go.Proofs.YthblobahelfefaaGreatDoor
open Go.Proofs.Tryz
open Go Go.RowKit Go.Ct
section
abbrev Pe(q:ByteArray×Int):List Value:=[.string q.1,.int .u64 q.2]
abbrev Jf(q:Nat×ByteArray×Int):List Value:=[.int .u64 ((q.1:Nat):Int),.string q.2.1,.int .u64 q.2.2]
theorem Bn(q:ByteArray×Int):(Pe q).length=2:=rfl
theorem jD(q:Nat×ByteArray×Int):(Jf q).length=3:=rfl
abbrev Jv:Nat×ByteArray×Int:=(0,⟨#[]⟩,0)
theorem Nc:cS prog 228 230 (Jf Jv):=fX (z:=.agg ⟨Jf Jv⟩) (by kernel_rfl) (by kernel_rfl) rfl
theorem ye:cS prog 156 162 (Pe (⟨#[]⟩,0)):=fX (z:=.agg ⟨Pe (⟨#[]⟩,0)⟩) (by kernel_rfl) (by kernel_rfl) rfl
def Si(h:Nat)(a:ByteArray)(k:Nat)(b:ByteArray):Bool:=if mU h k<11 then decide (sl h (mU h k)<sl k (mU h k)) else cG a b
def Ry(a b:ByteArray):Int:=if cG a b=true then -1 else if(!(cG a b||decide (a=b)))=true then 1 else 0
def z0(x y:Nat×ByteArray×Int):Int:=if Si x.1 x.2.1 y.1 y.2.1=true then -1 else if Si y.1 y.2.1 x.1 x.2.1=true then 1 else Ry x.2.1 y.2.1
theorem aFJ{S:List (Nat×Value)}{w0:World}{M:List Nat}{H:List (Nat×Obj)}{A F:Fr}{O:List Ow}{v:Value}{x:Operand}{f:FuncId}{xs:List Operand}{at_:Array TypeId}{vs:List Value}{dst:Option Nat}{ty:TypeId}{pos:String}{af:Array Edge}{gd:Option (Nat×Bool)}(hx:ev S x=.func (.func f) #[] #[])
  (ha:lX S xs=vs) (hp:plain prog f=true)
  (hc:∀w,SF w0 M H A F O w->Calls prog f ⟨vs⟩ w λ e w'=>e=.returned v/\Ct.St w [] [] w') :
  aQ prog S (SF w0 M H A F O) ⟨dst,.call {callee:=.value x,args:=⟨xs⟩,argTypes:=at_},ty,pos,af,gd⟩ Unit (λ _=>v) (λ _=>SF w0 M H A F O):=aEW hx hp ha hc
section
variable{w:World}{D:List Nat}{p:Option Addr}{c n:Nat}
theorem Q5{h k:Nat}{a b:ByteArray}(hh:h<18446744073709551616)(hk:k<18446744073709551616)(w:World):Calls prog 127 #[.int .u64 (h:Int),.string a,.int .u64 (k:Int),.string b] w λ e w'=>e=.returned (.bool (Si h a k b))/\Ct.St w [] [] w':=by
 have hc:=rJ h k;refine enter func127 ntmps127 rfl rfl (SF.s0 w) ?_;simp only[bY]
 refine cC ?_;refine lV ?_;refine aK (cV (hc:=λ w1 hw=>Fv hh hk w1)) (λ x12=>?_);refine Kc5 ?_;refine pD ?_;refine aX (λ c14=>?_) (λ c14=>?_)
 ·try (first|contradiction|(exfalso;omega))
  refine lV ?_;refine aK (cV (hc:=λ w1 hw=>kF (l:=mU h k) hh (by omega) w1)) (λ x17=>?_);refine Jh ?_;refine aK (cV (hc:=λ w1 hw=>kF (l:=mU h k) hk (by omega) w1)) (λ x20=>?_);refine Zb ?_;refine J1 ?_;refine aP results127 (λ w hw=>?_);exact⟨by unfold Si;rw[if_pos (by omega)];simp[gU],hw.done⟩
 ·try (first|contradiction|(exfalso;omega))
  refine Ix ?_;refine Qa ?_;refine J1 ?_;refine aP results127 (λ w hw=>?_);exact⟨by unfold Si;rw[if_neg (by omega)];rfl,hw.done⟩
theorem Wh(a:ByteArray)(w:World):Calls prog 167 #[.string a] w λ e w'=>e=.returned (.bool false)/\Ct.St w [] [] w':=by refine enter func167 ntmps167 rfl rfl (SF.s0 w) ?_;simp only[bY];refine cC ?_;refine lV ?_;refine aEH ?_;refine J1 ?_;refine aP results167 (λ w hw=>?_);exact⟨by simp[gU],hw.done⟩
theorem aDO(a b:ByteArray)(w:World):Calls prog 128 #[.string a,.string b] w λ e w'=>e=.returned (.int .i64 (Ry a b))/\Ct.St w [] [] w':=by
 refine enter func128 ntmps128 rfl rfl (SF.s0 w) ?_;simp only[bY];refine Kc1 ?_;refine aK (cV (hc:=λ w1 hw=>Wh a w1)) (λ x8=>?_);refine Kb7 ?_;refine aK (cV (hc:=λ w1 hw=>Wh b w1)) (λ x10=>?_);refine Kc5 ?_;refine aC ?_;refine aX (λ c11=>?_) (λ c11=>?_);·exact nv c11
 ·try (first|contradiction|(exfalso;omega))
  refine mD ?_;refine J2 ?_;refine aC ?_;refine aX (λ c13=>?_) (λ c13=>?_);·exact nv c13
  ·try (first|contradiction|(exfalso;omega))
   refine mD ?_;refine lV ?_;refine Qa ?_;refine aC ?_;refine aX (λ c16=>?_) (λ c16=>?_)
   ·try (first|contradiction|(exfalso;omega))
    refine cC ?_;refine aP results128 (λ w hw=>?_);exact⟨by simp_all[Ry,gU],hw.done⟩
   ·try (first|contradiction|(exfalso;omega))
    refine mD ?_;refine lV ?_;refine qw ?_;refine aC ?_;refine aX (λ c19=>?_) (λ c19=>?_)
    ·try (first|contradiction|(exfalso;omega))
     refine cC ?_;refine aP results128 (λ w hw=>?_);exact⟨by simp_all[Ry,gU],hw.done⟩
    ·try (first|contradiction|(exfalso;omega))
     refine bD ?_;refine cC ?_;refine aP results128 (λ w hw=>?_);exact⟨by simp_all[Ry,gU],hw.done⟩
theorem ij{x y:Nat×ByteArray×Int}(hx:x.1<18446744073709551616)(hy:y.1<18446744073709551616)(w:World):Calls prog 126 #[.agg ⟨Jf x⟩,.agg ⟨Jf y⟩] w λ e w'=>e=.returned (.int .i64 (z0 x y))/\Ct.St w [] [] w':=by
 refine enter func126 ntmps126 rfl rfl (SF.s0 w) ?_;simp only[bY];refine K1j ?_;intro x2 x3;refine nN ?_;refine bF ?_;refine gP ?_;refine Kc9 ?_;refine J3 ?_;refine Kc9 ?_;refine aK (cV (hc:=λ w1 hw=>Q5 hx hy w1)) (λ x16=>?_);refine J1 ?_;refine aX (λ c5=>?_) (λ c5=>?_)
 ·try (first|contradiction|(exfalso;omega))
  refine cC ?_;refine aP results126 (λ w hw=>?_);exact⟨by simp_all[z0,gU],hw.done⟩
 ·try (first|contradiction|(exfalso;omega))
  refine gP ?_;refine Kc9 ?_;refine J3 ?_;refine Kc9 ?_;refine aK (cV (hc:=λ w1 hw=>Q5 hy hx w1)) (λ x28=>?_);refine J1 ?_;refine aX (λ c17=>?_) (λ c17=>?_)
  ·try (first|contradiction|(exfalso;omega))
   refine cC ?_;refine aP results126 (λ w hw=>?_);exact⟨by simp_all[z0,gU],hw.done⟩
  ·try (first|contradiction|(exfalso;omega))
   refine lI ?_;refine J0 ?_;refine Kc9 ?_;refine Kc9 ?_;refine aK (cV (hc:=λ w1 hw=>aDO x.2.1 y.2.1 w1)) (λ x35=>?_);refine J1 ?_;refine aP results126 (λ w hw=>?_);exact⟨by simp_all[z0,gU],hw.done⟩
abbrev aC7:Value:=.func (.func 126) #[] #[]
abbrev Tg(p:Option Addr)(c:Nat)(l:List (Nat×ByteArray×Int)):Ow:=⟨p,dE Jf l,c,230,3⟩
abbrev dk(l:List (Nat×ByteArray×Int)):Prop:=∀q∈l,q.1<18446744073709551616
variable{l:List (Nat×ByteArray×Int)}
theorem uo(h:dk l)(j:Nat):(l.getD j Jv).1<18446744073709551616:=by
 rw[List.getD];cases e:l[j]? with
 | none=>decide
 | some q=>exact h q (List.mem_of_getElem? e)
set_option maxRecDepth 100000 in
theorem e9(hn:l.length<=2)(hl:dk l)(hs:SF w D [] [] [] [Tg p c l] w):Calls prog 205 #[.slice p l.length c,.int .i64 0,.int .i64 (l.length:Int),aC7] w λ e w'=>∃q:List (Nat×ByteArray×Int),e=.returned (.tuple #[])/\q.Perm l/\SF w D [] [] [] [Tg p c q] w':=by
 refine enter func205 ntmps205 rfl rfl hs ?_;simp only[bY];refine J2 ?_;refine sZ ?_;refine J1 ?_;refine bF ?_;refine mE [8,9,12,13,14,15,16,17,18,19,20,21,22,23,24,25,26,27,28,29,30,31,32,33,34,35,36,37,38,39,40,41,42,43,44,45,46,47,48,49,50,51,52] (λ z:Nat×List (Nat×ByteArray×Int)=>[(8,.int .i64 ((z.1:Nat):Int))]) (λ z=>1<=z.1/\z.1<=2/\z.2.Perm l) (λ _=>_) (λ _=>_) (λ z=>[Tg p c z.2]) (λ z=>2-z.1) ((1,l)) (⟨Nat.le_refl _,Nat.le_succ 1,List.Perm.refl _⟩) (λ z f hx=>?_);refine K0a ?_;obtain⟨i,q0⟩:=z;replace hx:1<=i/\i<=2/\q0.Perm l:=hx;obtain⟨hi1,hi2,hq0⟩:=hx;have hlen0:=hq0.length_eq;dsimp only;refine Ir ?_;refine pD ?_;refine aX (λ c14=>?_) (λ c14=>?_)
 ·try (first|contradiction|(exfalso;omega))
  refine Kb4 ?_;refine J1 ?_;refine bF ?_;refine mE [9,18,19,20,21,22,23,24,25,26,27,28,29,30,31,32,33,34,35,36,37,38,39,40,41,42,43,44,45,46,47,48,49,50,51,52] (λ y:Nat×List (Nat×ByteArray×Int)=>[(9,.int .i64 ((y.1:Nat):Int))]) (λ y=>y.1<=i/\y.2.Perm l) (λ _=>_) (λ _=>_) (λ y=>[Tg p c y.2]) (λ y=>y.1) ((i,q0)) (⟨Nat.le_refl _,hq0⟩) (λ y f hx=>?_);refine K0a ?_;obtain⟨j,q⟩:=y;replace hx:j<=i/\q.Perm l:=hx;obtain⟨hj,hq⟩:=hx;have hlen:=hq.length_eq;have hok:dk q:=λ x hx=>hl x (hq.mem_iff.1 hx);dsimp only;refine aU ?_;refine aU ?_;refine gL [0,1,2,3,4,5,6,7,8,9,10,11,12,13,14,15,16] ?_;refine Bx ?_;refine aBp ?_;refine aR ?_;(refine rcs 21 (λ g21=>?_) (λ g21=>?_)<;>(first|refine kS ?_|(refine aR ?_)));all_goals ((first|refine kS ?_|(refine aR ?_));(first|refine kS ?_|(refine aR ?_));(first|refine kS ?_|(refine bI (i:=7) (hq:=(cR (f:=Jf) (l:=q) (k:=j) jD (by decide) rf rf fU (by kernel_rfl) (.own .head) (by omega) (by omega))) (h:=?_)));(first|refine kS ?_|(refine bI (i:=8) (hq:=(fJ (f:=Jf) (l:=q) (k:=j) jD rf (by kernel_rfl) (.own .head) (rK Jv (by omega)))) (h:=?_)));(first|refine kS ?_|(refine aR ?_));(first|refine kS ?_|(refine aR ?_));(first|refine kS ?_|(refine dA (i:=11) (hq:=(uY rf rf (by omega) (by omega))) (h:=?_)));(first|refine kS ?_|(refine bI (i:=12) (hq:=(cR (f:=Jf) (l:=q) (k:=j-1) jD (by decide) rf rf fU (by kernel_rfl) (.own .head) (by omega) (by omega))) (h:=?_)));(first|refine kS ?_|(refine bI (i:=13) (hq:=(fJ (f:=Jf) (l:=q) (k:=j-1) jD rf (by kernel_rfl) (.own .head) (rK Jv (by omega)))) (h:=?_)));((first|refine kS ?_|((refine cB (i:=14) (hq:=(aFJ rf (by(repeat (first|exact bK _|(apply aZ;focus ((conv=>{lhs;whnf});try exact rfl))));done) (by kernel_rfl) (λ w1 hw=>ij (uo hok j) (uo hok (j-1)) w1))) (h:=λ x32=>?_)))));(first|refine kS ?_|(refine Gm ?_));refine sB ?_;refine dY ?_)
  all_goals
  refine aX (λ c34=>?_) (λ c34=>?_)
  ·try exact nv c34
   all_goals (refine tG ?_;refine gL [0,1,2,3,4,5,6,7,8,9,10,11,12,13,14,15,16,17] ?_;refine Bx ?_;refine Bx ?_;refine dA (i:=4) (hq:=(uY rf rf (by omega) (by omega))) (h:=?_);refine Bx ?_;refine dA (i:=7) (hq:=(uY rf rf (by omega) (by omega))) (h:=?_);refine bI (i:=8) (hq:=(cR (f:=Jf) (l:=q) (k:=j-1) jD (by decide) rf rf fU (by kernel_rfl) (.own .head) (by omega) (by omega))) (h:=?_);refine bI (i:=9) (hq:=(fJ (f:=Jf) (l:=q) (k:=j-1) jD rf (by kernel_rfl) (.own .head) (rK Jv (by omega)))) (h:=?_);refine Bx ?_;refine bI (i:=12) (hq:=(cR (f:=Jf) (l:=q) (k:=j) jD (by decide) rf rf fU (by kernel_rfl) (.own .head) (by omega) (by omega))) (h:=?_);refine bI (i:=13) (hq:=(fJ (f:=Jf) (l:=q) (k:=j) jD rf (by kernel_rfl) (.own .head) (rK Jv (by omega)))) (h:=?_);refine bI (i:=14) (hq:=(cR (f:=Jf) (l:=q) (k:=j) jD (by decide) rf rf fU (by kernel_rfl) (.own .head) (by omega) (by omega))) (h:=?_);refine fC (i:=15) (hq:=(aQ.iN (wV (f:=Jf) (l:=q) (k:=j) (v1:=q.getD (j-1) Jv) jD rf rf rfl (by kernel_rfl) .head (rK Jv (by omega)) (by decide)) nM)) (h:=λ _=>?_);refine bI (i:=16) (hq:=(cR (f:=Jf) (l:=q.set j (q.getD (j-1) Jv)) (k:=j-1) jD (by decide) rf rf fU (by kernel_rfl) (.own .head) (by omega) (by rw[List.length_set];omega))) (h:=?_);refine fC (i:=17) (hq:=(aQ.iN (wV (f:=Jf) (l:=q.set j (q.getD (j-1) Jv)) (k:=j-1) (v1:=q.getD j Jv) jD rf rf rfl (by kernel_rfl) .head (rK Jv (by rw[List.length_set];omega)) (by decide)) nM)) (h:=λ _=>?_);refine dY ?_;refine eX ?_;refine Js ?_;refine aA (uY rf rf (by omega) (by omega)) rfl ?_;refine J1 ?_)
   all_goals refine nS ((j-1,(q.set j (q.getD (j-1) Jv)).set (j-1) (q.getD j Jv))) ?_ (hμ:=by show j-1<j;omega);·exact⟨by show j-1<=i;omega,(sw2 Jv (by omega) (by omega) (by omega)).trans hq⟩
  ·all_goals try (first|contradiction|(exfalso;omega))
   all_goals (refine J84 ?_;refine J70 ?_)
   all_goals refine nS ((i+1,q)) ?_ (hμ:=by show 2-(i+1)<_;omega);·exact⟨by show 1<=i+1;omega,by show i+1<=2;omega,hq⟩
 ·try (first|contradiction|(exfalso;omega))
  refine K1o ?_;refine Qd results205 (λ w hw=>?_);exact⟨q0,rfl,hq0,hw.eP⟩
end
end
end Go.Proofs.YthblobahelfefaaGreatDoor
namespace Go.Ct
open Go Go.RowKit
section
section
variable{P:Program}{S:List (Nat×Value)}{w0:World}{M:List Nat}{H H':List (Nat×Obj)}{A F:Fr}{O:List Ow}{d:Nat}{ty:TypeId}{pos:String}{af:Array Edge}{gd:Option (Nat×Bool)}{x:Operand}{es:List MapEntry}{c i:Nat}
theorem aAB{r m since c0:Nat}{seen:Array Nat}{i2:Nat}(hx:ev S x=.pointer (some ⟨r,0,none⟩))(ha:At H i r (.mapIter (some m) since seen c0))(hm:At H i2 m (bV es c))(hold:∀x∈es,x.born<since)(hsc:since<=c0) :
  aQ P S (SF w0 M H A F O) ⟨some d,.next x false,ty,pos,af,gd⟩ (Option MapEntry) (λ o=>match o with|none=>.tuple #[.bool false]|some e=>.tuple #[.bool true,e.key,e.val])
   (λ o w=>(match o with|none=>(leftOf ⟨es⟩ seen).size=0|some e=>e∈(leftOf ⟨es⟩ seen).toList)/\SF w0 M (match o with|none=>H|some e=>setAt H i (.mapIter (some m) since (seen.push e.born) c)) A F O w) :=
 fE λ w hw=>by
  rcases run_next_at (P:=P) w ty r m since c0 seen ⟨es⟩ c (hw.st.at ha) (hw.st.at hm) hold hsc with⟨h0,h⟩|⟨e',he,w1,h1,h⟩;·exact⟨none,w,by simp[execOp,hx,h,Result.andThen],by rw[h0],hw⟩
  ·have hw1:SF w0 M H A F O w1:=by
    rcases h1 with h1|h1;·rw[h1];exact hw
    ·rw[h1];exact hw.drew
   obtain⟨g1,g2⟩:=MapKept.heap_set (o':=.mapIter (some m) since (seen.push e'.born) c) (hw1.st.at ha);exact⟨some e',ChangeMaps.setBlock w1 r (.mapIter (some m) since (seen.push e'.born) c),by simp[execOp,hx,h,Result.andThen],he,hw1.step ((Di hw1.st).write ha rfl rfl rfl (by simp[ChangeMaps.setBlock]) (λ k hk=>g2 k hk) g1)⟩
theorem aFw{G:World->Prop}{op:Op}{v:Value}(h:∀w,(execOp (ev S) ⟨some d,op,ty,pos,af,gd⟩).run P w=.ok (.value v) w):aH P S G ⟨some d,op,ty,pos,af,gd⟩ v:=⟨λ w _=>h w⟩
end
end
end Go.Ct
namespace Go.Proofs.YthblobahelfefaaGreatDoor
open Go.Proofs.Tryz
open Go Go.RowKit Go.Ct
section
section
variable{w:World}{D:List Nat}{p:Option Addr}{c n m k:Nat}{A:Fr}{pk:Nat->ByteArray}{mv L R:List (Nat×Nat)}{u:fz}
variable{l:List (Nat×ByteArray×Int)}
theorem aAv(hn:n<=2)(w:World):Calls prog 169 #[.int .u64 (n:Int)] w λ e w'=>e=.returned (.int .i64 (n:Int))/\Ct.St w [] [] w':=by
 have hn1:n=0∨n=1∨n=2:=by omega
 rcases hn1 with h|h|h;all_goals
 refine enter func169 ntmps169 rfl rfl (SF.s0 w) ?_;simp only[bY];all_goals (refine Ka5 ?_;refine kZ ?_;refine aC ?_)
 all_goals
 refine aX (λ c4=>?_) (λ c4=>?_);·all_goals try ((exfalso;omega))
 ·all_goals try (first|contradiction|(exfalso;omega))
  all_goals (refine mD ?_;refine J2 ?_;refine kZ ?_;refine aC ?_)
  all_goals
   refine aX (λ c8=>?_) (λ c8=>?_);·all_goals try ((exfalso;omega))
   ·all_goals try (first|contradiction|(exfalso;omega))
    all_goals (refine mD ?_;refine J2 ?_;refine kZ ?_;refine aC ?_)
    all_goals
    refine aX (λ c14=>?_) (λ c14=>?_);·all_goals try ((exfalso;omega))
    ·all_goals try (first|contradiction|(exfalso;omega))
     all_goals (refine Ix ?_;refine aA (qW (k:=.u8) (k2:=.u64) rf (by kernel_rfl) (by kernel_rfl)) rfl ?_;refine aA (aFw (v:=.int .u8 (n:Int)) (by intro w;subst h;kernel_rfl)) rfl ?_;refine aA (Ye (k2:=.u8) rf (by kernel_rfl) (by kernel_rfl) (by omega)) rfl ?_;refine pX ?_;refine J1 ?_)
     all_goals refine aP results169 (λ w hw=>?_);exact⟨by rw[Int.zero_add];rfl,hw.done⟩
theorem aFy(hn:n<=2)(w:World):Calls prog 165 #[.int .u64 (n:Int)] w λ e w'=>e=.returned (.int .i64 (n:Int))/\Ct.St w [] [] w':=by
 refine enter func165 ntmps165 rfl rfl (SF.s0 w) ?_;simp only[bY];refine kt ?_;refine aX (λ c0=>?_) (λ c0=>?_);·exact nv c0
 ·refine Kc6 ?_;refine aK (cV (hc:=λ w1 hw=>aAv hn w1)) (λ x7=>?_);refine J1 ?_;refine aP results165 (λ w hw=>?_);exact⟨rfl,hw.done⟩
theorem aD7(hn:l.length<=2)(hl:dk l)(q:Int)(hs:SF w D [] [] [] [Tg p c l] w):Calls prog 164 #[.slice p l.length c,.int .i64 0,.int .i64 (l.length:Int),.int .i64 q,aC7] w λ e w'=>∃q:List (Nat×ByteArray×Int),e=.returned (.tuple #[])/\q.Perm l/\SF w D [] [] [] [Tg p c q] w':=by
 refine enter func164 ntmps164 rfl rfl hs ?_;simp only[bY];refine cC ?_;refine J69 ?_;refine R9 ?_;refine bF ?_;refine lV ?_;refine aBa ?_;refine Kc5 ?_;refine xW ?_;refine aC ?_;refine aX (λ c25=>?_) (λ c25=>?_)
 ·try (first|contradiction|(exfalso;omega))
  refine lV ?_;refine Jh ?_;refine aJ (cM (φ:=λ q=>q.Perm l) (V:=λ _:List (Nat×ByteArray×Int)=>.tuple #[]) (hs:=[]) (os:=[Tg p c l]) (A0:=[]) (hs':=λ _=>[]) (os':=λ q=>[Tg p c q]) (Fc:=λ _=>[]) (hc:=λ w1 hw=>e9 hn hl hw)) (λ x30 h30=>?_);refine aC ?_;refine bJ results164 (λ w hw=>?_);exact⟨x30,rfl,h30,hw.eP⟩
 ·try ((exfalso;omega))
theorem w7(hn:l.length<=2)(hl:dk l)(hs:SF w D [] [] [] [Tg p c l] w):Calls prog 125 #[.slice p l.length c,aC7] w λ e w'=>∃q:List (Nat×ByteArray×Int),e=.returned (.tuple #[])/\q.Perm l/\SF w D [] [] [] [Tg p c q] w':=by refine enter func125 ntmps125 rfl rfl hs ?_;simp only[bY];refine J2 ?_;refine cZ ?_;refine J1 ?_;refine Js ?_;refine Jh ?_;refine aA (Mg (k2:=.i64) rf (by kernel_rfl) (by kernel_rfl) (by omega)) rfl ?_;refine aK (cV (hc:=λ w1 hw=>aFy hn w1)) (λ x11=>?_);refine aD ?_;refine aJ (cM (φ:=λ q=>q.Perm l) (V:=λ _:List (Nat×ByteArray×Int)=>.tuple #[]) (hs:=[]) (os:=[Tg p c l]) (A0:=[]) (hs':=λ _=>[]) (os':=λ q=>[Tg p c q]) (Fc:=λ _=>[]) (hc:=λ w1 hw=>aD7 hn hl _ hw)) (λ x13 h13=>?_);refine aC ?_;refine Qd results125 (λ w hw=>?_);exact⟨x13,rfl,h13,hw.eP⟩
def Je(pk:Nat->ByteArray)(m:Nat)(q:Nat×Nat):Nat×ByteArray×Int:=(tP (pk q.1) m,pk q.1,(q.1:Int))
abbrev fp(pk:Nat->ByteArray)(v:Nat):ByteArray×Int:=(pk v,(v:Int))
variable{seen:Array Nat}
theorem iu{e:MapEntry}(h:e∈(leftOf ⟨kW pk mv⟩ seen).toList):∃q∈mv,e=⟨.string (pk q.1),.int .u64 ((q.1:Nat):Int),q.2⟩/\seen.contains q.2=false:=by obtain⟨h1,h2⟩:=mem_left h;obtain⟨q,hq,rfl⟩:=List.mem_map.1 h1;exact⟨q,hq,rfl,h2⟩
theorem cy{q:Nat×Nat}(hp:(L++R).Perm mv)(hs:∀b,seen.contains b=true↔b∈L.map Prod.snd)(hq:q∈mv)(hn:seen.contains q.2=false):(L++[q]++R.erase q).Perm mv/\(R.erase q).length+1=R.length/\∀b,(seen.push q.2).contains b=true↔b∈(L++[q]).map Prod.snd:=by
 have hR:q∈R:=by
  rcases List.mem_append.1 (hp.mem_iff.2 hq) with h|h;·have:=(hs q.2).2 (List.mem_map.2 ⟨q,h,rfl⟩);rw[this] at hn;cases hn
  ·exact h
 refine⟨?_,by rw[List.length_erase_of_mem hR];have:=List.length_pos_of_mem hR;omega,λ b=>?_⟩;·rw[List.append_assoc];exact(List.Perm.append_left L (List.perm_cons_erase hR).symm).trans hp
 ·have e:(seen.push q.2).contains b=(seen.contains b||decide (b=q.2)):=by rw[Bool.eq_iff_iff];simp[Array.contains_iff_mem,Array.mem_push]
  rw[e,Bool.or_eq_true,hs b,decide_eq_true_iff,List.map_append,List.mem_append];simp
theorem my(hp:(L++R).Perm mv)(hs:∀b,seen.contains b=true↔b∈L.map Prod.snd)(hd:(mv.map Prod.snd).Nodup)(h:(leftOf ⟨kW pk mv⟩ seen).size=0):R=[]:=by refine List.eq_nil_iff_forall_not_mem.2 λ q hq=>?_;have h1:=all_seen _ _ h ⟨.string (pk q.1),.int .u64 ((q.1:Nat):Int),q.2⟩ (List.mem_map.2 ⟨q,hp.mem_iff.1 (List.mem_append_right _ hq),rfl⟩);have h2:=(hs q.2).1 h1;have h3:((L++R).map Prod.snd).Nodup:=(hp.map Prod.snd).nodup_iff.2 hd;rw[List.map_append,List.nodup_append] at h3;exact h3.2.2 q.2 h2 q.2 (List.mem_map.2 ⟨q,hq,rfl⟩) rfl
theorem fj{q:List (Nat×ByteArray×Int)}(h:q.Perm (L.map (Je pk m))):∃vs:List Nat,vs.Perm (L.map Prod.fst)/\q.map (λ x=>x.2)=vs.map (fp pk):=by
 refine⟨q.map λ x=>x.2.2.toNat,?_,?_⟩;·refine(h.map λ x=>x.2.2.toNat).trans ?_;rw[List.map_map];exact List.Perm.of_eq (List.map_congr_left λ a _=>by simp[Je])
 ·rw[List.map_map];refine List.map_congr_left λ x hx=>?_;obtain⟨a,_,rfl⟩:=List.mem_map.1 (h.mem_iff.1 hx);simp[Je,fp]
abbrev Vb(pk:Nat->ByteArray):Prop:=∀v,v=1∨v=2->(pk v).size<=64
abbrev pr0:ByteArray×Int:=(⟨#[]⟩,0)
def Ue(q:List (Nat×ByteArray×Int))(i:Nat):List (ByteArray×Int):=(q.take i).map (λ x=>x.2)++List.replicate (q.length-i) pr0
variable{q:List (Nat×ByteArray×Int)}{i:Nat}
theorem aCc(h:i<q.length):(Ue q i)[i]?=some pr0:=by unfold Ue;rw[List.getElem?_append_right (by rw[List.length_map,List.length_take];exact Nat.min_le_left _ _)];simp only[List.length_map,List.length_take];rw[Nat.min_eq_left (by omega),Nat.sub_self,List.getElem?_replicate,if_pos (by omega)]
theorem aAZ{x:Nat×ByteArray×Int}(h:q[i]?=some x):(Ue q i).set i x.2=Ue q (i+1):=by
 have hi:=(List.getElem?_eq_some_iff.1 h).1;have hl:((q.take i).map (λ x=>x.2)).length=i:=by rw[List.length_map,List.length_take,Nat.min_eq_left (by omega)]
 unfold Ue;rw[List.set_append_right _ _ (by rw[hl];exact Nat.le_refl _),hl,Nat.sub_self,show q.length-i=(q.length-(i+1))+1 by omega,List.replicate_succ,List.set_cons_zero,List.take_add_one,h,List.map_append,List.append_assoc];rfl
theorem yb(h:i<=q.length):(Ue q i).length=q.length:=by simp only[Ue,List.length_append,List.length_map,List.length_take,List.length_replicate];omega
theorem z2(q:List (Nat×ByteArray×Int)):Ue q q.length=q.map λ x=>x.2:=by simp[Ue]
set_option maxRecDepth 100000 in
theorem aA0(hK:Vb pk)(hm:m<18446744073709551616)(hv:VM pk mv k)(hs:SF w D (pP m u (kW pk mv) k) A [] [] w):Calls prog 85 #[pt u.b,.agg ⟨[.map (some u.bv),.bool false]⟩] w λ e w'=>∃x:List Nat×Option Addr×Nat,e=.returned (.slice x.2.1 x.1.length x.2.2)/\x.1.Perm (mv.map Prod.fst)/\SF w D (pP m u (kW pk mv) k) [] [(x.2.1,dE Pe (x.1.map (fp pk)))] [] w':=by
 have hlen:=hv.len;have hme:(kW pk mv).length=mv.length:=by simp[kW]
 refine enter func85 ntmps85 rfl rfl hs ?_;simp only[bY];refine K1m ?_;intro x3;refine J1 ?_;refine gP ?_;refine aA (nT (ga (K:=9) (E:=23) rf bU (by kernel_rfl))) rfl ?_;refine aK (vX (m:=0) (k:=mv.length) (cs:=[]) rf (by rw[<- hme];exact rfl) Nc (by omega) (by omega) (by kernel_rfl)) (λ x14=>?_);refine nN ?_;refine gP ?_;refine aK (cK λ _=>Qy (K:=9) (E:=23) rf bU (by kernel_rfl)) (λ x17=>?_);refine Kb2 ?_;refine mE [5,6,7,18,19,20,21,22,23,24,25,26,27,28,29,30,31,32,33,34,35] (λ z:List (Nat×Nat)×List (Nat×Nat)×Array Nat×Option Addr×Nat=>[(5,.slice z.2.2.2.1 (z.1.map (Je pk m)).length z.2.2.2.2)]) (λ z=>(z.1++z.2.1).Perm mv/\∀b,z.2.2.1.contains b=true↔b∈z.1.map Prod.snd) (λ z=>(x17,.mapIter (some u.bv) k z.2.2.1 k)::pP m u (kW pk mv) k) (λ z=>[]) (λ z=>[Tg z.2.2.2.1 z.2.2.2.2 (z.1.map (Je pk m))]) (λ z=>z.2.1.length) (([],mv,#[],some ⟨x14,0,none⟩,mv.length)) (⟨List.Perm.refl _,λ b=>by simp⟩) (λ z f hx=>?_) (hw0:=λ w hw=>hw.back (hH:=by exact(List.sublist_cons_self _ _).cons_cons _) (hF:=by exact aT.nil) (hO:=E0q));refine K0a ?_;obtain⟨L,R,seen,lp,lc⟩:=z;replace hx:(L++R).Perm mv/\∀b,seen.contains b=true↔b∈L.map Prod.snd:=hx;obtain⟨hp,hsn⟩:=hx;have hLl:L.length+R.length=mv.length:=by have:=hp.length_eq;rw[List.length_append] at this;exact this
 dsimp only;refine J0 ?_;refine aJ (aAB (es:=kW pk mv) (c:=k) (m:=u.bv) rf bU bU (λ e he=>by obtain⟨q,hq,rfl⟩:=List.mem_map.1 he;exact hv.b q hq) (Nat.le_refl _)) (λ x18 h18=>?_);rcases x18 with _|e
 all_goals dsimp only at h18 ⊢
 all_goals (refine oL ?_;refine Bz ?_)
 all_goals
 refine aX (λ c19=>?_) (λ c19=>?_)
 ·try exact nv c19
  all_goals obtain⟨q,hq,rfl,hqn⟩:=iu h18;obtain⟨hp2,hl2,hsn2⟩:=cy hp hsn hq hqn;have hqk:=hK q.1 (hv.v q hq)
  all_goals (refine bD ?_;refine bF ?_;refine J0 ?_;refine aA (nT (Zl (c:=k) (es:=kW pk mv) (e:=⟨.string (pk q.1),.int .u64 ((q.1:Nat):Int),q.2⟩) rf bU bU (List.mem_map.2 ⟨q,hq,rfl⟩) (by have:=hv.d;simpa[kW,Function.comp_def] using this))) rfl ?_;refine J54 ?_;refine J8 ?_;refine Js ?_;refine Jh ?_;refine cA ?_;refine J3 ?_;refine aK (cV (v:=.int .u64 ((tP (pk q.1) m:Nat):Int)) (hc:=λ w1 hw=>vU (m:=m) (pk q.1) hm (by omega) w1)) (λ x29=>?_);refine Jh ?_;refine bX ?_;refine bX ?_;refine aK (by exact mH λ _=>bO Nc zN rf rf rf rf E0b) (λ x34=>?_);(refine aK (aQ.eG (wP (f:=Jf) (l:=L.map (Je pk m)) (v1:=Je pk m q) jD (by decide) rfl rf rf .head rfl (.new .head) Nc rfl fU (by rw[List.length_map];omega)) nM) (λ x35=>?_);try (refine eF (λ h35=>?_)));refine J1 ?_;refine eX ?_)
  all_goals
   refine jS ((L++[q],R.erase q,seen.push q.2,x35.1,x35.2)) ?_ ?_ E0k ?_ (λ w hw=>by rw[show L.map (Je pk m)++[Je pk m q]=(L++[q]).map (Je pk m) by simp] at hw;exact hw.back (hF:=by exact aT.nil));·show(R.erase q).length<R.length;omega
   ·repeat' (first|exact bH _|refine aY ?_ ?_)
    (rw[show(List.map (Je pk m) L).length+1=((L++[q]).map (Je pk m)).length by simp];exact rfl)
   ·exact⟨hp2,hsn2⟩
 ·try exact nv c19
  all_goals
   obtain rfl:=my hp hsn hv.d h18;rw[List.append_nil] at hp;have hok:dk (L.map (Je pk m)):=λ x hx=>by obtain⟨a,_,rfl⟩:=List.mem_map.1 hx;exact L7 _ _
   have hl2:(L.map (Je pk m)).length<=2:=by rw[List.length_map];simp at hLl;omega
  all_goals (refine bQ rfl ?_;refine J2 ?_;refine aJ (cM (φ:=λ q=>q.Perm (L.map (Je pk m))) (V:=λ _:List (Nat×ByteArray×Int)=>.tuple #[]) (hs:=[]) (os:=[Tg lp lc (L.map (Je pk m))]) (A0:=[]) (hs':=λ _=>[]) (os':=λ q=>[Tg lp lc q]) (Fc:=λ _=>[]) (hc:=λ w1 hw=>w7 hl2 hok hw)) (λ x37 h37=>?_))
  all_goals have hxl:=h37.length_eq;obtain⟨vs,hvs,hve⟩:=fj h37;generalize x37=qs at hxl hve
  all_goals (refine aC ?_;refine J2 ?_;refine cZ ?_;refine aK (vX (m:=(L.map (Je pk m)).length) (k:=(L.map (Je pk m)).length) (cs:=dE Pe (Ue qs 0)) rf rf ye (by omega) (by omega) (by rw[show Ue qs 0=List.replicate (L.map (Je pk m)).length pr0 by simp[Ue,hxl]];exact Kz Bn (by decide) pr0 _)) (λ x40=>?_);refine Kc5 ?_;refine Ka9 ?_)
  all_goals
   refine mE [9,10,43,44,45,46,47,48,49,50,51,52,53] (λ i:Nat=>[(43,.int .i64 ((i:Nat):Int))]) (λ i=>i<=qs.length) (λ _=>_) (λ _=>_) (λ i=>[⟨some ⟨x40,0,none⟩,dE Pe (Ue qs i),(L.map (Je pk m)).length,162,2⟩,Tg lp lc qs]) (λ i=>qs.length-i) (0) (Nat.zero_le _) (λ i f hx=>?_);refine K2b ?_;refine aX (λ c44=>?_) (λ c44=>?_)
   ·try (first|contradiction|(exfalso;omega))
    have hi:i<qs.length:=by omega
    obtain⟨y,hy⟩:∃y,qs[i]?=some y:=⟨qs[i],List.getElem?_eq_getElem hi⟩;refine Kb4 ?_;refine aA (cR (f:=Jf) (l:=qs) (k:=i) jD (by decide) rf rf fU (by kernel_rfl) (.own (.tail .head)) (by omega) hi) rfl ?_;refine aA (fJ (f:=Jf) (l:=qs) (k:=i) jD rf (by kernel_rfl) (.own (.tail .head)) hy) rfl ?_;refine aK (cK λ _=>iJ (z:=Jf Jv) (by kernel_rfl)) (λ x10=>?_);refine fD (λ _=>?_);refine aM (cK λ _=>aE rf bU rf rfl (by kernel_rfl) rf dV) (λ _=>?_);refine aC ?_;refine U4 ?_;refine aF ?_;refine aA (cO (k:=2) (vs:=Pe y.2) rf bU (by kernel_rfl) rfl rfl) rfl ?_;refine aA (cR (f:=Pe) (l:=Ue qs i) (k:=i) Bn (by decide) rf rf fU (by kernel_rfl) (.own .head) (by omega) (by rw[yb (by omega)];exact hi)) rfl ?_;refine aM (aQ.iN (wV (f:=Pe) (l:=Ue qs i) (k:=i) (v1:=y.2) Bn rf rf rfl (by kernel_rfl) .head (aCc hi) (by decide)) nM) (λ _=>?_);refine aC ?_;refine Kb6 ?_;refine nS (i+1) ?_ (hw1:=λ w hw=>by rw[aAZ hy] at hw;exact hw.v6) (hμ:=by omega);·exact hi
   ·try (first|contradiction|(exfalso;omega))
    refine K1o ?_;refine Kc4 ?_;refine aP results85 (λ w hw=>?_);obtain rfl:i=qs.length:=by omega
    rw[z2,hve] at hw;refine⟨(vs,some ⟨x40,0,none⟩,(L.map (Je pk m)).length),?_,hvs.trans (hp.map _),(hw.freeze .head).ret E0a (aT.bA λ f hf=>by simp at hf;simp[hf]) (List.nil_sublist _)⟩;have e:(L.map (Je pk m)).length=vs.length:=by rw[hvs.length_eq];simp
    rw[e];rfl
theorem lh(hK:Vb pk)(hm:m<18446744073709551616)(hv:VM pk mv k)(hs:SF w D (pP m u (kW pk mv) k) A [] [] w):Calls prog 56 #[pt u.b,.int .i64 0] w λ e w'=>∃x:List Nat×Option Addr×Nat,e=.returned (.tuple #[.slice x.2.1 x.1.length x.2.2,.bool false,.bool true])/\x.1.Perm (mv.map Prod.fst)/\SF w D (pP m u (kW pk mv) k) [] [(x.2.1,dE Pe (x.1.map (fp pk)))] [] w':=by
 refine enter func56 ntmps56 rfl rfl hs ?_;simp only[bY];refine J0 ?_;refine fD (λ _=>?_);refine J8 ?_;refine zG ?_;refine aD ?_;refine aA (nT (iO (K:=3) (E:=116) (dK:=.int .i64) (ze:=.agg ⟨[.map none,.bool false]⟩) (k:=.int .i64 0) (es:=Yj u.bv) (c:=1) (r:=some (0,.agg ⟨[.map (some u.bv),.bool false]⟩)) rf rf bU (by kernel_rfl) (by kernel_rfl) rfl (by kernel_rfl) rfl)) rfl ?_;refine Ot ?_;refine aI (λ x7=>?_);refine aM (cK λ _=>aE (cs:=[.map (some u.bv),.bool false]) rf bU rf rfl (by kernel_rfl) rf dV) (λ _=>?_);refine Kc5 ?_;refine pG ?_;refine aX (λ c19=>?_) (λ c19=>?_);·try (contradiction)
 ·try (first|contradiction|(exfalso;omega))
  refine mD ?_;refine eQ [(0,[]),(1,[]),(3,[]),(4,[]),(2,[4]),(5,[4]),(6,[]),(7,[])] ?_;refine aR ?_;refine cJ ?_;refine iX ?_;refine bS (i:=2) (hq:=(cM (φ:=λ x=>x.1.Perm (mv.map Prod.fst)) (V:=λ x:List Nat×Option Addr×Nat=>.slice x.2.1 x.1.length x.2.2) (hs:=pP m u (kW pk mv) k) (os:=[]) (A0:=[]) (hs':=λ _=>pP m u (kW pk mv) k) (os':=λ _=>[]) (Fc:=λ x=>[(x.2.1,dE Pe (x.1.map (fp pk)))]) (hc:=λ w1 hw=>aA0 hK hm hv hw))) (h:=λ x22 h22=>?_);refine oK (h:=λ _=>?_);refine mg ?_;refine bJ results56 (λ w hw=>?_);exact⟨x22,rfl,h22,hw.ret E0a (by exact aT.all) (List.Sublist.refl _)⟩
end
end
end Go.Proofs.YthblobahelfefaaGreatDoor

/- Several loud operations may be next; the ways meet again. Written by a program. -/
import Derived.Test.YtbajmaoegmbfgaaGreatAuto
set_option linter.unusedSimpArgs false
set_option linter.unusedVariables false
namespace Go.Ct
open Go Go.RowKit
section
variable{P:Program}{n:Nat}{Q:Exit->Act->World->Prop}{ks:List CK}{ops:Array Oper}{pl pl':pX}{LL:List Nat}{Dl Dp Dq:List Nat}{S:List (Nat×Value)}{G:World->Prop}{w0:World}{M:List Nat}{H:List (Nat×Obj)}{A F:Fr}{O:List Ow}
inductive LS(P:Program)(n:Nat)(Q:Exit->Act->World->Prop)(ks:List CK)(ops:Array Oper)(Dl Dp Dq:List Nat)(S:List (Nat×Value))(G:World->Prop):pX->List Nat->Prop where
 | nil:LS P n Q ks ops Dl Dp Dq S G .nil []
 | cons {i:Nat} {L:List Nat} {pl q:pX} {E:List Nat} (h:fJ P n Q ks ops pl Dl Dp Dq S G i L) (r:LS P n Q ks ops Dl Dp Dq S G q E):LS P n Q ks ops Dl Dp Dq S G (.two i L pl 0 [] q) (i::E)
theorem LS.get{pl:pX}{E:List Nat}(h:LS P n Q ks ops Dl Dp Dq S G pl E):∀i∈E,fJ P n Q ks ops .nil Dl Dp Dq S G i []:=by
 induction h with
 | nil=>exact λ _ h=>(List.not_mem_nil h).elim
 | cons h _ ih =>
  intro j hj
  rcases List.mem_cons.1 hj with rfl|hj
  ·exact h.ot
  ·exact ih j hj
theorem gT{E:List Nat}{q:pX}(hc:iU ops Dl Dp Dq E=true)(h:LS P n Q ks ops Dl Dp Dq S G q E):JR P n Q ks ops q Dl Dp Dq S G:=by
 simp only[iU,Bool.and_eq_true] at hc
 exact⟨Yv (pl':=.nil) (LL:=[]) hc.1.1 hc.1.2 hc.2 h.get⟩
theorem jx{X:Type}(keys:List Nat)(K:X->List (Nat×Value))(GI:X->World->Prop){c:Code}(hn:(keys.all λ k=>Nat.blt k n)=true)(hKn:∀x,((K x).all λ p=>Nat.blt p.1 n)=true)
  (h1:JK P n Q (.code c::.inv (kY n keys K GI (λ _=>0) S 1)::ks) S G) (h2:∀x f,JK P n Q ks (K x++(iA keys f++S)) (GI x)):JK P n Q (.code c::ks) S G:=⟨λ hS w hw=>by
 have h:=h1.run hS w hw
 simp only[runK] at h ⊢
 intro b k cs
 obtain⟨e,a₁,w₁,hq,harr⟩:=h b k cs
 rw[Pe] at hq
 refine⟨e,a₁,w₁,?_,harr⟩
 cases e with
 | normal =>
  obtain⟨x',S1,_,rfl,_,hk',hp',hg'⟩:=hq
  have:=(h2 x' (look S1)).run ((hS.iA hn).lW (hKn x')) w₁ hg'
  rw[<- Sr hp' hk'] at this
  exact this
 | exit id=>exact hq
 | goto l=>exact hq
 | ret=>exact hq
 | panic ch=>exact hq
 | outgrown=>exact hq⟩
theorem La{Y:Type}(keys:List Nat)(K:Y->List (Nat×Value))(I:Y->Prop)(Hc:Y->List (Nat×Obj))(Fc:Y->Fr)(Oc:Y->List Ow){H1:Y->List (Nat×Obj)}{F1:Y->Fr}{O1:Y->List Ow}{c:Code}(hn:(keys.all λ k=>Nat.blt k n)=true)(hKn:∀x,((K x).all λ p=>Nat.blt p.1 n)=true)
  (hH1:∀x,Hc x++H=H1 x) (hF1:∀x,Fc x++F=F1 x) (hO1:∀x,Oc x++O=O1 x)
  (h1:JK P n Q (.code c::.inv (kY n keys K (λ x w=>I x/\SF w0 M (H1 x) A (F1 x) (O1 x) w) (λ _=>0) S 1)::ks) S (SF w0 M H A F O))
  (h2:∀x f,I x->JK P n Q ks (K x++(iA keys f++S)) (SF w0 M (H1 x) A (F1 x) (O1 x))):JK P n Q (.code c::ks) S (SF w0 M H A F O):=jx keys K _ hn hKn h1 λ x f=>Q5 λ h=>h2 x f h
theorem eQ{Y:Type}(keys:List Nat)(K:Y->List (Nat×Value))(I:Y->Prop)(H1:Y->List (Nat×Obj))(F1:Y->Fr)(O1:Y->List Ow){c:Code}(hn:(keys.all λ k=>Nat.blt k n)=true)(hKn:∀x,((K x).all λ p=>Nat.blt p.1 n)=true)
  (h1:JK P n Q (.code c::.inv (kY n keys K (λ x w=>I x/\SF w0 M (H1 x) A (F1 x) (O1 x) w) (λ _=>0) S 1)::ks) S (SF w0 M H A F O))
  (h2:∀x f,I x->JK P n Q ks (K x++(iA keys f++S)) (SF w0 M (H1 x) A (F1 x) (O1 x))):JK P n Q (.code c::ks) S (SF w0 M H A F O):=jx keys K _ hn hKn h1 λ x f=>Q5 λ h=>h2 x f h
theorem Uq{H':List (Nat×Obj)}{O':List Ow}(hH:H'.Perm H)(hO:O'.Perm O):(Ks H' O').Perm (Ks H O):=(hH.map _).append (List.Perm.flatMap_right _ hO)
theorem St.perm{w w0:World}{H H':List (Nat×Obj)}(h:St w0 M H w)(hs:H'.Perm H):St w0 M H' w:=⟨h.os,h.tape,h.output,h.size,h.kB,λ p hp=>h.has p (hs.mem_iff.1 hp),λ p hp=>h.new p (hs.mem_iff.1 hp),(hs.map _).nodup_iff.2 h.nodup⟩
theorem SF.perm{w:World}{H':List (Nat×Obj)}{O':List Ow}(h:SF w0 M H A F O w)(hH:H'.Perm H)(hO:O'.Perm O):SF w0 M H' A F O' w:=by
 have hs:=Uq hH hO
 exact⟨h.st.perm hH,λ f hf=>⟨(h.bJ f hf).1,λ hc hm=>(h.bJ f hf).2 hc (hs.mem_iff.1 hm)⟩,λ f hf=>⟨(h.new f hf).1,λ hc=>⟨λ hm=>((h.new f hf).2 hc).1 (hs.mem_iff.1 hm),((h.new f hf).2 hc).2⟩⟩,λ o ho=>h.own o (hO.mem_iff.1 ho),hs.nodup_iff.2 h.dis⟩
end
end Go.Ct
namespace Go.Proofs.YtbajmaoegmbfgaaGreat
open Go Go.RowKit Go.Ct
variable{n:Nat}{Q:Exit->Act->World->Prop}{ks:List CK}{S:List (Nat×Value)}{ops:Array Oper}{l ol:List Oper}{pl:pX}{LL:List Nat}{Dl Dp Dq:List Nat}
variable{w0:World}{M:List Nat}{H:List (Nat×Obj)}{A F:Fr}{O:List Ow}{G:World->Prop}{i d:Nat}{v:Value}{op:Op}{ty:TypeId}{pos:String}{af:Array Edge}{gd:Option (Nat×Bool)}{X:Type}{V:X->Value}{G':X->World->Prop}{j g:Nat}{want t:Bool}
theorem dj(ho:eM ol i ⟨some d,op,ty,pos,af,gd⟩:=by exact gH)(hw:Region.wanted ⟨some d,op,ty,pos,af,gd⟩ (bF ⟨ol⟩ S)=true:=by exact rfl)(hq:bC Tryz.prog S G ⟨some d,op,ty,pos,af,gd⟩ X V G':=by first|exact A4 sk|exact B6 Yd|exact o_build0V Ns rf)(hc:gU ⟨ol⟩ n Dl Dp Dq i (some d)=true:=by decide +kernel)(hL:((Ct.waiting ⟨ol⟩ Dq i).all λ j=>LL.elem j)=true:=by decide +kernel)(hfire:∀x,aK Tryz.prog ⟨ol⟩ ((d,V x)::S) (G' x) LL:=by exact mQ)(h:∀x,JR Tryz.prog n Q ks ⟨ol⟩ pl (i::Dl) Dp Dq ((d,V x)::S) (G' x)):fJ Tryz.prog n Q ks ⟨ol⟩ pl Dl Dp Dq S G i LL:=kJ ho hw hq hc hL hfire h
theorem Zz(ho:eM ol i ⟨some d,op,ty,pos,af,gd⟩:=by exact gH)(hw:Region.wanted ⟨some d,op,ty,pos,af,gd⟩ (bF ⟨ol⟩ S)=true:=by exact rfl)(hq:bC Tryz.prog S G ⟨some d,op,ty,pos,af,gd⟩ X V G':=by exact Gu)(hc:gU ⟨ol⟩ n Dl Dp Dq i (some d)=true:=by decide +kernel)(hL:((Ct.waiting ⟨ol⟩ Dq i).all λ j=>LL.elem j)=true:=by decide +kernel)(hfire:∀x,aK Tryz.prog ⟨ol⟩ ((d,V x)::S) (G' x) LL:=by exact mQ)(h:∀x,JR Tryz.prog n Q ks ⟨ol⟩ pl (i::Dl) Dp Dq ((d,V x)::S) (G' x)):fJ Tryz.prog n Q ks ⟨ol⟩ pl Dl Dp Dq S G i LL:=kJ ho hw hq hc hL hfire h
theorem mB(ho:eM ol i ⟨some d,op,ty,pos,af,gd⟩:=by exact gH)(hw:Region.wanted ⟨some d,op,ty,pos,af,gd⟩ (bF ⟨ol⟩ S)=true:=by exact rfl)(hq:bC Tryz.prog S G ⟨some d,op,ty,pos,af,gd⟩ X V G':=by exact tA)(hc:gU ⟨ol⟩ n Dl Dp Dq i (some d)=true:=by decide +kernel)(hL:((Ct.waiting ⟨ol⟩ Dq i).all λ j=>LL.elem j)=true:=by decide +kernel)(hfire:∀x,aK Tryz.prog ⟨ol⟩ ((d,V x)::S) (G' x) LL:=by exact mQ)(h:∀x,JR Tryz.prog n Q ks ⟨ol⟩ pl (i::Dl) Dp Dq ((d,V x)::S) (G' x)):fJ Tryz.prog n Q ks ⟨ol⟩ pl Dl Dp Dq S G i LL:=kJ ho hw hq hc hL hfire h
theorem gZ(ho:eM ol i ⟨some d,op,ty,pos,af,gd⟩:=by exact gH)(hw:Region.wanted ⟨some d,op,ty,pos,af,gd⟩ (bF ⟨ol⟩ S)=true:=by exact rfl)(hq:bC Tryz.prog S G ⟨some d,op,ty,pos,af,gd⟩ X V G':=by exact Dz)(hc:gU ⟨ol⟩ n Dl Dp Dq i (some d)=true:=by decide +kernel)(hL:((Ct.waiting ⟨ol⟩ Dq i).all λ j=>LL.elem j)=true:=by decide +kernel)(hfire:∀x,aK Tryz.prog ⟨ol⟩ ((d,V x)::S) (G' x) LL:=by exact mQ)(h:∀x,JR Tryz.prog n Q ks ⟨ol⟩ pl (i::Dl) Dp Dq ((d,V x)::S) (G' x)):fJ Tryz.prog n Q ks ⟨ol⟩ pl Dl Dp Dq S G i LL:=kJ ho hw hq hc hL hfire h
theorem V5(ho:eM ol i ⟨some d,op,ty,pos,af,gd⟩:=by exact gH)(hw:Region.wanted ⟨some d,op,ty,pos,af,gd⟩ (bF ⟨ol⟩ S)=true:=by exact rfl)(hq:bC Tryz.prog S G ⟨some d,op,ty,pos,af,gd⟩ X V G':=by exact gD (Aj wn))(hc:gU ⟨ol⟩ n Dl Dp Dq i (some d)=true:=by decide +kernel)(hL:((Ct.waiting ⟨ol⟩ Dq i).all λ j=>LL.elem j)=true:=by decide +kernel)(hfire:∀x,aK Tryz.prog ⟨ol⟩ ((d,V x)::S) (G' x) LL:=by exact mQ)(h:∀x,JR Tryz.prog n Q ks ⟨ol⟩ pl (i::Dl) Dp Dq ((d,V x)::S) (G' x)):fJ Tryz.prog n Q ks ⟨ol⟩ pl Dl Dp Dq S G i LL:=kJ ho hw hq hc hL hfire h
theorem It(ho:eM ol i ⟨some d,op,ty,pos,af,gd⟩:=by exact gH)(hw:Region.wanted ⟨some d,op,ty,pos,af,gd⟩ (bF ⟨ol⟩ S)=true:=by exact rfl)(hq:bC Tryz.prog S G ⟨some d,op,ty,pos,af,gd⟩ X V G')(hc:gU ⟨ol⟩ n Dl Dp Dq i (some d)=true:=by decide +kernel)(hL:((Ct.waiting ⟨ol⟩ Dq i).all λ j=>LL.elem j)=true:=by decide +kernel)(hfire:∀x,aK Tryz.prog ⟨ol⟩ ((d,V x)::S) (G' x) LL:=by exact mQ)(h:∀x,JR Tryz.prog n Q ks ⟨ol⟩ pl (i::Dl) Dp Dq ((d,V x)::S) (G' x)):fJ Tryz.prog n Q ks ⟨ol⟩ pl Dl Dp Dq S G i LL:=kJ ho hw hq hc hL hfire h
theorem mY{φ:X->Prop}(ho:eM ol i ⟨some d,op,ty,pos,af,gd⟩:=by exact gH)(hw:Region.wanted ⟨some d,op,ty,pos,af,gd⟩ (bF ⟨ol⟩ S)=true:=by exact rfl)(hq:bC Tryz.prog S G ⟨some d,op,ty,pos,af,gd⟩ X V (λ x w=>φ x/\G' x w))(hc:gU ⟨ol⟩ n Dl Dp Dq i (some d)=true:=by decide +kernel)(hL:((Ct.waiting ⟨ol⟩ Dq i).all λ j=>LL.elem j)=true:=by decide +kernel)(hfire:∀x,aK Tryz.prog ⟨ol⟩ ((d,V x)::S) (λ w=>φ x/\G' x w) LL:=by exact mQ)(h:∀x,φ x->JR Tryz.prog n Q ks ⟨ol⟩ pl (i::Dl) Dp Dq ((d,V x)::S) (G' x)):fJ Tryz.prog n Q ks ⟨ol⟩ pl Dl Dp Dq S G i LL:=kJ ho hw hq hc hL hfire λ x=>eG (h x)
end Go.Proofs.YtbajmaoegmbfgaaGreat

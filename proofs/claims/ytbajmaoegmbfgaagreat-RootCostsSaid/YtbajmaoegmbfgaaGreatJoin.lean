/- Several loud operations may be next; the ways meet again. Written by a program. -/
import Derived.Test.YtbajmaoegmbfgaaGreatAuto
set_option linter.unusedSimpArgs false
set_option linter.unusedVariables false
namespace Go.Ct
open Go Go.RowKit
section
variable{P:Program}{n:Nat}{Q:Exit->Act->World->Prop}{ks:List CK}{ops:Array Oper}{pl pl':qF}{LL:List Nat}{Dl Dp Dq:List Nat}{S:List (Nat×Value)}{G:World->Prop}{w0:World}{M:List Nat}{H:List (Nat×Obj)}{A F:Fr}{O:List Ow}
inductive LS(P:Program)(n:Nat)(Q:Exit->Act->World->Prop)(ks:List CK)(ops:Array Oper)(Dl Dp Dq:List Nat)(S:List (Nat×Value))(G:World->Prop):qF->List Nat->Prop where
 | nil:LS P n Q ks ops Dl Dp Dq S G .nil []
 | cons {i:Nat} {L:List Nat} {pl q:qF} {E:List Nat} (h:fM P n Q ks ops pl Dl Dp Dq S G i L) (r:LS P n Q ks ops Dl Dp Dq S G q E):LS P n Q ks ops Dl Dp Dq S G (.two i L pl 0 [] q) (i::E)
theorem LS.get{pl:qF}{E:List Nat}(h:LS P n Q ks ops Dl Dp Dq S G pl E):∀i∈E,fM P n Q ks ops .nil Dl Dp Dq S G i []:=by
 induction h with
 | nil=>exact λ _ h=>(List.not_mem_nil h).elim
 | cons h _ ih =>
  intro j hj
  rcases List.mem_cons.1 hj with rfl|hj
  ·exact h.td
  ·exact ih j hj
theorem fD{E:List Nat}{q:qF}(hc:jB ops Dl Dp Dq E=true)(h:LS P n Q ks ops Dl Dp Dq S G q E):JR P n Q ks ops q Dl Dp Dq S G:=by
 simp only[jB,Bool.and_eq_true] at hc
 exact⟨jd (pl':=.nil) (LL:=[]) hc.1.1 hc.1.2 hc.2 h.get⟩
theorem ap{X:Type}(keys:List Nat)(K:X->List (Nat×Value))(GI:X->World->Prop){c:Code}(hn:(keys.all λ k=>Nat.blt k n)=true)(hKn:∀x,((K x).all λ p=>Nat.blt p.1 n)=true)
  (h1:JK P n Q (.code c::.inv (lF n keys K GI (λ _=>0) S 1)::ks) S G) (h2:∀x f,JK P n Q ks (K x++(hX keys f++S)) (GI x)):JK P n Q (.code c::ks) S G:=⟨λ hS w hw=>by
 have h:=h1.run hS w hw
 simp only[runK] at h ⊢
 intro b k cs
 obtain⟨e,a₁,w₁,hq,harr⟩:=h b k cs
 rw[Pw] at hq
 refine⟨e,a₁,w₁,?_,harr⟩
 cases e with
 | normal =>
  obtain⟨x',S1,_,rfl,_,hk',hp',hg'⟩:=hq
  have:=(h2 x' (look S1)).run ((hS.hX hn).mY (hKn x')) w₁ hg'
  rw[<- Tv hp' hk'] at this
  exact this
 | exit id=>exact hq
 | goto l=>exact hq
 | ret=>exact hq
 | panic ch=>exact hq
 | outgrown=>exact hq⟩
theorem No{Y:Type}(keys:List Nat)(K:Y->List (Nat×Value))(I:Y->Prop)(Hc:Y->List (Nat×Obj))(Fc:Y->Fr)(Oc:Y->List Ow){H1:Y->List (Nat×Obj)}{F1:Y->Fr}{O1:Y->List Ow}{c:Code}(hn:(keys.all λ k=>Nat.blt k n)=true)(hKn:∀x,((K x).all λ p=>Nat.blt p.1 n)=true)
  (hH1:∀x,Hc x++H=H1 x) (hF1:∀x,Fc x++F=F1 x) (hO1:∀x,Oc x++O=O1 x)
  (h1:JK P n Q (.code c::.inv (lF n keys K (λ x w=>I x/\SF w0 M (H1 x) A (F1 x) (O1 x) w) (λ _=>0) S 1)::ks) S (SF w0 M H A F O))
  (h2:∀x f,I x->JK P n Q ks (K x++(hX keys f++S)) (SF w0 M (H1 x) A (F1 x) (O1 x))):JK P n Q (.code c::ks) S (SF w0 M H A F O):=ap keys K _ hn hKn h1 λ x f=>Tz λ h=>h2 x f h
theorem dX{Y:Type}(keys:List Nat)(K:Y->List (Nat×Value))(I:Y->Prop)(H1:Y->List (Nat×Obj))(F1:Y->Fr)(O1:Y->List Ow){c:Code}(hn:(keys.all λ k=>Nat.blt k n)=true)(hKn:∀x,((K x).all λ p=>Nat.blt p.1 n)=true)
  (h1:JK P n Q (.code c::.inv (lF n keys K (λ x w=>I x/\SF w0 M (H1 x) A (F1 x) (O1 x) w) (λ _=>0) S 1)::ks) S (SF w0 M H A F O))
  (h2:∀x f,I x->JK P n Q ks (K x++(hX keys f++S)) (SF w0 M (H1 x) A (F1 x) (O1 x))):JK P n Q (.code c::ks) S (SF w0 M H A F O):=ap keys K _ hn hKn h1 λ x f=>Tz λ h=>h2 x f h
theorem Wn{H':List (Nat×Obj)}{O':List Ow}(hH:H'.Perm H)(hO:O'.Perm O):(Ks H' O').Perm (Ks H O):=(hH.map _).append (List.Perm.flatMap_right _ hO)
theorem St.perm{w w0:World}{H H':List (Nat×Obj)}(h:St w0 M H w)(hs:H'.Perm H):St w0 M H' w:=⟨h.os,h.tape,h.output,h.size,h.kL,λ p hp=>h.has p (hs.mem_iff.1 hp),λ p hp=>h.new p (hs.mem_iff.1 hp),(hs.map _).nodup_iff.2 h.nodup⟩
theorem SF.perm{w:World}{H':List (Nat×Obj)}{O':List Ow}(h:SF w0 M H A F O w)(hH:H'.Perm H)(hO:O'.Perm O):SF w0 M H' A F O' w:=by
 have hs:=Wn hH hO
 exact⟨h.st.perm hH,λ f hf=>⟨(h.bA f hf).1,λ hc hm=>(h.bA f hf).2 hc (hs.mem_iff.1 hm)⟩,λ f hf=>⟨(h.new f hf).1,λ hc=>⟨λ hm=>((h.new f hf).2 hc).1 (hs.mem_iff.1 hm),((h.new f hf).2 hc).2⟩⟩,λ o ho=>h.own o (hO.mem_iff.1 ho),hs.nodup_iff.2 h.dis⟩
end
end Go.Ct
namespace Go.Proofs.YtbajmaoegmbfgaaGreat
open Go Go.RowKit Go.Ct
variable{n:Nat}{Q:Exit->Act->World->Prop}{ks:List CK}{S:List (Nat×Value)}{ops:Array Oper}{l ol:List Oper}{pl:qF}{LL:List Nat}{Dl Dp Dq:List Nat}
variable{w0:World}{M:List Nat}{H:List (Nat×Obj)}{A F:Fr}{O:List Ow}{G:World->Prop}{i d:Nat}{v:Value}{op:Op}{ty:TypeId}{pos:String}{af:Array Edge}{gd:Option (Nat×Bool)}{X:Type}{V:X->Value}{G':X->World->Prop}{j g:Nat}{want t:Bool}
theorem vb(ho:eO ol i ⟨some d,op,ty,pos,af,gd⟩:=by exact gI)(hw:Region.wanted ⟨some d,op,ty,pos,af,gd⟩ (bH ⟨ol⟩ S)=true:=by exact rfl)(hq:bG Tryz.prog S G ⟨some d,op,ty,pos,af,gd⟩ X V G':=by first|exact gV λ _=>U3 rf|exact gV λ _=>Mb rf rfl)(hc:gW ⟨ol⟩ n Dl Dp Dq i (some d)=true:=by decide +kernel)(hL:((Ct.waiting ⟨ol⟩ Dq i).all λ j=>LL.elem j)=true:=by decide +kernel)(hfire:∀x,aK Tryz.prog ⟨ol⟩ ((d,V x)::S) (G' x) LL:=by exact mV)(h:∀x,JR Tryz.prog n Q ks ⟨ol⟩ pl (i::Dl) Dp Dq ((d,V x)::S) (G' x)):fM Tryz.prog n Q ks ⟨ol⟩ pl Dl Dp Dq S G i LL:=kG ho hw hq hc hL hfire h
theorem j1(ho:eO ol i ⟨some d,op,ty,pos,af,gd⟩:=by exact gI)(hw:Region.wanted ⟨some d,op,ty,pos,af,gd⟩ (bH ⟨ol⟩ S)=true:=by exact rfl)(hq:bG Tryz.prog S G ⟨some d,op,ty,pos,af,gd⟩ X V G':=by first|exact C9 vk|exact Dd Zr|exact o_build0V Kz rf)(hc:gW ⟨ol⟩ n Dl Dp Dq i (some d)=true:=by decide +kernel)(hL:((Ct.waiting ⟨ol⟩ Dq i).all λ j=>LL.elem j)=true:=by decide +kernel)(hfire:∀x,aK Tryz.prog ⟨ol⟩ ((d,V x)::S) (G' x) LL:=by exact mV)(h:∀x,JR Tryz.prog n Q ks ⟨ol⟩ pl (i::Dl) Dp Dq ((d,V x)::S) (G' x)):fM Tryz.prog n Q ks ⟨ol⟩ pl Dl Dp Dq S G i LL:=kG ho hw hq hc hL hfire h
theorem kf(ho:eO ol i ⟨some d,op,ty,pos,af,gd⟩:=by exact gI)(hw:Region.wanted ⟨some d,op,ty,pos,af,gd⟩ (bH ⟨ol⟩ S)=true:=by exact rfl)(hq:bG Tryz.prog S G ⟨some d,op,ty,pos,af,gd⟩ X V G':=by exact Gz)(hc:gW ⟨ol⟩ n Dl Dp Dq i (some d)=true:=by decide +kernel)(hL:((Ct.waiting ⟨ol⟩ Dq i).all λ j=>LL.elem j)=true:=by decide +kernel)(hfire:∀x,aK Tryz.prog ⟨ol⟩ ((d,V x)::S) (G' x) LL:=by exact mV)(h:∀x,JR Tryz.prog n Q ks ⟨ol⟩ pl (i::Dl) Dp Dq ((d,V x)::S) (G' x)):fM Tryz.prog n Q ks ⟨ol⟩ pl Dl Dp Dq S G i LL:=kG ho hw hq hc hL hfire h
theorem mF(ho:eO ol i ⟨some d,op,ty,pos,af,gd⟩:=by exact gI)(hw:Region.wanted ⟨some d,op,ty,pos,af,gd⟩ (bH ⟨ol⟩ S)=true:=by exact rfl)(hq:bG Tryz.prog S G ⟨some d,op,ty,pos,af,gd⟩ X V G':=by exact tG)(hc:gW ⟨ol⟩ n Dl Dp Dq i (some d)=true:=by decide +kernel)(hL:((Ct.waiting ⟨ol⟩ Dq i).all λ j=>LL.elem j)=true:=by decide +kernel)(hfire:∀x,aK Tryz.prog ⟨ol⟩ ((d,V x)::S) (G' x) LL:=by exact mV)(h:∀x,JR Tryz.prog n Q ks ⟨ol⟩ pl (i::Dl) Dp Dq ((d,V x)::S) (G' x)):fM Tryz.prog n Q ks ⟨ol⟩ pl Dl Dp Dq S G i LL:=kG ho hw hq hc hL hfire h
theorem fI(ho:eO ol i ⟨some d,op,ty,pos,af,gd⟩:=by exact gI)(hw:Region.wanted ⟨some d,op,ty,pos,af,gd⟩ (bH ⟨ol⟩ S)=true:=by exact rfl)(hq:bG Tryz.prog S G ⟨some d,op,ty,pos,af,gd⟩ X V G':=by exact Ep)(hc:gW ⟨ol⟩ n Dl Dp Dq i (some d)=true:=by decide +kernel)(hL:((Ct.waiting ⟨ol⟩ Dq i).all λ j=>LL.elem j)=true:=by decide +kernel)(hfire:∀x,aK Tryz.prog ⟨ol⟩ ((d,V x)::S) (G' x) LL:=by exact mV)(h:∀x,JR Tryz.prog n Q ks ⟨ol⟩ pl (i::Dl) Dp Dq ((d,V x)::S) (G' x)):fM Tryz.prog n Q ks ⟨ol⟩ pl Dl Dp Dq S G i LL:=kG ho hw hq hc hL hfire h
theorem Xw(ho:eO ol i ⟨some d,op,ty,pos,af,gd⟩:=by exact gI)(hw:Region.wanted ⟨some d,op,ty,pos,af,gd⟩ (bH ⟨ol⟩ S)=true:=by exact rfl)(hq:bG Tryz.prog S G ⟨some d,op,ty,pos,af,gd⟩ X V G':=by exact gO (Ao wn))(hc:gW ⟨ol⟩ n Dl Dp Dq i (some d)=true:=by decide +kernel)(hL:((Ct.waiting ⟨ol⟩ Dq i).all λ j=>LL.elem j)=true:=by decide +kernel)(hfire:∀x,aK Tryz.prog ⟨ol⟩ ((d,V x)::S) (G' x) LL:=by exact mV)(h:∀x,JR Tryz.prog n Q ks ⟨ol⟩ pl (i::Dl) Dp Dq ((d,V x)::S) (G' x)):fM Tryz.prog n Q ks ⟨ol⟩ pl Dl Dp Dq S G i LL:=kG ho hw hq hc hL hfire h
theorem Aq(ho:eO ol i ⟨some d,op,ty,pos,af,gd⟩:=by exact gI)(hw:Region.wanted ⟨some d,op,ty,pos,af,gd⟩ (bH ⟨ol⟩ S)=true:=by exact rfl)(hq:bG Tryz.prog S G ⟨some d,op,ty,pos,af,gd⟩ X V G')(hc:gW ⟨ol⟩ n Dl Dp Dq i (some d)=true:=by decide +kernel)(hL:((Ct.waiting ⟨ol⟩ Dq i).all λ j=>LL.elem j)=true:=by decide +kernel)(hfire:∀x,aK Tryz.prog ⟨ol⟩ ((d,V x)::S) (G' x) LL:=by exact mV)(h:∀x,JR Tryz.prog n Q ks ⟨ol⟩ pl (i::Dl) Dp Dq ((d,V x)::S) (G' x)):fM Tryz.prog n Q ks ⟨ol⟩ pl Dl Dp Dq S G i LL:=kG ho hw hq hc hL hfire h
theorem kC{φ:X->Prop}(ho:eO ol i ⟨some d,op,ty,pos,af,gd⟩:=by exact gI)(hw:Region.wanted ⟨some d,op,ty,pos,af,gd⟩ (bH ⟨ol⟩ S)=true:=by exact rfl)(hq:bG Tryz.prog S G ⟨some d,op,ty,pos,af,gd⟩ X V (λ x w=>φ x/\G' x w))(hc:gW ⟨ol⟩ n Dl Dp Dq i (some d)=true:=by decide +kernel)(hL:((Ct.waiting ⟨ol⟩ Dq i).all λ j=>LL.elem j)=true:=by decide +kernel)(hfire:∀x,aK Tryz.prog ⟨ol⟩ ((d,V x)::S) (λ w=>φ x/\G' x w) LL:=by exact mV)(h:∀x,φ x->JR Tryz.prog n Q ks ⟨ol⟩ pl (i::Dl) Dp Dq ((d,V x)::S) (G' x)):fM Tryz.prog n Q ks ⟨ol⟩ pl Dl Dp Dq S G i LL:=kG ho hw hq hc hL hfire λ x=>eI (h x)
end Go.Proofs.YtbajmaoegmbfgaaGreat

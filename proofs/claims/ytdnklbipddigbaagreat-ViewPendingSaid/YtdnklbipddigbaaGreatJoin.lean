/- Merged. -/
import Derived.Test.YtdnklbipddigbaaGreatAuto
set_option linter.unusedSimpArgs false
set_option linter.unusedVariables false
namespace Go.Ct
open Go Go.RowKit
section
variable{P:Program}{n:Nat}{Q:Exit->Act->World->Prop}{ks:List CK}{ops:Array Oper}{pl pl':Plan}{LL:List Nat}{Dl Dp Dq:List Nat}{S:List (Nat×Value)}{G:World->Prop}{w0:World}{M:List Nat}{H:List (Nat×Obj)}{A F:Fr}{O:List Ow}
inductive LS(P:Program)(n:Nat)(Q:Exit->Act->World->Prop)(ks:List CK)(ops:Array Oper)(Dl Dp Dq:List Nat)(S:List (Nat×Value))(G:World->Prop):Plan->List Nat->Prop where
 | nil:LS P n Q ks ops Dl Dp Dq S G .nil []
 | cons {i:Nat} {L:List Nat} {pl q:Plan} {E:List Nat} (h:LoudStep P n Q ks ops pl Dl Dp Dq S G i L) (r:LS P n Q ks ops Dl Dp Dq S G q E):LS P n Q ks ops Dl Dp Dq S G (.two i L pl 0 [] q) (i::E)
theorem LS.get{pl:Plan}{E:List Nat}(h:LS P n Q ks ops Dl Dp Dq S G pl E):∀i∈E,LoudStep P n Q ks ops .nil Dl Dp Dq S G i []:=by
 induction h with
 | nil=>exact λ _ h=>(List.not_mem_nil h).elim
 | cons h _ ih=>
  intro j hj;rcases List.mem_cons.1 hj with rfl|hj;·exact h.anyPlan
  ·exact ih j hj
theorem r_many{E:List Nat}{q:Plan}(hc:loud1Ok ops Dl Dp Dq E=true)(h:LS P n Q ks ops Dl Dp Dq S G q E):JR P n Q ks ops q Dl Dp Dq S G:=by simp only[loud1Ok,Bool.and_eq_true] at hc;exact⟨r_only (pl':=.nil) (LL:=[]) hc.1.1 hc.1.2 hc.2 h.get⟩
theorem k_join{X:Type}(keys:List Nat)(K:X->List (Nat×Value))(GI:X->World->Prop){c:Code}(hn:(keys.all λ k=>Nat.blt k n)=true)(hKn:∀x,((K x).all λ p=>Nat.blt p.1 n)=true)
  (h1:JK P n Q (.code c::.inv (LoopEnd n keys K GI (λ _=>0) S 1)::ks) S G) (h2:∀x f,JK P n Q ks (K x++(mkU keys f++S)) (GI x)):JK P n Q (.code c::ks) S G:=⟨λ hS w hw=>by
 have h:=h1.run hS w hw;simp only[runK] at h ⊢;intro b k cs;obtain⟨e,a₁,w₁,hq,harr⟩:=h b k cs;rw[runK_inv] at hq;refine⟨e,a₁,w₁,?_,harr⟩;cases e with
 | normal=>obtain⟨x',S1,_,rfl,_,hk',hp',hg'⟩:=hq;have:=(h2 x' (look S1)).run ((hS.mkU hn).knows (hKn x')) w₁ hg';rw[<- tm_pre hp' hk'] at this;exact this
 | exit id=>exact hq
 | goto l=>exact hq
 | ret=>exact hq
 | panic ch=>exact hq
 | outgrown=>exact hq⟩
theorem k_joinF{Y:Type}(keys:List Nat)(K:Y->List (Nat×Value))(I:Y->Prop)(Hc:Y->List (Nat×Obj))(Fc:Y->Fr)(Oc:Y->List Ow){H1:Y->List (Nat×Obj)}{F1:Y->Fr}{O1:Y->List Ow}{c:Code}(hn:(keys.all λ k=>Nat.blt k n)=true)(hKn:∀x,((K x).all λ p=>Nat.blt p.1 n)=true)
  (hH1:∀x,Hc x++H=H1 x) (hF1:∀x,Fc x++F=F1 x) (hO1:∀x,Oc x++O=O1 x)
  (h1:JK P n Q (.code c::.inv (LoopEnd n keys K (λ x w=>I x/\SF w0 M (H1 x) A (F1 x) (O1 x) w) (λ _=>0) S 1)::ks) S (SF w0 M H A F O))
  (h2:∀x f,I x->JK P n Q ks (K x++(mkU keys f++S)) (SF w0 M (H1 x) A (F1 x) (O1 x))):JK P n Q (.code c::ks) S (SF w0 M H A F O):=k_join keys K _ hn hKn h1 λ x f=>k_fact λ h=>h2 x f h
theorem k_joinG{Y:Type}(keys:List Nat)(K:Y->List (Nat×Value))(I:Y->Prop)(H1:Y->List (Nat×Obj))(F1:Y->Fr)(O1:Y->List Ow){c:Code}(hn:(keys.all λ k=>Nat.blt k n)=true)(hKn:∀x,((K x).all λ p=>Nat.blt p.1 n)=true)
  (h1:JK P n Q (.code c::.inv (LoopEnd n keys K (λ x w=>I x/\SF w0 M (H1 x) A (F1 x) (O1 x) w) (λ _=>0) S 1)::ks) S (SF w0 M H A F O))
  (h2:∀x f,I x->JK P n Q ks (K x++(mkU keys f++S)) (SF w0 M (H1 x) A (F1 x) (O1 x))):JK P n Q (.code c::ks) S (SF w0 M H A F O):=k_join keys K _ hn hKn h1 λ x f=>k_fact λ h=>h2 x f h
theorem Ks_perm{H':List (Nat×Obj)}{O':List Ow}(hH:H'.Perm H)(hO:O'.Perm O):(Ks H' O').Perm (Ks H O):=(hH.map _).append (List.Perm.flatMap_right _ hO)
theorem St.perm{w w0:World}{H H':List (Nat×Obj)}(h:St w0 M H w)(hs:H'.Perm H):St w0 M H' w:=⟨h.os,h.tape,h.output,h.size,h.keep,λ p hp=>h.has p (hs.mem_iff.1 hp),λ p hp=>h.new p (hs.mem_iff.1 hp),(hs.map _).nodup_iff.2 h.nodup⟩
theorem SF.perm{w:World}{H':List (Nat×Obj)}{O':List Ow}(h:SF w0 M H A F O w)(hH:H'.Perm H)(hO:O'.Perm O):SF w0 M H' A F O' w:=by have hs:=Ks_perm hH hO;exact⟨h.st.perm hH,λ f hf=>⟨(h.old f hf).1,λ hc hm=>(h.old f hf).2 hc (hs.mem_iff.1 hm)⟩,λ f hf=>⟨(h.new f hf).1,λ hc=>⟨λ hm=>((h.new f hf).2 hc).1 (hs.mem_iff.1 hm),((h.new f hf).2 hc).2⟩⟩,λ o ho=>h.own o (hO.mem_iff.1 ho),hs.nodup_iff.2 h.dis⟩
end
end Go.Ct
namespace Go.Proofs.YtdnklbipddigbaaGreat
open Go.Proofs.Tryz (prog)
open Go Go.RowKit Go.Ct
variable{n:Nat}{Q:Exit->Act->World->Prop}{ks:List CK}{S:List (Nat×Value)}{ops:Array Oper}{l ol:List Oper}{pl:Plan}{LL:List Nat}{Dl Dp Dq:List Nat}
variable{w0:World}{M:List Nat}{H:List (Nat×Obj)}{A F:Fr}{O:List Ow}{G:World->Prop}{i d:Nat}{v:Value}{op:Op}{ty:TypeId}{pos:String}{af:Array Edge}{gd:Option (Nat×Bool)}{X:Type}{V:X->Value}{G':X->World->Prop}{j g:Nat}{want t:Bool}
theorem s_build0(ho:OpAt ol i ⟨some d,op,ty,pos,af,gd⟩:=by exact opat)(hw:Region.wanted ⟨some d,op,ty,pos,af,gd⟩ (yieldS ⟨ol⟩ S)=true:=by exact rfl)(hq:Loud prog S G ⟨some d,op,ty,pos,af,gd⟩ X V G':=by first|exact o_build0P ep1|exact o_build0R er1|exact o_build0V en1 rf)(hc:loudOk ⟨ol⟩ n Dl Dp Dq i (some d)=true:=by decide +kernel)(hL:((Ct.waiting ⟨ol⟩ Dq i).all λ j=>LL.elem j)=true:=by decide +kernel)(hfire:∀x,FireAll prog ⟨ol⟩ ((d,V x)::S) (G' x) LL:=by exact fire0)(h:∀x,JR prog n Q ks ⟨ol⟩ pl (i::Dl) Dp Dq ((d,V x)::S) (G' x)):LoudStep prog n Q ks ⟨ol⟩ pl Dl Dp Dq S G i LL:=d_step ho hw hq hc hL hfire h
theorem s_append(ho:OpAt ol i ⟨some d,op,ty,pos,af,gd⟩:=by exact opat)(hw:Region.wanted ⟨some d,op,ty,pos,af,gd⟩ (yieldS ⟨ol⟩ S)=true:=by exact rfl)(hq:Loud prog S G ⟨some d,op,ty,pos,af,gd⟩ X V G':=by exact q_append)(hc:loudOk ⟨ol⟩ n Dl Dp Dq i (some d)=true:=by decide +kernel)(hL:((Ct.waiting ⟨ol⟩ Dq i).all λ j=>LL.elem j)=true:=by decide +kernel)(hfire:∀x,FireAll prog ⟨ol⟩ ((d,V x)::S) (G' x) LL:=by exact fire0)(h:∀x,JR prog n Q ks ⟨ol⟩ pl (i::Dl) Dp Dq ((d,V x)::S) (G' x)):LoudStep prog n Q ks ⟨ol⟩ pl Dl Dp Dq S G i LL:=d_step ho hw hq hc hL hfire h
theorem s_buildSlice(ho:OpAt ol i ⟨some d,op,ty,pos,af,gd⟩:=by exact opat)(hw:Region.wanted ⟨some d,op,ty,pos,af,gd⟩ (yieldS ⟨ol⟩ S)=true:=by exact rfl)(hq:Loud prog S G ⟨some d,op,ty,pos,af,gd⟩ X V G':=by exact q_buildSlice)(hc:loudOk ⟨ol⟩ n Dl Dp Dq i (some d)=true:=by decide +kernel)(hL:((Ct.waiting ⟨ol⟩ Dq i).all λ j=>LL.elem j)=true:=by decide +kernel)(hfire:∀x,FireAll prog ⟨ol⟩ ((d,V x)::S) (G' x) LL:=by exact fire0)(h:∀x,JR prog n Q ks ⟨ol⟩ pl (i::Dl) Dp Dq ((d,V x)::S) (G' x)):LoudStep prog n Q ks ⟨ol⟩ pl Dl Dp Dq S G i LL:=d_step ho hw hq hc hL hfire h
theorem s_alloc(ho:OpAt ol i ⟨some d,op,ty,pos,af,gd⟩:=by exact opat)(hw:Region.wanted ⟨some d,op,ty,pos,af,gd⟩ (yieldS ⟨ol⟩ S)=true:=by exact rfl)(hq:Loud prog S G ⟨some d,op,ty,pos,af,gd⟩ X V G':=by exact q_alloc)(hc:loudOk ⟨ol⟩ n Dl Dp Dq i (some d)=true:=by decide +kernel)(hL:((Ct.waiting ⟨ol⟩ Dq i).all λ j=>LL.elem j)=true:=by decide +kernel)(hfire:∀x,FireAll prog ⟨ol⟩ ((d,V x)::S) (G' x) LL:=by exact fire0)(h:∀x,JR prog n Q ks ⟨ol⟩ pl (i::Dl) Dp Dq ((d,V x)::S) (G' x)):LoudStep prog n Q ks ⟨ol⟩ pl Dl Dp Dq S G i LL:=d_step ho hw hq hc hL hfire h
theorem s_assignL(ho:OpAt ol i ⟨some d,op,ty,pos,af,gd⟩:=by exact opat)(hw:Region.wanted ⟨some d,op,ty,pos,af,gd⟩ (yieldS ⟨ol⟩ S)=true:=by exact rfl)(hq:Loud prog S G ⟨some d,op,ty,pos,af,gd⟩ X V G':=by exact loud_of_quiet (o_assign wn))(hc:loudOk ⟨ol⟩ n Dl Dp Dq i (some d)=true:=by decide +kernel)(hL:((Ct.waiting ⟨ol⟩ Dq i).all λ j=>LL.elem j)=true:=by decide +kernel)(hfire:∀x,FireAll prog ⟨ol⟩ ((d,V x)::S) (G' x) LL:=by exact fire0)(h:∀x,JR prog n Q ks ⟨ol⟩ pl (i::Dl) Dp Dq ((d,V x)::S) (G' x)):LoudStep prog n Q ks ⟨ol⟩ pl Dl Dp Dq S G i LL:=d_step ho hw hq hc hL hfire h
theorem s_own(ho:OpAt ol i ⟨some d,op,ty,pos,af,gd⟩:=by exact opat)(hw:Region.wanted ⟨some d,op,ty,pos,af,gd⟩ (yieldS ⟨ol⟩ S)=true:=by exact rfl)(hq:Loud prog S G ⟨some d,op,ty,pos,af,gd⟩ X V G')(hc:loudOk ⟨ol⟩ n Dl Dp Dq i (some d)=true:=by decide +kernel)(hL:((Ct.waiting ⟨ol⟩ Dq i).all λ j=>LL.elem j)=true:=by decide +kernel)(hfire:∀x,FireAll prog ⟨ol⟩ ((d,V x)::S) (G' x) LL:=by exact fire0)(h:∀x,JR prog n Q ks ⟨ol⟩ pl (i::Dl) Dp Dq ((d,V x)::S) (G' x)):LoudStep prog n Q ks ⟨ol⟩ pl Dl Dp Dq S G i LL:=d_step ho hw hq hc hL hfire h
theorem s_ownF{φ:X->Prop}(ho:OpAt ol i ⟨some d,op,ty,pos,af,gd⟩:=by exact opat)(hw:Region.wanted ⟨some d,op,ty,pos,af,gd⟩ (yieldS ⟨ol⟩ S)=true:=by exact rfl)(hq:Loud prog S G ⟨some d,op,ty,pos,af,gd⟩ X V (λ x w=>φ x/\G' x w))(hc:loudOk ⟨ol⟩ n Dl Dp Dq i (some d)=true:=by decide +kernel)(hL:((Ct.waiting ⟨ol⟩ Dq i).all λ j=>LL.elem j)=true:=by decide +kernel)(hfire:∀x,FireAll prog ⟨ol⟩ ((d,V x)::S) (λ w=>φ x/\G' x w) LL:=by exact fire0)(h:∀x,φ x->JR prog n Q ks ⟨ol⟩ pl (i::Dl) Dp Dq ((d,V x)::S) (G' x)):LoudStep prog n Q ks ⟨ol⟩ pl Dl Dp Dq S G i LL:=d_step ho hw hq hc hL hfire λ x=>r_fact (h x)
end Go.Proofs.YtdnklbipddigbaaGreat

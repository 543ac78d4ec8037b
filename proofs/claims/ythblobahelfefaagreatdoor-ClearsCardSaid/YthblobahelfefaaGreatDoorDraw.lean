/- Merged. -/
import Derived.Test.YthblobahelfefaaGreatDoorGEng
import Derived.Orders
set_option linter.unusedSimpArgs false
set_option linter.unusedVariables false
namespace Go.Ct
open Go Go.RowKit
def jO(ops:Array Oper)(i:Nat):Option Tmp:=(ops[i]?).bind (·.dst)
def Ul(o:Oper):List Nat:=o.after.toList.filterMap λ e=>bif Region.binds .any e then some e.on else none
def jV(ops:Array Oper)(i:Nat):List Nat:=(ops[i]?).elim [] Ul
def gV(ops:Array Oper)(i:Nat):List Tmp:=(ops[i]?).elim [] (·.looksAt ops)
def gC(o:Oper):Bool:=match o.op with|.select ..=>false|_=>true
def yY(ops:Array Oper):Bool:=(List.range ops.size).all λ i=>(jV ops i).all (Nat.blt · i)&&((ops[i]?).elim true gC)
def bN(ops:Array Oper)(S:List (Nat×Value))(j:Nat):Option Bool :=
 match(jO ops j).map (look S) with
 | some (.bool b)=>some b
 | _=>none
theorem Td{o:Oper}{k:Nat}:k∈Ul o↔∃e∈o.after.toList,Region.binds .any e=true/\e.on=k:=by
 unfold Ul;simp only[List.mem_filterMap];constructor
 ·rintro ⟨e,he,h⟩;cases hb:Region.binds .any e with
  | true=>rw[hb] at h;exact⟨e,he,hb,by simpa using h⟩
  | false=>rw[hb] at h;simp at h
 ·rintro ⟨e,he,hb,rfl⟩;exact⟨e,he,by simp[hb]⟩
theorem mem_ready{ops:Array Oper}{listed:Array Bool}{i:Nat}:i∈Region.ready .any ops listed↔i<ops.size/\listed.getD i true=false/\∀k∈jV ops i,listed.getD k false=true:=by
 unfold Region.ready;simp only[List.mem_filter,List.mem_range,Bool.and_eq_true,Bool.not_eq_true'];constructor
 ·rintro ⟨h1,h2,h3⟩;refine⟨h1,h2,λ k hk=>?_⟩;unfold jV at hk;cases ho:ops[i]? with
  | none=>rw[ho] at hk;simp at hk
  | some o=>rw[ho] at hk h3;simp only[Option.elim_some] at hk;obtain⟨e,he,hb,rfl⟩:=Td.1 hk;simp only[Option.map_some,Option.getD_some] at h3;have:=Array.all_eq_true_iff_forall_mem.1 h3 e (by simpa using he);simpa[hb] using this
 ·rintro ⟨h1,h2,h3⟩;refine⟨h1,h2,?_⟩;have ho:ops[i]?=some ops[i]:=Array.getElem?_eq_getElem h1;rw[ho];simp only[Option.map_some,Option.getD_some];refine Array.all_eq_true_iff_forall_mem.2 λ e he=>?_;cases hb:Region.binds .any e with
  | false=>simp
  | true=>have:=h3 e.on (by unfold jV;rw[ho];exact Td.2 ⟨e,by simpa using he,hb,rfl⟩);simpa using this
structure mP(P:Program)(ops:Array Oper)(S:List (Nat×Value))(G:World->Prop)(i:Nat):Prop where
 ex:∃o d,ops[i]?=some o/\o.dst=some d/\((Region.wanted o (bN ops S)=true/\aH P S G o (look S d))∨(Region.wanted o (bN ops S)=false/\look S d=undef))
structure Te(P:Program)(ops:Array Oper)(n:Nat)(Dl Dp Dq:List Nat)(S:List (Nat×Value))(G:World->Prop)(listed:Array Bool)(a:Act)(w:World):Prop where
 ok:Cf n S
 hG:G w
 size:listed.size=ops.size
 defers:a.defers=[]
 tsize:a.tmps.size=n
 cl:∀j,listed.getD j false=true->j∈Dl∨j∈Dp∨j∈Dq
 dl:∀j∈Dl,listed.getD j false=true
 slot:∀t,(∀i,i∈Dp∨i∈Dq->listed.getD i false=false->jO ops i≠some t)->a.tmps.getD t undef=look S t
 pure:∀i∈Dp,listed.getD i false=false->mP P ops S (λ _=>True) i
 load:∀i∈Dq,listed.getD i false=false->mP P ops S G i
 tidy:∀i,i∈Dp∨i∈Dq->∀j d,jO ops i=some d->d∈gV ops j->i∈jV ops j
 dc:∀k,listed.getD k false=true->∀j∈jV ops k,listed.getD j false=true
variable{ops:Array Oper}{o:Oper}
theorem qC{t:Tmp}(h:Operand.tmp t∈o.op.operands):t∈o.looksAt ops :=List.mem_append_left _ (List.mem_filterMap.2 ⟨.tmp t,by simpa using h,rfl⟩)
theorem Tp(h:gC o=true):∀cs b,o.op≠.select cs b:=by intro cs b e;unfold gC at h;rw[e] at h;cases h
theorem Rx{a:Act}{S:List (Nat×Value)}(hs:gC o=true)(h:∀t∈o.looksAt ops,a.tmps.getD t undef=look S t) :
  execOp a.eval o=execOp (ev S) o/\Region.wanted o (yielded ops a.tmps)=Region.wanted o (bN ops S):=by
 refine⟨execOp_congr o (Tp hs) λ x hx=>?_,?_⟩
 ·cases x with
  | tmp t=>exact h t (qC hx)
  | _=>rfl
 ·unfold Region.wanted;cases hg:o.guard with
  | none=>rfl
  | some gw=>
   obtain⟨g,want⟩:=gw;have hy:yielded ops a.tmps g=bN ops S g:=by
    unfold yielded bN jO;cases ht:(ops[g]?).bind (·.dst) with
    | none=>rfl
    | some t=>
     have hl:t∈o.looksAt ops:=by unfold Oper.looksAt;rw[hg];exact List.mem_append_right _ (by simp[ht])
     have:=h t hl;simp only[Option.bind_some,Option.map_some];rw[Array.getD_eq_getD_getElem?] at this;cases h2:a.tmps[t]? with
     | none=>rw[h2] at this;simp only[Option.getD_none] at this;rw[<- this];rfl
     | some u=>rw[h2] at this;simp only[Option.getD_some] at this;rw[this];cases look S t<;>rfl
   simp only[hy]
section
variable{P:Program}{ops:Array Oper}{n:Nat}{Dl Dp Dq:List Nat}{S:List (Nat×Value)}{G:World->Prop}{listed:Array Bool}{a:Act}{w:World}
variable{i j:Nat}
theorem sI(h:listed.size=ops.size)(hi:i<ops.size)(j:Nat)(d:Bool):(listed.setIfInBounds i true).getD j d=if j=i then true else listed.getD j d:=by
 simp only[Array.getD_eq_getD_getElem?,Array.getElem?_setIfInBounds];by_cases hj:i=j;·subst hj;simp[h,hi]
 ·simp[hj,Ne.symm hj]
theorem lP(h:listed.getD i true=false):listed.getD i false=false:=by
 rw[Array.getD_eq_getD_getElem?] at h ⊢;cases hx:listed[i]? with
 | none=>rfl
 | some b=>rw[hx] at h;exact h
theorem zB(hi:i<listed.size)(h:listed.getD i false=false):listed.getD i true=false:=by rw[Array.getD_eq_getD_getElem?] at h ⊢;rw[Array.getElem?_eq_getElem hi] at h ⊢;exact h
theorem Te.aBG(hs:Te P ops n Dl Dp Dq S G listed a w){o:Oper}(ho:ops[j]?=some o)(hd:∀k∈jV ops j,listed.getD k false=true) :
  ∀t∈o.looksAt ops,a.tmps.getD t undef=look S t:=by intro t ht;refine hs.slot t λ i hi hl hdi=>?_;have:=hd i (hs.tidy i hi j t hdi (by unfold gV;rw[ho];exact ht));rw[hl] at this;cases this
theorem Pn(a:Act)(d:Nat)(v:Value)(t:Nat):(a.put (some d) v).tmps.getD t undef=if t=d/\t<a.tmps.size then v else a.tmps.getD t undef:=by
 simp only[Act.put,Array.getD_eq_getD_getElem?,Array.getElem?_setIfInBounds];by_cases h:d=t
 ·subst h;by_cases hlt:d<a.tmps.size;·simp[hlt]
  ·simp[hlt]
 ·simp[h,Ne.symm h]
theorem Te.aET(hb:yY ops=true)(hs:Te P ops n Dl Dp Dq S G listed a w)(hj:j∈Region.ready .any ops listed)(hq:j∈Dp∨j∈Dq)(Q:Exit->Act->World->Prop) :
  ∃a',Te P ops n Dl Dp Dq S G (listed.setIfInBounds j true) a' w/\∀K:Act->World->Prop,K a' w->wpOp P ops Q j K a w:=by
 obtain⟨hjs,hjl,hjd⟩:=mem_ready.1 hj;have hjf:=lP hjl;have hf:mP P ops S G j:=by
  rcases hq with hq|hq;·obtain⟨o,d,h1,h2,h3⟩:=(hs.pure j hq hjf).ex;exact⟨o,d,h1,h2,h3.imp (λ h=>⟨h.1,⟨λ w _=>h.2.run w trivial⟩⟩) id⟩
  ·exact hs.load j hq hjf
 obtain⟨o,d,ho,hd,hfire⟩:=hf.ex;have hsel:gC o=true:=by have:=List.all_eq_true.1 hb j (List.mem_range.2 hjs);rw[ho] at this;simp only[Bool.and_eq_true] at this;exact this.2
 obtain⟨hrun,hwant⟩:=Rx (ops:=ops) hsel (hs.aBG ho hjd);refine⟨a.put (some d) (look S d),?_,λ K hK=>?_⟩
 ·have hls:=λ k d=>sI (ops:=ops) hs.size hjs k d
  refine⟨hs.ok,hs.hG,by simp[hs.size],by simp[Act.put,hs.defers],by simp[Act.put,hs.tsize],λ k hk=>?_,λ k hk=>?_,λ t ht=>?_,λ i hi hl=>?_,λ i hi hl=>?_,hs.tidy,λ k hk q hqd=>by
   rw[hls] at hk ⊢;split;·rfl
   ·by_cases hkj:k=j;·subst hkj;exact hjd q hqd
    ·rw[if_neg hkj] at hk;exact hs.dc k hk q hqd⟩
  ·rw[hls] at hk;by_cases hkj:k=j;·subst hkj;exact .inr hq
   ·rw[if_neg hkj] at hk;exact hs.cl k hk
  ·rw[hls];split;·rfl
   ·exact hs.dl k hk
  ·rw[Pn];by_cases htd:t=d
   ·subst htd;by_cases hlt:t<a.tmps.size;·simp[hlt]
    ·rw[if_neg (λ h=>hlt h.2)];have hge:a.tmps.size<=t:=Nat.le_of_not_lt hlt;rw[Nt hs.ok (hs.tsize▸hge),Array.getD_eq_getD_getElem?,Array.getElem?_eq_none hge];rfl
   ·rw[if_neg (λ h=>htd h.1)];refine hs.slot t λ i hi hl hdi=>?_;by_cases hij:i=j;·subst hij;unfold jO at hdi;rw[ho] at hdi;simp only[Option.bind_some,hd,Option.some.injEq] at hdi;exact htd hdi.symm
    ·exact ht i hi (by rw[hls,if_neg hij];exact hl) hdi
  ·rw[hls] at hl;by_cases hij:i=j;·rw[if_pos hij] at hl;cases hl
   ·rw[if_neg hij] at hl;exact hs.pure i hi hl
  ·rw[hls] at hl;by_cases hij:i=j;·rw[if_pos hij] at hl;cases hl
   ·rw[if_neg hij] at hl;exact hs.load i hi hl
 ·unfold wpOp;simp only[ho];rcases hfire with⟨hw,hv⟩|⟨hw,hv⟩;·rw[hwant,hw,if_pos rfl];refine .inl ?_;unfold Oper.wp;rw[hrun,hv.run w hs.hG];simp only[Oper.upon,hd];exact hK
  ·rw[hwant,hw,if_neg (by simp),hd];rw[hv] at hK;exact hK
def nB(ops:Array Oper)(listed:Array Bool):List Nat:=(List.range ops.size).filter λ j=>!listed.getD j true
theorem filter_lt{p q:Nat->Bool}(hpq:∀x,q x=true->p x=true){i:Nat}(hp:p i=true)(hq:q i=false):∀l:List Nat,i∈l->(l.filter q).length<(l.filter p).length
 | [],h=>(List.not_mem_nil h).elim
 | x::l,h=>by
  have hle:∀l:List Nat,(l.filter q).length<=(l.filter p).length:=by
   intro l;induction l with
   | nil=>simp
   | cons y l ih=>
    simp only[List.filter_cons];cases hy:q y with
    | true=>simp[hpq y hy];exact ih
    | false=>cases p y<;>simp<;>omega
  simp only[List.filter_cons];rcases List.mem_cons.1 h with rfl|h;·simp[hp,hq];exact Nat.lt_succ_of_le (hle l)
  ·have ih:=filter_lt hpq hp hq l h;cases hx:q x with
   | true=>simp[hpq x hx];exact ih
   | false=>cases p x<;>simp<;>omega
theorem uG(h:listed.size=ops.size){i:Nat}(hi:i<ops.size)(hl:listed.getD i true=false):(nB ops (listed.setIfInBounds i true)).length<(nB ops listed).length:=by
 unfold nB;refine filter_lt (p:=λ j=>!listed.getD j true) (q:=λ j=>!(listed.setIfInBounds i true).getD j true) ?_ (i:=i) ?_ ?_ _ (List.mem_range.2 hi)
 ·intro x hx;simp only[sI (ops:=ops) h hi,Bool.not_eq_true'] at hx ⊢;by_cases hxi:x=i;·rw[if_pos hxi] at hx;cases hx
  ·rw[if_neg hxi] at hx;exact hx
 ·simp[hl]
 ·simp[sI (ops:=ops) h hi]
theorem H5(hb:yY ops=true)(hsz:listed.size=ops.size):∀i,i<ops.size->listed.getD i false=false->Region.ready .any ops listed≠[]:=by
 intro i;induction i using Nat.strongRecOn with
 | _ i ih=>
  intro hi hl hnil;by_cases hall:∀k∈jV ops i,listed.getD k false=true;·have:i∈Region.ready .any ops listed:=mem_ready.2 ⟨hi,zB (by omega) hl,hall⟩;rw[hnil] at this;cases this
  ·simp only[Classical.not_forall] at hall;obtain⟨k,hk,hkl⟩:=hall;have h1:=List.all_eq_true.1 hb i (List.mem_range.2 hi);simp only[Bool.and_eq_true] at h1;have hki:k<i:=Nat.le_of_ble_eq_true (List.all_eq_true.1 h1.1 k hk);exact ih k hki (by omega) (by simpa using hkl) hnil
end
inductive nP where
 | nil
 | one (i:Nat) (L:List Nat) (r:nP)
 | two (i:Nat) (L:List Nat) (r:nP) (j:Nat) (M:List Nat) (q:nP)
structure JR(P:Program)(n:Nat)(Q:Exit->Act->World->Prop)(ks:List CK)(ops:Array Oper)(pl:nP)(Dl Dp Dq:List Nat)(S:List (Nat×Value))(G:World->Prop):Prop where
 run:∀fuel listed a w,Te P ops n Dl Dp Dq S G listed a w->(nB ops listed).length<=fuel->wpAny P .any ops (runK P Q ks) fuel listed a w
section
variable{P:Program}{n:Nat}{Q:Exit->Act->World->Prop}{ks:List CK}{ops:Array Oper}{pl pl':nP}{LL:List Nat}{Dl Dp Dq:List Nat}{S:List (Nat×Value)}{G:World->Prop}
theorem mP.step{i d:Nat}{v:Value}(h:mP P ops S G i)(hdst:jO ops i≠some d)(hl:d∉gV ops i)(hsel:(ops[i]?).elim true gC=true):mP P ops ((d,v)::S) G i:=by
 obtain⟨o,e,ho,he,hf⟩:=h.ex;have hle:look ((d,v)::S) e=look S e:=by
  have hne:d≠e:=λ q=>hdst (by unfold jO;rw[ho];simp[he,q])
  simp only[look];cases hb:Nat.beq d e with
  | true=>exact absurd (eJ hb) hne
  | false=>rfl
 rw[ho] at hsel;simp only[gV,ho,Option.elim_some] at hl hsel;have hag:∀t∈o.looksAt ops,look ((d,v)::S) t=look S t:=by
  intro t ht;have hne:d≠t:=λ q=>hl (q▸ht)
  simp only[look];cases hb:Nat.beq d t with
  | true=>exact absurd (eJ hb) hne
  | false=>rfl
 have hex:execOp (ev ((d,v)::S)) o=execOp (ev S) o:=execOp_congr o (Tp hsel) λ x hx=>by
  cases x with
  | tmp t=>exact hag t (qC hx)
  | _=>rfl
 have hwa:Region.wanted o (bN ops ((d,v)::S))=Region.wanted o (bN ops S):=by
  unfold Region.wanted;cases hg:o.guard with
  | none=>rfl
  | some gw=>
   obtain⟨g,want⟩:=gw;have:bN ops ((d,v)::S) g=bN ops S g:=by
    unfold bN;cases ht:jO ops g with
    | none=>rfl
    | some t=>
     have:t∈o.looksAt ops:=by unfold Oper.looksAt;rw[hg];unfold jO at ht;exact List.mem_append_right _ (by simp[ht])
     simp only[Option.map_some,hag t this]
   simp only[this]
 refine⟨o,e,ho,he,?_⟩;rw[hwa,hle];exact hf.imp (λ h=>⟨h.1,⟨λ w hw=>by rw[hex];exact h.2.run w hw⟩⟩) id
def oE(ops:Array Oper)(D:List Nat)(i d:Nat):Bool :=
 !(gV ops i).elem d&&(D.all λ j=>!((jO ops j)==some d)&&!(gV ops j).elem d&&((ops[j]?).elim true gC)) &&
 ((List.range ops.size).all λ j=>!(gV ops j).elem d||(jV ops j).elem i)
variable{D:List Nat}{i d:Nat}{v:Value}
theorem yX(h:oE ops D i d=true):d∉gV ops i:=by simp only[oE,Bool.and_eq_true] at h;simpa using h.1.1
theorem du{j:Nat}(h:oE ops D i d=true)(hj:j∈D):jO ops j≠some d/\d∉gV ops j/\(ops[j]?).elim true gC=true:=by
 simp only[oE,Bool.and_eq_true] at h;have:=List.all_eq_true.1 h.1.2 j hj;simp only[Bool.and_eq_true,Bool.not_eq_true'] at this;refine⟨?_,?_,this.2⟩;·have:=this.1.1;simpa using this
 ·have:=this.1.2;simpa using this
theorem U6(h:oE ops D i d=true)(j:Nat)(hl:d∈gV ops j):i∈jV ops j:=by
 simp only[oE,Bool.and_eq_true] at h;by_cases hj:j<ops.size
 ·have:=List.all_eq_true.1 h.2 j (List.mem_range.2 hj);simp only[Bool.or_eq_true,Bool.not_eq_true'] at this;rcases this with h1|h1;·have:(gV ops j).elem d=true:=List.elem_eq_true_of_mem hl;rw[h1] at this;cases this
  ·exact List.mem_of_elem_eq_true h1
 ·unfold gV at hl;rw[Array.getElem?_eq_none (by omega)] at hl;cases hl
theorem Te.ahead{listed:Array Bool}{a:Act}{w:World}(hs:Te P ops n Dl Dp Dq S G listed a w)(hn:(Dl++Dp++Dq).elem i=false)(hfr:oE ops (Dp++Dq) i d=true)(hd:jO ops i=some d)(hblt:Nat.blt d n=true)(pureB:Bool)(hf:mP P ops ((d,v)::S) (bif pureB then λ _=>True else G) i):Te P ops n Dl (bif pureB then i::Dp else Dp) (bif pureB then Dq else i::Dq) ((d,v)::S) G listed a w:=by
 have hnm:i∉Dl++Dp++Dq:=λ h=>by rw[List.elem_eq_true_of_mem h] at hn;cases hn
 simp only[List.mem_append,not_or] at hnm;have hil:listed.getD i false=false:=by
  cases hx:listed.getD i false with
  | false=>rfl
  | true=>rcases hs.cl i hx with h|h|h<;>simp_all
 have hmem:∀j,(j∈(bif pureB then i::Dp else Dp)∨j∈(bif pureB then Dq else i::Dq))↔j=i∨j∈Dp∨j∈Dq:=by
  intro j;cases pureB<;>simp only[cond_true,cond_false,List.mem_cons];·exact⟨λ h=>by rcases h with h|h|h<;>simp[h],λ h=>by rcases h with h|h|h<;>simp[h]⟩
  ·exact⟨λ h=>by rcases h with(h|h)|h<;>simp[h],λ h=>by rcases h with h|h|h<;>simp[h]⟩
 have old:∀{G':World->Prop} {j:Nat},j∈Dp∨j∈Dq->mP P ops S G' j->mP P ops ((d,v)::S) G' j:=λ{G' j} hj hF=>by have:=du hfr (j:=j) (by simpa using hj);exact hF.step this.1 this.2.1 this.2.2
 refine⟨hs.ok.cons hblt,hs.hG,hs.size,hs.defers,hs.tsize,λ j hj=>?_,hs.dl,λ t ht=>?_,λ j hj hl=>?_,λ j hj hl=>?_,λ j hj k e hje hek=>?_,hs.dc⟩
 ·rcases hs.cl j hj with h|h;·exact .inl h
  ·exact .inr ((hmem j).2 (.inr h))
 ·have htd:t≠d:=λ e=>ht i ((hmem i).2 (.inl rfl)) hil (e▸hd)
  have h1:=hs.slot t λ j hj hl=>ht j ((hmem j).2 (.inr hj)) hl
  simp only[look];cases hb:Nat.beq d t with
  | true=>exact absurd (eJ hb).symm htd
  | false=>exact h1
 ·cases pureB with
  | true=>
   rcases List.mem_cons.1 hj with rfl|hj;·exact hf
   ·exact old (.inl hj) (hs.pure j hj hl)
  | false=>exact old (.inl hj) (hs.pure j hj hl)
 ·cases pureB with
  | true=>exact old (.inr hj) (hs.load j hj hl)
  | false=>
   rcases List.mem_cons.1 hj with rfl|hj;·exact hf
   ·exact old (.inr hj) (hs.load j hj hl)
 ·rcases(hmem j).1 hj with rfl|hj
  ·obtain rfl:d=e:=Option.some.inj (hd.symm.trans hje);exact U6 hfr k hek
  ·exact hs.tidy j hj k e hje hek
theorem mP.Kv{o:Oper}(ho:ops[i]?=some o)(hd:o.dst=some d)(hl:d∉gV ops i)(hsel:gC o=true)(hw:Region.wanted o (bN ops S)=true)(hq:aH P S G o v):mP P ops ((d,v)::S) G i:=by
 have hag:∀t∈o.looksAt ops,look ((d,v)::S) t=look S t:=by
  intro t ht;have hne:d≠t:=λ q=>hl (by unfold gV;rw[ho];exact q▸ht)
  simp only[look];cases hb:Nat.beq d t with
  | true=>exact absurd (eJ hb) hne
  | false=>rfl
 have hex:execOp (ev ((d,v)::S)) o=execOp (ev S) o:=execOp_congr o (Tp hsel) λ x hx=>by
  cases x with
  | tmp t=>exact hag t (qC hx)
  | _=>rfl
 have hwa:Region.wanted o (bN ops ((d,v)::S))=Region.wanted o (bN ops S):=by
  unfold Region.wanted;cases hg:o.guard with
  | none=>rfl
  | some gw=>
   obtain⟨g,want⟩:=gw;have:bN ops ((d,v)::S) g=bN ops S g:=by
    unfold bN;cases ht:jO ops g with
    | none=>rfl
    | some t=>
     have:t∈o.looksAt ops:=by unfold Oper.looksAt;rw[hg];unfold jO at ht;exact List.mem_append_right _ (by simp[ht])
     simp only[Option.map_some,hag t this]
   simp only[this]
 refine⟨o,d,ho,hd,.inl ⟨by rw[hwa];exact hw,⟨λ w hw=>?_⟩⟩⟩;have hv:look ((d,v)::S) d=v:=by simp[look]
 rw[hex,hv];exact hq.run w hw
theorem mP.Se{o:Oper}(ho:ops[i]?=some o)(hd:o.dst=some d)(hl:d∉gV ops i)(hw:Region.wanted o (bN ops S)=false):mP P ops ((d,undef)::S) G i:=by
 have hag:∀t∈o.looksAt ops,look ((d,undef)::S) t=look S t:=by
  intro t ht;have hne:d≠t:=λ q=>hl (by unfold gV;rw[ho];exact q▸ht)
  simp only[look];cases hb:Nat.beq d t with
  | true=>exact absurd (eJ hb) hne
  | false=>rfl
 have hwa:Region.wanted o (bN ops ((d,undef)::S))=Region.wanted o (bN ops S):=by
  unfold Region.wanted;cases hg:o.guard with
  | none=>rfl
  | some gw=>
   obtain⟨g,want⟩:=gw;have:bN ops ((d,undef)::S) g=bN ops S g:=by
    unfold bN;cases ht:jO ops g with
    | none=>rfl
    | some t=>
     have:t∈o.looksAt ops:=by unfold Oper.looksAt;rw[hg];unfold jO at ht;exact List.mem_append_right _ (by simp[ht])
     simp only[Option.map_some,hag t this]
   simp only[this]
 exact⟨o,d,ho,hd,.inr ⟨by rw[hwa];exact hw,by simp[look]⟩⟩
def dP(ops:Array Oper)(n:Nat)(Dl Dp Dq:List Nat)(i d:Nat):Bool :=!(Dl++Dp++Dq).elem i&&oE ops (Dp++Dq) i d&&(jO ops i==some d)&&Nat.blt d n&&((ops[i]?).elim true gC)
theorem uS{i d:Nat}(h:dP ops n Dl Dp Dq i d=true) :
  (Dl++Dp++Dq).elem i=false/\oE ops (Dp++Dq) i d=true/\jO ops i=some d/\Nat.blt d n=true/\(ops[i]?).elim true gC=true:=by simp only[dP,Bool.and_eq_true,Bool.not_eq_true',beq_iff_eq] at h;exact⟨h.1.1.1.1,h.1.1.1.2,h.1.1.2,h.1.2,h.2⟩
inductive fI:List Oper->Nat->Oper->Prop where
 | head {o:Oper} {l:List Oper}:fI (o::l) 0 o
 | tail {p:Oper} {l:List Oper} {i:Nat} {o:Oper}:fI l i o->fI (p::l) (i+1) o
theorem fI.get{l:List Oper}{i:Nat}{o:Oper}(h:fI l i o):(⟨l⟩:Array Oper)[i]?=some o:=by
 have:l[i]?=some o:=by
  induction h with
  | head=>rfl
  | tail _ ih=>simpa using ih
 simpa using this
section
variable{ol:List Oper}{op:Op}{ty:TypeId}{pos:String}{af:Array Edge}{gd:Option (Nat×Bool)}
theorem hY{i d:Nat}{v:Value}(ho:fI ol i ⟨some d,op,ty,pos,af,gd⟩)(hw:Region.wanted ⟨some d,op,ty,pos,af,gd⟩ (bN ⟨ol⟩ S)=true)(hq:aH P S (λ _=>True) ⟨some d,op,ty,pos,af,gd⟩ v)(hc:dP ⟨ol⟩ n Dl Dp Dq i d=true)
  (h:JR P n Q ks ⟨ol⟩ pl Dl (i::Dp) Dq ((d,v)::S) G):JR P n Q ks ⟨ol⟩ (.one i LL pl) Dl Dp Dq S G:=by obtain⟨c1,c2,c3,c4,c5⟩:=uS hc;exact⟨λ fuel listed a w hs hf=>h.run fuel listed a w (hs.ahead (v:=v) c1 c2 c3 c4 true (mP.Kv ho.get rfl (yX c2) (by rw[ho.get] at c5;exact c5) hw hq)) hf⟩
theorem Tw{i d:Nat}{v:Value}(ho:fI ol i ⟨some d,op,ty,pos,af,gd⟩)(hw:Region.wanted ⟨some d,op,ty,pos,af,gd⟩ (bN ⟨ol⟩ S)=true)(hq:aH P S G ⟨some d,op,ty,pos,af,gd⟩ v)(hc:dP ⟨ol⟩ n Dl Dp Dq i d=true)
  (h:JR P n Q ks ⟨ol⟩ pl Dl Dp (i::Dq) ((d,v)::S) G):JR P n Q ks ⟨ol⟩ (.one i LL pl) Dl Dp Dq S G:=by obtain⟨c1,c2,c3,c4,c5⟩:=uS hc;exact⟨λ fuel listed a w hs hf=>h.run fuel listed a w (hs.ahead (v:=v) c1 c2 c3 c4 false (mP.Kv ho.get rfl (yX c2) (by rw[ho.get] at c5;exact c5) hw hq)) hf⟩
theorem Uu{i d:Nat}(ho:fI ol i ⟨some d,op,ty,pos,af,gd⟩)(hw:Region.wanted ⟨some d,op,ty,pos,af,gd⟩ (bN ⟨ol⟩ S)=false)(hc:dP ⟨ol⟩ n Dl Dp Dq i d=true)
  (h:JR P n Q ks ⟨ol⟩ pl Dl (i::Dp) Dq ((d,undef)::S) G):JR P n Q ks ⟨ol⟩ (.one i LL pl) Dl Dp Dq S G:=by obtain⟨c1,c2,c3,c4,_⟩:=uS hc;exact⟨λ fuel listed a w hs hf=>h.run fuel listed a w (hs.ahead (v:=undef) c1 c2 c3 c4 true (mP.Se ho.get rfl (yX c2) hw)) hf⟩
end
theorem aEb(hall:((List.range ops.size).all λ j=>(Dl++Dp++Dq).elem j)=true)(hb:yY ops=true)(h:JK P n Q ks S G):JR P n Q ks ops .nil Dl Dp Dq S G:=by
 have done:∀listed a w,Te P ops n Dl Dp Dq S G listed a w->Region.ready .any ops listed=[]->runK P Q ks .normal a w:=by
  intro listed a w hs hr;have hl:∀i,i∈Dp∨i∈Dq->listed.getD i false=false->jO ops i=none:=by
   intro i _ hx;rcases Nat.lt_or_ge i ops.size with hi|hi;·exact absurd hr (H5 hb hs.size i hi hx)
   ·unfold jO;rw[Array.getElem?_eq_none (by omega)];rfl
  have hslot:∀t,a.tmps.getD t undef=look S t:=λ t=>hs.slot t λ i hi hx hd=>by rw[hl i hi hx] at hd;cases hd
  have ha:a=⟨dU n S,[]⟩:=by
   have h1:=hs.defers;have h2:=hs.tsize;cases a with
   | mk tmps ds=>
    simp only at h1 h2 hslot;subst h1;congr 1;apply Array.ext;·simp[dU,h2]
    ·intro i hi1 hi2;have:=hslot i;rw[Array.getD_eq_getD_getElem?,Array.getElem?_eq_getElem hi1] at this;simpa[dU] using this
  subst ha;exact h.run hs.ok w hs.hG
 refine⟨λ fuel=>?_⟩;induction fuel with
 | zero=>
  intro listed a w hs hf;have hnil:Region.ready .any ops listed=[]:=by
   cases hr:Region.ready .any ops listed with
   | nil=>rfl
   | cons x xs=>
    have hx:x∈Region.ready .any ops listed:=by rw[hr];exact List.mem_cons_self ..
    obtain⟨h1,h2,_⟩:=mem_ready.1 hx;have:x∈nB ops listed:=List.mem_filter.2 ⟨List.mem_range.2 h1,by simp[h2]⟩;have:=List.length_pos_of_mem this;omega
  exact⟨hnil,done listed a w hs hnil⟩
 | succ fuel ih=>
  intro listed a w hs hf;refine⟨done listed a w hs,λ j hj=>?_⟩;obtain⟨h1,h2,_⟩:=mem_ready.1 hj;have hjD:=List.mem_of_elem_eq_true (List.all_eq_true.1 hall j (List.mem_range.2 h1));simp only[List.mem_append] at hjD;have hq:j∈Dp∨j∈Dq:=by
   rcases hjD with(h|h)|h;·have:=hs.dl j h;rw[lP h2] at this;cases this
   ·exact .inl h
   ·exact .inr h
  obtain⟨a',hs',hK⟩:=hs.aET hb hj hq (runK P Q ks);refine hK _ (ih _ _ _ hs' ?_);have:=uG (ops:=ops) hs.size h1 h2;omega
def anc(ops:Array Oper):Nat->List Nat->List Nat
 | 0,l=>l
 | f+1,l=>anc ops f (l++(l.flatMap (jV ops)).filter λ j=>!l.elem j)
theorem Gu{listed:Array Bool}(dc:∀k,listed.getD k false=true->∀j∈jV ops k,listed.getD j false=true):∀(f:Nat) (l:List Nat),(∀j∈l,listed.getD j false=true)->∀j∈anc ops f l,listed.getD j false=true
 | 0,_,h=>h
 | f+1,l,h=>Gu dc f _ λ j hj=>by
  rcases List.mem_append.1 hj with hj|hj;·exact h j hj
  ·obtain⟨k,hk,hjk⟩:=List.mem_flatMap.1 (List.mem_filter.1 hj).1;exact dc k (h k hk) j hjk
def waiting(ops:Array Oper)(Dq:List Nat)(i:Nat):List Nat:=Dq.filter λ j=>!(anc ops 16 (jV ops i)).elem j
inductive aS(P:Program)(ops:Array Oper)(S:List (Nat×Value))(G:World->Prop):List Nat->Prop where
 | nil:aS P ops S G []
 | cons {i:Nat} {l:List Nat} (h:mP P ops S G i) (r:aS P ops S G l):aS P ops S G (i::l)
theorem aS.get{l:List Nat}(h:aS P ops S G l):∀i∈l,mP P ops S G i:=by
 induction h with
 | nil=>intro i hi;cases hi
 | cons h _ ih=>intro i hi;rcases List.mem_cons.1 hi with rfl|hi;exact h;exact ih i hi
theorem Ua{i d:Nat}{o:Oper}{v:Value}(ho:ops[i]?=some o)(hd:o.dst=some d)(hw:Region.wanted o (bN ops S)=true)(hv:look S d=v)(hq:aH P S G o v):mP P ops S G i :=⟨o,d,ho,hd,.inl ⟨hw,hv▸hq⟩⟩
def kV(ops:Array Oper)(n:Nat)(Dl Dp Dq:List Nat)(i:Nat)(dst:Option Nat):Bool :=
 yY ops&&!(Dl++Dp++Dq).elem i&&Nat.blt i ops.size&&(jO ops i==dst) &&
 (match dst with
 | some d=>Nat.blt d n&&((Dp++Dq).all λ j=>!((jO ops j)==some d)&&(!(gV ops j).elem d||(jV ops i).elem j)&&((ops[j]?).elim true gC))
 | none=>true)
def pi(ops:Array Oper)(Dl Dp Dq E:List Nat):Bool :=(List.range ops.size).all λ j=>(Dl++Dp++Dq).elem j||E.elem j||!(jV ops j).all λ k=>(Dl++Dp++Dq).elem k
def zr(dst:Option Nat)(v:Value)(S:List (Nat×Value)):List (Nat×Value):=match dst with|some d=>(d,v)::S|none=>S
structure gR(P:Program)(n:Nat)(Q:Exit->Act->World->Prop)(ks:List CK)(ops:Array Oper)(pl:nP)(Dl Dp Dq:List Nat)(S:List (Nat×Value))(G:World->Prop)(i:Nat)(L:List Nat):Prop where
 step:∀fuel listed a w,Te P ops n Dl Dp Dq S G listed a w->i∈Region.ready .any ops listed->(nB ops listed).length<=fuel+1 ->
  wpOp P ops (runK P Q ks) i (wpAny P .any ops (runK P Q ks) fuel (listed.setIfInBounds i true)) a w
theorem Lw{X:Type}{V:X->Value}{G':X->World->Prop}{i:Nat}{dst:Option Nat}{o:Oper}{L:List Nat}(ho:ops[i]?=some o)(hd:o.dst=dst)(hw:Region.wanted o (bN ops S)=true)
  (hq:aQ P S G o X V G') (hc:kV ops n Dl Dp Dq i dst=true) (hL:((waiting ops Dq i).all λ j=>L.elem j)=true) (hfire:∀x,aS P ops (zr dst (V x) S) (G' x) L)
  (h:∀x,JR P n Q ks ops pl (i::Dl) Dp Dq (zr dst (V x) S) (G' x)):gR P n Q ks ops pl Dl Dp Dq S G i L:=by
 simp only[kV,Bool.and_eq_true,Bool.not_eq_true',beq_iff_eq] at hc;obtain⟨⟨⟨⟨hb,c1⟩,c2⟩,c3⟩,c4⟩:=hc;have hib:i<ops.size:=Nat.le_of_ble_eq_true c2;refine⟨λ fuel listed a w hs hj hfu=>?_⟩;obtain⟨_,hjl,hjd⟩:=mem_ready.1 hj;have hsel:gC o=true:=by have:=List.all_eq_true.1 hb i (List.mem_range.2 hib);rw[ho] at this;simp only[Bool.and_eq_true] at this;exact this.2
 obtain⟨hrun,hwant⟩:=Rx (ops:=ops) hsel (hs.aBG ho hjd);unfold wpOp;simp only[ho];rw[hwant,hw,if_pos rfl];refine .inl ?_;unfold Oper.wp;rw[hrun];refine(hq.run w hs.hG).upon λ x w' hg=>(h x).run _ _ _ _ ?_ ?_
 ·have hls:=λ k d=>sI (ops:=ops) hs.size hib k d
  have old:∀{G':World->Prop} {j:Nat},j∈Dp∨j∈Dq->listed.getD j false=false->mP P ops S G' j->mP P ops (zr dst (V x) S) G' j:=λ{G' j} hj hl hF=>by
   cases dst with
   | none=>exact hF
   | some d=>
    simp only[Bool.and_eq_true] at c4;have:=List.all_eq_true.1 c4.2 j (by simpa using hj);simp only[Bool.and_eq_true,Bool.not_eq_true',Bool.or_eq_true] at this;refine hF.step ?_ ?_ this.2;·have:=this.1.1;simpa using this
    ·intro hm;rcases this.1.2 with h1|h1;·rw[List.elem_eq_true_of_mem hm] at h1;cases h1
     ·have:=hjd j (List.mem_of_elem_eq_true h1);rw[hl] at this;cases this
  have eH:∀j,(listed.setIfInBounds i true).getD j false=false->listed.getD j false=false/\j≠i:=by
   intro j hl;rw[hls] at hl;by_cases hji:j=i;·rw[if_pos hji] at hl;cases hl
   ·rw[if_neg hji] at hl;exact⟨hl,hji⟩
  refine⟨?_,hg,by simp[hs.size],?_,?_,λ j hjj=>?_,λ j hjj=>?_,λ t ht=>?_,λ j hj hl=>old (.inl hj) (eH j hl).1 (hs.pure j hj (eH j hl).1),λ j hj hl=>?_,hs.tidy,λ k hk q hq=>by
   rw[hls] at hk ⊢;split;·rfl
   ·by_cases hki:k=i;·subst hki;exact hjd q hq
    ·rw[if_neg hki] at hk;exact hs.dc k hk q hq⟩
  ·cases dst with
   | none=>exact hs.ok
   | some d=>simp only[Bool.and_eq_true] at c4;exact hs.ok.cons c4.1
  ·rw[hd];cases dst<;>simp[Act.put,hs.defers]
  ·rw[hd];cases dst<;>simp[Act.put,hs.tsize]
  ·rw[hls] at hjj;by_cases hji:j=i;·subst hji;exact .inl (List.mem_cons_self ..)
   ·rw[if_neg hji] at hjj;rcases hs.cl j hjj with h1|h1;·exact .inl (List.mem_cons_of_mem _ h1)
    ·exact .inr h1
  ·rw[hls];split;·rfl
   ·rename_i hji;rcases List.mem_cons.1 hjj with rfl|hjj;·exact absurd rfl hji
    ·exact hs.dl j hjj
  ·have hnm:i∉Dl++Dp++Dq:=λ h=>by rw[List.elem_eq_true_of_mem h] at c1;cases c1
   simp only[List.mem_append,not_or] at hnm
   have base:∀t,(∀j,j∈Dp∨j∈Dq->(listed.setIfInBounds i true).getD j false=false->jO ops j≠some t)->a.tmps.getD t undef=look S t:=λ t ht=>hs.slot t λ j hjm hl=>ht j hjm (by
    have hne:j≠i:=λ e=>by
     rcases hjm with h1|h1;·exact hnm.1.2 (e▸h1)
     ·exact hnm.2 (e▸h1)
    rw[hls,if_neg hne];exact hl)
   rw[hd];cases dst with
   | none=>exact base t ht
   | some d=>
    rw[Pn];simp only[zr,look];by_cases htd:t=d;·subst htd;simp only[Bool.and_eq_true] at c4;have:t<a.tmps.size:=Nat.lt_of_lt_of_le (Nat.le_of_ble_eq_true c4.1) (Nat.le_of_eq hs.tsize.symm);simp[this]
    ·rw[if_neg (λ h=>htd h.1)];cases hbb:Nat.beq d t with
     | true=>exact absurd (eJ hbb).symm htd
     | false=>exact base t ht
  ·refine(hfire x).get j ?_;refine List.mem_of_elem_eq_true (List.all_eq_true.1 hL j (List.mem_filter.2 ⟨hj,?_⟩));cases hx:(anc ops 16 (jV ops i)).elem j with
   | false=>rfl
   | true=>have:=Gu hs.dc 16 _ hjd j (List.mem_of_elem_eq_true hx);rw[(eH j hl).1] at this;cases this
 ·have:=uG (ops:=ops) hs.size hib hjl;omega
section
variable{ol:List Oper}{op:Op}{ty:TypeId}{pos:String}{af:Array Edge}{gd:Option (Nat×Bool)}
variable{X:Type}{L:List Nat}
theorem qF{V:X->Value}{G':X->World->Prop}{i d:Nat}(ho:fI ol i ⟨some d,op,ty,pos,af,gd⟩)(hw:Region.wanted ⟨some d,op,ty,pos,af,gd⟩ (bN ⟨ol⟩ S)=true)(hq:aQ P S G ⟨some d,op,ty,pos,af,gd⟩ X V G')(hc:kV ⟨ol⟩ n Dl Dp Dq i (some d)=true)(hL:((waiting ⟨ol⟩ Dq i).all λ j=>L.elem j)=true)(hfire:∀x,aS P ⟨ol⟩ ((d,V x)::S) (G' x) L)(h:∀x,JR P n Q ks ⟨ol⟩ pl (i::Dl) Dp Dq ((d,V x)::S) (G' x)):gR P n Q ks ⟨ol⟩ pl Dl Dp Dq S G i L:=Lw ho.get rfl hw hq hc hL hfire h
theorem Yh{V:X->Value}{G':X->World->Prop}{i:Nat}(ho:fI ol i ⟨none,op,ty,pos,af,gd⟩)(hw:Region.wanted ⟨none,op,ty,pos,af,gd⟩ (bN ⟨ol⟩ S)=true)(hq:aQ P S G ⟨none,op,ty,pos,af,gd⟩ X V G')(hc:kV ⟨ol⟩ n Dl Dp Dq i none=true)(hL:((waiting ⟨ol⟩ Dq i).all λ j=>L.elem j)=true)(hfire:∀x,aS P ⟨ol⟩ S (G' x) L)(h:∀x,JR P n Q ks ⟨ol⟩ pl (i::Dl) Dp Dq S (G' x)):gR P n Q ks ⟨ol⟩ pl Dl Dp Dq S G i L:=Lw ho.get rfl hw hq hc hL hfire h
theorem Yx{i d:Nat}{v:Value}(ho:fI ol i ⟨some d,op,ty,pos,af,gd⟩)(hw:Region.wanted ⟨some d,op,ty,pos,af,gd⟩ (bN ⟨ol⟩ S)=true)(hv:look S d=v)(hq:aH P S G ⟨some d,op,ty,pos,af,gd⟩ v):mP P ⟨ol⟩ S G i :=Ua ho.get rfl hw hv hq
end
theorem qo{E:List Nat}(hE:pi ops Dl Dp Dq E=true)(hb:yY ops=true)(hne:(E.any λ i=>!(Dl++Dp++Dq).elem i&&Nat.blt i ops.size)=true)(h:∀i∈E,gR P n Q ks ops pl' Dl Dp Dq S G i LL):∀fuel listed a w,Te P ops n Dl Dp Dq S G listed a w->(nB ops listed).length<=fuel->wpAny P .any ops (runK P Q ks) fuel listed a w:=by
 have nready:∀listed a w,Te P ops n Dl Dp Dq S G listed a w->Region.ready .any ops listed≠[]:=by
  intro listed a w hs;obtain⟨i,_,hi⟩:=List.any_eq_true.1 hne;simp only[Bool.and_eq_true,Bool.not_eq_true'] at hi;have hil:listed.getD i false=false:=by
   cases hx:listed.getD i false with
   | false=>rfl
   | true=>
    have:i∈Dl++Dp++Dq:=by simp only[List.mem_append];rcases hs.cl i hx with h|h|h<;>simp[h]
    rw[List.elem_eq_true_of_mem this] at hi;cases hi.1
  exact H5 hb hs.size i (Nat.le_of_ble_eq_true hi.2) hil
 intro fuel;induction fuel with
 | zero=>
  intro listed a w hs hf;exfalso;have:=nready listed a w hs;cases hr:Region.ready .any ops listed with
  | nil=>exact this hr
  | cons x xs=>
   have hx:x∈Region.ready .any ops listed:=by rw[hr];exact List.mem_cons_self ..
   obtain⟨h1,h2,_⟩:=mem_ready.1 hx;have:x∈nB ops listed:=List.mem_filter.2 ⟨List.mem_range.2 h1,by simp[h2]⟩;have:=List.length_pos_of_mem this;omega
 | succ fuel ih=>
  intro listed a w hs hf;refine⟨λ hr=>absurd hr (nready listed a w hs),λ j hj=>?_⟩;obtain⟨h1,h2,h3⟩:=mem_ready.1 hj;by_cases hq:j∈Dp∨j∈Dq;·obtain⟨a',hs',hK⟩:=hs.aET hb hj hq (runK P Q ks);refine hK _ (ih _ _ _ hs' ?_);have:=uG (ops:=ops) hs.size h1 h2;omega
  ·have hjE:j∈E:=by
    have:=List.all_eq_true.1 hE j (List.mem_range.2 h1);simp only[Bool.or_eq_true] at this;rcases this with(h4|h4)|h4
    ·exfalso;have:=List.mem_of_elem_eq_true h4;simp only[List.mem_append] at this;rcases this with(h5|h5)|h5;·have:=hs.dl j h5;rw[lP h2] at this;cases this
     ·exact hq (.inl h5)
     ·exact hq (.inr h5)
    ·exact List.mem_of_elem_eq_true h4
    ·exfalso;simp only[Bool.not_eq_true'] at h4;have:((jV ops j).all λ k=>(Dl++Dp++Dq).elem k)=true:=List.all_eq_true.2 λ k hk=>List.elem_eq_true_of_mem (by simp only[List.mem_append];rcases hs.cl k (h3 k hk) with h|h|h<;>simp[h])
     rw[h4] at this;cases this
   exact(h j hjE).step fuel listed a w hs hj (by omega)
theorem gR.xv{pl pl':nP}{i:Nat}{L L':List Nat}(h:gR P n Q ks ops pl Dl Dp Dq S G i L):gR P n Q ks ops pl' Dl Dp Dq S G i L':=⟨h.step⟩
def lG(ops:Array Oper)(Dl Dp Dq:List Nat)(E:List Nat):Bool:=pi ops Dl Dp Dq E&&yY ops&&(E.any λ i=>!(Dl++Dp++Dq).elem i&&Nat.blt i ops.size)
theorem uF{i:Nat}(hc:lG ops Dl Dp Dq [i]=true)(h:gR P n Q ks ops pl Dl Dp Dq S G i LL):JR P n Q ks ops (.one i LL pl) Dl Dp Dq S G:=by simp only[lG,Bool.and_eq_true] at hc;exact⟨qo (pl':=pl) (LL:=LL) hc.1.1 hc.1.2 hc.2 λ j hj=>by simp only[List.mem_singleton] at hj;subst hj;exact h⟩
theorem vV{g:Nat}{v:Value}(h:look S g=v)(t:Nat):look ((g,v)::S) t=look S t:=by
 simp only[look];cases hb:Nat.beq g t with
 | true=>have:=eJ hb;simp[<- this,h]
 | false=>rfl
theorem vw{g:Nat}{v:Value}(h:look S g=v):ev ((g,v)::S)=ev S:=by
 funext x;cases x with
 | tmp t=>exact vV h t
 | _=>rfl
theorem mP.same{g:Nat}{v:Value}(hg:look S g=v){i:Nat}(h:mP P ops S G i):mP P ops ((g,v)::S) G i:=by
 obtain⟨o,d,h1,h2,h3⟩:=h.ex;have hy:bN ops ((g,v)::S)=bN ops S:=by
  funext j;unfold bN;cases jO ops j with
  | none=>rfl
  | some t=>simp only[Option.map_some,vV hg]
 refine⟨o,d,h1,h2,?_⟩;rw[hy,vV hg];exact h3.imp (λ h=>⟨h.1,⟨λ w hw=>by rw[vw hg];exact h.2.run w hw⟩⟩) id
theorem Te.same{listed:Array Bool}{a:Act}{w:World}{g:Nat}{v:Value}(hg:look S g=v)(hv:v≠undef)(hs:Te P ops n Dl Dp Dq S G listed a w):Te P ops n Dl Dp Dq ((g,v)::S) G listed a w :=⟨hs.ok.same hg hv,hs.hG,hs.size,hs.defers,hs.tsize,hs.cl,hs.dl,λ t ht=>(hs.slot t ht).trans (vV hg t).symm,λ i hi hl=>(hs.pure i hi hl).same hg,λ i hi hl=>(hs.load i hi hl).same hg,hs.tidy,hs.dc⟩
theorem aCF{g:Nat}{t:Bool}(hg:look S g=.bool t)(h1:t=true->JR P n Q ks ops pl Dl Dp Dq ((g,.bool true)::S) G)(h2:t=false->JR P n Q ks ops pl Dl Dp Dq ((g,.bool false)::S) G):JR P n Q ks ops pl Dl Dp Dq S G:=⟨λ fuel listed a w hs hf=>by
 cases t with
 | true=>exact(h1 rfl).run fuel listed a w (hs.same hg (by simp[undef])) hf
 | false=>exact(h2 rfl).run fuel listed a w (hs.same hg (by simp[undef])) hf⟩
theorem jL{o:Oper}{v:Value}(h:aH P S G o v):aQ P S G o Unit (λ _=>v) (λ _=>G):=⟨λ w hw=>by rw[h.run w hw];exact⟨(),rfl,hw⟩⟩
theorem aBX{id:Nat}(pl:nP)(hm:P.follows .mixedOrders=true)(hG:∀w,G w->G w.drew)(h:JR P n Q ks ops pl [] [] [] S G):JK P n Q (.code (.region id ops true)::ks) S G:=⟨λ hS w hw=>by
 refine wp_region_any hm (h.run _ _ _ _ ⟨hS,hG w hw,by simp,rfl,by simp[dU],λ j hj=>?_,λ _ h=>(List.not_mem_nil h).elim,λ t _=>?_,λ _ h=>(List.not_mem_nil h).elim,λ _ h=>(List.not_mem_nil h).elim,λ i hi=>(hi.elim List.not_mem_nil List.not_mem_nil).elim,λ k hk=>by
  exfalso;rw[Array.getD_eq_getD_getElem?] at hk;cases hx:(Array.replicate ops.size false)[k]? with
  | none=>rw[hx] at hk;cases hk
  | some b=>rw[hx] at hk;have:=Array.getElem?_eq_some_iff.1 hx;obtain⟨_,hb⟩:=this;simp at hb;subst hb;cases hk⟩ ?_)
 ·exfalso;rw[Array.getD_eq_getD_getElem?] at hj;cases hx:(Array.replicate ops.size false)[j]? with
  | none=>rw[hx] at hj;cases hj
  | some b=>rw[hx] at hj;simp only[Option.getD_some] at hj;subst hj;rw[Array.getElem?_replicate] at hx;split at hx<;>simp at hx
 ·exact congrFun (iY (ds:=[]) hS) (.tmp t)
 ·exact Nat.le_trans (List.length_filter_le _ _) (by simp)⟩
theorem St.drew{w0 w:World}{M:List Nat}{H:List (Nat×Obj)}(h:St w0 M H w):St w0 M H w.drew:=⟨h.os,h.tape,h.output,h.size,h.eH,h.has,h.new,h.nodup⟩
end
end Go.Ct

/- Merged. -/
import Derived.Test.YtdeecdfockjoiaaGreatDoorGEng
import Derived.Orders
set_option linter.unusedSimpArgs false
set_option linter.unusedVariables false
namespace Go.Ct
open Go Go.RowKit
def kO(ops:Array Oper)(i:Nat):Option Tmp:=(ops[i]?).bind (·.dst)
def Ue(o:Oper):List Nat:=o.after.toList.filterMap λ e=>bif Region.binds .any e then some e.on else none
def kV(ops:Array Oper)(i:Nat):List Nat:=(ops[i]?).elim [] Ue
def iX(ops:Array Oper)(i:Nat):List Tmp:=(ops[i]?).elim [] (·.looksAt ops)
def iI(o:Oper):Bool:=match o.op with|.select ..=>false|_=>true
def zW(ops:Array Oper):Bool:=(List.range ops.size).all λ i=>(kV ops i).all (Nat.blt · i)&&((ops[i]?).elim true iI)
def cA(ops:Array Oper)(S:List (Nat×Value))(j:Nat):Option Bool :=
 match(kO ops j).map (look S) with
 | some (.bool b)=>some b
 | _=>none
theorem Ru{o:Oper}{k:Nat}:k∈Ue o↔∃e∈o.after.toList,Region.binds .any e=true/\e.on=k:=by
 unfold Ue;simp only[List.mem_filterMap];constructor
 ·rintro ⟨e,he,h⟩;cases hb:Region.binds .any e with
  | true=>rw[hb] at h;exact⟨e,he,hb,by simpa using h⟩
  | false=>rw[hb] at h;simp at h
 ·rintro ⟨e,he,hb,rfl⟩;exact⟨e,he,by simp[hb]⟩
theorem mem_ready{ops:Array Oper}{listed:Array Bool}{i:Nat}:i∈Region.ready .any ops listed↔i<ops.size/\listed.getD i true=false/\∀k∈kV ops i,listed.getD k false=true:=by
 unfold Region.ready;simp only[List.mem_filter,List.mem_range,Bool.and_eq_true,Bool.not_eq_true'];constructor
 ·rintro ⟨h1,h2,h3⟩;refine⟨h1,h2,λ k hk=>?_⟩;unfold kV at hk;cases ho:ops[i]? with
  | none=>rw[ho] at hk;simp at hk
  | some o=>rw[ho] at hk h3;simp only[Option.elim_some] at hk;obtain⟨e,he,hb,rfl⟩:=Ru.1 hk;simp only[Option.map_some,Option.getD_some] at h3;have:=Array.all_eq_true_iff_forall_mem.1 h3 e (by simpa using he);simpa[hb] using this
 ·rintro ⟨h1,h2,h3⟩;refine⟨h1,h2,?_⟩;have ho:ops[i]?=some ops[i]:=Array.getElem?_eq_getElem h1;rw[ho];simp only[Option.map_some,Option.getD_some];refine Array.all_eq_true_iff_forall_mem.2 λ e he=>?_;cases hb:Region.binds .any e with
  | false=>simp
  | true=>have:=h3 e.on (by unfold kV;rw[ho];exact Ru.2 ⟨e,by simpa using he,hb,rfl⟩);simpa using this
structure nN(P:Program)(ops:Array Oper)(S:List (Nat×Value))(G:World->Prop)(i:Nat):Prop where
 ex:∃o d,ops[i]?=some o/\o.dst=some d/\((Region.wanted o (cA ops S)=true/\aN P S G o (look S d))∨(Region.wanted o (cA ops S)=false/\look S d=undef))
structure S6(P:Program)(ops:Array Oper)(n:Nat)(Dl Dp Dq:List Nat)(S:List (Nat×Value))(G:World->Prop)(listed:Array Bool)(a:Act)(w:World):Prop where
 ok:Dg n S
 hG:G w
 size:listed.size=ops.size
 defers:a.defers=[]
 tsize:a.tmps.size=n
 cl:∀j,listed.getD j false=true->j∈Dl∨j∈Dp∨j∈Dq
 dl:∀j∈Dl,listed.getD j false=true
 slot:∀t,(∀i,i∈Dp∨i∈Dq->listed.getD i false=false->kO ops i≠some t)->a.tmps.getD t undef=look S t
 pure:∀i∈Dp,listed.getD i false=false->nN P ops S (λ _=>True) i
 load:∀i∈Dq,listed.getD i false=false->nN P ops S G i
 tidy:∀i,i∈Dp∨i∈Dq->∀j d,kO ops i=some d->d∈iX ops j->i∈kV ops j
 dc:∀k,listed.getD k false=true->∀j∈kV ops k,listed.getD j false=true
variable{ops:Array Oper}{o:Oper}
theorem rG{t:Tmp}(h:Operand.tmp t∈o.op.operands):t∈o.looksAt ops :=List.mem_append_left _ (List.mem_filterMap.2 ⟨.tmp t,by simpa using h,rfl⟩)
theorem T3(h:iI o=true):∀cs b,o.op≠.select cs b:=by intro cs b e;unfold iI at h;rw[e] at h;cases h
theorem P5{a:Act}{S:List (Nat×Value)}(hs:iI o=true)(h:∀t∈o.looksAt ops,a.tmps.getD t undef=look S t) :
  execOp a.eval o=execOp (ev S) o/\Region.wanted o (yielded ops a.tmps)=Region.wanted o (cA ops S):=by
 refine⟨execOp_congr o (T3 hs) λ x hx=>?_,?_⟩
 ·cases x with
  | tmp t=>exact h t (rG hx)
  | _=>rfl
 ·unfold Region.wanted;cases hg:o.guard with
  | none=>rfl
  | some gw=>
   obtain⟨g,want⟩:=gw;have hy:yielded ops a.tmps g=cA ops S g:=by
    unfold yielded cA kO;cases ht:(ops[g]?).bind (·.dst) with
    | none=>rfl
    | some t=>
     have hl:t∈o.looksAt ops:=by unfold Oper.looksAt;rw[hg];exact List.mem_append_right _ (by simp[ht])
     have:=h t hl;simp only[Option.bind_some,Option.map_some];rw[Array.getD_eq_getD_getElem?] at this;cases h2:a.tmps[t]? with
     | none=>rw[h2] at this;simp only[Option.getD_none] at this;rw[<- this];rfl
     | some u=>rw[h2] at this;simp only[Option.getD_some] at this;rw[this];cases look S t<;>rfl
   simp only[hy]
section
variable{P:Program}{ops:Array Oper}{n:Nat}{Dl Dp Dq:List Nat}{S:List (Nat×Value)}{G:World->Prop}{listed:Array Bool}{a:Act}{w:World}
variable{i j:Nat}
theorem sU(h:listed.size=ops.size)(hi:i<ops.size)(j:Nat)(d:Bool):(listed.setIfInBounds i true).getD j d=if j=i then true else listed.getD j d:=by
 simp only[Array.getD_eq_getD_getElem?,Array.getElem?_setIfInBounds];by_cases hj:i=j;·subst hj;simp[h,hi]
 ·simp[hj,Ne.symm hj]
theorem mP(h:listed.getD i true=false):listed.getD i false=false:=by
 rw[Array.getD_eq_getD_getElem?] at h ⊢;cases hx:listed[i]? with
 | none=>rfl
 | some b=>rw[hx] at h;exact h
theorem zB(hi:i<listed.size)(h:listed.getD i false=false):listed.getD i true=false:=by rw[Array.getD_eq_getD_getElem?] at h ⊢;rw[Array.getElem?_eq_getElem hi] at h ⊢;exact h
theorem S6.yo(hs:S6 P ops n Dl Dp Dq S G listed a w){o:Oper}(ho:ops[j]?=some o)(hd:∀k∈kV ops j,listed.getD k false=true) :
  ∀t∈o.looksAt ops,a.tmps.getD t undef=look S t:=by intro t ht;refine hs.slot t λ i hi hl hdi=>?_;have:=hd i (hs.tidy i hi j t hdi (by unfold iX;rw[ho];exact ht));rw[hl] at this;cases this
theorem So(a:Act)(d:Nat)(v:Value)(t:Nat):(a.put (some d) v).tmps.getD t undef=if t=d/\t<a.tmps.size then v else a.tmps.getD t undef:=by
 simp only[Act.put,Array.getD_eq_getD_getElem?,Array.getElem?_setIfInBounds];by_cases h:d=t
 ·subst h;by_cases hlt:d<a.tmps.size;·simp[hlt]
  ·simp[hlt]
 ·simp[h,Ne.symm h]
theorem S6.aDk(hb:zW ops=true)(hs:S6 P ops n Dl Dp Dq S G listed a w)(hj:j∈Region.ready .any ops listed)(hq:j∈Dp∨j∈Dq)(Q:Exit->Act->World->Prop) :
  ∃a',S6 P ops n Dl Dp Dq S G (listed.setIfInBounds j true) a' w/\∀K:Act->World->Prop,K a' w->wpOp P ops Q j K a w:=by
 obtain⟨hjs,hjl,hjd⟩:=mem_ready.1 hj;have hjf:=mP hjl;have hf:nN P ops S G j:=by
  rcases hq with hq|hq;·obtain⟨o,d,h1,h2,h3⟩:=(hs.pure j hq hjf).ex;exact⟨o,d,h1,h2,h3.imp (λ h=>⟨h.1,⟨λ w _=>h.2.run w trivial⟩⟩) id⟩
  ·exact hs.load j hq hjf
 obtain⟨o,d,ho,hd,hfire⟩:=hf.ex;have hsel:iI o=true:=by have:=List.all_eq_true.1 hb j (List.mem_range.2 hjs);rw[ho] at this;simp only[Bool.and_eq_true] at this;exact this.2
 obtain⟨hrun,hwant⟩:=P5 (ops:=ops) hsel (hs.yo ho hjd);refine⟨a.put (some d) (look S d),?_,λ K hK=>?_⟩
 ·have hls:=λ k d=>sU (ops:=ops) hs.size hjs k d
  refine⟨hs.ok,hs.hG,by simp[hs.size],by simp[Act.put,hs.defers],by simp[Act.put,hs.tsize],λ k hk=>?_,λ k hk=>?_,λ t ht=>?_,λ i hi hl=>?_,λ i hi hl=>?_,hs.tidy,λ k hk q hqd=>by
   rw[hls] at hk ⊢;split;·rfl
   ·by_cases hkj:k=j;·subst hkj;exact hjd q hqd
    ·rw[if_neg hkj] at hk;exact hs.dc k hk q hqd⟩
  ·rw[hls] at hk;by_cases hkj:k=j;·subst hkj;exact .inr hq
   ·rw[if_neg hkj] at hk;exact hs.cl k hk
  ·rw[hls];split;·rfl
   ·exact hs.dl k hk
  ·rw[So];by_cases htd:t=d
   ·subst htd;by_cases hlt:t<a.tmps.size;·simp[hlt]
    ·rw[if_neg (λ h=>hlt h.2)];have hge:a.tmps.size<=t:=Nat.le_of_not_lt hlt;rw[M8 hs.ok (hs.tsize▸hge),Array.getD_eq_getD_getElem?,Array.getElem?_eq_none hge];rfl
   ·rw[if_neg (λ h=>htd h.1)];refine hs.slot t λ i hi hl hdi=>?_;by_cases hij:i=j;·subst hij;unfold kO at hdi;rw[ho] at hdi;simp only[Option.bind_some,hd,Option.some.injEq] at hdi;exact htd hdi.symm
    ·exact ht i hi (by rw[hls,if_neg hij];exact hl) hdi
  ·rw[hls] at hl;by_cases hij:i=j;·rw[if_pos hij] at hl;cases hl
   ·rw[if_neg hij] at hl;exact hs.pure i hi hl
  ·rw[hls] at hl;by_cases hij:i=j;·rw[if_pos hij] at hl;cases hl
   ·rw[if_neg hij] at hl;exact hs.load i hi hl
 ·unfold wpOp;simp only[ho];rcases hfire with⟨hw,hv⟩|⟨hw,hv⟩;·rw[hwant,hw,if_pos rfl];refine .inl ?_;unfold Oper.wp;rw[hrun,hv.run w hs.hG];simp only[Oper.upon,hd];exact hK
  ·rw[hwant,hw,if_neg (by simp),hd];rw[hv] at hK;exact hK
def oH(ops:Array Oper)(listed:Array Bool):List Nat:=(List.range ops.size).filter λ j=>!listed.getD j true
theorem filter_lt{p q:Nat->Bool}(hpq:∀x,q x=true->p x=true){i:Nat}(hp:p i=true)(hq:q i=false):∀l:List Nat,i∈l->(l.filter q).length<(l.filter p).length
 | [],h=>(List.not_mem_nil h).elim
 | x::l,h=>by
  have hle:∀l:List Nat,(l.filter q).length<=(l.filter p).length:=by
   intro l;induction l with
   | nil=>simp
   | cons y l ih=>
    simp only[List.filter_cons];cases hy:q y with
    | true=>simp[hpq y hy];exact ih
    | false=>cases p y<;>simp<;>omega
  simp only[List.filter_cons];rcases List.mem_cons.1 h with rfl|h;·simp[hp,hq];exact Nat.lt_succ_of_le (hle l)
  ·have ih:=filter_lt hpq hp hq l h;cases hx:q x with
   | true=>simp[hpq x hx];exact ih
   | false=>cases p x<;>simp<;>omega
theorem vB(h:listed.size=ops.size){i:Nat}(hi:i<ops.size)(hl:listed.getD i true=false):(oH ops (listed.setIfInBounds i true)).length<(oH ops listed).length:=by
 unfold oH;refine filter_lt (p:=λ j=>!listed.getD j true) (q:=λ j=>!(listed.setIfInBounds i true).getD j true) ?_ (i:=i) ?_ ?_ _ (List.mem_range.2 hi)
 ·intro x hx;simp only[sU (ops:=ops) h hi,Bool.not_eq_true'] at hx ⊢;by_cases hxi:x=i;·rw[if_pos hxi] at hx;cases hx
  ·rw[if_neg hxi] at hx;exact hx
 ·simp[hl]
 ·simp[sU (ops:=ops) h hi]
theorem Ip(hb:zW ops=true)(hsz:listed.size=ops.size):∀i,i<ops.size->listed.getD i false=false->Region.ready .any ops listed≠[]:=by
 intro i;induction i using Nat.strongRecOn with
 | _ i ih=>
  intro hi hl hnil;by_cases hall:∀k∈kV ops i,listed.getD k false=true;·have:i∈Region.ready .any ops listed:=mem_ready.2 ⟨hi,zB (by omega) hl,hall⟩;rw[hnil] at this;cases this
  ·simp only[Classical.not_forall] at hall;obtain⟨k,hk,hkl⟩:=hall;have h1:=List.all_eq_true.1 hb i (List.mem_range.2 hi);simp only[Bool.and_eq_true] at h1;have hki:k<i:=Nat.le_of_ble_eq_true (List.all_eq_true.1 h1.1 k hk);exact ih k hki (by omega) (by simpa using hkl) hnil
end
inductive nS where
 | nil
 | one (i:Nat) (L:List Nat) (r:nS)
 | two (i:Nat) (L:List Nat) (r:nS) (j:Nat) (M:List Nat) (q:nS)
structure JR(P:Program)(n:Nat)(Q:Exit->Act->World->Prop)(ks:List CK)(ops:Array Oper)(pl:nS)(Dl Dp Dq:List Nat)(S:List (Nat×Value))(G:World->Prop):Prop where
 run:∀fuel listed a w,S6 P ops n Dl Dp Dq S G listed a w->(oH ops listed).length<=fuel->wpAny P .any ops (runK P Q ks) fuel listed a w
section
variable{P:Program}{n:Nat}{Q:Exit->Act->World->Prop}{ks:List CK}{ops:Array Oper}{pl pl':nS}{LL:List Nat}{Dl Dp Dq:List Nat}{S:List (Nat×Value)}{G:World->Prop}
theorem nN.step{i d:Nat}{v:Value}(h:nN P ops S G i)(hdst:kO ops i≠some d)(hl:d∉iX ops i)(hsel:(ops[i]?).elim true iI=true):nN P ops ((d,v)::S) G i:=by
 obtain⟨o,e,ho,he,hf⟩:=h.ex;have hle:look ((d,v)::S) e=look S e:=by
  have hne:d≠e:=λ q=>hdst (by unfold kO;rw[ho];simp[he,q])
  simp only[look];cases hb:Nat.beq d e with
  | true=>exact absurd (fC hb) hne
  | false=>rfl
 rw[ho] at hsel;simp only[iX,ho,Option.elim_some] at hl hsel;have hag:∀t∈o.looksAt ops,look ((d,v)::S) t=look S t:=by
  intro t ht;have hne:d≠t:=λ q=>hl (q▸ht)
  simp only[look];cases hb:Nat.beq d t with
  | true=>exact absurd (fC hb) hne
  | false=>rfl
 have hex:execOp (ev ((d,v)::S)) o=execOp (ev S) o:=execOp_congr o (T3 hsel) λ x hx=>by
  cases x with
  | tmp t=>exact hag t (rG hx)
  | _=>rfl
 have hwa:Region.wanted o (cA ops ((d,v)::S))=Region.wanted o (cA ops S):=by
  unfold Region.wanted;cases hg:o.guard with
  | none=>rfl
  | some gw=>
   obtain⟨g,want⟩:=gw;have:cA ops ((d,v)::S) g=cA ops S g:=by
    unfold cA;cases ht:kO ops g with
    | none=>rfl
    | some t=>
     have:t∈o.looksAt ops:=by unfold Oper.looksAt;rw[hg];unfold kO at ht;exact List.mem_append_right _ (by simp[ht])
     simp only[Option.map_some,hag t this]
   simp only[this]
 refine⟨o,e,ho,he,?_⟩;rw[hwa,hle];exact hf.imp (λ h=>⟨h.1,⟨λ w hw=>by rw[hex];exact h.2.run w hw⟩⟩) id
def oY(ops:Array Oper)(D:List Nat)(i d:Nat):Bool :=
 !(iX ops i).elem d&&(D.all λ j=>!((kO ops j)==some d)&&!(iX ops j).elem d&&((ops[j]?).elim true iI)) &&
 ((List.range ops.size).all λ j=>!(iX ops j).elem d||(kV ops j).elem i)
variable{D:List Nat}{i d:Nat}{v:Value}
theorem zP(h:oY ops D i d=true):d∉iX ops i:=by simp only[oY,Bool.and_eq_true] at h;simpa using h.1.1
theorem an{j:Nat}(h:oY ops D i d=true)(hj:j∈D):kO ops j≠some d/\d∉iX ops j/\(ops[j]?).elim true iI=true:=by
 simp only[oY,Bool.and_eq_true] at h;have:=List.all_eq_true.1 h.1.2 j hj;simp only[Bool.and_eq_true,Bool.not_eq_true'] at this;refine⟨?_,?_,this.2⟩;·have:=this.1.1;simpa using this
 ·have:=this.1.2;simpa using this
theorem Ve(h:oY ops D i d=true)(j:Nat)(hl:d∈iX ops j):i∈kV ops j:=by
 simp only[oY,Bool.and_eq_true] at h;by_cases hj:j<ops.size
 ·have:=List.all_eq_true.1 h.2 j (List.mem_range.2 hj);simp only[Bool.or_eq_true,Bool.not_eq_true'] at this;rcases this with h1|h1;·have:(iX ops j).elem d=true:=List.elem_eq_true_of_mem hl;rw[h1] at this;cases this
  ·exact List.mem_of_elem_eq_true h1
 ·unfold iX at hl;rw[Array.getElem?_eq_none (by omega)] at hl;cases hl
theorem S6.ahead{listed:Array Bool}{a:Act}{w:World}(hs:S6 P ops n Dl Dp Dq S G listed a w)(hn:(Dl++Dp++Dq).elem i=false)(hfr:oY ops (Dp++Dq) i d=true)(hd:kO ops i=some d)(hblt:Nat.blt d n=true)(pureB:Bool)(hf:nN P ops ((d,v)::S) (bif pureB then λ _=>True else G) i):S6 P ops n Dl (bif pureB then i::Dp else Dp) (bif pureB then Dq else i::Dq) ((d,v)::S) G listed a w:=by
 have hnm:i∉Dl++Dp++Dq:=λ h=>by rw[List.elem_eq_true_of_mem h] at hn;cases hn
 simp only[List.mem_append,not_or] at hnm;have hil:listed.getD i false=false:=by
  cases hx:listed.getD i false with
  | false=>rfl
  | true=>rcases hs.cl i hx with h|h|h<;>simp_all
 have hmem:∀j,(j∈(bif pureB then i::Dp else Dp)∨j∈(bif pureB then Dq else i::Dq))↔j=i∨j∈Dp∨j∈Dq:=by
  intro j;cases pureB<;>simp only[cond_true,cond_false,List.mem_cons];·exact⟨λ h=>by rcases h with h|h|h<;>simp[h],λ h=>by rcases h with h|h|h<;>simp[h]⟩
  ·exact⟨λ h=>by rcases h with(h|h)|h<;>simp[h],λ h=>by rcases h with h|h|h<;>simp[h]⟩
 have old:∀{G':World->Prop} {j:Nat},j∈Dp∨j∈Dq->nN P ops S G' j->nN P ops ((d,v)::S) G' j:=λ{G' j} hj hF=>by have:=an hfr (j:=j) (by simpa using hj);exact hF.step this.1 this.2.1 this.2.2
 refine⟨hs.ok.cons hblt,hs.hG,hs.size,hs.defers,hs.tsize,λ j hj=>?_,hs.dl,λ t ht=>?_,λ j hj hl=>?_,λ j hj hl=>?_,λ j hj k e hje hek=>?_,hs.dc⟩
 ·rcases hs.cl j hj with h|h;·exact .inl h
  ·exact .inr ((hmem j).2 (.inr h))
 ·have htd:t≠d:=λ e=>ht i ((hmem i).2 (.inl rfl)) hil (e▸hd)
  have h1:=hs.slot t λ j hj hl=>ht j ((hmem j).2 (.inr hj)) hl
  simp only[look];cases hb:Nat.beq d t with
  | true=>exact absurd (fC hb).symm htd
  | false=>exact h1
 ·cases pureB with
  | true=>
   rcases List.mem_cons.1 hj with rfl|hj;·exact hf
   ·exact old (.inl hj) (hs.pure j hj hl)
  | false=>exact old (.inl hj) (hs.pure j hj hl)
 ·cases pureB with
  | true=>exact old (.inr hj) (hs.load j hj hl)
  | false=>
   rcases List.mem_cons.1 hj with rfl|hj;·exact hf
   ·exact old (.inr hj) (hs.load j hj hl)
 ·rcases(hmem j).1 hj with rfl|hj
  ·obtain rfl:d=e:=Option.some.inj (hd.symm.trans hje);exact Ve hfr k hek
  ·exact hs.tidy j hj k e hje hek
theorem nN.Lc{o:Oper}(ho:ops[i]?=some o)(hd:o.dst=some d)(hl:d∉iX ops i)(hsel:iI o=true)(hw:Region.wanted o (cA ops S)=true)(hq:aN P S G o v):nN P ops ((d,v)::S) G i:=by
 have hag:∀t∈o.looksAt ops,look ((d,v)::S) t=look S t:=by
  intro t ht;have hne:d≠t:=λ q=>hl (by unfold iX;rw[ho];exact q▸ht)
  simp only[look];cases hb:Nat.beq d t with
  | true=>exact absurd (fC hb) hne
  | false=>rfl
 have hex:execOp (ev ((d,v)::S)) o=execOp (ev S) o:=execOp_congr o (T3 hsel) λ x hx=>by
  cases x with
  | tmp t=>exact hag t (rG hx)
  | _=>rfl
 have hwa:Region.wanted o (cA ops ((d,v)::S))=Region.wanted o (cA ops S):=by
  unfold Region.wanted;cases hg:o.guard with
  | none=>rfl
  | some gw=>
   obtain⟨g,want⟩:=gw;have:cA ops ((d,v)::S) g=cA ops S g:=by
    unfold cA;cases ht:kO ops g with
    | none=>rfl
    | some t=>
     have:t∈o.looksAt ops:=by unfold Oper.looksAt;rw[hg];unfold kO at ht;exact List.mem_append_right _ (by simp[ht])
     simp only[Option.map_some,hag t this]
   simp only[this]
 refine⟨o,d,ho,hd,.inl ⟨by rw[hwa];exact hw,⟨λ w hw=>?_⟩⟩⟩;have hv:look ((d,v)::S) d=v:=by simp[look]
 rw[hex,hv];exact hq.run w hw
theorem nN.Rx{o:Oper}(ho:ops[i]?=some o)(hd:o.dst=some d)(hl:d∉iX ops i)(hw:Region.wanted o (cA ops S)=false):nN P ops ((d,undef)::S) G i:=by
 have hag:∀t∈o.looksAt ops,look ((d,undef)::S) t=look S t:=by
  intro t ht;have hne:d≠t:=λ q=>hl (by unfold iX;rw[ho];exact q▸ht)
  simp only[look];cases hb:Nat.beq d t with
  | true=>exact absurd (fC hb) hne
  | false=>rfl
 have hwa:Region.wanted o (cA ops ((d,undef)::S))=Region.wanted o (cA ops S):=by
  unfold Region.wanted;cases hg:o.guard with
  | none=>rfl
  | some gw=>
   obtain⟨g,want⟩:=gw;have:cA ops ((d,undef)::S) g=cA ops S g:=by
    unfold cA;cases ht:kO ops g with
    | none=>rfl
    | some t=>
     have:t∈o.looksAt ops:=by unfold Oper.looksAt;rw[hg];unfold kO at ht;exact List.mem_append_right _ (by simp[ht])
     simp only[Option.map_some,hag t this]
   simp only[this]
 exact⟨o,d,ho,hd,.inr ⟨by rw[hwa];exact hw,by simp[look]⟩⟩
def eF(ops:Array Oper)(n:Nat)(Dl Dp Dq:List Nat)(i d:Nat):Bool :=!(Dl++Dp++Dq).elem i&&oY ops (Dp++Dq) i d&&(kO ops i==some d)&&Nat.blt d n&&((ops[i]?).elim true iI)
theorem wC{i d:Nat}(h:eF ops n Dl Dp Dq i d=true) :
  (Dl++Dp++Dq).elem i=false/\oY ops (Dp++Dq) i d=true/\kO ops i=some d/\Nat.blt d n=true/\(ops[i]?).elim true iI=true:=by simp only[eF,Bool.and_eq_true,Bool.not_eq_true',beq_iff_eq] at h;exact⟨h.1.1.1.1,h.1.1.1.2,h.1.1.2,h.1.2,h.2⟩
inductive gC:List Oper->Nat->Oper->Prop where
 | head {o:Oper} {l:List Oper}:gC (o::l) 0 o
 | tail {p:Oper} {l:List Oper} {i:Nat} {o:Oper}:gC l i o->gC (p::l) (i+1) o
theorem gC.get{l:List Oper}{i:Nat}{o:Oper}(h:gC l i o):(⟨l⟩:Array Oper)[i]?=some o:=by
 have:l[i]?=some o:=by
  induction h with
  | head=>rfl
  | tail _ ih=>simpa using ih
 simpa using this
section
variable{ol:List Oper}{op:Op}{ty:TypeId}{pos:String}{af:Array Edge}{gd:Option (Nat×Bool)}
theorem iP{i d:Nat}{v:Value}(ho:gC ol i ⟨some d,op,ty,pos,af,gd⟩)(hw:Region.wanted ⟨some d,op,ty,pos,af,gd⟩ (cA ⟨ol⟩ S)=true)(hq:aN P S (λ _=>True) ⟨some d,op,ty,pos,af,gd⟩ v)(hc:eF ⟨ol⟩ n Dl Dp Dq i d=true)
  (h:JR P n Q ks ⟨ol⟩ pl Dl (i::Dp) Dq ((d,v)::S) G):JR P n Q ks ⟨ol⟩ (.one i LL pl) Dl Dp Dq S G:=by obtain⟨c1,c2,c3,c4,c5⟩:=wC hc;exact⟨λ fuel listed a w hs hf=>h.run fuel listed a w (hs.ahead (v:=v) c1 c2 c3 c4 true (nN.Lc ho.get rfl (zP c2) (by rw[ho.get] at c5;exact c5) hw hq)) hf⟩
theorem Un{i d:Nat}{v:Value}(ho:gC ol i ⟨some d,op,ty,pos,af,gd⟩)(hw:Region.wanted ⟨some d,op,ty,pos,af,gd⟩ (cA ⟨ol⟩ S)=true)(hq:aN P S G ⟨some d,op,ty,pos,af,gd⟩ v)(hc:eF ⟨ol⟩ n Dl Dp Dq i d=true)
  (h:JR P n Q ks ⟨ol⟩ pl Dl Dp (i::Dq) ((d,v)::S) G):JR P n Q ks ⟨ol⟩ (.one i LL pl) Dl Dp Dq S G:=by obtain⟨c1,c2,c3,c4,c5⟩:=wC hc;exact⟨λ fuel listed a w hs hf=>h.run fuel listed a w (hs.ahead (v:=v) c1 c2 c3 c4 false (nN.Lc ho.get rfl (zP c2) (by rw[ho.get] at c5;exact c5) hw hq)) hf⟩
theorem Tn{i d:Nat}(ho:gC ol i ⟨some d,op,ty,pos,af,gd⟩)(hw:Region.wanted ⟨some d,op,ty,pos,af,gd⟩ (cA ⟨ol⟩ S)=false)(hc:eF ⟨ol⟩ n Dl Dp Dq i d=true)
  (h:JR P n Q ks ⟨ol⟩ pl Dl (i::Dp) Dq ((d,undef)::S) G):JR P n Q ks ⟨ol⟩ (.one i LL pl) Dl Dp Dq S G:=by obtain⟨c1,c2,c3,c4,_⟩:=wC hc;exact⟨λ fuel listed a w hs hf=>h.run fuel listed a w (hs.ahead (v:=undef) c1 c2 c3 c4 true (nN.Rx ho.get rfl (zP c2) hw)) hf⟩
end
theorem aCQ(hall:((List.range ops.size).all λ j=>(Dl++Dp++Dq).elem j)=true)(hb:zW ops=true)(h:JK P n Q ks S G):JR P n Q ks ops .nil Dl Dp Dq S G:=by
 have done:∀listed a w,S6 P ops n Dl Dp Dq S G listed a w->Region.ready .any ops listed=[]->runK P Q ks .normal a w:=by
  intro listed a w hs hr;have hl:∀i,i∈Dp∨i∈Dq->listed.getD i false=false->kO ops i=none:=by
   intro i _ hx;rcases Nat.lt_or_ge i ops.size with hi|hi;·exact absurd hr (Ip hb hs.size i hi hx)
   ·unfold kO;rw[Array.getElem?_eq_none (by omega)];rfl
  have hslot:∀t,a.tmps.getD t undef=look S t:=λ t=>hs.slot t λ i hi hx hd=>by rw[hl i hi hx] at hd;cases hd
  have ha:a=⟨eX n S,[]⟩:=by
   have h1:=hs.defers;have h2:=hs.tsize;cases a with
   | mk tmps ds=>
    simp only at h1 h2 hslot;subst h1;congr 1;apply Array.ext;·simp[eX,h2]
    ·intro i hi1 hi2;have:=hslot i;rw[Array.getD_eq_getD_getElem?,Array.getElem?_eq_getElem hi1] at this;simpa[eX] using this
  subst ha;exact h.run hs.ok w hs.hG
 refine⟨λ fuel=>?_⟩;induction fuel with
 | zero=>
  intro listed a w hs hf;have hnil:Region.ready .any ops listed=[]:=by
   cases hr:Region.ready .any ops listed with
   | nil=>rfl
   | cons x xs=>
    have hx:x∈Region.ready .any ops listed:=by rw[hr];exact List.mem_cons_self ..
    obtain⟨h1,h2,_⟩:=mem_ready.1 hx;have:x∈oH ops listed:=List.mem_filter.2 ⟨List.mem_range.2 h1,by simp[h2]⟩;have:=List.length_pos_of_mem this;omega
  exact⟨hnil,done listed a w hs hnil⟩
 | succ fuel ih=>
  intro listed a w hs hf;refine⟨done listed a w hs,λ j hj=>?_⟩;obtain⟨h1,h2,_⟩:=mem_ready.1 hj;have hjD:=List.mem_of_elem_eq_true (List.all_eq_true.1 hall j (List.mem_range.2 h1));simp only[List.mem_append] at hjD;have hq:j∈Dp∨j∈Dq:=by
   rcases hjD with(h|h)|h;·have:=hs.dl j h;rw[mP h2] at this;cases this
   ·exact .inl h
   ·exact .inr h
  obtain⟨a',hs',hK⟩:=hs.aDk hb hj hq (runK P Q ks);refine hK _ (ih _ _ _ hs' ?_);have:=vB (ops:=ops) hs.size h1 h2;omega
def anc(ops:Array Oper):Nat->List Nat->List Nat
 | 0,l=>l
 | f+1,l=>anc ops f (l++(l.flatMap (kV ops)).filter λ j=>!l.elem j)
theorem H3{listed:Array Bool}(dc:∀k,listed.getD k false=true->∀j∈kV ops k,listed.getD j false=true):∀(f:Nat) (l:List Nat),(∀j∈l,listed.getD j false=true)->∀j∈anc ops f l,listed.getD j false=true
 | 0,_,h=>h
 | f+1,l,h=>H3 dc f _ λ j hj=>by
  rcases List.mem_append.1 hj with hj|hj;·exact h j hj
  ·obtain⟨k,hk,hjk⟩:=List.mem_flatMap.1 (List.mem_filter.1 hj).1;exact dc k (h k hk) j hjk
def waiting(ops:Array Oper)(Dq:List Nat)(i:Nat):List Nat:=Dq.filter λ j=>!(anc ops 16 (kV ops i)).elem j
inductive aR(P:Program)(ops:Array Oper)(S:List (Nat×Value))(G:World->Prop):List Nat->Prop where
 | nil:aR P ops S G []
 | cons {i:Nat} {l:List Nat} (h:nN P ops S G i) (r:aR P ops S G l):aR P ops S G (i::l)
theorem aR.get{l:List Nat}(h:aR P ops S G l):∀i∈l,nN P ops S G i:=by
 induction h with
 | nil=>intro i hi;cases hi
 | cons h _ ih=>intro i hi;rcases List.mem_cons.1 hi with rfl|hi;exact h;exact ih i hi
theorem Tj{i d:Nat}{o:Oper}{v:Value}(ho:ops[i]?=some o)(hd:o.dst=some d)(hw:Region.wanted o (cA ops S)=true)(hv:look S d=v)(hq:aN P S G o v):nN P ops S G i :=⟨o,d,ho,hd,.inl ⟨hw,hv▸hq⟩⟩
def lQ(ops:Array Oper)(n:Nat)(Dl Dp Dq:List Nat)(i:Nat)(dst:Option Nat):Bool :=
 zW ops&&!(Dl++Dp++Dq).elem i&&Nat.blt i ops.size&&(kO ops i==dst) &&
 (match dst with
 | some d=>Nat.blt d n&&((Dp++Dq).all λ j=>!((kO ops j)==some d)&&(!(iX ops j).elem d||(kV ops i).elem j)&&((ops[j]?).elim true iI))
 | none=>true)
def oy(ops:Array Oper)(Dl Dp Dq E:List Nat):Bool :=(List.range ops.size).all λ j=>(Dl++Dp++Dq).elem j||E.elem j||!(kV ops j).all λ k=>(Dl++Dp++Dq).elem k
def s8(dst:Option Nat)(v:Value)(S:List (Nat×Value)):List (Nat×Value):=match dst with|some d=>(d,v)::S|none=>S
structure gW(P:Program)(n:Nat)(Q:Exit->Act->World->Prop)(ks:List CK)(ops:Array Oper)(pl:nS)(Dl Dp Dq:List Nat)(S:List (Nat×Value))(G:World->Prop)(i:Nat)(L:List Nat):Prop where
 step:∀fuel listed a w,S6 P ops n Dl Dp Dq S G listed a w->i∈Region.ready .any ops listed->(oH ops listed).length<=fuel+1 ->
  wpOp P ops (runK P Q ks) i (wpAny P .any ops (runK P Q ks) fuel (listed.setIfInBounds i true)) a w
theorem Lh{X:Type}{V:X->Value}{G':X->World->Prop}{i:Nat}{dst:Option Nat}{o:Oper}{L:List Nat}(ho:ops[i]?=some o)(hd:o.dst=dst)(hw:Region.wanted o (cA ops S)=true)
  (hq:aW P S G o X V G') (hc:lQ ops n Dl Dp Dq i dst=true) (hL:((waiting ops Dq i).all λ j=>L.elem j)=true) (hfire:∀x,aR P ops (s8 dst (V x) S) (G' x) L)
  (h:∀x,JR P n Q ks ops pl (i::Dl) Dp Dq (s8 dst (V x) S) (G' x)):gW P n Q ks ops pl Dl Dp Dq S G i L:=by
 simp only[lQ,Bool.and_eq_true,Bool.not_eq_true',beq_iff_eq] at hc;obtain⟨⟨⟨⟨hb,c1⟩,c2⟩,c3⟩,c4⟩:=hc;have hib:i<ops.size:=Nat.le_of_ble_eq_true c2;refine⟨λ fuel listed a w hs hj hfu=>?_⟩;obtain⟨_,hjl,hjd⟩:=mem_ready.1 hj;have hsel:iI o=true:=by have:=List.all_eq_true.1 hb i (List.mem_range.2 hib);rw[ho] at this;simp only[Bool.and_eq_true] at this;exact this.2
 obtain⟨hrun,hwant⟩:=P5 (ops:=ops) hsel (hs.yo ho hjd);unfold wpOp;simp only[ho];rw[hwant,hw,if_pos rfl];refine .inl ?_;unfold Oper.wp;rw[hrun];refine(hq.run w hs.hG).upon λ x w' hg=>(h x).run _ _ _ _ ?_ ?_
 ·have hls:=λ k d=>sU (ops:=ops) hs.size hib k d
  have old:∀{G':World->Prop} {j:Nat},j∈Dp∨j∈Dq->listed.getD j false=false->nN P ops S G' j->nN P ops (s8 dst (V x) S) G' j:=λ{G' j} hj hl hF=>by
   cases dst with
   | none=>exact hF
   | some d=>
    simp only[Bool.and_eq_true] at c4;have:=List.all_eq_true.1 c4.2 j (by simpa using hj);simp only[Bool.and_eq_true,Bool.not_eq_true',Bool.or_eq_true] at this;refine hF.step ?_ ?_ this.2;·have:=this.1.1;simpa using this
    ·intro hm;rcases this.1.2 with h1|h1;·rw[List.elem_eq_true_of_mem hm] at h1;cases h1
     ·have:=hjd j (List.mem_of_elem_eq_true h1);rw[hl] at this;cases this
  have iT:∀j,(listed.setIfInBounds i true).getD j false=false->listed.getD j false=false/\j≠i:=by
   intro j hl;rw[hls] at hl;by_cases hji:j=i;·rw[if_pos hji] at hl;cases hl
   ·rw[if_neg hji] at hl;exact⟨hl,hji⟩
  refine⟨?_,hg,by simp[hs.size],?_,?_,λ j hjj=>?_,λ j hjj=>?_,λ t ht=>?_,λ j hj hl=>old (.inl hj) (iT j hl).1 (hs.pure j hj (iT j hl).1),λ j hj hl=>?_,hs.tidy,λ k hk q hq=>by
   rw[hls] at hk ⊢;split;·rfl
   ·by_cases hki:k=i;·subst hki;exact hjd q hq
    ·rw[if_neg hki] at hk;exact hs.dc k hk q hq⟩
  ·cases dst with
   | none=>exact hs.ok
   | some d=>simp only[Bool.and_eq_true] at c4;exact hs.ok.cons c4.1
  ·rw[hd];cases dst<;>simp[Act.put,hs.defers]
  ·rw[hd];cases dst<;>simp[Act.put,hs.tsize]
  ·rw[hls] at hjj;by_cases hji:j=i;·subst hji;exact .inl (List.mem_cons_self ..)
   ·rw[if_neg hji] at hjj;rcases hs.cl j hjj with h1|h1;·exact .inl (List.mem_cons_of_mem _ h1)
    ·exact .inr h1
  ·rw[hls];split;·rfl
   ·rename_i hji;rcases List.mem_cons.1 hjj with rfl|hjj;·exact absurd rfl hji
    ·exact hs.dl j hjj
  ·have hnm:i∉Dl++Dp++Dq:=λ h=>by rw[List.elem_eq_true_of_mem h] at c1;cases c1
   simp only[List.mem_append,not_or] at hnm
   have base:∀t,(∀j,j∈Dp∨j∈Dq->(listed.setIfInBounds i true).getD j false=false->kO ops j≠some t)->a.tmps.getD t undef=look S t:=λ t ht=>hs.slot t λ j hjm hl=>ht j hjm (by
    have hne:j≠i:=λ e=>by
     rcases hjm with h1|h1;·exact hnm.1.2 (e▸h1)
     ·exact hnm.2 (e▸h1)
    rw[hls,if_neg hne];exact hl)
   rw[hd];cases dst with
   | none=>exact base t ht
   | some d=>
    rw[So];simp only[s8,look];by_cases htd:t=d;·subst htd;simp only[Bool.and_eq_true] at c4;have:t<a.tmps.size:=Nat.lt_of_lt_of_le (Nat.le_of_ble_eq_true c4.1) (Nat.le_of_eq hs.tsize.symm);simp[this]
    ·rw[if_neg (λ h=>htd h.1)];cases hbb:Nat.beq d t with
     | true=>exact absurd (fC hbb).symm htd
     | false=>exact base t ht
  ·refine(hfire x).get j ?_;refine List.mem_of_elem_eq_true (List.all_eq_true.1 hL j (List.mem_filter.2 ⟨hj,?_⟩));cases hx:(anc ops 16 (kV ops i)).elem j with
   | false=>rfl
   | true=>have:=H3 hs.dc 16 _ hjd j (List.mem_of_elem_eq_true hx);rw[(iT j hl).1] at this;cases this
 ·have:=vB (ops:=ops) hs.size hib hjl;omega
section
variable{ol:List Oper}{op:Op}{ty:TypeId}{pos:String}{af:Array Edge}{gd:Option (Nat×Bool)}
variable{X:Type}{L:List Nat}
theorem rJ{V:X->Value}{G':X->World->Prop}{i d:Nat}(ho:gC ol i ⟨some d,op,ty,pos,af,gd⟩)(hw:Region.wanted ⟨some d,op,ty,pos,af,gd⟩ (cA ⟨ol⟩ S)=true)(hq:aW P S G ⟨some d,op,ty,pos,af,gd⟩ X V G')(hc:lQ ⟨ol⟩ n Dl Dp Dq i (some d)=true)(hL:((waiting ⟨ol⟩ Dq i).all λ j=>L.elem j)=true)(hfire:∀x,aR P ⟨ol⟩ ((d,V x)::S) (G' x) L)(h:∀x,JR P n Q ks ⟨ol⟩ pl (i::Dl) Dp Dq ((d,V x)::S) (G' x)):gW P n Q ks ⟨ol⟩ pl Dl Dp Dq S G i L:=Lh ho.get rfl hw hq hc hL hfire h
theorem V4{V:X->Value}{G':X->World->Prop}{i:Nat}(ho:gC ol i ⟨none,op,ty,pos,af,gd⟩)(hw:Region.wanted ⟨none,op,ty,pos,af,gd⟩ (cA ⟨ol⟩ S)=true)(hq:aW P S G ⟨none,op,ty,pos,af,gd⟩ X V G')(hc:lQ ⟨ol⟩ n Dl Dp Dq i none=true)(hL:((waiting ⟨ol⟩ Dq i).all λ j=>L.elem j)=true)(hfire:∀x,aR P ⟨ol⟩ S (G' x) L)(h:∀x,JR P n Q ks ⟨ol⟩ pl (i::Dl) Dp Dq S (G' x)):gW P n Q ks ⟨ol⟩ pl Dl Dp Dq S G i L:=Lh ho.get rfl hw hq hc hL hfire h
theorem Vp{i d:Nat}{v:Value}(ho:gC ol i ⟨some d,op,ty,pos,af,gd⟩)(hw:Region.wanted ⟨some d,op,ty,pos,af,gd⟩ (cA ⟨ol⟩ S)=true)(hv:look S d=v)(hq:aN P S G ⟨some d,op,ty,pos,af,gd⟩ v):nN P ⟨ol⟩ S G i :=Tj ho.get rfl hw hv hq
end
theorem bh{E:List Nat}(hE:oy ops Dl Dp Dq E=true)(hb:zW ops=true)(hne:(E.any λ i=>!(Dl++Dp++Dq).elem i&&Nat.blt i ops.size)=true)(h:∀i∈E,gW P n Q ks ops pl' Dl Dp Dq S G i LL):∀fuel listed a w,S6 P ops n Dl Dp Dq S G listed a w->(oH ops listed).length<=fuel->wpAny P .any ops (runK P Q ks) fuel listed a w:=by
 have nready:∀listed a w,S6 P ops n Dl Dp Dq S G listed a w->Region.ready .any ops listed≠[]:=by
  intro listed a w hs;obtain⟨i,_,hi⟩:=List.any_eq_true.1 hne;simp only[Bool.and_eq_true,Bool.not_eq_true'] at hi;have hil:listed.getD i false=false:=by
   cases hx:listed.getD i false with
   | false=>rfl
   | true=>
    have:i∈Dl++Dp++Dq:=by simp only[List.mem_append];rcases hs.cl i hx with h|h|h<;>simp[h]
    rw[List.elem_eq_true_of_mem this] at hi;cases hi.1
  exact Ip hb hs.size i (Nat.le_of_ble_eq_true hi.2) hil
 intro fuel;induction fuel with
 | zero=>
  intro listed a w hs hf;exfalso;have:=nready listed a w hs;cases hr:Region.ready .any ops listed with
  | nil=>exact this hr
  | cons x xs=>
   have hx:x∈Region.ready .any ops listed:=by rw[hr];exact List.mem_cons_self ..
   obtain⟨h1,h2,_⟩:=mem_ready.1 hx;have:x∈oH ops listed:=List.mem_filter.2 ⟨List.mem_range.2 h1,by simp[h2]⟩;have:=List.length_pos_of_mem this;omega
 | succ fuel ih=>
  intro listed a w hs hf;refine⟨λ hr=>absurd hr (nready listed a w hs),λ j hj=>?_⟩;obtain⟨h1,h2,h3⟩:=mem_ready.1 hj;by_cases hq:j∈Dp∨j∈Dq;·obtain⟨a',hs',hK⟩:=hs.aDk hb hj hq (runK P Q ks);refine hK _ (ih _ _ _ hs' ?_);have:=vB (ops:=ops) hs.size h1 h2;omega
  ·have hjE:j∈E:=by
    have:=List.all_eq_true.1 hE j (List.mem_range.2 h1);simp only[Bool.or_eq_true] at this;rcases this with(h4|h4)|h4
    ·exfalso;have:=List.mem_of_elem_eq_true h4;simp only[List.mem_append] at this;rcases this with(h5|h5)|h5;·have:=hs.dl j h5;rw[mP h2] at this;cases this
     ·exact hq (.inl h5)
     ·exact hq (.inr h5)
    ·exact List.mem_of_elem_eq_true h4
    ·exfalso;simp only[Bool.not_eq_true'] at h4;have:((kV ops j).all λ k=>(Dl++Dp++Dq).elem k)=true:=List.all_eq_true.2 λ k hk=>List.elem_eq_true_of_mem (by simp only[List.mem_append];rcases hs.cl k (h3 k hk) with h|h|h<;>simp[h])
     rw[h4] at this;cases this
   exact(h j hjE).step fuel listed a w hs hj (by omega)
theorem gW.va{pl pl':nS}{i:Nat}{L L':List Nat}(h:gW P n Q ks ops pl Dl Dp Dq S G i L):gW P n Q ks ops pl' Dl Dp Dq S G i L':=⟨h.step⟩
def lE(ops:Array Oper)(Dl Dp Dq:List Nat)(E:List Nat):Bool:=oy ops Dl Dp Dq E&&zW ops&&(E.any λ i=>!(Dl++Dp++Dq).elem i&&Nat.blt i ops.size)
theorem uW{i:Nat}(hc:lE ops Dl Dp Dq [i]=true)(h:gW P n Q ks ops pl Dl Dp Dq S G i LL):JR P n Q ks ops (.one i LL pl) Dl Dp Dq S G:=by simp only[lE,Bool.and_eq_true] at hc;exact⟨bh (pl':=pl) (LL:=LL) hc.1.1 hc.1.2 hc.2 λ j hj=>by simp only[List.mem_singleton] at hj;subst hj;exact h⟩
theorem wO{g:Nat}{v:Value}(h:look S g=v)(t:Nat):look ((g,v)::S) t=look S t:=by
 simp only[look];cases hb:Nat.beq g t with
 | true=>have:=fC hb;simp[<- this,h]
 | false=>rfl
theorem pw{g:Nat}{v:Value}(h:look S g=v):ev ((g,v)::S)=ev S:=by
 funext x;cases x with
 | tmp t=>exact wO h t
 | _=>rfl
theorem nN.same{g:Nat}{v:Value}(hg:look S g=v){i:Nat}(h:nN P ops S G i):nN P ops ((g,v)::S) G i:=by
 obtain⟨o,d,h1,h2,h3⟩:=h.ex;have hy:cA ops ((g,v)::S)=cA ops S:=by
  funext j;unfold cA;cases kO ops j with
  | none=>rfl
  | some t=>simp only[Option.map_some,wO hg]
 refine⟨o,d,h1,h2,?_⟩;rw[hy,wO hg];exact h3.imp (λ h=>⟨h.1,⟨λ w hw=>by rw[pw hg];exact h.2.run w hw⟩⟩) id
theorem S6.same{listed:Array Bool}{a:Act}{w:World}{g:Nat}{v:Value}(hg:look S g=v)(hv:v≠undef)(hs:S6 P ops n Dl Dp Dq S G listed a w):S6 P ops n Dl Dp Dq ((g,v)::S) G listed a w :=⟨hs.ok.same hg hv,hs.hG,hs.size,hs.defers,hs.tsize,hs.cl,hs.dl,λ t ht=>(hs.slot t ht).trans (wO hg t).symm,λ i hi hl=>(hs.pure i hi hl).same hg,λ i hi hl=>(hs.load i hi hl).same hg,hs.tidy,hs.dc⟩
theorem aBG{g:Nat}{t:Bool}(hg:look S g=.bool t)(h1:t=true->JR P n Q ks ops pl Dl Dp Dq ((g,.bool true)::S) G)(h2:t=false->JR P n Q ks ops pl Dl Dp Dq ((g,.bool false)::S) G):JR P n Q ks ops pl Dl Dp Dq S G:=⟨λ fuel listed a w hs hf=>by
 cases t with
 | true=>exact(h1 rfl).run fuel listed a w (hs.same hg (by simp[undef])) hf
 | false=>exact(h2 rfl).run fuel listed a w (hs.same hg (by simp[undef])) hf⟩
theorem kK{o:Oper}{v:Value}(h:aN P S G o v):aW P S G o Unit (λ _=>v) (λ _=>G):=⟨λ w hw=>by rw[h.run w hw];exact⟨(),rfl,hw⟩⟩
theorem aAq{id:Nat}(pl:nS)(hm:P.follows .mixedOrders=true)(hG:∀w,G w->G w.drew)(h:JR P n Q ks ops pl [] [] [] S G):JK P n Q (.code (.region id ops true)::ks) S G:=⟨λ hS w hw=>by
 refine wp_region_any hm (h.run _ _ _ _ ⟨hS,hG w hw,by simp,rfl,by simp[eX],λ j hj=>?_,λ _ h=>(List.not_mem_nil h).elim,λ t _=>?_,λ _ h=>(List.not_mem_nil h).elim,λ _ h=>(List.not_mem_nil h).elim,λ i hi=>(hi.elim List.not_mem_nil List.not_mem_nil).elim,λ k hk=>by
  exfalso;rw[Array.getD_eq_getD_getElem?] at hk;cases hx:(Array.replicate ops.size false)[k]? with
  | none=>rw[hx] at hk;cases hk
  | some b=>rw[hx] at hk;have:=Array.getElem?_eq_some_iff.1 hx;obtain⟨_,hb⟩:=this;simp at hb;subst hb;cases hk⟩ ?_)
 ·exfalso;rw[Array.getD_eq_getD_getElem?] at hj;cases hx:(Array.replicate ops.size false)[j]? with
  | none=>rw[hx] at hj;cases hj
  | some b=>rw[hx] at hj;simp only[Option.getD_some] at hj;subst hj;rw[Array.getElem?_replicate] at hx;split at hx<;>simp at hx
 ·exact congrFun (kE (ds:=[]) hS) (.tmp t)
 ·exact Nat.le_trans (List.length_filter_le _ _) (by simp)⟩
theorem St.drew{w0 w:World}{M:List Nat}{H:List (Nat×Obj)}(h:St w0 M H w):St w0 M H w.drew:=⟨h.os,h.tape,h.output,h.size,h.iT,h.has,h.new,h.nodup⟩
end
end Go.Ct

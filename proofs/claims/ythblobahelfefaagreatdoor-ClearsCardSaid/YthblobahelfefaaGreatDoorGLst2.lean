/- Merged. -/
import Derived.Test.YthblobahelfefaaGreatDoorLst
import Derived.Test.YthblobahelfefaaGreatDoorGFun
import Derived.Lib.SliceRun
import Derived.Laws.Pointers
set_option linter.unusedSimpArgs false
set_option linter.unusedVariables false
namespace Go.Ct
open Go Go.RowKit
section
section
variable{P:Program}{n:Nat}{S:List (Nat×Value)}
variable{w0 w w':World}{M:List Nat}{H H':List (Nat×Obj)}{A F F':Fr}{O O':List Ow}{G:World->Prop}
variable{d:Nat}{ty:TypeId}{pos:String}{af:Array Edge}{gd:Option (Nat×Bool)}{dst:Option Nat}{x y z:Operand}{t t2 e:TypeId}{p a:Option Addr}{i m k c c2:Nat}
variable{o:Oper}{X:Type}{l:List Pr}{l2:List Int}{v:Int}{s:ByteArray}{w1:World}{b dLen dCap sLen sCap sz q:Nat}{cs:List Value}
theorem sJ(a b:List Int):aN (a++b)=aN a++aN b:=by simp[aN]
theorem aQ.conv{V:X->Value}{G1 G2:X->World->Prop}(h:aQ P S G o X V G1)(hG:∀x w,G1 x w->G2 x w):aQ P S G o X V G2:=⟨λ w hw=>(h.run w hw).mono hG⟩
theorem aQ.iN{V:X->Value}{O' O1:X->List Ow}(h:aQ P S G o X V (λ x=>SF w0 M H A F (O' x)))(hO:∀x,O' x=O1 x):aQ P S G o X V (λ x=>SF w0 M H A F (O1 x)):=h.conv λ x w h=>by rw[hO x] at h;exact h
theorem aQ.eG{V:X->Value}{φ:X->Prop}{O' O1:X->List Ow}(h:aQ P S G o X V (λ x w=>φ x/\SF w0 M H A F (O' x) w))(hO:∀x,O' x=O1 x):aQ P S G o X V (λ x w=>φ x/\SF w0 M H A F (O1 x) w):=h.conv λ x w h=>by rw[hO x] at h;exact h
theorem Vh{l:List Int}(hx:ev S x=.slice p m c)(hy:ev S y=.slice a k c2)(ho:mN O i p (aN l) c e 1)(hm:l.length=m)(hf:pB A F O a (aN l2))(hk:l2.length=k)(he:cS P t e [.int .i64 0])(ht2:P.underlying t2=some (.slice e))(hb:m+k<=549755813888) :
  aQ P S (SF w0 M H A F O) ⟨some d,.call {callee:=.builtin .append,args := #[x,y],argTypes := #[t,t2]},ty,pos,af,gd⟩ (Option Addr×Nat) (λ q=>.slice q.1 (m+k) q.2)
   (λ q w=>m+k<=q.2/\SF w0 M H A F (eL O i ⟨q.1,aN (l++l2),q.2,e,1⟩) w):=by rw[sJ];exact fS hx hy ho (by rw[kG];omega) hf (by rw[kG];omega) (vR l2) he rfl (by decide) ht2 hb
theorem ln{l2:List Pr}(hx:ev S x=.slice p m c)(hy:ev S y=.slice a k c2)(ho:mN O i p (cY l) c e 2)(hm:l.length=m)(hf:pB A F O a (cY l2))(hk:l2.length=k)(he:cS P t e [.string ⟨#[]⟩,.int .u64 0])(ht2:P.underlying t2=some (.slice e))(hb:m+k<=549755813888) :
  aQ P S (SF w0 M H A F O) ⟨some d,.call {callee:=.builtin .append,args := #[x,y],argTypes := #[t,t2]},ty,pos,af,gd⟩ (Option Addr×Nat) (λ q=>.slice q.1 (m+k) q.2)
   (λ q w=>m+k<=q.2/\SF w0 M H A F (eL O i ⟨q.1,cY (l++l2),q.2,e,2⟩) w):=by rw[jT];exact fS hx hy ho (by rw[fA];omega) hf (by rw[fA];omega) (sK l2) he rfl (by decide) ht2 hb
theorem aAm{l:List Int}(hx:ev S x=.slice p m c)(hy:ev S y=.slice a 1 c2)(ho:mN O i p (aN l) c e 1)(hm:l.length=m)(hf:pB A F O a [.int .i64 v])(he:cS P t e [.int .i64 0])(ht2:P.underlying t2=some (.slice e))(hb:m+1<=549755813888) :
  aQ P S (SF w0 M H A F O) ⟨some d,.call {callee:=.builtin .append,args := #[x,y],argTypes := #[t,t2]},ty,pos,af,gd⟩ (Option Addr×Nat) (λ q=>.slice q.1 (m+1) q.2)
   (λ q w=>m+1<=q.2/\SF w0 M H A F (eL O i ⟨q.1,aN (l++[v]),q.2,e,1⟩) w):=Vh (l2:=[v]) hx hy ho hm hf rfl he ht2 hb
theorem yr(hx:ev S x=.slice p m c)(hy:ev S y=.slice a 1 c2)(ho:mN O i p (cY l) c e 2)(hm:l.length=m)(hf:pB A F O a [.string s,.int .u64 v])(he:cS P t e [.string ⟨#[]⟩,.int .u64 0])(ht2:P.underlying t2=some (.slice e))(hb:m+1<=549755813888) :
  aQ P S (SF w0 M H A F O) ⟨some d,.call {callee:=.builtin .append,args := #[x,y],argTypes := #[t,t2]},ty,pos,af,gd⟩ (Option Addr×Nat) (λ q=>.slice q.1 (m+1) q.2)
   (λ q w=>m+1<=q.2/\SF w0 M H A F (eL O i ⟨q.1,cY (l++[(s,v)]),q.2,e,2⟩) w):=ln (l2:=[(s,v)]) hx hy ho hm hf rfl he ht2 hb
theorem H4{zc:List Value}(he:cS P t e zc):aQ P S (SF w0 M H A F O) ⟨some d,.buildSlice t 0 #[],ty,pos,af,gd⟩ Nat (λ b=>.slice (some ⟨b,0,none⟩) 0 0) (λ b=>SF w0 M H A F (⟨some ⟨b,0,none⟩,[],0,e,zc.length⟩::O)) :=
 fE λ w hw=>by obtain⟨i,z,hi,hz,hzc,hs,hb⟩:=he.z;refine⟨w.heap.size,w.alloc (.cells ⟨[]⟩ e (0,0)),?_,hw.Gv (Du w _) (.inr ⟨w.heap.size,[],rfl,heap_alloc_new w _,by simp⟩) (by simp[fV]) (eN _)⟩;simp[execOp,Instr.buildSlice,run_underlying he.sl,sizeOf,typeInfo,hi,Instr.fill,newRow];rw[show Array.range 0 = #[] from Array.eq_empty_of_size_eq_zero (by simp),Array.map_empty]
theorem ku{args:List Value}{v:Value}{w:World}{at_:Array TypeId}(hx:lX S [x,y]=args)(hr:(Builtin.copy_ at_ ty ⟨args⟩).run P w=.ok v w1) :
  (execOp (ev S) ⟨dst,.call {callee:=.builtin .copy,args := #[x,y],argTypes:=at_},ty,pos,af,gd⟩).run P w=.ok (.value v) w1:=by subst hx;simp only[execOp,resolve,invoke,builtin,Sem.run_bind,Sem.run_pure,Result.andThen_ok,List.map_toArray,List.map_cons,List.map_nil];simp only[lX] at hr;rw[hr];rfl
theorem X4{o:Nat}{ys:List Value}(hx:ev S x=.slice (some ⟨b,o,none⟩) dLen dCap)(hy:ev S y=.slice a sLen sCap)(ho:mN O i (some ⟨b,0,none⟩) cs c e sz)(hf:pB A F [] a ys)(hlen:min sLen dLen*sz<=ys.length)(hfit:o+min sLen dLen*sz<=cs.length)(h1:ys.all (·.oneCell')=true)(ht:P.underlying t=some (.slice e))(hs:(P.info? e).map (·.size)=some sz)(h0:0<sz) :
  aQ P S (SF w0 M H A F O) ⟨some d,.call {callee:=.builtin .copy,args := #[x,y],argTypes := #[t,t2]},ty,pos,af,gd⟩ Unit (λ _=>.int .i64 (min sLen dLen:Nat))
   (λ _=>SF w0 M H A F (eL O i ⟨some ⟨b,0,none⟩,cs.take o++ys.take (min sLen dLen*sz)++cs.drop (o+min sLen dLen*sz),c,e,sz⟩)) :=
 fE λ w hw=>by
  have hev:lX S [x,y]=[.slice (some ⟨b,o,none⟩) dLen dCap,.slice a sLen sCap]:=by simp[lX,hx,hy]
  have hfl:pB A F O a ys:=by
   cases hf with
   | old h=>exact .old h
   | new h=>exact .new h
   | own h=>cases h
   | hdr h _=>cases h
  have hcl:=hw.cl hfl;have hone:∀u∈ys,u.oneCell'=true:=by simpa using h1
  obtain h2:=(hw.own _ ho.mem).1;rcases h2 with⟨h2,_⟩|⟨b',rest,hb',h2,h3⟩;·simp at h2
  ·simp only[Option.some.injEq,Addr.mk.injEq,and_true] at hb';subst hb';simp only at h2 h3;have hfin:∀cs',cs'++rest=cs'++rest->cs'.length=cs.length->SF w0 M H A F (eL O i ⟨some ⟨b,0,none⟩,cs',c,e,sz⟩) (w.setRow b ⟨cs'++rest⟩):=λ cs' _ hl =>hw.sR ho (oQ w b _) (.inr ⟨b,rest,rfl,setRow_heap w b ⟨cs++rest⟩ _ e (0,0) h2,by rw[List.length_append,hl,<- List.length_append];exact h3⟩) (λ b hb=>.inl hb) (eN _)
   by_cases hz:min sLen dLen=0
   ·have hrow:cs.take o++ys.take (min sLen dLen*sz)++cs.drop (o+min sLen dLen*sz)=cs:=by rw[hz];simp
    have hr:(Builtin.copy_ #[t,t2] ty ⟨[.slice (some ⟨b,o,none⟩) dLen dCap,.slice a sLen sCap]⟩).run P w=.ok (goInt (Nat.min sLen dLen)) w:=by
     have hl0:∀a,(loadCells a 0).run P w=.ok #[] w:=λ a=>by simpa using run_loadCells_list (P:=P) w a [] (by simp)
     cases hq:P.info? e with
     | none=>simp[hq] at hs
     | some inf=>
      clear hrow hfin hfit hlen hev hx hy ho hw h3;have e0:Nat.min sLen dLen=0:=hz;have hfc:(Builtin.firstCells inf.size 0 (.slice a sLen sCap)).run P w=.ok #[] w:=by
       cases a with
       | none=>simp[Builtin.firstCells]
       | some a=>simp[Builtin.firstCells,hl0]
      simp only[Builtin.copy_,List.getElem?_toArray,List.getElem?_cons_zero,List.getElem?_cons_succ,Sem.run_bind,run_underlying ht,Result.andThen_ok,Builtin.lenOf,Sem.run_pure,e0,sizeOf,typeInfo,hq,hfc,storeCells];simp[hq,hfc,storeCells,e0]
    refine⟨(),w,ku hev hr,?_⟩;rw[hrow,C9 ho];exact hw
   ·have hyl:0<ys.length:=by have:=Nat.mul_pos (Nat.pos_of_ne_zero hz) h0;omega
    have hap:=hcl.ptr hyl;have hzl:(ys.take (min sLen dLen*sz)).length=min sLen dLen*sz:=by rw[List.length_take];omega
    have hr:=Nf (P:=P) w t t2 ty e b o dLen dCap ⟨cI a,dH a,none⟩ sLen sCap ⟨cs++rest⟩ e (ys.take (min sLen dLen*sz)) sz ht hs h2 hzl
     (λ j v hj=>hcl.cells j v (by rw[List.getElem?_take] at hj;split at hj;exact hj;cases hj)) (by simp only[hzl];simp;omega) (λ v hv=>hone v (List.mem_of_mem_take hv))
    rw[<- hap] at hr;have hrow:(cs++rest).take o++ys.take (min sLen dLen*sz)++(cs++rest).drop (o+(ys.take (min sLen dLen*sz)).length)=(cs.take o++ys.take (min sLen dLen*sz)++cs.drop (o+min sLen dLen*sz))++rest:=by rw[hzl,List.take_append_of_le_length (by omega),List.drop_append_of_le_length (by omega)];simp
    refine⟨(),w.setRow b ⟨(cs.take o++ys.take (min sLen dLen*sz)++cs.drop (o+min sLen dLen*sz))++rest⟩,ku hev ?_,hfin _ rfl ?_⟩;·rw[hr,<- hrow];rfl
    ·simp only[List.length_append,hzl,List.length_take,List.length_drop];omega
theorem vG(l:List Pr)(k:Nat):(cY l).take (2*k)=cY (l.take k):=by
 conv=>lhs;rw[<- List.take_append_drop k l,jT]
 by_cases h:k<=l.length;·rw[List.take_append_of_le_length (by rw[fA,List.length_take];omega),List.take_of_length_le (by rw[fA,List.length_take];omega)]
 ·rw[List.drop_eq_nil_of_le (by omega)];simp only[cY,List.append_nil];rw[List.take_of_length_le (by rw[fA,List.length_take];omega)]
theorem Fu(l:List Pr)(k:Nat):(cY l).drop (2*k)=cY (l.drop k):=by
 have h:=List.take_append_drop (2*k) (cY l);rw[vG] at h;have h2:cY l=cY (l.take k)++cY (l.drop k):=by rw[<- jT,List.take_append_drop]
 rw[h2] at h;exact List.append_cancel_left (by rw[<- h2] at h;exact h.trans h2)
theorem yL(l:List Int)(k:Nat):(aN l).take k=aN (l.take k):=by simp[aN]
theorem Ip(l:List Int)(k:Nat):(aN l).drop k=aN (l.drop k):=by simp[aN]
theorem Xe{l:List Int}(hx:ev S x=.slice (some ⟨b,q,none⟩) dLen dCap)(hy:ev S y=.slice a sLen sCap)(ho:mN O i (some ⟨b,0,none⟩) (aN l) c e 1)(hf:pB A F [] a (aN l2))(hlen:min sLen dLen<=l2.length)(hfit:q+min sLen dLen<=l.length)(ht:P.underlying t=some (.slice e))(hs:(P.info? e).map (·.size)=some 1) :
  aQ P S (SF w0 M H A F O) ⟨some d,.call {callee:=.builtin .copy,args := #[x,y],argTypes := #[t,t2]},ty,pos,af,gd⟩ Unit (λ _=>.int .i64 (min sLen dLen:Nat))
   (λ _=>SF w0 M H A F (eL O i ⟨some ⟨b,0,none⟩,aN (l.take q++l2.take (min sLen dLen)++l.drop (q+min sLen dLen)),c,e,1⟩)):=by have:=X4 (P:=P) (w0:=w0) (M:=M) (H:=H) (d:=d) (ty:=ty) (pos:=pos) (af:=af) (gd:=gd) (t2:=t2) hx hy ho hf (by rw[kG];omega) (by rw[kG];omega) (vR l2) ht hs (by decide);rw[Nat.mul_one,yL,yL,Ip,<- sJ,<- sJ] at this;exact this
theorem Ff{o:Nat}{l2:List Pr}(hx:ev S x=.slice (some ⟨b,o,none⟩) dLen dCap)(hy:ev S y=.slice a sLen sCap)(ho:mN O i (some ⟨b,0,none⟩) (cY l) c e 2)(hf:pB A F [] a (cY l2))(hq:o=2*q)(hlen:min sLen dLen<=l2.length)(hfit:q+min sLen dLen<=l.length)(ht:P.underlying t=some (.slice e))(hs:(P.info? e).map (·.size)=some 2) :
  aQ P S (SF w0 M H A F O) ⟨some d,.call {callee:=.builtin .copy,args := #[x,y],argTypes := #[t,t2]},ty,pos,af,gd⟩ Unit (λ _=>.int .i64 (min sLen dLen:Nat))
   (λ _=>SF w0 M H A F (eL O i ⟨some ⟨b,0,none⟩,cY (l.take q++l2.take (min sLen dLen)++l.drop (q+min sLen dLen)),c,e,2⟩)):=by subst hq;have:=X4 (P:=P) (w0:=w0) (M:=M) (H:=H) (d:=d) (ty:=ty) (pos:=pos) (af:=af) (gd:=gd) (t2:=t2) hx hy ho hf (by rw[fA];omega) (by rw[fA];omega) (sK l2) ht hs (by decide);rw[show 2*q+min sLen dLen*2=2*(q+min sLen dLen) by omega,Nat.mul_comm (min sLen dLen) 2,vG,vG,Fu,<- jT,<- jT] at this;exact this
theorem Hr{l2:List Pr}(hx:ev S x=.slice (some ⟨b,0,none⟩) dLen dCap)(hy:ev S y=.slice a dLen sCap)(ho:mN O i (some ⟨b,0,none⟩) (cY l) c e 2)(hf:pB A F [] a (cY l2))(h1:l.length=dLen)(h2:l2.length=dLen)(ht:P.underlying t=some (.slice e))(hs:(P.info? e).map (·.size)=some 2) :
  aQ P S (SF w0 M H A F O) ⟨some d,.call {callee:=.builtin .copy,args := #[x,y],argTypes := #[t,t2]},ty,pos,af,gd⟩ Unit (λ _=>.int .i64 (dLen:Nat))
   (λ _=>SF w0 M H A F (eL O i ⟨some ⟨b,0,none⟩,cY l2,c,e,2⟩)):=by have:=Ff (P:=P) (w0:=w0) (M:=M) (H:=H) (d:=d) (ty:=ty) (pos:=pos) (af:=af) (gd:=gd) (t2:=t2) (q:=0) hx hy ho hf rfl (by omega) (by omega) ht hs;rw[Nat.min_self] at this;rw[show l.take 0++l2.take dLen++l.drop (0+dLen)=l2 by rw[List.take_of_length_le (l:=l2) (by omega),List.drop_eq_nil_of_le (by omega)];simp] at this;exact this
theorem Uk{l:List Int}(hx:ev S x=.slice (some ⟨b,0,none⟩) dLen dCap)(hy:ev S y=.slice a dLen sCap)(ho:mN O i (some ⟨b,0,none⟩) (aN l) c e 1)(hf:pB A F [] a (aN l2))(h1:l.length=dLen)(h2:l2.length=dLen)(ht:P.underlying t=some (.slice e))(hs:(P.info? e).map (·.size)=some 1) :
  aQ P S (SF w0 M H A F O) ⟨some d,.call {callee:=.builtin .copy,args := #[x,y],argTypes := #[t,t2]},ty,pos,af,gd⟩ Unit (λ _=>.int .i64 (dLen:Nat))
   (λ _=>SF w0 M H A F (eL O i ⟨some ⟨b,0,none⟩,aN l2,c,e,1⟩)):=by have:=Xe (P:=P) (w0:=w0) (M:=M) (H:=H) (d:=d) (ty:=ty) (pos:=pos) (af:=af) (gd:=gd) (t2:=t2) (q:=0) hx hy ho hf (by omega) (by omega) ht hs;rw[Nat.min_self] at this;rw[show l.take 0++l2.take dLen++l.drop (0+dLen)=l2 by rw[List.take_of_length_le (l:=l2) (by omega),List.drop_eq_nil_of_le (by omega)];simp] at this;exact this
theorem uD{v:Value}(hx:ev S x=.pointer (some ⟨cI p,dH p+q,none⟩))(hy:ev S y=v)(hv:v.oneCell'=true)(ht:one P t=true)(ho:mN O i p cs c e sz)(hq:q<cs.length) :
  aQ P S (SF w0 M H A F O) ⟨none,.store t x y,ty,pos,af,gd⟩ Unit (λ _=>undef) (λ _=>SF w0 M H A F (eL O i ⟨p,cs.set q v,c,e,sz⟩)) :=
 kE λ w hw=>by
  have h2:=(hw.own _ ho.mem).1;rcases h2 with⟨_,h2,_⟩|⟨b,rest,hb,h2,h3⟩;·simp only at h2;subst h2;simp at hq
  ·simp only at hb h2 h3;subst hb;simp only[cI,dH,Nat.zero_add] at hx;have hqr:q<(cs++rest).length:=by rw[List.length_append];omega
   have hc:w.cell? ⟨b,q,none⟩=some (cs++rest)[q]:=by rw[cell_of_row w b q ⟨cs++rest⟩ e (0,0) h2];simp[hqr]
   have hfz:w.frozen? ⟨b,q,none⟩=false:=frozen_of_row w b q ⟨cs++rest⟩ e h2;have hs:(store ⟨b,q,none⟩ v).run P w=.ok () (w.setCell ⟨b,q,none⟩ v):=by rw[run_store P w _ v _ hv,hc];simp[hfz]
   have e1:v.cells = #[v]:=by cases v<;>simp_all[Value.cells,Value.oneCell']
   have hch:fw w (w.setCell ⟨b,q,none⟩ v) (fV (some ⟨b,0,none⟩)):=⟨rfl,rfl,rfl,by simp,λ k _ hk=>heap_setCell_other w ⟨b,q,none⟩ k v (by simpa[fV] using hk)⟩
   refine⟨w.setCell ⟨b,q,none⟩ v,?_,hw.sR ho hch (o':=⟨some ⟨b,0,none⟩,cs.set q v,c,e,sz⟩) (.inr ⟨b,rest,rfl,?_,by simpa using h3⟩) (λ b hb=>.inl hb) (eN _)⟩;·simp[execOp,hx,hy,Instr.storeAt,Instr.sureAddr,storeVar,e1,Qu ht,storeCells,Addr.add_zero',hs]
   ·have:=heap_setCell_same w b q ⟨cs++rest⟩ e v h2;rw[this];simp[List.set_append_left _ _ hq]
theorem eu(l:List Int)(k:Nat)(v:Int):(aN l).set k (.int .i64 v)=aN (l.set k v):=by simp[aN]
theorem Wq:∀(l:List Pr) (k:Nat) (u:Int),(cY l).set (2*k+1) (.int .u64 u)=cY (l.set k ((l.getD k (⟨#[]⟩,0)).1,u))
 | [],_,_=>rfl
 | p::l,0,u=>by simp[cY]
 | p::l,k+1,u=>by have:=Wq l k u;rw[show 2*(k+1)+1=2*k+1+1+1 by omega];simp only[cY,List.set_cons_succ,this,List.getD_cons_succ]
theorem m8{l:List Int}(hx:ev S x=.pointer (some ⟨cI p,dH p+q,none⟩))(hy:ev S y=.int .i64 v)(ht:one P t=true)(ho:mN O i p (aN l) c e 1)(hq:q<l.length) :
  aQ P S (SF w0 M H A F O) ⟨none,.store t x y,ty,pos,af,gd⟩ Unit (λ _=>undef) (λ _=>SF w0 M H A F (eL O i ⟨p,aN (l.set q v),c,e,1⟩)):=by rw[<- eu];exact uD hx hy rfl ht ho (by rw[kG];exact hq)
theorem Ld(hx:ev S x=.pointer (some ⟨cI p,dH p+(2*q+1),none⟩))(hy:ev S y=.int .u64 v)(ht:one P t=true)(ho:mN O i p (cY l) c e 2)(hq:q<l.length) :
  aQ P S (SF w0 M H A F O) ⟨none,.store t x y,ty,pos,af,gd⟩ Unit (λ _=>undef) (λ _=>SF w0 M H A F (eL O i ⟨p,cY (l.set q ((l.getD q (⟨#[]⟩,0)).1,v)),c,e,2⟩)):=by rw[<- Wq];exact uD hx hy rfl ht ho (by rw[fA];omega)
theorem Dm{vs:List Value}(hx:ev S x=.pointer (some ⟨cI p,dH p+q,none⟩))(hy:ev S y=.agg ⟨vs⟩)(h1:vs.all (·.oneCell')=true)(ht:gX P t vs.length=true)(ho:mN O i p cs c e sz)(hq:q+vs.length<=cs.length)(hv0:0<vs.length) :
  aQ P S (SF w0 M H A F O) ⟨none,.store t x y,ty,pos,af,gd⟩ Unit (λ _=>undef) (λ _=>SF w0 M H A F (eL O i ⟨p,cs.take q++vs++cs.drop (q+vs.length),c,e,sz⟩)) :=
 kE λ w hw=>by
  have h2:=(hw.own _ ho.mem).1;rcases h2 with⟨_,h2,_⟩|⟨b,rest,hb,h2,h3⟩;·simp only at h2;subst h2;simp only[List.length_nil] at hq;omega
  ·simp only at hb h2 h3;subst hb;simp only[cI,dH,Nat.zero_add] at hx;obtain⟨dd,hu,hm,hi⟩:=gB ht;have hst:=run_storeCells_at (P:=P) b q e vs 0 ⟨cs++rest⟩ w h2 (by simp;omega) (by simpa using h1);have hrow:(cs++rest).take q++vs++(cs++rest).drop (q+vs.length)=(cs.take q++vs++cs.drop (q+vs.length))++rest:=by rw[List.take_append_of_le_length (by omega),List.drop_append_of_le_length (by omega)];simp
   simp only[Nat.add_zero] at hst;rw[hrow] at hst;refine⟨w.setRow b ⟨(cs.take q++vs++cs.drop (q+vs.length))++rest⟩,?_,hw.sR ho (oQ w b _) (.inr ⟨b,rest,rfl,setRow_heap w b ⟨cs++rest⟩ _ e (0,0) h2,?_⟩) (λ b hb=>.inl hb) (eN _)⟩
   ·cases hq':P.info? t with
    | none=>rw[hq'] at hi;simp at hi
    | some inf=>
     have hs:inf.size=vs.length:=by rw[hq'] at hi;simpa using hi
     simp[execOp,hx,hy,Instr.storeAt,Instr.sureAddr,storeVar,sizeOf,typeInfo,hq',hs,Value.cells,hst]
   ·simp only[List.length_append,List.length_take,List.length_drop] at h3 ⊢;omega
theorem Ft(hx:ev S x=.pointer (some ⟨cI p,dH p+2*q,none⟩))(hy:ev S y=.agg ⟨[.string s,.int .u64 v]⟩)(ht:gX P t 2=true)(ho:mN O i p (cY l) c e 2)(hq:q<l.length) :
  aQ P S (SF w0 M H A F O) ⟨none,.store t x y,ty,pos,af,gd⟩ Unit (λ _=>undef) (λ _=>SF w0 M H A F (eL O i ⟨p,cY (l.set q (s,v)),c,e,2⟩)):=by
 have:=Dm (P:=P) (w0:=w0) (M:=M) (H:=H) (A:=A) (F:=F) (ty:=ty) (pos:=pos) (af:=af) (gd:=gd) (vs:=[.string s,.int .u64 v]) hx hy rfl ht ho (by rw[fA];simp;omega) (by simp);have e1:(cY l).take (2*q)++[.string s,.int .u64 v]++(cY l).drop (2*q+2)=cY (l.set q (s,v)):=by rw[show 2*q+2=2*(q+1) by omega,vG,Fu,show([.string s,.int .u64 v]:List Value)=cY [(s,v)] from rfl,<- jT,<- jT];congr 1;rw[List.set_eq_take_append_cons_drop,if_pos hq];simp
 rw[show([.string s,.int .u64 v]:List Value).length=2 from rfl,e1] at this;exact this
theorem jy{v:Value}{w:World}{lo hi:Option Operand}(hr:(Instr.sliceAt t (ev S x) (lo.map (ev S)) (hi.map (ev S)) none).run P w=.ok v w1) :
  (execOp (ev S) ⟨some d,.slice t x lo hi none,ty,pos,af,gd⟩).run P w=.ok (.value v) w1:=by simp only[execOp,Option.map_none,Sem.run_bind,hr,Result.andThen_ok,Sem.run_pure]
theorem Cl.drop{cs:List Value}(h:Cl w a cs)(k:Nat):Cl w (a.map (·.add k)) (cs.drop k):=by refine⟨λ j u hj=>?_⟩;rw[List.getElem?_drop] at hj;obtain⟨h1,h2⟩:=h.at_ _ u hj;rw[h1];simp only[Option.map_some,Addr.add_lit,cI,dH] at h2 ⊢;refine⟨trivial,?_⟩;rw[Nat.add_assoc];exact h2
end
end
section
section
variable{P:Program}{n:Nat}{S:List (Nat×Value)}
variable{w0 w w':World}{M:List Nat}{H H':List (Nat×Obj)}{A F F':Fr}{O O':List Ow}{G:World->Prop}
variable{d:Nat}{ty:TypeId}{pos:String}{af:Array Edge}{gd:Option (Nat×Bool)}{dst:Option Nat}{x y z:Operand}{t t2 e:TypeId}{p a:Option Addr}{i m k c c2:Nat}
def Ma(l:List Nd):List Value:=l.flatMap Nd.cells
theorem Ed:∀l:List Nd,(Ma l).length=14*l.length
 | []=>rfl
 | _::r=>by have:=Ed r;simp only[Ma,List.flatMap_cons,List.length_append,List.length_cons] at this ⊢;rw[this];simp only[Nd.cells,List.length_cons,List.length_nil];omega
theorem W5:∀{l:List Nd} {k j:Nat},k<l.length->j<14->(Ma l)[14*k+j]?=(l.getD k Nd.zero).cells[j]?
 | [],_,_,h,_=>by simp at h
 | n::r,0,j,_,hj=>by
  simp only[Ma,List.flatMap_cons,Nat.mul_zero,Nat.zero_add,List.getD_cons_zero]
  rw[List.getElem?_append_left (by simp only[Nd.cells,List.length_cons,List.length_nil];omega)]
 | n::r,k+1,j,h,hj=>by
  have:=W5 (l:=r) (k:=k) (j:=j) (by simpa using h) hj
  simp only[Ma,List.flatMap_cons,List.getD_cons_succ] at this ⊢
  rw[List.getElem?_append_right (by simp only[Nd.cells,List.length_cons,List.length_nil];omega),<- this]
  congr 1
  simp only[Nd.cells,List.length_cons,List.length_nil]
  omega
theorem U2{m c:Nat}{i:Int}{kk:IntKind}(hx:ev S x=.slice a m c)(hy:ev S y=.int kk ((k:Nat):Int))(ht:P.underlying t=some (.slice e))(hs:gX P e 14=true)(ha:a=some ⟨cI a,dH a,none⟩)(h1:k<m) :
  aH P S G ⟨some d,.indexAddr t x y,ty,pos,af,gd⟩ (.pointer (some ⟨cI a,dH a+14*k,none⟩)):=⟨λ w _=>by obtain⟨_,_,_,hsz⟩:=gB hs;have:=wI (P:=P) (a:=a) (m:=m) (c:=c) (k:=kk) ht hsz ha (i:=(k:Int)) (by omega) (by omega) w;simp only[Int.toNat_natCast,Nat.mul_comm k 14] at this;simp[execOp,hx,hy,this]⟩
theorem kr{lst:List Nd}{kk:IntKind}(hx:ev S x=.slice a m c)(hy:ev S y=.int kk ((k:Nat):Int))(ht:P.underlying t=some (.slice e))(hs:gX P e 14=true)(hf:pB A F O a (Ma lst))(h1:k<m)(h2:k<lst.length) :
  aH P S (SF w0 M H A F O) ⟨some d,.indexAddr t x y,ty,pos,af,gd⟩ (.pointer (some ⟨cI a,dH a+14*k,none⟩)):=⟨λ w hw =>
 (U2 (i:=0) (G:=SF w0 M H A F O) hx hy ht hs ((hw.cl hf).ptr (by rw[Ed];omega)) h1).run w hw⟩
theorem aAy{lst:List Nd}{q:Nat}(hx:ev S x=.pointer (some ⟨cI a,dH a+14*q,none⟩))(ht:gX P t 14=true)(hf:pB A F O a (Ma lst))(hq:q<lst.length) :
  aH P S (SF w0 M H A F O) ⟨some d,.load t x,ty,pos,af,gd⟩ (lst.getD q Nd.zero).v:=⟨λ w hw=>by
 have hcl:=hw.cl hf;obtain⟨dd,hu,hm,hi⟩:=gB ht;have hagg:(isAgg t).run P w=.ok true w:=by unfold isAgg;rw[Sem.run_bind,run_underlying hu w];cases dd<;>simp_all
 have hl:(loadCells ⟨cI a,dH a+14*q,none⟩ 14).run P w=.ok ⟨(lst.getD q Nd.zero).cells⟩ w:=by
  have:=run_loadCells_list (P:=P) w ⟨cI a,dH a+14*q,none⟩ (lst.getD q Nd.zero).cells (λ j z hz=>by have hj:j<14:=(List.getElem?_eq_some_iff.1 hz).1;rw[Addr.add_lit];have h3:=(hcl.at_ (14*q+j) z (by rw[W5 hq hj];exact hz)).2;rwa [<- Nat.add_assoc] at h3)
  exact this
 cases hq':P.info? t with
 | none=>rw[hq'] at hi;simp at hi
 | some i=>
  have hs:i.size=14:=by rw[hq'] at hi;simpa using hi
  simp[execOp,hx,Instr.loadAt,Instr.sureAddr,loadVar,hagg,Go.sizeOf,typeInfo,hq',hs,hl,Nd.v]⟩
def b9(v n:Int):Int:=IntKind.i64.wrap ((IntKind.u64.wrap v).tmod (IntKind.u64.wrap n))
def tvN(l:List Int)(k:Nat)(n:Int):Nat:=if k<l.length then(b9 (l.getD k 0) n).toNat else 0
def tiN(l:List Int)(k:Nat):Nat:=if k<l.length then k+1 else k
theorem wrap_u64(i:Int):IntKind.u64.wrap i=i%18446744073709551616:=by simp[IntKind.wrap,IntKind.signed,IntKind.bits]
theorem Vy{v n:Int}(h0:0<n)(h1:n<=9223372036854775807):0<=b9 v n/\b9 v n<n:=by unfold b9;rw[wrap_u64,wrap_u64,Int.emod_eq_of_lt (a:=n) (by omega) (by omega)];have h2:=Int.emod_nonneg v (show(18446744073709551616:Int)≠0 by decide);have h3:=Int.tmod_lt_of_pos (v%18446744073709551616) h0;have h4:=Int.tmod_nonneg n h2;rw[wrap_i64 (by omega) (by omega)];exact⟨h4,h3⟩
def tu(T:TypeId)(a:Option Addr)(l:List Int)(c k:Nat):Obj:=.cells ⟨[.slice a l.length c,.int .i64 ((k:Nat):Int)]⟩ T (0,0)
structure O4(w:World)(T:TypeId)(b:Nat)(a:Option Addr)(l:List Int)(c k:Nat):Prop where
 obj:w.heap[b]?=some (tu T a l c k)
 cl:Cl w a (aN l)
 ne:aN l≠[]->cI a≠b
 len:l.length<=17592186043904
theorem SF.tape(h:SF w0 M H A F O w){T b l}(ha:At H i b (tu T a l c k))(hf:pB A F [] a (aN l))(hl:l.length<=17592186043904):O4 w T b a l c k:=by
 refine⟨h.st.at ha,?_,λ hc e=>h.apart hf hc (e▸List.mem_append_left _ (List.mem_map.2 ⟨_,ha.mem,rfl⟩)),hl⟩;cases hf with
 | old h1=>exact h.cl (.old h1)
 | new h1=>exact h.cl (.new h1)
 | own h1=>cases h1
 | hdr h1 _=>cases h1
theorem O4.start{T b l}(h:O4 w T b a l c k):SF w [b] [(b,.cells ⟨[.slice a l.length c,.int .i64 ((k:Nat):Int)]⟩ T (0,0))] [(a,aN l)] [] [] w:=by
 refine⟨⟨rfl,rfl,rfl,Nat.le_refl _,λ _ _ _=>rfl,λ p hp=>?_,λ p hp=>?_,by simp⟩,λ f hf=>?_,λ _ h=>(List.not_mem_nil h).elim,λ _ h=>(List.not_mem_nil h).elim,by simp[Ks]⟩;·simp only[List.mem_singleton] at hp;subst hp;exact h.obj
 ·simp only[List.mem_singleton] at hp;subst hp;exact .inl (by simp)
 ·simp only[List.mem_singleton] at hf;subst hf;exact⟨h.cl,λ hc=>by simp only[Ks,List.map_cons,List.map_nil,List.flatMap_nil,List.append_nil,List.mem_singleton];exact h.ne hc⟩
end
end
section
section
variable{w0 w w':World}{M:List Nat}{H:List (Nat×Obj)}{A F:Fr}{O:List Ow}
structure dJ where
 nd:Nd
 xs:List Int
 ys:List Pr
structure Nv where
 kind:Int
 gen:Int
 main:Int
 bm:Int
 xs:List Int
 hash:Int
 key:ByteArray
 val:Int
 ys:List Pr
 prev:Int
 old:Int
 exp:Int
 new:Int
 status:Int
def Nd.c(n:Nd)(xs:List Int)(ys:List Pr):Nv:=⟨n.kind,n.gen,n.main,n.bm,xs,n.hash,n.key,n.val,ys,n.prev,n.old,n.exp,n.new,n.status⟩
def dJ.c(v:dJ):Nv:=v.nd.c v.xs v.ys
theorem Qp{a b:Nd}{x1 x2:List Int}{y1 y2:List Pr}:M8 a b x1 x2 y1 y2↔a.c x1 y1=b.c x2 y2:=by simp[M8,Nd.c]
def dJ.fr(v:dJ):Fr:=[(v.nd.brA,aN v.xs),(v.nd.prA,cY v.ys)]
def dJ.zero:dJ:=⟨Nd.zero,[],[]⟩
def cH(L:List dJ):Fr:=L.flatMap dJ.fr
def Qr(L:List dJ):List Value:=L.flatMap (·.nd.cells)
theorem X1(L:List dJ):Qr L=Ma (L.map (·.nd)):=by simp[Qr,Ma,List.flatMap_map]
theorem aAQ{L:List dJ}{k:Nat}:(L.map (·.nd)).getD k Nd.zero=(L.getD k dJ.zero).nd:=by rw[Ss,Ss,List.getElem?_map];cases L[k]?<;>rfl
theorem Oi(n:Nd):n.cells.length=14:=rfl
theorem Vn(a b:List dJ):Qr (a++b)=Qr a++Qr b:=by simp[Qr]
theorem vv(v:dJ):Qr [v]=v.nd.cells:=by simp[Qr]
theorem zY(a:List dJ)(v:dJ):Qr (a++[v])=Qr a++v.nd.cells:=by rw[Vn,vv]
theorem pW(a b:List dJ):cH (a++b)=cH a++cH b:=by simp[cH]
theorem oO:∀L:List dJ,(Qr L).length=L.length*14
 | []=>rfl
 | v::L=>by have:=oO L;simp only[Qr,List.flatMap_cons,List.length_append,Oi,List.length_cons] at this ⊢;omega
theorem Q1{L:List dJ}{f:Option Addr×List Value}:f∈cH L↔∃v∈L,f∈v.fr:=by simp[cH]
theorem H9{L:List dJ}{k:Nat}(hk:k<L.length):L.getD k dJ.zero∈L:=by rw[Ss,List.getElem?_eq_getElem hk];exact List.getElem_mem hk
theorem yo{L:List dJ}{k:Nat}(hk:k<L.length):((L.getD k dJ.zero).nd.brA,aN (L.getD k dJ.zero).xs)∈cH L:=Q1.2 ⟨_,H9 hk,by simp[dJ.fr]⟩
theorem aAY{L:List dJ}{k:Nat}(hk:k<L.length):((L.getD k dJ.zero).nd.prA,cY (L.getD k dJ.zero).ys)∈cH L:=Q1.2 ⟨_,H9 hk,by simp[dJ.fr]⟩
structure dJ.Fit(v:dJ):Prop where
 brN:v.nd.brN=v.xs.length
 prN:v.nd.prN=v.ys.length
 brS:v.xs.length<=35184372088832
 prS:v.ys.length<=11728124029610
theorem dJ.Fit.Fp{v:dJ}(h:v.Fit){w:World}(hb:Cl w v.nd.brA (aN v.xs))(hp:Cl w v.nd.prA (cY v.ys)):Jy w v.nd v.xs v.ys :=⟨h.brN,h.prN,hb,hp,by have:=h.brS;omega,by have:=h.prS;omega⟩
def Fits(L:List dJ):Prop:=∀v∈L,v.Fit
theorem Fits.at{L:List dJ}(h:Fits L){k:Nat}(hk:k<L.length):(L.getD k dJ.zero).Fit:=h _ (H9 hk)
theorem jd:dJ.zero.Fit:=⟨rfl,rfl,by decide,by decide⟩
theorem SF.aEJ{L:List dJ}(h:SF w0 M H (cH L) F O w)(hfit:Fits L){k:Nat}(hk:k<L.length):Jy w (L.getD k dJ.zero).nd (L.getD k dJ.zero).xs (L.getD k dJ.zero).ys :=
 (hfit.at hk).Fp (h.old _ (yo hk)).1 (h.old _ (aAY hk)).1
variable{P:Program}{S:List (Nat×Value)}{G:World->Prop}{d:Nat}{ty:TypeId}{pos:String}{af:Array Edge}{gd:Option (Nat×Bool)}{x y:Operand}{t t2 e:TypeId}{p a:Option Addr}{i m k c c2:Nat}
theorem o6{L:List dJ}{kk:IntKind}(hx:ev S x=.slice a m c)(hy:ev S y=.int kk ((k:Nat):Int))(ht:P.underlying t=some (.slice e))(hs:gX P e 14=true)(hf:pB A F O a (Qr L))(h1:k<m)(h2:k<L.length) :
  aH P S (SF w0 M H A F O) ⟨some d,.indexAddr t x y,ty,pos,af,gd⟩ (.pointer (some ⟨cI a,dH a+14*k,none⟩)):=kr (lst:=L.map (·.nd)) hx hy ht hs (by rw[<- X1];exact hf) h1 (by simpa using h2)
theorem xi{L:List dJ}{q:Nat}(hx:ev S x=.pointer (some ⟨cI a,dH a+14*q,none⟩))(ht:gX P t 14=true)(hf:pB A F O a (Qr L))(hq:q<L.length) :
  aH P S (SF w0 M H A F O) ⟨some d,.load t x,ty,pos,af,gd⟩ (L.getD q dJ.zero).nd.v:=by have:=aAy (P:=P) (S:=S) (w0:=w0) (M:=M) (H:=H) (A:=A) (F:=F) (O:=O) (d:=d) (ty:=ty) (pos:=pos) (af:=af) (gd:=gd) (lst:=L.map (·.nd)) hx ht (by rw[<- X1];exact hf) (by simpa using hq);rwa [aAQ] at this
section
variable{m n:Nat}{t':TypeId}
theorem aCa(hx:ev S x=.int .i64 ((m:Nat):Int))(hy:ev S y=.int .i64 ((n:Nat):Int))(h:m+n<=9223372036854775807) :
  aH P S G ⟨some d,.binOp .add t x y t',ty,pos,af,gd⟩ (.int .i64 ((m+n:Nat):Int)):=by have:=uP (P:=P) (G:=G) (d:=d) (ty:=ty) (pos:=pos) (af:=af) (gd:=gd) (t:=t) (t':=t') hx hy;rw[wrap_i64 (by omega) (by omega)] at this;rw[Int.natCast_add];exact this
theorem aCn(hx:ev S x=.int .i64 ((m:Nat):Int))(hy:ev S y=.int .i64 ((n:Nat):Int))(h:n<=m)(h2:m<=9223372036854775807) :
  aH P S G ⟨some d,.binOp .sub t x y t',ty,pos,af,gd⟩ (.int .i64 ((m-n:Nat):Int)):=by have:=Lf (P:=P) (G:=G) (d:=d) (ty:=ty) (pos:=pos) (af:=af) (gd:=gd) (t:=t) (t':=t') hx hy;rw[wrap_i64 (by omega) (by omega)] at this;rw[Int.natCast_sub h];exact this
end
theorem Lb{P:Program}{S:List (Nat×Value)}{G:World->Prop}{d:Nat}{ty:TypeId}{pos:String}{af:Array Edge}{gd:Option (Nat×Bool)}{x:Operand}{vs:List Value}{k:Nat}{v:Value}(hx:ev S x=.tuple ⟨vs⟩)(hk:vs[k]?=some v):aH P S G ⟨some d,.extract x k,ty,pos,af,gd⟩ v:=⟨λ w _=>by simp[execOp,hx,Instr.extract,hk]⟩
theorem cO{b off:Nat}{cs vs:List Value}{T:TypeId}(hx:ev S x=.pointer (some ⟨b,off,none⟩))(ha:At H i b (.cells ⟨cs⟩ T (0,0)))(ht:gX P t k=true)(hv:(cs.drop off).take k=vs)(hl:vs.length=k) :
  aH P S (SF w0 M H A F O) ⟨some d,.load t x,ty,pos,af,gd⟩ (.agg ⟨vs⟩):=⟨λ w hw=>by
 have hb:=hw.st.at ha;have hcl:Cl w (some ⟨b,0,none⟩) cs:=Cl.block (pre:=[]) (rest:=[]) (by simpa using hb) rfl;obtain⟨dd,hu,hm,hi⟩:=gB ht;have hagg:(isAgg t).run P w=.ok true w:=by unfold isAgg;rw[Sem.run_bind,run_underlying hu w];cases dd<;>simp_all
 have hlc:(loadCells ⟨b,off,none⟩ k).run P w=.ok ⟨vs⟩ w:=by
  have:=run_loadCells_list (P:=P) w ⟨b,off,none⟩ vs (λ j z hz=>by
   rw[Addr.add_lit];have hj:j<k:=by rw[<- hl];exact(List.getElem?_eq_some_iff.1 hz).1
   have h1:cs[off+j]?=some z:=by rw[<- hv,List.getElem?_take,if_pos hj,List.getElem?_drop] at hz;exact hz
   have h3:=(hcl.at_ (off+j) z h1).2;simpa[cI,dH] using h3)
  rwa [hl] at this
 cases hq':P.info? t with
 | none=>rw[hq'] at hi;simp at hi
 | some inf=>
  have hs:inf.size=k:=by rw[hq'] at hi;simpa using hi
  simp[execOp,hx,Instr.loadAt,Instr.sureAddr,loadVar,hagg,Go.sizeOf,typeInfo,hq',hs,hlc]⟩
def Ai(P:Program)(t:TypeId)(k:Nat):Option Nat :=
 match P.underlying t with
 | some (.struct fs)=>match fs[k]? with
  | some f=>if one P f.type then some f.offset else none
  | none=>none
 | _=>none
theorem Zf{cs:List Value}{off:Nat}{v:Value}(hx:ev S x=.agg ⟨cs⟩)(hf:Ai P t k=some off)(hv:cs[off]?=some v):aH P S G ⟨some d,.field t x k,ty,pos,af,gd⟩ v:=⟨λ w _=>by
 unfold Ai at hf;cases hu:P.underlying t with
 | none=>simp[hu] at hf
 | some dd=>
  cases dd<;>simp[hu] at hf;rename_i fs;cases hk:fs[k]? with
  | none=>simp[hk] at hf
  | some f=>
   simp only[hk] at hf;split at hf;·rename_i h1;simp only[Option.some.injEq] at hf;subst hf;have hp:=kM (P:=P) h1 (cs:=⟨cs⟩) (off:=f.offset) (v:=v) (by simpa using hv) w;simp[execOp,hx,Instr.field,run_underlying hu,hk,asAgg,hp]
   ·cases hf⟩
theorem jc(hx:ev S x=.slice a m c)(hy:ev S y=.slice none 0 0)(ht:P.underlying t=some (.slice e)):aH P S G ⟨some d,.binOp .eql t x y t2,ty,pos,af,gd⟩ (.bool a.isNone):=⟨λ w _=>by have:=Go.Lib.run_eql_slice_nil (P:=P) w t e a m c 0 0 ht;simp[execOp,hx,hy,this,eqGuard]⟩
def Sc(P:Program)(t:TypeId):Bool:=match P.underlying t with|some (.pointer _)=>true|_=>false
theorem sv(h:Sc P t=true):P.underlying t=some (.pointer (P.pointee t)):=by
 unfold Sc at h;cases hu:P.underlying t with
 | none=>simp[hu] at h
 | some dd=>cases dd<;>simp[hu,Program.pointee] at h ⊢
theorem aAz{q:Option Addr}(hx:ev S x=.pointer q)(hy:ev S y=.pointer none)(ht:Sc P t=true):aH P S G ⟨some d,.binOp .eql t x y t2,ty,pos,af,gd⟩ (.bool q.isNone):=⟨λ w _=>by have:=run_eql_pointer_nil (P:=P) w t q (sv ht);simp[execOp,hx,hy,this,eqGuard]⟩
end
end
end Go.Ct

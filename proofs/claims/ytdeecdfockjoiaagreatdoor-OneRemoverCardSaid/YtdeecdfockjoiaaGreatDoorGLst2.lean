/- Merged. -/
import Derived.Test.YtdeecdfockjoiaaGreatDoorGFz
import Derived.Test.YtdeecdfockjoiaaGreatDoorGFun
import Derived.Lib.SliceRun
import Derived.Laws.Pointers
set_option linter.unusedSimpArgs false
set_option linter.unusedVariables false
namespace Go.Ct
open Go Go.RowKit
section
section
variable{P:Program}{n:Nat}{S:List (Nat×Value)}
variable{w0 w w':World}{M:List Nat}{H H':List (Nat×Obj)}{A F F':Fr}{O O':List Ow}{G:World->Prop}
variable{d:Nat}{ty:TypeId}{pos:String}{af:Array Edge}{gd:Option (Nat×Bool)}{dst:Option Nat}{x y z:Operand}{t t2 e:TypeId}{p a:Option Addr}{i m k c c2:Nat}
variable{o:Oper}{X:Type}{l:List Pr}{l2:List Int}{v:Int}{s:ByteArray}{w1:World}{b dLen dCap sLen sCap sz q:Nat}{cs:List Value}
theorem tK(a b:List Int):aT (a++b)=aT a++aT b:=by simp[aT]
theorem aW.conv{V:X->Value}{G1 G2:X->World->Prop}(h:aW P S G o X V G1)(hG:∀x w,G1 x w->G2 x w):aW P S G o X V G2:=⟨λ w hw=>(h.run w hw).mono hG⟩
theorem aW.gJ{V:X->Value}{O' O1:X->List Ow}(h:aW P S G o X V (λ x=>SF w0 M H A F (O' x)))(hO:∀x,O' x=O1 x):aW P S G o X V (λ x=>SF w0 M H A F (O1 x)):=h.conv λ x w h=>by rw[hO x] at h;exact h
theorem aW.cX{V:X->Value}{φ:X->Prop}{O' O1:X->List Ow}(h:aW P S G o X V (λ x w=>φ x/\SF w0 M H A F (O' x) w))(hO:∀x,O' x=O1 x):aW P S G o X V (λ x w=>φ x/\SF w0 M H A F (O1 x) w):=h.conv λ x w h=>by rw[hO x] at h;exact h
theorem oj{l:List Int}(hx:ev S x=.slice p m c)(hy:ev S y=.slice a k c2)(ho:rM O i p (aT l) c e 1)(hm:l.length=m)(hf:qC A F O a (aT l2))(hk:l2.length=k)(he:dU P t e [.int .i64 0])(ht2:P.underlying t2=some (.slice e))(hb:m+k<=549755813888) :
  aW P S (SF w0 M H A F O) ⟨some d,.call {callee:=.builtin .append,args := #[x,y],argTypes := #[t,t2]},ty,pos,af,gd⟩ (Option Addr×Nat) (λ q=>.slice q.1 (m+k) q.2)
   (λ q w=>m+k<=q.2/\SF w0 M H A F (gU O i ⟨q.1,aT (l++l2),q.2,e,1⟩) w):=by rw[tK];exact dG hx hy ho (by rw[lG];omega) hf (by rw[lG];omega) (vE l2) he rfl (by decide) ht2 hb
theorem kb{l2:List Pr}(hx:ev S x=.slice p m c)(hy:ev S y=.slice a k c2)(ho:rM O i p (dF l) c e 2)(hm:l.length=m)(hf:qC A F O a (dF l2))(hk:l2.length=k)(he:dU P t e [.string ⟨#[]⟩,.int .u64 0])(ht2:P.underlying t2=some (.slice e))(hb:m+k<=549755813888) :
  aW P S (SF w0 M H A F O) ⟨some d,.call {callee:=.builtin .append,args := #[x,y],argTypes := #[t,t2]},ty,pos,af,gd⟩ (Option Addr×Nat) (λ q=>.slice q.1 (m+k) q.2)
   (λ q w=>m+k<=q.2/\SF w0 M H A F (gU O i ⟨q.1,dF (l++l2),q.2,e,2⟩) w):=by rw[kX];exact dG hx hy ho (by rw[gE];omega) hf (by rw[gE];omega) (tM l2) he rfl (by decide) ht2 hb
theorem qm{l:List Int}(hx:ev S x=.slice p m c)(hy:ev S y=.slice a 1 c2)(ho:rM O i p (aT l) c e 1)(hm:l.length=m)(hf:qC A F O a [.int .i64 v])(he:dU P t e [.int .i64 0])(ht2:P.underlying t2=some (.slice e))(hb:m+1<=549755813888) :
  aW P S (SF w0 M H A F O) ⟨some d,.call {callee:=.builtin .append,args := #[x,y],argTypes := #[t,t2]},ty,pos,af,gd⟩ (Option Addr×Nat) (λ q=>.slice q.1 (m+1) q.2)
   (λ q w=>m+1<=q.2/\SF w0 M H A F (gU O i ⟨q.1,aT (l++[v]),q.2,e,1⟩) w):=oj (l2:=[v]) hx hy ho hm hf rfl he ht2 hb
theorem ur(hx:ev S x=.slice p m c)(hy:ev S y=.slice a 1 c2)(ho:rM O i p (dF l) c e 2)(hm:l.length=m)(hf:qC A F O a [.string s,.int .u64 v])(he:dU P t e [.string ⟨#[]⟩,.int .u64 0])(ht2:P.underlying t2=some (.slice e))(hb:m+1<=549755813888) :
  aW P S (SF w0 M H A F O) ⟨some d,.call {callee:=.builtin .append,args := #[x,y],argTypes := #[t,t2]},ty,pos,af,gd⟩ (Option Addr×Nat) (λ q=>.slice q.1 (m+1) q.2)
   (λ q w=>m+1<=q.2/\SF w0 M H A F (gU O i ⟨q.1,dF (l++[(s,v)]),q.2,e,2⟩) w):=kb (l2:=[(s,v)]) hx hy ho hm hf rfl he ht2 hb
theorem Hh{zc:List Value}(he:dU P t e zc):aW P S (SF w0 M H A F O) ⟨some d,.buildSlice t 0 #[],ty,pos,af,gd⟩ Nat (λ b=>.slice (some ⟨b,0,none⟩) 0 0) (λ b=>SF w0 M H A F (⟨some ⟨b,0,none⟩,[],0,e,zc.length⟩::O)) :=
 gS λ w hw=>by obtain⟨i,z,hi,hz,hzc,hs,hb⟩:=he.z;refine⟨w.heap.size,w.alloc (.cells ⟨[]⟩ e (0,0)),?_,hw.Ov (Db w _) (.inr ⟨w.heap.size,[],rfl,heap_alloc_new w _,by simp⟩) (by simp[iC]) (iM _)⟩;simp[execOp,Instr.buildSlice,run_underlying he.sl,sizeOf,typeInfo,hi,Instr.fill,newRow];rw[show Array.range 0 = #[] from Array.eq_empty_of_size_eq_zero (by simp),Array.map_empty]
theorem lf{args:List Value}{v:Value}{w:World}{at_:Array TypeId}(hx:nZ S [x,y]=args)(hr:(Builtin.copy_ at_ ty ⟨args⟩).run P w=.ok v w1) :
  (execOp (ev S) ⟨dst,.call {callee:=.builtin .copy,args := #[x,y],argTypes:=at_},ty,pos,af,gd⟩).run P w=.ok (.value v) w1:=by subst hx;simp only[execOp,resolve,invoke,builtin,Sem.run_bind,Sem.run_pure,Result.andThen_ok,List.map_toArray,List.map_cons,List.map_nil];simp only[nZ] at hr;rw[hr];rfl
theorem Xs{o:Nat}{ys:List Value}(hx:ev S x=.slice (some ⟨b,o,none⟩) dLen dCap)(hy:ev S y=.slice a sLen sCap)(ho:rM O i (some ⟨b,0,none⟩) cs c e sz)(hf:qC A F [] a ys)(hlen:min sLen dLen*sz<=ys.length)(hfit:o+min sLen dLen*sz<=cs.length)(h1:ys.all (·.oneCell')=true)(ht:P.underlying t=some (.slice e))(hs:(P.info? e).map (·.size)=some sz)(h0:0<sz) :
  aW P S (SF w0 M H A F O) ⟨some d,.call {callee:=.builtin .copy,args := #[x,y],argTypes := #[t,t2]},ty,pos,af,gd⟩ Unit (λ _=>.int .i64 (min sLen dLen:Nat))
   (λ _=>SF w0 M H A F (gU O i ⟨some ⟨b,0,none⟩,cs.take o++ys.take (min sLen dLen*sz)++cs.drop (o+min sLen dLen*sz),c,e,sz⟩)) :=
 gS λ w hw=>by
  have hev:nZ S [x,y]=[.slice (some ⟨b,o,none⟩) dLen dCap,.slice a sLen sCap]:=by simp[nZ,hx,hy]
  have hfl:qC A F O a ys:=by
   cases hf with
   | old h=>exact .old h
   | new h=>exact .new h
   | own h=>cases h
   | hdr h _=>cases h
  have hcl:=hw.cl hfl;have hone:∀u∈ys,u.oneCell'=true:=by simpa using h1
  obtain h2:=(hw.own _ ho.mem).1;rcases h2 with⟨h2,_⟩|⟨b',rest,hb',h2,h3⟩;·simp at h2
  ·simp only[Option.some.injEq,Addr.mk.injEq,and_true] at hb';subst hb';simp only at h2 h3;have hfin:∀cs',cs'++rest=cs'++rest->cs'.length=cs.length->SF w0 M H A F (gU O i ⟨some ⟨b,0,none⟩,cs',c,e,sz⟩) (w.setRow b ⟨cs'++rest⟩):=λ cs' _ hl =>hw.yX ho (tU w b _) (.inr ⟨b,rest,rfl,setRow_heap w b ⟨cs++rest⟩ _ e (0,0) h2,by rw[List.length_append,hl,<- List.length_append];exact h3⟩) (λ b hb=>.inl hb) (iM _)
   by_cases hz:min sLen dLen=0
   ·have hrow:cs.take o++ys.take (min sLen dLen*sz)++cs.drop (o+min sLen dLen*sz)=cs:=by rw[hz];simp
    have hr:(Builtin.copy_ #[t,t2] ty ⟨[.slice (some ⟨b,o,none⟩) dLen dCap,.slice a sLen sCap]⟩).run P w=.ok (goInt (Nat.min sLen dLen)) w:=by
     have hl0:∀a,(loadCells a 0).run P w=.ok #[] w:=λ a=>by simpa using run_loadCells_list (P:=P) w a [] (by simp)
     cases hq:P.info? e with
     | none=>simp[hq] at hs
     | some inf=>
      clear hrow hfin hfit hlen hev hx hy ho hw h3;have e0:Nat.min sLen dLen=0:=hz;have hfc:(Builtin.firstCells inf.size 0 (.slice a sLen sCap)).run P w=.ok #[] w:=by
       cases a with
       | none=>simp[Builtin.firstCells]
       | some a=>simp[Builtin.firstCells,hl0]
      simp only[Builtin.copy_,List.getElem?_toArray,List.getElem?_cons_zero,List.getElem?_cons_succ,Sem.run_bind,run_underlying ht,Result.andThen_ok,Builtin.lenOf,Sem.run_pure,e0,sizeOf,typeInfo,hq,hfc,storeCells];simp[hq,hfc,storeCells,e0]
    refine⟨(),w,lf hev hr,?_⟩;rw[hrow,K8 ho];exact hw
   ·have hyl:0<ys.length:=by have:=Nat.mul_pos (Nat.pos_of_ne_zero hz) h0;omega
    have hap:=hcl.ptr hyl;have hzl:(ys.take (min sLen dLen*sz)).length=min sLen dLen*sz:=by rw[List.length_take];omega
    have hr:=Mh (P:=P) w t t2 ty e b o dLen dCap ⟨dJ a,eQ a,none⟩ sLen sCap ⟨cs++rest⟩ e (ys.take (min sLen dLen*sz)) sz ht hs h2 hzl
     (λ j v hj=>hcl.cells j v (by rw[List.getElem?_take] at hj;split at hj;exact hj;cases hj)) (by simp only[hzl];simp;omega) (λ v hv=>hone v (List.mem_of_mem_take hv))
    rw[<- hap] at hr;have hrow:(cs++rest).take o++ys.take (min sLen dLen*sz)++(cs++rest).drop (o+(ys.take (min sLen dLen*sz)).length)=(cs.take o++ys.take (min sLen dLen*sz)++cs.drop (o+min sLen dLen*sz))++rest:=by rw[hzl,List.take_append_of_le_length (by omega),List.drop_append_of_le_length (by omega)];simp
    refine⟨(),w.setRow b ⟨(cs.take o++ys.take (min sLen dLen*sz)++cs.drop (o+min sLen dLen*sz))++rest⟩,lf hev ?_,hfin _ rfl ?_⟩;·rw[hr,<- hrow];rfl
    ·simp only[List.length_append,hzl,List.length_take,List.length_drop];omega
theorem wF(l:List Pr)(k:Nat):(dF l).take (2*k)=dF (l.take k):=by
 conv=>lhs;rw[<- List.take_append_drop k l,kX]
 by_cases h:k<=l.length;·rw[List.take_append_of_le_length (by rw[gE,List.length_take];omega),List.take_of_length_le (by rw[gE,List.length_take];omega)]
 ·rw[List.drop_eq_nil_of_le (by omega)];simp only[dF,List.append_nil];rw[List.take_of_length_le (by rw[gE,List.length_take];omega)]
theorem Gi(l:List Pr)(k:Nat):(dF l).drop (2*k)=dF (l.drop k):=by
 have h:=List.take_append_drop (2*k) (dF l);rw[wF] at h;have h2:dF l=dF (l.take k)++dF (l.drop k):=by rw[<- kX,List.take_append_drop]
 rw[h2] at h;exact List.append_cancel_left (by rw[<- h2] at h;exact h.trans h2)
theorem zT(l:List Int)(k:Nat):(aT l).take k=aT (l.take k):=by simp[aT]
theorem Gx(l:List Int)(k:Nat):(aT l).drop k=aT (l.drop k):=by simp[aT]
theorem Xw{l:List Int}(hx:ev S x=.slice (some ⟨b,q,none⟩) dLen dCap)(hy:ev S y=.slice a sLen sCap)(ho:rM O i (some ⟨b,0,none⟩) (aT l) c e 1)(hf:qC A F [] a (aT l2))(hlen:min sLen dLen<=l2.length)(hfit:q+min sLen dLen<=l.length)(ht:P.underlying t=some (.slice e))(hs:(P.info? e).map (·.size)=some 1) :
  aW P S (SF w0 M H A F O) ⟨some d,.call {callee:=.builtin .copy,args := #[x,y],argTypes := #[t,t2]},ty,pos,af,gd⟩ Unit (λ _=>.int .i64 (min sLen dLen:Nat))
   (λ _=>SF w0 M H A F (gU O i ⟨some ⟨b,0,none⟩,aT (l.take q++l2.take (min sLen dLen)++l.drop (q+min sLen dLen)),c,e,1⟩)):=by have:=Xs (P:=P) (w0:=w0) (M:=M) (H:=H) (d:=d) (ty:=ty) (pos:=pos) (af:=af) (gd:=gd) (t2:=t2) hx hy ho hf (by rw[lG];omega) (by rw[lG];omega) (vE l2) ht hs (by decide);rw[Nat.mul_one,zT,zT,Gx,<- tK,<- tK] at this;exact this
theorem xC{o:Nat}{l2:List Pr}(hx:ev S x=.slice (some ⟨b,o,none⟩) dLen dCap)(hy:ev S y=.slice a sLen sCap)(ho:rM O i (some ⟨b,0,none⟩) (dF l) c e 2)(hf:qC A F [] a (dF l2))(hq:o=2*q)(hlen:min sLen dLen<=l2.length)(hfit:q+min sLen dLen<=l.length)(ht:P.underlying t=some (.slice e))(hs:(P.info? e).map (·.size)=some 2) :
  aW P S (SF w0 M H A F O) ⟨some d,.call {callee:=.builtin .copy,args := #[x,y],argTypes := #[t,t2]},ty,pos,af,gd⟩ Unit (λ _=>.int .i64 (min sLen dLen:Nat))
   (λ _=>SF w0 M H A F (gU O i ⟨some ⟨b,0,none⟩,dF (l.take q++l2.take (min sLen dLen)++l.drop (q+min sLen dLen)),c,e,2⟩)):=by subst hq;have:=Xs (P:=P) (w0:=w0) (M:=M) (H:=H) (d:=d) (ty:=ty) (pos:=pos) (af:=af) (gd:=gd) (t2:=t2) hx hy ho hf (by rw[gE];omega) (by rw[gE];omega) (tM l2) ht hs (by decide);rw[show 2*q+min sLen dLen*2=2*(q+min sLen dLen) by omega,Nat.mul_comm (min sLen dLen) 2,wF,wF,Gi,<- kX,<- kX] at this;exact this
theorem zU{l2:List Pr}(hx:ev S x=.slice (some ⟨b,0,none⟩) dLen dCap)(hy:ev S y=.slice a dLen sCap)(ho:rM O i (some ⟨b,0,none⟩) (dF l) c e 2)(hf:qC A F [] a (dF l2))(h1:l.length=dLen)(h2:l2.length=dLen)(ht:P.underlying t=some (.slice e))(hs:(P.info? e).map (·.size)=some 2) :
  aW P S (SF w0 M H A F O) ⟨some d,.call {callee:=.builtin .copy,args := #[x,y],argTypes := #[t,t2]},ty,pos,af,gd⟩ Unit (λ _=>.int .i64 (dLen:Nat))
   (λ _=>SF w0 M H A F (gU O i ⟨some ⟨b,0,none⟩,dF l2,c,e,2⟩)):=by have:=xC (P:=P) (w0:=w0) (M:=M) (H:=H) (d:=d) (ty:=ty) (pos:=pos) (af:=af) (gd:=gd) (t2:=t2) (q:=0) hx hy ho hf rfl (by omega) (by omega) ht hs;rw[Nat.min_self] at this;rw[show l.take 0++l2.take dLen++l.drop (0+dLen)=l2 by rw[List.take_of_length_le (l:=l2) (by omega),List.drop_eq_nil_of_le (by omega)];simp] at this;exact this
theorem Uc{l:List Int}(hx:ev S x=.slice (some ⟨b,0,none⟩) dLen dCap)(hy:ev S y=.slice a dLen sCap)(ho:rM O i (some ⟨b,0,none⟩) (aT l) c e 1)(hf:qC A F [] a (aT l2))(h1:l.length=dLen)(h2:l2.length=dLen)(ht:P.underlying t=some (.slice e))(hs:(P.info? e).map (·.size)=some 1) :
  aW P S (SF w0 M H A F O) ⟨some d,.call {callee:=.builtin .copy,args := #[x,y],argTypes := #[t,t2]},ty,pos,af,gd⟩ Unit (λ _=>.int .i64 (dLen:Nat))
   (λ _=>SF w0 M H A F (gU O i ⟨some ⟨b,0,none⟩,aT l2,c,e,1⟩)):=by have:=Xw (P:=P) (w0:=w0) (M:=M) (H:=H) (d:=d) (ty:=ty) (pos:=pos) (af:=af) (gd:=gd) (t2:=t2) (q:=0) hx hy ho hf (by omega) (by omega) ht hs;rw[Nat.min_self] at this;rw[show l.take 0++l2.take dLen++l.drop (0+dLen)=l2 by rw[List.take_of_length_le (l:=l2) (by omega),List.drop_eq_nil_of_le (by omega)];simp] at this;exact this
theorem kZ{v:Value}(hx:ev S x=.pointer (some ⟨dJ p,eQ p+q,none⟩))(hy:ev S y=v)(hv:v.oneCell'=true)(ht:one P t=true)(ho:rM O i p cs c e sz)(hq:q<cs.length) :
  aW P S (SF w0 M H A F O) ⟨none,.store t x y,ty,pos,af,gd⟩ Unit (λ _=>undef) (λ _=>SF w0 M H A F (gU O i ⟨p,cs.set q v,c,e,sz⟩)) :=
 lK λ w hw=>by
  have h2:=(hw.own _ ho.mem).1;rcases h2 with⟨_,h2,_⟩|⟨b,rest,hb,h2,h3⟩;·simp only at h2;subst h2;simp at hq
  ·simp only at hb h2 h3;subst hb;simp only[dJ,eQ,Nat.zero_add] at hx;have hqr:q<(cs++rest).length:=by rw[List.length_append];omega
   have hc:w.cell? ⟨b,q,none⟩=some (cs++rest)[q]:=by rw[cell_of_row w b q ⟨cs++rest⟩ e (0,0) h2];simp[hqr]
   have hfz:w.frozen? ⟨b,q,none⟩=false:=frozen_of_row w b q ⟨cs++rest⟩ e h2;have hs:(store ⟨b,q,none⟩ v).run P w=.ok () (w.setCell ⟨b,q,none⟩ v):=by rw[run_store P w _ v _ hv,hc];simp[hfz]
   have e1:v.cells = #[v]:=by cases v<;>simp_all[Value.cells,Value.oneCell']
   have hch:ay w (w.setCell ⟨b,q,none⟩ v) (iC (some ⟨b,0,none⟩)):=⟨rfl,rfl,rfl,by simp,λ k _ hk=>heap_setCell_other w ⟨b,q,none⟩ k v (by simpa[iC] using hk)⟩
   refine⟨w.setCell ⟨b,q,none⟩ v,?_,hw.yX ho hch (o':=⟨some ⟨b,0,none⟩,cs.set q v,c,e,sz⟩) (.inr ⟨b,rest,rfl,?_,by simpa using h3⟩) (λ b hb=>.inl hb) (iM _)⟩;·simp[execOp,hx,hy,Instr.storeAt,Instr.sureAddr,storeVar,e1,Sc ht,storeCells,Addr.add_zero',hs]
   ·have:=heap_setCell_same w b q ⟨cs++rest⟩ e v h2;rw[this];simp[List.set_append_left _ _ hq]
theorem Yj(l:List Int)(k:Nat)(v:Int):(aT l).set k (.int .i64 v)=aT (l.set k v):=by simp[aT]
theorem Wa:∀(l:List Pr) (k:Nat) (u:Int),(dF l).set (2*k+1) (.int .u64 u)=dF (l.set k ((l.getD k (⟨#[]⟩,0)).1,u))
 | [],_,_=>rfl
 | p::l,0,u=>by simp[dF]
 | p::l,k+1,u=>by have:=Wa l k u;rw[show 2*(k+1)+1=2*k+1+1+1 by omega];simp only[dF,List.set_cons_succ,this,List.getD_cons_succ]
theorem nf{l:List Int}(hx:ev S x=.pointer (some ⟨dJ p,eQ p+q,none⟩))(hy:ev S y=.int .i64 v)(ht:one P t=true)(ho:rM O i p (aT l) c e 1)(hq:q<l.length) :
  aW P S (SF w0 M H A F O) ⟨none,.store t x y,ty,pos,af,gd⟩ Unit (λ _=>undef) (λ _=>SF w0 M H A F (gU O i ⟨p,aT (l.set q v),c,e,1⟩)):=by rw[<- Yj];exact kZ hx hy rfl ht ho (by rw[lG];exact hq)
theorem Ld(hx:ev S x=.pointer (some ⟨dJ p,eQ p+(2*q+1),none⟩))(hy:ev S y=.int .u64 v)(ht:one P t=true)(ho:rM O i p (dF l) c e 2)(hq:q<l.length) :
  aW P S (SF w0 M H A F O) ⟨none,.store t x y,ty,pos,af,gd⟩ Unit (λ _=>undef) (λ _=>SF w0 M H A F (gU O i ⟨p,dF (l.set q ((l.getD q (⟨#[]⟩,0)).1,v)),c,e,2⟩)):=by rw[<- Wa];exact kZ hx hy rfl ht ho (by rw[gE];omega)
theorem sM{vs:List Value}(hx:ev S x=.pointer (some ⟨dJ p,eQ p+q,none⟩))(hy:ev S y=.agg ⟨vs⟩)(h1:vs.all (·.oneCell')=true)(ht:jB P t vs.length=true)(ho:rM O i p cs c e sz)(hq:q+vs.length<=cs.length)(hv0:0<vs.length) :
  aW P S (SF w0 M H A F O) ⟨none,.store t x y,ty,pos,af,gd⟩ Unit (λ _=>undef) (λ _=>SF w0 M H A F (gU O i ⟨p,cs.take q++vs++cs.drop (q+vs.length),c,e,sz⟩)) :=
 lK λ w hw=>by
  have h2:=(hw.own _ ho.mem).1;rcases h2 with⟨_,h2,_⟩|⟨b,rest,hb,h2,h3⟩;·simp only at h2;subst h2;simp only[List.length_nil] at hq;omega
  ·simp only at hb h2 h3;subst hb;simp only[dJ,eQ,Nat.zero_add] at hx;obtain⟨dd,hu,hm,hi⟩:=iH ht;have hst:=run_storeCells_at (P:=P) b q e vs 0 ⟨cs++rest⟩ w h2 (by simp;omega) (by simpa using h1);have hrow:(cs++rest).take q++vs++(cs++rest).drop (q+vs.length)=(cs.take q++vs++cs.drop (q+vs.length))++rest:=by rw[List.take_append_of_le_length (by omega),List.drop_append_of_le_length (by omega)];simp
   simp only[Nat.add_zero] at hst;rw[hrow] at hst;refine⟨w.setRow b ⟨(cs.take q++vs++cs.drop (q+vs.length))++rest⟩,?_,hw.yX ho (tU w b _) (.inr ⟨b,rest,rfl,setRow_heap w b ⟨cs++rest⟩ _ e (0,0) h2,?_⟩) (λ b hb=>.inl hb) (iM _)⟩
   ·cases hq':P.info? t with
    | none=>rw[hq'] at hi;simp at hi
    | some inf=>
     have hs:inf.size=vs.length:=by rw[hq'] at hi;simpa using hi
     simp[execOp,hx,hy,Instr.storeAt,Instr.sureAddr,storeVar,sizeOf,typeInfo,hq',hs,Value.cells,hst]
   ·simp only[List.length_append,List.length_take,List.length_drop] at h3 ⊢;omega
theorem Im(hx:ev S x=.pointer (some ⟨dJ p,eQ p+2*q,none⟩))(hy:ev S y=.agg ⟨[.string s,.int .u64 v]⟩)(ht:jB P t 2=true)(ho:rM O i p (dF l) c e 2)(hq:q<l.length) :
  aW P S (SF w0 M H A F O) ⟨none,.store t x y,ty,pos,af,gd⟩ Unit (λ _=>undef) (λ _=>SF w0 M H A F (gU O i ⟨p,dF (l.set q (s,v)),c,e,2⟩)):=by
 have:=sM (P:=P) (w0:=w0) (M:=M) (H:=H) (A:=A) (F:=F) (ty:=ty) (pos:=pos) (af:=af) (gd:=gd) (vs:=[.string s,.int .u64 v]) hx hy rfl ht ho (by rw[gE];simp;omega) (by simp);have e1:(dF l).take (2*q)++[.string s,.int .u64 v]++(dF l).drop (2*q+2)=dF (l.set q (s,v)):=by rw[show 2*q+2=2*(q+1) by omega,wF,Gi,show([.string s,.int .u64 v]:List Value)=dF [(s,v)] from rfl,<- kX,<- kX];congr 1;rw[List.set_eq_take_append_cons_drop,if_pos hq];simp
 rw[show([.string s,.int .u64 v]:List Value).length=2 from rfl,e1] at this;exact this
theorem mx{v:Value}{w:World}{lo hi:Option Operand}(hr:(Instr.sliceAt t (ev S x) (lo.map (ev S)) (hi.map (ev S)) none).run P w=.ok v w1) :
  (execOp (ev S) ⟨some d,.slice t x lo hi none,ty,pos,af,gd⟩).run P w=.ok (.value v) w1:=by simp only[execOp,Option.map_none,Sem.run_bind,hr,Result.andThen_ok,Sem.run_pure]
theorem Cl.drop{cs:List Value}(h:Cl w a cs)(k:Nat):Cl w (a.map (·.add k)) (cs.drop k):=by refine⟨λ j u hj=>?_⟩;rw[List.getElem?_drop] at hj;obtain⟨h1,h2⟩:=h.at_ _ u hj;rw[h1];simp only[Option.map_some,Addr.add_lit,dJ,eQ] at h2 ⊢;refine⟨trivial,?_⟩;rw[Nat.add_assoc];exact h2
end
end
section
section
variable{P:Program}{n:Nat}{S:List (Nat×Value)}
variable{w0 w w':World}{M:List Nat}{H H':List (Nat×Obj)}{A F F':Fr}{O O':List Ow}{G:World->Prop}
variable{d:Nat}{ty:TypeId}{pos:String}{af:Array Edge}{gd:Option (Nat×Bool)}{dst:Option Nat}{x y z:Operand}{t t2 e:TypeId}{p a:Option Addr}{i m k c c2:Nat}
def Xl(l:List ByteArray):List Value:=l.map Value.string
theorem bj{lst:List ByteArray}{kk:IntKind}(hx:ev S x=.slice a m c)(hy:ev S y=.int kk ((k:Nat):Int))(ht:P.underlying t=some (.slice e))(hs:one P e=true)(hf:qC A F O a (Xl lst))(h1:k<m)(h2:k<lst.length) :
  aN P S (SF w0 M H A F O) ⟨some d,.indexAddr t x y,ty,pos,af,gd⟩ (.pointer (some ⟨dJ a,eQ a+k,none⟩)):=⟨λ w hw =>
 (Aw (G:=SF w0 M H A F O) hx hy ht hs ((hw.cl hf).ptr (by simp only[Xl,List.length_map];omega)) h1).run w hw⟩
theorem tm{lst:List ByteArray}{q:Nat}(hx:ev S x=.pointer (some ⟨dJ a,eQ a+q,none⟩))(ht:one P t=true)(hf:qC A F O a (Xl lst))(hq:q<lst.length) :
  aN P S (SF w0 M H A F O) ⟨some d,.load t x,ty,pos,af,gd⟩ (.string (lst.getD q ⟨#[]⟩)):=wP hx ht (λ w hw=>hw.cl hf) (by simp[Xl,hq,List.getD])
def Oh(l:List Nd):List Value:=l.flatMap Nd.cells
theorem Eu:∀l:List Nd,(Oh l).length=14*l.length
 | []=>rfl
 | _::r=>by have:=Eu r;simp only[Oh,List.flatMap_cons,List.length_append,List.length_cons] at this ⊢;rw[this];simp only[Nd.cells,List.length_cons,List.length_nil];omega
theorem Wq:∀{l:List Nd} {k j:Nat},k<l.length->j<14->(Oh l)[14*k+j]?=(l.getD k Nd.zero).cells[j]?
 | [],_,_,h,_=>by simp at h
 | n::r,0,j,_,hj=>by
  simp only[Oh,List.flatMap_cons,Nat.mul_zero,Nat.zero_add,List.getD_cons_zero]
  rw[List.getElem?_append_left (by simp only[Nd.cells,List.length_cons,List.length_nil];omega)]
 | n::r,k+1,j,h,hj=>by
  have:=Wq (l:=r) (k:=k) (j:=j) (by simpa using h) hj
  simp only[Oh,List.flatMap_cons,List.getD_cons_succ] at this ⊢
  rw[List.getElem?_append_right (by simp only[Nd.cells,List.length_cons,List.length_nil];omega),<- this]
  congr 1
  simp only[Nd.cells,List.length_cons,List.length_nil]
  omega
theorem Uy{m c:Nat}{i:Int}{kk:IntKind}(hx:ev S x=.slice a m c)(hy:ev S y=.int kk ((k:Nat):Int))(ht:P.underlying t=some (.slice e))(hs:jB P e 14=true)(ha:a=some ⟨dJ a,eQ a,none⟩)(h1:k<m) :
  aN P S G ⟨some d,.indexAddr t x y,ty,pos,af,gd⟩ (.pointer (some ⟨dJ a,eQ a+14*k,none⟩)):=⟨λ w _=>by obtain⟨_,_,_,hsz⟩:=iH hs;have:=xH (P:=P) (a:=a) (m:=m) (c:=c) (k:=kk) ht hsz ha (i:=(k:Int)) (by omega) (by omega) w;simp only[Int.toNat_natCast,Nat.mul_comm k 14] at this;simp[execOp,hx,hy,this]⟩
theorem oz{lst:List Nd}{kk:IntKind}(hx:ev S x=.slice a m c)(hy:ev S y=.int kk ((k:Nat):Int))(ht:P.underlying t=some (.slice e))(hs:jB P e 14=true)(hf:qC A F O a (Oh lst))(h1:k<m)(h2:k<lst.length) :
  aN P S (SF w0 M H A F O) ⟨some d,.indexAddr t x y,ty,pos,af,gd⟩ (.pointer (some ⟨dJ a,eQ a+14*k,none⟩)):=⟨λ w hw =>
 (Uy (i:=0) (G:=SF w0 M H A F O) hx hy ht hs ((hw.cl hf).ptr (by rw[Eu];omega)) h1).run w hw⟩
theorem rq{lst:List Nd}{q:Nat}(hx:ev S x=.pointer (some ⟨dJ a,eQ a+14*q,none⟩))(ht:jB P t 14=true)(hf:qC A F O a (Oh lst))(hq:q<lst.length) :
  aN P S (SF w0 M H A F O) ⟨some d,.load t x,ty,pos,af,gd⟩ (lst.getD q Nd.zero).v:=⟨λ w hw=>by
 have hcl:=hw.cl hf;obtain⟨dd,hu,hm,hi⟩:=iH ht;have hagg:(isAgg t).run P w=.ok true w:=by unfold isAgg;rw[Sem.run_bind,run_underlying hu w];cases dd<;>simp_all
 have hl:(loadCells ⟨dJ a,eQ a+14*q,none⟩ 14).run P w=.ok ⟨(lst.getD q Nd.zero).cells⟩ w:=by
  have:=run_loadCells_list (P:=P) w ⟨dJ a,eQ a+14*q,none⟩ (lst.getD q Nd.zero).cells (λ j z hz=>by have hj:j<14:=(List.getElem?_eq_some_iff.1 hz).1;rw[Addr.add_lit];have h3:=(hcl.at_ (14*q+j) z (by rw[Wq hq hj];exact hz)).2;rwa [<- Nat.add_assoc] at h3)
  exact this
 cases hq':P.info? t with
 | none=>rw[hq'] at hi;simp at hi
 | some i=>
  have hs:i.size=14:=by rw[hq'] at hi;simpa using hi
  simp[execOp,hx,Instr.loadAt,Instr.sureAddr,loadVar,hagg,Go.sizeOf,typeInfo,hq',hs,hl,Nd.v]⟩
def Zp(v n:Int):Int:=IntKind.i64.wrap ((IntKind.u64.wrap v).tmod (IntKind.u64.wrap n))
def tvN(l:List Int)(k:Nat)(n:Int):Nat:=if k<l.length then(Zp (l.getD k 0) n).toNat else 0
def za(l:List Int)(k:Nat):Nat:=if k<l.length then k+1 else k
theorem wrap_u64(i:Int):IntKind.u64.wrap i=i%18446744073709551616:=by simp[IntKind.wrap,IntKind.signed,IntKind.bits]
theorem Vd{v n:Int}(h0:0<n)(h1:n<=9223372036854775807):0<=Zp v n/\Zp v n<n:=by unfold Zp;rw[wrap_u64,wrap_u64,Int.emod_eq_of_lt (a:=n) (by omega) (by omega)];have h2:=Int.emod_nonneg v (show(18446744073709551616:Int)≠0 by decide);have h3:=Int.tmod_lt_of_pos (v%18446744073709551616) h0;have h4:=Int.tmod_nonneg n h2;rw[wrap_i64 (by omega) (by omega)];exact⟨h4,h3⟩
def bz(T:TypeId)(a:Option Addr)(l:List Int)(c k:Nat):Obj:=.cells ⟨[.slice a l.length c,.int .i64 ((k:Nat):Int)]⟩ T (0,0)
structure N5(w:World)(T:TypeId)(b:Nat)(a:Option Addr)(l:List Int)(c k:Nat):Prop where
 obj:w.heap[b]?=some (bz T a l c k)
 cl:Cl w a (aT l)
 ne:aT l≠[]->dJ a≠b
 len:l.length<=17592186043904
theorem SF.tape(h:SF w0 M H A F O w){T b l}(ha:At H i b (bz T a l c k))(hf:qC A F [] a (aT l))(hl:l.length<=17592186043904):N5 w T b a l c k:=by
 refine⟨h.st.at ha,?_,λ hc e=>h.apart hf hc (e▸List.mem_append_left _ (List.mem_map.2 ⟨_,ha.mem,rfl⟩)),hl⟩;cases hf with
 | old h1=>exact h.cl (.old h1)
 | new h1=>exact h.cl (.new h1)
 | own h1=>cases h1
 | hdr h1 _=>cases h1
theorem N5.start{T b l}(h:N5 w T b a l c k):SF w [b] [(b,.cells ⟨[.slice a l.length c,.int .i64 ((k:Nat):Int)]⟩ T (0,0))] [(a,aT l)] [] [] w:=by
 refine⟨⟨rfl,rfl,rfl,Nat.le_refl _,λ _ _ _=>rfl,λ p hp=>?_,λ p hp=>?_,by simp⟩,λ f hf=>?_,λ _ h=>(List.not_mem_nil h).elim,λ _ h=>(List.not_mem_nil h).elim,by simp[Ks]⟩;·simp only[List.mem_singleton] at hp;subst hp;exact h.obj
 ·simp only[List.mem_singleton] at hp;subst hp;exact .inl (by simp)
 ·simp only[List.mem_singleton] at hf;subst hf;exact⟨h.cl,λ hc=>by simp only[Ks,List.map_cons,List.map_nil,List.flatMap_nil,List.append_nil,List.mem_singleton];exact h.ne hc⟩
end
end
section
section
variable{w0 w w':World}{M:List Nat}{H:List (Nat×Obj)}{A F:Fr}{O:List Ow}
structure dW where
 nd:Nd
 xs:List Int
 ys:List Pr
structure Nv where
 kind:Int
 gen:Int
 main:Int
 bm:Int
 xs:List Int
 hash:Int
 key:ByteArray
 val:Int
 ys:List Pr
 prev:Int
 old:Int
 exp:Int
 new:Int
 status:Int
def Nd.c(n:Nd)(xs:List Int)(ys:List Pr):Nv:=⟨n.kind,n.gen,n.main,n.bm,xs,n.hash,n.key,n.val,ys,n.prev,n.old,n.exp,n.new,n.status⟩
def dW.c(v:dW):Nv:=v.nd.c v.xs v.ys
theorem Q5{a b:Nd}{x1 x2:List Int}{y1 y2:List Pr}:Kf a b x1 x2 y1 y2↔a.c x1 y1=b.c x2 y2:=by simp[Kf,Nd.c]
def dW.fr(v:dW):Fr:=[(v.nd.brA,aT v.xs),(v.nd.prA,dF v.ys)]
def dW.zero:dW:=⟨Nd.zero,[],[]⟩
def dD(L:List dW):Fr:=L.flatMap dW.fr
def Se(L:List dW):List Value:=L.flatMap (·.nd.cells)
theorem Wv(L:List dW):Se L=Oh (L.map (·.nd)):=by simp[Se,Oh,List.flatMap_map]
theorem sb{L:List dW}{k:Nat}:(L.map (·.nd)).getD k Nd.zero=(L.getD k dW.zero).nd:=by rw[Gp,Gp,List.getElem?_map];cases L[k]?<;>rfl
theorem Oi(n:Nd):n.cells.length=14:=rfl
theorem U6(a b:List dW):Se (a++b)=Se a++Se b:=by simp[Se]
theorem qp(v:dW):Se [v]=v.nd.cells:=by simp[Se]
theorem Av(a:List dW)(v:dW):Se (a++[v])=Se a++v.nd.cells:=by rw[U6,qp]
theorem qS(a b:List dW):dD (a++b)=dD a++dD b:=by simp[dD]
theorem pQ:∀L:List dW,(Se L).length=L.length*14
 | []=>rfl
 | v::L=>by have:=pQ L;simp only[Se,List.flatMap_cons,List.length_append,Oi,List.length_cons] at this ⊢;omega
theorem Qm{L:List dW}{f:Option Addr×List Value}:f∈dD L↔∃v∈L,f∈v.fr:=by simp[dD]
theorem I7{L:List dW}{k:Nat}(hk:k<L.length):L.getD k dW.zero∈L:=by rw[Gp,List.getElem?_eq_getElem hk];exact List.getElem_mem hk
theorem qg{L:List dW}{k:Nat}(hk:k<L.length):((L.getD k dW.zero).nd.brA,aT (L.getD k dW.zero).xs)∈dD L:=Qm.2 ⟨_,I7 hk,by simp[dW.fr]⟩
theorem w8{L:List dW}{k:Nat}(hk:k<L.length):((L.getD k dW.zero).nd.prA,dF (L.getD k dW.zero).ys)∈dD L:=Qm.2 ⟨_,I7 hk,by simp[dW.fr]⟩
structure dW.Fit(v:dW):Prop where
 brN:v.nd.brN=v.xs.length
 prN:v.nd.prN=v.ys.length
 brS:v.xs.length<=35184372088832
 prS:v.ys.length<=11728124029610
theorem dW.Fit.xZ{v:dW}(h:v.Fit){w:World}(hb:Cl w v.nd.brA (aT v.xs))(hp:Cl w v.nd.prA (dF v.ys)):Cp w v.nd v.xs v.ys :=⟨h.brN,h.prN,hb,hp,by have:=h.brS;omega,by have:=h.prS;omega⟩
def Fits(L:List dW):Prop:=∀v∈L,v.Fit
theorem Fits.at{L:List dW}(h:Fits L){k:Nat}(hk:k<L.length):(L.getD k dW.zero).Fit:=h _ (I7 hk)
theorem jm:dW.zero.Fit:=⟨rfl,rfl,by decide,by decide⟩
theorem SF.aCP{L:List dW}(h:SF w0 M H (dD L) F O w)(hfit:Fits L){k:Nat}(hk:k<L.length):Cp w (L.getD k dW.zero).nd (L.getD k dW.zero).xs (L.getD k dW.zero).ys :=
 (hfit.at hk).xZ (h.old _ (qg hk)).1 (h.old _ (w8 hk)).1
variable{P:Program}{S:List (Nat×Value)}{G:World->Prop}{d:Nat}{ty:TypeId}{pos:String}{af:Array Edge}{gd:Option (Nat×Bool)}{x y:Operand}{t t2 e:TypeId}{p a:Option Addr}{i m k c c2:Nat}
theorem kl{L:List dW}{kk:IntKind}(hx:ev S x=.slice a m c)(hy:ev S y=.int kk ((k:Nat):Int))(ht:P.underlying t=some (.slice e))(hs:jB P e 14=true)(hf:qC A F O a (Se L))(h1:k<m)(h2:k<L.length) :
  aN P S (SF w0 M H A F O) ⟨some d,.indexAddr t x y,ty,pos,af,gd⟩ (.pointer (some ⟨dJ a,eQ a+14*k,none⟩)):=oz (lst:=L.map (·.nd)) hx hy ht hs (by rw[<- Wv];exact hf) h1 (by simpa using h2)
theorem vq{L:List dW}{q:Nat}(hx:ev S x=.pointer (some ⟨dJ a,eQ a+14*q,none⟩))(ht:jB P t 14=true)(hf:qC A F O a (Se L))(hq:q<L.length) :
  aN P S (SF w0 M H A F O) ⟨some d,.load t x,ty,pos,af,gd⟩ (L.getD q dW.zero).nd.v:=by have:=rq (P:=P) (S:=S) (w0:=w0) (M:=M) (H:=H) (A:=A) (F:=F) (O:=O) (d:=d) (ty:=ty) (pos:=pos) (af:=af) (gd:=gd) (lst:=L.map (·.nd)) hx ht (by rw[<- Wv];exact hf) (by simpa using hq);rwa [sb] at this
section
variable{m n:Nat}{t':TypeId}
theorem aBg(hx:ev S x=.int .i64 ((m:Nat):Int))(hy:ev S y=.int .i64 ((n:Nat):Int))(h:m+n<=9223372036854775807) :
  aN P S G ⟨some d,.binOp .add t x y t',ty,pos,af,gd⟩ (.int .i64 ((m+n:Nat):Int)):=by have:=uC (P:=P) (G:=G) (d:=d) (ty:=ty) (pos:=pos) (af:=af) (gd:=gd) (t:=t) (t':=t') hx hy;rw[wrap_i64 (by omega) (by omega)] at this;rw[Int.natCast_add];exact this
theorem aBi(hx:ev S x=.int .i64 ((m:Nat):Int))(hy:ev S y=.int .i64 ((n:Nat):Int))(h:n<=m)(h2:m<=9223372036854775807) :
  aN P S G ⟨some d,.binOp .sub t x y t',ty,pos,af,gd⟩ (.int .i64 ((m-n:Nat):Int)):=by have:=K5 (P:=P) (G:=G) (d:=d) (ty:=ty) (pos:=pos) (af:=af) (gd:=gd) (t:=t) (t':=t') hx hy;rw[wrap_i64 (by omega) (by omega)] at this;rw[Int.natCast_sub h];exact this
end
theorem Kw{P:Program}{S:List (Nat×Value)}{G:World->Prop}{d:Nat}{ty:TypeId}{pos:String}{af:Array Edge}{gd:Option (Nat×Bool)}{x:Operand}{vs:List Value}{k:Nat}{v:Value}(hx:ev S x=.tuple ⟨vs⟩)(hk:vs[k]?=some v):aN P S G ⟨some d,.extract x k,ty,pos,af,gd⟩ v:=⟨λ w _=>by simp[execOp,hx,Instr.extract,hk]⟩
theorem cJ{b off:Nat}{cs vs:List Value}{T:TypeId}(hx:ev S x=.pointer (some ⟨b,off,none⟩))(ha:At H i b (.cells ⟨cs⟩ T (0,0)))(ht:jB P t k=true)(hv:(cs.drop off).take k=vs)(hl:vs.length=k) :
  aN P S (SF w0 M H A F O) ⟨some d,.load t x,ty,pos,af,gd⟩ (.agg ⟨vs⟩):=⟨λ w hw=>by
 have hb:=hw.st.at ha;have hcl:Cl w (some ⟨b,0,none⟩) cs:=Cl.block (pre:=[]) (rest:=[]) (by simpa using hb) rfl;obtain⟨dd,hu,hm,hi⟩:=iH ht;have hagg:(isAgg t).run P w=.ok true w:=by unfold isAgg;rw[Sem.run_bind,run_underlying hu w];cases dd<;>simp_all
 have hlc:(loadCells ⟨b,off,none⟩ k).run P w=.ok ⟨vs⟩ w:=by
  have:=run_loadCells_list (P:=P) w ⟨b,off,none⟩ vs (λ j z hz=>by
   rw[Addr.add_lit];have hj:j<k:=by rw[<- hl];exact(List.getElem?_eq_some_iff.1 hz).1
   have h1:cs[off+j]?=some z:=by rw[<- hv,List.getElem?_take,if_pos hj,List.getElem?_drop] at hz;exact hz
   have h3:=(hcl.at_ (off+j) z h1).2;simpa[dJ,eQ] using h3)
  rwa [hl] at this
 cases hq':P.info? t with
 | none=>rw[hq'] at hi;simp at hi
 | some inf=>
  have hs:inf.size=k:=by rw[hq'] at hi;simpa using hi
  simp[execOp,hx,Instr.loadAt,Instr.sureAddr,loadVar,hagg,Go.sizeOf,typeInfo,hq',hs,hlc]⟩
def A1(P:Program)(t:TypeId)(k:Nat):Option Nat :=
 match P.underlying t with
 | some (.struct fs)=>match fs[k]? with
  | some f=>if one P f.type then some f.offset else none
  | none=>none
 | _=>none
theorem Wf{cs:List Value}{off:Nat}{v:Value}(hx:ev S x=.agg ⟨cs⟩)(hf:A1 P t k=some off)(hv:cs[off]?=some v):aN P S G ⟨some d,.field t x k,ty,pos,af,gd⟩ v:=⟨λ w _=>by
 unfold A1 at hf;cases hu:P.underlying t with
 | none=>simp[hu] at hf
 | some dd=>
  cases dd<;>simp[hu] at hf;rename_i fs;cases hk:fs[k]? with
  | none=>simp[hk] at hf
  | some f=>
   simp only[hk] at hf;split at hf;·rename_i h1;simp only[Option.some.injEq] at hf;subst hf;have hp:=lJ (P:=P) h1 (cs:=⟨cs⟩) (off:=f.offset) (v:=v) (by simpa using hv) w;simp[execOp,hx,Instr.field,run_underlying hu,hk,asAgg,hp]
   ·cases hf⟩
theorem jb(hx:ev S x=.slice a m c)(hy:ev S y=.slice none 0 0)(ht:P.underlying t=some (.slice e)):aN P S G ⟨some d,.binOp .eql t x y t2,ty,pos,af,gd⟩ (.bool a.isNone):=⟨λ w _=>by have:=Go.Lib.run_eql_slice_nil (P:=P) w t e a m c 0 0 ht;simp[execOp,hx,hy,this,eqGuard]⟩
def Sk(P:Program)(t:TypeId):Bool:=match P.underlying t with|some (.pointer _)=>true|_=>false
theorem pa(h:Sk P t=true):P.underlying t=some (.pointer (P.pointee t)):=by
 unfold Sk at h;cases hu:P.underlying t with
 | none=>simp[hu] at h
 | some dd=>cases dd<;>simp[hu,Program.pointee] at h ⊢
theorem uk{q:Option Addr}(hx:ev S x=.pointer q)(hy:ev S y=.pointer none)(ht:Sk P t=true):aN P S G ⟨some d,.binOp .eql t x y t2,ty,pos,af,gd⟩ (.bool q.isNone):=⟨λ w _=>by have:=run_eql_pointer_nil (P:=P) w t q (pa ht);simp[execOp,hx,hy,this,eqGuard]⟩
end
end
end Go.Ct

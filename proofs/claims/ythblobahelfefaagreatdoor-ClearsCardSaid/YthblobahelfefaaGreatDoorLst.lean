/- Merged. -/
import Derived.Test.YthblobahelfefaaGreatDoorFz
set_option linter.unusedSimpArgs false
set_option linter.unusedVariables false
namespace Go.Ct
open Go Go.RowKit
section
variable{P:Program}{n:Nat}{S:List (Nat×Value)}
variable{w0 w w':World}{M:List Nat}{H H':List (Nat×Obj)}{A F F':Fr}{O O':List Ow}{G:World->Prop}
variable{d:Nat}{ty:TypeId}{pos:String}{af:Array Edge}{gd:Option (Nat×Bool)}{dst:Option Nat}{x y z:Operand}{t t2 e:TypeId}
theorem fw.mono{D D':List Nat}(h:fw w w' D)(hs:∀b∈D,b∈D'):fw w w' D':=⟨h.os,h.tape,h.output,h.size,λ b hb hn=>h.eH b hb λ hm=>hn (hs b hm)⟩
theorem Du(w:World)(o:Obj):fw w (w.alloc o) []:=⟨rfl,rfl,rfl,by simp,λ b hb _=>heap_alloc_old w o hb⟩
theorem pY(w:World)(o:Obj):fw w (w.drew.alloc o) []:=⟨rfl,rfl,rfl,by simp,λ b hb _=>heap_alloc_old w.drew o hb⟩
theorem oQ(w:World)(b:Nat)(r:Array Value):fw w (w.setRow b r) [b]:=⟨rfl,rfl,rfl,by simp,λ k _ hk=>setRow_other w b k r (by simpa using hk)⟩
theorem Ge(zc:List Value)(m k:Nat)(h:m<=k):∃rest,made zc k=made zc m++rest:=by
 refine⟨(made zc k).drop (m*zc.length),?_⟩;have h1:m*zc.length<=k*zc.length:=Nat.mul_le_mul_right _ h;have e:made zc m=(made zc k).take (m*zc.length):=by
  refine List.ext_getElem? λ i=>?_;rw[List.getElem?_take];by_cases hi:i<m*zc.length
  ·rw[if_pos hi];have h2:i<k*zc.length:=by omega
   simp[made,madeCells,Array.getElem?_toList,Array.getElem?_map,Array.getElem?_range,hi,h2]
  ·rw[if_neg hi,List.getElem?_eq_none (by rw[jQ];omega)]
 rw[e,List.take_append_drop]
theorem Ky(k:Nat):made [.int .i64 0] k=aN (List.replicate k 0):=by
 refine List.ext_getElem? λ i=>?_;by_cases hi:i<k;·simp[made,madeCells,aN,Array.getElem?_toList,Array.getElem?_map,Array.getElem?_range,hi,Nat.mod_one]
 ·rw[List.getElem?_eq_none (by rw[jQ];simp;omega),List.getElem?_eq_none (by simp[aN];omega)]
theorem Pt(k:Nat):made [.string ⟨#[]⟩,.int .u64 0] k=cY (List.replicate k (⟨#[]⟩,0)):=by
 refine List.ext_getElem? λ i=>?_;by_cases hi:i<k*2
 ·have hk:i/2<k:=by omega
  have e1:=Cv (l:=List.replicate k ((⟨#[]⟩:ByteArray),(0:Int))) (k:=i/2) (by simpa using hk);have hg:(List.replicate k ((⟨#[]⟩:ByteArray),(0:Int))).getD (i/2) (⟨#[]⟩,0)=(⟨#[]⟩,0):=by simp[List.getD,hk]
  rw[hg] at e1;have hm:(made [.string ⟨#[]⟩,.int .u64 0] k)[i]?=some (([.string ⟨#[]⟩,.int .u64 0]:List Value).getD (i%2) undef):=by rcases Nat.mod_two_eq_zero_or_one i with h2|h2<;>simp[made,madeCells,Array.getElem?_toList,Array.getElem?_map,Array.getElem?_range,hi,h2]
  rw[hm];rcases Nat.mod_two_eq_zero_or_one i with h2|h2;·rw[h2,show i=2*(i/2) by omega,e1.1];rfl
  ·rw[h2,show i=2*(i/2)+1 by omega,e1.2];rfl
 ·rw[List.getElem?_eq_none (by rw[jQ];simp;omega),List.getElem?_eq_none (by rw[fA];simp;omega)]
theorem vX{m k:Nat}{k1 k2:IntKind}{zc cs:List Value}(hx:ev S x=.int k1 ((m:Nat):Int))(hy:ev S y=.int k2 ((k:Nat):Int))(he:cS P t e zc)(hmk:m<=k)(hk:k<=1099511627776)(hcs:made zc m=cs) :
  aQ P S (SF w0 M H A F O) ⟨some d,.makeSlice t x y,ty,pos,af,gd⟩ Nat (λ b=>.slice (some ⟨b,0,none⟩) m k) (λ b=>SF w0 M H A F (⟨some ⟨b,0,none⟩,cs,k,e,zc.length⟩::O)) :=
 fE λ w hw=>by
  subst hcs;obtain⟨i,z,hi,hz,hzc,hs,hb⟩:=he.z;have hbb:(i.bytes:Int)*(k:Int)<=281474976710656:=by
   have:i.bytes*k<=256*1099511627776:=Nat.mul_le_mul hb hk;have h2:((i.bytes*k:Nat):Int)<=281474976710656:=by omega
   rwa [Int.natCast_mul] at h2
  have hr:=run_make (P:=P) w t e i z he.sl hi hz k1 k2 (m:Int) (k:Int) (by omega) (by omega) hbb (by omega);obtain⟨rest,hrest⟩:=Ge zc m k hmk;have e1:madeCells z.cells (k*i.size)=⟨made zc k⟩:=by rw[hzc,hs];simp[made]
  refine⟨w.heap.size,w.alloc (.cells ⟨made zc k⟩ e (0,0)),?_,hw.Gv (Du w _) (.inr ⟨w.heap.size,rest,rfl,by rw[hrest];exact heap_alloc_new w _,by rw[<- hrest,jQ]⟩) (by simp[fV]) (eN _)⟩;simp only[execOp,hx,hy,Sem.run_bind,hr,Result.andThen_ok,Sem.run_pure,Int.toNat_natCast,e1]
def wX(P:Program)(e:TypeId)(W:Nat):Bool:=match P.info? e with|some i=>Nat.ble i.bytes W|none=>false
variable{m k b c sz i:Nat}{zc cs:List Value}{T:TypeId}{p:Option Addr}
theorem Xl{W:Nat}{k1 k2:IntKind}(hx:ev S x=.int k1 ((m:Nat):Int))(hy:ev S y=.int k2 ((k:Nat):Int))(he:cS P t e zc)(hW:wX P e W=true)(hmk:m<=k)(hk:k*W<=281474976710656)(hk2:k<=4611686018427387904)(hcs:made zc m=cs) :
  aQ P S (SF w0 M H A F O) ⟨some d,.makeSlice t x y,ty,pos,af,gd⟩ Nat (λ b=>.slice (some ⟨b,0,none⟩) m k) (λ b=>SF w0 M H A F (⟨some ⟨b,0,none⟩,cs,k,e,zc.length⟩::O)) :=
 fE λ w hw=>by
  subst hcs;obtain⟨i,z,hi,hz,hzc,hs,_⟩:=he.z;have hb:i.bytes<=W:=by simpa[wX,hi] using hW
  have hbb:(i.bytes:Int)*(k:Int)<=281474976710656:=by
   have:i.bytes*k<=W*k:=Nat.mul_le_mul_right _ hb;have h2:((i.bytes*k:Nat):Int)<=281474976710656:=by rw[Nat.mul_comm W k] at this;omega
   rwa [Int.natCast_mul] at h2
  have hr:=run_make (P:=P) w t e i z he.sl hi hz k1 k2 (m:Int) (k:Int) (by omega) (by omega) hbb (by omega);obtain⟨rest,hrest⟩:=Ge zc m k hmk;have e1:madeCells z.cells (k*i.size)=⟨made zc k⟩:=by rw[hzc,hs];simp[made]
  refine⟨w.heap.size,w.alloc (.cells ⟨made zc k⟩ e (0,0)),?_,hw.Gv (Du w _) (.inr ⟨w.heap.size,rest,rfl,by rw[hrest];exact heap_alloc_new w _,by rw[<- hrest,jQ]⟩) (by simp[fV]) (eN _)⟩;simp only[execOp,hx,hy,Sem.run_bind,hr,Result.andThen_ok,Sem.run_pure,Int.toNat_natCast,e1]
theorem oa{k1 k2:IntKind}(hx:ev S x=.int k1 ((m:Nat):Int))(hy:ev S y=.int k2 ((k:Nat):Int))(he:cS P t e [.int .i64 0])(hW:wX P e 8=true)(hmk:m<=k)(hk:k<=35184372088832) :
  aQ P S (SF w0 M H A F O) ⟨some d,.makeSlice t x y,ty,pos,af,gd⟩ Nat (λ b=>.slice (some ⟨b,0,none⟩) m k) (λ b=>SF w0 M H A F (⟨some ⟨b,0,none⟩,aN (List.replicate m 0),k,e,1⟩::O)) :=
 Xl hx hy he hW hmk (by omega) (by omega) (Ky m)
theorem li{k1 k2:IntKind}(hx:ev S x=.int k1 ((m:Nat):Int))(hy:ev S y=.int k2 ((k:Nat):Int))(he:cS P t e [.string ⟨#[]⟩,.int .u64 0])(hW:wX P e 24=true)(hmk:m<=k)(hk:k<=11728124029610) :
  aQ P S (SF w0 M H A F O) ⟨some d,.makeSlice t x y,ty,pos,af,gd⟩ Nat (λ b=>.slice (some ⟨b,0,none⟩) m k) (λ b=>SF w0 M H A F (⟨some ⟨b,0,none⟩,cY (List.replicate m (⟨#[]⟩,0)),k,e,2⟩::O)) :=
 Xl hx hy he hW hmk (by omega) (by omega) (Pt m)
theorem Zn{k1 k2:IntKind}(hx:ev S x=.int k1 ((m:Nat):Int))(hy:ev S y=.int k2 ((k:Nat):Int))(he:cS P t e [.int .i64 0])(hmk:m<=k)(hk:k<=1099511627776) :
  aQ P S (SF w0 M H A F O) ⟨some d,.makeSlice t x y,ty,pos,af,gd⟩ Nat (λ b=>.slice (some ⟨b,0,none⟩) m k) (λ b=>SF w0 M H A F (⟨some ⟨b,0,none⟩,aN (List.replicate m 0),k,e,1⟩::O)) :=
 vX hx hy he hmk hk (Ky m)
theorem Ze{k1 k2:IntKind}(hx:ev S x=.int k1 ((m:Nat):Int))(hy:ev S y=.int k2 ((k:Nat):Int))(he:cS P t e [.string ⟨#[]⟩,.int .u64 0])(hmk:m<=k)(hk:k<=1099511627776) :
  aQ P S (SF w0 M H A F O) ⟨some d,.makeSlice t x y,ty,pos,af,gd⟩ Nat (λ b=>.slice (some ⟨b,0,none⟩) m k) (λ b=>SF w0 M H A F (⟨some ⟨b,0,none⟩,cY (List.replicate m (⟨#[]⟩,0)),k,e,2⟩::O)) :=
 vX hx hy he hmk hk (Pt m)
theorem SF.aGc(h:SF w0 M H A F O w){fr:Nat×Nat}(h2:St w (H.map Prod.fst) ((b,.cells ⟨cs⟩ T fr)::H) w'):SF w0 M H A ((some ⟨b,0,none⟩,cs)::F) O w':=by
 have h3:=h.step (h2.sub (List.sublist_cons_self _ _));have hnd:=h2.nodup;simp only[List.map_cons,List.nodup_cons] at hnd;have hb:w.heap.size<=b:=(h2.new _ (List.mem_cons_self ..)).resolve_left hnd.1;refine⟨h3.st,h3.old,λ f hf=>?_,h3.own,h3.dis⟩;rcases List.mem_cons.1 hf with rfl|hf
 ·refine⟨Cl.block (pre:=[]) (rest:=[]) (by simpa using h2.has _ (List.mem_cons_self ..)) rfl,λ _=>⟨λ hm=>?_,.inl (Nat.le_trans h.st.size hb)⟩⟩;rcases List.mem_append.1 hm with hm|hm;·exact hnd.1 hm
  ·have:=h.lt b (List.mem_append_right _ hm);omega
 ·exact h3.new f hf
theorem SF.aGi(h:SF w0 M H A F O w)(h2:St w (H.map Prod.fst) ((b,.cells ⟨cs⟩ T (0,0))::H) w')(hc:cs.length=c*sz):SF w0 M H A F (⟨some ⟨b,0,none⟩,cs,c,T,sz⟩::O) w':=by
 have h3:=h.step (h2.sub (List.sublist_cons_self _ _));have hnd:=h2.nodup;simp only[List.map_cons,List.nodup_cons] at hnd;have hb:w.heap.size<=b:=(h2.new _ (List.mem_cons_self ..)).resolve_left hnd.1;have hbO:b∉Ks H O:=λ hm=>by have:=h.lt b hm;omega
 refine⟨h3.st,λ f hf=>⟨(h3.old f hf).1,λ hcs hm=>?_⟩,λ f hf=>⟨(h3.new f hf).1,λ hcs=>⟨λ hm=>?_,((h3.new f hf).2 hcs).2⟩⟩,λ o ho=>?_,?_⟩
 ·rcases dX.1 hm with⟨p,hp,e1⟩|⟨o,ho,e1⟩;·exact(h3.old f hf).2 hcs (dX.2 (.inl ⟨p,hp,e1⟩))
  ·rcases List.mem_cons.1 ho with rfl|ho;·simp only[fV,List.mem_singleton] at e1;have:=(h.old f hf).1.lt hcs;omega
   ·exact(h3.old f hf).2 hcs (dX.2 (.inr ⟨o,ho,e1⟩))
 ·rcases dX.1 hm with⟨p,hp,e1⟩|⟨o,ho,e1⟩;·exact((h3.new f hf).2 hcs).1 (dX.2 (.inl ⟨p,hp,e1⟩))
  ·rcases List.mem_cons.1 ho with rfl|ho;·simp only[fV,List.mem_singleton] at e1;have:=(h.new f hf).1.lt hcs;omega
   ·exact((h3.new f hf).2 hcs).1 (dX.2 (.inr ⟨o,ho,e1⟩))
 ·rcases List.mem_cons.1 ho with rfl|ho;·exact⟨.inr ⟨b,[],rfl,by simpa using h2.has _ (List.mem_cons_self ..),by simpa using hc⟩,λ c hc=>.inl (by simp only[fV,List.mem_singleton] at hc;subst hc;exact Nat.le_trans h.st.size hb)⟩
  ·exact h3.own o ho
 ·have hp:(Ks H (⟨some ⟨b,0,none⟩,cs,c,T,sz⟩::O)).Perm (b::Ks H O):=by unfold Ks;rw[List.flatMap_cons];exact List.perm_middle
  rw[hp.nodup_iff,List.nodup_cons];exact⟨hbO,h.dis⟩
theorem mH{o:Oper}{V:Nat->Value}{fr:Nat×Nat}(h:∀w1:World,aQ P S (St w1 (H.map Prod.fst) H) o Nat V (λ b=>St w1 (H.map Prod.fst) ((b,.cells ⟨cs⟩ T fr)::H))) :
  aQ P S (SF w0 M H A F O) o Nat V (λ b=>SF w0 M H A ((some ⟨b,0,none⟩,cs)::F) O):=⟨λ w hw=>((h w).run w (Di hw.st)).mono λ _ _ hg=>hw.aGc hg⟩
theorem C9(h:mN O i p cs c T sz):eL O i ⟨p,cs,c,T,sz⟩=O:=by
 induction h with
 | head=>rfl
 | tail _ ih=>simp only[eL,ih]
theorem nW{args:List Value}{v:Value}{w w1:World}{at_:Array TypeId}(hx:lX S [x,y]=args)(hr:(Builtin.append_ at_ ty ⟨args⟩).run P w=.ok v w1) :
  (execOp (ev S) ⟨some d,.call {callee:=.builtin .append,args := #[x,y],argTypes:=at_},ty,pos,af,gd⟩).run P w=.ok (.value v) w1:=by subst hx;simp only[execOp,resolve,invoke,builtin,Sem.run_bind,Sem.run_pure,Result.andThen_ok,List.map_toArray,List.map_cons,List.map_nil];simp only[lX] at hr;rw[hr];rfl
theorem fS{a:Option Addr}{ys:List Value}{c2:Nat}(hx:ev S x=.slice p m c)(hy:ev S y=.slice a k c2)(ho:mN O i p cs c e sz)(hm:cs.length=m*sz)(hf:pB A F O a ys)(hk:ys.length=k*sz)(h1:ys.all (·.oneCell')=true)(he:cS P t e zc)(hsz:zc.length=sz)(h0:0<sz)(ht2:P.underlying t2=some (.slice e))(hb:m+k<=549755813888) :
  aQ P S (SF w0 M H A F O) ⟨some d,.call {callee:=.builtin .append,args := #[x,y],argTypes := #[t,t2]},ty,pos,af,gd⟩ (Option Addr×Nat) (λ q=>.slice q.1 (m+k) q.2)
   (λ q w=>m+k<=q.2/\SF w0 M H A F (eL O i ⟨q.1,cs++ys,q.2,e,sz⟩) w):=⟨λ w hw=>by
 obtain⟨inf,zz,hi,hz,hzc,hs,hbytes⟩:=he.z;have hev:lX S [x,y]=[.slice p m c,.slice a k c2]:=by simp[lX,hx,hy]
 have hown:=(hw.own _ ho.mem).1;have hcl:=hw.cl hf;have hss:inf.size=sz:=by omega
 have hone:∀u∈ys,u.oneCell'=true:=by simpa using h1
 by_cases hk0:k=0
 ·subst hk0;have hys:ys=[]:=List.eq_nil_of_length_eq_zero (by omega);subst hys;have hsrc:Src P inf.size t2 (.slice a 0 c2) 0 [] w:=by
   cases a with
   | none=>exact Src.ofNil w ht2 c2
   | some a=>exact Src.ofSlice w ht2 a 0 c2 [] (by simp) (by simp) (by simp)
  have hsame:eL O i ⟨p,cs++[],c,e,sz⟩=O:=by rw[List.append_nil];exact C9 ho
  rcases hown with⟨rfl,e2,rfl⟩|⟨b,rest,rfl,h2,h3⟩
  ·simp only at e2;subst e2;have hm0:m=0:=by
    rcases Nat.eq_zero_or_pos m with h|h;·exact h
    ·have:=Nat.mul_pos h h0;simp at hm;omega
   subst hm0;have hr:(Builtin.append_ #[t,t2] ty ⟨[.slice none 0 0,.slice a 0 c2]⟩).run P w=.ok (.slice none 0 0) w:=by
    have hl0:∀a,(loadCells a 0).run P w=.ok #[] w:=λ a=>by simpa using run_loadCells_list (P:=P) w a [] (by simp)
    cases a<;>simp[Builtin.append_,run_underlying he.sl,run_underlying ht2,sizeOf,typeInfo,hi,Builtin.lenOf,Builtin.firstCells,hl0]
   rw[nW hev hr];exact⟨(none,0),rfl,by simp,by rw[hsame];exact hw⟩
  ·simp only[List.length_append] at h3;have hmc:m<=c:=by
    have:m*sz<=c*sz:=by omega
    exact Nat.le_of_mul_le_mul_right this h0
   have hr:=run_append_room_src (P:=P) w t t2 ty e inf he.sl hi b 0 m c (.slice a 0 c2) 0 [] hsrc (by omega) (by simp) (by simp);rw[nW hev hr];exact⟨(some ⟨b,0,none⟩,c),rfl,by simpa using hmc,by rw[hsame];exact hw⟩
 ·have hkp:0<k:=Nat.pos_of_ne_zero hk0;have hyl:0<ys.length:=by rw[hk];exact Nat.mul_pos hkp h0
  have hap:=hcl.ptr hyl;have hsrc:Src P inf.size t2 (.slice a k c2) k ys w:=by rw[hap];exact Src.ofSlice w ht2 ⟨cI a,dH a,none⟩ k c2 ys (by rw[hk,hss]) hcl.cells hone
  have grow:∀olds:List Value,(Builtin.firstCells inf.size m (.slice p m c)).run P w.drew=.ok olds.toArray w.drew->olds=cs->c<m+k ->
    pa P (Option Addr×Nat) (λ q=>.slice q.1 (m+k) q.2) (λ q w=>m+k<=q.2/\SF w0 M H A F (eL O i ⟨q.1,cs++ys,q.2,e,sz⟩) w) ((execOp (ev S) ⟨some d,.call {callee:=.builtin .append,args := #[x,y],argTypes := #[t,t2]},ty,pos,af,gd⟩).run P w):=by
   intro olds hold heq hlt
   subst heq
   have hr:=run_append_grow_src (P:=P) w t t2 ty e inf zz he.sl hi hz p m c olds hold (.slice a k c2) k ys hsrc hlt (by omega) (growslice_fits hlt (by
    have:(m+k)*inf.bytes<=549755813888*256:=Nat.mul_le_mul hb hbytes
    omega))
   rw[nW hev hr]
   have hcap:m+k<=grownCap w (m+k) c e:=grownCap_ge w (m+k) c e
   refine⟨(some ⟨w.heap.size,0,none⟩,grownCap w (m+k) c e),rfl,hcap,hw.sR ho ((pY w _).mono (by simp)) (.inr ⟨w.heap.size,(Builtin.zeroCells zz.cells (grownCap w (m+k) c e-(m+k))).toList,rfl,?_,?_⟩) (λ b hb=>.inr ?_) (eN _)⟩
   ·have:=heap_alloc_new w.drew (.cells ((olds++ys).toArray++Builtin.zeroCells zz.cells (grownCap w (m+k) c e-(m+k))) e)
    simp only[] at this ⊢
    rw[show(⟨olds++ys++(Builtin.zeroCells zz.cells (grownCap w (m+k) c e-(m+k))).toList⟩:Array Value)=(olds++ys).toArray++Builtin.zeroCells zz.cells (grownCap w (m+k) c e-(m+k)) from by apply Array.ext';simp]
    exact this
   ·have hzl:(Builtin.zeroCells zz.cells (grownCap w (m+k) c e-(m+k))).size=(grownCap w (m+k) c e-(m+k))*sz:=by
     rw[size_zeroCells,hzc]
     simp[hsz]
    simp only[List.length_append,Array.length_toList,hzl,hm,hk]
    rw[<- Nat.add_mul,<- Nat.add_mul]
    congr 1
    omega
   ·simp only[fV,List.mem_singleton] at hb
    omega
  rcases hown with⟨rfl,e2,rfl⟩|⟨b,rest,rfl,h2,h3⟩
  ·simp only at e2;subst e2;have hm0:m=0:=by
    rcases Nat.eq_zero_or_pos m with h|h;·exact h
    ·have:=Nat.mul_pos h h0;simp at hm;omega
   subst hm0;exact grow [] E0x rfl (by omega)
  ·simp only at h2 h3;by_cases hroom:m+k<=c
   ·have hfit:m*inf.size+ys.length<=(⟨cs++rest⟩:Array Value).size:=by show _<=(cs++rest).length;rw[h3,hk,hss,<- Nat.add_mul];exact Nat.mul_le_mul_right _ hroom
    have hr:=run_append_room (P:=P) w t ty e inf he.sl hi b m c ⟨cs++rest⟩ h2 ⟨cI a,dH a,none⟩ k c2 ys (by rw[hk,hss]) hcl.cells hone hroom hfit;have hr':(Builtin.append_ #[t,t2] ty ⟨[.slice (some ⟨b,0,none⟩) m c,.slice a k c2]⟩).run P w=.ok (.slice (some ⟨b,0,none⟩) (m+k) c) (w.setRow b ((cs++rest).take (m*inf.size)++ys++(cs++rest).drop (m*inf.size+ys.length)).toArray):=by
     rw[<- hap] at hr;have e2:∀(tt:TypeId),P.underlying tt=some (.slice e)->(Builtin.append_ #[t,tt] ty ⟨[.slice (some ⟨b,0,none⟩) m c,.slice a k c2]⟩).run P w=(Builtin.append_ #[t,t] ty #[.slice (some ⟨b,0,none⟩) m c,.slice a k c2]).run P w:=λ tt htt=>by simp[Builtin.append_,run_underlying htt,run_underlying he.sl]
     rw[e2 t2 ht2,hr]
    rw[nW hev hr'];have hlen:m*inf.size=cs.length:=by rw[hm,hss]
    have hrow:(cs++rest).take (m*inf.size)++ys++(cs++rest).drop (m*inf.size+ys.length)=cs++ys++rest.drop ys.length:=by rw[hlen,List.take_left,List.drop_append];simp
    rw[hrow];refine⟨(some ⟨b,0,none⟩,c),rfl,hroom,hw.sR ho (oQ w b _) (.inr ⟨b,rest.drop ys.length,rfl,setRow_heap w b ⟨cs++rest⟩ _ e (0,0) h2,?_⟩) (λ b hb=>.inl hb) (eN _)⟩;have h4:(cs++rest).length=c*sz:=h3;simp only[List.length_append,List.length_drop] at h4 ⊢;have:ys.length<=rest.length:=by have:(m+k)*sz<=c*sz:=Nat.mul_le_mul_right _ hroom;rw[Nat.add_mul] at this;omega
    omega
   ·refine grow cs ?_ rfl (by omega);have hclp:Cl w.drew (some ⟨b,0,none⟩) cs:=⟨(Cl.block (pre:=[]) (rest:=rest) (w:=w) (by simpa using h2) rfl).at_⟩;exact run_firstCells_some w.drew inf.size m ⟨b,0,none⟩ m c cs (by rw[hm,hss]) hclp.cells⟩
end
end Go.Ct

/- The engine, part 7: own lists are made, filled, copied into and appended to. -/
import Derived.Test.YtadnboagdhcedaaGreatDoorFz

set_option linter.unusedSimpArgs false
set_option linter.unusedVariables false
namespace Go.Ct
section
open Go Go.RowKit
section
variable{P:Program}{n:Nat}{S:List (Nat×Value)}
variable{w0 w w':World}{M:List Nat}{H H':List (Nat×Obj)}{A F F':Fr}{O O':List Ow}{G:World->Prop}
variable{d:Nat}{ty:TypeId}{pos:String}{af:Array Edge}{gd:Option (Nat×Bool)}{dst:Option Nat}{x y z:Operand}{t t2 e:TypeId}
theorem Zx.mono{D D':List Nat}(h:Zx w w' D)(hs:∀b∈D,b∈D'):Zx w w' D':=⟨h.os,h.tape,h.output,h.size,λ b hb hn=>h.kY b hb λ hm=>hn (hs b hm)⟩
theorem C7(w:World)(o:Obj):Zx w (w.alloc o) []:=⟨rfl,rfl,rfl,by simp,λ b hb _=>heap_alloc_old w o hb⟩
theorem Im(w:World)(o:Obj):Zx w (w.drew.alloc o) []:=⟨rfl,rfl,rfl,by simp,λ b hb _=>heap_alloc_old w.drew o hb⟩
theorem Aa(w:World)(b:Nat)(r:Array Value):Zx w (w.setRow b r) [b]:=⟨rfl,rfl,rfl,by simp,λ k _ hk=>setRow_other w b k r (by simpa using hk)⟩
theorem H7(zc:List Value)(m k:Nat)(h:m<=k):∃rest,made zc k=made zc m++rest:=by
 refine⟨(made zc k).drop (m*zc.length),?_⟩
 have h1:m*zc.length<=k*zc.length:=Nat.mul_le_mul_right _ h
 have e:made zc m=(made zc k).take (m*zc.length):=by
  refine List.ext_getElem? λ i=>?_
  rw[List.getElem?_take]
  by_cases hi:i<m*zc.length
  ·rw[if_pos hi]
   have h2:i<k*zc.length:=by omega
   simp[made,madeCells,Array.getElem?_toList,Array.getElem?_map,Array.getElem?_range,hi,h2]
  ·rw[if_neg hi,List.getElem?_eq_none (by rw[kE];omega)]
 rw[e,List.take_append_drop]
theorem Km(k:Nat):made [.int .i64 0] k=aH (List.replicate k 0):=by
 refine List.ext_getElem? λ i=>?_
 by_cases hi:i<k
 ·simp[made,madeCells,aH,Array.getElem?_toList,Array.getElem?_map,Array.getElem?_range,hi,Nat.mod_one]
 ·rw[List.getElem?_eq_none (by rw[kE];simp;omega),List.getElem?_eq_none (by simp[aH];omega)]
theorem cy(k:Nat):made [.string ⟨#[]⟩,.int .u64 0] k=dK (List.replicate k (⟨#[]⟩,0)):=by
 refine List.ext_getElem? λ i=>?_
 by_cases hi:i<k*2
 ·have hk:i/2<k:=by omega
  have e1:=Cn (l:=List.replicate k ((⟨#[]⟩:ByteArray),(0:Int))) (k:=i/2) (by simpa using hk)
  have hg:(List.replicate k ((⟨#[]⟩:ByteArray),(0:Int))).getD (i/2) (⟨#[]⟩,0)=(⟨#[]⟩,0):=by simp[List.getD,hk]
  rw[hg] at e1
  have hm:(made [.string ⟨#[]⟩,.int .u64 0] k)[i]?=some (([.string ⟨#[]⟩,.int .u64 0]:List Value).getD (i%2) undef):=by
   rcases Nat.mod_two_eq_zero_or_one i with h2|h2<;>simp[made,madeCells,Array.getElem?_toList,Array.getElem?_map,Array.getElem?_range,hi,h2]
  rw[hm]
  rcases Nat.mod_two_eq_zero_or_one i with h2|h2
  ·rw[h2,show i=2*(i/2) by omega,e1.1];rfl
  ·rw[h2,show i=2*(i/2)+1 by omega,e1.2];rfl
 ·rw[List.getElem?_eq_none (by rw[kE];simp;omega),List.getElem?_eq_none (by rw[iA];simp;omega)]
theorem Nh{m k:Nat}{k1 k2:IntKind}{zc cs:List Value}(hx:ev S x=.int k1 ((m:Nat):Int))(hy:ev S y=.int k2 ((k:Nat):Int))(he:dY P t e zc)(hmk:m<=k)(hk:k<=1099511627776)(hcs:made zc m=cs) :
  aX P S (SF w0 M H A F O) ⟨some d,.makeSlice t x y,ty,pos,af,gd⟩ Nat (λ b=>.slice (some ⟨b,0,none⟩) m k) (λ b=>SF w0 M H A F (⟨some ⟨b,0,none⟩,cs,k,e,zc.length⟩::O)) :=
 lR λ w hw=>by
  subst hcs
  obtain⟨i,z,hi,hz,hzc,hs,hb⟩:=he.z
  have hbb:(i.bytes:Int)*(k:Int)<=281474976710656:=by
   have:i.bytes*k<=256*1099511627776:=Nat.mul_le_mul hb hk
   have h2:((i.bytes*k:Nat):Int)<=281474976710656:=by omega
   rwa [Int.natCast_mul] at h2
  have hr:=run_make (P:=P) w t e i z he.sl hi hz k1 k2 (m:Int) (k:Int) (by omega) (by omega) hbb (by omega)
  obtain⟨rest,hrest⟩:=H7 zc m k hmk
  have e1:madeCells z.cells (k*i.size)=⟨made zc k⟩:=by rw[hzc,hs];simp[made]
  refine⟨w.heap.size,w.alloc (.cells ⟨made zc k⟩ e (0,0)),?_,hw.Nm (C7 w _) (.inr ⟨w.heap.size,rest,rfl,by rw[hrest];exact heap_alloc_new w _,by rw[<- hrest,kE]⟩) (by simp[iQ]) (kA _)⟩
  simp only[execOp,hx,hy,Sem.run_bind,hr,Result.andThen_ok,Sem.run_pure,Int.toNat_natCast,e1]
def yK(P:Program)(e:TypeId)(W:Nat):Bool:=match P.info? e with|some i=>Nat.ble i.bytes W|none=>false
theorem Ul{m k W:Nat}{k1 k2:IntKind}{zc cs:List Value}(hx:ev S x=.int k1 ((m:Nat):Int))(hy:ev S y=.int k2 ((k:Nat):Int))(he:dY P t e zc)(hW:yK P e W=true)(hmk:m<=k)(hk:k*W<=281474976710656)(hk2:k<=4611686018427387904)(hcs:made zc m=cs) :
  aX P S (SF w0 M H A F O) ⟨some d,.makeSlice t x y,ty,pos,af,gd⟩ Nat (λ b=>.slice (some ⟨b,0,none⟩) m k) (λ b=>SF w0 M H A F (⟨some ⟨b,0,none⟩,cs,k,e,zc.length⟩::O)) :=
 lR λ w hw=>by
  subst hcs
  obtain⟨i,z,hi,hz,hzc,hs,_⟩:=he.z
  have hb:i.bytes<=W:=by simpa[yK,hi] using hW
  have hbb:(i.bytes:Int)*(k:Int)<=281474976710656:=by
   have:i.bytes*k<=W*k:=Nat.mul_le_mul_right _ hb
   have h2:((i.bytes*k:Nat):Int)<=281474976710656:=by rw[Nat.mul_comm W k] at this;omega
   rwa [Int.natCast_mul] at h2
  have hr:=run_make (P:=P) w t e i z he.sl hi hz k1 k2 (m:Int) (k:Int) (by omega) (by omega) hbb (by omega)
  obtain⟨rest,hrest⟩:=H7 zc m k hmk
  have e1:madeCells z.cells (k*i.size)=⟨made zc k⟩:=by rw[hzc,hs];simp[made]
  refine⟨w.heap.size,w.alloc (.cells ⟨made zc k⟩ e (0,0)),?_,hw.Nm (C7 w _) (.inr ⟨w.heap.size,rest,rfl,by rw[hrest];exact heap_alloc_new w _,by rw[<- hrest,kE]⟩) (by simp[iQ]) (kA _)⟩
  simp only[execOp,hx,hy,Sem.run_bind,hr,Result.andThen_ok,Sem.run_pure,Int.toNat_natCast,e1]
theorem ka{m k:Nat}{k1 k2:IntKind}(hx:ev S x=.int k1 ((m:Nat):Int))(hy:ev S y=.int k2 ((k:Nat):Int))(he:dY P t e [.int .i64 0])(hW:yK P e 8=true)(hmk:m<=k)(hk:k<=35184372088832) :
  aX P S (SF w0 M H A F O) ⟨some d,.makeSlice t x y,ty,pos,af,gd⟩ Nat (λ b=>.slice (some ⟨b,0,none⟩) m k) (λ b=>SF w0 M H A F (⟨some ⟨b,0,none⟩,aH (List.replicate m 0),k,e,1⟩::O)) :=
 Ul hx hy he hW hmk (by omega) (by omega) (Km m)
theorem dj{m k:Nat}{k1 k2:IntKind}(hx:ev S x=.int k1 ((m:Nat):Int))(hy:ev S y=.int k2 ((k:Nat):Int))(he:dY P t e [.string ⟨#[]⟩,.int .u64 0])(hW:yK P e 24=true)(hmk:m<=k)(hk:k<=11728124029610) :
  aX P S (SF w0 M H A F O) ⟨some d,.makeSlice t x y,ty,pos,af,gd⟩ Nat (λ b=>.slice (some ⟨b,0,none⟩) m k) (λ b=>SF w0 M H A F (⟨some ⟨b,0,none⟩,dK (List.replicate m (⟨#[]⟩,0)),k,e,2⟩::O)) :=
 Ul hx hy he hW hmk (by omega) (by omega) (cy m)
theorem V2{m k:Nat}{k1 k2:IntKind}(hx:ev S x=.int k1 ((m:Nat):Int))(hy:ev S y=.int k2 ((k:Nat):Int))(he:dY P t e [.int .i64 0])(hmk:m<=k)(hk:k<=1099511627776) :
  aX P S (SF w0 M H A F O) ⟨some d,.makeSlice t x y,ty,pos,af,gd⟩ Nat (λ b=>.slice (some ⟨b,0,none⟩) m k) (λ b=>SF w0 M H A F (⟨some ⟨b,0,none⟩,aH (List.replicate m 0),k,e,1⟩::O)) :=
 Nh hx hy he hmk hk (Km m)
theorem SF.aC0(h:SF w0 M H A F O w){b:Nat}{cs:List Value}{T:TypeId}{fr:Nat×Nat}(h2:St w (H.map Prod.fst) ((b,.cells ⟨cs⟩ T fr)::H) w'):SF w0 M H A ((some ⟨b,0,none⟩,cs)::F) O w':=by
 have h3:=h.step (h2.sub (List.sublist_cons_self _ _))
 have hnd:=h2.nodup
 simp only[List.map_cons,List.nodup_cons] at hnd
 have hb:w.heap.size<=b:=(h2.new _ (List.mem_cons_self ..)).resolve_left hnd.1
 refine⟨h3.st,h3.bO,λ f hf=>?_,h3.own,h3.dis⟩
 rcases List.mem_cons.1 hf with rfl|hf
 ·refine⟨Cl.block (pre:=[]) (rest:=[]) (by simpa using h2.has _ (List.mem_cons_self ..)) rfl,λ _=>⟨λ hm=>?_,.inl (Nat.le_trans h.st.size hb)⟩⟩
  rcases List.mem_append.1 hm with hm|hm
  ·exact hnd.1 hm
  ·have:=h.lt b (List.mem_append_right _ hm);omega
 ·exact h3.new f hf
theorem SF.aCK(h:SF w0 M H A F O w){b:Nat}{cs:List Value}{T:TypeId}{c sz:Nat}(h2:St w (H.map Prod.fst) ((b,.cells ⟨cs⟩ T (0,0))::H) w')(hc:cs.length=c*sz):SF w0 M H A F (⟨some ⟨b,0,none⟩,cs,c,T,sz⟩::O) w':=by
 have h3:=h.step (h2.sub (List.sublist_cons_self _ _))
 have hnd:=h2.nodup
 simp only[List.map_cons,List.nodup_cons] at hnd
 have hb:w.heap.size<=b:=(h2.new _ (List.mem_cons_self ..)).resolve_left hnd.1
 have hbO:b∉Ks H O:=λ hm=>by have:=h.lt b hm;omega
 refine⟨h3.st,λ f hf=>⟨(h3.bO f hf).1,λ hcs hm=>?_⟩,λ f hf=>⟨(h3.new f hf).1,λ hcs=>⟨λ hm=>?_,((h3.new f hf).2 hcs).2⟩⟩,λ o ho=>?_,?_⟩
 ·rcases eW.1 hm with⟨p,hp,e1⟩|⟨o,ho,e1⟩
  ·exact(h3.bO f hf).2 hcs (eW.2 (.inl ⟨p,hp,e1⟩))
  ·rcases List.mem_cons.1 ho with rfl|ho
   ·simp only[iQ,List.mem_singleton] at e1
    have:=(h.bO f hf).1.lt hcs
    omega
   ·exact(h3.bO f hf).2 hcs (eW.2 (.inr ⟨o,ho,e1⟩))
 ·rcases eW.1 hm with⟨p,hp,e1⟩|⟨o,ho,e1⟩
  ·exact((h3.new f hf).2 hcs).1 (eW.2 (.inl ⟨p,hp,e1⟩))
  ·rcases List.mem_cons.1 ho with rfl|ho
   ·simp only[iQ,List.mem_singleton] at e1
    have:=(h.new f hf).1.lt hcs
    omega
   ·exact((h3.new f hf).2 hcs).1 (eW.2 (.inr ⟨o,ho,e1⟩))
 ·rcases List.mem_cons.1 ho with rfl|ho
  ·exact⟨.inr ⟨b,[],rfl,by simpa using h2.has _ (List.mem_cons_self ..),by simpa using hc⟩,λ c hc=>.inl (by simp only[iQ,List.mem_singleton] at hc;subst hc;exact Nat.le_trans h.st.size hb)⟩
  ·exact h3.own o ho
 ·have hp:(Ks H (⟨some ⟨b,0,none⟩,cs,c,T,sz⟩::O)).Perm (b::Ks H O):=by
   unfold Ks
   rw[List.flatMap_cons]
   exact List.perm_middle
  rw[hp.nodup_iff,List.nodup_cons]
  exact⟨hbO,h.dis⟩
theorem Fv{o:Oper}{V:Nat->Value}{cs:List Value}{T:TypeId}{fr:Nat×Nat}(h:∀w1:World,aX P S (St w1 (H.map Prod.fst) H) o Nat V (λ b=>St w1 (H.map Prod.fst) ((b,.cells ⟨cs⟩ T fr)::H))) :
  aX P S (SF w0 M H A F O) o Nat V (λ b=>SF w0 M H A ((some ⟨b,0,none⟩,cs)::F) O):=⟨λ w hw=>((h w).run w (Ck hw.st)).mono λ _ _ hg=>hw.aC0 hg⟩
theorem Sj{o:Oper}{V:Nat->Value}{cs:List Value}{T:TypeId}{c sz:Nat}(hc:cs.length=c*sz)(h:∀w1:World,aX P S (St w1 (H.map Prod.fst) H) o Nat V (λ b=>St w1 (H.map Prod.fst) ((b,.cells ⟨cs⟩ T (0,0))::H))) :
  aX P S (SF w0 M H A F O) o Nat V (λ b=>SF w0 M H A F (⟨some ⟨b,0,none⟩,cs,c,T,sz⟩::O)):=⟨λ w hw=>((h w).run w (Ck hw.st)).mono λ _ _ hg=>hw.aCK hg hc⟩
theorem Je{i:Nat}{p:Option Addr}{cs:List Value}{c:Nat}{T:TypeId}{sz:Nat}(h:uN O i p cs c T sz):kP O i ⟨p,cs,c,T,sz⟩=O:=by
 induction h with
 | head=>rfl
 | tail _ ih=>simp only[kP,ih]
theorem Et{args:List Value}{v:Value}{w w1:World}{at_:Array TypeId}(hx:B3 S [x,y]=args)(hr:(Builtin.append_ at_ ty ⟨args⟩).run P w=.ok v w1) :
  (execOp (ev S) ⟨some d,.call {callee:=.builtin .append,args := #[x,y],argTypes:=at_},ty,pos,af,gd⟩).run P w=.ok (.value v) w1:=by
 subst hx
 simp only[execOp,resolve,invoke,builtin,Sem.run_bind,Sem.run_pure,Result.andThen_ok,List.map_toArray,List.map_cons,List.map_nil]
 simp only[B3] at hr
 rw[hr]
 rfl
theorem iY{p a:Option Addr}{cs ys zc:List Value}{c c2 i m k sz:Nat}(hx:ev S x=.slice p m c)(hy:ev S y=.slice a k c2)(ho:uN O i p cs c e sz)(hm:cs.length=m*sz)(hf:pS A F O a ys)(hk:ys.length=k*sz)(h1:ys.all (·.oneCell')=true)
  (he:dY P t e zc) (hsz:zc.length=sz) (h0:0<sz) (ht2:P.underlying t2=some (.slice e)) (hb:m+k<=549755813888) :
  aX P S (SF w0 M H A F O) ⟨some d,.call {callee:=.builtin .append,args := #[x,y],argTypes := #[t,t2]},ty,pos,af,gd⟩ (Option Addr×Nat) (λ q=>.slice q.1 (m+k) q.2)
   (λ q w=>m+k<=q.2/\SF w0 M H A F (kP O i ⟨q.1,cs++ys,q.2,e,sz⟩) w):=⟨λ w hw=>by
 obtain⟨inf,zz,hi,hz,hzc,hs,hbytes⟩:=he.z
 have hev:B3 S [x,y]=[.slice p m c,.slice a k c2]:=by simp[B3,hx,hy]
 have hown:=(hw.own _ ho.mem).1
 have hcl:=hw.cl hf
 have hss:inf.size=sz:=by omega
 have hone:∀u∈ys,u.oneCell'=true:=by simpa using h1
 by_cases hk0:k=0
 ·subst hk0
  have hys:ys=[]:=List.eq_nil_of_length_eq_zero (by omega)
  subst hys
  have hsrc:Src P inf.size t2 (.slice a 0 c2) 0 [] w:=by
   cases a with
   | none=>exact Src.ofNil w ht2 c2
   | some a=>exact Src.ofSlice w ht2 a 0 c2 [] (by simp) (by simp) (by simp)
  have hsame:kP O i ⟨p,cs++[],c,e,sz⟩=O:=by rw[List.append_nil];exact Je ho
  rcases hown with⟨rfl,e2,rfl⟩|⟨b,rest,rfl,h2,h3⟩
  ·simp only at e2
   subst e2
   have hm0:m=0:=by
    rcases Nat.eq_zero_or_pos m with h|h
    ·exact h
    ·have:=Nat.mul_pos h h0;simp at hm;omega
   subst hm0
   have hr:(Builtin.append_ #[t,t2] ty ⟨[.slice none 0 0,.slice a 0 c2]⟩).run P w=.ok (.slice none 0 0) w:=by
    have hl0:∀a,(loadCells a 0).run P w=.ok #[] w:=λ a=>by simpa using run_loadCells_list (P:=P) w a [] (by simp)
    cases a<;>simp[Builtin.append_,run_underlying he.sl,run_underlying ht2,sizeOf,typeInfo,hi,Builtin.lenOf,Builtin.firstCells,hl0]
   rw[Et hev hr]
   exact⟨(none,0),rfl,by simp,by rw[hsame];exact hw⟩
  ·simp only[List.length_append] at h3
   have hmc:m<=c:=by
    have:m*sz<=c*sz:=by omega
    exact Nat.le_of_mul_le_mul_right this h0
   have hr:=run_append_room_src (P:=P) w t t2 ty e inf he.sl hi b 0 m c (.slice a 0 c2) 0 [] hsrc (by omega) (by simp) (by simp)
   rw[Et hev hr]
   exact⟨(some ⟨b,0,none⟩,c),rfl,by simpa using hmc,by rw[hsame];exact hw⟩
 ·have hkp:0<k:=Nat.pos_of_ne_zero hk0
  have hyl:0<ys.length:=by rw[hk];exact Nat.mul_pos hkp h0
  have hap:=hcl.ptr hyl
  have hsrc:Src P inf.size t2 (.slice a k c2) k ys w:=by
   rw[hap]
   exact Src.ofSlice w ht2 ⟨cZ a,eG a,none⟩ k c2 ys (by rw[hk,hss]) hcl.cells hone
  have grow:∀olds:List Value,(Builtin.firstCells inf.size m (.slice p m c)).run P w.drew=.ok olds.toArray w.drew->olds=cs->c<m+k ->
    oc P (Option Addr×Nat) (λ q=>.slice q.1 (m+k) q.2) (λ q w=>m+k<=q.2/\SF w0 M H A F (kP O i ⟨q.1,cs++ys,q.2,e,sz⟩) w) ((execOp (ev S) ⟨some d,.call {callee:=.builtin .append,args := #[x,y],argTypes := #[t,t2]},ty,pos,af,gd⟩).run P w):=by
   intro olds hold heq hlt
   subst heq
   have hr:=run_append_grow_src (P:=P) w t t2 ty e inf zz he.sl hi hz p m c olds hold (.slice a k c2) k ys hsrc hlt (by omega) (growslice_fits hlt (by
    have:(m+k)*inf.bytes<=549755813888*256:=Nat.mul_le_mul hb hbytes
    omega))
   rw[Et hev hr]
   have hcap:m+k<=grownCap w (m+k) c e:=grownCap_ge w (m+k) c e
   refine⟨(some ⟨w.heap.size,0,none⟩,grownCap w (m+k) c e),rfl,hcap,hw.G8 ho ((Im w _).mono (by simp)) (.inr ⟨w.heap.size,(Builtin.zeroCells zz.cells (grownCap w (m+k) c e-(m+k))).toList,rfl,?_,?_⟩) (λ b hb=>.inr ?_) (kA _)⟩
   ·have:=heap_alloc_new w.drew (.cells ((olds++ys).toArray++Builtin.zeroCells zz.cells (grownCap w (m+k) c e-(m+k))) e)
    simp only[] at this ⊢
    rw[show(⟨olds++ys++(Builtin.zeroCells zz.cells (grownCap w (m+k) c e-(m+k))).toList⟩:Array Value)=(olds++ys).toArray++Builtin.zeroCells zz.cells (grownCap w (m+k) c e-(m+k)) from by apply Array.ext';simp]
    exact this
   ·have hzl:(Builtin.zeroCells zz.cells (grownCap w (m+k) c e-(m+k))).size=(grownCap w (m+k) c e-(m+k))*sz:=by
     rw[size_zeroCells,hzc]
     simp[hsz]
    simp only[List.length_append,Array.length_toList,hzl,hm,hk]
    rw[<- Nat.add_mul,<- Nat.add_mul]
    congr 1
    omega
   ·simp only[iQ,List.mem_singleton] at hb
    omega
  rcases hown with⟨rfl,e2,rfl⟩|⟨b,rest,rfl,h2,h3⟩
  ·simp only at e2
   subst e2
   have hm0:m=0:=by
    rcases Nat.eq_zero_or_pos m with h|h
    ·exact h
    ·have:=Nat.mul_pos h h0;simp at hm;omega
   subst hm0
   exact grow [] (by simpa using run_firstCells_none w.drew inf.size 0 0 0) rfl (by omega)
  ·simp only at h2 h3
   by_cases hroom:m+k<=c
   ·have hfit:m*inf.size+ys.length<=(⟨cs++rest⟩:Array Value).size:=by
     show _<=(cs++rest).length
     rw[h3,hk,hss,<- Nat.add_mul]
     exact Nat.mul_le_mul_right _ hroom
    have hr:=run_append_room (P:=P) w t ty e inf he.sl hi b m c ⟨cs++rest⟩ h2 ⟨cZ a,eG a,none⟩ k c2 ys (by rw[hk,hss]) hcl.cells hone hroom hfit
    have hr':(Builtin.append_ #[t,t2] ty ⟨[.slice (some ⟨b,0,none⟩) m c,.slice a k c2]⟩).run P w=.ok (.slice (some ⟨b,0,none⟩) (m+k) c) (w.setRow b ((cs++rest).take (m*inf.size)++ys++(cs++rest).drop (m*inf.size+ys.length)).toArray):=by
     rw[<- hap] at hr
     have e2:∀(tt:TypeId),P.underlying tt=some (.slice e)->(Builtin.append_ #[t,tt] ty ⟨[.slice (some ⟨b,0,none⟩) m c,.slice a k c2]⟩).run P w=(Builtin.append_ #[t,t] ty #[.slice (some ⟨b,0,none⟩) m c,.slice a k c2]).run P w:=λ tt htt=>by
      simp[Builtin.append_,run_underlying htt,run_underlying he.sl]
     rw[e2 t2 ht2,hr]
    rw[Et hev hr']
    have hlen:m*inf.size=cs.length:=by rw[hm,hss]
    have hrow:(cs++rest).take (m*inf.size)++ys++(cs++rest).drop (m*inf.size+ys.length)=cs++ys++rest.drop ys.length:=by
     rw[hlen,List.take_left,List.drop_append]
     simp
    rw[hrow]
    refine⟨(some ⟨b,0,none⟩,c),rfl,hroom,hw.G8 ho (Aa w b _) (.inr ⟨b,rest.drop ys.length,rfl,setRow_heap w b ⟨cs++rest⟩ _ e (0,0) h2,?_⟩) (λ b hb=>.inl hb) (kA _)⟩
    have h4:(cs++rest).length=c*sz:=h3
    simp only[List.length_append,List.length_drop] at h4 ⊢
    have:ys.length<=rest.length:=by
     have:(m+k)*sz<=c*sz:=Nat.mul_le_mul_right _ hroom
     rw[Nat.add_mul] at this
     omega
    omega
   ·refine grow cs ?_ rfl (by omega)
    have hclp:Cl w.drew (some ⟨b,0,none⟩) cs:=⟨(Cl.block (pre:=[]) (rest:=rest) (w:=w) (by simpa using h2) rfl).at_⟩
    exact run_firstCells_some w.drew inf.size m ⟨b,0,none⟩ m c cs (by rw[hm,hss]) hclp.cells⟩
end
end

/- The engine, part 8: lists of numbers and of pairs: append, copy, stores, parts. -/
section
open Go Go.RowKit
section
variable{P:Program}{n:Nat}{S:List (Nat×Value)}
variable{w0 w w':World}{M:List Nat}{H H':List (Nat×Obj)}{A F F':Fr}{O O':List Ow}{G:World->Prop}
variable{d:Nat}{ty:TypeId}{pos:String}{af:Array Edge}{gd:Option (Nat×Bool)}{dst:Option Nat}{x y z:Operand}{t t2 e:TypeId}{p a:Option Addr}{i m k c c2:Nat}
theorem sY(a b:List Int):aH (a++b)=aH a++aH b:=by simp[aH]
theorem aX.conv{o:Oper}{X:Type}{V:X->Value}{G1 G2:X->World->Prop}(h:aX P S G o X V G1)(hG:∀x w,G1 x w->G2 x w):aX P S G o X V G2:=⟨λ w hw=>(h.run w hw).mono hG⟩
theorem aX.bS{o:Oper}{X:Type}{V:X->Value}{O' O1:X->List Ow}(h:aX P S G o X V (λ x=>SF w0 M H A F (O' x)))(hO:∀x,O' x=O1 x):aX P S G o X V (λ x=>SF w0 M H A F (O1 x)):=h.conv λ x w h=>by rw[hO x] at h;exact h
theorem aX.gA{o:Oper}{X:Type}{V:X->Value}{φ:X->Prop}{O' O1:X->List Ow}(h:aX P S G o X V (λ x w=>φ x/\SF w0 M H A F (O' x) w))(hO:∀x,O' x=O1 x):aX P S G o X V (λ x w=>φ x/\SF w0 M H A F (O1 x) w):=h.conv λ x w h=>by rw[hO x] at h;exact h
theorem T8{l l2:List Int}(hx:ev S x=.slice p m c)(hy:ev S y=.slice a k c2)(ho:uN O i p (aH l) c e 1)(hm:l.length=m)(hf:pS A F O a (aH l2))(hk:l2.length=k)
  (he:dY P t e [.int .i64 0]) (ht2:P.underlying t2=some (.slice e)) (hb:m+k<=549755813888) :
  aX P S (SF w0 M H A F O) ⟨some d,.call {callee:=.builtin .append,args := #[x,y],argTypes := #[t,t2]},ty,pos,af,gd⟩ (Option Addr×Nat) (λ q=>.slice q.1 (m+k) q.2)
   (λ q w=>m+k<=q.2/\SF w0 M H A F (kP O i ⟨q.1,aH (l++l2),q.2,e,1⟩) w):=by
 rw[sY]
 exact iY hx hy ho (by rw[gV];omega) hf (by rw[gV];omega) (wI l2) he rfl (by decide) ht2 hb
theorem Ln{l l2:List Pr}(hx:ev S x=.slice p m c)(hy:ev S y=.slice a k c2)(ho:uN O i p (dK l) c e 2)(hm:l.length=m)(hf:pS A F O a (dK l2))(hk:l2.length=k)
  (he:dY P t e [.string ⟨#[]⟩,.int .u64 0]) (ht2:P.underlying t2=some (.slice e)) (hb:m+k<=549755813888) :
  aX P S (SF w0 M H A F O) ⟨some d,.call {callee:=.builtin .append,args := #[x,y],argTypes := #[t,t2]},ty,pos,af,gd⟩ (Option Addr×Nat) (λ q=>.slice q.1 (m+k) q.2)
   (λ q w=>m+k<=q.2/\SF w0 M H A F (kP O i ⟨q.1,dK (l++l2),q.2,e,2⟩) w):=by
 rw[nG]
 exact iY hx hy ho (by rw[iA];omega) hf (by rw[iA];omega) (tG l2) he rfl (by decide) ht2 hb
theorem tE{l:List Int}{v:Int}(hx:ev S x=.slice p m c)(hy:ev S y=.slice a 1 c2)(ho:uN O i p (aH l) c e 1)(hm:l.length=m)(hf:pS A F O a [.int .i64 v])
  (he:dY P t e [.int .i64 0]) (ht2:P.underlying t2=some (.slice e)) (hb:m+1<=549755813888) :
  aX P S (SF w0 M H A F O) ⟨some d,.call {callee:=.builtin .append,args := #[x,y],argTypes := #[t,t2]},ty,pos,af,gd⟩ (Option Addr×Nat) (λ q=>.slice q.1 (m+1) q.2)
   (λ q w=>m+1<=q.2/\SF w0 M H A F (kP O i ⟨q.1,aH (l++[v]),q.2,e,1⟩) w):=T8 (l2:=[v]) hx hy ho hm hf rfl he ht2 hb
theorem L7{l:List Pr}{s:ByteArray}{v:Int}(hx:ev S x=.slice p m c)(hy:ev S y=.slice a 1 c2)(ho:uN O i p (dK l) c e 2)(hm:l.length=m)(hf:pS A F O a [.string s,.int .u64 v])
  (he:dY P t e [.string ⟨#[]⟩,.int .u64 0]) (ht2:P.underlying t2=some (.slice e)) (hb:m+1<=549755813888) :
  aX P S (SF w0 M H A F O) ⟨some d,.call {callee:=.builtin .append,args := #[x,y],argTypes := #[t,t2]},ty,pos,af,gd⟩ (Option Addr×Nat) (λ q=>.slice q.1 (m+1) q.2)
   (λ q w=>m+1<=q.2/\SF w0 M H A F (kP O i ⟨q.1,dK (l++[(s,v)]),q.2,e,2⟩) w):=Ln (l2:=[(s,v)]) hx hy ho hm hf rfl he ht2 hb
theorem Gz{zc:List Value}(he:dY P t e zc):aX P S (SF w0 M H A F O) ⟨some d,.buildSlice t 0 #[],ty,pos,af,gd⟩ Nat (λ b=>.slice (some ⟨b,0,none⟩) 0 0) (λ b=>SF w0 M H A F (⟨some ⟨b,0,none⟩,[],0,e,zc.length⟩::O)) :=
 lR λ w hw=>by
  obtain⟨i,z,hi,hz,hzc,hs,hb⟩:=he.z
  refine⟨w.heap.size,w.alloc (.cells ⟨[]⟩ e (0,0)),?_,hw.Nm (C7 w _) (.inr ⟨w.heap.size,[],rfl,heap_alloc_new w _,by simp⟩) (by simp[iQ]) (kA _)⟩
  simp[execOp,Instr.buildSlice,run_underlying he.sl,sizeOf,typeInfo,hi,Instr.fill,newRow]
  rw[show Array.range 0 = #[] from Array.eq_empty_of_size_eq_zero (by simp),Array.map_empty]
theorem C1(he:dY P t e [.int .i64 0]):aX P S (SF w0 M H A F O) ⟨some d,.buildSlice t 0 #[],ty,pos,af,gd⟩ Nat (λ b=>.slice (some ⟨b,0,none⟩) 0 0) (λ b=>SF w0 M H A F (⟨some ⟨b,0,none⟩,aH [],0,e,1⟩::O)):=Gz he
theorem De(he:dY P t e [.string ⟨#[]⟩,.int .u64 0]):aX P S (SF w0 M H A F O) ⟨some d,.buildSlice t 0 #[],ty,pos,af,gd⟩ Nat (λ b=>.slice (some ⟨b,0,none⟩) 0 0) (λ b=>SF w0 M H A F (⟨some ⟨b,0,none⟩,dK [],0,e,2⟩::O)):=Gz he
theorem lr{args:List Value}{v:Value}{w w1:World}{at_:Array TypeId}(hx:B3 S [x,y]=args)(hr:(Builtin.copy_ at_ ty ⟨args⟩).run P w=.ok v w1) :
  (execOp (ev S) ⟨dst,.call {callee:=.builtin .copy,args := #[x,y],argTypes:=at_},ty,pos,af,gd⟩).run P w=.ok (.value v) w1:=by
 subst hx
 simp only[execOp,resolve,invoke,builtin,Sem.run_bind,Sem.run_pure,Result.andThen_ok,List.map_toArray,List.map_cons,List.map_nil]
 simp only[B3] at hr
 rw[hr]
 rfl
theorem Un{b o dLen dCap sLen sCap sz:Nat}{cs ys:List Value}(hx:ev S x=.slice (some ⟨b,o,none⟩) dLen dCap)(hy:ev S y=.slice a sLen sCap)(ho:uN O i (some ⟨b,0,none⟩) cs c e sz)(hf:pS A F [] a ys)
  (hlen:min sLen dLen*sz<=ys.length) (hfit:o+min sLen dLen*sz<=cs.length) (h1:ys.all (·.oneCell')=true) (ht:P.underlying t=some (.slice e)) (hs:(P.info? e).map (·.size)=some sz) (h0:0<sz) :
  aX P S (SF w0 M H A F O) ⟨some d,.call {callee:=.builtin .copy,args := #[x,y],argTypes := #[t,t2]},ty,pos,af,gd⟩ Unit (λ _=>.int .i64 (min sLen dLen:Nat))
   (λ _=>SF w0 M H A F (kP O i ⟨some ⟨b,0,none⟩,cs.take o++ys.take (min sLen dLen*sz)++cs.drop (o+min sLen dLen*sz),c,e,sz⟩)) :=
 lR λ w hw=>by
  have hev:B3 S [x,y]=[.slice (some ⟨b,o,none⟩) dLen dCap,.slice a sLen sCap]:=by simp[B3,hx,hy]
  have hfl:pS A F O a ys:=by
   cases hf with
   | bO h=>exact .bO h
   | new h=>exact .new h
   | own h=>cases h
   | hdr h _=>cases h
  have hcl:=hw.cl hfl
  have hone:∀u∈ys,u.oneCell'=true:=by simpa using h1
  obtain h2:=(hw.own _ ho.mem).1
  rcases h2 with⟨h2,_⟩|⟨b',rest,hb',h2,h3⟩
  ·simp at h2
  ·simp only[Option.some.injEq,Addr.mk.injEq,and_true] at hb'
   subst hb'
   simp only at h2 h3
   have hfin:∀cs',cs'++rest=cs'++rest->cs'.length=cs.length->SF w0 M H A F (kP O i ⟨some ⟨b,0,none⟩,cs',c,e,sz⟩) (w.setRow b ⟨cs'++rest⟩):=λ cs' _ hl =>
    hw.G8 ho (Aa w b _) (.inr ⟨b,rest,rfl,setRow_heap w b ⟨cs++rest⟩ _ e (0,0) h2,by rw[List.length_append,hl,<- List.length_append];exact h3⟩) (λ b hb=>.inl hb) (kA _)
   by_cases hz:min sLen dLen=0
   ·have hrow:cs.take o++ys.take (min sLen dLen*sz)++cs.drop (o+min sLen dLen*sz)=cs:=by rw[hz];simp
    have hr:(Builtin.copy_ #[t,t2] ty ⟨[.slice (some ⟨b,o,none⟩) dLen dCap,.slice a sLen sCap]⟩).run P w=.ok (goInt (Nat.min sLen dLen)) w:=by
     have hl0:∀a,(loadCells a 0).run P w=.ok #[] w:=λ a=>by simpa using run_loadCells_list (P:=P) w a [] (by simp)
     cases hq:P.info? e with
     | none=>simp[hq] at hs
     | some inf =>
      clear hrow hfin hfit hlen hev hx hy ho hw h3
      have e0:Nat.min sLen dLen=0:=hz
      have hfc:(Builtin.firstCells inf.size 0 (.slice a sLen sCap)).run P w=.ok #[] w:=by
       cases a with
       | none=>simp[Builtin.firstCells]
       | some a=>simp[Builtin.firstCells,hl0]
      simp only[Builtin.copy_,List.getElem?_toArray,List.getElem?_cons_zero,List.getElem?_cons_succ,Sem.run_bind,run_underlying ht,Result.andThen_ok,Builtin.lenOf,Sem.run_pure,e0,sizeOf,typeInfo,hq,hfc,storeCells]
      simp[hq,hfc,storeCells,e0]
    refine⟨(),w,lr hev hr,?_⟩
    rw[hrow,Je ho]
    exact hw
   ·have hyl:0<ys.length:=by have:=Nat.mul_pos (Nat.pos_of_ne_zero hz) h0;omega
    have hap:=hcl.ptr hyl
    have hzl:(ys.take (min sLen dLen*sz)).length=min sLen dLen*sz:=by rw[List.length_take];omega
    have hr:=M9 (P:=P) w t t2 ty e b o dLen dCap ⟨cZ a,eG a,none⟩ sLen sCap ⟨cs++rest⟩ e (ys.take (min sLen dLen*sz)) sz ht hs h2 hzl
     (λ j v hj=>hcl.cells j v (by rw[List.getElem?_take] at hj;split at hj;exact hj;cases hj)) (by simp only[hzl];simp;omega) (λ v hv=>hone v (List.mem_of_mem_take hv))
    rw[<- hap] at hr
    have hrow:(cs++rest).take o++ys.take (min sLen dLen*sz)++(cs++rest).drop (o+(ys.take (min sLen dLen*sz)).length)=(cs.take o++ys.take (min sLen dLen*sz)++cs.drop (o+min sLen dLen*sz))++rest:=by
     rw[hzl,List.take_append_of_le_length (by omega),List.drop_append_of_le_length (by omega)]
     simp
    refine⟨(),w.setRow b ⟨(cs.take o++ys.take (min sLen dLen*sz)++cs.drop (o+min sLen dLen*sz))++rest⟩,lr hev ?_,hfin _ rfl ?_⟩
    ·rw[hr,<- hrow];rfl
    ·simp only[List.length_append,hzl,List.length_take,List.length_drop]
     omega
theorem F2(l:List Pr)(k:Nat):(dK l).take (2*k)=dK (l.take k):=by
 conv=>lhs;rw[<- List.take_append_drop k l,nG]
 by_cases h:k<=l.length
 ·rw[List.take_append_of_le_length (by rw[iA,List.length_take];omega),List.take_of_length_le (by rw[iA,List.length_take];omega)]
 ·rw[List.drop_eq_nil_of_le (by omega)]
  simp only[dK,List.append_nil]
  rw[List.take_of_length_le (by rw[iA,List.length_take];omega)]
theorem Qh(l:List Pr)(k:Nat):(dK l).drop (2*k)=dK (l.drop k):=by
 have h:=List.take_append_drop (2*k) (dK l)
 rw[F2] at h
 have h2:dK l=dK (l.take k)++dK (l.drop k):=by rw[<- nG,List.take_append_drop]
 rw[h2] at h
 exact List.append_cancel_left (by rw[<- h2] at h;exact h.trans h2)
theorem H6(l:List Int)(k:Nat):(aH l).take k=aH (l.take k):=by simp[aH]
theorem S2(l:List Int)(k:Nat):(aH l).drop k=aH (l.drop k):=by simp[aH]
theorem Uk{b q dLen dCap sLen sCap:Nat}{l l2:List Int}(hx:ev S x=.slice (some ⟨b,q,none⟩) dLen dCap)(hy:ev S y=.slice a sLen sCap)(ho:uN O i (some ⟨b,0,none⟩) (aH l) c e 1)(hf:pS A F [] a (aH l2))
  (hlen:min sLen dLen<=l2.length) (hfit:q+min sLen dLen<=l.length) (ht:P.underlying t=some (.slice e)) (hs:(P.info? e).map (·.size)=some 1) :
  aX P S (SF w0 M H A F O) ⟨some d,.call {callee:=.builtin .copy,args := #[x,y],argTypes := #[t,t2]},ty,pos,af,gd⟩ Unit (λ _=>.int .i64 (min sLen dLen:Nat))
   (λ _=>SF w0 M H A F (kP O i ⟨some ⟨b,0,none⟩,aH (l.take q++l2.take (min sLen dLen)++l.drop (q+min sLen dLen)),c,e,1⟩)):=by
 have:=Un (P:=P) (w0:=w0) (M:=M) (H:=H) (d:=d) (ty:=ty) (pos:=pos) (af:=af) (gd:=gd) (t2:=t2) hx hy ho hf (by rw[gV];omega) (by rw[gV];omega) (wI l2) ht hs (by decide)
 rw[Nat.mul_one,H6,H6,S2,<- sY,<- sY] at this
 exact this
theorem Ux{b q o dLen dCap sLen sCap:Nat}{l l2:List Pr}(hx:ev S x=.slice (some ⟨b,o,none⟩) dLen dCap)(hy:ev S y=.slice a sLen sCap)(ho:uN O i (some ⟨b,0,none⟩) (dK l) c e 2)(hf:pS A F [] a (dK l2))(hq:o=2*q)
  (hlen:min sLen dLen<=l2.length) (hfit:q+min sLen dLen<=l.length) (ht:P.underlying t=some (.slice e)) (hs:(P.info? e).map (·.size)=some 2) :
  aX P S (SF w0 M H A F O) ⟨some d,.call {callee:=.builtin .copy,args := #[x,y],argTypes := #[t,t2]},ty,pos,af,gd⟩ Unit (λ _=>.int .i64 (min sLen dLen:Nat))
   (λ _=>SF w0 M H A F (kP O i ⟨some ⟨b,0,none⟩,dK (l.take q++l2.take (min sLen dLen)++l.drop (q+min sLen dLen)),c,e,2⟩)):=by
 subst hq
 have:=Un (P:=P) (w0:=w0) (M:=M) (H:=H) (d:=d) (ty:=ty) (pos:=pos) (af:=af) (gd:=gd) (t2:=t2) hx hy ho hf (by rw[iA];omega) (by rw[iA];omega) (tG l2) ht hs (by decide)
 rw[show 2*q+min sLen dLen*2=2*(q+min sLen dLen) by omega,Nat.mul_comm (min sLen dLen) 2,F2,F2,Qh,<- nG,<- nG] at this
 exact this
theorem Su{b dLen dCap sCap:Nat}{l l2:List Pr}(hx:ev S x=.slice (some ⟨b,0,none⟩) dLen dCap)(hy:ev S y=.slice a dLen sCap)(ho:uN O i (some ⟨b,0,none⟩) (dK l) c e 2)(hf:pS A F [] a (dK l2))(h1:l.length=dLen)(h2:l2.length=dLen)
  (ht:P.underlying t=some (.slice e)) (hs:(P.info? e).map (·.size)=some 2) :
  aX P S (SF w0 M H A F O) ⟨some d,.call {callee:=.builtin .copy,args := #[x,y],argTypes := #[t,t2]},ty,pos,af,gd⟩ Unit (λ _=>.int .i64 (dLen:Nat))
   (λ _=>SF w0 M H A F (kP O i ⟨some ⟨b,0,none⟩,dK l2,c,e,2⟩)):=by
 have:=Ux (P:=P) (w0:=w0) (M:=M) (H:=H) (d:=d) (ty:=ty) (pos:=pos) (af:=af) (gd:=gd) (t2:=t2) (q:=0) hx hy ho hf rfl (by omega) (by omega) ht hs
 rw[Nat.min_self] at this
 rw[show l.take 0++l2.take dLen++l.drop (0+dLen)=l2 by rw[List.take_of_length_le (l:=l2) (by omega),List.drop_eq_nil_of_le (by omega)];simp] at this
 exact this
theorem Si{b dLen dCap sCap:Nat}{l l2:List Int}(hx:ev S x=.slice (some ⟨b,0,none⟩) dLen dCap)(hy:ev S y=.slice a dLen sCap)(ho:uN O i (some ⟨b,0,none⟩) (aH l) c e 1)(hf:pS A F [] a (aH l2))(h1:l.length=dLen)(h2:l2.length=dLen)
  (ht:P.underlying t=some (.slice e)) (hs:(P.info? e).map (·.size)=some 1) :
  aX P S (SF w0 M H A F O) ⟨some d,.call {callee:=.builtin .copy,args := #[x,y],argTypes := #[t,t2]},ty,pos,af,gd⟩ Unit (λ _=>.int .i64 (dLen:Nat))
   (λ _=>SF w0 M H A F (kP O i ⟨some ⟨b,0,none⟩,aH l2,c,e,1⟩)):=by
 have:=Uk (P:=P) (w0:=w0) (M:=M) (H:=H) (d:=d) (ty:=ty) (pos:=pos) (af:=af) (gd:=gd) (t2:=t2) (q:=0) hx hy ho hf (by omega) (by omega) ht hs
 rw[Nat.min_self] at this
 rw[show l.take 0++l2.take dLen++l.drop (0+dLen)=l2 by rw[List.take_of_length_le (l:=l2) (by omega),List.drop_eq_nil_of_le (by omega)];simp] at this
 exact this
theorem Oq{q:Nat}{cs:List Value}{sz:Nat}{v:Value}(hx:ev S x=.pointer (some ⟨cZ p,eG p+q,none⟩))(hy:ev S y=v)(hv:v.oneCell'=true)(ht:one P t=true)(ho:uN O i p cs c e sz)(hq:q<cs.length) :
  aX P S (SF w0 M H A F O) ⟨none,.store t x y,ty,pos,af,gd⟩ Unit (λ _=>undef) (λ _=>SF w0 M H A F (kP O i ⟨p,cs.set q v,c,e,sz⟩)) :=
 sC λ w hw=>by
  have h2:=(hw.own _ ho.mem).1
  rcases h2 with⟨_,h2,_⟩|⟨b,rest,hb,h2,h3⟩
  ·simp only at h2;subst h2;simp at hq
  ·simp only at hb h2 h3
   subst hb
   simp only[cZ,eG,Nat.zero_add] at hx
   have hqr:q<(cs++rest).length:=by rw[List.length_append];omega
   have hc:w.cell? ⟨b,q,none⟩=some (cs++rest)[q]:=by rw[cell_of_row w b q ⟨cs++rest⟩ e (0,0) h2];simp[hqr]
   have hfz:w.frozen? ⟨b,q,none⟩=false:=frozen_of_row w b q ⟨cs++rest⟩ e h2
   have hs:(store ⟨b,q,none⟩ v).run P w=.ok () (w.setCell ⟨b,q,none⟩ v):=by rw[run_store P w _ v _ hv,hc];simp[hfz]
   have e1:v.cells = #[v]:=by cases v<;>simp_all[Value.cells,Value.oneCell']
   have hch:Zx w (w.setCell ⟨b,q,none⟩ v) (iQ (some ⟨b,0,none⟩)):=⟨rfl,rfl,rfl,by simp,λ k _ hk=>heap_setCell_other w ⟨b,q,none⟩ k v (by simpa[iQ] using hk)⟩
   refine⟨w.setCell ⟨b,q,none⟩ v,?_,hw.G8 ho hch (o':=⟨some ⟨b,0,none⟩,cs.set q v,c,e,sz⟩) (.inr ⟨b,rest,rfl,?_,by simpa using h3⟩) (λ b hb=>.inl hb) (kA _)⟩
   ·simp[execOp,hx,hy,Instr.storeAt,Instr.sureAddr,storeVar,e1,Qo ht,storeCells,Addr.add_zero',hs]
   ·have:=heap_setCell_same w b q ⟨cs++rest⟩ e v h2
    rw[this]
    simp[List.set_append_left _ _ hq]
theorem Yb(l:List Int)(k:Nat)(v:Int):(aH l).set k (.int .i64 v)=aH (l.set k v):=by simp[aH]
theorem gO{q:Nat}{l:List Int}{v:Int}(hx:ev S x=.pointer (some ⟨cZ p,eG p+q,none⟩))(hy:ev S y=.int .i64 v)(ht:one P t=true)(ho:uN O i p (aH l) c e 1)(hq:q<l.length) :
  aX P S (SF w0 M H A F O) ⟨none,.store t x y,ty,pos,af,gd⟩ Unit (λ _=>undef) (λ _=>SF w0 M H A F (kP O i ⟨p,aH (l.set q v),c,e,1⟩)):=by
 rw[<- Yb]
 exact Oq hx hy rfl ht ho (by rw[gV];exact hq)
theorem Zm{q:Nat}{cs vs:List Value}{sz:Nat}(hx:ev S x=.pointer (some ⟨cZ p,eG p+q,none⟩))(hy:ev S y=.agg ⟨vs⟩)(h1:vs.all (·.oneCell')=true)(ht:jK P t vs.length=true)(ho:uN O i p cs c e sz)(hq:q+vs.length<=cs.length)(hv0:0<vs.length) :
  aX P S (SF w0 M H A F O) ⟨none,.store t x y,ty,pos,af,gd⟩ Unit (λ _=>undef) (λ _=>SF w0 M H A F (kP O i ⟨p,cs.take q++vs++cs.drop (q+vs.length),c,e,sz⟩)) :=
 sC λ w hw=>by
  have h2:=(hw.own _ ho.mem).1
  rcases h2 with⟨_,h2,_⟩|⟨b,rest,hb,h2,h3⟩
  ·simp only at h2;subst h2;simp only[List.length_nil] at hq;omega
  ·simp only at hb h2 h3
   subst hb
   simp only[cZ,eG,Nat.zero_add] at hx
   obtain⟨dd,hu,hm,hi⟩:=gZ ht
   have hst:=run_storeCells_at (P:=P) b q e vs 0 ⟨cs++rest⟩ w h2 (by simp;omega) (by simpa using h1)
   have hrow:(cs++rest).take q++vs++(cs++rest).drop (q+vs.length)=(cs.take q++vs++cs.drop (q+vs.length))++rest:=by
    rw[List.take_append_of_le_length (by omega),List.drop_append_of_le_length (by omega)]
    simp
   simp only[Nat.add_zero] at hst
   rw[hrow] at hst
   refine⟨w.setRow b ⟨(cs.take q++vs++cs.drop (q+vs.length))++rest⟩,?_,hw.G8 ho (Aa w b _) (.inr ⟨b,rest,rfl,setRow_heap w b ⟨cs++rest⟩ _ e (0,0) h2,?_⟩) (λ b hb=>.inl hb) (kA _)⟩
   ·cases hq':P.info? t with
    | none=>rw[hq'] at hi;simp at hi
    | some inf =>
     have hs:inf.size=vs.length:=by rw[hq'] at hi;simpa using hi
     simp[execOp,hx,hy,Instr.storeAt,Instr.sureAddr,storeVar,sizeOf,typeInfo,hq',hs,Value.cells,hst]
   ·simp only[List.length_append,List.length_take,List.length_drop] at h3 ⊢
    omega
theorem l7{v:Value}{w w1:World}{lo hi:Option Operand}(hr:(Instr.sliceAt t (ev S x) (lo.map (ev S)) (hi.map (ev S)) none).run P w=.ok v w1) :
  (execOp (ev S) ⟨some d,.slice t x lo hi none,ty,pos,af,gd⟩).run P w=.ok (.value v) w1:=by
 simp only[execOp,Option.map_none,Sem.run_bind,hr,Result.andThen_ok,Sem.run_pure]
theorem Cl.drop{cs:List Value}(h:Cl w a cs)(k:Nat):Cl w (a.map (·.add k)) (cs.drop k):=by
 refine⟨λ j u hj=>?_⟩
 rw[List.getElem?_drop] at hj
 obtain⟨h1,h2⟩:=h.at_ _ u hj
 rw[h1]
 simp only[Option.map_some,Addr.add_lit,cZ,eG] at h2 ⊢
 refine⟨trivial,?_⟩
 rw[Nat.add_assoc]
 exact h2
theorem qy{sz:Nat}{cs:List Value}(hx:ev S x=.slice a m c)(hy:ev S y=.int .i64 ((k:Nat):Int))(ht:P.underlying t=some (.slice e))(hs:(P.info? e).map (·.size)=some sz)(hk:k<=m)(hf:pS A F [] a cs)(hmc:m<=c)(hl:cs.length=m*sz) :
  aX P S (SF w0 M H A F O) ⟨some d,.slice t x (some y) none none,ty,pos,af,gd⟩ (Option Addr) (λ p=>.slice p (m-k) (c-k)) (λ p=>SF w0 M H ((p,cs.drop (k*sz))::A) F O) :=
 lR λ w hw=>by
  have he:P.elem t=e:=by simp[Program.elem,ht]
  have ht':P.underlying t=some (.slice (P.elem t)):=by rw[he];exact ht
  cases hi:P.info? e with
  | none=>simp[hi] at hs
  | some inf =>
   have hs':inf.size=sz:=by simpa[hi] using hs
   have hr:=run_slice_l (P:=P) w t a m c ht' .i64 (k:Int) (by omega) (by omega)
   refine⟨if c=k then a else a.map (·.add (k*sz)),w,l7 (v:=.slice (if c=k then a else a.map (·.add (k*sz))) (m-k) (c-k)) ?_,hw.R9 hf (λ hn=>?_) (λ h=>by rw[h];simp) (λ w hc=>?_)⟩
   ·simp[hx,hy,run_sliceAt_slice w t _ _ _ _ ht',hr,he,sizeOf,typeInfo,hi,hs',sliced]
   ·split
    ·rfl
    ·cases a with
     | none=>rfl
     | some a =>
      obtain⟨b,o,s⟩:=a
      simp only[Option.map_some,cZ,Addr.add]
      split<;>rfl
   ·split
    ·rename_i heq
     have:cs.drop (k*sz)=[]:=List.drop_eq_nil_of_le (by rw[hl];exact Nat.mul_le_mul_right _ (by omega))
     rw[this]
     exact Cl.nil _ _
    ·exact hc.drop _
end
end

end Go.Ct

/- Merged. -/
import Derived.Test.YthblobahelfefaaGreatDoorFz
import Derived.Test.YthblobahelfefaaGreatDoorMp2
import Derived.Test.YthblobahelfefaaGreatDoorGJoin
import Derived.Laws.BytesString
import Derived.Test.YthblobahelfefaaGreatDoorGAutoD
import Derived.Test.YthblobahelfefaaGreatDoorGBit2
import Derived.WideKeyRuns
set_option linter.unusedSimpArgs false
set_option linter.unusedVariables false
namespace Go.Ct
open Go Go.RowKit
section
section
variable{P:Program}{S:List (Nat×Value)}{G:World->Prop}{d:Nat}{ty t e:TypeId}{pos:String}{af:Array Edge}{gd:Option (Nat×Bool)}{x y:Operand}{w0:World}{M:List Nat}{H:List (Nat×Obj)}{A F:Fr}{O:List Ow}{a:Option Addr}
theorem jY{n k b o:Nat}{kk:IntKind}(hx:ev S x=.pointer (some ⟨b,o,none⟩))(hy:ev S y=.int kk ((k:Nat):Int))(ht:P.underlying t=some (.array n e))(hs:one P e=true)(h1:k<n) :
  aH P S G ⟨some d,.indexAddr t x y,ty,pos,af,gd⟩ (.pointer (some ⟨b,o+k,none⟩)):=⟨λ w _=>by
 have he:P.elem t=e:=by simp[Program.elem,ht]
 have hn:P.arrayLen t=n:=by simp[Program.arrayLen,ht]
 have key:(Instr.indexAt t (.pointer (some ⟨b,o,none⟩)) (.int kk ((k:Nat):Int))).run P w=.ok (.pointer (some ⟨b,o+k,none⟩)) w:=by
  rw[run_indexAt_array w t ⟨b,o,none⟩ kk (k:Int) (by rw[he,hn];exact ht),hn,if_pos ⟨by omega,by omega⟩,he];have hsz:(P.info? e).map (·.size)=some 1:=by
   unfold one at hs;cases hi:P.info? e with
   | none=>simp[hi] at hs
   | some i=>
    cases hu:P.underlying e with
    | none=>simp[hi,hu] at hs
    | some dd=>simp only[hi,hu,Bool.and_eq_true,beq_iff_eq] at hs;simp[hs.1]
  cases hi:P.info? e with
  | none=>rw[hi] at hsz;simp at hsz
  | some info=>rw[hi] at hsz;simp only[Option.map_some,Option.some.injEq] at hsz;simp[Go.sizeOf,typeInfo,hi,hsz,Addr.add_lit]
 simp[execOp,hx,hy,key]⟩
end
end
section
section
variable{P:Program}{S:List (Nat×Value)}{w0:World}{M:List Nat}{H H':List (Nat×Obj)}{A F:Fr}{O:List Ow}{G:World->Prop}{d:Nat}{ty t t' t2 K E e:TypeId}{pos:String}{af:Array Edge}{gd:Option (Nat×Bool)}{x y z:Operand}{k v ze:Value}{es:List MapEntry}{c i b:Nat}
variable{r:Option (Nat×Value)}{m:Nat}{cs:List Value}
theorem ah{w:World}(ha:w.heap[b]?=some (bV es c))(hu:P.underlying t=some (.map K E))(hck:∀e,(Instr.checkKey e 10000 K k).run P w=.ok () w)(hr:(Instr.findKey K k es).run P w=.ok r w)(hz:bR P E=some ze)(ok:Bool) :
  (Instr.lookup t (.map (some b)) k ok).run P w=.ok (if ok then .tuple #[(r.map Prod.snd).getD ze,.bool r.isSome] else(r.map Prod.snd).getD ze) w:=by
 unfold Instr.lookup;simp only[Sem.run_bind,run_underlying hu,Result.andThen,Go.MapKept.run_getObj_map ha,hck];cases r with
 | none=>cases ok<;>simp[hck,hr,Ad hz,Result.andThen]
 | some q=>cases ok<;>simp[hck,hr,Result.andThen]
theorem Rl(hx:ev S x=.map (some b))(hy:ev S y=k)(ha:At H i b (bV es c))(hu:P.underlying t=some (.map K E))(hck:∀e w,(Instr.checkKey e 10000 K k).run P w=.ok () w)(hr:∀w,(Instr.findKey K k es).run P w=.ok r w)(hz:bR P E=some ze) :
  aH P S (St w0 M H) ⟨some d,.lookup t x y false,ty,pos,af,gd⟩ ((r.map Prod.snd).getD ze):=⟨λ w hw=>by simp[execOp,hx,hy,ah (hw.at ha) hu (λ e=>hck e w) (hr w) hz false]⟩
theorem ur(hx:ev S x=.map (some b))(hy:ev S y=k)(hz:ev S z=v)(ha:At H i b (bV es c))(hu:P.underlying t=some (.map K E))(hck:∀e w,(Instr.checkKey e 10000 K k).run P w=.ok () w)(hr:∀w,(Instr.findKey K k es).run P w=.ok none w)(hH:setAt H i (bV (es++[⟨k,v,c⟩]) (c+1))=H') :
  aQ P S (St w0 M H) ⟨none,.mapUpdate t x y z,ty,pos,af,gd⟩ Unit (λ _=>undef) (λ _=>St w0 M H') :=
 kE λ w hw=>by
  subst hH;have hb:=hw.at ha;obtain⟨h1,h2⟩:=MapKept.heap_set (o':=bV (es++[⟨k,v,c⟩]) (c+1)) hb
  have hrun:(Instr.mapUpdate t (.map (some b)) k v).run P w=.ok () {w with heap:=w.heap.setIfInBounds b (bV (es++[⟨k,v,c⟩]) (c+1))}:=by unfold Instr.mapUpdate;simp only[Sem.run_bind,run_underlying hu,Result.andThen,MapKept.run_getObj_map hb,hck];simp[hr,Result.andThen,MapKept.run_setObj_map _ hb]
  exact⟨{w with heap:=w.heap.setIfInBounds b (bV (es++[⟨k,v,c⟩]) (c+1))},by simp[execOp,hx,hy,hz,hrun],hw.write ha rfl rfl rfl (by simp) (λ k hk=>h2 k hk) h1⟩
theorem Zl{r since:Nat}{seen:Array Nat}{i2:Nat}{e:MapEntry}(hx:ev S x=.pointer (some ⟨r,0,none⟩))(ha:At H i r (.mapIter (some m) since (seen.push e.born) c))(hm:At H i2 m (bV es c))(he:e∈es)(hn:(es.map (·.born)).Nodup) :
  aH P S (St w0 M H) ⟨some d,.entry x,ty,pos,af,gd⟩ (.tuple #[e.key,e.val]):=⟨λ w hw=>by have:=run_entry_at (P:=P) w r m since seen ⟨es⟩ c e (hw.at ha) (hw.at hm) he hn;simp[execOp,hx,this]⟩
theorem Ts{n k:Nat}{kk:IntKind}(hx:ev S x=.agg ⟨cs⟩)(hy:ev S y=.int kk ((k:Nat):Int))(ht:P.underlying t=some (.array n e))(hs:one P e=true)(hk:k<n)(hv:cs[k]?=some v) :
  aH P S G ⟨some d,.index t x y,ty,pos,af,gd⟩ v:=⟨λ w _=>by
 have hsz:(P.info? e).map (·.size)=some 1:=by
  unfold one at hs;cases hi:P.info? e with
  | none=>simp[hi] at hs
  | some i=>
   cases hu:P.underlying e with
   | none=>simp[hi,hu] at hs
   | some dd=>simp only[hi,hu,Bool.and_eq_true,beq_iff_eq] at hs;simp[hs.1]
 cases hi:P.info? e with
 | none=>rw[hi] at hsz;simp at hsz
 | some info=>rw[hi] at hsz;simp only[Option.map_some,Option.some.injEq] at hsz;have hp:=kM (P:=P) hs (cs:=⟨cs⟩) (off:=k) (v:=v) (by simpa using hv) w;simp[execOp,hx,hy,Instr.index,asIntOf,run_underlying ht,Go.sizeOf,typeInfo,hi,hsz,hk,hp,Result.andThen]⟩
theorem qa{p:Option Addr}{zc:List Value}{s:ByteArray}(hx:ev S x=.slice p m c)(hy:ev S y=.string s)(ho:mN O i p cs c e 1)(hm:cs.length=m)(hk0:0<s.size)(he:cS P t e zc)(hsz:zc.length=1)(ht2:P.underlying t2=some .string)(hb:m+s.size<=549755813888) :
  aQ P S (SF w0 M H A F O) ⟨some d,.call {callee:=.builtin .append,args := #[x,y],argTypes := #[t,t2]},ty,pos,af,gd⟩ (Option Addr×Nat) (λ q=>.slice q.1 (m+s.size) q.2)
   (λ q w=>m+s.size<=q.2/\SF w0 M H A F (eL O i ⟨q.1,cs++byteCells s,q.2,e,1⟩) w):=⟨λ w hw=>by
 obtain⟨inf,zz,hi,hz,hzc,hs,hbytes⟩:=he.z;have hev:lX S [x,y]=[.slice p m c,.string s]:=by simp[lX,hx,hy]
 have hown:=(hw.own _ ho.mem).1;have hss:inf.size=1:=by omega
 have hyl:=byteCells_length s;have hsrc:Src P inf.size t2 (.string s) s.size (byteCells s) w:=by rw[hss];exact Src.ofString w ht2 s
 have grow:∀olds:List Value,(Builtin.firstCells inf.size m (.slice p m c)).run P w.drew=.ok olds.toArray w.drew->olds=cs->c<m+s.size ->
   pa P (Option Addr×Nat) (λ q=>.slice q.1 (m+s.size) q.2) (λ q w=>m+s.size<=q.2/\SF w0 M H A F (eL O i ⟨q.1,cs++byteCells s,q.2,e,1⟩) w) ((execOp (ev S) ⟨some d,.call {callee:=.builtin .append,args := #[x,y],argTypes := #[t,t2]},ty,pos,af,gd⟩).run P w):=by
  intro olds hold heq hlt
  subst heq
  have hr:=run_append_grow_src (P:=P) w t t2 ty e inf zz he.sl hi hz p m c olds hold (.string s) s.size (byteCells s) hsrc hlt (by omega) (growslice_fits hlt (by
   have:(m+s.size)*inf.bytes<=549755813888*256:=Nat.mul_le_mul hb hbytes
   omega))
  rw[nW hev hr];have hcap:m+s.size<=grownCap w (m+s.size) c e:=grownCap_ge w (m+s.size) c e;refine⟨(some ⟨w.heap.size,0,none⟩,grownCap w (m+s.size) c e),rfl,hcap,hw.sR ho ((pY w _).mono (by simp)) (.inr ⟨w.heap.size,(Builtin.zeroCells zz.cells (grownCap w (m+s.size) c e-(m+s.size))).toList,rfl,?_,?_⟩) (λ b hb=>.inr ?_) (eN _)⟩
  ·have:=heap_alloc_new w.drew (.cells ((olds++byteCells s).toArray++Builtin.zeroCells zz.cells (grownCap w (m+s.size) c e-(m+s.size))) e);simp only[] at this ⊢
   rw[show(⟨olds++byteCells s++(Builtin.zeroCells zz.cells (grownCap w (m+s.size) c e-(m+s.size))).toList⟩:Array Value)=(olds++byteCells s).toArray++Builtin.zeroCells zz.cells (grownCap w (m+s.size) c e-(m+s.size)) from by apply Array.ext';simp]
   exact this
  ·have hzl:(Builtin.zeroCells zz.cells (grownCap w (m+s.size) c e-(m+s.size))).size=(grownCap w (m+s.size) c e-(m+s.size))*1:=by
    rw[size_zeroCells,hzc]
    simp[hsz]
   simp only[List.length_append,Array.length_toList,hzl,hm,hyl]
   omega
  ·simp only[fV,List.mem_singleton] at hb
   omega
 rcases hown with⟨rfl,e2,rfl⟩|⟨b,rest,rfl,h2,h3⟩
 ·simp only at e2;subst e2;have hm0:m=0:=by simpa using hm.symm
  subst hm0;exact grow [] E0x rfl (by omega)
 ·simp only at h2 h3;by_cases hroom:m+s.size<=c
  ·have hlr:(cs++rest).length=c:=by rw[h3,Nat.mul_one]
   have hst:=run_storeCells_at (P:=P) b m e (byteCells s) 0 ⟨cs++rest⟩ w h2 (by simp only[Nat.add_zero];show m+(byteCells s).length<=(cs++rest).length;rw[hlr,hyl];exact hroom) hsrc.one;simp only[Nat.add_zero] at hst;have hr:(Builtin.append_ #[t,t2] ty ⟨[.slice (some ⟨b,0,none⟩) m c,.string s]⟩).run P w=.ok (.slice (some ⟨b,0,none⟩) (m+s.size) c) (w.setRow b ⟨(cs++rest).take m++byteCells s++(cs++rest).drop (m+(byteCells s).length)⟩):=by simp[Builtin.append_,run_underlying he.sl,run_underlying ht2,sizeOf,typeInfo,hi,hsrc.len,hroom,firstCells_string s w,Addr.add_lit,hss,hst,Result.andThen]
   rw[nW hev hr];have hrow:(cs++rest).take m++byteCells s++(cs++rest).drop (m+(byteCells s).length)=cs++byteCells s++rest.drop (byteCells s).length:=by rw[<- hm,List.take_left,List.drop_append];simp
   rw[hrow];refine⟨(some ⟨b,0,none⟩,c),rfl,hroom,hw.sR ho (oQ w b _) (.inr ⟨b,rest.drop (byteCells s).length,rfl,setRow_heap w b ⟨cs++rest⟩ _ e (0,0) h2,?_⟩) (λ b hb=>.inl hb) (eN _)⟩;simp only[List.length_append,List.length_drop] at hlr ⊢;omega
  ·refine grow cs ?_ rfl (by omega);have hclp:Cl w.drew (some ⟨b,0,none⟩) cs:=⟨(Cl.block (pre:=[]) (rest:=rest) (w:=w) (by simpa using h2) rfl).at_⟩
   exact run_firstCells_some w.drew inf.size m ⟨b,0,none⟩ m c cs (by rw[hm,hss,Nat.mul_one]) hclp.cells⟩
end
end
section
section
variable{P:Program}{w:World}
def kOk(P:Program)(t:TypeId):Nat->Bool
 | 0=>match P.underlying t with|some (.int _)=>true|_=>false
 | 1=>match P.underlying t with|some .bool=>true|_=>false
 | _=>match P.underlying t with|some .string=>true|_=>false
inductive vk:Nat->Value->Value->Bool->Prop where
 | int (k:IntKind) (a b:Int):vk 0 (.int k a) (.int k b) (a==b)
 | bool (a b:Bool):vk 1 (.bool a) (.bool b) (a==b)
 | str (a b:ByteArray):vk 2 (.string a) (.string b) (decide (a=b))
theorem vk.run{t:TypeId}{k:Nat}{u v:Value}{r:Bool}(h:vk k u v r)(ht:kOk P t k=true)(d:Nat):(Op.equalIn (d+1) t u v).run P w=.ok r w:=by
 cases h with
 | int k a b=>
  cases hu:P.underlying t with
  | none=>simp[kOk,hu] at ht
  | some z=>cases z<;>simp[kOk,hu] at ht;exact run_equalIn_int w d t k _ a b hu
 | bool a b=>
  cases hu:P.underlying t with
  | none=>simp[kOk,hu] at ht
  | some z=>cases z<;>simp[kOk,hu] at ht;exact run_equalIn_bool w d t a b hu
 | str a b=>
  cases hu:P.underlying t with
  | none=>simp[kOk,hu] at ht
  | some z=>cases z<;>simp[kOk,hu] at ht;rw[<- Db];exact run_equalIn_string w d t a b hu
def fOk(P:Program)(f:Field)(o k:Nat):Bool:=f.name != "_" && Nat.beq f.offset o&&one P f.type&&kOk P f.type k
variable{xs ys:Array Value}{d:Nat}
theorem X2{f:Field}{fs:List Field}{o k:Nat}{u v:Value}{r:Bool}(hf:fOk P f o k=true)(hx:xs[o]?=some u)(hy:ys[o]?=some v)(h:vk k u v r) :
  (Op.eqFields (d+1) xs ys (f::fs)).run P w=if r=true then(Op.eqFields (d+1) xs ys fs).run P w else .ok false w:=by
 simp only[fOk,Bool.and_eq_true,bne_iff_ne,ne_eq] at hf;obtain⟨⟨⟨h1,h2⟩,h3⟩,h4⟩:=hf;replace h2:=eJ h2;subst h2;have p1:(part f.type xs f.offset).run P w=.ok u w:=kM h3 hx w;have p2:(part f.type ys f.offset).run P w=.ok v w:=kM h3 hy w;simp only[Op.eqFields,h1,ne_eq,not_false_eq_true,if_true,Sem.run_bind,p1,p2,h.run h4 d,Result.andThen_ok,Sem.run_ite,Sem.run_pure]
 cases r<;>simp
theorem zu:(Op.eqFields d xs ys []).run P w=.ok true w:=by simp[Op.eqFields]
def Z5(P:Program)(t:TypeId):List Nat->Nat->List Field->Bool
 | [],_,fs=>fs.isEmpty
 | k::ks,o,f::fs=>fOk P f o k&&Z5 P t ks (o+1) fs
 | _::_,_,[]=>false
inductive Em:List Nat->List Value->List Value->Bool->Prop where
 | nil:Em [] [] [] true
 | cons {k:Nat} {ks:List Nat} {u v:Value} {us vs:List Value} {r r2:Bool} (h:vk k u v r) (hs:Em ks us vs r2):Em (k::ks) (u::us) (v::vs) (r&&r2)
theorem W0{t:TypeId}{d:Nat}:∀{ks:List Nat} {us vs:List Value} {r:Bool} {fs:List Field} {o:Nat} {xs ys:List Value},Em ks us vs r->Z5 P t ks o fs=true->xs.drop o=us->ys.drop o=vs ->
  (Op.eqFields (d+1) ⟨xs⟩ ⟨ys⟩ fs).run P w=.ok r w
 | [],_,_,_,fs,_,_,_,h,hs,_,_=>by
  cases h
  cases fs with
  | nil=>exact zu
  | cons f fs=>simp[Z5] at hs
 | k::ks,_,_,_,fs,o,xs,ys,h,hs,hx,hy=>by
  cases h with
  | @cons _ _ u v us vs r r2 h h2 =>
   cases fs with
   | nil=>simp[Z5] at hs
   | cons f fs =>
    simp only[Z5,Bool.and_eq_true] at hs
    have ex:xs[o]?=some u:=by rw[<- List.head?_drop,hx];rfl
    have ey:ys[o]?=some v:=by rw[<- List.head?_drop,hy];rfl
    have hx2:xs.drop (o+1)=us:=by rw[<- List.drop_drop,hx];rfl
    have hy2:ys.drop (o+1)=vs:=by rw[<- List.drop_drop,hy];rfl
    rw[X2 hs.1 (by simpa using ex) (by simpa using ey) h,W0 h2 hs.2 hx2 hy2]
    cases r<;>simp
def Nx(P:Program)(t:TypeId)(ks:List Nat):Bool :=
 (match P.underlying t with
 | some (.struct fs)=>Z5 P t ks 0 fs.toList
 | _=>false)&&!P.stoodInHeld t&&!P.eqGuardType P.depth t
theorem D9{t:TypeId}{ks:List Nat}{us vs:List Value}{r:Bool}(h:Nx P t ks=true)(hv:Em ks us vs r)(d:Nat) :
  (Op.equalIn (d+2) t (.agg ⟨us⟩) (.agg ⟨vs⟩)).run P w=.ok r w/\P.eqGuardType P.depth t=false:=by
 unfold Nx at h;cases hu:P.underlying t with
 | none=>simp[hu] at h
 | some dd=>
  rw[hu] at h;cases dd<;>simp only[Bool.false_and,Bool.false_eq_true] at h;rename_i fs;have hf:P.fieldsOf t=fs:=by simp[Program.fieldsOf,hu]
  simp only[Bool.and_eq_true,Bool.not_eq_true'] at h;refine⟨?_,h.2⟩;rw[run_equalIn_struct w (d+1) t _ _ (by rw[hf];exact hu) h.1.2,hf];exact W0 (o:=0) hv h.1.1 rfl rfl
def Ea(P:Program)(t:TypeId):List Nat->List Nat->Nat->List Field->Bool
 | [],k2,o,[f]=>f.name != "_" && Nat.beq f.offset o&&gX P f.type 2&&Nx P f.type k2
 | k::ks,k2,o,f::fs=>fOk P f o k&&Ea P t ks k2 (o+1) fs
 | _,_,_,_=>false
theorem zR{t:TypeId}(h:gX P t 2=true){cs:List Value}{off:Nat}{u v:Value}(hv:cs.drop off=[u,v])(w:World):(part t ⟨cs⟩ off).run P w=.ok (.agg ⟨[u,v]⟩) w:=by
 obtain⟨dd,hu,hm,hi⟩:=gB h;have hagg:(isAgg t).run P w=.ok true w:=by unfold isAgg;rw[Sem.run_bind,run_underlying hu w];cases dd<;>simp_all
 cases hq':P.info? t with
 | none=>rw[hq'] at hi;simp at hi
 | some i=>
  have hs:i.size=2:=by rw[hq'] at hi;simpa using hi
  simp[part,hagg,Go.sizeOf,typeInfo,hq',hs,hv]
theorem Pk{t:TypeId}{d:Nat}{k2:List Nat}{a1 a2 b1 b2:Value}{r2:Bool}(hn:Em k2 [a1,a2] [b1,b2] r2):∀{ks:List Nat} {us vs:List Value} {r:Bool} {fs:List Field} {o:Nat} {xs ys:List Value},Em ks us vs r->Ea P t ks k2 o fs=true->xs.drop o=us++[a1,a2]->ys.drop o=vs++[b1,b2] ->
  (Op.eqFields (d+2) ⟨xs⟩ ⟨ys⟩ fs).run P w=.ok (r&&r2) w
 | [],_,_,_,fs,o,xs,ys,h,hs,hx,hy=>by
  cases h
  cases fs with
  | nil=>simp[Ea] at hs
  | cons f fs =>
   cases fs with
   | cons g fs=>simp[Ea] at hs
   | nil =>
    simp only[Ea,Bool.and_eq_true,bne_iff_ne,ne_eq] at hs
    obtain⟨⟨⟨h1,h2⟩,h3⟩,h4⟩:=hs
    replace h2:=eJ h2;subst h2;have p1:(part f.type ⟨xs⟩ f.offset).run P w=.ok (.agg ⟨[a1,a2]⟩) w:=zR h3 hx w;have p2:(part f.type ⟨ys⟩ f.offset).run P w=.ok (.agg ⟨[b1,b2]⟩) w:=zR h3 hy w;simp only[Op.eqFields,h1,ne_eq,not_false_eq_true,if_true,Sem.run_bind,p1,p2,(D9 (w:=w) h4 hn d).1,Result.andThen_ok,Sem.run_ite,Sem.run_pure]
    cases r2<;>simp
 | k::ks,_,_,_,fs,o,xs,ys,h,hs,hx,hy=>by
  cases h with
  | @cons _ _ u v us vs r r3 h h2 =>
   cases fs with
   | nil=>simp[Ea] at hs
   | cons f fs =>
    simp only[Ea,Bool.and_eq_true] at hs
    have ex:xs[o]?=some u:=by rw[<- List.head?_drop,hx];rfl
    have ey:ys[o]?=some v:=by rw[<- List.head?_drop,hy];rfl
    have hx2:xs.drop (o+1)=us++[a1,a2]:=by rw[<- List.drop_drop,hx];rfl
    have hy2:ys.drop (o+1)=vs++[b1,b2]:=by rw[<- List.drop_drop,hy];rfl
    rw[X2 hs.1 (by simpa using ex) (by simpa using ey) h,Pk hn h2 hs.2 hx2 hy2]
    cases r<;>simp
def Aw(P:Program)(t:TypeId)(ks k2:List Nat):Bool :=
 (match P.underlying t with
 | some (.struct fs)=>Ea P t ks k2 0 fs.toList
 | _=>false)&&!P.stoodInHeld t&&!P.eqGuardType P.depth t
theorem M5{t:TypeId}{ks k2:List Nat}{us vs:List Value}{a1 a2 b1 b2:Value}{r r2:Bool}(h:Aw P t ks k2=true)(hv:Em ks us vs r)(hn:Em k2 [a1,a2] [b1,b2] r2)(d:Nat) :
  (Op.equalIn (d+3) t (.agg ⟨us++[a1,a2]⟩) (.agg ⟨vs++[b1,b2]⟩)).run P w=.ok (r&&r2) w/\P.eqGuardType P.depth t=false:=by
 unfold Aw at h
 cases hu:P.underlying t with
 | none=>simp[hu] at h
 | some dd =>
  rw[hu] at h
  cases dd<;>simp only[Bool.false_and,Bool.false_eq_true] at h
  rename_i fs
  have hf:P.fieldsOf t=fs:=by simp[Program.fieldsOf,hu]
  simp only[Bool.and_eq_true,Bool.not_eq_true'] at h
  refine⟨?_,h.2⟩
  rw[run_equalIn_struct w (d+2) t _ _ (by rw[hf];exact hu) h.1.2,hf]
  exact Pk (o:=0) hn hv h.1.1 rfl rfl
variable{S:List (Nat×Value)}{G:World->Prop}{d:Nat}{ty t t':TypeId}{pos:String}{af:Array Edge}{gd:Option (Nat×Bool)}{x y:Operand}
instance:DecidableEq Ac:=λ a b=>if h:a.k=b.k/\a.c=b.c/\a.o=b.o/\a.n=b.n then isTrue (by cases a;cases b;simp_all) else isFalse (λ e=>h (by subst e;exact⟨rfl,rfl,rfl,rfl⟩))
instance:DecidableEq Rs:=λ a b=>if h:a.err=b.err/\a.found=b.found/\a.val=b.val/\a.key=b.key/\a.iD=b.iD/\a.ref=b.ref/\a.root=b.root/\a.ro=b.ro then isTrue (by cases a;cases b;simp_all) else isFalse (λ e=>h (by subst e;exact⟨rfl,rfl,rfl,rfl,rfl,rfl,rfl,rfl⟩))
theorem aCL(a b:Rs){t:TypeId}(ht:Aw P t [0,1,0,2,0,0] [0,1]=true)(d:Nat) :
  (Op.equalIn (d+3) t (.agg ⟨a.cells⟩) (.agg ⟨b.cells⟩)).run P w=.ok (decide (a=b)) w/\P.eqGuardType P.depth t=false:=by
 have h:=M5 (w:=w) ht (Em.cons (vk.int .i64 a.err b.err) (.cons (.bool a.found b.found) (.cons (.int .u64 a.val b.val) (.cons (.str a.key b.key) (.cons (.int .i64 a.iD b.iD) (.cons (.int .i64 a.ref b.ref) .nil))))))
  (Em.cons (vk.int .i64 a.root b.root) (.cons (.bool a.ro b.ro) .nil)) d
 have e:((a.err==b.err&&(a.found==b.found&&(a.val==b.val&&(decide (a.key=b.key)&&(a.iD==b.iD&&(a.ref==b.ref&&true))))))&&(a.root==b.root&&(a.ro==b.ro&&true)))=decide (a=b):=by rw[Bool.eq_iff_iff];obtain⟨a1,a2,a3,a4,a5,a6,a7,a8⟩:=a;obtain⟨b1,b2,b3,b4,b5,b6,b7,b8⟩:=b;simp[and_assoc]
 rw[e] at h;exact h
theorem W4{a b:Rs}(hx:ev S x=.agg ⟨a.cells⟩)(hy:ev S y=.agg ⟨b.cells⟩)(ht:Aw P t [0,1,0,2,0,0] [0,1]=true):aH P S G ⟨some d,.binOp .neq t x y t',ty,pos,af,gd⟩ (.bool (!decide (a=b))):=⟨λ w _=>by have h:=aCL (w:=w) a b ht 9997;simp[execOp,hx,hy,run_eqGuard_agg w _ t _ _ _ _ h.2,run_neq_struct,h.1]⟩
end
end
end Go.Ct
namespace Go.Proofs.YthblobahelfefaaGreatDoor
open Go Go.RowKit Go.Ct
section
end
end Go.Proofs.YthblobahelfefaaGreatDoor
namespace Go.Ct
open Go Go.RowKit
section
section
variable{P:Program}
theorem aBI{K:TypeId}{x:Value}(G:Value->Prop)(hq:∀y,G y->∃r:Bool,(∀w,(Op.equal K x y).run P w=.ok r w)/\(r=true↔x=y)):∀(es:List MapEntry) (i:Nat),(∀e∈es,G e.key)->∃r,(∀w,(Instr.findAsking K x es i).run P w=.ok r w)/\((r=none/\∀e∈es,e.key≠x)∨∃j e,r=some (j,e.val)/\e∈es/\e.key=x)
 | [],i,_=>⟨none,λ w=>by simp[Instr.findAsking],.inl ⟨rfl,λ e he=>(List.not_mem_nil he).elim⟩⟩
 | e::es,i,h=>by
  obtain⟨r,hr,hi⟩:=hq e.key (h e (by simp));cases r with
  | true=>exact⟨some (i,e.val),λ w=>by simp[Instr.findAsking,hr w],.inr ⟨i,e,rfl,by simp,(hi.1 rfl).symm⟩⟩
  | false=>
   obtain⟨r,h1,h2⟩:=aBI G hq es (i+1) λ e he=>h e (List.mem_cons_of_mem _ he);refine⟨r,λ w=>by simp[Instr.findAsking,hr w,h1 w],?_⟩;rcases h2 with⟨h2,h3⟩|⟨j,e2,h2,h3,h4⟩
   ·refine .inl ⟨h2,λ e2 he=>?_⟩;rcases List.mem_cons.1 he with rfl|he
    ·exact λ hx=>(by have:=hi.2 hx.symm;cases this)
    ·exact h3 e2 he
   ·exact .inr ⟨j,e2,h2,List.mem_cons_of_mem _ h3,h4⟩
theorem aBo{K:TypeId}{x:Value}(hwide:(match P.underlying K with|some (.array _ _)|some (.struct _)=>true|_=>false)=true)(G:Value->Prop)(hq:∀y,G y->∃r:Bool,(∀w,(Op.equal K x y).run P w=.ok r w)/\(r=true↔x=y))(es:List MapEntry)(h:∀e∈es,G e.key):∃r,(∀w,(Instr.findKey K x es).run P w=.ok r w)/\((r=none/\∀e∈es,e.key≠x)∨∃j e,r=some (j,e.val)/\e∈es/\e.key=x):=by obtain⟨r,h1,h2⟩:=aBI G hq es 0 h;exact⟨r,λ w=>by rw[run_findKey_eq (w:=w) hwide];exact h1 w,h2⟩
end
def bB(f:Nat->Bool)(k:Nat):Nat:=vg (λ j=>if f j=true then some 0 else none) k
variable{n a b i:Nat}
theorem Vd(f:Nat->Bool)(j k:Nat):(bB f k).testBit j=(decide (j<k)&&f j):=by unfold bB;rw[Ws];cases f j<;>rfl
theorem Xf(f:Nat->Bool)(k:Nat):bB f k<2^k:=nz _ k
theorem Nr(f:Nat->Bool)(k:Nat):bB f (k+1)=if f k=true then bB f k ||| 2^k else bB f k:=by unfold bB;simp only[vg];by_cases h:f k=true<;>simp[h]
theorem vW(h:n<4294967296):IntKind.u32.wrap ((n:Nat):Int)=(n:Int):=by simp[IntKind.wrap,IntKind.signed,IntKind.bits];omega
theorem eo(ha:a<4294967296):(BitVec.ofInt 32 ((a:Nat):Int)).toNat=a:=by rw[BitVec.toNat_ofInt];simp only[Nat.reducePow];omega
theorem u5(ha:a<4294967296)(hb:b<4294967296):rOr .u32 (a:Int) (b:Int)=((a ||| b:Nat):Int):=by unfold rOr;show IntKind.u32.wrap ((BitVec.ofInt 32 (a:Int) ||| BitVec.ofInt 32 (b:Int)).toNat:Int)=_;rw[BitVec.toNat_or,eo ha,eo hb,vW (Nat.or_lt_two_pow (n:=32) ha hb)]
theorem lx(ha:a<4294967296)(hb:b<4294967296):mA .u32 (a:Int) (b:Int)=((a &&& b:Nat):Int):=by unfold mA;show IntKind.u32.wrap ((BitVec.ofInt 32 (a:Int) &&& BitVec.ofInt 32 (b:Int)).toNat:Int)=_;rw[BitVec.toNat_and,eo ha,eo hb,vW (Nat.and_lt_two_pow (n:=32) a hb)]
theorem cu(ha:a<4294967296)(hb:b<4294967296):Ae .u32 (a:Int) (b:Int)=((a &&& (4294967295-b):Nat):Int):=by unfold Ae;show IntKind.u32.wrap ((BitVec.ofInt 32 (a:Int) &&& ~~~ BitVec.ofInt 32 (b:Int)).toNat:Int)=_;rw[BitVec.toNat_and,BitVec.toNat_not,eo ha,eo hb];exact vW (Nat.lt_of_le_of_lt Nat.and_le_left ha)
theorem U0(h:i<32):Kd .u32 1 (i:Int)=((2^i:Nat):Int):=by
 unfold Kd;rw[Int.toNat_natCast,show min i IntKind.u32.bits=i from Nat.min_eq_left (Nat.le_of_lt h),Int.one_mul];have:(2:Int)^i=((2^i:Nat):Int):=by simp
 rw[this];refine vW ?_;exact Nat.pow_lt_pow_right (a:=2) (m:=i) (n:=32) (by decide) h
theorem aCW(h:i<32):mG .u32 (a:Int) (i:Int)=((a >>> i:Nat):Int):=by
 unfold mG;rw[Int.toNat_natCast,show min i IntKind.u32.bits=i from Nat.min_eq_left (Nat.le_of_lt h)];have:(2:Int)^i=((2^i:Nat):Int):=by simp
 rw[this,Int.fdiv_eq_ediv_of_nonneg _ (by exact Int.natCast_nonneg _),Nat.shiftRight_eq_div_pow];rfl
theorem Wn(ha:a<4294967296)(h:i<32):mA .u32 (mG .u32 (a:Int) (i:Int)) 1=if a.testBit i=true then 1 else 0:=by rw[aCW h,show(1:Int)=((1:Nat):Int) from rfl,lx (by rw[Nat.shiftRight_eq_div_pow];exact Nat.lt_of_le_of_lt (Nat.div_le_self _ _) ha) (by decide),Nat.testBit_eq_decide_div_mod_eq,Nat.and_one_is_mod,Nat.shiftRight_eq_div_pow];have:=Nat.mod_two_eq_zero_or_one (a/2^i);rcases this with h|h<;>rw[h]<;>simp
theorem L9(ha:a<2^n)(hn:n<=32)(hb:b<4294967296):a &&& (4294967295-b)=0↔∀j,j<n->a.testBit j=true->b.testBit j=true:=by
 have hbit:∀j,j<32->(4294967295-b).testBit j=!b.testBit j:=λ j hj=>by have:=Nat.testBit_two_pow_sub_succ (x:=b) (n:=32) hb j;rw[show 2^32-(b+1)=4294967295-b by omega] at this;rw[this];simp[hj]
 constructor
 ·intro e j hj h1;have h2:(a &&& (4294967295-b)).testBit j=false:=by rw[e];exact Nat.zero_testBit j
  rw[Nat.testBit_and,h1,hbit j (by omega)] at h2;simpa using h2
 ·intro h;refine Nat.eq_of_testBit_eq λ j=>?_;rw[Nat.testBit_and,Nat.zero_testBit];by_cases hj:j<n
  ·cases h1:a.testBit j with
   | false=>rfl
   | true=>rw[hbit j (by omega),h j hj h1];rfl
  ·rw[Nat.testBit_lt_two_pow (Nat.lt_of_lt_of_le ha (Nat.pow_le_pow_right (by decide) (by omega)))];rfl
section
variable{P:Program}{S:List (Nat×Value)}{w0:World}{M:List Nat}{H H':List (Nat×Obj)}{A F:Fr}{O:List Ow}{G:World->Prop}{d:Nat}{ty t t' t2 K E e:TypeId}{pos:String}{af:Array Edge}{gd:Option (Nat×Bool)}{x y z:Operand}{k v ze:Value}{es:List MapEntry}{c i b:Nat}
theorem SF.aEY{w:World}(h:SF w0 M H A F O w){p:Option Addr}{cs ds:List Value}{T:TypeId}{sz:Nat}(ho:mN O i p (cs++ds) c T sz):SF w0 M H A F (eL O i ⟨p,cs,c,T,sz⟩) w:=by
 refine h.sR ho ⟨rfl,rfl,rfl,Nat.le_refl _,λ _ _ _=>rfl⟩ ?_ (λ b hb=>.inl hb) (eN _);rcases(h.own _ ho.mem).1 with⟨h1,h2,h3⟩|⟨b,rest,h1,h2,h3⟩
 ·exact .inl ⟨h1,(List.append_eq_nil_iff.1 h2).1,h3⟩
 ·refine .inr ⟨b,ds++rest,h1,by rw[<- List.append_assoc];exact h2,?_⟩;rw[<- List.append_assoc];exact h3
theorem aw{p a:Option Addr}{m c2:Nat}{cs ys zc:List Value}{sz:Nat}(hx:ev S x=.slice p m c)(hy:ev S y=.slice a 1 c2)(hm:cs.length=m*sz)(hf:pB A F [⟨p,cs,c,e,sz⟩] a ys)(hk:ys.length=sz)(h1:ys.all (·.oneCell')=true)
  (he:cS P t e zc) (hsz:zc.length=sz) (h0:0<sz) (ht2:P.underlying t2=some (.slice e)) (hb:m+1<=549755813888) :
  aQ P S (SF w0 M H A F [⟨p,cs,c,e,sz⟩]) ⟨some d,.call {callee:=.builtin .append,args := #[x,y],argTypes := #[t,t2]},ty,pos,af,gd⟩ (Option Addr×Nat×List Ow) (λ q=>.slice q.1 (m+1) q.2.1)
   (λ q w=>((q.2.2=[]/\q.1=p/\q.2.1=c)∨q.2.2=[⟨p,cs,c,e,sz⟩])/\SF w0 M H A F (⟨q.1,cs++ys,q.2.1,e,sz⟩::q.2.2) w):=⟨λ w hw=>by
 obtain⟨inf,zz,hi,hz,hzc,hs,hbytes⟩:=he.z;have hev:lX S [x,y]=[.slice p m c,.slice a 1 c2]:=by simp[lX,hx,hy]
 have hown:=(hw.own _ (List.mem_singleton.2 rfl)).1;have hcl:=hw.cl hf;have hss:inf.size=sz:=by omega
 have hone:∀u∈ys,u.oneCell'=true:=by simpa using h1
 have hap:=hcl.ptr (by omega);have hsrc:Src P inf.size t2 (.slice a 1 c2) 1 ys w:=by rw[hap];exact Src.ofSlice w ht2 ⟨cI a,dH a,none⟩ 1 c2 ys (by rw[hk,hss,Nat.one_mul]) hcl.cells hone
 have grow:∀olds:List Value,(Builtin.firstCells inf.size m (.slice p m c)).run P w.drew=.ok olds.toArray w.drew->olds=cs->c<m+1 ->
   pa P (Option Addr×Nat×List Ow) (λ q=>.slice q.1 (m+1) q.2.1) (λ q w=>((q.2.2=[]/\q.1=p/\q.2.1=c)∨q.2.2=[⟨p,cs,c,e,sz⟩])/\SF w0 M H A F (⟨q.1,cs++ys,q.2.1,e,sz⟩::q.2.2) w) ((execOp (ev S) ⟨some d,.call {callee:=.builtin .append,args := #[x,y],argTypes := #[t,t2]},ty,pos,af,gd⟩).run P w):=by
  intro olds hold heq hlt
  subst heq
  have hr:=run_append_grow_src (P:=P) w t t2 ty e inf zz he.sl hi hz p m c olds hold (.slice a 1 c2) 1 ys hsrc hlt (by omega) (growslice_fits hlt (by
   have:(m+1)*inf.bytes<=549755813888*256:=Nat.mul_le_mul hb hbytes
   omega))
  rw[nW hev hr];have hcap:m+1<=grownCap w (m+1) c e:=grownCap_ge w (m+1) c e;refine⟨(some ⟨w.heap.size,0,none⟩,grownCap w (m+1) c e,[⟨p,olds,c,e,sz⟩]),rfl,.inr rfl,hw.Gv ((pY w _).mono (by simp)) (.inr ⟨w.heap.size,(Builtin.zeroCells zz.cells (grownCap w (m+1) c e-(m+1))).toList,rfl,?_,?_⟩) (λ b hb=>?_) (eN _)⟩
  ·have:=heap_alloc_new w.drew (.cells ((olds++ys).toArray++Builtin.zeroCells zz.cells (grownCap w (m+1) c e-(m+1))) e);simp only[] at this ⊢
   rw[show(⟨olds++ys++(Builtin.zeroCells zz.cells (grownCap w (m+1) c e-(m+1))).toList⟩:Array Value)=(olds++ys).toArray++Builtin.zeroCells zz.cells (grownCap w (m+1) c e-(m+1)) from by apply Array.ext';simp]
   exact this
  ·have hzl:(Builtin.zeroCells zz.cells (grownCap w (m+1) c e-(m+1))).size=(grownCap w (m+1) c e-(m+1))*sz:=by
    rw[size_zeroCells,hzc]
    simp[hsz]
   simp only[List.length_append,Array.length_toList,hzl,hm,hk]
   rw[<- Nat.succ_mul,<- Nat.add_mul]
   congr 1
   omega
  ·simp only[fV,List.mem_singleton] at hb
   omega
 rcases hown with⟨h1,e2,h3⟩|⟨b,rest,h1,h2,h3⟩
 ·simp only at h1 e2 h3;subst h1 e2 h3;have hm0:m=0:=by
   rcases Nat.eq_zero_or_pos m with h|h;·exact h
   ·have:=Nat.mul_pos h h0;simp at hm;omega
  subst hm0;exact grow [] E0x rfl (by omega)
 ·simp only at h1 h2 h3;subst h1;by_cases hroom:m+1<=c
  ·have hfit:m*inf.size+ys.length<=(⟨cs++rest⟩:Array Value).size:=by show _<=(cs++rest).length;rw[h3,hk,hss,<- Nat.succ_mul];exact Nat.mul_le_mul_right _ hroom
   have hr:=run_append_room (P:=P) w t ty e inf he.sl hi b m c ⟨cs++rest⟩ h2 ⟨cI a,dH a,none⟩ 1 c2 ys (by rw[hk,hss,Nat.one_mul]) hcl.cells hone hroom hfit;have hr':(Builtin.append_ #[t,t2] ty ⟨[.slice (some ⟨b,0,none⟩) m c,.slice a 1 c2]⟩).run P w=.ok (.slice (some ⟨b,0,none⟩) (m+1) c) (w.setRow b ((cs++rest).take (m*inf.size)++ys++(cs++rest).drop (m*inf.size+ys.length)).toArray):=by
    rw[<- hap] at hr;have e2:∀(tt:TypeId),P.underlying tt=some (.slice e)->(Builtin.append_ #[t,tt] ty ⟨[.slice (some ⟨b,0,none⟩) m c,.slice a 1 c2]⟩).run P w=(Builtin.append_ #[t,t] ty #[.slice (some ⟨b,0,none⟩) m c,.slice a 1 c2]).run P w:=λ tt htt=>by simp[Builtin.append_,run_underlying htt,run_underlying he.sl]
    rw[e2 t2 ht2,hr]
   rw[nW hev hr'];have hlen:m*inf.size=cs.length:=by rw[hm,hss]
   have hrow:(cs++rest).take (m*inf.size)++ys++(cs++rest).drop (m*inf.size+ys.length)=cs++ys++rest.drop ys.length:=by rw[hlen,List.take_left,List.drop_append];simp
   rw[hrow];refine⟨(some ⟨b,0,none⟩,c,[]),rfl,.inl ⟨rfl,rfl,rfl⟩,hw.sR (i:=0) .head (oQ w b _) (o':=⟨some ⟨b,0,none⟩,cs++ys,c,e,sz⟩) (.inr ⟨b,rest.drop ys.length,rfl,setRow_heap w b ⟨cs++rest⟩ _ e (0,0) h2,?_⟩) (λ b hb=>.inl hb) (eN _)⟩;have h4:(cs++rest).length=c*sz:=h3;simp only[List.length_append,List.length_drop] at h4 ⊢
   have:(m+1)*sz<=c*sz:=Nat.mul_le_mul_right _ hroom;rw[Nat.succ_mul] at this;omega
  ·refine grow cs ?_ rfl (by omega);have hclp:Cl w.drew (some ⟨b,0,none⟩) cs:=⟨(Cl.block (pre:=[]) (rest:=rest) (w:=w) (by simpa using h2) rfl).at_⟩
   exact run_firstCells_some w.drew inf.size m ⟨b,0,none⟩ m c cs (by rw[hm,hss]) hclp.cells⟩
end
end
end Go.Ct

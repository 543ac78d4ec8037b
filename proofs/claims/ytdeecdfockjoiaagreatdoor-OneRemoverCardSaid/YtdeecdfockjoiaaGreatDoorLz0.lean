/- Merged. -/
import Derived.Test.YtdeecdfockjoiaaGreatDoorMp2
import Derived.Test.YtdeecdfockjoiaaGreatDoorGl1
import Derived.Test.YtdeecdfockjoiaaGreatDoorGa
import Derived.Laws.BytesString
set_option linter.unusedSimpArgs false
set_option linter.unusedVariables false
namespace Go.Ct
open Go Go.RowKit
section
variable{P:Program}{S:List (Nat×Value)}{w0:World}{M:List Nat}{H H':List (Nat×Obj)}{A F:Fr}{O:List Ow}{G:World->Prop}{d:Nat}{ty t t' t2 K E e:TypeId}{pos:String}{af:Array Edge}{gd:Option (Nat×Bool)}{x y z:Operand}{k v ze:Value}{es:List MapEntry}{c i b:Nat}
variable{r:Option (Nat×Value)}{m:Nat}{cs:List Value}
theorem ak{w:World}(ha:w.heap[b]?=some (cQ es c))(hu:P.underlying t=some (.map K E))(hck:∀e,(Instr.checkKey e 10000 K k).run P w=.ok () w)(hr:(Instr.findKey K k es).run P w=.ok r w)(hz:cH P E=some ze)(ok:Bool) :
  (Instr.lookup t (.map (some b)) k ok).run P w=.ok (if ok then .tuple #[(r.map Prod.snd).getD ze,.bool r.isSome] else(r.map Prod.snd).getD ze) w:=by
 unfold Instr.lookup;simp only[Sem.run_bind,run_underlying hu,Result.andThen,Go.MapKept.run_getObj_map ha,hck];cases r with
 | none=>cases ok<;>simp[hck,hr,Ar hz,Result.andThen]
 | some q=>cases ok<;>simp[hck,hr,Result.andThen]
theorem Qs(hx:ev S x=.map (some b))(hy:ev S y=k)(ha:At H i b (cQ es c))(hu:P.underlying t=some (.map K E))(hck:∀e w,(Instr.checkKey e 10000 K k).run P w=.ok () w)(hr:∀w,(Instr.findKey K k es).run P w=.ok r w)(hz:cH P E=some ze) :
  aN P S (St w0 M H) ⟨some d,.lookup t x y false,ty,pos,af,gd⟩ ((r.map Prod.snd).getD ze):=⟨λ w hw=>by simp[execOp,hx,hy,ak (hw.at ha) hu (λ e=>hck e w) (hr w) hz false]⟩
theorem aAS(hx:ev S x=.map (some b))(hy:ev S y=k)(hz:ev S z=v)(ha:At H i b (cQ es c))(hu:P.underlying t=some (.map K E))(hck:∀e w,(Instr.checkKey e 10000 K k).run P w=.ok () w)(hr:∀w,(Instr.findKey K k es).run P w=.ok none w)(hH:setAt H i (cQ (es++[⟨k,v,c⟩]) (c+1))=H') :
  aW P S (St w0 M H) ⟨none,.mapUpdate t x y z,ty,pos,af,gd⟩ Unit (λ _=>undef) (λ _=>St w0 M H') :=
 lK λ w hw=>by
  subst hH;have hb:=hw.at ha;obtain⟨h1,h2⟩:=MapKept.heap_set (o':=cQ (es++[⟨k,v,c⟩]) (c+1)) hb
  have hrun:(Instr.mapUpdate t (.map (some b)) k v).run P w=.ok () {w with heap:=w.heap.setIfInBounds b (cQ (es++[⟨k,v,c⟩]) (c+1))}:=by unfold Instr.mapUpdate;simp only[Sem.run_bind,run_underlying hu,Result.andThen,MapKept.run_getObj_map hb,hck];simp[hr,Result.andThen,MapKept.run_setObj_map _ hb]
  exact⟨{w with heap:=w.heap.setIfInBounds b (cQ (es++[⟨k,v,c⟩]) (c+1))},by simp[execOp,hx,hy,hz,hrun],hw.write ha rfl rfl rfl (by simp) (λ k hk=>h2 k hk) h1⟩
theorem Xk{r since:Nat}{seen:Array Nat}{i2:Nat}{e:MapEntry}(hx:ev S x=.pointer (some ⟨r,0,none⟩))(ha:At H i r (.mapIter (some m) since (seen.push e.born) c))(hm:At H i2 m (cQ es c))(he:e∈es)(hn:(es.map (·.born)).Nodup) :
  aN P S (St w0 M H) ⟨some d,.entry x,ty,pos,af,gd⟩ (.tuple #[e.key,e.val]):=⟨λ w hw=>by have:=run_entry_at (P:=P) w r m since seen ⟨es⟩ c e (hw.at ha) (hw.at hm) he hn;simp[execOp,hx,this]⟩
theorem zE{n k:Nat}{kk:IntKind}(hx:ev S x=.agg ⟨cs⟩)(hy:ev S y=.int kk ((k:Nat):Int))(ht:P.underlying t=some (.array n e))(hs:one P e=true)(hk:k<n)(hv:cs[k]?=some v) :
  aN P S G ⟨some d,.index t x y,ty,pos,af,gd⟩ v:=⟨λ w _=>by
 have hsz:(P.info? e).map (·.size)=some 1:=by
  unfold one at hs;cases hi:P.info? e with
  | none=>simp[hi] at hs
  | some i=>
   cases hu:P.underlying e with
   | none=>simp[hi,hu] at hs
   | some dd=>simp only[hi,hu,Bool.and_eq_true,beq_iff_eq] at hs;simp[hs.1]
 cases hi:P.info? e with
 | none=>rw[hi] at hsz;simp at hsz
 | some info=>rw[hi] at hsz;simp only[Option.map_some,Option.some.injEq] at hsz;have hp:=lJ (P:=P) hs (cs:=⟨cs⟩) (off:=k) (v:=v) (by simpa using hv) w;simp[execOp,hx,hy,Instr.index,asIntOf,run_underlying ht,Go.sizeOf,typeInfo,hi,hsz,hk,hp,Result.andThen]⟩
theorem dg{p:Option Addr}{zc:List Value}{s:ByteArray}(hx:ev S x=.slice p m c)(hy:ev S y=.string s)(ho:rM O i p cs c e 1)(hm:cs.length=m)(hk0:0<s.size)(he:dU P t e zc)(hsz:zc.length=1)(ht2:P.underlying t2=some .string)(hb:m+s.size<=549755813888) :
  aW P S (SF w0 M H A F O) ⟨some d,.call {callee:=.builtin .append,args := #[x,y],argTypes := #[t,t2]},ty,pos,af,gd⟩ (Option Addr×Nat) (λ q=>.slice q.1 (m+s.size) q.2)
   (λ q w=>m+s.size<=q.2/\SF w0 M H A F (gU O i ⟨q.1,cs++byteCells s,q.2,e,1⟩) w):=⟨λ w hw=>by
 obtain⟨inf,zz,hi,hz,hzc,hs,hbytes⟩:=he.z;have hev:nZ S [x,y]=[.slice p m c,.string s]:=by simp[nZ,hx,hy]
 have hown:=(hw.own _ ho.mem).1;have hss:inf.size=1:=by omega
 have hyl:=byteCells_length s;have hsrc:Src P inf.size t2 (.string s) s.size (byteCells s) w:=by rw[hss];exact Src.ofString w ht2 s
 have grow:∀olds:List Value,(Builtin.firstCells inf.size m (.slice p m c)).run P w.drew=.ok olds.toArray w.drew->olds=cs->c<m+s.size ->
   pu P (Option Addr×Nat) (λ q=>.slice q.1 (m+s.size) q.2) (λ q w=>m+s.size<=q.2/\SF w0 M H A F (gU O i ⟨q.1,cs++byteCells s,q.2,e,1⟩) w) ((execOp (ev S) ⟨some d,.call {callee:=.builtin .append,args := #[x,y],argTypes := #[t,t2]},ty,pos,af,gd⟩).run P w):=by
  intro olds hold heq hlt
  subst heq
  have hr:=run_append_grow_src (P:=P) w t t2 ty e inf zz he.sl hi hz p m c olds hold (.string s) s.size (byteCells s) hsrc hlt (by omega) (growslice_fits hlt (by
   have:(m+s.size)*inf.bytes<=549755813888*256:=Nat.mul_le_mul hb hbytes
   omega))
  rw[wL hev hr];have hcap:m+s.size<=grownCap w (m+s.size) c e:=grownCap_ge w (m+s.size) c e;refine⟨(some ⟨w.heap.size,0,none⟩,grownCap w (m+s.size) c e),rfl,hcap,hw.yX ho ((yU w _).mono (by simp)) (.inr ⟨w.heap.size,(Builtin.zeroCells zz.cells (grownCap w (m+s.size) c e-(m+s.size))).toList,rfl,?_,?_⟩) (λ b hb=>.inr ?_) (iM _)⟩
  ·have:=heap_alloc_new w.drew (.cells ((olds++byteCells s).toArray++Builtin.zeroCells zz.cells (grownCap w (m+s.size) c e-(m+s.size))) e);simp only[] at this ⊢
   rw[show(⟨olds++byteCells s++(Builtin.zeroCells zz.cells (grownCap w (m+s.size) c e-(m+s.size))).toList⟩:Array Value)=(olds++byteCells s).toArray++Builtin.zeroCells zz.cells (grownCap w (m+s.size) c e-(m+s.size)) from by apply Array.ext';simp]
   exact this
  ·have hzl:(Builtin.zeroCells zz.cells (grownCap w (m+s.size) c e-(m+s.size))).size=(grownCap w (m+s.size) c e-(m+s.size))*1:=by
    rw[size_zeroCells,hzc]
    simp[hsz]
   simp only[List.length_append,Array.length_toList,hzl,hm,hyl]
   omega
  ·simp only[iC,List.mem_singleton] at hb
   omega
 rcases hown with⟨rfl,e2,rfl⟩|⟨b,rest,rfl,h2,h3⟩
 ·simp only at e2;subst e2;have hm0:m=0:=by simpa using hm.symm
  subst hm0;exact grow [] (by simpa using run_firstCells_none w.drew inf.size 0 0 0) rfl (by omega)
 ·simp only at h2 h3;by_cases hroom:m+s.size<=c
  ·have hlr:(cs++rest).length=c:=by rw[h3,Nat.mul_one]
   have hst:=run_storeCells_at (P:=P) b m e (byteCells s) 0 ⟨cs++rest⟩ w h2 (by simp only[Nat.add_zero];show m+(byteCells s).length<=(cs++rest).length;rw[hlr,hyl];exact hroom) hsrc.one;simp only[Nat.add_zero] at hst;have hr:(Builtin.append_ #[t,t2] ty ⟨[.slice (some ⟨b,0,none⟩) m c,.string s]⟩).run P w=.ok (.slice (some ⟨b,0,none⟩) (m+s.size) c) (w.setRow b ⟨(cs++rest).take m++byteCells s++(cs++rest).drop (m+(byteCells s).length)⟩):=by simp[Builtin.append_,run_underlying he.sl,run_underlying ht2,sizeOf,typeInfo,hi,hsrc.len,hroom,firstCells_string s w,Addr.add_lit,hss,hst,Result.andThen]
   rw[wL hev hr];have hrow:(cs++rest).take m++byteCells s++(cs++rest).drop (m+(byteCells s).length)=cs++byteCells s++rest.drop (byteCells s).length:=by rw[<- hm,List.take_left,List.drop_append];simp
   rw[hrow];refine⟨(some ⟨b,0,none⟩,c),rfl,hroom,hw.yX ho (tU w b _) (.inr ⟨b,rest.drop (byteCells s).length,rfl,setRow_heap w b ⟨cs++rest⟩ _ e (0,0) h2,?_⟩) (λ b hb=>.inl hb) (iM _)⟩;simp only[List.length_append,List.length_drop] at hlr ⊢;omega
  ·refine grow cs ?_ rfl (by omega);have hclp:Cl w.drew (some ⟨b,0,none⟩) cs:=⟨(Cl.block (pre:=[]) (rest:=rest) (w:=w) (by simpa using h2) rfl).at_⟩
   exact run_firstCells_some w.drew inf.size m ⟨b,0,none⟩ m c cs (by rw[hm,hss,Nat.mul_one]) hclp.cells⟩
theorem Jc{a:Option Addr}{ns:List Int}(hx:ev S x=.slice a m c)(hf:qC A F O a (ns.map (Value.int .u8)))(hm:ns.length=m)(h0:0<m)(hs:P.underlying t=some (.slice e))(he:P.underlying e=some (.int .u8))(hd:P.underlying t2=some .string) :
  aW P S (SF w0 M H A F O) ⟨some d,.convert t t2 x,ty,pos,af,gd⟩ ByteArray Value.string (λ _=>SF w0 M H A F O) :=
 gS λ w hw=>by
  have hcl:=hw.cl hf;have hap:a=some ⟨dJ a,eQ a,none⟩:=hcl.ptr (by simp[hm];omega)
  have hlc:(loadCells ⟨dJ a,eQ a,none⟩ m).run P w=.ok (ns.map (Value.int .u8)).toArray w:=by have:=run_loadCells_list (P:=P) w ⟨dJ a,eQ a,none⟩ (ns.map (Value.int .u8)) hcl.cells;rwa [List.length_map,hm] at this
  refine⟨ns.foldl (λ r n=>r.push (UInt8.ofNat n.toNat)) ByteArray.empty,w,?_,hw⟩;have h1:=run_convert_bytes_string (P:=P) w t t2 e a m c hs he hd;rw[hap] at h1 hx;simp only[execOp,hx,Sem.run_bind,h1,run_bytesToString w _ m c ns hlc,Result.andThen]
  rfl
end
end Go.Ct

/- Merged. -/
import Derived.Test.YthblobahelfefaaGreatDoorFz
import Derived.Test.YthblobahelfefaaGreatDoorDraw
import Derived.MapKept
import Derived.Maps.RangeRun
set_option linter.unusedSimpArgs false
set_option linter.unusedVariables false
namespace Go.Ct
open Go Go.RowKit
abbrev bV(es:List MapEntry)(c:Nat):Obj:=.map ⟨es⟩ c
section
variable{P:Program}{S:List (Nat×Value)}{w0:World}{M:List Nat}{H H':List (Nat×Obj)}{d:Nat}{ty t K E:TypeId}{pos:String}{af:Array Edge}{gd:Option (Nat×Bool)}{x y z:Operand}{dK:TypeDesc}{k v ze:Value}{es:List MapEntry}{c i b:Nat}
variable{r:Option (Nat×Value)}{w:World}{j m since c0 i2:Nat}{u:Value}{seen:Array Nat}
theorem lU:aQ P S (St w0 M H) ⟨some d,.makeMap t none,ty,pos,af,gd⟩ Nat (λ b=>.map (some b)) (λ b=>St w0 M ((b,bV [] 0)::H)) :=fE λ w hw=>⟨w.heap.size,_,by simp[execOp,run_makeMap],hw.alloc _⟩
theorem I4{n:Int}(hx:ev S x=.int .i64 n)(hu:P.underlying t=some (.map K E)):aQ P S (St w0 M H) ⟨some d,.makeMap t (some x),ty,pos,af,gd⟩ Nat (λ b=>.map (some b)) (λ b=>St w0 M ((b,bV [] 0)::H)) :=
 fE λ w hw=>⟨w.heap.size,_,by simp[execOp,hx,Instr.makeMap,run_underlying hu,asInt,newObj,Sem.run,Result.andThen];rfl,hw.alloc _⟩
theorem Xj(hx:ev S x=.map (some b))(hy:ev S y=k)(ha:At H i b (bV es c))(hu:P.underlying t=some (.map K E))(hd:P.underlying K=some dK)(hk:Go.MapKept.IsKey dK k)(hz:bR P E=some ze)(hr:Instr.findNow dK k es 0=some r)(ok:Bool) :
  aH P S (St w0 M H) ⟨some d,.lookup t x y ok,ty,pos,af,gd⟩ (if ok then .tuple #[(r.map Prod.snd).getD ze,.bool r.isSome] else(r.map Prod.snd).getD ze):=⟨λ w hw=>by
 have hb:=hw.at ha;have e:(Instr.lookup t (.map (some b)) k ok).run P w=.ok (if ok then .tuple #[(r.map Prod.snd).getD ze,.bool r.isSome] else(r.map Prod.snd).getD ze) w:=by
  unfold Instr.lookup;simp only[Sem.run_bind,run_underlying hu,Result.andThen,Go.MapKept.run_getObj_map hb,Go.MapKept.run_checkKey hd hk,Go.MapKept.run_findKey hd hr];cases r with
  | none=>cases ok<;>simp[MapKept.run_findKey hd hr,Ad hz,Result.andThen]
  | some q=>cases ok<;>simp[MapKept.run_findKey hd hr,Result.andThen]
 simp[execOp,hx,hy,e]⟩
theorem iO(hx:ev S x=.map (some b))(hy:ev S y=k)(ha:At H i b (bV es c))(hu:P.underlying t=some (.map K E))(hd:P.underlying K=some dK)(hk:MapKept.IsKey dK k)(hz:bR P E=some ze)(hr:Instr.findNow dK k es 0=some r) :
  aH P S (St w0 M H) ⟨some d,.lookup t x y true,ty,pos,af,gd⟩ (.tuple #[(r.map Prod.snd).getD ze,.bool r.isSome]):=Xj hx hy ha hu hd hk hz hr true
theorem Py(hx:ev S x=.map (some b))(hy:ev S y=k)(ha:At H i b (bV es c))(hu:P.underlying t=some (.map K E))(hd:P.underlying K=some dK)(hk:MapKept.IsKey dK k)(hz:bR P E=some ze)(hr:Instr.findNow dK k es 0=some r) :
  aH P S (St w0 M H) ⟨some d,.lookup t x y false,ty,pos,af,gd⟩ ((r.map Prod.snd).getD ze):=Xj hx hy ha hu hd hk hz hr false
theorem G6(hb:w.heap[b]?=some (bV es c))(hu:P.underlying t=some (.map K E))(hd:P.underlying K=some dK)(hk:MapKept.IsKey dK k)(hr:Instr.findNow dK k es 0=some none) :
  (Instr.mapUpdate t (.map (some b)) k v).run P w=.ok () {w with heap:=w.heap.setIfInBounds b (bV (es++[⟨k,v,c⟩]) (c+1))}:=by unfold Instr.mapUpdate;simp only[Sem.run_bind,run_underlying hu,Result.andThen,MapKept.run_getObj_map hb,MapKept.run_checkKey hd hk];simp[MapKept.run_findKey hd hr,Result.andThen,MapKept.run_setObj_map _ hb]
theorem Mb(hx:ev S x=.map (some b))(hy:ev S y=k)(hz:ev S z=v)(ha:At H i b (bV es c))(hu:P.underlying t=some (.map K E))(hd:P.underlying K=some dK)(hk:MapKept.IsKey dK k)(hr:Instr.findNow dK k es 0=some none)(hH:setAt H i (bV (es++[⟨k,v,c⟩]) (c+1))=H') :
  aQ P S (St w0 M H) ⟨none,.mapUpdate t x y z,ty,pos,af,gd⟩ Unit (λ _=>undef) (λ _=>St w0 M H') :=
 kE λ w hw=>by subst hH;have hb:=hw.at ha;obtain⟨h1,h2⟩:=MapKept.heap_set (o':=bV (es++[⟨k,v,c⟩]) (c+1)) hb;exact⟨{w with heap:=w.heap.setIfInBounds b (bV (es++[⟨k,v,c⟩]) (c+1))},by simp[execOp,hx,hy,hz,G6 hb hu hd hk hr],hw.write ha rfl rfl rfl (by simp) (λ k hk=>h2 k hk) h1⟩
theorem T4{e:MapEntry}(hb:w.heap[b]?=some (bV es c))(hu:P.underlying t=some (.map K E))(hd:P.underlying K=some dK)(hk:MapKept.IsKey dK k)(hr:Instr.findNow dK k es 0=some (some (j,u)))(he:es[j]?=some e)(ek:e.key=k) :
  (Instr.mapUpdate t (.map (some b)) k v).run P w=.ok () {w with heap:=w.heap.setIfInBounds b (bV (es.set j ⟨k,v,e.born⟩) c)}:=by
 have hj:j<es.length:=(List.getElem?_eq_some_iff.1 he).1;have he2:es[j]=e:=(List.getElem?_eq_some_iff.1 he).2;have hm:es.modify j (λ e=>{key:=k,val:=v,born:=e.born})=es.set j ⟨k,v,e.born⟩:=by
  apply List.ext_getElem?;intro q;rw[List.getElem?_modify,List.getElem?_set];by_cases h:j=q;·subst h;simp[hj,he,he2]
  ·simp[h]
 unfold Instr.mapUpdate;simp only[Sem.run_bind,run_underlying hu,Result.andThen,MapKept.run_getObj_map hb,MapKept.run_checkKey hd hk];simp[MapKept.run_findKey hd hr,Result.andThen,he,ek,MapKept.run_keyThatStays hk,hm,MapKept.run_setObj_map _ hb]
theorem mw{e:MapEntry}(hx:ev S x=.map (some b))(hy:ev S y=k)(hz:ev S z=v)(ha:At H i b (bV es c))(hu:P.underlying t=some (.map K E))(hd:P.underlying K=some dK)(hk:MapKept.IsKey dK k)(hr:Instr.findNow dK k es 0=some (some (j,u)))(he:es[j]?=some e)(ek:e.key=k)(hH:setAt H i (bV (es.set j ⟨k,v,e.born⟩) c)=H') :
  aQ P S (St w0 M H) ⟨none,.mapUpdate t x y z,ty,pos,af,gd⟩ Unit (λ _=>undef) (λ _=>St w0 M H') :=
 kE λ w hw=>by subst hH;have hb:=hw.at ha;obtain⟨h1,h2⟩:=MapKept.heap_set (o':=bV (es.set j ⟨k,v,e.born⟩) c) hb;exact⟨{w with heap:=w.heap.setIfInBounds b (bV (es.set j ⟨k,v,e.born⟩) c)},by simp[execOp,hx,hy,hz,T4 hb hu hd hk hr he ek],hw.write ha rfl rfl rfl (by simp) (λ k hk=>h2 k hk) h1⟩
theorem ga(hx:ev S x=.map (some b))(ha:At H i b (bV es c))(hu:P.underlying t=some (.map K E)):aH P S (St w0 M H) ⟨some d,.call {callee:=.builtin .len,args := #[x],argTypes := #[t]},ty,pos,af,gd⟩ (.int .i64 es.length):=⟨λ w hw=>by have hb:=hw.at ha;simp[execOp,resolve,invoke,builtin,hx,Builtin.len_,run_underlying hu,goInt,MapKept.run_getObj_map hb,Result.andThen]⟩
theorem Qy(hx:ev S x=.map (some b))(ha:At H i b (bV es c))(hu:P.underlying t=some (.map K E)):aQ P S (St w0 M H) ⟨some d,.range t x,ty,pos,af,gd⟩ Nat (λ r=>.pointer (some ⟨r,0,none⟩)) (λ r=>St w0 M ((r,.mapIter (some b) c #[] c)::H)) :=fE λ w hw=>⟨w.heap.size,_,by simp[execOp,hx,run_range_map w t K E b _ _ hu (hw.at ha),Result.andThen],hw.alloc _⟩
theorem mb{r:Nat}(hx:ev S x=.pointer (some ⟨r,0,none⟩))(ha:At H i r (.mapIter (some m) since seen c0))(hm:At H i2 m (bV es c))(hold:∀x∈es,x.born<since)(hsc:since<=c0)(hl:(leftOf ⟨es⟩ seen).size=0):aH P S (St w0 M H) ⟨some d,.next x false,ty,pos,af,gd⟩ (.tuple #[.bool false]):=⟨λ w hw=>by
 rcases run_next_at (P:=P) w ty r m since c0 seen ⟨es⟩ c (hw.at ha) (hw.at hm) hold hsc with⟨_,h⟩|⟨e,he,_⟩;·simp[execOp,hx,h,Result.andThen]
 ·rw[Array.eq_empty_of_size_eq_zero hl] at he;simp at he⟩
theorem tr{r:Nat}{e:MapEntry}(hx:ev S x=.pointer (some ⟨r,0,none⟩))(ha:At H i r (.mapIter (some m) since seen c0))(hm:At H i2 m (bV es c))(hold:∀x∈es,x.born<since)(hsc:since<=c0)(hl:leftOf ⟨es⟩ seen = #[e])(hH:setAt H i (.mapIter (some m) since (seen.push e.born) c)=H') :
  aQ P S (St w0 M H) ⟨some d,.next x false,ty,pos,af,gd⟩ Unit (λ _=>.tuple #[.bool true,e.key,e.val]) (λ _=>St w0 M H') :=
 fE λ w hw=>by
  subst hH;rcases run_next_at (P:=P) w ty r m since c0 seen ⟨es⟩ c (hw.at ha) (hw.at hm) hold hsc with⟨h0,_⟩|⟨e',he,w1,h1,h⟩;·rw[hl] at h0;cases h0
  ·rw[hl] at he;have he':e'=e:=by simpa using he
   subst he';have hw1:St w0 M H w1:=by
    rcases h1 with h1|h1;·rw[h1];exact hw
    ·rw[h1];exact hw.drew
   obtain⟨g1,g2⟩:=MapKept.heap_set (o':=.mapIter (some m) since (seen.push e'.born) c) (hw1.at ha);exact⟨(),ChangeMaps.setBlock w1 r (.mapIter (some m) since (seen.push e'.born) c),by simp[execOp,hx,h,Result.andThen],hw1.write ha rfl rfl rfl (by simp[ChangeMaps.setBlock]) (λ k hk=>g2 k hk) g1⟩
end
end Go.Ct

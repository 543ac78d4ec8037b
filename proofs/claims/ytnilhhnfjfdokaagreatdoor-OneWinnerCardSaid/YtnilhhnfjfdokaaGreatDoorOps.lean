/- The engine, part 2: what is known of the world (St), and a rule for each kind of operation. Nothing of the program is named here. -/
import Derived.Test.YtnilhhnfjfdokaaGreatDoorEng
set_option linter.unusedSimpArgs false
set_option linter.unusedVariables false
namespace Go.Ct
open Go Go.RowKit
structure St(w0:World)(M:List Nat)(H:List (Nat×Obj))(w:World):Prop where
 os:w.os=w0.os
 tape:w.tape=w0.tape
 output:w.output=w0.output
 size:w0.heap.size<=w.heap.size
 iL:∀b,b<w0.heap.size->b∉M->w.heap[b]?=w0.heap[b]?
 has:∀p∈H,w.heap[p.1]?=some p.2
 new:∀p∈H,p.1∈M∨w0.heap.size<=p.1
 nodup:(H.map Prod.fst).Nodup
theorem iA{w:World}{b:Nat}{o:Obj}(h:w.heap[b]?=some o):b<w.heap.size:=(Array.getElem?_eq_some_iff.1 h).1
theorem St.refl(w:World):St w [] [] w:=⟨rfl,rfl,rfl,Nat.le_refl _,λ _ _ _=>rfl,λ _ h=>(List.not_mem_nil h).elim,λ _ h=>(List.not_mem_nil h).elim,List.nodup_nil⟩
theorem St.below{w0 w:World}{H:List (Nat×Obj)}(h:St w0 [] H w):Below w0.heap.size w0 w :=
 ⟨h.os,h.tape,h.output,h.size,λ k hk=>h.iL k hk (by simp)⟩
theorem St.sub{w0 w:World}{M:List Nat}{H H':List (Nat×Obj)}(h:St w0 M H w)(hs:H'.Sublist H):St w0 M H' w :=
 ⟨h.os,h.tape,h.output,h.size,h.iL,λ p hp=>h.has p (hs.subset hp),λ p hp=>h.new p (hs.subset hp),h.nodup.sublist (hs.map _)⟩
theorem St.alloc{w0 w:World}{M:List Nat}{H:List (Nat×Obj)}(h:St w0 M H w)(o:Obj):St w0 M ((w.heap.size,o)::H) (w.alloc o):=by
 refine⟨h.os,h.tape,h.output,Nat.le_trans h.size (by simp),λ b hb hM=>?_,λ p hp=>?_,λ p hp=>?_,?_⟩
 ·rw[heap_alloc_old w o (Nat.lt_of_lt_of_le hb h.size)];exact h.iL b hb hM
 ·rcases List.mem_cons.1 hp with rfl|hp
  ·exact heap_alloc_new w o
  ·have:=h.has p hp
   rw[heap_alloc_old w o (iA this)];exact this
 ·rcases List.mem_cons.1 hp with rfl|hp
  ·exact .inr h.size
  ·exact h.new p hp
 ·simp only[List.map_cons,List.nodup_cons]
  refine⟨λ hm=>?_,h.nodup⟩
  obtain⟨p,hp,he⟩:=List.mem_map.1 hm
  have:=iA (h.has p hp)
  omega
inductive At:List (Nat×Obj)->Nat->Nat->Obj->Prop where
 | head {b:Nat} {o:Obj} {H:List (Nat×Obj)}:At ((b,o)::H) 0 b o
 | tail {p:Nat×Obj} {H:List (Nat×Obj)} {i b:Nat} {o:Obj}:At H i b o->At (p::H) (i+1) b o
theorem At.mem{H:List (Nat×Obj)}{i b:Nat}{o:Obj}(h:At H i b o):(b,o)∈H:=by
 induction h with
 | head=>exact List.mem_cons_self ..
 | tail _ ih=>exact List.mem_cons_of_mem _ ih
theorem St.at{w0 w:World}{M:List Nat}{H:List (Nat×Obj)}(h:St w0 M H w){i b:Nat}{o:Obj}(ha:At H i b o):w.heap[b]?=some o:=h.has _ ha.mem
def setAt:List (Nat×Obj)->Nat->Obj->List (Nat×Obj)
 | [],_,_=>[]
 | (b,_)::r,0,o=>(b,o)::r
 | p::r,i+1,o=>p::setAt r i o
theorem uI:∀(H:List (Nat×Obj)) (i:Nat) (o:Obj),(setAt H i o).map Prod.fst=H.map Prod.fst
 | [],_,_=>rfl
 | (_,_)::_,0,_=>rfl
 | _::r,i+1,o=>by simp[setAt,uI r i o]
theorem xN{b:Nat}{o':Obj}:∀{H:List (Nat×Obj)} {i:Nat} {o:Obj},At H i b o->(H.map Prod.fst).Nodup->∀p∈setAt H i o',p=(b,o')∨(p∈H/\p.1≠b):=by
 intro H i o ha
 induction ha with
 | head =>
  intro hn p hp
  simp only[setAt] at hp
  rcases List.mem_cons.1 hp with rfl|hp
  ·exact .inl rfl
  ·refine .inr ⟨List.mem_cons_of_mem _ hp,λ e=>?_⟩
   simp only[List.map_cons,List.nodup_cons] at hn
   exact hn.1 (e▸List.mem_map_of_mem (f:=Prod.fst) hp)
 | tail ha ih =>
  intro hn p hp
  simp only[setAt] at hp
  simp only[List.map_cons,List.nodup_cons] at hn
  rcases List.mem_cons.1 hp with rfl|hp
  ·refine .inr ⟨List.mem_cons_self ..,λ e=>?_⟩
   exact hn.1 (e▸List.mem_map_of_mem (f:=Prod.fst) ha.mem)
  ·rcases ih hn.2 p hp with h|⟨h1,h2⟩
   ·exact .inl h
   ·exact .inr ⟨List.mem_cons_of_mem _ h1,h2⟩
theorem St.write{w0 w w':World}{M:List Nat}{H:List (Nat×Obj)}(h:St w0 M H w){i b:Nat}{o o':Obj}(ha:At H i b o)
  (hos:w'.os=w.os) (htape:w'.tape=w.tape) (hout:w'.output=w.output) (hsize:w'.heap.size=w.heap.size)
  (hsame:∀k,k≠b->w'.heap[k]?=w.heap[k]?) (hb:w'.heap[b]?=some o'):St w0 M (setAt H i o') w':=by
 refine⟨hos.trans h.os,htape.trans h.tape,hout.trans h.output,by rw[hsize];exact h.size,λ k hk hM=>?_,λ p hp=>?_,λ p hp=>?_,?_⟩
 ·rcases h.new _ ha.mem with hm|hn
  ·rw[hsame k (λ e=>hM (e▸hm))];exact h.iL k hk hM
  ·rw[hsame k (by simp only at hn;omega)];exact h.iL k hk hM
 ·rcases xN (o':=o') ha h.nodup p hp with rfl|⟨h1,h2⟩
  ·exact hb
  ·rw[hsame _ h2];exact h.has p h1
 ·rcases xN (o':=o') ha h.nodup p hp with rfl|⟨h1,_⟩
  ·exact h.new (b,o) ha.mem
  ·exact h.new p h1
 ·rw[uI];exact h.nodup
def one(P:Program)(t:TypeId):Bool :=
 match P.info? t,P.underlying t with
 | some i,some d=>i.size==1&&(match d with|.struct _|.array _ _=>false|_=>true)
 | _,_=>false
theorem Ae{P:Program}{t:TypeId}(h:one P t=true)(w:World):(isAgg t).run P w=.ok false w:=by
 unfold one at h
 cases hi:P.info? t with
 | none=>simp[hi] at h
 | some i =>
  cases hu:P.underlying t with
  | none=>simp[hi,hu] at h
  | some d =>
   simp only[hi,hu,Bool.and_eq_true] at h
   unfold isAgg
   rw[Sem.run_bind,run_underlying hu w]
   cases d<;>simp_all
theorem Jk{P:Program}{t:TypeId}(h:one P t=true)(w:World):(Go.sizeOf t).run P w=.ok 1 w:=by
 unfold one at h
 cases hi:P.info? t with
 | none=>simp[hi] at h
 | some i =>
  cases hu:P.underlying t with
  | none=>simp[hi,hu] at h
  | some d =>
   simp only[hi,hu,Bool.and_eq_true,beq_iff_eq] at h
   simp[Go.sizeOf,typeInfo,hi,h.1]
def gX(P:Program)(t:TypeId)(k:Nat):Bool :=
 match P.info? t,P.underlying t with
 | some i,some d=>i.size==k&&(match d with|.struct _|.array _ _=>true|_=>false)
 | _,_=>false
theorem fX{P:Program}{t:TypeId}{k:Nat}(h:gX P t k=true):∃d,P.underlying t=some d/\(match d with|.struct _|.array _ _=>true|_=>false)=true/\(P.info? t).map (·.size)=some k:=by
 unfold gX at h
 cases hi:P.info? t with
 | none=>simp[hi] at h
 | some i =>
  cases hu:P.underlying t with
  | none=>simp[hi,hu] at h
  | some d =>
   simp only[hi,hu,Bool.and_eq_true,beq_iff_eq] at h
   exact⟨d,rfl,h.2,by simp[h.1]⟩
def bY(P:Program)(t:TypeId):Option Value:=(P.info? t).bind (·.zero)
theorem uN{P:Program}{t:TypeId}{z:Value}(h:bY P t=some z)(w:World):(zeroValue t).run P w=.ok z w:=by
 unfold bY at h
 cases hi:P.info? t with
 | none=>simp[hi] at h
 | some i=>simp[hi] at h;simp[zeroValue,typeInfo,hi,h]
def eV(P:Program)(t:TypeId)(k:Nat):Option Nat :=
 match P.underlying t with
 | some (.struct fs)=>match fs[k]? with
  | some f=>match P.info? f.type with
   | some i=>if i.size=0 then none else some f.offset
   | none=>none
  | none=>none
 | _=>none
theorem P0{P:Program}{t k off:Nat}(h:eV P t k=some off)(a:Addr)(w:World):(Instr.fieldAt t (.pointer (some a)) k).run P w=.ok (.pointer (some (a.add off))) w:=by
 unfold eV at h
 cases hu:P.underlying t with
 | none=>simp[hu] at h
 | some d =>
  cases d<;>simp[hu] at h
  rename_i fs
  cases hf:fs[k]? with
  | none=>simp[hf] at h
  | some f =>
   simp[hf] at h
   cases hi:P.info? f.type with
   | none=>simp[hi] at h
   | some i =>
    simp[hi] at h
    obtain⟨h1,h2⟩:=h
    simp[Instr.fieldAt,run_underlying hu,hf,Instr.sureAddr,fieldPlace,Go.sizeOf,typeInfo,hi,h1,h2]
section
variable{P:Program}{n:Nat}{Q:Exit->Act->World->Prop}{ks:List CK}{S:List (Nat×Value)}{ops:Array Oper}{l:List Oper}
variable{w0:World}{M:List Nat}{H:List (Nat×Obj)}{G:World->Prop}
variable{d:Nat}{ty:TypeId}{pos:String}{af:Array Edge}{gd:Option (Nat×Bool)}
theorem La{x:Operand}{v:Value}(hx:ev S x=v):aG P S G ⟨some d,.move x,ty,pos,af,gd⟩ (v):=⟨λ w _=>by subst hx;rfl⟩
theorem Ay{x:Operand}{v:Value}(hx:ev S x=v):aG P S G ⟨some d,.assign x,ty,pos,af,gd⟩ (v):=⟨λ w _=>by subst hx;rfl⟩
theorem Bf{c x y:Operand}{v:Value}(hc:ev S c=.bool true)(hx:ev S x=v):aG P S G ⟨some d,.pick c x y,ty,pos,af,gd⟩ (v):=⟨λ w _=>by subst hx;simp[execOp,hc,asBool]⟩
theorem Cq{c x y:Operand}{v:Value}(hc:ev S c=.bool false)(hy:ev S y=v):aG P S G ⟨some d,.pick c x y,ty,pos,af,gd⟩ (v):=⟨λ w _=>by subst hy;simp[execOp,hc,asBool]⟩
theorem bg{x:Operand}{t:Bool}{xt:TypeId}(hx:ev S x=.bool t):aG P S G ⟨some d,.unOp .not xt x,ty,pos,af,gd⟩ (.bool (!t)):=⟨λ w _=>by simp[execOp,hx,Op.unary]⟩
theorem Ob{op:Op}{cs:Array Value}{t:TypeId}
  (hrun:∀w,St w0 M H w->(execOp (ev S) ⟨some d,op,ty,pos,af,gd⟩).run P w=.ok (.value (.pointer (some ⟨w.heap.size,0,none⟩))) (w.alloc (.cells cs t))) :
  aQ P S (St w0 M H) ⟨some d,op,ty,pos,af,gd⟩ Nat (λ b=>.pointer (some ⟨b,0,none⟩)) (λ b=>St w0 M ((b,.cells cs t (0,0))::H)) :=
 fM (λ w hw=>⟨w.heap.size,_,hrun w hw,hw.alloc _⟩)
theorem Mr{x:Operand}{t:TypeId}{cs:List Value}(hx:ev S x=.agg ⟨cs⟩):aQ P S (St w0 M H) ⟨some d,.box t x,ty,pos,af,gd⟩ Nat (λ b=>.pointer (some ⟨b,0,none⟩)) (λ b=>St w0 M ((b,.cells ⟨cs⟩ t (0,0))::H)) :=
 Ob (λ w _=>by simp[execOp,hx,Instr.box,newVar,newRow,Value.cells])
theorem F5{x:Operand}{t:TypeId}{v:Value}(hx:ev S x=v)(h1:v.oneCell'=true):aQ P S (St w0 M H) ⟨some d,.box t x,ty,pos,af,gd⟩ Nat (λ b=>.pointer (some ⟨b,0,none⟩)) (λ b=>St w0 M ((b,.cells #[v] t (0,0))::H)) :=
 Ob (λ w _=>by
  have e:v.cells = #[v]:=by cases v<;>simp_all[Value.cells,Value.oneCell']
  simp[execOp,hx,Instr.box,newVar,newRow,e])
theorem cG{t:TypeId}{z:List Value}(hz:bY P t=some (.agg ⟨z⟩)):aQ P S (St w0 M H) ⟨some d,.alloc t,ty,pos,af,gd⟩ Nat (λ b=>.pointer (some ⟨b,0,none⟩)) (λ b=>St w0 M ((b,.cells ⟨z⟩ t (0,0))::H)) :=
 Ob (λ w _=>by simp[execOp,Instr.alloc,uN hz,newVar,newRow,Value.cells])
theorem nA{x:Operand}{t k off b o:Nat}(hx:ev S x=.pointer (some ⟨b,o,none⟩))(hf:eV P t k=some off):aG P S G ⟨some d,.fieldAddr t x k,ty,pos,af,gd⟩ (.pointer (some ⟨b,o+off,none⟩)):=⟨λ w _=>by simp[execOp,hx,P0 hf,Addr.add_lit]⟩
theorem oW{x:Operand}{t k off b:Nat}(hx:ev S x=.pointer (some ⟨b,0,none⟩))(hf:eV P t k=some off):aG P S G ⟨some d,.fieldAddr t x k,ty,pos,af,gd⟩ (.pointer (some ⟨b,off,none⟩)) :=
 ⟨λ w hw=>by have:=(nA (d:=d) (ty:=ty) (pos:=pos) (af:=af) (gd:=gd) (G:=G) hx hf).run w hw;rwa [Nat.zero_add] at this⟩
theorem Ao{x:Operand}{a:Addr}(hx:ev S x=.pointer (some a)):aG P S G ⟨some d,.nilCheck x,ty,pos,af,gd⟩ (.pointer (some a)):=⟨λ w _=>by simp[execOp,hx]⟩
theorem fw{x:Operand}{t b off i:Nat}{cs:List Value}{T:TypeId}{fr:Nat×Nat}{v:Value}(hx:ev S x=.pointer (some ⟨b,off,none⟩))(ha:At H i b (.cells ⟨cs⟩ T fr))(ht:one P t=true)
  (hv:cs[off]?=some v):aG P S (St w0 M H) ⟨some d,.load t x,ty,pos,af,gd⟩ (v):=⟨λ w hw=>by
  have hc:w.cell? ⟨b,off,none⟩=some v:=by rw[cell_of_row w b off ⟨cs⟩ T fr (hw.at ha)];simpa using hv
  simp[execOp,hx,Instr.loadAt,Instr.sureAddr,loadVar,Ae ht,hc]⟩
theorem aN{x:Operand}{t b i:Nat}{cs:List Value}{T:TypeId}{fr:Nat×Nat}(hx:ev S x=.pointer (some ⟨b,0,none⟩))(ha:At H i b (.cells ⟨cs⟩ T fr))(ht:gX P t cs.length=true)
  : aG P S (St w0 M H) ⟨some d,.load t x,ty,pos,af,gd⟩ (.agg ⟨cs⟩):=⟨λ w hw=>by
  obtain⟨dd,hu,hm,hi⟩:=fX ht
  simp only[execOp,hx,Instr.loadAt,Instr.sureAddr,Sem.run_bind,Sem.run_pure,Result.andThen_ok,run_loadVar_row w b T t ⟨cs⟩ fr dd (hw.at ha) hu (by cases dd<;>first|rfl|exact hm) hi]⟩
theorem zU{x y:Operand}{t b off i:Nat}{cs cs':List Value}{T:TypeId}{v:Value}{H':List (Nat×Obj)}(hx:ev S x=.pointer (some ⟨b,off,none⟩))(ha:At H i b (.cells ⟨cs⟩ T (0,0)))(hy:ev S y=v)(hv:v.oneCell'=true)(ht:one P t=true)
  (hoff:Nat.blt off cs.length=true) (hcs:cs.set off v=cs') (hH:setAt H i (.cells ⟨cs'⟩ T (0,0))=H') :
  aQ P S (St w0 M H) ⟨none,.store t x y,ty,pos,af,gd⟩ Unit (λ _=>undef) (λ _=>St w0 M H') :=
 iZ (λ w hw=>by
  subst hcs hH
  have hb:=hw.at ha
  have hlt:off<cs.length:=Nat.le_of_ble_eq_true hoff
  have hc:w.cell? ⟨b,off,none⟩=some cs[off]:=by rw[cell_of_row w b off ⟨cs⟩ T (0,0) hb];simp[hlt]
  have hfz:w.frozen? ⟨b,off,none⟩=false:=frozen_of_row w b off ⟨cs⟩ T hb
  have hs:(store ⟨b,off,none⟩ v).run P w=.ok () (w.setCell ⟨b,off,none⟩ v):=by rw[run_store P w _ v _ hv,hc];simp[hfz]
  have e:v.cells = #[v]:=by cases v<;>simp_all[Value.cells,Value.oneCell']
  refine⟨w.setCell ⟨b,off,none⟩ v,?_,hw.write ha rfl rfl rfl (by simp) (λ k hk=>heap_setCell_other w _ k v hk) (by simpa using heap_setCell_same w b off ⟨cs⟩ T v hb)⟩
  simp[execOp,hx,hy,Instr.storeAt,Instr.sureAddr,storeVar,e,Jk ht,storeCells,Addr.add_zero',hs])
theorem aC{x y:Operand}{t b i:Nat}{cs old:List Value}{T:TypeId}{H':List (Nat×Obj)}(hx:ev S x=.pointer (some ⟨b,0,none⟩))(ha:At H i b (.cells ⟨old⟩ T (0,0)))(hy:ev S y=.agg ⟨cs⟩)(h1:cs.all (·.oneCell')=true)
  (ht:gX P t cs.length=true) (ho:old.length=cs.length) (hH:setAt H i (.cells ⟨cs⟩ T (0,0))=H') :
  aQ P S (St w0 M H) ⟨none,.store t x y,ty,pos,af,gd⟩ Unit (λ _=>undef) (λ _=>St w0 M H') :=
 iZ (λ w hw=>by
  subst hH
  have hb:=hw.at ha
  obtain⟨dd,hu,hm,hi⟩:=fX ht
  refine⟨w.setRow b ⟨cs⟩,?_,hw.write ha rfl rfl rfl (by simp) (λ k hk=>setRow_other w b k ⟨cs⟩ hk) (setRow_heap w b ⟨old⟩ ⟨cs⟩ T (0,0) hb)⟩
  simp only[execOp,hx,hy,Instr.storeAt,Instr.sureAddr,Sem.run_bind,Sem.run_pure,Result.andThen_ok,run_storeVar_row w b T t ⟨old⟩ ⟨cs⟩ hb hi (by simpa using ho) (by simpa using h1)])
def Av:List Value->List (Nat×Value)->List Value
 | z,[]=>z
 | z,(i,v)::r=>Av (z.set i v) r
theorem Bw{k:Nat}{place:Nat->Option (Nat×Nat)}(hp:∀i,i<k->place i=some (i,1)):∀(r:List (Nat×Value)) (z:List Value),z.length=k ->
  (r.all λ p=>Nat.blt p.1 k&&p.2.oneCell')=true->Instr.fill place ⟨z⟩ r=some ⟨Av z r⟩
 | [],z,_,_=>rfl
 | (i,v)::r,z,hz,h=>by
  simp only[List.all_cons,Bool.and_eq_true] at h
  have hi:i<k:=Nat.le_of_ble_eq_true h.1.1
  have e:v.cells = #[v]:=by cases v<;>simp_all[Value.cells,Value.oneCell']
  have ih:=Bw hp r (z.set i v) (by simpa using hz) (by simpa using h.2)
  simp only[Instr.fill,hp i hi,e]
  have h2:¬(i+1>z.length):=by omega
  simp[h2,Av,ih]
def structOf(P:Program)(t:TypeId)(z:List Value):Prop :=
 ∀r:List (Nat×Value),(r.all λ p=>Nat.blt p.1 z.length&&p.2.oneCell')=true->P.built t r=some ⟨Av z r⟩
def H5(P:Program)(t:TypeId)(k:Nat):Bool :=
 match P.info? t,P.underlying t with
 | some it,some (.struct fields) =>
  match it.zero,fields.toList.mapM (λ f=>(P.info? f.type).map λ i=>(f.offset,i.size)) with
  | some (.agg z),some places=>z.size==k&&(List.range k).all λ i=>places[i]?==some (i,1)
  | _,_=>false
 | _,_=>false
theorem dP{t:TypeId}{z:List Value}(h:H5 P t z.length=true)(hz:bY P t=some (.agg ⟨z⟩)):structOf P t z:=by
 intro r hr
 unfold H5 at h
 unfold bY at hz
 unfold Program.built
 cases hi:P.info? t with
 | none=>simp[hi] at h
 | some it =>
  simp only[hi,Option.bind_some] at hz
  cases hu:P.underlying t with
  | none=>simp[hi,hu] at h
  | some dd =>
   cases dd<;>simp only[hi,hu,hz,Bool.false_eq_true] at h
   rename_i fields
   simp only[hz]
   cases hp:fields.toList.mapM (λ f=>(P.info? f.type).map λ i=>(f.offset,i.size)) with
   | none=>simp[hp] at h
   | some places =>
    simp only[hp,Bool.and_eq_true] at h ⊢
    refine Bw (k:=z.length) (λ i hi=>?_) r z rfl hr
    have:=List.all_eq_true.1 h.2 i (List.mem_range.2 hi)
    simpa using this
def jD(S:List (Nat×Value)):List (Nat×Operand)->List (Nat×Value)
 | []=>[]
 | (i,x)::r=>(i,ev S x)::jD S r
theorem oO(S:List (Nat×Value)):∀r:List (Nat×Operand),jD S r=r.map λ(i,x)=>(i,ev S x)
 | []=>rfl
 | (i,x)::r=>by simp[jD,oO S r]
theorem Hg(S:List (Nat×Value)):jD S []=[]:=rfl
theorem Ez{S:List (Nat×Value)}{i:Nat}{x:Operand}{v:Value}{r:List (Nat×Operand)}{vs:List (Nat×Value)}(hx:ev S x=v)(h:jD S r=vs):jD S ((i,x)::r)=(i,v)::vs:=by
 subst hx h;rfl
theorem Yw{t:TypeId}{parts:List (Nat×Operand)}{z cs:List Value}{vs:List (Nat×Value)}(hb:structOf P t z)(hv:jD S parts=vs)(h1:(vs.all λ p=>Nat.blt p.1 z.length&&p.2.oneCell')=true)(hcs:Av z vs=cs):aG P S G ⟨some d,.build t ⟨parts⟩,ty,pos,af,gd⟩ (.agg ⟨cs⟩):=⟨λ w _=>by
  subst hcs hv
  have e:((⟨parts⟩:Array (Nat×Operand)).map λ(i,x)=>(i,ev S x)).toList=jD S parts:=by simp[oO]
  have hr:=run_build (P:=P) w t (Array.map (λ x=>match x with|(i,x)=>(i,ev S x)) ⟨parts⟩) ⟨Av z (jD S parts)⟩ (by rw[e];exact hb _ h1)
  simp only[execOp,Sem.run_bind,hr,Result.andThen_ok,Sem.run_pure]⟩
def lX:List Value->Nat->List Value->List Value
 | z,_,[]=>z
 | z,o,v::r=>lX (z.set o v) (o+1) r
def cI:Value->List Value
 | .agg ⟨cs⟩=>cs
 | v=>[v]
theorem xR(v:Value):v.cells.toList=cI v:=by cases v<;>rfl
def Ba:List (Nat×Nat)->List Value->List (Nat×Value)->List Value
 | _,z,[]=>z
 | pl,z,(i,v)::r=>Ba pl (lX z (pl.getD i (0,0)).1 (cI v)) r
def Hf(pl:List (Nat×Nat))(k:Nat)(r:List (Nat×Value)):Bool :=
 r.all λ p=>match pl[p.1]? with|some (o,s)=>Nat.beq (cI p.2).length s&&Nat.ble (o+s) k|none=>false
theorem rC:∀(vs z:List Value) (o:Nat),(lX z o vs).length=z.length
 | [],_,_=>rfl
 | v::r,z,o=>by simp[lX,rC r]
theorem vJ:∀(vs:List Value) (z:List Value) (o j:Nat),(vs.zipIdx j).foldl (λ(cs:Array Value) (c,j)=>cs.setIfInBounds (o+j) c) ⟨z⟩=⟨lX z (o+j) vs⟩
 | [],_,_,_=>rfl
 | v::r,z,o,j=>by
  simp only[List.zipIdx_cons,List.foldl_cons,List.setIfInBounds_toArray,lX]
  have:=vJ r (z.set (o+j) v) o (j+1)
  rw[show o+(j+1)=o+j+1 by omega] at this
  exact this
theorem Aj{k:Nat}{pl:List (Nat×Nat)}{place:Nat->Option (Nat×Nat)}(hp:∀i,place i=pl[i]?):∀(r:List (Nat×Value)) (z:List Value),z.length=k ->
  Hf pl k r=true->Instr.fill place ⟨z⟩ r=some ⟨Ba pl z r⟩
 | [],z,_,_=>rfl
 | (i,v)::r,z,hz,h=>by
  simp only[Hf,List.all_cons,Bool.and_eq_true] at h
  obtain⟨h1,h2⟩:=h
  cases hi:pl[i]? with
  | none=>simp[hi] at h1
  | some q =>
   obtain⟨o,s⟩:=q
   simp only[hi,Bool.and_eq_true] at h1
   have e1:=eX h1.1
   have e2:=Nat.le_of_ble_eq_true h1.2
   have ih:=Aj (k:=k) hp r (lX z o (cI v)) (by rw[rC];exact hz) (by simpa[Hf] using h2)
   have hc:v.cells=⟨cI v⟩:=by apply Array.ext';simpa using xR v
   have hsz:v.cells.size=s:=by rw[hc];simpa using e1
   simp only[Instr.fill,hp i,hi,hsz]
   have h3:¬(o+s>(⟨z⟩:Array Value).size):=by simp only[List.size_toArray];omega
   have hg:(pl.getD i (0,0))=(o,s):=by simp[List.getD,hi]
   have h4:(v.cells.zipIdx.foldl (λ(cs:Array Value) (c,j)=>cs.setIfInBounds (o+j) c) ⟨z⟩)=⟨lX z o (cI v)⟩:=by
    rw[hc,<- Array.foldl_toList]
    simpa using vJ (cI v) z o 0
   simp only[h4,Ba,hg]
   rw[if_neg (by simp;omega)]
   exact ih
def placeOf(P:Program)(t:TypeId)(pl:List (Nat×Nat))(z:List Value):Prop :=
 ∀r:List (Nat×Value),Hf pl z.length r=true->P.built t r=some ⟨Ba pl z r⟩
def Oa(P:Program)(t:TypeId)(pl:List (Nat×Nat))(k:Nat):Bool :=
 match P.info? t,P.underlying t with
 | some it,some (.struct fields) =>
  match it.zero,fields.toList.mapM (λ f=>(P.info? f.type).map λ i=>(f.offset,i.size)) with
  | some (.agg z),some places=>z.size==k&&places==pl
  | _,_=>false
 | _,_=>false
theorem gO{t:TypeId}{pl:List (Nat×Nat)}{z:List Value}(h:Oa P t pl z.length=true)(hz:bY P t=some (.agg ⟨z⟩)):placeOf P t pl z:=by
 intro r hr
 unfold Oa at h
 unfold bY at hz
 unfold Program.built
 cases hi:P.info? t with
 | none=>simp[hi] at h
 | some it =>
  simp only[hi,Option.bind_some] at hz
  cases hu:P.underlying t with
  | none=>simp[hi,hu] at h
  | some dd =>
   cases dd<;>simp only[hi,hu,hz,Bool.false_eq_true] at h
   rename_i fields
   simp only[hz]
   cases hp:fields.toList.mapM (λ f=>(P.info? f.type).map λ i=>(f.offset,i.size)) with
   | none=>simp[hp] at h
   | some places =>
    simp only[hp,Bool.and_eq_true] at h ⊢
    have e:=eq_of_beq h.2
    subst e
    exact Aj (k:=z.length) (place:=λ x=>places.toArray[x]?) (λ i=>by simp) r z rfl hr
theorem Tt{t:TypeId}{pl:List (Nat×Nat)}{parts:List (Nat×Operand)}{z cs:List Value}{vs:List (Nat×Value)}(hb:placeOf P t pl z)(hv:jD S parts=vs)(h1:Hf pl z.length vs=true)(hcs:Ba pl z vs=cs):aG P S G ⟨some d,.build t ⟨parts⟩,ty,pos,af,gd⟩ (.agg ⟨cs⟩):=⟨λ w _=>by
  subst hcs hv
  have e:((⟨parts⟩:Array (Nat×Operand)).map λ(i,x)=>(i,ev S x)).toList=jD S parts:=by simp[oO]
  have hr:=run_build (P:=P) w t (Array.map (λ x=>match x with|(i,x)=>(i,ev S x)) ⟨parts⟩) ⟨Ba pl z (jD S parts)⟩ (by rw[e];exact hb _ h1)
  simp only[execOp,Sem.run_bind,hr,Result.andThen_ok,Sem.run_pure]⟩
section ints
variable{x y:Operand}{t t':TypeId}{k:IntKind}{a b:Int}
theorem lx(hx:ev S x=.int k a)(hy:ev S y=.int k b):aG P S G ⟨some d,.binOp .eql t x y t',ty,pos,af,gd⟩ (.bool (a==b)):=⟨λ w _=>by simp[execOp,hx,hy,eqGuard_at_int,binOp_eql]⟩
theorem dj (hx:ev S x=.int k a) (hy:ev S y=.int k b):aG P S G ⟨some d,.binOp .neq t x y t',ty,pos,af,gd⟩ (.bool (a != b)):=⟨fun w _=>by simp [execOp,hx,hy,eqGuard_at_int,binOp_neq]⟩
theorem dr(hx:ev S x=.int k a)(hy:ev S y=.int k b):aG P S G ⟨some d,.binOp .lss t x y t',ty,pos,af,gd⟩ (.bool (decide (a<b))):=⟨λ w _=>by simp[execOp,hx,hy,eqGuard_at_int,binOp_lss]⟩
theorem mg(hx:ev S x=.int k a)(hy:ev S y=.int k b):aG P S G ⟨some d,.binOp .leq t x y t',ty,pos,af,gd⟩ (.bool (decide (a<=b))):=⟨λ w _=>by simp[execOp,hx,hy,eqGuard_at_int,binOp_leq]⟩
theorem mw(hx:ev S x=.int k a)(hy:ev S y=.int k b):aG P S G ⟨some d,.binOp .gtr t x y t',ty,pos,af,gd⟩ (.bool (decide (a>b))):=⟨λ w _=>by simp[execOp,hx,hy,eqGuard_at_int,binOp_gtr]⟩
theorem bu(hx:ev S x=.int k a)(hy:ev S y=.int k b):aG P S G ⟨some d,.binOp .geq t x y t',ty,pos,af,gd⟩ (.bool (decide (a≥b))):=⟨λ w _=>by simp[execOp,hx,hy,eqGuard_at_int,binOp_geq]⟩
theorem pN(hx:ev S x=.int k a)(hy:ev S y=.int k b):aG P S G ⟨some d,.binOp .add t x y t',ty,pos,af,gd⟩ (.int k (k.wrap (a+b))):=⟨λ w _=>by simp[execOp,hx,hy,eqGuard_at_int,binOp_add,Op.intArith]⟩
theorem Dw(hx:ev S x=.int k a)(hy:ev S y=.int k b):aG P S G ⟨some d,.binOp .sub t x y t',ty,pos,af,gd⟩ (.int k (k.wrap (a-b))):=⟨λ w _=>by simp[execOp,hx,hy,eqGuard_at_int,binOp_sub,Op.intArith]⟩
theorem Se(hx:ev S x=.int k a)(hy:ev S y=.int k b):aG P S G ⟨some d,.binOp .mul t x y t',ty,pos,af,gd⟩ (.int k (k.wrap (a*b))):=⟨λ w _=>by simp[execOp,hx,hy,eqGuard_at_int,binOp_mul,Op.intArith]⟩
end ints
theorem I6{x y:Operand}{t t':TypeId}{a b:ByteArray}(hx:ev S x=.string a)(hy:ev S y=.string b):aG P S G ⟨some d,.binOp .eql t x y t',ty,pos,af,gd⟩ (.bool (a.toList==b.toList)):=⟨λ w _=>by simp[execOp,hx,hy,eqGuard_at_string,binOp,Op.stringOp]⟩
theorem I3{x:Operand}{t:TypeId}{s:ByteArray}(hx:ev S x=.string s)(ht:P.underlying t=some .string):aG P S G ⟨some d,.call {callee:=.builtin .len,args := #[x],argTypes := #[t]},ty,pos,af,gd⟩ (.int .i64 s.size):=⟨λ w _=>by simp[execOp,resolve,invoke,builtin,hx,Builtin.len_,run_underlying ht,goInt]⟩
theorem Mk{x:Operand}{t e:TypeId}{a:Option Addr}{m c:Nat}(hx:ev S x=.slice a m c)(ht:P.underlying t=some (.slice e)):aG P S G ⟨some d,.call {callee:=.builtin .len,args := #[x],argTypes := #[t]},ty,pos,af,gd⟩ (.int .i64 m):=⟨λ w _=>by simp[execOp,resolve,invoke,builtin,hx,Builtin.len_,run_underlying ht,goInt]⟩
end
end Go.Ct

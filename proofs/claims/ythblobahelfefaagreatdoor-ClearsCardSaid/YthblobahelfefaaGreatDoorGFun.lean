/- Merged. -/
import Derived.Test.YthblobahelfefaaGreatDoorDraw
import Derived.Laws.StructEq
import Derived.Laws.Slices
import Derived.Deep.AppendSrc
import Derived.Laws.OwnMore
import Derived.Laws.CopyRow
import Derived.Great.BuildSlice
import Derived.Laws.Small
import Derived.Test.YthblobahelfefaaGreatDoorRows
import Derived.ProofKit
set_option linter.unusedSimpArgs false
set_option linter.unusedVariables false
namespace Go.Ct
section
open Go Go.RowKit
inductive jU(P:Program)(S:List (Nat×Value))(H:List (Nat×Obj)):List ResultVar->List Value->Prop where
 | nil:jU P S H [] []
 | tmp {k:Nat} {v:Value} {r:List ResultVar} {vs:List Value} (hv:look S k=v) (h:jU P S H r vs):jU P S H (.tmp k::r) (v::vs)
 | cell {k ty b i:Nat} {cs:List Value} {T:TypeId} {fr:Nat×Nat} {r:List ResultVar} {vs:List Value} (hx:look S k=.pointer (some ⟨b,0,none⟩)) (ha:At H i b (.cells ⟨cs⟩ T fr)) (ht:gX P ty cs.length=true)
   (h:jU P S H r vs):jU P S H (.cell k ty::r) (.agg ⟨cs⟩::vs)
 | cell1 {k ty b i:Nat} {v:Value} {T:TypeId} {fr:Nat×Nat} {r:List ResultVar} {vs:List Value} (hx:look S k=.pointer (some ⟨b,0,none⟩)) (ha:At H i b (.cells ⟨[v]⟩ T fr)) (ht:one P ty=true)
   (h:jU P S H r vs):jU P S H (.cell k ty::r) (v::vs)
def gU:List Value->Value
 | [v]=>v
 | vs=>.tuple ⟨vs⟩
section
variable{P:Program}{n:Nat}{Q:Exit->Act->World->Prop}{ks:List CK}{S:List (Nat×Value)}{ops:Array Oper}{l:List Oper}
variable{w0:World}{M:List Nat}{H:List (Nat×Obj)}{G:World->Prop}
def uK(T:Array Value):ResultVar->Sem Value
 | .tmp t=>Pure.pure (T.getD t undef)
 | .cell a t=>do loadVar t (<- asAddr (T.getD a undef))
variable{w:World}{rs:List ResultVar}{vs:List Value}{φ:Prop}
theorem ko(hS:Cf n S)(hw:St w0 M H w)(h:jU P S H rs vs) :
  (rs.mapM (uK (dU n S))).run P w=.ok vs w:=by
 have hev:∀t,(dU n S).getD t undef=look S t:=λ t=>congrFun (iY (ds:=[]) hS) (.tmp t)
 induction h with
 | nil=>simp
 | @tmp k v r vs hv _ ih=>
  have h1:(uK (dU n S) (.tmp k)).run P w=.ok v w:=by simp only[uK,hev,hv,Sem.run_pure]
  simp only[List.mapM_cons,Sem.run_bind,h1,Sem.run_pure,Result.andThen_ok,ih]
 | @cell k ty b i cs T fr r vs hx ha ht _ ih=>
  obtain⟨dd,hu,hm,hi⟩:=gB ht;have hl:=run_loadVar_row w b T ty ⟨cs⟩ fr dd (hw.at ha) hu (by cases dd<;>first|rfl|exact hm) hi;have h1:(uK (dU n S) (.cell k ty)).run P w=.ok (.agg ⟨cs⟩) w:=by simp only[uK,hev,hx,asAddr,Sem.run_bind,Sem.run_pure,Result.andThen_ok,hl]
  simp only[List.mapM_cons,Sem.run_bind,h1,Sem.run_pure,Result.andThen_ok,ih]
 | @cell1 k ty b i v T fr r vs hx ha ht _ ih=>
  have hc:w.cell? ⟨b,0,none⟩=some v:=by rw[cell_of_row w b 0 ⟨[v]⟩ T fr (hw.at ha)];rfl
  have hl:(loadVar ty ⟨b,0,none⟩).run P w=.ok v w:=by simp[loadVar,Fj ht,hc]
  have h1:(uK (dU n S) (.cell k ty)).run P w=.ok v w:=by simp only[uK,hev,hx,asAddr,Sem.run_bind,Sem.run_pure,Result.andThen_ok,hl]
  simp only[List.mapM_cons,Sem.run_bind,h1,Sem.run_pure,Result.andThen_ok,ih]
theorem Oj{fn:Func}(hS:Cf n S)(hw:St w0 M H w)(hr:fn.results=⟨rs⟩)(h:jU P S H rs vs):(results fn (dU n S)).run P w=.ok (gU vs) w:=by
 have h1:=ko (P:=P) (n:=n) hS hw h
 have e:results fn (dU n S)=(do
   let vs<-fn.results.mapM (uK (dU n S))
   Pure.pure (if h:vs.size=1 then vs[0] else .tuple vs)):=by
  unfold results
  congr 1
 rw[e,hr,Array.mapM_eq_mapM_toList,Sem.run_bind,Sem.run_map,h1];simp only[Result.andThen_ok,Sem.run_pure];congr 1;match vs with
 | []=>rfl
 | [v]=>rfl
 | _::_::_=>simp[gU]
theorem dq{id:Nat}{l l':List Oper}(hl:l=l')(h:JL P n Q ks l'.toArray l' S G):JK P n Q (.code (.region id l.toArray false)::ks) S G:=by subst hl;exact cD h
theorem gT{ops:Array Oper}{l:List Nat}(h:aS P ops S G l):aS P ops S (λ w=>φ/\G w) l:=by
 induction h with
 | nil=>exact .nil
 | cons h _ ih=>obtain⟨o,d,h1,h2,h3⟩:=h.ex;exact .cons ⟨o,d,h1,h2,h3.imp (λ h4=>⟨h4.1,⟨λ w hw=>h4.2.run w hw.2⟩⟩) id⟩ ih
theorem eF(h:φ->JL P n Q ks ops l S G):JL P n Q ks ops l S (λ w=>φ/\G w):=⟨λ hS w hw=>(h hw.1).run hS w hw.2⟩
theorem iV{pl:nP}{Dl Dp Dq:List Nat}(h:φ->JR P n Q ks ops pl Dl Dp Dq S G):JR P n Q ks ops pl Dl Dp Dq S (λ w=>φ/\G w):=⟨λ fuel listed a w hs hf =>
 (h hs.hG.1).run fuel listed a w ⟨hs.ok,hs.hG.2,hs.size,hs.defers,hs.tsize,hs.cl,hs.dl,hs.slot,hs.pure,λ i hi hl=>by obtain⟨o,d,h1,h2,h3⟩:=(hs.load i hi hl).ex;exact⟨o,d,h1,h2,h3.imp (λ h4=>⟨h4.1,⟨λ w' hw'=>h4.2.run w' ⟨hs.hG.1,hw'⟩⟩⟩) id⟩,hs.tidy,hs.dc⟩ hf⟩
def lX(S:List (Nat×Value)):List Operand->List Value
 | []=>[]
 | x::r=>ev S x::lX S r
theorem bK(S:List (Nat×Value)):lX S []=[]:=rfl
theorem aZ{x:Operand}{v:Value}{r:List Operand}{vs:List Value}(hx:ev S x=v)(h:lX S r=vs):lX S (x::r)=v::vs:=by subst hx h;rfl
theorem sE(ao:List Operand):ao.map (ev S)=lX S ao:=by
 induction ao with
 | nil=>rfl
 | cons x r ih=>simp[lX,ih]
def plain(P:Program)(f:FuncId):Bool :=
 match P.funcs[f]? with
 | some fn=>fn.name != "runtime.NumGoroutine" && fn.body.isSome
 | none=>false
theorem nX{f:FuncId}(h:plain P f=true)(args:Array Value)(w:World):(callFunc f args).run P w=.ok (.enter f args) w:=by
 unfold plain at h
 cases hf:P.funcs[f]? with
 | none=>rw[hf] at h;cases h
 | some fn =>
  rw[hf] at h
  simp only[Bool.and_eq_true,bne_iff_ne,ne_eq] at h
  obtain⟨c,hb⟩:=Option.isSome_iff_exists.1 h.2
  simp[callFunc,hf,h.1,hb]
variable{d:Nat}{ty:TypeId}{pos:String}{af:Array Edge}{gd:Option (Nat×Bool)}{dst:Option Nat}
theorem lZ{f:FuncId}{ao:List Operand}{at_:Array TypeId}{vs:List Value}(hp:plain P f=true)(ha:lX S ao=vs)(w:World) :
  (execOp (ev S) ⟨dst,.call {callee:=.value (.func f),args:=⟨ao⟩,argTypes:=at_},ty,pos,af,gd⟩).run P w=.ok (.enter f ⟨vs⟩) w:=by
 subst ha;have hm:(ao.map (ev S)).toArray=⟨lX S ao⟩:=by rw[sE]
 simp[execOp,resolve,ev,Deferred.ofValue,invoke,nX hp,hm]
def mB(K:List (Nat×Value))(S:List (Nat×Value)):Prop:=∀p∈K,look S p.1=p.2
variable{K:List (Nat×Value)}
theorem bH(S:List (Nat×Value)):mB [] S:=λ _ h=>(List.not_mem_nil h).elim
theorem aY{k:Nat}{v:Value}(hv:look S k=v)(h:mB K S):mB ((k,v)::K) S:=by
 intro p hp;rcases List.mem_cons.1 hp with rfl|hp;·exact hv
 ·exact h p hp
theorem mu(h:mB K S):dU n (K++S)=dU n S/\∀t,look (K++S) t=look S t:=by
 have key:∀t,look (K++S) t=look S t:=by
  intro t;induction K with
  | nil=>rfl
  | cons p K ih=>
   have ih:=ih λ q hq=>h q (List.mem_cons_of_mem _ hq)
   simp only[List.cons_append,look];cases hb:Nat.beq p.1 t with
   | true=>have e:=eJ hb;have:=h p (List.mem_cons_self ..);simp only[cond_true];rw[<- e,this]
   | false=>exact ih
 refine⟨?_,key⟩;unfold dU;congr 1;funext i;exact key i.val
theorem Cf.mB(hS:Cf n S)(hK:(K.all λ p=>Nat.blt p.1 n)=true):Cf n (K++S):=by
 intro p hp;rcases List.mem_append.1 hp with hp|hp;·exact Nat.le_of_ble_eq_true (List.all_eq_true.1 hK p hp)
 ·exact hS p hp
def kK(keys:List Nat)(f:Nat->Value):List (Nat×Value):=keys.map λ k=>(k,f k)
inductive wT(keys:List Nat):List (Nat×Value)->List (Nat×Value)->Prop where
 | refl {S:List (Nat×Value)}:wT keys S S
 | cons {k:Nat} {v:Value} {S1 S:List (Nat×Value)} (hk:keys.elem k=true) (h:wT keys S1 S):wT keys ((k,v)::S1) S
theorem wT.look{keys:List Nat}{S1 S:List (Nat×Value)}(h:wT keys S1 S):∀t,keys.elem t=false->Ct.look S1 t=Ct.look S t:=by
 induction h with
 | refl=>intro t _;rfl
 | @cons k v S1 S hk _ ih=>
  intro t ht;simp only[Ct.look];cases hb:Nat.beq k t with
  | true=>have:=eJ hb;subst this;rw[hk] at ht;cases ht
  | false=>exact ih t ht
theorem Sz{f:Nat->Value}{t:Nat}:∀keys:List Nat,look (kK keys f++S) t=if t∈keys then f t else look S t
 | []=>by simp[kK]
 | k::keys=>by
  have ih:=Sz (f:=f) (t:=t) keys;simp only[kK,List.map_cons,List.cons_append,look];cases hb:Nat.beq k t with
  | true=>have:=eJ hb;subst this;simp
  | false=>
   have hne:¬t=k:=λ e=>by subst e;simp at hb
   simp only[cond_false,List.mem_cons,hne,false_or];exact ih
theorem V1{keys:List Nat}{S1:List (Nat×Value)}{K:List (Nat×Value)}(h:wT keys S1 S)(hK:mB K S1):dU n S1=dU n (K++(kK keys (look S1)++S)):=by
 have h1:∀t,look (kK keys (look S1)++S) t=look S1 t:=by
  intro t;rw[Sz];split;·rfl
  ·rename_i hne;exact(h.look t (by simpa using hne)).symm
 have hK':mB K (kK keys (look S1)++S):=λ p hp=>by rw[h1];exact hK p hp
 rw[(mu hK').1];unfold dU;congr 1;funext i;exact(h1 i.val).symm
theorem Cf.kK{keys:List Nat}{f:Nat->Value}(hS:Cf n S)(hk:(keys.all λ k=>Nat.blt k n)=true):Cf n (Ct.kK keys f++S):=by
 intro p hp;rcases List.mem_append.1 hp with hp|hp;·obtain⟨k,hk1,rfl⟩:=List.mem_map.1 hp;exact Nat.le_of_ble_eq_true (List.all_eq_true.1 hk k hk1)
 ·exact hS p hp
def lJ(n:Nat)(keys:List Nat){X:Type}(K:X->List (Nat×Value))(GI:X->World->Prop)(μ:X->Nat)(S:List (Nat×Value))(m:Nat)(a:Act)(w:World):Prop :=∃x' S1,μ x'<m/\a=⟨dU n S1,[]⟩/\Cf n S1/\mB (K x') S1/\wT keys S1 S/\GI x' w
theorem aDN{X:Type}(keys:List Nat)(K:X->List (Nat×Value))(GI:X->World->Prop)(μ:X->Nat){c:Code}(x0:X)(hn:(keys.all λ k=>Nat.blt k n)=true)(hKn:∀x,((K x).all λ p=>Nat.blt p.1 n)=true)
  (hK0:mB (K x0) S) (hG0:∀w,G w->GI x0 w)
  (round:∀x f,JK P n Q (.code c::.inv (lJ n keys K GI μ S (μ x))::ks) (K x++(kK keys f++S)) (GI x)) :
  JK P n Q (.code (.loop c)::ks) S G:=⟨λ hS w hw=>by
 simp only[runK]
 have key:∀m x f w,μ x=m->GI x w->∀(b:Frame) (k:List Item) (cs:List Frame),
   ∃e a' w',runK P Q ks e a' w'/\Arrives P (lone (b.at ⟨dU n (K x++(kK keys f++S)),[]⟩ (.code c::.inLoop c::k)) cs w) b k cs e a' w':=by
  intro m
  induction m using Nat.strongRecOn with
  | _ m ih =>
   intro x f w hm hg b k cs
   obtain⟨e,a₁,w₁,hq,harr⟩:=(round x f).run ((hS.kK hn).mB (hKn x)) w hg b (.inLoop c::k) cs
   rw[Hb] at hq
   cases e with
   | normal =>
    obtain⟨x',S1,hlt,rfl,_,hk',hp',hg'⟩:=hq
    obtain⟨e₂,a₂,w₂,hq₂,harr₂⟩:=ih (μ x') (hm▸hlt) x' (look S1) w₁ rfl hg' b k cs
    rw[<- V1 hp' hk'] at harr₂
    exact⟨e₂,a₂,w₂,hq₂,.of_steps (Steps.trans harr (.one step_inLoop)) harr₂⟩
   | exit id=>exact⟨_,a₁,w₁,hq,.pass (x:=.inLoop c) rfl (λ _ _=>.inl (by simp)) harr⟩
   | goto l=>exact⟨_,a₁,w₁,hq,.pass (x:=.inLoop c) rfl (λ _ _=>.inl (by simp)) harr⟩
   | ret=>exact⟨_,a₁,w₁,hq,.pass (x:=.inLoop c) rfl (λ _ _=>.inl (by simp)) harr⟩
   | panic ch=>exact⟨_,a₁,w₁,hq,.pass (x:=.inLoop c) rfl (λ _ _=>.inl (by simp)) harr⟩
   | outgrown=>exact⟨_,a₁,w₁,hq,.pass (x:=.inLoop c) rfl (λ _ _=>.inl (by simp)) harr⟩
 intro b k cs;have h0:=key (μ x0) x0 (look S) w rfl (hG0 w hw) b k cs;rw[<- V1 .refl hK0] at h0;obtain⟨e,a',w',hq,harr⟩:=h0;exact⟨e,a',w',hq,.of_steps (.one step_loop) harr⟩⟩
theorem w6{X:Type}{keys:List Nat}{K:X->List (Nat×Value)}{GI:X->World->Prop}{μ:X->Nat}{S0:List (Nat×Value)}{m:Nat}(x':X)(hμ:μ x'<m)(hK:mB (K x') S)(hp:wT keys S S0)(hG:∀w,G w->GI x' w) :
  JK P n Q (.inv (lJ n keys K GI μ S0 m)::ks) S G:=⟨λ hS w hw=>⟨x',S,hμ,rfl,hS,hK,hp,hG w hw⟩⟩
theorem Tt{φ:Prop}(h:φ->JK P n Q ks S G):JK P n Q ks S (λ w=>φ/\G w):=⟨λ hS w hw=>(h hw.1).run hS w hw.2⟩
theorem wrap_i64{i:Int}(h0 : -9223372036854775808<=i)(h1:i<=9223372036854775807):IntKind.i64.wrap i=i:=by rw[IntKind.wrap_i64];omega
theorem Fq{d:Nat}{ty:TypeId}{pos:String}{af:Array Edge}{gd:Option (Nat×Bool)}{x y:Operand}{t t':TypeId}{k:Nat}(hx:ev S x=.int .i64 ((k:Nat):Int))(hy:ev S y=.int .i64 1)(hk:k<9223372036854775807) :
  aH P S G ⟨some d,.binOp .add t x y t',ty,pos,af,gd⟩ (.int .i64 ((k+1:Nat):Int)):=by have:=uP (P:=P) (G:=G) (d:=d) (ty:=ty) (pos:=pos) (af:=af) (gd:=gd) (t:=t) (t':=t') hx hy;rw[wrap_i64 (by omega) (by omega)] at this;exact this
theorem toList_inj{a b:ByteArray}(h:a.toList=b.toList):a=b:=by
 have:=congrArg (λ l:List UInt8=>(⟨l.toArray⟩:ByteArray)) h
 exact ByteArray.ext (by simpa[ByteArray.toList_eq] using this)
theorem Db(a b:ByteArray):(a.toList==b.toList)=decide (a=b):=by rw[Bool.eq_iff_iff];simp only[beq_iff_eq,decide_eq_true_eq];exact⟨toList_inj,λ h=>by rw[h]⟩
theorem aCG (a b:ByteArray):(a.toList != b.toList) = !decide (a=b):=by rw [bne,Db]
def cI:Option Addr->Nat|some a=>a.block|none=>0
def dH:Option Addr->Nat|some a=>a.off|none=>0
structure Cl(w:World)(a:Option Addr)(cs:List Value):Prop where
 at_:∀j u,cs[j]?=some u->a=some ⟨cI a,dH a,none⟩/\w.cell? ⟨cI a,dH a+j,none⟩=some u
variable{a:Option Addr}{cs:List Value}
theorem Cl.ptr{w:World}(h:Cl w a cs)(h0:0<cs.length):a=some ⟨cI a,dH a,none⟩:=(h.at_ 0 cs[0] (List.getElem?_eq_getElem h0)).1
theorem Cl.nil(w:World)(a:Option Addr):Cl w a []:=⟨λ j u h=>by simp at h⟩
theorem St.cell0{w:World}(h:St w0 M H w){a:Addr}{v:Value}(hv:w0.cell? a=some v)(hM:a.block∉M):w.cell? a=some v:=by have hlt:=World.block_lt_of_cell? w0 a hv;rw[World.cell?_of_block (h.eH a.block hlt hM)];exact hv
theorem Cl.eH{w:World}(hc:Cl w0 a cs)(h:St w0 M H w)(hM:cI a∉M):Cl w a cs :=⟨λ j u hj=>⟨(hc.at_ j u hj).1,h.cell0 (hc.at_ j u hj).2 hM⟩⟩
theorem Cl.lB{w:World}(hc:Cl w0 a cs)(h:St w0 [] H w):Cl w a cs:=hc.eH h (by simp)
theorem Cl.block{w:World}{b o:Nat}{pre rest:List Value}{T:TypeId}{fr:Nat×Nat}(h:w.heap[b]?=some (.cells ⟨pre++cs++rest⟩ T fr))(ho:pre.length=o):Cl w (some ⟨b,o,none⟩) cs :=
 ⟨λ j u hj=>⟨rfl,by have hlt:=(List.getElem?_eq_some_iff.1 hj).1;show w.cell? ⟨b,o+j,none⟩=some u;rw[cell_of_row w b (o+j) _ T fr h];subst ho;simp only[List.getElem?_toArray,List.append_assoc];rw[List.getElem?_append_right (by omega),Nat.add_sub_cancel_left,List.getElem?_append_left hlt];exact hj⟩⟩
def aN(l:List Int):List Value:=l.map (Value.int .i64)
abbrev Pr:=ByteArray×Int
def cY:List Pr->List Value
 | []=>[]
 | p::r=>.string p.1::.int .u64 p.2::cY r
theorem ny{l:List Int}{k:Nat}(h:k<l.length):(aN l)[k]?=some (.int .i64 (l.getD k 0)):=by simp[aN,h,List.getD]
theorem fA:∀l:List Pr,(cY l).length=2*l.length
 | []=>rfl
 | _::r=>by simp only[cY,List.length_cons,fA r];omega
theorem Cv:∀{l:List Pr} {k:Nat},k<l.length->(cY l)[2*k]?=some (.string (l.getD k (⟨#[]⟩,0)).1)/\(cY l)[2*k+1]?=some (.int .u64 (l.getD k (⟨#[]⟩,0)).2)
 | [],_,h=>by simp at h
 | p::r,0,_=>⟨rfl,rfl⟩
 | p::r,k+1,h=>by have:=Cv (l:=r) (k:=k) (by simpa using h);rw[show 2*(k+1)=2*k+1+1 by omega];simpa[cY] using this
theorem Cl.aFT{w:World}{a:Option Addr}{l:List Int}(h:Cl w a (aN l))(h0:0<l.length):a=some ⟨cI a,dH a,none⟩:=h.ptr (by simpa[aN] using h0)
theorem Cl.aGf{w:World}{a:Option Addr}{l:List Pr}(h:Cl w a (cY l))(h0:0<l.length):a=some ⟨cI a,dH a,none⟩:=h.ptr (by rw[fA];omega)
variable{a:Option Addr}{x y:Operand}{t e:TypeId}
variable{m c k:Nat}
theorem wI{i:Int}{k:IntKind}{sz:Nat}(ht:P.underlying t=some (.slice e))(hs:(P.info? e).map (·.size)=some sz)(ha:a=some ⟨cI a,dH a,none⟩)(h0:0<=i)(h1:i<m)(w:World) :
  (Instr.indexAt t (.slice a m c) (.int k i)).run P w=.ok (.pointer (some ⟨cI a,dH a+i.toNat*sz,none⟩)) w:=by
 have he:P.elem t=e:=by simp[Program.elem,ht]
 rw[ha];rw[run_indexAt_slice w t ⟨cI a,dH a,none⟩ m c k i (by rw[he];exact ht),if_pos ⟨h0,h1⟩,he];cases hi:P.info? e with
 | none=>rw[hi] at hs;simp at hs
 | some info=>rw[hi] at hs;simp only[Option.map_some,Option.some.injEq] at hs;simp[Go.sizeOf,typeInfo,hi,hs,Addr.add_lit,cI,dH]
theorem Io{kk:IntKind}(hx:ev S x=.slice a m c)(hy:ev S y=.int kk ((k:Nat):Int))(ht:P.underlying t=some (.slice e))(hs:one P e=true)(ha:a=some ⟨cI a,dH a,none⟩)(h1:k<m) :
  aH P S G ⟨some d,.indexAddr t x y,ty,pos,af,gd⟩ (.pointer (some ⟨cI a,dH a+k,none⟩)):=⟨λ w _=>by
 have hsz:(P.info? e).map (·.size)=some 1:=by
  unfold one at hs;cases hi:P.info? e with
  | none=>simp[hi] at hs
  | some i=>
   cases hu:P.underlying e with
   | none=>simp[hi,hu] at hs
   | some dd=>simp only[hi,hu,Bool.and_eq_true,beq_iff_eq] at hs;simp[hs.1]
 have:=wI (P:=P) (a:=a) (m:=m) (c:=c) (k:=kk) ht hsz ha (i:=(k:Int)) (by omega) (by omega) w;simp only[Int.toNat_natCast,Nat.mul_one] at this;simp[execOp,hx,hy,this]⟩
theorem lm{kk:IntKind}(hx:ev S x=.slice a m c)(hy:ev S y=.int kk ((k:Nat):Int))(ht:P.underlying t=some (.slice e))(hs:gX P e 2=true)(ha:a=some ⟨cI a,dH a,none⟩)(h1:k<m) :
  aH P S G ⟨some d,.indexAddr t x y,ty,pos,af,gd⟩ (.pointer (some ⟨cI a,dH a+2*k,none⟩)):=⟨λ w _=>by obtain⟨_,_,_,hsz⟩:=gB hs;have:=wI (P:=P) (a:=a) (m:=m) (c:=c) (k:=kk) ht hsz ha (i:=(k:Int)) (by omega) (by omega) w;simp only[Int.toNat_natCast,Nat.mul_comm k 2] at this;simp[execOp,hx,hy,this]⟩
theorem cw{cs:List Value}{q:Nat}{v u:Value}(hx:ev S x=.pointer (some ⟨cI a,dH a+q,none⟩))(ht:gX P t 2=true)(hcl:Cl w0 a cs)(hq:cs[q]?=some v)(hq1:cs[q+1]?=some u)(hM:cI a∉M) :
  aH P S (St w0 M H) ⟨some d,.load t x,ty,pos,af,gd⟩ (.agg ⟨[v,u]⟩):=⟨λ w hw=>by
 have hc:=hw.cell0 (hcl.at_ q v hq).2 hM;have hc1:=hw.cell0 (hcl.at_ (q+1) u hq1).2 hM;obtain⟨dd,hu,hm,hi⟩:=gB ht;have hagg:(isAgg t).run P w=.ok true w:=by unfold isAgg;rw[Sem.run_bind,run_underlying hu w];cases dd<;>simp_all
 have hl:(loadCells ⟨cI a,dH a+q,none⟩ 2).run P w=.ok ⟨[v,u]⟩ w:=by
  have:=run_loadCells_list (P:=P) w ⟨cI a,dH a+q,none⟩ [v,u] (λ j z hz=>by
   match j,hz with
   | 0,hz=>simp at hz;subst hz;simpa[Addr.add_zero'] using hc
   | 1,hz=>simp at hz;subst hz;rw[Addr.add_lit];exact hc1)
  simpa using this
 cases hq':P.info? t with
 | none=>rw[hq'] at hi;simp at hi
 | some i=>
  have hs:i.size=2:=by rw[hq'] at hi;simpa using hi
  simp[execOp,hx,Instr.loadAt,Instr.sureAddr,loadVar,hagg,Go.sizeOf,typeInfo,hq',hs,hl]⟩
end
end
section
open Go Go.RowKit
section
variable{P:Program}{n:Nat}{Q:Exit->Act->World->Prop}{ks:List CK}{S:List (Nat×Value)}{ops:Array Oper}{l:List Oper}
variable{w0:World}{M:List Nat}{H:List (Nat×Obj)}{G:World->Prop}
variable{d:Nat}{ty:TypeId}{pos:String}{af:Array Edge}{gd:Option (Nat×Bool)}{x y:Operand}{t t' e:TypeId}
def mA(k:IntKind)(a b:Int):Int:=k.wrap ((BitVec.ofInt k.bits a &&& BitVec.ofInt k.bits b).toNat:Int)
def rOr(k:IntKind)(a b:Int):Int:=k.wrap ((BitVec.ofInt k.bits a ||| BitVec.ofInt k.bits b).toNat:Int)
def aAg(k:IntKind)(a b:Int):Int:=k.wrap ((BitVec.ofInt k.bits a ^^^ BitVec.ofInt k.bits b).toNat:Int)
def Ae(k:IntKind)(a b:Int):Int:=k.wrap ((BitVec.ofInt k.bits a &&& ~~~ BitVec.ofInt k.bits b).toNat:Int)
def mG(k:IntKind)(a b:Int):Int:=a.fdiv (2^min b.toNat k.bits)
def Kd(k:IntKind)(a b:Int):Int:=k.wrap (a*2^min b.toNat k.bits)
section
variable{k k':IntKind}{a b:Int}
theorem tq(hx:ev S x=.int k a)(hy:ev S y=.int k b):aH P S G ⟨some d,.binOp .and t x y t',ty,pos,af,gd⟩ (.int k (mA k a b)):=⟨λ w _=>by simp[execOp,hx,hy,eqGuard_at_int,binOp,Op.intBits,mA]⟩
theorem aFi(hx:ev S x=.int k a)(hy:ev S y=.int k b):aH P S G ⟨some d,.binOp .or t x y t',ty,pos,af,gd⟩ (.int k (rOr k a b)):=⟨λ w _=>by simp[execOp,hx,hy,eqGuard_at_int,binOp,Op.intBits,rOr]⟩
theorem aEr(hx:ev S x=.int k a)(hy:ev S y=.int k b):aH P S G ⟨some d,.binOp .xor t x y t',ty,pos,af,gd⟩ (.int k (aAg k a b)):=⟨λ w _=>by simp[execOp,hx,hy,eqGuard_at_int,binOp,Op.intBits,aAg]⟩
theorem mj(hx:ev S x=.int k a)(hy:ev S y=.int k b):aH P S G ⟨some d,.binOp .andNot t x y t',ty,pos,af,gd⟩ (.int k (Ae k a b)):=⟨λ w _=>by simp[execOp,hx,hy,eqGuard_at_int,binOp,Op.intBits,Ae]⟩
theorem Fs(hx:ev S x=.int k a)(hy:ev S y=.int k' b)(h0:0<=b):aH P S G ⟨some d,.binOp .shr t x y t',ty,pos,af,gd⟩ (.int k (mG k a b)):=⟨λ w _=>by
 have h:¬b<0:=by omega
 simp[execOp,hx,hy,eqGuard_at_int,binOp,Op.shift,mG,h]⟩
theorem aBy(hx:ev S x=.int k a)(hy:ev S y=.int k' b)(h0:0<=b):aH P S G ⟨some d,.binOp .shl t x y t',ty,pos,af,gd⟩ (.int k (Kd k a b)):=⟨λ w _=>by
 have h:¬b<0:=by omega
 simp[execOp,hx,hy,eqGuard_at_int,binOp,Op.shift,Kd,h]⟩
theorem aBT{a b:Int}(hx:ev S x=.int k a)(hy:ev S y=.int k b)(h0:b≠0):aH P S G ⟨some d,.binOp .rem t x y t',ty,pos,af,gd⟩ (.int k (a.tmod b)):=⟨λ w _=>by simp[execOp,hx,hy,eqGuard_at_int,binOp,Op.intDiv,h0]⟩
end
def xR(P:Program)(t:TypeId)(k:IntKind):Bool:=match P.underlying t with|some (.int k')=>k'==k|_=>false
variable{a:Int}{s:TypeId}
theorem D8{k:IntKind}(h:xR P t k=true):P.underlying t=some (.int k):=by
 unfold xR at h;cases hu:P.underlying t with
 | none=>rw[hu] at h;cases h
 | some dd=>rw[hu] at h;cases dd<;>simp at h;rw[h]
theorem qW{k k' k2:IntKind}(hx:ev S x=.int k' a)(hs:xR P s k2=true)(ht:xR P t k=true):aH P S G ⟨some d,.convert s t x,ty,pos,af,gd⟩ (.int k (k.wrap a)):=⟨λ w _=>by simp[execOp,hx,convert,run_underlying (D8 hs),run_underlying (D8 ht),Conv.intToInt]⟩
theorem Ye{k' k2:IntKind}(hx:ev S x=.int k' a)(hs:xR P s k2=true)(ht:xR P t .i64=true)(h : -9223372036854775808<=a/\a<=9223372036854775807):aH P S G ⟨some d,.convert s t x,ty,pos,af,gd⟩ (.int .i64 a):=by have:=qW (P:=P) (G:=G) (d:=d) (ty:=ty) (pos:=pos) (af:=af) (gd:=gd) hx hs ht;rwa [wrap_i64 h.1 h.2] at this
theorem Mg{k' k2:IntKind}(hx:ev S x=.int k' a)(hs:xR P s k2=true)(ht:xR P t .u64=true)(h:0<=a/\a<=18446744073709551615):aH P S G ⟨some d,.convert s t x,ty,pos,af,gd⟩ (.int .u64 a):=by
 have:=qW (P:=P) (G:=G) (d:=d) (ty:=ty) (pos:=pos) (af:=af) (gd:=gd) hx hs ht;have e:IntKind.u64.wrap a=a:=by
  have h2:IntKind.u64.wrap a=a%18446744073709551616:=by simp[IntKind.wrap,IntKind.signed,IntKind.bits]
  omega
 rwa [e] at this
theorem aC1{a b:Bool}(hx:ev S x=.bool a)(hy:ev S y=.bool b)(ht:P.underlying t=some .bool):aH P S G ⟨some d,.binOp .neq t x y t',ty,pos,af,gd⟩ (.bool (a != b)):=⟨fun w _=>by
 have h:(binOp .neq t (.bool a) (.bool b)).run P w=.ok (.bool (a != b)) w:=by simp only [binOp];simp [Op.equal,Op.maxDepth,run_equalIn_bool w 9999 t a b ht];cases a <;> cases b <;> rfl
 simp [execOp,hx,hy,eqGuard_at_bool,h]⟩
def cG(a b:ByteArray):Bool:=Op.bytesLess a.toList b.toList
theorem og{a b:ByteArray}(hx:ev S x=.string a)(hy:ev S y=.string b):aH P S G ⟨some d,.binOp .lss t x y t',ty,pos,af,gd⟩ (.bool (cG a b)):=⟨λ w _=>by simp[execOp,hx,hy,eqGuard_at_string,binOp,Op.stringOp,cG]⟩
theorem iy{a b:ByteArray}(hx:ev S x=.string a)(hy:ev S y=.string b):aH P S G ⟨some d,.binOp .gtr t x y t',ty,pos,af,gd⟩ (.bool (!(cG a b||decide (a=b)))):=⟨λ w _=>by rw[<- Db];simp[execOp,hx,hy,eqGuard_at_string,binOp,Op.stringOp,cG]⟩
theorem qd{a b:ByteArray}(hx:ev S x=.string a)(hy:ev S y=.string b):aH P S G ⟨some d,.binOp .geq t x y t',ty,pos,af,gd⟩ (.bool (!cG a b)):=⟨λ w _=>by simp[execOp,hx,hy,eqGuard_at_string,binOp,Op.stringOp,cG]⟩
theorem Lc:∀a:List UInt8,Op.bytesLess a a=false
 | []=>rfl
 | x::a=>by simp[Op.bytesLess,Lc a]
theorem Qb:∀a b:List UInt8,Op.bytesLess a b=true->Op.bytesLess b a=false
 | [],[],h=>by simp[Op.bytesLess] at h
 | [],_::_,_=>rfl
 | _::_,[],h=>by simp[Op.bytesLess] at h
 | x::a,y::b,h=>by
  simp only[Op.bytesLess,Bool.or_eq_true,decide_eq_true_eq,Bool.and_eq_true,beq_iff_eq] at h;simp only[Op.bytesLess,Bool.or_eq_false_iff,decide_eq_false_iff_not,Bool.and_eq_false_imp,beq_iff_eq];rcases h with h|⟨h,h2⟩;·exact⟨λ h'=>absurd h (UInt8.lt_asymm h'),λ e=>by subst e;exact absurd h (UInt8.lt_irrefl _)⟩
  ·subst h;exact⟨UInt8.lt_irrefl _,λ _=>Qb a b h2⟩
theorem Q7:∀a b:List UInt8,Op.bytesLess a b=false->Op.bytesLess b a=false->a=b
 | [],[],_,_=>rfl
 | [],_::_,h,_=>by simp[Op.bytesLess] at h
 | _::_,[],_,h=>by simp[Op.bytesLess] at h
 | x::a,y::b,h1,h2=>by simp only[Op.bytesLess,Bool.or_eq_false_iff,decide_eq_false_iff_not,Bool.and_eq_false_imp,beq_iff_eq] at h1 h2;have e:x=y:=UInt8.le_antisymm (UInt8.not_lt.1 h2.1) (UInt8.not_lt.1 h1.1);subst e;rw[Q7 a b (h1.2 rfl) (h2.2 rfl)]
theorem Pf:∀a b c:List UInt8,Op.bytesLess a b=true->Op.bytesLess b c=true->Op.bytesLess a c=true
 | [],[],_,h,_=>by simp[Op.bytesLess] at h
 | _,_::_,[],_,h=>by simp[Op.bytesLess] at h
 | [],_::_,_::_,_,_=>rfl
 | _::_,[],_,h,_=>by simp[Op.bytesLess] at h
 | x::a,y::b,z::c,h1,h2=>by
  simp only[Op.bytesLess,Bool.or_eq_true,decide_eq_true_eq,Bool.and_eq_true,beq_iff_eq] at h1 h2 ⊢;rcases h1 with h1|⟨rfl,h1⟩<;>rcases h2 with h2|⟨rfl,h2⟩;·exact .inl (UInt8.lt_trans h1 h2)
  ·exact .inl h1
  ·exact .inl h2
  ·exact .inr ⟨rfl,Pf a b c h1 h2⟩
theorem Bw(a:ByteArray):cG a a=false:=Lc _
theorem vS{a b:ByteArray}(h:cG a b=true):cG b a=false:=Qb _ _ h
theorem vQ{a b:ByteArray}(h:cG a b=false)(h2:cG b a=false):a=b:=toList_inj (Q7 _ _ h h2)
theorem iT{a b c:ByteArray}(h:cG a b=true)(h2:cG b c=true):cG a c=true:=Pf _ _ _ h h2
theorem uY{k:Nat}(hx:ev S x=.int .i64 ((k:Nat):Int))(hy:ev S y=.int .i64 1)(hk:1<=k)(hk2:k<=9223372036854775807) :
  aH P S G ⟨some d,.binOp .sub t x y t',ty,pos,af,gd⟩ (.int .i64 ((k-1:Nat):Int)):=by have:=Lf (P:=P) (G:=G) (d:=d) (ty:=ty) (pos:=pos) (af:=af) (gd:=gd) (t:=t) (t':=t') hx hy;rw[wrap_i64 (by omega) (by omega)] at this;rw[show(((k-1:Nat):Int))=(k:Int)-1 by omega];exact this
theorem Un{a b:Int}(hx:ev S x=.int .i64 a)(hy:ev S y=.int .i64 b)(h : -9223372036854775808<=a+b/\a+b<=9223372036854775807):aH P S G ⟨some d,.binOp .add t x y t',ty,pos,af,gd⟩ (.int .i64 (a+b)):=by have:=uP (P:=P) (G:=G) (d:=d) (ty:=ty) (pos:=pos) (af:=af) (gd:=gd) (t:=t) (t':=t') hx hy;rwa [wrap_i64 h.1 h.2] at this
theorem Ud{a b:Int}(hx:ev S x=.int .i64 a)(hy:ev S y=.int .i64 b)(h : -9223372036854775808<=a-b/\a-b<=9223372036854775807):aH P S G ⟨some d,.binOp .sub t x y t',ty,pos,af,gd⟩ (.int .i64 (a-b)):=by have:=Lf (P:=P) (G:=G) (d:=d) (ty:=ty) (pos:=pos) (af:=af) (gd:=gd) (t:=t) (t':=t') hx hy;rwa [wrap_i64 h.1 h.2] at this
def O2(P:Program)(t:TypeId):Bool :=
 (match P.underlying t with
 | some (.struct fs)=>(match fs.toList with
  | [f,g]=>f.name != "_" && g.name != "_" && Nat.beq f.offset 0&&Nat.beq g.offset 1&&one P f.type&&one P g.type&&(match P.underlying f.type with|some .string=>true|_=>false)&&(match P.underlying g.type with|some (.int _)=>true|_=>false)
  | _=>false)
 | _=>false)&&!P.stoodInHeld t&&!P.eqGuardType P.depth t
variable{v u:Int}{b:ByteArray}{p:Prop}
theorem kM{f:TypeId}(h:one P f=true){cs:Array Value}{off:Nat}{v:Value}(hv:cs[off]?=some v)(w:World):(part f cs off).run P w=.ok v w:=by simp[part,Fj h,hv]
theorem vz{a:ByteArray}{k:IntKind}(h:O2 P t=true)(w:World) :
  (Op.equalIn 10000 t (.agg ⟨[.string a,.int k u]⟩) (.agg ⟨[.string b,.int k v]⟩)).run P w=.ok (decide (a=b/\u=v)) w/\P.eqGuardType P.depth t=false:=by
 unfold O2 at h;cases hu:P.underlying t with
 | none=>simp[hu] at h
 | some dd=>
  rw[hu] at h;cases dd<;>simp only[Bool.false_and,Bool.false_eq_true] at h;rename_i fs;have hf:P.fieldsOf t=fs:=by simp[Program.fieldsOf,hu]
  cases hl:fs.toList with
  | nil=>simp[hl] at h
  | cons f r=>
   cases r with
   | nil=>simp[hl] at h
   | cons g r=>
    cases r with
    | cons _ _=>simp[hl] at h
    | nil=>
     simp only[hl,Bool.and_eq_true,bne_iff_ne,ne_eq,Bool.not_eq_true'] at h;obtain⟨⟨⟨⟨⟨⟨⟨⟨⟨h1,h2⟩,h3⟩,h4⟩,h5⟩,h6⟩,h7⟩,h8⟩,h9⟩,h10⟩:=h;replace h3:=eJ h3;replace h4:=eJ h4;refine⟨?_,h10⟩;have hsf:P.underlying f.type=some .string:=by
      cases hq:P.underlying f.type with
      | none=>simp[hq] at h7
      | some z=>rw[hq] at h7;cases z<;>simp at h7;rfl
     obtain⟨k',hsg⟩:∃k',P.underlying g.type=some (.int k'):=by
      cases hq:P.underlying g.type with
      | none=>simp[hq] at h8
      | some z=>rw[hq] at h8;cases z<;>simp at h8;exact⟨_,rfl⟩
     rw[run_equalIn_agg w 9999 t _ _ (by rw[hf];exact hu) h9,hf,hl];have p1:∀(s:ByteArray) (z:Int) (w:World),(part f.type ⟨[.string s,.int k z]⟩ f.offset).run P w=.ok (.string s) w:=λ s z w=>by rw[h3];exact kM h5 rfl w
     have p2:∀(s:ByteArray) (z:Int) (w:World),(part g.type ⟨[.string s,.int k z]⟩ g.offset).run P w=.ok (.int k z) w:=λ s z w=>by rw[h4];exact kM h6 rfl w
     have q1:∀w:World,(Op.equalIn 9999 f.type (.string a) (.string b)).run P w=.ok (a.toList==b.toList) w:=λ w=>run_equalIn_string w 9998 f.type a b hsf
     have q2:∀w:World,(Op.equalIn 9999 g.type (.int k u) (.int k v)).run P w=.ok (u==v) w:=λ w=>run_equalIn_int w 9998 g.type k k' u v hsg
     simp only[Op.eqFields,h1,h2,ne_eq,not_false_eq_true,if_true,Sem.run_bind,p1,p2,q1,q2,Result.andThen_ok,Sem.run_ite,Sem.run_pure];by_cases hab:a=b
     ·subst hab;by_cases huv:u=v;·subst huv;simp
      ·simp[huv]
     ·have:(a.toList==b.toList)=false:=by rw[Db];simp[hab]
      simp[this,hab]
theorem wz{a:ByteArray}{k:IntKind}(hx:ev S x=.agg ⟨[.string a,.int k u]⟩)(hy:ev S y=.agg ⟨[.string b,.int k v]⟩)(ht:O2 P t=true) :
  aH P S G ⟨some d,.binOp .neq t x y t',ty,pos,af,gd⟩ (.bool (!decide (a=b/\u=v))):=⟨λ w _=>by have h:=vz (a:=a) (b:=b) (u:=u) (v:=v) (k:=k) ht w;simp[execOp,hx,hy,run_eqGuard_agg w _ t _ _ _ _ h.2,run_neq_struct,h.1]⟩
theorem aA6{a:ByteArray}(hx:ev S x=.string a)(hy:ev S y=.string b):aH P S G ⟨some d,.binOp .eql t x y t',ty,pos,af,gd⟩ (.bool (decide (a=b))):=by rw[<- Db];exact Gb hx hy
theorem aFx{a:ByteArray}(hx:ev S x=.string a)(hy:ev S y=.string b):aH P S G ⟨some d,.binOp .neq t x y t',ty,pos,af,gd⟩ (.bool (!decide (a=b))):=by rw[<- aCG];exact l8 hx hy
theorem Uq [Decidable p] (h:(!decide p)=true):¬p:=of_decide_eq_false (by revert h;cases decide p<;>simp)
theorem U8 [Decidable p] (h:(!decide p)=false):p:=of_decide_eq_true (by revert h;cases decide p<;>simp)
theorem k9{b:Bool}(h:(!b)=true):b=false:=by simpa using h
theorem ry{b:Bool}(h:(!b)=false):b=true:=by simpa using h
theorem cv1 [Decidable p] {g:Prop}(h:(p)->g)(e:decide p=true):g:=h (of_decide_eq_true e)
theorem cv2 [Decidable p] {g:Prop}(h:(¬p)->g)(e:decide p=false):g:=h (of_decide_eq_false e)
theorem An{a:Option Addr}{m c k sz:Nat}{kk:IntKind}(hx:ev S x=.slice a m c)(hy:ev S y=.int kk ((k:Nat):Int))(ht:P.underlying t=some (.slice e))(hs:(P.info? e).map (·.size)=some sz)(hk:k<=c) :
  aH P S G ⟨some d,.slice t x none (some y) none,ty,pos,af,gd⟩ (.slice a k c):=⟨λ w _=>by
 have h0:(if c=0 then a else a.map (·.add 0))=a:=by
  split;·rfl
  ·cases a<;>simp[Addr.add_zero']
 have he:P.elem t=e:=by simp[Program.elem,ht]
 have ht':P.underlying t=some (.slice (P.elem t)):=by rw[he];exact ht
 cases hi:P.info? e with
 | none=>simp[hi] at hs
 | some i=>have:=run_slice_h (P:=P) w t a m c ht' kk (k:Int) (by omega) (by omega);simp[execOp,hx,hy,run_sliceAt_slice w t _ _ _ _ ht',this,he,sizeOf,typeInfo,hi,sliced,h0]⟩
def made(zc:List Value)(k:Nat):List Value:=(madeCells ⟨zc⟩ (k*zc.length)).toList
theorem jQ(zc:List Value)(k:Nat):(made zc k).length=k*zc.length:=by simp[made,size_madeCells]
structure cS(P:Program)(t e:TypeId)(zc:List Value):Prop where
 sl:P.underlying t=some (.slice e)
 z:∃i z,P.info? e=some i/\i.zero=some z/\z.cells=⟨zc⟩/\i.size=zc.length/\i.bytes<=256
theorem Nf(w:World)(dT sT ty elem:TypeId)(g o dLen dCap:Nat)(a:Addr)(sLen sCap:Nat)(cur:Array Value)(t:TypeId)(cs:List Value)(s:Nat)
  (hu:P.underlying dT=some (.slice elem)) (hs:(P.info? elem).map (·.size)=some s)
  (hg:w.heap[g]?=some (.cells cur t (0,0))) (hn:cs.length=Nat.min sLen dLen*s)
  (hsrc:∀j v,cs[j]?=some v->w.cell? (a.add j)=some v) (hfit:o+cs.length<=cur.size) (h1:∀v∈cs,v.oneCell'=true) :
  (Builtin.copy_ #[dT,sT] ty #[.slice (some ⟨g,o,none⟩) dLen dCap,.slice (some a) sLen sCap]).run P w =
   .ok (goInt (Nat.min sLen dLen)) (w.setRow g (cur.toList.take o++cs++cur.toList.drop (o+cs.length)).toArray):=by
 have hl:=run_loadCells_list (P:=P) w a cs hsrc;have hst:=run_storeCells_at P g o t cs 0 cur w hg (by simpa using hfit) h1;cases hq:P.info? elem with
 | none=>simp[hq] at hs
 | some i=>
  have hi:i.size=s:=by simpa[hq] using hs
  simp[Builtin.copy_,run_underlying hu,Builtin.lenOf,Builtin.firstCells,sizeOf,typeInfo,hq,hi,<- hn,hl,hst]
theorem Cl.cells{w:World}{a:Option Addr}{cs:List Value}(h:Cl w a cs):∀j v,cs[j]?=some v->w.cell? ((⟨cI a,dH a,none⟩:Addr).add j)=some v:=λ j v hj=>by rw[Addr.add_lit];exact(h.at_ j v hj).2
def fT:List (Nat×Value)->List Value
 | []=>[]
 | (_,v)::r=>dO v++fT r
theorem P9:∀r:List (Nat×Value),(r.map Prod.snd).flatMap (λ v=>v.cells.toList)=fT r
 | []=>rfl
 | (_,v)::r=>by simp[fT,C1,<- P9 r]
theorem L5:∀(r:List (Nat×Value)) (k:Nat),r.map Prod.fst=List.range' k r.length->((r.map Prod.snd).zipIdx k).map (λ x=>(x.2,x.1))=r
 | [],_,_=>rfl
 | (i,v)::r,k,h=>by simp only[List.map_cons,List.length_cons,List.range'_succ,List.cons.injEq] at h;simp only[List.map_cons,List.zipIdx_cons,L5 r (k+1) h.2,h.1]
theorem bO{len:Nat}{parts:List (Nat×Operand)}{ps:List (Nat×Value)}{zc cs:List Value}(he:cS P t e zc)(hv:kL S parts=ps)(hlen:ps.length=len)(hidx:ps.map Prod.fst=List.range' 0 ps.length)(h1:(ps.all λ p=>Nat.beq (dO p.2).length zc.length)=true)
  (hpos:(Nat.blt 0 len&&Nat.blt 0 zc.length&&Nat.ble (len*zc.length) 16777216)=true) (hcs:fT ps=cs) :
  aQ P S (St w0 M H) ⟨some d,.buildSlice t len ⟨parts⟩,ty,pos,af,gd⟩ Nat (λ b=>.slice (some ⟨b,0,none⟩) len len) (λ b=>St w0 M ((b,.cells ⟨cs⟩ e (0,0))::H)) :=
 fE λ w hw=>by
  subst hcs hlen;obtain⟨i,z,hi,hz,hzc,hs,hb⟩:=he.z;simp only[Bool.and_eq_true] at hpos;obtain⟨⟨p1,p2⟩,p3⟩:=hpos;replace p1:=Nat.le_of_ble_eq_true p1;replace p2:=Nat.le_of_ble_eq_true p2;replace p3:=Nat.le_of_ble_eq_true p3;have p4:0<ps.length*zc.length:=Nat.mul_pos p1 p2;have e1:(Array.map (λ x=>match x with|(i,x)=>(i,ev S x)) (⟨parts⟩:Array (Nat×Operand))).toList=ps:=by rw[<- hv,sC];simp
  have hf:=Great.fill_whole (s:=zc.length) p2 (ps.map Prod.snd) ((Array.range (ps.length*i.size)).map (z.cells[· % z.cells.size]!)) (λ v hv=>by obtain⟨p,hp,rfl⟩:=List.mem_map.1 hv;have:=eJ (List.all_eq_true.1 h1 p hp);rw[<- this,<- C1];rfl) (by simp[hs])
  rw[L5 ps 0 hidx,P9] at hf;have hr:=run_buildSlice (P:=P) w t e ps.length (Array.map (λ x=>match x with|(i,x)=>(i,ev S x)) ⟨parts⟩) ⟨fT ps⟩ i z he.sl hi hz (by rw[hs];omega) (by rw[hs];omega) (by rw[e1,hs];rw[hs] at hf;exact hf)
  refine⟨w.heap.size,_,?_,hw.alloc _⟩;simp only[execOp,Sem.run_bind,hr,Result.andThen_ok,Sem.run_pure]
theorem Di{w:World}(h:St w0 M H w):St w (H.map Prod.fst) H w :=⟨rfl,rfl,rfl,Nat.le_refl _,λ _ _ _=>rfl,h.has,λ p hp=>.inl (List.mem_map.2 ⟨p,hp,rfl⟩),h.nodup⟩
theorem kG(l:List Int):(aN l).length=l.length:=by simp[aN]
theorem zU{a:Option Addr}{cs:List Value}{q:Nat}{v:Value}(hx:ev S x=.pointer (some ⟨cI a,dH a+q,none⟩))(ht:one P t=true)(hcl:∀w,G w->Cl w a cs)(hq:cs[q]?=some v) :
  aH P S G ⟨some d,.load t x,ty,pos,af,gd⟩ v:=⟨λ w hw=>by have hc:=((hcl w hw).at_ q v hq).2;simp[execOp,hx,Instr.loadAt,Instr.sureAddr,loadVar,Fj ht,hc]⟩
theorem Cl.take{w:World}{a:Option Addr}{cs cs':List Value}(h:Cl w a cs)(hp:cs' <+: cs):Cl w a cs':=by obtain⟨r,rfl⟩:=hp;refine⟨λ j u hj=>h.at_ j u ?_⟩;rw[List.getElem?_append_left (List.getElem?_eq_some_iff.1 hj).1];exact hj
theorem jT:∀(a b:List Pr),cY (a++b)=cY a++cY b
 | [],_=>rfl
 | _::a,b=>by simp[cY,jT a b]
theorem sK:∀l:List Pr,(cY l).all (·.oneCell')=true
 | []=>rfl
 | _::l=>by simpa[cY,Value.oneCell'] using sK l
theorem vR(l:List Int):(aN l).all (·.oneCell')=true:=by simp[aN,Value.oneCell']
end
end
section
open Go Go.RowKit Go.ChangeShapes Go.WideShapes Go.ChangeAt
theorem yC{P:Program}{H:Type}{enc:TypeId×Value->H}{W W':World}(hl:laidOutB P=true)(hb:Below W.heap.size W W'):∀{ts:List TypeId} {vs:List Value} {ds:List (DataW H)} {ps:List MemPlace},
  (ts.all λ t=>P.readableRec t&&Nat.blt t P.types.size)=true->DataW.TrodAll enc P W 0 (λ _=>true) true ts vs ds ps->(∀p∈ps,p.block<W.heap.size) ->
  DataW.TrodAll enc P W' 0 (λ b=>decide (b<W.heap.size)) true ts vs ds ps
 | [],_,_,_,_,h,_=>by
  obtain⟨rfl,rfl,rfl⟩:=trodAll_nil h
  exact rfl
 | t::ts,_,_,_,ht,h,hs=>by
  obtain⟨v,vs,d,ds,a,b,rfl,rfl,rfl,h1,h2⟩:=trodAll_cons h
  simp only[List.all_cons,Bool.and_eq_true] at ht
  exact⟨a,b,Below.trod hl ht.1.1 (Nat.le_of_ble_eq_true ht.1.2) h1 hb λ x hx=>hs x (List.mem_append_left _ hx),yC hl hb ht.2 h2 λ x hx=>hs x (List.mem_append_right _ hx),rfl⟩
structure aDx{H:Type}(enc:TypeId×Value->H)(P:Program)(fn:Func)(W:World)(args:List Value)(ds:List (DataW H)):Prop where
 val:∃base,∀(j:Nat) t v,fn.params.toList[j]?=some t->args[j]?=some v->Value.okWide P W .any base t v
 trod:∃p,DataW.TrodAll enc P W 0 (λ _=>true) true fn.params.toList args ds p/\∀x∈p,x.block<W.heap.size
 wt:∀k∈DataW.weightsEach P fn.params.toList ds,k<=reachBytes
theorem r7{P:Program}{H:Type}{enc:TypeId×Value->H}{fn:Func}{s:ChangeSpec}{W W':World}{args:Array Value}{ds gs:List (DataW H)}{before:List MemPlace}{tb:TypeId}
  (hl:laidOutB P=true) (hrd:(fn.params.toList.all λ t=>P.readableRec t&&Nat.blt t P.types.size)=true) (hrt:fn.resultTypes = #[tb]) (hb:P.underlying tb=some .bool)
  (hv:s.vars=[]) (hs:(s.fn H ds).results=[.lit (.bool true)]/\(s.fn H ds).args=ds/\(s.fn H ds).vars=[])
  (hW:DataW.Whole enc P fn.params.toList s.vars false W args.toList ds gs before) (hst:St W [] [] W'):s.post enc P fn false true false false W args (.bool true) W':=by
 have hlt:=λ x hx=>hW.lt x hx
 have hW':=hW;obtain⟨p,q,hA,hV,rfl,_,_⟩:=hW;rw[hv] at hV;obtain⟨rfl,rfl⟩:=trodVars_none hV;refine⟨ds,[],p++[],[],p,[],hW',?_,?_,?_,hst.below.frame _,λ h=>nomatch h⟩;·rw[List.append_nil,hs.1,hrt];exact trodAll_mk1 (shut_bool hb _)
 ·rw[List.append_nil,hs.2.1];exact yC hl hst.below hrd hA λ x hx=>hlt x (by simpa using hx)
 ·rw[List.append_nil,hs.2.2,hv];exact rfl
end
end Go.Ct
namespace Go.Proofs.YthblobahelfefaaGreatDoor
open Go.RowKit Go.Ct
section
theorem aFO:ownKnob Tryz.prog.godebug=none:=by kernel_rfl
theorem aEd:laidOutB Tryz.prog=true:=by kernel_rfl
theorem aFg:Tryz.prog.underlying 4=some .bool:=by kernel_rfl
end
end Go.Proofs.YthblobahelfefaaGreatDoor
namespace Go.Ct
open Go Go.RowKit
section
structure Nd where
 kind:Int
 gen:Int
 main:Int
 bm:Int
 brA:Option Addr
 brN:Nat
 brC:Nat
 hash:Int
 key:ByteArray
 val:Int
 prA:Option Addr
 prN:Nat
 cY:Nat
 prev:Int
 old:Int
 exp:Int
 new:Int
 status:Int
def Nd.cells(n:Nd):List Value:=[.int .i64 n.kind,.int .i64 n.gen,.int .i64 n.main,.int .u64 n.bm,.slice n.brA n.brN n.brC,.int .u64 n.hash,.string n.key,.int .u64 n.val,.slice n.prA n.prN n.cY,.int .i64 n.prev,.int .i64 n.old,.int .i64 n.exp,.int .i64 n.new,.int .i64 n.status]
def Nd.v(n:Nd):Value:=.agg ⟨n.cells⟩
def Nd.zero:Nd:=⟨0,0,0,0,none,0,0,0,⟨#[]⟩,0,none,0,0,0,0,0,0,0⟩
def Nd.own(n:Nd):Nd :=
 if n.kind==2 then{Nd.zero with kind:=n.kind,gen:=n.gen,main:=n.main}
 else if n.kind==3 then{Nd.zero with kind:=n.kind,bm:=n.bm,brA:=n.brA,brN:=n.brN,brC:=n.brC,prev:=n.prev}
 else if n.kind==5 then{Nd.zero with kind:=n.kind,prev:=n.prev,hash:=n.hash,key:=n.key,val:=n.val}
 else if n.kind==4 then{Nd.zero with kind:=n.kind,hash:=n.hash,key:=n.key,val:=n.val}
 else if n.kind==6 then{Nd.zero with kind:=n.kind,hash:=n.hash,prA:=n.prA,prN:=n.prN,cY:=n.cY,prev:=n.prev}
 else if n.kind==8 then{Nd.zero with kind:=n.kind,exp:=n.exp,new:=n.new,status:=n.status,old:=n.old}
 else if n.kind==7 then{Nd.zero with kind:=n.kind,old:=n.old}
 else{Nd.zero with kind:=n.kind}
structure Jy(w:World)(n:Nd)(xs:List Int)(ys:List Pr):Prop where
 brN:n.brN=xs.length
 prN:n.prN=ys.length
 br:Cl w n.brA (aN xs)
 pr:Cl w n.prA (cY ys)
 brS:xs.length<4611686018427387904
 prS:ys.length<4611686018427387904
def M8(a b:Nd)(x1 x2:List Int)(y1 y2:List Pr):Prop :=a.kind=b.kind/\a.gen=b.gen/\a.main=b.main/\a.bm=b.bm/\x1=x2/\a.hash=b.hash/\a.key=b.key/\a.val=b.val/\y1=y2/\a.prev=b.prev/\a.old=b.old/\a.exp=b.exp/\a.new=b.new/\a.status=b.status
def Nd.oZ(n:Nd)(xs:List Int):List Int:=if n.kind==3 then xs else []
def Nd.lS(n:Nd)(ys:List Pr):List Pr:=if n.kind==6 then ys else []
theorem Jy.own{w:World}{n:Nd}{xs:List Int}{ys:List Pr}(h:Jy w n xs ys):Jy w n.own (n.oZ xs) (n.lS ys):=by
 have z:(0:Nat)<4611686018427387904:=by decide
 by_cases h3:n.kind=3
 ·have e1:n.oZ xs=xs:=by simp[Nd.oZ,h3]
  have e2:n.lS ys=[]:=by simp[Nd.lS,h3]
  have e3:n.own={Nd.zero with kind:=n.kind,bm:=n.bm,brA:=n.brA,brN:=n.brN,brC:=n.brC,prev:=n.prev}:=by simp[Nd.own,h3]
  rw[e1,e2,e3];exact⟨h.brN,rfl,h.br,Cl.nil _ _,h.brS,z⟩
 ·have e1:n.oZ xs=[]:=by simp[Nd.oZ,h3]
  by_cases h6:n.kind=6
  ·have e2:n.lS ys=ys:=by simp[Nd.lS,h6]
   have e3:n.own={Nd.zero with kind:=n.kind,hash:=n.hash,prA:=n.prA,prN:=n.prN,cY:=n.cY,prev:=n.prev}:=by simp[Nd.own,h6]
   rw[e1,e2,e3];exact⟨rfl,h.prN,Cl.nil _ _,h.pr,z,h.prS⟩
  ·have e2:n.lS ys=[]:=by simp[Nd.lS,h6]
   rw[e1,e2];unfold Nd.own;have h3':(n.kind==3)=false:=by simpa using h3
   have h6':(n.kind==6)=false:=by simpa using h6
   rw[h3',h6'];simp only[Bool.false_eq_true,if_false];repeat' split
   all_goals exact⟨rfl,rfl,Cl.nil _ _,Cl.nil _ _,z,z⟩
theorem Jy.lB{w0 w:World}{H:List (Nat×Obj)}{n:Nd}{xs:List Int}{ys:List Pr}(h:Jy w0 n xs ys)(hw:St w0 [] H w):Jy w n xs ys:=⟨h.brN,h.prN,h.br.lB hw,h.pr.lB hw,h.brS,h.prS⟩
def Ef(x0:Int):Int :=
 let x1:=IntKind.u64.wrap (mA .u64 (mG .u64 x0 1) 6148914691236517205+mA .u64 x0 6148914691236517205)
 let x2:=IntKind.u64.wrap (mA .u64 (mG .u64 x1 2) 3689348814741910323+mA .u64 x1 3689348814741910323)
 let x3:=mA .u64 (IntKind.u64.wrap (mG .u64 x2 4+x2)) 1085102592571150095
 let x4:=IntKind.u64.wrap (x3+mG .u64 x3 8)
 let x5:=IntKind.u64.wrap (x4+mG .u64 x4 16)
 let x6:=IntKind.u64.wrap (x5+mG .u64 x5 32)
 mA .i64 (IntKind.i64.wrap x6) 127
def oh(l:List Pr):Prop:=∀i,i<l.length->(l.getD i (⟨#[]⟩,0)).1.size<=64
def Asc(l:List Pr):Prop:=∀i,1<=i->i<l.length->cG (l.getD (i-1) (⟨#[]⟩,0)).1 (l.getD i (⟨#[]⟩,0)).1=true
def Pos(l:List Int):Prop:=∀i,i<l.length->1<=l.getD i 0
def eW(n:Nd)(xs:List Int)(ys:List Pr):Prop :=
 M8 n n.own xs (n.oZ xs) ys (n.lS ys)/\0<=n.main/\0<=n.prev/\0<=n.status /\
 (n.kind=1∨(n.kind=2/\1<=n.gen)∨(n.kind=3/\(xs.length:Int)=Ef n.bm/\Pos xs)∨((n.kind=4∨n.kind=5)/\n.key.size<=64)∨(n.kind=6/\2<=ys.length/\Asc ys/\oh ys) ∨
  (n.kind=8/\1<=n.exp/\1<=n.new/\1<=n.old)∨(n.kind=7/\1<=n.old))
end
end Go.Ct

/- The engine, part 4: results, calls by contract, loops, a new base. -/
import Derived.Test.YtnilhhnfjfdokaaGreatDoorDraw
set_option linter.unusedSimpArgs false
set_option linter.unusedVariables false
namespace Go.Ct
open Go Go.RowKit
inductive iU(P:Program)(S:List (Nat×Value))(H:List (Nat×Obj)):List ResultVar->List Value->Prop where
 | nil:iU P S H [] []
 | tmp {k:Nat} {v:Value} {r:List ResultVar} {vs:List Value} (hv:look S k=v) (h:iU P S H r vs):iU P S H (.tmp k::r) (v::vs)
 | cell {k ty b i:Nat} {cs:List Value} {T:TypeId} {fr:Nat×Nat} {r:List ResultVar} {vs:List Value} (hx:look S k=.pointer (some ⟨b,0,none⟩)) (ha:At H i b (.cells ⟨cs⟩ T fr)) (ht:gX P ty cs.length=true)
   (h:iU P S H r vs):iU P S H (.cell k ty::r) (.agg ⟨cs⟩::vs)
 | cell1 {k ty b i:Nat} {v:Value} {T:TypeId} {fr:Nat×Nat} {r:List ResultVar} {vs:List Value} (hx:look S k=.pointer (some ⟨b,0,none⟩)) (ha:At H i b (.cells ⟨[v]⟩ T fr)) (ht:one P ty=true)
   (h:iU P S H r vs):iU P S H (.cell k ty::r) (v::vs)
def lV:List Value->Value
 | [v]=>v
 | vs=>.tuple ⟨vs⟩
section
variable{P:Program}{n:Nat}{Q:Exit->Act->World->Prop}{ks:List CK}{S:List (Nat×Value)}{ops:Array Oper}{l:List Oper}
variable{w0:World}{M:List Nat}{H:List (Nat×Obj)}{G:World->Prop}
def pX(T:Array Value):ResultVar->Sem Value
 | .tmp t=>Pure.pure (T.getD t undef)
 | .cell a t=>do loadVar t (<- asAddr (T.getD a undef))
theorem S2{w:World}(hS:xJ n S)(hw:St w0 M H w){rs:List ResultVar}{vs:List Value}(h:iU P S H rs vs) :
  (rs.mapM (pX (dX n S))).run P w=.ok vs w:=by
 have hev:∀t,(dX n S).getD t undef=look S t:=λ t=>congrFun (iB (ds:=[]) hS) (.tmp t)
 induction h with
 | nil=>simp
 | @tmp k v r vs hv _ ih =>
  have h1:(pX (dX n S) (.tmp k)).run P w=.ok v w:=by simp only[pX,hev,hv,Sem.run_pure]
  simp only[List.mapM_cons,Sem.run_bind,h1,Sem.run_pure,Result.andThen_ok,ih]
 | @cell k ty b i cs T fr r vs hx ha ht _ ih =>
  obtain⟨dd,hu,hm,hi⟩:=fX ht
  have hl:=run_loadVar_row w b T ty ⟨cs⟩ fr dd (hw.at ha) hu (by cases dd<;>first|rfl|exact hm) hi
  have h1:(pX (dX n S) (.cell k ty)).run P w=.ok (.agg ⟨cs⟩) w:=by simp only[pX,hev,hx,asAddr,Sem.run_bind,Sem.run_pure,Result.andThen_ok,hl]
  simp only[List.mapM_cons,Sem.run_bind,h1,Sem.run_pure,Result.andThen_ok,ih]
 | @cell1 k ty b i v T fr r vs hx ha ht _ ih =>
  have hc:w.cell? ⟨b,0,none⟩=some v:=by rw[cell_of_row w b 0 ⟨[v]⟩ T fr (hw.at ha)];rfl
  have hl:(loadVar ty ⟨b,0,none⟩).run P w=.ok v w:=by simp[loadVar,Ae ht,hc]
  have h1:(pX (dX n S) (.cell k ty)).run P w=.ok v w:=by simp only[pX,hev,hx,asAddr,Sem.run_bind,Sem.run_pure,Result.andThen_ok,hl]
  simp only[List.mapM_cons,Sem.run_bind,h1,Sem.run_pure,Result.andThen_ok,ih]
theorem Gf{w:World}{fn:Func}{rs:List ResultVar}{vs:List Value}(hS:xJ n S)(hw:St w0 M H w)(hr:fn.results=⟨rs⟩)(h:iU P S H rs vs):(results fn (dX n S)).run P w=.ok (lV vs) w:=by
 have h1:=S2 (P:=P) (n:=n) hS hw h
 have e:results fn (dX n S)=(do
   let vs<-fn.results.mapM (pX (dX n S))
   Pure.pure (if h:vs.size=1 then vs[0] else .tuple vs)):=by
  unfold results
  congr 1
 rw[e,hr,Array.mapM_eq_mapM_toList,Sem.run_bind,Sem.run_map,h1]
 simp only[Result.andThen_ok,Sem.run_pure]
 congr 1
 match vs with
 | []=>rfl
 | [v]=>rfl
 | _::_::_=>simp[lV]
theorem P3{id:Nat}{l l':List Oper}(hl:l=l')(h:JL P n Q ks l'.toArray l' S G):JK P n Q (.code (.region id l.toArray false)::ks) S G:=by subst hl;exact dD h
theorem eA{φ:Prop}{ops:Array Oper}{l:List Nat}(h:aM P ops S G l):aM P ops S (λ w=>φ/\G w) l:=by
 induction h with
 | nil=>exact .nil
 | cons h _ ih =>
  obtain⟨o,d,h1,h2,h3⟩:=h.ex
  exact .cons ⟨o,d,h1,h2,h3.imp (λ h4=>⟨h4.1,⟨λ w hw=>h4.2.run w hw.2⟩⟩) id⟩ ih
theorem eH{φ:Prop}(h:φ->JL P n Q ks ops l S G):JL P n Q ks ops l S (λ w=>φ/\G w):=⟨λ hS w hw=>(h hw.1).run hS w hw.2⟩
theorem eR{φ:Prop}{pl:lQ}{Dl Dp Dq:List Nat}(h:φ->JR P n Q ks ops pl Dl Dp Dq S G):JR P n Q ks ops pl Dl Dp Dq S (λ w=>φ/\G w):=⟨λ fuel listed a w hs hf =>
 (h hs.hG.1).run fuel listed a w ⟨hs.ok,hs.hG.2,hs.size,hs.defers,hs.tsize,hs.cl,hs.dl,hs.slot,hs.pure,λ i hi hl=>by
  obtain⟨o,d,h1,h2,h3⟩:=(hs.load i hi hl).ex
  exact⟨o,d,h1,h2,h3.imp (λ h4=>⟨h4.1,⟨λ w' hw'=>h4.2.run w' ⟨hs.hG.1,hw'⟩⟩⟩) id⟩,hs.tidy,hs.dc⟩ hf⟩
def lD(S:List (Nat×Value)):List Operand->List Value
 | []=>[]
 | x::r=>ev S x::lD S r
theorem cD(S:List (Nat×Value)):lD S []=[]:=rfl
theorem bK{x:Operand}{v:Value}{r:List Operand}{vs:List Value}(hx:ev S x=v)(h:lD S r=vs):lD S (x::r)=v::vs:=by subst hx h;rfl
theorem oR(ao:List Operand):ao.map (ev S)=lD S ao:=by
 induction ao with
 | nil=>rfl
 | cons x r ih=>simp[lD,ih]
def plain(P:Program)(f:FuncId):Bool :=
 match P.funcs[f]? with
 | some fn=>fn.name != "runtime.NumGoroutine" && fn.body.isSome
 | none=>false
theorem lY{f:FuncId}(h:plain P f=true)(args:Array Value)(w:World):(callFunc f args).run P w=.ok (.enter f args) w:=by
 unfold plain at h
 cases hf:P.funcs[f]? with
 | none=>rw[hf] at h;cases h
 | some fn =>
  rw[hf] at h
  simp only[Bool.and_eq_true,bne_iff_ne,ne_eq] at h
  obtain⟨c,hb⟩:=Option.isSome_iff_exists.1 h.2
  simp[callFunc,hf,h.1,hb]
variable{d:Nat}{ty:TypeId}{pos:String}{af:Array Edge}{gd:Option (Nat×Bool)}{dst:Option Nat}
theorem lF{f:FuncId}{ao:List Operand}{at_:Array TypeId}{vs:List Value}(hp:plain P f=true)(ha:lD S ao=vs)(w:World) :
  (execOp (ev S) ⟨dst,.call {callee:=.value (.func f),args:=⟨ao⟩,argTypes:=at_},ty,pos,af,gd⟩).run P w=.ok (.enter f ⟨vs⟩) w:=by
 subst ha
 have hm:(ao.map (ev S)).toArray=⟨lD S ao⟩:=by rw[oR]
 simp[execOp,resolve,ev,Deferred.ofValue,invoke,lY hp,hm]
def kH(K:List (Nat×Value))(S:List (Nat×Value)):Prop:=∀p∈K,look S p.1=p.2
theorem bQ(S:List (Nat×Value)):kH [] S:=λ _ h=>(List.not_mem_nil h).elim
theorem bG{k:Nat}{v:Value}{K:List (Nat×Value)}(hv:look S k=v)(h:kH K S):kH ((k,v)::K) S:=by
 intro p hp
 rcases List.mem_cons.1 hp with rfl|hp
 ·exact hv
 ·exact h p hp
theorem V0{K:List (Nat×Value)}(h:kH K S):dX n (K++S)=dX n S/\∀t,look (K++S) t=look S t:=by
 have key:∀t,look (K++S) t=look S t:=by
  intro t
  induction K with
  | nil=>rfl
  | cons p K ih =>
   have ih:=ih λ q hq=>h q (List.mem_cons_of_mem _ hq)
   simp only[List.cons_append,look]
   cases hb:Nat.beq p.1 t with
   | true =>
    have e:=eX hb
    have:=h p (List.mem_cons_self ..)
    simp only[cond_true]
    rw[<- e,this]
   | false=>exact ih
 refine⟨?_,key⟩
 unfold dX
 congr 1
 funext i
 exact key i.val
theorem xJ.kH{K:List (Nat×Value)}(hS:xJ n S)(hK:(K.all λ p=>Nat.blt p.1 n)=true):xJ n (K++S):=by
 intro p hp
 rcases List.mem_append.1 hp with hp|hp
 ·exact Nat.le_of_ble_eq_true (List.all_eq_true.1 hK p hp)
 ·exact hS p hp
def lP(keys:List Nat)(f:Nat->Value):List (Nat×Value):=keys.map λ k=>(k,f k)
inductive pW(keys:List Nat):List (Nat×Value)->List (Nat×Value)->Prop where
 | refl {S:List (Nat×Value)}:pW keys S S
 | cons {k:Nat} {v:Value} {S1 S:List (Nat×Value)} (hk:keys.elem k=true) (h:pW keys S1 S):pW keys ((k,v)::S1) S
theorem pW.look{keys:List Nat}{S1 S:List (Nat×Value)}(h:pW keys S1 S):∀t,keys.elem t=false->Ct.look S1 t=Ct.look S t:=by
 induction h with
 | refl=>intro t _;rfl
 | @cons k v S1 S hk _ ih =>
  intro t ht
  simp only[Ct.look]
  cases hb:Nat.beq k t with
  | true=>have:=eX hb;subst this;rw[hk] at ht;cases ht
  | false=>exact ih t ht
theorem Hs{f:Nat->Value}{t:Nat}:∀keys:List Nat,look (lP keys f++S) t=if t∈keys then f t else look S t
 | []=>by simp[lP]
 | k::keys=>by
  have ih:=Hs (f:=f) (t:=t) keys
  simp only[lP,List.map_cons,List.cons_append,look]
  cases hb:Nat.beq k t with
  | true=>have:=eX hb;subst this;simp
  | false =>
   have hne:¬t=k:=λ e=>by subst e;simp at hb
   simp only[cond_false,List.mem_cons,hne,false_or]
   exact ih
theorem K9{keys:List Nat}{S1:List (Nat×Value)}{K:List (Nat×Value)}(h:pW keys S1 S)(hK:kH K S1):dX n S1=dX n (K++(lP keys (look S1)++S)):=by
 have h1:∀t,look (lP keys (look S1)++S) t=look S1 t:=by
  intro t
  rw[Hs]
  split
  ·rfl
  ·rename_i hne
   exact(h.look t (by simpa using hne)).symm
 have hK':kH K (lP keys (look S1)++S):=λ p hp=>by rw[h1];exact hK p hp
 rw[(V0 hK').1]
 unfold dX
 congr 1
 funext i
 exact(h1 i.val).symm
theorem xJ.lP{keys:List Nat}{f:Nat->Value}(hS:xJ n S)(hk:(keys.all λ k=>Nat.blt k n)=true):xJ n (Ct.lP keys f++S):=by
 intro p hp
 rcases List.mem_append.1 hp with hp|hp
 ·obtain⟨k,hk1,rfl⟩:=List.mem_map.1 hp
  exact Nat.le_of_ble_eq_true (List.all_eq_true.1 hk k hk1)
 ·exact hS p hp
def kM(n:Nat)(keys:List Nat){X:Type}(K:X->List (Nat×Value))(GI:X->World->Prop)(μ:X->Nat)(S:List (Nat×Value))(m:Nat)(a:Act)(w:World):Prop :=
 ∃x' S1,μ x'<m/\a=⟨dX n S1,[]⟩/\xJ n S1/\kH (K x') S1/\pW keys S1 S/\GI x' w
theorem jr{X:Type}(keys:List Nat)(K:X->List (Nat×Value))(GI:X->World->Prop)(μ:X->Nat){c:Code}(x0:X)(hn:(keys.all λ k=>Nat.blt k n)=true)(hKn:∀x,((K x).all λ p=>Nat.blt p.1 n)=true)
  (hK0:kH (K x0) S) (hG0:∀w,G w->GI x0 w)
  (round:∀x f,JK P n Q (.code c::.inv (kM n keys K GI μ S (μ x))::ks) (K x++(lP keys f++S)) (GI x)) :
  JK P n Q (.code (.loop c)::ks) S G:=⟨λ hS w hw=>by
 simp only[runK]
 have key:∀m x f w,μ x=m->GI x w->∀(b:Frame) (k:List Item) (cs:List Frame),
   ∃e a' w',runK P Q ks e a' w'/\Arrives P (lone (b.at ⟨dX n (K x++(lP keys f++S)),[]⟩ (.code c::.inLoop c::k)) cs w) b k cs e a' w':=by
  intro m
  induction m using Nat.strongRecOn with
  | _ m ih =>
   intro x f w hm hg b k cs
   obtain⟨e,a₁,w₁,hq,harr⟩:=(round x f).run ((hS.lP hn).kH (hKn x)) w hg b (.inLoop c::k) cs
   rw[Cr] at hq
   cases e with
   | normal =>
    obtain⟨x',S1,hlt,rfl,_,hk',hp',hg'⟩:=hq
    obtain⟨e₂,a₂,w₂,hq₂,harr₂⟩:=ih (μ x') (hm▸hlt) x' (look S1) w₁ rfl hg' b k cs
    rw[<- K9 hp' hk'] at harr₂
    exact⟨e₂,a₂,w₂,hq₂,.of_steps (Steps.trans harr (.one step_inLoop)) harr₂⟩
   | exit id=>exact⟨_,a₁,w₁,hq,.pass (x:=.inLoop c) rfl (λ _ _=>.inl (by simp)) harr⟩
   | goto l=>exact⟨_,a₁,w₁,hq,.pass (x:=.inLoop c) rfl (λ _ _=>.inl (by simp)) harr⟩
   | ret=>exact⟨_,a₁,w₁,hq,.pass (x:=.inLoop c) rfl (λ _ _=>.inl (by simp)) harr⟩
   | panic ch=>exact⟨_,a₁,w₁,hq,.pass (x:=.inLoop c) rfl (λ _ _=>.inl (by simp)) harr⟩
   | outgrown=>exact⟨_,a₁,w₁,hq,.pass (x:=.inLoop c) rfl (λ _ _=>.inl (by simp)) harr⟩
 intro b k cs
 have h0:=key (μ x0) x0 (look S) w rfl (hG0 w hw) b k cs
 rw[<- K9 .refl hK0] at h0
 obtain⟨e,a',w',hq,harr⟩:=h0
 exact⟨e,a',w',hq,.of_steps (.one step_loop) harr⟩⟩
theorem Zv{X:Type}{keys:List Nat}{K:X->List (Nat×Value)}{GI:X->World->Prop}{μ:X->Nat}{S0:List (Nat×Value)}{m:Nat}(x':X)(hμ:μ x'<m)(hK:kH (K x') S)(hp:pW keys S S0)(hG:∀w,G w->GI x' w) :
  JK P n Q (.inv (kM n keys K GI μ S0 m)::ks) S G:=⟨λ hS w hw=>⟨x',S,hμ,rfl,hS,hK,hp,hG w hw⟩⟩
theorem Vi{φ:Prop}(h:φ->JK P n Q ks S G):JK P n Q ks S (λ w=>φ/\G w):=⟨λ hS w hw=>(h hw.1).run hS w hw.2⟩
theorem wrap_i64{i:Int}(h0 : -9223372036854775808<=i)(h1:i<=9223372036854775807):IntKind.i64.wrap i=i:=by rw[IntKind.wrap_i64];omega
theorem Sv{d:Nat}{ty:TypeId}{pos:String}{af:Array Edge}{gd:Option (Nat×Bool)}{x y:Operand}{t t':TypeId}{k:Nat}(hx:ev S x=.int .i64 ((k:Nat):Int))(hy:ev S y=.int .i64 1)(hk:k<9223372036854775807) :
  aG P S G ⟨some d,.binOp .add t x y t',ty,pos,af,gd⟩ (.int .i64 ((k+1:Nat):Int)):=by
 have:=pN (P:=P) (G:=G) (d:=d) (ty:=ty) (pos:=pos) (af:=af) (gd:=gd) (t:=t) (t':=t') hx hy
 rw[wrap_i64 (by omega) (by omega)] at this
 exact this
theorem toList_inj{a b:ByteArray}(h:a.toList=b.toList):a=b:=by
 have:=congrArg (λ l:List UInt8=>(⟨l.toArray⟩:ByteArray)) h
 exact ByteArray.ext (by simpa[ByteArray.toList_eq] using this)
theorem Lk(a b:ByteArray):(a.toList==b.toList)=decide (a=b):=by
 rw[Bool.eq_iff_iff];simp only[beq_iff_eq,decide_eq_true_eq]
 exact⟨toList_inj,λ h=>by rw[h]⟩
def cU:Option Addr->Nat|some a=>a.block|none=>0
def dY:Option Addr->Nat|some a=>a.off|none=>0
structure Cl(w:World)(a:Option Addr)(cs:List Value):Prop where
 at_:∀j u,cs[j]?=some u->a=some ⟨cU a,dY a,none⟩/\w.cell? ⟨cU a,dY a+j,none⟩=some u
theorem Cl.ptr{w:World}{a:Option Addr}{cs:List Value}(h:Cl w a cs)(h0:0<cs.length):a=some ⟨cU a,dY a,none⟩:=(h.at_ 0 cs[0] (List.getElem?_eq_getElem h0)).1
theorem Cl.nil(w:World)(a:Option Addr):Cl w a []:=⟨λ j u h=>by simp at h⟩
theorem St.cell0{w:World}(h:St w0 M H w){a:Addr}{v:Value}(hv:w0.cell? a=some v)(hM:a.block∉M):w.cell? a=some v:=by
 have hlt:=World.block_lt_of_cell? w0 a hv
 rw[World.cell?_of_block (h.iL a.block hlt hM)]
 exact hv
theorem Cl.iL{w:World}{a:Option Addr}{cs:List Value}(hc:Cl w0 a cs)(h:St w0 M H w)(hM:cU a∉M):Cl w a cs :=
 ⟨λ j u hj=>⟨(hc.at_ j u hj).1,h.cell0 (hc.at_ j u hj).2 hM⟩⟩
theorem Cl.kJ{w:World}{a:Option Addr}{cs:List Value}(hc:Cl w0 a cs)(h:St w0 [] H w):Cl w a cs:=hc.iL h (by simp)
theorem Cl.block{w:World}{b o:Nat}{pre cs rest:List Value}{T:TypeId}{fr:Nat×Nat}(h:w.heap[b]?=some (.cells ⟨pre++cs++rest⟩ T fr))(ho:pre.length=o):Cl w (some ⟨b,o,none⟩) cs :=
 ⟨λ j u hj=>⟨rfl,by
  have hlt:=(List.getElem?_eq_some_iff.1 hj).1
  show w.cell? ⟨b,o+j,none⟩=some u
  rw[cell_of_row w b (o+j) _ T fr h]
  subst ho
  simp only[List.getElem?_toArray,List.append_assoc]
  rw[List.getElem?_append_right (by omega),Nat.add_sub_cancel_left,List.getElem?_append_left hlt]
  exact hj⟩⟩
def aW(l:List Int):List Value:=l.map (Value.int .i64)
abbrev Pr:=ByteArray×Int
def gK:List Pr->List Value
 | []=>[]
 | p::r=>.string p.1::.int .u64 p.2::gK r
theorem R6{l:List Int}{k:Nat}(h:k<l.length):(aW l)[k]?=some (.int .i64 (l.getD k 0)):=by simp[aW,h,List.getD]
theorem iV:∀l:List Pr,(gK l).length=2*l.length
 | []=>rfl
 | _::r=>by simp only[gK,List.length_cons,iV r];omega
theorem xO:∀{l:List Pr} {k:Nat},k<l.length->(gK l)[2*k]?=some (.string (l.getD k (⟨#[]⟩,0)).1)/\(gK l)[2*k+1]?=some (.int .u64 (l.getD k (⟨#[]⟩,0)).2)
 | [],_,h=>by simp at h
 | p::r,0,_=>⟨rfl,rfl⟩
 | p::r,k+1,h=>by
  have:=xO (l:=r) (k:=k) (by simpa using h)
  rw[show 2*(k+1)=2*k+1+1 by omega]
  simpa[gK] using this
theorem Cl.pw{w:World}{a:Option Addr}{l:List Int}(h:Cl w a (aW l))(h0:0<l.length):a=some ⟨cU a,dY a,none⟩:=h.ptr (by simpa[aW] using h0)
theorem Cl.qk{w:World}{a:Option Addr}{l:List Pr}(h:Cl w a (gK l))(h0:0<l.length):a=some ⟨cU a,dY a,none⟩:=h.ptr (by rw[iV];omega)
variable{a:Option Addr}{x y:Operand}{t e:TypeId}
theorem sA{m c:Nat}{i:Int}{k:IntKind}{sz:Nat}(ht:P.underlying t=some (.slice e))(hs:(P.info? e).map (·.size)=some sz)(ha:a=some ⟨cU a,dY a,none⟩)(h0:0<=i)(h1:i<m)(w:World) :
  (Instr.indexAt t (.slice a m c) (.int k i)).run P w=.ok (.pointer (some ⟨cU a,dY a+i.toNat*sz,none⟩)) w:=by
 have he:P.elem t=e:=by simp[Program.elem,ht]
 rw[ha]
 rw[run_indexAt_slice w t ⟨cU a,dY a,none⟩ m c k i (by rw[he];exact ht),if_pos ⟨h0,h1⟩,he]
 cases hi:P.info? e with
 | none=>rw[hi] at hs;simp at hs
 | some info =>
  rw[hi] at hs
  simp only[Option.map_some,Option.some.injEq] at hs
  simp[Go.sizeOf,typeInfo,hi,hs,Addr.add_lit,cU,dY]
theorem Ci{m c:Nat}{k:Nat}{kk:IntKind}(hx:ev S x=.slice a m c)(hy:ev S y=.int kk ((k:Nat):Int))(ht:P.underlying t=some (.slice e))(hs:one P e=true)(ha:a=some ⟨cU a,dY a,none⟩)(h1:k<m) :
  aG P S G ⟨some d,.indexAddr t x y,ty,pos,af,gd⟩ (.pointer (some ⟨cU a,dY a+k,none⟩)):=⟨λ w _=>by
 have hsz:(P.info? e).map (·.size)=some 1:=by
  unfold one at hs
  cases hi:P.info? e with
  | none=>simp[hi] at hs
  | some i =>
   cases hu:P.underlying e with
   | none=>simp[hi,hu] at hs
   | some dd=>simp only[hi,hu,Bool.and_eq_true,beq_iff_eq] at hs;simp[hs.1]
 have:=sA (P:=P) (a:=a) (m:=m) (c:=c) (k:=kk) ht hsz ha (i:=(k:Int)) (by omega) (by omega) w
 simp only[Int.toNat_natCast,Nat.mul_one] at this
 simp[execOp,hx,hy,this]⟩
theorem T3{m c:Nat}{k:Nat}{kk:IntKind}(hx:ev S x=.slice a m c)(hy:ev S y=.int kk ((k:Nat):Int))(ht:P.underlying t=some (.slice e))(hs:gX P e 2=true)(ha:a=some ⟨cU a,dY a,none⟩)(h1:k<m) :
  aG P S G ⟨some d,.indexAddr t x y,ty,pos,af,gd⟩ (.pointer (some ⟨cU a,dY a+2*k,none⟩)):=⟨λ w _=>by
 obtain⟨_,_,_,hsz⟩:=fX hs
 have:=sA (P:=P) (a:=a) (m:=m) (c:=c) (k:=kk) ht hsz ha (i:=(k:Int)) (by omega) (by omega) w
 simp only[Int.toNat_natCast,Nat.mul_comm k 2] at this
 simp[execOp,hx,hy,this]⟩
theorem Qh{cs:List Value}{q:Nat}{v u:Value}(hx:ev S x=.pointer (some ⟨cU a,dY a+q,none⟩))(ht:gX P t 2=true)(hcl:Cl w0 a cs)(hq:cs[q]?=some v)(hq1:cs[q+1]?=some u)(hM:cU a∉M) :
  aG P S (St w0 M H) ⟨some d,.load t x,ty,pos,af,gd⟩ (.agg ⟨[v,u]⟩):=⟨λ w hw=>by
 have hc:=hw.cell0 (hcl.at_ q v hq).2 hM
 have hc1:=hw.cell0 (hcl.at_ (q+1) u hq1).2 hM
 obtain⟨dd,hu,hm,hi⟩:=fX ht
 have hagg:(isAgg t).run P w=.ok true w:=by
  unfold isAgg
  rw[Sem.run_bind,run_underlying hu w]
  cases dd<;>simp_all
 have hl:(loadCells ⟨cU a,dY a+q,none⟩ 2).run P w=.ok ⟨[v,u]⟩ w:=by
  have:=run_loadCells_list (P:=P) w ⟨cU a,dY a+q,none⟩ [v,u] (λ j z hz=>by
   match j,hz with
   | 0,hz=>simp at hz;subst hz;simpa[Addr.add_zero'] using hc
   | 1,hz=>simp at hz;subst hz;rw[Addr.add_lit];exact hc1)
  simpa using this
 cases hq':P.info? t with
 | none=>rw[hq'] at hi;simp at hi
 | some i =>
  have hs:i.size=2:=by rw[hq'] at hi;simpa using hi
  simp[execOp,hx,Instr.loadAt,Instr.sureAddr,loadVar,hagg,Go.sizeOf,typeInfo,hq',hs,hl]⟩
end
end Go.Ct

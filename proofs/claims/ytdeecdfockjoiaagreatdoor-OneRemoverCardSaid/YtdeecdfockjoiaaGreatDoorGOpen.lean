/- Merged. -/
import Derived.Test.YtdeecdfockjoiaaGreatDoorGFun
import Derived.Test.YtdeecdfockjoiaaGreatDoorTab
import Derived.Deep.Slices
import Derived.Test.YtdeecdfockjoiaaGreatDoorCards
import Derived.Test.YtdeecdfockjoiaaGreatDoorTie
import Derived.Deep.DeepHandedRow
import Derived.Lib.LaidTab
set_option linter.unusedSimpArgs false
set_option linter.unusedVariables false
namespace Go.Ct
open Go Go.RowKit Go.ChangeShapes Go.WideShapes Go.ChangeAt
section
structure Rd{H:Type}(enc:TypeId×Value->H)(P:Program)(W:World)(t:TypeId)(cs:List Value)(d:DataW H):Prop where
 rd:∃n p,DataW.trod enc P W 0 (λ _=>true) true n t cs=some (d,p)
 wt:∀k∈d.weights P t,k<=reachBytes
section
variable{H:Type}{enc:TypeId×Value->H}{P:Program}{W:World}{t e:TypeId}{cs:List Value}{d:DataW H}
theorem Rd.int{k:IntKind}(h:Rd enc P W t cs d)(ht:P.underlying t=some (.int k)):∃i,cs=[.int k i]/\(Lit.int k i).wf=true:=by obtain⟨n,p,hr⟩:=h.rd;obtain⟨i,h1,_,h2⟩:=DataW.trod_int ht hr;exact⟨i,h1,h2⟩
theorem vC{k:Nat}{d:DataW H}:∀{l:List (DataW H)},d∈l->k∈d.weights P e->k∈DataW.weightsAll P e l
 | x::r,hd,hk=>by
  simp only[DataW.weightsAll,List.mem_append];rcases List.mem_cons.1 hd with rfl|hd;·exact .inl hk
  ·exact .inr (vC hd hk)
theorem Rd.slice(h:Rd enc P W t cs d)(ht:P.underlying t=some (.slice e))(h0:0<P.cellsOf e) :
  ∃(a:Option Addr) (m c:Nat) (C:Nat->List Value) (D:Nat->DataW H),cs=[.slice a m c]/\m<=c/\c*P.bytesOf e<=reachBytes /\
   ∀i,i<m->(C i).length=P.cellsOf e/\(∀j u,(C i)[j]?=some u->a=some ⟨dJ a,eQ a,none⟩/\W.cell? ⟨dJ a,eQ a+(i*P.cellsOf e+j),none⟩=some u)/\Rd enc P W e (C i) (D i):=by
 obtain⟨n,p,hr⟩:=h.rd;rcases Deep.open_slice ht hr with⟨rfl,_⟩|⟨a,len,cap,m,n',D,Pl,rfl,hb,hl,hm,hmm,hx,hel⟩;·exact⟨none,0,0,λ _=>[],λ _=>.nil,rfl,Nat.le_refl _,by simp,λ i hi=>absurd hi (Nat.not_lt_zero i)⟩
 ·simp only[if_true] at hmm;subst hmm;simp only[Prod.mk.injEq] at hx;obtain⟨hd,_⟩:=hx;have hw:=h.wt;subst hd;have hwt:∀i,i<len->∀k∈(D i).weights P e,k<=reachBytes:=λ i hi k hk=>hw k (by simp only[DataW.weights,ht,List.mem_cons,List.mem_append];exact .inr (.inl (vC (List.mem_map.2 ⟨i,List.mem_range.2 hi,rfl⟩) hk)))
  obtain⟨C,hC⟩:=Deep.choose_lt (α:=List Value) (n:=len) (p:=λ i cs'=>W.cells? 0 (a.add (i*P.cellsOf e)) (P.cellsOf e)=some cs'/\DataW.trod enc P W 0 (λ _=>true) true n' e cs'=some (D i,Pl i)) (λ i hi=>hel i (by omega));refine⟨some a,len,m,C,D,rfl,hl,?_,λ i hi=>?_⟩
  ·have:=hw ((((List.range len).map D).length+((List.range (m-len)).map λ j=>D (len+j)).length)*P.bytesOf e) (by simp[DataW.weights,ht])
   simp only[List.length_map,List.length_range] at this;rwa [show len+(m-len)=m by omega] at this
  ·obtain⟨h1,h2⟩:=hC i hi;obtain⟨_,hlen,hcell⟩:=World.cells?_some h1;refine⟨hlen,λ j u hj=>?_,⟨n',Pl i,h2⟩,hwt i hi⟩;have hjl:j<P.cellsOf e:=by rw[<- hlen];exact(List.getElem?_eq_some_iff.1 hj).1
   have hc:=(hcell j hjl).trans hj;obtain⟨b,o,s⟩:=a;have hs:s=none:=by
    obtain⟨g1,_⟩:=hC 0 (by omega);obtain⟨_,glen,gcell⟩:=World.cells?_some g1;have g:=gcell 0 h0;rw[List.getElem?_eq_getElem (by rw[glen];exact h0)] at g;simp only[Nat.zero_mul,Addr.add,if_true] at g;unfold World.cell? at g;cases s with
    | none=>rfl
    | some z=>split at g<;>simp at g
   subst hs;refine⟨rfl,?_⟩;have e1:(((⟨b,o,none⟩:Addr).add (i*P.cellsOf e)).add j)=⟨b,o+(i*P.cellsOf e+j),none⟩:=by rw[Addr.add_lit,Addr.add_lit];congr 1;omega
   rw[e1] at hc;exact hc
theorem Pm{α:Type}{a:Option Addr}{f:α->List Value}{sz:Nat}(h0:0<sz)(hf:∀x,(f x).length=sz):∀(xs:List α) (i0:Nat),
  (∀i x,xs[i]?=some x->∀j u,(f x)[j]?=some u->a=some ⟨dJ a,eQ a,none⟩/\W.cell? ⟨dJ a,eQ a+((i0+i)*sz+j),none⟩=some u) ->
  ∀q u,(xs.flatMap f)[q]?=some u->a=some ⟨dJ a,eQ a,none⟩/\W.cell? ⟨dJ a,eQ a+(i0*sz+q),none⟩=some u
 | [],_,_,q,u,h=>by simp at h
 | x::xs,i0,h,q,u,hq=>by
  simp only[List.flatMap_cons] at hq;by_cases hlt:q<sz;·rw[List.getElem?_append_left (by rw[hf];exact hlt)] at hq;have:=h 0 x rfl q u hq;simpa using this
  ·rw[List.getElem?_append_right (by rw[hf];omega),hf] at hq;have:=Pm h0 hf xs (i0+1) (λ i y hy j v hj=>by have:=h (i+1) y (by simpa using hy) j v hj;rwa [show i0+(i+1)=i0+1+i by omega] at this) (q-sz) u hq
   rwa [show(i0+1)*sz+(q-sz)=i0*sz+q by rw[Nat.add_mul];omega] at this
theorem Gf:∀l:List Int,aT l=l.flatMap λ i=>[.int .i64 i]
 | []=>rfl
 | p::r=>by simp[aT,<- Gf r]
def tY(i:Int):Prop := -9223372036854775808<=i/\i<=9223372036854775807
def Kx(i:Int):Prop:=0<=i/\i<=18446744073709551615
theorem aAw{n:Int}(h:(Lit.int .i64 n).wf=true):tY n:=by simp[Lit.wf,IntKind.min,IntKind.max,IntKind.signed,IntKind.bits] at h;exact h
theorem aBC{n:Int}(h:(Lit.int .u64 n).wf=true):Kx n:=by simp[Lit.wf,IntKind.min,IntKind.max,IntKind.signed,IntKind.bits] at h;exact h
theorem Rd.refs(h:Rd enc P W t cs d)(ht:P.underlying t=some (.slice e))(he:P.underlying e=some (.int .i64))(hc:P.cellsOf e=1)(hb:P.bytesOf e=8) :
  ∃(a:Option Addr) (l:List Int) (c:Nat),cs=[.slice a l.length c]/\l.length<=c/\c<=17592186043904/\Cl W a (aT l)/\∀i∈l,tY i:=by
 obtain⟨a,m,c,C,D,rfl,hm,hw,hel⟩:=h.slice ht (by omega);have hV:∃V:Nat->Int,∀i,i<m->C i=[.int .i64 (V i)]/\(Lit.int .i64 (V i)).wf=true:=Deep.choose_lt λ i hi=>(hel i hi).2.2.int he
 obtain⟨V,hV⟩:=hV;refine⟨a,(List.range m).map V,c,by simp,by simpa using hm,by rw[hb,reachBytes] at hw;omega,?_,λ i hi=>?_⟩
 ·refine⟨λ q u hq=>?_⟩;rw[Gf] at hq
  have:=Pm (W:=W) (a:=a) (f:=λ i=>[.int .i64 i]) (sz:=1) (by decide) (λ _=>rfl) ((List.range m).map V) 0 (λ i x hx j v hj=>by
   have hi:i<m:=by simpa using(List.getElem?_eq_some_iff.1 hx).1
   have hxv:x=V i:=by simpa[hi] using hx.symm
   subst hxv;rw[<- (hV i hi).1] at hj;have:=(hel i hi).2.1 j v hj;rw[hc] at this;simpa using this) q u hq
  simpa using this
 ·obtain⟨k,hk,rfl⟩:=List.mem_map.1 hi;exact aAw (hV k (List.mem_range.1 hk)).2
structure Arg{H:Type}(enc:TypeId×Value->H)(P:Program)(W:World)(t:TypeId)(v:Value)(d:DataW H):Prop where
 val:∃base,Value.okWide P W .any base t v
 rd:Rd enc P W t v.cells.toList d
inductive yQ{H:Type}(enc:TypeId×Value->H)(P:Program)(W:World):List TypeId->List Value->Prop where
 | nil:yQ enc P W [] []
 | cons {t:TypeId} {ts:List TypeId} {v:Value} {vs:List Value} {d:DataW H} (hv:∃base,Value.okWide P W .any base t v) (hr:Rd enc P W t v.cells.toList d) (h:yQ enc P W ts vs):yQ enc P W (t::ts) (v::vs)
variable{ts:List TypeId}{vs args:List Value}
theorem yQ.next(h:yQ enc P W (t::ts) vs):∃v vs' d,vs=v::vs'/\Arg enc P W t v d/\yQ enc P W ts vs':=by
 cases h with
 | @cons _ _ v vs d hv hr h=>exact⟨v,vs,d,rfl,⟨hv,hr⟩,h⟩
theorem yQ.done(h:yQ enc P W [] vs):vs=[]:=by cases h;rfl
theorem fk{base:Nat}{ds:List (DataW H)}{p:List MemPlace}(hv:∀(j:Nat) t v,ts[j]?=some t->args[j]?=some v->Value.okWide P W .any base t v)(ht:DataW.TrodAll enc P W 0 (λ _=>true) true ts args ds p)(hw:∀k∈DataW.weightsEach P ts ds,k<=reachBytes):yQ enc P W ts args:=by
 induction ts generalizing args ds p with
 | nil=>obtain⟨rfl,_,_⟩:=trodAll_nil ht;exact .nil
 | cons t ts ih=>obtain⟨v,vs,d,ds',a,b,rfl,rfl,rfl,h1,h2⟩:=trodAll_cons ht;refine .cons (d:=d) ⟨base,hv 0 t v rfl rfl⟩ ?_ (ih (λ j t' v' hj hj'=>hv (j+1) t' v' (by simpa using hj) (by simpa using hj')) h2 (λ k hk=>hw k (by simp only[DataW.weightsEach,List.mem_append];exact .inr hk)));obtain⟨n,hn⟩:=h1;exact⟨⟨n,a,hn⟩,λ k hk=>hw k (by simp only[DataW.weightsEach,List.mem_append];exact .inl hk)⟩
theorem aBc.split{fn:Func}{ds:List (DataW H)}(h:aBc enc P fn W args ds):yQ enc P W fn.params.toList args:=by
 obtain⟨⟨base,hv⟩,⟨p,ht,_⟩,hw⟩:=h
 exact fk hv ht hw
variable{v:Value}
theorem Arg.int{k:IntKind}(h:Arg enc P W t v d)(ht:P.underlying t=some (.int k)):∃i,v=.int k i/\(Lit.int k i).wf=true:=by obtain⟨⟨base,hv⟩,hr⟩:=h;obtain⟨i,hi⟩:=okWide_int ht hv;subst hi;obtain⟨j,hj,hw⟩:=hr.int ht;simp[Value.cells] at hj;subst hj;exact⟨_,rfl,hw⟩
theorem Arg.slv(h:Arg enc P W t v d)(ht:P.underlying t=some (.slice e)):Rd enc P W t [v] d:=by obtain⟨⟨base,hv⟩,hr⟩:=h;obtain⟨a,m,c,rfl⟩:=okWide_slice ht hv;simpa[Value.cells] using hr
end
end
end Go.Ct
namespace Go.Proofs.YtdeecdfockjoiaaGreatDoor
open Go.Proofs.Tryz
section
open Go.RowKit Go.Ct Go.ChangeShapes Go.WideShapes
theorem aCj:([3,40,23,96,9,176,39].all λ t=>Nat.beq (prog.cellsOf t) 1)=true:=by kernel_rfl
theorem aCz{t:Nat}(h:[3,40,23,96,9,176,39].elem t=true):prog.cellsOf t=1:=fC (List.all_eq_true.1 aCj t (List.mem_of_elem_eq_true h))
theorem aCw:prog.bytesOf 3=8:=by kernel_rfl
theorem aB7:prog.underlying 3=some (.int .i64):=by kernel_rfl
theorem xi:prog.underlying 23=some (.int .u64):=by kernel_rfl
theorem k8:prog.underlying 22=some (.slice 3):=by kernel_rfl
structure aBh(n:Nd)(xs:List Int)(ys:List Pr):Prop where
 kind:tY n.kind
 gen:tY n.gen
 main:tY n.main
 bm:Kx n.bm
 hash:Kx n.hash
 val:Kx n.val
 prev:tY n.prev
 old:tY n.old
 exp:tY n.exp
 new:tY n.new
 status:tY n.status
 key:n.key.size<=140737488351232
 brc:xs.length<=n.brC
 prc:ys.length<=n.dF
 brk:n.brC<=17592186043904
 prk:n.dF<=5864062014634
 xs:∀i∈xs,tY i
 ys:∀p∈ys,p.1.size<=140737488351232/\Kx p.2
section
variable{H:Type}{enc:TypeId×Value->H}{W:World}{cs:List Value}{d:DataW H}{v:Value}
set_option maxRecDepth 100000
theorem Vu{t:Nat}(h:Arg enc prog W t v d)(ht:prog.underlying t=some (.int .u64)):∃i,v=.int .u64 i/\Kx i:=by obtain⟨i,e,hi⟩:=h.int ht;exact⟨i,e,aBC hi⟩
theorem Ra(h:Arg enc prog W 22 v d):∃(a:Option Addr) (l:List Int) (c:Nat),v=.slice a l.length c/\l.length<=c/\c<=17592186043904/\Cl W a (aT l)/\∀i∈l,tY i:=by obtain⟨a,l,c,e,r⟩:=(h.slv k8).refs k8 aB7 (aCz rfl) aCw;simp only[List.cons.injEq,and_true] at e;exact⟨a,l,c,e,r⟩
end
end
section
open Go.RowKit Go.Ct Go.ChangeShapes Go.WideShapes Go.ChangeAt
theorem ng:(false==prog.liftsFinal)=true:=by kernel_rfl
end
section
open Go.RowKit Go.Ct Go.ChangeShapes Go.WideShapes Go.ChangeAt
theorem aBJ:prog.mayEnter=true:=by kernel_rfl
end
section
open Go.RowKit Go.Ct Go.ChangeShapes Go.WideShapes Go.ChangeAt
theorem vg:laidOutB prog=true:=by kernel_rfl
theorem sy:mapsRowed prog=true:=by kernel_rfl
theorem m8:prog.stopsHeard=true:=by kernel_rfl
theorem aDF{a b:Bool}(h1:a=true)(h2:b=true):(a&&b)=true:=by rw[h1,h2];rfl
end
end Go.Proofs.YtdeecdfockjoiaaGreatDoor
namespace Go.Ct
open Go Go.RowKit Go.ChangeShapes Go.WideShapes Go.ChangeAt
section
theorem Js{P:Program}{f:FuncId}{fn:Func}{s:ChangeSpec}{H:Type}{enc:TypeId×Value->H}{tb:TypeId}
  (hl:laidOutB P=true) (hrd:(fn.params.toList.all λ t=>P.readableRec t&&Nat.blt t P.types.size)=true) (hrt:fn.resultTypes = #[tb]) (hb:P.underlying tb=some .bool) (hv:s.vars=[])
  (hs:∀ds:List (DataW H),ds.length=fn.params.size->(s.fn H ds).results=[.lit (.bool true)]/\(s.fn H ds).args=ds/\(s.fn H ds).vars=[])
  {W:World} {base:Nat} {args:Array Value} {ds gs:List (DataW H)} {before:List MemPlace}
  (hval:∀(j:Nat) t v,fn.params[j]?=some t->args[j]?=some v->Value.okWide P W .any base t v)
  (hW:DataW.Whole enc P fn.params.toList s.vars false W args.toList ds gs before)
  (hwt:(DataW.weightsEach P (fn.params.toList++s.plain.varTypes P) (ds++gs)).all (· <= reachBytes)=true)
  (walk:∀args:List Value,aBc enc P fn W args ds->Calls P f ⟨args⟩ W λ e W'=>e=.returned (.bool true)/\St W [] [] W') :
  Calls P f args W λ e W'=>∃v,e=.returned v/\s.post enc P fn false true false false W args v W':=by
 have hlt:=λ x hx=>hW.lt x hx
 have hW':=hW;obtain⟨p,q,hA,hV,rfl,_,_⟩:=hW;have hlen:ds.length=fn.params.size:=by
  have:∀{ts:List TypeId} {vs:List Value} {ds:List (DataW H)} {ps:List MemPlace},DataW.TrodAll enc P W 0 (λ _=>true) true ts vs ds ps->ds.length=ts.length:=by
   intro ts;induction ts with
   | nil=>intro vs ds ps h;obtain⟨_,rfl,_⟩:=trodAll_nil h;rfl
   | cons t ts ih=>intro vs ds ps h;obtain⟨v,vs,d,ds,a,b,rfl,rfl,rfl,_,h2⟩:=trodAll_cons h;simp[ih h2]
  simpa using this hA
 obtain⟨args⟩:=args;have hwt':∀k∈DataW.weightsEach P fn.params.toList ds,k<=reachBytes:=λ k hk=>by
  have h1:=List.all_eq_true.1 hwt k (by
   have:∀{ts ts':List TypeId} {l l':List (DataW H)},k∈DataW.weightsEach P ts l->k∈DataW.weightsEach P (ts++ts') (l++l'):=by
    intro ts;induction ts with
    | nil=>intro ts' l l' h;simp[DataW.weightsEach] at h
    | cons t ts ih=>
     intro ts' l l' h;cases l with
     | nil=>simp[DataW.weightsEach] at h
     | cons x l=>simp only[DataW.weightsEach,List.cons_append,List.mem_append] at h ⊢;exact h.imp id ih
   exact this hk)
  simpa using h1
 refine(walk args ⟨⟨base,λ j t v h1 h2=>hval j t v (by simpa using h1) (by simpa using h2)⟩,⟨p,hA,λ x hx=>hlt x (List.mem_append_left _ hx)⟩,hwt'⟩).mono ?_;rintro e W' ⟨rfl,hst⟩;exact⟨_,rfl,gx hl hrd hrt hb hv (hs ds hlen) hW' hst⟩
end
end Go.Ct
namespace Go.Proofs.YtdeecdfockjoiaaGreatDoor
open Go Go.RowKit Go.Ct Go.ChangeShapes Go.WideShapes Go.ChangeAt
section
def aAp:List Value:=List.map (Value.int .u8) [0,1,28,2,29,14,24,3,30,22,20,15,25,17,4,8,31,27,13,23,21,19,16,7,26,12,18,6,11,5,10,9]
def aA1:List Value:=List.map (Value.int .u8) [0,1,56,2,57,49,28,3,61,58,42,50,38,29,17,4,62,47,59,36,45,43,51,22,53,39,33,30,24,18,12,5,63,55,48,27,60,41,37,16,46,35,44,21,52,32,23,11,54,26,40,15,34,20,31,10,25,14,19,9,13,8,7,6]
def zo:List Value:=List.map (Value.int .u64) [1,10,100,1000,10000,100000,1000000,10000000,100000000,1000000000,10000000000,100000000000,1000000000000,10000000000000,100000000000000,1000000000000000,10000000000000000,100000000000000000,1000000000000000000,10000000000000000000]
abbrev aCF:List (String×DataW Unit):=[("math/bits.deBruijn32tab",Rows.laid_math_bits_deBruijn32tab),("math/bits.deBruijn64tab",Rows.laid_math_bits_deBruijn64tab),("internal/strconv.uint64pow10",Rows.laid_internal_strconv_uint64pow10)]
theorem aAF{W:World}(h:laidMetH Tryz.prog aCF W):True:=trivial
def Vi(cs:List Value):Obj->Obj
 | .cells _ t frozen=>.cells cs.toArray t frozen
 | o=>o
noncomputable def L9 (os:Os):World :={World.holding Tryz.prog os ⟨#[],#[],[]⟩ with heap:=(((World.holding Tryz.prog os ⟨#[],#[],[]⟩).heap.modify 0 (Vi zo)).modify 1 (Vi aAp)).modify 2 (Vi aA1)}
theorem lr(os:Os)(args:Array Value):laidMet Tryz.prog aCF ((L9 os).forCall (λ _ _=>0) ⟨#[],args,[]⟩).memory :=laidMet_of_run' 8 (by kernel_rfl) (by kernel_rfl)
end
end Go.Proofs.YtdeecdfockjoiaaGreatDoor

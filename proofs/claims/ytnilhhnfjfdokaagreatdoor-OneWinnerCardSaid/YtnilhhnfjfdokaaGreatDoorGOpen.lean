/- The arguments are opened. -/
import Derived.Test.YtnilhhnfjfdokaaGreatDoorGMem
import Derived.Test.YtnilhhnfjfdokaaGreatDoorTab
import Derived.Deep.Slices
import Derived.Test.YtnilhhnfjfdokaaGreatDoorCards
import Derived.Test.YtnilhhnfjfdokaaGreatDoorTie
import Derived.Deep.DeepHandedRow
import Derived.Lib.LaidTab

set_option linter.unusedSimpArgs false
set_option linter.unusedVariables false
namespace Go.Ct
section
open Go Go.RowKit Go.ChangeShapes Go.WideShapes Go.ChangeAt
structure Rd{H:Type}(enc:TypeId×Value->H)(P:Program)(W:World)(t:TypeId)(cs:List Value)(d:DataW H):Prop where
 rd:∃n p,DataW.trod enc P W 0 (λ _=>true) true n t cs=some (d,p)
 wt:∀k∈d.weights P t,k<=reachBytes
section
variable{H:Type}{enc:TypeId×Value->H}{P:Program}{W:World}{t e:TypeId}{cs:List Value}{d:DataW H}
theorem Rd.int{k:IntKind}(h:Rd enc P W t cs d)(ht:P.underlying t=some (.int k)):∃i,cs=[.int k i]/\(Lit.int k i).wf=true:=by
 obtain⟨n,p,hr⟩:=h.rd
 obtain⟨i,h1,_,h2⟩:=DataW.trod_int ht hr
 exact⟨i,h1,h2⟩
theorem Rd.str(h:Rd enc P W t cs d)(ht:P.underlying t=some .string):∃s:ByteArray,cs=[.string s]/\s.size<=reachBytes:=by
 obtain⟨n,p,hr⟩:=h.rd
 obtain⟨s,h1,h2,_⟩:=DataW.trod_string ht hr
 refine⟨s,h1,?_⟩
 have hw:=h.wt
 cases h2
 have:=hw s.data.toList.length (by simp[DataW.weights])
 simpa using this
theorem qT{k:Nat}{d:DataW H}:∀{l:List (DataW H)},d∈l->k∈d.weights P e->k∈DataW.weightsAll P e l
 | x::r,hd,hk=>by
  simp only[DataW.weightsAll,List.mem_append]
  rcases List.mem_cons.1 hd with rfl|hd
  ·exact .inl hk
  ·exact .inr (qT hd hk)
theorem Rd.slice(h:Rd enc P W t cs d)(ht:P.underlying t=some (.slice e))(h0:0<P.cellsOf e) :
  ∃(a:Option Addr) (m c:Nat) (C:Nat->List Value) (D:Nat->DataW H),cs=[.slice a m c]/\m<=c/\c*P.bytesOf e<=reachBytes /\
   ∀i,i<m->(C i).length=P.cellsOf e/\(∀j u,(C i)[j]?=some u->a=some ⟨cU a,dY a,none⟩/\W.cell? ⟨cU a,dY a+(i*P.cellsOf e+j),none⟩=some u)/\Rd enc P W e (C i) (D i):=by
 obtain⟨n,p,hr⟩:=h.rd
 rcases Deep.open_slice ht hr with⟨rfl,_⟩|⟨a,len,cap,m,n',D,Pl,rfl,hb,hl,hm,hmm,hx,hel⟩
 ·exact⟨none,0,0,λ _=>[],λ _=>.nil,rfl,Nat.le_refl _,by simp,λ i hi=>absurd hi (Nat.not_lt_zero i)⟩
 ·simp only[if_true] at hmm
  subst hmm
  simp only[Prod.mk.injEq] at hx
  obtain⟨hd,_⟩:=hx
  have hw:=h.wt
  subst hd
  have hwt:∀i,i<len->∀k∈(D i).weights P e,k<=reachBytes:=λ i hi k hk=>hw k (by
   simp only[DataW.weights,ht,List.mem_cons,List.mem_append]
   exact .inr (.inl (qT (List.mem_map.2 ⟨i,List.mem_range.2 hi,rfl⟩) hk)))
  obtain⟨C,hC⟩:=Deep.choose_lt (α:=List Value) (n:=len) (p:=λ i cs'=>W.cells? 0 (a.add (i*P.cellsOf e)) (P.cellsOf e)=some cs'/\DataW.trod enc P W 0 (λ _=>true) true n' e cs'=some (D i,Pl i)) (λ i hi=>hel i (by omega))
  refine⟨some a,len,m,C,D,rfl,hl,?_,λ i hi=>?_⟩
  ·have:=hw ((((List.range len).map D).length+((List.range (m-len)).map λ j=>D (len+j)).length)*P.bytesOf e) (by
    simp[DataW.weights,ht])
   simp only[List.length_map,List.length_range] at this
   rwa [show len+(m-len)=m by omega] at this
  ·obtain⟨h1,h2⟩:=hC i hi
   obtain⟨_,hlen,hcell⟩:=World.cells?_some h1
   refine⟨hlen,λ j u hj=>?_,⟨n',Pl i,h2⟩,hwt i hi⟩
   have hjl:j<P.cellsOf e:=by rw[<- hlen];exact(List.getElem?_eq_some_iff.1 hj).1
   have hc:=(hcell j hjl).trans hj
   obtain⟨b,o,s⟩:=a
   have hs:s=none:=by
    obtain⟨g1,_⟩:=hC 0 (by omega)
    obtain⟨_,glen,gcell⟩:=World.cells?_some g1
    have g:=gcell 0 h0
    rw[List.getElem?_eq_getElem (by rw[glen];exact h0)] at g
    simp only[Nat.zero_mul,Addr.add,if_true] at g
    unfold World.cell? at g
    cases s with
    | none=>rfl
    | some z=>split at g<;>simp at g
   subst hs
   refine⟨rfl,?_⟩
   have e1:(((⟨b,o,none⟩:Addr).add (i*P.cellsOf e)).add j)=⟨b,o+(i*P.cellsOf e+j),none⟩:=by rw[Addr.add_lit,Addr.add_lit];congr 1;omega
   rw[e1] at hc
   exact hc
theorem Hb{α:Type}{a:Option Addr}{f:α->List Value}{sz:Nat}(h0:0<sz)(hf:∀x,(f x).length=sz):∀(xs:List α) (i0:Nat),
  (∀i x,xs[i]?=some x->∀j u,(f x)[j]?=some u->a=some ⟨cU a,dY a,none⟩/\W.cell? ⟨cU a,dY a+((i0+i)*sz+j),none⟩=some u) ->
  ∀q u,(xs.flatMap f)[q]?=some u->a=some ⟨cU a,dY a,none⟩/\W.cell? ⟨cU a,dY a+(i0*sz+q),none⟩=some u
 | [],_,_,q,u,h=>by simp at h
 | x::xs,i0,h,q,u,hq=>by
  simp only[List.flatMap_cons] at hq
  by_cases hlt:q<sz
  ·rw[List.getElem?_append_left (by rw[hf];exact hlt)] at hq
   have:=h 0 x rfl q u hq
   simpa using this
  ·rw[List.getElem?_append_right (by rw[hf];omega),hf] at hq
   have:=Hb h0 hf xs (i0+1) (λ i y hy j v hj=>by
    have:=h (i+1) y (by simpa using hy) j v hj
    rwa [show i0+(i+1)=i0+1+i by omega] at this) (q-sz) u hq
   rwa [show(i0+1)*sz+(q-sz)=i0*sz+q by rw[Nat.add_mul];omega] at this
theorem A8:∀l:List Int,aW l=l.flatMap λ i=>[.int .i64 i]
 | []=>rfl
 | p::r=>by simp[aW,<- A8 r]
def pD(i:Int):Prop := -9223372036854775808<=i/\i<=9223372036854775807
def Ei(i:Int):Prop:=0<=i/\i<=18446744073709551615
theorem iw{n:Int}(h:(Lit.int .i64 n).wf=true):pD n:=by
 simp[Lit.wf,IntKind.min,IntKind.max,IntKind.signed,IntKind.bits] at h
 exact h
theorem fj{n:Int}(h:(Lit.int .u64 n).wf=true):Ei n:=by
 simp[Lit.wf,IntKind.min,IntKind.max,IntKind.signed,IntKind.bits] at h
 exact h
theorem Rd.refs(h:Rd enc P W t cs d)(ht:P.underlying t=some (.slice e))(he:P.underlying e=some (.int .i64))(hc:P.cellsOf e=1)(hb:P.bytesOf e=8) :
  ∃(a:Option Addr) (l:List Int) (c:Nat),cs=[.slice a l.length c]/\l.length<=c/\c<=17592186043904/\Cl W a (aW l)/\∀i∈l,pD i:=by
 obtain⟨a,m,c,C,D,rfl,hm,hw,hel⟩:=h.slice ht (by omega)
 have hV:∃V:Nat->Int,∀i,i<m->C i=[.int .i64 (V i)]/\(Lit.int .i64 (V i)).wf=true:=Deep.choose_lt λ i hi=>(hel i hi).2.2.int he
 obtain⟨V,hV⟩:=hV
 refine⟨a,(List.range m).map V,c,by simp,by simpa using hm,by rw[hb,reachBytes] at hw;omega,?_,λ i hi=>?_⟩
 ·refine⟨λ q u hq=>?_⟩
  rw[A8] at hq
  have:=Hb (W:=W) (a:=a) (f:=λ i=>[.int .i64 i]) (sz:=1) (by decide) (λ _=>rfl) ((List.range m).map V) 0 (λ i x hx j v hj=>by
   have hi:i<m:=by simpa using(List.getElem?_eq_some_iff.1 hx).1
   have hxv:x=V i:=by simpa[hi] using hx.symm
   subst hxv
   rw[<- (hV i hi).1] at hj
   have:=(hel i hi).2.1 j v hj
   rw[hc] at this
   simpa using this) q u hq
  simpa using this
 ·obtain⟨k,hk,rfl⟩:=List.mem_map.1 hi
  exact iw (hV k (List.mem_range.1 hk)).2
structure Arg{H:Type}(enc:TypeId×Value->H)(P:Program)(W:World)(t:TypeId)(v:Value)(d:DataW H):Prop where
 val:∃base,Value.okWide P W .any base t v
 rd:Rd enc P W t v.cells.toList d
inductive sZ{H:Type}(enc:TypeId×Value->H)(P:Program)(W:World):List TypeId->List Value->Prop where
 | nil:sZ enc P W [] []
 | cons {t:TypeId} {ts:List TypeId} {v:Value} {vs:List Value} {d:DataW H} (hv:∃base,Value.okWide P W .any base t v) (hr:Rd enc P W t v.cells.toList d) (h:sZ enc P W ts vs):sZ enc P W (t::ts) (v::vs)
theorem sZ.next{ts:List TypeId}{vs:List Value}(h:sZ enc P W (t::ts) vs):∃v vs' d,vs=v::vs'/\Arg enc P W t v d/\sZ enc P W ts vs':=by
 cases h with
 | @cons _ _ v vs d hv hr h=>exact⟨v,vs,d,rfl,⟨hv,hr⟩,h⟩
theorem sZ.done{vs:List Value}(h:sZ enc P W [] vs):vs=[]:=by cases h;rfl
theorem Ty{base:Nat}{ts:List TypeId}{args:List Value}{ds:List (DataW H)}{p:List MemPlace}(hv:∀(j:Nat) t v,ts[j]?=some t->args[j]?=some v->Value.okWide P W .any base t v)
  (ht:DataW.TrodAll enc P W 0 (λ _=>true) true ts args ds p) (hw:∀k∈DataW.weightsEach P ts ds,k<=reachBytes):sZ enc P W ts args:=by
 induction ts generalizing args ds p with
 | nil=>obtain⟨rfl,_,_⟩:=trodAll_nil ht;exact .nil
 | cons t ts ih =>
  obtain⟨v,vs,d,ds',a,b,rfl,rfl,rfl,h1,h2⟩:=trodAll_cons ht
  refine .cons (d:=d) ⟨base,hv 0 t v rfl rfl⟩ ?_ (ih (λ j t' v' hj hj'=>hv (j+1) t' v' (by simpa using hj) (by simpa using hj')) h2 (λ k hk=>hw k (by simp only[DataW.weightsEach,List.mem_append];exact .inr hk)))
  obtain⟨n,hn⟩:=h1
  exact⟨⟨n,a,hn⟩,λ k hk=>hw k (by simp only[DataW.weightsEach,List.mem_append];exact .inl hk)⟩
theorem gx.split{fn:Func}{args:List Value}{ds:List (DataW H)}(h:gx enc P fn W args ds):sZ enc P W fn.params.toList args:=by
 obtain⟨⟨base,hv⟩,⟨p,ht,_⟩,hw⟩:=h
 exact Ty hv ht hw
variable{v:Value}
theorem Arg.int{k:IntKind}(h:Arg enc P W t v d)(ht:P.underlying t=some (.int k)):∃i,v=.int k i/\(Lit.int k i).wf=true:=by
 obtain⟨⟨base,hv⟩,hr⟩:=h
 obtain⟨i,hi⟩:=okWide_int ht hv
 subst hi
 obtain⟨j,hj,hw⟩:=hr.int ht
 simp[Value.cells] at hj
 subst hj
 exact⟨_,rfl,hw⟩
theorem Arg.str(h:Arg enc P W t v d)(ht:P.underlying t=some .string):∃s:ByteArray,v=.string s/\s.size<=140737488351232:=by
 obtain⟨⟨base,hv⟩,hr⟩:=h
 obtain⟨s,rfl⟩:=okWide_string ht hv
 obtain⟨j,hj,hw⟩:=hr.str ht
 simp[Value.cells] at hj
 subst hj
 exact⟨_,rfl,hw⟩
theorem Arg.rq(h:Arg enc P W t v d)(ht:P.underlying t=some (.slice e)):Rd enc P W t [v] d:=by
 obtain⟨⟨base,hv⟩,hr⟩:=h
 obtain⟨a,m,c,rfl⟩:=okWide_slice ht hv
 simpa[Value.cells] using hr
end
end

/- The arguments are opened: the types of the program. -/
end Go.Ct
namespace Go.Proofs.YtnilhhnfjfdokaaGreatDoor
section
open Go.RowKit Go.Ct Go.ChangeShapes Go.WideShapes
theorem mq:([3,36,23,94,9,159,35].all λ t=>Nat.beq (Tryz.prog.cellsOf t) 1)=true:=by kernel_rfl
theorem kt{t:Nat}(h:[3,36,23,94,9,159,35].elem t=true):Tryz.prog.cellsOf t=1:=eX (List.all_eq_true.1 mq t (List.mem_of_elem_eq_true h))
theorem ko:Tryz.prog.bytesOf 3=8:=by kernel_rfl
theorem lb:Tryz.prog.underlying 3=some (.int .i64):=by kernel_rfl
theorem ar:Tryz.prog.underlying 23=some (.int .u64):=by kernel_rfl
theorem m9:Tryz.prog.underlying 9=some .string:=by kernel_rfl
theorem Vw:Tryz.prog.underlying 22=some (.slice 3):=by kernel_rfl
structure jh(n:Nd)(xs:List Int)(ys:List Pr):Prop where
 kind:pD n.kind
 gen:pD n.gen
 main:pD n.main
 bm:Ei n.bm
 hash:Ei n.hash
 val:Ei n.val
 prev:pD n.prev
 old:pD n.old
 exp:pD n.exp
 new:pD n.new
 status:pD n.status
 key:n.key.size<=140737488351232
 brc:xs.length<=n.brC
 prc:ys.length<=n.gK
 brk:n.brC<=17592186043904
 prk:n.gK<=5864062014634
 xs:∀i∈xs,pD i
 ys:∀p∈ys,p.1.size<=140737488351232/\Ei p.2
section
variable{H:Type}{enc:TypeId×Value->H}{W:World}{cs:List Value}{d:DataW H}{v:Value}
set_option maxRecDepth 100000
theorem Mt{t:Nat}(h:Arg enc Tryz.prog W t v d)(ht:Tryz.prog.underlying t=some (.int .u64)):∃i,v=.int .u64 i/\Ei i:=by
 obtain⟨i,e,hi⟩:=h.int ht
 exact⟨i,e,fj hi⟩
theorem U5(h:Arg enc Tryz.prog W 22 v d):∃(a:Option Addr) (l:List Int) (c:Nat),v=.slice a l.length c/\l.length<=c/\c<=17592186043904/\Cl W a (aW l)/\∀i∈l,pD i:=by
 obtain⟨a,l,c,e,r⟩:=(h.rq Vw).refs Vw lb (kt rfl) ko
 simp only[List.cons.injEq,and_true] at e
 exact⟨a,l,c,e,r⟩
end
end

/- A closed fact of the program. -/
section
open Go.RowKit Go.Ct Go.ChangeShapes Go.WideShapes Go.ChangeAt
theorem Sn:(false==Tryz.prog.liftsFinal)=true:=by kernel_rfl
end

/- A closed fact of the program. -/
section
open Go.RowKit Go.Ct Go.ChangeShapes Go.WideShapes Go.ChangeAt
theorem gu:Tryz.prog.mayEnter=true:=by kernel_rfl
end

/- Closed facts of the program. -/
section
open Go.RowKit Go.Ct Go.ChangeShapes Go.WideShapes Go.ChangeAt
theorem ag:laidOutB Tryz.prog=true:=by kernel_rfl
theorem Xl:mapsRowed Tryz.prog=true:=by kernel_rfl
theorem R0:Tryz.prog.stopsHeard=true:=by kernel_rfl
theorem qc{a b:Bool}(h1:a=true)(h2:b=true):(a&&b)=true:=by rw[h1,h2];rfl
end

/- From the walk of a law to its row and its card, where the row lists the tables of math/bits and strconv. -/
end Go.Proofs.YtnilhhnfjfdokaaGreatDoor
namespace Go.Ct
section
open Go Go.RowKit Go.ChangeShapes Go.WideShapes Go.ChangeAt
theorem Db{P:Program}{f:FuncId}{fn:Func}{s:ChangeSpec}{H:Type}{enc:TypeId×Value->H}{tb:TypeId}
  (hl:laidOutB P=true) (hrd:(fn.params.toList.all λ t=>P.readableRec t&&Nat.blt t P.types.size)=true) (hrt:fn.resultTypes = #[tb]) (hb:P.underlying tb=some .bool) (hv:s.vars=[])
  (hs:∀ds:List (DataW H),ds.length=fn.params.size->(s.fn H ds).results=[.lit (.bool true)]/\(s.fn H ds).args=ds/\(s.fn H ds).vars=[])
  {W:World} {base:Nat} {args:Array Value} {ds gs:List (DataW H)} {before:List MemPlace}
  (hval:∀(j:Nat) t v,fn.params[j]?=some t->args[j]?=some v->Value.okWide P W .any base t v)
  (hW:DataW.Whole enc P fn.params.toList s.vars false W args.toList ds gs before)
  (hwt:(DataW.weightsEach P (fn.params.toList++s.plain.varTypes P) (ds++gs)).all (· <= reachBytes)=true)
  (walk:∀args:List Value,gx enc P fn W args ds->Calls P f ⟨args⟩ W λ e W'=>e=.returned (.bool true)/\St W [] [] W') :
  Calls P f args W λ e W'=>∃v,e=.returned v/\s.post enc P fn false true false false W args v W':=by
 have hlt:=λ x hx=>hW.lt x hx
 have hW':=hW
 obtain⟨p,q,hA,hV,rfl,_,_⟩:=hW
 have hlen:ds.length=fn.params.size:=by
  have:∀{ts:List TypeId} {vs:List Value} {ds:List (DataW H)} {ps:List MemPlace},DataW.TrodAll enc P W 0 (λ _=>true) true ts vs ds ps->ds.length=ts.length:=by
   intro ts
   induction ts with
   | nil=>intro vs ds ps h;obtain⟨_,rfl,_⟩:=trodAll_nil h;rfl
   | cons t ts ih=>intro vs ds ps h;obtain⟨v,vs,d,ds,a,b,rfl,rfl,rfl,_,h2⟩:=trodAll_cons h;simp[ih h2]
  simpa using this hA
 obtain⟨args⟩:=args
 have hwt':∀k∈DataW.weightsEach P fn.params.toList ds,k<=reachBytes:=λ k hk=>by
  have h1:=List.all_eq_true.1 hwt k (by
   have:∀{ts ts':List TypeId} {l l':List (DataW H)},k∈DataW.weightsEach P ts l->k∈DataW.weightsEach P (ts++ts') (l++l'):=by
    intro ts
    induction ts with
    | nil=>intro ts' l l' h;simp[DataW.weightsEach] at h
    | cons t ts ih =>
     intro ts' l l' h
     cases l with
     | nil=>simp[DataW.weightsEach] at h
     | cons x l =>
      simp only[DataW.weightsEach,List.cons_append,List.mem_append] at h ⊢
      exact h.imp id ih
   exact this hk)
  simpa using h1
 refine(walk args ⟨⟨base,λ j t v h1 h2=>hval j t v (by simpa using h1) (by simpa using h2)⟩,⟨p,hA,λ x hx=>hlt x (List.mem_append_left _ hx)⟩,hwt'⟩).mono ?_
 rintro e W' ⟨rfl,hst⟩
 exact⟨_,rfl,Ud hl hrd hrt hb hv (hs ds hlen) hW' hst⟩
end
end Go.Ct
namespace Go.Proofs.YtnilhhnfjfdokaaGreatDoor
section
open Go Go.RowKit Go.Ct Go.ChangeShapes Go.WideShapes Go.ChangeAt
def ig:List Value:=List.map (Value.int .u8) [0,1,28,2,29,14,24,3,30,22,20,15,25,17,4,8,31,27,13,23,21,19,16,7,26,12,18,6,11,5,10,9]
def fp:List Value:=List.map (Value.int .u8) [0,1,56,2,57,49,28,3,61,58,42,50,38,29,17,4,62,47,59,36,45,43,51,22,53,39,33,30,24,18,12,5,63,55,48,27,60,41,37,16,46,35,44,21,52,32,23,11,54,26,40,15,34,20,31,10,25,14,19,9,13,8,7,6]
def jf:List Value:=List.map (Value.int .u64) [1,10,100,1000,10000,100000,1000000,10000000,100000000,1000000000,10000000000,100000000000,1000000000000,10000000000000,100000000000000,1000000000000000,10000000000000000,100000000000000000,1000000000000000000,10000000000000000000]
abbrev k0:List (String×DataW Unit):=[("math/bits.deBruijn32tab",Rows.laid_math_bits_deBruijn32tab),("math/bits.deBruijn64tab",Rows.laid_math_bits_deBruijn64tab),("internal/strconv.uint64pow10",Rows.laid_internal_strconv_uint64pow10)]
theorem jb{W:World}(h:laidMetH Tryz.prog k0 W):True:=trivial
def Ko(cs:List Value):Obj->Obj
 | .cells _ t frozen=>.cells cs.toArray t frozen
 | o=>o
noncomputable def Ec (os:Os):World :=
 {World.holding Tryz.prog os ⟨#[],#[],[]⟩ with heap:=(((World.holding Tryz.prog os ⟨#[],#[],[]⟩).heap.modify 0 (Ko jf)).modify 1 (Ko ig)).modify 2 (Ko fp)}
theorem Vh(os:Os)(args:Array Value):laidMet Tryz.prog k0 ((Ec os).forCall (λ _ _=>0) ⟨#[],args,[]⟩).memory :=
 laidMet_of_run' 8 (by kernel_rfl) (by kernel_rfl)
end

end Go.Proofs.YtnilhhnfjfdokaaGreatDoor

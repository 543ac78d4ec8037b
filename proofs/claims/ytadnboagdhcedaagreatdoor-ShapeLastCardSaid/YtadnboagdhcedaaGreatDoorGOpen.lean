/- The arguments are opened. -/
import Derived.Test.YtadnboagdhcedaaGreatDoorGMem
import Derived.Test.YtadnboagdhcedaaGreatDoorTab
import Derived.Deep.Slices

set_option linter.unusedSimpArgs false
set_option linter.unusedVariables false
namespace Go.Ct
section
open Go Go.RowKit Go.ChangeShapes Go.WideShapes Go.ChangeAt
structure Rd{H:Type}(enc:TypeId×Value->H)(P:Program)(W:World)(t:TypeId)(cs:List Value)(d:DataW H):Prop where
 rd:∃n p,DataW.trod enc P W 0 (λ _=>true) true n t cs=some (d,p)
 wt:∀k∈d.weights P t,k<=reachBytes
section
variable{H:Type}{enc:TypeId×Value->H}{P:Program}{W:World}{t e:TypeId}{cs:List Value}{d:DataW H}
theorem Rd.int{k:IntKind}(h:Rd enc P W t cs d)(ht:P.underlying t=some (.int k)):∃i,cs=[.int k i]/\(Lit.int k i).wf=true:=by
 obtain⟨n,p,hr⟩:=h.rd
 obtain⟨i,h1,_,h2⟩:=DataW.trod_int ht hr
 exact⟨i,h1,h2⟩
theorem C3{k:Nat}{d:DataW H}:∀{l:List (DataW H)},d∈l->k∈d.weights P e->k∈DataW.weightsAll P e l
 | x::r,hd,hk=>by
  simp only[DataW.weightsAll,List.mem_append]
  rcases List.mem_cons.1 hd with rfl|hd
  ·exact .inl hk
  ·exact .inr (C3 hd hk)
def wL(i:Int):Prop := -9223372036854775808<=i/\i<=9223372036854775807
def Gb(i:Int):Prop:=0<=i/\i<=18446744073709551615
theorem qg{n:Int}(h:(Lit.int .u64 n).wf=true):Gb n:=by
 simp[Lit.wf,IntKind.min,IntKind.max,IntKind.signed,IntKind.bits] at h
 exact h
structure Arg{H:Type}(enc:TypeId×Value->H)(P:Program)(W:World)(t:TypeId)(v:Value)(d:DataW H):Prop where
 val:∃base,Value.okWide P W .any base t v
 rd:Rd enc P W t v.cells.toList d
inductive vM{H:Type}(enc:TypeId×Value->H)(P:Program)(W:World):List TypeId->List Value->Prop where
 | nil:vM enc P W [] []
 | cons {t:TypeId} {ts:List TypeId} {v:Value} {vs:List Value} {d:DataW H} (hv:∃base,Value.okWide P W .any base t v) (hr:Rd enc P W t v.cells.toList d) (h:vM enc P W ts vs):vM enc P W (t::ts) (v::vs)
theorem vM.next{ts:List TypeId}{vs:List Value}(h:vM enc P W (t::ts) vs):∃v vs' d,vs=v::vs'/\Arg enc P W t v d/\vM enc P W ts vs':=by
 cases h with
 | @cons _ _ v vs d hv hr h=>exact⟨v,vs,d,rfl,⟨hv,hr⟩,h⟩
theorem vM.done{vs:List Value}(h:vM enc P W [] vs):vs=[]:=by cases h;rfl
theorem Yt{base:Nat}{ts:List TypeId}{args:List Value}{ds:List (DataW H)}{p:List MemPlace}(hv:∀(j:Nat) t v,ts[j]?=some t->args[j]?=some v->Value.okWide P W .any base t v)
  (ht:DataW.TrodAll enc P W 0 (λ _=>true) true ts args ds p) (hw:∀k∈DataW.weightsEach P ts ds,k<=reachBytes):vM enc P W ts args:=by
 induction ts generalizing args ds p with
 | nil=>obtain⟨rfl,_,_⟩:=trodAll_nil ht;exact .nil
 | cons t ts ih =>
  obtain⟨v,vs,d,ds',a,b,rfl,rfl,rfl,h1,h2⟩:=trodAll_cons ht
  refine .cons (d:=d) ⟨base,hv 0 t v rfl rfl⟩ ?_ (ih (λ j t' v' hj hj'=>hv (j+1) t' v' (by simpa using hj) (by simpa using hj')) h2 (λ k hk=>hw k (by simp only[DataW.weightsEach,List.mem_append];exact .inr hk)))
  obtain⟨n,hn⟩:=h1
  exact⟨⟨n,a,hn⟩,λ k hk=>hw k (by simp only[DataW.weightsEach,List.mem_append];exact .inl hk)⟩
theorem oj.split{fn:Func}{args:List Value}{ds:List (DataW H)}(h:oj enc P fn W args ds):vM enc P W fn.params.toList args:=by
 obtain⟨⟨base,hv⟩,⟨p,ht,_⟩,hw⟩:=h
 exact Yt hv ht hw
variable{v:Value}
theorem Arg.int{k:IntKind}(h:Arg enc P W t v d)(ht:P.underlying t=some (.int k)):∃i,v=.int k i/\(Lit.int k i).wf=true:=by
 obtain⟨⟨base,hv⟩,hr⟩:=h
 obtain⟨i,hi⟩:=okWide_int ht hv
 subst hi
 obtain⟨j,hj,hw⟩:=hr.int ht
 simp[Value.cells] at hj
 subst hj
 exact⟨_,rfl,hw⟩
end
end

/- The arguments are opened: the types of the program. -/
end Go.Ct
namespace Go.Proofs.YtadnboagdhcedaaGreatDoor
section
open Go.RowKit Go.Ct Go.ChangeShapes Go.WideShapes
theorem uq:Tryz.prog.underlying 30=some (.int .u64):=by kernel_rfl
structure lE(n:Nd)(xs:List Int)(ys:List Pr):Prop where
 kind:wL n.kind
 gen:wL n.gen
 main:wL n.main
 bm:Gb n.bm
 hash:Gb n.hash
 val:Gb n.val
 prev:wL n.prev
 bL:wL n.bL
 exp:wL n.exp
 new:wL n.new
 status:wL n.status
 key:n.key.size<=140737488351232
 brc:xs.length<=n.brC
 prc:ys.length<=n.cZ
 brk:n.brC<=17592186043904
 prk:n.cZ<=5864062014634
 xs:∀i∈xs,wL i
 ys:∀p∈ys,p.1.size<=140737488351232/\Gb p.2
section
variable{H:Type}{enc:TypeId×Value->H}{W:World}{cs:List Value}{d:DataW H}{v:Value}
set_option maxRecDepth 100000
theorem gp{t:Nat}(h:Arg enc Tryz.prog W t v d)(ht:Tryz.prog.underlying t=some (.int .u64)):∃i,v=.int .u64 i/\Gb i:=by
 obtain⟨i,e,hi⟩:=h.int ht
 exact⟨i,e,qg hi⟩
end
end

/- A closed fact of the program. -/
section
open Go.RowKit Go.Ct Go.ChangeShapes Go.WideShapes Go.ChangeAt
theorem W9:(false==Tryz.prog.liftsFinal)=true:=by kernel_rfl
end

/- A closed fact of the program. -/
section
open Go.RowKit Go.Ct Go.ChangeShapes Go.WideShapes Go.ChangeAt
theorem sb:Tryz.prog.mayEnter=true:=by kernel_rfl
end

/- Closed facts of the program. -/
section
open Go.RowKit Go.Ct Go.ChangeShapes Go.WideShapes Go.ChangeAt
theorem gy:laidOutB Tryz.prog=true:=by kernel_rfl
theorem gi:mapsRowed Tryz.prog=true:=by kernel_rfl
theorem Y5:Tryz.prog.stopsHeard=true:=by kernel_rfl
theorem zl{a b:Bool}(h1:a=true)(h2:b=true):(a&&b)=true:=by rw[h1,h2];rfl
end

end Go.Proofs.YtadnboagdhcedaaGreatDoor

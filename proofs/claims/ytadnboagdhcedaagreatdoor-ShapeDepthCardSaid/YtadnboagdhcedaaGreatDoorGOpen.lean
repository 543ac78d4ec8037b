/- The arguments are opened. -/
import Derived.Test.YtadnboagdhcedaaGreatDoorGFun
import Derived.Test.YtadnboagdhcedaaGreatDoorTab
import Derived.Deep.Slices

set_option linter.unusedSimpArgs false
set_option linter.unusedVariables false
namespace Go.Ct
section
open Go Go.RowKit Go.ChangeShapes Go.WideShapes Go.ChangeAt
structure Rd{H:Type}(enc:TypeId×Value->H)(P:Program)(W:World)(t:TypeId)(cs:List Value)(d:DataW H):Prop where
 rd:∃n p,DataW.trod enc P W 0 (λ _=>true) true n t cs=some (d,p)
 wt:∀k∈d.weights P t,k<=reachBytes
section
variable{H:Type}{enc:TypeId×Value->H}{P:Program}{W:World}{t e:TypeId}{cs:List Value}{d:DataW H}
theorem Rd.int{k:IntKind}(h:Rd enc P W t cs d)(ht:P.underlying t=some (.int k)):∃i,cs=[.int k i]/\(Lit.int k i).wf=true:=by
 obtain⟨n,p,hr⟩:=h.rd
 obtain⟨i,h1,_,h2⟩:=DataW.trod_int ht hr
 exact⟨i,h1,h2⟩
theorem uQ{k:Nat}{d:DataW H}:∀{l:List (DataW H)},d∈l->k∈d.weights P e->k∈DataW.weightsAll P e l
 | x::r,hd,hk=>by
  simp only[DataW.weightsAll,List.mem_append]
  rcases List.mem_cons.1 hd with rfl|hd
  ·exact .inl hk
  ·exact .inr (uQ hd hk)
theorem Rd.slice(h:Rd enc P W t cs d)(ht:P.underlying t=some (.slice e))(h0:0<P.cellsOf e) :
  ∃(a:Option Addr) (m c:Nat) (C:Nat->List Value) (D:Nat->DataW H),cs=[.slice a m c]/\m<=c/\c*P.bytesOf e<=reachBytes /\
   ∀i,i<m->(C i).length=P.cellsOf e/\(∀j u,(C i)[j]?=some u->a=some ⟨cR a,dX a,none⟩/\W.cell? ⟨cR a,dX a+(i*P.cellsOf e+j),none⟩=some u)/\Rd enc P W e (C i) (D i):=by
 obtain⟨n,p,hr⟩:=h.rd
 rcases Deep.open_slice ht hr with⟨rfl,_⟩|⟨a,len,cap,m,n',D,Pl,rfl,hb,hl,hm,hmm,hx,hel⟩
 ·exact⟨none,0,0,λ _=>[],λ _=>.nil,rfl,Nat.le_refl _,by simp,λ i hi=>absurd hi (Nat.not_lt_zero i)⟩
 ·simp only[if_true] at hmm
  subst hmm
  simp only[Prod.mk.injEq] at hx
  obtain⟨hd,_⟩:=hx
  have hw:=h.wt
  subst hd
  have hwt:∀i,i<len->∀k∈(D i).weights P e,k<=reachBytes:=λ i hi k hk=>hw k (by
   simp only[DataW.weights,ht,List.mem_cons,List.mem_append]
   exact .inr (.inl (uQ (List.mem_map.2 ⟨i,List.mem_range.2 hi,rfl⟩) hk)))
  obtain⟨C,hC⟩:=Deep.choose_lt (α:=List Value) (n:=len) (p:=λ i cs'=>W.cells? 0 (a.add (i*P.cellsOf e)) (P.cellsOf e)=some cs'/\DataW.trod enc P W 0 (λ _=>true) true n' e cs'=some (D i,Pl i)) (λ i hi=>hel i (by omega))
  refine⟨some a,len,m,C,D,rfl,hl,?_,λ i hi=>?_⟩
  ·have:=hw ((((List.range len).map D).length+((List.range (m-len)).map λ j=>D (len+j)).length)*P.bytesOf e) (by
    simp[DataW.weights,ht])
   simp only[List.length_map,List.length_range] at this
   rwa [show len+(m-len)=m by omega] at this
  ·obtain⟨h1,h2⟩:=hC i hi
   obtain⟨_,hlen,hcell⟩:=World.cells?_some h1
   refine⟨hlen,λ j u hj=>?_,⟨n',Pl i,h2⟩,hwt i hi⟩
   have hjl:j<P.cellsOf e:=by rw[<- hlen];exact(List.getElem?_eq_some_iff.1 hj).1
   have hc:=(hcell j hjl).trans hj
   obtain⟨b,o,s⟩:=a
   have hs:s=none:=by
    obtain⟨g1,_⟩:=hC 0 (by omega)
    obtain⟨_,glen,gcell⟩:=World.cells?_some g1
    have g:=gcell 0 h0
    rw[List.getElem?_eq_getElem (by rw[glen];exact h0)] at g
    simp only[Nat.zero_mul,Addr.add,if_true] at g
    unfold World.cell? at g
    cases s with
    | none=>rfl
    | some z=>split at g<;>simp at g
   subst hs
   refine⟨rfl,?_⟩
   have e1:(((⟨b,o,none⟩:Addr).add (i*P.cellsOf e)).add j)=⟨b,o+(i*P.cellsOf e+j),none⟩:=by rw[Addr.add_lit,Addr.add_lit];congr 1;omega
   rw[e1] at hc
   exact hc
theorem Lc{α:Type}{a:Option Addr}{f:α->List Value}{sz:Nat}(h0:0<sz)(hf:∀x,(f x).length=sz):∀(xs:List α) (i0:Nat),
  (∀i x,xs[i]?=some x->∀j u,(f x)[j]?=some u->a=some ⟨cR a,dX a,none⟩/\W.cell? ⟨cR a,dX a+((i0+i)*sz+j),none⟩=some u) ->
  ∀q u,(xs.flatMap f)[q]?=some u->a=some ⟨cR a,dX a,none⟩/\W.cell? ⟨cR a,dX a+(i0*sz+q),none⟩=some u
 | [],_,_,q,u,h=>by simp at h
 | x::xs,i0,h,q,u,hq=>by
  simp only[List.flatMap_cons] at hq
  by_cases hlt:q<sz
  ·rw[List.getElem?_append_left (by rw[hf];exact hlt)] at hq
   have:=h 0 x rfl q u hq
   simpa using this
  ·rw[List.getElem?_append_right (by rw[hf];omega),hf] at hq
   have:=Lc h0 hf xs (i0+1) (λ i y hy j v hj=>by
    have:=h (i+1) y (by simpa using hy) j v hj
    rwa [show i0+(i+1)=i0+1+i by omega] at this) (q-sz) u hq
   rwa [show(i0+1)*sz+(q-sz)=i0*sz+q by rw[Nat.add_mul];omega] at this
theorem Ew:∀l:List Int,aG l=l.flatMap λ i=>[.int .i64 i]
 | []=>rfl
 | p::r=>by simp[aG,<- Ew r]
def rW(i:Int):Prop := -9223372036854775808<=i/\i<=9223372036854775807
def Hf(i:Int):Prop:=0<=i/\i<=18446744073709551615
theorem u9{n:Int}(h:(Lit.int .i64 n).wf=true):rW n:=by
 simp[Lit.wf,IntKind.min,IntKind.max,IntKind.signed,IntKind.bits] at h
 exact h
theorem su{n:Int}(h:(Lit.int .u64 n).wf=true):Hf n:=by
 simp[Lit.wf,IntKind.min,IntKind.max,IntKind.signed,IntKind.bits] at h
 exact h
theorem Rd.refs(h:Rd enc P W t cs d)(ht:P.underlying t=some (.slice e))(he:P.underlying e=some (.int .i64))(hc:P.cellsOf e=1)(hb:P.bytesOf e=8) :
  ∃(a:Option Addr) (l:List Int) (c:Nat),cs=[.slice a l.length c]/\l.length<=c/\c<=17592186043904/\Cl W a (aG l)/\∀i∈l,rW i:=by
 obtain⟨a,m,c,C,D,rfl,hm,hw,hel⟩:=h.slice ht (by omega)
 have hV:∃V:Nat->Int,∀i,i<m->C i=[.int .i64 (V i)]/\(Lit.int .i64 (V i)).wf=true:=Deep.choose_lt λ i hi=>(hel i hi).2.2.int he
 obtain⟨V,hV⟩:=hV
 refine⟨a,(List.range m).map V,c,by simp,by simpa using hm,by rw[hb,reachBytes] at hw;omega,?_,λ i hi=>?_⟩
 ·refine⟨λ q u hq=>?_⟩
  rw[Ew] at hq
  have:=Lc (W:=W) (a:=a) (f:=λ i=>[.int .i64 i]) (sz:=1) (by decide) (λ _=>rfl) ((List.range m).map V) 0 (λ i x hx j v hj=>by
   have hi:i<m:=by simpa using(List.getElem?_eq_some_iff.1 hx).1
   have hxv:x=V i:=by simpa[hi] using hx.symm
   subst hxv
   rw[<- (hV i hi).1] at hj
   have:=(hel i hi).2.1 j v hj
   rw[hc] at this
   simpa using this) q u hq
  simpa using this
 ·obtain⟨k,hk,rfl⟩:=List.mem_map.1 hi
  exact u9 (hV k (List.mem_range.1 hk)).2
structure Arg{H:Type}(enc:TypeId×Value->H)(P:Program)(W:World)(t:TypeId)(v:Value)(d:DataW H):Prop where
 val:∃base,Value.okWide P W .any base t v
 rd:Rd enc P W t v.cells.toList d
inductive wJ{H:Type}(enc:TypeId×Value->H)(P:Program)(W:World):List TypeId->List Value->Prop where
 | nil:wJ enc P W [] []
 | cons {t:TypeId} {ts:List TypeId} {v:Value} {vs:List Value} {d:DataW H} (hv:∃base,Value.okWide P W .any base t v) (hr:Rd enc P W t v.cells.toList d) (h:wJ enc P W ts vs):wJ enc P W (t::ts) (v::vs)
theorem wJ.next{ts:List TypeId}{vs:List Value}(h:wJ enc P W (t::ts) vs):∃v vs' d,vs=v::vs'/\Arg enc P W t v d/\wJ enc P W ts vs':=by
 cases h with
 | @cons _ _ v vs d hv hr h=>exact⟨v,vs,d,rfl,⟨hv,hr⟩,h⟩
theorem wJ.done{vs:List Value}(h:wJ enc P W [] vs):vs=[]:=by cases h;rfl
theorem ai{base:Nat}{ts:List TypeId}{args:List Value}{ds:List (DataW H)}{p:List MemPlace}(hv:∀(j:Nat) t v,ts[j]?=some t->args[j]?=some v->Value.okWide P W .any base t v)
  (ht:DataW.TrodAll enc P W 0 (λ _=>true) true ts args ds p) (hw:∀k∈DataW.weightsEach P ts ds,k<=reachBytes):wJ enc P W ts args:=by
 induction ts generalizing args ds p with
 | nil=>obtain⟨rfl,_,_⟩:=trodAll_nil ht;exact .nil
 | cons t ts ih =>
  obtain⟨v,vs,d,ds',a,b,rfl,rfl,rfl,h1,h2⟩:=trodAll_cons ht
  refine .cons (d:=d) ⟨base,hv 0 t v rfl rfl⟩ ?_ (ih (λ j t' v' hj hj'=>hv (j+1) t' v' (by simpa using hj) (by simpa using hj')) h2 (λ k hk=>hw k (by simp only[DataW.weightsEach,List.mem_append];exact .inr hk)))
  obtain⟨n,hn⟩:=h1
  exact⟨⟨n,a,hn⟩,λ k hk=>hw k (by simp only[DataW.weightsEach,List.mem_append];exact .inl hk)⟩
theorem sw.split{fn:Func}{args:List Value}{ds:List (DataW H)}(h:sw enc P fn W args ds):wJ enc P W fn.params.toList args:=by
 obtain⟨⟨base,hv⟩,⟨p,ht,_⟩,hw⟩:=h
 exact ai hv ht hw
variable{v:Value}
theorem Arg.int{k:IntKind}(h:Arg enc P W t v d)(ht:P.underlying t=some (.int k)):∃i,v=.int k i/\(Lit.int k i).wf=true:=by
 obtain⟨⟨base,hv⟩,hr⟩:=h
 obtain⟨i,hi⟩:=okWide_int ht hv
 subst hi
 obtain⟨j,hj,hw⟩:=hr.int ht
 simp[Value.cells] at hj
 subst hj
 exact⟨_,rfl,hw⟩
theorem Arg.slv(h:Arg enc P W t v d)(ht:P.underlying t=some (.slice e)):Rd enc P W t [v] d:=by
 obtain⟨⟨base,hv⟩,hr⟩:=h
 obtain⟨a,m,c,rfl⟩:=okWide_slice ht hv
 simpa[Value.cells] using hr
end
end

/- The arguments are opened: the types of the program. -/
end Go.Ct
namespace Go.Proofs.YtadnboagdhcedaaGreatDoor
section
open Go.RowKit Go.Ct Go.ChangeShapes Go.WideShapes
theorem zr:([3,27,30,23,9,64,62].all λ t=>Nat.beq (Tryz.prog.cellsOf t) 1)=true:=by kernel_rfl
theorem zd{t:Nat}(h:[3,27,30,23,9,64,62].elem t=true):Tryz.prog.cellsOf t=1:=eC (List.all_eq_true.1 zr t (List.mem_of_elem_eq_true h))
theorem aAl:Tryz.prog.bytesOf 3=8:=by kernel_rfl
theorem yh:Tryz.prog.underlying 3=some (.int .i64):=by kernel_rfl
theorem zs:Tryz.prog.underlying 30=some (.int .u64):=by kernel_rfl
theorem Zj:Tryz.prog.underlying 26=some (.slice 3):=by kernel_rfl
structure lW(n:Nd)(xs:List Int)(ys:List Pr):Prop where
 kind:rW n.kind
 gen:rW n.gen
 main:rW n.main
 bm:Hf n.bm
 hash:Hf n.hash
 val:Hf n.val
 prev:rW n.prev
 bM:rW n.bM
 exp:rW n.exp
 new:rW n.new
 status:rW n.status
 key:n.key.size<=140737488351232
 brc:xs.length<=n.brC
 prc:ys.length<=n.dF
 brk:n.brC<=17592186043904
 prk:n.dF<=5864062014634
 xs:∀i∈xs,rW i
 ys:∀p∈ys,p.1.size<=140737488351232/\Hf p.2
section
variable{H:Type}{enc:TypeId×Value->H}{W:World}{cs:List Value}{d:DataW H}{v:Value}
set_option maxRecDepth 100000
theorem ls{t:Nat}(h:Arg enc Tryz.prog W t v d)(ht:Tryz.prog.underlying t=some (.int .u64)):∃i,v=.int .u64 i/\Hf i:=by
 obtain⟨i,e,hi⟩:=h.int ht
 exact⟨i,e,su hi⟩
theorem Z0(h:Arg enc Tryz.prog W 26 v d):∃(a:Option Addr) (l:List Int) (c:Nat),v=.slice a l.length c/\l.length<=c/\c<=17592186043904/\Cl W a (aG l)/\∀i∈l,rW i:=by
 obtain⟨a,l,c,e,r⟩:=(h.slv Zj).refs Zj yh (zd rfl) aAl
 simp only[List.cons.injEq,and_true] at e
 exact⟨a,l,c,e,r⟩
end
end

/- A closed fact of the program. -/
section
open Go.RowKit Go.Ct Go.ChangeShapes Go.WideShapes Go.ChangeAt
theorem Yi:(false==Tryz.prog.liftsFinal)=true:=by kernel_rfl
end

/- A closed fact of the program. -/
section
open Go.RowKit Go.Ct Go.ChangeShapes Go.WideShapes Go.ChangeAt
theorem ui:Tryz.prog.mayEnter=true:=by kernel_rfl
end

/- Closed facts of the program. -/
section
open Go.RowKit Go.Ct Go.ChangeShapes Go.WideShapes Go.ChangeAt
theorem ef:laidOutB Tryz.prog=true:=by kernel_rfl
theorem jw:mapsRowed Tryz.prog=true:=by kernel_rfl
theorem Ze:Tryz.prog.stopsHeard=true:=by kernel_rfl
theorem aAy{a b:Bool}(h1:a=true)(h2:b=true):(a&&b)=true:=by rw[h1,h2];rfl
end

end Go.Proofs.YtadnboagdhcedaaGreatDoor

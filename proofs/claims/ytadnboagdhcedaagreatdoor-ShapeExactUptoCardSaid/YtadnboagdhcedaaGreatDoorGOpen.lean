/- The arguments are opened. -/
import Derived.Test.YtadnboagdhcedaaGreatDoorGFun
import Derived.Test.YtadnboagdhcedaaGreatDoorTab
import Derived.Deep.Slices

set_option linter.unusedSimpArgs false
set_option linter.unusedVariables false
namespace Go.Ct
section
open Go Go.RowKit Go.ChangeShapes Go.WideShapes Go.ChangeAt
structure Rd{H:Type}(enc:TypeId×Value->H)(P:Program)(W:World)(t:TypeId)(cs:List Value)(d:DataW H):Prop where
 rd:∃n p,DataW.trod enc P W 0 (λ _=>true) true n t cs=some (d,p)
 wt:∀k∈d.weights P t,k<=reachBytes
section
variable{H:Type}{enc:TypeId×Value->H}{P:Program}{W:World}{t e:TypeId}{cs:List Value}{d:DataW H}
theorem Rd.int{k:IntKind}(h:Rd enc P W t cs d)(ht:P.underlying t=some (.int k)):∃i,cs=[.int k i]/\(Lit.int k i).wf=true:=by
 obtain⟨n,p,hr⟩:=h.rd
 obtain⟨i,h1,_,h2⟩:=DataW.trod_int ht hr
 exact⟨i,h1,h2⟩
theorem Rd.str(h:Rd enc P W t cs d)(ht:P.underlying t=some .string):∃s:ByteArray,cs=[.string s]/\s.size<=reachBytes:=by
 obtain⟨n,p,hr⟩:=h.rd
 obtain⟨s,h1,h2,_⟩:=DataW.trod_string ht hr
 refine⟨s,h1,?_⟩
 have hw:=h.wt
 cases h2
 have:=hw s.data.toList.length (by simp[DataW.weights])
 simpa using this
theorem Rd.bool(h:Rd enc P W t cs d)(ht:P.underlying t=some .bool):∃b,cs=[.bool b]:=by
 obtain⟨n,p,hr⟩:=h.rd
 obtain⟨b,h1,_⟩:=DataW.trod_bool ht hr
 exact⟨b,h1⟩
theorem qJ{k:Nat}{d:DataW H}:∀{l:List (DataW H)},d∈l->k∈d.weights P e->k∈DataW.weightsAll P e l
 | x::r,hd,hk=>by
  simp only[DataW.weightsAll,List.mem_append]
  rcases List.mem_cons.1 hd with rfl|hd
  ·exact .inl hk
  ·exact .inr (qJ hd hk)
theorem oV{k:Nat}:∀{ts:List TypeId} {l:List (DataW H)} {i:Nat} {ty:TypeId} {d:DataW H},ts[i]?=some ty->l[i]?=some d->k∈d.weights P ty->k∈DataW.weightsEach P ts l
 | _::_,_::_,0,_,_,h1,h2,hk=>by
  simp only[List.getElem?_cons_zero,Option.some.injEq] at h1 h2
  subst h1 h2
  simp only[DataW.weightsEach,List.mem_append]
  exact .inl hk
 | _::_,_::_,i+1,_,_,h1,h2,hk=>by
  simp only[List.getElem?_cons_succ] at h1 h2
  simp only[DataW.weightsEach,List.mem_append]
  exact .inr (oV h1 h2 hk)
 | [],_,_,_,_,h1,_,_=>by simp at h1
 | _::_,[],_,_,_,_,h2,_=>by simp at h2
theorem Rd.slice(h:Rd enc P W t cs d)(ht:P.underlying t=some (.slice e))(h0:0<P.cellsOf e) :
  ∃(a:Option Addr) (m c:Nat) (C:Nat->List Value) (D:Nat->DataW H),cs=[.slice a m c]/\m<=c/\c*P.bytesOf e<=reachBytes /\
   ∀i,i<m->(C i).length=P.cellsOf e/\(∀j u,(C i)[j]?=some u->a=some ⟨cZ a,eG a,none⟩/\W.cell? ⟨cZ a,eG a+(i*P.cellsOf e+j),none⟩=some u)/\Rd enc P W e (C i) (D i):=by
 obtain⟨n,p,hr⟩:=h.rd
 rcases Deep.open_slice ht hr with⟨rfl,_⟩|⟨a,len,cap,m,n',D,Pl,rfl,hb,hl,hm,hmm,hx,hel⟩
 ·exact⟨none,0,0,λ _=>[],λ _=>.nil,rfl,Nat.le_refl _,by simp,λ i hi=>absurd hi (Nat.not_lt_zero i)⟩
 ·simp only[if_true] at hmm
  subst hmm
  simp only[Prod.mk.injEq] at hx
  obtain⟨hd,_⟩:=hx
  have hw:=h.wt
  subst hd
  have hwt:∀i,i<len->∀k∈(D i).weights P e,k<=reachBytes:=λ i hi k hk=>hw k (by
   simp only[DataW.weights,ht,List.mem_cons,List.mem_append]
   exact .inr (.inl (qJ (List.mem_map.2 ⟨i,List.mem_range.2 hi,rfl⟩) hk)))
  obtain⟨C,hC⟩:=Deep.choose_lt (α:=List Value) (n:=len) (p:=λ i cs'=>W.cells? 0 (a.add (i*P.cellsOf e)) (P.cellsOf e)=some cs'/\DataW.trod enc P W 0 (λ _=>true) true n' e cs'=some (D i,Pl i)) (λ i hi=>hel i (by omega))
  refine⟨some a,len,m,C,D,rfl,hl,?_,λ i hi=>?_⟩
  ·have:=hw ((((List.range len).map D).length+((List.range (m-len)).map λ j=>D (len+j)).length)*P.bytesOf e) (by
    simp[DataW.weights,ht])
   simp only[List.length_map,List.length_range] at this
   rwa [show len+(m-len)=m by omega] at this
  ·obtain⟨h1,h2⟩:=hC i hi
   obtain⟨_,hlen,hcell⟩:=World.cells?_some h1
   refine⟨hlen,λ j u hj=>?_,⟨n',Pl i,h2⟩,hwt i hi⟩
   have hjl:j<P.cellsOf e:=by rw[<- hlen];exact(List.getElem?_eq_some_iff.1 hj).1
   have hc:=(hcell j hjl).trans hj
   obtain⟨b,o,s⟩:=a
   have hs:s=none:=by
    obtain⟨g1,_⟩:=hC 0 (by omega)
    obtain⟨_,glen,gcell⟩:=World.cells?_some g1
    have g:=gcell 0 h0
    rw[List.getElem?_eq_getElem (by rw[glen];exact h0)] at g
    simp only[Nat.zero_mul,Addr.add,if_true] at g
    unfold World.cell? at g
    cases s with
    | none=>rfl
    | some z=>split at g<;>simp at g
   subst hs
   refine⟨rfl,?_⟩
   have e1:(((⟨b,o,none⟩:Addr).add (i*P.cellsOf e)).add j)=⟨b,o+(i*P.cellsOf e+j),none⟩:=by rw[Addr.add_lit,Addr.add_lit];congr 1;omega
   rw[e1] at hc
   exact hc
theorem Bm{α:Type}{a:Option Addr}{f:α->List Value}{sz:Nat}(h0:0<sz)(hf:∀x,(f x).length=sz):∀(xs:List α) (i0:Nat),
  (∀i x,xs[i]?=some x->∀j u,(f x)[j]?=some u->a=some ⟨cZ a,eG a,none⟩/\W.cell? ⟨cZ a,eG a+((i0+i)*sz+j),none⟩=some u) ->
  ∀q u,(xs.flatMap f)[q]?=some u->a=some ⟨cZ a,eG a,none⟩/\W.cell? ⟨cZ a,eG a+(i0*sz+q),none⟩=some u
 | [],_,_,q,u,h=>by simp at h
 | x::xs,i0,h,q,u,hq=>by
  simp only[List.flatMap_cons] at hq
  by_cases hlt:q<sz
  ·rw[List.getElem?_append_left (by rw[hf];exact hlt)] at hq
   have:=h 0 x rfl q u hq
   simpa using this
  ·rw[List.getElem?_append_right (by rw[hf];omega),hf] at hq
   have:=Bm h0 hf xs (i0+1) (λ i y hy j v hj=>by
    have:=h (i+1) y (by simpa using hy) j v hj
    rwa [show i0+(i+1)=i0+1+i by omega] at this) (q-sz) u hq
   rwa [show(i0+1)*sz+(q-sz)=i0*sz+q by rw[Nat.add_mul];omega] at this
theorem Py:∀l:List Pr,dK l=l.flatMap λ p=>[.string p.1,.int .u64 p.2]
 | []=>rfl
 | p::r=>by simp[dK,Py r]
theorem Gq:∀l:List Int,aH l=l.flatMap λ i=>[.int .i64 i]
 | []=>rfl
 | p::r=>by simp[aH,<- Gq r]
def pB(i:Int):Prop := -9223372036854775808<=i/\i<=9223372036854775807
def Bb(i:Int):Prop:=0<=i/\i<=18446744073709551615
theorem Fq{n:Int}(h:(Lit.int .i64 n).wf=true):pB n:=by
 simp[Lit.wf,IntKind.min,IntKind.max,IntKind.signed,IntKind.bits] at h
 exact h
theorem Tt{n:Int}(h:(Lit.int .u64 n).wf=true):Bb n:=by
 simp[Lit.wf,IntKind.min,IntKind.max,IntKind.signed,IntKind.bits] at h
 exact h
theorem Rd.refs(h:Rd enc P W t cs d)(ht:P.underlying t=some (.slice e))(he:P.underlying e=some (.int .i64))(hc:P.cellsOf e=1)(hb:P.bytesOf e=8) :
  ∃(a:Option Addr) (l:List Int) (c:Nat),cs=[.slice a l.length c]/\l.length<=c/\c<=17592186043904/\Cl W a (aH l)/\∀i∈l,pB i:=by
 obtain⟨a,m,c,C,D,rfl,hm,hw,hel⟩:=h.slice ht (by omega)
 have hV:∃V:Nat->Int,∀i,i<m->C i=[.int .i64 (V i)]/\(Lit.int .i64 (V i)).wf=true:=Deep.choose_lt λ i hi=>(hel i hi).2.2.int he
 obtain⟨V,hV⟩:=hV
 refine⟨a,(List.range m).map V,c,by simp,by simpa using hm,by rw[hb,reachBytes] at hw;omega,?_,λ i hi=>?_⟩
 ·refine⟨λ q u hq=>?_⟩
  rw[Gq] at hq
  have:=Bm (W:=W) (a:=a) (f:=λ i=>[.int .i64 i]) (sz:=1) (by decide) (λ _=>rfl) ((List.range m).map V) 0 (λ i x hx j v hj=>by
   have hi:i<m:=by simpa using(List.getElem?_eq_some_iff.1 hx).1
   have hxv:x=V i:=by simpa[hi] using hx.symm
   subst hxv
   rw[<- (hV i hi).1] at hj
   have:=(hel i hi).2.1 j v hj
   rw[hc] at this
   simpa using this) q u hq
  simpa using this
 ·obtain⟨k,hk,rfl⟩:=List.mem_map.1 hi
  exact Fq (hV k (List.mem_range.1 hk)).2
def mP(P:Program)(t:TypeId):List (Nat×Nat):=match P.underlying t with|some (.struct fs)=>fs.toList.map λ f=>(f.offset,f.type)|_=>[]
theorem Rd.struct(h:Rd enc P W t cs d){L:List (Nat×Nat)}(hL:mP P t=L)(h0:L≠[]) :
  cs.length=P.cellsOf t/\∀(i o ty:Nat),L[i]?=some (o,ty)->∃d',Rd enc P W ty ((cs.drop o).take (P.cellsOf ty)) d':=by
 obtain⟨n,p,hr⟩:=h.rd
 unfold mP at hL
 cases hu:P.underlying t with
 | none=>rw[hu] at hL;exact absurd hL.symm h0
 | some dd =>
  rw[hu] at hL
  cases dd with
  | struct fs =>
   simp only at hL
   obtain⟨xs,n',_,hx,hlen,hxl,hf⟩:=DataW.trod_struct hu hr
   simp only[Prod.mk.injEq] at hx
   refine⟨hlen,λ i o ty hi=>?_⟩
   rw[<- hL,List.getElem?_map] at hi
   obtain⟨f,hfi,he⟩:=Option.map_eq_some_iff.1 hi
   simp only[Prod.mk.injEq] at he
   obtain⟨rfl,rfl⟩:=he
   have hfi':fs[i]?=some f:=by simpa using hfi
   have hil:i<xs.length:=by rw[hxl];exact(Array.getElem?_eq_some_iff.1 hfi').1
   have hx':=hf i f hfi'
   rw[List.getElem?_eq_getElem hil] at hx'
   refine⟨xs[i].1,⟨n',xs[i].2,hx'⟩,λ k hk=>h.wt k ?_⟩
   rw[hx.1]
   simp only[DataW.weights,hu]
   exact oV (i:=i) (ty:=f.type) (d:=xs[i].1) (by simp[hfi']) (by simp[hil]) hk
  | _=>exact absurd hL.symm h0
theorem iX{cs:List Value}{o:Nat}{v:Value}(h:(cs.drop o).take 1=[v]):cs[o]?=some v:=by
 have h1:((cs.drop o).take 1)[0]?=some v:=by rw[h];rfl
 simpa using h1
theorem Rd.prs{ts tu:Nat}(h:Rd enc P W t cs d)(ht:P.underlying t=some (.slice e))(hf:mP P e=[(0,ts),(1,tu)])(hs:P.underlying ts=some .string)(hu:P.underlying tu=some (.int .u64))(hc:P.cellsOf e=2)(h1:P.cellsOf ts=1)(h2:P.cellsOf tu=1)(hb:P.bytesOf e=24) :
  ∃(a:Option Addr) (l:List Pr) (c:Nat),cs=[.slice a l.length c]/\l.length<=c/\c<=5864062014634/\Cl W a (dK l)/\∀p∈l,p.1.size<=140737488351232/\Bb p.2:=by
 obtain⟨a,m,c,C,D,rfl,hm,hw,hel⟩:=h.slice ht (by omega)
 have hV:∃V:Nat->Pr,∀i,i<m->C i=[.string (V i).1,.int .u64 (V i).2]/\(V i).1.size<=reachBytes/\(Lit.int .u64 (V i).2).wf=true:=Deep.choose_lt (α:=Pr) (p:=λ i (v:Pr)=>C i=[.string v.1,.int .u64 v.2]/\v.1.size<=reachBytes/\(Lit.int .u64 v.2).wf=true) λ i hi=>by
  obtain⟨hl,_,hr⟩:=hel i hi
  obtain⟨_,hfl⟩:=hr.struct hf (by simp)
  obtain⟨d0,r0⟩:=hfl 0 0 ts rfl
  obtain⟨d1,r1⟩:=hfl 1 1 tu rfl
  rw[h1] at r0
  rw[h2] at r1
  obtain⟨s,e0,hs0⟩:=r0.str hs
  obtain⟨u,e1,hu1⟩:=r1.int hu
  have g0:=iX e0
  have g1:=iX e1
  rw[hc] at hl
  refine⟨(s,u),?_,hs0,hu1⟩
  match hC:C i,hl with
  | [x,y],_ =>
   rw[hC] at g0 g1
   simp at g0 g1
   rw[g0,g1]
 obtain⟨V,hV⟩:=hV
 refine⟨a,(List.range m).map V,c,by simp,by simpa using hm,by rw[hb,reachBytes] at hw;omega,?_,λ p hp=>?_⟩
 ·refine⟨λ q u hq=>?_⟩
  rw[Py] at hq
  have:=Bm (W:=W) (a:=a) (f:=λ p:Pr=>[.string p.1,.int .u64 p.2]) (sz:=2) (by decide) (λ _=>rfl) ((List.range m).map V) 0 (λ i x hx j v hj=>by
   have hi:i<m:=by simpa using(List.getElem?_eq_some_iff.1 hx).1
   have hxv:x=V i:=by simpa[hi] using hx.symm
   subst hxv
   rw[<- (hV i hi).1] at hj
   have:=(hel i hi).2.1 j v hj
   rw[hc] at this
   simpa using this) q u hq
  simpa using this
 ·obtain⟨k,hk,rfl⟩:=List.mem_map.1 hp
  exact⟨by have:=(hV k (List.mem_range.1 hk)).2.1;rw[reachBytes] at this;omega,Tt (hV k (List.mem_range.1 hk)).2.2⟩
structure Arg{H:Type}(enc:TypeId×Value->H)(P:Program)(W:World)(t:TypeId)(v:Value)(d:DataW H):Prop where
 val:∃base,Value.okWide P W .any base t v
 rd:Rd enc P W t v.cells.toList d
inductive zG{H:Type}(enc:TypeId×Value->H)(P:Program)(W:World):List TypeId->List Value->Prop where
 | nil:zG enc P W [] []
 | cons {t:TypeId} {ts:List TypeId} {v:Value} {vs:List Value} {d:DataW H} (hv:∃base,Value.okWide P W .any base t v) (hr:Rd enc P W t v.cells.toList d) (h:zG enc P W ts vs):zG enc P W (t::ts) (v::vs)
theorem zG.next{ts:List TypeId}{vs:List Value}(h:zG enc P W (t::ts) vs):∃v vs' d,vs=v::vs'/\Arg enc P W t v d/\zG enc P W ts vs':=by
 cases h with
 | @cons _ _ v vs d hv hr h=>exact⟨v,vs,d,rfl,⟨hv,hr⟩,h⟩
theorem zG.done{vs:List Value}(h:zG enc P W [] vs):vs=[]:=by cases h;rfl
theorem j3{base:Nat}{ts:List TypeId}{args:List Value}{ds:List (DataW H)}{p:List MemPlace}(hv:∀(j:Nat) t v,ts[j]?=some t->args[j]?=some v->Value.okWide P W .any base t v)
  (ht:DataW.TrodAll enc P W 0 (λ _=>true) true ts args ds p) (hw:∀k∈DataW.weightsEach P ts ds,k<=reachBytes):zG enc P W ts args:=by
 induction ts generalizing args ds p with
 | nil=>obtain⟨rfl,_,_⟩:=trodAll_nil ht;exact .nil
 | cons t ts ih =>
  obtain⟨v,vs,d,ds',a,b,rfl,rfl,rfl,h1,h2⟩:=trodAll_cons ht
  refine .cons (d:=d) ⟨base,hv 0 t v rfl rfl⟩ ?_ (ih (λ j t' v' hj hj'=>hv (j+1) t' v' (by simpa using hj) (by simpa using hj')) h2 (λ k hk=>hw k (by simp only[DataW.weightsEach,List.mem_append];exact .inr hk)))
  obtain⟨n,hn⟩:=h1
  exact⟨⟨n,a,hn⟩,λ k hk=>hw k (by simp only[DataW.weightsEach,List.mem_append];exact .inl hk)⟩
theorem ox.split{fn:Func}{args:List Value}{ds:List (DataW H)}(h:ox enc P fn W args ds):zG enc P W fn.params.toList args:=by
 obtain⟨⟨base,hv⟩,⟨p,ht,_⟩,hw⟩:=h
 exact j3 hv ht hw
variable{v:Value}
theorem Arg.int{k:IntKind}(h:Arg enc P W t v d)(ht:P.underlying t=some (.int k)):∃i,v=.int k i/\(Lit.int k i).wf=true:=by
 obtain⟨⟨base,hv⟩,hr⟩:=h
 obtain⟨i,hi⟩:=okWide_int ht hv
 subst hi
 obtain⟨j,hj,hw⟩:=hr.int ht
 simp[Value.cells] at hj
 subst hj
 exact⟨_,rfl,hw⟩
theorem Arg.slv(h:Arg enc P W t v d)(ht:P.underlying t=some (.slice e)):Rd enc P W t [v] d:=by
 obtain⟨⟨base,hv⟩,hr⟩:=h
 obtain⟨a,m,c,rfl⟩:=okWide_slice ht hv
 simpa[Value.cells] using hr
end
end

/- The arguments are opened: the types of the program. -/
end Go.Ct
namespace Go.Proofs.YtadnboagdhcedaaGreatDoor
section
open Go.RowKit Go.Ct Go.ChangeShapes Go.WideShapes
theorem du:mP Tryz.prog 77=[(0,3),(1,3),(2,27),(3,30),(4,23),(5,30),(6,9),(7,30),(8,64),(9,27),(10,62),(11,62),(12,62),(13,27)]:=by kernel_rfl
theorem ya:mP Tryz.prog 137=[(0,9),(1,30)]:=by kernel_rfl
theorem aCi:([3,27,30,23,9,64,62].all λ t=>Nat.beq (Tryz.prog.cellsOf t) 1)=true:=by kernel_rfl
theorem mG{t:Nat}(h:[3,27,30,23,9,64,62].elem t=true):Tryz.prog.cellsOf t=1:=fJ (List.all_eq_true.1 aCi t (List.mem_of_elem_eq_true h))
theorem ei:Tryz.prog.cellsOf 137=2:=by kernel_rfl
theorem Tj:Tryz.prog.cellsOf 77=14:=by kernel_rfl
theorem xh:Tryz.prog.bytesOf 137=24:=by kernel_rfl
theorem uk:Tryz.prog.bytesOf 62=8:=by kernel_rfl
theorem aB1:Tryz.prog.bytesOf 3=8:=by kernel_rfl
theorem Fj:Tryz.prog.underlying 3=some (.int .i64):=by kernel_rfl
theorem Ld:Tryz.prog.underlying 27=some (.int .i64):=by kernel_rfl
theorem N6:Tryz.prog.underlying 62=some (.int .i64):=by kernel_rfl
theorem Rf:Tryz.prog.underlying 30=some (.int .u64):=by kernel_rfl
theorem wa:Tryz.prog.underlying 9=some .string:=by kernel_rfl
theorem j4:Tryz.prog.underlying 23=some (.slice 62):=by kernel_rfl
theorem vv:Tryz.prog.underlying 64=some (.slice 137):=by kernel_rfl
theorem fg:Tryz.prog.underlying 26=some (.slice 3):=by kernel_rfl
structure kI(n:Nd)(xs:List Int)(ys:List Pr):Prop where
 kind:pB n.kind
 gen:pB n.gen
 main:pB n.main
 bm:Bb n.bm
 hash:Bb n.hash
 val:Bb n.val
 prev:pB n.prev
 bO:pB n.bO
 exp:pB n.exp
 new:pB n.new
 status:pB n.status
 key:n.key.size<=140737488351232
 brc:xs.length<=n.brC
 prc:ys.length<=n.dK
 brk:n.brC<=17592186043904
 prk:n.dK<=5864062014634
 xs:∀i∈xs,pB i
 ys:∀p∈ys,p.1.size<=140737488351232/\Bb p.2
section
variable{H:Type}{enc:TypeId×Value->H}{W:World}{cs:List Value}{d:DataW H}{v:Value}
theorem aB2{cs:List Value}{x0 x1 x2 x3 x4 x5 x6 x7 x8 x9 x10 x11 x12 x13:Value}{l:List Value}(hl:cs.length=14)(he:l=[x0,x1,x2,x3,x4,x5,x6,x7,x8,x9,x10,x11,x12,x13])
  (e0:cs[0]?=some x0) (e1:cs[1]?=some x1) (e2:cs[2]?=some x2) (e3:cs[3]?=some x3) (e4:cs[4]?=some x4) (e5:cs[5]?=some x5) (e6:cs[6]?=some x6) (e7:cs[7]?=some x7) (e8:cs[8]?=some x8) (e9:cs[9]?=some x9) (e10:cs[10]?=some x10) (e11:cs[11]?=some x11) (e12:cs[12]?=some x12) (e13:cs[13]?=some x13):cs=l:=by
 subst he
 refine List.ext_getElem? λ i=>?_
 match i with
 | 0=>exact e0
 | 1=>exact e1
 | 2=>exact e2
 | 3=>exact e3
 | 4=>exact e4
 | 5=>exact e5
 | 6=>exact e6
 | 7=>exact e7
 | 8=>exact e8
 | 9=>exact e9
 | 10=>exact e10
 | 11=>exact e11
 | 12=>exact e12
 | 13=>exact e13
 | k+14=>rw[List.getElem?_eq_none (by omega),List.getElem?_eq_none (by simp)]
set_option maxRecDepth 100000
theorem qc(h:Rd enc Tryz.prog W 77 cs d):∃(n:Nd) (xs:List Int) (ys:List Pr),cs=n.cells/\qR W n xs ys/\kI n xs ys:=by
 obtain⟨hl,hf⟩:=h.struct du (by simp)
 rw[Tj] at hl
 have fint:∀{o ty:Nat},Tryz.prog.cellsOf ty=1->Tryz.prog.underlying ty=some (.int .i64)->(∃d',Rd enc Tryz.prog W ty ((cs.drop o).take (Tryz.prog.cellsOf ty)) d')->∃i,cs[o]?=some (.int .i64 i)/\pB i:=by
  rintro o ty h1 h2 ⟨d',hr⟩
  rw[h1] at hr
  obtain⟨i,e,hi⟩:=hr.int h2
  exact⟨i,iX e,Fq hi⟩
 have fu:∀{o ty:Nat},Tryz.prog.cellsOf ty=1->Tryz.prog.underlying ty=some (.int .u64)->(∃d',Rd enc Tryz.prog W ty ((cs.drop o).take (Tryz.prog.cellsOf ty)) d')->∃i,cs[o]?=some (.int .u64 i)/\Bb i:=by
  rintro o ty h1 h2 ⟨d',hr⟩
  rw[h1] at hr
  obtain⟨i,e,hi⟩:=hr.int h2
  exact⟨i,iX e,Tt hi⟩
 obtain⟨i0,e0,r0⟩:=fint (mG rfl) Fj (hf 0 _ _ rfl)
 obtain⟨i1,e1,r1⟩:=fint (mG rfl) Fj (hf 1 _ _ rfl)
 obtain⟨i2,e2,r2⟩:=fint (mG rfl) Ld (hf 2 _ _ rfl)
 obtain⟨i3,e3,r3⟩:=fu (mG rfl) Rf (hf 3 _ _ rfl)
 obtain⟨i5,e5,r5⟩:=fu (mG rfl) Rf (hf 5 _ _ rfl)
 obtain⟨i7,e7,r7⟩:=fu (mG rfl) Rf (hf 7 _ _ rfl)
 obtain⟨i9,e9,r9⟩:=fint (mG rfl) Ld (hf 9 _ _ rfl)
 obtain⟨i10,e10,r10⟩:=fint (mG rfl) N6 (hf 10 _ _ rfl)
 obtain⟨i11,e11,r11⟩:=fint (mG rfl) N6 (hf 11 _ _ rfl)
 obtain⟨i12,e12,r12⟩:=fint (mG rfl) N6 (hf 12 _ _ rfl)
 obtain⟨i13,e13,r13⟩:=fint (mG rfl) Ld (hf 13 _ _ rfl)
 obtain⟨d4,h4⟩:=hf 4 _ _ rfl
 obtain⟨d6,h6⟩:=hf 6 _ _ rfl
 obtain⟨d8,h8⟩:=hf 8 _ _ rfl
 rw[mG rfl] at h4 h6 h8
 obtain⟨a4,l4,c4,e4,r4,k4,cl4,o4⟩:=h4.refs j4 N6 (mG rfl) uk
 obtain⟨s6,e6,k6⟩:=h6.str wa
 obtain⟨a8,l8,c8,e8,r8,k8,cl8,o8⟩:=h8.prs vv ya wa Rf ei (mG rfl) (mG rfl) xh
 replace e4:=iX e4
 replace e6:=iX e6
 replace e8:=iX e8
 refine⟨⟨i0,i1,i2,i3,a4,l4.length,c4,i5,s6,i7,a8,l8.length,c8,i9,i10,i11,i12,i13⟩,l4,l8,?_,⟨rfl,rfl,cl4,cl8,by omega,by omega⟩,⟨r0,r1,r2,r3,r5,r7,r9,r10,r11,r12,r13,by rw[reachBytes] at k6;exact k6,r4,r8,k4,k8,o4,o8⟩⟩
 exact aB2 hl rfl e0 e1 e2 e3 e4 e5 e6 e7 e8 e9 e10 e11 e12 e13
theorem Mt{t:Nat}(h:Arg enc Tryz.prog W t v d)(ht:Tryz.prog.underlying t=some (.int .i64)):∃i,v=.int .i64 i/\pB i:=by
 obtain⟨i,e,hi⟩:=h.int ht
 exact⟨i,e,Fq hi⟩
theorem qb{t:Nat}(h:Arg enc Tryz.prog W t v d)(ht:Tryz.prog.underlying t=some (.int .u64)):∃i,v=.int .u64 i/\Bb i:=by
 obtain⟨i,e,hi⟩:=h.int ht
 exact⟨i,e,Tt hi⟩
theorem bp(h:Arg enc Tryz.prog W 26 v d):∃(a:Option Addr) (l:List Int) (c:Nat),v=.slice a l.length c/\l.length<=c/\c<=17592186043904/\Cl W a (aH l)/\∀i∈l,pB i:=by
 obtain⟨a,l,c,e,r⟩:=(h.slv fg).refs fg Fj (mG rfl) aB1
 simp only[List.cons.injEq,and_true] at e
 exact⟨a,l,c,e,r⟩
end
end

/- A closed fact of the program. -/
section
open Go.RowKit Go.Ct Go.ChangeShapes Go.WideShapes Go.ChangeAt
theorem an:(false==Tryz.prog.liftsFinal)=true:=by kernel_rfl
end

/- A closed fact of the program. -/
section
open Go.RowKit Go.Ct Go.ChangeShapes Go.WideShapes Go.ChangeAt
theorem aAJ:Tryz.prog.mayEnter=true:=by kernel_rfl
end

/- Closed facts of the program. -/
section
open Go.RowKit Go.Ct Go.ChangeShapes Go.WideShapes Go.ChangeAt
theorem oy:laidOutB Tryz.prog=true:=by kernel_rfl
theorem te:mapsRowed Tryz.prog=true:=by kernel_rfl
theorem jh:Tryz.prog.stopsHeard=true:=by kernel_rfl
theorem aCT{a b:Bool}(h1:a=true)(h2:b=true):(a&&b)=true:=by rw[h1,h2];rfl
end

end Go.Proofs.YtadnboagdhcedaaGreatDoor

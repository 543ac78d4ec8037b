/- The arguments are opened: states. -/
import Derived.Test.YtpobgmdalcpomaaGreatGOpen
import Derived.Test.YtpobgmdalcpomaaGreatGBitsE
import Derived.Test.YtpobgmdalcpomaaGreatGMem
import Derived.Deep.CondSized

set_option linter.unusedSimpArgs false
set_option linter.unusedVariables false
namespace Go.Proofs.YtpobgmdalcpomaaGreat
section
open Go.RowKit Go.Ct Go.ChangeShapes Go.WideShapes
theorem cy:Tryz.prog.underlying 38=some (.slice 59):=by kernel_rfl
theorem Sh:lS Tryz.prog 41=[(0,38),(1,39),(2,3)]:=by kernel_rfl
theorem jq:Tryz.prog.cellsOf 41=3:=by kernel_rfl
theorem j6:Tryz.prog.cellsOf 38=1:=by kernel_rfl
theorem ov:Nat.ble 1 (Tryz.prog.bytesOf 59)=true:=by kernel_rfl
theorem Np{t:Nat}{l:List (Nat×Nat)}(h:lS Tryz.prog t=l)(h0:l≠[]):∃fs,Tryz.prog.underlying t=some (.struct fs):=by
 unfold lS at h
 cases hu:Tryz.prog.underlying t with
 | none=>rw[hu] at h;exact absurd h.symm h0
 | some dd =>
  rw[hu] at h
  cases dd<;>first|exact⟨_,rfl⟩|exact absurd h.symm h0
theorem ti{n:Nd}{xs:List Int}{ys:List Pr}(h:kG n xs ys):y0 n:=by
 obtain⟨h1,h2⟩:=h.bm
 exact⟨⟨n.bm.toNat,by omega,by omega⟩,h.main.2,h.prev.2,h.status.2⟩
theorem po{n:Nd}{xs:List Int}{ys:List Pr}{W:World}(h:kG n xs ys)(hr:pQ W n xs ys):aQ.Fit ⟨n,xs,ys⟩:=by
 have h1:=h.brc
 have h2:=h.brk
 have h3:=h.prc
 have h4:=h.prk
 exact⟨hr.brN,hr.prN,by show xs.length<=_;omega,by show ys.length<=_;omega⟩
section
variable{H:Type}{enc:TypeId×Value->H}{W:World}{cs:List Value}{d:DataW H}{v:Value}
instance:Inhabited aQ:=⟨aQ.zero⟩
set_option maxRecDepth 100000
end
end

/- From the walk of a law to its row of the second form. -/
section
open Go Go.RowKit Go.ChangeShapes Go.WideShapes Go.ChangeAt Go.Ct
theorem X2{H:Type}(d:DataW H):1<=Rows.uptoBulk d:=by
 cases d with
 | lit l=>cases l<;>simp[Rows.uptoBulk]
 | nil=>simp[Rows.uptoBulk]
 | ptr d=>simp[Rows.uptoBulk]
 | slice elems spare=>simp[Rows.uptoBulk]
 | agg parts=>simp[Rows.uptoBulk]
 | iface t d=>simp[Rows.uptoBulk]
 | map entries=>simp[Rows.uptoBulk]
 | held h=>simp[Rows.uptoBulk]
theorem wE{H:Type}{d:DataW H}:∀{l:List (DataW H)},d∈l->Rows.uptoBulk d<=Rows.uptoBulkAll l
 | x::r,h=>by
  simp only[Rows.uptoBulkAll]
  rcases List.mem_cons.1 h with e|e
  ·subst e;omega
  ·have:=wE e;omega
theorem Mh{H:Type}:∀(l:List (DataW H)),l.length<=Rows.uptoBulkAll l
 | []=>Nat.zero_le _
 | x::r=>by
  have:=X2 x
  have:=Mh r
  simp only[Rows.uptoBulkAll,List.length_cons]
  omega
theorem Xe{H:Type}{d:DataW H}{l:List (DataW H)}(h:d∈l):Rows.uptoBulk d<=Rows.uptoBulk (.agg l):=by
 have:=wE h
 simp only[Rows.uptoBulk]
 omega
theorem Vl{H:Type}{d:DataW H}{l l2:List (DataW H)}(h:d∈l):Rows.uptoBulk d<=Rows.uptoBulk (.slice l l2):=by
 have:=wE h
 simp only[Rows.uptoBulk]
 omega
theorem P3{H:Type}(l l2:List (DataW H)):l.length<=Rows.uptoBulk (.slice l l2):=by
 have:=Mh l
 simp only[Rows.uptoBulk]
 omega
theorem N7{C:Checked}{f:FuncId}{fn:Func}{s:ChangeSpec}{os:Os}{H:Type}{enc:TypeId×Value->H}{tb:TypeId}{F:Stop.Interp}(started:os.Started)
  (own:ownKnob C.prog.godebug=none) (hl:laidOutB C.prog=true) (noInit:C.prog.inits.idxOf? f=none) (hfn:C.prog.funcs[f]?=some fn)
  (hrd:(fn.params.toList.all λ t=>C.prog.readableRec t&&Nat.blt t C.prog.types.size)=true) (hrt:fn.resultTypes = #[tb]) (hb:C.prog.underlying tb=some .bool) (hv:s.vars=[])
  (hs:∀ds:List (DataW H),ds.length=fn.params.size->(s.fn H ds).results=[.lit (.bool true)]/\(s.fn H ds).args=ds/\(s.fn H ds).vars=[])
  (witness:∃(w:World) (tape:Go.Tape) (i:Input),w.os=os/\(w.forCall tape i).Shaped C.prog/\i.vars=[]/\Input.okWide C.prog (w.forCall tape i) .any w.heap.size f i /\
   (Rows.OpenSpec.upto s).pre6 enc C.prog fn [] false (w.forCall tape i).memory i.args/\({}:Assume).holds C.prog (lone (Frame.enter C.prog f i.args .normal) [] (w.forCall tape i)))
  (walk:∀(W:World) (args:List Value) (ds:List (DataW H)),ee enc C.prog fn W args ds->Rows.uptoBulkAll ds<=1048576->Calls C.prog f ⟨args⟩ W λ e W'=>e=.returned (.bool true)/\St W [] [] W') :
  ReturnsInHanded {} C os f .any ((Rows.OpenSpec.upto s).pre6 enc C.prog fn [] false) (((Rows.OpenSpec.upto s).at F).post enc C.prog fn false true false false):=by
 refine returnsInHanded_of_cond_sized (k:=Rows.uptoSmall) rfl own started noInit hfn witness ?_
 intro W base args ds gs before hval hW _ hk hwt _
 have hlt:=λ x hx=>hW.lt x hx
 have hW':DataW.Whole enc C.prog fn.params.toList s.vars false W args.toList ds gs before:=hW
 obtain⟨p,q,hA,hV,rfl,_,_⟩:=hW
 have hlen:ds.length=fn.params.size:=by
  have:∀{ts:List TypeId} {vs:List Value} {ds:List (DataW H)} {ps:List MemPlace},DataW.TrodAll enc C.prog W 0 (λ _=>true) true ts vs ds ps->ds.length=ts.length:=by
   intro ts
   induction ts with
   | nil=>intro vs ds ps h;obtain⟨_,rfl,_⟩:=trodAll_nil h;rfl
   | cons t ts ih=>intro vs ds ps h;obtain⟨v,vs,d,ds,a,b,rfl,rfl,rfl,_,h2⟩:=trodAll_cons h;simp[ih h2]
  simpa using this hA
 obtain⟨args⟩:=args
 have hwt':∀k∈DataW.weightsEach C.prog fn.params.toList ds,k<=reachBytes:=λ k hk=>by
  have h1:=List.all_eq_true.1 hwt k (by
   have:∀{ts ts':List TypeId} {l l':List (DataW H)},k∈DataW.weightsEach C.prog ts l->k∈DataW.weightsEach C.prog (ts++ts') (l++l'):=by
    intro ts
    induction ts with
    | nil=>intro ts' l l' h;simp[DataW.weightsEach] at h
    | cons t ts ih =>
     intro ts' l l' h
     cases l with
     | nil=>simp[DataW.weightsEach] at h
     | cons x l =>
      simp only[DataW.weightsEach,List.cons_append,List.mem_append] at h ⊢
      exact h.imp id ih
   exact this hk)
  simpa using h1
 have hbulk:Rows.uptoBulkAll ds<=1048576:=by
  have h:Rows.uptoBulkAll (ds++gs)<=1048576:=of_decide_eq_true hk
  have:∀l r:List (DataW H),Rows.uptoBulkAll l<=Rows.uptoBulkAll (l++r):=by
   intro l r
   induction l with
   | nil=>exact Nat.zero_le _
   | cons x l ih=>simp only[List.cons_append,Rows.uptoBulkAll];omega
  exact Nat.le_trans (this ds gs) h
 refine(walk W args ds ⟨⟨base,λ j t v h1 h2=>hval j t v (by simpa using h1) (by simpa using h2)⟩,⟨p,hA,λ x hx=>hlt x (List.mem_append_left _ hx)⟩,hwt'⟩ hbulk).mono ?_
 rintro e W' ⟨rfl,hst⟩
 exact⟨_,rfl,X9 hl hrd hrt hb hv (hs ds hlen) hW' hst⟩
end

/- The arguments are opened: states whose bulk is bounded. -/
section
open Go Go.RowKit Go.Ct Go.ChangeShapes Go.WideShapes Go.ChangeAt
section
variable{H:Type}{enc:TypeId×Value->H}{P:Program}{W:World}{t e:TypeId}{cs:List Value}{d:DataW H}{v:Value}
theorem Hr(h:Rd enc P W t cs d)(ht:P.underlying t=some (.slice e))(h0:0<P.cellsOf e) :
  ∃(a:Option Addr) (m c:Nat) (C:Nat->List Value) (D:Nat->DataW H),cs=[.slice a m c]/\m<=Rows.uptoBulk d/\m<=c/\c*P.bytesOf e<=reachBytes /\
   ∀i,i<m->(C i).length=P.cellsOf e/\(∀j u,(C i)[j]?=some u->a=some ⟨dJ a,eW a,none⟩/\W.cell? ⟨dJ a,eW a+(i*P.cellsOf e+j),none⟩=some u)/\Rd enc P W e (C i) (D i)/\Rows.uptoBulk (D i)<=Rows.uptoBulk d:=by
 obtain⟨n,p,hr⟩:=h.rd
 rcases Deep.open_slice ht hr with⟨rfl,_⟩|⟨a,len,cap,m,n',D,Pl,rfl,hb,hl,hm,hmm,hx,hel⟩
 ·exact⟨none,0,0,λ _=>[],λ _=>.nil,rfl,Nat.zero_le _,Nat.le_refl _,by simp,λ i hi=>absurd hi (Nat.not_lt_zero i)⟩
 ·simp only[if_true] at hmm
  subst hmm
  simp only[Prod.mk.injEq] at hx
  obtain⟨hd,_⟩:=hx
  have hw:=h.wt
  subst hd
  have hmem:∀i,i<len->D i∈(List.range len).map D:=λ i hi=>List.mem_map.2 ⟨i,List.mem_range.2 hi,rfl⟩
  have hwt:∀i,i<len->∀k∈(D i).weights P e,k<=reachBytes:=λ i hi k hk=>hw k (by
   simp only[DataW.weights,ht,List.mem_cons,List.mem_append]
   exact .inr (.inl (pE (hmem i hi) hk)))
  obtain⟨C,hC⟩:=Deep.choose_lt (α:=List Value) (n:=len) (p:=λ i cs'=>W.cells? 0 (a.add (i*P.cellsOf e)) (P.cellsOf e)=some cs'/\DataW.trod enc P W 0 (λ _=>true) true n' e cs'=some (D i,Pl i)) (λ i hi=>hel i (by omega))
  refine⟨some a,len,m,C,D,rfl,?_,hl,?_,λ i hi=>?_⟩
  ·have:=P3 ((List.range len).map D) ((List.range (m-len)).map λ j=>D (len+j))
   rwa [List.length_map,List.length_range] at this
  ·have:=hw ((((List.range len).map D).length+((List.range (m-len)).map λ j=>D (len+j)).length)*P.bytesOf e) (by
    simp[DataW.weights,ht])
   simp only[List.length_map,List.length_range] at this
   rwa [show len+(m-len)=m by omega] at this
  ·obtain⟨h1,h2⟩:=hC i hi
   obtain⟨_,hlen,hcell⟩:=World.cells?_some h1
   refine⟨hlen,λ j u hj=>?_,⟨⟨n',Pl i,h2⟩,hwt i hi⟩,Vl (hmem i hi)⟩
   have hjl:j<P.cellsOf e:=by rw[<- hlen];exact(List.getElem?_eq_some_iff.1 hj).1
   have hc:=(hcell j hjl).trans hj
   obtain⟨b,o,s⟩:=a
   have hs:s=none:=by
    obtain⟨g1,_⟩:=hC 0 (by omega)
    obtain⟨_,glen,gcell⟩:=World.cells?_some g1
    have g:=gcell 0 h0
    rw[List.getElem?_eq_getElem (by rw[glen];exact h0)] at g
    simp only[Nat.zero_mul,Addr.add,if_true] at g
    unfold World.cell? at g
    cases s with
    | none=>rfl
    | some z=>split at g<;>simp at g
   subst hs
   refine⟨rfl,?_⟩
   have e1:(((⟨b,o,none⟩:Addr).add (i*P.cellsOf e)).add j)=⟨b,o+(i*P.cellsOf e+j),none⟩:=by rw[Addr.add_lit,Addr.add_lit];congr 1;omega
   rw[e1] at hc
   exact hc
theorem E8(h:Rd enc P W t cs d){L:List (Nat×Nat)}(hL:lS P t=L)(h0:L≠[]) :
  cs.length=P.cellsOf t/\∀(i o ty:Nat),L[i]?=some (o,ty)->∃d',Rd enc P W ty ((cs.drop o).take (P.cellsOf ty)) d'/\Rows.uptoBulk d'<=Rows.uptoBulk d:=by
 obtain⟨n,p,hr⟩:=h.rd
 unfold lS at hL
 cases hu:P.underlying t with
 | none=>rw[hu] at hL;exact absurd hL.symm h0
 | some dd =>
  rw[hu] at hL
  cases dd with
  | struct fs =>
   simp only at hL
   obtain⟨xs,n',_,hx,hlen,hxl,hf⟩:=DataW.trod_struct hu hr
   simp only[Prod.mk.injEq] at hx
   refine⟨hlen,λ i o ty hi=>?_⟩
   rw[<- hL,List.getElem?_map] at hi
   obtain⟨f,hfi,he⟩:=Option.map_eq_some_iff.1 hi
   simp only[Prod.mk.injEq] at he
   obtain⟨rfl,rfl⟩:=he
   have hfi':fs[i]?=some f:=by simpa using hfi
   have hil:i<xs.length:=by rw[hxl];exact(Array.getElem?_eq_some_iff.1 hfi').1
   have hx':=hf i f hfi'
   rw[List.getElem?_eq_getElem hil] at hx'
   refine⟨xs[i].1,⟨⟨n',xs[i].2,hx'⟩,λ k hk=>h.wt k ?_⟩,?_⟩
   ·rw[hx.1]
    simp only[DataW.weights,hu]
    exact nW (i:=i) (ty:=f.type) (d:=xs[i].1) (by simp[hfi']) (by simp[hil]) hk
   ·rw[hx.1]
    exact Xe (List.mem_map.2 ⟨xs[i],List.getElem_mem hil,rfl⟩)
  | _=>exact absurd hL.symm h0
set_option maxRecDepth 100000
theorem Zl(h:Rd enc Tryz.prog W 59 cs d):∃(n:Nd) (xs:List Int) (ys:List Pr),cs=n.cells/\pQ W n xs ys/\kG n xs ys/\ys.length<=Rows.uptoBulk d:=by
 obtain⟨n,xs,ys,e1,h2,h3⟩:=cz h
 refine⟨n,xs,ys,e1,h2,h3,?_⟩
 obtain⟨hl,hf⟩:=E8 h Z6 (by simp)
 obtain⟨d8,h8,hb⟩:=hf 8 _ _ rfl
 rw[lK rfl] at h8
 obtain⟨a,m,c,C,D,e,hm,_⟩:=Hr h8 kw (by rw[W0];decide)
 have e8:=iP e
 rw[e1] at e8
 have e9:(Value.slice n.prA n.prN n.dI)=.slice a m c:=by simpa[Nd.cells] using e8
 injection e9 with _ hn _
 rw[<- h2.prN,hn]
 omega
theorem Ud(h:Rd enc Tryz.prog W 38 cs d):∃(a:Option Addr) (L:List aQ) (c:Nat),cs=[.slice a L.length c]/\L.length<=c/\c<=140737488351232/\Cl W a (iD L)/\(∀f∈bG L,Cl W f.1 f.2)/\Fits L/\lD L/\∀v∈L,v.ys.length<=Rows.uptoBulk d:=by
 obtain⟨a,m,c,C,D,rfl,_,hm,hw,hel⟩:=Hr h cy (by rw[Qb];decide)
 have hV:∃V:Nat->aQ,∀i,i<m->C i=(V i).nd.cells/\pQ W (V i).nd (V i).xs (V i).ys/\kG (V i).nd (V i).xs (V i).ys/\(V i).ys.length<=Rows.uptoBulk d:=Deep.choose_lt (α:=aQ) (p:=λ i (v:aQ)=>C i=v.nd.cells/\pQ W v.nd v.xs v.ys/\kG v.nd v.xs v.ys/\v.ys.length<=Rows.uptoBulk d) λ i hi=>by
  obtain⟨n,xs,ys,h1,h2,h3,h4⟩:=Zl (hel i hi).2.2.1
  exact⟨⟨n,xs,ys⟩,h1,h2,h3,Nat.le_trans h4 (hel i hi).2.2.2⟩
 obtain⟨V,hV⟩:=hV
 have hmem:∀v∈(List.range m).map V,∃i,i<m/\V i=v:=λ v hv=>by
  obtain⟨i,hi,e⟩:=List.mem_map.1 hv
  exact⟨i,List.mem_range.1 hi,e⟩
 refine⟨a,(List.range m).map V,c,by simp,by simpa using hm,?_,?_,λ f hf=>?_,λ v hv=>?_,λ v hv=>?_,λ v hv=>?_⟩
 ·have hb:=Nat.le_of_ble_eq_true ov
  have h2:c*1<=c*Tryz.prog.bytesOf 59:=Nat.mul_le_mul_left _ hb
  rw[reachBytes] at hw
  omega
 ·refine⟨λ q u hq=>?_⟩
  have:=zP (W:=W) (a:=a) (f:=λ v:aQ=>v.nd.cells) (sz:=14) (by decide) (λ v=>iF v.nd) ((List.range m).map V) 0 (λ i x hx j v hj=>by
   have hi:i<m:=by simpa using(List.getElem?_eq_some_iff.1 hx).1
   have hxv:x=V i:=by simpa[hi] using hx.symm
   subst hxv
   rw[<- (hV i hi).1] at hj
   have:=(hel i hi).2.1 j v hj
   rw[Qb] at this
   simpa using this) q u hq
  simpa using this
 ·obtain⟨v,hv,hf⟩:=nM.1 hf
  obtain⟨i,hi,rfl⟩:=hmem v hv
  have hr:=(hV i hi).2.1
  simp only[aQ.fr,List.mem_cons,List.not_mem_nil,or_false] at hf
  rcases hf with rfl|rfl
  ·exact hr.br
  ·exact hr.pr
 ·obtain⟨i,hi,rfl⟩:=hmem v hv
  exact po (hV i hi).2.2.1 (hV i hi).2.1
 ·obtain⟨i,hi,rfl⟩:=hmem v hv
  exact ti (hV i hi).2.2.1
 ·obtain⟨i,hi,rfl⟩:=hmem v hv
  exact(hV i hi).2.2.2
theorem P9(h:Arg enc Tryz.prog W 41 v d):∃s:uc,v=.agg ⟨[.slice s.pn s.L.length s.cn,.slice s.pc s.cs.length s.cc,.int .i64 s.gen]⟩/\fV W s.L s.cs s.pn s.pc/\s.Ok/\s.L.length<=4611686018427387904/\s.cs.length<=4611686018427387904/\oG s.gen/\∀v∈s.L,v.ys.length<=Rows.uptoBulk d:=by
 obtain⟨⟨base,hv⟩,hr⟩:=h
 obtain⟨fs,hu⟩:=Np Sh (by simp)
 unfold Value.okWide at hv
 rw[hu] at hv
 obtain⟨⟨cs⟩,rfl,_⟩:=hv
 simp only[Value.cells] at hr
 obtain⟨hl,hf⟩:=E8 hr Sh (by simp)
 rw[jq] at hl
 obtain⟨d0,h0,b0⟩:=hf 0 _ _ rfl
 obtain⟨d1,h1,_⟩:=hf 1 _ _ rfl
 obtain⟨d2,h2,_⟩:=hf 2 _ _ rfl
 rw[j6] at h0
 rw[lK rfl] at h1 h2
 obtain⟨a0,L,c0,e0,k0,k0',cl0,fam,fit,rng,hys⟩:=Ud h0
 obtain⟨a1,l1,c1,e1,k1,k1',cl1,_⟩:=h1.refs ar Ha (lK rfl) mq
 obtain⟨g,e2,r2⟩:=h2.int Ie
 replace e0:=iP e0
 replace e1:=iP e1
 replace e2:=iP e2
 refine⟨⟨L,l1,g,a0,c0,a1,c1⟩,?_,⟨cl0,cl1,fam,fit⟩,⟨fit,rng,k0⟩,by show L.length<=_;omega,by show l1.length<=_;omega,E4 r2,λ v hv=>Nat.le_trans (hys v hv) b0⟩
 match cs,hl with
 | [x,y,z],_ =>
  simp at e0 e1 e2
  rw[e0,e1,e2]
theorem Yu:lS Tryz.prog 33=[(0,31),(1,4)]:=by kernel_rfl
theorem qz:Tryz.prog.cellsOf 33=2:=by kernel_rfl
theorem rp:Tryz.prog.cellsOf 4=1:=by kernel_rfl
theorem bz(h:Arg enc Tryz.prog W 33 v d):∃(c:Int) (ro:Bool),v=.agg ⟨[.int .i64 c,.bool ro]⟩/\oG c:=by
 obtain⟨⟨base,hv⟩,hr⟩:=h
 obtain⟨fs,hu⟩:=Np Yu (by simp)
 unfold Value.okWide at hv
 rw[hu] at hv
 obtain⟨⟨cs⟩,rfl,_⟩:=hv
 simp only[Value.cells] at hr
 obtain⟨hl,hf⟩:=hr.struct Yu (by simp)
 rw[qz] at hl
 obtain⟨d0,h0⟩:=hf 0 _ _ rfl
 obtain⟨d1,h1⟩:=hf 1 _ _ rfl
 rw[lK rfl] at h0
 rw[rp] at h1
 obtain⟨c,e0,r0⟩:=h0.int Kg
 obtain⟨b,e1⟩:=h1.bool lb
 replace e0:=iP e0
 replace e1:=iP e1
 refine⟨c,b,?_,E4 r0⟩
 match cs,hl with
 | [x,y],_ =>
  simp at e0 e1
  rw[e0,e1]
theorem Qx{fn:Func}{args:List Value}{ds:List (DataW H)}{ts:List TypeId}(h:ee enc P fn W args ds)(hp:fn.params.toList=t::ts):∃v vs d ds',args=v::vs/\ds=d::ds'/\Arg enc P W t v d:=by
 obtain⟨⟨base,hv⟩,⟨p,ht,_⟩,hw⟩:=h
 rw[hp] at ht hv hw
 obtain⟨v,vs,d,ds',a,b,rfl,rfl,rfl,h1,h2⟩:=trodAll_cons ht
 refine⟨v,vs,d,ds',rfl,rfl,⟨base,hv 0 t v rfl rfl⟩,?_⟩
 obtain⟨n,hn⟩:=h1
 refine⟨⟨n,a,hn⟩,λ k hk=>hw k ?_⟩
 simp only[DataW.weightsEach,List.mem_append]
 exact .inl hk
end
end

end Go.Proofs.YtpobgmdalcpomaaGreat

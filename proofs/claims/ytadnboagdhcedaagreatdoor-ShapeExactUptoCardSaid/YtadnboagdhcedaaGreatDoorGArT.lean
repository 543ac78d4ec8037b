/- Lists of states. -/
import Derived.Test.YtadnboagdhcedaaGreatDoorGBits
import Derived.Test.YtadnboagdhcedaaGreatDoorGOpen
import Derived.Test.YtadnboagdhcedaaGreatDoorGFun
import Derived.Deep.CondSized

set_option linter.unusedSimpArgs false
set_option linter.unusedVariables false
namespace Go.Ct
section
open Go Go.RowKit
section
variable{w0 w w':World}{M:List Nat}{H:List (Nat×Obj)}{A F:Fr}{O:List Ow}
variable{P:Program}{S:List (Nat×Value)}{G:World->Prop}{d:Nat}{ty:TypeId}{pos:String}{af:Array Edge}{gd:Option (Nat×Bool)}{x y:Operand}{t t2 e:TypeId}{p a:Option Addr}{i m k c c2 sz:Nat}
variable{α:Type}{g:α->List Value}{z:α}
theorem SF.aCV(h:SF w0 M H A F O w){l:List Int}{T:TypeId}(ho:uN O i p (aH l) c T 1):l.length<=c:=by
 rcases(h.own _ ho.mem).1 with⟨_,h2,_⟩|⟨b,rest,_,_,h3⟩
 ·have h2':aH l=[]:=h2;have:(aH l).length=0:=by rw[h2'];rfl
  rw[gV] at this
  omega
 ·have h3':(aH l++rest).length=c*1:=h3;rw[List.length_append,gV] at h3';omega
end
structure kr where
 L:List aI
 cs:List Int
 gen:Int
 pn:Option Addr
 cn:Nat
 pc:Option Addr
 cc:Nat
def kr.cells(s:kr):List Value:=[.slice s.pn s.L.length s.cn,.slice s.pc s.cs.length s.cc,.int .i64 s.gen]
def kr.fr(s:kr):Fr:=(s.pn,fX s.L)::(s.pc,aH s.cs)::bD s.L
structure kr.Ok(s:kr):Prop where
 fit:Fits s.L
 Ic:iG s.L
 cap:s.L.length<=s.cn
end
end Go.Ct
namespace Go.Proofs.YtadnboagdhcedaaGreatDoor
section
open Go.RowKit Go.Ct
theorem Sh{L:List aI}{cs:List Int}{gen:Int}{pn pc:Option Addr}{cn cc:Nat}{w:World}(h1:Cl w pn (fX L))(h2:Cl w pc (aH cs))(hL:L.length<=274877906944)(hC:cs.length<=274877906944) :
  Calls Tryz.prog 30 #[.agg ⟨[.slice pn L.length cn,.slice pc cs.length cc,.int .i64 gen]⟩] w λ e w'=>∃x:(Option Addr×Nat)×(Option Addr×Nat),e=.returned (.agg ⟨[.slice x.1.1 L.length x.1.2,.slice x.2.1 cs.length x.2.2,.int .i64 gen]⟩)/\(L.length<=x.1.2/\cs.length<=x.2.2) /\
   SF w [] [] [] [] [⟨x.1.1,fX L,x.1.2,77,14⟩,⟨x.2.1,aH cs,x.2.2,62,1⟩] w':=by
 refine enter Tryz.func30 Tryz.ntmps30 rfl rfl (SF.s2 h1 h2) ?_;simp only[cP]
 refine K1k ?_;intro x1;refine aT (λ x2=>?_);refine Vy ?_;refine eN [3,4,5,6,7,8,9,10,11,12,13] (λ j:(Option Addr×Nat)×(Option Addr×Nat)=>[]) (λ _=>True) (λ j=>[(x2,.cells ⟨[.slice j.1.1 L.length j.1.2,.slice j.2.1 cs.length j.2.2,.int .i64 gen]⟩ 25 (0,0)),(x1,.cells ⟨[.slice pn L.length cn,.slice pc cs.length cc,.int .i64 gen]⟩ 25 (0,0))]) (λ j=>[]) (λ j=>[⟨j.1.1,fX L,j.1.2,77,14⟩,⟨j.2.1,aH cs,j.2.2,62,1⟩]) (by decide) (λ _=>by exact rfl) ?_ (λ j f hx=>?_)
 ·refine fY (.one 1 [] (.one 2 [] (.one 5 [] (.one 6 [] (.one 8 [] (.one 9 [] (.two 0 [2,6,9] (.two 3 [6,9] (.one 4 [2,6,9] (.one 7 [9] (.one 10 [] (.one 11 [] .nil)))) 0 [] (.two 4 [2,6,9] (.one 3 [6,9] (.one 7 [9] (.one 10 [] (.one 11 [] .nil)))) 0 [] .nil)) 0 [] (.two 4 [2,6,9] (.one 0 [2,6,9] (.one 3 [6,9] (.one 7 [9] (.one 10 [] (.one 11 [] .nil))))) 0 [] .nil)))))))) ?_;refine Ke2 ?_;refine iT ?_;refine fV (E:=[0,4]) (by decide +kernel) ((.cons ?_ (.cons ?_ .nil)))
  ·refine vJ (i:=0) (h:=λ x3=>?_);refine fV (E:=[3,4]) (by decide +kernel) ((.cons ?_ (.cons ?_ .nil)))
   ·(refine Gg (i:=3) (h:=λ x6=>?_);try (refine dO (λ h6=>?_)));refine Az (h:=λ x7=>?_);((refine fP (h:=λ x10=>?_);try (refine dO (λ h10=>?_))));refine gQ ?_;refine vF ?_
    refine eQ ((x6,x10)) ?_ (hw1:=λ w hw=>by
     simp only[List.nil_append,Nat.zero_add] at hw
     exact hw.Oj.back (hO:=by exact List.Sublist.refl _))
    ·trivial
   ·refine vJ (i:=4) (h:=λ x7=>?_);((refine fP (h:=λ x6=>?_);try (refine dO (λ h6=>?_))));((refine fP (h:=λ x10=>?_);try (refine dO (λ h10=>?_))));refine gQ ?_;refine vF ?_
    refine eQ ((x6,x10)) ?_ (hw1:=λ w hw=>by
     simp only[List.nil_append,Nat.zero_add] at hw
     exact hw.Oj.back (hO:=by exact List.Sublist.refl _))
    ·trivial
  ·refine vJ (i:=4) (h:=λ x7=>?_);refine Az (h:=λ x3=>?_);((refine fP (h:=λ x6=>?_);try (refine dO (λ h6=>?_))));((refine fP (h:=λ x10=>?_);try (refine dO (λ h10=>?_))));refine gQ ?_;refine vF ?_
   refine eQ ((x6,x10)) ?_ (hw1:=λ w hw=>by
    simp only[List.nil_append,Nat.zero_add] at hw
    exact hw.back (hO:=by exact List.Sublist.refl _))
   ·trivial
 refine K0a ?_;refine bK Tryz.results30 (λ w hw=>?_);exact⟨j,rfl,⟨hw.Se .head,hw.aCV (.tail .head)⟩,hw.aQ⟩
end

/- The arguments are opened: states. -/
section
open Go.RowKit Go.Ct Go.ChangeShapes Go.WideShapes
theorem uc:Tryz.prog.underlying 22=some (.slice 77):=by kernel_rfl
theorem V8:mP Tryz.prog 25=[(0,22),(1,23),(2,3)]:=by kernel_rfl
theorem ns:Tryz.prog.cellsOf 25=3:=by kernel_rfl
theorem qg:Tryz.prog.cellsOf 22=1:=by kernel_rfl
theorem yv:Nat.ble 1 (Tryz.prog.bytesOf 77)=true:=by kernel_rfl
theorem P2{t:Nat}{l:List (Nat×Nat)}(h:mP Tryz.prog t=l)(h0:l≠[]):∃fs,Tryz.prog.underlying t=some (.struct fs):=by
 unfold mP at h
 cases hu:Tryz.prog.underlying t with
 | none=>rw[hu] at h;exact absurd h.symm h0
 | some dd =>
  rw[hu] at h
  cases dd<;>first|exact⟨_,rfl⟩|exact absurd h.symm h0
theorem aAE{n:Nd}{xs:List Int}{ys:List Pr}(h:kI n xs ys):NdR n:=by
 obtain⟨h1,h2⟩:=h.bm
 exact⟨⟨n.bm.toNat,by omega,by omega⟩,h.main.2,h.prev.2,h.status.2⟩
theorem zl{n:Nd}{xs:List Int}{ys:List Pr}{W:World}(h:kI n xs ys)(hr:qR W n xs ys):aI.Fit ⟨n,xs,ys⟩:=by
 have h1:=h.brc;have h2:=h.brk;have h3:=h.prc;have h4:=h.prk;exact⟨hr.brN,hr.prN,by show xs.length<=_;omega,by show ys.length<=_;omega⟩
section
variable{H:Type}{enc:TypeId×Value->H}{W:World}{cs:List Value}{d:DataW H}{v:Value}
instance:Inhabited aI:=⟨aI.zero⟩
set_option maxRecDepth 100000
end
end

/- From the walk of a law to its row of the second form. -/
section
open Go Go.RowKit Go.ChangeShapes Go.WideShapes Go.ChangeAt Go.Ct
theorem ck{H:Type}(d:DataW H):1<=Rows.uptoBulk d:=by
 cases d with
 | lit l=>cases l<;>simp[Rows.uptoBulk]
 | nil=>simp[Rows.uptoBulk]
 | ptr d=>simp[Rows.uptoBulk]
 | slice elems spare=>simp[Rows.uptoBulk]
 | agg parts=>simp[Rows.uptoBulk]
 | iface t d=>simp[Rows.uptoBulk]
 | map entries=>simp[Rows.uptoBulk]
 | held h=>simp[Rows.uptoBulk]
theorem xT{H:Type}{d:DataW H}:∀{l:List (DataW H)},d∈l->Rows.uptoBulk d<=Rows.uptoBulkAll l
 | x::r,h=>by
  simp only[Rows.uptoBulkAll]
  rcases List.mem_cons.1 h with e|e
  ·subst e;omega
  ·have:=xT e;omega
theorem aw{H:Type}{l r:List (DataW H)}{n:Nat}(h:Rows.uptoBulkAll (l++r)<=n):Rows.uptoBulkAll l<=n:=by
 have:∀l r:List (DataW H),Rows.uptoBulkAll l<=Rows.uptoBulkAll (l++r):=by
  intro l r
  induction l with
  | nil=>exact Nat.zero_le _
  | cons x l ih=>simp only[List.cons_append,Rows.uptoBulkAll];omega
 exact Nat.le_trans (this l r) h
theorem On{H:Type}:∀(l:List (DataW H)),l.length<=Rows.uptoBulkAll l
 | []=>Nat.zero_le _
 | x::r=>by
  have:=ck x
  have:=On r
  simp only[Rows.uptoBulkAll,List.length_cons]
  omega
theorem b9{H:Type}{d:DataW H}{l:List (DataW H)}(h:d∈l):Rows.uptoBulk d<=Rows.uptoBulk (.agg l):=by
 have:=xT h
 simp only[Rows.uptoBulk]
 omega
theorem Yt{H:Type}{d:DataW H}{l l2:List (DataW H)}(h:d∈l):Rows.uptoBulk d<=Rows.uptoBulk (.slice l l2):=by
 have:=xT h
 simp only[Rows.uptoBulk]
 omega
theorem R4{H:Type}(l l2:List (DataW H)):l.length<=Rows.uptoBulk (.slice l l2):=by
 have:=On l
 simp only[Rows.uptoBulk]
 omega
end

/- The arguments are opened: states whose bulk is bounded. -/
section
open Go Go.RowKit Go.Ct Go.ChangeShapes Go.WideShapes Go.ChangeAt
section
variable{H:Type}{enc:TypeId×Value->H}{P:Program}{W:World}{t e:TypeId}{cs:List Value}{d:DataW H}{v:Value}
theorem Ji(h:Rd enc P W t cs d)(ht:P.underlying t=some (.slice e))(h0:0<P.cellsOf e) :
  ∃(a:Option Addr) (m c:Nat) (C:Nat->List Value) (D:Nat->DataW H),cs=[.slice a m c]/\m<=Rows.uptoBulk d/\m<=c/\c*P.bytesOf e<=reachBytes /\
   ∀i,i<m->(C i).length=P.cellsOf e/\(∀j u,(C i)[j]?=some u->a=some ⟨cZ a,eG a,none⟩/\W.cell? ⟨cZ a,eG a+(i*P.cellsOf e+j),none⟩=some u)/\Rd enc P W e (C i) (D i)/\Rows.uptoBulk (D i)<=Rows.uptoBulk d:=by
 obtain⟨n,p,hr⟩:=h.rd
 rcases Deep.open_slice ht hr with⟨rfl,_⟩|⟨a,len,cap,m,n',D,Pl,rfl,hb,hl,hm,hmm,hx,hel⟩
 ·exact⟨none,0,0,λ _=>[],λ _=>.nil,rfl,Nat.zero_le _,Nat.le_refl _,by simp,λ i hi=>absurd hi (Nat.not_lt_zero i)⟩
 ·simp only[if_true] at hmm
  subst hmm
  simp only[Prod.mk.injEq] at hx
  obtain⟨hd,_⟩:=hx
  have hw:=h.wt;subst hd;have hmem:∀i,i<len->D i∈(List.range len).map D:=λ i hi=>List.mem_map.2 ⟨i,List.mem_range.2 hi,rfl⟩
  have hwt:∀i,i<len->∀k∈(D i).weights P e,k<=reachBytes:=λ i hi k hk=>hw k (by
   simp only[DataW.weights,ht,List.mem_cons,List.mem_append]
   exact .inr (.inl (qJ (hmem i hi) hk)))
  obtain⟨C,hC⟩:=Deep.choose_lt (α:=List Value) (n:=len) (p:=λ i cs'=>W.cells? 0 (a.add (i*P.cellsOf e)) (P.cellsOf e)=some cs'/\DataW.trod enc P W 0 (λ _=>true) true n' e cs'=some (D i,Pl i)) (λ i hi=>hel i (by omega))
  refine⟨some a,len,m,C,D,rfl,?_,hl,?_,λ i hi=>?_⟩
  ·have:=R4 ((List.range len).map D) ((List.range (m-len)).map λ j=>D (len+j));rwa [List.length_map,List.length_range] at this
  ·have:=hw ((((List.range len).map D).length+((List.range (m-len)).map λ j=>D (len+j)).length)*P.bytesOf e) (by
    simp[DataW.weights,ht])
   simp only[List.length_map,List.length_range] at this
   rwa [show len+(m-len)=m by omega] at this
  ·obtain⟨h1,h2⟩:=hC i hi
   obtain⟨_,hlen,hcell⟩:=World.cells?_some h1
   refine⟨hlen,λ j u hj=>?_,⟨⟨n',Pl i,h2⟩,hwt i hi⟩,Yt (hmem i hi)⟩;have hjl:j<P.cellsOf e:=by rw[<- hlen];exact(List.getElem?_eq_some_iff.1 hj).1
   have hc:=(hcell j hjl).trans hj;obtain⟨b,o,s⟩:=a
   have hs:s=none:=by
    obtain⟨g1,_⟩:=hC 0 (by omega)
    obtain⟨_,glen,gcell⟩:=World.cells?_some g1
    have g:=gcell 0 h0;rw[List.getElem?_eq_getElem (by rw[glen];exact h0)] at g;simp only[Nat.zero_mul,Addr.add,if_true] at g
    unfold World.cell? at g
    cases s with
    | none=>rfl
    | some z=>split at g<;>simp at g
   subst hs;refine⟨rfl,?_⟩;have e1:(((⟨b,o,none⟩:Addr).add (i*P.cellsOf e)).add j)=⟨b,o+(i*P.cellsOf e+j),none⟩:=by rw[Addr.add_lit,Addr.add_lit];congr 1;omega
   rw[e1] at hc
   exact hc
theorem G5(h:Rd enc P W t cs d){L:List (Nat×Nat)}(hL:mP P t=L)(h0:L≠[]) :
  cs.length=P.cellsOf t/\∀(i o ty:Nat),L[i]?=some (o,ty)->∃d',Rd enc P W ty ((cs.drop o).take (P.cellsOf ty)) d'/\Rows.uptoBulk d'<=Rows.uptoBulk d:=by
 obtain⟨n,p,hr⟩:=h.rd
 unfold mP at hL
 cases hu:P.underlying t with
 | none=>rw[hu] at hL;exact absurd hL.symm h0
 | some dd =>
  rw[hu] at hL
  cases dd with
  | struct fs =>
   simp only at hL
   obtain⟨xs,n',_,hx,hlen,hxl,hf⟩:=DataW.trod_struct hu hr
   simp only[Prod.mk.injEq] at hx
   refine⟨hlen,λ i o ty hi=>?_⟩
   rw[<- hL,List.getElem?_map] at hi
   obtain⟨f,hfi,he⟩:=Option.map_eq_some_iff.1 hi
   simp only[Prod.mk.injEq] at he
   obtain⟨rfl,rfl⟩:=he
   have hfi':fs[i]?=some f:=by simpa using hfi
   have hil:i<xs.length:=by rw[hxl];exact(Array.getElem?_eq_some_iff.1 hfi').1
   have hx':=hf i f hfi';rw[List.getElem?_eq_getElem hil] at hx';refine⟨xs[i].1,⟨⟨n',xs[i].2,hx'⟩,λ k hk=>h.wt k ?_⟩,?_⟩
   ·rw[hx.1]
    simp only[DataW.weights,hu]
    exact oV (i:=i) (ty:=f.type) (d:=xs[i].1) (by simp[hfi']) (by simp[hil]) hk
   ·rw[hx.1]
    exact b9 (List.mem_map.2 ⟨xs[i],List.getElem_mem hil,rfl⟩)
  | _=>exact absurd hL.symm h0
set_option maxRecDepth 100000
theorem Z4(h:Rd enc Tryz.prog W 77 cs d):∃(n:Nd) (xs:List Int) (ys:List Pr),cs=n.cells/\qR W n xs ys/\kI n xs ys/\ys.length<=Rows.uptoBulk d:=by
 obtain⟨n,xs,ys,e1,h2,h3⟩:=qc h
 refine⟨n,xs,ys,e1,h2,h3,?_⟩
 obtain⟨hl,hf⟩:=G5 h du (by simp)
 obtain⟨d8,h8,hb⟩:=hf 8 _ _ rfl
 rw[mG rfl] at h8
 obtain⟨a,m,c,C,D,e,hm,_⟩:=Ji h8 vv (by rw[ei];decide)
 have e8:=iX e;rw[e1] at e8;have e9:(Value.slice n.prA n.prN n.dK)=.slice a m c:=by simpa[Nd.cells] using e8
 injection e9 with _ hn _
 rw[<- h2.prN,hn]
 omega
theorem Y7(h:Rd enc Tryz.prog W 22 cs d):∃(a:Option Addr) (L:List aI) (c:Nat),cs=[.slice a L.length c]/\L.length<=c/\c<=140737488351232/\Cl W a (fX L)/\(∀f∈bD L,Cl W f.1 f.2)/\Fits L/\iG L/\(∀v∈L,v.ys.length<=Rows.uptoBulk d)/\∀v∈L,∃h:Nat,v.nd.hash=(h:Int)/\h<18446744073709551616:=by
 obtain⟨a,m,c,C,D,rfl,_,hm,hw,hel⟩:=Ji h uc (by rw[Tj];decide)
 have hV:∃V:Nat->aI,∀i,i<m->C i=(V i).nd.cells/\qR W (V i).nd (V i).xs (V i).ys/\kI (V i).nd (V i).xs (V i).ys/\(V i).ys.length<=Rows.uptoBulk d:=Deep.choose_lt (α:=aI) (p:=λ i (v:aI)=>C i=v.nd.cells/\qR W v.nd v.xs v.ys/\kI v.nd v.xs v.ys/\v.ys.length<=Rows.uptoBulk d) λ i hi=>by
  obtain⟨n,xs,ys,h1,h2,h3,h4⟩:=Z4 (hel i hi).2.2.1
  exact⟨⟨n,xs,ys⟩,h1,h2,h3,Nat.le_trans h4 (hel i hi).2.2.2⟩
 obtain⟨V,hV⟩:=hV
 have hmem:∀v∈(List.range m).map V,∃i,i<m/\V i=v:=λ v hv=>by
  obtain⟨i,hi,e⟩:=List.mem_map.1 hv
  exact⟨i,List.mem_range.1 hi,e⟩
 refine⟨a,(List.range m).map V,c,by simp,by simpa using hm,?_,?_,λ f hf=>?_,λ v hv=>?_,λ v hv=>?_,λ v hv=>?_,λ v hv=>?_⟩
 ·have hb:=Nat.le_of_ble_eq_true yv;have h2:c*1<=c*Tryz.prog.bytesOf 77:=Nat.mul_le_mul_left _ hb;rw[reachBytes] at hw;omega
 ·refine⟨λ q u hq=>?_⟩
  have:=Bm (W:=W) (a:=a) (f:=λ v:aI=>v.nd.cells) (sz:=14) (by decide) (λ v=>fE v.nd) ((List.range m).map V) 0 (λ i x hx j v hj=>by
   have hi:i<m:=by simpa using(List.getElem?_eq_some_iff.1 hx).1
   have hxv:x=V i:=by simpa[hi] using hx.symm
   subst hxv;rw[<- (hV i hi).1] at hj;have:=(hel i hi).2.1 j v hj;rw[Tj] at this
   simpa using this) q u hq
  simpa using this
 ·obtain⟨v,hv,hf⟩:=gK.1 hf
  obtain⟨i,hi,rfl⟩:=hmem v hv
  have hr:=(hV i hi).2.1;simp only[aI.fr,List.mem_cons,List.not_mem_nil,or_false] at hf
  rcases hf with rfl|rfl
  ·exact hr.br
  ·exact hr.pr
 ·obtain⟨i,hi,rfl⟩:=hmem v hv
  exact zl (hV i hi).2.2.1 (hV i hi).2.1
 ·obtain⟨i,hi,rfl⟩:=hmem v hv
  exact aAE (hV i hi).2.2.1
 ·obtain⟨i,hi,rfl⟩:=hmem v hv
  exact(hV i hi).2.2.2
 ·obtain⟨i,hi,rfl⟩:=hmem v hv
  have:=(hV i hi).2.2.1.hash;unfold Bb at this;exact⟨(V i).nd.hash.toNat,by omega,by omega⟩
theorem Ss(h:Arg enc Tryz.prog W 25 v d):∃s:kr,v=.agg ⟨[.slice s.pn s.L.length s.cn,.slice s.pc s.cs.length s.cc,.int .i64 s.gen]⟩/\eP W s.L s.cs s.pn s.pc/\s.Ok/\s.L.length<=4611686018427387904/\s.cs.length<=4611686018427387904/\pB s.gen/\(∀v∈s.L,v.ys.length<=Rows.uptoBulk d)/\∀v∈s.L,∃h:Nat,v.nd.hash=(h:Int)/\h<18446744073709551616:=by
 obtain⟨⟨base,hv⟩,hr⟩:=h
 obtain⟨fs,hu⟩:=P2 V8 (by simp)
 unfold Value.okWide at hv
 rw[hu] at hv
 obtain⟨⟨cs⟩,rfl,_⟩:=hv
 simp only[Value.cells] at hr
 obtain⟨hl,hf⟩:=G5 hr V8 (by simp)
 rw[ns] at hl
 obtain⟨d0,h0,b0⟩:=hf 0 _ _ rfl
 obtain⟨d1,h1,_⟩:=hf 1 _ _ rfl
 obtain⟨d2,h2,_⟩:=hf 2 _ _ rfl
 rw[qg] at h0
 rw[mG rfl] at h1 h2
 obtain⟨a0,L,c0,e0,k0,k0',cl0,O9,fit,Ic,hys,hhs⟩:=Y7 h0
 obtain⟨a1,l1,c1,e1,k1,k1',cl1,_⟩:=h1.refs j4 N6 (mG rfl) uk
 obtain⟨g,e2,r2⟩:=h2.int Fj
 replace e0:=iX e0
 replace e1:=iX e1
 replace e2:=iX e2
 refine⟨⟨L,l1,g,a0,c0,a1,c1⟩,?_,⟨cl0,cl1,O9,fit⟩,⟨fit,Ic,k0⟩,by show L.length<=_;omega,by show l1.length<=_;omega,Fq r2,λ v hv=>Nat.le_trans (hys v hv) b0,hhs⟩
 match cs,hl with
 | [x,y,z],_ =>
  simp at e0 e1 e2
  rw[e0,e1,e2]
theorem cu:mP Tryz.prog 29=[(0,27),(1,4)]:=by kernel_rfl
theorem xj:Tryz.prog.cellsOf 29=2:=by kernel_rfl
theorem zt:Tryz.prog.cellsOf 4=1:=by kernel_rfl
theorem Z3(h:Arg enc Tryz.prog W 29 v d):∃(c:Int) (ro:Bool),v=.agg ⟨[.int .i64 c,.bool ro]⟩/\pB c:=by
 obtain⟨⟨base,hv⟩,hr⟩:=h
 obtain⟨fs,hu⟩:=P2 cu (by simp)
 unfold Value.okWide at hv
 rw[hu] at hv
 obtain⟨⟨cs⟩,rfl,_⟩:=hv
 simp only[Value.cells] at hr
 obtain⟨hl,hf⟩:=hr.struct cu (by simp)
 rw[xj] at hl
 obtain⟨d0,h0⟩:=hf 0 _ _ rfl
 obtain⟨d1,h1⟩:=hf 1 _ _ rfl
 rw[mG rfl] at h0
 rw[zt] at h1
 obtain⟨c,e0,r0⟩:=h0.int Ld
 obtain⟨b,e1⟩:=h1.bool vr
 replace e0:=iX e0
 replace e1:=iX e1
 refine⟨c,b,?_,Fq r0⟩
 match cs,hl with
 | [x,y],_ =>
  simp at e0 e1
  rw[e0,e1]
theorem Tg{fn:Func}{args:List Value}{ds:List (DataW H)}{ts:List TypeId}(h:ox enc P fn W args ds)(hp:fn.params.toList=t::ts):∃v vs d ds',args=v::vs/\ds=d::ds'/\Arg enc P W t v d:=by
 obtain⟨⟨base,hv⟩,⟨p,ht,_⟩,hw⟩:=h
 rw[hp] at ht hv hw
 obtain⟨v,vs,d,ds',a,b,rfl,rfl,rfl,h1,h2⟩:=trodAll_cons ht
 refine⟨v,vs,d,ds',rfl,rfl,⟨base,hv 0 t v rfl rfl⟩,?_⟩
 obtain⟨n,hn⟩:=h1
 refine⟨⟨n,a,hn⟩,λ k hk=>hw k ?_⟩
 simp only[DataW.weightsEach,List.mem_append]
 exact .inl hk
end
end

end Go.Proofs.YtadnboagdhcedaaGreatDoor

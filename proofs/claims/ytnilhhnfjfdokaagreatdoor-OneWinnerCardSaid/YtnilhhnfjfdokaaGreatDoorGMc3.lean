/- handle: an operation begins, an operation ends. -/
import Derived.Test.YtnilhhnfjfdokaaGreatDoorGHa1
import Derived.Test.YtnilhhnfjfdokaaGreatDoorMp2

set_option linter.unusedSimpArgs false
set_option linter.unusedVariables false
namespace Go.Proofs.YtnilhhnfjfdokaaGreatDoor
section
open Go Go.RowKit Go.Ct
section
variable{D:List Nat}{A B:Fr}{a:AS}{b bT m bo bt bi:Nat}{w:World}{o:lO}{es:List jO}{ec k i:Nat}
theorem Pp{n:Nat}(h:jF es n 0=none):Instr.findNow (.int .i64) (.int .i64 ((n:Nat):Int)) (es.map (jO.e t3)) 0=some none:=by rw[Ev,h];rfl
theorem Qw{n q:Nat}{e:jO}(h:jF es n 0=some (q,e)):Instr.findNow (.int .i64) (.int .i64 ((n:Nat):Int)) (es.map (jO.e t3)) 0=some (some (q,(jO.e t3 e).val)):=by rw[Ev,h];rfl
theorem Pw(hk:k<8)(hi:i<16)(ho:F9 o)(hf:jF es (jK k i) 0=none)(hm0:m<18446744073709551616)(ok:a.Ok)(hm:a.mm.jL)(hA:∀f∈dV a.L,f∈A)(hB:∀x∈B,x∈A)(hs:SF w D [(bT,oT b m bo bt bi),(bo,bW (es.map (jO.e t3)) ec),(bt,bW (Dc t3) 1),(b,eN a)] A [] (fD a) w) :
  Calls Tryz.prog 32 #[pt bT,.int .i64 (k:Int),.int .i64 (i:Int),.agg ⟨o.cells⟩] w λ e w'=>∃x:Nat×Cd×Fr×AS,e=.returned (.pointer (some ⟨x.1,0,none⟩))/\Rj b (rT m o) a.mm a B x.2/\SF w D [(x.1,tO b x.2.1 0),(x.2.2.2.u,x.2.2.2.po),(bT,oT b m bo bt bi),(bo,bW ((es++[(⟨jK k i,o.kind,false,ec⟩:jO)]).map (jO.e t3)) (ec+1)),(bt,bW (Dc t3) 1),(b,eN x.2.2.2)] [] x.2.2.1 (fD x.2.2.2) w':=by
 have hkd:=ho.kind
 have h0:=ho.handle
 have hfd:=Pp hf
 refine enter Tryz.func32 Tryz.ntmps32 rfl rfl hs ?_
 simp only[cP]
 simp only[lO.cells]
 refine J0 ?_;refine bF (λ x7=>?_);refine Ni ?_;refine aF (cV (hc:=λ w1 hw=>iC hk hi w1)) (λ x16=>?_);refine Kc7 ?_;refine fF ?_
 refine aU (λ c18=>?_) (λ c18=>?_)
 ·try (contradiction)
 ·try (first|contradiction|(exfalso;omega))
  refine lS ?_;refine oJ ?_;refine aB ?_;refine aA (fR (iE (K:=3) (E:=138) (dK:=.int .i64) (ze:=.agg ⟨[.int .i64 0,.int .i64 0,.bool false,.bool false]⟩) (k:=.int .i64 ((jK k i:Nat):Int)) (es:=es.map (jO.e t3)) (c:=ec) (r:=none) rf rf bD (by kernel_rfl) (by kernel_rfl) rfl (by kernel_rfl) hfd)) rfl ?_;refine C9 ?_;refine aI (λ x10=>?_);refine Wv ?_;refine J2 ?_;refine aD ?_
  refine aU (λ c31=>?_) (λ c31=>?_)
  ·exact nv c31
  ·try (first|contradiction|(exfalso;omega))
   refine lS ?_;refine oJ ?_;refine aA (zX (K:=3) (E:=138) rf rf (by kernel_rfl)) rfl ?_;refine aD ?_
   refine aU (λ c39=>?_) (λ c39=>?_)
   ·try (contradiction)
   ·try (first|contradiction|(exfalso;omega))
    refine bB ?_;refine jA ?_;refine cK ?_;refine aI (λ x12=>?_);refine J5 ?_;refine C3 ?_;refine Kc9 ?_
    refine aU (λ c49=>?_) (λ c49=>?_)
    ·try (first|contradiction|(exfalso;omega))
     refine iM [0,1,2,3,4,5,6,7,8] ?_;refine mG ?_;refine gY ?_;refine aS (i:=6) (hq:=(fR (Ip (K:=3) (E:=38) (dK:=.int .i64) (ze:=.agg ⟨[.int .i64 0,.bool false]⟩) (k:=.int .i64 0) (es:=Dc t3) (c:=1) (r:=some (0,.agg ⟨[.int .i64 3,.bool false]⟩)) rf (by rw[<- h0];exact rfl) bD (by kernel_rfl) (by kernel_rfl) rfl (by kernel_rfl) rfl))) (h:=?_);refine bM ?_;refine fE (i:=8) (hq:=(cE λ _=>lH (off:=1) (vs:=[.int .i64 3,.bool false]) rf bD rf rfl cY (Nat.le_of_ble_eq_true rfl) rf dI)) (h:=λ _=>?_);refine dC ?_;refine aJ ?_;refine iM [0,1,2,3,4,5,6] ?_;refine mG ?_;refine aR ?_;refine cB ?_;refine fE (i:=6) (hq:=(cE λ _=>Et (K:=3) (E:=138) (dK:=.int .i64) (k:=.int .i64 ((jK k i:Nat):Int)) (v:=.agg ⟨[.int .i64 o.kind,.int .i64 3,.bool false,.bool false]⟩) (es:=es.map (jO.e t3)) (c:=ec) rf rf rf bD (by kernel_rfl) (by kernel_rfl) rfl hfd dI)) (h:=λ _=>?_);refine dC ?_;refine pF ?_;refine bP ?_;refine aH (cM (φ:=λ _=>True) (V:=λ _:Unit=>.int .i64 0) (hs:=[(bT,oT b m bo bt bi),(bt,bW (Dc t3) 1)]) (os:=[]) (A0:=[]) (hs':=λ _=>[(bT,oT b m bo bt bi),(bt,bW (Dc t3) 1)]) (os':=λ _=>[]) (Fc:=λ _=>[]) (hc:=λ w1 hw=>(Ig (t:=t3) ho.kind ho.handle ho.key rfl _ hw).mono λ _ _ ⟨e,h⟩=>⟨(),e,trivial,h⟩)) (λ x67 h67=>?_);refine Kb7 ?_;refine Kc9 ?_
     refine aU (λ c69=>?_) (λ c69=>?_)
     ·exact nv c69
     ·try (first|contradiction|(exfalso;omega))
      refine Kd3 ?_;refine aK ?_;refine aA (dE (k:=2) (vs:=[.int .i64 3,.bool false]) rf bD cY rfl rfl) rfl ?_;refine bP ?_;refine aH (Jh (V:=λ x:Nat×Cd×Fr×AS=>.pointer (some ⟨x.1,0,none⟩)) (hs:=[(bT,oT b m bo bt bi),(b,eN a)]) (os:=fD a) (hs':=λ x=>[(bT,oT b m bo bt bi),(b,eN x.2.2.2)]) (Hc:=λ x=>[(x.1,tO b x.2.1 0),(x.2.2.2.u,x.2.2.2.po)]) (os':=λ x=>fD x.2.2.2) (Oc:=λ _=>[]) (Fc:=λ x=>x.2.2.1) (A0:=A) (hc:=λ w1 hw=>(Pg ho hm0 ok hm hA hB hw).mono λ _ _ ⟨x,e,h,hw⟩=>⟨x,e,h,by rw[List.append_nil];exact hw.perm (List.perm_append_comm (l₁:=[(bT,oT b m bo bt bi),(b,eN x.2.2.2)]) (l₂:=[(x.1,tO b x.2.1 0),(x.2.2.2.u,x.2.2.2.po)])) (List.Perm.refl _)⟩)) (λ x78 h78=>?_);refine J1 ?_
      refine bE Tryz.results32 (λ w hw=>?_)
      exact⟨x78,rfl,h78,by rw[List.map_append];exact hw.ret (by repeat (first|exact List.Sublist.refl _|apply List.Sublist.cons_cons|apply List.Sublist.cons)) (bL.dH λ f hf=>by simpa using hf) (by repeat (exact List.Sublist.refl _))⟩
    ·try ((exfalso;omega))
theorem Mc{kd n:Int}{fin:Bool}{r0:Int}{ro:Bool}(hkd:kd=1∨kd=2∨kd=3∨kd=4∨kd=7)(hs:SF w D [(bT,oT b m bo bt bi)] [] [] [] w) :
  Calls Tryz.prog 55 #[pt bT,.int .i64 n,.agg ⟨[.int .i64 kd,.int .i64 3,.bool false,.bool fin]⟩,.agg ⟨[.int .i64 r0,.bool ro]⟩] w λ e w'=>e=.returned (.tuple #[])/\SF w D [(bT,oT b m bo bt bi)] [] [] [] w':=by
 refine enter Tryz.func55 Tryz.ntmps55 rfl rfl hs ?_
 simp only[cP]
 refine J0 ?_;refine bF (λ x6=>?_);refine bF (λ x7=>?_);refine pT ?_;refine oJ ?_;refine aA (zX (K:=3) (E:=38) rf rf (by kernel_rfl)) rfl ?_;refine aD ?_
 refine aU (λ c12=>?_) (λ c12=>?_)
 ·try (contradiction)
 ·try (first|contradiction|(exfalso;omega))
  refine bB ?_;refine jA ?_;refine Kb9 ?_;refine Kd0 ?_
  refine aU (λ c23=>?_) (λ c23=>?_)
  ·try ((exfalso;omega))
  ·try (first|contradiction|(exfalso;omega))
   refine dD ?_;refine K1 ?_
   refine aU (λ c23=>?_) (λ c23=>?_)
   ·try ((exfalso;omega))
   ·try (first|contradiction|(exfalso;omega))
    refine jN ?_
    refine aU (λ c32=>?_) (λ c32=>?_)
    ·try ((exfalso;omega))
    ·try (first|contradiction|(exfalso;omega))
     refine oC ?_
     refine Ru Tryz.results55 (λ w hw=>?_)
     exact⟨rfl,hw.ret (by repeat (first|exact List.Sublist.refl _|apply List.Sublist.cons)) (bL.dH λ f hf=>hf) (List.Sublist.refl _)⟩
theorem tN{q:Nat}{e:jO}{r:Rs}(hk:k<8)(hi:i<16)(hf:jF es (jK k i) 0=some (q,e))(hfin:e.fin=false)(hkd:e.kind=1∨e.kind=2∨e.kind=3∨e.kind=4∨e.kind=7)(hs:SF w D [(bT,oT b m bo bt bi),(bo,bW (es.map (jO.e t3)) ec)] [] [] [] w) :
  Calls Tryz.prog 35 #[pt bT,.int .i64 (k:Int),.int .i64 (i:Int),.agg ⟨r.cells⟩] w λ en w'=>en=.returned (.agg ⟨(wV r).cells⟩)/\SF w D [(bT,oT b m bo bt bi),(bo,bW ((es.set q (⟨e.n,e.kind,true,e.born⟩:jO)).map (jO.e t3)) ec)] [] [] [] w':=by
 have hfd:=Qw hf
 obtain⟨hen,_,heq⟩:=zT hf
 have hat:(es.map (jO.e t3))[q]?=some (jO.e t3 e):=by rw[Nat.sub_zero] at heq;rw[List.getElem?_map,heq];rfl
 have hset:(es.map (jO.e t3)).set q ⟨.int .i64 ((jK k i:Nat):Int),.agg ⟨[.int .i64 e.kind,.int .i64 3,.bool false,.bool true]⟩,(jO.e t3 e).born⟩=(es.set q (⟨e.n,e.kind,true,e.born⟩:jO)).map (jO.e t3):=by rw[List.map_set];unfold jO.e;rw[hen]
 refine enter Tryz.func35 Tryz.ntmps35 rfl rfl hs ?_
 simp only[cP]
 refine J0 ?_;refine bF (λ x7=>?_);refine aI (λ x8=>?_);refine aD ?_;refine mL ?_;refine aF (cV (hc:=λ w1 hw=>iC hk hi w1)) (λ x14=>?_);refine J1 ?_;refine oJ ?_;refine aB ?_;refine aA (fR (iE (K:=3) (E:=138) (dK:=.int .i64) (ze:=.agg ⟨[.int .i64 0,.int .i64 0,.bool false,.bool false]⟩) (k:=.int .i64 ((jK k i:Nat):Int)) (es:=es.map (jO.e t3)) (c:=ec) (r:=some (q,.agg ⟨[.int .i64 e.kind,.int .i64 3,.bool false,.bool false]⟩)) rf rf bD (by kernel_rfl) (by kernel_rfl) rfl (by kernel_rfl) (by rw[hfd];unfold jO.e;rw[hfin]))) rfl ?_;refine C9 ?_;refine aI (λ x10=>?_);refine mX (λ _=>?_);refine Kc7 ?_;refine Wy ?_
 (refine aE ?_;refine aK ?_)
 ((refine Kb6 ?_));refine Kb0 ?_
 refine aU (λ c29=>?_) (λ c29=>?_)
 ·exact nv c29
 ·try (first|contradiction|(exfalso;omega))
  refine Kc1 ?_;refine Jm ?_;refine aJ ?_;refine iM [0,1,2,3,4,5,6] ?_;refine mG ?_;refine aR ?_;refine cB ?_;refine fE (i:=6) (hq:=(aQ.conv (cE λ _=>Wc (K:=3) (E:=138) (dK:=.int .i64) (k:=.int .i64 ((jK k i:Nat):Int)) (v:=.agg ⟨[.int .i64 e.kind,.int .i64 3,.bool false,.bool true]⟩) (es:=es.map (jO.e t3)) (c:=ec) (j:=q) (u:=(jO.e t3 e).val) (e:=jO.e t3 e) rf rf rf bD (by kernel_rfl) (by kernel_rfl) rfl hfd hat (by unfold jO.e;rw[hen]) dI) (λ _ w h=>by rw[hset] at h;exact h))) (h:=λ _=>?_);refine dC ?_;refine C3 ?_;refine D0 ?_
  refine aU (λ c40=>?_) (λ c40=>?_)
  ·try (first|contradiction|(exfalso;omega))
   refine Cw ?_;refine bP ?_;refine aK ?_;refine aA (dE (k:=2) (vs:=[.int .i64 r.root,.bool r.ro]) rf bD cY rfl rfl) rfl ?_;refine aH (cM (φ:=λ _=>True) (V:=λ _:Unit=>.tuple #[]) (hs:=[(bT,oT b m bo bt bi)]) (os:=[]) (A0:=[]) (hs':=λ _=>[(bT,oT b m bo bt bi)]) (os':=λ _=>[]) (Fc:=λ _=>[]) (hc:=λ w1 hw=>(Mc hkd hw).mono λ _ _ ⟨e,h⟩=>⟨(),e,trivial,h⟩)) (λ x46 h46=>?_);refine Kb4 ?_;refine Jm ?_;refine J0 ?_;refine cK ?_;refine aK ?_;refine aL (cE λ _=>lH (off:=6) (vs:=[.int .i64 0,.bool false]) rf bD rf rfl cY (Nat.le_of_ble_eq_true rfl) rf dI) (λ _=>?_);refine aD ?_;refine Kd5 ?_
   refine bV Tryz.results35 (λ w hw=>?_)
   exact⟨rfl,hw.ret (by repeat (first|exact List.Sublist.refl _|apply List.Sublist.cons)) (bL.dH λ f hf=>hf) (List.Sublist.refl _)⟩
  ·try (first|contradiction|(exfalso;omega))
   refine Kc1 ?_;refine Jm ?_;refine J0 ?_;refine cK ?_;refine aK ?_;refine aL (cE λ _=>lH (off:=6) (vs:=[.int .i64 0,.bool false]) rf bD rf rfl cY (Nat.le_of_ble_eq_true rfl) rf dI) (λ _=>?_);refine aD ?_;refine Kd5 ?_
   refine bV Tryz.results35 (λ w hw=>?_)
   exact⟨rfl,hw.ret (by repeat (first|exact List.Sublist.refl _|apply List.Sublist.cons)) (bL.dH λ f hf=>hf) (List.Sublist.refl _)⟩
end
end

/- sched: a thread is picked. -/
end Go.Proofs.YtnilhhnfjfdokaaGreatDoor
namespace Go.Ct
section
open Go Go.RowKit
theorem Q1{α:Type}{f:α->List Value}{l:List α}{k:Nat}{v v':α}(hk:l[k]?=some v)(e:f v'=f v):dR f (l.set k v')=dR f l:=by
 obtain⟨h,rfl⟩:=List.getElem?_eq_some_iff.1 hk
 have e2:l=l.take k++l[k]::l.drop (k+1):=by rw[<- List.drop_eq_getElem_cons h,List.take_append_drop]
 unfold dR
 conv=>rhs;rw[e2]
 rw[List.set_eq_take_append_cons_drop,if_pos h,List.flatMap_append,List.flatMap_append,List.flatMap_cons,List.flatMap_cons,e]
end
end Go.Ct
namespace Go.Proofs.YtnilhhnfjfdokaaGreatDoor
section
open Go Go.RowKit Go.Ct
theorem oH:dL Tryz.prog 43 59 (lR.cells ⟨0,0,false,Rs.zero⟩):=fZ (z:=.agg ⟨lR.cells ⟨0,0,false,Rs.zero⟩⟩) (by kernel_rfl) (by kernel_rfl) rfl
section
variable{D:List Nat}{A B:Fr}{b bT bm m bo bt bi k:Nat}{w:World}{o:lO}{pk:Option Addr×Nat×Nat}{V:MV}{t:gN}
theorem qK{p:Option Addr}{l:List gN}(hcl:Go.Ct.Cl w p (db l))(hk:l[k]?=some t) :
  Calls Tryz.prog 31 #[.pointer (some ⟨cU p,dY p+3*k,none⟩)] w λ e w'=>e=.returned (.bool (decide (t.ops.length<=t.idx)))/\St w [] [] w':=by
 refine enter Tryz.func31 Tryz.ntmps31 rfl rfl (SF.begin (A:=[(p,db l)]) (λ f hf=>by rcases List.mem_singleton.1 hf with rfl;exact hcl)) ?_
 simp only[cP]
 refine Lf ?_;refine iM [0,1,2,3,4,5,6,7,8,9,10] ?_;refine J9 ?_;refine aS (i:=3) (hq:=(dF (f:=gN.cells) (j:=1) cS rf eC (.old .head) hk rfl)) (h:=?_);refine J9 ?_;refine aS (i:=7) (hq:=(Bj (f:=gN.cells) cS rf eC (.old .head) hk rfl)) (h:=?_);refine Ek ?_;refine Nh ?_;refine J7 ?_
 refine bE Tryz.results31 (λ w hw=>?_)
 exact⟨by simp;rfl,hw.done⟩
theorem Zl{V:MV}(ht:V.th[k]?=some t)(hd:t.ops.length<=t.idx)(hs:SF w D (pS m b bm bT bo bt bi pk V) A [] (jB V) w) :
  Calls Tryz.prog 13 #[pt bm,.int .i64 (k:Int)] w λ e w'=>e=.returned (.bool false)/\SF w D (pS m b bm bT bo bt bi pk V) [] [] (jB V) w':=by
 have hkl:k<V.th.length:=(List.getElem?_eq_some_iff.1 ht).1
 refine enter Tryz.func13 Tryz.ntmps13 rfl rfl hs ?_
 simp only[cP]
 refine Kb1 ?_;refine Kb ?_
 (refine Ka2 ?_)
 ((refine Ka2 ?_));((refine Kc3 ?_));refine kj ?_;((refine Kc5 ?_));refine Kb3 ?_
 (refine lN 18 (λ g18=>?_) (λ g18=>?_)<;>(try ((exfalso;omega)))<;>((refine Ka2 ?_)))
 ((refine Kc3 ?_));refine J6 ?_;((refine Ka2 ?_));((refine aE ?_;refine aA (aY (f:=gN.cells) (k:=k) cS (by decide) rf rf dJ cY (.own .head) hkl hkl) rfl ?_));((refine aE ?_;refine aF (cV (v:=.bool true) (hc:=λ w1 hw=>by rw[show(true:Bool)=decide (t.ops.length<=t.idx) by simp[hd]];exact qK (hw.cl (.own .head)) ht)) (λ x25=>?_)));refine Kb0 ?_
 refine aU (λ c26=>?_) (λ c26=>?_)
 ·try (first|contradiction|(exfalso;omega))
  refine dW ?_
  refine bE Tryz.results13 (λ w hw=>?_)
  exact⟨rfl,hw.ret (List.Sublist.refl _) (bL.dH λ f hf=>hf) (List.Sublist.refl _)⟩
 ·exact nv c26
end
end

/- sched: an operation begins. -/
section
open Go Go.RowKit Go.Ct
section
variable{D:List Nat}{A B:Fr}{b bT bm m bo bt bi k:Nat}{w:World}{o:lO}{pk:Option Addr×Nat×Nat}{V:MV}{t:gN}
abbrev gN.Wz(t:gN)(T:Tr)(y:Nat×Cd×Fr×AS):gN:=⟨t.op,t.oc,t.ops,t.idx,some ⟨y.1,y.2.1,0,T,y.2.2.2.u,y.2.2.2.po⟩⟩
abbrev MV.Wz(V:MV)(k:Nat)(t:gN)(kd:Int)(T:Tr)(x:(Nat×Cd×Fr×AS)×Option Addr×Nat×Int):MV :=
 ⟨x.1.2.2.2,V.es++[⟨jK k t.idx,kd,false,V.ec⟩],V.ec+1,V.th.set k (t.Wz T x.1),V.tp,V.tc,V.hi++[⟨k,t.idx,false,Rs.zero⟩],x.2.1,x.2.2.1,x.2.2.2,x.1.2.2.1++V.B⟩
set_option maxRecDepth 100000 in
theorem Sh(hk8:k<8)(ht:V.th[k]?=some t)(hpr:t.pr=none)(hop:t.ops[t.idx]?=some o)(ho:F9 o)(hi:t.idx<16)(hf:jF V.es (jK k t.idx) 0=none)(hm0:m<18446744073709551616)(ok:V.a.Ok)(hm:V.a.mm.jL)(hA:∀f∈dV V.a.L,f∈A)(hB:∀x∈V.B,x∈A)(hoA:(t.op,gG t.ops)∈A)(hhl:V.hi.length<=1000000)(hs:SF w D (pS m b bm bT bo bt bi pk V) A [] (jB V) w) :
  Calls Tryz.prog 13 #[pt bm,.int .i64 (k:Int)] w λ e w'=>∃x:(Nat×Cd×Fr×AS)×Option Addr×Nat×Int,e=.returned (.bool true)/\Rj b (rT m o) V.a.mm V.a V.B x.1.2/\SF w D ([(x.1.1,tO b x.1.2.1 0),(x.1.2.2.2.u,x.1.2.2.2.po)]++pS m b bm bT bo bt bi pk (V.Wz k t o.kind (rT m o) x)) [] x.1.2.2.1 (jB (V.Wz k t o.kind (rT m o) x)) w':=by
 have hkl:k<V.th.length:=(List.getElem?_eq_some_iff.1 ht).1
 have hil:t.idx<t.ops.length:=(List.getElem?_eq_some_iff.1 hop).1
 refine enter Tryz.func13 Tryz.ntmps13 rfl rfl hs ?_
 simp only[cP]
 refine Kb1 ?_;refine Kb ?_
 (refine Ka2 ?_)
 ((refine Ka2 ?_));((refine Kc3 ?_));refine kj ?_;((refine Kc5 ?_));refine Kb3 ?_
 (refine lN 18 (λ g18=>?_) (λ g18=>?_)<;>(try ((exfalso;omega)))<;>((refine Ka2 ?_)))
 ((refine Kc3 ?_));refine J6 ?_;((refine Ka2 ?_));((refine aE ?_;refine aA (aY (f:=gN.cells) (k:=k) cS (by decide) rf rf dJ cY (.own .head) hkl hkl) rfl ?_));((refine aE ?_;refine aF (cV (v:=.bool false) (hc:=λ w1 hw=>by rw[show(false:Bool)=decide (t.ops.length<=t.idx) by simp;omega];exact qK (hw.cl (.own .head)) ht)) (λ x25=>?_)));refine Kb0 ?_
 refine aU (λ c26=>?_) (λ c26=>?_)
 ·exact nv c26
 ·try (first|contradiction|(exfalso;omega))
  refine Vz ?_;refine rD ?_;refine Ak ?_;refine oJ ?_;refine aB ?_;refine aA (aY (f:=gN.cells) (k:=k) cS (by decide) rf rf dJ cY (.own .head) hkl hkl) rfl ?_;refine kZ ?_;refine Pj ?_;refine aA (dF (f:=gN.cells) (j:=2) (v:=.pointer none) cS rf eC (.own .head) ht (by unfold gN.cells;rw[hpr];rfl)) rfl ?_;refine D0 ?_
  refine aU (λ c44=>?_) (λ c44=>?_)
  ·try (first|contradiction|(exfalso;omega))
   refine aJ ?_;refine eG [(0,[]),(1,[]),(2,[]),(3,[]),(4,[]),(5,[]),(6,[]),(7,[]),(8,[]),(9,[]),(10,[]),(11,[4]),(12,[]),(13,[]),(14,[]),(15,[])] ?_;refine Cy ?_;refine aR ?_;refine J9 ?_;refine aS (i:=9) (hq:=(dF (f:=gN.cells) (j:=1) cS rf eC (.own .head) ht rfl)) (h:=?_);refine jZ ?_;refine bZ (i:=11) (hq:=(by exact gD λ _=>aP oH mH rf rf rf rf (by simp only[dQ,cI,List.cons_append,List.nil_append,List.append_nil];exact rfl))) (h:=λ x56=>?_);((refine bZ (i:=12) (hq:=(aQ.cL (E7 (f:=lR.cells) (v1:=⟨k,t.idx,false,Rs.zero⟩) gA (by decide) rfl rf rf (.tail .head) rfl (.new .head) oH rfl dJ (by omega)) hP)) (h:=λ x57=>?_);try (refine eR (λ h57=>?_))));refine Gq ?_;refine iM [0,1,2,3,4,5,6,7,8,9,10,11,12,13,14,15,16,17,18,19,20,21,22,23] ?_;refine Cy ?_;refine aR ?_;refine J9 ?_;refine aS (i:=9) (hq:=(dF (f:=gN.cells) (j:=1) cS rf eC (.own .head) ht rfl)) (h:=?_);refine J9 ?_;refine aS (i:=13) (hq:=(Bj (f:=gN.cells) cS rf eC (.own .head) ht rfl)) (h:=?_);refine J9 ?_;refine aS (i:=17) (hq:=(dF (f:=gN.cells) (j:=1) cS rf eC (.own .head) ht rfl)) (h:=?_);refine aS (i:=18) (hq:=(aY (f:=lO.cells) (k:=t.idx) lZ (by decide) rf rf dJ cY (.old (mV.gE hoA)) hil hil)) (h:=?_);refine aS (i:=19) (hq:=(cH (f:=lO.cells) lZ rf cY (.old (mV.gE hoA)) hop)) (h:=?_);refine bS (i:=20) (hq:=(Jh (V:=λ x:Nat×Cd×Fr×AS=>.pointer (some ⟨x.1,0,none⟩)) (hs:=[(bT,oT b m bo bt bi),(bo,bW (V.es.map (jO.e t3)) V.ec),(bt,bW (Dc t3) 1),(b,eN V.a)]) (os:=fD V.a) (hs':=λ x=>[(bT,oT b m bo bt bi),(bo,bW ((V.es++[(⟨jK k t.idx,o.kind,false,V.ec⟩:jO)]).map (jO.e t3)) (V.ec+1)),(bt,bW (Dc t3) 1),(b,eN x.2.2.2)]) (Hc:=λ x=>[(x.1,tO b x.2.1 0),(x.2.2.2.u,x.2.2.2.po)]) (os':=λ x=>fD x.2.2.2) (Oc:=λ _=>[]) (Fc:=λ x=>x.2.2.1) (A0:=A) (hc:=λ w1 hw=>(Pw hk8 hi ho hf hm0 ok hm hA hB hw).mono λ _ _ ⟨x,e,h,hw⟩=>⟨x,e,h,by rw[List.append_nil];exact hw.perm (List.perm_append_comm (l₁:=[(bT,oT b m bo bt bi),(bo,bW ((V.es++[(⟨jK k t.idx,o.kind,false,V.ec⟩:jO)]).map (jO.e t3)) (V.ec+1)),(bt,bW (Dc t3) 1),(b,eN x.2.2.2)]) (l₂:=[(x.1,tO b x.2.1 0),(x.2.2.2.u,x.2.2.2.po)])) (List.Perm.refl _)⟩))) (h:=λ x80 h80=>?_)
   have hk0:x80.2.1.a.k≠0:=λ e=>by have:=(h80.1.kind (Bm m o)).1.1 e;rw[Bc] at this;cases this
   refine J4 ?_;refine fE (i:=23) (hq:=(aQ.hJ (wS (f:=gN.cells) (j:=2) (v1:=t.Wz (rT m o) x80) cS rf rf rfl eC zG ht (by decide) rfl) hP)) (h:=λ _=>?_);refine dC ?_;refine aJ ?_;refine Pj ?_;refine aA (dF (f:=gN.cells) (j:=2) (v:=pt x80.1) (v0:=t.Wz (rT m o) x80) cS rf eC (.own .head) (by rw[List.getElem?_set_self hkl]) rfl) rfl ?_;refine aF (cV (v:=.bool (x80.2.1.a.k==0)) (hc:=λ w1 hw=>qF (hw.st.at bD))) (λ x92=>?_);refine aD ?_
   refine aU (λ c92=>?_) (λ c92=>?_)
   ·try (contradiction)
   ·try (first|contradiction|(exfalso;omega))
    refine bB ?_;refine dW ?_
    refine bE Tryz.results13 (λ w hw=>?_)
    exact⟨(x80,x57.1,x57.2,IntKind.i64.wrap (V.iH+1)),rfl,h80,by simp only[pS,yE,ot,MV.Wz,List.cons_append,List.nil_append,List.length_set,List.length_append,List.length_cons,List.length_nil];exact hw.ret (by repeat (exact List.Sublist.refl _)) (bL.dH λ f hf=>List.mem_append_left _ hf) (by repeat (exact List.Sublist.refl _))⟩
  ·exact nv c44
end
end

/- sched: a task makes a step. -/
section
open Go Go.RowKit Go.Ct
section
variable{D:List Nat}{A B:Fr}{b bT bm m bo bt bi k:Nat}{w:World}{pk:Option Addr×Nat×Nat}{V:MV}{t:gN}{p:aj}
abbrev gN.Vc(t:gN)(p:aj)(T:Tr)(y:Cd×Fr×AS):gN:=⟨t.op,t.oc,t.ops,t.idx,some ⟨p.bt,y.1,p.n+1,T,y.2.2.u,y.2.2.po⟩⟩
abbrev MV.Vc(V:MV)(k:Nat)(t:gN)(p:aj)(T:Tr)(x:(Cd×Fr×AS)×Int):MV :=
 ⟨x.1.2.2,V.es,V.ec,V.th.set k (t.Vc p T x.1),V.tp,V.tc,V.hi,V.hp,V.hc,x.2,x.1.2.1++V.B⟩
abbrev MV.ap(V:MV)(p:aj):AS:=AS.wp V.a p.u p.po
theorem cz(ok:V.a.Ok):(V.ap p).Ok:=⟨ok.fit,⟨ok.mo.nd,ok.mo.cs,ok.mo.two⟩⟩
set_option maxRecDepth 100000 in
theorem Pk(ht:V.th[k]?=some t)(hpr:t.pr=some p)(hi:t.idx<t.ops.length)(hr:fN b p.T (V.ap p).mm p.c (V.ap p).mm V.B)(ha:fK p.T=true)(hlv:p.T.live=true)(hns:(kQ (p.T,(V.ap p).mm)).1≠.stuck)(hl2:(kQ (p.T,(V.ap p).mm)).1.live=true)(hn:p.n<1000000000)(ok:V.a.Ok)(hm:V.a.mm.jL)(hA:∀f∈dV V.a.L,f∈A)(hB:∀x∈V.B,x∈A)(hs:SF w D ([(p.bt,tO b p.c p.n),(p.u,p.po)]++pS m b bm bT bo bt bi pk V) A [] (jB V) w) :
  Calls Tryz.prog 13 #[pt bm,.int .i64 (k:Int)] w λ e w'=>∃x:(Cd×Fr×AS)×Int,e=.returned (.bool true)/\Rj b (kQ (p.T,(V.ap p).mm)).1 (kQ (p.T,(V.ap p).mm)).2 (V.ap p) V.B x.1/\SF w D ([(p.bt,tO b x.1.1 (p.n+1)),(x.1.2.2.u,x.1.2.2.po)]++pS m b bm bT bo bt bi pk (V.Vc k t p (kQ (p.T,(V.ap p).mm)).1 x)) [] x.1.2.1 (jB (V.Vc k t p (kQ (p.T,(V.ap p).mm)).1 x)) w':=by
 have hkl:k<V.th.length:=(List.getElem?_eq_some_iff.1 ht).1
 have hc2:(gN.cells t)[2]?=some (pt p.bt):=by unfold gN.cells;rw[hpr];rfl
 refine enter Tryz.func13 Tryz.ntmps13 rfl rfl hs ?_
 simp only[cP]
 simp only[List.cons_append,List.nil_append]
 refine Kb1 ?_;refine Kb ?_
 (refine Ka2 ?_)
 ((refine Ka2 ?_));((refine Kc3 ?_));refine kj ?_;((refine Kc5 ?_));refine Kb3 ?_
 (refine lN 18 (λ g18=>?_) (λ g18=>?_)<;>(try ((exfalso;omega)))<;>((refine Ka2 ?_)))
 ((refine Kc3 ?_));refine J6 ?_;((refine Ka2 ?_));((refine aE ?_;refine aA (aY (f:=gN.cells) (k:=k) cS (by decide) rf rf dJ cY (.own .head) hkl hkl) rfl ?_));((refine aE ?_;refine aF (cV (v:=.bool false) (hc:=λ w1 hw=>by rw[show(false:Bool)=decide (t.ops.length<=t.idx) by simp;omega];exact qK (hw.cl (.own .head)) ht)) (λ x25=>?_)));refine Kb0 ?_
 refine aU (λ c26=>?_) (λ c26=>?_)
 ·exact nv c26
 ·try (first|contradiction|(exfalso;omega))
  refine Vz ?_;refine rD ?_;refine Ak ?_;refine oJ ?_;refine aB ?_;refine aA (aY (f:=gN.cells) (k:=k) cS (by decide) rf rf dJ cY (.own .head) hkl hkl) rfl ?_;refine kZ ?_;refine Pj ?_;refine aA (dF (f:=gN.cells) (j:=2) (v:=pt p.bt) cS rf eC (.own .head) ht hc2) rfl ?_;refine D0 ?_
  refine aU (λ c44=>?_) (λ c44=>?_)
  ·try (contradiction)
  ·try (first|contradiction|(exfalso;omega))
   refine Gt ?_;refine M2 ?_;refine aA (dF (f:=gN.cells) (j:=2) (v:=pt p.bt) cS rf eC (.own .head) ht hc2) rfl ?_;refine aH (cM (V:=λ _:Cd×Fr×AS=>.tuple #[]) (Fc:=λ y=>y.2.1) (hs:=[(p.bt,tO b p.c p.n),(b,eN (V.ap p)),(p.u,p.po)]) (os:=fD V.a) (A0:=A) (hs':=λ y=>[(p.bt,tO b y.1 (p.n+1)),(b,eN y.2.2),(y.2.2.u,y.2.2.po)]) (os':=λ y=>fD y.2.2) (hc:=λ w1 hw=>Ed hns ha hlv hr (cz ok) hm hn hA hB hw)) (λ x87 h87=>?_)
   have hk0:x87.1.a.k≠0:=λ e=>by have:=(h87.1.1.1.kind h87.2).1.1 e;rw[hl2] at this;cases this
   refine pT ?_;refine Pj ?_;refine aA (dF (f:=gN.cells) (j:=2) (v:=pt p.bt) cS rf eC (.own .head) ht hc2) rfl ?_;refine aF (cV (v:=.bool (x87.1.a.k==0)) (hc:=λ w1 hw=>qF (hw.st.at bD))) (λ x92=>?_);refine aD ?_
   refine aU (λ c92=>?_) (λ c92=>?_)
   ·try (contradiction)
   ·try (first|contradiction|(exfalso;omega))
    refine bB ?_;refine dW ?_
    refine bE Tryz.results13 (λ w hw=>?_)
    exact⟨(x87,IntKind.i64.wrap (V.iH+1)),rfl,uR h87.1,by simp only[pS,yE,ot,jB,MV.Vc,List.cons_append,List.nil_append,List.length_set];rw[show db (V.th.set k (t.Vc p (kQ (p.T,(V.ap p).mm)).1 x87))=db V.th from Q1 ht (by unfold gN.cells;rw[hpr];rfl)];exact hw.ret (by repeat (exact List.Sublist.refl _)) (bL.dH λ f hf=>by simpa using hf) (by repeat (exact List.Sublist.refl _))⟩
end
end

end Go.Proofs.YtnilhhnfjfdokaaGreatDoor

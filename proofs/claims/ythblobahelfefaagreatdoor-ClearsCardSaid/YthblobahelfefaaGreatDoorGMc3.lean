/- Merged. -/
import Derived.Test.YthblobahelfefaaGreatDoorGPx8
import Derived.Test.YthblobahelfefaaGreatDoorMp2
set_option linter.unusedSimpArgs false
set_option linter.unusedVariables false
namespace Go.Proofs.YthblobahelfefaaGreatDoor
open Go.Proofs.Tryz
open Go Go.RowKit Go.Ct
section
section
variable{D:List Nat}{A B:Fr}{a:AS}{b bT m bo bt bi:Nat}{w:World}{o:kA}{es:List kX}{ec k i:Nat}
theorem au{n:Nat}(h:kH es n 0=none):Instr.findNow (.int .i64) (.int .i64 ((n:Nat):Int)) (es.map (kX.e t3)) 0=some none:=by rw[On,h];rfl
theorem Zx{n q:Nat}{e:kX}(h:kH es n 0=some (q,e)):Instr.findNow (.int .i64) (.int .i64 ((n:Nat):Int)) (es.map (kX.e t3)) 0=some (some (q,(kX.e t3 e).val)):=by rw[On,h];rfl
theorem Zu(hk:k<8)(hi:i<16)(ho:H7 o)(hf:kH es (kR k i) 0=none)(hm0:m<18446744073709551616)(ok:a.Ok)(hm:a.mm.gM)(hA:∀f∈cH a.L,f∈A)(hB:∀x∈B,x∈A)(hs:SF w D [(bT,qX b m bo bt bi),(bo,bV (es.map (kX.e t3)) ec),(bt,bV (Jb t3) 1),(b,cX a)] A [] (iS a) w) :
  Calls prog 31 #[pt bT,.int .i64 (k:Int),.int .i64 (i:Int),.agg ⟨o.cells⟩] w λ e w'=>∃x:Nat×Cd×Fr×AS,e=.returned (.pointer (some ⟨x.1,0,none⟩))/\qz b (nL m o) a.mm a B x.2/\SF w D [(x.1,tO b x.2.1 0),(x.2.2.2.u,x.2.2.2.po),(bT,qX b m bo bt bi),(bo,bV ((es++[(⟨kR k i,o.kind,false,ec⟩:kX)]).map (kX.e t3)) (ec+1)),(bt,bV (Jb t3) 1),(b,cX x.2.2.2)] [] x.2.2.1 (hU x.2.2.2) w':=by
 have hkd:=ho.kind;have h0:=ho.handle;have hfd:=au hf;refine enter func31 ntmps31 rfl rfl hs ?_;simp only[bY]
 simp only[kA.cells];refine J0 ?_;refine bC (λ x7=>?_);refine P2 ?_;refine aK (cV (hc:=λ w1 hw=>lN hk hi w1)) (λ x16=>?_);refine Kc5 ?_;refine pD ?_;refine aX (λ c18=>?_) (λ c18=>?_);·try (contradiction)
 ·try (first|contradiction|(exfalso;omega))
  refine mD ?_;refine zG ?_;refine aD ?_;refine aA (nT (iO (K:=3) (E:=135) (dK:=.int .i64) (ze:=.agg ⟨[.int .i64 0,.int .i64 0,.bool false,.bool false]⟩) (k:=.int .i64 ((kR k i:Nat):Int)) (es:=es.map (kX.e t3)) (c:=ec) (r:=none) rf rf bU (by kernel_rfl) (by kernel_rfl) rfl (by kernel_rfl) hfd)) rfl ?_;refine Ot ?_;refine aI (λ x10=>?_);refine J46 ?_;refine J2 ?_;refine aC ?_;refine aX (λ c31=>?_) (λ c31=>?_);·exact nv c31
  ·try (first|contradiction|(exfalso;omega))
   refine mD ?_;refine zG ?_;refine aA (Fg (K:=3) (E:=135) rf rf (by kernel_rfl)) rfl ?_;refine aC ?_;refine aX (λ c39=>?_) (λ c39=>?_);·try (contradiction)
   ·try (first|contradiction|(exfalso;omega))
    refine bD ?_;refine gP ?_;refine bX ?_;refine aI (λ x12=>?_);refine J5 ?_;refine I9 ?_;refine Kc0 ?_;refine aX (λ c49=>?_) (λ c49=>?_)
    ·try (first|contradiction|(exfalso;omega))
     refine gL [0,1,2,3,4,5,6,7,8] ?_;refine nZ ?_;refine iX ?_;refine bI (i:=6) (hq:=(nT (Py (K:=3) (E:=72) (dK:=.int .i64) (ze:=.agg ⟨[.int .i64 0,.bool false]⟩) (k:=.int .i64 0) (es:=Jb t3) (c:=1) (r:=some (0,.agg ⟨[.int .i64 3,.bool false]⟩)) rf (by rw[<- h0];exact rfl) bU (by kernel_rfl) (by kernel_rfl) rfl (by kernel_rfl) rfl))) (h:=?_);refine cE ?_;refine fC (i:=8) (hq:=(cK λ _=>nG (off:=1) (vs:=[.int .i64 3,.bool false]) rf bU rf rfl cW (Nat.le_of_ble_eq_true rfl) rf dV)) (h:=λ _=>?_);refine dY ?_;refine K0y ?_;refine nZ ?_;refine aR ?_;refine cJ ?_;refine fC (i:=6) (hq:=(cK λ _=>Mb (K:=3) (E:=135) (dK:=.int .i64) (k:=.int .i64 ((kR k i:Nat):Int)) (v:=.agg ⟨[.int .i64 o.kind,.int .i64 3,.bool false,.bool false]⟩) (es:=es.map (kX.e t3)) (c:=ec) rf rf rf bU (by kernel_rfl) (by kernel_rfl) rfl hfd dV)) (h:=λ _=>?_);refine dY ?_;refine Ir ?_;refine bW ?_;refine aJ (cM (φ:=λ _=>True) (V:=λ _:Unit=>.int .i64 0) (hs:=[(bT,qX b m bo bt bi),(bt,bV (Jb t3) 1)]) (os:=[]) (A0:=[]) (hs':=λ _=>[(bT,qX b m bo bt bi),(bt,bV (Jb t3) 1)]) (os':=λ _=>[]) (Fc:=λ _=>[]) (hc:=λ w1 hw=>(Rw (t:=t3) ho.kind ho.handle ho.key rfl _ hw).mono λ _ _ ⟨e,h⟩=>⟨(),e,trivial,h⟩)) (λ x67 h67=>?_);refine Kb7 ?_;refine Kc0 ?_;refine aX (λ c69=>?_) (λ c69=>?_);·exact nv c69
     ·try (first|contradiction|(exfalso;omega))
      refine Kc6 ?_;refine aF ?_;refine aA (cO (k:=2) (vs:=[.int .i64 3,.bool false]) rf bU cW rfl rfl) rfl ?_;refine bW ?_;refine aJ (Pq (V:=λ x:Nat×Cd×Fr×AS=>.pointer (some ⟨x.1,0,none⟩)) (hs:=[(bT,qX b m bo bt bi),(b,cX a)]) (os:=iS a) (hs':=λ x=>[(bT,qX b m bo bt bi),(b,cX x.2.2.2)]) (Hc:=λ x=>[(x.1,tO b x.2.1 0),(x.2.2.2.u,x.2.2.2.po)]) (os':=λ x=>iS x.2.2.2) (Oc:=λ x=>[x.2.2.2.pl]) (Fc:=λ x=>x.2.2.1) (A0:=A) (hc:=λ w1 hw=>(dt ho hm0 ok hm hA hB hw).mono λ _ _ ⟨x,e,h,hw⟩=>⟨x,e,h,by exact hw.perm (List.perm_append_comm (l₁:=[(bT,qX b m bo bt bi),(b,cX x.2.2.2)]) (l₂:=[(x.1,tO b x.2.1 0),(x.2.2.2.u,x.2.2.2.po)])) (List.perm_append_comm (l₁:=iS x.2.2.2) (l₂:=[x.2.2.2.pl]))⟩)) (λ x78 h78=>?_);refine J1 ?_;refine aP results31 (λ w hw=>?_);exact⟨x78,rfl,h78,by rw[List.map_append];exact hw.ret E0d (aT.bA λ f hf=>by simpa using hf) E0f⟩
    ·try ((exfalso;omega))
theorem T6{kd n:Int}{fin:Bool}{r0:Int}{ro:Bool}(hkd:kd=1∨kd=2∨kd=3∨kd=4∨kd=10∨kd=7)(hs:SF w D [(bT,qX b m bo bt bi)] [] [] [] w) :
  Calls prog 53 #[pt bT,.int .i64 n,.agg ⟨[.int .i64 kd,.int .i64 3,.bool false,.bool fin]⟩,.agg ⟨[.int .i64 r0,.bool ro]⟩] w λ e w'=>e=.returned (.tuple #[])/\SF w D [(bT,qX b m bo bt bi)] [] [] [] w':=by
 refine enter func53 ntmps53 rfl rfl hs ?_;simp only[bY];refine J0 ?_;refine bC (λ x6=>?_);refine bC (λ x7=>?_);refine Bz ?_;refine zG ?_;refine aA (Fg (K:=3) (E:=72) rf rf (by kernel_rfl)) rfl ?_;refine aC ?_;refine aX (λ c12=>?_) (λ c12=>?_);·try (contradiction)
 ·try (first|contradiction|(exfalso;omega))
  refine bD ?_;refine gP ?_;refine Kb2 ?_;refine Kb1 ?_;refine aX (λ c23=>?_) (λ c23=>?_);·try ((exfalso;omega))
  ·try (first|contradiction|(exfalso;omega))
   refine Kb3 ?_;refine aX (λ c23=>?_) (λ c23=>?_);·try ((exfalso;omega))
   ·try (first|contradiction|(exfalso;omega))
    refine iC ?_;refine aX (λ c32=>?_) (λ c32=>?_);·try ((exfalso;omega))
    ·try (first|contradiction|(exfalso;omega))
     refine lI ?_;refine Qd results53 (λ w hw=>?_);exact⟨rfl,hw.ret E0a (aT.bA λ f hf=>hf) (List.Sublist.refl _)⟩
theorem zA{q:Nat}{e:kX}{r:Rs}(hk:k<8)(hi:i<16)(hf:kH es (kR k i) 0=some (q,e))(hfin:e.fin=false)(hkd:e.kind=1∨e.kind=2∨e.kind=3∨e.kind=4∨e.kind=10∨e.kind=7)(hs:SF w D [(bT,qX b m bo bt bi),(bo,bV (es.map (kX.e t3)) ec)] [] [] [] w) :
  Calls prog 34 #[pt bT,.int .i64 (k:Int),.int .i64 (i:Int),.agg ⟨r.cells⟩] w λ en w'=>en=.returned (.agg ⟨(Kh r).cells⟩)/\SF w D [(bT,qX b m bo bt bi),(bo,bV ((es.set q (⟨e.n,e.kind,true,e.born⟩:kX)).map (kX.e t3)) ec)] [] [] [] w':=by
 have hfd:=Zx hf;obtain⟨hen,_,heq⟩:=E2 hf;have hat:(es.map (kX.e t3))[q]?=some (kX.e t3 e):=by rw[Nat.sub_zero] at heq;rw[List.getElem?_map,heq];rfl
 have hset:(es.map (kX.e t3)).set q ⟨.int .i64 ((kR k i:Nat):Int),.agg ⟨[.int .i64 e.kind,.int .i64 3,.bool false,.bool true]⟩,(kX.e t3 e).born⟩=(es.set q (⟨e.n,e.kind,true,e.born⟩:kX)).map (kX.e t3):=by rw[List.map_set];unfold kX.e;rw[hen]
 refine enter func34 ntmps34 rfl rfl hs ?_;simp only[bY];refine J0 ?_;refine bC (λ x7=>?_);refine aI (λ x8=>?_);refine aC ?_;refine lV ?_;refine aK (cV (hc:=λ w1 hw=>lN hk hi w1)) (λ x14=>?_);refine J1 ?_;refine zG ?_;refine aD ?_;refine aA (nT (iO (K:=3) (E:=135) (dK:=.int .i64) (ze:=.agg ⟨[.int .i64 0,.int .i64 0,.bool false,.bool false]⟩) (k:=.int .i64 ((kR k i:Nat):Int)) (es:=es.map (kX.e t3)) (c:=ec) (r:=some (q,.agg ⟨[.int .i64 e.kind,.int .i64 3,.bool false,.bool false]⟩)) rf rf bU (by kernel_rfl) (by kernel_rfl) rfl (by kernel_rfl) (by rw[hfd];unfold kX.e;rw[hfin]))) rfl ?_;refine Ot ?_;refine aI (λ x10=>?_);refine pJ (λ _=>?_);refine Kc5 ?_;refine fl ?_;(refine aG ?_;refine aF ?_);((refine aG ?_;refine bW ?_));refine Kc2 ?_;refine aX (λ c29=>?_) (λ c29=>?_);·exact nv c29
 ·try (first|contradiction|(exfalso;omega))
  refine Kb5 ?_;refine Tk ?_;refine K0y ?_;refine nZ ?_;refine aR ?_;refine cJ ?_;refine fC (i:=6) (hq:=(aQ.conv (cK λ _=>mw (K:=3) (E:=135) (dK:=.int .i64) (k:=.int .i64 ((kR k i:Nat):Int)) (v:=.agg ⟨[.int .i64 e.kind,.int .i64 3,.bool false,.bool true]⟩) (es:=es.map (kX.e t3)) (c:=ec) (j:=q) (u:=(kX.e t3 e).val) (e:=kX.e t3 e) rf rf rf bU (by kernel_rfl) (by kernel_rfl) rfl hfd hat (by unfold kX.e;rw[hen]) dV) (λ _ w h=>by rw[hset] at h;exact h))) (h:=λ _=>?_);refine dY ?_;refine I9 ?_;refine Fe ?_;refine aX (λ c40=>?_) (λ c40=>?_)
  ·try (first|contradiction|(exfalso;omega))
   refine U4 ?_;refine bW ?_;refine aF ?_;refine aA (cO (k:=2) (vs:=[.int .i64 r.root,.bool r.ro]) rf bU cW rfl rfl) rfl ?_;refine aJ (cM (φ:=λ _=>True) (V:=λ _:Unit=>.tuple #[]) (hs:=[(bT,qX b m bo bt bi)]) (os:=[]) (A0:=[]) (hs':=λ _=>[(bT,qX b m bo bt bi)]) (os':=λ _=>[]) (Fc:=λ _=>[]) (hc:=λ w1 hw=>(T6 hkd hw).mono λ _ _ ⟨e,h⟩=>⟨(),e,trivial,h⟩)) (λ x46 h46=>?_);refine Kb0 ?_;refine Tk ?_;refine J0 ?_;refine bX ?_;refine aF ?_;refine aM (cK λ _=>nG (off:=6) (vs:=[.int .i64 0,.bool false]) rf bU rf rfl cW (Nat.le_of_ble_eq_true rfl) rf dV) (λ _=>?_);refine aC ?_;refine Kc8 ?_;refine bJ results34 (λ w hw=>?_);exact⟨rfl,hw.ret E0a (aT.bA λ f hf=>hf) (List.Sublist.refl _)⟩
  ·try (first|contradiction|(exfalso;omega))
   refine Kb5 ?_;refine Tk ?_;refine J0 ?_;refine bX ?_;refine aF ?_;refine aM (cK λ _=>nG (off:=6) (vs:=[.int .i64 0,.bool false]) rf bU rf rfl cW (Nat.le_of_ble_eq_true rfl) rf dV) (λ _=>?_);refine aC ?_;refine Kc8 ?_;refine bJ results34 (λ w hw=>?_);exact⟨rfl,hw.ret E0a (aT.bA λ f hf=>hf) (List.Sublist.refl _)⟩
end
end
end Go.Proofs.YthblobahelfefaaGreatDoor
namespace Go.Ct
open Go Go.RowKit
section
theorem eb{α:Type}{f:α->List Value}{l:List α}{k:Nat}{v v':α}(hk:l[k]?=some v)(e:f v'=f v):dE f (l.set k v')=dE f l:=by
 obtain⟨h,rfl⟩:=List.getElem?_eq_some_iff.1 hk;have e2:l=l.take k++l[k]::l.drop (k+1):=by rw[<- List.drop_eq_getElem_cons h,List.take_append_drop]
 unfold dE;conv=>rhs;rw[e2]
 rw[List.set_eq_take_append_cons_drop,if_pos h,List.flatMap_append,List.flatMap_append,List.flatMap_cons,List.flatMap_cons,e]
end
end Go.Ct
namespace Go.Proofs.YthblobahelfefaaGreatDoor
open Go.Proofs.Tryz
open Go Go.RowKit Go.Ct
section
theorem rC:cS prog 43 76 (gE.cells ⟨0,0,false,Rs.zero⟩):=fX (z:=.agg ⟨gE.cells ⟨0,0,false,Rs.zero⟩⟩) (by kernel_rfl) (by kernel_rfl) rfl
section
variable{D:List Nat}{A B:Fr}{b bT bm m bo bt bi k:Nat}{w:World}{o:kA}{pk:Option Addr×Nat×Nat}{V:MV}{t:hJ}
theorem vN{p:Option Addr}{l:List hJ}(hcl:Go.Ct.Cl w p (qn l))(hk:l[k]?=some t) :
  Calls prog 30 #[.pointer (some ⟨cI p,dH p+3*k,none⟩)] w λ e w'=>e=.returned (.bool (decide (t.ops.length<=t.idx)))/\St w [] [] w':=by refine enter func30 ntmps30 rfl rfl (SF.begin (A:=[(p,qn l)]) (λ f hf=>by rcases List.mem_singleton.1 hf with rfl;exact hcl)) ?_;simp only[bY];refine kt ?_;refine gL [0,1,2,3,4,5,6,7,8,9,10] ?_;refine J9 ?_;refine bI (i:=3) (hq:=(dM (f:=hJ.cells) (j:=1) cL rf iH (.old .head) hk rfl)) (h:=?_);refine J9 ?_;refine bI (i:=7) (hq:=(Q0 (f:=hJ.cells) cL rf iH (.old .head) hk rfl)) (h:=?_);refine Gj ?_;refine X0 ?_;refine J7 ?_;refine aP results30 (λ w hw=>?_);exact⟨by simp;rfl,hw.done⟩
theorem aAp{V:MV}(ht:V.th[k]?=some t)(hd:t.ops.length<=t.idx)(hs:SF w D (tS m b bm bT bo bt bi pk V) A [] (xD V) w) :
  Calls prog 17 #[pt bm,.int .i64 (k:Int)] w λ e w'=>e=.returned (.bool false)/\SF w D (tS m b bm bT bo bt bi pk V) [] [] (xD V) w':=by
 have hkl:k<V.th.length:=(List.getElem?_eq_some_iff.1 ht).1;refine enter func17 ntmps17 rfl rfl hs ?_;simp only[bY]
 refine K1t ?_;((refine Ka4 ?_));((refine aG ?_;refine cA ?_));refine J43 ?_;((refine aG ?_;refine kZ ?_));refine dG ?_;refine aD ?_;(refine kT 18 (λ g18=>?_) (λ g18=>?_)<;>(try ((exfalso;omega)))<;>((refine Ka4 ?_)));((refine aG ?_;refine cA ?_));refine J6 ?_;((refine Ka4 ?_));((refine aG ?_;refine aA (cR (f:=hJ.cells) (k:=k) cL (by decide) rf rf fU cW (.own .head) hkl hkl) rfl ?_));((refine aG ?_;refine aK (cV (v:=.bool true) (hc:=λ w1 hw=>by rw[show(true:Bool)=decide (t.ops.length<=t.idx) by simp[hd]];exact vN (hw.cl (.own .head)) ht)) (λ x25=>?_)));refine Kc2 ?_;refine aX (λ c26=>?_) (λ c26=>?_)
 ·try (first|contradiction|(exfalso;omega))
  refine cC ?_;refine aP results17 (λ w hw=>?_);exact⟨rfl,hw.ret (List.Sublist.refl _) (aT.bA λ f hf=>hf) (List.Sublist.refl _)⟩
 ·exact nv c26
end
end
section
section
variable{D:List Nat}{A B:Fr}{b bT bm m bo bt bi k:Nat}{w:World}{o:kA}{pk:Option Addr×Nat×Nat}{V:MV}{t:hJ}
abbrev hJ.Ww(t:hJ)(T:Tr)(y:Nat×Cd×Fr×AS):hJ:=⟨t.op,t.oc,t.ops,t.idx,some ⟨y.1,y.2.1,0,T,y.2.2.2.u,y.2.2.2.po,y.2.2.2.pl⟩⟩
abbrev MV.Ww(V:MV)(k:Nat)(t:hJ)(kd:Int)(T:Tr)(x:(Nat×Cd×Fr×AS)×Option Addr×Nat×Int):MV :=⟨x.1.2.2.2,V.es++[⟨kR k t.idx,kd,false,V.ec⟩],V.ec+1,V.th.set k (t.Ww T x.1),V.tp,V.tc,V.hi++[⟨k,t.idx,false,Rs.zero⟩],x.2.1,x.2.2.1,x.2.2.2,x.1.2.2.1++V.B⟩
set_option maxRecDepth 100000 in
theorem jq(hk8:k<8)(ht:V.th[k]?=some t)(hpr:t.pr=none)(hop:t.ops[t.idx]?=some o)(ho:H7 o)(hi:t.idx<16)(hf:kH V.es (kR k t.idx) 0=none)(hm0:m<18446744073709551616)(ok:V.a.Ok)(hm:V.a.mm.gM)(hA:∀f∈cH V.a.L,f∈A)(hB:∀x∈V.B,x∈A)(hoA:(t.op,iG t.ops)∈A)(hhl:V.hi.length<=1000000)(hs:SF w D (tS m b bm bT bo bt bi pk V) A [] (xD V) w) :
  Calls prog 17 #[pt bm,.int .i64 (k:Int)] w λ e w'=>∃x:(Nat×Cd×Fr×AS)×Option Addr×Nat×Int,e=.returned (.bool true)/\qz b (nL m o) V.a.mm V.a V.B x.1.2/\SF w D ([(x.1.1,tO b x.1.2.1 0),(x.1.2.2.2.u,x.1.2.2.2.po)]++tS m b bm bT bo bt bi pk (V.Ww k t o.kind (nL m o) x)) [] x.1.2.2.1 (x.1.2.2.2.pl::xD (V.Ww k t o.kind (nL m o) x)) w':=by
 have hkl:k<V.th.length:=(List.getElem?_eq_some_iff.1 ht).1;refine K1w ?_;intro hil;refine enter func17 ntmps17 rfl rfl hs ?_;simp only[bY]
 refine K1t ?_;((refine Ka4 ?_));((refine aG ?_;refine cA ?_));refine J43 ?_;((refine aG ?_;refine kZ ?_));refine dG ?_;refine aD ?_;(refine kT 18 (λ g18=>?_) (λ g18=>?_)<;>(try ((exfalso;omega)))<;>((refine Ka4 ?_)));((refine aG ?_;refine cA ?_));refine J6 ?_;((refine Ka4 ?_));((refine aG ?_;refine aA (cR (f:=hJ.cells) (k:=k) cL (by decide) rf rf fU cW (.own .head) hkl hkl) rfl ?_));((refine aG ?_;refine aK (cV (v:=.bool false) (hc:=λ w1 hw=>by rw[show(false:Bool)=decide (t.ops.length<=t.idx) by simp;omega];exact vN (hw.cl (.own .head)) ht)) (λ x25=>?_)));refine Kc2 ?_;refine aX (λ c26=>?_) (λ c26=>?_);·exact nv c26
 ·try (first|contradiction|(exfalso;omega))
  refine K0m ?_;refine aA (dM (f:=hJ.cells) (j:=2) (v:=.pointer none) cL rf iH (.own .head) ht (by unfold hJ.cells;rw[hpr];rfl)) rfl ?_;refine Fe ?_;refine aX (λ c44=>?_) (λ c44=>?_)
  ·try (first|contradiction|(exfalso;omega))
   refine aU ?_;refine eQ [(0,[]),(1,[]),(2,[]),(3,[]),(4,[]),(5,[]),(6,[]),(7,[]),(8,[]),(9,[]),(10,[]),(11,[4]),(12,[]),(13,[]),(14,[]),(15,[])] ?_;refine K0z ?_;refine kD ?_;refine cB (i:=11) (hq:=E0t) (h:=λ x56=>?_);((refine cB (i:=12) (hq:=(aQ.eG (wP (f:=gE.cells) (v1:=⟨k,t.idx,false,Rs.zero⟩) mS (by decide) rfl rf rf (.tail .head) rfl (.new .head) rC rfl fU (by omega)) nM)) (h:=λ x57=>?_);try (refine iV (λ h57=>?_))));refine fy ?_;refine gL [0,1,2,3,4,5,6,7,8,9,10,11,12,13,14,15,16,17,18,19,20,21,22,23] ?_;refine K0z ?_;refine J9 ?_;refine bI (i:=13) (hq:=(Q0 (f:=hJ.cells) cL rf iH (.own .head) ht rfl)) (h:=?_);refine J9 ?_;refine bI (i:=17) (hq:=(dM (f:=hJ.cells) (j:=1) cL rf iH (.own .head) ht rfl)) (h:=?_);refine bI (i:=18) (hq:=(cR (f:=kA.cells) (k:=t.idx) wJ (by decide) rf rf fU cW (.old (lQ.dS hoA)) hil hil)) (h:=?_);refine bI (i:=19) (hq:=(fJ (f:=kA.cells) wJ rf cW (.old (lQ.dS hoA)) hop)) (h:=?_);refine bS (i:=20) (hq:=(Pq (V:=λ x:Nat×Cd×Fr×AS=>.pointer (some ⟨x.1,0,none⟩)) (hs:=[(bT,qX b m bo bt bi),(bo,bV (V.es.map (kX.e t3)) V.ec),(bt,bV (Jb t3) 1),(b,cX V.a)]) (os:=iS V.a) (hs':=λ x=>[(bT,qX b m bo bt bi),(bo,bV ((V.es++[(⟨kR k t.idx,o.kind,false,V.ec⟩:kX)]).map (kX.e t3)) (V.ec+1)),(bt,bV (Jb t3) 1),(b,cX x.2.2.2)]) (Hc:=λ x=>[(x.1,tO b x.2.1 0),(x.2.2.2.u,x.2.2.2.po)]) (os':=λ x=>iS x.2.2.2) (Oc:=λ x=>[x.2.2.2.pl]) (Fc:=λ x=>x.2.2.1) (A0:=A) (hc:=λ w1 hw=>(Zu hk8 hi ho hf hm0 ok hm hA hB hw).mono λ _ _ ⟨x,e,h,hw⟩=>⟨x,e,h,by exact hw.perm (List.perm_append_comm (l₁:=[(bT,qX b m bo bt bi),(bo,bV ((V.es++[(⟨kR k t.idx,o.kind,false,V.ec⟩:kX)]).map (kX.e t3)) (V.ec+1)),(bt,bV (Jb t3) 1),(b,cX x.2.2.2)]) (l₂:=[(x.1,tO b x.2.1 0),(x.2.2.2.u,x.2.2.2.po)])) (List.perm_append_comm (l₁:=iS x.2.2.2) (l₂:=[x.2.2.2.pl]))⟩))) (h:=λ x80 h80=>?_);have hk0:x80.2.1.a.k≠0:=λ e=>by have:=(h80.1.kind (Gw m o)).1.1 e;rw[Ij] at this;cases this
   refine J4 ?_;refine fC (i:=23) (hq:=(aQ.iN (qV (f:=hJ.cells) (j:=2) (v1:=t.Ww (nL m o) x80) cL rf rf rfl iH tD ht (by decide) rfl) nM)) (h:=λ _=>?_);refine dY ?_;refine aU ?_;refine ai ?_;refine aA (dM (f:=hJ.cells) (j:=2) (v:=pt x80.1) (v0:=t.Ww (nL m o) x80) cL rf iH (.own (.tail .head)) E1j rfl) rfl ?_;refine aK (cV (v:=.bool (x80.2.1.a.k==0)) (hc:=λ w1 hw=>uH (hw.st.at bU))) (λ x92=>?_);refine aC ?_;refine aX (λ c92=>?_) (λ c92=>?_);·try (contradiction)
   ·try (first|contradiction|(exfalso;omega))
    refine bD ?_;refine cC ?_;refine aP results17 (λ w hw=>?_);exact⟨(x80,x57.1,x57.2,IntKind.i64.wrap (V.iD+1)),rfl,h80,by simp only[tS,Ju,mcC,MV.Ww,List.cons_append,List.nil_append,List.length_set,List.length_append,List.length_cons,List.length_nil];exact hw.ret E0f (aT.bA λ f hf=>List.mem_append_left _ hf) E0f⟩
  ·exact nv c44
end
end
end Go.Proofs.YthblobahelfefaaGreatDoor

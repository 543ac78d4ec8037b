/- Merged. -/
import Derived.Test.YtdeecdfockjoiaaGreatDoorGDr4
import Derived.Test.YtdeecdfockjoiaaGreatDoorMp2
import Derived.Test.YtdeecdfockjoiaaGreatDoorGCmh
set_option linter.unusedSimpArgs false
set_option linter.unusedVariables false
namespace Go.Proofs.YtdeecdfockjoiaaGreatDoor
open Go.Proofs.Tryz
open Go Go.RowKit Go.Ct
section
section
variable{D:List Nat}{A B:Fr}{a:AS}{b bT m bo bt bi:Nat}{w:World}{o:jX}{es:List lW}{ec k i:Nat}
theorem Yy{n:Nat}(h:lH es n 0=none):Instr.findNow (.int .i64) (.int .i64 ((n:Nat):Int)) (es.map (lW.e t3)) 0=some none:=by rw[Nx,h];rfl
theorem Y2{n q:Nat}{e:lW}(h:lH es n 0=some (q,e)):Instr.findNow (.int .i64) (.int .i64 ((n:Nat):Int)) (es.map (lW.e t3)) 0=some (some (q,(lW.e t3 e).val)):=by rw[Nx,h];rfl
theorem Z1(hk:k<8)(hi:i<16)(ho:Gs o)(hf:lH es (lP k i) 0=none)(hm0:m<18446744073709551616)(ok:a.Ok)(hm:a.mm.iL)(hA:∀f∈dD a.L,f∈A)(hB:∀x∈B,x∈A)(hs:SF w D [(bT,sL b m bo bt bi),(bo,cQ (es.map (lW.e t3)) ec),(bt,cQ (Jy t3) 1),(b,dV a)] A [] (kM a) w) :
  Calls prog 26 #[pt bT,.int .i64 (k:Int),.int .i64 (i:Int),.agg ⟨o.cells⟩] w λ e w'=>∃x:Nat×Cd×Fr×AS,e=.returned (.pointer (some ⟨x.1,0,none⟩))/\Yz b (pS m o) a.mm a B x.2/\SF w D [(x.1,tO b x.2.1 0),(x.2.2.2.u,x.2.2.2.po),(bT,sL b m bo bt bi),(bo,cQ ((es++[(⟨lP k i,o.kind,false,ec⟩:lW)]).map (lW.e t3)) (ec+1)),(bt,cQ (Jy t3) 1),(b,dV x.2.2.2)] [] x.2.2.1 (iS x.2.2.2) w':=by
 have hkd:=ho.kind;have h0:=ho.handle;have hfd:=Yy hf;refine enter func26 ntmps26 rfl rfl hs ?_;simp only[cN]
 simp only[jX.cells];refine J0 ?_;refine bC (λ x7=>?_);refine Jo ?_;refine aH (cV (hc:=λ w1 hw=>kD hk hi w1)) (λ x16=>?_);refine Kc7 ?_;refine fX ?_;refine aX (λ c18=>?_) (λ c18=>?_);·try (contradiction)
 ·try (first|contradiction|(exfalso;omega))
  refine lL ?_;refine qQ ?_;refine aB ?_;refine aA (iE (kH (K:=3) (E:=109) (dK:=.int .i64) (ze:=.agg ⟨[.int .i64 0,.int .i64 0,.bool false,.bool false]⟩) (k:=.int .i64 ((lP k i:Nat):Int)) (es:=es.map (lW.e t3)) (c:=ec) (r:=none) rf rf bI (by kernel_rfl) (by kernel_rfl) rfl (by kernel_rfl) hfd)) rfl ?_;refine Ez ?_;refine aJ (λ x10=>?_);refine Px ?_;refine J2 ?_;refine aE ?_;refine aX (λ c31=>?_) (λ c31=>?_);·exact nv c31
  ·try (first|contradiction|(exfalso;omega))
   refine lL ?_;refine qQ ?_;refine aA (F5 (K:=3) (E:=109) rf rf (by kernel_rfl)) rfl ?_;refine aE ?_;refine aX (λ c39=>?_) (λ c39=>?_);·try (contradiction)
   ·try (first|contradiction|(exfalso;omega))
    refine bG ?_;refine jN ?_;refine cI ?_;refine aJ (λ x12=>?_);refine J5 ?_;refine Ga ?_;refine Kc0 ?_;refine aX (λ c49=>?_) (λ c49=>?_)
    ·try (first|contradiction|(exfalso;omega))
     refine fO [0,1,2,3,4,5,6,7,8] ?_;refine mD ?_;refine hY ?_;refine aS (i:=6) (hq:=(iE (Qg (K:=3) (E:=42) (dK:=.int .i64) (ze:=.agg ⟨[.int .i64 0,.bool false]⟩) (k:=.int .i64 0) (es:=Jy t3) (c:=1) (r:=some (0,.agg ⟨[.int .i64 3,.bool false]⟩)) rf (by rw[<- h0];exact rfl) bI (by kernel_rfl) (by kernel_rfl) rfl (by kernel_rfl) rfl))) (h:=?_);refine bQ ?_;refine eT (i:=8) (hq:=(cC λ _=>oF (off:=1) (vs:=[.int .i64 3,.bool false]) rf bI rf rfl cY (Nat.le_of_ble_eq_true rfl) rf dM)) (h:=λ _=>?_);refine dA ?_;refine K2b ?_;refine Kd4 ?_;refine bH ?_;refine eT (i:=6) (hq:=(cC λ _=>Nf (K:=3) (E:=109) (dK:=.int .i64) (k:=.int .i64 ((lP k i:Nat):Int)) (v:=.agg ⟨[.int .i64 o.kind,.int .i64 3,.bool false,.bool false]⟩) (es:=es.map (lW.e t3)) (c:=ec) rf rf rf bI (by kernel_rfl) (by kernel_rfl) rfl hfd dM)) (h:=λ _=>?_);refine dA ?_;refine qJ ?_;refine bO ?_;refine aI (cM (φ:=λ _=>True) (V:=λ _:Unit=>.int .i64 0) (hs:=[(bT,sL b m bo bt bi),(bt,cQ (Jy t3) 1)]) (os:=[]) (A0:=[]) (hs':=λ _=>[(bT,sL b m bo bt bi),(bt,cQ (Jy t3) 1)]) (os':=λ _=>[]) (Fc:=λ _=>[]) (hc:=λ w1 hw=>(Sr (t:=t3) ho.kind ho.handle ho.key rfl _ hw).mono λ _ _ ⟨e,h⟩=>⟨(),e,trivial,h⟩)) (λ x67 h67=>?_);refine Kb7 ?_;refine Kc0 ?_;refine aX (λ c69=>?_) (λ c69=>?_);·exact nv c69
     ·try (first|contradiction|(exfalso;omega))
      refine Kd9 ?_;refine aQ ?_;refine aA (cJ (k:=2) (vs:=[.int .i64 3,.bool false]) rf bI cY rfl rfl) rfl ?_;refine bO ?_;refine aI (Og (V:=λ x:Nat×Cd×Fr×AS=>.pointer (some ⟨x.1,0,none⟩)) (hs:=[(bT,sL b m bo bt bi),(b,dV a)]) (os:=kM a) (hs':=λ x=>[(bT,sL b m bo bt bi),(b,dV x.2.2.2)]) (Hc:=λ x=>[(x.1,tO b x.2.1 0),(x.2.2.2.u,x.2.2.2.po)]) (os':=λ x=>kM x.2.2.2) (Oc:=λ x=>[x.2.2.2.pl]) (Fc:=λ x=>x.2.2.1) (A0:=A) (hc:=λ w1 hw=>(Ys ho hm0 ok hm hA hB hw).mono λ _ _ ⟨x,e,h,hw⟩=>⟨x,e,h,by exact hw.perm (List.perm_append_comm (l₁:=[(bT,sL b m bo bt bi),(b,dV x.2.2.2)]) (l₂:=[(x.1,tO b x.2.1 0),(x.2.2.2.u,x.2.2.2.po)])) (List.perm_append_comm (l₁:=kM x.2.2.2) (l₂:=[x.2.2.2.pl]))⟩)) (λ x78 h78=>?_);refine J1 ?_;refine bJ results26 (λ w hw=>?_);exact⟨x78,rfl,h78,by rw[List.map_append];exact hw.ret E0d (bM.dB λ f hf=>by simpa using hf) E0h⟩
    ·try ((exfalso;omega))
theorem T8{kd n:Int}{fin:Bool}{r0:Int}{ro:Bool}(hkd:kd=1∨kd=2∨kd=3∨kd=4∨kd=5∨kd=7)(hs:SF w D [(bT,sL b m bo bt bi)] [] [] [] w) :
  Calls prog 45 #[pt bT,.int .i64 n,.agg ⟨[.int .i64 kd,.int .i64 3,.bool false,.bool fin]⟩,.agg ⟨[.int .i64 r0,.bool ro]⟩] w λ e w'=>e=.returned (.tuple #[])/\SF w D [(bT,sL b m bo bt bi)] [] [] [] w':=by
 refine enter func45 ntmps45 rfl rfl hs ?_;simp only[cN];refine J0 ?_;refine bC (λ x6=>?_);refine bC (λ x7=>?_);refine pJ ?_;refine qQ ?_;refine aA (F5 (K:=3) (E:=42) rf rf (by kernel_rfl)) rfl ?_;refine aE ?_;refine aX (λ c12=>?_) (λ c12=>?_);·try (contradiction)
 ·try (first|contradiction|(exfalso;omega))
  refine bG ?_;refine K3i ?_;refine aX (λ c23=>?_) (λ c23=>?_);·try ((exfalso;omega))
  ·try (first|contradiction|(exfalso;omega))
   refine eC ?_;refine Sx ?_;refine aX (λ c23=>?_) (λ c23=>?_);·try ((exfalso;omega))
   ·try (first|contradiction|(exfalso;omega))
    refine kT ?_;refine aX (λ c32=>?_) (λ c32=>?_);·try ((exfalso;omega))
    ·try (first|contradiction|(exfalso;omega))
     refine rL ?_;refine Qb results45 (λ w hw=>?_);exact⟨rfl,hw.ret E0a (bM.dB λ f hf=>hf) (List.Sublist.refl _)⟩
theorem zI{q:Nat}{e:lW}{r:Rs}(hk:k<8)(hi:i<16)(hf:lH es (lP k i) 0=some (q,e))(hfin:e.fin=false)(hkd:e.kind=1∨e.kind=2∨e.kind=3∨e.kind=4∨e.kind=5∨e.kind=7)(hs:SF w D [(bT,sL b m bo bt bi),(bo,cQ (es.map (lW.e t3)) ec)] [] [] [] w) :
  Calls prog 29 #[pt bT,.int .i64 (k:Int),.int .i64 (i:Int),.agg ⟨r.cells⟩] w λ en w'=>en=.returned (.agg ⟨(He r).cells⟩)/\SF w D [(bT,sL b m bo bt bi),(bo,cQ ((es.set q (⟨e.n,e.kind,true,e.born⟩:lW)).map (lW.e t3)) ec)] [] [] [] w':=by
 have hfd:=Y2 hf;obtain⟨hen,_,heq⟩:=F9 hf;have hat:(es.map (lW.e t3))[q]?=some (lW.e t3 e):=by rw[Nat.sub_zero] at heq;rw[List.getElem?_map,heq];rfl
 have hset:(es.map (lW.e t3)).set q ⟨.int .i64 ((lP k i:Nat):Int),.agg ⟨[.int .i64 e.kind,.int .i64 3,.bool false,.bool true]⟩,(lW.e t3 e).born⟩=(es.set q (⟨e.n,e.kind,true,e.born⟩:lW)).map (lW.e t3):=by rw[List.map_set];unfold lW.e;rw[hen]
 refine enter func29 ntmps29 rfl rfl hs ?_;simp only[cN];refine J0 ?_;refine bC (λ x7=>?_);refine aJ (λ x8=>?_);refine Ke2 ?_;refine aH (cV (hc:=λ w1 hw=>kD hk hi w1)) (λ x14=>?_);refine J1 ?_;refine qQ ?_;refine aB ?_;refine aA (iE (kH (K:=3) (E:=109) (dK:=.int .i64) (ze:=.agg ⟨[.int .i64 0,.int .i64 0,.bool false,.bool false]⟩) (k:=.int .i64 ((lP k i:Nat):Int)) (es:=es.map (lW.e t3)) (c:=ec) (r:=some (q,.agg ⟨[.int .i64 e.kind,.int .i64 3,.bool false,.bool false]⟩)) rf rf bI (by kernel_rfl) (by kernel_rfl) rfl (by kernel_rfl) (by rw[hfd];unfold lW.e;rw[hfin]))) rfl ?_;refine Ez ?_;refine aJ (λ x10=>?_);refine oW (λ _=>?_);refine Kc7 ?_;refine Ti ?_;(refine aF ?_;refine aQ ?_);((refine Kc5 ?_));refine Kb1 ?_;refine aX (λ c29=>?_) (λ c29=>?_);·exact nv c29
 ·try (first|contradiction|(exfalso;omega))
  refine Kc4 ?_;refine Qd ?_;refine K2b ?_;refine Kd4 ?_;refine bH ?_;refine eT (i:=6) (hq:=(aW.conv (cC λ _=>kx (K:=3) (E:=109) (dK:=.int .i64) (k:=.int .i64 ((lP k i:Nat):Int)) (v:=.agg ⟨[.int .i64 e.kind,.int .i64 3,.bool false,.bool true]⟩) (es:=es.map (lW.e t3)) (c:=ec) (j:=q) (u:=(lW.e t3 e).val) (e:=lW.e t3 e) rf rf rf bI (by kernel_rfl) (by kernel_rfl) rfl hfd hat (by unfold lW.e;rw[hen]) dM) (λ _ w h=>by rw[hset] at h;exact h))) (h:=λ _=>?_);refine dA ?_;refine Ga ?_;refine E2 ?_;refine aX (λ c40=>?_) (λ c40=>?_)
  ·try (first|contradiction|(exfalso;omega))
   refine Fw ?_;refine bO ?_;refine aQ ?_;refine aA (cJ (k:=2) (vs:=[.int .i64 r.root,.bool r.ro]) rf bI cY rfl rfl) rfl ?_;refine aI (cM (φ:=λ _=>True) (V:=λ _:Unit=>.tuple #[]) (hs:=[(bT,sL b m bo bt bi)]) (os:=[]) (A0:=[]) (hs':=λ _=>[(bT,sL b m bo bt bi)]) (os':=λ _=>[]) (Fc:=λ _=>[]) (hc:=λ w1 hw=>(T8 hkd hw).mono λ _ _ ⟨e,h⟩=>⟨(),e,trivial,h⟩)) (λ x46 h46=>?_);refine Kb4 ?_;refine Qd ?_;refine Ke0 ?_;refine aQ ?_;refine aM (cC λ _=>oF (off:=6) (vs:=[.int .i64 0,.bool false]) rf bI rf rfl cY (Nat.le_of_ble_eq_true rfl) rf dM) (λ _=>?_);refine aE ?_;refine Ke7 ?_;refine bF results29 (λ w hw=>?_);exact⟨rfl,hw.ret E0a (bM.dB λ f hf=>hf) (List.Sublist.refl _)⟩
  ·try (first|contradiction|(exfalso;omega))
   refine Kc4 ?_;refine Qd ?_;refine Ke0 ?_;refine aQ ?_;refine aM (cC λ _=>oF (off:=6) (vs:=[.int .i64 0,.bool false]) rf bI rf rfl cY (Nat.le_of_ble_eq_true rfl) rf dM) (λ _=>?_);refine aE ?_;refine Ke7 ?_;refine bF results29 (λ w hw=>?_);exact⟨rfl,hw.ret E0a (bM.dB λ f hf=>hf) (List.Sublist.refl _)⟩
end
end
end Go.Proofs.YtdeecdfockjoiaaGreatDoor
namespace Go.Ct
open Go Go.RowKit
section
theorem Ze{α:Type}{f:α->List Value}{l:List α}{k:Nat}{v v':α}(hk:l[k]?=some v)(e:f v'=f v):eV f (l.set k v')=eV f l:=by
 obtain⟨h,rfl⟩:=List.getElem?_eq_some_iff.1 hk;have e2:l=l.take k++l[k]::l.drop (k+1):=by rw[<- List.drop_eq_getElem_cons h,List.take_append_drop]
 unfold eV;conv=>rhs;rw[e2]
 rw[List.set_eq_take_append_cons_drop,if_pos h,List.flatMap_append,List.flatMap_append,List.flatMap_cons,List.flatMap_cons,e]
end
end Go.Ct
namespace Go.Proofs.YtdeecdfockjoiaaGreatDoor
open Go.Proofs.Tryz
open Go Go.RowKit Go.Ct
section
theorem rT:dU prog 47 61 (oR.cells ⟨0,0,false,Rs.zero⟩):=gR (z:=.agg ⟨oR.cells ⟨0,0,false,Rs.zero⟩⟩) (by kernel_rfl) (by kernel_rfl) rfl
section
variable{D:List Nat}{A B:Fr}{b bT bm m bo bt bi k:Nat}{w:World}{o:jX}{pk:Option Addr×Nat×Nat}{V:MV}{t:jD}
theorem uZ{p:Option Addr}{l:List jD}(hcl:Go.Ct.Cl w p (cu l))(hk:l[k]?=some t) :
  Calls prog 25 #[.pointer (some ⟨dJ p,eQ p+3*k,none⟩)] w λ e w'=>e=.returned (.bool (decide (t.ops.length<=t.idx)))/\St w [] [] w':=by refine enter func25 ntmps25 rfl rfl (SF.begin (A:=[(p,cu l)]) (λ f hf=>by rcases List.mem_singleton.1 hf with rfl;exact hcl)) ?_;simp only[cN];refine Uh ?_;refine fO [0,1,2,3,4,5,6,7,8,9,10] ?_;refine J9 ?_;refine aS (i:=3) (hq:=(eA (f:=jD.cells) (j:=1) dO rf eL (.old .head) hk rfl)) (h:=?_);refine J9 ?_;refine aS (i:=7) (hq:=(H9 (f:=jD.cells) dO rf eL (.old .head) hk rfl)) (h:=?_);refine Cb ?_;refine Wu ?_;refine J7 ?_;refine bJ results25 (λ w hw=>?_);exact⟨by simp;rfl,hw.done⟩
theorem rn{V:MV}(ht:V.th[k]?=some t)(hd:t.ops.length<=t.idx)(hs:SF w D (uR m b bm bT bo bt bi pk V) A [] (xO V) w) :
  Calls prog 14 #[pt bm,.int .i64 (k:Int)] w λ e w'=>e=.returned (.bool false)/\SF w D (uR m b bm bT bo bt bi pk V) [] [] (xO V) w':=by
 have hkl:k<V.th.length:=(List.getElem?_eq_some_iff.1 ht).1;refine enter func14 ntmps14 rfl rfl hs ?_;simp only[cN]
 refine K3n ?_;((refine Ka2 ?_));((refine Kc9 ?_));refine J43 ?_;((refine Kd1 ?_));refine Kb3 ?_;(refine mN 18 (λ g18=>?_) (λ g18=>?_)<;>(try ((exfalso;omega)))<;>((refine Ka2 ?_)));((refine Kc9 ?_));refine J6 ?_;((refine Ka2 ?_));((refine aF ?_;refine aA (bP (f:=jD.cells) (k:=k) dO (by decide) rf rf dP cY (.own .head) hkl hkl) rfl ?_));((refine aF ?_;refine aH (cV (v:=.bool true) (hc:=λ w1 hw=>by rw[show(true:Bool)=decide (t.ops.length<=t.idx) by simp[hd]];exact uZ (hw.cl (.own .head)) ht)) (λ x25=>?_)));refine Kb1 ?_;refine aX (λ c26=>?_) (λ c26=>?_)
 ·try (first|contradiction|(exfalso;omega))
  refine eD ?_;refine bJ results14 (λ w hw=>?_);exact⟨rfl,hw.ret (List.Sublist.refl _) (bM.dB λ f hf=>hf) (List.Sublist.refl _)⟩
 ·exact nv c26
end
end
section
section
variable{D:List Nat}{A B:Fr}{b bT bm m bo bt bi k:Nat}{w:World}{o:jX}{pk:Option Addr×Nat×Nat}{V:MV}{t:jD}
abbrev jD.Xf(t:jD)(T:Tr)(y:Nat×Cd×Fr×AS):jD:=⟨t.op,t.oc,t.ops,t.idx,some ⟨y.1,y.2.1,0,T,y.2.2.2.u,y.2.2.2.po,y.2.2.2.pl⟩⟩
abbrev MV.Xf(V:MV)(k:Nat)(t:jD)(kd:Int)(T:Tr)(x:(Nat×Cd×Fr×AS)×Option Addr×Nat×Int):MV :=⟨x.1.2.2.2,V.es++[⟨lP k t.idx,kd,false,V.ec⟩],V.ec+1,V.th.set k (t.Xf T x.1),V.tp,V.tc,V.hi++[⟨k,t.idx,false,Rs.zero⟩],x.2.1,x.2.2.1,x.2.2.2,x.1.2.2.1++V.B⟩
set_option maxRecDepth 100000 in
theorem oi(hk8:k<8)(ht:V.th[k]?=some t)(hpr:t.pr=none)(hop:t.ops[t.idx]?=some o)(ho:Gs o)(hi:t.idx<16)(hf:lH V.es (lP k t.idx) 0=none)(hm0:m<18446744073709551616)(ok:V.a.Ok)(hm:V.a.mm.iL)(hA:∀f∈dD V.a.L,f∈A)(hB:∀x∈V.B,x∈A)(hoA:(t.op,iB t.ops)∈A)(hhl:V.hi.length<=1000000)(hs:SF w D (uR m b bm bT bo bt bi pk V) A [] (xO V) w) :
  Calls prog 14 #[pt bm,.int .i64 (k:Int)] w λ e w'=>∃x:(Nat×Cd×Fr×AS)×Option Addr×Nat×Int,e=.returned (.bool true)/\Yz b (pS m o) V.a.mm V.a V.B x.1.2/\SF w D ([(x.1.1,tO b x.1.2.1 0),(x.1.2.2.2.u,x.1.2.2.2.po)]++uR m b bm bT bo bt bi pk (V.Xf k t o.kind (pS m o) x)) [] x.1.2.2.1 (x.1.2.2.2.pl::xO (V.Xf k t o.kind (pS m o) x)) w':=by
 have hkl:k<V.th.length:=(List.getElem?_eq_some_iff.1 ht).1;refine K3p ?_;intro hil;refine enter func14 ntmps14 rfl rfl hs ?_;simp only[cN]
 refine K3n ?_;((refine Ka2 ?_));((refine Kc9 ?_));refine J43 ?_;((refine Kd1 ?_));refine Kb3 ?_;(refine mN 18 (λ g18=>?_) (λ g18=>?_)<;>(try ((exfalso;omega)))<;>((refine Ka2 ?_)));((refine Kc9 ?_));refine J6 ?_;((refine Ka2 ?_));((refine aF ?_;refine aA (bP (f:=jD.cells) (k:=k) dO (by decide) rf rf dP cY (.own .head) hkl hkl) rfl ?_));((refine aF ?_;refine aH (cV (v:=.bool false) (hc:=λ w1 hw=>by rw[show(false:Bool)=decide (t.ops.length<=t.idx) by simp;omega];exact uZ (hw.cl (.own .head)) ht)) (λ x25=>?_)));refine Kb1 ?_;refine aX (λ c26=>?_) (λ c26=>?_);·exact nv c26
 ·try (first|contradiction|(exfalso;omega))
  refine K1p ?_;refine aA (eA (f:=jD.cells) (j:=2) (v:=.pointer none) dO rf eL (.own .head) ht (by unfold jD.cells;rw[hpr];rfl)) rfl ?_;refine E2 ?_;refine aX (λ c44=>?_) (λ c44=>?_)
  ·try (first|contradiction|(exfalso;omega))
   refine aL ?_;refine eO [(0,[]),(1,[]),(2,[]),(3,[]),(4,[]),(5,[]),(6,[]),(7,[]),(8,[]),(9,[]),(10,[]),(11,[4]),(12,[]),(13,[]),(14,[]),(15,[])] ?_;refine K2k ?_;refine iZ ?_;refine bR (i:=11) (hq:=E1b) (h:=λ x56=>?_);((refine bR (i:=12) (hq:=(aW.cX (tS (f:=oR.cells) (v1:=⟨k,t.idx,false,Rs.zero⟩) iQ (by decide) rfl rf rf (.tail .head) rfl (.new .head) rT rfl dP (by omega)) jK)) (h:=λ x57=>?_);try (refine eZ (λ h57=>?_))));refine Ln ?_;refine fO [0,1,2,3,4,5,6,7,8,9,10,11,12,13,14,15,16,17,18,19,20,21,22,23] ?_;refine K2k ?_;refine J9 ?_;refine aS (i:=13) (hq:=(H9 (f:=jD.cells) dO rf eL (.own .head) ht rfl)) (h:=?_);refine J9 ?_;refine aS (i:=17) (hq:=(eA (f:=jD.cells) (j:=1) dO rf eL (.own .head) ht rfl)) (h:=?_);refine aS (i:=18) (hq:=(bP (f:=jX.cells) (k:=t.idx) lD (by decide) rf rf dP cY (.old (mU.eU hoA)) hil hil)) (h:=?_);refine aS (i:=19) (hq:=(cZ (f:=jX.cells) lD rf cY (.old (mU.eU hoA)) hop)) (h:=?_);refine bE (i:=20) (hq:=(Og (V:=λ x:Nat×Cd×Fr×AS=>.pointer (some ⟨x.1,0,none⟩)) (hs:=[(bT,sL b m bo bt bi),(bo,cQ (V.es.map (lW.e t3)) V.ec),(bt,cQ (Jy t3) 1),(b,dV V.a)]) (os:=kM V.a) (hs':=λ x=>[(bT,sL b m bo bt bi),(bo,cQ ((V.es++[(⟨lP k t.idx,o.kind,false,V.ec⟩:lW)]).map (lW.e t3)) (V.ec+1)),(bt,cQ (Jy t3) 1),(b,dV x.2.2.2)]) (Hc:=λ x=>[(x.1,tO b x.2.1 0),(x.2.2.2.u,x.2.2.2.po)]) (os':=λ x=>kM x.2.2.2) (Oc:=λ x=>[x.2.2.2.pl]) (Fc:=λ x=>x.2.2.1) (A0:=A) (hc:=λ w1 hw=>(Z1 hk8 hi ho hf hm0 ok hm hA hB hw).mono λ _ _ ⟨x,e,h,hw⟩=>⟨x,e,h,by exact hw.perm (List.perm_append_comm (l₁:=[(bT,sL b m bo bt bi),(bo,cQ ((V.es++[(⟨lP k t.idx,o.kind,false,V.ec⟩:lW)]).map (lW.e t3)) (V.ec+1)),(bt,cQ (Jy t3) 1),(b,dV x.2.2.2)]) (l₂:=[(x.1,tO b x.2.1 0),(x.2.2.2.u,x.2.2.2.po)])) (List.perm_append_comm (l₁:=kM x.2.2.2) (l₂:=[x.2.2.2.pl]))⟩))) (h:=λ x80 h80=>?_);have hk0:x80.2.1.a.k≠0:=λ e=>by have:=(h80.1.kind (H8 m o)).1.1 e;rw[H2] at this;cases this
   refine J4 ?_;refine eT (i:=23) (hq:=(aW.gJ (C0 (f:=jD.cells) (j:=2) (v1:=t.Xf (pS m o) x80) dO rf rf rfl eL rP ht (by decide) rfl) jK)) (h:=λ _=>?_);refine dA ?_;refine aL ?_;refine Pc ?_;refine aA (eA (f:=jD.cells) (j:=2) (v:=pt x80.1) (v0:=t.Xf (pS m o) x80) dO rf eL (.own (.tail .head)) E1p rfl) rfl ?_;refine aH (cV (v:=.bool (x80.2.1.a.k==0)) (hc:=λ w1 hw=>vM (hw.st.at bI))) (λ x92=>?_);refine aE ?_;refine aX (λ c92=>?_) (λ c92=>?_);·try (contradiction)
   ·try (first|contradiction|(exfalso;omega))
    refine bG ?_;refine eD ?_;refine bJ results14 (λ w hw=>?_);exact⟨(x80,x57.1,x57.2,IntKind.i64.wrap (V.jG+1)),rfl,h80,by simp only[uR,Gc,mcC,MV.Xf,List.cons_append,List.nil_append,List.length_set,List.length_append,List.length_cons,List.length_nil];exact hw.ret E0h (bM.dB λ f hf=>List.mem_append_left _ hf) E0h⟩
  ·exact nv c44
end
end
section
section
variable{D:List Nat}{A B:Fr}{b bT bm m bo bt bi k:Nat}{w:World}{pk:Option Addr×Nat×Nat}{V:MV}{t:jD}{p:zj}
abbrev jD.Wn(t:jD)(p:zj)(T:Tr)(y:Cd×Fr×AS):jD:=⟨t.op,t.oc,t.ops,t.idx,some ⟨p.bt,y.1,p.n+1,T,y.2.2.u,y.2.2.po,y.2.2.pl⟩⟩
abbrev MV.Wn(V:MV)(k:Nat)(t:jD)(p:zj)(T:Tr)(x:(Cd×Fr×AS)×Int):MV :=⟨x.1.2.2,V.es,V.ec,V.th.set k (t.Wn p T x.1),V.tp,V.tc,V.hi,V.hp,V.hc,x.2,x.1.2.1++V.B⟩
abbrev MV.ap(V:MV)(p:zj):AS:=AS.wq V.a p.u p.po p.pl
theorem yy(ok:V.a.Ok):(V.ap p).Ok:=⟨ok.fit,⟨ok.mo.nd,ok.mo.cs,ok.mo.two⟩⟩
set_option maxRecDepth 100000 in
theorem Z3(ht:V.th[k]?=some t)(hpr:t.pr=some p)(hi:t.idx<t.ops.length)(hr:eH b p.T (V.ap p).mm p.c (V.ap p).mm V.B)(ha:fI p.T=true)(hlv:p.T.live=true)(hns:(mC (p.T,(V.ap p).mm)).1≠.stuck)(hl2:(mC (p.T,(V.ap p).mm)).1.live=true)(hn:p.n<1000000000)(ok:V.a.Ok)(hm:V.a.mm.iL)(hA:∀f∈dD V.a.L,f∈A)(hB:∀x∈V.B,x∈A)(hs:SF w D ([(p.bt,tO b p.c p.n),(p.u,p.po)]++uR m b bm bT bo bt bi pk V) A [] (Sd V p.pl) w) :
  Calls prog 14 #[pt bm,.int .i64 (k:Int)] w λ e w'=>∃x:(Cd×Fr×AS)×Int,e=.returned (.bool true)/\Yz b (mC (p.T,(V.ap p).mm)).1 (mC (p.T,(V.ap p).mm)).2 (V.ap p) V.B x.1/\SF w D ([(p.bt,tO b x.1.1 (p.n+1)),(x.1.2.2.u,x.1.2.2.po)]++uR m b bm bT bo bt bi pk (V.Wn k t p (mC (p.T,(V.ap p).mm)).1 x)) [] x.1.2.1 (Sd (V.Wn k t p (mC (p.T,(V.ap p).mm)).1 x) x.1.2.2.pl) w':=by
 have hkl:k<V.th.length:=(List.getElem?_eq_some_iff.1 ht).1;have hc2:(jD.cells t)[2]?=some (pt p.bt):=by unfold jD.cells;rw[hpr];rfl
 refine enter func14 ntmps14 rfl rfl hs ?_;simp only[cN];simp only[List.cons_append,List.nil_append];refine K3n ?_;((refine Ka2 ?_));((refine Kc9 ?_));refine J43 ?_;((refine Kd1 ?_));refine Kb3 ?_;(refine mN 18 (λ g18=>?_) (λ g18=>?_)<;>(try ((exfalso;omega)))<;>((refine Ka2 ?_)));((refine Kc9 ?_));refine J6 ?_;((refine Ka2 ?_));((refine aF ?_;refine aA (bP (f:=jD.cells) (k:=k) dO (by decide) rf rf dP cY (.own .head) hkl hkl) rfl ?_));((refine aF ?_;refine aH (cV (v:=.bool false) (hc:=λ w1 hw=>by rw[show(false:Bool)=decide (t.ops.length<=t.idx) by simp;omega];exact uZ (hw.cl (.own .head)) ht)) (λ x25=>?_)));refine Kb1 ?_;refine aX (λ c26=>?_) (λ c26=>?_);·exact nv c26
 ·try (first|contradiction|(exfalso;omega))
  refine K1p ?_;refine K1k ?_;refine E2 ?_;refine aX (λ c44=>?_) (λ c44=>?_);·try (contradiction)
  ·try (first|contradiction|(exfalso;omega))
   refine K1j ?_;intro x87 h87;have hk0:x87.1.a.k≠0:=λ e=>by have:=(h87.1.1.1.kind h87.2).1.1 e;rw[hl2] at this;cases this
   refine pJ ?_;refine Pc ?_;refine K1k ?_;refine aH (cV (v:=.bool (x87.1.a.k==0)) (hc:=λ w1 hw=>vM (hw.st.at bI))) (λ x92=>?_);refine aE ?_;refine aX (λ c92=>?_) (λ c92=>?_);·try (contradiction)
   ·try (first|contradiction|(exfalso;omega))
    refine bG ?_;refine eD ?_;refine bJ results14 (λ w hw=>?_);exact⟨(x87,IntKind.i64.wrap (V.jG+1)),rfl,vR h87.1,by simp only[uR,Gc,mcC,Sd,MV.Wn,List.cons_append,List.nil_append,List.length_set];rw[show cu (V.th.set k (t.Wn p (mC (p.T,(V.ap p).mm)).1 x87))=cu V.th from Ze ht (by unfold jD.cells;rw[hpr];rfl)];exact hw.ret E0h (bM.dB λ f hf=>by simpa using hf) E0h⟩
end
end
section
section
variable{D:List Nat}{A B:Fr}{b bT bm m bo bt bi k:Nat}{w:World}{pk:Option Addr×Nat×Nat}{V:MV}{t:jD}{p:zj}{r:Rs}{q:Nat}{e:lW}
abbrev MV.fin(V:MV)(k:Nat)(t:jD)(q:Nat)(e:lW)(r:Rs)(x:(Cd×Fr×AS)×Option Addr×Nat×Int):MV :=⟨x.1.2.2,V.es.set q ⟨e.n,e.kind,true,e.born⟩,V.ec,V.th.set k ⟨t.op,t.oc,t.ops,t.idx+1,none⟩,V.tp,V.tc,V.hi++[⟨k,t.idx,true,He r⟩],x.2.1,x.2.2.1,x.2.2.2,x.1.2.1++V.B⟩
set_option maxRecDepth 100000 in
theorem l9(hk8:k<8)(ht:V.th[k]?=some t)(hpr:t.pr=some p)(hi:t.idx<t.ops.length)(hi16:t.idx<16)(hf:lH V.es (lP k t.idx) 0=some (q,e))(hfin:e.fin=false)(hkd:e.kind=1∨e.kind=2∨e.kind=3∨e.kind=4∨e.kind=5∨e.kind=7)(hr:eH b p.T (V.ap p).mm p.c (V.ap p).mm V.B)(ha:fI p.T=true)(hlv:p.T.live=true)(hns:(mC (p.T,(V.ap p).mm)).1≠.stuck)(hd:(mC (p.T,(V.ap p).mm)).1=.done r)(hn:p.n<1000000000)(ok:V.a.Ok)(hm:V.a.mm.iL)(hA:∀f∈dD V.a.L,f∈A)(hB:∀x∈V.B,x∈A)(hhl:V.hi.length<=1000000)(hs:SF w D ([(p.bt,tO b p.c p.n),(p.u,p.po)]++uR m b bm bT bo bt bi pk V) A [] (Sd V p.pl) w) :
    Calls prog 14 #[pt bm,.int .i64 (k:Int)] w λ en w'=>∃x:(Cd×Fr×AS)×Option Addr×Nat×Int,en=.returned (.bool true)/\Yz b (mC (p.T,(V.ap p).mm)).1 (mC (p.T,(V.ap p).mm)).2 (V.ap p) V.B x.1/\SF w D (uR m b bm bT bo bt bi pk (V.fin k t q e r x)) [] x.1.2.1 (xO (V.fin k t q e r x)) w':=by
     have hkl:k<V.th.length:=(List.getElem?_eq_some_iff.1 ht).1;have hc2:(jD.cells t)[2]?=some (pt p.bt):=by unfold jD.cells;rw[hpr];rfl
     refine enter func14 ntmps14 rfl rfl hs ?_;simp only[cN];simp only[List.cons_append,List.nil_append];refine K3n ?_;((refine Ka2 ?_));((refine Kc9 ?_));refine J43 ?_;((refine Kd1 ?_));refine Kb3 ?_;(refine mN 18 (λ g18=>?_) (λ g18=>?_)<;>(try ((exfalso;omega)))<;>((refine Ka2 ?_)));((refine Kc9 ?_));refine J6 ?_;((refine Ka2 ?_));((refine aF ?_;refine aA (bP (f:=jD.cells) (k:=k) dO (by decide) rf rf dP cY (.own .head) hkl hkl) rfl ?_));((refine aF ?_;refine aH (cV (v:=.bool false) (hc:=λ w1 hw=>by rw[show(false:Bool)=decide (t.ops.length<=t.idx) by simp;omega];exact uZ (hw.cl (.own .head)) ht)) (λ x25=>?_)));refine Kb1 ?_;refine aX (λ c26=>?_) (λ c26=>?_);·exact nv c26
     ·try (first|contradiction|(exfalso;omega))
      refine K1p ?_;refine K1k ?_;refine E2 ?_;refine aX (λ c44=>?_) (λ c44=>?_);·try (contradiction)
      ·try (first|contradiction|(exfalso;omega))
       refine K1j ?_;intro x87 h87;have hcd:x87.1=fE r:=by have h1:=h87.1.1.1;rw[hd] at h1;exact h1.2
       refine pJ ?_;refine Pc ?_;refine K1k ?_;refine aH (cV (v:=.bool true) (hc:=λ w1 hw=>by have h1:=vM (hw.st.at bI);rw[hcd] at h1;exact h1)) (λ x92=>?_);refine aE ?_;refine aX (λ c92=>?_) (λ c92=>?_)
       ·try (first|contradiction|(exfalso;omega))
        refine aL ?_;refine nX [6,93,94,95,96,97,98,99,100,101,102,103,104,105,106,107] (λ j:Nat=>[(6,.pointer (some ⟨j,0,none⟩))]) (λ _=>True) (λ j=>[(j,.cells ⟨(He r).cells⟩ 44 (0,0)),(p.bt,tO b x87.1 (p.n+1)),(x87.2.2.u,x87.2.2.po),(bm,.cells ⟨[pt b,pt bT,.slice V.tp V.th.length V.tc,.slice pk.1 pk.2.1 pk.2.2,.slice V.hp V.hi.length V.hc,.int .i64 (IntKind.i64.wrap (V.jG+1))]⟩ 68 (0,0)),(bT,sL b m bo bt bi),(bo,cQ ((V.es.set q (⟨e.n,e.kind,true,e.born⟩:lW)).map (lW.e t3)) V.ec),(bt,cQ (Jy t3) 1),(b,dV x87.2.2)]) (λ _=>x87.2.1) (λ _=>[⟨V.tp,cu V.th,V.tc,78,3⟩,⟨V.hp,Fk V.hi,V.hc,61,11⟩]++iS x87.2.2) (by decide) (λ _=>by exact rfl) ?_ (λ j f hx=>?_)
        ·refine kR (.one 0 [] (.one 1 [] (.one 2 [] (.one 3 [] (.one 4 [] (.one 5 [] (.one 6 [] (.one 7 [] (.one 8 [] (.one 9 [] (.one 10 [] (.one 11 [] (.one 12 [] (.two 13 [3,8] (.two 14 [] (.one 15 [3,8,12] (.one 16 [] .nil)) 0 [] (.two 15 [3,8,12] (.one 14 [] (.one 16 [] .nil)) 0 [] .nil)) 0 [] (.two 15 [3,8,12] (.one 13 [3,8] (.one 14 [] (.one 16 [] .nil))) 0 [] .nil))))))))))))))) ?_;refine Kd4 ?_;refine J9 ?_;refine aS (i:=8) (hq:=(eA (f:=jD.cells) (j:=1) dO rf eL (.own .head) ht rfl)) (h:=?_);refine J9 ?_;refine aS (i:=12) (hq:=(eA (f:=jD.cells) (j:=2) (v:=pt p.bt) dO rf eL (.own .head) ht hc2)) (h:=?_);refine jF (E:=[13,15]) (by decide +kernel) ((.cons ?_ (.cons ?_ .nil)))
         ·refine lN (i:=13) (hq:=(cV (v:=.agg ⟨r.cells⟩) (hc:=λ w1 hw=>by have h1:=Hd (hw.st.at bI);rw[hcd] at h1;exact h1))) (hfire:=(λ _=>by((repeat (first|exact aR.nil|refine aR.cons (by first|exact dZ|exact cR (hq:=eA (f:=jD.cells) (j:=1) dO rf eL (.own .head) ht rfl)) ?_));done))) (h:=λ x106=>?_);refine jF (E:=[14,15]) (by decide +kernel) ((.cons ?_ (.cons ?_ .nil)));·refine nM (i:=14) (hq:=(cM (φ:=λ _=>True) (V:=λ _:Unit=>.agg ⟨(He r).cells⟩) (hs:=[(bT,sL b m bo bt bi),(bo,cQ (V.es.map (lW.e t3)) V.ec)]) (os:=[]) (A0:=[]) (hs':=λ _=>[(bT,sL b m bo bt bi),(bo,cQ ((V.es.set q (⟨e.n,e.kind,true,e.born⟩:lW)).map (lW.e t3)) V.ec)]) (os':=λ _=>[]) (Fc:=λ _=>[]) (hc:=λ w1 hw=>(zI hk8 hi16 hf hfin hkd hw).mono λ _ _ ⟨e,h⟩=>⟨(),e,trivial,h⟩))) (h:=λ x107 h107=>?_);refine nY (hfire:=E0l) (h:=λ x6=>?_);refine K1o ?_;·trivial
          ·refine rB (i:=15) (hfire:=E0l) (h:=λ x6=>?_);refine bE (i:=14) (hq:=(cM (φ:=λ _=>True) (V:=λ _:Unit=>.agg ⟨(He r).cells⟩) (hs:=[(bT,sL b m bo bt bi),(bo,cQ (V.es.map (lW.e t3)) V.ec)]) (os:=[]) (A0:=[]) (hs':=λ _=>[(bT,sL b m bo bt bi),(bo,cQ ((V.es.set q (⟨e.n,e.kind,true,e.born⟩:lW)).map (lW.e t3)) V.ec)]) (os':=λ _=>[]) (Fc:=λ _=>[]) (hc:=λ w1 hw=>(zI hk8 hi16 hf hfin hkd hw).mono λ _ _ ⟨e,h⟩=>⟨(),e,trivial,h⟩))) (h:=λ x107 h107=>?_);refine K1o ?_;·trivial
         ·refine rB (i:=15) (hfire:=E0l) (h:=λ x6=>?_);refine bR (i:=13) (hq:=(cV (v:=.agg ⟨r.cells⟩) (hc:=λ w1 hw=>by have h1:=Hd (hw.st.at bI);rw[hcd] at h1;exact h1))) (hfire:=(λ _=>by((repeat (first|exact aR.nil|refine aR.cons (by first|exact dZ|exact cR (hq:=eA (f:=jD.cells) (j:=1) dO rf eL (.own .head) ht rfl)) ?_));done))) (h:=λ x106=>?_);refine bE (i:=14) (hq:=(cM (φ:=λ _=>True) (V:=λ _:Unit=>.agg ⟨(He r).cells⟩) (hs:=[(bT,sL b m bo bt bi),(bo,cQ (V.es.map (lW.e t3)) V.ec)]) (os:=[]) (A0:=[]) (hs':=λ _=>[(bT,sL b m bo bt bi),(bo,cQ ((V.es.set q (⟨e.n,e.kind,true,e.born⟩:lW)).map (lW.e t3)) V.ec)]) (os':=λ _=>[]) (Fc:=λ _=>[]) (hc:=λ w1 hw=>(zI hk8 hi16 hf hfin hkd hw).mono λ _ _ ⟨e,h⟩=>⟨(),e,trivial,h⟩))) (h:=λ x107 h107=>?_);refine K1o ?_;·trivial
        refine K0c ?_;refine aL ?_;refine eO [(0,[]),(1,[]),(2,[]),(3,[]),(4,[]),(5,[]),(6,[]),(7,[]),(8,[]),(9,[]),(10,[]),(11,[]),(12,[4]),(13,[]),(14,[]),(15,[]),(16,[])] ?_;refine K2k ?_;refine bH ?_;refine iZ ?_;refine bR (i:=12) (hq:=E1b) (h:=λ x120=>?_);((refine bR (i:=13) (hq:=(aW.cX (tS (f:=oR.cells) (v1:=⟨k,t.idx,true,He r⟩) iQ (by decide) rfl rf rf (.tail .head) rfl (.new .head) rT rfl dP (by omega)) jK)) (h:=λ x121=>?_);try (refine eZ (λ h121=>?_))));refine Ln ?_;refine Pc ?_;refine aM (aW.gJ (C0 (f:=jD.cells) (j:=2) (v1:=⟨t.op,t.oc,t.ops,t.idx,none⟩) dO rf rf rfl eL rP ht (by decide) rfl) jK) (λ _=>?_);refine aE ?_;refine Cg ?_;refine P3 ?_;refine aA (eA (f:=jD.cells) (j:=1) (v0:=⟨t.op,t.oc,t.ops,t.idx,none⟩) dO rf eL (.own .head) E1p rfl) rfl ?_;refine aA (H5 (k:=t.idx) rf rf (by omega)) rfl ?_;refine P3 ?_;refine aM (aW.gJ (C0 (f:=jD.cells) (j:=1) (v0:=⟨t.op,t.oc,t.ops,t.idx,none⟩) (v1:=⟨t.op,t.oc,t.ops,t.idx+1,none⟩) dO rf rf rfl eL rP E1p (by decide) rfl) jK) (λ _=>?_);refine aE ?_;refine eD ?_;refine bJ results14 (λ w hw=>?_);exact⟨(x87,x121.1,x121.2,IntKind.i64.wrap (V.jG+1)),rfl,vR h87.1,by simp only[uR,Gc,mcC,xO,MV.fin,List.length_set,List.length_append,List.length_cons,List.length_nil];rw[List.set_set] at hw;exact hw.ret E0a (bM.dB λ f hf=>by simp[hf]) E0d⟩
       ·exact nv c92
end
end
end Go.Proofs.YtdeecdfockjoiaaGreatDoor
namespace Go.Ct
open Go Go.RowKit
section
section
variable{α β:Type}
theorem nW.pre:∀(es r:List α),nW (es++r) (List.replicate es.length 0) es r
 | [],r=>.nil
 | a::es,r=>.cons .head (nW.pre es r)
theorem Bf{f:α->List β}{l:List α}{k:Nat}{t:α}(hk:l[k]?=some t):(l.flatMap f).Perm (f t++(l.eraseIdx k).flatMap f):=by
 obtain⟨h,rfl⟩:=List.getElem?_eq_some_iff.1 hk;have e:l=l.take k++l[k]::l.drop (k+1):=by rw[<- List.drop_eq_getElem_cons h,List.take_append_drop]
 rw[List.eraseIdx_eq_take_drop_succ];conv=>lhs;rw[e]
 rw[List.flatMap_append,List.flatMap_cons,List.flatMap_append,<- List.append_assoc,<- List.append_assoc];exact List.Perm.append_right _ List.perm_append_comm
theorem De{f:α->List β}{l:List α}{k:Nat}{t:α}(hk:l[k]?=some t)(t':α):((l.set k t').flatMap f).Perm (f t'++(l.eraseIdx k).flatMap f):=by have h:=(List.getElem?_eq_some_iff.1 hk).1;have:=Bf (f:=f) (l:=l.set k t') (k:=k) (t:=t') (by rw[List.getElem?_set_self h]);rwa [List.eraseIdx_set_eq] at this
end
theorem Bc{P:Program}{f:FuncId}{vs:Array Value}{X:Type}{V:X->Value}{φ:X->Prop}{w0 w:World}{M:List Nat}{H hs H':List (Nat×Obj)}{A A0 F:Fr}{O os O':List Ow}{hs':X->List (Nat×Obj)}{os':X->List Ow}{Fc:X->Fr}
  (h:SF w0 M H A F O w) (pH:H.Perm (hs++H')) (pO:O.Perm (os++O')) (hA:bV A F O' A0)
  (hc:SF w (Ks hs os) hs A0 [] os w->Calls P f vs w λ e w'=>∃x,e=.returned (V x)/\φ x/\SF w (Ks hs os) (hs' x) [] (Fc x) (os' x) w') :
  Calls P f vs w λ e w'=>∃x,e=.returned (V x)/\φ x/\SF w0 M (hs' x++H') A (Fc x++F) (os' x++O') w':=by
 have h1:=h.perm pH.symm pO.symm;refine(hc (h1.sD (nW.pre hs H') (nW.pre os O') hA)).mono λ e w' ⟨x,e1,hx,hw⟩=>⟨x,e1,hx,?_⟩
 have kperm:∀(a c:List (Nat×Obj)) (b d:List Ow),(Ks (a++c) (b++d)).Perm (Ks a b++Ks c d):=λ a c b d=>by unfold Ks;rw[List.map_append,List.flatMap_append];simp only[List.append_assoc];refine List.Perm.append_left _ ?_;rw[<- List.append_assoc,<- List.append_assoc];exact List.Perm.append_right _ List.perm_append_comm
 have nd0:=(kperm hs H' os O').nodup_iff.1 h1.dis;have disj:∀b∈Ks hs os,b∉Ks H' O':=λ b hb hm=>(List.nodup_append.1 nd0).2.2 b hb b hm rfl
 exact h1.X9 (D:=Ks hs os) (Hm:=[]) (Hc:=hs' x) (H1:=H') (Fc:=Fc x) (Om:=[]) (Oc:=os' x) (O1:=O') hw (λ b hb=>(kperm hs H' os O').mem_iff.2 (List.mem_append_left _ hb))
  (λ p hpm=>.inr ⟨List.mem_append_right _ hpm,λ hm=>disj _ hm (fA.2 (.inl ⟨p,hpm,rfl⟩))⟩)
  (λ o ho=>.inr ⟨List.mem_append_right _ ho,λ b hb hm=>disj _ hm (fA.2 (.inr ⟨o,ho,hb⟩))⟩)
  (List.nodup_append.1 nd0).2.1
end
end Go.Ct

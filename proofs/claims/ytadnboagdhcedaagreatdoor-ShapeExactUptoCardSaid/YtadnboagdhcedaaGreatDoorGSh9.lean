/- The program's shape, part 3: hash values and their ways. -/
import Derived.Test.YtadnboagdhcedaaGreatDoorGHs
import Derived.Test.YtadnboagdhcedaaGreatDoorGEx10
import Derived.Test.YtadnboagdhcedaaGreatDoorGNode2
import Derived.Test.YtadnboagdhcedaaGreatDoorGGa
import Derived.Test.YtadnboagdhcedaaGreatDoorGBits

set_option linter.unusedSimpArgs false
set_option linter.unusedVariables false
namespace Go.Ct
section
theorem kw{lv y:Nat}{u:List Nat}{a b c:Nd}(hy:y<11):(L6 lv u a b c)[1+y]?=some (.int .i64 ((u.getD y 0:Nat):Int)):=by
 unfold L6
 rw[Nat.add_comm 1 y,List.getElem?_cons_succ,List.getElem?_append_left (by rw[nX];exact hy),Rv hy]
end
end Go.Ct
namespace Go.Proofs.YtadnboagdhcedaaGreatDoor
section
open Go Go.RowKit Go.Ct
theorem Yv(key:ByteArray){m:Nat}(hm:m<18446744073709551616)(hk:key.size<=4611686018427387903)(w:World):Calls Tryz.prog 99 #[.string key,.int .u64 (m:Int)] w λ e w'=>e=.returned (.int .u64 ((jW key m:Nat):Int))/\St w [] [] w':=by
 refine enter Tryz.func99 Tryz.ntmps99 rfl rfl (SF.s0 w) ?_;simp only[cP]
 refine cR ?_;refine Kb4 ?_;refine lF ?_;refine Kb8 ?_;refine fK [5,6,9,10,11,12,13,14,15,16,17,18,19,20] (λ y:Nat=>[(9,.int .i64 ((y:Nat):Int)),(5,.int .u64 ((hsN key y:Nat):Int))]) (λ y=>y<=key.size) (λ y=>key.size-y) (0) (Nat.zero_le _) ?_ (λ y f hx=>?_)
 ·repeat (first|exact bC _|refine aY (by exact rfl) ?_)
 refine K2p ?_;refine bA (λ c10=>?_) (λ c10=>?_)
 ·refine mZ ?_;refine J2 ?_;refine vE ?_;refine aB ?_;refine aS (fO (gv (s:=key) (i:=y) rf rf (by kernel_rfl) (by omega))) (λ x15=>?_);refine K2g ?_;refine J1 ?_;refine zT ?_;refine aE (ay rf rf) rfl ?_;refine J1 ?_;refine eX ?_;refine Ka8 ?_;refine dW (y+1) ?_ ?_ ?_
  ·omega
  ·repeat' (first|exact bC _|refine aY ?_ ?_)
   all_goals (exact rfl)
  ·omega
 ·refine bM rfl ?_;refine jJ ?_;refine aE (R8 rf rf (H5 _ _) hm) rfl ?_;refine J1 ?_;refine aR Tryz.results99 (λ w hw=>?_);have hy:y=key.size:=by omega
  subst hy
  exact⟨rfl,hw.done⟩
section
variable{L:List aI}{cs:List Int}{gen:Int}{m:Nat}{pn pc:Option Addr}{cn cc:Nat}{w:World}{D:List Nat}{bk:Nat}
set_option maxRecDepth 100000 in
theorem je(hs:SF w D [(bk,lJ L cs gen m pn cn pc cc)] (yO L cs pn pc) [] [] w){u:List Nat}{a b c:Nd}{h:Nat}{key:ByteArray}(hm:m<18446744073709551616)(hu:u.length<=11)(hh:h<18446744073709551616)(hk:key.size<=64) :
  Calls Tryz.prog 71 #[.pointer (some ⟨bk,0,none⟩),.agg ⟨L6 u.length u a b c⟩,.int .u64 ((h:Nat):Int),.string key] w λ e w'=>∃r:Bool,e=.returned (.bool r)/\(r=true↔uD m ((h:Nat):Int) key u)/\SF w D [(bk,lJ L cs gen m pn cn pc cc)] [] [] [] w':=by
 refine enter Tryz.func71 Tryz.ntmps71 rfl rfl hs ?_;simp only[cP]
 refine J0 ?_;refine bF (λ x5=>?_);refine gX ?_;refine jJ ?_;refine eR ?_;refine J3 ?_;refine aS (cV (hc:=λ w1 hw=>Yv key hm (by omega) w1)) (λ x15=>?_);refine aB ?_;refine Ka7 ?_;refine bA (λ c17=>?_) (λ c17=>?_)
 ·try (exfalso;omega)
  refine cR ?_;refine aR Tryz.results71 (λ w hw=>?_);refine⟨false,rfl,⟨λ h=>(nomatch h),λ hp=>?_⟩,hw.aQ⟩;exact absurd hp.1 (by exact c17)
 ·try (exfalso;omega)
  refine jH ?_;refine gH ?_;refine Kb8 ?_;refine fK [8,9,20,21,22,23,24,25,26,27,28,29,30,31] (λ y:Nat=>[(20,.int .i64 ((y:Nat):Int))]) (λ y=>y<=u.length/\∀k,k<y->sl h k=u.getD k 0) (λ y=>u.length-y) (0) (⟨Nat.zero_le _,λ k hk=>absurd hk (Nat.not_lt_zero k)⟩) ?_ (λ y f hx=>?_)
  ·repeat (first|exact bC _|refine aY (by exact rfl) ?_)
  refine K2p ?_;refine bA (λ c21=>?_) (λ c21=>?_)
  ·try (exfalso;omega)
   refine mZ ?_;refine J2 ?_;refine gX ?_;refine dZ [(0,[]),(1,[]),(3,[]),(4,[]),(5,[]),(6,[]),(2,[5,6]),(7,[])] ?_;refine iJ ?_;refine aL ?_;refine aN ?_;refine bJ (i:=5) (hq:=(V5 (e:=3) (n:=11) (k:=y) (b:=x5) (o:=1) rf rf (by kernel_rfl) (by kernel_rfl) (by omega))) (h:=?_);refine bJ (i:=6) (hq:=(qSF (Ug (off:=1+y) rf dI dC (kw (by omega))))) (h:=?_);refine cA (i:=2) (hq:=(cV (hc:=λ w1 hw=>Jy (l:=y) hh (by omega) w1))) (hfire:=(λ _=>by((repeat (first|exact aG.nil|refine aG.cons (by first|exact cG (hq:=V5 (e:=3) (n:=11) (k:=y) (b:=x5) (o:=1) rf rf (by kernel_rfl) (by kernel_rfl) (by omega))|exact cG (hq:=qSF (Ug (off:=1+y) rf dI dC (kw (by omega))))) ?_));done))) (h:=λ x25=>?_);refine qS ?_;refine dJ ?_;refine bA (λ c30=>?_) (λ c30=>?_)
   ·try (exfalso;omega)
    refine cR ?_;refine aR Tryz.results71 (λ w hw=>?_);refine⟨false,rfl,⟨λ h=>(nomatch h),λ hp=>?_⟩,hw.aQ⟩;have h1:=hp.2 y (by omega);rw[Int.toNat_natCast] at h1;exfalso;omega
   ·try (exfalso;omega)
    refine Kc9 ?_;refine dW (y+1) ?_ ?_ ?_
    ·omega
    ·repeat' (first|exact bC _|refine aY ?_ ?_)
     exact rfl
    ·exact⟨by omega,λ k hk=>by
     by_cases e:k=y
     ·subst e;omega
     ·exact hx.2 k (by omega)⟩
  ·try (exfalso;omega)
   refine K0z ?_;refine aR Tryz.results71 (λ w hw=>?_);refine⟨true,rfl,⟨λ _=>⟨by first|omega|exact Classical.not_not.1 c17,λ k hk=>?_⟩,λ _=>rfl⟩,hw.aQ⟩;rw[Int.toNat_natCast];exact hx.2 k (by omega)
end
end

/- The program's shape, part 4: the branches of a C-node. -/
section
open Go Go.RowKit Go.Ct
section
variable{L:List aI}{cs:List Int}{gen:Int}{m:Nat}{pn pc:Option Addr}{cn cc:Nat}{w:World}{D:List Nat}{bk:Nat}
theorem M7{V:aI}(hV:V∈L):(V.nd.brA,aH V.xs)∈yO L cs pn pc:=List.mem_cons_of_mem _ (List.mem_cons_of_mem _ (List.mem_cons_of_mem _ (gK.2 ⟨V,hV,by simp[aI.fr]⟩)))
theorem aAa{V:aI}(hV:V∈L):(V.nd.prA,dK V.ys)∈yO L cs pn pc:=List.mem_cons_of_mem _ (List.mem_cons_of_mem _ (List.mem_cons_of_mem _ (gK.2 ⟨V,hV,by simp[aI.fr]⟩)))
def C9(L:List aI)(V:aI)(lv:Nat):Prop:=V.nd.kind=3->0<lv->V.xs≠[]/\∀b,V.xs=[b]->(aA L b).nd.kind=2
set_option maxRecDepth 100000 in
theorem zq(hs:SF w D [(bk,lJ L cs gen m pn cn pc cc)] (yO L cs pn pc) [] [] w){lv:Nat}{u:List Nat}{a c:Nd}{V:aI}(hV:V∈L)(hf:V.Fit)(hx:∀x∈V.xs,1<=x/\x<=L.length)(hl:L.length<=274877906944) :
    Calls Tryz.prog 55 #[.pointer (some ⟨bk,0,none⟩),.agg ⟨L6 lv u a V.nd c⟩] w λ e w'=>∃r:Bool,e=.returned (.bool r)/\(r=true↔C9 L V lv)/\SF w D [(bk,lJ L cs gen m pn cn pc cc)] [] [] [] w':=by
  have hn:=hf.brN;have hmem:=M7 (cs:=cs) (pn:=pn) (pc:=pc) hV;refine enter Tryz.func55 Tryz.ntmps55 rfl rfl hs ?_;simp only[cP]
  refine K1r ?_;intro x3;refine gX ?_;refine J0 ?_;refine Kc5 ?_;refine iM ?_;refine aB ?_;(refine eM 9 (λ g9=>?_) (λ g9=>?_)<;>refine Ka1 ?_);all_goals (refine pu ?_;refine aK ?_)
  all_goals
   refine bA (λ c13=>?_) (λ c13=>?_)
   · all_goals try (exfalso;omega)
     all_goals refine cR ?_
     all_goals
      refine aR Tryz.results55 (λ w hw=>?_);refine⟨true,rfl,⟨λ _ h3 h0=>?_,λ _=>rfl⟩,hw.aQ⟩;exfalso;simp_all
      done
   · try exact nv c13
     all_goals (refine jH ?_;refine J0 ?_;refine aC ?_;refine I3 ?_;refine Kd4 ?_)
     all_goals
      refine bA (λ c18=>?_) (λ c18=>?_)
      · try (exfalso;omega)
        refine cR ?_;refine aR Tryz.results55 (λ w hw=>?_);refine⟨false,rfl,⟨λ h=>(nomatch h),λ hp=>?_⟩,hw.aQ⟩;exact absurd (List.eq_nil_of_length_eq_zero (show V.xs.length=0 by omega)) (hp (by simp_all) (by simp_all;omega)).1
      · try (exfalso;omega)
        refine jM ?_;refine bA (λ c20=>?_) (λ c20=>?_)
        · try (exfalso;omega)
          obtain⟨k,hk,hkl⟩:∃k:Nat,V.xs.getD 0 0=((k+1:Nat):Int)/\k<L.length:=by
           have:=hx (V.xs.getD 0 0) (by rw[gF,List.getElem?_eq_getElem (show 0<V.xs.length by omega)];exact List.getElem_mem _);exact⟨(V.xs.getD 0 0-1).toNat,by omega,by omega⟩
          refine J2 ?_;refine Kc5 ?_;refine aE (bE (lst:=V.xs) (k:=0) rf rf eC wn (.bO (nP.eI hmem)) (by omega) (by omega)) rfl ?_;refine aE (bP (lst:=V.xs) (q:=0) rf wn (.bO (nP.eI hmem)) (by omega)) rfl ?_;refine aD (cM (V:=λ _:Unit=>(aA L ((k+1:Nat):Int)).nd.v) (hs:=[(bk,lJ L cs gen m pn cn pc cc)]) (os:=[]) (hs':=λ _=>[(bk,lJ L cs gen m pn cn pc cc)]) (os':=λ _=>[]) (Fc:=λ _=>[]) (A0:=yO L cs pn pc) (hA:=bU.of λ f hf=>.inr (.inl hf)) (hc:=λ w1 hw=>by rw[hk];exact lI hw hkl hl)) (λ x28 h28=>?_);refine cJ ?_;refine Oa ?_;refine aR Tryz.results55 (λ w hw=>?_);refine⟨_,rfl,⟨λ h _ _=>?_,λ hp=>?_⟩,hw.aQ⟩
          · obtain⟨x,hx1⟩:=List.length_eq_one_iff.1 (show V.xs.length=1 by omega)
            refine⟨by rw[hx1];simp,λ b hb=>?_⟩;rw[hb] at hk;have hk':b=((k+1:Nat):Int):=hk;rw[hk'];simpa using h
          · obtain⟨x,hx1⟩:=List.length_eq_one_iff.1 (show V.xs.length=1 by omega)
            have h2:=(hp (by simp_all) (by simp_all;omega)).2 x hx1;rw[hx1] at hk;have hk':x=((k+1:Nat):Int):=hk;rw[hk'] at h2;simpa using h2
        · try (exfalso;omega)
          refine Kb6 ?_;refine aR Tryz.results55 (λ w hw=>?_);refine⟨true,rfl,⟨λ _ _ _=>⟨λ h=>?_,λ b hb=>?_⟩,λ _=>rfl⟩,hw.aQ⟩
          · rw[h] at hn;exfalso;simp at hn;omega
          · rw[hb] at hn;exfalso;simp at hn;omega
end
end

/- The program's shape, part 5: the hash values of a main node and of its singles. -/
section
open Go Go.RowKit Go.Ct
structure tM(L:List aI):Prop where
 fit:Fits L
 len:L.length<=274877906944
 hash:∀v∈L,∃h:Nat,v.nd.hash=(h:Int)/\h<18446744073709551616
 bm:∀v∈L,∃b:Nat,v.nd.bm=(b:Int)/\b<18446744073709551616/\(v.nd.kind=3->v.xs.length=gB b 64)/\(v.nd.kind≠3->b=0)
 key:∀v∈L,v.nd.kind=4∨v.nd.kind=5->v.nd.key.size<=64
 ys:∀v∈L,∀p∈v.ys,p.1.size<=64
 br:∀v∈L,∀x∈v.xs,1<=x/\x<=L.length
 no:∀v∈L,v.nd.kind≠3->v.xs=[]
theorem tM.at{L:List aI}(ok:tM L){V:aI}(hV:V∈L){j:Nat}(hj:j<V.xs.length):∃k:Nat,V.xs.getD j 0=((k+1:Nat):Int)/\k<L.length/\aA L ((k+1:Nat):Int)∈L:=by
 have:=ok.br V hV (V.xs.getD j 0) (by rw[gF,List.getElem?_eq_getElem hj];exact List.getElem_mem _);refine⟨(V.xs.getD j 0-1).toNat,by omega,by omega,?_⟩;rw[fG (by omega)];exact eE (by omega)
structure pHs(L:List aI)(m:Nat)(V:aI)(u:List Nat):Prop where
 h5:V.nd.kind=5->uD m V.nd.hash V.nd.key u
 h6:V.nd.kind=6->∀p∈V.ys,uD m V.nd.hash p.1 u
 h3:V.nd.kind=3->∀j,j<V.xs.length->(aA L (V.xs.getD j 0)).nd.kind=4->uD m (aA L (V.xs.getD j 0)).nd.hash (aA L (V.xs.getD j 0)).nd.key u/\sl (aA L (V.xs.getD j 0)).nd.hash.toNat u.length=((fZ V.nd.bm.toNat 64).getD j 0).toNat
theorem Ds{P:Nat->Prop}{y:Nat}(h:∀j,j<y->P j)(hy:P y):∀j,j<y+1->P j:=λ j hj=>by
 by_cases e:j=y
 ·rw[e];exact hy
 ·exact h j (by omega)
theorem Ex{l:List Pr}{k:Nat}(h:k<l.length):l.getD k (⟨#[]⟩,0)∈l:=by
 rw[gF,List.getElem?_eq_getElem h];exact List.getElem_mem h
section
variable{L:List aI}{cs:List Int}{gen:Int}{m:Nat}{pn pc:Option Addr}{cn cc:Nat}{w:World}{D:List Nat}{bk:Nat}
theorem F8(hs:SF w D [(bk,lJ L cs gen m pn cn pc cc)] (yO L cs pn pc) [] [] w){u:List Nat}{a b c:Nd}{h:Nat}{hv:Int}{key:ByteArray}(e:hv=((h:Nat):Int))(hm:m<18446744073709551616)(hu:u.length<=11)(hh:h<18446744073709551616)(hk:key.size<=64) :
  Calls Tryz.prog 71 #[.pointer (some ⟨bk,0,none⟩),.agg ⟨L6 u.length u a b c⟩,.int .u64 hv,.string key] w λ e w'=>∃r:Bool,e=.returned (.bool r)/\(r=true↔uD m hv key u)/\SF w D [(bk,lJ L cs gen m pn cn pc cc)] [] [] [] w':=by
 subst e
 exact je hs hm hu hh hk
set_option maxRecDepth 100000 in
set_option maxHeartbeats 1000000 in
theorem aAX(hs:SF w D [(bk,lJ L cs gen m pn cn pc cc)] (yO L cs pn pc) [] [] w)(ok:tM L){u:List Nat}{a c:Nd}{V:aI}(hV:V∈L)(hM:V.nd.kind=3∨V.nd.kind=5∨V.nd.kind=6)(hm:m<18446744073709551616)(hu:u.length<=11)(hu3:V.nd.kind=3->u.length<=10) :
  Calls Tryz.prog 56 #[.pointer (some ⟨bk,0,none⟩),.agg ⟨L6 u.length u a V.nd c⟩] w λ e w'=>∃r:Bool,e=.returned (.bool r)/\(r=true↔pHs L m V u)/\SF w D [(bk,lJ L cs gen m pn cn pc cc)] [] [] [] w':=by
 have hf:=ok.fit V hV;have hn:=hf.brN;have hpn:=hf.prN;have hps:=hf.prS;have hl:=ok.len;obtain⟨h,hh,hhl⟩:=ok.hash V hV
 obtain⟨bt,hbt,hbl,hb3,hb0⟩:=ok.bm V hV
 have hmem:=M7 (cs:=cs) (pn:=pn) (pc:=pc) hV;have hmep:=aAa (cs:=cs) (pn:=pn) (pc:=pc) hV;have hil:=pN bt 64;obtain⟨ix,hix⟩:∃ix,ix=fZ bt 64:=⟨_,rfl⟩
 rw[<- hix] at hil;have hcl:=oY bt 64;refine enter Tryz.func56 Tryz.ntmps56 rfl rfl hs ?_;simp only[cP]
 refine K1r ?_;intro x3;refine gX ?_;refine J0 ?_;refine Kc5 ?_;refine Kd4 ?_;refine bA (λ c13=>?_) (λ c13=>?_)
 ·try (first|contradiction|(exfalso;omega))
  refine Kd2 ?_;refine Kc5 ?_;refine Kc5 ?_;refine aD (cM (V:=.bool) (hs:=[(bk,lJ L cs gen m pn cn pc cc)]) (os:=[]) (hs':=λ _=>[(bk,lJ L cs gen m pn cn pc cc)]) (os':=λ _=>[]) (Fc:=λ _=>[]) (A0:=yO L cs pn pc) (hA:=bU.of λ f hf=>.inr (.inl hf)) (hc:=λ w1 hw=>F8 hw hh hm hu hhl (ok.key V hV (.inr c13)))) (λ x23 h23=>?_);refine J1 ?_;refine aR Tryz.results56 (λ w hw=>?_);exact⟨x23,rfl,⟨λ e=>⟨λ _=>h23.1 e,λ h6=>absurd h6 (by omega),λ h3=>absurd h3 (by omega)⟩,λ e=>h23.2 (e.h5 c13)⟩,hw.aQ⟩
 ·try (first|contradiction|(exfalso;omega))
  refine jM ?_;refine bA (λ c24=>?_) (λ c24=>?_)
  ·try (first|contradiction|(exfalso;omega))
   refine aV ?_;refine J0 ?_;refine aC ?_;refine I3 ?_;refine Kb8 ?_;refine fK [4,6,30,31,32,33,34,35,36,37,38,39,40,41,42,43] (λ y:Nat=>[(30,.int .i64 ((y:Nat):Int))]) (λ y=>y<=V.ys.length/\∀j,j<y->uD m V.nd.hash (V.ys.getD j (⟨#[]⟩,0)).1 u) (λ y=>V.ys.length-y) (0) (⟨Nat.zero_le _,λ k hk=>absurd hk (Nat.not_lt_zero k)⟩) ?_ (λ y f hx=>?_)
   ·repeat (first|exact bC _|refine aY (by exact rfl) ?_)
   refine K2p ?_;refine bA (λ c31=>?_) (λ c31=>?_)
   ·try (first|contradiction|(exfalso;omega))
    refine Ke1 ?_;refine aE (wD (lst:=V.ys) (k:=y) rf rf eC dR (.bO (nP.eI hmep)) (by omega) (by omega)) rfl ?_;refine aE (Vn (lst:=V.ys) (q:=y) rf dR (.bO (nP.eI hmep)) (by omega)) rfl ?_;refine aT (λ x6=>?_);refine J5 ?_;refine Kd2 ?_;refine Kc5 ?_;refine J3 ?_;refine aD (cM (V:=.bool) (hs:=[(bk,lJ L cs gen m pn cn pc cc)]) (os:=[]) (hs':=λ _=>[(bk,lJ L cs gen m pn cn pc cc)]) (os':=λ _=>[]) (Fc:=λ _=>[]) (A0:=yO L cs pn pc) (hA:=bU.of λ f hf=>.inr (.inl hf)) (hc:=λ w1 hw=>F8 hw hh hm hu hhl (ok.ys V hV _ (Ex (by omega))))) (λ x41 h41=>?_);refine lA ?_;refine bA (λ c42=>?_) (λ c42=>?_)
    ·try (first|contradiction|(exfalso;omega))
     refine cR ?_;refine aR Tryz.results56 (λ w hw=>?_);refine⟨false,rfl,⟨λ h=>(nomatch h),λ hp=>?_⟩,hw.aQ⟩;have:=h41.2 (hp.h6 c24 _ (Ex (by omega)));simp_all
    ·try (first|contradiction|(exfalso;omega))
     refine Kc9 ?_;refine dW (y+1) ?_ ?_ ?_
     ·omega
     ·repeat' (first|exact bC _|refine aY ?_ ?_)
      exact rfl
     ·exact⟨by omega,Ds hx.2 (h41.1 (by(simpa using c42;done)))⟩
   ·try (first|contradiction|(exfalso;omega))
    refine K0z ?_;refine aR Tryz.results56 (λ w hw=>?_);refine⟨true,rfl,⟨λ _=>⟨λ h5=>absurd h5 (by omega),λ _ p hp=>?_,λ h3=>absurd h3 (by omega)⟩,λ _=>rfl⟩,hw.aQ⟩;obtain⟨j,hj,rfl⟩:=List.mem_iff_getElem.1 hp
    have:=hx.2 j (by omega);rwa [gF,List.getElem?_eq_getElem hj] at this
  ·try (first|contradiction|(exfalso;omega))
   have hk3:V.nd.kind=3:=by omega
   have hxl:=hb3 hk3;refine kN ?_;refine aV ?_;refine J0 ?_;refine Kc5 ?_;refine aD (cF (hc:=λ w1 hw=>by rw[hbt];have:=Dy hbl (hw.cl (.bO (.tail (.tail .head))));rw[<- hix] at this;exact this)) (λ x47 h47=>?_);refine Kc6 ?_;refine kK [4,7,8,9,49,50,51,52,53,54,55,56,57,58,59,60,61,62,63,64,65,66,67,68,69,70,71,72,73,74,75,76,77,78,79,80,81,82] (λ y:Nat=>[(49,.int .i64 ((y:Nat):Int))]) (λ y=>y<=ix.length/\∀j,j<y->(aA L (V.xs.getD j 0)).nd.kind=4->uD m (aA L (V.xs.getD j 0)).nd.hash (aA L (V.xs.getD j 0)).nd.key u/\sl (aA L (V.xs.getD j 0)).nd.hash.toNat u.length=(ix.getD j 0).toNat) (λ _=>_) (λ _=>[(x47.1,aH ix)]) (λ _=>_) (λ y=>ix.length-y) (0) (⟨Nat.zero_le _,λ k hk=>absurd hk (Nat.not_lt_zero k)⟩) (λ y f hx=>?_) (hw0:=λ w hw=>hw);refine K2p ?_;refine bA (λ c50=>?_) (λ c50=>?_)
   ·try (first|contradiction|(exfalso;omega))
    have hyl:y<V.xs.length:=by omega
    obtain⟨k,hk,hkl,hkm⟩:=ok.at hV (j:=y) hyl
    obtain⟨h2,hh2,hh2l⟩:=ok.hash _ hkm
    have hixy:0<=ix.getD y 0:=by rw[hix];exact xG _ _ _
    refine K0s ?_;refine aD (cM (V:=λ _:Unit=>(aA L ((k+1:Nat):Int)).nd.v) (hs:=[(bk,lJ L cs gen m pn cn pc cc)]) (os:=[]) (hs':=λ _=>[(bk,lJ L cs gen m pn cn pc cc)]) (os':=λ _=>[]) (Fc:=λ _=>[]) (A0:=yO L cs pn pc) (hA:=bU.of λ f hf=>.inr (.inl hf)) (hc:=λ w1 hw=>by rw[hk];exact lI hw hkl hl)) (λ x61 h61=>?_);refine aT (λ x9=>?_);refine Ke6 ?_;refine Ka7 ?_;refine bA (λ c64=>?_) (λ c64=>?_)
    ·try (first|contradiction|(exfalso;omega))
     refine bM rfl ?_;refine Ka8 ?_;refine K2b ?_
     ·exact⟨by omega,Ds hx.2 (λ h4=>by rw[hk] at h4 ⊢;exact absurd h4 c64)⟩
    ·try (first|contradiction|(exfalso;omega))
     refine Kb3 ?_;refine bI ?_;refine Kd3 ?_;refine aD (cM (V:=.bool) (hs:=[(bk,lJ L cs gen m pn cn pc cc)]) (os:=[]) (hs':=λ _=>[(bk,lJ L cs gen m pn cn pc cc)]) (os':=λ _=>[]) (Fc:=λ _=>[]) (A0:=yO L cs pn pc) (hA:=bU.of λ f hf=>.inr (.inl hf)) (hc:=λ w1 hw=>F8 hw hh2 hm hu hh2l (ok.key _ hkm (.inl (by exact c64))))) (λ x71 h71=>?_);refine C6 ?_;(refine eM 73 (λ g73=>?_) (λ g73=>?_)<;>refine Ka1 ?_);all_goals (refine Ao ?_;(first|refine aJ ?_|(refine aF ?_;refine aS (cV (v:=.int .i64 ((sl h2 u.length:Nat):Int)) (hc:=λ w1 hw=>by rw[hh2];exact Jy hh2l (hu3 hk3) w1)) (λ x78=>?_)));refine Ka0 ?_;refine Rq ?_;refine aK ?_)
     all_goals
     refine bA (λ c81=>?_) (λ c81=>?_)
     ·all_goals try (first|contradiction|(exfalso;omega))
      all_goals refine cR ?_
      all_goals
       refine aR Tryz.results56 (λ w hw=>?_);refine⟨false,rfl,⟨λ h=>(nomatch h),λ hp=>?_⟩,hw.aQ⟩;have h9:=hp.h3 hk3 y hyl;rw[hk,show V.nd.bm.toNat=bt by omega,<- hix] at h9;have h10:=h9 (by exact c64);have h11:=h71.2 h10.1;have h12:=h10.2;rw[hh2,Int.toNat_natCast] at h12;exfalso;first
       | (simp_all;done)
       | omega
     ·try exact nv c81
      all_goals (refine Kc9 ?_)
      all_goals
       refine K2b ?_
       ·exact⟨by omega,Ds hx.2 (λ h4=>by rw[hk] at h4 ⊢;(exact⟨h71.1 (by(simpa using g73;done)),by rw[hh2,Int.toNat_natCast];omega⟩))⟩
   ·try (first|contradiction|(exfalso;omega))
    refine K0z ?_;refine aR Tryz.results56 (λ w hw=>?_);refine⟨true,rfl,⟨λ _=>⟨λ h5=>absurd h5 (by omega),λ h6=>absurd h6 (by omega),λ _ j hj h4=>?_⟩,λ _=>rfl⟩,hw.aQ⟩;rw[show V.nd.bm.toNat=bt by omega,<- hix];exact hx.2 j (by omega) h4
end
end

/- The reference of shape, part 1: hash values and their ways. -/
section
open Go Go.RowKit Go.Ct
theorem aB6{h y:Nat}(hy:y<=10):iE h ((y:Nat):Int)=((sl h y:Nat):Int):=by
 unfold iE
 rw[if_neg (by omega),Int.toNat_natCast]
theorem ou{u:List Nat}{y:Nat}(h:y<u.length):(nA u).getD y 0=((u.getD y 0:Nat):Int):=by
 simp[nA,gF,h]
theorem xK(u:List Nat):(nA u).length=u.length:=by simp[nA]
section
variable{a:Option Addr}{c h m:Nat}{w:World}
set_option maxRecDepth 100000 in
theorem ji{u:List Nat}(hh:h<18446744073709551616)(ha:Go.Ct.Cl w a (aH (nA u)))(hu:u.length<=11):Calls Tryz.prog 62 #[.int .u64 ((h:Nat):Int),.slice a u.length c] w λ e w'=>∃q:Bool,e=.returned (.bool q)/\(q=true↔fQ h u)/\St w [] [] w':=by
 refine enter Tryz.func62 Tryz.ntmps62 rfl rfl (SF.s1 ha) ?_;simp only[cP]
 refine Ke3 ?_;refine fK [4,5,6,7,8,9,10,11,12,13,14,15,16,17,18,19] (λ y:Nat=>[(5,.int .i64 ((y:Nat):Int))]) (λ y=>y<=u.length/\∀k,k<y->sl h k=u.getD k 0) (λ y=>u.length-y) (0) (⟨Nat.zero_le _,λ k hk=>absurd hk (Nat.not_lt_zero k)⟩) ?_ (λ y f hx=>?_)
 ·repeat (first|exact bC _|refine aY (by exact rfl) ?_)
 refine K0a ?_;refine Kd7 ?_;refine bA (λ c9=>?_) (λ c9=>?_)
 ·try (exfalso;omega)
  refine mZ ?_;refine aV ?_;refine dZ [(0,[]),(1,[]),(3,[]),(4,[]),(5,[]),(6,[]),(2,[5,6]),(7,[])] ?_;refine iJ ?_;refine iJ ?_;refine bJ (i:=5) (hq:=(bE (lst:=nA u) (k:=y) rf rf eC wn (.bO .head) (by omega) (by rw[xK];omega))) (h:=?_);refine bJ (i:=6) (hq:=(bP (lst:=nA u) (q:=y) rf wn (.bO .head) (by rw[xK];omega))) (h:=?_);refine cA (i:=2) (hq:=(cV (hc:=λ w1 hw=>fF hh ((y:Nat):Int) w1))) (hfire:=(λ _=>by((repeat (first|exact aG.nil|refine aG.cons (by first|exact cG (hq:=bE (lst:=nA u) (k:=y) rf rf eC wn (.bO .head) (by omega) (by rw[xK];omega))|exact cG (hq:=bP (lst:=nA u) (q:=y) rf wn (.bO .head) (by rw[xK];omega))) ?_));done))) (h:=λ x14=>?_);have e1:=aB6 (h:=h) (y:=y) (by omega);have e2:=ou (u:=u) (y:=y) (by omega);refine qS ?_;refine dJ ?_;refine bA (λ c19=>?_) (λ c19=>?_)
  ·try (exfalso;omega)
   refine cR ?_;refine aR Tryz.results62 (λ w hw=>?_);refine⟨false,rfl,⟨λ h=>(nomatch h),λ hp=>?_⟩,hw.done⟩;have h1:=hp y (by omega);exfalso;omega
  ·try (exfalso;omega)
   refine Kc1 ?_;refine dW (y+1) ?_ ?_ ?_
   ·omega
   ·repeat' (first|exact bC _|refine aY ?_ ?_)
    exact rfl
   ·exact⟨by omega,λ k hk=>by
    by_cases e:k=y
    ·subst e;omega
    ·exact hx.2 k (by omega)⟩
 ·try (exfalso;omega)
  refine K0z ?_;refine aR Tryz.results62 (λ w hw=>?_);exact⟨true,rfl,⟨λ _ k hk=>hx.2 k (by omega),λ _=>rfl⟩,hw.done⟩
set_option maxRecDepth 100000 in
theorem Xv{hv:Int}{ys:List Pr}(ha:Go.Ct.Cl w a (dK ys))(hl:ys.length<=11728124029610)(hm:m<18446744073709551616)(hk:∀p∈ys,p.1.size<=64):Calls Tryz.prog 64 #[.int .u64 hv,.int .u64 ((m:Nat):Int),.slice a ys.length c] w λ e w'=>∃q:Bool,e=.returned (.bool q)/\(q=true↔∀p∈ys,((jW p.1 m:Nat):Int)=hv)/\St w [] [] w':=by
 refine enter Tryz.func64 Tryz.ntmps64 rfl rfl (SF.s1 ha) ?_;simp only[cP]
 refine Ke3 ?_;refine fK [6,7,8,9,10,11,12,13,14,15,16,17,18,19,20,21,22] (λ y:Nat=>[(7,.int .i64 ((y:Nat):Int))]) (λ y=>y<=ys.length/\∀k,k<y->((jW (ys.getD k (⟨#[]⟩,0)).1 m:Nat):Int)=hv) (λ y=>ys.length-y) (0) (⟨Nat.zero_le _,λ k hk=>absurd hk (Nat.not_lt_zero k)⟩) ?_ (λ y f hx=>?_)
 ·repeat (first|exact bC _|refine aY (by exact rfl) ?_)
 refine K0a ?_;refine Kd7 ?_;refine bA (λ c11=>?_) (λ c11=>?_)
 ·try (exfalso;omega)
  refine mZ ?_;refine jJ ?_;refine aE (wD (lst:=ys) (k:=y) rf rf eC dR (.bO .head) (by omega) (by omega)) rfl ?_;refine aC ?_;refine aE (Ph (lst:=ys) (q:=y) rf dC (.bO .head) (by omega)) rfl ?_;refine aB ?_;refine aS (cV (hc:=λ w1 hw=>pM (ys.getD y (⟨#[]⟩,0)).1 hm (by have:=hk _ (Ex (l:=ys) (k:=y) (by omega));omega) w1)) (λ x20=>?_);refine aB ?_;refine Ka7 ?_;refine bA (λ c22=>?_) (λ c22=>?_)
  ·try (exfalso;omega)
   refine cR ?_;refine aR Tryz.results64 (λ w hw=>?_);refine⟨false,rfl,⟨λ h=>(nomatch h),λ hp=>?_⟩,hw.done⟩;have h1:=hp _ (Ex (l:=ys) (k:=y) (by omega));exfalso;omega
  ·try (exfalso;omega)
   refine Kc1 ?_;refine dW (y+1) ?_ ?_ ?_
   ·omega
   ·repeat' (first|exact bC _|refine aY ?_ ?_)
    exact rfl
   ·exact⟨by omega,λ k hk=>by
    by_cases e:k=y
    ·subst e;omega
    ·exact hx.2 k (by omega)⟩
 ·try (exfalso;omega)
  refine K0z ?_;refine aR Tryz.results64 (λ w hw=>?_);refine⟨true,rfl,⟨λ _ p hp=>?_,λ _=>rfl⟩,hw.done⟩;obtain⟨j,hj,rfl⟩:=List.mem_iff_getElem.1 hp
  have:=hx.2 j (by omega);rwa [gF,List.getElem?_eq_getElem hj] at this
end
end

/- The reference of views: a node, a cell, the root, the main node of an I-node. -/
section
open Go Go.RowKit Go.Ct
section
variable{L:List aI}{cs:List Int}{gen:Int}{pn pc:Option Addr}{cn cc:Nat}{w:World}
theorem xm(h:eP w L cs pn pc)(r:Int)(hr:r<1):Calls Tryz.prog 46 #[iF L cs gen pn cn pc cc,.int .i64 r] w λ e w'=>e=.returned (aA L r).nd.v/\St w [] [] w':=by
 refine enter Tryz.func46 Tryz.ntmps46 rfl rfl h.start ?_;simp only[cP]
 refine K0u ?_;intro x2;refine K2a ?_;intro x4;(refine eM 7 (λ g7=>?_) (λ g7=>?_)<;>(try (exfalso;omega))<;>(refine aJ ?_));refine Ke8 ?_;refine bA (λ c13=>?_) (λ c13=>?_)
 ·try (exfalso;omega)
  refine Ke0 ?_;refine bK Tryz.results46 (λ w hw=>?_);exact⟨by rw[rV (by omega)];rfl,hw.done⟩
 ·exact nv c13
theorem y9(h:eP w L cs pn pc){k:Nat}(hk:(k:Int)<9223372036854775807)(hl:L.length<=274877906944):Calls Tryz.prog 46 #[iF L cs gen pn cn pc cc,.int .i64 ((k+1:Nat):Int)] w λ e w'=>e=.returned (aA L ((k+1:Nat):Int)).nd.v/\St w [] [] w':=by
 refine enter Tryz.func46 Tryz.ntmps46 rfl rfl h.start ?_;simp only[cP]
 refine K0u ?_;intro x2;refine K2a ?_;intro x4;(refine Ka4 ?_);refine Ke8 ?_;refine bA (λ c13=>?_) (λ c13=>?_)
 ·try (exfalso;omega)
  refine Ke0 ?_;refine bK Tryz.results46 (λ w hw=>?_);(exact⟨by rw[rV (by omega)];rfl,hw.done⟩)
 ·try (exfalso;omega)
  refine bB ?_;refine Ka9 ?_;refine oQ ?_;refine Pb ?_;refine J5 ?_;refine bK Tryz.results46 (λ w hw=>?_);(exact⟨by rw[fG (by omega)];rfl,hw.done⟩)
theorem jR(h:eP w L cs pn pc)(r:Int)(hr:r<=9223372036854775807)(hl:L.length<=274877906944):Calls Tryz.prog 46 #[iF L cs gen pn cn pc cc,.int .i64 r] w λ e w'=>e=.returned (aA L r).nd.v/\St w [] [] w':=by
 rcases Int.lt_or_le r 1 with h1|h1
 ·exact xm h r h1
 ·obtain⟨k,rfl⟩:∃k:Nat,r=((k+1:Nat):Int):=⟨(r-1).toNat,by omega⟩
  exact y9 h (by omega) hl
theorem dz(h:eP w L cs pn pc)(r:Int)(hr:r<1):Calls Tryz.prog 45 #[iF L cs gen pn cn pc cc,.int .i64 r] w λ e w'=>e=.returned (.int .i64 (bV cs r))/\St w [] [] w':=by
 refine enter Tryz.func45 Tryz.ntmps45 rfl rfl h.start ?_;simp only[cP]
 refine K0u ?_;intro x2;refine Ke4 ?_;refine zB ?_;(refine eM 7 (λ g7=>?_) (λ g7=>?_)<;>(try (exfalso;omega))<;>(refine aJ ?_));refine Ke8 ?_;refine bA (λ c13=>?_) (λ c13=>?_)
 ·try (exfalso;omega)
  refine cR ?_;refine aR Tryz.results45 (λ w hw=>?_);exact⟨by rw[sB (by omega)];rfl,hw.done⟩
 ·exact nv c13
theorem lz(h:eP w L cs pn pc){k:Nat}(hk:(k:Int)<9223372036854775807)(hl:cs.length<=274877906944):Calls Tryz.prog 45 #[iF L cs gen pn cn pc cc,.int .i64 ((k+1:Nat):Int)] w λ e w'=>e=.returned (.int .i64 (bV cs ((k+1:Nat):Int)))/\St w [] [] w':=by
 refine enter Tryz.func45 Tryz.ntmps45 rfl rfl h.start ?_;simp only[cP]
 refine K0u ?_;intro x2;refine Ke4 ?_;refine zB ?_;(refine Ka4 ?_);refine Ke8 ?_;refine bA (λ c13=>?_) (λ c13=>?_)
 ·try (exfalso;omega)
  refine cR ?_;refine aR Tryz.results45 (λ w hw=>?_);(exact⟨by rw[sB (by omega)];rfl,hw.done⟩)
 ·try (exfalso;omega)
  refine bB ?_;refine Ka9 ?_;refine oQ ?_;refine Pb ?_;refine J1 ?_;refine aR Tryz.results45 (λ w hw=>?_);(exact⟨by rw[rX (by omega)];rfl,hw.done⟩)
theorem tB(h:eP w L cs pn pc)(r:Int)(hr:r<=9223372036854775807)(hl:cs.length<=274877906944):Calls Tryz.prog 45 #[iF L cs gen pn cn pc cc,.int .i64 r] w λ e w'=>e=.returned (.int .i64 (bV cs r))/\St w [] [] w':=by
 rcases Int.lt_or_le r 1 with h1|h1
 ·exact dz h r h1
 ·obtain⟨k,rfl⟩:∃k:Nat,r=((k+1:Nat):Int):=⟨(r-1).toNat,by omega⟩
  exact lz h (by omega) hl
theorem Wh(h:eP w L cs pn pc)(hb:mj L cs)(hl:L.length<=274877906944)(hc:cs.length<=274877906944)(i:Int)(hi:i<=9223372036854775807):Calls Tryz.prog 77 #[iF L cs gen pn cn pc cc,.int .i64 i] w λ e w'=>e=.returned (.tuple #[.int .i64 ((dB (L.map aI.c) cs i).getD 0),.bool (dB (L.map aI.c) cs i).isSome])/\St w [] [] w':=by
 refine enter Tryz.func77 Tryz.ntmps77 rfl rfl h.start ?_;simp only[cP]
 simp only[iF]
 refine K0u ?_;intro x2;refine Kd6 ?_;refine vP ?_;refine aS (cV (hc:=λ w1 hw=>jR (h.lB hw) i hi hl)) (λ x10=>?_);refine cJ ?_;refine Ka7 ?_;refine bA (λ c12=>?_) (λ c12=>?_)
 ·refine Aw ?_;refine bK Tryz.results77 (λ w hw=>?_);refine⟨?_,hw.done⟩;unfold dB jU hX kC;simp only[bG,cC,aI.c,Nd.c]
  simp_all
  rfl
 ·refine K1p ?_;refine cA (i:=3) (hq:=(cV (hc:=λ w1 hw=>jR (h.lB hw) i hi hl))) (h:=λ x16=>?_);refine lO ?_;refine cA (i:=5) (hq:=(cV (hc:=λ w1 hw=>tB (h.lB hw) (aA L i).nd.main (hb.main i) hc))) (h:=λ x18=>?_);refine J7 ?_;refine aV ?_;refine vP ?_;refine aS (cV (hc:=λ w1 hw=>jR (h.lB hw) (bV cs (aA L i).nd.main) (hb.cs _) hl)) (λ x21=>?_);refine aD (c0 (V:=.bool) (hc:=λ w1 hw=>xZ _ w1)) (λ x22 h22=>?_);refine lA ?_;refine bA (λ c23=>?_) (λ c23=>?_)
  ·refine Aw ?_;refine bK Tryz.results77 (λ w hw=>?_);refine⟨?_,hw.done⟩;unfold dB jU hX kC;simp only[bG,cC,aI.c,Nd.c]
   simp_all
   rfl
  ·refine K1p ?_;refine cA (i:=3) (hq:=(cV (hc:=λ w1 hw=>jR (h.lB hw) (bV cs (aA L i).nd.main) (hb.cs _) hl))) (h:=λ x27=>?_);refine lO ?_;refine cA (i:=5) (hq:=(cV (hc:=λ w1 hw=>tB (h.lB hw) (aA L (bV cs (aA L i).nd.main)).nd.prev (hb.prev _) hc))) (h:=λ x29=>?_);refine J7 ?_;refine Ez ?_;refine J2 ?_;refine Oa ?_;refine bA (λ c30=>?_) (λ c30=>?_)
   ·refine J2 ?_;refine J8 ?_;refine bK Tryz.results77 (λ w hw=>?_);refine⟨?_,hw.done⟩;unfold dB jU hX kC;simp only[bG,cC,aI.c,Nd.c]
    simp_all
    rfl
   ·refine vP ?_;refine aS (cV (hc:=λ w1 hw=>jR (h.lB hw) (bV cs (aA L (bV cs (aA L i).nd.main)).nd.prev) (hb.cs _) hl)) (λ x37=>?_);refine cJ ?_;refine Oa ?_;refine bA (λ c34=>?_) (λ c34=>?_)
    ·refine dM ?_;refine bI ?_;refine aB ?_;refine aS (cV (hc:=λ w1 hw=>jR (h.lB hw) (bV cs (aA L (bV cs (aA L i).nd.main)).nd.prev) (hb.cs _) hl)) (λ x42=>?_);refine cJ ?_;refine J1 ?_;refine eX ?_;refine aV ?_;refine vP ?_;refine aS (cV (hc:=λ w1 hw=>jR (h.lB hw) _ (by exact hb.bO _) hl)) (λ x46=>?_);refine aD (c0 (V:=.bool) (hc:=λ w1 hw=>xZ _ w1)) (λ x47 h47=>?_);refine lA ?_;refine bA (λ c48=>?_) (λ c48=>?_)
     ·refine Aw ?_;refine bK Tryz.results77 (λ w hw=>?_);refine⟨?_,hw.done⟩;unfold dB jU hX kC;simp only[bG,cC,aI.c,Nd.c]
      simp_all
      rfl
     ·refine Ke9 ?_;refine bK Tryz.results77 (λ w hw=>?_);refine⟨?_,hw.done⟩;unfold dB jU hX kC;simp only[bG,cC,aI.c,Nd.c]
      simp_all
      rfl
    ·refine kN ?_;refine aV ?_;refine vP ?_;refine aS (cV (hc:=λ w1 hw=>jR (h.lB hw) _ (by exact hb.cs _) hl)) (λ x46=>?_);refine aD (c0 (V:=.bool) (hc:=λ w1 hw=>xZ _ w1)) (λ x47 h47=>?_);refine lA ?_;refine bA (λ c48=>?_) (λ c48=>?_)
     ·refine Aw ?_;refine bK Tryz.results77 (λ w hw=>?_);refine⟨?_,hw.done⟩;unfold dB jU hX kC;simp only[bG,cC,aI.c,Nd.c]
      simp_all
      rfl
     ·refine Ke9 ?_;refine bK Tryz.results77 (λ w hw=>?_);refine⟨?_,hw.done⟩;unfold dB jU hX kC;simp only[bG,cC,aI.c,Nd.c]
      simp_all
      rfl
theorem n5(h:eP w L cs pn pc)(hb:mj L cs)(hl:L.length<=274877906944)(hc:cs.length<=274877906944)(c:Int)(ro:Bool)(hi:c<=9223372036854775807):Calls Tryz.prog 76 #[iF L cs gen pn cn pc cc,.agg ⟨[.int .i64 c,.bool ro]⟩] w λ e w'=>e=.returned (.tuple #[.int .i64 ((eD (L.map aI.c) cs c).getD 0),.bool (eD (L.map aI.c) cs c).isSome])/\St w [] [] w':=by
 refine enter Tryz.func76 Tryz.ntmps76 rfl rfl h.start ?_;simp only[cP]
 simp only[iF]
 refine K0o ?_;intro x2 x3;refine J8 ?_;refine iH ?_;refine J3 ?_;refine aS (cV (hc:=λ w1 hw=>tB (h.lB hw) c hi hc)) (λ x11=>?_);refine gX ?_;refine vP ?_;refine aS (cV (hc:=λ w1 hw=>jR (h.lB hw) (bV cs c) (hb.cs _) hl)) (λ x14=>?_);refine aT (λ x7=>?_);refine J5 ?_;refine gH ?_;refine rW ?_;refine bA (λ c17=>?_) (λ c17=>?_)
 ·refine gH ?_;refine J1 ?_;refine iH ?_;refine J3 ?_;refine aS (cV (hc:=λ w1 hw=>tB (h.lB hw) (aA L (bV cs c)).nd.status (hb.status _) hc)) (λ x23=>?_);refine rW ?_;refine bA (λ c24=>?_) (λ c24=>?_)
  ·refine dM ?_;refine J3 ?_;refine gX ?_;refine vP ?_;refine aS (cV (hc:=λ w1 hw=>jR (h.lB hw) _ (by exact hb.new _) hl)) (λ x29=>?_);refine cJ ?_;refine Ka7 ?_;refine bA (λ c31=>?_) (λ c31=>?_)
   ·refine Aw ?_;refine bK Tryz.results76 (λ w hw=>?_);refine⟨?_,hw.done⟩;unfold eD lG;simp only[bG,cC,aI.c,Nd.c]
    simp_all
    rfl
   ·refine Ke9 ?_;refine bK Tryz.results76 (λ w hw=>?_);refine⟨?_,hw.done⟩;unfold eD lG;simp only[bG,cC,aI.c,Nd.c]
    simp_all
    rfl
  ·refine jH ?_;refine vP ?_;refine aS (cV (hc:=λ w1 hw=>jR (h.lB hw) _ (by exact hb.bO _) hl)) (λ x29=>?_);refine cJ ?_;refine Ka7 ?_;refine bA (λ c31=>?_) (λ c31=>?_)
   ·refine Aw ?_;refine bK Tryz.results76 (λ w hw=>?_);refine⟨?_,hw.done⟩;unfold eD lG;simp only[bG,cC,aI.c,Nd.c]
    simp_all
    rfl
   ·refine Ke9 ?_;refine bK Tryz.results76 (λ w hw=>?_);refine⟨?_,hw.done⟩;unfold eD lG;simp only[bG,cC,aI.c,Nd.c]
    simp_all
    rfl
 ·refine jH ?_;refine vP ?_;refine aS (cV (hc:=λ w1 hw=>jR (h.lB hw) _ (by exact hb.cs _) hl)) (λ x29=>?_);refine cJ ?_;refine Ka7 ?_;refine bA (λ c31=>?_) (λ c31=>?_)
  ·refine Aw ?_;refine bK Tryz.results76 (λ w hw=>?_);refine⟨?_,hw.done⟩;unfold eD lG;simp only[bG,cC,aI.c,Nd.c]
   simp_all
   rfl
  ·refine Ke9 ?_;refine bK Tryz.results76 (λ w hw=>?_);refine⟨?_,hw.done⟩;unfold eD lG;simp only[bG,cC,aI.c,Nd.c]
   simp_all
   rfl
end
end

/- Views: which nodes have been visited; lists of nodes. -/
end Go.Proofs.YtadnboagdhcedaaGreatDoor
namespace Go.Ct
section
open Go Go.RowKit
def Ro(n:Nat)(vs:List Bool)(l:List Int):Prop:=vs.length=n/\(∀k,k<n->(vs.getD k false=true↔((k+1:Nat):Int)∈l))/\l.length+vs.count false=n
theorem Ro.zero(n:Nat):Ro n (List.replicate n false) []:=⟨by simp,λ k hk=>by simp[gF,hk],by simp⟩
theorem count_set:∀(vs:List Bool) (k:Nat),k<vs.length->vs.getD k false=false->(vs.set k true).count false+1=vs.count false
 | [],_,h,_=>by simp at h
 | b::vs,0,_,h=>by
  have e:b=false:=by simpa using h
  subst e
  simp
 | b::vs,k+1,h,h2=>by
  have:=count_set vs k (by simpa using h) (by simpa using h2);rw[List.set_cons_succ,List.count_cons,List.count_cons];omega
theorem Ro.set{n k:Nat}{vs:List Bool}{l:List Int}(h:Ro n vs l)(hk:k<n)(hf:vs.getD k false=false):Ro n (vs.set k true) (l++[((k+1:Nat):Int)]):=by
 have h1:=h.1;refine⟨by simp[h.1],λ j hj=>?_,?_⟩
 ·have h2:=h.2.1 j hj;rw[gF] at h2;rw[gF,List.getElem?_set];by_cases e:k=j
  ·subst e
   simp[show k<vs.length by omega]
  ·rw[if_neg e,h2]
   simp only[List.mem_append,List.mem_singleton]
   constructor
   ·exact .inl
   ·rintro (h3|h3)
    ·exact h3
    ·omega
 ·have:=count_set vs k (by omega) hf;have:=h.2.2;simp only[List.length_append,List.length_cons,List.length_nil]
  omega
theorem Ro.len{n:Nat}{vs:List Bool}{l:List Int}(h:Ro n vs l):l.length<=n:=by have:=h.2.2;omega
theorem Kb{N:List Nv}{r:Int}(h:cC (bH N r)):1<=r/\r<=N.length:=eF (by unfold cC at h;omega)
theorem Uq{L:List aI}{r:Int}(h:1<=r/\r<=L.length):((aA L r).nd.brA,aH (aA L r).xs)∈bD L:=by
 unfold aA
 rw[if_pos h]
 exact Ku (by omega)
theorem pa{L:List aI}{r:Int}(h:1<=r/\r<=L.length):((aA L r).nd.prA,dK (aA L r).ys)∈bD L:=by
 unfold aA
 rw[if_pos h]
 exact Nk (by omega)
theorem wY(L:List aI)(r:Int):(bH (L.map aI.c) r).xs=(aA L r).xs:=by rw[bG];rfl
theorem E1{L:List aI}{cs:List Int}{c r:Int}(h:eD (L.map aI.c) cs c=some r):∃k:Nat,r=((k+1:Nat):Int)/\k<L.length:=by
 unfold eD at h
 split at h
 ·rename_i hk
  cases h
  have:=eF (N:=L.map aI.c) (i:=lG (L.map aI.c) cs c) (by omega);rw[List.length_map] at this;exact⟨(lG (L.map aI.c) cs c-1).toNat,by omega,by omega⟩
 ·cases h
end

/- The reference of views: the numbers of a bitmap's bits. -/
section
theorem Hd(b:Nat):∀k,(fZ b k).length=gB b k
 | 0=>rfl
 | k+1=>by
  simp only[fZ,List.length_append,Hd b k,gB]
  split<;>simp_all
end
end Go.Ct
namespace Go.Proofs.YtadnboagdhcedaaGreatDoor
section
open Go Go.RowKit Go.Ct
theorem Mr{n:Nat}(hn:n<18446744073709551616)(w:World):Calls Tryz.prog 78 #[.int .u64 (n:Int)] w λ e w'=>∃x:Option Addr×Nat,e=.returned (.slice x.1 (fZ n 64).length x.2)/\True/\SF w [] [] [] [(x.1,aH (fZ n 64))] [] w':=by
 refine enter Tryz.func78 Tryz.ntmps78 rfl rfl ((SF.s0 w).kS 3 1) ?_;simp only[cP]
 refine cR ?_;refine Ke3 ?_;refine kK [3,4,5,6,7,8,9,10,11,12,13,14,15] (λ y:Nat×Option Addr×Nat=>[(3,.slice y.2.1 (fZ n y.1).length y.2.2),(4,.int .i64 ((y.1:Nat):Int))]) (λ y=>y.1<=64) (λ _=>_) (λ _=>_) (λ y=>[⟨y.2.1,aH (fZ n y.1),y.2.2,3,1⟩]) (λ y=>64-y.1) ((0,none,0)) (by decide) (λ y f hx=>?_);refine K0a ?_;have hcl:=oY n y.1;have hil:=Hd n y.1;refine jL ?_;refine rJ ?_;refine bA (λ c6=>?_) (λ c6=>?_)
 ·refine mZ ?_;refine jJ ?_;refine aS (cV (hc:=λ w1 hw=>Gc hn (y.1:Int) w1)) (λ x11=>?_);refine aK ?_;refine bA (λ c11=>?_) (λ c11=>?_)
  ·have e1:fZ n (y.1+1)=fZ n y.1++[(y.1:Int)]:=by rw[tC n (by omega) (by omega),Int.toNat_natCast] at c11;simp only[fZ,c11,if_true]
   refine Il ?_;refine fD (λ x14=>?_);(refine fB (λ x15=>?_);try (refine fL (λ h15=>?_)));refine J1 ?_;refine Kc2 ?_;refine kD ((by exact(y.1+1,x15))) ?_ ?_ (by repeat (first|(with_reducible exact xP.refl)|refine xP.cons (by exact rfl) ?_)) ?_ (λ w hw=>by simp only[e1];exact hw.back)
   ·omega
   ·repeat' (first|exact bC _|refine aY ?_ ?_)
    all_goals (first|exact rfl|(simp only[e1];(conv=>{lhs;whnf};simp;done)))
   ·(show y.1+1<=64;omega)
  ·have e1:fZ n (y.1+1)=fZ n y.1:=by rw[tC n (by omega) (by omega),Int.toNat_natCast] at c11;simp only[fZ,c11];simp
   refine Kc1 ?_;refine kD ((by exact(y.1+1,y.2))) ?_ ?_ (by repeat (first|(with_reducible exact xP.refl)|refine xP.cons (by exact rfl) ?_)) ?_ (λ w hw=>by simp only[e1];exact hw.back)
   ·omega
   ·repeat' (first|exact bC _|refine aY ?_ ?_)
    all_goals (first|exact rfl|(simp only[e1];exact rfl))
   ·(show y.1+1<=64;omega)
 ·refine bM rfl ?_;refine Ka5 ?_;refine aR Tryz.results78 (λ w hw=>?_);have e2:y.1=64:=by omega
  rw[e2] at hw ⊢
  generalize fZ n 64=B at hw ⊢
  exact⟨y.2,rfl,trivial,SF.frz hw.aQ⟩
theorem zP{n:Nat}{b:Int}{ix:List Int}(hi:ix=fZ n 64)(hn:n<18446744073709551616)(e:b=(n:Int))(w:World):Calls Tryz.prog 78 #[.int .u64 b] w λ e w'=>∃x:Option Addr×Nat,e=.returned (.slice x.1 ix.length x.2)/\True/\SF w [] [] [] [(x.1,aH ix)] [] w':=by
 rw[hi,e]
 with_reducible exact Mr hn w
end

end Go.Proofs.YtadnboagdhcedaaGreatDoor

/- The program's shape, part 3: hash values and their ways. -/
import Derived.Test.YtadnboagdhcedaaGreatDoorGKw8
import Derived.Test.YtadnboagdhcedaaGreatDoorGEx11

set_option linter.unusedSimpArgs false
set_option linter.unusedVariables false
namespace Go.Ct
section
theorem Y4{lv y:Nat}{u:List Nat}{a b c:Nd}(hy:y<11):(He lv u a b c)[1+y]?=some (.int .i64 ((u.getD y 0:Nat):Int)):=by
 unfold He
 rw[Nat.add_comm 1 y,List.getElem?_cons_succ,List.getElem?_append_left (by rw[lQ];exact hy),Nn hy]
end
end Go.Ct
namespace Go.Proofs.YtadnboagdhcedaaGreatDoor
section
open Go Go.RowKit Go.Ct
theorem Sd(key:ByteArray){m:Nat}(hm:m<18446744073709551616)(hk:key.size<=4611686018427387903)(w:World):Calls Tryz.prog 99 #[.string key,.int .u64 (m:Int)] w λ e w'=>e=.returned (.int .u64 ((jP key m:Nat):Int))/\St w [] [] w':=by
 refine enter Tryz.func99 Tryz.ntmps99 rfl rfl (SF.s0 w) ?_
 simp only[cR]
 refine cN ?_;refine Ka7 ?_;refine jJ ?_;refine Kb2 ?_
 refine eS [5,6,9,10,11,12,13,14,15,16,17,18,19,20] (λ y:Nat=>[(9,.int .i64 ((y:Nat):Int)),(5,.int .u64 ((vl key y:Nat):Int))]) (λ y=>y<=key.size) (λ y=>key.size-y) (0) (Nat.zero_le _) ?_ (λ y f hx=>?_)
 ·repeat (first|exact bB _|refine aW (by exact rfl) ?_)
 dsimp only[gG,List.map,List.cons_append,List.nil_append]
 refine Kb4 ?_
 refine aZ (λ c10=>?_) (λ c10=>?_)
 ·refine oW ?_;refine J2 ?_;refine tZ ?_;refine aB ?_;refine aR (eY (Yj (s:=key) (i:=y) rf rf (by kernel_rfl) (by omega))) (λ x15=>?_);refine aE (Hg (k2:=.u8) rf (by kernel_rfl) (by exact qC rfl) ⟨bE _,by have:=Hb key y;omega⟩) rfl ?_;refine aE (Uo rf rf (D9 _ _) (by have:=Hb key y;omega)) rfl ?_;refine J1 ?_;refine yB ?_;refine aE (Xh rf rf) rfl ?_;refine J1 ?_;refine eV ?_;refine Ka5 ?_
  refine dJ (y+1) ?_ ?_ ?_
  ·omega
  ·repeat' (first|exact bB _|refine aW ?_ ?_)
   all_goals (exact rfl)
  ·omega
 ·refine bG rfl ?_;refine iF ?_;refine aE (My rf rf (D9 _ _) hm) rfl ?_;refine J1 ?_
  refine aN Tryz.results99 (λ w hw=>?_)
  have hy:y=key.size:=by omega
  subst hy
  exact⟨rfl,hw.done⟩
section
variable{L:List aK}{cs:List Int}{gen:Int}{m:Nat}{pn pc:Option Addr}{cn cc:Nat}{w:World}{D:List Nat}{bk:Nat}
set_option maxRecDepth 100000 in
theorem Wc(hs:SF w D [(bk,jN L cs gen m pn cn pc cc)] (uK L cs pn pc) [] [] w){u:List Nat}{a b c:Nd}{h:Nat}{key:ByteArray}(hm:m<18446744073709551616)(hu:u.length<=11)(hh:h<18446744073709551616)(hk:key.size<=64) :
  Calls Tryz.prog 71 #[.pointer (some ⟨bk,0,none⟩),.agg ⟨He u.length u a b c⟩,.int .u64 ((h:Nat):Int),.string key] w λ e w'=>∃r:Bool,e=.returned (.bool r)/\(r=true↔vK m ((h:Nat):Int) key u)/\SF w D [(bk,jN L cs gen m pn cn pc cc)] [] [] [] w':=by
 refine enter Tryz.func71 Tryz.ntmps71 rfl rfl hs ?_
 simp only[cR]
 refine J0 ?_;refine bP (λ x5=>?_);refine gK ?_;refine iF ?_;refine fY ?_;refine J3 ?_;refine aR (cV (hc:=λ w1 hw=>Sd key hm (by omega) w1)) (λ x15=>?_);refine aB ?_;refine Kb7 ?_
 refine aZ (λ c17=>?_) (λ c17=>?_)
 ·try (exfalso;omega)
  refine cN ?_
  refine aN Tryz.results71 (λ w hw=>?_)
  refine⟨false,rfl,⟨λ h=>(nomatch h),λ hp=>?_⟩,hw.aU⟩
  exact absurd hp.1 (by exact c17)
 ·try (exfalso;omega)
  refine jD ?_;refine gN ?_;refine Kb2 ?_
  refine eS [8,9,20,21,22,23,24,25,26,27,28,29,30,31] (λ y:Nat=>[(20,.int .i64 ((y:Nat):Int))]) (λ y=>y<=u.length/\∀k,k<y->sl h k=u.getD k 0) (λ y=>u.length-y) (0) (⟨Nat.zero_le _,λ k hk=>absurd hk (Nat.not_lt_zero k)⟩) ?_ (λ y f hx=>?_)
  ·repeat (first|exact bB _|refine aW (by exact rfl) ?_)
  dsimp only[gG,List.map,List.cons_append,List.nil_append]
  refine Kb4 ?_
  refine aZ (λ c21=>?_) (λ c21=>?_)
  ·try (exfalso;omega)
   refine oW ?_;refine J2 ?_;refine gK ?_;refine eD [(0,[]),(1,[]),(3,[]),(4,[]),(5,[]),(6,[]),(2,[5,6]),(7,[])] ?_;refine gM ?_;refine aT ?_;refine aQ ?_;refine bM (i:=5) (hq:=(Qk (e:=3) (n:=11) (k:=y) (b:=x5) (o:=1) rf rf (by kernel_rfl) (by kernel_rfl) (by omega))) (h:=?_);refine bM (i:=6) (hq:=(yg (Ml (off:=1+y) rf fN fX (Y4 (by omega))))) (h:=?_);refine dG (i:=2) (hq:=(cV (hc:=λ w1 hw=>F8 (l:=y) hh (by omega) w1))) (hfire:=(λ _=>by((repeat (first|exact aM.nil|refine aM.cons (by first|exact eI (hq:=Qk (e:=3) (n:=11) (k:=y) (b:=x5) (o:=1) rf rf (by kernel_rfl) (by kernel_rfl) (by omega))|exact eI (hq:=yg (Ml (off:=1+y) rf fN fX (Y4 (by omega))))) ?_));done))) (h:=λ x25=>?_);refine Cz ?_;refine dV ?_
   refine aZ (λ c30=>?_) (λ c30=>?_)
   ·try (exfalso;omega)
    refine cN ?_
    refine aN Tryz.results71 (λ w hw=>?_)
    refine⟨false,rfl,⟨λ h=>(nomatch h),λ hp=>?_⟩,hw.aU⟩
    have h1:=hp.2 y (by omega)
    rw[Int.toNat_natCast] at h1
    exfalso
    omega
   ·try (exfalso;omega)
    refine Kc3 ?_
    refine dJ (y+1) ?_ ?_ ?_
    ·omega
    ·repeat' (first|exact bB _|refine aW ?_ ?_)
     exact rfl
    ·exact⟨by omega,λ k hk=>by
     by_cases e:k=y
     ·subst e;omega
     ·exact hx.2 k (by omega)⟩
  ·try (exfalso;omega)
   refine bG rfl ?_;refine cN ?_
   refine aN Tryz.results71 (λ w hw=>?_)
   refine⟨true,rfl,⟨λ _=>⟨by first|omega|exact Classical.not_not.1 c17,λ k hk=>?_⟩,λ _=>rfl⟩,hw.aU⟩
   rw[Int.toNat_natCast]
   exact hx.2 k (by omega)
end
end

/- The program's shape, part 4: the branches of a C-node. -/
section
open Go Go.RowKit Go.Ct
section
variable{L:List aK}{cs:List Int}{gen:Int}{m:Nat}{pn pc:Option Addr}{cn cc:Nat}{w:World}{D:List Nat}{bk:Nat}
theorem I3{V:aK}(hV:V∈L):(V.nd.brA,aG V.xs)∈uK L cs pn pc:=List.mem_cons_of_mem _ (List.mem_cons_of_mem _ (List.mem_cons_of_mem _ (kN.2 ⟨V,hV,by simp[aK.fr]⟩)))
theorem rl{V:aK}(hV:V∈L):(V.nd.prA,cZ V.ys)∈uK L cs pn pc:=List.mem_cons_of_mem _ (List.mem_cons_of_mem _ (List.mem_cons_of_mem _ (kN.2 ⟨V,hV,by simp[aK.fr]⟩)))
def jk(L:List aK)(V:aK)(lv:Nat):Prop:=V.nd.kind=3->0<lv->V.xs≠[]/\∀b,V.xs=[b]->(aA L b).nd.kind=2
set_option maxRecDepth 100000 in
theorem pw(hs:SF w D [(bk,jN L cs gen m pn cn pc cc)] (uK L cs pn pc) [] [] w){lv:Nat}{u:List Nat}{a c:Nd}{V:aK}(hV:V∈L)(hf:V.Fit)(hx:∀x∈V.xs,1<=x/\x<=L.length)(hl:L.length<=274877906944) :
    Calls Tryz.prog 55 #[.pointer (some ⟨bk,0,none⟩),.agg ⟨He lv u a V.nd c⟩] w λ e w'=>∃r:Bool,e=.returned (.bool r)/\(r=true↔jk L V lv)/\SF w D [(bk,jN L cs gen m pn cn pc cc)] [] [] [] w':=by
  have hn:=hf.brN
  have hmem:=I3 (cs:=cs) (pn:=pn) (pc:=pc) hV
  refine enter Tryz.func55 Tryz.ntmps55 rfl rfl hs ?_
  simp only[cR]
  refine J0 ?_;refine bP (λ x3=>?_);refine gK ?_;refine J0 ?_;refine Kb9 ?_;refine jE ?_;refine aB ?_
  (refine eR 9 (λ g9=>?_) (λ g9=>?_)<;>refine Ka0 ?_)
  all_goals (refine jo ?_;refine aI ?_)
  all_goals
   refine aZ (λ c13=>?_) (λ c13=>?_)
   · all_goals try (exfalso;omega)
     all_goals refine cN ?_
     all_goals
      refine aN Tryz.results55 (λ w hw=>?_)
      refine⟨true,rfl,⟨λ _ h3 h0=>?_,λ _=>rfl⟩,hw.aU⟩
      exfalso
      simp_all
      done
   · try exact nv c13
     all_goals (refine jD ?_;refine J0 ?_;refine aD ?_;refine Tt ?_;refine Kc2 ?_;refine iT ?_)
     all_goals
      refine aZ (λ c18=>?_) (λ c18=>?_)
      · try (exfalso;omega)
        refine cN ?_
        refine aN Tryz.results55 (λ w hw=>?_)
        refine⟨false,rfl,⟨λ h=>(nomatch h),λ hp=>?_⟩,hw.aU⟩
        exact absurd (List.eq_nil_of_length_eq_zero (show V.xs.length=0 by omega)) (hp (by simp_all) (by simp_all;omega)).1
      · try (exfalso;omega)
        refine iT ?_
        refine aZ (λ c20=>?_) (λ c20=>?_)
        · try (exfalso;omega)
          obtain⟨k,hk,hkl⟩:∃k:Nat,V.xs.getD 0 0=((k+1:Nat):Int)/\k<L.length:=by
           have:=hx (V.xs.getD 0 0) (by rw[fQ,List.getElem?_eq_getElem (show 0<V.xs.length by omega)];exact List.getElem_mem _)
           exact⟨(V.xs.getD 0 0-1).toNat,by omega,by omega⟩
          refine J2 ?_;refine Kb9 ?_;refine aE (bX (lst:=V.xs) (k:=0) rf rf fK wn (.bL (uV.kQ hmem)) (by omega) (by omega)) rfl ?_;refine aE (cP (lst:=V.xs) (q:=0) rf wn (.bL (uV.kQ hmem)) (by omega)) rfl ?_;refine aC (cM (V:=λ _:Unit=>(aA L ((k+1:Nat):Int)).nd.v) (hs:=[(bk,jN L cs gen m pn cn pc cc)]) (os:=[]) (hs':=λ _=>[(bk,jN L cs gen m pn cn pc cc)]) (os':=λ _=>[]) (Fc:=λ _=>[]) (A0:=uK L cs pn pc) (hA:=bT.of λ f hf=>.inr (.inl hf)) (hc:=λ w1 hw=>by rw[hk];exact jK hw hkl hl)) (λ x28 h28=>?_);refine cE ?_;refine M2 ?_
          refine aN Tryz.results55 (λ w hw=>?_)
          refine⟨_,rfl,⟨λ h _ _=>?_,λ hp=>?_⟩,hw.aU⟩
          · obtain⟨x,hx1⟩:=List.length_eq_one_iff.1 (show V.xs.length=1 by omega)
            refine⟨by rw[hx1];simp,λ b hb=>?_⟩
            rw[hb] at hk
            have hk':b=((k+1:Nat):Int):=hk
            rw[hk']
            simpa using h
          · obtain⟨x,hx1⟩:=List.length_eq_one_iff.1 (show V.xs.length=1 by omega)
            have h2:=(hp (by simp_all) (by simp_all;omega)).2 x hx1
            rw[hx1] at hk
            have hk':x=((k+1:Nat):Int):=hk
            rw[hk'] at h2
            simpa using h2
        · try (exfalso;omega)
          refine Kb0 ?_
          refine aN Tryz.results55 (λ w hw=>?_)
          refine⟨true,rfl,⟨λ _ _ _=>⟨λ h=>?_,λ b hb=>?_⟩,λ _=>rfl⟩,hw.aU⟩
          · rw[h] at hn;exfalso;simp at hn;omega
          · rw[hb] at hn;exfalso;simp at hn;omega
end
end

/- The program's shape, part 5: the hash values of a main node and of its singles. -/
section
open Go Go.RowKit Go.Ct
structure A6(L:List aK):Prop where
 fit:Fits L
 len:L.length<=274877906944
 hash:∀v∈L,∃h:Nat,v.nd.hash=(h:Int)/\h<18446744073709551616
 bm:∀v∈L,∃b:Nat,v.nd.bm=(b:Int)/\b<18446744073709551616/\(v.nd.kind=3->v.xs.length=eE b 64)/\(v.nd.kind≠3->b=0)
 key:∀v∈L,v.nd.kind=4∨v.nd.kind=5->v.nd.key.size<=64
 ys:∀v∈L,∀p∈v.ys,p.1.size<=64
 br:∀v∈L,∀x∈v.xs,1<=x/\x<=L.length
 no:∀v∈L,v.nd.kind≠3->v.xs=[]
theorem A6.at{L:List aK}(ok:A6 L){V:aK}(hV:V∈L){j:Nat}(hj:j<V.xs.length):∃k:Nat,V.xs.getD j 0=((k+1:Nat):Int)/\k<L.length/\aA L ((k+1:Nat):Int)∈L:=by
 have:=ok.br V hV (V.xs.getD j 0) (by rw[fQ,List.getElem?_eq_getElem hj];exact List.getElem_mem _)
 refine⟨(V.xs.getD j 0-1).toNat,by omega,by omega,?_⟩
 rw[fH (by omega)]
 exact eN (by omega)
structure yc(L:List aK)(m:Nat)(V:aK)(u:List Nat):Prop where
 h5:V.nd.kind=5->vK m V.nd.hash V.nd.key u
 h6:V.nd.kind=6->∀p∈V.ys,vK m V.nd.hash p.1 u
 h3:V.nd.kind=3->∀j,j<V.xs.length->(aA L (V.xs.getD j 0)).nd.kind=4->vK m (aA L (V.xs.getD j 0)).nd.hash (aA L (V.xs.getD j 0)).nd.key u/\sl (aA L (V.xs.getD j 0)).nd.hash.toNat u.length=((jQ V.nd.bm.toNat 64).getD j 0).toNat
theorem Ji{P:Nat->Prop}{y:Nat}(h:∀j,j<y->P j)(hy:P y):∀j,j<y+1->P j:=λ j hj=>by
 by_cases e:j=y
 ·rw[e];exact hy
 ·exact h j (by omega)
theorem P2{l:List Pr}{k:Nat}(h:k<l.length):l.getD k (⟨#[]⟩,0)∈l:=by
 rw[fQ,List.getElem?_eq_getElem h];exact List.getElem_mem h
section
variable{L:List aK}{cs:List Int}{gen:Int}{m:Nat}{pn pc:Option Addr}{cn cc:Nat}{w:World}{D:List Nat}{bk:Nat}
theorem B0(hs:SF w D [(bk,jN L cs gen m pn cn pc cc)] (uK L cs pn pc) [] [] w){u:List Nat}{a b c:Nd}{h:Nat}{hv:Int}{key:ByteArray}(e:hv=((h:Nat):Int))(hm:m<18446744073709551616)(hu:u.length<=11)(hh:h<18446744073709551616)(hk:key.size<=64) :
  Calls Tryz.prog 71 #[.pointer (some ⟨bk,0,none⟩),.agg ⟨He u.length u a b c⟩,.int .u64 hv,.string key] w λ e w'=>∃r:Bool,e=.returned (.bool r)/\(r=true↔vK m hv key u)/\SF w D [(bk,jN L cs gen m pn cn pc cc)] [] [] [] w':=by
 subst e
 exact Wc hs hm hu hh hk
set_option maxRecDepth 100000 in
set_option maxHeartbeats 1000000 in
theorem vo(hs:SF w D [(bk,jN L cs gen m pn cn pc cc)] (uK L cs pn pc) [] [] w)(ok:A6 L){u:List Nat}{a c:Nd}{V:aK}(hV:V∈L)(hM:V.nd.kind=3∨V.nd.kind=5∨V.nd.kind=6)(hm:m<18446744073709551616)(hu:u.length<=11)(hu3:V.nd.kind=3->u.length<=10) :
  Calls Tryz.prog 56 #[.pointer (some ⟨bk,0,none⟩),.agg ⟨He u.length u a V.nd c⟩] w λ e w'=>∃r:Bool,e=.returned (.bool r)/\(r=true↔yc L m V u)/\SF w D [(bk,jN L cs gen m pn cn pc cc)] [] [] [] w':=by
 have hf:=ok.fit V hV
 have hn:=hf.brN
 have hpn:=hf.prN
 have hps:=hf.prS
 have hl:=ok.len
 obtain⟨h,hh,hhl⟩:=ok.hash V hV
 obtain⟨bt,hbt,hbl,hb3,hb0⟩:=ok.bm V hV
 have hmem:=I3 (cs:=cs) (pn:=pn) (pc:=pc) hV
 have hmep:=rl (cs:=cs) (pn:=pn) (pc:=pc) hV
 have hil:=uT bt 64
 obtain⟨ix,hix⟩:∃ix,ix=jQ bt 64:=⟨_,rfl⟩
 rw[<- hix] at hil
 have hcl:=tC bt 64
 refine enter Tryz.func56 Tryz.ntmps56 rfl rfl hs ?_
 simp only[cR]
 refine J0 ?_;refine bP (λ x3=>?_);refine gK ?_;refine J0 ?_;refine Kb9 ?_;refine Kc2 ?_;refine iT ?_
 refine aZ (λ c13=>?_) (λ c13=>?_)
 ·try (first|contradiction|(exfalso;omega))
  refine Ka9 ?_;refine Kb9 ?_;refine Kb9 ?_;refine aC (cM (V:=.bool) (hs:=[(bk,jN L cs gen m pn cn pc cc)]) (os:=[]) (hs':=λ _=>[(bk,jN L cs gen m pn cn pc cc)]) (os':=λ _=>[]) (Fc:=λ _=>[]) (A0:=uK L cs pn pc) (hA:=bT.of λ f hf=>.inr (.inl hf)) (hc:=λ w1 hw=>B0 hw hh hm hu hhl (ok.key V hV (.inr c13)))) (λ x23 h23=>?_);refine J1 ?_
  refine aN Tryz.results56 (λ w hw=>?_)
  exact⟨x23,rfl,⟨λ e=>⟨λ _=>h23.1 e,λ h6=>absurd h6 (by omega),λ h3=>absurd h3 (by omega)⟩,λ e=>h23.2 (e.h5 c13)⟩,hw.aU⟩
 ·try (first|contradiction|(exfalso;omega))
  refine iT ?_
  refine aZ (λ c24=>?_) (λ c24=>?_)
  ·try (first|contradiction|(exfalso;omega))
   refine aS ?_;refine J0 ?_;refine aD ?_;refine Tt ?_;refine Kb2 ?_
   refine eS [4,6,30,31,32,33,34,35,36,37,38,39,40,41,42,43] (λ y:Nat=>[(30,.int .i64 ((y:Nat):Int))]) (λ y=>y<=V.ys.length/\∀j,j<y->vK m V.nd.hash (V.ys.getD j (⟨#[]⟩,0)).1 u) (λ y=>V.ys.length-y) (0) (⟨Nat.zero_le _,λ k hk=>absurd hk (Nat.not_lt_zero k)⟩) ?_ (λ y f hx=>?_)
   ·repeat (first|exact bB _|refine aW (by exact rfl) ?_)
   dsimp only[gG,List.map,List.cons_append,List.nil_append]
   refine Kb4 ?_
   refine aZ (λ c31=>?_) (λ c31=>?_)
   ·try (first|contradiction|(exfalso;omega))
    refine oW ?_;refine J0 ?_;refine aE (wM (lst:=V.ys) (k:=y) rf rf fK gX (.bL (uV.kQ hmep)) (by omega) (by omega)) rfl ?_;refine aE (Qm (lst:=V.ys) (q:=y) rf gX (.bL (uV.kQ hmep)) (by omega)) rfl ?_;refine aP (λ x6=>?_);refine J5 ?_;refine Ka9 ?_;refine Kb9 ?_;refine J3 ?_;refine aC (cM (V:=.bool) (hs:=[(bk,jN L cs gen m pn cn pc cc)]) (os:=[]) (hs':=λ _=>[(bk,jN L cs gen m pn cn pc cc)]) (os':=λ _=>[]) (Fc:=λ _=>[]) (A0:=uK L cs pn pc) (hA:=bT.of λ f hf=>.inr (.inl hf)) (hc:=λ w1 hw=>B0 hw hh hm hu hhl (ok.ys V hV _ (P2 (by omega))))) (λ x41 h41=>?_);refine lX ?_
    refine aZ (λ c42=>?_) (λ c42=>?_)
    ·try (first|contradiction|(exfalso;omega))
     refine cN ?_
     refine aN Tryz.results56 (λ w hw=>?_)
     refine⟨false,rfl,⟨λ h=>(nomatch h),λ hp=>?_⟩,hw.aU⟩
     have:=h41.2 (hp.h6 c24 _ (P2 (by omega)))
     simp_all
    ·try (first|contradiction|(exfalso;omega))
     refine Kc3 ?_
     refine dJ (y+1) ?_ ?_ ?_
     ·omega
     ·repeat' (first|exact bB _|refine aW ?_ ?_)
      exact rfl
     ·exact⟨by omega,Ji hx.2 (h41.1 (by(simpa using c42;done)))⟩
   ·try (first|contradiction|(exfalso;omega))
    refine bG rfl ?_;refine cN ?_
    refine aN Tryz.results56 (λ w hw=>?_)
    refine⟨true,rfl,⟨λ _=>⟨λ h5=>absurd h5 (by omega),λ _ p hp=>?_,λ h3=>absurd h3 (by omega)⟩,λ _=>rfl⟩,hw.aU⟩
    obtain⟨j,hj,rfl⟩:=List.mem_iff_getElem.1 hp
    have:=hx.2 j (by omega)
    rwa [fQ,List.getElem?_eq_getElem hj] at this
  ·try (first|contradiction|(exfalso;omega))
   have hk3:V.nd.kind=3:=by omega
   have hxl:=hb3 hk3
   refine lC ?_;refine aS ?_;refine J0 ?_;refine Kb9 ?_;refine aC (cF (hc:=λ w1 hw=>by rw[hbt];have:=Aq hbl (hw.cl (.bL (.tail (.tail .head))));rw[<- hix] at this;exact this)) (λ x47 h47=>?_);refine Kb8 ?_
   refine mP [4,7,8,9,49,50,51,52,53,54,55,56,57,58,59,60,61,62,63,64,65,66,67,68,69,70,71,72,73,74,75,76,77,78,79,80,81,82] (λ y:Nat=>[(49,.int .i64 ((y:Nat):Int))]) (λ y=>y<=ix.length/\∀j,j<y->(aA L (V.xs.getD j 0)).nd.kind=4->vK m (aA L (V.xs.getD j 0)).nd.hash (aA L (V.xs.getD j 0)).nd.key u/\sl (aA L (V.xs.getD j 0)).nd.hash.toNat u.length=(ix.getD j 0).toNat) (λ _=>_) (λ _=>[(x47.1,aG ix)]) (λ _=>_) (λ y=>ix.length-y) (0) (⟨Nat.zero_le _,λ k hk=>absurd hk (Nat.not_lt_zero k)⟩) (λ y f hx=>?_) (hw0:=λ w hw=>hw)
   dsimp only[gG,List.map,List.cons_append,List.nil_append]
   refine Kb4 ?_
   refine aZ (λ c50=>?_) (λ c50=>?_)
   ·try (first|contradiction|(exfalso;omega))
    have hyl:y<V.xs.length:=by omega
    obtain⟨k,hk,hkl,hkm⟩:=ok.at hV (j:=y) hyl
    obtain⟨h2,hh2,hh2l⟩:=ok.hash _ hkm
    have hixy:0<=ix.getD y 0:=by rw[hix];exact Jd _ _ _
    refine oW ?_;refine J2 ?_;refine aE (bX (lst:=ix) (k:=y) rf rf fK wn (.new .head) (by omega) (by omega)) rfl ?_;refine aE (cP (lst:=ix) (q:=y) rf wn (.new .head) (by omega)) rfl ?_;refine J8 ?_;refine J2 ?_;refine Kb9 ?_;refine aB ?_;refine aE (bX (lst:=V.xs) (k:=y) rf rf fK wn (.bL (uV.kQ hmem)) (by omega) (by omega)) rfl ?_;refine aE (cP (lst:=V.xs) (q:=y) rf wn (.bL (uV.kQ hmem)) (by omega)) rfl ?_;refine aC (cM (V:=λ _:Unit=>(aA L ((k+1:Nat):Int)).nd.v) (hs:=[(bk,jN L cs gen m pn cn pc cc)]) (os:=[]) (hs':=λ _=>[(bk,jN L cs gen m pn cn pc cc)]) (os':=λ _=>[]) (Fc:=λ _=>[]) (A0:=uK L cs pn pc) (hA:=bT.of λ f hf=>.inr (.inl hf)) (hc:=λ w1 hw=>by rw[hk];exact jK hw hkl hl)) (λ x61 h61=>?_);refine aP (λ x9=>?_);refine J5 ?_;refine yU ?_;refine Kb7 ?_
    refine aZ (λ c64=>?_) (λ c64=>?_)
    ·try (first|contradiction|(exfalso;omega))
     refine bG rfl ?_;refine Ka5 ?_
     refine gI (y+1) ?_ (hw1:=λ w hw=>hw.v1)
     ·exact⟨by omega,Ji hx.2 (λ h4=>by rw[hk] at h4 ⊢;exact absurd h4 c64)⟩
    ·try (first|contradiction|(exfalso;omega))
     refine bA ?_;refine Ka9 ?_;refine Kc5 ?_;refine aC (cM (V:=.bool) (hs:=[(bk,jN L cs gen m pn cn pc cc)]) (os:=[]) (hs':=λ _=>[(bk,jN L cs gen m pn cn pc cc)]) (os':=λ _=>[]) (Fc:=λ _=>[]) (A0:=uK L cs pn pc) (hA:=bT.of λ f hf=>.inr (.inl hf)) (hc:=λ w1 hw=>B0 hw hh2 hm hu hh2l (ok.key _ hkm (.inl (by exact c64))))) (λ x71 h71=>?_);refine El ?_
     (refine eR 73 (λ g73=>?_) (λ g73=>?_)<;>refine Ka0 ?_)
     all_goals (refine yC ?_;(first|refine aH ?_|(refine aF ?_;refine aR (cV (v:=.int .i64 ((sl h2 u.length:Nat):Int)) (hc:=λ w1 hw=>by rw[hh2];exact F8 hh2l (hu3 hk3) w1)) (λ x78=>?_)));refine Ka1 ?_;refine S8 ?_;refine aI ?_)
     all_goals
     refine aZ (λ c81=>?_) (λ c81=>?_)
     ·all_goals try (first|contradiction|(exfalso;omega))
      all_goals refine cN ?_
      all_goals
       refine aN Tryz.results56 (λ w hw=>?_)
       refine⟨false,rfl,⟨λ h=>(nomatch h),λ hp=>?_⟩,hw.aU⟩
       have h9:=hp.h3 hk3 y hyl
       rw[hk,show V.nd.bm.toNat=bt by omega,<- hix] at h9
       have h10:=h9 (by exact c64)
       have h11:=h71.2 h10.1
       have h12:=h10.2
       rw[hh2,Int.toNat_natCast] at h12
       exfalso
       first
       | (simp_all;done)
       | omega
     ·try exact nv c81
      all_goals (refine Kc3 ?_)
      all_goals
       refine gI (y+1) ?_ (hw1:=λ w hw=>hw.v1)
       ·exact⟨by omega,Ji hx.2 (λ h4=>by rw[hk] at h4 ⊢;(exact⟨h71.1 (by(simpa using g73;done)),by rw[hh2,Int.toNat_natCast];omega⟩))⟩
   ·try (first|contradiction|(exfalso;omega))
    refine bG rfl ?_;refine cN ?_
    refine aN Tryz.results56 (λ w hw=>?_)
    refine⟨true,rfl,⟨λ _=>⟨λ h5=>absurd h5 (by omega),λ h6=>absurd h6 (by omega),λ _ j hj h4=>?_⟩,λ _=>rfl⟩,hw.aU⟩
    rw[show V.nd.bm.toNat=bt by omega,<- hix]
    exact hx.2 j (by omega) h4
end
end

/- The program's shape, part 6: well-formed places. -/
end Go.Proofs.YtadnboagdhcedaaGreatDoor
namespace Go.Ct
section
theorem qj{lv k:Nat}{u:List Nat}{a b c:Nd}(h:u.length<11):(He lv u a b c).set (1+u.length) (.int .i64 ((k:Nat):Int))=He lv (u++[k]) a b c:=by
 unfold He
 rw[Nat.add_comm 1 u.length,List.set_cons_succ,List.set_append_left _ _ (by rw[lQ];exact h),gf h]
end
end Go.Ct
namespace Go.Proofs.YtadnboagdhcedaaGreatDoor
section
open Go Go.RowKit Go.Ct
theorem ij{L:List aK}{m:Nat}{R:Int}{u:List Nat}:yq (L.map aK.c) m (cD (L.map aK.c) R) u↔nR (aA L R).nd.kind u.length/\jk L (aA L R) u.length/\yc L m (aA L R) u:=by
 have e:∀b,cD (L.map aK.c) b=(aA L b).c:=cH L
 constructor
 ·intro h
  have h3:=h.h3
  have hb:=h.br
  simp only[e] at h h3 hb
  exact⟨h.kd,hb,h.h5,h.h6,h3⟩
 ·rintro ⟨h1,h2,h3⟩
  have h4:=h3.h3
  refine⟨?_,?_,?_,?_,?_⟩
  ·rw[e];exact h1
  ·simp only[e];exact h2
  ·rw[e];exact h3.h5
  ·rw[e];exact h3.h6
  ·simp only[e];exact h4
section
variable{L:List aK}{cs:List Int}{gen:Int}{m:Nat}{pn pc:Option Addr}{cn cc:Nat}
def xY(L:List aK)(cs:List Int):Prop:=∀i R,eA (L.map aK.c) cs i=some R->∃r:Nat,R=((r+1:Nat):Int)/\r<L.length/\z0 L cs (aA L i).nd r/\bU (aA L R).c
def xx(L:List aK)(cs:List Int)(gen:Int)(m:Nat)(pn:Option Addr)(cn:Nat)(pc:Option Addr)(cc:Nat)(n:Nat):Prop :=
 ∀{w:World} {D:List Nat} {bk:Nat} {i R:Int} {u:List Nat} {c:Nd},SF w D [(bk,jN L cs gen m pn cn pc cc)] (uK L cs pn pc) [] [] w->eA (L.map aK.c) cs i=some R->Ss (L.map aK.c) cs n i->u.length+n<=12 ->
  Calls Tryz.prog 37 #[.pointer (some ⟨bk,0,none⟩),.agg ⟨He u.length u (aA L i).nd (aA L R).nd c⟩] w λ e w'=>∃r:Bool,e=.returned (.bool r)/\(r=true↔Ul (L.map aK.c) cs m n i u c.gen)/\SF w D [(bk,jN L cs gen m pn cn pc cc)] [] [] [] w'
theorem bn{n:Nat}{i R:Int}{u:List Nat}{g:Int}(hb:eA (L.map aK.c) cs i=some R):Ul (L.map aK.c) cs m (n+1) i u g↔(nR (aA L R).nd.kind u.length/\jk L (aA L R) u.length/\yc L m (aA L R) u)/\(u.length=0∨(aA L i).nd.gen<=g)/\∀j,j<(aA L R).xs.length->(aA L ((aA L R).xs.getD j 0)).nd.kind=2->Ul (L.map aK.c) cs m n ((aA L R).xs.getD j 0) (u++[((jQ (aA L R).nd.bm.toNat 64).getD j 0).toNat]) (aA L i).nd.gen:=by
 have e:∀b,cD (L.map aK.c) b=(aA L b).c:=cH L
 rw[<- ij]
 simp only[Ul]
 have eu:(u=[])↔u.length=0:=List.length_eq_zero_iff.symm
 constructor
 ·rintro ⟨R',h1,h2,h3,h4⟩
  rw[hb] at h1
  cases h1
  refine⟨h2,?_,?_⟩
  ·rw[<- eu];rw[e] at h3;exact h3
  ·simp only[e] at h4;exact h4
 ·rintro ⟨h2,h3,h4⟩
  refine⟨R,hb,h2,?_,?_⟩
  ·rw[e,eu];exact h3
  ·simp only[e];exact h4
set_option maxRecDepth 100000 in
set_option maxHeartbeats 800000 in
theorem aa(ok:A6 L)(hM:xY L cs)(hm:m<18446744073709551616)(hc:cs.length<=274877906944){n:Nat}(ih:xx L cs gen m pn cn pc cc n):xx L cs gen m pn cn pc cc (n+1):=by
  intro w D bk i R u c hs hb ht hun
  obtain⟨r,hR,hrl,hmo,hmk⟩:=hM i R hb
  obtain⟨V,hVe⟩:∃V,V=aA L R:=⟨_,rfl⟩
  have hV:V∈L:=by rw[hVe,hR,fH hrl];exact eN hrl
  have hVk:V.nd.kind=3∨V.nd.kind=5∨V.nd.kind=6:=by rw[hVe];exact hmk
  obtain⟨R',hb',hbr⟩:=ht
  rw[hb] at hb'
  cases hb'
  rw[cH L R] at hbr
  have hiff:=bn (m:=m) (n:=n) (u:=u) (g:=c.gen) hb
  rw[hiff]
  rw[<- hVe] at hbr ⊢
  have hf:=ok.fit V hV
  have hn:=hf.brN
  have hl:=ok.len
  obtain⟨bt,hbt,hbl,hb3,hb0⟩:=ok.bm V hV
  have hmem:=I3 (cs:=cs) (pn:=pn) (pc:=pc) hV
  have hil:=uT bt 64
  have hxl:V.nd.kind≠3->bt=0:=hb0
  obtain⟨ix,hix⟩:∃ix,ix=jQ bt 64:=⟨_,rfl⟩
  have hixe:jQ V.nd.bm.toNat 64=ix:=by rw[hix,hbt];rfl
  rw[<- hix] at hil
  rw[hixe]
  have hcl:=tC bt 64
  have hx0:V.nd.kind≠3->V.xs=[]:=ok.no V hV
  have hI:∀w1:World,Go.Ct.Cl w1 (some ⟨0,0,none⟩) (mR gY)->Calls Tryz.prog 58 #[.int .u64 V.nd.bm] w1 λ e w'=>∃x:Option Addr×Nat,e=.returned (.slice x.1 ix.length x.2)/\True/\SF w1 [] [] [] [(x.1,aG ix)] [] w':=λ w1 h=>by rw[hbt,hix];exact Aq hbl h
  have hi3:0<ix.length->V.nd.kind=3:=λ h=>Classical.byContradiction λ h3=>by have h0:=hb0 h3;rw[h0,Go.Ct.pE] at hil;omega
  have hlen:V.nd.kind=3->V.xs.length=ix.length:=λ h3=>by have:=hb3 h3;omega
  have hinn:∀y,0<=ix.getD y 0:=λ y=>by rw[hix];exact Jd _ _ _
  have hix64:ix.length<=64:=by omega
  clear hixe hix hil hcl hb0 hb3 hxl hiff
  refine enter Tryz.func37 Tryz.ntmps37 rfl rfl hs ?_
  simp only[cR]
  refine J0 ?_;refine bP (λ x3=>?_);refine gK ?_;refine kU ?_;refine aC (c0 (V:=.bool) (hc:=λ w1 hw=>ax _ _ _ _ _ w1)) (λ x10 h10=>?_);refine El ?_
  (refine eR 12 (λ g12=>?_) (λ g12=>?_)<;>refine Ka1 ?_)
  all_goals (refine Ka2 ?_;(first|refine aH ?_|(refine aF ?_;refine aC (cM (V:=.bool) (hs:=[(bk,jN L cs gen m pn cn pc cc)]) (os:=[]) (hs':=λ _=>[(bk,jN L cs gen m pn cn pc cc)]) (os':=λ _=>[]) (Fc:=λ _=>[]) (A0:=uK L cs pn pc) (hA:=bT.of λ f hf=>.inr (.inl hf)) (hc:=λ w1 hw=>pw hw hV hf (ok.br V hV) hl)) (λ x15 h15=>?_)));refine Qx ?_;refine aB ?_)
  all_goals (first|refine aH ?_|(refine eR 18 (λ g18=>?_) (λ g18=>?_)<;>refine Ka1 ?_))
  all_goals (refine Ka2 ?_;(first|refine aH ?_|(refine aF ?_;refine aC (cM (V:=.bool) (hs:=[(bk,jN L cs gen m pn cn pc cc)]) (os:=[]) (hs':=λ _=>[(bk,jN L cs gen m pn cn pc cc)]) (os':=λ _=>[]) (Fc:=λ _=>[]) (A0:=uK L cs pn pc) (hA:=bT.of λ f hf=>.inr (.inl hf)) (hc:=λ w1 hw=>vo hw ok hV hVk hm (by omega) (λ h3=>by have hk:=h10.1 (by(simpa using g12;done));unfold nR at hk;omega))) (λ x21 h21=>?_)));refine Qx ?_;refine aB ?_)
  all_goals (first|refine aH ?_|(refine eR 24 (λ g24=>?_) (λ g24=>?_)<;>refine Ka2 ?_))
  all_goals ((first|refine aH ?_|(refine aF ?_;refine aC (c0 (V:=.bool) (hc:=λ w1 hw=>qf _ _ _ _ _ w1)) (λ x26 h26=>?_)));refine Qx ?_;refine aI ?_)
  all_goals
   refine aZ (λ c28=>?_) (λ c28=>?_)
   · all_goals try (first|contradiction|(exfalso;omega))
     all_goals refine cN ?_
     all_goals
      refine aN Tryz.results37 (λ w hw=>?_)
      refine⟨false,rfl,⟨λ h=>(nomatch h),λ hp=>?_⟩,hw.aU⟩
      obtain⟨⟨q1,q2,q3⟩,q4,_⟩:=hp
      exfalso
      first
       | (have:=h10.2 q1;simp_all;done)
       | (have:=h15.2 q2;simp_all;done)
       | (have:=h21.2 q3;simp_all;done)
       | (have:=h26.2 q4;simp_all;done)
   · try exact nv c28
     all_goals
      have p1:nR V.nd.kind u.length:=h10.1 (by(simpa using g12;done))
      have p2:jk L V u.length:=h15.1 (by(simpa using g18;done))
      have p3:yc L m V u:=h21.1 (by(simpa using g24;done))
      have p4:u.length=0∨(aA L i).nd.gen<=c.gen:=h26.1 (by(simpa using c28;done))
     all_goals (refine jD ?_;refine J0 ?_;refine Kb9 ?_;refine aC (cF (hc:=λ w1 hw=>hI w1 (hw.cl (.bL (.tail (.tail .head)))))) (λ x32 h32=>?_);refine Kb8 ?_)
     all_goals
      refine mP [4,5,6,7,8,34,35,36,37,38,39,40,41,42,43,44,45,46,47,48,49,50,51,52,53,54,55,56,57,58,59,60,61,62,63,64,65,66,67,68,69,70,71] (λ y:Nat=>[(34,.int .i64 ((y:Nat):Int))]) (λ y=>y<=ix.length/\∀j,j<y->(aA L (V.xs.getD j 0)).nd.kind=2->Ul (L.map aK.c) cs m n (V.xs.getD j 0) (u++[(ix.getD j 0).toNat]) (aA L i).nd.gen) (λ _=>_) (λ _=>[(x32.1,aG ix)]) (λ _=>_) (λ y=>ix.length-y) (0) (⟨Nat.zero_le _,λ k hk=>absurd hk (Nat.not_lt_zero k)⟩) (λ y f hx=>?_) (hw0:=λ w hw=>hw)
      dsimp only[gG,List.map,List.cons_append,List.nil_append]
      refine Kb4 ?_
      refine aZ (λ c35=>?_) (λ c35=>?_)
      · try (first|contradiction|(exfalso;omega))
        have hyx:=hx.2
        have hk3:V.nd.kind=3:=hi3 (by omega)
        have hxl3:=hlen hk3
        have hyl:y<V.xs.length:=by omega
        have hu10:u.length<=10:=by unfold nR at p1;omega
        obtain⟨k,hk,hkl,hkm⟩:=ok.at hV (j:=y) hyl
        have hixy:=hinn y
        have hixk:ix.getD y 0=(((ix.getD y 0).toNat:Nat):Int):=(Int.toNat_of_nonneg hixy).symm
        have hbb:=hbr (V.xs.getD y 0) (by show _∈V.xs;rw[fQ,List.getElem?_eq_getElem hyl];exact List.getElem_mem _)
        rw[cH L,hk] at hbb
        refine oW ?_;refine J2 ?_;refine aE (bX (lst:=ix) (k:=y) rf rf fK wn (.new .head) (by omega) (by omega)) rfl ?_;refine aE (cP (lst:=ix) (q:=y) rf wn (.new .head) (by omega)) rfl ?_;refine J8 ?_;refine J2 ?_;refine Kb9 ?_;refine aB ?_;refine aE (bX (lst:=V.xs) (k:=y) rf rf fK wn (.bL (uV.kQ hmem)) (by omega) (by omega)) rfl ?_;refine aE (cP (lst:=V.xs) (q:=y) rf wn (.bL (uV.kQ hmem)) (by omega)) rfl ?_;refine aC (cM (V:=λ _:Unit=>(aA L ((k+1:Nat):Int)).nd.v) (hs:=[(bk,jN L cs gen m pn cn pc cc)]) (os:=[]) (hs':=λ _=>[(bk,jN L cs gen m pn cn pc cc)]) (os':=λ _=>[]) (Fc:=λ _=>[]) (A0:=uK L cs pn pc) (hA:=bT.of λ f hf=>.inr (.inl hf)) (hc:=λ w1 hw=>by rw[hk];exact jK hw hkl hl)) (λ x46 h46=>?_);refine aP (λ x7=>?_);refine J5 ?_;refine yU ?_;refine Kb7 ?_
        refine aZ (λ c49=>?_) (λ c49=>?_)
        · try (first|contradiction|(exfalso;omega))
          refine bG rfl ?_;refine Ka5 ?_
          refine gI (y+1) ?_ (hw1:=λ w hw=>hw.v1)
          · exact⟨by omega,Ji hyx (λ h2=>by rw[hk] at h2 ⊢;exact absurd h2 c49)⟩
        · try (first|contradiction|(exfalso;omega))
          have hk2:(aA L ((k+1:Nat):Int)).nd.kind=2:=by exact c49
          have ht2:Ss (L.map aK.c) cs n ((k+1:Nat):Int):=(hbb.resolve_left (λ h=>by have h':(aA L ((k+1:Nat):Int)).nd.kind=4:=h;omega)).2
          obtain⟨R2,hR2⟩:∃R2,eA (L.map aK.c) cs ((k+1:Nat):Int)=some R2:=by
           cases n with
           | zero=>exact ht2.elim
           | succ n=>obtain⟨R2,h,_⟩:=ht2;exact⟨R2,h⟩
          obtain⟨r2,hr2,hr2l,hmo2,hmk2⟩:=hM _ _ hR2
          refine jD ?_
          refine eL [8,50,51,52,53,54,55,56,57,58,59,60,61] (λ j:Nat=>[(8,.pointer (some ⟨j,0,none⟩))]) (λ _=>True) (λ j=>[(j,.cells ⟨He (u.length+1) u (aA L ((k+1:Nat):Int)).nd (aA L ((r2+1:Nat):Int)).nd (aA L i).nd⟩ 93 (0,0)),(x7,.cells ⟨(aA L ((k+1:Nat):Int)).nd.cells⟩ 77 (0,0)),(x3,.cells ⟨He u.length u (aA L i).nd V.nd c⟩ 93 (0,0)),(bk,jN L cs gen m pn cn pc cc)]) (λ _=>[(x32.1,aG ix)]) (λ _=>[]) (by decide) (λ _=>by exact rfl) ?_ (λ j f hx=>?_)
          · refine gV (.one 0 [] (.one 1 [] (.one 2 [] (.one 3 [] (.one 4 [] (.one 5 [] (.one 6 [] (.one 7 [] (.one 9 [] (.one 10 [] (.two 8 [1,4,5,10] (.one 11 [] (.one 12 [1,4,5,7,10] (.one 13 [] .nil))) 0 [] (.two 12 [1,4,5,7,10] (.one 8 [1,4,5,10] (.one 11 [] (.one 13 [] .nil))) 0 [] .nil)))))))))))) ?_
            refine lR ?_;refine cJ (i:=2) (hq:=(mL (m:=u.length) (n:=1) rf rf (by omega))) (h:=?_);refine aQ ?_;refine bM (i:=4) (hq:=(aL (k:=11) (vs:=Pk u) rf fN (by kernel_rfl) (by exact rfl) (lQ u))) (h:=?_);refine bN ?_;refine Kb5 ?_;refine aQ ?_;refine bM (i:=10) (hq:=(aL (k:=14) (vs:=(aA L i).nd.cells) rf fN gX (by exact rfl) rfl)) (h:=?_)
            refine kH (E:=[8,12]) (by decide +kernel) ((.cons ?_ (.cons ?_ .nil)))
            · refine qB (i:=8) (hq:=(cM (V:=λ _:Unit=>(aA L ((r2+1:Nat):Int)).nd.v) (hs:=[(bk,jN L cs gen m pn cn pc cc)]) (os:=[]) (hs':=λ _=>[(bk,jN L cs gen m pn cn pc cc)]) (os':=λ _=>[]) (Fc:=λ _=>[]) (A0:=uK L cs pn pc) (hA:=bT.of λ f hf=>.inr (.inl hf)) (hc:=λ w1 hw=>xB hw hmo2 hr2l hl hc))) (hfire:=(λ _=>by(refine gR ?_;(repeat (first|exact aM.nil|refine aM.cons (by first|exact eT|exact eI (hq:=aL (k:=11) (vs:=Pk u) rf fN (by kernel_rfl) (by exact rfl) (lQ u))|exact eI (hq:=aL (k:=14) (vs:=(aA L i).nd.cells) rf fN gX (by exact rfl) rfl)) ?_));done))) (h:=λ x58 h58=>?_)
              refine cJ (i:=11) (hq:=(xX (vs:=[(0,.int .i64 ((u.length+1:Nat):Int)),(1,.agg ⟨Pk u⟩),(2,.agg ⟨(aA L ((k+1:Nat):Int)).nd.cells⟩),(3,(aA L ((r2+1:Nat):Int)).nd.v),(4,.agg ⟨(aA L i).nd.cells⟩)]) (cs:=He (u.length+1) u (aA L ((k+1:Nat):Int)).nd (aA L ((r2+1:Nat):Int)).nd (aA L i).nd) (gQ rfl) (by exact rfl) (by kernel_rfl) (by kernel_rfl))) (h:=?_);refine fS (hfire:=(λ _=>by((repeat (first|exact aM.nil|refine aM.cons (by first|exact eT|exact eI (hq:=aL (k:=11) (vs:=Pk u) rf fN (by kernel_rfl) (by exact rfl) (lQ u))|exact eI (hq:=aL (k:=14) (vs:=(aA L i).nd.cells) rf fN gX (by exact rfl) rfl)) ?_));done))) (h:=λ x8=>?_);refine Ei ?_
              refine gA (x8) ?_ (hw1:=λ w hw=>hw)
              · trivial
            · refine jL (i:=12) (hfire:=(λ _=>by((repeat (first|exact aM.nil|refine aM.cons (by first|exact eT|exact eI (hq:=aL (k:=11) (vs:=Pk u) rf fN (by kernel_rfl) (by exact rfl) (lQ u))|exact eI (hq:=aL (k:=14) (vs:=(aA L i).nd.cells) rf fN gX (by exact rfl) rfl)) ?_));done))) (h:=λ x8=>?_)
              refine bS (i:=8) (hq:=(cM (V:=λ _:Unit=>(aA L ((r2+1:Nat):Int)).nd.v) (hs:=[(bk,jN L cs gen m pn cn pc cc)]) (os:=[]) (hs':=λ _=>[(bk,jN L cs gen m pn cn pc cc)]) (os':=λ _=>[]) (Fc:=λ _=>[]) (A0:=uK L cs pn pc) (hA:=bT.of λ f hf=>.inr (.inl hf)) (hc:=λ w1 hw=>xB hw hmo2 hr2l hl hc))) (hfire:=(λ _=>by(refine gR ?_;(repeat (first|exact aM.nil|refine aM.cons (by first|exact eT|exact eI (hq:=aL (k:=11) (vs:=Pk u) rf fN (by kernel_rfl) (by exact rfl) (lQ u))|exact eI (hq:=aL (k:=14) (vs:=(aA L i).nd.cells) rf fN gX (by exact rfl) rfl)) ?_));done))) (h:=λ x58 h58=>?_);refine cJ (i:=11) (hq:=(xX (vs:=[(0,.int .i64 ((u.length+1:Nat):Int)),(1,.agg ⟨Pk u⟩),(2,.agg ⟨(aA L ((k+1:Nat):Int)).nd.cells⟩),(3,(aA L ((r2+1:Nat):Int)).nd.v),(4,.agg ⟨(aA L i).nd.cells⟩)]) (cs:=He (u.length+1) u (aA L ((k+1:Nat):Int)).nd (aA L ((r2+1:Nat):Int)).nd (aA L i).nd) (gQ rfl) (by exact rfl) (by kernel_rfl) (by kernel_rfl))) (h:=?_);refine Ei ?_
              refine gA (x8) ?_ (hw1:=λ w hw=>hw)
              · trivial
          dsimp only[gG,List.map,List.cons_append,List.nil_append]
          refine gN ?_;refine aB ?_;refine aD ?_;refine aE (Qk (e:=3) (n:=11) (k:=u.length) (b:=j) (o:=1) rf rf (by kernel_rfl) (by kernel_rfl) (by omega)) rfl ?_;refine kL (uX λ _=>dU (off:=1+u.length) (cs:=He (u.length+1) u (aA L ((k+1:Nat):Int)).nd (aA L ((r2+1:Nat):Int)).nd (aA L i).nd) (v:=.int .i64 (((ix.getD y 0).toNat:Nat):Int)) (cs':=He (u.length+1) (u++[(ix.getD y 0).toNat]) (aA L ((k+1:Nat):Int)).nd (aA L ((r2+1:Nat):Int)).nd (aA L i).nd) rf fN (by rw[<- hixk];exact rfl) rfl fX (Nat.ble_eq_true_of_le (show 1+u.length+1<=54 by omega)) (qj (by omega)) yD) (λ _=>?_);refine aI ?_;refine Ka9 ?_;refine aC (cM (V:=.bool) (hs:=[(bk,jN L cs gen m pn cn pc cc)]) (os:=[]) (hs':=λ _=>[(bk,jN L cs gen m pn cn pc cc)]) (os':=λ _=>[]) (Fc:=λ _=>[]) (A0:=uK L cs pn pc) (hA:=bT.of λ f hf=>.inr (.inl hf)) (hc:=λ w1 hw=>by have h9:=ih (i:=((k+1:Nat):Int)) (R:=((r2+1:Nat):Int)) (u:=u++[(ix.getD y 0).toNat]) (c:=(aA L i).nd) hw (by rw[hR2,hr2]) ht2 (by rw[List.length_append,List.length_singleton];omega);rw[List.length_append,List.length_singleton] at h9;exact h9)) (λ x69 h69=>?_);refine lX ?_
          refine aZ (λ c70=>?_) (λ c70=>?_)
          · try (first|contradiction|(exfalso;omega))
            refine cN ?_
            refine aN Tryz.results37 (λ w hw=>?_)
            refine⟨false,rfl,⟨λ h=>(nomatch h),λ hp=>?_⟩,hw.aU⟩
            have h9:=hp.2.2 y hyl
            rw[hk] at h9
            have h12:=h69.2 (h9 hk2)
            exfalso
            rw[h12] at c70
            first
             | exact absurd c70 (by decide)
             | (simp at c70;done)
          · try (first|contradiction|(exfalso;omega))
            refine Kc3 ?_
            refine gI (y+1) ?_ (hw1:=λ w hw=>hw.v1)
            · exact⟨by omega,Ji hyx (λ h2=>by rw[hk] at h2 ⊢;(exact h69.1 (by(simpa using c70;done))))⟩
      · try (first|contradiction|(exfalso;omega))
        refine bG rfl ?_;refine cN ?_
        refine aN Tryz.results37 (λ w hw=>?_)
        refine⟨true,rfl,⟨λ _=>⟨⟨p1,p2,p3⟩,p4,λ j hj h2=>hx.2 j ?_ h2⟩,λ _=>rfl⟩,hw.aU⟩
        have hy:y=ix.length:=by omega
        by_cases h3:V.nd.kind=3
        · have:=hlen h3;omega
        · have:=hf.brN
          exact absurd hj (by rw[show V.xs=[] from hx0 h3];simp)
theorem Xl(ok:A6 L)(hM:xY L cs)(hm:m<18446744073709551616)(hc:cs.length<=274877906944):∀n,xx L cs gen m pn cn pc cc n
 | 0=>λ _ _ ht _=>ht.elim
 | n+1=>aa ok hM hm hc (Xl ok hM hm hc n)
end
end

end Go.Proofs.YtadnboagdhcedaaGreatDoor

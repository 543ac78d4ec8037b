/- linz.newRecord on the history of awake28. -/
import Derived.Test.YtnilhhnfjfdokaaGreatDoorGWa1

set_option linter.unusedSimpArgs false
set_option linter.unusedVariables false
namespace Go.Proofs.YtnilhhnfjfdokaaGreatDoor
section
open Go Go.RowKit Go.Ct
structure oM where
 inv:Int
 ret:Int
 r:Rs
def oM.cells(s:oM):List Value:=[.int .i64 s.inv,.int .i64 s.ret,.int .i64 s.r.err,.bool s.r.found,.int .u64 s.r.val,.string s.r.key,.int .i64 s.r.iH,.int .i64 s.r.ref,.int .i64 s.r.root,.bool s.r.ro]
theorem eL(s:oM):s.cells.length=10:=rfl
abbrev Ww(l:List oM):List Value:=dR oM.cells l
abbrev Qg:oM:=⟨-1,-1,Rs.zero⟩
def l4:Nat->List oM
 | 0=>[Qg]
 | 1=>[⟨0,-1,Rs.zero⟩]
 | 2=>[⟨0,-1,Rs.zero⟩]
 | _=>[⟨0,2,fL false 0⟩]
def l8:Nat->List oM
 | 0=>[Qg,Qg]
 | 1=>[Qg,Qg]
 | 2=>[⟨1,-1,Rs.zero⟩,Qg]
 | 3=>[⟨1,-1,Rs.zero⟩,Qg]
 | 4=>[⟨1,3,fL true 1⟩,Qg]
 | 5=>[⟨1,3,fL true 1⟩,⟨4,-1,Rs.zero⟩]
 | _=>[⟨1,3,fL true 1⟩,⟨4,5,dG true 2⟩]
structure Gu where
 b:Nat
 po:Option Addr
 co:Nat
 q0:Nat
 q1:Nat
abbrev Gu.out(x:Gu):List Value:=[.slice (some ⟨x.q0,0,none⟩) 1 1,.slice (some ⟨x.q1,0,none⟩) 2 2]
abbrev gB(p:Option Addr)(c:Nat)(x:Gu):Obj:=.cells ⟨[.slice p 2 c,.slice x.po 2 x.co]⟩ 110 (0,0)
abbrev Gu.fr(x:Gu):Fr:=[(x.po,x.out),(some ⟨x.q0,0,none⟩,Ww (l4 6)),(some ⟨x.q1,0,none⟩,Ww (l8 6))]
theorem Is:dL Tryz.prog 111 113 (oM.cells ⟨0,0,Rs.zero⟩):=fZ (z:=.agg ⟨oM.cells ⟨0,0,Rs.zero⟩⟩) (by kernel_rfl) (by kernel_rfl) rfl
theorem wG:dL Tryz.prog 108 111 [.slice none 0 0]:=fZ (z:=.slice none 0 0) (by kernel_rfl) (by kernel_rfl) rfl
section
variable{w:World}{p p0 p1 pl:Option Addr}{c c0 c1 cl:Nat}
set_option maxRecDepth 100000 in
set_option maxHeartbeats 1000000 in
theorem I8(h:jd w p p0 c0 p1 c1 pl):Calls Tryz.prog 26 #[.slice p 2 c,.slice pl 6 cl] w λ en w'=>∃x:Gu,en=.returned (pt x.b)/\True/\SF w [] [(x.b,gB p c x)] [] x.fr [] w':=by
 refine enter Tryz.func26 Tryz.ntmps26 rfl rfl h.start ?_
 simp only[cP]
 refine Kd1 ?_;refine cK ?_;refine bF (λ x15=>?_);refine kZ ?_;refine aJ ?_
 refine tX (λ w hw=>hw.gU 111 1) ?_
 refine Gt ?_;refine Ka8 ?_;refine cJ ?_;refine Ka1 ?_
 refine aU (λ c19=>?_) (λ c19=>?_)
 ·try (first|contradiction|(exfalso;omega)|(exfalso;simp_all;done))
  refine Kd2 ?_;refine aA (bR (cs:=gQ (G5 p0 c0 p1 c1)) rf rf dJ eC (.old .head) (Nat.le_of_ble_eq_true rfl) (Nat.le_of_ble_eq_true rfl)) rfl ?_;refine aA (bO (cs:=gQ (G5 p0 c0 p1 c1)) rf eC (.old .head) rfl) rfl ?_;refine Kb7 ?_;refine cO ?_;refine aF (nG (m:=1) (k:=1) rf rf Is (by decide) (by decide) (cs:=Ww [⟨0,0,Rs.zero⟩]) (by kernel_rfl)) (λ x24=>?_)
  generalize x24=xa
  refine Kc7 ?_;refine Ka8 ?_;refine cJ ?_;refine Ka1 ?_
  refine aU (λ c28=>?_) (λ c28=>?_)
  ·try (first|contradiction|(exfalso;omega)|(exfalso;simp_all;done))
   refine Ka6 ?_;refine J1 ?_;refine Cw ?_;refine cK ?_;refine aA (aY (f:=oM.cells) (l:=[⟨0,0,Rs.zero⟩]) eL (by decide) rf rf dJ cY (.own .head) (by decide) (by decide)) rfl ?_;refine aL (aQ.hJ (sE (f:=oM.cells) (l:=[⟨0,0,Rs.zero⟩]) (k:=0) (v1:=Qg) eL rf rf rfl cY .head rfl (by decide)) hP) (λ _=>?_);refine aD ?_;refine Ka9 ?_;refine bH ?_;refine Ka1 ?_
   refine aU (λ c28=>?_) (λ c28=>?_)
   ·exact nv c28
   ·try (first|contradiction|(exfalso;omega)|(exfalso;simp_all;done))
    refine aX rfl ?_;refine Cw ?_;refine bC ?_;refine J3 ?_;refine aB ?_;refine aF (by exact gD λ _=>aP wG mH rf rf rf rf (by simp only[dQ,cI,List.cons_append,List.nil_append,List.append_nil];exact rfl)) (λ x41=>?_);(refine aF (aQ.cL (cQ (sz:=1) (cs:=[]) (m:=0) rf rf (.tail .head) rfl (.new .head) rfl rfl wG rfl (by decide) dJ (by decide)) hP) (λ x42=>?_);try (refine eH (λ h42=>?_)));refine Ak ?_;refine Ka9 ?_;refine bH ?_;refine Ka1 ?_
    refine aU (λ c19=>?_) (λ c19=>?_)
    ·try (first|contradiction|(exfalso;omega)|(exfalso;simp_all;done))
     refine Kd2 ?_;refine aA (bR (cs:=gQ (G5 p0 c0 p1 c1)) rf rf dJ eC (.old .head) (Nat.le_of_ble_eq_true rfl) (Nat.le_of_ble_eq_true rfl)) rfl ?_;refine aA (bO (cs:=gQ (G5 p0 c0 p1 c1)) rf eC (.old .head) rfl) rfl ?_;refine Kb7 ?_;refine cO ?_;refine aF (nG (m:=2) (k:=2) rf rf Is (by decide) (by decide) (cs:=Ww [⟨0,0,Rs.zero⟩,⟨0,0,Rs.zero⟩]) (by kernel_rfl)) (λ x24=>?_);refine Kc7 ?_;refine Ka8 ?_;refine cJ ?_;refine Ka1 ?_
     refine aU (λ c28=>?_) (λ c28=>?_)
     ·try (first|contradiction|(exfalso;omega)|(exfalso;simp_all;done))
      refine Ka6 ?_;refine J1 ?_;refine Cw ?_;refine cK ?_;refine aA (aY (f:=oM.cells) (l:=[⟨0,0,Rs.zero⟩,⟨0,0,Rs.zero⟩]) eL (by decide) rf rf dJ cY (.own .head) (by decide) (by decide)) rfl ?_;refine aL (aQ.hJ (sE (f:=oM.cells) (l:=[⟨0,0,Rs.zero⟩,⟨0,0,Rs.zero⟩]) (k:=0) (v1:=Qg) eL rf rf rfl cY .head rfl (by decide)) hP) (λ _=>?_);refine aD ?_;refine Ka9 ?_;refine bH ?_;refine Ka1 ?_
      refine aU (λ c28=>?_) (λ c28=>?_)
      ·try (first|contradiction|(exfalso;omega)|(exfalso;simp_all;done))
       refine Ka6 ?_;refine J1 ?_;refine Cw ?_;refine cK ?_;refine aA (aY (f:=oM.cells) (l:=[Qg,⟨0,0,Rs.zero⟩]) eL (by decide) rf rf dJ cY (.own .head) (by decide) (by decide)) rfl ?_;refine aL (aQ.hJ (sE (f:=oM.cells) (l:=[Qg,⟨0,0,Rs.zero⟩]) (k:=1) (v1:=Qg) eL rf rf rfl cY .head rfl (by decide)) hP) (λ _=>?_);refine aD ?_;refine Ka9 ?_;refine bH ?_;refine Ka1 ?_
       refine aU (λ c28=>?_) (λ c28=>?_)
       ·exact nv c28
       ·try (first|contradiction|(exfalso;omega)|(exfalso;simp_all;done))
        refine aX rfl ?_;refine Cw ?_;refine bC ?_;refine J3 ?_;refine aB ?_;refine aF (by exact gD λ _=>aP wG mH rf rf rf rf (by simp only[dQ,cI,List.cons_append,List.nil_append,List.append_nil];exact rfl)) (λ x41=>?_);(refine aF (aQ.cL (cQ (sz:=1) (m:=1) rf rf (.tail (.tail .head)) rfl (.new .head) rfl rfl wG rfl (by decide) dJ (by decide)) hP) (λ x42=>?_);try (refine eH (λ h42=>?_)));refine Ak ?_;refine Ka9 ?_;refine bH ?_;refine Ka1 ?_
        refine aU (λ c19=>?_) (λ c19=>?_)
        ·exact nv c19
        ·try (first|contradiction|(exfalso;omega)|(exfalso;simp_all;done))
         refine aX rfl ?_;refine gS ?_;refine Ka8 ?_
         refine uD [10,11,12,48,49,50,51,52,53,54,55,56,57,58,59,60,61,62,63,64,65,66,67,68,69,70,71,72,73,74,75,76,77,78,79] (λ z:Nat=>[(48,.int .i64 ((z:Nat):Int))]) (λ z=>z<=6) (λ z=>[(x15,.cells ⟨[.slice p 2 c,.slice x42.1 2 x42.2]⟩ 110 (0,0))]) (λ z=>[]) (λ z=>[⟨some ⟨x24,0,none⟩,Ww (l8 z),2,113,10⟩,⟨some ⟨xa,0,none⟩,Ww (l4 z),1,113,10⟩,⟨x42.1,[.slice (some ⟨xa,0,none⟩) 1 1,.slice (some ⟨x24,0,none⟩) 2 2],x42.2,111,1⟩]) (λ z=>6-z) (0) (Nat.zero_le _) (λ z f hx=>?_) (hw0:=λ w hw=>hw.back (hF:=bL.nil))
         dsimp only[lP,List.map,List.cons_append,List.nil_append]
         refine Ka1 ?_
         refine aU (λ c49=>?_) (λ c49=>?_)
         ·try (first|contradiction|(exfalso;omega)|(exfalso;simp_all;done))
          have hz6:z=0∨z=1∨z=2∨z=3∨z=4∨z=5:=by omega
          obtain⟨q,hq⟩:∃q,q=z+1:=⟨_,rfl⟩
          rcases hz6 with rfl|rfl|rfl|rfl|rfl|rfl
          all_goals dsimp only[l4,l8]
          all_goals (refine Ka6 ?_;refine aA (aY (f:=lR.cells) (l:=F8) gA (by decide) rf rf dJ cY (.old (.tail (.tail (.tail .head)))) (by decide) (by decide)) rfl ?_;refine aA (cH (f:=lR.cells) (l:=F8) gA rf cY (.old (.tail (.tail (.tail .head)))) rfl) rfl ?_;refine aI (λ x11=>?_);refine bX (λ _=>?_);refine aL (cE λ _=>aC rf bD rf rfl cY rf dI) (λ _=>?_);refine pT ?_;refine iM [0,1,2,3,4,5,6,7,8,9,10,11] ?_;refine mG ?_;refine gY ?_;refine aS (i:=6) (hq:=(bR rf rf dJ eC (.own (.tail (.tail .head))) (Nat.le_of_ble_eq_true rfl) (Nat.le_of_ble_eq_true rfl))) (h:=?_);refine aS (i:=7) (hq:=(bO rf eC (.own (.tail (.tail .head))) rfl)) (h:=?_);refine gY ?_;refine aS (i:=10) (hq:=(by first|exact aY (f:=oM.cells) eL (by decide) rf rf dJ cY (.own .head) (by decide) (by decide)|exact aY (f:=oM.cells) eL (by decide) rf rf dJ cY (.own (.tail .head)) (by decide) (by decide))) (h:=?_);refine J7 ?_;refine jA ?_;refine aD ?_)
          all_goals
          refine aU (λ c65=>?_) (λ c65=>?_)
          ·try exact nv c65
           all_goals (refine eG [(0,[]),(1,[]),(2,[]),(3,[]),(4,[]),(5,[]),(6,[]),(7,[4]),(8,[]),(9,[]),(10,[])] ?_;refine Hj ?_;refine aR ?_;refine bM ?_;refine aS (i:=4) (hq:=(dE (k:=8) rf bD cY rfl rfl)) (h:=?_);refine J4 ?_;refine fE (i:=7) (hq:=(by first|exact aQ.hJ (jP (q:=1) rf wn rfl eC .head (Nat.le_of_ble_eq_true rfl)) hP|exact aQ.hJ (jP (q:=11) rf wn rfl eC .head (Nat.le_of_ble_eq_true rfl)) hP|exact aQ.hJ (jP (q:=1) rf wn rfl eC (.tail .head) (Nat.le_of_ble_eq_true rfl)) hP)) (hfire:=(λ _=>by(refine aM.cons (by exact cX (hq:=dE (k:=8) rf bD cY rfl rfl)) ?_;exact aM.nil))) (h:=λ _=>?_);refine J4 ?_;refine fE (i:=10) (hq:=(by first|exact aQ.hJ (rU (q:=2) rf wn rfl cY .head (Nat.le_of_ble_eq_true rfl) (by decide)) hP|exact aQ.hJ (rU (q:=12) rf wn rfl cY .head (Nat.le_of_ble_eq_true rfl) (by decide)) hP|exact aQ.hJ (rU (q:=2) rf wn rfl cY (.tail .head) (Nat.le_of_ble_eq_true rfl) (by decide)) hP)) (h:=λ _=>?_);refine dC ?_;refine Ka9 ?_)
           all_goals
            refine iD (q) ?_ ?_ (by repeat (first|(with_reducible exact pW.refl)|refine pW.cons (by exact rfl) ?_)) ?_ (λ w hw=>by rw[hq];exact hw.back (hF:=by exact bL.nil))
            ·omega
            ·repeat' (first|exact bQ _|refine bG ?_ ?_)
             all_goals ((rw[hq];exact rfl))
            ·show q<=6
             omega
          ·try exact nv c65
           all_goals (refine Cw ?_;refine M2 ?_;refine aL (by first|exact aQ.hJ (jP (q:=0) rf wn rfl eC .head (Nat.le_of_ble_eq_true rfl)) hP|exact aQ.hJ (jP (q:=10) rf wn rfl eC .head (Nat.le_of_ble_eq_true rfl)) hP|exact aQ.hJ (jP (q:=0) rf wn rfl eC (.tail .head) (Nat.le_of_ble_eq_true rfl)) hP) (λ _=>?_);refine aD ?_;refine Ka9 ?_)
           all_goals
            refine iD (q) ?_ ?_ (by repeat (first|(with_reducible exact pW.refl)|refine pW.cons (by exact rfl) ?_)) ?_ (λ w hw=>by rw[hq];exact hw.back (hF:=by exact bL.nil))
            ·omega
            ·repeat' (first|exact bQ _|refine bG ?_ ?_)
             all_goals ((rw[hq];exact rfl))
            ·show q<=6
             omega
         ·try (first|contradiction|(exfalso;omega)|(exfalso;simp_all;done))
          refine aX rfl ?_;refine J2 ?_;refine J1 ?_
          refine bE Tryz.results26 (λ w hw=>?_)
          have hz:z=6:=by omega
          subst hz
          exact⟨⟨x15,x42.1,x42.2,xa,x24⟩,rfl,trivial,(((hw.freeze .head).freeze .head).freeze .head).z0⟩
      ·exact nv c28
     ·exact nv c28
    ·exact nv c19
  ·exact nv c28
 ·exact nv c19
end
end

/- linz: spans and operations of a record; justified, reads. -/
section
open Go Go.RowKit Go.Ct
abbrev lT(x:Gu)(p p0:Option Addr)(c0:Nat)(p1:Option Addr)(c1:Nat):Fr:=[(x.po,x.out),(some ⟨x.q0,0,none⟩,Ww (l4 6)),(some ⟨x.q1,0,none⟩,Ww (l8 6)),(p,gQ (G5 p0 c0 p1 c1)),(p0,gG [⟨1,0,fB,1,0⟩]),(p1,gG [⟨1,0,fB,2,0⟩,⟨7,0,fB,0,0⟩])]
def wL:Nat×Nat->oM
 | (0,_)=>⟨0,2,fL false 0⟩
 | (_,0)=>⟨1,3,fL true 1⟩
 | _=>⟨4,5,dG true 2⟩
def wM:Nat×Nat->lO
 | (0,_)=>⟨1,0,fB,1,0⟩
 | (_,0)=>⟨1,0,fB,2,0⟩
 | _=>⟨7,0,fB,0,0⟩
def kg(a:Nat×Nat):Prop:=a=(0,0)∨a=(1,0)∨a=(1,1)
section
variable{w:World}{D:List Nat}{x:Gu}{p p0 p1:Option Addr}{c c0 c1:Nat}{a:Nat×Nat}
theorem dS(ha:kg a)(hs:SF w D [(x.b,gB p c x)] (lT x p p0 c0 p1 c1) [] [] w):Calls Tryz.prog 43 #[pt x.b,.agg ⟨gZ a⟩] w λ e w'=>e=.returned (.agg ⟨(wL a).cells⟩)/\SF w D [(x.b,gB p c x)] [] [] [] w':=by
 rcases ha with rfl|rfl|rfl
 all_goals
 refine enter Tryz.func43 Tryz.ntmps43 rfl rfl hs ?_
 simp only[cP]
 all_goals (refine J0 ?_;refine bF (λ x3=>?_);refine aI (λ x4=>?_);refine pT ?_;refine iM [0,1,2,3,4,5,6,7,8,9,10,11,12] ?_;refine mG ?_;refine aS (i:=4) (hq:=(cR (n:=2) (k:=0) (e:=3) rf rf (by kernel_rfl) (by kernel_rfl) (by decide))) (h:=?_);refine cB ?_;refine aS (i:=6) (hq:=(bR (cs:=x.out) rf rf dJ eC (.old .head) (Nat.le_of_ble_eq_true rfl) (Nat.le_of_ble_eq_true rfl))) (h:=?_);refine aS (i:=7) (hq:=(bO (cs:=x.out) rf eC (.old .head) rfl)) (h:=?_);refine aS (i:=8) (hq:=(cR (n:=2) (k:=1) (e:=3) rf rf (by kernel_rfl) (by kernel_rfl) (by decide))) (h:=?_);refine cB ?_;refine aS (i:=10) (hq:=(by first|exact aY (f:=oM.cells) eL (by decide) rf rf dJ cY (.old (.tail .head)) (Nat.le_of_ble_eq_true rfl) (Nat.le_of_ble_eq_true rfl)|exact aY (f:=oM.cells) eL (by decide) rf rf dJ cY (.old (.tail (.tail .head))) (Nat.le_of_ble_eq_true rfl) (Nat.le_of_ble_eq_true rfl))) (h:=?_);refine aS (i:=11) (hq:=(by first|exact cH (f:=oM.cells) eL rf cY (.old (.tail .head)) rfl|exact cH (f:=oM.cells) (k:=0) eL rf cY (.old (.tail (.tail .head))) rfl|exact cH (f:=oM.cells) (k:=1) eL rf cY (.old (.tail (.tail .head))) rfl)) (h:=?_);refine fE (i:=12) (hq:=(cE λ _=>aC rf bD rf rfl (by kernel_rfl) rf dI)) (h:=λ _=>?_);refine dC ?_)
 all_goals
 refine nE Tryz.results43 (.cell rf bD (by kernel_rfl) .nil) (λ w hw=>?_)
 exact⟨rfl,hw.ret (by repeat (first|exact List.Sublist.refl _|apply List.Sublist.cons)) (bL.dH λ f hf=>hf) (List.Sublist.refl _)⟩
theorem nM(ha:kg a)(hs:SF w D [(x.b,gB p c x)] (lT x p p0 c0 p1 c1) [] [] w):Calls Tryz.prog 44 #[pt x.b,.agg ⟨gZ a⟩] w λ e w'=>e=.returned (.agg ⟨(wM a).cells⟩)/\SF w D [(x.b,gB p c x)] [] [] [] w':=by
 rcases ha with rfl|rfl|rfl
 all_goals
 refine enter Tryz.func44 Tryz.ntmps44 rfl rfl hs ?_
 simp only[cP]
 all_goals (refine J0 ?_;refine bF (λ x3=>?_);refine aI (λ x4=>?_);refine pT ?_;refine iM [0,1,2,3,4,5,6,7,8,9,10,11,12] ?_;refine mG ?_;refine aS (i:=4) (hq:=(cR (n:=2) (k:=0) (e:=3) rf rf (by kernel_rfl) (by kernel_rfl) (by decide))) (h:=?_);refine cB ?_;refine aS (i:=6) (hq:=(bR (cs:=gQ (G5 p0 c0 p1 c1)) rf rf dJ eC (.old (.tail (.tail (.tail .head)))) (Nat.le_of_ble_eq_true rfl) (Nat.le_of_ble_eq_true rfl))) (h:=?_);refine aS (i:=7) (hq:=(bO (cs:=gQ (G5 p0 c0 p1 c1)) rf eC (.old (.tail (.tail (.tail .head)))) rfl)) (h:=?_);refine aS (i:=8) (hq:=(cR (n:=2) (k:=1) (e:=3) rf rf (by kernel_rfl) (by kernel_rfl) (by decide))) (h:=?_);refine cB ?_;refine aS (i:=10) (hq:=(by first|exact aY (f:=lO.cells) lZ (by decide) rf rf dJ cY (.old (.tail (.tail (.tail (.tail .head))))) (Nat.le_of_ble_eq_true rfl) (Nat.le_of_ble_eq_true rfl)|exact aY (f:=lO.cells) lZ (by decide) rf rf dJ cY (.old (.tail (.tail (.tail (.tail (.tail .head)))))) (Nat.le_of_ble_eq_true rfl) (Nat.le_of_ble_eq_true rfl))) (h:=?_);refine aS (i:=11) (hq:=(by first|exact cH (f:=lO.cells) lZ rf cY (.old (.tail (.tail (.tail (.tail .head))))) rfl|exact cH (f:=lO.cells) (k:=0) lZ rf cY (.old (.tail (.tail (.tail (.tail (.tail .head)))))) rfl|exact cH (f:=lO.cells) (k:=1) lZ rf cY (.old (.tail (.tail (.tail (.tail (.tail .head)))))) rfl)) (h:=?_);refine fE (i:=12) (hq:=(cE λ _=>aC rf bD rf rfl (by kernel_rfl) rf dI)) (h:=λ _=>?_);refine dC ?_)
 all_goals
 refine nE Tryz.results44 (.cell rf bD (by kernel_rfl) .nil) (λ w hw=>?_)
 exact⟨rfl,hw.ret (by repeat (first|exact List.Sublist.refl _|apply List.Sublist.cons)) (bL.dH λ f hf=>hf) (List.Sublist.refl _)⟩
theorem xB(ha:kg a)(hs:SF w D [(x.b,gB p c x)] (lT x p p0 c0 p1 c1) [] [] w):Calls Tryz.prog 45 #[pt x.b,.agg ⟨gZ a⟩] w λ e w'=>e=.returned (.int .i64 0)/\SF w D [(x.b,gB p c x)] [] [] [] w':=by
 have hk:(wM a).kind≠13/\(wM a).handle=0:=by rcases ha with rfl|rfl|rfl<;>decide
 refine enter Tryz.func45 Tryz.ntmps45 rfl rfl hs ?_
 simp only[cP]
 refine J0 ?_;refine bF (λ x3=>?_);refine Kb7 ?_;refine aA (fR (aN rf bD (by kernel_rfl))) rfl ?_;refine aH (cM (φ:=λ _=>True) (V:=λ _:Unit=>.agg ⟨(wM a).cells⟩) (hs:=[(x.b,gB p c x)]) (os:=[]) (A0:=lT x p p0 c0 p1 c1) (hs':=λ _=>[(x.b,gB p c x)]) (os':=λ _=>[]) (Fc:=λ _=>[]) (hc:=λ w1 hw=>(nM ha hw).mono λ _ _ ⟨e,h⟩=>⟨(),e,trivial,h⟩)) (λ x10 h10=>?_);refine aI (λ x5=>?_);refine J5 ?_;refine C3 ?_;refine Kc9 ?_
 refine aU (λ c13=>?_) (λ c13=>?_)
 ·try (first|contradiction|(exfalso;omega))
  refine jA ?_;refine J1 ?_
  refine bE Tryz.results45 (λ w hw=>?_)
  exact⟨by rw[hk.2];rfl,hw.ret (by repeat (first|exact List.Sublist.refl _|apply List.Sublist.cons)) (bL.dH λ f hf=>hf) (List.Sublist.refl _)⟩
 ·try ((exfalso;omega))
theorem kD(s:oM)(h:s.r.err≠5)(w:World):Calls Tryz.prog 41 #[.agg ⟨s.cells⟩] w λ e w'=>e=.returned (.bool false)/\St w [] [] w':=by
 refine enter Tryz.func41 Tryz.ntmps41 rfl rfl (SF.s0 w) ?_
 simp only[cP]
 simp only[oM.cells]
 refine J0 ?_;refine bF (λ x1=>?_);refine J1 ?_;refine jA ?_;refine iP ?_;refine aB ?_
 (refine lN 6 (λ g6=>?_) (λ g6=>?_)<;>refine Ka4 ?_)
 all_goals (refine J6 ?_;refine zM ?_;refine J1 ?_)
 all_goals
 refine bE Tryz.results41 (λ w hw=>?_)
 exact⟨by first|rfl|(congr 1;simpa using h)|(simp[h,lV];done),hw.done⟩
end
end

/- linz.justified. -/
section
open Go Go.RowKit Go.Ct
section
variable{w:World}{D:List Nat}{x:Gu}{p p0 p1:Option Addr}{c c0 c1:Nat}{a:Nat×Nat}
set_option maxRecDepth 100000 in
theorem T5(hs:SF w D [(x.b,gB p c x)] (lT x p p0 c0 p1 c1) [] [] w):Calls Tryz.prog 27 #[pt x.b] w λ e w'=>e=.returned (.bool true)/\SF w D [(x.b,gB p c x)] [] [] [] w':=by
 refine enter Tryz.func27 Tryz.ntmps27 rfl rfl hs ?_
 simp only[cP]
 refine Lf ?_;refine Kc6 ?_;refine cJ ?_;refine Ka1 ?_
 refine aU (λ c13=>?_) (λ c13=>?_)
 ·try (first|contradiction|(exfalso;omega))
  refine Ka6 ?_;refine aA (bR (cs:=x.out) rf rf dJ eC (.old .head) (Nat.le_of_ble_eq_true rfl) (Nat.le_of_ble_eq_true rfl)) rfl ?_;refine aA (bO (cs:=x.out) rf eC (.old .head) rfl) rfl ?_;refine J8 ?_;refine J2 ?_;refine Ka8 ?_;refine cJ ?_;refine Ka1 ?_
  refine aU (λ c20=>?_) (λ c20=>?_)
  ·try (first|contradiction|(exfalso;omega))
   refine Ka6 ?_;refine aA (aY (f:=oM.cells) eL (by decide) rf rf dJ cY (.old (.tail .head)) (Nat.le_of_ble_eq_true rfl) (Nat.le_of_ble_eq_true rfl)) rfl ?_;refine aA (cH (f:=oM.cells) eL rf cY (.old (.tail .head)) rfl) rfl ?_;refine aI (λ x6=>?_);refine bX (λ _=>?_);refine J5 ?_;refine pV ?_;refine aF (cV (hc:=λ w1 hw=>kD _ (by decide) w1)) (λ x25=>?_);refine aB ?_
   refine aT ?_
   (refine aT ?_);(refine aT ?_);(refine aT ?_);((refine aT ?_));refine Q9 ?_;refine aD ?_
   refine aU (λ c33=>?_) (λ c33=>?_)
   ·exact nv c33
   ·try (first|contradiction|(exfalso;omega))
    refine Kc0 ?_;refine bH ?_;refine Ka1 ?_
    refine aU (λ c20=>?_) (λ c20=>?_)
    ·exact nv c20
    ·try (first|contradiction|(exfalso;omega))
     refine Ry ?_;refine Ka3 ?_;refine bH ?_;refine Ka1 ?_
     refine aU (λ c13=>?_) (λ c13=>?_)
     ·try (first|contradiction|(exfalso;omega))
      refine Ka6 ?_;refine aA (bR (cs:=x.out) rf rf dJ eC (.old .head) (Nat.le_of_ble_eq_true rfl) (Nat.le_of_ble_eq_true rfl)) rfl ?_;refine aA (bO (cs:=x.out) rf eC (.old .head) rfl) rfl ?_;refine J8 ?_;refine J2 ?_;refine Ka8 ?_;refine cJ ?_;refine Ka1 ?_
      refine aU (λ c20=>?_) (λ c20=>?_)
      ·try (first|contradiction|(exfalso;omega))
       refine Ka6 ?_;refine aA (aY (f:=oM.cells) eL (by decide) rf rf dJ cY (.old (.tail (.tail .head))) (Nat.le_of_ble_eq_true rfl) (Nat.le_of_ble_eq_true rfl)) rfl ?_;refine aA (cH (f:=oM.cells) (k:=0) eL rf cY (.old (.tail (.tail .head))) rfl) rfl ?_;refine aI (λ x6=>?_);refine bX (λ _=>?_);refine J5 ?_;refine pV ?_;refine aF (cV (hc:=λ w1 hw=>kD _ (by decide) w1)) (λ x25=>?_);refine aB ?_
       refine aT ?_
       (refine aT ?_);(refine aT ?_);(refine aT ?_);((refine aT ?_));refine Q9 ?_;refine aD ?_
       refine aU (λ c33=>?_) (λ c33=>?_)
       ·exact nv c33
       ·try (first|contradiction|(exfalso;omega))
        refine Kc0 ?_;refine bH ?_;refine Ka1 ?_
        refine aU (λ c20=>?_) (λ c20=>?_)
        ·try (first|contradiction|(exfalso;omega))
         refine Ka6 ?_;refine aA (aY (f:=oM.cells) eL (by decide) rf rf dJ cY (.old (.tail (.tail .head))) (Nat.le_of_ble_eq_true rfl) (Nat.le_of_ble_eq_true rfl)) rfl ?_;refine aA (cH (f:=oM.cells) (k:=1) eL rf cY (.old (.tail (.tail .head))) rfl) rfl ?_;refine aI (λ x6=>?_);refine bX (λ _=>?_);refine J5 ?_;refine pV ?_;refine aF (cV (hc:=λ w1 hw=>kD _ (by decide) w1)) (λ x25=>?_);refine aB ?_
         refine aT ?_
         (refine aT ?_);(refine aT ?_);(refine aT ?_);((refine aT ?_));refine Q9 ?_;refine aD ?_
         refine aU (λ c33=>?_) (λ c33=>?_)
         ·exact nv c33
         ·try (first|contradiction|(exfalso;omega))
          refine Kc0 ?_;refine bH ?_;refine Ka1 ?_
          refine aU (λ c20=>?_) (λ c20=>?_)
          ·exact nv c20
          ·try (first|contradiction|(exfalso;omega))
           refine Ry ?_;refine Ka3 ?_;refine bH ?_;refine Ka1 ?_
           refine aU (λ c13=>?_) (λ c13=>?_)
           ·exact nv c13
           ·try (first|contradiction|(exfalso;omega))
            refine aX rfl ?_;refine dW ?_
            refine bE Tryz.results27 (λ w hw=>?_)
            exact⟨rfl,hw.ret (by repeat (first|exact List.Sublist.refl _|apply List.Sublist.cons)) (bL.dH λ f hf=>hf) (List.Sublist.refl _)⟩
        ·exact nv c20
      ·exact nv c20
     ·exact nv c13
  ·exact nv c20
 ·exact nv c13
end
end

end Go.Proofs.YtnilhhnfjfdokaaGreatDoor

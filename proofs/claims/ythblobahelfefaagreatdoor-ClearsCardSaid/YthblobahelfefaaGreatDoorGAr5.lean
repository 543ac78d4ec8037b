/- Merged. -/
import Derived.Test.YthblobahelfefaaGreatDoorGSlices
import Derived.Test.YthblobahelfefaaGreatDoorGFun
import Derived.Test.YthblobahelfefaaGreatDoorAuto
import Derived.Test.YthblobahelfefaaGreatDoorGLst2
import Derived.Test.YthblobahelfefaaGreatDoorGJoin
import Derived.Defers
import Derived.Recover
set_option linter.unusedSimpArgs false
set_option linter.unusedVariables false
namespace Go.Ct
section
theorem Cl.Hf{w:Go.World}{cs:List Go.Value}(h:Cl w none cs):cs=[]:=by
 cases cs with
 | nil=>rfl
 | cons v r=>exact absurd (h.ptr (by simp)) (by simp)
theorem Hh{L:List dJ}{k:Nat}(h:k<2):aV (bM L) ((k+1:Nat):Int)=Ec:=by rw[Qs (by rw[mY];omega)];rcases(show k=0∨k=1 by omega) with rfl|rfl<;>rfl
theorem Kr{L:List dJ}{k:Nat}(h:2<=k)(h2:k<L.length+2):aV (bM L) ((k+1:Nat):Int)=L.getD (k+1-2-1) dJ.zero:=by rw[Qs (by rw[mY];omega)];obtain⟨j,rfl⟩:∃j,k=j+2:=⟨k-2,by omega⟩;rw[show j+2+1-2-1=j by omega];rfl
end
end Go.Ct
namespace Go.Proofs.YthblobahelfefaaGreatDoor
open Go.Proofs.Tryz
open Go.RowKit Go.Ct
section
variable{w:World}{D:List Nat}{b:Nat}{L:List dJ}{cs:List Int}{gen acc:Int}{pn pc:Option Addr}{cn cc:Nat}{A:Fr}
theorem aDB(w:World):Calls prog 27 #[] w λ e w'=>∃q:Nat,e=.returned (.pointer (some ⟨q,0,none⟩))/\True /\
  SF w [] [(q,aO [] [] 0 0 none 0 none 0)] [] [] (mW [] [] none 0 none 0) w':=by refine enter func27 ntmps27 rfl rfl (SF.s0 w) ?_;simp only[bY];refine cC ?_;refine J0 ?_;refine bX ?_;refine bC (λ x2=>?_);refine J1 ?_;refine aP results27 (λ w hw=>?_);exact⟨x2,rfl,trivial,((hw.gN 69 1).gN 194 14).eP⟩
theorem ld(hs:SF w D [(b,aO L cs gen acc pn cn pc cc)] A [] (mW L cs pn cn pc cc) w)(r:Int)(hr:r<1)(hl:L.length<=274877906944) :
  Calls prog 338 #[.pointer (some ⟨b,0,none⟩),.int .i64 r] w λ e w'=>∃q:Option Addr×Option Addr,e=.returned ((aV (bM L) r).at_ q.1 q.2).nd.v/\True /\
  SF w D [(b,aO L cs gen acc pn cn pc cc)] [] [] (mW L cs pn cn pc cc++[⟨q.2,cY (aV (bM L) r).ys,(aV (bM L) r).ys.length,162,2⟩,⟨q.1,aN (aV (bM L) r).xs,(aV (bM L) r).xs.length,69,1⟩]) w':=by
 rw[Iz (by omega)];refine enter func338 ntmps338 rfl rfl (vK hs) ?_;simp only[bY];refine K1h ?_;intro x4;refine Kc3 ?_;refine Q9 ?_;(refine kT 7 (λ g7=>?_) (λ g7=>?_)<;>(try (exfalso;omega))<;>(refine bG ?_));(refine bG ?_);(refine bG ?_);refine vd ?_;refine aC ?_;refine aX (λ c12=>?_) (λ c12=>?_)
 ·try (exfalso;omega)
  refine J0 ?_;refine P1 ?_;refine bJ results338 (λ w hw=>?_);exact⟨(none,none),rfl,trivial,(hw.aDD 162 2 69 1).eP⟩
 ·exact nv c12
theorem kg(hs:SF w D [(b,aO L cs gen acc pn cn pc cc)] (cH L) [] (mW L cs pn cn pc cc) w)(hf:Fits L){k:Nat}(hk:(k:Int)<9223372036854775807)(hl:L.length<=274877906944) :
  Calls prog 338 #[.pointer (some ⟨b,0,none⟩),.int .i64 ((k+1:Nat):Int)] w λ e w'=>∃q:Option Addr×Option Addr,e=.returned ((aV (bM L) ((k+1:Nat):Int)).at_ q.1 q.2).nd.v/\True /\
  SF w D [(b,aO L cs gen acc pn cn pc cc)] [] [] (mW L cs pn cn pc cc++[⟨q.2,cY (aV (bM L) ((k+1:Nat):Int)).ys,(aV (bM L) ((k+1:Nat):Int)).ys.length,162,2⟩,⟨q.1,aN (aV (bM L) ((k+1:Nat):Int)).xs,(aV (bM L) ((k+1:Nat):Int)).xs.length,69,1⟩]) w':=by
 refine enter func338 ntmps338 rfl rfl (vK hs) ?_;simp only[bY];refine K1h ?_;intro x4;refine Kc3 ?_;refine Q9 ?_;(refine Ka4 ?_);((refine Ka4 ?_));((refine aG ?_;refine aJ (cM (hc:=λ w hs=>rA (m:=L.length) hs (by omega))) (λ x10 h10=>?_)));refine vd ?_;refine aC ?_;refine aX (λ c12=>?_) (λ c12=>?_)
 ·try (exfalso;omega)
  refine J0 ?_;refine P1 ?_;refine bJ results338 (λ w hw=>?_);exact⟨(none,none),by rw[Iz (by rw[mY];omega)];rfl,trivial,by rw[Iz (by rw[mY];omega)];exact(hw.aDD 162 2 69 1).eP⟩
 ·try (exfalso;omega)
  refine mD ?_;refine J2 ?_;refine xW ?_;refine aC ?_;refine aX (λ c15=>?_) (λ c15=>?_)
  ·try (exfalso;omega)
   refine J0 ?_;refine P1 ?_;refine bJ results338 (λ w hw=>?_);exact⟨(none,none),by rw[Hh (by omega)];rfl,trivial,by rw[Hh (by omega)];exact(hw.aDD 162 2 69 1).eP⟩
  ·try (exfalso;omega)
   refine J83 ?_;refine aD ?_;refine aA (by exact aCn (n:=2) rf rf (by omega) (by omega)) rfl ?_;refine aA (by exact uY rf rf (by omega) (by omega)) rfl ?_;refine J53 ?_;refine aJ (fv (Hc:=λ _=>[]) (Fc:=λ _=>[]) (V:=λ p:Option Addr×Option Addr=>((L.getD (k+1-2-1) dJ.zero).at_ p.1 p.2).nd.v) (hc:=λ w1 hw=>Ym (hw.aEJ hf (by omega)) (hf.at (by omega)).brS (hf.at (by omega)).prS)) (λ x26 h26=>?_);refine J5 ?_;refine bJ results338 (λ w hw=>?_);exact⟨x26,by rw[Kr (by omega) (by omega)];rfl,trivial,by rw[Kr (by omega) (by omega)];exact hw.toEnd.eP⟩
end
section
variable{w:World}{D:List Nat}{b:Nat}{L:List dJ}{cs:List Int}{gen acc:Int}{pn pc:Option Addr}{cn cc:Nat}{A:Fr}
theorem Nl(hs:SF w D [(b,aO L cs gen acc pn cn pc cc)] (cH L) [] (mW L cs pn cn pc cc) w)(hf:Fits L)(r:Int)(hr:r<=9223372036854775807)(hl:L.length<=274877906944) :
  Calls prog 338 #[.pointer (some ⟨b,0,none⟩),.int .i64 r] w λ e w'=>∃q:Option Addr×Option Addr,e=.returned (.agg ⟨((aV (bM L) r).at_ q.1 q.2).nd.cells⟩)/\True /\
  SF w D [(b,aO L cs gen acc pn cn pc cc)] [] [] (mW L cs pn cn pc cc++[⟨q.2,cY (aV (bM L) r).ys,(aV (bM L) r).ys.length,162,2⟩,⟨q.1,aN (aV (bM L) r).xs,(aV (bM L) r).xs.length,69,1⟩]) w':=by
 rcases Int.lt_or_le r 1 with h|h;·exact ld hs r h hl
 ·obtain⟨k,rfl⟩:∃k:Nat,r=((k+1:Nat):Int):=⟨(r-1).toNat,by omega⟩;exact kg hs hf (by omega) hl
end
section
theorem aEo(n:Nd)(w:World):Calls prog 265 #[n.v] w λ e w'=>e=.returned n.own.v/\St w [] [] w':=by
 refine enter func265 ntmps265 rfl rfl (SF.s0 w) ?_;simp only[bY];refine K1r ?_;intro x1 x2;refine gP ?_;refine bX ?_;refine aI (λ x3=>?_);refine J5 ?_;refine I9 ?_;refine Kb2 ?_;refine Np ?_;refine Np ?_;refine Np ?_;refine Np ?_;refine Np ?_;refine Np ?_;refine Np ?_;refine aU ?_;refine Kb1 ?_;refine aX (λ c9=>?_) (λ c9=>?_);·refine K1o ?_;refine aU ?_;refine eQ [(0,[]),(1,[]),(2,[]),(3,[]),(4,[]),(5,[3]),(6,[]),(7,[])] ?_;refine Kb8 ?_;refine cE ?_;refine ju ?_;refine Kg ?_;refine K1o ?_;refine Kc8 ?_;refine bJ results265 (λ w hw=>?_);exact⟨by simp only[Nd.own,beq_iff_eq, *,if_true,if_false];rfl,hw.done⟩
 ·refine mD ?_;refine iC ?_;refine aX (λ c11=>?_) (λ c11=>?_);·refine K1o ?_;refine K0e ?_;intro w hw;exact⟨by simp only[Nd.own,beq_iff_eq, *,if_true,if_false];rfl,hw.done⟩
  ·refine mD ?_;refine iC ?_;refine aX (λ c13=>?_) (λ c13=>?_);·refine K1o ?_;refine cD ?_;refine J3 ?_;refine Tk ?_;refine eX ?_;refine K0e ?_;intro w hw;exact⟨by simp only[Nd.own,beq_iff_eq, *,if_true,if_false];rfl,hw.done⟩
   ·refine mD ?_;refine iC ?_;refine aX (λ c15=>?_) (λ c15=>?_);·refine K1o ?_;refine K0e ?_;intro w hw;exact⟨by simp only[Nd.own,beq_iff_eq, *,if_true,if_false];rfl,hw.done⟩
    ·refine mD ?_;refine iC ?_;refine aX (λ c17=>?_) (λ c17=>?_);·refine K1o ?_;refine K0e ?_;intro w hw;exact⟨by simp only[Nd.own,beq_iff_eq, *,if_true,if_false];rfl,hw.done⟩
     ·refine mD ?_;refine iC ?_;refine aX (λ c19=>?_) (λ c19=>?_);·refine K1o ?_;refine eQ [(0,[]),(1,[]),(2,[]),(3,[]),(4,[]),(5,[]),(6,[]),(7,[3,5]),(8,[]),(9,[5]),(10,[]),(11,[])] ?_;refine Kb8 ?_;refine iX ?_;refine cE ?_;refine ju ?_;refine ju ?_;refine Kg ?_;refine eX ?_;refine gP ?_;refine Tk ?_;refine K1o ?_;refine Kc8 ?_;refine bJ results265 (λ w hw=>?_);exact⟨by simp only[Nd.own,beq_iff_eq, *,if_true,if_false];rfl,hw.done⟩
      ·refine bD ?_;refine iC ?_;refine aX (λ c21=>?_) (λ c21=>?_);·refine K1o ?_;refine gP ?_;refine Tk ?_;refine K1o ?_;refine Kc8 ?_;refine bJ results265 (λ w hw=>?_);exact⟨by simp only[Nd.own,beq_iff_eq, *,if_true,if_false];rfl,hw.done⟩
       ·refine bD ?_;refine K1o ?_;refine Kc8 ?_;refine bJ results265 (λ w hw=>?_);exact⟨by simp only[Nd.own,beq_iff_eq, *,if_true,if_false];rfl,hw.done⟩
end
section
theorem aB3(b:Int)(w:World):Calls prog 268 #[.int .u64 b] w λ e w'=>e=.returned (.int .i64 (Ef b))/\St w [] [] w':=by refine enter func268 ntmps268 rfl rfl (SF.s0 w) ?_;simp only[bY];refine Kc1 ?_;refine Iq ?_;refine D3 ?_;refine aD ?_;refine D3 ?_;refine pX ?_;refine Kb7 ?_;refine Iq ?_;refine D3 ?_;refine aD ?_;refine D3 ?_;refine pX ?_;refine Kb7 ?_;refine Iq ?_;refine aD ?_;refine pX ?_;refine D3 ?_;refine P2 ?_;refine Iq ?_;refine pX ?_;refine P2 ?_;refine Iq ?_;refine pX ?_;refine P2 ?_;refine Iq ?_;refine pX ?_;refine Kb7 ?_;refine eR ?_;refine D3 ?_;refine J1 ?_;refine aP results268 (λ w hw=>?_);exact⟨rfl,hw.done⟩
theorem Mz(b:Int)(w:World):Calls prog 223 #[.int .u64 b] w λ e w'=>e=.returned (.int .i64 (Ef b))/\St w [] [] w':=by refine enter func223 ntmps223 rfl rfl (SF.s0 w) ?_;simp only[bY];refine Kc1 ?_;refine aK (cV (hc:=λ w1 hw=>aB3 b w1)) (λ x4=>?_);refine J1 ?_;refine aP results223 (λ w hw=>?_);exact⟨rfl,hw.done⟩
theorem Km{n:Nd}{xs:List Int}{ys:List Pr}{w:World}(hr:Jy w n xs ys) :
  Calls prog 221 #[n.v] w λ e w'=>∃r:Bool,e=.returned (.bool r)/\(r=true↔eW n xs ys)/\St w [] [] w':=by
 have e1:=hr.brN;have e2:=hr.prN;refine enter func221 ntmps221 rfl rfl (SF.s0 w) ?_;simp only[bY]
 refine J0 ?_;refine bC (λ x1=>?_);refine nN ?_;refine aU ?_;refine eQ [(0,[]),(1,[]),(2,[0]),(3,[]),(4,[])] ?_;refine cJ ?_;refine cJ ?_;refine cB (i:=2) (hq:=(cV (hc:=λ w1 hw=>aEo n w1))) (h:=λ x5=>?_);refine bS (i:=3) (hq:=(c0 (V:=.bool) (hc:=λ w1 hw=>aDa (hr.lB hw.st) (hr.lB hw.st).own))) (h:=λ x6 h6=>?_);refine aEZ ?_;refine dY ?_;refine aX (λ c7=>?_) (λ c7=>?_);·refine cC ?_;refine K1x ?_;intro w hw;refine⟨_,rfl,?_,hw.done⟩;(simp_all[eW];done)
 ·refine mD ?_;refine gP ?_;refine Q9 ?_;(refine kT 11 (λ g11=>?_) (λ g11=>?_)<;>refine Ka1 ?_);all_goals (refine J89 ?_;refine aD ?_)
  all_goals (first|refine bG ?_|(refine kT 16 (λ g16=>?_) (λ g16=>?_)<;>refine Ka1 ?_))
  all_goals (refine J89 ?_;refine aC ?_)
  all_goals
  refine aX (λ c20=>?_) (λ c20=>?_)
  ·all_goals refine cC ?_
   all_goals refine K1x ?_;intro w hw;refine⟨_,rfl,?_,hw.done⟩;(simp_all[eW];omega)
  ·try exact nv c20
   all_goals (refine mD ?_;refine gP ?_;refine Kb2 ?_;refine Np ?_;refine Np ?_;refine Np ?_;refine Np ?_;refine bF ?_;refine Np ?_;refine Np ?_;refine Np ?_;refine aU ?_;refine Kb1 ?_)
   all_goals
    refine aX (λ c23=>?_) (λ c23=>?_);·refine K1o ?_;refine aU ?_;refine cC ?_;refine K1x ?_;intro w hw;refine⟨_,rfl,?_,hw.done⟩;(simp_all[eW];done)
    ·refine mD ?_;refine iC ?_;refine aX (λ c25=>?_) (λ c25=>?_);·refine K1o ?_;refine I9 ?_;refine kZ ?_;refine J1 ?_;refine K1x ?_;intro w hw;refine⟨_,rfl,?_,hw.done⟩;(simp_all[eW];done)
     ·refine mD ?_;refine iC ?_;refine aX (λ c27=>?_) (λ c27=>?_)
      ·refine K1o ?_;refine aU ?_;refine aU ?_;refine eQ [(0,[]),(1,[]),(2,[]),(3,[]),(4,[]),(5,[1]),(6,[]),(7,[]),(8,[]),(9,[]),(10,[]),(11,[]),(12,[])] ?_;refine iX ?_;refine Gj ?_;refine iX ?_;refine cB (i:=5) (hq:=(cV (hc:=λ w1 hw=>Mz n.bm w1))) (h:=λ x47=>?_);refine Wm ?_;refine aR ?_;(refine rcs 49 (λ g49=>?_) (λ g49=>?_)<;>(first|refine kS ?_|(refine cE ?_)));all_goals ((first|refine kS ?_|(refine cJ ?_));(first|refine kS ?_|(refine bS (i:=10) (hq:=(c0 (V:=.bool) (hc:=λ w1 hw=>by rw[e1];exact T3 (hr.br.lB hw.st) hr.brS))) (h:=λ x52 h52=>?_)));refine sB ?_;refine J7 ?_)
       all_goals
       refine K1x ?_;intro w hw;refine⟨_,rfl,?_,hw.done⟩;(simp_all[eW];done)
      ·refine mD ?_;refine iC ?_;refine aX (λ c29=>?_) (λ c29=>?_);·refine J84 ?_;refine I9 ?_;refine lW ?_;refine xW ?_;refine J1 ?_;refine K1x ?_;intro w hw;refine⟨_,rfl,?_,hw.done⟩;(simp_all[eW];omega)
       ·refine mD ?_;refine iC ?_;refine aX (λ c31=>?_) (λ c31=>?_);·refine K1o ?_;refine I9 ?_;refine lW ?_;refine xW ?_;refine J1 ?_;refine K1x ?_;intro w hw;refine⟨_,rfl,?_,hw.done⟩;(simp_all[eW];omega)
        ·refine mD ?_;refine iC ?_;refine aX (λ c33=>?_) (λ c33=>?_)
         ·refine K1o ?_;refine I9 ?_;refine cZ ?_;refine kZ ?_;refine aD ?_;(refine kT 62 (λ g62=>?_) (λ g62=>?_)<;>refine Ka1 ?_);all_goals (refine Kb9 ?_;(first|refine bG ?_|(refine aG ?_;refine aJ (c0 (V:=.bool) (hc:=λ w1 hw=>by rw[e2];exact wG (hr.pr.lB hw.st) hr.prS)) (λ x65 h65=>?_)));refine dG ?_;refine aD ?_)
          all_goals (first|refine bG ?_|(refine kT 67 (λ g67=>?_) (λ g67=>?_)<;>refine Ka1 ?_))
          all_goals (refine Kb9 ?_;(first|refine bG ?_|(refine aG ?_;refine aJ (c0 (V:=.bool) (hc:=λ w1 hw=>by rw[e2];exact Tb (hr.pr.lB hw.st) hr.prS)) (λ x70 h70=>?_)));refine dG ?_;refine J1 ?_)
          all_goals
          refine K1x ?_;intro w hw;refine⟨_,rfl,?_,hw.done⟩;first|(simp_all[eW];done)|(simp_all[eW];omega)
         ·refine mD ?_;refine iC ?_;refine aX (λ c35=>?_) (λ c35=>?_)
          ·refine K1o ?_;refine gP ?_;refine Q9 ?_;(refine kT 75 (λ g75=>?_) (λ g75=>?_)<;>refine Ka1 ?_);all_goals (refine J89 ?_;refine aC ?_)
           all_goals
           refine aX (λ c79=>?_) (λ c79=>?_)
           ·all_goals refine cC ?_
            all_goals refine K1x ?_;intro w hw;refine⟨_,rfl,?_,hw.done⟩;(simp_all[eW];omega)
           ·try exact nv c79
            all_goals (refine lI ?_;refine I9 ?_;refine kZ ?_;refine J1 ?_)
            all_goals refine K1x ?_;intro w hw;refine⟨_,rfl,?_,hw.done⟩;(simp_all[eW];done)
          ·refine bD ?_;refine iC ?_;refine aX (λ c37=>?_) (λ c37=>?_);·refine K1o ?_;refine I9 ?_;refine kZ ?_;refine J1 ?_;refine K1x ?_;intro w hw;refine⟨_,rfl,?_,hw.done⟩;(simp_all[eW];done)
           ·refine bD ?_;refine K1o ?_;refine cC ?_;refine K1x ?_;intro w hw;refine⟨_,rfl,?_,hw.done⟩;(simp_all[eW];done)
end
end Go.Proofs.YthblobahelfefaaGreatDoor
namespace Go.Ct
section
def aEs(n:Nd):Option Int:=if n.kind=2 then some n.main else if n.kind=3∨n.kind=5∨n.kind=6 then some n.prev else if n.kind=8 then some n.status else none
def aEi(u:Option (List Bool))(n:Nd):Option (List Bool) :=
 match u with
 | none=>none
 | some u=>match aEs n with
  | none=>some u
  | some c=>if 1<=c/\c<=u.length/\u.getD (c-1).toNat false=false then some (u.set (c-1).toNat true) else none
def marks(m:Nat)(L:List dJ):Option (List Bool):=L.foldl (λ u v=>aEi u v.nd) (some (List.replicate m false))
end
end Go.Ct
namespace Go.Proofs.YthblobahelfefaaGreatDoor
open Go.RowKit Go.Ct
section
end
section
end
end Go.Proofs.YthblobahelfefaaGreatDoor
namespace Go.Ct
section
end
end Go.Ct
namespace Go.Proofs.YthblobahelfefaaGreatDoor
open Go.Proofs.Tryz
open Go.RowKit Go.Ct
section
end
section
abbrev tpO:=tu 49
abbrev aEN(w:World):=O4 w 49
variable{l:List Int}{a:Option Addr}{c:Nat}{w:World}
theorem aEz(v n:Int)(w:World)(hn:IntKind.u64.wrap n≠0):Calls prog 15 #[.int .i64 v,.int .i64 n] w λ e w'=>e=.returned (.int .i64 (b9 v n))/\St w [] [] w':=by refine enter func15 ntmps15 rfl rfl (SF.s0 w) ?_;simp only[bY];refine Kc1 ?_;refine eR ?_;refine aD ?_;refine eR ?_;refine aFj ?_;refine eR ?_;refine J1 ?_;refine aP results15 (λ w hw=>?_);exact⟨rfl,hw.done⟩
theorem aEh:Calls prog 6 #[.slice a l.length c] w λ e w' =>
  ∃b:Nat,e=.returned (.pointer (some ⟨b,0,none⟩))/\True/\SF w [] [(b,tpO a l c 0)] [] [] [] w':=by refine enter func6 ntmps6 rfl rfl (SF.s0 w) ?_;simp only[bY];refine Kc1 ?_;refine bX ?_;refine bC (λ x5=>?_);refine J1 ?_;refine aP results6 (λ w hw=>?_);exact⟨x5,rfl,trivial,hw.eP⟩
theorem aDJ{b k:Nat}(n:Int)(ht:aEN w b a l c k)(h0:0<n)(h1:n<=9223372036854775807) :
  Calls prog 8 #[.pointer (some ⟨b,0,none⟩),.int .i64 n] w λ e w' =>
  ∃v:Nat,e=.returned (.int .i64 ((v:Nat):Int))/\((v:Int)<n/\v=tvN l k n)/\SF w [b] ((b,tpO a l c (tiN l k))::[]) [] [] [] w':=by
 have hl:=ht.len;have hu:IntKind.u64.wrap n≠0:=by rw[wrap_u64];omega
 refine enter func8 ntmps8 rfl rfl ht.start ?_;simp only[bY];refine kt ?_;refine aU ?_;refine gL [0,1,2,3,4,5,6,7,8,9] ?_;refine bs ?_;refine Gj ?_;refine X0 ?_;refine dY ?_;refine aX (λ c14=>?_) (λ c14=>?_);·refine cC ?_;refine aP results8 (λ w hw=>?_);exact⟨0,rfl,⟨by omega,by simp only[tvN];rw[if_neg (by omega)]⟩,by simp only[tiN];rw[if_neg (by omega)];exact hw.eP⟩
 ·refine J83 ?_;refine sZ ?_;refine O9 ?_;refine aU ?_;refine gL [0,1,2,3,4,5,6,7,8,9,10,11,12,13] ?_;refine bs ?_;refine aBM ?_;refine J48 ?_;refine aR ?_;refine cB (i:=12) (hq:=(cV (hc:=λ w1 hw=>aEz (l.getD (k+1-1) 0) n w1 hu))) (h:=λ x34=>?_);refine J7 ?_;refine aP results8 (λ w hw=>?_);have hb:=Vy (v:=l.getD k 0) h0 h1;exact⟨(b9 (l.getD k 0) n).toNat,by rw[Int.toNat_of_nonneg hb.1];rfl,⟨by omega,by simp only[tvN];rw[if_pos (by omega)]⟩,by simp only[tiN];rw[if_pos (by omega)];exact hw.eP⟩
end
end Go.Proofs.YthblobahelfefaaGreatDoor
namespace Go.Ct
section
end
end Go.Ct
namespace Go.Proofs.YthblobahelfefaaGreatDoor
open Go.RowKit Go.Ct
section
end
end Go.Proofs.YthblobahelfefaaGreatDoor
namespace Go.Ct
open Go Go.RowKit
section
abbrev atL(v:dJ)(p q:Option Addr):List Value:=[.int .i64 v.nd.kind,.int .i64 v.nd.gen,.int .i64 v.nd.main,.int .u64 v.nd.bm,.slice p v.xs.length v.xs.length,.int .u64 v.nd.hash,.string v.nd.key,.int .u64 v.nd.val,.slice q v.ys.length v.ys.length,.int .i64 v.nd.prev,.int .i64 v.nd.old,.int .i64 v.nd.exp,.int .i64 v.nd.new,.int .i64 v.nd.status]
abbrev atN(v:dJ)(p q:Option Addr):Nd:={v.nd with brA:=p,brN:=v.xs.length,brC:=v.xs.length,prA:=q,prN:=v.ys.length,cY:=v.ys.length}
end
end Go.Ct
namespace Go.Proofs.YthblobahelfefaaGreatDoor
open Go.RowKit Go.Ct
section
section
variable{w:World}{D:List Nat}{b:Nat}{L:List dJ}{cs:List Int}{gen acc:Int}{pn pc:Option Addr}{cn cc:Nat}{A:Fr}
theorem o0{v:dJ}{r:Int}(hs:SF w D [(b,aO L cs gen acc pn cn pc cc)] (cH L) [] (mW L cs pn cn pc cc) w)(hf:Fits L)(hr:r<=9223372036854775807)(hl:L.length<=274877906944)(hv:aV (bM L) r=v) :
  Calls Tryz.prog 338 #[.pointer (some ⟨b,0,none⟩),.int .i64 r] w λ e w'=>∃q:Option Addr×Option Addr,e=.returned (.agg ⟨atL v q.1 q.2⟩)/\True /\
  SF w D [(b,aO L cs gen acc pn cn pc cc)] [] [] (mW L cs pn cn pc cc++[⟨q.2,cY v.ys,v.ys.length,162,2⟩,⟨q.1,aN v.xs,v.xs.length,69,1⟩]) w':=by
 have h2:=Nl hs hf r hr hl;have h3:=rF hf.all r;rw[hv] at h2 h3
 have e:atL v=λ p q=>(v.at_ p q).nd.cells:=by funext p q;simp only[atL,dJ.at_,Nd.cells,h3.brN,h3.prN]
 rw[e];exact h2
end
end
end Go.Proofs.YthblobahelfefaaGreatDoor
namespace Go.Ct
open Go Go.RowKit
section
section
variable{P:Program}{S:List (Nat×Value)}{G:World->Prop}{d:Nat}{ty t t2:TypeId}{pos:String}{af:Array Edge}{gd:Option (Nat×Bool)}{x y:Operand}{dst:Option Nat}{v:Value}
theorem Zh{f:FuncId}{xs:List Operand}{at_:Array TypeId}{vs:List Value}{t:TypeId}{pv:Value}{name:String}(hx:ev S x=.iface t pv)(ha:lX S xs=vs)(hm:∀w,(callMethod (.iface t pv) name ⟨vs⟩).run P w=.ok (.enter f ⟨pv::vs⟩) w)(w:World) :
  (execOp (ev S) ⟨dst,.call {callee:=.invoke x name,args:=⟨xs⟩,argTypes:=at_},ty,pos,af,gd⟩).run P w=.ok (.enter f ⟨pv::vs⟩) w:=by
 subst ha;have hm':(xs.map (ev S)).toArray=⟨lX S xs⟩:=by rw[sE]
 have:=hm w;simp only[execOp,resolve,hx];simp[invoke,hm',this]
theorem re(hx:ev S x=v)(h:∀w,(Instr.makeInterface t v).run P w=.ok (.iface t v) w):aH P S G ⟨some d,.makeInterface t x,ty,pos,af,gd⟩ (.iface t v):=⟨λ w _=>by simp[execOp,hx,h w]⟩
theorem aAA{pv:Value}(hx:ev S x=.iface t2 pv)(hy:ev S y=.nilIface)(h:∀w,(binOp .eql t (.iface t2 pv) .nilIface).run P w=.ok (.bool false) w){t':TypeId}:aH P S G ⟨some d,.binOp .eql t x y t',ty,pos,af,gd⟩ (.bool false):=⟨λ w _=>by simp[execOp,hx,hy,h w,eqGuard]⟩
theorem fK{b off:Nat}(hx:ev S x=.iface t (.pointer (some ⟨b,off,none⟩))):aH P S G ⟨some d,.nilCheck x,ty,pos,af,gd⟩ (.iface t (.pointer (some ⟨b,off,none⟩))):=⟨λ w _=>by simp[execOp,hx]⟩
end
end
end Go.Ct
namespace Go.Proofs.YthblobahelfefaaGreatDoor
open Go.Proofs.Tryz
open Go Go.RowKit Go.Ct
section
theorem Ib(p:Option Addr)(a:Value)(w:World):(callMethod (.iface 51 (.pointer p)) "Node" #[a]).run prog w=.ok (.enter 338 #[.pointer p,a]) w:=by kernel_rfl
theorem eK(p:Option Addr)(a b:Value)(w:World):(callMethod (.iface 51 (.pointer p)) "Alloc" #[a,b]).run prog w=.ok (.enter 333 #[.pointer p,a,b]) w:=by kernel_rfl
theorem a9(p:Option Addr)(w:World):(Instr.makeInterface 51 (.pointer p)).run prog w=.ok (.iface 51 (.pointer p)) w:=by kernel_rfl
theorem Ut(p:Option Addr)(w:World):(binOp .eql 126 (.iface 51 (.pointer p)) .nilIface).run prog w=.ok (.bool false) w:=by kernel_rfl
section
variable{S:List (Nat×Value)}{w0 w:World}{M:List Nat}{H:List (Nat×Obj)}{A F:Fr}{O:List Ow}{ty:TypeId}{pos:String}{af:Array Edge}{gd:Option (Nat×Bool)}{X:Type}{V:X->Value}
variable{hs H':List (Nat×Obj)}{os O':List Ow}{A0:Fr}{is js:List Nat}{f:FuncId}{recv:Operand}{t:TypeId}{pv:Value}{name:String}{xs:List Operand}{at_:Array TypeId}{vs:List Value}{dst:Option Nat}
theorem Jc{φ:X->Prop}{hs' H1:X->List (Nat×Obj)}{os' O1:X->List Ow}{Fc F1:X->Fr}(hx:ev S recv=.iface t pv:=by(conv=>{lhs;whnf}))(ha:lX S xs=vs:=by(repeat (first|exact bK _|(apply aZ;focus ((conv=>{lhs;whnf});try exact rfl))));first|done|fail)(hm:∀w,(callMethod (.iface t pv) name ⟨vs⟩).run prog w=.ok (.enter f ⟨pv::vs⟩) w)(hc:∀w,SF w (Ks hs os) hs A0 [] os w->Calls prog f ⟨pv::vs⟩ w λ e w'=>∃x,e=.returned (V x)/\φ x/\SF w (Ks hs os) (hs' x) [] (Fc x) (os' x) w')(hH:mT H is hs H':=by(repeat (first|exact mT.nil|(apply mT.cons;(focus ((repeat (first|exact By.head|apply By.tail));done));simp only[qK])));first|done|fail)(hO:mT O js os O':=by(repeat (first|exact mT.nil|(apply mT.cons;(focus ((repeat (first|exact By.head|apply By.tail));done));simp only[qK])));first|done|fail)(hA:bL A F O' A0:=by(repeat (first|exact bL.of (λ _ h=>Or.inr (Or.inl h))|exact bL.nil|(refine bL.cons (by first|exact Or.inl rfl|exact Or.inr (Or.inr (Or.inl (by simp)))|exact Or.inr (Or.inl (by simp))|exact Or.inr (Or.inr (Or.inr (by simp)))) ?_)));first|done|fail)(hl1:∀x,is.length=(hs' x).length:=by intro x;exact rfl)(hl2:∀x,js.length=(os' x).length:=by intro x;exact rfl)(hH1:∀x,jP is (hs' x) H'=H1 x:=by intro x;first|(simp only[jP,sL];exact rfl)|exact rfl)(hF1:∀x,Fc x++F=F1 x:=by intro x;first|(simp only[List.nil_append,List.cons_append];exact rfl)|exact rfl)(hO1:∀x,jP js (os' x) O'=O1 x:=by intro x;simp only[jP,sL,mW];exact rfl) :
  aQ prog S (SF w0 M H A F O) ⟨dst,.call {callee:=.invoke recv name,args:=⟨xs⟩,argTypes:=at_},ty,pos,af,gd⟩ X V (λ x w=>φ x/\SF w0 M (H1 x) A (F1 x) (O1 x) w) :=
 gD (Zh hx ha hm) λ w hw=>(hc w (hw.qT hH hO hA)).mono λ _ _ ⟨x,he,hx,hs⟩=>⟨x,he,hx,by have:=hw.A8 (hs':=hs' x) (Hc:=[]) (os':=os' x) (Oc:=[]) hH hO (by simpa using hs) (hl1 x) (hl2 x);rw[<- hH1 x,<- hF1 x,<- hO1 x];simpa using this⟩
theorem aCE{φ:X->Prop}{hs' H1:X->List (Nat×Obj)}{os' Oc O1:X->List Ow}{Fc F1:X->Fr}(hx:ev S recv=.iface t pv:=by(conv=>{lhs;whnf}))(ha:lX S xs=vs:=by(repeat (first|exact bK _|(apply aZ;focus ((conv=>{lhs;whnf});try exact rfl))));first|done|fail)(hm:∀w,(callMethod (.iface t pv) name ⟨vs⟩).run prog w=.ok (.enter f ⟨pv::vs⟩) w)(hc:∀w,SF w (Ks hs os) hs A0 [] os w->Calls prog f ⟨pv::vs⟩ w λ e w'=>∃x,e=.returned (V x)/\φ x/\SF w (Ks hs os) (hs' x) [] (Fc x) (os' x++Oc x) w')(hH:mT H is hs H':=by(repeat (first|exact mT.nil|(apply mT.cons;(focus ((repeat (first|exact By.head|apply By.tail));done));simp only[qK])));first|done|fail)(hO:mT O js os O':=by(repeat (first|exact mT.nil|(apply mT.cons;(focus ((repeat (first|exact By.head|apply By.tail));done));simp only[qK])));first|done|fail)(hA:bL A F O' A0:=by(repeat (first|exact bL.of (λ _ h=>Or.inr (Or.inl h))|exact bL.nil|(refine bL.cons (by first|exact Or.inl rfl|exact Or.inr (Or.inr (Or.inl (by simp)))|exact Or.inr (Or.inl (by simp))|exact Or.inr (Or.inr (Or.inr (by simp)))) ?_)));first|done|fail)(hl1:∀x,is.length=(hs' x).length:=by intro x;exact rfl)(hl2:∀x,js.length=(os' x).length:=by intro x;exact rfl)(hH1:∀x,jP is (hs' x) H'=H1 x:=by intro x;first|(simp only[jP,sL];exact rfl)|exact rfl)(hF1:∀x,Fc x++F=F1 x:=by intro x;first|(simp only[List.nil_append,List.cons_append];exact rfl)|exact rfl)(hO1:∀x,Oc x++jP js (os' x) O'=O1 x:=by intro x;simp only[jP,sL,mW,List.nil_append,List.cons_append];exact rfl) :
  aQ prog S (SF w0 M H A F O) ⟨dst,.call {callee:=.invoke recv name,args:=⟨xs⟩,argTypes:=at_},ty,pos,af,gd⟩ X V (λ x w=>φ x/\SF w0 M (H1 x) A (F1 x) (O1 x) w) :=
 gD (Zh hx ha hm) λ w hw=>(hc w (hw.qT hH hO hA)).mono λ _ _ ⟨x,he,hx,hs⟩=>⟨x,he,hx,by have:=hw.A8 (hs':=hs' x) (Hc:=[]) (os':=os' x) (Oc:=Oc x) hH hO (by simpa using hs) (hl1 x) (hl2 x);rw[<- hH1 x,<- hF1 x,<- hO1 x];simpa using this⟩
end
end
end Go.Proofs.YthblobahelfefaaGreatDoor
namespace Go.Ct
open Go Go.RowKit
section
section
variable{P:Program}{n:Nat}{ds:List Deferred}{Q:Exit->Act->World->Prop}{ks:List CK}{S:List (Nat×Value)}{G:World->Prop}{ops:Array Oper}{l:List Oper}
variable{w0:World}{M:List Nat}{H:List (Nat×Obj)}{A F:Fr}{O:List Ow}
variable{d:Nat}{ty t:TypeId}{pos:String}{af:Array Edge}{gd:Option (Nat×Bool)}{dst:Option Nat}{x y:Operand}{v:Value}{w w':World}
theorem nG{b off i:Nat}{vs old cs:List Value}{T:TypeId}{H':List (Nat×Obj)}(hx:ev S x=.pointer (some ⟨b,off,none⟩))(ha:At H i b (.cells ⟨old⟩ T (0,0)))(hy:ev S y=.agg ⟨vs⟩)(h1:vs.all (·.oneCell')=true)
  (ht:gX P t vs.length=true) (hl:off+vs.length<=old.length) (hcs:old.take off++vs++old.drop (off+vs.length)=cs) (hH:setAt H i (.cells ⟨cs⟩ T (0,0))=H') :
  aQ P S (St w0 M H) ⟨none,.store t x y,ty,pos,af,gd⟩ Unit (λ _=>undef) (λ _=>St w0 M H') :=
 kE (λ w hw=>by
  subst hH hcs;have hb:=hw.at ha;obtain⟨dd,hu,hm,hi⟩:=gB ht;have hst:=run_storeCells_at (P:=P) b off T vs 0 ⟨old⟩ w hb (by simpa using hl) (by simpa using h1);simp only[Nat.add_zero] at hst;refine⟨w.setRow b ⟨old.take off++vs++old.drop (off+vs.length)⟩,?_,hw.write ha rfl rfl rfl (by simp) (λ k hk=>setRow_other w b k _ hk) (setRow_heap w b ⟨old⟩ _ T (0,0) hb)⟩;cases hq':P.info? t with
  | none=>rw[hq'] at hi;simp at hi
  | some inf=>
   have hs:inf.size=vs.length:=by rw[hq'] at hi;simpa using hi
   simp[execOp,hx,hy,Instr.storeAt,Instr.sureAddr,storeVar,sizeOf,typeInfo,hq',hs,Value.cells,hst])
end
end
section
structure KD(P:Program)(n:Nat)(ds:List Deferred)(Q:Exit->Act->World->Prop)(ks:List CK)(S:List (Nat×Value))(G:World->Prop):Prop where
 run:Cf n S->∀w,G w->runK P Q ks .normal ⟨dU n S,ds⟩ w
structure LD(P:Program)(n:Nat)(ds:List Deferred)(Q:Exit->Act->World->Prop)(ks:List CK)(ops:Array Oper)(l:List Oper)(S:List (Nat×Value))(G:World->Prop):Prop where
 run:Cf n S->∀w,G w->wpList P ops (runK P Q ks) l ⟨dU n S,ds⟩ w
section
variable{P:Program}{n:Nat}{ds:List Deferred}{Q:Exit->Act->World->Prop}{ks:List CK}{S:List (Nat×Value)}{G:World->Prop}{ops:Array Oper}{l:List Oper}
variable{x y:Code}{t:Bool}{d j g:Nat}{op:Op}{ty:TypeId}{pos:String}{af:Array Edge}{X:Type}{f:FuncId}
theorem eM(h:KD P n ds Q (.code x::.code y::ks) S G):KD P n ds Q (.code (.seq x y)::ks) S G:=⟨λ hS w hw=>by have:=h.run hS w hw;simp only[runK] at this ⊢;rw[K7] at this;exact wp_seq this⟩
theorem E3(h:KD P n ds Q ks S G):KD P n ds Q (.code .skip::ks) S G:=⟨λ hS w hw=>wp_skip (h.run hS w hw)⟩
theorem Lq{c:Operand}(ht:t=true->KD P n ds Q (.code x::ks) S G)(hf:t=false->KD P n ds Q (.code y::ks) S G)(hc:ev S c=.bool t:=by exact rfl):KD P n ds Q (.code (.cond c x y)::ks) S G:=⟨λ hS w hw =>
 wp_cond_split (by rw[iY hS];exact hc) (λ h=>(ht h).run hS w hw) (λ h=>(hf h).run hS w hw)⟩
theorem dB{id:Nat}{l:List Oper}(h:LD P n ds Q ks l.toArray l S G):KD P n ds Q (.code (.region id l.toArray false)::ks) S G :=⟨λ hS w hw=>wp_region_lit (h.run hS w hw)⟩
theorem aAW{φ:Prop}(h:φ->LD P n ds Q ks ops l S G):LD P n ds Q ks ops l S (λ w=>φ/\G w):=⟨λ hS w hw=>(h hw.1).run hS w hw.2⟩
theorem fW(h:KD P n ds Q ks S G):LD P n ds Q ks ops [] S G:=⟨h.run⟩
theorem aDv(h:Cf n S->∀w,G w->Q .ret ⟨dU n S,ds⟩ w):KD P n ds Q (.code .ret::ks) S G:=⟨λ hS w hw=>wp_ret (vE (h hS w hw))⟩
theorem fL{v:Value}(hrun:aH P S G ⟨some d,op,ty,pos,af,none⟩ v)(hd:Nat.blt d n=true)(h:LD P n ds Q ks ops l ((d,v)::S) G):LD P n ds Q ks ops (⟨some d,op,ty,pos,af,none⟩::l) S G:=⟨λ hS w hw =>
 wpList_plain rfl λ K hK=>by unfold Oper.wp;rw[iY hS,hrun.run w hw];simp only[Oper.upon,I0];exact hK _ _ (h.run (hS.cons hd) w hw)⟩
theorem E5{V:X->Value}{G':X->World->Prop}(hrun:aQ P S G ⟨some d,op,ty,pos,af,none⟩ X V G')(hd:Nat.blt d n=true)(h:∀x,LD P n ds Q ks ops l ((d,V x)::S) (G' x)):LD P n ds Q ks ops (⟨some d,op,ty,pos,af,none⟩::l) S G:=⟨λ hS w hw =>
 wpList_plain rfl λ K hK=>by unfold Oper.wp;rw[iY hS];refine(hrun.run w hw).upon λ x w' hg=>?_;rw[I0];exact hK _ _ ((h x).run (hS.cons hd) w' hg)⟩
theorem S5{V:X->Value}{G':X->World->Prop}(hrun:aQ P S G ⟨none,op,ty,pos,af,none⟩ X V G')(h:∀x,LD P n ds Q ks ops l S (G' x)):LD P n ds Q ks ops (⟨none,op,ty,pos,af,none⟩::l) S G:=⟨λ hS w hw =>
 wpList_plain rfl λ K hK=>by unfold Oper.wp;rw[iY hS];exact(hrun.run w hw).upon λ x w' hg=>hK _ _ ((h x).run hS w' hg)⟩
theorem Uh{n:Nat}{S:List (Nat×Value)}{ops:Array Oper}(hS:Cf n S)(hj:(ops[j]?).bind (·.dst)=some g)(hg:look S g=.bool t):yielded ops (dU n S) j=some t:=by
 have e:=congrFun (iY (ds:=[]) hS) (.tmp g);simp only[Act.eval,ev,hg] at e;unfold yielded;rw[hj];simp only[Option.bind_some];rw[Array.getD_eq_getD_getElem?] at e;cases h2:(dU n S)[g]? with
 | none=>rw[h2] at e;simp[undef] at e
 | some u=>rw[h2] at e;simp at e;subst e;rfl
theorem df{want:Bool}(hj:(ops[j]?).bind (·.dst)=some g)(hg:look S g=.bool want)(h:LD P n ds Q ks ops (⟨some d,op,ty,pos,af,none⟩::l) S G):LD P n ds Q ks ops (⟨some d,op,ty,pos,af,some (j,want)⟩::l) S G:=⟨λ hS w hw=>by
 have hy:=Uh hS hj hg;have:=h.run hS w hw;unfold wpList at this ⊢;rw[if_pos (by simp[Region.wanted])] at this;rw[if_pos (by simp[Region.wanted,hy])]
 exact this⟩
theorem Ax{x:Operand}{cap:Array Value}(hx:ev S x=.func (.func f) #[] cap)(h:LD P n (⟨.fn (.func f) cap,#[]⟩::ds) Q ks ops l S G):LD P n ds Q ks ops (⟨none,.defer {callee:=.value x,args:=⟨[]⟩,argTypes:=⟨[]⟩},ty,pos,af,none⟩::l) S G:=⟨λ hS w hw =>
 wpList_plain rfl λ K hK=>by
  unfold Oper.wp;rw[iY hS];have hr:(execOp (ev S) ⟨none,.defer {callee:=.value x,args:=⟨[]⟩,argTypes:=⟨[]⟩},ty,pos,af,none⟩).run P w=.ok (.defer ⟨.fn (.func f) cap,#[]⟩) w:=by simp[execOp,resolve,hx,Deferred.ofValue]
  rw[hr];exact hK _ _ (h.run hS w hw)⟩
theorem Mf{P:Program}{fn:Func}{c:Code}{args:Array Value}{w:World}{R:Ending->World->Prop}{n:Nat}{G:World->Prop}(hf:P.funcs[f]?=some fn)(hn:fn.ntmps=n)(hb:fn.body=some c)(hlen:Nat.ble args.size n=true)(hG:G w)(h:KD P n [] (bodyPostD P fn R) [.code c] (bY 0 args.toList) G):Calls P f args w R:=by subst hn;have hl:args.size<=fn.ntmps:=Nat.le_of_ble_eq_true hlen;refine calls_of_wp_defers hf hb ?_;rw[Q4 _ _ hl];exact h.run (Oa _ _ _ (by simpa using hl)) w hG
def Idle(P:Program)(g:FuncId)(cap:Array Value):Prop:=∀w,CallsD P g cap .returning w λ e u' w'=>e=.returned (.tuple #[])/\u'=.returning/\w'=w
variable{w0:World}{M:List Nat}{H:List (Nat×Obj)}{A F:Fr}{O:List Ow}
theorem Bl{fn:Func}{R:Ending->World->Prop}{rs:List ResultVar}{vs:List Value}{g:FuncId}{cap:Array Value}(hi:Idle P g cap)(hp:plain P g=true)(hr:fn.results=⟨rs⟩)(hv:jU P S H rs vs)(h:∀w,SF w0 M H A F O w->R (.returned (gU vs)) w) :
  KD P n [⟨.fn (.func g) cap,#[]⟩] (bodyPostD P fn R) (.code .ret::ks) S (SF w0 M H A F O) :=
 aDv λ hS w hw=>by
  refine leaves_cons (f:=g) (args:=cap) (by simp) (by simp[invoke,nX hp]) ?_;refine(hi w).mono ?_;rintro e u' w' ⟨rfl,rfl,rfl⟩;exact⟨_,Oj hS hw.st hr hv,h _ hw⟩
variable{d:Nat}{ty t:TypeId}{pos:String}{af:Array Edge}{gd:Option (Nat×Bool)}{dst:Option Nat}{x y:Operand}{v:Value}{w w':World}
theorem bE{fn:Fn}{cap:List Operand}{vs:List Value}(hc:lX S cap=vs:=by(repeat (first|exact bK _|(apply aZ;focus ((conv=>{lhs;whnf});try exact rfl))));done):aH P S G ⟨some d,.makeFunc fn ⟨[]⟩ ⟨cap⟩,ty,pos,af,gd⟩ (.func fn #[] ⟨vs⟩):=⟨λ w _=>by
 subst hc;have hm:(cap.map (ev S)).toArray=⟨lX S cap⟩:=by rw[sE]
 simp only[execOp,List.map_toArray,List.map_nil,hm];rfl⟩
theorem Mp{fn:Fn}{a b:Array Value}{t':TypeId}(hx:ev S x=.func fn a b)(hy:ev S y=.nilFunc)(h:∀w,(binOp .eql t (.func fn a b) .nilFunc).run P w=.ok (.bool false) w):aH P S G ⟨some d,.binOp .eql t x y t',ty,pos,af,gd⟩ (.bool false):=⟨λ w _=>by simp[execOp,hx,hy,h w,eqGuard]⟩
theorem Mu{pv:Value}{t2 t':TypeId}(hx:ev S x=.iface t2 pv)(hy:ev S y=.nilIface)(h:∀w,(binOp .neq t (.iface t2 pv) .nilIface).run P w=.ok (.bool true) w):aH P S G ⟨some d,.binOp .neq t x y t',ty,pos,af,gd⟩ (.bool true):=⟨λ w _=>by simp[execOp,hx,hy,h w,eqGuard]⟩
theorem P5{α:Type}:∀(l:List α) (i:Nat),(qK l i).Sublist l
 | [],_=>List.Sublist.refl _
 | _::_,0=>List.sublist_cons_self ..
 | _::r,i+1=>(P5 r i).cons_cons _
theorem At.perm{H:List (Nat×Obj)}{i b:Nat}{o:Obj}(h:At H i b o):H.Perm ((b,o)::qK H i):=by
 induction h with
 | head=>exact List.Perm.refl _
 | tail _ ih=>exact(ih.cons _).trans (List.Perm.swap _ _ _)
theorem SF.bP(h:SF w0 M H A F O w){i b:Nat}{cs:List Value}{T:TypeId}(ha:At H i b (.cells ⟨cs⟩ T (0,0))):SF w0 M (qK H i) A ((some ⟨b,0,none⟩,cs)::F) O w:=by
 have hp:=h.perm ha.perm.symm (List.Perm.refl _);have hs:(Ks (qK H i) O).Sublist (Ks ((b,.cells ⟨cs⟩ T (0,0))::qK H i) O):=by unfold Ks;exact((List.sublist_cons_self ..).map _).append (List.Sublist.refl _)
 have hd:=hp.dis;have hb:b∉Ks (qK H i) O:=by unfold Ks at hd ⊢;simp only[List.map_cons,List.cons_append,List.nodup_cons] at hd;exact hd.1
 refine⟨h.st.sub (P5 H i),λ f hf=>⟨(hp.old f hf).1,λ hc hm=>(hp.old f hf).2 hc (hs.subset hm)⟩,λ f hf=>?_,h.own,hp.dis.sublist hs⟩;rcases List.mem_cons.1 hf with rfl|hf;·refine⟨Cl.block (pre:=[]) (rest:=[]) (T:=T) (fr:=(0,0)) (by simpa using h.st.at ha) rfl,λ _=>⟨hb,?_⟩⟩;exact(h.st.new _ ha.mem).symm
 ·exact⟨(h.new f hf).1,λ hc=>⟨λ hm=>((hp.new f hf).2 hc).1 (hs.subset hm),((h.new f hf).2 hc).2⟩⟩
end
end
end Go.Ct

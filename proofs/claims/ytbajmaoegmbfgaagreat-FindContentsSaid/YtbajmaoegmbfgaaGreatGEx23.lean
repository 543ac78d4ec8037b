/- Merged. -/
import Derived.Test.YtbajmaoegmbfgaaGreatGEx18
import Derived.Test.YtbajmaoegmbfgaaGreatGRn1
set_option linter.unusedSimpArgs false
set_option linter.unusedVariables false
namespace Go.Proofs.YtbajmaoegmbfgaaGreat
open Go.Proofs.Tryz
open Go Go.RowKit Go.Ct
section
abbrev Tf(k:Cl):List Value:=[.int .i64 k.kind,.int .i64 k.t.root,.bool k.t.ro,.int .i64 k.a,.int .i64 k.b,.int .i64 k.n,.int .i64 k.index,.int .u64 k.hash,.int .u64 k.mask,.string k.key,.int .u64 k.val,.int .u64 k.exp,.int .i64 k.Kc,.bool k.only,.bool false,.slice none 0 0,.slice none 0 0,.int .i64 0,.bool false,.int .u64 0,.string ⟨#[]⟩,.int .i64 0,.int .i64 0,.int .i64 0,.bool false]
def r6(k:Cl):Prop:=(1<=k.kind/\k.kind<=4)∨(7<=k.kind/\k.kind<=12)
variable{k:Cl}
theorem bP(h:k.kind=7∨k.kind=9):refuse k=if k.key.size<=64 then 0 else 1:=if_pos h
theorem cA(h:k.kind=8):refuse k=if k.key.size<=64/\0<=k.Kc/\k.Kc<=3 then 0 else 1:=(if_neg (by omega)).trans (if_pos h)
theorem eX(h:k.kind<7∨9<k.kind):refuse k=0:=(if_neg (by omega)).trans (if_neg (by omega))
theorem bn(hk:r6 k)(w:World):Calls prog 175 #[.agg ⟨Tf k⟩] w λ e w'=>e=.returned (.int .i64 (refuse k))/\St w [] [] w':=by
 have hk2:=hk;unfold r6 at hk2;refine enter func175 ntmps175 rfl rfl (SF.s0 w) ?_;simp only[cC]
 refine K1q ?_;intro x1;refine jG ?_;refine iE ?_;refine aG ?_;refine cO ?_;refine aT ?_;refine lP ?_;refine bD (λ c5=>?_) (λ c5=>?_)
 ·refine aW ?_;refine bD (λ c5=>?_) (λ c5=>?_)
  ·refine iE ?_;refine aP (cV (hc:=λ w1 hw=>oI _ w1)) (λ x10=>?_);refine oG ?_;refine bD (λ c11=>?_) (λ c11=>?_)
   ·refine cU ?_;refine K1a ?_;intro w hw;first
    | (rw[bP (by omega),if_neg (by simp_all)];exact⟨rfl,hw.done⟩)
    | (rw[bP (by omega),if_pos (by simp_all)];exact⟨rfl,hw.done⟩)
    | (rw[cA (by omega),if_neg (by rintro ⟨h1,h2,h3⟩;first|omega|simp_all)];exact⟨rfl,hw.done⟩)
    | (rw[cA (by omega),if_pos ⟨by simp_all,by omega,by omega⟩];exact⟨rfl,hw.done⟩)
    | (rw[eX (by omega)];exact⟨rfl,hw.done⟩)
    | (exfalso;omega)
   ·refine Kb0 ?_;refine K1a ?_;intro w hw;first
    | (rw[bP (by omega),if_neg (by simp_all)];exact⟨rfl,hw.done⟩)
    | (rw[bP (by omega),if_pos (by simp_all)];exact⟨rfl,hw.done⟩)
    | (rw[cA (by omega),if_neg (by rintro ⟨h1,h2,h3⟩;first|omega|simp_all)];exact⟨rfl,hw.done⟩)
    | (rw[cA (by omega),if_pos ⟨by simp_all,by omega,by omega⟩];exact⟨rfl,hw.done⟩)
    | (rw[eX (by omega)];exact⟨rfl,hw.done⟩)
    | (exfalso;omega)
  ·refine lP ?_;refine bD (λ c12=>?_) (λ c12=>?_)
   ·refine iE ?_;refine aP (cV (hc:=λ w1 hw=>oI _ w1)) (λ x16=>?_);refine Cr ?_;(refine eE 18 (λ g18=>?_) (λ g18=>?_)<;>refine Ka1 ?_);all_goals (refine J89 ?_;refine aA ?_)
    all_goals (first|refine aI ?_|(refine eE 23 (λ g23=>?_) (λ g23=>?_)<;>refine Ka1 ?_))
    all_goals (refine Ka2 ?_;refine Ka8 ?_)
    all_goals
    refine bD (λ c27=>?_) (λ c27=>?_)
    ·all_goals refine cU ?_
     all_goals
      refine K1a ?_;intro w hw;first
      | (rw[bP (by omega),if_neg (by simp_all)];exact⟨rfl,hw.done⟩)
      | (rw[bP (by omega),if_pos (by simp_all)];exact⟨rfl,hw.done⟩)
      | (rw[cA (by omega),if_neg (by rintro ⟨h1,h2,h3⟩;first|omega|simp_all)];exact⟨rfl,hw.done⟩)
      | (rw[cA (by omega),if_pos ⟨by simp_all,by omega,by omega⟩];exact⟨rfl,hw.done⟩)
      | (rw[eX (by omega)];exact⟨rfl,hw.done⟩)
      | (exfalso;omega)
    ·try exact nv c27
     all_goals (refine Kb0 ?_)
     all_goals
      refine K1a ?_;intro w hw;first
      | (rw[bP (by omega),if_neg (by simp_all)];exact⟨rfl,hw.done⟩)
      | (rw[bP (by omega),if_pos (by simp_all)];exact⟨rfl,hw.done⟩)
      | (rw[cA (by omega),if_neg (by rintro ⟨h1,h2,h3⟩;first|omega|simp_all)];exact⟨rfl,hw.done⟩)
      | (rw[cA (by omega),if_pos ⟨by simp_all,by omega,by omega⟩];exact⟨rfl,hw.done⟩)
      | (rw[eX (by omega)];exact⟨rfl,hw.done⟩)
      | (exfalso;omega)
   ·refine aT ?_;refine lP ?_;refine bD (λ c28=>?_) (λ c28=>?_)
    ·refine aW ?_;refine bD (λ c28=>?_) (λ c28=>?_)
     ·refine Ka6 ?_;refine J3 ?_;refine oG ?_;refine bD (λ c34=>?_) (λ c34=>?_)
      ·refine cU ?_;refine K1a ?_;intro w hw;first
       | (rw[bP (by omega),if_neg (by simp_all)];exact⟨rfl,hw.done⟩)
       | (rw[bP (by omega),if_pos (by simp_all)];exact⟨rfl,hw.done⟩)
       | (rw[cA (by omega),if_neg (by rintro ⟨h1,h2,h3⟩;omega)];exact⟨rfl,hw.done⟩)
       | (rw[cA (by omega),if_pos ⟨by simp_all,by omega,by omega⟩];exact⟨rfl,hw.done⟩)
       | (rw[eX (by omega)];exact⟨rfl,hw.done⟩)
       | (exfalso;omega)
      ·refine Kb0 ?_;refine K1a ?_;intro w hw;first
       | (rw[bP (by omega),if_neg (by simp_all)];exact⟨rfl,hw.done⟩)
       | (rw[bP (by omega),if_pos (by simp_all)];exact⟨rfl,hw.done⟩)
       | (rw[cA (by omega),if_neg (by rintro ⟨h1,h2,h3⟩;first|omega|simp_all)];exact⟨rfl,hw.done⟩)
       | (rw[cA (by omega),if_pos ⟨by simp_all,by omega,by omega⟩];exact⟨rfl,hw.done⟩)
       | (rw[eX (by omega)];exact⟨rfl,hw.done⟩)
       | (exfalso;omega)
     ·refine Kb0 ?_;refine K1a ?_;intro w hw;first
      | (rw[bP (by omega),if_neg (by simp_all)];exact⟨rfl,hw.done⟩)
      | (rw[bP (by omega),if_pos (by simp_all)];exact⟨rfl,hw.done⟩)
      | (rw[cA (by omega),if_neg (by rintro ⟨h1,h2,h3⟩;first|omega|simp_all)];exact⟨rfl,hw.done⟩)
      | (rw[cA (by omega),if_pos ⟨by simp_all,by omega,by omega⟩];exact⟨rfl,hw.done⟩)
      | (rw[eX (by omega)];exact⟨rfl,hw.done⟩)
      | (exfalso;omega)
    ·refine dS ?_;refine Ti ?_;refine bD (λ c28=>?_) (λ c28=>?_)
     ·refine Ka6 ?_;refine J3 ?_;refine oG ?_;refine bD (λ c34=>?_) (λ c34=>?_)
      ·refine cU ?_;refine K1a ?_;intro w hw;first
       | (rw[bP (by omega),if_neg (by simp_all)];exact⟨rfl,hw.done⟩)
       | (rw[bP (by omega),if_pos (by simp_all)];exact⟨rfl,hw.done⟩)
       | (rw[cA (by omega),if_neg (by rintro ⟨h1,h2,h3⟩;omega)];exact⟨rfl,hw.done⟩)
       | (rw[cA (by omega),if_pos ⟨by simp_all,by omega,by omega⟩];exact⟨rfl,hw.done⟩)
       | (rw[eX (by omega)];exact⟨rfl,hw.done⟩)
       | (exfalso;omega)
      ·refine Kb0 ?_;refine K1a ?_;intro w hw;first
       | (rw[bP (by omega),if_neg (by simp_all)];exact⟨rfl,hw.done⟩)
       | (rw[bP (by omega),if_pos (by simp_all)];exact⟨rfl,hw.done⟩)
       | (rw[cA (by omega),if_neg (by rintro ⟨h1,h2,h3⟩;first|omega|simp_all)];exact⟨rfl,hw.done⟩)
       | (rw[cA (by omega),if_pos ⟨by simp_all,by omega,by omega⟩];exact⟨rfl,hw.done⟩)
       | (rw[eX (by omega)];exact⟨rfl,hw.done⟩)
       | (exfalso;omega)
     ·refine Kb0 ?_;refine K1a ?_;intro w hw;first
      | (rw[bP (by omega),if_neg (by simp_all)];exact⟨rfl,hw.done⟩)
      | (rw[bP (by omega),if_pos (by simp_all)];exact⟨rfl,hw.done⟩)
      | (rw[cA (by omega),if_neg (by rintro ⟨h1,h2,h3⟩;first|omega|simp_all)];exact⟨rfl,hw.done⟩)
      | (rw[cA (by omega),if_pos ⟨by simp_all,by omega,by omega⟩];exact⟨rfl,hw.done⟩)
      | (rw[eX (by omega)];exact⟨rfl,hw.done⟩)
      | (exfalso;omega)
 ·refine dS ?_;refine Ti ?_;refine bD (λ c5=>?_) (λ c5=>?_)
  ·refine iE ?_;refine aP (cV (hc:=λ w1 hw=>oI _ w1)) (λ x10=>?_);refine oG ?_;refine bD (λ c11=>?_) (λ c11=>?_)
   ·refine cU ?_;refine K1a ?_;intro w hw;first
    | (rw[bP (by omega),if_neg (by simp_all)];exact⟨rfl,hw.done⟩)
    | (rw[bP (by omega),if_pos (by simp_all)];exact⟨rfl,hw.done⟩)
    | (rw[cA (by omega),if_neg (by rintro ⟨h1,h2,h3⟩;first|omega|simp_all)];exact⟨rfl,hw.done⟩)
    | (rw[cA (by omega),if_pos ⟨by simp_all,by omega,by omega⟩];exact⟨rfl,hw.done⟩)
    | (rw[eX (by omega)];exact⟨rfl,hw.done⟩)
    | (exfalso;omega)
   ·refine Kb0 ?_;refine K1a ?_;intro w hw;first
    | (rw[bP (by omega),if_neg (by simp_all)];exact⟨rfl,hw.done⟩)
    | (rw[bP (by omega),if_pos (by simp_all)];exact⟨rfl,hw.done⟩)
    | (rw[cA (by omega),if_neg (by rintro ⟨h1,h2,h3⟩;first|omega|simp_all)];exact⟨rfl,hw.done⟩)
    | (rw[cA (by omega),if_pos ⟨by simp_all,by omega,by omega⟩];exact⟨rfl,hw.done⟩)
    | (rw[eX (by omega)];exact⟨rfl,hw.done⟩)
    | (exfalso;omega)
  ·refine lP ?_;refine bD (λ c12=>?_) (λ c12=>?_)
   ·refine iE ?_;refine aP (cV (hc:=λ w1 hw=>oI _ w1)) (λ x16=>?_);refine Cr ?_;(refine eE 18 (λ g18=>?_) (λ g18=>?_)<;>refine Ka1 ?_);all_goals (refine J89 ?_;refine aA ?_)
    all_goals (first|refine aI ?_|(refine eE 23 (λ g23=>?_) (λ g23=>?_)<;>refine Ka1 ?_))
    all_goals (refine Ka2 ?_;refine Ka8 ?_)
    all_goals
    refine bD (λ c27=>?_) (λ c27=>?_)
    ·all_goals refine cU ?_
     all_goals
      refine K1a ?_;intro w hw;first
      | (rw[bP (by omega),if_neg (by simp_all)];exact⟨rfl,hw.done⟩)
      | (rw[bP (by omega),if_pos (by simp_all)];exact⟨rfl,hw.done⟩)
      | (rw[cA (by omega),if_neg (by rintro ⟨h1,h2,h3⟩;omega)];exact⟨rfl,hw.done⟩)
      | (rw[cA (by omega),if_pos ⟨by simp_all,by omega,by omega⟩];exact⟨rfl,hw.done⟩)
      | (rw[eX (by omega)];exact⟨rfl,hw.done⟩)
      | (exfalso;omega)
    ·try exact nv c27
     all_goals (refine Kb0 ?_)
     all_goals
      refine K1a ?_;intro w hw;first
      | (rw[bP (by omega),if_neg (by simp_all)];exact⟨rfl,hw.done⟩)
      | (rw[bP (by omega),if_pos (by simp_all)];exact⟨rfl,hw.done⟩)
      | (rw[cA (by omega),if_neg (by rintro ⟨h1,h2,h3⟩;simp_all)];exact⟨rfl,hw.done⟩)
      | (rw[cA (by omega),if_pos ⟨by simp_all,by omega,by omega⟩];exact⟨rfl,hw.done⟩)
      | (rw[eX (by omega)];exact⟨rfl,hw.done⟩)
      | (exfalso;omega)
   ·refine aT ?_;refine lP ?_;refine bD (λ c28=>?_) (λ c28=>?_)
    ·refine aW ?_;refine bD (λ c28=>?_) (λ c28=>?_)
     ·refine Ka6 ?_;refine J3 ?_;refine oG ?_;refine bD (λ c34=>?_) (λ c34=>?_)
      ·refine cU ?_;refine K1a ?_;intro w hw;first
       | (rw[bP (by omega),if_neg (by simp_all)];exact⟨rfl,hw.done⟩)
       | (rw[bP (by omega),if_pos (by simp_all)];exact⟨rfl,hw.done⟩)
       | (rw[cA (by omega),if_neg (by rintro ⟨h1,h2,h3⟩;omega)];exact⟨rfl,hw.done⟩)
       | (rw[cA (by omega),if_pos ⟨by simp_all,by omega,by omega⟩];exact⟨rfl,hw.done⟩)
       | (rw[eX (by omega)];exact⟨rfl,hw.done⟩)
       | (exfalso;omega)
      ·refine Kb0 ?_;refine K1a ?_;intro w hw;first
       | (rw[bP (by omega),if_neg (by simp_all)];exact⟨rfl,hw.done⟩)
       | (rw[bP (by omega),if_pos (by simp_all)];exact⟨rfl,hw.done⟩)
       | (rw[cA (by omega),if_neg (by rintro ⟨h1,h2,h3⟩;first|omega|simp_all)];exact⟨rfl,hw.done⟩)
       | (rw[cA (by omega),if_pos ⟨by simp_all,by omega,by omega⟩];exact⟨rfl,hw.done⟩)
       | (rw[eX (by omega)];exact⟨rfl,hw.done⟩)
       | (exfalso;omega)
     ·refine Kb0 ?_;refine K1a ?_;intro w hw;first
      | (rw[bP (by omega),if_neg (by simp_all)];exact⟨rfl,hw.done⟩)
      | (rw[bP (by omega),if_pos (by simp_all)];exact⟨rfl,hw.done⟩)
      | (rw[cA (by omega),if_neg (by rintro ⟨h1,h2,h3⟩;first|omega|simp_all)];exact⟨rfl,hw.done⟩)
      | (rw[cA (by omega),if_pos ⟨by simp_all,by omega,by omega⟩];exact⟨rfl,hw.done⟩)
      | (rw[eX (by omega)];exact⟨rfl,hw.done⟩)
      | (exfalso;omega)
    ·refine dS ?_;refine Ti ?_;refine bD (λ c28=>?_) (λ c28=>?_)
     ·refine Ka6 ?_;refine J3 ?_;refine oG ?_;refine bD (λ c34=>?_) (λ c34=>?_)
      ·refine cU ?_;refine K1a ?_;intro w hw;first
       | (rw[bP (by omega),if_neg (by simp_all)];exact⟨rfl,hw.done⟩)
       | (rw[bP (by omega),if_pos (by simp_all)];exact⟨rfl,hw.done⟩)
       | (rw[cA (by omega),if_neg (by rintro ⟨h1,h2,h3⟩;omega)];exact⟨rfl,hw.done⟩)
       | (rw[cA (by omega),if_pos ⟨by simp_all,by omega,by omega⟩];exact⟨rfl,hw.done⟩)
       | (rw[eX (by omega)];exact⟨rfl,hw.done⟩)
       | (exfalso;omega)
      ·refine Kb0 ?_;refine K1a ?_;intro w hw;first
       | (rw[bP (by omega),if_neg (by simp_all)];exact⟨rfl,hw.done⟩)
       | (rw[bP (by omega),if_pos (by simp_all)];exact⟨rfl,hw.done⟩)
       | (rw[cA (by omega),if_neg (by rintro ⟨h1,h2,h3⟩;first|omega|simp_all)];exact⟨rfl,hw.done⟩)
       | (rw[cA (by omega),if_pos ⟨by simp_all,by omega,by omega⟩];exact⟨rfl,hw.done⟩)
       | (rw[eX (by omega)];exact⟨rfl,hw.done⟩)
       | (exfalso;omega)
     ·refine Kb0 ?_;refine K1a ?_;intro w hw;first
      | (rw[bP (by omega),if_neg (by simp_all)];exact⟨rfl,hw.done⟩)
      | (rw[bP (by omega),if_pos (by simp_all)];exact⟨rfl,hw.done⟩)
      | (rw[cA (by omega),if_neg (by rintro ⟨h1,h2,h3⟩;first|omega|simp_all)];exact⟨rfl,hw.done⟩)
      | (rw[cA (by omega),if_pos ⟨by simp_all,by omega,by omega⟩];exact⟨rfl,hw.done⟩)
      | (rw[eX (by omega)];exact⟨rfl,hw.done⟩)
      | (exfalso;omega)
theorem Ot(r:Int)(f:Bool)(w:World):Calls prog 176 #[.int .i64 r,.bool f] w λ e w'=>e=.returned (.agg ⟨(C9 r f).cells⟩)/\St w [] [] w':=by refine enter func176 ntmps176 rfl rfl (SF.s0 w) ?_;simp only[cC];refine K0t ?_;intro x4;refine jD ?_;refine wU ?_;refine aZ results176 (λ w hw=>?_);exact⟨rfl,hw.done⟩
theorem Wj{B:Bool->Tr}{C:Tr}(h:k.kind=10∨k.kind=11):(if k.kind=10 then B false else if k.kind=11 then B true else C)=B (k.kind==11):=by rcases h with h|h<;>rw[h]<;>rfl
section
variable{k:Cl}{bx bm:Nat}{x:XS}{dn:Bool}{rs:Rs}{D:List Nat}{A:Fr}{w:World}{g:Gx}
set_option maxRecDepth 100000 in
set_option maxHeartbeats 2000000 in
theorem aDP(hg:g.Ok){m:Nat}(n:Nat)(hk:r6 k)(hn:n<=1073741824)(hm:m<18446744073709551616)(em:k.mask=(m:Int))(ht:k.t.root<=9223372036854775807)(ha:k.a<=x.L.length)(hb:k.b<=x.L.length)(hnn:k.n<=x.L.length)(hA:∀f∈aN x.L,f∈A)(go:gI g x (kN k (jQ k.key m) n))(ok:x.Ok)(hs:SF w D (xH k bx bm x dn rs) A [] (xW x) w):Calls prog 143 #[.pointer (some ⟨bx,0,none⟩)] w λ e w'=>∃q:Rs×XS×List aQ,e=.returned (.agg ⟨q.1.cells⟩)/\Nx g x q.2.1 q.2.2 (.done q.1) 0/\SF w D (xH k bx bm q.2.1 dn rs) [] (aN q.2.2) (xW q.2.1) w':=by
 have hk2:=hk;unfold r6 at hk2;refine enter func143 ntmps143 rfl rfl (cJ hs) ?_;simp only[cC]
 refine J0 ?_;refine aJ (λ x2=>?_);refine aG ?_;refine Jw ?_;refine aC (aU (k:=25) (vs:=Tf k) rf cY eD rfl rfl) rfl ?_;refine aJ (λ x3=>?_);refine J5 ?_;refine aT ?_;refine nJ ?_;refine aP (cV (hc:=λ w1 hw=>bn hk w1)) (λ x14=>?_);refine Ka5 ?_;refine Kc5 ?_;refine bD (λ c16=>?_) (λ c16=>?_)
 ·refine J2 ?_;refine wU ?_;refine aZ results143 (λ w hw=>?_);first
  | exact⟨({Rs.zero with err:=refuse k},x,[]),rfl,⟨go.to (λ _=>if_pos c16),ok,by simp,Nat.le_refl _,(bN _)⟩,hw.bB (hF:=by exact bA.nil)⟩
 ·have g0:=go.to (λ _=>if_neg (λ h:refuse k≠0=>absurd (show refuse k=0 from by assumption) h));have e0:refuse k=0:=by assumption
  refine lB ?_;refine iE ?_;refine aG ?_;refine cO ?_;refine lP ?_;refine bD (λ c21=>?_) (λ c21=>?_)
  ·have q:=g0.to (λ _=>if_pos c21);refine J2 ?_;refine K0o ?_;refine J3 ?_;refine aD (cM (hs:=xH k bx bm x dn rs) (os:=xW x) (hc:=λ w hs=>pS hg k.t k.a _ ht ha q ok hs)) (λ x28 h28=>?_);refine aP (cV (hc:=λ w1 hw=>Ot _ _ w1)) (λ x29=>?_);refine K1b ?_;intro w hw;first
   | exact⟨({Rs.zero with err:=refuse k},x,[]),rfl,⟨go.to (λ _=>if_pos c16),ok,by simp,Nat.le_refl _,(bN _)⟩,hw.bB (hF:=by exact bA.nil)⟩
   | exact⟨(C9 x28.1 false,x28.2.1,x28.2.2),rfl,h28.cR h28.go (bN _),by rw[List.append_nil] at hw;exact hw.v4⟩
  ·have g1:=g0.to (λ _=>if_neg c21);refine lP ?_;refine bD (λ c30=>?_) (λ c30=>?_)
   ·have q:=g1.to (λ _=>if_pos c30);refine J2 ?_;refine K0o ?_;refine Kd2 ?_;refine J3 ?_;refine aD (cM (hs:=xH k bx bm x dn rs) (os:=xW x) (hc:=λ w hs=>uU hg k.t k.a k.b k.n _ ht ha hnn q ok hs)) (λ x41 h41=>?_);refine aP (cV (hc:=λ w1 hw=>Ot _ _ w1)) (λ x42=>?_);refine K1b ?_;intro w hw;first
    | exact⟨({Rs.zero with err:=refuse k},x,[]),rfl,⟨go.to (λ _=>if_pos c16),ok,by simp,Nat.le_refl _,(bN _)⟩,hw.bB (hF:=by exact bA.nil)⟩
    | exact⟨(C9 0 x41.1,x41.2.1,x41.2.2),rfl,h41,by rw[List.append_nil] at hw;exact hw.v4⟩
   ·have g2:=g1.to (λ _=>if_neg c30);refine lP ?_;refine bD (λ c43=>?_) (λ c43=>?_)
    ·have q:=g2.to (λ _=>if_pos c43);refine J2 ?_;refine K0o ?_;refine aD (cM (hs:=xH k bx bm x dn rs) (os:=xW x) (hc:=λ w hs=>D5 hg k.t _ ht q ok hs)) (λ x48 h48=>?_);refine aP (cV (hc:=λ w1 hw=>Ot _ _ w1)) (λ x49=>?_);refine K1b ?_;intro w hw;first
     | exact⟨({Rs.zero with err:=refuse k},x,[]),rfl,⟨go.to (λ _=>if_pos c16),ok,by simp,Nat.le_refl _,(bN _)⟩,hw.bB (hF:=by exact bA.nil)⟩
     | exact⟨(C9 x48.1 false,x48.2.1,x48.2.2),rfl,h48.cR h48.go (bN _),by rw[List.append_nil] at hw;exact hw.v4⟩
    ·have g3:=g2.to (λ _=>if_neg c43);refine lP ?_;refine bD (λ c50=>?_) (λ c50=>?_)
     ·have q:=g3.to (λ _=>if_pos c50);refine J2 ?_;refine K0o ?_;refine Kd2 ?_;refine J3 ?_;refine aD (cM (hs:=xH k bx bm x dn rs) (os:=xW x) (hc:=λ w hs=>Mk hg k.t k.a k.b k.n _ ht ha hb hnn q ok hs)) (λ x61 h61=>?_);refine aP (cV (hc:=λ w1 hw=>Ot _ _ w1)) (λ x62=>?_);refine K1b ?_;intro w hw;first
      | exact⟨({Rs.zero with err:=refuse k},x,[]),rfl,⟨go.to (λ _=>if_pos c16),ok,by simp,Nat.le_refl _,(bN _)⟩,hw.bB (hF:=by exact bA.nil)⟩
      | exact⟨(C9 0 x61.1,x61.2.1,x61.2.2),rfl,h61,by rw[List.append_nil] at hw;exact hw.v4⟩
     ·have g4:=g3.to (λ _=>if_neg c50);refine lP ?_;refine bD (λ c63=>?_) (λ c63=>?_)
      ·exfalso;omega
      ·refine lP ?_;refine bD (λ c79=>?_) (λ c79=>?_);·exfalso;omega
       ·refine lP ?_;refine bD (λ c94=>?_) (λ c94=>?_)
        ·have q:=g4.to (λ _=>if_pos c94);have ek:k.key.size<=64:=by rw[bP (by omega)] at e0;split at e0;assumption;cases e0
         refine J2 ?_;refine aD (cM (hs:=xH k bx bm x dn rs) (os:=xW x) (A0:=aN x.L) (hA:=E0l) (hc:=λ w hs=>aBf hg _ n hn hm em ek ht (λ f hf=>hf) q ok hs)) (λ x97 h97=>?_);refine K1b ?_;intro w hw;first
         | exact⟨({Rs.zero with err:=refuse k},x,[]),rfl,⟨go.to (λ _=>if_pos c16),ok,by simp,Nat.le_refl _,(bN _)⟩,hw.bB (hF:=by exact bA.nil)⟩
         | exact⟨(x97.1,x97.2.1,x97.2.2),rfl,h97,by rw[List.append_nil] at hw;exact hw.v4⟩
        ·have g7:=g4.to (λ _=>if_neg c94);refine lP ?_;refine bD (λ c98=>?_) (λ c98=>?_)
         ·have q:=g7.to (λ _=>if_pos c98);have ek:k.key.size<=64:=by rw[cA (by omega)] at e0;split at e0;(rename_i h;exact h.1);cases e0
          refine J2 ?_;refine aD (cM (hs:=xH k bx bm x dn rs) (os:=xW x) (A0:=aN x.L) (hA:=E0l) (hc:=λ w hs=>aDH hg _ n hn hm em ek ht (λ f hf=>hf) q ok hs)) (λ x101 h101=>?_);refine K1b ?_;intro w hw;first
          | exact⟨({Rs.zero with err:=refuse k},x,[]),rfl,⟨go.to (λ _=>if_pos c16),ok,by simp,Nat.le_refl _,(bN _)⟩,hw.bB (hF:=by exact bA.nil)⟩
          | exact⟨(x101.1,x101.2.1,x101.2.2),rfl,h101,by rw[List.append_nil] at hw;exact hw.v4⟩
         ·have g8:=g7.to (λ _=>if_neg c98);refine lP ?_;refine bD (λ c102=>?_) (λ c102=>?_)
          ·have q:=g8.to (λ _=>if_pos c102);have ek:k.key.size<=64:=by rw[bP (by omega)] at e0;split at e0;assumption;cases e0
           refine J2 ?_;refine aD (cM (hs:=xH k bx bm x dn rs) (os:=xW x) (A0:=aN x.L) (hA:=E0l) (hc:=λ w hs=>aCs hg _ n hn hm em ek ht (λ f hf=>hf) q ok hs)) (λ x105 h105=>?_);refine K1b ?_;intro w hw;first
           | exact⟨({Rs.zero with err:=refuse k},x,[]),rfl,⟨go.to (λ _=>if_pos c16),ok,by simp,Nat.le_refl _,(bN _)⟩,hw.bB (hF:=by exact bA.nil)⟩
           | exact⟨(x105.1,x105.2.1,x105.2.2),rfl,h105,by rw[List.append_nil] at hw;exact hw.v4⟩
          ·have g9:=g8.to (λ _=>if_neg c102);refine aT ?_;refine lP ?_;refine bD (λ c106=>?_) (λ c106=>?_)
           ·refine aW ?_;refine bD (λ c106=>?_) (λ c106=>?_)
            ·refine K2h ?_;intro x113 h113;refine K1b ?_;intro w hw;first
             | exact⟨({Rs.zero with err:=refuse k},x,[]),rfl,⟨go.to (λ _=>if_pos c16),ok,by simp,Nat.le_refl _,(bN _)⟩,hw.bB (hF:=by exact bA.nil)⟩
             | exact⟨(x113.1,x113.2.1,x113.2.2),rfl,h113,by rw[List.append_nil] at hw;exact hw.v4⟩
            ·refine lP ?_;refine bD (λ c114=>?_) (λ c114=>?_)
             ·have q:=(g9.to (λ _=>if_neg (by omega))).to (λ _=>if_neg (by omega));refine J2 ?_;refine aD (cM (hs:=xH k bx bm x dn rs) (os:=xW x) (hc:=λ w hs=>Wc hg _ n ht q ok hs)) (λ x117 h117=>?_);refine K1b ?_;intro w hw;first
              | exact⟨({Rs.zero with err:=refuse k},x,[]),rfl,⟨go.to (λ _=>if_pos c16),ok,by simp,Nat.le_refl _,(bN _)⟩,hw.bB (hF:=by exact bA.nil)⟩
              | exact⟨(x117.1,x117.2.1,x117.2.2),rfl,h117,by rw[List.append_nil] at hw;exact hw.v4⟩
             ·exfalso;omega
           ·refine dS ?_;refine Ti ?_;refine bD (λ c106=>?_) (λ c106=>?_)
            ·refine K2h ?_;intro x113 h113;refine K1b ?_;intro w hw;first
             | exact⟨({Rs.zero with err:=refuse k},x,[]),rfl,⟨go.to (λ _=>if_pos c16),ok,by simp,Nat.le_refl _,(bN _)⟩,hw.bB (hF:=by exact bA.nil)⟩
             | exact⟨(x113.1,x113.2.1,x113.2.2),rfl,h113,by rw[List.append_nil] at hw;exact hw.v4⟩
            ·refine lP ?_;refine bD (λ c114=>?_) (λ c114=>?_)
             ·have q:=(g9.to (λ _=>if_neg (by omega))).to (λ _=>if_neg (by omega));refine J2 ?_;refine aD (cM (hs:=xH k bx bm x dn rs) (os:=xW x) (hc:=λ w hs=>Wc hg _ n ht q ok hs)) (λ x117 h117=>?_);refine K1b ?_;intro w hw;first
              | exact⟨({Rs.zero with err:=refuse k},x,[]),rfl,⟨go.to (λ _=>if_pos c16),ok,by simp,Nat.le_refl _,(bN _)⟩,hw.bB (hF:=by exact bA.nil)⟩
              | exact⟨(x117.1,x117.2.1,x117.2.2),rfl,h117,by rw[List.append_nil] at hw;exact hw.v4⟩
             ·exfalso;omega
end
end
end Go.Proofs.YtbajmaoegmbfgaaGreat
namespace Go.Ct
open Go Go.RowKit
section
theorem ze{L:List Nv}{r:Rs}{gs ms cl gn:List Int}{R:Tr}(h:Wk L (.done r) gs ms cl gn R):gs=[]/\ms=[]/\cl=[]/\gn=[]/\R=.done r:=by cases h;exact⟨rfl,rfl,rfl,rfl,rfl⟩
def XS.re(x:XS)(free:Nat):XS:={x with a:=0,m:=0,c:=0,g:=0,fr:=free,st:=false}
theorem aCF{T R:Tr}{x:XS}{free N:Nat}(hw:Wk x.nodes T x.got x.made x.cel x.gns R)(hN:x.got.length+free=N):gI ⟨T,R,x.mm,free,N⟩ (x.re free) T:=.inl ⟨rfl,R,⟨Wk.nil _,hw,by show Rc (free-free) R x.mm R x.mm;rw[Nat.sub_self];exact Rc.refl _ _,Nat.le_refl _,Nat.zero_le _,Nat.zero_le _,Nat.zero_le _,Nat.zero_le _,hN⟩⟩
structure uD(T R:Tr)(free N:Nat)(rs:Rs)(x x':XS)(N':List aQ)(dn':Bool)(rs':Rs):Prop where
 ok:x'.Ok
 ext:x'.L=x.L++N'
 lc:x.cs.length<=x'.cs.length
 gl:x'.got.length<=N
 Pk:(dn'=true/\∃j,j<=free/\x'.got.length+free=N+j/\Wk x'.nodes T x'.got x'.made x'.cel x'.gns (.done rs')/\Rc j R x.mm (.done rs') x'.mm)∨(dn'=false/\rs'=rs/\x'.got.length=N/\∃R',R'.acc=some x'.nx/\Wk x'.nodes T x'.got x'.made x'.cel x'.gns R'/\Rc free R x.mm R' x'.mm)
variable{T R:Tr}{free N:Nat}{rs r:Rs}{x x':XS}
theorem Nx.z6{N':List aQ}(h:Nx ⟨T,R,x.mm,free,N⟩ (x.re free) x' N' (.done r) 0)(hs:x'.st=false):uD T R free N rs x x' N' true r:=by obtain⟨R',hR⟩:=h.go.run hs;obtain⟨e1,e2,e3,e4,e5⟩:=ze hR.suf;refine⟨h.ok,h.ext,h.lc,(by have:=hR.hN;show x'.got.length<=N;simp only at this;omega),.inl ⟨rfl,free-x'.fr,Nat.sub_le _ _,(by have:=hR.hN;have:=hR.hf;simp only at *;omega),?_,e5▸hR.rc⟩⟩;have hp:=hR.pre;rwa [List.take_of_length_le (List.drop_eq_nil_iff.1 e1),List.take_of_length_le (List.drop_eq_nil_iff.1 e2),List.take_of_length_le (List.drop_eq_nil_iff.1 e3),List.take_of_length_le (List.drop_eq_nil_iff.1 e4)] at hp
theorem Nx.aAb{N':List aQ}(h:Nx ⟨T,R,x.mm,free,N⟩ (x.re free) x' N' (.done r) 0)(hs:x'.st=true):uD T R free N rs x x' N' false rs:=by
 rcases h.go with h1|h1;·rw[hs] at h1;exact nomatch h1.1
 ·obtain⟨R',hR⟩:=h1.2;exact⟨h.ok,h.ext,h.lc,Nat.le_of_eq hR.hN,.inr ⟨rfl,rfl,hR.hN,R',hR.ac,hR.wk,hR.rc⟩⟩
end
end Go.Ct
namespace Go.Proofs.YtbajmaoegmbfgaaGreat
open Go Go.RowKit Go.Ct
section
section
variable{k:Cl}{bx bm:Nat}{x:XS}{rs:Rs}{D:List Nat}{A:Fr}{w:World}
theorem Rv{m n N:Nat}{R:Tr}(free:Nat)(hg:Gx.Ok ⟨kN k (jQ k.key m) n,R,x.mm,free,N⟩)(hwk:Wk x.nodes (kN k (jQ k.key m) n) x.got x.made x.cel x.gns R)(hN:x.got.length+free=N)(hk:r6 k)(hn:n<=1073741824)(hm:m<18446744073709551616)(em:k.mask=(m:Int))(ht:k.t.root<=9223372036854775807)(ha:k.a<=x.L.length)(hb:k.b<=x.L.length)(hnn:k.n<=x.L.length)(hA:∀f∈aN x.L,f∈A)(ok:x.Ok)(hs:SF w D (xH k bx bm x false rs) A [] (xW x) w):Calls Tryz.prog 99 #[.pointer (some ⟨bx,0,none⟩),.int .i64 (free:Int)] w λ e w'=>∃q:XS×List aQ×Bool×Rs,e=.returned (.tuple #[])/\uD (kN k (jQ k.key m) n) R free N rs x q.1 q.2.1 q.2.2.1 q.2.2.2/\SF w D (xH k bx bm q.1 q.2.2.1 q.2.2.2) [] (aN q.2.1) (xW q.1) w':=by
 have hfr:=hg.hf;have ok0:(x.re free).Ok:=ok.upa rfl rfl rfl rfl rfl rfl (Nat.zero_le _) (Nat.zero_le _) (Nat.zero_le _) (Nat.zero_le _) hfr;refine enter Tryz.func99 Tryz.ntmps99 rfl rfl (cJ hs) ?_;simp only[cC]
 refine jD ?_;refine qX ?_;refine qX ?_;refine aA ?_;refine H0 ?_;refine bT E0b (λ _=>?_);refine H0 ?_;refine bT E0b (λ _=>?_);refine H0 ?_;refine bT E0b (λ _=>?_);refine H0 ?_;refine bT E0b (λ _=>?_);refine H0 ?_;refine bT E0b (λ _=>?_);refine H0 ?_;refine bT E0b (λ _=>?_);refine aG ?_;refine J2 ?_;refine aD (cM (hs:=xH k bx bm (x.re free) false rs) (os:=xW (x.re free)) (A0:=aN x.L) (hA:=E0l) (hc:=λ w hs=>aDP hg (x:=x.re free) n hk hn hm em ht ha hb hnn (λ f hf=>hf) (aCF hwk hN) ok0 hs)) (λ x25 h25=>?_);refine aJ (λ x4=>?_);refine bT (by exact(gE λ _=>aR rf cY rf rf eD rf iR)) (λ _=>?_);refine aG ?_;refine mP ?_;refine oG ?_;refine bD (λ c30=>?_) (λ c30=>?_)
 ·refine eI [(0,[]),(1,[]),(2,[]),(3,[]),(4,[]),(5,[2]),(6,[]),(7,[]),(8,[])] ?_;refine iW ?_;refine bV ?_;refine J4 ?_;refine mC (i:=5) (hq:=E0b) (h:=λ _=>?_);refine J4 ?_;refine mC (i:=8) (hq:=(gE λ _=>mK (off:=41) (vs:=x25.1.cells) rf cY rf rfl eD (Nat.le_of_ble_eq_true rfl) rf iR)) (h:=λ _=>?_);refine eN ?_;refine Cp Tryz.results99 (λ w hw=>?_);first
  | exact⟨(x25.2.1,x25.2.2,true,x25.1),rfl,h25.z6 (by simpa using c30),by rw[List.append_nil] at hw;exact hw.v4⟩
  | exact⟨(x25.2.1,x25.2.2,false,rs),rfl,h25.aAb (by simpa using c30),by rw[List.append_nil] at hw;exact hw.v4⟩
 ·refine aW ?_;refine Cp Tryz.results99 (λ w hw=>?_);first
  | exact⟨(x25.2.1,x25.2.2,true,x25.1),rfl,h25.z6 (by simpa using c30),by rw[List.append_nil] at hw;exact hw.v4⟩
  | exact⟨(x25.2.1,x25.2.2,false,rs),rfl,h25.aAb (by simpa using c30),by rw[List.append_nil] at hw;exact hw.v4⟩
end
end
end Go.Proofs.YtbajmaoegmbfgaaGreat
namespace Go.Ct
open Go Go.RowKit
section
theorem Sk{R:Tr}{a:Ac}(h:R.acc=some a){n c:Nat}(ht:bW R n c)(hn:1<=n):bW R n 64:=by
 cases R<;>simp only[Tr.acc,reduceCtorEq] at h
 ·cases n with
  | zero=>omega
  | succ n=>simpa only[bW] using ht
 ·cases n with
  | zero=>omega
  | succ n=>simpa only[bW] using ht
structure td(T:Tr)(x:XS)(dn:Bool)(rs:Rs)(R:Tr):Prop where
 ok:x.Ok
 wk:Wk x.nodes T x.got x.made x.cel x.gns R
 Pk:(dn=true/\R=.done rs)∨(dn=false/\R.acc=some x.nx)
variable{T R:Tr}{free N:Nat}{rs rs':Rs}{x x':XS}{dn':Bool}
theorem uD.exI{N':List aQ}(h:uD T R free N rs x x' N' dn' rs'):∃R' j,j<=free/\(dn'=false->j=free)/\td T x' dn' rs' R'/\Rc j R x.mm R' x'.mm/\x'.L=x.L++N'/\x.cs.length<=x'.cs.length:=by
 rcases h.Pk with⟨e,j,h1,_,h2,h3⟩|⟨e,_,_,R',h1,h2,h3⟩;·exact⟨_,j,h1,(λ h=>by rw[e] at h;cases h),⟨h.ok,h2,.inl ⟨e,rfl⟩⟩,h3,h.ext,h.lc⟩
 ·exact⟨R',free,Nat.le_refl _,λ _=>rfl,⟨h.ok,h2,.inr ⟨e,h1⟩⟩,h3,h.ext,h.lc⟩
theorem uD.exN{N':List aQ}(h:uD T R free N rs x x' N' dn' rs'):∃R' j,j<=free/\(dn'=false->j=free)/\td T x' dn' rs' R'/\Rc j R x.mm R' x'.mm/\x'.L=x.L++N'/\x.cs.length<=x'.cs.length/\x'.got.length+free=N+j:=by
 rcases h.Pk with⟨e,j,h1,h0,h2,h3⟩|⟨e,_,h0,R',h1,h2,h3⟩;·exact⟨_,j,h1,(λ h=>by rw[e] at h;cases h),⟨h.ok,h2,.inl ⟨e,rfl⟩⟩,h3,h.ext,h.lc,h0⟩
 ·exact⟨R',free,Nat.le_refl _,λ _=>rfl,⟨h.ok,h2,.inr ⟨e,h1⟩⟩,h3,h.ext,h.lc,by rw[h0]⟩
end
end Go.Ct
namespace Go.Proofs.YtbajmaoegmbfgaaGreat
open Go.Proofs.Tryz
open Go Go.RowKit Go.Ct
section
section
variable{k:Cl}{bx bm:Nat}{x:XS}{dn:Bool}{rs:Rs}{D:List Nat}{A:Fr}{w:World}
theorem N7(hs:SF w D (xH k bx bm x dn rs) A [] (xW x) w):Calls prog 69 #[.pointer (some ⟨bx,0,none⟩)] w λ e w'=>∃q:Unit,e=.returned (.bool dn)/\True/\SF w D (xH k bx bm x dn rs) [] [] (xW x) w':=by refine enter func69 ntmps69 rfl rfl (cJ hs) ?_;simp only[cC];refine cU ?_;refine mP ?_;refine J1 ?_;refine aS results69 (λ w hw=>?_);exact⟨(),rfl,trivial,hw.bB⟩
theorem oj(hs:SF w D (xH k bx bm x dn rs) A [] (xW x) w):Calls prog 135 #[.pointer (some ⟨bx,0,none⟩)] w λ e w'=>∃q:Unit,e=.returned (.agg ⟨rs.cells⟩)/\True/\SF w D (xH k bx bm x dn rs) [] [] (xW x) w':=by refine enter func135 ntmps135 rfl rfl (cJ hs) ?_;simp only[cC];refine J0 ?_;refine aJ (λ x2=>?_);refine aG ?_;refine Jw ?_;refine aC (aU (k:=8) (vs:=rs.cells) rf cY eD rfl rfl) rfl ?_;refine J5 ?_;refine aZ results135 (λ w hw=>?_);exact⟨(),rfl,trivial,hw.bB⟩
theorem Vb{m n N:Nat}{R:Tr}(hT:bW (kN k (jQ k.key m) n) N 64)(hN:N<=1073741824)(hgN:x.got.length+1=N)(hsz:x.L.length<=137438953472/\x.cs.length<=137438953472/\x.gen<=137438953472)(hi:td (kN k (jQ k.key m) n) x dn rs R)(hk:r6 k)(hn:n<=1073741824)(hm:m<18446744073709551616)(em:k.mask=(m:Int))(ht:k.t.root<=9223372036854775807)(ha:k.a<=x.L.length)(hb:k.b<=x.L.length)(hnn:k.n<=x.L.length)(hA:∀f∈aN x.L,f∈A)(hs:SF w D (xH k bx bm x dn rs) A [] (xW x) w):Calls prog 68 #[.pointer (some ⟨bx,0,none⟩)] w λ e w'=>∃q:XS×List aQ×Bool×Rs,e=.returned (.tuple #[])/\((dn=true/\q=(x,[],true,rs))∨(dn=false/\uD (kN k (jQ k.key m) n) R 1 N rs x q.1 q.2.1 q.2.2.1 q.2.2.2))/\SF w D (xH k bx bm q.1 q.2.2.1 q.2.2.2) [] (aN q.2.1) (xW q.1) w':=by
 have hg:dn=false->Gx.Ok ⟨kN k (jQ k.key m) n,R,x.mm,1,N⟩:=λ e=>by
  rcases hi.Pk with⟨e2,_⟩|⟨_,e2⟩;·rw[e] at e2;cases e2
  ·obtain⟨c,h1,_,_⟩:=hi.wk.wR (Nat.le_refl 64) hT (by omega);refine⟨hT,⟨N-x.got.length,by show 1<=N-x.got.length;omega,Sk e2 h1 (by omega)⟩,hN,Nat.le_refl 1,?_⟩;show(x.L.map aQ.c).length<=_/\_;rw[List.length_map];exact hsz
 refine enter func68 ntmps68 rfl rfl (cJ hs) ?_;simp only[cC];refine mP ?_;refine oG ?_;refine bD (λ c6=>?_) (λ c6=>?_)
 ·have ed:dn=false:=by simpa using c6
  subst ed;refine yG ?_;refine aD (cM (hs:=xH k bx bm x false rs) (os:=xW x) (A0:=aN x.L) (hA:=E0l) (hc:=λ w hs=>Rv (N:=N) (n:=n) (m:=m) 1 (hg rfl) hi.wk hgN hk hn hm em ht ha hb hnn (λ f hf=>hf) hi.ok hs)) (λ x8 h8=>?_);refine aG ?_;refine Cp results68 (λ w hw=>?_);first
  | exact⟨x8,rfl,.inr ⟨rfl,h8⟩,by rw[List.append_nil] at hw;exact hw.v4⟩
  | exact⟨(x,[],true,rs),rfl,.inl ⟨by simpa using c6,rfl⟩,by rw[show dn=true from by simpa using c6] at hw;exact hw.bB (hF:=by exact bA.nil)⟩
 ·refine aW ?_;refine Cp results68 (λ w hw=>?_);first
  | exact⟨(x,[],true,rs),rfl,.inl ⟨by simpa using c6,rfl⟩,by rw[show dn=true from by simpa using c6] at hw;exact hw.bB (hF:=by exact bA.nil)⟩
end
end
end Go.Proofs.YtbajmaoegmbfgaaGreat
namespace Go.Ct
open Go Go.RowKit
section
def XS.new(L:List aQ)(cs:List Int)(gen acc:Int)(pn:Option Addr)(cn:Nat)(pc:Option Addr)(cc:Nat):XS:=⟨L,cs,gen,acc,pn,cn,pc,cc,[],[],[],[],none,0,none,0,none,0,none,0,0,0,0,0,0,false,Ac.zero⟩
end
end Go.Ct
namespace Go.Proofs.YtbajmaoegmbfgaaGreat
open Go Go.RowKit Go.Ct
section
section
variable{k:Cl}{bm:Nat}{L:List aQ}{cs:List Int}{gen acc:Int}{pn pc:Option Addr}{cn cc:Nat}{D:List Nat}{A:Fr}{w:World}
theorem vk{m n N:Nat}(hT:bW (kN k (jQ k.key m) n) N 64)(hN:N<=1073741824)(hsz:L.length<=137438953472/\cs.length<=137438953472/\gen<=137438953472)(hk:r6 k)(hn:n<=1073741824)(hm:m<18446744073709551616)(em:k.mask=(m:Int))(ht:k.t.root<=9223372036854775807)(ha:k.a<=L.length)(hb:k.b<=L.length)(hnn:k.n<=L.length)(hA:∀f∈aN L,f∈A)(ok:(XS.new L cs gen acc pn cn pc cc).Ok)(hs:SF w D [(bm,mO L cs gen acc pn cn pc cc)] A [] [⟨pn,iH L,cn,47,14⟩,⟨pc,aH cs,cc,37,1⟩] w)(hN0:N=0:=by rfl):Calls Tryz.prog 49 #[.pointer (some ⟨bm,0,none⟩),.agg ⟨Tf k⟩] w λ e w'=>∃q:Nat×XS×List aQ×Bool×Rs,e=.returned (.pointer (some ⟨q.1,0,none⟩))/\uD (kN k (jQ k.key m) n) (kN k (jQ k.key m) n) 0 N Rs.zero (XS.new L cs gen acc pn cn pc cc) q.2.1 q.2.2.1 q.2.2.2.1 q.2.2.2.2/\SF w D (xH k q.1 bm q.2.1 q.2.2.2.1 q.2.2.2.2) [] (aN q.2.2.1) (xW q.2.1) w':=by have hg:Gx.Ok ⟨kN k (jQ k.key m) n,kN k (jQ k.key m) n,(XS.new L cs gen acc pn cn pc cc).mm,0,N⟩:=⟨hT,⟨N,Nat.zero_le _,hT⟩,hN,Nat.zero_le _,by show(L.map aQ.c).length<=_/\_;rw[List.length_map];exact hsz⟩;refine enter Tryz.func49 Tryz.ntmps49 rfl rfl ((((hs.kQ 3 1).kQ 27 1).kQ 37 1).kQ 37 1) ?_;simp only[cC];refine K1m ?_;intro x3;refine Ka5 ?_;refine aC (aU (k:=25) (vs:=Tf k) rf cY eD rfl rfl) rfl ?_;refine bM ?_;refine bJ (λ x9=>?_);refine Ka5 ?_;refine aD (cM (hs:=xH k x9 bm (XS.new L cs gen acc pn cn pc cc) false Rs.zero) (os:=xW (XS.new L cs gen acc pn cn pc cc)) (A0:=aN L) (hA:=E0l) (hc:=λ w hs=>Rv (N:=N) (n:=n) (m:=m) 0 hg (Wk.nil _) hN0.symm hk hn hm em ht ha hb hnn (λ f hf=>hf) ok hs)) (λ x11 h11=>?_);refine aG ?_;refine Ka4 ?_;refine aS Tryz.results49 (λ w hw=>?_);exact⟨(x9,x11.1,x11.2.1,x11.2.2.1,x11.2.2.2),rfl,h11,by rw[List.append_nil] at hw;exact hw.v4⟩
end
end
section
theorem aCx:∀{t:Tr} {n c c':Nat},c<=c'->bW t n c->bW t n c':=by
 intro t;induction t with
 | done r=>intros;simp[bW]
 | stuck=>intro n c c' _ h;simp[bW] at h
 | load r k ih=>
  intro n c c' _ h;cases n with
  | zero=>simp[bW]
  | succ n=>simpa only[bW] using h
 | kG r o m k ih=>
  intro n c c' _ h;cases n with
  | zero=>simp[bW]
  | succ n=>simpa only[bW] using h
 | alloc r o k ih=>
  intro n c c' hc h;cases c with
  | zero=>simp[bW] at h
  | succ c=>
   cases c' with
   | zero=>omega
   | succ c'=>simp only[bW] at h ⊢;exact λ v=>ih v (by omega) (h v)
 | cell r k ih=>
  intro n c c' hc h;cases c with
  | zero=>simp[bW] at h
  | succ c=>
   cases c' with
   | zero=>omega
   | succ c'=>simp only[bW] at h ⊢;exact λ v=>ih v (by omega) (h v)
 | gen k ih=>
  intro n c c' hc h;cases c with
  | zero=>simp[bW] at h
  | succ c=>
   cases c' with
   | zero=>omega
   | succ c'=>simp only[bW] at h ⊢;exact λ v=>ih v (by omega) (h v)
 | node r k ih=>intro n c c' hc h;cases c<;>cases c'<;>simp only[bW] at h ⊢ <;> exact λ v=>ih v (by omega) (h v)
section
variable{n c:Nat}
theorem rO{a:Int}{k:Int->Tr}(h:∀n',n'<n->∀v,bW (k v) n' 64):bW (.load a k) n c:=by
 cases n with
 | zero=>simp[bW]
 | succ n=>simp only[bW];exact h n (Nat.lt_succ_self n)
theorem E2{a o m:Int}{k:Bool->Tr}(h:∀n',n'<n->∀v,bW (k v) n' 64):bW (.kG a o m k) n c:=by
 cases n with
 | zero=>simp[bW]
 | succ n=>simp only[bW];exact h n (Nat.lt_succ_self n)
theorem O3{a:Nv}{i:Int}{k:Int->Tr}(h:∀v,bW (k v) n c):bW (.alloc a i k) n (c+1):=by simp only[bW];exact h
theorem aA9{i:Int}{k:Int->Tr}(h:∀v,bW (k v) n c):bW (.cell i k) n (c+1):=by simp only[bW];exact h
theorem aDL{k:Int->Tr}(h:∀v,bW (k v) n c):bW (.gen k) n (c+1):=by simp only[bW];exact h
theorem dE{r:Int}{k:Nv->Tr}(h:∀v,bW (k v) n c):bW (.node r k) n c:=by cases c<;>simp only[bW]<;>exact h
abbrev Kq{X:Type}(K:X->Tr)(n:Nat):Prop:=∀n',n'<n->∀v,bW (K v) n' 64
variable{m v s i p o:Int}{t:dW}
theorem Kq.lt{X:Type}{K:X->Tr}{m:Nat}(h:Kq K n)(hm:m<=n):Kq K m:=λ n' h' v=>h n' (by omega) v
theorem fh{K:Int->Tr}(h:∀w,bW (K w) n c):bW (aA7 v s K) n c:=dE λ _=>h _
theorem wX{K:Int->Tr}(h:Kq K n):bW (pT t v s K) n c:=fh λ _=>E2 λ n' hn _=>h n' hn _
theorem cx{K:Int->Tr}(h:Kq K n):bW (zU t K) n c:=rO λ n1 h1 v=>dE λ nv=>by
 split;·exact h n1 h1 v
 ·exact dE λ _=>rO λ n2 h2 s=>by
   split;·exact dE λ _=>E2 λ n3 h3 _=>dE λ _=>rO λ n4 h4 _=>wX (h.lt (by omega))
   ·exact wX (h.lt (by omega))
theorem Sx{K:Int->Tr}(h:Kq K n):bW (Ka i m p K) n c:=dE λ _=>dE λ _=>E2 λ n' hn _=>dE λ _=>h n' hn _
theorem A4{K:Int->Tr}(h:Kq K n):bW (kP i m K) n c:=dE λ _=>rO λ n1 h1 p=>by
 split;·exact h n1 h1 _
 ·exact Sx (h.lt (by omega))
theorem K9{b:Bool}{K:Int->Tr}(h:Kq K n)(hc:1<=c):bW (lG i m p b K) n c:=by
 unfold lG;split;·exact dE λ _=>E2 λ n1 h1 _=>A4 (h.lt (by omega))
 ·obtain⟨c,rfl⟩:∃d,c=d+1:=⟨c-1,by omega⟩;exact dE λ _=>O3 λ _=>E2 λ n1 h1 _=>A4 (h.lt (by omega))
theorem Em{K:Int->Tr}(h:Kq K n):bW (oO t i m K) n c:=dE λ _=>rO λ n1 h1 p=>by
 split;·exact h n1 h1 _
 ·refine dE λ _=>?_;split
  ·split;·exact K9 (h.lt (by omega)) (by decide)
   ·exact cx λ n2 h2 _=>dE λ _=>dE λ _=>K9 (h.lt (by omega)) (by decide)
  ·exact Sx (h.lt (by omega))
theorem iI{K:Int->Tr}(h:Kq K n):bW (iM t i K) n c:=dE λ _=>rO λ n1 h1 _=>Em (h.lt (by omega))
theorem Eu{K:Tr}(h:∀n',n'<n->bW K n' 64):bW (qD t v K) n c:=dE λ _=>iI λ n1 h1 _=>dE λ _=>dE λ _=>E2 λ n2 h2 _=>h n2 (by omega)
theorem qT{K:Int->Tr}(h:Kq K n):bW (kI t K) n c:=rO λ n1 h1 v=>dE λ nv=>by
 split;·exact h n1 h1 v
 ·exact dE λ _=>rO λ n2 h2 s=>by
   split;·exact Eu λ n3 h3=>dE λ _=>rO λ n4 h4 _=>wX (h.lt (by omega))
   ·exact wX (h.lt (by omega))
theorem lD{K:Bool->Tr}(h:Kq K n):bW (lH t i o m K) n c:=dE λ _=>E2 λ n1 h1 b=>by
 split;·exact Em λ n2 h2 _=>h n2 (by omega) _
 ·exact h n1 h1 _
theorem Ar{e:Int}{K:Bool->Tr}(h:Kq K n)(hc:1<=c):bW (wI t o e m K) n c:=by
 obtain⟨c,rfl⟩:∃d,c=d+1:=⟨c-1,by omega⟩;exact O3 λ _=>E2 λ n1 h1 b=>by
  split;·exact Eu λ n2 h2=>dE λ _=>rO λ n3 h3 _=>wX λ n4 h4 _=>h n4 (by omega) _
  ·exact h n1 h1 _
end
end
section
section
variable{n c:Nat}
variable{i o x gen m:Int}{t:dW}{h0 level q:Nat}{k:Cl}{again:Tr}{fz:Bool}
theorem fX{a:Nv}{k:Int->Tr}(hc:1<=c)(h:∀v,bW (k v) n (c-1)):bW (.alloc a i k) n c:=by obtain⟨c,rfl⟩:∃d,c=d+1:=⟨c-1,by omega⟩;exact O3 h
theorem De{a r:Int}{K:Int->Tr}(hc:1<=c)(h:∀v,bW (K v) n (c-1)):bW (Ik a i r K) n c:=dE λ _=>fX hc h
theorem Vm{K:Int->Tr}(h:Kq K n):bW (Oq t i o x K) n c:=dE λ _=>iI λ n1 h1 _=>dE λ _=>fX (by decide) λ _=>De (by decide) λ _=>lD λ n2 h2 _=>h n2 (by omega) _
theorem Ao{p:Int}{l:Int}{K:Bool->Tr}(h:Kq K n):bW (xU t p o h0 l K) n c:=iI λ n1 h1 _=>dE λ _=>by
 split
 ·exact iI λ n2 h2 _=>dE λ _=>by
   split;·exact fX (by decide) λ _=>dE λ _=>fX (by decide) λ _=>lD λ n3 h3 _=>h n3 (by omega) _
   ·exact h n2 (by omega) _
 ·exact h n1 h1 _
theorem Lv{t:dW}{h0:Nat}{key:ByteArray}{K:Rs->Tr}:∀(q n c:Nat) (i level:Int),n<q->Kq K n->bW (lE t h0 key K q i level) n c
 | 0,n,c,i,level,hq,_=>absurd hq (Nat.not_lt_zero n)
 | q+1,n,c,i,level,hq,h=>iI λ n1 h1 _=>dE λ _=>by
  split;·split<;>exact h n1 h1 _
  ·split;·exact h n1 h1 _
   ·split;·exact h n1 h1 _
    ·exact dE λ _=>by
      split;·split<;>exact h n1 h1 _
      ·exact Lv q n1 64 _ _ (by omega) (h.lt (by omega))
theorem Rz:∀(l:List NI) (r:Int) (K:Int->Tr) (n c:Nat),l.length<=c->(∀v,bW (K v) n (c-l.length))->bW (Ba l r K) n c
 | [],r,K,n,c,_,h=>h r
 | a::l,r,K,n,c,hc,h=>by
  have hc':l.length+1<=c:=by simpa using hc
  exact fX (by omega) λ v=>Rz l v K n (c-1) (by omega) (λ u=>by have:=h u;rw[List.length_cons] at this;rwa [show c-1-l.length=c-(l.length+1) by omega])
theorem bj{b:Int}{K:Int->Tr}(hc:32<=c)(h:∀v,bW (K v) n (c-32)):bW (Wt k b h0 level gen K) n c:=dE λ nb=>fX (by omega) λ f=>by
 have hl:(dP b nb.hash.toNat h0 (nb.key,nb.val) k.key k.val gen f.toNat level).tail.length<=31:=by have h1:=Uv (x:=b) (h0:=nb.hash.toNat) (h:=h0) (p0:=(nb.key,nb.val)) (k:=k.key) (u:=k.val) (gen:=gen) (f:=f.toNat) (kX nb.hash.toNat h0-level) (kX nb.hash.toNat h0-(kX nb.hash.toNat h0-level));have h2:=Aa nb.hash.toNat h0;rw[List.length_tail];unfold dP;omega
 exact Rz _ _ _ _ _ (by omega) λ v=>aCx (by omega) (h v)
theorem M0{K:Rs->Int->Tr}(h:∀n',n'<=n->∀r w,bW (K r w) n' 64):bW (jU k i m h0 level gen K) n 64:=dE λ nb=>by
 split
 ·split;·exact fX (by decide) λ _=>lD λ n1 h1 _=>h n1 (by omega) _ _
  ·exact h n (Nat.le_refl n) _ _
 ·split
  ·split;·exact fX (by decide) λ _=>fX (by decide) λ _=>lD λ n1 h1 _=>h n1 (by omega) _ _
   ·exact h n (Nat.le_refl n) _ _
  ·refine dE λ _=>?_;split;·exact h n (Nat.le_refl n) _ _
   ·split
    ·split;·exact fX (by decide) λ _=>De (by decide) λ _=>lD λ n1 h1 _=>h n1 (by omega) _ _
     ·exact h n (Nat.le_refl n) _ _
    ·split;·exact bj (by decide) λ _=>fX (by decide) λ _=>De (by decide) λ _=>lD λ n1 h1 _=>h n1 (by omega) _ _
     ·exact h n (Nat.le_refl n) _ _
theorem H6{K:Int->Tr}(h:∀n',n'<=n->∀v,bW (K v) n' 64):bW (Cy k i m x gen K) n 64:=dE λ _=>dE λ _=>by
 split;·exact h n (Nat.le_refl n) _
 ·exact Vm λ n1 h1 _=>h n1 (by omega) _
theorem Hb{k:Cl}{h0:Nat}{K:Rs->Tr}{again:Tr}{gen:Int}:∀(q n c:Nat) (i parent:Int) (level:Nat),n<q->Kq K n->(∀n',n'<n->bW again n' 64)->bW (sY k h0 K again gen q i parent level) n c
 | 0,n,c,i,p,level,hq,_,_=>absurd hq (Nat.not_lt_zero n)
 | q+1,n,c,i,p,level,hq,h,ha=>iI λ n1 h1 _=>dE λ _=>by
  split;·exact Ao λ n2 h2 _=>ha n2 (by omega)
  ·refine M0 λ n2 h2 r w=>?_;split;·exact h n2 (by omega) _
   ·split;·exact ha n2 (by omega)
    ·refine H6 λ n3 h3 v=>?_;split;·exact ha n3 (by omega)
     ·exact Hb q n3 64 _ _ _ (by omega) (h.lt (by omega)) (λ n4 h4=>ha n4 (by omega))
theorem Sf{k:Cl}{h0:Nat}{K:Rs->Tr}:∀(q n c:Nat),n<q->Kq K n->bW (vN k h0 K q) n c
 | 0,n,c,hq,_=>absurd hq (Nat.not_lt_zero n)
 | q+1,n,c,hq,h=>qT λ n1 h1 _=>dE λ _=>Hb q n1 64 _ _ _ (by omega) (h.lt (by omega)) (λ n2 h2=>Sf q n2 64 (by omega) (h.lt (by omega)))
theorem Kh{K:Rs->Int->Tr}(h:∀n',n'<=n->∀r w,bW (K r w) n' 64):bW (lA k i m h0 level K) n 64:=dE λ nb=>by
 split
 ·split;·exact h n (Nat.le_refl n) _ _
  ·exact fX (by decide) λ _=>lD λ n1 h1 _=>h n1 (by omega) _ _
 ·split;·exact h n (Nat.le_refl n) _ _
  ·refine dE λ _=>?_;split;·exact h n (Nat.le_refl n) _ _
   ·split;·exact h n (Nat.le_refl n) _ _
    ·split;·exact h n (Nat.le_refl n) _ _
     ·exact dE λ _=>fX (by decide) λ _=>lD λ n1 h1 _=>h n1 (by omega) _ _
theorem Xe{t:dW}{path:List Int}{h0:Nat}{K:Tr}:∀(l n:Nat),(∀n',n'<=n->bW K n' 64)->bW (upT t path h0 K l) n 64
 | 0,n,h=>h n (Nat.le_refl n)
 | l+1,n,h=>iI λ n1 h1 _=>dE λ _=>by
  split;·exact Ao λ n2 h2 _=>Xe l n2 (λ n3 h3=>h n3 (by omega))
  ·exact h n1 (by omega)
theorem Ev{k:Cl}{h0:Nat}{K:Rs->Tr}{again:Tr}{gen:Int}:∀(q n c:Nat) (i:Int) (path:List Int) (level:Nat),n<q->Kq K n->(∀n',n'<n->bW again n' 64)->bW (xQ k h0 K again gen q i path level) n c
 | 0,n,c,i,p,level,hq,_,_=>absurd hq (Nat.not_lt_zero n)
 | q+1,n,c,i,p,level,hq,h,ha=>iI λ n1 h1 _=>dE λ _=>by
  split;·exact Ao λ n2 h2 _=>ha n2 (by omega)
  ·refine Kh λ n2 h2 r w=>?_;split
   ·split;·exact Xe _ _ λ n3 h3=>h n3 (by omega) _
    ·exact h n2 (by omega) _
   ·split;·exact ha n2 (by omega)
    ·refine H6 λ n3 h3 v=>?_;split;·exact ha n3 (by omega)
     ·exact Ev q n3 64 _ _ _ (by omega) (h.lt (by omega)) (λ n4 h4=>ha n4 (by omega))
theorem L5{k:Cl}{h0:Nat}{K:Rs->Tr}:∀(q n c:Nat),n<q->Kq K n->bW (sA k h0 K q) n c
 | 0,n,c,hq,_=>absurd hq (Nat.not_lt_zero n)
 | q+1,n,c,hq,h=>qT λ n1 h1 _=>dE λ _=>Ev q n1 64 _ _ _ (by omega) (h.lt (by omega)) (λ n2 h2=>L5 q n2 64 (by omega) (h.lt (by omega)))
theorem Nf{k:Int->Tr}(hc:1<=c)(h:∀v,bW (k v) n (c-1)):bW (.cell i k) n c:=by obtain⟨c,rfl⟩:∃d,c=d+1:=⟨c-1,by omega⟩;exact aA9 h
theorem Uj{k:Int->Tr}(hc:1<=c)(h:∀v,bW (k v) n (c-1)):bW (.gen k) n c:=by obtain⟨c,rfl⟩:∃d,c=d+1:=⟨c-1,by omega⟩;exact aDL h
theorem kY{r:Rs}:bW (.done r) n c:=by simp[bW]
theorem Lz:bW (L8 m .done) n 64:=Uj (by decide) λ _=>fX (by decide) λ _=>Nf (by decide) λ _=>kY
theorem Mh{t:dW}{fz:Bool}:∀(q n c:Nat),n<q->bW (Jf t fz .done q) n c
 | 0,n,c,hq=>absurd hq (Nat.not_lt_zero n)
 | q+1,n,c,hq=>qT λ n1 h1 _=>iI λ n2 h2 _=>Uj (by decide) λ _=>fX (by decide) λ _=>Ar (λ n3 h3 b=>by
  split
  ·split;·exact Nf (by decide) λ _=>kY
   ·exact Lz
  ·exact Mh q n3 64 (by omega)) (by decide)
theorem G6(h:n<q):bW (uP t fz .done q) n c:=by
 unfold uP;split
 ·exact rO λ n1 h1 _=>by
   split;·exact Nf (by decide) λ _=>kY
   ·exact iI λ n2 h2 _=>Lz
 ·exact Mh q n c h
theorem Gv{t:dW}:∀(q n c:Nat),n<q->bW (wT t .done q) n c
 | 0,n,c,hq=>absurd hq (Nat.not_lt_zero n)
 | q+1,n,c,hq=>qT λ n1 h1 _=>iI λ n2 h2 _=>fX (by decide) λ _=>Uj (by decide) λ _=>fX (by decide) λ _=>Ar (λ n3 h3 b=>by
  split;·exact kY
  ·exact Gv q n3 64 (by omega)) (by decide)
theorem Ls(h:n<q):bW (kN k h0 q) n 64:=by
 have hd:∀{X:Type} {K:X->Rs},Kq (λ v=>Tr.done (K v)) n:=λ _ _ _=>kY;unfold kN;split
 ·exact kY
 split;·exact iI hd
 split;·exact lD hd
 split;·exact qT hd
 split;·exact Ar hd (by decide)
 split;·exact qT λ n1 h1 _=>Lv q n1 64 _ _ (by omega) (λ _ _ _=>kY)
 split;·exact Sf q n 64 h (λ _ _ _=>kY)
 split;·exact L5 q n 64 h (λ _ _ _=>kY)
 split;·exact G6 h
 split;·exact G6 h
 ·exact Gv q n 64 h
end
end
end Go.Proofs.YtbajmaoegmbfgaaGreat

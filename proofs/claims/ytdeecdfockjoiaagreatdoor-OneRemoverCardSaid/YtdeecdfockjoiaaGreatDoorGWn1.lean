/- Merged. -/
import Derived.Test.YtdeecdfockjoiaaGreatDoorGMcc
import Derived.Test.YtdeecdfockjoiaaGreatDoorGa
import Derived.Test.YtdeecdfockjoiaaGreatDoorGFz
import Derived.Test.YtdeecdfockjoiaaGreatDoorGShort
import Derived.Test.YtdeecdfockjoiaaGreatDoorGQd3
import Derived.Test.YtdeecdfockjoiaaGreatDoorGQp3
import Derived.Test.YtdeecdfockjoiaaGreatDoorGSp1
import Derived.Test.YtdeecdfockjoiaaGreatDoorGBr4
set_option linter.unusedSimpArgs false
set_option linter.unusedVariables false
namespace Go.Proofs.YtdeecdfockjoiaaGreatDoor
open Go.Proofs.Tryz
open Go Go.RowKit Go.Ct
section
def Ky(e:oR)(k i:Nat):Prop:=e.thr=k/\e.idx=i/\e.ret=true
theorem qn{l:List oR}{k i:Nat}{r:Rs}(h:mY l k i=some r):∃(j:Nat) (e:oR),l[j]?=some e/\Ky e k i/\e.r=r/\∀(j':Nat) (e':oR),j'<j->l[j']?=some e'->¬Ky e' k i:=by
 unfold mY at h;obtain⟨e,he,hr⟩:=Option.map_eq_some_iff.1 h;obtain⟨hp,l1,l2,hl,hn⟩:=List.find?_eq_some_iff_append.1 he;simp only[Bool.and_eq_true,beq_iff_eq] at hp;refine⟨l1.length,e,by rw[hl];simp,⟨hp.1.1,hp.1.2,hp.2⟩,hr,λ j' e' hj he' hh=>?_⟩;rw[hl,List.getElem?_append_left hj] at he';have:=hn e' (List.mem_of_getElem? he');obtain⟨h1,h2,h3⟩:=hh
 simp[h1,h2,h3] at this
section
variable{w:World}{l:List oR}{p:Option Addr}{c k i j:Nat}{e:oR}
theorem j7(hl:l.length<=1000000)(hcl:Go.Ct.Cl w p (Fk l))(hj:l[j]?=some e)(hh:Ky e k i)(hlt:∀(j':Nat) (e':oR),j'<j->l[j']?=some e'->¬Ky e' k i) :
    Calls prog 17 #[.slice p l.length c,.agg ⟨[.int .i64 (k:Int),.int .i64 (i:Int)]⟩,.bool true] w λ en w'=>en=.returned (.int .i64 (j:Int))/\St w [] [] w':=by
     have hjl:j<l.length:=(List.getElem?_eq_some_iff.1 hj).1;refine enter func17 ntmps17 rfl rfl (SF.begin (A:=[(p,Fk l)]) (λ f hf=>by rcases List.mem_singleton.1 hf with rfl;exact hcl)) ?_;simp only[cN]
     refine J0 ?_;refine bC (λ x4=>?_);refine lX ?_;refine zi ?_;refine kP [6,7,8,9,10,11,12,13,14,15,16,17,18,19,20,21,22,23,24,25,26,27,28,29,30,31,32,33,34,35,36,37,38,39,40,41] (λ z:Nat=>[(7,.int .i64 ((z:Nat):Int))]) (λ z=>z<=j) (λ z=>l.length-z) (0) (Nat.zero_le _) ?_ (λ z f hx=>?_);·repeat (first|exact bX _|refine bL (by exact rfl) ?_)
     refine K0c ?_;refine qJ ?_;refine cP ?_;refine fX ?_;refine aX (λ c11=>?_) (λ c11=>?_)
     ·have hzl:z<l.length:=by omega
      have hzt:l[z]?=some l[z]:=List.getElem?_eq_getElem hzl;have hzj:z=j->Ky l[z] k i:=λ e0=>by subst e0;rw[hj] at hzt;injection hzt with hzt;rw[<- hzt];exact hh
      have hzn:z<j->¬Ky l[z] k i:=λ e0=>hlt z _ e0 hzt;generalize l[z]=u at hzt hzj hzn;refine jH ?_;refine aL ?_;refine fO [0,1,2,3,4,5,6,7,8,9,10,11,12,13,14,15,16,17,18,19,20,21,22,23,24,25,26] ?_;refine yS ?_;refine aS (i:=2) (hq:=(bP (f:=oR.cells) (k:=z) iQ (by decide) rf rf dP cY (.old .head) hzl hzl)) (h:=?_);refine bQ ?_;refine aS (i:=4) (hq:=(H9 (f:=oR.cells) (k:=z) (v:=.int .i64 ((u.thr:Nat):Int)) iQ rf eL (.old .head) hzt rfl)) (h:=?_);refine aS (i:=5) (hq:=(dH (n:=2) (k:=0) (e:=3) rf rf (by kernel_rfl) (by kernel_rfl) (by decide))) (h:=?_);refine bH ?_;refine uB ?_;refine aP ?_;(refine rcs 22 (λ g22=>?_) (λ g22=>?_)<;>(first|refine kN ?_|(refine aP ?_)));all_goals ((first|refine kN ?_|(refine aP ?_));(first|refine kN ?_|(refine aS (i:=11) (hq:=(bP (f:=oR.cells) (k:=z) iQ (by decide) rf rf dP cY (.old .head) hzl hzl)) (h:=?_)));(first|refine kN ?_|(refine bQ ?_));(first|refine kN ?_|(refine aS (i:=13) (hq:=(eA (f:=oR.cells) (k:=z) (j:=1) (v:=.int .i64 ((u.idx:Nat):Int)) iQ rf eL (.old .head) hzt rfl)) (h:=?_)));(first|refine kN ?_|(refine aS (i:=14) (hq:=(dH (n:=2) (k:=1) (e:=3) rf rf (by kernel_rfl) (by kernel_rfl) (by decide))) (h:=?_)));(first|refine kN ?_|(refine bH ?_));refine J56 ?_;refine aP ?_)
      all_goals (first|refine kN ?_|(refine rcs 32 (λ g32=>?_) (λ g32=>?_)<;>(first|refine kN ?_|(refine aP ?_))))
      all_goals ((first|refine kN ?_|(refine aP ?_));(first|refine kN ?_|(refine aS (i:=21) (hq:=(bP (f:=oR.cells) (k:=z) iQ (by decide) rf rf dP cY (.old .head) hzl hzl)) (h:=?_)));(first|refine kN ?_|(refine bQ ?_));(first|refine kN ?_|(refine aS (i:=23) (hq:=(eA (f:=oR.cells) (k:=z) (j:=2) (v:=.bool u.ret) iQ rf eL (.old .head) hzt rfl)) (h:=?_)));(first|refine kN ?_|(refine aP ?_));(first|refine kN ?_|(refine aAU ?_));refine Kd7 ?_)
      all_goals
       refine aX (λ c40=>?_) (λ c40=>?_)
       ·try exact nv c40
        all_goals (refine Kd6 ?_)
        all_goals
         refine bJ results17 (λ w hw=>?_);have hzj2:z=j:=by
          rcases Nat.lt_or_ge z j with h|h;·exfalso;refine hzn h ⟨by omega,by omega,?_⟩;simpa using c40
          ·omega
         exact⟨by rw[hzj2];rfl,hw.done⟩
       ·all_goals (refine rL ?_;refine J70 ?_)
        all_goals
         refine hJ (z+1) ?_ ?_ ?_;·omega
         ·repeat' (first|exact bX _|refine bL ?_ ?_)
          all_goals (exact rfl)
         ·rcases Nat.lt_or_ge z j with h|h;·exact h
          ·obtain⟨h1,h2,h3⟩:=hzj (by omega);exfalso;first|omega|(rw[h3] at c40;simp at c40)
     ·exfalso;omega
end
end
section
section
variable{w:World}{l:List oR}{p:Option Addr}{c k i:Nat}{r:Rs}
theorem Uj(hl:l.length<=1000000)(hcl:Go.Ct.Cl w p (Fk l))(hr:mY l k i=some r) :
  Calls prog 9 #[.slice p l.length c,.agg ⟨[.int .i64 (k:Int),.int .i64 (i:Int)]⟩] w λ en w'=>en=.returned (.tuple #[.agg ⟨r.cells⟩,.bool true])/\St w [] [] w':=by
 obtain⟨j,e,hj,hh,her,hlt⟩:=qn hr;have hjl:j<l.length:=(List.getElem?_eq_some_iff.1 hj).1;refine enter func9 ntmps9 rfl rfl (SF.begin (A:=[(p,Fk l)]) (λ f hf=>by rcases List.mem_singleton.1 hf with rfl;exact hcl)) ?_;simp only[cN]
 refine K3f ?_;intro x3;refine aJ (λ x4=>?_);refine Kb7 ?_;refine K0w ?_;refine aH (cV (hc:=λ w1 hw=>j7 hl (hw.cl (.old .head)) hj hh hlt)) (λ x9=>?_);refine Kc7 ?_;refine fX ?_;refine aX (λ c11=>?_) (λ c11=>?_);·try (contradiction)
 ·try (first|contradiction|(exfalso;omega))
  refine yO ?_;refine aA (bP (f:=oR.cells) (k:=j) iQ (by decide) rf rf dP cY (.old .head) hjl hjl) rfl ?_;refine aQ ?_;refine aA (lj (f:=oR.cells) (k:=j) (j:=3) (n:=8) (vs:=e.r.cells) iQ rf cY (.old .head) hj (by decide) rfl) rfl ?_;refine Px ?_;refine bF results9 (λ w hw=>?_);exact⟨by rw[<- her];rfl,hw.done⟩
end
end
end Go.Proofs.YtdeecdfockjoiaaGreatDoor
namespace Go.Ct
open Go Go.RowKit
section
def InL(P:Program)(c:Code)(R:Exit->Act->World->Prop)(a:Act)(w:World):Prop :=∀(b:Frame) (k:List Item) (cs:List Frame),∃e a' w',R e a' w'/\Arrives P (lone (b.at a (.inLoop c::k)) cs w) b k cs e a' w'
section
variable{P:Program}{n:Nat}{Q:Exit->Act->World->Prop}{ks ks':List CK}{S:List (Nat×Value)}{G:World->Prop}{c:Code}
theorem Gv(h:JK P n Q (.code c::.inv (InL P c (runK P Q ks))::ks) S G)(hS:Dg n S){w:World}(hw:G w)(b:Frame)(k:List Item)(cs:List Frame) :
  ∃e a' w',runK P Q ks e a' w'/\Arrives P (lone (b.at ⟨eX n S,[]⟩ (.code c::.inLoop c::k)) cs w) b k cs e a' w':=by
 have h1:=h.run hS w hw;simp only[runK] at h1;obtain⟨e,a₁,w₁,hq,harr⟩:=h1 b (.inLoop c::k) cs;rw[Gy] at hq;cases e with
 | normal=>obtain⟨e₂,a₂,w₂,hq₂,harr₂⟩:=hq b k cs;exact⟨e₂,a₂,w₂,hq₂,.of_steps harr harr₂⟩
 | exit id=>exact⟨_,a₁,w₁,hq,.pass (x:=.inLoop c) rfl (λ _ _=>.inl (by simp)) harr⟩
 | goto l=>exact⟨_,a₁,w₁,hq,.pass (x:=.inLoop c) rfl (λ _ _=>.inl (by simp)) harr⟩
 | ret=>exact⟨_,a₁,w₁,hq,.pass (x:=.inLoop c) rfl (λ _ _=>.inl (by simp)) harr⟩
 | panic ch=>exact⟨_,a₁,w₁,hq,.pass (x:=.inLoop c) rfl (λ _ _=>.inl (by simp)) harr⟩
 | outgrown=>exact⟨_,a₁,w₁,hq,.pass (x:=.inLoop c) rfl (λ _ _=>.inl (by simp)) harr⟩
theorem dC(h:JK P n Q (.code c::.inv (InL P c (runK P Q ks))::ks) S G):JK P n Q (.code (.loop c)::ks) S G:=⟨λ hS w hw=>by simp only[runK];intro b k cs;obtain⟨e,a',w',hq,harr⟩:=Gv h hS hw b k cs;exact⟨e,a',w',hq,.of_steps (.one step_loop) harr⟩⟩
theorem bZ(h:JK P n Q (.code c::.inv (InL P c (runK P Q ks))::ks) S G):JK P n Q (.inv (InL P c (runK P Q ks))::ks') S G:=⟨λ hS w hw=>by simp only[runK];intro b k cs;obtain⟨e,a',w',hq,harr⟩:=Gv h hS hw b k cs;exact⟨e,a',w',hq,.of_steps (.one step_inLoop) harr⟩⟩
end
end
end Go.Ct
namespace Go.Proofs.YtdeecdfockjoiaaGreatDoor
open Go.Proofs.Tryz
open Go Go.RowKit Go.Ct
section
theorem wy{l:List Int}{a:Option Addr}{b c k:Nat}{w:World}(ht:vm w b a l c k) :
  Calls prog 15 #[.pointer (some ⟨b,0,none⟩)] w λ e w' =>
  ∃v:Bool,e=.returned (.bool v)/\(v=true↔k<l.length)/\SF w [b] ((b,tn a l c k)::[]) [] [] [] w':=by refine enter func15 ntmps15 rfl rfl ht.start ?_;simp only[cN];refine Uh ?_;refine fO [0,1,2,3,4,5,6,7,8,9,10] ?_;refine Y0 ?_;refine Cb ?_;refine qZ ?_;refine J7 ?_;refine bJ results15 (λ w hw=>?_);exact⟨_,rfl,by simp,hw.fS⟩
structure Sch(m n:Nat)(G:AM->Prop):Prop where
 pick:∀Z k,G Z->k<n->Uw m k Z/\Z.s.iL/\G (fD m k Z)
 drain:∀Z,G Z->∃K,K<=200000/\(∀i,i<K->(Ch m n 0 i Z).iG=false)/\(Ch m n 0 K Z).iG=true
 len:∀Z,G Z->Z.th.length=n
theorem Sch.run{m n:Nat}{G:AM->Prop}(h:Sch m n G)(hn:0<n){Z:AM}(hZ:G Z):∀i,G (Ch m n 0 i Z)
 | 0=>hZ
 | i+1=>(h.pick _ _ (h.run hn hZ i) (Nat.mod_lt _ hn)).2.2
structure aDD(n:Nat):Prop where
 h:n<=19000
structure Alo(m n al:Nat)(P:Nat->AM->Prop)(G:AM->Prop):Prop where
 step:∀d Z,P d Z->Z.hist.length<2*al->Uw m 0 Z/\Z.s.iL/\∃d',d'<d/\P d' (fD m 0 Z)
 fin:∀d Z,P d Z->¬Z.hist.length<2*al->G Z
 len:∀d Z,P d Z->Z.th.length=n
theorem R9{O:List Ow}{A F:Fr}{b C:Nat}{Z:AM}{V':MV}(h:MI b C Z V')(hB:∀f∈V'.B,f∈F):bV A F O (dD V'.a.L++V'.B):=bV.of λ f hf=>by
 rcases List.mem_append.1 hf with hf|hf
 ·rcases h.fam f hf with h1|h1;·exact .inl h1
  ·exact .inr (.inr (.inl (hB f h1)))
 ·exact .inr (.inr (.inl (hB f hf)))
abbrev NW.L(m:Nat)(x:NW)(V:MV):List (Nat×Obj):=mcL m x.b x.bm x.bT x.bo x.bt x.bi x.pk V
theorem ft{w0 w:World}{M:List Nat}{A F:Fr}{O:List Ow}{L:List (Nat×Obj)}{q:Nat×Obj}(h:SF w0 M (L++[q]) A (F++[]) (O++[]) w):SF w0 M (q::L) A F O w:=by rw[List.append_nil,List.append_nil] at h;exact h.perm (List.perm_append_comm (l₁:=[q]) (l₂:=L)) (List.Perm.refl _)
structure aBf(G:AM->Prop)(x:NW×MV)(Z:AM):Prop where
 mi:MI x.1.b 300000 Z x.2
 g:G Z
 d:Z.iG=true
theorem MI.up2{b C C':Nat}{Z:AM}{V:MV}(h:MI b C Z V)(hC:C<=C'):MI b C' Z V:=⟨h.ok,h.up,h.th,h.hist,h.tb,λ t ht p hp=>by obtain⟨h1,h2,h3,h4⟩:=h.pr t ht p hp;exact⟨h1,h2,h3,by omega⟩,h.fam,h.fo,h.oo,h.tl,by have:=h.hl;omega⟩
set_option maxRecDepth 100000 in
set_option maxHeartbeats 1000000 in
theorem Po{w:World}{m n al:Nat}{P:Nat->AM->Prop}{ls:List uP}{tl:List Int}{p a:Option Addr}{c ca:Nat}{G:AM->Prop}(hG:Sch m n G)(hP:Alo m n al P G)(hal:al<=16)(h0:∀π,P 19000 (Nj (ls.map uP.l) π))(hn:ls.length=n)(hn0:0<n)(hm0:m<18446744073709551616)(hs8:ls.length<=8)(hs16:∀s∈ls,s.l.length<=16/\∀o∈s.l,Gs o)(hcl:Go.Ct.Cl w p (kI ls))(hco:∀s∈ls,Go.Ct.Cl w s.p (iB s.l))(hca:Go.Ct.Cl w a (aT tl))(htl:tl.length<=17592186043904) :
  Calls prog 8 #[.agg ⟨[.int .u64 (m:Int),.slice p ls.length c,.slice none 0 0]⟩,.int .i64 ((al:Nat):Int),.slice a tl.length ca] w λ e w'=>∃x:NW×MV,e=.returned (.tuple #[pt x.1.bm,.bool true])/\(∃Z,aBf G x Z)/\SF w [] (NW.L m x.1 x.2) [] x.2.B (xQ x.2) w':=by
 refine enter func8 ntmps8 rfl rfl (SF.begin (A:=(a,aT tl)::(p,kI ls)::ls.map λ s=>(s.p,iB s.l)) (λ f hf=>by
rcases List.mem_cons.1 hf with rfl|hf
·exact hca
rcases List.mem_cons.1 hf with rfl|hf
·exact hcl
·obtain⟨s,hs,rfl⟩:=List.mem_map.1 hf
 exact hco s hs)) ?_
 simp only[cN]
 all_goals (refine J0 ?_;refine bC (λ x3=>?_);refine J8 ?_;refine oT ?_;(refine aH (aW.conv (aj (V:=λ x:NW=>.tuple #[pt x.bm,.int .i64 0]) (φ:=aBI m ls []) (Hc:=λ x=>NW.L m x x.V) (Fc:=λ x=>x.V.B) (Oc:=λ x=>xQ x.V) (hc:=λ w1 hw=>X8 (pk:=[]) hs8 hs16 (Nat.zero_le _) (λ k hk=>nomatch hk) (hw.cl (.old (.tail .head))) (Cl.nil _ _) (λ s hs=>hw.cl (.old (.tail (.tail (mU.eU (List.mem_map.2 ⟨s,hs,rfl⟩)))))))) (λ x w h=>And.intro h.1 (show SF _ _ ((x3,.cells ⟨[.int .u64 (m:Int),.slice p ls.length c,.slice none 0 0]⟩ 34 (0,0))::NW.L m x x.V) ((a,aT tl)::(p,kI ls)::ls.map λ s=>(s.p,iB s.l)) x.V.B (xQ x.V) _ from ft h.2))) (λ x15=>?_);try (refine dQ (λ h15=>?_)));refine Ez ?_;refine J8 ?_;refine gQ ?_;refine iK ?_;refine aB ?_)
 all_goals ((refine Ka2 ?_))
 all_goals (refine Co ?_;refine aE ?_)
 all_goals
 refine aX (λ c23=>?_) (λ c23=>?_)
 ·all_goals try (first|contradiction|(exfalso;omega))
 ·all_goals try (first|contradiction|(exfalso;omega))
  all_goals (refine lL ?_;refine zi ?_)
  all_goals
   refine sF [10,24,25,26,27,28,29,30,31,32,33,34,35,36,37] (λ u:Nat×Nat×MV×AM=>[(10,.int .i64 ((u.1:Nat):Int))]) (λ u=>u.1+u.2.1<=19000/\MI x15.b u.1 u.2.2.2 u.2.2.1/\P u.2.1 u.2.2.2) (λ u=>[(x3,.cells ⟨[.int .u64 (m:Int),.slice p ls.length c,.slice none 0 0]⟩ 34 (0,0))]++NW.L m x15 u.2.2.1) (λ u=>u.2.2.1.B) (λ u=>xQ u.2.2.1) (λ u=>u.2.1) ((0,19000,x15.V,Nj (ls.map uP.l) x15.V.a.pv)) (⟨Nat.le_refl _,h15.mi,h0 _⟩) (λ u f hx=>?_) (hw0:=λ w hw=>hw.Us (λ f hf=>.inr (by simp[hf])));refine K0c ?_;obtain⟨hu1,hu2,hu3⟩:=hx
   have hulen:u.2.2.1.th.length=n:=by rw[hu2.len,hP.len _ _ hu3]
   have huh:=hu2.hist;have huhl:=hu2.hl;all_goals (refine gQ ?_;refine Ph ?_)
   all_goals ((refine mN 26 (λ g26=>?_) (λ g26=>?_)<;>(try (first|contradiction|(exfalso;omega)))<;>((refine Ka2 ?_))))
   all_goals (((refine aF ?_;refine aI (cM (V:=λ x:Option Addr×Nat=>.slice x.1 u.2.2.1.hi.length x.2) (hs:=[(x15.bm,Gc x15.b x15.bT x15.pk u.2.2.1)]) (os:=ax u.2.2.1) (A0:=[]) (hs':=λ _=>[(x15.bm,Gc x15.b x15.bT x15.pk u.2.2.1)]) (os':=λ _=>ax u.2.2.1) (Fc:=λ x=>[(x.1,Fk u.2.2.1.hi)]) (hc:=λ w1 hw=>Hl (by omega) hw)) (λ x28 h28=>?_)));((refine aF ?_;refine cP ?_));((refine Ka2 ?_));((refine aF ?_;refine aA (Vt (a:=2) (b:=al) rf rf (by omega)) rfl ?_));refine Cn ?_;refine aE ?_)
   all_goals
   refine aX (λ c33=>?_) (λ c33=>?_)
   ·all_goals try (first|contradiction|(exfalso;omega))
    all_goals
     obtain⟨hs1,hs2,d',hs3,hs4⟩:=hP.step _ _ hu3 (by rw[<- huh];omega)
    all_goals (refine jH ?_;refine Cg ?_;refine aI (cT 1 0 (hs:=NW.L m x15 u.2.2.1) (os:=xQ u.2.2.1) (A0:=dD u.2.2.1.a.L++u.2.2.1.B) (V:=λ x:MV×Fr×Bool=>.bool x.2.2) (F1:=λ x:MV×Fr×Bool=>x.1.B) (hc:=λ w1 hw=>A4 (k:=0) hu2 (by omega) hm0 (by rw[hulen];omega) hs1 hs2 (λ f hf=>List.mem_append_left _ hf) (λ f hf=>List.mem_append_right _ hf) hw) (hA:=R9 hu2 (λ f hf=>by simp[hf])) (hF1:=λ x hx f hf=>.inr (by rw[hx.2] at hf;exact(List.mem_append.1 hf).elim (List.mem_append_left _) λ h=>List.mem_append_right _ (.tail _ h)))) (λ x37 h37=>?_);refine aE ?_;refine eN ?_;refine J70 ?_)
    all_goals
     refine xS ((u.1+1,d',x37.1,fD m 0 u.2.2.2)) ?_ (hw1:=λ w hw=>hw.zA0)
     ·exact⟨by show u.1+1+d'<=19000;omega,h37.1,hs4⟩
   ·all_goals try (first|contradiction|(exfalso;omega))
    all_goals (refine bD rfl ?_;refine aL ?_)
    all_goals
     have hgz:G u.2.2.2:=hP.fin _ _ hu3 (by rw[<- huh];omega);have hq19:aDD u.1:=⟨by omega⟩;clear hu1 hu3 huh huhl hP;try clear c33
     try clear g26
    all_goals (refine Cg ?_;refine aI (aj (V:=λ b:Nat=>pt b) (Hc:=λ b=>[(b,tn a tl ca 0)]) (Fc:=λ _=>[]) (Oc:=λ _=>[]) (hc:=λ w1 hw=>ym)) (λ x39 h39=>?_);refine lX ?_;refine zi ?_)
    all_goals
     refine sF [12,40,41,42,43,44,45,46,47,48,49,50,51,52,53,54] (λ y:Nat×Nat×MV×AM=>[(12,.int .i64 ((y.1:Nat):Int))]) (λ y=>y.1<=300/\MI x15.b (u.1+y.1) y.2.2.2 y.2.2.1/\G y.2.2.2) (λ y=>[(x39,tn a tl ca y.2.1),(x3,.cells ⟨[.int .u64 (m:Int),.slice p ls.length c,.slice none 0 0]⟩ 34 (0,0))]++NW.L m x15 y.2.2.1) (λ y=>y.2.2.1.B) (λ y=>xQ y.2.2.1) (λ y=>300-y.1) ((0,0,u.2.2.1,u.2.2.2)) (⟨Nat.zero_le _,hu2,hgz⟩) (λ y f hx=>?_) (hw0:=λ w hw=>hw.Us (λ f hf=>.inr (by simp[hf])));refine K0c ?_;obtain⟨hy1,hy2,hy3⟩:=hx
     have hlen:y.2.2.1.th.length=n:=by rw[hy2.len,hG.len _ hy3]
     all_goals (refine gQ ?_;refine Ph ?_)
     all_goals ((refine mN 42 (λ g42=>?_) (λ g42=>?_)<;>(try (first|contradiction|(exfalso;omega)))<;>refine Ka3 ?_))
     all_goals ((first|refine aZ ?_|(refine aF ?_;refine aI (cF1 (hc:=λ w1 hw=>wy (hw.tape bI fin htl))) (λ x44 h44=>?_)));refine Kb1 ?_)
     all_goals
     refine aX (λ c45=>?_) (λ c45=>?_)
     ·try exact nv c45
      all_goals try (first|contradiction|(exfalso;omega))
      all_goals (refine jH ?_;refine Fw ?_;refine J85 ?_;refine aI (cF1 (hc:=λ w1 hw=>Ta (ls.length:Int) (hw.tape bI fin htl) (by omega) (by omega))) (λ x53 h53=>?_);refine aI (cT 2 0 (hs:=NW.L m x15 y.2.2.1) (os:=xQ y.2.2.1) (A0:=dD y.2.2.1.a.L++y.2.2.1.B) (V:=λ x:MV×Fr×Bool=>.bool x.2.2) (F1:=λ x:MV×Fr×Bool=>x.1.B) (hc:=λ w1 hw=>A4 (k:=x53) hy2 (by have:=hq19.h;omega) hm0 (by rw[hlen];omega) (hG.pick _ _ hy3 (by omega)).1 (hG.pick _ _ hy3 (by omega)).2.1 (λ f hf=>List.mem_append_left _ hf) (λ f hf=>List.mem_append_right _ hf) hw) (hA:=R9 hy2 (λ f hf=>hf)) (hF1:=λ x hx f hf=>.inr (by rw[hx.2] at hf;exact hf))) (λ x54 h54=>?_);refine aE ?_;refine eN ?_;refine J70 ?_)
      all_goals
       refine xS ((y.1+1,za tl y.2.1,x54.1,fD m x53 y.2.2.2)) ?_ (hw1:=λ w hw=>hw.zA0)
       ·exact⟨by omega,h54.1,(hG.pick _ _ hy3 (by omega)).2.2⟩
     ·all_goals try (first|contradiction|(exfalso;omega))
      all_goals (refine bD rfl ?_;refine aL ?_)
      all_goals
       obtain⟨K,hK1,hK2,hK3⟩:=hG.drain _ hy3
       have hKi:∀i,i<K->(Ch m n 0 i y.2.2.2).iG=false/\Uw m ((0+i)%n) (Ch m n 0 i y.2.2.2)/\(Ch m n 0 i y.2.2.2).s.iL:=λ i hi=>⟨hK2 i hi,(hG.pick _ ((0+i)%n) (hG.run hn0 hy3 i) (Nat.mod_lt _ hn0)).1,(hG.pick _ ((0+i)%n) (hG.run hn0 hy3 i) (Nat.mod_lt _ hn0)).2.1⟩
      all_goals (refine Fw ?_;refine aI (cT 2 0 (hs:=NW.L m x15 y.2.2.1) (os:=xQ y.2.2.1) (A0:=dD y.2.2.1.a.L++y.2.2.1.B) (V:=λ x:MV×Fr=>.bool true) (F1:=λ x:MV×Fr=>x.1.B) (hc:=λ w1 hw=>K6 (most:=1099511627776) hy2 (hG.len _ hy3) hn0 hKi hK3 (by omega) (by omega) (by have:=hq19.h;omega) hm0 (λ f hf=>List.mem_append_right _ hf) hw) (hA:=R9 hy2 (λ f hf=>hf)) (hF1:=λ x hx f hf=>.inr (by rw[hx.2] at hf;exact hf))) (λ x57 h57=>?_);refine J8 ?_)
      all_goals
       refine bF results8 (λ w hw=>?_);exact⟨(x15,x57.1),rfl,⟨Ch m n 0 K y.2.2.2,h57.1.up2 (by have:=hq19.h;omega),hG.run hn0 hy3 K,hK3⟩,hw.ret (by repeat (first|exact List.Sublist.refl _|apply List.Sublist.cons)) (by exact bM.all) (List.Sublist.refl _)⟩
end
section
theorem sG:∀(t:Tr) (s:Mm),(Ct.jT t s).1≠.stuck->fI (Ct.jT t s).1=true
 | .done _,_,_=>rfl
 | .load _ _,_,_=>rfl
 | .sJ _ _ _ _,_,_=>rfl
 | .alloc n i k,s,h=>sG (k ((s.nodes.length+1:Nat):Int)) (s.push n i) h
 | .cell i k,s,h=>sG (k ((s.cs.length+1:Nat):Int)) ⟨s.nodes,s.cs++[i],s.gen,s.pv⟩ h
 | .gen k,s,h=>sG (k (s.gen+1)) ⟨s.nodes,s.cs,s.gen+1,s.pv⟩ h
 | .node r k,s,h=>sG (k (aD s.nodes r)) s h
 | .stuck,_,h=>(h rfl).elim
structure S4(key:ByteArray)(v:Int)(ins:List jX):Prop where
 ok:∀o∈ins,o.kind=1/\o.handle=0/\o.key.size<=64
 last:∀j,j+1=ins.length->ins[j]?=some ⟨1,0,key,v,0⟩
 l:1<=ins.length/\ins.length<=8
abbrev Ci(key:ByteArray):List jX:=[Kd key]
def Bet(key:ByteArray)(v:Int)(m n j:Nat)(s:Mm):Prop:=∃lb,Qt (λ k=>mV k m) lb s/\(s.nodes.length<=4+30*j/\s.cs.length<=3+30*j)/\(j=n->∃q,uQ lb s key (mV key m) v q 0 (aG s.cs (aD s.nodes 4).main))
inductive P1(key:ByteArray)(v:Int)(m:Nat)(ins:List jX):Nat->AM->Prop where
 | a {j d:Nat} {Z:AM} (hth:Z.th=[⟨ins++Ci key,j,none⟩,⟨Ci key,0,none⟩,⟨Ci key,0,none⟩]) (hr:mY Z.hist 0 ins.length=none/\mY Z.hist 1 0=none/\mY Z.hist 2 0=none) (hl:Z.hist.length=2*j) (hj:j<=ins.length) (hb:Bet key v m ins.length j Z.s) (hd:(ins.length-j)*40<=d):P1 key v m ins d Z
 | b {j d e:Nat} {Z:AM} {T:Tr} (hth:Z.th=[⟨ins++Ci key,j,some T⟩,⟨Ci key,0,none⟩,⟨Ci key,0,none⟩]) (hr:mY Z.hist 0 ins.length=none/\mY Z.hist 1 0=none/\mY Z.hist 2 0=none) (hl:Z.hist.length=2*j+1) (hj:j<ins.length) (hT:T.live=true/\fI T=true) (g:Al 1000 (λ _ s=>Bet key v m ins.length (j+1) s) T e Z.s) (hs:Z.s.nodes.length<=1000/\Z.s.cs.length<=1000) (hd:e+1+(ins.length-(j+1))*40<=d):P1 key v m ins d Z
section
variable{key:ByteArray}{v:Int}{m:Nat}{ins:List jX}
theorem qe{n j:Nat}{s s2:Mm}{lb:Il}{o:jX}(hl:∀i,i+1=n->j=i->o=⟨1,0,key,v,0⟩)(hb:s.nodes.length<=4+30*j/\s.cs.length<=3+30*j)(h4:4<=s.nodes.length)(p:Wb (λ k=>mV k m) lb s ⟨t3,o.key,mV o.key m,o.val,0,o.exp⟩ 0 4 s2):Bet key v m n (j+1) s2:=by obtain⟨lb2,q2,x2,q,hm⟩:=p.ex;have hn:=p.n;refine⟨lb2,q2,⟨by omega,by omega⟩,λ e=>⟨q,?_⟩⟩;have eo:=hl j e rfl;subst eo;rw[x2.nd 4 (by omega)];exact hm
theorem vy{T:Tr}:(∃r,T=.done r)∨T.live=true:=by
 cases T with
 | done r=>exact .inl ⟨r,rfl⟩
 | load c k=>exact .inr rfl
 | sJ c o n k=>exact .inr rfl
 | alloc n i k=>exact .inr rfl
 | cell i k=>exact .inr rfl
 | gen k=>exact .inr rfl
 | node r k=>exact .inr rfl
 | stuck=>exact .inr rfl
theorem wa(hi:S4 key v ins){d:Nat}{Z:AM}(p:P1 key v m ins d Z)(hlt:Z.hist.length<2*ins.length):Uw m 0 Z/\Z.s.iL/\∃d',d'<d/\P1 key v m ins d' (fD m 0 Z):=by
 have hn8:=hi.l;cases p with
 | @a j d Z hth hr hl hj hb hd=>
  have hj2:j<ins.length:=by omega
  obtain⟨lb,qt,hs,hm⟩:=hb;have h0:Z.th[0]?=some ⟨ins++Ci key,j,none⟩:=by rw[hth];rfl
  obtain⟨o,ho⟩:∃o,ins[j]?=some o:=⟨ins[j],List.getElem?_eq_getElem hj2⟩;have ho2:(ins++Ci key)[j]?=some o:=by rw[List.getElem?_append_left hj2];exact ho
  have hom:o∈ins:=List.mem_of_getElem? ho;obtain⟨k1,k2,k3⟩:=hi.ok o hom;have eo:pS m o=wE ⟨t3,o.key,mV o.key m,o.val,0,o.exp⟩ jW:=by unfold pS;rw[if_neg (by omega),if_neg (by omega),k1];rfl
  have es:Ct.jT (pS m o) Z.s=(pS m o,Z.s):=by rw[eo];rfl
  have el:(pS m o).live=true/\fI (pS m o)=true:=by rw[eo];exact⟨rfl,rfl⟩
  have e:fD m 0 Z=⟨Z.s,Z.th.set 0 ⟨ins++Ci key,j,some (pS m o)⟩,Z.hist++[⟨0,j,false,Rs.zero⟩]⟩:=by unfold fD;rw[h0];dsimp only;rw[ho2];dsimp only;rw[es,nL el.1]
  have hlast:∀i,i+1=ins.length->j=i->o=⟨1,0,key,v,0⟩:=λ i h1 h2=>by have h3:=hi.last j (by omega);rw[ho] at h3;injection h3
  refine⟨λ t o' h1 h2=>?_,⟨by omega,by omega⟩,30+1+(ins.length-(j+1))*40,by omega,?_⟩;·rw[h0] at h1;cases h1;have h2':(ins++Ci key)[j]?=some o':=h2;rw[ho2] at h2';cases h2';show(Ct.jT (pS m o) Z.s).1≠_;rw[es];intro h;have h9:=el.2;rw[show pS m o=.stuck from h] at h9;cases h9
  ·rw[e];refine .b (T:=pS m o) (e:=30) ?_ ⟨(Bd ..).trans hr.1,(Bd ..).trans hr.2.1,(Bd ..).trans hr.2.2⟩ (by show(Z.hist++[_]).length=_;rw[List.length_append,hl];rfl) hj2 el ?_ ⟨by show Z.s.nodes.length<=_;omega,by show Z.s.cs.length<=_;omega⟩ (Nat.le_refl _);·show Z.th.set 0 _=_;rw[hth];rfl
   ·rw[eo];show Al 1000 _ (wE ⟨t3,o.key,mV o.key m,o.val,0,o.exp⟩ jW) 30 Z.s;refine qx (c:=⟨t3,o.key,mV o.key m,o.val,0,o.exp⟩) (n:=999) rfl rfl rfl k3 (λ k=>G9 k m) qt (by omega) ⟨by omega,by omega⟩ λ s2 r p2=>?_;exact qe hlast hs qt.l4 p2
 | @b j d e Z T hth hr hl hj hT g hs hd=>
  have h0:Z.th[0]?=some ⟨ins++Ci key,j,some T⟩:=by rw[hth];rfl
  obtain⟨o,ho⟩:∃o,ins[j]?=some o:=⟨ins[j],List.getElem?_eq_getElem hj⟩;have ho2:(ins++Ci key)[j]?=some o:=by rw[List.getElem?_append_left hj];exact ho
  obtain⟨e',he,hns,g2,hb⟩:=aCK g hT.1 hT.2;have hb2:=hb hs;have e0:fD m 0 Z=uD Z 0 ⟨ins++Ci key,j,some T⟩ (mC (T,Z.s)) Z.hist:=by unfold fD;rw[h0];dsimp only;rw[ho2]
  have hok:Uw m 0 Z:=λ t' o h1 h2=>by rw[h0] at h1;cases h1;exact hns
  have har:fI (mC (T,Z.s)).1=true:=sG _ _ hns;rcases vy (T:=(mC (T,Z.s)).1) with⟨r,er⟩|hl2
  ·rw[zQ er] at e0;refine⟨hok,⟨by omega,by omega⟩,(ins.length-(j+1))*40,by omega,?_⟩;rw[e0];have hne:j≠ins.length:=by omega
   rw[er] at g2;exact .a (j:=j+1) (by show Z.th.set 0 _=_;rw[hth];rfl) ⟨(M5 _ _ _ (.inr hne)).trans hr.1,(M5 _ _ _ (.inl (show(0:Nat)≠1 by decide))).trans hr.2.1,(M5 _ _ _ (.inl (show(0:Nat)≠2 by decide))).trans hr.2.2⟩ (by show(Z.hist++[_]).length=_;rw[List.length_append,hl];show 2*j+1+1=_;omega) hj g2 (Nat.le_refl _)
  ·rw[nL hl2] at e0;refine⟨hok,⟨by omega,by omega⟩,e'+1+(ins.length-(j+1))*40,by omega,?_⟩;rw[e0];exact .b (T:=(mC (T,Z.s)).1) (e:=e') (by show Z.th.set 0 _=_;rw[hth];rfl) hr hl hj ⟨hl2,har⟩ g2 hb2 (Nat.le_refl _)
def rc(key:ByteArray)(ins:List jX)(k:Nat):List jX:=if k=0 then ins++Ci key else Ci key
def yd(ins:List jX)(k:Nat):Nat:=if k=0 then ins.length else 0
def GR(key:ByteArray)(v:Int)(m:Nat)(ins:List jX)(Z:AM):Prop:=∃W N,W.key=key/\W.v=v/\N<=15900/\G3 W m (rc key ins) (yd ins) Z N
theorem aBs(hi:S4 key v ins){d:Nat}{Z:AM}(p:P1 key v m ins d Z)(hlt:¬Z.hist.length<2*ins.length):GR key v m ins Z:=by
 have hn8:=hi.l;cases p with
 | @a j d Z hth hr hl hj hb hd=>
  have hjn:j=ins.length:=by omega
  obtain⟨lb,qt,hs,hm⟩:=hb;obtain⟨q,hm⟩:=hm hjn;have jd:=aAv (u:=v) qt rfl (by omega) hm;refine⟨_,15900,rfl,rfl,Nat.le_refl _,⟨⟨λ k hk=>?_,λ k hk=>?_,rfl⟩,⟨none,λ k=>⟨rc key ins k,yd ins k,none⟩,λ _=>5300,(λ w e=>nomatch e),jd,?_,rfl,λ k hk=>.a (λ e=>nomatch e) ?_⟩,by omega,by omega⟩⟩
  ·unfold rc yd;by_cases h:k=0;·rw[if_pos h,if_pos h,List.getElem?_append_right (Nat.le_refl _)];simp
   ·rw[if_neg h,if_neg h];rfl
  ·unfold rc yd;by_cases h:k=0;·rw[if_pos h,if_pos h,List.length_append];rfl
   ·rw[if_neg h,if_neg h];rfl
  ·rw[hth,hjn];rfl
  ·have h3:k=0∨k=1∨k=2:=by omega
   rcases h3 with rfl|rfl|rfl;·exact hr.1
   ·exact hr.2.1
   ·exact hr.2.2
 | @b j d e Z T hth hr hl hj hT g hs hd=>omega
theorem aAO(hi:S4 key v ins):Alo m 3 ins.length (P1 key v m ins) (GR key v m ins):=⟨λ _ _ p h=>wa hi p h,λ _ _ p h=>aBs hi p h,λ _ _ p=>by
 cases p with
 | a hth=>rw[hth];rfl
 | b hth=>rw[hth];rfl⟩
theorem aAg:Sch m 3 (GR key v m ins):=by
 refine⟨λ Z k ⟨W,N,h1,h2,hN,hw⟩ hk=>?_,λ Z ⟨W,N,h1,h2,hN,hw⟩=>?_,λ Z ⟨W,N,h1,h2,hN,hw⟩=>hw.len⟩;·obtain⟨h3,N',h4,h5,_⟩:=hw.pick hk;have s1:=hw.sn;have s2:=hw.sc;exact⟨h3,⟨by omega,by omega⟩,W,N',h1,h2,by omega,h5⟩
 ·obtain⟨K,hK,hd,hi⟩:=hw.drain;refine⟨K,by omega,λ i hl=>?_,?_⟩;·obtain⟨N',h3,_,h4⟩:=hi i hl;rw[h4.iG];simpa using h3
  ·rw[hd.iG];rfl
theorem aAM{Z:AM}(h:GR key v m ins Z)(hd:Z.iG=true):∃j,j<3/\∀k,k<3->mY Z.hist k (yd ins k)=some (if k=j then gP true v else eG false 0):=by obtain⟨W,N,h1,h2,_,hw⟩:=h;rw[hw.iG] at hd;have e:N=0:=of_decide_eq_true hd;subst e;have:=hw.end;rw[h2] at this;exact this
theorem ta(hi:S4 key v ins)(π:Pv):P1 key v m ins 19000 (Nj [ins++Ci key,Ci key,Ci key] π):=by have hn8:=hi.l;refine .a (j:=0) rfl ⟨rfl,rfl,rfl⟩ rfl (Nat.zero_le _) ⟨_,rr π,⟨Nat.le_refl _,Nat.le_refl _⟩,λ e=>by omega⟩ (by omega)
end
end
end Go.Proofs.YtdeecdfockjoiaaGreatDoor
namespace Go.Ct
open Go Go.RowKit
section
section
variable{P:Program}{w:World}
def y0(P:Program)(t:TypeId):Nat->Bool
 | 0=>match P.underlying t with|some (.int _)=>true|_=>false
 | 1=>match P.underlying t with|some .bool=>true|_=>false
 | _=>match P.underlying t with|some .string=>true|_=>false
inductive re:Nat->Value->Value->Bool->Prop where
 | int (k:IntKind) (a b:Int):re 0 (.int k a) (.int k b) (a==b)
 | bool (a b:Bool):re 1 (.bool a) (.bool b) (a==b)
 | str (a b:ByteArray):re 2 (.string a) (.string b) (decide (a=b))
theorem re.run{t:TypeId}{k:Nat}{u v:Value}{r:Bool}(h:re k u v r)(ht:y0 P t k=true)(d:Nat):(Op.equalIn (d+1) t u v).run P w=.ok r w:=by
 cases h with
 | int k a b=>
  cases hu:P.underlying t with
  | none=>simp[y0,hu] at ht
  | some z=>cases z<;>simp[y0,hu] at ht;exact run_equalIn_int w d t k _ a b hu
 | bool a b=>
  cases hu:P.underlying t with
  | none=>simp[y0,hu] at ht
  | some z=>cases z<;>simp[y0,hu] at ht;exact run_equalIn_bool w d t a b hu
 | str a b=>
  cases hu:P.underlying t with
  | none=>simp[y0,hu] at ht
  | some z=>cases z<;>simp[y0,hu] at ht;rw[<- Jk];exact run_equalIn_string w d t a b hu
def fOk(P:Program)(f:Field)(o k:Nat):Bool:=f.name != "_" && Nat.beq f.offset o&&one P f.type&&y0 P f.type k
variable{xs ys:Array Value}{d:Nat}
theorem Xc{f:Field}{fs:List Field}{o k:Nat}{u v:Value}{r:Bool}(hf:fOk P f o k=true)(hx:xs[o]?=some u)(hy:ys[o]?=some v)(h:re k u v r) :
  (Op.eqFields (d+1) xs ys (f::fs)).run P w=if r=true then(Op.eqFields (d+1) xs ys fs).run P w else .ok false w:=by
 simp only[fOk,Bool.and_eq_true,bne_iff_ne,ne_eq] at hf;obtain⟨⟨⟨h1,h2⟩,h3⟩,h4⟩:=hf;replace h2:=fC h2;subst h2;have p1:(part f.type xs f.offset).run P w=.ok u w:=lJ h3 hx w;have p2:(part f.type ys f.offset).run P w=.ok v w:=lJ h3 hy w;simp only[Op.eqFields,h1,ne_eq,not_false_eq_true,if_true,Sem.run_bind,p1,p2,h.run h4 d,Result.andThen_ok,Sem.run_ite,Sem.run_pure]
 cases r<;>simp
theorem qw:(Op.eqFields d xs ys []).run P w=.ok true w:=by simp[Op.eqFields]
def Zi(P:Program)(t:TypeId):List Nat->Nat->List Field->Bool
 | [],_,fs=>fs.isEmpty
 | k::ks,o,f::fs=>fOk P f o k&&Zi P t ks (o+1) fs
 | _::_,_,[]=>false
inductive Ie:List Nat->List Value->List Value->Bool->Prop where
 | nil:Ie [] [] [] true
 | cons {k:Nat} {ks:List Nat} {u v:Value} {us vs:List Value} {r r2:Bool} (h:re k u v r) (hs:Ie ks us vs r2):Ie (k::ks) (u::us) (v::vs) (r&&r2)
theorem Ww{t:TypeId}{d:Nat}:∀{ks:List Nat} {us vs:List Value} {r:Bool} {fs:List Field} {o:Nat} {xs ys:List Value},Ie ks us vs r->Zi P t ks o fs=true->xs.drop o=us->ys.drop o=vs ->
  (Op.eqFields (d+1) ⟨xs⟩ ⟨ys⟩ fs).run P w=.ok r w
 | [],_,_,_,fs,_,_,_,h,hs,_,_=>by
  cases h
  cases fs with
  | nil=>exact qw
  | cons f fs=>simp[Zi] at hs
 | k::ks,_,_,_,fs,o,xs,ys,h,hs,hx,hy=>by
  cases h with
  | @cons _ _ u v us vs r r2 h h2 =>
   cases fs with
   | nil=>simp[Zi] at hs
   | cons f fs =>
    simp only[Zi,Bool.and_eq_true] at hs
    have ex:xs[o]?=some u:=by rw[<- List.head?_drop,hx];rfl
    have ey:ys[o]?=some v:=by rw[<- List.head?_drop,hy];rfl
    have hx2:xs.drop (o+1)=us:=by rw[<- List.drop_drop,hx];rfl
    have hy2:ys.drop (o+1)=vs:=by rw[<- List.drop_drop,hy];rfl
    rw[Xc hs.1 (by simpa using ex) (by simpa using ey) h,Ww h2 hs.2 hx2 hy2]
    cases r<;>simp
def Nk(P:Program)(t:TypeId)(ks:List Nat):Bool :=
 (match P.underlying t with
 | some (.struct fs)=>Zi P t ks 0 fs.toList
 | _=>false)&&!P.stoodInHeld t&&!P.eqGuardType P.depth t
theorem Q6{t:TypeId}{ks:List Nat}{us vs:List Value}{r:Bool}(h:Nk P t ks=true)(hv:Ie ks us vs r)(d:Nat) :
  (Op.equalIn (d+2) t (.agg ⟨us⟩) (.agg ⟨vs⟩)).run P w=.ok r w/\P.eqGuardType P.depth t=false:=by
 unfold Nk at h;cases hu:P.underlying t with
 | none=>simp[hu] at h
 | some dd=>
  rw[hu] at h;cases dd<;>simp only[Bool.false_and,Bool.false_eq_true] at h;rename_i fs;have hf:P.fieldsOf t=fs:=by simp[Program.fieldsOf,hu]
  simp only[Bool.and_eq_true,Bool.not_eq_true'] at h;refine⟨?_,h.2⟩;rw[run_equalIn_struct w (d+1) t _ _ (by rw[hf];exact hu) h.1.2,hf];exact Ww (o:=0) hv h.1.1 rfl rfl
def Eg(P:Program)(t:TypeId):List Nat->List Nat->Nat->List Field->Bool
 | [],k2,o,[f]=>f.name != "_" && Nat.beq f.offset o&&jB P f.type 2&&Nk P f.type k2
 | k::ks,k2,o,f::fs=>fOk P f o k&&Eg P t ks k2 (o+1) fs
 | _,_,_,_=>false
theorem A9{t:TypeId}(h:jB P t 2=true){cs:List Value}{off:Nat}{u v:Value}(hv:cs.drop off=[u,v])(w:World):(part t ⟨cs⟩ off).run P w=.ok (.agg ⟨[u,v]⟩) w:=by
 obtain⟨dd,hu,hm,hi⟩:=iH h;have hagg:(isAgg t).run P w=.ok true w:=by unfold isAgg;rw[Sem.run_bind,run_underlying hu w];cases dd<;>simp_all
 cases hq':P.info? t with
 | none=>rw[hq'] at hi;simp at hi
 | some i=>
  have hs:i.size=2:=by rw[hq'] at hi;simpa using hi
  simp[part,hagg,Go.sizeOf,typeInfo,hq',hs,hv]
theorem Qx{t:TypeId}{d:Nat}{k2:List Nat}{a1 a2 b1 b2:Value}{r2:Bool}(hn:Ie k2 [a1,a2] [b1,b2] r2):∀{ks:List Nat} {us vs:List Value} {r:Bool} {fs:List Field} {o:Nat} {xs ys:List Value},Ie ks us vs r->Eg P t ks k2 o fs=true->xs.drop o=us++[a1,a2]->ys.drop o=vs++[b1,b2] ->
  (Op.eqFields (d+2) ⟨xs⟩ ⟨ys⟩ fs).run P w=.ok (r&&r2) w
 | [],_,_,_,fs,o,xs,ys,h,hs,hx,hy=>by
  cases h
  cases fs with
  | nil=>simp[Eg] at hs
  | cons f fs =>
   cases fs with
   | cons g fs=>simp[Eg] at hs
   | nil =>
    simp only[Eg,Bool.and_eq_true,bne_iff_ne,ne_eq] at hs
    obtain⟨⟨⟨h1,h2⟩,h3⟩,h4⟩:=hs
    replace h2:=fC h2;subst h2;have p1:(part f.type ⟨xs⟩ f.offset).run P w=.ok (.agg ⟨[a1,a2]⟩) w:=A9 h3 hx w;have p2:(part f.type ⟨ys⟩ f.offset).run P w=.ok (.agg ⟨[b1,b2]⟩) w:=A9 h3 hy w;simp only[Op.eqFields,h1,ne_eq,not_false_eq_true,if_true,Sem.run_bind,p1,p2,(Q6 (w:=w) h4 hn d).1,Result.andThen_ok,Sem.run_ite,Sem.run_pure]
    cases r2<;>simp
 | k::ks,_,_,_,fs,o,xs,ys,h,hs,hx,hy=>by
  cases h with
  | @cons _ _ u v us vs r r3 h h2 =>
   cases fs with
   | nil=>simp[Eg] at hs
   | cons f fs =>
    simp only[Eg,Bool.and_eq_true] at hs
    have ex:xs[o]?=some u:=by rw[<- List.head?_drop,hx];rfl
    have ey:ys[o]?=some v:=by rw[<- List.head?_drop,hy];rfl
    have hx2:xs.drop (o+1)=us++[a1,a2]:=by rw[<- List.drop_drop,hx];rfl
    have hy2:ys.drop (o+1)=vs++[b1,b2]:=by rw[<- List.drop_drop,hy];rfl
    rw[Xc hs.1 (by simpa using ex) (by simpa using ey) h,Qx hn h2 hs.2 hx2 hy2]
    cases r<;>simp
def pT(P:Program)(t:TypeId)(ks k2:List Nat):Bool :=
 (match P.underlying t with
 | some (.struct fs)=>Eg P t ks k2 0 fs.toList
 | _=>false)&&!P.stoodInHeld t&&!P.eqGuardType P.depth t
theorem Na{t:TypeId}{ks k2:List Nat}{us vs:List Value}{a1 a2 b1 b2:Value}{r r2:Bool}(h:pT P t ks k2=true)(hv:Ie ks us vs r)(hn:Ie k2 [a1,a2] [b1,b2] r2)(d:Nat) :
  (Op.equalIn (d+3) t (.agg ⟨us++[a1,a2]⟩) (.agg ⟨vs++[b1,b2]⟩)).run P w=.ok (r&&r2) w/\P.eqGuardType P.depth t=false:=by
 unfold pT at h
 cases hu:P.underlying t with
 | none=>simp[hu] at h
 | some dd =>
  rw[hu] at h
  cases dd<;>simp only[Bool.false_and,Bool.false_eq_true] at h
  rename_i fs
  have hf:P.fieldsOf t=fs:=by simp[Program.fieldsOf,hu]
  simp only[Bool.and_eq_true,Bool.not_eq_true'] at h
  refine⟨?_,h.2⟩
  rw[run_equalIn_struct w (d+2) t _ _ (by rw[hf];exact hu) h.1.2,hf]
  exact Qx (o:=0) hn hv h.1.1 rfl rfl
variable{S:List (Nat×Value)}{G:World->Prop}{d:Nat}{ty t t':TypeId}{pos:String}{af:Array Edge}{gd:Option (Nat×Bool)}{x y:Operand}
instance:DecidableEq Ac:=λ a b=>if h:a.k=b.k/\a.c=b.c/\a.o=b.o/\a.n=b.n then isTrue (by cases a;cases b;simp_all) else isFalse (λ e=>h (by subst e;exact⟨rfl,rfl,rfl,rfl⟩))
instance:DecidableEq Rs:=λ a b=>if h:a.err=b.err/\a.found=b.found/\a.val=b.val/\a.key=b.key/\a.jG=b.jG/\a.ref=b.ref/\a.root=b.root/\a.ro=b.ro then isTrue (by cases a;cases b;simp_all) else isFalse (λ e=>h (by subst e;exact⟨rfl,rfl,rfl,rfl,rfl,rfl,rfl,rfl⟩))
theorem gz(a b:Rs){t:TypeId}(ht:pT P t [0,1,0,2,0,0] [0,1]=true)(d:Nat) :
  (Op.equalIn (d+3) t (.agg ⟨a.cells⟩) (.agg ⟨b.cells⟩)).run P w=.ok (decide (a=b)) w/\P.eqGuardType P.depth t=false:=by
 have h:=Na (w:=w) ht (Ie.cons (re.int .i64 a.err b.err) (.cons (.bool a.found b.found) (.cons (.int .u64 a.val b.val) (.cons (.str a.key b.key) (.cons (.int .i64 a.jG b.jG) (.cons (.int .i64 a.ref b.ref) .nil))))))
  (Ie.cons (re.int .i64 a.root b.root) (.cons (.bool a.ro b.ro) .nil)) d
 have e:((a.err==b.err&&(a.found==b.found&&(a.val==b.val&&(decide (a.key=b.key)&&(a.jG==b.jG&&(a.ref==b.ref&&true))))))&&(a.root==b.root&&(a.ro==b.ro&&true)))=decide (a=b):=by rw[Bool.eq_iff_iff];obtain⟨a1,a2,a3,a4,a5,a6,a7,a8⟩:=a;obtain⟨b1,b2,b3,b4,b5,b6,b7,b8⟩:=b;simp[and_assoc]
 rw[e] at h;exact h
theorem td{a b:Rs}(hx:ev S x=.agg ⟨a.cells⟩)(hy:ev S y=.agg ⟨b.cells⟩)(ht:pT P t [0,1,0,2,0,0] [0,1]=true):aN P S G ⟨some d,.binOp .eql t x y t',ty,pos,af,gd⟩ (.bool (decide (a=b))):=⟨λ w _=>by have h:=gz (w:=w) a b ht 9997;simp[execOp,hx,hy,run_eqGuard_agg w _ t _ _ _ _ h.2,run_eql_struct,h.1]⟩
theorem O3{a b:Rs}(hx:ev S x=.agg ⟨a.cells⟩)(hy:ev S y=.agg ⟨b.cells⟩)(ht:pT P t [0,1,0,2,0,0] [0,1]=true):aN P S G ⟨some d,.binOp .neq t x y t',ty,pos,af,gd⟩ (.bool (!decide (a=b))):=⟨λ w _=>by have h:=gz (w:=w) a b ht 9997;simp[execOp,hx,hy,run_eqGuard_agg w _ t _ _ _ _ h.2,run_neq_struct,h.1]⟩
end
end
end Go.Ct
namespace Go.Proofs.YtdeecdfockjoiaaGreatDoor
open Go.Proofs.Tryz
open Go Go.RowKit Go.Ct
section
end
section
theorem Gh:dU prog 32 26 [.slice none 0 0]:=gR (z:=.slice none 0 0) (by kernel_rfl) (by kernel_rfl) rfl
theorem jj:dU prog 22 3 [.int .i64 0]:=gR (z:=.int .i64 0) (by kernel_rfl) (by kernel_rfl) rfl
theorem Te(a b:Int)(w:World):(Instr.build 49 #[(0,.int .i64 a),(1,.int .i64 b)]).run prog w=.ok (.agg ⟨[.int .i64 a,.int .i64 b]⟩) w:=by kernel_rfl
theorem vJ{S:List (Nat×Value)}{G:World->Prop}{d:Nat}{ty:TypeId}{pos:String}{af:Array Edge}{gd:Option (Nat×Bool)}{x y:Operand}{a b:Int}(hx:ev S x=.int .i64 a)(hy:ev S y=.int .i64 b):aN prog S G ⟨some d,.build 49 #[(0,x),(1,y)],ty,pos,af,gd⟩ (.agg ⟨[.int .i64 a,.int .i64 b]⟩):=⟨λ w _=>by simp[execOp,hx,hy,Te]⟩
theorem j9{w0 w:World}{M:List Nat}{A F F0:Fr}{V:MV}{o:Ow}{L:List (Nat×Obj)}{q:Nat×Obj}(h:SF w0 M (L++[q]) A (F++F0) (xQ V++[o]) w):SF w0 M (q::L) A F (xQ V) w:=by have h2:=h.sub (H':=L++[q]) (F':=F) (O':=xQ V) (List.Sublist.refl _) (bM.dB λ f hf=>List.mem_append_left _ hf) (List.sublist_append_left _ _);exact h2.perm (List.perm_append_comm (l₁:=[q]) (l₂:=L)) (List.Perm.refl _)
theorem Be(k:ByteArray)(v:Int)(w:World):Calls prog 6 #[.string k,.int .u64 v] w λ e w'=>e=.returned (.agg ⟨jX.cells ⟨1,0,k,v,0⟩⟩)/\St w [] [] w':=by refine enter func6 ntmps6 rfl rfl (SF.s0 w) ?_;simp only[cN];refine K2f ?_;intro x4;refine Ke2 ?_;refine Sv ?_;refine bF results6 (λ w hw=>?_);exact⟨rfl,hw.done⟩
theorem kr{l:List Int}{a:Option Addr}{b c k:Nat}{w:World}(ht:vm w b a l c k) :
  Calls prog 7 #[.pointer (some ⟨b,0,none⟩)] w λ e w' =>
  ∃q:ByteArray,e=.returned (.string q)/\q.size<=3/\SF w [b] ((b,tn a l c (za l k))::[]) [] [] [] w' :=
 (aDi ht).mono λ e w' ⟨v,e1,_,h⟩=>⟨_,e1,Uq v,h⟩
section
variable{P:Program}{n:Nat}{Q:Exit->Act->World->Prop}{ks:List CK}{ops:Array Oper}{Dl Dp Dq L LL M:List Nat}{S:List (Nat×Value)}{G:World->Prop}{q pl r:nS}{j k:Nat}
def T9:nS->List Nat
 | .two i _ _ _ _ q=>i::T9 q
 | _=>[]
theorem vi(h:LS P n Q ks ops Dl Dp Dq S G (.two j L pl k M q) (T9 (.two j L pl k M q)))(hc:lE ops Dl Dp Dq (T9 (.two j L pl k M q))=true:=by decide +kernel):JR P n Q ks ops (.two j L pl k M q) Dl Dp Dq S G:=jF hc h
theorem sH(i:Nat)(h:JR P n Q ks ops (.one i LL pl) Dl Dp Dq S G):JR P n Q ks ops (.one i LL pl) Dl Dp Dq S G:=h
theorem Lj(i:Nat)(h:gW P n Q ks ops pl Dl Dp Dq S G i LL):gW P n Q ks ops pl Dl Dp Dq S G i LL:=h
end
def Dw(l:List jX):Prop:=∀o∈l,o.kind=1/\o.handle=0/\o.key.size<=64
theorem Dw.add{l:List jX}{k:ByteArray}{v:Int}(h:Dw l)(hk:k.size<=64):Dw (l++[⟨1,0,k,v,0⟩]):=λ o ho=>by
 rcases List.mem_append.1 ho with ho|ho;·exact h o ho
 ·rw[List.mem_singleton.1 ho];exact⟨rfl,rfl,hk⟩
theorem Dw.ins{l:List jX}{k:ByteArray}{v:Int}(h:Dw l)(hk:k.size<=64)(hl:l.length<=7):S4 k v (l++[⟨1,0,k,v,0⟩]):=by
 refine⟨h.add hk,λ j e=>?_,by simp,by simpa using hl⟩;have:j=l.length:=by simpa using e
 subst this;simp
abbrev ls3(key:ByteArray)(ins:List jX)(p:Option Addr)(c b1 b2:Nat):List uP:=[⟨p,c,ins++Ci key⟩,⟨some ⟨b1,0,none⟩,1,Ci key⟩,⟨some ⟨b2,0,none⟩,1,Ci key⟩]
section
variable{key:ByteArray}{v:Int}{ins:List jX}{p:Option Addr}{c b1 b2:Nat}
theorem aAR(h:S4 key v ins)(hk:key.size<=64):∀s∈ls3 key ins p c b1 b2,s.l.length<=16/\∀o∈s.l,Gs o:=λ s hs=>by
 have h5:Gs (Kd key):=⟨by simp,rfl,hk⟩;have hr:∀o∈Ci key,Gs o:=λ o ho=>by rw[List.mem_singleton.1 ho];exact h5
 have h8:=h.l;simp only[List.mem_cons,List.not_mem_nil,or_false] at hs;rcases hs with rfl|rfl|rfl
 ·refine⟨by rw[List.length_append];show ins.length+1<=16;omega,λ o ho=>?_⟩;rcases List.mem_append.1 ho with ho|ho;·obtain⟨h1,h2,h3⟩:=h.ok o ho;exact⟨.inl h1,h2,h3⟩
  ·exact hr o ho
 ·exact⟨by show 1<=16;decide,hr⟩
 ·exact⟨by show 1<=16;decide,hr⟩
theorem aB2(n:Nat)(hn:ins.length=n):kI (ls3 key ins p c b1 b2)=[.slice p (n+1:Nat) c,.slice (some ⟨b1,0,none⟩) 1 1,.slice (some ⟨b2,0,none⟩) 1 1]:=by subst hn;show [Value.slice p (ins++Ci key).length c,.slice (some ⟨b1,0,none⟩) 1 1,.slice (some ⟨b2,0,none⟩) 1 1]=_;rw[List.length_append];rfl
theorem kv{w:World}{m n:Nat}{tl:List Int}{q a:Option Addr}{ca:Nat}(h:S4 key v ins)(hk:key.size<=64)(hn:ins.length=n)(hm0:m<18446744073709551616)(hq:Go.Ct.Cl w q [.slice p (n+1:Nat) c,.slice (some ⟨b1,0,none⟩) 1 1,.slice (some ⟨b2,0,none⟩) 1 1])(h0:Go.Ct.Cl w p (iB (ins++Ci key)))(h1:Go.Ct.Cl w (some ⟨b1,0,none⟩) (iB (Ci key)))(h2:Go.Ct.Cl w (some ⟨b2,0,none⟩) (iB (Ci key)))(hca:Go.Ct.Cl w a (aT tl))(htl:tl.length<=17592186043904) :
  Calls prog 8 #[.agg ⟨[.int .u64 (m:Int),.slice q 3 3,.slice none 0 0]⟩,.int .i64 ((n:Nat):Int),.slice a tl.length ca] w λ e w'=>∃x:NW×MV,e=.returned (.tuple #[pt x.1.bm,.bool true])/\(∃Z,aBf (GR key v m ins) x Z)/\SF w [] (NW.L m x.1 x.2) [] x.2.B (xQ x.2) w':=by
 have hP:Alo m 3 n (P1 key v m ins) (GR key v m ins):=by rw[<- hn];exact aAO h
 have hz:∀π,P1 key v m ins 19000 (Nj ((ls3 key ins p c b1 b2).map uP.l) π):=λ π=>ta h π;have h8:=h.l
 have hs:∀s∈ls3 key ins p c b1 b2,Go.Ct.Cl w s.p (iB s.l):=λ s hs=>by
  simp only[List.mem_cons,List.not_mem_nil,or_false] at hs;rcases hs with rfl|rfl|rfl;·exact h0
  ·exact h1
  ·exact h2
 have hl:(ls3 key ins p c b1 b2).length=3:=rfl;exact Po (ls:=ls3 key ins p c b1 b2) aAg hP (by omega) hz hl (by decide) hm0 (by omega) (aAR h hk) (by rw[aB2 n hn];exact hq) hs hca htl
def Md(v:Int)(j k:Nat):Rs:=if k=j then gP true v else eG false 0
def Is(j:Nat):Nat->Int
 | 0=>0
 | k+1=>if k=j then 1 else Is j k
theorem Q0(j:Nat):∀k,k<=j->Is j k=0
 | 0,_=>rfl
 | k+1,h=>by show(if k=j then 1 else Is j k)=0;rw[if_neg (by omega)];exact Q0 j k (by omega)
theorem xc{j:Nat}(h:j<3):Is j 3=1:=by
 have:j=0∨j=1∨j=2:=by omega
 rcases this with rfl|rfl|rfl<;>rfl
variable{j k:Nat}
theorem aDc(h:Md v j k=⟨0,true,v,⟨#[]⟩,1,0,0,false⟩):k=j:=by
 unfold Md at h;by_cases e:k=j;·exact e
 ·rw[if_neg e] at h;have:=congrArg Rs.jG h;simp[eG] at this
theorem yu(h:¬Md v j k=⟨0,true,v,⟨#[]⟩,1,0,0,false⟩):k≠j:=λ e=>by unfold Md at h;rw[if_pos e] at h;exact h rfl
theorem aBp(h:k=j):IntKind.i64.wrap (Is j k+1)=Is j (k+1):=by
 rw[Q0 j k (by omega)];show _=if k=j then 1 else Is j k
 rw[if_pos h];decide
theorem zy(h:k≠j):Is j k=Is j (k+1):=by
 show _=if k=j then 1 else Is j k
 rw[if_neg h]
theorem aC9{u:Nat}(h:u<3):(aT [((ins.length:Nat):Int),0,0])[u]?=some (.int .i64 ((yd ins u:Nat):Int)):=by
 have:u=0∨u=1∨u=2:=by omega
 rcases this with rfl|rfl|rfl<;>rfl
end
theorem aAB{P:Program}{S:List (Nat×Value)}{G:World->Prop}{d:Nat}{ty t t':TypeId}{pos:String}{af:Array Edge}{gd:Option (Nat×Bool)}{x y:Operand}{a b:Rs}(hx:ev S x=.agg ⟨a.cells⟩)(hy:ev S y=.agg ⟨b.cells⟩)(ht:pT P t [0,1,0,2,0,0] [0,1]=true)(h:a=b):aN P S G ⟨some d,.binOp .neq t x y t',ty,pos,af,gd⟩ (.bool false):=by have:=O3 (P:=P) (G:=G) (d:=d) (ty:=ty) (pos:=pos) (af:=af) (gd:=gd) (t':=t') hx hy ht;rwa [show(!decide (a=b))=false by simp[h]] at this
end
end Go.Proofs.YtdeecdfockjoiaaGreatDoor

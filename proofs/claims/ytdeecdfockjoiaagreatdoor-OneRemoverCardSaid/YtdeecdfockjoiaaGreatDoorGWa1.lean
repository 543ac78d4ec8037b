/- Merged. -/
import Derived.Test.YtdeecdfockjoiaaGreatDoorGWn1
import Derived.Test.YtdeecdfockjoiaaGreatDoorLz0
set_option linter.unusedSimpArgs false
set_option linter.unusedVariables false
namespace Go.Proofs.YtdeecdfockjoiaaGreatDoor
open Go.Proofs.Tryz
open Go Go.RowKit Go.Ct
section
def okB(m k:Nat)(Z:AM):Bool :=
 match Z.th[k]? with
 | none=>true
 | some t=>match t.ops[t.idx]? with
  | none=>true
  | some o=>match t.pr with
   | none=>(match(Ct.jT (pS m o) Z.s).1 with|.stuck=>false|_=>true)
   | some T=>(match(mC (T,Z.s)).1 with|.stuck=>false|_=>true)
theorem z9{m k:Nat}{Z:AM}(h:okB m k Z=true):Uw m k Z:=λ t o h1 h2=>by
 unfold okB at h;rw[h1] at h;dsimp only at h;rw[h2] at h;dsimp only at h;cases hp:t.pr with
 | none=>rw[hp] at h;dsimp only at h ⊢;intro e;rw[e] at h;cases h
 | some T=>rw[hp] at h;dsimp only at h ⊢;intro e;rw[e] at h;cases h
def Wd(m k:Nat)(Z:AM):Bool:=okB m k Z&&(Nat.ble Z.s.nodes.length 1000&&Nat.ble Z.s.cs.length 1000)
theorem Pk{m k:Nat}{Z:AM}(h:Wd m k Z=true):Uw m k Z/\Z.s.iL:=by unfold Wd at h;simp only[Bool.and_eq_true] at h;obtain⟨h1,h2,h3⟩:=h;have h2':=Nat.le_of_ble_eq_true h2;have h3':=Nat.le_of_ble_eq_true h3;exact⟨z9 h1,by omega,by omega⟩
def sd(m:Nat):List Nat->AM->Bool
 | [],_=>true
 | k::l,Z=>Wd m k Z&&sd m l (fD m k Z)
theorem X2{m:Nat}:∀{l:List Nat} {Z:AM},sd m l Z=true->∀i (h:i<l.length),Uw m l[i] (C8 m (l.take i) Z)/\(C8 m (l.take i) Z).s.iL
 | [],_,_,i,h=>absurd h (Nat.not_lt_zero i)
 | k::l,Z,hc,i,h=>by
  unfold sd at hc;rw[Bool.and_eq_true] at hc;cases i with
  | zero=>exact Pk hc.1
  | succ i=>exact X2 hc.2 i (by simpa using h)
def ra(m n:Nat):Nat->Nat->AM->Bool
 | _,0,Z=>Z.iG
 | r,K+1,Z=>!Z.iG&&(Wd m (r%n) Z&&ra m n (r+1) K (fD m (r%n) Z))
theorem Vn{m n:Nat}:∀{K r:Nat} {Z:AM},ra m n r K Z=true->(∀i,i<K->(Ch m n r i Z).iG=false/\Uw m ((r+i)%n) (Ch m n r i Z)/\(Ch m n r i Z).s.iL)/\(Ch m n r K Z).iG=true
 | 0,_,_,h=>⟨λ i hi=>absurd hi (Nat.not_lt_zero i),h⟩
 | K+1,r,Z,h=>by
  unfold ra at h;simp only[Bool.and_eq_true,Bool.not_eq_true'] at h;obtain⟨h1,h2,h3⟩:=h;obtain⟨g1,g2⟩:=Vn h3;refine⟨λ i hi=>?_,by rw[sC];exact g2⟩;cases i with
  | zero=>exact⟨h1,Pk h2⟩
  | succ i=>rw[sC,show r+(i+1)=r+1+i by omega];exact g1 i (by omega)
def gD:ByteArray:=⟨#[97]⟩
def opA:List (List jX):=[[⟨1,0,gD,1,0⟩],[⟨1,0,gD,2,0⟩,⟨7,0,gD,0,0⟩]]
def pf:List Nat:=[0,1,0,1,0,1,0,1,0,1,1,0]
def N9:List oR:=[⟨0,0,false,Rs.zero⟩,⟨1,0,false,Rs.zero⟩,⟨0,0,true,gP false 0⟩,⟨1,0,true,gP true 1⟩,⟨1,1,false,Rs.zero⟩,⟨1,1,true,eG true 2⟩]
theorem z6(π:Pv):sd 63 pf (Nj opA π)=true:=by kernel_rfl
theorem lq(π:Pv):ra 63 2 0 22 (C8 63 pf (Nj opA π))=true:=by kernel_rfl
theorem uy(π:Pv):(Ch 63 2 0 22 (C8 63 pf (Nj opA π))).hist=N9:=by kernel_rfl
end
section
abbrev Pf(p0:Option Addr)(c0:Nat)(p1:Option Addr)(c1:Nat):List uP:=[⟨p0,c0,[⟨1,0,gD,1,0⟩]⟩,⟨p1,c1,[⟨1,0,gD,2,0⟩,⟨7,0,gD,0,0⟩]⟩]
structure DAt(w:World)(p:Option Addr)(p0:Option Addr)(c0:Nat)(p1:Option Addr)(c1:Nat)(pl:Option Addr):Prop where
 hp:Go.Ct.Cl w p (kI (Pf p0 c0 p1 c1))
 h0:Go.Ct.Cl w p0 (iB [⟨1,0,gD,1,0⟩])
 h1:Go.Ct.Cl w p1 (iB [⟨1,0,gD,2,0⟩,⟨7,0,gD,0,0⟩])
 hl:Go.Ct.Cl w pl (Fk N9)
theorem DAt.start{w:World}{p p0 p1 pl:Option Addr}{c0 c1:Nat}(h:DAt w p p0 c0 p1 c1 pl):SF w [] [] [(p,kI (Pf p0 c0 p1 c1)),(p0,iB [⟨1,0,gD,1,0⟩]),(p1,iB [⟨1,0,gD,2,0⟩,⟨7,0,gD,0,0⟩]),(pl,Fk N9)] [] [] w:=SF.begin λ f hf=>by
 simp only[List.mem_cons,List.not_mem_nil,or_false] at hf;rcases hf with rfl|rfl|rfl|rfl;·exact h.hp
 ·exact h.h0
 ·exact h.h1
 ·exact h.hl
def evT:Nat->List Value
 | 0=>[.int .i64 0,.int .i64 0,.int .i64 0,.int .i64 0,.int .i64 0,.int .i64 0,.int .i64 0,.int .i64 0]
 | 1=>[.int .i64 1,.int .i64 0,.int .i64 0,.int .i64 0,.int .i64 0,.int .i64 0,.int .i64 0,.int .i64 0]
 | 2=>[.int .i64 1,.int .i64 1,.int .i64 0,.int .i64 0,.int .i64 0,.int .i64 0,.int .i64 0,.int .i64 0]
 | 3=>[.int .i64 2,.int .i64 1,.int .i64 0,.int .i64 0,.int .i64 0,.int .i64 0,.int .i64 0,.int .i64 0]
 | 4=>[.int .i64 2,.int .i64 2,.int .i64 0,.int .i64 0,.int .i64 0,.int .i64 0,.int .i64 0,.int .i64 0]
 | 5=>[.int .i64 2,.int .i64 3,.int .i64 0,.int .i64 0,.int .i64 0,.int .i64 0,.int .i64 0,.int .i64 0]
 | _=>[.int .i64 2,.int .i64 4,.int .i64 0,.int .i64 0,.int .i64 0,.int .i64 0,.int .i64 0,.int .i64 0]
theorem zx{P:Program}{S:List (Nat×Value)}{G:World->Prop}{d:Nat}{ty t t':TypeId}{pos:String}{af:Array Edge}{gd:Option (Nat×Bool)}{x y:Operand}{a b:Int}(hx:ev S x=.int .i64 a)(hy:ev S y=.int .i64 b)(h0:b≠0):aN P S G ⟨some d,.binOp .quo t x y t',ty,pos,af,gd⟩ (.int .i64 (IntKind.i64.wrap (a.tdiv b))):=⟨λ w _=>by simp[execOp,hx,hy,eqGuard_at_int,binOp,Op.intDiv,h0]⟩
section
variable{w:World}{p p0 p1 pl:Option Addr}{c c0 c1 cl:Nat}
theorem aBA(e:oR)(w:World):Calls prog 47 #[.agg ⟨e.cells⟩] w λ en w'=>en=.returned (.agg ⟨jO (e.thr,e.idx)⟩)/\St w [] [] w':=by refine enter func47 ntmps47 rfl rfl (SF.s0 w) ?_;simp only[cN];simp only[oR.cells];refine J0 ?_;refine bC (λ x1=>?_);refine aH (cC λ _=>cW (z:=[.int .i64 0,.int .i64 0]) (by kernel_rfl)) (λ x2=>?_);refine aE ?_;refine jN ?_;refine J3 ?_;refine aA (vJ rf rf) rfl ?_;refine aM (cC λ _=>aC rf bI rf rfl (by kernel_rfl) rf dM) (λ _=>?_);refine aE ?_;refine rA results47 (.cell rf bI (by kernel_rfl) .nil) (λ w hw=>?_);exact⟨rfl,hw.done⟩
set_option maxRecDepth 100000 in
theorem Th(h:DAt w p p0 c0 p1 c1 pl):Calls prog 46 #[.slice p 2 c,.slice pl 6 cl] w λ en w'=>en=.returned (.bool true)/\St w [] [] w':=by
 refine enter func46 ntmps46 rfl rfl h.start ?_;simp only[cN];refine eD ?_;refine J0 ?_;refine aH (cC λ _=>cW (z:=evT 0) (by kernel_rfl)) (λ x5=>?_);refine Ke3 ?_;refine Ka8 ?_;refine sF [4,7,8,11,12,13,14,15,16,17,18,19,20,21,22,23,24,25,26,27,28,29,30,31,32,33,34,35,36,37,38,39,40,41,42,43,44,45,46,47,48,49,50,51,52,53,54,55,56,57,58,59,60,61,62,63,64,65,66,67,68,69,70,71,72,73] (λ z:Nat=>[(11,.int .i64 ((z:Nat):Int))]) (λ z=>z<=6) (λ z=>[(x5,.cells ⟨evT z⟩ 169 (0,0))]) (λ _=>_) (λ _=>_) (λ z=>6-z) (0) (Nat.zero_le _) (λ z f hx=>?_);refine K4a ?_;refine aX (λ c12=>?_) (λ c12=>?_)
 ·try (first|contradiction|(exfalso;omega)|(exfalso;simp_all;done))
  have hz6:z=0∨z=1∨z=2∨z=3∨z=4∨z=5:=by omega
  obtain⟨q,hq⟩:∃q,q=z+1:=⟨_,rfl⟩;rcases hz6 with rfl|rfl|rfl|rfl|rfl|rfl;all_goals dsimp only[evT]
  all_goals (refine Ke1 ?_;refine aA (bP (f:=oR.cells) (l:=N9) iQ (by decide) rf rf dP cY (.old (.tail (.tail (.tail .head)))) (by decide) (by decide)) rfl ?_;refine aA (cZ (f:=oR.cells) (l:=N9) iQ rf cY (.old (.tail (.tail (.tail .head)))) rfl) rfl ?_;refine aJ (λ x7=>?_);refine aM (cC λ _=>aC rf bI rf rfl cY rf dM) (λ _=>?_);refine pJ ?_;refine aL ?_;refine fO [0,1,2,3,4,5,6,7,8,9,10,11,12,13,14,15,16,17,18,19,20,21,22,23,24,25] ?_;refine hY ?_;refine qZ ?_;refine aP ?_)
  all_goals ((refine bQ ?_))
  all_goals (((refine bH ?_));((refine aP ?_));((refine Cb ?_));((refine Wu ?_));refine jJ ?_;refine aP ?_)
  all_goals ((refine bQ ?_))
  all_goals (((refine bH ?_));((refine qZ ?_));refine jJ ?_;refine aP ?_)
  all_goals ((refine bQ ?_))
  all_goals (((refine bH ?_));((refine aP ?_));refine J18 ?_;((refine aS (i:=21) (hq:=(cK (cs:=kI (Pf p0 c0 p1 c1)) rf rf dP eL (.old .head) (Nat.le_of_ble_eq_true rfl) (Nat.le_of_ble_eq_true rfl))) (h:=?_)));((refine aS (i:=22) (hq:=(cG (cs:=kI (Pf p0 c0 p1 c1)) rf eL (.old .head) rfl)) (h:=?_)));((refine Cb ?_));((refine Wu ?_));refine Kd7 ?_)
  all_goals
  refine aX (λ c40=>?_) (λ c40=>?_);·all_goals try (contradiction)
  ·all_goals try (first|contradiction|(exfalso;omega)|(exfalso;simp_all;done))
   all_goals (refine bG ?_;refine jN ?_;refine aA (dH (n:=8) (e:=3) rf rf (by kernel_rfl) (by kernel_rfl) (by decide)) rfl ?_;refine bO ?_;refine lX ?_;refine Ke5 ?_;refine aA (zx rf rf (by decide)) rfl ?_;refine iK ?_;refine aB ?_)
   all_goals ((refine aF ?_;refine aQ ?_))
   all_goals (refine um ?_;((refine aF ?_;refine aA (jo rf rf (by decide)) rfl ?_));((refine aF ?_;refine gM ?_));((refine aF ?_;refine z5 ?_));refine Kb1 ?_)
   all_goals
    refine aX (λ c57=>?_) (λ c57=>?_);·exact nv c57
    ·all_goals try (first|contradiction|(exfalso;omega)|(exfalso;simp_all;done))
     all_goals (refine lL ?_;refine jN ?_;refine Ti ?_)
     all_goals refine Ka5 ?_
     all_goals ((first|refine aZ ?_|(refine aF ?_;refine aA (cJ (k:=8) (vs:=Rs.zero.cells) rf bI cY rfl rfl) rfl ?_));(first|refine aZ ?_|(refine aF ?_;refine cI ?_));(first|refine aZ ?_|(refine aF ?_;refine aA (O3 (a:=Rs.zero) (b:=Rs.zero) rf rf (by kernel_rfl)) rfl ?_));refine Kb1 ?_)
     all_goals
     refine aX (λ c66=>?_) (λ c66=>?_);·exact nv c66
     ·all_goals try (first|contradiction|(exfalso;omega)|(exfalso;simp_all;done))
      all_goals (refine bG ?_;refine eC ?_;refine J3 ?_;refine aA (dH (n:=8) (e:=3) rf rf (by kernel_rfl) (by kernel_rfl) (by decide)) rfl ?_;refine bO ?_;refine tZ ?_;refine aA (dH (n:=8) (e:=3) rf rf (by kernel_rfl) (by kernel_rfl) (by decide)) rfl ?_;refine J5 ?_;refine Kb0 ?_)
      all_goals
       refine kJ (q) ?_ ?_ E0n ?_ (λ w hw=>by rw[hq];exact hw.back);·omega
       ·repeat' (first|exact bX _|refine bL ?_ ?_)
        all_goals ((rw[hq];exact rfl))
       ·show q<=6;omega
 ·try (first|contradiction|(exfalso;omega)|(exfalso;simp_all;done))
  refine K1z ?_;refine eD ?_;refine bJ results46 (λ w hw=>?_);exact⟨rfl,hw.done⟩
end
end
section
def inT:Nat->List (Nat×Nat)
 | 0=>[]
 | 1=>[(0,0)]
 | 2=>[(0,0),(1,0)]
 | 3=>[(0,0),(1,0)]
 | 4=>[(0,0),(1,0)]
 | _=>[(0,0),(1,0),(1,1)]
def meT:Nat->List MapEntry
 | 0=>[]
 | 1=>[⟨.agg ⟨jO (0,0)⟩,.bool true,0⟩]
 | 2=>[⟨.agg ⟨jO (0,0)⟩,.bool true,0⟩,⟨.agg ⟨jO (1,0)⟩,.bool true,1⟩]
 | 3=>[⟨.agg ⟨jO (0,0)⟩,.bool true,0⟩,⟨.agg ⟨jO (1,0)⟩,.bool true,1⟩]
 | 4=>[⟨.agg ⟨jO (0,0)⟩,.bool true,0⟩,⟨.agg ⟨jO (1,0)⟩,.bool true,1⟩]
 | _=>[⟨.agg ⟨jO (0,0)⟩,.bool true,0⟩,⟨.agg ⟨jO (1,0)⟩,.bool true,1⟩,⟨.agg ⟨jO (1,1)⟩,.bool true,2⟩]
section
variable{w:World}{p p0 p1 pl:Option Addr}{c c0 c1 cl:Nat}
theorem Yn(h:DAt w p p0 c0 p1 c1 pl):Calls prog 32 #[.slice p 2 c,.slice pl 6 cl] w λ en w'=>en=.returned (.int .i64 0)/\St w [] [] w':=by
 refine enter func32 ntmps32 rfl rfl h.start ?_;simp only[cN];refine Ka9 ?_;refine cP ?_;refine vI ?_;refine aE ?_;refine aX (λ c9=>?_) (λ c9=>?_);·exact nv c9
 ·try (first|contradiction|(exfalso;omega)|(exfalso;simp_all;done))
  refine lL ?_;refine J2 ?_;refine Ka8 ?_;refine kP [4,6,12,13,14,15,16,17,18,19] (λ z:Nat=>[(12,.int .i64 ((z:Nat):Int))]) (λ z=>z<=2) (λ z=>2-z) (0) (Nat.zero_le _) ?_ (λ z f hx=>?_);·repeat (first|exact bX _|refine bL (by exact rfl) ?_)
  refine K4a ?_;refine aX (λ c13=>?_) (λ c13=>?_)
  ·try (first|contradiction|(exfalso;omega)|(exfalso;simp_all;done))
   have hz2:z=0∨z=1:=by omega
   obtain⟨q,hq⟩:∃q,q=z+1:=⟨_,rfl⟩;rcases hz2 with rfl|rfl;all_goals (refine Ke1 ?_;refine aA (cK (cs:=kI (Pf p0 c0 p1 c1)) rf rf dP eL (.old .head) (Nat.le_of_ble_eq_true rfl) (Nat.le_of_ble_eq_true rfl)) rfl ?_;refine aA (cG (cs:=kI (Pf p0 c0 p1 c1)) rf eL (.old .head) rfl) rfl ?_;refine Kb7 ?_;refine cP ?_;refine vI ?_;refine aE ?_)
   all_goals
   refine aX (λ c18=>?_) (λ c18=>?_);·all_goals try (contradiction)
   ·all_goals try (first|contradiction|(exfalso;omega)|(exfalso;simp_all;done))
    all_goals (refine Kc1 ?_)
    all_goals
     refine hJ (q) ?_ ?_ ?_;·omega
     ·repeat' (first|exact bX _|refine bL ?_ ?_)
      all_goals ((rw[hq];exact rfl))
     ·show q<=2;omega
  ·try (first|contradiction|(exfalso;omega)|(exfalso;simp_all;done))
   refine K1z ?_;refine qJ ?_;refine aH (cV (hc:=λ w1 hw=>Th ⟨hw.cl (.old .head),hw.cl (.old (.tail .head)),hw.cl (.old (.tail (.tail .head))),hw.cl (.old (.tail (.tail (.tail .head))))⟩)) (λ x22=>?_);refine pU ?_;refine aX (λ c23=>?_) (λ c23=>?_);·exact nv c23
   ·try (first|contradiction|(exfalso;omega)|(exfalso;simp_all;done))
    refine bG ?_;refine eD ?_;refine bJ results32 (λ w hw=>?_);exact⟨rfl,hw.done⟩
set_option maxRecDepth 100000 in
theorem Qf(h:DAt w p p0 c0 p1 c1 pl):Calls prog 33 #[.slice pl 6 cl] w λ en w'=>∃x:Option Addr×Nat,en=.returned (.slice x.1 3 x.2)/\True/\St w [] [] w':=by
 refine enter func33 ntmps33 rfl rfl h.start ?_;simp only[cN];refine eD ?_;refine J0 ?_;refine aH (cC λ _=>mQ) (λ x8=>?_);refine J1 ?_;refine Ka9 ?_;refine Ka8 ?_;refine sF [4,6,7,11,12,13,14,15,16,17,18,19,20,21,22,23,24,25,26,27,28,29,30,31,32] (λ y:Nat×Option Addr×Nat=>[(11,.int .i64 ((y.1:Nat):Int)),(4,.slice y.2.1 (inT y.1).length y.2.2)]) (λ y=>y.1<=6) (λ y=>[(x8,cQ (meT y.1) (inT y.1).length)]) (λ y=>[]) (λ y=>[⟨y.2.1,eV jO (inT y.1),y.2.2,49,2⟩]) (λ y=>6-y.1) ((0,none,0)) (Nat.zero_le _) (λ y f hx=>?_) (hw0:=λ w hw=>(hw.gN 49 2));refine K0c ?_;obtain⟨z,yp,yc⟩:=y;replace hx:z<=6:=hx;dsimp only;refine Ka1 ?_;refine aX (λ c12=>?_) (λ c12=>?_)
 ·try (first|contradiction|(exfalso;omega)|(exfalso;simp_all;done))
  have hz6:z=0∨z=1∨z=2∨z=3∨z=4∨z=5:=by omega
  obtain⟨q,hq⟩:∃q,q=z+1:=⟨_,rfl⟩;rcases hz6 with rfl|rfl|rfl|rfl|rfl|rfl;all_goals dsimp only[meT,inT]
  all_goals (refine Ke1 ?_;refine aA (bP (f:=oR.cells) (l:=N9) iQ (by decide) rf rf dP cY (.old (.tail (.tail (.tail .head)))) (by decide) (by decide)) rfl ?_;refine aA (cZ (f:=oR.cells) (l:=N9) iQ rf cY (.old (.tail (.tail (.tail .head)))) rfl) rfl ?_;refine aJ (λ x6=>?_);refine aM (cC λ _=>aC rf bI rf rfl cY rf dM) (λ _=>?_);refine aE ?_;refine oT ?_;refine aH (cV (hc:=λ w1 hw=>aBA _ w1)) (λ x16=>?_);refine aH (cC λ _=>cW (z:=[.int .i64 0,.int .i64 0]) (by kernel_rfl)) (λ x7=>?_);refine aM (cC λ _=>aC rf bI rf rfl (by kernel_rfl) rf dM) (λ _=>?_);refine aE ?_;refine jN ?_;refine Ti ?_)
  all_goals refine Ka3 ?_
  all_goals ((first|refine aZ ?_|(refine aF ?_;refine aA (iE (bA rf bI (by kernel_rfl))) rfl ?_));(first|refine aZ ?_|(refine aF ?_;refine aA (iE (Qs (K:=49) (E:=4) (ze:=.bool false) (r:=none) rf rf bI (by kernel_rfl) (λ e w=>by kernel_rfl) (λ w=>by kernel_rfl) (by kernel_rfl))) rfl ?_));refine Ke4 ?_)
  all_goals
  refine aX (λ c25=>?_) (λ c25=>?_)
  ·try exact nv c25
   all_goals (refine J2 ?_;refine aA (iE (bA rf bI (by kernel_rfl))) rfl ?_;refine aM (cC λ _=>aAS (K:=49) (E:=4) rf rf rf bI (by kernel_rfl) (λ e w=>by kernel_rfl) (λ w=>by kernel_rfl) dM) (λ _=>?_);refine aE ?_;refine Cg ?_;refine aA (iE (bA rf bI (by kernel_rfl))) rfl ?_;refine aH E0o (λ x30=>?_);(refine aH (aW.cX (dG (sz:=2) rf rf .head rfl (.new .head) rfl rfl gZ rfl (by decide) dP (by decide)) jK) (λ x31=>?_);try (refine dQ (λ h31=>?_)));refine Kd8 ?_)
   all_goals
    refine kJ ((by exact(q,x31.1,x31.2))) ?_ ?_ E0n ?_ (λ w hw=>by rw[hq];exact hw.back (hF:=by exact bM.nil));·show 6-q<_;omega
    ·repeat' (first|exact bX _|refine bL ?_ ?_)
     all_goals ((rw[hq];exact rfl))
    ·show q<=6;omega
  ·try exact nv c25
   all_goals (refine Kc1 ?_)
   all_goals
    refine kJ ((by exact(q,yp,yc))) ?_ ?_ E0n ?_ (λ w hw=>by rw[hq];exact hw.back (hF:=by exact bM.nil));·show 6-q<_;omega
    ·repeat' (first|exact bX _|refine bL ?_ ?_)
     all_goals ((rw[hq];exact rfl))
    ·show q<=6;omega
 ·try (first|contradiction|(exfalso;omega)|(exfalso;simp_all;done))
  refine K1z ?_;refine Kd6 ?_;refine bJ results33 (λ w hw=>?_);have hz:z=6:=by omega
  subst hz;exact⟨(yp,yc),rfl,trivial,hw.done⟩
end
end
section
structure tC where
 inv:Int
 ret:Int
 r:Rs
def tC.cells(s:tC):List Value:=[.int .i64 s.inv,.int .i64 s.ret,.int .i64 s.r.err,.bool s.r.found,.int .u64 s.r.val,.string s.r.key,.int .i64 s.r.jG,.int .i64 s.r.ref,.int .i64 s.r.root,.bool s.r.ro]
theorem fJ(s:tC):s.cells.length=10:=rfl
abbrev pp(l:List tC):List Value:=eV tC.cells l
abbrev Yx:tC:=⟨-1,-1,Rs.zero⟩
def sp0:Nat->List tC
 | 0=>[Yx]
 | 1=>[⟨0,-1,Rs.zero⟩]
 | 2=>[⟨0,-1,Rs.zero⟩]
 | _=>[⟨0,2,gP false 0⟩]
def sp1:Nat->List tC
 | 0=>[Yx,Yx]
 | 1=>[Yx,Yx]
 | 2=>[⟨1,-1,Rs.zero⟩,Yx]
 | 3=>[⟨1,-1,Rs.zero⟩,Yx]
 | 4=>[⟨1,3,gP true 1⟩,Yx]
 | 5=>[⟨1,3,gP true 1⟩,⟨4,-1,Rs.zero⟩]
 | _=>[⟨1,3,gP true 1⟩,⟨4,5,eG true 2⟩]
structure Ou where
 b:Nat
 po:Option Addr
 co:Nat
 q0:Nat
 q1:Nat
abbrev Ou.out(x:Ou):List Value:=[.slice (some ⟨x.q0,0,none⟩) 1 1,.slice (some ⟨x.q1,0,none⟩) 2 2]
abbrev iR(p:Option Addr)(c:Nat)(x:Ou):Obj:=.cells ⟨[.slice p 2 c,.slice x.po 2 x.co]⟩ 128 (0,0)
abbrev Ou.fr(x:Ou):Fr:=[(x.po,x.out),(some ⟨x.q0,0,none⟩,pp (sp0 6)),(some ⟨x.q1,0,none⟩,pp (sp1 6))]
theorem P4:dU prog 129 131 (tC.cells ⟨0,0,Rs.zero⟩):=gR (z:=.agg ⟨tC.cells ⟨0,0,Rs.zero⟩⟩) (by kernel_rfl) (by kernel_rfl) rfl
theorem Ak:dU prog 126 129 [.slice none 0 0]:=gR (z:=.slice none 0 0) (by kernel_rfl) (by kernel_rfl) rfl
section
variable{w:World}{p p0 p1 pl:Option Addr}{c c0 c1 cl:Nat}
set_option maxRecDepth 100000 in
set_option maxHeartbeats 1000000 in
theorem Pp(h:DAt w p p0 c0 p1 c1 pl):Calls prog 34 #[.slice p 2 c,.slice pl 6 cl] w λ en w'=>∃x:Ou,en=.returned (pt x.b)/\True/\SF w [] [(x.b,iR p c x)] [] x.fr [] w':=by
 refine enter func34 ntmps34 rfl rfl h.start ?_;simp only[cN];refine Kd3 ?_;refine cI ?_;refine bC (λ x15=>?_);refine lX ?_;refine aL ?_;refine rE (λ w hw=>hw.gN 129 1) ?_;refine Cg ?_;refine Ka8 ?_;refine dC ?_;refine Ka1 ?_;refine aX (λ c19=>?_) (λ c19=>?_)
 ·try (first|contradiction|(exfalso;omega)|(exfalso;simp_all;done))
  refine K2i ?_;refine aH (pF (m:=1) (k:=1) rf rf P4 (by decide) (by decide) (cs:=pp [⟨0,0,Rs.zero⟩]) (by kernel_rfl)) (λ x24=>?_);generalize x24=xa;refine Kc7 ?_;refine Ka8 ?_;refine dC ?_;refine Ka1 ?_;refine aX (λ c28=>?_) (λ c28=>?_)
  ·try (first|contradiction|(exfalso;omega)|(exfalso;simp_all;done))
   refine Ka6 ?_;refine J1 ?_;refine Fw ?_;refine cI ?_;refine aA (bP (f:=tC.cells) (l:=[⟨0,0,Rs.zero⟩]) fJ (by decide) rf rf dP cY (.own .head) (by decide) (by decide)) rfl ?_;refine aM (aW.gJ (wR (f:=tC.cells) (l:=[⟨0,0,Rs.zero⟩]) (k:=0) (v1:=Yx) fJ rf rf rfl cY .head rfl (by decide)) jK) (λ _=>?_);refine aE ?_;refine K3z ?_;refine aX (λ c28=>?_) (λ c28=>?_);·exact nv c28
   ·try (first|contradiction|(exfalso;omega)|(exfalso;simp_all;done))
    refine K1z ?_;refine K3u ?_;intro x41;(refine aH (aW.cX (dG (sz:=1) (cs:=[]) (m:=0) rf rf (.tail .head) rfl (.new .head) rfl rfl Ak rfl (by decide) dP (by decide)) jK) (λ x42=>?_);try (refine dQ (λ h42=>?_)));refine E4 ?_;refine K3z ?_;refine aX (λ c19=>?_) (λ c19=>?_)
    ·try (first|contradiction|(exfalso;omega)|(exfalso;simp_all;done))
     refine K2i ?_;refine aH (pF (m:=2) (k:=2) rf rf P4 (by decide) (by decide) (cs:=pp [⟨0,0,Rs.zero⟩,⟨0,0,Rs.zero⟩]) (by kernel_rfl)) (λ x24=>?_);refine Kc7 ?_;refine Ka8 ?_;refine dC ?_;refine Ka1 ?_;refine aX (λ c28=>?_) (λ c28=>?_)
     ·try (first|contradiction|(exfalso;omega)|(exfalso;simp_all;done))
      refine Ka6 ?_;refine J1 ?_;refine Fw ?_;refine cI ?_;refine aA (bP (f:=tC.cells) (l:=[⟨0,0,Rs.zero⟩,⟨0,0,Rs.zero⟩]) fJ (by decide) rf rf dP cY (.own .head) (by decide) (by decide)) rfl ?_;refine aM (aW.gJ (wR (f:=tC.cells) (l:=[⟨0,0,Rs.zero⟩,⟨0,0,Rs.zero⟩]) (k:=0) (v1:=Yx) fJ rf rf rfl cY .head rfl (by decide)) jK) (λ _=>?_);refine aE ?_;refine K3z ?_;refine aX (λ c28=>?_) (λ c28=>?_)
      ·try (first|contradiction|(exfalso;omega)|(exfalso;simp_all;done))
       refine Ka6 ?_;refine J1 ?_;refine Fw ?_;refine cI ?_;refine aA (bP (f:=tC.cells) (l:=[Yx,⟨0,0,Rs.zero⟩]) fJ (by decide) rf rf dP cY (.own .head) (by decide) (by decide)) rfl ?_;refine aM (aW.gJ (wR (f:=tC.cells) (l:=[Yx,⟨0,0,Rs.zero⟩]) (k:=1) (v1:=Yx) fJ rf rf rfl cY .head rfl (by decide)) jK) (λ _=>?_);refine aE ?_;refine K3z ?_;refine aX (λ c28=>?_) (λ c28=>?_);·exact nv c28
       ·try (first|contradiction|(exfalso;omega)|(exfalso;simp_all;done))
        refine K1z ?_;refine K3u ?_;intro x41;(refine aH (aW.cX (dG (sz:=1) (m:=1) rf rf (.tail (.tail .head)) rfl (.new .head) rfl rfl Ak rfl (by decide) dP (by decide)) jK) (λ x42=>?_);try (refine dQ (λ h42=>?_)));refine E4 ?_;refine K3z ?_;refine aX (λ c19=>?_) (λ c19=>?_);·exact nv c19
        ·try (first|contradiction|(exfalso;omega)|(exfalso;simp_all;done))
         refine K1z ?_;refine gQ ?_;refine Ka8 ?_;refine sF [10,11,12,48,49,50,51,52,53,54,55,56,57,58,59,60,61,62,63,64,65,66,67,68,69,70,71,72,73,74,75,76,77,78,79] (λ z:Nat=>[(48,.int .i64 ((z:Nat):Int))]) (λ z=>z<=6) (λ z=>[(x15,.cells ⟨[.slice p 2 c,.slice x42.1 2 x42.2]⟩ 128 (0,0))]) (λ z=>[]) (λ z=>[⟨some ⟨x24,0,none⟩,pp (sp1 z),2,131,10⟩,⟨some ⟨xa,0,none⟩,pp (sp0 z),1,131,10⟩,⟨x42.1,[.slice (some ⟨xa,0,none⟩) 1 1,.slice (some ⟨x24,0,none⟩) 2 2],x42.2,129,1⟩]) (λ z=>6-z) (0) (Nat.zero_le _) (λ z f hx=>?_) (hw0:=λ w hw=>hw.back (hF:=bM.nil));refine K4a ?_;refine aX (λ c49=>?_) (λ c49=>?_)
         ·try (first|contradiction|(exfalso;omega)|(exfalso;simp_all;done))
          have hz6:z=0∨z=1∨z=2∨z=3∨z=4∨z=5:=by omega
          obtain⟨q,hq⟩:∃q,q=z+1:=⟨_,rfl⟩;rcases hz6 with rfl|rfl|rfl|rfl|rfl|rfl;all_goals dsimp only[sp0,sp1]
          all_goals (refine Ka6 ?_;refine aA (bP (f:=oR.cells) (l:=N9) iQ (by decide) rf rf dP cY (.old (.tail (.tail (.tail .head)))) (by decide) (by decide)) rfl ?_;refine aA (cZ (f:=oR.cells) (l:=N9) iQ rf cY (.old (.tail (.tail (.tail .head)))) rfl) rfl ?_;refine aJ (λ x11=>?_);refine cO (λ _=>?_);refine aM (cC λ _=>aC rf bI rf rfl cY rf dM) (λ _=>?_);refine pJ ?_;refine fO [0,1,2,3,4,5,6,7,8,9,10,11] ?_;refine mD ?_;refine hY ?_;refine aS (i:=6) (hq:=(cK rf rf dP eL (.own (.tail (.tail .head))) (Nat.le_of_ble_eq_true rfl) (Nat.le_of_ble_eq_true rfl))) (h:=?_);refine aS (i:=7) (hq:=(cG rf eL (.own (.tail (.tail .head))) rfl)) (h:=?_);refine hY ?_;refine aS (i:=10) (hq:=(by first|exact bP (f:=tC.cells) fJ (by decide) rf rf dP cY (.own .head) (by decide) (by decide)|exact bP (f:=tC.cells) fJ (by decide) rf rf dP cY (.own (.tail .head)) (by decide) (by decide))) (h:=?_);refine J7 ?_;refine jN ?_;refine aE ?_)
          all_goals
          refine aX (λ c65=>?_) (λ c65=>?_)
          ·try exact nv c65
           all_goals (refine eO [(0,[]),(1,[]),(2,[]),(3,[]),(4,[]),(5,[]),(6,[]),(7,[4]),(8,[]),(9,[]),(10,[])] ?_;refine yS ?_;refine aP ?_;refine bQ ?_;refine aS (i:=4) (hq:=(cJ (k:=8) rf bI cY rfl rfl)) (h:=?_);refine J4 ?_;refine eT (i:=7) (hq:=(by first|exact aW.gJ (kZ (q:=1) rf wn rfl eL .head (Nat.le_of_ble_eq_true rfl)) jK|exact aW.gJ (kZ (q:=11) rf wn rfl eL .head (Nat.le_of_ble_eq_true rfl)) jK|exact aW.gJ (kZ (q:=1) rf wn rfl eL (.tail .head) (Nat.le_of_ble_eq_true rfl)) jK)) (hfire:=(λ _=>by(refine aR.cons (by exact cR (hq:=cJ (k:=8) rf bI cY rfl rfl)) ?_;exact aR.nil))) (h:=λ _=>?_);refine J4 ?_;refine eT (i:=10) (hq:=(by first|exact aW.gJ (sM (q:=2) rf wn rfl cY .head (Nat.le_of_ble_eq_true rfl) (by decide)) jK|exact aW.gJ (sM (q:=12) rf wn rfl cY .head (Nat.le_of_ble_eq_true rfl) (by decide)) jK|exact aW.gJ (sM (q:=2) rf wn rfl cY (.tail .head) (Nat.le_of_ble_eq_true rfl) (by decide)) jK)) (h:=λ _=>?_);refine dA ?_;refine Kb0 ?_)
           all_goals
            refine kJ (q) ?_ ?_ E0n ?_ (λ w hw=>by rw[hq];exact hw.back (hF:=by exact bM.nil));·omega
            ·repeat' (first|exact bX _|refine bL ?_ ?_)
             all_goals ((rw[hq];exact rfl))
            ·show q<=6;omega
          ·try exact nv c65
           all_goals (refine Fw ?_;refine P3 ?_;refine aM (by first|exact aW.gJ (kZ (q:=0) rf wn rfl eL .head (Nat.le_of_ble_eq_true rfl)) jK|exact aW.gJ (kZ (q:=10) rf wn rfl eL .head (Nat.le_of_ble_eq_true rfl)) jK|exact aW.gJ (kZ (q:=0) rf wn rfl eL (.tail .head) (Nat.le_of_ble_eq_true rfl)) jK) (λ _=>?_);refine aE ?_;refine Kb0 ?_)
           all_goals
            refine kJ (q) ?_ ?_ E0n ?_ (λ w hw=>by rw[hq];exact hw.back (hF:=by exact bM.nil));·omega
            ·repeat' (first|exact bX _|refine bL ?_ ?_)
             all_goals ((rw[hq];exact rfl))
            ·show q<=6;omega
         ·try (first|contradiction|(exfalso;omega)|(exfalso;simp_all;done))
          refine K1z ?_;refine Kd6 ?_;refine bJ results34 (λ w hw=>?_);have hz:z=6:=by omega
          subst hz;exact⟨⟨x15,x42.1,x42.2,xa,x24⟩,rfl,trivial,(((hw.freeze .head).freeze .head).freeze .head).v6⟩
      ·exact nv c28
     ·exact nv c28
    ·exact nv c19
  ·exact nv c28
 ·exact nv c19
end
end
section
abbrev oZ(x:Ou)(p p0:Option Addr)(c0:Nat)(p1:Option Addr)(c1:Nat):Fr:=[(x.po,x.out),(some ⟨x.q0,0,none⟩,pp (sp0 6)),(some ⟨x.q1,0,none⟩,pp (sp1 6)),(p,kI (Pf p0 c0 p1 c1)),(p0,iB [⟨1,0,gD,1,0⟩]),(p1,iB [⟨1,0,gD,2,0⟩,⟨7,0,gD,0,0⟩])]
def Ck:Nat×Nat->tC
 | (0,_)=>⟨0,2,gP false 0⟩
 | (_,0)=>⟨1,3,gP true 1⟩
 | _=>⟨4,5,eG true 2⟩
def Cm:Nat×Nat->jX
 | (0,_)=>⟨1,0,gD,1,0⟩
 | (_,0)=>⟨1,0,gD,2,0⟩
 | _=>⟨7,0,gD,0,0⟩
def In3(a:Nat×Nat):Prop:=a=(0,0)∨a=(1,0)∨a=(1,1)
section
variable{w:World}{D:List Nat}{x:Ou}{p p0 p1:Option Addr}{c c0 c1:Nat}{a:Nat×Nat}
theorem eW(ha:In3 a)(hs:SF w D [(x.b,iR p c x)] (oZ x p p0 c0 p1 c1) [] [] w):Calls prog 50 #[pt x.b,.agg ⟨jO a⟩] w λ e w'=>e=.returned (.agg ⟨(Ck a).cells⟩)/\SF w D [(x.b,iR p c x)] [] [] [] w':=by
 rcases ha with rfl|rfl|rfl;all_goals
 refine enter func50 ntmps50 rfl rfl hs ?_;simp only[cN];all_goals (refine J0 ?_;refine bC (λ x3=>?_);refine aJ (λ x4=>?_);refine pJ ?_;refine fO [0,1,2,3,4,5,6,7,8,9,10,11,12] ?_;refine mD ?_;refine aS (i:=4) (hq:=(dH (n:=2) (k:=0) (e:=3) rf rf (by kernel_rfl) (by kernel_rfl) (by decide))) (h:=?_);refine bH ?_;refine aS (i:=6) (hq:=(cK (cs:=x.out) rf rf dP eL (.old .head) (Nat.le_of_ble_eq_true rfl) (Nat.le_of_ble_eq_true rfl))) (h:=?_);refine aS (i:=7) (hq:=(cG (cs:=x.out) rf eL (.old .head) rfl)) (h:=?_);refine aS (i:=8) (hq:=(dH (n:=2) (k:=1) (e:=3) rf rf (by kernel_rfl) (by kernel_rfl) (by decide))) (h:=?_);refine bH ?_;refine aS (i:=10) (hq:=(by first|exact bP (f:=tC.cells) fJ (by decide) rf rf dP cY (.old (.tail .head)) (Nat.le_of_ble_eq_true rfl) (Nat.le_of_ble_eq_true rfl)|exact bP (f:=tC.cells) fJ (by decide) rf rf dP cY (.old (.tail (.tail .head))) (Nat.le_of_ble_eq_true rfl) (Nat.le_of_ble_eq_true rfl))) (h:=?_);refine aS (i:=11) (hq:=(by first|exact cZ (f:=tC.cells) fJ rf cY (.old (.tail .head)) rfl|exact cZ (f:=tC.cells) (k:=0) fJ rf cY (.old (.tail (.tail .head))) rfl|exact cZ (f:=tC.cells) (k:=1) fJ rf cY (.old (.tail (.tail .head))) rfl)) (h:=?_);refine eT (i:=12) (hq:=(cC λ _=>aC rf bI rf rfl (by kernel_rfl) rf dM)) (h:=λ _=>?_);refine dA ?_)
 all_goals
 refine rA results50 (.cell rf bI (by kernel_rfl) .nil) (λ w hw=>?_);exact⟨rfl,hw.ret E0a (bM.dB λ f hf=>hf) (List.Sublist.refl _)⟩
theorem rK(ha:In3 a)(hs:SF w D [(x.b,iR p c x)] (oZ x p p0 c0 p1 c1) [] [] w):Calls prog 51 #[pt x.b,.agg ⟨jO a⟩] w λ e w'=>e=.returned (.agg ⟨(Cm a).cells⟩)/\SF w D [(x.b,iR p c x)] [] [] [] w':=by
 rcases ha with rfl|rfl|rfl;all_goals
 refine enter func51 ntmps51 rfl rfl hs ?_;simp only[cN];all_goals (refine J0 ?_;refine bC (λ x3=>?_);refine aJ (λ x4=>?_);refine pJ ?_;refine fO [0,1,2,3,4,5,6,7,8,9,10,11,12] ?_;refine mD ?_;refine aS (i:=4) (hq:=(dH (n:=2) (k:=0) (e:=3) rf rf (by kernel_rfl) (by kernel_rfl) (by decide))) (h:=?_);refine bH ?_;refine aS (i:=6) (hq:=(cK (cs:=kI (Pf p0 c0 p1 c1)) rf rf dP eL (.old (.tail (.tail (.tail .head)))) (Nat.le_of_ble_eq_true rfl) (Nat.le_of_ble_eq_true rfl))) (h:=?_);refine aS (i:=7) (hq:=(cG (cs:=kI (Pf p0 c0 p1 c1)) rf eL (.old (.tail (.tail (.tail .head)))) rfl)) (h:=?_);refine aS (i:=8) (hq:=(dH (n:=2) (k:=1) (e:=3) rf rf (by kernel_rfl) (by kernel_rfl) (by decide))) (h:=?_);refine bH ?_;refine aS (i:=10) (hq:=(by first|exact bP (f:=jX.cells) lD (by decide) rf rf dP cY (.old (.tail (.tail (.tail (.tail .head))))) (Nat.le_of_ble_eq_true rfl) (Nat.le_of_ble_eq_true rfl)|exact bP (f:=jX.cells) lD (by decide) rf rf dP cY (.old (.tail (.tail (.tail (.tail (.tail .head)))))) (Nat.le_of_ble_eq_true rfl) (Nat.le_of_ble_eq_true rfl))) (h:=?_);refine aS (i:=11) (hq:=(by first|exact cZ (f:=jX.cells) lD rf cY (.old (.tail (.tail (.tail (.tail .head))))) rfl|exact cZ (f:=jX.cells) (k:=0) lD rf cY (.old (.tail (.tail (.tail (.tail (.tail .head)))))) rfl|exact cZ (f:=jX.cells) (k:=1) lD rf cY (.old (.tail (.tail (.tail (.tail (.tail .head)))))) rfl)) (h:=?_);refine eT (i:=12) (hq:=(cC λ _=>aC rf bI rf rfl (by kernel_rfl) rf dM)) (h:=λ _=>?_);refine dA ?_)
 all_goals
 refine rA results51 (.cell rf bI (by kernel_rfl) .nil) (λ w hw=>?_);exact⟨rfl,hw.ret E0a (bM.dB λ f hf=>hf) (List.Sublist.refl _)⟩
theorem Dn(ha:In3 a)(hs:SF w D [(x.b,iR p c x)] (oZ x p p0 c0 p1 c1) [] [] w):Calls prog 52 #[pt x.b,.agg ⟨jO a⟩] w λ e w'=>e=.returned (.int .i64 0)/\SF w D [(x.b,iR p c x)] [] [] [] w':=by
 have hk:(Cm a).kind≠13/\(Cm a).handle=0:=by rcases ha with rfl|rfl|rfl<;>decide
 refine enter func52 ntmps52 rfl rfl hs ?_;simp only[cN];refine K3f ?_;intro x3;refine Kb7 ?_;refine K0w ?_;refine aI (cM (φ:=λ _=>True) (V:=λ _:Unit=>.agg ⟨(Cm a).cells⟩) (hs:=[(x.b,iR p c x)]) (os:=[]) (A0:=oZ x p p0 c0 p1 c1) (hs':=λ _=>[(x.b,iR p c x)]) (os':=λ _=>[]) (Fc:=λ _=>[]) (hc:=λ w1 hw=>(rK ha hw).mono λ _ _ ⟨e,h⟩=>⟨(),e,trivial,h⟩)) (λ x10 h10=>?_);refine aJ (λ x5=>?_);refine J5 ?_;refine Ga ?_;refine Kc0 ?_;refine aX (λ c13=>?_) (λ c13=>?_)
 ·try (first|contradiction|(exfalso;omega))
  refine jN ?_;refine J1 ?_;refine bJ results52 (λ w hw=>?_);exact⟨by rw[hk.2];rfl,hw.ret E0a (bM.dB λ f hf=>hf) (List.Sublist.refl _)⟩
 ·try ((exfalso;omega))
theorem mS(s:tC)(h:s.r.err≠5)(w:World):Calls prog 48 #[.agg ⟨s.cells⟩] w λ e w'=>e=.returned (.bool false)/\St w [] [] w':=by
 refine enter func48 ntmps48 rfl rfl (SF.s0 w) ?_;simp only[cN];simp only[tC.cells];refine J0 ?_;refine bC (λ x1=>?_);refine J1 ?_;refine jN ?_;refine iK ?_;refine aB ?_;(refine mN 6 (λ g6=>?_) (λ g6=>?_)<;>refine Ka5 ?_);all_goals (refine J6 ?_;refine Co ?_;refine J1 ?_)
 all_goals
 refine bJ results48 (λ w hw=>?_);exact⟨by first|rfl|(congr 1;simpa using h)|(simp[h,pE];done),hw.done⟩
end
end
section
section
variable{w:World}{D:List Nat}{x:Ou}{p p0 p1:Option Addr}{c c0 c1:Nat}{a:Nat×Nat}
set_option maxRecDepth 100000 in
theorem lz(hs:SF w D [(x.b,iR p c x)] (oZ x p p0 c0 p1 c1) [] [] w):Calls prog 35 #[pt x.b] w λ e w'=>e=.returned (.bool true)/\SF w D [(x.b,iR p c x)] [] [] [] w':=by
 refine enter func35 ntmps35 rfl rfl hs ?_;simp only[cN];refine Uh ?_;refine K1l ?_;refine aX (λ c13=>?_) (λ c13=>?_)
 ·try (first|contradiction|(exfalso;omega))
  refine K0q ?_;refine aX (λ c20=>?_) (λ c20=>?_)
  ·try (first|contradiction|(exfalso;omega))
   refine K2r ?_;refine aJ (λ x6=>?_);refine cO (λ _=>?_);refine K3j ?_;intro x25;refine K0y ?_;(refine aZ ?_);((refine aZ ?_));refine Ke4 ?_;refine aX (λ c33=>?_) (λ c33=>?_);·exact nv c33
   ·try (first|contradiction|(exfalso;omega))
    refine Kc1 ?_;refine K0x ?_;refine aX (λ c20=>?_) (λ c20=>?_);·exact nv c20
    ·try (first|contradiction|(exfalso;omega))
     refine bg ?_;refine Ka4 ?_;refine K0x ?_;refine aX (λ c13=>?_) (λ c13=>?_)
     ·try (first|contradiction|(exfalso;omega))
      refine K0q ?_;refine aX (λ c20=>?_) (λ c20=>?_)
      ·try (first|contradiction|(exfalso;omega))
       refine K0z ?_;refine aA (cZ (f:=tC.cells) (k:=0) fJ rf cY (.old (.tail (.tail .head))) rfl) rfl ?_;refine aJ (λ x6=>?_);refine cO (λ _=>?_);refine K3j ?_;intro x25;refine K0y ?_;(refine aZ ?_);((refine aZ ?_));refine Ke4 ?_;refine aX (λ c33=>?_) (λ c33=>?_);·exact nv c33
       ·try (first|contradiction|(exfalso;omega))
        refine Kc1 ?_;refine K0x ?_;refine aX (λ c20=>?_) (λ c20=>?_)
        ·try (first|contradiction|(exfalso;omega))
         refine K0z ?_;refine aA (cZ (f:=tC.cells) (k:=1) fJ rf cY (.old (.tail (.tail .head))) rfl) rfl ?_;refine aJ (λ x6=>?_);refine cO (λ _=>?_);refine K3j ?_;intro x25;refine K0y ?_;(refine aZ ?_);((refine aZ ?_));refine Ke4 ?_;refine aX (λ c33=>?_) (λ c33=>?_);·exact nv c33
         ·try (first|contradiction|(exfalso;omega))
          refine Kc1 ?_;refine K0x ?_;refine aX (λ c20=>?_) (λ c20=>?_);·exact nv c20
          ·try (first|contradiction|(exfalso;omega))
           refine bg ?_;refine Ka4 ?_;refine K0x ?_;refine aX (λ c13=>?_) (λ c13=>?_);·exact nv c13
           ·try (first|contradiction|(exfalso;omega))
            refine K1z ?_;refine eD ?_;refine bJ results35 (λ w hw=>?_);exact⟨rfl,hw.ret E0a (bM.dB λ f hf=>hf) (List.Sublist.refl _)⟩
        ·exact nv c20
      ·exact nv c20
     ·exact nv c13
  ·exact nv c20
 ·exact nv c13
end
end
end Go.Proofs.YtdeecdfockjoiaaGreatDoor

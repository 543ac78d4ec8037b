/- find: hash values of keys, the codes at the end. -/
import Derived.Test.YtnilhhnfjfdokaaGreatDoorGGc4
import Derived.Test.YtnilhhnfjfdokaaGreatDoorGShort
import Derived.Test.YtnilhhnfjfdokaaGreatDoorGPa2

set_option linter.unusedSimpArgs false
set_option linter.unusedVariables false
namespace Go.Proofs.YtnilhhnfjfdokaaGreatDoor
section
open Go Go.RowKit Go.Ct
theorem rH(key:ByteArray){m:Nat}(hm:m<18446744073709551616)(hk:key.size<=4611686018427387903)(w:World):Calls Tryz.prog 97 #[.string key,.int .u64 (m:Int)] w λ e w'=>e=.returned (.int .u64 ((lU key m:Nat):Int))/\St w [] [] w':=by
 refine enter Tryz.func97 Tryz.ntmps97 rfl rfl (SF.s0 w) ?_
 simp only[cP]
 refine dW ?_;refine Kb1 ?_;refine oG ?_;refine Ka7 ?_
 refine jY [5,6,9,10,11,12,13,14,15,16,17,18,19,20] (λ y:Nat=>[(9,.int .i64 ((y:Nat):Int)),(5,.int .u64 ((o7 key y:Nat):Int))]) (λ y=>y<=key.size) (λ y=>key.size-y) (0) (Nat.zero_le _) ?_ (λ y f hx=>?_)
 ·repeat (first|exact bQ _|refine bG (by exact rfl) ?_)
 dsimp only[lP,List.map,List.cons_append,List.nil_append]
 refine Ka1 ?_
 refine aU (λ c10=>?_) (λ c10=>?_)
 ·refine Ka6 ?_;refine Ni ?_;refine aB ?_;refine aF (iJ (j5 (s:=key) (i:=y) rf rf (by kernel_rfl) (by omega))) (λ x15=>?_);refine aA (Ft (k2:=.u8) rf (by kernel_rfl) (by exact nQ rfl) ⟨pR _,by have:=Tn key y;omega⟩) rfl ?_;refine aA (du rf rf (L1 _ _) (by have:=Tn key y;omega)) rfl ?_;refine J1 ?_;refine Gt ?_;refine aA (ft rf rf) rfl ?_;refine Kd7 ?_
  refine gT (y+1) ?_ ?_ ?_
  ·omega
  ·repeat' (first|exact bQ _|refine bG ?_ ?_)
   all_goals (exact rfl)
  ·omega
 ·refine aX rfl ?_;refine mL ?_;refine aA (U2 rf rf (L1 _ _) hm) rfl ?_;refine J1 ?_
  refine bE Tryz.results97 (λ w hw=>?_)
  have hy:y=key.size:=by omega
  subst hy
  exact⟨rfl,hw.done⟩
theorem rP(key:ByteArray)(w:World):Calls Tryz.prog 73 #[.string key] w λ e w'=>e=.returned (.bool (decide (key.size<=64)))/\St w [] [] w':=by
 refine enter Tryz.func73 Tryz.ntmps73 rfl rfl (SF.s0 w) ?_
 simp only[cP]
 refine Kd1 ?_;refine oG ?_;refine vI ?_;refine J1 ?_
 refine bE Tryz.results73 (λ w hw=>?_)
 exact⟨by rw[show decide (key.size<=64)=decide ((key.size:Int)<=64) from decide_eq_decide.2 (by omega)];rfl,hw.done⟩
theorem A6{h:Nat}(hh:h<18446744073709551616)(level:Int)(w:World):Calls Tryz.prog 147 #[.int .u64 (h:Int),.int .i64 level] w λ e w'=>e=.returned (.int .i64 (iF h level))/\St w [] [] w':=by
 by_cases hl:level<0∨10<level
 ·unfold iF
  rw[if_pos hl]
  refine enter Tryz.func147 Tryz.ntmps147 rfl rfl (SF.s0 w) ?_
  simp only[cP]
  refine Kb1 ?_;refine Kb ?_
  (refine lN 7 (λ g7=>?_) (λ g7=>?_)<;>refine Ka5 ?_)
  all_goals ((first|refine aT ?_|(refine aE ?_;refine fS ?_));refine Kb0 ?_)
  all_goals
  refine aU (λ c10=>?_) (λ c10=>?_)
  ·all_goals try (exfalso;omega)
   all_goals refine dW ?_
   all_goals
    refine bE Tryz.results147 (λ w hw=>?_)
    exact⟨rfl,hw.done⟩
  ·try exact nv c10
   all_goals try (exfalso;omega)
 ·obtain⟨l,rfl⟩:∃l:Nat,level=(l:Int):=⟨level.toNat,by omega⟩
  unfold iF
  rw[if_neg hl]
  exact Qf (l:=l) hh (by omega) w
theorem Am(v:Int)(w:World):Calls Tryz.prog 151 #[.int .u64 v] w λ e w'=>e=.returned (.agg ⟨(fP (dG true v)).cells⟩)/\St w [] [] w':=by
 refine enter Tryz.func151 Tryz.ntmps151 rfl rfl (SF.s0 w) ?_
 simp only[cP]
 refine J0 ?_;refine aI (λ x2=>?_);refine Kb8 ?_;refine cK ?_;refine aF (cV (hc:=λ w1 hw=>rX (dG true v) w1)) (λ x5=>?_);refine aL (cE λ _=>aC rf bD rf (bA _) cY rf dI) (λ _=>?_);refine aD ?_
 refine bV Tryz.results151 (λ w hw=>?_)
 exact⟨rfl,hw.done⟩
theorem rV(w:World):Calls Tryz.prog 148 #[] w λ e w'=>e=.returned (.agg ⟨(fP (dG false 0)).cells⟩)/\St w [] [] w':=by
 refine enter Tryz.func148 Tryz.ntmps148 rfl rfl (SF.s0 w) ?_
 simp only[cP]
 refine J0 ?_;refine aI (λ x0=>?_);refine Kb4 ?_;refine cK ?_;refine aF (cV (hc:=λ w1 hw=>rX (dG false 0) w1)) (λ x2=>?_);refine aL (cE λ _=>aC rf bD rf (bA _) cY rf dI) (λ _=>?_);refine aD ?_
 refine bV Tryz.results148 (λ w hw=>?_)
 exact⟨rfl,hw.done⟩
abbrev Cx(b:Nat)(t:nS)(key:ByteArray)(h:Nat):List Value:=[.iface 61 (.pointer (some ⟨b,0,none⟩)),.int .i64 t.root,.bool t.ro,.string key,.int .u64 (h:Int)]
theorem Nb{v:eY}{b bf h:Nat}{t:nS}{key:ByteArray}{w:World}(hf:Go.Ct.Cl w (some ⟨bf,0,none⟩) (Cx b t key h)):Calls Tryz.prog 149 #[pt bf,.agg ⟨v.nd.cells⟩] w λ e w'=>e=.returned (.agg ⟨(fP (if v.c.key=key then dG true v.c.val else dG false 0)).cells⟩)/\St w [] [] w':=by
 refine enter Tryz.func149 Tryz.ntmps149 rfl rfl (SF.s1 hf) ?_
 simp only[cP]
 refine J0 ?_;refine bF (λ x3=>?_);refine aI (λ x4=>?_);refine pT ?_;refine aJ ?_;refine iM [0,1,2,3,4,5,6] ?_;refine gY ?_;refine J9 ?_;refine aS (i:=5) (hq:=(iG (B:=[bx bf (Cx b t key h)]) bf (Cx b t key h) 3 (λ x hx=>hx) rfl)) (h:=?_);refine mh ?_;refine dC ?_
 refine aU (λ c11=>?_) (λ c11=>?_)
 ·refine jA ?_;refine aF (cV (hc:=λ w1 hw=>Am _ w1)) (λ x14=>?_);refine aL (cE λ _=>aC rf bD rf (bA _) cY rf dI) (λ _=>?_);refine aD ?_
  refine bV Tryz.results149 (λ w hw=>?_)
  exact⟨by rw[if_pos (show v.c.key=key from(by simpa using c11:v.nd.key=key))];rfl,hw.done⟩
 ·refine Kc1 ?_;refine aF (cV (hc:=λ w1 hw=>rV w1)) (λ x15=>?_);refine aL (cE λ _=>aC rf bD rf (bA _) cY rf dI) (λ _=>?_);refine aD ?_
  refine bV Tryz.results149 (λ w hw=>?_)
  exact⟨by rw[if_neg (show ¬v.c.key=key from(by simpa using c11:¬v.nd.key=key))];rfl,hw.done⟩
section
variable{w:World}{v:eY}{n c:Nat}
theorem Tv(h:uJ n c v.c)(i:Int)(hr:Fv w v.nd v.xs v.ys):Calls Tryz.prog 146 #[v.nd.v,.int .i64 i] w λ e w'=>e=.returned (.tuple #[.int .i64 ((qI v.c i).getD 0),.bool (qI v.c i).isSome])/\St w [] [] w':=by
 obtain⟨b,h1,h2⟩:=h.bm
 have h3:v.nd.bm=(b:Int):=h1
 have:=U0 (n:=v.nd) i h3 h2 hr
 rw[mb h3 i] at this
 exact this
end
section
variable{l:List Pr}{a:Option Addr}{c:Nat}{k:ByteArray}{v:Int}{w:World}
theorem L6(ha:Go.Ct.Cl w a (gK l))(hs:SA l)(hlen:l.length<=11728124029610) :
  Calls Tryz.prog 226 #[.slice a l.length c,.string k,.func (.func 227) #[] #[]] w λ e w'=>∃i:Nat,e=.returned (.tuple #[.int .i64 (i:Int),.bool (decide (i<l.length/\(l.getD i (⟨#[]⟩,0)).1=k))])/\vY l k i/\St w [] [] w':=by
 refine enter Tryz.func226 Tryz.ntmps226 rfl rfl (SF.s1 ha) ?_
 simp only[cP]
 refine Wb ?_;refine J2 ?_;refine cO ?_;refine Kb7 ?_;refine J8 ?_;refine H3 ?_
 refine jY [9,10,11,15,16,17,18,19,20,21,22,23,24,25,26,27,28,29,30,31,32,33,34] (λ x:Nat×Nat=>[(9,.int .i64 ((x.1:Nat):Int)),(10,.int .i64 ((x.2:Nat):Int))]) (λ x=>x.1<=x.2/\x.2<=l.length/\(∀j,j<x.1->eK (l.getD j (⟨#[]⟩,0)).1 k=true)/\(∀j,x.2<=j->j<l.length->eK (l.getD j (⟨#[]⟩,0)).1 k=false)) (λ x=>x.2-x.1) ((0,l.length)) (⟨Nat.zero_le _,Nat.le_refl _,λ j hj=>absurd hj (Nat.not_lt_zero j),λ j h1 h2=>by omega⟩) ?_ (λ x f hx=>?_)
 ·repeat (first|exact bQ _|refine bG (by exact rfl) ?_)
 dsimp only[lP,List.map,List.cons_append,List.nil_append]
 refine pF ?_;refine fF ?_
 refine aU (λ c17=>?_) (λ c17=>?_)
 ·refine bB ?_;refine aV ?_;refine mL ?_;refine oA ?_;refine fC ?_;refine aA (fk (n:=x.1+x.2) rf rf (by omega)) rfl ?_;refine fC ?_;refine Ni ?_;refine aB ?_;refine nf ?_;refine aB ?_;(refine aF (by(exact ra (v:=.int .i64 (vM (l.getD ((x.1+x.2)/2) (⟨#[]⟩,0)).1 k)) rf (by(repeat (first|exact cD _|(apply bK;focus ((conv=>{lhs;whnf});try exact rfl))));done) (by kernel_rfl) (λ w1 hw=>Si _ k w1))) (λ x30=>?_));refine fF ?_
  refine aU (λ c31=>?_) (λ c31=>?_)
  ·refine ik ?_;refine dZ ?_
   refine gT ((by exact qu (p:=vM _ _<0) c31 ((x.1+x.2)/2+1,x.2))) ?_ ?_ ?_
   ·(simp only[];omega)
   ·repeat' (first|exact bQ _|refine bG ?_ ?_)
    all_goals (exact rfl)
   ·obtain⟨q1,q2,q3,q4⟩:=hx
    first
    | exact⟨by show(x.1+x.2)/2+1<=x.2;omega,q2,dt hs (by omega) (Gc.1 c31),q4⟩
    | exact⟨by show x.1<=(x.1+x.2)/2;omega,by show(x.1+x.2)/2<=l.length;omega,q3,dp hs (Ml.1 c31)⟩
  ·refine Gt ?_;refine J1 ?_;refine dZ ?_
   refine gT ((by exact(x.1,(x.1+x.2)/2))) ?_ ?_ ?_
   ·omega
   ·repeat' (first|exact bQ _|refine bG ?_ ?_)
    all_goals (exact rfl)
   ·obtain⟨q1,q2,q3,q4⟩:=hx
    first
    | exact⟨by show(x.1+x.2)/2+1<=x.2;omega,q2,dt hs (by omega) (Gc.1 c31),q4⟩
    | exact⟨by show x.1<=(x.1+x.2)/2;omega,by show(x.1+x.2)/2<=l.length;omega,q3,dp hs (Ml.1 c31)⟩
 ·refine aX rfl ?_;refine mL ?_;refine aB ?_;refine Kb ?_
  (refine lN 39 (λ g39=>?_) (λ g39=>?_)<;>refine Ka5 ?_)
  all_goals (refine Ka5 ?_;refine Ka5 ?_;(first|refine aT ?_|(refine aE ?_;refine lK ?_));refine ix ?_;((first|refine aT ?_|(refine aE ?_;(refine aF (by(exact ra (v:=.int .i64 (vM (l.getD x.1 (⟨#[]⟩,0)).1 k)) rf (by(repeat (first|exact cD _|(apply bK;focus ((conv=>{lhs;whnf});try exact rfl))));done) (by kernel_rfl) (λ w1 hw=>Si _ k w1))) (λ x46=>?_)))));refine zM ?_;refine J8 ?_)
  all_goals
  refine bV Tryz.results226 (λ w hw=>?_)
  obtain⟨q1,q2,q3,q4⟩:=hx
  refine⟨x.1,?_,⟨by omega,q3,λ j h1 h2=>q4 j (by omega) h2⟩,hw.done⟩
  first
  | (rw[show(vM (l.getD x.1 (⟨#[]⟩,0)).1 k==0)=decide (x.1<l.length/\(l.getD x.1 (⟨#[]⟩,0)).1=k) by rw[Bool.eq_iff_iff];simp only[beq_iff_eq,decide_eq_true_eq,Zp];exact⟨λ h=>⟨by omega,h⟩,λ h=>h.2⟩];rfl)
  | (rw[show decide (x.1<l.length/\(l.getD x.1 (⟨#[]⟩,0)).1=k)=false from decide_eq_false (by omega)];rfl)
theorem Um(ha:Go.Ct.Cl w a (gK l))(hs:SA l)(hlen:l.length<=11728124029610) :
  Calls Tryz.prog 185 #[.slice a l.length c,.string k] w λ e w'=>∃i:Nat,e=.returned (.tuple #[.int .i64 (i:Int),.bool (decide (i<l.length/\(l.getD i (⟨#[]⟩,0)).1=k))])/\vY l k i/\St w [] [] w':=by
 refine enter Tryz.func185 Tryz.ntmps185 rfl rfl (SF.s1 ha) ?_
 simp only[cP]
 refine Wb ?_;refine mL ?_;refine aH (c0 (V:=λ i:Nat=>.tuple #[.int .i64 (i:Int),.bool (decide (i<l.length/\(l.getD i (⟨#[]⟩,0)).1=k))]) (hc:=λ w1 hw=>L6 (hw.cl fin) hs (by omega))) (λ x8 h8=>?_);refine aA (Gx rf rfl) rfl ?_;refine aA (Gx rf rfl) rfl ?_;refine J8 ?_
 refine bV Tryz.results185 (λ w hw=>?_)
 exact⟨x8,rfl,h8,hw.done⟩
theorem Pq(k:ByteArray)(ha:Go.Ct.Cl w a (gK l))(hlen:l.length<=11728124029610) :
  Calls Tryz.prog 150 #[.slice a l.length c,.string k] w λ e w'=>e=.returned (.tuple #[.int .u64 ((iO l k).getD 0),.bool (iO l k).isSome])/\St w [] [] w':=by
 refine enter Tryz.func150 Tryz.ntmps150 rfl rfl (SF.s1 ha) ?_
 simp only[cP]
 refine Wb ?_;refine gS ?_;refine aH (c0 (V:=.bool) (hc:=λ w1 hw=>Eh (hw.cl fin) (by omega))) (λ x9 h9=>?_);refine wO ?_
 refine aU (λ c10=>?_) (λ c10=>?_)
 ·refine Wb ?_
  refine bV Tryz.results150 (λ w hw=>?_)
  rw[show iO l k=none from if_neg λ hs=>by rw[h9.2 (Vx.2 hs)] at c10;cases c10];exact⟨rfl,hw.done⟩
 ·have hs:SA l:=Vx.1 (h9.1 (by simpa using c10))
  refine C5 ?_;refine aH (c0 (V:=λ i:Nat=>.tuple #[.int .i64 (i:Int),.bool (decide (i<l.length/\(l.getD i (⟨#[]⟩,0)).1=k))]) (hc:=λ w1 hw=>Um (hw.cl fin) hs hlen)) (λ x14 h14=>?_);refine aB ?_;refine aA (Gx rf rfl) rfl ?_;refine aA (Gx rf rfl) rfl ?_;refine J8 ?_;refine gS ?_;refine wO ?_
  refine aU (λ c18=>?_) (λ c18=>?_)
  ·refine Wb ?_
   refine bV Tryz.results150 (λ w hw=>?_)
   have hnf:¬(x14<l.length/\(l.getD x14 (⟨#[]⟩,0)).1=k):=by simpa using c18
   rw[show iO l k=none from(if_pos hs).trans (Tw (Dg hs h14 hnf))];exact⟨rfl,hw.done⟩
  ·have hfd:x14<l.length/\(l.getD x14 (⟨#[]⟩,0)).1=k:=by simpa using c18
   have hx14:=hfd.1
   refine C5 ?_;refine lK ?_;refine J3 ?_;refine J8 ?_
   refine bV Tryz.results150 (λ w hw=>?_)
   rw[show iO l k=some (l.getD x14 (⟨#[]⟩,0)).2 from(if_pos hs).trans (Eg h14 hfd.1 hfd.2)];exact⟨rfl,hw.done⟩
end
theorem O9{v:eY}{p:Option Addr}{c:Nat}{key:ByteArray}{w:World}(hf:v.Fit)(ha:Go.Ct.Cl w p (gK v.ys)):Calls Tryz.prog 150 #[.slice p v.nd.prN c,.string key] w λ e w'=>e=.returned (.tuple #[.int .u64 ((iO v.ys key).getD 0),.bool (iO v.ys key).isSome])/\St w [] [] w':=by
 rw[hf.prN]
 exact Pq key ha hf.prS
end

/- root: decide. -/
end Go.Proofs.YtnilhhnfjfdokaaGreatDoor
namespace Go.Ct
section
open Go Go.RowKit
theorem aQ.pre{P:Program}{S:List (Nat×Value)}{G G2:World->Prop}{o:Oper}{X:Type}{V:X->Value}{G':X->World->Prop}(h:∀w,G w->G2 w)(hl:aQ P S G2 o X V G'):aQ P S G o X V G':=⟨λ w hw=>hl.run w (h w hw)⟩
end
end Go.Ct
namespace Go.Proofs.YtnilhhnfjfdokaaGreatDoor
section
open Go Go.RowKit Go.Ct
section
variable{D:List Nat}{A B:Fr}{a:AS}{b:Nat}{w:World}{f:FuncId}{cap:wN}{t:nS}
theorem Nx{Kt:Tr}{s:Mm}{b5:Nat}(hK:Pb b Kt s f cap B)(hns:Ns Kt s)(o:Bool):kL b 180 [pt b5] [.bool o] (bx b5 [fn f cap]::B) s (Kt):=by
 intro a D A w em ok hm0 hA hB hw0
 subst em
 have hm:a.mm.Small:=hm0.small
 have hK2:=hK.more (B2:=(bx b5 [fn f cap]::B)) (λ x hx=>by simp[hx])
 refine enter Tryz.func180 Tryz.ntmps180 rfl rfl hw0 ?_
 simp only[cP]
 refine J0 ?_;refine aI (λ x3=>?_);refine Kb4 ?_;refine aA (iG b5 [fn f cap] 0 hB rfl) rfl ?_;refine aH (Fs hK2.1 (hK2.2 a.mm (Mm.Le.refl _) hns) ok hm0 hA hB) (λ x5 h5=>?_);refine aL (cE λ _=>aC rf bD rf (bA _) cY rf dI) (λ _=>?_);refine aD ?_
 refine bV Tryz.results180 (λ w hw=>?_)
 exact⟨x5,rfl,h5,hw.rN⟩
theorem Yr{Kt:Tr}{v r:Int}{s:Mm}{b4 b5:Nat}{nd:Nd}(hK:Pb b Kt s f cap B)(hv:v<=s.nodes.length)(he:(bU s.nodes v).exp=nd.exp)(hst:(bU s.nodes v).status=nd.status)(hd:nd.status<=9223372036854775807):kL b 179 [pt b4,pt b5] [.int .i64 r] (bx b4 (nd.cells:List Value)::bx b5 [fn f cap]::B) s (.node v λ n2=>.node v λ n3=>.oI n3.status 0 (if r=n2.exp then 1 else 2) λ _=>Kt):=by
 intro a D A w em ok hm0 hA hB hw0
 subst em
 have hm:a.mm.Small:=hm0.small
 refine enter Tryz.func179 Tryz.ntmps179 rfl rfl hw0 ?_
 simp only[cP]
 refine J0 ?_;refine aI (λ x4=>?_);refine aD ?_;refine Kb1 ?_;refine aK ?_;refine aA (iG b4 (nd.cells:List Value) 11 hB rfl) rfl ?_;refine D0 ?_
 refine aU (λ c9=>?_) (λ c9=>?_)
 ·refine dD ?_;refine J1 ?_;refine J0 ?_;refine aK ?_;refine aA (iG b4 (nd.cells:List Value) 13 hB rfl) rfl ?_;refine aB ?_;(refine aA bN rfl ?_);refine aF (cV (hc:=λ w1 hw=>oZ _ _ _ _ _ w1)) (λ x14=>?_);refine aL (cE λ _=>aC rf bD rf (bA _) cY rf dI) (λ _=>?_);refine aD ?_
  refine bV Tryz.results179 (λ w hw=>?_)
  refine⟨(pG nd.status 0 1 _ _,[],a),rfl,⟨⟨hv,hv,?_⟩,ok,AS.fG.refl a⟩,hw.rI⟩
  dsimp only
  rw[he,hst,if_pos (by omega)]
  exact⟨rfl,hd,by have:=ok.mo.two;omega,_,_,rfl,by kernel_rfl,λ o s1 l hns=>(Nx (b5:=b5) (hK.le l) hns o).mr (λ y hy=>List.mem_cons_of_mem _ hy)⟩
 ·refine Kc1 ?_;refine aK ?_;refine aA (iG b4 (nd.cells:List Value) 13 hB rfl) rfl ?_;refine aB ?_;(refine aA bN rfl ?_);refine aF (cV (hc:=λ w1 hw=>oZ _ _ _ _ _ w1)) (λ x14=>?_);refine aL (cE λ _=>aC rf bD rf (bA _) cY rf dI) (λ _=>?_);refine aD ?_
  refine bV Tryz.results179 (λ w hw=>?_)
  refine⟨(pG nd.status 0 2 _ _,[],a),rfl,⟨⟨hv,hv,?_⟩,ok,AS.fG.refl a⟩,hw.rI⟩
  dsimp only
  rw[he,hst,if_neg (by omega)]
  exact⟨rfl,hd,by have:=ok.mo.two;omega,_,_,rfl,by kernel_rfl,λ o s1 l hns=>(Nx (b5:=b5) (hK.le l) hns o).mr (λ y hy=>List.mem_cons_of_mem _ hy)⟩
theorem Q2{Kt:Tr}{v:Int}{nd:Nd}(ht:t.root<=9223372036854775807)(hK:Pb b Kt a.mm f cap B)(hv:v<=a.mm.nodes.length)(ho:(bU a.mm.nodes v).old=nd.old)(he:(bU a.mm.nodes v).exp=nd.exp)(hst:(bU a.mm.nodes v).status=nd.status)(ok:a.Ok)(hm:a.mm.Small)(hA:∀f∈dV a.L,f∈A)(hB:∀x∈B,x∈A)(hs:SF w D [(b,eN a),(a.u,a.po)] A [] (fD a) w) :
  Calls Tryz.prog 142 #[.agg ⟨iS b t⟩,nd.v,fn f cap] w (mS b (λ c' s' B'=>fN b (Ad t v Kt) a.mm c' s' B') a B D w):=by
 have hol:nd.old<=a.mm.nodes.length:=by rw[<- ho];exact(ok.mo.at v).old
 have hd:nd.status<=9223372036854775807:=by rw[<- hst];exact kI hm (ok.mo.at v).status
 have hT:∀x4 x5:Nat,sP b (λ r=>.node v λ n2=>.node v λ n3=>.oI n3.status 0 (if r=n2.exp then 1 else 2) λ _=>Kt) a.mm 179 ⟨[],[.pointer (some ⟨x4,0,none⟩),.pointer (some ⟨x5,0,none⟩)]⟩ (bx x5 [fn f cap]::bx x4 (nd.cells:List Value)::B):=λ x4 x5=>⟨by kernel_rfl,λ r s1 l hr _=>(Yr (b4:=x4) (b5:=x5) (nd:=nd) (hK.le l) (by have hl:a.mm.nodes.length<=s1.nodes.length:=l.len;omega) (by rw[l.nd hv];exact he) (by rw[l.nd hv];exact hst) hd).mr (λ y hy=>by
  simp only[List.mem_cons] at hy ⊢
  rcases hy with h|h|h<;>simp[h])⟩
 refine enter Tryz.func142 Tryz.ntmps142 rfl rfl hs ?_
 simp only[cP]
 simp only[Nd.v,Nd.cells]
 refine J0 ?_;refine bF (λ x3=>?_);refine bF (λ x4=>?_);refine bF (λ x5=>?_);refine aI (λ x6=>?_);refine aD ?_;refine pV ?_;refine J3 ?_;(refine aA bN rfl ?_);(refine aF (aQ.pre (λ w h=>(show SF _ _ [_,_,(b,eN a),(a.u,a.po)] _ [(bx x5 [fn f cap]:Option Addr×List Value),bx x4 (nd.cells:List Value)] _ w from(h.cC (.tail (.tail .head))).cC (.tail .head))) (cM (V:=λ y:Cd×Fr×AS=>.agg ⟨y.1.cells⟩) (hs:=[(b,eN a),(a.u,a.po)]) (os:=fD a) (hs':=λ y=>[(b,eN y.2.2),(y.2.2.u,y.2.2.po)]) (os':=λ y=>fD y.2.2) (Fc:=λ y=>y.2.1) (A0:=bx x5 [fn f cap]::bx x4 (nd.cells:List Value)::A) (hA:=cA.V4) (hc:=λ w1 hw=>Gs ht (hT x4 x5) hol ok hm (λ f hf=>List.mem_cons_of_mem _ (List.mem_cons_of_mem _ (hA f hf))) (By hB) hw))) (λ x11=>?_);try (refine eH (λ h11=>?_)));refine aL (cE λ _=>aC rf bD rf (bA _) cY rf dI) (λ _=>?_);refine aD ?_
 refine bV Tryz.results142 (λ w hw=>?_)
 refine⟨(x11.1,x11.2.1++[bx x5 [fn f cap],bx x4 (nd.cells:List Value)],x11.2.2),rfl,⟨⟨hv,?_⟩,h11.2.1,h11.2.2.more (λ f hf=>List.mem_append_left _ hf)⟩,hw.rI⟩
 dsimp only
 rw[ho,List.append_assoc]
 exact h11.1
end
end

end Go.Proofs.YtnilhhnfjfdokaaGreatDoor

/- Merged. -/
import Derived.Test.YtbajmaoegmbfgaaGreatGGc1
import Derived.Test.YtbajmaoegmbfgaaGreatGEx11
import Derived.Test.YtbajmaoegmbfgaaGreatGRn1
import Derived.Test.YtbajmaoegmbfgaaGreatGPa1
import Derived.Test.YtbajmaoegmbfgaaGreatGEx6
import Derived.Test.YtbajmaoegmbfgaaGreatGTt1
import Derived.Test.YtbajmaoegmbfgaaGreatGWo6
import Derived.Test.YtbajmaoegmbfgaaGreatGKx8
set_option linter.unusedSimpArgs false
set_option linter.unusedVariables false
namespace Go.Proofs.YtbajmaoegmbfgaaGreat
open Go.Proofs.Tryz
open Go Go.RowKit Go.Ct
section
theorem Ss(key:ByteArray){m:Nat}(hm:m<18446744073709551616)(hk:key.size<=4611686018427387903)(w:World):Calls prog 104 #[.string key,.int .u64 (m:Int)] w λ e w'=>e=.returned (.int .u64 ((jQ key m:Nat):Int))/\St w [] [] w':=by
 refine enter func104 ntmps104 rfl rfl (SF.s0 w) ?_;simp only[cC];refine cU ?_;refine Ka7 ?_;refine kW ?_;refine Kd5 ?_;refine gF [5,6,9,10,11,12,13,14,15,16,17,18,19,20] (λ y:Nat=>[(9,.int .i64 ((y:Nat):Int)),(5,.int .u64 ((hsN key y:Nat):Int))]) (λ y=>y<=key.size) (λ y=>key.size-y) (0) (Nat.zero_le _) ?_ (λ y f hx=>?_);·repeat (first|exact bF _|refine aX (by exact rfl) ?_)
 refine K0a ?_;refine Kd7 ?_;refine bD (λ c10=>?_) (λ c10=>?_)
 ·refine rT ?_;refine J2 ?_;refine zQ ?_;refine aA ?_;refine aP (fD (iz (s:=key) (i:=y) rf rf (by kernel_rfl) (by omega))) (λ x15=>?_);refine K2e ?_;refine J1 ?_;refine yG ?_;refine aC (qe rf rf) rfl ?_;refine J1 ?_;refine eV ?_;refine Kc7 ?_;refine eG (y+1) ?_ ?_ ?_;·omega
  ·repeat' (first|exact bF _|refine aX ?_ ?_)
   all_goals (exact rfl)
  ·omega
 ·refine K1t ?_;refine jD ?_;refine aC (Uo rf rf (Ij _ _) hm) rfl ?_;refine J1 ?_;refine aS results104 (λ w hw=>?_);have hy:y=key.size:=by omega
  subst hy;exact⟨rfl,hw.done⟩
theorem Zb(key:ByteArray)(w:World):Calls prog 106 #[.string key] w λ e w'=>e=.returned (.bool (decide (key.size<=64)))/\St w [] [] w':=by refine enter func106 ntmps106 rfl rfl (SF.s0 w) ?_;simp only[cC];refine Kb5 ?_;refine kW ?_;refine xR ?_;refine J1 ?_;refine aS results106 (λ w hw=>?_);exact⟨by rw[show decide (key.size<=64)=decide ((key.size:Int)<=64) from decide_eq_decide.2 (by omega)];rfl,hw.done⟩
theorem Tx{h:Nat}(hh:h<18446744073709551616)(level:Int)(w:World):Calls prog 150 #[.int .u64 (h:Int),.int .i64 level] w λ e w'=>e=.returned (.int .i64 (eZ h level))/\St w [] [] w':=by
 by_cases hl:level<0∨10<level
 ·unfold eZ;rw[if_pos hl];refine enter func150 ntmps150 rfl rfl (SF.s0 w) ?_;simp only[cC];refine Ka7 ?_;refine A1 ?_;(refine eE 7 (λ g7=>?_) (λ g7=>?_)<;>refine Ka0 ?_);all_goals ((first|refine aI ?_|(refine aF ?_;refine lQ ?_));refine Kd8 ?_)
  all_goals
  refine bD (λ c10=>?_) (λ c10=>?_)
  ·all_goals try (exfalso;omega)
   all_goals refine cU ?_
   all_goals refine aS results150 (λ w hw=>?_);exact⟨rfl,hw.done⟩
  ·try exact nv c10
   all_goals try (exfalso;omega)
 ·obtain⟨l,rfl⟩:∃l:Nat,level=(l:Int):=⟨level.toNat,by omega⟩;unfold eZ;rw[if_neg hl];exact Zr (l:=l) hh (by omega) w
theorem Gm(v:Int)(w:World):Calls prog 154 #[.int .u64 v] w λ e w'=>e=.returned (.agg ⟨(iG (dM true v)).cells⟩)/\St w [] [] w':=by refine enter func154 ntmps154 rfl rfl (SF.s0 w) ?_;simp only[cC];refine J0 ?_;refine aJ (λ x2=>?_);refine aG ?_;refine J2 ?_;refine bM ?_;refine aP (cV (hc:=λ w1 hw=>O0 (dM true v) w1)) (λ x5=>?_);refine bT (gE λ _=>aR rf cY rf (cD _) eD rf iR) (λ _=>?_);refine aG ?_;refine aZ results154 (λ w hw=>?_);exact⟨rfl,hw.done⟩
theorem yO(w:World):Calls prog 151 #[] w λ e w'=>e=.returned (.agg ⟨(iG (dM false 0)).cells⟩)/\St w [] [] w':=by refine enter func151 ntmps151 rfl rfl (SF.s0 w) ?_;simp only[cC];refine J0 ?_;refine aJ (λ x0=>?_);refine aG ?_;refine J0 ?_;refine bM ?_;refine aP (cV (hc:=λ w1 hw=>O0 (dM false 0) w1)) (λ x2=>?_);refine bT (gE λ _=>aR rf cY rf (cD _) eD rf iR) (λ _=>?_);refine aG ?_;refine aZ results151 (λ w hw=>?_);exact⟨rfl,hw.done⟩
abbrev Ju(b:Nat)(t:dW)(key:ByteArray)(h:Nat):List Value:=[.iface 42 (.pointer (some ⟨b,0,none⟩)),.int .i64 t.root,.bool t.ro,.string key,.int .u64 (h:Int)]
theorem Xt{v:aQ}{b bf h:Nat}{t:dW}{key:ByteArray}{w:World}(hf:Go.Ct.Cl w (some ⟨bf,0,none⟩) (Ju b t key h)):Calls prog 152 #[pt bf,.agg ⟨v.nd.cells⟩] w λ e w'=>e=.returned (.agg ⟨(iG (if v.c.key=key then dM true v.c.val else dM false 0)).cells⟩)/\St w [] [] w':=by
 refine enter func152 ntmps152 rfl rfl (SF.s1 hf) ?_;simp only[cC];refine K1m ?_;intro x3;refine aJ (λ x4=>?_);refine Qa ?_;refine aT ?_;refine gH [0,1,2,3,4,5,6] ?_;refine mE ?_;refine J9 ?_;refine bU (i:=5) (hq:=(lX (B:=[bx bf (Ju b t key h)]) bf (Ju b t key h) 3 (λ x hx=>hx) rfl)) (h:=?_);refine ji ?_;refine eN ?_;refine bD (λ c11=>?_) (λ c11=>?_);·refine iE ?_;refine aP (cV (hc:=λ w1 hw=>Gm _ w1)) (λ x14=>?_);refine bT (gE λ _=>aR rf cY rf (cD _) eD rf iR) (λ _=>?_);refine aG ?_;refine aZ results152 (λ w hw=>?_);exact⟨by rw[if_pos (show v.c.key=key from(by simpa using c11:v.nd.key=key))];rfl,hw.done⟩
 ·refine aW ?_;refine J0 ?_;refine aP (cV (hc:=λ w1 hw=>yO w1)) (λ x15=>?_);refine bT (gE λ _=>aR rf cY rf (cD _) eD rf iR) (λ _=>?_);refine aG ?_;refine aZ results152 (λ w hw=>?_);exact⟨by rw[if_neg (show ¬v.c.key=key from(by simpa using c11:¬v.nd.key=key))];rfl,hw.done⟩
section
variable{w:World}{v:aQ}{n c:Nat}
theorem aCa(h:mX n c v.c)(i:Int)(hr:sG w v.nd v.xs v.ys):Calls prog 149 #[v.nd.v,.int .i64 i] w λ e w'=>e=.returned (.tuple #[.int .i64 ((iU v.c i).getD 0),.bool (iU v.c i).isSome])/\St w [] [] w':=by obtain⟨b,h1,h2⟩:=h.bm;have h3:v.nd.bm=(b:Int):=h1;have:=jm (n:=v.nd) i h3 h2 hr;rw[aBt h3 i] at this;exact this
end
section
variable{l:List Pr}{a:Option Addr}{c:Nat}{k:ByteArray}{v:Int}{w:World}
theorem U4(ha:Go.Ct.Cl w a (dF l))(hs:SA l)(hlen:l.length<=11728124029610) :
  Calls prog 233 #[.slice a l.length c,.string k,.func (.func 234) #[] #[]] w λ e w'=>∃i:Nat,e=.returned (.tuple #[.int .i64 (i:Int),.bool (decide (i<l.length/\(l.getD i (⟨#[]⟩,0)).1=k))])/\zZ l k i/\St w [] [] w':=by
 refine enter func233 ntmps233 rfl rfl (SF.s1 ha) ?_;simp only[cC];refine Hu ?_;refine J2 ?_;refine dV ?_;refine Ka5 ?_;refine J8 ?_;refine Dj ?_;refine gF [9,10,11,15,16,17,18,19,20,21,22,23,24,25,26,27,28,29,30,31,32,33,34] (λ x:Nat×Nat=>[(9,.int .i64 ((x.1:Nat):Int)),(10,.int .i64 ((x.2:Nat):Int))]) (λ x=>x.1<=x.2/\x.2<=l.length/\(∀j,j<x.1->dA (l.getD j (⟨#[]⟩,0)).1 k=true)/\(∀j,x.2<=j->j<l.length->dA (l.getD j (⟨#[]⟩,0)).1 k=false)) (λ x=>x.2-x.1) ((0,l.length)) (⟨Nat.zero_le _,Nat.le_refl _,λ j hj=>absurd hj (Nat.not_lt_zero j),λ j h1 h2=>by omega⟩) ?_ (λ x f hx=>?_);·repeat (first|exact bF _|refine aX (by exact rfl) ?_)
 refine K0a ?_;refine D1 ?_;refine wF ?_;refine bD (λ c17=>?_) (λ c17=>?_)
 ·refine aW ?_;refine cO ?_;refine jD ?_;refine Es ?_;refine gX ?_;refine aC (aBW (n:=x.1+x.2) rf rf (by omega)) rfl ?_;refine gX ?_;refine zQ ?_;refine aA ?_;refine Qv ?_;refine aA ?_;(refine aP (by(exact cVd (v:=.int .i64 (Bs (l.getD ((x.1+x.2)/2) (⟨#[]⟩,0)).1 k)) rf (by(repeat (first|exact cN _|(apply bX;focus ((conv=>{lhs;whnf});try exact rfl))));done) (by kernel_rfl) (λ w1 hw=>kh _ k w1))) (λ x30=>?_));refine wF ?_;refine bD (λ c31=>?_) (λ c31=>?_)
  ·refine vF ?_;refine eV ?_;refine eG ((by exact aEl (p:=Bs _ _<0) c31 ((x.1+x.2)/2+1,x.2))) ?_ ?_ ?_;·(simp only[];omega)
   ·repeat' (first|exact bF _|refine aX ?_ ?_)
    all_goals (exact rfl)
   ·obtain⟨q1,q2,q3,q4⟩:=hx
    first
    | exact⟨by show(x.1+x.2)/2+1<=x.2;omega,q2,aAD hs (by omega) (Nn.1 c31),q4⟩
    | exact⟨by show x.1<=(x.1+x.2)/2;omega,by show(x.1+x.2)/2<=l.length;omega,q3,gh hs (Wl.1 c31)⟩
  ·refine yG ?_;refine J1 ?_;refine eV ?_;refine eG ((by exact(x.1,(x.1+x.2)/2))) ?_ ?_ ?_;·omega
   ·repeat' (first|exact bF _|refine aX ?_ ?_)
    all_goals (exact rfl)
   ·obtain⟨q1,q2,q3,q4⟩:=hx
    first
    | exact⟨by show(x.1+x.2)/2+1<=x.2;omega,q2,aAD hs (by omega) (Nn.1 c31),q4⟩
    | exact⟨by show x.1<=(x.1+x.2)/2;omega,by show(x.1+x.2)/2<=l.length;omega,q3,gh hs (Wl.1 c31)⟩
 ·refine K1t ?_;refine Kc4 ?_;refine A1 ?_;(refine eE 39 (λ g39=>?_) (λ g39=>?_)<;>refine Ka0 ?_);all_goals (refine Ka0 ?_;refine Ka0 ?_;refine Kd4 ?_;((first|refine aI ?_|(refine aF ?_;(refine aP (by(exact cVd (v:=.int .i64 (Bs (l.getD x.1 (⟨#[]⟩,0)).1 k)) rf (by(repeat (first|exact cN _|(apply bX;focus ((conv=>{lhs;whnf});try exact rfl))));done) (by kernel_rfl) (λ w1 hw=>kh _ k w1))) (λ x46=>?_)))));refine vY ?_;refine J8 ?_)
  all_goals
  refine aZ results233 (λ w hw=>?_);obtain⟨q1,q2,q3,q4⟩:=hx;refine⟨x.1,?_,⟨by omega,q3,λ j h1 h2=>q4 j (by omega) h2⟩,hw.done⟩
  first
  | (rw[show(Bs (l.getD x.1 (⟨#[]⟩,0)).1 k==0)=decide (x.1<l.length/\(l.getD x.1 (⟨#[]⟩,0)).1=k) by rw[Bool.eq_iff_iff];simp only[beq_iff_eq,decide_eq_true_eq,xj];exact⟨λ h=>⟨by omega,h⟩,λ h=>h.2⟩];rfl)
  | (rw[show decide (x.1<l.length/\(l.getD x.1 (⟨#[]⟩,0)).1=k)=false from decide_eq_false (by omega)];rfl)
theorem eb(ha:Go.Ct.Cl w a (dF l))(hs:SA l)(hlen:l.length<=11728124029610) :
  Calls prog 194 #[.slice a l.length c,.string k] w λ e w'=>∃i:Nat,e=.returned (.tuple #[.int .i64 (i:Int),.bool (decide (i<l.length/\(l.getD i (⟨#[]⟩,0)).1=k))])/\zZ l k i/\St w [] [] w':=by refine enter func194 ntmps194 rfl rfl (SF.s1 ha) ?_;simp only[cC];refine Hu ?_;refine jD ?_;refine aD (c0 (V:=λ i:Nat=>.tuple #[.int .i64 (i:Int),.bool (decide (i<l.length/\(l.getD i (⟨#[]⟩,0)).1=k))]) (hc:=λ w1 hw=>U4 (hw.cl fin) hs (by omega))) (λ x8 h8=>?_);refine aC (bQ rf rfl) rfl ?_;refine aC (bQ rf rfl) rfl ?_;refine J8 ?_;refine aZ results194 (λ w hw=>?_);exact⟨x8,rfl,h8,hw.done⟩
theorem Zg(k:ByteArray)(ha:Go.Ct.Cl w a (dF l))(hlen:l.length<=11728124029610) :
  Calls prog 153 #[.slice a l.length c,.string k] w λ e w'=>e=.returned (.tuple #[.int .u64 ((cL l k).getD 0),.bool (cL l k).isSome])/\St w [] [] w':=by
 refine enter func153 ntmps153 rfl rfl (SF.s1 ha) ?_;simp only[cC];refine Hu ?_;refine jS ?_;refine aD (c0 (V:=.bool) (hc:=λ w1 hw=>Ky (hw.cl fin) (by omega))) (λ x9 h9=>?_);refine oG ?_;refine bD (λ c10=>?_) (λ c10=>?_);·refine Hu ?_;refine aZ results153 (λ w hw=>?_);rw[show cL l k=none from if_neg λ hs=>by rw[h9.2 (nD.2 hs)] at c10;cases c10];exact⟨rfl,hw.done⟩
 ·have hs:SA l:=nD.1 (h9.1 (by simpa using c10));refine Bo ?_;refine aD (c0 (V:=λ i:Nat=>.tuple #[.int .i64 (i:Int),.bool (decide (i<l.length/\(l.getD i (⟨#[]⟩,0)).1=k))]) (hc:=λ w1 hw=>eb (hw.cl fin) hs hlen)) (λ x14 h14=>?_);refine K0c ?_;refine Kb1 ?_;refine oG ?_;refine bD (λ c18=>?_) (λ c18=>?_)
  ·refine Hu ?_;refine aZ results153 (λ w hw=>?_);have hnf:¬(x14<l.length/\(l.getD x14 (⟨#[]⟩,0)).1=k):=by simpa using c18
   rw[show cL l k=none from(if_pos hs).trans (pG (Ln hs h14 hnf))];exact⟨rfl,hw.done⟩
  ·have hfd:x14<l.length/\(l.getD x14 (⟨#[]⟩,0)).1=k:=by simpa using c18
   have hx14:=hfd.1;refine Bo ?_;refine fM ?_;refine J3 ?_;refine J8 ?_;refine aZ results153 (λ w hw=>?_);rw[show cL l k=some (l.getD x14 (⟨#[]⟩,0)).2 from(if_pos hs).trans (Lw h14 hfd.1 hfd.2)];exact⟨rfl,hw.done⟩
end
theorem Zx{v:aQ}{p:Option Addr}{c:Nat}{key:ByteArray}{w:World}(hf:v.Fit)(ha:Go.Ct.Cl w p (dF v.ys)):Calls prog 153 #[.slice p v.nd.prN c,.string key] w λ e w'=>e=.returned (.tuple #[.int .u64 ((cL v.ys key).getD 0),.bool (cL v.ys key).isSome])/\St w [] [] w':=by rw[hf.prN];exact Zg key ha hf.prS
end
section
section
variable{D:List Nat}{A B:Fr}{a:AS}{b:Nat}{w:World}{f:FuncId}{cap:List Value}{t:dW}
theorem ku{i:Int}(hi:i<=a.mm.nodes.length)(ok:a.Ok)(hm:a.mm.Small)(hA:∀f∈aN a.L,f∈A)(hs:SF w D [(b,fR a)] A [] (gC a) w) :
  Calls prog 88 #[.agg ⟨mQ b t⟩,.int .i64 i,fn f cap] w (Af b (λ _ _ _=>True) a B D w):=by
 refine enter func88 ntmps88 rfl rfl hs ?_;simp only[cC]
 refine K1m ?_;intro x3;refine K2s ?_;intro x4 x5 x6 x10 h10 x13;refine bT (gE λ _=>aR rf cY rf (cD _) eD rf iR) (λ _=>?_);refine aG ?_;refine aZ results88 (λ w hw=>?_);exact⟨(oB (aB (cI a.L) i).nd.main _ _,[bx x3 (mQ b t),bx x4 [iv i],bx x5 [fn f cap]],a),rfl,⟨trivial,ok,(AS.iN.refl a).more (λ _ h=>(List.not_mem_nil h).elim)⟩,(((hw.dD (.tail .head)).dD (.tail .head)).dD (.tail .head)).rI⟩
variable{bf h:Nat}{key:ByteArray}
def Mj(b bf h:Nat)(t:dW)(key:ByteArray)(n:Nat):Prop:=∀(a:AS) (D:List Nat) (A B:Fr) (i:Int) (lv:Nat) (w:World),lv+n<=4294967296->bx bf (Ju b t key h)∈B->i<=a.mm.nodes.length->a.Ok->a.mm.Small->(∀f∈aN a.L,f∈A)->(∀x∈B,x∈A)->SF w D [(b,fR a)] A [] (gC a) w ->
  Calls prog 108 #[pt bf,.int .i64 i,.int .i64 ((lv:Nat):Int)] w (Af b (λ c' s' B'=>jT b (lE t h key .done n i ((lv:Nat):Int)) a.mm c' s' B') a B D w)
theorem zp:Mj b bf h t key 0:=by intro a D A B i lv w hl hbf hi ok hm hA hB hs;refine enter func108 ntmps108 rfl rfl hs ?_;simp only[cC];refine K1m ?_;intro x3;refine bJ (λ x5=>?_);refine aJ (λ x6=>?_);refine aG ?_;refine nJ ?_;refine H0 ?_;refine aC (Tq bf (Ju b t key h) 0 3 hB rfl rfl (hm:=hbf)) rfl ?_;refine aA ?_;refine K1v ?_;(refine aP (bG.pre (λ w h=>(show SF _ _ [_,(b,fR a)] _ ([bx x3 [pt bf],bx x5 [iv ((lv:Nat):Int)]]:Fr) _ w from(h.dD (.tail .head)).dD (.tail .head))) (Ae (A0:=[bx x3 [pt bf],bx x5 [iv ((lv:Nat):Int)]]++A) (B:=[bx x3 [pt bf],bx x5 [iv ((lv:Nat):Int)]]++B) (hA:=bH.Ue) (λ w1 hw=>ku hi ok hm (λ f hf=>List.mem_append_right _ (hA f hf)) hw))) (λ x13=>?_);try (refine eP (λ h13=>?_)));refine bT (gE λ _=>aR rf cY rf (cD _) eD rf iR) (λ _=>?_);refine aG ?_;refine aZ results108 (λ w hw=>?_);exact⟨(x13.1,x13.2.1++[bx x3 [pt bf],bx x5 [iv ((lv:Nat):Int)]],x13.2.2),rfl,⟨trivial,h13.2.1,h13.2.2.more λ f hf=>List.mem_append_left _ hf⟩,hw.rI⟩
noncomputable def qK (t:dW) (h:Nat) (key:ByteArray) (n:Nat) (level:Int) (mr:Int):Tr:=.node mr λ m =>
  if m.kind=5 then(if m.key=key then .done (dM true m.val) else .done (dM false 0))
  else if m.kind=6 then .done (dM (cL m.ys key).isSome ((cL m.ys key).getD 0))
  else match iU m (eZ h level) with
   | none=>.done (dM false 0)
   | some b=>.node b λ s=>if s.kind=4 then(if s.key=key then .done (dM true s.val) else .done (dM false 0)) else lE t h key .done n b (level+1)
theorem X8{o:Option Int}(h:o.isSome=true):o=some (o.getD 0):=by cases o with|none=>cases h|some a=>rfl
theorem zq{s:Mm}{c:Cd}{B:Fr}{p:Prop} [Decidable p] {x y:Rs}(e:c=iG (if p then x else y)):jT b (if p then .done x else .done y) s c s B:=by
 split;·rename_i hp;rw[if_pos hp] at e;exact⟨rfl,e⟩
 ·rename_i hp;rw[if_neg hp] at e;exact⟨rfl,e⟩
section
variable{s:Mm}{m l:Int}{n:Nat}{u:Nv}
theorem aEp(hm:m<=s.nodes.length)(e:bE s.nodes m=u)(k:u.kind=5):jT b (qK t h key n l m) s (iG (if u.key=key then dM true u.val else dM false 0)) s B:=by subst e;refine⟨hm,?_⟩;show jT b (if(bE s.nodes m).kind=5 then _ else _) s _ s B;rw[if_pos k];exact zq rfl
theorem aCA(hm:m<=s.nodes.length)(e:bE s.nodes m=u)(k:u.kind=6):jT b (qK t h key n l m) s (iG (dM (cL u.ys key).isSome ((cL u.ys key).getD 0))) s B:=by subst e;refine⟨hm,?_⟩;show jT b (if(bE s.nodes m).kind=5 then _ else if(bE s.nodes m).kind=6 then _ else _) s _ s B;rw[if_neg (by omega),if_pos k];exact⟨rfl,rfl⟩
theorem aDs(hm:m<=s.nodes.length)(e:bE s.nodes m=u)(k5:u.kind≠5)(k6:u.kind≠6)(hk:iU u (eZ h l)=none):jT b (qK t h key n l m) s (iG (dM false 0)) s B:=by subst e;refine⟨hm,?_⟩;show jT b (if(bE s.nodes m).kind=5 then _ else if(bE s.nodes m).kind=6 then _ else _) s _ s B;rw[if_neg k5,if_neg k6,hk];exact⟨rfl,rfl⟩
theorem aDZ(hm:m<=s.nodes.length)(e:bE s.nodes m=u)(k:u.kind=6)(hf:(cL u.ys key).isSome=true):jT b (qK t h key n l m) s (iG (dM true ((cL u.ys key).getD 0))) s B:=by have:=aCA (b:=b) (B:=B) (t:=t) (h:=h) (key:=key) (l:=l) (n:=n) hm e k;rw[hf] at this;exact this
theorem aEa(hm:m<=s.nodes.length)(e:bE s.nodes m=u)(k:u.kind=6)(hf:cL u.ys key=none):jT b (qK t h key n l m) s (iG (dM false 0)) s B:=by have:=aCA (b:=b) (B:=B) (t:=t) (h:=h) (key:=key) (l:=l) (n:=n) hm e k;rw[hf] at this;exact this
theorem aCO(hm:m<=s.nodes.length)(e:bE s.nodes m=u)(k3:¬u.kind=3)(k5:¬u.kind=5)(k6:¬u.kind=6):jT b (qK t h key n l m) s (iG (dM false 0)) s B :=aDs hm e k5 k6 (by cases hk:iU u (eZ h l) with|none=>rfl|some q=>exact absurd (lJ hk) k3)
theorem aDk(hm:m<=s.nodes.length)(e:bE s.nodes m=u)(k3:u.kind=3){c:Cd}{s2:Mm}{q:Int}(hk:iU u (eZ h l)=some q)(hq:q<=s.nodes.length)(hc:jT b (if(bE s.nodes q).kind=4 then(if(bE s.nodes q).key=key then .done (dM true (bE s.nodes q).val) else .done (dM false 0)) else lE t h key .done n q (l+1)) s c s2 B):jT b (qK t h key n l m) s c s2 B:=by subst e;refine⟨hm,?_⟩;show jT b (if(bE s.nodes m).kind=5 then _ else if(bE s.nodes m).kind=6 then _ else _) s _ s2 B;rw[if_neg (by omega),if_neg (by omega),hk];exact⟨hq,hc⟩
end
set_option maxHeartbeats 1000000 in
theorem zd{n lv:Nat}{m:Int}{s:Mm}{xf xl:Nat}(ih:Mj b bf h t key n)(hl:lv+1+n<=4294967296)(hh:h<18446744073709551616)(hbf:bx bf (Ju b t key h)∈B)(hmm:m<=s.nodes.length):rU b 148 [pt xf,pt xl] [.int .i64 m] (bx xf [pt bf]::bx xl [iv ((lv:Nat):Int)]::B) s (qK t h key n ((lv:Nat):Int) m):=by
 intro a D A w em ok hm hA hB hw0;subst em;have hfm:bx bf (Ju b t key h)∈bx xf [pt bf]::bx xl [iv ((lv:Nat):Int)]::B:=List.mem_cons_of_mem _ (List.mem_cons_of_mem _ hbf);have nm:=A7 ok m;refine enter func148 ntmps148 rfl rfl hw0 ?_;simp only[cC]
 refine K0t ?_;intro x4;refine K1d ?_;refine H0 ?_;refine aE ?_;refine aC (lX bf (Ju b t key h) 0 hB rfl (hm:=hfm)) rfl ?_;refine aA ?_;refine aD (Da m ok hm hA hmm) (λ x17 h17=>?_);refine aJ (λ x5=>?_);refine J5 ?_;refine K2f ?_;refine bD (λ c20=>?_) (λ c20=>?_)
 ·try (first|contradiction|(exfalso;omega))
  refine aT ?_;refine eI [(0,[]),(1,[]),(2,[]),(3,[]),(4,[]),(5,[]),(6,[0]),(7,[]),(8,[]),(9,[]),(10,[]),(11,[]),(12,[])] ?_;refine bV ?_;refine bU (i:=1) (hq:=(lX xf [pt bf] 0 hB rfl)) (h:=?_);refine J4 ?_;refine bU (i:=4) (hq:=(lX bf (Ju b t key h) 4 hB rfl (hm:=hfm))) (h:=?_);refine bU (i:=5) (hq:=(lX xl [iv ((lv:Nat):Int)] 0 hB rfl)) (h:=?_);refine dB (i:=6) (hq:=(cV (hc:=λ w1 hw=>Tx hh ((lv:Nat):Int) w1))) (h:=λ x29=>?_);refine dB (i:=7) (hq:=(cV (hc:=λ w1 hw=>aCa (v:=(aB (cI a.L) m).at_ x17.1 x17.2) nm (eZ h ((lv:Nat):Int)) ((aQ.V4 (yK ok.fit.all m) _ _).sU (hw.cl (.own (.tail .head))) (hw.cl (.own .head)))))) (h:=λ x30=>?_);refine aV ?_;refine iJ ?_;refine iJ ?_;refine Pa ?_;refine jS ?_;refine oG ?_;refine bD (λ c34=>?_) (λ c34=>?_)
  ·try (first|contradiction|(exfalso;omega))
   refine J0 ?_;refine aP (cV (hc:=λ w1 hw=>yO w1)) (λ x35=>?_);refine bT (gE λ _=>aR rf cY rf (cD _) eD rf iR) (λ _=>?_);refine K2l ?_;intro w hw;exact⟨(iG (dM false 0),[],a),rfl,⟨aDs hmm (gJ m) (by have e:(aB (cI a.L) m).c.kind=3:=c20;show(aB (cI a.L) m).c.kind≠5;omega) (by have e:(aB (cI a.L) m).c.kind=3:=c20;show(aB (cI a.L) m).c.kind≠6;omega) (show iU ((aB (cI a.L) m).at_ x17.1 x17.2).c (eZ h ((lv:Nat):Int))=none by simpa using c34),ok,AS.iN.refl a⟩,hw.rI⟩
  ·try (first|contradiction|(exfalso;omega))
   refine lB ?_;refine K1d ?_;refine H0 ?_;refine aE ?_;refine aC (lX bf (Ju b t key h) 0 hB rfl (hm:=hfm)) rfl ?_;refine aA ?_;refine aD (Da (((iU ((aB (cI a.L) m).at_ x17.1 x17.2).c (eZ h ((lv:Nat):Int))).getD 0)) ok hm hA (mD (v:=(aB (cI a.L) m).at_ x17.1 x17.2) nm (eZ h ((lv:Nat):Int)))) (λ x42 h42=>?_);refine aJ (λ x8=>?_);refine J5 ?_;refine iE ?_;refine tG ?_;refine bD (λ c45=>?_) (λ c45=>?_)
   ·try (first|contradiction|(exfalso;omega))
    refine K1d ?_;refine bO ?_;refine aP (cV (hc:=λ w1 hw=>Xt (v:=(aB (cI a.L) ((iU ((aB (cI a.L) m).at_ x17.1 x17.2).c (eZ h ((lv:Nat):Int))).getD 0)).at_ x42.1 x42.2) (hw.cl (.bS (Aw.pW (hB _ hfm)))))) (λ x48=>?_);refine bT (gE λ _=>aR rf cY rf (cD _) eD rf iR) (λ _=>?_);refine K2l ?_;intro w hw;refine⟨(iG _,[],a),rfl,⟨aDk hmm (gJ m) (show(aB (cI a.L) m).c.kind=3 from c20) (q:=(iU ((aB (cI a.L) m).at_ x17.1 x17.2).c (eZ h ((lv:Nat):Int))).getD 0) (X8 (o:=iU ((aB (cI a.L) m).at_ x17.1 x17.2).c (eZ h ((lv:Nat):Int))) (by simpa using c34)) (mD (v:=(aB (cI a.L) m).at_ x17.1 x17.2) nm (eZ h ((lv:Nat):Int))) ?_,ok,AS.iN.refl a⟩,hw.rI⟩;rw[gJ,if_pos (by exact c45)];exact zq rfl
   ·try (first|contradiction|(exfalso;omega))
    refine aW ?_;refine K1d ?_;refine aA ?_;refine aC (lX xl [iv ((lv:Nat):Int)] 0 hB rfl) rfl ?_;refine Eb ?_;refine aD (Ae (λ w1 hw=>ih a _ A _ _ (lv+1) w1 hl hfm (mD (v:=(aB (cI a.L) m).at_ x17.1 x17.2) nm (eZ h ((lv:Nat):Int))) ok hm hA hB hw)) (λ x53 h53=>?_);refine bT (gE λ _=>aR rf cY rf (cD _) eD rf iR) (λ _=>?_);refine K2l ?_;intro w hw;refine⟨x53,rfl,⟨aDk hmm (gJ m) (show(aB (cI a.L) m).c.kind=3 from c20) (q:=(iU ((aB (cI a.L) m).at_ x17.1 x17.2).c (eZ h ((lv:Nat):Int))).getD 0) (X8 (o:=iU ((aB (cI a.L) m).at_ x17.1 x17.2).c (eZ h ((lv:Nat):Int))) (by simpa using c34)) (mD (v:=(aB (cI a.L) m).at_ x17.1 x17.2) nm (eZ h ((lv:Nat):Int))) ?_,h53.2⟩,hw.rN⟩;rw[gJ,if_neg (by exact c45)];exact h53.1
 ·try (first|contradiction|(exfalso;omega))
  refine lP ?_;refine bD (λ c54=>?_) (λ c54=>?_)
  ·try (first|contradiction|(exfalso;omega))
   refine K1d ?_;refine bO ?_;refine aP (cV (hc:=λ w1 hw=>Xt (v:=(aB (cI a.L) m).at_ x17.1 x17.2) (hw.cl (.bS (Aw.pW (hB _ hfm)))))) (λ x58=>?_);refine bT (gE λ _=>aR rf cY rf (cD _) eD rf iR) (λ _=>?_);refine K2l ?_;intro w hw;exact⟨(iG _,[],a),rfl,⟨aEp hmm (gJ m) (show(aB (cI a.L) m).c.kind=5 from c54),ok,AS.iN.refl a⟩,hw.rI⟩
  ·try (first|contradiction|(exfalso;omega))
   refine lP ?_;refine bD (λ c59=>?_) (λ c59=>?_)
   ·try (first|contradiction|(exfalso;omega))
    refine aT ?_;refine K0x ?_;refine mE ?_;refine bU (i:=2) (hq:=(lX xf [pt bf] 0 hB rfl)) (h:=?_);refine J4 ?_;refine bU (i:=5) (hq:=(lX bf (Ju b t key h) 3 hB rfl (hm:=hfm))) (h:=?_);refine dB (i:=6) (hq:=(cV (v:=.tuple #[.int .u64 ((cL (aB (cI a.L) m).ys key).getD 0),.bool (cL (aB (cI a.L) m).ys key).isSome]) (hc:=λ w1 hw=>Zx (v:=aB (cI a.L) m) (yK ok.fit.all m) (hw.cl (.own .head))))) (h:=λ x68=>?_);refine aV ?_;refine iJ ?_;refine iJ ?_;refine Pa ?_;refine J2 ?_;refine aG ?_;refine bD (λ c71=>?_) (λ c71=>?_)
    ·try (first|contradiction|(exfalso;omega))
     refine J2 ?_;refine aP (cV (hc:=λ w1 hw=>Gm _ w1)) (λ x73=>?_);refine bT (gE λ _=>aR rf cY rf (cD _) eD rf iR) (λ _=>?_);refine K2l ?_;intro w hw;exact⟨(iG _,[],a),rfl,⟨aDZ hmm (gJ m) (show(aB (cI a.L) m).c.kind=6 from c59) (show(cL (aB (cI a.L) m).ys key).isSome=true by simpa using c71),ok,AS.iN.refl a⟩,hw.rI⟩
    ·try (first|contradiction|(exfalso;omega))
     refine pE ?_;refine J0 ?_;refine aP (cV (hc:=λ w1 hw=>yO w1)) (λ x74=>?_);refine bT (gE λ _=>aR rf cY rf (cD _) eD rf iR) (λ _=>?_);refine K2l ?_;intro w hw;exact⟨(iG (dM false 0),[],a),rfl,⟨aEa hmm (gJ m) (show(aB (cI a.L) m).c.kind=6 from c59) (show cL (aB (cI a.L) m).ys key=none by simpa using c71),ok,AS.iN.refl a⟩,hw.rI⟩
   ·try (first|contradiction|(exfalso;omega))
    refine pE ?_;refine J0 ?_;refine aP (cV (hc:=λ w1 hw=>yO w1)) (λ x74=>?_);refine bT (gE λ _=>aR rf cY rf (cD _) eD rf iR) (λ _=>?_);refine K2l ?_;intro w hw;exact⟨(iG (dM false 0),[],a),rfl,⟨aCO hmm (gJ m) c20 c54 c59,ok,AS.iN.refl a⟩,hw.rI⟩
theorem ym{n:Nat}(ht:t.root<=9223372036854775807)(hh:h<18446744073709551616)(ih:Mj b bf h t key n):Mj b bf h t key (n+1):=by
 intro a D A B i lv w hl hbf hi ok hm hA hB hs;have hT:∀x3 x5:Nat,A3 b (qK t h key n ((lv:Nat):Int)) a.mm 148 [pt x3,pt x5] ([bx x3 [pt bf],bx x5 [iv ((lv:Nat):Int)]]++B):=λ x3 x5=>⟨by kernel_rfl,λ m s1 l hmm=>zd ih (by omega) hh hbf hmm⟩;refine enter func108 ntmps108 rfl rfl hs ?_;simp only[cC]
 refine K1m ?_;intro x3;refine bJ (λ x5=>?_);refine aJ (λ x6=>?_);refine aG ?_;refine nJ ?_;refine H0 ?_;refine aC (Tq bf (Ju b t key h) 0 3 hB rfl rfl (hm:=hbf)) rfl ?_;refine aA ?_;refine K1v ?_;(refine aP (bG.pre (λ w h=>(show SF _ _ [_,(b,fR a)] _ ([bx x3 [pt bf],bx x5 [iv ((lv:Nat):Int)]]:Fr) _ w from(h.dD (.tail .head)).dD (.tail .head))) (Ae (A0:=[bx x3 [pt bf],bx x5 [iv ((lv:Nat):Int)]]++A) (B:=[bx x3 [pt bf],bx x5 [iv ((lv:Nat):Int)]]++B) (hA:=bH.Ue) (λ w1 hw=>W6 ht (hT x3 x5) hi ok hm (λ f hf=>List.mem_append_right _ (hA f hf)) (Jh hB) hw))) (λ x13=>?_);try (refine eP (λ h13=>?_)));refine bT (gE λ _=>aR rf cY rf (cD _) eD rf iR) (λ _=>?_);refine aG ?_;refine aZ results108 (λ w hw=>?_);refine⟨(x13.1,x13.2.1++[bx x3 [pt bf],bx x5 [iv ((lv:Nat):Int)]],x13.2.2),rfl,⟨?_,h13.2.1,h13.2.2.more λ f hf=>List.mem_append_left _ hf⟩,hw.rI⟩;have h13':=h13.1;rw[<- List.append_assoc] at h13';exact h13'
theorem V2(ht:t.root<=9223372036854775807)(hh:h<18446744073709551616):∀n,Mj b bf h t key n
 | 0=>zp
 | n+1=>ym ht hh (V2 ht hh n)
end
end
section
abbrev erR:Rs:={Rs.zero with err:=1}
noncomputable def Rl (t:dW) (h:Nat) (key:ByteArray) (n:Nat):Tr:=if key.size<=64 then kI t (λ i=>lE t h key .done n i 0) else .done erR
theorem Sh{k:Cl}(h:Nat)(n:Nat)(e:k.kind=7):kN k h n=Rl k.t h k.key n:=by
 have hr:refuse k=if k.key.size<=64 then 0 else 1:=if_pos (show k.kind=7∨k.kind=9 from .inl e);unfold kN Rl;rw[hr];by_cases hk:k.key.size<=64
 ·simp only[if_pos hk];rw[if_neg (by decide),if_neg (by omega),if_neg (by omega),if_neg (by omega),if_neg (by omega),if_pos e]
 ·simp only[if_neg hk];rw[if_pos (by decide)]
section
variable{D:List Nat}{A B:Fr}{a:AS}{b:Nat}{w:World}{f:FuncId}{cap:List Value}{t:dW}{bf h:Nat}{key:ByteArray}
theorem zf(x y z:Option Addr×List Value):∀u∈x::z::([y]++B),u∈[x,y,z]++B:=λ u hu=>by simp only[List.mem_cons,List.mem_append,List.not_mem_nil,or_false] at hu ⊢;rcases hu with h|h|h|h<;>simp[h]
theorem aA8{n xf:Nat}{s:Mm}{r:Int}(hd:Mj b bf h t key n)(hn:n<=4294967296)(hr:r<=s.nodes.length)(hbf:bx bf (Ju b t key h)∈B):rU b 107 [pt xf] [.int .i64 r] (bx xf [pt bf]::B) s (lE t h key .done n r 0):=by intro a D A w em ok hm hA hB hw0;subst em;refine enter func107 ntmps107 rfl rfl hw0 ?_;simp only[cC];refine J0 ?_;refine aJ (λ x3=>?_);refine aG ?_;refine K1d ?_;refine aA ?_;refine aD (Ae (λ w1 hw=>hd a _ A _ r 0 w1 (by omega) (List.mem_cons_of_mem _ hbf) hr ok hm hA hB hw)) (λ x6 h6=>?_);refine bT (gE λ _=>aR rf cY rf (cD _) eD rf iR) (λ _=>?_);refine aG ?_;refine aZ results107 (λ w hw=>?_);exact⟨x6,rfl,h6,hw.rN⟩
theorem aBJ{n xk xf:Nat}{s:Mm}(ht:t.root<=9223372036854775807)(hd:Mj b bf h t key n)(hn:n<=4294967296)(hbf:bx bf (Ju b t key h)∈B):rU b 105 [pt xk,pt xf] [] (bx xk [.string key]::bx xf [pt bf]::B) s (Rl t h key n):=by
 intro a D A w em ok hm hA hB hw0;subst em;have hfm:bx bf (Ju b t key h)∈bx xk [.string key]::bx xf [pt bf]::B:=List.mem_cons_of_mem _ (List.mem_cons_of_mem _ hbf);have hT:A3 b (λ i=>lE t h key .done n i 0) a.mm 107 [pt xf] (bx xk [.string key]::bx xf [pt bf]::B):=⟨by kernel_rfl,λ r s1 l hr=>(aA8 hd hn hr hbf).mr λ y hy=>List.mem_cons_of_mem _ hy⟩;refine enter func105 ntmps105 rfl rfl hw0 ?_;simp only[cC]
 refine J0 ?_;refine aJ (λ x2=>?_);refine Qa ?_;refine J0 ?_;refine aC (lX xk [.string key] 0 hB rfl) rfl ?_;refine aP (cV (hc:=λ w1 hw=>Zb key w1)) (λ x4=>?_);refine oG ?_;refine bD (λ c5=>?_) (λ c5=>?_);·refine J0 ?_;refine bM ?_;refine aP (cV (hc:=λ w1 hw=>O0 erR w1)) (λ x7=>?_);refine bT (gE λ _=>aR rf cY rf (cD _) eD rf iR) (λ _=>?_);refine aG ?_;refine aZ results105 (λ w hw=>?_);refine⟨(iG erR,[],a),rfl,⟨?_,ok,AS.iN.refl a⟩,hw.rI⟩;dsimp only;unfold Rl;rw[if_neg (by simpa using c5)];exact⟨rfl,rfl⟩
 ·refine aW ?_;refine K1d ?_;refine H0 ?_;refine aC (Tq bf (Ju b t key h) 0 3 hB rfl rfl (hm:=hfm)) rfl ?_;refine K1v ?_;refine aD (Ae (λ w1 hw=>uy ht hT ok hm hA hB hw)) (λ x13 h13=>?_);refine bT (gE λ _=>aR rf cY rf (cD _) eD rf iR) (λ _=>?_);refine aG ?_;refine aZ results105 (λ w hw=>?_);refine⟨x13,rfl,⟨?_,h13.2⟩,hw.rN⟩;unfold Rl;rw[if_pos (by simpa using c5)];exact h13.1
theorem Rj{m n:Nat}(ht:t.root<=9223372036854775807)(hd:∀bf,Mj b bf (jQ key m) t key n)(hn:n<=4294967296)(hm0:m<18446744073709551616)(hk:key.size<=4611686018427387903){i q:Nat}(hT:bW (Rl t (jQ key m) key n) i q)(ok:a.Ok)(hm:a.mm.Small)(hA:∀f∈aN a.L,f∈A)(hB:∀x∈B,x∈A)(hs:SF w D [(b,fR a)] A [] (gC a) w) :
  Calls prog 55 #[.iface 42 (.pointer (some ⟨b,0,none⟩)),.agg ⟨[.int .i64 t.root,.bool t.ro]⟩,.int .u64 (m:Int),.string key] w λ e w'=>∃x:Nat×Cd×Fr×AS,e=.returned (.pointer (some ⟨x.1,0,none⟩))/\(rW b (Ct.eF (Rl t (jQ key m) key n) a.mm) a B x.2/\dK (Ct.eF (Rl t (jQ key m) key n) a.mm).1=true)/\SF w D [(x.1,tO b x.2.1 0),(b,fR x.2.2.2)] [] x.2.2.1 (gC x.2.2.2) w':=by
 have h0:=pQ key m;refine enter func55 ntmps55 rfl rfl hs ?_;simp only[cC]
 refine J0 ?_;refine bJ (λ x5=>?_);refine bJ (λ x7=>?_);refine jG ?_;refine eR [9,10,11,12,13,14,15,16,17,18] (λ j:Nat×Nat=>[(9,.pointer (some ⟨j.1,0,none⟩))]) (λ _=>True) (λ j=>[(j.1,.cells ⟨[pt j.2]⟩ 156 (0,0)),(j.2,.cells ⟨Ju b t key (jQ key m)⟩ 159 (0,0)),(x7,.cells ⟨[.string key]⟩ 9 (0,0)),(x5,.cells ⟨[.int .i64 t.root,.bool t.ro]⟩ 29 (0,0)),(b,fR a)]) (λ _=>[]) (λ _=>gC a) (by decide) (λ _=>by exact rfl) ?_ (λ j f hx=>?_)
 ·refine gO (.one 0 [] (.one 1 [] (.one 2 [] (.one 3 [] (.one 4 [] (.one 5 [] (.two 6 [1,3] (.one 7 [] (.two 8 [] (.one 9 [1,3,4] (.one 10 [] .nil)) 0 [] (.two 9 [1,3,4] (.one 8 [] (.one 10 [] .nil)) 0 [] .nil))) 0 [] (.two 9 [1,3,4] (.one 6 [1,3] (.one 7 [] (.one 8 [] (.one 10 [] .nil)))) 0 [] .nil)))))))) ?_;refine aV ?_;refine bV ?_;refine gM ?_;refine bV ?_;refine bV ?_;refine aV ?_;refine gL (E:=[6,9]) (by decide +kernel) ((.cons ?_ (.cons ?_ .nil)))
  ·refine Bd (i:=6) (hq:=(cV (hc:=λ w1 hw=>Ss key hm0 hk w1))) (h:=λ x16=>?_);refine gM ?_;refine gL (E:=[8,9]) (by decide +kernel) ((.cons ?_ (.cons ?_ .nil)));·refine aC3 (i:=8) (h:=λ x18=>?_);refine dB (i:=9) (hq:=(gE λ _=>Hn (z:=.pointer none) (by kernel_rfl) rfl)) (h:=λ x9=>?_);refine An ?_;refine fC ((x9,x18)) ?_ (hw1:=λ w hw=>by exact hw.back (hH:=by exact List.Sublist.refl _) (hF:=by exact bA.all) (hO:=E0m));·trivial
   ·refine Bd (i:=9) (hq:=(gE λ _=>Hn (z:=.pointer none) (by kernel_rfl) rfl)) (h:=λ x9=>?_);refine o8 (h:=λ x18=>?_);refine K1o ?_;·trivial
  ·refine Bd (i:=9) (hq:=(gE λ _=>Hn (z:=.pointer none) (by kernel_rfl) rfl)) (h:=λ x9=>?_);refine dB (i:=6) (hq:=(cV (hc:=λ w1 hw=>Ss key hm0 hk w1))) (h:=λ x16=>?_);refine gM ?_;refine o8 (h:=λ x18=>?_);refine K1o ?_;·trivial
 refine K0a ?_;refine J2 ?_;refine K1v ?_;(refine aP (bG.pre (λ w h=>(show SF _ _ [_,(b,fR a)] _ ([bx x7 [.string key],bx j.2 (Ju b t key (jQ key m)),bx j.1 [pt j.2]]:Fr) _ w from((h.dD .head).dD .head).dD .head)) (cMH (V:=λ x:Nat×Cd×Fr×AS=>.pointer (some ⟨x.1,0,none⟩)) (hs:=[(b,fR a)]) (os:=gC a) (hs':=λ x=>[(b,fR x.2.2.2)]) (Hc:=λ x=>[(x.1,tO b x.2.1 0)]) (os':=λ x=>gC x.2.2.2) (Oc:=λ _=>[]) (Fc:=λ x=>x.2.2.1) (A0:=[bx x7 [.string key],bx j.2 (Ju b t key (jQ key m)),bx j.1 [pt j.2]]++A) (hA:=bH.Ue) (hc:=λ w1 hw=>Zy (B:=[bx x7 [.string key],bx j.2 (Ju b t key (jQ key m)),bx j.1 [pt j.2]]++B) hT ⟨by kernel_rfl,λ s1 l=>(aBJ (B:=[bx j.2 (Ju b t key (jQ key m))]++B) (xk:=x7) (xf:=j.1) ht (hd j.2) hn (List.mem_cons_self ..)).mr (zf _ _ _)⟩ ok hm (λ f hf=>List.mem_append_right _ (hA f hf)) (Jh hB) hw))) (λ x21=>?_);try (refine eP (λ h21=>?_)));refine J1 ?_;refine aS results55 (λ w hw=>?_);exact⟨(x21.1,x21.2.1,x21.2.2.1++[bx x7 [.string key],bx j.2 (Ju b t key (jQ key m)),bx j.1 [pt j.2]],x21.2.2.2),rfl,⟨rW.app h21.1,h21.2⟩,hw.ret (by repeat (first|exact List.Sublist.refl _|apply List.Sublist.cons_cons|apply List.Sublist.cons)) (bA.iT λ f hf=>hf) (by repeat (exact List.Sublist.refl _))⟩
end
end
section
theorem Wr{k:Cl}(m:Nat)(e:k.kind=7):T0 k m=Rl k.t (jQ k.key m) k.key 1073741824:=Sh _ _ e
theorem vv{k:Cl}{m:Nat}{D:List Nat}{A B:Fr}{a:AS}{b:Nat}{w:World}(e:k.kind=7)(ht:k.t.root<=9223372036854775807)(hm0:m<18446744073709551616)(hk:k.key.size<=4611686018427387903)(ok:a.Ok)(hm:a.mm.Small)(hA:∀f∈aN a.L,f∈A)(hB:∀x∈B,x∈A)(hs:SF w D [(b,fR a)] A [] (gC a) w) :
  Calls prog 55 #[.iface 42 (.pointer (some ⟨b,0,none⟩)),.agg ⟨[.int .i64 k.t.root,.bool k.t.ro]⟩,.int .u64 (m:Int),.string k.key] w λ e w'=>∃x:Nat×Cd×Fr×AS,e=.returned (.pointer (some ⟨x.1,0,none⟩))/\(rW b (Ct.eF (T0 k m) a.mm) a B x.2/\dK (Ct.eF (T0 k m) a.mm).1=true)/\SF w D [(x.1,tO b x.2.1 0),(b,fR x.2.2.2)] [] x.2.2.1 (gC x.2.2.2) w':=by
 have hT:=nA k m (n:=0) (by decide);rw[Wr m e] at hT ⊢;have hn:1073741824<=4294967296:=by decide
 generalize 1073741824=n at hT hn ⊢;exact Rj ht (λ bf=>V2 ht (pQ k.key m) n) hn hm0 hk hT ok hm hA hB hs
end
section
structure TK(ba:Nat)(t:Tr)(c:Cd)(a:AS)(G:Fr)(k:Nat):Prop where
 rp:jT ba t a.mm c a.mm G
 ar:dK t=true
 tm:bW t k 64
structure AK(a:AS)(G:Fr)(B:Nat):Prop where
 ok:a.Ok
 s1:a.mm.nodes.length<=B
 s2:a.mm.cs.length<=B
 fam:∀f∈aN a.L,f.2=[]∨f∈G
section
variable{ba bt n k B:Nat}{t:Tr}{c:Cd}{a a':AS}{G G' A:Fr}{D:List Nat}{w:World}{O:List Ow}
theorem AK.all(h:AK a G B):bH A G O (aN a.L++G):=bH.of λ f hf=>(List.mem_append.1 hf).elim (λ h1=>(h.fam f h1).imp_right λ h=>.inr (.inl h)) λ h1=>.inr (.inr (.inl h1))
theorem AK.aCI(h:AK a G B):bH A G O (aN a.L):=bH.of λ f hf=>(h.fam f hf).imp_right λ h=>.inr (.inl h)
theorem AK.small(h:AK a G B)(hB:B<=100000000000):a.mm.Small:=⟨by have:=h.s1;omega,by have:=h.s2;omega⟩
theorem TK.dead(h:TK ba t c a G k)(hl:t.live=false):c.a.k=0:=(h.rp.kind h.ar).1.2 hl
theorem TK.done{r:Rs}(h:TK ba (.done r) c a G k):(c.a.k==0)=true/\(if(true:Bool)=true then c.r else Rs.zero)=r:=⟨by rw[h.dead rfl];rfl,by rw[if_pos rfl];exact(h.rp.kind h.ar).2.1 r rfl⟩
theorem TK.zero{ba k:Nat}{t:Tr}{c:Cd}{a:AS}{G:Fr}{r:Rs}(h:TK ba t c a G k)(e:t=.done r):TK ba (.done r) c a G 0:=by subst e;exact⟨h.rp,h.ar,trivial⟩
structure TY where
 c:Cd
 F:Fr
 a:AS
 n:Nat
structure TYS(ba:Nat)(p:Tr×Mm)(a:AS)(G:Fr)(k B n:Nat)(y:TY):Prop where
 tk:TK ba p.1 y.c y.a (y.F++G) k
 mm:y.a.mm=p.2
 ak:AK y.a (y.F++G) B
 le:a.mm.Le y.a.mm
 n:y.n<=n
theorem Md{F:Fr}(h:a.iN a' F)(h2:∀f∈aN a.L,f.2=[]∨f∈G):∀f∈aN a'.L,f.2=[]∨f∈F++G:=λ f hf=>(h.fam f hf).elim .inl λ h=>h.elim (λ h=>(h2 f h).imp_right λ h=>List.mem_append_right _ h) λ h=>.inr (List.mem_append_left _ h)
theorem jf{most:Nat}(h:TK ba t c a G (k+most))(ha:AK a G B)(hB:B+64*most<=100000000000)(hn:n+most<1000000000)(hA1:∀f∈aN a.L,f∈A)(hA2:∀f∈G,f∈A)(hs:SF w D [(bt,tO ba c n),(ba,fR a)] A [] (gC a) w) :
  Calls prog 30 #[.pointer (some ⟨bt,0,none⟩),.int .i64 ((most:Nat):Int)] w λ e w'=>∃y:TY,e=.returned (.int .i64 ((pF (t,a.mm) most:Nat):Int))/\TYS ba (jI (t,a.mm) most) a G k (B+64*most) (n+pF (t,a.mm) most) y/\SF w D [(bt,tO ba y.c y.n),(ba,fR y.a)] [] y.F (gC y.a) w':=by
 have hs1:=ha.s1;have hs2:=ha.s2;refine(Ru (most:=most) (m:=k+most) h.tm (by omega) h.ar h.rp ha.ok ⟨by omega,by omega⟩ hn hA1 hA2 hs).mono λ e w' ⟨y,e1,h5,hw⟩=>⟨⟨y.1,y.2.1,y.2.2,n+pF (t,a.mm) most⟩,e1,?_,hw⟩;obtain⟨z0,z1,z2,z3⟩:=Jd (s:=a.mm) h.tm h.ar most (by omega)
 have em:y.2.2.mm=(jI (t,a.mm) most).2:=h5.mm;exact⟨⟨by show jT ba _ y.2.2.mm _ y.2.2.mm _;rw[em];exact h5.rp,z1,by rw[show k=k+most-most by omega];exact z0⟩,em,⟨h5.ok,by show y.2.2.mm.nodes.length<=_;rw[em];omega,by show y.2.2.mm.cs.length<=_;rw[em];omega,Md h5.gr ha.fam⟩,h5.gr.le,Nat.le_refl _⟩
structure vu(ba:Nat)(T:Tr)(a:AS)(G:Fr)(k B:Nat)(y:TY):Prop where
 tk:TK ba (Ct.eF T a.mm).1 y.c y.a (y.F++G) k
 mm:y.a.mm=(Ct.eF T a.mm).2
 ak:AK y.a (y.F++G) B
 le:a.mm.Le y.a.mm
theorem zh{T:Tr}{y:Nat×Cd×Fr×AS}(hT:bW T k 64)(ha:AK a G B)(h:rW ba (Ct.eF T a.mm) a [] y.2/\dK (Ct.eF T a.mm).1=true):vu ba T a G k (B+64) ⟨y.2.1,y.2.2.1,y.2.2.2,0⟩:=by obtain⟨h1,h2⟩:=h;have h5:=TkI.of h1;obtain⟨z1,z2⟩:=pB a.mm hT;have hs1:=ha.s1;have hs2:=ha.s2;have em:y.2.2.2.mm=(Ct.eF T a.mm).2:=h5.mm;exact⟨⟨by show jT ba _ y.2.2.2.mm _ y.2.2.2.mm _;rw[em];exact jT.more h5.rp λ x hx=>by rw[List.append_nil] at hx;exact List.mem_append_left _ hx,h2,oU a.mm hT 64⟩,em,⟨h5.ok,by show y.2.2.2.mm.nodes.length<=_;rw[em];omega,by show y.2.2.2.mm.cs.length<=_;rw[em];omega,Md h5.gr ha.fam⟩,h5.gr.le⟩
end
end
section
section
variable{t:dW}{i m p v:Int}{n:Nat}
end
end
section
section
variable{w:World}{L:List aQ}{cs:List Int}{gen:Int}{pn pc:Option Addr}{cn cc:Nat}
end
end
section
section
variable{H:ByteArray->Nat}{Q:Rs->Kw->Prop}{σ:Kw}
end
section
variable{H:ByteArray->Nat}{σ:Kw}{t:dW}{i:Int}
end
section
variable{s:Mm}{t:dW}{i m n c pc:Int}{K:Int->Tr}
end
end
section
section
variable{H:ByteArray->Nat}{σ:Kw}{t:dW}{i m:Int}
end
end
section
section
variable{s M:Mm}{t:dW}{i m n n0 n1:Int}
end
end
section
section
variable{H:ByteArray->Nat}{M s:Mm}{ts:List dW}{σ:Kw}{t:dW}{i m n:Int}{u:Nv}
theorem QS.root(q:QS H M ts σ)(ht:t∈ts):1<=t.root/\t.root<=M.cs.length/\(bE M.nodes (bK M.cs t.root)).kind=2:=by
 have e:=q.mm;subst e;have hT:=q.ts t ht;refine⟨hT.1,hT.2.1,?_⟩;cases hro:t.ro with
 | true=>exact(hT.roI q.inv hro).1
 | false=>exact q.rt _ hT.1 hT.2.1 (hT.rw hro)
theorem QS.kT(q:QS H M ts σ)(ht:t∈ts){r:Int}(h:kT M.nodes M.cs t.root=some r):bK M.cs t.root=r:=by
 have h2:=(q.root ht).2.2;have e:sL M.nodes M.cs t.root=bK M.cs t.root:=by unfold sL;rw[if_neg (by rw[h2];decide)]
 unfold Go.Ct.kT at h;rw[e,if_pos h2] at h;exact Option.some.inj h
end
end
section
theorem E1{p:Tr×Mm}:∀{k:Nat},(jI p k).1.live=true->pF p (k+1)=k+1
 | 0,h=>by show 0+(if(jI p 0).1.live=true then 1 else 0)=1;rw[if_pos h]
 | k+1,h=>by
  have hk:(jI p k).1.live=true:=by
   cases e:(jI p k).1.live with
   | true=>rfl
   | false=>rw[(Jq e 1).1,e] at h;cases h
  show pF p (k+1)+(if(jI p (k+1)).1.live=true then 1 else 0)=_;rw[E1 hk,if_pos h]
theorem kr{m:Nat}{M:Mm}{ts:List dW}{σ:Kw}(q:QS (H8 m) M ts σ){k:Cl}(ht:k.t∈ts)(e7:k.kind=7)(hs:k.key.size<=64) :
  ∃f v d,jI (Ct.eF (T0 k m) M) (1+2*d)=(.done (dM f v),M)/\(jI (Ct.eF (T0 k m) M) (2*d)).1.live=true/\1<=d/\d<=12/\∃r,kT M.nodes M.cs k.t.root=some r/\FdV k.key (Ds M.nodes M.cs 12 r) f v/\∀q,Bb M.nodes M.cs 12 0 0 r [] []=some q->∃p∈q.1,p.lv+1=d:=by
 have em:=q.mm;subst em;obtain⟨r,hr,hI⟩:=Mv q.inv (q.ts _ ht);have hrv:=q.kT ht hr;have hk2:(bE σ.mm.nodes r).kind=2:=hI.1;have hn:12<=1073741824:=by decide
 rw[Wr m e7];generalize 1073741824=n at hn ⊢;rw[Rl,if_pos hs];obtain⟨f,v,d,hq,hd,hv,hp⟩:=jt (t:=k.t) (K:=.done) (h:=jQ k.key m) (key:=k.key) q.inv q.st (λ hl=>(aAa rfl hl).2.symm) n r [] (σ.nd r).gen 12 ⟨hI,rfl⟩ (λ j hj=>absurd hj (Nat.not_lt_zero j)) (by simpa using hn) (by decide);have h1:jI (Ct.eF (kI k.t λ i=>lE k.t (jQ k.key m) k.key .done n i 0) σ.mm) 1=Ct.eF (lE k.t (jQ k.key m) k.key .done n r 0) σ.mm:=by show Ct.eF (if(bE σ.mm.nodes (bK σ.mm.cs k.t.root)).kind=2 then lE k.t (jQ k.key m) k.key .done n (bK σ.mm.cs k.t.root) 0 else _) σ.mm=_;rw[hrv,if_pos hk2]
 have hd1:=hq.d1;refine⟨f,v,d,?_,?_,hd1,by simpa using hd,r,hr,hv,λ q hq=>?_⟩
 ·rw[oH,h1];exact hq.run
 ·rw[show 2*d=1+(2*d-1) by omega,oH,h1];exact hq.lv
 ·obtain⟨p,hp1,hp2⟩:=hp _ _ _ _ _ _ hq;exact⟨p,hp1,by omega⟩
section
variable{ba B:Nat}{k:Cl}{m:Nat}{a:AS}{G A:Fr}{D:List Nat}{w:World}
theorem fm(e:k.kind=7)(ht:k.t.root<=9223372036854775807)(hm0:m<18446744073709551616)(hk:k.key.size<=4611686018427387903)(ha:AK a G B)(hB:B<=90000000000)(hA:∀f∈aN a.L,f∈A)(hs:SF w D [(ba,fR a)] A [] (gC a) w) :
  Calls prog 55 #[.iface 42 (.pointer (some ⟨ba,0,none⟩)),.agg ⟨[.int .i64 k.t.root,.bool k.t.ro]⟩,.int .u64 (m:Int),.string k.key] w λ e w'=>∃x:Nat×TY,e=.returned (.pointer (some ⟨x.1,0,none⟩))/\vu ba (T0 k m) a G 1000 (B+64) x.2/\SF w D ([(ba,fR x.2.a)]++[(x.1,tO ba x.2.c 0)]) [] x.2.F (gC x.2.a++[]) w' :=
 (Nh (vv (B:=[]) e ht hm0 hk ha.ok (ha.small (by omega)) hA (λ x hx=>nomatch hx) hs)).mono λ e w' ⟨x,e1,h,hw⟩=>⟨(x.1,⟨x.2.1,x.2.2.1,x.2.2.2,0⟩),e1,zh (nA k m (by decide)) ha h,hw⟩
theorem lx{M:Mm}{d N kk k' B' q':Nat}{R:Rs}{y z:TY}(hM:a.mm=M)(hr:jI (Ct.eF (T0 k m) M) (1+2*d)=(.done R,M))(hl:(jI (Ct.eF (T0 k m) M) (2*d)).1.live=true)(hN:1+2*d<=N)(hy:vu ba (T0 k m) a G kk B y)(hz:TYS ba (jI ((Ct.eF (T0 k m) a.mm).1,y.a.mm) N) y.a (y.F++G) k' B' q' z) :
  TK ba (.done R) z.c z.a (z.F++(y.F++G)) 0/\z.a.mm=M/\pF ((Ct.eF (T0 k m) a.mm).1,y.a.mm) N=1+2*d:=by
 subst hM;have e0:((Ct.eF (T0 k m) a.mm).1,y.a.mm)=Ct.eF (T0 k m) a.mm:=by rw[hy.mm]
 rw[e0] at hz ⊢;have hdd:(jI (Ct.eF (T0 k m) a.mm) (1+2*d)).1.live=false:=by rw[hr];rfl
 obtain⟨h1,h2⟩:=yD hdd hN;rw[h1,hr] at hz;exact⟨hz.tk.zero rfl,hz.mm,by rw[h2,Nat.add_comm];exact E1 hl⟩
end
end
end Go.Proofs.YtbajmaoegmbfgaaGreat

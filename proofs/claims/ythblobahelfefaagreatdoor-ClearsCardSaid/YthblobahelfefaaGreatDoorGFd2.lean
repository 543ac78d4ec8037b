/- Merged. -/
import Derived.Test.YthblobahelfefaaGreatDoorGFd1
import Derived.Test.YthblobahelfefaaGreatDoorGJoin
set_option linter.unusedSimpArgs false
set_option linter.unusedVariables false
namespace Go.Proofs.YthblobahelfefaaGreatDoor
open Go.Proofs.Tryz
open Go Go.RowKit Go.Ct
section
section
variable{D:List Nat}{A B:Fr}{a:AS}{b:Nat}{w:World}{f:FuncId}{cap:xK}{t:nV}
theorem uy{i:Int}(hi:i<=a.mm.nodes.length)(ok:a.Ok)(hm:a.mm.Small)(hA:∀f∈cH a.L,f∈A)(hs:SF w D [(b,cX a),(a.u,a.po)] A [] (hU a) w) :
  Calls prog 107 #[.agg ⟨eZ b t⟩,.int .i64 i,fn f cap] w (kC b (λ _ _ _=>True) a B D w):=by
 refine enter func107 ntmps107 rfl rfl hs ?_;simp only[bY]
 refine K1m ?_;intro x3;refine K2e ?_;intro x4 x5 x6 x10 h10 x13;refine aM (cK λ _=>aE rf bU rf (aW _) cW rf dV) (λ _=>?_);refine aC ?_;refine bJ results107 (λ w hw=>?_);exact⟨(lL (aV (bM a.L) i).nd.main _ _,[bx x3 (eZ b t),bx x4 [iv i],bx x5 [fn f cap]],a),rfl,⟨trivial,ok,(AS.eC.refl a).more (λ _ h=>(List.not_mem_nil h).elim)⟩,(((hw.bP (.tail .head)).bP (.tail .head)).bP (.tail .head)).rI⟩
variable{bf h:Nat}{key:ByteArray}
def S2(b bf h:Nat)(t:nV)(key:ByteArray)(n:Nat):Prop:=∀(a:AS) (D:List Nat) (A B:Fr) (i:Int) (lv:Nat) (w:World),lv+n<=4294967296->bx bf (Jd b t key h)∈B->i<=a.mm.nodes.length->a.Ok->a.mm.Small->(∀f∈cH a.L,f∈A)->(∀x∈B,x∈A)->SF w D [(b,cX a),(a.u,a.po)] A [] (hU a) w ->
  Calls prog 103 #[pt bf,.int .i64 i,.int .i64 ((lv:Nat):Int)] w (kC b (λ c' s' B'=>dZ b (uW t h key .done n i ((lv:Nat):Int)) a.mm c' s' B') a B D w)
theorem aA3:S2 b bf h t key 0:=by intro a D A B i lv w hl hbf hi ok hm hA hB hs;refine enter func103 ntmps103 rfl rfl hs ?_;simp only[bY];refine K1m ?_;intro x3;refine bC (λ x5=>?_);refine aI (λ x6=>?_);refine aC ?_;refine tB ?_;refine Yn ?_;refine aA (Hq bf (Jd b t key h) 0 3 hB rfl rfl (hm:=hbf)) rfl ?_;refine aD ?_;refine K0q ?_;(refine aK (aQ.pre (λ w h=>(show SF _ _ [_,(b,cX a),(a.u,a.po)] _ ([bx x3 [pt bf],bx x5 [iv ((lv:Nat):Int)]]:Fr) _ w from(h.bP (.tail .head)).bP (.tail .head))) (jN (A0:=[bx x3 [pt bf],bx x5 [iv ((lv:Nat):Int)]]++A) (B:=[bx x3 [pt bf],bx x5 [iv ((lv:Nat):Int)]]++B) (hA:=bL.Iu) (λ w1 hw=>uy (f:=143) (cap:=⟨[],[pt x3,pt x5]⟩) hi ok hm (λ f hf=>List.mem_append_right _ (hA f hf)) hw))) (λ x13=>?_);try (refine eF (λ h13=>?_)));refine aM (cK λ _=>aE rf bU rf (aW _) cW rf dV) (λ _=>?_);refine aC ?_;refine bJ results103 (λ w hw=>?_);exact⟨(x13.1,x13.2.1++[bx x3 [pt bf],bx x5 [iv ((lv:Nat):Int)]],x13.2.2),rfl,⟨trivial,h13.2.1,h13.2.2.more λ f hf=>List.mem_append_left _ hf⟩,hw.rI⟩
noncomputable def Ni (t:nV) (h:Nat) (key:ByteArray) (n:Nat) (level:Int) (mr:Int):Tr:=.node mr λ m =>
  if m.kind=5 then(if m.key=key then .done (dW true m.val) else .done (dW false 0))
  else if m.kind=6 then .done (dW (cU m.ys key).isSome ((cU m.ys key).getD 0))
  else match lY m (En h level) with
   | none=>.done (dW false 0)
   | some b=>.node b λ s=>if s.kind=4 then(if s.key=key then .done (dW true s.val) else .done (dW false 0)) else uW t h key .done n b (level+1)
theorem sV{o:Option Int}(h:o.isSome=true):o=some (o.getD 0):=by cases o with|none=>cases h|some a=>rfl
theorem aBc{s:Mm}{c:Cd}{B:Fr}{p:Prop} [Decidable p] {x y:Rs}(e:c=eS (if p then x else y)):dZ b (if p then .done x else .done y) s c s B:=by
 split;·rename_i hp;rw[if_pos hp] at e;exact⟨rfl,e⟩
 ·rename_i hp;rw[if_neg hp] at e;exact⟨rfl,e⟩
section
variable{s:Mm}{m l:Int}{n:Nat}{u:Nv}
theorem aFX(hm:m<=s.nodes.length)(e:aB s.nodes m=u)(k:u.kind=5):dZ b (Ni t h key n l m) s (eS (if u.key=key then dW true u.val else dW false 0)) s B:=by subst e;refine⟨hm,?_⟩;show dZ b (if(aB s.nodes m).kind=5 then _ else _) s _ s B;rw[if_pos k];exact aBc rfl
theorem aE9(hm:m<=s.nodes.length)(e:aB s.nodes m=u)(k:u.kind=6):dZ b (Ni t h key n l m) s (eS (dW (cU u.ys key).isSome ((cU u.ys key).getD 0))) s B:=by subst e;refine⟨hm,?_⟩;show dZ b (if(aB s.nodes m).kind=5 then _ else if(aB s.nodes m).kind=6 then _ else _) s _ s B;rw[if_neg (by omega),if_pos k];exact⟨rfl,rfl⟩
theorem aEM(hm:m<=s.nodes.length)(e:aB s.nodes m=u)(k5:u.kind≠5)(k6:u.kind≠6)(hk:lY u (En h l)=none):dZ b (Ni t h key n l m) s (eS (dW false 0)) s B:=by subst e;refine⟨hm,?_⟩;show dZ b (if(aB s.nodes m).kind=5 then _ else if(aB s.nodes m).kind=6 then _ else _) s _ s B;rw[if_neg k5,if_neg k6,hk];exact⟨rfl,rfl⟩
theorem aFh(hm:m<=s.nodes.length)(e:aB s.nodes m=u)(k:u.kind=6)(hf:(cU u.ys key).isSome=true):dZ b (Ni t h key n l m) s (eS (dW true ((cU u.ys key).getD 0))) s B:=by have:=aE9 (b:=b) (B:=B) (t:=t) (h:=h) (key:=key) (l:=l) (n:=n) hm e k;rw[hf] at this;exact this
theorem aFb(hm:m<=s.nodes.length)(e:aB s.nodes m=u)(k:u.kind=6)(hf:cU u.ys key=none):dZ b (Ni t h key n l m) s (eS (dW false 0)) s B:=by have:=aE9 (b:=b) (B:=B) (t:=t) (h:=h) (key:=key) (l:=l) (n:=n) hm e k;rw[hf] at this;exact this
theorem aD0(hm:m<=s.nodes.length)(e:aB s.nodes m=u)(k3:¬u.kind=3)(k5:¬u.kind=5)(k6:¬u.kind=6):dZ b (Ni t h key n l m) s (eS (dW false 0)) s B :=aEM hm e k5 k6 (by cases hk:lY u (En h l) with|none=>rfl|some q=>exact absurd (q6 hk) k3)
theorem aEg(hm:m<=s.nodes.length)(e:aB s.nodes m=u)(k3:u.kind=3){c:Cd}{s2:Mm}{q:Int}(hk:lY u (En h l)=some q)(hq:q<=s.nodes.length)(hc:dZ b (if(aB s.nodes q).kind=4 then(if(aB s.nodes q).key=key then .done (dW true (aB s.nodes q).val) else .done (dW false 0)) else uW t h key .done n q (l+1)) s c s2 B):dZ b (Ni t h key n l m) s c s2 B:=by subst e;refine⟨hm,?_⟩;show dZ b (if(aB s.nodes m).kind=5 then _ else if(aB s.nodes m).kind=6 then _ else _) s _ s2 B;rw[if_neg (by omega),if_neg (by omega),hk];exact⟨hq,hc⟩
end
set_option maxHeartbeats 1000000 in
theorem zt{n lv:Nat}{m:Int}{s:Mm}{xf xl:Nat}(ih:S2 b bf h t key n)(hl:lv+1+n<=4294967296)(hh:h<18446744073709551616)(hbf:bx bf (Jd b t key h)∈B)(hmm:m<=s.nodes.length):jK b 143 [pt xf,pt xl] [.int .i64 m] (bx xf [pt bf]::bx xl [iv ((lv:Nat):Int)]::B) s (Ni t h key n ((lv:Nat):Int) m):=by
 intro a D A w em ok hm0 hA hB hw0;subst em;refine K1c ?_;intro hm;have hfm:bx bf (Jd b t key h)∈bx xf [pt bf]::bx xl [iv ((lv:Nat):Int)]::B:=List.mem_cons_of_mem _ (List.mem_cons_of_mem _ hbf);have nm:=uB ok m;refine enter func143 ntmps143 rfl rfl hw0 ?_;simp only[bY]
 refine K1h ?_;intro x4;refine Kb0 ?_;refine K1n ?_;refine Yn ?_;refine aF ?_;refine aA (iA bf (Jd b t key h) 0 hB rfl (hm:=hfm)) rfl ?_;refine aD ?_;refine aJ (uZ m ok hm hA hmm) (λ x17 h17=>?_);refine aI (λ x5=>?_);refine J5 ?_;refine I9 ?_;refine Kb2 ?_;refine iC ?_;refine aX (λ c20=>?_) (λ c20=>?_)
 ·try (first|contradiction|(exfalso;omega))
  refine aU ?_;refine eQ [(0,[]),(1,[]),(2,[]),(3,[]),(4,[]),(5,[]),(6,[0]),(7,[]),(8,[]),(9,[]),(10,[]),(11,[]),(12,[])] ?_;refine cJ ?_;refine bI (i:=1) (hq:=(iA xf [pt bf] 0 hB rfl)) (h:=?_);refine J4 ?_;refine bI (i:=4) (hq:=(iA bf (Jd b t key h) 4 hB rfl (hm:=hfm))) (h:=?_);refine bI (i:=5) (hq:=(iA xl [iv ((lv:Nat):Int)] 0 hB rfl)) (h:=?_);refine cB (i:=6) (hq:=(cV (hc:=λ w1 hw=>H2 hh ((lv:Nat):Int) w1))) (h:=λ x29=>?_);refine cB (i:=7) (hq:=(cV (hc:=λ w1 hw=>o7 (v:=(aV (bM a.L) m).at_ x17.1 x17.2) nm (En h ((lv:Nat):Int)) ((dJ.Vl (rF ok.fit.all m) _ _).Fp (hw.cl (.own (.tail .head))) (hw.cl (.own .head)))))) (h:=λ x30=>?_);refine K0x ?_;refine mg ?_;refine jF ?_;refine pG ?_;refine aX (λ c34=>?_) (λ c34=>?_)
  ·try (first|contradiction|(exfalso;omega))
   refine J0 ?_;refine aK (cV (hc:=λ w1 hw=>wL w1)) (λ x35=>?_);refine aM (cK λ _=>aE rf bU rf (aW _) cW rf dV) (λ _=>?_);refine K1v ?_;intro w hw;exact⟨(eS (dW false 0),[],a),rfl,⟨aEM hmm (dD m) (by have e:(aV (bM a.L) m).c.kind=3:=c20;show(aV (bM a.L) m).c.kind≠5;omega) (by have e:(aV (bM a.L) m).c.kind=3:=c20;show(aV (bM a.L) m).c.kind≠6;omega) (show lY ((aV (bM a.L) m).at_ x17.1 x17.2).c (En h ((lv:Nat):Int))=none by simpa using c34),ok,AS.eC.refl a⟩,hw.rI⟩
  ·try (first|contradiction|(exfalso;omega))
   refine mD ?_;refine J0 ?_;refine K1n ?_;refine Yn ?_;refine aF ?_;refine aA (iA bf (Jd b t key h) 0 hB rfl (hm:=hfm)) rfl ?_;refine aD ?_;refine aJ (uZ (((lY ((aV (bM a.L) m).at_ x17.1 x17.2).c (En h ((lv:Nat):Int))).getD 0)) ok hm hA (Hu (v:=(aV (bM a.L) m).at_ x17.1 x17.2) nm (En h ((lv:Nat):Int)))) (λ x42 h42=>?_);refine aI (λ x8=>?_);refine J5 ?_;refine gP ?_;refine Fe ?_;refine aX (λ c45=>?_) (λ c45=>?_)
   ·try (first|contradiction|(exfalso;omega))
    refine J0 ?_;refine K1n ?_;refine bW ?_;refine aK (cV (hc:=λ w1 hw=>Zg (v:=(aV (bM a.L) ((lY ((aV (bM a.L) m).at_ x17.1 x17.2).c (En h ((lv:Nat):Int))).getD 0)).at_ x42.1 x42.2) (hw.cl (.old (lQ.dS (hB _ hfm)))))) (λ x48=>?_);refine aM (cK λ _=>aE rf bU rf (aW _) cW rf dV) (λ _=>?_);refine K1v ?_;intro w hw;refine⟨(eS _,[],a),rfl,⟨aEg hmm (dD m) (show(aV (bM a.L) m).c.kind=3 from c20) (q:=(lY ((aV (bM a.L) m).at_ x17.1 x17.2).c (En h ((lv:Nat):Int))).getD 0) (sV (o:=lY ((aV (bM a.L) m).at_ x17.1 x17.2).c (En h ((lv:Nat):Int))) (by simpa using c34)) (Hu (v:=(aV (bM a.L) m).at_ x17.1 x17.2) nm (En h ((lv:Nat):Int))) ?_,ok,AS.eC.refl a⟩,hw.rI⟩;rw[dD,if_pos (by exact c45)];exact aBc rfl
   ·try (first|contradiction|(exfalso;omega))
    refine Kb5 ?_;refine K1n ?_;refine aD ?_;refine aA (iA xl [iv ((lv:Nat):Int)] 0 hB rfl) rfl ?_;refine sZ ?_;refine aJ (jN (λ w1 hw=>ih a _ A _ _ (lv+1) w1 hl hfm (Hu (v:=(aV (bM a.L) m).at_ x17.1 x17.2) nm (En h ((lv:Nat):Int))) ok hm hA hB hw)) (λ x53 h53=>?_);refine aM (cK λ _=>aE rf bU rf (aW _) cW rf dV) (λ _=>?_);refine K1v ?_;intro w hw;refine⟨x53,rfl,⟨aEg hmm (dD m) (show(aV (bM a.L) m).c.kind=3 from c20) (q:=(lY ((aV (bM a.L) m).at_ x17.1 x17.2).c (En h ((lv:Nat):Int))).getD 0) (sV (o:=lY ((aV (bM a.L) m).at_ x17.1 x17.2).c (En h ((lv:Nat):Int))) (by simpa using c34)) (Hu (v:=(aV (bM a.L) m).at_ x17.1 x17.2) nm (En h ((lv:Nat):Int))) ?_,h53.2⟩,hw.rN⟩;rw[dD,if_neg (by exact c45)];exact h53.1
 ·try (first|contradiction|(exfalso;omega))
  refine iC ?_;refine aX (λ c54=>?_) (λ c54=>?_)
  ·try (first|contradiction|(exfalso;omega))
   refine J0 ?_;refine K1n ?_;refine bW ?_;refine aK (cV (hc:=λ w1 hw=>Zg (v:=(aV (bM a.L) m).at_ x17.1 x17.2) (hw.cl (.old (lQ.dS (hB _ hfm)))))) (λ x58=>?_);refine aM (cK λ _=>aE rf bU rf (aW _) cW rf dV) (λ _=>?_);refine K1v ?_;intro w hw;exact⟨(eS _,[],a),rfl,⟨aFX hmm (dD m) (show(aV (bM a.L) m).c.kind=5 from c54),ok,AS.eC.refl a⟩,hw.rI⟩
  ·try (first|contradiction|(exfalso;omega))
   refine iC ?_;refine aX (λ c59=>?_) (λ c59=>?_)
   ·try (first|contradiction|(exfalso;omega))
    refine aU ?_;refine gL [0,1,2,3,4,5,6,7,8,9,10,11] ?_;refine iX ?_;refine bI (i:=2) (hq:=(iA xf [pt bf] 0 hB rfl)) (h:=?_);refine J4 ?_;refine bI (i:=5) (hq:=(iA bf (Jd b t key h) 3 hB rfl (hm:=hfm))) (h:=?_);refine cB (i:=6) (hq:=(cV (v:=.tuple #[.int .u64 ((cU (aV (bM a.L) m).ys key).getD 0),.bool (cU (aV (bM a.L) m).ys key).isSome]) (hc:=λ w1 hw=>Zz (v:=aV (bM a.L) m) (rF ok.fit.all m) (hw.cl (.own .head))))) (h:=λ x68=>?_);refine K0x ?_;refine mg ?_;refine J2 ?_;refine aC ?_;refine aX (λ c71=>?_) (λ c71=>?_)
    ·try (first|contradiction|(exfalso;omega))
     refine J2 ?_;refine aK (cV (hc:=λ w1 hw=>I5 _ w1)) (λ x73=>?_);refine aM (cK λ _=>aE rf bU rf (aW _) cW rf dV) (λ _=>?_);refine K1v ?_;intro w hw;exact⟨(eS _,[],a),rfl,⟨aFh hmm (dD m) (show(aV (bM a.L) m).c.kind=6 from c59) (show(cU (aV (bM a.L) m).ys key).isSome=true by simpa using c71),ok,AS.eC.refl a⟩,hw.rI⟩
    ·try (first|contradiction|(exfalso;omega))
     refine lI ?_;refine J0 ?_;refine aK (cV (hc:=λ w1 hw=>wL w1)) (λ x74=>?_);refine aM (cK λ _=>aE rf bU rf (aW _) cW rf dV) (λ _=>?_);refine K1v ?_;intro w hw;exact⟨(eS (dW false 0),[],a),rfl,⟨aFb hmm (dD m) (show(aV (bM a.L) m).c.kind=6 from c59) (show cU (aV (bM a.L) m).ys key=none by simpa using c71),ok,AS.eC.refl a⟩,hw.rI⟩
   ·try (first|contradiction|(exfalso;omega))
    refine lI ?_;refine J0 ?_;refine aK (cV (hc:=λ w1 hw=>wL w1)) (λ x74=>?_);refine aM (cK λ _=>aE rf bU rf (aW _) cW rf dV) (λ _=>?_);refine K1v ?_;intro w hw;exact⟨(eS (dW false 0),[],a),rfl,⟨aD0 hmm (dD m) c20 c54 c59,ok,AS.eC.refl a⟩,hw.rI⟩
theorem aAK{n:Nat}(ht:t.root<=9223372036854775807)(hh:h<18446744073709551616)(ih:S2 b bf h t key n):S2 b bf h t key (n+1):=by
 intro a D A B i lv w hl hbf hi ok hm hA hB hs;have hT:∀x3 x5:Nat,tQ b (Ni t h key n ((lv:Nat):Int)) a.mm 143 [pt x3,pt x5] ([bx x3 [pt bf],bx x5 [iv ((lv:Nat):Int)]]++B):=λ x3 x5=>⟨by kernel_rfl,λ m s1 l hmm _=>zt ih (by omega) hh hbf hmm⟩;refine enter func103 ntmps103 rfl rfl hs ?_;simp only[bY]
 refine K1m ?_;intro x3;refine bC (λ x5=>?_);refine aI (λ x6=>?_);refine aC ?_;refine tB ?_;refine Yn ?_;refine aA (Hq bf (Jd b t key h) 0 3 hB rfl rfl (hm:=hbf)) rfl ?_;refine aD ?_;refine K0q ?_;(refine aK (aQ.pre (λ w h=>(show SF _ _ [_,(b,cX a),(a.u,a.po)] _ ([bx x3 [pt bf],bx x5 [iv ((lv:Nat):Int)]]:Fr) _ w from(h.bP (.tail .head)).bP (.tail .head))) (jN (A0:=[bx x3 [pt bf],bx x5 [iv ((lv:Nat):Int)]]++A) (B:=[bx x3 [pt bf],bx x5 [iv ((lv:Nat):Int)]]++B) (hA:=bL.Iu) (λ w1 hw=>Ay ht (hT x3 x5) hi ok hm (λ f hf=>List.mem_append_right _ (hA f hf)) (rW hB) hw))) (λ x13=>?_);try (refine eF (λ h13=>?_)));refine aM (cK λ _=>aE rf bU rf (aW _) cW rf dV) (λ _=>?_);refine aC ?_;refine bJ results103 (λ w hw=>?_);refine⟨(x13.1,x13.2.1++[bx x3 [pt bf],bx x5 [iv ((lv:Nat):Int)]],x13.2.2),rfl,⟨?_,h13.2.1,h13.2.2.more λ f hf=>List.mem_append_left _ hf⟩,hw.rI⟩;have h13':=h13.1;rw[<- List.append_assoc] at h13';exact h13'
theorem ml(ht:t.root<=9223372036854775807)(hh:h<18446744073709551616):∀n,S2 b bf h t key n
 | 0=>aA3
 | n+1=>aAK ht hh (ml ht hh n)
end
end
section
section
variable{S:List (Nat×Value)}{w0 w:World}{M:List Nat}{H:List (Nat×Obj)}{A F:Fr}{O:List Ow}{ty:TypeId}{pos:String}{af:Array Edge}{gd:Option (Nat×Bool)}{X:Type}{V:X->Value}
theorem Pq{φ:X->Prop}{hs H':List (Nat×Obj)}{os O':List Ow}{hs' Hc H1:X->List (Nat×Obj)}{os' Oc O1:X->List Ow}{Fc F1:X->Fr}{A0:Fr}{is js:List Nat}{f:FuncId}{xs:List Operand}{at_:Array TypeId}{vs:List Value}{dst:Option Nat}
  (ha:lX S xs=vs:=by(repeat (first|exact bK _|(apply aZ;focus ((conv=>{lhs;whnf});try exact rfl))));first|done|fail) (hp:plain prog f=true:=by kernel_rfl)
  (hc:∀w,SF w (Ks hs os) hs A0 [] os w->Calls prog f ⟨vs⟩ w λ e w'=>∃x,e=.returned (V x)/\φ x/\SF w (Ks hs os) (hs' x++Hc x) [] (Fc x) (os' x++Oc x) w')
  (hH:mT H is hs H':=by(repeat (first|exact mT.nil|(apply mT.cons;(focus ((repeat (first|exact By.head|apply By.tail));done));simp only[qK])));first|done|fail)
  (hO:mT O js os O':=by(repeat (first|exact mT.nil|(apply mT.cons;(focus ((repeat (first|exact By.head|apply By.tail));done));simp only[qK])));first|done|fail)
  (hA:bL A F O' A0:=by(repeat (first|exact bL.of (λ _ h=>Or.inr (Or.inl h))|exact bL.nil|(refine bL.cons (by first|exact Or.inl rfl|exact Or.inr (Or.inr (Or.inl (by simp)))|exact Or.inr (Or.inl (by simp))|exact Or.inr (Or.inr (Or.inr (by simp)))) ?_)));first|done|fail)
  (hl1:∀x,is.length=(hs' x).length:=by intro x;exact rfl) (hl2:∀x,js.length=(os' x).length:=by intro x;exact rfl)
  (hH1:∀x,Hc x++jP is (hs' x) H'=H1 x:=by intro x;first|(simp only[jP,sL,List.nil_append,List.cons_append];exact rfl)|exact rfl) (hF1:∀x,Fc x++F=F1 x:=by intro x;first|(simp only[List.nil_append,List.cons_append];exact rfl)|exact rfl) (hO1:∀x,Oc x++jP js (os' x) O'=O1 x:=by intro x;simp only[jP,sL,mW,List.nil_append,List.cons_append];exact rfl) :
  aQ prog S (SF w0 M H A F O) ⟨dst,.call {callee:=.value (.func f),args:=⟨xs⟩,argTypes:=at_},ty,pos,af,gd⟩ X V (λ x w=>φ x/\SF w0 M (H1 x) A (F1 x) (O1 x) w) :=
 gD (lZ hp ha) λ w hw=>(hc w (hw.qT hH hO hA)).mono λ _ _ ⟨x,he,hx,hs⟩=>⟨x,he,hx,by have:=hw.A8 (hs':=hs' x) (Hc:=Hc x) (os':=os' x) (Oc:=Oc x) hH hO hs (hl1 x) (hl2 x);rw[<- hH1 x,<- hF1 x,<- hO1 x];exact this⟩
end
end
section
theorem pF.dg{b:Nat}{p:Tr×Mm}{a:AS}{B B1 F:Fr}{c:Cd}{a':AS}(h:pF b p a (B1++B) (c,F,a')):pF b p a B (c,F++B1,a'):=by obtain⟨⟨h1,h2⟩,h3,h4⟩:=h;refine⟨⟨?_,h2⟩,h3,h4.more λ f hf=>List.mem_append_left _ hf⟩;simp only at h1 ⊢;rw[List.append_assoc];exact h1
section
variable{D:List Nat}{A B:Fr}{a:AS}{b:Nat}{w:World}{f:FuncId}{cap:List Value}{t:nV}
theorem C0{t:Tr}{cap:List Value}(hns:Ns t a.mm)(h:X3 b t a.mm f cap B)(ok:a.Ok)(hm:a.mm.gM)(hA:∀f∈cH a.L,f∈A)(hB:∀x∈B,x∈A)(hs:SF w D [(b,cX a),(a.u,a.po)] A [] (hU a) w) :
  Calls prog 67 #[.iface 51 (.pointer (some ⟨b,0,none⟩)),.func (.func f) #[] ⟨cap⟩] w λ e w'=>∃x:Nat×Cd×Fr×AS,e=.returned (.pointer (some ⟨x.1,0,none⟩))/\(pF b (Ct.iR t a.mm) a B x.2/\fB (Ct.iR t a.mm).1=true)/\SF w D ([(b,cX x.2.2.2),(x.2.2.2.u,x.2.2.2.po)]++[(x.1,tO b x.2.1 0)]) [] x.2.2.1 (hU x.2.2.2++[]) w' :=
 (oe hns h ok hm hA hB hs).mono λ _ _ ⟨x,e,h,hw⟩=>⟨x,e,h,by rw[List.append_nil];exact hw.perm (List.perm_append_comm (l₁:=[(b,cX x.2.2.2),(x.2.2.2.u,x.2.2.2.po)]) (l₂:=[(x.1,tO b x.2.1 0)])) (List.Perm.refl _)⟩
end
end
section
abbrev erR:Rs:={Rs.zero with err:=1}
noncomputable def iz (t:nV) (h:Nat) (key:ByteArray) (n:Nat):Tr:=if key.size<=64 then xO t (λ i=>uW t h key .done n i 0) else .done erR
section
variable{D:List Nat}{A B:Fr}{a:AS}{b:Nat}{w:World}{f:FuncId}{cap:xK}{t:nV}{bf h:Nat}{key:ByteArray}
theorem y4(x y z:Option Addr×List Value):∀u∈x::z::([y]++B),u∈[x,y,z]++B:=λ u hu=>by simp only[List.mem_cons,List.mem_append,List.not_mem_nil,or_false] at hu ⊢;rcases hu with h|h|h|h<;>simp[h]
theorem aBV{n xf:Nat}{s:Mm}{r:Int}(hd:S2 b bf h t key n)(hn:n<=4294967296)(hr:r<=s.nodes.length)(hbf:bx bf (Jd b t key h)∈B):jK b 102 [pt xf] [.int .i64 r] (bx xf [pt bf]::B) s (uW t h key .done n r 0):=by intro a D A w em ok hm0 hA hB hw0;subst em;refine K1c ?_;intro hm;refine enter func102 ntmps102 rfl rfl hw0 ?_;simp only[bY];refine J0 ?_;refine aI (λ x3=>?_);refine Kb0 ?_;refine K1n ?_;refine aD ?_;refine aJ (jN (λ w1 hw=>hd a _ A _ r 0 w1 (by omega) (List.mem_cons_of_mem _ hbf) hr ok hm hA hB hw)) (λ x6 h6=>?_);refine aM (cK λ _=>aE rf bU rf (aW _) cW rf dV) (λ _=>?_);refine aC ?_;refine bJ results102 (λ w hw=>?_);exact⟨x6,rfl,h6,hw.rN⟩
theorem aDL{n xk xf:Nat}{s:Mm}(ht:t.root<=9223372036854775807)(hd:S2 b bf h t key n)(hn:n<=4294967296)(hbf:bx bf (Jd b t key h)∈B):jK b 100 [pt xk,pt xf] [] (bx xk [.string key]::bx xf [pt bf]::B) s (iz t h key n):=by
 intro a D A w em ok hm0 hA hB hw0;subst em;refine K1c ?_;intro hm;have hfm:bx bf (Jd b t key h)∈bx xk [.string key]::bx xf [pt bf]::B:=List.mem_cons_of_mem _ (List.mem_cons_of_mem _ hbf);have hT:tQ b (λ i=>uW t h key .done n i 0) a.mm 102 [pt xf] (bx xk [.string key]::bx xf [pt bf]::B):=⟨by kernel_rfl,λ r s1 l hr _=>(aBV hd hn hr hbf).mr λ y hy=>List.mem_cons_of_mem _ hy⟩;refine enter func100 ntmps100 rfl rfl hw0 ?_;simp only[bY]
 refine J0 ?_;refine aI (λ x2=>?_);refine Bz ?_;refine J0 ?_;refine aA (iA xk [.string key] 0 hB rfl) rfl ?_;refine aK (cV (hc:=λ w1 hw=>wB key w1)) (λ x4=>?_);refine pG ?_;refine aX (λ c5=>?_) (λ c5=>?_);·refine J0 ?_;refine bX ?_;refine aK (cV (hc:=λ w1 hw=>rP erR w1)) (λ x7=>?_);refine aM (cK λ _=>aE rf bU rf (aW _) cW rf dV) (λ _=>?_);refine aC ?_;refine bJ results100 (λ w hw=>?_);refine⟨(eS erR,[],a),rfl,⟨?_,ok,AS.eC.refl a⟩,hw.rI⟩;dsimp only;unfold iz;rw[if_neg (by simpa using c5)];exact⟨rfl,rfl⟩
 ·refine Kb5 ?_;refine K1n ?_;refine Yn ?_;refine aA (Hq bf (Jd b t key h) 0 3 hB rfl rfl (hm:=hfm)) rfl ?_;refine K0q ?_;refine aJ (jN (λ w1 hw=>Mn ht hT ok hm hA hB hw)) (λ x13 h13=>?_);refine aM (cK λ _=>aE rf bU rf (aW _) cW rf dV) (λ _=>?_);refine aC ?_;refine bJ results100 (λ w hw=>?_);refine⟨x13,rfl,⟨?_,h13.2⟩,hw.rN⟩;unfold iz;rw[if_pos (by simpa using c5)];exact h13.1
end
end
end Go.Proofs.YthblobahelfefaaGreatDoor

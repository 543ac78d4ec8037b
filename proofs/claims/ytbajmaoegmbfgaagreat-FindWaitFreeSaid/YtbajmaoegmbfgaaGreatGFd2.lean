/- find: the lookup goes down. -/
import Derived.Test.YtbajmaoegmbfgaaGreatGGc5
import Derived.Test.YtbajmaoegmbfgaaGreatGEx9
import Derived.Test.YtbajmaoegmbfgaaGreatGRt1
import Derived.Test.YtbajmaoegmbfgaaGreatGKw5
import Derived.Test.YtbajmaoegmbfgaaGreatGMs1

set_option linter.unusedSimpArgs false
set_option linter.unusedVariables false
namespace Go.Proofs.YtbajmaoegmbfgaaGreat
section
open Go Go.RowKit Go.Ct
section
variable{D:List Nat}{A B:Fr}{a:AS}{b:Nat}{w:World}{f:FuncId}{cap:List Value}{t:fL}
theorem m9{i:Int}(hi:i<=a.mm.nodes.length)(ok:a.Ok)(hm:a.mm.Small)(hA:∀f∈aM a.L,f∈A)(hs:SF w D [(b,eX a)] A [] (fU a) w) :
  Calls Tryz.prog 88 #[.agg ⟨lT b t⟩,.int .i64 i,fn f cap] w (zK b (λ _ _ _=>True) a B D w):=by
 refine enter Tryz.func88 Tryz.ntmps88 rfl rfl hs ?_
 simp only[bY]
 refine J0 ?_;refine bO (λ x3=>?_);refine bO (λ x4=>?_);refine bO (λ x5=>?_);refine aI (λ x6=>?_);refine aH ?_;refine gZ ?_;refine bR ?_;refine aC (B9 i ok hm hA hi) (λ x10 h10=>?_);refine cY ?_;(refine aB (cA (by(repeat (first|exact cD _|(apply bU;focus ((conv=>{lhs;whnf});try exact rfl))));done)) rfl ?_);refine aR (cV (hc:=λ w1 hw=>nG _ _ _ w1)) (λ x13=>?_);refine bS (fS λ _=>aS rf cL rf (bX _) dJ rf hJ) (λ _=>?_);refine aH ?_
 refine bD Tryz.results88 (λ w hw=>?_)
 exact⟨(mY (aD (cB a.L) i).nd.main _ _,[bx x3 (lT b t),bx x4 [iv i],bx x5 [fn f cap]],a),rfl,⟨trivial,ok,(AS.hU.refl a).more (λ _ h=>(List.not_mem_nil h).elim)⟩,(((hw.cW (.tail .head)).cW (.tail .head)).cW (.tail .head)).rI⟩
variable{bf h:Nat}{key:ByteArray}
def Mj(b bf h:Nat)(t:fL)(key:ByteArray)(n:Nat):Prop:=∀(a:AS) (D:List Nat) (A B:Fr) (i:Int) (lv:Nat) (w:World),lv+n<=4294967296->bx bf (Im b t key h)∈B->i<=a.mm.nodes.length->a.Ok->a.mm.Small->(∀f∈aM a.L,f∈A)->(∀x∈B,x∈A)->SF w D [(b,eX a)] A [] (fU a) w ->
  Calls Tryz.prog 108 #[pt bf,.int .i64 i,.int .i64 ((lv:Nat):Int)] w (zK b (λ c' s' B'=>jB b (qF t h key .done n i ((lv:Nat):Int)) a.mm c' s' B') a B D w)
theorem oy:Mj b bf h t key 0:=by
 intro a D A B i lv w hl hbf hi ok hm hA hB hs
 refine enter Tryz.func108 Tryz.ntmps108 rfl rfl hs ?_
 simp only[bY]
 refine J0 ?_;refine bO (λ x3=>?_);refine bO (λ x5=>?_);refine aI (λ x6=>?_);refine aH ?_;refine pK ?_;refine F5 ?_;refine aB (Rf bf (Im b t key h) 0 3 hB rfl rfl (hm:=hbf)) rfl ?_;refine aA ?_;(refine aB (cA (by(repeat (first|exact cD _|(apply bU;focus ((conv=>{lhs;whnf});try exact rfl))));done)) rfl ?_);(refine aR (bF.pre (λ w h=>(show SF _ _ [_,(b,eX a)] _ ([bx x3 [pt bf],bx x5 [iv ((lv:Nat):Int)]]:Fr) _ w from(h.cW (.tail .head)).cW (.tail .head))) (zI (A0:=[bx x3 [pt bf],bx x5 [iv ((lv:Nat):Int)]]++A) (B:=[bx x3 [pt bf],bx x5 [iv ((lv:Nat):Int)]]++B) (hA:=aX.S9) (λ w1 hw=>m9 hi ok hm (λ f hf=>List.mem_append_right _ (hA f hf)) hw))) (λ x13=>?_);try (refine eZ (λ h13=>?_)));refine bS (fS λ _=>aS rf cL rf (bX _) dJ rf hJ) (λ _=>?_);refine aH ?_
 refine bD Tryz.results108 (λ w hw=>?_)
 exact⟨(x13.1,x13.2.1++[bx x3 [pt bf],bx x5 [iv ((lv:Nat):Int)]],x13.2.2),rfl,⟨trivial,h13.2.1,h13.2.2.more λ f hf=>List.mem_append_left _ hf⟩,hw.rI⟩
noncomputable def oU (t:fL) (h:Nat) (key:ByteArray) (n:Nat) (level:Int) (mr:Int):Tr:=.node mr λ m =>
  if m.kind=5 then(if m.key=key then .done (dO true m.val) else .done (dO false 0))
  else if m.kind=6 then .done (dO (cO m.ys key).isSome ((cO m.ys key).getD 0))
  else match iU m (eO h level) with
   | none=>.done (dO false 0)
   | some b=>.node b λ s=>if s.kind=4 then(if s.key=key then .done (dO true s.val) else .done (dO false 0)) else qF t h key .done n b (level+1)
theorem Vg{o:Option Int}(h:o.isSome=true):o=some (o.getD 0):=by cases o with|none=>cases h|some a=>rfl
theorem wh{s:Mm}{c:Cd}{B:Fr}{p:Prop} [Decidable p] {x y:Rs}(e:c=gQ (if p then x else y)):jB b (if p then .done x else .done y) s c s B:=by
 split
 ·rename_i hp;rw[if_pos hp] at e;exact⟨rfl,e⟩
 ·rename_i hp;rw[if_neg hp] at e;exact⟨rfl,e⟩
section
variable{s:Mm}{m l:Int}{n:Nat}{u:Nv}
theorem aCb(hm:m<=s.nodes.length)(e:eA s.nodes m=u)(k:u.kind=5):jB b (oU t h key n l m) s (gQ (if u.key=key then dO true u.val else dO false 0)) s B:=by
 subst e
 refine⟨hm,?_⟩
 show jB b (if(eA s.nodes m).kind=5 then _ else _) s _ s B
 rw[if_pos k]
 exact wh rfl
theorem aA0(hm:m<=s.nodes.length)(e:eA s.nodes m=u)(k:u.kind=6):jB b (oU t h key n l m) s (gQ (dO (cO u.ys key).isSome ((cO u.ys key).getD 0))) s B:=by
 subst e
 refine⟨hm,?_⟩
 show jB b (if(eA s.nodes m).kind=5 then _ else if(eA s.nodes m).kind=6 then _ else _) s _ s B
 rw[if_neg (by omega),if_pos k]
 exact⟨rfl,rfl⟩
theorem aBW(hm:m<=s.nodes.length)(e:eA s.nodes m=u)(k5:u.kind≠5)(k6:u.kind≠6)(hk:iU u (eO h l)=none):jB b (oU t h key n l m) s (gQ (dO false 0)) s B:=by
 subst e
 refine⟨hm,?_⟩
 show jB b (if(eA s.nodes m).kind=5 then _ else if(eA s.nodes m).kind=6 then _ else _) s _ s B
 rw[if_neg k5,if_neg k6,hk]
 exact⟨rfl,rfl⟩
theorem aB2(hm:m<=s.nodes.length)(e:eA s.nodes m=u)(k:u.kind=6)(hf:(cO u.ys key).isSome=true):jB b (oU t h key n l m) s (gQ (dO true ((cO u.ys key).getD 0))) s B:=by
 have:=aA0 (b:=b) (B:=B) (t:=t) (h:=h) (key:=key) (l:=l) (n:=n) hm e k
 rw[hf] at this
 exact this
theorem aAO(hm:m<=s.nodes.length)(e:eA s.nodes m=u)(k:u.kind=6)(hf:cO u.ys key=none):jB b (oU t h key n l m) s (gQ (dO false 0)) s B:=by
 have:=aA0 (b:=b) (B:=B) (t:=t) (h:=h) (key:=key) (l:=l) (n:=n) hm e k
 rw[hf] at this
 exact this
theorem aBi(hm:m<=s.nodes.length)(e:eA s.nodes m=u)(k3:¬u.kind=3)(k5:¬u.kind=5)(k6:¬u.kind=6):jB b (oU t h key n l m) s (gQ (dO false 0)) s B :=
 aBW hm e k5 k6 (by cases hk:iU u (eO h l) with|none=>rfl|some q=>exact absurd (wB hk) k3)
theorem aBg(hm:m<=s.nodes.length)(e:eA s.nodes m=u)(k3:u.kind=3){c:Cd}{s2:Mm}{q:Int}(hk:iU u (eO h l)=some q)(hq:q<=s.nodes.length)(hc:jB b (if(eA s.nodes q).kind=4 then(if(eA s.nodes q).key=key then .done (dO true (eA s.nodes q).val) else .done (dO false 0)) else qF t h key .done n q (l+1)) s c s2 B):jB b (oU t h key n l m) s c s2 B:=by
 subst e
 refine⟨hm,?_⟩
 show jB b (if(eA s.nodes m).kind=5 then _ else if(eA s.nodes m).kind=6 then _ else _) s _ s2 B
 rw[if_neg (by omega),if_neg (by omega),hk]
 exact⟨hq,hc⟩
end
set_option maxHeartbeats 1000000 in
theorem qq{n lv:Nat}{m:Int}{s:Mm}{xf xl:Nat}(ih:Mj b bf h t key n)(hl:lv+1+n<=4294967296)(hh:h<18446744073709551616)(hbf:bx bf (Im b t key h)∈B)(hmm:m<=s.nodes.length):qL b 148 [pt xf,pt xl] [.int .i64 m] (bx xf [pt bf]::bx xl [iv ((lv:Nat):Int)]::B) s (oU t h key n ((lv:Nat):Int) m):=by
 intro a D A w em ok hm hA hB hw0
 subst em
 have hfm:bx bf (Im b t key h)∈bx xf [pt bf]::bx xl [iv ((lv:Nat):Int)]::B:=List.mem_cons_of_mem _ (List.mem_cons_of_mem _ hbf)
 have nm:=Ay ok m
 refine enter Tryz.func148 Tryz.ntmps148 rfl rfl hw0 ?_
 simp only[bY]
 refine J0 ?_;refine aI (λ x4=>?_);refine aH ?_;refine J0 ?_;refine aB (kY xf [pt bf] 0 hB rfl) rfl ?_;refine F5 ?_;refine aE ?_;refine aB (kY bf (Im b t key h) 0 hB rfl (hm:=hfm)) rfl ?_;refine aA ?_;refine aC (B9 m ok hm hA hmm) (λ x17 h17=>?_);refine aI (λ x5=>?_);refine J5 ?_;refine Du ?_;refine aH ?_;refine cI ?_;refine lF ?_
 refine bE (λ c20=>?_) (λ c20=>?_)
 ·try (first|contradiction|(exfalso;omega))
  refine aV ?_;refine dX [(0,[]),(1,[]),(2,[]),(3,[]),(4,[]),(5,[]),(6,[0]),(7,[]),(8,[]),(9,[]),(10,[]),(11,[]),(12,[])] ?_;refine bP ?_;refine bT (i:=1) (hq:=(kY xf [pt bf] 0 hB rfl)) (h:=?_);refine J4 ?_;refine bT (i:=4) (hq:=(kY bf (Im b t key h) 4 hB rfl (hm:=hfm))) (h:=?_);refine bT (i:=5) (hq:=(kY xl [iv ((lv:Nat):Int)] 0 hB rfl)) (h:=?_);refine cN (i:=6) (hq:=(cV (hc:=λ w1 hw=>R8 hh ((lv:Nat):Int) w1))) (h:=λ x29=>?_);refine cN (i:=7) (hq:=(cV (hc:=λ w1 hw=>zp (v:=(aD (cB a.L) m).at_ x17.1 x17.2) nm (eO h ((lv:Nat):Int)) ((aZ.Tx (Bq ok.fit.all m) _ _).rG (hw.cl (.own (.tail .head))) (hw.cl (.own .head)))))) (h:=λ x30=>?_);refine aP ?_;refine xD ?_;refine xD ?_;refine Zh ?_;refine kM ?_;refine oX ?_
  refine bE (λ c34=>?_) (λ c34=>?_)
  ·try (first|contradiction|(exfalso;omega))
   refine J0 ?_;refine aR (cV (hc:=λ w1 hw=>wZ w1)) (λ x35=>?_);refine bS (fS λ _=>aS rf cL rf (bX _) dJ rf hJ) (λ _=>?_);refine aH ?_
   refine bD Tryz.results148 (λ w hw=>?_)
   exact⟨(gQ (dO false 0),[],a),rfl,⟨aBW hmm (fW m) (by have e:(aD (cB a.L) m).c.kind=3:=c20;show(aD (cB a.L) m).c.kind≠5;omega) (by have e:(aD (cB a.L) m).c.kind=3:=c20;show(aD (cB a.L) m).c.kind≠6;omega) (show iU ((aD (cB a.L) m).at_ x17.1 x17.2).c (eO h ((lv:Nat):Int))=none by simpa using c34),ok,AS.hU.refl a⟩,hw.rI⟩
  ·try (first|contradiction|(exfalso;omega))
   refine lA ?_;refine J0 ?_;refine aB (kY xf [pt bf] 0 hB rfl) rfl ?_;refine F5 ?_;refine aE ?_;refine aB (kY bf (Im b t key h) 0 hB rfl (hm:=hfm)) rfl ?_;refine aA ?_;refine aC (B9 (((iU ((aD (cB a.L) m).at_ x17.1 x17.2).c (eO h ((lv:Nat):Int))).getD 0)) ok hm hA (lH (v:=(aD (cB a.L) m).at_ x17.1 x17.2) nm (eO h ((lv:Nat):Int)))) (λ x42 h42=>?_);refine aI (λ x8=>?_);refine J5 ?_;refine gZ ?_;refine uI ?_
   refine bE (λ c45=>?_) (λ c45=>?_)
   ·try (first|contradiction|(exfalso;omega))
    refine J0 ?_;refine aB (kY xf [pt bf] 0 hB rfl) rfl ?_;refine bR ?_;refine aR (cV (hc:=λ w1 hw=>Ug (v:=(aD (cB a.L) ((iU ((aD (cB a.L) m).at_ x17.1 x17.2).c (eO h ((lv:Nat):Int))).getD 0)).at_ x42.1 x42.2) (hw.cl (.bN (yT.oD (hB _ hfm)))))) (λ x48=>?_);refine bS (fS λ _=>aS rf cL rf (bX _) dJ rf hJ) (λ _=>?_);refine aH ?_
    refine bD Tryz.results148 (λ w hw=>?_)
    refine⟨(gQ _,[],a),rfl,⟨aBg hmm (fW m) (show(aD (cB a.L) m).c.kind=3 from c20) (q:=(iU ((aD (cB a.L) m).at_ x17.1 x17.2).c (eO h ((lv:Nat):Int))).getD 0) (Vg (o:=iU ((aD (cB a.L) m).at_ x17.1 x17.2).c (eO h ((lv:Nat):Int))) (by simpa using c34)) (lH (v:=(aD (cB a.L) m).at_ x17.1 x17.2) nm (eO h ((lv:Nat):Int))) ?_,ok,AS.hU.refl a⟩,hw.rI⟩
    rw[fW,if_pos (by exact c45)]
    exact wh rfl
   ·try (first|contradiction|(exfalso;omega))
    refine bB ?_;refine J0 ?_;refine aB (kY xf [pt bf] 0 hB rfl) rfl ?_;refine aA ?_;refine aB (kY xl [iv ((lv:Nat):Int)] 0 hB rfl) rfl ?_;refine Dw ?_;refine aC (zI (λ w1 hw=>ih a _ A _ _ (lv+1) w1 hl hfm (lH (v:=(aD (cB a.L) m).at_ x17.1 x17.2) nm (eO h ((lv:Nat):Int))) ok hm hA hB hw)) (λ x53 h53=>?_);refine bS (fS λ _=>aS rf cL rf (bX _) dJ rf hJ) (λ _=>?_);refine aH ?_
    refine bD Tryz.results148 (λ w hw=>?_)
    refine⟨x53,rfl,⟨aBg hmm (fW m) (show(aD (cB a.L) m).c.kind=3 from c20) (q:=(iU ((aD (cB a.L) m).at_ x17.1 x17.2).c (eO h ((lv:Nat):Int))).getD 0) (Vg (o:=iU ((aD (cB a.L) m).at_ x17.1 x17.2).c (eO h ((lv:Nat):Int))) (by simpa using c34)) (lH (v:=(aD (cB a.L) m).at_ x17.1 x17.2) nm (eO h ((lv:Nat):Int))) ?_,h53.2⟩,hw.rN⟩
    rw[fW,if_neg (by exact c45)]
    exact h53.1
 ·try (first|contradiction|(exfalso;omega))
  refine lF ?_
  refine bE (λ c54=>?_) (λ c54=>?_)
  ·try (first|contradiction|(exfalso;omega))
   refine J0 ?_;refine aB (kY xf [pt bf] 0 hB rfl) rfl ?_;refine bR ?_;refine aR (cV (hc:=λ w1 hw=>Ug (v:=(aD (cB a.L) m).at_ x17.1 x17.2) (hw.cl (.bN (yT.oD (hB _ hfm)))))) (λ x58=>?_);refine bS (fS λ _=>aS rf cL rf (bX _) dJ rf hJ) (λ _=>?_);refine aH ?_
   refine bD Tryz.results148 (λ w hw=>?_)
   exact⟨(gQ _,[],a),rfl,⟨aCb hmm (fW m) (show(aD (cB a.L) m).c.kind=5 from c54),ok,AS.hU.refl a⟩,hw.rI⟩
  ·try (first|contradiction|(exfalso;omega))
   refine lF ?_
   refine bE (λ c59=>?_) (λ c59=>?_)
   ·try (first|contradiction|(exfalso;omega))
    refine aV ?_;refine gJ [0,1,2,3,4,5,6,7,8,9,10,11] ?_;refine lV ?_;refine bT (i:=2) (hq:=(kY xf [pt bf] 0 hB rfl)) (h:=?_);refine J4 ?_;refine bT (i:=5) (hq:=(kY bf (Im b t key h) 3 hB rfl (hm:=hfm))) (h:=?_);refine cN (i:=6) (hq:=(cV (v:=.tuple #[.int .u64 ((cO (aD (cB a.L) m).ys key).getD 0),.bool (cO (aD (cB a.L) m).ys key).isSome]) (hc:=λ w1 hw=>Xq (v:=aD (cB a.L) m) (Bq ok.fit.all m) (hw.cl (.own .head))))) (h:=λ x68=>?_);refine aP ?_;refine xD ?_;refine xD ?_;refine Zh ?_;refine J2 ?_;refine aH ?_
    refine bE (λ c71=>?_) (λ c71=>?_)
    ·try (first|contradiction|(exfalso;omega))
     refine J2 ?_;refine aR (cV (hc:=λ w1 hw=>Gn _ w1)) (λ x73=>?_);refine bS (fS λ _=>aS rf cL rf (bX _) dJ rf hJ) (λ _=>?_);refine aH ?_
     refine bD Tryz.results148 (λ w hw=>?_)
     exact⟨(gQ _,[],a),rfl,⟨aB2 hmm (fW m) (show(aD (cB a.L) m).c.kind=6 from c59) (show(cO (aD (cB a.L) m).ys key).isSome=true by simpa using c71),ok,AS.hU.refl a⟩,hw.rI⟩
    ·try (first|contradiction|(exfalso;omega))
     refine oB ?_;refine J0 ?_;refine aR (cV (hc:=λ w1 hw=>wZ w1)) (λ x74=>?_);refine bS (fS λ _=>aS rf cL rf (bX _) dJ rf hJ) (λ _=>?_);refine aH ?_
     refine bD Tryz.results148 (λ w hw=>?_)
     exact⟨(gQ (dO false 0),[],a),rfl,⟨aAO hmm (fW m) (show(aD (cB a.L) m).c.kind=6 from c59) (show cO (aD (cB a.L) m).ys key=none by simpa using c71),ok,AS.hU.refl a⟩,hw.rI⟩
   ·try (first|contradiction|(exfalso;omega))
    refine oB ?_;refine J0 ?_;refine aR (cV (hc:=λ w1 hw=>wZ w1)) (λ x74=>?_);refine bS (fS λ _=>aS rf cL rf (bX _) dJ rf hJ) (λ _=>?_);refine aH ?_
    refine bD Tryz.results148 (λ w hw=>?_)
    exact⟨(gQ (dO false 0),[],a),rfl,⟨aBi hmm (fW m) c20 c54 c59,ok,AS.hU.refl a⟩,hw.rI⟩
theorem ss{n:Nat}(ht:t.root<=9223372036854775807)(hh:h<18446744073709551616)(ih:Mj b bf h t key n):Mj b bf h t key (n+1):=by
 intro a D A B i lv w hl hbf hi ok hm hA hB hs
 have hT:∀x3 x5:Nat,zS b (oU t h key n ((lv:Nat):Int)) a.mm 148 [pt x3,pt x5] ([bx x3 [pt bf],bx x5 [iv ((lv:Nat):Int)]]++B):=λ x3 x5=>⟨by kernel_rfl,λ m s1 l hmm=>qq ih (by omega) hh hbf hmm⟩
 refine enter Tryz.func108 Tryz.ntmps108 rfl rfl hs ?_
 simp only[bY]
 refine J0 ?_;refine bO (λ x3=>?_);refine bO (λ x5=>?_);refine aI (λ x6=>?_);refine aH ?_;refine pK ?_;refine F5 ?_;refine aB (Rf bf (Im b t key h) 0 3 hB rfl rfl (hm:=hbf)) rfl ?_;refine aA ?_;(refine aB (cA (by(repeat (first|exact cD _|(apply bU;focus ((conv=>{lhs;whnf});try exact rfl))));done)) rfl ?_);(refine aR (bF.pre (λ w h=>(show SF _ _ [_,(b,eX a)] _ ([bx x3 [pt bf],bx x5 [iv ((lv:Nat):Int)]]:Fr) _ w from(h.cW (.tail .head)).cW (.tail .head))) (zI (A0:=[bx x3 [pt bf],bx x5 [iv ((lv:Nat):Int)]]++A) (B:=[bx x3 [pt bf],bx x5 [iv ((lv:Nat):Int)]]++B) (hA:=aX.S9) (λ w1 hw=>Wi ht (hT x3 x5) hi ok hm (λ f hf=>List.mem_append_right _ (hA f hf)) (Fk hB) hw))) (λ x13=>?_);try (refine eZ (λ h13=>?_)));refine bS (fS λ _=>aS rf cL rf (bX _) dJ rf hJ) (λ _=>?_);refine aH ?_
 refine bD Tryz.results108 (λ w hw=>?_)
 refine⟨(x13.1,x13.2.1++[bx x3 [pt bf],bx x5 [iv ((lv:Nat):Int)]],x13.2.2),rfl,⟨?_,h13.2.1,h13.2.2.more λ f hf=>List.mem_append_left _ hf⟩,hw.rI⟩
 have h13':=h13.1
 rw[<- List.append_assoc] at h13'
 exact h13'
theorem Tp(ht:t.root<=9223372036854775807)(hh:h<18446744073709551616):∀n,Mj b bf h t key n
 | 0=>oy
 | n+1=>ss ht hh (Tp ht hh n)
end
end

/- Calls that may change known blocks and own lists, and leave new ones. -/
section
open Go Go.RowKit Go.Ct
section
variable{S:List (Nat×Value)}{w0 w:World}{M:List Nat}{H:List (Nat×Obj)}{A F:Fr}{O:List Ow}{ty:TypeId}{pos:String}{af:Array Edge}{gd:Option (Nat×Bool)}{X:Type}{V:X->Value}
theorem nh{φ:X->Prop}{hs H':List (Nat×Obj)}{os O':List Ow}{hs' Hc H1:X->List (Nat×Obj)}{os' Oc O1:X->List Ow}{Fc F1:X->Fr}{A0:Fr}{is js:List Nat}{f:FuncId}{xs:List Operand}{at_:Array TypeId}{vs:List Value}{dst:Option Nat}
  (ha:pI S xs=vs:=by(repeat (first|exact cD _|(apply bU;focus ((conv=>{lhs;whnf});try exact rfl))));first|done|fail) (hp:plain Tryz.prog f=true:=by kernel_rfl)
  (hc:∀w,SF w (Ks hs os) hs A0 [] os w->Calls Tryz.prog f ⟨vs⟩ w λ e w'=>∃x,e=.returned (V x)/\φ x/\SF w (Ks hs os) (hs' x++Hc x) [] (Fc x) (os' x++Oc x) w')
  (hH:lU H is hs H':=by(repeat (first|exact lU.nil|(apply lU.cons;(focus ((repeat (first|exact yN.head|apply yN.tail));done));simp only[qG])));first|done|fail)
  (hO:lU O js os O':=by(repeat (first|exact lU.nil|(apply lU.cons;(focus ((repeat (first|exact yN.head|apply yN.tail));done));simp only[qG])));first|done|fail)
  (hA:aX A F O' A0:=by(repeat (first|exact aX.of (λ _ h=>Or.inr (Or.inl h))|exact aX.nil|(refine aX.cons (by first|exact Or.inl rfl|exact Or.inr (Or.inr (Or.inl (by simp)))|exact Or.inr (Or.inl (by simp))|exact Or.inr (Or.inr (Or.inr (by simp)))) ?_)));first|done|fail)
  (hl1:∀x,is.length=(hs' x).length:=by intro x;exact rfl) (hl2:∀x,js.length=(os' x).length:=by intro x;exact rfl)
  (hH1:∀x,Hc x++iN is (hs' x) H'=H1 x:=by intro x;first|(simp only[iN,rD,List.nil_append,List.cons_append];exact rfl)|exact rfl) (hF1:∀x,Fc x++F=F1 x:=by intro x;first|(simp only[List.nil_append,List.cons_append];exact rfl)|exact rfl) (hO1:∀x,Oc x++iN js (os' x) O'=O1 x:=by intro x;simp only[iN,rD,mW,List.nil_append,List.cons_append];exact rfl) :
  bF Tryz.prog S (SF w0 M H A F O) ⟨dst,.call {callee:=.value (.func f),args:=⟨xs⟩,argTypes:=at_},ty,pos,af,gd⟩ X V (λ x w=>φ x/\SF w0 M (H1 x) A (F1 x) (O1 x) w) :=
 gD (lX hp ha) λ w hw=>(hc w (hw.pQ hH hO hA)).mono λ _ _ ⟨x,he,hx,hs⟩=>⟨x,he,hx,by
  have:=hw.wX (hs':=hs' x) (Hc:=Hc x) (os':=os' x) (Oc:=Oc x) hH hO hs (hl1 x) (hl2 x)
  rw[<- hH1 x,<- hF1 x,<- hO1 x]
  exact this⟩
end
end

/- gcas, root: the tasks. -/
section
open Go Go.RowKit Go.Ct
theorem mS.app{b:Nat}{p:Tr×Mm}{a:AS}{B B1 F:Fr}{c:Cd}{a':AS}(h:mS b p a (B1++B) (c,F,a')):mS b p a B (c,F++B1,a'):=by
 obtain⟨⟨h1,h2⟩,h3,h4⟩:=h
 refine⟨⟨?_,h2⟩,h3,h4.more λ f hf=>List.mem_append_left _ hf⟩
 simp only at h1 ⊢
 rw[List.append_assoc]
 exact h1
section
variable{D:List Nat}{A B:Fr}{a:AS}{b:Nat}{w:World}{f:FuncId}{cap:List Value}{t:fL}
theorem X9{t:Tr}{i m:Nat}(ht:bQ t i m)(h:Za b t a.mm f cap B)(ok:a.Ok)(hm:a.mm.Small)(hA:∀f∈aM a.L,f∈A)(hB:∀x∈B,x∈A)(hs:SF w D [(b,eX a)] A [] (fU a) w) :
  Calls Tryz.prog 73 #[.iface 42 (.pointer (some ⟨b,0,none⟩)),.func (.func f) #[] ⟨cap⟩] w λ e w'=>∃x:Nat×Cd×Fr×AS,e=.returned (.pointer (some ⟨x.1,0,none⟩))/\(mS b (Ct.eV t a.mm) a B x.2/\dG (Ct.eV t a.mm).1=true)/\SF w D ([(b,eX x.2.2.2)]++[(x.1,tO b x.2.1 0)]) [] x.2.2.1 (fU x.2.2.2++[]) w' :=
 (ew ht h ok hm hA hB hs).mono λ _ _ ⟨x,e,h,hw⟩=>⟨x,e,h,by rw[List.append_nil];exact hw.perm (List.Perm.swap _ _ _) (List.Perm.refl _)⟩
end
end

/- find: the task of a lookup. -/
section
open Go Go.RowKit Go.Ct
abbrev erR:Rs:={Rs.zero with err:=1}
noncomputable def Gk (t:fL) (h:Nat) (key:ByteArray) (n:Nat):Tr:=if key.size<=64 then kT t (λ i=>qF t h key .done n i 0) else .done erR
theorem E6{k:Cl}(h:Nat)(n:Nat)(e:k.kind=7):jT k h n=Gk k.t h k.key n:=by
 have hr:refuse k=if k.key.size<=64 then 0 else 1:=if_pos (show k.kind=7∨k.kind=9 from .inl e)
 unfold jT Gk
 rw[hr]
 by_cases hk:k.key.size<=64
 ·simp only[if_pos hk]
  rw[if_neg (by decide),if_neg (by omega),if_neg (by omega),if_neg (by omega),if_neg (by omega),if_pos e]
 ·simp only[if_neg hk]
  rw[if_pos (by decide)]
section
variable{D:List Nat}{A B:Fr}{a:AS}{b:Nat}{w:World}{f:FuncId}{cap:List Value}{t:fL}{bf h:Nat}{key:ByteArray}
theorem r6(x y z:Option Addr×List Value):∀u∈x::z::([y]++B),u∈[x,y,z]++B:=λ u hu=>by
 simp only[List.mem_cons,List.mem_append,List.not_mem_nil,or_false] at hu ⊢
 rcases hu with h|h|h|h<;>simp[h]
theorem z5{n xf:Nat}{s:Mm}{r:Int}(hd:Mj b bf h t key n)(hn:n<=4294967296)(hr:r<=s.nodes.length)(hbf:bx bf (Im b t key h)∈B):qL b 107 [pt xf] [.int .i64 r] (bx xf [pt bf]::B) s (qF t h key .done n r 0):=by
 intro a D A w em ok hm hA hB hw0
 subst em
 refine enter Tryz.func107 Tryz.ntmps107 rfl rfl hw0 ?_
 simp only[bY]
 refine J0 ?_;refine aI (λ x3=>?_);refine aH ?_;refine J0 ?_;refine aB (kY xf [pt bf] 0 hB rfl) rfl ?_;refine aA ?_;refine aC (zI (λ w1 hw=>hd a _ A _ r 0 w1 (by omega) (List.mem_cons_of_mem _ hbf) hr ok hm hA hB hw)) (λ x6 h6=>?_);refine bS (fS λ _=>aS rf cL rf (bX _) dJ rf hJ) (λ _=>?_);refine aH ?_
 refine bD Tryz.results107 (λ w hw=>?_)
 exact⟨x6,rfl,h6,hw.rN⟩
theorem zt{n xk xf:Nat}{s:Mm}(ht:t.root<=9223372036854775807)(hd:Mj b bf h t key n)(hn:n<=4294967296)(hbf:bx bf (Im b t key h)∈B):qL b 105 [pt xk,pt xf] [] (bx xk [.string key]::bx xf [pt bf]::B) s (Gk t h key n):=by
 intro a D A w em ok hm hA hB hw0
 subst em
 have hfm:bx bf (Im b t key h)∈bx xk [.string key]::bx xf [pt bf]::B:=List.mem_cons_of_mem _ (List.mem_cons_of_mem _ hbf)
 have hT:zS b (λ i=>qF t h key .done n i 0) a.mm 107 [pt xf] (bx xk [.string key]::bx xf [pt bf]::B):=⟨by kernel_rfl,λ r s1 l hr=>(z5 hd hn hr hbf).mr λ y hy=>List.mem_cons_of_mem _ hy⟩
 refine enter Tryz.func105 Tryz.ntmps105 rfl rfl hw0 ?_
 simp only[bY]
 refine J0 ?_;refine aI (λ x2=>?_);refine Oq ?_;refine J0 ?_;refine aB (kY xk [.string key] 0 hB rfl) rfl ?_;refine aR (cV (hc:=λ w1 hw=>X5 key w1)) (λ x4=>?_);refine oX ?_
 refine bE (λ c5=>?_) (λ c5=>?_)
 ·refine J0 ?_;refine bJ ?_;refine aR (cV (hc:=λ w1 hw=>Ly erR w1)) (λ x7=>?_);refine bS (fS λ _=>aS rf cL rf (bX _) dJ rf hJ) (λ _=>?_);refine aH ?_
  refine bD Tryz.results105 (λ w hw=>?_)
  refine⟨(gQ erR,[],a),rfl,⟨?_,ok,AS.hU.refl a⟩,hw.rI⟩
  dsimp only
  unfold Gk
  rw[if_neg (by simpa using c5)]
  exact⟨rfl,rfl⟩
 ·refine bB ?_;refine J0 ?_;refine aB (kY xf [pt bf] 0 hB rfl) rfl ?_;refine F5 ?_;refine aB (Rf bf (Im b t key h) 0 3 hB rfl rfl (hm:=hfm)) rfl ?_;(refine aB (cA (by(repeat (first|exact cD _|(apply bU;focus ((conv=>{lhs;whnf});try exact rfl))));done)) rfl ?_);refine aC (zI (λ w1 hw=>sv ht hT ok hm hA hB hw)) (λ x13 h13=>?_);refine bS (fS λ _=>aS rf cL rf (bX _) dJ rf hJ) (λ _=>?_);refine aH ?_
  refine bD Tryz.results105 (λ w hw=>?_)
  refine⟨x13,rfl,⟨?_,h13.2⟩,hw.rN⟩
  unfold Gk
  rw[if_pos (by simpa using c5)]
  exact h13.1
theorem Nt{m n:Nat}(ht:t.root<=9223372036854775807)(hd:∀bf,Mj b bf (jV key m) t key n)(hn:n<=4294967296)(hm0:m<18446744073709551616)(hk:key.size<=4611686018427387903){i q:Nat}(hT:bQ (Gk t (jV key m) key n) i q)(ok:a.Ok)(hm:a.mm.Small)(hA:∀f∈aM a.L,f∈A)(hB:∀x∈B,x∈A)(hs:SF w D [(b,eX a)] A [] (fU a) w) :
  Calls Tryz.prog 55 #[.iface 42 (.pointer (some ⟨b,0,none⟩)),.agg ⟨[.int .i64 t.root,.bool t.ro]⟩,.int .u64 (m:Int),.string key] w λ e w'=>∃x:Nat×Cd×Fr×AS,e=.returned (.pointer (some ⟨x.1,0,none⟩))/\(mS b (Ct.eV (Gk t (jV key m) key n) a.mm) a B x.2/\dG (Ct.eV (Gk t (jV key m) key n) a.mm).1=true)/\SF w D [(x.1,tO b x.2.1 0),(b,eX x.2.2.2)] [] x.2.2.1 (fU x.2.2.2) w':=by
 have h0:=oE key m
 refine enter Tryz.func55 Tryz.ntmps55 rfl rfl hs ?_
 simp only[bY]
 refine J0 ?_;refine bO (λ x5=>?_);refine bO (λ x7=>?_);refine iZ ?_
 refine eI [9,10,11,12,13,14,15,16,17,18] (λ j:Nat×Nat=>[(9,.pointer (some ⟨j.1,0,none⟩))]) (λ _=>True) (λ j=>[(j.1,.cells ⟨[pt j.2]⟩ 156 (0,0)),(j.2,.cells ⟨Im b t key (jV key m)⟩ 159 (0,0)),(x7,.cells ⟨[.string key]⟩ 9 (0,0)),(x5,.cells ⟨[.int .i64 t.root,.bool t.ro]⟩ 29 (0,0)),(b,eX a)]) (λ _=>[]) (λ _=>fU a) (by decide) (λ _=>by exact rfl) ?_ (λ j f hx=>?_)
 ·refine iD (.one 0 [] (.one 1 [] (.one 2 [] (.one 3 [] (.one 4 [] (.one 5 [] (.two 6 [1,3] (.one 7 [] (.two 8 [] (.one 9 [1,3,4] (.one 10 [] .nil)) 0 [] (.two 9 [1,3,4] (.one 8 [] (.one 10 [] .nil)) 0 [] .nil))) 0 [] (.two 9 [1,3,4] (.one 6 [1,3] (.one 7 [] (.one 8 [] (.one 10 [] .nil)))) 0 [] .nil)))))))) ?_
  refine aP ?_;refine bP ?_;refine gC ?_;refine bP ?_;refine bP ?_;refine aP ?_
  refine iK (E:=[6,9]) (by decide +kernel) ((.cons ?_ (.cons ?_ .nil)))
  ·refine Di (i:=6) (hq:=(cV (hc:=λ w1 hw=>P1 key hm0 hk w1))) (h:=λ x16=>?_)
   refine gC ?_
   refine iK (E:=[8,9]) (by decide +kernel) ((.cons ?_ (.cons ?_ .nil)))
   ·refine aAz (i:=8) (h:=λ x18=>?_)
    refine cN (i:=9) (hq:=(fS λ _=>Gw (z:=.pointer none) (by kernel_rfl) rfl)) (h:=λ x9=>?_);refine Ar ?_
    refine fC ((x9,x18)) ?_ (hw1:=λ w hw=>by exact hw.back (hH:=by exact List.Sublist.refl _) (hF:=by exact aY.all) (hO:=by exact List.Sublist.refl _))
    ·trivial
   ·refine Di (i:=9) (hq:=(fS λ _=>Gw (z:=.pointer none) (by kernel_rfl) rfl)) (h:=λ x9=>?_)
    refine ig (h:=λ x18=>?_);refine Ar ?_
    refine fC ((x9,x18)) ?_ (hw1:=λ w hw=>by exact(hw.perm (List.Perm.swap _ _ _) (List.Perm.refl _)).back (hH:=by exact List.Sublist.refl _) (hF:=by exact aY.all) (hO:=by exact List.Sublist.refl _))
    ·trivial
  ·refine Di (i:=9) (hq:=(fS λ _=>Gw (z:=.pointer none) (by kernel_rfl) rfl)) (h:=λ x9=>?_)
   refine cN (i:=6) (hq:=(cV (hc:=λ w1 hw=>P1 key hm0 hk w1))) (h:=λ x16=>?_);refine gC ?_;refine ig (h:=λ x18=>?_);refine Ar ?_
   refine fC ((x9,x18)) ?_ (hw1:=λ w hw=>by exact(hw.perm (List.Perm.swap _ _ _) (List.Perm.refl _)).back (hH:=by exact List.Sublist.refl _) (hF:=by exact aY.all) (hO:=by exact List.Sublist.refl _))
   ·trivial
 dsimp only[gR,List.map,List.cons_append,List.nil_append]
 refine J2 ?_;(refine aB (cA (by(repeat (first|exact cD _|(apply bU;focus ((conv=>{lhs;whnf});try exact rfl))));done)) rfl ?_);(refine aR (bF.pre (λ w h=>(show SF _ _ [_,(b,eX a)] _ ([bx x7 [.string key],bx j.2 (Im b t key (jV key m)),bx j.1 [pt j.2]]:Fr) _ w from((h.cW .head).cW .head).cW .head)) (nh (V:=λ x:Nat×Cd×Fr×AS=>.pointer (some ⟨x.1,0,none⟩)) (hs:=[(b,eX a)]) (os:=fU a) (hs':=λ x=>[(b,eX x.2.2.2)]) (Hc:=λ x=>[(x.1,tO b x.2.1 0)]) (os':=λ x=>fU x.2.2.2) (Oc:=λ _=>[]) (Fc:=λ x=>x.2.2.1) (A0:=[bx x7 [.string key],bx j.2 (Im b t key (jV key m)),bx j.1 [pt j.2]]++A) (hA:=aX.S9) (hc:=λ w1 hw=>X9 (B:=[bx x7 [.string key],bx j.2 (Im b t key (jV key m)),bx j.1 [pt j.2]]++B) hT ⟨by kernel_rfl,λ s1 l=>(zt (B:=[bx j.2 (Im b t key (jV key m))]++B) (xk:=x7) (xf:=j.1) ht (hd j.2) hn (List.mem_cons_self ..)).mr (r6 _ _ _)⟩ ok hm (λ f hf=>List.mem_append_right _ (hA f hf)) (Fk hB) hw))) (λ x21=>?_);try (refine eZ (λ h21=>?_)));refine J1 ?_
 refine aT Tryz.results55 (λ w hw=>?_)
 exact⟨(x21.1,x21.2.1,x21.2.2.1++[bx x7 [.string key],bx j.2 (Im b t key (jV key m)),bx j.1 [pt j.2]],x21.2.2.2),rfl,⟨mS.app h21.1,h21.2⟩,hw.ret (by repeat (first|exact List.Sublist.refl _|apply List.Sublist.cons_cons|apply List.Sublist.cons)) (aY.iP λ f hf=>hf) (by repeat (exact List.Sublist.refl _))⟩
end
end

end Go.Proofs.YtbajmaoegmbfgaaGreat

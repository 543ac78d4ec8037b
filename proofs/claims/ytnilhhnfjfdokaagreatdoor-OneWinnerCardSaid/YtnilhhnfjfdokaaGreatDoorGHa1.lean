/- handle: numbers, policies. -/
import Derived.Test.YtnilhhnfjfdokaaGreatDoorGPt4
import Derived.Test.YtnilhhnfjfdokaaGreatDoorMp1
import Derived.Test.YtnilhhnfjfdokaaGreatDoorGDfr
import Derived.Test.YtnilhhnfjfdokaaGreatDoorGLf

set_option linter.unusedSimpArgs false
set_option linter.unusedVariables false
namespace Go.Proofs.YtnilhhnfjfdokaaGreatDoor
section
open Go Go.RowKit Go.Ct
theorem iC{k i:Nat}(hk:k<8)(hi:i<16)(w:World):Calls Tryz.prog 46 #[.int .i64 (k:Int),.int .i64 (i:Int)] w λ e w'=>e=.returned (.int .i64 ((1+k*16+i:Nat):Int))/\St w [] [] w':=by
 refine enter Tryz.func46 Tryz.ntmps46 rfl rfl (SF.s0 w) ?_
 simp only[cP]
 refine Kb1 ?_;refine Kb ?_
 (refine Ka2 ?_)
 ((refine Kc5 ?_));refine Kb3 ?_
 (refine lN 11 (λ g11=>?_) (λ g11=>?_)<;>refine Ka5 ?_)
 all_goals (refine Kb5 ?_)
 all_goals refine Ka5 ?_
 all_goals ((first|refine aT ?_|(refine aE ?_;refine fS ?_));refine Kb0 ?_)
 all_goals
 refine aU (λ c18=>?_) (λ c18=>?_)
 ·all_goals refine dW ?_
  all_goals
   refine bE Tryz.results46 (λ w hw=>?_)
   exfalso
   omega
 ·try exact nv c18
  all_goals (refine Kd3 ?_;refine bs ?_;refine oA ?_;refine aB ?_;refine oA ?_;refine J1 ?_)
  all_goals
   refine bE Tryz.results46 (λ w hw=>?_)
   refine⟨?_,hw.done⟩
   rw[wrap_i64 (i:=(k:Int)*16) (by omega) (by omega),wrap_i64 (i:=1+(k:Int)*16) (by omega) (by omega),wrap_i64 (by omega) (by omega),show((1+k*16+i:Nat):Int)=1+(k:Int)*16+i by omega]
   rfl
theorem oP(k:Int)(w:World):Calls Tryz.prog 75 #[.int .i64 k] w λ e w'=>e=.returned (.int .i64 (xW k))/\St w [] [] w':=by
 refine enter Tryz.func75 Tryz.ntmps75 rfl rfl (SF.s0 w) ?_
 simp only[cP]
 refine Kb1 ?_;refine Kb9 ?_;refine jN ?_
 refine aU (λ c4=>?_) (λ c4=>?_)
 ·refine dW ?_
  refine bE Tryz.results75 (λ w hw=>?_)
  refine⟨?_,hw.done⟩
  unfold xW
  rw[if_pos (by assumption)]
  rfl
 ·refine jN ?_
  refine aU (λ c6=>?_) (λ c6=>?_)
  ·refine dW ?_
   refine bE Tryz.results75 (λ w hw=>?_)
   refine⟨?_,hw.done⟩
   unfold xW
   rw[if_neg (by assumption),if_pos (by assumption)]
   rfl
  ·refine jN ?_
   refine aU (λ c8=>?_) (λ c8=>?_)
   ·refine dW ?_
    refine bE Tryz.results75 (λ w hw=>?_)
    refine⟨?_,hw.done⟩
    unfold xW
    rw[if_neg (by assumption),if_neg (by assumption),if_pos (by assumption)]
    rfl
   ·refine oC ?_;refine dW ?_
    refine bE Tryz.results75 (λ w hw=>?_)
    refine⟨?_,hw.done⟩
    unfold xW
    rw[if_neg (by assumption),if_neg (by assumption),if_neg (by assumption)]
    rfl
end

/- find: the task of a lookup, with a private block of its own. -/
section
open Go Go.RowKit Go.Ct
section
variable{D:List Nat}{A B:Fr}{a:AS}{b:Nat}{w:World}{t:nS}{key:ByteArray}
theorem Yh{m n:Nat}(ht:t.root<=9223372036854775807)(hd:∀bf,Hp b bf (lU key m) t key n)(hn:n<=4294967296)(hm0:m<18446744073709551616)(hk:key.size<=4611686018427387903)(hT:∀o:Nat×Obj,Ns (U4 t (lU key m) key n) (AS.wp a o.1 o.2).mm)(ok:a.Ok)(hm:a.mm.jL)(hA:∀f∈dV a.L,f∈A)(hB:∀x∈B,x∈A)(hs:SF w D [(b,eN a)] A [] (fD a) w) :
  Calls Tryz.prog 77 #[.iface 61 (.pointer (some ⟨b,0,none⟩)),.agg ⟨[.int .i64 t.root,.bool t.ro]⟩,.int .u64 (m:Int),.string key] w λ e w'=>∃x:Nat×Cd×Fr×AS,e=.returned (.pointer (some ⟨x.1,0,none⟩))/\(∃o:Nat×Obj,oU b (Ct.fA (U4 t (lU key m) key n) (AS.wp a o.1 o.2).mm) (AS.wp a o.1 o.2) B x.2/\fK (Ct.fA (U4 t (lU key m) key n) (AS.wp a o.1 o.2).mm).1=true)/\SF w D [(x.1,tO b x.2.1 0),(x.2.2.2.u,x.2.2.2.po),(b,eN x.2.2.2)] [] x.2.2.1 (fD x.2.2.2) w':=by
 have h0:=K8 key m
 have okw:∀u o,(AS.wp a u o).Ok:=λ u o=>⟨ok.fit,⟨ok.mo.nd,ok.mo.cs,ok.mo.two⟩⟩
 refine enter Tryz.func77 Tryz.ntmps77 rfl rfl hs ?_
 simp only[cP]
 refine J0 ?_;refine bF (λ x5=>?_);refine bF (λ x7=>?_);refine kZ ?_
 refine oV [9,10,11,12,13,14,15,16,17,18] (λ j:Nat×Nat=>[(9,.pointer (some ⟨j.1,0,none⟩))]) (λ _=>True) (λ j=>[(j.1,.cells ⟨[pt j.2]⟩ 211 (0,0)),(j.2,.cells ⟨Cx b t key (lU key m)⟩ 213 (0,0)),(x7,.cells ⟨[.string key]⟩ 9 (0,0)),(x5,.cells ⟨[.int .i64 t.root,.bool t.ro]⟩ 38 (0,0)),(b,eN a)]) (λ _=>[]) (λ _=>fD a) (by decide) (λ _=>by exact rfl) ?_ (λ j f hx=>?_)
 ·refine mB (.one 0 [] (.one 1 [] (.one 2 [] (.one 3 [] (.one 4 [] (.one 5 [] (.two 6 [1,3] (.one 7 [] (.two 8 [] (.one 9 [1,3,4] (.one 10 [] .nil)) 0 [] (.two 9 [1,3,4] (.one 8 [] (.one 10 [] .nil)) 0 [] .nil))) 0 [] (.two 9 [1,3,4] (.one 6 [1,3] (.one 7 [] (.one 8 [] (.one 10 [] .nil)))) 0 [] .nil)))))))) ?_
  refine aR ?_;refine cB ?_;refine jZ ?_;refine cB ?_;refine cB ?_;refine aR ?_
  refine kS (E:=[6,9]) (by decide +kernel) ((.cons ?_ (.cons ?_ .nil)))
  ·refine nD (i:=6) (hq:=(cV (hc:=λ w1 hw=>rH key hm0 hk w1))) (h:=λ x16=>?_)
   refine jZ ?_
   refine kS (E:=[8,9]) (by decide +kernel) ((.cons ?_ (.cons ?_ .nil)))
   ·refine ay (i:=8) (h:=λ x18=>?_)
    refine bZ (i:=9) (hq:=(cE λ _=>sW (z:=.pointer none) (by kernel_rfl) rfl)) (h:=λ x9=>?_);refine Jy ?_
    refine nR ((x9,x18)) ?_ (hw1:=λ w hw=>by exact hw.back (hH:=by exact List.Sublist.refl _) (hF:=by exact bL.all) (hO:=by exact List.Sublist.refl _))
    ·trivial
   ·refine nD (i:=9) (hq:=(cE λ _=>sW (z:=.pointer none) (by kernel_rfl) rfl)) (h:=λ x9=>?_)
    refine Dh (h:=λ x18=>?_);refine Jy ?_
    refine nR ((x9,x18)) ?_ (hw1:=λ w hw=>by exact(hw.perm (List.Perm.swap _ _ _) (List.Perm.refl _)).back (hH:=by exact List.Sublist.refl _) (hF:=by exact bL.all) (hO:=by exact List.Sublist.refl _))
    ·trivial
  ·refine nD (i:=9) (hq:=(cE λ _=>sW (z:=.pointer none) (by kernel_rfl) rfl)) (h:=λ x9=>?_)
   refine bZ (i:=6) (hq:=(cV (hc:=λ w1 hw=>rH key hm0 hk w1))) (h:=λ x16=>?_);refine jZ ?_;refine Dh (h:=λ x18=>?_);refine Jy ?_
   refine nR ((x9,x18)) ?_ (hw1:=λ w hw=>by exact(hw.perm (List.Perm.swap _ _ _) (List.Perm.refl _)).back (hH:=by exact List.Sublist.refl _) (hF:=by exact bL.all) (hO:=by exact List.Sublist.refl _))
   ·trivial
 dsimp only[lP,List.map,List.cons_append,List.nil_append]
 refine J2 ?_;(refine aA bN rfl ?_);(refine aF (aQ.pre (λ w h=>(show SF _ _ [_,(b,eN a)] _ ([bx x7 [.string key],bx j.2 (Cx b t key (lU key m)),bx j.1 [pt j.2]]:Fr) _ w from((h.cC .head).cC .head).cC .head)) (Jh (V:=λ x:Nat×Cd×Fr×AS=>.pointer (some ⟨x.1,0,none⟩)) (hs:=[(b,eN (AS.wp a x5 (.cells ⟨[.int .i64 t.root,.bool t.ro]⟩ 38 (0,0)))),(x5,(.cells ⟨[.int .i64 t.root,.bool t.ro]⟩ 38 (0,0)))]) (os:=fD a) (hs':=λ x=>[(b,eN x.2.2.2),(x.2.2.2.u,x.2.2.2.po)]) (Hc:=λ x=>[(x.1,tO b x.2.1 0)]) (os':=λ x=>fD x.2.2.2) (Oc:=λ _=>[]) (Fc:=λ x=>x.2.2.1) (A0:=[bx x7 [.string key],bx j.2 (Cx b t key (lU key m)),bx j.1 [pt j.2]]++A) (hA:=cA.Gm) (hc:=λ w1 hw=>Du (a:=AS.wp a x5 (.cells ⟨[.int .i64 t.root,.bool t.ro]⟩ 38 (0,0))) (B:=[bx x7 [.string key],bx j.2 (Cx b t key (lU key m)),bx j.1 [pt j.2]]++B) (hT (x5,(.cells ⟨[.int .i64 t.root,.bool t.ro]⟩ 38 (0,0)))) ⟨by kernel_rfl,λ s1 l _=>(eh (B:=[bx j.2 (Cx b t key (lU key m))]++B) (xk:=x7) (xf:=j.1) ht (hd j.2) hn (List.mem_cons_self ..)).mr (Zo _ _ _)⟩ (okw _ _) hm (λ f hf=>List.mem_append_right _ (hA f hf)) (uH hB) hw))) (λ x21=>?_);try (refine eH (λ h21=>?_)));refine J1 ?_
 refine bE Tryz.results77 (λ w hw=>?_)
 exact⟨(x21.1,x21.2.1,x21.2.2.1++[bx x7 [.string key],bx j.2 (Cx b t key (lU key m)),bx j.1 [pt j.2]],x21.2.2.2),rfl,⟨(x5,(.cells ⟨[.int .i64 t.root,.bool t.ro]⟩ 38 (0,0))),oU.ri h21.1,h21.2⟩,hw.ret (by repeat (exact List.Sublist.refl _)) (bL.dH λ f hf=>hf) (by repeat (exact List.Sublist.refl _))⟩
end
end

/- handle: start of an operation that sets a key, of a lookup. -/
section
open Go Go.RowKit Go.Ct
abbrev rz(b m bo bt bi:Nat):List Value:=[.iface 61 (.pointer (some ⟨b,0,none⟩)),.int .u64 (m:Int),.map (some bo),.map (some bt),.map (some bi)]
abbrev oT(b m bo bt bi:Nat):Obj:=.cells ⟨rz b m bo bt bi⟩ 103 (0,0)
def lO.cells(o:lO):List Value:=[.int .i64 o.kind,.int .i64 o.handle,.string o.key,.int .u64 o.val,.int .u64 o.exp]
section
variable{D:List Nat}{A B:Fr}{a:AS}{b bT m bo bt bi:Nat}{w:World}{t:nS}{o:lO}
theorem Fj(ho:o.kind=1∨o.kind=2∨o.kind=3∨o.kind=4)(ht:t.root<=9223372036854775807)(hm0:m<18446744073709551616)(hk:o.key.size<=64)(hT:∀q:Nat×Obj,Ns (gV ⟨t,o.key,lU o.key m,o.val,xW o.kind,o.exp⟩ sV) (AS.wp a q.1 q.2).mm)(ok:a.Ok)(hm:a.mm.jL)(hA:∀f∈dV a.L,f∈A)(hB:∀x∈B,x∈A)(hs:SF w D [(bT,oT b m bo bt bi),(b,eN a)] A [] (fD a) w) :
  Calls Tryz.prog 53 #[pt bT,.agg ⟨[.int .i64 t.root,.bool t.ro]⟩,.agg ⟨o.cells⟩] w λ e w'=>∃x:Nat×Cd×Fr×AS,e=.returned (.pointer (some ⟨x.1,0,none⟩))/\(∃q:Nat×Obj,oU b (Ct.fA (gV ⟨t,o.key,lU o.key m,o.val,xW o.kind,o.exp⟩ sV) (AS.wp a q.1 q.2).mm) (AS.wp a q.1 q.2) B x.2/\fK (Ct.fA (gV ⟨t,o.key,lU o.key m,o.val,xW o.kind,o.exp⟩ sV) (AS.wp a q.1 q.2).mm).1=true)/\SF w D [(x.1,tO b x.2.1 0),(x.2.2.2.u,x.2.2.2.po),(bT,oT b m bo bt bi),(b,eN x.2.2.2)] [] x.2.2.1 (fD x.2.2.2) w':=by
 have hp:0<=xW o.kind/\xW o.kind<=3:=by unfold xW;omega
 refine enter Tryz.func53 Tryz.ntmps53 rfl rfl hs ?_
 simp only[cP]
 simp only[lO.cells]
 refine J0 ?_;refine bF (λ x4=>?_);refine bF (λ x5=>?_);refine kZ ?_;refine jA ?_;refine Kb9 ?_;refine Kd0 ?_
 refine aU (λ c9=>?_) (λ c9=>?_)
 ·try (first|contradiction|(exfalso;omega))
  refine bB ?_
  refine aU (λ c9=>?_) (λ c9=>?_)
  ·try (first|contradiction|(exfalso;omega))
   refine aJ ?_;refine eG [(0,[]),(1,[]),(2,[]),(3,[]),(4,[]),(5,[]),(6,[]),(7,[]),(8,[]),(9,[]),(10,[]),(11,[]),(12,[]),(13,[]),(14,[]),(16,[]),(17,[]),(15,[3,4,8,10,12,17]),(18,[]),(19,[])] ?_;refine mG ?_;refine aS (i:=4) (hq:=(dE (k:=2) (vs:=[.int .i64 t.root,.bool t.ro]) rf bD cY rfl rfl)) (h:=?_);refine mG ?_;refine Kc4 ?_;refine Kc4 ?_;refine bZ (i:=15) (hq:=(cV (hc:=λ w1 hw=>oP o.kind w1))) (hfire:=(λ _=>by((repeat (first|exact aM.nil|refine aM.cons (by exact eE) ?_));done))) (h:=λ x29=>?_);refine bS (i:=18) (hq:=(Jh (V:=λ x:Nat×Cd×Fr×AS=>.pointer (some ⟨x.1,0,none⟩)) (hs:=[(b,eN a)]) (os:=fD a) (hs':=λ x=>[(b,eN x.2.2.2)]) (Hc:=λ x=>[(x.1,tO b x.2.1 0),(x.2.2.2.u,x.2.2.2.po)]) (os':=λ x=>fD x.2.2.2) (Oc:=λ _=>[]) (Fc:=λ x=>x.2.2.1) (A0:=A) (hc:=λ w1 hw=>(zY ht hm0 hk hp hT ok hm hA hB hw).mono λ _ _ ⟨x,e,h,hw⟩=>⟨x,e,h,by rw[List.append_nil];exact hw.perm (List.perm_append_comm (l₁:=[(b,eN x.2.2.2)]) (l₂:=[(x.1,tO b x.2.1 0),(x.2.2.2.u,x.2.2.2.po)])) (List.Perm.refl _)⟩))) (h:=λ x32 h32=>?_);refine J7 ?_
   refine bE Tryz.results53 (λ w hw=>?_)
   exact⟨x32,rfl,h32,hw.ret (by repeat (first|exact List.Sublist.refl _|apply List.Sublist.cons_cons|apply List.Sublist.cons)) (bL.dH λ f hf=>by simpa using hf) (by repeat (exact List.Sublist.refl _))⟩
  ·try (contradiction)
 ·try (first|contradiction|(exfalso;omega))
  refine jN ?_
  refine aU (λ c9=>?_) (λ c9=>?_)
  ·try (first|contradiction|(exfalso;omega))
   refine bB ?_
   refine aU (λ c9=>?_) (λ c9=>?_)
   ·try (first|contradiction|(exfalso;omega))
    refine aJ ?_;refine eG [(0,[]),(1,[]),(2,[]),(3,[]),(4,[]),(5,[]),(6,[]),(7,[]),(8,[]),(9,[]),(10,[]),(11,[]),(12,[]),(13,[]),(14,[]),(16,[]),(17,[]),(15,[3,4,8,10,12,17]),(18,[]),(19,[])] ?_;refine mG ?_;refine aS (i:=4) (hq:=(dE (k:=2) (vs:=[.int .i64 t.root,.bool t.ro]) rf bD cY rfl rfl)) (h:=?_);refine mG ?_;refine Kc4 ?_;refine Kc4 ?_;refine bZ (i:=15) (hq:=(cV (hc:=λ w1 hw=>oP o.kind w1))) (hfire:=(λ _=>by((repeat (first|exact aM.nil|refine aM.cons (by exact eE) ?_));done))) (h:=λ x29=>?_);refine bS (i:=18) (hq:=(Jh (V:=λ x:Nat×Cd×Fr×AS=>.pointer (some ⟨x.1,0,none⟩)) (hs:=[(b,eN a)]) (os:=fD a) (hs':=λ x=>[(b,eN x.2.2.2)]) (Hc:=λ x=>[(x.1,tO b x.2.1 0),(x.2.2.2.u,x.2.2.2.po)]) (os':=λ x=>fD x.2.2.2) (Oc:=λ _=>[]) (Fc:=λ x=>x.2.2.1) (A0:=A) (hc:=λ w1 hw=>(zY ht hm0 hk hp hT ok hm hA hB hw).mono λ _ _ ⟨x,e,h,hw⟩=>⟨x,e,h,by rw[List.append_nil];exact hw.perm (List.perm_append_comm (l₁:=[(b,eN x.2.2.2)]) (l₂:=[(x.1,tO b x.2.1 0),(x.2.2.2.u,x.2.2.2.po)])) (List.Perm.refl _)⟩))) (h:=λ x32 h32=>?_);refine J7 ?_
    refine bE Tryz.results53 (λ w hw=>?_)
    exact⟨x32,rfl,h32,hw.ret (by repeat (first|exact List.Sublist.refl _|apply List.Sublist.cons_cons|apply List.Sublist.cons)) (bL.dH λ f hf=>by simpa using hf) (by repeat (exact List.Sublist.refl _))⟩
   ·try (contradiction)
  ·try (first|contradiction|(exfalso;omega))
   refine jN ?_
   refine aU (λ c9=>?_) (λ c9=>?_)
   ·try (first|contradiction|(exfalso;omega))
    refine bB ?_
    refine aU (λ c9=>?_) (λ c9=>?_)
    ·try (first|contradiction|(exfalso;omega))
     refine aJ ?_;refine eG [(0,[]),(1,[]),(2,[]),(3,[]),(4,[]),(5,[]),(6,[]),(7,[]),(8,[]),(9,[]),(10,[]),(11,[]),(12,[]),(13,[]),(14,[]),(16,[]),(17,[]),(15,[3,4,8,10,12,17]),(18,[]),(19,[])] ?_;refine mG ?_;refine aS (i:=4) (hq:=(dE (k:=2) (vs:=[.int .i64 t.root,.bool t.ro]) rf bD cY rfl rfl)) (h:=?_);refine mG ?_;refine Kc4 ?_;refine Kc4 ?_;refine bZ (i:=15) (hq:=(cV (hc:=λ w1 hw=>oP o.kind w1))) (hfire:=(λ _=>by((repeat (first|exact aM.nil|refine aM.cons (by exact eE) ?_));done))) (h:=λ x29=>?_);refine bS (i:=18) (hq:=(Jh (V:=λ x:Nat×Cd×Fr×AS=>.pointer (some ⟨x.1,0,none⟩)) (hs:=[(b,eN a)]) (os:=fD a) (hs':=λ x=>[(b,eN x.2.2.2)]) (Hc:=λ x=>[(x.1,tO b x.2.1 0),(x.2.2.2.u,x.2.2.2.po)]) (os':=λ x=>fD x.2.2.2) (Oc:=λ _=>[]) (Fc:=λ x=>x.2.2.1) (A0:=A) (hc:=λ w1 hw=>(zY ht hm0 hk hp hT ok hm hA hB hw).mono λ _ _ ⟨x,e,h,hw⟩=>⟨x,e,h,by rw[List.append_nil];exact hw.perm (List.perm_append_comm (l₁:=[(b,eN x.2.2.2)]) (l₂:=[(x.1,tO b x.2.1 0),(x.2.2.2.u,x.2.2.2.po)])) (List.Perm.refl _)⟩))) (h:=λ x32 h32=>?_);refine J7 ?_
     refine bE Tryz.results53 (λ w hw=>?_)
     exact⟨x32,rfl,h32,hw.ret (by repeat (first|exact List.Sublist.refl _|apply List.Sublist.cons_cons|apply List.Sublist.cons)) (bL.dH λ f hf=>by simpa using hf) (by repeat (exact List.Sublist.refl _))⟩
    ·try (contradiction)
   ·try (first|contradiction|(exfalso;omega))
    refine dD ?_;refine K1 ?_
    refine aU (λ c9=>?_) (λ c9=>?_)
    ·try (first|contradiction|(exfalso;omega))
     refine aJ ?_;refine eG [(0,[]),(1,[]),(2,[]),(3,[]),(4,[]),(5,[]),(6,[]),(7,[]),(8,[]),(9,[]),(10,[]),(11,[]),(12,[]),(13,[]),(14,[]),(16,[]),(17,[]),(15,[3,4,8,10,12,17]),(18,[]),(19,[])] ?_;refine mG ?_;refine aS (i:=4) (hq:=(dE (k:=2) (vs:=[.int .i64 t.root,.bool t.ro]) rf bD cY rfl rfl)) (h:=?_);refine mG ?_;refine Kc4 ?_;refine Kc4 ?_;refine bZ (i:=15) (hq:=(cV (hc:=λ w1 hw=>oP o.kind w1))) (hfire:=(λ _=>by((repeat (first|exact aM.nil|refine aM.cons (by exact eE) ?_));done))) (h:=λ x29=>?_);refine bS (i:=18) (hq:=(Jh (V:=λ x:Nat×Cd×Fr×AS=>.pointer (some ⟨x.1,0,none⟩)) (hs:=[(b,eN a)]) (os:=fD a) (hs':=λ x=>[(b,eN x.2.2.2)]) (Hc:=λ x=>[(x.1,tO b x.2.1 0),(x.2.2.2.u,x.2.2.2.po)]) (os':=λ x=>fD x.2.2.2) (Oc:=λ _=>[]) (Fc:=λ x=>x.2.2.1) (A0:=A) (hc:=λ w1 hw=>(zY ht hm0 hk hp hT ok hm hA hB hw).mono λ _ _ ⟨x,e,h,hw⟩=>⟨x,e,h,by rw[List.append_nil];exact hw.perm (List.perm_append_comm (l₁:=[(b,eN x.2.2.2)]) (l₂:=[(x.1,tO b x.2.1 0),(x.2.2.2.u,x.2.2.2.po)])) (List.Perm.refl _)⟩))) (h:=λ x32 h32=>?_);refine J7 ?_
     refine bE Tryz.results53 (λ w hw=>?_)
     exact⟨x32,rfl,h32,hw.ret (by repeat (first|exact List.Sublist.refl _|apply List.Sublist.cons_cons|apply List.Sublist.cons)) (bL.dH λ f hf=>by simpa using hf) (by repeat (exact List.Sublist.refl _))⟩
    ·try ((exfalso;omega))
end
end

/- handle: start of a lookup. -/
section
open Go Go.RowKit Go.Ct
section
variable{D:List Nat}{A B:Fr}{a:AS}{b bT m bo bt bi:Nat}{w:World}{t:nS}{o:lO}
theorem C6(ho:o.kind=7)(ht:t.root<=9223372036854775807)(hm0:m<18446744073709551616)(hk:o.key.size<=64)(hT:∀q:Nat×Obj,Ns (U4 t (lU o.key m) o.key sV) (AS.wp a q.1 q.2).mm)(ok:a.Ok)(hm:a.mm.jL)(hA:∀f∈dV a.L,f∈A)(hB:∀x∈B,x∈A)(hs:SF w D [(bT,oT b m bo bt bi),(b,eN a)] A [] (fD a) w) :
  Calls Tryz.prog 53 #[pt bT,.agg ⟨[.int .i64 t.root,.bool t.ro]⟩,.agg ⟨o.cells⟩] w λ e w'=>∃x:Nat×Cd×Fr×AS,e=.returned (.pointer (some ⟨x.1,0,none⟩))/\(∃q:Nat×Obj,oU b (Ct.fA (U4 t (lU o.key m) o.key sV) (AS.wp a q.1 q.2).mm) (AS.wp a q.1 q.2) B x.2/\fK (Ct.fA (U4 t (lU o.key m) o.key sV) (AS.wp a q.1 q.2).mm).1=true)/\SF w D [(x.1,tO b x.2.1 0),(x.2.2.2.u,x.2.2.2.po),(bT,oT b m bo bt bi),(b,eN x.2.2.2)] [] x.2.2.1 (fD x.2.2.2) w':=by
 refine enter Tryz.func53 Tryz.ntmps53 rfl rfl hs ?_
 simp only[cP]
 simp only[lO.cells]
 refine J0 ?_;refine bF (λ x4=>?_);refine bF (λ x5=>?_);refine kZ ?_;refine jA ?_;refine Kb9 ?_;refine Kd0 ?_
 refine aU (λ c9=>?_) (λ c9=>?_)
 ·try ((exfalso;omega))
 ·try (first|contradiction|(exfalso;omega))
  refine jN ?_
  refine aU (λ c9=>?_) (λ c9=>?_)
  ·try ((exfalso;omega))
  ·try (first|contradiction|(exfalso;omega))
   refine jN ?_
   refine aU (λ c9=>?_) (λ c9=>?_)
   ·try ((exfalso;omega))
   ·try (first|contradiction|(exfalso;omega))
    refine dD ?_;refine K1 ?_
    refine aU (λ c9=>?_) (λ c9=>?_)
    ·try ((exfalso;omega))
    ·try (first|contradiction|(exfalso;omega))
     refine Kd0 ?_
     refine aU (λ c33=>?_) (λ c33=>?_)
     ·try ((exfalso;omega))
     ·try (first|contradiction|(exfalso;omega))
      refine dD ?_;refine K1 ?_
      refine aU (λ c33=>?_) (λ c33=>?_)
      ·try ((exfalso;omega))
      ·try (first|contradiction|(exfalso;omega))
       refine jN ?_
       refine aU (λ c53=>?_) (λ c53=>?_)
       ·try (first|contradiction|(exfalso;omega))
        refine aJ ?_;refine iM [0,1,2,3,4,5,6,7,8,9,10,11,12] ?_;refine mG ?_;refine aS (i:=4) (hq:=(dE (k:=2) (vs:=[.int .i64 t.root,.bool t.ro]) rf bD cY rfl rfl)) (h:=?_);refine mG ?_;refine gY ?_;refine bS (i:=11) (hq:=(Jh (V:=λ x:Nat×Cd×Fr×AS=>.pointer (some ⟨x.1,0,none⟩)) (hs:=[(b,eN a)]) (os:=fD a) (hs':=λ x=>[(b,eN x.2.2.2)]) (Hc:=λ x=>[(x.1,tO b x.2.1 0),(x.2.2.2.u,x.2.2.2.po)]) (os':=λ x=>fD x.2.2.2) (Oc:=λ _=>[]) (Fc:=λ x=>x.2.2.1) (A0:=A) (hc:=λ w1 hw=>(Yh ht (λ bf=>Sd ht (K8 _ _) _) (by decide) hm0 (by omega) hT ok hm hA hB hw).mono λ _ _ ⟨x,e,h,hw⟩=>⟨x,e,h,by rw[List.append_nil];exact hw.perm (List.perm_append_comm (l₁:=[(b,eN x.2.2.2)]) (l₂:=[(x.1,tO b x.2.1 0),(x.2.2.2.u,x.2.2.2.po)])) (List.Perm.refl _)⟩))) (h:=λ x66 h66=>?_);refine J7 ?_
        refine bE Tryz.results53 (λ w hw=>?_)
        exact⟨x66,rfl,h66,hw.ret (by repeat (first|exact List.Sublist.refl _|apply List.Sublist.cons_cons|apply List.Sublist.cons)) (bL.dH λ f hf=>by simpa using hf) (by repeat (exact List.Sublist.refl _))⟩
       ·try (contradiction)
end
end

/- handle: refusal. -/
section
open Go Go.RowKit Go.Ct
abbrev Dc(t:nS):List MapEntry:=[⟨.int .i64 0,.agg ⟨[.int .i64 t.root,.bool t.ro]⟩,0⟩]
section
variable{D:List Nat}{A B:Fr}{b bT m bo bt bi:Nat}{w:World}{t:nS}{o:lO}
theorem Ig(ho:o.kind=1∨o.kind=2∨o.kind=3∨o.kind=4∨o.kind=7)(h0:o.handle=0)(hk:o.key.size<=64)(hr:t.ro=false)(k:Int)(hs:SF w D [(bT,oT b m bo bt bi),(bt,bW (Dc t) 1)] [] [] [] w) :
  Calls Tryz.prog 52 #[pt bT,.int .i64 k,.agg ⟨o.cells⟩] w λ e w'=>e=.returned (.int .i64 0)/\SF w D [(bT,oT b m bo bt bi),(bt,bW (Dc t) 1)] [] [] [] w':=by
 refine enter Tryz.func52 Tryz.ntmps52 rfl rfl hs ?_
 simp only[cP]
 simp only[lO.cells,h0,hr]
 refine J0 ?_;refine bF (λ x5=>?_);refine kZ ?_;refine jA ?_;refine Kb ?_
 (refine lN 12 (λ g12=>?_) (λ g12=>?_)<;>(try ((exfalso;omega)))<;>((refine aE ?_;refine aK ?_)))
 ((refine Kb6 ?_));refine kf ?_;refine aD ?_
 refine aU (λ c16=>?_) (λ c16=>?_)
 ·try ((exfalso;omega))
 ·try (first|contradiction|(exfalso;omega))
  refine lS ?_;refine jA ?_;refine D0 ?_
  refine aU (λ c19=>?_) (λ c19=>?_)
  ·try ((exfalso;omega))
  ·try (first|contradiction|(exfalso;omega))
   refine lS ?_;refine eG [(0,[]),(1,[]),(2,[]),(3,[]),(4,[]),(5,[]),(6,[]),(7,[]),(8,[]),(9,[]),(10,[3,5,6]),(11,[]),(12,[])] ?_;refine mG ?_;refine gY ?_;refine aS (i:=6) (hq:=(fR (iE (K:=3) (E:=38) (dK:=.int .i64) (ze:=.agg ⟨[.int .i64 0,.bool false]⟩) (k:=.int .i64 0) (es:=Dc t) (c:=1) (r:=some (0,.agg ⟨[.int .i64 t.root,.bool t.ro]⟩)) rf rf bD (by kernel_rfl) (by kernel_rfl) rfl (by kernel_rfl) rfl))) (h:=?_);refine aR ?_;refine eP ?_;refine eP ?_;refine sB (hfire:=(λ _=>by((repeat (first|exact aM.nil|refine aM.cons (by first|exact eE|exact cX (hq:=fR (iE (K:=3) (E:=38) (dK:=.int .i64) (ze:=.agg ⟨[.int .i64 0,.bool false]⟩) (k:=.int .i64 0) (es:=Dc t) (c:=1) (r:=some (0,.agg ⟨[.int .i64 t.root,.bool t.ro]⟩)) rf rf bD (by kernel_rfl) (by kernel_rfl) rfl (by kernel_rfl) rfl))) ?_));done))) (h:=λ x7=>?_);refine pa ?_;refine gS ?_;refine wO ?_
   refine aU (λ c37=>?_) (λ c37=>?_)
   ·try (contradiction)
   ·try (first|contradiction|(exfalso;omega))
    refine lS ?_;refine jA ?_;refine vI ?_;refine aB ?_
    (refine lN 41 (λ g41=>?_) (λ g41=>?_)<;>(try ((exfalso;omega)))<;>((refine aE ?_;refine aK ?_)))
    ((refine Kb6 ?_));((refine aE ?_;refine aF (cV (hc:=λ w1 hw=>rP o.key w1)) (λ x44=>?_)));refine Q9 ?_;refine aD ?_
    refine aU (λ c46=>?_) (λ c46=>?_)
    ·try (contradiction)
    ·try (first|contradiction|(exfalso;omega))
     refine lS ?_;refine jA ?_;refine Kb9 ?_;refine Kd0 ?_
     refine aU (λ c49=>?_) (λ c49=>?_)
     ·try (first|contradiction|(exfalso;omega))
      refine bB ?_
      refine aU (λ c49=>?_) (λ c49=>?_)
      ·try (first|contradiction|(exfalso;omega))
       refine jA ?_;refine aD ?_
       refine aU (λ c58=>?_) (λ c58=>?_)
       ·try (first|contradiction|(exfalso;omega))
        refine dW ?_
        refine bE Tryz.results52 (λ w hw=>?_)
        (exfalso;simp_all)
       ·try (first|contradiction|(exfalso;omega))
        refine oC ?_;refine dW ?_
        refine bE Tryz.results52 (λ w hw=>?_)
        exact⟨rfl,hw.ret (by repeat (first|exact List.Sublist.refl _|apply List.Sublist.cons)) (bL.dH λ f hf=>hf) (List.Sublist.refl _)⟩
      ·try (contradiction)
     ·try (first|contradiction|(exfalso;omega))
      refine jN ?_
      refine aU (λ c49=>?_) (λ c49=>?_)
      ·try (first|contradiction|(exfalso;omega))
       refine bB ?_
       refine aU (λ c49=>?_) (λ c49=>?_)
       ·try (first|contradiction|(exfalso;omega))
        refine jA ?_;refine aD ?_
        refine aU (λ c58=>?_) (λ c58=>?_)
        ·try (first|contradiction|(exfalso;omega))
         refine dW ?_
         refine bE Tryz.results52 (λ w hw=>?_)
         (exfalso;simp_all)
        ·try (first|contradiction|(exfalso;omega))
         refine oC ?_;refine dW ?_
         refine bE Tryz.results52 (λ w hw=>?_)
         exact⟨rfl,hw.ret (by repeat (first|exact List.Sublist.refl _|apply List.Sublist.cons)) (bL.dH λ f hf=>hf) (List.Sublist.refl _)⟩
       ·try (contradiction)
      ·try (first|contradiction|(exfalso;omega))
       refine jN ?_
       refine aU (λ c49=>?_) (λ c49=>?_)
       ·try (first|contradiction|(exfalso;omega))
        refine bB ?_
        refine aU (λ c49=>?_) (λ c49=>?_)
        ·try (first|contradiction|(exfalso;omega))
         refine jA ?_;refine aD ?_
         refine aU (λ c58=>?_) (λ c58=>?_)
         ·try (first|contradiction|(exfalso;omega))
          refine dW ?_
          refine bE Tryz.results52 (λ w hw=>?_)
          (exfalso;simp_all)
         ·try (first|contradiction|(exfalso;omega))
          refine oC ?_;refine dW ?_
          refine bE Tryz.results52 (λ w hw=>?_)
          exact⟨rfl,hw.ret (by repeat (first|exact List.Sublist.refl _|apply List.Sublist.cons)) (bL.dH λ f hf=>hf) (List.Sublist.refl _)⟩
        ·try (contradiction)
       ·try (first|contradiction|(exfalso;omega))
        refine jN ?_
        refine aU (λ c49=>?_) (λ c49=>?_)
        ·try (first|contradiction|(exfalso;omega))
         refine bB ?_
         refine aU (λ c49=>?_) (λ c49=>?_)
         ·try (first|contradiction|(exfalso;omega))
          refine jA ?_;refine aD ?_
          refine aU (λ c58=>?_) (λ c58=>?_)
          ·try (first|contradiction|(exfalso;omega))
           refine dW ?_
           refine bE Tryz.results52 (λ w hw=>?_)
           (exfalso;simp_all)
          ·try (first|contradiction|(exfalso;omega))
           refine oC ?_;refine dW ?_
           refine bE Tryz.results52 (λ w hw=>?_)
           exact⟨rfl,hw.ret (by repeat (first|exact List.Sublist.refl _|apply List.Sublist.cons)) (bL.dH λ f hf=>hf) (List.Sublist.refl _)⟩
         ·try (contradiction)
        ·try (first|contradiction|(exfalso;omega))
         refine jN ?_
         refine aU (λ c49=>?_) (λ c49=>?_)
         ·try ((exfalso;omega))
         ·try (first|contradiction|(exfalso;omega))
          refine jN ?_
          refine aU (λ c49=>?_) (λ c49=>?_)
          ·try ((exfalso;omega))
          ·try (first|contradiction|(exfalso;omega))
           refine dD ?_;refine K1 ?_
           refine aU (λ c49=>?_) (λ c49=>?_)
           ·try ((exfalso;omega))
           ·try (first|contradiction|(exfalso;omega))
            refine Kd0 ?_
            refine aU (λ c59=>?_) (λ c59=>?_)
            ·try ((exfalso;omega))
            ·try (first|contradiction|(exfalso;omega))
             refine dD ?_;refine K1 ?_
             refine aU (λ c59=>?_) (λ c59=>?_)
             ·try ((exfalso;omega))
             ·try (first|contradiction|(exfalso;omega))
              refine oC ?_;refine dW ?_
              refine bE Tryz.results52 (λ w hw=>?_)
              exact⟨rfl,hw.ret (by repeat (first|exact List.Sublist.refl _|apply List.Sublist.cons)) (bL.dH λ f hf=>hf) (List.Sublist.refl _)⟩
end
end

/- Steps of trees do not look at the private part. -/
end Go.Proofs.YtnilhhnfjfdokaaGreatDoor
namespace Go.Ct
section
open Go Go.RowKit
abbrev Mm.wp(s:Mm)(π:Nat×Obj):Mm:=⟨s.nodes,s.cs,s.gen,π⟩
theorem Bb(π:Nat×Obj):∀(t:Tr) (s:Mm),fA t (s.wp π)=((fA t s).1,(fA t s).2.wp π)
 | .done _,_=>rfl
 | .load _ _,_=>rfl
 | .oI _ _ _ _,_=>rfl
 | .alloc n i k,s=>Bb π (k ((s.nodes.length+1:Nat):Int)) (s.push n i)
 | .cell i k,s=>Bb π (k ((s.cs.length+1:Nat):Int)) ⟨s.nodes,s.cs++[i],s.gen,s.pv⟩
 | .gen k,s=>Bb π (k (s.gen+1)) ⟨s.nodes,s.cs,s.gen+1,s.pv⟩
 | .node r k,s=>Bb π (k (bU s.nodes r)) s
 | .stuck,_=>rfl
theorem jq(π:Nat×Obj)(t:Tr)(s:Mm):lc t (s.wp π)=((lc t s).1,(lc t s).2.wp π):=by
 cases t<;>rfl
theorem gv(π:Nat×Obj)(t:Tr)(s:Mm):kQ (t,s.wp π)=((kQ (t,s)).1,(kQ (t,s)).2.wp π):=by
 unfold kQ
 simp only[jq]
 exact Bb π _ _
end

/- The machine of the scheduler: its table of operations, its threads, what they stand for. -/
section
open Go Go.RowKit
structure jO where
 n:Nat
 kind:Int
 fin:Bool
 born:Nat
def jF:List jO->Nat->Nat->Option (Nat×jO)
 | [],_,_=>none
 | e::l,n,i=>if e.n=n then some (i,e) else jF l n (i+1)
theorem vS(e:jO):∀(l:List jO) (n i:Nat),jF (l++[e]) n i=(jF l n i).or (if e.n=n then some (i+l.length,e) else none)
 | [],n,i=>by simp[jF]
 | x::l,n,i=>by
  simp only[List.cons_append,jF]
  by_cases h:x.n=n
  ·simp[h]
  ·rw[if_neg h,if_neg h,vS e l n (i+1)]
   simp only[List.length_cons]
   rw[show i+1+l.length=i+(l.length+1) by omega]
theorem zT:∀{l:List jO} {n i q:Nat} {e:jO},jF l n i=some (q,e)->e.n=n/\i<=q/\l[q-i]?=some e
 | [],_,_,_,_,h=>by cases h
 | x::l,n,i,q,e,h=>by
  simp only[jF] at h
  by_cases hx:x.n=n
  ·rw[if_pos hx] at h
   injection h with h
   injection h with h1 h2
   subst h1 h2
   exact⟨hx,Nat.le_refl _,by simp⟩
  ·rw[if_neg hx] at h
   obtain⟨h1,h2,h3⟩:=zT h
   refine⟨h1,by omega,?_⟩
   rw[show q-i=q-(i+1)+1 by omega,List.getElem?_cons_succ]
   exact h3
theorem I5:∀{l:List jO} {n i q:Nat} {e e':jO},jF l n i=some (q,e)->e'.n=n->∀n',jF (l.set (q-i) e') n' i=if n'=n then some (q,e') else jF l n' i
 | [],_,_,_,_,_,h,_,_=>by cases h
 | x::l,n,i,q,e,e',h,he,n'=>by
  simp only[jF] at h
  by_cases hx:x.n=n
  ·rw[if_pos hx] at h
   injection h with h
   injection h with h1 h2
   subst h1 h2
   rw[Nat.sub_self,List.set_cons_zero]
   simp only[jF]
   by_cases h':n'=n
   ·rw[if_pos h',if_pos (by omega)]
   ·rw[if_neg h',if_neg (by omega),if_neg (by omega)]
  ·rw[if_neg hx] at h
   obtain⟨h1,h2,h3⟩:=zT h
   have ih:=I5 h he n'
   rw[show q-i=q-(i+1)+1 by omega,List.set_cons_succ]
   simp only[jF]
   by_cases h':x.n=n'
   ·rw[if_pos h',if_pos h',if_neg (by omega)]
   ·rw[if_neg h',if_neg h',ih]
end
end Go.Ct
namespace Go.Proofs.YtnilhhnfjfdokaaGreatDoor
section
open Go Go.RowKit Go.Ct
structure aj where
 bt:Nat
 c:Cd
 n:Nat
 T:Tr
 u:Nat
 po:Obj
structure gN where
 op:Option Addr
 oc:Nat
 ops:List lO
 idx:Nat
 pr:Option aj
def gN.cells(t:gN):List Value:=[.slice t.op t.ops.length t.oc,.int .i64 ((t.idx:Nat):Int),.pointer (t.pr.map λ p=>⟨p.bt,0,none⟩)]
def gN.abs(t:gN):Rf:=⟨t.ops,t.idx,t.pr.map aj.T⟩
def lR.cells(e:lR):List Value:=[.int .i64 ((e.thr:Nat):Int),.int .i64 ((e.idx:Nat):Int),.bool e.ret,.int .i64 e.r.err,.bool e.r.found,.int .u64 e.r.val,.string e.r.key,.int .i64 e.r.iH,.int .i64 e.r.ref,.int .i64 e.r.root,.bool e.r.ro]
theorem cS(t:gN):t.cells.length=3:=rfl
theorem gA(e:lR):e.cells.length=11:=rfl
theorem lZ(o:lO):o.cells.length=5:=rfl
abbrev db(l:List gN):List Value:=dR gN.cells l
abbrev Bs(l:List lR):List Value:=dR lR.cells l
abbrev gG(l:List lO):List Value:=dR lO.cells l
def jK(k i:Nat):Nat:=1+k*16+i
theorem uM{k i k' i':Nat}(hi:i<16)(hi':i'<16)(h:jK k i=jK k' i'):k=k'/\i=i':=by
 unfold jK at h;omega
structure MV where
 a:AS
 es:List jO
 ec:Nat
 th:List gN
 tp:Option Addr
 tc:Nat
 hi:List lR
 hp:Option Addr
 hc:Nat
 iH:Int
 B:Fr
structure F9(o:lO):Prop where
 kind:o.kind=1∨o.kind=2∨o.kind=3∨o.kind=4∨o.kind=7
 handle:o.handle=0
 key:o.key.size<=64
def Da(es:List jO)(k:Nat)(t:gN):Prop :=
 match t.pr with
 | none=>∀i,t.idx<=i->i<16->jF es (jK k i) 0=none
 | some _=>(∃q e,jF es (jK k t.idx) 0=some (q,e)/\e.fin=false/\(e.kind=1∨e.kind=2∨e.kind=3∨e.kind=4∨e.kind=7))/\∀i,t.idx<i->i<16->jF es (jK k i) 0=none
def jO.e(t:nS)(x:jO):MapEntry:=⟨.int .i64 ((x.n:Nat):Int),.agg ⟨[.int .i64 x.kind,.int .i64 t.root,.bool t.ro,.bool x.fin]⟩,x.born⟩
theorem Ev(t:nS):∀(l:List jO) (n i:Nat),Instr.findNow (.int .i64) (.int .i64 ((n:Nat):Int)) (l.map (jO.e t)) i=some ((jF l n i).map λ q=>(q.1,(jO.e t q.2).val))
 | [],n,i=>rfl
 | x::l,n,i=>by
  simp only[List.map_cons,Instr.findNow,jO.e,Instr.sameNow,jF]
  by_cases h:x.n=n
  ·subst h;simp
  ·have hne:((((n:Nat):Int))==((x.n:Nat):Int))=false:=by simp;omega
   rw[if_neg h,hne]
   exact Ev t l n (i+1)
abbrev ot(b bT:Nat)(pk:Option Addr×Nat×Nat)(V:MV):List Value:=[pt b,pt bT,.slice V.tp V.th.length V.tc,.slice pk.1 pk.2.1 pk.2.2,.slice V.hp V.hi.length V.hc,.int .i64 V.iH]
abbrev yE(b bT:Nat)(pk:Option Addr×Nat×Nat)(V:MV):Obj:=.cells ⟨ot b bT pk V⟩ 66 (0,0)
def Fh(b:Nat)(t:gN):List (Nat×Obj):=match t.pr with|none=>[]|some p=>[(p.bt,tO b p.c p.n),(p.u,p.po)]
abbrev pS(m b bm bT bo bt bi:Nat)(pk:Option Addr×Nat×Nat)(V:MV):List (Nat×Obj):=[(bm,yE b bT pk V),(bT,oT b m bo bt bi),(bo,bW (V.es.map (jO.e t3)) V.ec),(bt,bW (Dc t3) 1),(b,eN V.a)]
abbrev cg(m b bm bT bo bt bi:Nat)(pk:Option Addr×Nat×Nat)(V:MV):List (Nat×Obj):=pS m b bm bT bo bt bi pk V++V.th.flatMap (Fh b)
abbrev jB(V:MV):List Ow:=⟨V.tp,db V.th,V.tc,73,3⟩::⟨V.hp,Bs V.hi,V.hc,59,11⟩::fD V.a
structure MI(b C:Nat)(Z:AM)(V:MV):Prop where
 ok:V.a.Ok
 up:V.a.mm=Z.s.wp V.a.pv
 th:V.th.map gN.abs=Z.th
 hist:V.hi=Z.hist
 tb:∀k t,V.th[k]?=some t->Da V.es k t
 pr:∀t∈V.th,∀p,t.pr=some p->fN b p.T (V.a.mm.wp (p.u,p.po)) p.c (V.a.mm.wp (p.u,p.po)) V.B/\fK p.T=true/\p.T.live=true/\p.n<=C
 fam:∀f∈dV V.a.L,f.2=[]∨f∈V.B
 fo:∀t∈V.th,(t.op,gG t.ops)∈V.B
 oo:∀t∈V.th,t.ops.length<=16/\t.idx<=t.ops.length/\(t.pr≠none->t.idx<t.ops.length)/\∀o∈t.ops,F9 o
 tl:V.th.length<=8
 hl:V.hi.length<=2*C
end

/- handle: start of an operation that the machine is walked for. -/
section
open Go Go.RowKit Go.Ct
theorem uU(m:Nat)(o:lO)(s:Mm):Ct.fA (rT m o) s=(rT m o,s):=by
 unfold rT
 split<;>rfl
theorem Bm(m:Nat)(o:lO):fK (rT m o)=true:=by
 unfold rT
 split<;>rfl
theorem Bc(m:Nat)(o:lO):(rT m o).live=true:=by
 unfold rT
 split<;>rfl
theorem Vt(m:Nat)(o:lO):rT m o≠.stuck:=λ h=>by
 have h2:=Bm m o
 rw[h] at h2
 cases h2
theorem Zs{m:Nat}{o:lO}(ho:o.kind=7)(hk:o.key.size<=64):U4 t3 (lU o.key m) o.key sV=rT m o:=by
 unfold U4 rT
 rw[if_pos hk,if_pos ho]
def Rj(b:Nat)(T:Tr)(s2:Mm)(a:AS)(B:Fr)(y:Cd×Fr×AS):Prop:=fN b T y.2.2.mm y.1 y.2.2.mm (y.2.1++B)/\y.2.2.mm=s2.wp y.2.2.pv/\y.2.2.Ok/\a.fG y.2.2 y.2.1
theorem uR{b:Nat}{p:Tr×Mm}{a:AS}{B:Fr}{y:Cd×Fr×AS}(h:oU b p a B y):Rj b p.1 p.2 a B y:=⟨h.1.1,h.1.2,h.2.1,h.2.2⟩
theorem Wa{b:Nat}{T:Tr}{s:Mm}{a:AS}{B:Fr}{y:Cd×Fr×AS}{q π:Nat×Obj}(h:Rj b T (s.wp π) (AS.wp a q.1 q.2) B y):Rj b T s a B y:=⟨h.1,h.2.1,h.2.2.1,⟨⟨h.2.2.2.le.nodes,h.2.2.2.le.cl⟩,h.2.2.2.fam⟩⟩
section
variable{D:List Nat}{A B:Fr}{a:AS}{b bT m bo bt bi:Nat}{w:World}{o:lO}
theorem Pg(ho:F9 o)(hm0:m<18446744073709551616)(ok:a.Ok)(hm:a.mm.jL)(hA:∀f∈dV a.L,f∈A)(hB:∀x∈B,x∈A)(hs:SF w D [(bT,oT b m bo bt bi),(b,eN a)] A [] (fD a) w) :
  Calls Tryz.prog 53 #[pt bT,.agg ⟨[.int .i64 3,.bool false]⟩,.agg ⟨o.cells⟩] w λ e w'=>∃x:Nat×Cd×Fr×AS,e=.returned (.pointer (some ⟨x.1,0,none⟩))/\Rj b (rT m o) a.mm a B x.2/\SF w D [(x.1,tO b x.2.1 0),(x.2.2.2.u,x.2.2.2.po),(bT,oT b m bo bt bi),(b,eN x.2.2.2)] [] x.2.2.1 (fD x.2.2.2) w':=by
 by_cases h7:o.kind=7
 ·have e:=Zs (m:=m) h7 ho.key
  refine(C6 (t:=t3) h7 (by decide) hm0 ho.key (λ q=>by unfold Ns;rw[e,uU];exact Vt m o) ok hm hA hB hs).mono λ en w' ⟨x,e1,⟨q,hq,_⟩,hw⟩=>⟨x,e1,?_,hw⟩
  rw[e,uU] at hq
  exact Wa (s:=a.mm) (π:=(q.1,q.2)) (uR hq)
 ·have hk:o.kind=1∨o.kind=2∨o.kind=3∨o.kind=4:=by have:=ho.kind;omega
  have e:gV ⟨t3,o.key,lU o.key m,o.val,xW o.kind,o.exp⟩ sV=rT m o:=by unfold rT;rw[if_neg h7]
  refine(Fj (t:=t3) hk (by decide) hm0 ho.key (λ q=>by unfold Ns;rw[e,uU];exact Vt m o) ok hm hA hB hs).mono λ en w' ⟨x,e1,⟨q,hq,_⟩,hw⟩=>⟨x,e1,?_,hw⟩
  rw[e,uU] at hq
  exact Wa (s:=a.mm) (π:=(q.1,q.2)) (uR hq)
end
end

end Go.Proofs.YtnilhhnfjfdokaaGreatDoor

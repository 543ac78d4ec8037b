/- Merged. -/
import Derived.Test.YthblobahelfefaaGreatDoorGPtL
import Derived.Test.YthblobahelfefaaGreatDoorMp1
set_option linter.unusedSimpArgs false
set_option linter.unusedVariables false
namespace Go.Proofs.YthblobahelfefaaGreatDoor
open Go.Proofs.Tryz
open Go Go.RowKit Go.Ct
section
theorem lN{k i:Nat}(hk:k<8)(hi:i<16)(w:World):Calls prog 43 #[.int .i64 (k:Int),.int .i64 (i:Int)] w λ e w'=>e=.returned (.int .i64 ((1+k*16+i:Nat):Int))/\St w [] [] w':=by
 refine enter func43 ntmps43 rfl rfl (SF.s0 w) ?_;simp only[bY];refine K1t ?_;((refine aG ?_;refine kZ ?_));refine dG ?_;refine aD ?_;(refine kT 11 (λ g11=>?_) (λ g11=>?_)<;>refine Ka0 ?_);all_goals (refine vb ?_;refine aD ?_)
 all_goals refine Ka0 ?_
 all_goals ((first|refine bG ?_|(refine aG ?_;refine kZ ?_));refine Kc2 ?_)
 all_goals
 refine aX (λ c18=>?_) (λ c18=>?_)
 ·all_goals refine cC ?_
  all_goals refine aP results43 (λ w hw=>?_);exfalso;omega
 ·try exact nv c18
  all_goals (refine Kc6 ?_;refine ic ?_;refine pX ?_;refine aD ?_;refine pX ?_;refine J1 ?_)
  all_goals refine aP results43 (λ w hw=>?_);refine⟨?_,hw.done⟩;rw[wrap_i64 (i:=(k:Int)*16) (by omega) (by omega),wrap_i64 (i:=1+(k:Int)*16) (by omega) (by omega),wrap_i64 (by omega) (by omega),show((1+k*16+i:Nat):Int)=1+(k:Int)*16+i by omega];rfl
theorem rS(k:Int)(w:World):Calls prog 73 #[.int .i64 k] w λ e w'=>e=.returned (.int .i64 (Dn k))/\St w [] [] w':=by
 refine enter func73 ntmps73 rfl rfl (SF.s0 w) ?_;simp only[bY];refine Ka5 ?_;refine Kb2 ?_;refine iC ?_;refine aX (λ c4=>?_) (λ c4=>?_);·refine cC ?_;refine aP results73 (λ w hw=>?_);refine⟨?_,hw.done⟩;unfold Dn;rw[if_pos (by assumption)];rfl
 ·refine iC ?_;refine aX (λ c6=>?_) (λ c6=>?_);·refine cC ?_;refine aP results73 (λ w hw=>?_);refine⟨?_,hw.done⟩;unfold Dn;rw[if_neg (by assumption),if_pos (by assumption)];rfl
  ·refine iC ?_;refine aX (λ c8=>?_) (λ c8=>?_);·refine cC ?_;refine aP results73 (λ w hw=>?_);refine⟨?_,hw.done⟩;unfold Dn;rw[if_neg (by assumption),if_neg (by assumption),if_pos (by assumption)];rfl
   ·refine Ka2 ?_;refine aP results73 (λ w hw=>?_);refine⟨?_,hw.done⟩;unfold Dn;rw[if_neg (by assumption),if_neg (by assumption),if_neg (by assumption)];rfl
end
section
section
variable{D:List Nat}{A B:Fr}{a:AS}{b:Nat}{w:World}{t:nV}{key:ByteArray}
theorem aAb{m n:Nat}(ht:t.root<=9223372036854775807)(hd:∀bf,S2 b bf (tP key m) t key n)(hn:n<=4294967296)(hm0:m<18446744073709551616)(hk:key.size<=4611686018427387903)(hT:∀o:Nat×Obj,Ns (iz t (tP key m) key n) (AS.wp a o.1 o.2).mm)(ok:a.Ok)(hm:a.mm.gM)(hA:∀f∈cH a.L,f∈A)(hB:∀x∈B,x∈A)(hs:SF w D [(b,cX a)] A [] (iS a) w) :
  Calls prog 75 #[.iface 51 (.pointer (some ⟨b,0,none⟩)),.agg ⟨[.int .i64 t.root,.bool t.ro]⟩,.int .u64 (m:Int),.string key] w λ e w'=>∃x:Nat×Cd×Fr×AS,e=.returned (.pointer (some ⟨x.1,0,none⟩))/\(∃o:Nat×Obj,pF b (Ct.iR (iz t (tP key m) key n) (AS.wp a o.1 o.2).mm) (AS.wp a o.1 o.2) B x.2/\fB (Ct.iR (iz t (tP key m) key n) (AS.wp a o.1 o.2).mm).1=true)/\SF w D [(x.1,tO b x.2.1 0),(x.2.2.2.u,x.2.2.2.po),(b,cX x.2.2.2)] [] x.2.2.1 (hU x.2.2.2) w':=by
 have h0:=L7 key m;have okw:∀u o,(AS.wp a u o).Ok:=λ u o=>⟨ok.fit,⟨ok.mo.nd,ok.mo.cs,ok.mo.two⟩⟩;refine enter func75 ntmps75 rfl rfl hs ?_;simp only[bY]
 refine J0 ?_;refine bC (λ x5=>?_);refine bC (λ x7=>?_);refine nN ?_;refine wK [9,10,11,12,13,14,15,16,17,18] (λ j:Nat×Nat=>[(9,.pointer (some ⟨j.1,0,none⟩))]) (λ _=>True) (λ j=>[(j.1,.cells ⟨[pt j.2]⟩ 208 (0,0)),(j.2,.cells ⟨Jd b t key (tP key m)⟩ 210 (0,0)),(x7,.cells ⟨[.string key]⟩ 9 (0,0)),(x5,.cells ⟨[.int .i64 t.root,.bool t.ro]⟩ 72 (0,0)),(b,cX a)]) (λ _=>[]) (λ _=>iS a) (by decide) (λ _=>by exact rfl) ?_ (λ j f hx=>?_)
 ·refine oG (.one 0 [] (.one 1 [] (.one 2 [] (.one 3 [] (.one 4 [] (.one 5 [] (.two 6 [1,3] (.one 7 [] (.two 8 [] (.one 9 [1,3,4] (.one 10 [] .nil)) 0 [] (.two 9 [1,3,4] (.one 8 [] (.one 10 [] .nil)) 0 [] .nil))) 0 [] (.two 9 [1,3,4] (.one 6 [1,3] (.one 7 [] (.one 8 [] (.one 10 [] .nil)))) 0 [] .nil)))))))) ?_;refine aR ?_;refine cJ ?_;refine kD ?_;refine cJ ?_;refine cJ ?_;refine aR ?_;refine nR (E:=[6,9]) (by decide +kernel) ((.cons ?_ (.cons ?_ .nil)))
  ·refine rE (i:=6) (hq:=(cV (hc:=λ w1 hw=>vU key hm0 hk w1))) (h:=λ x16=>?_);refine kD ?_;refine nR (E:=[8,9]) (by decide +kernel) ((.cons ?_ (.cons ?_ .nil)));·refine aBh (i:=8) (h:=λ x18=>?_);refine cB (i:=9) (hq:=(cK λ _=>qN (z:=.pointer none) (by kernel_rfl) rfl)) (h:=λ x9=>?_);refine Kg ?_;refine rX ((x9,x18)) ?_ (hw1:=E0y);·trivial
   ·refine rE (i:=9) (hq:=(cK λ _=>qN (z:=.pointer none) (by kernel_rfl) rfl)) (h:=λ x9=>?_);refine K0 (h:=λ x18=>?_);refine K1f ?_;·trivial
  ·refine rE (i:=9) (hq:=(cK λ _=>qN (z:=.pointer none) (by kernel_rfl) rfl)) (h:=λ x9=>?_);refine cB (i:=6) (hq:=(cV (hc:=λ w1 hw=>vU key hm0 hk w1))) (h:=λ x16=>?_);refine kD ?_;refine K0 (h:=λ x18=>?_);refine K1f ?_;·trivial
 refine K0a ?_;refine J2 ?_;refine K0q ?_;(refine aK (aQ.pre (λ w h=>(show SF _ _ [_,(b,cX a)] _ ([bx x7 [.string key],bx j.2 (Jd b t key (tP key m)),bx j.1 [pt j.2]]:Fr) _ w from(((h.bP .head).bP .head).bP .head).gN 0 1)) (Pq (V:=λ x:Nat×Cd×Fr×AS=>.pointer (some ⟨x.1,0,none⟩)) (hs:=[(b,cX (AS.wp a x5 (.cells ⟨[.int .i64 t.root,.bool t.ro]⟩ 72 (0,0)))),(x5,(.cells ⟨[.int .i64 t.root,.bool t.ro]⟩ 72 (0,0)))]) (os:=hU (AS.wp a x5 (.cells ⟨[.int .i64 t.root,.bool t.ro]⟩ 72 (0,0)))) (hs':=λ x=>[(b,cX x.2.2.2),(x.2.2.2.u,x.2.2.2.po)]) (Hc:=λ x=>[(x.1,tO b x.2.1 0)]) (os':=λ x=>hU x.2.2.2) (Oc:=λ _=>[]) (Fc:=λ x=>x.2.2.1) (A0:=[bx x7 [.string key],bx j.2 (Jd b t key (tP key m)),bx j.1 [pt j.2]]++A) (hA:=bL.Iu) (hc:=λ w1 hw=>C0 (a:=AS.wp a x5 (.cells ⟨[.int .i64 t.root,.bool t.ro]⟩ 72 (0,0))) (B:=[bx x7 [.string key],bx j.2 (Jd b t key (tP key m)),bx j.1 [pt j.2]]++B) (hT (x5,(.cells ⟨[.int .i64 t.root,.bool t.ro]⟩ 72 (0,0)))) ⟨by kernel_rfl,λ s1 l _=>(aDL (B:=[bx j.2 (Jd b t key (tP key m))]++B) (xk:=x7) (xf:=j.1) ht (hd j.2) hn (List.mem_cons_self ..)).mr (y4 _ _ _)⟩ (okw _ _) hm (λ f hf=>List.mem_append_right _ (hA f hf)) (rW hB) hw))) (λ x21=>?_);try (refine eF (λ h21=>?_)));refine J1 ?_;refine aP results75 (λ w hw=>?_);exact⟨(x21.1,x21.2.1,x21.2.2.1++[bx x7 [.string key],bx j.2 (Jd b t key (tP key m)),bx j.1 [pt j.2]],x21.2.2.2),rfl,⟨(x5,(.cells ⟨[.int .i64 t.root,.bool t.ro]⟩ 72 (0,0))),pF.dg h21.1,h21.2⟩,hw.ret E0f (aT.bA λ f hf=>hf) E0f⟩
end
end
section
abbrev tbC(b m bo bt bi:Nat):List Value:=[.iface 51 (.pointer (some ⟨b,0,none⟩)),.int .u64 (m:Int),.map (some bo),.map (some bt),.map (some bi)]
abbrev qX(b m bo bt bi:Nat):Obj:=.cells ⟨tbC b m bo bt bi⟩ 131 (0,0)
def kA.cells(o:kA):List Value:=[.int .i64 o.kind,.int .i64 o.handle,.string o.key,.int .u64 o.val,.int .u64 o.exp]
section
variable{D:List Nat}{A B:Fr}{a:AS}{b bT m bo bt bi:Nat}{w:World}{t:nV}{o:kA}
theorem O0(ho:o.kind=1∨o.kind=2∨o.kind=3∨o.kind=4)(ht:t.root<=9223372036854775807)(hm0:m<18446744073709551616)(hk:o.key.size<=64)(hT:∀q:Nat×Obj,Ns (mF ⟨t,o.key,tP o.key m,o.val,Dn o.kind,o.exp⟩ lC) (AS.wp a q.1 q.2).mm)(ok:a.Ok)(hm:a.mm.gM)(hA:∀f∈cH a.L,f∈A)(hB:∀x∈B,x∈A)(hs:SF w D [(bT,qX b m bo bt bi),(b,cX a)] A [] (iS a) w) :
  Calls prog 51 #[pt bT,.agg ⟨[.int .i64 t.root,.bool t.ro]⟩,.agg ⟨o.cells⟩] w λ e w'=>∃x:Nat×Cd×Fr×AS,e=.returned (.pointer (some ⟨x.1,0,none⟩))/\(∃q:Nat×Obj,pF b (Ct.iR (mF ⟨t,o.key,tP o.key m,o.val,Dn o.kind,o.exp⟩ lC) (AS.wp a q.1 q.2).mm) (AS.wp a q.1 q.2) B x.2/\fB (Ct.iR (mF ⟨t,o.key,tP o.key m,o.val,Dn o.kind,o.exp⟩ lC) (AS.wp a q.1 q.2).mm).1=true)/\SF w D [(x.1,tO b x.2.1 0),(x.2.2.2.u,x.2.2.2.po),(bT,qX b m bo bt bi),(b,cX x.2.2.2)] [] x.2.2.1 (hU x.2.2.2) w':=by
 have hp:0<=Dn o.kind/\Dn o.kind<=3:=by unfold Dn;omega
 refine enter func51 ntmps51 rfl rfl hs ?_;simp only[bY];simp only[kA.cells];refine K1u ?_;intro x4 x5;refine aX (λ c9=>?_) (λ c9=>?_)
 ·try (first|contradiction|(exfalso;omega))
  refine bD ?_;refine aX (λ c9=>?_) (λ c9=>?_)
  ·try (first|contradiction|(exfalso;omega))
   refine K0c ?_;refine cB (i:=15) (hq:=(cV (hc:=λ w1 hw=>rS o.kind w1))) (hfire:=E0o) (h:=λ x29=>?_);refine bS (i:=18) (hq:=(Pq (V:=λ x:Nat×Cd×Fr×AS=>.pointer (some ⟨x.1,0,none⟩)) (hs:=[(b,cX a)]) (os:=iS a) (hs':=λ x=>[(b,cX x.2.2.2)]) (Hc:=λ x=>[(x.1,tO b x.2.1 0),(x.2.2.2.u,x.2.2.2.po)]) (os':=λ x=>iS x.2.2.2) (Oc:=λ x=>[x.2.2.2.pl]) (Fc:=λ x=>x.2.2.1) (A0:=A) (hc:=λ w1 hw=>(E6 ht hm0 hk hp hT ok hm hA hB hw).mono λ _ _ ⟨x,e,h,hw⟩=>⟨x,e,h,by exact hw.perm (List.perm_append_comm (l₁:=[(b,cX x.2.2.2)]) (l₂:=[(x.1,tO b x.2.1 0),(x.2.2.2.u,x.2.2.2.po)])) (List.perm_append_comm (l₁:=iS x.2.2.2) (l₂:=[x.2.2.2.pl]))⟩))) (h:=λ x32 h32=>?_);refine J7 ?_;refine aP results51 (λ w hw=>?_);exact⟨x32,rfl,h32,hw.ret E0d (aT.bA λ f hf=>by simpa using hf) E0f⟩
  ·try (contradiction)
 ·try (first|contradiction|(exfalso;omega))
  refine iC ?_;refine aX (λ c9=>?_) (λ c9=>?_)
  ·try (first|contradiction|(exfalso;omega))
   refine bD ?_;refine aX (λ c9=>?_) (λ c9=>?_)
   ·try (first|contradiction|(exfalso;omega))
    refine K0c ?_;refine cB (i:=15) (hq:=(cV (hc:=λ w1 hw=>rS o.kind w1))) (hfire:=E0o) (h:=λ x29=>?_);refine bS (i:=18) (hq:=(Pq (V:=λ x:Nat×Cd×Fr×AS=>.pointer (some ⟨x.1,0,none⟩)) (hs:=[(b,cX a)]) (os:=iS a) (hs':=λ x=>[(b,cX x.2.2.2)]) (Hc:=λ x=>[(x.1,tO b x.2.1 0),(x.2.2.2.u,x.2.2.2.po)]) (os':=λ x=>iS x.2.2.2) (Oc:=λ x=>[x.2.2.2.pl]) (Fc:=λ x=>x.2.2.1) (A0:=A) (hc:=λ w1 hw=>(E6 ht hm0 hk hp hT ok hm hA hB hw).mono λ _ _ ⟨x,e,h,hw⟩=>⟨x,e,h,by exact hw.perm (List.perm_append_comm (l₁:=[(b,cX x.2.2.2)]) (l₂:=[(x.1,tO b x.2.1 0),(x.2.2.2.u,x.2.2.2.po)])) (List.perm_append_comm (l₁:=iS x.2.2.2) (l₂:=[x.2.2.2.pl]))⟩))) (h:=λ x32 h32=>?_);refine J7 ?_;refine aP results51 (λ w hw=>?_);exact⟨x32,rfl,h32,hw.ret E0d (aT.bA λ f hf=>by simpa using hf) E0f⟩
   ·try (contradiction)
  ·try (first|contradiction|(exfalso;omega))
   refine iC ?_;refine aX (λ c9=>?_) (λ c9=>?_)
   ·try (first|contradiction|(exfalso;omega))
    refine bD ?_;refine aX (λ c9=>?_) (λ c9=>?_)
    ·try (first|contradiction|(exfalso;omega))
     refine K0c ?_;refine cB (i:=15) (hq:=(cV (hc:=λ w1 hw=>rS o.kind w1))) (hfire:=E0o) (h:=λ x29=>?_);refine bS (i:=18) (hq:=(Pq (V:=λ x:Nat×Cd×Fr×AS=>.pointer (some ⟨x.1,0,none⟩)) (hs:=[(b,cX a)]) (os:=iS a) (hs':=λ x=>[(b,cX x.2.2.2)]) (Hc:=λ x=>[(x.1,tO b x.2.1 0),(x.2.2.2.u,x.2.2.2.po)]) (os':=λ x=>iS x.2.2.2) (Oc:=λ x=>[x.2.2.2.pl]) (Fc:=λ x=>x.2.2.1) (A0:=A) (hc:=λ w1 hw=>(E6 ht hm0 hk hp hT ok hm hA hB hw).mono λ _ _ ⟨x,e,h,hw⟩=>⟨x,e,h,by exact hw.perm (List.perm_append_comm (l₁:=[(b,cX x.2.2.2)]) (l₂:=[(x.1,tO b x.2.1 0),(x.2.2.2.u,x.2.2.2.po)])) (List.perm_append_comm (l₁:=iS x.2.2.2) (l₂:=[x.2.2.2.pl]))⟩))) (h:=λ x32 h32=>?_);refine J7 ?_;refine aP results51 (λ w hw=>?_);exact⟨x32,rfl,h32,hw.ret E0d (aT.bA λ f hf=>by simpa using hf) E0f⟩
    ·try (contradiction)
   ·try (first|contradiction|(exfalso;omega))
    refine Kb3 ?_;refine aX (λ c9=>?_) (λ c9=>?_)
    ·try (first|contradiction|(exfalso;omega))
     refine K0c ?_;refine cB (i:=15) (hq:=(cV (hc:=λ w1 hw=>rS o.kind w1))) (hfire:=E0o) (h:=λ x29=>?_);refine bS (i:=18) (hq:=(Pq (V:=λ x:Nat×Cd×Fr×AS=>.pointer (some ⟨x.1,0,none⟩)) (hs:=[(b,cX a)]) (os:=iS a) (hs':=λ x=>[(b,cX x.2.2.2)]) (Hc:=λ x=>[(x.1,tO b x.2.1 0),(x.2.2.2.u,x.2.2.2.po)]) (os':=λ x=>iS x.2.2.2) (Oc:=λ x=>[x.2.2.2.pl]) (Fc:=λ x=>x.2.2.1) (A0:=A) (hc:=λ w1 hw=>(E6 ht hm0 hk hp hT ok hm hA hB hw).mono λ _ _ ⟨x,e,h,hw⟩=>⟨x,e,h,by exact hw.perm (List.perm_append_comm (l₁:=[(b,cX x.2.2.2)]) (l₂:=[(x.1,tO b x.2.1 0),(x.2.2.2.u,x.2.2.2.po)])) (List.perm_append_comm (l₁:=iS x.2.2.2) (l₂:=[x.2.2.2.pl]))⟩))) (h:=λ x32 h32=>?_);refine J7 ?_;refine aP results51 (λ w hw=>?_);exact⟨x32,rfl,h32,hw.ret E0d (aT.bA λ f hf=>by simpa using hf) E0f⟩
    ·try ((exfalso;omega))
end
end
section
section
variable{D:List Nat}{A B:Fr}{a:AS}{b bT m bo bt bi:Nat}{w:World}{t:nV}{o:kA}
theorem Jk(ho:o.kind=7)(ht:t.root<=9223372036854775807)(hm0:m<18446744073709551616)(hk:o.key.size<=64)(hT:∀q:Nat×Obj,Ns (iz t (tP o.key m) o.key lC) (AS.wp a q.1 q.2).mm)(ok:a.Ok)(hm:a.mm.gM)(hA:∀f∈cH a.L,f∈A)(hB:∀x∈B,x∈A)(hs:SF w D [(bT,qX b m bo bt bi),(b,cX a)] A [] (iS a) w) :
  Calls prog 51 #[pt bT,.agg ⟨[.int .i64 t.root,.bool t.ro]⟩,.agg ⟨o.cells⟩] w λ e w'=>∃x:Nat×Cd×Fr×AS,e=.returned (.pointer (some ⟨x.1,0,none⟩))/\(∃q:Nat×Obj,pF b (Ct.iR (iz t (tP o.key m) o.key lC) (AS.wp a q.1 q.2).mm) (AS.wp a q.1 q.2) B x.2/\fB (Ct.iR (iz t (tP o.key m) o.key lC) (AS.wp a q.1 q.2).mm).1=true)/\SF w D [(x.1,tO b x.2.1 0),(x.2.2.2.u,x.2.2.2.po),(bT,qX b m bo bt bi),(b,cX x.2.2.2)] [] x.2.2.1 (hU x.2.2.2) w':=by
 refine enter func51 ntmps51 rfl rfl hs ?_;simp only[bY];simp only[kA.cells];refine K1u ?_;intro x4 x5;refine aX (λ c9=>?_) (λ c9=>?_);·try ((exfalso;omega))
 ·try (first|contradiction|(exfalso;omega))
  refine iC ?_;refine aX (λ c9=>?_) (λ c9=>?_);·try ((exfalso;omega))
  ·try (first|contradiction|(exfalso;omega))
   refine iC ?_;refine aX (λ c9=>?_) (λ c9=>?_);·try ((exfalso;omega))
   ·try (first|contradiction|(exfalso;omega))
    refine Kb3 ?_;refine aX (λ c9=>?_) (λ c9=>?_);·try ((exfalso;omega))
    ·try (first|contradiction|(exfalso;omega))
     refine Kb1 ?_;refine aX (λ c33=>?_) (λ c33=>?_);·try ((exfalso;omega))
     ·try (first|contradiction|(exfalso;omega))
      refine Kb3 ?_;refine aX (λ c33=>?_) (λ c33=>?_);·try ((exfalso;omega))
      ·try (first|contradiction|(exfalso;omega))
       refine iC ?_;refine aX (λ c53=>?_) (λ c53=>?_)
       ·try (first|contradiction|(exfalso;omega))
        refine aU ?_;refine gL [0,1,2,3,4,5,6,7,8,9,10,11,12] ?_;refine nZ ?_;refine bI (i:=4) (hq:=(cO (k:=2) (vs:=[.int .i64 t.root,.bool t.ro]) rf bU cW rfl rfl)) (h:=?_);refine nZ ?_;refine iX ?_;refine bS (i:=11) (hq:=(Pq (V:=λ x:Nat×Cd×Fr×AS=>.pointer (some ⟨x.1,0,none⟩)) (hs:=[(b,cX a)]) (os:=iS a) (hs':=λ x=>[(b,cX x.2.2.2)]) (Hc:=λ x=>[(x.1,tO b x.2.1 0),(x.2.2.2.u,x.2.2.2.po)]) (os':=λ x=>iS x.2.2.2) (Oc:=λ x=>[x.2.2.2.pl]) (Fc:=λ x=>x.2.2.1) (A0:=A) (hc:=λ w1 hw=>(aAb ht (λ bf=>ml ht (L7 _ _) _) (by decide) hm0 (by omega) hT ok hm hA hB hw).mono λ _ _ ⟨x,e,h,hw⟩=>⟨x,e,h,by exact hw.perm (List.perm_append_comm (l₁:=[(b,cX x.2.2.2)]) (l₂:=[(x.1,tO b x.2.1 0),(x.2.2.2.u,x.2.2.2.po)])) (List.perm_append_comm (l₁:=iS x.2.2.2) (l₂:=[x.2.2.2.pl]))⟩))) (h:=λ x66 h66=>?_);refine J7 ?_;refine aP results51 (λ w hw=>?_);exact⟨x66,rfl,h66,hw.ret E0d (aT.bA λ f hf=>by simpa using hf) E0f⟩
       ·try (contradiction)
end
end
end Go.Proofs.YthblobahelfefaaGreatDoor

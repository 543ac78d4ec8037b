/- Merged. -/
import Derived.Test.YtdeecdfockjoiaaGreatDoorGPtL
import Derived.Test.YtdeecdfockjoiaaGreatDoorMp1
import Derived.Test.YtdeecdfockjoiaaGreatDoorGRn0
import Derived.Test.YtdeecdfockjoiaaGreatDoorGl1
set_option linter.unusedSimpArgs false
set_option linter.unusedVariables false
namespace Go.Proofs.YtdeecdfockjoiaaGreatDoor
open Go.Proofs.Tryz
open Go Go.RowKit Go.Ct
section
theorem kD{k i:Nat}(hk:k<8)(hi:i<16)(w:World):Calls prog 40 #[.int .i64 (k:Int),.int .i64 (i:Int)] w λ e w'=>e=.returned (.int .i64 ((1+k*16+i:Nat):Int))/\St w [] [] w':=by
 refine enter func40 ntmps40 rfl rfl (SF.s0 w) ?_;simp only[cN];refine K3n ?_;((refine Kd1 ?_));refine Kb3 ?_;(refine mN 11 (λ g11=>?_) (λ g11=>?_)<;>refine Ka3 ?_);all_goals (refine Kb8 ?_)
 all_goals refine Ka3 ?_
 all_goals ((first|refine aZ ?_|(refine aF ?_;refine iF ?_));refine Kb1 ?_)
 all_goals
 refine aX (λ c18=>?_) (λ c18=>?_)
 ·all_goals refine eD ?_
  all_goals refine bJ results40 (λ w hw=>?_);exfalso;omega
 ·try exact nv c18
  all_goals (refine Kd9 ?_;refine aC2 ?_;refine rQ ?_;refine aB ?_;refine rQ ?_;refine J1 ?_)
  all_goals refine bJ results40 (λ w hw=>?_);refine⟨?_,hw.done⟩;rw[wrap_i64 (i:=(k:Int)*16) (by omega) (by omega),wrap_i64 (i:=1+(k:Int)*16) (by omega) (by omega),wrap_i64 (by omega) (by omega),show((1+k*16+i:Nat):Int)=1+(k:Int)*16+i by omega];rfl
theorem sV(k:Int)(w:World):Calls prog 64 #[.int .i64 k] w λ e w'=>e=.returned (.int .i64 (C4 k))/\St w [] [] w':=by
 refine enter func64 ntmps64 rfl rfl (SF.s0 w) ?_;simp only[cN];refine Ka9 ?_;refine Kb6 ?_;refine kT ?_;refine aX (λ c4=>?_) (λ c4=>?_);·refine eD ?_;refine bJ results64 (λ w hw=>?_);refine⟨?_,hw.done⟩;unfold C4;rw[if_pos (by assumption)];rfl
 ·refine kT ?_;refine aX (λ c6=>?_) (λ c6=>?_);·refine eD ?_;refine bJ results64 (λ w hw=>?_);refine⟨?_,hw.done⟩;unfold C4;rw[if_neg (by assumption),if_pos (by assumption)];rfl
  ·refine kT ?_;refine aX (λ c8=>?_) (λ c8=>?_);·refine eD ?_;refine bJ results64 (λ w hw=>?_);refine⟨?_,hw.done⟩;unfold C4;rw[if_neg (by assumption),if_neg (by assumption),if_pos (by assumption)];rfl
   ·refine Ke6 ?_;refine bJ results64 (λ w hw=>?_);refine⟨?_,hw.done⟩;unfold C4;rw[if_neg (by assumption),if_neg (by assumption),if_neg (by assumption)];rfl
end
section
section
variable{D:List Nat}{A B:Fr}{a:AS}{b:Nat}{w:World}{t:oB}{key:ByteArray}
theorem wb{m n:Nat}(ht:t.root<=9223372036854775807)(hd:∀bf,Sn b bf (mV key m) t key n)(hn:n<=4294967296)(hm0:m<18446744073709551616)(hk:key.size<=4611686018427387903)(hT:∀o:Nat×Obj,Ns (dh t (mV key m) key n) (AS.wp a o.1 o.2).mm)(ok:a.Ok)(hm:a.mm.iL)(hA:∀f∈dD a.L,f∈A)(hB:∀x∈B,x∈A)(hs:SF w D [(b,dV a)] A [] (kM a) w) :
  Calls prog 66 #[.iface 63 (.pointer (some ⟨b,0,none⟩)),.agg ⟨[.int .i64 t.root,.bool t.ro]⟩,.int .u64 (m:Int),.string key] w λ e w'=>∃x:Nat×Cd×Fr×AS,e=.returned (.pointer (some ⟨x.1,0,none⟩))/\(∃o:Nat×Obj,qL b (Ct.jT (dh t (mV key m) key n) (AS.wp a o.1 o.2).mm) (AS.wp a o.1 o.2) B x.2/\fI (Ct.jT (dh t (mV key m) key n) (AS.wp a o.1 o.2).mm).1=true)/\SF w D [(x.1,tO b x.2.1 0),(x.2.2.2.u,x.2.2.2.po),(b,dV x.2.2.2)] [] x.2.2.1 (iS x.2.2.2) w':=by
 have h0:=G9 key m;have okw:∀u o,(AS.wp a u o).Ok:=λ u o=>⟨ok.fit,⟨ok.mo.nd,ok.mo.cs,ok.mo.two⟩⟩;refine enter func66 ntmps66 rfl rfl hs ?_;simp only[cN]
 refine J0 ?_;refine bC (λ x5=>?_);refine bC (λ x7=>?_);refine lX ?_;refine nX [9,10,11,12,13,14,15,16,17,18] (λ j:Nat×Nat=>[(9,.pointer (some ⟨j.1,0,none⟩))]) (λ _=>True) (λ j=>[(j.1,.cells ⟨[pt j.2]⟩ 208 (0,0)),(j.2,.cells ⟨Jn b t key (mV key m)⟩ 210 (0,0)),(x7,.cells ⟨[.string key]⟩ 9 (0,0)),(x5,.cells ⟨[.int .i64 t.root,.bool t.ro]⟩ 42 (0,0)),(b,dV a)]) (λ _=>[]) (λ _=>kM a) (by decide) (λ _=>by exact rfl) ?_ (λ j f hx=>?_)
 ·refine kR (.one 0 [] (.one 1 [] (.one 2 [] (.one 3 [] (.one 4 [] (.one 5 [] (.two 6 [1,3] (.one 7 [] (.two 8 [] (.one 9 [1,3,4] (.one 10 [] .nil)) 0 [] (.two 9 [1,3,4] (.one 8 [] (.one 10 [] .nil)) 0 [] .nil))) 0 [] (.two 9 [1,3,4] (.one 6 [1,3] (.one 7 [] (.one 8 [] (.one 10 [] .nil)))) 0 [] .nil)))))))) ?_;refine aP ?_;refine bH ?_;refine iZ ?_;refine bH ?_;refine bH ?_;refine aP ?_;refine jF (E:=[6,9]) (by decide +kernel) ((.cons ?_ (.cons ?_ .nil)))
  ·refine lN (i:=6) (hq:=(cV (hc:=λ w1 hw=>pZ key hm0 hk w1))) (h:=λ x16=>?_);refine iZ ?_;refine jF (E:=[8,9]) (by decide +kernel) ((.cons ?_ (.cons ?_ .nil)));·refine ed (i:=8) (h:=λ x18=>?_);refine bR (i:=9) (hq:=(cC λ _=>qP (z:=.pointer none) (by kernel_rfl) rfl)) (h:=λ x9=>?_);refine L8 ?_;refine lZ ((x9,x18)) ?_ (hw1:=E0q);·trivial
   ·refine lN (i:=9) (hq:=(cC λ _=>qP (z:=.pointer none) (by kernel_rfl) rfl)) (h:=λ x9=>?_);refine Ey (h:=λ x18=>?_);refine K2x ?_;·trivial
  ·refine lN (i:=9) (hq:=(cC λ _=>qP (z:=.pointer none) (by kernel_rfl) rfl)) (h:=λ x9=>?_);refine bR (i:=6) (hq:=(cV (hc:=λ w1 hw=>pZ key hm0 hk w1))) (h:=λ x16=>?_);refine iZ ?_;refine Ey (h:=λ x18=>?_);refine K2x ?_;·trivial
 refine K0c ?_;refine J2 ?_;refine K2m ?_;(refine aH (aW.pre (λ w h=>(show SF _ _ [_,(b,dV a)] _ ([bx x7 [.string key],bx j.2 (Jn b t key (mV key m)),bx j.1 [pt j.2]]:Fr) _ w from(((h.bS .head).bS .head).bS .head).gN 0 1)) (Og (V:=λ x:Nat×Cd×Fr×AS=>.pointer (some ⟨x.1,0,none⟩)) (hs:=[(b,dV (AS.wp a x5 (.cells ⟨[.int .i64 t.root,.bool t.ro]⟩ 42 (0,0)))),(x5,(.cells ⟨[.int .i64 t.root,.bool t.ro]⟩ 42 (0,0)))]) (os:=iS (AS.wp a x5 (.cells ⟨[.int .i64 t.root,.bool t.ro]⟩ 42 (0,0)))) (hs':=λ x=>[(b,dV x.2.2.2),(x.2.2.2.u,x.2.2.2.po)]) (Hc:=λ x=>[(x.1,tO b x.2.1 0)]) (os':=λ x=>iS x.2.2.2) (Oc:=λ _=>[]) (Fc:=λ x=>x.2.2.1) (A0:=[bx x7 [.string key],bx j.2 (Jn b t key (mV key m)),bx j.1 [pt j.2]]++A) (hA:=bV.vX) (hc:=λ w1 hw=>Da (a:=AS.wp a x5 (.cells ⟨[.int .i64 t.root,.bool t.ro]⟩ 42 (0,0))) (B:=[bx x7 [.string key],bx j.2 (Jn b t key (mV key m)),bx j.1 [pt j.2]]++B) (hT (x5,(.cells ⟨[.int .i64 t.root,.bool t.ro]⟩ 42 (0,0)))) ⟨by kernel_rfl,λ s1 l _=>(aBk (B:=[bx j.2 (Jn b t key (mV key m))]++B) (xk:=x7) (xf:=j.1) ht (hd j.2) hn (List.mem_cons_self ..)).mr (px _ _ _)⟩ (okw _ _) hm (λ f hf=>List.mem_append_right _ (hA f hf)) (mM hB) hw))) (λ x21=>?_);try (refine dQ (λ h21=>?_)));refine J1 ?_;refine bJ results66 (λ w hw=>?_);exact⟨(x21.1,x21.2.1,x21.2.2.1++[bx x7 [.string key],bx j.2 (Jn b t key (mV key m)),bx j.1 [pt j.2]],x21.2.2.2),rfl,⟨(x5,(.cells ⟨[.int .i64 t.root,.bool t.ro]⟩ 42 (0,0))),qL.w6 h21.1,h21.2⟩,hw.ret E0h (bM.dB λ f hf=>hf) E0h⟩
end
end
section
abbrev tbC(b m bo bt bi:Nat):List Value:=[.iface 63 (.pointer (some ⟨b,0,none⟩)),.int .u64 (m:Int),.map (some bo),.map (some bt),.map (some bi)]
abbrev sL(b m bo bt bi:Nat):Obj:=.cells ⟨tbC b m bo bt bi⟩ 105 (0,0)
def jX.cells(o:jX):List Value:=[.int .i64 o.kind,.int .i64 o.handle,.string o.key,.int .u64 o.val,.int .u64 o.exp]
section
variable{D:List Nat}{A B:Fr}{a:AS}{b bT m bo bt bi:Nat}{w:World}{t:oB}{o:jX}
theorem Nm(ho:o.kind=1∨o.kind=2∨o.kind=3∨o.kind=4)(ht:t.root<=9223372036854775807)(hm0:m<18446744073709551616)(hk:o.key.size<=64)(hT:∀q:Nat×Obj,Ns (wE ⟨t,o.key,mV o.key m,o.val,C4 o.kind,o.exp⟩ jW) (AS.wp a q.1 q.2).mm)(ok:a.Ok)(hm:a.mm.iL)(hA:∀f∈dD a.L,f∈A)(hB:∀x∈B,x∈A)(hs:SF w D [(bT,sL b m bo bt bi),(b,dV a)] A [] (kM a) w) :
  Calls prog 43 #[pt bT,.agg ⟨[.int .i64 t.root,.bool t.ro]⟩,.agg ⟨o.cells⟩] w λ e w'=>∃x:Nat×Cd×Fr×AS,e=.returned (.pointer (some ⟨x.1,0,none⟩))/\(∃q:Nat×Obj,qL b (Ct.jT (wE ⟨t,o.key,mV o.key m,o.val,C4 o.kind,o.exp⟩ jW) (AS.wp a q.1 q.2).mm) (AS.wp a q.1 q.2) B x.2/\fI (Ct.jT (wE ⟨t,o.key,mV o.key m,o.val,C4 o.kind,o.exp⟩ jW) (AS.wp a q.1 q.2).mm).1=true)/\SF w D [(x.1,tO b x.2.1 0),(x.2.2.2.u,x.2.2.2.po),(bT,sL b m bo bt bi),(b,dV x.2.2.2)] [] x.2.2.1 (iS x.2.2.2) w':=by
 have hp:0<=C4 o.kind/\C4 o.kind<=3:=by unfold C4;omega
 refine enter func43 ntmps43 rfl rfl hs ?_;simp only[cN];simp only[jX.cells];refine J0 ?_;refine bC (λ x4=>?_);refine bC (λ x5=>?_);refine lX ?_;refine K3i ?_;refine aX (λ c9=>?_) (λ c9=>?_)
 ·try (first|contradiction|(exfalso;omega))
  refine bG ?_;refine aX (λ c9=>?_) (λ c9=>?_)
  ·try (first|contradiction|(exfalso;omega))
   refine K0i ?_;refine bR (i:=15) (hq:=(cV (hc:=λ w1 hw=>sV o.kind w1))) (hfire:=E0r) (h:=λ x29=>?_);refine bE (i:=18) (hq:=(Og (V:=λ x:Nat×Cd×Fr×AS=>.pointer (some ⟨x.1,0,none⟩)) (hs:=[(b,dV a)]) (os:=kM a) (hs':=λ x=>[(b,dV x.2.2.2)]) (Hc:=λ x=>[(x.1,tO b x.2.1 0),(x.2.2.2.u,x.2.2.2.po)]) (os':=λ x=>kM x.2.2.2) (Oc:=λ x=>[x.2.2.2.pl]) (Fc:=λ x=>x.2.2.1) (A0:=A) (hc:=λ w1 hw=>(Fz ht hm0 hk hp hT ok hm hA hB hw).mono λ _ _ ⟨x,e,h,hw⟩=>⟨x,e,h,by exact hw.perm (List.perm_append_comm (l₁:=[(b,dV x.2.2.2)]) (l₂:=[(x.1,tO b x.2.1 0),(x.2.2.2.u,x.2.2.2.po)])) (List.perm_append_comm (l₁:=kM x.2.2.2) (l₂:=[x.2.2.2.pl]))⟩))) (h:=λ x32 h32=>?_);refine J7 ?_;refine bJ results43 (λ w hw=>?_);exact⟨x32,rfl,h32,hw.ret E0d (bM.dB λ f hf=>by simpa using hf) E0h⟩
  ·try (contradiction)
 ·try (first|contradiction|(exfalso;omega))
  refine kT ?_;refine aX (λ c9=>?_) (λ c9=>?_)
  ·try (first|contradiction|(exfalso;omega))
   refine bG ?_;refine aX (λ c9=>?_) (λ c9=>?_)
   ·try (first|contradiction|(exfalso;omega))
    refine K0i ?_;refine bR (i:=15) (hq:=(cV (hc:=λ w1 hw=>sV o.kind w1))) (hfire:=E0r) (h:=λ x29=>?_);refine bE (i:=18) (hq:=(Og (V:=λ x:Nat×Cd×Fr×AS=>.pointer (some ⟨x.1,0,none⟩)) (hs:=[(b,dV a)]) (os:=kM a) (hs':=λ x=>[(b,dV x.2.2.2)]) (Hc:=λ x=>[(x.1,tO b x.2.1 0),(x.2.2.2.u,x.2.2.2.po)]) (os':=λ x=>kM x.2.2.2) (Oc:=λ x=>[x.2.2.2.pl]) (Fc:=λ x=>x.2.2.1) (A0:=A) (hc:=λ w1 hw=>(Fz ht hm0 hk hp hT ok hm hA hB hw).mono λ _ _ ⟨x,e,h,hw⟩=>⟨x,e,h,by exact hw.perm (List.perm_append_comm (l₁:=[(b,dV x.2.2.2)]) (l₂:=[(x.1,tO b x.2.1 0),(x.2.2.2.u,x.2.2.2.po)])) (List.perm_append_comm (l₁:=kM x.2.2.2) (l₂:=[x.2.2.2.pl]))⟩))) (h:=λ x32 h32=>?_);refine J7 ?_;refine bJ results43 (λ w hw=>?_);exact⟨x32,rfl,h32,hw.ret E0d (bM.dB λ f hf=>by simpa using hf) E0h⟩
   ·try (contradiction)
  ·try (first|contradiction|(exfalso;omega))
   refine kT ?_;refine aX (λ c9=>?_) (λ c9=>?_)
   ·try (first|contradiction|(exfalso;omega))
    refine bG ?_;refine aX (λ c9=>?_) (λ c9=>?_)
    ·try (first|contradiction|(exfalso;omega))
     refine K0i ?_;refine bR (i:=15) (hq:=(cV (hc:=λ w1 hw=>sV o.kind w1))) (hfire:=E0r) (h:=λ x29=>?_);refine bE (i:=18) (hq:=(Og (V:=λ x:Nat×Cd×Fr×AS=>.pointer (some ⟨x.1,0,none⟩)) (hs:=[(b,dV a)]) (os:=kM a) (hs':=λ x=>[(b,dV x.2.2.2)]) (Hc:=λ x=>[(x.1,tO b x.2.1 0),(x.2.2.2.u,x.2.2.2.po)]) (os':=λ x=>kM x.2.2.2) (Oc:=λ x=>[x.2.2.2.pl]) (Fc:=λ x=>x.2.2.1) (A0:=A) (hc:=λ w1 hw=>(Fz ht hm0 hk hp hT ok hm hA hB hw).mono λ _ _ ⟨x,e,h,hw⟩=>⟨x,e,h,by exact hw.perm (List.perm_append_comm (l₁:=[(b,dV x.2.2.2)]) (l₂:=[(x.1,tO b x.2.1 0),(x.2.2.2.u,x.2.2.2.po)])) (List.perm_append_comm (l₁:=kM x.2.2.2) (l₂:=[x.2.2.2.pl]))⟩))) (h:=λ x32 h32=>?_);refine J7 ?_;refine bJ results43 (λ w hw=>?_);exact⟨x32,rfl,h32,hw.ret E0d (bM.dB λ f hf=>by simpa using hf) E0h⟩
    ·try (contradiction)
   ·try (first|contradiction|(exfalso;omega))
    refine eC ?_;refine Sx ?_;refine aX (λ c9=>?_) (λ c9=>?_)
    ·try (first|contradiction|(exfalso;omega))
     refine K0i ?_;refine bR (i:=15) (hq:=(cV (hc:=λ w1 hw=>sV o.kind w1))) (hfire:=E0r) (h:=λ x29=>?_);refine bE (i:=18) (hq:=(Og (V:=λ x:Nat×Cd×Fr×AS=>.pointer (some ⟨x.1,0,none⟩)) (hs:=[(b,dV a)]) (os:=kM a) (hs':=λ x=>[(b,dV x.2.2.2)]) (Hc:=λ x=>[(x.1,tO b x.2.1 0),(x.2.2.2.u,x.2.2.2.po)]) (os':=λ x=>kM x.2.2.2) (Oc:=λ x=>[x.2.2.2.pl]) (Fc:=λ x=>x.2.2.1) (A0:=A) (hc:=λ w1 hw=>(Fz ht hm0 hk hp hT ok hm hA hB hw).mono λ _ _ ⟨x,e,h,hw⟩=>⟨x,e,h,by exact hw.perm (List.perm_append_comm (l₁:=[(b,dV x.2.2.2)]) (l₂:=[(x.1,tO b x.2.1 0),(x.2.2.2.u,x.2.2.2.po)])) (List.perm_append_comm (l₁:=kM x.2.2.2) (l₂:=[x.2.2.2.pl]))⟩))) (h:=λ x32 h32=>?_);refine J7 ?_;refine bJ results43 (λ w hw=>?_);exact⟨x32,rfl,h32,hw.ret E0d (bM.dB λ f hf=>by simpa using hf) E0h⟩
    ·try ((exfalso;omega))
end
end
section
section
variable{D:List Nat}{A B:Fr}{a:AS}{b bT m bo bt bi:Nat}{w:World}{t:oB}{o:jX}
theorem Kh(ho:o.kind=7)(ht:t.root<=9223372036854775807)(hm0:m<18446744073709551616)(hk:o.key.size<=64)(hT:∀q:Nat×Obj,Ns (dh t (mV o.key m) o.key jW) (AS.wp a q.1 q.2).mm)(ok:a.Ok)(hm:a.mm.iL)(hA:∀f∈dD a.L,f∈A)(hB:∀x∈B,x∈A)(hs:SF w D [(bT,sL b m bo bt bi),(b,dV a)] A [] (kM a) w) :
  Calls prog 43 #[pt bT,.agg ⟨[.int .i64 t.root,.bool t.ro]⟩,.agg ⟨o.cells⟩] w λ e w'=>∃x:Nat×Cd×Fr×AS,e=.returned (.pointer (some ⟨x.1,0,none⟩))/\(∃q:Nat×Obj,qL b (Ct.jT (dh t (mV o.key m) o.key jW) (AS.wp a q.1 q.2).mm) (AS.wp a q.1 q.2) B x.2/\fI (Ct.jT (dh t (mV o.key m) o.key jW) (AS.wp a q.1 q.2).mm).1=true)/\SF w D [(x.1,tO b x.2.1 0),(x.2.2.2.u,x.2.2.2.po),(bT,sL b m bo bt bi),(b,dV x.2.2.2)] [] x.2.2.1 (iS x.2.2.2) w':=by
 refine enter func43 ntmps43 rfl rfl hs ?_;simp only[cN];simp only[jX.cells];refine J0 ?_;refine bC (λ x4=>?_);refine bC (λ x5=>?_);refine lX ?_;refine K3i ?_;refine aX (λ c9=>?_) (λ c9=>?_);·try ((exfalso;omega))
 ·try (first|contradiction|(exfalso;omega))
  refine kT ?_;refine aX (λ c9=>?_) (λ c9=>?_);·try ((exfalso;omega))
  ·try (first|contradiction|(exfalso;omega))
   refine kT ?_;refine aX (λ c9=>?_) (λ c9=>?_);·try ((exfalso;omega))
   ·try (first|contradiction|(exfalso;omega))
    refine eC ?_;refine Sx ?_;refine aX (λ c9=>?_) (λ c9=>?_);·try ((exfalso;omega))
    ·try (first|contradiction|(exfalso;omega))
     refine Kd5 ?_;refine aX (λ c33=>?_) (λ c33=>?_);·try ((exfalso;omega))
     ·try (first|contradiction|(exfalso;omega))
      refine eC ?_;refine Sx ?_;refine aX (λ c33=>?_) (λ c33=>?_);·try ((exfalso;omega))
      ·try (first|contradiction|(exfalso;omega))
       refine kT ?_;refine aX (λ c53=>?_) (λ c53=>?_)
       ·try (first|contradiction|(exfalso;omega))
        refine aL ?_;refine fO [0,1,2,3,4,5,6,7,8,9,10,11,12] ?_;refine mD ?_;refine aS (i:=4) (hq:=(cJ (k:=2) (vs:=[.int .i64 t.root,.bool t.ro]) rf bI cY rfl rfl)) (h:=?_);refine mD ?_;refine hY ?_;refine bE (i:=11) (hq:=(Og (V:=λ x:Nat×Cd×Fr×AS=>.pointer (some ⟨x.1,0,none⟩)) (hs:=[(b,dV a)]) (os:=kM a) (hs':=λ x=>[(b,dV x.2.2.2)]) (Hc:=λ x=>[(x.1,tO b x.2.1 0),(x.2.2.2.u,x.2.2.2.po)]) (os':=λ x=>kM x.2.2.2) (Oc:=λ x=>[x.2.2.2.pl]) (Fc:=λ x=>x.2.2.1) (A0:=A) (hc:=λ w1 hw=>(wb ht (λ bf=>ef ht (G9 _ _) _) (by decide) hm0 (by omega) hT ok hm hA hB hw).mono λ _ _ ⟨x,e,h,hw⟩=>⟨x,e,h,by exact hw.perm (List.perm_append_comm (l₁:=[(b,dV x.2.2.2)]) (l₂:=[(x.1,tO b x.2.1 0),(x.2.2.2.u,x.2.2.2.po)])) (List.perm_append_comm (l₁:=kM x.2.2.2) (l₂:=[x.2.2.2.pl]))⟩))) (h:=λ x66 h66=>?_);refine J7 ?_;refine bJ results43 (λ w hw=>?_);exact⟨x66,rfl,h66,hw.ret E0d (bM.dB λ f hf=>by simpa using hf) E0h⟩
       ·try (contradiction)
end
end
section
abbrev Jy(t:oB):List MapEntry:=[⟨.int .i64 0,.agg ⟨[.int .i64 t.root,.bool t.ro]⟩,0⟩]
section
variable{D:List Nat}{A B:Fr}{b bT m bo bt bi:Nat}{w:World}{t:oB}{o:jX}
theorem Sr(ho:o.kind=1∨o.kind=2∨o.kind=3∨o.kind=4∨o.kind=5∨o.kind=7)(h0:o.handle=0)(hk:o.key.size<=64)(hr:t.ro=false)(k:Int)(hs:SF w D [(bT,sL b m bo bt bi),(bt,cQ (Jy t) 1)] [] [] [] w) :
  Calls prog 42 #[pt bT,.int .i64 k,.agg ⟨o.cells⟩] w λ e w'=>e=.returned (.int .i64 0)/\SF w D [(bT,sL b m bo bt bi),(bt,cQ (Jy t) 1)] [] [] [] w':=by
 refine enter func42 ntmps42 rfl rfl hs ?_;simp only[cN];simp only[jX.cells,h0,hr];refine J0 ?_;refine bC (λ x5=>?_);refine lX ?_;refine jN ?_;refine Ph ?_;(refine mN 12 (λ g12=>?_) (λ g12=>?_)<;>(try ((exfalso;omega)))<;>((refine aF ?_;refine aQ ?_)));((refine Kc5 ?_));refine w9 ?_;refine aE ?_;refine aX (λ c16=>?_) (λ c16=>?_);·try ((exfalso;omega))
 ·try (first|contradiction|(exfalso;omega))
  refine lL ?_;refine jN ?_;refine E2 ?_;refine aX (λ c19=>?_) (λ c19=>?_);·try ((exfalso;omega))
  ·try (first|contradiction|(exfalso;omega))
   refine lL ?_;refine eO [(0,[]),(1,[]),(2,[]),(3,[]),(4,[]),(5,[]),(6,[]),(7,[]),(8,[]),(9,[]),(10,[3,5,6]),(11,[]),(12,[])] ?_;refine mD ?_;refine hY ?_;refine aS (i:=6) (hq:=(iE (kH (K:=3) (E:=42) (dK:=.int .i64) (ze:=.agg ⟨[.int .i64 0,.bool false]⟩) (k:=.int .i64 0) (es:=Jy t) (c:=1) (r:=some (0,.agg ⟨[.int .i64 t.root,.bool t.ro]⟩)) rf rf bI (by kernel_rfl) (by kernel_rfl) rfl (by kernel_rfl) rfl))) (h:=?_);refine Kc3 ?_;refine nY (hfire:=(λ _=>by((repeat (first|exact aR.nil|refine aR.cons (by first|exact dZ|exact cR (hq:=iE (kH (K:=3) (E:=42) (dK:=.int .i64) (ze:=.agg ⟨[.int .i64 0,.bool false]⟩) (k:=.int .i64 0) (es:=Jy t) (c:=1) (r:=some (0,.agg ⟨[.int .i64 t.root,.bool t.ro]⟩)) rf rf bI (by kernel_rfl) (by kernel_rfl) rfl (by kernel_rfl) rfl))) ?_));done))) (h:=λ x7=>?_);refine S9 ?_;refine Kb9 ?_;refine aX (λ c37=>?_) (λ c37=>?_);·try (contradiction)
   ·try (first|contradiction|(exfalso;omega))
    refine lL ?_;refine jN ?_;refine yC ?_;refine aB ?_;(refine mN 41 (λ g41=>?_) (λ g41=>?_)<;>(try ((exfalso;omega)))<;>((refine aF ?_;refine aQ ?_)));((refine Kc5 ?_));((refine aF ?_;refine aH (cV (hc:=λ w1 hw=>sA o.key w1)) (λ x44=>?_)));refine Ke4 ?_;refine aX (λ c46=>?_) (λ c46=>?_);·try (contradiction)
    ·try (first|contradiction|(exfalso;omega))
     refine lL ?_;refine K3i ?_;refine aX (λ c49=>?_) (λ c49=>?_)
     ·try (first|contradiction|(exfalso;omega))
      refine bG ?_;refine aX (λ c49=>?_) (λ c49=>?_)
      ·try (first|contradiction|(exfalso;omega))
       refine jN ?_;refine aE ?_;refine aX (λ c58=>?_) (λ c58=>?_)
       ·try (first|contradiction|(exfalso;omega))
        refine eD ?_;refine bJ results42 (λ w hw=>?_);(exfalso;simp_all)
       ·try (first|contradiction|(exfalso;omega))
        refine Ke6 ?_;refine bJ results42 (λ w hw=>?_);exact⟨rfl,hw.ret E0a (bM.dB λ f hf=>hf) (List.Sublist.refl _)⟩
      ·try (contradiction)
     ·try (first|contradiction|(exfalso;omega))
      refine kT ?_;refine aX (λ c49=>?_) (λ c49=>?_)
      ·try (first|contradiction|(exfalso;omega))
       refine bG ?_;refine aX (λ c49=>?_) (λ c49=>?_)
       ·try (first|contradiction|(exfalso;omega))
        refine jN ?_;refine aE ?_;refine aX (λ c58=>?_) (λ c58=>?_)
        ·try (first|contradiction|(exfalso;omega))
         refine eD ?_;refine bJ results42 (λ w hw=>?_);(exfalso;simp_all)
        ·try (first|contradiction|(exfalso;omega))
         refine Ke6 ?_;refine bJ results42 (λ w hw=>?_);exact⟨rfl,hw.ret E0a (bM.dB λ f hf=>hf) (List.Sublist.refl _)⟩
       ·try (contradiction)
      ·try (first|contradiction|(exfalso;omega))
       refine kT ?_;refine aX (λ c49=>?_) (λ c49=>?_)
       ·try (first|contradiction|(exfalso;omega))
        refine bG ?_;refine aX (λ c49=>?_) (λ c49=>?_)
        ·try (first|contradiction|(exfalso;omega))
         refine jN ?_;refine aE ?_;refine aX (λ c58=>?_) (λ c58=>?_)
         ·try (first|contradiction|(exfalso;omega))
          refine eD ?_;refine bJ results42 (λ w hw=>?_);(exfalso;simp_all)
         ·try (first|contradiction|(exfalso;omega))
          refine Ke6 ?_;refine bJ results42 (λ w hw=>?_);exact⟨rfl,hw.ret E0a (bM.dB λ f hf=>hf) (List.Sublist.refl _)⟩
        ·try (contradiction)
       ·try (first|contradiction|(exfalso;omega))
        refine kT ?_;refine aX (λ c49=>?_) (λ c49=>?_)
        ·try (first|contradiction|(exfalso;omega))
         refine bG ?_;refine aX (λ c49=>?_) (λ c49=>?_)
         ·try (first|contradiction|(exfalso;omega))
          refine jN ?_;refine aE ?_;refine aX (λ c58=>?_) (λ c58=>?_)
          ·try (first|contradiction|(exfalso;omega))
           refine eD ?_;refine bJ results42 (λ w hw=>?_);(exfalso;simp_all)
          ·try (first|contradiction|(exfalso;omega))
           refine Ke6 ?_;refine bJ results42 (λ w hw=>?_);exact⟨rfl,hw.ret E0a (bM.dB λ f hf=>hf) (List.Sublist.refl _)⟩
         ·try (contradiction)
        ·try (first|contradiction|(exfalso;omega))
         refine kT ?_;refine aX (λ c49=>?_) (λ c49=>?_)
         ·try (first|contradiction|(exfalso;omega))
          refine bG ?_;refine aX (λ c49=>?_) (λ c49=>?_)
          ·try (first|contradiction|(exfalso;omega))
           refine jN ?_;refine aE ?_;refine aX (λ c58=>?_) (λ c58=>?_)
           ·try (first|contradiction|(exfalso;omega))
            refine eD ?_;refine bJ results42 (λ w hw=>?_);(exfalso;simp_all)
           ·try (first|contradiction|(exfalso;omega))
            refine Ke6 ?_;refine bJ results42 (λ w hw=>?_);exact⟨rfl,hw.ret E0a (bM.dB λ f hf=>hf) (List.Sublist.refl _)⟩
          ·try (contradiction)
         ·try (first|contradiction|(exfalso;omega))
          refine kT ?_;refine aX (λ c49=>?_) (λ c49=>?_);·try ((exfalso;omega))
          ·try (first|contradiction|(exfalso;omega))
           refine eC ?_;refine Sx ?_;refine aX (λ c49=>?_) (λ c49=>?_);·try ((exfalso;omega))
           ·try (first|contradiction|(exfalso;omega))
            refine Kd5 ?_;refine aX (λ c59=>?_) (λ c59=>?_);·try ((exfalso;omega))
            ·try (first|contradiction|(exfalso;omega))
             refine eC ?_;refine Sx ?_;refine aX (λ c59=>?_) (λ c59=>?_);·try ((exfalso;omega))
             ·try (first|contradiction|(exfalso;omega))
              refine Ke6 ?_;refine bJ results42 (λ w hw=>?_);exact⟨rfl,hw.ret E0a (bM.dB λ f hf=>hf) (List.Sublist.refl _)⟩
end
end
end Go.Proofs.YtdeecdfockjoiaaGreatDoor
namespace Go.Ct
open Go Go.RowKit
section
abbrev Mm.wp(s:Mm)(π:Pv):Mm:=⟨s.nodes,s.cs,s.gen,π⟩
theorem G6(π:Pv):∀(t:Tr) (s:Mm),jT t (s.wp π)=((jT t s).1,(jT t s).2.wp π)
 | .done _,_=>rfl
 | .load _ _,_=>rfl
 | .sJ _ _ _ _,_=>rfl
 | .alloc n i k,s=>G6 π (k ((s.nodes.length+1:Nat):Int)) (s.push n i)
 | .cell i k,s=>G6 π (k ((s.cs.length+1:Nat):Int)) ⟨s.nodes,s.cs++[i],s.gen,s.pv⟩
 | .gen k,s=>G6 π (k (s.gen+1)) ⟨s.nodes,s.cs,s.gen+1,s.pv⟩
 | .node r k,s=>G6 π (k (aD s.nodes r)) s
 | .stuck,_=>rfl
theorem aA0(π:Pv)(t:Tr)(s:Mm):nxT t (s.wp π)=((nxT t s).1,(nxT t s).2.wp π):=by cases t<;>rfl
theorem aBw(π:Pv)(t:Tr)(s:Mm):mC (t,s.wp π)=((mC (t,s)).1,(mC (t,s)).2.wp π):=by unfold mC;simp only[aA0];exact G6 π _ _
end
section
structure lW where
 n:Nat
 kind:Int
 fin:Bool
 born:Nat
def lH:List lW->Nat->Nat->Option (Nat×lW)
 | [],_,_=>none
 | e::l,n,i=>if e.n=n then some (i,e) else lH l n (i+1)
theorem An(e:lW):∀(l:List lW) (n i:Nat),lH (l++[e]) n i=(lH l n i).or (if e.n=n then some (i+l.length,e) else none)
 | [],n,i=>by simp[lH]
 | x::l,n,i=>by
  simp only[List.cons_append,lH];by_cases h:x.n=n;·simp[h]
  ·rw[if_neg h,if_neg h,An e l n (i+1)];simp only[List.length_cons];rw[show i+1+l.length=i+(l.length+1) by omega]
theorem F9:∀{l:List lW} {n i q:Nat} {e:lW},lH l n i=some (q,e)->e.n=n/\i<=q/\l[q-i]?=some e
 | [],_,_,_,_,h=>by cases h
 | x::l,n,i,q,e,h=>by
  simp only[lH] at h;by_cases hx:x.n=n
  ·rw[if_pos hx] at h;injection h with h
   injection h with h1 h2
   subst h1 h2;exact⟨hx,Nat.le_refl _,by simp⟩
  ·rw[if_neg hx] at h;obtain⟨h1,h2,h3⟩:=F9 h;refine⟨h1,by omega,?_⟩;rw[show q-i=q-(i+1)+1 by omega,List.getElem?_cons_succ];exact h3
theorem P0:∀{l:List lW} {n i q:Nat} {e e':lW},lH l n i=some (q,e)->e'.n=n->∀n',lH (l.set (q-i) e') n' i=if n'=n then some (q,e') else lH l n' i
 | [],_,_,_,_,_,h,_,_=>by cases h
 | x::l,n,i,q,e,e',h,he,n'=>by
  simp only[lH] at h;by_cases hx:x.n=n
  ·rw[if_pos hx] at h;injection h with h
   injection h with h1 h2
   subst h1 h2;rw[Nat.sub_self,List.set_cons_zero];simp only[lH];by_cases h':n'=n;·rw[if_pos h',if_pos (by omega)]
   ·rw[if_neg h',if_neg (by omega),if_neg (by omega)]
  ·rw[if_neg hx] at h;obtain⟨h1,h2,h3⟩:=F9 h;have ih:=P0 h he n';rw[show q-i=q-(i+1)+1 by omega,List.set_cons_succ];simp only[lH];by_cases h':x.n=n';·rw[if_pos h',if_pos h',if_neg (by omega)]
   ·rw[if_neg h',if_neg h',ih]
end
end Go.Ct
namespace Go.Proofs.YtdeecdfockjoiaaGreatDoor
open Go Go.RowKit Go.Ct
section
structure zj where
 bt:Nat
 c:Cd
 n:Nat
 T:Tr
 u:Nat
 po:Obj
 pl:Ow
structure jD where
 op:Option Addr
 oc:Nat
 ops:List jX
 idx:Nat
 pr:Option zj
def jD.cells(t:jD):List Value:=[.slice t.op t.ops.length t.oc,.int .i64 ((t.idx:Nat):Int),.pointer (t.pr.map λ p=>⟨p.bt,0,none⟩)]
def jD.abs(t:jD):X5:=⟨t.ops,t.idx,t.pr.map zj.T⟩
def oR.cells(e:oR):List Value:=[.int .i64 ((e.thr:Nat):Int),.int .i64 ((e.idx:Nat):Int),.bool e.ret,.int .i64 e.r.err,.bool e.r.found,.int .u64 e.r.val,.string e.r.key,.int .i64 e.r.jG,.int .i64 e.r.ref,.int .i64 e.r.root,.bool e.r.ro]
theorem dO(t:jD):t.cells.length=3:=rfl
theorem iQ(e:oR):e.cells.length=11:=rfl
theorem lD(o:jX):o.cells.length=5:=rfl
abbrev cu(l:List jD):List Value:=eV jD.cells l
abbrev Fk(l:List oR):List Value:=eV oR.cells l
abbrev iB(l:List jX):List Value:=eV jX.cells l
def lP(k i:Nat):Nat:=1+k*16+i
theorem B4{k i k' i':Nat}(hi:i<16)(hi':i'<16)(h:lP k i=lP k' i'):k=k'/\i=i':=by unfold lP at h;omega
structure MV where
 a:AS
 es:List lW
 ec:Nat
 th:List jD
 tp:Option Addr
 tc:Nat
 hi:List oR
 hp:Option Addr
 hc:Nat
 jG:Int
 B:Fr
structure Gs(o:jX):Prop where
 kind:o.kind=1∨o.kind=2∨o.kind=3∨o.kind=4∨o.kind=5∨o.kind=7
 handle:o.handle=0
 key:o.key.size<=64
def Jr(es:List lW)(k:Nat)(t:jD):Prop :=
 match t.pr with
 | none=>∀i,t.idx<=i->i<16->lH es (lP k i) 0=none
 | some _=>(∃q e,lH es (lP k t.idx) 0=some (q,e)/\e.fin=false/\(e.kind=1∨e.kind=2∨e.kind=3∨e.kind=4∨e.kind=5∨e.kind=7))/\∀i,t.idx<i->i<16->lH es (lP k i) 0=none
def lW.e(t:oB)(x:lW):MapEntry:=⟨.int .i64 ((x.n:Nat):Int),.agg ⟨[.int .i64 x.kind,.int .i64 t.root,.bool t.ro,.bool x.fin]⟩,x.born⟩
theorem Nx(t:oB):∀(l:List lW) (n i:Nat),Instr.findNow (.int .i64) (.int .i64 ((n:Nat):Int)) (l.map (lW.e t)) i=some ((lH l n i).map λ q=>(q.1,(lW.e t q.2).val))
 | [],n,i=>rfl
 | x::l,n,i=>by
  simp only[List.map_cons,Instr.findNow,lW.e,Instr.sameNow,lH];by_cases h:x.n=n;·subst h;simp
  ·have hne:((((n:Nat):Int))==((x.n:Nat):Int))=false:=by simp;omega
   rw[if_neg h,hne];exact Nx t l n (i+1)
abbrev mcC(b bT:Nat)(pk:Option Addr×Nat×Nat)(V:MV):List Value:=[pt b,pt bT,.slice V.tp V.th.length V.tc,.slice pk.1 pk.2.1 pk.2.2,.slice V.hp V.hi.length V.hc,.int .i64 V.jG]
abbrev Gc(b bT:Nat)(pk:Option Addr×Nat×Nat)(V:MV):Obj:=.cells ⟨mcC b bT pk V⟩ 68 (0,0)
def No(b:Nat)(t:jD):List (Nat×Obj):=match t.pr with|none=>[]|some p=>[(p.bt,tO b p.c p.n),(p.u,p.po)]
abbrev uR(m b bm bT bo bt bi:Nat)(pk:Option Addr×Nat×Nat)(V:MV):List (Nat×Obj):=[(bm,Gc b bT pk V),(bT,sL b m bo bt bi),(bo,cQ (V.es.map (lW.e t3)) V.ec),(bt,cQ (Jy t3) 1),(b,dV V.a)]
abbrev xu(m b bm bT bo bt bi:Nat)(pk:Option Addr×Nat×Nat)(V:MV):List (Nat×Obj):=uR m b bm bT bo bt bi pk V++V.th.flatMap (No b)
def Pg(t:jD):List Ow:=match t.pr with|none=>[]|some p=>[p.pl]
abbrev xO(V:MV):List Ow:=⟨V.tp,cu V.th,V.tc,78,3⟩::⟨V.hp,Fk V.hi,V.hc,61,11⟩::kM V.a
abbrev tpW(V:MV):List Ow:=[⟨V.tp,cu V.th,V.tc,78,3⟩]
abbrev ax(V:MV):List Ow:=[⟨V.hp,Fk V.hi,V.hc,61,11⟩]
abbrev Sd(V:MV)(o:Ow):List Ow:=⟨V.tp,cu V.th,V.tc,78,3⟩::⟨V.hp,Fk V.hi,V.hc,61,11⟩::o::kM V.a
abbrev xQ(V:MV):List Ow:=⟨V.tp,cu V.th,V.tc,78,3⟩::⟨V.hp,Fk V.hi,V.hc,61,11⟩::(kM V.a++V.th.flatMap Pg)
structure MI(b C:Nat)(Z:AM)(V:MV):Prop where
 ok:V.a.Ok
 up:V.a.mm=Z.s.wp V.a.pv
 th:V.th.map jD.abs=Z.th
 hist:V.hi=Z.hist
 tb:∀k t,V.th[k]?=some t->Jr V.es k t
 pr:∀t∈V.th,∀p,t.pr=some p->eH b p.T (V.a.mm.wp ((p.u,p.po),p.pl)) p.c (V.a.mm.wp ((p.u,p.po),p.pl)) V.B/\fI p.T=true/\p.T.live=true/\p.n<=C
 fam:∀f∈dD V.a.L,f.2=[]∨f∈V.B
 fo:∀t∈V.th,(t.op,iB t.ops)∈V.B
 oo:∀t∈V.th,t.ops.length<=16/\t.idx<=t.ops.length/\(t.pr≠none->t.idx<t.ops.length)/\∀o∈t.ops,Gs o
 tl:V.th.length<=8
 hl:V.hi.length<=2*C
end
end Go.Proofs.YtdeecdfockjoiaaGreatDoor

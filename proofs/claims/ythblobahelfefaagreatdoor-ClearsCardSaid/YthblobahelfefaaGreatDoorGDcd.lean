/- Merged. -/
import Derived.Test.YthblobahelfefaaGreatDoorDcc
import Derived.Test.YthblobahelfefaaGreatDoorGSc4
set_option linter.unusedSimpArgs false
set_option linter.unusedVariables false
namespace Go.Proofs.YthblobahelfefaaGreatDoor
open Go.Proofs.Tryz
open Go Go.RowKit Go.Ct
section
section
variable{w:World}{p pl:Option Addr}{c cl m:Nat}{ls:List eE}{l:List gE}{pk:Nat->ByteArray}
variable{x:Yv}{F:Fr}{O:List Ow}
theorem ox(h:∀f∈x.fr l,f∈F):bL (inA p ls pl l) F O (Ie x l p ls):=bL.of λ f hf=>by
 rcases List.mem_append.1 hf with h1|h1;·exact .inr (.inr (.inl (h f h1)))
 ·rcases List.mem_cons.1 h1 with rfl|h1;·exact .inr (.inl List.mem_cons_self)
  ·exact .inr (.inl (List.mem_cons_of_mem _ (List.mem_cons_of_mem _ h1)))
theorem aCp{y:Xg}{cs:List (Nat×Nat)}(hy:∀f∈y.fr l ls cs,f∈F)(h:∀f∈x.fr l,f∈F):bL (inA p ls pl l) F O (frA x y p ls l cs):=bL.of λ f hf=>by
 rcases List.mem_append.1 hf with h1|h1;·exact .inr (.inr (.inl (hy f h1)))
 ·rcases List.mem_append.1 h1 with h1|h1;·exact .inr (.inr (.inl (h f h1)))
  ·rcases List.mem_cons.1 h1 with rfl|h1;·exact .inr (.inl List.mem_cons_self)
   ·exact .inr (.inl (List.mem_cons_of_mem _ (List.mem_cons_of_mem _ h1)))
set_option maxRecDepth 100000 in
theorem S8(hd:DP pk ls l)(hK:Vb pk)(hm:m<18446744073709551616)(hn:(gA ls ls.length).length<=16)(hI:Ds l l.length<=16)(hC:oV pk ls l (gA ls ls.length) 0 [])(h:bh w p ls pl l):Calls prog 11 #[.int .u64 (m:Int),.slice p ls.length c,.slice pl l.length cl] w λ e w'=>∃x:Option Addr×Nat,e=.returned (.tuple #[.slice x.1 (gA ls ls.length).length x.2,.bool true,.int .i64 0])/\True/\Ct.St w [] [] w':=by
 have hcs:=λ(a:Nat×Nat) (h:a∈gA ls ls.length)=>N4 h;refine enter func11 ntmps11 rfl rfl h.start ?_;simp only[bY]
 refine J0 ?_;refine fD (λ _=>?_);refine J8 ?_;refine Ir ?_;refine aK (cV (hc:=λ w1 hw=>Z3 hd.hp (bh.of hw))) (λ x14=>?_);refine Kb7 ?_;refine Kc0 ?_;refine aX (λ c16=>?_) (λ c16=>?_);·exact nv c16
 ·try (first|contradiction|(exfalso;omega))
  refine mD ?_;refine J2 ?_;refine aJ (c0 (φ:=λ x:Option Addr×Nat×Nat=>x.2.1<=Ds l l.length) (V:=λ x:Option Addr×Nat×Nat=>.slice x.1 x.2.1 x.2.2) (hc:=λ w1 hw=>Q6 hd.hp (bh.of hw))) (λ x19 h19=>?_);refine cZ ?_;refine Bs ?_;refine aC ?_;refine aX (λ c21=>?_) (λ c21=>?_);·try ((exfalso;omega))
  ·try (first|contradiction|(exfalso;omega))
   refine Ix ?_;refine aJ (fv (φ:=λ x:Yv=>A9 ls ls.length x.ts) (V:=λ x:Yv=>pt x.b) (Hc:=λ x=>[(x.b,sD p ls.length c x)]) (Fc:=λ x=>x.fr l) (Oc:=λ _=>[]) (hc:=λ w1 hw=>Qq hd.hp (bh.of hw))) (λ x24 h24=>?_);refine Kc5 ?_;refine aJ (cM (φ:=λ _=>True) (V:=λ _:Unit=>.bool true) (hs:=[(x24.b,sD p ls.length c x24)]) (os:=[]) (A0:=Ie x24 l p ls) (hs':=λ _=>[(x24.b,sD p ls.length c x24)]) (os':=λ _=>[]) (Fc:=λ _=>[]) (hc:=λ w1 hw=>(jr hd h24 hw).mono λ _ _ ⟨e,h⟩=>⟨(),e,trivial,h⟩) (hA:=ox (λ f hf=>by simpa using hf))) (λ x26 h26=>?_);refine pG ?_;refine aX (λ c27=>?_) (λ c27=>?_);·exact nv c27
   ·try (first|contradiction|(exfalso;omega))
    refine Kc6 ?_;refine aJ (Pq (V:=λ y:Xg=>pt y.b) (hs:=[(x24.b,sD p ls.length c x24)]) (os:=[]) (hs':=λ _=>[(x24.b,sD p ls.length c x24)]) (Hc:=λ y=>[(y.b,cz x24.b (gA ls ls.length).length y),(y.mf,bV [] 0)]) (os':=λ _=>[]) (Oc:=λ _=>[]) (Fc:=λ y=>y.fr l ls (gA ls ls.length)) (A0:=Ie x24 l p ls) (hc:=λ w1 hw=>Rj hd hn h24 hw) (hA:=ox (λ f hf=>by simpa using hf))) (λ x29 h29=>?_);refine nN ?_;refine rY (λ w hw=>hw.gN 91 2) ?_;refine U4 ?_;refine aJ (fv (V:=λ f:fz=>pt f.b) (Hc:=λ f=>pP m f (kW pk []) 0) (Fc:=λ _=>[]) (Oc:=λ _=>[]) (hc:=λ w1 hw=>w4 m w1)) (λ x33 h33=>?_);refine aJ (cM (φ:=aCX pk ls l (gA ls ls.length) 0 [] []) (V:=FrV) (hs:=frH p ls.length c m (gA ls ls.length).length x24 x29 x33 [] 0 (kW pk []) 0) (os:=[⟨none,dE sU [],0,91,2⟩]) (A0:=frA x24 x29 p ls l (gA ls ls.length)) (hs':=λ q:FrR=>frH p ls.length c m (gA ls ls.length).length x24 x29 x33 q.2.2.1 q.2.2.2 (kW pk []) 0) (os':=λ _=>[⟨none,dE sU [],0,91,2⟩]) (Fc:=λ _=>[]) (hc:=λ w1 hw=>aCm hd h24 hK hm hn hcs (gA ls ls.length).length 0 [] [] 0 x33 [] 0 none 0 _ w1 (Nat.two_pow_pos _) (by rw[F3,Nat.zero_add]) (by rw[F3];rfl) (VM.nil 0) (λ e he=>nomatch he) hw) (hA:=aCp (λ f hf=>List.mem_append_left _ hf) (λ f hf=>List.mem_append_right (x29.fr l ls (gA ls ls.length)) (by simpa using hf)))) (λ x34 h34=>?_);obtain⟨fd,⟨fa,fn,fc⟩,fe,fk⟩:=x34;have hfd:fd=true:=by
     cases fd with
     | true=>rfl
     | false=>exact absurd hC (h34.2 rfl).1
    subst hfd;obtain rfl:fn=(gA ls ls.length).length:=h34.1 rfl;dsimp only;refine Ot ?_;refine J8 ?_;refine lV ?_;refine fD (λ _=>?_);refine J8 ?_;refine bJ results11 (λ w hw=>?_);exact⟨(fa,fc),rfl,trivial,hw.done⟩
end
end
section
abbrev oA(v:Int):kA:=⟨1,0,Dz,v,0⟩
abbrev lA:kA:=⟨7,0,Dz,0,0⟩
abbrev lsD(p0:Option Addr)(c0:Nat)(p1:Option Addr)(c1:Nat):List eE:=[⟨p0,c0,[oA 1]⟩,⟨p1,c1,[oA 2,lA]⟩]
abbrev cd3:List (Nat×Nat):=[(0,0),(1,0),(1,1)]
def Qw(_:Nat):ByteArray:=Dz
section
variable{p0 p1:Option Addr}{c0 c1:Nat}
theorem Lt{a:Nat×Nat}{o:kA}(h:Ki (lsD p0 c0 p1 c1) a=some o):(a=(0,0)/\o=oA 1)∨(a=(1,0)/\o=oA 2)∨(a=(1,1)/\o=lA):=by
 obtain⟨t,i⟩:=a;obtain⟨s,h1,h2,h3⟩:=Cs h;match t,i,h1,h2 with
 | 0,0,h1,h2=>cases h1;cases h2;exact .inl ⟨rfl,rfl⟩
 | 0,i+1,h1,h2=>cases h1;cases h2
 | 1,0,h1,h2=>cases h1;cases h2;exact .inr (.inl ⟨rfl,rfl⟩)
 | 1,1,h1,h2=>cases h1;cases h2;exact .inr (.inr ⟨rfl,rfl⟩)
 | 1,i+2,h1,h2=>cases h1;cases h2
 | t+2,i,h1,h2=>cases h1
theorem dpA:DP Qw (lsD p0 c0 p1 c1) vh:=by
 refine⟨⟨by show 2<=8;decide,λ s hs=>?_,by decide,λ z e he=>?_⟩,λ a o h=>?_,λ a o h=>?_⟩
 ·simp only[List.mem_cons,List.not_mem_nil,or_false] at hs;rcases hs with rfl|rfl;·show 1<=16;decide
  ·show 2<=16;decide
 ·match z,he with
  | 0,he=>cases he;exact⟨⟨_,rfl,by show 0<1;decide⟩,rfl,λ _=>rfl⟩
  | 1,he=>cases he;exact⟨⟨_,rfl,by show 0<2;decide⟩,rfl,λ _=>rfl⟩
  | 2,he=>cases he;exact⟨⟨_,rfl,by show 0<1;decide⟩,rfl,λ h=>by cases h⟩
  | 3,he=>cases he;exact⟨⟨_,rfl,by show 0<2;decide⟩,rfl,λ h=>by cases h⟩
  | 4,he=>cases he;exact⟨⟨_,rfl,by show 1<2;decide⟩,rfl,λ _=>rfl⟩
  | 5,he=>cases he;exact⟨⟨_,rfl,by show 1<2;decide⟩,rfl,λ h=>by cases h⟩
  | z+6,he=>cases he
 ·rcases Lt h with⟨_,rfl⟩|⟨_,rfl⟩|⟨_,rfl⟩;·exact Jg.put (pk:=Qw) 1 (.inl rfl) (by decide)
  ·exact Jg.put (pk:=Qw) 2 (.inr rfl) (by decide)
  ·exact Jg.look Dz (by decide)
 ·rcases Lt h with⟨rfl,_⟩|⟨rfl,_⟩|⟨rfl,_⟩;·exact⟨0,2,rfl,rfl,rfl⟩
  ·exact⟨1,3,rfl,rfl,rfl⟩
  ·exact⟨4,5,rfl,rfl,rfl⟩
theorem aCP:oV Qw (lsD p0 c0 p1 c1) vh cd3 0 []:=by
 refine .step 0 (0,0) (oA 1) rfl rfl rfl (by decide) (by kernel_rfl) ?_;refine .step 1 (1,0) (oA 2) rfl rfl rfl (by decide) (by kernel_rfl) ?_;refine .step 2 (1,1) lA rfl rfl rfl (by decide) (by kernel_rfl) ?_;refine .done ?_;rintro ⟨i,hi,hb⟩;match i,hi,hb with
 | 0,_,hb=>cases hb
 | 1,_,hb=>cases hb
 | 2,_,hb=>cases hb
 | i+3,hi,_=>exact absurd hi (by show ¬i+3<3;omega)
theorem Zs(w:World)(p pl:Option Addr)(c cl:Nat)(hp:Go.Ct.Cl w p (jX (lsD p0 c0 p1 c1)))(h0:Go.Ct.Cl w p0 (iG [oA 1]))(h1:Go.Ct.Cl w p1 (iG [oA 2,lA]))(hl:Go.Ct.Cl w pl (Uo vh)):Calls prog 11 #[.int .u64 63,.slice p 2 c,.slice pl 6 cl] w λ e w'=>∃x:Option Addr×Nat,e=.returned (.tuple #[.slice x.1 3 x.2,.bool true,.int .i64 0])/\True/\Ct.St w [] [] w' :=
 S8 (m:=63) (ls:=lsD p0 c0 p1 c1) (l:=vh) (pk:=Qw) dpA (λ _ _=>(by decide:Dz.size<=64)) (by decide) (by show 3<=16;decide) (by decide) aCP ⟨hp,hl,λ s hs=>by
  simp only[List.mem_cons,List.not_mem_nil,or_false] at hs;rcases hs with rfl|rfl;·exact h0
  ·exact h1⟩
end
end
section
theorem aGb:∀s∈opA,s.length<=16/\∀o∈s,H7 o:=by
 intro s hs;have k1:ByteArray.size Dz<=64:=by decide
 simp only[opA,List.mem_cons,List.not_mem_nil,or_false] at hs;rcases hs with rfl|rfl;·refine⟨by decide,λ o ho=>?_⟩;simp only[List.mem_cons,List.not_mem_nil,or_false] at ho;subst ho;exact⟨.inl rfl,rfl,k1⟩
 ·refine⟨by decide,λ o ho=>?_⟩;simp only[List.mem_cons,List.not_mem_nil,or_false] at ho;rcases ho with rfl|rfl;·exact⟨.inl rfl,rfl,k1⟩
  ·exact⟨.inr (.inr (.inr (.inr (.inr rfl)))),rfl,k1⟩
theorem Wl{w0 w:World}{M:List Nat}{A F F0:Fr}{V:MV}{L:List (Nat×Obj)}{q:Nat×Obj}(h:SF w0 M (L++[q]) A (F++F0) (Et V++[]) w):SF w0 M (q::L) A (F++F0) (Et V) w:=by rw[List.append_nil] at h;exact h.perm (List.perm_append_comm (l₁:=[q]) (l₂:=L)) (List.Perm.refl _)
theorem La{w:World}{D:List Nat}{A:Fr}{b bm bT:Nat}{pk:Option Addr×Nat×Nat}{V:MV}(hh:V.hi=vh)(hs:SF w D [(bm,Ju b bT pk V)] A [] (vj V) w) :
  Calls prog 12 #[pt bm] w λ e w'=>∃x:Option Addr×Nat,e=.returned (.slice x.1 6 x.2)/\True/\SF w D [(bm,Ju b bT pk V)] [] [(x.1,Uo vh)] (vj V) w' :=
 (Qm (by rw[hh];decide) hs).mono λ e w' ⟨x,e1,h,hw⟩=>⟨x,by rw[e1,hh];rfl,h,by rw[<- hh];exact hw⟩
abbrev lsA(p0 p1:Nat):List eE:=[⟨some ⟨p0,0,none⟩,1,[⟨1,0,Dz,1,0⟩]⟩,⟨some ⟨p1,0,none⟩,2,[⟨1,0,Dz,2,0⟩,⟨7,0,Dz,0,0⟩]⟩]
theorem aB2(p0 p1:Nat):∀s∈lsA p0 p1,s.l.length<=16/\∀o∈s.l,H7 o:=λ s hs=>aGb s.l (by have:s.l∈(lsA p0 p1).map eE.l:=List.mem_map.2 ⟨s,hs,rfl⟩;exact this)
theorem aB6{w:World}{p0 p1:Nat}(h0:Go.Ct.Cl w (some ⟨p0,0,none⟩) (iG [⟨1,0,Dz,1,0⟩]))(h1:Go.Ct.Cl w (some ⟨p1,0,none⟩) (iG [⟨1,0,Dz,2,0⟩,⟨7,0,Dz,0,0⟩])):∀s∈lsA p0 p1,Go.Ct.Cl w s.p (iG s.l):=λ s hs=>by
 simp only[List.mem_cons,List.not_mem_nil,or_false] at hs;rcases hs with rfl|rfl;·exact h0
 ·exact h1
theorem qi:∀k∈u7,k<2:=by decide
set_option maxRecDepth 100000 in
set_option maxHeartbeats 1000000 in
theorem Li(w:World):Calls prog 4 #[] w λ e w'=>e=.returned (.bool true)/\Ct.St w [] [] w':=by
 refine enter func4 ntmps4 rfl rfl (SF.s0 w) ?_;simp only[bY];refine cC ?_;refine J0 ?_;refine aK (cV (hc:=λ w1 hw=>Bp Dz 1 w1)) (λ x7=>?_);refine aK E0h (λ x8=>?_);refine aK (cV (hc:=λ w1 hw=>Bp Dz 2 w1)) (λ x9=>?_);refine bX ?_;refine aK E0h (λ x11=>?_);refine aK E0u (λ x12=>?_);refine sP (λ x13=>?_);refine bX ?_;refine aI (λ x1=>?_);refine J5 ?_;refine tB ?_;(refine aK (aQ.conv (fv (V:=λ x:NW=>.tuple #[pt x.bm,.int .i64 0]) (φ:=aDT 63 (lsA x8 x11) u7) (Hc:=λ x=>NW.L 63 x x.V) (Fc:=λ x=>x.V.B) (Oc:=λ x=>Et x.V) (hc:=λ w1 hw=>V2 (m:=63) (ls:=lsA x8 x11) (pk:=u7) (p:=some ⟨x12,0,none⟩) (p2:=some ⟨x13,0,none⟩) (c:=2) (c2:=12) (Nat.le_of_ble_eq_true rfl) (aB2 _ _) (by decide) qi (hw.cl (.new (.tail .head))) (hw.cl (.new .head)) (aB6 (hw.cl (.new (.tail (.tail (.tail .head))))) (hw.cl (.new (.tail (.tail .head))))))) (λ x w h=>And.intro h.1 (show SF _ _ ((x1,.cells ⟨[.int .u64 63,.slice (some ⟨x12,0,none⟩) 2 2,.slice (some ⟨x13,0,none⟩) 12 12]⟩ 31 (0,0))::NW.L 63 x x.V) [] (x.V.B++[(some ⟨x13,0,none⟩,aN (oF u7)),(some ⟨x12,0,none⟩,jX (lsA x8 x11)),(some ⟨x11,0,none⟩,iG [⟨1,0,Dz,2,0⟩,⟨7,0,Dz,0,0⟩]),(some ⟨x8,0,none⟩,iG [⟨1,0,Dz,1,0⟩])]) (Et x.V) _ from Wl h.2))) (λ x17=>?_);try (refine eF (λ h17=>?_)));refine Ot ?_;refine J8 ?_;refine jF ?_;refine jI ?_;refine aD ?_;(refine Ka4 ?_);refine Ja ?_;refine aC ?_;refine aX (λ c25=>?_) (λ c25=>?_);·try (contradiction)
 ·try (first|contradiction|(exfalso;omega))
  refine Kc6 ?_;refine aJ (cT 1 0 (hs:=NW.L 63 x17 x17.V) (os:=Et x17.V) (A0:=cH x17.V.a.L++x17.V.B) (V:=λ x:MV×Fr=>.tuple #[]) (F1:=λ x:MV×Fr=>x.1.B++[(some ⟨x13,0,none⟩,aN (oF u7)),(some ⟨x12,0,none⟩,jX (lsA x8 x11)),(some ⟨x11,0,none⟩,iG [⟨1,0,Dz,2,0⟩,⟨7,0,Dz,0,0⟩]),(some ⟨x8,0,none⟩,iG [⟨1,0,Dz,1,0⟩])]) (hc:=λ w1 hw=>W9 (m:=63) (n:=2) (l:=u7) h17.mi rfl qi (X7 (aDV x17.V.a.pv)) h17.pkm h17.pl (by decide) (by decide) (λ f hf=>List.mem_append_right _ hf) hw) (hA:=Y7 h17.mi (λ f hf=>List.mem_append_left _ hf)) (hF1:=E0v)) (λ x27 h27=>?_);obtain⟨hd1,hd2⟩:=W8 (qt x17.V.a.pv);refine Kc3 ?_;refine aJ (cT 1 0 (hs:=NW.L 63 x17 x27.1) (os:=Et x27.1) (A0:=cH x27.1.a.L++x27.1.B) (V:=λ x:MV×Fr=>.bool true) (F1:=λ x:MV×Fr=>x.1.B++[(some ⟨x13,0,none⟩,aN (oF u7)),(some ⟨x12,0,none⟩,jX (lsA x8 x11)),(some ⟨x11,0,none⟩,iG [⟨1,0,Dz,2,0⟩,⟨7,0,Dz,0,0⟩]),(some ⟨x8,0,none⟩,iG [⟨1,0,Dz,1,0⟩])]) (hc:=λ w1 hw=>Kp (m:=63) (n:=2) (K:=22) (most:=1000) h27.1 (by rw[H3];rfl) (by decide) hd1 hd2 (by decide) (by decide) (by decide) (by decide) (λ f hf=>List.mem_append_right _ hf) hw) (hA:=Y7 h27.1 (λ f hf=>List.mem_append_left _ hf)) (hF1:=E0v)) (λ x29 h29=>?_);have hhi:x29.1.hi=vh:=h29.1.hist.trans (vo x17.V.a.pv);clear hd1 hd2;refine fl ?_;(refine Ka4 ?_);((refine aG ?_;refine aJ (cM (V:=λ x:Option Addr×Nat=>.slice x.1 6 x.2) (hs:=[(x17.bm,Ju x17.b x17.bT x17.pk x29.1)]) (os:=vj x29.1) (A0:=[]) (hs':=λ _=>[(x17.bm,Ju x17.b x17.bT x17.pk x29.1)]) (os':=λ _=>vj x29.1) (Fc:=λ x=>[(x.1,Uo vh)]) (hc:=λ w1 hw=>La hhi hw)) (λ x33 h33=>?_)));((refine aG ?_;refine cZ ?_));refine J38 ?_;refine aC ?_;refine aX (λ c36=>?_) (λ c36=>?_)
  ·exact nv c36
  ·try (first|contradiction|(exfalso;omega))
   refine mD ?_;refine eQ [(0,[]),(1,[]),(2,[]),(3,[]),(4,[]),(5,[1,3]),(6,[]),(7,[]),(8,[]),(9,[]),(10,[]),(11,[]),(12,[]),(13,[])] ?_;refine Kb8 ?_;refine aR ?_;refine bS (i:=5) (hq:=(cM (V:=λ x:Option Addr×Nat=>.slice x.1 6 x.2) (hs:=[(x17.bm,Ju x17.b x17.bT x17.pk x29.1)]) (os:=vj x29.1) (A0:=[]) (hs':=λ _=>[(x17.bm,Ju x17.b x17.bT x17.pk x29.1)]) (os':=λ _=>vj x29.1) (Fc:=λ x=>[(x.1,Uo vh)]) (hc:=λ w1 hw=>La hhi hw))) (h:=λ x43 h43=>?_);refine bS (i:=6) (hq:=(c0 (V:=λ x:Option Addr×Nat=>.tuple #[.slice x.1 3 x.2,.bool true,.int .i64 0]) (hc:=λ w1 hw=>Zs (p0:=some ⟨x8,0,none⟩) (p1:=some ⟨x11,0,none⟩) (c0:=1) (c1:=2) w1 (some ⟨x12,0,none⟩) x43.1 2 x43.2 (hw.cl (.new (lQ.dS (by simp)))) (hw.cl (.new (lQ.dS (by simp)))) (hw.cl (.new (lQ.dS (by simp)))) (hw.cl (.new .head))))) (h:=λ x44 h44=>?_);refine K0x ?_;refine cP ?_;refine oK (h:=λ _=>?_);refine mg ?_;refine lV ?_;(refine Ka4 ?_);refine Ja ?_;refine aD ?_;(refine Ka4 ?_);((refine aG ?_;refine cZ ?_));refine Ja ?_;refine J1 ?_;refine aP results4 (λ w hw=>?_);exact⟨rfl,hw.done⟩
end
section
theorem ll{R:Nat->Nat}{U:Nat->Prop}{n:Nat}:∀(v j:Nat),R j<=v->j<n->U j->∃j,j<n/\U j/\∀i,i<n->U i->R j<=R i
 | 0,j,h,hj,hu=>⟨j,hj,hu,λ i _ _=>by omega⟩
 | v+1,j,h,hj,hu=>by
  by_cases hx:∃i,i<n/\U i/\R i<R j;·obtain⟨i,hi,h1,h2⟩:=hx;exact ll v i (by omega) hi h1
  ·exact⟨j,hj,hu,λ i hi h1=>Nat.le_of_not_lt λ h2=>hx ⟨i,hi,h1,h2⟩⟩
def nU(us:List Nat)(u:Nat):Nat:=us.length-us.idxOf u
def Zi(us:List Nat)(t:Nat):List Nat:=us.drop (us.length-t)
variable{a us:List Nat}{u:Nat}
theorem aDC(h:a <:+ us):a=Zi us a.length:=List.suffix_iff_eq_drop.1 h
theorem r8(h:a <:+ us)(hn:us.Nodup)(hu:u∈us):u∈a↔nU us u<=a.length:=by
 obtain⟨pre,rfl⟩:=h;unfold nU;rw[List.length_append,List.idxOf_append];rw[List.nodup_append] at hn;constructor;·intro ha;rw[if_neg (λ hp=>hn.2.2 u hp u ha rfl)];omega
 ·intro h;refine Classical.byContradiction λ ha=>?_;have hp:u∈pre:=(List.mem_append.1 hu).resolve_right ha;rw[if_pos hp] at h;have:=List.idxOf_lt_length_iff.2 hp;omega
theorem T7(hu:u∈us):1<=nU us u/\nU us u<=us.length:=by have:=List.idxOf_lt_length_iff.2 hu;unfold nU;omega
theorem jf(hu:u∈us):Zi us (nU us u)=u::Zi us (nU us u-1):=by have h:=List.idxOf_lt_length_iff.2 hu;unfold Zi nU;rw[show us.length-(us.length-us.idxOf u)=us.idxOf u by omega,show us.length-(us.length-us.idxOf u-1)=us.idxOf u+1 by omega,List.drop_eq_getElem_cons h,List.getElem_idxOf]
theorem xm(us:List Nat)(t:Nat):Zi us t <:+ us:=List.drop_suffix _ _
def Jr(us:List Nat):List Nat:=us.filter λ x=>decide (x<3)
theorem Gg{u:Nat}(hu:u<2):∀us:List Nat,cont (Jr us) u=cont us u
 | []=>rfl
 | x::us=>by
  unfold Jr;rw[List.filter_cons];split;·simp only[cont];have:=Gg hu us;unfold Jr at this;rw[this]
  ·rename_i h;have h3:¬x<3:=by simpa using h
   have:=Gg hu us;unfold Jr at this;rw[this,cont,if_neg (by omega)];have:(x==u)=false:=by rw[beq_eq_false_iff_ne];omega
   rw[this,Bool.false_or]
theorem Ey{u:Nat}(hu:u<3)(us:List Nat):u∈Jr us↔u∈us:=by simp[Jr,hu]
theorem Fb{a b:List Nat}(h:a <:+ b):Jr a <:+ Jr b:=h.filter _
section
variable{C:KP}{l:List gE}{ts:List (List Nat)}{us:List Nat}{k i:Nat}
theorem zk{r:Rs}{a b:List Nat}(hk:k<3)(hi:i<pL k)(h:vf C k i r a b):vf C k i r (Jr a) (Jr b):=by
 unfold vf at h ⊢;split at h;·exact⟨h.1,(Ey hk b).2 h.2.1,λ h2=>h.2.2 ((Ey hk a).1 h2)⟩
 ·exact⟨h.1,(Ey (by decide) b).2 h.2.1,λ h2=>h.2.2 ((Ey (by decide) a).1 h2)⟩
 ·rename_i u e;obtain⟨ws,h1,h2,h3⟩:=h;exact⟨Jr ws,Fb h1,Fb h2,by rw[Gg (Rv e)];exact h3⟩
theorem tN.flt(h:tN C l ts us):tN C l (ts.map Jr) (Jr us):=by
 refine⟨⟨by rw[List.length_map];exact h.hi.len,h.hi.ev,λ y z a b hyz hy hz=>?_⟩,λ z a hz=>?_,h.nd.filter _,λ k i hk hi=>?_,h.cn⟩;·rw[List.getElem?_map] at hy hz;obtain⟨a',ha,rfl⟩:=Option.map_eq_some_iff.1 hy;obtain⟨b',hb,rfl⟩:=Option.map_eq_some_iff.1 hz;exact Fb (h.hi.so y z a' b' hyz ha hb)
 ·rw[List.getElem?_map] at hz;obtain⟨a',ha,rfl⟩:=Option.map_eq_some_iff.1 hz;exact Fb (h.la z a' ha)
 ·obtain⟨p,q,a,b,r,h1,h2,h3,h4,h5,h6⟩:=h.op k i hk hi;exact⟨p,q,Jr a,Jr b,r,h1,h2,h3,by rw[List.getElem?_map,h4];rfl,by rw[List.getElem?_map,h5];rfl,zk hk hi h6⟩
theorem Vk{z:Nat}{e:gE}(h:l[z]?=some e):∀d,gK l z e.thr+1<=gK l (z+1+d) e.thr
 | 0=>by rw[Nat.add_zero,rD h,if_pos rfl];exact Nat.le_refl _
 | d+1=>by
  have ih:=Vk h d;have h2:gK l (z+1+d) e.thr<=gK l (z+1+(d+1)) e.thr:=by unfold gK;exact((List.take_sublist_take_left (by omega)).filter _).length_le
  omega
theorem Y2(h:HI l ts){y z:Nat}{e e2:gE}(hy:l[y]?=some e)(hz:l[z]?=some e2)(h1:e2.thr=e.thr)(h2:e2.idx=e.idx)(h3:e2.ret=e.ret):z=y:=by
 have c1:=(h.ev y e hy).2.2.1;have c2:=(h.ev z e2 hz).2.2.1;rw[h1,h2,h3] at c2;rcases Nat.lt_trichotomy y z with hl|hl|hl
 ·obtain⟨d,rfl⟩:=Nat.exists_eq_add_of_lt hl;have:=Vk hy d;rw[show y+1+d=y+d+1 by omega] at this;omega
 ·exact hl.symm
 ·obtain⟨d,rfl⟩:=Nat.exists_eq_add_of_lt hl;have:=Vk hz d;rw[show z+1+d=z+d+1 by omega,h1] at this;omega
theorem aBH(h:HI l ts){p q:Nat}{r:Rs}(h1:l[p]?=some ⟨k,i,false,Rs.zero⟩)(h2:l[q]?=some ⟨k,i,true,r⟩):∀z,xS l z k i=⟨if p<z then(p:Int) else -1,if q<z then(q:Int) else -1,if q<z then r else Rs.zero⟩
 | 0=>by simp[xS]
 | z+1=>by
  have ih:=aBH h h1 h2 z;have hpz:∀n:Nat,p≠n->(p<n+1↔p<n):=λ n hn=>by omega
  simp only[xS];cases he:l[z]? with
  | none=>have hz:=List.getElem?_eq_none_iff.1 he;have hp:=(List.getElem?_eq_some_iff.1 h1).1;have hq:=(List.getElem?_eq_some_iff.1 h2).1;rw[ih,if_pos (by omega),if_pos (by omega),if_pos (by omega),if_pos (by omega),if_pos (by omega),if_pos (by omega)]
  | some e=>
   simp only[];by_cases hc:e.thr=k/\e.idx=i
   ·rw[if_pos hc,ih];cases hr:e.ret with
    | true=>
     have:=Y2 h h2 he hc.1 hc.2 hr;subst this;rw[h2] at he;injection he with he;have hpq:p≠z:=λ e1=>by rw[e1,h2] at h1;cases h1
     rw[<- he];simp only[if_true,Nat.lt_succ_self,hpz z hpq]
    | false=>
     have:=Y2 h h1 he hc.1 hc.2 hr;subst this;have hpq:q≠z:=λ e1=>by rw[e1,h1] at h2;cases h2
     have:(q<z+1↔q<z):=by omega
     simp only[Bool.false_eq_true,if_false,Nat.lt_succ_self,if_true,this]
   ·rw[if_neg hc,ih];have hp:p≠z:=λ e1=>by rw[e1,he] at h1;injection h1 with h1;exact hc ⟨by rw[h1],by rw[h1]⟩
    have hq:q≠z:=λ e1=>by rw[e1,he] at h2;injection h2 with h2;exact hc ⟨by rw[h2],by rw[h2]⟩
    have e1:(p<z+1↔p<z):=by omega
    have e2:(q<z+1↔q<z):=by omega
    simp only[e1,e2]
end
end
section
structure X8(C:KP)(ls:List eE):Prop where
 n:ls.length=3
 o:∀k,k<3->∃s,ls[k]?=some s/\s.l=fN C k
 v0:C.vl 0=1
 v1:C.vl 1=2
def Y6(C:KP)(v:Nat):ByteArray:=if v=1 then C.ky 0 else C.ky 1
def c9:List (Nat×Nat):=[(0,0),(0,1),(1,0),(1,1),(1,2),(1,3),(1,4),(2,0),(2,1)]
section
variable{C:KP}{l:List gE}{ts:List (List Nat)}{us:List Nat}{k i m:Nat}{ls:List eE}
theorem X8.gg(h:X8 C ls)(hk:k<3):gg ls k=pL k:=by obtain⟨s,h1,h2⟩:=h.o k hk;unfold Go.Proofs.YthblobahelfefaaGreatDoor.gg;rw[h1];show s.l.length=_;rw[h2,nE]
theorem X8.aD1(h:X8 C ls):gA ls ls.length=c9:=by rw[h.n];simp only[gA,h.gg (show 0<3 by decide),h.gg (show 1<3 by decide),h.gg (show 2<3 by decide)];rfl
theorem X8.op(h:X8 C ls)(hk:k<3)(hi:i<pL k):Ki ls (k,i)=some (mL C k i):=by obtain⟨s,h1,h2⟩:=h.o k hk;unfold Ki;rw[h1];show s.l[i]?=_;rw[h2,N5 hi]
theorem X8.lt(h:X8 C ls){a:Nat×Nat}{o:kA}(ho:Ki ls a=some o):a.1<3/\a.2<pL a.1/\o=mL C a.1 a.2:=by
 obtain⟨s,h1,h2,h3⟩:=Cs ho;have hk:a.1<3:=by have:=(List.getElem?_eq_some_iff.1 h1).1;rw[h.n] at this;exact this
 obtain⟨s',h4,h5⟩:=h.o a.1 hk;rw[h1] at h4;injection h4 with h4;subst h4;have hi:a.2<pL a.1:=by rw[<- nE C a.1,<- h5];exact h3
 refine⟨hk,hi,?_⟩;have:=h.op hk hi;rw[show((a.1,a.2):Nat×Nat)=a from rfl,ho] at this;injection this
theorem aEy(h:HI l ts):∀z,z<=l.length->gK l z 0+gK l z 1+gK l z 2=z/\Ds l z=(gK l z 0+1)/2+(gK l z 1+1)/2+(gK l z 2+1)/2
 | 0,_=>⟨by simp[gK],by simp[gK,Ds]⟩
 | z+1,hz=>by
  obtain⟨h1,h2⟩:=aEy h z (by omega);have he:l[z]?=some l[z]:=List.getElem?_eq_getElem (by omega);generalize l[z]=e at he;obtain⟨e1,_,e3,_⟩:=h.ev z e he;have c0:=rD he 0;have c1:=rD he 1;have c2:=rD he 2;have ci:=K5 he;have e4:e.thr=0∨e.thr=1∨e.thr=2:=by omega
  rcases e4 with e4|e4|e4<;>rw[e4] at c0 c1 c2 e3<;>simp at c0 c1 c2<;>refine⟨by omega,?_⟩<;>rw[ci,h2,c0,c1,c2]<;>cases hr:e.ret<;>rw[hr] at e3<;>simp only[Bool.false_eq_true,if_false,if_true] at e3 ⊢ <;> omega
theorem tN.len(h:tN C l ts us):l.length=18/\Ds l l.length=9:=by obtain⟨h1,h2⟩:=aEy h.hi l.length (Nat.le_refl _);have c0:=h.cn 0 (by decide);have c1:=h.cn 1 (by decide);have c2:=h.cn 2 (by decide);rw[c0,c1,c2] at h1 h2;exact⟨h1.symm,h2⟩
theorem opd(h:X8 C ls)(hz:∀u,u<2->(C.ky u).size<=64):Jg (Y6 C) (mL C k i):=by
 unfold mL;split
 ·rename_i e;rcases D6 e with⟨rfl,rfl⟩|⟨rfl,rfl⟩;·rw[h.v0];exact Jg.put (pk:=Y6 C) 1 (.inl rfl) (hz 0 (by decide))
  ·rw[h.v1];exact Jg.put (pk:=Y6 C) 2 (.inr rfl) (hz 1 (by decide))
 ·exact Jg.clr
 ·rename_i u e;exact Jg.look _ (hz u (Rv e))
theorem tN.sp(h:tN C l ts us)(hk:k<3)(hi:i<pL k):∃(p q:Nat) (a b:List Nat) (r:Rs),Ee l (k,i)=⟨(p:Int),(q:Int),r⟩/\p<q/\q<18/\ts[p]?=some a/\ts[q]?=some b/\vf C k i r a b:=by obtain⟨p,q,a,b,r,h1,h2,h3,h4,h5,h6⟩:=h.op k i hk hi;have hp:=(List.getElem?_eq_some_iff.1 h1).1;have hq:=(List.getElem?_eq_some_iff.1 h2).1;refine⟨p,q,a,b,r,?_,h3,by rw[<- h.len.1];exact hq,h4,h5,h6⟩;rw[show Ee l (k,i)=xS l l.length k i from rfl,aBH h.hi h1 h2,if_pos hp,if_pos hq,if_pos hq]
theorem yi{r:Rs}{a b:List Nat}(h:vf C k i r a b):r.err=0:=by
 unfold vf at h;split at h;·rw[h.1];rfl
 ·rw[h.1];rfl
 ·obtain⟨ws,_,_,h⟩:=h;rw[h];rfl
theorem tN.hp(h:tN C l ts us)(hL:X8 C ls):HP ls l:=by
 refine⟨by rw[hL.n];decide,λ s hs=>?_,by rw[h.len.1];decide,λ z e he=>?_⟩
 ·obtain⟨k,hk⟩:=List.getElem?_of_mem hs;have h3:k<3:=by have:=(List.getElem?_eq_some_iff.1 hk).1;rw[hL.n] at this;exact this
  obtain⟨s',h1,h2⟩:=hL.o k h3;rw[hk] at h1;injection h1 with h1
  subst h1;rw[h2,nE];rcases(by omega:k=0∨k=1∨k=2) with rfl|rfl|rfl<;>decide
 ·obtain⟨e1,e2,e3,e4⟩:=h.hi.ev z e he;obtain⟨s',h1,h2⟩:=hL.o e.thr e1;exact⟨⟨s',h1,by rw[h2,nE];exact e2⟩,e3,e4⟩
theorem tN.dp(h:tN C l ts us)(hL:X8 C ls)(hz:∀u,u<2->(C.ky u).size<=64):DP (Y6 C) ls l:=by
 refine⟨h.hp hL,λ a o ho=>?_,λ a o ho=>?_⟩;·rw[(hL.lt ho).2.2];exact opd hL hz
 ·obtain⟨p,q,_,_,r,h1,_,_,_,_,h2⟩:=h.sp (hL.lt ho).1 (hL.lt ho).2.1;have h3:Ee l a=⟨(p:Int),(q:Int),r⟩:=h1;exact⟨p,q,by rw[h3],by rw[h3],by rw[h3];exact yi h2⟩
end
end
section
theorem G7{α:Type} [Inhabited α] {P:Nat->α->Prop}:∀n:Nat,(∀j,j<n->∃t,P j t)->∃f:Nat->α,∀j,j<n->P j (f j)
 | 0,_=>⟨λ _=>default,λ j hj=>absurd hj (Nat.not_lt_zero j)⟩
 | n+1,h=>by
  obtain⟨f,hf⟩:=G7 n λ j hj=>h j (by omega);obtain⟨t,ht⟩:=h n (Nat.lt_succ_self n);refine⟨λ j=>if j=n then t else f j,λ j hj=>?_⟩;show P j (if j=n then t else f j);by_cases hjn:j=n;·subst hjn;rw[if_pos rfl];exact ht
  ·rw[if_neg hjn];exact hf j (by omega)
theorem aBK{us:List Nat}{t:Nat}(hn:us.Nodup)(h1:1<=t)(h2:t<=us.length):∃x∈us,nU us x=t:=by
 have hlt:us.length-t<us.length:=by omega
 refine⟨us[us.length-t],List.getElem_mem hlt,?_⟩;have hm:us[us.length-t]∈us:=List.getElem_mem hlt;have hi:=List.idxOf_lt_length_iff.2 hm;have e:us[us.idxOf us[us.length-t]]=us[us.length-t]:=List.getElem_idxOf hi
 have:us.idxOf us[us.length-t]=us.length-t:=by
  have hp:=List.pairwise_iff_getElem.1 hn;rcases Nat.lt_trichotomy (us.idxOf us[us.length-t]) (us.length-t) with h|h|h
  ·exact absurd e (hp _ _ hi hlt h)
  ·exact h
  ·exact absurd e.symm (hp _ _ hlt hi h)
 unfold nU;rw[this];omega
theorem aCl{us:List Nat}{x y:Nat}(hx:x∈us)(hy:y∈us)(h:nU us x=nU us y):x=y:=by
 have h1:=List.idxOf_lt_length_iff.2 hx;have h2:=List.idxOf_lt_length_iff.2 hy;unfold nU at h;have e:us.idxOf x=us.idxOf y:=by omega
 rw[<- List.getElem_idxOf h1,<- List.getElem_idxOf h2];simp only[e]
def zZ(j:Nat):Nat×Nat:=c9.getD j (0,0)
def kJ(j:Nat):Ok3:=Jq (zZ j).1 (zZ j).2
def uid(j:Nat):Nat:=match kJ j with
 | .put=>(zZ j).1
 | .clr=>2
 | .lk _=>3
def uj:Nat->Nat
 | 0=>0
 | 1=>3
 | _=>1
theorem ql{j:Nat}(h:j<9):c9[j]?=some (zZ j):=rK (0,0) h
theorem gq:∀j,j<9->(zZ j).1<3/\(zZ j).2<pL (zZ j).1:=by decide
theorem Al:∀u,u<3->uj u<9/\uid (uj u)=u:=by decide
theorem aCH:∀j,j<9->uid j<3->uj (uid j)=j:=by decide
theorem rh:∀j,j<9->uid j<=3:=by decide
section
variable{C:KP}{l:List gE}{ts:List (List Nat)}{us:List Nat}{k i m:Nat}{ls:List eE}
def PlJ(C:KP)(l:List gE)(ts:List (List Nat))(us:List Nat)(j:Nat)(x:Nat×Nat×Nat):Prop:=∃(r:Rs) (a b:List Nat),Ee l (zZ j)=⟨(x.1:Int),(x.2.1:Int),r⟩/\x.1<x.2.1/\x.2.1<18/\ts[x.1]?=some a/\ts[x.2.1]?=some b/\x.2.2<=b.length/\x.2.2<=us.length/\(uid j<3->x.2.2=nU us (uid j)/\a.length<x.2.2)/\(uid j=3->a.length<=x.2.2)/\(match kJ j with|.put=>r=A7 false 0|.clr=>r=dW true 0|.lk u=>r=lkR (if cont (Zi us x.2.2) u=true then some (C.vl u) else none))
theorem tN.pl(h:tN C l ts us){j:Nat}(hj:j<9):∃x,PlJ C l ts us j x:=by
 obtain⟨hk,hi⟩:=gq j hj;obtain⟨p,q,a,b,r,h1,h2,h3,h4,h5,h6⟩:=h.sp hk hi;have ha:=h.la p a h4;have hb:=h.la q b h5
 have up:∀u,uid j=u->u∈b->u∉a->(match kJ j with|.put=>r=A7 false 0|.clr=>r=dW true 0|.lk u=>r=lkR (if cont (Zi us (nU us u)) u=true then some (C.vl u) else none))->uid j<3->(∀v,kJ j≠.lk v)->∃x,PlJ C l ts us j x:=by
  intro u hu hub hua hm h3' hnl;have huu:u∈us:=hb.subset hub;refine⟨(p,q,nU us u),r,a,b,h1,h2,h3,h4,h5,(r8 hb h.nd huu).1 hub,(T7 huu).2,λ _=>⟨by rw[hu],Nat.lt_of_not_le λ hle=>hua ((r8 ha h.nd huu).2 hle)⟩,λ e=>by omega,?_⟩;cases hkj:kJ j with
  | put=>rw[hkj] at hm;exact hm
  | clr=>rw[hkj] at hm;exact hm
  | lk v=>exact absurd hkj (hnl v)
 unfold vf at h6;split at h6
 ·rename_i e;have e':kJ j=.put:=e;have hu:uid j=(zZ j).1:=by unfold uid;rw[e']
  exact up _ hu h6.2.1 h6.2.2 (by rw[e'];exact h6.1) (by rw[hu];exact hk) (λ v h=>by rw[e'] at h;cases h)
 ·rename_i e;have e':kJ j=.clr:=e;have hu:uid j=2:=by unfold uid;rw[e']
  exact up _ hu h6.2.1 h6.2.2 (by rw[e'];exact h6.1) (by rw[hu];decide) (λ v h=>by rw[e'] at h;cases h)
 ·rename_i u e;have e':kJ j=.lk u:=e;have hu:uid j=3:=by unfold uid;rw[e']
  obtain⟨ws,g1,g2,g3⟩:=h6;have hw:ws <:+ us:=g2.trans hb;refine⟨(p,q,ws.length),r,a,b,h1,h2,h3,h4,h5,g2.length_le,hw.length_le,λ e=>by omega,λ _=>g1.length_le,?_⟩;rw[e'];show r=lkR (if cont (Zi us ws.length) u=true then some (C.vl u) else none)
  rw[<- aDC hw];exact g3
def nc(f:Nat->Nat×Nat×Nat)(j:Nat):Nat:=(f j).2.2*200+if uid j<3 then 0 else 1+(f j).1
section
variable{f:Nat->Nat×Nat×Nat}(h:tN C l ts us)(hf:∀j,j<9->PlJ C l ts us j (f j))
include h hf
theorem xh {i j : Nat} (hi : i < 9) (hj : j < 9) (hq : (f i).2.1 < (f j).1) : nc f i < nc f j := by
  obtain ⟨r, a, b, _, i2, i3, i4, i5, i6, _, i7, i8, _⟩ := hf i hi
  obtain ⟨r', a', b', _, j2, j3, j4, j5, j6, _, j7, j8, _⟩ := hf j hj
  have hs := (h.hi.so _ _ b a' (Nat.le_of_lt hq) i5 j4).length_le;have ui := rh i hi;have uj := rh j hj;unfold nc;by_cases hu : uid j < 3
  · have := (j7 hu).2;rw [if_pos hu];split <;> omega
  · have := j8 (by omega);rw [if_neg hu];split <;> omega
omit h in
theorem ri{u:Nat}(hu:u<3):nc f (uj u)=nU us u*200:=by obtain⟨h1,h2⟩:=Al u hu;obtain⟨_,_,_,_,_,_,_,_,_,_,h7,_,_⟩:=hf (uj u) h1;unfold nc;rw[if_pos (by rw[h2];exact hu),(h7 (by rw[h2];exact hu)).1,h2,Nat.add_zero]
end
def qy(us:List Nat)(S T:Nat):Prop:=∀u,u<3->(S.testBit (uj u)=true↔nU us u<=T)
def aF5(C:KP)(us:List Nat)(S:Nat)(c:List Nat):Prop:=∀T,T<=us.length->qy us S T->∀u,u<2->tK (Y6 C) (C.ky u) c=if cont (Zi us T) u=true then some (u+1) else none
def ClS(f:Nat->Nat×Nat×Nat)(S:Nat):Prop:=∀j j',j<9->j'<9->S.testBit j=true->S.testBit j'=false->nc f j<=nc f j'
theorem aEA{u:Nat}(hu:u<2):Y6 C (u+1)=C.ky u:=by rcases(by omega:u=0∨u=1) with rfl|rfl<;>rfl
theorem Ho{S j i:Nat}:(S ||| 2^j).testBit i=(S.testBit i||decide (i=j)):=qI S j i
section
variable{f:Nat->Nat×Nat×Nat}(h:tN C l ts us)(hf:∀j,j<9->PlJ C l ts us j (f j))(hL:X8 C ls)(hk:C.ky 0≠C.ky 1)(h3:∀x∈us,x<3)(hu:∀x,x<3->x∈us)
include h hf hL hk h3 hu
theorem l7:∀(d S:Nat) (c:List Nat),9<=iD S 9+d->aF5 C us S c->ClS f S->oV (Y6 C) ls l c9 S c:=by
 intro d;induction d with
 | zero=>intro S c hd _ _;refine .done λ hna=>?_;have:=zL (n:=9) hna;omega
 | succ d ih=>
  intro S c hd hi hc;refine(Classical.em (pZ 9 S)).elim (λ hna=>?_) λ hna=>.done hna;obtain⟨j0,hj0,hb0⟩:=hna;obtain⟨j,hj,hSj,hmin⟩:=ll (R:=nc f) (U:=λ j=>S.testBit j=false) (n:=9) _ j0 (Nat.le_refl _) hj0 hb0;obtain⟨r,a,b,i1,i2,i3,i4,i5,i6,i7,iU,iL,ires⟩:=hf j hj;obtain⟨hk1,hk2⟩:=gq j hj;have hcm:=Br (b':=S ||| 2^j) hSj (λ i _=>qI S j i) 9 (by decide);rw[if_pos hj] at hcm
  have hcl:ClS f (S ||| 2^j):=λ x y hx hy h1 h2=>by
   rw[Ho,Bool.or_eq_true_iff] at h1;rw[Ho,Bool.or_eq_false_iff] at h2;rcases h1 with h1|h1;·exact hc x y hx hy h1 h2.1
   ·rw[of_decide_eq_true h1];exact hmin y hy h2.1
  have hbef:∀i,i<c9.length->tW l c9 (zZ j) i=true->S.testBit i=true:=λ i hi9 hbe=>by
   replace hi9:i<9:=hi9;unfold tW at hbe;rw[ql hi9] at hbe;have hbe:=of_decide_eq_true hbe;obtain⟨r',a',b',e1,_⟩:=hf i hi9
   rw[e1,i1] at hbe;have hlt:=xh h hf hi9 hj (by simpa using hbe);cases hb:S.testBit i with
   | true=>rfl
   | false=>have:=hmin i hi9 hb;omega
  have hrs:(Ee l (zZ j)).r=r:=by rw[i1]
  have cutU:∀u,uid j=u->u<3->qy us S (nU us u-1)/\∀T,T<=us.length->qy us (S ||| 2^j) T->T=nU us u:=by
   intro u huj hu3;have hju:uj u=j:=by rw[<- huj];exact aCH j hj (by omega)
   have hRj:nc f j=nU us u*200:=by rw[<- hju];exact ri hf hu3
   have hp:=T7 (hu u hu3);have cut:qy us S (nU us u-1):=λ v hv=>by
    have hRv:=ri hf hv;constructor
    ·intro hs;have h1:=hc (uj v) j (Al v hv).1 hj hs hSj;have h2:nU us v≠nU us u:=λ e=>by have:=aCl (hu v hv) (hu u hu3) e;subst this;rw[hju,hSj] at hs;cases hs
     omega
    ·intro hle;cases hb:S.testBit (uj v) with
     | true=>rfl
     | false=>have:=hmin (uj v) (Al v hv).1 hb;omega
   refine⟨cut,λ T hT hcT=>?_⟩;have h1:nU us u<=T:=(hcT u hu3).1 (by rw[hju,Ho];simp);refine Classical.byContradiction λ hne=>?_;obtain⟨x,hx,hxn⟩:=aBK (t:=nU us u+1) h.nd (by omega) (by omega)
   have hx3:=h3 x hx;have h2:=(hcT x hx3).2 (by omega);rw[Ho,Bool.or_eq_true_iff] at h2;rcases h2 with h2|h2
   ·have:=(cut x hx3).1 h2;omega
   ·have h4:=of_decide_eq_true h2;rw[<- hju] at h4;have h5:uid (uj x)=uid (uj u):=by rw[h4]
    rw[(Al x hx3).2,(Al u hu3).2] at h5;subst h5;omega
  have hop:=hL.op hk1 hk2;have hat:=ql hj;cases hkj:kJ j with
  | lk u=>
   have hu2:u<2:=Rv hkj;have huid:uid j=3:=by unfold uid;rw[hkj]
   have ho:mL C (zZ j).1 (zZ j).2=⟨7,0,C.ky u,0,0⟩:=by have e:Jq (zZ j).1 (zZ j).2=.lk u:=hkj;unfold mL;rw[e]
   rw[hkj] at ires;have hRj:nc f j=(f j).2.2*200+(1+(f j).1):=by unfold nc;rw[if_neg (by omega)]
   have cut:qy us S (f j).2.2:=λ v hv=>by
    have hRv:=ri hf hv;constructor;·intro hs;have:=hc (uj v) j (Al v hv).1 hj hs hSj;omega
    ·intro hle;cases hb:S.testBit (uj v) with
     | true=>rfl
     | false=>have:=hmin (uj v) (Al v hv).1 hb;omega
   have hfd:=hi _ i7 cut u hu2;refine .step j (zZ j) _ hat hop hSj hbef ?_ ?_
   ·rw[ho,hrs,ires];unfold B0;rw[if_neg (show ¬(7:Int)=1 by decide),if_pos rfl,hfd];have hvl:C.vl u=((u+1:Nat):Int):=by
     rcases(by omega:u=0∨u=1) with rfl|rfl
     ·rw[hL.v0];rfl
     ·rw[hL.v1];rfl
    split
    ·rename_i hx;split at hx
     ·injection hx with hx;subst hx
      rename_i hcn;rw[if_pos hcn,hvl];rfl
     ·cases hx
    ·rename_i hx;split at hx;·cases hx
     ·rename_i hcn;rw[if_neg hcn];rfl
   ·have e2:(B0 (Y6 C) (mL C (zZ j).1 (zZ j).2) c).2=c:=by rw[ho];unfold B0;rw[if_neg (show ¬(7:Int)=1 by decide),if_pos rfl]
    rw[e2];refine ih _ c (by omega) (λ T hT hcT=>hi T hT λ v hv=>?_) hcl;have hne:uj v≠j:=λ e=>by have:=(Al v hv).2;rw[e,huid] at this;omega
    rw[<- hcT v hv,Ho,decide_eq_false hne,Bool.or_false]
  | put=>
   have hu2:(zZ j).1<2:=by rcases D6 hkj with⟨e,_⟩|⟨e,_⟩<;>rw[e]<;>decide
   have huid:uid j=(zZ j).1:=by unfold uid;rw[hkj]
   generalize hu0:(zZ j).1=u at *;have ho:mL C u (zZ j).2=⟨1,0,C.ky u,((u+1:Nat):Int),0⟩:=by
    have e:Jq u (zZ j).2=.put:=by rw[<- hu0];exact hkj
    unfold mL;rw[e];rcases(by omega:u=0∨u=1) with rfl|rfl
    ·show kA.mk 1 0 (C.ky 0) (C.vl 0) 0=_;rw[hL.v0];rfl
    ·show kA.mk 1 0 (C.ky 1) (C.vl 1) 0=_;rw[hL.v1];rfl
   obtain⟨cut,uniq⟩:=cutU u huid (by omega);have hus:=hu u (by omega);have hp:=T7 hus;have hat2:=jf hus
   have hnot:u∉Zi us (nU us u-1):=by have:=(xm us (nU us u)).sublist.nodup h.nd;rw[hat2,List.nodup_cons] at this;exact this.1
   have hfd:=hi _ (by omega) cut;have hno:=hfd u hu2;rw[if_neg (by rw[oS (by omega) hnot];decide)] at hno;rw[hkj] at ires;refine .step j (zZ j) _ hat (by rw[<- hu0] at hop;exact hop) hSj hbef ?_ ?_
   ·rw[hu0,ho,hrs,ires];unfold B0;rw[if_pos rfl,hno]
   ·rw[hu0,ho];have e2:(B0 (Y6 C) ⟨1,0,C.ky u,((u+1:Nat):Int),0⟩ c).2=G4 (Y6 C) (u+1) c:=by unfold B0;rw[if_pos rfl];rfl
    rw[e2];refine ih _ _ (by omega) (λ T hT hcT v hv=>?_) hcl;have hcv:cont (u::Zi us (nU us u-1)) v=(u==v||cont (Zi us (nU us u-1)) v):=by rw[cont,if_neg (by omega)]
    rw[uniq T hT hcT,hat2,hcv];by_cases hvu:u=v;·subst hvu;rw[E7 (aEA hv),beq_self_eq_true,Bool.true_or,if_pos rfl]
    ·have hky:Y6 C (u+1)≠C.ky v:=by
      rw[aEA hu2];rcases(by omega:u=0∨u=1) with rfl|rfl<;>rcases(by omega:v=0∨v=1) with rfl|rfl
      ·exact absurd rfl hvu
      ·exact hk
      ·exact λ e=>hk e.symm
      ·exact absurd rfl hvu
     rw[A2 hky,hfd v hv,beq_eq_false_iff_ne.2 hvu,Bool.false_or]
  | clr=>
   have huid:uid j=2:=by unfold uid;rw[hkj]
   have ho:mL C (zZ j).1 (zZ j).2=⟨10,0,⟨#[]⟩,0,0⟩:=by have e:Jq (zZ j).1 (zZ j).2=.clr:=hkj;unfold mL;rw[e]
   obtain⟨cut,uniq⟩:=cutU 2 huid (by decide);have hat2:=jf (hu 2 (by decide));rw[hkj] at ires;refine .step j (zZ j) _ hat hop hSj hbef ?_ ?_;·rw[ho,hrs,ires];rfl
   ·rw[ho];refine ih _ [] (by omega) (λ T hT hcT v hv=>?_) hcl;rw[uniq T hT hcT,hat2];simp only[cont,if_true,Bool.false_eq_true,if_false];rfl
end
theorem tN.aFq(h:tN C l ts us)(hL:X8 C ls)(hk:C.ky 0≠C.ky 1):oV (Y6 C) ls l (gA ls ls.length) 0 []:=by
 have h2:=h.flt;obtain⟨f,hf⟩:=G7 9 λ j hj=>h2.pl hj
 have h3:∀x∈Jr us,x<3:=λ x hx=>by simpa using(List.mem_filter.1 hx).2
 have hu:∀x,x<3->x∈Jr us:=λ x hx=>by
  obtain⟨g1,g2⟩:=Al x hx;obtain⟨_,_,b,_,_,_,_,i5,i6,i7,iU,_,_⟩:=hf (uj x) g1;have hlt:=iU (by rw[g2];exact hx);rw[g2] at hlt;refine Classical.byContradiction λ hn=>?_;have:(Jr us).idxOf x=(Jr us).length:=List.idxOf_eq_length hn;have h0:nU (Jr us) x=0:=by unfold nU;omega
  omega
 rw[hL.aD1];refine l7 h2 hf hL hk h3 hu 9 0 [] (by omega) (λ T hT hcT u hu'=>?_) λ j j' _ _ hs _=>by simp at hs
 have hT0:T=0:=Classical.byContradiction λ hne=>by obtain⟨x,hx,hxn⟩:=aBK (t:=1) h2.nd (by decide) (by omega);have:=(hcT x (h3 x hx)).2 (by omega);simp at this
 subst hT0;have:Zi (Jr us) 0=[]:=by unfold Zi;simp
 rw[this];rfl
end
end
end Go.Proofs.YthblobahelfefaaGreatDoor

/- Merged. -/
import Derived.Test.YtbajmaoegmbfgaaGreatGWo6
import Derived.Test.YtbajmaoegmbfgaaGreatGKx8
import Derived.Test.YtbajmaoegmbfgaaGreatGBr5
import Derived.Test.YtbajmaoegmbfgaaGreatGAr9
import Derived.Test.YtbajmaoegmbfgaaGreatGNode2
import Derived.Test.YtbajmaoegmbfgaaGreatGBit2
set_option linter.unusedSimpArgs false
set_option linter.unusedVariables false
namespace Go.Proofs.YtbajmaoegmbfgaaGreat
open Go.Proofs.Tryz
open Go Go.RowKit Go.Ct
section
def S2(ex:List EX)(i:Nat):Bool:=(ex.map EX.dn).getD i true
def rE(ex:List EX)(i:Nat):Tr:=(ex.map EX.R).getD i .stuck
section
variable{m B C E bw bm:Nat}{D:List Nat}{A:Fr}{w:World}{H:ByteArray->Nat}
theorem zX{α β:Type}(f:α->β)(l1 l2:List α)(e:α)(d:β):((l1++e::l2).map f).getD l1.length d=f e:=by simp
theorem aAT{α β:Type}(f:α->β)(l1 l2:List α)(e e':α)(d:β){k:Nat}(hk:k≠l1.length):((l1++e::l2).map f).getD k d=((l1++e'::l2).map f).getD k d:=by
 simp only[List.map_append,List.map_cons,jA];by_cases h:k<l1.length;·rw[List.getElem?_append_left (by simpa using h),List.getElem?_append_left (by simpa using h)]
 ·rw[List.getElem?_append_right (by simpa using h),List.getElem?_append_right (by simpa using h)];obtain⟨j,hj⟩:∃j,k-(l1.map f).length=j+1:=⟨k-l1.length-1,by rw[List.length_map];omega⟩;rw[hj];rfl
theorem cz{W:Wd}{i:Nat}(hi:i<W.ex.length)(hs:SF w D (wH m bw bm W) A [] (wO W) w) :
  Calls prog 69 #[.pointer (some ⟨(oR W.ex).getD i 0,0,none⟩)] w λ e w'=>∃q:Unit,e=.returned (.bool (S2 W.ex i))/\True/\SF w D (wH m bw bm W) [] [] (wO W) w':=by
 obtain⟨l1,e,l2,hl,hi1⟩:=H9 hi;have hb:(oR W.ex).getD i 0=e.b:=by rw[hl,<- hi1];exact zX _ _ _ _ _
 have hd:S2 W.ex i=e.dn:=by unfold S2;rw[hl,<- hi1];exact zX _ _ _ _ _
 rw[hb,hd];have pH:=aAK (m:=m) (bw:=bw) (bm:=bm) hl;have pO:=aCd hl;have key:=Fi (P:=prog) (f:=69) (vs := #[.pointer (some ⟨e.b,0,none⟩)]) (V:=λ _:Unit=>.bool e.dn) (φ:=λ _=>True) (hs:=xH e.k e.b bm (XS.wm e.x W.z) e.dn e.rs) (os:=xW (XS.wm e.x W.z)) (hs':=λ _=>xH e.k e.b bm (XS.wm e.x W.z) e.dn e.rs) (os':=λ _=>xW (XS.wm e.x W.z)) (Fc:=λ _=>[]) (A0:=[]) hs pH pO bG.nil (λ h=>Mr h);refine key.mono λ e w' ⟨q,e1,h1,hw⟩=>⟨q,e1,h1,?_⟩;rw[List.append_nil] at hw;exact hw.noA.perm pH pO
structure FX where
 i:Nat
 c:Nat
 z:XS
 ex:List EX
 N:List aR
structure u7(m B C E:Nat)(W:Wd)(y:FX):Prop where
 ok:E5 m (B+128*(8001*y.i+y.c)) (C+(8001*y.i+y.c)) E (W.go y.z y.ex)
 L:y.z.L=W.z.L++y.N
 b:oR y.ex=oR W.ex
 dn:∀k,k<y.i->S2 y.ex k=true
structure FxJ(m B C E:Nat)(W:Wd)(y:FX):Prop extends u7 m B C E W y where
 lt:y.i<y.ex.length
 c:y.c<=8000
 fin:S2 y.ex y.i=true∨Fin (H8 m) (rE y.ex y.i) y.z.mm (8000-y.c)
variable{W:Wd}{y:FX}
theorem u7.len(h:u7 m B C E W y):y.ex.length=W.ex.length:=by have:=congrArg List.length h.b;simpa[oR] using this
theorem u7.begin(h:u7 m B C E W y)(hc:y.c=0)(hi:y.i<y.ex.length):FxJ m B C E W y:=by
 refine⟨h,hi,by omega,.inr ?_⟩;obtain⟨l1,e,l2,hl,hi1⟩:=H9 hi;have hR:rE y.ex y.i=e.R:=by unfold rE;rw[hl,<- hi1];exact zX _ _ _ _ _
 have w1:WR (H8 m) m y.z.mm W.ts (y.ex.map EX.R):=h.ok.wr;rw[hl,List.map_append,List.map_cons] at w1;rw[hR,hc];exact(w1.perm List.perm_middle).fin
theorem FxJ.step{q:XS×List EX×List aR}(h:FxJ m B C E W y)(hd:S2 y.ex y.i=false)(hq:E5 m (B+128*(8001*y.i+y.c)+128) (C+(8001*y.i+y.c)+1) E ((W.go y.z y.ex).go q.1 q.2.1)/\q.1.L=(W.go y.z y.ex).z.L++q.2.2/\StX (W.go y.z y.ex) y.i q.1 q.2.1):FxJ m B C E W ⟨y.i,y.c+1,q.1,q.2.1,y.N++q.2.2⟩:=by
 obtain⟨ok,hL,l1,e,e',l2,hl,hi1,hl',hb,hst⟩:=hq;have hl:y.ex=l1++e::l2:=hl;have e1:S2 y.ex y.i=e.dn:=by unfold S2;rw[hl,<- hi1];exact zX _ _ _ _ _
 have e2:rE y.ex y.i=e.R:=by unfold rE;rw[hl,<- hi1];exact zX _ _ _ _ _
 have e3:S2 q.2.1 y.i=e'.dn:=by unfold S2;rw[hl',<- hi1];exact zX _ _ _ _ _
 have e4:rE q.2.1 y.i=e'.R:=by unfold rE;rw[hl',<- hi1];exact zX _ _ _ _ _
 have hfin:=h.fin.resolve_left (by rw[hd];decide);rw[e2] at hfin;rw[e1] at hd;have he:EOk m (C+(8001*y.i+y.c)) y.z e:=h.ok.ex e (by show e∈y.ex;rw[hl];simp)
 have hacc:e.R.acc=some (XS.wm e.x y.z).nx:=by
  rcases he.i.O4 with⟨h1,_⟩|⟨_,h1⟩;·rw[hd] at h1;cases h1
  ·exact h1
 have hpos:=hfin.pos hacc;rcases hst with⟨h1,_⟩|⟨_,j,hj,hj1,hrc⟩
 ·rw[hd] at h1;cases h1
 refine⟨⟨ok.mono (by show _<=B+128*(8001*y.i+(y.c+1));omega) (by show _<=C+(8001*y.i+(y.c+1));omega) (Nat.le_refl _),by rw[hL];show y.z.L++q.2.2=_;rw[h.L,List.append_assoc],?_,λ k hk=>?_⟩,?_,by show y.c+1<=8000;omega,?_⟩;·show oR q.2.1=_;rw[<- h.b,hl',hl];simp[oR,hb]
 ·have hk:k<y.i:=hk;have:=h.dn k hk;show S2 q.2.1 k=true
  unfold S2 at this ⊢;rw[hl',aAT EX.dn l1 l2 e' e true (by omega),<- hl];exact this
 ·show y.i<q.2.1.length;rw[hl',<- hi1];simp
 ·show S2 q.2.1 y.i=true∨Fin (H8 m) (rE q.2.1 y.i) q.1.mm (8000-(y.c+1));rw[e3,e4];cases hdn:e'.dn with
  | true=>exact .inl rfl
  | false=>obtain⟨m',em,hf⟩:=hfin.rc hrc;rw[hj1 hdn] at em;exact .inr (by rw[show 8000-(y.c+1)=m' by omega];exact hf)
theorem FxJ.next(h:FxJ m B C E W y)(hd:S2 y.ex y.i=true):u7 m B C E W ⟨y.i+1,0,y.z,y.ex,y.N⟩ :=
 ⟨h.ok.mono (by have:=h.c;show _<=B+128*(8001*(y.i+1)+0);omega) (by have:=h.c;show _<=C+(8001*(y.i+1)+0);omega) (Nat.le_refl _),h.L,h.b,λ k hk=>by
  by_cases e:k=y.i;·rw[e];exact hd
  ·exact h.dn k (by have:k<y.i+1:=hk;omega)⟩
theorem WR.X7{s:Mm}{ts:List dV}:∀{rs:List Tr},WR H m s ts rs->(∀t∈rs,∃r,t=.done r)->WR H m s ts []
 | [],h,_=>h
 | t::rs,h,hd=>by obtain⟨r,e⟩:=hd t (List.mem_cons_self ..);subst e;exact WR.X7 h.drop λ t ht=>hd t (List.mem_cons_of_mem _ ht)
theorem u7.end(h:u7 m B C E W y)(hi:y.ex.length<=y.i)(hiE:y.i<=E)(hc:y.c=0):E5 m (B+1024128*E) (C+8001*E) 0 ⟨y.z,W.ts,W.pt,W.kt,[],none,0⟩:=by
 have ok:=h.ok.mono (B':=B+1024128*E) (C':=C+8001*E) (by rw[hc];omega) (by rw[hc];omega) (Nat.le_refl _);refine⟨ok.z,ok.sz,(λ e he=>nomatch he),ok.t0,ok.tr,ok.tl,Nat.le_refl _,WR.X7 ok.wr λ t ht=>?_⟩;obtain⟨e,he,rfl⟩:=List.mem_map.1 ht
 have hk:=ok.ex e he;obtain⟨k,hk1,hk2⟩:=List.getElem_of_mem he;have hd:S2 y.ex k=true:=h.dn k (by have:k<y.ex.length:=hk1;omega);have hd2:e.dn=true:=by unfold S2 at hd;rw[jA,List.getElem?_map,List.getElem?_eq_getElem hk1] at hd;rw[<- hk2];exact hd
 rcases hk.i.O4 with⟨_,h2⟩|⟨h1,_⟩;·exact⟨e.rs,h2⟩
 ·rw[hd2] at h1;cases h1
set_option maxRecDepth 100000 in
set_option maxHeartbeats 2000000 in
theorem pq(hE:E<=1000)(hC:C<=100000000)(hB:B<=10000000000)(hm:m<18446744073709551616)(hW:E5 m B C E W)(hA:∀f∈aP W.z.L,f∈A)(hs:SF w D (wH m bw bm W) A [] (wO W) w) :
  Calls prog 20 #[.pointer (some ⟨bw,0,none⟩)] w λ e w'=>∃r:XS×List aR,e=.returned (.tuple #[])/\(E5 m (B+1024128*E) (C+8001*E) 0 ⟨r.1,W.ts,W.pt,W.kt,[],none,0⟩/\r.1.L=W.z.L++r.2)/\SF w D (wH m bw bm ⟨r.1,W.ts,W.pt,W.kt,[],none,0⟩) [] (aP r.2) (wO ⟨r.1,W.ts,W.pt,W.kt,[],none,0⟩) w':=by
 have hel:=hW.el;have hbl:=A8 W.ex;refine enter func20 ntmps20 rfl rfl hs ?_;simp only[cC]
 refine aV ?_;refine mY ?_;refine K1p ?_;refine nB [3,9,10,11,12,13,14,15,16,17,18] (λ y:FX=>[(9,.int .i64 ((y.i:Nat):Int))]) (λ y=>u7 m B C E W y/\y.i<=E/\y.c=0) (λ y=>wH m bw bm (W.go y.z y.ex)) (λ y=>aP y.N) (λ y=>wO (W.go y.z y.ex)) (λ y=>W.ex.length-y.i) (⟨0,0,W.z,W.ex,[]⟩) (⟨⟨hW,by simp,rfl,λ k hk=>absurd hk (Nat.not_lt_zero k)⟩,Nat.zero_le _,rfl⟩) (λ y f hx=>?_);refine K0a ?_;obtain⟨hy,hyE,hyc⟩:=hx;have hlen:=hy.len;refine K1b ?_;refine bD (λ c10=>?_) (λ c10=>?_)
 ·try (exfalso;omega)
  refine sG ?_;refine J0 ?_;refine aC (mz (cs:=zV (oR y.ex)) (k:=y.i) rf rf gS gB (.own (.tail .head)) (by omega) (by rw[Aj,A8,hy.len];omega)) rfl ?_;refine aC (ft (cs:=zV (oR y.ex)) (v:=.pointer (some ⟨(oR y.ex).getD y.i 0,0,none⟩)) rf gB (.own (.tail .head)) (qh (by rw[A8,hy.len];omega))) rfl ?_;refine J1 ?_;refine cR ?_;refine nB [13,14,15,16,17] (λ z:FX=>[]) (λ z=>FxJ m B C E W z/\z.i=y.i) (λ z=>wH m bw bm (W.go z.z z.ex)) (λ z=>aP z.N) (λ z=>wO (W.go z.z z.ex)) (λ z=>8001-z.c) (y) (⟨hy.begin hyc (by omega),rfl⟩) (λ z f hx=>?_) (hw0:=λ w hw=>hw.v6);refine K0a ?_;obtain⟨hz,hzi⟩:=hx;have hzc:=hz.c;have hyi:y.i<W.ex.length:=by omega
  have hzl:=hz.len;refine kF ?_;refine aD (cT 0 0 (vs:=[.pointer (some ⟨(oR y.ex).getD y.i 0,0,none⟩)]) (hs:=wH m bw bm (W.go z.z z.ex)) (os:=wO (W.go z.z z.ex)) (A0:=[]) (F1:=λ _:Unit=>aP z.N) (hc:=λ w hs=>by rw[show y.i=z.i from hzi.symm,show oR y.ex=oR z.ex from hy.b.trans hz.b.symm];exact cz (W:=W.go z.z z.ex) (i:=z.i) hz.lt hs) (hA:=bG.nil) (hF1:=λ _ _ f hf=>.inr (List.mem_append_right _ hf))) (λ x14 h14=>?_);refine oD ?_;refine bD (λ c15=>?_) (λ c15=>?_)
  ·try (exfalso;omega)
   refine aW ?_;refine cR ?_;refine xN ?_;refine aD (cT 0 0 (vs:=[.pointer (some ⟨(oR y.ex).getD y.i 0,0,none⟩)]) (hs:=wH m bw bm (W.go z.z z.ex)) (os:=wO (W.go z.z z.ex)) (A0:=aP z.z.L) (F1:=λ x:XS×List EX×List aR=>aP (z.N++x.2.2)) (hc:=λ w hs=>by rw[show y.i=z.i from hzi.symm,show oR y.ex=oR z.ex from hy.b.trans hz.b.symm];exact Pp (W:=W.go z.z z.ex) (i:=z.i) hz.lt (by omega) (by omega) hm hz.ok (λ f hf=>hf) hs) (hA:=bG.of λ f hf=>by rw[hz.L,cU] at hf;exact(List.mem_append.1 hf).elim (λ h=>.inr (.inl (hA f h))) (λ h=>.inr (.inr (.inl h)))) (hF1:=λ x hx f hf=>by rw[cU] at hf;exact .inr ((List.mem_append.1 hf).elim (λ h=>List.mem_append_right _ h) (λ h=>List.mem_append_left _ h)))) (λ x17 h17=>?_);refine aG ?_;refine eV ?_;refine iX (⟨z.i,z.c+1,x17.1,x17.2.1,z.N++x17.2.2⟩) ?_ (hw1:=λ w hw=>hw.v6);·exact⟨hz.step (by simpa using c15) h17,hzi⟩
  ·try (exfalso;omega)
   have hzn:=hz.next (by simpa using c15);refine az ?_;refine mq ?_;refine Jm ?_;refine iX (⟨y.i+1,0,z.z,z.ex,z.N⟩) ?_ (hw1:=λ w hw=>hw.v6)
   ·exact⟨by rw[hzi] at hzn;exact hzn,by show y.i+1<=E;omega,rfl⟩
 ·try (exfalso;omega)
  refine bS rfl ?_;refine xN ?_;refine O0 ?_;refine De results20 (λ w hw=>?_);have hw:=(hw.kQ 74 1).perm (List.Perm.refl _) (List.Perm.swap _ _ _);exact⟨(y.z,y.N),rfl,⟨hy.end (by rw[hy.len];omega) hyE hyc,hy.L⟩,hw.bA (hH:=by exact .cons_cons _ (.cons_cons _ (List.nil_sublist _))) (hF:=by exact aZ.all) (hO:=by exact .cons_cons _ (.cons_cons _ (.cons _ (.cons_cons _ (.cons_cons _ (List.nil_sublist _))))))⟩
end
end
end Go.Proofs.YtbajmaoegmbfgaaGreat
namespace Go.Ct
open Go Go.RowKit
section
theorem rQ.Kx{L:List aR}{cs:List Int}{pn pc:Option Addr}{w w0:World}{M:List Nat}{H:List (Nat×Obj)}{F:Fr}{O:List Ow}(h:rQ w0 L cs pn pc)(hw:SF w0 M H ((pn,jB L)::(pc,aH cs)::aP L) F O w):rQ w L cs pn pc:=hw.Jw (.inr (.inl (.head _))) (.inr (.inl (.tail _ (.head _)))) (λ f hf=>.inr (.inl (.tail _ (.tail _ hf)))) h.fit
theorem dH(L:List aR)(r:Int):bH (L.map aR.c) r=(aB L r).c:=(Ff L r).symm
end
end Go.Ct
namespace Go.Proofs.YtbajmaoegmbfgaaGreat
open Go.Proofs.Tryz
open Go Go.RowKit Go.Ct
section
section
variable{L:List aR}{cs:List Int}{gen:Int}{pn pc:Option Addr}{cn cc:Nat}{w:World}
abbrev Lv(L:List aR)(cs:List Int)(gen:Int)(pn:Option Addr)(cn:Nat)(pc:Option Addr)(cc:Nat):Value:=.agg ⟨[.slice pn L.length cn,.slice pc cs.length cc,.int .i64 gen]⟩
structure StB(L:List aR)(cs:List Int):Prop where
 cs:∀c,bJ cs c<=9223372036854775807
 bR:∀r,(aB L r).nd.bR<=9223372036854775807
 new:∀r,(aB L r).nd.new<=9223372036854775807
 main:∀r,(aB L r).nd.main<=9223372036854775807
 prev:∀r,(aB L r).nd.prev<=9223372036854775807
 status:∀r,(aB L r).nd.status<=9223372036854775807
 br:∀r,∀b∈(aB L r).xs,b<=9223372036854775807
end
end
section
section
variable{L:List aR}{cs:List Int}{gen:Int}{pn pc:Option Addr}{cn cc:Nat}{w:World}
theorem aAR(h:rQ w L cs pn pc)(r:Int)(hr:r<1):Calls prog 91 #[Lv L cs gen pn cn pc cc,.int .i64 r] w λ e w'=>e=.returned (aB L r).nd.v/\St w [] [] w':=by
 refine enter func91 ntmps91 rfl rfl h.start ?_;simp only[cC];refine K1k ?_;intro x2;refine aJ (λ x4=>?_);refine aG ?_;refine kF ?_;refine Au ?_;(refine eF 7 (λ g7=>?_) (λ g7=>?_)<;>(try (exfalso;omega))<;>(refine aI ?_));refine U8 ?_;refine Ka7 ?_;refine bD (λ c13=>?_) (λ c13=>?_)
 ·try (exfalso;omega)
  refine Kc2 ?_;refine aY results91 (λ w hw=>?_);exact⟨by rw[qV (by omega)];rfl,hw.done⟩
 ·exact nv c13
theorem aA6(h:rQ w L cs pn pc){k:Nat}(hk:(k:Int)<9223372036854775807)(hl:L.length<=274877906944):Calls prog 91 #[Lv L cs gen pn cn pc cc,.int .i64 ((k+1:Nat):Int)] w λ e w'=>e=.returned (aB L ((k+1:Nat):Int)).nd.v/\St w [] [] w':=by
 refine enter func91 ntmps91 rfl rfl h.start ?_;simp only[cC];refine K1k ?_;intro x2;refine aJ (λ x4=>?_);refine aG ?_;refine kF ?_;refine Au ?_;(refine Ka3 ?_);refine U8 ?_;refine Ka7 ?_;refine bD (λ c13=>?_) (λ c13=>?_)
 ·try (exfalso;omega)
  refine Kc2 ?_;refine aY results91 (λ w hw=>?_);(exact⟨by rw[qV (by omega)];rfl,hw.done⟩)
 ·try (exfalso;omega)
  refine aW ?_;refine Kc3 ?_;refine tE ?_;refine Pz ?_;refine J5 ?_;refine aY results91 (λ w hw=>?_);(exact⟨by rw[xG (by omega)];rfl,hw.done⟩)
theorem rC(h:rQ w L cs pn pc)(r:Int)(hr:r<=9223372036854775807)(hl:L.length<=274877906944):Calls prog 91 #[Lv L cs gen pn cn pc cc,.int .i64 r] w λ e w'=>e=.returned (aB L r).nd.v/\St w [] [] w':=by
 rcases Int.lt_or_le r 1 with h1|h1;·exact aAR h r h1
 ·obtain⟨k,rfl⟩:∃k:Nat,r=((k+1:Nat):Int):=⟨(r-1).toNat,by omega⟩;exact aA6 h (by omega) hl
theorem oj(h:rQ w L cs pn pc)(r:Int)(hr:r<1):Calls prog 90 #[Lv L cs gen pn cn pc cc,.int .i64 r] w λ e w'=>e=.returned (.int .i64 (bJ cs r))/\St w [] [] w':=by
 refine enter func90 ntmps90 rfl rfl h.start ?_;simp only[cC];refine K1k ?_;intro x2;refine Kc6 ?_;refine Au ?_;(refine eF 7 (λ g7=>?_) (λ g7=>?_)<;>(try (exfalso;omega))<;>(refine aI ?_));refine U8 ?_;refine Ka7 ?_;refine bD (λ c13=>?_) (λ c13=>?_)
 ·try (exfalso;omega)
  refine cX ?_;refine aS results90 (λ w hw=>?_);exact⟨by rw[sY (by omega)];rfl,hw.done⟩
 ·exact nv c13
theorem rv(h:rQ w L cs pn pc){k:Nat}(hk:(k:Int)<9223372036854775807)(hl:cs.length<=274877906944):Calls prog 90 #[Lv L cs gen pn cn pc cc,.int .i64 ((k+1:Nat):Int)] w λ e w'=>e=.returned (.int .i64 (bJ cs ((k+1:Nat):Int)))/\St w [] [] w':=by
 refine enter func90 ntmps90 rfl rfl h.start ?_;simp only[cC];refine K1k ?_;intro x2;refine Kc6 ?_;refine Au ?_;(refine Ka3 ?_);refine U8 ?_;refine Ka7 ?_;refine bD (λ c13=>?_) (λ c13=>?_)
 ·try (exfalso;omega)
  refine cX ?_;refine aS results90 (λ w hw=>?_);(exact⟨by rw[sY (by omega)];rfl,hw.done⟩)
 ·try (exfalso;omega)
  refine aW ?_;refine Kc3 ?_;refine tE ?_;refine Pz ?_;refine J1 ?_;refine aS results90 (λ w hw=>?_);(exact⟨by rw[Hv (by omega)];rfl,hw.done⟩)
theorem F2(h:rQ w L cs pn pc)(r:Int)(hr:r<=9223372036854775807)(hl:cs.length<=274877906944):Calls prog 90 #[Lv L cs gen pn cn pc cc,.int .i64 r] w λ e w'=>e=.returned (.int .i64 (bJ cs r))/\St w [] [] w':=by
 rcases Int.lt_or_le r 1 with h1|h1;·exact oj h r h1
 ·obtain⟨k,rfl⟩:∃k:Nat,r=((k+1:Nat):Int):=⟨(r-1).toNat,by omega⟩;exact rv h (by omega) hl
theorem Wt(h:rQ w L cs pn pc)(hb:StB L cs)(hl:L.length<=274877906944)(hc:cs.length<=274877906944)(i:Int)(hi:i<=9223372036854775807):Calls prog 83 #[Lv L cs gen pn cn pc cc,.int .i64 i] w λ e w'=>e=.returned (.tuple #[.int .i64 ((gZ (L.map aR.c) cs i).getD 0),.bool (gZ (L.map aR.c) cs i).isSome])/\St w [] [] w':=by
 refine enter func83 ntmps83 rfl rfl h.start ?_;simp only[cC];simp only[Lv];refine K1k ?_;intro x2;refine J8 ?_;refine aV ?_;refine Fa ?_;refine aN (cV (hc:=λ w1 hw=>rC (h.Kx hw) i hi hl)) (λ x10=>?_);refine cL ?_;refine Kc9 ?_;refine bD (λ c12=>?_) (λ c12=>?_);·refine Iu ?_;refine aY results83 (λ w hw=>?_);refine⟨?_,hw.done⟩;unfold gZ zB oY wT;simp only[dH,cB,aR.c,Nd.c];simp_all;rfl
 ·refine lH ?_;refine eM [(0,[]),(1,[]),(2,[]),(3,[0]),(4,[]),(5,[]),(6,[])] ?_;refine bW ?_;refine bW ?_;refine aT ?_;refine dD (i:=3) (hq:=(cV (hc:=λ w1 hw=>rC (h.Kx hw) i hi hl))) (h:=λ x16=>?_);refine rY ?_;refine dD (i:=5) (hq:=(cV (hc:=λ w1 hw=>F2 (h.Kx hw) (aB L i).nd.main (hb.main i) hc))) (h:=λ x18=>?_);refine J7 ?_;refine aV ?_;refine Fa ?_;refine aN (cV (hc:=λ w1 hw=>rC (h.Kx hw) (bJ cs (aB L i).nd.main) (hb.cs _) hl)) (λ x21=>?_);refine aD (c0 (V:=.bool) (hc:=λ w1 hw=>yG _ w1)) (λ x22 h22=>?_);refine oD ?_;refine bD (λ c23=>?_) (λ c23=>?_);·refine Iu ?_;refine aY results83 (λ w hw=>?_);refine⟨?_,hw.done⟩;unfold gZ zB oY wT;simp only[dH,cB,aR.c,Nd.c];simp_all;rfl
  ·refine lH ?_;refine eM [(0,[]),(1,[]),(2,[]),(3,[0]),(4,[]),(5,[]),(6,[])] ?_;refine bW ?_;refine bW ?_;refine aT ?_;refine dD (i:=3) (hq:=(cV (hc:=λ w1 hw=>rC (h.Kx hw) (bJ cs (aB L i).nd.main) (hb.cs _) hl))) (h:=λ x27=>?_);refine rY ?_;refine dD (i:=5) (hq:=(cV (hc:=λ w1 hw=>F2 (h.Kx hw) (aB L (bJ cs (aB L i).nd.main)).nd.prev (hb.prev _) hc))) (h:=λ x29=>?_);refine J7 ?_;refine Dm ?_;refine J2 ?_;refine S7 ?_;refine bD (λ c30=>?_) (λ c30=>?_);·refine J2 ?_;refine J8 ?_;refine aY results83 (λ w hw=>?_);refine⟨?_,hw.done⟩;unfold gZ zB oY wT;simp only[dH,cB,aR.c,Nd.c];simp_all;rfl
   ·refine Fa ?_;refine aN (cV (hc:=λ w1 hw=>rC (h.Kx hw) (bJ cs (aB L (bJ cs (aB L i).nd.main)).nd.prev) (hb.cs _) hl)) (λ x37=>?_);refine cL ?_;refine S7 ?_;refine bD (λ c34=>?_) (λ c34=>?_)
    ·refine dU ?_;refine bO ?_;refine aA ?_;refine aN (cV (hc:=λ w1 hw=>rC (h.Kx hw) (bJ cs (aB L (bJ cs (aB L i).nd.main)).nd.prev) (hb.cs _) hl)) (λ x42=>?_);refine cL ?_;refine J1 ?_;refine eV ?_;refine aV ?_;refine Fa ?_;refine aN (cV (hc:=λ w1 hw=>rC (h.Kx hw) _ (by exact hb.bR _) hl)) (λ x46=>?_);refine aD (c0 (V:=.bool) (hc:=λ w1 hw=>yG _ w1)) (λ x47 h47=>?_);refine oD ?_;refine bD (λ c48=>?_) (λ c48=>?_);·refine Iu ?_;refine aY results83 (λ w hw=>?_);refine⟨?_,hw.done⟩;unfold gZ zB oY wT;simp only[dH,cB,aR.c,Nd.c];simp_all;rfl
     ·refine aW ?_;refine J2 ?_;refine J8 ?_;refine aY results83 (λ w hw=>?_);refine⟨?_,hw.done⟩;unfold gZ zB oY wT;simp only[dH,cB,aR.c,Nd.c];simp_all;rfl
    ·refine pP ?_;refine aV ?_;refine Fa ?_;refine aN (cV (hc:=λ w1 hw=>rC (h.Kx hw) _ (by exact hb.cs _) hl)) (λ x46=>?_);refine aD (c0 (V:=.bool) (hc:=λ w1 hw=>yG _ w1)) (λ x47 h47=>?_);refine oD ?_;refine bD (λ c48=>?_) (λ c48=>?_);·refine Iu ?_;refine aY results83 (λ w hw=>?_);refine⟨?_,hw.done⟩;unfold gZ zB oY wT;simp only[dH,cB,aR.c,Nd.c];simp_all;rfl
     ·refine aW ?_;refine J2 ?_;refine J8 ?_;refine aY results83 (λ w hw=>?_);refine⟨?_,hw.done⟩;unfold gZ zB oY wT;simp only[dH,cB,aR.c,Nd.c];simp_all;rfl
theorem w8(h:rQ w L cs pn pc)(hb:StB L cs)(hl:L.length<=274877906944)(hc:cs.length<=274877906944)(c:Int)(ro:Bool)(hi:c<=9223372036854775807):Calls prog 95 #[Lv L cs gen pn cn pc cc,.agg ⟨[.int .i64 c,.bool ro]⟩] w λ e w'=>e=.returned (.tuple #[.int .i64 ((lG (L.map aR.c) cs c).getD 0),.bool (lG (L.map aR.c) cs c).isSome])/\St w [] [] w':=by
 refine enter func95 ntmps95 rfl rfl h.start ?_;simp only[cC];simp only[Lv];refine K1k ?_;intro x2;refine bL (λ x3=>?_);refine J8 ?_;refine nG ?_;refine J3 ?_;refine aN (cV (hc:=λ w1 hw=>F2 (h.Kx hw) c hi hc)) (λ x11=>?_);refine jG ?_;refine Fa ?_;refine aN (cV (hc:=λ w1 hw=>rC (h.Kx hw) (bJ cs c) (hb.cs _) hl)) (λ x14=>?_);refine aJ (λ x7=>?_);refine J5 ?_;refine iB ?_;refine tH ?_;refine bD (λ c17=>?_) (λ c17=>?_)
 ·refine iB ?_;refine J1 ?_;refine nG ?_;refine J3 ?_;refine aN (cV (hc:=λ w1 hw=>F2 (h.Kx hw) (aB L (bJ cs c)).nd.status (hb.status _) hc)) (λ x23=>?_);refine tH ?_;refine bD (λ c24=>?_) (λ c24=>?_)
  ·refine dU ?_;refine J3 ?_;refine jG ?_;refine Fa ?_;refine aN (cV (hc:=λ w1 hw=>rC (h.Kx hw) _ (by exact hb.new _) hl)) (λ x29=>?_);refine cL ?_;refine Kc9 ?_;refine bD (λ c31=>?_) (λ c31=>?_);·refine Iu ?_;refine aY results95 (λ w hw=>?_);refine⟨?_,hw.done⟩;unfold lG sB;simp only[dH,cB,aR.c,Nd.c];simp_all;rfl
   ·refine aW ?_;refine J2 ?_;refine J8 ?_;refine aY results95 (λ w hw=>?_);refine⟨?_,hw.done⟩;unfold lG sB;simp only[dH,cB,aR.c,Nd.c];simp_all;rfl
  ·refine lH ?_;refine Fa ?_;refine aN (cV (hc:=λ w1 hw=>rC (h.Kx hw) _ (by exact hb.bR _) hl)) (λ x29=>?_);refine cL ?_;refine Kc9 ?_;refine bD (λ c31=>?_) (λ c31=>?_);·refine Iu ?_;refine aY results95 (λ w hw=>?_);refine⟨?_,hw.done⟩;unfold lG sB;simp only[dH,cB,aR.c,Nd.c];simp_all;rfl
   ·refine aW ?_;refine J2 ?_;refine J8 ?_;refine aY results95 (λ w hw=>?_);refine⟨?_,hw.done⟩;unfold lG sB;simp only[dH,cB,aR.c,Nd.c];simp_all;rfl
 ·refine lH ?_;refine Fa ?_;refine aN (cV (hc:=λ w1 hw=>rC (h.Kx hw) _ (by exact hb.cs _) hl)) (λ x29=>?_);refine cL ?_;refine Kc9 ?_;refine bD (λ c31=>?_) (λ c31=>?_);·refine Iu ?_;refine aY results95 (λ w hw=>?_);refine⟨?_,hw.done⟩;unfold lG sB;simp only[dH,cB,aR.c,Nd.c];simp_all;rfl
  ·refine aW ?_;refine J2 ?_;refine J8 ?_;refine aY results95 (λ w hw=>?_);refine⟨?_,hw.done⟩;unfold lG sB;simp only[dH,cB,aR.c,Nd.c];simp_all;rfl
end
end
end Go.Proofs.YtbajmaoegmbfgaaGreat
namespace Go.Ct
open Go Go.RowKit
section
def cw(n:Nat)(vs:List Bool)(l:List Int):Prop:=vs.length=n/\(∀k,k<n->(vs.getD k false=true↔((k+1:Nat):Int)∈l))/\l.length+vs.count false=n
theorem cw.zero(n:Nat):cw n (List.replicate n false) []:=⟨by simp,λ k hk=>by simp[jA,hk],by simp⟩
theorem count_set:∀(vs:List Bool) (k:Nat),k<vs.length->vs.getD k false=false->(vs.set k true).count false+1=vs.count false
 | [],_,h,_=>by simp at h
 | b::vs,0,_,h=>by
  have e:b=false:=by simpa using h
  subst e
  simp
 | b::vs,k+1,h,h2=>by
  have:=count_set vs k (by simpa using h) (by simpa using h2);rw[List.set_cons_succ,List.count_cons,List.count_cons];omega
theorem cw.set{n k:Nat}{vs:List Bool}{l:List Int}(h:cw n vs l)(hk:k<n)(hf:vs.getD k false=false):cw n (vs.set k true) (l++[((k+1:Nat):Int)]):=by
 have h1:=h.1;refine⟨by simp[h.1],λ j hj=>?_,?_⟩
 ·have h2:=h.2.1 j hj;rw[jA] at h2;rw[jA,List.getElem?_set];by_cases e:k=j;·subst e;simp[show k<vs.length by omega]
  ·rw[if_neg e,h2];simp only[List.mem_append,List.mem_singleton];constructor;·exact .inl
   ·rintro (h3|h3);·exact h3
    ·omega
 ·have:=count_set vs k (by omega) hf;have:=h.2.2;simp only[List.length_append,List.length_cons,List.length_nil]
  omega
theorem cw.len{n:Nat}{vs:List Bool}{l:List Int}(h:cw n vs l):l.length<=n:=by have:=h.2.2;omega
theorem Z0{N:List Nv}{r:Int}(h:cB (bH N r)):1<=r/\r<=N.length:=eQ (by unfold cB at h;omega)
theorem vw{L:List aR}{r:Int}(h:1<=r/\r<=L.length):((aB L r).nd.brA,aH (aB L r).xs)∈aP L:=by unfold aB;rw[if_pos h];exact Fz (by omega)
theorem uo{L:List aR}{r:Int}(h:1<=r/\r<=L.length):((aB L r).nd.prA,dI (aB L r).ys)∈aP L:=by unfold aB;rw[if_pos h];exact Fy (by omega)
theorem l9(L:List aR)(r:Int):(bH (L.map aR.c) r).xs=(aB L r).xs:=by rw[dH];rfl
theorem wb{L:List aR}{cs:List Int}{c r:Int}(h:lG (L.map aR.c) cs c=some r):∃k:Nat,r=((k+1:Nat):Int)/\k<L.length:=by
 unfold lG at h;split at h;·rename_i hk;cases h;have:=eQ (N:=L.map aR.c) (i:=sB (L.map aR.c) cs c) (by omega);rw[List.length_map] at this;exact⟨(sB (L.map aR.c) cs c-1).toNat,by omega,by omega⟩
 ·cases h
end
section
structure Pl where
 i:Int
 m:Int
 a:Int
 lv:Nat
 way:List Int
def sF(b:Nat):Nat->List Int
 | 0=>[]
 | k+1=>sF b k++(if b.testBit k then [(k:Int)] else [])
def vT(N:List Nv)(f:Int->List Int->List Int->Option (List Pl×List Pr))(way idx:List Int):List Int->Nat->List Int->Option (List Pl×List Pr)
 | [],_,_=>some ([],[])
 | b::r,j,s=>if(bH N b).kind=4 then(vT N f way idx r (j+1) s).map λ q=>(q.1,((bH N b).key,(bH N b).val)::q.2)
  else if(bH N b).kind=2 then(f b (way++[idx.getD j 0]) s).bind λ p=>(vT N f way idx r (j+1) (s++p.1.map Pl.i)).map λ q=>(p.1++q.1,p.2++q.2)
  else none
def C3(N:List Nv)(cs:List Int):Nat->Int->Nat->Int->List Int->List Int->Option (List Pl×List Pr)
 | 0,_,_,_,_,_=>none
 | n+1,a,lv,i,way,s=>if i∈s then none else(gZ N cs i).bind λ m =>
  if(bH N m).kind=5∨(bH N m).kind=6 then some ([⟨i,m,a,lv,way⟩],sJ (bH N m))
  else(vT N (λ b w s=>C3 N cs n i (lv+1) b w s) way (sF (bH N m).bm.toNat 64) (bH N m).xs 0 (s++[i])).map λ q=>(⟨i,m,a,lv,way⟩::q.1,q.2)
end
section
theorem Ik(b:Nat):∀k,(sF b k).length=fP b k
 | 0=>rfl
 | k+1=>by simp only[sF,List.length_append,Ik b k,fP];split<;>simp_all
end
end Go.Ct
namespace Go.Proofs.YtbajmaoegmbfgaaGreat
open Go Go.RowKit Go.Ct
section
theorem Mp{n:Nat}(hn:n<18446744073709551616)(w:World):Calls Tryz.prog 156 #[.int .u64 (n:Int)] w λ e w'=>∃x:Option Addr×Nat,e=.returned (.slice x.1 (sF n 64).length x.2)/\True/\SF w [] [] [] [(x.1,aH (sF n 64))] [] w':=by
 refine enter Tryz.func156 Tryz.ntmps156 rfl rfl ((SF.s0 w).kQ 3 1) ?_;simp only[cC];refine cX ?_;refine Fh ?_;refine E9 ?_;refine nB [3,4,5,6,7,8,9,10,11,12,13,14,15] (λ y:Nat×Option Addr×Nat=>[(3,.slice y.2.1 (sF n y.1).length y.2.2),(4,.int .i64 ((y.1:Nat):Int))]) (λ y=>y.1<=64) (λ _=>_) (λ _=>_) (λ y=>[⟨y.2.1,aH (sF n y.1),y.2.2,3,1⟩]) (λ y=>64-y.1) ((0,none,0)) (by decide) (λ y f hx=>?_);refine K0a ?_;have hcl:=Am n y.1;have hil:=Ik n y.1;refine kF ?_;refine zR ?_;refine bD (λ c6=>?_) (λ c6=>?_)
 ·refine sG ?_;refine iZ ?_;refine aN (cV (hc:=λ w1 hw=>Il hn (y.1:Int) w1)) (λ x11=>?_);refine aG ?_;refine bD (λ c11=>?_) (λ c11=>?_)
  ·have e1:sF n (y.1+1)=sF n y.1++[(y.1:Int)]:=by rw[tZ n (by omega) (by omega),Int.toNat_natCast] at c11;simp only[sF,c11,if_true]
   refine Jl ?_;refine fC (λ x14=>?_);(refine fI (λ x15=>?_);try (refine eP (λ h15=>?_)));refine J1 ?_;refine Kb2 ?_;refine lO ((by exact(y.1+1,x15))) ?_ ?_ E0d ?_ (λ w hw=>by simp only[e1];exact hw.back);·omega
   ·repeat' (first|exact bF _|refine bB ?_ ?_)
    all_goals (first|exact rfl|(simp only[e1];(conv=>{lhs;whnf};simp;done)))
   ·(show y.1+1<=64;omega)
  ·have e1:sF n (y.1+1)=sF n y.1:=by rw[tZ n (by omega) (by omega),Int.toNat_natCast] at c11;simp only[sF,c11];simp
   refine Kc5 ?_;refine lO ((by exact(y.1+1,y.2))) ?_ ?_ E0d ?_ (λ w hw=>by simp only[e1];exact hw.back);·omega
   ·repeat' (first|exact bF _|refine bB ?_ ?_)
    all_goals (first|exact rfl|(simp only[e1];exact rfl))
   ·(show y.1+1<=64;omega)
 ·refine bS rfl ?_;refine Ka5 ?_;refine aS Tryz.results156 (λ w hw=>?_);have e2:y.1=64:=by omega
  rw[e2] at hw ⊢;generalize sF n 64=B at hw ⊢;exact⟨y.2,rfl,trivial,SF.frz hw.bA⟩
theorem Kb{n:Nat}{b:Int}{ix:List Int}(hi:ix=sF n 64)(hn:n<18446744073709551616)(e:b=(n:Int))(w:World):Calls Tryz.prog 156 #[.int .u64 b] w λ e w'=>∃x:Option Addr×Nat,e=.returned (.slice x.1 ix.length x.2)/\True/\SF w [] [] [] [(x.1,aH ix)] [] w':=by rw[hi,e];with_reducible exact Mp hn w
end
end Go.Proofs.YtbajmaoegmbfgaaGreat
namespace Go.Ct
open Go Go.RowKit
section
structure yJ where
 p:Pl
 wp:Option Addr
 wc:Nat
def yJ.cells(v:yJ):List Value:=[.int .i64 v.p.i,.int .i64 v.p.m,.int .i64 v.p.a,.int .i64 ((v.p.lv:Nat):Int),.slice v.wp v.p.way.length v.wc]
def rR(l:List yJ):List Value:=l.flatMap yJ.cells
def Jx(l:List yJ):Fr:=l.map λ v=>(v.wp,aH v.p.way)
theorem xQ:∀l:List yJ,(rR l).length=l.length*5
 | []=>rfl
 | v::l=>by simp only[rR,List.flatMap_cons,List.length_append] at *;rw[show(List.flatMap yJ.cells l).length=l.length*5 from xQ l];simp[yJ.cells];omega
theorem So(l l2:List yJ):rR (l++l2)=rR l++rR l2:=by simp[rR]
theorem Bx:∀l:List yJ,(rR l).all (·.oneCell')=true
 | []=>rfl
 | v::l=>by simp only[rR,List.flatMap_cons,List.all_append];rw[show(List.flatMap yJ.cells l).all (·.oneCell')=true from Bx l];rfl
section
variable{N:List Nv}{f:Int->List Int->List Int->Option (List Pl×List Pr)}{way idx xs s s2:List Int}{j:Nat}{r:List Pl×List Pr}
def Ay(N:List Nv)(f:Int->List Int->List Int->Option (List Pl×List Pr))(way idx xs s:List Int)(j:Nat)(tl:List Pl)(ps:List Pr):Prop :=
 vT N f way idx xs 0 s=(vT N f way idx (xs.drop j) j (s++tl.map Pl.i)).map λ q=>(tl++q.1,ps++q.2)
variable{tl:List Pl}{ps:List Pr}
theorem Ay.zero:Ay N f way idx xs s 0 [] []:=by unfold Ay;simp only[List.drop_zero,List.map_nil,List.append_nil,List.nil_append];cases vT N f way idx xs 0 s<;>rfl
theorem Fg{xs:List Int}{j:Nat}(h:j<xs.length):xs.drop j=xs.getD j 0::xs.drop (j+1):=by rw[List.drop_eq_getElem_cons h,jA,List.getElem?_eq_getElem h];rfl
theorem Ay.single(h:Ay N f way idx xs s j tl ps)(hj:j<xs.length)(hk:(bH N (xs.getD j 0)).kind=4):Ay N f way idx xs s (j+1) tl (ps++[((bH N (xs.getD j 0)).key,(bH N (xs.getD j 0)).val)]):=by unfold Ay at h ⊢;rw[h,Fg hj];simp only[vT,hk,if_true];cases vT N f way idx (xs.drop (j+1)) (j+1) (s++tl.map Pl.i)<;>simp
theorem Ay.inner(h:Ay N f way idx xs s j tl ps)(hj:j<xs.length)(hk:(bH N (xs.getD j 0)).kind=2)(hf:f (xs.getD j 0) (way++[idx.getD j 0]) (s++tl.map Pl.i)=some r):Ay N f way idx xs s (j+1) (tl++r.1) (ps++r.2):=by
 unfold Ay at h ⊢;rw[h,Fg hj];have h4:¬(bH N (xs.getD j 0)).kind=4:=by omega
 simp only[vT,h4,hk,if_true,if_false,hf,Option.bind_some,List.map_append,List.append_assoc];cases vT N f way idx (xs.drop (j+1)) (j+1) (s++(tl.map Pl.i++r.1.map Pl.i))<;>simp
theorem Ay.fail(h:Ay N f way idx xs s j tl ps)(hj:j<xs.length)(hk:(bH N (xs.getD j 0)).kind=2)(hf:f (xs.getD j 0) (way++[idx.getD j 0]) (s++tl.map Pl.i)=none):vT N f way idx xs 0 s=none:=by
 unfold Ay at h;rw[h,Fg hj];have h4:¬(bH N (xs.getD j 0)).kind=4:=by omega
 simp only[vT,h4,hk,if_true,if_false,hf,Option.bind_none,Option.map_none,reduceCtorEq,show ¬((2:Int)=4) by decide]
theorem Ay.bad(h:Ay N f way idx xs s j tl ps)(hj:j<xs.length)(hk:(bH N (xs.getD j 0)).kind≠4)(hk2:(bH N (xs.getD j 0)).kind≠2):vT N f way idx xs 0 s=none:=by unfold Ay at h;rw[h,Fg hj];simp only[vT,hk,hk2,if_false,Option.map_none]
theorem Ay.done(h:Ay N f way idx xs s j tl ps)(hj:xs.length<=j):vT N f way idx xs 0 s=some (tl,ps):=by unfold Ay at h;rw[h,List.drop_eq_nil_of_le hj];simp[vT]
end
section
variable{N:List Nv}{cs:List Int}{a i m:Int}{lv n:Nat}{way s:List Int}
theorem Ba(h:i∈s):∀{n:Nat},C3 N cs n a lv i way s=none
 | 0=>rfl
 | _+1=>if_pos h
theorem P8(h:(gZ N cs i).isSome=false):∀{n:Nat},C3 N cs n a lv i way s=none
 | 0=>rfl
 | n+1=>by
  unfold C3;cases hb:gZ N cs i with
  | none=>split<;>rfl
  | some m=>rw[hb] at h;cases h
theorem Bp(h:¬i∈s)(h2:gZ N cs i=some m)(h3:(bH N m).kind=5∨(bH N m).kind=6):C3 N cs (n+1) a lv i way s=some ([⟨i,m,a,lv,way⟩],sJ (bH N m)):=by unfold C3;rw[if_neg h,h2,Option.bind_some,if_pos h3]
theorem Rn(h:¬i∈s)(h2:gZ N cs i=some m)(h3:¬((bH N m).kind=5∨(bH N m).kind=6)):C3 N cs (n+1) a lv i way s=(vT N (λ b w s=>C3 N cs n i (lv+1) b w s) way (sF (bH N m).bm.toNat 64) (bH N m).xs 0 (s++[i])).map λ q=>(⟨i,m,a,lv,way⟩::q.1,q.2):=by rw[C3];rw[if_neg h,h2,Option.bind_some,if_neg h3]
end
end
section
structure Ju where
 ok:Bool
 l:List yJ
 lp:Option Addr
 lc:Nat
 ps:List Pr
 pp:Option Addr
 pc:Nat
 sn:List Bool
 own:Bool
structure PlY where
 j:Nat
 tl:List yJ
 lp:Option Addr
 lc:Nat
 ps:List Pr
 pp:Option Addr
 pc:Nat
 sn:List Bool
def Ju.pf(x:Ju):Fr:=if x.own=true then [(x.pp,dI x.ps)] else []
def Ju.fr(x:Ju):Fr:=(x.lp,rR x.l)::(Jx x.l.tail++x.pf)
def Vs(n:Nat)(vs:List Bool)(s:List Int):Prop:=cw (n+1) vs (s.map (· + 1))
theorem Vs.zero(n:Nat):Vs n (List.replicate (n+1) false) []:=cw.zero _
theorem de{s:List Int}{k:Int}:k+1∈s.map (· + 1)↔k∈s:=by rw[List.mem_map];exact⟨λ⟨a,h,e⟩=>by rw[show k=a by omega];exact h,λ h=>⟨k,h,rfl⟩⟩
theorem Vs.mem{n k:Nat}{vs:List Bool}{s:List Int}(h:Vs n vs s)(hk:k<=n):vs.getD k false=true↔(k:Int)∈s:=by rw[h.2.1 k (by omega)];rw[show((k+1:Nat):Int)=(k:Int)+1 by omega];exact de
theorem Vs.set{n k:Nat}{vs:List Bool}{s:List Int}(h:Vs n vs s)(hk:k<=n)(hf:vs.getD k false=false):Vs n (vs.set k true) (s++[(k:Int)]):=by have:=cw.set h (k:=k) (by omega) hf;unfold Vs;rw[List.map_append];exact this
theorem Vs.len{n:Nat}{vs:List Bool}{s:List Int}(h:Vs n vs s):s.length<=n+1:=by have:=cw.len h;rw[List.length_map] at this;exact this
def O3(L:List aR)(B:Nat)(wp:Option Addr)(wc:Nat)(s:List Int)(o:Option (List Pl×List Pr))(x:Ju):Prop:=x.sn.length=L.length+1/\match o with
 | none=>x.ok=false
 | some q=>x.ok=true/\x.l.map yJ.p=q.1/\x.ps=q.2/\(∃p tl,x.l=⟨p,wp,wc⟩::tl)/\(x.own=false->(x.pp,dI x.ps)∈aP L)/\Vs L.length x.sn (s++q.1.map Pl.i)/\x.ps.length<=x.l.length*(B+64)
variable{B wc lv:Nat}{wp:Option Addr}{s way:List Int}{i a:Int}{x:Ju}
theorem O3.one{L:List aR}{lp pp:Option Addr}{lc pc:Nat}{r:Int}{sn:List Bool}{ps:List Pr}{own:Bool}{o:Option (List Pl×List Pr)}(h1:sn.length=L.length+1)(he:o=some ([⟨i,r,a,lv,way⟩],ps))(hf:own=false->(pp,dI ps)∈aP L)(hv:Vs L.length sn (s++[i]))(hb:ps.length<=B+64) :
  O3 L B wp wc s o ⟨true,[⟨⟨i,r,a,lv,way⟩,wp,wc⟩],lp,lc,ps,pp,pc,sn,own⟩:=⟨h1,by rw[he];exact⟨rfl,rfl,rfl,⟨_,_,rfl⟩,hf,hv,by simpa using hb⟩⟩
theorem O3.yes{L:List aR}{o:Option (List Pl×List Pr)}(h:O3 L B wp wc s o x)(hk:x.ok=true):∃q,o=some q/\x.l.map yJ.p=q.1/\x.ps=q.2/\(∃p tl,x.l=⟨p,wp,wc⟩::tl)/\(x.own=false->(x.pp,dI x.ps)∈aP L)/\Vs L.length x.sn (s++q.1.map Pl.i)/\x.ps.length<=x.l.length*(B+64):=by
 cases o with
 | none=>have:=h.2;rw[hk] at this;cases this
 | some q=>exact⟨q,rfl,h.2.2⟩
theorem O3.aEh{L:List aR}{o:Option (List Pl×List Pr)}(h:O3 L B wp wc s o x)(hk:x.ok=false):o=none:=by
 cases o with
 | none=>rfl
 | some q=>have:=h.2.1;rw[hk] at this;cases this
theorem O3.no{L:List aR}{o:Option (List Pl×List Pr)}(e:o=none)(h1:x.sn.length=L.length+1)(h2:x.ok=false):O3 L B wp wc s o x:=⟨h1,by rw[e];exact h2⟩
theorem Ju.fin{L:List aR}{A F:Fr}{O:List Ow}(h:x.own=false->(x.pp,dI x.ps)∈aP L)(hF:∀f∈x.fr,f∈F)(hA:∀f∈aP L,f∈A):rO A F O x.pp (dI x.ps):=by
 cases ho:x.own with
 | true=>exact .new (Ap.rB (hF _ (List.mem_cons_of_mem _ (List.mem_append_right _ (by unfold Ju.pf;rw[if_pos ho];exact List.mem_cons_self ..)))))
 | false=>exact .bR (Ap.rB (hA _ (h ho)))
theorem qv{N:List Nv}{cs:List Int}{n:Nat}{q:List Pl×List Pr}(h:C3 N cs n a lv i way s=some q):∃m t,q.1=⟨i,m,a,lv,way⟩::t:=by
 cases n with
 | zero=>cases h
 | succ n=>
  unfold C3 at h;split at h;·cases h
  obtain⟨m,_,h⟩:=Option.bind_eq_some_iff.1 h;split at h;·cases h;exact⟨m,[],rfl⟩
  ·obtain⟨t,_,h⟩:=Option.map_eq_some_iff.1 h;subst h;exact⟨m,t.1,rfl⟩
def Few(L:List aR)(B:Nat):Prop:=(∀r,(aB L r).ys.length<=B/\(aB L r).xs.length<=64)/\(L.length+1)*(B+64)<=549755813888
end
end Go.Ct
namespace Go.Proofs.YtbajmaoegmbfgaaGreat
open Go.Proofs.Tryz
open Go Go.RowKit Go.Ct
section
section
variable{L:List aR}{cs:List Int}{gen:Int}{pn pc:Option Addr}{cn cc:Nat}{w:World}
theorem Hr:dY prog 115 39 [.int .i64 0,.int .i64 0,.int .i64 0,.int .i64 0,.slice none 0 0]:=nA (z:=.agg ⟨[.int .i64 0,.int .i64 0,.int .i64 0,.int .i64 0,.slice none 0 0]⟩) (by kernel_rfl) (by kernel_rfl) rfl
abbrev w3(L:List aR)(pv:Nat)(sn:List Bool):Ow:=⟨some ⟨pv,0,none⟩,jW sn,L.length+1,4,1⟩
def aCn(L:List aR)(cs:List Int)(gen:Int)(pn:Option Addr)(cn:Nat)(pc:Option Addr)(cc:Nat)(B pv:Nat)(n:Nat):Prop:=∀(lv:Nat),lv+n=12->∀(k:Nat) (a mm:Int) (way:List Int) (wp:Option Addr) (wc:Nat) (s:List Int) (sn:List Bool) (D:List Nat) (w:World),k<L.length->way.length=lv->way.length<=wc->Vs L.length sn s->SF w D [] ((pn,jB L)::(pc,aH cs)::(wp,aH way)::aP L) [] [w3 L pv sn] w ->
  Calls prog 116 #[Lv L cs gen pn cn pc cc,.agg ⟨[.int .i64 ((k+1:Nat):Int),.int .i64 mm,.int .i64 a,.int .i64 ((lv:Nat):Int),.slice wp way.length wc]⟩,.slice (some ⟨pv,0,none⟩) (L.length+1) (L.length+1)] w λ e w'=>∃x:Ju,e=.returned (.tuple #[.slice x.lp x.l.length x.lc,.slice x.pp x.ps.length x.pc,.bool x.ok])/\O3 L B wp wc s (C3 (L.map aR.c) cs n a lv ((k+1:Nat):Int) way s) x/\SF w D [] [] x.fr [w3 L pv x.sn] w'
variable{B wc lc:Nat}{way ix s:List Int}{y:PlY}{x:Ju}{pp lp wp ip:Option Addr}
theorem bh(h0:Fits L)(hb:StB L cs)(hl:L.length<=274877906944)(hc:cs.length<=274877906944)(B pv:Nat)(n lv:Nat)(hn:lv+n=12)(k:Nat)(a mm:Int)(way:List Int)(wp:Option Addr)(wc:Nat)(s:List Int)(sn:List Bool)(D:List Nat)(w:World)(hk:k<L.length)(hv:Vs L.length sn s)(hno:(gZ (L.map aR.c) cs ((k+1:Nat):Int)).isSome=false∨n=0∨((k+1:Nat):Int)∈s)(hs:SF w D [] ((pn,jB L)::(pc,aH cs)::(wp,aH way)::aP L) [] [w3 L pv sn] w) :
  Calls prog 116 #[Lv L cs gen pn cn pc cc,.agg ⟨[.int .i64 ((k+1:Nat):Int),.int .i64 mm,.int .i64 a,.int .i64 ((lv:Nat):Int),.slice wp way.length wc]⟩,.slice (some ⟨pv,0,none⟩) (L.length+1) (L.length+1)] w λ e w'=>∃x:Ju,e=.returned (.tuple #[.slice x.lp x.l.length x.lc,.slice x.pp x.ps.length x.pc,.bool x.ok])/\O3 L B wp wc s (C3 (L.map aR.c) cs n a lv ((k+1:Nat):Int) way s) x/\SF w D [] [] x.fr [w3 L pv x.sn] w':=by
 have hvl:sn.length=L.length+1:=hv.1;have hno2:(gZ (L.map aR.c) cs ((k+1:Nat):Int)).isSome=false∨n=0∨sn.getD (k+1) false=true:=by
  rcases hno with h|h|h;·exact .inl h
  ·exact .inr (.inl h)
  ·exact .inr (.inr ((hv.mem (k:=k+1) (by omega)).2 h))
 have hplc:C3 (L.map aR.c) cs n a lv ((k+1:Nat):Int) way s=none:=by
  rcases hno with h|h|h;·exact P8 h
  ·subst h;exact rfl
  ·exact Ba h
 rw[hplc];refine enter func116 ntmps116 rfl rfl hs ?_;simp only[cC];simp only[Lv];refine K1g ?_;intro x3;refine bL (λ x4=>?_);refine iW (λ _=>?_);refine J8 ?_;refine nG ?_;refine J3 ?_;refine aN (cV (hc:=λ w1 hw=>Wt (hw.Jw (.inr (.inl (.head _))) (.inr (.inl (.tail _ (.head _)))) (λ f hf=>.inr (.inl (.tail _ (.tail _ (.tail _ hf))))) h0) hb hl hc ((k+1:Nat):Int) (by omega))) (λ x22=>?_);refine Kb7 ?_;refine D5 ?_;(refine eF 27 (λ g27=>?_) (λ g27=>?_)<;>refine Ka1 ?_);all_goals (refine Ka2 ?_;refine Bf ?_;refine aA ?_)
 all_goals (first|refine aI ?_|(refine eF 32 (λ g32=>?_) (λ g32=>?_)<;>refine Ka0 ?_))
 all_goals (refine J6 ?_;(first|refine aI ?_|(refine aF ?_;refine aC (pD (k:=k+1) rf rf gS gB fin (by omega) (by omega)) rfl ?_));(first|refine aI ?_|(refine aF ?_;refine aC (Bi (q:=k+1) rf gB fin (by omega)) rfl ?_));refine cH ?_;refine aG ?_)
 all_goals
 refine bD (λ c38=>?_) (λ c38=>?_)
 ·all_goals try (first|(exact abt)|(exfalso;omega))
  all_goals (refine J0 ?_;refine iW (λ _=>?_);refine J8 ?_)
  all_goals refine aY results116 (λ w hw=>?_);exact⟨⟨false,[],none,0,[],none,0,sn,false⟩,rfl,⟨hvl,rfl⟩,(hw.fA (F':=[(none,rR [])]) E0u).bA⟩
 ·try exact nv c38
  all_goals (exfalso;(rcases hno2 with h|h|h);(rw[h] at g27;cases g27);(exfalso;omega);(rw[h] at c38;cases c38))
theorem aAG{L:List aR}{f:Int->List Int->List Int->Option (List Pl×List Pr)}{xs:List Int}{q:Nat}{qq:List Pl×List Pr}{p1 p2:Option Addr}{c1 c2:Nat}(h1:Ay (L.map aR.c) f way ix xs s y.j (y.tl.map yJ.p) y.ps)(hjl:y.j<xs.length)(hj:xs.getD y.j 0=((q+1:Nat):Int))(hkd:(bH (L.map aR.c) ((q+1:Nat):Int)).kind=2)(hq1:f ((q+1:Nat):Int) (way++[ix.getD y.j 0]) (s++(y.tl.map yJ.p).map Pl.i)=some qq)(e1:x.l.map yJ.p=qq.1)(e2:x.ps=qq.2)(e5:Vs L.length x.sn ((s++(y.tl.map yJ.p).map Pl.i)++qq.1.map Pl.i))(e6:x.ps.length<=x.l.length*(B+64))(hb:y.ps.length+(64-y.j)<=(y.tl.length+1)*(B+64)) :
  (⟨y.j+1,y.tl++x.l,p1,c1,y.ps++x.ps,p2,c2,x.sn⟩:PlY).j<=xs.length/\Ay (L.map aR.c) f way ix xs s (y.j+1) ((y.tl++x.l).map yJ.p) (y.ps++x.ps)/\Vs L.length x.sn (s++((y.tl++x.l).map yJ.p).map Pl.i)/\(y.ps++x.ps).length+(64-(y.j+1))<=((y.tl++x.l).length+1)*(B+64):=by
 refine⟨hjl,?_,?_,?_⟩;·have:=Ay.inner h1 hjl (by rw[hj];exact hkd) (by rw[hj];exact hq1);rw[List.map_append,e1,e2];exact this
 ·rw[List.map_append,List.map_append,e1,<- List.append_assoc];exact e5
 ·rw[List.length_append,List.length_append,show y.tl.length+x.l.length+1=(y.tl.length+1)+x.l.length by omega,Nat.add_mul];omega
theorem Ru(a b:List yJ):Jx (a++b)=Jx a++Jx b:=by simp[Jx]
theorem aBo{w0 w:World}{M:List Nat}{H:List (Nat×Obj)}{A:Fr}{T T2 T3:TypeId}{kp kl:Nat}{psC:List Value}{wy:List Int}{hd:yJ}{tl t0:List yJ}{p0:Pl}{sw:Ow}{b:Nat×Obj}(hw:SF w0 M (b::H) A (x.fr++(ip,aH ix)::Jx tl) [⟨wp,aH wy,wc,T,1⟩,⟨pp,psC,kp,T2,2⟩,⟨lp,rR (hd::tl)++rR x.l,kl,T3,5⟩,sw] w)(e3:x.l=⟨p0,wp,wc⟩::t0)(e8:p0.way=wy) :
  SF w0 M H A ((ip,aH ix)::Jx (tl++x.l)) [⟨pp,psC,kp,T2,2⟩,⟨lp,rR (hd::(tl++x.l)),kl,T3,5⟩,sw] w:=by
 rw[<- List.cons_append,So];refine SF.back (SF.fA (F':=(ip,aH ix)::Jx (tl++x.l)) (hw.freeze .head) λ f hf=>?_) (hH:=List.sublist_cons_self ..) (hF:=aZ.all);rw[Ru] at hf;rcases List.mem_cons.1 hf with rfl|hf
 ·exact .inr (.tail _ (List.mem_append_right _ (.head _)))
 rcases List.mem_append.1 hf with hf|hf;·exact .inr (.tail _ (List.mem_append_right _ (.tail _ hf)))
 ·rw[e3] at hf;rcases List.mem_cons.1 hf with rfl|hf;·show aH p0.way=[]∨(wp,aH p0.way)∈_;rw[e8];exact .inr (.head _)
  ·refine .inr (.tail _ (List.mem_append_left _ (.tail _ (List.mem_append_left _ ?_))));rw[e3];exact hf
theorem aA0{L:List aR}{pc:Nat}{i r a:Int}{lv:Nat}{o:Option (List Pl×List Pr)}(h:Vs L.length y.sn ((s++[i])++(y.tl.map yJ.p).map Pl.i))(ho:o=some (⟨i,r,a,lv,way⟩::y.tl.map yJ.p,y.ps))(hb:y.ps.length+(64-y.j)<=(y.tl.length+1)*(B+64)) :
  O3 L B wp wc s o ⟨true,⟨⟨i,r,a,lv,way⟩,wp,wc⟩::y.tl,lp,lc,y.ps,pp,pc,y.sn,true⟩:=by
 refine⟨h.1,?_⟩;rw[ho];refine⟨rfl,rfl,rfl,⟨_,_,rfl⟩,(λ e=>nomatch e),?_,?_⟩;·rw[List.append_assoc] at h;exact h
 ·show y.ps.length<=(y.tl.length+1)*(B+64);omega
theorem aCK{pc:Nat}{ix:List Value}{p:Pl}{ps:List Pr}{sn:List Bool}(tl:List yJ):∀f∈(⟨true,⟨p,wp,wc⟩::tl,lp,lc,ps,pp,pc,sn,true⟩:Ju).fr,f.2=[]∨f∈(lp,rR (⟨p,wp,wc⟩::tl))::(pp,dI ps)::(ip,ix)::Jx tl:=by
 intro f hf;rcases List.mem_cons.1 hf with rfl|hf;·exact .inr (.head _)
 rcases List.mem_append.1 hf with hf|hf;·exact .inr (.tail _ (.tail _ (.tail _ hf)))
 ·rw[show(⟨true,⟨p,wp,wc⟩::tl,lp,lc,ps,pp,pc,sn,true⟩:Ju).pf=[(pp,dI ps)] from rfl] at hf;rw[List.mem_singleton.1 hf];exact .inr (.tail _ (.head _))
set_option maxRecDepth 100000 in
set_option maxHeartbeats 2000000 in
theorem K7(h0:Fits L)(hb:StB L cs)(hl:L.length<=274877906944)(hc:cs.length<=274877906944)(hbm:∀r,∃b:Nat,b<18446744073709551616/\(aB L r).nd.bm=(b:Int)/\((aB L r).nd.kind=3->(aB L r).xs.length=fP b 64))(B pv:Nat)(hB:Few L B)(n:Nat)(ih:∀m,n=m+1->aCn L cs gen pn cn pc cc B pv m):aCn L cs gen pn cn pc cc B pv n:=by
 intro lv hn k a mm way wp wc s sn D w hk hwl hwc hv hs;have hvl:sn.length=L.length+1:=hv.1;have hvn:=hv.len;by_cases hno:(gZ (L.map aR.c) cs ((k+1:Nat):Int)).isSome=false∨n=0∨((k+1:Nat):Int)∈s
 ·exact bh h0 hb hl hc B pv n lv hn k a mm way wp wc s sn D w hk hv hno hs
 simp only[not_or] at hno;obtain⟨hb1,hn0,hnot⟩:=hno;obtain⟨r,hr⟩:=Option.isSome_iff_exists.1 (show(gZ (L.map aR.c) cs ((k+1:Nat):Int)).isSome=true by cases h:(gZ (L.map aR.c) cs ((k+1:Nat):Int)).isSome<;>simp_all);obtain⟨m,rfl⟩:∃m,n=m+1:=⟨n-1,by omega⟩;have hnf:sn.getD (k+1) false=false:=by
  cases h:sn.getD (k+1) false with
  | false=>rfl
  | true=>exact absurd ((hv.mem (k:=k+1) (by omega)).1 h) hnot
 have hv2:=hv.set (k:=k+1) (by omega) hnf;have hfr:=Cu h0 r;have hri:=Z0 (K1 hr).2;rw[List.length_map] at hri;have hrr:r<=9223372036854775807:=by omega
 have hbn:=hfr.brN;have hbs:=hfr.brS;have hpn:=hfr.prN;have hfm:=vw hri;have hfp:=uo hri;have hbr:=hb.br r;have hB1:=(hB.1 r).1;have hB2:=(hB.1 r).2;obtain⟨bt,hbt,hbe,hbl⟩:=hbm r
 obtain⟨ix,hix⟩:∃ix,ix=sF bt 64:=⟨_,rfl⟩;have hpl:¬(aB L r).nd.kind=5->¬(aB L r).nd.kind=6->C3 (L.map aR.c) cs (m+1) a lv ((k+1:Nat):Int) way s=(vT (L.map aR.c) (λ b w s=>C3 (L.map aR.c) cs m ((k+1:Nat):Int) (lv+1) b w s) way ix (aB L r).xs 0 (s++[((k+1:Nat):Int)])).map λ q=>(⟨((k+1:Nat):Int),r,a,lv,way⟩::q.1,q.2):=by intro h5 h6;rw[Rn hnot hr (by rw[dH];exact λ h=>h.elim h5 h6),l9];rw[dH,show(aB L r).c.bm=(bt:Int) from hbe,Int.toNat_natCast,<- hix]
 have hv3:=hv2.len;refine enter func116 ntmps116 rfl rfl (hs.Us (a':=(aB L r).nd.brA) (cs':=aH (aB L r).xs) (.bR (.tail (.tail (.tail (Ap.rB hfm))))) (λ _=>rfl) (λ h=>h) (λ w h=>h)) ?_;simp only[cC]
 simp only[Lv];refine K1g ?_;intro x3;refine bL (λ x4=>?_);refine iW (λ _=>?_);refine J8 ?_;refine nG ?_;refine J3 ?_;refine aN (cV (hc:=λ w1 hw=>by have:=Wt (gen:=gen) (cn:=cn) (cc:=cc) (hw.Jw (.inr (.inl (.tail _ (.head _)))) (.inr (.inl (.tail _ (.tail _ (.head _))))) (λ f hf=>.inr (.inl (.tail _ (.tail _ (.tail _ (.tail _ hf)))))) h0) hb hl hc ((k+1:Nat):Int) (by omega);rw[hr] at this;exact this)) (λ x22=>?_);refine Kb7 ?_;refine D5 ?_;(refine aF ?_;refine aE ?_);((refine aF ?_;refine bO ?_));refine Bf ?_;refine aA ?_;(refine eF 32 (λ g32=>?_) (λ g32=>?_)<;>(try ((exfalso;omega)))<;>((refine Ka3 ?_)));refine J6 ?_;((refine aF ?_;refine aC (pD (k:=k+1) rf rf gS gB fin (by omega) (by omega)) rfl ?_));((refine aF ?_;refine aC (Bi (q:=k+1) rf gB fin (by omega)) rfl ?_));refine cH ?_;refine aG ?_;refine bD (λ c38=>?_) (λ c38=>?_)
 ·try (first|(exact abt)|(exfalso;omega))
  (exfalso;simp_all)
 ·try (first|(exact abt)|(exfalso;omega))
  refine aW ?_;refine J2 ?_;refine J3 ?_;refine aC (pD (k:=k+1) rf rf gS gB fin (by omega) (by omega)) rfl ?_;refine J5 ?_;refine J2 ?_;refine vU ?_;refine nG ?_;refine aN (Qv (sz:=5) (cs:=rR [⟨⟨((k+1:Nat):Int),r,a,lv,way⟩,wp,wc⟩]) Hr Ky rf rf rf rf rf rf) (λ x46=>?_);refine J1 ?_;refine Fa ?_;refine aN (cV (hc:=λ w1 hw=>rC (hw.Jw (.inr (.inl (.tail _ (.head _)))) (.inr (.inl (.tail _ (.tail _ (.head _))))) (λ f hf=>.inr (.inl (.tail _ (.tail _ (.tail _ (.tail _ hf)))))) h0) r (by omega) hl)) (λ x49=>?_);refine aJ (λ x10=>?_);refine J5 ?_;refine B9 ?_;refine aG ?_;refine cR ?_;refine lN ?_;refine bD (λ c52=>?_) (λ c52=>?_)
  ·try (first|(exact abt)|(exfalso;omega))
   refine aV ?_;refine M7 [6,7,8,54,55,56,57,58,59,60] (λ z:Nat=>[(6,.slice (some ⟨x46,0,none⟩) 1 1),(60,.slice (some ⟨z,0,none⟩) 1 1),(7,.slice (some ⟨z,0,none⟩) 1 1),(8,.bool true)]) (λ z=>True) (λ _=>[]) (λ z=>[(some ⟨z,0,none⟩,dI [((aB L r).nd.key,(aB L r).nd.val)])]) (λ _=>[]) (by decide) (λ _=>by exact rfl) (λ _=>by simp only[List.nil_append,List.cons_append];exact rfl) (λ _=>by simp only[List.nil_append,List.cons_append];exact rfl) (λ _=>by simp only[List.nil_append,List.cons_append];exact rfl) ?_ (λ z f hx=>?_)
   ·refine hY (.one 0 [] (.one 1 [] (.one 2 [] (.one 3 [] (.one 4 [] (.one 5 [] (.two 6 [] (.one 7 [2,4] (.one 8 [] (.one 9 [] .nil))) 0 [] (.two 7 [2,4] (.one 6 [] (.one 8 [] (.one 9 [] .nil))) 0 [] .nil)))))))) ?_;refine aT ?_;refine mI ?_;refine mI ?_;refine iI ?_;refine gU (E:=[6,7]) (by decide +kernel) ((.cons ?_ (.cons ?_ .nil)));·refine mS (i:=6) (h:=λ x60=>?_);refine qJ (h:=λ _=>?_);refine Qe ?_;refine fK (x60) ?_;·trivial
    ·refine Ze (i:=7) (h:=λ _=>?_);refine cG (h:=λ x60=>?_);refine Qe ?_;refine fK (x60) ?_;·trivial
   refine K0a ?_;refine aY results116 (λ w hw=>?_);have hk5:(bH (L.map aR.c) r).kind=5:=by rw[dH];exact c52
   have ho:sJ (aB L r).c=[((aB L r).nd.key,(aB L r).nd.val)]:=if_pos c52;refine⟨⟨true,[⟨⟨((k+1:Nat):Int),r,a,lv,way⟩,wp,wc⟩],some ⟨x46,0,none⟩,1,[((aB L r).nd.key,(aB L r).nd.val)],some ⟨z,0,none⟩,1,sn.set (k+1) true,true⟩,rfl,O3.one (by rw[List.length_set];exact hvl) ((Bp hnot hr (.inl hk5)).trans (by rw[dH,ho])) (λ e=>nomatch e) hv2 (by simp only[List.length_cons,List.length_nil];omega),?_⟩;exact(show SF _ D [] [] [(some ⟨x46,0,none⟩,rR [⟨⟨((k+1:Nat):Int),r,a,lv,way⟩,wp,wc⟩]),(some ⟨z,0,none⟩,dI [((aB L r).nd.key,(aB L r).nd.val)])] [w3 L pv (sn.set (k+1) true)] _ from(hw.freeze .head).bA)
  ·try (first|(exact abt)|(exfalso;omega))
   refine lN ?_;refine bD (λ c61=>?_) (λ c61=>?_)
   ·try (first|(exact abt)|(exfalso;omega))
    refine aV ?_;refine eM [(0,[]),(1,[]),(2,[]),(3,[2]),(4,[]),(5,[])] ?_;refine aT ?_;refine mI ?_;refine qJ (h:=λ _=>?_);refine Qe ?_;refine aY results116 (λ w hw=>?_);have hk6:(bH (L.map aR.c) r).kind=6:=by rw[dH];exact c61
    have ho:sJ (aB L r).c=(aB L r).ys:=(if_neg (show ¬(aB L r).nd.kind=5 from c52)).trans (if_pos c61);refine⟨⟨true,[⟨⟨((k+1:Nat):Int),r,a,lv,way⟩,wp,wc⟩],some ⟨x46,0,none⟩,1,(aB L r).ys,(aB L r).nd.prA,(aB L r).nd.dI,sn.set (k+1) true,false⟩,by rw[hpn];exact rfl,O3.one (by rw[List.length_set];exact hvl) ((Bp hnot hr (.inr hk6)).trans (by rw[dH,ho])) (λ _=>hfp) hv2 (by omega),?_⟩;exact(show SF _ D [] [] [(some ⟨x46,0,none⟩,rR [⟨⟨((k+1:Nat):Int),r,a,lv,way⟩,wp,wc⟩])] [w3 L pv (sn.set (k+1) true)] _ from(hw.freeze .head).bA)
   ·try (first|(exact abt)|(exfalso;omega))
    refine pP ?_;refine iB ?_;refine aD (cF (hc:=λ w1 hw=>Kb hix hbt hbe w1)) (λ x68 h68=>?_);refine jG ?_;refine E9 ?_;refine nB [6,7,8,12,13,14,15,16,17,69,70,71,72,73,74,75,76,77,78,79,80,81,82,83,84,85,86,87,88,89,90,91,92,93,94,95,96,97,98,99,100,101,102,103,104,105,106,107,108,109,110,111,112,113,114,115,116,117,118,119,120,121,122,123,124,125,126,127,128,129,130,131,132,133] (λ y:PlY=>[(6,.slice y.lp (y.tl.length+1) y.lc),(7,.slice y.pp y.ps.length y.pc),(12,.int .i64 ((y.j:Nat):Int))]) (λ y=>y.j<=(aB L r).xs.length/\Ay (L.map aR.c) (λ b w s=>C3 (L.map aR.c) cs m ((k+1:Nat):Int) (lv+1) b w s) way ix (aB L r).xs (s++[((k+1:Nat):Int)]) y.j (y.tl.map yJ.p) y.ps/\Vs L.length y.sn ((s++[((k+1:Nat):Int)])++(y.tl.map yJ.p).map Pl.i)/\y.ps.length+(64-y.j)<=(y.tl.length+1)*(B+64)) (λ y=>[(x10,.cells ⟨(aB L r).nd.cells⟩ 47 (0,0)),(x4,.cells ⟨[.int .i64 ((k+1:Nat):Int),.int .i64 r,.int .i64 a,.int .i64 ((lv:Nat):Int),.slice wp way.length wc]⟩ 39 (0,0)),(x3,.cells ⟨[.slice pn L.length cn,.slice pc cs.length cc,.int .i64 gen]⟩ 52 (0,0))]) (λ y=>(x68.1,aH ix)::Jx y.tl) (λ y=>[⟨y.pp,dI y.ps,y.pc,164,2⟩,⟨y.lp,rR (⟨⟨((k+1:Nat):Int),r,a,lv,way⟩,wp,wc⟩::y.tl),y.lc,39,5⟩,w3 L pv y.sn]) (λ y=>(aB L r).xs.length-y.j) (⟨0,[],some ⟨x46,0,none⟩,1,[],none,0,sn.set (k+1) true⟩) (⟨Nat.zero_le _,Ay.zero,by simpa using hv2,by simp⟩) (λ y f hx=>?_) (hw0:=λ w hw=>(hw.kQ 164 2).back);refine K0a ?_;have hy:=hx;refine kF ?_;refine Sx ?_;refine zR ?_;refine bD (λ c73=>?_) (λ c73=>?_)
    ·try (first|(exact abt)|(exfalso;omega))
     have hbk:(aB L r).xs.getD y.j 0<=9223372036854775807:=hbr _ (by rw[jA,List.getElem?_eq_getElem (by omega)];exact List.getElem_mem _);have hk3:(aB L r).nd.kind=3:=by
      have:=(K1 hr).2;rw[dH] at this;rcases this with h|h|h
      ·exact h
      ·exact absurd h c52
      ·exact absurd h c61
     have hil:ix.length=(aB L r).xs.length:=by rw[hix,Ik,hbl hk3]
     have hjl:y.j<(aB L r).xs.length:=by omega
     have hlen0:=hy.2.2.1.len;simp only[List.length_append,List.length_map,List.length_cons,List.length_nil] at hlen0;have hmul:(y.tl.length+1)*(B+64)<=549755813888:=Nat.le_trans (Nat.mul_le_mul_right _ (by omega)) hB.2;have hbnd:=hy.2.2.2;refine sG ?_;refine aV ?_;refine M7 [13,76,77,78,79,80,81,82] (λ z:Nat=>[(82,(aB L ((aB L r).xs.getD y.j 0)).nd.v),(13,.pointer (some ⟨z,0,none⟩))]) (λ z=>True) (λ z=>[(z,.cells ⟨(aB L ((aB L r).xs.getD y.j 0)).nd.cells⟩ 47 (0,0))]) (λ _=>[]) (λ _=>[]) (by decide) (λ _=>by exact rfl) (λ _=>by simp only[List.nil_append,List.cons_append];exact rfl) (λ _=>by simp only[List.nil_append,List.cons_append];exact rfl) (λ _=>by simp only[List.nil_append,List.cons_append];exact rfl) ?_ (λ z f hx=>?_)
     ·refine hY (.one 0 [] (.one 1 [] (.one 2 [] (.one 3 [] (.one 4 [] (.one 5 [] (.two 6 [] (.one 7 [0,2,4,5] (.one 8 [] .nil)) 0 [] (.two 7 [0,2,4,5] (.one 6 [] (.one 8 [] .nil)) 0 [] .nil)))))))) ?_;refine bW ?_;refine mI ?_;refine aT ?_;refine S9 ?_;refine gU (E:=[6,7]) (by decide +kernel) ((.cons ?_ (.cons ?_ .nil)));·refine A4 (i:=6) (hq:=(cV (hc:=λ w1 hw=>rC (hw.Jw (.inr (.inl (.tail _ (.head _)))) (.inr (.inl (.tail _ (.tail _ (.head _))))) (λ f hf=>.inr (.inl (.tail _ (.tail _ (.tail _ (.tail _ hf)))))) h0) ((aB L r).xs.getD y.j 0) (by omega) hl))) (h:=λ x82=>?_);refine iQ (hfire:=E0o) (h:=λ x13=>?_);refine Ca ?_;refine fK (x13) ?_ (hw1:=λ w hw=>hw.v6);·trivial
      ·refine iS (i:=7) (hfire:=E0o) (h:=λ x13=>?_);refine dD (i:=6) (hq:=(cV (hc:=λ w1 hw=>rC (hw.Jw (.inr (.inl (.tail _ (.head _)))) (.inr (.inl (.tail _ (.tail _ (.head _))))) (λ f hf=>.inr (.inl (.tail _ (.tail _ (.tail _ (.tail _ hf)))))) h0) ((aB L r).xs.getD y.j 0) (by omega) hl))) (h:=λ x82=>?_);refine Ca ?_;refine fK (x13) ?_ (hw1:=λ w hw=>hw.v6);·trivial
     refine K0a ?_;refine Kc8 ?_;refine bD (λ c85=>?_) (λ c85=>?_)
     ·try (first|(exact abt)|(exfalso;omega))
      refine J2 ?_;refine J3 ?_;refine J3 ?_;refine bN ?_;refine fC (λ x92=>?_);(refine fI (λ x93=>?_);try (refine eP (λ h93=>?_)));refine J1 ?_;refine bS rfl ?_;refine vB ?_;refine lO ((by exact⟨y.j+1,y.tl,y.lp,y.lc,y.ps++[((aB L ((aB L r).xs.getD y.j 0)).nd.key,(aB L ((aB L r).xs.getD y.j 0)).nd.val)],x93.1,x93.2,y.sn⟩)) ?_ ?_ E0d ?_ (λ w hw=>by exact hw.back (hF:=E0p));·(simp only[];omega)
      ·repeat' (first|exact bF _|refine bB ?_ ?_)
       all_goals (first|exact rfl|(conv=>{lhs;whnf};simp;done))
      ·(exact⟨by show y.j+1<=_;omega,by have:=Ay.single hy.2.1 hjl (by rw[dH];exact c85);rw[dH] at this;exact this,hy.2.2.1,by show(y.ps++[_]).length+(64-(y.j+1))<=(y.tl.length+1)*(B+64);rw[List.length_append,List.length_singleton];omega⟩)
     ·try (first|(exact abt)|(exfalso;omega))
      refine lH ?_;refine iB ?_;refine Kc9 ?_;refine bD (λ c96=>?_) (λ c96=>?_)
      ·try (first|(exact abt)|(exfalso;omega))
       refine J0 ?_;refine iW (λ _=>?_);refine J8 ?_;refine aY results116 (λ w hw=>?_);exact⟨⟨false,[],none,0,[],none,0,y.sn,false⟩,rfl,O3.no ((hpl c52 c61).trans (by rw[Ay.bad hy.2.1 hjl (by rw[dH];exact c85) (by rw[dH];exact c96)];rfl)) hy.2.2.1.1 rfl,(hw.fA (F':=[(none,rR [])]) E0u).bA (hO:=.cons _ (.cons _ (List.Sublist.refl _)))⟩
      ·try (first|(exact abt)|(exfalso;omega))
       obtain⟨q,hj,hq⟩:∃q:Nat,(aB L r).xs.getD y.j 0=((q+1:Nat):Int)/\q<L.length:=by have:=eQ (N:=L.map aR.c) (i:=(aB L r).xs.getD y.j 0) (by rw[dH];show(aB L ((aB L r).xs.getD y.j 0)).nd.kind≠0;omega);rw[List.length_map] at this;exact⟨((aB L r).xs.getD y.j 0-1).toNat,by omega,by omega⟩
       have hkd:(bH (L.map aR.c) ((aB L r).xs.getD y.j 0)).kind=2:=by rw[dH];show(aB L ((aB L r).xs.getD y.j 0)).nd.kind=2;omega
       rw[hj] at hkd;refine lH ?_;refine M7 [14,97,98,99,100,101,102,103,104,105,106] (λ u:Option Addr×Nat=>[(14,.slice u.1 (way++[ix.getD y.j 0]).length u.2)]) (λ u=>way.length+1<=u.2) (λ _=>[]) (λ _=>[]) (λ u=>[⟨u.1,aH (way++[ix.getD y.j 0]),u.2,3,1⟩]) (by decide) (λ _=>by exact rfl) (λ _=>by simp only[List.nil_append,List.cons_append];exact rfl) (λ _=>by simp only[List.nil_append,List.cons_append];exact rfl) (λ _=>by simp only[List.nil_append,List.cons_append];exact rfl) ?_ (λ u f hx=>?_)
       ·refine hY (.one 1 [] (.one 2 [] (.one 4 [] (.one 5 [] (.one 6 [] (.one 7 [] (.two 0 [2,6,7] (.two 3 [6,7] (.one 8 [2] (.one 9 [] (.one 10 [] .nil))) 0 [] (.two 8 [2] (.one 3 [6,7] (.one 9 [] (.one 10 [] .nil))) 0 [] .nil)) 0 [] (.two 8 [2] (.one 0 [2,6,7] (.one 3 [6,7] (.one 9 [] (.one 10 [] .nil)))) 0 [] .nil)))))))) ?_;refine mI ?_;refine iR ?_;refine bU (i:=6) (hq:=(dS (k:=y.j) (lst:=ix) rf rf gS gB fin (by omega) (by omega))) (h:=?_);refine bU (i:=7) (hq:=(fH (q:=y.j) (lst:=ix) rf gB fin (by omega))) (h:=?_);refine gU (E:=[0,8]) (by decide +kernel) ((.cons ?_ (.cons ?_ .nil)))
        ·refine mw (i:=0) (hfire:=E0j) (h:=λ x97=>?_);refine gU (E:=[3,8]) (by decide +kernel) ((.cons ?_ (.cons ?_ .nil)))
         ·(refine oa (i:=3) (hfire:=E0e) (h:=λ x100=>?_);try (refine eL (λ h100=>?_)));refine cG (hfire:=E0z) (h:=λ x105=>?_);((refine mL (h:=λ x106=>?_);try (refine eL (λ h106=>?_))));refine J7 ?_;refine lO (x106) (by decide) ?_ E0d ?_ (λ w hw=>hw.back (hF:=E0p) (hO:=E0m))
          ·repeat' (first|exact bF _|refine bB ?_ ?_)
           (conv=>{lhs;whnf};simp;done)
          ·omega
         ·refine mS (i:=8) (hfire:=E0z) (h:=λ x105=>?_);((refine mL (hfire:=E0e) (h:=λ x100=>?_);try (refine eL (λ h100=>?_))));((refine mL (h:=λ x106=>?_);try (refine eL (λ h106=>?_))));refine J7 ?_;refine lO (x106) (by decide) ?_ E0d ?_ (λ w hw=>hw.back (hF:=E0p) (hO:=E0m))
          ·repeat' (first|exact bF _|refine bB ?_ ?_)
           (conv=>{lhs;whnf};simp;done)
          ·omega
        ·refine mS (i:=8) (hfire:=E0z) (h:=λ x105=>?_);refine nj (hfire:=E0j) (h:=λ x97=>?_);((refine mL (hfire:=E0e) (h:=λ x100=>?_);try (refine eL (λ h100=>?_))));((refine mL (h:=λ x106=>?_);try (refine eL (λ h106=>?_))));refine J7 ?_;refine lO (x106) (by decide) ?_ E0d ?_ (λ w hw=>hw.back (hF:=E0p) (hO:=E0m))
         ·repeat' (first|exact bF _|refine bB ?_ ?_)
          (conv=>{lhs;whnf};simp;done)
         ·omega
       refine K0a ?_;refine aV ?_;refine gO [0,1,2,3,4,5,6,7,8,9,10,11,12,13,14,15,16,17,18,19,20,21] ?_;refine bW ?_;refine mI ?_;refine aT ?_;refine bU (i:=4) (hq:=(dS (k:=y.j) (lst:=(aB L r).xs) rf rf gS gB (.bR .head) (by omega) (by omega))) (h:=?_);refine bU (i:=5) (hq:=(nZ (cs:=aH (aB L r).xs) (q:=y.j) (v:=.int .i64 ((q+1:Nat):Int)) rf gB (λ w hw=>hw.cl (.bR .head)) (by rw[<- hj];exact R4 hjl))) (h:=?_);refine mI ?_;refine mI ?_;refine aAr ?_;refine aT ?_;refine iI ?_;refine aT ?_;refine bK (i:=14) (hq:=(cM (hs:=[]) (os:=[w3 L pv y.sn]) (hA:=bG.cons (.inr (.inl (.tail _ (.head _)))) (bG.cons (.inr (.inl (.tail _ (.tail _ (.head _))))) (bG.cons (.inr (.inr (.inr ⟨_,.head _,rfl,rfl⟩))) (bG.of λ f hf=>.inr (.inl (.tail _ (.tail _ (.tail _ (.tail _ hf))))))))) (hc:=λ w1 hs=>ih m rfl (lv+1) (by omega) q ((k+1:Nat):Int) 0 (way++[ix.getD y.j 0]) u.1 u.2 _ y.sn _ w1 hq (by simp;omega) (by simp;omega) hy.2.2.1 hs))) (h:=λ x122 h122=>?_);refine aT ?_;refine jU ?_;refine jU ?_;refine jU ?_;refine qJ (h:=λ _=>?_);refine Qe ?_;refine kF ?_;refine oD ?_;refine bD (λ c127=>?_) (λ c127=>?_)
       ·try (first|(exact abt)|(exfalso;omega))
        have hno:=O3.aEh h122 (by simpa using c127);refine J0 ?_;refine iW (λ _=>?_);refine J8 ?_;refine aY results116 (λ w hw=>?_);exact⟨⟨false,[],none,0,[],none,0,x122.sn,false⟩,rfl,O3.no ((hpl c52 c61).trans (by rw[Ay.fail hy.2.1 hjl (by rw[hj];exact hkd) (by rw[hj];exact hno)];rfl)) h122.1 rfl,(hw.fA (F':=[(none,rR [])]) E0u).bA (hO:=.cons _ (.cons _ (.cons _ (List.Sublist.refl _))))⟩
       ·try (first|(exact abt)|(exfalso;omega))
        obtain⟨qq,hq1,e1,e2,⟨p0,t0,e3⟩,e4,e5,e6⟩:=O3.yes h122 (by simpa using c127);have hlen1:=e5.len;have hlen2:x122.l.length=qq.1.length:=by rw[<- e1,List.length_map]
        simp only[List.length_append,List.length_map,List.length_cons,List.length_nil] at hlen1;have hmul2:(y.tl.length+1)*(B+64)+x122.l.length*(B+64)<=549755813888:=by rw[<- Nat.add_mul];exact Nat.le_trans (Nat.mul_le_mul_right _ (by omega)) hB.2
        obtain⟨m0,t1,e7⟩:=qv hq1;have e8:p0.way=way++[ix.getD y.j 0]:=by have:=e1;rw[e3,e7] at this;rw[show p0=_ from(List.cons.inj this).1]
        refine aW ?_;refine Jl ?_;(refine aN (bE.eW (fX (sz:=5) (cs:=rR (⟨⟨((k+1:Nat):Int),r,a,lv,way⟩,wp,wc⟩::y.tl)) (ys:=rR x122.l) rf rf Al (by rw[xQ];rfl) (.new .head) (by rw[xQ]) (Bx _) Hr rfl (by decide) gS (by omega)) vS) (λ x130=>?_);try (refine eP (λ h130=>?_)));refine qL ?_;(refine aN (bE.eW (Ns (l:=y.ps) (l2:=x122.ps) rf rf Al rfl (Ju.fin e4 (λ f hf=>List.mem_append_left _ hf) (λ f hf=>.tail _ (.tail _ (.tail _ (.tail _ hf))))) rfl zq gS (by omega)) vS) (λ x133=>?_);try (refine eP (λ h133=>?_)));refine J8 ?_;refine Kb2 ?_;refine lO ((by exact⟨y.j+1,y.tl++x122.l,x130.1,x130.2,y.ps++x122.ps,x133.1,x133.2,x122.sn⟩)) ?_ ?_ E0d ?_ (λ w hw=>by exact aBo hw e3 e8);·(simp only[];omega)
        ·repeat' (first|exact bF _|refine bB ?_ ?_)
         all_goals (first|exact rfl|(conv=>{lhs;whnf};simp;done)|(conv=>{lhs;whnf};simp only[List.length_append];congr 1;omega))
        ·exact aAG hy.2.1 hjl hj hkd hq1 e1 e2 e5 e6 hbnd
    ·try (first|(exact abt)|(exfalso;omega))
     refine bS rfl ?_;refine iZ ?_;refine iW (λ _=>?_);refine J8 ?_;refine aY results116 (λ w hw=>?_);refine⟨⟨true,⟨⟨((k+1:Nat):Int),r,a,lv,way⟩,wp,wc⟩::y.tl,y.lp,y.lc,y.ps,y.pp,y.pc,y.sn,true⟩,rfl,aA0 hy.2.2.1 ((hpl c52 c61).trans (by rw[Ay.done hy.2.1 (by omega)];rfl)) hy.2.2.2,?_⟩;exact(SF.fA ((hw.freeze .head).freeze .head) (aCK y.tl)).v4
theorem Rv(h0:Fits L)(hb:StB L cs)(hl:L.length<=274877906944)(hc:cs.length<=274877906944)(hbm:∀r,∃b:Nat,b<18446744073709551616/\(aB L r).nd.bm=(b:Int)/\((aB L r).nd.kind=3->(aB L r).xs.length=fP b 64))(B pv:Nat)(hB:Few L B):∀n,aCn L cs gen pn cn pc cc B pv n
 | 0=>K7 h0 hb hl hc hbm B pv hB 0 λ m e=>nomatch e
 | n+1=>K7 h0 hb hl hc hbm B pv hB (n+1) λ m e=>by cases e;exact Rv h0 hb hl hc hbm B pv hB n
end
end
end Go.Proofs.YtbajmaoegmbfgaaGreat

/- Merged. -/
import Derived.Test.YtdnklbipddigbaaGreatGVw6
import Derived.Test.YtdnklbipddigbaaGreatGQw1
import Derived.Test.YtdnklbipddigbaaGreatGKw1
import Derived.Test.YtdnklbipddigbaaGreatGWo6
import Derived.Test.YtdnklbipddigbaaGreatGRn1
import Derived.Test.YtdnklbipddigbaaGreatGVw1
import Derived.Test.YtdnklbipddigbaaGreatGNode8
import Derived.Test.YtdnklbipddigbaaGreatGTm2
set_option linter.unusedSimpArgs false
set_option linter.unusedVariables false
namespace Go.Proofs.YtdnklbipddigbaaGreat
open Go Go.RowKit Go.Ct
section
def dnE(ex:List EX)(i:Nat):Bool:=(ex.map EX.dn).getD i true
def rE(ex:List EX)(i:Nat):Tr:=(ex.map EX.R).getD i .stuck
section
variable{m B C E bw bm:Nat}{D:List Nat}{A:Fr}{w:World}{H:ByteArray->Nat}
theorem mid_at{α β:Type}(f:α->β)(l1 l2:List α)(e:α)(d:β):((l1++e::l2).map f).getD l1.length d=f e:=by simp
theorem mid_ne{α β:Type}(f:α->β)(l1 l2:List α)(e e':α)(d:β){k:Nat}(hk:k≠l1.length):((l1++e::l2).map f).getD k d=((l1++e'::l2).map f).getD k d:=by
 simp only[List.map_append,List.map_cons,gdg];by_cases h:k<l1.length;·rw[List.getElem?_append_left (by simpa using h),List.getElem?_append_left (by simpa using h)]
 ·rw[List.getElem?_append_right (by simpa using h),List.getElem?_append_right (by simpa using h)];obtain⟨j,hj⟩:∃j,k-(l1.map f).length=j+1:=⟨k-l1.length-1,by rw[List.length_map];omega⟩;rw[hj];rfl
theorem wdoneX_c{W:Wd}{i:Nat}(hi:i<W.ex.length)(hs:SF w D (wH m bw bm W) A [] (wO W) w) :
  Calls Tryz.prog 48 #[.pointer (some ⟨(exB W.ex).getD i 0,0,none⟩)] w λ e w'=>∃q:Unit,e=.returned (.bool (dnE W.ex i))/\True/\SF w D (wH m bw bm W) [] [] (wO W) w':=by
 obtain⟨l1,e,l2,hl,hi1⟩:=ex_split hi;have hb:(exB W.ex).getD i 0=e.b:=by rw[hl,<- hi1];exact mid_at _ _ _ _ _
 have hd:dnE W.ex i=e.dn:=by unfold dnE;rw[hl,<- hi1];exact mid_at _ _ _ _ _
 rw[hb,hd];have pH:=wH_X (m:=m) (bw:=bw) (bm:=bm) hl;have pO:=wO_X hl;have key:=frame_c (P:=Tryz.prog) (f:=48) (vs := #[.pointer (some ⟨e.b,0,none⟩)]) (V:=λ _:Unit=>.bool e.dn) (φ:=λ _=>True) (hs:=xH e.k e.b bm (XS.wm e.x W.z) e.dn e.rs) (os:=xW (XS.wm e.x W.z)) (hs':=λ _=>xH e.k e.b bm (XS.wm e.x W.z) e.dn e.rs) (os':=λ _=>xW (XS.wm e.x W.z)) (Fc:=λ _=>[]) (A0:=[]) hs pH pO HasAll.nil (λ h=>done_c h)
 refine key.mono λ e w' ⟨q,e1,h1,hw⟩=>⟨q,e1,h1,?_⟩;rw[List.append_nil] at hw;exact hw.noA.perm pH pO
structure FX where
 i:Nat
 c:Nat
 z:XS
 ex:List EX
 N:List NdV
structure FxI(m B C E:Nat)(W:Wd)(y:FX):Prop where
 ok:WOk m (B+128*(8001*y.i+y.c)) (C+(8001*y.i+y.c)) E (W.go y.z y.ex)
 L:y.z.L=W.z.L++y.N
 b:exB y.ex=exB W.ex
 dn:∀k,k<y.i->dnE y.ex k=true
structure FxJ(m B C E:Nat)(W:Wd)(y:FX):Prop extends FxI m B C E W y where
 lt:y.i<y.ex.length
 c:y.c<=8000
 fin:dnE y.ex y.i=true∨Fin (H8 m) (rE y.ex y.i) y.z.mm (8000-y.c)
theorem FxI.len{W:Wd}{y:FX}(h:FxI m B C E W y):y.ex.length=W.ex.length:=by have:=congrArg List.length h.b;simpa[exB] using this
theorem FxI.begin{W:Wd}{y:FX}(h:FxI m B C E W y)(hc:y.c=0)(hi:y.i<y.ex.length):FxJ m B C E W y:=by
 refine⟨h,hi,by omega,.inr ?_⟩;obtain⟨l1,e,l2,hl,hi1⟩:=ex_split hi;have hR:rE y.ex y.i=e.R:=by unfold rE;rw[hl,<- hi1];exact mid_at _ _ _ _ _
 have w1:WR (H8 m) m y.z.mm W.ts (y.ex.map EX.R):=h.ok.wr;rw[hl,List.map_append,List.map_cons] at w1;rw[hR,hc];exact(w1.perm List.perm_middle).fin
theorem FxJ.step{W:Wd}{y:FX}{q:XS×List EX×List NdV}(h:FxJ m B C E W y)(hd:dnE y.ex y.i=false)
  (hq:WOk m (B+128*(8001*y.i+y.c)+128) (C+(8001*y.i+y.c)+1) E ((W.go y.z y.ex).go q.1 q.2.1)/\q.1.L=(W.go y.z y.ex).z.L++q.2.2/\StX (W.go y.z y.ex) y.i q.1 q.2.1):FxJ m B C E W ⟨y.i,y.c+1,q.1,q.2.1,y.N++q.2.2⟩:=by
 obtain⟨ok,hL,l1,e,e',l2,hl,hi1,hl',hb,hst⟩:=hq;have hl:y.ex=l1++e::l2:=hl;have e1:dnE y.ex y.i=e.dn:=by unfold dnE;rw[hl,<- hi1];exact mid_at _ _ _ _ _
 have e2:rE y.ex y.i=e.R:=by unfold rE;rw[hl,<- hi1];exact mid_at _ _ _ _ _
 have e3:dnE q.2.1 y.i=e'.dn:=by unfold dnE;rw[hl',<- hi1];exact mid_at _ _ _ _ _
 have e4:rE q.2.1 y.i=e'.R:=by unfold rE;rw[hl',<- hi1];exact mid_at _ _ _ _ _
 have hfin:=h.fin.resolve_left (by rw[hd];decide);rw[e2] at hfin;rw[e1] at hd;have he:EOk m (C+(8001*y.i+y.c)) y.z e:=h.ok.ex e (by show e∈y.ex;rw[hl];simp);have hacc:e.R.acc=some (XS.wm e.x y.z).nx:=by
  rcases he.i.res with⟨h1,_⟩|⟨_,h1⟩;·rw[hd] at h1;cases h1
  ·exact h1
 have hpos:=hfin.pos hacc;rcases hst with⟨h1,_⟩|⟨_,j,hj,hj1,hrc⟩;·rw[hd] at h1;cases h1
 refine⟨⟨ok.mono (by show _<=B+128*(8001*y.i+(y.c+1));omega) (by show _<=C+(8001*y.i+(y.c+1));omega) (Nat.le_refl _),by rw[hL];show y.z.L++q.2.2=_;rw[h.L,List.append_assoc],?_,λ k hk=>?_⟩,?_,by show y.c+1<=8000;omega,?_⟩;·show exB q.2.1=_;rw[<- h.b,hl',hl];simp[exB,hb]
 ·have hk:k<y.i:=hk;have:=h.dn k hk;show dnE q.2.1 k=true;unfold dnE at this ⊢;rw[hl',mid_ne EX.dn l1 l2 e' e true (by omega),<- hl];exact this
 ·show y.i<q.2.1.length;rw[hl',<- hi1];simp
 ·show dnE q.2.1 y.i=true∨Fin (H8 m) (rE q.2.1 y.i) q.1.mm (8000-(y.c+1));rw[e3,e4];cases hdn:e'.dn with
  | true=>exact .inl rfl
  | false=>obtain⟨m',em,hf⟩:=hfin.rc hrc;rw[hj1 hdn] at em;exact .inr (by rw[show 8000-(y.c+1)=m' by omega];exact hf)
theorem FxJ.next{W:Wd}{y:FX}(h:FxJ m B C E W y)(hd:dnE y.ex y.i=true):FxI m B C E W ⟨y.i+1,0,y.z,y.ex,y.N⟩ :=
 ⟨h.ok.mono (by have:=h.c;show _<=B+128*(8001*(y.i+1)+0);omega) (by have:=h.c;show _<=C+(8001*(y.i+1)+0);omega) (Nat.le_refl _),h.L,h.b,λ k hk=>by
  by_cases e:k=y.i;·rw[e];exact hd
  ·exact h.dn k (by have:k<y.i+1:=hk;omega)⟩
theorem WR.dropAll{s:Mm}{ts:List Tri}:∀{rs:List Tr},WR H m s ts rs->(∀t∈rs,∃r,t=.done r)->WR H m s ts []
 | [],h,_=>h
 | t::rs,h,hd=>by obtain⟨r,e⟩:=hd t (List.mem_cons_self ..);subst e;exact WR.dropAll h.drop λ t ht=>hd t (List.mem_cons_of_mem _ ht)
theorem FxI.end{W:Wd}{y:FX}(h:FxI m B C E W y)(hi:y.ex.length<=y.i)(hiE:y.i<=E)(hc:y.c=0):WOk m (B+1024128*E) (C+8001*E) 0 ⟨y.z,W.ts,W.pt,W.kt,[],none,0⟩:=by
 have ok:=h.ok.mono (B':=B+1024128*E) (C':=C+8001*E) (by rw[hc];omega) (by rw[hc];omega) (Nat.le_refl _);refine⟨ok.z,ok.sz,(λ e he=>nomatch he),ok.t0,ok.tr,ok.tl,Nat.le_refl _,WR.dropAll ok.wr λ t ht=>?_⟩;obtain⟨e,he,rfl⟩:=List.mem_map.1 ht;have hk:=ok.ex e he;obtain⟨k,hk1,hk2⟩:=List.getElem_of_mem he;have hd:dnE y.ex k=true:=h.dn k (by have:k<y.ex.length:=hk1;omega);have hd2:e.dn=true:=by unfold dnE at hd;rw[gdg,List.getElem?_map,List.getElem?_eq_getElem hk1] at hd;rw[<- hk2];exact hd
 rcases hk.i.res with⟨_,h2⟩|⟨h1,_⟩;·exact⟨e.rs,h2⟩
 ·rw[hd2] at h1;cases h1
set_option maxRecDepth 100000 in
set_option maxHeartbeats 2000000 in
theorem finish_c{W:Wd}(hE:E<=1000)(hC:C<=100000000)(hB:B<=10000000000)(hm:m<18446744073709551616)(hW:WOk m B C E W)(hA:∀f∈famF W.z.L,f∈A)(hs:SF w D (wH m bw bm W) A [] (wO W) w) :
  Calls Tryz.prog 8 #[.pointer (some ⟨bw,0,none⟩)] w λ e w'=>∃r:XS×List NdV,e=.returned (.tuple #[])/\(WOk m (B+1024128*E) (C+8001*E) 0 ⟨r.1,W.ts,W.pt,W.kt,[],none,0⟩/\r.1.L=W.z.L++r.2)/\SF w D (wH m bw bm ⟨r.1,W.ts,W.pt,W.kt,[],none,0⟩) [] (famF r.2) (wO ⟨r.1,W.ts,W.pt,W.kt,[],none,0⟩) w':=by
 have hel:=hW.el;have hbl:=exB_len W.ex;refine enter Tryz.func8 Tryz.ntmps8 rfl rfl hs ?_;simp only[mkS];refine k_seq ?_;refine J26 ?_;refine Kc7 ?_;refine k_lp [3,9,10,11,12,13,14,15,16,17,18] (λ y:FX=>[(9,.int .i64 ((y.i:Nat):Int))]) (λ y=>FxI m B C E W y/\y.i<=E/\y.c=0) (λ y=>wH m bw bm (W.go y.z y.ex)) (λ y=>famF y.N) (λ y=>wO (W.go y.z y.ex)) (λ y=>W.ex.length-y.i) (⟨0,0,W.z,W.ex,[]⟩) (⟨⟨hW,by simp,rfl,λ k hk=>absurd hk (Nat.not_lt_zero k)⟩,Nat.zero_le _,rfl⟩) (λ y f hx=>?_);dsimp only[mkU,List.map,List.cons_append,List.nil_append];obtain⟨hy,hyE,hyc⟩:=hx;have hlen:=hy.len;refine Ke2 ?_;refine kif (λ c10=>?_) (λ c10=>?_)
 ·try (exfalso;omega)
  refine Kf4 ?_;refine l_quiet (o_ix1 (cs:=ptC (exB y.ex)) (k:=y.i) rf rf sl1 on1 (.own (.tail .head)) (by omega) (by rw[ptC_length,exB_len,hy.len];omega)) rfl ?_;refine l_quiet (o_ld1 (cs:=ptC (exB y.ex)) (v:=.pointer (some ⟨(exB y.ex).getD y.i 0,0,none⟩)) rf on1 (.own (.tail .head)) (ptC_at (by rw[exB_len,hy.len];omega))) rfl ?_;refine J1 ?_;refine k_block ?_;refine k_lp [13,14,15,16,17] (λ z:FX=>[]) (λ z=>FxJ m B C E W z/\z.i=y.i) (λ z=>wH m bw bm (W.go z.z z.ex)) (λ z=>famF z.N) (λ z=>wO (W.go z.z z.ex)) (λ z=>8001-z.c) (y) (⟨hy.begin hyc (by omega),rfl⟩) (λ z f hx=>?_) (hw0:=λ w hw=>hw.z4);dsimp only[mkU,List.map,List.cons_append,List.nil_append];obtain⟨hz,hzi⟩:=hx;have hzc:=hz.c;have hyi:y.i<W.ex.length:=by omega
  have hzl:=hz.len;refine J32 ?_;refine j_ownF (cT 0 0 (vs:=[.pointer (some ⟨(exB y.ex).getD y.i 0,0,none⟩)]) (hs:=wH m bw bm (W.go z.z z.ex)) (os:=wO (W.go z.z z.ex)) (A0:=[]) (F1:=λ _:Unit=>famF z.N) (hc:=λ w hs=>by rw[show y.i=z.i from hzi.symm,show exB y.ex=exB z.ex from hy.b.trans hz.b.symm];exact wdoneX_c (W:=W.go z.z z.ex) (i:=z.i) hz.lt hs) (hA:=HasAll.nil) (hF1:=λ _ _ f hf=>.inr (List.mem_append_right _ hf))) (λ x14 h14=>?_);refine J33 ?_;refine kif (λ c15=>?_) (λ c15=>?_)
  ·try (exfalso;omega)
   refine k_skip ?_;refine k_block ?_;refine J20 ?_;refine j_ownF (cT 0 0 (vs:=[.pointer (some ⟨(exB y.ex).getD y.i 0,0,none⟩)]) (hs:=wH m bw bm (W.go z.z z.ex)) (os:=wO (W.go z.z z.ex)) (A0:=famF z.z.L) (F1:=λ x:XS×List EX×List NdV=>famF (z.N++x.2.2)) (hc:=λ w hs=>by rw[show y.i=z.i from hzi.symm,show exB y.ex=exB z.ex from hy.b.trans hz.b.symm];exact wstepX_c (W:=W.go z.z z.ex) (i:=z.i) hz.lt (by omega) (by omega) hm hz.ok (λ f hf=>hf) hs) (hA:=HasAll.of λ f hf=>by rw[hz.L,famF_append] at hf;exact(List.mem_append.1 hf).elim (λ h=>.inr (.inl (hA f h))) (λ h=>.inr (.inr (.inl h)))) (hF1:=λ x hx f hf=>by rw[famF_append] at hf;exact .inr ((List.mem_append.1 hf).elim (λ h=>List.mem_append_right _ h) (λ h=>List.mem_append_left _ h)))) (λ x17 h17=>?_);refine l_nil ?_;refine k_blk ?_;refine k_rd (⟨z.i,z.c+1,x17.1,x17.2.1,z.N++x17.2.2⟩) ?_ (hw1:=λ w hw=>hw.z4);·exact⟨hz.step (by simpa using c15) h17,hzi⟩
  ·try (exfalso;omega)
   have hzn:=hz.next (by simpa using c15);refine J84 ?_;refine Kb6 ?_;refine k_rd (⟨y.i+1,0,z.z,z.ex,z.N⟩) ?_ (hw1:=λ w hw=>hw.z4);·exact⟨by rw[hzi] at hzn;exact hzn,by show y.i+1<=E;omega,rfl⟩
 ·try (exfalso;omega)
  refine k_exit rfl ?_;refine J20 ?_;refine J61 ?_;refine k_et Tryz.results8 (λ w hw=>?_);have hw:=(hw.nilOwn 84 1).perm (List.Perm.refl _) (List.Perm.swap _ _ _);exact⟨(y.z,y.N),rfl,⟨hy.end (by rw[hy.len];omega) hyE hyc,hy.L⟩,hw.finH (hH:=by exact .cons_cons _ (.cons_cons _ (List.nil_sublist _))) (hF:=by exact FSub.all) (hO:=by exact .cons_cons _ (.cons_cons _ (.cons _ (.cons_cons _ (.cons_cons _ (List.nil_sublist _))))))⟩
end
end
end Go.Proofs.YtdnklbipddigbaaGreat
namespace Go.Ct
open Go Go.RowKit
section
section
variable{α:Type}
end
end
end Go.Ct
namespace Go.Proofs.YtdnklbipddigbaaGreat
open Go Go.RowKit Go.Ct
section
structure PX where
 e:EX
 m:Nat
 tb:Nat
 c:Cd
 n:Nat
structure LS where
 a:AS
 z:XS
 l:List PX
 B:Fr
section
variable{ba bm:Nat}
end
section
variable{ba bm Bz C:Nat}{D:List Nat}{A:Fr}{w:World}{a:AS}{z:XS}{l1 l2:List PX}{p:PX}{B:Fr}
end
end
end Go.Proofs.YtdnklbipddigbaaGreat
namespace Go.Ct
open Go Go.RowKit
section
section
variable{P:Program}{w:World}
variable{S:List (Nat×Value)}{G:World->Prop}{d:Nat}{ty t t':TypeId}{pos:String}{af:Array Edge}{gd:Option (Nat×Bool)}{x y:Operand}
instance:DecidableEq Ac:=λ a b=>if h:a.k=b.k/\a.c=b.c/\a.o=b.o/\a.n=b.n then isTrue (by cases a;cases b;simp_all) else isFalse (λ e=>h (by subst e;exact⟨rfl,rfl,rfl,rfl⟩))
instance:DecidableEq Rs:=λ a b=>if h:a.err=b.err/\a.found=b.found/\a.val=b.val/\a.key=b.key/\a.cnt=b.cnt/\a.ref=b.ref/\a.root=b.root/\a.ro=b.ro then isTrue (by cases a;cases b;simp_all) else isFalse (λ e=>h (by subst e;exact⟨rfl,rfl,rfl,rfl,rfl,rfl,rfl,rfl⟩))
end
end
end Go.Ct
namespace Go.Proofs.YtdnklbipddigbaaGreat
open Go Go.RowKit Go.Ct
section
end
section
section
variable{k:Cl}{ba bx bm tb n:Nat}{x:XS}{c:Cd}{rs:Rs}{D:List Nat}{A:Fr}{w:World}
end
end
section
section
variable{ba bm Bz C:Nat}{D:List Nat}{A:Fr}{w:World}{S:LS}
end
section
variable{ba bm Bz C tp:Nat}{D:List Nat}{w:World}{S:LS}{l:List Int}{a pa:Option Addr}{c pc pos:Nat}
end
end
section
section
variable{ba bm Bz C:Nat}{D:List Nat}{A:Fr}{w:World}{S:LS}{ps:List (Nat×Nat)}
end
end
end Go.Proofs.YtdnklbipddigbaaGreat
namespace Go.Ct
open Go Go.RowKit
section
section
variable{w0 w:World}{M:List Nat}{H H':List (Nat×Obj)}{A F:Fr}{O O':List Ow}
variable{P:Program}{S:List (Nat×Value)}{d:Nat}{ty t:TypeId}{pos:String}{af:Array Edge}{gd:Option (Nat×Bool)}{x:Operand}{v:Value}{vs:List Value}{B:Fr}
end
end
end Go.Ct
namespace Go.Proofs.YtdnklbipddigbaaGreat
open Go Go.RowKit Go.Ct
section
section
variable{S:List (Nat×Value)}{w0 w:World}{M:List Nat}{H H':List (Nat×Obj)}{A A0 F B:Fr}{O O':List Ow}{ty:TypeId}{pos:String}{af:Array Edge}{gd:Option (Nat×Bool)}{b:Nat}{a:AS}{R:Cd->Mm->Fr->Prop}{is js:List Nat}{f:FuncId}{xs:List Operand}{at_:Array TypeId}{vs cap:List Value}{dst:Option Nat}{x:Operand}{H1:Cd×Fr×AS->List (Nat×Obj)}{F1:Cd×Fr×AS->Fr}{O1:Cd×Fr×AS->List Ow}
end
end
end Go.Proofs.YtdnklbipddigbaaGreat
namespace Go.Ct
open Go Go.RowKit
section
end
end Go.Ct
namespace Go.Proofs.YtdnklbipddigbaaGreat
open Go Go.RowKit Go.Ct
section
section
variable{D:List Nat}{A:Fr}{a:AS}{b:Nat}{w:World}
end
end
end Go.Proofs.YtdnklbipddigbaaGreat
namespace Go.Ct
open Go Go.RowKit
section
end
end Go.Ct
namespace Go.Proofs.YtdnklbipddigbaaGreat
open Go Go.RowKit Go.Ct
section
abbrev memW(z:XS):List Ow:=[⟨z.pn,nvC z.L,z.cn,45,14⟩,⟨z.pc,refsC z.cs,z.cc,28,1⟩]
theorem world_proper{m B C E:Nat}{W:Wd}(h:WOk m B C E W):Proper W.z.L W.z.cs W.z.gen:=by
 obtain⟨σ,hi⟩:=h.wr.inv;have e1:σ.mm.nodes=W.z.L.map NdV.c:=by rw[hi.mm];rfl
 have e2:σ.mm.cs=W.z.cs:=by rw[hi.mm];rfl
 have e3:σ.mm.gen=W.z.gen:=by rw[hi.mm];rfl
 have:=hi.inv.prop;rw[e2,e3] at this;exact this.to e1.symm
end
section
section
variable{D:List Nat}{A B:Fr}{a:AS}{b:Nat}{w:World}{f:FuncId}{cap:List Value}{t:Tri}
end
end
section
section
variable{D:List Nat}{A B:Fr}{a:AS}{b:Nat}{w:World}{f:FuncId}{cap:List Value}{t:Tri}
end
end
section
section
variable{D:List Nat}{A B:Fr}{a:AS}{b:Nat}{w:World}{f:FuncId}{cap:List Value}{t:Tri}
end
end
section
section
variable{D:List Nat}{A B:Fr}{a:AS}{b:Nat}{w:World}{f:FuncId}{cap:List Value}{t:Tri}
end
end
end Go.Proofs.YtdnklbipddigbaaGreat
namespace Go.Ct
open Go Go.RowKit
section
end
end Go.Ct
namespace Go.Proofs.YtdnklbipddigbaaGreat
open Go Go.RowKit Go.Ct
section
section
variable{D:List Nat}{A B:Fr}{a:AS}{b:Nat}{w:World}{f:FuncId}{cap:List Value}{t:Tri}
end
end
section
section
variable{D:List Nat}{A B:Fr}{a:AS}{b:Nat}{w:World}{f:FuncId}{cap:List Value}{t:Tri}
end
end
section
section
variable{D:List Nat}{A B:Fr}{a:AS}{b:Nat}{w:World}{f:FuncId}{cap:List Value}{t:Tri}
end
end
section
section
variable{D:List Nat}{A B:Fr}{a:AS}{b:Nat}{w:World}{f:FuncId}{cap:List Value}{t:Tri}
end
end
section
section
variable{D:List Nat}{A B:Fr}{a:AS}{b:Nat}{w:World}{f:FuncId}{cap:List Value}{t:Tri}
end
end
end Go.Proofs.YtdnklbipddigbaaGreat
namespace Go.Ct
open Go Go.RowKit
section
end
end Go.Ct
namespace Go.Proofs.YtdnklbipddigbaaGreat
open Go Go.RowKit Go.Ct
section
end
section
section
variable{D:List Nat}{A B:Fr}{a0 a:AS}{b bt n m most:Nat}{w:World}{c:Cd}{F:Fr}{p:Tr×Mm}
end
end
section
end
end Go.Proofs.YtdnklbipddigbaaGreat
namespace Go.Ct
open Go Go.RowKit
section
end
end Go.Ct
namespace Go.Proofs.YtdnklbipddigbaaGreat
open Go Go.RowKit Go.Ct
section
theorem rngs_o2{x:XS}(h:x.Ok):Rngs x.L:=λ v hv=>by have hb:=h.nd v hv;have h1:=hb.main;have h2:=hb.prev;have h3:=hb.status;have h4:=h.lc;have e1:v.c.main=v.nd.main:=rfl;have e2:v.c.prev=v.nd.prev:=rfl;have e3:v.c.status=v.nd.status:=rfl;exact⟨hb.bm,by omega,by omega,by omega⟩
theorem famN{L:List NdV}{v:NdV}{f:Option Addr×List Value}(h:f∈famF (L++[v])):f∈v.fr∨f∈famF L:=by
 rw[famF_append] at h;rcases List.mem_append.1 h with h|h;·exact .inr h
 ·exact .inl (by simpa[famF] using h)
end
end Go.Proofs.YtdnklbipddigbaaGreat

/- root: the tasks. -/
import Derived.Test.YtbajmaoegmbfgaaGreatGGc5
import Derived.Test.YtbajmaoegmbfgaaGreatGLk3
import Derived.Test.YtbajmaoegmbfgaaGreatGTt3

set_option linter.unusedSimpArgs false
set_option linter.unusedVariables false
namespace Go.Proofs.YtbajmaoegmbfgaaGreat
section
open Go Go.RowKit Go.Ct
section
variable{D:List Nat}{A B:Fr}{a:AS}{b:Nat}{w:World}{f:FuncId}{cap:List Value}{t:eQ}
theorem yp{s:Mm}{bo:Nat}(ht:t.root<=9223372036854775807):pA b 101 [pt bo] [] (bx bo (iV b t)::B) s (mL t λ r=>.done (gC r false)):=by
 intro a D A w em ok hm hA hB hw0
 subst em
 have hT:Ah b (λ r=>.done (gC r false)) a.mm 103 [] (bx bo (iV b t)::B):=⟨by kernel_rfl,λ v s1 l hv=>zm v⟩
 refine enter Tryz.func101 Tryz.ntmps101 rfl rfl hw0 ?_
 simp only[cA]
 refine J0 ?_;refine aJ (λ x1=>?_);refine aG ?_;refine J0 ?_;refine aC (Qv bo (iV b t) 0 3 hB rfl rfl) rfl ?_;refine aD (Cn (λ w1 hw=>tg ht hT ok hm hA hB hw)) (λ x3 h3=>?_);refine bY (gV λ _=>aZ rf cY rf (cK _) eF rf jI) (λ _=>?_);refine aG ?_
 refine aY Tryz.results101 (λ w hw=>?_)
 exact⟨x3,rfl,h3,hw.rN⟩
theorem zq{bA exp nw:Int}{s:Mm}{bo bi bl bn:Nat}(ht:t.root<=9223372036854775807)(ho:bA<=s.nodes.length)(he:exp<=s.nodes.length)(hnn:nw<=s.nodes.length):pA b 96 [pt bo,pt bi,pt bl,pt bn] [] (bx bo (iV b t)::bx bi [iv bA]::bx bl [iv exp]::bx bn [iv nw]::B) s (lP t bA exp nw λ ok=>.done (gC 0 ok)):=by
 intro a D A w em ok hm hA hB hw0
 subst em
 have hT:S6 b (λ ok=>.done (gC 0 ok)) a.mm 98 [] (bx bo (iV b t)::bx bi [iv bA]::bx bl [iv exp]::bx bn [iv nw]::B):=⟨by kernel_rfl,λ v s1 l=>zx v⟩
 refine enter Tryz.func96 Tryz.ntmps96 rfl rfl hw0 ?_
 simp only[cA]
 refine J0 ?_;refine aJ (λ x4=>?_);refine aG ?_;refine J0 ?_;refine aC (Qv bo (iV b t) 0 3 hB rfl rfl) rfl ?_;refine aC (nQ bi [.int .i64 bA] 0 hB rfl) rfl ?_;refine aC (nQ bl [.int .i64 exp] 0 hB rfl) rfl ?_;refine aC (nQ bn [.int .i64 nw] 0 hB rfl) rfl ?_;refine aD (Cn (λ w1 hw=>Sj ht hT ho he hnn ok hm hA hB hw)) (λ x9 h9=>?_);refine bY (gV λ _=>aZ rf cY rf (cK _) eF rf jI) (λ _=>?_);refine aG ?_
 refine aY Tryz.results96 (λ w hw=>?_)
 exact⟨x9,rfl,h9,hw.rN⟩
theorem jf(ht:t.root<=9223372036854775807){n m:Nat}(hT:bS (mL t λ r=>.done (gC r false)) n m)(ok:a.Ok)(hm:a.mm.Small)(hA:∀f∈aL a.L,f∈A)(hB:∀x∈B,x∈A)(hs:SF w D [(b,dV a)] A [] (eC a) w) :
  Calls Tryz.prog 52 #[.iface 42 (.pointer (some ⟨b,0,none⟩)),.agg ⟨[.int .i64 t.root,.bool t.ro]⟩] w λ e w'=>∃x:Nat×Cd×Fr×AS,e=.returned (.pointer (some ⟨x.1,0,none⟩))/\(pX b (Ct.eD (mL t λ r=>.done (gC r false)) a.mm) a B x.2/\eS (Ct.eD (mL t λ r=>.done (gC r false)) a.mm).1=true)/\SF w D [(x.1,tO b x.2.1 0),(b,dV x.2.2.2)] [] x.2.2.1 (eC x.2.2.2) w':=by
 refine enter Tryz.func52 Tryz.ntmps52 rfl rfl hs ?_
 simp only[cA]
 refine J0 ?_;refine bK (λ x3=>?_);refine Ka4 ?_;refine bM ?_;refine bI ?_;refine aJ (λ x5=>?_);refine J5 ?_;refine J2 ?_;(refine aC bZ rfl ?_);(refine aN (bG.pre (λ w h=>(show SF _ _ [_,(b,dV a)] _ ([bx x5 (iV b t)]:Fr) _ w from h.cQ .head)) (Wg (V:=λ x:Nat×Cd×Fr×AS=>.pointer (some ⟨x.1,0,none⟩)) (hs:=[(b,dV a)]) (os:=eC a) (hs':=λ x=>[(b,dV x.2.2.2)]) (Hc:=λ x=>[(x.1,tO b x.2.1 0)]) (os':=λ x=>eC x.2.2.2) (Oc:=λ _=>[]) (Fc:=λ x=>x.2.2.1) (A0:=[bx x5 (iV b t)]++A) (hA:=bB.Z5) (hc:=λ w1 hw=>K2 (B:=[bx x5 (iV b t)]++B) hT ⟨by kernel_rfl,λ s1 l=>yp ht⟩ ok hm (λ f hf=>List.mem_append_right _ (hA f hf)) (Gq hB) hw))) (λ x11=>?_);try (refine eN (λ h11=>?_)));refine J1 ?_
 refine aQ Tryz.results52 (λ w hw=>?_)
 exact⟨(x11.1,x11.2.1,x11.2.2.1++[bx x5 (iV b t)],x11.2.2.2),rfl,⟨pX.app h11.1,h11.2⟩,hw.ret (by repeat (first|exact List.Sublist.refl _|apply List.Sublist.cons_cons|apply List.Sublist.cons)) (aV.iM λ f hf=>hf) (by repeat (exact List.Sublist.refl _))⟩
theorem Ph{bA exp nw:Int}(ht:t.root<=9223372036854775807)(ho:bA<=a.mm.nodes.length)(he:exp<=a.mm.nodes.length)(hnn:nw<=a.mm.nodes.length){n m:Nat}(hT:bS (lP t bA exp nw λ ok=>.done (gC 0 ok)) n m)(ok:a.Ok)(hm:a.mm.Small)(hA:∀f∈aL a.L,f∈A)(hB:∀x∈B,x∈A)(hs:SF w D [(b,dV a)] A [] (eC a) w) :
  Calls Tryz.prog 48 #[.iface 42 (.pointer (some ⟨b,0,none⟩)),.agg ⟨[.int .i64 t.root,.bool t.ro]⟩,.int .i64 bA,.int .i64 exp,.int .i64 nw] w λ e w'=>∃x:Nat×Cd×Fr×AS,e=.returned (.pointer (some ⟨x.1,0,none⟩))/\(pX b (Ct.eD (lP t bA exp nw λ ok=>.done (gC 0 ok)) a.mm) a B x.2/\eS (Ct.eD (lP t bA exp nw λ ok=>.done (gC 0 ok)) a.mm).1=true)/\SF w D [(x.1,tO b x.2.1 0),(b,dV x.2.2.2)] [] x.2.2.1 (eC x.2.2.2) w':=by
 refine enter Tryz.func48 Tryz.ntmps48 rfl rfl hs ?_
 simp only[cA]
 refine J0 ?_;refine bK (λ x6=>?_);refine bK (λ x7=>?_);refine bK (λ x8=>?_);refine bK (λ x9=>?_);refine Ka4 ?_;refine bM ?_;refine bI ?_;refine aJ (λ x11=>?_);refine J5 ?_;refine J2 ?_;(refine aC bZ rfl ?_);(refine aN (bG.pre (λ w h=>(show SF _ _ [_,(b,dV a)] _ ([bx x11 (iV b t),bx x7 [iv bA],bx x8 [iv exp],bx x9 [iv nw]]:Fr) _ w from(((h.cQ (.tail .head)).cQ (.tail .head)).cQ (.tail .head)).cQ .head)) (Wg (V:=λ x:Nat×Cd×Fr×AS=>.pointer (some ⟨x.1,0,none⟩)) (hs:=[(b,dV a)]) (os:=eC a) (hs':=λ x=>[(b,dV x.2.2.2)]) (Hc:=λ x=>[(x.1,tO b x.2.1 0)]) (os':=λ x=>eC x.2.2.2) (Oc:=λ _=>[]) (Fc:=λ x=>x.2.2.1) (A0:=[bx x11 (iV b t),bx x7 [iv bA],bx x8 [iv exp],bx x9 [iv nw]]++A) (hA:=bB.Z5) (hc:=λ w1 hw=>K2 (B:=[bx x11 (iV b t),bx x7 [iv bA],bx x8 [iv exp],bx x9 [iv nw]]++B) hT ⟨by kernel_rfl,λ s1 l=>zq ht (by have:=l.len;omega) (by have:=l.len;omega) (by have:=l.len;omega)⟩ ok hm (λ f hf=>List.mem_append_right _ (hA f hf)) (Gq hB) hw))) (λ x17=>?_);try (refine eN (λ h17=>?_)));refine J1 ?_
 refine aQ Tryz.results48 (λ w hw=>?_)
 exact⟨(x17.1,x17.2.1,x17.2.2.1++[bx x11 (iV b t),bx x7 [iv bA],bx x8 [iv exp],bx x9 [iv nw]],x17.2.2.2),rfl,⟨pX.app h17.1,h17.2⟩,hw.ret (by repeat (first|exact List.Sublist.refl _|apply List.Sublist.cons_cons|apply List.Sublist.cons)) (aV.iM λ f hf=>hf) (by repeat (exact List.Sublist.refl _))⟩
end
end

/- The laws of root: a world, an arena, a trie; the sanity check. -/
end Go.Proofs.YtbajmaoegmbfgaaGreat
namespace Go.Ct
section
open Go Go.RowKit
theorem SF.aAV{w0 w:World}{M:List Nat}{p q x:Nat×Obj}{E:List (Nat×Obj)}{A F:Fr}{O:List Ow}(h:SF w0 M (p::q::(E++[x])) A F O w):SF w0 M (x::p::q::E) A F O w:=h.perm (List.perm_append_comm (l₁:=[x]) (l₂:=p::q::E)) (List.Perm.refl _)
end
end Go.Ct
namespace Go.Proofs.YtbajmaoegmbfgaaGreat
section
open Go Go.RowKit Go.Ct
structure TQ where
 bw:Nat
 bm:Nat
 m:Nat
 W:Wd
 ba:Nat
 a:AS
 j:Nat
 tp:Nat
 pos:Nat
structure iz(q:TQ):Prop where
 m:q.m<18446744073709551616
 W:Ns q.m 2415922570 1048594 18 q.W
 j:q.j<q.W.ts.length
 mm:q.a.mm=q.W.z.mm
 a:q.a.Ok
abbrev TQ.t(q:TQ):eQ:=q.W.ts.getD q.j ⟨0,false⟩
theorem iz.root{q:TQ}(h:iz q):q.t.root<=9223372036854775807:=h.W.root (by decide) (vS h.j)
theorem iz.sm{q:TQ}(h:iz q):q.a.mm.Small:=by
 obtain⟨s1,s2,s3⟩:=h.W.sz
 rw[h.mm]
 refine⟨?_,?_⟩
 ·show(q.W.z.L.map aP.c).length<=_
  rw[List.length_map];omega
 ·show q.W.z.cs.length<=_;omega
abbrev tqH(l:List Int)(a:Option Addr)(c:Nat)(q:TQ):List (Nat×Obj):=[(q.ba,dV q.a),(q.tp,Ov a l c q.pos),(q.bw,pC q.bm (q.m:Int) q.W.pt q.W.ts.length q.W.kt q.W.pe (sV q.W.ex).length q.W.ke),(q.bm,xM q.W.z.a0)]
abbrev tqO(q:TQ):List Ow:=eC q.a++kP q.W.z
set_option maxRecDepth 100000 in
set_option maxHeartbeats 1000000 in
theorem gy{l l2:List Int}{a a2:Option Addr}{c c2:Nat}{w:World}(h1:Go.Ct.Cl w a (aH l))(hl:l.length<=17592186043904)(h2:Go.Ct.Cl w a2 (aH l2))(hl2:l2.length<=17592186043904) :
  Calls Tryz.prog 50 #[.slice a l.length c,.slice a2 l2.length c2] w λ e w'=>∃q:TQ,e=.returned (.tuple #[.pointer (some ⟨q.bw,0,none⟩),.pointer (some ⟨q.ba,0,none⟩),.agg ⟨[.int .i64 q.t.root,.bool q.t.ro]⟩,.pointer (some ⟨q.tp,0,none⟩)])/\iz q/\SF w [] (tqH l2 a2 c2 q) [] (aL q.a.L++aL q.W.z.L) (tqO q) w':=by
 refine enter Tryz.func50 Tryz.ntmps50 rfl rfl (SF.s2 h1 h2) ?_
 simp only[cA]
 refine J0 ?_;refine fO (λ _=>?_);refine fO (λ _=>?_);refine aJ (λ x6=>?_);refine Ka4 ?_;refine aD (Sv (Hc:=λ q:Nat×Nat×Nat×Wd=>wH q.2.2.1 q.1 q.2.1 q.2.2.2) (H1:=λ q=>(q.1,pC q.2.1 (q.2.2.1:Int) q.2.2.2.pt q.2.2.2.ts.length q.2.2.2.kt q.2.2.2.pe (sV q.2.2.2.ex).length q.2.2.2.ke)::(q.2.1,xM q.2.2.2.z)::(Er q.2.1 q.2.2.2.ex++[(x6,.cells ⟨[.int .i64 0,.bool false]⟩ 29 (0,0))])) (Fc:=λ q=>aL q.2.2.2.z.L) (F1:=λ q=>aL q.2.2.2.z.L) (Oc:=λ q=>wO q.2.2.2) (O1:=λ q=>⟨q.2.2.2.pt,tP q.2.2.2.ts,q.2.2.2.kt,29,2⟩::⟨q.2.2.2.pe,Az (sV q.2.2.2.ex),q.2.2.2.ke,74,1⟩::⟨q.2.2.2.z.pn,iO q.2.2.2.z.L,q.2.2.2.z.cn,47,14⟩::⟨q.2.2.2.z.pc,aH q.2.2.2.z.cs,q.2.2.2.z.cc,37,1⟩::By q.2.2.2.ex) (hH1:=λ q=>by simp only[wH,List.cons_append]) (hF1:=λ q=>List.append_nil _) (hO1:=λ q=>List.append_nil _) (hc:=λ w1 hw=>mb (hw.cl (.bA .head)) hl)) (λ x12 h12=>?_)
 have hm:=h12.1
 have hW:=h12.2
 have htl:=hW.tl
 have ht0:=hW.t0
 obtain⟨s1,s2,s3⟩:=hW.sz
 refine xx (λ w hw=>SF.aAV hw) ?_
 refine Ka4 ?_;refine aD (Sv (Fc:=λ _=>[]) (Oc:=λ _=>[]) (hc:=λ w1 hw=>vd)) (λ x14 h14=>?_);refine iZ ?_
 refine dX [10,15,16,17,18,19,20,21,22,23,24,25,26,27] (λ j:Nat×Nat=>[(10,.pointer (some ⟨j.1,0,none⟩))]) (λ j=>j.2<x12.2.2.2.ts.length) (λ j=>(j.1,.cells ⟨[.int .i64 (x12.2.2.2.ts.getD j.2 ⟨0,false⟩).root,.bool (x12.2.2.2.ts.getD j.2 ⟨0,false⟩).ro]⟩ 29 (0,0))::(x14,Ov a2 l2 c2 (oC l2 0))::(x6,.cells ⟨[.int .i64 0,.bool false]⟩ 29 (0,0))::(x12.1,pC x12.2.1 (x12.2.2.1:Int) x12.2.2.2.pt x12.2.2.2.ts.length x12.2.2.2.kt x12.2.2.2.pe (sV x12.2.2.2.ex).length x12.2.2.2.ke)::(x12.2.1,xM x12.2.2.2.z)::Er x12.2.1 x12.2.2.2.ex) (λ _=>aL x12.2.2.2.z.L) (λ _=>⟨x12.2.2.2.pt,tP x12.2.2.2.ts,x12.2.2.2.kt,29,2⟩::⟨x12.2.2.2.pe,Az (sV x12.2.2.2.ex),x12.2.2.2.ke,74,1⟩::⟨x12.2.2.2.z.pn,iO x12.2.2.2.z.L,x12.2.2.2.z.cn,47,14⟩::⟨x12.2.2.2.z.pc,aH x12.2.2.2.z.cs,x12.2.2.2.z.cc,37,1⟩::By x12.2.2.2.ex) (by decide) (λ _=>by exact rfl) ?_ (λ j f hx=>?_)
 ·refine fR (.one 0 [] (.one 1 [] (.one 2 [] (.one 3 [] (.one 4 [] (.one 5 [] (.one 6 [] (.one 7 [] (.one 8 [] (.one 9 [] (.two 10 [3] (.one 11 [] (.one 12 [] (.one 13 [3,8,11,12] (.one 14 [] .nil)))) 0 [] (.two 13 [3,8] (.one 10 [3] (.one 11 [] (.one 12 [] (.one 14 [] .nil)))) 0 [] .nil)))))))))))) ?_
  refine Ym ?_;refine Xf ?_;refine oE ?_
  refine fD (E:=[10,13]) (by decide +kernel) ((.cons ?_ (.cons ?_ .nil)))
  ·refine kC (i:=10) (hq:=(xI (hc:=λ w1 hw=>eX x12.2.2.2.ts.length (hw.tape cY fin hl2) (by omega) (by omega)))) (h:=λ x25 h25=>?_)
   refine bT (i:=11) (hq:=(Ou (cs:=tP x12.2.2.2.ts) (k:=x25) rf rf gH eF (.own .head) (by omega) (by rw[lN];omega))) (h:=?_);refine bT (i:=12) (hq:=(Ij (ts:=x12.2.2.2.ts) (q:=x25) rf eF (.own .head) (by omega))) (h:=?_);refine gJ (hfire:=(λ _=>by((repeat (first|exact aK.nil|refine aK.cons (by first|exact eW|exact fT (hq:=Ou (cs:=tP x12.2.2.2.ts) (k:=x25) rf rf gH eF (.own .head) (by omega) (by rw[lN];omega))|exact fT (hq:=Ij (ts:=x12.2.2.2.ts) (q:=x25) rf eF (.own .head) (by omega))) ?_));done))) (h:=λ x10=>?_);refine yR ?_
   refine eE ((x10,x25)) ?_ (hw1:=λ w hw=>hw.back (hH:=by exact List.Sublist.refl _) (hF:=by exact aV.all) (hO:=by exact List.Sublist.refl _))
   ·omega
  ·refine fI (i:=13) (h:=λ x10=>?_)
   refine bC (i:=10) (hq:=(xI (hc:=λ w1 hw=>eX x12.2.2.2.ts.length (hw.tape cY fin hl2) (by omega) (by omega)))) (h:=λ x25 h25=>?_);refine bT (i:=11) (hq:=(Ou (cs:=tP x12.2.2.2.ts) (k:=x25) rf rf gH eF (.own .head) (by omega) (by rw[lN];omega))) (h:=?_);refine bT (i:=12) (hq:=(Ij (ts:=x12.2.2.2.ts) (q:=x25) rf eF (.own .head) (by omega))) (h:=?_);refine yR ?_
   refine eE ((x10,x25)) ?_ (hw1:=λ w hw=>hw.back (hH:=by exact List.Sublist.refl _) (hF:=by exact aV.all) (hO:=by exact List.Sublist.refl _))
   ·omega
 dsimp only[hX,List.map,List.cons_append,List.nil_append]
 refine aS ?_;refine eG [(0,[]),(1,[]),(2,[]),(3,[]),(4,[]),(6,[]),(7,[]),(5,[6]),(8,[6]),(9,[6]),(10,[]),(11,[])] ?_;refine Xf ?_;refine bO ?_;refine aT ?_;refine bC (i:=5) (hq:=(Wg (V:=λ q:Nat×AS=>.pointer (some ⟨q.1,0,none⟩)) (hs:=[(x12.2.1,xM x12.2.2.2.z)]) (os:=kP x12.2.2.2.z) (hs':=λ _=>[(x12.2.1,xM x12.2.2.2.z.a0)]) (Hc:=λ q=>[(q.1,dV q.2)]) (os':=λ _=>kP x12.2.2.2.z) (Oc:=λ q=>eC q.2) (Fc:=λ q=>aL q.2.L) (A0:=aL x12.2.2.2.z.L) (hA:=bB.of λ f hf=>.inr (.inr (.inl hf))) (hc:=λ w1 hw=>Y2 hW.z (tE hW) (by omega) (by omega) (λ f hf=>hf) hw))) (h:=λ x33 h33=>?_);refine lZ (h:=λ _=>?_);refine lZ (h:=λ _=>?_);refine yQ ?_
 refine aY Tryz.results50 (λ w hw=>?_)
 exact⟨⟨x12.1,x12.2.1,x12.2.2.1,x12.2.2.2,x33.1,x33.2,j.2,x14,oC l2 0⟩,rfl,⟨hm,hW,hx,h33.1,h33.2⟩,hw.ret (by repeat (first|exact List.nil_sublist _|apply List.Sublist.cons_cons|apply List.Sublist.cons)) (aV.iM λ f hf=>hf) (by repeat (first|exact List.nil_sublist _|apply List.Sublist.cons_cons|apply List.Sublist.cons))⟩
end

/- The laws of root: the sanity check. -/
section
open Go Go.RowKit Go.Ct
theorem Xr(x y:AX):fP (L4 x y) [0,3,4] 1 :=
 tE (m:=0) (B:=8) (C:=0) (E:=0) (W:=⟨XS.new (L4 x y) [0,3,4] 1 0 none 0 none 0,[⟨3,false⟩],none,0,[],none,0⟩) ⟨Uu _ _ _ _ _ _ _,⟨by show 4<=8;decide,by show 3<=8;decide,by show(1:Int)<=((8:Nat):Int);decide⟩,(λ e he=>nomatch he),by show 0<1;decide,rfl,by show 1<=5;decide,Nat.le_refl _,.new⟩
section
variable{D:List Nat}{A B:Fr}{a0 a:AS}{b bt n m most:Nat}{w:World}{c:Cd}{F:Fr}{p:Tr×Mm}
theorem O3(hp:pX b p a0 B (c,F,a))(ha:eS p.1=true)(ht:bS p.1 m 64)(hmm:most<=m)(hm:p.2.nodes.length+64*most<=137438953472/\p.2.cs.length+64*most<=137438953472)(hn:n+most<1000000000)(hA:∀f∈aL a.L,f∈A)(hB:∀x∈F++B,x∈A)(hs:SF w D [(bt,tO b c n),(b,dV a)] A [] (eC a) w) :
  Calls Tryz.prog 30 #[.pointer (some ⟨bt,0,none⟩),.int .i64 ((most:Nat):Int)] w λ e w'=>∃y:Cd×Fr×AS,e=.returned (.int .i64 ((pB p most:Nat):Int))/\TkI b (kI p most) a (F++B) y/\SF w D [(bt,tO b y.1 (n+pB p most)),(b,dV y.2.2)] [] y.2.1 (eC y.2.2) w':=by
 obtain⟨⟨h1,h2⟩,h3,h4⟩:=hp
 simp only at h1 h2 h3
 have e:(p.1,a.mm)=p:=by rw[h2]
 have:=ju (b:=b) (bt:=bt) (n:=n) (D:=D) (A:=A) (B:=F++B) (w:=w) (most:=most) ht hmm ha (a:=a) (c:=c) (by rw[h2];exact h1) h3 (by rw[h2];exact hm) hn hA hB hs
 rw[e] at this
 exact this
end
def Zw:Nd:={Nd.zero with kind:=2,gen:=1}
def Rv:Mm:=mm0.push (Zw.c [] []) 3
def W6:Tr:=lP ⟨3,false⟩ 4 3 5 λ ok=>.done (gC 0 ok)
theorem Ar:bS W6 20 64:=by
 have h:W6=lA ⟨4,⟨3,false⟩,4,3,5,0,0,0,⟨#[]⟩,0,0,0,false⟩ 0 21:=by
  unfold W6 lA
  rfl
 rw[h]
 exact Ka (by decide)
theorem zl:kI (Ct.eD W6 Rv) 9=(.done (gC 0 true),(kI (Ct.eD W6 Rv) 9).2)/\pB (Ct.eD W6 Rv) 9=6/\bE (kI (Ct.eD W6 Rv) 9).2.cs 3=5:=⟨rfl,rfl,rfl⟩
theorem zo:(Ct.eD W6 Rv).2.nodes.length=6/\(Ct.eD W6 Rv).2.cs.length=5:=⟨rfl,rfl⟩
theorem pz{D:List Nat}{A B F:Fr}{a0 a:AS}{b bt:Nat}{c:Cd}{w:World}(hp:pX b (Ct.eD W6 Rv) a0 B (c,F,a))(hA:∀f∈aL a.L,f∈A)(hB:∀x∈F++B,x∈A)(hs:SF w D [(bt,tO b c 0),(b,dV a)] A [] (eC a) w) :
  Calls Tryz.prog 30 #[.pointer (some ⟨bt,0,none⟩),.int .i64 9] w λ e w'=>∃y:Fr×AS,e=.returned (.int .i64 6)/\(bE y.2.cs 3=5/\y.2.cs.length<=1000)/\SF w D [(bt,tO b (rO (gC 0 true)) 6),(b,dV y.2)] [] y.1 (eC y.2) w':=by
 obtain⟨e1,e2,e3⟩:=zl
 obtain⟨g1,g2⟩:=zo
 refine(O3 (n:=0) (m:=20) (most:=9) hp (kV Rv Ar) (kX Rv Ar 64) (by decide) ⟨by omega,by omega⟩ (by decide) hA hB hs).mono λ e w' ⟨y,h1,h2,hw⟩=>?_
 have h3:=h2.rp
 rw[e1] at h3
 obtain⟨_,h4⟩:=h3
 have h5:y.2.2.cs=(kI (Ct.eD W6 Rv) 9).2.cs:=congrArg Mm.cs h2.mm
 obtain⟨_,_,_,h6⟩:=Bm (kX Rv Ar 64) (kV Rv Ar) 9 (by decide) (s:=(Ct.eD W6 Rv).2)
 rw[e2,h4] at hw
 refine⟨(y.2.1,y.2.2),by rw[h1,e2];rfl,⟨by show bE y.2.2.cs 3=5;rw[h5];exact e3,?_⟩,hw⟩
 show y.2.2.cs.length<=1000
 rw[h5]
 have:(kI (Ct.eD W6 Rv) 9).2.cs.length<=(Ct.eD W6 Rv).2.cs.length+64*9:=h6
 omega
set_option maxRecDepth 100000 in
set_option maxHeartbeats 1000000 in
theorem Yz(w:World):Calls Tryz.prog 45 #[] w λ e w'=>e=.returned (.bool true)/\St w [] [] w':=by
 refine enter Tryz.func45 Tryz.ntmps45 rfl rfl (SF.s0 w) ?_
 simp only[cA]
 refine cS ?_;refine J0 ?_;refine aD (Sv (Fc:=λ _=>[]) (hc:=λ w1 hw=>nj w1)) (λ x7 h7=>?_);refine Ka4 ?_;refine aD (cM (hc:=λ w hs=>Q2 hs)) (λ x9 h9=>?_);refine aJ (λ x2=>?_);refine J5 ?_;refine I1 ?_;refine aC (aR (k:=3) rf cY eF (by simp only[List.drop_zero,List.take_succ_cons,List.take_zero];exact rfl) rfl) rfl ?_;refine aD (Sv (V:=λ x:Nat×List aP×(Option Addr×Nat)×(Option Addr×Nat)=>.tuple #[.pointer (some ⟨x.1,0,none⟩),.int .i64 0]) (Hc:=λ x=>[(x.1,aO x.2.1 [0,3,4] 1 0 x.2.2.1.1 x.2.2.1.2 x.2.2.2.1 x.2.2.2.2)]) (Fc:=λ x=>aL x.2.1) (Oc:=λ x=>mW x.2.1 [0,3,4] x.2.2.1.1 x.2.2.1.2 x.2.2.2.1 x.2.2.2.2) (hc:=λ w1 hw=>fl (L:=L4 x9.1 x9.2.1) (cs:=[0,3,4]) (hw.Hi (.inr (.inr (.inr ⟨_,.head _,rfl,rfl⟩))) (.inr (.inr (.inr ⟨_,.tail _ (.head _),rfl,rfl⟩))) (λ f hf=>.inl (kv f hf)) (Uu x9.1 x9.2.1 0 none 0 none 0).fit) (by show 4<=_;decide) (by decide) (hw.xh .head) (Xr _ _))) (λ x15 h15=>?_)
 obtain⟨a0,ha0⟩:∃a:AS,a=⟨x15.2.1,[0,3,4],1,0,x15.2.2.1.1,x15.2.2.1.2,x15.2.2.2.1,x15.2.2.2.2⟩:=⟨_,rfl⟩
 have hmm:a0.mm=mm0:=by rw[ha0];show Mm.mk ((cN x15.2.1).map aP.c) [0,3,4] 1=mm0;rw[h15.1];rfl
 have hok:a0.Ok:=⟨by rw[ha0];exact h15.2,by rw[hmm];exact(Uu x9.1 x9.2.1 0 none 0 none 0).mo⟩
 have hsm:a0.mm.Small:=by rw[hmm];exact⟨by decide,by decide⟩
 have hoA:∀x:AX,(a0.al Zw [] [] 3 x).Ok:=λ x=>hok.al x (by simp) (by simp) ⟨bL _,bL _,bL _,(λ r hr=>nomatch hr),bL _,bL _,bL _,⟨0,rfl,by decide⟩,⟨0,rfl,by decide⟩⟩ (by rw[hmm];decide)
 have hmA:∀x:AX,(a0.al Zw [] [] 3 x).mm=Rv:=λ x=>by rw[pQ,hmm];rfl
 refine Kb5 ?_;refine sU ?_
 refine bD (λ c19=>?_) (λ c19=>?_)
 ·try (contradiction)
 ·try (first|contradiction|(exfalso;omega))
  refine aW ?_;refine J2 ?_;refine bI ?_;refine aD (cM (V:=λ _:AX=>.int .i64 5) (hs:=[(x15.1,dV a0)]) (os:=eC a0) (A0:=[(none,aH []),(none,cZ [])]) (hs':=λ x=>[(x15.1,dV (a0.al Zw [] [] 3 x))]) (os':=λ x=>eC (a0.al Zw [] [] 3 x)) (Fc:=λ x=>(jU Zw [] [] a0.cs.length x).fr) (hH:=by rw[ha0];exact .cons .head .nil) (hO:=by rw[ha0];exact .cons .head (.cons .head .nil)) (hc:=λ w1 hw=>by have:=sC (n:=Zw) (xs:=[]) (ys:=[]) hok hsm 3 rfl rfl (by simp) (by simp) (λ f hf=>hf) hw;rw[hmm] at this;exact this)) (λ x22 h22=>?_);refine Ka4 ?_;refine aC (aq rf (λ w=>Cb _ w)) rfl ?_;refine bM ?_;refine aA ?_;refine aD (Wg (V:=λ x:Nat×Cd×Fr×AS=>.pointer (some ⟨x.1,0,none⟩)) (hs:=[(x15.1,dV (a0.al Zw [] [] 3 x22))]) (os:=eC (a0.al Zw [] [] 3 x22)) (hs':=λ x=>[(x15.1,dV x.2.2.2)]) (Hc:=λ x=>[(x.1,tO x15.1 x.2.1 0)]) (os':=λ x=>eC x.2.2.2) (Oc:=λ _=>[]) (Fc:=λ x=>x.2.2.1) (A0:=aL (a0.al Zw [] [] 3 x22).L) (hA:=bB.of λ f hf=>((AS.iD.al a0 Zw [] [] 3 x22).fam f hf).imp_right λ h=>.inr (.inl (h.elim (λ h=>List.mem_append_right _ (by rw[ha0] at h;exact List.mem_append_left _ h)) λ h=>List.mem_append_left _ h))) (hc:=λ w1 hw=>by have:=K6 (Ph (t:=⟨3,false⟩) (bA:=4) (exp:=3) (nw:=5) (B:=[]) (n:=20) (m:=64) (by decide) (by rw[hmA];decide) (by rw[hmA];decide) (by rw[hmA];decide) Ar (hoA x22) (by rw[hmA];exact⟨by decide,by decide⟩) (λ f hf=>hf) (λ x hx=>nomatch hx) hw);rw[hmA] at this;exact this)) (λ x27 h27=>?_);refine Ka4 ?_;refine kF ?_;refine aA ?_
  (refine Ka3 ?_)
  ((refine aE ?_;refine aD (cM (V:=λ y:Fr×AS=>.int .i64 6) (hs:=[(x27.1,tO x15.1 x27.2.1 0),(x15.1,dV x27.2.2.2)]) (os:=eC x27.2.2.2) (hs':=λ y=>[(x27.1,tO x15.1 (rO (gC 0 true)) 6),(x15.1,dV y.2)]) (os':=λ y=>eC y.2) (Fc:=λ y=>y.1) (A0:=aL x27.2.2.2.L++(x27.2.2.1++[])) (hA:=bB.of λ f hf=>(List.mem_append.1 hf).elim (λ h=>(h27.1.2.2.fam f h).elim .inl λ h=>h.elim (λ h=>((AS.iD.al a0 Zw [] [] 3 x22).fam f h).imp_right λ h=>.inr (.inl (h.elim (λ h=>List.mem_append_right _ (List.mem_append_right _ (by rw[ha0] at h;exact List.mem_append_left _ h))) λ h=>List.mem_append_right _ (List.mem_append_left _ h)))) λ h=>.inr (.inr (.inl (List.mem_append_left _ h)))) λ h=>.inr (.inr (.inl (List.mem_append_left _ (by simpa using h))))) (hc:=λ w1 hw=>pz h27.1 (λ f hf=>List.mem_append_left _ hf) (λ f hf=>List.mem_append_right _ hf) hw)) (λ x32 h32=>?_)));refine Kb1 ?_
  (refine Ka3 ?_)
  ((refine aE ?_;refine aN (cV (hc:=λ w1 hw=>uD (r:=gC 0 true) (d:=true) rfl (if_pos rfl) (hw.st.at cY))) (λ x37=>?_)));((refine aE ?_;refine cC ?_));refine Ka6 ?_
  (refine Ka3 ?_)
  refine J6 ?_;((refine aE ?_;refine aD (cM (V:=λ _:Unit=>.int .i64 5) (hs:=[(x15.1,dV x32.2)]) (os:=eC x32.2) (hs':=λ _=>[(x15.1,dV {x32.2 with acc:=up x32.2.acc})]) (os':=λ _=>eC x32.2) (Fc:=λ _=>[]) (hc:=λ w1 hw=>by rw[<- h32.1];exact Nj hw 3 (by decide) (by omega))) (λ x44 h44=>?_)));((refine Ka3 ?_));refine xT ?_;refine J1 ?_
  refine aQ Tryz.results45 (λ w hw=>?_)
  exact⟨rfl,hw.done⟩
end

/- A run of a task to its end, by what is known of it. -/
section
open Go Go.RowKit Go.Ct
structure Ran(N:Nat)(T:Tr)(M:Mm)(n:Nat)(x:Rs)(s':Mm):Prop where
 he:kI (Ct.eD T M) N=(.done x,s')
 hn:pB (Ct.eD T M) N=n
section
variable{D:List Nat}{A B F:Fr}{a0 a:AS}{b bt n1 N:Nat}{c:Cd}{w:World}{T:Tr}{M s':Mm}{x:Rs}
theorem a9(hN:N<=20)(hT:bS T 20 64)(hp:pX b (Ct.eD T M) a0 B (c,F,a))(hl:M.nodes.length<=110000000000/\M.cs.length<=110000000000)(hr:Ran N T M n1 x s')(hA:∀f∈aL a.L,f∈A)(hB:∀x∈F++B,x∈A)(hs:SF w D [(bt,tO b c 0),(b,dV a)] A [] (eC a) w) :
  Calls Tryz.prog 30 #[.pointer (some ⟨bt,0,none⟩),.int .i64 ((N:Nat):Int)] w λ e w'=>∃y:Fr×AS,e=.returned (.int .i64 ((n1:Nat):Int))/\(y.2.mm=s'/\y.2.Ok/\a.iD y.2 y.1)/\SF w D [(bt,tO b (rO x) n1),(b,dV y.2)] [] y.1 (eC y.2) w':=by
 obtain⟨s1,s2⟩:=oI M hT
 obtain⟨he,hn⟩:=hr
 refine(O3 (n:=0) (m:=20) (most:=N) hp (kV M hT) (kX M hT 64) hN ⟨by omega,by omega⟩ (by omega) hA hB hs).mono λ e w' ⟨y,h1,h2,hw⟩=>?_
 have h3:=h2.rp
 have h4:=h2.mm
 rw[hn] at h1 hw
 rw[he] at h3 h4
 obtain⟨_,h5⟩:=h3
 rw[h5,Nat.zero_add] at hw
 exact⟨(y.2.1,y.2.2),h1,⟨h4,h2.ok,h2.gr⟩,hw⟩
theorem Ran.sz(h:Ran N T M n1 x s')(hN:N<=20)(hT:bS T 20 64):s'.nodes.length<=M.nodes.length+2000/\s'.cs.length<=M.cs.length+2000:=by
 obtain⟨s1,s2⟩:=oI M hT
 obtain⟨_,_,h3,h4⟩:=Bm (kX M hT 64) (kV M hT) N hN (s:=(Ct.eD T M).2)
 have e:kI ((Ct.eD T M).1,(Ct.eD T M).2) N=(.done x,s'):=h.he
 rw[e] at h3 h4
 replace h3:s'.nodes.length<=_:=h3
 replace h4:s'.cs.length<=_:=h4
 exact⟨by omega,by omega⟩
end
theorem cp{a0 a1 a2:AS}{F1 F2 G:Fr}(h1:a0.iD a1 F1)(h2:a1.iD a2 F2)(hG:∀f∈aL a0.L,f∈G):∀f∈aL a2.L,f.2=[]∨f∈F2++(F1++G):=λ f hf=>by
 simp only[List.mem_append]
 rcases h2.fam f hf with h|h|h
 ·exact .inl h
 ·rcases h1.fam f h with h|h|h
  ·exact .inl h
  ·exact .inr (.inr (.inr (hG f h)))
  ·exact .inr (.inr (.inl h))
 ·exact .inr (.inl h)
theorem T9{s:Mm}{v:Nv}{i:Int}(h0:s.nodes.length<=100000002000/\s.cs.length<=100000002000):(s.push v i).nodes.length<=100000003000/\(s.push v i).cs.length<=100000003000:=by
 refine⟨?_,?_⟩
 ·show(s.nodes++[_]).length<=_
  simp
  omega
 ·have:=(gN (k:=v.kind) (cs:=s.cs) (init:=i)).2
  show(fN v.kind s.cs i).length<=_
  omega
end

/- RootReads: the walk. -/
section
open Go Go.RowKit Go.Ct
def kT(kind:Int)(t:eQ):Cl:=⟨kind,t,0,0,0,0,0,0,⟨#[]⟩,0,0,0,false⟩
abbrev nl(x:XS):List Ow:=[⟨x.pg,aH x.got,x.kg,37,1⟩,⟨x.pm,aH x.made,x.km,37,1⟩,⟨x.pl,aH x.cel,x.kl,27,1⟩,⟨x.pe,aH x.gns,x.ke,3,1⟩]
end

end Go.Proofs.YtbajmaoegmbfgaaGreat

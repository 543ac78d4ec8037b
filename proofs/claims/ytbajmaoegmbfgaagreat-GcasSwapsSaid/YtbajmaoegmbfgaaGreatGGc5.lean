/- gcas: Read, Swap. -/
import Derived.Test.YtbajmaoegmbfgaaGreatGGc3
import Derived.Test.YtbajmaoegmbfgaaGreatGWo1
import Derived.Test.YtbajmaoegmbfgaaGreatGLk3
import Derived.Test.YtbajmaoegmbfgaaGreatGGc0
import Derived.Test.YtbajmaoegmbfgaaGreatGVw1
import Derived.Test.YtbajmaoegmbfgaaGreatGAr8

set_option linter.unusedSimpArgs false
set_option linter.unusedVariables false
namespace Go.Proofs.YtbajmaoegmbfgaaGreat
section
open Go Go.RowKit Go.Ct
section
variable{D:List Nat}{A B:Fr}{a:AS}{b:Nat}{w:World}{f:FuncId}{cap:List Value}{t:gO}
theorem jo{K:Bool->Tr}{m n:Int}{s:Mm}{bt bn:Nat}(hK:Yc b K s f cap B):zE b 122 [pt bt,pt bn] [.int .i64 m] (bx bt [fn f cap]::bx bn [iv n]::B) s (K (m==n)):=by
 intro a D A w em ok hm hA hB hw0
 subst em
 have hK2:=hK.more (B2:=(bx bt [fn f cap]::bx bn [iv n]::B)) (λ x hx=>by simp[hx])
 refine enter Tryz.func122 Tryz.ntmps122 rfl rfl hw0 ?_
 simp only[bX]
 refine J0 ?_;refine aJ (λ x4=>?_);refine aH ?_;refine J0 ?_;refine aC (rE bt [fn f cap] 0 hB rfl) rfl ?_;refine aA ?_;refine aC (rE bn [.int .i64 n] 0 hB rfl) rfl ?_;refine mK ?_;refine aD (Ty hK2.1 (hK2.2 (m==n) a.mm (Mm.Le.refl _)) ok hm hA hB) (λ x9 h9=>?_);refine cZ (jF λ _=>bP rf cQ rf (eD _) eA rf lJ) (λ _=>?_);refine aH ?_
 refine bC Tryz.results122 (λ w hw=>?_)
 exact⟨x9,rfl,h9,hw.rN⟩
theorem ld{K:Bool->Tr}{i n:Int}{s:Mm}{bt bo bi bn:Nat}(ht:t.root<=9223372036854775807)(hK:Yc b K s f cap B)(hi:i<=s.nodes.length)(hnn:n<=s.nodes.length)(o:Bool):zE b 120 [pt bt,pt bo,pt bi,pt bn] [.bool o] (bx bt [fn f cap]::bx bo (oI b t)::bx bi [iv i]::bx bn [iv n]::B) s (if o=true then sW t i n λ m=>K (m==n) else K false):=by
 intro a D A w em ok hm hA hB hw0
 subst em
 have hK2:=hK.more (B2:=(bx bt [fn f cap]::bx bo (oI b t)::bx bi [iv i]::bx bn [iv n]::B)) (λ x hx=>by simp[hx])
 have hT:Iz b (λ m=>K (m==n)) a.mm 122 [.pointer (some ⟨bt,0,none⟩),.pointer (some ⟨bn,0,none⟩)] (bx bt [fn f cap]::bx bo (oI b t)::bx bi [iv i]::bx bn [iv n]::B):=⟨by kernel_rfl,λ m s1 l hv=>(jo (bt:=bt) (bn:=bn) (hK.le l)).mr (λ y hy=>by
  simp only[List.mem_cons] at hy ⊢
  rcases hy with h|h|h<;>simp[h])⟩
 refine enter Tryz.func120 Tryz.ntmps120 rfl rfl hw0 ?_
 simp only[bX]
 refine J0 ?_;refine aJ (λ x6=>?_);refine aH ?_;refine jV ?_;refine oE ?_
 refine bB (λ c8=>?_) (λ c8=>?_)
 ·refine J0 ?_;refine aC (rE bt [fn f cap] 0 hB rfl) rfl ?_;refine aD (Ty hK2.1 (hK2.2 false a.mm (Mm.Le.refl _)) ok hm hA hB) (λ x10 h10=>?_);refine cZ (jF λ _=>bP rf cQ rf (eD _) eA rf lJ) (λ _=>?_);refine aH ?_
  refine bC Tryz.results120 (λ w hw=>?_)
  refine⟨x10,rfl,⟨?_,h10.2⟩,hw.rN⟩
  rw[if_neg (by rw[show o=false by simpa using c8];decide)]
  exact h10.1
 ·refine bA ?_;refine J0 ?_;refine aC (po bo (oI b t) 0 3 hB rfl rfl) rfl ?_;refine aC (rE bi [.int .i64 i] 0 hB rfl) rfl ?_;refine aC (rE bn [.int .i64 n] 0 hB rfl) rfl ?_;(refine aC (dS (by(repeat (first|exact dE _|(apply cJ;focus ((conv=>{lhs;whnf});try exact rfl))));done)) rfl ?_);refine aD (Nu (λ w1 hw=>W2 ht hT hi hnn ok hm hA hB hw)) (λ x15 h15=>?_);refine cZ (jF λ _=>bP rf cQ rf (eD _) eA rf lJ) (λ _=>?_);refine aH ?_
  refine bC Tryz.results120 (λ w hw=>?_)
  refine⟨x15,rfl,⟨?_,h15.2⟩,hw.rN⟩
  rw[if_pos (by simpa using c8)]
  exact h15.1
theorem ri{K:Bool->Tr}{i bI n:Int}(ht:t.root<=9223372036854775807)(hK:Yc b K a.mm f cap B)(hi:i<=a.mm.nodes.length)(hnn:n<=a.mm.nodes.length)(ok:a.Ok)(hm:a.mm.Small)(hA:∀f∈aM a.L,f∈A)(hB:∀x∈B,x∈A)(hs:SF w D [(b,fT a)] A [] (gD a) w) :
  Calls Tryz.prog 75 #[.agg ⟨oI b t⟩,.int .i64 i,.int .i64 bI,.int .i64 n,fn f cap] w (Hh b (λ c' s' B'=>lP b (jK t i bI n K) a.mm c' s' B') a B D w):=by
 have ni:=Ie ok i
 refine enter Tryz.func75 Tryz.ntmps75 rfl rfl hs ?_
 simp only[bX]
 refine J0 ?_;refine bK (λ x5=>?_);refine bK (λ x6=>?_);refine bK (λ x8=>?_);refine bK (λ x9=>?_);refine aJ (λ x10=>?_);refine Ra ?_;refine dI [(0,[]),(1,[]),(2,[]),(5,[]),(6,[]),(7,[]),(3,[6]),(4,[]),(8,[]),(9,[])] ?_;refine kJ ?_;refine bG ?_;refine aN ?_;refine bG ?_;(refine cC (i:=7) (hq:=(dS (by(repeat (first|exact dE _|(apply cJ;focus ((conv=>{lhs;whnf});try exact rfl))));done))) (h:=?_));refine aZ (i:=3) (hq:=(K4 i ok hm hA hi)) (h:=λ x14 h14=>?_);refine oX ?_;refine cH (i:=8) (hq:=(cV (hc:=λ w1 hw=>zJ _ _ _ _ _ w1))) (h:=λ x19=>?_);refine kH (i:=9) (hq:=(jF λ _=>bP rf cQ rf (eD _) eA rf lJ)) (h:=λ _=>?_);refine dW ?_
 refine bC Tryz.results75 (λ w hw=>?_)
 refine⟨(yJ (aB (cY a.L) i).nd.main bI n _ _,[bx x5 (oI b t),bx x6 [iv i],bx x8 [iv n],bx x9 [fn f cap]],a),rfl,⟨⟨hi,?_⟩,ok,(AS.jO.refl a).more (λ _ h=>(List.not_mem_nil h).elim)⟩,?_⟩
 ·rw[mR]
  refine⟨rfl,sE hm ni.main,hnn,_,_,rfl,by kernel_rfl,λ o s1 l=>(ld (bt:=x9) (bo:=x5) (bi:=x6) (bn:=x8) ht (hK.le l) (by have:=l.len;omega) (by have:=l.len;omega) o).mr (λ y hy=>?_)⟩
  simp only[List.mem_cons,List.mem_append,List.not_mem_nil,or_false] at hy ⊢
  rcases hy with h|h|h|h|h<;>simp[h]
 ·exact((((hw.eQ (.tail .head)).eQ (.tail .head)).eQ (.tail .head)).eQ (.tail .head)).rI
end
end

/- root: decide. -/
end Go.Proofs.YtbajmaoegmbfgaaGreat
namespace Go.Ct
section
open Go Go.RowKit
theorem bE.pre{P:Program}{S:List (Nat×Value)}{G G2:World->Prop}{o:Oper}{X:Type}{V:X->Value}{G':X->World->Prop}(h:∀w,G w->G2 w)(hl:bE P S G2 o X V G'):bE P S G o X V G':=⟨λ w hw=>hl.run w (h w hw)⟩
end
end Go.Ct
namespace Go.Proofs.YtbajmaoegmbfgaaGreat
section
open Go Go.RowKit Go.Ct
section
variable{D:List Nat}{A B:Fr}{a:AS}{b:Nat}{w:World}{f:FuncId}{cap:List Value}{t:gO}
end
end

/- gcas, root: the tasks. -/
section
open Go Go.RowKit Go.Ct
theorem nV.app{b:Nat}{p:Tr×Mm}{a:AS}{B B1 F:Fr}{c:Cd}{a':AS}(h:nV b p a (B1++B) (c,F,a')):nV b p a B (c,F++B1,a'):=by
 obtain⟨⟨h1,h2⟩,h3,h4⟩:=h
 refine⟨⟨?_,h2⟩,h3,h4.more λ f hf=>List.mem_append_left _ hf⟩
 simp only at h1 ⊢
 rw[List.append_assoc]
 exact h1
section
variable{D:List Nat}{A B:Fr}{a:AS}{b:Nat}{w:World}{f:FuncId}{cap:List Value}{t:gO}
theorem Xm{t:Tr}{i m:Nat}(ht:bR t i m)(h:Th0 b t a.mm f cap B)(ok:a.Ok)(hm:a.mm.Small)(hA:∀f∈aM a.L,f∈A)(hB:∀x∈B,x∈A)(hs:SF w D [(b,fT a)] A [] (gD a) w) :
  Calls Tryz.prog 73 #[.iface 42 (.pointer (some ⟨b,0,none⟩)),.func (.func f) #[] ⟨cap⟩] w λ e w'=>∃x:Nat×Cd×Fr×AS,e=.returned (.pointer (some ⟨x.1,0,none⟩))/\(nV b (Ct.iZ t a.mm) a B x.2/\eL (Ct.iZ t a.mm).1=true)/\SF w D ([(b,fT x.2.2.2)]++[(x.1,tO b x.2.1 0)]) [] x.2.2.1 (gD x.2.2.2++[]) w' :=
 (kr ht h ok hm hA hB hs).mono λ _ _ ⟨x,e,h,hw⟩=>⟨x,e,h,by rw[List.append_nil];exact hw.perm (List.Perm.swap _ _ _) (List.Perm.refl _)⟩
theorem yz{s:Mm}(v:Bool):Aw b 76 [] [.bool v] B s (λ c' s' B'=>lP b (.done (qE 0 v)) s c' s' B'):=by
 intro a D A w em ok hm hA hB hw0
 subst em
 refine enter Tryz.func76 Tryz.ntmps76 rfl rfl hw0 ?_
 simp only[bX]
 refine J0 ?_;refine aJ (λ x2=>?_);refine aH ?_;refine J2 ?_;refine bJ ?_;refine aT (cV (hc:=λ w1 hw=>rm (qE 0 v) w1)) (λ x5=>?_);refine J5 ?_
 refine bC Tryz.results76 (λ w hw=>?_)
 exact⟨(E3 (qE 0 v),[],a),rfl,⟨⟨rfl,rfl⟩,ok,AS.jO.refl a⟩,hw.rI⟩
theorem xm{i bI n:Int}{s:Mm}{bo bi bl bn:Nat}(ht:t.root<=9223372036854775807)(hi:i<=s.nodes.length)(hnn:n<=s.nodes.length):zE b 74 [pt bo,pt bi,pt bl,pt bn] [] (bx bo (oI b t)::bx bi [iv i]::bx bl [iv bI]::bx bn [iv n]::B) s (jK t i bI n λ ok=>.done (qE 0 ok)):=by
 intro a D A w em ok hm hA hB hw0
 subst em
 have hT:Yc b (λ ok=>.done (qE 0 ok)) a.mm 76 [] (bx bo (oI b t)::bx bi [iv i]::bx bl [iv bI]::bx bn [iv n]::B):=⟨by kernel_rfl,λ v s1 l=>yz v⟩
 refine enter Tryz.func74 Tryz.ntmps74 rfl rfl hw0 ?_
 simp only[bX]
 refine J0 ?_;refine aJ (λ x4=>?_);refine aH ?_;refine J0 ?_;refine aC (po bo (oI b t) 0 3 hB rfl rfl) rfl ?_;refine aC (rE bi [.int .i64 i] 0 hB rfl) rfl ?_;refine aC (rE bl [.int .i64 bI] 0 hB rfl) rfl ?_;refine aC (rE bn [.int .i64 n] 0 hB rfl) rfl ?_;refine aD (Nu (λ w1 hw=>ri ht hT hi hnn ok hm hA hB hw)) (λ x9 h9=>?_);refine cZ (jF λ _=>bP rf cQ rf (eD _) eA rf lJ) (λ _=>?_);refine aH ?_
 refine bC Tryz.results74 (λ w hw=>?_)
 exact⟨x9,rfl,h9,hw.rN⟩
theorem Qj{i bI nw:Int}(ht:t.root<=9223372036854775807)(hi:i<=a.mm.nodes.length)(hnn:nw<=a.mm.nodes.length){n m:Nat}(hT:bR (jK t i bI nw λ ok=>.done (qE 0 ok)) n m)(ok:a.Ok)(hm:a.mm.Small)(hA:∀f∈aM a.L,f∈A)(hB:∀x∈B,x∈A)(hs:SF w D [(b,fT a)] A [] (gD a) w) :
  Calls Tryz.prog 28 #[.iface 42 (.pointer (some ⟨b,0,none⟩)),.agg ⟨[.int .i64 t.root,.bool t.ro]⟩,.int .i64 i,.int .i64 bI,.int .i64 nw] w λ e w'=>∃x:Nat×Cd×Fr×AS,e=.returned (.pointer (some ⟨x.1,0,none⟩))/\(nV b (Ct.iZ (jK t i bI nw λ ok=>.done (qE 0 ok)) a.mm) a B x.2/\eL (Ct.iZ (jK t i bI nw λ ok=>.done (qE 0 ok)) a.mm).1=true)/\SF w D [(x.1,tO b x.2.1 0),(b,fT x.2.2.2)] [] x.2.2.1 (gD x.2.2.2) w':=by
 refine enter Tryz.func28 Tryz.ntmps28 rfl rfl hs ?_
 simp only[bX]
 refine J0 ?_;refine bK (λ x6=>?_);refine bK (λ x7=>?_);refine bK (λ x8=>?_);refine bK (λ x9=>?_);refine J1 ?_;refine J2 ?_;refine bN ?_;refine bJ ?_;refine aJ (λ x11=>?_);refine J5 ?_;refine J2 ?_;(refine aC (dS (by(repeat (first|exact dE _|(apply cJ;focus ((conv=>{lhs;whnf});try exact rfl))));done)) rfl ?_);(refine aT (bE.pre (λ w h=>(show SF _ _ [_,(b,fT a)] _ ([bx x11 (oI b t),bx x7 [iv i],bx x8 [iv bI],bx x9 [iv nw]]:Fr) _ w from(((h.eQ (.tail .head)).eQ (.tail .head)).eQ (.tail .head)).eQ .head)) (u6 (V:=λ x:Nat×Cd×Fr×AS=>.pointer (some ⟨x.1,0,none⟩)) (hs:=[(b,fT a)]) (os:=gD a) (hs':=λ x=>[(b,fT x.2.2.2)]) (Hc:=λ x=>[(x.1,tO b x.2.1 0)]) (os':=λ x=>gD x.2.2.2) (Oc:=λ _=>[]) (Fc:=λ x=>x.2.2.1) (A0:=[bx x11 (oI b t),bx x7 [iv i],bx x8 [iv bI],bx x9 [iv nw]]++A) (hA:=aY.xf) (hc:=λ w1 hw=>Xm (B:=[bx x11 (oI b t),bx x7 [iv i],bx x8 [iv bI],bx x9 [iv nw]]++B) hT ⟨by kernel_rfl,λ s1 l=>xm ht (by have:=l.len;omega) (by have:=l.len;omega)⟩ ok hm (λ f hf=>List.mem_append_right _ (hA f hf)) (Th hB) hw))) (λ x17=>?_);try (refine eZ (λ h17=>?_)));refine J1 ?_
 refine aS Tryz.results28 (λ w hw=>?_)
 exact⟨(x17.1,x17.2.1,x17.2.2.1++[bx x11 (oI b t),bx x7 [iv i],bx x8 [iv bI],bx x9 [iv nw]],x17.2.2.2),rfl,⟨nV.app h17.1,h17.2⟩,hw.ret (by repeat (first|exact List.Sublist.refl _|apply List.Sublist.cons_cons|apply List.Sublist.cons)) (aX.iD λ f hf=>hf) (by repeat (exact List.Sublist.refl _))⟩
end
end

/- root: Help. -/
section
open Go Go.RowKit Go.Ct
section
variable{D:List Nat}{A B:Fr}{a:AS}{b:Nat}{w:World}{f:FuncId}{cap:List Value}{t:gO}
end
end

/- root: Replace. -/
section
open Go Go.RowKit Go.Ct
section
variable{D:List Nat}{A B:Fr}{a:AS}{b:Nat}{w:World}{f:FuncId}{cap:List Value}{t:gO}
end
end

/- root: the tasks. -/
section
open Go Go.RowKit Go.Ct
section
variable{D:List Nat}{A B:Fr}{a:AS}{b:Nat}{w:World}{f:FuncId}{cap:List Value}{t:gO}
end
end

/- The laws of root: a world, an arena, a trie; the sanity check. -/
end Go.Proofs.YtbajmaoegmbfgaaGreat
namespace Go.Ct
section
open Go Go.RowKit
end
end Go.Ct
namespace Go.Proofs.YtbajmaoegmbfgaaGreat
section
open Go Go.RowKit Go.Ct
structure TQ where
 bw:Nat
 bm:Nat
 m:Nat
 W:Wd
 ba:Nat
 a:AS
 j:Nat
 tp:Nat
 pos:Nat
structure Zs(q:TQ):Prop where
 m:q.m<18446744073709551616
 W:Px q.m 2415922570 1048594 18 q.W
 j:q.j<q.W.ts.length
 mm:q.a.mm=q.W.z.mm
 a:q.a.Ok
abbrev TQ.t(q:TQ):gO:=q.W.ts.getD q.j ⟨0,false⟩
theorem Zs.root{q:TQ}(h:Zs q):q.t.root<=9223372036854775807:=h.W.root (by decide) (Av h.j)
theorem vf{z:XS}(h:z.Ok):z.a0.Ok:=⟨h.fit,h.nd,h.cs,h.got,h.made,h.two,h.lL,h.lc,h.lg,h.la,h.lm,h.lk,h.le,h.fr,h.ys,h.gen0,h.ms,h.m1⟩
theorem Zs.lok{q:TQ}(h:Zs q):Ed q.ba 2415922570 0 ⟨q.a,q.W.z.a0,[],[]⟩:=.none (vf h.W.z) h.a h.mm h.W.sz
abbrev tqO(q:TQ):List Ow:=gD q.a++nB q.W.z
end

/- The laws of root: the sanity check. -/
section
open Go Go.RowKit Go.Ct
theorem Xe(x y:AX):gV (L4 x y) [0,3,4] 1 :=
 oP (m:=0) (B:=8) (C:=0) (E:=0) (W:=⟨XS.new (L4 x y) [0,3,4] 1 0 none 0 none 0,[⟨3,false⟩],none,0,[],none,0⟩) ⟨We _ _ _ _ _ _ _,⟨by show 4<=8;decide,by show 3<=8;decide,by show(1:Int)<=((8:Nat):Int);decide⟩,(λ e he=>nomatch he),by show 0<1;decide,rfl,by show 1<=5;decide,Nat.le_refl _,.new⟩
section
variable{D:List Nat}{A B:Fr}{a0 a:AS}{b bt n m most:Nat}{w:World}{c:Cd}{F:Fr}{p:Tr×Mm}
theorem Zy(hp:nV b p a0 B (c,F,a))(ha:eL p.1=true)(ht:bR p.1 m 64)(hmm:most<=m)(hm:p.2.nodes.length+64*most<=137438953472/\p.2.cs.length+64*most<=137438953472)(hn:n+most<1000000000)(hA:∀f∈aM a.L,f∈A)(hB:∀x∈F++B,x∈A)(hs:SF w D [(bt,tO b c n),(b,fT a)] A [] (gD a) w) :
  Calls Tryz.prog 30 #[.pointer (some ⟨bt,0,none⟩),.int .i64 ((most:Nat):Int)] w λ e w'=>∃y:Cd×Fr×AS,e=.returned (.int .i64 ((A7 p most:Nat):Int))/\TkI b (uT p most) a (F++B) y/\SF w D [(bt,tO b y.1 (n+A7 p most)),(b,fT y.2.2)] [] y.2.1 (gD y.2.2) w':=by
 obtain⟨⟨h1,h2⟩,h3,h4⟩:=hp
 simp only at h1 h2 h3
 have e:(p.1,a.mm)=p:=by rw[h2]
 have:=jy (b:=b) (bt:=bt) (n:=n) (D:=D) (A:=A) (B:=F++B) (w:=w) (most:=most) ht hmm ha (a:=a) (c:=c) (by rw[h2];exact h1) h3 (by rw[h2];exact hm) hn hA hB hs
 rw[e] at this
 exact this
end
end

/- The laws of gcas: the sanity check. -/
section
open Go Go.RowKit Go.Ct
abbrev mn:Nd:={Nd.zero with kind:=3}
def Jd:Mm:=mm0.push (mn.c [] []) 3
def P2:Tr:=jK ⟨3,false⟩ 4 3 5 λ ok=>.done (qE 0 ok)
theorem Az:bR P2 20 64:=by
 have h:P2=kK ⟨2,⟨3,false⟩,4,3,5,0,0,0,⟨#[]⟩,0,0,0,false⟩ 0 21:=by
  unfold P2 kK
  rfl
 rw[h]
 exact Jy (by decide)
theorem xc:uT (Ct.iZ P2 Jd) 9=(.done (qE 0 true),(uT (Ct.iZ P2 Jd) 9).2)/\A7 (Ct.iZ P2 Jd) 9=5/\bU (uT (Ct.iZ P2 Jd) 9).2.cs 2=5/\(cB (uT (Ct.iZ P2 Jd) 9).2.nodes 4).main=2/\(uT (Ct.iZ P2 Jd) 9).2.nodes.length=5:=⟨rfl,rfl,rfl,rfl,rfl⟩
theorem xh:(Ct.iZ P2 Jd).2.nodes.length=5/\(Ct.iZ P2 Jd).2.cs.length=4:=⟨rfl,rfl⟩
theorem o4{D:List Nat}{A B F:Fr}{a0 a:AS}{b bt:Nat}{c:Cd}{w:World}(hp:nV b (Ct.iZ P2 Jd) a0 B (c,F,a))(hA:∀f∈aM a.L,f∈A)(hB:∀x∈F++B,x∈A)(hs:SF w D [(bt,tO b c 0),(b,fT a)] A [] (gD a) w) :
  Calls Tryz.prog 30 #[.pointer (some ⟨bt,0,none⟩),.int .i64 9] w λ e w'=>∃y:Fr×AS,e=.returned (.int .i64 5)/\(bU y.2.cs 2=5/\(aB (cY y.2.L) 4).nd.main=2/\y.2.Ok/\y.2.mm.Small/\a.jO y.2 y.1/\(4:Int)<=y.2.mm.nodes.length)/\SF w D [(bt,tO b (E3 (qE 0 true)) 5),(b,fT y.2)] [] y.1 (gD y.2) w':=by
 obtain⟨e1,e2,e3,e4,e5⟩:=xc
 obtain⟨g1,g2⟩:=xh
 refine(Zy (n:=0) (m:=20) (most:=9) hp (nY Jd Az) (nW Jd Az 64) (by decide) ⟨by omega,by omega⟩ (by decide) hA hB hs).mono λ e w' ⟨y,h1,h2,hw⟩=>?_
 have h3:=h2.rp
 rw[e1] at h3
 obtain⟨_,h4⟩:=h3
 have h5:y.2.2.cs=(uT (Ct.iZ P2 Jd) 9).2.cs:=congrArg Mm.cs h2.mm
 have h7:(cY y.2.2.L).map aP.c=(uT (Ct.iZ P2 Jd) 9).2.nodes:=congrArg Mm.nodes h2.mm
 obtain⟨_,_,_,h6⟩:=Hu (nW Jd Az 64) (nY Jd Az) 9 (by decide) (s:=(Ct.iZ P2 Jd).2)
 have h6':(uT (Ct.iZ P2 Jd) 9).2.cs.length<=(Ct.iZ P2 Jd).2.cs.length+64*9:=h6
 rw[e2,h4] at hw
 refine⟨(y.2.1,y.2.2),by rw[h1,e2];rfl,⟨by show bU y.2.2.cs 2=5;rw[h5];exact e3,?_,h2.ok,?_,h2.gr,?_⟩,hw⟩
 ·rw[<- h7,<- Ax] at e4
  exact e4
 ·rw[h2.mm]
  exact⟨by rw[e5];decide,by omega⟩
 ·show(4:Int)<=y.2.2.mm.nodes.length
  rw[h2.mm,e5];decide
set_option maxRecDepth 100000 in
set_option maxHeartbeats 1000000 in
theorem Ya(w:World):Calls Tryz.prog 72 #[] w λ e w'=>∃q:Nat×AS,e=.returned (.tuple #[.pointer (some ⟨q.1,0,none⟩),.agg ⟨[.int .i64 3,.bool false]⟩,.int .i64 4,.int .i64 3,.int .i64 5])/\(q.2.mm=Jd/\q.2.Ok)/\SF w [] [(q.1,fT q.2)] [] (aM q.2.L) (gD q.2) w':=by
 refine enter Tryz.func72 Tryz.ntmps72 rfl rfl (SF.s0 w) ?_
 simp only[bX]
 refine J0 ?_;refine eG (λ _=>?_);refine aJ (λ x1=>?_);refine eG (λ _=>?_);refine J8 ?_;refine J0 ?_;refine aD (P0 (Fc:=λ _=>[]) (hc:=λ w1 hw=>cz w1)) (λ x6 h6=>?_);refine J1 ?_;refine J2 ?_;refine aD (cM (hc:=λ w hs=>Pv hs)) (λ x8 h8=>?_);refine J5 ?_;refine Hj ?_;refine aC (aQ (k:=3) rf cQ eA (by simp only[List.drop_zero,List.take_succ_cons,List.take_zero];exact rfl) rfl) rfl ?_;refine aD (P0 (V:=λ x:Nat×List aP×(Option Addr×Nat)×(Option Addr×Nat)=>.tuple #[.pointer (some ⟨x.1,0,none⟩),.int .i64 0]) (Hc:=λ x=>[(x.1,aO x.2.1 [0,3,4] 1 0 x.2.2.1.1 x.2.2.1.2 x.2.2.2.1 x.2.2.2.2)]) (Fc:=λ x=>aM x.2.1) (Oc:=λ x=>mW x.2.1 [0,3,4] x.2.2.1.1 x.2.2.1.2 x.2.2.2.1 x.2.2.2.2) (hc:=λ w1 hw=>Z0 (L:=L4 x8.1 x8.2.1) (cs:=[0,3,4]) (hw.yY (.inr (.inr (.inr ⟨_,.head _,rfl,rfl⟩))) (.inr (.inr (.inr ⟨_,.tail _ (.head _),rfl,rfl⟩))) (λ f hf=>.inl (mg f hf)) (We x8.1 x8.2.1 0 none 0 none 0).fit) (by show 4<=_;decide) (by decide) (hw.vv .head) (Xe _ _))) (λ x14 h14=>?_)
 obtain⟨a0,ha0⟩:∃a:AS,a=⟨x14.2.1,[0,3,4],1,0,x14.2.2.1.1,x14.2.2.1.2,x14.2.2.2.1,x14.2.2.2.2⟩:=⟨_,rfl⟩
 have hmm:a0.mm=mm0:=by rw[ha0];show Mm.mk ((cY x14.2.1).map aP.c) [0,3,4] 1=mm0;rw[h14.1];rfl
 have hok:a0.Ok:=⟨by rw[ha0];exact h14.2,by rw[hmm];exact(We x8.1 x8.2.1 0 none 0 none 0).mo⟩
 have hsm:a0.mm.Small:=by rw[hmm];exact⟨by decide,by decide⟩
 have hoA:∀x:AX,(a0.al mn [] [] 3 x).Ok:=λ x=>hok.al x (by simp) (by simp) ⟨bH _,bH _,bH _,(λ r hr=>nomatch hr),bH _,bH _,bH _,⟨0,rfl,by decide⟩,⟨0,rfl,by decide⟩⟩ (by rw[hmm];decide)
 have hmA:∀x:AX,(a0.al mn [] [] 3 x).mm=Jd:=λ x=>by rw[Bc,hmm];rfl
 refine E6 ?_;refine hZ ?_;refine J2 ?_;refine uB ?_
 refine bB (λ c18=>?_) (λ c18=>?_)
 ·cases c18
 ·refine jY ?_;refine dI [(0,[]),(1,[]),(2,[]),(3,[]),(4,[1]),(5,[1]),(6,[]),(7,[]),(8,[]),(9,[])] ?_;refine aN ?_;refine bG ?_;refine aN ?_;refine gH ?_;refine aZ (i:=4) (hq:=(cM (V:=λ _:AX=>.int .i64 5) (hs:=[(x14.1,fT a0)]) (os:=gD a0) (A0:=[(none,aG []),(none,cR [])]) (hs':=λ x=>[(x14.1,fT (a0.al mn [] [] 3 x))]) (os':=λ x=>gD (a0.al mn [] [] 3 x)) (Fc:=λ x=>(kM mn [] [] a0.cs.length x).fr) (hH:=by rw[ha0];exact .cons .head .nil) (hO:=by rw[ha0];exact .cons .head (.cons .head .nil)) (hc:=λ w1 hw=>by have:=G5 (n:=mn) (xs:=[]) (ys:=[]) hok hsm 3 rfl rfl (by simp) (by simp) (λ f hf=>hf) hw;rw[hmm] at this;exact this))) (h:=λ x24 h24=>?_);refine iJ (h:=λ _=>?_);refine lT (h:=λ _=>?_);refine iJ (h:=λ _=>?_);refine Q5 ?_
  refine bC Tryz.results72 (λ w hw=>?_)
  have hw:=hw.eY (F':=aM (a0.al mn [] [] 3 x24).L) λ f hf=>((AS.jO.al a0 mn [] [] 3 x24).fam f hf).imp_right λ h=>h.elim (λ h=>List.mem_append_right _ (by rw[ha0] at h;exact List.mem_append_left _ h)) λ h=>List.mem_append_left _ h
  exact⟨(x14.1,a0.al mn [] [] 3 x24),rfl,⟨hmA x24,hoA x24⟩,hw.ret (by repeat (first|exact List.nil_sublist _|apply List.Sublist.cons_cons)) aX.all (by repeat (first|exact List.nil_sublist _|apply List.Sublist.cons_cons))⟩
set_option maxRecDepth 100000 in
set_option maxHeartbeats 1000000 in
theorem Jg(w:World):Calls Tryz.prog 27 #[] w λ e w'=>e=.returned (.bool true)/\St w [] [] w':=by
 refine enter Tryz.func27 Tryz.ntmps27 rfl rfl (SF.s0 w) ?_
 simp only[bX]
 refine cO ?_;refine J0 ?_;refine aD (P0 (V:=λ q:Nat×AS=>.tuple #[.pointer (some ⟨q.1,0,none⟩),.agg ⟨[.int .i64 3,.bool false]⟩,.int .i64 4,.int .i64 3,.int .i64 5]) (Hc:=λ q=>[(q.1,fT q.2)]) (Fc:=λ q=>aM q.2.L) (Oc:=λ q=>gD q.2) (hc:=λ w1 hw=>Ya w1)) (λ x8 h8=>?_)
 obtain⟨hmm,hok⟩:=h8
 refine E6 ?_;refine J54 ?_;refine wW ?_;refine aJ (λ x2=>?_);refine eG (λ _=>?_);refine gW (λ _=>?_);refine eG (λ _=>?_);refine J8 ?_;refine jV ?_;refine uB ?_
 refine bB (λ c15=>?_) (λ c15=>?_)
 ·try (contradiction)
 ·try (first|contradiction|(exfalso;omega))
  refine bA ?_;refine J2 ?_;refine aC (uh rf (λ w=>Kg _ w)) rfl ?_;refine bN ?_;refine oZ ?_;refine aA ?_;refine aD (u6 (V:=λ x:Nat×Cd×Fr×AS=>.pointer (some ⟨x.1,0,none⟩)) (hs:=[(x8.1,fT x8.2)]) (os:=gD x8.2) (hs':=λ x=>[(x8.1,fT x.2.2.2)]) (Hc:=λ x=>[(x.1,tO x8.1 x.2.1 0)]) (os':=λ x=>gD x.2.2.2) (Oc:=λ _=>[]) (Fc:=λ x=>x.2.2.1) (A0:=aM x8.2.L) (hA:=aY.of λ f hf=>.inr (.inr (.inl (by simpa using hf)))) (hc:=λ w1 hw=>by have:=Up (Qj (t:=⟨3,false⟩) (i:=4) (bI:=3) (nw:=5) (B:=[]) (n:=20) (m:=64) (by decide) (by rw[hmm];decide) (by rw[hmm];decide) Az hok (by rw[hmm];exact⟨by decide,by decide⟩) (λ f hf=>hf) (λ x hx=>nomatch hx) hw);rw[hmm] at this;exact this)) (λ x22 h22=>?_);refine J1 ?_;refine J2 ?_;refine lO ?_;refine aA ?_
  (refine aF ?_;refine aA ?_)
  ((refine aF ?_;refine aD (cM (V:=λ y:Fr×AS=>.int .i64 5) (hs:=[(x22.1,tO x8.1 x22.2.1 0),(x8.1,fT x22.2.2.2)]) (os:=gD x22.2.2.2) (hs':=λ y=>[(x22.1,tO x8.1 (E3 (qE 0 true)) 5),(x8.1,fT y.2)]) (os':=λ y=>gD y.2) (Fc:=λ y=>y.1) (A0:=aM x22.2.2.2.L++(x22.2.2.1++[])) (hA:=aY.of λ f hf=>(List.mem_append.1 hf).elim (λ h=>(h22.1.2.2.fam f h).imp_right λ h=>.inr (.inl (h.elim (λ h=>List.mem_append_right _ (by simpa using h)) λ h=>List.mem_append_left _ h))) λ h=>.inr (.inr (.inl (List.mem_append_left _ (by simpa using h))))) (hc:=λ w1 hw=>o4 h22.1 (λ f hf=>List.mem_append_left _ hf) (λ f hf=>List.mem_append_right _ hf) hw)) (λ x27 h27=>?_)));refine vA ?_;refine aA ?_
  (refine aF ?_;refine aA ?_)
  ((refine aF ?_;refine aT (cV (hc:=λ w1 hw=>zH (r:=qE 0 true) (d:=true) rfl (if_pos rfl) (hw.st.at cQ))) (λ x32=>?_)));((refine aF ?_;refine cD ?_));refine cA ?_;refine aA ?_
  (refine aF ?_;refine aA ?_)
  ((refine aF ?_;refine aA ?_));((refine aF ?_;refine aA ?_));((refine aF ?_;refine aD (u6 (V:=λ q:Option Addr×Option Addr=>.agg ⟨((aB (cY x27.2.L) 4).at_ q.1 q.2).nd.cells⟩) (hs:=[(x8.1,fT x27.2)]) (os:=gD x27.2) (hs':=λ _=>[(x8.1,fT x27.2)]) (Hc:=λ _=>[]) (os':=λ _=>gD x27.2) (Oc:=λ q=>[⟨q.2,cR (aB (cY x27.2.L) 4).ys,(aB (cY x27.2.L) 4).ys.length,164,2⟩,⟨q.1,aG (aB (cY x27.2.L) 4).xs,(aB (cY x27.2.L) 4).xs.length,37,1⟩]) (Fc:=λ _=>[]) (A0:=aM x27.2.L) (hA:=aY.of λ f hf=>(h27.2.2.2.2.1.fam f hf).elim .inl λ h=>h.elim (λ h=>(h22.1.2.2.fam f h).imp_right λ h=>.inr (.inl (List.mem_append_right _ (h.elim (λ h=>List.mem_append_right _ (by simpa using h)) λ h=>List.mem_append_left _ h)))) λ h=>.inr (.inr (.inl (List.mem_append_left _ h)))) (hc:=λ w1 hw=>Uh h27.2.2.1 h27.2.2.2.1 (λ f hf=>hf) 4 h27.2.2.2.2.2 hw)) (λ x39 h39=>?_)));((refine aF ?_;refine aC (Mj rf (by exact Mf rfl) (show _=some (Value.int .i64 2) by rw[<- h27.2.1];rfl)) rfl ?_));((refine aF ?_;refine aD (cM (V:=λ _:Unit=>.int .i64 5) (hs:=[(x8.1,fT x27.2)]) (os:=gD x27.2) (hs':=λ _=>[(x8.1,fT {x27.2 with acc:=up x27.2.acc})]) (os':=λ _=>gD x27.2) (Fc:=λ _=>[]) (hc:=λ w1 hw=>by rw[<- h27.1];exact Vn hw 2 (by decide) (Nat.le_trans (show x27.2.cs.length<=137438953472 from h27.2.2.2.1.2) (by decide)))) (λ x41 h41=>?_)));((refine aF ?_;refine aA ?_));refine vA ?_;refine J1 ?_
  refine aS Tryz.results27 (λ w hw=>?_)
  exact⟨rfl,hw.done⟩
end

/- Views: the root of a trie, the main node of an I-node. -/
end Go.Proofs.YtbajmaoegmbfgaaGreat
namespace Go.Ct
section
open Go Go.RowKit
theorem oB.Mn{L:List aP}{cs:List Int}{pn pc:Option Addr}{w w0:World}{M:List Nat}{H:List (Nat×Obj)}{F:Fr}{O:List Ow}(h:oB w0 L cs pn pc)(hw:SF w0 M H ((pn,gZ L)::(pc,aG cs)::aM L) F O w):oB w L cs pn pc:=hw.yY (.inr (.inl (.head _))) (.inr (.inl (.tail _ (.head _)))) (λ f hf=>.inr (.inl (.tail _ (.tail _ hf)))) h.fit
theorem cX(L:List aP)(r:Int):cB (L.map aP.c) r=(aB L r).c:=(Ax L r).symm
end
end Go.Ct
namespace Go.Proofs.YtbajmaoegmbfgaaGreat
section
open Go Go.RowKit Go.Ct
section
variable{L:List aP}{cs:List Int}{gen:Int}{pn pc:Option Addr}{cn cc:Nat}{w:World}
abbrev Nc(L:List aP)(cs:List Int)(gen:Int)(pn:Option Addr)(cn:Nat)(pc:Option Addr)(cc:Nat):Value:=.agg ⟨[.slice pn L.length cn,.slice pc cs.length cc,.int .i64 gen]⟩
structure StB(L:List aP)(cs:List Int):Prop where
 cs:∀c,bU cs c<=9223372036854775807
 bI:∀r,(aB L r).nd.bI<=9223372036854775807
 new:∀r,(aB L r).nd.new<=9223372036854775807
 main:∀r,(aB L r).nd.main<=9223372036854775807
 prev:∀r,(aB L r).nd.prev<=9223372036854775807
 status:∀r,(aB L r).nd.status<=9223372036854775807
 br:∀r,∀b∈(aB L r).xs,b<=9223372036854775807
end
end

end Go.Proofs.YtbajmaoegmbfgaaGreat

/- The order of keys. -/
import Derived.Test.YtbajmaoegmbfgaaGreatGVw1
import Derived.Test.YtbajmaoegmbfgaaGreatGKw6
import Derived.Test.YtbajmaoegmbfgaaGreatGGt2
import Derived.Test.YtbajmaoegmbfgaaGreatGTape3
import Derived.Test.YtbajmaoegmbfgaaGreatGWr1

set_option linter.unusedSimpArgs false
set_option linter.unusedVariables false
namespace Go.Ct
section
open Go Go.RowKit
end
end Go.Ct
namespace Go.Proofs.YtbajmaoegmbfgaaGreat
section
open Go Go.RowKit Go.Ct
end

/- Tries that keep the labels: their I-nodes and their contents. -/
section
open Go.RowKit Go.Ct
section
variable{H:ByteArray->Nat}{σ:Kw}{i m p g:Int}{w:List Nat}{t:fY}
theorem lu(i0:Inv H σ)(hi:vT σ i w g):∃p,pN σ.mm.nodes σ.mm.cs i=some p/\pP σ p w g:=by
 have hm:=hi.ra i0
 have hc:=i0.pA hm.1
 have hp:=(i0.ce _ hc.1 hc.2.1).prev _ hc.2.2
 have e1:vL σ.mm.nodes σ.mm.cs i=σ.ce (σ.nd i).main:=rfl
 have e2:nW σ.mm.nodes σ.mm.cs i=σ.ce (σ.nd (σ.ce (σ.nd i).main)).prev:=rfl
 have e3:yD σ.mm.nodes σ.mm.cs i=if(σ.nd (nW σ.mm.nodes σ.mm.cs i)).kind=7 then(σ.nd (nW σ.mm.nodes σ.mm.cs i)).bC else nW σ.mm.nodes σ.mm.cs i:=rfl
 unfold pN
 rw[if_pos ⟨hi.1.1,by rw[e1];exact hm.1⟩]
 have key:∀q,oS σ (σ.ce (σ.nd i).main) q->pP σ q w g:=λ q hq=>by have:=hq.1;rw[hm.2.1] at this;exact this.le hm.2.2
 by_cases h0:nW σ.mm.nodes σ.mm.cs i=0
 ·rw[if_pos h0,e1]
  exact⟨_,rfl,hm⟩
 ·rw[if_neg h0,e3]
  rw[e2] at h0 ⊢
  rcases hp.2 with h|h|h
  ·exact absurd h h0
  ·have hk:=h.1.1
   rw[if_neg (cI.ne0 hk).2.1,if_pos hk]
   exact⟨_,rfl,key _ h⟩
  ·rw[if_pos h.1,if_pos h.2.1.1]
   exact⟨_,rfl,key _ h.2⟩
theorem qn(i0:Inv H σ)(hT:dH σ t):∃r,pJ σ.mm.nodes σ.mm.cs t.root=some r/\wW σ r []:=by
 have hv:=(Zr hT i0).2
 have e:yG σ.mm.nodes σ.mm.cs t.root=if(σ.nd (σ.ce t.root)).kind=8 then(if σ.ce (σ.nd (σ.ce t.root)).status=1 then(σ.nd (σ.ce t.root)).new else(σ.nd (σ.ce t.root)).bC) else σ.ce t.root:=rfl
 have key:∀r,yG σ.mm.nodes σ.mm.cs t.root=r->wW σ r []->∃r,pJ σ.mm.nodes σ.mm.cs t.root=some r/\wW σ r []:=λ r er hr=>⟨r,by unfold pJ;rw[er];exact if_pos hr.1,hr⟩
 rcases hv with h|h
 ·exact key _ (e.trans (if_neg (by rw[h.1];decide))) h
 ·have hd:=i0.desc h.1
  by_cases hs:σ.ce (σ.nd (σ.ce t.root)).status=1
  ·exact key _ (e.trans ((if_pos h.1).trans (if_pos hs))) hd.2.2.1
  ·exact key _ (e.trans ((if_pos h.1).trans (if_neg hs))) hd.2.1
end
end

/- The reference of views: the root of a trie, the main node of an I-node, in a proper state. -/
section
open Go Go.RowKit Go.Ct
section
variable{L:List aU}{cs:List Int}{gen:Int}{pn pc:Option Addr}{cn cc:Nat}{w:World}
theorem jn(hp:iG L cs gen)(hr:Vy L)(hl:L.length<=274877906944):StB L cs:=by
 have hd:∀x:Int,C8 x L.length->x<=9223372036854775807:=λ x h=>by have:=h.2;omega
 refine⟨λ c=>?_,λ r=>?_,λ r=>?_,λ r=>?_,λ r=>?_,λ r=>?_,λ r=>?_⟩
 ·unfold bU
  split
  ·exact hd _ (hp.cells _ (by omega))
  ·decide
 ·unfold aD
  split
  ·exact hd _ (hp.nodes (r-1).toNat (by omega)).2.2.2.1
  ·decide
 ·unfold aD
  split
  ·exact hd _ (hp.nodes (r-1).toNat (by omega)).2.2.2.2.2
  ·decide
 ·unfold aD
  split
  ·exact(hr _ (fJ (by omega))).main
  ·decide
 ·unfold aD
  split
  ·exact(hr _ (fJ (by omega))).prev
  ·decide
 ·unfold aD
  split
  ·exact(hr _ (fJ (by omega))).status
  ·decide
 ·unfold aD
  split
  ·intro b hb
   obtain⟨i,hi,rfl⟩:=List.mem_iff_getElem.1 hb
   have:=(hp.nodes (r-1).toNat (by omega)).2.2.1 i hi
   rw[jY,List.getElem?_eq_getElem hi] at this
   exact hd _ this
  ·intro b hb
   cases hb
theorem aq(hp:iG L cs gen)(h:mZ w L cs pn pc)(hr:Vy L)(hl:L.length<=274877906944)(hc:cs.length<=274877906944)(c:Int)(ro:Bool){r:Int}(ho:pJ (L.map aU.c) cs c=some r)(hi:c<=9223372036854775807):Calls Tryz.prog 44 #[Vj L cs gen pn cn pc cc,.agg ⟨[.int .i64 c,.bool ro]⟩] w λ e w'=>e=.returned (.tuple #[.int .i64 r,.bool true])/\St w [] [] w':=by
 refine enter Tryz.func44 Tryz.ntmps44 rfl rfl h.start ?_
 simp only[bW]
 simp only[Vj]
 refine J0 ?_;refine bL (λ x2=>?_);refine bL (λ x3=>?_);refine J8 ?_;refine aT ?_;refine nJ ?_;refine aC (c0 (V:=.bool) (hc:=λ w1 hw=>C5 (h.Jo hw) hr hl hc)) (λ x7 h7=>?_);refine nY ?_
 refine bB (λ c8=>?_) (λ c8=>?_)
 ·rw[h7.2 hp] at c8;cases c8
 ·refine aW ?_;refine nJ ?_;refine bO ?_;refine aR (cV (hc:=λ w1 hw=>ph (h.Jo hw) (jn hp hr hl) hl hc c ro hi)) (λ x11=>?_);refine J54 ?_;refine J8 ?_
  refine aZ Tryz.results44 (λ w hw=>?_)
  exact⟨by rw[ho];rfl,hw.done⟩
theorem Zv(hp:iG L cs gen)(h:mZ w L cs pn pc)(hr:Vy L)(hl:L.length<=274877906944)(hc:cs.length<=274877906944)(i:Int){r:Int}(ho:pN (L.map aU.c) cs i=some r)(hi:i<=9223372036854775807):Calls Tryz.prog 31 #[Vj L cs gen pn cn pc cc,.int .i64 i] w λ e w'=>e=.returned (.tuple #[.int .i64 r,.bool true])/\St w [] [] w':=by
 refine enter Tryz.func31 Tryz.ntmps31 rfl rfl h.start ?_
 simp only[bW]
 simp only[Vj]
 refine J0 ?_;refine bL (λ x2=>?_);refine J8 ?_;refine aT ?_;refine nJ ?_;refine aC (c0 (V:=.bool) (hc:=λ w1 hw=>C5 (h.Jo hw) hr hl hc)) (λ x7 h7=>?_);refine nY ?_
 refine bB (λ c8=>?_) (λ c8=>?_)
 ·rw[h7.2 hp] at c8;cases c8
 ·refine aW ?_;refine Dd ?_;refine aR (cV (hc:=λ w1 hw=>m8 (h.Jo hw) (jn hp hr hl) hl hc i hi)) (λ x11=>?_);refine J54 ?_;refine J8 ?_
  refine aZ Tryz.results31 (λ w hw=>?_)
  exact⟨by rw[ho];rfl,hw.done⟩
end
theorem Rt{m B C E:Nat}{W:Wd}(h:R9 m B C E W){t:fY}(ht:t∈W.ts):∃r p,pJ (W.z.L.map aU.c) W.z.cs t.root=some r/\pN (W.z.L.map aU.c) W.z.cs r=some p/\1<=r/\r<=W.z.L.length/\p<=W.z.L.length:=by
 obtain⟨σ,hi⟩:=h.wr.inv
 have i0:=hi.inv
 have e1:σ.mm.nodes=W.z.L.map aU.c:=by rw[hi.mm];rfl
 have e2:σ.mm.cs=W.z.cs:=by rw[hi.mm];rfl
 have hl:σ.len=W.z.L.length:=by show σ.mm.nodes.length=_;rw[e1,List.length_map]
 obtain⟨r,hr,hir⟩:=qn i0 (hi.ts t ht)
 obtain⟨p,hp,hm⟩:=lu i0 (g:=(σ.nd r).gen) ⟨hir,rfl⟩
 rw[e1,e2] at hr hp
 have h1:=hir.in
 have h2:=pP.in hm
 exact⟨r,p,hr,hp,h1.1,by omega,by omega⟩
end

/- The laws of root: a swap begins, on the arena and on the memory. -/
end Go.Proofs.YtbajmaoegmbfgaaGreat
namespace Go.Ct
section
open Go Go.RowKit
abbrev XS.al(z:XS)(n:Nd)(xs:List Int)(ys:List Pr)(init:Int)(x:AX):XS:={z with L:=z.L++[jB n xs ys z.cs.length x],cs:=fI n.kind z.cs init,pn:=x.pn,cn:=x.cn,pc:=x.pc,cc:=x.cc}
theorem K8(z:XS)(n:Nd)(xs:List Int)(ys:List Pr)(init:Int)(x:AX):(z.al n xs ys init x).mm=z.mm.push (n.c xs ys) init:=by
 unfold XS.mm Mm.push
 simp only[List.map_append]
 rfl
theorem XS.Ok.al{z:XS}(ok:z.Ok){n:Nd}{xs:List Int}{ys:List Pr}{init:Int}(x:AX)(hx:xs.length<=274877906944)(hy:ys.length<=z.L.length)(hl:z.L.length<=100000000000)(hcl:z.cs.length<=100000000000)(hb:lD z.L.length z.cs.length {n.c xs ys with main:=0,prev:=0,status:=0})(hi:init<=z.L.length+1):(z.al n xs ys init x).Ok:=by
 have hlen:(z.L++[jB n xs ys z.cs.length x]).length=z.L.length+1:=by simp
 have hcs:=gO (k:=n.kind) (cs:=z.cs) (init:=init)
 refine⟨λ v hv=>?_,λ v hv=>?_,λ v hv=>?_,λ v hv=>?_,λ v hv=>?_,?_,?_,?_,ok.lg,ok.la,ok.lm,ok.lk,ok.le,ok.fr,λ v hv=>?_,ok.gen0,ok.ms,ok.m1⟩
 ·rcases List.mem_append.1 hv with hv|hv
  ·exact ok.fit v hv
  ·rw[List.mem_singleton.1 hv];exact Hk (by omega) (by omega)
 ·show lD (z.L++[jB n xs ys z.cs.length x]).length (fI n.kind z.cs init).length v.c
  rcases List.mem_append.1 hv with hv|hv
  ·exact(ok.nd v hv).mono (by omega) hcs.1
  ·rw[List.mem_singleton.1 hv]
   exact ck (v:=n.c xs ys) hb rfl hlen.symm
 ·show v<=((z.L++[jB n xs ys z.cs.length x]).length:Int)
  have hv':v∈fI n.kind z.cs init:=hv
  unfold fI at hv'
  split at hv'
  ·rcases List.mem_append.1 hv' with h|h
   ·have:=ok.cs v h;omega
   ·rw[List.mem_singleton.1 h];omega
  ·have:=ok.cs v hv';omega
 ·have:=ok.got v hv
  show v<=((z.L++[jB n xs ys z.cs.length x]).length:Int);omega
 ·have:=ok.made v hv
  show v<=((z.L++[jB n xs ys z.cs.length x]).length:Int);omega
 ·have:=ok.two
  show 2<=(z.L++[jB n xs ys z.cs.length x]).length;omega
 ·show(z.L++[jB n xs ys z.cs.length x]).length<=_;omega
 ·show(fI n.kind z.cs init).length<=_;omega
 ·show v.ys.length<=(z.L++[jB n xs ys z.cs.length x]).length
  rcases List.mem_append.1 hv with hv|hv
  ·have:=ok.ys v hv;omega
  ·rw[List.mem_singleton.1 hv]
   show ys.length<=_
   omega
end
end Go.Ct
namespace Go.Proofs.YtbajmaoegmbfgaaGreat
section
open Go Go.RowKit Go.Ct
theorem U0{x:XS}(h:x.Ok):Vy x.L:=λ v hv=>by
 have hb:=h.nd v hv
 have h1:=hb.main
 have h2:=hb.prev
 have h3:=hb.status
 have h4:=h.lc
 have e1:v.c.main=v.nd.main:=rfl
 have e2:v.c.prev=v.nd.prev:=rfl
 have e3:v.c.status=v.nd.status:=rfl
 exact⟨hb.bm,by omega,by omega,by omega⟩
theorem Vw{L:List aU}{v:aU}{f:Option Addr×List Value}(h:f∈aL (L++[v])):f∈v.fr∨f∈aL L:=by
 rw[cZ] at h
 rcases List.mem_append.1 h with h|h
 ·exact .inr h
 ·exact .inl (by simpa[aL] using h)
def kS(kind:Int)(t:fY)(a b n:Int):Cl:=⟨kind,t,a,b,n,0,0,0,⟨#[]⟩,0,0,0,false⟩
theorem b9{kind:Int}{t:fY}{a b n:Int}(h1:1<=kind)(h2:kind<=4):V6 (kS kind t a b n):=.inl ⟨h1,h2⟩
structure SW where
 a1:AS
 z1:XS
 k:Cl
 tb:Nat
 c:Cd
 F:Fr
 a:AS
 bx:Nat
 x:XS
 N:List aU
 dn:Bool
 rs:Rs
structure kw(ba:Nat)(a:AS)(z:XS)(q:SW):Prop where
 z1:q.z1.Ok
 a1:q.a1.Ok
 mm:q.a1.mm=q.z1.mm
 ext:∃v,q.z1.L=z.L++[v]
 cl:z.cs.length<=q.z1.cs.length
 sz:∀B,Sz z B->Sz q.z1 (B+1)
 gr:∀f∈aL q.a1.L,f.2=[]∨f∈aL a.L∨f∈q.F
 rp:uE (T0 q.k 0) (T0 q.k 0) 0 0 Rs.zero (XS.new q.z1.L q.z1.cs q.z1.gen q.z1.acc q.z1.pn q.z1.cn q.z1.pc q.z1.cc) q.x q.N q.dn q.rs
 tk:∃F0,(∀f∈F0,f∈q.F)/\nM ba (Ct.iZ (T0 q.k 0) q.a1.mm) q.a1 [] (q.c,F0,q.a)
 fz:∀f∈aL q.x.L,f.2=[]∨f∈aL z.L∨f∈q.F
 kk:V6 q.k/\q.k.mask=((0:Nat):Int)/\q.k.t.root<=9223372036854775807/\q.k.a<=q.z1.L.length/\q.k.b<=q.z1.L.length/\q.k.n<=q.z1.L.length
def SWK(t:fY)(z:XS)(q:SW):Prop:=∃r p y:Int,pJ (z.L.map aU.c) z.cs t.root=some r/\pN (z.L.map aU.c) z.cs r=some p/\(y=p∨y=((z.L.length+1:Nat):Int))/\q.k=kS 4 t r y ((z.L.length+1:Nat):Int)/\q.z1.mm=(Mm.mk (z.L.map aU.c) z.cs (z.gen+1)).push (qU (z.gen+1)) p
abbrev oI(g:Int):Nd:={Nd.zero with kind:=2,gen:=g}
theorem s8(g:Int)(n c:Nat):lD n c {(oI g).c [] [] with main:=0,prev:=0,status:=0}:=⟨bH _,bH _,bH _,(λ r hr=>nomatch hr),bH _,bH _,bH _,⟨0,rfl,by decide⟩,⟨0,rfl,by decide⟩⟩
theorem O6{g:Int}(h0:0<=g)(h1:g<=1000000000000):up g=g+1:=by unfold up;exact wrap_i64 (by omega) (by omega)
theorem Ri{w:World}{D:List Nat}{b:Nat}{A:Fr}{z:XS}(h0:0<=z.gen)(h1:z.gen<=1000000000000)(hs:SF w D [(b,xM z)] A [] (nK z) w):Calls Tryz.prog 100 #[.pointer (some ⟨b,0,none⟩)] w λ e w'=>∃q:Unit,e=.returned (.int .i64 (z.gen+1))/\True/\SF w D [(b,xM {z with gen:=z.gen+1})] [] [] (nK z) w':=by
 have:=A8 hs
 rw[O6 h0 h1] at this
 exact this
theorem Sg{w:World}{D:List Nat}{b:Nat}{A:Fr}{a:AS}(h0:0<=a.gen)(h1:a.gen<=1000000000000)(hs:SF w D [(b,eN a)] A [] (eS a) w):Calls Tryz.prog 47 #[.pointer (some ⟨b,0,none⟩)] w λ e w'=>∃q:Unit,e=.returned (.int .i64 (a.gen+1))/\True/\SF w D [(b,eN {a with gen:=a.gen+1})] [] [] (eS a) w':=by
 have:=Wj hs
 rw[O6 h0 h1] at this
 exact this
theorem yc{w0 w:World}{M:List Nat}{H:List (Nat×Obj)}{A F:Fr}{a:AS}{z:XS}(h:SF w0 M H A F (eS a++nK z) w):SF w0 M H A F [⟨a.pn,gL a.L,a.cn,47,14⟩,⟨a.pc,aG a.cs,a.cc,37,1⟩,⟨z.pn,gL z.L,z.cn,47,14⟩,⟨z.pc,aG z.cs,z.cc,37,1⟩] w:=h
theorem Oh{w0 w:World}{M:List Nat}{A F:Fr}{t e x y a b c:Nat×Obj}{O1 O2:List Ow}(h:SF w0 M [t,e,x,y,a,b,c] A F (O1++O2) w):SF w0 M ([a,b,c]++[t,e]) [] F (O2++O1) w :=
 ((h.sub (H':=[t,e,a,b,c]) (.cons_cons _ (.cons_cons _ (.cons _ (.cons _ (List.Sublist.refl _))))) aX.all (List.Sublist.refl _)).perm (List.perm_append_comm (l₁:=[a,b,c]) (l₂:=[t,e])) List.perm_append_comm).j8
set_option maxRecDepth 100000 in
set_option maxHeartbeats 4000000 in
theorem dp{ba bm bw:Nat}{a:AS}{z:XS}{t:fY}{r p:Int}{other:Bool}{D:List Nat}{A:Fr}{w:World}{rest:List Value}(hz:z.Ok)(ha:a.Ok)(hm:a.mm=z.mm)(hsz:Sz z 90000000000)(hp:iG z.L z.cs z.gen)(hro:pJ (z.L.map aU.c) z.cs t.root=some r)(hbo:pN (z.L.map aU.c) z.cs r=some p)(hr:r<=z.L.length)(hpl:p<=z.L.length)(ht:t.root<=9223372036854775807)(hA1:∀f∈aL a.L,f∈A)(hA2:∀f∈aL z.L,f∈A)
    (hs:SF w D [(ba,eN a),(bm,xM z),(bw,.cells ⟨.pointer (some ⟨bm,0,none⟩)::rest⟩ 35 (0,0))] A [] (eS a++nK z) w) :
    Calls Tryz.prog 51 #[.pointer (some ⟨bw,0,none⟩),.pointer (some ⟨ba,0,none⟩),.agg ⟨[.int .i64 t.root,.bool t.ro]⟩,.bool other] w λ e w'=>∃q:SW,e=.returned (.tuple #[.agg ⟨[.pointer (some ⟨q.tb,0,none⟩),.pointer (some ⟨q.bx,0,none⟩)]⟩,.bool true])/\(kw ba a z q/\SWK t z q) /\
      SF w D ([(ba,eN q.a),(bm,xM q.x),(bw,.cells ⟨.pointer (some ⟨bm,0,none⟩)::rest⟩ 35 (0,0))]++[(q.tb,tO ba q.c 0),(q.bx,xO q.k bm q.x q.dn q.rs)]) [] q.F ((eS q.a++nK q.x)++xz q.x) w':=by
  obtain⟨s1,s2,s3⟩:=hsz
  have g0:=hz.gen0
  have eg:a.gen=z.gen:=congrArg Mm.gen hm
  have ec:a.cs=z.cs:=congrArg Mm.cs hm
  have el:a.mm.nodes.length=z.L.length:=by rw[hm];show(z.L.map aU.c).length=_;rw[List.length_map]
  have hgok:({a with gen:=a.gen+1}:AS).Ok:=⟨ha.fit,⟨ha.mo.nd,ha.mo.cs,ha.mo.two⟩⟩
  have hgsm:({a with gen:=a.gen+1}:AS).mm.Small:=⟨by show a.mm.nodes.length<=_;omega,by show a.cs.length<=_;rw[ec];omega⟩
  have haA:∀x:AX,(({a with gen:=a.gen+1}:AS).al (oI (z.gen+1)) [] [] p x).Ok:=λ x=>hgok.al x (by simp) (by simp) (s8 _ _ _) (by show p<=(a.mm.nodes.length:Int)+1;omega)
  have hzg:({z with gen:=z.gen+1}:XS).Ok:=⟨hz.fit,hz.nd,hz.cs,hz.got,hz.made,hz.two,hz.lL,hz.lc,hz.lg,hz.la,hz.lm,hz.lk,hz.le,hz.fr,hz.ys,by show 0<=z.gen+1;omega,hz.ms,hz.m1⟩
  have hzA:∀x:AX,(({z with gen:=z.gen+1}:XS).al (oI (z.gen+1)) [] [] p x).Ok:=λ x=>hzg.al x (by simp) (Nat.zero_le _) (by show z.L.length<=_;omega) (by show z.cs.length<=_;omega) (s8 _ _ _) (by show p<=(z.L.length:Int)+1;omega)
  have hmA:∀x y:AX,(({a with gen:=a.gen+1}:AS).al (oI (z.gen+1)) [] [] p x).mm=(({z with gen:=z.gen+1}:XS).al (oI (z.gen+1)) [] [] p y).mm:=λ x y=>by
    rw[oA,K8]
    have:({a with gen:=a.gen+1}:AS).mm=({z with gen:=z.gen+1}:XS).mm:=by
      show Mm.mk a.mm.nodes a.mm.cs (a.gen+1)=Mm.mk z.mm.nodes z.mm.cs (z.gen+1)
      rw[hm,eg]
    rw[this]
  have hlA:∀x:AX,(({a with gen:=a.gen+1}:AS).al (oI (z.gen+1)) [] [] p x).mm.nodes.length=z.L.length+1:=λ x=>by
    rw[hmA x x]
    show((z.L++[_]).map aU.c).length=_
    simp
  have hlZ:∀x:AX,(({z with gen:=z.gen+1}:XS).al (oI (z.gen+1)) [] [] p x).L.length=z.L.length+1:=λ x=>by
    show(z.L++[_]).length=_
    simp
  have hk1:∀x:AX,r<=((({z with gen:=z.gen+1}:XS).al (oI (z.gen+1)) [] [] p x).L.length:Int):=λ x=>by rw[hlZ x];omega
  have hk2:∀x:AX,∀y:Int,y<=z.L.length+1->y<=((({z with gen:=z.gen+1}:XS).al (oI (z.gen+1)) [] [] p x).L.length:Int):=λ x y h=>by rw[hlZ x];omega
  have hk3:∀x:AX,((z.L.length+1:Nat):Int)<=((({z with gen:=z.gen+1}:XS).al (oI (z.gen+1)) [] [] p x).L.length:Int):=λ x=>by rw[hlZ x];omega
  have hcZ:∀x:AX,(({z with gen:=z.gen+1}:XS).al (oI (z.gen+1)) [] [] p x).cs.length<=z.cs.length+1:=λ x=>by
    have h:=gO (k:=(oI (z.gen+1)).kind) (cs:=z.cs) (init:=p)
    exact h.2
  have hcZ':∀x:AX,z.cs.length<=(({z with gen:=z.gen+1}:XS).al (oI (z.gen+1)) [] [] p x).cs.length:=λ x=>by
    have h:=gO (k:=(oI (z.gen+1)).kind) (cs:=z.cs) (init:=p)
    exact h.1
  have hsA:∀x:AX,(({a with gen:=a.gen+1}:AS).al (oI (z.gen+1)) [] [] p x).mm.Small:=λ x=>by
    refine⟨by rw[hlA];omega,?_⟩
    rw[hmA x x]
    have:=hcZ x
    show(({z with gen:=z.gen+1}:XS).al (oI (z.gen+1)) [] [] p x).cs.length<=_
    omega
  refine enter Tryz.func51 Tryz.ntmps51 rfl rfl (yc hs) ?_
  simp only[bW]
  all_goals (refine J0 ?_;refine bL (λ x6=>?_);refine aJ (λ x8=>?_);refine hJ ?_;refine gD [0,1,2,3,4,5,6,7,8,9,10,11,12,13] ?_;refine Yc ?_;refine J4 ?_;refine bT (i:=6) (hq:=(aN (k:=3) rf cN dV (by simp only[List.drop_zero,List.take_succ_cons,List.take_zero];exact rfl) rfl)) (h:=?_);refine bM ?_;refine cD (i:=8) (hq:=(cV (v:=.tuple #[.int .i64 r,.bool true]) (hc:=λ w1 hw=>aq hp (hw.Gf (.inr (.inr (.inr ⟨_,.tail _ (.tail _ (.head _)),rfl,rfl⟩))) (.inr (.inr (.inr ⟨_,.tail _ (.tail _ (.tail _ (.head _))),rfl,rfl⟩))) (λ f hf=>.inr (.inl (hA2 f hf))) hz.fit) (U0 hz) (by omega) (by omega) _ _ hro ht))) (h:=λ x26=>?_);refine aM ?_;refine Jr ?_;refine Jr ?_;refine j3 ?_;refine kK ?_;refine Lg ?_;refine aB (aN (k:=3) rf cN dV (by simp only[List.drop_zero,List.take_succ_cons,List.take_zero];exact rfl) rfl) rfl ?_;refine aA ?_;refine aR (cV (v:=.tuple #[.int .i64 p,.bool true]) (hc:=λ w1 hw=>Zv hp (hw.Gf (.inr (.inr (.inr ⟨_,.tail _ (.tail _ (.head _)),rfl,rfl⟩))) (.inr (.inr (.inr ⟨_,.tail _ (.tail _ (.tail _ (.head _))),rfl,rfl⟩))) (λ f hf=>.inr (.inl (hA2 f hf))) hz.fit) (U0 hz) (by omega) (by omega) _ hbo (by omega))) (λ x38=>?_);refine Jv ?_;refine J8 ?_;refine lA ?_;refine Ed ?_)
  all_goals ((refine aF ?_;refine aA ?_))
  all_goals (refine Mi ?_;refine aH ?_)
  all_goals
   refine bB (λ c46=>?_) (λ c46=>?_)
   · exact nv c46
   · all_goals try (first|contradiction|(exfalso;omega))
     all_goals (refine lj ?_;refine aC (cM (V:=λ _:Unit=>.int .i64 (z.gen+1)) (hs:=[(bm,xM z)]) (os:=nK z) (hs':=λ _=>[(bm,xM {z with gen:=z.gen+1})]) (os':=λ _=>nK z) (Fc:=λ _=>[]) (A0:=[]) (hc:=λ w1 hw=>Ri g0 (by omega) hw)) (λ x52 h52=>?_);refine J1 ?_;refine kK ?_;refine aA ?_;refine bG ?_;refine aA ?_;refine aC (cM (V:=λ _:AX=>.int .i64 ((z.L.length+1:Nat):Int)) (hs:=[(bm,xM {z with gen:=z.gen+1})]) (os:=nK z) (A0:=[(none,aG []),(none,dB [])]) (hs':=λ x=>[(bm,xM (({z with gen:=z.gen+1}:XS).al (oI (z.gen+1)) [] [] p x))]) (os':=λ x=>nK (({z with gen:=z.gen+1}:XS).al (oI (z.gen+1)) [] [] p x)) (Fc:=λ x=>(jB (oI (z.gen+1)) [] [] z.cs.length x).fr) (hc:=λ w1 hw=>zJ (n:=oI (z.gen+1)) (xs:=[]) (ys:=[]) p hw rfl rfl (by simp) (by simp) (by show z.L.length<=_;omega) (by show z.cs.length<=_;omega))) (λ x60 h60=>?_);refine hJ ?_;refine J2 ?_;refine aC (cM (V:=λ _:Unit=>.int .i64 (z.gen+1)) (hs:=[(ba,eN a)]) (os:=eS a) (hs':=λ _=>[(ba,eN {a with gen:=a.gen+1})]) (os':=λ _=>eS a) (Fc:=λ _=>[]) (A0:=[]) (hc:=λ w1 hw=>by rw[<- eg];exact Sg (by omega) (by omega) hw)) (λ x62 h62=>?_);refine aA ?_;refine kW ?_;refine aA ?_)
     all_goals ((refine dZ 65 (λ g65=>?_) (λ g65=>?_)<;>(try (first|contradiction|(exfalso;omega)))<;>((refine aF ?_;refine aA ?_))))
     all_goals (((refine aF ?_;refine aA ?_));((refine aF ?_;refine bG ?_));((refine aF ?_;refine aA ?_));((refine aF ?_;refine aC (cM (V:=λ _:AX=>.int .i64 ((z.L.length+1:Nat):Int)) (hs:=[(ba,eN {a with gen:=a.gen+1})]) (os:=eS a) (A0:=[(none,aG []),(none,dB [])]) (hs':=λ x=>[(ba,eN (({a with gen:=a.gen+1}:AS).al (oI (z.gen+1)) [] [] p x))]) (os':=λ x=>eS (({a with gen:=a.gen+1}:AS).al (oI (z.gen+1)) [] [] p x)) (Fc:=λ x=>(jB (oI (z.gen+1)) [] [] a.cs.length x).fr) (hc:=λ w1 hw=>by rw[<- el];exact rR (n:=oI (z.gen+1)) (xs:=[]) (ys:=[]) hgok hgsm p rfl rfl (by simp) (by simp) (λ f hf=>hf) hw)) (λ x70 h70=>?_)));((refine aF ?_;refine aA ?_));refine Nn ?_;refine aH ?_)
     all_goals
      refine bB (λ c73=>?_) (λ c73=>?_)
      · all_goals try (first|contradiction|(exfalso;omega))
        all_goals (refine J0 ?_;refine bG ?_;refine xP ?_)
        all_goals
         refine aZ Tryz.results51 (λ w hw=>?_)
         have hext:=h86.ext
         refine⟨⟨(({a with gen:=a.gen+1}:AS).al (oI (z.gen+1)) [] [] p x70),(({z with gen:=z.gen+1}:XS).al (oI (z.gen+1)) [] [] p x60),(kS 4 t r y ((z.L.length+1:Nat):Int)),x93.1,x93.2.1,x93.2.2.1++(aL x86.2.2.1++((jB (oI (z.gen+1)) [] [] a.cs.length x70).fr++(jB (oI (z.gen+1)) [] [] z.cs.length x60).fr)),x93.2.2.2,x86.1,x86.2.1,x86.2.2.1,x86.2.2.2.1,x86.2.2.2.2⟩,rfl,⟨⟨hzA x60,haA x70,hmA x70 x60,⟨_,rfl⟩,hcZ' x60,λ B hB=>⟨Nat.le_trans (Nat.le_of_eq (hlZ x60)) (Nat.succ_le_succ hB.1),Nat.le_trans (hcZ x60) (Nat.succ_le_succ hB.2.1),by have:=hB.2.2;show z.gen+1<=((B+1:Nat):Int);omega⟩,λ f hf=>?_,h86,⟨x93.2.2.1,λ f hf=>List.mem_append_left _ hf,h93.1⟩,λ f hf=>?_,b9 (by decide) (by decide),rfl,ht,hk1 x60,hk2 x60 y hyl,hk3 x60⟩,⟨r,p,y,hro,hbo,hx,rfl,K8 _ _ _ _ _ _⟩⟩,?_⟩
         · exact .inr ((Vw hf).elim (λ h=>.inr (List.mem_append_right _ (List.mem_append_right _ (List.mem_append_left _ h)))) .inl)
         · have hf':f∈aL x86.2.1.L:=hf
           rw[hext,cZ] at hf'
           rcases List.mem_append.1 hf' with h|h
           · exact .inr ((Vw h).elim (λ h=>.inr (List.mem_append_right _ (List.mem_append_right _ (List.mem_append_right _ h)))) .inl)
           · exact .inr (.inr (List.mem_append_right _ (List.mem_append_left _ h)))
         · exact Oh (O1:=xz x86.2.1) (O2:=eS x93.2.2.2++nK x86.2.1) hw
      · all_goals try (first|contradiction|(exfalso;omega))
        all_goals refine kC ?_
        all_goals
         refine dW [12,75,76] (λ y:Int=>[(12,.int .i64 y)]) (λ y=>y=p∨y=((z.L.length+1:Nat):Int)) (λ _=>[(x8,.cells ⟨[.pointer none,.pointer none]⟩ 76 (0,0)),(x6,.cells ⟨[.int .i64 t.root,.bool t.ro]⟩ 29 (0,0)),(ba,eN (({a with gen:=a.gen+1}:AS).al (oI (z.gen+1)) [] [] p x70)),(bm,xM (({z with gen:=z.gen+1}:XS).al (oI (z.gen+1)) [] [] p x60)),(bw,.cells ⟨.pointer (some ⟨bm,0,none⟩)::rest⟩ 35 (0,0))]) (λ _=>((jB (oI (z.gen+1)) [] [] a.cs.length x70).fr++(jB (oI (z.gen+1)) [] [] z.cs.length x60).fr)) (λ _=>eS (({a with gen:=a.gen+1}:AS).al (oI (z.gen+1)) [] [] p x70)++nK (({z with gen:=z.gen+1}:XS).al (oI (z.gen+1)) [] [] p x60)) (by decide) (λ _=>by exact rfl) ?_ (λ y f hx=>?_)
         · all_goals (refine aT ?_)
           all_goals (refine zA ?_;refine aH ?_)
           all_goals
            refine bB (λ c75=>?_) (λ c75=>?_)
            · all_goals try (first|contradiction|(exfalso;omega))
              all_goals (refine zA ?_;refine J1 ?_)
              all_goals
               refine eP (((z.L.length+1:Nat):Int)) ?_ (hw1:=λ w hw=>hw.back (hF:=by exact aX.iF λ f hf=>by simpa using hf))
               · exact .inr rfl
            · all_goals try (first|contradiction|(exfalso;omega))
              all_goals refine aW ?_
              all_goals
               refine eP (p) ?_ (hw1:=λ w hw=>hw.back (hF:=by exact aX.iF λ f hf=>by simpa using hf))
               · exact .inl rfl
         dsimp only[gU,List.map,List.cons_append,List.nil_append]
         have hyl:y<=(z.L.length:Int)+1:=by omega
        all_goals (refine aT ?_;refine gD [0,1,2,3,4,5,6,7,8,9,10] ?_;refine Yc ?_;refine bM ?_;refine hX ?_;refine aM ?_;refine iO ?_;refine aY (i:=9) (hq:=(v8 (V:=λ q:Nat×XS×List aU×Bool×Rs=>.pointer (some ⟨q.1,0,none⟩)) (hs:=[(bm,xM (({z with gen:=z.gen+1}:XS).al (oI (z.gen+1)) [] [] p x60))]) (os:=nK (({z with gen:=z.gen+1}:XS).al (oI (z.gen+1)) [] [] p x60)) (hs':=λ q=>[(bm,xM q.2.1)]) (Hc:=λ q=>[(q.1,xO (kS 4 t r y ((z.L.length+1:Nat):Int)) bm q.2.1 q.2.2.2.1 q.2.2.2.2)]) (os':=λ q=>nK q.2.1) (Oc:=λ q=>xz q.2.1) (Fc:=λ q=>aL q.2.2.1) (A0:=aL (({z with gen:=z.gen+1}:XS).al (oI (z.gen+1)) [] [] p x60).L) (hA:=bA.of λ f hf=>.inr ((Vw hf).elim (λ h=>.inr (.inl (List.mem_append_right _ h))) λ h=>.inl (hA2 f h))) (hc:=λ w1 hw=>Pp (k:=(kS 4 t r y ((z.L.length+1:Nat):Int))) (m:=0) (L:=(({z with gen:=z.gen+1}:XS).al (oI (z.gen+1)) [] [] p x60).L) (cs:=(({z with gen:=z.gen+1}:XS).al (oI (z.gen+1)) [] [] p x60).cs) (gen:=(({z with gen:=z.gen+1}:XS).al (oI (z.gen+1)) [] [] p x60).gen) (acc:=(({z with gen:=z.gen+1}:XS).al (oI (z.gen+1)) [] [] p x60).acc) ⟨by have:=hlZ x60;omega,by have:=hcZ x60;omega,by show z.gen+1<=_;omega⟩ (b9 (by decide) (by decide)) (by decide) rfl ht (hk1 x60) (hk2 x60 y hyl) (hk3 x60) (λ f hf=>hf) (Vb (hzA x60)) hw))) (h:=λ x86 h86=>?_);refine J7 ?_;refine J2 ?_;refine aB (sn rf (λ w=>Iw _ w)) rfl ?_;refine bO ?_;refine oW ?_;refine aA ?_;refine aC (v8 (V:=λ x:Nat×Cd×Fr×AS=>.pointer (some ⟨x.1,0,none⟩)) (hs:=[(ba,eN (({a with gen:=a.gen+1}:AS).al (oI (z.gen+1)) [] [] p x70))]) (os:=eS (({a with gen:=a.gen+1}:AS).al (oI (z.gen+1)) [] [] p x70)) (hs':=λ x=>[(ba,eN x.2.2.2)]) (Hc:=λ x=>[(x.1,tO ba x.2.1 0)]) (os':=λ x=>eS x.2.2.2) (Oc:=λ _=>[]) (Fc:=λ x=>x.2.2.1) (A0:=aL (({a with gen:=a.gen+1}:AS).al (oI (z.gen+1)) [] [] p x70).L) (hA:=bA.of λ f hf=>.inr ((Vw hf).elim (λ h=>.inr (.inl (List.mem_append_right _ (List.mem_append_left _ h)))) λ h=>.inl (hA1 f h))) (hc:=λ w1 hw=>Vc (Oo (t:=t) (bC:=r) (exp:=y) (nw:=((z.L.length+1:Nat):Int)) (B:=[]) (n:=0) (m:=64) ht (by have:=hlA x70;omega) (by have:=hlA x70;omega) (by have:=hlA x70;omega) (lT (kS 4 t r y ((z.L.length+1:Nat):Int)) 0 (by decide)) (haA x70) (hsA x70) (λ f hf=>hf) (λ x hx=>nomatch hx) hw))) (λ x93 h93=>?_);refine aA ?_;refine bG ?_;refine xP ?_)
        all_goals
         refine aZ Tryz.results51 (λ w hw=>?_)
         have hext:=h86.ext
         refine⟨⟨(({a with gen:=a.gen+1}:AS).al (oI (z.gen+1)) [] [] p x70),(({z with gen:=z.gen+1}:XS).al (oI (z.gen+1)) [] [] p x60),(kS 4 t r y ((z.L.length+1:Nat):Int)),x93.1,x93.2.1,x93.2.2.1++(aL x86.2.2.1++((jB (oI (z.gen+1)) [] [] a.cs.length x70).fr++(jB (oI (z.gen+1)) [] [] z.cs.length x60).fr)),x93.2.2.2,x86.1,x86.2.1,x86.2.2.1,x86.2.2.2.1,x86.2.2.2.2⟩,rfl,⟨⟨hzA x60,haA x70,hmA x70 x60,⟨_,rfl⟩,hcZ' x60,λ B hB=>⟨Nat.le_trans (Nat.le_of_eq (hlZ x60)) (Nat.succ_le_succ hB.1),Nat.le_trans (hcZ x60) (Nat.succ_le_succ hB.2.1),by have:=hB.2.2;show z.gen+1<=((B+1:Nat):Int);omega⟩,λ f hf=>?_,h86,⟨x93.2.2.1,λ f hf=>List.mem_append_left _ hf,h93.1⟩,λ f hf=>?_,b9 (by decide) (by decide),rfl,ht,hk1 x60,hk2 x60 y hyl,hk3 x60⟩,⟨r,p,y,hro,hbo,hx,rfl,K8 _ _ _ _ _ _⟩⟩,?_⟩
         · exact .inr ((Vw hf).elim (λ h=>.inr (List.mem_append_right _ (List.mem_append_right _ (List.mem_append_left _ h)))) .inl)
         · have hf':f∈aL x86.2.1.L:=hf
           rw[hext,cZ] at hf'
           rcases List.mem_append.1 hf' with h|h
           · exact .inr ((Vw h).elim (λ h=>.inr (List.mem_append_right _ (List.mem_append_right _ (List.mem_append_right _ h)))) .inl)
           · exact .inr (.inr (List.mem_append_right _ (List.mem_append_left _ h)))
         · exact Oh (O1:=xz x86.2.1) (O2:=eS x93.2.2.2++nK x86.2.1) hw
end

/- RootSwaps: the walk. -/
section
open Go Go.RowKit Go.Ct
theorem kw.ga{ba:Nat}{a:AS}{z:XS}{q:SW}(h:kw ba a z q):∀f∈aL q.a.L,f.2=[]∨f∈aL a.L∨f∈q.F:=λ f hf=>by
 obtain⟨F0,h1,_,_,h2⟩:=h.tk
 rcases h2.fam f hf with h3|h3|h3
 ·exact .inl h3
 ·exact h.gr f h3
 ·exact .inr (.inr (h1 f h3))
theorem nM.up{b:Nat}{p:Tr×Mm}{a:AS}{B:Fr}{y:Cd×Fr×AS}(h:nM b p a [] y):nM b p a B y:=⟨⟨h.1.1.more λ x hx=>List.mem_append_left _ (by simpa using hx),h.1.2⟩,h.2⟩
theorem xk{ba Bz C:Nat}{S:LS}{q:SW}(hS:D8 ba Bz C S)(h:kw ba S.a S.z q):∃R F0,(∀f∈F0,f∈q.F)/\D8 ba (Bz+65) C ⟨q.a,q.x,S.l++[⟨⟨q.bx,q.k,q.x,q.dn,q.rs,R⟩,0,q.tb,q.c,0⟩],F0++S.B⟩/\q.x.mm=(Ct.iZ (T0 q.k 0) q.z1.mm).2:=by
 obtain⟨F0,h1,h2⟩:=h.tk
 obtain⟨v,hv⟩:=h.ext
 have hle:S.z.mm.Le q.z1.mm:=⟨⟨[v.c],by show q.z1.L.map aU.c=_;rw[hv,List.map_append];rfl⟩,h.cl⟩
 have h3:D8 ba (Bz+1) C ⟨q.a1,q.z1,S.l,S.B⟩:=⟨h.z1,h.a1,h.mm,h.sz _ hS.sz,λ p hp=>(hS.p p hp).wm h.z1 hv,λ p hp=>(hS.rp p hp).le (hS.p p hp).rest hle⟩
 obtain⟨k1,k2,k3,k4,k5,k6⟩:=h.kk
 obtain⟨R,h4,h5,_⟩:=D8.add (bx:=q.bx) (tb:=q.tb) h3 h.rp h2.up k1 (by decide) k2 k3 k4 k5 k6
 exact⟨R,F0,h1,h4,h5⟩
set_option maxRecDepth 100000 in
set_option maxHeartbeats 2000000 in
theorem Pa{l l2:List Int}{a a2:Option Addr}{c c2:Nat}{other:Bool}{w:World}(h1:Go.Ct.Cl w a (aG l))(hl:l.length<=17592186043904)(h2:Go.Ct.Cl w a2 (aG l2))(hl2:l2.length<=17592186043904) :
  Calls Tryz.prog 10 #[.slice a l.length c,.slice a2 l2.length c2,.bool other] w λ e w'=>e=.returned (.bool true)/\St w [] [] w':=by
 refine enter Tryz.func10 Tryz.ntmps10 rfl rfl (SF.s2 h1 h2) ?_
 simp only[bW]
 refine cP ?_;refine iU ?_;refine aC (Sr (V:=λ q:TQ=>.tuple #[.pointer (some ⟨q.bw,0,none⟩),.pointer (some ⟨q.ba,0,none⟩),.agg ⟨[.int .i64 q.t.root,.bool q.t.ro]⟩,.pointer (some ⟨q.tp,0,none⟩)]) (Hc:=λ q=>tqH l2 a2 c2 q) (Fc:=λ q=>aL q.a.L++aL q.W.z.L) (Oc:=λ q=>tqO q) (hc:=λ w1 hw=>Yr (hw.cl (.bC .head)) hl (hw.cl (.bC (.tail .head))) hl2)) (λ x16 h16=>?_)
 have hW:=h16.W
 have hrt:=h16.root
 obtain⟨s1,s2,s3⟩:=hW.sz
 obtain⟨r,p,hro,hbo,hr1,hr2,hp2⟩:=Rt hW (zR h16.j)
 refine Jv ?_;refine J54 ?_;refine aJ (λ x9=>?_);refine oK (λ _=>?_);refine oK (λ _=>?_);refine iA (λ _=>?_);refine hJ ?_;refine J2 ?_;refine kV ?_;refine aA ?_
 (refine aF ?_;refine aE ?_)
 ((refine aF ?_;refine bO ?_));refine cH ?_;refine aH ?_
 refine bB (λ c26=>?_) (λ c26=>?_)
 ·try (first|contradiction|(exfalso;omega))
  refine J2 ?_;refine kW ?_;refine aA ?_
  (refine aF ?_;refine aR (cV (hc:=λ w1 hw=>Ib w1)) (λ x30=>?_))
  refine cH ?_;refine J1 ?_
  refine aQ Tryz.results10 (λ w hw=>?_)
  exact⟨rfl,hw.done⟩
 ·try (first|contradiction|(exfalso;omega))
  refine Ba ?_;refine bO ?_;refine aA ?_;refine aC (v8 (V:=λ q:SW=>.tuple #[.agg ⟨[.pointer (some ⟨q.tb,0,none⟩),.pointer (some ⟨q.bx,0,none⟩)]⟩,.bool true]) (hs:=[(x16.ba,eN x16.a),(x16.bm,xM x16.W.z.a0),(x16.bw,mK x16.bm (x16.m:Int) x16.W.pt x16.W.ts.length x16.W.kt x16.W.pe (rM x16.W.ex).length x16.W.ke)]) (os:=eS x16.a++nK x16.W.z) (hs':=λ q=>[(x16.ba,eN q.a),(x16.bm,xM q.x),(x16.bw,mK x16.bm (x16.m:Int) x16.W.pt x16.W.ts.length x16.W.kt x16.W.pe (rM x16.W.ex).length x16.W.ke)]) (Hc:=λ q=>[(q.tb,tO x16.ba q.c 0),(q.bx,xO q.k x16.bm q.x q.dn q.rs)]) (os':=λ q=>eS q.a++nK q.x) (Oc:=λ q=>xz q.x) (Fc:=λ q=>q.F) (A0:=aL x16.a.L++aL x16.W.z.L) (hA:=bA.of λ f hf=>.inr (.inr (.inl (by simpa using hf)))) (hc:=λ w1 hw=>dp (z:=x16.W.z.a0) (t:=x16.t) (other:=other) (ry hW.z) h16.a h16.mm ⟨by show x16.W.z.L.length<=_;omega,by show x16.W.z.cs.length<=_;omega,by show x16.W.z.gen<=_;omega⟩ (tE hW) hro hbo hr2 hp2 hrt (λ f hf=>List.mem_append_left _ hf) (λ f hf=>List.mem_append_right _ hf) hw)) (λ x37 h37=>?_)
  obtain⟨R,F0,hF0,hL,_⟩:=xk h16.lok h37.1
  have hfa:=h37.1.ga
  have hfz:=h37.1.fz
  refine Jv ?_;refine aJ (λ x11=>?_);refine iA (λ _=>?_);refine hJ ?_;refine dS [(0,[]),(1,[]),(2,[]),(3,[]),(4,[]),(5,[]),(6,[]),(7,[]),(8,[]),(9,[]),(10,[]),(11,[9]),(12,[]),(13,[]),(14,[])] ?_;refine cD (i:=0) (hq:=(cV (hc:=λ w1 hw=>Ib w1))) (h:=λ x40=>?_);refine aM ?_
  (refine aM ?_)
  refine eI ?_;refine aM ?_
  (refine aM ?_)
  ((refine aM ?_));refine vi ?_;((refine bM ?_));((refine cD (i:=11) (hq:=((by exact Hy (λ _=>cK (cs:=Di [(x37.tb,x37.bx)]) Ss I1 rfl rfl rfl rfl rfl)))) (h:=λ x51=>?_)));((((refine cD (i:=12) (hq:=(bE.pre (λ w h=>uq (ba:=x16.ba) (bm:=x16.bm) (a:=x37.a) (p:=⟨⟨x37.bx,x37.k,x37.x,x37.dn,x37.rs,R⟩,0,x37.tb,x37.c,0⟩) (B:=F0++[]) h (by repeat (first|exact List.Sublist.refl _|apply List.Sublist.cons_cons|apply List.Sublist.cons)) (by repeat (exact List.Sublist.refl _))) (cT 0 0 (V:=λ _:LY=>.bool true) (hs:=qP x16.ba x16.bm ⟨x37.a,x37.x,[⟨⟨x37.bx,x37.k,x37.x,x37.dn,x37.rs,R⟩,0,x37.tb,x37.c,0⟩],F0++[]⟩) (os:=tC ⟨x37.a,x37.x,[⟨⟨x37.bx,x37.k,x37.x,x37.dn,x37.rs,R⟩,0,x37.tb,x37.c,0⟩],F0++[]⟩) (A0:=(some ⟨x51,0,none⟩,Di [(x37.tb,x37.bx)])::(none,aG [])::(x37.F++(aL x16.a.L++aL x16.W.z.L))) (hs':=λ y=>qP x16.ba x16.bm y.S) (os':=λ y=>tC y.S) (Fc:=λ y=>y.G) (F1:=λ y=>y.G) (hA:=bA.of λ f hf=>by simp only[List.mem_cons,List.mem_append] at hf;rcases hf with h|h|h|h|h;exact .inr (.inr (.inl (by simp[h])));exact .inl (by rw[h];rfl);exact .inr (.inr (.inl (by simp[h])));exact .inr (.inr (.inl (by simp[h])));exact .inr (.inr (.inl (by simp[h])))) (hF1:=λ y _ f hf=>.inr (List.mem_append_left _ hf)) (hc:=λ w1 hw=>uz (l:=[]) (a:=none) (c:=0) (ps:=[(x37.tb,x37.bx)]) rfl hL (by decide) (by decide) (by show 0<1;decide) (by show 1<=1000;decide) (by show 1<=1;decide) (by show 0<=_;decide) (λ f hf=>(hfa f hf).imp_right λ h=>by simp only[List.mem_cons,List.mem_append];exact h.elim (λ h=>.inr (.inr (.inr (.inl h)))) λ h=>.inr (.inr (.inl h))) (λ f hf=>(hfz f hf).imp_right λ h=>by simp only[List.mem_cons,List.mem_append];exact h.elim (λ h=>.inr (.inr (.inr (.inr h)))) λ h=>.inr (.inr (.inl h))) (λ f hf=>by simp only[List.mem_cons,List.mem_append];exact .inr (.inr (.inl (hF0 f (by simpa using hf))))) (List.mem_cons_self ..) (List.mem_cons_of_mem _ (List.mem_cons_self ..)) hw)))) (h:=λ x52=>?_);try (refine eV (λ h52=>?_))))));refine eI ?_;refine J7 ?_
  refine aQ Tryz.results10 (λ w hw=>?_)
  exact⟨rfl,hw.done⟩
end

end Go.Proofs.YtbajmaoegmbfgaaGreat

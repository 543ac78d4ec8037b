/- The order of keys. -/
import Derived.Test.YtbajmaoegmbfgaaGreatGVw1
import Derived.Test.YtbajmaoegmbfgaaGreatGKw6
import Derived.Test.YtbajmaoegmbfgaaGreatGLr2
import Derived.Test.YtbajmaoegmbfgaaGreatGTape3
import Derived.Test.YtbajmaoegmbfgaaGreatGWr1
import Derived.Test.YtbajmaoegmbfgaaGreatKw8

set_option linter.unusedSimpArgs false
set_option linter.unusedVariables false
namespace Go.Ct
section
open Go Go.RowKit
end
end Go.Ct
namespace Go.Proofs.YtbajmaoegmbfgaaGreat
section
open Go Go.RowKit Go.Ct
end

/- Tries that keep the labels: their I-nodes and their contents. -/
section
open Go.RowKit Go.Ct
section
variable{H:ByteArray->Nat}{σ:Kw}{i m p g:Int}{w:List Nat}{t:fR}
theorem Vj(i0:Inv H σ)(hi:vZ σ i w g):∃p,pS σ.mm.nodes σ.mm.cs i=some p/\pA σ p w g:=by
 have hm:=hi.uc i0
 have hc:=i0.pP hm.1
 have hp:=(i0.ce _ hc.1 hc.2.1).prev _ hc.2.2
 have e1:vR σ.mm.nodes σ.mm.cs i=σ.ce (σ.nd i).main:=rfl
 have e2:oJ σ.mm.nodes σ.mm.cs i=σ.ce (σ.nd (σ.ce (σ.nd i).main)).prev:=rfl
 have e3:yP σ.mm.nodes σ.mm.cs i=if(σ.nd (oJ σ.mm.nodes σ.mm.cs i)).kind=7 then(σ.nd (oJ σ.mm.nodes σ.mm.cs i)).bD else oJ σ.mm.nodes σ.mm.cs i:=rfl
 unfold pS
 rw[if_pos ⟨hi.1.1,by rw[e1];exact hm.1⟩]
 have key:∀q,pY σ (σ.ce (σ.nd i).main) q->pA σ q w g:=λ q hq=>by have:=hq.1;rw[hm.2.1] at this;exact this.le hm.2.2
 by_cases h0:oJ σ.mm.nodes σ.mm.cs i=0
 ·rw[if_pos h0,e1]
  exact⟨_,rfl,hm⟩
 ·rw[if_neg h0,e3]
  rw[e2] at h0 ⊢
  rcases hp.2 with h|h|h
  ·exact absurd h h0
  ·have hk:=h.1.1
   rw[if_neg (cL.ne0 hk).2.1,if_pos hk]
   exact⟨_,rfl,key _ h⟩
  ·rw[if_pos h.1,if_pos h.2.1.1]
   exact⟨_,rfl,key _ h.2⟩
theorem Vd(i0:Inv H σ)(hT:dF σ t):∃r,pD σ.mm.nodes σ.mm.cs t.root=some r/\wS σ r []:=by
 have hv:=(ik hT i0).2
 have e:yL σ.mm.nodes σ.mm.cs t.root=if(σ.nd (σ.ce t.root)).kind=8 then(if σ.ce (σ.nd (σ.ce t.root)).status=1 then(σ.nd (σ.ce t.root)).new else(σ.nd (σ.ce t.root)).bD) else σ.ce t.root:=rfl
 have key:∀r,yL σ.mm.nodes σ.mm.cs t.root=r->wS σ r []->∃r,pD σ.mm.nodes σ.mm.cs t.root=some r/\wS σ r []:=λ r er hr=>⟨r,by unfold pD;rw[er];exact if_pos hr.1,hr⟩
 rcases hv with h|h
 ·exact key _ (e.trans (if_neg (by rw[h.1];decide))) h
 ·have hd:=i0.desc h.1
  by_cases hs:σ.ce (σ.nd (σ.ce t.root)).status=1
  ·exact key _ (e.trans ((if_pos h.1).trans (if_pos hs))) hd.2.2.1
  ·exact key _ (e.trans ((if_pos h.1).trans (if_neg hs))) hd.2.1
end
end

/- The reference of views: the root of a trie, the main node of an I-node, in a proper state. -/
section
open Go Go.RowKit Go.Ct
section
variable{L:List aS}{cs:List Int}{gen:Int}{pn pc:Option Addr}{cn cc:Nat}{w:World}
theorem ib(hp:hY L cs gen)(hr:Yq L)(hl:L.length<=274877906944):StB L cs:=by
 have hd:∀x:Int,D1 x L.length->x<=9223372036854775807:=λ x h=>by have:=h.2;omega
 refine⟨λ c=>?_,λ r=>?_,λ r=>?_,λ r=>?_,λ r=>?_,λ r=>?_,λ r=>?_⟩
 ·unfold bV
  split
  ·exact hd _ (hp.cells _ (by omega))
  ·decide
 ·unfold aD
  split
  ·exact hd _ (hp.nodes (r-1).toNat (by omega)).2.2.2.1
  ·decide
 ·unfold aD
  split
  ·exact hd _ (hp.nodes (r-1).toNat (by omega)).2.2.2.2.2
  ·decide
 ·unfold aD
  split
  ·exact(hr _ (fG (by omega))).main
  ·decide
 ·unfold aD
  split
  ·exact(hr _ (fG (by omega))).prev
  ·decide
 ·unfold aD
  split
  ·exact(hr _ (fG (by omega))).status
  ·decide
 ·unfold aD
  split
  ·intro b hb
   obtain⟨i,hi,rfl⟩:=List.mem_iff_getElem.1 hb
   have:=(hp.nodes (r-1).toNat (by omega)).2.2.1 i hi
   rw[kH,List.getElem?_eq_getElem hi] at this
   exact hd _ this
  ·intro b hb
   cases hb
theorem ew(hp:hY L cs gen)(h:nV w L cs pn pc)(hr:Yq L)(hl:L.length<=274877906944)(hc:cs.length<=274877906944)(c:Int)(ro:Bool){r:Int}(ho:pD (L.map aS.c) cs c=some r)(hi:c<=9223372036854775807):Calls Tryz.prog 44 #[Tl L cs gen pn cn pc cc,.agg ⟨[.int .i64 c,.bool ro]⟩] w λ e w'=>e=.returned (.tuple #[.int .i64 r,.bool true])/\St w [] [] w':=by
 refine enter Tryz.func44 Tryz.ntmps44 rfl rfl h.start ?_
 simp only[bX]
 simp only[Tl]
 refine J0 ?_;refine bL (λ x2=>?_);refine bL (λ x3=>?_);refine J8 ?_;refine aT ?_;refine nX ?_;refine aC (c0 (V:=.bool) (hc:=λ w1 hw=>Db (h.Km hw) hr hl hc)) (λ x7 h7=>?_);refine oK ?_
 refine bC (λ c8=>?_) (λ c8=>?_)
 ·rw[h7.2 hp] at c8;cases c8
 ·refine aX ?_;refine nX ?_;refine bN ?_;refine aP (cV (hc:=λ w1 hw=>oi (h.Km hw) (ib hp hr hl) hl hc c ro hi)) (λ x11=>?_);refine J54 ?_;refine J8 ?_
  refine bB Tryz.results44 (λ w hw=>?_)
  exact⟨by rw[ho];rfl,hw.done⟩
theorem ad(hp:hY L cs gen)(h:nV w L cs pn pc)(hr:Yq L)(hl:L.length<=274877906944)(hc:cs.length<=274877906944)(i:Int){r:Int}(ho:pS (L.map aS.c) cs i=some r)(hi:i<=9223372036854775807):Calls Tryz.prog 31 #[Tl L cs gen pn cn pc cc,.int .i64 i] w λ e w'=>e=.returned (.tuple #[.int .i64 r,.bool true])/\St w [] [] w':=by
 refine enter Tryz.func31 Tryz.ntmps31 rfl rfl h.start ?_
 simp only[bX]
 simp only[Tl]
 refine J0 ?_;refine bL (λ x2=>?_);refine J8 ?_;refine aT ?_;refine nX ?_;refine aC (c0 (V:=.bool) (hc:=λ w1 hw=>Db (h.Km hw) hr hl hc)) (λ x7 h7=>?_);refine oK ?_
 refine bC (λ c8=>?_) (λ c8=>?_)
 ·rw[h7.2 hp] at c8;cases c8
 ·refine aX ?_;refine Dz ?_;refine aP (cV (hc:=λ w1 hw=>qn (h.Km hw) (ib hp hr hl) hl hc i hi)) (λ x11=>?_);refine J54 ?_;refine J8 ?_
  refine bB Tryz.results31 (λ w hw=>?_)
  exact⟨by rw[ho];rfl,hw.done⟩
end
end

/- The laws of root: a swap begins, on the arena and on the memory. -/
end Go.Proofs.YtbajmaoegmbfgaaGreat
namespace Go.Ct
section
open Go Go.RowKit
abbrev XS.al(z:XS)(n:Nd)(xs:List Int)(ys:List Pr)(init:Int)(x:AX):XS:={z with L:=z.L++[jK n xs ys z.cs.length x],cs:=fM n.kind z.cs init,pn:=x.pn,cn:=x.cn,pc:=x.pc,cc:=x.cc}
theorem Lj(z:XS)(n:Nd)(xs:List Int)(ys:List Pr)(init:Int)(x:AX):(z.al n xs ys init x).mm=z.mm.push (n.c xs ys) init:=by
 unfold XS.mm Mm.push
 simp only[List.map_append]
 rfl
theorem XS.Ok.al{z:XS}(ok:z.Ok){n:Nd}{xs:List Int}{ys:List Pr}{init:Int}(x:AX)(hx:xs.length<=274877906944)(hy:ys.length<=z.L.length)(hl:z.L.length<=100000000000)(hcl:z.cs.length<=100000000000)(hb:lJ z.L.length z.cs.length {n.c xs ys with main:=0,prev:=0,status:=0})(hi:init<=z.L.length+1):(z.al n xs ys init x).Ok:=by
 have hlen:(z.L++[jK n xs ys z.cs.length x]).length=z.L.length+1:=by simp
 have hcs:=gX (k:=n.kind) (cs:=z.cs) (init:=init)
 refine⟨λ v hv=>?_,λ v hv=>?_,λ v hv=>?_,λ v hv=>?_,λ v hv=>?_,?_,?_,?_,ok.lg,ok.la,ok.lm,ok.lk,ok.le,ok.fr,λ v hv=>?_,ok.gen0,ok.ms,ok.m1⟩
 ·rcases List.mem_append.1 hv with hv|hv
  ·exact ok.fit v hv
  ·rw[List.mem_singleton.1 hv];exact H0 (by omega) (by omega)
 ·show lJ (z.L++[jK n xs ys z.cs.length x]).length (fM n.kind z.cs init).length v.c
  rcases List.mem_append.1 hv with hv|hv
  ·exact(ok.nd v hv).mono (by omega) hcs.1
  ·rw[List.mem_singleton.1 hv]
   exact bh (v:=n.c xs ys) hb rfl hlen.symm
 ·show v<=((z.L++[jK n xs ys z.cs.length x]).length:Int)
  have hv':v∈fM n.kind z.cs init:=hv
  unfold fM at hv'
  split at hv'
  ·rcases List.mem_append.1 hv' with h|h
   ·have:=ok.cs v h;omega
   ·rw[List.mem_singleton.1 h];omega
  ·have:=ok.cs v hv';omega
 ·have:=ok.got v hv
  show v<=((z.L++[jK n xs ys z.cs.length x]).length:Int);omega
 ·have:=ok.made v hv
  show v<=((z.L++[jK n xs ys z.cs.length x]).length:Int);omega
 ·have:=ok.two
  show 2<=(z.L++[jK n xs ys z.cs.length x]).length;omega
 ·show(z.L++[jK n xs ys z.cs.length x]).length<=_;omega
 ·show(fM n.kind z.cs init).length<=_;omega
 ·show v.ys.length<=(z.L++[jK n xs ys z.cs.length x]).length
  rcases List.mem_append.1 hv with hv|hv
  ·have:=ok.ys v hv;omega
  ·rw[List.mem_singleton.1 hv]
   show ys.length<=_
   omega
end
end Go.Ct
namespace Go.Proofs.YtbajmaoegmbfgaaGreat
section
open Go Go.RowKit Go.Ct
theorem Vh{x:XS}(h:x.Ok):Yq x.L:=λ v hv=>by
 have hb:=h.nd v hv
 have h1:=hb.main
 have h2:=hb.prev
 have h3:=hb.status
 have h4:=h.lc
 have e1:v.c.main=v.nd.main:=rfl
 have e2:v.c.prev=v.nd.prev:=rfl
 have e3:v.c.status=v.nd.status:=rfl
 exact⟨hb.bm,by omega,by omega,by omega⟩
theorem Ye{L:List aS}{v:aS}{f:Option Addr×List Value}(h:f∈aK (L++[v])):f∈v.fr∨f∈aK L:=by
 rw[cS] at h
 rcases List.mem_append.1 h with h|h
 ·exact .inr h
 ·exact .inl (by simpa[aK] using h)
def kS(kind:Int)(t:fR)(a b n:Int):Cl:=⟨kind,t,a,b,n,0,0,0,⟨#[]⟩,0,0,0,false⟩
theorem Zx{kind:Int}{t:fR}{a b n:Int}(h1:1<=kind)(h2:kind<=4):Ue (kS kind t a b n):=.inl ⟨h1,h2⟩
structure SW where
 a1:AS
 z1:XS
 k:Cl
 tb:Nat
 c:Cd
 F:Fr
 a:AS
 bx:Nat
 x:XS
 N:List aS
 dn:Bool
 rs:Rs
structure R7(ba:Nat)(a:AS)(z:XS)(q:SW):Prop where
 z1:q.z1.Ok
 a1:q.a1.Ok
 mm:q.a1.mm=q.z1.mm
 ext:∃v,q.z1.L=z.L++[v]
 cl:z.cs.length<=q.z1.cs.length
 sz:∀B,Sz z B->Sz q.z1 (B+1)
 gr:∀f∈aK q.a1.L,f.2=[]∨f∈aK a.L∨f∈q.F
 rp:sG (T0 q.k 0) (T0 q.k 0) 0 0 Rs.zero (XS.new q.z1.L q.z1.cs q.z1.gen q.z1.acc q.z1.pn q.z1.cn q.z1.pc q.z1.cc) q.x q.N q.dn q.rs
 tk:∃F0,(∀f∈F0,f∈q.F)/\mH ba (Ct.iU (T0 q.k 0) q.a1.mm) q.a1 [] (q.c,F0,q.a)
 fz:∀f∈aK q.x.L,f.2=[]∨f∈aK z.L∨f∈q.F
 kk:Ue q.k/\q.k.mask=((0:Nat):Int)/\q.k.t.root<=9223372036854775807/\q.k.a<=q.z1.L.length/\q.k.b<=q.z1.L.length/\q.k.n<=q.z1.L.length
def SWK(t:fR)(z:XS)(q:SW):Prop:=∃r p y:Int,pD (z.L.map aS.c) z.cs t.root=some r/\pS (z.L.map aS.c) z.cs r=some p/\(y=p∨y=((z.L.length+1:Nat):Int))/\q.k=kS 4 t r y ((z.L.length+1:Nat):Int)/\q.z1.mm=(Mm.mk (z.L.map aS.c) z.cs (z.gen+1)).push (oA (z.gen+1)) p
abbrev oZ(g:Int):Nd:={Nd.zero with kind:=2,gen:=g}
theorem ug(g:Int)(n c:Nat):lJ n c {(oZ g).c [] [] with main:=0,prev:=0,status:=0}:=⟨bH _,bH _,bH _,(λ r hr=>nomatch hr),bH _,bH _,bH _,⟨0,rfl,by decide⟩,⟨0,rfl,by decide⟩⟩
theorem Pg{g:Int}(h0:0<=g)(h1:g<=1000000000000):up g=g+1:=by unfold up;exact wrap_i64 (by omega) (by omega)
theorem Sr{w:World}{D:List Nat}{b:Nat}{A:Fr}{z:XS}(h0:0<=z.gen)(h1:z.gen<=1000000000000)(hs:SF w D [(b,xM z)] A [] (iI z) w):Calls Tryz.prog 100 #[.pointer (some ⟨b,0,none⟩)] w λ e w'=>∃q:Unit,e=.returned (.int .i64 (z.gen+1))/\True/\SF w D [(b,xM {z with gen:=z.gen+1})] [] [] (iI z) w':=by
 have:=Bp hs
 rw[Pg h0 h1] at this
 exact this
theorem Sn{w:World}{D:List Nat}{b:Nat}{A:Fr}{a:AS}(h0:0<=a.gen)(h1:a.gen<=1000000000000)(hs:SF w D [(b,dS a)] A [] (dZ a) w):Calls Tryz.prog 47 #[.pointer (some ⟨b,0,none⟩)] w λ e w'=>∃q:Unit,e=.returned (.int .i64 (a.gen+1))/\True/\SF w D [(b,dS {a with gen:=a.gen+1})] [] [] (dZ a) w':=by
 have:=X6 hs
 rw[Pg h0 h1] at this
 exact this
theorem ya{w0 w:World}{M:List Nat}{H:List (Nat×Obj)}{A F:Fr}{a:AS}{z:XS}(h:SF w0 M H A F (dZ a++iI z) w):SF w0 M H A F [⟨a.pn,gS a.L,a.cn,47,14⟩,⟨a.pc,aH a.cs,a.cc,37,1⟩,⟨z.pn,gS z.L,z.cn,47,14⟩,⟨z.pc,aH z.cs,z.cc,37,1⟩] w:=h
theorem Na{w0 w:World}{M:List Nat}{A F:Fr}{t e x y a b c:Nat×Obj}{O1 O2:List Ow}(h:SF w0 M [t,e,x,y,a,b,c] A F (O1++O2) w):SF w0 M ([a,b,c]++[t,e]) [] F (O2++O1) w :=
 ((h.sub (H':=[t,e,a,b,c]) (.cons_cons _ (.cons_cons _ (.cons _ (.cons _ (List.Sublist.refl _))))) aY.all (List.Sublist.refl _)).perm (List.perm_append_comm (l₁:=[a,b,c]) (l₂:=[t,e])) List.perm_append_comm).ly
set_option maxRecDepth 100000 in
set_option maxHeartbeats 4000000 in
theorem rF{ba bm bw:Nat}{a:AS}{z:XS}{t:fR}{r p:Int}{other:Bool}{D:List Nat}{A:Fr}{w:World}{rest:List Value}(hz:z.Ok)(ha:a.Ok)(hm:a.mm=z.mm)(hsz:Sz z 90000000000)(hp:hY z.L z.cs z.gen)(hro:pD (z.L.map aS.c) z.cs t.root=some r)(hbo:pS (z.L.map aS.c) z.cs r=some p)(hr:r<=z.L.length)(hpl:p<=z.L.length)(ht:t.root<=9223372036854775807)(hA1:∀f∈aK a.L,f∈A)(hA2:∀f∈aK z.L,f∈A)
    (hs:SF w D [(ba,dS a),(bm,xM z),(bw,.cells ⟨.pointer (some ⟨bm,0,none⟩)::rest⟩ 35 (0,0))] A [] (dZ a++iI z) w) :
    Calls Tryz.prog 51 #[.pointer (some ⟨bw,0,none⟩),.pointer (some ⟨ba,0,none⟩),.agg ⟨[.int .i64 t.root,.bool t.ro]⟩,.bool other] w λ e w'=>∃q:SW,e=.returned (.tuple #[.agg ⟨[.pointer (some ⟨q.tb,0,none⟩),.pointer (some ⟨q.bx,0,none⟩)]⟩,.bool true])/\(R7 ba a z q/\SWK t z q) /\
      SF w D ([(ba,dS q.a),(bm,xM q.x),(bw,.cells ⟨.pointer (some ⟨bm,0,none⟩)::rest⟩ 35 (0,0))]++[(q.tb,tO ba q.c 0),(q.bx,xO q.k bm q.x q.dn q.rs)]) [] q.F ((dZ q.a++iI q.x)++Pn q.x) w':=by
  obtain⟨s1,s2,s3⟩:=hsz
  have g0:=hz.gen0
  have eg:a.gen=z.gen:=congrArg Mm.gen hm
  have ec:a.cs=z.cs:=congrArg Mm.cs hm
  have el:a.mm.nodes.length=z.L.length:=by rw[hm];show(z.L.map aS.c).length=_;rw[List.length_map]
  have hgok:({a with gen:=a.gen+1}:AS).Ok:=⟨ha.fit,⟨ha.mo.nd,ha.mo.cs,ha.mo.two⟩⟩
  have hgsm:({a with gen:=a.gen+1}:AS).mm.Small:=⟨by show a.mm.nodes.length<=_;omega,by show a.cs.length<=_;rw[ec];omega⟩
  have haA:∀x:AX,(({a with gen:=a.gen+1}:AS).al (oZ (z.gen+1)) [] [] p x).Ok:=λ x=>hgok.al x (by simp) (by simp) (ug _ _ _) (by show p<=(a.mm.nodes.length:Int)+1;omega)
  have hzg:({z with gen:=z.gen+1}:XS).Ok:=⟨hz.fit,hz.nd,hz.cs,hz.got,hz.made,hz.two,hz.lL,hz.lc,hz.lg,hz.la,hz.lm,hz.lk,hz.le,hz.fr,hz.ys,by show 0<=z.gen+1;omega,hz.ms,hz.m1⟩
  have hzA:∀x:AX,(({z with gen:=z.gen+1}:XS).al (oZ (z.gen+1)) [] [] p x).Ok:=λ x=>hzg.al x (by simp) (Nat.zero_le _) (by show z.L.length<=_;omega) (by show z.cs.length<=_;omega) (ug _ _ _) (by show p<=(z.L.length:Int)+1;omega)
  have hmA:∀x y:AX,(({a with gen:=a.gen+1}:AS).al (oZ (z.gen+1)) [] [] p x).mm=(({z with gen:=z.gen+1}:XS).al (oZ (z.gen+1)) [] [] p y).mm:=λ x y=>by
    rw[oP,Lj]
    have:({a with gen:=a.gen+1}:AS).mm=({z with gen:=z.gen+1}:XS).mm:=by
      show Mm.mk a.mm.nodes a.mm.cs (a.gen+1)=Mm.mk z.mm.nodes z.mm.cs (z.gen+1)
      rw[hm,eg]
    rw[this]
  have hlA:∀x:AX,(({a with gen:=a.gen+1}:AS).al (oZ (z.gen+1)) [] [] p x).mm.nodes.length=z.L.length+1:=λ x=>by
    rw[hmA x x]
    show((z.L++[_]).map aS.c).length=_
    simp
  have hlZ:∀x:AX,(({z with gen:=z.gen+1}:XS).al (oZ (z.gen+1)) [] [] p x).L.length=z.L.length+1:=λ x=>by
    show(z.L++[_]).length=_
    simp
  have hk1:∀x:AX,r<=((({z with gen:=z.gen+1}:XS).al (oZ (z.gen+1)) [] [] p x).L.length:Int):=λ x=>by rw[hlZ x];omega
  have hk2:∀x:AX,∀y:Int,y<=z.L.length+1->y<=((({z with gen:=z.gen+1}:XS).al (oZ (z.gen+1)) [] [] p x).L.length:Int):=λ x y h=>by rw[hlZ x];omega
  have hk3:∀x:AX,((z.L.length+1:Nat):Int)<=((({z with gen:=z.gen+1}:XS).al (oZ (z.gen+1)) [] [] p x).L.length:Int):=λ x=>by rw[hlZ x];omega
  have hcZ:∀x:AX,(({z with gen:=z.gen+1}:XS).al (oZ (z.gen+1)) [] [] p x).cs.length<=z.cs.length+1:=λ x=>by
    have h:=gX (k:=(oZ (z.gen+1)).kind) (cs:=z.cs) (init:=p)
    exact h.2
  have hcZ':∀x:AX,z.cs.length<=(({z with gen:=z.gen+1}:XS).al (oZ (z.gen+1)) [] [] p x).cs.length:=λ x=>by
    have h:=gX (k:=(oZ (z.gen+1)).kind) (cs:=z.cs) (init:=p)
    exact h.1
  have hsA:∀x:AX,(({a with gen:=a.gen+1}:AS).al (oZ (z.gen+1)) [] [] p x).mm.Small:=λ x=>by
    refine⟨by rw[hlA];omega,?_⟩
    rw[hmA x x]
    have:=hcZ x
    show(({z with gen:=z.gen+1}:XS).al (oZ (z.gen+1)) [] [] p x).cs.length<=_
    omega
  refine enter Tryz.func51 Tryz.ntmps51 rfl rfl (ya hs) ?_
  simp only[bX]
  all_goals (refine J0 ?_;refine bL (λ x6=>?_);refine aI (λ x8=>?_);refine hZ ?_;refine gF [0,1,2,3,4,5,6,7,8,9,10,11,12,13] ?_;refine Yb ?_;refine J4 ?_;refine bS (i:=6) (hq:=(aN (k:=3) rf cN dI (by simp only[List.drop_zero,List.take_succ_cons,List.take_zero];exact rfl) rfl)) (h:=?_);refine bK ?_;refine cB (i:=8) (hq:=(cV (v:=.tuple #[.int .i64 r,.bool true]) (hc:=λ w1 hw=>ew hp (hw.Gf (.inr (.inr (.inr ⟨_,.tail _ (.tail _ (.head _)),rfl,rfl⟩))) (.inr (.inr (.inr ⟨_,.tail _ (.tail _ (.tail _ (.head _))),rfl,rfl⟩))) (λ f hf=>.inr (.inl (hA2 f hf))) hz.fit) (Vh hz) (by omega) (by omega) _ _ hro ht))) (h:=λ x26=>?_);refine aM ?_;refine gV ?_;refine gV ?_;refine l9 ?_;refine kO ?_;refine Lv ?_;refine aB (aN (k:=3) rf cN dI (by simp only[List.drop_zero,List.take_succ_cons,List.take_zero];exact rfl) rfl) rfl ?_;refine aA ?_;refine aP (cV (v:=.tuple #[.int .i64 p,.bool true]) (hc:=λ w1 hw=>ad hp (hw.Gf (.inr (.inr (.inr ⟨_,.tail _ (.tail _ (.head _)),rfl,rfl⟩))) (.inr (.inr (.inr ⟨_,.tail _ (.tail _ (.tail _ (.head _))),rfl,rfl⟩))) (λ f hf=>.inr (.inl (hA2 f hf))) hz.fit) (Vh hz) (by omega) (by omega) _ hbo (by omega))) (λ x38=>?_);refine Lw ?_;refine J8 ?_;refine kY ?_;refine Eh ?_)
  all_goals ((refine aF ?_;refine aA ?_))
  all_goals (refine M0 ?_;refine aG ?_)
  all_goals
   refine bC (λ c46=>?_) (λ c46=>?_)
   · exact nv c46
   · all_goals try (first|contradiction|(exfalso;omega))
     all_goals (refine oa ?_;refine aC (cM (V:=λ _:Unit=>.int .i64 (z.gen+1)) (hs:=[(bm,xM z)]) (os:=iI z) (hs':=λ _=>[(bm,xM {z with gen:=z.gen+1})]) (os':=λ _=>iI z) (Fc:=λ _=>[]) (A0:=[]) (hc:=λ w1 hw=>Sr g0 (by omega) hw)) (λ x52 h52=>?_);refine J1 ?_;refine kO ?_;refine aA ?_;refine bG ?_;refine aA ?_;refine aC (cM (V:=λ _:AX=>.int .i64 ((z.L.length+1:Nat):Int)) (hs:=[(bm,xM {z with gen:=z.gen+1})]) (os:=iI z) (A0:=[(none,aH []),(none,dC [])]) (hs':=λ x=>[(bm,xM (({z with gen:=z.gen+1}:XS).al (oZ (z.gen+1)) [] [] p x))]) (os':=λ x=>iI (({z with gen:=z.gen+1}:XS).al (oZ (z.gen+1)) [] [] p x)) (Fc:=λ x=>(jK (oZ (z.gen+1)) [] [] z.cs.length x).fr) (hc:=λ w1 hw=>Bb (n:=oZ (z.gen+1)) (xs:=[]) (ys:=[]) p hw rfl rfl (by simp) (by simp) (by show z.L.length<=_;omega) (by show z.cs.length<=_;omega))) (λ x60 h60=>?_);refine hZ ?_;refine J2 ?_;refine aC (cM (V:=λ _:Unit=>.int .i64 (z.gen+1)) (hs:=[(ba,dS a)]) (os:=dZ a) (hs':=λ _=>[(ba,dS {a with gen:=a.gen+1})]) (os':=λ _=>dZ a) (Fc:=λ _=>[]) (A0:=[]) (hc:=λ w1 hw=>by rw[<- eg];exact Sn (by omega) (by omega) hw)) (λ x62 h62=>?_);refine aA ?_;refine kM ?_;refine aA ?_)
     all_goals ((refine eI 65 (λ g65=>?_) (λ g65=>?_)<;>(try (first|contradiction|(exfalso;omega)))<;>((refine aF ?_;refine aA ?_))))
     all_goals (((refine aF ?_;refine aA ?_));((refine aF ?_;refine bG ?_));((refine aF ?_;refine aA ?_));((refine aF ?_;refine aC (cM (V:=λ _:AX=>.int .i64 ((z.L.length+1:Nat):Int)) (hs:=[(ba,dS {a with gen:=a.gen+1})]) (os:=dZ a) (A0:=[(none,aH []),(none,dC [])]) (hs':=λ x=>[(ba,dS (({a with gen:=a.gen+1}:AS).al (oZ (z.gen+1)) [] [] p x))]) (os':=λ x=>dZ (({a with gen:=a.gen+1}:AS).al (oZ (z.gen+1)) [] [] p x)) (Fc:=λ x=>(jK (oZ (z.gen+1)) [] [] a.cs.length x).fr) (hc:=λ w1 hw=>by rw[<- el];exact rY (n:=oZ (z.gen+1)) (xs:=[]) (ys:=[]) hgok hgsm p rfl rfl (by simp) (by simp) (λ f hf=>hf) hw)) (λ x70 h70=>?_)));((refine aF ?_;refine aA ?_));refine Of ?_;refine aG ?_)
     all_goals
      refine bC (λ c73=>?_) (λ c73=>?_)
      · all_goals try (first|contradiction|(exfalso;omega))
        all_goals (refine J0 ?_;refine bG ?_;refine yA ?_)
        all_goals
         refine bB Tryz.results51 (λ w hw=>?_)
         have hext:=h86.ext
         refine⟨⟨(({a with gen:=a.gen+1}:AS).al (oZ (z.gen+1)) [] [] p x70),(({z with gen:=z.gen+1}:XS).al (oZ (z.gen+1)) [] [] p x60),(kS 4 t r y ((z.L.length+1:Nat):Int)),x93.1,x93.2.1,x93.2.2.1++(aK x86.2.2.1++((jK (oZ (z.gen+1)) [] [] a.cs.length x70).fr++(jK (oZ (z.gen+1)) [] [] z.cs.length x60).fr)),x93.2.2.2,x86.1,x86.2.1,x86.2.2.1,x86.2.2.2.1,x86.2.2.2.2⟩,rfl,⟨⟨hzA x60,haA x70,hmA x70 x60,⟨_,rfl⟩,hcZ' x60,λ B hB=>⟨Nat.le_trans (Nat.le_of_eq (hlZ x60)) (Nat.succ_le_succ hB.1),Nat.le_trans (hcZ x60) (Nat.succ_le_succ hB.2.1),by have:=hB.2.2;show z.gen+1<=((B+1:Nat):Int);omega⟩,λ f hf=>?_,h86,⟨x93.2.2.1,λ f hf=>List.mem_append_left _ hf,h93.1⟩,λ f hf=>?_,Zx (by decide) (by decide),rfl,ht,hk1 x60,hk2 x60 y hyl,hk3 x60⟩,⟨r,p,y,hro,hbo,hx,rfl,Lj _ _ _ _ _ _⟩⟩,?_⟩
         · exact .inr ((Ye hf).elim (λ h=>.inr (List.mem_append_right _ (List.mem_append_right _ (List.mem_append_left _ h)))) .inl)
         · have hf':f∈aK x86.2.1.L:=hf
           rw[hext,cS] at hf'
           rcases List.mem_append.1 hf' with h|h
           · exact .inr ((Ye h).elim (λ h=>.inr (List.mem_append_right _ (List.mem_append_right _ (List.mem_append_right _ h)))) .inl)
           · exact .inr (.inr (List.mem_append_right _ (List.mem_append_left _ h)))
         · exact Na (O1:=Pn x86.2.1) (O2:=dZ x93.2.2.2++iI x86.2.1) hw
      · all_goals try (first|contradiction|(exfalso;omega))
        all_goals refine kG ?_
        all_goals
         refine dJ [12,75,76] (λ y:Int=>[(12,.int .i64 y)]) (λ y=>y=p∨y=((z.L.length+1:Nat):Int)) (λ _=>[(x8,.cells ⟨[.pointer none,.pointer none]⟩ 76 (0,0)),(x6,.cells ⟨[.int .i64 t.root,.bool t.ro]⟩ 29 (0,0)),(ba,dS (({a with gen:=a.gen+1}:AS).al (oZ (z.gen+1)) [] [] p x70)),(bm,xM (({z with gen:=z.gen+1}:XS).al (oZ (z.gen+1)) [] [] p x60)),(bw,.cells ⟨.pointer (some ⟨bm,0,none⟩)::rest⟩ 35 (0,0))]) (λ _=>((jK (oZ (z.gen+1)) [] [] a.cs.length x70).fr++(jK (oZ (z.gen+1)) [] [] z.cs.length x60).fr)) (λ _=>dZ (({a with gen:=a.gen+1}:AS).al (oZ (z.gen+1)) [] [] p x70)++iI (({z with gen:=z.gen+1}:XS).al (oZ (z.gen+1)) [] [] p x60)) (by decide) (λ _=>by exact rfl) ?_ (λ y f hx=>?_)
         · all_goals (refine aT ?_)
           all_goals (refine zL ?_;refine aG ?_)
           all_goals
            refine bC (λ c75=>?_) (λ c75=>?_)
            · all_goals try (first|contradiction|(exfalso;omega))
              all_goals (refine zL ?_;refine J1 ?_)
              all_goals
               refine eC (((z.L.length+1:Nat):Int)) ?_ (hw1:=λ w hw=>hw.back (hF:=by exact aY.iB λ f hf=>by simpa using hf))
               · exact .inr rfl
            · all_goals try (first|contradiction|(exfalso;omega))
              all_goals refine aX ?_
              all_goals
               refine eC (p) ?_ (hw1:=λ w hw=>hw.back (hF:=by exact aY.iB λ f hf=>by simpa using hf))
               · exact .inl rfl
         dsimp only[gP,List.map,List.cons_append,List.nil_append]
         have hyl:y<=(z.L.length:Int)+1:=by omega
        all_goals (refine aT ?_;refine gF [0,1,2,3,4,5,6,7,8,9,10] ?_;refine Yb ?_;refine bK ?_;refine gT ?_;refine aM ?_;refine fX ?_;refine aZ (i:=9) (hq:=(M1 (V:=λ q:Nat×XS×List aS×Bool×Rs=>.pointer (some ⟨q.1,0,none⟩)) (hs:=[(bm,xM (({z with gen:=z.gen+1}:XS).al (oZ (z.gen+1)) [] [] p x60))]) (os:=iI (({z with gen:=z.gen+1}:XS).al (oZ (z.gen+1)) [] [] p x60)) (hs':=λ q=>[(bm,xM q.2.1)]) (Hc:=λ q=>[(q.1,xO (kS 4 t r y ((z.L.length+1:Nat):Int)) bm q.2.1 q.2.2.2.1 q.2.2.2.2)]) (os':=λ q=>iI q.2.1) (Oc:=λ q=>Pn q.2.1) (Fc:=λ q=>aK q.2.2.1) (A0:=aK (({z with gen:=z.gen+1}:XS).al (oZ (z.gen+1)) [] [] p x60).L) (hA:=aW.of λ f hf=>.inr ((Ye hf).elim (λ h=>.inr (.inl (List.mem_append_right _ h))) λ h=>.inl (hA2 f h))) (hc:=λ w1 hw=>vF (k:=(kS 4 t r y ((z.L.length+1:Nat):Int))) (m:=0) (L:=(({z with gen:=z.gen+1}:XS).al (oZ (z.gen+1)) [] [] p x60).L) (cs:=(({z with gen:=z.gen+1}:XS).al (oZ (z.gen+1)) [] [] p x60).cs) (gen:=(({z with gen:=z.gen+1}:XS).al (oZ (z.gen+1)) [] [] p x60).gen) (acc:=(({z with gen:=z.gen+1}:XS).al (oZ (z.gen+1)) [] [] p x60).acc) ⟨by have:=hlZ x60;omega,by have:=hcZ x60;omega,by show z.gen+1<=_;omega⟩ (Zx (by decide) (by decide)) (by decide) rfl ht (hk1 x60) (hk2 x60 y hyl) (hk3 x60) (λ f hf=>hf) (zX (hzA x60)) hw))) (h:=λ x86 h86=>?_);refine J7 ?_;refine J2 ?_;refine aB (jg rf (λ w=>B3 _ w)) rfl ?_;refine bN ?_;refine pE ?_;refine aA ?_;refine aC (M1 (V:=λ x:Nat×Cd×Fr×AS=>.pointer (some ⟨x.1,0,none⟩)) (hs:=[(ba,dS (({a with gen:=a.gen+1}:AS).al (oZ (z.gen+1)) [] [] p x70))]) (os:=dZ (({a with gen:=a.gen+1}:AS).al (oZ (z.gen+1)) [] [] p x70)) (hs':=λ x=>[(ba,dS x.2.2.2)]) (Hc:=λ x=>[(x.1,tO ba x.2.1 0)]) (os':=λ x=>dZ x.2.2.2) (Oc:=λ _=>[]) (Fc:=λ x=>x.2.2.1) (A0:=aK (({a with gen:=a.gen+1}:AS).al (oZ (z.gen+1)) [] [] p x70).L) (hA:=aW.of λ f hf=>.inr ((Ye hf).elim (λ h=>.inr (.inl (List.mem_append_right _ (List.mem_append_left _ h)))) λ h=>.inl (hA1 f h))) (hc:=λ w1 hw=>Ej (Oz (t:=t) (bD:=r) (exp:=y) (nw:=((z.L.length+1:Nat):Int)) (B:=[]) (n:=0) (m:=64) ht (by have:=hlA x70;omega) (by have:=hlA x70;omega) (by have:=hlA x70;omega) (jX (kS 4 t r y ((z.L.length+1:Nat):Int)) 0 (by decide)) (haA x70) (hsA x70) (λ f hf=>hf) (λ x hx=>nomatch hx) hw))) (λ x93 h93=>?_);refine aA ?_;refine bG ?_;refine yA ?_)
        all_goals
         refine bB Tryz.results51 (λ w hw=>?_)
         have hext:=h86.ext
         refine⟨⟨(({a with gen:=a.gen+1}:AS).al (oZ (z.gen+1)) [] [] p x70),(({z with gen:=z.gen+1}:XS).al (oZ (z.gen+1)) [] [] p x60),(kS 4 t r y ((z.L.length+1:Nat):Int)),x93.1,x93.2.1,x93.2.2.1++(aK x86.2.2.1++((jK (oZ (z.gen+1)) [] [] a.cs.length x70).fr++(jK (oZ (z.gen+1)) [] [] z.cs.length x60).fr)),x93.2.2.2,x86.1,x86.2.1,x86.2.2.1,x86.2.2.2.1,x86.2.2.2.2⟩,rfl,⟨⟨hzA x60,haA x70,hmA x70 x60,⟨_,rfl⟩,hcZ' x60,λ B hB=>⟨Nat.le_trans (Nat.le_of_eq (hlZ x60)) (Nat.succ_le_succ hB.1),Nat.le_trans (hcZ x60) (Nat.succ_le_succ hB.2.1),by have:=hB.2.2;show z.gen+1<=((B+1:Nat):Int);omega⟩,λ f hf=>?_,h86,⟨x93.2.2.1,λ f hf=>List.mem_append_left _ hf,h93.1⟩,λ f hf=>?_,Zx (by decide) (by decide),rfl,ht,hk1 x60,hk2 x60 y hyl,hk3 x60⟩,⟨r,p,y,hro,hbo,hx,rfl,Lj _ _ _ _ _ _⟩⟩,?_⟩
         · exact .inr ((Ye hf).elim (λ h=>.inr (List.mem_append_right _ (List.mem_append_right _ (List.mem_append_left _ h)))) .inl)
         · have hf':f∈aK x86.2.1.L:=hf
           rw[hext,cS] at hf'
           rcases List.mem_append.1 hf' with h|h
           · exact .inr ((Ye h).elim (λ h=>.inr (List.mem_append_right _ (List.mem_append_right _ (List.mem_append_right _ h)))) .inl)
           · exact .inr (.inr (List.mem_append_right _ (List.mem_append_left _ h)))
         · exact Na (O1:=Pn x86.2.1) (O2:=dZ x93.2.2.2++iI x86.2.1) hw
end

/- RootSwaps: the walk. -/
section
open Go Go.RowKit Go.Ct
theorem R7.ga{ba:Nat}{a:AS}{z:XS}{q:SW}(h:R7 ba a z q):∀f∈aK q.a.L,f.2=[]∨f∈aK a.L∨f∈q.F:=λ f hf=>by
 obtain⟨F0,h1,_,_,h2⟩:=h.tk
 rcases h2.fam f hf with h3|h3|h3
 ·exact .inl h3
 ·exact h.gr f h3
 ·exact .inr (.inr (h1 f h3))
theorem mH.up{b:Nat}{p:Tr×Mm}{a:AS}{B:Fr}{y:Cd×Fr×AS}(h:mH b p a [] y):mH b p a B y:=⟨⟨h.1.1.more λ x hx=>List.mem_append_left _ (by simpa using hx),h.1.2⟩,h.2⟩
theorem Y7{ba Bz C:Nat}{S:LS}{q:SW}(hS:Cg ba Bz C S)(h:R7 ba S.a S.z q):∃R F0,(∀f∈F0,f∈q.F)/\Cg ba (Bz+65) C ⟨q.a,q.x,S.l++[⟨⟨q.bx,q.k,q.x,q.dn,q.rs,R⟩,0,q.tb,q.c,0⟩],F0++S.B⟩/\q.x.mm=(Ct.iU (T0 q.k 0) q.z1.mm).2:=by
 obtain⟨F0,h1,h2⟩:=h.tk
 obtain⟨v,hv⟩:=h.ext
 have hle:S.z.mm.Le q.z1.mm:=⟨⟨[v.c],by show q.z1.L.map aS.c=_;rw[hv,List.map_append];rfl⟩,h.cl⟩
 have h3:Cg ba (Bz+1) C ⟨q.a1,q.z1,S.l,S.B⟩:=⟨h.z1,h.a1,h.mm,h.sz _ hS.sz,λ p hp=>(hS.p p hp).wm h.z1 hv,λ p hp=>(hS.rp p hp).le (hS.p p hp).rest hle⟩
 obtain⟨k1,k2,k3,k4,k5,k6⟩:=h.kk
 obtain⟨R,h4,h5,_⟩:=Cg.add (bx:=q.bx) (tb:=q.tb) h3 h.rp h2.up k1 (by decide) k2 k3 k4 k5 k6
 exact⟨R,F0,h1,h4,h5⟩
end

/- RootTogether: a memory with a trie keeps the labels behind a swap's beginning. -/
end Go.Proofs.YtbajmaoegmbfgaaGreat
namespace Go.Ct
section
open Go Go.RowKit
end
end Go.Ct
namespace Go.Proofs.YtbajmaoegmbfgaaGreat
section
open Go Go.RowKit Go.Ct
def I1(m:Nat)(t:fR)(s:Mm):Prop:=∃σ:Kw,σ.mm=s/\Inv (H8 m) σ/\dF σ t
theorem Sj{m B C E:Nat}{W:Wd}(h:Tc m B C E W){t:fR}(ht:t∈W.ts):I1 m t W.z.mm:=by
 obtain⟨σ,hi⟩:=h.wr.inv
 exact⟨σ,hi.mm,hi.inv,hi.ts t ht⟩
section
variable{m:Nat}{t:fR}{z:XS}
theorem I1.proper(h:I1 m t z.mm):hY z.L z.cs z.gen:=by
 obtain⟨σ,e,i0,_⟩:=h
 have e1:σ.mm.nodes=z.L.map aS.c:=by rw[e];rfl
 have e2:σ.mm.cs=z.cs:=by rw[e];rfl
 have e3:σ.mm.gen=z.gen:=by rw[e];rfl
 have:=i0.prop
 rw[e2,e3] at this
 exact this.to e1.symm
theorem I1.root(h:I1 m t z.mm):∃r p,pD (z.L.map aS.c) z.cs t.root=some r/\pS (z.L.map aS.c) z.cs r=some p/\1<=r/\r<=z.L.length/\p<=z.L.length:=by
 obtain⟨σ,e,i0,hT⟩:=h
 have e1:σ.mm.nodes=z.L.map aS.c:=by rw[e];rfl
 have e2:σ.mm.cs=z.cs:=by rw[e];rfl
 have hl:σ.len=z.L.length:=by show σ.mm.nodes.length=_;rw[e1,List.length_map]
 obtain⟨r,hr,hir⟩:=Vd i0 hT
 obtain⟨p,hp,hm⟩:=Vj i0 (g:=(σ.nd r).gen) ⟨hir,rfl⟩
 rw[e1,e2] at hr hp
 have h1:=hir.in
 have h2:=pA.in hm
 exact⟨r,p,hr,hp,h1.1,by omega,by omega⟩
theorem I1.swap{q:SW}(h:I1 m t z.mm)(hr0:t.ro=false)(hk:SWK t z q)(hx:q.x.mm=(Ct.iU (T0 q.k 0) q.z1.mm).2):I1 m t q.x.mm:=by
 obtain⟨σ,e,i0,hT⟩:=h
 obtain⟨r,p,y,hro,hbo,hy,hkk,hz1⟩:=hk
 have e1:σ.mm.nodes=z.L.map aS.c:=by rw[e];rfl
 have e2:σ.mm.cs=z.cs:=by rw[e];rfl
 have e3:σ.mm.gen=z.gen:=by rw[e];rfl
 have hl:σ.len=z.L.length:=by show σ.mm.nodes.length=_;rw[e1,List.length_map]
 obtain⟨r',hr',hir⟩:=Vd i0 hT
 rw[e1,e2,hro] at hr'
 cases hr'
 obtain⟨p',hp',hm⟩:=Vj i0 (g:=(σ.nd r).gen) ⟨hir,rfl⟩
 rw[e1,e2,hbo] at hp'
 cases hp'
 have hg:=hir.Cv.Xy i0
 have w:WT (H8 m) (λ _ _=>True) (.gen λ g=>.alloc (oA g) p λ j=>mQ t r (if y=p then p else j) j λ _=>.done Rs.zero) σ:=by
  refine H6 i0 λ υ l i1 e4=>?_
  refine pU (g:=σ.mm.gen+1) i1 (by have:=i0.gen;omega) (by omega) (by simp) (hm.up l) (by omega) λ χ j l4 i5 hj=>?_
  have hm4:=(hm.up l).up l4
  refine A1 ((hT.up l).up l4) hr0 i5 ((hir.up l).up l4) hj.1 ?_ ?_ λ ψ ok l5 i6=>trivial
  ·split
   ·exact(pA.in hm4).1
   ·exact hj.1.in.1
  ·split
   ·exact(pA.in hm4).2
   ·exact hj.1.in.2
 obtain⟨υ1,l1,i1,m1,υ2,l2,i2,m2,υ3,l3,i3,m3,_⟩:=w
 refine⟨υ3,?_,i3,((hT.up l1).up l2).up l3⟩
 rw[hx,hkk,hz1]
 have m1':υ1.mm=Mm.mk (z.L.map aS.c) z.cs (z.gen+1):=by rw[m1,e1,e2,e3]
 have ln:υ1.len=z.L.length:=by show υ1.mm.nodes.length=_;rw[m1',];show(z.L.map aS.c).length=_;rw[List.length_map]
 rw[m3,m2,m1',ln,e3]
 have hyy:(if y=p then p else((z.L.length+1:Nat):Int))=y:=by
  split
  ·rename_i h;exact h.symm
  ·rename_i h;exact(hy.resolve_left h).symm
 show _=((Mm.mk (z.L.map aS.c) z.cs (z.gen+1)).push (oA (z.gen+1)) p).push (Ap r y ((z.L.length+1:Nat):Int)) 0
 rw[hyy]
end
end

end Go.Proofs.YtbajmaoegmbfgaaGreat

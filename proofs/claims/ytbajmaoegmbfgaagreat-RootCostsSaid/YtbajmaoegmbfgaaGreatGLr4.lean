/- The laws of root: a swap begins, on the arena and on the memory. -/
import Derived.Test.YtbajmaoegmbfgaaGreatGGt2
import Derived.Test.YtbajmaoegmbfgaaGreatGR9r
import Derived.Test.YtbajmaoegmbfgaaGreatKw8

set_option linter.unusedSimpArgs false
set_option linter.unusedVariables false
namespace Go.Ct
section
open Go Go.RowKit
abbrev XS.al(z:XS)(n:Nd)(xs:List Int)(ys:List Pr)(init:Int)(x:AX):XS:={z with L:=z.L++[jU n xs ys z.cs.length x],cs:=fN n.kind z.cs init,pn:=x.pn,cn:=x.cn,pc:=x.pc,cc:=x.cc}
theorem A4(z:XS)(n:Nd)(xs:List Int)(ys:List Pr)(init:Int)(x:AX):(z.al n xs ys init x).mm=z.mm.push (n.c xs ys) init:=by
 unfold XS.mm Mm.push
 simp only[List.map_append]
 rfl
theorem XS.Ok.al{z:XS}(ok:z.Ok){n:Nd}{xs:List Int}{ys:List Pr}{init:Int}(x:AX)(hx:xs.length<=274877906944)(hy:ys.length<=z.L.length)(hl:z.L.length<=100000000000)(hcl:z.cs.length<=100000000000)(hb:mB z.L.length z.cs.length {n.c xs ys with main:=0,prev:=0,status:=0})(hi:init<=z.L.length+1):(z.al n xs ys init x).Ok:=by
 have hlen:(z.L++[jU n xs ys z.cs.length x]).length=z.L.length+1:=by simp
 have hcs:=gN (k:=n.kind) (cs:=z.cs) (init:=init)
 refine⟨λ v hv=>?_,λ v hv=>?_,λ v hv=>?_,λ v hv=>?_,λ v hv=>?_,?_,?_,?_,ok.lg,ok.la,ok.lm,ok.lk,ok.le,ok.fr,λ v hv=>?_,ok.gen0,ok.ms,ok.m1⟩
 ·rcases List.mem_append.1 hv with hv|hv
  ·exact ok.fit v hv
  ·rw[List.mem_singleton.1 hv];exact Gv (by omega) (by omega)
 ·show mB (z.L++[jU n xs ys z.cs.length x]).length (fN n.kind z.cs init).length v.c
  rcases List.mem_append.1 hv with hv|hv
  ·exact(ok.nd v hv).mono (by omega) hcs.1
  ·rw[List.mem_singleton.1 hv]
   exact je (v:=n.c xs ys) hb rfl hlen.symm
 ·show v<=((z.L++[jU n xs ys z.cs.length x]).length:Int)
  have hv':v∈fN n.kind z.cs init:=hv
  unfold fN at hv'
  split at hv'
  ·rcases List.mem_append.1 hv' with h|h
   ·have:=ok.cs v h;omega
   ·rw[List.mem_singleton.1 h];omega
  ·have:=ok.cs v hv';omega
 ·have:=ok.got v hv
  show v<=((z.L++[jU n xs ys z.cs.length x]).length:Int);omega
 ·have:=ok.made v hv
  show v<=((z.L++[jU n xs ys z.cs.length x]).length:Int);omega
 ·have:=ok.two
  show 2<=(z.L++[jU n xs ys z.cs.length x]).length;omega
 ·show(z.L++[jU n xs ys z.cs.length x]).length<=_;omega
 ·show(fN n.kind z.cs init).length<=_;omega
 ·show v.ys.length<=(z.L++[jU n xs ys z.cs.length x]).length
  rcases List.mem_append.1 hv with hv|hv
  ·have:=ok.ys v hv;omega
  ·rw[List.mem_singleton.1 hv]
   show ys.length<=_
   omega
end
end Go.Ct
namespace Go.Proofs.YtbajmaoegmbfgaaGreat
section
open Go Go.RowKit Go.Ct
theorem La{x:XS}(h:x.Ok):Fj x.L:=λ v hv=>by
 have hb:=h.nd v hv
 have h1:=hb.main
 have h2:=hb.prev
 have h3:=hb.status
 have h4:=h.lc
 have e1:v.c.main=v.nd.main:=rfl
 have e2:v.c.prev=v.nd.prev:=rfl
 have e3:v.c.status=v.nd.status:=rfl
 exact⟨hb.bm,by omega,by omega,by omega⟩
theorem Y9{L:List aP}{v:aP}{f:Option Addr×List Value}(h:f∈aL (L++[v])):f∈v.fr∨f∈aL L:=by
 rw[dE] at h
 rcases List.mem_append.1 h with h|h
 ·exact .inr h
 ·exact .inl (by simpa[aL] using h)
def kS(kind:Int)(t:eQ)(a b n:Int):Cl:=⟨kind,t,a,b,n,0,0,0,⟨#[]⟩,0,0,0,false⟩
theorem k9{kind:Int}{t:eQ}{a b n:Int}(h1:1<=kind)(h2:kind<=4):Zu (kS kind t a b n):=.inl ⟨h1,h2⟩
theorem ti(t:eQ)(a b n:Int)(m:Nat):T0 (kS 4 t a b n) m=lP t a b n λ ok=>.done (gC 0 ok):=rfl
structure SW where
 a1:AS
 z1:XS
 k:Cl
 tb:Nat
 c:Cd
 F:Fr
 a:AS
 bx:Nat
 x:XS
 N:List aP
 dn:Bool
 rs:Rs
structure n6(ba:Nat)(a:AS)(z:XS)(q:SW):Prop where
 z1:q.z1.Ok
 a1:q.a1.Ok
 mm:q.a1.mm=q.z1.mm
 ext:∃v,q.z1.L=z.L++[v]
 cl:z.cs.length<=q.z1.cs.length
 sz:∀B,Sz z B->Sz q.z1 (B+1)
 gr:∀f∈aL q.a1.L,f.2=[]∨f∈aL a.L∨f∈q.F
 rp:zU (T0 q.k 0) (T0 q.k 0) 0 0 Rs.zero (XS.new q.z1.L q.z1.cs q.z1.gen q.z1.acc q.z1.pn q.z1.cn q.z1.pc q.z1.cc) q.x q.N q.dn q.rs
 tk:∃F0,(∀f∈F0,f∈q.F)/\pX ba (Ct.eD (T0 q.k 0) q.a1.mm) q.a1 [] (q.c,F0,q.a)
 fz:∀f∈aL q.x.L,f.2=[]∨f∈aL z.L∨f∈q.F
 kk:Zu q.k/\q.k.mask=((0:Nat):Int)/\q.k.t.root<=9223372036854775807/\q.k.a<=q.z1.L.length/\q.k.b<=q.z1.L.length/\q.k.n<=q.z1.L.length
def SWK(t:eQ)(z:XS)(q:SW):Prop:=∃r p y:Int,iR (z.L.map aP.c) z.cs t.root=some r/\fQ (z.L.map aP.c) z.cs r=some p/\(y=p∨y=((z.L.length+1:Nat):Int))/\q.k=kS 4 t r y ((z.L.length+1:Nat):Int)/\q.z1.mm=(Mm.mk (z.L.map aP.c) z.cs (z.gen+1)).push (iC (z.gen+1)) p
abbrev pU(g:Int):Nd:={Nd.zero with kind:=2,gen:=g}
theorem wa(g:Int)(n c:Nat):mB n c {(pU g).c [] [] with main:=0,prev:=0,status:=0}:=⟨bL _,bL _,bL _,(λ r hr=>nomatch hr),bL _,bL _,bL _,⟨0,rfl,by decide⟩,⟨0,rfl,by decide⟩⟩
theorem Qk{g:Int}(h0:0<=g)(h1:g<=1000000000000):up g=g+1:=by unfold up;exact wrap_i64 (by omega) (by omega)
theorem Uf{w:World}{D:List Nat}{b:Nat}{A:Fr}{z:XS}(h0:0<=z.gen)(h1:z.gen<=1000000000000)(hs:SF w D [(b,xM z)] A [] (kP z) w):Calls Tryz.prog 100 #[.pointer (some ⟨b,0,none⟩)] w λ e w'=>∃q:Unit,e=.returned (.int .i64 (z.gen+1))/\True/\SF w D [(b,xM {z with gen:=z.gen+1})] [] [] (kP z) w':=by
 have:=C7 hs
 rw[Qk h0 h1] at this
 exact this
theorem Sy{w:World}{D:List Nat}{b:Nat}{A:Fr}{a:AS}(h0:0<=a.gen)(h1:a.gen<=1000000000000)(hs:SF w D [(b,dV a)] A [] (eC a) w):Calls Tryz.prog 47 #[.pointer (some ⟨b,0,none⟩)] w λ e w'=>∃q:Unit,e=.returned (.int .i64 (a.gen+1))/\True/\SF w D [(b,dV {a with gen:=a.gen+1})] [] [] (eC a) w':=by
 have:=Yj hs
 rw[Qk h0 h1] at this
 exact this
theorem aAo{w0 w:World}{M:List Nat}{H:List (Nat×Obj)}{A F:Fr}{a:AS}{z:XS}(h:SF w0 M H A F (eC a++kP z) w):SF w0 M H A F [⟨a.pn,iO a.L,a.cn,47,14⟩,⟨a.pc,aH a.cs,a.cc,37,1⟩,⟨z.pn,iO z.L,z.cn,47,14⟩,⟨z.pc,aH z.cs,z.cc,37,1⟩] w:=h
theorem P5{w0 w:World}{M:List Nat}{A F:Fr}{t e x y a b c:Nat×Obj}{O1 O2:List Ow}(h:SF w0 M [t,e,x,y,a,b,c] A F (O1++O2) w):SF w0 M ([a,b,c]++[t,e]) [] F (O2++O1) w :=
 ((h.sub (H':=[t,e,a,b,c]) (.cons_cons _ (.cons_cons _ (.cons _ (.cons _ (List.Sublist.refl _))))) aV.all (List.Sublist.refl _)).perm (List.perm_append_comm (l₁:=[a,b,c]) (l₂:=[t,e])) List.perm_append_comm).noA
def SWN(t:eQ)(z:XS)(q:SW):Prop:=∃r p:Int,iR (z.L.map aP.c) z.cs t.root=some r/\fQ (z.L.map aP.c) z.cs r=some p/\q.k=kS 4 t r p ((z.L.length+1:Nat):Int)/\q.z1.mm=(Mm.mk (z.L.map aP.c) z.cs (z.gen+1)).push (iC (z.gen+1)) p
set_option maxRecDepth 100000 in
set_option maxHeartbeats 4000000 in
theorem Z6{ba bm bw:Nat}{a:AS}{z:XS}{t:eQ}{r p:Int}{other:Bool}{D:List Nat}{A:Fr}{w:World}{rest:List Value}(hz:z.Ok)(ha:a.Ok)(hm:a.mm=z.mm)(hsz:Sz z 90000000000)(hp:fP z.L z.cs z.gen)(hro:iR (z.L.map aP.c) z.cs t.root=some r)(hbo:fQ (z.L.map aP.c) z.cs r=some p)(hr:r<=z.L.length)(hpl:p<=z.L.length)(ht:t.root<=9223372036854775807)(hA1:∀f∈aL a.L,f∈A)(hA2:∀f∈aL z.L,f∈A)
    (hs:SF w D [(ba,dV a),(bm,xM z),(bw,.cells ⟨.pointer (some ⟨bm,0,none⟩)::rest⟩ 35 (0,0))] A [] (eC a++kP z) w) :
    Calls Tryz.prog 51 #[.pointer (some ⟨bw,0,none⟩),.pointer (some ⟨ba,0,none⟩),.agg ⟨[.int .i64 t.root,.bool t.ro]⟩,.bool other] w λ e w'=>∃q:SW,e=.returned (.tuple #[.agg ⟨[.pointer (some ⟨q.tb,0,none⟩),.pointer (some ⟨q.bx,0,none⟩)]⟩,.bool true])/\(n6 ba a z q/\SWK t z q/\(other=false->SWN t z q)) /\
      SF w D ([(ba,dV q.a),(bm,xM q.x),(bw,.cells ⟨.pointer (some ⟨bm,0,none⟩)::rest⟩ 35 (0,0))]++[(q.tb,tO ba q.c 0),(q.bx,xO q.k bm q.x q.dn q.rs)]) [] q.F ((eC q.a++kP q.x)++nl q.x) w':=by
  obtain⟨s1,s2,s3⟩:=hsz
  have g0:=hz.gen0
  have eg:a.gen=z.gen:=congrArg Mm.gen hm
  have ec:a.cs=z.cs:=congrArg Mm.cs hm
  have el:a.mm.nodes.length=z.L.length:=by rw[hm];show(z.L.map aP.c).length=_;rw[List.length_map]
  have hgok:({a with gen:=a.gen+1}:AS).Ok:=⟨ha.fit,⟨ha.mo.nd,ha.mo.cs,ha.mo.two⟩⟩
  have hgsm:({a with gen:=a.gen+1}:AS).mm.Small:=⟨by show a.mm.nodes.length<=_;omega,by show a.cs.length<=_;rw[ec];omega⟩
  have haA:∀x:AX,(({a with gen:=a.gen+1}:AS).al (pU (z.gen+1)) [] [] p x).Ok:=λ x=>hgok.al x (by simp) (by simp) (wa _ _ _) (by show p<=(a.mm.nodes.length:Int)+1;omega)
  have hzg:({z with gen:=z.gen+1}:XS).Ok:=⟨hz.fit,hz.nd,hz.cs,hz.got,hz.made,hz.two,hz.lL,hz.lc,hz.lg,hz.la,hz.lm,hz.lk,hz.le,hz.fr,hz.ys,by show 0<=z.gen+1;omega,hz.ms,hz.m1⟩
  have hzA:∀x:AX,(({z with gen:=z.gen+1}:XS).al (pU (z.gen+1)) [] [] p x).Ok:=λ x=>hzg.al x (by simp) (Nat.zero_le _) (by show z.L.length<=_;omega) (by show z.cs.length<=_;omega) (wa _ _ _) (by show p<=(z.L.length:Int)+1;omega)
  have hmA:∀x y:AX,(({a with gen:=a.gen+1}:AS).al (pU (z.gen+1)) [] [] p x).mm=(({z with gen:=z.gen+1}:XS).al (pU (z.gen+1)) [] [] p y).mm:=λ x y=>by
    rw[pQ,A4]
    have:({a with gen:=a.gen+1}:AS).mm=({z with gen:=z.gen+1}:XS).mm:=by
      show Mm.mk a.mm.nodes a.mm.cs (a.gen+1)=Mm.mk z.mm.nodes z.mm.cs (z.gen+1)
      rw[hm,eg]
    rw[this]
  have hlA:∀x:AX,(({a with gen:=a.gen+1}:AS).al (pU (z.gen+1)) [] [] p x).mm.nodes.length=z.L.length+1:=λ x=>by
    rw[hmA x x]
    show((z.L++[_]).map aP.c).length=_
    simp
  have hlZ:∀x:AX,(({z with gen:=z.gen+1}:XS).al (pU (z.gen+1)) [] [] p x).L.length=z.L.length+1:=λ x=>by
    show(z.L++[_]).length=_
    simp
  have hk1:∀x:AX,r<=((({z with gen:=z.gen+1}:XS).al (pU (z.gen+1)) [] [] p x).L.length:Int):=λ x=>by rw[hlZ x];omega
  have hk2:∀x:AX,∀y:Int,y<=z.L.length+1->y<=((({z with gen:=z.gen+1}:XS).al (pU (z.gen+1)) [] [] p x).L.length:Int):=λ x y h=>by rw[hlZ x];omega
  have hk3:∀x:AX,((z.L.length+1:Nat):Int)<=((({z with gen:=z.gen+1}:XS).al (pU (z.gen+1)) [] [] p x).L.length:Int):=λ x=>by rw[hlZ x];omega
  have hcZ:∀x:AX,(({z with gen:=z.gen+1}:XS).al (pU (z.gen+1)) [] [] p x).cs.length<=z.cs.length+1:=λ x=>by
    have h:=gN (k:=(pU (z.gen+1)).kind) (cs:=z.cs) (init:=p)
    exact h.2
  have hcZ':∀x:AX,z.cs.length<=(({z with gen:=z.gen+1}:XS).al (pU (z.gen+1)) [] [] p x).cs.length:=λ x=>by
    have h:=gN (k:=(pU (z.gen+1)).kind) (cs:=z.cs) (init:=p)
    exact h.1
  have hsA:∀x:AX,(({a with gen:=a.gen+1}:AS).al (pU (z.gen+1)) [] [] p x).mm.Small:=λ x=>by
    refine⟨by rw[hlA];omega,?_⟩
    rw[hmA x x]
    have:=hcZ x
    show(({z with gen:=z.gen+1}:XS).al (pU (z.gen+1)) [] [] p x).cs.length<=_
    omega
  refine enter Tryz.func51 Tryz.ntmps51 rfl rfl (aAo hs) ?_
  simp only[cA]
  all_goals (refine J0 ?_;refine bK (λ x6=>?_);refine aJ (λ x8=>?_);refine iZ ?_;refine gS [0,1,2,3,4,5,6,7,8,9,10,11,12,13] ?_;refine Ym ?_;refine J4 ?_;refine bT (i:=6) (hq:=(aR (k:=3) rf cY eF (by simp only[List.drop_zero,List.take_succ_cons,List.take_zero];exact rfl) rfl)) (h:=?_);refine bO ?_;refine cO (i:=8) (hq:=(cV (v:=.tuple #[.int .i64 r,.bool true]) (hc:=λ w1 hw=>Q7 hp (hw.Hi (.inr (.inr (.inr ⟨_,.tail _ (.tail _ (.head _)),rfl,rfl⟩))) (.inr (.inr (.inr ⟨_,.tail _ (.tail _ (.tail _ (.head _))),rfl,rfl⟩))) (λ f hf=>.inr (.inl (hA2 f hf))) hz.fit) (La hz) (by omega) (by omega) _ _ hro ht))) (h:=λ x26=>?_);refine aT ?_;refine eL ?_;refine eL ?_;refine Tk ?_;refine mA ?_;refine Lg ?_;refine aC (aR (k:=3) rf cY eF (by simp only[List.drop_zero,List.take_succ_cons,List.take_zero];exact rfl) rfl) rfl ?_;refine aA ?_;refine aN (cV (v:=.tuple #[.int .i64 p,.bool true]) (hc:=λ w1 hw=>Z8 hp (hw.Hi (.inr (.inr (.inr ⟨_,.tail _ (.tail _ (.head _)),rfl,rfl⟩))) (.inr (.inr (.inr ⟨_,.tail _ (.tail _ (.tail _ (.head _))),rfl,rfl⟩))) (λ f hf=>.inr (.inl (hA2 f hf))) hz.fit) (La hz) (by omega) (by omega) _ hbo (by omega))) (λ x38=>?_);refine Kb5 ?_;refine Bq ?_)
  all_goals ((refine Ka3 ?_))
  all_goals (refine Kc1 ?_)
  all_goals
   refine bD (λ c46=>?_) (λ c46=>?_)
   · exact nv c46
   · all_goals try (first|contradiction|(exfalso;omega))
     all_goals (refine r7 ?_;refine aD (cM (V:=λ _:Unit=>.int .i64 (z.gen+1)) (hs:=[(bm,xM z)]) (os:=kP z) (hs':=λ _=>[(bm,xM {z with gen:=z.gen+1})]) (os':=λ _=>kP z) (Fc:=λ _=>[]) (A0:=[]) (hc:=λ w1 hw=>Uf g0 (by omega) hw)) (λ x52 h52=>?_);refine J1 ?_;refine mA ?_;refine aA ?_;refine bI ?_;refine aA ?_;refine aD (cM (V:=λ _:AX=>.int .i64 ((z.L.length+1:Nat):Int)) (hs:=[(bm,xM {z with gen:=z.gen+1})]) (os:=kP z) (A0:=[(none,aH []),(none,cZ [])]) (hs':=λ x=>[(bm,xM (({z with gen:=z.gen+1}:XS).al (pU (z.gen+1)) [] [] p x))]) (os':=λ x=>kP (({z with gen:=z.gen+1}:XS).al (pU (z.gen+1)) [] [] p x)) (Fc:=λ x=>(jU (pU (z.gen+1)) [] [] z.cs.length x).fr) (hc:=λ w1 hw=>Au (n:=pU (z.gen+1)) (xs:=[]) (ys:=[]) p hw rfl rfl (by simp) (by simp) (by show z.L.length<=_;omega) (by show z.cs.length<=_;omega))) (λ x60 h60=>?_);refine Kc3 ?_;refine aD (cM (V:=λ _:Unit=>.int .i64 (z.gen+1)) (hs:=[(ba,dV a)]) (os:=eC a) (hs':=λ _=>[(ba,dV {a with gen:=a.gen+1})]) (os':=λ _=>eC a) (Fc:=λ _=>[]) (A0:=[]) (hc:=λ w1 hw=>by rw[<- eg];exact Sy (by omega) (by omega) hw)) (λ x62 h62=>?_);refine aA ?_;refine kF ?_;refine aA ?_)
     all_goals ((refine dZ 65 (λ g65=>?_) (λ g65=>?_)<;>(try (first|contradiction|(exfalso;omega)))<;>((refine Ka3 ?_))))
     all_goals (((refine Ka3 ?_));((refine aE ?_;refine bI ?_));((refine Ka3 ?_));((refine aE ?_;refine aD (cM (V:=λ _:AX=>.int .i64 ((z.L.length+1:Nat):Int)) (hs:=[(ba,dV {a with gen:=a.gen+1})]) (os:=eC a) (A0:=[(none,aH []),(none,cZ [])]) (hs':=λ x=>[(ba,dV (({a with gen:=a.gen+1}:AS).al (pU (z.gen+1)) [] [] p x))]) (os':=λ x=>eC (({a with gen:=a.gen+1}:AS).al (pU (z.gen+1)) [] [] p x)) (Fc:=λ x=>(jU (pU (z.gen+1)) [] [] a.cs.length x).fr) (hc:=λ w1 hw=>by rw[<- el];exact sC (n:=pU (z.gen+1)) (xs:=[]) (ys:=[]) hgok hgsm p rfl rfl (by simp) (by simp) (λ f hf=>hf) hw)) (λ x70 h70=>?_)));((refine Ka3 ?_));refine Rx ?_;refine aG ?_)
     all_goals
      refine bD (λ c73=>?_) (λ c73=>?_)
      · all_goals try (first|contradiction|(exfalso;omega))
        all_goals (refine J0 ?_;refine bI ?_;refine Cr ?_)
        all_goals
         refine aY Tryz.results51 (λ w hw=>?_)
         have hext:=h86.ext
         refine⟨⟨(({a with gen:=a.gen+1}:AS).al (pU (z.gen+1)) [] [] p x70),(({z with gen:=z.gen+1}:XS).al (pU (z.gen+1)) [] [] p x60),(kS 4 t r y ((z.L.length+1:Nat):Int)),x93.1,x93.2.1,x93.2.2.1++(aL x86.2.2.1++((jU (pU (z.gen+1)) [] [] a.cs.length x70).fr++(jU (pU (z.gen+1)) [] [] z.cs.length x60).fr)),x93.2.2.2,x86.1,x86.2.1,x86.2.2.1,x86.2.2.2.1,x86.2.2.2.2⟩,rfl,⟨⟨hzA x60,haA x70,hmA x70 x60,⟨_,rfl⟩,hcZ' x60,λ B hB=>⟨Nat.le_trans (Nat.le_of_eq (hlZ x60)) (Nat.succ_le_succ hB.1),Nat.le_trans (hcZ x60) (Nat.succ_le_succ hB.2.1),by have:=hB.2.2;show z.gen+1<=((B+1:Nat):Int);omega⟩,λ f hf=>?_,h86,⟨x93.2.2.1,λ f hf=>List.mem_append_left _ hf,h93.1⟩,λ f hf=>?_,k9 (by decide) (by decide),rfl,ht,hk1 x60,hk2 x60 y hyl,hk3 x60⟩,⟨r,p,y,hro,hbo,hx.1,rfl,A4 _ _ _ _ _ _⟩,λ ho=>⟨r,p,hro,hbo,by show kS 4 t r y _=kS 4 t r p _;rw[hx.2 ho],A4 _ _ _ _ _ _⟩⟩,?_⟩
         · exact .inr ((Y9 hf).elim (λ h=>.inr (List.mem_append_right _ (List.mem_append_right _ (List.mem_append_left _ h)))) .inl)
         · have hf':f∈aL x86.2.1.L:=hf
           rw[hext,dE] at hf'
           rcases List.mem_append.1 hf' with h|h
           · exact .inr ((Y9 h).elim (λ h=>.inr (List.mem_append_right _ (List.mem_append_right _ (List.mem_append_right _ h)))) .inl)
           · exact .inr (.inr (List.mem_append_right _ (List.mem_append_left _ h)))
         · exact P5 (O1:=nl x86.2.1) (O2:=eC x93.2.2.2++kP x86.2.1) hw
      · all_goals try (first|contradiction|(exfalso;omega))
        all_goals refine kO ?_
        all_goals
         refine dX [12,75,76] (λ y:Int=>[(12,.int .i64 y)]) (λ y=>(y=p∨y=((z.L.length+1:Nat):Int))/\(other=false->y=p)) (λ _=>[(x8,.cells ⟨[.pointer none,.pointer none]⟩ 76 (0,0)),(x6,.cells ⟨[.int .i64 t.root,.bool t.ro]⟩ 29 (0,0)),(ba,dV (({a with gen:=a.gen+1}:AS).al (pU (z.gen+1)) [] [] p x70)),(bm,xM (({z with gen:=z.gen+1}:XS).al (pU (z.gen+1)) [] [] p x60)),(bw,.cells ⟨.pointer (some ⟨bm,0,none⟩)::rest⟩ 35 (0,0))]) (λ _=>((jU (pU (z.gen+1)) [] [] a.cs.length x70).fr++(jU (pU (z.gen+1)) [] [] z.cs.length x60).fr)) (λ _=>eC (({a with gen:=a.gen+1}:AS).al (pU (z.gen+1)) [] [] p x70)++kP (({z with gen:=z.gen+1}:XS).al (pU (z.gen+1)) [] [] p x60)) (by decide) (λ _=>by exact rfl) ?_ (λ y f hx=>?_)
         · all_goals (refine aS ?_)
           all_goals (refine Aa ?_;refine aG ?_)
           all_goals
            refine bD (λ c75=>?_) (λ c75=>?_)
            · all_goals try (first|contradiction|(exfalso;omega))
              all_goals (refine Aa ?_;refine J1 ?_)
              all_goals
               refine eE (((z.L.length+1:Nat):Int)) ?_ (hw1:=λ w hw=>hw.back (hF:=by exact aV.iM λ f hf=>by simpa using hf))
               · exact⟨.inr rfl,λ h=>by simp_all⟩
            · all_goals try (first|contradiction|(exfalso;omega))
              all_goals refine aW ?_
              all_goals
               refine eE (p) ?_ (hw1:=λ w hw=>hw.back (hF:=by exact aV.iM λ f hf=>by simpa using hf))
               · exact⟨.inl rfl,λ _=>rfl⟩
         dsimp only[hX,List.map,List.cons_append,List.nil_append]
         have hyl:y<=(z.L.length:Int)+1:=by have h9:=hx.1;omega
        all_goals (refine aS ?_;refine gS [0,1,2,3,4,5,6,7,8,9,10] ?_;refine Ym ?_;refine Ka9 ?_;refine aT ?_;refine fJ ?_;refine bC (i:=9) (hq:=(Wg (V:=λ q:Nat×XS×List aP×Bool×Rs=>.pointer (some ⟨q.1,0,none⟩)) (hs:=[(bm,xM (({z with gen:=z.gen+1}:XS).al (pU (z.gen+1)) [] [] p x60))]) (os:=kP (({z with gen:=z.gen+1}:XS).al (pU (z.gen+1)) [] [] p x60)) (hs':=λ q=>[(bm,xM q.2.1)]) (Hc:=λ q=>[(q.1,xO (kS 4 t r y ((z.L.length+1:Nat):Int)) bm q.2.1 q.2.2.2.1 q.2.2.2.2)]) (os':=λ q=>kP q.2.1) (Oc:=λ q=>nl q.2.1) (Fc:=λ q=>aL q.2.2.1) (A0:=aL (({z with gen:=z.gen+1}:XS).al (pU (z.gen+1)) [] [] p x60).L) (hA:=bB.of λ f hf=>.inr ((Y9 hf).elim (λ h=>.inr (.inl (List.mem_append_right _ h))) λ h=>.inl (hA2 f h))) (hc:=λ w1 hw=>Qc (k:=(kS 4 t r y ((z.L.length+1:Nat):Int))) (m:=0) (L:=(({z with gen:=z.gen+1}:XS).al (pU (z.gen+1)) [] [] p x60).L) (cs:=(({z with gen:=z.gen+1}:XS).al (pU (z.gen+1)) [] [] p x60).cs) (gen:=(({z with gen:=z.gen+1}:XS).al (pU (z.gen+1)) [] [] p x60).gen) (acc:=(({z with gen:=z.gen+1}:XS).al (pU (z.gen+1)) [] [] p x60).acc) ⟨by have:=hlZ x60;omega,by have:=hcZ x60;omega,by show z.gen+1<=_;omega⟩ (k9 (by decide) (by decide)) (by decide) rfl ht (hk1 x60) (hk2 x60 y hyl) (hk3 x60) (λ f hf=>hf) (Wl (hzA x60)) hw))) (h:=λ x86 h86=>?_);refine J7 ?_;refine J2 ?_;refine aC (aq rf (λ w=>Cb _ w)) rfl ?_;refine bM ?_;refine pV ?_;refine aA ?_;refine aD (Wg (V:=λ x:Nat×Cd×Fr×AS=>.pointer (some ⟨x.1,0,none⟩)) (hs:=[(ba,dV (({a with gen:=a.gen+1}:AS).al (pU (z.gen+1)) [] [] p x70))]) (os:=eC (({a with gen:=a.gen+1}:AS).al (pU (z.gen+1)) [] [] p x70)) (hs':=λ x=>[(ba,dV x.2.2.2)]) (Hc:=λ x=>[(x.1,tO ba x.2.1 0)]) (os':=λ x=>eC x.2.2.2) (Oc:=λ _=>[]) (Fc:=λ x=>x.2.2.1) (A0:=aL (({a with gen:=a.gen+1}:AS).al (pU (z.gen+1)) [] [] p x70).L) (hA:=bB.of λ f hf=>.inr ((Y9 hf).elim (λ h=>.inr (.inl (List.mem_append_right _ (List.mem_append_left _ h)))) λ h=>.inl (hA1 f h))) (hc:=λ w1 hw=>K6 (Ph (t:=t) (bA:=r) (exp:=y) (nw:=((z.L.length+1:Nat):Int)) (B:=[]) (n:=0) (m:=64) ht (by have:=hlA x70;omega) (by have:=hlA x70;omega) (by have:=hlA x70;omega) (pP (kS 4 t r y ((z.L.length+1:Nat):Int)) 0 (by decide)) (haA x70) (hsA x70) (λ f hf=>hf) (λ x hx=>nomatch hx) hw))) (λ x93 h93=>?_);refine aA ?_;refine bI ?_;refine Cr ?_)
        all_goals
         refine aY Tryz.results51 (λ w hw=>?_)
         have hext:=h86.ext
         refine⟨⟨(({a with gen:=a.gen+1}:AS).al (pU (z.gen+1)) [] [] p x70),(({z with gen:=z.gen+1}:XS).al (pU (z.gen+1)) [] [] p x60),(kS 4 t r y ((z.L.length+1:Nat):Int)),x93.1,x93.2.1,x93.2.2.1++(aL x86.2.2.1++((jU (pU (z.gen+1)) [] [] a.cs.length x70).fr++(jU (pU (z.gen+1)) [] [] z.cs.length x60).fr)),x93.2.2.2,x86.1,x86.2.1,x86.2.2.1,x86.2.2.2.1,x86.2.2.2.2⟩,rfl,⟨⟨hzA x60,haA x70,hmA x70 x60,⟨_,rfl⟩,hcZ' x60,λ B hB=>⟨Nat.le_trans (Nat.le_of_eq (hlZ x60)) (Nat.succ_le_succ hB.1),Nat.le_trans (hcZ x60) (Nat.succ_le_succ hB.2.1),by have:=hB.2.2;show z.gen+1<=((B+1:Nat):Int);omega⟩,λ f hf=>?_,h86,⟨x93.2.2.1,λ f hf=>List.mem_append_left _ hf,h93.1⟩,λ f hf=>?_,k9 (by decide) (by decide),rfl,ht,hk1 x60,hk2 x60 y hyl,hk3 x60⟩,⟨r,p,y,hro,hbo,hx.1,rfl,A4 _ _ _ _ _ _⟩,λ ho=>⟨r,p,hro,hbo,by show kS 4 t r y _=kS 4 t r p _;rw[hx.2 ho],A4 _ _ _ _ _ _⟩⟩,?_⟩
         · exact .inr ((Y9 hf).elim (λ h=>.inr (List.mem_append_right _ (List.mem_append_right _ (List.mem_append_left _ h)))) .inl)
         · have hf':f∈aL x86.2.1.L:=hf
           rw[hext,dE] at hf'
           rcases List.mem_append.1 hf' with h|h
           · exact .inr ((Y9 h).elim (λ h=>.inr (List.mem_append_right _ (List.mem_append_right _ (List.mem_append_right _ h)))) .inl)
           · exact .inr (.inr (List.mem_append_right _ (List.mem_append_left _ h)))
         · exact P5 (O1:=nl x86.2.1) (O2:=eC x93.2.2.2++kP x86.2.1) hw
end

/- RootSwaps: the walk. -/
section
open Go Go.RowKit Go.Ct
theorem n6.ga{ba:Nat}{a:AS}{z:XS}{q:SW}(h:n6 ba a z q):∀f∈aL q.a.L,f.2=[]∨f∈aL a.L∨f∈q.F:=λ f hf=>by
 obtain⟨F0,h1,_,_,h2⟩:=h.tk
 rcases h2.fam f hf with h3|h3|h3
 ·exact .inl h3
 ·exact h.gr f h3
 ·exact .inr (.inr (h1 f h3))
end

/- RootTogether: a memory with a trie keeps the labels behind a swap's beginning. -/
end Go.Proofs.YtbajmaoegmbfgaaGreat
namespace Go.Ct
section
open Go Go.RowKit
end
end Go.Ct
namespace Go.Proofs.YtbajmaoegmbfgaaGreat
section
open Go Go.RowKit Go.Ct
def y8(m:Nat)(t:eQ)(s:Mm):Prop:=∃σ:Kw,σ.mm=s/\Inv (H8 m) σ/\cL σ t
section
variable{m:Nat}{t:eQ}{z:XS}
theorem y8.proper(h:y8 m t z.mm):fP z.L z.cs z.gen:=by
 obtain⟨σ,e,i0,_⟩:=h
 have e1:σ.mm.nodes=z.L.map aP.c:=by rw[e];rfl
 have e2:σ.mm.cs=z.cs:=by rw[e];rfl
 have e3:σ.mm.gen=z.gen:=by rw[e];rfl
 have:=i0.prop
 rw[e2,e3] at this
 exact this.to e1.symm
end
end

/- RootTogether: the walk. -/
end Go.Proofs.YtbajmaoegmbfgaaGreat
namespace Go.Ct
section
open Go Go.RowKit
theorem Qb{α:Type}:∀H:List α,((List.range H.length).flatMap λ i=>(H.drop i).take 1)=H
 | []=>rfl
 | x::H=>by
  rw[List.length_cons,List.range_succ_eq_map,List.flatMap_cons,List.flatMap_map]
  show x::((List.range H.length).flatMap λ i=>(H.drop i).take 1)=x::H
  rw[Qb H]
theorem SF.pick{w0 w:World}{M:List Nat}{H:List (Nat×Obj)}{A F:Fr}{O:List Ow}(is js:List Nat)(n:Nat)(h:SF w0 M H A F O w)(hn:H.length=n:=by rfl)(hp:(List.range n).Perm (is++js):=by decide):SF w0 M (is.flatMap λ i=>(H.drop i).take 1) A F O w:=by
 have p:H.Perm ((is++js).flatMap λ i=>(H.drop i).take 1):=by
  have:=List.Perm.flatMap_right (λ i=>(H.drop i).take 1) hp
  rw[<- hn,Qb] at this
  exact this
 rw[List.flatMap_append] at p
 exact(h.perm p.symm (List.Perm.refl _)).sub (List.sublist_append_left _ _) aV.all (List.Sublist.refl _)
end
end Go.Ct
namespace Go.Proofs.YtbajmaoegmbfgaaGreat
section
open Go Go.RowKit Go.Ct
structure RP where
 tb:Nat
 c:Cd
 F:Fr
 a:AS
 bx:Nat
 x:XS
 N:List aP
 dn:Bool
 rs:Rs
end

end Go.Proofs.YtbajmaoegmbfgaaGreat

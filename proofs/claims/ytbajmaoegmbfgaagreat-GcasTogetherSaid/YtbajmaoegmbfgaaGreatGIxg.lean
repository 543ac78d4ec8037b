/- Lists of things of some cells each. -/
import Derived.Test.YtbajmaoegmbfgaaGreatGAr8
import Derived.Test.YtbajmaoegmbfgaaGreatGGc5
import Derived.Test.YtbajmaoegmbfgaaGreatGLe1
import Derived.Test.YtbajmaoegmbfgaaGreatKw8

set_option linter.unusedSimpArgs false
set_option linter.unusedVariables false
namespace Go.Ct
section
open Go Go.RowKit
section
variable{w0 w w':World}{M:List Nat}{H:List (Nat×Obj)}{A F:Fr}{O:List Ow}
variable{P:Program}{S:List (Nat×Value)}{G:World->Prop}{d:Nat}{ty:TypeId}{pos:String}{af:Array Edge}{gd:Option (Nat×Bool)}{x y:Operand}{t t2 e:TypeId}{p a:Option Addr}{i m k c c2 sz:Nat}
variable{α:Type}{g:α->List Value}{z:α}
theorem Dt(hg:∀x,(g x).length=sz):∀l:List α,(l.flatMap g).length=sz*l.length
 | []=>by simp
 | x::r=>by
  have:=Dt hg r
  simp only[List.flatMap_cons,List.length_append,List.length_cons,this,hg,Nat.mul_add,Nat.mul_one]
  omega
theorem Vj(hg:∀x,(g x).length=sz):∀{l:List α} {k j:Nat},k<l.length->j<sz->(l.flatMap g)[sz*k+j]?=(g (l.getD k z))[j]?
 | [],_,_,h,_=>by simp at h
 | n::r,0,j,_,hj=>by
  simp only[List.flatMap_cons,Nat.mul_zero,Nat.zero_add,List.getD_cons_zero]
  rw[List.getElem?_append_left (by rw[hg];exact hj)]
 | n::r,k+1,j,h,hj=>by
  have:=Vj hg (l:=r) (k:=k) (j:=j) (by simpa using h) hj
  simp only[List.flatMap_cons,List.getD_cons_succ]
  rw[List.getElem?_append_right (by rw[hg,Nat.mul_add];omega),<- this,hg]
  congr 1
  rw[Nat.mul_add]
  omega
theorem gf{lst:List α}{kk:IntKind}(hg:∀x,(g x).length=sz)(h0:0<sz)(hx:ev S x=.slice a m c)(hy:ev S y=.int kk ((k:Nat):Int))(ht:P.underlying t=some (.slice e))(hs:iS P e sz=true)(hf:qD A F O a (lst.flatMap g))(h1:k<m)(h2:k<lst.length) :
  aM P S (SF w0 M H A F O) ⟨some d,.indexAddr t x y,ty,pos,af,gd⟩ (.pointer (some ⟨cK a,dZ a+sz*k,none⟩)):=⟨λ w hw=>by
 obtain⟨_,_,_,hsz⟩:=gP hs
 have ha:=(hw.cl hf).ptr (by rw[Dt hg];exact Nat.mul_pos h0 (by omega))
 have:=wZ (P:=P) (a:=a) (m:=m) (c:=c) (k:=kk) ht hsz ha (i:=(k:Int)) (by omega) (by omega) w
 simp only[Int.toNat_natCast,Nat.mul_comm k sz] at this
 simp[execOp,hx,hy,this]⟩
theorem ra{lst:List α}{q:Nat}(z:α)(hg:∀x,(g x).length=sz)(hx:ev S x=.pointer (some ⟨cK a,dZ a+sz*q,none⟩))(ht:iS P t sz=true)(hf:qD A F O a (lst.flatMap g))(hq:q<lst.length) :
  aM P S (SF w0 M H A F O) ⟨some d,.load t x,ty,pos,af,gd⟩ (.agg ⟨g (lst.getD q z)⟩):=⟨λ w hw=>by
 have hcl:=hw.cl hf
 obtain⟨dd,hu,hm,hi⟩:=gP ht
 have hagg:(isAgg t).run P w=.ok true w:=by
  unfold isAgg
  rw[Sem.run_bind,run_underlying hu w]
  cases dd<;>simp_all
 have hl:(loadCells ⟨cK a,dZ a+sz*q,none⟩ sz).run P w=.ok ⟨g (lst.getD q z)⟩ w:=by
  have:=run_loadCells_list (P:=P) w ⟨cK a,dZ a+sz*q,none⟩ (g (lst.getD q z)) (λ j u hz=>by
   have hj:j<sz:=by rw[<- hg (lst.getD q z)];exact(List.getElem?_eq_some_iff.1 hz).1
   rw[Addr.add_lit]
   have h3:=(hcl.at_ (sz*q+j) u (by rw[Vj hg hq hj];exact hz)).2
   rwa [<- Nat.add_assoc] at h3)
  rwa [hg] at this
 cases hq':P.info? t with
 | none=>rw[hq'] at hi;simp at hi
 | some i =>
  have hs:i.size=sz:=by rw[hq'] at hi;simpa using hi
  simp[execOp,hx,Instr.loadAt,Instr.sureAddr,loadVar,hagg,Go.sizeOf,typeInfo,hq',hs,hl]⟩
end
end

/- RootReads: the walk. -/
end Go.Ct
namespace Go.Proofs.YtbajmaoegmbfgaaGreat
section
open Go Go.RowKit Go.Ct
abbrev uj(x:XS):List Ow:=[⟨x.pg,aG x.got,x.kg,37,1⟩,⟨x.pm,aG x.made,x.km,37,1⟩,⟨x.pl,aG x.cel,x.kl,27,1⟩,⟨x.pe,aG x.gns,x.ke,3,1⟩]
end

/- The laws of root: a swap begins, on the arena and on the memory. -/
end Go.Proofs.YtbajmaoegmbfgaaGreat
namespace Go.Ct
section
open Go Go.RowKit
abbrev XS.al(z:XS)(n:Nd)(xs:List Int)(ys:List Pr)(init:Int)(x:AX):XS:={z with L:=z.L++[kV n xs ys z.cs.length x],cs:=fU n.kind z.cs init,pn:=x.pn,cn:=x.cn,pc:=x.pc,cc:=x.cc}
theorem oh(z:XS)(n:Nd)(xs:List Int)(ys:List Pr)(init:Int)(x:AX):(z.al n xs ys init x).mm=z.mm.push (n.c xs ys) init:=by
 unfold XS.mm Mm.push
 simp only[List.map_append]
 rfl
theorem XS.Ok.al{z:XS}(ok:z.Ok){n:Nd}{xs:List Int}{ys:List Pr}{init:Int}(x:AX)(hx:xs.length<=274877906944)(hy:ys.length<=z.L.length)(hl:z.L.length<=100000000000)(hcl:z.cs.length<=100000000000)(hb:lD z.L.length z.cs.length {n.c xs ys with main:=0,prev:=0,status:=0})(hi:init<=z.L.length+1):(z.al n xs ys init x).Ok:=by
 have hlen:(z.L++[kV n xs ys z.cs.length x]).length=z.L.length+1:=by simp
 have hcs:=iF (k:=n.kind) (cs:=z.cs) (init:=init)
 refine⟨λ v hv=>?_,λ v hv=>?_,λ v hv=>?_,λ v hv=>?_,λ v hv=>?_,?_,?_,?_,ok.lg,ok.la,ok.lm,ok.lk,ok.le,ok.fr,λ v hv=>?_,ok.gen0,ok.ms,ok.m1⟩
 ·rcases List.mem_append.1 hv with hv|hv
  ·exact ok.fit v hv
  ·rw[List.mem_singleton.1 hv];exact Hk (by omega) (by omega)
 ·show lD (z.L++[kV n xs ys z.cs.length x]).length (fU n.kind z.cs init).length v.c
  rcases List.mem_append.1 hv with hv|hv
  ·exact(ok.nd v hv).mono (by omega) hcs.1
  ·rw[List.mem_singleton.1 hv]
   exact mh (v:=n.c xs ys) hb rfl hlen.symm
 ·show v<=((z.L++[kV n xs ys z.cs.length x]).length:Int)
  have hv':v∈fU n.kind z.cs init:=hv
  unfold fU at hv'
  split at hv'
  ·rcases List.mem_append.1 hv' with h|h
   ·have:=ok.cs v h;omega
   ·rw[List.mem_singleton.1 h];omega
  ·have:=ok.cs v hv';omega
 ·have:=ok.got v hv
  show v<=((z.L++[kV n xs ys z.cs.length x]).length:Int);omega
 ·have:=ok.made v hv
  show v<=((z.L++[kV n xs ys z.cs.length x]).length:Int);omega
 ·have:=ok.two
  show 2<=(z.L++[kV n xs ys z.cs.length x]).length;omega
 ·show(z.L++[kV n xs ys z.cs.length x]).length<=_;omega
 ·show(fU n.kind z.cs init).length<=_;omega
 ·show v.ys.length<=(z.L++[kV n xs ys z.cs.length x]).length
  rcases List.mem_append.1 hv with hv|hv
  ·have:=ok.ys v hv;omega
  ·rw[List.mem_singleton.1 hv]
   show ys.length<=_
   omega
end
end Go.Ct
namespace Go.Proofs.YtbajmaoegmbfgaaGreat
section
open Go Go.RowKit Go.Ct
theorem Wl{x:XS}(h:x.Ok):Lw x.L:=λ v hv=>by
 have hb:=h.nd v hv
 have h1:=hb.main
 have h2:=hb.prev
 have h3:=hb.status
 have h4:=h.lc
 have e1:v.c.main=v.nd.main:=rfl
 have e2:v.c.prev=v.nd.prev:=rfl
 have e3:v.c.status=v.nd.status:=rfl
 exact⟨hb.bm,by omega,by omega,by omega⟩
theorem aA4{L:List aP}{v:aP}{f:Option Addr×List Value}(h:f∈aK (L++[v])):f∈v.fr∨f∈aK L:=by
 rw[dA] at h
 rcases List.mem_append.1 h with h|h
 ·exact .inr h
 ·exact .inl (by simpa[aK] using h)
def kS(kind:Int)(t:gK)(a b n:Int):Cl:=⟨kind,t,a,b,n,0,0,0,⟨#[]⟩,0,0,0,false⟩
theorem Jq{kind:Int}{t:gK}{a b n:Int}(h1:1<=kind)(h2:kind<=4):Yo (kS kind t a b n):=.inl ⟨h1,h2⟩
structure SW where
 a1:AS
 z1:XS
 k:Cl
 tb:Nat
 c:Cd
 F:Fr
 a:AS
 bx:Nat
 x:XS
 N:List aP
 dn:Bool
 rs:Rs
structure Qp(ba:Nat)(a:AS)(z:XS)(q:SW):Prop where
 z1:q.z1.Ok
 a1:q.a1.Ok
 mm:q.a1.mm=q.z1.mm
 ext:∃v,q.z1.L=z.L++[v]
 cl:z.cs.length<=q.z1.cs.length
 sz:∀B,Sz z B->Sz q.z1 (B+1)
 gr:∀f∈aK q.a1.L,f.2=[]∨f∈aK a.L∨f∈q.F
 rp:tS (T0 q.k 0) (T0 q.k 0) 0 0 Rs.zero (XS.new q.z1.L q.z1.cs q.z1.gen q.z1.acc q.z1.pn q.z1.cn q.z1.pc q.z1.cc) q.x q.N q.dn q.rs
 tk:∃F0,(∀f∈F0,f∈q.F)/\mS ba (Ct.iO (T0 q.k 0) q.a1.mm) q.a1 [] (q.c,F0,q.a)
 fz:∀f∈aK q.x.L,f.2=[]∨f∈aK z.L∨f∈q.F
 kk:Yo q.k/\q.k.mask=((0:Nat):Int)/\q.k.t.root<=9223372036854775807/\q.k.a<=q.z1.L.length/\q.k.b<=q.z1.L.length/\q.k.n<=q.z1.L.length
theorem yo{w0 w:World}{M:List Nat}{H:List (Nat×Obj)}{A F:Fr}{a:AS}{z:XS}(h:SF w0 M H A F (fM a++jZ z) w):SF w0 M H A F [⟨a.pn,hU a.L,a.cn,47,14⟩,⟨a.pc,aG a.cs,a.cc,37,1⟩,⟨z.pn,hU z.L,z.cn,47,14⟩,⟨z.pc,aG z.cs,z.cc,37,1⟩] w:=h
end

/- A place of a world's trie. -/
section
open Go Go.RowKit Go.Ct
def N9(z:XS)(p:Pl):Prop:=(cD (z.L.map aP.c) p.i).kind=2/\iD (z.L.map aP.c) z.cs p.i=some p.m
theorem N9.in{z:XS}{p:Pl}(h:N9 z p):1<=p.i/\p.i<=z.L.length:=by
 have:=eI (N:=z.L.map aP.c) (i:=p.i) (by have:=h.1;omega)
 rwa [List.length_map] at this
theorem Xn{N:List Nv}{cs:List Int}{i m:Int}(h:iD N cs i=some m):bZ (cD N m):=by
 unfold iD at h
 split at h
 ·rename_i h1
  split at h
  ·cases h;exact h1.2
  ·split at h
   ·cases h;assumption
   ·cases h
 ·cases h
theorem N9.mk{z:XS}{p:Pl}(h:N9 z p):bZ (cD (z.L.map aP.c) p.m):=Xn h.2
theorem N9.inm{z:XS}{p:Pl}(h:N9 z p):1<=p.m/\p.m<=z.L.length:=by
 have:=eI (N:=z.L.map aP.c) (i:=p.m) (by have:=h.mk;unfold bZ at this;omega)
 rwa [List.length_map] at this
abbrev yk:qX:=⟨⟨0,0,0,0,[]⟩,none,0⟩
theorem aq{bw bm tp m B C E:Nat}{W:Wd}{t:gK}{l:List Int}{a:Option Addr}{c pos:Nat}{D:List Nat}{A:Fr}{w:World}(hW:P9 m B C E W)(hB:B<=2415922570)(ht:t∈W.ts)(hrt:t.root<=9223372036854775807)(hl:l.length<=17592186043904)(hA:∀f∈aK W.z.L,f∈A)(hT:(a,aG l)∈A)
    (hs:SF w D [(tp,Bj a l c pos),(bw,kD bm (m:Int) W.pt W.ts.length W.kt W.pe (pD W.ex).length W.ke),(bm,xM W.z)] A [] (jZ W.z) w) :
    Calls Tryz.prog 23 #[.pointer (some ⟨bw,0,none⟩),.agg ⟨[.int .i64 t.root,.bool t.ro]⟩,.pointer (some ⟨tp,0,none⟩)] w λ e w'=>∃v:qX,e=.returned (.tuple #[.agg ⟨v.cells⟩,.bool true])/\N9 W.z v.p /\
      SF w D [(tp,Bj a l c (kH l pos)),(bw,kD bm (m:Int) W.pt W.ts.length W.kt W.pe (pD W.ex).length W.ke),(bm,xM W.z)] [] [] (jZ W.z) w':=by
  obtain⟨r,q,hro,hpl,hne,hq⟩:=P5 hW ht
  obtain⟨s1,s2,s3⟩:=hW.sz
  have hys:=Zq hW
  have hpr:=oT hW
  refine enter Tryz.func23 Tryz.ntmps23 rfl rfl hs ?_
  simp only[bX]
  refine J0 ?_;refine bI (λ x4=>?_);refine aJ (λ x6=>?_);refine iB ?_;refine gJ [0,1,2,3,4,5,6,7,8,9,10,11,12,13,14,15] ?_;refine R7 ?_;refine J4 ?_;refine bQ (i:=6) (hq:=(aQ (k:=3) rf cQ eD (by simp only[List.drop_zero,List.take_succ_cons,List.take_zero];exact rfl) rfl)) (h:=?_);refine bG ?_;refine aZ (i:=8) (hq:=(Pn (V:=λ x:Jl=>.tuple #[.slice x.lp x.l.length x.lc,.slice x.pp x.ps.length x.pc,.bool true]) (Hc:=λ _=>[]) (Fc:=λ x=>x.fr) (F1:=λ x=>x.fr) (Oc:=λ _=>[]) (hF1:=λ x=>List.append_nil _) (hc:=λ w1 hw=>Ts (B:=8) hpr (hw.zO (.inr (.inr (.inr ⟨_,.head _,rfl,rfl⟩))) (.inr (.inr (.inr ⟨_,.tail _ (.head _),rfl,rfl⟩))) (λ f hf=>.inr (.inl (hA f hf))) hW.z.fit) (Wl hW.z) (by omega) (by omega) hys (by omega) _ _ hrt hro hpl))) (h:=λ x20 h20=>?_)
  obtain⟨hx1,hx2⟩:=h20
  have hln:0<x20.l.length:=by
   have:=congrArg List.length hx1
   rw[List.length_map] at this
   have:=List.length_pos_iff.2 hne
   omega
  refine aN ?_;refine jX ?_;refine jX ?_;refine jX ?_;refine iJ (h:=λ _=>?_);refine Rn ?_;refine kB ?_;refine Bt ?_
  (refine aF ?_;refine aA ?_)
  ((refine aF ?_;refine dB ?_));refine wK ?_;refine aH ?_
  refine bB (λ c30=>?_) (λ c30=>?_)
  · exfalso;have c30':x20.l.length=0:=by simpa using c30
    omega
  · refine Bk ?_;refine aA ?_;refine dB ?_;refine aD (uS (hc:=λ w1 hw=>eL x20.l.length (hw.tape cQ (.bK (vD.kI hT)) hl) (by omega) (by omega))) (λ x36 h36=>?_);refine aC (gf (lst:=x20.l) (g:=qX.cells) (sz:=5) (k:=x36) (λ _=>rfl) (by decide) rf rf fZ eD (.new (vD.kI (List.mem_cons_self ..))) (by omega) (by omega)) rfl ?_;refine aC (ra (lst:=x20.l) (g:=qX.cells) (sz:=5) (q:=x36) yk (λ _=>rfl) rf eD (.new (vD.kI (List.mem_cons_self ..))) (by omega)) rfl ?_;refine wJ ?_
    refine bC Tryz.results23 (λ w hw=>?_)
    refine⟨x20.l.getD x36 yk,rfl,hq _ ?_,?_⟩
    · rw[<- hx1,List.mem_map]
      exact⟨x20.l.getD x36 yk,by rw[jH,List.getElem?_eq_getElem (show x36<x20.l.length by omega)];exact List.getElem_mem _,rfl⟩
    · exact hw.ret (by repeat (first|exact List.Sublist.refl _|apply List.Sublist.cons)) aY.nil (List.Sublist.refl _)
end

/- The laws of gcas: a world, an arena, a place. -/
end Go.Proofs.YtbajmaoegmbfgaaGreat
namespace Go.Ct
section
open Go Go.RowKit
theorem SF.aBk{w0 w:World}{M:List Nat}{p q x y:Nat×Obj}{E:List (Nat×Obj)}{A F:Fr}{O:List Ow}(h:SF w0 M (p::q::(E++[x,y])) A F O w):SF w0 M (x::y::p::q::E) A F O w:=h.perm (List.perm_append_comm (l₁:=[x,y]) (l₂:=p::q::E)) (List.Perm.refl _)
end
end Go.Ct
namespace Go.Proofs.YtbajmaoegmbfgaaGreat
section
open Go Go.RowKit Go.Ct
structure zm(q:TQ×qX):Prop extends Td q.1 where
 pl:N9 q.1.W.z q.2.p
abbrev gqH(q:TQ×qX):List (Nat×Obj):=[(q.1.ba,fH q.1.a),(q.1.bw,kD q.1.bm (q.1.m:Int) q.1.W.pt q.1.W.ts.length q.1.W.kt q.1.W.pe (pD q.1.W.ex).length q.1.W.ke),(q.1.bm,xM q.1.W.z.a0)]
abbrev aBy:Obj:=.cells ⟨[.int .i64 0,.int .i64 0,.int .i64 0,.int .i64 0,.slice none 0 0]⟩ 39 (0,0)
abbrev aB1(v:qX):Obj:=.cells ⟨v.cells⟩ 39 (0,0)
set_option maxRecDepth 100000 in
set_option maxHeartbeats 2000000 in
theorem Pf{l l2:List Int}{a a2:Option Addr}{c c2:Nat}{w:World}(h1:Go.Ct.Cl w a (aG l))(hl:l.length<=17592186043904)(h2:Go.Ct.Cl w a2 (aG l2))(hl2:l2.length<=17592186043904) :
  Calls Tryz.prog 39 #[.slice a l.length c,.slice a2 l2.length c2] w λ e w'=>∃q:TQ×qX,e=.returned (.tuple #[.pointer (some ⟨q.1.bw,0,none⟩),.pointer (some ⟨q.1.ba,0,none⟩),.agg ⟨q.2.cells⟩,.agg ⟨[.int .i64 q.1.t.root,.bool q.1.t.ro]⟩,.bool true])/\zm q/\SF w [] (gqH q) [] (aK q.1.a.L++aK q.1.W.z.L) (tqO q.1) w':=by
 refine enter Tryz.func39 Tryz.ntmps39 rfl rfl (SF.s2 h1 h2) ?_
 simp only[bX]
 refine J0 ?_;refine eJ (λ _=>?_);refine eJ (λ _=>?_);refine aJ (λ x6=>?_);refine aJ (λ x7=>?_);refine J1 ?_;refine J2 ?_;refine aD (Pn (Hc:=λ q:Nat×Nat×Nat×Wd=>wH q.2.2.1 q.1 q.2.1 q.2.2.2) (H1:=λ q=>(q.1,kD q.2.1 (q.2.2.1:Int) q.2.2.2.pt q.2.2.2.ts.length q.2.2.2.kt q.2.2.2.pe (pD q.2.2.2.ex).length q.2.2.2.ke)::(q.2.1,xM q.2.2.2.z)::(qM q.2.1 q.2.2.2.ex++[(x7,.cells ⟨[.int .i64 0,.bool false]⟩ 29 (0,0)),(x6,aBy)])) (Fc:=λ q=>aK q.2.2.2.z.L) (F1:=λ q=>aK q.2.2.2.z.L) (Oc:=λ q=>wO q.2.2.2) (O1:=λ q=>⟨q.2.2.2.pt,tH q.2.2.2.ts,q.2.2.2.kt,29,2⟩::⟨q.2.2.2.pe,Bi (pD q.2.2.2.ex),q.2.2.2.ke,74,1⟩::⟨q.2.2.2.z.pn,hU q.2.2.2.z.L,q.2.2.2.z.cn,47,14⟩::⟨q.2.2.2.z.pc,aG q.2.2.2.z.cs,q.2.2.2.z.cc,37,1⟩::oU q.2.2.2.ex) (hH1:=λ q=>by simp only[wH,List.cons_append]) (hF1:=λ q=>List.append_nil _) (hO1:=λ q=>List.append_nil _) (hc:=λ w1 hw=>fp (hw.cl (.bK .head)) hl)) (λ x16 h16=>?_)
 have hm:=h16.1
 have hW:=h16.2
 have htl:=hW.tl
 have ht0:=hW.t0
 obtain⟨s1,s2,s3⟩:=hW.sz
 refine y8 (λ w hw=>SF.aBk hw) ?_
 refine J1 ?_;refine J2 ?_;refine aD (Pn (Fc:=λ _=>[]) (Oc:=λ _=>[]) (hc:=λ w1 hw=>j9)) (λ x18 h18=>?_);refine iB ?_
 refine eA [11,19,20,21,22,23,24,25,26,27,28,29,30,31] (λ j:Nat×Nat=>[(11,.pointer (some ⟨j.1,0,none⟩))]) (λ j=>j.2<x16.2.2.2.ts.length) (λ j=>(j.1,.cells ⟨[.int .i64 (x16.2.2.2.ts.getD j.2 ⟨0,false⟩).root,.bool (x16.2.2.2.ts.getD j.2 ⟨0,false⟩).ro]⟩ 29 (0,0))::(x18,Bj a2 l2 c2 (kH l2 0))::(x7,.cells ⟨[.int .i64 0,.bool false]⟩ 29 (0,0))::(x6,aBy)::(x16.1,kD x16.2.1 (x16.2.2.1:Int) x16.2.2.2.pt x16.2.2.2.ts.length x16.2.2.2.kt x16.2.2.2.pe (pD x16.2.2.2.ex).length x16.2.2.2.ke)::(x16.2.1,xM x16.2.2.2.z)::qM x16.2.1 x16.2.2.2.ex) (λ _=>aK x16.2.2.2.z.L) (λ _=>⟨x16.2.2.2.pt,tH x16.2.2.2.ts,x16.2.2.2.kt,29,2⟩::⟨x16.2.2.2.pe,Bi (pD x16.2.2.2.ex),x16.2.2.2.ke,74,1⟩::⟨x16.2.2.2.z.pn,hU x16.2.2.2.z.L,x16.2.2.2.z.cn,47,14⟩::⟨x16.2.2.2.z.pc,aG x16.2.2.2.z.cs,x16.2.2.2.z.cc,37,1⟩::oU x16.2.2.2.ex) (by decide) (λ _=>by exact rfl) ?_ (λ j f hx=>?_)
 ·refine fP (.one 0 [] (.one 1 [] (.one 2 [] (.one 3 [] (.one 4 [] (.one 5 [] (.one 6 [] (.one 7 [] (.one 8 [] (.one 9 [] (.two 10 [3] (.one 11 [] (.one 12 [] (.one 13 [3,8,11,12] (.one 14 [] .nil)))) 0 [] (.two 13 [3,8] (.one 10 [3] (.one 11 [] (.one 12 [] (.one 14 [] .nil)))) 0 [] .nil)))))))))))) ?_
  refine R7 ?_;refine Y0 ?_;refine oC ?_
  refine fV (E:=[10,13]) (by decide +kernel) ((.cons ?_ (.cons ?_ .nil)))
  ·refine jS (i:=10) (hq:=(uS (hc:=λ w1 hw=>eL x16.2.2.2.ts.length (hw.tape cQ fin hl2) (by omega) (by omega)))) (h:=λ x29 h29=>?_)
   refine bQ (i:=11) (hq:=(vK (cs:=tH x16.2.2.2.ts) (k:=x29) rf rf fZ eD (.own .head) (by omega) (by rw[lG];omega))) (h:=?_);refine bQ (i:=12) (hq:=(G9 (ts:=x16.2.2.2.ts) (q:=x29) rf eD (.own .head) (by omega))) (h:=?_);refine gA (hfire:=(λ _=>by((repeat (first|exact aL.nil|refine aL.cons (by first|exact eZ|exact fI (hq:=vK (cs:=tH x16.2.2.2.ts) (k:=x29) rf rf fZ eD (.own .head) (by omega) (by rw[lG];omega))|exact fI (hq:=G9 (ts:=x16.2.2.2.ts) (q:=x29) rf eD (.own .head) (by omega))) ?_));done))) (h:=λ x11=>?_);refine vZ ?_
   refine eQ ((x11,x29)) ?_ (hw1:=λ w hw=>hw.back (hH:=by exact List.Sublist.refl _) (hF:=by exact aY.all) (hO:=by exact List.Sublist.refl _))
   ·omega
  ·refine fO (i:=13) (h:=λ x11=>?_)
   refine aZ (i:=10) (hq:=(uS (hc:=λ w1 hw=>eL x16.2.2.2.ts.length (hw.tape cQ fin hl2) (by omega) (by omega)))) (h:=λ x29 h29=>?_);refine bQ (i:=11) (hq:=(vK (cs:=tH x16.2.2.2.ts) (k:=x29) rf rf fZ eD (.own .head) (by omega) (by rw[lG];omega))) (h:=?_);refine bQ (i:=12) (hq:=(G9 (ts:=x16.2.2.2.ts) (q:=x29) rf eD (.own .head) (by omega))) (h:=?_);refine vZ ?_
   refine eQ ((x11,x29)) ?_ (hw1:=λ w hw=>hw.back (hH:=by exact List.Sublist.refl _) (hF:=by exact aY.all) (hO:=by exact List.Sublist.refl _))
   ·omega
 dsimp only[gU,List.map,List.cons_append,List.nil_append]
 have htm:=Bb hx
 have hrt:=hW.root (by decide) htm
 refine J2 ?_;refine bL ?_;refine aA ?_;refine aD (cM (V:=λ v:qX=>.tuple #[.agg ⟨v.cells⟩,.bool true]) (hs:=[(x18,Bj a2 l2 c2 (kH l2 0)),(x16.1,kD x16.2.1 (x16.2.2.1:Int) x16.2.2.2.pt x16.2.2.2.ts.length x16.2.2.2.kt x16.2.2.2.pe (pD x16.2.2.2.ex).length x16.2.2.2.ke),(x16.2.1,xM x16.2.2.2.z)]) (os:=jZ x16.2.2.2.z) (hs':=λ _=>[(x18,Bj a2 l2 c2 (kH l2 (kH l2 0))),(x16.1,kD x16.2.1 (x16.2.2.1:Int) x16.2.2.2.pt x16.2.2.2.ts.length x16.2.2.2.kt x16.2.2.2.pe (pD x16.2.2.2.ex).length x16.2.2.2.ke),(x16.2.1,xM x16.2.2.2.z)]) (os':=λ _=>jZ x16.2.2.2.z) (Fc:=λ _=>[]) (A0:=(a2,aG l2)::aK x16.2.2.2.z.L) (hA:=aW.cons (.inr (.inl (.tail _ (.head _)))) (aW.of λ f hf=>.inr (.inr (.inl hf)))) (hc:=λ w1 hw=>aq hW (by decide) htm hrt hl2 (λ f hf=>List.mem_cons_of_mem _ hf) (List.mem_cons_self ..) hw)) (λ x36 h36=>?_);refine Ev ?_;refine aJ (λ x12=>?_);refine wJ ?_;refine lW ?_;refine aD (Sh (V:=λ q:Nat×AS=>.pointer (some ⟨q.1,0,none⟩)) (hs:=[(x16.2.1,xM x16.2.2.2.z)]) (os:=jZ x16.2.2.2.z) (hs':=λ _=>[(x16.2.1,xM x16.2.2.2.z.a0)]) (Hc:=λ q=>[(q.1,fH q.2)]) (os':=λ _=>jZ x16.2.2.2.z) (Oc:=λ q=>fM q.2) (Fc:=λ q=>aK q.2.L) (A0:=aK x16.2.2.2.z.L) (hA:=aW.of λ f hf=>.inr (.inr (.inl hf))) (hc:=λ w1 hw=>Yv hW.z (oT hW) (by omega) (by omega) (λ f hf=>hf) hw)) (λ x43 h43=>?_);refine iB ?_;refine dK [(0,[]),(1,[]),(2,[]),(3,[]),(4,[]),(5,[]),(6,[]),(7,[]),(8,[]),(9,[2,3]),(10,[2,3]),(11,[3]),(12,[]),(13,[])] ?_;refine iH ?_;refine bG ?_;refine bG ?_;refine iH ?_
 (refine aN ?_)
 ((refine K7 ?_));refine eF ?_;refine iJ (h:=λ _=>?_);refine iJ (h:=λ _=>?_);refine mK (h:=λ _=>?_);refine Bm ?_
 refine bC Tryz.results39 (λ w hw=>?_)
 exact⟨(⟨x16.1,x16.2.1,x16.2.2.1,x16.2.2.2,x43.1,x43.2,j.2,0,0⟩,x36),rfl,⟨⟨hm,hW,hx,h43.1,h43.2⟩,h36⟩,hw.ret (by repeat (first|exact List.nil_sublist _|apply List.Sublist.cons_cons|apply List.Sublist.cons)) (aY.hX λ f hf=>hf) (by repeat (first|exact List.nil_sublist _|apply List.Sublist.cons_cons|apply List.Sublist.cons))⟩
end

/- RootSwaps: the walk. -/
section
open Go Go.RowKit Go.Ct
theorem Qp.ga{ba:Nat}{a:AS}{z:XS}{q:SW}(h:Qp ba a z q):∀f∈aK q.a.L,f.2=[]∨f∈aK a.L∨f∈q.F:=λ f hf=>by
 obtain⟨F0,h1,_,_,h2⟩:=h.tk
 rcases h2.fam f hf with h3|h3|h3
 ·exact .inl h3
 ·exact h.gr f h3
 ·exact .inr (.inr (h1 f h3))
theorem mS.up{b:Nat}{p:Tr×Mm}{a:AS}{B:Fr}{y:Cd×Fr×AS}(h:mS b p a [] y):mS b p a B y:=⟨⟨h.1.1.more λ x hx=>List.mem_append_left _ (by simpa using hx),h.1.2⟩,h.2⟩
theorem dm{ba Bz C:Nat}{S:LS}{q:SW}(hS:Bo ba Bz C S)(h:Qp ba S.a S.z q):∃R F0,(∀f∈F0,f∈q.F)/\Bo ba (Bz+65) C ⟨q.a,q.x,S.l++[⟨⟨q.bx,q.k,q.x,q.dn,q.rs,R⟩,0,q.tb,q.c,0⟩],F0++S.B⟩/\q.x.mm=(Ct.iO (T0 q.k 0) q.z1.mm).2:=by
 obtain⟨F0,h1,h2⟩:=h.tk
 obtain⟨v,hv⟩:=h.ext
 have hle:S.z.mm.Le q.z1.mm:=⟨⟨[v.c],by show q.z1.L.map aP.c=_;rw[hv,List.map_append];rfl⟩,h.cl⟩
 have h3:Bo ba (Bz+1) C ⟨q.a1,q.z1,S.l,S.B⟩:=⟨h.z1,h.a1,h.mm,h.sz _ hS.sz,λ p hp=>(hS.p p hp).wm h.z1 hv,λ p hp=>(hS.rp p hp).le (hS.p p hp).rest hle⟩
 obtain⟨k1,k2,k3,k4,k5,k6⟩:=h.kk
 obtain⟨R,h4,h5,_⟩:=Bo.add (bx:=q.bx) (tb:=q.tb) h3 h.rp h2.up k1 (by decide) k2 k3 k4 k5 k6
 exact⟨R,F0,h1,h4,h5⟩
end

/- RootTogether: a memory with a trie keeps the labels behind a swap's beginning. -/
end Go.Proofs.YtbajmaoegmbfgaaGreat
namespace Go.Ct
section
open Go Go.RowKit
end
end Go.Ct
namespace Go.Proofs.YtbajmaoegmbfgaaGreat
section
open Go Go.RowKit Go.Ct
section
variable{m:Nat}{t:gK}{z:XS}
end
end

/- RootTogether: the walk. -/
end Go.Proofs.YtbajmaoegmbfgaaGreat
namespace Go.Ct
section
open Go Go.RowKit
theorem Fu{α:Type}:∀H:List α,((List.range H.length).flatMap λ i=>(H.drop i).take 1)=H
 | []=>rfl
 | x::H=>by
  rw[List.length_cons,List.range_succ_eq_map,List.flatMap_cons,List.flatMap_map]
  show x::((List.range H.length).flatMap λ i=>(H.drop i).take 1)=x::H
  rw[Fu H]
theorem SF.pick{w0 w:World}{M:List Nat}{H:List (Nat×Obj)}{A F:Fr}{O:List Ow}(is js:List Nat)(n:Nat)(h:SF w0 M H A F O w)(hn:H.length=n:=by rfl)(hp:(List.range n).Perm (is++js):=by decide):SF w0 M (is.flatMap λ i=>(H.drop i).take 1) A F O w:=by
 have p:H.Perm ((is++js).flatMap λ i=>(H.drop i).take 1):=by
  have:=List.Perm.flatMap_right (λ i=>(H.drop i).take 1) hp
  rw[<- hn,Fu] at this
  exact this
 rw[List.flatMap_append] at p
 exact(h.perm p.symm (List.Perm.refl _)).sub (List.sublist_append_left _ _) aY.all (List.Sublist.refl _)
theorem SF.vt{w0 w:World}{M:List Nat}{H:List (Nat×Obj)}{A F:Fr}{O:List Ow}(is:List Nat)(n:Nat)(h:SF w0 M H A F O w)(hn:O.length=n:=by rfl)(hp:(List.range n).Perm is:=by decide):SF w0 M H A F (is.flatMap λ i=>(O.drop i).take 1) w:=by
 have p:O.Perm (is.flatMap λ i=>(O.drop i).take 1):=by
  have:=List.Perm.flatMap_right (λ i=>(O.drop i).take 1) hp
  rw[<- hn,Fu] at this
  exact this
 exact h.perm (List.Perm.refl _) p.symm
end
end Go.Ct
namespace Go.Proofs.YtbajmaoegmbfgaaGreat
section
open Go Go.RowKit Go.Ct
structure RP where
 tb:Nat
 c:Cd
 F:Fr
 a:AS
 bx:Nat
 x:XS
 N:List aP
 dn:Bool
 rs:Rs
abbrev RP.of(x:Nat×Cd×Fr×AS)(q:Nat×XS×List aP×Bool×Rs):RP:=⟨x.1,x.2.1,x.2.2.1,x.2.2.2,q.1,q.2.1,q.2.2.1,q.2.2.2.1,q.2.2.2.2⟩
structure Pp(ba:Nat)(a:AS)(z:XS)(k:Cl)(q:RP):Prop where
 tk:mS ba (Ct.iO (T0 k 0) a.mm) a [] (q.c,q.F,q.a)
 rp:tS (T0 k 0) (T0 k 0) 0 0 Rs.zero (XS.new z.L z.cs z.gen z.acc z.pn z.cn z.pc z.cc) q.x q.N q.dn q.rs
abbrev pxR(q:RP)(k:Cl)(R:Tr):PX:=⟨⟨q.bx,k,q.x,q.dn,q.rs,R⟩,0,q.tb,q.c,0⟩
abbrev pxS(q:SW)(R:Tr):PX:=⟨⟨q.bx,q.k,q.x,q.dn,q.rs,R⟩,0,q.tb,q.c,0⟩
theorem Pp.ga{ba:Nat}{a:AS}{z:XS}{k:Cl}{q:RP}(h:Pp ba a z k q):∀f∈aK q.a.L,f.2=[]∨f∈q.F++aK a.L:=λ f hf=>(h.tk.2.2.fam f hf).imp_right λ h=>List.mem_append.2 h.symm
theorem Pp.gz{ba:Nat}{a:AS}{z:XS}{k:Cl}{q:RP}(h:Pp ba a z k q):∀f∈aK q.x.L,f∈aK q.N∨f∈aK z.L:=λ f hf=>by
 rw[show q.x.L=z.L++q.N from h.rp.ext,dA] at hf
 exact(List.mem_append.1 hf).symm
theorem Pp.has{ba:Nat}{a:AS}{z:XS}{k:Cl}{q:RP}(h:Pp ba a z k q){f:Option Addr×List Value}(hf:f∈aK q.a.L++aK q.x.L):f.2=[]∨f∈aK q.N++(q.F++(aK a.L++aK z.L)):=by
 simp only[List.mem_append]
 rcases List.mem_append.1 hf with hf|hf
 ·exact(h.ga f hf).imp_right λ h=>(List.mem_append.1 h).elim (λ h=>.inr (.inl h)) λ h=>.inr (.inr (.inl h))
 ·exact .inr ((h.gz f hf).imp_right λ h=>.inr (.inr h))
theorem Qp.has{ba:Nat}{a:AS}{z:XS}{q:SW}{F:Fr}(h:Qp ba a z q)(hF:∀f∈aK a.L++aK z.L,f.2=[]∨f∈F):∀f∈aK q.a.L++aK q.x.L,f.2=[]∨f∈q.F++F:=λ f hf=>by
 have k1:∀f∈aK a.L,f.2=[]∨f∈F:=λ f hf=>hF f (List.mem_append_left _ hf)
 have k2:∀f∈aK z.L,f.2=[]∨f∈F:=λ f hf=>hF f (List.mem_append_right _ hf)
 simp only[List.mem_append] at hf ⊢
 rcases hf with hf|hf
 ·rcases h.ga f hf with h|h|h
  ·exact .inl h
  ·exact(k1 f h).imp_right .inr
  ·exact .inr (.inl h)
 ·rcases h.fz f hf with h|h|h
  ·exact .inl h
  ·exact(k2 f h).imp_right .inr
  ·exact .inr (.inl h)
theorem Us{z:XS}{B C:Nat}(h:Sz z B)(hc:B<=C):Sz z C:=⟨Nat.le_trans h.1 hc,Nat.le_trans h.2.1 hc,by have:=h.2.2;omega⟩
theorem aB6{F3 F2 G3 G2 F1 N E:Fr}{x y:Option Addr×List Value}(h3:∀f∈F3,f∈G3)(h2:∀f∈F2,f∈G2){f:Option Addr×List Value}(hf:f∈F3++(F2++(F1++[]))):f∈x::y::(G3++(G2++(N++(F1++E)))):=by
 simp only[List.mem_cons,List.mem_append] at hf ⊢
 rcases hf with h|h|h|h
 ·exact .inr (.inr (.inl (h3 f h)))
 ·exact .inr (.inr (.inr (.inl (h2 f h))))
 ·exact .inr (.inr (.inr (.inr (.inr (.inl h)))))
 ·exact nomatch h
end

/- GcasReads: the walk. -/
section
open Go Go.RowKit Go.Ct
theorem zm.ile{q:TQ×qX}(h:zm q):q.2.p.i<=q.1.a.mm.nodes.length:=by
 have h1:=h.pl.in.2
 rw[h.mm]
 show _<=(((q.1.W.z.L.map aP.c).length:Nat):Int)
 rw[List.length_map]
 exact h1
end

end Go.Proofs.YtbajmaoegmbfgaaGreat

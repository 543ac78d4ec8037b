/- Shape: what the walks need holds of proper states, so of memories with labels. -/
import Derived.Test.YtadnboagdhcedaaGreatDoorGSh9
import Derived.Test.YtadnboagdhcedaaGreatDoorGRn1
import Derived.Test.YtadnboagdhcedaaGreatDoorGPaX
import Derived.Test.YtadnboagdhcedaaGreatDoorGTr3
import Derived.Test.YtadnboagdhcedaaGreatDoorGNode2
import Derived.Test.YtadnboagdhcedaaGreatDoorGLst3

set_option linter.unusedSimpArgs false
set_option linter.unusedVariables false
namespace Go.Proofs.YtadnboagdhcedaaGreatDoor
section
open Go Go.RowKit Go.Ct
section
variable{H:ByteArray->Nat}{σ:Kw}{L:List aL}{cs:List Int}{gen:Int}
theorem Jz{n:Nv}(h:bU n):n.kind≠0:=by unfold bU at h;omega
theorem xV{c:Int}(h1:1<=c)(h2:c<=cs.length):∃k:Nat,c=((k+1:Nat):Int)/\k<cs.length/\bV cs c=cs.getD k 0:=by
 obtain⟨k,rfl⟩:∃k:Nat,c=((k+1:Nat):Int):=⟨(c-1).toNat,by omega⟩
 exact⟨k,rfl,by omega,Dd (by omega)⟩
theorem vO{r:Int}(h:(cB (L.map aL.c) r).kind≠0):∃k:Nat,r=((k+1:Nat):Int)/\k<L.length:=by
 have:=dD (N:=L.map aL.c) (i:=r) h
 rw[List.length_map] at this
 exact⟨(r-1).toNat,by omega,by omega⟩
theorem H9(hp:dM L cs gen){k:Nat}(hk:k<L.length){c:Int}(hc:gM (L.getD k aL.zero).nd=some c):1<=c/\c<=cs.length:=by
 cases hm:marks cs.length (L.take (k+1)) with
 | none=>exact absurd (Em hm) hp.marks
 | some u =>
  rw[rH hk] at hm
  cases h2:marks cs.length (L.take k) with
  | none=>rw[h2] at hm;cases hm
  | some u2 =>
   rw[h2] at hm
   simp only[eQ,hc] at hm
   split at hm
   ·rename_i h
    have:=Aj h2
    omega
   ·cases hm
theorem pw(hp:dM L cs gen):yY L cs:=by
 intro i R hb
 have en:∀r,cB (L.map aL.c) r=(aA L r).c:=λ r=>cI L r
 unfold eK at hb
 split at hb
 case isFalse=>cases hb
 rename_i h1
 have hi:(cB (L.map aL.c) i).kind=2:=h1.1
 have hm:bU (cB (L.map aL.c) (oM (L.map aL.c) cs i)):=h1.2
 obtain⟨i',rfl,hil⟩:=vO (L:=L) (r:=i) (by omega)
 obtain⟨k,hk,hkl⟩:=vO (L:=L) (r:=oM (L.map aL.c) cs ((i'+1:Nat):Int)) (Jz hm)
 have hi2:=hi
 have hm2:=hm
 rw[en,fN hil] at hi2
 rw[hk,en,fN hkl] at hm2
 obtain⟨a1,a2⟩:=H9 hp hil (c:=(L.getD i' aL.zero).nd.main) (by unfold gM;exact if_pos hi2)
 obtain⟨b1,b2⟩:=H9 hp hkl (c:=(L.getD k aL.zero).nd.prev) (by unfold gM;rw[if_neg (by have:(L.getD k aL.zero).nd.kind=3∨(L.getD k aL.zero).nd.kind=5∨(L.getD k aL.zero).nd.kind=6:=hm2;omega)];exact if_pos hm2)
 obtain⟨c,hc,hcl,hcv⟩:=xV a1 a2
 obtain⟨p,hq,hpl,hpv⟩:=xV b1 b2
 have f1:(aA L ((i'+1:Nat):Int)).nd.main=((c+1:Nat):Int):=by rw[fN hil];exact hc
 have f2:(aA L ((k+1:Nat):Int)).nd.prev=((p+1:Nat):Int):=by rw[fN hkl];exact hq
 have hM:oM (L.map aL.c) cs ((i'+1:Nat):Int)=cs.getD c 0:=by
  unfold oM
  rw[en,fN hil,<- hcv]
  rfl
 have f3:cs.getD c 0=((k+1:Nat):Int):=by rw[<- hM];exact hk
 have f4:iK (L.map aL.c) cs ((i'+1:Nat):Int)=cs.getD p 0:=by
  unfold iK
  rw[hk,en,fN hkl,<- hpv]
  rfl
 split at hb
 ·rename_i h0
  cases hb
  refine⟨k,hk,hkl,⟨c,k,p,f1,hcl,f3,hkl,f2,hpl,.inl ⟨by rw[<- f4];exact h0,rfl⟩⟩,?_⟩
  rw[<- en];exact hm
 ·rename_i h0
  split at hb
  case isFalse=>cases hb
  rename_i hq
  cases hb
  obtain⟨r,hr,hrl⟩:=vO (L:=L) (r:=mS (L.map aL.c) cs ((i'+1:Nat):Int)) (Jz hq)
  have hpk:(cB (L.map aL.c) (iK (L.map aL.c) cs ((i'+1:Nat):Int))).kind≠0:=by
   by_cases h7:(cB (L.map aL.c) (iK (L.map aL.c) cs ((i'+1:Nat):Int))).kind=7
   ·rw[h7];decide
   ·have hq2:bU (cB (L.map aL.c) (mS (L.map aL.c) cs ((i'+1:Nat):Int))):=hq
    unfold mS at hq2
    rw[if_neg h7] at hq2
    exact Jz hq2
  obtain⟨q,hqe,hql⟩:=vO (L:=L) (r:=iK (L.map aL.c) cs ((i'+1:Nat):Int)) hpk
  refine⟨r,hr,hrl,⟨c,k,p,f1,hcl,f3,hkl,f2,hpl,.inr ⟨q,by rw[<- f4];exact hqe,hql,?_⟩⟩,by rw[<- en];exact hq⟩
  by_cases h7:(cB (L.map aL.c) (iK (L.map aL.c) cs ((i'+1:Nat):Int))).kind=7
  ·refine .inl ⟨?_,?_⟩
   ·rw[en,hqe] at h7;exact h7
   ·have:mS (L.map aL.c) cs ((i'+1:Nat):Int)=(cB (L.map aL.c) (iK (L.map aL.c) cs ((i'+1:Nat):Int))).bM:=by unfold mS;rw[if_pos h7]
    rw[hr,en,hqe] at this
    exact this.symm
  ·refine .inr ⟨?_,?_⟩
   ·rw[en,hqe] at h7;exact h7
   ·have:mS (L.map aL.c) cs ((i'+1:Nat):Int)=iK (L.map aL.c) cs ((i'+1:Nat):Int):=by unfold mS;rw[if_neg h7]
    rw[hr,hqe] at this
    omega
theorem sg(hp:dM L cs gen)(hr:vX L)(hf:Fits L)(hl:L.length<=274877906944)(hh:∀v∈L,∃h:Nat,v.nd.hash=(h:Int)/\h<18446744073709551616):B9 L:=by
 have at_:∀v∈L,mA gen L.length v:=λ v hv=>by
  obtain⟨k,hk,rfl⟩:=List.mem_iff_getElem.1 hv
  have:=hp.nodes k hk
  rwa [fI,List.getElem?_eq_getElem hk] at this
 refine⟨hf,hl,hh,λ v hv=>?_,λ v hv h45=>?_,λ v hv p hq=>?_,λ v hv x hx=>?_,λ v hv h3=>?_⟩
 all_goals obtain⟨hv',_,hi⟩:=at_ v hv
 ·obtain⟨b,h1,h2⟩:=(hr v hv).bm
  refine⟨b,h1,h2,λ h3=>?_,λ h3=>?_⟩
  ·have:=(oL h3 hv').1
   rw[h1,oC h2] at this
   omega
  ·have h9:v.nd.bm=v.nd.own.bm:=hv'.1.2.2.2.1
   have h10:v.nd.own.bm=0:=by
    unfold Nd.own
    (repeat' split)<;>first|rfl|(exfalso;simp_all;done)
   omega
 ·have:=hv'.2.2.2.2
  rcases this with h|h|h|h|h|h|h
  ·omega
  ·omega
  ·omega
  ·exact h.2
  ·omega
  ·omega
  ·omega
 ·have hys:v.ys=v.nd.fG v.ys:=hv'.1.2.2.2.2.2.2.2.2.1
  by_cases h6:v.nd.kind=6
  ·have:=hv'.2.2.2.2
   rcases this with h|h|h|h|h|h|h
   ·omega
   ·omega
   ·omega
   ·omega
   ·exact qJ.1 h.2.2.2 p hq
   ·omega
   ·omega
  ·rw[hys] at hq
   unfold Nd.fG at hq
   rw[if_neg (by simpa using h6)] at hq
   exact nomatch hq
 ·have hxs:v.xs=v.nd.fO v.xs:=hv'.1.2.2.2.2.1
  by_cases h3:v.nd.kind=3
  ·obtain⟨j,hj,rfl⟩:=List.mem_iff_getElem.1 hx
   have h2:=(oL h3 hv').2 j hj
   have h4:=(hi.1 j hj).2
   rw[fI,List.getElem?_eq_getElem hj] at h2 h4
   exact⟨h2,h4⟩
  ·rw[hxs] at hx
   unfold Nd.fO at hx
   rw[if_neg (by simpa using h3)] at hx
   exact nomatch hx
 ·have hxs:v.xs=v.nd.fO v.xs:=hv'.1.2.2.2.2.1
  rw[hxs]
  unfold Nd.fO
  rw[if_neg (by simpa using h3)]
theorem tw(i0:Inv H σ)(e:σ.mm.nodes=L.map aL.c)(ec:σ.mm.cs=cs):yY L cs:=by
 have:=i0.prop
 rw[ec] at this
 exact pw (this.to e.symm)
theorem wb(i0:Inv H σ)(e:σ.mm.nodes=L.map aL.c)(hr:vX L)(hf:Fits L)(hl:L.length<=274877906944):B9 L:=by
 refine sg (i0.prop.to e.symm) hr hf hl λ v hv=>?_
 obtain⟨k,hk,rfl⟩:=List.mem_iff_getElem.1 hv
 have hlen:(σ.len:Int)=L.length:=by show(σ.mm.nodes.length:Int)=_;rw[e,List.length_map]
 have er:σ.nd ((k+1:Nat):Int)=(L[k]).c:=by
  show cB σ.mm.nodes _=_
  rw[e,cI L,fN hk,fI,List.getElem?_eq_getElem hk]
  rfl
 obtain⟨b,h1,h2⟩:=(i0.nd ((k+1:Nat):Int) (by omega) (by omega)).bd.hash
 rw[er] at h1
 exact⟨b,h1,h2⟩
end
end

/- An execution of the reference: its block, its own lists; the rules for calls of its methods. -/
section
open Go Go.RowKit Go.Ct
def xoC(k:Cl)(bm:Nat)(x:XS)(dn:Bool)(rs:Rs):List Value:=[.pointer (some ⟨bm,0,none⟩),
 .int .i64 k.kind,.int .i64 k.t.root,.bool k.t.ro,.int .i64 k.a,.int .i64 k.b,.int .i64 k.n,.int .i64 k.index,.int .u64 k.hash,.int .u64 k.mask,.string k.key,.int .u64 k.val,.int .u64 k.exp,.int .i64 k.Ge,.bool k.only,
 .bool false,.slice none 0 0,.slice none 0 0,.int .i64 0,.bool false,.int .u64 0,.string ⟨#[]⟩,.int .i64 0,.int .i64 0,.int .i64 0,.bool false,
 .slice x.pg x.got.length x.kg,.slice x.pm x.made.length x.km,.slice x.pl x.cel.length x.kl,.slice x.pe x.gns.length x.ke,
 .int .i64 ((x.a:Nat):Int),.int .i64 ((x.m:Nat):Int),.int .i64 ((x.c:Nat):Int),.int .i64 ((x.g:Nat):Int),.int .i64 ((x.fr:Nat):Int),.bool x.st,
 .int .i64 x.nx.k,.int .i64 x.nx.c,.int .i64 x.nx.o,.int .i64 x.nx.n,.bool dn,
 .int .i64 rs.err,.bool rs.found,.int .u64 rs.val,.string rs.key,.int .i64 rs.eM,.int .i64 rs.ref,.int .i64 rs.root,.bool rs.ro,
 .bool false,.slice none 0 0,.slice none 0 0]
abbrev xO(k:Cl)(bm:Nat)(x:XS)(dn:Bool)(rs:Rs):Obj:=.cells ⟨xoC k bm x dn rs⟩ 115 (0,0)
abbrev xM(x:XS):Obj:=mO x.L x.cs x.gen x.acc x.pn x.cn x.pc x.cc
abbrev xW(x:XS):List Ow:=[⟨x.pg,aG x.got,x.kg,62,1⟩,⟨x.pm,aG x.made,x.km,62,1⟩,⟨x.pl,aG x.cel,x.kl,27,1⟩,⟨x.pe,aG x.gns,x.ke,3,1⟩,⟨x.pn,gR x.L,x.cn,77,14⟩,⟨x.pc,aG x.cs,x.cc,62,1⟩]
abbrev xH(k:Cl)(bx bm:Nat)(x:XS)(dn:Bool)(rs:Rs):List (Nat×Obj):=[(bx,xO k bm x dn rs),(bm,xM x)]
theorem xx{w0 w:World}{D:List Nat}{k:Cl}{bx bm:Nat}{x:XS}{dn:Bool}{rs:Rs}{A F:Fr}(h:SF w0 D (xH k bx bm x dn rs) A F (xW x) w) :
  SF w0 D [(bx,.cells ⟨[.pointer (some ⟨bm,0,none⟩),
 .int .i64 k.kind,.int .i64 k.t.root,.bool k.t.ro,.int .i64 k.a,.int .i64 k.b,.int .i64 k.n,.int .i64 k.index,.int .u64 k.hash,.int .u64 k.mask,.string k.key,.int .u64 k.val,.int .u64 k.exp,.int .i64 k.Ge,.bool k.only,
 .bool false,.slice none 0 0,.slice none 0 0,.int .i64 0,.bool false,.int .u64 0,.string ⟨#[]⟩,.int .i64 0,.int .i64 0,.int .i64 0,.bool false,
 .slice x.pg x.got.length x.kg,.slice x.pm x.made.length x.km,.slice x.pl x.cel.length x.kl,.slice x.pe x.gns.length x.ke,
 .int .i64 ((x.a:Nat):Int),.int .i64 ((x.m:Nat):Int),.int .i64 ((x.c:Nat):Int),.int .i64 ((x.g:Nat):Int),.int .i64 ((x.fr:Nat):Int),.bool x.st,
 .int .i64 x.nx.k,.int .i64 x.nx.c,.int .i64 x.nx.o,.int .i64 x.nx.n,.bool dn,
 .int .i64 rs.err,.bool rs.found,.int .u64 rs.val,.string rs.key,.int .i64 rs.eM,.int .i64 rs.ref,.int .i64 rs.root,.bool rs.ro,
 .bool false,.slice none 0 0,.slice none 0 0]⟩ 115 (0,0)),(bm,mO x.L x.cs x.gen x.acc x.pn x.cn x.pc x.cc)] A F [⟨x.pg,aG x.got,x.kg,62,1⟩,⟨x.pm,aG x.made,x.km,62,1⟩,⟨x.pl,aG x.cel,x.kl,27,1⟩,⟨x.pe,aG x.gns,x.ke,3,1⟩,⟨x.pn,gR x.L,x.cn,77,14⟩,⟨x.pc,aG x.cs,x.cc,62,1⟩] w:=h
theorem bX{w0 w:World}{D:List Nat}{k:Cl}{bx bm:Nat}{x:XS}{dn:Bool}{rs:Rs}{A F:Fr}(h:SF w0 D (xH k bx bm x dn rs) A F (xW x) w) :
  SF w0 D [(bx,.cells ⟨xoC k bm x dn rs⟩ 115 (0,0)),(bm,mO x.L x.cs x.gen x.acc x.pn x.cn x.pc x.cc)] A F [⟨x.pg,aG x.got,x.kg,62,1⟩,⟨x.pm,aG x.made,x.km,62,1⟩,⟨x.pl,aG x.cel,x.kl,27,1⟩,⟨x.pe,aG x.gns,x.ke,3,1⟩,⟨x.pn,gR x.L,x.cn,77,14⟩,⟨x.pc,aG x.cs,x.cc,62,1⟩] w:=h
end

/- A store of several cells into a known block. -/
end Go.Proofs.YtadnboagdhcedaaGreatDoor
namespace Go.Ct
section
open Go Go.RowKit
section
variable{P:Program}{n:Nat}{ds:List Deferred}{Q:Exit->Act->World->Prop}{ks:List CK}{S:List (Nat×Value)}{G:World->Prop}{ops:Array Oper}{l:List Oper}
variable{w0:World}{M:List Nat}{H:List (Nat×Obj)}{A F:Fr}{O:List Ow}
variable{d:Nat}{ty t:TypeId}{pos:String}{af:Array Edge}{gd:Option (Nat×Bool)}{dst:Option Nat}{x y:Operand}{v:Value}{w w':World}
theorem pG{b off i:Nat}{vs bM cs:List Value}{T:TypeId}{H':List (Nat×Obj)}(hx:ev S x=.pointer (some ⟨b,off,none⟩))(ha:At H i b (.cells ⟨bM⟩ T (0,0)))(hy:ev S y=.agg ⟨vs⟩)(h1:vs.all (·.oneCell')=true)
  (ht:jO P t vs.length=true) (hl:off+vs.length<=bM.length) (hcs:bM.take off++vs++bM.drop (off+vs.length)=cs) (hH:setAt H i (.cells ⟨cs⟩ T (0,0))=H') :
  bI P S (St w0 M H) ⟨none,.store t x y,ty,pos,af,gd⟩ Unit (λ _=>undef) (λ _=>St w0 M H') :=
 vH (λ w hw=>by
  subst hH hcs
  have hb:=hw.at ha
  obtain⟨dd,hu,hm,hi⟩:=iD ht
  have hst:=run_storeCells_at (P:=P) b off T vs 0 ⟨bM⟩ w hb (by simpa using hl) (by simpa using h1)
  simp only[Nat.add_zero] at hst
  refine⟨w.setRow b ⟨bM.take off++vs++bM.drop (off+vs.length)⟩,?_,hw.write ha rfl rfl rfl (by simp) (λ k hk=>setRow_other w b k _ hk) (setRow_heap w b ⟨bM⟩ _ T (0,0) hb)⟩
  cases hq':P.info? t with
  | none=>rw[hq'] at hi;simp at hi
  | some inf =>
   have hs:inf.size=vs.length:=by rw[hq'] at hi;simpa using hi
   simp[execOp,hx,hy,Instr.storeAt,Instr.sureAddr,storeVar,sizeOf,typeInfo,hq',hs,Value.cells,hst])
end
end

/- Executions of the reference: known, load, cas. -/
section
def XS.kn(x:XS)(a:Ac):XS:=if x.st=true then x else if x.a<x.got.length then{x with a:=x.a+1} else if x.fr=0 then{x with st:=true,nx:=a} else{x with fr:=x.fr-1}
def XS.bM(x:XS):Bool:=!x.st&&decide (x.a<x.got.length)
def XS.now(x:XS):Bool:=!x.st&&!decide (x.a<x.got.length)&&!decide (x.fr=0)
theorem XS.o5{x:XS}{a:Ac}(h:x.st=true):x.kn a=x/\x.bM=false/\x.now=false:=⟨if_pos h,by simp[XS.bM,h],by simp[XS.now,h]⟩
theorem XS.W3{x:XS}{a:Ac}(h:x.st=false)(h1:x.a<x.got.length):x.kn a={x with a:=x.a+1}/\x.bM=true/\x.now=false:=⟨by unfold XS.kn;rw[if_neg (by rw[h];decide),if_pos h1],by simp[XS.bM,h,h1],by simp[XS.now,h1]⟩
theorem XS.n8{x:XS}{a:Ac}(h:x.st=false)(h1:¬x.a<x.got.length)(h2:x.fr=0):x.kn a={x with st:=true,nx:=a}/\x.bM=false/\x.now=false:=⟨by unfold XS.kn;rw[if_neg (by rw[h];decide),if_neg h1,if_pos h2],by simp[XS.bM,h1],by simp[XS.now,h2]⟩
theorem XS.Xq{x:XS}{a:Ac}(h:x.st=false)(h1:¬x.a<x.got.length)(h2:¬x.fr=0):x.kn a={x with fr:=x.fr-1}/\x.bM=false/\x.now=true:=⟨by unfold XS.kn;rw[if_neg (by rw[h];decide),if_neg h1,if_neg h2],by simp[XS.bM,h1],by simp[XS.now,h,h1,h2]⟩
end
end Go.Ct
namespace Go.Proofs.YtadnboagdhcedaaGreatDoor
section
open Go Go.RowKit Go.Ct
section
variable{k:Cl}{bx bm:Nat}{x:XS}{dn:Bool}{rs:Rs}{D:List Nat}{A:Fr}{w:World}
theorem Cq(a:Ac)(ok:x.Ok)(hs:SF w D (xH k bx bm x dn rs) A [] (xW x) w):Calls Tryz.prog 142 #[.pointer (some ⟨bx,0,none⟩),.agg ⟨a.cells⟩] w λ e w'=>∃q:Unit,e=.returned (.tuple #[.bool x.bM,.bool x.now])/\True/\SF w D (xH k bx bm (x.kn a) dn rs) [] [] (xW (x.kn a)) w':=by
 have h1:=ok.lg
 have h2:=ok.la
 have h3:=ok.fr
 refine enter Tryz.func142 Tryz.ntmps142 rfl rfl (xx hs) ?_
 simp only[cO]
 refine J0 ?_;refine bQ (λ x3=>?_);refine J8 ?_;refine aR ?_;refine Kc6 ?_
 refine aZ (λ c9=>?_) (λ c9=>?_)
 ·refine Gc ?_
  refine bK Tryz.results142 (λ w hw=>?_)
  obtain⟨e1,e2,e3⟩:=XS.o5 (a:=a) c9
  rw[e1,e2,e3]
  exact⟨(),rfl,trivial,hw.aS⟩
 ·refine jM ?_;refine aR ?_;refine fJ [0,1,2,3,4,5,6,7,8,9] ?_;refine Cx ?_;refine lN ?_;refine Bh ?_;refine dS ?_
  refine aZ (λ c19=>?_) (λ c19=>?_)
  ·refine mV ?_;refine Ey ?_;refine Vr ?_;refine Gc ?_
   refine bK Tryz.results142 (λ w hw=>?_)
   obtain⟨e1,e2,e3⟩:=XS.W3 (a:=a) c9 (by omega)
   rw[e1,e2,e3]
   exact⟨(),rfl,trivial,hw.aS⟩
  ·refine jM ?_;refine mV ?_;refine sX ?_
   refine aZ (λ c31=>?_) (λ c31=>?_)
   ·refine aR ?_;refine eG [(0,[]),(1,[]),(2,[]),(3,[]),(4,[]),(5,[2]),(6,[]),(7,[]),(8,[])] ?_;refine gP ?_;refine bO ?_;refine J4 ?_;refine nU (h:=λ _=>?_);refine J4 ?_;refine lZ (i:=8) (hq:=(sY λ _=>pG (off:=36) (vs:=a.cells) rf dV rf rfl fX (Nat.le_of_ble_eq_true rfl) rf xL)) (h:=λ _=>?_);refine dS ?_;refine Gc ?_
    refine bK Tryz.results142 (λ w hw=>?_)
    obtain⟨e1,e2,e3⟩:=XS.n8 (a:=a) c9 (by omega) (by omega)
    rw[e1,e2,e3]
    exact⟨(),rfl,trivial,hw.aS⟩
   ·refine um ?_;refine pF ?_;refine Vr ?_;refine Gc ?_
    refine bK Tryz.results142 (λ w hw=>?_)
    obtain⟨e1,e2,e3⟩:=XS.Xq (a:=a) c9 (by omega) (by omega)
    rw[e1,e2,e3]
    exact⟨(),rfl,trivial,hw.aS⟩
theorem M4(a:Ac)(ok:x.Ok)(h:x.st=true)(hs:SF w D (xH k bx bm x dn rs) A [] (xW x) w):Calls Tryz.prog 142 #[.pointer (some ⟨bx,0,none⟩),.agg ⟨a.cells⟩] w λ e w'=>∃q:Unit,e=.returned (.tuple #[.bool false,.bool false])/\True/\SF w D (xH k bx bm x dn rs) [] [] (xW x) w':=by
 obtain⟨e1,e2,e3⟩:=XS.o5 (a:=a) h
 have:=Cq (k:=k) (bx:=bx) (bm:=bm) (dn:=dn) (rs:=rs) (D:=D) (A:=A) (w:=w) a ok hs
 rw[e1,e2,e3] at this
 exact this
theorem H0(a:Ac)(ok:x.Ok)(h:x.st=false)(h1:x.a<x.got.length)(hs:SF w D (xH k bx bm x dn rs) A [] (xW x) w):Calls Tryz.prog 142 #[.pointer (some ⟨bx,0,none⟩),.agg ⟨a.cells⟩] w λ e w'=>∃q:Unit,e=.returned (.tuple #[.bool true,.bool false])/\True/\SF w D (xH k bx bm {x with a:=x.a+1} dn rs) [] [] (xW {x with a:=x.a+1}) w':=by
 obtain⟨e1,e2,e3⟩:=XS.W3 (a:=a) h h1
 have:=Cq (k:=k) (bx:=bx) (bm:=bm) (dn:=dn) (rs:=rs) (D:=D) (A:=A) (w:=w) a ok hs
 rw[e1,e2,e3] at this
 exact this
theorem Lw(a:Ac)(ok:x.Ok)(h:x.st=false)(h1:¬x.a<x.got.length)(h2:x.fr=0)(hs:SF w D (xH k bx bm x dn rs) A [] (xW x) w):Calls Tryz.prog 142 #[.pointer (some ⟨bx,0,none⟩),.agg ⟨a.cells⟩] w λ e w'=>∃q:Unit,e=.returned (.tuple #[.bool false,.bool false])/\True/\SF w D (xH k bx bm {x with st:=true,nx:=a} dn rs) [] [] (xW {x with st:=true,nx:=a}) w':=by
 obtain⟨e1,e2,e3⟩:=XS.n8 (a:=a) h h1 h2
 have:=Cq (k:=k) (bx:=bx) (bm:=bm) (dn:=dn) (rs:=rs) (D:=D) (A:=A) (w:=w) a ok hs
 rw[e1,e2,e3] at this
 exact this
theorem Gj(a:Ac)(ok:x.Ok)(h:x.st=false)(h1:¬x.a<x.got.length)(h2:¬x.fr=0)(hs:SF w D (xH k bx bm x dn rs) A [] (xW x) w):Calls Tryz.prog 142 #[.pointer (some ⟨bx,0,none⟩),.agg ⟨a.cells⟩] w λ e w'=>∃q:Unit,e=.returned (.tuple #[.bool false,.bool true])/\True/\SF w D (xH k bx bm {x with fr:=x.fr-1} dn rs) [] [] (xW {x with fr:=x.fr-1}) w':=by
 obtain⟨e1,e2,e3⟩:=XS.Xq (a:=a) h h1 h2
 have:=Cq (k:=k) (bx:=bx) (bm:=bm) (dn:=dn) (rs:=rs) (D:=D) (A:=A) (w:=w) a ok hs
 rw[e1,e2,e3] at this
 exact this
theorem j1(c:Int)(ok:x.Ok)(h:x.st=true)(hs:SF w D (xH k bx bm x dn rs) A [] (xW x) w):Calls Tryz.prog 109 #[.pointer (some ⟨bx,0,none⟩),.int .i64 c] w λ e w'=>∃q:Unit,e=.returned (.int .i64 0)/\True/\SF w D (xH k bx bm x dn rs) [] [] (xW x) w':=by
 refine enter Tryz.func109 Tryz.ntmps109 rfl rfl (bX hs) ?_
 simp only[cO]
 refine cQ ?_;refine iR ?_;refine bG ?_;refine aC (cM (hs:=xH k bx bm x dn rs) (os:=xW x) (hc:=λ w hs=>M4 ⟨1,c,0,0⟩ ok h hs)) (λ x11 h11=>?_);refine Kb8 ?_;refine aI ?_
 refine aZ (λ c14=>?_) (λ c14=>?_)
 ·exact nv c14
 ·try (exact abt)
  refine jM ?_;refine J2 ?_;refine E8 ?_
  (refine Ka6 ?_)
  refine Rb ?_;refine aI ?_
  refine aZ (λ c43=>?_) (λ c43=>?_)
  ·try (exact abt)
   refine cQ ?_
   refine aQ Tryz.results109 (λ w hw=>?_)
   exact⟨(),rfl,trivial,hw.aS⟩
  ·exact nv c43
theorem jn(c:Int)(ok:x.Ok)(h:x.st=false)(h1:¬x.a<x.got.length)(h2:x.fr=0)(hs:SF w D (xH k bx bm x dn rs) A [] (xW x) w):Calls Tryz.prog 109 #[.pointer (some ⟨bx,0,none⟩),.int .i64 c] w λ e w'=>∃q:Unit,e=.returned (.int .i64 0)/\True/\SF w D (xH k bx bm {x with st:=true,nx:=⟨1,c,0,0⟩} dn rs) [] [] (xW {x with st:=true,nx:=⟨1,c,0,0⟩}) w':=by
 refine enter Tryz.func109 Tryz.ntmps109 rfl rfl (bX hs) ?_
 simp only[cO]
 refine cQ ?_;refine iR ?_;refine bG ?_;refine aC (cM (hs:=xH k bx bm x dn rs) (os:=xW x) (hc:=λ w hs=>Lw ⟨1,c,0,0⟩ ok h h1 h2 hs)) (λ x11 h11=>?_);refine Kb8 ?_;refine aI ?_
 refine aZ (λ c14=>?_) (λ c14=>?_)
 ·exact nv c14
 ·try (exact abt)
  refine jM ?_;refine J2 ?_;refine E8 ?_
  (refine Ka6 ?_)
  refine Rb ?_;refine aI ?_
  refine aZ (λ c43=>?_) (λ c43=>?_)
  ·try (exact abt)
   refine cQ ?_
   refine aQ Tryz.results109 (λ w hw=>?_)
   exact⟨(),rfl,trivial,hw.aS⟩
  ·exact nv c43
theorem Dw(c:Int)(ok:x.Ok)(h:x.st=false)(h1:x.a<x.got.length)(hs:SF w D (xH k bx bm x dn rs) A [] (xW x) w):Calls Tryz.prog 109 #[.pointer (some ⟨bx,0,none⟩),.int .i64 c] w λ e w'=>∃q:Unit,e=.returned (.int .i64 (x.got.getD x.a 0))/\True/\SF w D (xH k bx bm {x with a:=x.a+1} dn rs) [] [] (xW {x with a:=x.a+1}) w':=by
 have hg:=ok.lg
 refine enter Tryz.func109 Tryz.ntmps109 rfl rfl (bX hs) ?_
 simp only[cO]
 refine cQ ?_;refine iR ?_;refine bG ?_;refine aC (cM (hs:=xH k bx bm x dn rs) (os:=xW x) (hc:=λ w hs=>H0 ⟨1,c,0,0⟩ ok h h1 hs)) (λ x11 h11=>?_);refine Kb8 ?_;refine aI ?_
 refine aZ (λ c14=>?_) (λ c14=>?_)
 ·exact nv c14
 ·try (exact abt)
  refine jM ?_;refine J2 ?_;refine E8 ?_
  refine aH ?_
  refine Rb ?_;refine aI ?_
  refine aZ (λ c43=>?_) (λ c43=>?_)
  ·exact nv c43
  ·try (exact abt)
   refine jM ?_;refine fJ [0,1,2,3,4,5,6,7,8,9,10,11] ?_;refine Cx ?_;refine cJ (i:=8) (hq:=(iV (m:=x.a+1) (n:=1) rf rf (by omega) (by omega))) (h:=?_);refine bJ (i:=9) (hq:=(cA (m:=x.got.length) (k:=x.a+1-1) (lst:=x.got) rf rf fC gB (.own .head) (by omega) (by omega))) (h:=?_);refine bJ (i:=10) (hq:=(cW (q:=x.a+1-1) (lst:=x.got) rf gB (.own .head) (by omega))) (h:=?_);refine J7 ?_
   refine aQ Tryz.results109 (λ w hw=>?_)
   exact⟨(),by rw[Nat.add_sub_cancel];rfl,trivial,hw.aS⟩
theorem Y8(c:Int)(hc:c<=9223372036854775807)(ok:x.Ok)(h:x.st=false)(h1:¬x.a<x.got.length)(h2:¬x.fr=0)(hs:SF w D (xH k bx bm x dn rs) A [] (xW x) w):Calls Tryz.prog 109 #[.pointer (some ⟨bx,0,none⟩),.int .i64 c] w λ e w'=>∃q:Option Addr×Nat,e=.returned (.int .i64 (bV x.cs c))/\True/\SF w D (xH k bx bm {x with fr:=x.fr-1,acc:=up x.acc,got:=x.got++[bV x.cs c],pg:=q.1,kg:=q.2,a:=x.a+1} dn rs) [] [] (xW {x with fr:=x.fr-1,acc:=up x.acc,got:=x.got++[bV x.cs c],pg:=q.1,kg:=q.2,a:=x.a+1}) w':=by
 have hg:=ok.lg
 have ha:=ok.la
 have hlc:=ok.lc
 refine enter Tryz.func109 Tryz.ntmps109 rfl rfl (bX hs) ?_
 simp only[cO]
 refine cQ ?_;refine iR ?_;refine bG ?_;refine aC (cM (hs:=xH k bx bm x dn rs) (os:=xW x) (hc:=λ w hs=>Gj ⟨1,c,0,0⟩ ok h h1 h2 hs)) (λ x11 h11=>?_);refine Kb8 ?_;refine aI ?_
 refine aZ (λ c14=>?_) (λ c14=>?_)
 ·try (exact abt)
  refine eG [(0,[]),(1,[]),(2,[]),(3,[]),(4,[]),(5,[]),(6,[]),(7,[]),(8,[]),(9,[]),(10,[]),(14,[]),(15,[]),(16,[]),(17,[]),(18,[]),(11,[5,17]),(12,[5,17]),(13,[17]),(19,[]),(20,[]),(21,[]),(22,[]),(23,[]),(24,[])] ?_;refine gP ?_;refine Cx ?_;refine ud ?_;refine cJ (i:=18) (hq:=(lT (m:=x.a) (n:=1) rf rf (by omega))) (h:=?_);refine bC (i:=11) (hq:=(cM (hc:=λ w hs=>jy (L:=x.L) (cs:=x.cs) hs c hc (by omega)))) (h:=λ x26 h26=>?_);refine cU (h:=λ x27=>?_);((refine cY (i:=13) (hq:=(bI.eZ (qT (l:=x.got) (v:=bV x.cs c) (m:=x.got.length) rf rf .head rfl fin Xg fC (by omega)) xN)) (h:=λ x28=>?_);try (refine fW (λ h28=>?_))));refine J4 ?_;refine lZ (i:=21) (hq:=(by exact sY λ _=>eA rf dV wn rf gB rf rf xL)) (h:=λ _=>?_);refine J4 ?_;refine lZ (i:=24) (hq:=(by exact sY λ _=>eA rf dV wn rf gB rf rf xL)) (h:=λ _=>?_);refine dS ?_;refine kT ?_;refine E8 ?_
  (refine Ka6 ?_)
  refine Rb ?_;refine aI ?_
  refine aZ (λ c43=>?_) (λ c43=>?_)
  ·exact nv c43
  ·try (exact abt)
   refine jM ?_;refine fJ [0,1,2,3,4,5,6,7,8,9,10,11] ?_;refine Cx ?_;refine cJ (i:=8) (hq:=(iV (m:=x.a+1) (n:=1) rf rf (by omega) (by omega))) (h:=?_);refine bJ (i:=9) (hq:=(cA (m:=x.got.length+1) (k:=x.a+1-1) (lst:=x.got++[bV x.cs c]) rf rf fC gB (.own .head) (by omega) (by rw[List.length_append,List.length_cons,List.length_nil];omega))) (h:=?_);refine bJ (i:=10) (hq:=(cW (q:=x.a+1-1) (lst:=x.got++[bV x.cs c]) rf gB (.own .head) (by rw[List.length_append,List.length_cons,List.length_nil];omega))) (h:=?_);refine J7 ?_
   refine aQ Tryz.results109 (λ w hw=>?_)
   rw[show x.got.length+1=(x.got++[bV x.cs c]).length by simp] at hw
   exact⟨x28,by rw[show(x.got++[bV x.cs c]).getD (x.a+1-1) 0=bV x.cs c by rw[show x.a+1-1=x.got.length by omega,fI,List.getElem?_append_right (Nat.le_refl _)];simp];rfl,trivial,hw.aS⟩
 ·exact nv c14
end
end

end Go.Proofs.YtadnboagdhcedaaGreatDoor

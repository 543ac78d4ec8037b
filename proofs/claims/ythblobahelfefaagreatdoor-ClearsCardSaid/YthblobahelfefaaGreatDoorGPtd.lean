/- Merged. -/
import Derived.Test.YthblobahelfefaaGreatDoorGDu2
set_option linter.unusedSimpArgs false
set_option linter.unusedVariables false
namespace Go.Ct
open Go Go.RowKit
section
def Mm.fZ(s:Mm):List NI->Mm
 | []=>s
 | a::l=>Mm.fZ (s.push a.c0 a.init) l
theorem pA:∀(l:List NI) (s:Mm),s.fZ l=⟨s.nodes++tV l s.cs.length,kO l s.cs,s.gen,s.pv⟩
 | [],s=>by show s=_;rw[show tV [] s.cs.length=[] from rfl,List.append_nil];rfl
 | a::l,s=>by
  show(s.push a.c0 a.init).fZ l=_;rw[pA l];have e:(gJ a.n.kind s.cs a.init).length=s.cs.length+nC a.n.kind:=qY _ _ _;unfold Mm.push;simp only[tV,List.append_assoc,List.cons_append,List.nil_append]
  rw[show a.c0.kind=a.n.kind from rfl,e];rfl
theorem mK(l:List NI)(s:Mm):(s.fZ l).nodes.length=s.nodes.length+l.length:=by rw[pA];simp[nA]
def aFN(n:Nat)(a:NI):Prop:=rH (n+1) 0 {a.c0 with main:=0,prev:=0,status:=0}/\a.init<=n+1
def Be:Nat->List NI->Prop
 | _,[]=>True
 | n,a::l=>aFN n a/\Be (n+1) l
theorem Be.dg:∀{l r:List NI} {n:Nat},Be n l->Be (n+l.length) r->Be n (l++r)
 | [],_,_,_,h=>h
 | a::l,r,n,h,h2=>⟨h.1,Be.dg h.2 (by rw[show n+1+l.length=n+(a::l).length by simp only[List.length_cons];omega];exact h2)⟩
theorem To.fZ:∀{l:List NI} {s:Mm},To s->Be s.nodes.length l->To (s.fZ l)
 | [],_,h,_=>h
 | a::l,s,h,h2=>To.fZ (l:=l) (h.aBj (h2.1.1.mono (Nat.le_refl _) (Nat.zero_le _)) (by have:=h2.1.2;exact this)) (by
  have e:(s.push a.c0 a.init).nodes.length=s.nodes.length+1:=by show(_++[_]).length=_;rw[List.length_append];rfl
  rw[e];exact h2.2)
end
end Go.Ct
namespace Go.Proofs.YthblobahelfefaaGreatDoor
open Go Go.RowKit Go.Ct
section
abbrev aFC(a:AS)(d:DX)(l:List NI):AS:=⟨a.L++d.L,kO l a.cs,a.gen,a.acc,d.pn,d.cn,d.pc,d.cc,a.u,a.po,a.pl⟩
theorem aBN{x:Int}{h0 h:Nat}{p:Pr}{k:ByteArray}{u gen:Int}{f:Nat}(hf:1<=f)(hx:x<f)(hh:h<18446744073709551616)(hx0:0<=x):∀n lvl,Be (f-1) (dN x h0 h p k u gen f n lvl)
 | 0,lvl=>by
  unfold dN
  split
  ·exact⟨⟨⟨fQ _,fQ _,fQ _,(λ r hr=>nomatch hr),fQ _,fQ _,fQ _,⟨0,rfl,by decide⟩,⟨h,rfl,hh⟩⟩,fQ _⟩,trivial⟩
  ·refine⟨⟨⟨fQ _,fQ _,fQ _,(λ r hr=>nomatch hr),fQ _,fQ _,fQ _,⟨0,rfl,by decide⟩,⟨h,rfl,hh⟩⟩,fQ _⟩,⟨⟨fQ _,fQ _,fQ _,λ r hr=>?_,fQ _,fQ _,fQ _,⟨_,rfl,Bf (Bf (by decide) _) _⟩,⟨0,rfl,by decide⟩⟩,fQ _⟩,trivial⟩;have hr2:r∈two (sl h0 lvl) (sl h lvl) x (f:Int):=hr;unfold two at hr2;split at hr2<;>simp only[List.mem_cons,List.not_mem_nil,or_false] at hr2<;>omega
 | n+1,lvl=>by
  have ih:=aBN (h0:=h0) (p:=p) (k:=k) (u:=u) (gen:=gen) hf hx hh hx0 n (lvl+1);unfold dN;refine Be.dg ih ⟨⟨⟨fQ _,fQ _,fQ _,(λ r hr=>nomatch hr),fQ _,fQ _,fQ _,⟨0,rfl,by decide⟩,⟨0,rfl,by decide⟩⟩,by show((_:Nat):Int)<=_;omega⟩,⟨⟨fQ _,fQ _,fQ _,λ r hr=>?_,fQ _,fQ _,fQ _,⟨_,rfl,Bf (by decide) _⟩,⟨0,rfl,by decide⟩⟩,fQ _⟩,trivial⟩;have hr2:r∈[((f+(dN x h0 h p k u gen f n (lvl+1)).length:Nat):Int)]:=hr;rw[List.mem_singleton] at hr2;omega
theorem Ys{x:Int}{h0 h:Nat}{p:Pr}{k:ByteArray}{u g:Int}:∀(n lvl:Nat),∃a:NI,∀f,∃l,dN x h0 h p k u g f n lvl=a::l
 | 0,lvl=>by
  by_cases e:lvl=11
  ·exact⟨_,λ f=>⟨[],by unfold dN;rw[if_pos e]⟩⟩
  ·exact⟨vM h k u,λ f=>⟨_,by unfold dN;rw[if_neg e]⟩⟩
 | n+1,lvl=>by
  obtain⟨a,h1⟩:=Ys (x:=x) (h0:=h0) (h:=h) (p:=p) (k:=k) (u:=u) (g:=g) n (lvl+1)
  exact⟨a,λ f=>by
   obtain⟨l,e⟩:=h1 f
   exact⟨_,by unfold dN;rw[e];rfl⟩⟩
section
variable{b:Nat}{c:jG}{s s2:Mm}{cd:Cd}{B:Fr}{x gen:Int}{level:Nat}{K:Int->Tr}
theorem kj:∀(l:List NI) (r:Int) (s:Mm),dZ b (K (if l=[] then r else((s.nodes.length+l.length:Nat):Int))) (s.fZ l) cd s2 B->dZ b (El l r K) s cd s2 B
 | [],r,s,h=>h
 | a::l,r,s,h=>by
  show dZ b (El l ((s.nodes.length+1:Nat):Int) K) (s.push a.c0 a.init) cd s2 B;refine kj l _ _ ?_;have e:(s.push a.c0 a.init).nodes.length=s.nodes.length+1:=by show(_++[_]).length=_;rw[List.length_append];rfl
  rw[e];rw[if_neg (List.cons_ne_nil a l)] at h;cases l with
  | nil=>exact h
  | cons a2 l=>rw[if_neg (List.cons_ne_nil a2 l)];rw[show s.nodes.length+1+(a2::l).length=s.nodes.length+(a::a2::l).length by simp only[List.length_cons];omega];exact h
theorem Y8:∀(l:List NI) (r:Int) (s:Mm),Ct.iR (El l r K) s=Ct.iR (K (if l=[] then r else((s.nodes.length+l.length:Nat):Int))) (s.fZ l)
 | [],r,s=>rfl
 | a::l,r,s=>by
  show Ct.iR (El l ((s.nodes.length+1:Nat):Int) K) (s.push a.c0 a.init)=_;rw[Y8 l];have e:(s.push a.c0 a.init).nodes.length=s.nodes.length+1:=by show(_++[_]).length=_;rw[List.length_append];rfl
  rw[e,if_neg (List.cons_ne_nil a l)];cases l with
  | nil=>rfl
  | cons a2 l=>rw[if_neg (List.cons_ne_nil a2 l)];rw[show s.nodes.length+1+(a2::l).length=s.nodes.length+(a::a2::l).length by simp only[List.length_cons];omega];rfl
abbrev dL(c:jG)(s:Mm)(x gen:Int)(level:Nat):List NI:=ma x (aB s.nodes x).hash.toNat c.h ((aB s.nodes x).key,(aB s.nodes x).val) c.key c.val gen (s.nodes.length+1) level
theorem Ci(hok:lO c (aB s.nodes x) level gen x):∃a l,dL c s x gen level=a::l/\∀K:Int->Tr,(if lO c (aB s.nodes x) level gen x then
 Tr.alloc ((ma x (aB s.nodes x).hash.toNat c.h ((aB s.nodes x).key,(aB s.nodes x).val) c.key c.val gen 0 level).headD NI.no).c0 ((ma x (aB s.nodes x).hash.toNat c.h ((aB s.nodes x).key,(aB s.nodes x).val) c.key c.val gen 0 level).headD NI.no).init λ f =>
 El (ma x (aB s.nodes x).hash.toNat c.h ((aB s.nodes x).key,(aB s.nodes x).val) c.key c.val gen f.toNat level).tail f K
 else .stuck)=.alloc a.c0 a.init λ f=>El (ma x (aB s.nodes x).hash.toNat c.h ((aB s.nodes x).key,(aB s.nodes x).val) c.key c.val gen f.toNat level).tail f K:=by obtain⟨a,h⟩:=Ys (x:=x) (h0:=(aB s.nodes x).hash.toNat) (h:=c.h) (p:=((aB s.nodes x).key,(aB s.nodes x).val)) (k:=c.key) (u:=c.val) (g:=gen) (mU (aB s.nodes x).hash.toNat c.h-level) level;obtain⟨l,e⟩:=h (s.nodes.length+1);obtain⟨l0,e0⟩:=h 0;refine⟨a,l,e,λ K=>?_⟩;rw[if_pos hok];have e1:ma x (aB s.nodes x).hash.toNat c.h ((aB s.nodes x).key,(aB s.nodes x).val) c.key c.val gen 0 level=a::l0:=e0;rw[e1];rfl
theorem Wd(hx:x<=s.nodes.length)(hok:lO c (aB s.nodes x) level gen x)(h:dZ b (K ((s.nodes.length+(dL c s x gen level).length:Nat):Int)) (s.fZ (dL c s x gen level)) cd s2 B):dZ b (yD c x level gen K) s cd s2 B:=by obtain⟨a,l,e,h1⟩:=Ci (s:=s) hok;refine⟨hx,?_⟩;dsimp only;rw[h1];show dZ b (El (dL c s x gen level).tail ((s.nodes.length+1:Nat):Int) K) (s.push a.c0 a.init) cd s2 B;have h2:=kj (b:=b) (K:=K) (cd:=cd) (s2:=s2) (B:=B) (a::l) 0 s;rw[e] at h ⊢;exact h2 (by rw[if_neg (List.cons_ne_nil a l)];exact h)
theorem Gk:∀(l:List NI) (r:Int) (s:Mm),dZ b (El l r K) s cd s2 B->dZ b (K (if l=[] then r else((s.nodes.length+l.length:Nat):Int))) (s.fZ l) cd s2 B
 | [],r,s,h=>h
 | a::l,r,s,h=>by
  have h2:=Gk l ((s.nodes.length+1:Nat):Int) (s.push a.c0 a.init) h;have e:(s.push a.c0 a.init).nodes.length=s.nodes.length+1:=by show(_++[_]).length=_;rw[List.length_append];rfl
  rw[e] at h2;rw[if_neg (List.cons_ne_nil a l)];cases l with
  | nil=>exact h2
  | cons a2 l=>rw[if_neg (List.cons_ne_nil a2 l)] at h2;rw[show s.nodes.length+1+(a2::l).length=s.nodes.length+(a::a2::l).length by simp only[List.length_cons];omega] at h2;exact h2
theorem Sx(hok:lO c (aB s.nodes x) level gen x)(h:dZ b (yD c x level gen K) s cd s2 B):dZ b (K ((s.nodes.length+(dL c s x gen level).length:Nat):Int)) (s.fZ (dL c s x gen level)) cd s2 B:=by obtain⟨a,l,e,h1⟩:=Ci (s:=s) hok;have h0:=h.2;dsimp only at h0;rw[h1] at h0;have h2:=Gk (b:=b) (K:=K) (cd:=cd) (s2:=s2) (B:=B) (a::l) 0 s;rw[if_neg (List.cons_ne_nil a l)] at h2;have h3:dZ b (El (dL c s x gen level).tail ((s.nodes.length+1:Nat):Int) K) (s.push a.c0 a.init) cd s2 B:=h0;rw[e] at h3 ⊢;exact h2 h3
theorem R5(hok:lO c (aB s.nodes x) level gen x):Ct.iR (yD c x level gen K) s=Ct.iR (K ((s.nodes.length+(dL c s x gen level).length:Nat):Int)) (s.fZ (dL c s x gen level)):=by
 obtain⟨a,l,e,h1⟩:=Ci (s:=s) hok;unfold yD;rw[Ct.iR,h1];have h2:=Y8 (K:=K) (a::l) 0 s;rw[if_neg (List.cons_ne_nil a l)] at h2;rw[e,<- h2];show Ct.iR (El (dL c s x gen level).tail ((s.nodes.length+1:Nat):Int) K) (s.push a.c0 a.init)=_
 rw[e];rfl
theorem zf(h:Ns (yD c x level gen K) s):lO c (aB s.nodes x) level gen x:=by
 by_cases k:lO c (aB s.nodes x) level gen x;·exact k
 ·refine(h ?_).elim;unfold yD;rw[Ct.iR,if_neg k];rfl
end
section
variable{D:List Nat}{A:Fr}{a:AS}{b:Nat}{w:World}{c:jG}{x gen:Int}{level:Nat}
theorem tw(ok:a.Ok)(hm:a.mm.gM)(hx:x<=a.mm.nodes.length)(hok:lO c (aB a.mm.nodes x) level gen x)(hh:c.h<18446744073709551616)(hA:∀f∈cH a.L,f∈A)(hs:SF w D [(b,cX a)] A [] (iS a) w) :
  Calls Tryz.prog 285 #[.iface 51 (.pointer (some ⟨b,0,none⟩)),.int .i64 x,.int .u64 (c.h:Int),.string c.key,.int .u64 c.val,.int .i64 ((level:Nat):Int),.int .i64 gen] w λ e w' =>
   ∃y:AS×Fr,e=.returned (.tuple #[.int .i64 ((a.mm.nodes.length+(dL c a.mm x gen level).length:Nat):Int),.int .i64 0])/\(y.1.mm=a.mm.fZ (dL c a.mm x gen level)/\y.1.Ok/\a.eC y.1 y.2/\∀f∈cH y.1.L,f∈cH a.L∨f∈y.2) /\
   SF w D [(b,cX y.1)] [] y.2 (iS y.1) w':=by
 obtain⟨k1,k2,k3,k4,k5,k6,k7⟩:=hok;have hl:=Ob a;have ht1:=hm.1;have ht2:a.cs.length<=137438953000:=hm.2;have hv:=Wu (bM a.L) x;have hnv:(aV (bM a.L) x).c=aB a.mm.nodes x:=hv;have hb:=ok.mo.at x;obtain⟨h0,e0,hh0⟩:=hb.hash
 have e1:(aB a.mm.nodes x).hash.toNat=h0:=by rw[e0];rfl
 have he:xB (aV (bM a.L) x) h0 c.h c.key level gen=0:=by
  unfold xB;rw[if_neg (by omega),if_neg];rintro (h1|h1|h1|h1);·exact h1 (by rw[<- k1,<- hnv];rfl)
  ·omega
  ·exact k3 (by rw[h1,<- hnv];rfl)
  ·rw[e1] at k4;omega
 have hvh:(aV (bM a.L) x).nd.hash=(h0:Int):=by
  have h1:(aV (bM a.L) x).c.hash=(h0:Int):=by rw[hnv,e0]
  exact h1
 have hb:=aAD (k:=c.key) (u:=c.val) (gen:=gen) (lvl:=level) (x:=x) (v:=aV (bM a.L) x) (h0:=h0) (hs.aDp hA) ok.fit (by omega) (by omega) (by omega) rfl (λ _=>⟨hvh,k7⟩) hh0 hh (by omega)
 have hnl:Hi x (aV (bM a.L) x) h0 c.h c.key c.val gen (a.L.length+3) level=dL c a.mm x gen level:=by rw[E1 he];unfold dL ma;rw[e1,<- hnv,show a.mm.nodes.length+1=a.L.length+3 by omega];rfl
 rw[he,hnl] at hb;refine hb.mono λ e w' ⟨d,e2,⟨h1,h2⟩,hw⟩=>⟨(aFC a d (dL c a.mm x gen level),cH d.L),?_,⟨?_,⟨?_,?_⟩,⟨⟨?_,?_⟩,λ f hf=>?_⟩,λ f hf=>?_⟩,hw⟩;·rw[e2];show Ending.returned (.tuple #[.int .i64 ((a.L.length+3-1+(dL c a.mm x gen level).length:Nat):Int),_])=_;rw[show a.L.length+3-1+(dL c a.mm x gen level).length=a.mm.nodes.length+(dL c a.mm x gen level).length by omega]
 ·rw[pA];show(⟨(bM (a.L++d.L)).map dJ.c,_,_,_⟩:Mm)=⟨(bM a.L).map dJ.c++_,_,_,_⟩;have h3:(bM (a.L++d.L)).map dJ.c=(bM a.L).map dJ.c++d.L.map dJ.c:=by simp only[bM,List.map_cons,List.map_append,List.cons_append]
  rw[h3,h1];rfl
 ·exact λ v hv=>(List.mem_append.1 hv).elim (ok.fit v) (h2 v)
 ·have h3:(aFC a d (dL c a.mm x gen level)).mm=a.mm.fZ (dL c a.mm x gen level):=by
   rw[pA];show(⟨(bM (a.L++d.L)).map dJ.c,_,_,_⟩:Mm)=⟨(bM a.L).map dJ.c++_,_,_,_⟩;have h3:(bM (a.L++d.L)).map dJ.c=(bM a.L).map dJ.c++d.L.map dJ.c:=by simp only[bM,List.map_cons,List.map_append,List.cons_append]
   rw[h3,h1];rfl
  rw[h3];refine ok.mo.fZ ?_;have:=aBN (h0:=(aB a.mm.nodes x).hash.toNat) (p:=((aB a.mm.nodes x).key,(aB a.mm.nodes x).val)) (k:=c.key) (u:=c.val) (gen:=gen) (f:=a.mm.nodes.length+1) (x:=x) (by omega) (by omega) hh (by omega) (mU (aB a.mm.nodes x).hash.toNat c.h-level) level;rw[show a.mm.nodes.length+1-1=a.mm.nodes.length by omega] at this;exact this
 ·exact⟨d.L.map dJ.c,by show(bM (a.L++d.L)).map dJ.c=(bM a.L).map dJ.c++_;simp only[bM,List.map_cons,List.map_append,List.cons_append]⟩
 ·show a.cs.length<=(kO _ a.cs).length;rw[lR];have hle:∀(l:List NI) (n:Nat),n<=M1 l n:=λ l=>by
   induction l with
   | nil=>exact λ n=>Nat.le_refl _
   | cons q l ih=>exact λ n=>Nat.le_trans (Nat.le_add_right n (nC q.n.kind)) (ih _)
  exact hle _ _
 ·have hf2:f∈cH (a.L++d.L):=hf;rw[pW] at hf2;exact(List.mem_append.1 hf2).elim (λ h=>.inr (.inl h)) λ h=>.inr (.inr h)
 ·have hf2:f∈cH (a.L++d.L):=hf;rw[pW] at hf2;exact List.mem_append.1 hf2
end
end
end Go.Proofs.YthblobahelfefaaGreatDoor
namespace Go.Ct
open Go Go.RowKit
section
theorem Xq:∀(l:List NI) (n:Nat),n<=M1 l n
 | [],n=>Nat.le_refl _
 | q::l,n=>Nat.le_trans (Nat.le_add_right n (nC q.n.kind)) (Xq l _)
theorem aD5{a b:ByteArray}(h:a≠b):(a.toList==b.toList)=false:=by rw[Db];exact decide_eq_false h
theorem wy{P:Program}{S:List (Nat×Value)}{G:World->Prop}{d:Nat}{ty t t':TypeId}{pos:String}{af:Array Edge}{gd:Option (Nat×Bool)}{x y:Operand}{a b:ByteArray}(hx:ev S x=.string a)(hy:ev S y=.string b)(h:a≠b):aH P S G ⟨some d,.binOp .eql t x y t',ty,pos,af,gd⟩ (.bool false):=by have:=Gb (P:=P) (G:=G) (d:=d) (ty:=ty) (pos:=pos) (af:=af) (gd:=gd) (t:=t) (t':=t') hx hy;rwa [aD5 h] at this
end
end Go.Ct
namespace Go.Proofs.YthblobahelfefaaGreatDoor
open Go Go.RowKit Go.Ct
section
abbrev Qe(gen:Int):Nd:={Nd.zero with kind:=2,gen:=gen}
abbrev dI(s:Mm)(c:jG)(x gen:Int)(level:Nat):Nat:=s.nodes.length+(dL c s x gen level).length
theorem aCg(c:jG)(s:Mm)(x gen:Int)(level:Nat):(dL c s x gen level).length<=24:=by refine K1d ?_;intro h1 h2;show(dN x (aB s.nodes x).hash.toNat c.h ((aB s.nodes x).key,(aB s.nodes x).val) c.key c.val gen (s.nodes.length+1) (mU (aB s.nodes x).hash.toNat c.h-level) level).length<=24;omega
theorem qu(l:List NI)(s:Mm):(s.fZ l).cs.length<=s.cs.length+l.length:=by rw[pA];show(kO l s.cs).length<=_;rw[lR];exact N3 _ _
theorem Z6{b N:Nat}{n:Nv}{i:Int}{k:Int->Tr}{s s2:Mm}{cd:Cd}{B:Fr}(e:s.nodes.length=N)(h:dZ b (k ((N+1:Nat):Int)) (s.push n i) cd s2 B):dZ b (.alloc n i k) s cd s2 B:=by show dZ b (k ((s.nodes.length+1:Nat):Int)) (s.push n i) cd s2 B;rw[e];exact h
theorem u4(l:List NI)(s:Mm):s.cs.length<=(s.fZ l).cs.length:=by rw[pA];show _<=(kO l s.cs).length;rw[lR];exact Xq _ _
theorem s8(l:List NI)(s:Mm):(s.fZ l).pv=s.pv:=by rw[pA]
theorem aC8(a:AS)(n:Nd)(i:Int)(y:AX):(a.al n [] [] i y).mm.nodes.length=a.mm.nodes.length+1:=by rw[eU];show(_++[_]).length=_;rw[List.length_append];rfl
theorem aFa(a:AS)(n:Nd)(i:Int)(y:AX):(a.al n [] [] i y).mm.cs.length<=a.mm.cs.length+1:=by rw[eU];exact jZ.2
section
variable{D:List Nat}{A B:Fr}{a:AS}{b u:Nat}{w:World}{f:FuncId}{cap:xK}{t:nV}{c:jG}
theorem aCr{A F1 F2:Fr}{O:List Ow}{x:Option Addr×List Value}:bL A (x::(F1++(F2++[]))) O (x::(F1++(F2++A))):=bL.of λ f hf=>by
 simp only[List.mem_cons,List.mem_append] at hf;rcases hf with h|h|h|h;·exact .inr (.inr (.inl (by simp[h])))
 ·exact .inr (.inr (.inl (by simp[h])))
 ·exact .inr (.inr (.inl (by simp[h])))
 ·exact .inr (.inl h)
theorem aFf{A B F1 F2:Fr}{x:Option Addr×List Value}(h:∀f∈B,f∈A):∀f∈F1++(F2++B),f∈x::(F1++(F2++A)):=λ f hf=>by simp only[List.mem_cons,List.mem_append] at hf ⊢;exact .inr (hf.imp id λ h2=>h2.imp id (h f))
set_option maxRecDepth 100000 in
theorem zm{T:Tr}{level N:Nat}(hd:U7 b u c T)(ht:c.t.root<=9223372036854775807)(hh:c.h<18446744073709551616)(hlv:level<=100){g par r m:Int}{bb:Int}{sx:Nd}(hkey:sx.key≠c.key){v:dJ}(hv:rH a.mm.nodes.length a.mm.cs.length v.c)(hf:v.Fit)(hc1:v.xs.length<=v.nd.brC)(hAx:(v.nd.brA,aN v.xs)∈A)(hAy:(v.nd.prA,cY v.ys)∈A)(hpv:a.pv=((u,pO b c g par r ((level:Nat):Int)),E0))(hr:r<=a.mm.nodes.length)(hmm:m<=a.mm.nodes.length)(hbb:bb<=a.mm.nodes.length)
    (hN:N=dI a.mm c bb g (level+1)) (hdk:fG c false 0=true->lO c (aB a.mm.nodes bb) (level+1) g bb) (hin:fG c false 0=true->(Ji v (gO c.h level) ((N+1:Nat):Int)).isSome=true) (ok:a.Ok) (hm0:a.mm.gM) (hA:∀f∈cH a.L,f∈A) (hB:∀x∈B,x∈A) (hs:SF w D [(b,cX a),(a.u,a.po)] A [] (hU a) w) :
    Calls Tryz.prog 256 #[pt u,.int .i64 m,v.nd.v,.int .i64 (gO c.h level),.int .i64 bb,sx.v] w (kC b (λ c' s' B'=>dZ b (if fG c false 0=true then yD c bb (level+1) g λ d=>.alloc (dC g) d λ j=>.alloc (Kn v.c (gO c.h level) j) m λ q=>kQ c.t r m q (qP T false 0) else .done (dW false 0)) a.mm c' s' B') a B D w):=by
     obtain⟨a0,rfl⟩:∃a0:AS,a=AS.wp a0 u (pO b c g par r ((level:Nat):Int)):=⟨a,sX hpv⟩;have hm:=hm0.small;have hl24:=aCg c (AS.wp a0 u (pO b c g par r ((level:Nat):Int))).mm bb g (level+1);have hN2:(AS.wp a0 u (pO b c g par r ((level:Nat):Int))).mm.nodes.length<=N/\N<=(AS.wp a0 u (pO b c g par r ((level:Nat):Int))).mm.nodes.length+24:=by rw[hN];unfold dI;omega
     have hv2:rH (N+1) (AS.wp a0 u (pO b c g par r ((level:Nat):Int))).mm.cs.length v.c:=hv.mono (by omega) (Nat.le_refl _);refine enter Tryz.func256 Tryz.ntmps256 rfl rfl hs ?_;simp only[bY]
     simp only[Nd.v,Nd.cells];refine J0 ?_;refine bC (λ x8=>?_);refine bC (λ x11=>?_);refine aI (λ x12=>?_);refine Bz ?_;refine K0y ?_;refine iX ?_;refine nZ ?_;refine dA (i:=6) (hq:=(wy rf rf hkey)) (h:=?_);refine dY ?_;refine aX (λ c27=>?_) (λ c27=>?_);·exact nv c27
     ·refine mD ?_;refine J2 ?_;refine aK (cV (hc:=λ w1 hw=>pT (hw.st.at bU) false 0)) (λ x72=>?_);refine pG ?_;refine aX (λ c73=>?_) (λ c73=>?_);·refine J0 ?_;refine aK (cV (hc:=λ w1 hw=>pS false 0 w1)) (λ x74=>?_);refine aM (cK λ _=>aE rf bU rf (aW _) cW rf dV) (λ _=>?_);refine aC ?_;refine bJ Tryz.results256 (λ w hw=>?_);refine⟨(eS (dW false 0),[],AS.wp a0 u (pO b c g par r ((level:Nat):Int))),rfl,⟨?_,ok,AS.eC.refl _⟩,hw.rI⟩;rw[if_neg (by simpa using c73)];exact⟨rfl,rfl⟩
      ·refine mD ?_;refine gL [0,1,2,3,4,5,6,7,8,9,10,11,12,13,14,15,16,17,18,19,20,21,22,23,24,25,26,27,28,29,30,31,32] ?_;refine va ?_;refine aR ?_;refine bs ?_;refine bs ?_;refine dA (i:=22) (hq:=(Fq (k:=level) rf rf (by omega))) (h:=?_);refine nZ ?_;refine bS (i:=27) (hq:=(cM (V:=λ _:AS×Fr=>.tuple #[.int .i64 ((N:Nat):Int),.int .i64 0]) (hs:=[(b,cX (AS.wp a0 u (pO b c g par r ((level:Nat):Int))))]) (os:=iS (AS.wp a0 u (pO b c g par r ((level:Nat):Int)))) (hs':=λ y=>[(b,cX y.1)]) (os':=λ y=>iS y.1) (Fc:=λ y=>y.2) (A0:=A) (hc:=λ w1 hw=>by rw[hN];exact tw ok hm0 hbb (hdk (by simpa using c73)) hh hA hw))) (h:=λ x103 h103=>?_);obtain⟨y1,yF⟩:=x103;obtain⟨d1,d2,d3,d4⟩:=h103;dsimp only at d1 d2 d3 d4 ⊢;have hpv1:y1.pv=((u,pO b c g par r ((level:Nat):Int)),E0):=(congrArg Mm.pv d1).trans (s8 _ _);obtain⟨a1,rfl⟩:∃a1:AS,y1=AS.wp a1 u (pO b c g par r ((level:Nat):Int)):=⟨y1,sX hpv1⟩
       have dl1:(AS.wp a1 u (pO b c g par r ((level:Nat):Int))).mm.nodes.length=N:=by rw[d1,mK,hN]
       have dcl:(AS.wp a1 u (pO b c g par r ((level:Nat):Int))).mm.cs.length<=(AS.wp a0 u (pO b c g par r ((level:Nat):Int))).mm.cs.length+24:=by rw[d1];exact Nat.le_trans (qu _ _) (Nat.add_le_add_left hl24 _)
       have t1:=hm0.1;have t2:=hm0.2;have sm1:(AS.wp a1 u (pO b c g par r ((level:Nat):Int))).mm.Small:=⟨by omega,by omega⟩;have dok:∀y,((AS.wp a1 u (pO b c g par r ((level:Nat):Int))).al (Qe g) [] [] ((N:Nat):Int) y).Ok:=λ y=>d2.al y (by simp) (by simp) eh (by omega);have dl2:∀y,((AS.wp a1 u (pO b c g par r ((level:Nat):Int))).al (Qe g) [] [] ((N:Nat):Int) y).mm.nodes.length=N+1:=λ y=>by rw[aC8,dl1]
       have dm2:∀y,((AS.wp a1 u (pO b c g par r ((level:Nat):Int))).al (Qe g) [] [] ((N:Nat):Int) y).mm.nodes.length<=137438953100/\((AS.wp a1 u (pO b c g par r ((level:Nat):Int))).al (Qe g) [] [] ((N:Nat):Int) y).mm.cs.length<=137438953100:=λ y=>⟨by rw[dl2];omega,by have:=aFa (AS.wp a1 u (pO b c g par r ((level:Nat):Int))) (Qe g) ((N:Nat):Int) y;omega⟩
       have dv:∀y,rH (N+1) ((AS.wp a1 u (pO b c g par r ((level:Nat):Int))).al (Qe g) [] [] ((N:Nat):Int) y).mm.cs.length v.c:=λ y=>hv2.mono (Nat.le_refl _) (by
        rw[eU];have e1:=congrArg (λ s:Mm=>s.cs.length) d1;have e2:=u4 (dL c (AS.wp a0 u (pO b c g par r ((level:Nat):Int))).mm bb g (level+1)) (AS.wp a0 u (pO b c g par r ((level:Nat):Int))).mm;have e3:=jZ (k:=((Qe g).c [] []).kind) (cs:=(AS.wp a1 u (pO b c g par r ((level:Nat):Int))).mm.cs) (init:=((N:Nat):Int))
        exact Nat.le_trans e2 (Nat.le_trans (Nat.le_of_eq e1.symm) e3.1))
       refine K0x ?_;refine mg ?_;refine jF ?_;refine Kc0 ?_;refine aX (λ c107=>?_) (λ c107=>?_);·exact nv c107
       ·refine mD ?_;refine eQ [(0,[]),(1,[]),(2,[]),(3,[]),(4,[]),(5,[]),(6,[]),(7,[]),(8,[]),(10,[]),(11,[]),(12,[]),(9,[4]),(13,[]),(14,[])] ?_;refine va ?_;refine nZ ?_;refine aR ?_;refine dA (i:=11) (hq:=(fK rf)) (h:=?_);refine aR ?_;refine cB (i:=9) (hq:=(cV (hc:=λ w1 hw=>Fl g w1))) (h:=λ x120=>?_);refine bS (i:=13) (hq:=(Jc (V:=λ _:AX=>.int .i64 ((N+1:Nat):Int)) (hs:=[(b,cX (AS.wp a1 u (pO b c g par r ((level:Nat):Int))))]) (os:=iS (AS.wp a1 u (pO b c g par r ((level:Nat):Int)))) (A0:=[(none,aN []),(none,cY [])]) (hs':=λ y=>[(b,cX ((AS.wp a1 u (pO b c g par r ((level:Nat):Int))).al (Qe g) [] [] ((N:Nat):Int) y))]) (os':=λ y=>iS ((AS.wp a1 u (pO b c g par r ((level:Nat):Int))).al (Qe g) [] [] ((N:Nat):Int) y)) (Fc:=λ y=>(kP (Qe g) [] [] a1.cs.length y).fr) (hm:=λ w=>eK _ _ _ w) (hc:=λ w1 hw=>by rw[<- dl1];exact kY (n:=Qe g) (xs:=[]) (ys:=[]) d2 sm1 _ rfl rfl (by simp) (by simp) (λ f hf=>hf) hw))) (h:=λ x124 h124=>?_);refine J7 ?_;refine tB ?_;refine Jh ?_;refine aJ (cF (hc:=λ w1 hw=>L0 (n:=v.nd) (xs:=v.xs) (ys:=v.ys) (gO c.h level) ((N+1:Nat):Int) (gZ hv).1 (gZ hv).2 (hf.Fp (hw.cl (.old (lQ.dS hAx))) (hw.cl (.old (lQ.dS hAy)))) hc1 (Xo hv (hin (by simpa using c73))))) (λ x129 h129=>?_);refine Ot ?_;refine aI (λ x19=>?_);refine J46 ?_;refine lV ?_;refine bW ?_;refine aD ?_;refine aJ (jN (a:=(AS.wp a1 u (pO b c g par r ((level:Nat):Int))).al (Qe g) [] [] ((N:Nat):Int) x124) (A0:=(x129.1,aN (sQ (Ji v (gO c.h level) ((N+1:Nat):Int))))::((kP (Qe g) [] [] a1.cs.length x124).fr++(yF++A))) (B:=(kP (Qe g) [] [] a1.cs.length x124).fr++(yF++B)) (hA:=aCr) (λ w1 hw=>pM (a:=(AS.wp a1 u (pO b c g par r ((level:Nat):Int))).al (Qe g) [] [] ((N:Nat):Int) x124) (found:=false) (v:=0) (g:=g) (par:=par) (r:=r) (l:=((level:Nat):Int)) (m:=m) (ys:=[]) (nd:=Ig (Ji v (gO c.h level) ((N+1:Nat):Int)) x129) (xs:=sQ (Ji v (gO c.h level) ((N+1:Nat):Int))) hd ht (hin (by simpa using c73)) rfl (by rw[dl2];omega) (by rw[dl2];omega) (N7 _ _) (O8 _ _) (Mc (Wv hv2 (Int.le_refl _) _)) (Nat.zero_le _) (by rw[dl2];exact(Wv (dv x124) (Int.le_refl _) _).nvB x129) (.inr (by rw[Ny (hin (by simpa using c73))];exact .head _)) (.inl rfl) (dok x124) (dm2 x124) (λ f hf=>.tail _ (e8 (A:=yF++A) (λ f hf=>(d4 f hf).elim (λ h=>List.mem_append_right _ (hA f h)) λ h=>List.mem_append_left _ h) f hf)) (aFf hB) hw)) (λ x136 h136=>?_);refine aM (cK λ _=>aE rf bU rf (aW _) cW rf dV) (λ _=>?_);refine aC ?_;refine bJ Tryz.results256 (λ w hw=>?_);refine⟨(x136.1,x136.2.1++((x129.1,aN (sQ (Ji v (gO c.h level) ((N+1:Nat):Int))))::((kP (Qe g) [] [] a1.cs.length x124).fr++yF)),x136.2.2),rfl,⟨?_,h136.2.1,?_⟩,?_⟩
        ·have h1:=h136.1;rw[if_pos (by simpa using c73)];rw[eU,d1,<- aBt hv _ _ x129] at h1;refine Wd hbb (hdk (by simpa using c73)) ?_;have hN3:(AS.wp a0 u (pO b c g par r ((level:Nat):Int))).mm.nodes.length+(dL c (AS.wp a0 u (pO b c g par r ((level:Nat):Int))).mm bb g (level+1)).length=N:=hN.symm;rw[hN3];refine Z6 (n:=dC g) (N:=N) (by rw[mK,hN]) ?_;refine dZ.more h1 λ y hy=>?_;simp only[List.mem_append,List.mem_cons] at hy ⊢
         rcases hy with h|h|h|h;·exact .inl (.inl h)
         ·exact .inl (.inr (.inr (.inl h)))
         ·exact .inl (.inr (.inr (.inr h)))
         ·exact .inr h
        ·exact(d3.trans ((AS.eC.al (AS.wp a1 u (pO b c g par r ((level:Nat):Int))) (Qe g) [] [] ((N:Nat):Int) x124).trans h136.2.2)).more λ f hf=>by
          simp only[List.mem_append,List.mem_cons] at hf ⊢;rcases hf with(h|h)|h;·exact .inl h
          ·exact .inr (.inr (.inl h))
          ·exact .inr (.inr (.inr h))
        ·exact hw.ret E0a (aT.bA λ f hf=>by simpa using hf) (List.Sublist.refl _)
end
end
end Go.Proofs.YthblobahelfefaaGreatDoor

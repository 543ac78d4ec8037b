/- Merged. -/
import Derived.Test.YtbajmaoegmbfgaaGreatGGc1
import Derived.Test.YtbajmaoegmbfgaaGreatGAutoD
import Derived.Test.YtbajmaoegmbfgaaGreatGLe1
import Derived.Test.YtbajmaoegmbfgaaGreatGIxg
import Derived.Test.YtbajmaoegmbfgaaGreatGWf1
import Derived.Test.YtbajmaoegmbfgaaGreatGKx3
import Derived.Test.YtbajmaoegmbfgaaGreatGEx11
import Derived.Test.YtbajmaoegmbfgaaGreatGRn1
import Derived.Test.YtbajmaoegmbfgaaGreatGPa1
import Derived.Test.YtbajmaoegmbfgaaGreatGEx6
set_option linter.unusedSimpArgs false
set_option linter.unusedVariables false
namespace Go.Proofs.YtbajmaoegmbfgaaGreat
open Go Go.RowKit Go.Ct
section
section
variable{D:List Nat}{A B:Fr}{a:AS}{b:Nat}{w:World}{f:FuncId}{cap:List Value}{t:dV}
end
end
section
section
variable{D:List Nat}{A B:Fr}{a:AS}{b:Nat}{w:World}{f:FuncId}{cap:List Value}{t:dV}
end
end
end Go.Proofs.YtbajmaoegmbfgaaGreat
namespace Go.Ct
open Go Go.RowKit
section
end
end Go.Ct
namespace Go.Proofs.YtbajmaoegmbfgaaGreat
open Go Go.RowKit Go.Ct
section
end
section
theorem a9(x y:AX):fW (L4 x y) [0,3,4] 1 :=qA (m:=0) (B:=8) (C:=0) (E:=0) (W:=⟨XS.new (L4 x y) [0,3,4] 1 0 none 0 none 0,[⟨3,false⟩],none,0,[],none,0⟩) ⟨Rt _ _ _ _ _ _ _,⟨by show 4<=8;decide,by show 3<=8;decide,by show(1:Int)<=((8:Nat):Int);decide⟩,(λ e he=>nomatch he),by show 0<1;decide,rfl,by show 1<=5;decide,Nat.le_refl _,.new⟩
section
variable{D:List Nat}{A B:Fr}{a0 a:AS}{b bt n m most:Nat}{w:World}{c:Cd}{F:Fr}{p:Tr×Mm}
theorem p8(hp:rS b p a0 B (c,F,a))(ha:dL p.1=true)(ht:bV p.1 m 64)(hmm:most<=m)(hm:p.2.nodes.length+64*most<=137438953472/\p.2.cs.length+64*most<=137438953472)(hn:n+most<1000000000)(hA:∀f∈aP a.L,f∈A)(hB:∀x∈F++B,x∈A)(hs:SF w D [(bt,tO b c n),(b,fR a)] A [] (gD a) w) :
  Calls Tryz.prog 30 #[.pointer (some ⟨bt,0,none⟩),.int .i64 ((most:Nat):Int)] w λ e w'=>∃y:Cd×Fr×AS,e=.returned (.int .i64 ((oN p most:Nat):Int))/\TkI b (jC p most) a (F++B) y/\SF w D [(bt,tO b y.1 (n+oN p most)),(b,fR y.2.2)] [] y.2.1 (gD y.2.2) w':=by
 obtain⟨⟨h1,h2⟩,h3,h4⟩:=hp;simp only at h1 h2 h3;have e:(p.1,a.mm)=p:=by rw[h2]
 have:=Px (b:=b) (bt:=bt) (n:=n) (D:=D) (A:=A) (B:=F++B) (w:=w) (most:=most) ht hmm ha (a:=a) (c:=c) (by rw[h2];exact h1) h3 (by rw[h2];exact hm) hn hA hB hs;rw[e] at this;exact this
end
end
section
abbrev exL(x:XS):List Ow:=[⟨x.pg,aH x.got,x.kg,37,1⟩,⟨x.pm,aH x.made,x.km,37,1⟩,⟨x.pl,aH x.cel,x.kl,27,1⟩,⟨x.pe,aH x.gns,x.ke,3,1⟩]
end
end Go.Proofs.YtbajmaoegmbfgaaGreat
namespace Go.Ct
open Go Go.RowKit
section
end
end Go.Ct
namespace Go.Proofs.YtbajmaoegmbfgaaGreat
open Go Go.RowKit Go.Ct
section
theorem xa{x:XS}(h:x.Ok):Kc x.L:=λ v hv=>by have hb:=h.nd v hv;have h1:=hb.main;have h2:=hb.prev;have h3:=hb.status;have h4:=h.lc;have e1:v.c.main=v.nd.main:=rfl;have e2:v.c.prev=v.nd.prev:=rfl;have e3:v.c.status=v.nd.status:=rfl;exact⟨hb.bm,by omega,by omega,by omega⟩
end
section
end
section
end
section
section
variable{L:List aR}{cs:List Int}{gen:Int}{pn pc:Option Addr}{cn cc:Nat}{w:World}
end
abbrev zW(W:Wd)(z:XS):Wd:=⟨z,W.ts,W.pt,W.kt,[],none,0⟩
end
end Go.Proofs.YtbajmaoegmbfgaaGreat
namespace Go.Ct
open Go Go.RowKit
section
theorem L3{N:List Nv}{f:Int->List Int->List Int->Option (List Pl×List Pr)}{way idx:List Int}{Q:Pl->Prop}(hf:∀b w s q,f b w s=some q->∀p∈q.1,Q p):∀(xs:List Int) (j:Nat) (s:List Int) (q:List Pl×List Pr),vT N f way idx xs j s=some q->∀p∈q.1,Q p
 | [],_,_,q,h,p,hp=>by rw[<- Option.some.inj h] at hp;cases hp
 | b::xs,j,s,q,h,p,hp=>by
  simp only[vT] at h;split at h;·obtain⟨q3,hq3,e3⟩:=Option.map_eq_some_iff.1 h;rw[<- e3] at hp;exact L3 hf xs _ _ q3 hq3 p hp
  ·split at h
   ·obtain⟨q3,hq3,e3⟩:=Option.bind_eq_some_iff.1 h;obtain⟨q4,hq4,e4⟩:=Option.map_eq_some_iff.1 e3;rw[<- e4] at hp;rcases List.mem_append.1 hp with hp|hp;·exact hf _ _ _ _ hq3 p hp
    ·exact L3 hf xs _ _ q4 hq4 p hp
   ·cases h
theorem fh{N:List Nv}{cs:List Int}:∀(n:Nat) (a:Int) (lv:Nat) (i:Int) (way s:List Int) (q:List Pl×List Pr),C3 N cs n a lv i way s=some q->∀p∈q.1,p.lv<lv+n
 | 0,_,_,_,_,_,_,h,_,_=>nomatch h
 | n+1,a,lv,i,way,s,q,h,p,hp=>by
  by_cases hs:i∈s;·rw[Ba hs] at h;cases h
  ·cases hb:gZ N cs i with
   | none=>rw[P8 (by rw[hb];rfl)] at h;cases h
   | some m=>
    by_cases hk:(bH N m).kind=5∨(bH N m).kind=6;·rw[Bp hs hb hk] at h;rw[<- Option.some.inj h] at hp;rw[List.mem_singleton.1 hp];show lv<_;omega
    ·rw[Rn hs hb hk] at h;obtain⟨q',hq',e⟩:=Option.map_eq_some_iff.1 h;rw[<- e] at hp;rcases List.mem_cons.1 hp with rfl|hp;·show lv<_;omega
     ·have:=L3 (Q:=λ p=>p.lv<lv+1+n) (λ b w s q hq p hp=>fh n i (lv+1) b w s q hq p hp) _ _ _ q' hq' p hp;omega
end
end Go.Ct
namespace Go.Proofs.YtbajmaoegmbfgaaGreat
open Go.Proofs.Tryz
open Go Go.RowKit Go.Ct
section
section
variable{P:Program}{S:List (Nat×Value)}{G:World->Prop}{d:Nat}{ty t t':TypeId}{pos:String}{af:Array Edge}{gd:Option (Nat×Bool)}{x y:Operand}
theorem aAJ{k:IntKind}{a b:Int}(hx:ev S x=.int k a)(hy:ev S y=.int k b):aL P S G ⟨some d,.call {callee:=.builtin .max,args := #[x,y],argTypes := #[t,t']},ty,pos,af,gd⟩ (.int k (max a b)):=⟨λ w _=>by
 have e:(if a<b then b else a)=max a b:=by split<;>omega
 simp[execOp,resolve,invoke,builtin,Builtin.max_,Builtin.max2,hx,hy,e]⟩
end
abbrev qa:yJ:=⟨⟨0,0,0,0,[]⟩,none,0⟩
section
variable{w:World}{L:List aR}{cs:List Int}{gen:Int}{pn pc:Option Addr}{cn cc:Nat}
theorem im(hp:fW L cs gen)(h:rQ w L cs pn pc)(hr:Kc L)(hl:L.length<=274877906944)(hc:cs.length<=274877906944){B:Nat}(hB:∀v∈L,v.ys.length<=B)(hBl:(L.length+1)*(B+64)<=549755813888)(c:Int)(ro:Bool)(hi:c<=9223372036854775807){r:Int}(hrt:lG (L.map aR.c) cs c=some r){q:List Pl×List Pr}(hn:C3 (L.map aR.c) cs 12 0 0 r [] []=some q) :
  Calls prog 57 #[Lv L cs gen pn cn pc cc,.agg ⟨[.int .i64 c,.bool ro]⟩] w λ e w'=>∃d:Int,e=.returned (.int .i64 d)/\(0<=d/\d<=12/\∀p∈q.1,(p.lv:Int)<=d)/\St w [] [] w':=by
 have hlv:=fh 12 0 0 r [] [] q hn;refine enter func57 ntmps57 rfl rfl h.start ?_;simp only[cC]
 simp only[Lv];refine K1k ?_;intro x2;refine bL (λ x3=>?_);refine J1 ?_;refine nG ?_;refine bO ?_;refine aD (Zv (V:=λ x:Ju=>.tuple #[.slice x.lp x.l.length x.lc,.slice x.pp x.ps.length x.pc,.bool true]) (Hc:=λ _=>[]) (Fc:=λ x=>x.fr) (F1:=λ x=>x.fr) (Oc:=λ _=>[]) (hF1:=λ x=>List.append_nil _) (hc:=λ w1 hw=>Tq hp (h.Kx hw) hr hl hc hB hBl c ro hi hrt hn)) (λ x13 h13=>?_);obtain⟨hx1,hx2⟩:=h13;have hin:∀k,k<x13.l.length->(x13.l.getD k qa).p∈q.1:=λ k hk=>by rw[<- hx1,List.mem_map];exact⟨x13.l.getD k qa,by rw[jA,List.getElem?_eq_getElem hk];exact List.getElem_mem _,rfl⟩
 refine Qk ?_;refine Ci ?_;refine iW (λ _=>?_);refine Kb0 ?_;refine oD ?_;refine bD (λ c18=>?_) (λ c18=>?_);·exact nv c18
 ·refine aW ?_;refine Fh ?_;refine E9 ?_;refine nB [8,9,19,20,21,22,23,24,25,26,27,28,29,30,31] (λ y:Nat×Int=>[(9,.int .i64 ((y.1:Nat):Int)),(8,.int .i64 y.2)]) (λ y=>y.1<=x13.l.length/\0<=y.2/\y.2<=12/\∀j,j<y.1->((x13.l.getD j qa).p.lv:Int)<=y.2) (λ _=>_) (λ _=>x13.fr) (λ _=>_) (λ y=>x13.l.length-y.1) ((0,0)) (⟨Nat.zero_le _,by decide,by decide,λ j hj=>absurd hj (Nat.not_lt_zero j)⟩) (λ y f hx=>?_) (hw0:=λ w hw=>hw);refine K0a ?_;obtain⟨hy1,hy2,hy3,hy4⟩:=hx;refine K1i ?_;refine bD (λ c22=>?_) (λ c22=>?_)
  ·refine sG ?_;refine xN ?_;refine qL ?_;refine aC (cr (lst:=x13.l) (g:=yJ.cells) (sz:=5) (k:=y.1) (λ _=>rfl) (by decide) rf rf gS eE (.new (Ap.rB (List.mem_cons_self ..))) (by omega) (by omega)) rfl ?_;refine aE ?_;refine aC (m9 (lst:=x13.l) (g:=yJ.cells) (sz:=5) (q:=y.1) (j:=3) qa (λ _=>rfl) rf (by exact H2 rfl) (by decide) rfl (.new (Ap.rB (List.mem_cons_self ..))) (by omega)) rfl ?_;(refine aN (eO (aAJ rf rf)) (λ x31=>?_));refine J1 ?_;refine Kb2 ?_;refine iX ((y.1+1,max y.2 ((x13.l.getD y.1 qa).p.lv:Int))) ?_ (hw1:=λ w hw=>hw)
   ·have hl1:=hlv _ (hin y.1 (by omega));refine⟨by show y.1+1<=_;omega,by show 0<=max _ _;omega,by show max _ _<=12;omega,λ j hj=>?_⟩;replace hj:j<y.1+1:=hj;show _<=max _ _
    rcases Nat.lt_or_ge j y.1 with h1|h1;·have:=hy4 j h1;omega
    ·rw[show j=y.1 by omega];omega
  ·refine bS rfl ?_;refine Ka5 ?_;refine aS results57 (λ w hw=>?_);exact⟨y.2,rfl,⟨hy2,hy3,λ p hp=>by rw[<- hx1] at hp;obtain⟨v,hv,rfl⟩:=List.mem_map.1 hp;obtain⟨k,hk,rfl⟩:=List.mem_iff_getElem.1 hv;have:=hy4 k (by omega);rwa [jA,List.getElem?_eq_getElem hk] at this⟩,hw.done⟩
end
end
section
theorem Wp{m:Nat->Option Int}{x:Int}:∀{k j:Nat},j<k->m j=some x->x∈oC m k
 | 0,_,h,_=>absurd h (Nat.not_lt_zero _)
 | k+1,j,hj,h=>by
  simp only[oC,List.mem_append,Option.mem_toList];by_cases e:j=k;·subst e;exact .inr h
  ·exact .inl (Wp (by omega) h)
theorem Bt{N:List Nv}{f:Int->List Pr}{p:Pr}:∀{l:List Int},p∈nC N f l↔∃b∈l,p∈if(bH N b).kind=4 then [((bH N b).key,(bH N b).val)] else f b
 | []=>⟨λ h=>(nomatch h),λ⟨_,h,_⟩=>(nomatch h)⟩
 | b::l=>by
  simp only[nC,List.mem_append,List.mem_cons,Bt (l:=l)];refine⟨λ h=>?_,λ⟨x,hx,h⟩=>?_⟩
  ·rcases h with h|⟨x,hx,h⟩;·exact⟨b,.inl rfl,h⟩
   ·exact⟨x,.inr hx,h⟩
  ·rcases hx with rfl|hx;·exact .inl h
   ·exact .inr ⟨x,hx,h⟩
theorem Rl{k:ByteArray}{v:Int}:∀{l:List Pr},pJ l k=some v->(k,v)∈l
 | [],h=>nomatch h
 | p::l,h=>by
  unfold pJ at h;split at h;·rename_i e;rw[<- e,<- Option.some.inj h];exact List.mem_cons_self ..
  ·exact List.mem_cons_of_mem _ (Rl h)
theorem ko{k:ByteArray}:∀{l:List Pr},pJ l k=none->∀p∈l,p.1≠k
 | [],_,p,hp=>nomatch hp
 | q::l,h,p,hp=>by
  unfold pJ at h;split at h;·cases h
  ·rename_i e;rcases List.mem_cons.1 hp with rfl|hp;·exact e
   ·exact ko h p hp
def FdV(key:ByteArray)(L:List Pr)(f:Bool)(v:Int):Prop:=(f=true/\(key,v)∈L)∨(f=false/\v=0/\∀p∈L,p.1≠key)
theorem vu{key:ByteArray}{L:List Pr}:FdV key L (pJ L key).isSome ((pJ L key).getD 0):=by
 cases e:pJ L key with
 | none=>exact .inr ⟨rfl,rfl,ko e⟩
 | some v=>exact .inl ⟨rfl,Rl e⟩
section
variable{H:ByteArray->Nat}{σ:Kw}{t:dV}{h:Nat}{key:ByteArray}{K:Rs->Tr}
structure FdQ(σ:Kw)(T R:Tr)(d:Nat):Prop where
 run:jC (Ct.eD T σ.mm) (2*d)=Ct.eD R σ.mm
 lv:(jC (Ct.eD T σ.mm) (2*d-1)).1.live=true
 d1:1<=d
theorem yt{i:Int}(hi:(σ.nd i).kind=2)(hs:bC σ (σ.ce (σ.nd i).main)){p:Int}(hp:gZ σ.mm.nodes σ.mm.cs i=some p):p=σ.ce (σ.nd i).main:=by
 have hs':oY σ.mm.nodes σ.mm.cs i=0:=hs;unfold gZ at hp;split at hp;·exact(Option.some.inj hp).symm
 ·cases hp
theorem aAS{i:Int}{K:Int->Tr}(hs:bC σ (σ.ce (σ.nd i).main)):jC (Ct.eD (iK t i K) σ.mm) 2=Ct.eD (K (σ.ce (σ.nd i).main)) σ.mm/\(jC (Ct.eD (iK t i K) σ.mm) 1).1.live=true:=by have hs':bJ σ.mm.cs (bH σ.mm.nodes (bJ σ.mm.cs (bH σ.mm.nodes i).main)).prev=0:=hs;refine⟨?_,rfl⟩;show Ct.eD (if bJ σ.mm.cs (bH σ.mm.nodes (bJ σ.mm.cs (bH σ.mm.nodes i).main)).prev=0 then K (bJ σ.mm.cs (bH σ.mm.nodes i).main) else _) σ.mm=_;rw[if_pos hs']
theorem cy(i0:Inv H σ)(hst:∀i,(σ.nd i).kind=2->bC σ (σ.ce (σ.nd i).main))(hH:H key<18446744073709551616->H key=h) :
  ∀(n:Nat) (i:Int) (w:List Nat) (g:Int) (n2:Nat),qP σ i w g->fQ h w->12<=w.length+n->12<=w.length+n2 ->
  ∃f v d,FdQ σ (lC t h key K n i (w.length:Int)) (K (dO f v)) d/\w.length+d<=12/\FdV key (Mh σ.mm.nodes σ.mm.cs n2 i) f v /\
   ∀(n3:Nat) (a:Int) (lv:Nat) (way s:List Int) (q:List Pl×List Pr),C3 σ.mm.nodes σ.mm.cs n3 a lv i way s=some q->∃p∈q.1,p.lv+1=lv+d
 | 0,i,w,g,_,hi,_,hn,_=>by have:=(hi.Ez i0).2.2;omega
 | n+1,i,w,g,0,hi,_,_,hn=>by have:=(hi.Ez i0).2.2;omega
 | n+1,i,w,g,n2+1,hi,hu,hn,hn2=>by
  obtain⟨p,hp,hm⟩:=L5 i0 hi;have hs:=hst i hi.1.1;have ep:=yt hi.1.1 hs hp;have hwl:=(hi.Ez i0).2.2
  have hrd:∀{Q:Int->Tr} {R:Tr},Ct.eD (Q p) σ.mm=Ct.eD R σ.mm->FdQ σ (iK t i Q) R 1:=λ{Q R} e=>by obtain⟨h1,h2⟩:=aAS (t:=t) (K:=Q) hs;rw[<- ep] at h1;exact⟨h1.trans e,h2,Nat.le_refl 1⟩
  have hcol:Mh σ.mm.nodes σ.mm.cs (n2+1) i=sJ (σ.nd p)++nC σ.mm.nodes (Mh σ.mm.nodes σ.mm.cs n2) (σ.nd p).xs:=by show(match gZ σ.mm.nodes σ.mm.cs i with|none=>_|some m=>_)=_;rw[hp]
  have hpl1:∀(n3:Nat) (a:Int) (lv:Nat) (way s:List Int) (q:List Pl×List Pr),C3 σ.mm.nodes σ.mm.cs n3 a lv i way s=some q->∃x∈q.1,x.lv+1=lv+1:=λ n3 a lv way s q hq=>by
   cases n3 with
   | zero=>cases hq
   | succ n3=>
    have hns:¬i∈s:=λ hx=>by rw[Ba hx] at hq;cases hq
    by_cases hk:(bH σ.mm.nodes p).kind=5∨(bH σ.mm.nodes p).kind=6;·rw[Bp hns hp hk] at hq;rw[<- Option.some.inj hq];exact⟨_,List.mem_singleton.2 rfl,rfl⟩
    ·rw[Rn hns hp hk] at hq;obtain⟨q',_,e⟩:=Option.map_eq_some_iff.1 hq;rw[<- e];exact⟨_,List.mem_cons_self ..,rfl⟩
  rw[hcol];have hb64:∀x∈sJ (σ.nd p)++nC σ.mm.nodes (Mh σ.mm.nodes σ.mm.cs n2) (σ.nd p).xs,H x.1<18446744073709551616:=λ x hx=>((M4 i0 (n2+1) i w g hi).1 x (by rw[hcol];exact hx)).2;rcases hm.1 with h3|h5|h6
  ·have hc:=hm.qT i0 h3;have hw10:=hc.wl;have ho:sJ (σ.nd p)=[]:=by unfold sJ;rw[if_neg (by omega),if_neg (by omega)]
   rw[ho,List.nil_append] at hb64 ⊢;have hsl:eZ h (w.length:Int)=((sl h w.length:Nat):Int):=Af hw10
   have hs64:sl h w.length<64:=by obtain⟨k,h1,h2⟩:=Py h (w.length:Int);rw[hsl] at h2;omega
   have hlk:=hc.lk hs64;have hat:∀x∈nC σ.mm.nodes (Mh σ.mm.nodes σ.mm.cs n2) (σ.nd p).xs,x.1=key->∃b,nY (σ.nd p).bm.toNat (σ.nd p).xs (sl h w.length)=some b/\x∈if(bH σ.mm.nodes b).kind=4 then [((bH σ.mm.nodes b).key,(bH σ.mm.nodes b).val)] else Mh σ.mm.nodes σ.mm.cs n2 b:=λ x hx ek=>by
    have hlt:=hb64 x hx;rw[ek] at hlt;have eh:=hH hlt;obtain⟨b,hb,hxb⟩:=Bt.1 hx
    rw[<- hc.lof] at hb;obtain⟨j,hj,hmj⟩:=Oa hb;have huj:fQ h (w++[j]):=by
     rcases hc.br j hj b hmj with hb4|hb2;·rw[if_pos hb4.1] at hxb;rw[List.mem_singleton.1 hxb] at ek;have hlf:=i0.leaf (.inl hb4.1);have e:H (σ.nd b).key=(σ.nd b).hash.toNat:=hlf.ha;have ek':(σ.nd b).key=key:=ek;rw[ek',eh] at e;rw[e];exact hb4.2
     ·rw[if_neg (by rw[hb2.1];decide)] at hxb;have:=((M4 i0 n2 b (w++[j]) _ ⟨⟨hb2.1,hb2.2.1⟩,rfl⟩).1 x hxb).1;rw[ek,eh] at this;exact this
    have ej:sl h w.length=j:=by have:=huj w.length (by simp);rw[this];simp[jA]
    rw[ej];exact⟨b,hmj,hxb⟩
   have hin:∀b,nY (σ.nd p).bm.toNat (σ.nd p).xs (sl h w.length)=some b->b∈(σ.nd p).xs:=λ b hb=>by rw[<- hc.lof];exact Wp hs64 hb
   have hrun:∀{R:Tr},Ct.eD (match iO (σ.nd p) (eZ h (w.length:Int)) with
     | none=>K (dO false 0)
     | some b=>.node b λ s=>if s.kind=4 then(if s.key=key then K (dO true s.val) else K (dO false 0)) else lC t h key K n b ((w.length:Int)+1)) σ.mm=Ct.eD R σ.mm->FdQ σ (lC t h key K (n+1) i (w.length:Int)) R 1:=λ{R} e=>hrd (by
    rw[<- e]
    show Ct.eD (if(σ.nd p).kind=5 then _ else if(σ.nd p).kind=6 then _ else _) σ.mm=_
    rw[if_neg (by omega),if_neg (by omega)]
    rfl)
   rw[hsl,hlk] at hrun;cases hmo:nY (σ.nd p).bm.toNat (σ.nd p).xs (sl h w.length) with
   | none=>rw[hmo] at hrun;exact⟨false,0,1,hrun rfl,by omega,.inr ⟨rfl,rfl,λ x hx ek=>by obtain⟨b,hb,_⟩:=hat x hx ek;rw[hmo] at hb;cases hb⟩,hpl1⟩
   | some b=>
    rw[hmo] at hrun;have hbr:=hc.br _ hs64 b hmo;rcases hbr with hb4|hb2
    ·have hb4':(bH σ.mm.nodes b).kind=4:=hb4.1;by_cases hkk:(σ.nd b).key=key
     ·refine⟨true,(σ.nd b).val,1,hrun ?_,by omega,.inl ⟨rfl,Bt.2 ⟨b,hin b hmo,?_⟩⟩,hpl1⟩;·show Ct.eD (if(σ.nd b).kind=4 then(if(σ.nd b).key=key then _ else _) else _) σ.mm=_;rw[if_pos hb4.1,if_pos hkk]
      ·rw[if_pos hb4'];exact List.mem_singleton.2 (by rw[<- hkk])
     ·refine⟨false,0,1,hrun ?_,by omega,.inr ⟨rfl,rfl,λ x hx ek=>?_⟩,hpl1⟩;·show Ct.eD (if(σ.nd b).kind=4 then(if(σ.nd b).key=key then _ else _) else _) σ.mm=_;rw[if_pos hb4.1,if_neg hkk]
      ·obtain⟨b',hb',hx'⟩:=hat x hx ek;rw[hmo] at hb';rw[<- Option.some.inj hb',if_pos hb4'] at hx';rw[List.mem_singleton.1 hx'] at ek;exact hkk ek
    ·have hb2':¬(bH σ.mm.nodes b).kind=4:=by have h:=hb2.1;intro h4;rw[show(σ.nd b).kind=4 from h4] at h;cases h
     obtain⟨f,v,d,hq,hd,hv,hpl⟩:=cy i0 hst hH n b (w++[sl h w.length]) _ n2 ⟨⟨hb2.1,hb2.2.1⟩,rfl⟩ (rG hu) E0w E0w;have hlen:(w++[sl h w.length]).length=w.length+1:=by rw[List.length_append,List.length_singleton]
     rw[hlen] at hq hd;have h1:=hrun (R:=lC t h key K n b ((w.length+1:Nat):Int)) (by show Ct.eD (if(σ.nd b).kind=4 then _ else lC t h key K n b ((w.length:Int)+1)) σ.mm=_;rw[if_neg hb2'];rfl);have hd1:=hq.d1;refine⟨f,v,d+1,⟨?_,?_,by omega⟩,by omega,?_,λ n3 a lv way s q hq=>?_⟩
     ·rw[show 2*(d+1)=2*1+2*d by omega,oF,h1.run];exact hq.run
     ·rw[show 2*(d+1)-1=2*1+(2*d-1) by omega,oF,h1.run];exact hq.lv
     ·rcases hv with⟨e1,e2⟩|⟨e1,e2,e3⟩;·exact .inl ⟨e1,Bt.2 ⟨b,hin b hmo,by rw[if_neg hb2'];exact e2⟩⟩
      ·refine .inr ⟨e1,e2,λ x hx ek=>?_⟩;obtain⟨b',hb',hx'⟩:=hat x hx ek;rw[hmo] at hb';rw[<- Option.some.inj hb',if_neg hb2'] at hx';exact e3 x hx' ek
     ·cases n3 with
      | zero=>cases hq
      | succ n3=>
       have hns:¬i∈s:=λ hx=>by rw[Ba hx] at hq;cases hq
       rw[Rn hns hp (by show ¬((σ.nd p).kind=5∨(σ.nd p).kind=6);omega)] at hq;obtain⟨q',hq',e⟩:=Option.map_eq_some_iff.1 hq;have hsub:∀(xs:List Int) (j:Nat) (s:List Int) (q':List Pl×List Pr),vT σ.mm.nodes (λ b w s=>C3 σ.mm.nodes σ.mm.cs n3 i (lv+1) b w s) way (sF (bH σ.mm.nodes p).bm.toNat 64) xs j s=some q'->b∈xs->∃x∈q'.1,x.lv+1=lv+1+d:=by
        intro xs;induction xs with
        | nil=>intro j s q' _ hb;cases hb
        | cons c xs ih=>
         intro j s q' hq' hb;simp only[vT] at hq';split at hq'
         ·rename_i hk4;obtain⟨q3,hq3,e3⟩:=Option.map_eq_some_iff.1 hq';rcases List.mem_cons.1 hb with rfl|hb;·exact absurd hk4 hb2'
          ·rw[<- e3];exact ih _ _ q3 hq3 hb
         ·split at hq'
          ·obtain⟨q3,hq3,e3⟩:=Option.bind_eq_some_iff.1 hq';obtain⟨q4,hq4,e4⟩:=Option.map_eq_some_iff.1 e3;rw[<- e4];rcases List.mem_cons.1 hb with rfl|hb;·obtain⟨x,hx,ex⟩:=hpl _ _ _ _ _ _ hq3;exact⟨x,List.mem_append_left _ hx,ex⟩
           ·obtain⟨x,hx,ex⟩:=ih _ _ _ hq4 hb;exact⟨x,List.mem_append_right _ hx,ex⟩
          ·cases hq'
       obtain⟨x,hx,ex⟩:=hsub _ _ _ _ hq' (hin b hmo);rw[<- e];exact⟨x,List.mem_cons_of_mem _ hx,by omega⟩
  ·have ho:sJ (σ.nd p)=[((σ.nd p).key,(σ.nd p).val)]:=by unfold sJ;rw[if_pos h5]
   rw[ho,hm.w6 i0 (by omega)];have hL:[((σ.nd p).key,(σ.nd p).val)]++nC σ.mm.nodes (Mh σ.mm.nodes σ.mm.cs n2) []=[((σ.nd p).key,(σ.nd p).val)]:=rfl;rw[hL];by_cases hkk:(σ.nd p).key=key
   ·refine⟨true,(σ.nd p).val,1,hrd ?_,by omega,.inl ⟨rfl,by rw[<- hkk];exact List.mem_singleton.2 rfl⟩,hpl1⟩;show Ct.eD (if(σ.nd p).kind=5 then(if(σ.nd p).key=key then _ else _) else _) σ.mm=_;rw[if_pos h5,if_pos hkk]
   ·refine⟨false,0,1,hrd ?_,by omega,.inr ⟨rfl,rfl,λ x hx=>by rw[List.mem_singleton.1 hx];exact hkk⟩,hpl1⟩;show Ct.eD (if(σ.nd p).kind=5 then(if(σ.nd p).key=key then _ else _) else _) σ.mm=_;rw[if_pos h5,if_neg hkk]
  ·have ho:sJ (σ.nd p)=(σ.nd p).ys:=by unfold sJ;rw[if_neg (by omega),if_pos h6]
   rw[ho,hm.w6 i0 (by omega)];have hL:(σ.nd p).ys++nC σ.mm.nodes (Mh σ.mm.nodes σ.mm.cs n2) []=(σ.nd p).ys:=List.append_nil _;rw[hL];have hln:=hm.Xq i0 h6;refine⟨(cK (σ.nd p).ys key).isSome,(cK (σ.nd p).ys key).getD 0,1,hrd ?_,by omega,by rw[ot hln.sa];exact vu,hpl1⟩;show Ct.eD (if(σ.nd p).kind=5 then _ else if(σ.nd p).kind=6 then _ else _) σ.mm=_
   rw[if_neg (by omega),if_pos h6]
end
end
section
theorem Rb(key:ByteArray){m:Nat}(hm:m<18446744073709551616)(hk:key.size<=4611686018427387903)(w:World):Calls prog 104 #[.string key,.int .u64 (m:Int)] w λ e w'=>e=.returned (.int .u64 ((jN key m:Nat):Int))/\St w [] [] w':=by
 refine enter func104 ntmps104 rfl rfl (SF.s0 w) ?_;simp only[cC];refine cX ?_;refine Ka6 ?_;refine kT ?_;refine Jm ?_;refine cR ?_;refine gK [5,6,9,10,11,12,13,14,15,16,17,18,19,20] (λ y:Nat=>[(9,.int .i64 ((y:Nat):Int)),(5,.int .u64 ((hsN key y:Nat):Int))]) (λ y=>y<=key.size) (λ y=>key.size-y) (0) (Nat.zero_le _) ?_ (λ y f hx=>?_);·repeat (first|exact bF _|refine bB (by exact rfl) ?_)
 refine K0a ?_;refine K1b ?_;refine bD (λ c10=>?_) (λ c10=>?_)
 ·refine sG ?_;refine J2 ?_;refine zO ?_;refine aA ?_;refine aN (eO (jb (s:=key) (i:=y) rf rf (by kernel_rfl) (by omega))) (λ x15=>?_);refine K1x ?_;refine J1 ?_;refine xN ?_;refine aC (nz rf rf) rfl ?_;refine J1 ?_;refine eV ?_;refine mq ?_;refine Jm ?_;refine eN (y+1) ?_ ?_ ?_;·omega
  ·repeat' (first|exact bF _|refine bB ?_ ?_)
   all_goals (exact rfl)
  ·omega
 ·refine bS rfl ?_;refine iZ ?_;refine aC (Th rf rf (Jd _ _) hm) rfl ?_;refine J1 ?_;refine aS results104 (λ w hw=>?_);have hy:y=key.size:=by omega
  subst hy;exact⟨rfl,hw.done⟩
theorem Yq(key:ByteArray)(w:World):Calls prog 106 #[.string key] w λ e w'=>e=.returned (.bool (decide (key.size<=64)))/\St w [] [] w':=by refine enter func106 ntmps106 rfl rfl (SF.s0 w) ?_;simp only[cC];refine Kb4 ?_;refine kT ?_;refine wB ?_;refine J1 ?_;refine aS results106 (λ w hw=>?_);exact⟨by rw[show decide (key.size<=64)=decide ((key.size:Int)<=64) from decide_eq_decide.2 (by omega)];rfl,hw.done⟩
theorem U2{h:Nat}(hh:h<18446744073709551616)(level:Int)(w:World):Calls prog 150 #[.int .u64 (h:Int),.int .i64 level] w λ e w'=>e=.returned (.int .i64 (eZ h level))/\St w [] [] w':=by
 by_cases hl:level<0∨10<level
 ·unfold eZ;rw[if_pos hl];refine enter func150 ntmps150 rfl rfl (SF.s0 w) ?_;simp only[cC];refine Ka6 ?_;refine Au ?_;(refine eF 7 (λ g7=>?_) (λ g7=>?_)<;>refine Ka0 ?_);all_goals ((first|refine aI ?_|(refine aF ?_;refine lK ?_));refine cH ?_;refine aG ?_)
  all_goals
  refine bD (λ c10=>?_) (λ c10=>?_)
  ·all_goals try (exfalso;omega)
   all_goals refine cX ?_
   all_goals refine aS results150 (λ w hw=>?_);exact⟨rfl,hw.done⟩
  ·try exact nv c10
   all_goals try (exfalso;omega)
 ·obtain⟨l,rfl⟩:∃l:Nat,level=(l:Int):=⟨level.toNat,by omega⟩;unfold eZ;rw[if_neg hl];exact Z3 (l:=l) hh (by omega) w
theorem F4(v:Int)(w:World):Calls prog 154 #[.int .u64 v] w λ e w'=>e=.returned (.agg ⟨(iD (dO true v)).cells⟩)/\St w [] [] w':=by refine enter func154 ntmps154 rfl rfl (SF.s0 w) ?_;simp only[cC];refine J0 ?_;refine aJ (λ x2=>?_);refine aG ?_;refine J2 ?_;refine bN ?_;refine aN (cV (hc:=λ w1 hw=>Mj (dO true v) w1)) (λ x5=>?_);refine bT (gE λ _=>aQ rf cY rf (cD _) eE rf iN) (λ _=>?_);refine aG ?_;refine aY results154 (λ w hw=>?_);exact⟨rfl,hw.done⟩
theorem yB(w:World):Calls prog 151 #[] w λ e w'=>e=.returned (.agg ⟨(iD (dO false 0)).cells⟩)/\St w [] [] w':=by refine enter func151 ntmps151 rfl rfl (SF.s0 w) ?_;simp only[cC];refine J0 ?_;refine aJ (λ x0=>?_);refine aG ?_;refine J0 ?_;refine bN ?_;refine aN (cV (hc:=λ w1 hw=>Mj (dO false 0) w1)) (λ x2=>?_);refine bT (gE λ _=>aQ rf cY rf (cD _) eE rf iN) (λ _=>?_);refine aG ?_;refine aY results151 (λ w hw=>?_);exact⟨rfl,hw.done⟩
abbrev Jf(b:Nat)(t:dV)(key:ByteArray)(h:Nat):List Value:=[.iface 42 (.pointer (some ⟨b,0,none⟩)),.int .i64 t.root,.bool t.ro,.string key,.int .u64 (h:Int)]
theorem Xs{v:aR}{b bf h:Nat}{t:dV}{key:ByteArray}{w:World}(hf:Go.Ct.Cl w (some ⟨bf,0,none⟩) (Jf b t key h)):Calls prog 152 #[pt bf,.agg ⟨v.nd.cells⟩] w λ e w'=>e=.returned (.agg ⟨(iD (if v.c.key=key then dO true v.c.val else dO false 0)).cells⟩)/\St w [] [] w':=by
 refine enter func152 ntmps152 rfl rfl (SF.s1 hf) ?_;simp only[cC];refine K1g ?_;intro x3;refine aJ (λ x4=>?_);refine S8 ?_;refine aV ?_;refine gO [0,1,2,3,4,5,6] ?_;refine mI ?_;refine J9 ?_;refine bU (i:=5) (hq:=(lS (B:=[bx bf (Jf b t key h)]) bf (Jf b t key h) 3 (λ x hx=>hx) rfl)) (h:=?_);refine gp ?_;refine eS ?_;refine bD (λ c11=>?_) (λ c11=>?_);·refine iB ?_;refine aN (cV (hc:=λ w1 hw=>F4 _ w1)) (λ x14=>?_);refine bT (gE λ _=>aQ rf cY rf (cD _) eE rf iN) (λ _=>?_);refine aG ?_;refine aY results152 (λ w hw=>?_);exact⟨by rw[if_pos (show v.c.key=key from(by simpa using c11:v.nd.key=key))];rfl,hw.done⟩
 ·refine aW ?_;refine J0 ?_;refine aN (cV (hc:=λ w1 hw=>yB w1)) (λ x15=>?_);refine bT (gE λ _=>aQ rf cY rf (cD _) eE rf iN) (λ _=>?_);refine aG ?_;refine aY results152 (λ w hw=>?_);exact⟨by rw[if_neg (show ¬v.c.key=key from(by simpa using c11:¬v.nd.key=key))];rfl,hw.done⟩
section
variable{w:World}{v:aR}{n c:Nat}
theorem aAZ(h:mT n c v.c)(i:Int)(hr:sE w v.nd v.xs v.ys):Calls prog 149 #[v.nd.v,.int .i64 i] w λ e w'=>e=.returned (.tuple #[.int .i64 ((iO v.c i).getD 0),.bool (iO v.c i).isSome])/\St w [] [] w':=by obtain⟨b,h1,h2⟩:=h.bm;have h3:v.nd.bm=(b:Int):=h1;have:=r8 (n:=v.nd) i h3 h2 hr;rw[aCh h3 i] at this;exact this
end
section
variable{l:List Pr}{a:Option Addr}{c:Nat}{k:ByteArray}{v:Int}{w:World}
theorem Ur(ha:Go.Ct.Cl w a (dI l))(hs:SA l)(hlen:l.length<=11728124029610) :
  Calls prog 233 #[.slice a l.length c,.string k,.func (.func 234) #[] #[]] w λ e w'=>∃i:Nat,e=.returned (.tuple #[.int .i64 (i:Int),.bool (decide (i<l.length/\(l.getD i (⟨#[]⟩,0)).1=k))])/\zE l k i/\St w [] [] w':=by
 refine enter func233 ntmps233 rfl rfl (SF.s1 ha) ?_;simp only[cC];refine Iu ?_;refine J2 ?_;refine dW ?_;refine Ka4 ?_;refine J8 ?_;refine Dm ?_;refine gK [9,10,11,15,16,17,18,19,20,21,22,23,24,25,26,27,28,29,30,31,32,33,34] (λ x:Nat×Nat=>[(9,.int .i64 ((x.1:Nat):Int)),(10,.int .i64 ((x.2:Nat):Int))]) (λ x=>x.1<=x.2/\x.2<=l.length/\(∀j,j<x.1->cZ (l.getD j (⟨#[]⟩,0)).1 k=true)/\(∀j,x.2<=j->j<l.length->cZ (l.getD j (⟨#[]⟩,0)).1 k=false)) (λ x=>x.2-x.1) ((0,l.length)) (⟨Nat.zero_le _,Nat.le_refl _,λ j hj=>absurd hj (Nat.not_lt_zero j),λ j h1 h2=>by omega⟩) ?_ (λ x f hx=>?_);·repeat (first|exact bF _|refine bB (by exact rfl) ?_)
 refine K0a ?_;refine Cb ?_;refine zR ?_;refine bD (λ c17=>?_) (λ c17=>?_)
 ·refine aW ?_;refine cR ?_;refine iZ ?_;refine Eb ?_;refine gP ?_;refine aC (aB4 (n:=x.1+x.2) rf rf (by omega)) rfl ?_;refine gP ?_;refine zO ?_;refine aA ?_;refine Pz ?_;refine aA ?_;(refine aN (by(exact cVd (v:=.int .i64 (Bw (l.getD ((x.1+x.2)/2) (⟨#[]⟩,0)).1 k)) rf (by(repeat (first|exact cN _|(apply cA;focus ((conv=>{lhs;whnf});try exact rfl))));done) (by kernel_rfl) (λ w1 hw=>gi _ k w1))) (λ x30=>?_));refine zR ?_;refine bD (λ c31=>?_) (λ c31=>?_)
  ·refine vB ?_;refine eV ?_;refine eN ((by exact aEv (p:=Bw _ _<0) c31 ((x.1+x.2)/2+1,x.2))) ?_ ?_ ?_;·(simp only[];omega)
   ·repeat' (first|exact bF _|refine bB ?_ ?_)
    all_goals (exact rfl)
   ·obtain⟨q1,q2,q3,q4⟩:=hx
    first
    | exact⟨by show(x.1+x.2)/2+1<=x.2;omega,q2,aAd hs (by omega) (Ol.1 c31),q4⟩
    | exact⟨by show x.1<=(x.1+x.2)/2;omega,by show(x.1+x.2)/2<=l.length;omega,q3,qx hs (X4.1 c31)⟩
  ·refine xN ?_;refine J1 ?_;refine eV ?_;refine eN ((by exact(x.1,(x.1+x.2)/2))) ?_ ?_ ?_;·omega
   ·repeat' (first|exact bF _|refine bB ?_ ?_)
    all_goals (exact rfl)
   ·obtain⟨q1,q2,q3,q4⟩:=hx
    first
    | exact⟨by show(x.1+x.2)/2+1<=x.2;omega,q2,aAd hs (by omega) (Ol.1 c31),q4⟩
    | exact⟨by show x.1<=(x.1+x.2)/2;omega,by show(x.1+x.2)/2<=l.length;omega,q3,qx hs (X4.1 c31)⟩
 ·refine bS rfl ?_;refine Kc0 ?_;refine Au ?_;(refine eF 39 (λ g39=>?_) (λ g39=>?_)<;>refine Ka0 ?_);all_goals (refine Ka0 ?_;refine Ka0 ?_;refine Kd1 ?_;((first|refine aI ?_|(refine aF ?_;(refine aN (by(exact cVd (v:=.int .i64 (Bw (l.getD x.1 (⟨#[]⟩,0)).1 k)) rf (by(repeat (first|exact cN _|(apply cA;focus ((conv=>{lhs;whnf});try exact rfl))));done) (by kernel_rfl) (λ w1 hw=>gi _ k w1))) (λ x46=>?_)))));refine xF ?_;refine J8 ?_)
  all_goals
  refine aY results233 (λ w hw=>?_);obtain⟨q1,q2,q3,q4⟩:=hx;refine⟨x.1,?_,⟨by omega,q3,λ j h1 h2=>q4 j (by omega) h2⟩,hw.done⟩
  first
  | (rw[show(Bw (l.getD x.1 (⟨#[]⟩,0)).1 k==0)=decide (x.1<l.length/\(l.getD x.1 (⟨#[]⟩,0)).1=k) by rw[Bool.eq_iff_iff];simp only[beq_iff_eq,decide_eq_true_eq,te];exact⟨λ h=>⟨by omega,h⟩,λ h=>h.2⟩];rfl)
  | (rw[show decide (x.1<l.length/\(l.getD x.1 (⟨#[]⟩,0)).1=k)=false from decide_eq_false (by omega)];rfl)
theorem jt(ha:Go.Ct.Cl w a (dI l))(hs:SA l)(hlen:l.length<=11728124029610) :
  Calls prog 194 #[.slice a l.length c,.string k] w λ e w'=>∃i:Nat,e=.returned (.tuple #[.int .i64 (i:Int),.bool (decide (i<l.length/\(l.getD i (⟨#[]⟩,0)).1=k))])/\zE l k i/\St w [] [] w':=by refine enter func194 ntmps194 rfl rfl (SF.s1 ha) ?_;simp only[cC];refine Iu ?_;refine iZ ?_;refine aD (c0 (V:=λ i:Nat=>.tuple #[.int .i64 (i:Int),.bool (decide (i<l.length/\(l.getD i (⟨#[]⟩,0)).1=k))]) (hc:=λ w1 hw=>Ur (hw.cl fin) hs (by omega))) (λ x8 h8=>?_);refine aC (bQ rf rfl) rfl ?_;refine aC (bQ rf rfl) rfl ?_;refine J8 ?_;refine aY results194 (λ w hw=>?_);exact⟨x8,rfl,h8,hw.done⟩
theorem aw(k:ByteArray)(ha:Go.Ct.Cl w a (dI l))(hlen:l.length<=11728124029610) :
  Calls prog 153 #[.slice a l.length c,.string k] w λ e w'=>e=.returned (.tuple #[.int .u64 ((cK l k).getD 0),.bool (cK l k).isSome])/\St w [] [] w':=by
 refine enter func153 ntmps153 rfl rfl (SF.s1 ha) ?_;simp only[cC];refine Iu ?_;refine kF ?_;refine aD (c0 (V:=.bool) (hc:=λ w1 hw=>K5 (hw.cl fin) (by omega))) (λ x9 h9=>?_);refine oD ?_;refine bD (λ c10=>?_) (λ c10=>?_);·refine Iu ?_;refine aY results153 (λ w hw=>?_);rw[show cK l k=none from if_neg λ hs=>by rw[h9.2 (mR.2 hs)] at c10;cases c10];exact⟨rfl,hw.done⟩
 ·have hs:SA l:=mR.1 (h9.1 (by simpa using c10));refine Ar ?_;refine aD (c0 (V:=λ i:Nat=>.tuple #[.int .i64 (i:Int),.bool (decide (i<l.length/\(l.getD i (⟨#[]⟩,0)).1=k))]) (hc:=λ w1 hw=>jt (hw.cl fin) hs hlen)) (λ x14 h14=>?_);refine K0c ?_;refine Kb0 ?_;refine oD ?_;refine bD (λ c18=>?_) (λ c18=>?_)
  ·refine Iu ?_;refine aY results153 (λ w hw=>?_);have hnf:¬(x14<l.length/\(l.getD x14 (⟨#[]⟩,0)).1=k):=by simpa using c18
   rw[show cK l k=none from(if_pos hs).trans (oT (Kr hs h14 hnf))];exact⟨rfl,hw.done⟩
  ·have hfd:x14<l.length/\(l.getD x14 (⟨#[]⟩,0)).1=k:=by simpa using c18
   have hx14:=hfd.1;refine Ar ?_;refine fL ?_;refine J3 ?_;refine J8 ?_;refine aY results153 (λ w hw=>?_);rw[show cK l k=some (l.getD x14 (⟨#[]⟩,0)).2 from(if_pos hs).trans (Ke h14 hfd.1 hfd.2)];exact⟨rfl,hw.done⟩
end
theorem Ym{v:aR}{p:Option Addr}{c:Nat}{key:ByteArray}{w:World}(hf:v.Fit)(ha:Go.Ct.Cl w p (dI v.ys)):Calls prog 153 #[.slice p v.nd.prN c,.string key] w λ e w'=>e=.returned (.tuple #[.int .u64 ((cK v.ys key).getD 0),.bool (cK v.ys key).isSome])/\St w [] [] w':=by rw[hf.prN];exact aw key ha hf.prS
end
section
section
variable{D:List Nat}{A B:Fr}{a:AS}{b:Nat}{w:World}{f:FuncId}{cap:List Value}{t:dV}
theorem jo{i:Int}(hi:i<=a.mm.nodes.length)(ok:a.Ok)(hm:a.mm.Small)(hA:∀f∈aP a.L,f∈A)(hs:SF w D [(b,fR a)] A [] (gD a) w) :
  Calls prog 88 #[.agg ⟨mJ b t⟩,.int .i64 i,fn f cap] w (Ag b (λ _ _ _=>True) a B D w):=by
 refine enter func88 ntmps88 rfl rfl hs ?_;simp only[cC]
 refine K1g ?_;intro x3;refine K2j ?_;intro x4 x5 x6 x10 h10 x13;refine bT (gE λ _=>aQ rf cY rf (cD _) eE rf iN) (λ _=>?_);refine aG ?_;refine aY results88 (λ w hw=>?_);exact⟨(nQ (aB (cO a.L) i).nd.main _ _,[bx x3 (mJ b t),bx x4 [iv i],bx x5 [fn f cap]],a),rfl,⟨trivial,ok,(AS.iL.refl a).more (λ _ h=>(List.not_mem_nil h).elim)⟩,(((hw.dB (.tail .head)).dB (.tail .head)).dB (.tail .head)).rI⟩
variable{bf h:Nat}{key:ByteArray}
def Nz(b bf h:Nat)(t:dV)(key:ByteArray)(n:Nat):Prop:=∀(a:AS) (D:List Nat) (A B:Fr) (i:Int) (lv:Nat) (w:World),lv+n<=4294967296->bx bf (Jf b t key h)∈B->i<=a.mm.nodes.length->a.Ok->a.mm.Small->(∀f∈aP a.L,f∈A)->(∀x∈B,x∈A)->SF w D [(b,fR a)] A [] (gD a) w ->
  Calls prog 108 #[pt bf,.int .i64 i,.int .i64 ((lv:Nat):Int)] w (Ag b (λ c' s' B'=>jS b (lC t h key .done n i ((lv:Nat):Int)) a.mm c' s' B') a B D w)
theorem uh:Nz b bf h t key 0:=by intro a D A B i lv w hl hbf hi ok hm hA hB hs;refine enter func108 ntmps108 rfl rfl hs ?_;simp only[cC];refine K1g ?_;intro x3;refine bL (λ x5=>?_);refine aJ (λ x6=>?_);refine aG ?_;refine nG ?_;refine Hs ?_;refine aC (Uo bf (Jf b t key h) 0 3 hB rfl rfl (hm:=hbf)) rfl ?_;refine aA ?_;refine K1o ?_;(refine aN (bE.pre (λ w h=>(show SF _ _ [_,(b,fR a)] _ ([bx x3 [pt bf],bx x5 [iv ((lv:Nat):Int)]]:Fr) _ w from(h.dB (.tail .head)).dB (.tail .head))) (zY (A0:=[bx x3 [pt bf],bx x5 [iv ((lv:Nat):Int)]]++A) (B:=[bx x3 [pt bf],bx x5 [iv ((lv:Nat):Int)]]++B) (hA:=bG.Tu) (λ w1 hw=>jo hi ok hm (λ f hf=>List.mem_append_right _ (hA f hf)) hw))) (λ x13=>?_);try (refine eP (λ h13=>?_)));refine bT (gE λ _=>aQ rf cY rf (cD _) eE rf iN) (λ _=>?_);refine aG ?_;refine aY results108 (λ w hw=>?_);exact⟨(x13.1,x13.2.1++[bx x3 [pt bf],bx x5 [iv ((lv:Nat):Int)]],x13.2.2),rfl,⟨trivial,h13.2.1,h13.2.2.more λ f hf=>List.mem_append_left _ hf⟩,hw.rI⟩
noncomputable def qD (t:dV) (h:Nat) (key:ByteArray) (n:Nat) (level:Int) (mr:Int):Tr:=.node mr λ m =>
  if m.kind=5 then(if m.key=key then .done (dO true m.val) else .done (dO false 0))
  else if m.kind=6 then .done (dO (cK m.ys key).isSome ((cK m.ys key).getD 0))
  else match iO m (eZ h level) with
   | none=>.done (dO false 0)
   | some b=>.node b λ s=>if s.kind=4 then(if s.key=key then .done (dO true s.val) else .done (dO false 0)) else lC t h key .done n b (level+1)
theorem W0{o:Option Int}(h:o.isSome=true):o=some (o.getD 0):=by cases o with|none=>cases h|some a=>rfl
theorem z9{s:Mm}{c:Cd}{B:Fr}{p:Prop} [Decidable p] {x y:Rs}(e:c=iD (if p then x else y)):jS b (if p then .done x else .done y) s c s B:=by
 split;·rename_i hp;rw[if_pos hp] at e;exact⟨rfl,e⟩
 ·rename_i hp;rw[if_neg hp] at e;exact⟨rfl,e⟩
section
variable{s:Mm}{m l:Int}{n:Nat}{u:Nv}
theorem aEa(hm:m<=s.nodes.length)(e:bH s.nodes m=u)(k:u.kind=5):jS b (qD t h key n l m) s (iD (if u.key=key then dO true u.val else dO false 0)) s B:=by subst e;refine⟨hm,?_⟩;show jS b (if(bH s.nodes m).kind=5 then _ else _) s _ s B;rw[if_pos k];exact z9 rfl
theorem aDn(hm:m<=s.nodes.length)(e:bH s.nodes m=u)(k:u.kind=6):jS b (qD t h key n l m) s (iD (dO (cK u.ys key).isSome ((cK u.ys key).getD 0))) s B:=by subst e;refine⟨hm,?_⟩;show jS b (if(bH s.nodes m).kind=5 then _ else if(bH s.nodes m).kind=6 then _ else _) s _ s B;rw[if_neg (by omega),if_pos k];exact⟨rfl,rfl⟩
theorem aDr(hm:m<=s.nodes.length)(e:bH s.nodes m=u)(k5:u.kind≠5)(k6:u.kind≠6)(hk:iO u (eZ h l)=none):jS b (qD t h key n l m) s (iD (dO false 0)) s B:=by subst e;refine⟨hm,?_⟩;show jS b (if(bH s.nodes m).kind=5 then _ else if(bH s.nodes m).kind=6 then _ else _) s _ s B;rw[if_neg k5,if_neg k6,hk];exact⟨rfl,rfl⟩
theorem aDN(hm:m<=s.nodes.length)(e:bH s.nodes m=u)(k:u.kind=6)(hf:(cK u.ys key).isSome=true):jS b (qD t h key n l m) s (iD (dO true ((cK u.ys key).getD 0))) s B:=by have:=aDn (b:=b) (B:=B) (t:=t) (h:=h) (key:=key) (l:=l) (n:=n) hm e k;rw[hf] at this;exact this
theorem aDE(hm:m<=s.nodes.length)(e:bH s.nodes m=u)(k:u.kind=6)(hf:cK u.ys key=none):jS b (qD t h key n l m) s (iD (dO false 0)) s B:=by have:=aDn (b:=b) (B:=B) (t:=t) (h:=h) (key:=key) (l:=l) (n:=n) hm e k;rw[hf] at this;exact this
theorem aC2(hm:m<=s.nodes.length)(e:bH s.nodes m=u)(k3:¬u.kind=3)(k5:¬u.kind=5)(k6:¬u.kind=6):jS b (qD t h key n l m) s (iD (dO false 0)) s B :=aDr hm e k5 k6 (by cases hk:iO u (eZ h l) with|none=>rfl|some q=>exact absurd (lQ hk) k3)
theorem aDa(hm:m<=s.nodes.length)(e:bH s.nodes m=u)(k3:u.kind=3){c:Cd}{s2:Mm}{q:Int}(hk:iO u (eZ h l)=some q)(hq:q<=s.nodes.length)(hc:jS b (if(bH s.nodes q).kind=4 then(if(bH s.nodes q).key=key then .done (dO true (bH s.nodes q).val) else .done (dO false 0)) else lC t h key .done n q (l+1)) s c s2 B):jS b (qD t h key n l m) s c s2 B:=by subst e;refine⟨hm,?_⟩;show jS b (if(bH s.nodes m).kind=5 then _ else if(bH s.nodes m).kind=6 then _ else _) s _ s2 B;rw[if_neg (by omega),if_neg (by omega),hk];exact⟨hq,hc⟩
end
set_option maxHeartbeats 1000000 in
theorem yb{n lv:Nat}{m:Int}{s:Mm}{xf xl:Nat}(ih:Nz b bf h t key n)(hl:lv+1+n<=4294967296)(hh:h<18446744073709551616)(hbf:bx bf (Jf b t key h)∈B)(hmm:m<=s.nodes.length):rP b 148 [pt xf,pt xl] [.int .i64 m] (bx xf [pt bf]::bx xl [iv ((lv:Nat):Int)]::B) s (qD t h key n ((lv:Nat):Int) m):=by
 intro a D A w em ok hm hA hB hw0;subst em;have hfm:bx bf (Jf b t key h)∈bx xf [pt bf]::bx xl [iv ((lv:Nat):Int)]::B:=List.mem_cons_of_mem _ (List.mem_cons_of_mem _ hbf);have nm:=Bv ok m;refine enter func148 ntmps148 rfl rfl hw0 ?_;simp only[cC]
 refine K0q ?_;intro x4;refine K0y ?_;refine Hs ?_;refine aE ?_;refine aC (lS bf (Jf b t key h) 0 hB rfl (hm:=hfm)) rfl ?_;refine aA ?_;refine aD (Dt m ok hm hA hmm) (λ x17 h17=>?_);refine aJ (λ x5=>?_);refine J5 ?_;refine B9 ?_;refine aG ?_;refine cR ?_;refine lN ?_;refine bD (λ c20=>?_) (λ c20=>?_)
 ·try (first|contradiction|(exfalso;omega))
  refine aV ?_;refine eM [(0,[]),(1,[]),(2,[]),(3,[]),(4,[]),(5,[]),(6,[0]),(7,[]),(8,[]),(9,[]),(10,[]),(11,[]),(12,[])] ?_;refine bW ?_;refine bU (i:=1) (hq:=(lS xf [pt bf] 0 hB rfl)) (h:=?_);refine J4 ?_;refine bU (i:=4) (hq:=(lS bf (Jf b t key h) 4 hB rfl (hm:=hfm))) (h:=?_);refine bU (i:=5) (hq:=(lS xl [iv ((lv:Nat):Int)] 0 hB rfl)) (h:=?_);refine dD (i:=6) (hq:=(cV (hc:=λ w1 hw=>U2 hh ((lv:Nat):Int) w1))) (h:=λ x29=>?_);refine dD (i:=7) (hq:=(cV (hc:=λ w1 hw=>aAZ (v:=(aB (cO a.L) m).at_ x17.1 x17.2) nm (eZ h ((lv:Nat):Int)) ((aR.ji (Cu ok.fit.all m) _ _).sM (hw.cl (.own (.tail .head))) (hw.cl (.own .head)))))) (h:=λ x30=>?_);refine aT ?_;refine jU ?_;refine jU ?_;refine Qe ?_;refine kF ?_;refine oD ?_;refine bD (λ c34=>?_) (λ c34=>?_)
  ·try (first|contradiction|(exfalso;omega))
   refine J0 ?_;refine aN (cV (hc:=λ w1 hw=>yB w1)) (λ x35=>?_);refine bT (gE λ _=>aQ rf cY rf (cD _) eE rf iN) (λ _=>?_);refine K2d ?_;intro w hw;exact⟨(iD (dO false 0),[],a),rfl,⟨aDr hmm (gH m) (by have e:(aB (cO a.L) m).c.kind=3:=c20;show(aB (cO a.L) m).c.kind≠5;omega) (by have e:(aB (cO a.L) m).c.kind=3:=c20;show(aB (cO a.L) m).c.kind≠6;omega) (show iO ((aB (cO a.L) m).at_ x17.1 x17.2).c (eZ h ((lv:Nat):Int))=none by simpa using c34),ok,AS.iL.refl a⟩,hw.rI⟩
  ·try (first|contradiction|(exfalso;omega))
   refine lH ?_;refine K0y ?_;refine Hs ?_;refine aE ?_;refine aC (lS bf (Jf b t key h) 0 hB rfl (hm:=hfm)) rfl ?_;refine aA ?_;refine aD (Dt (((iO ((aB (cO a.L) m).at_ x17.1 x17.2).c (eZ h ((lv:Nat):Int))).getD 0)) ok hm hA (lV (v:=(aB (cO a.L) m).at_ x17.1 x17.2) nm (eZ h ((lv:Nat):Int)))) (λ x42 h42=>?_);refine aJ (λ x8=>?_);refine J5 ?_;refine iB ?_;refine tH ?_;refine bD (λ c45=>?_) (λ c45=>?_)
   ·try (first|contradiction|(exfalso;omega))
    refine K0y ?_;refine bO ?_;refine aN (cV (hc:=λ w1 hw=>Xs (v:=(aB (cO a.L) ((iO ((aB (cO a.L) m).at_ x17.1 x17.2).c (eZ h ((lv:Nat):Int))).getD 0)).at_ x42.1 x42.2) (hw.cl (.bR (Ap.rB (hB _ hfm)))))) (λ x48=>?_);refine bT (gE λ _=>aQ rf cY rf (cD _) eE rf iN) (λ _=>?_);refine K2d ?_;intro w hw;refine⟨(iD _,[],a),rfl,⟨aDa hmm (gH m) (show(aB (cO a.L) m).c.kind=3 from c20) (q:=(iO ((aB (cO a.L) m).at_ x17.1 x17.2).c (eZ h ((lv:Nat):Int))).getD 0) (W0 (o:=iO ((aB (cO a.L) m).at_ x17.1 x17.2).c (eZ h ((lv:Nat):Int))) (by simpa using c34)) (lV (v:=(aB (cO a.L) m).at_ x17.1 x17.2) nm (eZ h ((lv:Nat):Int))) ?_,ok,AS.iL.refl a⟩,hw.rI⟩;rw[gH,if_pos (by exact c45)];exact z9 rfl
   ·try (first|contradiction|(exfalso;omega))
    refine aW ?_;refine K0y ?_;refine aA ?_;refine aC (lS xl [iv ((lv:Nat):Int)] 0 hB rfl) rfl ?_;refine Ea ?_;refine aD (zY (λ w1 hw=>ih a _ A _ _ (lv+1) w1 hl hfm (lV (v:=(aB (cO a.L) m).at_ x17.1 x17.2) nm (eZ h ((lv:Nat):Int))) ok hm hA hB hw)) (λ x53 h53=>?_);refine bT (gE λ _=>aQ rf cY rf (cD _) eE rf iN) (λ _=>?_);refine K2d ?_;intro w hw;refine⟨x53,rfl,⟨aDa hmm (gH m) (show(aB (cO a.L) m).c.kind=3 from c20) (q:=(iO ((aB (cO a.L) m).at_ x17.1 x17.2).c (eZ h ((lv:Nat):Int))).getD 0) (W0 (o:=iO ((aB (cO a.L) m).at_ x17.1 x17.2).c (eZ h ((lv:Nat):Int))) (by simpa using c34)) (lV (v:=(aB (cO a.L) m).at_ x17.1 x17.2) nm (eZ h ((lv:Nat):Int))) ?_,h53.2⟩,hw.rN⟩;rw[gH,if_neg (by exact c45)];exact h53.1
 ·try (first|contradiction|(exfalso;omega))
  refine lN ?_;refine bD (λ c54=>?_) (λ c54=>?_)
  ·try (first|contradiction|(exfalso;omega))
   refine K0y ?_;refine bO ?_;refine aN (cV (hc:=λ w1 hw=>Xs (v:=(aB (cO a.L) m).at_ x17.1 x17.2) (hw.cl (.bR (Ap.rB (hB _ hfm)))))) (λ x58=>?_);refine bT (gE λ _=>aQ rf cY rf (cD _) eE rf iN) (λ _=>?_);refine K2d ?_;intro w hw;exact⟨(iD _,[],a),rfl,⟨aEa hmm (gH m) (show(aB (cO a.L) m).c.kind=5 from c54),ok,AS.iL.refl a⟩,hw.rI⟩
  ·try (first|contradiction|(exfalso;omega))
   refine lN ?_;refine bD (λ c59=>?_) (λ c59=>?_)
   ·try (first|contradiction|(exfalso;omega))
    refine aV ?_;refine gO [0,1,2,3,4,5,6,7,8,9,10,11] ?_;refine mI ?_;refine bU (i:=2) (hq:=(lS xf [pt bf] 0 hB rfl)) (h:=?_);refine J4 ?_;refine bU (i:=5) (hq:=(lS bf (Jf b t key h) 3 hB rfl (hm:=hfm))) (h:=?_);refine dD (i:=6) (hq:=(cV (v:=.tuple #[.int .u64 ((cK (aB (cO a.L) m).ys key).getD 0),.bool (cK (aB (cO a.L) m).ys key).isSome]) (hc:=λ w1 hw=>Ym (v:=aB (cO a.L) m) (Cu ok.fit.all m) (hw.cl (.own .head))))) (h:=λ x68=>?_);refine aT ?_;refine jU ?_;refine jU ?_;refine Qe ?_;refine J2 ?_;refine aG ?_;refine bD (λ c71=>?_) (λ c71=>?_)
    ·try (first|contradiction|(exfalso;omega))
     refine J2 ?_;refine aN (cV (hc:=λ w1 hw=>F4 _ w1)) (λ x73=>?_);refine bT (gE λ _=>aQ rf cY rf (cD _) eE rf iN) (λ _=>?_);refine K2d ?_;intro w hw;exact⟨(iD _,[],a),rfl,⟨aDN hmm (gH m) (show(aB (cO a.L) m).c.kind=6 from c59) (show(cK (aB (cO a.L) m).ys key).isSome=true by simpa using c71),ok,AS.iL.refl a⟩,hw.rI⟩
    ·try (first|contradiction|(exfalso;omega))
     refine pP ?_;refine J0 ?_;refine aN (cV (hc:=λ w1 hw=>yB w1)) (λ x74=>?_);refine bT (gE λ _=>aQ rf cY rf (cD _) eE rf iN) (λ _=>?_);refine K2d ?_;intro w hw;exact⟨(iD (dO false 0),[],a),rfl,⟨aDE hmm (gH m) (show(aB (cO a.L) m).c.kind=6 from c59) (show cK (aB (cO a.L) m).ys key=none by simpa using c71),ok,AS.iL.refl a⟩,hw.rI⟩
   ·try (first|contradiction|(exfalso;omega))
    refine pP ?_;refine J0 ?_;refine aN (cV (hc:=λ w1 hw=>yB w1)) (λ x74=>?_);refine bT (gE λ _=>aQ rf cY rf (cD _) eE rf iN) (λ _=>?_);refine K2d ?_;intro w hw;exact⟨(iD (dO false 0),[],a),rfl,⟨aC2 hmm (gH m) c20 c54 c59,ok,AS.iL.refl a⟩,hw.rI⟩
theorem yy{n:Nat}(ht:t.root<=9223372036854775807)(hh:h<18446744073709551616)(ih:Nz b bf h t key n):Nz b bf h t key (n+1):=by
 intro a D A B i lv w hl hbf hi ok hm hA hB hs;have hT:∀x3 x5:Nat,As b (qD t h key n ((lv:Nat):Int)) a.mm 148 [pt x3,pt x5] ([bx x3 [pt bf],bx x5 [iv ((lv:Nat):Int)]]++B):=λ x3 x5=>⟨by kernel_rfl,λ m s1 l hmm=>yb ih (by omega) hh hbf hmm⟩;refine enter func108 ntmps108 rfl rfl hs ?_;simp only[cC]
 refine K1g ?_;intro x3;refine bL (λ x5=>?_);refine aJ (λ x6=>?_);refine aG ?_;refine nG ?_;refine Hs ?_;refine aC (Uo bf (Jf b t key h) 0 3 hB rfl rfl (hm:=hbf)) rfl ?_;refine aA ?_;refine K1o ?_;(refine aN (bE.pre (λ w h=>(show SF _ _ [_,(b,fR a)] _ ([bx x3 [pt bf],bx x5 [iv ((lv:Nat):Int)]]:Fr) _ w from(h.dB (.tail .head)).dB (.tail .head))) (zY (A0:=[bx x3 [pt bf],bx x5 [iv ((lv:Nat):Int)]]++A) (B:=[bx x3 [pt bf],bx x5 [iv ((lv:Nat):Int)]]++B) (hA:=bG.Tu) (λ w1 hw=>Vx ht (hT x3 x5) hi ok hm (λ f hf=>List.mem_append_right _ (hA f hf)) (Gp hB) hw))) (λ x13=>?_);try (refine eP (λ h13=>?_)));refine bT (gE λ _=>aQ rf cY rf (cD _) eE rf iN) (λ _=>?_);refine aG ?_;refine aY results108 (λ w hw=>?_);refine⟨(x13.1,x13.2.1++[bx x3 [pt bf],bx x5 [iv ((lv:Nat):Int)]],x13.2.2),rfl,⟨?_,h13.2.1,h13.2.2.more λ f hf=>List.mem_append_left _ hf⟩,hw.rI⟩;have h13':=h13.1;rw[<- List.append_assoc] at h13';exact h13'
theorem Vd(ht:t.root<=9223372036854775807)(hh:h<18446744073709551616):∀n,Nz b bf h t key n
 | 0=>uh
 | n+1=>yy ht hh (Vd ht hh n)
end
end
end Go.Proofs.YtbajmaoegmbfgaaGreat

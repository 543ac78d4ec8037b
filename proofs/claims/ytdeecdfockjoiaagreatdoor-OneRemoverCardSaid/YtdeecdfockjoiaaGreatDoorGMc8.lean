/- Merged. -/
import Derived.Test.YtdeecdfockjoiaaGreatDoorGMc3
import Derived.Test.YtdeecdfockjoiaaGreatDoorGQd3
import Derived.Test.YtdeecdfockjoiaaGreatDoorGTt1
set_option linter.unusedSimpArgs false
set_option linter.unusedVariables false
namespace Go.Proofs.YtdeecdfockjoiaaGreatDoor
open Go.Proofs.Tryz
open Go Go.RowKit Go.Ct
section
section
variable{b C k m:Nat}{Z:AM}{V:MV}{t:jD}{p:zj}{o:jX}{a a':AS}{F:Fr}{es:List lW}
variable{B:Fr}{t' x:jD}{j:Nat}
theorem MI.mono(h:MI b C Z V):MI b (C+1) Z V:=⟨h.ok,h.up,h.th,h.hist,h.tb,λ t ht p hp=>by obtain⟨h1,h2,h3,h4⟩:=h.pr t ht p hp;exact⟨h1,h2,h3,by omega⟩,h.fam,h.fo,h.oo,h.tl,by have:=h.hl;omega⟩
theorem Mq(g:a.fF a' F)(h:eH b p.T (a.mm.wp ((p.u,p.po),p.pl)) p.c (a.mm.wp ((p.u,p.po),p.pl)) B/\fI p.T=true/\p.T.live=true/\p.n<=C):eH b p.T (a'.mm.wp ((p.u,p.po),p.pl)) p.c (a'.mm.wp ((p.u,p.po),p.pl)) (F++B)/\fI p.T=true/\p.T.live=true/\p.n<=C+1 :=⟨eH.more (h.1.le h.2.1 (s1:=a'.mm.wp ((p.u,p.po),p.pl)) ⟨⟨g.le.nodes,g.le.cl⟩,rfl⟩) λ _ hx=>List.mem_append_right _ hx,h.2.1,h.2.2.1,by omega⟩
theorem Hy(g:a.fF a' F)(h:∀f∈dD a.L,f.2=[]∨f∈B):∀f∈dD a'.L,f.2=[]∨f∈F++B:=λ f hf=>by
 rcases g.fam f hf with h1|h1|h1;·exact .inl h1
 ·exact(h f h1).imp_right λ h=>List.mem_append_right _ h
 ·exact .inr (List.mem_append_left _ h1)
theorem oV{l:List jD}(hx:x∈l.set k t'):x∈l∨x=t':=List.mem_or_eq_of_mem_set hx
theorem U3{l:List jD}(hk:k<l.length)(h:(l.set k t')[j]?=some x):(j=k/\x=t')∨(j≠k/\l[j]?=some x):=by
 rw[List.getElem?_set] at h;by_cases e:k=j;·subst e;rw[if_pos rfl,if_pos hk] at h;injection h with h;exact .inl ⟨rfl,h.symm⟩
 ·rw[if_neg e] at h;exact .inr ⟨λ e2=>e e2.symm,h⟩
theorem Jr.iT{es es':List lW}(hj:j≠k)(h:Jr es j t)(ho:t.ops.length<=16)(hi:t.pr≠none->t.idx<t.ops.length)(he:∀i,i<16->lH es' (lP j i) 0=lH es (lP j i) 0):Jr es' j t:=by
 unfold Jr at *;cases hp:t.pr with
 | none=>rw[hp] at h;exact λ i h1 h2=>(he i h2).trans (h i h1 h2)
 | some p=>rw[hp] at h;obtain⟨⟨q,e,h1,h2,h3⟩,h4⟩:=h;have:=hi (by rw[hp];exact λ e=>nomatch e);exact⟨⟨q,e,(he t.idx (by omega)).trans h1,h2,h3⟩,λ i h5 h6=>(he i h6).trans (h4 i h5 h6)⟩
theorem au(hth:V.th.map jD.abs=Z.th)(ht:V.th[k]?=some t)(hpr:t.pr=none)(hop:t.ops[t.idx]?=some o):fD m k Z=⟨Z.s,Z.th.set k ⟨t.ops,t.idx,some (pS m o)⟩,Z.hist++[⟨k,t.idx,false,Rs.zero⟩]⟩:=by
 have h1:Z.th[k]?=some ⟨t.ops,t.idx,none⟩:=by rw[<- hth,List.getElem?_map,ht];show some t.abs=_;unfold jD.abs;rw[hpr];rfl
 unfold fD;rw[h1];show(match t.ops[t.idx]? with|none=>Z|some o=>_)=_;rw[hop];show uD Z k _ (Ct.jT (pS m o) Z.s) _=_;rw[tG,nL (H2 m o)]
theorem MI.new{x:(Nat×Cd×Fr×AS)×Option Addr×Nat×Int}(h:MI b C Z V)(hk8:k<8)(ht:V.th[k]?=some t)(hpr:t.pr=none)(hop:t.ops[t.idx]?=some o)(hq:Yz b (pS m o) V.a.mm V.a V.B x.1.2):MI b (C+1) (fD m k Z) (V.Xf k t o.kind (pS m o) x):=by
 rw[au h.th ht hpr hop];obtain⟨q1,q2,q3,q4⟩:=hq;have htm:t∈V.th:=List.mem_of_getElem? ht;have hkl:=(List.getElem?_eq_some_iff.1 ht).1;obtain⟨o1,o2,o3,o4⟩:=h.oo t htm
 refine K3p ?_;intro hil;have hoo:=o4 o (List.mem_of_getElem? hop);have htb:=h.tb k t ht;unfold Jr at htb;rw[hpr] at htb;refine⟨q3,?_,?_,?_,λ j u hu=>?_,λ u hu p hp=>?_,Hy q4 h.fam,λ u hu=>?_,λ u hu=>?_,by simpa using h.tl,?_⟩
 ·show x.1.2.2.2.mm=_;rw[q2,h.up]
 ·show(V.th.set k _).map jD.abs=_;rw[List.map_set,h.th];rfl
 ·show V.hi++_=_;rw[h.hist]
 ·rcases U3 hkl hu with⟨rfl,rfl⟩|⟨hj,hu⟩
  ·refine⟨⟨V.es.length,⟨lP j t.idx,o.kind,false,V.ec⟩,?_,rfl,hoo.kind⟩,λ i h1 h2=>?_⟩;·show lH (V.es++[_]) (lP j t.idx) 0=_;rw[An,htb t.idx (Nat.le_refl _) (by omega),if_pos rfl];simp
   ·show lH (V.es++[_]) (lP j i) 0=_;have h1':t.idx<i:=h1;rw[An,htb i (by omega) h2,if_neg (λ e=>by have e':lP j t.idx=lP j i:=e;have:=B4 (by omega) h2 e';omega)];rfl
  ·obtain⟨u1,u2,u3,_⟩:=h.oo u (List.mem_of_getElem? hu);refine(h.tb j u hu).iT (k:=k) hj u1 u3 λ i hi=>?_;show lH (V.es++[_]) (lP j i) 0=_;rw[An,if_neg (λ e=>by have e':lP k t.idx=lP j i:=e;have:=B4 (by omega) hi e';exact hj this.1.symm),Option.or_none]
 ·rcases oV hu with hu|rfl;·exact Mq q4 (h.pr u hu p hp)
  ·cases hp;exact⟨q1,H8 m o,H2 m o,Nat.zero_le _⟩
 ·rcases oV hu with hu|rfl;·exact List.mem_append_right _ (h.fo u hu)
  ·exact List.mem_append_right _ (h.fo t htm)
 ·rcases oV hu with hu|rfl;·exact h.oo u hu
  ·exact⟨o1,o2,λ _=>hil,o4⟩
 ·have:=h.hl;show(V.hi++[_]).length<=_;simp only[List.length_append,List.length_cons,List.length_nil];omega
theorem aCS(h:MI b C Z V):(V.ap p).mm=Z.s.wp ((p.u,p.po),p.pl):=by show V.a.mm.wp ((p.u,p.po),p.pl)=_;rw[h.up]
theorem D9(h:MI b C Z V)(T:Tr):mC (T,(V.ap p).mm)=((mC (T,Z.s)).1,(mC (T,Z.s)).2.wp ((p.u,p.po),p.pl)):=by rw[aCS h];exact aBw _ _ _
theorem Gj(hth:V.th.map jD.abs=Z.th)(ht:V.th[k]?=some t)(hpr:t.pr=some p)(hop:t.ops[t.idx]?=some o):fD m k Z=uD Z k ⟨t.ops,t.idx,some p.T⟩ (mC (p.T,Z.s)) Z.hist:=by
 have h1:Z.th[k]?=some ⟨t.ops,t.idx,some p.T⟩:=by rw[<- hth,List.getElem?_map,ht];show some t.abs=_;unfold jD.abs;rw[hpr];rfl
 unfold fD;rw[h1];show(match t.ops[t.idx]? with|none=>Z|some o=>_)=_;rw[hop]
theorem MI.Wn{x:(Cd×Fr×AS)×Int}(h:MI b C Z V)(ht:V.th[k]?=some t)(hpr:t.pr=some p)(hop:t.ops[t.idx]?=some o)(hl2:(mC (p.T,Z.s)).1.live=true)(har:fI (mC (p.T,Z.s)).1=true)(hq:Yz b (mC (p.T,(V.ap p).mm)).1 (mC (p.T,(V.ap p).mm)).2 (V.ap p) V.B x.1):MI b (C+1) (fD m k Z) (V.Wn k t p (mC (p.T,(V.ap p).mm)).1 x):=by
 rw[Gj h.th ht hpr hop,nL hl2];rw[D9 h] at hq;simp only[D9 h];obtain⟨q1,q2,q3,q4'⟩:=hq;have q4:V.a.fF x.1.2.2 x.1.2.1:=⟨⟨q4'.le.nodes,q4'.le.cl⟩,q4'.fam⟩;have htm:t∈V.th:=List.mem_of_getElem? ht;have hkl:=(List.getElem?_eq_some_iff.1 ht).1;obtain⟨o1,o2,o3,o4⟩:=h.oo t htm
 refine K3p ?_;intro hil;have htb:=h.tb k t ht;obtain⟨_,_,_,p4⟩:=h.pr t htm p hpr
 refine⟨q3,q2,?_,h.hist,λ j u hu=>?_,λ u hu p' hp=>?_,Hy q4 h.fam,λ u hu=>?_,λ u hu=>?_,by simpa using h.tl,?_⟩;·show(V.th.set k _).map jD.abs=_;rw[List.map_set,h.th];rfl
 ·rcases U3 hkl hu with⟨rfl,rfl⟩|⟨hj,hu⟩;·unfold Jr at htb ⊢;rw[hpr] at htb;exact htb
  ·exact h.tb j u hu
 ·rcases oV hu with hu|rfl;·exact Mq q4 (h.pr u hu p' hp)
  ·cases hp;exact⟨q1,har,hl2,by show p.n+1<=_;omega⟩
 ·rcases oV hu with hu|rfl;·exact List.mem_append_right _ (h.fo u hu)
  ·exact List.mem_append_right _ (h.fo t htm)
 ·rcases oV hu with hu|rfl;·exact h.oo u hu
  ·exact⟨o1,o2,λ _=>hil,o4⟩
 ·have:=h.hl;show V.hi.length<=_;omega
theorem MI.fin{x:(Cd×Fr×AS)×Option Addr×Nat×Int}{q:Nat}{e:lW}{r:Rs}(h:MI b C Z V)(ht:V.th[k]?=some t)(hpr:t.pr=some p)(hop:t.ops[t.idx]?=some o)(hd:(mC (p.T,Z.s)).1=.done r)(hf:lH V.es (lP k t.idx) 0=some (q,e))(hq:Yz b (mC (p.T,(V.ap p).mm)).1 (mC (p.T,(V.ap p).mm)).2 (V.ap p) V.B x.1):MI b (C+1) (fD m k Z) (V.fin k t q e r x):=by
 rw[Gj h.th ht hpr hop,zQ hd];rw[D9 h] at hq;obtain⟨q1,q2,q3,q4'⟩:=hq;have q4:V.a.fF x.1.2.2 x.1.2.1:=⟨⟨q4'.le.nodes,q4'.le.cl⟩,q4'.fam⟩;have htm:t∈V.th:=List.mem_of_getElem? ht;have hkl:=(List.getElem?_eq_some_iff.1 ht).1;obtain⟨o1,o2,o3,o4⟩:=h.oo t htm
 refine K3p ?_;intro hil;have htb:=h.tb k t ht;unfold Jr at htb;rw[hpr] at htb;obtain⟨hen,_,_⟩:=F9 hf
 have hset:∀n',lH (V.es.set q ⟨e.n,e.kind,true,e.born⟩) n' 0=if n'=lP k t.idx then some (q,⟨e.n,e.kind,true,e.born⟩) else lH V.es n' 0:=λ n'=>by have:=P0 hf (e':=⟨e.n,e.kind,true,e.born⟩) hen n';rwa [Nat.sub_zero] at this
 refine⟨q3,q2,?_,?_,λ j u hu=>?_,λ u hu p' hp=>?_,Hy q4 h.fam,λ u hu=>?_,λ u hu=>?_,by simpa using h.tl,?_⟩;·show(V.th.set k _).map jD.abs=_;rw[List.map_set,h.th];rfl
 ·show V.hi++_=_;rw[h.hist]
 ·rcases U3 hkl hu with⟨rfl,rfl⟩|⟨hj,hu⟩;·intro i h1 h2;have h1':t.idx+1<=i:=h1;show lH (V.es.set q _) (lP j i) 0=none;rw[hset,if_neg (λ e2=>by have:=B4 h2 (by omega) e2;omega)];exact htb.2 i (by omega) h2
  ·obtain⟨u1,u2,u3,_⟩:=h.oo u (List.mem_of_getElem? hu);refine(h.tb j u hu).iT (k:=k) hj u1 u3 λ i hi=>?_;show lH (V.es.set q _) (lP j i) 0=_;rw[hset,if_neg (λ e2=>by have:=B4 hi (by omega) e2;exact hj this.1)]
 ·rcases oV hu with hu|rfl;·exact Mq q4 (h.pr u hu p' hp)
  ·cases hp
 ·rcases oV hu with hu|rfl;·exact List.mem_append_right _ (h.fo u hu)
  ·exact List.mem_append_right _ (h.fo t htm)
 ·rcases oV hu with hu|rfl;·exact h.oo u hu
  ·exact⟨o1,hil,λ hne=>absurd rfl hne,o4⟩
 ·have:=h.hl;show(V.hi++[_]).length<=_;simp only[List.length_append,List.length_cons,List.length_nil];omega
end
end
section
theorem vU:∀{t:Tr} {s:Mm},(Ct.jT t s).1≠.stuck->fI (Ct.jT t s).1=true
 | .done _,_,_=>rfl
 | .load _ _,_,_=>rfl
 | .sJ _ _ _ _,_,_=>rfl
 | .alloc n i k,s,h=>vU (t:=k ((s.nodes.length+1:Nat):Int)) (s:=s.push n i) h
 | .cell i k,s,h=>vU (t:=k ((s.cs.length+1:Nat):Int)) (s:=⟨s.nodes,s.cs++[i],s.gen,s.pv⟩) h
 | .gen k,s,h=>vU (t:=k (s.gen+1)) (s:=⟨s.nodes,s.cs,s.gen+1,s.pv⟩) h
 | .node r k,s,h=>vU (t:=k (aD s.nodes r)) (s:=s) h
 | .stuck,_,h=>absurd rfl h
theorem Z7{t:Tr}(h:fI t=true):(∃r,t=.done r)∨t.live=true:=by cases t<;>first|exact .inl ⟨_,rfl⟩|exact .inr rfl 
section
variable{D:List Nat}{A:Fr}{b bT bm m bo bt bi k C:Nat}{w:World}{pk:Option Addr×Nat×Nat}{V:MV}{Z:AM}
theorem A4(h:MI b C Z V)(hC:C<=400000)(hm0:m<18446744073709551616)(hk:k<V.th.length)(hok:Uw m k Z)(hm:Z.s.iL)(hA1:∀f∈dD V.a.L,f∈A)(hA2:∀f∈V.B,f∈A)(hs:SF w D (xu m b bm bT bo bt bi pk V) A [] (xQ V) w) :
  Calls prog 14 #[pt bm,.int .i64 (k:Int)] w λ e w'=>∃x:MV×Fr×Bool,e=.returned (.bool x.2.2)/\(MI b (C+1) (fD m k Z) x.1/\x.1.B=x.2.1++V.B)/\SF w D (xu m b bm bT bo bt bi pk x.1) [] x.2.1 (xQ x.1) w':=by
 have ht:V.th[k]?=some V.th[k]:=List.getElem?_eq_getElem hk;generalize V.th[k]=t at ht;have htm:t∈V.th:=List.mem_of_getElem? ht;obtain⟨o1,o2,o3,o4⟩:=h.oo t htm
 have hzt:Z.th[k]?=some t.abs:=by rw[<- h.th,List.getElem?_map,ht];rfl
 have hmt:V.a.mm.iL:=by rw[h.up];exact hm
 have hl8:=h.tl;have hhl:=h.hl;have hA0:∀{O':List Ow},bV A [] O' A:=bV.of λ f hf=>.inr (.inl hf);cases hop:t.ops[t.idx]? with
 | none=>
  have hd:t.ops.length<=t.idx:=List.getElem?_eq_none_iff.1 hop;have hz:fD m k Z=Z:=by unfold fD;rw[hzt];show(match t.ops[t.idx]? with|none=>Z|some o=>_)=_;rw[hop]
  refine(Bc (X:=Unit) (V:=λ _=>.bool false) (φ:=λ _=>True) (hs:=uR m b bm bT bo bt bi pk V) (H':=V.th.flatMap (No b)) (os:=xO V) (O':=V.th.flatMap Pg) (A0:=A) (hs':=λ _=>uR m b bm bT bo bt bi pk V) (os':=λ _=>xO V) (Fc:=λ _=>[]) hs (List.Perm.refl _) (List.Perm.refl _) hA0 (λ h1=>(rn ht hd h1).mono λ _ _ ⟨e,hw⟩=>⟨(),e,trivial,hw⟩)).mono λ e w' ⟨_,e1,_,hw⟩=>⟨(V,[],false),e1,⟨by rw[hz];exact h.mono,rfl⟩,?_⟩;rw[List.append_nil] at hw;exact hw.ph
 | some o=>
  refine K3p ?_;intro hil;have hoo:=o4 o (List.mem_of_getElem? hop);have htb:=h.tb k t ht;unfold Jr at htb;cases hpr:t.pr with
  | none=>
   rw[hpr] at htb;refine(Bc (hs:=uR m b bm bT bo bt bi pk V) (H':=V.th.flatMap (No b)) (os:=xO V) (O':=V.th.flatMap Pg) (A0:=A) (os':=λ x=>x.1.2.2.2.pl::xO (V.Xf k t o.kind (pS m o) x)) (Fc:=λ x:(Nat×Cd×Fr×AS)×Option Addr×Nat×Int=>x.1.2.2.1) (V:=λ _=>.bool true) hs (List.Perm.refl _) (List.Perm.refl _) hA0 (λ h1=>oi (by omega) ht hpr hop hoo (by omega) (htb t.idx (Nat.le_refl _) (by omega)) hm0 h.ok hmt hA1 hA2 (hA2 _ (h.fo t htm)) (by omega) h1)).mono λ e w' ⟨x,e1,hq,hw⟩=>⟨(V.Xf k t o.kind (pS m o) x,x.1.2.2.1,true),e1,⟨h.new (by omega) ht hpr hop hq,rfl⟩,?_⟩;rw[List.append_nil] at hw;have p1:=Bf (f:=No b) ht;have p2:=De (f:=No b) ht (t.Xf (pS m o) x.1);have o1:=Bf (f:=Pg) ht;have o2:=De (f:=Pg) ht (t.Xf (pS m o) x.1);rw[show No b t=[] by unfold No;rw[hpr],List.nil_append] at p1;rw[show Pg t=[] by unfold Pg;rw[hpr],List.nil_append] at o1;refine hw.ph.perm ?_ ?_
   ·refine(List.Perm.append_left _ p2).trans ?_;refine List.Perm.trans ?_ (List.Perm.append_left _ p1.symm);rw[<- List.append_assoc];exact List.perm_append_comm.append_right _
   ·refine(List.Perm.append_left (xO (V.Xf k t o.kind (pS m o) x)) o2).trans ?_;refine List.Perm.trans ?_ (List.Perm.append_left _ o1.symm);rw[<- List.append_assoc];exact(List.perm_append_comm (l₁:=xO (V.Xf k t o.kind (pS m o) x)) (l₂:=[x.1.2.2.2.pl])).append_right _
  | some p=>
   rw[hpr] at htb;obtain⟨⟨q,e0,hf,hfin,hkd⟩,_⟩:=htb;obtain⟨r1,r2,r3,r4⟩:=h.pr t htm p hpr;have hns:(mC (p.T,Z.s)).1≠.stuck:=by have:=hok t.abs o hzt hop;unfold jD.abs at this;rw[hpr] at this;exact this
   have hns2:(mC (p.T,(V.ap p).mm)).1≠.stuck:=by rw[D9 h];exact hns
   have har:fI (mC (p.T,Z.s)).1=true:=vU hns;have pH:(xu m b bm bT bo bt bi pk V).Perm (([(p.bt,tO b p.c p.n),(p.u,p.po)]++uR m b bm bT bo bt bi pk V)++(V.th.eraseIdx k).flatMap (No b)):=by have p1:=Bf (f:=No b) ht;rw[show No b t=[(p.bt,tO b p.c p.n),(p.u,p.po)] by unfold No;rw[hpr]] at p1;refine(List.Perm.append_left _ p1).trans ?_;rw[<- List.append_assoc];exact List.perm_append_comm.append_right _
   have pO:(xQ V).Perm (Sd V p.pl++(V.th.eraseIdx k).flatMap Pg):=by have o1:=Bf (f:=Pg) ht;rw[show Pg t=[p.pl] by unfold Pg;rw[hpr]] at o1;refine(List.Perm.append_left (xO V) o1).trans ?_;rw[<- List.append_assoc];exact(((List.perm_append_comm (l₁:=kM V.a) (l₂:=[p.pl])).cons _).cons _).append_right _
   rcases Z7 har with⟨r,hd⟩|hl2
   ·have hd2:(mC (p.T,(V.ap p).mm)).1=.done r:=by rw[D9 h];exact hd
    refine(Bc (hs:=[(p.bt,tO b p.c p.n),(p.u,p.po)]++uR m b bm bT bo bt bi pk V) (H':=(V.th.eraseIdx k).flatMap (No b)) (os:=Sd V p.pl) (O':=(V.th.eraseIdx k).flatMap Pg) (A0:=A) (os':=λ x=>xO (V.fin k t q e0 r x)) (Fc:=λ x:(Cd×Fr×AS)×Option Addr×Nat×Int=>x.1.2.1) (V:=λ _=>.bool true) hs pH pO hA0 (λ h1=>l9 (by omega) ht hpr hil (by omega) hf hfin hkd r1 r2 r3 hns2 hd2 (by omega) h.ok hmt hA1 hA2 (by omega) h1)).mono λ e w' ⟨x,e1,hq,hw⟩=>⟨(V.fin k t q e0 r x,x.1.2.1,true),e1,⟨h.fin ht hpr hop hd hf hq,rfl⟩,?_⟩;rw[List.append_nil] at hw;have p2:=De (f:=No b) ht ⟨t.op,t.oc,t.ops,t.idx+1,none⟩;have o2:=De (f:=Pg) ht ⟨t.op,t.oc,t.ops,t.idx+1,none⟩;exact hw.ph.perm (List.Perm.append_left _ p2) (List.Perm.append_left (xO (V.fin k t q e0 r x)) o2)
   ·have hl3:(mC (p.T,(V.ap p).mm)).1.live=true:=by rw[D9 h];exact hl2
    refine(Bc (hs:=[(p.bt,tO b p.c p.n),(p.u,p.po)]++uR m b bm bT bo bt bi pk V) (H':=(V.th.eraseIdx k).flatMap (No b)) (os:=Sd V p.pl) (O':=(V.th.eraseIdx k).flatMap Pg) (A0:=A) (os':=λ x=>Sd (V.Wn k t p (mC (p.T,(V.ap p).mm)).1 x) x.1.2.2.pl) (Fc:=λ x:(Cd×Fr×AS)×Int=>x.1.2.1) (V:=λ _=>.bool true) hs pH pO hA0 (λ h1=>Z3 ht hpr hil r1 r2 r3 hns2 hl3 (by omega) h.ok hmt hA1 hA2 h1)).mono λ e w' ⟨x,e1,hq,hw⟩=>⟨(V.Wn k t p (mC (p.T,(V.ap p).mm)).1 x,x.1.2.1,true),e1,⟨h.Wn ht hpr hop hl2 har hq,rfl⟩,?_⟩;rw[List.append_nil] at hw;have p2:=De (f:=No b) ht (t.Wn p (mC (p.T,(V.ap p).mm)).1 x.1);have o2:=De (f:=Pg) ht (t.Wn p (mC (p.T,(V.ap p).mm)).1 x.1);refine hw.ph.perm ?_ ?_
    ·refine(List.Perm.append_left _ p2).trans ?_;rw[<- List.append_assoc];exact List.perm_append_comm.append_right _
    ·refine(List.Perm.append_left (xO (V.Wn k t p (mC (p.T,(V.ap p).mm)).1 x)) o2).trans ?_;rw[<- List.append_assoc];exact(((List.perm_append_comm (l₁:=kM x.1.2.2) (l₂:=[x.1.2.2.pl])).cons _).cons _).append_right _
end
end
section
section
variable{S:List (Nat×Value)}{w0 w:World}{M:List Nat}{H:List (Nat×Obj)}{A F:Fr}{O:List Ow}{ty:TypeId}{pos:String}{af:Array Edge}{gd:Option (Nat×Bool)}{X:Type}{V:X->Value}
theorem cT(nH nO:Nat){φ:X->Prop}{hs:List (Nat×Obj)}{os:List Ow}{hs' H1:X->List (Nat×Obj)}{os' O1:X->List Ow}{Fc F1:X->Fr}{A0:Fr}{f:FuncId}{xs:List Operand}{at_:Array TypeId}{vs:List Value}{dst:Option Nat}
  (hc:∀w,SF w (Ks hs os) hs A0 [] os w->Calls prog f ⟨vs⟩ w λ e w'=>∃x,e=.returned (V x)/\φ x/\SF w (Ks hs os) (hs' x) [] (Fc x) (os' x) w')
  (hA:bV A F (O.take nO) A0) (hF1:∀x,φ x->∀f∈F1 x,f.2=[]∨f∈Fc x++F)
  (ha:nZ S xs=vs:=by(repeat (first|exact cB _|(apply bK;focus ((conv=>{lhs;whnf});try exact rfl))));first|done|fail) (hp:plain prog f=true:=by kernel_rfl)
  (hH:H=H.take nH++hs:=by exact rfl) (hO:O=O.take nO++os:=by exact rfl)
  (hH1:∀x,H.take nH++hs' x=H1 x:=by intro x;simp only[List.take_succ_cons,List.take_zero,List.cons_append,List.nil_append];exact rfl) (hO1:∀x,O.take nO++os' x=O1 x:=by intro x;simp only[List.take_succ_cons,List.take_zero,List.cons_append,List.nil_append];exact rfl) :
  aW prog S (SF w0 M H A F O) ⟨dst,.call {callee:=.value (.func f),args:=⟨xs⟩,argTypes:=at_},ty,pos,af,gd⟩ X V (λ x w=>φ x/\SF w0 M (H1 x) A (F1 x) (O1 x) w) :=
 iJ (nA hp ha) λ w hw=>(Bc (H':=H.take nH) (O':=O.take nO) hw ((List.Perm.of_eq hH).trans List.perm_append_comm) ((List.Perm.of_eq hO).trans List.perm_append_comm) hA (hc w)).mono λ _ _ ⟨x,he,hx,hs⟩=>⟨x,he,hx,by have h2:=(hs.perm (H':=H1 x) (O':=O1 x) (by rw[<- hH1 x];exact List.perm_append_comm) (by rw[<- hO1 x];exact List.perm_append_comm)).Us (hF1 x hx);exact h2⟩
end
end
section
def MV.iG(V:MV):Bool:=V.th.all λ t=>decide (t.ops.length<=t.idx)
section
variable{D:List Nat}{A:Fr}{b bT bm m bo bt bi k C:Nat}{w:World}{pk:Option Addr×Nat×Nat}{V:MV}{Z:AM}
theorem MI.iG(h:MI b C Z V):V.iG=Z.iG:=by unfold MV.iG AM.iG;rw[<- h.th,List.all_map];rfl
theorem MI.len(h:MI b C Z V):V.th.length=Z.th.length:=by rw[<- h.th,List.length_map]
theorem Ed(m k:Nat)(Z:AM):(fD m k Z).th.length=Z.th.length:=by
 unfold fD;cases h:Z.th[k]? with
 | none=>rfl
 | some t=>
  dsimp only;cases h2:t.ops[t.idx]? with
  | none=>rfl
  | some o=>
   dsimp only;have key:∀p l,(uD Z k t p l).th.length=Z.th.length:=λ p l=>by unfold uD;cases p.1<;>simp
   cases h3:t.pr<;>exact key _ _
theorem Od(m n r:Nat)(Z:AM):∀i,(Ch m n r i Z).th.length=Z.th.length
 | 0=>rfl
 | i+1=>(Ed _ _ _).trans (Od m n r Z i)
theorem Rj(hl8:V.th.length<=8)(hs:SF w D [(bm,Gc b bT pk V)] A [] (tpW V) w) :
    Calls prog 31 #[pt bm] w λ e w'=>e=.returned (.bool V.iG)/\SF w D [(bm,Gc b bT pk V)] [] [] (tpW V) w':=by
     refine enter func31 ntmps31 rfl rfl hs ?_;simp only[cN];refine Uh ?_;refine Kd2 ?_;refine kP [2,3,9,10,11,12,13,14,15,16,17,18,19,20] (λ i:Nat=>[(9,.int .i64 ((i:Nat):Int))]) (λ i=>i<=V.th.length/\∀j t,j<i->V.th[j]?=some t->t.ops.length<=t.idx) (λ i=>V.th.length-i) (0) (⟨Nat.zero_le _,λ j t h=>absurd h (Nat.not_lt_zero j)⟩) ?_ (λ k f hx=>?_);·repeat (first|exact bX _|refine bL (by exact rfl) ?_)
     refine K4a ?_;refine aX (λ c10=>?_) (λ c10=>?_)
     ·have hkl:k<V.th.length:=by omega
      have ht:=List.getElem?_eq_getElem hkl;refine Ka6 ?_;refine J1 ?_;refine qQ ?_;refine aB ?_;refine aA (bP (f:=jD.cells) (k:=k) dO (by decide) rf rf dP cY (.own .head) hkl hkl) rfl ?_;refine aH (cV (v:=.bool (decide (V.th[k].ops.length<=V.th[k].idx))) (hc:=λ w1 hw=>uZ (hw.cl (.own .head)) ht)) (λ x18=>?_);refine pU ?_;refine aX (λ c19=>?_) (λ c19=>?_)
      ·refine eD ?_;refine bJ results31 (λ w hw=>?_);refine⟨?_,hw.ret (List.Sublist.refl _) (bM.dB λ f hf=>hf) (List.Sublist.refl _)⟩;have:V.iG=false:=by rw[Bool.eq_false_iff];intro h;unfold MV.iG at h;rw[List.all_eq_true] at h;have h2:=of_decide_eq_true (h _ (List.getElem_mem hkl));omega
       rw[this];rfl
      ·refine Kc1 ?_;refine hJ (k+1) ?_ ?_ ?_;·omega
       ·repeat' (first|exact bX _|refine bL ?_ ?_)
        exact rfl
       ·refine⟨hkl,λ j t hj hjt=>?_⟩;by_cases e:j=k;·subst e;rw[ht] at hjt;cases hjt;simpa using c19
        ·exact hx.2 j t (by omega) hjt
     ·refine K1z ?_;refine eD ?_;refine bJ results31 (λ w hw=>?_);refine⟨?_,hw.ret (List.Sublist.refl _) (bM.dB λ f hf=>hf) (List.Sublist.refl _)⟩;have:V.iG=true:=by unfold MV.iG;rw[List.all_eq_true];intro t ht;obtain⟨j,hj,rfl⟩:=List.getElem_of_mem ht;exact decide_eq_true (hx.2 j _ (by omega) (List.getElem?_eq_getElem hj))
      rw[this];rfl
end
end
section
section
variable{D:List Nat}{A:Fr}{b bT bm m bo bt bi k C:Nat}{w:World}{pk:Option Addr×Nat×Nat}{V:MV}{Z:AM}
abbrev mcL(m b bm bT bo bt bi:Nat)(pk:Option Addr×Nat×Nat)(V:MV):List (Nat×Obj):=(bm,Gc b bT pk V)::(bT,sL b m bo bt bi)::(bo,cQ (V.es.map (lW.e t3)) V.ec)::(bt,cQ (Jy t3) 1)::(b,dV V.a)::V.th.flatMap (No b)
theorem yh{O:List Ow}{V':MV}{F:Fr}(h:MI b C Z V')(hB:V'.B=F++V.B)(hA2:∀f∈V.B,f∈A):bV A F O (dD V'.a.L++V'.B):=bV.of λ f hf=>by
 have key:f∈V'.B->f∈A∨f∈F:=λ hf=>by rw[hB] at hf;exact(List.mem_append.1 hf).elim .inr λ h=>.inl (hA2 f h)
 rcases List.mem_append.1 hf with hf|hf
 ·rcases h.fam f hf with h1|h1;·exact .inl h1
  ·exact .inr ((key h1).elim .inl λ h=>.inr (.inl h))
 ·exact .inr ((key hf).elim .inl λ h=>.inr (.inl h))
theorem aBt{P:Program}{S:List (Nat×Value)}{G:World->Prop}{d:Nat}{ty t t':TypeId}{pos:String}{af:Array Edge}{gd:Option (Nat×Bool)}{x y:Operand}{i j c:Nat}(hx:ev S x=.int .i64 ((i:Nat):Int))(hy:ev S y=.int .i64 ((j:Nat):Int))(h0:j≠0)(hc:i%j=c):aN P S G ⟨some d,.binOp .rem t x y t',ty,pos,af,gd⟩ (.int .i64 ((c:Nat):Int)):=by have:=jo (P:=P) (G:=G) (d:=d) (ty:=ty) (pos:=pos) (af:=af) (gd:=gd) (t:=t) (t':=t') hx hy (by omega);rwa [show((i:Nat):Int).tmod ((j:Nat):Int)=((c:Nat):Int) by rw[<- hc,Int.ofNat_tmod]] at this
set_option maxRecDepth 100000 in
theorem K6{K most n:Nat}(h:MI b C Z V)(hn:Z.th.length=n)(hn0:0<n)(hi:∀i,i<K->(Ch m n 0 i Z).iG=false/\Uw m ((0+i)%n) (Ch m n 0 i Z)/\(Ch m n 0 i Z).s.iL)(hd:(Ch m n 0 K Z).iG=true)(hK:K<=most)(hm2:most<=4611686018427387904)(hC:C+K<=400000)(hm0:m<18446744073709551616)(hA2:∀f∈V.B,f∈A)(hs:SF w D (xu m b bm bT bo bt bi pk V) A [] (xQ V) w) :
    Calls prog 16 #[pt bm,.int .i64 (most:Int)] w λ e w'=>∃x:MV×Fr,e=.returned (.bool true)/\(MI b (C+K) (Ch m n 0 K Z) x.1/\x.1.B=x.2++V.B)/\SF w D (xu m b bm bT bo bt bi pk x.1) [] x.2 (xQ x.1) w':=by
     refine enter func16 ntmps16 rfl rfl hs ?_;simp only[cN];refine eD ?_;refine eD ?_;refine Oy ?_;refine sF [1,5,6,7,8,9,10,11,12,13,14,15,16,17,18,19,20,21,22,23,24,25] (λ y:Nat×MV×Fr=>[(5,.int .i64 (((0+y.1)%n:Nat):Int)),(1,.int .i64 ((most-y.1:Nat):Int))]) (λ y=>y.1<=K/\MI b (C+y.1) (Ch m n 0 y.1 Z) y.2.1/\y.2.1.B=y.2.2++V.B) (λ y=>mcL m b bm bT bo bt bi pk y.2.1) (λ y=>y.2.2) (λ y=>xQ y.2.1) (λ y=>K-y.1) ((0,V,[])) (⟨Nat.zero_le _,h,rfl⟩) (λ y f hx=>?_);refine K0c ?_;obtain⟨hy1,hy2,hy3⟩:=hx;have hlen:y.2.1.th.length=n:=by rw[hy2.len,Od,hn]
     have hl8:=hy2.tl;have hdn:=hy2.iG;have hmod:=Nat.mod_lt (0+y.1) hn0;refine gQ ?_;refine vI ?_;refine aB ?_;(refine mN 8 (λ g8=>?_) (λ g8=>?_)<;>refine Ka3 ?_);all_goals ((first|refine aZ ?_|(refine aF ?_;refine aI (cM (φ:=λ _=>True) (V:=λ _:Unit=>.bool y.2.1.iG) (hs:=[(bm,Gc b bT pk y.2.1)]) (os:=tpW y.2.1) (A0:=[]) (hs':=λ _=>[(bm,Gc b bT pk y.2.1)]) (os':=λ _=>tpW y.2.1) (Fc:=λ _=>[]) (hc:=λ w1 hw=>(Rj hl8 hw).mono λ _ _ ⟨e,h⟩=>⟨(),e,trivial,h⟩)) (λ x10 h10=>?_)));refine Ke4 ?_)
     all_goals
      refine aX (λ c12=>?_) (λ c12=>?_)
      ·try exact nv c12
       all_goals
        have hyK:y.1<K:=by
         rcases Nat.lt_or_ge y.1 K with h|h;·exact h
         ·have e:y.1=K:=by omega
          rw[e,hd] at hdn;rw[hdn] at c12;cases c12
       all_goals (refine jH ?_;refine lV ?_;refine aI (cT 0 0 (hs:=mcL m b bm bT bo bt bi pk y.2.1) (os:=xQ y.2.1) (A0:=dD y.2.1.a.L++y.2.1.B) (V:=λ x:MV×Fr×Bool=>.bool x.2.2) (F1:=λ x:MV×Fr×Bool=>x.2.1++y.2.2) (hc:=λ w1 hw=>A4 (k:=(0+y.1)%n) hy2 (by omega) hm0 (by rw[hlen];exact hmod) (hi y.1 hyK).2.1 (hi y.1 hyK).2.2 (λ f hf=>List.mem_append_left _ hf) (λ f hf=>List.mem_append_right _ hf) hw) (hA:=yh hy2 hy3 hA2) (hF1:=λ x hx f hf=>.inr hf)) (λ x17 h17=>?_))
       all_goals
        have hlen2:x17.1.th.length=n:=by rw[h17.1.len,Ed,Od,hn]
        have hmq:((0+y.1)%n+1)%x17.1.th.length=(0+(y.1+1))%n:=by rw[hlen2,Nat.mod_add_mod,Nat.add_assoc]
       all_goals (refine aE ?_;refine J57 ?_;refine aB ?_;refine bN ?_;refine J85 ?_;refine aA (aBt (c:=(0+(y.1+1))%n) rf rf (by omega) hmq) rfl ?_;refine J1 ?_;refine eN ?_;refine Cg ?_;refine L5 ?_;refine J1 ?_)
       all_goals refine xS ((y.1+1,x17.1,x17.2.1++y.2.2)) ?_ (hw1:=λ w hw=>hw.zA0);·exact⟨hyK,h17.1,by rw[h17.2,hy3,List.append_assoc]⟩
      ·all_goals (refine bD rfl ?_;refine J2 ?_;refine aI (cM (φ:=λ _=>True) (V:=λ _:Unit=>.bool y.2.1.iG) (hs:=[(bm,Gc b bT pk y.2.1)]) (os:=tpW y.2.1) (A0:=[]) (hs':=λ _=>[(bm,Gc b bT pk y.2.1)]) (os':=λ _=>tpW y.2.1) (Fc:=λ _=>[]) (hc:=λ w1 hw=>(Rj hl8 hw).mono λ _ _ ⟨e,h⟩=>⟨(),e,trivial,h⟩)) (λ x27 h27=>?_);refine J1 ?_)
       all_goals
        refine bJ results16 (λ w hw=>?_);have hyK:y.1=K:=by
         rcases Nat.lt_or_ge y.1 K with h|h;·have h1:=(hi y.1 h).1;rw[h1] at hdn;first|omega|(rw[hdn] at c12;cases c12;done) 
         ·omega
        have hdt:y.2.1.iG=true:=by rw[hdn,hyK];exact hd
        refine⟨(y.2.1,y.2.2),by rw[hdt];rfl,⟨hyK▸hy2,hy3⟩,hw.ph.zA0⟩
end
end
end Go.Proofs.YtdeecdfockjoiaaGreatDoor

/- Machines are drained. -/
import Derived.Test.YtnilhhnfjfdokaaGreatDoorGMc7
import Derived.Test.YtnilhhnfjfdokaaGreatDoorGTt1

set_option linter.unusedSimpArgs false
set_option linter.unusedVariables false
namespace Go.Proofs.YtnilhhnfjfdokaaGreatDoor
section
open Go Go.RowKit Go.Ct
def AM.fT(Z:AM):Bool:=Z.th.all λ t=>decide (t.ops.length<=t.idx)
def wP(m n r:Nat):Nat->AM->AM
 | 0,Z=>Z
 | i+1,Z=>dO m ((r+i)%n) (wP m n r i Z)
theorem oD(m n r:Nat)(Z:AM):∀i,wP m n r (i+1) Z=wP m n (r+1) i (dO m (r%n) Z)
 | 0=>rfl
 | i+1=>by
  show dO m ((r+(i+1))%n) (wP m n r (i+1) Z)=dO m ((r+1+i)%n) (wP m n (r+1) i (dO m (r%n) Z))
  rw[oD m n r Z i,show r+(i+1)=r+1+i by omega]
section
variable{key:ByteArray}{val:Nat->Int}{m N:Nat}{Z:AM}
structure Rb(key:ByteArray)(m:Nat)(val:Nat->Int)(Z:AM)(N:Nat):Prop where
 wi:O8 key m val Z N
 sn:Z.s.nodes.length+2*N<=136
 sc:Z.s.cs.length+N<=69
def kl(Z:AM)(k:Nat):Prop:=∃t,Z.th[k]?=some t/\t.idx≠2
theorem TI.dn{h k:Nat}{s:Mm}{l:List lR}{σ:Gh}{t:Rf}{n:Nat}(x:TI key h val k s l σ t n):t.ops.length<=t.idx↔n=0:=by
 rw[x.tD,x.ops]
 show 2<=t.idx↔_
 cases x<;>simp
theorem O8.fT(w:O8 key m val Z N):Z.fT=decide (N=0):=by
 obtain⟨σ,n0,n1,n2,t0,t1,t2,hw3,j1,hth,e,x0,x1,x2⟩:=w.ex
 unfold AM.fT
 rw[hth,Bool.eq_iff_iff]
 simp only[List.all_cons,List.all_nil,Bool.and_true,Bool.and_eq_true,decide_eq_true_eq,x0.dn,x1.dn,x2.dn]
 omega
theorem O8.rm(w:O8 key m val Z N)(h:N≠0):∃k,k<3/\kl Z k:=by
 obtain⟨σ,n0,n1,n2,t0,t1,t2,hw3,j1,hth,e,x0,x1,x2⟩:=w.ex
 have:n0≠0∨n1≠0∨n2≠0:=by omega
 rcases this with h|h|h
 ·exact⟨0,by decide,t0,by rw[hth];rfl,λ e=>h (x0.tD.2 e)⟩
 ·exact⟨1,by decide,t1,by rw[hth];rfl,λ e=>h (x1.tD.2 e)⟩
 ·exact⟨2,by decide,t2,by rw[hth];rfl,λ e=>h (x2.tD.2 e)⟩
theorem O8.len(w:O8 key m val Z N):Z.th.length=3:=by
 obtain⟨σ,n0,n1,n2,t0,t1,t2,hw3,j1,hth,e,x0,x1,x2⟩:=w.ex
 rw[hth];rfl
theorem Rb.pick(w:Rb key m val Z N){k:Nat}(hk:k<3):Ju m k Z/\∃N',N'<=N/\Rb key m val (dO m k Z) N'/\(kl Z k->N'<N)/\(¬kl Z k->dO m k Z=Z/\N'=N):=by
 obtain⟨h1,N',h2,h3,h4,h5,h6,h7⟩:=w.wi.pick hk
 have hs1:=w.sn
 have hs2:=w.sc
 refine⟨h1,N',h2,⟨h3,by omega,by omega⟩,λ⟨t,e1,e2⟩=>h4 λ t' e'=>by rw[e1] at e';cases e';exact e2,λ hu=>h7 ?_⟩
 have hl:k<Z.th.length:=by rw[w.wi.len];exact hk
 refine⟨Z.th[k],List.getElem?_eq_getElem hl,Classical.byContradiction λ e=>hu ⟨_,List.getElem?_eq_getElem hl,e⟩⟩
theorem Hi:∀(M:Nat) {Z:AM} {N r:Nat},Rb key m val Z N->(N=0∨∃d,d<=2/\kl Z ((r+d)%3)/\3*N+d<=M)->∃K,K<=M/\Rb key m val (wP m 3 r K Z) 0/\∀i,i<K->∃N',N'≠0/\N'<=N/\Rb key m val (wP m 3 r i Z) N'
 | M,Z,0,r,w,_=>⟨0,Nat.zero_le _,w,λ i h=>absurd h (Nat.not_lt_zero i)⟩
 | 0,Z,N+1,r,w,h=>by
  rcases h with h|⟨d,_,_,h⟩
  ·cases h
  ·omega
 | M+1,Z,N+1,r,w,h=>by
  rcases h with h|⟨d,hd,hu,hm⟩
  ·cases h
  ·obtain⟨_,N',h2,h3,h4,h5⟩:=w.pick (k:=r%3) (Nat.mod_lt _ (by decide))
   have key:N'=0∨∃d,d<=2/\kl (dO m (r%3) Z) ((r+1+d)%3)/\3*N'+d<=M:=by
    by_cases hr:kl Z (r%3)
    ·have:=h4 hr
     by_cases h0:N'=0
     ·exact .inl h0
     ·obtain⟨j,hj,hu'⟩:=h3.wi.rm h0
      have:∃d,d<=2/\(r+1+d)%3=j:=by
       have:(r+1)%3=0∨(r+1)%3=1∨(r+1)%3=2:=by omega
       have hj3:j=0∨j=1∨j=2:=by omega
       by_cases a:(r+1+0)%3=j
       ·exact⟨0,by decide,a⟩
       by_cases b:(r+1+1)%3=j
       ·exact⟨1,by decide,b⟩
       ·exact⟨2,by decide,by omega⟩
      obtain⟨d',hd',rfl⟩:=this
      exact .inr ⟨d',hd',hu',by omega⟩
    ·obtain⟨e1,e2⟩:=h5 hr
     cases d with
     | zero=>exact absurd hu hr
     | succ d=>exact .inr ⟨d,by omega,by rw[e1,show r+1+d=r+(d+1) by omega];exact hu,by omega⟩
   obtain⟨K,hK,hw,hi⟩:=Hi M h3 key
   refine⟨K+1,by omega,by rw[oD];exact hw,λ i hl=>?_⟩
   cases i with
   | zero=>exact⟨N+1,by omega,Nat.le_refl _,w⟩
   | succ i =>
    obtain⟨N2,a,b,c⟩:=hi i (by omega)
    exact⟨N2,a,by omega,by rw[oD];exact c⟩
theorem Rb.drain(w:Rb key m val Z N):∃K,K<=3*N+2/\Rb key m val (wP m 3 0 K Z) 0/\∀i,i<K->∃N',N'≠0/\N'<=N/\Rb key m val (wP m 3 0 i Z) N':=by
 refine Hi _ w ?_
 by_cases h0:N=0
 ·exact .inl h0
 ·obtain⟨j,hj,hu⟩:=w.wi.rm h0
  exact .inr ⟨j,by omega,by rw[Nat.zero_add,Nat.mod_eq_of_lt hj];exact hu,by omega⟩
def xK(m:Nat):List Nat->AM->AM
 | [],Z=>Z
 | k::l,Z=>xK m l (dO m k Z)
theorem Dx(m:Nat):∀(l:List Nat) (k:Nat) (Z:AM),xK m (l++[k]) Z=dO m k (xK m l Z)
 | [],_,_=>rfl
 | j::l,k,Z=>Dx m l k (dO m j Z)
theorem ej(m:Nat)(pv:Nat×Obj):Rb key m val ⟨⟨[sX.c,sX.c,eO eZ 0,eO (xQ 1) 1],[0,3,4],1,pv⟩,[⟨kG key val 0,0,none⟩,⟨kG key val 1,0,none⟩,⟨kG key val 2,0,none⟩],[]⟩ 66 :=
 ⟨fh m pv,Nat.le_refl _,Nat.le_refl _⟩
end
end

/- sched: a pick does what pickA says. -/
section
open Go Go.RowKit Go.Ct
section
variable{b C k m:Nat}{Z:AM}{V:MV}{t:gN}{p:aj}{o:lO}{a a':AS}{F:Fr}{es:List jO}
theorem MI.mono(h:MI b C Z V):MI b (C+1) Z V:=⟨h.ok,h.up,h.th,h.hist,h.tb,λ t ht p hp=>by obtain⟨h1,h2,h3,h4⟩:=h.pr t ht p hp;exact⟨h1,h2,h3,by omega⟩,h.fam,h.fo,h.oo,h.tl,by have:=h.hl;omega⟩
theorem Gj{B:Fr}(g:a.fG a' F)(h:fN b p.T (a.mm.wp (p.u,p.po)) p.c (a.mm.wp (p.u,p.po)) B/\fK p.T=true/\p.T.live=true/\p.n<=C):fN b p.T (a'.mm.wp (p.u,p.po)) p.c (a'.mm.wp (p.u,p.po)) (F++B)/\fK p.T=true/\p.T.live=true/\p.n<=C+1 :=
 ⟨fN.more (h.1.le h.2.1 (s1:=a'.mm.wp (p.u,p.po)) ⟨⟨g.le.nodes,g.le.cl⟩,rfl⟩) λ _ hx=>List.mem_append_right _ hx,h.2.1,h.2.2.1,by omega⟩
theorem Cg{B:Fr}(g:a.fG a' F)(h:∀f∈dV a.L,f.2=[]∨f∈B):∀f∈dV a'.L,f.2=[]∨f∈F++B:=λ f hf=>by
 rcases g.fam f hf with h1|h1|h1
 ·exact .inl h1
 ·exact(h f h1).imp_right λ h=>List.mem_append_right _ h
 ·exact .inr (List.mem_append_left _ h1)
theorem mC{l:List gN}{t' x:gN}(hx:x∈l.set k t'):x∈l∨x=t':=List.mem_or_eq_of_mem_set hx
theorem Ki{l:List gN}{t' x:gN}{j:Nat}(hk:k<l.length)(h:(l.set k t')[j]?=some x):(j=k/\x=t')∨(j≠k/\l[j]?=some x):=by
 rw[List.getElem?_set] at h
 by_cases e:k=j
 ·subst e;rw[if_pos rfl,if_pos hk] at h;injection h with h;exact .inl ⟨rfl,h.symm⟩
 ·rw[if_neg e] at h;exact .inr ⟨λ e2=>e e2.symm,h⟩
theorem Da.iL{es es':List jO}{j:Nat}(hj:j≠k)(h:Da es j t)(ho:t.ops.length<=16)(hi:t.pr≠none->t.idx<t.ops.length)(he:∀i,i<16->jF es' (jK j i) 0=jF es (jK j i) 0):Da es' j t:=by
 unfold Da at *
 cases hp:t.pr with
 | none =>
  rw[hp] at h
  exact λ i h1 h2=>(he i h2).trans (h i h1 h2)
 | some p =>
  rw[hp] at h
  obtain⟨⟨q,e,h1,h2,h3⟩,h4⟩:=h
  have:=hi (by rw[hp];exact λ e=>nomatch e)
  exact⟨⟨q,e,(he t.idx (by omega)).trans h1,h2,h3⟩,λ i h5 h6=>(he i h6).trans (h4 i h5 h6)⟩
theorem Q5(hth:V.th.map gN.abs=Z.th)(ht:V.th[k]?=some t)(hpr:t.pr=none)(hop:t.ops[t.idx]?=some o):dO m k Z=⟨Z.s,Z.th.set k ⟨t.ops,t.idx,some (rT m o)⟩,Z.hist++[⟨k,t.idx,false,Rs.zero⟩]⟩:=by
 have h1:Z.th[k]?=some ⟨t.ops,t.idx,none⟩:=by rw[<- hth,List.getElem?_map,ht];show some t.abs=_;unfold gN.abs;rw[hpr];rfl
 unfold dO
 rw[h1]
 show(match t.ops[t.idx]? with|none=>Z|some o=>_)=_
 rw[hop]
 show nB Z k _ (Ct.fA (rT m o) Z.s) _=_
 rw[uU,kR (Bc m o)]
theorem MI.new{x:(Nat×Cd×Fr×AS)×Option Addr×Nat×Int}(h:MI b C Z V)(hk8:k<8)(ht:V.th[k]?=some t)(hpr:t.pr=none)(hop:t.ops[t.idx]?=some o)(hq:Rj b (rT m o) V.a.mm V.a V.B x.1.2):MI b (C+1) (dO m k Z) (V.Wz k t o.kind (rT m o) x):=by
 rw[Q5 h.th ht hpr hop]
 obtain⟨q1,q2,q3,q4⟩:=hq
 have htm:t∈V.th:=List.mem_of_getElem? ht
 have hkl:=(List.getElem?_eq_some_iff.1 ht).1
 obtain⟨o1,o2,o3,o4⟩:=h.oo t htm
 have hil:t.idx<t.ops.length:=(List.getElem?_eq_some_iff.1 hop).1
 have hoo:=o4 o (List.mem_of_getElem? hop)
 have htb:=h.tb k t ht
 unfold Da at htb
 rw[hpr] at htb
 refine⟨q3,?_,?_,?_,λ j u hu=>?_,λ u hu p hp=>?_,Cg q4 h.fam,λ u hu=>?_,λ u hu=>?_,by simpa using h.tl,?_⟩
 ·show x.1.2.2.2.mm=_
  rw[q2,h.up]
 ·show(V.th.set k _).map gN.abs=_
  rw[List.map_set,h.th];rfl
 ·show V.hi++_=_
  rw[h.hist]
 ·rcases Ki hkl hu with⟨rfl,rfl⟩|⟨hj,hu⟩
  ·refine⟨⟨V.es.length,⟨jK j t.idx,o.kind,false,V.ec⟩,?_,rfl,hoo.kind⟩,λ i h1 h2=>?_⟩
   ·show jF (V.es++[_]) (jK j t.idx) 0=_
    rw[vS,htb t.idx (Nat.le_refl _) (by omega),if_pos rfl]
    simp
   ·show jF (V.es++[_]) (jK j i) 0=_
    have h1':t.idx<i:=h1
    rw[vS,htb i (by omega) h2,if_neg (λ e=>by have e':jK j t.idx=jK j i:=e;have:=uM (by omega) h2 e';omega)]
    rfl
  ·obtain⟨u1,u2,u3,_⟩:=h.oo u (List.mem_of_getElem? hu)
   refine(h.tb j u hu).iL (k:=k) hj u1 u3 λ i hi=>?_
   show jF (V.es++[_]) (jK j i) 0=_
   rw[vS,if_neg (λ e=>by have e':jK k t.idx=jK j i:=e;have:=uM (by omega) hi e';exact hj this.1.symm),Option.or_none]
 ·rcases mC hu with hu|rfl
  ·exact Gj q4 (h.pr u hu p hp)
  ·cases hp
   exact⟨q1,Bm m o,Bc m o,Nat.zero_le _⟩
 ·rcases mC hu with hu|rfl
  ·exact List.mem_append_right _ (h.fo u hu)
  ·exact List.mem_append_right _ (h.fo t htm)
 ·rcases mC hu with hu|rfl
  ·exact h.oo u hu
  ·exact⟨o1,o2,λ _=>hil,o4⟩
 ·have:=h.hl
  show(V.hi++[_]).length<=_
  simp only[List.length_append,List.length_cons,List.length_nil]
  omega
theorem nh(h:MI b C Z V):(V.ap p).mm=Z.s.wp (p.u,p.po):=by
 show V.a.mm.wp (p.u,p.po)=_
 rw[h.up]
theorem xY(h:MI b C Z V)(T:Tr):kQ (T,(V.ap p).mm)=((kQ (T,Z.s)).1,(kQ (T,Z.s)).2.wp (p.u,p.po)):=by
 rw[nh h];exact gv _ _ _
theorem Bu(hth:V.th.map gN.abs=Z.th)(ht:V.th[k]?=some t)(hpr:t.pr=some p)(hop:t.ops[t.idx]?=some o):dO m k Z=nB Z k ⟨t.ops,t.idx,some p.T⟩ (kQ (p.T,Z.s)) Z.hist:=by
 have h1:Z.th[k]?=some ⟨t.ops,t.idx,some p.T⟩:=by rw[<- hth,List.getElem?_map,ht];show some t.abs=_;unfold gN.abs;rw[hpr];rfl
 unfold dO
 rw[h1]
 show(match t.ops[t.idx]? with|none=>Z|some o=>_)=_
 rw[hop]
theorem MI.Vc{x:(Cd×Fr×AS)×Int}(h:MI b C Z V)(ht:V.th[k]?=some t)(hpr:t.pr=some p)(hop:t.ops[t.idx]?=some o)(hl2:(kQ (p.T,Z.s)).1.live=true)(har:fK (kQ (p.T,Z.s)).1=true)(hq:Rj b (kQ (p.T,(V.ap p).mm)).1 (kQ (p.T,(V.ap p).mm)).2 (V.ap p) V.B x.1):MI b (C+1) (dO m k Z) (V.Vc k t p (kQ (p.T,(V.ap p).mm)).1 x):=by
 rw[Bu h.th ht hpr hop,kR hl2]
 rw[xY h] at hq
 simp only[xY h]
 obtain⟨q1,q2,q3,q4'⟩:=hq
 have q4:V.a.fG x.1.2.2 x.1.2.1:=⟨⟨q4'.le.nodes,q4'.le.cl⟩,q4'.fam⟩
 have htm:t∈V.th:=List.mem_of_getElem? ht
 have hkl:=(List.getElem?_eq_some_iff.1 ht).1
 obtain⟨o1,o2,o3,o4⟩:=h.oo t htm
 have hil:t.idx<t.ops.length:=(List.getElem?_eq_some_iff.1 hop).1
 have htb:=h.tb k t ht
 obtain⟨_,_,_,p4⟩:=h.pr t htm p hpr
 refine⟨q3,q2,?_,h.hist,λ j u hu=>?_,λ u hu p' hp=>?_,Cg q4 h.fam,λ u hu=>?_,λ u hu=>?_,by simpa using h.tl,?_⟩
 ·show(V.th.set k _).map gN.abs=_
  rw[List.map_set,h.th];rfl
 ·rcases Ki hkl hu with⟨rfl,rfl⟩|⟨hj,hu⟩
  ·unfold Da at htb ⊢
   rw[hpr] at htb
   exact htb
  ·exact h.tb j u hu
 ·rcases mC hu with hu|rfl
  ·exact Gj q4 (h.pr u hu p' hp)
  ·cases hp
   exact⟨q1,har,hl2,by show p.n+1<=_;omega⟩
 ·rcases mC hu with hu|rfl
  ·exact List.mem_append_right _ (h.fo u hu)
  ·exact List.mem_append_right _ (h.fo t htm)
 ·rcases mC hu with hu|rfl
  ·exact h.oo u hu
  ·exact⟨o1,o2,λ _=>hil,o4⟩
 ·have:=h.hl
  show V.hi.length<=_
  omega
theorem MI.fin{x:(Cd×Fr×AS)×Option Addr×Nat×Int}{q:Nat}{e:jO}{r:Rs}(h:MI b C Z V)(ht:V.th[k]?=some t)(hpr:t.pr=some p)(hop:t.ops[t.idx]?=some o)(hd:(kQ (p.T,Z.s)).1=.done r)(hf:jF V.es (jK k t.idx) 0=some (q,e))(hq:Rj b (kQ (p.T,(V.ap p).mm)).1 (kQ (p.T,(V.ap p).mm)).2 (V.ap p) V.B x.1):MI b (C+1) (dO m k Z) (V.fin k t q e r x):=by
 rw[Bu h.th ht hpr hop,uF hd]
 rw[xY h] at hq
 obtain⟨q1,q2,q3,q4'⟩:=hq
 have q4:V.a.fG x.1.2.2 x.1.2.1:=⟨⟨q4'.le.nodes,q4'.le.cl⟩,q4'.fam⟩
 have htm:t∈V.th:=List.mem_of_getElem? ht
 have hkl:=(List.getElem?_eq_some_iff.1 ht).1
 obtain⟨o1,o2,o3,o4⟩:=h.oo t htm
 have hil:t.idx<t.ops.length:=(List.getElem?_eq_some_iff.1 hop).1
 have htb:=h.tb k t ht
 unfold Da at htb
 rw[hpr] at htb
 obtain⟨hen,_,_⟩:=zT hf
 have hset:∀n',jF (V.es.set q ⟨e.n,e.kind,true,e.born⟩) n' 0=if n'=jK k t.idx then some (q,⟨e.n,e.kind,true,e.born⟩) else jF V.es n' 0:=λ n'=>by
  have:=I5 hf (e':=⟨e.n,e.kind,true,e.born⟩) hen n'
  rwa [Nat.sub_zero] at this
 refine⟨q3,q2,?_,?_,λ j u hu=>?_,λ u hu p' hp=>?_,Cg q4 h.fam,λ u hu=>?_,λ u hu=>?_,by simpa using h.tl,?_⟩
 ·show(V.th.set k _).map gN.abs=_
  rw[List.map_set,h.th];rfl
 ·show V.hi++_=_
  rw[h.hist]
 ·rcases Ki hkl hu with⟨rfl,rfl⟩|⟨hj,hu⟩
  ·intro i h1 h2
   have h1':t.idx+1<=i:=h1
   show jF (V.es.set q _) (jK j i) 0=none
   rw[hset,if_neg (λ e2=>by have:=uM h2 (by omega) e2;omega)]
   exact htb.2 i (by omega) h2
  ·obtain⟨u1,u2,u3,_⟩:=h.oo u (List.mem_of_getElem? hu)
   refine(h.tb j u hu).iL (k:=k) hj u1 u3 λ i hi=>?_
   show jF (V.es.set q _) (jK j i) 0=_
   rw[hset,if_neg (λ e2=>by have:=uM hi (by omega) e2;exact hj this.1)]
 ·rcases mC hu with hu|rfl
  ·exact Gj q4 (h.pr u hu p' hp)
  ·cases hp
 ·rcases mC hu with hu|rfl
  ·exact List.mem_append_right _ (h.fo u hu)
  ·exact List.mem_append_right _ (h.fo t htm)
 ·rcases mC hu with hu|rfl
  ·exact h.oo u hu
  ·exact⟨o1,hil,λ hne=>absurd rfl hne,o4⟩
 ·have:=h.hl
  show(V.hi++[_]).length<=_
  simp only[List.length_append,List.length_cons,List.length_nil]
  omega
end
end

/- sched: Pick. -/
section
open Go Go.RowKit Go.Ct
theorem qC:∀{t:Tr} {s:Mm},(Ct.fA t s).1≠.stuck->fK (Ct.fA t s).1=true
 | .done _,_,_=>rfl
 | .load _ _,_,_=>rfl
 | .oI _ _ _ _,_,_=>rfl
 | .alloc n i k,s,h=>qC (t:=k ((s.nodes.length+1:Nat):Int)) (s:=s.push n i) h
 | .cell i k,s,h=>qC (t:=k ((s.cs.length+1:Nat):Int)) (s:=⟨s.nodes,s.cs++[i],s.gen,s.pv⟩) h
 | .gen k,s,h=>qC (t:=k (s.gen+1)) (s:=⟨s.nodes,s.cs,s.gen+1,s.pv⟩) h
 | .node r k,s,h=>qC (t:=k (bU s.nodes r)) (s:=s) h
 | .stuck,_,h=>absurd rfl h
theorem Pt{t:Tr}(h:fK t=true):(∃r,t=.done r)∨t.live=true:=by
 cases t<;>first|exact .inl ⟨_,rfl⟩|exact .inr rfl 
section
variable{D:List Nat}{A:Fr}{b bT bm m bo bt bi k C:Nat}{w:World}{pk:Option Addr×Nat×Nat}{V:MV}{Z:AM}
theorem Ap(h:MI b C Z V)(hC:C<=400000)(hm0:m<18446744073709551616)(hk:k<V.th.length)(hok:Ju m k Z)(hm:Z.s.jL)(hA1:∀f∈dV V.a.L,f∈A)(hA2:∀f∈V.B,f∈A)(hs:SF w D (cg m b bm bT bo bt bi pk V) A [] (jB V) w) :
  Calls Tryz.prog 13 #[pt bm,.int .i64 (k:Int)] w λ e w'=>∃x:MV×Fr×Bool,e=.returned (.bool x.2.2)/\(MI b (C+1) (dO m k Z) x.1/\x.1.B=x.2.1++V.B)/\SF w D (cg m b bm bT bo bt bi pk x.1) [] x.2.1 (jB x.1) w':=by
 have ht:V.th[k]?=some V.th[k]:=List.getElem?_eq_getElem hk
 generalize V.th[k]=t at ht
 have htm:t∈V.th:=List.mem_of_getElem? ht
 obtain⟨o1,o2,o3,o4⟩:=h.oo t htm
 have hzt:Z.th[k]?=some t.abs:=by rw[<- h.th,List.getElem?_map,ht];rfl
 have hmt:V.a.mm.jL:=by rw[h.up];exact hm
 have hl8:=h.tl
 have hhl:=h.hl
 have pO:(jB V).Perm (jB V++[]):=by rw[List.append_nil]
 have hA0:∀{O':List Ow},cA A [] O' A:=cA.of λ f hf=>.inr (.inl hf)
 cases hop:t.ops[t.idx]? with
 | none =>
  have hd:t.ops.length<=t.idx:=List.getElem?_eq_none_iff.1 hop
  have hz:dO m k Z=Z:=by
   unfold dO
   rw[hzt]
   show(match t.ops[t.idx]? with|none=>Z|some o=>_)=_
   rw[hop]
  refine(wJ (X:=Unit) (V:=λ _=>.bool false) (φ:=λ _=>True) (hs:=pS m b bm bT bo bt bi pk V) (H':=V.th.flatMap (Fh b)) (os:=jB V) (O':=[]) (A0:=A) (hs':=λ _=>pS m b bm bT bo bt bi pk V) (os':=λ _=>jB V) (Fc:=λ _=>[]) hs (List.Perm.refl _) pO hA0 (λ h1=>(Zl ht hd h1).mono λ _ _ ⟨e,hw⟩=>⟨(),e,trivial,hw⟩)).mono λ e w' ⟨_,e1,_,hw⟩=>⟨(V,[],false),e1,⟨by rw[hz];exact h.mono,rfl⟩,?_⟩
  rw[List.append_nil,List.append_nil] at hw
  exact hw.W1
 | some o =>
  have hil:t.idx<t.ops.length:=(List.getElem?_eq_some_iff.1 hop).1
  have hoo:=o4 o (List.mem_of_getElem? hop)
  have htb:=h.tb k t ht
  unfold Da at htb
  cases hpr:t.pr with
  | none =>
   rw[hpr] at htb
   refine(wJ (hs:=pS m b bm bT bo bt bi pk V) (H':=V.th.flatMap (Fh b)) (os:=jB V) (O':=[]) (A0:=A) (Fc:=λ x:(Nat×Cd×Fr×AS)×Option Addr×Nat×Int=>x.1.2.2.1) (V:=λ _=>.bool true) hs (List.Perm.refl _) pO hA0 (λ h1=>Sh (by omega) ht hpr hop hoo (by omega) (htb t.idx (Nat.le_refl _) (by omega)) hm0 h.ok hmt hA1 hA2 (hA2 _ (h.fo t htm)) (by omega) h1)).mono λ e w' ⟨x,e1,hq,hw⟩=>⟨(V.Wz k t o.kind (rT m o) x,x.1.2.2.1,true),e1,⟨h.new (by omega) ht hpr hop hq,rfl⟩,?_⟩
   rw[List.append_nil,List.append_nil] at hw
   refine hw.W1.perm ?_ (List.Perm.refl _)
   have p1:=F7 (f:=Fh b) ht
   have p2:=K4 (f:=Fh b) ht (t.Wz (rT m o) x.1)
   rw[show Fh b t=[] by unfold Fh;rw[hpr],List.nil_append] at p1
   refine(List.Perm.append_left _ p2).trans ?_
   refine List.Perm.trans ?_ (List.Perm.append_left _ p1.symm)
   rw[<- List.append_assoc]
   exact List.perm_append_comm.append_right _
  | some p =>
   rw[hpr] at htb
   obtain⟨⟨q,e0,hf,hfin,hkd⟩,_⟩:=htb
   obtain⟨r1,r2,r3,r4⟩:=h.pr t htm p hpr
   have hns:(kQ (p.T,Z.s)).1≠.stuck:=by
    have:=hok t.abs o hzt hop
    unfold gN.abs at this
    rw[hpr] at this
    exact this
   have hns2:(kQ (p.T,(V.ap p).mm)).1≠.stuck:=by rw[xY h];exact hns
   have har:fK (kQ (p.T,Z.s)).1=true:=qC hns
   have pH:(cg m b bm bT bo bt bi pk V).Perm (([(p.bt,tO b p.c p.n),(p.u,p.po)]++pS m b bm bT bo bt bi pk V)++(V.th.eraseIdx k).flatMap (Fh b)):=by
    have p1:=F7 (f:=Fh b) ht
    rw[show Fh b t=[(p.bt,tO b p.c p.n),(p.u,p.po)] by unfold Fh;rw[hpr]] at p1
    refine(List.Perm.append_left _ p1).trans ?_
    rw[<- List.append_assoc]
    exact List.perm_append_comm.append_right _
   rcases Pt har with⟨r,hd⟩|hl2
   ·have hd2:(kQ (p.T,(V.ap p).mm)).1=.done r:=by rw[xY h];exact hd
    refine(wJ (hs:=[(p.bt,tO b p.c p.n),(p.u,p.po)]++pS m b bm bT bo bt bi pk V) (H':=(V.th.eraseIdx k).flatMap (Fh b)) (os:=jB V) (O':=[]) (A0:=A) (Fc:=λ x:(Cd×Fr×AS)×Option Addr×Nat×Int=>x.1.2.1) (V:=λ _=>.bool true) hs pH pO hA0 (λ h1=>Ss (by omega) ht hpr hil (by omega) hf hfin hkd r1 r2 r3 hns2 hd2 (by omega) h.ok hmt hA1 hA2 (by omega) h1)).mono λ e w' ⟨x,e1,hq,hw⟩=>⟨(V.fin k t q e0 r x,x.1.2.1,true),e1,⟨h.fin ht hpr hop hd hf hq,rfl⟩,?_⟩
    rw[List.append_nil,List.append_nil] at hw
    refine hw.W1.perm ?_ (List.Perm.refl _)
    have p2:=K4 (f:=Fh b) ht ⟨t.op,t.oc,t.ops,t.idx+1,none⟩
    exact List.Perm.append_left _ p2
   ·have hl3:(kQ (p.T,(V.ap p).mm)).1.live=true:=by rw[xY h];exact hl2
    refine(wJ (hs:=[(p.bt,tO b p.c p.n),(p.u,p.po)]++pS m b bm bT bo bt bi pk V) (H':=(V.th.eraseIdx k).flatMap (Fh b)) (os:=jB V) (O':=[]) (A0:=A) (Fc:=λ x:(Cd×Fr×AS)×Int=>x.1.2.1) (V:=λ _=>.bool true) hs pH pO hA0 (λ h1=>Pk ht hpr hil r1 r2 r3 hns2 hl3 (by omega) h.ok hmt hA1 hA2 h1)).mono λ e w' ⟨x,e1,hq,hw⟩=>⟨(V.Vc k t p (kQ (p.T,(V.ap p).mm)).1 x,x.1.2.1,true),e1,⟨h.Vc ht hpr hop hl2 har hq,rfl⟩,?_⟩
    rw[List.append_nil,List.append_nil] at hw
    refine hw.W1.perm ?_ (List.Perm.refl _)
    have p2:=K4 (f:=Fh b) ht (t.Vc p (kQ (p.T,(V.ap p).mm)).1 x.1)
    refine(List.Perm.append_left _ p2).trans ?_
    rw[<- List.append_assoc]
    exact List.perm_append_comm.append_right _
end
end

/- A call that may change all known blocks behind the first ones. -/
section
open Go Go.RowKit Go.Ct
section
variable{S:List (Nat×Value)}{w0 w:World}{M:List Nat}{H:List (Nat×Obj)}{A F:Fr}{O:List Ow}{ty:TypeId}{pos:String}{af:Array Edge}{gd:Option (Nat×Bool)}{X:Type}{V:X->Value}
theorem cT(nH nO:Nat){φ:X->Prop}{hs:List (Nat×Obj)}{os:List Ow}{hs' H1:X->List (Nat×Obj)}{os' O1:X->List Ow}{Fc F1:X->Fr}{A0:Fr}{f:FuncId}{xs:List Operand}{at_:Array TypeId}{vs:List Value}{dst:Option Nat}
  (hc:∀w,SF w (Ks hs os) hs A0 [] os w->Calls Tryz.prog f ⟨vs⟩ w λ e w'=>∃x,e=.returned (V x)/\φ x/\SF w (Ks hs os) (hs' x) [] (Fc x) (os' x) w')
  (hA:cA A F (O.take nO) A0) (hF1:∀x,φ x->∀f∈F1 x,f.2=[]∨f∈Fc x++F)
  (ha:lD S xs=vs:=by(repeat (first|exact cD _|(apply bK;focus ((conv=>{lhs;whnf});try exact rfl))));first|done|fail) (hp:plain Tryz.prog f=true:=by kernel_rfl)
  (hH:H=H.take nH++hs:=by exact rfl) (hO:O=O.take nO++os:=by exact rfl)
  (hH1:∀x,H.take nH++hs' x=H1 x:=by intro x;simp only[List.take_succ_cons,List.take_zero,List.cons_append,List.nil_append];exact rfl) (hO1:∀x,O.take nO++os' x=O1 x:=by intro x;simp only[List.take_succ_cons,List.take_zero,List.cons_append,List.nil_append];exact rfl) :
  aQ Tryz.prog S (SF w0 M H A F O) ⟨dst,.call {callee:=.value (.func f),args:=⟨xs⟩,argTypes:=at_},ty,pos,af,gd⟩ X V (λ x w=>φ x/\SF w0 M (H1 x) A (F1 x) (O1 x) w) :=
 gH (lF hp ha) λ w hw=>(wJ (H':=H.take nH) (O':=O.take nO) hw ((List.Perm.of_eq hH).trans List.perm_append_comm) ((List.Perm.of_eq hO).trans List.perm_append_comm) hA (hc w)).mono λ _ _ ⟨x,he,hx,hs⟩=>⟨x,he,hx,by
  have h2:=(hs.perm (H':=H1 x) (O':=O1 x) (by rw[<- hH1 x];exact List.perm_append_comm) (by rw[<- hO1 x];exact List.perm_append_comm)).Pd (hF1 x hx)
  exact h2⟩
end
end

/- sched: Done, Drain, Run. -/
section
open Go Go.RowKit Go.Ct
def MV.fT(V:MV):Bool:=V.th.all λ t=>decide (t.ops.length<=t.idx)
section
variable{D:List Nat}{A:Fr}{b bT bm m bo bt bi k C:Nat}{w:World}{pk:Option Addr×Nat×Nat}{V:MV}{Z:AM}
theorem MI.fT(h:MI b C Z V):V.fT=Z.fT:=by
 unfold MV.fT AM.fT
 rw[<- h.th,List.all_map]
 rfl
theorem MI.len(h:MI b C Z V):V.th.length=Z.th.length:=by rw[<- h.th,List.length_map]
theorem yH(m k:Nat)(Z:AM):(dO m k Z).th.length=Z.th.length:=by
 unfold dO
 cases h:Z.th[k]? with
 | none=>rfl
 | some t =>
  dsimp only
  cases h2:t.ops[t.idx]? with
  | none=>rfl
  | some o =>
   dsimp only
   have key:∀p l,(nB Z k t p l).th.length=Z.th.length:=λ p l=>by
    unfold nB
    cases p.1<;>simp
   cases h3:t.pr<;>exact key _ _
theorem Eu(m n r:Nat)(Z:AM):∀i,(wP m n r i Z).th.length=Z.th.length
 | 0=>rfl
 | i+1=>(yH _ _ _).trans (Eu m n r Z i)
theorem H0(hl8:V.th.length<=8)(hs:SF w D [(bm,yE b bT pk V)] A [] (jB V) w) :
    Calls Tryz.prog 23 #[pt bm] w λ e w'=>e=.returned (.bool V.fT)/\SF w D [(bm,yE b bT pk V)] [] [] (jB V) w':=by
  refine enter Tryz.func23 Tryz.ntmps23 rfl rfl hs ?_
  simp only[cP]
  refine Lf ?_;refine Kc6 ?_
  refine jY [2,3,9,10,11,12,13,14,15,16,17,18,19,20] (λ i:Nat=>[(9,.int .i64 ((i:Nat):Int))]) (λ i=>i<=V.th.length/\∀j t,j<i->V.th[j]?=some t->t.ops.length<=t.idx) (λ i=>V.th.length-i) (0) (⟨Nat.zero_le _,λ j t h=>absurd h (Nat.not_lt_zero j)⟩) ?_ (λ k f hx=>?_)
  · repeat (first|exact bQ _|refine bG (by exact rfl) ?_)
  dsimp only[lP,List.map,List.cons_append,List.nil_append]
  refine Ka1 ?_
  refine aU (λ c10=>?_) (λ c10=>?_)
  · have hkl:k<V.th.length:=by omega
    have ht:=List.getElem?_eq_getElem hkl
    refine Ka6 ?_;refine J1 ?_;refine oJ ?_;refine aB ?_;refine aA (aY (f:=gN.cells) (k:=k) cS (by decide) rf rf dJ cY (.own .head) hkl hkl) rfl ?_;refine aF (cV (v:=.bool (decide (V.th[k].ops.length<=V.th[k].idx))) (hc:=λ w1 hw=>qK (hw.cl (.own .head)) ht)) (λ x18=>?_);refine wO ?_
    refine aU (λ c19=>?_) (λ c19=>?_)
    · refine dW ?_
      refine bE Tryz.results23 (λ w hw=>?_)
      refine⟨?_,hw.ret (List.Sublist.refl _) (bL.dH λ f hf=>hf) (List.Sublist.refl _)⟩
      have:V.fT=false:=by
       rw[Bool.eq_false_iff]
       intro h
       unfold MV.fT at h
       rw[List.all_eq_true] at h
       have h2:=of_decide_eq_true (h _ (List.getElem_mem hkl))
       omega
      rw[this]
      rfl
    · refine Kc0 ?_
      refine gT (k+1) ?_ ?_ ?_
      · omega
      · repeat' (first|exact bQ _|refine bG ?_ ?_)
        exact rfl
      · refine⟨hkl,λ j t hj hjt=>?_⟩
        by_cases e:j=k
        · subst e;rw[ht] at hjt;cases hjt;simpa using c19
        · exact hx.2 j t (by omega) hjt
  · refine aX rfl ?_;refine dW ?_
    refine bE Tryz.results23 (λ w hw=>?_)
    refine⟨?_,hw.ret (List.Sublist.refl _) (bL.dH λ f hf=>hf) (List.Sublist.refl _)⟩
    have:V.fT=true:=by
     unfold MV.fT
     rw[List.all_eq_true]
     intro t ht
     obtain⟨j,hj,rfl⟩:=List.getElem_of_mem ht
     exact decide_eq_true (hx.2 j _ (by omega) (List.getElem?_eq_getElem hj))
    rw[this]
    rfl
end
end

/- sched: Drain. -/
section
open Go Go.RowKit Go.Ct
section
variable{D:List Nat}{A:Fr}{b bT bm m bo bt bi k C:Nat}{w:World}{pk:Option Addr×Nat×Nat}{V:MV}{Z:AM}
abbrev nc(m b bm bT bo bt bi:Nat)(pk:Option Addr×Nat×Nat)(V:MV):List (Nat×Obj):=(bm,yE b bT pk V)::(bT,oT b m bo bt bi)::(bo,bW (V.es.map (jO.e t3)) V.ec)::(bt,bW (Dc t3) 1)::(b,eN V.a)::V.th.flatMap (Fh b)
theorem ax{O:List Ow}{V':MV}{F:Fr}(h:MI b C Z V')(hB:V'.B=F++V.B)(hA2:∀f∈V.B,f∈A):cA A F O (dV V'.a.L++V'.B):=cA.of λ f hf=>by
 have key:f∈V'.B->f∈A∨f∈F:=λ hf=>by
  rw[hB] at hf
  exact(List.mem_append.1 hf).elim .inr λ h=>.inl (hA2 f h)
 rcases List.mem_append.1 hf with hf|hf
 ·rcases h.fam f hf with h1|h1
  ·exact .inl h1
  ·exact .inr ((key h1).elim .inl λ h=>.inr (.inl h))
 ·exact .inr ((key hf).elim .inl λ h=>.inr (.inl h))
theorem ga{P:Program}{S:List (Nat×Value)}{G:World->Prop}{d:Nat}{ty t t':TypeId}{pos:String}{af:Array Edge}{gd:Option (Nat×Bool)}{x y:Operand}{i j c:Nat}(hx:ev S x=.int .i64 ((i:Nat):Int))(hy:ev S y=.int .i64 ((j:Nat):Int))(h0:j≠0)(hc:i%j=c):aG P S G ⟨some d,.binOp .rem t x y t',ty,pos,af,gd⟩ (.int .i64 ((c:Nat):Int)):=by
 have:=Va (P:=P) (G:=G) (d:=d) (ty:=ty) (pos:=pos) (af:=af) (gd:=gd) (t:=t) (t':=t') hx hy (by omega)
 rwa [show((i:Nat):Int).tmod ((j:Nat):Int)=((c:Nat):Int) by rw[<- hc,Int.ofNat_tmod]] at this
set_option maxRecDepth 100000 in
theorem D2{K most n:Nat}(h:MI b C Z V)(hn:Z.th.length=n)(hn0:0<n)(hi:∀i,i<K->(wP m n 0 i Z).fT=false/\Ju m ((0+i)%n) (wP m n 0 i Z)/\(wP m n 0 i Z).s.jL)(hd:(wP m n 0 K Z).fT=true)(hK:K<=most)(hm2:most<=4611686018427387904)(hC:C+K<=400000)(hm0:m<18446744073709551616)(hA2:∀f∈V.B,f∈A)(hs:SF w D (cg m b bm bT bo bt bi pk V) A [] (jB V) w) :
    Calls Tryz.prog 11 #[pt bm,.int .i64 (most:Int)] w λ e w'=>∃x:MV×Fr,e=.returned (.bool true)/\(MI b (C+K) (wP m n 0 K Z) x.1/\x.1.B=x.2++V.B)/\SF w D (cg m b bm bT bo bt bi pk x.1) [] x.2 (jB x.1) w':=by
  refine enter Tryz.func11 Tryz.ntmps11 rfl rfl hs ?_
  simp only[cP]
  refine dW ?_;refine dW ?_;refine H3 ?_
  refine uD [1,5,6,7,8,9,10,11,12,13,14,15,16,17,18,19,20,21,22,23,24,25] (λ y:Nat×MV×Fr=>[(5,.int .i64 (((0+y.1)%n:Nat):Int)),(1,.int .i64 ((most-y.1:Nat):Int))]) (λ y=>y.1<=K/\MI b (C+y.1) (wP m n 0 y.1 Z) y.2.1/\y.2.1.B=y.2.2++V.B) (λ y=>nc m b bm bT bo bt bi pk y.2.1) (λ y=>y.2.2) (λ y=>jB y.2.1) (λ y=>K-y.1) ((0,V,[])) (⟨Nat.zero_le _,h,rfl⟩) (λ y f hx=>?_)
  dsimp only[lP,List.map,List.cons_append,List.nil_append]
  obtain⟨hy1,hy2,hy3⟩:=hx
  have hlen:y.2.1.th.length=n:=by rw[hy2.len,Eu,hn]
  have hl8:=hy2.tl
  have hdn:=hy2.fT
  have hmod:=Nat.mod_lt (0+y.1) hn0
  refine gS ?_;refine wD ?_;refine aB ?_
  (refine lN 8 (λ g8=>?_) (λ g8=>?_)<;>refine Ka5 ?_)
  all_goals ((first|refine aT ?_|(refine aE ?_;refine aH (cM (φ:=λ _=>True) (V:=λ _:Unit=>.bool y.2.1.fT) (hs:=[(bm,yE b bT pk y.2.1)]) (os:=jB y.2.1) (A0:=[]) (hs':=λ _=>[(bm,yE b bT pk y.2.1)]) (os':=λ _=>jB y.2.1) (Fc:=λ _=>[]) (hc:=λ w1 hw=>(H0 hl8 hw).mono λ _ _ ⟨e,h⟩=>⟨(),e,trivial,h⟩)) (λ x10 h10=>?_)));refine Q9 ?_;refine aD ?_)
  all_goals
   refine aU (λ c12=>?_) (λ c12=>?_)
   · try exact nv c12
     all_goals
      have hyK:y.1<K:=by
       rcases Nat.lt_or_ge y.1 K with h|h
       · exact h
       · have e:y.1=K:=by omega
         rw[e,hd] at hdn
         rw[hdn] at c12
         cases c12
     all_goals (refine hU ?_;refine mL ?_;refine aH (cT 0 0 (hs:=nc m b bm bT bo bt bi pk y.2.1) (os:=jB y.2.1) (A0:=dV y.2.1.a.L++y.2.1.B) (V:=λ x:MV×Fr×Bool=>.bool x.2.2) (F1:=λ x:MV×Fr×Bool=>x.2.1++y.2.2) (hc:=λ w1 hw=>Ap (k:=(0+y.1)%n) hy2 (by omega) hm0 (by rw[hlen];exact hmod) (hi y.1 hyK).2.1 (hi y.1 hyK).2.2 (λ f hf=>List.mem_append_left _ hf) (λ f hf=>List.mem_append_right _ hf) hw) (hA:=ax hy2 hy3 hA2) (hF1:=λ x hx f hf=>.inr hf)) (λ x17 h17=>?_))
     all_goals
      have hlen2:x17.1.th.length=n:=by rw[h17.1.len,yH,Eu,hn]
      have hmq:((0+y.1)%n+1)%x17.1.th.length=(0+(y.1+1))%n:=by rw[hlen2,Nat.mod_add_mod,Nat.add_assoc]
     all_goals (refine aD ?_;refine qe ?_;refine aB ?_;refine bC ?_;refine oi ?_;refine aA (ga (c:=(0+(y.1+1))%n) rf rf (by omega) hmq) rfl ?_;refine J1 ?_;refine dZ ?_;refine Gt ?_;refine Ou ?_;refine J1 ?_)
     all_goals
      refine zI ((y.1+1,x17.1,x17.2.1++y.2.2)) ?_ (hw1:=λ w hw=>hw.z1)
      · exact⟨hyK,h17.1,by rw[h17.2,hy3,List.append_assoc]⟩
   · all_goals (refine aX rfl ?_;refine J2 ?_;refine aH (cM (φ:=λ _=>True) (V:=λ _:Unit=>.bool y.2.1.fT) (hs:=[(bm,yE b bT pk y.2.1)]) (os:=jB y.2.1) (A0:=[]) (hs':=λ _=>[(bm,yE b bT pk y.2.1)]) (os':=λ _=>jB y.2.1) (Fc:=λ _=>[]) (hc:=λ w1 hw=>(H0 hl8 hw).mono λ _ _ ⟨e,h⟩=>⟨(),e,trivial,h⟩)) (λ x27 h27=>?_);refine J1 ?_)
     all_goals
      refine bE Tryz.results11 (λ w hw=>?_)
      have hyK:y.1=K:=by
       rcases Nat.lt_or_ge y.1 K with h|h
       · have h1:=(hi y.1 h).1
         rw[h1] at hdn
         first|omega|(rw[hdn] at c12;cases c12;done) 
       · omega
      have hdt:y.2.1.fT=true:=by rw[hdn,hyK];exact hd
      refine⟨(y.2.1,y.2.2),by rw[hdt];rfl,⟨hyK▸hy2,hy3⟩,hw.W1.z1⟩
end
end

end Go.Proofs.YtnilhhnfjfdokaaGreatDoor

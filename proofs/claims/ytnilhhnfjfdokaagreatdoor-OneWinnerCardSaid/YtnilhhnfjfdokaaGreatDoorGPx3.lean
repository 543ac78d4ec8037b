/- Runs of several threads on one key: reads of the main node. -/
import Derived.Test.YtnilhhnfjfdokaaGreatDoorGCmh
import Derived.Test.YtnilhhnfjfdokaaGreatDoorGShort
import Derived.Test.YtnilhhnfjfdokaaGreatDoorGBitsE

set_option linter.unusedSimpArgs false
set_option linter.unusedVariables false
namespace Go.Proofs.YtnilhhnfjfdokaaGreatDoor
section
open Go Go.RowKit Go.Ct
abbrev t3:nS:=⟨3,false⟩
section
variable{key:ByteArray}{h:Nat}{val:Nat->Int}{k:Nat}{s s1 s2:Mm}{σ τ υ:Gh}{Q:Rs->Gh->Prop}{d:Nat}{K:Int->Tr}{m:Int}
def Lq(key:ByteArray)(h:Nat)(val:Nat->Int)(k:Nat)(Q:Rs->Gh->Prop)(d:Nat)(t:Tr)(s:Mm)(σ:Gh):Prop :=
 ∀s' σ',Cz key h val k s σ s' σ'->(fA t s').1≠.stuck/\∃σ2,Gr key h val k s' σ' (fA t s').2 σ2/\Gd key h val k Q d (fA t s').1 (fA t s').2 σ2
theorem Lq.C7{t:Tr}(g:Lq key h val k Q d t s σ)(f:Cz key h val k s σ s1 τ):Lq key h val k Q d t s1 τ:=λ s' σ' f2=>g s' σ' (f.trans f2)
theorem Gr.refl(j1:Jx key h val s σ):Gr key h val k s σ s σ:=⟨.refl s,j1,.inl rfl,by omega,by omega⟩
theorem wA{c:Int}{kk:Int->Tr}(g:∀s' σ',Cz key h val k s σ s' σ'->(fA (kk (cW s'.cs c)) s').1≠.stuck/\∃σ2,Gr key h val k s' σ' (fA (kk (cW s'.cs c)) s').2 σ2/\Gd key h val k Q d (fA (kk (cW s'.cs c)) s').1 (fA (kk (cW s'.cs c)) s').2 σ2):Gd key h val k Q (d+1) (.load c kk) s σ:=.inr ⟨rfl,rfl,g⟩
theorem M6{t:Tr}(g:Lq key h val k Q d t s σ)(j1:Jx key h val s σ):(fA t s).1≠.stuck/\∃σ2,Gr key h val k s σ (fA t s).2 σ2/\Gd key h val k Q d (fA t s).1 (fA t s).2 σ2:=g s σ (.refl j1)
theorem Gy(j1:Jx key h val s σ):(bU s.nodes 4).kind=2/\(bU s.nodes 4).main=2/\(bU s.nodes 4).gen=1:=by rw[j1.n4];exact⟨rfl,rfl,rfl⟩
theorem Nm(j1:Jx key h val s σ):(bU s.nodes 3).kind=3/\(bU s.nodes 3).prev=1:=by rw[j1.n3];exact⟨rfl,rfl⟩
theorem L4(hm:m<=s.nodes.length)(h4:4<=(bU s.nodes m).prev)(hl:(bU s.nodes m).prev<=s.cs.length)(hz:cW s.cs (bU s.nodes m).prev=0)(j1:Jx key h val s σ)(g:Lq key h val k Q d (K m) s σ) :
  (fA (fY 4 m K) s).1≠.stuck/\∃σ2,Gr key h val k s σ (fA (fY 4 m K) s).2 σ2/\Gd key h val k Q (d+1) (fA (fY 4 m K) s).1 (fA (fY 4 m K) s).2 σ2:=by
 have e:fA (fY 4 m K) s=(.load (bU s.nodes m).prev λ p=>if p=0 then K m else Kl 4 m p K,s):=rfl
 rw[e]
 refine⟨λ e=>Tr.noConfusion e,σ,.refl j1,wA λ s' σ' f=>?_⟩
 rw[f.1.z _ h4 hl hz,if_pos rfl]
 exact M6 (g.C7 f) f.2.1
theorem Im{cs:List Int}{c o n x:Int}(h1:1<=c)(hc:c<=cs.length)(ho:cW cs c=o)(h2:1<=x)(hx:x<=cs.length):cW (dU cs c o n) x=if x=c then n else cW cs x:=by
 obtain⟨a,rfl⟩:∃a:Nat,c=((a+1:Nat):Int):=⟨(c-1).toNat,by omega⟩
 obtain⟨b,rfl⟩:∃b:Nat,x=((b+1:Nat):Int):=⟨(x-1).toNat,by omega⟩
 have ha:a<cs.length:=by omega
 have hb:b<cs.length:=by omega
 rw[kN ha] at ho
 have e:dU cs ((a+1:Nat):Int) o n=cs.set a n:=by
  unfold dU
  rw[if_pos ⟨by omega,by omega,by rw[<- ho];congr 1;omega⟩]
  congr 1;omega
 rw[e,kN (by rw[List.length_set];exact hb),kN hb,G0,G0,List.getElem?_set]
 by_cases hab:a=b
 ·subst hab
  rw[if_pos rfl,if_pos rfl,if_pos ha];rfl
 ·rw[if_neg hab,if_neg (by omega)]
theorem U8{cs:List Int}{c o n:Int}(ho:cW cs c≠o)(h1:1<=c)(hc:c<=cs.length):dU cs c o n=cs/\Dd cs c o=false:=by
 obtain⟨a,rfl⟩:∃a:Nat,c=((a+1:Nat):Int):=⟨(c-1).toNat,by omega⟩
 have ha:a<cs.length:=by omega
 rw[kN ha] at ho
 have e:¬(1<=((a+1:Nat):Int)/\((a+1:Nat):Int)<=cs.length/\cs.getD (((a+1:Nat):Int)-1).toNat 0=o):=λ q=>ho (by rw[<- q.2.2];congr 1;omega)
 exact⟨if_neg e,decide_eq_false e⟩
theorem Yf{cs:List Int}{c o:Int}(ho:cW cs c=o)(h1:1<=c)(hc:c<=cs.length):Dd cs c o=true:=by
 obtain⟨a,rfl⟩:∃a:Nat,c=((a+1:Nat):Int):=⟨(c-1).toNat,by omega⟩
 have ha:a<cs.length:=by omega
 rw[kN ha] at ho
 exact decide_eq_true ⟨by omega,by omega,by rw[<- ho];congr 1;omega⟩
theorem P1{p:Int}(h4:4<=p)(hl:p<=s.cs.length)(j1:Jx key h val s σ):Gr key h val k s σ ⟨s.nodes,dU s.cs p 3 0,s.gen,s.pv⟩ σ/\cW (dU s.cs p 3 0) p=0:=by
 have hcl:=j1.cl
 by_cases h3:cW s.cs p=3
 ·have hx:∀x:Int,1<=x->x<=s.cs.length->cW (dU s.cs p 3 0) x=if x=p then 0 else cW s.cs x:=λ x a b=>Im (by omega) hl h3 a b
  have hk:Kp s ⟨s.nodes,dU s.cs p 3 0,s.gen,s.pv⟩:=⟨Nat.le_refl _,λ _ _=>rfl,by show _<=(dU s.cs p 3 0).length;rw[fU];exact Nat.le_refl _,λ c a b e=>by
   show cW (dU s.cs p 3 0) c=0
   rw[hx c (by omega) b];split
   ·rfl
   ·exact e⟩
  refine⟨⟨hk,⟨j1.n3,j1.n4,j1.len,by show _<=(dU s.cs p 3 0).length;rw[fU];exact j1.cl,?_,?_,λ c a b=>?_,λ e=>?_,λ w m e=>?_⟩,.inl rfl,by show s.nodes.length<=_;omega,by show(dU s.cs p 3 0).length<=_;rw[fU];omega⟩,?_⟩
  ·show cW (dU s.cs p 3 0) 1=0
   rw[hx 1 (by omega) (by omega),if_neg (by omega)];exact j1.c1
  ·show cW (dU s.cs p 3 0) 3=4
   rw[hx 3 (by omega) (by omega),if_neg (by omega)];exact j1.c3
  ·show cW (dU s.cs p 3 0) c=0∨cW (dU s.cs p 3 0) c=3
   have b':c<=s.cs.length:=by have h5:(dU s.cs p 3 0).length=s.cs.length:=fU;have b2:c<=(dU s.cs p 3 0).length:=b;omega
   rw[hx c (by omega) b'];split
   ·exact .inl rfl
   ·exact j1.pz c a b'
  ·show cW (dU s.cs p 3 0) 2=3
   rw[hx 2 (by omega) (by omega),if_neg (by omega)];exact j1.m0 e
  ·obtain⟨e1,g1⟩:=j1.m1 w m e
   refine⟨?_,g1.kp hk⟩
   show cW (dU s.cs p 3 0) 2=m
   rw[hx 2 (by omega) (by omega),if_neg (by omega)];exact e1
  ·rw[hx p (by omega) hl,if_pos rfl]
 ·obtain⟨e,_⟩:=U8 (n:=0) h3 (by omega) hl
  rw[e]
  refine⟨.refl j1,?_⟩
  rcases j1.pz p h4 hl with h0|h0
  ·exact h0
  ·exact absurd h0 h3
theorem Y5(hm:m<=s.nodes.length)(h4:4<=(bU s.nodes m).prev)(hl:(bU s.nodes m).prev<=s.cs.length)(g:Lq key h val k Q d (K m) s σ):Gd key h val k Q (d+2) (.oI (bU s.nodes m).prev 3 0 λ _=>fY 4 m K) s σ:=by
 refine .inr ⟨rfl,rfl,λ s' σ' f=>?_⟩
 have hl':(bU s.nodes m).prev<=s'.cs.length:=by have:=f.1.cl;omega
 obtain⟨c1,c2⟩:=P1 (k:=k) h4 hl' f.2.1
 have f2:Cz key h val k s' σ' ⟨s'.nodes,dU s'.cs (bU s.nodes m).prev 3 0,s'.gen,s'.pv⟩ σ':=⟨c1.1,c1.2.1,.inl rfl⟩
 have hm':bU s'.nodes m=bU s.nodes m:=f.1.nd m hm
 have:=L4 (K:=K) (m:=m) (d:=d) (s:=⟨s'.nodes,dU s'.cs (bU s.nodes m).prev 3 0,s'.gen,s'.pv⟩) (σ:=σ') (by have:=f.1.le;show m<=(s'.nodes.length:Int);omega) (by show 4<=(bU s'.nodes m).prev;rw[hm'];exact h4) (by show(bU s'.nodes m).prev<=((dU s'.cs _ 3 0).length:Int);rw[fU,hm'];exact hl') (by show cW (dU s'.cs _ 3 0) (bU s'.nodes m).prev=0;rw[hm'];exact c2) c1.2.1 (g.C7 (f.trans f2))
 obtain⟨a,σ2,b,c⟩:=this
 exact⟨a,σ2,⟨c1.1.trans b.1,b.2.1,b.2.2.1,b.2.2.2.1,by have h1:=b.2.2.2.2;have h2:(dU s'.cs (bU s.nodes m).prev 3 0).length=s'.cs.length:=fU;exact h2▸h1⟩,c⟩
theorem R3(hm:m<=s.nodes.length)(h4:4<=(bU s.nodes m).prev)(hl:(bU s.nodes m).prev<=s.cs.length)(g:Lq key h val k Q d (K m) s σ):Gd key h val k Q (d+3) (fA (Dr t3 λ r=>.node r λ nr=>.node 4 λ ni=>kY 4 m 3 (nr.gen==ni.gen) K) s).1 s σ:=by
 refine wA λ s' σ' f=>?_
 rw[f.2.1.c3]
 obtain⟨e1,_,e2⟩:=Gy f.2.1
 have hm':bU s'.nodes m=bU s.nodes m:=f.1.nd m hm
 have e:fA (.node 4 λ n=>if n.kind=2 then(λ r=>Tr.node r λ nr=>.node 4 λ ni=>kY 4 m 3 (nr.gen==ni.gen) K) 4 else .node 4 λ n=>.load n.status λ s=>if s=0 then .node 4 λ n=>.oI n.status 0 2 λ _=>.node 4 λ n=>.load n.status λ s=>nN t3 4 s (λ r=>Tr.node r λ nr=>.node 4 λ ni=>kY 4 m 3 (nr.gen==ni.gen) K) else nN t3 4 s (λ r=>Tr.node r λ nr=>.node 4 λ ni=>kY 4 m 3 (nr.gen==ni.gen) K)) s'=(.oI (bU s.nodes m).prev 3 0 (λ _=>fY 4 m K),s'):=by
  rw[fA]
  simp only[e1,if_true,fA,beq_self_eq_true,kY,hm']
 rw[e]
 exact⟨λ e=>Tr.noConfusion e,σ',.refl f.2.1,Y5 (K:=K) (by have:=f.1.le;omega) (by rw[hm'];exact h4) (by rw[hm'];have:=f.1.cl;omega) (g.C7 f) |> λ q=>by rw[hm'] at q;exact q⟩
theorem Dk(hm:m<=s.nodes.length)(hp:m=3∨4<=(bU s.nodes m).prev/\(bU s.nodes m).prev<=s.cs.length)(j1:Jx key h val s σ)(g:Lq key h val k Q d (K m) s σ):(fA (gC t3 4 m K) s).1≠.stuck/\(fA (gC t3 4 m K) s).2=s/\Gd key h val k Q (d+4) (fA (gC t3 4 m K) s).1 s σ:=by
 refine⟨λ e=>Tr.noConfusion e,rfl,wA λ s' σ' f=>?_⟩
 rcases hp with e3|⟨h4,hl⟩
 ·have e:cW s'.cs (bU s.nodes m).prev=0:=by rw[e3,(Nm j1).2];exact f.2.1.c1
  rw[e,if_pos rfl]
  obtain⟨a,σ2,b,c⟩:=M6 (g.C7 f) f.2.1
  exact⟨a,σ2,b,c.mono (by omega)⟩
 ·have hm':bU s'.nodes m=bU s.nodes m:=f.1.nd m hm
  have hl':(bU s.nodes m).prev<=s'.cs.length:=by have:=f.1.cl;omega
  rcases f.2.1.pz _ h4 hl' with e|e
  ·rw[e,if_pos rfl]
   obtain⟨a,σ2,b,c⟩:=M6 (g.C7 f) f.2.1
   exact⟨a,σ2,b,c.mono (by omega)⟩
  ·rw[e,if_neg (by decide)]
   have hM:yU (bU s'.nodes 3):=.inl (Nm f.2.1).1
   have e2:fA (.node 3 λ np=>if yU np then(if t3.ro=true then kY 4 m 3 false K else Dr t3 λ r=>.node r λ nr=>.node 4 λ ni=>kY 4 m 3 (nr.gen==ni.gen) K) else Kl 4 m 3 K) s'=((fA (Dr t3 λ r=>.node r λ nr=>.node 4 λ ni=>kY 4 m 3 (nr.gen==ni.gen) K) s').1,s'):=by
    rw[fA]
    simp only[if_pos hM]
    rfl
   rw[e2]
   exact⟨λ e=>Tr.noConfusion e,σ',.refl f.2.1,R3 (by have:=f.1.le;omega) (by rw[hm'];exact h4) (by rw[hm'];exact hl') (g.C7 f)⟩
end
end

/- Nodes of proper states. -/
end Go.Proofs.YtnilhhnfjfdokaaGreatDoor
namespace Go.Ct
section
section
variable{gen:Int}{n c:Nat}
theorem Bk:jm 0 n:=⟨Int.le_refl _,pR n⟩
theorem Ih{b:Nat}{xs:List Int}(hg:0<=gen)(hb:BV b xs)(hx:∀r∈xs,r<=n):jh gen n (eO (({Nd.zero with kind:=3,bm:=(b:Int)}:Nd).c xs []) c).dv :=
 ⟨⟨by simp[Ey,Nd.own,Nd.mN,Nd.kE,Nd.zero,eO,Nd.c,Nv.dv,Nv.nd],by simp[eO,Nd.c,Nv.dv,Nv.nd,Nd.zero],by simp[eO,Nd.c,Nv.dv,Nv.nd,Nd.zero];omega,by simp[eO,Nd.c,Nv.dv,Nv.nd,Nd.zero],.inr (.inr (.inl ⟨rfl,by show(xs.length:Int)=yP (b:Int);rw[rO hb.lt,hb.len],hb.pos⟩))⟩,hg,λ i hi=>by
  have h1:=hb.pos i hi
  have hi':i<xs.length:=hi
  refine⟨by show 0<=xs.getD i 0;omega,hx _ ?_⟩
  show xs.getD i 0∈xs
  rw[G0,List.getElem?_eq_getElem hi']
  exact List.getElem_mem hi',Bk,Bk,Bk⟩
end
end

/- Runs of several threads on one key: what a put and a lookup do. -/
end Go.Ct
namespace Go.Proofs.YtnilhhnfjfdokaaGreatDoor
section
open Go Go.RowKit Go.Ct
theorem q9:BV 0 []:=⟨by decide,by decide,λ k hk=>absurd hk (by simp)⟩
theorem bk{n:Nd}{xs:List Int}{ys:List Pr}{b k:Nat}(hcv:CV n xs ys)(hk:k<64):Kz n xs ys b (k:Int)=Wj b xs k:=by
 unfold Kz Wj
 rw[uW b hk]
 cases e:b.testBit k
 ·rw[if_neg (by simp)];simp
 ·rw[if_pos ⟨hcv,rfl⟩,As b hk];simp
theorem cv:CV (eO eZ 0).nd [] []:=⟨rfl,(Ih (gen:=0) (n:=0) (c:=0) (Int.le_refl _) q9 (λ _ h=>nomatch h)).1⟩
theorem Kd{i:Nat}(hi:i<64){r:Int}(hr:1<=r)(c:Nat):qI (eO eZ 0) (i:Int)=none/\(Gp (eO eZ 0).nd (eO eZ 0).xs (eO eZ 0).ys (eO eZ 0).bm.toNat (i:Int) r).isSome=true/\(C1 (eO eZ 0) (i:Int) r).kind=3/\qI (eO (C1 (eO eZ 0) (i:Int) r) c) (i:Int)=some r:=by
 have h0:uC 0 (i:Int)=false:=by rw[uW 0 hi];simp
 have e:Gp (eO eZ 0).nd [] [] 0 (i:Int) r=some (pL 0 (i:Int),tM [] (kK 0 (i:Int)) r):=if_pos ⟨cv,⟨by omega,by omega⟩,hr,h0⟩
 have h0':=h0
 rw[uW 0 hi] at h0'
 have hb:=Vg q9 hi h0' hr
 have e2:C1 (eO eZ 0) (i:Int) r=pg (pL 0 (i:Int)) (tM [] (kK 0 (i:Int)) r):=by
  show Pe (Gp (eO eZ 0).nd [] [] 0 (i:Int) r)=_
  rw[e];rfl
 refine⟨?_,?_,by rw[e2];rfl,?_⟩
 ·show Kz (eO eZ 0).nd [] [] 0 (i:Int)=none
  rw[bk cv hi];simp[Wj]
 ·show(Gp (eO eZ 0).nd [] [] 0 (i:Int) r).isSome=true
  rw[e];rfl
 ·rw[e2,Di 0 hi,As 0 hi]
  have hv:=(Ih (gen:=0) (n:=(r.toNat+1)) (c:=c) (Int.le_refl _) hb.1 (λ x hx=>by
   have hx':x∈tM [] (iH 0 i) r:=hx
   have:x=r:=by
    unfold tM at hx'
    simp at hx'
    exact hx'
   omega)).1
  show Kz (eO (pg _ _) c).nd _ [] _ (i:Int)=some r
  refine(bk ⟨rfl,hv⟩ hi).trans ?_
  refine(hb.2 i hi).trans ?_
  simp[lj]
section
variable{key:ByteArray}{h:Nat}{val:Nat->Int}{k:Nat}{s s1 s2:Mm}{σ τ υ:Gh}{Q:Rs->Gh->Prop}{d:Nat}{K:Int->Tr}{m:Int}
theorem oE{cs:List Int}{x c:Int}(hc:c<=cs.length):cW (cs++[x]) c=cW cs c:=by
 by_cases h1:1<=c
 ·obtain⟨a,rfl⟩:∃a:Nat,c=((a+1:Nat):Int):=⟨(c-1).toNat,by omega⟩
  have ha:a<cs.length:=by omega
  rw[kN ha,kN (by rw[List.length_append];omega),G0,G0,List.getElem?_append_left ha]
 ·rw[vQ (by omega),vQ (by omega)]
theorem Uy(cs:List Int)(x:Int):cW (cs++[x]) ((cs.length+1:Nat):Int)=x:=by
 rw[kN (by simp),G0,List.getElem?_append_right (Nat.le_refl _)];simp
theorem Vq(L:List Nv)(v:Nv):bU (L++[v]) ((L.length+1:Nat):Int)=v:=by
 unfold bU
 rw[if_pos ⟨by omega,by rw[List.length_append];simp⟩,G0,List.getElem?_append_right (by omega)]
 simp
abbrev km(s:Mm)(h:Nat)(key:ByteArray)(u:Int):Mm:=(s.push (lI h key u) 0).push (C1 (eO eZ 0) (iF h 0) ((s.nodes.length+1:Nat):Int)) 3
theorem jw(h:Nat):iF h 0=((sl h 0:Nat):Int):=rfl
theorem K3(h:Nat):sl h 0<64:=by unfold sl;omega
theorem eu(s:Mm)(u:Int):km s h key u=⟨s.nodes++[eO (lI h key u) s.cs.length]++[eO (C1 (eO eZ 0) (iF h 0) ((s.nodes.length+1:Nat):Int)) s.cs.length],s.cs++[3],s.gen,s.pv⟩:=by
 have hk:=(Kd (K3 h) (r:=((s.nodes.length+1:Nat):Int)) (by omega) s.cs.length).2.2.1
 rw[<- jw] at hk
 have ea:mR (lI h key u).kind s.cs 0=s.cs:=rfl
 unfold km Mm.push
 simp only[ea]
 have eb:mR (C1 (eO eZ 0) (iF h 0) ((s.nodes.length+1:Nat):Int)).kind s.cs 3=s.cs++[3]:=by rw[hk];rfl
 rw[eb]
theorem Xv(j1:Jx key h val s σ)(u:Int):Gr key h val k s σ (km s h key u) σ/\Gn key h (km s h key u) ((s.nodes.length+2:Nat):Int) u:=by
 have hi:=Kd (K3 h) (r:=((s.nodes.length+1:Nat):Int)) (by omega) s.cs.length
 rw[<- jw] at hi
 rw[eu]
 have hl:=j1.len
 have hcl:=j1.cl
 have e1:∀r:Int,r<=s.nodes.length->bU (s.nodes++[eO (lI h key u) s.cs.length]++[eO (C1 (eO eZ 0) (iF h 0) ((s.nodes.length+1:Nat):Int)) s.cs.length]) r=bU s.nodes r:=λ r hr=>by rw[List.append_assoc];exact Cm hr
 have hk:Kp s ⟨s.nodes++[eO (lI h key u) s.cs.length]++[eO (C1 (eO eZ 0) (iF h 0) ((s.nodes.length+1:Nat):Int)) s.cs.length],s.cs++[3],s.gen,s.pv⟩:=⟨by simp,e1,by simp,λ c a b e=>by show cW (s.cs++[3]) c=0;rw[oE b];exact e⟩
 refine⟨⟨hk,⟨(e1 3 (by omega)).trans j1.n3,(e1 4 (by omega)).trans j1.n4,by simp;omega,by simp;omega,(oE (by omega)).trans j1.c1,(oE (by omega)).trans j1.c3,λ c a b=>?_,λ e=>(oE (by omega)).trans (j1.m0 e),λ w m e=>?_⟩,.inl rfl,by simp,by simp⟩,?_⟩
 ·show cW (s.cs++[3]) c=0∨cW (s.cs++[3]) c=3
  have b2:c<=((s.cs++[3]).length:Int):=b
  rw[List.length_append] at b2
  by_cases hc:c<=s.cs.length
  ·rw[oE hc];exact j1.pz c a hc
  ·have:c=((s.cs.length+1:Nat):Int):=by simp at b2;omega
   rw[this,Uy];exact .inr rfl
 ·obtain⟨a,b⟩:=j1.m1 w m e
  exact⟨(oE (by omega)).trans a,b.kp hk⟩
 ·have e2:bU (s.nodes++[eO (lI h key u) s.cs.length]++[eO (C1 (eO eZ 0) (iF h 0) ((s.nodes.length+1:Nat):Int)) s.cs.length]) ((s.nodes.length+2:Nat):Int)=eO (C1 (eO eZ 0) (iF h 0) ((s.nodes.length+1:Nat):Int)) s.cs.length:=by
   have:=Vq (s.nodes++[eO (lI h key u) s.cs.length]) (eO (C1 (eO eZ 0) (iF h 0) ((s.nodes.length+1:Nat):Int)) s.cs.length)
   rwa [List.length_append] at this
  have e3:bU (s.nodes++[eO (lI h key u) s.cs.length]++[eO (C1 (eO eZ 0) (iF h 0) ((s.nodes.length+1:Nat):Int)) s.cs.length]) ((s.nodes.length+1:Nat):Int)=eO (lI h key u) s.cs.length:=by
   rw[Cm (by simp)];exact Vq _ _
  have hp:(eO (C1 (eO eZ 0) (iF h 0) ((s.nodes.length+1:Nat):Int)) s.cs.length).prev=((s.cs.length+1:Nat):Int):=if_pos (.inl hi.2.2.1)
  refine⟨by omega,by simp,by rw[e2];exact hi.2.2.1,⟨((s.nodes.length+1:Nat):Int),by omega,by simp,by rw[e2];exact hi.2.2.2,by rw[e3];rfl,by rw[e3];rfl,by rw[e3];rfl⟩,by rw[e2,hp];omega,by rw[e2,hp];simp⟩
end
end

/- Runs of several threads on one key: a put and a lookup, from their beginning. -/
section
open Go Go.RowKit Go.Ct
section
variable{key:ByteArray}{h:Nat}{val:Nat->Int}{k:Nat}{s s1 s2:Mm}{σ τ υ:Gh}{Q:Rs->Gh->Prop}{d:Nat}{K:Int->Tr}{m:Int}
theorem E5(g0:∀s' σ',Cz key h val k s σ s' σ'->σ'=none->Lq key h val k Q d (K 3) s' σ')(g1:∀s' σ' w m,Cz key h val k s σ s' σ'->σ'=some (w,m)->Gn key h s' m (val w)->Lq key h val k Q d (K m) s' σ')(j1:Jx key h val s σ) :
  (fA (nY t3 4 K) s).1≠.stuck/\(fA (nY t3 4 K) s).2=s/\Gd key h val k Q (d+5) (fA (nY t3 4 K) s).1 s σ:=by
 refine⟨λ e=>Tr.noConfusion e,rfl,?_⟩
 have e:fA (nY t3 4 K) s=(.load 2 λ m=>gC t3 4 m K,s):=by
  show(Tr.load (bU s.nodes 4).main λ m=>gC t3 4 m K,s)=_
  rw[(Gy j1).2.1]
 rw[e]
 refine wA λ s' σ' f=>?_
 have main:∀m:Int,m<=s'.nodes.length->(m=3∨4<=(bU s'.nodes m).prev/\(bU s'.nodes m).prev<=s'.cs.length)->Lq key h val k Q d (K m) s' σ'->(fA (gC t3 4 m K) s').1≠.stuck/\∃σ2,Gr key h val k s' σ' (fA (gC t3 4 m K) s').2 σ2/\Gd key h val k Q (d+4) (fA (gC t3 4 m K) s').1 (fA (gC t3 4 m K) s').2 σ2:=λ m hm hp g=>by
  obtain⟨a,b,c⟩:=Dk (K:=K) hm hp f.2.1 g
  rw[b]
  exact⟨a,σ',.refl f.2.1,c⟩
 cases hs:σ' with
 | none =>
  rw[f.2.1.m0 hs,<- hs]
  exact main 3 (by have:=f.2.1.len;omega) (.inl rfl) (g0 s' σ' f hs)
 | some q =>
  obtain⟨w,m⟩:=q
  obtain⟨e1,e2⟩:=f.2.1.m1 w m hs
  rw[e1,<- hs]
  exact main m e2.ml (.inr ⟨e2.p4,e2.pl⟩) (g1 s' σ' w m f hs e2)
theorem Kf{T:Tr}(g:(fA T s).1≠.stuck/\(fA T s).2=s/\Gd key h val k Q d (fA T s).1 s σ)(j1:Jx key h val s σ):(fA T s).1≠.stuck/\∃σ2,Gr key h val k s σ (fA T s).2 σ2/\Gd key h val k Q d (fA T s).1 (fA T s).2 σ2:=by
 obtain⟨a,b,c⟩:=g
 rw[b]
 exact⟨a,σ,.refl j1,c⟩
theorem Gl(g:Lq key h val k Q d (K 4) s σ)(j1:Jx key h val s σ):Gd key h val k Q (d+1) (qB t3 K) s σ:=by
 refine wA λ s' σ' f=>?_
 rw[f.2.1.c3]
 have e:∀T:Nv->Tr,fA (.node 4 λ n=>if n.kind=2 then K 4 else T n) s'=fA (K 4) s':=λ T=>by
  rw[fA,if_pos (Gy f.2.1).1]
 rw[e]
 exact M6 (g.C7 f) f.2.1
def Qp(val:Nat->Int)(k:Nat)(r:Rs)(σ:Gh):Prop:=(∃m,σ=some (k,m)/\r=fL false 0)∨∃w m,σ=some (w,m)/\w≠k/\r=dG true (val w)
def Ql(val:Nat->Int)(r:Rs)(σ:Gh):Prop:=∃w m,σ=some (w,m)/\r=dG true (val w)
theorem Gg{r:Rs}(q:Q r σ):Gd key h val k Q d (.done r) s σ:=by
 cases d with
 | zero=>exact⟨r,rfl,q⟩
 | succ d=>exact .inl ⟨r,rfl,q⟩
theorem W7{r:Rs}(q:∀s' σ',Cz key h val k s σ s' σ'->Q r σ'):Lq key h val k Q d (.done r) s σ:=λ s' σ' f=>⟨λ e=>Tr.noConfusion e,σ',.refl f.2.1,Gg (q s' σ' f)⟩
theorem jR{w:Nat}{m:Int}(f:Cz key h val k s (some (w,m)) s1 τ):τ=some (w,m):=by
 rcases f.2.2 with e|⟨e,_⟩
 ·exact e
 ·exact nomatch e
theorem Yq{n:Nat}{w:Nat}(hs:σ=some (w,m))(j1:Jx key h val s σ):Gd key h val k (Ql val) 6 (qB t3 λ i=>nK t3 h key .done (n+1) i 0) s σ:=by
 refine Gl (d:=5) (λ s' σ' f=>?_) j1
 have g:=E5 (Q:=Ql val) (d:=0) (K:=λ mr=>.node mr λ m=>if m.kind=5 then(if m.key=key then .done (dG true m.val) else .done (dG false 0)) else if m.kind=6 then .done (dG (iO m.ys key).isSome ((iO m.ys key).getD 0)) else match qI m (iF h 0) with
   | none=>.done (dG false 0)
   | some b=>.node b λ s=>if s.kind=4 then(if s.key=key then .done (dG true s.val) else .done (dG false 0)) else nK t3 h key .done n b (0+1)) (s:=s') (σ:=σ') (k:=k) (λ s2 σ2 f2 e=>by
    have:=jR (hs▸f.trans f2);rw[e] at this;exact nomatch this) (λ s2 σ2 w2 m2 f2 e g=>λ s3 σ3 f3=>by
    have g3:=g.kp f3.1
    have e3:=jR (e▸f3)
    obtain⟨b,b5,bl,e1,e2,e4,e5⟩:=g3.lk
    have es:fA (.node m2 λ m=>if m.kind=5 then(if m.key=key then .done (dG true m.val) else .done (dG false 0)) else if m.kind=6 then .done (dG (iO m.ys key).isSome ((iO m.ys key).getD 0)) else match qI m (iF h 0) with
      | none=>.done (dG false 0)
      | some b=>.node b λ s=>if s.kind=4 then(if s.key=key then .done (dG true s.val) else .done (dG false 0)) else nK t3 h key .done n b (0+1)) s3=(.done (dG true (val w2)),s3):=by
     rw[fA,if_neg (by rw[g3.kd];decide),if_neg (by rw[g3.kd];decide),e1]
     simp only[fA,e2,e4,e5,if_true]
    rw[es]
    exact⟨λ e=>Tr.noConfusion e,σ3,.refl f3.2.1,Gg ⟨w2,m2,e3,rfl⟩⟩) f.2.1
 exact Kf g f.2.1
theorem Hh{c:lW}(hc:c.key=key)(hh:c.h=h)(hp:c.pol=1){w:Nat}{again:Tr}(hs:σ=some (w,m))(hw:w≠k)(g:Gn key h s m (val w)):Lq key h val k (Qp val k) d (jH c 4 m again) s σ:=λ s' σ' f=>by
 have g3:=g.kp f.1
 have e3:=jR (hs▸f)
 obtain⟨b,b5,bl,e1,e2,e4,e5⟩:=g3.lk
 have es:fA (jH c 4 m again) s'=(.done (dG true (val w)),s'):=by
  unfold jH
  rw[fA,if_pos g3.kd,hh,e1]
  simp only[fA,e2,e4,e5,hc,jS,hp]
  rfl
 rw[es]
 exact⟨λ e=>Tr.noConfusion e,σ',.refl f.2.1,Gg (.inr ⟨w,m,e3,hw,rfl⟩)⟩
theorem Tj{c:lW}(hc:c.key=key)(hh:c.h=h)(ht:c.t=t3)(hp:c.pol=1){n w:Nat}(hs:σ=some (w,m))(hw:w≠k)(j1:Jx key h val s σ):Gd key h val k (Qp val k) 6 (gV c (n+1)) s σ:=by
 show Gd key h val k (Qp val k) (5+1) (qB c.t λ r=>.node r λ _=>nY c.t r λ m=>jH c r m (gV c n)) s σ
 rw[ht]
 refine Gl (λ s' σ' f=>?_) j1
 exact Kf (d:=5) (E5 (d:=0) (K:=λ m=>jH c 4 m (gV c n)) (λ s2 σ2 f2 e=>by
  have:=jR (hs▸f.trans f2);rw[e] at this;exact nomatch this) (λ s2 σ2 w2 m2 f2 e g=>Hh hc hh hp (by
  have:=jR (hs▸f.trans f2)
  exact e) (by
  have:=jR (hs▸f.trans f2)
  rw[e] at this;injection this with this;injection this with h1 h2;rw[h1];exact hw) g) f.2.1) f.2.1
theorem Ar(hnk:∀m,σ≠some (k,m))(f:Cz key h val k s σ s1 τ):∀m,τ≠some (k,m):=λ m e=>by
 rcases f.2.2 with e2|⟨_,w,m2,e2,hw⟩
 ·exact hnk m (e2▸e)
 ·rw[e] at e2;injection e2 with e2;injection e2 with e2 _;exact hw e2.symm
theorem fz{q:Int}(j1:Jx key h val s none)(g:Gn key h s q (val k)):Gr key h val k s none ⟨s.nodes,dU s.cs 2 3 q,s.gen,s.pv⟩ (some (k,q)):=by
 have hcl:=j1.cl
 have hx:∀x:Int,1<=x->x<=s.cs.length->cW (dU s.cs 2 3 q) x=if x=2 then q else cW s.cs x:=λ x a b=>Im (by omega) (by omega) (j1.m0 rfl) a b
 have hL:(dU s.cs 2 3 q).length=s.cs.length:=fU
 have hk:Kp s ⟨s.nodes,dU s.cs 2 3 q,s.gen,s.pv⟩:=⟨Nat.le_refl _,λ _ _=>rfl,by show _<=(dU s.cs 2 3 q).length;omega,λ c a b e=>by
  show cW (dU s.cs 2 3 q) c=0
  rw[hx c (by omega) b,if_neg (by omega)];exact e⟩
 refine⟨hk,⟨j1.n3,j1.n4,j1.len,by show _<=(dU s.cs 2 3 q).length;omega,?_,?_,λ c a b=>?_,(λ e=>nomatch e),λ w m e=>?_⟩,.inr ⟨rfl,q,rfl⟩,by show s.nodes.length<=_;omega,by show(dU s.cs 2 3 q).length<=_;omega⟩
 ·show cW (dU s.cs 2 3 q) 1=0
  rw[hx 1 (by omega) (by omega),if_neg (by omega)];exact j1.c1
 ·show cW (dU s.cs 2 3 q) 3=4
  rw[hx 3 (by omega) (by omega),if_neg (by omega)];exact j1.c3
 ·show cW (dU s.cs 2 3 q) c=0∨cW (dU s.cs 2 3 q) c=3
  have b':c<=s.cs.length:=by have b2:c<=(dU s.cs 2 3 q).length:=b;omega
  rw[hx c (by omega) b',if_neg (by omega)]
  exact j1.pz c a b'
 ·injection e with e;injection e with e1 e2
  subst e1 e2
  refine⟨?_,g.kp hk⟩
  show cW (dU s.cs 2 3 q) 2=q
  rw[hx 2 (by omega) (by omega),if_pos rfl]
theorem U3{c:lW}(hc:c.key=key)(hh:c.h=h)(ht:c.t=t3)(hp:c.pol=1)(hv:c.val=val k){n:Nat}(hnk:∀m,σ≠some (k,m)):Lq key h val k (Qp val k) 7 (jH c 4 3 (gV c (n+1))) s σ:=λ s' σ' f=>by
 have hnk':=Ar hnk f
 have j1:=f.2.1
 have hi:=Kd (K3 h) (r:=((s'.nodes.length+1:Nat):Int)) (by omega) s'.cs.length
 rw[<- jw] at hi
 obtain⟨hst,hg⟩:=Xv (k:=k) j1 (val k)
 have e4:bU (km s' h key (val k)).nodes 4=eO (xQ 1) 1:=hst.2.1.n4
 have es:fA (jH c 4 3 (gV c (n+1))) s'=(.oI 2 3 ((s'.nodes.length+2:Nat):Int) λ b=>if b=true then gC t3 4 ((s'.nodes.length+2:Nat):Int) λ m=>(if(m==((s'.nodes.length+2:Nat):Int))=true then .done (fL false 0) else gV c (n+1)) else(if false=true then .done (fL false 0) else gV c (n+1)),km s' h key (val k)):=by
  unfold jH
  rw[fA,j1.n3,if_pos (by rfl),hh,hi.1]
  simp only[jS,hp]
  rw[if_pos (by rfl),fA,if_pos hi.2.1,fA]
  have el:((s'.push (lI h c.key c.val) 0).nodes.length+1:Nat)=s'.nodes.length+2:=by simp[Mm.push]
  rw[el,hc,hv,ht]
  unfold qR
  rw[fA]
  have e4':bU ((s'.push (lI h key (val k)) 0).push (C1 (eO eZ 0) (iF h 0) ((s'.nodes.length+1:Nat):Int)) 3).nodes 4=eO (xQ 1) 1:=e4
  rw[e4']
  rfl
 rw[es]
 refine⟨λ e=>Tr.noConfusion e,σ',hst,.inr ⟨rfl,rfl,λ s2 σ2 f2=>?_⟩⟩
 have hnk2:=Ar hnk' f2
 have hg2:=hg.kp f2.1
 have j2:=f2.2.1
 cases e2:σ2 with
 | none =>
  have hb:Dd s2.cs 2 3=true:=Yf (j2.m0 e2) (by omega) (by have:=j2.cl;omega)
  have w1:=fz (e2▸j2) hg2
  have e:kQ (.oI 2 3 ((s'.nodes.length+2:Nat):Int) λ b=>if b=true then gC t3 4 ((s'.nodes.length+2:Nat):Int) λ m=>(if(m==((s'.nodes.length+2:Nat):Int))=true then .done (fL false 0) else gV c (n+1)) else(if false=true then .done (fL false 0) else gV c (n+1)),s2)=fA (gC t3 4 ((s'.nodes.length+2:Nat):Int) λ m=>(if(m==((s'.nodes.length+2:Nat):Int))=true then .done (fL false 0) else gV c (n+1))) ⟨s2.nodes,dU s2.cs 2 3 ((s'.nodes.length+2:Nat):Int),s2.gen,s2.pv⟩:=by
   show fA (if Dd s2.cs 2 3=true then _ else _) _=_
   rw[if_pos hb]
   rfl
  rw[e]
  have g3:=hg2.kp w1.1
  have gs:=Dk (k:=k) (Q:=Qp val k) (d:=2) (K:=λ m=>(if(m==((s'.nodes.length+2:Nat):Int))=true then .done (fL false 0) else gV c (n+1))) g3.ml (.inr ⟨g3.p4,g3.pl⟩) w1.2.1 (by
   rw[if_pos (by simp)]
   exact W7 λ s4 σ4 f4=>.inl ⟨_,jR f4 |> λ e=>e,rfl⟩)
  obtain⟨a,b,c'⟩:=gs
  rw[b]
  exact⟨a,_,w1,c'⟩
 | some q =>
  obtain⟨w,m⟩:=q
  have hw:w≠k:=λ e=>hnk2 m (by rw[e2,e])
  obtain⟨e1,g1⟩:=j2.m1 w m e2
  obtain⟨h1,h2⟩:=U8 (cs:=s2.cs) (c:=2) (o:=3) (n:=((s'.nodes.length+2:Nat):Int)) (by rw[e1];have:=g1.m5;omega) (by omega) (by have:=j2.cl;omega)
  have e:kQ (.oI 2 3 ((s'.nodes.length+2:Nat):Int) λ b=>if b=true then gC t3 4 ((s'.nodes.length+2:Nat):Int) λ m=>(if(m==((s'.nodes.length+2:Nat):Int))=true then .done (fL false 0) else gV c (n+1)) else(if false=true then .done (fL false 0) else gV c (n+1)),s2)=(gV c (n+1),s2):=by
   show fA (if Dd s2.cs 2 3=true then _ else _) ⟨s2.nodes,dU s2.cs 2 3 _,s2.gen,s2.pv⟩=_
   rw[h1,h2,if_neg (by decide),if_neg (by decide)]
   rfl
  rw[e]
  exact⟨λ e=>Tr.noConfusion e,some (w,m),.refl (e2▸j2),Tj hc hh ht hp rfl hw (e2▸j2)⟩
theorem fq{c:lW}(hc:c.key=key)(hh:c.h=h)(ht:c.t=t3)(hp:c.pol=1)(hv:c.val=val k){n:Nat}(hnk:∀m,σ≠some (k,m))(j1:Jx key h val s σ):Gd key h val k (Qp val k) 13 (gV c (n+2)) s σ:=by
 show Gd key h val k (Qp val k) (12+1) (qB c.t λ r=>.node r λ _=>nY c.t r λ m=>jH c r m (gV c (n+1))) s σ
 rw[ht]
 refine Gl (λ s' σ' f=>?_) j1
 exact Kf (d:=12) (E5 (d:=7) (K:=λ m=>jH c 4 m (gV c (n+1))) (λ s2 σ2 f2 e=>U3 hc hh ht hp hv (Ar hnk (f.trans f2))) (λ s2 σ2 w2 m2 f2 e g=>Hh hc hh hp e (λ e3=>Ar hnk (f.trans f2) m2 (by rw[e,e3])) g) f.2.1) f.2.1
end
end

end Go.Proofs.YtnilhhnfjfdokaaGreatDoor

/- Shape: every trie of a world is well-formed, and the program's Check says so. -/
import Derived.Test.YtadnboagdhcedaaGreatDoorGVw4
import Derived.Test.YtadnboagdhcedaaGreatDoorWo6
import Derived.Test.YtadnboagdhcedaaGreatDoorGKx9
import Derived.Test.YtadnboagdhcedaaGreatDoorGKw8
import Derived.Test.YtadnboagdhcedaaGreatDoorGSh12
import Derived.Test.YtadnboagdhcedaaGreatDoorGWo3
import Derived.Test.YtadnboagdhcedaaGreatDoorGJoin

set_option linter.unusedSimpArgs false
set_option linter.unusedVariables false
namespace Go.Proofs.YtadnboagdhcedaaGreatDoor
section
open Go Go.RowKit Go.Ct
theorem gdx{l:List Int}{k:Nat}(h:k<l.length):l.getD k 0=l[k]:=by simp[List.getD,h]
section
variable{H:ByteArray->Nat}{σ:Kw}
theorem Zd(i0:Inv H σ):∀(n:Nat) (i:Int) (w:List Nat) (g:Int),nJ σ i w g->12<=w.length+n->Nt σ.mm.nodes σ.mm.cs n i
 | 0,i,w,g,hi,hn=>by have:=(hi.Ep i0).2.2;omega
 | n+1,i,w,g,hi,hn=>by
  obtain⟨r,hb,hm⟩:=Is i0 hi
  refine⟨r,hb,λ b hx=>?_⟩
  by_cases k3:(σ.nd r).kind=3
  ·have hc:=hm.lJ i0 k3
   obtain⟨j,hj,he⟩:=List.mem_iff_getElem.1 (show b∈(σ.nd r).xs from hx)
   obtain⟨h1,h2⟩:=hc.at hj
   rw[gdx hj,he] at h2
   generalize n8 (σ.nd r) j=jj at h1 h2
   rcases hc.br _ h1 _ h2 with hb2|hb2
   ·exact .inl hb2.1
   ·exact .inr ⟨hb2.1,Zd i0 n _ (w++[jj]) _ ⟨⟨hb2.1,hb2.2.1⟩,rfl⟩ (by rw[List.length_append,List.length_singleton];omega)⟩
  ·have hxs:=hm.xf i0 k3
   rw[show(cA σ.mm.nodes r).xs=[] from hxs] at hx
   exact nomatch hx
end
theorem SF.aAQ{w0 w:World}{M:List Nat}{H:List (Nat×Obj)}{A F:Fr}{O:List Ow}{a b c:Ow}{L:List aL}{p:Option Addr}{k:Nat}{T:TypeId}(h:SF w0 M H A F (a::b::⟨p,gR L,k,T,14⟩::c::O) w):L.length<=k:=h.Ij (.tail (.tail .head))
theorem yN{x:XS}(h:x.Ok):uM x.L:=λ v hv=>by
 have hb:=h.nd v hv
 have h1:=hb.main
 have h2:=hb.prev
 have h3:=hb.status
 have h4:=h.lc
 have e1:v.c.main=v.nd.main:=rfl
 have e2:v.c.prev=v.nd.prev:=rfl
 have e3:v.c.status=v.nd.status:=rfl
 exact⟨hb.bm,by omega,by omega,by omega⟩
structure yl(m:Nat)(z:XS)(t:eA)(r:Int)(l:List Int):Prop where
 root:fN (z.L.map aL.c) z.cs t.root=some r
 trav:wB z.L z.cs z.gen t.root=some l
 trb:Nt (z.L.map aL.c) z.cs 12 r
 wf:Vw (z.L.map aL.c) z.cs m 12 r [] 0
 sh:B6 z.L
 mn:yJ z.L z.cs
 pr:dM z.L z.cs z.gen
 hd:∃t0,l=r::t0
 inl:∀j∈l,(cA (z.L.map aL.c) j).kind=2
theorem Mp{m B C E:Nat}{W:Wd}(h:Nz m B C E W){t:eA}(ht:t∈W.ts)(hl:W.z.L.length<=274877906944):∃r l,yl m W.z t r l:=by
 obtain⟨σ,hi⟩:=h.wr.inv
 have i0:=hi.inv
 have e1:σ.mm.nodes=W.z.L.map aL.c:=by rw[hi.mm];rfl
 have e2:σ.mm.cs=W.z.cs:=by rw[hi.mm];rfl
 have e3:σ.mm.gen=W.z.gen:=by rw[hi.mm];rfl
 obtain⟨r,hr,hir⟩:=gj i0 (hi.ts t ht)
 have hig:nJ σ r [] (σ.nd r).gen:=⟨hir,rfl⟩
 obtain⟨v,hv,hbl,_⟩:=Xi i0 12 r [] _ [] hig (by decide) (λ j hj=>nomatch hj)
 have hp:dM W.z.L W.z.cs W.z.gen:=by have:=i0.prop;rw[e2,e3] at this;exact this.to e1.symm
 have h1:=Zd i0 12 r [] _ hig (by decide)
 have h2:=Wn i0 12 r [] _ 0 hig (.inl rfl) (by decide)
 have h3:=xm i0 e1 (yN h.z) h.z.fit hl
 have h4:=tz i0 e1 e2
 have h5:∀j∈v,(cA σ.mm.nodes j).kind=2:=λ j hj=>by
  obtain⟨_,_,hk2,_⟩:=hbl j hj
  exact hk2
 rw[e1,e2] at hr hv h1 h2
 rw[e1] at h5
 rw[List.nil_append] at hv
 obtain⟨t0,ht0⟩:=Rp 12 r [] v hv
 rw[List.nil_append] at ht0
 exact⟨r,v,hr,by rw[qC hp,hr];exact hv,h1,h2,h3,h4,hp,⟨t0,ht0⟩,h5⟩
theorem cx{m:Nat}{z:XS}{t:eA}{r:Int}{l:List Int}(k:yl m z t r l){pn pc:Option Addr}{cn cc:Nat}{w:World}(h:gS w z.L z.cs pn pc)(hT:Go.Ct.Cl w (some ⟨0,0,none⟩) (nG iB))(hr:uM z.L)(hc:z.cs.length<=274877906944)(hcn:z.L.length<=cn)(hm:m<18446744073709551616)(hi:t.root<=9223372036854775807) :
  Calls Tryz.prog 11 #[pW z.L z.cs z.gen pn cn pc cc,.agg ⟨[.int .i64 t.root,.bool t.ro]⟩,.int .u64 ((m:Nat):Int)] w λ e w'=>e=.returned (.int .i64 0)/\St w [] [] w' :=
 (Tj h hT k.sh k.mn k.pr hr hc hcn hm t.root t.ro hi k.trav k.root k.trb).mono λ e w' ⟨q,e1,h1,hw⟩=>⟨by rw[e1,h1.2 k.wf];rfl,hw.done⟩
end

/- The program's shape, part 8: Quiet, where nothing is pending. -/
section
open Go Go.RowKit Go.Ct
def QuI(L:List aL)(cs:List Int)(x:Int):Prop:=∃i c k p:Nat,x=((i+1:Nat):Int)/\i<L.length/\(aA L ((i+1:Nat):Int)).nd.main=((c+1:Nat):Int)/\c<cs.length/\cs.getD c 0=((k+1:Nat):Int)/\k<L.length/\bT (aA L ((k+1:Nat):Int)).c/\(aA L ((k+1:Nat):Int)).nd.prev=((p+1:Nat):Int)/\p<cs.length/\cs.getD p 0=0
section
variable{L:List aL}{cs:List Int}{gen:Int}{pn pc:Option Addr}{cn cc:Nat}{w:World}
set_option maxRecDepth 100000 in
set_option maxHeartbeats 1000000 in
theorem K7(h:gS w L cs pn pc)(hr:uM L)(hl:L.length<=274877906944)(hc:cs.length<=274877906944)(hcn:L.length<=cn){cz:Nat}(ro:Bool)(hcz:cz<cs.length){l:List Int}(hn:wB L cs gen ((cz+1:Nat):Int)=some l)(h0:0<l.length)(hroot:cs.getD cz 0=l.getD 0 0)(hq:∀j,j<l.length->QuI L cs (l.getD j 0)) :
  Calls Tryz.prog 13 #[pW L cs gen pn cn pc cc,.agg ⟨[.int .i64 ((cz+1:Nat):Int),.bool ro]⟩] w λ e w'=>e=.returned (.bool true)/\St w [] [] w':=by
 refine enter Tryz.func13 Tryz.ntmps13 rfl rfl h.start ?_
 simp only[cP]
 simp only[pW]
 refine J0 ?_;refine bP (λ x2=>?_);refine bP (λ x3=>?_);refine J1 ?_;refine kN ?_;refine bN ?_;refine aC (cF (Fc:=λ x:Option Addr×Nat=>[(x.1,aG l)]) (hc:=λ w1 hw=>wX (hw.tH (.inr (.inl (.head _))) (.inr (.inl (.tail _ (.head _)))) (λ f hf=>.inr (.inl (.tail _ (.tail _ hf)))) h.fit) hr hl hc hcn _ ro (by omega) hn)) (λ x13 h13=>?_);refine Ka8 ?_;refine aR ?_;refine aR ?_;refine fK [0,1,2,3,4,5,6,7,8,9,10,11,12,13,14,15,16,17,18,19] ?_;refine aS ?_;refine Hp ?_;refine aS ?_
 (refine aS ?_)
 ((refine lK ?_));refine dt ?_;refine aS ?_
 (refine j3 23 (λ g23=>?_) (λ g23=>?_)<;>(try ((exfalso;omega)))<;>((refine aM ?_)))
 ((refine bO ?_));refine yo ?_;((refine uH ?_));((refine bH (i:=13) (hq:=(cB (lst:=cs) (k:=cz) rf rf fE wn (.bM (.tail .head)) hcz hcz)) (h:=?_)));((refine bH (i:=14) (hq:=(cU (lst:=cs) (q:=cz) rf wn (.bM (.tail .head)) hcz)) (h:=?_)));((refine aS ?_));((refine bH (i:=16) (hq:=(cB (lst:=l) (k:=0) rf rf fE wn (.new .head) h0 h0)) (h:=?_)));((refine bH (i:=17) (hq:=(cU (lst:=l) (q:=0) rf wn (.new .head) h0)) (h:=?_)));((refine Hp ?_));refine iU ?_;refine dW ?_
 refine aZ (λ c35=>?_) (λ c35=>?_)
 ·try (contradiction)
 ·try (first|contradiction|(exfalso;omega))
  refine jM ?_;refine J2 ?_;refine Kb8 ?_
  refine lE [4,8,9,38,39,40,41,42,43,44,45,46,47,48,49,50,51,52,53,54,55,56,57,58,59,60,61,62,63,64,65,66,67,68,69,70,71,72] (λ y:Nat=>[(38,.int .i64 ((y:Nat):Int))]) (λ y=>y<=l.length) (λ _=>_) (λ _=>[(x13.1,aG l)]) (λ _=>_) (λ y=>l.length-y) (0) (Nat.zero_le _) (λ y f hx=>?_) (hw0:=λ w hw=>hw)
  dsimp only[fY,List.map,List.cons_append,List.nil_append]
  refine Kb4 ?_
  refine aZ (λ c39=>?_) (λ c39=>?_)
  ·try (first|contradiction|(exfalso;omega))
   have hyl:y<l.length:=by omega
   obtain⟨i,c,k,p,q1,q2,q3,q4,q5,q6,q7,q8,q9,q10⟩:=hq y hyl
   rw[fO q2] at q3
   rw[fO q6] at q7 q8
   refine Kc9 ?_;refine aE (cB (lst:=l) (k:=y) rf rf fE wn (.new .head) hyl hyl) rfl ?_;refine aE (cU (lst:=l) (q:=y) rf wn (.new .head) hyl) rfl ?_;refine gP ?_;refine eG [(0,[]),(1,[]),(2,[]),(3,[]),(4,[]),(5,[]),(6,[]),(7,[]),(8,[]),(9,[]),(10,[]),(11,[]),(12,[]),(13,[]),(14,[]),(15,[]),(16,[]),(17,[1,3,5,8,10,12,13,15,16]),(18,[])] ?_;refine mB ?_;refine mB ?_;refine mB ?_;refine aS ?_;refine uH ?_;refine bH (i:=8) (hq:=(mV (k:=i) rf (by rw[show((i:Nat):Int)=l.getD y 0-1 by omega];exact rfl) fE fX (.bM .head) q2 q2)) (h:=?_);refine mB ?_;refine uH ?_;refine bH (i:=12) (hq:=(cB (lst:=cs) (k:=c) rf (by rw[show((c:Nat):Int)=(L.getD i aL.zero).nd.main-1 by omega];exact rfl) fE wn (.bM (.tail .head)) q4 q4)) (h:=?_);refine bH (i:=13) (hq:=(cU (lst:=cs) (q:=c) rf wn (.bM (.tail .head)) q4)) (h:=?_);refine uH ?_;refine bH (i:=15) (hq:=(mV (k:=k) rf (by rw[show((k:Nat):Int)=cs.getD c 0-1 by omega];exact rfl) fE fX (.bM .head) q6 q6)) (h:=?_);refine bO ?_;refine fS (hfire:=(λ _=>by((repeat (first|exact aN.nil|refine aN.cons (by first|exact fB|exact eR (hq:=mV (k:=i) rf (by rw[show((i:Nat):Int)=l.getD y 0-1 by omega];exact rfl) fE fX (.bM .head) q2 q2)|exact eR (hq:=cB (lst:=cs) (k:=c) rf (by rw[show((c:Nat):Int)=(L.getD i aL.zero).nd.main-1 by omega];exact rfl) fE wn (.bM (.tail .head)) q4 q4)|exact eR (hq:=mV (k:=k) rf (by rw[show((k:Nat):Int)=cs.getD c 0-1 by omega];exact rfl) fE fX (.bM .head) q6 q6)) ?_));done))) (h:=λ x9=>?_);refine zG ?_;refine kN ?_;refine aC (c0 (V:=.bool) (hc:=λ w1 hw=>Dc (L.getD k aL.zero).nd w1)) (λ x60 h60=>?_);refine C4 ?_
   (refine eF 62 (λ g62=>?_) (λ g62=>?_)<;>refine Ka1 ?_)
   all_goals (refine zI ?_;(first|refine aH ?_|(refine aF ?_;refine pC ?_));(first|refine aH ?_|(refine aF ?_;refine aE (cB (lst:=cs) (k:=p) rf (by rw[show((p:Nat):Int)=(L.getD k aL.zero).nd.prev-1 by omega];exact rfl) fE wn (.bM (.tail .head)) q9 q9) rfl ?_));(first|refine aH ?_|(refine aF ?_;refine aE (cU (lst:=cs) (q:=p) rf wn (.bM (.tail .head)) q9) rfl ?_));refine Ua ?_;refine aI ?_)
   all_goals
   refine aZ (λ c71=>?_) (λ c71=>?_)
   ·all_goals try (contradiction)
    all_goals refine cQ ?_
    all_goals
     refine aQ Tryz.results13 (λ w hw=>?_)
     first
     | exact⟨rfl,hw.done⟩
     | (exfalso;omega)
     | (exfalso;have h12:=h60.2 q7;rw[h12] at g62;exact absurd g62 (by decide))
     | (exfalso;simp_all;done)
   ·try exact nv c71
    all_goals (refine Kc4 ?_)
    all_goals
     refine gC (y+1) ?_ (hw1:=λ w hw=>hw.v6)
     ·(show y+1<=l.length;omega)
  ·try (first|contradiction|(exfalso;omega))
   refine bI rfl ?_;refine cQ ?_
   refine aQ Tryz.results13 (λ w hw=>?_)
   first
   | exact⟨rfl,hw.done⟩
   | (exfalso;omega)
   | (exfalso;simp_all;done)
end
end

/- Shape: in a world at rest every trie is quiet. -/
section
open Go Go.RowKit Go.Ct
section
variable{H:ByteArray->Nat}{σ:Kw}{L:List aL}{cs:List Int}{M:Mm}{ts:List eA}
theorem sf(q:QS H M ts σ)(e:M.nodes=L.map aL.c)(ec:M.cs=cs){x:Int}(hx:(cA (L.map aL.c) x).kind=2):QuI L cs x:=by
 have em:=q.mm
 subst em
 have i0:=q.inv
 subst ec
 have en:∀r,cA σ.mm.nodes r=(aA L r).c:=λ r=>by rw[e];exact cI L r
 have hi:(σ.nd x).kind=2:=by show(cA σ.mm.nodes x).kind=2;rw[e];exact hx
 obtain⟨i,hxi,hil⟩:=vL (L:=L) (r:=x) (by rw[hx];decide)
 obtain⟨a1,a2,a3⟩:=i0.dK hi
 have hm:bT (σ.nd (σ.ce (σ.nd x).main)):=((i0.ce _ a1 a2).main x a3).2.1
 obtain⟨b1,b2,_⟩:=i0.iD hm
 obtain⟨c,hc,hcl,hcv⟩:=yD a1 a2
 obtain⟨k,hk,hkl⟩:=vL (L:=L) (r:=σ.ce (σ.nd x).main) (by rw[<- e];exact Kg hm)
 obtain⟨p,hp,hpl,hpv⟩:=yD b1 b2
 have hst:σ.ce (σ.nd (σ.ce (σ.nd x).main)).prev=0:=q.st x hi
 refine⟨i,c,k,p,hxi,hil,?_,hcl,?_,hkl,?_,?_,hpl,?_⟩
 ·have:(σ.nd x).main=(aA L ((i+1:Nat):Int)).nd.main:=by show(cA σ.mm.nodes x).main=_;rw[en,hxi];rfl
  rw[<- this];exact hc
 ·rw[<- hcv];exact hk
 ·have h9:bT (cA σ.mm.nodes (σ.ce (σ.nd x).main)):=hm
  rw[en,hk] at h9;exact h9
 ·have:(σ.nd (σ.ce (σ.nd x).main)).prev=(aA L ((k+1:Nat):Int)).nd.prev:=by show(cA σ.mm.nodes _).prev=_;rw[en,hk];rfl
  rw[<- this];exact hp
 ·rw[<- hpv];exact hst
theorem X1(q:QS H M ts σ)(ec:M.cs=cs){t:eA}(ht:t∈ts){r:Int}(hr:fN M.nodes M.cs t.root=some r):∃cz:Nat,t.root=((cz+1:Nat):Int)/\cz<cs.length/\cs.getD cz 0=r:=by
 have em:=q.mm
 subst em
 subst ec
 obtain⟨t1,t2,t3⟩:=q.ts t ht
 obtain⟨cz,h1,h2,h3⟩:=yD (cs:=σ.mm.cs) t1 t2
 refine⟨cz,h1,h2,?_⟩
 rw[<- h3]
 have hk:(cA σ.mm.nodes (bV σ.mm.cs t.root)).kind=2:=by
  cases hro:t.ro with
  | false=>rw[hro] at t3;exact q.rt t.root t1 t2 t3
  | true=>rw[hro] at t3;exact((q.inv.ce t.root t1 t2).rort t3).1
 have e9:pF σ.mm.nodes σ.mm.cs t.root=bV σ.mm.cs t.root:=by unfold pF;simp[hk]
 unfold fN at hr
 rw[e9,if_pos hk] at hr
 exact Option.some.inj hr
end
end

/- Shape: Quiet in a world at rest. -/
section
open Go Go.RowKit Go.Ct
theorem bn{H:ByteArray->Nat}{σ:Kw}{ts:List eA}{m:Nat}{z:XS}{t:eA}{r:Int}{l:List Int}(q:QS H z.mm ts σ)(ht:t∈ts)(k:yl m z t r l){pn pc:Option Addr}{cn cc:Nat}{w:World}(h:gS w z.L z.cs pn pc)(hr:uM z.L)(hc:z.cs.length<=274877906944)(hcn:z.L.length<=cn) :
  Calls Tryz.prog 13 #[pW z.L z.cs z.gen pn cn pc cc,.agg ⟨[.int .i64 t.root,.bool t.ro]⟩] w λ e w'=>e=.returned (.bool true)/\St w [] [] w':=by
 obtain⟨cz,h1,h2,h3⟩:=X1 (cs:=z.cs) q rfl ht k.root
 obtain⟨t0,hl⟩:=k.hd
 have ht:=k.trav
 rw[h1] at ht ⊢
 refine K7 h hr k.sh.len hc hcn t.ro h2 ht (by rw[hl];simp) (by rw[hl];exact h3) λ j hj=>?_
 exact sf (M:=z.mm) (L:=z.L) q rfl rfl (k.inl _ (by rw[gdx hj];exact List.getElem_mem hj))
end

/- Shape: the depth of a trie is the greatest level of its places. -/
end Go.Proofs.YtadnboagdhcedaaGreatDoor
namespace Go.Ct
section
def Uj(N:List Nv)(f:Int->Nat):List Int->Nat->Nat
 | [],acc=>acc
 | b::r,acc=>Uj N f r (if(cA N b).kind=2 then max acc (1+f b) else acc)
def Ns(N:List Nv)(cs:List Int):Nat->Int->Nat
 | 0,_=>0
 | n+1,i=>Uj N (Ns N cs n) (cA N ((eK N cs i).getD 0)).xs 0
end

/- The program's shape, part 9: the depth below an I-node. -/
section
open Go Go.RowKit
section
variable{P:Program}{S:List (Nat×Value)}{G:World->Prop}{d:Nat}{ty t t':TypeId}{pos:String}{af:Array Edge}{gd:Option (Nat×Bool)}{x y:Operand}
theorem r8{k:IntKind}{a b:Int}(hx:ev S x=.int k a)(hy:ev S y=.int k b):aJ P S G ⟨some d,.call {callee:=.builtin .max,args := #[x,y],argTypes := #[t,t']},ty,pos,af,gd⟩ (.int k (max a b)):=⟨λ w _=>by
 have e:(if a<b then b else a)=max a b:=by split<;>omega
 simp[execOp,resolve,invoke,builtin,Builtin.max_,Builtin.max2,hx,hy,e]⟩
end
theorem W6{N:List Nv}{f:Int->Nat}{n:Nat}(hf:∀b,f b<=n):∀(xs:List Int) (acc:Nat),acc<=n+1->Uj N f xs acc<=n+1
 | [],acc,h=>h
 | b::r,acc,h=>by
  simp only[Uj]
  have:=hf b
  exact W6 hf r _ (by split<;>omega)
theorem Zb{N:List Nv}{cs:List Int}:∀(n:Nat) (i:Int),Ns N cs n i<=n
 | 0,_=>Nat.le_refl _
 | n+1,i=>W6 (λ b=>Zb n b) _ 0 (Nat.zero_le _)
theorem ay{N:List Nv}{f:Int->Nat}{xs:List Int}{j acc:Nat}(hj:j<xs.length):Uj N f (xs.drop j) acc=Uj N f (xs.drop (j+1)) (if(cA N (xs.getD j 0)).kind=2 then max acc (1+f (xs.getD j 0)) else acc):=by
 rw[List.drop_eq_getElem_cons hj,show xs.getD j 0=xs[j] by simp[List.getD,hj]]
 rfl
end
end Go.Ct
namespace Go.Proofs.YtadnboagdhcedaaGreatDoor
section
open Go Go.RowKit Go.Ct
section
variable{L:List aL}{cs:List Int}{gen:Int}{m:Nat}{pn pc:Option Addr}{cn cc:Nat}
def DpC(L:List aL)(cs:List Int)(gen:Int)(m:Nat)(pn:Option Addr)(cn:Nat)(pc:Option Addr)(cc:Nat)(n:Nat):Prop :=
 ∀{w:World} {D:List Nat} {bk:Nat} {i R:Int},SF w D [(bk,jU L cs gen m pn cn pc cc)] (vD L cs pn pc) [] [] w->eK (L.map aL.c) cs i=some R->Nt (L.map aL.c) cs n i ->
  Calls Tryz.prog 41 #[.pointer (some ⟨bk,0,none⟩),(aA L i).nd.v] w λ e w'=>∃q:Unit,e=.returned (.int .i64 ((Ns (L.map aL.c) cs n i:Nat):Int))/\True/\SF w D [(bk,jU L cs gen m pn cn pc cc)] [] [] [] w'
set_option maxRecDepth 100000 in
set_option maxHeartbeats 1000000 in
theorem dx(ok:B6 L)(hM:yJ L cs)(hc:cs.length<=274877906944){n:Nat}(h12:n<=12)(ih:DpC L cs gen m pn cn pc cc n):DpC L cs gen m pn cn pc cc (n+1):=by
  intro w D bk i R hs hb ht
  obtain⟨r,hR,hrl,hmo,hmk⟩:=hM i R hb
  obtain⟨V,hVe⟩:∃V,V=aA L ((r+1:Nat):Int):=⟨_,rfl⟩
  have hV:V∈L:=by rw[hVe,fO hrl];exact eV hrl
  obtain⟨R',hb',hbr⟩:=ht
  rw[hb] at hb'
  cases hb'
  rw[cI L R,hR,<- hVe] at hbr
  have hl:=ok.len
  have hf:=ok.fit V hV
  have hn:=hf.brN
  have hbs:=hf.brS
  have hmem:=I6 (cs:=cs) (pn:=pn) (pc:=pc) hV
  obtain⟨dpf,hfe⟩:∃dpf,dpf=Ns (L.map aL.c) cs n:=⟨_,rfl⟩
  have hfl:∀b,dpf b<=n:=λ b=>by rw[hfe];exact Zb n b
  have hdp:Ns (L.map aL.c) cs (n+1) i=Uj (L.map aL.c) dpf V.xs 0:=by
    simp only[Ns,hb,Option.getD_some]
    rw[cI L R,hR,<- hVe,<- hfe]
    rfl
  rw[hdp]
  clear hdp
  refine enter Tryz.func41 Tryz.ntmps41 rfl rfl hs ?_
  simp only[cP]
  refine J0 ?_;refine bP (λ x3=>?_);refine J1 ?_;refine Ka7 ?_;refine bN ?_;refine aC (cM (V:=λ _:Unit=>V.nd.v) (hs:=[(bk,jU L cs gen m pn cn pc cc)]) (os:=[]) (hs':=λ _=>[(bk,jU L cs gen m pn cn pc cc)]) (os':=λ _=>[]) (Fc:=λ _=>[]) (A0:=vD L cs pn pc) (hA:=bQ.of λ f hf=>.inr (.inl hf)) (hc:=λ w1 hw=>by rw[hVe];exact yQ hw hmo hrl hl hc)) (λ x11 h11=>?_);refine cG ?_;refine Kb8 ?_
  refine eY [5,7,8,14,15,16,17,18,19,20,21,22,23,24,25,26,27,28,29,30] (λ y:Nat×Nat=>[(14,.int .i64 ((y.1:Nat):Int)),(5,.int .i64 ((y.2:Nat):Int))]) (λ y=>y.1<=V.xs.length/\y.2<=n+1/\Uj (L.map aL.c) dpf (V.xs.drop y.1) y.2=Uj (L.map aL.c) dpf V.xs 0) (λ y=>V.xs.length-y.1) ((0,0)) (⟨Nat.zero_le _,Nat.zero_le _,by rw[List.drop_zero]⟩) ?_ (λ y f hx=>?_)
  · repeat (first|exact bB _|refine aY (by exact rfl) ?_)
  dsimp only[fY,List.map,List.cons_append,List.nil_append]
  refine Kb4 ?_
  refine aZ (λ c15=>?_) (λ c15=>?_)
  · try (first|contradiction|(exfalso;omega))
    have hyl:y.1<V.xs.length:=by omega
    obtain⟨k,hk,hkl,hkm⟩:=ok.at hV (j:=y.1) hyl
    have hbb:=hbr (V.xs.getD y.1 0) (by show _∈V.xs;rw[fM,List.getElem?_eq_getElem hyl];exact List.getElem_mem _)
    have hdr:=ay (N:=L.map aL.c) (f:=dpf) (acc:=y.2) hyl
    rw[cI L,hk] at hbb
    rw[cI L,hk] at hdr
    have hx2:=hx.2.1
    have hx3:=hx.2.2
    have hfk:=hfl ((k+1:Nat):Int)
    refine Kc9 ?_;refine aE (cB (lst:=V.xs) (k:=y.1) rf rf fE wn (.bM (vQ.kX hmem)) (by omega) (by omega)) rfl ?_;refine aE (cU (lst:=V.xs) (q:=y.1) rf wn (.bM (vQ.kX hmem)) (by omega)) rfl ?_;refine sV ?_;refine aC (cM (V:=λ _:Unit=>(aA L ((k+1:Nat):Int)).nd.v) (hs:=[(bk,jU L cs gen m pn cn pc cc)]) (os:=[]) (hs':=λ _=>[(bk,jU L cs gen m pn cn pc cc)]) (os':=λ _=>[]) (Fc:=λ _=>[]) (A0:=vD L cs pn pc) (hA:=bQ.of λ f hf=>.inr (.inl hf)) (hc:=λ w1 hw=>by rw[hk];exact jN hw hkl hl)) (λ x20 h20=>?_);refine aP (λ x8=>?_);refine J5 ?_;refine gU ?_;refine sX ?_
    refine aZ (λ c23=>?_) (λ c23=>?_)
    · try (first|contradiction|(exfalso;omega))
      have ht2:Nt (L.map aL.c) cs n ((k+1:Nat):Int):=(hbb.resolve_left (λ h=>by have h':(aA L ((k+1:Nat):Int)).nd.kind=4:=h;omega)).2
      obtain⟨R2,hR2⟩:∃R2,eK (L.map aL.c) cs ((k+1:Nat):Int)=some R2:=by
       cases n with
       | zero=>exact ht2.elim
       | succ n=>obtain⟨R2,h,_⟩:=ht2;exact⟨R2,h⟩
      rw[if_pos (show(aA L ((k+1:Nat):Int)).c.kind=2 from c23)] at hdr
      refine Kq ?_;refine bN ?_;refine aC (cM (V:=λ _:Unit=>.int .i64 ((dpf ((k+1:Nat):Int):Nat):Int)) (hs:=[(bk,jU L cs gen m pn cn pc cc)]) (os:=[]) (hs':=λ _=>[(bk,jU L cs gen m pn cn pc cc)]) (os':=λ _=>[]) (Fc:=λ _=>[]) (A0:=vD L cs pn pc) (hA:=bQ.of λ f hf=>.inr (.inl hf)) (hc:=λ w1 hw=>by rw[hfe];exact ih hw hR2 ht2)) (λ x27 h27=>?_);refine Eu ?_;(refine aU (fG (r8 rf rf)) (λ x29=>?_));refine J1 ?_;refine eT ?_;refine Ka5 ?_
      refine dO ((by exact(y.1+1,(λ _:Unit=>max y.2 (1+dpf ((k+1:Nat):Int))) x27))) ?_ ?_ ?_
      · omega
      · repeat' (first|exact bB _|refine aY ?_ ?_)
        all_goals (first|exact rfl|(conv=>{lhs;whnf};congr 1;dsimp only;omega))
      · exact⟨by show y.1+1<=_;omega,by first|(show y.2<=_;omega)|(show max _ _<=_;omega),by show Uj _ _ _ _=_;rw[<- hdr];exact hx3⟩
    · try (first|contradiction|(exfalso;omega))
      rw[if_neg (show ¬(aA L ((k+1:Nat):Int)).c.kind=2 from c23)] at hdr
      refine Kc4 ?_
      refine dO ((by exact(y.1+1,y.2))) ?_ ?_ ?_
      · omega
      · repeat' (first|exact bB _|refine aY ?_ ?_)
        all_goals (exact rfl)
      · exact⟨by show y.1+1<=_;omega,by first|(show y.2<=_;omega)|(show max _ _<=_;omega),by show Uj _ _ _ _=_;rw[<- hdr];exact hx3⟩
  · try (first|contradiction|(exfalso;omega))
    refine bI rfl ?_;refine Ka6 ?_
    refine aQ Tryz.results41 (λ w hw=>?_)
    have hy:y.1=V.xs.length:=by omega
    have h9:=hx.2.2
    rw[hy,List.drop_length] at h9
    exact⟨(),by rw[<- h9];rfl,trivial,hw.aT⟩
end
end

/- The program's shape, part 10: Depth of a trie. -/
section
open Go Go.RowKit Go.Ct
section
variable{L:List aL}{cs:List Int}{gen:Int}{m:Nat}{pn pc:Option Addr}{cn cc:Nat}{w:World}
theorem Xr(ok:B6 L)(hM:yJ L cs)(hc:cs.length<=274877906944):∀n,n<=13->DpC L cs gen m pn cn pc cc n
 | 0,_=>λ _ _ ht=>ht.elim
 | n+1,h=>dx ok hM hc (by omega) (Xr ok hM hc n (by omega))
set_option maxRecDepth 100000 in
set_option maxHeartbeats 1000000 in
theorem E6(h:gS w L cs pn pc)(hT:Go.Ct.Cl w (some ⟨0,0,none⟩) (nG iB))(ok:B6 L)(hM:yJ L cs)(hp:dM L cs gen)(hr:uM L)(hc:cs.length<=274877906944)(hcn:L.length<=cn)(c:Int)(ro:Bool)(hi:c<=9223372036854775807){l:List Int}(hn:wB L cs gen c=some l){r:Int}(hro:fN (L.map aL.c) cs c=some r)(ht:Nt (L.map aL.c) cs 12 r) :
  Calls Tryz.prog 14 #[pW L cs gen pn cn pc cc,.agg ⟨[.int .i64 c,.bool ro]⟩] w λ e w'=>e=.returned (.int .i64 ((Ns (L.map aL.c) cs 12 r:Nat):Int))/\St w [] [] w':=by
 have hl:=ok.len
 obtain⟨R,hR⟩:∃R,eK (L.map aL.c) cs r=some R:=by obtain⟨R,h1,_⟩:=ht;exact⟨R,h1⟩
 obtain⟨k,hk,hkl⟩:∃k:Nat,r=((k+1:Nat):Int)/\k<L.length:=by
  have h2:(cA (L.map aL.c) r).kind=2:=by
   unfold eK at hR
   split at hR
   ·rename_i h1;exact h1.1
   ·cases hR
  have:=dD (N:=L.map aL.c) (i:=r) (by omega)
  rw[List.length_map] at this
  exact⟨(r-1).toNat,by omega,by omega⟩
 obtain⟨dd,hdd⟩:∃dd,dd=Ns (L.map aL.c) cs 12 r:=⟨_,rfl⟩
 have dp:DpC L cs gen 0 pn cn pc cc 12:=Xr ok hM hc 12 (by decide)
 rw[<- hdd]
 subst hk
 refine enter Tryz.func14 Tryz.ntmps14 rfl rfl (So h hT) ?_
 simp only[cP]
 simp only[pW]
 refine J0 ?_;refine bP (λ x2=>?_);refine bP (λ x3=>?_);refine gP ?_;refine kN ?_;refine bN ?_;refine aC (cF (Fc:=λ x:Option Addr×Nat=>[(x.1,aG l)]) (hc:=λ w1 hw=>wX (hw.tH (.inr (.inl (.head _))) (.inr (.inl (.tail _ (.head _)))) (λ f hf=>.inr (.inl (.tail _ (.tail _ (.tail _ hf))))) h.fit) hr hl hc hcn c ro hi hn)) (λ x13 h13=>?_);refine Ka8 ?_;refine J2 ?_;refine Kc0 ?_
 refine aZ (λ c17=>?_) (λ c17=>?_)
 ·exact nv c17
 ·try (first|contradiction|(exfalso;omega))
  refine bA ?_;refine kN ?_;refine bN ?_;refine aU (cV (v:=.tuple #[.int .i64 ((k+1:Nat):Int),.bool true]) (hc:=λ w1 hw=>by have h9:=Gs (gen:=gen) (cc:=cc) (hw.tH (.inr (.inl (.head _))) (.inr (.inl (.tail _ (.head _)))) (λ f hf=>.inr (.inl (.tail _ (.tail _ (.tail _ hf))))) h.fit) hr hl hc hcn c ro hi;rw[show Nh L cs gen (fN (L.map aL.c) cs c)=some ((k+1:Nat):Int) by unfold Nh;rw[if_pos hp,hro]] at h9;exact h9)) (λ x21=>?_);refine Kb9 ?_;refine mS ?_
  refine aZ (λ c25=>?_) (λ c25=>?_)
  ·exact nv c25
  ·try (first|contradiction|(exfalso;omega))
   refine bA ?_;refine kN ?_;refine bD ?_;refine bP (λ x28=>?_);refine sV ?_;refine aB ?_;refine aC (cM (V:=λ _:Unit=>(aA L ((k+1:Nat):Int)).nd.v) (hs:=[(x28,jU L cs gen 0 pn cn pc cc)]) (os:=[]) (hs':=λ _=>[(x28,jU L cs gen 0 pn cn pc cc)]) (os':=λ _=>[]) (Fc:=λ _=>[]) (A0:=vD L cs pn pc) (hA:=bQ.of λ f hf=>.inr (.inl hf)) (hc:=λ w1 hw=>jN hw hkl hl)) (λ x32 h32=>?_);refine aC (cM (V:=λ _:Unit=>.int .i64 ((dd:Nat):Int)) (hs:=[(x28,jU L cs gen 0 pn cn pc cc)]) (os:=[]) (hs':=λ _=>[(x28,jU L cs gen 0 pn cn pc cc)]) (os':=λ _=>[]) (Fc:=λ _=>[]) (A0:=vD L cs pn pc) (hA:=bQ.of λ f hf=>.inr (.inl hf)) (hc:=λ w1 hw=>by rw[hdd];exact dp hw hR ht)) (λ x33 h33=>?_);refine J1 ?_
   refine aQ Tryz.results14 (λ w hw=>?_)
   first
   | exact⟨rfl,hw.done⟩
   | (exfalso;simp_all;done)
end
end

/- Shape: a call alone. -/
section
open Go Go.RowKit Go.Ct
abbrev ka:ByteArray:=⟨#[97]⟩
abbrev kb:ByteArray:=⟨#[98]⟩
abbrev kc:ByteArray:=⟨#[99]⟩
def Vx(kind:Int)(key:ByteArray)(v:Int)(m n:Nat)(s:Mm):Tr×Mm:=Ia (Go.Ct.tG (T0 (kG kind key v m) m) s) n
end

/- Literals of lists that may be changed. -/
end Go.Proofs.YtadnboagdhcedaaGreatDoor
namespace Go.Ct
section
open Go Go.RowKit
section
variable{P:Program}{S:List (Nat×Value)}{G:World->Prop}{d:Nat}{ty t t' e:TypeId}{pos:String}{af:Array Edge}{gd:Option (Nat×Bool)}{x y:Operand}{w0 w:World}{M:List Nat}{H:List (Nat×Obj)}{A F:Fr}{O:List Ow}{a:Option Addr}
theorem SF.aAC{b c sz:Nat}{cs:List Value}{T:TypeId}(h:SF w0 M ((b,.cells ⟨cs⟩ T (0,0))::H) A F O w)(hl:cs.length=c*sz):SF w0 M H A F (⟨some ⟨b,0,none⟩,cs,c,T,sz⟩::O) w:=by
 have hp:(Ks H (⟨some ⟨b,0,none⟩,cs,c,T,sz⟩::O)).Perm (Ks ((b,.cells ⟨cs⟩ T (0,0))::H) O):=by
  unfold Ks
  simp only[List.flatMap_cons,gI,List.map_cons,List.cons_append,List.nil_append]
  exact List.perm_middle
 have hb:=h.st.has (b,.cells ⟨cs⟩ T (0,0)) (List.mem_cons_self ..)
 have hn:=h.st.new (b,.cells ⟨cs⟩ T (0,0)) (List.mem_cons_self ..)
 refine⟨h.st.sub (List.sublist_cons_self ..),λ f hf=>⟨(h.bM f hf).1,λ hc hm=>(h.bM f hf).2 hc (hp.mem_iff.1 hm)⟩,λ f hf=>⟨(h.new f hf).1,λ hc=>⟨λ hm=>((h.new f hf).2 hc).1 (hp.mem_iff.1 hm),((h.new f hf).2 hc).2⟩⟩,λ o ho=>?_,hp.nodup_iff.2 h.dis⟩
 rcases List.mem_cons.1 ho with rfl|ho
 ·refine⟨.inr ⟨b,[],rfl,by simpa using hb,by simpa using hl⟩,λ k hk=>?_⟩
  simp only[gI,List.mem_singleton] at hk
  subst hk
  exact hn.symm
 ·exact h.own o ho
theorem Y3{len:Nat}{parts:List (Nat×Operand)}{ps:List (Nat×Value)}{zc cs:List Value}{sz:Nat}(he:dE P t e zc)(hv:iM S parts=ps)(hlen:ps.length=len)(hidx:ps.map Prod.fst=List.range' 0 ps.length)(h1:(ps.all λ p=>Nat.beq (lV p.2).length zc.length)=true)
  (hpos:(Nat.blt 0 len&&Nat.blt 0 zc.length&&Nat.ble (len*zc.length) 16777216)=true) (hcs:Az ps=cs) (hsz:cs.length=len*sz) :
  bJ P S (SF w0 M H A F O) ⟨some d,.buildSlice t len ⟨parts⟩,ty,pos,af,gd⟩ Nat (λ b=>.slice (some ⟨b,0,none⟩) len len) (λ b=>SF w0 M H A F (⟨some ⟨b,0,none⟩,cs,len,e,sz⟩::O)) :=
 (sW λ _=>cC he hv hlen hidx h1 hpos hcs).conv λ b w h=>h.aAC hsz
end
end

end Go.Ct

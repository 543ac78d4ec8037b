/- The program's shape, part 8: Quiet, where nothing is pending. -/
import Derived.Test.YtadnboagdhcedaaGreatDoorGQw1
import Derived.Test.YtadnboagdhcedaaGreatDoorGKw8
import Derived.Test.YtadnboagdhcedaaGreatDoorGSh9
import Derived.Test.YtadnboagdhcedaaGreatDoorGVx0
import Derived.Test.YtadnboagdhcedaaGreatDoorGSh24
import Derived.Test.YtadnboagdhcedaaGreatDoorGJoin
import Derived.KernelRfl
import Derived.Test.YtadnboagdhcedaaGreatDoorGSh14
import Derived.Test.YtadnboagdhcedaaGreatDoorGPc2
import Derived.Test.YtadnboagdhcedaaGreatDoorGAr7
import Derived.Test.YtadnboagdhcedaaGreatDoorGEx24

set_option linter.unusedSimpArgs false
set_option linter.unusedVariables false
namespace Go.Proofs.YtadnboagdhcedaaGreatDoor
section
open Go Go.RowKit Go.Ct
def QuI(L:List aK)(cs:List Int)(x:Int):Prop:=∃i c k p:Nat,x=((i+1:Nat):Int)/\i<L.length/\(aA L ((i+1:Nat):Int)).nd.main=((c+1:Nat):Int)/\c<cs.length/\cs.getD c 0=((k+1:Nat):Int)/\k<L.length/\bU (aA L ((k+1:Nat):Int)).c/\(aA L ((k+1:Nat):Int)).nd.prev=((p+1:Nat):Int)/\p<cs.length/\cs.getD p 0=0
section
variable{L:List aK}{cs:List Int}{gen:Int}{pn pc:Option Addr}{cn cc:Nat}{w:World}
set_option maxRecDepth 100000 in
set_option maxHeartbeats 1000000 in
theorem Vp(h:hY w L cs pn pc)(hr:vV L)(hl:L.length<=274877906944)(hc:cs.length<=274877906944)(hcn:L.length<=cn){cz:Nat}(ro:Bool)(hcz:cz<cs.length){l:List Int}(hn:vD L cs gen ((cz+1:Nat):Int)=some l)(h0:0<l.length)(hroot:cs.getD cz 0=l.getD 0 0)(hq:∀j,j<l.length->QuI L cs (l.getD j 0)) :
  Calls Tryz.prog 13 #[rF L cs gen pn cn pc cc,.agg ⟨[.int .i64 ((cz+1:Nat):Int),.bool ro]⟩] w λ e w'=>e=.returned (.bool true)/\St w [] [] w':=by
 refine enter Tryz.func13 Tryz.ntmps13 rfl rfl h.start ?_
 simp only[cR]
 simp only[rF]
 refine J0 ?_;refine bP (λ x2=>?_);refine bP (λ x3=>?_);refine J1 ?_;refine kU ?_;refine bK ?_;refine aC (cF (Fc:=λ x:Option Addr×Nat=>[(x.1,aG l)]) (hc:=λ w1 hw=>wB (hw.vS (.inr (.inl (.head _))) (.inr (.inl (.tail _ (.head _)))) (λ f hf=>.inr (.inl (.tail _ (.tail _ hf)))) h.fit) hr hl hc hcn _ ro (by omega) hn)) (λ x13 h13=>?_);refine Ka8 ?_;refine aS ?_;refine aS ?_;refine gB [0,1,2,3,4,5,6,7,8,9,10,11,12,13,14,15,16,17,18,19] ?_;refine aT ?_;refine Cz ?_;refine aT ?_
 (refine aT ?_)
 ((refine oI ?_));refine jy ?_;refine aT ?_
 (refine ey 23 (λ g23=>?_) (λ g23=>?_)<;>(try ((exfalso;omega)))<;>((refine aQ ?_)))
 ((refine bN ?_));refine tm ?_;((refine vG ?_));((refine bM (i:=13) (hq:=(bX (lst:=cs) (k:=cz) rf rf fK wn (.bL (.tail .head)) hcz hcz)) (h:=?_)));((refine bM (i:=14) (hq:=(cP (lst:=cs) (q:=cz) rf wn (.bL (.tail .head)) hcz)) (h:=?_)));((refine aT ?_));((refine bM (i:=16) (hq:=(bX (lst:=l) (k:=0) rf rf fK wn (.new .head) h0 h0)) (h:=?_)));((refine bM (i:=17) (hq:=(cP (lst:=l) (q:=0) rf wn (.new .head) h0)) (h:=?_)));((refine Cz ?_));refine iZ ?_;refine dV ?_
 refine aZ (λ c35=>?_) (λ c35=>?_)
 ·try (contradiction)
 ·try (first|contradiction|(exfalso;omega))
  refine jD ?_;refine J2 ?_;refine Kb8 ?_
  refine mP [4,8,9,38,39,40,41,42,43,44,45,46,47,48,49,50,51,52,53,54,55,56,57,58,59,60,61,62,63,64,65,66,67,68,69,70,71,72] (λ y:Nat=>[(38,.int .i64 ((y:Nat):Int))]) (λ y=>y<=l.length) (λ _=>_) (λ _=>[(x13.1,aG l)]) (λ _=>_) (λ y=>l.length-y) (0) (Nat.zero_le _) (λ y f hx=>?_) (hw0:=λ w hw=>hw)
  dsimp only[gG,List.map,List.cons_append,List.nil_append]
  refine Kb4 ?_
  refine aZ (λ c39=>?_) (λ c39=>?_)
  ·try (first|contradiction|(exfalso;omega))
   have hyl:y<l.length:=by omega
   obtain⟨i,c,k,p,q1,q2,q3,q4,q5,q6,q7,q8,q9,q10⟩:=hq y hyl
   rw[fH q2] at q3
   rw[fH q6] at q7 q8
   refine oW ?_;refine J0 ?_;refine aE (bX (lst:=l) (k:=y) rf rf fK wn (.new .head) hyl hyl) rfl ?_;refine aE (cP (lst:=l) (q:=y) rf wn (.new .head) hyl) rfl ?_;refine gK ?_;refine eD [(0,[]),(1,[]),(2,[]),(3,[]),(4,[]),(5,[]),(6,[]),(7,[]),(8,[]),(9,[]),(10,[]),(11,[]),(12,[]),(13,[]),(14,[]),(15,[]),(16,[]),(17,[1,3,5,8,10,12,13,15,16]),(18,[])] ?_;refine lR ?_;refine lR ?_;refine lR ?_;refine aT ?_;refine vG ?_;refine bM (i:=8) (hq:=(lV (k:=i) rf (by rw[show((i:Nat):Int)=l.getD y 0-1 by omega];exact rfl) fK gX (.bL .head) q2 q2)) (h:=?_);refine lR ?_;refine vG ?_;refine bM (i:=12) (hq:=(bX (lst:=cs) (k:=c) rf (by rw[show((c:Nat):Int)=(L.getD i aK.zero).nd.main-1 by omega];exact rfl) fK wn (.bL (.tail .head)) q4 q4)) (h:=?_);refine bM (i:=13) (hq:=(cP (lst:=cs) (q:=c) rf wn (.bL (.tail .head)) q4)) (h:=?_);refine vG ?_;refine bM (i:=15) (hq:=(lV (k:=k) rf (by rw[show((k:Nat):Int)=cs.getD c 0-1 by omega];exact rfl) fK gX (.bL .head) q6 q6)) (h:=?_);refine bN ?_;refine fS (hfire:=(λ _=>by((repeat (first|exact aM.nil|refine aM.cons (by first|exact eT|exact eI (hq:=lV (k:=i) rf (by rw[show((i:Nat):Int)=l.getD y 0-1 by omega];exact rfl) fK gX (.bL .head) q2 q2)|exact eI (hq:=bX (lst:=cs) (k:=c) rf (by rw[show((c:Nat):Int)=(L.getD i aK.zero).nd.main-1 by omega];exact rfl) fK wn (.bL (.tail .head)) q4 q4)|exact eI (hq:=lV (k:=k) rf (by rw[show((k:Nat):Int)=cs.getD c 0-1 by omega];exact rfl) fK gX (.bL .head) q6 q6)) ?_));done))) (h:=λ x9=>?_);refine Ei ?_;refine kU ?_;refine aC (c0 (V:=.bool) (hc:=λ w1 hw=>Du (L.getD k aK.zero).nd w1)) (λ x60 h60=>?_);refine El ?_
   (refine eR 62 (λ g62=>?_) (λ g62=>?_)<;>refine Ka0 ?_)
   all_goals (refine yC ?_;(first|refine aH ?_|(refine aF ?_;refine oP ?_));(first|refine aH ?_|(refine aF ?_;refine aE (bX (lst:=cs) (k:=p) rf (by rw[show((p:Nat):Int)=(L.getD k aK.zero).nd.prev-1 by omega];exact rfl) fK wn (.bL (.tail .head)) q9 q9) rfl ?_));(first|refine aH ?_|(refine aF ?_;refine aE (cP (lst:=cs) (q:=p) rf wn (.bL (.tail .head)) q9) rfl ?_));refine S8 ?_;refine aI ?_)
   all_goals
   refine aZ (λ c71=>?_) (λ c71=>?_)
   ·all_goals try (contradiction)
    all_goals refine cN ?_
    all_goals
     refine aN Tryz.results13 (λ w hw=>?_)
     first
     | exact⟨rfl,hw.done⟩
     | (exfalso;omega)
     | (exfalso;have h12:=h60.2 q7;rw[h12] at g62;exact absurd g62 (by decide))
     | (exfalso;simp_all;done)
   ·try exact nv c71
    all_goals (refine Kc3 ?_)
    all_goals
     refine gI (y+1) ?_ (hw1:=λ w hw=>hw.v1)
     ·(show y+1<=l.length;omega)
  ·try (first|contradiction|(exfalso;omega))
   refine bG rfl ?_;refine cN ?_
   refine aN Tryz.results13 (λ w hw=>?_)
   first
   | exact⟨rfl,hw.done⟩
   | (exfalso;omega)
   | (exfalso;simp_all;done)
end
end

/- Shape: in a world at rest every trie is quiet. -/
section
open Go Go.RowKit Go.Ct
section
variable{H:ByteArray->Nat}{σ:Kw}{L:List aK}{cs:List Int}{M:Mm}{ts:List eQ}
end
end

/- Shape: Quiet in a world at rest. -/
section
open Go Go.RowKit Go.Ct
end

/- Shape: the depth of a trie is the greatest level of its places. -/
end Go.Proofs.YtadnboagdhcedaaGreatDoor
namespace Go.Ct
section
def Y3(N:List Nv)(f:Int->Nat):List Int->Nat->Nat
 | [],acc=>acc
 | b::r,acc=>Y3 N f r (if(cD N b).kind=2 then max acc (1+f b) else acc)
def M9(N:List Nv)(cs:List Int):Nat->Int->Nat
 | 0,_=>0
 | n+1,i=>Y3 N (M9 N cs n) (cD N ((eA N cs i).getD 0)).xs 0
end

/- The program's shape, part 9: the depth below an I-node. -/
section
open Go Go.RowKit
section
variable{P:Program}{S:List (Nat×Value)}{G:World->Prop}{d:Nat}{ty t t':TypeId}{pos:String}{af:Array Edge}{gd:Option (Nat×Bool)}{x y:Operand}
theorem o6{k:IntKind}{a b:Int}(hx:ev S x=.int k a)(hy:ev S y=.int k b):aJ P S G ⟨some d,.call {callee:=.builtin .max,args := #[x,y],argTypes := #[t,t']},ty,pos,af,gd⟩ (.int k (max a b)):=⟨λ w _=>by
 have e:(if a<b then b else a)=max a b:=by split<;>omega
 simp[execOp,resolve,invoke,builtin,Builtin.max_,Builtin.max2,hx,hy,e]⟩
end
theorem Wy{N:List Nv}{f:Int->Nat}{n:Nat}(hf:∀b,f b<=n):∀(xs:List Int) (acc:Nat),acc<=n+1->Y3 N f xs acc<=n+1
 | [],acc,h=>h
 | b::r,acc,h=>by
  simp only[Y3]
  have:=hf b
  exact Wy hf r _ (by split<;>omega)
theorem Y2{N:List Nv}{cs:List Int}:∀(n:Nat) (i:Int),M9 N cs n i<=n
 | 0,_=>Nat.le_refl _
 | n+1,i=>Wy (λ b=>Y2 n b) _ 0 (Nat.zero_le _)
theorem Zr{N:List Nv}{f:Int->Nat}{xs:List Int}{j acc:Nat}(hj:j<xs.length):Y3 N f (xs.drop j) acc=Y3 N f (xs.drop (j+1)) (if(cD N (xs.getD j 0)).kind=2 then max acc (1+f (xs.getD j 0)) else acc):=by
 rw[List.drop_eq_getElem_cons hj,show xs.getD j 0=xs[j] by simp[List.getD,hj]]
 rfl
end
end Go.Ct
namespace Go.Proofs.YtadnboagdhcedaaGreatDoor
section
open Go Go.RowKit Go.Ct
section
variable{L:List aK}{cs:List Int}{gen:Int}{m:Nat}{pn pc:Option Addr}{cn cc:Nat}
def xr(L:List aK)(cs:List Int)(gen:Int)(m:Nat)(pn:Option Addr)(cn:Nat)(pc:Option Addr)(cc:Nat)(n:Nat):Prop :=
 ∀{w:World} {D:List Nat} {bk:Nat} {i R:Int},SF w D [(bk,jN L cs gen m pn cn pc cc)] (uK L cs pn pc) [] [] w->eA (L.map aK.c) cs i=some R->Ss (L.map aK.c) cs n i ->
  Calls Tryz.prog 41 #[.pointer (some ⟨bk,0,none⟩),(aA L i).nd.v] w λ e w'=>∃q:Unit,e=.returned (.int .i64 ((M9 (L.map aK.c) cs n i:Nat):Int))/\True/\SF w D [(bk,jN L cs gen m pn cn pc cc)] [] [] [] w'
set_option maxRecDepth 100000 in
set_option maxHeartbeats 1000000 in
theorem cw(ok:A6 L)(hM:xY L cs)(hc:cs.length<=274877906944){n:Nat}(h12:n<=12)(ih:xr L cs gen m pn cn pc cc n):xr L cs gen m pn cn pc cc (n+1):=by
  intro w D bk i R hs hb ht
  obtain⟨r,hR,hrl,hmo,hmk⟩:=hM i R hb
  obtain⟨V,hVe⟩:∃V,V=aA L ((r+1:Nat):Int):=⟨_,rfl⟩
  have hV:V∈L:=by rw[hVe,fH hrl];exact eN hrl
  obtain⟨R',hb',hbr⟩:=ht
  rw[hb] at hb'
  cases hb'
  rw[cH L R,hR,<- hVe] at hbr
  have hl:=ok.len
  have hf:=ok.fit V hV
  have hn:=hf.brN
  have hbs:=hf.brS
  have hmem:=I3 (cs:=cs) (pn:=pn) (pc:=pc) hV
  obtain⟨dpf,hfe⟩:∃dpf,dpf=M9 (L.map aK.c) cs n:=⟨_,rfl⟩
  have hfl:∀b,dpf b<=n:=λ b=>by rw[hfe];exact Y2 n b
  have hdp:M9 (L.map aK.c) cs (n+1) i=Y3 (L.map aK.c) dpf V.xs 0:=by
    simp only[M9,hb,Option.getD_some]
    rw[cH L R,hR,<- hVe,<- hfe]
    rfl
  rw[hdp]
  clear hdp
  refine enter Tryz.func41 Tryz.ntmps41 rfl rfl hs ?_
  simp only[cR]
  refine J0 ?_;refine bP (λ x3=>?_);refine J1 ?_;refine Ka7 ?_;refine bK ?_;refine aC (cM (V:=λ _:Unit=>V.nd.v) (hs:=[(bk,jN L cs gen m pn cn pc cc)]) (os:=[]) (hs':=λ _=>[(bk,jN L cs gen m pn cn pc cc)]) (os':=λ _=>[]) (Fc:=λ _=>[]) (A0:=uK L cs pn pc) (hA:=bT.of λ f hf=>.inr (.inl hf)) (hc:=λ w1 hw=>by rw[hVe];exact xB hw hmo hrl hl hc)) (λ x11 h11=>?_);refine cE ?_;refine Kb8 ?_
  refine eS [5,7,8,14,15,16,17,18,19,20,21,22,23,24,25,26,27,28,29,30] (λ y:Nat×Nat=>[(14,.int .i64 ((y.1:Nat):Int)),(5,.int .i64 ((y.2:Nat):Int))]) (λ y=>y.1<=V.xs.length/\y.2<=n+1/\Y3 (L.map aK.c) dpf (V.xs.drop y.1) y.2=Y3 (L.map aK.c) dpf V.xs 0) (λ y=>V.xs.length-y.1) ((0,0)) (⟨Nat.zero_le _,Nat.zero_le _,by rw[List.drop_zero]⟩) ?_ (λ y f hx=>?_)
  · repeat (first|exact bB _|refine aW (by exact rfl) ?_)
  dsimp only[gG,List.map,List.cons_append,List.nil_append]
  refine Kb4 ?_
  refine aZ (λ c15=>?_) (λ c15=>?_)
  · try (first|contradiction|(exfalso;omega))
    have hyl:y.1<V.xs.length:=by omega
    obtain⟨k,hk,hkl,hkm⟩:=ok.at hV (j:=y.1) hyl
    have hbb:=hbr (V.xs.getD y.1 0) (by show _∈V.xs;rw[fQ,List.getElem?_eq_getElem hyl];exact List.getElem_mem _)
    have hdr:=Zr (N:=L.map aK.c) (f:=dpf) (acc:=y.2) hyl
    rw[cH L,hk] at hbb
    rw[cH L,hk] at hdr
    have hx2:=hx.2.1
    have hx3:=hx.2.2
    have hfk:=hfl ((k+1:Nat):Int)
    refine oW ?_;refine J0 ?_;refine aE (bX (lst:=V.xs) (k:=y.1) rf rf fK wn (.bL (uV.kQ hmem)) (by omega) (by omega)) rfl ?_;refine aE (cP (lst:=V.xs) (q:=y.1) rf wn (.bL (uV.kQ hmem)) (by omega)) rfl ?_;refine tZ ?_;refine aC (cM (V:=λ _:Unit=>(aA L ((k+1:Nat):Int)).nd.v) (hs:=[(bk,jN L cs gen m pn cn pc cc)]) (os:=[]) (hs':=λ _=>[(bk,jN L cs gen m pn cn pc cc)]) (os':=λ _=>[]) (Fc:=λ _=>[]) (A0:=uK L cs pn pc) (hA:=bT.of λ f hf=>.inr (.inl hf)) (hc:=λ w1 hw=>by rw[hk];exact jK hw hkl hl)) (λ x20 h20=>?_);refine aP (λ x8=>?_);refine J5 ?_;refine gN ?_;refine rR ?_
    refine aZ (λ c23=>?_) (λ c23=>?_)
    · try (first|contradiction|(exfalso;omega))
      have ht2:Ss (L.map aK.c) cs n ((k+1:Nat):Int):=(hbb.resolve_left (λ h=>by have h':(aA L ((k+1:Nat):Int)).nd.kind=4:=h;omega)).2
      obtain⟨R2,hR2⟩:∃R2,eA (L.map aK.c) cs ((k+1:Nat):Int)=some R2:=by
       cases n with
       | zero=>exact ht2.elim
       | succ n=>obtain⟨R2,h,_⟩:=ht2;exact⟨R2,h⟩
      rw[if_pos (show(aA L ((k+1:Nat):Int)).c.kind=2 from c23)] at hdr
      refine Mc ?_;refine bK ?_;refine aC (cM (V:=λ _:Unit=>.int .i64 ((dpf ((k+1:Nat):Int):Nat):Int)) (hs:=[(bk,jN L cs gen m pn cn pc cc)]) (os:=[]) (hs':=λ _=>[(bk,jN L cs gen m pn cn pc cc)]) (os':=λ _=>[]) (Fc:=λ _=>[]) (A0:=uK L cs pn pc) (hA:=bT.of λ f hf=>.inr (.inl hf)) (hc:=λ w1 hw=>by rw[hfe];exact ih hw hR2 ht2)) (λ x27 h27=>?_);refine Bp ?_;(refine aR (eY (o6 rf rf)) (λ x29=>?_));refine J1 ?_;refine eV ?_;refine Ka5 ?_
      refine dJ ((by exact(y.1+1,(λ _:Unit=>max y.2 (1+dpf ((k+1:Nat):Int))) x27))) ?_ ?_ ?_
      · omega
      · repeat' (first|exact bB _|refine aW ?_ ?_)
        all_goals (first|exact rfl|(conv=>{lhs;whnf};congr 1;dsimp only;omega))
      · exact⟨by show y.1+1<=_;omega,by first|(show y.2<=_;omega)|(show max _ _<=_;omega),by show Y3 _ _ _ _=_;rw[<- hdr];exact hx3⟩
    · try (first|contradiction|(exfalso;omega))
      rw[if_neg (show ¬(aA L ((k+1:Nat):Int)).c.kind=2 from c23)] at hdr
      refine Kc3 ?_
      refine dJ ((by exact(y.1+1,y.2))) ?_ ?_ ?_
      · omega
      · repeat' (first|exact bB _|refine aW ?_ ?_)
        all_goals (exact rfl)
      · exact⟨by show y.1+1<=_;omega,by first|(show y.2<=_;omega)|(show max _ _<=_;omega),by show Y3 _ _ _ _=_;rw[<- hdr];exact hx3⟩
  · try (first|contradiction|(exfalso;omega))
    refine bG rfl ?_;refine Ka6 ?_
    refine aN Tryz.results41 (λ w hw=>?_)
    have hy:y.1=V.xs.length:=by omega
    have h9:=hx.2.2
    rw[hy,List.drop_length] at h9
    exact⟨(),by rw[<- h9];rfl,trivial,hw.aU⟩
end
end

/- The program's shape, part 10: Depth of a trie. -/
section
open Go Go.RowKit Go.Ct
section
variable{L:List aK}{cs:List Int}{gen:Int}{m:Nat}{pn pc:Option Addr}{cn cc:Nat}{w:World}
theorem U0(ok:A6 L)(hM:xY L cs)(hc:cs.length<=274877906944):∀n,n<=13->xr L cs gen m pn cn pc cc n
 | 0,_=>λ _ _ ht=>ht.elim
 | n+1,h=>cw ok hM hc (by omega) (U0 ok hM hc n (by omega))
set_option maxRecDepth 100000 in
set_option maxHeartbeats 1000000 in
theorem Lv(h:hY w L cs pn pc)(hT:Go.Ct.Cl w (some ⟨0,0,none⟩) (mR gY))(ok:A6 L)(hM:xY L cs)(hp:dH L cs gen)(hr:vV L)(hc:cs.length<=274877906944)(hcn:L.length<=cn)(c:Int)(ro:Bool)(hi:c<=9223372036854775807){l:List Int}(hn:vD L cs gen c=some l){r:Int}(hro:fA (L.map aK.c) cs c=some r)(ht:Ss (L.map aK.c) cs 12 r) :
  Calls Tryz.prog 14 #[rF L cs gen pn cn pc cc,.agg ⟨[.int .i64 c,.bool ro]⟩] w λ e w'=>e=.returned (.int .i64 ((M9 (L.map aK.c) cs 12 r:Nat):Int))/\St w [] [] w':=by
 have hl:=ok.len
 obtain⟨R,hR⟩:∃R,eA (L.map aK.c) cs r=some R:=by obtain⟨R,h1,_⟩:=ht;exact⟨R,h1⟩
 obtain⟨k,hk,hkl⟩:∃k:Nat,r=((k+1:Nat):Int)/\k<L.length:=by
  have h2:(cD (L.map aK.c) r).kind=2:=by
   unfold eA at hR
   split at hR
   ·rename_i h1;exact h1.1
   ·cases hR
  have:=cY (N:=L.map aK.c) (i:=r) (by omega)
  rw[List.length_map] at this
  exact⟨(r-1).toNat,by omega,by omega⟩
 obtain⟨dd,hdd⟩:∃dd,dd=M9 (L.map aK.c) cs 12 r:=⟨_,rfl⟩
 have dp:xr L cs gen 0 pn cn pc cc 12:=U0 ok hM hc 12 (by decide)
 rw[<- hdd]
 subst hk
 refine enter Tryz.func14 Tryz.ntmps14 rfl rfl (Qb h hT) ?_
 simp only[cR]
 simp only[rF]
 refine J0 ?_;refine bP (λ x2=>?_);refine bP (λ x3=>?_);refine gK ?_;refine kU ?_;refine bK ?_;refine aC (cF (Fc:=λ x:Option Addr×Nat=>[(x.1,aG l)]) (hc:=λ w1 hw=>wB (hw.vS (.inr (.inl (.head _))) (.inr (.inl (.tail _ (.head _)))) (λ f hf=>.inr (.inl (.tail _ (.tail _ (.tail _ hf))))) h.fit) hr hl hc hcn c ro hi hn)) (λ x13 h13=>?_);refine Ka8 ?_;refine J2 ?_;refine Kb7 ?_
 refine aZ (λ c17=>?_) (λ c17=>?_)
 ·exact nv c17
 ·try (first|contradiction|(exfalso;omega))
  refine bA ?_;refine kU ?_;refine bK ?_;refine aR (cV (v:=.tuple #[.int .i64 ((k+1:Nat):Int),.bool true]) (hc:=λ w1 hw=>by have h9:=F6 (gen:=gen) (cc:=cc) (hw.vS (.inr (.inl (.head _))) (.inr (.inl (.tail _ (.head _)))) (λ f hf=>.inr (.inl (.tail _ (.tail _ (.tail _ hf))))) h.fit) hr hl hc hcn c ro hi;rw[show Kh L cs gen (fA (L.map aK.c) cs c)=some ((k+1:Nat):Int) by unfold Kh;rw[if_pos hp,hro]] at h9;exact h9)) (λ x21=>?_);refine Kb6 ?_;refine lX ?_
  refine aZ (λ c25=>?_) (λ c25=>?_)
  ·exact nv c25
  ·try (first|contradiction|(exfalso;omega))
   refine bA ?_;refine kU ?_;refine bD ?_;refine bP (λ x28=>?_);refine tZ ?_;refine aB ?_;refine aC (cM (V:=λ _:Unit=>(aA L ((k+1:Nat):Int)).nd.v) (hs:=[(x28,jN L cs gen 0 pn cn pc cc)]) (os:=[]) (hs':=λ _=>[(x28,jN L cs gen 0 pn cn pc cc)]) (os':=λ _=>[]) (Fc:=λ _=>[]) (A0:=uK L cs pn pc) (hA:=bT.of λ f hf=>.inr (.inl hf)) (hc:=λ w1 hw=>jK hw hkl hl)) (λ x32 h32=>?_);refine aC (cM (V:=λ _:Unit=>.int .i64 ((dd:Nat):Int)) (hs:=[(x28,jN L cs gen 0 pn cn pc cc)]) (os:=[]) (hs':=λ _=>[(x28,jN L cs gen 0 pn cn pc cc)]) (os':=λ _=>[]) (Fc:=λ _=>[]) (A0:=uK L cs pn pc) (hA:=bT.of λ f hf=>.inr (.inl hf)) (hc:=λ w1 hw=>by rw[hdd];exact dp hw hR ht)) (λ x33 h33=>?_);refine J1 ?_
   refine aN Tryz.results14 (λ w hw=>?_)
   first
   | exact⟨rfl,hw.done⟩
   | (exfalso;simp_all;done)
end
end

/- Shape: a call alone. -/
section
open Go Go.RowKit Go.Ct
abbrev ka:ByteArray:=⟨#[97]⟩
abbrev kb:ByteArray:=⟨#[98]⟩
def Rk(kind:Int)(key:ByteArray)(v:Int)(m n:Nat)(s:Mm):Tr×Mm:=Fk (Go.Ct.sG (T0 (kG kind key v m) m) s) n
end

/- Literals of lists that may be changed. -/
end Go.Proofs.YtadnboagdhcedaaGreatDoor
namespace Go.Ct
section
open Go Go.RowKit
section
variable{P:Program}{S:List (Nat×Value)}{G:World->Prop}{d:Nat}{ty t t' e:TypeId}{pos:String}{af:Array Edge}{gd:Option (Nat×Bool)}{x y:Operand}{w0 w:World}{M:List Nat}{H:List (Nat×Obj)}{A F:Fr}{O:List Ow}{a:Option Addr}
end
end

/- Worlds: Worlds. -/
end Go.Ct
namespace Go.Proofs.YtadnboagdhcedaaGreatDoor
section
open Go Go.RowKit Go.Ct
theorem wb(x y:AX)(acc:Int)(pn:Option Addr)(cn:Nat)(pc:Option Addr)(cc:Nat):(XS.new (L4 x y) [0,3,4] 1 acc pn cn pc cc).Ok:=by
 have hmem:∀v∈L4 x y,v=cK∨v=jY Nq [] [] 0 x∨v=jY (tB 1) [] [] 1 y:=λ v hv=>by
  simp[L4] at hv
  exact hv
 refine⟨λ v hv=>?_,λ v hv=>?_,λ v hv=>?_,(λ v hv=>nomatch hv),(λ v hv=>nomatch hv),by show 2<=4;decide,by show 4<=_;decide,by show 3<=_;decide,Nat.zero_le _,Nat.le_refl _,Nat.le_refl _,Nat.le_refl _,Nat.le_refl _,Nat.zero_le _,λ v hv=>?_,by show(0:Int)<=1;decide,(λ i j _ hj=>absurd hj (Nat.not_lt_zero j)),(λ v hv=>nomatch hv)⟩
 ·rcases hmem v hv with rfl|rfl|rfl
  ·exact⟨rfl,rfl,by decide,by decide⟩
  ·exact H0 (by decide) (by decide)
  ·exact H0 (by decide) (by decide)
 ·have z:(0:Int)<=((4:Nat):Int):=by decide
  have z3:(0:Int)<=((3:Nat):Int):=by decide
  rcases hmem v hv with rfl|rfl|rfl
  ·exact⟨z,z,z,(λ r hr=>nomatch hr),z3,z3,z3,hU,hU⟩
  ·exact⟨z,z,z,(λ r hr=>nomatch hr),z3,by show(1:Int)<=((3:Nat):Int);decide,z3,hU,hU⟩
  ·exact⟨z,z,z,(λ r hr=>nomatch hr),by show(2:Int)<=((3:Nat):Int);decide,z3,z3,hU,hU⟩
 ·have hv':v=0∨v=3∨v=4:=by simpa[XS.new] using hv
  show v<=((4:Nat):Int)
  omega
 ·rcases hmem v hv with rfl|rfl|rfl<;>exact Nat.zero_le _
theorem s6.mono{m B C E B' C' E':Nat}{W:Wd}(h:s6 m B C E W)(hB:B<=B')(hC:C<=C')(hE:E<=E'):s6 m B' C' E' W:=by
 obtain⟨s1,s2,s3⟩:=h.sz
 exact⟨h.z,⟨by omega,by omega,by omega⟩,λ e he=>by have:=h.ex e he;exact⟨this.i,this.k,this.em,this.ht,this.ha,by have:=this.gl;omega⟩,h.t0,h.tr,h.tl,by have:=h.el;omega,h.wr⟩
section
variable{S:List (Nat×Value)}{w0 w:World}{M:List Nat}{H:List (Nat×Obj)}{A F:Fr}{O:List Ow}{ty:TypeId}{pos:String}{af:Array Edge}{gd:Option (Nat×Bool)}{X:Type}{V:X->Value}
theorem cT(nH nO:Nat){φ:X->Prop}{hs:List (Nat×Obj)}{os:List Ow}{hs' H1:X->List (Nat×Obj)}{os' O1:X->List Ow}{Fc F1:X->Fr}{A0:Fr}{f:FuncId}{xs:List Operand}{at_:Array TypeId}{vs:List Value}{dst:Option Nat}
  (hc:∀w,SF w (Ks hs os) hs A0 [] os w->Calls Tryz.prog f ⟨vs⟩ w λ e w'=>∃x,e=.returned (V x)/\φ x/\SF w (Ks hs os) (hs' x) [] (Fc x) (os' x) w')
  (hA:bT A F (O.take nO) A0) (hF1:∀x,φ x->∀f∈F1 x,f.2=[]∨f∈Fc x++F)
  (ha:zB S xs=vs:=by(repeat (first|exact qA _|(apply oC;focus ((conv=>{lhs;whnf});try exact rfl))));first|done|fail) (hp:plain Tryz.prog f=true:=by kernel_rfl)
  (hH:H=H.take nH++hs:=by exact rfl) (hO:O=O.take nO++os:=by exact rfl)
  (hH1:∀x,H.take nH++hs' x=H1 x:=by intro x;simp only[List.take_succ_cons,List.take_zero,List.cons_append,List.nil_append];exact rfl) (hO1:∀x,O.take nO++os' x=O1 x:=by intro x;simp only[List.take_succ_cons,List.take_zero,List.cons_append,List.nil_append];exact rfl) :
  bH Tryz.prog S (SF w0 M H A F O) ⟨dst,.call {callee:=.value (.func f),args:=⟨xs⟩,argTypes:=at_},ty,pos,af,gd⟩ X V (λ x w=>φ x/\SF w0 M (H1 x) A (F1 x) (O1 x) w) :=
 lA (nP hp ha) λ w hw=>(dt (H':=H.take nH) (O':=O.take nO) hw ((List.Perm.of_eq hH).trans List.perm_append_comm) ((List.Perm.of_eq hO).trans List.perm_append_comm) hA (hc w)).mono λ _ _ ⟨x,he,hx,hs⟩=>⟨x,he,hx,by
  have h2:=(hs.perm (H':=H1 x) (O':=O1 x) (by rw[<- hH1 x];exact List.perm_append_comm) (by rw[<- hO1 x];exact List.perm_append_comm)).eG (hF1 x hx)
  exact h2⟩
end
end

/- Shape: memories at rest of one trie: Put, Drop, Check, Quiet, Depth. -/
section
open Go Go.RowKit Go.Ct
structure SL(m B:Nat)(z:XS)(s:Mm):Prop where
 mm:z.mm=s
 ok:s6 m B 0 0 ⟨z,[⟨3,false⟩],none,0,[],none,0⟩
theorem pj(m:Nat)(x y:AX)(acc:Int)(pn:Option Addr)(cn:Nat)(pc:Option Addr)(cc:Nat):SL m 8 (XS.new (L4 x y) [0,3,4] 1 acc pn cn pc cc) ri :=
 ⟨rfl,⟨wb _ _ _ _ _ _ _,⟨by show 4<=8;decide,by show 3<=8;decide,by show(1:Int)<=((8:Nat):Int);decide⟩,(λ e he=>nomatch he),by show 0<1;decide,rfl,by show 1<=5;decide,Nat.le_refl _,.new⟩⟩
theorem SL.run{m B Nf:Nat}{z:XS}{s:Mm}{kd v:Int}{key:ByteArray}{y:RY}(h:SL m B z s)(hm:m<18446744073709551616)(hk:kd=8∨kd=9)(hky:key∈An)(hr:uU (kG kd key v m) m (XS.new z.L z.cs z.gen z.acc z.pn z.cn z.pc z.cc) B y)(hd:y.dn=true)(hi:y.i<=Nf)(hf:(Rk kd key v m Nf s).1.live=false):SL m (B+64+128*Nf) y.x (Rk kd key v m Nf s).2:=by
 have e0:(XS.new z.L z.cs z.gen z.acc z.pn z.cn z.pc z.cc).mm=s:=h.mm
 obtain⟨e1,e2⟩:=hr.end hd (Nf:=Nf) (by rw[e0];exact hf)
 rw[e0] at e1
 refine⟨e1,⟨hr.ex.ok,?_,(λ e he=>nomatch he),by show 0<1;decide,rfl,by show 1<=5;decide,Nat.le_refl _,?_⟩⟩
 ·obtain⟨z1,z2,z3⟩:=hr.sz
  replace z1:y.x.L.length<=B+64+128*y.i:=z1
  replace z2:y.x.cs.length<=B+64+128*y.i:=z2
  replace z3:y.x.gen<=((B+64+128*y.i:Nat):Int):=z3
  exact⟨by show y.x.L.length<=_;omega,by show y.x.cs.length<=_;omega,by show y.x.gen<=_;omega⟩
 ·obtain⟨j,hrc⟩:=hr.rc
  rw[e2] at hrc
  have hkd:7<=(kG kd key v m).kind/\(kG kd key v m).kind<=12:=by
   show(7:Int)<=kd/\kd<=12
   omega
  have hco:∀σ:Kw,σ.mm=z.mm->Inv (H8 m) σ->(∀t∈[(⟨3,false⟩:eQ)],bR σ t)->Gy (H8 m) σ (kG kd key v m) (jP (kG kd key v m).key m):=S5 hkd hm (.head _) hky λ _=>rfl
  exact(WR.start (k:=kG kd key v m) h.ok.wr hco hrc rfl).drop
theorem ext_mem{a:Option Addr×List Value}{L L' N:List aK}(e:L'=L++N):∀f∈a::aY L',f∈aY N++a::aY L:=λ f hf=>by
 rw[e,dL] at hf
 simp only[List.mem_append,List.mem_cons] at hf ⊢
 rcases hf with h|h|h
 ·exact .inr (.inl h)
 ·exact .inr (.inr h)
 ·exact .inl h
section
variable{m B Nf bm:Nat}{z:XS}{s:Mm}{v:Int}{key:ByteArray}{D:List Nat}{A:Fr}{w:World}
theorem qp(h:SL m B z s)(hm:m<18446744073709551616)(hky:key∈An)(hB:B+128*Nf<=100000000000)(hN:Nf<=1048576)(hf:(Rk 8 key v m Nf s).1.live=false)(hA:∀f∈aY z.L,f∈A)(hs:SF w D [(bm,xM z)] A [] (mW z.L z.cs z.pn z.cn z.pc z.cc) w) :
  Calls Tryz.prog 16 #[.pointer (some ⟨bm,0,none⟩),.agg ⟨[.int .i64 3,.bool false]⟩,.int .u64 ((m:Nat):Int),.string key,.int .u64 v] w λ e w'=>∃q:XS×List aK,e=.returned (.tuple #[])/\(SL m (B+64+128*Nf) q.1 (Rk 8 key v m Nf s).2/\q.1.L=z.L++q.2)/\SF w D [(bm,xM q.1)] [] (aY q.2) (mW q.1.L q.1.cs q.1.pn q.1.cn q.1.pc q.1.cc) w':=by
 obtain⟨s1,s2,s3⟩:=h.ok.sz
 have e0:(XS.new z.L z.cs z.gen z.acc z.pn z.cn z.pc z.cc).mm=s:=h.mm
 refine(qt (key:=key) (v:=v) hm hB hN h.ok.sz (Nat.le_trans s1 (by omega)) (Rt h.ok.z) (by have:(⟨z.L.map aK.c,z.cs,z.gen⟩:Mm)=s:=h.mm;rw[this];exact hf) hA hs).mono λ e w' ⟨y,e1,⟨h1,h2,h3⟩,hw⟩=>?_
 exact⟨(y.x,y.N),e1,⟨h.run hm (.inl rfl) hky h1 h2 h3 hf,h1.ext⟩,hw⟩
theorem cd(h:SL m B z s)(hm:m<18446744073709551616)(hky:key∈An)(hB:B+128*Nf<=100000000000)(hN:Nf<=1048576)(hf:(Rk 9 key 0 m Nf s).1.live=false)(hA:∀f∈aY z.L,f∈A)(hs:SF w D [(bm,xM z)] A [] (mW z.L z.cs z.pn z.cn z.pc z.cc) w) :
  Calls Tryz.prog 17 #[.pointer (some ⟨bm,0,none⟩),.agg ⟨[.int .i64 3,.bool false]⟩,.int .u64 ((m:Nat):Int),.string key] w λ e w'=>∃q:XS×List aK,e=.returned (.tuple #[])/\(SL m (B+64+128*Nf) q.1 (Rk 9 key 0 m Nf s).2/\q.1.L=z.L++q.2)/\SF w D [(bm,xM q.1)] [] (aY q.2) (mW q.1.L q.1.cs q.1.pn q.1.cn q.1.pc q.1.cc) w':=by
 obtain⟨s1,s2,s3⟩:=h.ok.sz
 refine(ay (key:=key) hm hB hN h.ok.sz (Nat.le_trans s1 (by omega)) (Rt h.ok.z) (by have:(⟨z.L.map aK.c,z.cs,z.gen⟩:Mm)=s:=h.mm;rw[this];exact hf) hA hs).mono λ e w' ⟨y,e1,⟨h1,h2,h3⟩,hw⟩=>?_
 exact⟨(y.x,y.N),e1,⟨h.run hm (.inr rfl) hky h1 h2 h3 hf,h1.ext⟩,hw⟩
end
section
variable{m B:Nat}{z:XS}{s:Mm}{pn pc:Option Addr}{cn cc:Nat}{w:World}
theorem SL.ck(h:SL m B z s)(hB:B<=100000000000):z.cs.length<=274877906944/\∃r l,zw m z ⟨3,false⟩ r l:=by
 obtain⟨s1,s2,s3⟩:=h.ok.sz
 have s1:z.L.length<=B:=s1
 have s2:z.cs.length<=B:=s2
 exact⟨by omega,V9 h.ok (.head _) (by show z.L.length<=_;omega)⟩
theorem Ts(hz:SL m B z s)(hB:B<=100000000000)(hm:m<18446744073709551616)(h:hY w z.L z.cs pn pc)(hT:Go.Ct.Cl w (some ⟨0,0,none⟩) (mR gY))(hcn:z.L.length<=cn) :
  Calls Tryz.prog 11 #[rF z.L z.cs z.gen pn cn pc cc,.agg ⟨[.int .i64 3,.bool false]⟩,.int .u64 ((m:Nat):Int)] w λ e w'=>e=.returned (.int .i64 0)/\St w [] [] w':=by
 obtain⟨hc,r,l,k⟩:=hz.ck hB
 exact Zf k h hT (Iy hz.ok.z) hc hcn hm (by decide)
theorem Sy(hz:SL m B z s)(hB:B<=100000000000){r:Int}{d:Nat}(hr:fA s.nodes s.cs 3=some r)(hd:M9 s.nodes s.cs 12 r=d)(h:hY w z.L z.cs pn pc)(hT:Go.Ct.Cl w (some ⟨0,0,none⟩) (mR gY))(hcn:z.L.length<=cn) :
  Calls Tryz.prog 14 #[rF z.L z.cs z.gen pn cn pc cc,.agg ⟨[.int .i64 3,.bool false]⟩] w λ e w'=>e=.returned (.int .i64 ((d:Nat):Int))/\St w [] [] w':=by
 obtain⟨hc,r',l,k⟩:=hz.ck hB
 have e1:z.L.map aK.c=s.nodes:=by rw[<- hz.mm];rfl
 have e2:z.cs=s.cs:=by rw[<- hz.mm];rfl
 have h1:=k.root
 rw[e1,e2] at h1
 have h2:r'=r:=Option.some.inj (h1.symm.trans hr)
 subst h2 hd
 have:=Lv (cc:=cc) h hT k.sh k.mn k.pr (Iy hz.ok.z) hc hcn 3 false (by decide) k.trav k.root k.trb
 rw[<- e1,<- e2]
 exact this
end
end

/- ShapeLast: the runs, plainly. -/
section
open Go Go.RowKit Go.Ct
def lsA(v:Int):Mm:=(Rk 8 ka v 0 8 ri).2
def z4(v:Int):Mm:=(Rk 8 kb v 0 8 (lsA v)).2
def lsC(v:Int):Mm:=(Rk 9 ka 0 0 151 (z4 v)).2
def Bd(v:Int):Nat->Mm
 | 0=>ri
 | 1=>lsA v
 | 2=>z4 v
 | _=>lsC v
theorem Up(v:Int):(Rk 8 ka v 0 8 (Bd v 0)).1.live=false:=by kernel_rfl
theorem Wf(v:Int):(Rk 8 kb v 0 8 (Bd v 1)).1.live=false:=by kernel_rfl
theorem Zg(v:Int):(Rk 9 ka 0 0 151 (Bd v 2)).1.live=false:=by kernel_rfl
theorem Xq(v:Int):fA (Bd v 1).nodes (Bd v 1).cs 3=some 4:=by kernel_rfl
theorem Xn(v:Int):fA (Bd v 2).nodes (Bd v 2).cs 3=some 4:=by kernel_rfl
theorem Zn(v:Int):fA (Bd v 3).nodes (Bd v 3).cs 3=some 4:=by kernel_rfl
theorem n7(v:Int):M9 (Bd v 1).nodes (Bd v 1).cs 12 4=0:=by kernel_rfl
theorem rb(v:Int):M9 (Bd v 2).nodes (Bd v 2).cs 12 4=11:=by kernel_rfl
theorem mu(v:Int):M9 (Bd v 3).nodes (Bd v 3).cs 12 4=0:=by kernel_rfl
end

/- Shape: the two small tries of the sanity check. -/
section
open Go Go.RowKit Go.Ct
def lx:List Nv:=[cK.c,cK.c,cO (Nq.c [] []) 0,cO ((tB 1).c [] []) 1]
theorem nf(x y:AX):(L4 x y).map aK.c=lx:=rfl
theorem zj:BV 0 []:=⟨by decide,by decide,λ i hi=>absurd hi (Nat.not_lt_zero i)⟩
theorem vu{r:Int}(h:1<=r):BV 1 [r]:=⟨by decide,by show 1=eE 1 64;decide,λ i hi=>by
 have:i=0:=by simp at hi;omega
 subst this
 exact h⟩
theorem Fb:dX lx [0,3,4] 1:=by
 have h0:=tJ (gen:=1) (by decide)
 have h1:=h0.push (init:=0) (n:=Nq.c [] []) (wF (b:=0) (by decide) zj (λ r hr=>nomatch hr)) ⟨by decide,by decide⟩
 have h2:=h1.push (init:=3) (n:=(tB 1).c [] []) (wG (by decide) (by decide)) ⟨by decide,by decide⟩
 exact h2.cell (init:=4) ⟨by decide,by decide⟩
theorem Pj:fA lx [0,3,4] 3=some 4:=by decide +kernel
theorem Wx:Ad lx [0,3,4] 12 4 []=some [4]:=by decide +kernel
theorem Ru:eA lx [0,3,4] 4=some 3:=by decide +kernel
theorem Wp:(cD lx 3).xs=[]:=by decide +kernel
theorem qs:Ss lx [0,3,4] 12 4:=⟨3,Ru,λ b hb=>by rw[Wp] at hb;exact nomatch hb⟩
theorem uh(m:Nat):Ul lx [0,3,4] m 12 4 [] 0:=⟨3,Ru,⟨.inl ⟨by decide +kernel,by decide⟩,λ _ h=>absurd h (by decide),λ h=>absurd h (by decide +kernel),λ h=>absurd h (by decide +kernel),λ _ j hj=>by rw[Wp] at hj;exact absurd hj (Nat.not_lt_zero j)⟩,.inl rfl,λ j hj=>by rw[Wp] at hj;exact absurd hj (Nat.not_lt_zero j)⟩
abbrev jm:Nd:={Nd.zero with kind:=4,key:=⟨#[97]⟩}
abbrev Qa:Nd:={Nd.zero with kind:=3,bm:=1}
def N0:List Nv:=[cK.c,cK.c,cO (jm.c [] []) 0,cO (Qa.c [3] []) 0,cO ((tB 1).c [] []) 1,cO (Qa.c [5] []) 2,cO ((tB 1).c [] []) 3]
abbrev S7:List Int:=[0,4,0,6,7]
theorem Gm:dX N0 S7 1:=by
 have h0:=tJ (gen:=1) (by decide)
 have h1:=h0.push (init:=0) (n:=jm.c [] []) (E5 (by decide) (by decide)) ⟨by decide,by decide⟩
 have h2:=h1.push (init:=0) (n:=Qa.c [3] []) (wF (b:=1) (by decide) (vu (by decide)) (λ r hr=>by rw[List.mem_singleton.1 hr];decide)) ⟨by decide,by decide⟩
 have h3:=h2.push (init:=4) (n:=(tB 1).c [] []) (wG (by decide) (by decide)) ⟨by decide,by decide⟩
 have h4:=h3.push (init:=0) (n:=Qa.c [5] []) (wF (b:=1) (by decide) (vu (by decide)) (λ r hr=>by rw[List.mem_singleton.1 hr];decide)) ⟨by decide,by decide⟩
 have h5:=h4.push (init:=6) (n:=(tB 1).c [] []) (wG (by decide) (by decide)) ⟨by decide,by decide⟩
 exact h5.cell (init:=7) ⟨by decide,by decide⟩
theorem Qi:fA N0 S7 5=some 7:=by decide +kernel
theorem X3:Ad N0 S7 12 7 []=some [7,5]:=by decide +kernel
theorem Bk:eA N0 S7 7=some 6/\eA N0 S7 5=some 4:=by decide +kernel
theorem B5:(cD N0 6).xs=[5]/\(cD N0 4).xs=[3]/\(cD N0 5).kind=2/\(cD N0 4).kind=3/\(cD N0 3).kind=4:=by decide +kernel
theorem Uy:Ss N0 S7 12 7:=⟨6,Bk.1,λ b hb=>by
 rw[B5.1] at hb
 rw[List.mem_singleton.1 hb]
 refine .inr ⟨B5.2.2.1,4,Bk.2,λ c hc=>?_⟩
 rw[B5.2.1] at hc
 rw[List.mem_singleton.1 hc]
 exact .inl B5.2.2.2.2⟩
theorem xf(m:Nat):¬Ul N0 S7 m 12 7 [] 0:=λ⟨r,hb,_,_,h⟩=>by
 rw[Bk.1] at hb
 cases hb
 have h1:=h 0 (by rw[B5.1];decide) (by rw[B5.1];exact B5.2.2.1)
 rw[B5.1] at h1
 obtain⟨s,hs,hw,_⟩:=h1
 have hs2:eA N0 S7 5=some s:=hs
 rw[Bk.2] at hs2
 cases hs2
 have h2:=(hw.br B5.2.2.2.1 (by decide)).2 3 B5.2.1
 rw[B5.2.2.2.2] at h2
 exact absurd h2 (by decide)
theorem wq:M9 N0 S7 12 7=1:=by decide +kernel
def Rw(L:List aK):Prop:=∀v∈L,v=cK∨∃n xs ys c x,v=jY n xs ys c x/\(∃b:Nat,n.bm=(b:Int)/\b<18446744073709551616)/\(∃b:Nat,n.hash=(b:Int)/\b<18446744073709551616)/\xs.length<=64/\ys.length<=64/\c<=100
theorem Qv:Rw [cK,cK]:=λ v hv=>by
 simp only[List.mem_cons,List.not_mem_nil,or_false] at hv
 exact .inl (hv.elim id id)
theorem Rw.push{L:List aK}(h:Rw L){n:Nd}{xs:List Int}{ys:List Pr}{c:Nat}{x:AX}(h1:∃b:Nat,n.bm=(b:Int)/\b<18446744073709551616)(h2:∃b:Nat,n.hash=(b:Int)/\b<18446744073709551616)(h3:xs.length<=64)(h4:ys.length<=64)(h5:c<=100):Rw (L++[jY n xs ys c x]):=λ v hv=>by
 rcases List.mem_append.1 hv with hv|hv
 ·exact h v hv
 ·rw[List.mem_singleton.1 hv]
  exact .inr ⟨n,xs,ys,c,x,rfl,h1,h2,h3,h4,h5⟩
theorem Rw.fit{L:List aK}(h:Rw L):Fits L:=λ v hv=>by
 rcases h v hv with rfl|⟨n,xs,ys,c,x,rfl,h1,h2,h3,h4,h5⟩
 ·exact U5
 ·exact H0 (by omega) (by omega)
theorem Rw.rz{L:List aK}(h:Rw L):vV L:=λ v hv=>by
 rcases h v hv with rfl|⟨n,xs,ys,c,x,rfl,h1,h2,h3,h4,h5⟩
 ·exact⟨⟨0,rfl,by decide⟩,by simp[cK,Nd.zero],by simp[cK,Nd.zero],by simp[cK,Nd.zero]⟩
 ·refine⟨h1,?_,?_,?_⟩<;>(simp only[jY];split<;>omega)
theorem Rw.hash{L:List aK}(h:Rw L):∀v∈L,∃h:Nat,v.nd.hash=(h:Int)/\h<18446744073709551616:=λ v hv=>by
 rcases h v hv with rfl|⟨n,xs,ys,c,x,rfl,h1,h2,h3,h4,h5⟩
 ·exact⟨0,rfl,by decide⟩
 ·exact h2
theorem Uj:∃b:Nat,(0:Int)=(b:Int)/\b<18446744073709551616:=⟨0,rfl,by decide⟩
theorem o64:∃b:Nat,(1:Int)=(b:Int)/\b<18446744073709551616:=⟨1,rfl,by decide⟩
theorem Ho(x y:AX):Rw (L4 x y):=(Qv.push Uj Uj (by decide) (by decide) (by decide)).push Uj Uj (by decide) (by decide) (by decide)
abbrev Wg(x1 x2 x3 x4 x5:AX):List aK:=[cK,cK]++[jY jm [] [] 0 x1]++[jY Qa [3] [] 0 x2]++[jY (tB 1) [] [] 1 x3]++[jY Qa [5] [] 2 x4]++[jY (tB 1) [] [] 3 x5]
theorem xe(x1 x2 x3 x4 x5:AX):(Wg x1 x2 x3 x4 x5).map aK.c=N0:=rfl
theorem Ip(x1 x2 x3 x4 x5:AX):Rw (Wg x1 x2 x3 x4 x5):=((((Qv.push Uj Uj (by decide) (by decide) (by decide)).push o64 Uj (by decide) (by decide) (by decide)).push Uj Uj (by decide) (by decide) (by decide)).push o64 Uj (by decide) (by decide) (by decide)).push Uj Uj (by decide) (by decide) (by decide)
end

end Go.Proofs.YtadnboagdhcedaaGreatDoor

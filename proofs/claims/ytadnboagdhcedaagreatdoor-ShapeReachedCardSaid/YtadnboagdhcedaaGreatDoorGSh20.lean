/- The program's shape, part 9: the depth below an I-node. -/
import Derived.Test.YtadnboagdhcedaaGreatDoorGSh9
import Derived.Test.YtadnboagdhcedaaGreatDoorGWo7
import Derived.Test.YtadnboagdhcedaaGreatDoorGVx0
import Derived.Test.YtadnboagdhcedaaGreatDoorGWo6

set_option linter.unusedSimpArgs false
set_option linter.unusedVariables false
namespace Go.Ct
section
open Go Go.RowKit
section
variable{P:Program}{S:List (Nat×Value)}{G:World->Prop}{d:Nat}{ty t t':TypeId}{pos:String}{af:Array Edge}{gd:Option (Nat×Bool)}{x y:Operand}
theorem qn{k:IntKind}{a b:Int}(hx:ev S x=.int k a)(hy:ev S y=.int k b):aJ P S G ⟨some d,.call {callee:=.builtin .max,args := #[x,y],argTypes := #[t,t']},ty,pos,af,gd⟩ (.int k (max a b)):=⟨λ w _=>by
 have e:(if a<b then b else a)=max a b:=by split<;>omega
 simp[execOp,resolve,invoke,builtin,Builtin.max_,Builtin.max2,hx,hy,e]⟩
end
theorem Yc{N:List Nv}{f:Int->Nat}{n:Nat}(hf:∀b,f b<=n):∀(xs:List Int) (acc:Nat),acc<=n+1->Wu N f xs acc<=n+1
 | [],acc,h=>h
 | b::r,acc,h=>by
  simp only[Wu]
  have:=hf b
  exact Yc hf r _ (by split<;>omega)
theorem W4{N:List Nv}{cs:List Int}:∀(n:Nat) (i:Int),cw N cs n i<=n
 | 0,_=>Nat.le_refl _
 | n+1,i=>Yc (λ b=>W4 n b) _ 0 (Nat.zero_le _)
theorem Z6{N:List Nv}{f:Int->Nat}{xs:List Int}{j acc:Nat}(hj:j<xs.length):Wu N f (xs.drop j) acc=Wu N f (xs.drop (j+1)) (if(cB N (xs.getD j 0)).kind=2 then max acc (1+f (xs.getD j 0)) else acc):=by
 rw[List.drop_eq_getElem_cons hj,show xs.getD j 0=xs[j] by simp[List.getD,hj]]
 rfl
end
end Go.Ct
namespace Go.Proofs.YtadnboagdhcedaaGreatDoor
section
open Go Go.RowKit Go.Ct
section
variable{L:List aL}{cs:List Int}{gen:Int}{m:Nat}{pn pc:Option Addr}{cn cc:Nat}
def z8(L:List aL)(cs:List Int)(gen:Int)(m:Nat)(pn:Option Addr)(cn:Nat)(pc:Option Addr)(cc:Nat)(n:Nat):Prop :=
 ∀{w:World} {D:List Nat} {bk:Nat} {i R:Int},SF w D [(bk,jV L cs gen m pn cn pc cc)] (uV L cs pn pc) [] [] w->eK (L.map aL.c) cs i=some R->T2 (L.map aL.c) cs n i ->
  Calls Tryz.prog 41 #[.pointer (some ⟨bk,0,none⟩),(aA L i).nd.v] w λ e w'=>∃q:Unit,e=.returned (.int .i64 ((cw (L.map aL.c) cs n i:Nat):Int))/\True/\SF w D [(bk,jV L cs gen m pn cn pc cc)] [] [] [] w'
set_option maxRecDepth 100000 in
set_option maxHeartbeats 1000000 in
theorem ji(ok:B9 L)(hM:yY L cs)(hc:cs.length<=274877906944){n:Nat}(h12:n<=12)(ih:z8 L cs gen m pn cn pc cc n):z8 L cs gen m pn cn pc cc (n+1):=by
  intro w D bk i R hs hb ht
  obtain⟨r,hR,hrl,hmo,hmk⟩:=hM i R hb
  obtain⟨V,hVe⟩:∃V,V=aA L ((r+1:Nat):Int):=⟨_,rfl⟩
  have hV:V∈L:=by rw[hVe,fN hrl];exact eT hrl
  obtain⟨R',hb',hbr⟩:=ht
  rw[hb] at hb'
  cases hb'
  rw[cI L R,hR,<- hVe] at hbr
  have hl:=ok.len
  have hf:=ok.fit V hV
  have hn:=hf.brN
  have hbs:=hf.brS
  have hmem:=Jg (cs:=cs) (pn:=pn) (pc:=pc) hV
  obtain⟨dpf,hfe⟩:∃dpf,dpf=cw (L.map aL.c) cs n:=⟨_,rfl⟩
  have hfl:∀b,dpf b<=n:=λ b=>by rw[hfe];exact W4 n b
  have hdp:cw (L.map aL.c) cs (n+1) i=Wu (L.map aL.c) dpf V.xs 0:=by
    simp only[cw,hb,Option.getD_some]
    rw[cI L R,hR,<- hVe,<- hfe]
    rfl
  rw[hdp]
  clear hdp
  refine enter Tryz.func41 Tryz.ntmps41 rfl rfl hs ?_
  simp only[cO]
  refine J0 ?_;refine bQ (λ x3=>?_);refine J1 ?_;refine Ka7 ?_;refine bN ?_;refine aC (cM (V:=λ _:Unit=>V.nd.v) (hs:=[(bk,jV L cs gen m pn cn pc cc)]) (os:=[]) (hs':=λ _=>[(bk,jV L cs gen m pn cn pc cc)]) (os':=λ _=>[]) (Fc:=λ _=>[]) (A0:=uV L cs pn pc) (hA:=bP.of λ f hf=>.inr (.inl hf)) (hc:=λ w1 hw=>by rw[hVe];exact yE hw hmo hrl hl hc)) (λ x11 h11=>?_);refine cH ?_;refine Kb5 ?_
  refine eY [5,7,8,14,15,16,17,18,19,20,21,22,23,24,25,26,27,28,29,30] (λ y:Nat×Nat=>[(14,.int .i64 ((y.1:Nat):Int)),(5,.int .i64 ((y.2:Nat):Int))]) (λ y=>y.1<=V.xs.length/\y.2<=n+1/\Wu (L.map aL.c) dpf (V.xs.drop y.1) y.2=Wu (L.map aL.c) dpf V.xs 0) (λ y=>V.xs.length-y.1) ((0,0)) (⟨Nat.zero_le _,Nat.zero_le _,by rw[List.drop_zero]⟩) ?_ (λ y f hx=>?_)
  · repeat (first|exact bB _|refine aY (by exact rfl) ?_)
  dsimp only[fY,List.map,List.cons_append,List.nil_append]
  refine Kb3 ?_
  refine aZ (λ c15=>?_) (λ c15=>?_)
  · try (first|contradiction|(exfalso;omega))
    have hyl:y.1<V.xs.length:=by omega
    obtain⟨k,hk,hkl,hkm⟩:=ok.at hV (j:=y.1) hyl
    have hbb:=hbr (V.xs.getD y.1 0) (by show _∈V.xs;rw[fI,List.getElem?_eq_getElem hyl];exact List.getElem_mem _)
    have hdr:=Z6 (N:=L.map aL.c) (f:=dpf) (acc:=y.2) hyl
    rw[cI L,hk] at hbb
    rw[cI L,hk] at hdr
    have hx2:=hx.2.1
    have hx3:=hx.2.2
    have hfk:=hfl ((k+1:Nat):Int)
    refine Kc5 ?_;refine aE (cA (lst:=V.xs) (k:=y.1) rf rf fC wn (.bM (vZ.lF hmem)) (by omega) (by omega)) rfl ?_;refine aE (cW (lst:=V.xs) (q:=y.1) rf wn (.bM (vZ.lF hmem)) (by omega)) rfl ?_;refine sZ ?_;refine aC (cM (V:=λ _:Unit=>(aA L ((k+1:Nat):Int)).nd.v) (hs:=[(bk,jV L cs gen m pn cn pc cc)]) (os:=[]) (hs':=λ _=>[(bk,jV L cs gen m pn cn pc cc)]) (os':=λ _=>[]) (Fc:=λ _=>[]) (A0:=uV L cs pn pc) (hA:=bP.of λ f hf=>.inr (.inl hf)) (hc:=λ w1 hw=>by rw[hk];exact jQ hw hkl hl)) (λ x20 h20=>?_);refine aN (λ x8=>?_);refine J5 ?_;refine gU ?_;refine sX ?_
    refine aZ (λ c23=>?_) (λ c23=>?_)
    · try (first|contradiction|(exfalso;omega))
      have ht2:T2 (L.map aL.c) cs n ((k+1:Nat):Int):=(hbb.resolve_left (λ h=>by have h':(aA L ((k+1:Nat):Int)).nd.kind=4:=h;omega)).2
      obtain⟨R2,hR2⟩:∃R2,eK (L.map aL.c) cs ((k+1:Nat):Int)=some R2:=by
       cases n with
       | zero=>exact ht2.elim
       | succ n=>obtain⟨R2,h,_⟩:=ht2;exact⟨R2,h⟩
      rw[if_pos (show(aA L ((k+1:Nat):Int)).c.kind=2 from c23)] at hdr
      refine Kp ?_;refine bN ?_;refine aC (cM (V:=λ _:Unit=>.int .i64 ((dpf ((k+1:Nat):Int):Nat):Int)) (hs:=[(bk,jV L cs gen m pn cn pc cc)]) (os:=[]) (hs':=λ _=>[(bk,jV L cs gen m pn cn pc cc)]) (os':=λ _=>[]) (Fc:=λ _=>[]) (A0:=uV L cs pn pc) (hA:=bP.of λ f hf=>.inr (.inl hf)) (hc:=λ w1 hw=>by rw[hfe];exact ih hw hR2 ht2)) (λ x27 h27=>?_);refine C6 ?_;(refine aT (fH (qn rf rf)) (λ x29=>?_));refine J1 ?_;refine eX ?_;refine Ka3 ?_
      refine dO ((by exact(y.1+1,(λ _:Unit=>max y.2 (1+dpf ((k+1:Nat):Int))) x27))) ?_ ?_ ?_
      · omega
      · repeat' (first|exact bB _|refine aY ?_ ?_)
        all_goals (first|exact rfl|(conv=>{lhs;whnf};congr 1;dsimp only;omega))
      · exact⟨by show y.1+1<=_;omega,by first|(show y.2<=_;omega)|(show max _ _<=_;omega),by show Wu _ _ _ _=_;rw[<- hdr];exact hx3⟩
    · try (first|contradiction|(exfalso;omega))
      rw[if_neg (show ¬(aA L ((k+1:Nat):Int)).c.kind=2 from c23)] at hdr
      refine Kc1 ?_
      refine dO ((by exact(y.1+1,y.2))) ?_ ?_ ?_
      · omega
      · repeat' (first|exact bB _|refine aY ?_ ?_)
        all_goals (exact rfl)
      · exact⟨by show y.1+1<=_;omega,by first|(show y.2<=_;omega)|(show max _ _<=_;omega),by show Wu _ _ _ _=_;rw[<- hdr];exact hx3⟩
  · try (first|contradiction|(exfalso;omega))
    refine bF rfl ?_;refine Ka5 ?_
    refine aQ Tryz.results41 (λ w hw=>?_)
    have hy:y.1=V.xs.length:=by omega
    have h9:=hx.2.2
    rw[hy,List.drop_length] at h9
    exact⟨(),by rw[<- h9];rfl,trivial,hw.aS⟩
end
end

/- The program's shape, part 10: Depth of a trie. -/
section
open Go Go.RowKit Go.Ct
section
variable{L:List aL}{cs:List Int}{gen:Int}{m:Nat}{pn pc:Option Addr}{cn cc:Nat}{w:World}
theorem cf(ok:B9 L)(hM:yY L cs)(hc:cs.length<=274877906944):∀n,n<=13->z8 L cs gen m pn cn pc cc n
 | 0,_=>λ _ _ ht=>ht.elim
 | n+1,h=>ji ok hM hc (by omega) (cf ok hM hc n (by omega))
set_option maxRecDepth 100000 in
set_option maxHeartbeats 1000000 in
theorem au(h:iQ w L cs pn pc)(hT:Go.Ct.Cl w (some ⟨0,0,none⟩) (oV iS))(ok:B9 L)(hM:yY L cs)(hp:dM L cs gen)(hr:vX L)(hc:cs.length<=274877906944)(hcn:L.length<=cn)(c:Int)(ro:Bool)(hi:c<=9223372036854775807){l:List Int}(hn:wN L cs gen c=some l){r:Int}(hro:gD (L.map aL.c) cs c=some r)(ht:T2 (L.map aL.c) cs 12 r) :
  Calls Tryz.prog 14 #[sI L cs gen pn cn pc cc,.agg ⟨[.int .i64 c,.bool ro]⟩] w λ e w'=>e=.returned (.int .i64 ((cw (L.map aL.c) cs 12 r:Nat):Int))/\St w [] [] w':=by
 have hl:=ok.len
 obtain⟨R,hR⟩:∃R,eK (L.map aL.c) cs r=some R:=by obtain⟨R,h1,_⟩:=ht;exact⟨R,h1⟩
 obtain⟨k,hk,hkl⟩:∃k:Nat,r=((k+1:Nat):Int)/\k<L.length:=by
  have h2:(cB (L.map aL.c) r).kind=2:=by
   unfold eK at hR
   split at hR
   ·rename_i h1;exact h1.1
   ·cases hR
  have:=dD (N:=L.map aL.c) (i:=r) (by omega)
  rw[List.length_map] at this
  exact⟨(r-1).toNat,by omega,by omega⟩
 obtain⟨dd,hdd⟩:∃dd,dd=cw (L.map aL.c) cs 12 r:=⟨_,rfl⟩
 have dp:z8 L cs gen 0 pn cn pc cc 12:=cf ok hM hc 12 (by decide)
 rw[<- hdd]
 subst hk
 refine enter Tryz.func14 Tryz.ntmps14 rfl rfl (Sl h hT) ?_
 simp only[cO]
 simp only[sI]
 refine J0 ?_;refine bQ (λ x2=>?_);refine bQ (λ x3=>?_);refine gQ ?_;refine kV ?_;refine bN ?_;refine aC (cF (Fc:=λ x:Option Addr×Nat=>[(x.1,aG l)]) (hc:=λ w1 hw=>wX (hw.vY (.inr (.inl (.head _))) (.inr (.inl (.tail _ (.head _)))) (λ f hf=>.inr (.inl (.tail _ (.tail _ (.tail _ hf))))) h.fit) hr hl hc hcn c ro hi hn)) (λ x13 h13=>?_);refine Ka8 ?_;refine J2 ?_;refine Kc0 ?_
 refine aZ (λ c17=>?_) (λ c17=>?_)
 ·exact nv c17
 ·try (first|contradiction|(exfalso;omega))
  refine bA ?_;refine kV ?_;refine bN ?_;refine aT (cV (v:=.tuple #[.int .i64 ((k+1:Nat):Int),.bool true]) (hc:=λ w1 hw=>by have h9:=H4 (gen:=gen) (cc:=cc) (hw.vY (.inr (.inl (.head _))) (.inr (.inl (.tail _ (.head _)))) (λ f hf=>.inr (.inl (.tail _ (.tail _ (.tail _ hf))))) h.fit) hr hl hc hcn c ro hi;rw[show M2 L cs gen (gD (L.map aL.c) cs c)=some ((k+1:Nat):Int) by unfold M2;rw[if_pos hp,hro]] at h9;exact h9)) (λ x21=>?_);refine Kb8 ?_;refine mJ ?_
  refine aZ (λ c25=>?_) (λ c25=>?_)
  ·exact nv c25
  ·try (first|contradiction|(exfalso;omega))
   refine bA ?_;refine kV ?_;refine bG ?_;refine bQ (λ x28=>?_);refine sZ ?_;refine aB ?_;refine aC (cM (V:=λ _:Unit=>(aA L ((k+1:Nat):Int)).nd.v) (hs:=[(x28,jV L cs gen 0 pn cn pc cc)]) (os:=[]) (hs':=λ _=>[(x28,jV L cs gen 0 pn cn pc cc)]) (os':=λ _=>[]) (Fc:=λ _=>[]) (A0:=uV L cs pn pc) (hA:=bP.of λ f hf=>.inr (.inl hf)) (hc:=λ w1 hw=>jQ hw hkl hl)) (λ x32 h32=>?_);refine aC (cM (V:=λ _:Unit=>.int .i64 ((dd:Nat):Int)) (hs:=[(x28,jV L cs gen 0 pn cn pc cc)]) (os:=[]) (hs':=λ _=>[(x28,jV L cs gen 0 pn cn pc cc)]) (os':=λ _=>[]) (Fc:=λ _=>[]) (A0:=uV L cs pn pc) (hA:=bP.of λ f hf=>.inr (.inl hf)) (hc:=λ w1 hw=>by rw[hdd];exact dp hw hR ht)) (λ x33 h33=>?_);refine J1 ?_
   refine aQ Tryz.results14 (λ w hw=>?_)
   first
   | exact⟨rfl,hw.done⟩
   | (exfalso;simp_all;done)
end
end

/- ShapeReached: the sanity check. -/
section
open Go Go.RowKit Go.Ct
theorem j4(w:World):Calls Tryz.prog 15 #[] w λ e w'=>∃q:Nat×AX×AX×Option Addr×Nat,e=.returned (.tuple #[.pointer (some ⟨q.1,0,none⟩),.agg ⟨[.int .i64 3,.bool false]⟩])/\True /\
  SF w [] [(q.1,mO (L4 q.2.1 q.2.2.1) [0,3,4] 1 0 q.2.2.1.pn q.2.2.1.cn q.2.2.2.1 q.2.2.2.2)] [] (aW (L4 q.2.1 q.2.2.1)) (mW (L4 q.2.1 q.2.2.1) [0,3,4] q.2.2.1.pn q.2.2.1.cn q.2.2.2.1 q.2.2.2.2) w':=by
 refine enter Tryz.func15 Tryz.ntmps15 rfl rfl (SF.s0 w) ?_
 simp only[cO]
 refine J0 ?_;refine qM (λ _=>?_);refine aN (λ x1=>?_);refine aI ?_;refine J0 ?_;refine aC (Z5 (Fc:=λ _=>[]) (hc:=λ w1 hw=>Oe w1)) (λ x3 h3=>?_);refine sZ ?_;refine aC (cM (hc:=λ w hs=>Lf hs)) (λ x6 h6=>?_);refine qM (λ _=>?_);refine J5 ?_
 refine bK Tryz.results15 (λ w hw=>?_)
 exact⟨(x3.1,x6.1,x6.2.1,x6.2.2.1,x6.2.2.2),rfl,trivial,hw.v1⟩
section
variable{L:List aL}{N:List Nv}{cs:List Int}{pn pc:Option Addr}{cn cc:Nat}{w:World}
theorem Nh(hN:L.map aL.c=N)(als:Sj L)(hp:eD N cs 1)(hl:L.length<=100)(hc:cs.length<=100)(h:iQ w L cs pn pc)(hT:Go.Ct.Cl w (some ⟨0,0,none⟩) (oV iS))(hcn:L.length<=cn){c:Int}(hi:c<=100){r:Int}{l:List Int}(hro:gD N cs c=some r)(hv:Bd N cs 12 r []=some l)(ht:T2 N cs 12 r){b:Bool}(hb:b=true↔Vv N cs 0 12 r [] 0) :
  Calls Tryz.prog 11 #[sI L cs 1 pn cn pc cc,.agg ⟨[.int .i64 c,.bool false]⟩,.int .u64 0] w λ e w'=>e=.returned (.int .i64 (if b=true then 0 else 8))/\St w [] [] w':=by
 subst hN
 have hp2:dM L cs 1:=hp.to rfl
 refine(S7 (m:=0) h hT (sg hp2 als.tx als.fit (by omega) als.hash) (pw hp2) hp2 als.tx (by omega) hcn (by decide) c false (by omega) (by rw[qG hp2,hro];exact hv) hro ht).mono ?_
 rintro e w' ⟨q,e1,h1,h2⟩
 refine⟨?_,h2.done⟩
 rw[e1]
 have:q=b:=by rw[Bool.eq_iff_iff];exact h1.trans hb.symm
 rw[this]
theorem Ze(hN:L.map aL.c=N)(als:Sj L)(hp:eD N cs 1)(hl:L.length<=100)(hc:cs.length<=100)(h:iQ w L cs pn pc)(hT:Go.Ct.Cl w (some ⟨0,0,none⟩) (oV iS))(hcn:L.length<=cn){c:Int}(hi:c<=100){r:Int}{l:List Int}(hro:gD N cs c=some r)(hv:Bd N cs 12 r []=some l)(ht:T2 N cs 12 r){d:Nat}(hd:cw N cs 12 r=d) :
  Calls Tryz.prog 14 #[sI L cs 1 pn cn pc cc,.agg ⟨[.int .i64 c,.bool false]⟩] w λ e w'=>e=.returned (.int .i64 ((d:Nat):Int))/\St w [] [] w':=by
 subst hN hd
 have hp2:dM L cs 1:=hp.to rfl
 exact au h hT (sg hp2 als.tx als.fit (by omega) als.hash) (pw hp2) hp2 als.tx (by omega) hcn c false (by omega) (by rw[qG hp2,hro];exact hv) hro ht
end
section
variable{x y:AX}{pn pc:Option Addr}{cn cc:Nat}{w:World}
theorem Vh(h:iQ w (L4 x y) [0,3,4] pn pc)(hT:Go.Ct.Cl w (some ⟨0,0,none⟩) (oV iS))(hcn:(L4 x y).length<=cn):Calls Tryz.prog 11 #[sI (L4 x y) [0,3,4] 1 pn cn pc cc,.agg ⟨[.int .i64 3,.bool false]⟩,.int .u64 0] w λ e w'=>e=.returned (.int .i64 0)/\St w [] [] w' :=
 Nh (b:=true) (vg x y) (Jb x y) Hr (by show 4<=100;decide) (by decide) h hT hcn (by decide) Sn X1 rv ⟨λ _=>yf 0,λ _=>rfl⟩
theorem T5(h:iQ w (L4 x y) [0,3,4] pn pc)(hcn:(L4 x y).length<=cn):Calls Tryz.prog 13 #[sI (L4 x y) [0,3,4] 1 pn cn pc cc,.agg ⟨[.int .i64 3,.bool false]⟩] w λ e w'=>e=.returned (.bool true)/\St w [] [] w':=by
 have hp2:dM (L4 x y) [0,3,4] 1:=Hr.to (vg x y)
 refine K7 (cz:=2) (l:=[4]) h (Jb x y).tx (by show 4<=274877906944;decide) (by decide) hcn false (by decide) (by show wN _ _ _ 3=_;rw[qG hp2,vg,Sn];exact X1) (by decide) rfl λ j hj=>?_
 have:j=0:=by simp at hj;omega
 subst this
 exact⟨3,1,2,0,rfl,by show 3<4;decide,rfl,by decide,rfl,by show 2<4;decide,.inl rfl,rfl,by decide,rfl⟩
end
section
variable{x1 x2 x3 x4 x5:AX}{pn pc:Option Addr}{cn cc:Nat}{w:World}
theorem Uk(h:iQ w (b9 x1 x2 x3 x4 x5) Tv pn pc)(hT:Go.Ct.Cl w (some ⟨0,0,none⟩) (oV iS))(hcn:(b9 x1 x2 x3 x4 x5).length<=cn):Calls Tryz.prog 11 #[sI (b9 x1 x2 x3 x4 x5) Tv 1 pn cn pc cc,.agg ⟨[.int .i64 5,.bool false]⟩,.int .u64 0] w λ e w'=>e=.returned (.int .i64 8)/\St w [] [] w' :=
 Nh (b:=false) (y0 x1 x2 x3 x4 x5) (Jl x1 x2 x3 x4 x5) G3 (by show 7<=100;decide) (by decide) h hT hcn (by decide) Rt bs Wh ⟨λ h=>(nomatch h),λ h=>absurd h (zo 0)⟩
theorem Tu(h:iQ w (b9 x1 x2 x3 x4 x5) Tv pn pc)(hT:Go.Ct.Cl w (some ⟨0,0,none⟩) (oV iS))(hcn:(b9 x1 x2 x3 x4 x5).length<=cn):Calls Tryz.prog 14 #[sI (b9 x1 x2 x3 x4 x5) Tv 1 pn cn pc cc,.agg ⟨[.int .i64 5,.bool false]⟩] w λ e w'=>e=.returned (.int .i64 1)/\St w [] [] w' :=
 Ze (d:=1) (y0 x1 x2 x3 x4 x5) (Jl x1 x2 x3 x4 x5) G3 (by show 7<=100;decide) (by decide) h hT hcn (by decide) Rt bs Wh yi
end
theorem Qg{x1 x2 x3 x4 x5:AX}{A F:Fr}{O:List Ow}(h1:∀f∈(kG kz [] [] 0 x1).fr,f∈F)(h2:∀f∈(kG Ry [3] [] 0 x2).fr,f∈F)(h3:∀f∈(kG (uJ 1) [] [] 1 x3).fr,f∈F)(h4:∀f∈(kG Ry [5] [] 2 x4).fr,f∈F)(h5:∀f∈(kG (uJ 1) [] [] 3 x5).fr,f∈F):∀f∈aW (b9 x1 x2 x3 x4 x5),Has A F O f:=λ f hf=>by
 obtain⟨v,hv,hf⟩:=lC.1 hf
 simp only[b9,List.cons_append,List.nil_append,List.mem_cons,List.not_mem_nil,or_false] at hv
 rcases hv with rfl|rfl|rfl|rfl|rfl|rfl|rfl
 ·simp only[aL.fr,List.mem_cons,List.not_mem_nil,or_false] at hf;rcases hf with rfl|rfl<;>exact .inl rfl
 ·simp only[aL.fr,List.mem_cons,List.not_mem_nil,or_false] at hf;rcases hf with rfl|rfl<;>exact .inl rfl
 ·exact .inr (.inr (.inl (h1 f hf)))
 ·exact .inr (.inr (.inl (h2 f hf)))
 ·exact .inr (.inr (.inl (h3 f hf)))
 ·exact .inr (.inr (.inl (h4 f hf)))
 ·exact .inr (.inr (.inl (h5 f hf)))
set_option maxRecDepth 100000 in
theorem Uo{w:World}(hT:Go.Ct.Cl w (some ⟨0,0,none⟩) (oV iS)):Calls Tryz.prog 10 #[] w λ e w'=>e=.returned (.bool true)/\St w [] [] w':=by
 refine enter Tryz.func10 Tryz.ntmps10 rfl rfl (SF.begin (A:=[(some ⟨0,0,none⟩,oV iS)]) (λ f hf=>by rw[List.mem_singleton.1 hf];exact hT)) ?_
 simp only[cO]
 refine cQ ?_;refine J0 ?_;refine aC (Z5 (Fc:=λ q:Nat×AX×AX×Option Addr×Nat=>aW (L4 q.2.1 q.2.2.1)) (hc:=λ w1 hw=>j4 w1)) (λ x10 h10=>?_);refine Fq ?_;refine aN (λ x2=>?_);refine qM (λ _=>?_);refine J5 ?_;refine J0 ?_;refine aC (Z5 (Fc:=λ _=>[]) (hc:=λ w1 hw=>Oe w1)) (λ x13 h13=>?_);refine Ka4 ?_;refine bG ?_;refine aC (cM (A0:=[(none,aG []),(none,dG [])]) (hc:=λ w hs=>nB (L:=[cN,cN]) (cs:=[]) (n:=kz) (xs:=[]) (ys:=[]) 0 hs rfl rfl (by decide) (by decide) (show(2:Nat)<=274877906944 by decide) (by decide))) (λ x16 h16=>?_);refine sZ ?_;refine aT (Fo (λ _=>cE (cs:=aG [3]) kO F5 rfl rfl rfl rfl rfl)) (λ x19=>?_);refine bG ?_;refine aC (cM (A0:=[(some ⟨x19,0,none⟩,aG [3]),(none,dG [])]) (hc:=λ w hs=>nB (L:=[cN,cN]++[kG kz [] [] 0 x16]) (cs:=[]) (n:={Ry with brA:=some ⟨x19,0,none⟩,brN:=1,brC:=1}) (xs:=[3]) (ys:=[]) 0 hs rfl rfl (by decide) (by decide) (show(3:Nat)<=274877906944 by decide) (by decide))) (λ x21 h21=>?_);refine J1 ?_;refine Fv ?_;refine xK ?_;refine J2 ?_;refine bG ?_;refine aB ?_;refine aC (cM (A0:=[(none,aG []),(none,dG [])]) (hc:=λ w hs=>nB (L:=[cN,cN]++[kG kz [] [] 0 x16]++[kG Ry [3] [] 0 x21]) (cs:=[0]) (n:=uJ 1) (xs:=[]) (ys:=[]) 4 hs rfl rfl (by decide) (by decide) (show(4:Nat)<=274877906944 by decide) (by decide))) (λ x29 h29=>?_);refine Ka4 ?_;refine bG ?_;refine oX ?_;refine aT (Fo (λ _=>cE (cs:=aG [5]) kO F5 rfl rfl rfl rfl rfl)) (λ x34=>?_);refine bG ?_;refine aC (cM (A0:=[(some ⟨x34,0,none⟩,aG [5]),(none,dG [])]) (hc:=λ w hs=>nB (L:=[cN,cN]++[kG kz [] [] 0 x16]++[kG Ry [3] [] 0 x21]++[kG (uJ 1) [] [] 1 x29]) (cs:=[0,4]) (n:={Ry with brA:=some ⟨x34,0,none⟩,brN:=1,brC:=1}) (xs:=[5]) (ys:=[]) 0 hs rfl rfl (by decide) (by decide) (show(5:Nat)<=274877906944 by decide) (by decide))) (λ x36 h36=>?_);refine aC (cM (A0:=[(none,aG []),(none,dG [])]) (hc:=λ w hs=>nB (L:=[cN,cN]++[kG kz [] [] 0 x16]++[kG Ry [3] [] 0 x21]++[kG (uJ 1) [] [] 1 x29]++[kG Ry [5] [] 2 x36]) (cs:=[0,4,0]) (n:=uJ 1) (xs:=[]) (ys:=[]) 6 hs rfl rfl (by decide) (by decide) (show(6:Nat)<=274877906944 by decide) (by decide))) (λ x37 h37=>?_);refine sZ ?_;refine aC (cM (hc:=λ w hs=>iU (L:=b9 x16 x21 x29 x36 x37) (cs:=[0,4,0,6]) 7 hs (by decide))) (λ x40 h40=>?_);refine bG ?_;refine aN (λ x8=>?_);refine J5 ?_;refine aR ?_;refine fJ [0,1,2,3,4,5,6,7,8,9,10,11,12,13,14,15,16,17,18,19,20,21,22,23,24,25,26,27,28,29,30,31,32,33] ?_;refine J9 ?_;refine bJ (i:=3) (hq:=(aK (k:=3) rf dV fX (by simp only[List.drop_zero,List.take_succ_cons,List.take_zero];exact rfl) rfl)) (h:=?_);refine bO ?_;refine cY (i:=5) (hq:=(cV (v:=.int .i64 0) (hc:=λ w1 hw=>Vh (hw.vY (.inr (.inr (.inr ⟨_,.tail _ (.tail _ (.head _)),rfl,rfl⟩))) (.inr (.inr (.inr ⟨_,.tail _ (.tail _ (.tail _ (.head _))),rfl,rfl⟩))) (λ f hf=>.inr (.inr (.inl (by repeat (first|exact hf|refine List.mem_append_right _ ?_|refine List.mem_cons_of_mem _ ?_))))) (Jb x10.2.1 x10.2.2.1).fit) (hw.cl (.bM (.head))) (hw.Tq (.tail (.tail .head)))))) (h:=λ x47=>?_);refine mZ ?_;refine aU ?_
 (refine aU ?_)
 ((refine kB ?_));((refine aP ?_));((refine bJ (i:=11) (hq:=(aK (k:=3) rf dV fX (by simp only[List.drop_zero,List.take_succ_cons,List.take_zero];exact rfl) rfl)) (h:=?_)));((refine bO ?_));((refine cY (i:=13) (hq:=(cV (v:=.bool true) (hc:=λ w1 hw=>T5 (hw.vY (.inr (.inr (.inr ⟨_,.tail _ (.tail _ (.head _)),rfl,rfl⟩))) (.inr (.inr (.inr ⟨_,.tail _ (.tail _ (.tail _ (.head _))),rfl,rfl⟩))) (λ f hf=>.inr (.inr (.inl (by repeat (first|exact hf|refine List.mem_append_right _ ?_|refine List.mem_cons_of_mem _ ?_))))) (Jb x10.2.1 x10.2.2.1).fit) (hw.Tq (.tail (.tail .head)))))) (h:=λ x55=>?_)));refine iW ?_;refine aU ?_
 (refine aU ?_)
 ((refine kB ?_));((refine aP ?_));((refine bJ (i:=19) (hq:=(aK (k:=3) rf dV fX (by simp only[List.drop_zero,List.take_succ_cons,List.take_zero];exact rfl) rfl)) (h:=?_)));((refine bO ?_));((refine cY (i:=21) (hq:=(cV (v:=.int .i64 8) (hc:=λ w1 hw=>Uk (hw.vY (.inr (.inr (.inr ⟨_,.head _,rfl,rfl⟩))) (.inr (.inr (.inr ⟨_,.tail _ (.head _),rfl,rfl⟩))) (Qg (λ f hf=>(by repeat (first|exact List.mem_append_left _ hf|refine List.mem_append_right _ ?_|refine List.mem_cons_of_mem _ ?_))) (λ f hf=>(by repeat (first|exact List.mem_append_left _ hf|refine List.mem_append_right _ ?_|refine List.mem_cons_of_mem _ ?_))) (λ f hf=>(by repeat (first|exact List.mem_append_left _ hf|refine List.mem_append_right _ ?_|refine List.mem_cons_of_mem _ ?_))) (λ f hf=>(by repeat (first|exact List.mem_append_left _ hf|refine List.mem_append_right _ ?_))) (λ f hf=>(by repeat (exact List.mem_append_left _ hf)))) (Jl x16 x21 x29 x36 x37).fit) (hw.cl (.bM (.head))) (hw.Tq .head)))) (h:=λ x63=>?_)));refine nq ?_;refine aU ?_
 (refine aU ?_)
 ((refine kB ?_));((refine aP ?_));((refine bJ (i:=28) (hq:=(aK (k:=3) rf dV fX (by simp only[List.drop_zero,List.take_succ_cons,List.take_zero];exact rfl) rfl)) (h:=?_)));((refine bO ?_));((refine cY (i:=30) (hq:=(cV (v:=.int .i64 1) (hc:=λ w1 hw=>Tu (hw.vY (.inr (.inr (.inr ⟨_,.head _,rfl,rfl⟩))) (.inr (.inr (.inr ⟨_,.tail _ (.head _),rfl,rfl⟩))) (Qg (λ f hf=>(by repeat (first|exact List.mem_append_left _ hf|refine List.mem_append_right _ ?_|refine List.mem_cons_of_mem _ ?_))) (λ f hf=>(by repeat (first|exact List.mem_append_left _ hf|refine List.mem_append_right _ ?_|refine List.mem_cons_of_mem _ ?_))) (λ f hf=>(by repeat (first|exact List.mem_append_left _ hf|refine List.mem_append_right _ ?_|refine List.mem_cons_of_mem _ ?_))) (λ f hf=>(by repeat (first|exact List.mem_append_left _ hf|refine List.mem_append_right _ ?_))) (λ f hf=>(by repeat (exact List.mem_append_left _ hf)))) (Jl x16 x21 x29 x36 x37).fit) (hw.cl (.bM (.head))) (hw.Tq .head)))) (h:=λ x72=>?_)));refine nq ?_;refine J7 ?_
 refine aQ Tryz.results10 (λ w hw=>?_)
 exact⟨rfl,hw.done⟩
end

end Go.Proofs.YtadnboagdhcedaaGreatDoor

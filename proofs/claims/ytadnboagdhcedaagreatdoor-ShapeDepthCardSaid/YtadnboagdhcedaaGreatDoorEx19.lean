/- Executions of the reference: one attempt of DROP at a leaf. -/
import Derived.Test.YtadnboagdhcedaaGreatDoorGEx18
set_option linter.unusedSimpArgs false
set_option linter.unusedVariables false
namespace Go.Ct
open Go Go.RowKit
theorem nS{g:Gx}{x:XS}{r:Int}{K:Nv->Tr}(h:fD g x (.node r K))(hr:r<=x.L.length):fD g x (K (aA x.L r).c):=by
 have:=h.node hr
 rwa [show cA x.nodes r=(aA x.L r).c from(Km x.L r).symm] at this
section
variable{P:Program}{S:List (Nat×Value)}{G:World->Prop}{d:Nat}{ty t t':TypeId}{pos:String}{af:Array Edge}{gd:Option (Nat×Bool)}{x y:Operand}{a b:ByteArray}
theorem fp(hx:ev S x=.string a)(hy:ev S y=.string b)(h:¬a=b):aJ P S G ⟨some d,.binOp .neq t x y t',ty,pos,af,gd⟩ (.bool true):=by
 have:=D2 (P:=P) (G:=G) (d:=d) (ty:=ty) (pos:=pos) (af:=af) (gd:=gd) (t:=t) (t':=t') hx hy
 rwa [bne,og h] at this
theorem jc(hx:ev S x=.string a)(hy:ev S y=.string b)(h:a=b):aJ P S G ⟨some d,.binOp .neq t x y t',ty,pos,af,gd⟩ (.bool false):=by
 have:=D2 (P:=P) (G:=G) (d:=d) (ty:=ty) (pos:=pos) (af:=af) (gd:=gd) (t:=t) (t':=t') hx hy
 rwa [bne,pj h] at this
end
end Go.Ct
namespace Go.Proofs.YtadnboagdhcedaaGreatDoor
open Go Go.RowKit Go.Ct
theorem ly{m:Nat}{o:Option (Nat×List Int)}{w:World}(h:tK m o){x:Option Addr×Nat}{r:Nv}(e:r=(lG o x).c (kO o) [])(hc:Go.Ct.Cl w x.1 (aG (kO o))):Calls Tryz.prog 149 #[(lG o x).v] w λ e w'=>e=.returned (.tuple #[.int .i64 ((Iz r).getD 0),.bool (Iz r).isSome])/\St w [] [] w':=by
 obtain⟨b,h1,h2⟩:=M5 h x
 have:=H2 (n:=lG o x) h1 h2 (Np h hc)
 rw[qq,<- e] at this
 exact this
theorem zk{m:Nat}{o:Option (Nat×List Int)}(h:tK m o){x:Option Addr×Nat}{r:Nv}(e:r=(lG o x).c (kO o) []):(Iz r).getD 0<=m:=by
 rw[e,<- qq]
 unfold Wl
 split
 ·refine mA (λ v hv=>?_) 0
  cases o with
  | none=>exact(List.not_mem_nil hv).elim
  | some q=>exact(h.out q rfl).2.2 v hv
 ·exact bF _
section
variable{k:Cl}{bx bm:Nat}{x:XS}{dn:Bool}{rs:Rs}{D:List Nat}{A:Fr}{w:World}{g:Gx}
set_option maxRecDepth 100000 in
theorem Oy(hg:g.Ok)(i m:Int){h:Nat}(hh:h<18446744073709551616)(level:Nat)(hlv:level<=1073741824)(K:Rs->Int->Tr)(ht:k.t.root<=9223372036854775807)(hi:i<=x.L.length)(hm:m<=x.L.length)(hA:∀f∈aV x.L,f∈A)(hk:(aA x.L m).nd.kind=6)(go:fD g x (jE k i m h level K))(ok:x.Ok)(hs:SF w D (xH k bx bm x dn rs) A [] (xW x) w):Calls Tryz.prog 124 #[.pointer (some ⟨bx,0,none⟩),.int .i64 i,.int .i64 m,.int .u64 (h:Int),.int .i64 (level:Int)] w (V1 g x K bx bm k dn rs D w):=by
 have hyl:=pR ok m
 have hlL:=ok.lL
 have h48:fD g x _/\nU x.L.length x.cs.length (aA x.L m).c:=⟨nS go hm,ok.nv m⟩
 refine enter Tryz.func124 Tryz.ntmps124 rfl rfl (bX hs) ?_
 simp only[cP]
 refine J0 ?_;refine aP (λ x10=>?_);refine gP ?_
 refine dV [12,13,26,27,28,29,30,31,32,33] (λ j:Nat=>[(12,.pointer (some ⟨j,0,none⟩)),(13,.string k.key)]) (λ _=>True) (λ j=>[(j,.cells ⟨(aA x.L m).nd.cells⟩ 77 (0,0)),(x10,.cells ⟨Rs.zero.cells⟩ 68 (0,0)),(bx,xO k bm x dn rs),(bm,xM x)]) (λ _=>[]) (λ _=>xW x) (by decide) (λ _=>by exact rfl) ?_ (λ j f hx=>?_)
 ·refine gK (.one 0 [] (.one 1 [] (.one 3 [] (.one 4 [] (.one 5 [] (.one 6 [] (.one 7 [] (.two 2 [7] (.one 8 [7] (.one 9 [7] (.one 10 [] .nil))) 0 [] (.two 8 [7] (.one 2 [7] (.one 9 [7] (.one 10 [] .nil))) 0 [] .nil))))))))) ?_
  refine gN ?_;refine tQ ?_
  refine gY (E:=[2,8]) (by decide +kernel) ((.cons ?_ (.cons ?_ .nil)))
  ·refine kU (i:=2) (hq:=(cM (hs:=xH k bx bm x dn rs) (os:=xW x) (hc:=λ w hs=>eS m (by omega) ok hs))) (h:=λ x28 h28=>?_)
   refine fS (h:=λ x12=>?_);refine Aa ?_
   refine eO (x12) ?_
   ·trivial
  ·refine gB (i:=8) (h:=λ x12=>?_)
   refine bC (i:=2) (hq:=(cM (hs:=xH k bx bm x dn rs) (os:=xW x) (hc:=λ w hs=>eS m (by omega) ok hs))) (h:=λ x28 h28=>?_);refine Aa ?_
   refine eO (x12) ?_
   ·trivial
 dsimp only[fY,List.map,List.cons_append,List.nil_append]
 refine An ?_;refine sX ?_
 refine aZ (λ c36=>?_) (λ c36=>?_)
 ·have g1:=h48.1.to (λ _=>if_pos hk)
  refine gU ?_;refine aB ?_;refine aU (cV (hc:=λ w1 hw=>Ji (v:=(aA x.L m)) (n:=0) k.key (ok.qQ hw hA m) (ok.ysl m))) (λ x41=>?_);refine aB ?_;refine aE (bL rf rfl) rfl ?_;refine aE (bL rf rfl) rfl ?_;refine J8 ?_;refine kR ?_;refine C4 ?_
  (refine eF 46 (λ g46=>?_) (λ g46=>?_)<;>refine Ka0 ?_)
  all_goals ((first|refine aH ?_|(refine aF ?_;refine dL ?_));refine Ka1 ?_;refine Ka1 ?_;refine Ka2 ?_;refine Ka0 ?_)
  all_goals (first|refine yC ?_|(refine eF 52 (λ g52=>?_) (λ g52=>?_)<;>refine Ka0 ?_))
  all_goals ((first|refine aH ?_|refine yC ?_|(refine Ka4 ?_));(first|refine aH ?_|refine yC ?_|(refine aF ?_;refine dL ?_));(first|refine aH ?_|refine yC ?_|(refine aF ?_;refine aD ?_));(first|refine aH ?_|refine yC ?_|(refine aF ?_;refine aD ?_));(first|refine aH ?_|refine yC ?_|(refine aF ?_;refine bN ?_));(first|refine aH ?_|refine yC ?_|(refine aF ?_;refine jS ?_));(first|refine aH ?_|(refine aF ?_;refine cH ?_));refine cH ?_;refine aI ?_)
  all_goals
  refine aZ (λ c61=>?_) (λ c61=>?_)
  ·try exact nv c61
   all_goals
    have g2:=g1.to (λ _=>if_pos (show((dG (aA x.L m).c.ys k.key).isSome=false∨(k.only=true/\(dG (aA x.L m).c.ys k.key).getD 0≠k.exp)) from by first|exact Or.inl (by assumption)|exact Or.inr ⟨by assumption,by assumption⟩))
   all_goals (refine iQ ?_;refine aU (cV (hc:=λ w1 hw=>fL _ _ w1)) (λ x64=>?_);refine B2 ?_)
   all_goals
    refine bK Tryz.results124 (λ w hw=>?_)
    exact⟨(iK (dG (aA x.L m).c.ys k.key).isSome ((dG (aA x.L m).c.ys k.key).getD 0),1,x,[]),rfl,⟨g2,ok,by simp,Nat.le_refl _,bF _⟩,hw.aT (hF:=by exact aW.nil)⟩
  ·try exact nv c61
   all_goals
    have g2:=g1.to (λ _=>if_neg (show ¬((dG (aA x.L m).c.ys k.key).isSome=false∨(k.only=true/\(dG (aA x.L m).c.ys k.key).getD 0≠k.exp)) from by rintro (h|⟨h,h'⟩)<;>simp_all))
   all_goals (refine bA ?_;refine Bx ?_;refine aC (cF (hc:=λ w1 hw=>y9 (v:=(aA x.L m)) h48.2 k.key (ok.qQ hw hA m) (by omega))) (λ x68 h68=>?_);refine aB ?_;refine aE (bL rf rfl) rfl ?_;refine aE (bL rf rfl) rfl ?_;refine aP (λ x16=>?_);refine lZ (λ _=>?_);refine gP ?_;refine eG [(0,[]),(1,[]),(2,[]),(3,[]),(4,[]),(5,[]),(6,[]),(7,[]),(8,[]),(9,[]),(10,[]),(11,[]),(14,[]),(12,[6]),(13,[]),(15,[]),(16,[]),(17,[]),(18,[]),(19,[])] ?_;refine gN ?_;refine J9 ?_;refine aM ?_;refine bH (i:=6) (hq:=(aK (k:=2) (vs:=[.int .i64 k.t.root,.bool k.t.ro]) rf dU fX rfl rfl)) (h:=?_);refine gN ?_;refine Kb6 ?_;refine gN ?_;refine bC (i:=12) (hq:=(cM (hs:=xH k bx bm x dn rs) (os:=xW x) (A0:=[((Kp (oN (aA x.L m).nd (aA x.L m).xs (aA x.L m).ys k.key) (aA x.L m).nd.hash x68).brA,aG []),((Kp (oN (aA x.L m).nd (aA x.L m).xs (aA x.L m).ys k.key) (aA x.L m).nd.hash x68).prA,dF (Fl (oN (aA x.L m).nd (aA x.L m).xs (aA x.L m).ys k.key)))]) (hA:=yx) (hc:=λ w hs=>fR hg (n:=Kp (oN (aA x.L m).nd (aA x.L m).xs (aA x.L m).ys k.key) (aA x.L m).nd.hash x68) (xs:=[]) (ys:=Fl (oN (aA x.L m).nd (aA x.L m).xs (aA x.L m).ys k.key)) m _ (bq _ _ _).1 (bq _ _ _).2 (by decide) (by have:=u7 (aA x.L m).xs (aA x.L m).ys (aA x.L m).nd k.key;omega) (tg _ h48.2.hash) hm (by rw[aAN];exact g2) ok hs))) (hfire:=(λ _=>by(refine hJ ?_;refine aN.cons (by exact eR (hq:=aK (k:=2) (vs:=[.int .i64 k.t.root,.bool k.t.ro]) rf dU fX rfl rfl)) ?_;exact aN.nil))) (h:=λ x83 h83=>?_);refine bC (i:=13) (hq:=(cM (hs:=xH k bx bm x83.2.1 dn rs) (os:=xW x83.2.1) (hc:=λ w hs=>rT hg k.t i m x83.1 _ ht (by have:=h83.len;omega) h83.bd h83.go h83.ok hs))) (h:=λ x84 h84=>?_))
   all_goals
    have hch:=Ch.nx h84 (Ch.nx h83 ((Ch.base (F:=[])).cons (f:=(x68.1,dF (Fl (oN (aA x.L m).nd (aA x.L m).xs (aA x.L m).ys k.key))))))
    have hlc:x.cs.length<=x84.2.1.cs.length:=by have:=h83.lc;have:=h84.lc;omega
   all_goals (refine cX (i:=15) (hq:=(cV (hc:=λ w1 hw=>nZ _ _ _ _ w1))) (h:=λ x86=>?_);refine cJ (i:=16) (hq:=(bL rf rfl)) (h:=?_);refine cJ (i:=17) (hq:=(bL rf rfl)) (h:=?_);refine Aa ?_)
   all_goals
    refine bK Tryz.results124 (λ w hw=>?_)
    obtain⟨N,hN,hf⟩:=hch.to (t':=K (qK true ((dG (aA x.L m).c.ys k.key).getD 0)) (if x84.1=true then 1 else 0)) h84 (h84.go) hlc (bF _)
    exact⟨(qK true ((dG (aA x.L m).c.ys k.key).getD 0),(if x84.1=true then 1 else 0),x84.2.1,N),rfl,hN,(hw.eN hf).v4⟩
 ·exact absurd hk c36
set_option maxRecDepth 100000 in
theorem Pm(hg:g.Ok)(i m:Int){h:Nat}(hh:h<18446744073709551616)(level:Nat)(hlv:level<=1073741824)(K:Rs->Int->Tr)(ht:k.t.root<=9223372036854775807)(hi:i<=x.L.length)(hm:m<=x.L.length)(hA:∀f∈aV x.L,f∈A)(hk:¬(aA x.L m).nd.kind=6)(hl:jT (aA x.L m).c (fT h (level:Int))=none)(go:fD g x (jE k i m h level K))(ok:x.Ok)(hs:SF w D (xH k bx bm x dn rs) A [] (xW x) w):Calls Tryz.prog 124 #[.pointer (some ⟨bx,0,none⟩),.int .i64 i,.int .i64 m,.int .u64 (h:Int),.int .i64 (level:Int)] w (V1 g x K bx bm k dn rs D w):=by
 have hyl:=pR ok m
 have hlL:=ok.lL
 have h48:fD g x _/\nU x.L.length x.cs.length (aA x.L m).c:=⟨nS go hm,ok.nv m⟩
 refine enter Tryz.func124 Tryz.ntmps124 rfl rfl (bX hs) ?_
 simp only[cP]
 refine J0 ?_;refine aP (λ x10=>?_);refine gP ?_
 refine dV [12,13,26,27,28,29,30,31,32,33] (λ j:Nat=>[(12,.pointer (some ⟨j,0,none⟩)),(13,.string k.key)]) (λ _=>True) (λ j=>[(j,.cells ⟨(aA x.L m).nd.cells⟩ 77 (0,0)),(x10,.cells ⟨Rs.zero.cells⟩ 68 (0,0)),(bx,xO k bm x dn rs),(bm,xM x)]) (λ _=>[]) (λ _=>xW x) (by decide) (λ _=>by exact rfl) ?_ (λ j f hx=>?_)
 ·refine gK (.one 0 [] (.one 1 [] (.one 3 [] (.one 4 [] (.one 5 [] (.one 6 [] (.one 7 [] (.two 2 [7] (.one 8 [7] (.one 9 [7] (.one 10 [] .nil))) 0 [] (.two 8 [7] (.one 2 [7] (.one 9 [7] (.one 10 [] .nil))) 0 [] .nil))))))))) ?_
  refine gN ?_;refine tQ ?_
  refine gY (E:=[2,8]) (by decide +kernel) ((.cons ?_ (.cons ?_ .nil)))
  ·refine kU (i:=2) (hq:=(cM (hs:=xH k bx bm x dn rs) (os:=xW x) (hc:=λ w hs=>eS m (by omega) ok hs))) (h:=λ x28 h28=>?_)
   refine fS (h:=λ x12=>?_);refine Aa ?_
   refine eO (x12) ?_
   ·trivial
  ·refine gB (i:=8) (h:=λ x12=>?_)
   refine bC (i:=2) (hq:=(cM (hs:=xH k bx bm x dn rs) (os:=xW x) (hc:=λ w hs=>eS m (by omega) ok hs))) (h:=λ x28 h28=>?_);refine Aa ?_
   refine eO (x12) ?_
   ·trivial
 dsimp only[fY,List.map,List.cons_append,List.nil_append]
 refine An ?_;refine sX ?_
 refine aZ (λ c36=>?_) (λ c36=>?_)
 ·exact absurd c36 hk
 ·have g0:=h48.1.to (λ _=>if_neg hk)
  have g1:=Ke g0 (by rw[hl];rfl)
  refine Ag ?_;refine aU (cV (hc:=λ w1 hw=>eH hh (level:Int) w1)) (λ x91=>?_);refine J1 ?_;refine Bx ?_;refine aU (cV (hc:=λ w1 hw=>nf (v:=(aA x.L m)) h48.2 hl (ok.qQ hw hA m))) (λ x95=>?_);refine aB ?_;refine aE (bL rf rfl) rfl ?_;refine aE (bL rf rfl) rfl ?_;refine J8 ?_;refine iQ ?_;refine aC (cM (hs:=xH k bx bm x dn rs) (os:=xW x) (hc:=λ w hs=>eS 0 (by decide) ok hs)) (λ x100 h100=>?_);refine aP (λ x21=>?_);refine J5 ?_;refine Eb ?_;refine iQ ?_
  refine aH ?_
  refine n6 ?_;refine J1 ?_
  refine aZ (λ c101=>?_) (λ c101=>?_)
  ·exact nv c101
  ·refine J2 ?_;refine C4 ?_
   refine aH ?_
   refine pu ?_;(refine aH ?_);refine Kc8 ?_
   refine aZ (λ c109=>?_) (λ c109=>?_)
   ·refine J0 ?_;refine aU (cV (hc:=λ w1 hw=>fL _ _ w1)) (λ x118=>?_);refine B2 ?_
    refine bK Tryz.results124 (λ w hw=>?_)
    exact⟨(iK false 0,1,x,[]),rfl,⟨g1,ok,by simp,Nat.le_refl _,bF _⟩,hw.aT (hF:=by exact aW.nil)⟩
   ·exact nv c109
set_option maxRecDepth 100000 in
theorem Pj(hg:g.Ok)(i m:Int){h:Nat}(hh:h<18446744073709551616)(level:Nat)(hlv:level<=1073741824)(K:Rs->Int->Tr)(ht:k.t.root<=9223372036854775807)(hi:i<=x.L.length)(hm:m<=x.L.length)(hA:∀f∈aV x.L,f∈A)(hk:¬(aA x.L m).nd.kind=6){b:Int}(hl:jT (aA x.L m).c (fT h (level:Int))=some b)(hi2:(aA x.L b).nd.kind=2)(go:fD g x (jE k i m h level K))(ok:x.Ok)(hs:SF w D (xH k bx bm x dn rs) A [] (xW x) w):Calls Tryz.prog 124 #[.pointer (some ⟨bx,0,none⟩),.int .i64 i,.int .i64 m,.int .u64 (h:Int),.int .i64 (level:Int)] w (V1 g x K bx bm k dn rs D w):=by
 have hyl:=pR ok m
 have hlL:=ok.lL
 have h48:fD g x _/\nU x.L.length x.cs.length (aA x.L m).c:=⟨nS go hm,ok.nv m⟩
 have hb:b<=x.L.length:=by have:=oV (ok.nv m) (fT h (level:Int));rw[hl] at this;exact this
 refine enter Tryz.func124 Tryz.ntmps124 rfl rfl (bX hs) ?_
 simp only[cP]
 refine J0 ?_;refine aP (λ x10=>?_);refine gP ?_
 refine dV [12,13,26,27,28,29,30,31,32,33] (λ j:Nat=>[(12,.pointer (some ⟨j,0,none⟩)),(13,.string k.key)]) (λ _=>True) (λ j=>[(j,.cells ⟨(aA x.L m).nd.cells⟩ 77 (0,0)),(x10,.cells ⟨Rs.zero.cells⟩ 68 (0,0)),(bx,xO k bm x dn rs),(bm,xM x)]) (λ _=>[]) (λ _=>xW x) (by decide) (λ _=>by exact rfl) ?_ (λ j f hx=>?_)
 ·refine gK (.one 0 [] (.one 1 [] (.one 3 [] (.one 4 [] (.one 5 [] (.one 6 [] (.one 7 [] (.two 2 [7] (.one 8 [7] (.one 9 [7] (.one 10 [] .nil))) 0 [] (.two 8 [7] (.one 2 [7] (.one 9 [7] (.one 10 [] .nil))) 0 [] .nil))))))))) ?_
  refine gN ?_;refine tQ ?_
  refine gY (E:=[2,8]) (by decide +kernel) ((.cons ?_ (.cons ?_ .nil)))
  ·refine kU (i:=2) (hq:=(cM (hs:=xH k bx bm x dn rs) (os:=xW x) (hc:=λ w hs=>eS m (by omega) ok hs))) (h:=λ x28 h28=>?_)
   refine fS (h:=λ x12=>?_);refine Aa ?_
   refine eO (x12) ?_
   ·trivial
  ·refine gB (i:=8) (h:=λ x12=>?_)
   refine bC (i:=2) (hq:=(cM (hs:=xH k bx bm x dn rs) (os:=xW x) (hc:=λ w hs=>eS m (by omega) ok hs))) (h:=λ x28 h28=>?_);refine Aa ?_
   refine eO (x12) ?_
   ·trivial
 dsimp only[fY,List.map,List.cons_append,List.nil_append]
 refine An ?_;refine sX ?_
 refine aZ (λ c36=>?_) (λ c36=>?_)
 ·exact absurd c36 hk
 ·have g0:=h48.1.to (λ _=>if_neg hk)
  have g1:=rR g0 (by rw[hl];rfl)
  rw[hl] at g1
  have g2:=nS g1 hb
  refine Ag ?_;refine aU (cV (hc:=λ w1 hw=>eH hh (level:Int) w1)) (λ x91=>?_);refine J1 ?_;refine Bx ?_;refine aU (cV (hc:=λ w1 hw=>Hg (v:=(aA x.L m)) h48.2 hl (ok.qQ hw hA m))) (λ x95=>?_);refine aB ?_;refine aE (bL rf rfl) rfl ?_;refine aE (bL rf rfl) rfl ?_;refine J8 ?_;refine iQ ?_;refine aC (cM (hs:=xH k bx bm x dn rs) (os:=xW x) (hc:=λ w hs=>eS b (by omega) ok hs)) (λ x100 h100=>?_);refine aP (λ x21=>?_);refine J5 ?_;refine Eb ?_;refine iQ ?_
  (refine aF ?_;refine aD ?_)
  refine n6 ?_;refine J1 ?_
  refine aZ (λ c101=>?_) (λ c101=>?_)
  ·have g3:=g2.to (λ _=>if_pos hi2)
   refine J0 ?_;refine bD ?_;refine B2 ?_
   refine bK Tryz.results124 (λ w hw=>?_)
   exact⟨(Rs.zero,2,x,[]),rfl,⟨g3,ok,by simp,Nat.le_refl _,bF _⟩,hw.aT (hF:=by exact aW.nil)⟩
  ·exact absurd hi2 c101
set_option maxRecDepth 100000 in
theorem P1(hg:g.Ok)(i m:Int){h:Nat}(hh:h<18446744073709551616)(level:Nat)(hlv:level<=1073741824)(K:Rs->Int->Tr)(ht:k.t.root<=9223372036854775807)(hi:i<=x.L.length)(hm:m<=x.L.length)(hA:∀f∈aV x.L,f∈A)(hk:¬(aA x.L m).nd.kind=6){b:Int}(hl:jT (aA x.L m).c (fT h (level:Int))=some b)(hi2:¬(aA x.L b).nd.kind=2)(he:¬(aA x.L b).nd.key=k.key)(go:fD g x (jE k i m h level K))(ok:x.Ok)(hs:SF w D (xH k bx bm x dn rs) A [] (xW x) w):Calls Tryz.prog 124 #[.pointer (some ⟨bx,0,none⟩),.int .i64 i,.int .i64 m,.int .u64 (h:Int),.int .i64 (level:Int)] w (V1 g x K bx bm k dn rs D w):=by
 have hyl:=pR ok m
 have hlL:=ok.lL
 have h48:fD g x _/\nU x.L.length x.cs.length (aA x.L m).c:=⟨nS go hm,ok.nv m⟩
 have hb:b<=x.L.length:=by have:=oV (ok.nv m) (fT h (level:Int));rw[hl] at this;exact this
 refine enter Tryz.func124 Tryz.ntmps124 rfl rfl (bX hs) ?_
 simp only[cP]
 refine J0 ?_;refine aP (λ x10=>?_);refine gP ?_
 refine dV [12,13,26,27,28,29,30,31,32,33] (λ j:Nat=>[(12,.pointer (some ⟨j,0,none⟩)),(13,.string k.key)]) (λ _=>True) (λ j=>[(j,.cells ⟨(aA x.L m).nd.cells⟩ 77 (0,0)),(x10,.cells ⟨Rs.zero.cells⟩ 68 (0,0)),(bx,xO k bm x dn rs),(bm,xM x)]) (λ _=>[]) (λ _=>xW x) (by decide) (λ _=>by exact rfl) ?_ (λ j f hx=>?_)
 ·refine gK (.one 0 [] (.one 1 [] (.one 3 [] (.one 4 [] (.one 5 [] (.one 6 [] (.one 7 [] (.two 2 [7] (.one 8 [7] (.one 9 [7] (.one 10 [] .nil))) 0 [] (.two 8 [7] (.one 2 [7] (.one 9 [7] (.one 10 [] .nil))) 0 [] .nil))))))))) ?_
  refine gN ?_;refine tQ ?_
  refine gY (E:=[2,8]) (by decide +kernel) ((.cons ?_ (.cons ?_ .nil)))
  ·refine kU (i:=2) (hq:=(cM (hs:=xH k bx bm x dn rs) (os:=xW x) (hc:=λ w hs=>eS m (by omega) ok hs))) (h:=λ x28 h28=>?_)
   refine fS (h:=λ x12=>?_);refine Aa ?_
   refine eO (x12) ?_
   ·trivial
  ·refine gB (i:=8) (h:=λ x12=>?_)
   refine bC (i:=2) (hq:=(cM (hs:=xH k bx bm x dn rs) (os:=xW x) (hc:=λ w hs=>eS m (by omega) ok hs))) (h:=λ x28 h28=>?_);refine Aa ?_
   refine eO (x12) ?_
   ·trivial
 dsimp only[fY,List.map,List.cons_append,List.nil_append]
 refine An ?_;refine sX ?_
 refine aZ (λ c36=>?_) (λ c36=>?_)
 ·exact absurd c36 hk
 ·have g0:=h48.1.to (λ _=>if_neg hk)
  have g1:=rR g0 (by rw[hl];rfl)
  rw[hl] at g1
  have g2:=nS g1 hb
  refine Ag ?_;refine aU (cV (hc:=λ w1 hw=>eH hh (level:Int) w1)) (λ x91=>?_);refine J1 ?_;refine Bx ?_;refine aU (cV (hc:=λ w1 hw=>Hg (v:=(aA x.L m)) h48.2 hl (ok.qQ hw hA m))) (λ x95=>?_);refine aB ?_;refine aE (bL rf rfl) rfl ?_;refine aE (bL rf rfl) rfl ?_;refine J8 ?_;refine iQ ?_;refine aC (cM (hs:=xH k bx bm x dn rs) (os:=xW x) (hc:=λ w hs=>eS b (by omega) ok hs)) (λ x100 h100=>?_);refine aP (λ x21=>?_);refine J5 ?_;refine Eb ?_;refine iQ ?_
  (refine aF ?_;refine aD ?_)
  refine n6 ?_;refine J1 ?_
  refine aZ (λ c101=>?_) (λ c101=>?_)
  ·exact absurd c101 hi2
  ·have g3:=(g2.to (λ _=>if_neg hi2)).to (λ _=>if_pos he)
   refine J2 ?_;refine C4 ?_
   (refine aF ?_;refine aD ?_)
   refine pu ?_;((refine aF ?_;refine aE (fp rf rf he) rfl ?_));refine Kc8 ?_
   refine aZ (λ c109=>?_) (λ c109=>?_)
   ·refine J0 ?_;refine aU (cV (hc:=λ w1 hw=>fL _ _ w1)) (λ x118=>?_);refine B2 ?_
    refine bK Tryz.results124 (λ w hw=>?_)
    exact⟨(iK false 0,1,x,[]),rfl,⟨g3,ok,by simp,Nat.le_refl _,bF _⟩,hw.aT (hF:=by exact aW.nil)⟩
   ·exact nv c109
set_option maxRecDepth 100000 in
theorem Pn(hg:g.Ok)(i m:Int){h:Nat}(hh:h<18446744073709551616)(level:Nat)(hlv:level<=1073741824)(K:Rs->Int->Tr)(ht:k.t.root<=9223372036854775807)(hi:i<=x.L.length)(hm:m<=x.L.length)(hA:∀f∈aV x.L,f∈A)(hk:¬(aA x.L m).nd.kind=6){b:Int}(hl:jT (aA x.L m).c (fT h (level:Int))=some b)(hi2:¬(aA x.L b).nd.kind=2)(he:(aA x.L b).nd.key=k.key)(go:fD g x (jE k i m h level K))(ok:x.Ok)(hs:SF w D (xH k bx bm x dn rs) A [] (xW x) w):Calls Tryz.prog 124 #[.pointer (some ⟨bx,0,none⟩),.int .i64 i,.int .i64 m,.int .u64 (h:Int),.int .i64 (level:Int)] w (V1 g x K bx bm k dn rs D w):=by
 have hyl:=pR ok m
 have hlL:=ok.lL
 have h48:fD g x _/\nU x.L.length x.cs.length (aA x.L m).c:=⟨nS go hm,ok.nv m⟩
 have hb:b<=x.L.length:=by have:=oV (ok.nv m) (fT h (level:Int));rw[hl] at this;exact this
 refine enter Tryz.func124 Tryz.ntmps124 rfl rfl (bX hs) ?_
 simp only[cP]
 refine J0 ?_;refine aP (λ x10=>?_);refine gP ?_
 refine dV [12,13,26,27,28,29,30,31,32,33] (λ j:Nat=>[(12,.pointer (some ⟨j,0,none⟩)),(13,.string k.key)]) (λ _=>True) (λ j=>[(j,.cells ⟨(aA x.L m).nd.cells⟩ 77 (0,0)),(x10,.cells ⟨Rs.zero.cells⟩ 68 (0,0)),(bx,xO k bm x dn rs),(bm,xM x)]) (λ _=>[]) (λ _=>xW x) (by decide) (λ _=>by exact rfl) ?_ (λ j f hx=>?_)
 ·refine gK (.one 0 [] (.one 1 [] (.one 3 [] (.one 4 [] (.one 5 [] (.one 6 [] (.one 7 [] (.two 2 [7] (.one 8 [7] (.one 9 [7] (.one 10 [] .nil))) 0 [] (.two 8 [7] (.one 2 [7] (.one 9 [7] (.one 10 [] .nil))) 0 [] .nil))))))))) ?_
  refine gN ?_;refine tQ ?_
  refine gY (E:=[2,8]) (by decide +kernel) ((.cons ?_ (.cons ?_ .nil)))
  ·refine kU (i:=2) (hq:=(cM (hs:=xH k bx bm x dn rs) (os:=xW x) (hc:=λ w hs=>eS m (by omega) ok hs))) (h:=λ x28 h28=>?_)
   refine fS (h:=λ x12=>?_);refine Aa ?_
   refine eO (x12) ?_
   ·trivial
  ·refine gB (i:=8) (h:=λ x12=>?_)
   refine bC (i:=2) (hq:=(cM (hs:=xH k bx bm x dn rs) (os:=xW x) (hc:=λ w hs=>eS m (by omega) ok hs))) (h:=λ x28 h28=>?_);refine Aa ?_
   refine eO (x12) ?_
   ·trivial
 dsimp only[fY,List.map,List.cons_append,List.nil_append]
 refine An ?_;refine sX ?_
 refine aZ (λ c36=>?_) (λ c36=>?_)
 ·exact absurd c36 hk
 ·have g0:=h48.1.to (λ _=>if_neg hk)
  have g1:=rR g0 (by rw[hl];rfl)
  rw[hl] at g1
  have g2:=nS g1 hb
  refine Ag ?_;refine aU (cV (hc:=λ w1 hw=>eH hh (level:Int) w1)) (λ x91=>?_);refine J1 ?_;refine Bx ?_;refine aU (cV (hc:=λ w1 hw=>Hg (v:=(aA x.L m)) h48.2 hl (ok.qQ hw hA m))) (λ x95=>?_);refine aB ?_;refine aE (bL rf rfl) rfl ?_;refine aE (bL rf rfl) rfl ?_;refine J8 ?_;refine iQ ?_;refine aC (cM (hs:=xH k bx bm x dn rs) (os:=xW x) (hc:=λ w hs=>eS b (by omega) ok hs)) (λ x100 h100=>?_);refine aP (λ x21=>?_);refine J5 ?_;refine Eb ?_;refine iQ ?_
  (refine aF ?_;refine aD ?_)
  refine n6 ?_;refine J1 ?_
  refine aZ (λ c101=>?_) (λ c101=>?_)
  ·exact absurd c101 hi2
  ·have g3:=(g2.to (λ _=>if_neg hi2)).to (λ _=>if_neg (λ h:¬(aA x.L b).nd.key=k.key=>h he))
   refine J2 ?_;refine C4 ?_
   (refine aF ?_;refine aD ?_)
   refine pu ?_;((refine aF ?_;refine aE (jc rf rf he) rfl ?_));refine Kc8 ?_
   refine aZ (λ c109=>?_) (λ c109=>?_)
   ·exact nv c109
   ·refine aR ?_;refine fK [0,1,2,3,4,5,6,7,8,9,10,11,12,13,14,15] ?_;refine tQ ?_;refine aS ?_
    (refine j3 125 (λ g125=>?_) (λ g125=>?_)<;>(first|refine fU ?_|(refine aM ?_)))
    all_goals ((first|refine fU ?_|(refine bO ?_));(first|refine fU ?_|(refine aS ?_));(first|refine fU ?_|(refine hZ ?_));(first|refine fU ?_|(refine aM ?_));refine yo ?_;(first|refine fU ?_|(refine Hp ?_));refine iU ?_;refine J7 ?_)
    all_goals
    refine aZ (λ c119=>?_) (λ c119=>?_)
    ·try exact nv c119
     all_goals
      have g4:=g3.to (λ _=>if_pos (show(k.only=true/\(aA x.L b).nd.val≠k.exp) from⟨by assumption,by assumption⟩))
     all_goals (refine gU ?_;refine aU (cV (hc:=λ w1 hw=>fL _ _ w1)) (λ x137=>?_);refine B2 ?_)
     all_goals
      refine bK Tryz.results124 (λ w hw=>?_)
      exact⟨(iK true (aA x.L b).nd.val,1,x,[]),rfl,⟨g4,ok,by simp,Nat.le_refl _,bF _⟩,hw.aT (hF:=by exact aW.nil)⟩
    ·all_goals
      have g4:=g3.to (λ _=>if_neg (show ¬(k.only=true/\(aA x.L b).nd.val≠k.exp) from by rintro ⟨h,h'⟩;simp_all))
     all_goals (refine lM ?_;refine Bx ?_;refine aC (cF (hc:=λ w1 hw=>aAo (v:=(aA x.L m)) h48.2 (fT h (level:Int)) (ok.qQ hw hA m))) (λ x141 h141=>?_))
     all_goals
      have hB:=wi h48.2 (v:=(aA x.L m)) (fT h (level:Int))
     all_goals (refine aB ?_;refine aE (bL rf rfl) rfl ?_;refine aE (bL rf rfl) rfl ?_;refine aP (λ x22=>?_);refine B2 ?_;refine kN ?_;refine aU (cV (hc:=λ w1 hw=>ly hB (pw h48.2 (fT h (level:Int)) x141) (hw.cl (.new .head)))) (λ x146=>?_))
     all_goals
      have hso:((Iz (Kn (aA x.L m).c (fT h (level:Int)))).getD 0)<=x.L.length:=zk hB (pw h48.2 (fT h (level:Int)) x141)
      have g5:=nS g4 hso
     all_goals (refine aB ?_;refine aE (bL rf rfl) rfl ?_;refine aE (bL rf rfl) rfl ?_;refine J8 ?_;refine aR ?_;refine eG [(0,[]),(1,[]),(2,[]),(3,[]),(4,[]),(5,[]),(6,[]),(7,[]),(8,[]),(9,[]),(10,[]),(11,[]),(12,[]),(13,[]),(16,[]),(19,[]),(20,[]),(14,[6,10,20]),(15,[6,20]),(17,[6,20]),(18,[20]),(21,[]),(22,[]),(23,[]),(24,[]),(25,[])] ?_;refine gN ?_;refine J9 ?_;refine aM ?_;refine bH (i:=6) (hq:=(aK (k:=2) (vs:=[.int .i64 k.t.root,.bool k.t.ro]) rf dU fX rfl rfl)) (h:=?_);refine gN ?_;refine Kb6 ?_;refine gN ?_;refine gN ?_;refine mB ?_;refine bC (i:=14) (hq:=(cM (hs:=xH k bx bm x dn rs) (os:=xW x) (hc:=λ w hs=>eS ((Iz (Kn (aA x.L m).c (fT h (level:Int)))).getD 0) (by omega) ok hs))) (hfire:=(λ _=>by(refine hJ ?_;(repeat (first|exact aN.nil|refine aN.cons (by first|exact eR (hq:=aK (k:=2) (vs:=[.int .i64 k.t.root,.bool k.t.ro]) rf dU fX rfl rfl)|exact fB) ?_));done))) (h:=λ x163 h163=>?_);refine cX (i:=15) (hq:=(cV (hc:=λ w1 hw=>Sl hB (level:Int) (aA x.L ((Iz (Kn (aA x.L m).c (fT h (level:Int)))).getD 0)).nd (hw.cl (.new .head))))) (hfire:=(λ _=>by((repeat (first|exact aN.nil|refine aN.cons (by first|exact eR (hq:=aK (k:=2) (vs:=[.int .i64 k.t.root,.bool k.t.ro]) rf dU fX rfl rfl)|exact fB) ?_));done))) (h:=λ x164=>?_);refine bC (i:=17) (hq:=(cM (hs:=xH k bx bm x dn rs) (os:=xW x) (A0:=[((Mf (Wm (aA x.L m) (fT h (level:Int))) x141 (level:Int) (aA x.L ((Iz (Kn (aA x.L m).c (fT h (level:Int)))).getD 0)).nd).brA,aG (Ud (Wm (aA x.L m) (fT h (level:Int))) x141 (level:Int) (aA x.L ((Iz (Kn (aA x.L m).c (fT h (level:Int)))).getD 0)).nd)),((Mf (Wm (aA x.L m) (fT h (level:Int))) x141 (level:Int) (aA x.L ((Iz (Kn (aA x.L m).c (fT h (level:Int)))).getD 0)).nd).prA,dF [])]) (hA:=qd) (hc:=λ w hs=>fR hg (n:=(Mf (Wm (aA x.L m) (fT h (level:Int))) x141 (level:Int) (aA x.L ((Iz (Kn (aA x.L m).c (fT h (level:Int)))).getD 0)).nd)) (xs:=(Ud (Wm (aA x.L m) (fT h (level:Int))) x141 (level:Int) (aA x.L ((Iz (Kn (aA x.L m).c (fT h (level:Int)))).getD 0)).nd)) (ys:=[]) m _ (Xh _ _ _) (Yt _ _ _) (Tf hB _ _ _) (Nat.zero_le _) (Rh hB _ _ (ok.nv ((Iz (Kn (aA x.L m).c (fT h (level:Int)))).getD 0)).hash) hm (by rw[<- o9,<- xv h48.2];exact g5) ok hs))) (hfire:=(λ _=>by(refine hJ ?_;(repeat (first|exact aN.nil|refine aN.cons (by first|exact eR (hq:=aK (k:=2) (vs:=[.int .i64 k.t.root,.bool k.t.ro]) rf dU fX rfl rfl)|exact fB) ?_));done))) (h:=λ x166 h166=>?_);refine bC (i:=18) (hq:=(cM (hs:=xH k bx bm x166.2.1 dn rs) (os:=xW x166.2.1) (hc:=λ w hs=>rT hg k.t i m x166.1 _ ht (by have:=h166.len;omega) h166.bd h166.go h166.ok hs))) (h:=λ x167 h167=>?_))
     all_goals
      have hch:=Ch.nx h167 (Ch.nx h166 ((Ch.base (F:=[])).cons (f:=(x141.1,aG (kO (Wm (aA x.L m) (fT h (level:Int))))))))
      have hlc:x.cs.length<=x167.2.1.cs.length:=by have:=h166.lc;have:=h167.lc;omega
     all_goals (refine cX (i:=21) (hq:=(cV (hc:=λ w1 hw=>nZ _ _ _ _ w1))) (h:=λ x170=>?_);refine cJ (i:=22) (hq:=(bL rf rfl)) (h:=?_);refine cJ (i:=23) (hq:=(bL rf rfl)) (h:=?_);refine Aa ?_)
     all_goals
      refine bK Tryz.results124 (λ w hw=>?_)
      obtain⟨N,hN,hf⟩:=hch.to (t':=K (qK true (aA x.L b).nd.val) (if x167.1=true then 1 else 0)) h167 (h167.go) hlc (bF _)
      exact⟨(qK true (aA x.L b).nd.val,(if x167.1=true then 1 else 0),x167.2.1,N),rfl,hN,(hw.eN hf).v4⟩
theorem On(hg:g.Ok)(i m:Int){h:Nat}(hh:h<18446744073709551616)(level:Nat)(hlv:level<=1073741824)(K:Rs->Int->Tr)(ht:k.t.root<=9223372036854775807)(hi:i<=x.L.length)(hm:m<=x.L.length)(hA:∀f∈aV x.L,f∈A)(go:fD g x (jE k i m h level K))(ok:x.Ok)(hs:SF w D (xH k bx bm x dn rs) A [] (xW x) w):Calls Tryz.prog 124 #[.pointer (some ⟨bx,0,none⟩),.int .i64 i,.int .i64 m,.int .u64 (h:Int),.int .i64 (level:Int)] w (V1 g x K bx bm k dn rs D w):=by
 by_cases hk:(aA x.L m).nd.kind=6
 ·exact Oy hg i m hh level hlv K ht hi hm hA hk go ok hs
 ·cases hl:jT (aA x.L m).c (fT h (level:Int)) with
  | none=>exact Pm hg i m hh level hlv K ht hi hm hA hk hl go ok hs
  | some b =>
   by_cases hi2:(aA x.L b).nd.kind=2
   ·exact Pj hg i m hh level hlv K ht hi hm hA hk hl hi2 go ok hs
   ·by_cases he:(aA x.L b).nd.key=k.key
    ·exact Pn hg i m hh level hlv K ht hi hm hA hk hl hi2 he go ok hs
    ·exact P1 hg i m hh level hlv K ht hi hm hA hk hl hi2 he go ok hs
end
end Go.Proofs.YtadnboagdhcedaaGreatDoor

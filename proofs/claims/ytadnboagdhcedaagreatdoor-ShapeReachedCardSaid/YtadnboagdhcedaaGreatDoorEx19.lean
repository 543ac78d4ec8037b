/- Executions of the reference: one attempt of DROP at a leaf. -/
import Derived.Test.YtadnboagdhcedaaGreatDoorGEx18
set_option linter.unusedSimpArgs false
set_option linter.unusedVariables false
namespace Go.Ct
open Go Go.RowKit
theorem nQ{g:Gx}{x:XS}{r:Int}{K:Nv->Tr}(h:fD g x (.node r K))(hr:r<=x.L.length):fD g x (K (aA x.L r).c):=by
 have:=h.node hr
 rwa [show cB x.nodes r=(aA x.L r).c from(Iw x.L r).symm] at this
section
variable{P:Program}{S:List (Nat×Value)}{G:World->Prop}{d:Nat}{ty t t':TypeId}{pos:String}{af:Array Edge}{gd:Option (Nat×Bool)}{x y:Operand}{a b:ByteArray}
theorem jf(hx:ev S x=.string a)(hy:ev S y=.string b)(h:¬a=b):aJ P S G ⟨some d,.binOp .neq t x y t',ty,pos,af,gd⟩ (.bool true):=by
 have:=D1 (P:=P) (G:=G) (d:=d) (ty:=ty) (pos:=pos) (af:=af) (gd:=gd) (t:=t) (t':=t') hx hy
 rwa [bne,oi h] at this
theorem iq(hx:ev S x=.string a)(hy:ev S y=.string b)(h:a=b):aJ P S G ⟨some d,.binOp .neq t x y t',ty,pos,af,gd⟩ (.bool false):=by
 have:=D1 (P:=P) (G:=G) (d:=d) (ty:=ty) (pos:=pos) (af:=af) (gd:=gd) (t:=t) (t':=t') hx hy
 rwa [bne,mx h] at this
end
end Go.Ct
namespace Go.Proofs.YtadnboagdhcedaaGreatDoor
open Go Go.RowKit Go.Ct
theorem dw{m:Nat}{o:Option (Nat×List Int)}{w:World}(h:tD m o){x:Option Addr×Nat}{r:Nv}(e:r=(lI o x).c (lD o) [])(hc:Go.Ct.Cl w x.1 (aG (lD o))):Calls Tryz.prog 149 #[(lI o x).v] w λ e w'=>e=.returned (.tuple #[.int .i64 ((Ja r).getD 0),.bool (Ja r).isSome])/\St w [] [] w':=by
 obtain⟨b,h1,h2⟩:=Mn h x
 have:=Hd (n:=lI o x) h1 h2 (M7 h hc)
 rw[sc,<- e] at this
 exact this
theorem y7{m:Nat}{o:Option (Nat×List Int)}(h:tD m o){x:Option Addr×Nat}{r:Nv}(e:r=(lI o x).c (lD o) []):(Ja r).getD 0<=m:=by
 rw[e,<- sc]
 unfold Yd
 split
 ·refine mI (λ v hv=>?_) 0
  cases o with
  | none=>exact(List.not_mem_nil hv).elim
  | some q=>exact(h.out q rfl).2.2 v hv
 ·exact bH _
section
variable{k:Cl}{bx bm:Nat}{x:XS}{dn:Bool}{rs:Rs}{D:List Nat}{A:Fr}{w:World}{g:Gx}
set_option maxRecDepth 100000 in
theorem Pw(hg:g.Ok)(i m:Int){h:Nat}(hh:h<18446744073709551616)(level:Nat)(hlv:level<=1073741824)(K:Rs->Int->Tr)(ht:k.t.root<=9223372036854775807)(hi:i<=x.L.length)(hm:m<=x.L.length)(hA:∀f∈aW x.L,f∈A)(hk:(aA x.L m).nd.kind=6)(go:fD g x (jD k i m h level K))(ok:x.Ok)(hs:SF w D (xH k bx bm x dn rs) A [] (xW x) w):Calls Tryz.prog 124 #[.pointer (some ⟨bx,0,none⟩),.int .i64 i,.int .i64 m,.int .u64 (h:Int),.int .i64 (level:Int)] w (Vs g x K bx bm k dn rs D w):=by
 have hyl:=pR ok m
 have hlL:=ok.lL
 have h48:fD g x _/\nS x.L.length x.cs.length (aA x.L m).c:=⟨nQ go hm,ok.nv m⟩
 refine enter Tryz.func124 Tryz.ntmps124 rfl rfl (bX hs) ?_
 simp only[cO]
 refine J0 ?_;refine aN (λ x10=>?_);refine gQ ?_
 refine dW [12,13,26,27,28,29,30,31,32,33] (λ j:Nat=>[(12,.pointer (some ⟨j,0,none⟩)),(13,.string k.key)]) (λ _=>True) (λ j=>[(j,.cells ⟨(aA x.L m).nd.cells⟩ 77 (0,0)),(x10,.cells ⟨Rs.zero.cells⟩ 68 (0,0)),(bx,xO k bm x dn rs),(bm,xM x)]) (λ _=>[]) (λ _=>xW x) (by decide) (λ _=>by exact rfl) ?_ (λ j f hx=>?_)
 ·refine gK (.one 0 [] (.one 1 [] (.one 3 [] (.one 4 [] (.one 5 [] (.one 6 [] (.one 7 [] (.two 2 [7] (.one 8 [7] (.one 9 [7] (.one 10 [] .nil))) 0 [] (.two 8 [7] (.one 2 [7] (.one 9 [7] (.one 10 [] .nil))) 0 [] .nil))))))))) ?_
  refine gP ?_;refine uB ?_
  refine gW (E:=[2,8]) (by decide +kernel) ((.cons ?_ (.cons ?_ .nil)))
  ·refine kP (i:=2) (hq:=(cM (hs:=xH k bx bm x dn rs) (os:=xW x) (hc:=λ w hs=>eS m (by omega) ok hs))) (h:=λ x28 h28=>?_)
   refine fQ (h:=λ x12=>?_);refine Ag ?_
   refine eN (x12) ?_
   ·trivial
  ·refine gF (i:=8) (h:=λ x12=>?_)
   refine bC (i:=2) (hq:=(cM (hs:=xH k bx bm x dn rs) (os:=xW x) (hc:=λ w hs=>eS m (by omega) ok hs))) (h:=λ x28 h28=>?_);refine Ag ?_
   refine eN (x12) ?_
   ·trivial
 dsimp only[fY,List.map,List.cons_append,List.nil_append]
 refine Az ?_;refine sX ?_
 refine aZ (λ c36=>?_) (λ c36=>?_)
 ·have g1:=h48.1.to (λ _=>if_pos hk)
  refine gU ?_;refine aB ?_;refine aT (cV (hc:=λ w1 hw=>Jc (v:=(aA x.L m)) (n:=0) k.key (ok.qR hw hA m) (ok.ysl m))) (λ x41=>?_);refine aB ?_;refine aE (bL rf rfl) rfl ?_;refine aE (bL rf rfl) rfl ?_;refine J8 ?_;refine kT ?_;refine E8 ?_
  (refine eF 46 (λ g46=>?_) (λ g46=>?_)<;>refine Ka0 ?_)
  all_goals ((first|refine aH ?_|(refine aF ?_;refine dJ ?_));refine Ka1 ?_;refine Ka1 ?_;refine Ka2 ?_;refine Ka0 ?_)
  all_goals (first|refine yB ?_|(refine eF 52 (λ g52=>?_) (λ g52=>?_)<;>refine Ka0 ?_))
  all_goals ((first|refine aH ?_|refine yB ?_|(refine Ka6 ?_));(first|refine aH ?_|refine yB ?_|(refine aF ?_;refine dJ ?_));(first|refine aH ?_|refine yB ?_|(refine aF ?_;refine aD ?_));(first|refine aH ?_|refine yB ?_|(refine aF ?_;refine aD ?_));(first|refine aH ?_|refine yB ?_|(refine aF ?_;refine bN ?_));(first|refine aH ?_|refine yB ?_|(refine aF ?_;refine jP ?_));(first|refine aH ?_|(refine aF ?_;refine cK ?_));refine cK ?_;refine aI ?_)
  all_goals
  refine aZ (λ c61=>?_) (λ c61=>?_)
  ·try exact nv c61
   all_goals
    have g2:=g1.to (λ _=>if_pos (show((dH (aA x.L m).c.ys k.key).isSome=false∨(k.only=true/\(dH (aA x.L m).c.ys k.key).getD 0≠k.exp)) from by first|exact Or.inl (by assumption)|exact Or.inr ⟨by assumption,by assumption⟩))
   all_goals (refine iR ?_;refine aT (cV (hc:=λ w1 hw=>fM _ _ w1)) (λ x64=>?_);refine B5 ?_)
   all_goals
    refine bK Tryz.results124 (λ w hw=>?_)
    exact⟨(iH (dH (aA x.L m).c.ys k.key).isSome ((dH (aA x.L m).c.ys k.key).getD 0),1,x,[]),rfl,⟨g2,ok,by simp,Nat.le_refl _,bH _⟩,hw.aS (hF:=by exact aV.nil)⟩
  ·try exact nv c61
   all_goals
    have g2:=g1.to (λ _=>if_neg (show ¬((dH (aA x.L m).c.ys k.key).isSome=false∨(k.only=true/\(dH (aA x.L m).c.ys k.key).getD 0≠k.exp)) from by rintro (h|⟨h,h'⟩)<;>simp_all))
   all_goals (refine bA ?_;refine B6 ?_;refine aC (cF (hc:=λ w1 hw=>yx (v:=(aA x.L m)) h48.2 k.key (ok.qR hw hA m) (by omega))) (λ x68 h68=>?_);refine aB ?_;refine aE (bL rf rfl) rfl ?_;refine aE (bL rf rfl) rfl ?_;refine aN (λ x16=>?_);refine mB (λ _=>?_);refine gQ ?_;refine eG [(0,[]),(1,[]),(2,[]),(3,[]),(4,[]),(5,[]),(6,[]),(7,[]),(8,[]),(9,[]),(10,[]),(11,[]),(14,[]),(12,[6]),(13,[]),(15,[]),(16,[]),(17,[]),(18,[]),(19,[])] ?_;refine gP ?_;refine J9 ?_;refine aP ?_;refine bJ (i:=6) (hq:=(aK (k:=2) (vs:=[.int .i64 k.t.root,.bool k.t.ro]) rf dV fX rfl rfl)) (h:=?_);refine gP ?_;refine Kb6 ?_;refine gP ?_;refine bC (i:=12) (hq:=(cM (hs:=xH k bx bm x dn rs) (os:=xW x) (A0:=[((Ko (oP (aA x.L m).nd (aA x.L m).xs (aA x.L m).ys k.key) (aA x.L m).nd.hash x68).brA,aG []),((Ko (oP (aA x.L m).nd (aA x.L m).xs (aA x.L m).ys k.key) (aA x.L m).nd.hash x68).prA,dG (Fw (oP (aA x.L m).nd (aA x.L m).xs (aA x.L m).ys k.key)))]) (hA:=vz) (hc:=λ w hs=>fR hg (n:=Ko (oP (aA x.L m).nd (aA x.L m).xs (aA x.L m).ys k.key) (aA x.L m).nd.hash x68) (xs:=[]) (ys:=Fw (oP (aA x.L m).nd (aA x.L m).xs (aA x.L m).ys k.key)) m _ (Yr _ _ _).1 (Yr _ _ _).2 (by decide) (by have:=vf (aA x.L m).xs (aA x.L m).ys (aA x.L m).nd k.key;omega) (ua _ h48.2.hash) hm (by rw[aAg];exact g2) ok hs))) (hfire:=(λ _=>by(refine hY ?_;refine aM.cons (by exact eR (hq:=aK (k:=2) (vs:=[.int .i64 k.t.root,.bool k.t.ro]) rf dV fX rfl rfl)) ?_;exact aM.nil))) (h:=λ x83 h83=>?_);refine bC (i:=13) (hq:=(cM (hs:=xH k bx bm x83.2.1 dn rs) (os:=xW x83.2.1) (hc:=λ w hs=>rN hg k.t i m x83.1 _ ht (by have:=h83.len;omega) h83.bd h83.go h83.ok hs))) (h:=λ x84 h84=>?_))
   all_goals
    have hch:=Ch.nx h84 (Ch.nx h83 ((Ch.base (F:=[])).cons (f:=(x68.1,dG (Fw (oP (aA x.L m).nd (aA x.L m).xs (aA x.L m).ys k.key))))))
    have hlc:x.cs.length<=x84.2.1.cs.length:=by have:=h83.lc;have:=h84.lc;omega
   all_goals (refine cY (i:=15) (hq:=(cV (hc:=λ w1 hw=>nY _ _ _ _ w1))) (h:=λ x86=>?_);refine cJ (i:=16) (hq:=(bL rf rfl)) (h:=?_);refine cJ (i:=17) (hq:=(bL rf rfl)) (h:=?_);refine Ag ?_)
   all_goals
    refine bK Tryz.results124 (λ w hw=>?_)
    obtain⟨N,hN,hf⟩:=hch.to (t':=K (qF true ((dH (aA x.L m).c.ys k.key).getD 0)) (if x84.1=true then 1 else 0)) h84 (h84.go) hlc (bH _)
    exact⟨(qF true ((dH (aA x.L m).c.ys k.key).getD 0),(if x84.1=true then 1 else 0),x84.2.1,N),rfl,hN,(hw.eP hf).v1⟩
 ·exact absurd hk c36
set_option maxRecDepth 100000 in
theorem N7(hg:g.Ok)(i m:Int){h:Nat}(hh:h<18446744073709551616)(level:Nat)(hlv:level<=1073741824)(K:Rs->Int->Tr)(ht:k.t.root<=9223372036854775807)(hi:i<=x.L.length)(hm:m<=x.L.length)(hA:∀f∈aW x.L,f∈A)(hk:¬(aA x.L m).nd.kind=6)(hl:jN (aA x.L m).c (fS h (level:Int))=none)(go:fD g x (jD k i m h level K))(ok:x.Ok)(hs:SF w D (xH k bx bm x dn rs) A [] (xW x) w):Calls Tryz.prog 124 #[.pointer (some ⟨bx,0,none⟩),.int .i64 i,.int .i64 m,.int .u64 (h:Int),.int .i64 (level:Int)] w (Vs g x K bx bm k dn rs D w):=by
 have hyl:=pR ok m
 have hlL:=ok.lL
 have h48:fD g x _/\nS x.L.length x.cs.length (aA x.L m).c:=⟨nQ go hm,ok.nv m⟩
 refine enter Tryz.func124 Tryz.ntmps124 rfl rfl (bX hs) ?_
 simp only[cO]
 refine J0 ?_;refine aN (λ x10=>?_);refine gQ ?_
 refine dW [12,13,26,27,28,29,30,31,32,33] (λ j:Nat=>[(12,.pointer (some ⟨j,0,none⟩)),(13,.string k.key)]) (λ _=>True) (λ j=>[(j,.cells ⟨(aA x.L m).nd.cells⟩ 77 (0,0)),(x10,.cells ⟨Rs.zero.cells⟩ 68 (0,0)),(bx,xO k bm x dn rs),(bm,xM x)]) (λ _=>[]) (λ _=>xW x) (by decide) (λ _=>by exact rfl) ?_ (λ j f hx=>?_)
 ·refine gK (.one 0 [] (.one 1 [] (.one 3 [] (.one 4 [] (.one 5 [] (.one 6 [] (.one 7 [] (.two 2 [7] (.one 8 [7] (.one 9 [7] (.one 10 [] .nil))) 0 [] (.two 8 [7] (.one 2 [7] (.one 9 [7] (.one 10 [] .nil))) 0 [] .nil))))))))) ?_
  refine gP ?_;refine uB ?_
  refine gW (E:=[2,8]) (by decide +kernel) ((.cons ?_ (.cons ?_ .nil)))
  ·refine kP (i:=2) (hq:=(cM (hs:=xH k bx bm x dn rs) (os:=xW x) (hc:=λ w hs=>eS m (by omega) ok hs))) (h:=λ x28 h28=>?_)
   refine fQ (h:=λ x12=>?_);refine Ag ?_
   refine eN (x12) ?_
   ·trivial
  ·refine gF (i:=8) (h:=λ x12=>?_)
   refine bC (i:=2) (hq:=(cM (hs:=xH k bx bm x dn rs) (os:=xW x) (hc:=λ w hs=>eS m (by omega) ok hs))) (h:=λ x28 h28=>?_);refine Ag ?_
   refine eN (x12) ?_
   ·trivial
 dsimp only[fY,List.map,List.cons_append,List.nil_append]
 refine Az ?_;refine sX ?_
 refine aZ (λ c36=>?_) (λ c36=>?_)
 ·exact absurd c36 hk
 ·have g0:=h48.1.to (λ _=>if_neg hk)
  have g1:=Is g0 (by rw[hl];rfl)
  refine zS ?_;refine aT (cV (hc:=λ w1 hw=>eH hh (level:Int) w1)) (λ x91=>?_);refine J1 ?_;refine B6 ?_;refine aT (cV (hc:=λ w1 hw=>nh (v:=(aA x.L m)) h48.2 hl (ok.qR hw hA m))) (λ x95=>?_);refine aB ?_;refine aE (bL rf rfl) rfl ?_;refine aE (bL rf rfl) rfl ?_;refine J8 ?_;refine iR ?_;refine aC (cM (hs:=xH k bx bm x dn rs) (os:=xW x) (hc:=λ w hs=>eS 0 (by decide) ok hs)) (λ x100 h100=>?_);refine aN (λ x21=>?_);refine J5 ?_;refine D8 ?_;refine iR ?_
  refine aH ?_
  refine o0 ?_;refine J1 ?_
  refine aZ (λ c101=>?_) (λ c101=>?_)
  ·exact nv c101
  ·refine J2 ?_;refine E8 ?_
   refine aH ?_
   refine ng ?_;(refine aH ?_);refine Kc9 ?_
   refine aZ (λ c109=>?_) (λ c109=>?_)
   ·refine J0 ?_;refine aT (cV (hc:=λ w1 hw=>fM _ _ w1)) (λ x118=>?_);refine B5 ?_
    refine bK Tryz.results124 (λ w hw=>?_)
    exact⟨(iH false 0,1,x,[]),rfl,⟨g1,ok,by simp,Nat.le_refl _,bH _⟩,hw.aS (hF:=by exact aV.nil)⟩
   ·exact nv c109
set_option maxRecDepth 100000 in
theorem N3(hg:g.Ok)(i m:Int){h:Nat}(hh:h<18446744073709551616)(level:Nat)(hlv:level<=1073741824)(K:Rs->Int->Tr)(ht:k.t.root<=9223372036854775807)(hi:i<=x.L.length)(hm:m<=x.L.length)(hA:∀f∈aW x.L,f∈A)(hk:¬(aA x.L m).nd.kind=6){b:Int}(hl:jN (aA x.L m).c (fS h (level:Int))=some b)(hi2:(aA x.L b).nd.kind=2)(go:fD g x (jD k i m h level K))(ok:x.Ok)(hs:SF w D (xH k bx bm x dn rs) A [] (xW x) w):Calls Tryz.prog 124 #[.pointer (some ⟨bx,0,none⟩),.int .i64 i,.int .i64 m,.int .u64 (h:Int),.int .i64 (level:Int)] w (Vs g x K bx bm k dn rs D w):=by
 have hyl:=pR ok m
 have hlL:=ok.lL
 have h48:fD g x _/\nS x.L.length x.cs.length (aA x.L m).c:=⟨nQ go hm,ok.nv m⟩
 have hb:b<=x.L.length:=by have:=oW (ok.nv m) (fS h (level:Int));rw[hl] at this;exact this
 refine enter Tryz.func124 Tryz.ntmps124 rfl rfl (bX hs) ?_
 simp only[cO]
 refine J0 ?_;refine aN (λ x10=>?_);refine gQ ?_
 refine dW [12,13,26,27,28,29,30,31,32,33] (λ j:Nat=>[(12,.pointer (some ⟨j,0,none⟩)),(13,.string k.key)]) (λ _=>True) (λ j=>[(j,.cells ⟨(aA x.L m).nd.cells⟩ 77 (0,0)),(x10,.cells ⟨Rs.zero.cells⟩ 68 (0,0)),(bx,xO k bm x dn rs),(bm,xM x)]) (λ _=>[]) (λ _=>xW x) (by decide) (λ _=>by exact rfl) ?_ (λ j f hx=>?_)
 ·refine gK (.one 0 [] (.one 1 [] (.one 3 [] (.one 4 [] (.one 5 [] (.one 6 [] (.one 7 [] (.two 2 [7] (.one 8 [7] (.one 9 [7] (.one 10 [] .nil))) 0 [] (.two 8 [7] (.one 2 [7] (.one 9 [7] (.one 10 [] .nil))) 0 [] .nil))))))))) ?_
  refine gP ?_;refine uB ?_
  refine gW (E:=[2,8]) (by decide +kernel) ((.cons ?_ (.cons ?_ .nil)))
  ·refine kP (i:=2) (hq:=(cM (hs:=xH k bx bm x dn rs) (os:=xW x) (hc:=λ w hs=>eS m (by omega) ok hs))) (h:=λ x28 h28=>?_)
   refine fQ (h:=λ x12=>?_);refine Ag ?_
   refine eN (x12) ?_
   ·trivial
  ·refine gF (i:=8) (h:=λ x12=>?_)
   refine bC (i:=2) (hq:=(cM (hs:=xH k bx bm x dn rs) (os:=xW x) (hc:=λ w hs=>eS m (by omega) ok hs))) (h:=λ x28 h28=>?_);refine Ag ?_
   refine eN (x12) ?_
   ·trivial
 dsimp only[fY,List.map,List.cons_append,List.nil_append]
 refine Az ?_;refine sX ?_
 refine aZ (λ c36=>?_) (λ c36=>?_)
 ·exact absurd c36 hk
 ·have g0:=h48.1.to (λ _=>if_neg hk)
  have g1:=rU g0 (by rw[hl];rfl)
  rw[hl] at g1
  have g2:=nQ g1 hb
  refine zS ?_;refine aT (cV (hc:=λ w1 hw=>eH hh (level:Int) w1)) (λ x91=>?_);refine J1 ?_;refine B6 ?_;refine aT (cV (hc:=λ w1 hw=>Hw (v:=(aA x.L m)) h48.2 hl (ok.qR hw hA m))) (λ x95=>?_);refine aB ?_;refine aE (bL rf rfl) rfl ?_;refine aE (bL rf rfl) rfl ?_;refine J8 ?_;refine iR ?_;refine aC (cM (hs:=xH k bx bm x dn rs) (os:=xW x) (hc:=λ w hs=>eS b (by omega) ok hs)) (λ x100 h100=>?_);refine aN (λ x21=>?_);refine J5 ?_;refine D8 ?_;refine iR ?_
  (refine aF ?_;refine aD ?_)
  refine o0 ?_;refine J1 ?_
  refine aZ (λ c101=>?_) (λ c101=>?_)
  ·have g3:=g2.to (λ _=>if_pos hi2)
   refine J0 ?_;refine bG ?_;refine B5 ?_
   refine bK Tryz.results124 (λ w hw=>?_)
   exact⟨(Rs.zero,2,x,[]),rfl,⟨g3,ok,by simp,Nat.le_refl _,bH _⟩,hw.aS (hF:=by exact aV.nil)⟩
  ·exact absurd hi2 c101
set_option maxRecDepth 100000 in
theorem P0(hg:g.Ok)(i m:Int){h:Nat}(hh:h<18446744073709551616)(level:Nat)(hlv:level<=1073741824)(K:Rs->Int->Tr)(ht:k.t.root<=9223372036854775807)(hi:i<=x.L.length)(hm:m<=x.L.length)(hA:∀f∈aW x.L,f∈A)(hk:¬(aA x.L m).nd.kind=6){b:Int}(hl:jN (aA x.L m).c (fS h (level:Int))=some b)(hi2:¬(aA x.L b).nd.kind=2)(he:¬(aA x.L b).nd.key=k.key)(go:fD g x (jD k i m h level K))(ok:x.Ok)(hs:SF w D (xH k bx bm x dn rs) A [] (xW x) w):Calls Tryz.prog 124 #[.pointer (some ⟨bx,0,none⟩),.int .i64 i,.int .i64 m,.int .u64 (h:Int),.int .i64 (level:Int)] w (Vs g x K bx bm k dn rs D w):=by
 have hyl:=pR ok m
 have hlL:=ok.lL
 have h48:fD g x _/\nS x.L.length x.cs.length (aA x.L m).c:=⟨nQ go hm,ok.nv m⟩
 have hb:b<=x.L.length:=by have:=oW (ok.nv m) (fS h (level:Int));rw[hl] at this;exact this
 refine enter Tryz.func124 Tryz.ntmps124 rfl rfl (bX hs) ?_
 simp only[cO]
 refine J0 ?_;refine aN (λ x10=>?_);refine gQ ?_
 refine dW [12,13,26,27,28,29,30,31,32,33] (λ j:Nat=>[(12,.pointer (some ⟨j,0,none⟩)),(13,.string k.key)]) (λ _=>True) (λ j=>[(j,.cells ⟨(aA x.L m).nd.cells⟩ 77 (0,0)),(x10,.cells ⟨Rs.zero.cells⟩ 68 (0,0)),(bx,xO k bm x dn rs),(bm,xM x)]) (λ _=>[]) (λ _=>xW x) (by decide) (λ _=>by exact rfl) ?_ (λ j f hx=>?_)
 ·refine gK (.one 0 [] (.one 1 [] (.one 3 [] (.one 4 [] (.one 5 [] (.one 6 [] (.one 7 [] (.two 2 [7] (.one 8 [7] (.one 9 [7] (.one 10 [] .nil))) 0 [] (.two 8 [7] (.one 2 [7] (.one 9 [7] (.one 10 [] .nil))) 0 [] .nil))))))))) ?_
  refine gP ?_;refine uB ?_
  refine gW (E:=[2,8]) (by decide +kernel) ((.cons ?_ (.cons ?_ .nil)))
  ·refine kP (i:=2) (hq:=(cM (hs:=xH k bx bm x dn rs) (os:=xW x) (hc:=λ w hs=>eS m (by omega) ok hs))) (h:=λ x28 h28=>?_)
   refine fQ (h:=λ x12=>?_);refine Ag ?_
   refine eN (x12) ?_
   ·trivial
  ·refine gF (i:=8) (h:=λ x12=>?_)
   refine bC (i:=2) (hq:=(cM (hs:=xH k bx bm x dn rs) (os:=xW x) (hc:=λ w hs=>eS m (by omega) ok hs))) (h:=λ x28 h28=>?_);refine Ag ?_
   refine eN (x12) ?_
   ·trivial
 dsimp only[fY,List.map,List.cons_append,List.nil_append]
 refine Az ?_;refine sX ?_
 refine aZ (λ c36=>?_) (λ c36=>?_)
 ·exact absurd c36 hk
 ·have g0:=h48.1.to (λ _=>if_neg hk)
  have g1:=rU g0 (by rw[hl];rfl)
  rw[hl] at g1
  have g2:=nQ g1 hb
  refine zS ?_;refine aT (cV (hc:=λ w1 hw=>eH hh (level:Int) w1)) (λ x91=>?_);refine J1 ?_;refine B6 ?_;refine aT (cV (hc:=λ w1 hw=>Hw (v:=(aA x.L m)) h48.2 hl (ok.qR hw hA m))) (λ x95=>?_);refine aB ?_;refine aE (bL rf rfl) rfl ?_;refine aE (bL rf rfl) rfl ?_;refine J8 ?_;refine iR ?_;refine aC (cM (hs:=xH k bx bm x dn rs) (os:=xW x) (hc:=λ w hs=>eS b (by omega) ok hs)) (λ x100 h100=>?_);refine aN (λ x21=>?_);refine J5 ?_;refine D8 ?_;refine iR ?_
  (refine aF ?_;refine aD ?_)
  refine o0 ?_;refine J1 ?_
  refine aZ (λ c101=>?_) (λ c101=>?_)
  ·exact absurd c101 hi2
  ·have g3:=(g2.to (λ _=>if_neg hi2)).to (λ _=>if_pos he)
   refine J2 ?_;refine E8 ?_
   (refine aF ?_;refine aD ?_)
   refine ng ?_;((refine aF ?_;refine aE (jf rf rf he) rfl ?_));refine Kc9 ?_
   refine aZ (λ c109=>?_) (λ c109=>?_)
   ·refine J0 ?_;refine aT (cV (hc:=λ w1 hw=>fM _ _ w1)) (λ x118=>?_);refine B5 ?_
    refine bK Tryz.results124 (λ w hw=>?_)
    exact⟨(iH false 0,1,x,[]),rfl,⟨g3,ok,by simp,Nat.le_refl _,bH _⟩,hw.aS (hF:=by exact aV.nil)⟩
   ·exact nv c109
set_option maxRecDepth 100000 in
theorem Ov(hg:g.Ok)(i m:Int){h:Nat}(hh:h<18446744073709551616)(level:Nat)(hlv:level<=1073741824)(K:Rs->Int->Tr)(ht:k.t.root<=9223372036854775807)(hi:i<=x.L.length)(hm:m<=x.L.length)(hA:∀f∈aW x.L,f∈A)(hk:¬(aA x.L m).nd.kind=6){b:Int}(hl:jN (aA x.L m).c (fS h (level:Int))=some b)(hi2:¬(aA x.L b).nd.kind=2)(he:(aA x.L b).nd.key=k.key)(go:fD g x (jD k i m h level K))(ok:x.Ok)(hs:SF w D (xH k bx bm x dn rs) A [] (xW x) w):Calls Tryz.prog 124 #[.pointer (some ⟨bx,0,none⟩),.int .i64 i,.int .i64 m,.int .u64 (h:Int),.int .i64 (level:Int)] w (Vs g x K bx bm k dn rs D w):=by
 have hyl:=pR ok m
 have hlL:=ok.lL
 have h48:fD g x _/\nS x.L.length x.cs.length (aA x.L m).c:=⟨nQ go hm,ok.nv m⟩
 have hb:b<=x.L.length:=by have:=oW (ok.nv m) (fS h (level:Int));rw[hl] at this;exact this
 refine enter Tryz.func124 Tryz.ntmps124 rfl rfl (bX hs) ?_
 simp only[cO]
 refine J0 ?_;refine aN (λ x10=>?_);refine gQ ?_
 refine dW [12,13,26,27,28,29,30,31,32,33] (λ j:Nat=>[(12,.pointer (some ⟨j,0,none⟩)),(13,.string k.key)]) (λ _=>True) (λ j=>[(j,.cells ⟨(aA x.L m).nd.cells⟩ 77 (0,0)),(x10,.cells ⟨Rs.zero.cells⟩ 68 (0,0)),(bx,xO k bm x dn rs),(bm,xM x)]) (λ _=>[]) (λ _=>xW x) (by decide) (λ _=>by exact rfl) ?_ (λ j f hx=>?_)
 ·refine gK (.one 0 [] (.one 1 [] (.one 3 [] (.one 4 [] (.one 5 [] (.one 6 [] (.one 7 [] (.two 2 [7] (.one 8 [7] (.one 9 [7] (.one 10 [] .nil))) 0 [] (.two 8 [7] (.one 2 [7] (.one 9 [7] (.one 10 [] .nil))) 0 [] .nil))))))))) ?_
  refine gP ?_;refine uB ?_
  refine gW (E:=[2,8]) (by decide +kernel) ((.cons ?_ (.cons ?_ .nil)))
  ·refine kP (i:=2) (hq:=(cM (hs:=xH k bx bm x dn rs) (os:=xW x) (hc:=λ w hs=>eS m (by omega) ok hs))) (h:=λ x28 h28=>?_)
   refine fQ (h:=λ x12=>?_);refine Ag ?_
   refine eN (x12) ?_
   ·trivial
  ·refine gF (i:=8) (h:=λ x12=>?_)
   refine bC (i:=2) (hq:=(cM (hs:=xH k bx bm x dn rs) (os:=xW x) (hc:=λ w hs=>eS m (by omega) ok hs))) (h:=λ x28 h28=>?_);refine Ag ?_
   refine eN (x12) ?_
   ·trivial
 dsimp only[fY,List.map,List.cons_append,List.nil_append]
 refine Az ?_;refine sX ?_
 refine aZ (λ c36=>?_) (λ c36=>?_)
 ·exact absurd c36 hk
 ·have g0:=h48.1.to (λ _=>if_neg hk)
  have g1:=rU g0 (by rw[hl];rfl)
  rw[hl] at g1
  have g2:=nQ g1 hb
  refine zS ?_;refine aT (cV (hc:=λ w1 hw=>eH hh (level:Int) w1)) (λ x91=>?_);refine J1 ?_;refine B6 ?_;refine aT (cV (hc:=λ w1 hw=>Hw (v:=(aA x.L m)) h48.2 hl (ok.qR hw hA m))) (λ x95=>?_);refine aB ?_;refine aE (bL rf rfl) rfl ?_;refine aE (bL rf rfl) rfl ?_;refine J8 ?_;refine iR ?_;refine aC (cM (hs:=xH k bx bm x dn rs) (os:=xW x) (hc:=λ w hs=>eS b (by omega) ok hs)) (λ x100 h100=>?_);refine aN (λ x21=>?_);refine J5 ?_;refine D8 ?_;refine iR ?_
  (refine aF ?_;refine aD ?_)
  refine o0 ?_;refine J1 ?_
  refine aZ (λ c101=>?_) (λ c101=>?_)
  ·exact absurd c101 hi2
  ·have g3:=(g2.to (λ _=>if_neg hi2)).to (λ _=>if_neg (λ h:¬(aA x.L b).nd.key=k.key=>h he))
   refine J2 ?_;refine E8 ?_
   (refine aF ?_;refine aD ?_)
   refine ng ?_;((refine aF ?_;refine aE (iq rf rf he) rfl ?_));refine Kc9 ?_
   refine aZ (λ c109=>?_) (λ c109=>?_)
   ·exact nv c109
   ·refine aR ?_;refine fJ [0,1,2,3,4,5,6,7,8,9,10,11,12,13,14,15] ?_;refine uB ?_;refine aU ?_
    (refine ko 125 (λ g125=>?_) (λ g125=>?_)<;>(first|refine fT ?_|(refine aP ?_)))
    all_goals ((first|refine fT ?_|(refine bO ?_));(first|refine fT ?_|(refine aU ?_));(first|refine fT ?_|(refine kB ?_));(first|refine fT ?_|(refine aP ?_));refine xk ?_;(first|refine fT ?_|(refine Bl ?_));refine iW ?_;refine J7 ?_)
    all_goals
    refine aZ (λ c119=>?_) (λ c119=>?_)
    ·try exact nv c119
     all_goals
      have g4:=g3.to (λ _=>if_pos (show(k.only=true/\(aA x.L b).nd.val≠k.exp) from⟨by assumption,by assumption⟩))
     all_goals (refine gU ?_;refine aT (cV (hc:=λ w1 hw=>fM _ _ w1)) (λ x137=>?_);refine B5 ?_)
     all_goals
      refine bK Tryz.results124 (λ w hw=>?_)
      exact⟨(iH true (aA x.L b).nd.val,1,x,[]),rfl,⟨g4,ok,by simp,Nat.le_refl _,bH _⟩,hw.aS (hF:=by exact aV.nil)⟩
    ·all_goals
      have g4:=g3.to (λ _=>if_neg (show ¬(k.only=true/\(aA x.L b).nd.val≠k.exp) from by rintro ⟨h,h'⟩;simp_all))
     all_goals (refine lG ?_;refine B6 ?_;refine aC (cF (hc:=λ w1 hw=>vx (v:=(aA x.L m)) h48.2 (fS h (level:Int)) (ok.qR hw hA m))) (λ x141 h141=>?_))
     all_goals
      have hB:=ze h48.2 (v:=(aA x.L m)) (fS h (level:Int))
     all_goals (refine aB ?_;refine aE (bL rf rfl) rfl ?_;refine aE (bL rf rfl) rfl ?_;refine aN (λ x22=>?_);refine B5 ?_;refine kV ?_;refine aT (cV (hc:=λ w1 hw=>dw hB (pf h48.2 (fS h (level:Int)) x141) (hw.cl (.new .head)))) (λ x146=>?_))
     all_goals
      have hso:((Ja (Kn (aA x.L m).c (fS h (level:Int)))).getD 0)<=x.L.length:=y7 hB (pf h48.2 (fS h (level:Int)) x141)
      have g5:=nQ g4 hso
     all_goals (refine aB ?_;refine aE (bL rf rfl) rfl ?_;refine aE (bL rf rfl) rfl ?_;refine J8 ?_;refine aR ?_;refine eG [(0,[]),(1,[]),(2,[]),(3,[]),(4,[]),(5,[]),(6,[]),(7,[]),(8,[]),(9,[]),(10,[]),(11,[]),(12,[]),(13,[]),(16,[]),(19,[]),(20,[]),(14,[6,10,20]),(15,[6,20]),(17,[6,20]),(18,[20]),(21,[]),(22,[]),(23,[]),(24,[]),(25,[])] ?_;refine gP ?_;refine J9 ?_;refine aP ?_;refine bJ (i:=6) (hq:=(aK (k:=2) (vs:=[.int .i64 k.t.root,.bool k.t.ro]) rf dV fX rfl rfl)) (h:=?_);refine gP ?_;refine Kb6 ?_;refine gP ?_;refine gP ?_;refine mF ?_;refine bC (i:=14) (hq:=(cM (hs:=xH k bx bm x dn rs) (os:=xW x) (hc:=λ w hs=>eS ((Ja (Kn (aA x.L m).c (fS h (level:Int)))).getD 0) (by omega) ok hs))) (hfire:=(λ _=>by(refine hY ?_;(repeat (first|exact aM.nil|refine aM.cons (by first|exact eR (hq:=aK (k:=2) (vs:=[.int .i64 k.t.root,.bool k.t.ro]) rf dV fX rfl rfl)|exact fA) ?_));done))) (h:=λ x163 h163=>?_);refine cY (i:=15) (hq:=(cV (hc:=λ w1 hw=>Tb hB (level:Int) (aA x.L ((Ja (Kn (aA x.L m).c (fS h (level:Int)))).getD 0)).nd (hw.cl (.new .head))))) (hfire:=(λ _=>by((repeat (first|exact aM.nil|refine aM.cons (by first|exact eR (hq:=aK (k:=2) (vs:=[.int .i64 k.t.root,.bool k.t.ro]) rf dV fX rfl rfl)|exact fA) ?_));done))) (h:=λ x164=>?_);refine bC (i:=17) (hq:=(cM (hs:=xH k bx bm x dn rs) (os:=xW x) (A0:=[((Mf (Yg (aA x.L m) (fS h (level:Int))) x141 (level:Int) (aA x.L ((Ja (Kn (aA x.L m).c (fS h (level:Int)))).getD 0)).nd).brA,aG (Ud (Yg (aA x.L m) (fS h (level:Int))) x141 (level:Int) (aA x.L ((Ja (Kn (aA x.L m).c (fS h (level:Int)))).getD 0)).nd)),((Mf (Yg (aA x.L m) (fS h (level:Int))) x141 (level:Int) (aA x.L ((Ja (Kn (aA x.L m).c (fS h (level:Int)))).getD 0)).nd).prA,dG [])]) (hA:=o9) (hc:=λ w hs=>fR hg (n:=(Mf (Yg (aA x.L m) (fS h (level:Int))) x141 (level:Int) (aA x.L ((Ja (Kn (aA x.L m).c (fS h (level:Int)))).getD 0)).nd)) (xs:=(Ud (Yg (aA x.L m) (fS h (level:Int))) x141 (level:Int) (aA x.L ((Ja (Kn (aA x.L m).c (fS h (level:Int)))).getD 0)).nd)) (ys:=[]) m _ (Yy _ _ _) (cg _ _ _) (Rp hB _ _ _) (Nat.zero_le _) (Ra hB _ _ (ok.nv ((Ja (Kn (aA x.L m).c (fS h (level:Int)))).getD 0)).hash) hm (by rw[<- o8,<- zu h48.2];exact g5) ok hs))) (hfire:=(λ _=>by(refine hY ?_;(repeat (first|exact aM.nil|refine aM.cons (by first|exact eR (hq:=aK (k:=2) (vs:=[.int .i64 k.t.root,.bool k.t.ro]) rf dV fX rfl rfl)|exact fA) ?_));done))) (h:=λ x166 h166=>?_);refine bC (i:=18) (hq:=(cM (hs:=xH k bx bm x166.2.1 dn rs) (os:=xW x166.2.1) (hc:=λ w hs=>rN hg k.t i m x166.1 _ ht (by have:=h166.len;omega) h166.bd h166.go h166.ok hs))) (h:=λ x167 h167=>?_))
     all_goals
      have hch:=Ch.nx h167 (Ch.nx h166 ((Ch.base (F:=[])).cons (f:=(x141.1,aG (lD (Yg (aA x.L m) (fS h (level:Int))))))))
      have hlc:x.cs.length<=x167.2.1.cs.length:=by have:=h166.lc;have:=h167.lc;omega
     all_goals (refine cY (i:=21) (hq:=(cV (hc:=λ w1 hw=>nY _ _ _ _ w1))) (h:=λ x170=>?_);refine cJ (i:=22) (hq:=(bL rf rfl)) (h:=?_);refine cJ (i:=23) (hq:=(bL rf rfl)) (h:=?_);refine Ag ?_)
     all_goals
      refine bK Tryz.results124 (λ w hw=>?_)
      obtain⟨N,hN,hf⟩:=hch.to (t':=K (qF true (aA x.L b).nd.val) (if x167.1=true then 1 else 0)) h167 (h167.go) hlc (bH _)
      exact⟨(qF true (aA x.L b).nd.val,(if x167.1=true then 1 else 0),x167.2.1,N),rfl,hN,(hw.eP hf).v1⟩
theorem Pq(hg:g.Ok)(i m:Int){h:Nat}(hh:h<18446744073709551616)(level:Nat)(hlv:level<=1073741824)(K:Rs->Int->Tr)(ht:k.t.root<=9223372036854775807)(hi:i<=x.L.length)(hm:m<=x.L.length)(hA:∀f∈aW x.L,f∈A)(go:fD g x (jD k i m h level K))(ok:x.Ok)(hs:SF w D (xH k bx bm x dn rs) A [] (xW x) w):Calls Tryz.prog 124 #[.pointer (some ⟨bx,0,none⟩),.int .i64 i,.int .i64 m,.int .u64 (h:Int),.int .i64 (level:Int)] w (Vs g x K bx bm k dn rs D w):=by
 by_cases hk:(aA x.L m).nd.kind=6
 ·exact Pw hg i m hh level hlv K ht hi hm hA hk go ok hs
 ·cases hl:jN (aA x.L m).c (fS h (level:Int)) with
  | none=>exact N7 hg i m hh level hlv K ht hi hm hA hk hl go ok hs
  | some b =>
   by_cases hi2:(aA x.L b).nd.kind=2
   ·exact N3 hg i m hh level hlv K ht hi hm hA hk hl hi2 go ok hs
   ·by_cases he:(aA x.L b).nd.key=k.key
    ·exact Ov hg i m hh level hlv K ht hi hm hA hk hl hi2 he go ok hs
    ·exact P0 hg i m hh level hlv K ht hi hm hA hk hl hi2 he go ok hs
end
end Go.Proofs.YtadnboagdhcedaaGreatDoor

/- Executions of the reference: one attempt of DROP at a leaf. -/
import Derived.Test.YtadnboagdhcedaaGreatDoorGEx18
set_option linter.unusedSimpArgs false
set_option linter.unusedVariables false
namespace Go.Ct
open Go Go.RowKit
theorem nC{g:Gx}{x:XS}{r:Int}{K:Nv->Tr}(h:eU g x (.node r K))(hr:r<=x.L.length):eU g x (K (aA x.L r).c):=by
 have:=h.node hr
 rwa [show cD x.nodes r=(aA x.L r).c from(Hu x.L r).symm] at this
section
variable{P:Program}{S:List (Nat×Value)}{G:World->Prop}{d:Nat}{ty t t':TypeId}{pos:String}{af:Array Edge}{gd:Option (Nat×Bool)}{x y:Operand}{a b:ByteArray}
theorem Z9(hx:ev S x=.string a)(hy:ev S y=.string b)(h:¬a=b):aJ P S G ⟨some d,.binOp .neq t x y t',ty,pos,af,gd⟩ (.bool true):=by
 have:=Cs (P:=P) (G:=G) (d:=d) (ty:=ty) (pos:=pos) (af:=af) (gd:=gd) (t:=t) (t':=t') hx hy
 rwa [bne,ml h] at this
theorem gj(hx:ev S x=.string a)(hy:ev S y=.string b)(h:a=b):aJ P S G ⟨some d,.binOp .neq t x y t',ty,pos,af,gd⟩ (.bool false):=by
 have:=Cs (P:=P) (G:=G) (d:=d) (ty:=ty) (pos:=pos) (af:=af) (gd:=gd) (t:=t) (t':=t') hx hy
 rwa [bne,j1 h] at this
end
end Go.Ct
namespace Go.Proofs.YtadnboagdhcedaaGreatDoor
open Go Go.RowKit Go.Ct
theorem iy{m:Nat}{o:Option (Nat×List Int)}{w:World}(h:tR m o){x:Option Addr×Nat}{r:Nv}(e:r=(kW o x).c (kE o) [])(hc:Go.Ct.Cl w x.1 (aG (kE o))):Calls Tryz.prog 149 #[(kW o x).v] w λ e w'=>e=.returned (.tuple #[.int .i64 ((Iq r).getD 0),.bool (Iq r).isSome])/\St w [] [] w':=by
 obtain⟨b,h1,h2⟩:=Jw h x
 have:=Fo (n:=kW o x) h1 h2 (Lg h hc)
 rw[n9,<- e] at this
 exact this
theorem xa{m:Nat}{o:Option (Nat×List Int)}(h:tR m o){x:Option Addr×Nat}{r:Nv}(e:r=(kW o x).c (kE o) []):(Iq r).getD 0<=m:=by
 rw[e,<- n9]
 unfold Vj
 split
 ·refine lO (λ v hv=>?_) 0
  cases o with
  | none=>exact(List.not_mem_nil hv).elim
  | some q=>exact(h.out q rfl).2.2 v hv
 ·exact bE _
section
variable{k:Cl}{bx bm:Nat}{x:XS}{dn:Bool}{rs:Rs}{D:List Nat}{A:Fr}{w:World}{g:Gx}
set_option maxRecDepth 100000 in
theorem N9(hg:g.Ok)(i m:Int){h:Nat}(hh:h<18446744073709551616)(level:Nat)(hlv:level<=1073741824)(K:Rs->Int->Tr)(ht:k.t.root<=9223372036854775807)(hi:i<=x.L.length)(hm:m<=x.L.length)(hA:∀f∈aY x.L,f∈A)(hk:(aA x.L m).nd.kind=6)(go:eU g x (iU k i m h level K))(ok:x.Ok)(hs:SF w D (xH k bx bm x dn rs) A [] (xW x) w):Calls Tryz.prog 124 #[.pointer (some ⟨bx,0,none⟩),.int .i64 i,.int .i64 m,.int .u64 (h:Int),.int .i64 (level:Int)] w (Un g x K bx bm k dn rs D w):=by
 have hyl:=oT ok m
 have hlL:=ok.lL
 have h48:eU g x _/\nE x.L.length x.cs.length (aA x.L m).c:=⟨nC go hm,ok.nv m⟩
 refine enter Tryz.func124 Tryz.ntmps124 rfl rfl (cA hs) ?_
 simp only[cR]
 refine J0 ?_;refine aP (λ x10=>?_);refine gK ?_
 refine eL [12,13,26,27,28,29,30,31,32,33] (λ j:Nat=>[(12,.pointer (some ⟨j,0,none⟩)),(13,.string k.key)]) (λ _=>True) (λ j=>[(j,.cells ⟨(aA x.L m).nd.cells⟩ 77 (0,0)),(x10,.cells ⟨Rs.zero.cells⟩ 68 (0,0)),(bx,xO k bm x dn rs),(bm,xM x)]) (λ _=>[]) (λ _=>xW x) (by decide) (λ _=>by exact rfl) ?_ (λ j f hx=>?_)
 ·refine gV (.one 0 [] (.one 1 [] (.one 3 [] (.one 4 [] (.one 5 [] (.one 6 [] (.one 7 [] (.two 2 [7] (.one 8 [7] (.one 9 [7] (.one 10 [] .nil))) 0 [] (.two 8 [7] (.one 2 [7] (.one 9 [7] (.one 10 [] .nil))) 0 [] .nil))))))))) ?_
  refine gM ?_;refine tA ?_
  refine kH (E:=[2,8]) (by decide +kernel) ((.cons ?_ (.cons ?_ .nil)))
  ·refine qB (i:=2) (hq:=(cM (hs:=xH k bx bm x dn rs) (os:=xW x) (hc:=λ w hs=>eK m (by omega) ok hs))) (h:=λ x28 h28=>?_)
   refine fS (h:=λ x12=>?_);refine zF ?_
   refine gA (x12) ?_
   ·trivial
  ·refine jL (i:=8) (h:=λ x12=>?_)
   refine bS (i:=2) (hq:=(cM (hs:=xH k bx bm x dn rs) (os:=xW x) (hc:=λ w hs=>eK m (by omega) ok hs))) (h:=λ x28 h28=>?_);refine zF ?_
   refine gA (x12) ?_
   ·trivial
 dsimp only[gG,List.map,List.cons_append,List.nil_append]
 refine yU ?_;refine rR ?_
 refine aZ (λ c36=>?_) (λ c36=>?_)
 ·have g1:=h48.1.to (λ _=>if_pos hk)
  refine gN ?_;refine aB ?_;refine aR (cV (hc:=λ w1 hw=>Hw (v:=(aA x.L m)) (n:=0) k.key (ok.pU hw hA m) (ok.zp m))) (λ x41=>?_);refine aB ?_;refine aE (bI rf rfl) rfl ?_;refine aE (bI rf rfl) rfl ?_;refine J8 ?_;refine kT ?_;refine El ?_
  (refine eR 46 (λ g46=>?_) (λ g46=>?_)<;>refine Ka1 ?_)
  all_goals ((first|refine aH ?_|(refine aF ?_;refine fY ?_));refine Ka0 ?_;refine Ka0 ?_;refine Ka2 ?_;refine Ka1 ?_)
  all_goals (first|refine Cy ?_|(refine eR 52 (λ g52=>?_) (λ g52=>?_)<;>refine Ka1 ?_))
  all_goals ((first|refine aH ?_|refine Cy ?_|(refine Ka3 ?_));(first|refine aH ?_|refine Cy ?_|(refine aF ?_;refine fY ?_));(first|refine aH ?_|refine Cy ?_|(refine aF ?_;refine aD ?_));(first|refine aH ?_|refine Cy ?_|(refine aF ?_;refine aD ?_));(first|refine aH ?_|refine Cy ?_|(refine aF ?_;refine bK ?_));(first|refine aH ?_|refine Cy ?_|(refine aF ?_;refine jE ?_));(first|refine aH ?_|(refine aF ?_;refine cU ?_));refine cU ?_;refine aI ?_)
  all_goals
  refine aZ (λ c61=>?_) (λ c61=>?_)
  ·try exact nv c61
   all_goals
    have g2:=g1.to (λ _=>if_pos (show((dA (aA x.L m).c.ys k.key).isSome=false∨(k.only=true/\(dA (aA x.L m).c.ys k.key).getD 0≠k.exp)) from by first|exact Or.inl (by assumption)|exact Or.inr ⟨by assumption,by assumption⟩))
   all_goals (refine iF ?_;refine aR (cV (hc:=λ w1 hw=>fF _ _ w1)) (λ x64=>?_);refine A1 ?_)
   all_goals
    refine bJ Tryz.results124 (λ w hw=>?_)
    exact⟨(hZ (dA (aA x.L m).c.ys k.key).isSome ((dA (aA x.L m).c.ys k.key).getD 0),1,x,[]),rfl,⟨g2,ok,by simp,Nat.le_refl _,bE _⟩,hw.aU (hF:=by exact aX.nil)⟩
  ·try exact nv c61
   all_goals
    have g2:=g1.to (λ _=>if_neg (show ¬((dA (aA x.L m).c.ys k.key).isSome=false∨(k.only=true/\(dA (aA x.L m).c.ys k.key).getD 0≠k.exp)) from by rintro (h|⟨h,h'⟩)<;>simp_all))
   all_goals (refine bA ?_;refine Az ?_;refine aC (cF (hc:=λ w1 hw=>vk (v:=(aA x.L m)) h48.2 k.key (ok.pU hw hA m) (by omega))) (λ x68 h68=>?_);refine aB ?_;refine aE (bI rf rfl) rfl ?_;refine aE (bI rf rfl) rfl ?_;refine aP (λ x16=>?_);refine lN (λ _=>?_);refine gK ?_;refine eD [(0,[]),(1,[]),(2,[]),(3,[]),(4,[]),(5,[]),(6,[]),(7,[]),(8,[]),(9,[]),(10,[]),(11,[]),(14,[]),(12,[6]),(13,[]),(15,[]),(16,[]),(17,[]),(18,[]),(19,[])] ?_;refine gM ?_;refine J9 ?_;refine aQ ?_;refine bM (i:=6) (hq:=(aL (k:=2) (vs:=[.int .i64 k.t.root,.bool k.t.ro]) rf fN gX rfl rfl)) (h:=?_);refine gM ?_;refine Kb5 ?_;refine gM ?_;refine bS (i:=12) (hq:=(cM (hs:=xH k bx bm x dn rs) (os:=xW x) (A0:=[((Ja (nY (aA x.L m).nd (aA x.L m).xs (aA x.L m).ys k.key) (aA x.L m).nd.hash x68).brA,aG []),((Ja (nY (aA x.L m).nd (aA x.L m).xs (aA x.L m).ys k.key) (aA x.L m).nd.hash x68).prA,cZ (Ej (nY (aA x.L m).nd (aA x.L m).xs (aA x.L m).ys k.key)))]) (hA:=tu) (hc:=λ w hs=>fJ hg (n:=Ja (nY (aA x.L m).nd (aA x.L m).xs (aA x.L m).ys k.key) (aA x.L m).nd.hash x68) (xs:=[]) (ys:=Ej (nY (aA x.L m).nd (aA x.L m).xs (aA x.L m).ys k.key)) m _ (Xd _ _ _).1 (Xd _ _ _).2 (by decide) (by have:=m6 (aA x.L m).xs (aA x.L m).ys (aA x.L m).nd k.key;omega) (qy _ h48.2.hash) hm (by rw[zb];exact g2) ok hs))) (hfire:=(λ _=>by(refine gR ?_;refine aM.cons (by exact eI (hq:=aL (k:=2) (vs:=[.int .i64 k.t.root,.bool k.t.ro]) rf fN gX rfl rfl)) ?_;exact aM.nil))) (h:=λ x83 h83=>?_);refine bS (i:=13) (hq:=(cM (hs:=xH k bx bm x83.2.1 dn rs) (os:=xW x83.2.1) (hc:=λ w hs=>rC hg k.t i m x83.1 _ ht (by have:=h83.len;omega) h83.bd h83.go h83.ok hs))) (h:=λ x84 h84=>?_))
   all_goals
    have hch:=Ch.nx h84 (Ch.nx h83 ((Ch.base (F:=[])).cons (f:=(x68.1,cZ (Ej (nY (aA x.L m).nd (aA x.L m).xs (aA x.L m).ys k.key))))))
    have hlc:x.cs.length<=x84.2.1.cs.length:=by have:=h83.lc;have:=h84.lc;omega
   all_goals (refine dG (i:=15) (hq:=(cV (hc:=λ w1 hw=>nK _ _ _ _ w1))) (h:=λ x86=>?_);refine cJ (i:=16) (hq:=(bI rf rfl)) (h:=?_);refine cJ (i:=17) (hq:=(bI rf rfl)) (h:=?_);refine zF ?_)
   all_goals
    refine bJ Tryz.results124 (λ w hw=>?_)
    obtain⟨N,hN,hf⟩:=hch.to (t':=K (pF true ((dA (aA x.L m).c.ys k.key).getD 0)) (if x84.1=true then 1 else 0)) h84 (h84.go) hlc (bE _)
    exact⟨(pF true ((dA (aA x.L m).c.ys k.key).getD 0),(if x84.1=true then 1 else 0),x84.2.1,N),rfl,hN,(hw.eG hf).z7⟩
 ·exact absurd hk c36
set_option maxRecDepth 100000 in
theorem Nz(hg:g.Ok)(i m:Int){h:Nat}(hh:h<18446744073709551616)(level:Nat)(hlv:level<=1073741824)(K:Rs->Int->Tr)(ht:k.t.root<=9223372036854775807)(hi:i<=x.L.length)(hm:m<=x.L.length)(hA:∀f∈aY x.L,f∈A)(hk:¬(aA x.L m).nd.kind=6)(hl:jF (aA x.L m).c (fM h (level:Int))=none)(go:eU g x (iU k i m h level K))(ok:x.Ok)(hs:SF w D (xH k bx bm x dn rs) A [] (xW x) w):Calls Tryz.prog 124 #[.pointer (some ⟨bx,0,none⟩),.int .i64 i,.int .i64 m,.int .u64 (h:Int),.int .i64 (level:Int)] w (Un g x K bx bm k dn rs D w):=by
 have hyl:=oT ok m
 have hlL:=ok.lL
 have h48:eU g x _/\nE x.L.length x.cs.length (aA x.L m).c:=⟨nC go hm,ok.nv m⟩
 refine enter Tryz.func124 Tryz.ntmps124 rfl rfl (cA hs) ?_
 simp only[cR]
 refine J0 ?_;refine aP (λ x10=>?_);refine gK ?_
 refine eL [12,13,26,27,28,29,30,31,32,33] (λ j:Nat=>[(12,.pointer (some ⟨j,0,none⟩)),(13,.string k.key)]) (λ _=>True) (λ j=>[(j,.cells ⟨(aA x.L m).nd.cells⟩ 77 (0,0)),(x10,.cells ⟨Rs.zero.cells⟩ 68 (0,0)),(bx,xO k bm x dn rs),(bm,xM x)]) (λ _=>[]) (λ _=>xW x) (by decide) (λ _=>by exact rfl) ?_ (λ j f hx=>?_)
 ·refine gV (.one 0 [] (.one 1 [] (.one 3 [] (.one 4 [] (.one 5 [] (.one 6 [] (.one 7 [] (.two 2 [7] (.one 8 [7] (.one 9 [7] (.one 10 [] .nil))) 0 [] (.two 8 [7] (.one 2 [7] (.one 9 [7] (.one 10 [] .nil))) 0 [] .nil))))))))) ?_
  refine gM ?_;refine tA ?_
  refine kH (E:=[2,8]) (by decide +kernel) ((.cons ?_ (.cons ?_ .nil)))
  ·refine qB (i:=2) (hq:=(cM (hs:=xH k bx bm x dn rs) (os:=xW x) (hc:=λ w hs=>eK m (by omega) ok hs))) (h:=λ x28 h28=>?_)
   refine fS (h:=λ x12=>?_);refine zF ?_
   refine gA (x12) ?_
   ·trivial
  ·refine jL (i:=8) (h:=λ x12=>?_)
   refine bS (i:=2) (hq:=(cM (hs:=xH k bx bm x dn rs) (os:=xW x) (hc:=λ w hs=>eK m (by omega) ok hs))) (h:=λ x28 h28=>?_);refine zF ?_
   refine gA (x12) ?_
   ·trivial
 dsimp only[gG,List.map,List.cons_append,List.nil_append]
 refine yU ?_;refine rR ?_
 refine aZ (λ c36=>?_) (λ c36=>?_)
 ·exact absurd c36 hk
 ·have g0:=h48.1.to (λ _=>if_neg hk)
  have g1:=I5 g0 (by rw[hl];rfl)
  refine yT ?_;refine aR (cV (hc:=λ w1 hw=>dZ hh (level:Int) w1)) (λ x91=>?_);refine J1 ?_;refine Az ?_;refine aR (cV (hc:=λ w1 hw=>mq (v:=(aA x.L m)) h48.2 hl (ok.pU hw hA m))) (λ x95=>?_);refine aB ?_;refine aE (bI rf rfl) rfl ?_;refine aE (bI rf rfl) rfl ?_;refine J8 ?_;refine iF ?_;refine aC (cM (hs:=xH k bx bm x dn rs) (os:=xW x) (hc:=λ w hs=>eK 0 (by decide) ok hs)) (λ x100 h100=>?_);refine aP (λ x21=>?_);refine J5 ?_;refine Cc ?_;refine iF ?_
  refine aH ?_
  refine jo ?_;refine J1 ?_
  refine aZ (λ c101=>?_) (λ c101=>?_)
  ·exact nv c101
  ·refine J2 ?_;refine El ?_
   refine aH ?_
   refine ll ?_;(refine aH ?_);refine Kc7 ?_
   refine aZ (λ c109=>?_) (λ c109=>?_)
   ·refine J0 ?_;refine aR (cV (hc:=λ w1 hw=>fF _ _ w1)) (λ x118=>?_);refine A1 ?_
    refine bJ Tryz.results124 (λ w hw=>?_)
    exact⟨(hZ false 0,1,x,[]),rfl,⟨g1,ok,by simp,Nat.le_refl _,bE _⟩,hw.aU (hF:=by exact aX.nil)⟩
   ·exact nv c109
set_option maxRecDepth 100000 in
theorem Mj(hg:g.Ok)(i m:Int){h:Nat}(hh:h<18446744073709551616)(level:Nat)(hlv:level<=1073741824)(K:Rs->Int->Tr)(ht:k.t.root<=9223372036854775807)(hi:i<=x.L.length)(hm:m<=x.L.length)(hA:∀f∈aY x.L,f∈A)(hk:¬(aA x.L m).nd.kind=6){b:Int}(hl:jF (aA x.L m).c (fM h (level:Int))=some b)(hi2:(aA x.L b).nd.kind=2)(go:eU g x (iU k i m h level K))(ok:x.Ok)(hs:SF w D (xH k bx bm x dn rs) A [] (xW x) w):Calls Tryz.prog 124 #[.pointer (some ⟨bx,0,none⟩),.int .i64 i,.int .i64 m,.int .u64 (h:Int),.int .i64 (level:Int)] w (Un g x K bx bm k dn rs D w):=by
 have hyl:=oT ok m
 have hlL:=ok.lL
 have h48:eU g x _/\nE x.L.length x.cs.length (aA x.L m).c:=⟨nC go hm,ok.nv m⟩
 have hb:b<=x.L.length:=by have:=oB (ok.nv m) (fM h (level:Int));rw[hl] at this;exact this
 refine enter Tryz.func124 Tryz.ntmps124 rfl rfl (cA hs) ?_
 simp only[cR]
 refine J0 ?_;refine aP (λ x10=>?_);refine gK ?_
 refine eL [12,13,26,27,28,29,30,31,32,33] (λ j:Nat=>[(12,.pointer (some ⟨j,0,none⟩)),(13,.string k.key)]) (λ _=>True) (λ j=>[(j,.cells ⟨(aA x.L m).nd.cells⟩ 77 (0,0)),(x10,.cells ⟨Rs.zero.cells⟩ 68 (0,0)),(bx,xO k bm x dn rs),(bm,xM x)]) (λ _=>[]) (λ _=>xW x) (by decide) (λ _=>by exact rfl) ?_ (λ j f hx=>?_)
 ·refine gV (.one 0 [] (.one 1 [] (.one 3 [] (.one 4 [] (.one 5 [] (.one 6 [] (.one 7 [] (.two 2 [7] (.one 8 [7] (.one 9 [7] (.one 10 [] .nil))) 0 [] (.two 8 [7] (.one 2 [7] (.one 9 [7] (.one 10 [] .nil))) 0 [] .nil))))))))) ?_
  refine gM ?_;refine tA ?_
  refine kH (E:=[2,8]) (by decide +kernel) ((.cons ?_ (.cons ?_ .nil)))
  ·refine qB (i:=2) (hq:=(cM (hs:=xH k bx bm x dn rs) (os:=xW x) (hc:=λ w hs=>eK m (by omega) ok hs))) (h:=λ x28 h28=>?_)
   refine fS (h:=λ x12=>?_);refine zF ?_
   refine gA (x12) ?_
   ·trivial
  ·refine jL (i:=8) (h:=λ x12=>?_)
   refine bS (i:=2) (hq:=(cM (hs:=xH k bx bm x dn rs) (os:=xW x) (hc:=λ w hs=>eK m (by omega) ok hs))) (h:=λ x28 h28=>?_);refine zF ?_
   refine gA (x12) ?_
   ·trivial
 dsimp only[gG,List.map,List.cons_append,List.nil_append]
 refine yU ?_;refine rR ?_
 refine aZ (λ c36=>?_) (λ c36=>?_)
 ·exact absurd c36 hk
 ·have g0:=h48.1.to (λ _=>if_neg hk)
  have g1:=qU g0 (by rw[hl];rfl)
  rw[hl] at g1
  have g2:=nC g1 hb
  refine yT ?_;refine aR (cV (hc:=λ w1 hw=>dZ hh (level:Int) w1)) (λ x91=>?_);refine J1 ?_;refine Az ?_;refine aR (cV (hc:=λ w1 hw=>Gk (v:=(aA x.L m)) h48.2 hl (ok.pU hw hA m))) (λ x95=>?_);refine aB ?_;refine aE (bI rf rfl) rfl ?_;refine aE (bI rf rfl) rfl ?_;refine J8 ?_;refine iF ?_;refine aC (cM (hs:=xH k bx bm x dn rs) (os:=xW x) (hc:=λ w hs=>eK b (by omega) ok hs)) (λ x100 h100=>?_);refine aP (λ x21=>?_);refine J5 ?_;refine Cc ?_;refine iF ?_
  (refine aF ?_;refine aD ?_)
  refine jo ?_;refine J1 ?_
  refine aZ (λ c101=>?_) (λ c101=>?_)
  ·have g3:=g2.to (λ _=>if_pos hi2)
   refine J0 ?_;refine bD ?_;refine A1 ?_
   refine bJ Tryz.results124 (λ w hw=>?_)
   exact⟨(Rs.zero,2,x,[]),rfl,⟨g3,ok,by simp,Nat.le_refl _,bE _⟩,hw.aU (hF:=by exact aX.nil)⟩
  ·exact absurd hi2 c101
set_option maxRecDepth 100000 in
theorem N6(hg:g.Ok)(i m:Int){h:Nat}(hh:h<18446744073709551616)(level:Nat)(hlv:level<=1073741824)(K:Rs->Int->Tr)(ht:k.t.root<=9223372036854775807)(hi:i<=x.L.length)(hm:m<=x.L.length)(hA:∀f∈aY x.L,f∈A)(hk:¬(aA x.L m).nd.kind=6){b:Int}(hl:jF (aA x.L m).c (fM h (level:Int))=some b)(hi2:¬(aA x.L b).nd.kind=2)(he:¬(aA x.L b).nd.key=k.key)(go:eU g x (iU k i m h level K))(ok:x.Ok)(hs:SF w D (xH k bx bm x dn rs) A [] (xW x) w):Calls Tryz.prog 124 #[.pointer (some ⟨bx,0,none⟩),.int .i64 i,.int .i64 m,.int .u64 (h:Int),.int .i64 (level:Int)] w (Un g x K bx bm k dn rs D w):=by
 have hyl:=oT ok m
 have hlL:=ok.lL
 have h48:eU g x _/\nE x.L.length x.cs.length (aA x.L m).c:=⟨nC go hm,ok.nv m⟩
 have hb:b<=x.L.length:=by have:=oB (ok.nv m) (fM h (level:Int));rw[hl] at this;exact this
 refine enter Tryz.func124 Tryz.ntmps124 rfl rfl (cA hs) ?_
 simp only[cR]
 refine J0 ?_;refine aP (λ x10=>?_);refine gK ?_
 refine eL [12,13,26,27,28,29,30,31,32,33] (λ j:Nat=>[(12,.pointer (some ⟨j,0,none⟩)),(13,.string k.key)]) (λ _=>True) (λ j=>[(j,.cells ⟨(aA x.L m).nd.cells⟩ 77 (0,0)),(x10,.cells ⟨Rs.zero.cells⟩ 68 (0,0)),(bx,xO k bm x dn rs),(bm,xM x)]) (λ _=>[]) (λ _=>xW x) (by decide) (λ _=>by exact rfl) ?_ (λ j f hx=>?_)
 ·refine gV (.one 0 [] (.one 1 [] (.one 3 [] (.one 4 [] (.one 5 [] (.one 6 [] (.one 7 [] (.two 2 [7] (.one 8 [7] (.one 9 [7] (.one 10 [] .nil))) 0 [] (.two 8 [7] (.one 2 [7] (.one 9 [7] (.one 10 [] .nil))) 0 [] .nil))))))))) ?_
  refine gM ?_;refine tA ?_
  refine kH (E:=[2,8]) (by decide +kernel) ((.cons ?_ (.cons ?_ .nil)))
  ·refine qB (i:=2) (hq:=(cM (hs:=xH k bx bm x dn rs) (os:=xW x) (hc:=λ w hs=>eK m (by omega) ok hs))) (h:=λ x28 h28=>?_)
   refine fS (h:=λ x12=>?_);refine zF ?_
   refine gA (x12) ?_
   ·trivial
  ·refine jL (i:=8) (h:=λ x12=>?_)
   refine bS (i:=2) (hq:=(cM (hs:=xH k bx bm x dn rs) (os:=xW x) (hc:=λ w hs=>eK m (by omega) ok hs))) (h:=λ x28 h28=>?_);refine zF ?_
   refine gA (x12) ?_
   ·trivial
 dsimp only[gG,List.map,List.cons_append,List.nil_append]
 refine yU ?_;refine rR ?_
 refine aZ (λ c36=>?_) (λ c36=>?_)
 ·exact absurd c36 hk
 ·have g0:=h48.1.to (λ _=>if_neg hk)
  have g1:=qU g0 (by rw[hl];rfl)
  rw[hl] at g1
  have g2:=nC g1 hb
  refine yT ?_;refine aR (cV (hc:=λ w1 hw=>dZ hh (level:Int) w1)) (λ x91=>?_);refine J1 ?_;refine Az ?_;refine aR (cV (hc:=λ w1 hw=>Gk (v:=(aA x.L m)) h48.2 hl (ok.pU hw hA m))) (λ x95=>?_);refine aB ?_;refine aE (bI rf rfl) rfl ?_;refine aE (bI rf rfl) rfl ?_;refine J8 ?_;refine iF ?_;refine aC (cM (hs:=xH k bx bm x dn rs) (os:=xW x) (hc:=λ w hs=>eK b (by omega) ok hs)) (λ x100 h100=>?_);refine aP (λ x21=>?_);refine J5 ?_;refine Cc ?_;refine iF ?_
  (refine aF ?_;refine aD ?_)
  refine jo ?_;refine J1 ?_
  refine aZ (λ c101=>?_) (λ c101=>?_)
  ·exact absurd c101 hi2
  ·have g3:=(g2.to (λ _=>if_neg hi2)).to (λ _=>if_pos he)
   refine J2 ?_;refine El ?_
   (refine aF ?_;refine aD ?_)
   refine ll ?_;((refine aF ?_;refine aE (Z9 rf rf he) rfl ?_));refine Kc7 ?_
   refine aZ (λ c109=>?_) (λ c109=>?_)
   ·refine J0 ?_;refine aR (cV (hc:=λ w1 hw=>fF _ _ w1)) (λ x118=>?_);refine A1 ?_
    refine bJ Tryz.results124 (λ w hw=>?_)
    exact⟨(hZ false 0,1,x,[]),rfl,⟨g3,ok,by simp,Nat.le_refl _,bE _⟩,hw.aU (hF:=by exact aX.nil)⟩
   ·exact nv c109
set_option maxRecDepth 100000 in
theorem Oh(hg:g.Ok)(i m:Int){h:Nat}(hh:h<18446744073709551616)(level:Nat)(hlv:level<=1073741824)(K:Rs->Int->Tr)(ht:k.t.root<=9223372036854775807)(hi:i<=x.L.length)(hm:m<=x.L.length)(hA:∀f∈aY x.L,f∈A)(hk:¬(aA x.L m).nd.kind=6){b:Int}(hl:jF (aA x.L m).c (fM h (level:Int))=some b)(hi2:¬(aA x.L b).nd.kind=2)(he:(aA x.L b).nd.key=k.key)(go:eU g x (iU k i m h level K))(ok:x.Ok)(hs:SF w D (xH k bx bm x dn rs) A [] (xW x) w):Calls Tryz.prog 124 #[.pointer (some ⟨bx,0,none⟩),.int .i64 i,.int .i64 m,.int .u64 (h:Int),.int .i64 (level:Int)] w (Un g x K bx bm k dn rs D w):=by
 have hyl:=oT ok m
 have hlL:=ok.lL
 have h48:eU g x _/\nE x.L.length x.cs.length (aA x.L m).c:=⟨nC go hm,ok.nv m⟩
 have hb:b<=x.L.length:=by have:=oB (ok.nv m) (fM h (level:Int));rw[hl] at this;exact this
 refine enter Tryz.func124 Tryz.ntmps124 rfl rfl (cA hs) ?_
 simp only[cR]
 refine J0 ?_;refine aP (λ x10=>?_);refine gK ?_
 refine eL [12,13,26,27,28,29,30,31,32,33] (λ j:Nat=>[(12,.pointer (some ⟨j,0,none⟩)),(13,.string k.key)]) (λ _=>True) (λ j=>[(j,.cells ⟨(aA x.L m).nd.cells⟩ 77 (0,0)),(x10,.cells ⟨Rs.zero.cells⟩ 68 (0,0)),(bx,xO k bm x dn rs),(bm,xM x)]) (λ _=>[]) (λ _=>xW x) (by decide) (λ _=>by exact rfl) ?_ (λ j f hx=>?_)
 ·refine gV (.one 0 [] (.one 1 [] (.one 3 [] (.one 4 [] (.one 5 [] (.one 6 [] (.one 7 [] (.two 2 [7] (.one 8 [7] (.one 9 [7] (.one 10 [] .nil))) 0 [] (.two 8 [7] (.one 2 [7] (.one 9 [7] (.one 10 [] .nil))) 0 [] .nil))))))))) ?_
  refine gM ?_;refine tA ?_
  refine kH (E:=[2,8]) (by decide +kernel) ((.cons ?_ (.cons ?_ .nil)))
  ·refine qB (i:=2) (hq:=(cM (hs:=xH k bx bm x dn rs) (os:=xW x) (hc:=λ w hs=>eK m (by omega) ok hs))) (h:=λ x28 h28=>?_)
   refine fS (h:=λ x12=>?_);refine zF ?_
   refine gA (x12) ?_
   ·trivial
  ·refine jL (i:=8) (h:=λ x12=>?_)
   refine bS (i:=2) (hq:=(cM (hs:=xH k bx bm x dn rs) (os:=xW x) (hc:=λ w hs=>eK m (by omega) ok hs))) (h:=λ x28 h28=>?_);refine zF ?_
   refine gA (x12) ?_
   ·trivial
 dsimp only[gG,List.map,List.cons_append,List.nil_append]
 refine yU ?_;refine rR ?_
 refine aZ (λ c36=>?_) (λ c36=>?_)
 ·exact absurd c36 hk
 ·have g0:=h48.1.to (λ _=>if_neg hk)
  have g1:=qU g0 (by rw[hl];rfl)
  rw[hl] at g1
  have g2:=nC g1 hb
  refine yT ?_;refine aR (cV (hc:=λ w1 hw=>dZ hh (level:Int) w1)) (λ x91=>?_);refine J1 ?_;refine Az ?_;refine aR (cV (hc:=λ w1 hw=>Gk (v:=(aA x.L m)) h48.2 hl (ok.pU hw hA m))) (λ x95=>?_);refine aB ?_;refine aE (bI rf rfl) rfl ?_;refine aE (bI rf rfl) rfl ?_;refine J8 ?_;refine iF ?_;refine aC (cM (hs:=xH k bx bm x dn rs) (os:=xW x) (hc:=λ w hs=>eK b (by omega) ok hs)) (λ x100 h100=>?_);refine aP (λ x21=>?_);refine J5 ?_;refine Cc ?_;refine iF ?_
  (refine aF ?_;refine aD ?_)
  refine jo ?_;refine J1 ?_
  refine aZ (λ c101=>?_) (λ c101=>?_)
  ·exact absurd c101 hi2
  ·have g3:=(g2.to (λ _=>if_neg hi2)).to (λ _=>if_neg (λ h:¬(aA x.L b).nd.key=k.key=>h he))
   refine J2 ?_;refine El ?_
   (refine aF ?_;refine aD ?_)
   refine ll ?_;((refine aF ?_;refine aE (gj rf rf he) rfl ?_));refine Kc7 ?_
   refine aZ (λ c109=>?_) (λ c109=>?_)
   ·exact nv c109
   ·refine aS ?_;refine gB [0,1,2,3,4,5,6,7,8,9,10,11,12,13,14,15] ?_;refine tA ?_;refine aT ?_
    (refine ey 125 (λ g125=>?_) (λ g125=>?_)<;>(first|refine fL ?_|(refine aQ ?_)))
    all_goals ((first|refine fL ?_|(refine bN ?_));(first|refine fL ?_|(refine aT ?_));(first|refine fL ?_|(refine lH ?_));(first|refine fL ?_|(refine aQ ?_));refine tm ?_;(first|refine fL ?_|(refine Cz ?_));refine iZ ?_;refine J7 ?_)
    all_goals
    refine aZ (λ c119=>?_) (λ c119=>?_)
    ·try exact nv c119
     all_goals
      have g4:=g3.to (λ _=>if_pos (show(k.only=true/\(aA x.L b).nd.val≠k.exp) from⟨by assumption,by assumption⟩))
     all_goals (refine gN ?_;refine aR (cV (hc:=λ w1 hw=>fF _ _ w1)) (λ x137=>?_);refine A1 ?_)
     all_goals
      refine bJ Tryz.results124 (λ w hw=>?_)
      exact⟨(hZ true (aA x.L b).nd.val,1,x,[]),rfl,⟨g4,ok,by simp,Nat.le_refl _,bE _⟩,hw.aU (hF:=by exact aX.nil)⟩
    ·all_goals
      have g4:=g3.to (λ _=>if_neg (show ¬(k.only=true/\(aA x.L b).nd.val≠k.exp) from by rintro ⟨h,h'⟩;simp_all))
     all_goals (refine lC ?_;refine Az ?_;refine aC (cF (hc:=λ w1 hw=>w5 (v:=(aA x.L m)) h48.2 (fM h (level:Int)) (ok.pU hw hA m))) (λ x141 h141=>?_))
     all_goals
      have hB:=vq h48.2 (v:=(aA x.L m)) (fM h (level:Int))
     all_goals (refine aB ?_;refine aE (bI rf rfl) rfl ?_;refine aE (bI rf rfl) rfl ?_;refine aP (λ x22=>?_);refine A1 ?_;refine kU ?_;refine aR (cV (hc:=λ w1 hw=>iy hB (jw h48.2 (fM h (level:Int)) x141) (hw.cl (.new .head)))) (λ x146=>?_))
     all_goals
      have hso:((Iq (I9 (aA x.L m).c (fM h (level:Int)))).getD 0)<=x.L.length:=xa hB (jw h48.2 (fM h (level:Int)) x141)
      have g5:=nC g4 hso
     all_goals (refine aB ?_;refine aE (bI rf rfl) rfl ?_;refine aE (bI rf rfl) rfl ?_;refine J8 ?_;refine aS ?_;refine eD [(0,[]),(1,[]),(2,[]),(3,[]),(4,[]),(5,[]),(6,[]),(7,[]),(8,[]),(9,[]),(10,[]),(11,[]),(12,[]),(13,[]),(16,[]),(19,[]),(20,[]),(14,[6,10,20]),(15,[6,20]),(17,[6,20]),(18,[20]),(21,[]),(22,[]),(23,[]),(24,[]),(25,[])] ?_;refine gM ?_;refine J9 ?_;refine aQ ?_;refine bM (i:=6) (hq:=(aL (k:=2) (vs:=[.int .i64 k.t.root,.bool k.t.ro]) rf fN gX rfl rfl)) (h:=?_);refine gM ?_;refine Kb5 ?_;refine gM ?_;refine gM ?_;refine lR ?_;refine bS (i:=14) (hq:=(cM (hs:=xH k bx bm x dn rs) (os:=xW x) (hc:=λ w hs=>eK ((Iq (I9 (aA x.L m).c (fM h (level:Int)))).getD 0) (by omega) ok hs))) (hfire:=(λ _=>by(refine gR ?_;(repeat (first|exact aM.nil|refine aM.cons (by first|exact eI (hq:=aL (k:=2) (vs:=[.int .i64 k.t.root,.bool k.t.ro]) rf fN gX rfl rfl)|exact eT) ?_));done))) (h:=λ x163 h163=>?_);refine dG (i:=15) (hq:=(cV (hc:=λ w1 hw=>Py hB (level:Int) (aA x.L ((Iq (I9 (aA x.L m).c (fM h (level:Int)))).getD 0)).nd (hw.cl (.new .head))))) (hfire:=(λ _=>by((repeat (first|exact aM.nil|refine aM.cons (by first|exact eI (hq:=aL (k:=2) (vs:=[.int .i64 k.t.root,.bool k.t.ro]) rf fN gX rfl rfl)|exact eT) ?_));done))) (h:=λ x164=>?_);refine bS (i:=17) (hq:=(cM (hs:=xH k bx bm x dn rs) (os:=xW x) (A0:=[((Lc (Vz (aA x.L m) (fM h (level:Int))) x141 (level:Int) (aA x.L ((Iq (I9 (aA x.L m).c (fM h (level:Int)))).getD 0)).nd).brA,aG (Sb (Vz (aA x.L m) (fM h (level:Int))) x141 (level:Int) (aA x.L ((Iq (I9 (aA x.L m).c (fM h (level:Int)))).getD 0)).nd)),((Lc (Vz (aA x.L m) (fM h (level:Int))) x141 (level:Int) (aA x.L ((Iq (I9 (aA x.L m).c (fM h (level:Int)))).getD 0)).nd).prA,cZ [])]) (hA:=ko) (hc:=λ w hs=>fJ hg (n:=(Lc (Vz (aA x.L m) (fM h (level:Int))) x141 (level:Int) (aA x.L ((Iq (I9 (aA x.L m).c (fM h (level:Int)))).getD 0)).nd)) (xs:=(Sb (Vz (aA x.L m) (fM h (level:Int))) x141 (level:Int) (aA x.L ((Iq (I9 (aA x.L m).c (fM h (level:Int)))).getD 0)).nd)) (ys:=[]) m _ (W0 _ _ _) (Vg _ _ _) (Rv hB _ _ _) (Nat.zero_le _) (Pa hB _ _ (ok.nv ((Iq (I9 (aA x.L m).c (fM h (level:Int)))).getD 0)).hash) hm (by rw[<- kx,<- wj h48.2];exact g5) ok hs))) (hfire:=(λ _=>by(refine gR ?_;(repeat (first|exact aM.nil|refine aM.cons (by first|exact eI (hq:=aL (k:=2) (vs:=[.int .i64 k.t.root,.bool k.t.ro]) rf fN gX rfl rfl)|exact eT) ?_));done))) (h:=λ x166 h166=>?_);refine bS (i:=18) (hq:=(cM (hs:=xH k bx bm x166.2.1 dn rs) (os:=xW x166.2.1) (hc:=λ w hs=>rC hg k.t i m x166.1 _ ht (by have:=h166.len;omega) h166.bd h166.go h166.ok hs))) (h:=λ x167 h167=>?_))
     all_goals
      have hch:=Ch.nx h167 (Ch.nx h166 ((Ch.base (F:=[])).cons (f:=(x141.1,aG (kE (Vz (aA x.L m) (fM h (level:Int))))))))
      have hlc:x.cs.length<=x167.2.1.cs.length:=by have:=h166.lc;have:=h167.lc;omega
     all_goals (refine dG (i:=21) (hq:=(cV (hc:=λ w1 hw=>nK _ _ _ _ w1))) (h:=λ x170=>?_);refine cJ (i:=22) (hq:=(bI rf rfl)) (h:=?_);refine cJ (i:=23) (hq:=(bI rf rfl)) (h:=?_);refine zF ?_)
     all_goals
      refine bJ Tryz.results124 (λ w hw=>?_)
      obtain⟨N,hN,hf⟩:=hch.to (t':=K (pF true (aA x.L b).nd.val) (if x167.1=true then 1 else 0)) h167 (h167.go) hlc (bE _)
      exact⟨(pF true (aA x.L b).nd.val,(if x167.1=true then 1 else 0),x167.2.1,N),rfl,hN,(hw.eG hf).z7⟩
theorem Nl(hg:g.Ok)(i m:Int){h:Nat}(hh:h<18446744073709551616)(level:Nat)(hlv:level<=1073741824)(K:Rs->Int->Tr)(ht:k.t.root<=9223372036854775807)(hi:i<=x.L.length)(hm:m<=x.L.length)(hA:∀f∈aY x.L,f∈A)(go:eU g x (iU k i m h level K))(ok:x.Ok)(hs:SF w D (xH k bx bm x dn rs) A [] (xW x) w):Calls Tryz.prog 124 #[.pointer (some ⟨bx,0,none⟩),.int .i64 i,.int .i64 m,.int .u64 (h:Int),.int .i64 (level:Int)] w (Un g x K bx bm k dn rs D w):=by
 by_cases hk:(aA x.L m).nd.kind=6
 ·exact N9 hg i m hh level hlv K ht hi hm hA hk go ok hs
 ·cases hl:jF (aA x.L m).c (fM h (level:Int)) with
  | none=>exact Nz hg i m hh level hlv K ht hi hm hA hk hl go ok hs
  | some b =>
   by_cases hi2:(aA x.L b).nd.kind=2
   ·exact Mj hg i m hh level hlv K ht hi hm hA hk hl hi2 go ok hs
   ·by_cases he:(aA x.L b).nd.key=k.key
    ·exact Oh hg i m hh level hlv K ht hi hm hA hk hl hi2 he go ok hs
    ·exact N6 hg i m hh level hlv K ht hi hm hA hk hl hi2 he go ok hs
end
end Go.Proofs.YtadnboagdhcedaaGreatDoor

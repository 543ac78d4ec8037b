/- Executions of the reference: one attempt of DROP at a leaf. -/
import Derived.Test.YtbajmaoegmbfgaaGreatGEx18
set_option linter.unusedSimpArgs false
set_option linter.unusedVariables false
namespace Go.Ct
open Go Go.RowKit
theorem oM{g:Gx}{x:XS}{r:Int}{K:Nv->Tr}(h:fU g x (.node r K))(hr:r<=x.L.length):fU g x (K (aD x.L r).c):=by
 have:=h.node hr
 rwa [show dY x.nodes r=(aD x.L r).c from(Ef x.L r).symm] at this
section
variable{P:Program}{S:List (Nat×Value)}{G:World->Prop}{d:Nat}{ty t t':TypeId}{pos:String}{af:Array Edge}{gd:Option (Nat×Bool)}{x y:Operand}{a b:ByteArray}
theorem m9(hx:ev S x=.string a)(hy:ev S y=.string b)(h:¬a=b):aL P S G ⟨some d,.binOp .neq t x y t',ty,pos,af,gd⟩ (.bool true):=by
 have:=Ig (P:=P) (G:=G) (d:=d) (ty:=ty) (pos:=pos) (af:=af) (gd:=gd) (t:=t) (t':=t') hx hy
 rwa [bne,sn h] at this
theorem pu(hx:ev S x=.string a)(hy:ev S y=.string b)(h:a=b):aL P S G ⟨some d,.binOp .neq t x y t',ty,pos,af,gd⟩ (.bool false):=by
 have:=Ig (P:=P) (G:=G) (d:=d) (ty:=ty) (pos:=pos) (af:=af) (gd:=gd) (t:=t) (t':=t') hx hy
 rwa [bne,r8 h] at this
end
end Go.Ct
namespace Go.Proofs.YtbajmaoegmbfgaaGreat
open Go Go.RowKit Go.Ct
theorem q0{m:Nat}{o:Option (Nat×List Int)}{w:World}(h:uV m o){x:Option Addr×Nat}{r:Nv}(e:r=(mF o x).c (mC o) [])(hc:Go.Ct.Cl w x.1 (aH (mC o))):Calls Tryz.prog 245 #[(mF o x).v] w λ e w'=>e=.returned (.tuple #[.int .i64 ((Lm r).getD 0),.bool (Lm r).isSome])/\St w [] [] w':=by
 obtain⟨b,h1,h2⟩:=Ou h x
 have:=I5 (n:=mF o x) h1 h2 (M7 h hc)
 rw[vu,<- e] at this
 exact this
theorem aA7{m:Nat}{o:Option (Nat×List Int)}(h:uV m o){x:Option Addr×Nat}{r:Nv}(e:r=(mF o x).c (mC o) []):(Lm r).getD 0<=m:=by
 rw[e,<- vu]
 unfold Zh
 split
 ·refine lZ (λ v hv=>?_) 0
  cases o with
  | none=>exact(List.not_mem_nil hv).elim
  | some q=>exact(h.out q rfl).2.2 v hv
 ·exact bH _
section
variable{k:Cl}{bx bm:Nat}{x:XS}{dn:Bool}{rs:Rs}{D:List Nat}{A:Fr}{w:World}{g:Gx}
set_option maxRecDepth 100000 in
theorem Rx(hg:g.Ok)(i m:Int){h:Nat}(hh:h<18446744073709551616)(level:Nat)(hlv:level<=1073741824)(K:Rs->Int->Tr)(ht:k.t.root<=9223372036854775807)(hi:i<=x.L.length)(hm:m<=x.L.length)(hA:∀f∈aK x.L,f∈A)(hk:(aD x.L m).nd.kind=6)(go:fU g x (kB k i m h level K))(ok:x.Ok)(hs:SF w D (xH k bx bm x dn rs) A [] (xW x) w):Calls Tryz.prog 226 #[.pointer (some ⟨bx,0,none⟩),.int .i64 i,.int .i64 m,.int .u64 (h:Int),.int .i64 (level:Int)] w (Yt g x K bx bm k dn rs D w):=by
 have hyl:=rA ok m
 have hlL:=ok.lL
 have h48:fU g x _/\lJ x.L.length x.cs.length (aD x.L m).c:=⟨oM go hm,ok.nv m⟩
 refine enter Tryz.func226 Tryz.ntmps226 rfl rfl (bZ hs) ?_
 simp only[bX]
 refine J0 ?_;refine aI (λ x10=>?_);refine hZ ?_
 refine dJ [12,13,26,27,28,29,30,31,32,33] (λ j:Nat=>[(12,.pointer (some ⟨j,0,none⟩)),(13,.string k.key)]) (λ _=>True) (λ j=>[(j,.cells ⟨(aD x.L m).nd.cells⟩ 47 (0,0)),(x10,.cells ⟨Rs.zero.cells⟩ 64 (0,0)),(bx,xO k bm x dn rs),(bm,xM x)]) (λ _=>[]) (λ _=>xW x) (by decide) (λ _=>by exact rfl) ?_ (λ j f hx=>?_)
 ·refine fP (.one 0 [] (.one 1 [] (.one 3 [] (.one 4 [] (.one 5 [] (.one 6 [] (.one 7 [] (.two 2 [7] (.one 8 [7] (.one 9 [7] (.one 10 [] .nil))) 0 [] (.two 8 [7] (.one 2 [7] (.one 9 [7] (.one 10 [] .nil))) 0 [] .nil))))))))) ?_
  refine gT ?_;refine xS ?_
  refine fF (E:=[2,8]) (by decide +kernel) ((.cons ?_ (.cons ?_ .nil)))
  ·refine jG (i:=2) (hq:=(cM (hs:=xH k bx bm x dn rs) (os:=xW x) (hc:=λ w hs=>fD m (by omega) ok hs))) (h:=λ x28 h28=>?_)
   refine fO (h:=λ x12=>?_);refine yB ?_
   refine eC (x12) ?_
   ·trivial
  ·refine eX (i:=8) (h:=λ x12=>?_)
   refine aZ (i:=2) (hq:=(cM (hs:=xH k bx bm x dn rs) (os:=xW x) (hc:=λ w hs=>fD m (by omega) ok hs))) (h:=λ x28 h28=>?_);refine yB ?_
   refine eC (x12) ?_
   ·trivial
 dsimp only[gP,List.map,List.cons_append,List.nil_append]
 refine D7 ?_;refine uB ?_
 refine bC (λ c36=>?_) (λ c36=>?_)
 ·have g1:=h48.1.to (λ _=>if_pos hk)
  refine gM ?_;refine aA ?_;refine aP (cV (hc:=λ w1 hw=>Mj (v:=(aD x.L m)) (n:=0) k.key (ok.rJ hw hA m) (ok.ysl m))) (λ x41=>?_);refine aA ?_;refine aB (bP rf rfl) rfl ?_;refine aB (bP rf rfl) rfl ?_;refine J8 ?_;refine kY ?_;refine Eh ?_
  (refine eI 46 (λ g46=>?_) (λ g46=>?_)<;>(first|refine aJ ?_|(refine aF ?_;refine aA ?_)))
  all_goals ((first|refine aJ ?_|(refine aF ?_;refine dD ?_));(first|refine aJ ?_|(refine aF ?_;refine aE ?_));(first|refine aJ ?_|(refine aF ?_;refine aE ?_));(first|refine aJ ?_|(refine aF ?_;refine bN ?_));(first|refine aJ ?_|(refine aF ?_;refine aA ?_)))
  all_goals (first|refine A3 ?_|(refine eI 52 (λ g52=>?_) (λ g52=>?_)<;>(first|refine aJ ?_|(refine aF ?_;refine aA ?_))))
  all_goals ((first|refine aJ ?_|refine A3 ?_|(refine aF ?_;refine aA ?_));(first|refine aJ ?_|refine A3 ?_|(refine aF ?_;refine dD ?_));(first|refine aJ ?_|refine A3 ?_|(refine aF ?_;refine aE ?_));(first|refine aJ ?_|refine A3 ?_|(refine aF ?_;refine aE ?_));(first|refine aJ ?_|refine A3 ?_|(refine aF ?_;refine bN ?_));(first|refine aJ ?_|refine A3 ?_|(refine aF ?_;refine kM ?_));(first|refine aJ ?_|(refine aF ?_;refine cJ ?_));refine cJ ?_;refine aG ?_)
  all_goals
  refine bC (λ c61=>?_) (λ c61=>?_)
  ·try exact nv c61
   all_goals
    have g2:=g1.to (λ _=>if_pos (show((dR (aD x.L m).c.ys k.key).isSome=false∨(k.only=true/\(dR (aD x.L m).c.ys k.key).getD 0≠k.exp)) from by first|exact Or.inl (by assumption)|exact Or.inr ⟨by assumption,by assumption⟩))
   all_goals (refine jA ?_;refine aP (cV (hc:=λ w1 hw=>gE _ _ w1)) (λ x64=>?_);refine yA ?_)
   all_goals
    refine bB Tryz.results226 (λ w hw=>?_)
    exact⟨(jL (dR (aD x.L m).c.ys k.key).isSome ((dR (aD x.L m).c.ys k.key).getD 0),1,x,[]),rfl,⟨g2,ok,by simp,Nat.le_refl _,bH _⟩,hw.aU (hF:=by exact aY.nil)⟩
  ·try exact nv c61
   all_goals
    have g2:=g1.to (λ _=>if_neg (show ¬((dR (aD x.L m).c.ys k.key).isSome=false∨(k.only=true/\(dR (aD x.L m).c.ys k.key).getD 0≠k.exp)) from by rintro (h|⟨h,h'⟩)<;>simp_all))
   all_goals (refine aX ?_;refine Dz ?_;refine aC (cF (hc:=λ w1 hw=>z9 (v:=(aD x.L m)) h48.2 k.key (ok.rJ hw hA m) (by omega))) (λ x68 h68=>?_);refine aA ?_;refine aB (bP rf rfl) rfl ?_;refine aB (bP rf rfl) rfl ?_;refine aI (λ x16=>?_);refine iF (λ _=>?_);refine hZ ?_;refine dV [(0,[]),(1,[]),(2,[]),(3,[]),(4,[]),(5,[]),(6,[]),(7,[]),(8,[]),(9,[]),(10,[]),(11,[]),(14,[]),(12,[6]),(13,[]),(15,[]),(16,[]),(17,[]),(18,[]),(19,[])] ?_;refine gT ?_;refine J9 ?_;refine aQ ?_;refine bS (i:=6) (hq:=(aN (k:=2) (vs:=[.int .i64 k.t.root,.bool k.t.ro]) rf cN dI rfl rfl)) (h:=?_);refine gT ?_;refine aM ?_;refine bK ?_;refine gT ?_;refine aZ (i:=12) (hq:=(cM (hs:=xH k bx bm x dn rs) (os:=xW x) (A0:=[((Mv (pX (aD x.L m).nd (aD x.L m).xs (aD x.L m).ys k.key) (aD x.L m).nd.hash x68).brA,aH []),((Mv (pX (aD x.L m).nd (aD x.L m).xs (aD x.L m).ys k.key) (aD x.L m).nd.hash x68).prA,dC (Im (pX (aD x.L m).nd (aD x.L m).xs (aD x.L m).ys k.key)))]) (hA:=zq) (hc:=λ w hs=>gJ hg (n:=Mv (pX (aD x.L m).nd (aD x.L m).xs (aD x.L m).ys k.key) (aD x.L m).nd.hash x68) (xs:=[]) (ys:=Im (pX (aD x.L m).nd (aD x.L m).xs (aD x.L m).ys k.key)) m _ (Zu _ _ _).1 (Zu _ _ _).2 (by decide) (by have:=wb (aD x.L m).xs (aD x.L m).ys (aD x.L m).nd k.key;omega) (v8 _ h48.2.hash) hm (by rw[aBK];exact g2) ok hs))) (hfire:=(λ _=>by(refine fY ?_;refine aV.cons (by exact iC (hq:=aN (k:=2) (vs:=[.int .i64 k.t.root,.bool k.t.ro]) rf cN dI rfl rfl)) ?_;exact aV.nil))) (h:=λ x83 h83=>?_);refine aZ (i:=13) (hq:=(cM (hs:=xH k bx bm x83.2.1 dn rs) (os:=xW x83.2.1) (hc:=λ w hs=>tG hg k.t i m x83.1 _ ht (by have:=h83.len;omega) h83.bd h83.go h83.ok hs))) (h:=λ x84 h84=>?_))
   all_goals
    have hch:=Ch.nx h84 (Ch.nx h83 ((Ch.base (F:=[])).cons (f:=(x68.1,dC (Im (pX (aD x.L m).nd (aD x.L m).xs (aD x.L m).ys k.key))))))
    have hlc:x.cs.length<=x84.2.1.cs.length:=by have:=h83.lc;have:=h84.lc;omega
   all_goals (refine cB (i:=15) (hq:=(cV (hc:=λ w1 hw=>oW _ _ _ _ w1))) (h:=λ x86=>?_);refine cC (i:=16) (hq:=(bP rf rfl)) (h:=?_);refine cC (i:=17) (hq:=(bP rf rfl)) (h:=?_);refine yB ?_)
   all_goals
    refine bB Tryz.results226 (λ w hw=>?_)
    obtain⟨N,hN,hf⟩:=hch.to (t':=K (rQ true ((dR (aD x.L m).c.ys k.key).getD 0)) (if x84.1=true then 1 else 0)) h84 (h84.go) hlc (bH _)
    exact⟨(rQ true ((dR (aD x.L m).c.ys k.key).getD 0),(if x84.1=true then 1 else 0),x84.2.1,N),rfl,hN,(hw.fA hf).aU (hF:=by exact aY.all)⟩
 ·exact absurd hk c36
set_option maxRecDepth 100000 in
theorem R8(hg:g.Ok)(i m:Int){h:Nat}(hh:h<18446744073709551616)(level:Nat)(hlv:level<=1073741824)(K:Rs->Int->Tr)(ht:k.t.root<=9223372036854775807)(hi:i<=x.L.length)(hm:m<=x.L.length)(hA:∀f∈aK x.L,f∈A)(hk:¬(aD x.L m).nd.kind=6)(hl:mB (aD x.L m).c (gL h (level:Int))=none)(go:fU g x (kB k i m h level K))(ok:x.Ok)(hs:SF w D (xH k bx bm x dn rs) A [] (xW x) w):Calls Tryz.prog 226 #[.pointer (some ⟨bx,0,none⟩),.int .i64 i,.int .i64 m,.int .u64 (h:Int),.int .i64 (level:Int)] w (Yt g x K bx bm k dn rs D w):=by
 have hyl:=rA ok m
 have hlL:=ok.lL
 have h48:fU g x _/\lJ x.L.length x.cs.length (aD x.L m).c:=⟨oM go hm,ok.nv m⟩
 refine enter Tryz.func226 Tryz.ntmps226 rfl rfl (bZ hs) ?_
 simp only[bX]
 refine J0 ?_;refine aI (λ x10=>?_);refine hZ ?_
 refine dJ [12,13,26,27,28,29,30,31,32,33] (λ j:Nat=>[(12,.pointer (some ⟨j,0,none⟩)),(13,.string k.key)]) (λ _=>True) (λ j=>[(j,.cells ⟨(aD x.L m).nd.cells⟩ 47 (0,0)),(x10,.cells ⟨Rs.zero.cells⟩ 64 (0,0)),(bx,xO k bm x dn rs),(bm,xM x)]) (λ _=>[]) (λ _=>xW x) (by decide) (λ _=>by exact rfl) ?_ (λ j f hx=>?_)
 ·refine fP (.one 0 [] (.one 1 [] (.one 3 [] (.one 4 [] (.one 5 [] (.one 6 [] (.one 7 [] (.two 2 [7] (.one 8 [7] (.one 9 [7] (.one 10 [] .nil))) 0 [] (.two 8 [7] (.one 2 [7] (.one 9 [7] (.one 10 [] .nil))) 0 [] .nil))))))))) ?_
  refine gT ?_;refine xS ?_
  refine fF (E:=[2,8]) (by decide +kernel) ((.cons ?_ (.cons ?_ .nil)))
  ·refine jG (i:=2) (hq:=(cM (hs:=xH k bx bm x dn rs) (os:=xW x) (hc:=λ w hs=>fD m (by omega) ok hs))) (h:=λ x28 h28=>?_)
   refine fO (h:=λ x12=>?_);refine yB ?_
   refine eC (x12) ?_
   ·trivial
  ·refine eX (i:=8) (h:=λ x12=>?_)
   refine aZ (i:=2) (hq:=(cM (hs:=xH k bx bm x dn rs) (os:=xW x) (hc:=λ w hs=>fD m (by omega) ok hs))) (h:=λ x28 h28=>?_);refine yB ?_
   refine eC (x12) ?_
   ·trivial
 dsimp only[gP,List.map,List.cons_append,List.nil_append]
 refine D7 ?_;refine uB ?_
 refine bC (λ c36=>?_) (λ c36=>?_)
 ·exact absurd c36 hk
 ·have g0:=h48.1.to (λ _=>if_neg hk)
  have g1:=Lq g0 (by rw[hl];rfl)
  refine Dc ?_;refine aP (cV (hc:=λ w1 hw=>eV hh (level:Int) w1)) (λ x91=>?_);refine J1 ?_;refine Dz ?_;refine aP (cV (hc:=λ w1 hw=>tz (v:=(aD x.L m)) h48.2 hl (ok.rJ hw hA m))) (λ x95=>?_);refine aA ?_;refine aB (bP rf rfl) rfl ?_;refine aB (bP rf rfl) rfl ?_;refine J8 ?_;refine jA ?_;refine aC (cM (hs:=xH k bx bm x dn rs) (os:=xW x) (hc:=λ w hs=>fD 0 (by decide) ok hs)) (λ x100 h100=>?_);refine aI (λ x21=>?_);refine J5 ?_;refine Cp ?_;refine jA ?_
  refine aJ ?_
  refine vh ?_;refine J1 ?_
  refine bC (λ c101=>?_) (λ c101=>?_)
  ·exact nv c101
  ·refine J2 ?_;refine Eh ?_
   refine aJ ?_
   refine Zy ?_;(refine aJ ?_);refine cJ ?_;refine J1 ?_
   refine bC (λ c109=>?_) (λ c109=>?_)
   ·refine J0 ?_;refine aP (cV (hc:=λ w1 hw=>gE _ _ w1)) (λ x118=>?_);refine yA ?_
    refine bB Tryz.results226 (λ w hw=>?_)
    exact⟨(jL false 0,1,x,[]),rfl,⟨g1,ok,by simp,Nat.le_refl _,bH _⟩,hw.aU (hF:=by exact aY.nil)⟩
   ·exact nv c109
set_option maxRecDepth 100000 in
theorem Ra(hg:g.Ok)(i m:Int){h:Nat}(hh:h<18446744073709551616)(level:Nat)(hlv:level<=1073741824)(K:Rs->Int->Tr)(ht:k.t.root<=9223372036854775807)(hi:i<=x.L.length)(hm:m<=x.L.length)(hA:∀f∈aK x.L,f∈A)(hk:¬(aD x.L m).nd.kind=6){b:Int}(hl:mB (aD x.L m).c (gL h (level:Int))=some b)(hi2:(aD x.L b).nd.kind=2)(go:fU g x (kB k i m h level K))(ok:x.Ok)(hs:SF w D (xH k bx bm x dn rs) A [] (xW x) w):Calls Tryz.prog 226 #[.pointer (some ⟨bx,0,none⟩),.int .i64 i,.int .i64 m,.int .u64 (h:Int),.int .i64 (level:Int)] w (Yt g x K bx bm k dn rs D w):=by
 have hyl:=rA ok m
 have hlL:=ok.lL
 have h48:fU g x _/\lJ x.L.length x.cs.length (aD x.L m).c:=⟨oM go hm,ok.nv m⟩
 have hb:b<=x.L.length:=by have:=qC (ok.nv m) (gL h (level:Int));rw[hl] at this;exact this
 refine enter Tryz.func226 Tryz.ntmps226 rfl rfl (bZ hs) ?_
 simp only[bX]
 refine J0 ?_;refine aI (λ x10=>?_);refine hZ ?_
 refine dJ [12,13,26,27,28,29,30,31,32,33] (λ j:Nat=>[(12,.pointer (some ⟨j,0,none⟩)),(13,.string k.key)]) (λ _=>True) (λ j=>[(j,.cells ⟨(aD x.L m).nd.cells⟩ 47 (0,0)),(x10,.cells ⟨Rs.zero.cells⟩ 64 (0,0)),(bx,xO k bm x dn rs),(bm,xM x)]) (λ _=>[]) (λ _=>xW x) (by decide) (λ _=>by exact rfl) ?_ (λ j f hx=>?_)
 ·refine fP (.one 0 [] (.one 1 [] (.one 3 [] (.one 4 [] (.one 5 [] (.one 6 [] (.one 7 [] (.two 2 [7] (.one 8 [7] (.one 9 [7] (.one 10 [] .nil))) 0 [] (.two 8 [7] (.one 2 [7] (.one 9 [7] (.one 10 [] .nil))) 0 [] .nil))))))))) ?_
  refine gT ?_;refine xS ?_
  refine fF (E:=[2,8]) (by decide +kernel) ((.cons ?_ (.cons ?_ .nil)))
  ·refine jG (i:=2) (hq:=(cM (hs:=xH k bx bm x dn rs) (os:=xW x) (hc:=λ w hs=>fD m (by omega) ok hs))) (h:=λ x28 h28=>?_)
   refine fO (h:=λ x12=>?_);refine yB ?_
   refine eC (x12) ?_
   ·trivial
  ·refine eX (i:=8) (h:=λ x12=>?_)
   refine aZ (i:=2) (hq:=(cM (hs:=xH k bx bm x dn rs) (os:=xW x) (hc:=λ w hs=>fD m (by omega) ok hs))) (h:=λ x28 h28=>?_);refine yB ?_
   refine eC (x12) ?_
   ·trivial
 dsimp only[gP,List.map,List.cons_append,List.nil_append]
 refine D7 ?_;refine uB ?_
 refine bC (λ c36=>?_) (λ c36=>?_)
 ·exact absurd c36 hk
 ·have g0:=h48.1.to (λ _=>if_neg hk)
  have g1:=tD g0 (by rw[hl];rfl)
  rw[hl] at g1
  have g2:=oM g1 hb
  refine Dc ?_;refine aP (cV (hc:=λ w1 hw=>eV hh (level:Int) w1)) (λ x91=>?_);refine J1 ?_;refine Dz ?_;refine aP (cV (hc:=λ w1 hw=>Jo (v:=(aD x.L m)) h48.2 hl (ok.rJ hw hA m))) (λ x95=>?_);refine aA ?_;refine aB (bP rf rfl) rfl ?_;refine aB (bP rf rfl) rfl ?_;refine J8 ?_;refine jA ?_;refine aC (cM (hs:=xH k bx bm x dn rs) (os:=xW x) (hc:=λ w hs=>fD b (by omega) ok hs)) (λ x100 h100=>?_);refine aI (λ x21=>?_);refine J5 ?_;refine Cp ?_;refine jA ?_
  (refine aF ?_;refine aE ?_)
  refine vh ?_;refine J1 ?_
  refine bC (λ c101=>?_) (λ c101=>?_)
  ·have g3:=g2.to (λ _=>if_pos hi2)
   refine J0 ?_;refine bG ?_;refine yA ?_
   refine bB Tryz.results226 (λ w hw=>?_)
   exact⟨(Rs.zero,2,x,[]),rfl,⟨g3,ok,by simp,Nat.le_refl _,bH _⟩,hw.aU (hF:=by exact aY.nil)⟩
  ·exact absurd hi2 c101
set_option maxRecDepth 100000 in
theorem Q5(hg:g.Ok)(i m:Int){h:Nat}(hh:h<18446744073709551616)(level:Nat)(hlv:level<=1073741824)(K:Rs->Int->Tr)(ht:k.t.root<=9223372036854775807)(hi:i<=x.L.length)(hm:m<=x.L.length)(hA:∀f∈aK x.L,f∈A)(hk:¬(aD x.L m).nd.kind=6){b:Int}(hl:mB (aD x.L m).c (gL h (level:Int))=some b)(hi2:¬(aD x.L b).nd.kind=2)(he:¬(aD x.L b).nd.key=k.key)(go:fU g x (kB k i m h level K))(ok:x.Ok)(hs:SF w D (xH k bx bm x dn rs) A [] (xW x) w):Calls Tryz.prog 226 #[.pointer (some ⟨bx,0,none⟩),.int .i64 i,.int .i64 m,.int .u64 (h:Int),.int .i64 (level:Int)] w (Yt g x K bx bm k dn rs D w):=by
 have hyl:=rA ok m
 have hlL:=ok.lL
 have h48:fU g x _/\lJ x.L.length x.cs.length (aD x.L m).c:=⟨oM go hm,ok.nv m⟩
 have hb:b<=x.L.length:=by have:=qC (ok.nv m) (gL h (level:Int));rw[hl] at this;exact this
 refine enter Tryz.func226 Tryz.ntmps226 rfl rfl (bZ hs) ?_
 simp only[bX]
 refine J0 ?_;refine aI (λ x10=>?_);refine hZ ?_
 refine dJ [12,13,26,27,28,29,30,31,32,33] (λ j:Nat=>[(12,.pointer (some ⟨j,0,none⟩)),(13,.string k.key)]) (λ _=>True) (λ j=>[(j,.cells ⟨(aD x.L m).nd.cells⟩ 47 (0,0)),(x10,.cells ⟨Rs.zero.cells⟩ 64 (0,0)),(bx,xO k bm x dn rs),(bm,xM x)]) (λ _=>[]) (λ _=>xW x) (by decide) (λ _=>by exact rfl) ?_ (λ j f hx=>?_)
 ·refine fP (.one 0 [] (.one 1 [] (.one 3 [] (.one 4 [] (.one 5 [] (.one 6 [] (.one 7 [] (.two 2 [7] (.one 8 [7] (.one 9 [7] (.one 10 [] .nil))) 0 [] (.two 8 [7] (.one 2 [7] (.one 9 [7] (.one 10 [] .nil))) 0 [] .nil))))))))) ?_
  refine gT ?_;refine xS ?_
  refine fF (E:=[2,8]) (by decide +kernel) ((.cons ?_ (.cons ?_ .nil)))
  ·refine jG (i:=2) (hq:=(cM (hs:=xH k bx bm x dn rs) (os:=xW x) (hc:=λ w hs=>fD m (by omega) ok hs))) (h:=λ x28 h28=>?_)
   refine fO (h:=λ x12=>?_);refine yB ?_
   refine eC (x12) ?_
   ·trivial
  ·refine eX (i:=8) (h:=λ x12=>?_)
   refine aZ (i:=2) (hq:=(cM (hs:=xH k bx bm x dn rs) (os:=xW x) (hc:=λ w hs=>fD m (by omega) ok hs))) (h:=λ x28 h28=>?_);refine yB ?_
   refine eC (x12) ?_
   ·trivial
 dsimp only[gP,List.map,List.cons_append,List.nil_append]
 refine D7 ?_;refine uB ?_
 refine bC (λ c36=>?_) (λ c36=>?_)
 ·exact absurd c36 hk
 ·have g0:=h48.1.to (λ _=>if_neg hk)
  have g1:=tD g0 (by rw[hl];rfl)
  rw[hl] at g1
  have g2:=oM g1 hb
  refine Dc ?_;refine aP (cV (hc:=λ w1 hw=>eV hh (level:Int) w1)) (λ x91=>?_);refine J1 ?_;refine Dz ?_;refine aP (cV (hc:=λ w1 hw=>Jo (v:=(aD x.L m)) h48.2 hl (ok.rJ hw hA m))) (λ x95=>?_);refine aA ?_;refine aB (bP rf rfl) rfl ?_;refine aB (bP rf rfl) rfl ?_;refine J8 ?_;refine jA ?_;refine aC (cM (hs:=xH k bx bm x dn rs) (os:=xW x) (hc:=λ w hs=>fD b (by omega) ok hs)) (λ x100 h100=>?_);refine aI (λ x21=>?_);refine J5 ?_;refine Cp ?_;refine jA ?_
  (refine aF ?_;refine aE ?_)
  refine vh ?_;refine J1 ?_
  refine bC (λ c101=>?_) (λ c101=>?_)
  ·exact absurd c101 hi2
  ·have g3:=(g2.to (λ _=>if_neg hi2)).to (λ _=>if_pos he)
   refine J2 ?_;refine Eh ?_
   (refine aF ?_;refine aE ?_)
   refine Zy ?_;((refine aF ?_;refine aB (m9 rf rf he) rfl ?_));refine cJ ?_;refine J1 ?_
   refine bC (λ c109=>?_) (λ c109=>?_)
   ·refine J0 ?_;refine aP (cV (hc:=λ w1 hw=>gE _ _ w1)) (λ x118=>?_);refine yA ?_
    refine bB Tryz.results226 (λ w hw=>?_)
    exact⟨(jL false 0,1,x,[]),rfl,⟨g3,ok,by simp,Nat.le_refl _,bH _⟩,hw.aU (hF:=by exact aY.nil)⟩
   ·exact nv c109
set_option maxRecDepth 100000 in
theorem Sg(hg:g.Ok)(i m:Int){h:Nat}(hh:h<18446744073709551616)(level:Nat)(hlv:level<=1073741824)(K:Rs->Int->Tr)(ht:k.t.root<=9223372036854775807)(hi:i<=x.L.length)(hm:m<=x.L.length)(hA:∀f∈aK x.L,f∈A)(hk:¬(aD x.L m).nd.kind=6){b:Int}(hl:mB (aD x.L m).c (gL h (level:Int))=some b)(hi2:¬(aD x.L b).nd.kind=2)(he:(aD x.L b).nd.key=k.key)(go:fU g x (kB k i m h level K))(ok:x.Ok)(hs:SF w D (xH k bx bm x dn rs) A [] (xW x) w):Calls Tryz.prog 226 #[.pointer (some ⟨bx,0,none⟩),.int .i64 i,.int .i64 m,.int .u64 (h:Int),.int .i64 (level:Int)] w (Yt g x K bx bm k dn rs D w):=by
 have hyl:=rA ok m
 have hlL:=ok.lL
 have h48:fU g x _/\lJ x.L.length x.cs.length (aD x.L m).c:=⟨oM go hm,ok.nv m⟩
 have hb:b<=x.L.length:=by have:=qC (ok.nv m) (gL h (level:Int));rw[hl] at this;exact this
 refine enter Tryz.func226 Tryz.ntmps226 rfl rfl (bZ hs) ?_
 simp only[bX]
 refine J0 ?_;refine aI (λ x10=>?_);refine hZ ?_
 refine dJ [12,13,26,27,28,29,30,31,32,33] (λ j:Nat=>[(12,.pointer (some ⟨j,0,none⟩)),(13,.string k.key)]) (λ _=>True) (λ j=>[(j,.cells ⟨(aD x.L m).nd.cells⟩ 47 (0,0)),(x10,.cells ⟨Rs.zero.cells⟩ 64 (0,0)),(bx,xO k bm x dn rs),(bm,xM x)]) (λ _=>[]) (λ _=>xW x) (by decide) (λ _=>by exact rfl) ?_ (λ j f hx=>?_)
 ·refine fP (.one 0 [] (.one 1 [] (.one 3 [] (.one 4 [] (.one 5 [] (.one 6 [] (.one 7 [] (.two 2 [7] (.one 8 [7] (.one 9 [7] (.one 10 [] .nil))) 0 [] (.two 8 [7] (.one 2 [7] (.one 9 [7] (.one 10 [] .nil))) 0 [] .nil))))))))) ?_
  refine gT ?_;refine xS ?_
  refine fF (E:=[2,8]) (by decide +kernel) ((.cons ?_ (.cons ?_ .nil)))
  ·refine jG (i:=2) (hq:=(cM (hs:=xH k bx bm x dn rs) (os:=xW x) (hc:=λ w hs=>fD m (by omega) ok hs))) (h:=λ x28 h28=>?_)
   refine fO (h:=λ x12=>?_);refine yB ?_
   refine eC (x12) ?_
   ·trivial
  ·refine eX (i:=8) (h:=λ x12=>?_)
   refine aZ (i:=2) (hq:=(cM (hs:=xH k bx bm x dn rs) (os:=xW x) (hc:=λ w hs=>fD m (by omega) ok hs))) (h:=λ x28 h28=>?_);refine yB ?_
   refine eC (x12) ?_
   ·trivial
 dsimp only[gP,List.map,List.cons_append,List.nil_append]
 refine D7 ?_;refine uB ?_
 refine bC (λ c36=>?_) (λ c36=>?_)
 ·exact absurd c36 hk
 ·have g0:=h48.1.to (λ _=>if_neg hk)
  have g1:=tD g0 (by rw[hl];rfl)
  rw[hl] at g1
  have g2:=oM g1 hb
  refine Dc ?_;refine aP (cV (hc:=λ w1 hw=>eV hh (level:Int) w1)) (λ x91=>?_);refine J1 ?_;refine Dz ?_;refine aP (cV (hc:=λ w1 hw=>Jo (v:=(aD x.L m)) h48.2 hl (ok.rJ hw hA m))) (λ x95=>?_);refine aA ?_;refine aB (bP rf rfl) rfl ?_;refine aB (bP rf rfl) rfl ?_;refine J8 ?_;refine jA ?_;refine aC (cM (hs:=xH k bx bm x dn rs) (os:=xW x) (hc:=λ w hs=>fD b (by omega) ok hs)) (λ x100 h100=>?_);refine aI (λ x21=>?_);refine J5 ?_;refine Cp ?_;refine jA ?_
  (refine aF ?_;refine aE ?_)
  refine vh ?_;refine J1 ?_
  refine bC (λ c101=>?_) (λ c101=>?_)
  ·exact absurd c101 hi2
  ·have g3:=(g2.to (λ _=>if_neg hi2)).to (λ _=>if_neg (λ h:¬(aD x.L b).nd.key=k.key=>h he))
   refine J2 ?_;refine Eh ?_
   (refine aF ?_;refine aE ?_)
   refine Zy ?_;((refine aF ?_;refine aB (pu rf rf he) rfl ?_));refine cJ ?_;refine J1 ?_
   refine bC (λ c109=>?_) (λ c109=>?_)
   ·exact nv c109
   ·refine aT ?_;refine gF [0,1,2,3,4,5,6,7,8,9,10,11,12,13,14,15] ?_;refine xS ?_;refine aM ?_
    (refine Y0 125 (λ g125=>?_) (λ g125=>?_)<;>(first|refine cU ?_|(refine aQ ?_)))
    all_goals ((first|refine cU ?_|(refine bK ?_));(first|refine cU ?_|(refine aM ?_));(first|refine cU ?_|(refine sR ?_));(first|refine cU ?_|(refine aQ ?_));refine lq ?_;(first|refine cU ?_|(refine Ny ?_));refine eD ?_;refine J7 ?_)
    all_goals
    refine bC (λ c119=>?_) (λ c119=>?_)
    ·try exact nv c119
     all_goals
      have g4:=g3.to (λ _=>if_pos (show(k.only=true/\(aD x.L b).nd.val≠k.exp) from⟨by assumption,by assumption⟩))
     all_goals (refine gM ?_;refine aP (cV (hc:=λ w1 hw=>gE _ _ w1)) (λ x137=>?_);refine yA ?_)
     all_goals
      refine bB Tryz.results226 (λ w hw=>?_)
      exact⟨(jL true (aD x.L b).nd.val,1,x,[]),rfl,⟨g4,ok,by simp,Nat.le_refl _,bH _⟩,hw.aU (hF:=by exact aY.nil)⟩
    ·all_goals
      have g4:=g3.to (λ _=>if_neg (show ¬(k.only=true/\(aD x.L b).nd.val≠k.exp) from by rintro ⟨h,h'⟩;simp_all))
     all_goals (refine oF ?_;refine Dz ?_;refine aC (cF (hc:=λ w1 hw=>aAI (v:=(aD x.L m)) h48.2 (gL h (level:Int)) (ok.rJ hw hA m))) (λ x141 h141=>?_))
     all_goals
      have hB:=aAO h48.2 (v:=(aD x.L m)) (gL h (level:Int))
     all_goals (refine aA ?_;refine aB (bP rf rfl) rfl ?_;refine aB (bP rf rfl) rfl ?_;refine aI (λ x22=>?_);refine yA ?_;refine nX ?_;refine aP (cV (hc:=λ w1 hw=>q0 hB (sb h48.2 (gL h (level:Int)) x141) (hw.cl (.new .head)))) (λ x146=>?_))
     all_goals
      have hso:((Lm (My (aD x.L m).c (gL h (level:Int)))).getD 0)<=x.L.length:=aA7 hB (sb h48.2 (gL h (level:Int)) x141)
      have g5:=oM g4 hso
     all_goals (refine aA ?_;refine aB (bP rf rfl) rfl ?_;refine aB (bP rf rfl) rfl ?_;refine J8 ?_;refine aT ?_;refine dV [(0,[]),(1,[]),(2,[]),(3,[]),(4,[]),(5,[]),(6,[]),(7,[]),(8,[]),(9,[]),(10,[]),(11,[]),(12,[]),(13,[]),(16,[]),(19,[]),(20,[]),(14,[6,10,20]),(15,[6,20]),(17,[6,20]),(18,[20]),(21,[]),(22,[]),(23,[]),(24,[]),(25,[])] ?_;refine gT ?_;refine J9 ?_;refine aQ ?_;refine bS (i:=6) (hq:=(aN (k:=2) (vs:=[.int .i64 k.t.root,.bool k.t.ro]) rf cN dI rfl rfl)) (h:=?_);refine gT ?_;refine aM ?_;refine bK ?_;refine gT ?_;refine gT ?_;refine nS ?_;refine aZ (i:=14) (hq:=(cM (hs:=xH k bx bm x dn rs) (os:=xW x) (hc:=λ w hs=>fD ((Lm (My (aD x.L m).c (gL h (level:Int)))).getD 0) (by omega) ok hs))) (hfire:=(λ _=>by(refine fY ?_;(repeat (first|exact aV.nil|refine aV.cons (by first|exact iC (hq:=aN (k:=2) (vs:=[.int .i64 k.t.root,.bool k.t.ro]) rf cN dI rfl rfl)|exact iX) ?_));done))) (h:=λ x163 h163=>?_);refine cB (i:=15) (hq:=(cV (hc:=λ w1 hw=>Vb hB (level:Int) (aD x.L ((Lm (My (aD x.L m).c (gL h (level:Int)))).getD 0)).nd (hw.cl (.new .head))))) (hfire:=(λ _=>by((repeat (first|exact aV.nil|refine aV.cons (by first|exact iC (hq:=aN (k:=2) (vs:=[.int .i64 k.t.root,.bool k.t.ro]) rf cN dI rfl rfl)|exact iX) ?_));done))) (h:=λ x164=>?_);refine aZ (i:=17) (hq:=(cM (hs:=xH k bx bm x dn rs) (os:=xW x) (A0:=[((Nm (Z6 (aD x.L m) (gL h (level:Int))) x141 (level:Int) (aD x.L ((Lm (My (aD x.L m).c (gL h (level:Int)))).getD 0)).nd).brA,aH (Wv (Z6 (aD x.L m) (gL h (level:Int))) x141 (level:Int) (aD x.L ((Lm (My (aD x.L m).c (gL h (level:Int)))).getD 0)).nd)),((Nm (Z6 (aD x.L m) (gL h (level:Int))) x141 (level:Int) (aD x.L ((Lm (My (aD x.L m).c (gL h (level:Int)))).getD 0)).nd).prA,dC [])]) (hA:=ta) (hc:=λ w hs=>gJ hg (n:=(Nm (Z6 (aD x.L m) (gL h (level:Int))) x141 (level:Int) (aD x.L ((Lm (My (aD x.L m).c (gL h (level:Int)))).getD 0)).nd)) (xs:=(Wv (Z6 (aD x.L m) (gL h (level:Int))) x141 (level:Int) (aD x.L ((Lm (My (aD x.L m).c (gL h (level:Int)))).getD 0)).nd)) (ys:=[]) m _ (fp _ _ _) (gu _ _ _) (V4 hB _ _ _) (Nat.zero_le _) (T6 hB _ _ (ok.nv ((Lm (My (aD x.L m).c (gL h (level:Int)))).getD 0)).hash) hm (by rw[<- sq,<- aAF h48.2];exact g5) ok hs))) (hfire:=(λ _=>by(refine fY ?_;(repeat (first|exact aV.nil|refine aV.cons (by first|exact iC (hq:=aN (k:=2) (vs:=[.int .i64 k.t.root,.bool k.t.ro]) rf cN dI rfl rfl)|exact iX) ?_));done))) (h:=λ x166 h166=>?_);refine aZ (i:=18) (hq:=(cM (hs:=xH k bx bm x166.2.1 dn rs) (os:=xW x166.2.1) (hc:=λ w hs=>tG hg k.t i m x166.1 _ ht (by have:=h166.len;omega) h166.bd h166.go h166.ok hs))) (h:=λ x167 h167=>?_))
     all_goals
      have hch:=Ch.nx h167 (Ch.nx h166 ((Ch.base (F:=[])).cons (f:=(x141.1,aH (mC (Z6 (aD x.L m) (gL h (level:Int))))))))
      have hlc:x.cs.length<=x167.2.1.cs.length:=by have:=h166.lc;have:=h167.lc;omega
     all_goals (refine cB (i:=21) (hq:=(cV (hc:=λ w1 hw=>oW _ _ _ _ w1))) (h:=λ x170=>?_);refine cC (i:=22) (hq:=(bP rf rfl)) (h:=?_);refine cC (i:=23) (hq:=(bP rf rfl)) (h:=?_);refine yB ?_)
     all_goals
      refine bB Tryz.results226 (λ w hw=>?_)
      obtain⟨N,hN,hf⟩:=hch.to (t':=K (rQ true (aD x.L b).nd.val) (if x167.1=true then 1 else 0)) h167 (h167.go) hlc (bH _)
      exact⟨(rQ true (aD x.L b).nd.val,(if x167.1=true then 1 else 0),x167.2.1,N),rfl,hN,(hw.fA hf).aU (hF:=by exact aY.all)⟩
theorem R4(hg:g.Ok)(i m:Int){h:Nat}(hh:h<18446744073709551616)(level:Nat)(hlv:level<=1073741824)(K:Rs->Int->Tr)(ht:k.t.root<=9223372036854775807)(hi:i<=x.L.length)(hm:m<=x.L.length)(hA:∀f∈aK x.L,f∈A)(go:fU g x (kB k i m h level K))(ok:x.Ok)(hs:SF w D (xH k bx bm x dn rs) A [] (xW x) w):Calls Tryz.prog 226 #[.pointer (some ⟨bx,0,none⟩),.int .i64 i,.int .i64 m,.int .u64 (h:Int),.int .i64 (level:Int)] w (Yt g x K bx bm k dn rs D w):=by
 by_cases hk:(aD x.L m).nd.kind=6
 ·exact Rx hg i m hh level hlv K ht hi hm hA hk go ok hs
 ·cases hl:mB (aD x.L m).c (gL h (level:Int)) with
  | none=>exact R8 hg i m hh level hlv K ht hi hm hA hk hl go ok hs
  | some b =>
   by_cases hi2:(aD x.L b).nd.kind=2
   ·exact Ra hg i m hh level hlv K ht hi hm hA hk hl hi2 go ok hs
   ·by_cases he:(aD x.L b).nd.key=k.key
    ·exact Sg hg i m hh level hlv K ht hi hm hA hk hl hi2 he go ok hs
    ·exact Q5 hg i m hh level hlv K ht hi hm hA hk hl hi2 he go ok hs
end
end Go.Proofs.YtbajmaoegmbfgaaGreat

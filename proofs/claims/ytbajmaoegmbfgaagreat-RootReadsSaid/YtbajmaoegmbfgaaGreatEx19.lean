/- Executions of the reference: one attempt of DROP at a leaf. -/
import Derived.Test.YtbajmaoegmbfgaaGreatGEx18
set_option linter.unusedSimpArgs false
set_option linter.unusedVariables false
namespace Go.Ct
open Go Go.RowKit
theorem oT{g:Gx}{x:XS}{r:Int}{K:Nv->Tr}(h:gL g x (.node r K))(hr:r<=x.L.length):gL g x (K (aD x.L r).c):=by
 have:=h.node hr
 rwa [show fV x.nodes r=(aD x.L r).c from(Lj x.L r).symm] at this
section
variable{P:Program}{S:List (Nat×Value)}{G:World->Prop}{d:Nat}{ty t t':TypeId}{pos:String}{af:Array Edge}{gd:Option (Nat×Bool)}{x y:Operand}{a b:ByteArray}
theorem lq(hx:ev S x=.string a)(hy:ev S y=.string b)(h:¬a=b):aP P S G ⟨some d,.binOp .neq t x y t',ty,pos,af,gd⟩ (.bool true):=by
 have:=Gb (P:=P) (G:=G) (d:=d) (ty:=ty) (pos:=pos) (af:=af) (gd:=gd) (t:=t) (t':=t') hx hy
 rwa [bne,q0 h] at this
theorem pi(hx:ev S x=.string a)(hy:ev S y=.string b)(h:a=b):aP P S G ⟨some d,.binOp .neq t x y t',ty,pos,af,gd⟩ (.bool false):=by
 have:=Gb (P:=P) (G:=G) (d:=d) (ty:=ty) (pos:=pos) (af:=af) (gd:=gd) (t:=t) (t':=t') hx hy
 rwa [bne,qt h] at this
end
end Go.Ct
namespace Go.Proofs.YtbajmaoegmbfgaaGreat
open Go Go.RowKit Go.Ct
theorem o8{m:Nat}{o:Option (Nat×List Int)}{w:World}(h:vM m o){x:Option Addr×Nat}{r:Nv}(e:r=(mT o x).c (lZ o) [])(hc:Go.Ct.Cl w x.1 (aG (lZ o))):Calls Tryz.prog 245 #[(mT o x).v] w λ e w'=>e=.returned (.tuple #[.int .i64 ((Mc r).getD 0),.bool (Mc r).isSome])/\St w [] [] w':=by
 obtain⟨b,h1,h2⟩:=Ou h x
 have:=Il (n:=mT o x) h1 h2 (N0 h hc)
 rw[tz,<- e] at this
 exact this
theorem xq{m:Nat}{o:Option (Nat×List Int)}(h:vM m o){x:Option Addr×Nat}{r:Nv}(e:r=(mT o x).c (lZ o) []):(Mc r).getD 0<=m:=by
 rw[e,<- tz]
 unfold Za
 split
 ·refine mM (λ v hv=>?_) 0
  cases o with
  | none=>exact(List.not_mem_nil hv).elim
  | some q=>exact(h.out q rfl).2.2 v hv
 ·exact bM _
section
variable{k:Cl}{bx bm:Nat}{x:XS}{dn:Bool}{rs:Rs}{D:List Nat}{A:Fr}{w:World}{g:Gx}
set_option maxRecDepth 100000 in
theorem P0(hg:g.Ok)(i m:Int){h:Nat}(hh:h<18446744073709551616)(level:Nat)(hlv:level<=1073741824)(K:Rs->Int->Tr)(ht:k.t.root<=9223372036854775807)(hi:i<=x.L.length)(hm:m<=x.L.length)(hA:∀f∈aR x.L,f∈A)(hk:(aD x.L m).nd.kind=6)(go:gL g x (kN k i m h level K))(ok:x.Ok)(hs:SF w D (xH k bx bm x dn rs) A [] (xW x) w):Calls Tryz.prog 226 #[.pointer (some ⟨bx,0,none⟩),.int .i64 i,.int .i64 m,.int .u64 (h:Int),.int .i64 (level:Int)] w (Xs g x K bx bm k dn rs D w):=by
  have hyl:=qY ok m
  have hlL:=ok.lL
  have h48:gL g x _/\mU x.L.length x.cs.length (aD x.L m).c:=⟨oT go hm,ok.nv m⟩
  refine enter Tryz.func226 Tryz.ntmps226 rfl rfl (cK hs) ?_
  simp only[cN]
  all_goals (refine J0 ?_;refine aJ (λ x10=>?_);refine jM ?_)
  all_goals
   refine eZ [12,13,26,27,28,29,30,31,32,33] (λ j:Nat=>[(12,.pointer (some ⟨j,0,none⟩)),(13,.string k.key)]) (λ _=>True) (λ j=>[(j,.cells ⟨(aD x.L m).nd.cells⟩ 47 (0,0)),(x10,.cells ⟨Rs.zero.cells⟩ 64 (0,0)),(bx,xO k bm x dn rs),(bm,xM x)]) (λ _=>[]) (λ _=>xW x) (by decide) (λ _=>by exact rfl) ?_ (λ j f hx=>?_)
   · refine iE (.one 0 [] (.one 1 [] (.one 3 [] (.one 4 [] (.one 5 [] (.one 6 [] (.one 7 [] (.two 2 [7] (.one 8 [7] (.one 9 [7] (.one 10 [] .nil))) 0 [] (.two 8 [7] (.one 2 [7] (.one 9 [7] (.one 10 [] .nil))) 0 [] .nil))))))))) ?_
     all_goals (refine iP ?_;refine uD ?_)
     all_goals
      refine iM (E:=[2,8]) (by decide +kernel) ((.cons ?_ (.cons ?_ .nil)))
      · refine lJ (i:=2) (hq:=(cM (hs:=xH k bx bm x dn rs) (os:=xW x) (hc:=λ w hs=>gA m (by omega) ok hs))) (h:=λ x28 h28=>?_)
        all_goals (refine iD (h:=λ x12=>?_);refine A6 ?_)
        all_goals
         refine fR (x12) ?_
         · trivial
      · refine hY (i:=8) (h:=λ x12=>?_)
        all_goals (refine bA (i:=2) (hq:=(cM (hs:=xH k bx bm x dn rs) (os:=xW x) (hc:=λ w hs=>gA m (by omega) ok hs))) (h:=λ x28 h28=>?_);refine A6 ?_)
        all_goals
         refine fR (x12) ?_
         · trivial
   dsimp only[iL,List.map,List.cons_append,List.nil_append]
  all_goals (refine Cs ?_;refine uS ?_)
  all_goals
   refine bG (λ c36=>?_) (λ c36=>?_)
   · all_goals
      have g1:=h48.1.to (λ _=>if_pos hk)
     all_goals (refine iZ ?_;refine aA ?_;refine aY (cV (hc:=λ w1 hw=>Kc (v:=(aD x.L m)) (n:=0) k.key (ok.sE hw hA m) (ok.ysl m))) (λ x41=>?_);refine aA ?_;refine aB (bU rf rfl) rfl ?_;refine aB (bU rf rfl) rfl ?_;refine J8 ?_;refine lW ?_;refine Hp ?_)
     all_goals ((refine fS 46 (λ g46=>?_) (λ g46=>?_)<;>(first|refine aN ?_|(refine aF ?_;refine aA ?_))))
     all_goals ((first|refine aN ?_|(refine aF ?_;refine dZ ?_));(first|refine aN ?_|(refine aF ?_;refine aE ?_));(first|refine aN ?_|(refine aF ?_;refine aE ?_));(first|refine aN ?_|(refine aF ?_;refine bX ?_));(first|refine aN ?_|(refine aF ?_;refine aA ?_)))
     all_goals (first|refine Au ?_|(refine fS 52 (λ g52=>?_) (λ g52=>?_)<;>(first|refine aN ?_|(refine aF ?_;refine aA ?_))))
     all_goals ((first|refine aN ?_|refine Au ?_|(refine aF ?_;refine aA ?_));(first|refine aN ?_|refine Au ?_|(refine aF ?_;refine dZ ?_));(first|refine aN ?_|refine Au ?_|(refine aF ?_;refine aE ?_));(first|refine aN ?_|refine Au ?_|(refine aF ?_;refine aE ?_));(first|refine aN ?_|refine Au ?_|(refine aF ?_;refine bX ?_));(first|refine aN ?_|refine Au ?_|(refine aF ?_;refine pP ?_));(first|refine aN ?_|(refine aF ?_;refine cX ?_));refine cX ?_;refine aH ?_)
     all_goals
      refine bG (λ c61=>?_) (λ c61=>?_)
      · try exact nv c61
        all_goals
         have g2:=g1.to (λ _=>if_pos (show((eN (aD x.L m).c.ys k.key).isSome=false∨(k.only=true/\(eN (aD x.L m).c.ys k.key).getD 0≠k.exp)) from by first|exact Or.inl (by assumption)|exact Or.inl (by simpa using g46)|exact Or.inr ⟨by assumption,by assumption⟩))
        all_goals (refine jN ?_;refine aY (cV (hc:=λ w1 hw=>gT _ _ w1)) (λ x64=>?_);refine yN ?_)
        all_goals
         refine bE Tryz.results226 (λ w hw=>?_)
         exact⟨(jX (eN (aD x.L m).c.ys k.key).isSome ((eN (aD x.L m).c.ys k.key).getD 0),1,x,[]),rfl,⟨g2,ok,by simp,Nat.le_refl _,bM _⟩,hw.aS (hF:=by exact aV.nil)⟩
      · try exact nv c61
        all_goals
         have g2:=g1.to (λ _=>if_neg (show ¬((eN (aD x.L m).c.ys k.key).isSome=false∨(k.only=true/\(eN (aD x.L m).c.ys k.key).getD 0≠k.exp)) from by rintro (h|⟨h,h'⟩)<;>simp_all))
        all_goals (refine bD ?_;refine Px ?_;refine aC (cF (hc:=λ w1 hw=>zv (v:=(aD x.L m)) h48.2 k.key (ok.sE hw hA m) (by omega))) (λ x68 h68=>?_);refine aA ?_;refine aB (bU rf rfl) rfl ?_;refine aB (bU rf rfl) rfl ?_;refine aJ (λ x16=>?_);refine jD (λ _=>?_);refine jM ?_;refine dX [(0,[]),(1,[]),(2,[]),(3,[]),(4,[]),(5,[]),(6,[]),(7,[]),(8,[]),(9,[]),(10,[]),(11,[]),(14,[]),(12,[6]),(13,[]),(15,[]),(16,[]),(17,[]),(18,[]),(19,[])] ?_;refine iP ?_;refine J9 ?_;refine aT ?_;refine bS (i:=6) (hq:=(aL (k:=2) (vs:=[.int .i64 k.t.root,.bool k.t.ro]) rf bQ cD rfl rfl)) (h:=?_);refine iP ?_;refine aQ ?_;refine bR ?_;refine iP ?_;refine bA (i:=12) (hq:=(cM (hs:=xH k bx bm x dn rs) (os:=xW x) (A0:=[((Md (pB (aD x.L m).nd (aD x.L m).xs (aD x.L m).ys k.key) (aD x.L m).nd.hash x68).brA,aG []),((Md (pB (aD x.L m).nd (aD x.L m).xs (aD x.L m).ys k.key) (aD x.L m).nd.hash x68).prA,dW (Hv (pB (aD x.L m).nd (aD x.L m).xs (aD x.L m).ys k.key)))]) (hA:=yz) (hc:=λ w hs=>gX hg (n:=Md (pB (aD x.L m).nd (aD x.L m).xs (aD x.L m).ys k.key) (aD x.L m).nd.hash x68) (xs:=[]) (ys:=Hv (pB (aD x.L m).nd (aD x.L m).xs (aD x.L m).ys k.key)) m _ (bb _ _ _).1 (bb _ _ _).2 (by decide) (by have:=vp (aD x.L m).xs (aD x.L m).ys (aD x.L m).nd k.key;omega) (ul _ h48.2.hash) hm (by rw[aAB];exact g2) ok hs))) (hfire:=(λ _=>by first|(refine aI.cons (by first|exact dM (hq:=aL (k:=2) (vs:=[.int .i64 k.t.root,.bool k.t.ro]) rf bQ cD rfl rfl)|exact a_un) ?_;exact aI.nil)|(refine bT ?_;refine aI.cons (by first|exact dM (hq:=aL (k:=2) (vs:=[.int .i64 k.t.root,.bool k.t.ro]) rf bQ cD rfl rfl)|exact a_un) ?_;exact aI.nil))) (h:=λ x83 h83=>?_);refine bA (i:=13) (hq:=(cM (hs:=xH k bx bm x83.2.1 dn rs) (os:=xW x83.2.1) (hc:=λ w hs=>sO hg k.t i m x83.1 _ ht (by have:=h83.len;omega) h83.bd h83.go h83.ok hs))) (h:=λ x84 h84=>?_))
        all_goals
         have hch:=Ch.nx h84 (Ch.nx h83 ((Ch.base (F:=[])).cons (f:=(x68.1,dW (Hv (pB (aD x.L m).nd (aD x.L m).xs (aD x.L m).ys k.key))))))
         have hlc:x.cs.length<=x84.2.1.cs.length:=by have:=h83.lc;have:=h84.lc;omega
        all_goals (refine cL (i:=15) (hq:=(cV (hc:=λ w1 hw=>oW _ _ _ _ w1))) (h:=λ x86=>?_);refine cH (i:=16) (hq:=(bU rf rfl)) (h:=?_);refine cH (i:=17) (hq:=(bU rf rfl)) (h:=?_);refine A6 ?_)
        all_goals
         refine bE Tryz.results226 (λ w hw=>?_)
         obtain⟨N,hN,hf⟩:=hch.to (t':=K (rQ true ((eN (aD x.L m).c.ys k.key).getD 0)) (if x84.1=true then 1 else 0)) h84 (h84.go) hlc (bM _)
         exact⟨(rQ true ((eN (aD x.L m).c.ys k.key).getD 0),(if x84.1=true then 1 else 0),x84.2.1,N),rfl,hN,(hw.dY hf).aS (hF:=by exact aV.all)⟩
   · all_goals
      exact absurd hk c36
set_option maxRecDepth 100000 in
theorem Qx(hg:g.Ok)(i m:Int){h:Nat}(hh:h<18446744073709551616)(level:Nat)(hlv:level<=1073741824)(K:Rs->Int->Tr)(ht:k.t.root<=9223372036854775807)(hi:i<=x.L.length)(hm:m<=x.L.length)(hA:∀f∈aR x.L,f∈A)(hk:¬(aD x.L m).nd.kind=6)(hl:mC (aD x.L m).c (gZ h (level:Int))=none)(go:gL g x (kN k i m h level K))(ok:x.Ok)(hs:SF w D (xH k bx bm x dn rs) A [] (xW x) w):Calls Tryz.prog 226 #[.pointer (some ⟨bx,0,none⟩),.int .i64 i,.int .i64 m,.int .u64 (h:Int),.int .i64 (level:Int)] w (Xs g x K bx bm k dn rs D w):=by
  have hyl:=qY ok m
  have hlL:=ok.lL
  have h48:gL g x _/\mU x.L.length x.cs.length (aD x.L m).c:=⟨oT go hm,ok.nv m⟩
  refine enter Tryz.func226 Tryz.ntmps226 rfl rfl (cK hs) ?_
  simp only[cN]
  all_goals (refine J0 ?_;refine aJ (λ x10=>?_);refine jM ?_)
  all_goals
   refine eZ [12,13,26,27,28,29,30,31,32,33] (λ j:Nat=>[(12,.pointer (some ⟨j,0,none⟩)),(13,.string k.key)]) (λ _=>True) (λ j=>[(j,.cells ⟨(aD x.L m).nd.cells⟩ 47 (0,0)),(x10,.cells ⟨Rs.zero.cells⟩ 64 (0,0)),(bx,xO k bm x dn rs),(bm,xM x)]) (λ _=>[]) (λ _=>xW x) (by decide) (λ _=>by exact rfl) ?_ (λ j f hx=>?_)
   · refine iE (.one 0 [] (.one 1 [] (.one 3 [] (.one 4 [] (.one 5 [] (.one 6 [] (.one 7 [] (.two 2 [7] (.one 8 [7] (.one 9 [7] (.one 10 [] .nil))) 0 [] (.two 8 [7] (.one 2 [7] (.one 9 [7] (.one 10 [] .nil))) 0 [] .nil))))))))) ?_
     all_goals (refine iP ?_;refine uD ?_)
     all_goals
      refine iM (E:=[2,8]) (by decide +kernel) ((.cons ?_ (.cons ?_ .nil)))
      · refine lJ (i:=2) (hq:=(cM (hs:=xH k bx bm x dn rs) (os:=xW x) (hc:=λ w hs=>gA m (by omega) ok hs))) (h:=λ x28 h28=>?_)
        all_goals (refine iD (h:=λ x12=>?_);refine A6 ?_)
        all_goals
         refine fR (x12) ?_
         · trivial
      · refine hY (i:=8) (h:=λ x12=>?_)
        all_goals (refine bA (i:=2) (hq:=(cM (hs:=xH k bx bm x dn rs) (os:=xW x) (hc:=λ w hs=>gA m (by omega) ok hs))) (h:=λ x28 h28=>?_);refine A6 ?_)
        all_goals
         refine fR (x12) ?_
         · trivial
   dsimp only[iL,List.map,List.cons_append,List.nil_append]
  all_goals (refine Cs ?_;refine uS ?_)
  all_goals
   refine bG (λ c36=>?_) (λ c36=>?_)
   · all_goals
      exact absurd c36 hk
   · all_goals
      have g0:=h48.1.to (λ _=>if_neg hk)
      have g1:=Kv g0 (by rw[hl];rfl)
     all_goals (refine Ck ?_;refine aY (cV (hc:=λ w1 hw=>fU hh (level:Int) w1)) (λ x91=>?_);refine J1 ?_;refine Px ?_;refine aY (cV (hc:=λ w1 hw=>qg (v:=(aD x.L m)) h48.2 hl (ok.sE hw hA m))) (λ x95=>?_);refine aA ?_;refine aB (bU rf rfl) rfl ?_;refine aB (bU rf rfl) rfl ?_;refine J8 ?_;refine jN ?_;refine aC (cM (hs:=xH k bx bm x dn rs) (os:=xW x) (hc:=λ w hs=>gA 0 (by decide) ok hs)) (λ x100 h100=>?_);refine aJ (λ x21=>?_);refine J5 ?_;refine Da ?_;refine jN ?_)
     all_goals (refine aN ?_)
     all_goals (refine vj ?_;refine J1 ?_)
     all_goals
      refine bG (λ c101=>?_) (λ c101=>?_)
      · exact nv c101
      · all_goals (refine J2 ?_;refine Hp ?_)
        all_goals (refine aN ?_)
        all_goals (refine jb ?_;(refine aN ?_);refine cX ?_;refine J1 ?_)
        all_goals
         refine bG (λ c109=>?_) (λ c109=>?_)
         · all_goals (refine J0 ?_;refine aY (cV (hc:=λ w1 hw=>gT _ _ w1)) (λ x118=>?_);refine yN ?_)
           all_goals
            refine bE Tryz.results226 (λ w hw=>?_)
            exact⟨(jX false 0,1,x,[]),rfl,⟨g1,ok,by simp,Nat.le_refl _,bM _⟩,hw.aS (hF:=by exact aV.nil)⟩
         · exact nv c109
set_option maxRecDepth 100000 in
theorem Q9(hg:g.Ok)(i m:Int){h:Nat}(hh:h<18446744073709551616)(level:Nat)(hlv:level<=1073741824)(K:Rs->Int->Tr)(ht:k.t.root<=9223372036854775807)(hi:i<=x.L.length)(hm:m<=x.L.length)(hA:∀f∈aR x.L,f∈A)(hk:¬(aD x.L m).nd.kind=6){b:Int}(hl:mC (aD x.L m).c (gZ h (level:Int))=some b)(hi2:(aD x.L b).nd.kind=2)(go:gL g x (kN k i m h level K))(ok:x.Ok)(hs:SF w D (xH k bx bm x dn rs) A [] (xW x) w):Calls Tryz.prog 226 #[.pointer (some ⟨bx,0,none⟩),.int .i64 i,.int .i64 m,.int .u64 (h:Int),.int .i64 (level:Int)] w (Xs g x K bx bm k dn rs D w):=by
  have hyl:=qY ok m
  have hlL:=ok.lL
  have h48:gL g x _/\mU x.L.length x.cs.length (aD x.L m).c:=⟨oT go hm,ok.nv m⟩
  have hb:b<=x.L.length:=by have:=pW (ok.nv m) (gZ h (level:Int));rw[hl] at this;exact this
  refine enter Tryz.func226 Tryz.ntmps226 rfl rfl (cK hs) ?_
  simp only[cN]
  all_goals (refine J0 ?_;refine aJ (λ x10=>?_);refine jM ?_)
  all_goals
   refine eZ [12,13,26,27,28,29,30,31,32,33] (λ j:Nat=>[(12,.pointer (some ⟨j,0,none⟩)),(13,.string k.key)]) (λ _=>True) (λ j=>[(j,.cells ⟨(aD x.L m).nd.cells⟩ 47 (0,0)),(x10,.cells ⟨Rs.zero.cells⟩ 64 (0,0)),(bx,xO k bm x dn rs),(bm,xM x)]) (λ _=>[]) (λ _=>xW x) (by decide) (λ _=>by exact rfl) ?_ (λ j f hx=>?_)
   · refine iE (.one 0 [] (.one 1 [] (.one 3 [] (.one 4 [] (.one 5 [] (.one 6 [] (.one 7 [] (.two 2 [7] (.one 8 [7] (.one 9 [7] (.one 10 [] .nil))) 0 [] (.two 8 [7] (.one 2 [7] (.one 9 [7] (.one 10 [] .nil))) 0 [] .nil))))))))) ?_
     all_goals (refine iP ?_;refine uD ?_)
     all_goals
      refine iM (E:=[2,8]) (by decide +kernel) ((.cons ?_ (.cons ?_ .nil)))
      · refine lJ (i:=2) (hq:=(cM (hs:=xH k bx bm x dn rs) (os:=xW x) (hc:=λ w hs=>gA m (by omega) ok hs))) (h:=λ x28 h28=>?_)
        all_goals (refine iD (h:=λ x12=>?_);refine A6 ?_)
        all_goals
         refine fR (x12) ?_
         · trivial
      · refine hY (i:=8) (h:=λ x12=>?_)
        all_goals (refine bA (i:=2) (hq:=(cM (hs:=xH k bx bm x dn rs) (os:=xW x) (hc:=λ w hs=>gA m (by omega) ok hs))) (h:=λ x28 h28=>?_);refine A6 ?_)
        all_goals
         refine fR (x12) ?_
         · trivial
   dsimp only[iL,List.map,List.cons_append,List.nil_append]
  all_goals (refine Cs ?_;refine uS ?_)
  all_goals
   refine bG (λ c36=>?_) (λ c36=>?_)
   · all_goals
      exact absurd c36 hk
   · all_goals
      have g0:=h48.1.to (λ _=>if_neg hk)
      have g1:=sN g0 (by rw[hl];rfl)
      rw[hl] at g1
      have g2:=oT g1 hb
     all_goals (refine Ck ?_;refine aY (cV (hc:=λ w1 hw=>fU hh (level:Int) w1)) (λ x91=>?_);refine J1 ?_;refine Px ?_;refine aY (cV (hc:=λ w1 hw=>Iw (v:=(aD x.L m)) h48.2 hl (ok.sE hw hA m))) (λ x95=>?_);refine aA ?_;refine aB (bU rf rfl) rfl ?_;refine aB (bU rf rfl) rfl ?_;refine J8 ?_;refine jN ?_;refine aC (cM (hs:=xH k bx bm x dn rs) (os:=xW x) (hc:=λ w hs=>gA b (by omega) ok hs)) (λ x100 h100=>?_);refine aJ (λ x21=>?_);refine J5 ?_;refine Da ?_;refine jN ?_)
     all_goals ((refine aF ?_;refine aE ?_))
     all_goals (refine vj ?_;refine J1 ?_)
     all_goals
      refine bG (λ c101=>?_) (λ c101=>?_)
      · all_goals
         have g3:=g2.to (λ _=>if_pos hi2)
        all_goals (refine J0 ?_;refine bO ?_;refine yN ?_)
        all_goals
         refine bE Tryz.results226 (λ w hw=>?_)
         exact⟨(Rs.zero,2,x,[]),rfl,⟨g3,ok,by simp,Nat.le_refl _,bM _⟩,hw.aS (hF:=by exact aV.nil)⟩
      · all_goals
         exact absurd hi2 c101
set_option maxRecDepth 100000 in
theorem R3(hg:g.Ok)(i m:Int){h:Nat}(hh:h<18446744073709551616)(level:Nat)(hlv:level<=1073741824)(K:Rs->Int->Tr)(ht:k.t.root<=9223372036854775807)(hi:i<=x.L.length)(hm:m<=x.L.length)(hA:∀f∈aR x.L,f∈A)(hk:¬(aD x.L m).nd.kind=6){b:Int}(hl:mC (aD x.L m).c (gZ h (level:Int))=some b)(hi2:¬(aD x.L b).nd.kind=2)(he:¬(aD x.L b).nd.key=k.key)(go:gL g x (kN k i m h level K))(ok:x.Ok)(hs:SF w D (xH k bx bm x dn rs) A [] (xW x) w):Calls Tryz.prog 226 #[.pointer (some ⟨bx,0,none⟩),.int .i64 i,.int .i64 m,.int .u64 (h:Int),.int .i64 (level:Int)] w (Xs g x K bx bm k dn rs D w):=by
  have hyl:=qY ok m
  have hlL:=ok.lL
  have h48:gL g x _/\mU x.L.length x.cs.length (aD x.L m).c:=⟨oT go hm,ok.nv m⟩
  have hb:b<=x.L.length:=by have:=pW (ok.nv m) (gZ h (level:Int));rw[hl] at this;exact this
  refine enter Tryz.func226 Tryz.ntmps226 rfl rfl (cK hs) ?_
  simp only[cN]
  all_goals (refine J0 ?_;refine aJ (λ x10=>?_);refine jM ?_)
  all_goals
   refine eZ [12,13,26,27,28,29,30,31,32,33] (λ j:Nat=>[(12,.pointer (some ⟨j,0,none⟩)),(13,.string k.key)]) (λ _=>True) (λ j=>[(j,.cells ⟨(aD x.L m).nd.cells⟩ 47 (0,0)),(x10,.cells ⟨Rs.zero.cells⟩ 64 (0,0)),(bx,xO k bm x dn rs),(bm,xM x)]) (λ _=>[]) (λ _=>xW x) (by decide) (λ _=>by exact rfl) ?_ (λ j f hx=>?_)
   · refine iE (.one 0 [] (.one 1 [] (.one 3 [] (.one 4 [] (.one 5 [] (.one 6 [] (.one 7 [] (.two 2 [7] (.one 8 [7] (.one 9 [7] (.one 10 [] .nil))) 0 [] (.two 8 [7] (.one 2 [7] (.one 9 [7] (.one 10 [] .nil))) 0 [] .nil))))))))) ?_
     all_goals (refine iP ?_;refine uD ?_)
     all_goals
      refine iM (E:=[2,8]) (by decide +kernel) ((.cons ?_ (.cons ?_ .nil)))
      · refine lJ (i:=2) (hq:=(cM (hs:=xH k bx bm x dn rs) (os:=xW x) (hc:=λ w hs=>gA m (by omega) ok hs))) (h:=λ x28 h28=>?_)
        all_goals (refine iD (h:=λ x12=>?_);refine A6 ?_)
        all_goals
         refine fR (x12) ?_
         · trivial
      · refine hY (i:=8) (h:=λ x12=>?_)
        all_goals (refine bA (i:=2) (hq:=(cM (hs:=xH k bx bm x dn rs) (os:=xW x) (hc:=λ w hs=>gA m (by omega) ok hs))) (h:=λ x28 h28=>?_);refine A6 ?_)
        all_goals
         refine fR (x12) ?_
         · trivial
   dsimp only[iL,List.map,List.cons_append,List.nil_append]
  all_goals (refine Cs ?_;refine uS ?_)
  all_goals
   refine bG (λ c36=>?_) (λ c36=>?_)
   · all_goals
      exact absurd c36 hk
   · all_goals
      have g0:=h48.1.to (λ _=>if_neg hk)
      have g1:=sN g0 (by rw[hl];rfl)
      rw[hl] at g1
      have g2:=oT g1 hb
     all_goals (refine Ck ?_;refine aY (cV (hc:=λ w1 hw=>fU hh (level:Int) w1)) (λ x91=>?_);refine J1 ?_;refine Px ?_;refine aY (cV (hc:=λ w1 hw=>Iw (v:=(aD x.L m)) h48.2 hl (ok.sE hw hA m))) (λ x95=>?_);refine aA ?_;refine aB (bU rf rfl) rfl ?_;refine aB (bU rf rfl) rfl ?_;refine J8 ?_;refine jN ?_;refine aC (cM (hs:=xH k bx bm x dn rs) (os:=xW x) (hc:=λ w hs=>gA b (by omega) ok hs)) (λ x100 h100=>?_);refine aJ (λ x21=>?_);refine J5 ?_;refine Da ?_;refine jN ?_)
     all_goals ((refine aF ?_;refine aE ?_))
     all_goals (refine vj ?_;refine J1 ?_)
     all_goals
      refine bG (λ c101=>?_) (λ c101=>?_)
      · all_goals
         exact absurd c101 hi2
      · all_goals
         have g3:=(g2.to (λ _=>if_neg hi2)).to (λ _=>if_pos he)
        all_goals (refine J2 ?_;refine Hp ?_)
        all_goals ((refine aF ?_;refine aE ?_))
        all_goals (refine jb ?_;((refine aF ?_;refine aB (lq rf rf he) rfl ?_));refine cX ?_;refine J1 ?_)
        all_goals
         refine bG (λ c109=>?_) (λ c109=>?_)
         · all_goals (refine J0 ?_;refine aY (cV (hc:=λ w1 hw=>gT _ _ w1)) (λ x118=>?_);refine yN ?_)
           all_goals
            refine bE Tryz.results226 (λ w hw=>?_)
            exact⟨(jX false 0,1,x,[]),rfl,⟨g3,ok,by simp,Nat.le_refl _,bM _⟩,hw.aS (hF:=by exact aV.nil)⟩
         · exact nv c109
set_option maxRecDepth 100000 in
theorem Rk(hg:g.Ok)(i m:Int){h:Nat}(hh:h<18446744073709551616)(level:Nat)(hlv:level<=1073741824)(K:Rs->Int->Tr)(ht:k.t.root<=9223372036854775807)(hi:i<=x.L.length)(hm:m<=x.L.length)(hA:∀f∈aR x.L,f∈A)(hk:¬(aD x.L m).nd.kind=6){b:Int}(hl:mC (aD x.L m).c (gZ h (level:Int))=some b)(hi2:¬(aD x.L b).nd.kind=2)(he:(aD x.L b).nd.key=k.key)(go:gL g x (kN k i m h level K))(ok:x.Ok)(hs:SF w D (xH k bx bm x dn rs) A [] (xW x) w):Calls Tryz.prog 226 #[.pointer (some ⟨bx,0,none⟩),.int .i64 i,.int .i64 m,.int .u64 (h:Int),.int .i64 (level:Int)] w (Xs g x K bx bm k dn rs D w):=by
  have hyl:=qY ok m
  have hlL:=ok.lL
  have h48:gL g x _/\mU x.L.length x.cs.length (aD x.L m).c:=⟨oT go hm,ok.nv m⟩
  have hb:b<=x.L.length:=by have:=pW (ok.nv m) (gZ h (level:Int));rw[hl] at this;exact this
  refine enter Tryz.func226 Tryz.ntmps226 rfl rfl (cK hs) ?_
  simp only[cN]
  all_goals (refine J0 ?_;refine aJ (λ x10=>?_);refine jM ?_)
  all_goals
   refine eZ [12,13,26,27,28,29,30,31,32,33] (λ j:Nat=>[(12,.pointer (some ⟨j,0,none⟩)),(13,.string k.key)]) (λ _=>True) (λ j=>[(j,.cells ⟨(aD x.L m).nd.cells⟩ 47 (0,0)),(x10,.cells ⟨Rs.zero.cells⟩ 64 (0,0)),(bx,xO k bm x dn rs),(bm,xM x)]) (λ _=>[]) (λ _=>xW x) (by decide) (λ _=>by exact rfl) ?_ (λ j f hx=>?_)
   · refine iE (.one 0 [] (.one 1 [] (.one 3 [] (.one 4 [] (.one 5 [] (.one 6 [] (.one 7 [] (.two 2 [7] (.one 8 [7] (.one 9 [7] (.one 10 [] .nil))) 0 [] (.two 8 [7] (.one 2 [7] (.one 9 [7] (.one 10 [] .nil))) 0 [] .nil))))))))) ?_
     all_goals (refine iP ?_;refine uD ?_)
     all_goals
      refine iM (E:=[2,8]) (by decide +kernel) ((.cons ?_ (.cons ?_ .nil)))
      · refine lJ (i:=2) (hq:=(cM (hs:=xH k bx bm x dn rs) (os:=xW x) (hc:=λ w hs=>gA m (by omega) ok hs))) (h:=λ x28 h28=>?_)
        all_goals (refine iD (h:=λ x12=>?_);refine A6 ?_)
        all_goals
         refine fR (x12) ?_
         · trivial
      · refine hY (i:=8) (h:=λ x12=>?_)
        all_goals (refine bA (i:=2) (hq:=(cM (hs:=xH k bx bm x dn rs) (os:=xW x) (hc:=λ w hs=>gA m (by omega) ok hs))) (h:=λ x28 h28=>?_);refine A6 ?_)
        all_goals
         refine fR (x12) ?_
         · trivial
   dsimp only[iL,List.map,List.cons_append,List.nil_append]
  all_goals (refine Cs ?_;refine uS ?_)
  all_goals
   refine bG (λ c36=>?_) (λ c36=>?_)
   · all_goals
      exact absurd c36 hk
   · all_goals
      have g0:=h48.1.to (λ _=>if_neg hk)
      have g1:=sN g0 (by rw[hl];rfl)
      rw[hl] at g1
      have g2:=oT g1 hb
     all_goals (refine Ck ?_;refine aY (cV (hc:=λ w1 hw=>fU hh (level:Int) w1)) (λ x91=>?_);refine J1 ?_;refine Px ?_;refine aY (cV (hc:=λ w1 hw=>Iw (v:=(aD x.L m)) h48.2 hl (ok.sE hw hA m))) (λ x95=>?_);refine aA ?_;refine aB (bU rf rfl) rfl ?_;refine aB (bU rf rfl) rfl ?_;refine J8 ?_;refine jN ?_;refine aC (cM (hs:=xH k bx bm x dn rs) (os:=xW x) (hc:=λ w hs=>gA b (by omega) ok hs)) (λ x100 h100=>?_);refine aJ (λ x21=>?_);refine J5 ?_;refine Da ?_;refine jN ?_)
     all_goals ((refine aF ?_;refine aE ?_))
     all_goals (refine vj ?_;refine J1 ?_)
     all_goals
      refine bG (λ c101=>?_) (λ c101=>?_)
      · all_goals
         exact absurd c101 hi2
      · all_goals
         have g3:=(g2.to (λ _=>if_neg hi2)).to (λ _=>if_neg (λ h:¬(aD x.L b).nd.key=k.key=>h he))
        all_goals (refine J2 ?_;refine Hp ?_)
        all_goals ((refine aF ?_;refine aE ?_))
        all_goals (refine jb ?_;((refine aF ?_;refine aB (pi rf rf he) rfl ?_));refine cX ?_;refine J1 ?_)
        all_goals
         refine bG (λ c109=>?_) (λ c109=>?_)
         · exact nv c109
         · all_goals (refine aW ?_;refine fL [0,1,2,3,4,5,6,7,8,9,10,11,12,13,14,15] ?_;refine uD ?_;refine aQ ?_)
           all_goals ((refine Xv 125 (λ g125=>?_) (λ g125=>?_)<;>(first|refine dL ?_|(refine aT ?_))))
           all_goals ((first|refine dL ?_|(refine bR ?_));(first|refine dL ?_|(refine aQ ?_));(first|refine dL ?_|(refine tN ?_));(first|refine dL ?_|(refine aT ?_));refine iu ?_;(first|refine dL ?_|(refine Ph ?_));refine fK ?_;refine J7 ?_)
           all_goals
            refine bG (λ c119=>?_) (λ c119=>?_)
            · try exact nv c119
              all_goals
               have g4:=g3.to (λ _=>if_pos (show(k.only=true/\(aD x.L b).nd.val≠k.exp) from⟨by assumption,by assumption⟩))
              all_goals (refine iZ ?_;refine aY (cV (hc:=λ w1 hw=>gT _ _ w1)) (λ x137=>?_);refine yN ?_)
              all_goals
               refine bE Tryz.results226 (λ w hw=>?_)
               exact⟨(jX true (aD x.L b).nd.val,1,x,[]),rfl,⟨g4,ok,by simp,Nat.le_refl _,bM _⟩,hw.aS (hF:=by exact aV.nil)⟩
            · all_goals
               have g4:=g3.to (λ _=>if_neg (show ¬(k.only=true/\(aD x.L b).nd.val≠k.exp) from by rintro ⟨h,h'⟩;simp_all))
              all_goals (refine oD ?_;refine Px ?_;refine aC (cF (hc:=λ w1 hw=>y5 (v:=(aD x.L m)) h48.2 (gZ h (level:Int)) (ok.sE hw hA m))) (λ x141 h141=>?_))
              all_goals
               have hB:=yh h48.2 (v:=(aD x.L m)) (gZ h (level:Int))
              all_goals (refine aA ?_;refine aB (bU rf rfl) rfl ?_;refine aB (bU rf rfl) rfl ?_;refine aJ (λ x22=>?_);refine yN ?_;refine qF ?_;refine aY (cV (hc:=λ w1 hw=>o8 hB (p9 h48.2 (gZ h (level:Int)) x141) (hw.cl (.new .head)))) (λ x146=>?_))
              all_goals
               have hso:((Mc (Mh (aD x.L m).c (gZ h (level:Int)))).getD 0)<=x.L.length:=xq hB (p9 h48.2 (gZ h (level:Int)) x141)
               have g5:=oT g4 hso
              all_goals (refine aA ?_;refine aB (bU rf rfl) rfl ?_;refine aB (bU rf rfl) rfl ?_;refine J8 ?_;refine aW ?_;refine dX [(0,[]),(1,[]),(2,[]),(3,[]),(4,[]),(5,[]),(6,[]),(7,[]),(8,[]),(9,[]),(10,[]),(11,[]),(12,[]),(13,[]),(16,[]),(19,[]),(20,[]),(14,[6,10,20]),(15,[6,20]),(17,[6,20]),(18,[20]),(21,[]),(22,[]),(23,[]),(24,[]),(25,[])] ?_;refine iP ?_;refine J9 ?_;refine aT ?_;refine bS (i:=6) (hq:=(aL (k:=2) (vs:=[.int .i64 k.t.root,.bool k.t.ro]) rf bQ cD rfl rfl)) (h:=?_);refine iP ?_;refine aQ ?_;refine bR ?_;refine iP ?_;refine iP ?_;refine nA ?_;refine bA (i:=14) (hq:=(cM (hs:=xH k bx bm x dn rs) (os:=xW x) (hc:=λ w hs=>gA ((Mc (Mh (aD x.L m).c (gZ h (level:Int)))).getD 0) (by omega) ok hs))) (hfire:=(λ _=>by first|((repeat (first|exact aI.nil|refine aI.cons (by first|exact dM (hq:=aL (k:=2) (vs:=[.int .i64 k.t.root,.bool k.t.ro]) rf bQ cD rfl rfl)|exact eT|exact a_un) ?_));done)|(refine bT ?_;(repeat (first|exact aI.nil|refine aI.cons (by first|exact dM (hq:=aL (k:=2) (vs:=[.int .i64 k.t.root,.bool k.t.ro]) rf bQ cD rfl rfl)|exact eT|exact a_un) ?_));done))) (h:=λ x163 h163=>?_);refine cL (i:=15) (hq:=(cV (hc:=λ w1 hw=>S6 hB (level:Int) (aD x.L ((Mc (Mh (aD x.L m).c (gZ h (level:Int)))).getD 0)).nd (hw.cl (.new .head))))) (hfire:=(λ _=>by first|((repeat (first|exact aI.nil|refine aI.cons (by first|exact dM (hq:=aL (k:=2) (vs:=[.int .i64 k.t.root,.bool k.t.ro]) rf bQ cD rfl rfl)|exact eT|exact a_un) ?_));done)|(refine bT ?_;(repeat (first|exact aI.nil|refine aI.cons (by first|exact dM (hq:=aL (k:=2) (vs:=[.int .i64 k.t.root,.bool k.t.ro]) rf bQ cD rfl rfl)|exact eT|exact a_un) ?_));done))) (h:=λ x164=>?_);refine bA (i:=17) (hq:=(cM (hs:=xH k bx bm x dn rs) (os:=xW x) (A0:=[((Ng (ax (aD x.L m) (gZ h (level:Int))) x141 (level:Int) (aD x.L ((Mc (Mh (aD x.L m).c (gZ h (level:Int)))).getD 0)).nd).brA,aG (We (ax (aD x.L m) (gZ h (level:Int))) x141 (level:Int) (aD x.L ((Mc (Mh (aD x.L m).c (gZ h (level:Int)))).getD 0)).nd)),((Ng (ax (aD x.L m) (gZ h (level:Int))) x141 (level:Int) (aD x.L ((Mc (Mh (aD x.L m).c (gZ h (level:Int)))).getD 0)).nd).prA,dW [])]) (hA:=rm) (hc:=λ w hs=>gX hg (n:=(Ng (ax (aD x.L m) (gZ h (level:Int))) x141 (level:Int) (aD x.L ((Mc (Mh (aD x.L m).c (gZ h (level:Int)))).getD 0)).nd)) (xs:=(We (ax (aD x.L m) (gZ h (level:Int))) x141 (level:Int) (aD x.L ((Mc (Mh (aD x.L m).c (gZ h (level:Int)))).getD 0)).nd)) (ys:=[]) m _ (Y0 _ _ _) (az _ _ _) (S4 hB _ _ _) (Nat.zero_le _) (Tt hB _ _ (ok.nv ((Mc (Mh (aD x.L m).c (gZ h (level:Int)))).getD 0)).hash) hm (by rw[<- rq,<- z8 h48.2];exact g5) ok hs))) (hfire:=(λ _=>by first|((repeat (first|exact aI.nil|refine aI.cons (by first|exact dM (hq:=aL (k:=2) (vs:=[.int .i64 k.t.root,.bool k.t.ro]) rf bQ cD rfl rfl)|exact eT|exact a_un) ?_));done)|(refine bT ?_;(repeat (first|exact aI.nil|refine aI.cons (by first|exact dM (hq:=aL (k:=2) (vs:=[.int .i64 k.t.root,.bool k.t.ro]) rf bQ cD rfl rfl)|exact eT|exact a_un) ?_));done))) (h:=λ x166 h166=>?_);refine bA (i:=18) (hq:=(cM (hs:=xH k bx bm x166.2.1 dn rs) (os:=xW x166.2.1) (hc:=λ w hs=>sO hg k.t i m x166.1 _ ht (by have:=h166.len;omega) h166.bd h166.go h166.ok hs))) (h:=λ x167 h167=>?_))
              all_goals
               have hch:=Ch.nx h167 (Ch.nx h166 ((Ch.base (F:=[])).cons (f:=(x141.1,aG (lZ (ax (aD x.L m) (gZ h (level:Int))))))))
               have hlc:x.cs.length<=x167.2.1.cs.length:=by have:=h166.lc;have:=h167.lc;omega
              all_goals (refine cL (i:=21) (hq:=(cV (hc:=λ w1 hw=>oW _ _ _ _ w1))) (h:=λ x170=>?_);refine cH (i:=22) (hq:=(bU rf rfl)) (h:=?_);refine cH (i:=23) (hq:=(bU rf rfl)) (h:=?_);refine A6 ?_)
              all_goals
               refine bE Tryz.results226 (λ w hw=>?_)
               obtain⟨N,hN,hf⟩:=hch.to (t':=K (rQ true (aD x.L b).nd.val) (if x167.1=true then 1 else 0)) h167 (h167.go) hlc (bM _)
               exact⟨(rQ true (aD x.L b).nd.val,(if x167.1=true then 1 else 0),x167.2.1,N),rfl,hN,(hw.dY hf).aS (hF:=by exact aV.all)⟩
theorem P2(hg:g.Ok)(i m:Int){h:Nat}(hh:h<18446744073709551616)(level:Nat)(hlv:level<=1073741824)(K:Rs->Int->Tr)(ht:k.t.root<=9223372036854775807)(hi:i<=x.L.length)(hm:m<=x.L.length)(hA:∀f∈aR x.L,f∈A)(go:gL g x (kN k i m h level K))(ok:x.Ok)(hs:SF w D (xH k bx bm x dn rs) A [] (xW x) w):Calls Tryz.prog 226 #[.pointer (some ⟨bx,0,none⟩),.int .i64 i,.int .i64 m,.int .u64 (h:Int),.int .i64 (level:Int)] w (Xs g x K bx bm k dn rs D w):=by
 by_cases hk:(aD x.L m).nd.kind=6
 ·exact P0 hg i m hh level hlv K ht hi hm hA hk go ok hs
 ·cases hl:mC (aD x.L m).c (gZ h (level:Int)) with
  | none=>exact Qx hg i m hh level hlv K ht hi hm hA hk hl go ok hs
  | some b =>
   by_cases hi2:(aD x.L b).nd.kind=2
   ·exact Q9 hg i m hh level hlv K ht hi hm hA hk hl hi2 go ok hs
   ·by_cases he:(aD x.L b).nd.key=k.key
    ·exact Rk hg i m hh level hlv K ht hi hm hA hk hl hi2 he go ok hs
    ·exact R3 hg i m hh level hlv K ht hi hm hA hk hl hi2 he go ok hs
end
end Go.Proofs.YtbajmaoegmbfgaaGreat

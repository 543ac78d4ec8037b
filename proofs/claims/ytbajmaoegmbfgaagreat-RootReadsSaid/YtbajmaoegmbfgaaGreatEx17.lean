/- Executions of the reference: one attempt of PUT at a leaf. -/
import Derived.Test.YtbajmaoegmbfgaaGreatGEx14
set_option linter.unusedSimpArgs false
set_option linter.unusedVariables false
namespace Go.Ct
open Go Go.RowKit
theorem qt{a b:ByteArray}(h:a=b):(a.toList==b.toList)=true:=by subst h;simp
theorem q0{a b:ByteArray}(h:¬a=b):(a.toList==b.toList)=false:=by
 rw[beq_eq_false_iff_ne]
 exact λ e=>h (toList_inj e)
section
variable{P:Program}{S:List (Nat×Value)}{G:World->Prop}{d:Nat}{ty t t':TypeId}{pos:String}{af:Array Edge}{gd:Option (Nat×Bool)}{x y:Operand}{a b:ByteArray}
theorem n7(hx:ev S x=.string a)(hy:ev S y=.string b)(h:a=b):aP P S G ⟨some d,.binOp .eql t x y t',ty,pos,af,gd⟩ (.bool true):=by
 have:=Fy (P:=P) (G:=G) (d:=d) (ty:=ty) (pos:=pos) (af:=af) (gd:=gd) (t:=t) (t':=t') hx hy
 rwa [qt h] at this
theorem ow(hx:ev S x=.string a)(hy:ev S y=.string b)(h:¬a=b):aP P S G ⟨some d,.binOp .eql t x y t',ty,pos,af,gd⟩ (.bool false):=by
 have:=Fy (P:=P) (G:=G) (d:=d) (ty:=ty) (pos:=pos) (af:=af) (gd:=gd) (t:=t) (t':=t') hx hy
 rwa [q0 h] at this
end
end Go.Ct
namespace Go.Proofs.YtbajmaoegmbfgaaGreat
open Go Go.RowKit Go.Ct
section
variable{v:aX}{n c:Nat}{w:World}
theorem Iw(h:mU n c v.c){i b:Int}(e:mC v.c i=some b)(hr:rK w v.nd v.xs v.ys):Calls Tryz.prog 216 #[v.nd.v,.int .i64 i] w λ e w'=>e=.returned (.tuple #[.int .i64 b,.bool true])/\St w [] [] w':=by
 have:=Ij h i hr
 rwa [e] at this
theorem qg(h:mU n c v.c){i:Int}(e:mC v.c i=none)(hr:rK w v.nd v.xs v.ys):Calls Tryz.prog 216 #[v.nd.v,.int .i64 i] w λ e w'=>e=.returned (.tuple #[.int .i64 0,.bool false])/\St w [] [] w':=by
 have:=Ij h i hr
 rwa [e] at this
end
section
variable{k:Cl}{bx bm:Nat}{x:XS}{dn:Bool}{rs:Rs}{D:List Nat}{A:Fr}{w:World}{g:Gx}
abbrev Xs(g:Gx)(x:XS)(K:Rs->Int->Tr)(bx bm:Nat)(k:Cl)(dn:Bool)(rs:Rs)(D:List Nat)(w:World)(e:Ending)(w':World):Prop:=∃q:Rs×Int×XS×List aX,e=.returned (.tuple #[.agg ⟨q.1.cells⟩,.int .i64 q.2.1])/\Nx g x q.2.2.1 q.2.2.2 (K q.1 q.2.1) 0/\SF w D (xH k bx bm q.2.2.1 dn rs) [] (aR q.2.2.2) (xW q.2.2.1) w'
set_option maxRecDepth 100000 in
theorem Vu(hg:g.Ok)(i m:Int){h:Nat}(hh:h<18446744073709551616)(level:Nat)(hlv:level<=1073741824)(gen:Int)(K:Rs->Int->Tr)(ht:k.t.root<=9223372036854775807)(hi:i<=x.L.length)(hm:m<=x.L.length)(hA:∀f∈aR x.L,f∈A)(hk:(aD x.L m).nd.kind=6)(go:gL g x (mJ k i m h level gen K))(ok:x.Ok)(hs:SF w D (xH k bx bm x dn rs) A [] (xW x) w):Calls Tryz.prog 224 #[.pointer (some ⟨bx,0,none⟩),.int .i64 i,.int .i64 m,.int .u64 (h:Int),.int .i64 (level:Int),.int .i64 gen] w (Xs g x K bx bm k dn rs D w):=by
  have hyl:=qY ok m
  have hlL:=ok.lL
  refine enter Tryz.func224 Tryz.ntmps224 rfl rfl (cK hs) ?_
  simp only[cN]
  all_goals (refine J0 ?_;refine aJ (λ x12=>?_);refine jM ?_;refine dX [(0,[]),(1,[]),(2,[]),(3,[]),(4,[]),(5,[]),(6,[]),(7,[]),(8,[]),(9,[]),(10,[]),(11,[]),(12,[]),(13,[]),(14,[]),(15,[4,9,14]),(16,[9,14]),(17,[14]),(18,[])] ?_;refine J9 ?_;refine aT ?_;refine bS (i:=4) (hq:=(aL (k:=2) (vs:=[.int .i64 k.t.root,.bool k.t.ro]) rf bQ cD rfl rfl)) (h:=?_);refine uD ?_;refine uD ?_;refine iD (hfire:=(λ _=>by first|((repeat (first|exact aI.nil|refine aI.cons (by first|exact dM (hq:=aL (k:=2) (vs:=[.int .i64 k.t.root,.bool k.t.ro]) rf bQ cD rfl rfl)|exact eT|exact a_un) ?_));done)|(refine bT ?_;(repeat (first|exact aI.nil|refine aI.cons (by first|exact dM (hq:=aL (k:=2) (vs:=[.int .i64 k.t.root,.bool k.t.ro]) rf bQ cD rfl rfl)|exact eT|exact a_un) ?_));done))) (h:=λ x14=>?_);refine oQ (h:=λ _=>?_);refine o6 ?_;refine jN ?_;refine aC (cM (hs:=xH k bx bm x dn rs) (os:=xW x) (hc:=λ w hs=>cR m _ hm go ok hs)) (λ x48 h48=>?_);refine aJ (λ x17=>?_);refine J5 ?_;refine Cs ?_;refine uS ?_)
  all_goals
   refine bG (λ c51=>?_) (λ c51=>?_)
   · all_goals
      have g1:=h48.1.to (λ _=>if_pos hk)
     all_goals (refine iZ ?_;refine aA ?_;refine aY (cV (hc:=λ w1 hw=>Kc (v:=(aD x.L m)) (n:=0) k.key (ok.sE hw hA m) (ok.ysl m))) (λ x56=>?_);refine aA ?_;refine aB (bU rf rfl) rfl ?_;refine aB (bU rf rfl) rfl ?_;refine J8 ?_;refine Dz ?_;refine aA ?_;refine aC (cM (hs:=xH k bx bm x dn rs) (os:=xW x) (hc:=λ w hs=>xQ _ _ hs)) (λ x62 h62=>?_);refine qT ?_)
     all_goals
      refine bG (λ c63=>?_) (λ c63=>?_)
      · all_goals
         have g2:=g1.to (λ _=>if_neg (show ¬oA k (eN (aD x.L m).c.ys k.key).isSome ((eN (aD x.L m).c.ys k.key).getD 0)=true from by simpa using c63))
        all_goals (refine jN ?_;refine aY (cV (hc:=λ w1 hw=>gT _ _ w1)) (λ x66=>?_);refine yN ?_)
        all_goals
         refine bE Tryz.results224 (λ w hw=>?_)
         exact⟨(jX (eN (aD x.L m).c.ys k.key).isSome ((eN (aD x.L m).c.ys k.key).getD 0),1,x,[]),rfl,⟨g2,ok,by simp,Nat.le_refl _,bM _⟩,hw.aS (hF:=by exact aV.nil)⟩
      · all_goals
         have g2:=g1.to (λ _=>if_pos (show oA k (eN (aD x.L m).c.ys k.key).isSome ((eN (aD x.L m).c.ys k.key).getD 0)=true from by simpa using c63))
        all_goals (refine bD ?_;refine qF ?_;refine qA ?_;refine aC (cF (hc:=λ w1 hw=>xr (v:=(aD x.L m)) h48.2 k.key k.val (ok.sE hw hA m) (by omega))) (λ x71 h71=>?_);refine aA ?_;refine aB (bU rf rfl) rfl ?_;refine aB (bU rf rfl) rfl ?_;refine aJ (λ x20=>?_);refine jD (λ _=>?_);refine jM ?_;refine dX [(0,[]),(1,[]),(2,[]),(3,[]),(4,[]),(5,[]),(6,[]),(7,[]),(10,[]),(11,[]),(8,[2]),(9,[]),(12,[]),(13,[]),(14,[]),(15,[]),(16,[])] ?_;refine iP ?_;refine bR ?_;refine iP ?_;refine aQ ?_;refine bR ?_;refine iP ?_;refine aQ ?_;refine bA (i:=8) (hq:=(cM (hs:=xH k bx bm x dn rs) (os:=xW x) (A0:=[((aa (lA (aD x.L m).nd (aD x.L m).xs (aD x.L m).ys k.key k.val) (aD x.L m).nd.hash x71).brA,aG []),((aa (lA (aD x.L m).nd (aD x.L m).xs (aD x.L m).ys k.key k.val) (aD x.L m).nd.hash x71).prA,dW (Xp (lA (aD x.L m).nd (aD x.L m).xs (aD x.L m).ys k.key k.val)))]) (hA:=yl) (hc:=λ w hs=>gX hg (n:=aa (lA (aD x.L m).nd (aD x.L m).xs (aD x.L m).ys k.key k.val) (aD x.L m).nd.hash x71) (xs:=[]) (ys:=Xp (lA (aD x.L m).nd (aD x.L m).xs (aD x.L m).ys k.key k.val)) m _ (X5 _ _ _).1 (X5 _ _ _).2 (by decide) (by have:=tu (aD x.L m).xs (aD x.L m).ys (aD x.L m).nd k.key k.val;omega) (w7 _ h48.2.hash) hm (by rw[aAs];exact g2) ok hs))) (h:=λ x82 h82=>?_);refine bA (i:=9) (hq:=(cM (hs:=xH k bx bm x82.2.1 dn rs) (os:=xW x82.2.1) (hc:=λ w hs=>sO hg k.t i m x82.1 _ ht (by have:=h82.len;omega) h82.bd h82.go h82.ok hs))) (h:=λ x83 h83=>?_))
        all_goals
         have hch:=Ch.nx h83 (Ch.nx h82 ((Ch.base (F:=[])).cons (f:=(x71.1,dW (Xp (lA (aD x.L m).nd (aD x.L m).xs (aD x.L m).ys k.key k.val))))))
         have hlc:x.cs.length<=x83.2.1.cs.length:=by have:=h82.lc;have:=h83.lc;omega
        all_goals (refine cL (i:=12) (hq:=(cV (hc:=λ w1 hw=>oW _ _ _ _ w1))) (h:=λ x86=>?_);refine cH (i:=13) (hq:=(bU rf rfl)) (h:=?_);refine cH (i:=14) (hq:=(bU rf rfl)) (h:=?_);refine A6 ?_)
        all_goals
         refine bE Tryz.results224 (λ w hw=>?_)
         obtain⟨N,hN,hf⟩:=hch.to (t':=K (rQ (eN (aD x.L m).c.ys k.key).isSome ((eN (aD x.L m).c.ys k.key).getD 0)) (if x83.1=true then 1 else 0)) h83 (h83.go) hlc (bM _)
         exact⟨(rQ (eN (aD x.L m).c.ys k.key).isSome ((eN (aD x.L m).c.ys k.key).getD 0),(if x83.1=true then 1 else 0),x83.2.1,N),rfl,hN,(hw.dY hf).aS (hF:=by exact aV.all)⟩
   · all_goals
      exact absurd hk c51
set_option maxRecDepth 100000 in
theorem V2(hg:g.Ok)(i m:Int){h:Nat}(hh:h<18446744073709551616)(level:Nat)(hlv:level<=1073741824)(gen:Int)(K:Rs->Int->Tr)(ht:k.t.root<=9223372036854775807)(hi:i<=x.L.length)(hm:m<=x.L.length)(hA:∀f∈aR x.L,f∈A)(hk:¬(aD x.L m).nd.kind=6)(hl:mC (aD x.L m).c (gZ h (level:Int))=none)(go:gL g x (mJ k i m h level gen K))(ok:x.Ok)(hs:SF w D (xH k bx bm x dn rs) A [] (xW x) w):Calls Tryz.prog 224 #[.pointer (some ⟨bx,0,none⟩),.int .i64 i,.int .i64 m,.int .u64 (h:Int),.int .i64 (level:Int),.int .i64 gen] w (Xs g x K bx bm k dn rs D w):=by
  have hyl:=qY ok m
  have hlL:=ok.lL
  refine enter Tryz.func224 Tryz.ntmps224 rfl rfl (cK hs) ?_
  simp only[cN]
  all_goals (refine J0 ?_;refine aJ (λ x12=>?_);refine jM ?_;refine dX [(0,[]),(1,[]),(2,[]),(3,[]),(4,[]),(5,[]),(6,[]),(7,[]),(8,[]),(9,[]),(10,[]),(11,[]),(12,[]),(13,[]),(14,[]),(15,[4,9,14]),(16,[9,14]),(17,[14]),(18,[])] ?_;refine J9 ?_;refine aT ?_;refine bS (i:=4) (hq:=(aL (k:=2) (vs:=[.int .i64 k.t.root,.bool k.t.ro]) rf bQ cD rfl rfl)) (h:=?_);refine uD ?_;refine uD ?_;refine iD (hfire:=(λ _=>by first|((repeat (first|exact aI.nil|refine aI.cons (by first|exact dM (hq:=aL (k:=2) (vs:=[.int .i64 k.t.root,.bool k.t.ro]) rf bQ cD rfl rfl)|exact eT|exact a_un) ?_));done)|(refine bT ?_;(repeat (first|exact aI.nil|refine aI.cons (by first|exact dM (hq:=aL (k:=2) (vs:=[.int .i64 k.t.root,.bool k.t.ro]) rf bQ cD rfl rfl)|exact eT|exact a_un) ?_));done))) (h:=λ x14=>?_);refine oQ (h:=λ _=>?_);refine o6 ?_;refine jN ?_;refine aC (cM (hs:=xH k bx bm x dn rs) (os:=xW x) (hc:=λ w hs=>cR m _ hm go ok hs)) (λ x48 h48=>?_);refine aJ (λ x17=>?_);refine J5 ?_;refine Cs ?_;refine uS ?_)
  all_goals
   refine bG (λ c51=>?_) (λ c51=>?_)
   · all_goals
      exact absurd c51 hk
   · all_goals
      have g0:=h48.1.to (λ _=>if_neg hk)
      have g1:=Kv g0 (by rw[hl];rfl)
     all_goals (refine Ck ?_;refine aY (cV (hc:=λ w1 hw=>fU hh (level:Int) w1)) (λ x91=>?_);refine xT ?_;refine aA ?_;refine bO ?_;refine aJ (λ x23=>?_);refine J5 ?_;refine Px ?_;refine aY (cV (hc:=λ w1 hw=>qg (v:=(aD x.L m)) h48.2 hl (ok.sE hw hA m))) (λ x99=>?_);refine aA ?_;refine aB (bU rf rfl) rfl ?_;refine aB (bU rf rfl) rfl ?_;refine J8 ?_;refine Dz ?_)
     all_goals (refine aN ?_)
     all_goals ((refine aN ?_);(refine aN ?_);refine xa ?_;refine aH ?_)
     all_goals
      refine bG (λ c109=>?_) (λ c109=>?_)
      · exact nv c109
      · all_goals refine Ck ?_
        all_goals (refine aN ?_)
        all_goals ((refine aN ?_);(refine aN ?_);refine J81 ?_;(refine aN ?_);refine cX ?_;refine xT ?_;refine aC (cM (hs:=xH k bx bm x dn rs) (os:=xW x) (hc:=λ w hs=>gA 0 (by decide) ok hs)) (λ x122 h122=>?_);refine dF ?_;refine jM ?_;refine J2 ?_;refine qT ?_)
        all_goals
         refine bG (λ c125=>?_) (λ c125=>?_)
         · all_goals (refine eR ?_;refine jM ?_;refine jN ?_;refine aA ?_;refine aC (cM (hs:=xH k bx bm x dn rs) (os:=xW x) (hc:=λ w hs=>xQ _ _ hs)) (λ x129 h129=>?_);refine qT ?_)
           all_goals
            refine bG (λ c130=>?_) (λ c130=>?_)
            · all_goals
               have g2:=g1.to (λ _=>if_neg (show ¬oA k false 0=true from by simpa using c130))
              all_goals (refine jN ?_;refine aY (cV (hc:=λ w1 hw=>gT _ _ w1)) (λ x133=>?_);refine yN ?_)
              all_goals
               refine bE Tryz.results224 (λ w hw=>?_)
               exact⟨(jX false 0,1,x,[]),rfl,⟨g2,ok,by simp,Nat.le_refl _,bM _⟩,hw.aS (hF:=by exact aV.nil)⟩
            · all_goals
               have g2:=g1.to (λ _=>if_pos (show oA k false 0=true from by simpa using c130))
              all_goals (refine qD ?_;refine J2 ?_;refine yC ?_;refine J1 ?_)
              all_goals
               refine bG (λ c134=>?_) (λ c134=>?_)
               · all_goals refine aW ?_
                 all_goals
                  refine eZ [28,29,137,138,139,140,141,142,143,144,145] (λ z:Nat×(Int×XS×List aX)×(Option Addr×Nat)×Nd=>[(28,.pointer (some ⟨z.1,0,none⟩))]) (λ z=>Nx g x z.2.1.2.1 z.2.1.2.2 (.alloc (sf (aD x.L m).c (gZ h (level:Int)) z.2.1.1) m λ r=>oB k.t i m r λ ok=>K (rQ false 0) (if ok=true then 1 else 0)) z.2.1.1/\z.2.2.2=mT (Xt (aD x.L m) (gZ h (level:Int)) z.2.1.1) z.2.2.1) (λ z=>[(z.1,.cells ⟨z.2.2.2.cells⟩ 47 (0,0)),(x23,.cells ⟨({Nd.zero with kind:=4,hash:=(h:Int),key:=k.key,val:=k.val}:Nd).cells⟩ 47 (0,0)),(x17,.cells ⟨(aD x.L m).nd.cells⟩ 47 (0,0)),(x14,.cells ⟨[.int .i64 k.t.root,.bool k.t.ro]⟩ 29 (0,0)),(x12,.cells ⟨Rs.zero.cells⟩ 64 (0,0)),(bx,xO k bm z.2.1.2.1 dn rs),(bm,xM z.2.1.2.1)]) (λ z=>(z.2.2.1.1,aG (lZ (Xt (aD x.L m) (gZ h (level:Int)) z.2.1.1)))::(aR z.2.1.2.2++[])) (λ z=>xW z.2.1.2.1) (by decide) (λ _=>by exact rfl) ?_ (λ z f hx=>?_)
                  · refine iE (.one 0 [] (.one 1 [] (.one 2 [] (.one 3 [] (.two 4 [0] (.two 5 [] (.one 6 [] (.one 7 [] (.one 8 [] (.one 9 [0,3] (.one 10 [] (.one 11 [] .nil)))))) 0 [] (.two 9 [0,3] (.one 5 [] (.one 6 [] (.one 7 [] (.one 8 [] (.one 10 [] (.one 11 [] .nil)))))) 0 [] .nil)) 0 [] (.two 9 [0,3] (.one 4 [0] (.one 5 [] (.one 6 [] (.one 7 [] (.one 8 [] (.one 10 [] (.one 11 [] .nil))))))) 0 [] .nil)))))) ?_
                    all_goals (refine bR ?_;refine iP ?_;refine bR ?_)
                    all_goals
                     refine iM (E:=[4,9]) (by decide +kernel) ((.cons ?_ (.cons ?_ .nil)))
                     · refine lJ (i:=4) (hq:=(cM (hs:=xH k bx bm x dn rs) (os:=xW x) (A0:=[(none,aG []),(none,dW [])]) (hc:=λ w hs=>gX hg (n:={Nd.zero with kind:=4,hash:=(h:Int),key:=k.key,val:=k.val}) (xs:=[]) (ys:=[]) 0 _ rfl rfl (by decide) (Nat.zero_le _) (Fp hh) (bM _) (g2) ok hs))) (h:=λ x142 h142=>?_)
                       all_goals
                        refine iM (E:=[5,9]) (by decide +kernel) ((.cons ?_ (.cons ?_ .nil)))
                        · refine lJ (i:=5) (hq:=(cF (hc:=λ w1 hw=>Yd (v:=(aD x.L m)) h48.2 (gZ h (level:Int)) x142.1 (ok.sE hw hA m)))) (h:=λ x143 h143=>?_)
                          all_goals (refine aQ ?_;refine cH (i:=7) (hq:=(bU rf rfl)) (h:=?_);refine cH (i:=8) (hq:=(bU rf rfl)) (h:=?_);refine iD (h:=λ x28=>?_);refine A6 ?_)
                          all_goals
                           refine fR ((x28,x142,x143,mT (Xt (aD x.L m) (gZ h (level:Int)) x142.1) x143)) ?_ (hw1:=λ w hw=>hw.back (hF:=by exact aV.all))
                           · exact⟨h142,rfl⟩
                        · refine hY (i:=9) (h:=λ x28=>?_)
                          all_goals (refine bA (i:=5) (hq:=(cF (hc:=λ w1 hw=>Yd (v:=(aD x.L m)) h48.2 (gZ h (level:Int)) x142.1 (ok.sE hw hA m)))) (h:=λ x143 h143=>?_);refine aQ ?_;refine cH (i:=7) (hq:=(bU rf rfl)) (h:=?_);refine cH (i:=8) (hq:=(bU rf rfl)) (h:=?_);refine A6 ?_)
                          all_goals
                           refine fR ((x28,x142,x143,mT (Xt (aD x.L m) (gZ h (level:Int)) x142.1) x143)) ?_ (hw1:=λ w hw=>hw.back (hF:=by exact aV.all))
                           · exact⟨h142,rfl⟩
                     · refine hY (i:=9) (h:=λ x28=>?_)
                       all_goals (refine bA (i:=4) (hq:=(cM (hs:=xH k bx bm x dn rs) (os:=xW x) (A0:=[(none,aG []),(none,dW [])]) (hc:=λ w hs=>gX hg (n:={Nd.zero with kind:=4,hash:=(h:Int),key:=k.key,val:=k.val}) (xs:=[]) (ys:=[]) 0 _ rfl rfl (by decide) (Nat.zero_le _) (Fp hh) (bM _) (g2) ok hs))) (h:=λ x142 h142=>?_);refine bA (i:=5) (hq:=(cF (hc:=λ w1 hw=>Yd (v:=(aD x.L m)) h48.2 (gZ h (level:Int)) x142.1 (ok.sE hw hA m)))) (h:=λ x143 h143=>?_);refine aQ ?_;refine cH (i:=7) (hq:=(bU rf rfl)) (h:=?_);refine cH (i:=8) (hq:=(bU rf rfl)) (h:=?_);refine A6 ?_)
                       all_goals
                        refine fR ((x28,x142,x143,mT (Xt (aD x.L m) (gZ h (level:Int)) x142.1) x143)) ?_ (hw1:=λ w hw=>hw.back (hF:=by exact aV.all))
                        · exact⟨h142,rfl⟩
                  dsimp only[iL,List.map,List.cons_append,List.nil_append]
                  obtain⟨hz,ez⟩:=hx
                  have hlz:=hz.len
                  have hB:=aAe ((ok.nv m).mono (Nat.le_refl _) (Nat.le_refl _) |>.mono hlz hz.lc) hz.bd (gZ h (level:Int))
                 all_goals (refine aW ?_;refine dX [(0,[]),(1,[]),(2,[]),(3,[]),(4,[]),(5,[]),(6,[]),(7,[]),(8,[2]),(9,[]),(10,[]),(11,[]),(12,[]),(13,[]),(14,[])] ?_;refine iP ?_;refine bR ?_;refine iP ?_;refine aQ ?_;refine bR ?_;refine aQ ?_;refine bA (i:=8) (hq:=(cM (hs:=xH k bx bm z.2.1.2.1 dn rs) (os:=xW z.2.1.2.1) (A0:=[(z.2.2.2.brA,aG (lZ (Xt (aD x.L m) (gZ h (level:Int)) z.2.1.1))),(z.2.2.2.prA,dW [])]) (hA:=by rw[ez];exact Pz) (hc:=λ w hs=>gX hg (n:=z.2.2.2) (xs:=lZ (Xt (aD x.L m) (gZ h (level:Int)) z.2.1.1)) (ys:=[]) m _ (by rw[ez];exact Dx _ _) (by rw[ez];exact Dm _ _) hB.len (Nat.zero_le _) (by rw[ez];exact hB.nvB _) (by omega) (by rw[ez,<- z4 h48.2];exact hz.go) hz.ok hs))) (h:=λ x154 h154=>?_);refine bA (i:=9) (hq:=(cM (hs:=xH k bx bm x154.2.1 dn rs) (os:=xW x154.2.1) (hc:=λ w hs=>sO hg k.t i m x154.1 _ ht (by have:=h154.len;omega) h154.bd h154.go h154.ok hs))) (h:=λ x155 h155=>?_))
                 all_goals
                  have hch:=Ch.nx h155 (Ch.nx h154 (((Ch.base (F:=[])).nx hz).cons (f:=(z.2.2.1.1,aG (lZ (Xt (aD x.L m) (gZ h (level:Int)) z.2.1.1))))))
                  have hlc:x.cs.length<=x155.2.1.cs.length:=by have:=hz.lc;have:=h154.lc;have:=h155.lc;omega
                 all_goals (refine cL (i:=10) (hq:=(cV (hc:=λ w1 hw=>oW _ _ _ _ w1))) (h:=λ x156=>?_);refine cH (i:=11) (hq:=(bU rf rfl)) (h:=?_);refine cH (i:=12) (hq:=(bU rf rfl)) (h:=?_);refine A6 ?_)
                 all_goals
                  refine bE Tryz.results224 (λ w hw=>?_)
                  obtain⟨N,hN,hf⟩:=hch.to (t':=K (rQ false 0) (if x155.1=true then 1 else 0)) h155 (h155.go) hlc (bM _)
                  exact⟨(rQ false 0,(if x155.1=true then 1 else 0),x155.2.1,N),rfl,hN,(hw.dY hf).aS (hF:=by exact aV.all)⟩
               · exact nv c134
         · exact nv c125
set_option maxRecDepth 100000 in
theorem Vn(hg:g.Ok)(i m:Int){h:Nat}(hh:h<18446744073709551616)(level:Nat)(hlv:level<=1073741824)(gen:Int)(K:Rs->Int->Tr)(ht:k.t.root<=9223372036854775807)(hi:i<=x.L.length)(hm:m<=x.L.length)(hA:∀f∈aR x.L,f∈A)(hk:¬(aD x.L m).nd.kind=6){b:Int}(hl:mC (aD x.L m).c (gZ h (level:Int))=some b)(hi2:(aD x.L b).nd.kind=2)(go:gL g x (mJ k i m h level gen K))(ok:x.Ok)(hs:SF w D (xH k bx bm x dn rs) A [] (xW x) w):Calls Tryz.prog 224 #[.pointer (some ⟨bx,0,none⟩),.int .i64 i,.int .i64 m,.int .u64 (h:Int),.int .i64 (level:Int),.int .i64 gen] w (Xs g x K bx bm k dn rs D w):=by
  have hyl:=qY ok m
  have hlL:=ok.lL
  have hb:b<=x.L.length:=by have:=pW (ok.nv m) (gZ h (level:Int));rw[hl] at this;exact this
  refine enter Tryz.func224 Tryz.ntmps224 rfl rfl (cK hs) ?_
  simp only[cN]
  all_goals (refine J0 ?_;refine aJ (λ x12=>?_);refine jM ?_;refine dX [(0,[]),(1,[]),(2,[]),(3,[]),(4,[]),(5,[]),(6,[]),(7,[]),(8,[]),(9,[]),(10,[]),(11,[]),(12,[]),(13,[]),(14,[]),(15,[4,9,14]),(16,[9,14]),(17,[14]),(18,[])] ?_;refine J9 ?_;refine aT ?_;refine bS (i:=4) (hq:=(aL (k:=2) (vs:=[.int .i64 k.t.root,.bool k.t.ro]) rf bQ cD rfl rfl)) (h:=?_);refine uD ?_;refine uD ?_;refine iD (hfire:=(λ _=>by first|((repeat (first|exact aI.nil|refine aI.cons (by first|exact dM (hq:=aL (k:=2) (vs:=[.int .i64 k.t.root,.bool k.t.ro]) rf bQ cD rfl rfl)|exact eT|exact a_un) ?_));done)|(refine bT ?_;(repeat (first|exact aI.nil|refine aI.cons (by first|exact dM (hq:=aL (k:=2) (vs:=[.int .i64 k.t.root,.bool k.t.ro]) rf bQ cD rfl rfl)|exact eT|exact a_un) ?_));done))) (h:=λ x14=>?_);refine oQ (h:=λ _=>?_);refine o6 ?_;refine jN ?_;refine aC (cM (hs:=xH k bx bm x dn rs) (os:=xW x) (hc:=λ w hs=>cR m _ hm go ok hs)) (λ x48 h48=>?_);refine aJ (λ x17=>?_);refine J5 ?_;refine Cs ?_;refine uS ?_)
  all_goals
   refine bG (λ c51=>?_) (λ c51=>?_)
   · all_goals
      exact absurd c51 hk
   · all_goals
      have g0:=h48.1.to (λ _=>if_neg hk)
      have g1:=sN g0 (by rw[hl];rfl)
      rw[hl] at g1
     all_goals (refine Ck ?_;refine aY (cV (hc:=λ w1 hw=>fU hh (level:Int) w1)) (λ x91=>?_);refine xT ?_;refine aA ?_;refine bO ?_;refine aJ (λ x23=>?_);refine J5 ?_;refine Px ?_;refine aY (cV (hc:=λ w1 hw=>Iw (v:=(aD x.L m)) h48.2 hl (ok.sE hw hA m))) (λ x99=>?_);refine aA ?_;refine aB (bU rf rfl) rfl ?_;refine aB (bU rf rfl) rfl ?_;refine J8 ?_;refine Dz ?_)
     all_goals ((refine aF ?_;refine aA ?_))
     all_goals (((refine aF ?_;refine aA ?_));((refine aF ?_;refine aC (cM (hs:=xH k bx bm x dn rs) (os:=xW x) (hc:=λ w hs=>cR b _ hb g1 ok hs)) (λ x106 h106=>?_)));refine xa ?_;refine aH ?_)
     all_goals
      refine bG (λ c109=>?_) (λ c109=>?_)
      · all_goals
         have g2:=h106.1.to (λ _=>if_pos hi2)
        all_goals (refine J0 ?_;refine bO ?_;refine yN ?_)
        all_goals
         refine bE Tryz.results224 (λ w hw=>?_)
         exact⟨(Rs.zero,2,x,[]),rfl,⟨g2,ok,by simp,Nat.le_refl _,bM _⟩,hw.aS (hF:=by exact aV.nil)⟩
      · all_goals
         exact absurd hi2 c109
set_option maxRecDepth 100000 in
theorem W3(hg:g.Ok)(i m:Int){h:Nat}(hh:h<18446744073709551616)(level:Nat)(hlv:level<=1073741824)(gen:Int)(K:Rs->Int->Tr)(ht:k.t.root<=9223372036854775807)(hi:i<=x.L.length)(hm:m<=x.L.length)(hA:∀f∈aR x.L,f∈A)(hk:¬(aD x.L m).nd.kind=6){b:Int}(hl:mC (aD x.L m).c (gZ h (level:Int))=some b)(hi2:¬(aD x.L b).nd.kind=2)(he:(aD x.L b).nd.key=k.key)(go:gL g x (mJ k i m h level gen K))(ok:x.Ok)(hs:SF w D (xH k bx bm x dn rs) A [] (xW x) w):Calls Tryz.prog 224 #[.pointer (some ⟨bx,0,none⟩),.int .i64 i,.int .i64 m,.int .u64 (h:Int),.int .i64 (level:Int),.int .i64 gen] w (Xs g x K bx bm k dn rs D w):=by
  have hyl:=qY ok m
  have hlL:=ok.lL
  have hb:b<=x.L.length:=by have:=pW (ok.nv m) (gZ h (level:Int));rw[hl] at this;exact this
  refine enter Tryz.func224 Tryz.ntmps224 rfl rfl (cK hs) ?_
  simp only[cN]
  all_goals (refine J0 ?_;refine aJ (λ x12=>?_);refine jM ?_;refine dX [(0,[]),(1,[]),(2,[]),(3,[]),(4,[]),(5,[]),(6,[]),(7,[]),(8,[]),(9,[]),(10,[]),(11,[]),(12,[]),(13,[]),(14,[]),(15,[4,9,14]),(16,[9,14]),(17,[14]),(18,[])] ?_;refine J9 ?_;refine aT ?_;refine bS (i:=4) (hq:=(aL (k:=2) (vs:=[.int .i64 k.t.root,.bool k.t.ro]) rf bQ cD rfl rfl)) (h:=?_);refine uD ?_;refine uD ?_;refine iD (hfire:=(λ _=>by first|((repeat (first|exact aI.nil|refine aI.cons (by first|exact dM (hq:=aL (k:=2) (vs:=[.int .i64 k.t.root,.bool k.t.ro]) rf bQ cD rfl rfl)|exact eT|exact a_un) ?_));done)|(refine bT ?_;(repeat (first|exact aI.nil|refine aI.cons (by first|exact dM (hq:=aL (k:=2) (vs:=[.int .i64 k.t.root,.bool k.t.ro]) rf bQ cD rfl rfl)|exact eT|exact a_un) ?_));done))) (h:=λ x14=>?_);refine oQ (h:=λ _=>?_);refine o6 ?_;refine jN ?_;refine aC (cM (hs:=xH k bx bm x dn rs) (os:=xW x) (hc:=λ w hs=>cR m _ hm go ok hs)) (λ x48 h48=>?_);refine aJ (λ x17=>?_);refine J5 ?_;refine Cs ?_;refine uS ?_)
  all_goals
   refine bG (λ c51=>?_) (λ c51=>?_)
   · all_goals
      exact absurd c51 hk
   · all_goals
      have g0:=h48.1.to (λ _=>if_neg hk)
      have g1:=sN g0 (by rw[hl];rfl)
      rw[hl] at g1
     all_goals (refine Ck ?_;refine aY (cV (hc:=λ w1 hw=>fU hh (level:Int) w1)) (λ x91=>?_);refine xT ?_;refine aA ?_;refine bO ?_;refine aJ (λ x23=>?_);refine J5 ?_;refine Px ?_;refine aY (cV (hc:=λ w1 hw=>Iw (v:=(aD x.L m)) h48.2 hl (ok.sE hw hA m))) (λ x99=>?_);refine aA ?_;refine aB (bU rf rfl) rfl ?_;refine aB (bU rf rfl) rfl ?_;refine J8 ?_;refine Dz ?_)
     all_goals ((refine aF ?_;refine aA ?_))
     all_goals (((refine aF ?_;refine aA ?_));((refine aF ?_;refine aC (cM (hs:=xH k bx bm x dn rs) (os:=xW x) (hc:=λ w hs=>cR b _ hb g1 ok hs)) (λ x106 h106=>?_)));refine xa ?_;refine aH ?_)
     all_goals
      refine bG (λ c109=>?_) (λ c109=>?_)
      · all_goals
         exact absurd c109 hi2
      · all_goals
         have g3:=(h106.1.to (λ _=>if_neg hi2)).to (λ _=>if_pos he)
        all_goals refine Ck ?_
        all_goals ((refine aF ?_;refine aA ?_))
        all_goals (((refine aF ?_;refine aA ?_));((refine aF ?_;refine aC (cM (hs:=xH k bx bm x dn rs) (os:=xW x) (hc:=λ w hs=>gA b (by omega) ok hs)) (λ x115 h115=>?_)));refine J81 ?_;((refine aF ?_;refine aB (n7 rf rf he) rfl ?_));refine cX ?_;refine xT ?_;refine aC (cM (hs:=xH k bx bm x dn rs) (os:=xW x) (hc:=λ w hs=>gA b (by omega) ok hs)) (λ x122 h122=>?_);refine dF ?_;refine jM ?_;refine J2 ?_;refine qT ?_)
        all_goals
         refine bG (λ c125=>?_) (λ c125=>?_)
         · exact nv c125
         · all_goals (refine lG ?_;refine jN ?_;refine aA ?_;refine aC (cM (hs:=xH k bx bm x dn rs) (os:=xW x) (hc:=λ w hs=>xQ _ _ hs)) (λ x129 h129=>?_);refine qT ?_)
           all_goals
            refine bG (λ c130=>?_) (λ c130=>?_)
            · all_goals
               have g2:=g3.to (λ _=>if_neg (show ¬oA k true (aD x.L b).nd.val=true from by simpa using c130))
              all_goals (refine jN ?_;refine aY (cV (hc:=λ w1 hw=>gT _ _ w1)) (λ x133=>?_);refine yN ?_)
              all_goals
               refine bE Tryz.results224 (λ w hw=>?_)
               exact⟨(jX true (aD x.L b).nd.val,1,x,[]),rfl,⟨g2,ok,by simp,Nat.le_refl _,bM _⟩,hw.aS (hF:=by exact aV.nil)⟩
            · all_goals
               have g2:=g3.to (λ _=>if_pos (show oA k true (aD x.L b).nd.val=true from by simpa using c130))
              all_goals (refine qD ?_;refine J2 ?_;refine yC ?_;refine J1 ?_)
              all_goals
               refine bG (λ c134=>?_) (λ c134=>?_)
               · exact nv c134
               · all_goals (refine J2 ?_;refine J1 ?_)
                 all_goals
                  refine bG (λ c159=>?_) (λ c159=>?_)
                  · all_goals (refine aW ?_;refine dX [(0,[]),(1,[]),(2,[]),(3,[]),(4,[]),(5,[]),(6,[]),(7,[]),(8,[]),(9,[]),(13,[]),(10,[2]),(11,[2]),(12,[]),(14,[]),(15,[]),(16,[]),(17,[]),(18,[])] ?_;refine iP ?_;refine bR ?_;refine iP ?_;refine iP ?_;refine iP ?_;refine bR ?_;refine aQ ?_;refine bA (i:=10) (hq:=(cM (hs:=xH k bx bm x dn rs) (os:=xW x) (A0:=[(none,aG []),(none,dW [])]) (hc:=λ w hs=>gX hg (n:={Nd.zero with kind:=4,hash:=(h:Int),key:=k.key,val:=k.val}) (xs:=[]) (ys:=[]) 0 _ rfl rfl (by decide) (Nat.zero_le _) (Fp hh) (bM _) (g2) ok hs))) (h:=λ x171 h171=>?_))
                    all_goals
                     have hch:=(Ch.base (F:=[])).nx h171
                    all_goals (refine bA (i:=11) (hq:=(cM (hs:=xH k bx bm x171.2.1 dn rs) (os:=xW x171.2.1) (A0:=aR x171.2.1.L) (hA:=Ch.all hch hA) (hc:=λ w hs=>Bq hg m (gZ h (level:Int)) x171.1 _ (by have:=h171.len;omega) h171.bd (λ f hf=>hf) h171.go h171.ok hs))) (h:=λ x172 h172=>?_);refine bA (i:=12) (hq:=(cM (hs:=xH k bx bm x172.2.1 dn rs) (os:=xW x172.2.1) (hc:=λ w hs=>sO hg k.t i m x172.1 _ ht (by have:=h171.len;have:=h172.len;omega) h172.bd h172.go h172.ok hs))) (h:=λ x173 h173=>?_))
                    all_goals
                     have hch2:=Ch.nx h173 (Ch.nx h172 hch)
                     have hlc:x.cs.length<=x173.2.1.cs.length:=by have:=h171.lc;have:=h172.lc;have:=h173.lc;omega
                    all_goals (refine cL (i:=14) (hq:=(cV (hc:=λ w1 hw=>oW _ _ _ _ w1))) (h:=λ x175=>?_);refine cH (i:=15) (hq:=(bU rf rfl)) (h:=?_);refine cH (i:=16) (hq:=(bU rf rfl)) (h:=?_);refine A6 ?_)
                    all_goals
                     refine bE Tryz.results224 (λ w hw=>?_)
                     obtain⟨N,hN,hf⟩:=hch2.to (t':=K (rQ true (aD x.L b).nd.val) (if x173.1=true then 1 else 0)) h173 (h173.go) hlc (bM _)
                     exact⟨(rQ true (aD x.L b).nd.val,(if x173.1=true then 1 else 0),x173.2.1,N),rfl,hN,(hw.dY hf).aS (hF:=by exact aV.all)⟩
                  · exact nv c159
set_option maxRecDepth 100000 in
theorem V9(hg:g.Ok)(i m:Int){h:Nat}(hh:h<18446744073709551616)(level:Nat)(hlv:level<=1073741824)(gen:Int)(K:Rs->Int->Tr)(ht:k.t.root<=9223372036854775807)(hi:i<=x.L.length)(hm:m<=x.L.length)(hA:∀f∈aR x.L,f∈A)(hk:¬(aD x.L m).nd.kind=6){b:Int}(hl:mC (aD x.L m).c (gZ h (level:Int))=some b)(hi2:¬(aD x.L b).nd.kind=2)(he:¬(aD x.L b).nd.key=k.key)(go:gL g x (mJ k i m h level gen K))(ok:x.Ok)(hs:SF w D (xH k bx bm x dn rs) A [] (xW x) w):Calls Tryz.prog 224 #[.pointer (some ⟨bx,0,none⟩),.int .i64 i,.int .i64 m,.int .u64 (h:Int),.int .i64 (level:Int),.int .i64 gen] w (Xs g x K bx bm k dn rs D w):=by
  have hyl:=qY ok m
  have hlL:=ok.lL
  have hb:b<=x.L.length:=by have:=pW (ok.nv m) (gZ h (level:Int));rw[hl] at this;exact this
  refine enter Tryz.func224 Tryz.ntmps224 rfl rfl (cK hs) ?_
  simp only[cN]
  all_goals (refine J0 ?_;refine aJ (λ x12=>?_);refine jM ?_;refine dX [(0,[]),(1,[]),(2,[]),(3,[]),(4,[]),(5,[]),(6,[]),(7,[]),(8,[]),(9,[]),(10,[]),(11,[]),(12,[]),(13,[]),(14,[]),(15,[4,9,14]),(16,[9,14]),(17,[14]),(18,[])] ?_;refine J9 ?_;refine aT ?_;refine bS (i:=4) (hq:=(aL (k:=2) (vs:=[.int .i64 k.t.root,.bool k.t.ro]) rf bQ cD rfl rfl)) (h:=?_);refine uD ?_;refine uD ?_;refine iD (hfire:=(λ _=>by first|((repeat (first|exact aI.nil|refine aI.cons (by first|exact dM (hq:=aL (k:=2) (vs:=[.int .i64 k.t.root,.bool k.t.ro]) rf bQ cD rfl rfl)|exact eT|exact a_un) ?_));done)|(refine bT ?_;(repeat (first|exact aI.nil|refine aI.cons (by first|exact dM (hq:=aL (k:=2) (vs:=[.int .i64 k.t.root,.bool k.t.ro]) rf bQ cD rfl rfl)|exact eT|exact a_un) ?_));done))) (h:=λ x14=>?_);refine oQ (h:=λ _=>?_);refine o6 ?_;refine jN ?_;refine aC (cM (hs:=xH k bx bm x dn rs) (os:=xW x) (hc:=λ w hs=>cR m _ hm go ok hs)) (λ x48 h48=>?_);refine aJ (λ x17=>?_);refine J5 ?_;refine Cs ?_;refine uS ?_)
  all_goals
   refine bG (λ c51=>?_) (λ c51=>?_)
   · all_goals
      exact absurd c51 hk
   · all_goals
      have g0:=h48.1.to (λ _=>if_neg hk)
      have g1:=sN g0 (by rw[hl];rfl)
      rw[hl] at g1
     all_goals (refine Ck ?_;refine aY (cV (hc:=λ w1 hw=>fU hh (level:Int) w1)) (λ x91=>?_);refine xT ?_;refine aA ?_;refine bO ?_;refine aJ (λ x23=>?_);refine J5 ?_;refine Px ?_;refine aY (cV (hc:=λ w1 hw=>Iw (v:=(aD x.L m)) h48.2 hl (ok.sE hw hA m))) (λ x99=>?_);refine aA ?_;refine aB (bU rf rfl) rfl ?_;refine aB (bU rf rfl) rfl ?_;refine J8 ?_;refine Dz ?_)
     all_goals ((refine aF ?_;refine aA ?_))
     all_goals (((refine aF ?_;refine aA ?_));((refine aF ?_;refine aC (cM (hs:=xH k bx bm x dn rs) (os:=xW x) (hc:=λ w hs=>cR b _ hb g1 ok hs)) (λ x106 h106=>?_)));refine xa ?_;refine aH ?_)
     all_goals
      refine bG (λ c109=>?_) (λ c109=>?_)
      · all_goals
         exact absurd c109 hi2
      · all_goals
         have g3:=(h106.1.to (λ _=>if_neg hi2)).to (λ _=>if_neg he)
        all_goals refine Ck ?_
        all_goals ((refine aF ?_;refine aA ?_))
        all_goals (((refine aF ?_;refine aA ?_));((refine aF ?_;refine aC (cM (hs:=xH k bx bm x dn rs) (os:=xW x) (hc:=λ w hs=>gA b (by omega) ok hs)) (λ x115 h115=>?_)));refine J81 ?_;((refine aF ?_;refine aB (ow rf rf he) rfl ?_));refine cX ?_;refine xT ?_;refine aC (cM (hs:=xH k bx bm x dn rs) (os:=xW x) (hc:=λ w hs=>gA b (by omega) ok hs)) (λ x122 h122=>?_);refine dF ?_;refine jM ?_;refine J2 ?_;refine qT ?_)
        all_goals
         refine bG (λ c125=>?_) (λ c125=>?_)
         · all_goals (refine eR ?_;refine jM ?_;refine jN ?_;refine aA ?_;refine aC (cM (hs:=xH k bx bm x dn rs) (os:=xW x) (hc:=λ w hs=>xQ _ _ hs)) (λ x129 h129=>?_);refine qT ?_)
           all_goals
            refine bG (λ c130=>?_) (λ c130=>?_)
            · all_goals
               have g2:=g3.to (λ _=>if_neg (show ¬oA k false 0=true from by simpa using c130))
              all_goals (refine jN ?_;refine aY (cV (hc:=λ w1 hw=>gT _ _ w1)) (λ x133=>?_);refine yN ?_)
              all_goals
               refine bE Tryz.results224 (λ w hw=>?_)
               exact⟨(jX false 0,1,x,[]),rfl,⟨g2,ok,by simp,Nat.le_refl _,bM _⟩,hw.aS (hF:=by exact aV.nil)⟩
            · all_goals
               have g2:=g3.to (λ _=>if_pos (show oA k false 0=true from by simpa using c130))
              all_goals (refine qD ?_;refine J2 ?_;refine yC ?_;refine J1 ?_)
              all_goals
               refine bG (λ c134=>?_) (λ c134=>?_)
               · exact nv c134
               · all_goals (refine J2 ?_;refine J1 ?_)
                 all_goals
                  refine bG (λ c159=>?_) (λ c159=>?_)
                  · exact nv c159
                  · all_goals (refine oD ?_;refine jN ?_;refine bO ?_;refine qA ?_;refine qA ?_;refine sC ?_;refine aA ?_;refine aC (cM (hs:=xH k bx bm x dn rs) (os:=xW x) (hc:=λ w hs=>r8 hg b hh (level+1) gen _ hb g2 ok hs)) (λ x187 h187=>?_);refine aC (cM (hs:=xH k bx bm x187.2.1 dn rs) (os:=xW x187.2.1) (A0:=[(none,aG []),(none,dW [])]) (hc:=λ w hs=>gX hg (n:={Nd.zero with kind:=2,gen:=gen}) (xs:=[]) (ys:=[]) x187.1 _ rfl rfl (by decide) (Nat.zero_le _) rU h187.bd h187.go h187.ok hs)) (λ x188 h188=>?_))
                    all_goals
                     have hch:=Ch.nx h188 ((Ch.base (F:=[])).nx h187)
                    all_goals (refine jM ?_;refine dX [(0,[]),(1,[]),(2,[]),(3,[]),(4,[]),(5,[]),(6,[]),(7,[]),(8,[]),(9,[2]),(10,[]),(11,[]),(12,[]),(13,[]),(14,[]),(15,[])] ?_;refine iP ?_;refine bR ?_;refine iP ?_;refine iP ?_;refine iP ?_;refine bA (i:=9) (hq:=(cM (hs:=xH k bx bm x188.2.1 dn rs) (os:=xW x188.2.1) (A0:=aR x188.2.1.L) (hA:=Ch.all hch hA) (hc:=λ w hs=>Bq hg m (gZ h (level:Int)) x188.1 _ (by have:=h187.len;have:=h188.len;omega) h188.bd (λ f hf=>hf) h188.go h188.ok hs))) (h:=λ x198 h198=>?_);refine bA (i:=10) (hq:=(cM (hs:=xH k bx bm x198.2.1 dn rs) (os:=xW x198.2.1) (hc:=λ w hs=>sO hg k.t i m x198.1 _ ht (by have:=h187.len;have:=h188.len;have:=h198.len;omega) h198.bd h198.go h198.ok hs))) (h:=λ x199 h199=>?_))
                    all_goals
                     have hch2:=Ch.nx h199 (Ch.nx h198 hch)
                     have hlc:x.cs.length<=x199.2.1.cs.length:=by have:=h187.lc;have:=h188.lc;have:=h198.lc;have:=h199.lc;omega
                    all_goals (refine cL (i:=11) (hq:=(cV (hc:=λ w1 hw=>oW _ _ _ _ w1))) (h:=λ x200=>?_);refine cH (i:=12) (hq:=(bU rf rfl)) (h:=?_);refine cH (i:=13) (hq:=(bU rf rfl)) (h:=?_);refine A6 ?_)
                    all_goals
                     refine bE Tryz.results224 (λ w hw=>?_)
                     obtain⟨N,hN,hf⟩:=hch2.to (t':=K (rQ false 0) (if x199.1=true then 1 else 0)) h199 (h199.go) hlc (bM _)
                     exact⟨(rQ false 0,(if x199.1=true then 1 else 0),x199.2.1,N),rfl,hN,(hw.dY hf).aS (hF:=by exact aV.all)⟩
         · exact nv c125
theorem Vl(hg:g.Ok)(i m:Int){h:Nat}(hh:h<18446744073709551616)(level:Nat)(hlv:level<=1073741824)(gen:Int)(K:Rs->Int->Tr)(ht:k.t.root<=9223372036854775807)(hi:i<=x.L.length)(hm:m<=x.L.length)(hA:∀f∈aR x.L,f∈A)(go:gL g x (mJ k i m h level gen K))(ok:x.Ok)(hs:SF w D (xH k bx bm x dn rs) A [] (xW x) w):Calls Tryz.prog 224 #[.pointer (some ⟨bx,0,none⟩),.int .i64 i,.int .i64 m,.int .u64 (h:Int),.int .i64 (level:Int),.int .i64 gen] w (Xs g x K bx bm k dn rs D w):=by
 by_cases hk:(aD x.L m).nd.kind=6
 ·exact Vu hg i m hh level hlv gen K ht hi hm hA hk go ok hs
 ·cases hl:mC (aD x.L m).c (gZ h (level:Int)) with
  | none=>exact V2 hg i m hh level hlv gen K ht hi hm hA hk hl go ok hs
  | some b =>
   by_cases hi2:(aD x.L b).nd.kind=2
   ·exact Vn hg i m hh level hlv gen K ht hi hm hA hk hl hi2 go ok hs
   ·by_cases he:(aD x.L b).nd.key=k.key
    ·exact W3 hg i m hh level hlv gen K ht hi hm hA hk hl hi2 he go ok hs
    ·exact V9 hg i m hh level hlv gen K ht hi hm hA hk hl hi2 he go ok hs
end
end Go.Proofs.YtbajmaoegmbfgaaGreat

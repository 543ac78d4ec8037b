/- Executions of the reference: one attempt of PUT at a leaf. -/
import Derived.Test.YtadnboagdhcedaaGreatDoorGEx12
set_option linter.unusedSimpArgs false
set_option linter.unusedVariables false
namespace Go.Ct
open Go Go.RowKit
theorem ur{a b:ByteArray}(h:a=b):(a.toList==b.toList)=true:=by subst h;simp
theorem we{a b:ByteArray}(h:¬a=b):(a.toList==b.toList)=false:=by
 rw[beq_eq_false_iff_ne]
 exact λ e=>h (toList_inj e)
section
variable{P:Program}{S:List (Nat×Value)}{G:World->Prop}{d:Nat}{ty t t':TypeId}{pos:String}{af:Array Edge}{gd:Option (Nat×Bool)}{x y:Operand}{a b:ByteArray}
theorem o5(hx:ev S x=.string a)(hy:ev S y=.string b)(h:a=b):aM P S G ⟨some d,.binOp .eql t x y t',ty,pos,af,gd⟩ (.bool true):=by
 have:=Hu (P:=P) (G:=G) (d:=d) (ty:=ty) (pos:=pos) (af:=af) (gd:=gd) (t:=t) (t':=t') hx hy;rwa [ur h] at this
theorem ov(hx:ev S x=.string a)(hy:ev S y=.string b)(h:¬a=b):aM P S G ⟨some d,.binOp .eql t x y t',ty,pos,af,gd⟩ (.bool false):=by
 have:=Hu (P:=P) (G:=G) (d:=d) (ty:=ty) (pos:=pos) (af:=af) (gd:=gd) (t:=t) (t':=t') hx hy;rwa [we h] at this
end
end Go.Ct
namespace Go.Proofs.YtadnboagdhcedaaGreatDoor
open Go Go.RowKit Go.Ct
section
variable{v:aI}{n c:Nat}{w:World}
theorem Kf(h:pJ n c v.c){i b:Int}(e:mU v.c i=some b)(hr:qR w v.nd v.xs v.ys):Calls Tryz.prog 115 #[v.nd.v,.int .i64 i] w λ e w'=>e=.returned (.tuple #[.int .i64 b,.bool true])/\St w [] [] w':=by
 have:=I5 h i hr;rwa [e] at this
theorem ui(h:pJ n c v.c){i:Int}(e:mU v.c i=none)(hr:qR w v.nd v.xs v.ys):Calls Tryz.prog 115 #[v.nd.v,.int .i64 i] w λ e w'=>e=.returned (.tuple #[.int .i64 0,.bool false])/\St w [] [] w':=by
 have:=I5 h i hr;rwa [e] at this
end
section
variable{k:Cl}{bx bm:Nat}{x:XS}{dn:Bool}{rs:Rs}{D:List Nat}{A:Fr}{w:World}{g:Gx}
abbrev Zw(g:Gx)(x:XS)(K:Rs->Int->Tr)(bx bm:Nat)(k:Cl)(dn:Bool)(rs:Rs)(D:List Nat)(w:World)(e:Ending)(w':World):Prop:=∃q:Rs×Int×XS×List aI,e=.returned (.tuple #[.agg ⟨q.1.cells⟩,.int .i64 q.2.1])/\Nx g x q.2.2.1 q.2.2.2 (K q.1 q.2.1) 0/\SF w D (xH k bx bm q.2.2.1 dn rs) [] (bD q.2.2.2) (xW q.2.2.1) w'
set_option maxRecDepth 100000 in
theorem X5(hg:g.Ok)(i m:Int){h:Nat}(hh:h<18446744073709551616)(level:Nat)(hlv:level<=1073741824)(gen:Int)(K:Rs->Int->Tr)(ht:k.t.root<=9223372036854775807)(hi:i<=x.L.length)(hm:m<=x.L.length)(hA:∀f∈bD x.L,f∈A)(hk:(aA x.L m).nd.kind=6)(go:gS g x (mQ k i m h level gen K))(ok:x.Ok)(hs:SF w D (xH k bx bm x dn rs) A [] (xW x) w):Calls Tryz.prog 122 #[.pointer (some ⟨bx,0,none⟩),.int .i64 i,.int .i64 m,.int .u64 (h:Int),.int .i64 (level:Int),.int .i64 gen] w (Zw g x K bx bm k dn rs D w):=by
 have hyl:=rN ok m;have hlL:=ok.lL;refine K1v ?_;simp only[cP]
 refine K0b ?_;intro x12;refine gG (hfire:=(λ _=>by((repeat (first|exact aG.nil|refine aG.cons (by first|exact cG (hq:=aW (k:=2) (vs:=[.int .i64 k.t.root,.bool k.t.ro]) rf dI dR rfl rfl)|exact bY) ?_));done))) (h:=λ x14=>?_);refine pD (h:=λ _=>?_);refine K0n ?_;intro x48 h48 x17;refine bA (λ c51=>?_) (λ c51=>?_)
 ·have g1:=h48.1.to (λ _=>if_pos hk);refine Ka9 ?_;refine aS (cV (hc:=λ w1 hw=>Ni (v:=(aA x.L m)) (n:=0) k.key (ok.sR hw hA m) (ok.ysl m))) (λ x56=>?_);refine K0d ?_;refine J8 ?_;refine B8 ?_;refine aB ?_;refine aD (cM (hs:=xH k bx bm x dn rs) (os:=xW x) (hc:=λ w hs=>yD _ _ hs)) (λ x62 h62=>?_);refine lA ?_;refine bA (λ c63=>?_) (λ c63=>?_)
  ·have g2:=g1.to (λ _=>if_neg (show ¬oA k (eK (aA x.L m).c.ys k.key).isSome ((eK (aA x.L m).c.ys k.key).getD 0)=true from by simpa using c63));refine jJ ?_;refine aS (cV (hc:=λ w1 hw=>hY _ _ w1)) (λ x66=>?_);refine El ?_;refine bK Tryz.results122 (λ w hw=>?_);exact⟨(jV (eK (aA x.L m).c.ys k.key).isSome ((eK (aA x.L m).c.ys k.key).getD 0),1,x,[]),rfl,⟨g2,ok,by simp,Nat.le_refl _,bT _⟩,hw.aQ (hF:=by exact aP.nil)⟩
  ·have g2:=g1.to (λ _=>if_pos (show oA k (eK (aA x.L m).c.ys k.key).isSome ((eK (aA x.L m).c.ys k.key).getD 0)=true from by simpa using c63));refine bB ?_;refine iH ?_;refine pK ?_;refine aD (cF (hc:=λ w1 hw=>aBj (v:=(aA x.L m)) h48.2 k.key k.val (ok.sR hw hA m) (by omega))) (λ x71 h71=>?_);refine K0d ?_;refine aT (λ x20=>?_);refine nY (λ _=>?_);refine gX ?_;refine dZ [(0,[]),(1,[]),(2,[]),(3,[]),(4,[]),(5,[]),(6,[]),(7,[]),(10,[]),(11,[]),(8,[2]),(9,[]),(12,[]),(13,[]),(14,[]),(15,[]),(16,[])] ?_;refine iJ ?_;refine aZ ?_;refine iJ ?_;refine Kb7 ?_;refine iJ ?_;refine aL ?_;refine bL (i:=8) (hq:=(cM (hs:=xH k bx bm x dn rs) (os:=xW x) (A0:=[((lx (lH (aA x.L m).nd (aA x.L m).xs (aA x.L m).ys k.key k.val) (aA x.L m).nd.hash x71).brA,aH []),((lx (lH (aA x.L m).nd (aA x.L m).xs (aA x.L m).ys k.key k.val) (aA x.L m).nd.hash x71).prA,dK (Zy (lH (aA x.L m).nd (aA x.L m).xs (aA x.L m).ys k.key k.val)))]) (hA:=aBC) (hc:=λ w hs=>iD hg (n:=lx (lH (aA x.L m).nd (aA x.L m).xs (aA x.L m).ys k.key k.val) (aA x.L m).nd.hash x71) (xs:=[]) (ys:=Zy (lH (aA x.L m).nd (aA x.L m).xs (aA x.L m).ys k.key k.val)) m _ (av _ _ _).1 (av _ _ _).2 (by decide) (by have:=yb (aA x.L m).xs (aA x.L m).ys (aA x.L m).nd k.key k.val;omega) (aAN _ h48.2.hash) hm (by rw[aC4];exact g2) ok hs))) (h:=λ x82 h82=>?_);refine bL (i:=9) (hq:=(cM (hs:=xH k bx bm x82.2.1 dn rs) (os:=xW x82.2.1) (hc:=λ w hs=>tX hg k.t i m x82.1 _ ht (by have:=h82.len;omega) h82.bd h82.go h82.ok hs))) (h:=λ x83 h83=>?_);have hch:=Ch.nx h83 (Ch.nx h82 ((Ch.base (F:=[])).cons (f:=(x71.1,dK (Zy (lH (aA x.L m).nd (aA x.L m).xs (aA x.L m).ys k.key k.val))))));have hlc:x.cs.length<=x83.2.1.cs.length:=by have:=h82.lc;have:=h83.lc;omega
   refine cA (i:=12) (hq:=(cV (hc:=λ w1 hw=>pT _ _ _ _ w1))) (h:=λ x86=>?_);refine cS (i:=13) (hq:=(bW rf rfl)) (h:=?_);refine cS (i:=14) (hq:=(bW rf rfl)) (h:=?_);refine Cv ?_;refine bK Tryz.results122 (λ w hw=>?_);obtain⟨N,hN,hf⟩:=hch.to (t':=K (rU (eK (aA x.L m).c.ys k.key).isSome ((eK (aA x.L m).c.ys k.key).getD 0)) (if x83.1=true then 1 else 0)) h83 (h83.go) hlc (bT _)
   exact⟨(rU (eK (aA x.L m).c.ys k.key).isSome ((eK (aA x.L m).c.ys k.key).getD 0),(if x83.1=true then 1 else 0),x83.2.1,N),rfl,hN,(hw.fN hf).zA0⟩
 ·exact absurd hk c51
set_option maxRecDepth 100000 in
theorem Ze(hg:g.Ok)(i m:Int){h:Nat}(hh:h<18446744073709551616)(level:Nat)(hlv:level<=1073741824)(gen:Int)(K:Rs->Int->Tr)(ht:k.t.root<=9223372036854775807)(hi:i<=x.L.length)(hm:m<=x.L.length)(hA:∀f∈bD x.L,f∈A)(hk:¬(aA x.L m).nd.kind=6)(hl:mU (aA x.L m).c (iE h (level:Int))=none)(go:gS g x (mQ k i m h level gen K))(ok:x.Ok)(hs:SF w D (xH k bx bm x dn rs) A [] (xW x) w):Calls Tryz.prog 122 #[.pointer (some ⟨bx,0,none⟩),.int .i64 i,.int .i64 m,.int .u64 (h:Int),.int .i64 (level:Int),.int .i64 gen] w (Zw g x K bx bm k dn rs D w):=by
 have hyl:=rN ok m;have hlL:=ok.lL;refine K1v ?_;simp only[cP]
 refine K0b ?_;intro x12;refine gG (hfire:=(λ _=>by((repeat (first|exact aG.nil|refine aG.cons (by first|exact cG (hq:=aW (k:=2) (vs:=[.int .i64 k.t.root,.bool k.t.ro]) rf dI dR rfl rfl)|exact bY) ?_));done))) (h:=λ x14=>?_);refine pD (h:=λ _=>?_);refine K0n ?_;intro x48 h48 x17;refine bA (λ c51=>?_) (λ c51=>?_)
 ·exact absurd c51 hk
 ·have g0:=h48.1.to (λ _=>if_neg hk);have g1:=K8 g0 (by rw[hl];rfl);refine K0v ?_;intro x91;refine vE ?_;refine aB ?_;refine bQ ?_;refine aT (λ x23=>?_);refine J5 ?_;refine vP ?_;refine aS (cV (hc:=λ w1 hw=>ui (v:=(aA x.L m)) h48.2 hl (ok.sR hw hA m))) (λ x99=>?_);refine K0d ?_;refine J8 ?_;refine B8 ?_;refine aJ ?_;(refine aJ ?_);(refine aJ ?_);refine J87 ?_;refine aK ?_;refine bA (λ c109=>?_) (λ c109=>?_)
  ·exact nv c109
  ·refine Cg ?_;refine aJ ?_;(refine aJ ?_);(refine aJ ?_);refine J81 ?_;(refine aJ ?_);refine cI ?_;refine vE ?_;refine aD (cM (hs:=xH k bx bm x dn rs) (os:=xW x) (hc:=λ w hs=>gE 0 (by decide) ok hs)) (λ x122 h122=>?_);refine cJ ?_;refine Ke4 ?_;refine lA ?_;refine bA (λ c125=>?_) (λ c125=>?_)
   ·refine dM ?_;refine gX ?_;refine K2h ?_;intro x129 h129;refine bA (λ c130=>?_) (λ c130=>?_)
    ·have g2:=g1.to (λ _=>if_neg (show ¬oA k false 0=true from by simpa using c130));refine K2k ?_;intro x133 w hw;exact⟨(jV false 0,1,x,[]),rfl,⟨g2,ok,by simp,Nat.le_refl _,bT _⟩,hw.aQ (hF:=by exact aP.nil)⟩
    ·have g2:=g1.to (λ _=>if_pos (show oA k false 0=true from by simpa using c130));refine mZ ?_;refine J2 ?_;refine zA ?_;refine J1 ?_;refine bA (λ c134=>?_) (λ c134=>?_)
     ·refine aV ?_;refine eN [28,29,137,138,139,140,141,142,143,144,145] (λ z:Nat×(Int×XS×List aI)×(Option Addr×Nat)×Nd=>[(28,.pointer (some ⟨z.1,0,none⟩))]) (λ z=>Nx g x z.2.1.2.1 z.2.1.2.2 (.alloc (yf (aA x.L m).c (iE h (level:Int)) z.2.1.1) m λ r=>oP k.t i m r λ ok=>K (rU false 0) (if ok=true then 1 else 0)) z.2.1.1/\z.2.2.2=nB (Zu (aA x.L m) (iE h (level:Int)) z.2.1.1) z.2.2.1) (λ z=>[(z.1,.cells ⟨z.2.2.2.cells⟩ 77 (0,0)),(x23,.cells ⟨({Nd.zero with kind:=4,hash:=(h:Int),key:=k.key,val:=k.val}:Nd).cells⟩ 77 (0,0)),(x17,.cells ⟨(aA x.L m).nd.cells⟩ 77 (0,0)),(x14,.cells ⟨[.int .i64 k.t.root,.bool k.t.ro]⟩ 29 (0,0)),(x12,.cells ⟨Rs.zero.cells⟩ 68 (0,0)),(bx,xO k bm z.2.1.2.1 dn rs),(bm,xM z.2.1.2.1)]) (λ z=>(z.2.2.1.1,aH (mK (Zu (aA x.L m) (iE h (level:Int)) z.2.1.1)))::(bD z.2.1.2.2++[])) (λ z=>xW z.2.1.2.1) (by decide) (λ _=>by exact rfl) ?_ (λ z f hx=>?_)
      ·refine fY (.one 0 [] (.one 1 [] (.one 2 [] (.one 3 [] (.two 4 [0] (.two 5 [] (.one 6 [] (.one 7 [] (.one 8 [] (.one 9 [0,3] (.one 10 [] (.one 11 [] .nil)))))) 0 [] (.two 9 [0,3] (.one 5 [] (.one 6 [] (.one 7 [] (.one 8 [] (.one 10 [] (.one 11 [] .nil)))))) 0 [] .nil)) 0 [] (.two 9 [0,3] (.one 4 [0] (.one 5 [] (.one 6 [] (.one 7 [] (.one 8 [] (.one 10 [] (.one 11 [] .nil))))))) 0 [] .nil)))))) ?_;refine aZ ?_;refine iJ ?_;refine aZ ?_;refine fV (E:=[4,9]) (by decide +kernel) ((.cons ?_ (.cons ?_ .nil)))
       ·refine mI (i:=4) (hq:=(cM (hs:=xH k bx bm x dn rs) (os:=xW x) (A0:=[(none,aH []),(none,dK [])]) (hc:=λ w hs=>iD hg (n:={Nd.zero with kind:=4,hash:=(h:Int),key:=k.key,val:=k.val}) (xs:=[]) (ys:=[]) 0 _ rfl rfl (by decide) (Nat.zero_le _) (Hg hh) (bT _) (g2) ok hs))) (h:=λ x142 h142=>?_);refine fV (E:=[5,9]) (by decide +kernel) ((.cons ?_ (.cons ?_ .nil)))
        ·refine mI (i:=5) (hq:=(cF (hc:=λ w1 hw=>ja (v:=(aA x.L m)) h48.2 (iE h (level:Int)) x142.1 (ok.sR hw hA m)))) (h:=λ x143 h143=>?_);refine K1z ?_;refine gG (h:=λ x28=>?_);refine K1o ?_
         ·exact⟨h142,rfl⟩
        ·refine gW (i:=9) (h:=λ x28=>?_);refine bL (i:=5) (hq:=(cF (hc:=λ w1 hw=>ja (v:=(aA x.L m)) h48.2 (iE h (level:Int)) x142.1 (ok.sR hw hA m)))) (h:=λ x143 h143=>?_);refine K1z ?_;refine K1o ?_
         ·exact⟨h142,rfl⟩
       ·refine gW (i:=9) (h:=λ x28=>?_);refine bL (i:=4) (hq:=(cM (hs:=xH k bx bm x dn rs) (os:=xW x) (A0:=[(none,aH []),(none,dK [])]) (hc:=λ w hs=>iD hg (n:={Nd.zero with kind:=4,hash:=(h:Int),key:=k.key,val:=k.val}) (xs:=[]) (ys:=[]) 0 _ rfl rfl (by decide) (Nat.zero_le _) (Hg hh) (bT _) (g2) ok hs))) (h:=λ x142 h142=>?_);refine bL (i:=5) (hq:=(cF (hc:=λ w1 hw=>ja (v:=(aA x.L m)) h48.2 (iE h (level:Int)) x142.1 (ok.sR hw hA m)))) (h:=λ x143 h143=>?_);refine K1z ?_;refine K1o ?_
        ·exact⟨h142,rfl⟩
      refine K0a ?_;obtain⟨hz,ez⟩:=hx
      have hlz:=hz.len;have hB:=aAZ ((ok.nv m).mono (Nat.le_refl _) (Nat.le_refl _) |>.mono hlz hz.lc) hz.bd (iE h (level:Int));refine aV ?_;refine dZ [(0,[]),(1,[]),(2,[]),(3,[]),(4,[]),(5,[]),(6,[]),(7,[]),(8,[2]),(9,[]),(10,[]),(11,[]),(12,[]),(13,[]),(14,[])] ?_;refine iJ ?_;refine aZ ?_;refine iJ ?_;refine Kb7 ?_;refine aL ?_;refine bL (i:=8) (hq:=(cM (hs:=xH k bx bm z.2.1.2.1 dn rs) (os:=xW z.2.1.2.1) (A0:=[(z.2.2.2.brA,aH (mK (Zu (aA x.L m) (iE h (level:Int)) z.2.1.1))),(z.2.2.2.prA,dK [])]) (hA:=by rw[ez];exact Sg) (hc:=λ w hs=>iD hg (n:=z.2.2.2) (xs:=mK (Zu (aA x.L m) (iE h (level:Int)) z.2.1.1)) (ys:=[]) m _ (by rw[ez];exact E4 _ _) (by rw[ez];exact E5 _ _) hB.len (Nat.zero_le _) (by rw[ez];exact hB.nvB _) (by omega) (by rw[ez,<- aB5 h48.2];exact hz.go) hz.ok hs))) (h:=λ x154 h154=>?_);refine bL (i:=9) (hq:=(cM (hs:=xH k bx bm x154.2.1 dn rs) (os:=xW x154.2.1) (hc:=λ w hs=>tX hg k.t i m x154.1 _ ht (by have:=h154.len;omega) h154.bd h154.go h154.ok hs))) (h:=λ x155 h155=>?_);have hch:=Ch.nx h155 (Ch.nx h154 (((Ch.base (F:=[])).nx hz).cons (f:=(z.2.2.1.1,aH (mK (Zu (aA x.L m) (iE h (level:Int)) z.2.1.1))))));have hlc:x.cs.length<=x155.2.1.cs.length:=by have:=hz.lc;have:=h154.lc;have:=h155.lc;omega
      refine cA (i:=10) (hq:=(cV (hc:=λ w1 hw=>pT _ _ _ _ w1))) (h:=λ x156=>?_);refine cS (i:=11) (hq:=(bW rf rfl)) (h:=?_);refine cS (i:=12) (hq:=(bW rf rfl)) (h:=?_);refine Cv ?_;refine bK Tryz.results122 (λ w hw=>?_);obtain⟨N,hN,hf⟩:=hch.to (t':=K (rU false 0) (if x155.1=true then 1 else 0)) h155 (h155.go) hlc (bT _)
      exact⟨(rU false 0,(if x155.1=true then 1 else 0),x155.2.1,N),rfl,hN,(hw.fN hf).zA0⟩
     ·exact nv c134
   ·exact nv c125
set_option maxRecDepth 100000 in
theorem Xp(hg:g.Ok)(i m:Int){h:Nat}(hh:h<18446744073709551616)(level:Nat)(hlv:level<=1073741824)(gen:Int)(K:Rs->Int->Tr)(ht:k.t.root<=9223372036854775807)(hi:i<=x.L.length)(hm:m<=x.L.length)(hA:∀f∈bD x.L,f∈A)(hk:¬(aA x.L m).nd.kind=6){b:Int}(hl:mU (aA x.L m).c (iE h (level:Int))=some b)(hi2:(aA x.L b).nd.kind=2)(go:gS g x (mQ k i m h level gen K))(ok:x.Ok)(hs:SF w D (xH k bx bm x dn rs) A [] (xW x) w):Calls Tryz.prog 122 #[.pointer (some ⟨bx,0,none⟩),.int .i64 i,.int .i64 m,.int .u64 (h:Int),.int .i64 (level:Int),.int .i64 gen] w (Zw g x K bx bm k dn rs D w):=by
 have hyl:=rN ok m;have hlL:=ok.lL;have hb:b<=x.L.length:=by have:=qL (ok.nv m) (iE h (level:Int));rw[hl] at this;exact this
 refine K1v ?_;simp only[cP]
 refine K0b ?_;intro x12;refine gG (hfire:=(λ _=>by((repeat (first|exact aG.nil|refine aG.cons (by first|exact cG (hq:=aW (k:=2) (vs:=[.int .i64 k.t.root,.bool k.t.ro]) rf dI dR rfl rfl)|exact bY) ?_));done))) (h:=λ x14=>?_);refine pD (h:=λ _=>?_);refine K0n ?_;intro x48 h48 x17;refine bA (λ c51=>?_) (λ c51=>?_)
 ·exact absurd c51 hk
 ·refine K1w ?_;intro g0 g1;rw[hl] at g1;refine K0r ?_;intro x91 x23 x99;refine K0d ?_;refine J8 ?_;refine B8 ?_;(refine Ka4 ?_);((refine Ka4 ?_));((refine aF ?_;refine aD (cM (hs:=xH k bx bm x dn rs) (os:=xW x) (hc:=λ w hs=>cW b _ hb g1 ok hs)) (λ x106 h106=>?_)));refine J87 ?_;refine aK ?_;refine bA (λ c109=>?_) (λ c109=>?_)
  ·have g2:=h106.1.to (λ _=>if_pos hi2);refine J0 ?_;refine bQ ?_;refine El ?_;refine bK Tryz.results122 (λ w hw=>?_);exact⟨(Rs.zero,2,x,[]),rfl,⟨g2,ok,by simp,Nat.le_refl _,bT _⟩,hw.aQ (hF:=by exact aP.nil)⟩
  ·exact absurd hi2 c109
set_option maxRecDepth 100000 in
theorem Xu(hg:g.Ok)(i m:Int){h:Nat}(hh:h<18446744073709551616)(level:Nat)(hlv:level<=1073741824)(gen:Int)(K:Rs->Int->Tr)(ht:k.t.root<=9223372036854775807)(hi:i<=x.L.length)(hm:m<=x.L.length)(hA:∀f∈bD x.L,f∈A)(hk:¬(aA x.L m).nd.kind=6){b:Int}(hl:mU (aA x.L m).c (iE h (level:Int))=some b)(hi2:¬(aA x.L b).nd.kind=2)(he:(aA x.L b).nd.key=k.key)(go:gS g x (mQ k i m h level gen K))(ok:x.Ok)(hs:SF w D (xH k bx bm x dn rs) A [] (xW x) w):Calls Tryz.prog 122 #[.pointer (some ⟨bx,0,none⟩),.int .i64 i,.int .i64 m,.int .u64 (h:Int),.int .i64 (level:Int),.int .i64 gen] w (Zw g x K bx bm k dn rs D w):=by
 have hyl:=rN ok m;have hlL:=ok.lL;have hb:b<=x.L.length:=by have:=qL (ok.nv m) (iE h (level:Int));rw[hl] at this;exact this
 refine K1v ?_;simp only[cP]
 refine K0b ?_;intro x12;refine gG (hfire:=(λ _=>by((repeat (first|exact aG.nil|refine aG.cons (by first|exact cG (hq:=aW (k:=2) (vs:=[.int .i64 k.t.root,.bool k.t.ro]) rf dI dR rfl rfl)|exact bY) ?_));done))) (h:=λ x14=>?_);refine pD (h:=λ _=>?_);refine K0n ?_;intro x48 h48 x17;refine bA (λ c51=>?_) (λ c51=>?_)
 ·exact absurd c51 hk
 ·refine K1w ?_;intro g0 g1;rw[hl] at g1;refine K0r ?_;intro x91 x23 x99;refine K0d ?_;refine J8 ?_;refine B8 ?_;(refine Ka4 ?_);((refine Ka4 ?_));((refine aF ?_;refine aD (cM (hs:=xH k bx bm x dn rs) (os:=xW x) (hc:=λ w hs=>cW b _ hb g1 ok hs)) (λ x106 h106=>?_)));refine J87 ?_;refine aK ?_;refine bA (λ c109=>?_) (λ c109=>?_)
  ·exact absurd c109 hi2
  ·have g3:=(h106.1.to (λ _=>if_neg hi2)).to (λ _=>if_pos he);refine Cg ?_;(refine Ka4 ?_);((refine Ka4 ?_));((refine aF ?_;refine aD (cM (hs:=xH k bx bm x dn rs) (os:=xW x) (hc:=λ w hs=>gE b (by omega) ok hs)) (λ x115 h115=>?_)));refine J81 ?_;((refine aF ?_;refine aE (o5 rf rf he) rfl ?_));refine cI ?_;refine vE ?_;refine aD (cM (hs:=xH k bx bm x dn rs) (os:=xW x) (hc:=λ w hs=>gE b (by omega) ok hs)) (λ x122 h122=>?_);refine cJ ?_;refine Ke4 ?_;refine lA ?_;refine bA (λ c125=>?_) (λ c125=>?_)
   ·exact nv c125
   ·refine jH ?_;refine K2h ?_;intro x129 h129;refine bA (λ c130=>?_) (λ c130=>?_)
    ·have g2:=g3.to (λ _=>if_neg (show ¬oA k true (aA x.L b).nd.val=true from by simpa using c130));refine K2k ?_;intro x133 w hw;exact⟨(jV true (aA x.L b).nd.val,1,x,[]),rfl,⟨g2,ok,by simp,Nat.le_refl _,bT _⟩,hw.aQ (hF:=by exact aP.nil)⟩
    ·have g2:=g3.to (λ _=>if_pos (show oA k true (aA x.L b).nd.val=true from by simpa using c130));refine mZ ?_;refine J2 ?_;refine zA ?_;refine J1 ?_;refine bA (λ c134=>?_) (λ c134=>?_)
     ·exact nv c134
     ·refine Ka5 ?_;refine bA (λ c159=>?_) (λ c159=>?_)
      ·refine aV ?_;refine dZ [(0,[]),(1,[]),(2,[]),(3,[]),(4,[]),(5,[]),(6,[]),(7,[]),(8,[]),(9,[]),(13,[]),(10,[2]),(11,[2]),(12,[]),(14,[]),(15,[]),(16,[]),(17,[]),(18,[])] ?_;refine iJ ?_;refine aZ ?_;refine iJ ?_;refine iJ ?_;refine iJ ?_;refine aZ ?_;refine aL ?_;refine bL (i:=10) (hq:=(cM (hs:=xH k bx bm x dn rs) (os:=xW x) (A0:=[(none,aH []),(none,dK [])]) (hc:=λ w hs=>iD hg (n:={Nd.zero with kind:=4,hash:=(h:Int),key:=k.key,val:=k.val}) (xs:=[]) (ys:=[]) 0 _ rfl rfl (by decide) (Nat.zero_le _) (Hg hh) (bT _) (g2) ok hs))) (h:=λ x171 h171=>?_);have hch:=(Ch.base (F:=[])).nx h171;refine bL (i:=11) (hq:=(cM (hs:=xH k bx bm x171.2.1 dn rs) (os:=xW x171.2.1) (A0:=bD x171.2.1.L) (hA:=Ch.all hch hA) (hc:=λ w hs=>Cs hg m (iE h (level:Int)) x171.1 _ (by have:=h171.len;omega) h171.bd (λ f hf=>hf) h171.go h171.ok hs))) (h:=λ x172 h172=>?_);refine bL (i:=12) (hq:=(cM (hs:=xH k bx bm x172.2.1 dn rs) (os:=xW x172.2.1) (hc:=λ w hs=>tX hg k.t i m x172.1 _ ht (by have:=h171.len;have:=h172.len;omega) h172.bd h172.go h172.ok hs))) (h:=λ x173 h173=>?_);have hch2:=Ch.nx h173 (Ch.nx h172 hch);have hlc:x.cs.length<=x173.2.1.cs.length:=by have:=h171.lc;have:=h172.lc;have:=h173.lc;omega
       refine cA (i:=14) (hq:=(cV (hc:=λ w1 hw=>pT _ _ _ _ w1))) (h:=λ x175=>?_);refine cS (i:=15) (hq:=(bW rf rfl)) (h:=?_);refine cS (i:=16) (hq:=(bW rf rfl)) (h:=?_);refine Cv ?_;refine bK Tryz.results122 (λ w hw=>?_);obtain⟨N,hN,hf⟩:=hch2.to (t':=K (rU true (aA x.L b).nd.val) (if x173.1=true then 1 else 0)) h173 (h173.go) hlc (bT _)
       exact⟨(rU true (aA x.L b).nd.val,(if x173.1=true then 1 else 0),x173.2.1,N),rfl,hN,(hw.fN hf).zA0⟩
      ·exact nv c159
set_option maxRecDepth 100000 in
theorem Zp(hg:g.Ok)(i m:Int){h:Nat}(hh:h<18446744073709551616)(level:Nat)(hlv:level<=1073741824)(gen:Int)(K:Rs->Int->Tr)(ht:k.t.root<=9223372036854775807)(hi:i<=x.L.length)(hm:m<=x.L.length)(hA:∀f∈bD x.L,f∈A)(hk:¬(aA x.L m).nd.kind=6){b:Int}(hl:mU (aA x.L m).c (iE h (level:Int))=some b)(hi2:¬(aA x.L b).nd.kind=2)(he:¬(aA x.L b).nd.key=k.key)(go:gS g x (mQ k i m h level gen K))(ok:x.Ok)(hs:SF w D (xH k bx bm x dn rs) A [] (xW x) w):Calls Tryz.prog 122 #[.pointer (some ⟨bx,0,none⟩),.int .i64 i,.int .i64 m,.int .u64 (h:Int),.int .i64 (level:Int),.int .i64 gen] w (Zw g x K bx bm k dn rs D w):=by
 have hyl:=rN ok m;have hlL:=ok.lL;have hb:b<=x.L.length:=by have:=qL (ok.nv m) (iE h (level:Int));rw[hl] at this;exact this
 refine K1v ?_;simp only[cP]
 refine K0b ?_;intro x12;refine gG (hfire:=(λ _=>by((repeat (first|exact aG.nil|refine aG.cons (by first|exact cG (hq:=aW (k:=2) (vs:=[.int .i64 k.t.root,.bool k.t.ro]) rf dI dR rfl rfl)|exact bY) ?_));done))) (h:=λ x14=>?_);refine pD (h:=λ _=>?_);refine K0n ?_;intro x48 h48 x17;refine bA (λ c51=>?_) (λ c51=>?_)
 ·exact absurd c51 hk
 ·refine K1w ?_;intro g0 g1;rw[hl] at g1;refine K0r ?_;intro x91 x23 x99;refine K0d ?_;refine J8 ?_;refine B8 ?_;(refine Ka4 ?_);((refine Ka4 ?_));((refine aF ?_;refine aD (cM (hs:=xH k bx bm x dn rs) (os:=xW x) (hc:=λ w hs=>cW b _ hb g1 ok hs)) (λ x106 h106=>?_)));refine J87 ?_;refine aK ?_;refine bA (λ c109=>?_) (λ c109=>?_)
  ·exact absurd c109 hi2
  ·have g3:=(h106.1.to (λ _=>if_neg hi2)).to (λ _=>if_neg he);refine Cg ?_;(refine Ka4 ?_);((refine Ka4 ?_));((refine aF ?_;refine aD (cM (hs:=xH k bx bm x dn rs) (os:=xW x) (hc:=λ w hs=>gE b (by omega) ok hs)) (λ x115 h115=>?_)));refine J81 ?_;((refine aF ?_;refine aE (ov rf rf he) rfl ?_));refine cI ?_;refine vE ?_;refine aD (cM (hs:=xH k bx bm x dn rs) (os:=xW x) (hc:=λ w hs=>gE b (by omega) ok hs)) (λ x122 h122=>?_);refine cJ ?_;refine Ke4 ?_;refine lA ?_;refine bA (λ c125=>?_) (λ c125=>?_)
   ·refine dM ?_;refine gX ?_;refine K2h ?_;intro x129 h129;refine bA (λ c130=>?_) (λ c130=>?_)
    ·have g2:=g3.to (λ _=>if_neg (show ¬oA k false 0=true from by simpa using c130));refine K2k ?_;intro x133 w hw;exact⟨(jV false 0,1,x,[]),rfl,⟨g2,ok,by simp,Nat.le_refl _,bT _⟩,hw.aQ (hF:=by exact aP.nil)⟩
    ·have g2:=g3.to (λ _=>if_pos (show oA k false 0=true from by simpa using c130));refine mZ ?_;refine J2 ?_;refine zA ?_;refine J1 ?_;refine bA (λ c134=>?_) (λ c134=>?_)
     ·exact nv c134
     ·refine Ka5 ?_;refine bA (λ c159=>?_) (λ c159=>?_)
      ·exact nv c159
      ·refine kN ?_;refine jJ ?_;refine bQ ?_;refine pK ?_;refine pK ?_;refine He ?_;refine aB ?_;refine aD (cM (hs:=xH k bx bm x dn rs) (os:=xW x) (hc:=λ w hs=>zb hg b hh (level+1) gen _ hb g2 ok hs)) (λ x187 h187=>?_);refine aD (cM (hs:=xH k bx bm x187.2.1 dn rs) (os:=xW x187.2.1) (A0:=[(none,aH []),(none,dK [])]) (hc:=λ w hs=>iD hg (n:={Nd.zero with kind:=2,gen:=gen}) (xs:=[]) (ys:=[]) x187.1 _ rfl rfl (by decide) (Nat.zero_le _) sH h187.bd h187.go h187.ok hs)) (λ x188 h188=>?_);have hch:=Ch.nx h188 ((Ch.base (F:=[])).nx h187);refine gX ?_;refine dZ [(0,[]),(1,[]),(2,[]),(3,[]),(4,[]),(5,[]),(6,[]),(7,[]),(8,[]),(9,[2]),(10,[]),(11,[]),(12,[]),(13,[]),(14,[]),(15,[])] ?_;refine iJ ?_;refine aZ ?_;refine iJ ?_;refine iJ ?_;refine iJ ?_;refine bL (i:=9) (hq:=(cM (hs:=xH k bx bm x188.2.1 dn rs) (os:=xW x188.2.1) (A0:=bD x188.2.1.L) (hA:=Ch.all hch hA) (hc:=λ w hs=>Cs hg m (iE h (level:Int)) x188.1 _ (by have:=h187.len;have:=h188.len;omega) h188.bd (λ f hf=>hf) h188.go h188.ok hs))) (h:=λ x198 h198=>?_);refine bL (i:=10) (hq:=(cM (hs:=xH k bx bm x198.2.1 dn rs) (os:=xW x198.2.1) (hc:=λ w hs=>tX hg k.t i m x198.1 _ ht (by have:=h187.len;have:=h188.len;have:=h198.len;omega) h198.bd h198.go h198.ok hs))) (h:=λ x199 h199=>?_);have hch2:=Ch.nx h199 (Ch.nx h198 hch);have hlc:x.cs.length<=x199.2.1.cs.length:=by have:=h187.lc;have:=h188.lc;have:=h198.lc;have:=h199.lc;omega
       refine cA (i:=11) (hq:=(cV (hc:=λ w1 hw=>pT _ _ _ _ w1))) (h:=λ x200=>?_);refine cS (i:=12) (hq:=(bW rf rfl)) (h:=?_);refine cS (i:=13) (hq:=(bW rf rfl)) (h:=?_);refine Cv ?_;refine bK Tryz.results122 (λ w hw=>?_);obtain⟨N,hN,hf⟩:=hch2.to (t':=K (rU false 0) (if x199.1=true then 1 else 0)) h199 (h199.go) hlc (bT _)
       exact⟨(rU false 0,(if x199.1=true then 1 else 0),x199.2.1,N),rfl,hN,(hw.fN hf).zA0⟩
   ·exact nv c125
theorem Zi(hg:g.Ok)(i m:Int){h:Nat}(hh:h<18446744073709551616)(level:Nat)(hlv:level<=1073741824)(gen:Int)(K:Rs->Int->Tr)(ht:k.t.root<=9223372036854775807)(hi:i<=x.L.length)(hm:m<=x.L.length)(hA:∀f∈bD x.L,f∈A)(go:gS g x (mQ k i m h level gen K))(ok:x.Ok)(hs:SF w D (xH k bx bm x dn rs) A [] (xW x) w):Calls Tryz.prog 122 #[.pointer (some ⟨bx,0,none⟩),.int .i64 i,.int .i64 m,.int .u64 (h:Int),.int .i64 (level:Int),.int .i64 gen] w (Zw g x K bx bm k dn rs D w):=by
 by_cases hk:(aA x.L m).nd.kind=6
 ·exact X5 hg i m hh level hlv gen K ht hi hm hA hk go ok hs
 ·cases hl:mU (aA x.L m).c (iE h (level:Int)) with
  | none=>exact Ze hg i m hh level hlv gen K ht hi hm hA hk hl go ok hs
  | some b =>
   by_cases hi2:(aA x.L b).nd.kind=2
   ·exact Xp hg i m hh level hlv gen K ht hi hm hA hk hl hi2 go ok hs
   ·by_cases he:(aA x.L b).nd.key=k.key
    ·exact Xu hg i m hh level hlv gen K ht hi hm hA hk hl hi2 he go ok hs
    ·exact Zp hg i m hh level hlv gen K ht hi hm hA hk hl hi2 he go ok hs
end
end Go.Proofs.YtadnboagdhcedaaGreatDoor

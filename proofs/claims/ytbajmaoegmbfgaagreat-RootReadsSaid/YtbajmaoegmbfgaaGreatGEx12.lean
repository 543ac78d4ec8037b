/- Executions of the reference: CLEAN. -/
import Derived.Test.YtbajmaoegmbfgaaGreatGEx10
import Derived.Test.YtbajmaoegmbfgaaGreatGVw1
import Derived.Test.YtbajmaoegmbfgaaGreatGAutoD

set_option linter.unusedSimpArgs false
set_option linter.unusedVariables false
namespace Go.Proofs.YtbajmaoegmbfgaaGreat
section
open Go Go.RowKit Go.Ct
section
variable{k:Cl}{bx bm:Nat}{x:XS}{dn:Bool}{rs:Rs}{D:List Nat}{A:Fr}{w:World}{g:Gx}
theorem Kf(hg:g.Ok)(t:gY)(p c:Int){h:Nat}(hh:h<18446744073709551616)(level:Int)(K:Bool->Tr)(ht:t.root<=9223372036854775807)(hp:p<=x.L.length)(hc:c<=x.L.length)(hA:∀f∈aR x.L,f∈A)(go:gL g x (zG t p c h level K))(ok:x.Ok)(hs:SF w D (xH k bx bm x dn rs) A [] (xW x) w):Calls Tryz.prog 182 #[.pointer (some ⟨bx,0,none⟩),Mg t,.int .i64 p,.int .i64 c,.int .u64 (h:Int),.int .i64 level] w λ e w'=>∃q:Bool×XS×List aX,e=.returned (.bool q.1)/\Nx g x q.2.1 q.2.2 (K q.1) 0/\SF w D (xH k bx bm q.2.1 dn rs) [] (aR q.2.2) (xW q.2.1) w':=by
  refine enter Tryz.func182 Tryz.ntmps182 rfl rfl (cK hs) ?_
  simp only[cN]
  simp only[Mg]
  all_goals (refine J0 ?_;refine bW (λ x7=>?_);refine J1 ?_;refine J2 ?_;refine bX ?_;refine aA ?_;refine aC (cM (hs:=xH k bx bm x dn rs) (os:=xW x) (hc:=λ w hs=>oK hg t p _ ht hp go ok hs)) (λ x25 h25=>?_))
  all_goals
   have hch:=(Ch.base (F:=[])).nx h25
   have hl25:=h25.len
  all_goals (refine xT ?_;refine aY (cV (hc:=λ w1 hw=>fU hh level w1)) (λ x28=>?_);refine jM ?_;refine jN ?_;refine aC (cM (hs:=xH k bx bm x25.2.1 dn rs) (os:=xW x25.2.1) (hc:=λ w hs=>cR x25.1 _ h25.bd h25.go h25.ok hs)) (λ x32 h32=>?_);refine aA ?_;refine aY (cV (hc:=λ w1 hw=>Ij (v:=aD x25.2.1.L x25.1) h32.2 (gZ h level) (hw.Zp hch hA h25.ok x25.1))) (λ x34=>?_);refine aA ?_;refine aB (bU rf rfl) rfl ?_;refine aB (bU rf rfl) rfl ?_;refine J8 ?_;refine kY ?_;refine aA ?_)
  all_goals ((refine fS 41 (λ g41=>?_) (λ g41=>?_)<;>(first|refine aN ?_|(refine aF ?_;refine aA ?_))))
  all_goals (refine Sg ?_;refine aA ?_)
  all_goals (first|refine aN ?_|(refine fS 45 (λ g45=>?_) (λ g45=>?_)<;>(first|refine aN ?_|(refine aF ?_;refine aA ?_))))
  all_goals ((first|refine aN ?_|(refine aF ?_;refine aA ?_));refine Sj ?_;refine aH ?_)
  all_goals
   refine bG (λ c49=>?_) (λ c49=>?_)
   · all_goals refine dC ?_
     all_goals
      refine aU Tryz.results182 (λ w hw=>?_)
      obtain⟨N,hN,hf⟩:=hch.to (t':=K false) h25 (by first|exact h32.1.cA (by assumption)|exact h32.1.to (λ _=>if_neg (ju (by assumption)))|exact h32.1.to (λ _=>if_neg (mj (by assumption)))) h25.lc (bM _)
      exact⟨(false,x25.2.1,N),rfl,hN,(hw.dY hf).aS (hF:=by exact aV.all)⟩
   · try exact nv c49
     all_goals
      have g1:=h32.1.to (λ _=>if_pos (td (by assumption) (by assumption)))
     all_goals (refine Ck ?_;refine bX ?_;refine aA ?_;refine aC (cM (hs:=xH k bx bm x25.2.1 dn rs) (os:=xW x25.2.1) (hc:=λ w hs=>oK hg t c _ ht (by omega) g1 h25.ok hs)) (λ x55 h55=>?_))
     all_goals
      have hch2:=Ch.nx h55 hch
      have hl55:=h55.len
     all_goals (refine aC (cM (hs:=xH k bx bm x55.2.1 dn rs) (os:=xW x55.2.1) (hc:=λ w hs=>cR x55.1 _ h55.bd h55.go h55.ok hs)) (λ x56 h56=>?_);refine aY (cV (hc:=λ w1 hw=>H3 (aD x55.2.1.L x55.1).nd w1)) (λ x57=>?_);refine aA ?_;refine aB (bU rf rfl) rfl ?_;refine aB (bU rf rfl) rfl ?_;refine aJ (λ x17=>?_);refine jD (λ _=>?_);refine jM ?_;refine kY ?_;refine aA ?_)
     all_goals ((refine fS 64 (λ g64=>?_) (λ g64=>?_)<;>(first|refine aN ?_|(refine aF ?_;refine aA ?_))))
     all_goals (refine Sg ?_;refine aH ?_)
     all_goals
      refine bG (λ c67=>?_) (λ c67=>?_)
      · all_goals refine dC ?_
        all_goals
         refine aU Tryz.results182 (λ w hw=>?_)
         obtain⟨N,hN,hf⟩:=hch2.to (t':=K false) h55 (by first|exact h56.1.cA (by assumption)|exact h56.1.to (λ _=>if_neg (show ¬(aD x55.2.1.L x55.1).c.kind=5 from by first|assumption|simpa using ‹_›))) (by have:=h25.lc;have:=h55.lc;omega) (bM _)
         exact⟨(false,x55.2.1,N),rfl,hN,(hw.dY hf).aS (hF:=by exact aV.all)⟩
      · try exact nv c67
        all_goals
         have g2:=h56.1.to (λ _=>if_pos (show(aD x55.2.1.L x55.1).c.kind=5 from by first|assumption|simpa using ‹_›))
        all_goals (refine bD ?_;refine J2 ?_;refine bX ?_;refine aC (cM (hs:=xH k bx bm x55.2.1 dn rs) (os:=xW x55.2.1) (A0:=[((Hf (aD x55.2.1.L x55.1).nd).brA,aG []),((Hf (aD x55.2.1.L x55.1).nd).prA,dW [])]) (hA:=.cons (.inl rfl) (.cons (.inl rfl) .nil)) (hc:=λ w hs=>gX hg (n:=Hf (aD x55.2.1.L x55.1).nd) (xs:=[]) (ys:=[]) 0 _ (ic _).1 (ic _).2 (by decide) (Nat.zero_le _) (th h56.2.hash) (bM _) (by rw[yk (xs:=(aD x55.2.1.L x55.1).xs) (ys:=(aD x55.2.1.L x55.1).ys)];exact g2) h55.ok hs)) (λ x70 h70=>?_))
        all_goals
         have hch3:=Ch.nx h70 hch2
         have hl70:=h70.len
         have hb25:=h25.bd
        all_goals (refine xT ?_;refine aC (cM (hs:=xH k bx bm x70.2.1 dn rs) (os:=xW x70.2.1) (hc:=λ w hs=>cR x25.1 _ (by omega) h70.go h70.ok hs)) (λ x74 h74=>?_);refine qA ?_;refine aC (cF (hc:=λ w1 hw=>ry (v:=aD x70.2.1.L x25.1) h74.2 (gZ h level) x70.1 (hw.Zp hch3 hA h70.ok x25.1))) (λ x77 h77=>?_))
        all_goals
         have hB:=Yr h74.2 h70.bd (gZ h level)
         have hch4:=hch3.cons (f:=(x77.1,aG (lZ (Ps (aD x70.2.1.L x25.1) (gZ h level) x70.1))))
        all_goals (refine aA ?_;refine aB (bU rf rfl) rfl ?_;refine aB (bU rf rfl) rfl ?_;refine aJ (λ x20=>?_);refine jD (λ _=>?_);refine jM ?_;refine dX [(0,[]),(1,[]),(2,[]),(3,[]),(4,[]),(5,[]),(6,[]),(7,[]),(9,[]),(8,[1]),(10,[1]),(11,[]),(12,[])] ?_;refine aQ ?_;refine bR ?_;refine iP ?_;refine aQ ?_;refine bR ?_;refine aQ ?_;refine bR ?_;refine aQ ?_;refine cL (i:=8) (hq:=(cV (hc:=λ w1 hw=>S6 hB level (Hf (aD x55.2.1.L x55.1).nd) (hw.cl (.new .head))))) (h:=λ x88=>?_);refine bA (i:=10) (hq:=(cM (hs:=xH k bx bm x70.2.1 dn rs) (os:=xW x70.2.1) (A0:=[((Ng (Ps (aD x70.2.1.L x25.1) (gZ h level) x70.1) x77 level (Hf (aD x55.2.1.L x55.1).nd)).brA,aG (We (Ps (aD x70.2.1.L x25.1) (gZ h level) x70.1) x77 level (Hf (aD x55.2.1.L x55.1).nd))),((Ng (Ps (aD x70.2.1.L x25.1) (gZ h level) x70.1) x77 level (Hf (aD x55.2.1.L x55.1).nd)).prA,dW [])]) (hA:=rm) (hc:=λ w hs=>gX hg (n:=Ng (Ps (aD x70.2.1.L x25.1) (gZ h level) x70.1) x77 level (Hf (aD x55.2.1.L x55.1).nd)) (xs:=We (Ps (aD x70.2.1.L x25.1) (gZ h level) x70.1) x77 level (Hf (aD x55.2.1.L x55.1).nd)) (ys:=[]) x25.1 _ (Y0 _ _ _) (az _ _ _) (S4 hB _ _ _) (Nat.zero_le _) (Tt hB _ _ (Nr h56.2.hash)) (by omega) (by rw[<- rq,<- xl h74.2,yk (xs:=(aD x55.2.1.L x55.1).xs) (ys:=(aD x55.2.1.L x55.1).ys)];exact h74.1) h70.ok hs))) (h:=λ x90 h90=>?_);refine bA (i:=11) (hq:=(cM (hs:=xH k bx bm x90.2.1 dn rs) (os:=xW x90.2.1) (hc:=λ w hs=>sO hg t p x25.1 x90.1 _ ht (by have:=h90.len;omega) (by have:=h90.bd;omega) h90.go h90.ok hs))) (h:=λ x91 h91=>?_))
        all_goals
         have hch5:=Ch.nx h91 (Ch.nx h90 hch4)
         have hlc:x.cs.length<=x91.2.1.cs.length:=by have:=h25.lc;have:=h55.lc;have:=h70.lc;have:=h90.lc;have:=h91.lc;omega
        all_goals refine J7 ?_
        all_goals
         refine aU Tryz.results182 (λ w hw=>?_)
         obtain⟨N,hN,hf⟩:=hch5.to (t':=K x91.1) h91 h91.go hlc (bM _)
         exact⟨(x91.1,x91.2.1,N),rfl,hN,(hw.dY hf).aS (hF:=by exact aV.all)⟩
end
end

/- Hash values of keys. -/
end Go.Proofs.YtbajmaoegmbfgaaGreat
namespace Go.Ct
section
open Go Go.RowKit
def zq(s:ByteArray)(i:Nat):Nat:=(s.data.getD i 0).toNat
theorem fx(s:ByteArray)(i:Nat):zq s i<256:=(s.data.getD i 0).toNat_lt
def hsN(s:ByteArray):Nat->Nat
 | 0=>14695981039346656037
 | i+1=>((hsN s i ^^^ zq s i)*1099511628211)%18446744073709551616
theorem Q4(s:ByteArray):∀i,hsN s i<18446744073709551616
 | 0=>by show 14695981039346656037<18446744073709551616;decide
 | _+1=>Nat.mod_lt _ (by decide)
def mR(s:ByteArray)(m:Nat):Nat:=hsN s s.size &&& m
theorem sU(s:ByteArray)(m:Nat):mR s m<18446744073709551616:=Nat.lt_of_le_of_lt Nat.and_le_left (Q4 s _)
section
variable{P:Program}{S:List (Nat×Value)}{G:World->Prop}{d:Nat}{ty t t':TypeId}{pos:String}{af:Array Edge}{gd:Option (Nat×Bool)}{x y:Operand}{a b i:Nat}{s:ByteArray}
theorem ua(hx:ev S x=.string s)(hy:ev S y=.int .i64 (i:Int))(ht:P.underlying t=some .string)(h:i<s.size):aP P S G ⟨some d,.index t x y,ty,pos,af,gd⟩ (.int .u8 (zq s i:Int)):=⟨λ w _=>by
 have e:(s[((i:Nat):Int).toNat]'(by simpa using h)).toNat=zq s i:=by
  unfold zq
  rw[Array.getD_eq_getD_getElem?,Array.getElem?_eq_getElem (by simpa using h)]
  rfl
 simp only[execOp,hx,hy,Sem.run_bind]
 rw[run_index_string w t s .i64 i ht,dif_pos ⟨bM _,by omega⟩,e]
 rfl⟩
theorem se(hx:ev S x=.int .u64 (a:Int))(hy:ev S y=.int .u64 (b:Int))(ha:a<18446744073709551616)(hb:b<18446744073709551616):aP P S G ⟨some d,.binOp .xor t x y t',ty,pos,af,gd⟩ (.int .u64 ((a ^^^ b:Nat):Int)):=by
 have:=yy (P:=P) (G:=G) (d:=d) (ty:=ty) (pos:=pos) (af:=af) (gd:=gd) (t:=t) (t':=t') hx hy
 rwa [Yy ha hb] at this
theorem vo(hx:ev S x=.int .u64 (a:Int))(hy:ev S y=.int .u64 (b:Int)):aP P S G ⟨some d,.binOp .mul t x y t',ty,pos,af,gd⟩ (.int .u64 ((a*b%18446744073709551616:Nat):Int)):=by
 have:=zx (P:=P) (G:=G) (d:=d) (ty:=ty) (pos:=pos) (af:=af) (gd:=gd) (t:=t) (t':=t') hx hy
 have e:IntKind.u64.wrap ((a:Int)*(b:Int))=((a*b%18446744073709551616:Nat):Int):=by
  rw[<- Int.natCast_mul,wrap_u64]
  generalize a*b=q
  omega
 rwa [e] at this
end
end
end Go.Ct
namespace Go.Proofs.YtbajmaoegmbfgaaGreat
section
open Go Go.RowKit Go.Ct
theorem W4(key:ByteArray){m:Nat}(hm:m<18446744073709551616)(hk:key.size<=4611686018427387903)(w:World):Calls Tryz.prog 222 #[.string key,.int .u64 (m:Int)] w λ e w'=>e=.returned (.int .u64 ((mR key m:Nat):Int))/\St w [] [] w':=by
 refine enter Tryz.func222 Tryz.ntmps222 rfl rfl (SF.s0 w) ?_
 simp only[cN]
 all_goals (refine dC ?_;refine H5 ?_;refine Hu ?_)
 all_goals
 refine fZ [5,6,7,8,9,10,11,12,13,14,15,16,17,18,19] (λ y:Nat=>[(6,.int .i64 ((y:Nat):Int)),(5,.int .u64 ((hsN key y:Nat):Int))]) (λ y=>y<=key.size) (λ y=>key.size-y) (0) (Nat.zero_le _) ?_ (λ y f hx=>?_)
 ·repeat (first|exact bK _|refine bC (by first|exact rfl|(conv=>{lhs;whnf};simp;done)) ?_)
 dsimp only[iL,List.map,List.cons_append,List.nil_append]
 all_goals (refine Dz ?_;refine mL ?_;refine yQ ?_)
 all_goals
  refine bG (λ c10=>?_) (λ c10=>?_)
  ·all_goals (refine qD ?_;refine zK ?_;refine qA ?_;refine aY (iN (ua (s:=key) (i:=y) rf rf (by kernel_rfl) (by omega))) (λ x16=>?_);refine aB (U5 (k2:=.u8) rf (by kernel_rfl) (by exact vR rfl) ⟨bM _,by have:=fx key y;omega⟩) rfl ?_;refine aB (se rf rf (Q4 _ _) (by have:=fx key y;omega)) rfl ?_;refine aB (vo rf rf) rfl ?_;refine J1 ?_;refine fT ?_;refine zL ?_)
   all_goals
   refine eU (y+1) ?_ ?_ ?_
   ·first|omega|(simp only[];omega)
   ·repeat' (first|exact bK _|refine bC ?_ ?_)
    all_goals (first|exact rfl|(conv=>{lhs;whnf};simp;done)|(conv=>{lhs;whnf};congr 1;omega))
   ·omega
  ·all_goals (refine bV rfl ?_;refine jN ?_;refine aB (s5 rf rf (Q4 _ _) hm) rfl ?_;refine J1 ?_)
   all_goals
   refine aU Tryz.results222 (λ w hw=>?_)
   have hy:y=key.size:=by omega
   subst hy
   exact⟨rfl,hw.done⟩
theorem nN(key:ByteArray)(w:World):Calls Tryz.prog 208 #[.string key] w λ e w'=>e=.returned (.bool (decide (key.size<=64)))/\St w [] [] w':=by
 refine enter Tryz.func208 Tryz.ntmps208 rfl rfl (SF.s0 w) ?_
 simp only[cN]
 all_goals (refine dC ?_;refine J2 ?_;refine mL ?_;refine zO ?_;refine J1 ?_)
 all_goals
 refine aU Tryz.results208 (λ w hw=>?_)
 exact⟨by rw[show decide (key.size<=64)=decide ((key.size:Int)<=64) from decide_eq_decide.2 (by omega)];rfl,hw.done⟩
theorem gT(f:Bool)(v:Int)(w:World):Calls Tryz.prog 223 #[.bool f,.int .u64 v] w λ e w'=>e=.returned (.agg ⟨(Rs.mk 0 f v ⟨#[]⟩ 0 0 0 false).cells⟩)/\St w [] [] w':=by
 refine enter Tryz.func223 Tryz.ntmps223 rfl rfl (SF.s0 w) ?_
 simp only[cN]
 all_goals (refine J0 ?_;refine aJ (λ x4=>?_);refine aH ?_;refine jN ?_;refine wJ ?_)
 all_goals
 refine bE Tryz.results223 (λ w hw=>?_)
 exact⟨rfl,hw.done⟩
end

/- Executions of the reference: FIND. -/
end Go.Proofs.YtbajmaoegmbfgaaGreat
namespace Go.Ct
section
open Go Go.RowKit
theorem Nx.ch{g:Gx}{x X:XS}{N:List aX}{t:Tr}{b:Int}(h:Nx g x X N t b):Ch x X (aR N):=⟨N,h.ext,λ _ hf=>.inr hf⟩
theorem fQ{a b:List aX}:∀f∈aR (a++b),f.2=[]∨f∈aR b++aR a:=λ f hf=>by
 rw[eI] at hf
 rcases List.mem_append.1 hf with h|h
 ·exact .inr (List.mem_append_right _ h)
 ·exact .inr (List.mem_append_left _ h)
theorem XS.Ok.ysl{x:XS}(h:x.Ok)(r:Int):(aD x.L r).ys.length<=1099511627775:=by
 have h1:=h.lL
 unfold aD
 split
 ·have:=h.ys _ (iU (L:=x.L) (k:=(r-1).toNat) (by omega));omega
 ·exact Nat.zero_le _
theorem sN{g:Gx}{x:XS}{o:Option Int}{T:Tr}{B:Int->Tr}(h:gL g x (match o with|none=>T|some b=>B b))(hs:o.isSome=true):gL g x (B (o.getD 0)):=by
 cases o with
 | none=>cases hs
 | some b=>exact h
theorem Kv{g:Gx}{x:XS}{o:Option Int}{T:Tr}{B:Int->Tr}(h:gL g x (match o with|none=>T|some b=>B b))(hs:o.isSome=false):gL g x T:=by
 cases o with
 | none=>exact h
 | some b=>cases hs
theorem gL.kB{g:Gx}{x:XS}{n:Nat}{T:Nat->Tr}(h:gL g x (T n))(hs:x.st=false)(h0:T 0=.stuck)(hg:g.Ok):∃f,n=f+1/\gL g x (T (f+1)):=by
 cases n with
 | zero=>rw[h0] at h;exact((h.run hs).W2 hg).elim
 | succ f=>exact⟨f,rfl,h⟩
end
end Go.Ct
namespace Go.Proofs.YtbajmaoegmbfgaaGreat
section
open Go Go.RowKit Go.Ct
theorem nK{key:ByteArray}{mask:Int}{m:Nat}(e:mask=(m:Int))(hm:m<18446744073709551616)(hk:key.size<=64)(w:World):Calls Tryz.prog 222 #[.string key,.int .u64 mask] w λ e w'=>e=.returned (.int .u64 ((mR key m:Nat):Int))/\St w [] [] w':=by
 subst e
 exact W4 key hm (by omega) w
theorem Kc{v:aX}{n:Nat}{w:World}(k:ByteArray)(hr:rK w v.nd v.xs v.ys)(hy:v.ys.length<=1099511627775):Calls Tryz.prog 60 #[.slice v.nd.prA v.nd.prN v.nd.dW,.string k] w λ e w'=>e=.returned (.tuple #[.int .u64 ((eN v.c.ys k).getD 0),.bool (eN v.c.ys k).isSome])/\St w [] [] w':=by
 rw[hr.prN]
 exact Jm k hr.pr hy
section
variable{k:Cl}{bx bm:Nat}{x:XS}{dn:Bool}{rs:Rs}{D:List Nat}{A:Fr}{w:World}{g:Gx}
set_option maxRecDepth 100000 in
theorem uw(hg:g.Ok){m:Nat}(K:Rs->Tr)(n:Nat)(hn:n<=1073741824)(hm:m<18446744073709551616)(em:k.mask=(m:Int))(ek:k.key.size<=64)(ht:k.t.root<=9223372036854775807)(hA:∀f∈aR x.L,f∈A)(go:gL g x (pV k.t λ i=>Cf k.t (mR k.key m) k.key K n i 0))(ok:x.Ok)(hs:SF w D (xH k bx bm x dn rs) A [] (xW x) w):Calls Tryz.prog 183 #[.pointer (some ⟨bx,0,none⟩)] w λ e w'=>∃q:Rs×XS×List aX,e=.returned (.agg ⟨q.1.cells⟩)/\Nx g x q.2.1 q.2.2 (K q.1) 0/\SF w D (xH k bx bm q.2.1 dn rs) [] (aR q.2.2) (xW q.2.1) w':=by
  refine enter Tryz.func183 Tryz.ntmps183 rfl rfl (cK hs) ?_
  simp only[cN]
  all_goals (refine J0 ?_;refine aJ (λ x2=>?_);refine Hs ?_)
  all_goals
   refine eZ [3,4,13,14,15,16,17,18,19,20,21,22,23,24,25,26,27,28] (λ j:Nat=>[(3,.pointer (some ⟨j,0,none⟩)),(4,.int .u64 ((mR k.key m:Nat):Int))]) (λ _=>True) (λ j=>[(j,.cells ⟨[.int .i64 k.t.root,.bool k.t.ro]⟩ 29 (0,0)),(x2,.cells ⟨Rs.zero.cells⟩ 64 (0,0)),(bx,xO k bm x dn rs),(bm,xM x)]) (λ _=>[]) (λ _=>xW x) (by decide) (λ _=>by exact rfl) ?_ (λ j f hx=>?_)
   · refine iE (.one 0 [] (.one 1 [] (.one 2 [] (.one 3 [] (.one 4 [] (.one 5 [] (.one 6 [] (.one 7 [] (.one 8 [] (.one 9 [] (.one 10 [] (.one 11 [] (.one 12 [] (.one 13 [] (.one 14 [] (.two 15 [4] (.one 16 [4,9,14] (.one 17 [] (.one 18 [] .nil))) 0 [] (.two 16 [4,9,14] (.one 15 [4] (.one 17 [] (.one 18 [] .nil))) 0 [] .nil))))))))))))))))) ?_
     all_goals (refine J9 ?_;refine aT ?_;refine bS (i:=4) (hq:=(aL (k:=2) (vs:=[.int .i64 k.t.root,.bool k.t.ro]) rf bQ cD rfl rfl)) (h:=?_);refine uD ?_;refine uD ?_)
     all_goals
      refine iM (E:=[15,16]) (by decide +kernel) ((.cons ?_ (.cons ?_ .nil)))
      · refine Cg (i:=15) (hq:=(cV (hc:=λ w1 hw=>nK em hm ek w1))) (hfire:=(λ _=>by first|(refine aI.cons (by first|exact dM (hq:=aL (k:=2) (vs:=[.int .i64 k.t.root,.bool k.t.ro]) rf bQ cD rfl rfl)|exact a_un) ?_;exact aI.nil)|(refine bT ?_;refine aI.cons (by first|exact dM (hq:=aL (k:=2) (vs:=[.int .i64 k.t.root,.bool k.t.ro]) rf bQ cD rfl rfl)|exact a_un) ?_;exact aI.nil))) (h:=λ x28=>?_)
        all_goals (refine iD (hfire:=(λ _=>by first|((repeat (first|exact aI.nil|refine aI.cons (by first|exact dM (hq:=aL (k:=2) (vs:=[.int .i64 k.t.root,.bool k.t.ro]) rf bQ cD rfl rfl)|exact eT|exact a_un) ?_));done)|(refine bT ?_;(repeat (first|exact aI.nil|refine aI.cons (by first|exact dM (hq:=aL (k:=2) (vs:=[.int .i64 k.t.root,.bool k.t.ro]) rf bQ cD rfl rfl)|exact eT|exact a_un) ?_));done))) (h:=λ x3=>?_);refine A6 ?_)
        all_goals
         refine fR (x3) ?_
         · trivial
      · refine hY (i:=16) (hfire:=(λ _=>by first|((repeat (first|exact aI.nil|refine aI.cons (by first|exact dM (hq:=aL (k:=2) (vs:=[.int .i64 k.t.root,.bool k.t.ro]) rf bQ cD rfl rfl)|exact eT|exact a_un) ?_));done)|(refine bT ?_;(repeat (first|exact aI.nil|refine aI.cons (by first|exact dM (hq:=aL (k:=2) (vs:=[.int .i64 k.t.root,.bool k.t.ro]) rf bQ cD rfl rfl)|exact eT|exact a_un) ?_));done))) (h:=λ x3=>?_)
        all_goals (refine cL (i:=15) (hq:=(cV (hc:=λ w1 hw=>nK em hm ek w1))) (hfire:=(λ _=>by first|(refine aI.cons (by first|exact dM (hq:=aL (k:=2) (vs:=[.int .i64 k.t.root,.bool k.t.ro]) rf bQ cD rfl rfl)|exact a_un) ?_;exact aI.nil)|(refine bT ?_;refine aI.cons (by first|exact dM (hq:=aL (k:=2) (vs:=[.int .i64 k.t.root,.bool k.t.ro]) rf bQ cD rfl rfl)|exact a_un) ?_;exact aI.nil))) (h:=λ x28=>?_);refine A6 ?_)
        all_goals
         refine fR (x3) ?_
         · trivial
   dsimp only[iL,List.map,List.cons_append,List.nil_append]
  all_goals (refine J2 ?_;refine bX ?_;refine aC (cM (hs:=xH k bx bm x dn rs) (os:=xW x) (hc:=λ w hs=>Bc hg k.t _ ht go ok hs)) (λ x31 h31=>?_);refine jM ?_;refine Hu ?_)
  all_goals
   refine oR [5,6,7,8,9,10,11,12,32,33,34,35,36,37,38,39,40,41,42,43,44,45,46,47,48,49,50,51,52,53,54,55,56,57,58,59,60,61,62,63,64,65,66,67,68,69,70,71,72,73,74,75,76,77,78,79,80,81,82,83,84,85,86,87,88,89,90,91,92,93,94,95,96,97,98,99,100,101,102,103,104,105,106,107,108,109,110,111,112] (λ y:Nat×Int×XS×List aX=>[(5,.int .i64 y.2.1),(6,.int .i64 ((n-y.1:Nat):Int))]) (λ y=>y.1<=n/\Nx g x y.2.2.1 y.2.2.2 (Cf k.t (mR k.key m) k.key K y.1 y.2.1 ((n-y.1:Nat):Int)) y.2.1) (λ y=>[(j,.cells ⟨[.int .i64 k.t.root,.bool k.t.ro]⟩ 29 (0,0)),(x2,.cells ⟨Rs.zero.cells⟩ 64 (0,0)),(bx,xO k bm y.2.2.1 dn rs),(bm,xM y.2.2.1)]) (λ y=>aR y.2.2.2) (λ y=>xW y.2.2.1) (λ y=>y.1) ((n,x31.1,x31.2.1,x31.2.2)) (⟨Nat.le_refl n,by rw[Nat.sub_self];exact h31⟩) (λ y f hx=>?_) (hw0:=λ w hw=>by rw[List.append_nil] at hw;exact hw)
   dsimp only[iL,List.map,List.cons_append,List.nil_append]
   all_goals (refine aW ?_;refine kY ?_;refine qT ?_)
   all_goals
    refine bG (λ c36=>?_) (λ c36=>?_)
    · all_goals
       obtain⟨f,hf,gx⟩:=gL.kB (T:=λ z=>Cf k.t (mR k.key m) k.key K z y.2.1 ((n-y.1:Nat):Int)) hx.2.go (by simpa using c36) rfl hg
       have hyl:=hx.1
      all_goals (refine qD ?_;refine jN ?_;refine bX ?_;refine aA ?_;refine aC (cM (hs:=xH k bx bm y.2.2.1 dn rs) (os:=xW y.2.2.1) (hc:=λ w hs=>oK hg k.t y.2.1 _ ht hx.2.bd gx hx.2.ok hs)) (λ x43 h43=>?_))
      all_goals
       have hch:=Ch.nx h43 hx.2.ch
       have hlc:x.cs.length<=x43.2.1.cs.length:=by have:=h43.lc;have:=hx.2.lc;omega
      all_goals (refine aC (cM (hs:=xH k bx bm x43.2.1 dn rs) (os:=xW x43.2.1) (hc:=λ w hs=>cR x43.1 _ h43.bd h43.go h43.ok hs)) (λ x44 h44=>?_);refine aJ (λ x7=>?_);refine J5 ?_;refine Cs ?_;refine aH ?_;refine dE ?_;refine lR ?_)
      all_goals
       refine bG (λ c47=>?_) (λ c47=>?_)
       · all_goals
          have g1:=h44.1.to (λ _=>if_pos c47)
         all_goals (refine aW ?_;refine aW ?_;refine fL [0,1,2,3,4,5,6,7] ?_;refine nA ?_;refine uD ?_;refine qc ?_;refine eC ?_)
         all_goals
          refine bG (λ c56=>?_) (λ c56=>?_)
          · all_goals (refine iZ ?_;refine aY (cV (hc:=λ w1 hw=>gT _ _ w1)) (λ x59=>?_);refine J5 ?_)
            all_goals
             refine bE Tryz.results183 (λ w hw=>?_)
             obtain⟨N,hN,hf⟩:=hch.to (t':=K (jX true (aD x43.2.1.L x43.1).nd.val)) h43 (g1.to (λ _=>if_pos (by assumption))) hlc (bM _)
             exact⟨(jX true (aD x43.2.1.L x43.1).nd.val,x43.2.1,N),rfl,hN,(hw.dY hf).aS (hF:=by exact aV.all)⟩
          · all_goals (refine bD ?_;refine J0 ?_;refine aY (cV (hc:=λ w1 hw=>gT _ _ w1)) (λ x60=>?_);refine J5 ?_)
            all_goals
             refine bE Tryz.results183 (λ w hw=>?_)
             obtain⟨N,hN,hf⟩:=hch.to (t':=K (jX false 0)) h43 (g1.to (λ _=>if_neg (by assumption))) hlc (bM _)
             exact⟨(jX false 0,x43.2.1,N),rfl,hN,(hw.dY hf).aS (hF:=by exact aV.all)⟩
       · all_goals
          have g1:=h44.1.to (λ _=>if_neg c47)
         all_goals refine lR ?_
         all_goals
          refine bG (λ c61=>?_) (λ c61=>?_)
          · all_goals
             have g2:=g1.to (λ _=>if_pos c61)
            all_goals (refine aW ?_;refine fL [0,1,2,3,4,5,6,7,8,9,10,11,12] ?_;refine nA ?_;refine uD ?_;refine cL (i:=7) (hq:=(cV (hc:=λ w1 hw=>Kc (v:=aD x43.2.1.L x43.1) (n:=0) k.key (hw.Zp hch hA h43.ok x43.1) (h43.ok.ysl _)))) (h:=λ x71=>?_);refine aQ ?_;refine cH (i:=9) (hq:=(bU rf rfl)) (h:=?_);refine cH (i:=10) (hq:=(bU rf rfl)) (h:=?_);refine o6 ?_;refine jN ?_;refine aY (cV (hc:=λ w1 hw=>gT _ _ w1)) (λ x76=>?_);refine J5 ?_)
            all_goals
             refine bE Tryz.results183 (λ w hw=>?_)
             obtain⟨N,hN,hf⟩:=hch.to (t':=K (jX (eN (aD x43.2.1.L x43.1).c.ys k.key).isSome ((eN (aD x43.2.1.L x43.1).c.ys k.key).getD 0))) h43 (g2) hlc (bM _)
             exact⟨(jX (eN (aD x43.2.1.L x43.1).c.ys k.key).isSome ((eN (aD x43.2.1.L x43.1).c.ys k.key).getD 0),x43.2.1,N),rfl,hN,(hw.dY hf).aS (hF:=by exact aV.all)⟩
          · all_goals
             have g2:=g1.to (λ _=>if_neg c61)
            all_goals (refine oD ?_;refine aW ?_;refine dX [(0,[]),(1,[]),(2,[]),(3,[0]),(4,[]),(5,[]),(6,[]),(7,[]),(8,[]),(9,[])] ?_;refine bR ?_;refine iP ?_;refine cL (i:=3) (hq:=(cV (hc:=λ w1 hw=>fU (sU k.key m) ((n-y.1:Nat):Int) w1))) (h:=λ x81=>?_);refine cL (i:=4) (hq:=(cV (hc:=λ w1 hw=>Ij (v:=aD x43.2.1.L x43.1) h44.2 (gZ (mR k.key m) ((n-y.1:Nat):Int)) (hw.Zp hch hA h43.ok x43.1)))) (h:=λ x82=>?_);refine aQ ?_;refine cH (i:=6) (hq:=(bU rf rfl)) (h:=?_);refine cH (i:=7) (hq:=(bU rf rfl)) (h:=?_);refine o6 ?_;refine aW ?_;refine kY ?_;refine aA ?_)
            all_goals ((refine fS 89 (λ g89=>?_) (λ g89=>?_)<;>(first|refine aN ?_|(refine aF ?_;refine aA ?_))))
            all_goals (refine Sg ?_;refine aH ?_)
            all_goals
             refine bG (λ c92=>?_) (λ c92=>?_)
             · all_goals (refine J0 ?_;refine aY (cV (hc:=λ w1 hw=>gT _ _ w1)) (λ x93=>?_);refine J5 ?_)
               all_goals
                refine bE Tryz.results183 (λ w hw=>?_)
                obtain⟨N,hN,hf⟩:=hch.to (t':=K (jX false 0)) h43 (by first|exact g2.cA (by assumption)|exact Kv g2 (by assumption)) hlc (bM _)
                exact⟨(jX false 0,x43.2.1,N),rfl,hN,(hw.dY hf).aS (hF:=by exact aV.all)⟩
             · try exact nv c92
               all_goals (refine lG ?_;refine jN ?_;refine aC (cM (hs:=xH k bx bm x43.2.1 dn rs) (os:=xW x43.2.1) (hc:=λ w hs=>cR ((mC (aD x43.2.1.L x43.1).c (gZ (mR k.key m) ((n-y.1:Nat):Int))).getD 0) _ (pW h44.2 _) (sN g2 (by assumption)) h43.ok hs)) (λ x96 h96=>?_);refine aJ (λ x12=>?_);refine J5 ?_;refine iZ ?_;refine uS ?_)
               all_goals
                refine bG (λ c99=>?_) (λ c99=>?_)
                · all_goals (refine aW ?_;refine aW ?_;refine fL [0,1,2,3,4,5,6,7] ?_;refine nA ?_;refine uD ?_;refine qc ?_;refine eC ?_)
                  all_goals
                   refine bG (λ c107=>?_) (λ c107=>?_)
                   · all_goals (refine iZ ?_;refine aY (cV (hc:=λ w1 hw=>gT _ _ w1)) (λ x110=>?_);refine J5 ?_)
                     all_goals
                      refine bE Tryz.results183 (λ w hw=>?_)
                      obtain⟨N,hN,hf⟩:=hch.to (t':=K (jX true (aD x43.2.1.L ((mC (aD x43.2.1.L x43.1).c (gZ (mR k.key m) ((n-y.1:Nat):Int))).getD 0)).nd.val)) h43 ((h96.1.to (λ _=>if_pos c99)).to (λ _=>if_pos (by assumption))) hlc (bM _)
                      exact⟨(jX true (aD x43.2.1.L ((mC (aD x43.2.1.L x43.1).c (gZ (mR k.key m) ((n-y.1:Nat):Int))).getD 0)).nd.val,x43.2.1,N),rfl,hN,(hw.dY hf).aS (hF:=by exact aV.all)⟩
                   · all_goals (refine bD ?_;refine J0 ?_;refine aY (cV (hc:=λ w1 hw=>gT _ _ w1)) (λ x111=>?_);refine J5 ?_)
                     all_goals
                      refine bE Tryz.results183 (λ w hw=>?_)
                      obtain⟨N,hN,hf⟩:=hch.to (t':=K (jX false 0)) h43 ((h96.1.to (λ _=>if_pos c99)).to (λ _=>if_neg (by assumption))) hlc (bM _)
                      exact⟨(jX false 0,x43.2.1,N),rfl,hN,(hw.dY hf).aS (hF:=by exact aV.all)⟩
                · all_goals (refine bD ?_;refine zK ?_;refine J1 ?_;refine fT ?_;refine zL ?_)
                  all_goals
                   refine jJ ((y.1-1,((mC (aD x43.2.1.L x43.1).c (gZ (mR k.key m) ((n-y.1:Nat):Int))).getD 0),x43.2.1,y.2.2.2++x43.2.2)) ?_ (hw1:=λ w hw=>(hw.dY fQ).back (hF:=by exact aV.all))
                   · have e1:y.1-1=f:=by omega
                     have e2:((n-y.1:Nat):Int)+1=((n-f:Nat):Int):=by omega
                     refine⟨by show y.1-1<=n;omega,(hx.2.trans h43).cQ ?_ (pW h44.2 _)⟩
                     show gL g x43.2.1 (Cf k.t (mR k.key m) k.key K (y.1-1) ((mC (aD x43.2.1.L x43.1).c (gZ (mR k.key m) ((n-y.1:Nat):Int))).getD 0) ((n-(y.1-1):Nat):Int))
                     rw[e1,<- e2]
                     exact h96.1.to (λ _=>if_neg c99)
    · all_goals (refine bV rfl ?_;refine J0 ?_;refine wJ ?_)
      all_goals
       refine bE Tryz.results183 (λ w hw=>?_)
       obtain⟨N,hN,hf⟩:=hx.2.ch.to (t':=K (Rs.zero)) hx.2 (hx.2.go.cA (by simpa using c36)) hx.2.lc (bM _)
       exact⟨(Rs.zero,y.2.2.1,N),rfl,hN,(hw.dY hf).aS (hF:=by exact aV.all)⟩
end
end

end Go.Proofs.YtbajmaoegmbfgaaGreat

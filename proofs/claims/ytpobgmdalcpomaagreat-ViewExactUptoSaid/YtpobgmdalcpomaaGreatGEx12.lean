/- Executions of the reference: CLEAN. -/
import Derived.Test.YtpobgmdalcpomaaGreatGEx10
import Derived.Test.YtpobgmdalcpomaaGreatGBr5
import Derived.Test.YtpobgmdalcpomaaGreatGRs0

set_option linter.unusedSimpArgs false
set_option linter.unusedVariables false
namespace Go.Proofs.YtpobgmdalcpomaaGreat
section
open Go Go.RowKit Go.Ct
section
variable{k:Cl}{bx bm:Nat}{x:XS}{dn:Bool}{rs:Rs}{D:List Nat}{A:Fr}{w:World}{g:Gx}
theorem I5(hg:g.Ok)(t:iV)(p c:Int){h:Nat}(hh:h<18446744073709551616)(level:Int)(K:Bool->Tr)(ht:t.root<=9223372036854775807)(hp:p<=x.L.length)(hc:c<=x.L.length)(hA:∀f∈bG x.L,f∈A)(go:gC g x (yH t p c h level K))(ok:x.Ok)(hs:SF w D (xH k bx bm x dn rs) A [] (xW x) w):Calls Tryz.prog 82 #[.pointer (some ⟨bx,0,none⟩),Lf t,.int .i64 p,.int .i64 c,.int .u64 (h:Int),.int .i64 level] w λ e w'=>∃q:Bool×XS×List aQ,e=.returned (.bool q.1)/\Nx g x q.2.1 q.2.2 (K q.1) 0/\SF w D (xH k bx bm q.2.1 dn rs) [] (bG q.2.2) (xW q.2.1) w':=by
  refine enter Tryz.func82 Tryz.ntmps82 rfl rfl (cN hs) ?_
  simp only[dB]
  simp only[Lf]
  all_goals (refine J0 ?_;refine bM (λ x7=>?_);refine J1 ?_;refine J2 ?_;refine bJ ?_;refine aA ?_;(refine aF (cM (hs:=xH k bx bm x dn rs) (os:=xW x) (hc:=λ w hs=>nT hg t p _ ht hp go ok hs)) (λ x25=>?_);try (refine aB (λ h25=>?_))))
  all_goals
   have hch:=(Ch.base (F:=[])).nx h25
   have hl25:=h25.len
  all_goals (refine yQ ?_;(refine aF (cV (hc:=λ w1 hw=>fN hh level w1)) (λ x28=>?_);try (refine aB (λ h28=>?_)));refine iI ?_;refine jE ?_;(refine aF (cM (hs:=xH k bx bm x25.2.1 dn rs) (os:=xW x25.2.1) (hc:=λ w hs=>cY x25.1 _ h25.bd h25.go h25.ok hs)) (λ x32=>?_);try (refine aB (λ h32=>?_)));refine aA ?_;(refine aF (cV (hc:=λ w1 hw=>Ih (v:=aD x25.2.1.L x25.1) h32.2 (gZ h level) (hw.Xv hch hA h25.ok x25.1))) (λ x34=>?_);try (refine aB (λ h34=>?_)));refine aA ?_;refine aH (bX rf rfl) rfl ?_;refine aH (bX rf rfl) rfl ?_;refine J8 ?_;refine kZ ?_;refine aA ?_)
  all_goals (first|refine aG ?_|(refine aC ?_;refine aA ?_)|(refine dG 41 (λ g41=>?_) (λ g41=>?_)<;>(first|refine aG ?_|(refine aC ?_;refine aA ?_))))
  all_goals (refine Ju ?_;refine aA ?_)
  all_goals (first|refine aG ?_|(refine aC ?_;refine aA ?_)|(refine dG 45 (λ g45=>?_) (λ g45=>?_)<;>(first|refine aG ?_|(refine aC ?_;refine aA ?_))))
  all_goals ((first|refine aG ?_|(refine aC ?_;refine aA ?_));refine U8 ?_;refine aN ?_)
  all_goals
   refine bF (λ c49=>?_) (λ c49=>?_)
   · try exact nv c49
     all_goals refine dH ?_
     all_goals
      refine aR Tryz.results82 (λ w hw=>?_)
      obtain⟨N,hN,hf⟩:=hch.to (t':=K false) h25 (by first|exact h32.1.cA (by assumption)|exact h32.1.to (λ _=>if_neg (ir (by assumption)))|exact h32.1.to (λ _=>if_neg (iv (by assumption)))) h25.lc (bS _)
      exact⟨(false,x25.2.1,N),rfl,hN,(hw.dO hf).aV (hF:=by exact aW.all)⟩
   · try exact nv c49
     all_goals
      have g1:=h32.1.to (λ _=>if_pos (qj (by assumption) (by assumption)))
     all_goals (refine Ak ?_;refine bJ ?_;refine aA ?_;(refine aF (cM (hs:=xH k bx bm x25.2.1 dn rs) (os:=xW x25.2.1) (hc:=λ w hs=>nT hg t c _ ht (by omega) g1 h25.ok hs)) (λ x55=>?_);try (refine aB (λ h55=>?_))))
     all_goals
      have hch2:=Ch.nx h55 hch
      have hl55:=h55.len
     all_goals ((refine aF (cM (hs:=xH k bx bm x55.2.1 dn rs) (os:=xW x55.2.1) (hc:=λ w hs=>cY x55.1 _ h55.bd h55.go h55.ok hs)) (λ x56=>?_);try (refine aB (λ h56=>?_)));(refine aF (cV (hc:=λ w1 hw=>Gm (aD x55.2.1.L x55.1).nd w1)) (λ x57=>?_);try (refine aB (λ h57=>?_)));refine aA ?_;refine aH (bX rf rfl) rfl ?_;refine aH (bX rf rfl) rfl ?_;refine aY (λ x17=>?_);refine nA (λ _=>?_);refine iI ?_;refine kZ ?_;refine aA ?_)
     all_goals (first|refine aG ?_|(refine aC ?_;refine aA ?_)|(refine dG 64 (λ g64=>?_) (λ g64=>?_)<;>(first|refine aG ?_|(refine aC ?_;refine aA ?_))))
     all_goals (refine Ju ?_;refine aN ?_)
     all_goals
      refine bF (λ c67=>?_) (λ c67=>?_)
      · try exact nv c67
        all_goals refine dH ?_
        all_goals
         refine aR Tryz.results82 (λ w hw=>?_)
         obtain⟨N,hN,hf⟩:=hch2.to (t':=K false) h55 (by first|exact h56.1.cA (by assumption)|exact h56.1.to (λ _=>if_neg (show ¬(aD x55.2.1.L x55.1).c.kind=5 from by first|assumption|simpa using ‹_›))) (by have:=h25.lc;have:=h55.lc;omega) (bS _)
         exact⟨(false,x55.2.1,N),rfl,hN,(hw.dO hf).aV (hF:=by exact aW.all)⟩
      · try exact nv c67
        all_goals
         have g2:=h56.1.to (λ _=>if_pos (show(aD x55.2.1.L x55.1).c.kind=5 from by first|assumption|simpa using ‹_›))
        all_goals (refine aZ ?_;refine J2 ?_;refine bJ ?_;(refine aF (cM (hs:=xH k bx bm x55.2.1 dn rs) (os:=xW x55.2.1) (A0:=[((Fp (aD x55.2.1.L x55.1).nd).brA,aJ []),((Fp (aD x55.2.1.L x55.1).nd).prA,dI [])]) (hA:=.cons (.inl rfl) (.cons (.inl rfl) .nil)) (hc:=λ w hs=>gT hg (n:=Fp (aD x55.2.1.L x55.1).nd) (xs:=[]) (ys:=[]) 0 _ (X3 _).1 (X3 _).2 (by decide) (Nat.zero_le _) (ow h56.2.hash) (bS _) (by rw[vf (xs:=(aD x55.2.1.L x55.1).xs) (ys:=(aD x55.2.1.L x55.1).ys)];exact g2) h55.ok hs)) (λ x70=>?_);try (refine aB (λ h70=>?_))))
        all_goals
         have hch3:=Ch.nx h70 hch2
         have hl70:=h70.len
         have hb25:=h25.bd
        all_goals (refine yQ ?_;(refine aF (cM (hs:=xH k bx bm x70.2.1 dn rs) (os:=xW x70.2.1) (hc:=λ w hs=>cY x25.1 _ (by omega) h70.go h70.ok hs)) (λ x74=>?_);try (refine aB (λ h74=>?_)));refine oI ?_;(refine aF (cF (hc:=λ w1 hw=>nl (v:=aD x70.2.1.L x25.1) h74.2 (gZ h level) x70.1 (hw.Xv hch3 hA h70.ok x25.1))) (λ x77=>?_);try (refine aB (λ h77=>?_))))
        all_goals
         have hB:=Xz h74.2 h70.bd (gZ h level)
         have hch4:=hch3.cons (f:=(x77.1,aJ (lU (Oy (aD x70.2.1.L x25.1) (gZ h level) x70.1))))
        all_goals (refine aA ?_;refine aH (bX rf rfl) rfl ?_;refine aH (bX rf rfl) rfl ?_;refine aY (λ x20=>?_);refine nA (λ _=>?_);refine iI ?_;refine dL [(0,[]),(1,[]),(2,[]),(3,[]),(4,[]),(5,[]),(6,[]),(7,[]),(9,[]),(8,[1]),(10,[1]),(11,[]),(12,[])] ?_;refine aL ?_;refine bT ?_;refine gD ?_;refine aL ?_;refine bT ?_;refine aL ?_;refine bT ?_;refine aL ?_;((refine bA (i:=8) (hq:=(cV (hc:=λ w1 hw=>R7 hB level (Fp (aD x55.2.1.L x55.1).nd) (hw.cl (.new .head))))) (h:=λ x88=>?_);try (refine aK (λ h88=>?_))));((refine bA (i:=10) (hq:=(cM (hs:=xH k bx bm x70.2.1 dn rs) (os:=xW x70.2.1) (A0:=[((Oj (Oy (aD x70.2.1.L x25.1) (gZ h level) x70.1) x77 level (Fp (aD x55.2.1.L x55.1).nd)).brA,aJ (V2 (Oy (aD x70.2.1.L x25.1) (gZ h level) x70.1) x77 level (Fp (aD x55.2.1.L x55.1).nd))),((Oj (Oy (aD x70.2.1.L x25.1) (gZ h level) x70.1) x77 level (Fp (aD x55.2.1.L x55.1).nd)).prA,dI [])]) (hA:=kz) (hc:=λ w hs=>gT hg (n:=Oj (Oy (aD x70.2.1.L x25.1) (gZ h level) x70.1) x77 level (Fp (aD x55.2.1.L x55.1).nd)) (xs:=V2 (Oy (aD x70.2.1.L x25.1) (gZ h level) x70.1) x77 level (Fp (aD x55.2.1.L x55.1).nd)) (ys:=[]) x25.1 _ (Zg _ _ _) (Z8 _ _ _) (Sa hB _ _ _) (Nat.zero_le _) (Rw hB _ _ (Mv h56.2.hash)) (by omega) (by rw[<- mn,<- xo h74.2,vf (xs:=(aD x55.2.1.L x55.1).xs) (ys:=(aD x55.2.1.L x55.1).ys)];exact h74.1) h70.ok hs))) (h:=λ x90=>?_);try (refine aK (λ h90=>?_))));((refine bA (i:=11) (hq:=(cM (hs:=xH k bx bm x90.2.1 dn rs) (os:=xW x90.2.1) (hc:=λ w hs=>sY hg t p x25.1 x90.1 _ ht (by have:=h90.len;omega) (by have:=h90.bd;omega) h90.go h90.ok hs))) (h:=λ x91=>?_);try (refine aK (λ h91=>?_)))))
        all_goals
         have hch5:=Ch.nx h91 (Ch.nx h90 hch4)
         have hlc:x.cs.length<=x91.2.1.cs.length:=by have:=h25.lc;have:=h55.lc;have:=h70.lc;have:=h90.lc;have:=h91.lc;omega
        all_goals refine J7 ?_
        all_goals
         refine aR Tryz.results82 (λ w hw=>?_)
         obtain⟨N,hN,hf⟩:=hch5.to (t':=K x91.1) h91 h91.go hlc (bS _)
         exact⟨(x91.1,x91.2.1,N),rfl,hN,(hw.dO hf).aV (hF:=by exact aW.all)⟩
end
end

/- Hash values of keys. -/
end Go.Proofs.YtpobgmdalcpomaaGreat
namespace Go.Ct
section
open Go Go.RowKit
def uz(s:ByteArray)(i:Nat):Nat:=(s.data.getD i 0).toNat
theorem Zr(s:ByteArray)(i:Nat):uz s i<256:=(s.data.getD i 0).toNat_lt
def xy(s:ByteArray):Nat->Nat
 | 0=>14695981039346656037
 | i+1=>((xy s i ^^^ uz s i)*1099511628211)%18446744073709551616
theorem Qo(s:ByteArray):∀i,xy s i<18446744073709551616
 | 0=>by show 14695981039346656037<18446744073709551616;decide
 | _+1=>Nat.mod_lt _ (by decide)
def lP(s:ByteArray)(m:Nat):Nat:=xy s s.size &&& m
theorem sA(s:ByteArray)(m:Nat):lP s m<18446744073709551616:=Nat.lt_of_le_of_lt Nat.and_le_left (Qo s _)
section
variable{P:Program}{S:List (Nat×Value)}{G:World->Prop}{d:Nat}{ty t t':TypeId}{pos:String}{af:Array Edge}{gd:Option (Nat×Bool)}{x y:Operand}{a b i:Nat}{s:ByteArray}
theorem qp(hx:ev S x=.string s)(hy:ev S y=.int .i64 (i:Int))(ht:P.underlying t=some .string)(h:i<s.size):aS P S G ⟨some d,.index t x y,ty,pos,af,gd⟩ (.int .u8 (uz s i:Int)):=⟨λ w _=>by
 have e:(s[((i:Nat):Int).toNat]'(by simpa using h)).toNat=uz s i:=by
  unfold uz
  rw[Array.getD_eq_getD_getElem?,Array.getElem?_eq_getElem (by simpa using h)]
  rfl
 simp only[execOp,hx,hy,Sem.run_bind]
 rw[run_index_string w t s .i64 i ht,dif_pos ⟨bS _,by omega⟩,e]
 rfl⟩
theorem pw(hx:ev S x=.int .u64 (a:Int))(hy:ev S y=.int .u64 (b:Int))(ha:a<18446744073709551616)(hb:b<18446744073709551616):aS P S G ⟨some d,.binOp .xor t x y t',ty,pos,af,gd⟩ (.int .u64 ((a ^^^ b:Nat):Int)):=by
 have:=vx (P:=P) (G:=G) (d:=d) (ty:=ty) (pos:=pos) (af:=af) (gd:=gd) (t:=t) (t':=t') hx hy
 rwa [Zf ha hb] at this
theorem tx(hx:ev S x=.int .u64 (a:Int))(hy:ev S y=.int .u64 (b:Int)):aS P S G ⟨some d,.binOp .mul t x y t',ty,pos,af,gd⟩ (.int .u64 ((a*b%18446744073709551616:Nat):Int)):=by
 have:=w4 (P:=P) (G:=G) (d:=d) (ty:=ty) (pos:=pos) (af:=af) (gd:=gd) (t:=t) (t':=t') hx hy
 have e:IntKind.u64.wrap ((a:Int)*(b:Int))=((a*b%18446744073709551616:Nat):Int):=by
  rw[<- Int.natCast_mul,wrap_u64]
  generalize a*b=q
  omega
 rwa [e] at this
end
end
end Go.Ct
namespace Go.Proofs.YtpobgmdalcpomaaGreat
section
open Go Go.RowKit Go.Ct
theorem Ua(key:ByteArray){m:Nat}(hm:m<18446744073709551616)(hk:key.size<=4611686018427387903)(w:World):Calls Tryz.prog 10 #[.string key,.int .u64 (m:Int)] w λ e w'=>e=.returned (.int .u64 ((lP key m:Nat):Int))/\St w [] [] w':=by
 refine enter Tryz.func10 Tryz.ntmps10 rfl rfl (SF.s0 w) ?_
 simp only[dB]
 all_goals (refine dH ?_;refine Be ?_;refine Cq ?_)
 all_goals
 refine gE [5,6,7,8,9,10,11,12,13,14,15,16,17,18,19] (λ y:Nat=>[(6,.int .i64 ((y:Nat):Int)),(5,.int .u64 ((xy key y:Nat):Int))]) (λ y=>y<=key.size) (λ y=>key.size-y) (0) (Nat.zero_le _) ?_ (λ y f hx=>?_)
 ·repeat (first|exact bI _|refine bE (by first|exact rfl|(conv=>{lhs;whnf};simp;done)) ?_)
 dsimp only[gW,List.map,List.cons_append,List.nil_append]
 all_goals (refine Cy ?_;refine lR ?_;refine uQ ?_)
 all_goals
  refine bF (λ c10=>?_) (λ c10=>?_)
  ·try exact nv c10
   all_goals (refine oD ?_;refine xU ?_;refine oI ?_;refine aF (iG (qp (s:=key) (i:=y) rf rf (by kernel_rfl) (by omega))) (λ x16=>?_);refine aH (Ti (k2:=.u8) rf (by kernel_rfl) (by exact uK rfl) ⟨bS _,by have:=Zr key y;omega⟩) rfl ?_;refine aH (pw rf rf (Qo _ _) (by have:=Zr key y;omega)) rfl ?_;refine aH (tx rf rf) rfl ?_;refine J1 ?_;refine eV ?_;refine uH ?_)
   all_goals
   refine fD (y+1) ?_ ?_ ?_
   ·first|omega|(simp only[];omega)
   ·repeat' (first|exact bI _|refine bE ?_ ?_)
    all_goals (first|exact rfl|(conv=>{lhs;whnf};simp;done)|(conv=>{lhs;whnf};congr 1;omega))
   ·omega
  ·try exact nv c10
   all_goals (refine bQ rfl ?_;refine jE ?_;refine aH (sc rf rf (Qo _ _) hm) rfl ?_;refine J1 ?_)
   all_goals
   refine aR Tryz.results10 (λ w hw=>?_)
   have hy:y=key.size:=by omega
   subst hy
   exact⟨rfl,hw.done⟩
theorem mZ(key:ByteArray)(w:World):Calls Tryz.prog 102 #[.string key] w λ e w'=>e=.returned (.bool (decide (key.size<=64)))/\St w [] [] w':=by
 refine enter Tryz.func102 Tryz.ntmps102 rfl rfl (SF.s0 w) ?_
 simp only[dB]
 all_goals (refine dH ?_;refine J2 ?_;refine lR ?_;refine Ab ?_;refine J1 ?_)
 all_goals
 refine aR Tryz.results102 (λ w hw=>?_)
 exact⟨by rw[show decide (key.size<=64)=decide ((key.size:Int)<=64) from decide_eq_decide.2 (by omega)];rfl,hw.done⟩
theorem gM(f:Bool)(v:Int)(w:World):Calls Tryz.prog 115 #[.bool f,.int .u64 v] w λ e w'=>e=.returned (.agg ⟨(Rs.mk 0 f v ⟨#[]⟩ 0 0 0 false).cells⟩)/\St w [] [] w':=by
 refine enter Tryz.func115 Tryz.ntmps115 rfl rfl (SF.s0 w) ?_
 simp only[dB]
 all_goals (refine J0 ?_;refine aY (λ x4=>?_);refine aN ?_;refine jE ?_;refine zN ?_)
 all_goals
 refine bH Tryz.results115 (λ w hw=>?_)
 exact⟨rfl,hw.done⟩
end

/- Executions of the reference: FIND. -/
end Go.Proofs.YtpobgmdalcpomaaGreat
namespace Go.Ct
section
open Go Go.RowKit
theorem Nx.ch{g:Gx}{x X:XS}{N:List aQ}{t:Tr}{b:Int}(h:Nx g x X N t b):Ch x X (bG N):=⟨N,h.ext,λ _ hf=>.inr hf⟩
theorem fL{a b:List aQ}:∀f∈bG (a++b),f.2=[]∨f∈bG b++bG a:=λ f hf=>by
 rw[fC] at hf
 rcases List.mem_append.1 hf with h|h
 ·exact .inr (List.mem_append_right _ h)
 ·exact .inr (List.mem_append_left _ h)
theorem XS.Ok.zi{x:XS}(h:x.Ok)(r:Int):(aD x.L r).ys.length<=1099511627775:=by
 have h1:=h.lL
 unfold aD
 split
 ·have:=h.ys _ (fX (L:=x.L) (k:=(r-1).toNat) (by omega));omega
 ·exact Nat.zero_le _
theorem sV{g:Gx}{x:XS}{o:Option Int}{T:Tr}{B:Int->Tr}(h:gC g x (match o with|none=>T|some b=>B b))(hs:o.isSome=true):gC g x (B (o.getD 0)):=by
 cases o with
 | none=>cases hs
 | some b=>exact h
theorem Ke{g:Gx}{x:XS}{o:Option Int}{T:Tr}{B:Int->Tr}(h:gC g x (match o with|none=>T|some b=>B b))(hs:o.isSome=false):gC g x T:=by
 cases o with
 | none=>exact h
 | some b=>cases hs
theorem gC.jT{g:Gx}{x:XS}{n:Nat}{T:Nat->Tr}(h:gC g x (T n))(hs:x.st=false)(h0:T 0=.stuck)(hg:g.Ok):∃f,n=f+1/\gC g x (T (f+1)):=by
 cases n with
 | zero=>rw[h0] at h;exact((h.run hs).Vb hg).elim
 | succ f=>exact⟨f,rfl,h⟩
end
end Go.Ct
namespace Go.Proofs.YtpobgmdalcpomaaGreat
section
open Go Go.RowKit Go.Ct
theorem mS{key:ByteArray}{mask:Int}{m:Nat}(e:mask=(m:Int))(hm:m<18446744073709551616)(hk:key.size<=64)(w:World):Calls Tryz.prog 10 #[.string key,.int .u64 mask] w λ e w'=>e=.returned (.int .u64 ((lP key m:Nat):Int))/\St w [] [] w':=by
 subst e
 exact Ua key hm (by omega) w
theorem Iu{v:aQ}{n:Nat}{w:World}(k:ByteArray)(hr:pQ w v.nd v.xs v.ys)(hy:v.ys.length<=1099511627775):Calls Tryz.prog 116 #[.slice v.nd.prA v.nd.prN v.nd.dI,.string k] w λ e w'=>e=.returned (.tuple #[.int .u64 ((eI v.c.ys k).getD 0),.bool (eI v.c.ys k).isSome])/\St w [] [] w':=by
 rw[hr.prN]
 exact Hd k hr.pr hy
section
variable{k:Cl}{bx bm:Nat}{x:XS}{dn:Bool}{rs:Rs}{D:List Nat}{A:Fr}{w:World}{g:Gx}
set_option maxRecDepth 100000 in
theorem ru(hg:g.Ok){m:Nat}(K:Rs->Tr)(n:Nat)(hn:n<=1073741824)(hm:m<18446744073709551616)(em:k.mask=(m:Int))(ek:k.key.size<=64)(ht:k.t.root<=9223372036854775807)(hA:∀f∈bG x.L,f∈A)(go:gC g x (xB k.t λ i=>B6 k.t (lP k.key m) k.key K n i 0))(ok:x.Ok)(hs:SF w D (xH k bx bm x dn rs) A [] (xW x) w):Calls Tryz.prog 83 #[.pointer (some ⟨bx,0,none⟩)] w λ e w'=>∃q:Rs×XS×List aQ,e=.returned (.agg ⟨q.1.cells⟩)/\Nx g x q.2.1 q.2.2 (K q.1) 0/\SF w D (xH k bx bm q.2.1 dn rs) [] (bG q.2.2) (xW q.2.1) w':=by
  refine enter Tryz.func83 Tryz.ntmps83 rfl rfl (cN hs) ?_
  simp only[dB]
  all_goals (refine J0 ?_;refine aY (λ x2=>?_);refine Iz ?_)
  all_goals
   refine fH [3,4,13,14,15,16,17,18,19,20,21,22,23,24,25,26,27,28] (λ j:Nat=>[(3,.pointer (some ⟨j,0,none⟩)),(4,.int .u64 ((lP k.key m:Nat):Int))]) (λ _=>True) (λ j=>[(j,.cells ⟨[.int .i64 k.t.root,.bool k.t.ro]⟩ 33 (0,0)),(x2,.cells ⟨Rs.zero.cells⟩ 81 (0,0)),(bx,xO k bm x dn rs),(bm,xM x)]) (λ _=>[]) (λ _=>xW x) (by decide) (λ _=>by exact rfl) ?_ (λ j f hx=>?_)
   · refine gU (.one 0 [] (.one 1 [] (.one 2 [] (.one 3 [] (.one 4 [] (.one 5 [] (.one 6 [] (.one 7 [] (.one 8 [] (.one 9 [] (.one 10 [] (.one 11 [] (.one 12 [] (.one 13 [] (.one 14 [] (.two 15 [4] (.one 16 [4,9,14] (.one 17 [] (.one 18 [] .nil))) 0 [] (.two 16 [4,9,14] (.one 15 [4] (.one 17 [] (.one 18 [] .nil))) 0 [] .nil))))))))))))))))) ?_
     all_goals (refine J9 ?_;refine aX ?_;refine bP (i:=4) (hq:=(aM (k:=2) (vs:=[.int .i64 k.t.root,.bool k.t.ro]) rf cQ dS rfl rfl)) (h:=?_);refine tO ?_;refine tO ?_)
     all_goals
      refine gS (E:=[15,16]) (by decide +kernel) ((.cons ?_ (.cons ?_ .nil)))
      · (refine mI (i:=15) (hq:=(cV (hc:=λ w1 hw=>mS em hm ek w1))) (hfire:=(λ _=>by first|(refine aI.cons (by first|exact dC (hq:=aM (k:=2) (vs:=[.int .i64 k.t.root,.bool k.t.ro]) rf cQ dS rfl rfl)|exact a_un) ?_;exact aI.nil)|(refine bK ?_;refine aI.cons (by first|exact dC (hq:=aM (k:=2) (vs:=[.int .i64 k.t.root,.bool k.t.ro]) rf cQ dS rfl rfl)|exact a_un) ?_;exact aI.nil))) (h:=λ x28=>?_);try (refine aK (λ h28=>?_)))
        all_goals (refine iM (hfire:=(λ _=>by first|((repeat (first|exact aI.nil|refine aI.cons (by first|exact dC (hq:=aM (k:=2) (vs:=[.int .i64 k.t.root,.bool k.t.ro]) rf cQ dS rfl rfl)|exact cL|exact a_un) ?_));done)|(refine bK ?_;(repeat (first|exact aI.nil|refine aI.cons (by first|exact dC (hq:=aM (k:=2) (vs:=[.int .i64 k.t.root,.bool k.t.ro]) rf cQ dS rfl rfl)|exact cL|exact a_un) ?_));done))) (h:=λ x3=>?_);refine Bp ?_)
        all_goals
         refine fM (x3) ?_
         · trivial
      · refine iL (i:=16) (hfire:=(λ _=>by first|((repeat (first|exact aI.nil|refine aI.cons (by first|exact dC (hq:=aM (k:=2) (vs:=[.int .i64 k.t.root,.bool k.t.ro]) rf cQ dS rfl rfl)|exact cL|exact a_un) ?_));done)|(refine bK ?_;(repeat (first|exact aI.nil|refine aI.cons (by first|exact dC (hq:=aM (k:=2) (vs:=[.int .i64 k.t.root,.bool k.t.ro]) rf cQ dS rfl rfl)|exact cL|exact a_un) ?_));done))) (h:=λ x3=>?_)
        all_goals (((refine bA (i:=15) (hq:=(cV (hc:=λ w1 hw=>mS em hm ek w1))) (hfire:=(λ _=>by first|(refine aI.cons (by first|exact dC (hq:=aM (k:=2) (vs:=[.int .i64 k.t.root,.bool k.t.ro]) rf cQ dS rfl rfl)|exact a_un) ?_;exact aI.nil)|(refine bK ?_;refine aI.cons (by first|exact dC (hq:=aM (k:=2) (vs:=[.int .i64 k.t.root,.bool k.t.ro]) rf cQ dS rfl rfl)|exact a_un) ?_;exact aI.nil))) (h:=λ x28=>?_);try (refine aK (λ h28=>?_))));refine Bp ?_)
        all_goals
         refine fM (x3) ?_
         · trivial
   dsimp only[gW,List.map,List.cons_append,List.nil_append]
  all_goals (refine J2 ?_;refine bJ ?_;(refine aF (cM (hs:=xH k bx bm x dn rs) (os:=xW x) (hc:=λ w hs=>A4 hg k.t _ ht go ok hs)) (λ x31=>?_);try (refine aB (λ h31=>?_)));refine iI ?_;refine Cq ?_)
  all_goals
   refine lO [5,6,7,8,9,10,11,12,32,33,34,35,36,37,38,39,40,41,42,43,44,45,46,47,48,49,50,51,52,53,54,55,56,57,58,59,60,61,62,63,64,65,66,67,68,69,70,71,72,73,74,75,76,77,78,79,80,81,82,83,84,85,86,87,88,89,90,91,92,93,94,95,96,97,98,99,100,101,102,103,104,105,106,107,108,109,110,111,112] (λ y:Nat×Int×XS×List aQ=>[(5,.int .i64 y.2.1),(6,.int .i64 ((n-y.1:Nat):Int))]) (λ y=>y.1<=n/\Nx g x y.2.2.1 y.2.2.2 (B6 k.t (lP k.key m) k.key K y.1 y.2.1 ((n-y.1:Nat):Int)) y.2.1) (λ y=>[(j,.cells ⟨[.int .i64 k.t.root,.bool k.t.ro]⟩ 33 (0,0)),(x2,.cells ⟨Rs.zero.cells⟩ 81 (0,0)),(bx,xO k bm y.2.2.1 dn rs),(bm,xM y.2.2.1)]) (λ y=>bG y.2.2.2) (λ y=>xW y.2.2.1) (λ y=>y.1) ((n,x31.1,x31.2.1,x31.2.2)) (⟨Nat.le_refl n,by rw[Nat.sub_self];exact h31⟩) (λ y f hx=>?_) (hw0:=λ w hw=>by rw[List.append_nil] at hw;exact hw)
   dsimp only[gW,List.map,List.cons_append,List.nil_append]
   all_goals (refine aT ?_;refine kZ ?_;refine kD ?_)
   all_goals
    refine bF (λ c36=>?_) (λ c36=>?_)
    · try exact nv c36
      all_goals
       obtain⟨f,hf,gx⟩:=gC.jT (T:=λ z=>B6 k.t (lP k.key m) k.key K z y.2.1 ((n-y.1:Nat):Int)) hx.2.go (by simpa using c36) rfl hg
       have hyl:=hx.1
      all_goals (refine oD ?_;refine jE ?_;refine bJ ?_;refine aA ?_;(refine aF (cM (hs:=xH k bx bm y.2.2.1 dn rs) (os:=xW y.2.2.1) (hc:=λ w hs=>nT hg k.t y.2.1 _ ht hx.2.bd gx hx.2.ok hs)) (λ x43=>?_);try (refine aB (λ h43=>?_))))
      all_goals
       have hch:=Ch.nx h43 hx.2.ch
       have hlc:x.cs.length<=x43.2.1.cs.length:=by have:=h43.lc;have:=hx.2.lc;omega
      all_goals ((refine aF (cM (hs:=xH k bx bm x43.2.1 dn rs) (os:=xW x43.2.1) (hc:=λ w hs=>cY x43.1 _ h43.bd h43.go h43.ok hs)) (λ x44=>?_);try (refine aB (λ h44=>?_)));refine aY (λ x7=>?_);refine J5 ?_;refine Aj ?_;refine aN ?_;refine cZ ?_;refine kK ?_)
      all_goals
       refine bF (λ c47=>?_) (λ c47=>?_)
       · try exact nv c47
         all_goals
          have g1:=h44.1.to (λ _=>if_pos c47)
         all_goals (refine aT ?_;refine aT ?_;refine eE [0,1,2,3,4,5,6,7] ?_;refine jP ?_;refine tO ?_;refine ly ?_;refine eO ?_)
         all_goals
          refine bF (λ c56=>?_) (λ c56=>?_)
          · try exact nv c56
            all_goals (refine gR ?_;(refine aF (cV (hc:=λ w1 hw=>gM _ _ w1)) (λ x59=>?_);try (refine aB (λ h59=>?_)));refine J5 ?_)
            all_goals
             refine bH Tryz.results83 (λ w hw=>?_)
             obtain⟨N,hN,hf⟩:=hch.to (t':=K (jR true (aD x43.2.1.L x43.1).nd.val)) h43 (g1.to (λ _=>if_pos (by assumption))) hlc (bS _)
             exact⟨(jR true (aD x43.2.1.L x43.1).nd.val,x43.2.1,N),rfl,hN,(hw.dO hf).aV (hF:=by exact aW.all)⟩
          · try exact nv c56
            all_goals (refine aZ ?_;refine J0 ?_;(refine aF (cV (hc:=λ w1 hw=>gM _ _ w1)) (λ x60=>?_);try (refine aB (λ h60=>?_)));refine J5 ?_)
            all_goals
             refine bH Tryz.results83 (λ w hw=>?_)
             obtain⟨N,hN,hf⟩:=hch.to (t':=K (jR false 0)) h43 (g1.to (λ _=>if_neg (by assumption))) hlc (bS _)
             exact⟨(jR false 0,x43.2.1,N),rfl,hN,(hw.dO hf).aV (hF:=by exact aW.all)⟩
       · try exact nv c47
         all_goals
          have g1:=h44.1.to (λ _=>if_neg c47)
         all_goals refine kK ?_
         all_goals
          refine bF (λ c61=>?_) (λ c61=>?_)
          · try exact nv c61
            all_goals
             have g2:=g1.to (λ _=>if_pos c61)
            all_goals (refine aT ?_;refine eE [0,1,2,3,4,5,6,7,8,9,10,11,12] ?_;refine jP ?_;refine tO ?_;((refine bA (i:=7) (hq:=(cV (hc:=λ w1 hw=>Iu (v:=aD x43.2.1.L x43.1) (n:=0) k.key (hw.Xv hch hA h43.ok x43.1) (h43.ok.zi _)))) (h:=λ x71=>?_);try (refine aK (λ h71=>?_))));refine aL ?_;refine cI (i:=9) (hq:=(bX rf rfl)) (h:=?_);refine cI (i:=10) (hq:=(bX rf rfl)) (h:=?_);refine Oi ?_;refine jE ?_;(refine aF (cV (hc:=λ w1 hw=>gM _ _ w1)) (λ x76=>?_);try (refine aB (λ h76=>?_)));refine J5 ?_)
            all_goals
             refine bH Tryz.results83 (λ w hw=>?_)
             obtain⟨N,hN,hf⟩:=hch.to (t':=K (jR (eI (aD x43.2.1.L x43.1).c.ys k.key).isSome ((eI (aD x43.2.1.L x43.1).c.ys k.key).getD 0))) h43 (g2) hlc (bS _)
             exact⟨(jR (eI (aD x43.2.1.L x43.1).c.ys k.key).isSome ((eI (aD x43.2.1.L x43.1).c.ys k.key).getD 0),x43.2.1,N),rfl,hN,(hw.dO hf).aV (hF:=by exact aW.all)⟩
          · try exact nv c61
            all_goals
             have g2:=g1.to (λ _=>if_neg c61)
            all_goals (refine mN ?_;refine aT ?_;refine dL [(0,[]),(1,[]),(2,[]),(3,[0]),(4,[]),(5,[]),(6,[]),(7,[]),(8,[]),(9,[])] ?_;refine bT ?_;refine gD ?_;((refine bA (i:=3) (hq:=(cV (hc:=λ w1 hw=>fN (sA k.key m) ((n-y.1:Nat):Int) w1))) (h:=λ x81=>?_);try (refine aK (λ h81=>?_))));((refine bA (i:=4) (hq:=(cV (hc:=λ w1 hw=>Ih (v:=aD x43.2.1.L x43.1) h44.2 (gZ (lP k.key m) ((n-y.1:Nat):Int)) (hw.Xv hch hA h43.ok x43.1)))) (h:=λ x82=>?_);try (refine aK (λ h82=>?_))));refine aL ?_;refine cI (i:=6) (hq:=(bX rf rfl)) (h:=?_);refine cI (i:=7) (hq:=(bX rf rfl)) (h:=?_);refine Oi ?_;refine aT ?_;refine kZ ?_;refine aA ?_)
            all_goals (first|refine aG ?_|(refine aC ?_;refine aA ?_)|(refine dG 89 (λ g89=>?_) (λ g89=>?_)<;>(first|refine aG ?_|(refine aC ?_;refine aA ?_))))
            all_goals (refine Ju ?_;refine aN ?_)
            all_goals
             refine bF (λ c92=>?_) (λ c92=>?_)
             · try exact nv c92
               all_goals (refine J0 ?_;(refine aF (cV (hc:=λ w1 hw=>gM _ _ w1)) (λ x93=>?_);try (refine aB (λ h93=>?_)));refine J5 ?_)
               all_goals
                refine bH Tryz.results83 (λ w hw=>?_)
                obtain⟨N,hN,hf⟩:=hch.to (t':=K (jR false 0)) h43 (by first|exact g2.cA (by assumption)|exact Ke g2 (by assumption)) hlc (bS _)
                exact⟨(jR false 0,x43.2.1,N),rfl,hN,(hw.dO hf).aV (hF:=by exact aW.all)⟩
             · try exact nv c92
               all_goals (refine iW ?_;refine jE ?_;(refine aF (cM (hs:=xH k bx bm x43.2.1 dn rs) (os:=xW x43.2.1) (hc:=λ w hs=>cY ((mB (aD x43.2.1.L x43.1).c (gZ (lP k.key m) ((n-y.1:Nat):Int))).getD 0) _ (pB h44.2 _) (sV g2 (by assumption)) h43.ok hs)) (λ x96=>?_);try (refine aB (λ h96=>?_)));refine aY (λ x12=>?_);refine J5 ?_;refine gR ?_;refine tE ?_)
               all_goals
                refine bF (λ c99=>?_) (λ c99=>?_)
                · try exact nv c99
                  all_goals (refine aT ?_;refine aT ?_;refine eE [0,1,2,3,4,5,6,7] ?_;refine jP ?_;refine tO ?_;refine ly ?_;refine eO ?_)
                  all_goals
                   refine bF (λ c107=>?_) (λ c107=>?_)
                   · try exact nv c107
                     all_goals (refine gR ?_;(refine aF (cV (hc:=λ w1 hw=>gM _ _ w1)) (λ x110=>?_);try (refine aB (λ h110=>?_)));refine J5 ?_)
                     all_goals
                      refine bH Tryz.results83 (λ w hw=>?_)
                      obtain⟨N,hN,hf⟩:=hch.to (t':=K (jR true (aD x43.2.1.L ((mB (aD x43.2.1.L x43.1).c (gZ (lP k.key m) ((n-y.1:Nat):Int))).getD 0)).nd.val)) h43 ((h96.1.to (λ _=>if_pos c99)).to (λ _=>if_pos (by assumption))) hlc (bS _)
                      exact⟨(jR true (aD x43.2.1.L ((mB (aD x43.2.1.L x43.1).c (gZ (lP k.key m) ((n-y.1:Nat):Int))).getD 0)).nd.val,x43.2.1,N),rfl,hN,(hw.dO hf).aV (hF:=by exact aW.all)⟩
                   · try exact nv c107
                     all_goals (refine aZ ?_;refine J0 ?_;(refine aF (cV (hc:=λ w1 hw=>gM _ _ w1)) (λ x111=>?_);try (refine aB (λ h111=>?_)));refine J5 ?_)
                     all_goals
                      refine bH Tryz.results83 (λ w hw=>?_)
                      obtain⟨N,hN,hf⟩:=hch.to (t':=K (jR false 0)) h43 ((h96.1.to (λ _=>if_pos c99)).to (λ _=>if_neg (by assumption))) hlc (bS _)
                      exact⟨(jR false 0,x43.2.1,N),rfl,hN,(hw.dO hf).aV (hF:=by exact aW.all)⟩
                · try exact nv c99
                  all_goals (refine aZ ?_;refine xU ?_;refine J1 ?_;refine eV ?_;refine uH ?_)
                  all_goals
                   refine gY ((y.1-1,((mB (aD x43.2.1.L x43.1).c (gZ (lP k.key m) ((n-y.1:Nat):Int))).getD 0),x43.2.1,y.2.2.2++x43.2.2)) ?_ (hw1:=λ w hw=>(hw.dO fL).back (hF:=by exact aW.all))
                   · have e1:y.1-1=f:=by omega
                     have e2:((n-y.1:Nat):Int)+1=((n-f:Nat):Int):=by omega
                     refine⟨by show y.1-1<=n;omega,(hx.2.trans h43).cX ?_ (pB h44.2 _)⟩
                     show gC g x43.2.1 (B6 k.t (lP k.key m) k.key K (y.1-1) ((mB (aD x43.2.1.L x43.1).c (gZ (lP k.key m) ((n-y.1:Nat):Int))).getD 0) ((n-(y.1-1):Nat):Int))
                     rw[e1,<- e2]
                     exact h96.1.to (λ _=>if_neg c99)
    · try exact nv c36
      all_goals (refine bQ rfl ?_;refine J0 ?_;refine zN ?_)
      all_goals
       refine bH Tryz.results83 (λ w hw=>?_)
       obtain⟨N,hN,hf⟩:=hx.2.ch.to (t':=K (Rs.zero)) hx.2 (hx.2.go.cA (by simpa using c36)) hx.2.lc (bS _)
       exact⟨(Rs.zero,y.2.2.1,N),rfl,hN,(hw.dO hf).aV (hF:=by exact aW.all)⟩
end
end

end Go.Proofs.YtpobgmdalcpomaaGreat

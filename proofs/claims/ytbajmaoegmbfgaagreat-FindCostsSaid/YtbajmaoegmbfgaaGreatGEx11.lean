/- Merged. -/
import Derived.Test.YtbajmaoegmbfgaaGreatGEx6
import Derived.Test.YtbajmaoegmbfgaaGreatGBr5
import Derived.Test.YtbajmaoegmbfgaaGreatGJoin
set_option linter.unusedSimpArgs false
set_option linter.unusedVariables false
namespace Go.Proofs.YtbajmaoegmbfgaaGreat
open Go.Proofs.Tryz
open Go Go.RowKit Go.Ct
section
theorem fM{h:Nat}(hh:h<18446744073709551616)(level:Int)(w:World):Calls prog 218 #[.int .u64 (h:Int),.int .i64 level] w λ e w'=>e=.returned (.int .i64 (eZ h level))/\St w [] [] w':=by
 by_cases hl:level<0∨10<level
 ·unfold eZ;rw[if_pos hl];refine enter func218 ntmps218 rfl rfl (SF.s0 w) ?_;simp only[cC];refine Ka6 ?_;refine Au ?_;(refine eF 7 (λ g7=>?_) (λ g7=>?_)<;>refine Ka0 ?_);all_goals (refine Ka7 ?_)
  all_goals
  refine bD (λ c10=>?_) (λ c10=>?_)
  ·all_goals try (exfalso;omega)
   all_goals refine cX ?_
   all_goals refine aS results218 (λ w hw=>?_);exact⟨rfl,hw.done⟩
  ·try exact nv c10
   all_goals try (exfalso;omega)
 ·unfold eZ;rw[if_neg hl];exact Ec (l:=level.toNat) (by omega) hh (by omega) w
section
variable{m c:Nat}{o:Option (Nat×List Int)}{w:World}
noncomputable abbrev coB (o:Option (Nat×List Int)) (x:Option Addr×Nat) (level:Int) (s:Nd):Bool:=Tb (nD o x) (mX o) [] level s
noncomputable abbrev Pd (o:Option (Nat×List Int)) (x:Option Addr×Nat) (level:Int) (s:Nd):Nd:=za (coB o x level s) (nD o x) s
noncomputable abbrev Y4 (o:Option (Nat×List Int)) (x:Option Addr×Nat) (level:Int) (s:Nd):List Int:=sq (coB o x level s) (mX o)
theorem xz{α:Type}(t:Bool):sq t ([]:List α)=[]:=by unfold sq;split<;>rfl
theorem Qa(h:xR m o)(x:Option Addr×Nat):∃b:Nat,(nD o x).bm=(b:Int)/\b<18446744073709551616:=by
 cases o with
 | none=>exact⟨0,rfl,by decide⟩
 | some q=>exact⟨q.1,rfl,(h.out q rfl).1⟩
theorem Sb(h:xR m o){x:Option Addr×Nat}(hc:Go.Ct.Cl w x.1 (aH (mX o))):sE w (nD o x) (mX o) []:=by
 refine⟨Fw _ _,Fl _ _,?_,?_,by have:=h.len;omega,by decide⟩
 ·cases o with
  | none=>exact Cl.nil _ _
  | some q=>exact hc
 ·exact Cl.nil _ _
theorem Yj(h:xR m o){x:Option Addr×Nat}(level:Int)(s:Nd)(hc:Go.Ct.Cl w x.1 (aH (mX o))):Calls prog 221 #[(nD o x).v,.int .i64 level,s.v] w λ e w'=>e=.returned (Pd o x level s).v/\St w [] [] w':=by obtain⟨b,h1,h2⟩:=Qa h x;exact Ex (n:=nD o x) level s h1 h2 (Sb h hc)
theorem aAg(x:Option Addr×Nat)(level:Int)(s:Nd):coV (Jv o) level (s.c [] [])=(Pd o x level s).c (Y4 o x level s) []:=by have:=(aEp (n:=nD o x) (s:=s) (xs:=mX o) (ys:=[]) level).symm;rw[G9,xz] at this;exact this
theorem gv(x:Option Addr×Nat)(level:Int)(s:Nd):(Pd o x level s).brN=(Y4 o x level s).length:=by
 unfold Pd za Y4 sq;split;·rfl
 ·exact Fw _ _
theorem m8(x:Option Addr×Nat)(level:Int)(s:Nd):(Pd o x level s).prN=([]:List Pr).length:=by
 unfold Pd za;split;·rfl
 ·exact Fl _ _
theorem W7(h:xR m o)(x:Option Addr×Nat)(level:Int)(s:Nd):(Y4 o x level s).length<=274877906944:=by
 unfold Y4 sq;split;·exact Nat.zero_le _
 ·exact h.len
theorem Xy(h:xR m o)(x:Option Addr×Nat)(level:Int){s:Nd}(hh:∃b:Nat,s.hash=(b:Int)/\b<18446744073709551616):mT m c {(Pd o x level s).c (Y4 o x level s) [] with main:=0,prev:=0,status:=0}:=by
 unfold Pd za Y4 sq;split;·exact⟨bM _,bM _,bM _,(λ r hr=>nomatch hr),bM _,bM _,bM _,⟨0,rfl,by decide⟩,hh⟩
 ·exact h.nvB x
theorem aAs{A F:Fr}{O:List Ow}{x:Option Addr×Nat}{level:Int}{s:Nd}:bG A ((x.1,aH (mX o))::F) O [((Pd o x level s).brA,aH (Y4 o x level s)),((Pd o x level s).prA,dI [])]:=by
 unfold Pd za Y4 sq;split;·exact .cons (.inl rfl) (.cons (.inl rfl) .nil)
 ·exact Ub
end
variable{n:Nd}{c:Nat}{v:aR}{i:Int}{o:Option Int}
theorem nh(n:Nd):(G5 n).brN=([]:List Int).length/\(G5 n).prN=([]:List Pr).length:=by unfold G5;split<;>exact⟨rfl,rfl⟩
theorem Qc(h:∃b:Nat,n.hash=(b:Int)/\b<18446744073709551616):∃b:Nat,(G5 n).hash=(b:Int)/\b<18446744073709551616:=by
 unfold G5;split;·exact h
 ·exact⟨0,rfl,by decide⟩
theorem aBx{m:Nat}(h:∃b:Nat,n.hash=(b:Int)/\b<18446744073709551616):mT m c {(G5 n).c [] [] with main:=0,prev:=0,status:=0}:=by have h2:=Qc h;revert h2;unfold G5;split<;>exact λ h2=>⟨bM _,bM _,bM _,(λ r hr=>nomatch hr),bM _,bM _,bM _,⟨0,rfl,by decide⟩,h2⟩
theorem aDs{n:Nat}(h:mT n c v.c){r:Int}:T4 v.c i r=Jv (S6 v i r):=(aCO (fD h).1 i r).symm
theorem aC3{n:Nat}(h:mT n c v.c):O2 v.c i=Jv (mh v i):=(aDc (fD h).1 i).symm
theorem aCm{c:Int}(h1:o.isSome=true)(h2:o.getD 0=c):o=some c:=by
 cases o with
 | none=>cases h1
 | some v=>exact congrArg some h2
theorem yn{c:Int}(h1:o.isSome=false):¬o=some c:=λ h=>by rw[h] at h1;cases h1
theorem xw{c:Int}(h1:o.getD 0≠c):¬o=some c:=λ h=>by rw[h] at h1;exact h1 rfl
section
variable{k:Cl}{bx bm:Nat}{x:XS}{dn:Bool}{rs:Rs}{D:List Nat}{A:Fr}{w:World}{g:Gx}
theorem wz(hg:g.Ok)(t:dV)(i c index:Int)(K:Int->Tr)(ht:t.root<=9223372036854775807)(hi:i<=x.L.length)(hc:c<=x.L.length)(hA:∀f∈aP x.L,f∈A)(go:gG g x (N7 t i c index K))(ok:x.Ok)(hs:SF w D (xH k bx bm x dn rs) A [] (xW x) w):Calls prog 181 #[.pointer (some ⟨bx,0,none⟩),Oz t,.int .i64 i,.int .i64 c,.int .i64 index] w λ e w'=>∃q:Int×XS×List aR,e=.returned (.int .i64 q.1)/\Nx g x q.2.1 q.2.2 (K q.1) q.1/\SF w D (xH k bx bm q.2.1 dn rs) [] (aP q.2.2) (xW q.2.1) w':=by
 refine enter func181 ntmps181 rfl rfl (cI hs) ?_;simp only[cC];simp only[Oz];refine J0 ?_;refine bL (λ x6=>?_);refine zO ?_;refine aD (cM (hs:=xH k bx bm x dn rs) (os:=xW x) (hc:=λ w hs=>cQ c _ hc go ok hs)) (λ x18 h18=>?_);refine aA ?_;refine aN (cV (hc:=λ w1 hw=>Ko (v:=aB x.L c) (ok.nv c) index (ok.sM hw hA c))) (λ x20=>?_);refine K0c ?_;refine J8 ?_;refine Kb5 ?_;refine aA ?_;refine aD (cM (hs:=xH k bx bm x dn rs) (os:=xW x) (hc:=λ w hs=>pN hg t ((iO (aB x.L c).c index).getD 0) _ ht (lV (ok.nv c) index) h18.1 ok hs)) (λ x26 h26=>?_);refine zO ?_;refine aA ?_;refine aD (cM (hs:=xH k bx bm x26.2.1 dn rs) (os:=xW x26.2.1) (hc:=λ w hs=>cQ i _ (by have:=h26.len;omega) h26.go h26.ok hs)) (λ x30 h30=>?_);refine cL ?_;refine bN ?_;refine aA ?_;refine aD (cM (hs:=xH k bx bm x26.2.1 dn rs) (os:=xW x26.2.1) (A0:=[(none,aH []),(none,dI [])]) (hc:=λ w hs=>hU hg (n:={Nd.zero with kind:=2,gen:=(aB x26.2.1.L i).nd.gen}) (xs:=[]) (ys:=[]) x26.1 _ rfl rfl (by decide) (Nat.zero_le _) sN h26.bd h30.1 h26.ok hs)) (λ x34 h34=>?_);have hch:=Ch.nx h34 ((Ch.base (F:=[])).nx h26);refine jG ?_;refine aV ?_;refine eM [(0,[]),(1,[]),(2,[]),(3,[]),(4,[]),(5,[]),(6,[]),(7,[]),(8,[1]),(9,[])] ?_;refine aT ?_;refine Kb3 ?_;refine iR ?_;refine iR ?_;refine bK (i:=8) (hq:=(cM (hs:=xH k bx bm x34.2.1 dn rs) (os:=xW x34.2.1) (A0:=aP x34.2.1.L) (hA:=Ch.all hch hA) (hc:=λ w hs=>Cs hg c index x34.1 _ (by have:=h26.len;have:=h34.len;omega) h34.bd (λ f hf=>hf) h34.go h34.ok hs))) (h:=λ x43 h43=>?_);refine bK (i:=9) (hq:=(cM (hs:=xH k bx bm x43.2.1 dn rs) (os:=xW x43.2.1) (hc:=λ w hs=>tY hg t i c x43.1 _ ht (by have:=h26.len;have:=h34.len;have:=h43.len;omega) h43.bd h43.go h43.ok hs))) (h:=λ x44 h44=>?_);have hch2:=Ch.nx h44 (Ch.nx h43 hch);have hlc:x.cs.length<=x44.2.1.cs.length:=by have:=h26.lc;have:=h34.lc;have:=h43.lc;have:=h44.lc;omega
 refine eS ?_;refine bD (λ c44=>?_) (λ c44=>?_);·refine Ka5 ?_;refine aS results181 (λ w hw=>?_);obtain⟨N,hN,hf⟩:=hch2.to h44 (h44.go.to (t':=K x34.1) (λ _=>by rw[if_pos (by assumption)])) hlc (show x34.1<=_ by have:=h34.bd;have:=h43.len;have:=h44.len;omega);exact⟨(x34.1,x44.2.1,N),rfl,hN,(hw.fA hf).v4⟩
 ·refine aW ?_;refine cX ?_;refine aS results181 (λ w hw=>?_);obtain⟨N,hN,hf⟩:=hch2.to h44 (h44.go.to (t':=K 0) (λ _=>by rw[if_neg (by simp only[Bool.not_eq_true];assumption)])) hlc (show(0:Int)<=_ from bM _);exact⟨(0,x44.2.1,N),rfl,hN,(hw.fA hf).v4⟩
end
end
section
section
variable{k:Cl}{bx bm:Nat}{x:XS}{dn:Bool}{rs:Rs}{D:List Nat}{A:Fr}{w:World}{g:Gx}
theorem N8(hg:g.Ok)(t:dV)(p c:Int){h:Nat}(hh:h<18446744073709551616)(level:Int)(K:Bool->Tr)(ht:t.root<=9223372036854775807)(hp:p<=x.L.length)(hc:c<=x.L.length)(hA:∀f∈aP x.L,f∈A)(go:gG g x (vY t p c h level K))(ok:x.Ok)(hs:SF w D (xH k bx bm x dn rs) A [] (xW x) w):Calls prog 182 #[.pointer (some ⟨bx,0,none⟩),Oz t,.int .i64 p,.int .i64 c,.int .u64 (h:Int),.int .i64 level] w λ e w'=>∃q:Bool×XS×List aR,e=.returned (.bool q.1)/\Nx g x q.2.1 q.2.2 (K q.1) 0/\SF w D (xH k bx bm q.2.1 dn rs) [] (aP q.2.2) (xW q.2.1) w':=by
 refine enter func182 ntmps182 rfl rfl (cI hs) ?_;simp only[cC];simp only[Oz];refine J0 ?_;refine bL (λ x7=>?_);refine Ka4 ?_;refine bO ?_;refine aA ?_;refine aD (cM (hs:=xH k bx bm x dn rs) (os:=xW x) (hc:=λ w hs=>pN hg t p _ ht hp go ok hs)) (λ x25 h25=>?_);have hch:=(Ch.base (F:=[])).nx h25;have hl25:=h25.len;refine zO ?_;refine aN (cV (hc:=λ w1 hw=>fM hh level w1)) (λ x28=>?_);refine jG ?_;refine iZ ?_;refine aD (cM (hs:=xH k bx bm x25.2.1 dn rs) (os:=xW x25.2.1) (hc:=λ w hs=>cQ x25.1 _ h25.bd h25.go h25.ok hs)) (λ x32 h32=>?_);refine aA ?_;refine aN (cV (hc:=λ w1 hw=>Ko (v:=aB x25.2.1.L x25.1) h32.2 (eZ h level) (hw.oc hch hA h25.ok x25.1))) (λ x34=>?_);refine K0c ?_;refine J8 ?_;refine mY ?_;refine aA ?_;(refine eF 41 (λ g41=>?_) (λ g41=>?_)<;>refine Ka0 ?_);all_goals (refine Ov ?_;refine aA ?_)
 all_goals (first|refine aI ?_|(refine eF 45 (λ g45=>?_) (λ g45=>?_)<;>refine Ka0 ?_))
 all_goals (refine Ka0 ?_;refine S4 ?_;refine aG ?_)
 all_goals
  refine bD (λ c49=>?_) (λ c49=>?_)
  ·all_goals refine cX ?_
   all_goals refine aS results182 (λ w hw=>?_);obtain⟨N,hN,hf⟩:=hch.to (t':=K false) h25 (by first|exact h32.1.bY (by assumption)|exact h32.1.to (λ _=>if_neg (yn (by assumption)))|exact h32.1.to (λ _=>if_neg (xw (by assumption)))) h25.lc (bM _);exact⟨(false,x25.2.1,N),rfl,hN,(hw.fA hf).v4⟩
  ·try exact nv c49
   all_goals have g1:=h32.1.to (λ _=>if_pos (aCm (by assumption) (by assumption)))
   all_goals (refine Ar ?_;refine bO ?_;refine aA ?_;refine aD (cM (hs:=xH k bx bm x25.2.1 dn rs) (os:=xW x25.2.1) (hc:=λ w hs=>pN hg t c _ ht (by omega) g1 h25.ok hs)) (λ x55 h55=>?_))
   all_goals have hch2:=Ch.nx h55 hch;have hl55:=h55.len
   all_goals (refine aD (cM (hs:=xH k bx bm x55.2.1 dn rs) (os:=xW x55.2.1) (hc:=λ w hs=>cQ x55.1 _ h55.bd h55.go h55.ok hs)) (λ x56 h56=>?_);refine aN (cV (hc:=λ w1 hw=>Jz (aB x55.2.1.L x55.1).nd w1)) (λ x57=>?_);refine aA ?_;refine aC (bQ rf rfl) rfl ?_;refine aC (bQ rf rfl) rfl ?_;refine aJ (λ x17=>?_);refine lU (λ _=>?_);refine jG ?_;refine mY ?_;refine aA ?_)
   all_goals ((refine eF 64 (λ g64=>?_) (λ g64=>?_)<;>refine Ka0 ?_))
   all_goals (refine Kc4 ?_)
   all_goals
    refine bD (λ c67=>?_) (λ c67=>?_)
    ·all_goals refine cX ?_
     all_goals refine aS results182 (λ w hw=>?_);obtain⟨N,hN,hf⟩:=hch2.to (t':=K false) h55 (by first|exact h56.1.bY (by assumption)|exact h56.1.to (λ _=>if_neg (show ¬(aB x55.2.1.L x55.1).c.kind=5 from by assumption))) (by have:=h25.lc;have:=h55.lc;omega) (bM _);exact⟨(false,x55.2.1,N),rfl,hN,(hw.fA hf).v4⟩
    ·try exact nv c67
     all_goals have g2:=h56.1.to (λ _=>if_pos (show(aB x55.2.1.L x55.1).c.kind=5 from by assumption))
     all_goals (refine aW ?_;refine Kb5 ?_;refine aD (cM (hs:=xH k bx bm x55.2.1 dn rs) (os:=xW x55.2.1) (A0:=[((G5 (aB x55.2.1.L x55.1).nd).brA,aH []),((G5 (aB x55.2.1.L x55.1).nd).prA,dI [])]) (hA:=.cons (.inl rfl) (.cons (.inl rfl) .nil)) (hc:=λ w hs=>hU hg (n:=G5 (aB x55.2.1.L x55.1).nd) (xs:=[]) (ys:=[]) 0 _ (nh _).1 (nh _).2 (by decide) (Nat.zero_le _) (aBx h56.2.hash) (bM _) (by rw[aCs (xs:=(aB x55.2.1.L x55.1).xs) (ys:=(aB x55.2.1.L x55.1).ys)];exact g2) h55.ok hs)) (λ x70 h70=>?_))
     all_goals have hch3:=Ch.nx h70 hch2;have hl70:=h70.len;have hb25:=h25.bd
     all_goals (refine zO ?_;refine aD (cM (hs:=xH k bx bm x70.2.1 dn rs) (os:=xW x70.2.1) (hc:=λ w hs=>cQ x25.1 _ (by omega) h70.go h70.ok hs)) (λ x74 h74=>?_);refine qL ?_;refine aD (cF (hc:=λ w1 hw=>aAe (v:=aB x70.2.1.L x25.1) h74.2 (eZ h level) x70.1 (hw.oc hch3 hA h70.ok x25.1))) (λ x77 h77=>?_))
     all_goals have hB:=j9 h74.2 h70.bd (eZ h level);have hch4:=hch3.cons (f:=(x77.1,aH (mX (S6 (aB x70.2.1.L x25.1) (eZ h level) x70.1))))
     all_goals (refine aA ?_;refine aC (bQ rf rfl) rfl ?_;refine aC (bQ rf rfl) rfl ?_;refine aJ (λ x20=>?_);refine lU (λ _=>?_);refine jG ?_;refine eM [(0,[]),(1,[]),(2,[]),(3,[]),(4,[]),(5,[]),(6,[]),(7,[]),(9,[]),(8,[1]),(10,[1]),(11,[]),(12,[])] ?_;refine aT ?_;refine Kb3 ?_;refine aT ?_;refine bW ?_;refine aT ?_;refine bW ?_;refine aT ?_;refine dD (i:=8) (hq:=(cV (hc:=λ w1 hw=>Yj hB level (G5 (aB x55.2.1.L x55.1).nd) (hw.cl (.new .head))))) (h:=λ x88=>?_);refine bK (i:=10) (hq:=(cM (hs:=xH k bx bm x70.2.1 dn rs) (os:=xW x70.2.1) (A0:=[((Pd (S6 (aB x70.2.1.L x25.1) (eZ h level) x70.1) x77 level (G5 (aB x55.2.1.L x55.1).nd)).brA,aH (Y4 (S6 (aB x70.2.1.L x25.1) (eZ h level) x70.1) x77 level (G5 (aB x55.2.1.L x55.1).nd))),((Pd (S6 (aB x70.2.1.L x25.1) (eZ h level) x70.1) x77 level (G5 (aB x55.2.1.L x55.1).nd)).prA,dI [])]) (hA:=aAs) (hc:=λ w hs=>hU hg (n:=Pd (S6 (aB x70.2.1.L x25.1) (eZ h level) x70.1) x77 level (G5 (aB x55.2.1.L x55.1).nd)) (xs:=Y4 (S6 (aB x70.2.1.L x25.1) (eZ h level) x70.1) x77 level (G5 (aB x55.2.1.L x55.1).nd)) (ys:=[]) x25.1 _ (gv _ _ _) (m8 _ _ _) (W7 hB _ _ _) (Nat.zero_le _) (Xy hB _ _ (Qc h56.2.hash)) (by omega) (by rw[<- aAg,<- aDs h74.2,aCs (xs:=(aB x55.2.1.L x55.1).xs) (ys:=(aB x55.2.1.L x55.1).ys)];exact h74.1) h70.ok hs))) (h:=λ x90 h90=>?_);refine bK (i:=11) (hq:=(cM (hs:=xH k bx bm x90.2.1 dn rs) (os:=xW x90.2.1) (hc:=λ w hs=>tY hg t p x25.1 x90.1 _ ht (by have:=h90.len;omega) (by have:=h90.bd;omega) h90.go h90.ok hs))) (h:=λ x91 h91=>?_))
     all_goals have hch5:=Ch.nx h91 (Ch.nx h90 hch4);have hlc:x.cs.length<=x91.2.1.cs.length:=by have:=h25.lc;have:=h55.lc;have:=h70.lc;have:=h90.lc;have:=h91.lc;omega
     all_goals refine J7 ?_
     all_goals refine aS results182 (λ w hw=>?_);obtain⟨N,hN,hf⟩:=hch5.to (t':=K x91.1) h91 h91.go hlc (bM _);exact⟨(x91.1,x91.2.1,N),rfl,hN,(hw.fA hf).v4⟩
end
end
end Go.Proofs.YtbajmaoegmbfgaaGreat
namespace Go.Ct
open Go Go.RowKit
section
def byt(s:ByteArray)(i:Nat):Nat:=(s.data.getD i 0).toNat
theorem N4(s:ByteArray)(i:Nat):byt s i<256:=(s.data.getD i 0).toNat_lt
def hsN(s:ByteArray):Nat->Nat
 | 0=>14695981039346656037
 | i+1=>((hsN s i ^^^ byt s i)*1099511628211)%18446744073709551616
theorem Jd(s:ByteArray):∀i,hsN s i<18446744073709551616
 | 0=>by show 14695981039346656037<18446744073709551616;decide
 | _+1=>Nat.mod_lt _ (by decide)
def jN(s:ByteArray)(m:Nat):Nat:=hsN s s.size &&& m
theorem pK(s:ByteArray)(m:Nat):jN s m<18446744073709551616:=Nat.lt_of_le_of_lt Nat.and_le_left (Jd s _)
section
variable{P:Program}{S:List (Nat×Value)}{G:World->Prop}{d:Nat}{ty t t':TypeId}{pos:String}{af:Array Edge}{gd:Option (Nat×Bool)}{x y:Operand}{a b i:Nat}{s:ByteArray}
theorem jb(hx:ev S x=.string s)(hy:ev S y=.int .i64 (i:Int))(ht:P.underlying t=some .string)(h:i<s.size):aL P S G ⟨some d,.index t x y,ty,pos,af,gd⟩ (.int .u8 (byt s i:Int)):=⟨λ w _=>by
 have e:(s[((i:Nat):Int).toNat]'(by simpa using h)).toNat=byt s i:=by unfold byt;rw[Array.getD_eq_getD_getElem?,Array.getElem?_eq_getElem (by simpa using h)];rfl
 simp only[execOp,hx,hy,Sem.run_bind];rw[run_index_string w t s .i64 i ht,dif_pos ⟨bM _,by omega⟩,e];rfl⟩
theorem ki(hx:ev S x=.int .u64 (a:Int))(hy:ev S y=.int .u64 (b:Int))(ha:a<18446744073709551616)(hb:b<18446744073709551616):aL P S G ⟨some d,.binOp .xor t x y t',ty,pos,af,gd⟩ (.int .u64 ((a ^^^ b:Nat):Int)):=by have:=aCM (P:=P) (G:=G) (d:=d) (ty:=ty) (pos:=pos) (af:=af) (gd:=gd) (t:=t) (t':=t') hx hy;rwa [gq ha hb] at this
theorem nz(hx:ev S x=.int .u64 (a:Int))(hy:ev S y=.int .u64 (b:Int)):aL P S G ⟨some d,.binOp .mul t x y t',ty,pos,af,gd⟩ (.int .u64 ((a*b%18446744073709551616:Nat):Int)):=by
 have:=j4 (P:=P) (G:=G) (d:=d) (ty:=ty) (pos:=pos) (af:=af) (gd:=gd) (t:=t) (t':=t') hx hy;have e:IntKind.u64.wrap ((a:Int)*(b:Int))=((a*b%18446744073709551616:Nat):Int):=by rw[<- Int.natCast_mul,wrap_u64];generalize a*b=q;omega
 rwa [e] at this
end
end
end Go.Ct
namespace Go.Proofs.YtbajmaoegmbfgaaGreat
open Go.Proofs.Tryz
open Go Go.RowKit Go.Ct
section
theorem Zz(key:ByteArray){m:Nat}(hm:m<18446744073709551616)(hk:key.size<=4611686018427387903)(w:World):Calls prog 222 #[.string key,.int .u64 (m:Int)] w λ e w'=>e=.returned (.int .u64 ((jN key m:Nat):Int))/\St w [] [] w':=by
 refine enter func222 ntmps222 rfl rfl (SF.s0 w) ?_;simp only[cC];refine cX ?_;refine Fh ?_;refine E9 ?_;refine gK [5,6,7,8,9,10,11,12,13,14,15,16,17,18,19] (λ y:Nat=>[(6,.int .i64 ((y:Nat):Int)),(5,.int .u64 ((hsN key y:Nat):Int))]) (λ y=>y<=key.size) (λ y=>key.size-y) (0) (Nat.zero_le _) ?_ (λ y f hx=>?_);·repeat (first|exact bF _|refine bB (by exact rfl) ?_)
 refine K0a ?_;refine Cb ?_;refine kT ?_;refine zR ?_;refine bD (λ c10=>?_) (λ c10=>?_)
 ·refine sG ?_;refine xN ?_;refine qL ?_;refine aN (eO (jb (s:=key) (i:=y) rf rf (by kernel_rfl) (by omega))) (λ x16=>?_);refine K1x ?_;refine aC (nz rf rf) rfl ?_;refine J1 ?_;refine Kb2 ?_;refine eN (y+1) ?_ ?_ ?_;·omega
  ·repeat' (first|exact bF _|refine bB ?_ ?_)
   all_goals (exact rfl)
  ·omega
 ·refine bS rfl ?_;refine iZ ?_;refine aC (Th rf rf (Jd _ _) hm) rfl ?_;refine J1 ?_;refine aS results222 (λ w hw=>?_);have hy:y=key.size:=by omega
  subst hy;exact⟨rfl,hw.done⟩
theorem oB(key:ByteArray)(w:World):Calls prog 208 #[.string key] w λ e w'=>e=.returned (.bool (decide (key.size<=64)))/\St w [] [] w':=by refine enter func208 ntmps208 rfl rfl (SF.s0 w) ?_;simp only[cC];refine Kb4 ?_;refine kT ?_;refine wB ?_;refine J1 ?_;refine aS results208 (λ w hw=>?_);exact⟨by rw[show decide (key.size<=64)=decide ((key.size:Int)<=64) from decide_eq_decide.2 (by omega)];rfl,hw.done⟩
theorem gV(f:Bool)(v:Int)(w:World):Calls prog 223 #[.bool f,.int .u64 v] w λ e w'=>e=.returned (.agg ⟨(Rs.mk 0 f v ⟨#[]⟩ 0 0 0 false).cells⟩)/\St w [] [] w':=by refine enter func223 ntmps223 rfl rfl (SF.s0 w) ?_;simp only[cC];refine K0q ?_;intro x4;refine iZ ?_;refine xX ?_;refine aY results223 (λ w hw=>?_);exact⟨rfl,hw.done⟩
end
end Go.Proofs.YtbajmaoegmbfgaaGreat
namespace Go.Ct
open Go Go.RowKit
section
variable{g:Gx}{x:XS}{o:Option Int}{T:Tr}
theorem Nx.ch{X:XS}{N:List aR}{t:Tr}{b:Int}(h:Nx g x X N t b):Ch x X (aP N):=⟨N,h.ext,λ _ hf=>.inr hf⟩
theorem nM{a b:List aR}:∀f∈aP (a++b),f.2=[]∨f∈aP b++aP a:=λ f hf=>by
 rw[cU] at hf;rcases List.mem_append.1 hf with h|h;·exact .inr (List.mem_append_right _ h)
 ·exact .inr (List.mem_append_left _ h)
theorem XS.Ok.ysl(h:x.Ok)(r:Int):(aB x.L r).ys.length<=1099511627775:=by
 have h1:=h.lL;unfold aB;split;·have:=h.ys _ (fZ (L:=x.L) (k:=(r-1).toNat) (by omega));omega
 ·exact Nat.zero_le _
theorem uR{B:Int->Tr}(h:gG g x (match o with|none=>T|some b=>B b))(hs:o.isSome=true):gG g x (B (o.getD 0)):=by
 cases o with
 | none=>cases hs
 | some b=>exact h
theorem Mu{B:Int->Tr}(h:gG g x (match o with|none=>T|some b=>B b))(hs:o.isSome=false):gG g x T:=by
 cases o with
 | none=>exact h
 | some b=>cases hs
theorem gG.kJ{n:Nat}{T:Nat->Tr}(h:gG g x (T n))(hs:x.st=false)(h0:T 0=.stuck)(hg:g.Ok):∃f,n=f+1/\gG g x (T (f+1)):=by
 cases n with
 | zero=>rw[h0] at h;exact((h.run hs).Z4 hg).elim
 | succ f=>exact⟨f,rfl,h⟩
end
end Go.Ct
namespace Go.Proofs.YtbajmaoegmbfgaaGreat
open Go.Proofs.Tryz
open Go Go.RowKit Go.Ct
section
theorem nR{key:ByteArray}{mask:Int}{m:Nat}(e:mask=(m:Int))(hm:m<18446744073709551616)(hk:key.size<=64)(w:World):Calls prog 222 #[.string key,.int .u64 mask] w λ e w'=>e=.returned (.int .u64 ((jN key m:Nat):Int))/\St w [] [] w':=by subst e;exact Zz key hm (by omega) w
theorem M5{v:aR}{n:Nat}{w:World}(k:ByteArray)(hr:sE w v.nd v.xs v.ys)(hy:v.ys.length<=1099511627775):Calls prog 60 #[.slice v.nd.prA v.nd.prN v.nd.dI,.string k] w λ e w'=>e=.returned (.tuple #[.int .u64 ((cK v.c.ys k).getD 0),.bool (cK v.c.ys k).isSome])/\St w [] [] w':=by rw[hr.prN];exact Lo k hr.pr hy
section
variable{k:Cl}{bx bm:Nat}{x:XS}{dn:Bool}{rs:Rs}{D:List Nat}{A:Fr}{w:World}{g:Gx}
set_option maxRecDepth 100000 in
theorem aAD(hg:g.Ok){m:Nat}(K:Rs->Tr)(n:Nat)(hn:n<=1073741824)(hm:m<18446744073709551616)(em:k.mask=(m:Int))(ek:k.key.size<=64)(ht:k.t.root<=9223372036854775807)(hA:∀f∈aP x.L,f∈A)(go:gG g x (kP k.t λ i=>lC k.t (jN k.key m) k.key K n i 0))(ok:x.Ok)(hs:SF w D (xH k bx bm x dn rs) A [] (xW x) w):Calls prog 183 #[.pointer (some ⟨bx,0,none⟩)] w λ e w'=>∃q:Rs×XS×List aR,e=.returned (.agg ⟨q.1.cells⟩)/\Nx g x q.2.1 q.2.2 (K q.1) 0/\SF w D (xH k bx bm q.2.1 dn rs) [] (aP q.2.2) (xW q.2.1) w':=by
 refine enter func183 ntmps183 rfl rfl (cI hs) ?_;simp only[cC];refine J0 ?_;refine aJ (λ x2=>?_);refine S8 ?_;refine eY [3,4,13,14,15,16,17,18,19,20,21,22,23,24,25,26,27,28] (λ j:Nat=>[(3,.pointer (some ⟨j,0,none⟩)),(4,.int .u64 ((jN k.key m:Nat):Int))]) (λ _=>True) (λ j=>[(j,.cells ⟨[.int .i64 k.t.root,.bool k.t.ro]⟩ 29 (0,0)),(x2,.cells ⟨Rs.zero.cells⟩ 64 (0,0)),(bx,xO k bm x dn rs),(bm,xM x)]) (λ _=>[]) (λ _=>xW x) (by decide) (λ _=>by exact rfl) ?_ (λ j f hx=>?_)
 ·refine K0g ?_;refine K0d ?_;refine gU (E:=[15,16]) (by decide +kernel) ((.cons ?_ (.cons ?_ .nil)));·refine A4 (i:=15) (hq:=(cV (hc:=λ w1 hw=>nR em hm ek w1))) (hfire:=E0h) (h:=λ x28=>?_);refine iQ (hfire:=E0a) (h:=λ x3=>?_);refine Cq ?_;refine fK (x3) ?_;·trivial
  ·refine iS (i:=16) (hfire:=E0a) (h:=λ x3=>?_);refine dD (i:=15) (hq:=(cV (hc:=λ w1 hw=>nR em hm ek w1))) (hfire:=(λ _=>by(refine aM.cons (by exact gJ (hq:=aU (k:=2) (vs:=[.int .i64 k.t.root,.bool k.t.ro]) rf cY eE rfl rfl)) ?_;exact aM.nil))) (h:=λ x28=>?_);refine Cq ?_;refine fK (x3) ?_;·trivial
 refine K0a ?_;refine Kb5 ?_;refine aD (cM (hs:=xH k bx bm x dn rs) (os:=xW x) (hc:=λ w hs=>C6 hg k.t _ ht go ok hs)) (λ x31 h31=>?_);refine jG ?_;refine E9 ?_;refine nB [5,6,7,8,9,10,11,12,32,33,34,35,36,37,38,39,40,41,42,43,44,45,46,47,48,49,50,51,52,53,54,55,56,57,58,59,60,61,62,63,64,65,66,67,68,69,70,71,72,73,74,75,76,77,78,79,80,81,82,83,84,85,86,87,88,89,90,91,92,93,94,95,96,97,98,99,100,101,102,103,104,105,106,107,108,109,110,111,112] (λ y:Nat×Int×XS×List aR=>[(5,.int .i64 y.2.1),(6,.int .i64 ((n-y.1:Nat):Int))]) (λ y=>y.1<=n/\Nx g x y.2.2.1 y.2.2.2 (lC k.t (jN k.key m) k.key K y.1 y.2.1 ((n-y.1:Nat):Int)) y.2.1) (λ y=>[(j,.cells ⟨[.int .i64 k.t.root,.bool k.t.ro]⟩ 29 (0,0)),(x2,.cells ⟨Rs.zero.cells⟩ 64 (0,0)),(bx,xO k bm y.2.2.1 dn rs),(bm,xM y.2.2.1)]) (λ y=>aP y.2.2.2) (λ y=>xW y.2.2.1) (λ y=>y.1) ((n,x31.1,x31.2.1,x31.2.2)) (⟨Nat.le_refl n,by rw[Nat.sub_self];exact h31⟩) (λ y f hx=>?_) (hw0:=λ w hw=>by rw[List.append_nil] at hw;exact hw);refine K0a ?_;refine K2a ?_;refine bD (λ c36=>?_) (λ c36=>?_)
 ·obtain⟨f,hf,gx⟩:=gG.kJ (T:=λ z=>lC k.t (jN k.key m) k.key K z y.2.1 ((n-y.1:Nat):Int)) hx.2.go (by simpa using c36) rfl hg;have hyl:=hx.1;refine sG ?_;refine iZ ?_;refine bO ?_;refine aA ?_;refine aD (cM (hs:=xH k bx bm y.2.2.1 dn rs) (os:=xW y.2.2.1) (hc:=λ w hs=>pN hg k.t y.2.1 _ ht hx.2.bd gx hx.2.ok hs)) (λ x43 h43=>?_);have hch:=Ch.nx h43 hx.2.ch;have hlc:x.cs.length<=x43.2.1.cs.length:=by have:=h43.lc;have:=hx.2.lc;omega
  refine aD (cM (hs:=xH k bx bm x43.2.1 dn rs) (os:=xW x43.2.1) (hc:=λ w hs=>cQ x43.1 _ h43.bd h43.go h43.ok hs)) (λ x44 h44=>?_);refine aJ (λ x7=>?_);refine J5 ?_;refine B9 ?_;refine aG ?_;refine cR ?_;refine lN ?_;refine bD (λ c47=>?_) (λ c47=>?_)
  ·have g1:=h44.1.to (λ _=>if_pos c47);refine aV ?_;refine aV ?_;refine gO [0,1,2,3,4,5,6,7] ?_;refine mI ?_;refine yX ?_;refine gp ?_;refine eS ?_;refine bD (λ c56=>?_) (λ c56=>?_)
   ·refine iB ?_;refine aN (cV (hc:=λ w1 hw=>gV _ _ w1)) (λ x59=>?_);refine J5 ?_;refine aY results183 (λ w hw=>?_);obtain⟨N,hN,hf⟩:=hch.to (t':=K (dO true (aB x43.2.1.L x43.1).nd.val)) h43 (g1.to (λ _=>if_pos (by assumption))) hlc (bM _);exact⟨(dO true (aB x43.2.1.L x43.1).nd.val,x43.2.1,N),rfl,hN,(hw.fA hf).v4⟩
   ·refine aW ?_;refine J0 ?_;refine aN (cV (hc:=λ w1 hw=>gV _ _ w1)) (λ x60=>?_);refine J5 ?_;refine aY results183 (λ w hw=>?_);obtain⟨N,hN,hf⟩:=hch.to (t':=K (dO false 0)) h43 (g1.to (λ _=>if_neg (by assumption))) hlc (bM _);exact⟨(dO false 0,x43.2.1,N),rfl,hN,(hw.fA hf).v4⟩
  ·have g1:=h44.1.to (λ _=>if_neg c47);refine lN ?_;refine bD (λ c61=>?_) (λ c61=>?_)
   ·have g2:=g1.to (λ _=>if_pos c61);refine aV ?_;refine gO [0,1,2,3,4,5,6,7,8,9,10,11,12] ?_;refine mI ?_;refine yX ?_;refine dD (i:=7) (hq:=(cV (hc:=λ w1 hw=>M5 (v:=aB x43.2.1.L x43.1) (n:=0) k.key (hw.oc hch hA h43.ok x43.1) (h43.ok.ysl _)))) (h:=λ x71=>?_);refine aT ?_;refine cW (i:=9) (hq:=(bQ rf rfl)) (h:=?_);refine cW (i:=10) (hq:=(bQ rf rfl)) (h:=?_);refine Qe ?_;refine iZ ?_;refine aN (cV (hc:=λ w1 hw=>gV _ _ w1)) (λ x76=>?_);refine J5 ?_;refine aY results183 (λ w hw=>?_);obtain⟨N,hN,hf⟩:=hch.to (t':=K (dO (cK (aB x43.2.1.L x43.1).c.ys k.key).isSome ((cK (aB x43.2.1.L x43.1).c.ys k.key).getD 0))) h43 (g2) hlc (bM _)
    exact⟨(dO (cK (aB x43.2.1.L x43.1).c.ys k.key).isSome ((cK (aB x43.2.1.L x43.1).c.ys k.key).getD 0),x43.2.1,N),rfl,hN,(hw.fA hf).v4⟩
   ·have g2:=g1.to (λ _=>if_neg c61);refine pP ?_;refine aV ?_;refine eM [(0,[]),(1,[]),(2,[]),(3,[0]),(4,[]),(5,[]),(6,[]),(7,[]),(8,[]),(9,[])] ?_;refine Kb3 ?_;refine dD (i:=3) (hq:=(cV (hc:=λ w1 hw=>fM (pK k.key m) ((n-y.1:Nat):Int) w1))) (h:=λ x81=>?_);refine dD (i:=4) (hq:=(cV (hc:=λ w1 hw=>Ko (v:=aB x43.2.1.L x43.1) h44.2 (eZ (jN k.key m) ((n-y.1:Nat):Int)) (hw.oc hch hA h43.ok x43.1)))) (h:=λ x82=>?_);refine aT ?_;refine cW (i:=6) (hq:=(bQ rf rfl)) (h:=?_);refine cW (i:=7) (hq:=(bQ rf rfl)) (h:=?_);refine Qe ?_;refine aV ?_;refine mY ?_;refine aA ?_;(refine eF 89 (λ g89=>?_) (λ g89=>?_)<;>refine Ka0 ?_);all_goals (refine Kc4 ?_)
    all_goals
    refine bD (λ c92=>?_) (λ c92=>?_)
    ·all_goals (refine J0 ?_;refine aN (cV (hc:=λ w1 hw=>gV _ _ w1)) (λ x93=>?_);refine J5 ?_)
     all_goals refine aY results183 (λ w hw=>?_);obtain⟨N,hN,hf⟩:=hch.to (t':=K (dO false 0)) h43 (by first|exact g2.bY (by assumption)|exact Mu g2 (by assumption)) hlc (bM _);exact⟨(dO false 0,x43.2.1,N),rfl,hN,(hw.fA hf).v4⟩
    ·try exact nv c92
     all_goals (refine lH ?_;refine iZ ?_;refine aD (cM (hs:=xH k bx bm x43.2.1 dn rs) (os:=xW x43.2.1) (hc:=λ w hs=>cQ ((iO (aB x43.2.1.L x43.1).c (eZ (jN k.key m) ((n-y.1:Nat):Int))).getD 0) _ (lV h44.2 _) (uR g2 (by assumption)) h43.ok hs)) (λ x96 h96=>?_);refine aJ (λ x12=>?_);refine J5 ?_;refine iB ?_;refine tH ?_)
     all_goals
      refine bD (λ c99=>?_) (λ c99=>?_)
      ·refine aV ?_;refine aV ?_;refine gO [0,1,2,3,4,5,6,7] ?_;refine mI ?_;refine yX ?_;refine gp ?_;refine eS ?_;refine bD (λ c107=>?_) (λ c107=>?_);·refine iB ?_;refine aN (cV (hc:=λ w1 hw=>gV _ _ w1)) (λ x110=>?_);refine J5 ?_;refine aY results183 (λ w hw=>?_);obtain⟨N,hN,hf⟩:=hch.to (t':=K (dO true (aB x43.2.1.L ((iO (aB x43.2.1.L x43.1).c (eZ (jN k.key m) ((n-y.1:Nat):Int))).getD 0)).nd.val)) h43 ((h96.1.to (λ _=>if_pos c99)).to (λ _=>if_pos (by assumption))) hlc (bM _);exact⟨(dO true (aB x43.2.1.L ((iO (aB x43.2.1.L x43.1).c (eZ (jN k.key m) ((n-y.1:Nat):Int))).getD 0)).nd.val,x43.2.1,N),rfl,hN,(hw.fA hf).v4⟩
       ·refine aW ?_;refine J0 ?_;refine aN (cV (hc:=λ w1 hw=>gV _ _ w1)) (λ x111=>?_);refine J5 ?_;refine aY results183 (λ w hw=>?_);obtain⟨N,hN,hf⟩:=hch.to (t':=K (dO false 0)) h43 ((h96.1.to (λ _=>if_pos c99)).to (λ _=>if_neg (by assumption))) hlc (bM _);exact⟨(dO false 0,x43.2.1,N),rfl,hN,(hw.fA hf).v4⟩
      ·refine aW ?_;refine xN ?_;refine J1 ?_;refine Kb2 ?_;refine iX ((y.1-1,((iO (aB x43.2.1.L x43.1).c (eZ (jN k.key m) ((n-y.1:Nat):Int))).getD 0),x43.2.1,y.2.2.2++x43.2.2)) ?_ (hw1:=λ w hw=>(hw.fA nM).v6)
       ·have e1:y.1-1=f:=by omega
        have e2:((n-y.1:Nat):Int)+1=((n-f:Nat):Int):=by omega
        refine⟨by show y.1-1<=n;omega,(hx.2.trans h43).cP ?_ (lV h44.2 _)⟩;show gG g x43.2.1 (lC k.t (jN k.key m) k.key K (y.1-1) ((iO (aB x43.2.1.L x43.1).c (eZ (jN k.key m) ((n-y.1:Nat):Int))).getD 0) ((n-(y.1-1):Nat):Int));rw[e1,<- e2];exact h96.1.to (λ _=>if_neg c99)
 ·refine bS rfl ?_;refine Kc2 ?_;refine aY results183 (λ w hw=>?_);obtain⟨N,hN,hf⟩:=hx.2.ch.to (t':=K (Rs.zero)) hx.2 (hx.2.go.bY (by simpa using c36)) hx.2.lc (bM _);exact⟨(Rs.zero,y.2.2.1,N),rfl,hN,(hw.fA hf).v4⟩
end
end
end Go.Proofs.YtbajmaoegmbfgaaGreat

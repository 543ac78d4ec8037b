/- Merged. -/
import Derived.Test.YtbajmaoegmbfgaaGreatGEx6
import Derived.Test.YtbajmaoegmbfgaaGreatGTo2
import Derived.Test.YtbajmaoegmbfgaaGreatGJoin
set_option linter.unusedSimpArgs false
set_option linter.unusedVariables false
namespace Go.Proofs.YtbajmaoegmbfgaaGreat
open Go.Proofs.Tryz
open Go Go.RowKit Go.Ct
section
theorem fN{h:Nat}(hh:h<18446744073709551616)(level:Int)(w:World):Calls prog 218 #[.int .u64 (h:Int),.int .i64 level] w λ e w'=>e=.returned (.int .i64 (eZ h level))/\St w [] [] w':=by
 by_cases hl:level<0∨10<level
 ·unfold eZ;rw[if_pos hl];refine enter func218 ntmps218 rfl rfl (SF.s0 w) ?_;simp only[cC];refine Ka7 ?_;refine A1 ?_;(refine eE 7 (λ g7=>?_) (λ g7=>?_)<;>refine Ka0 ?_);all_goals (refine Ka8 ?_)
  all_goals
  refine bD (λ c10=>?_) (λ c10=>?_)
  ·all_goals try (exfalso;omega)
   all_goals refine cU ?_
   all_goals refine aS results218 (λ w hw=>?_);exact⟨rfl,hw.done⟩
  ·try exact nv c10
   all_goals try (exfalso;omega)
 ·unfold eZ;rw[if_neg hl];exact Ez (l:=level.toNat) (by omega) hh (by omega) w
section
variable{m c:Nat}{o:Option (Nat×List Int)}{w:World}
noncomputable abbrev coB (o:Option (Nat×List Int)) (x:Option Addr×Nat) (level:Int) (s:Nd):Bool:=Tw (nN o x) (nC o) [] level s
noncomputable abbrev So (o:Option (Nat×List Int)) (x:Option Addr×Nat) (level:Int) (s:Nd):Nd:=reN (coB o x level s) (nN o x) s
noncomputable abbrev cz (o:Option (Nat×List Int)) (x:Option Addr×Nat) (level:Int) (s:Nd):List Int:=ta (coB o x level s) (nC o)
theorem yr{α:Type}(t:Bool):ta t ([]:List α)=[]:=by unfold ta;split<;>rfl
theorem Qc(h:wS m o)(x:Option Addr×Nat):∃b:Nat,(nN o x).bm=(b:Int)/\b<18446744073709551616:=by
 cases o with
 | none=>exact⟨0,rfl,by decide⟩
 | some q=>exact⟨q.1,rfl,(h.out q rfl).1⟩
theorem Sa(h:wS m o){x:Option Addr×Nat}(hc:Go.Ct.Cl w x.1 (aH (nC o))):sG w (nN o x) (nC o) []:=by
 refine⟨F5 _ _,Fz _ _,?_,?_,by have:=h.len;omega,by decide⟩
 ·cases o with
  | none=>exact Cl.nil _ _
  | some q=>exact hc
 ·exact Cl.nil _ _
theorem Wx(h:wS m o){x:Option Addr×Nat}(level:Int)(s:Nd)(hc:Go.Ct.Cl w x.1 (aH (nC o))):Calls prog 221 #[(nN o x).v,.int .i64 level,s.v] w λ e w'=>e=.returned (So o x level s).v/\St w [] [] w':=by obtain⟨b,h1,h2⟩:=Qc h x;exact Fi (n:=nN o x) level s h1 h2 (Sa h hc)
theorem aAv(x:Option Addr×Nat)(level:Int)(s:Nd):coV (Ke o) level (s.c [] [])=(So o x level s).c (cz o x level s) []:=by have:=(aEx (n:=nN o x) (s:=s) (xs:=nC o) (ys:=[]) level).symm;rw[Jc,yr] at this;exact this
theorem jr(x:Option Addr×Nat)(level:Int)(s:Nd):(So o x level s).brN=(cz o x level s).length:=by
 unfold So reN cz ta;split;·rfl
 ·exact F5 _ _
theorem j6(x:Option Addr×Nat)(level:Int)(s:Nd):(So o x level s).prN=([]:List Pr).length:=by
 unfold So reN;split;·rfl
 ·exact Fz _ _
theorem Yr(h:wS m o)(x:Option Addr×Nat)(level:Int)(s:Nd):(cz o x level s).length<=274877906944:=by
 unfold cz ta;split;·exact Nat.zero_le _
 ·exact h.len
theorem Xj(h:wS m o)(x:Option Addr×Nat)(level:Int){s:Nd}(hh:∃b:Nat,s.hash=(b:Int)/\b<18446744073709551616):mX m c {(So o x level s).c (cz o x level s) [] with main:=0,prev:=0,status:=0}:=by
 unfold So reN cz ta;split;·exact⟨bN _,bN _,bN _,(λ r hr=>nomatch hr),bN _,bN _,bN _,⟨0,rfl,by decide⟩,hh⟩
 ·exact h.nvB x
theorem aAp{A F:Fr}{O:List Ow}{x:Option Addr×Nat}{level:Int}{s:Nd}:bH A ((x.1,aH (nC o))::F) O [((So o x level s).brA,aH (cz o x level s)),((So o x level s).prA,dF [])]:=by
 unfold So reN cz ta;split;·exact .cons (.inl rfl) (.cons (.inl rfl) .nil)
 ·exact Vy
end
variable{n:Nd}{c:Nat}{v:aQ}{i:Int}{o:Option Int}
theorem lj(n:Nd):(Gp n).brN=([]:List Int).length/\(Gp n).prN=([]:List Pr).length:=by unfold Gp;split<;>exact⟨rfl,rfl⟩
theorem Qg(h:∃b:Nat,n.hash=(b:Int)/\b<18446744073709551616):∃b:Nat,(Gp n).hash=(b:Int)/\b<18446744073709551616:=by
 unfold Gp;split;·exact h
 ·exact⟨0,rfl,by decide⟩
theorem aBj{m:Nat}(h:∃b:Nat,n.hash=(b:Int)/\b<18446744073709551616):mX m c {(Gp n).c [] [] with main:=0,prev:=0,status:=0}:=by have h2:=Qg h;revert h2;unfold Gp;split<;>exact λ h2=>⟨bN _,bN _,bN _,(λ r hr=>nomatch hr),bN _,bN _,bN _,⟨0,rfl,by decide⟩,h2⟩
theorem aDR{n:Nat}(h:mX n c v.c){r:Int}:Up v.c i r=Ke (Tc v i r):=(aDy (fK h).1 i r).symm
theorem aDr{n:Nat}(h:mX n c v.c):Pg v.c i=Ke (ic v i):=(aDg (fK h).1 i).symm
theorem aCg{c:Int}(h1:o.isSome=true)(h2:o.getD 0=c):o=some c:=by
 cases o with
 | none=>cases h1
 | some v=>exact congrArg some h2
theorem w3{c:Int}(h1:o.isSome=false):¬o=some c:=λ h=>by rw[h] at h1;cases h1
theorem vw{c:Int}(h1:o.getD 0≠c):¬o=some c:=λ h=>by rw[h] at h1;exact h1 rfl
section
variable{k:Cl}{bx bm:Nat}{x:XS}{dn:Bool}{rs:Rs}{D:List Nat}{A:Fr}{w:World}{g:Gx}
theorem ye(hg:g.Ok)(t:dW)(i c index:Int)(K:Int->Tr)(ht:t.root<=9223372036854775807)(hi:i<=x.L.length)(hc:c<=x.L.length)(hA:∀f∈aN x.L,f∈A)(go:gI g x (Oq t i c index K))(ok:x.Ok)(hs:SF w D (xH k bx bm x dn rs) A [] (xW x) w):Calls prog 181 #[.pointer (some ⟨bx,0,none⟩),Pc t,.int .i64 i,.int .i64 c,.int .i64 index] w λ e w'=>∃q:Int×XS×List aQ,e=.returned (.int .i64 q.1)/\Nx g x q.2.1 q.2.2 (K q.1) q.1/\SF w D (xH k bx bm q.2.1 dn rs) [] (aN q.2.2) (xW q.2.1) w':=by
 refine enter func181 ntmps181 rfl rfl (cJ hs) ?_;simp only[cC];simp only[Pc];refine J0 ?_;refine bJ (λ x6=>?_);refine zQ ?_;refine aD (cM (hs:=xH k bx bm x dn rs) (os:=xW x) (hc:=λ w hs=>cQ c _ hc go ok hs)) (λ x18 h18=>?_);refine aA ?_;refine aP (cV (hc:=λ w1 hw=>Ld (v:=aB x.L c) (ok.nv c) index (ok.sU hw hA c))) (λ x20=>?_);refine K0c ?_;refine J8 ?_;refine J2 ?_;refine Kd0 ?_;refine aD (cM (hs:=xH k bx bm x dn rs) (os:=xW x) (hc:=λ w hs=>pS hg t ((iU (aB x.L c).c index).getD 0) _ ht (mD (ok.nv c) index) h18.1 ok hs)) (λ x26 h26=>?_);refine zQ ?_;refine aA ?_;refine aD (cM (hs:=xH k bx bm x26.2.1 dn rs) (os:=xW x26.2.1) (hc:=λ w hs=>cQ i _ (by have:=h26.len;omega) h26.go h26.ok hs)) (λ x30 h30=>?_);refine cP ?_;refine bM ?_;refine aA ?_;refine aD (cM (hs:=xH k bx bm x26.2.1 dn rs) (os:=xW x26.2.1) (A0:=[(none,aH []),(none,dF [])]) (hc:=λ w hs=>iD hg (n:={Nd.zero with kind:=2,gen:=(aB x26.2.1.L i).nd.gen}) (xs:=[]) (ys:=[]) x26.1 _ rfl rfl (by decide) (Nat.zero_le _) tP h26.bd h30.1 h26.ok hs)) (λ x34 h34=>?_);have hch:=Ch.nx h34 ((Ch.base (F:=[])).nx h26);refine jG ?_;refine aT ?_;refine eI [(0,[]),(1,[]),(2,[]),(3,[]),(4,[]),(5,[]),(6,[]),(7,[]),(8,[1]),(9,[])] ?_;refine aV ?_;refine Kb4 ?_;refine iW ?_;refine iW ?_;refine bI (i:=8) (hq:=(cM (hs:=xH k bx bm x34.2.1 dn rs) (os:=xW x34.2.1) (A0:=aN x34.2.1.L) (hA:=Ch.all hch hA) (hc:=λ w hs=>C3 hg c index x34.1 _ (by have:=h26.len;have:=h34.len;omega) h34.bd (λ f hf=>hf) h34.go h34.ok hs))) (h:=λ x43 h43=>?_);refine bI (i:=9) (hq:=(cM (hs:=xH k bx bm x43.2.1 dn rs) (os:=xW x43.2.1) (hc:=λ w hs=>uU hg t i c x43.1 _ ht (by have:=h26.len;have:=h34.len;have:=h43.len;omega) h43.bd h43.go h43.ok hs))) (h:=λ x44 h44=>?_);have hch2:=Ch.nx h44 (Ch.nx h43 hch);have hlc:x.cs.length<=x44.2.1.cs.length:=by have:=h26.lc;have:=h34.lc;have:=h43.lc;have:=h44.lc;omega
 refine eN ?_;refine bD (λ c44=>?_) (λ c44=>?_);·refine Ka4 ?_;refine aS results181 (λ w hw=>?_);obtain⟨N,hN,hf⟩:=hch2.to h44 (h44.go.to (t':=K x34.1) (λ _=>by rw[if_pos (by assumption)])) hlc (show x34.1<=_ by have:=h34.bd;have:=h43.len;have:=h44.len;omega);exact⟨(x34.1,x44.2.1,N),rfl,hN,(hw.eY hf).v4⟩
 ·refine aW ?_;refine cU ?_;refine aS results181 (λ w hw=>?_);obtain⟨N,hN,hf⟩:=hch2.to h44 (h44.go.to (t':=K 0) (λ _=>by rw[if_neg (by simp only[Bool.not_eq_true];assumption)])) hlc (show(0:Int)<=_ from bN _);exact⟨(0,x44.2.1,N),rfl,hN,(hw.eY hf).v4⟩
end
end
section
section
variable{k:Cl}{bx bm:Nat}{x:XS}{dn:Bool}{rs:Rs}{D:List Nat}{A:Fr}{w:World}{g:Gx}
theorem M1(hg:g.Ok)(t:dW)(p c:Int){h:Nat}(hh:h<18446744073709551616)(level:Int)(K:Bool->Tr)(ht:t.root<=9223372036854775807)(hp:p<=x.L.length)(hc:c<=x.L.length)(hA:∀f∈aN x.L,f∈A)(go:gI g x (xU t p c h level K))(ok:x.Ok)(hs:SF w D (xH k bx bm x dn rs) A [] (xW x) w):Calls prog 182 #[.pointer (some ⟨bx,0,none⟩),Pc t,.int .i64 p,.int .i64 c,.int .u64 (h:Int),.int .i64 level] w λ e w'=>∃q:Bool×XS×List aQ,e=.returned (.bool q.1)/\Nx g x q.2.1 q.2.2 (K q.1) 0/\SF w D (xH k bx bm q.2.1 dn rs) [] (aN q.2.2) (xW q.2.1) w':=by
 refine enter func182 ntmps182 rfl rfl (cJ hs) ?_;simp only[cC];simp only[Pc];refine J0 ?_;refine bJ (λ x7=>?_);refine Ka5 ?_;refine Kd0 ?_;refine aD (cM (hs:=xH k bx bm x dn rs) (os:=xW x) (hc:=λ w hs=>pS hg t p _ ht hp go ok hs)) (λ x25 h25=>?_);have hch:=(Ch.base (F:=[])).nx h25;have hl25:=h25.len;refine zQ ?_;refine aP (cV (hc:=λ w1 hw=>fN hh level w1)) (λ x28=>?_);refine jG ?_;refine jD ?_;refine aD (cM (hs:=xH k bx bm x25.2.1 dn rs) (os:=xW x25.2.1) (hc:=λ w hs=>cQ x25.1 _ h25.bd h25.go h25.ok hs)) (λ x32 h32=>?_);refine aA ?_;refine aP (cV (hc:=λ w1 hw=>Ld (v:=aB x25.2.1.L x25.1) h32.2 (eZ h level) (hw.fq hch hA h25.ok x25.1))) (λ x34=>?_);refine K0c ?_;refine J8 ?_;refine mP ?_;refine aA ?_;(refine eE 41 (λ g41=>?_) (λ g41=>?_)<;>refine Ka0 ?_);all_goals (refine Oh ?_;refine aA ?_)
 all_goals (first|refine aI ?_|(refine eE 45 (λ g45=>?_) (λ g45=>?_)<;>refine Ka0 ?_))
 all_goals (refine Ka0 ?_;refine Q3 ?_;refine aG ?_)
 all_goals
  refine bD (λ c49=>?_) (λ c49=>?_)
  ·all_goals refine cU ?_
   all_goals refine aS results182 (λ w hw=>?_);obtain⟨N,hN,hf⟩:=hch.to (t':=K false) h25 (by first|exact h32.1.bZ (by assumption)|exact h32.1.to (λ _=>if_neg (w3 (by assumption)))|exact h32.1.to (λ _=>if_neg (vw (by assumption)))) h25.lc (bN _);exact⟨(false,x25.2.1,N),rfl,hN,(hw.eY hf).v4⟩
  ·try exact nv c49
   all_goals have g1:=h32.1.to (λ _=>if_pos (aCg (by assumption) (by assumption)))
   all_goals (refine Bo ?_;refine Kd0 ?_;refine aD (cM (hs:=xH k bx bm x25.2.1 dn rs) (os:=xW x25.2.1) (hc:=λ w hs=>pS hg t c _ ht (by omega) g1 h25.ok hs)) (λ x55 h55=>?_))
   all_goals have hch2:=Ch.nx h55 hch;have hl55:=h55.len
   all_goals (refine aD (cM (hs:=xH k bx bm x55.2.1 dn rs) (os:=xW x55.2.1) (hc:=λ w hs=>cQ x55.1 _ h55.bd h55.go h55.ok hs)) (λ x56 h56=>?_);refine aP (cV (hc:=λ w1 hw=>Kj (aB x55.2.1.L x55.1).nd w1)) (λ x57=>?_);refine aA ?_;refine aC (bQ rf rfl) rfl ?_;refine aC (bQ rf rfl) rfl ?_;refine aJ (λ x17=>?_);refine lW (λ _=>?_);refine jG ?_;refine mP ?_;refine aA ?_)
   all_goals ((refine eE 64 (λ g64=>?_) (λ g64=>?_)<;>refine Ka0 ?_))
   all_goals (refine Kc2 ?_)
   all_goals
    refine bD (λ c67=>?_) (λ c67=>?_)
    ·all_goals refine cU ?_
     all_goals refine aS results182 (λ w hw=>?_);obtain⟨N,hN,hf⟩:=hch2.to (t':=K false) h55 (by first|exact h56.1.bZ (by assumption)|exact h56.1.to (λ _=>if_neg (show ¬(aB x55.2.1.L x55.1).c.kind=5 from by assumption))) (by have:=h25.lc;have:=h55.lc;omega) (bN _);exact⟨(false,x55.2.1,N),rfl,hN,(hw.eY hf).v4⟩
    ·try exact nv c67
     all_goals have g2:=h56.1.to (λ _=>if_pos (show(aB x55.2.1.L x55.1).c.kind=5 from by assumption))
     all_goals (refine Kb3 ?_;refine bO ?_;refine aD (cM (hs:=xH k bx bm x55.2.1 dn rs) (os:=xW x55.2.1) (A0:=[((Gp (aB x55.2.1.L x55.1).nd).brA,aH []),((Gp (aB x55.2.1.L x55.1).nd).prA,dF [])]) (hA:=.cons (.inl rfl) (.cons (.inl rfl) .nil)) (hc:=λ w hs=>iD hg (n:=Gp (aB x55.2.1.L x55.1).nd) (xs:=[]) (ys:=[]) 0 _ (lj _).1 (lj _).2 (by decide) (Nat.zero_le _) (aBj h56.2.hash) (bN _) (by rw[aCB (xs:=(aB x55.2.1.L x55.1).xs) (ys:=(aB x55.2.1.L x55.1).ys)];exact g2) h55.ok hs)) (λ x70 h70=>?_))
     all_goals have hch3:=Ch.nx h70 hch2;have hl70:=h70.len;have hb25:=h25.bd
     all_goals (refine zQ ?_;refine aD (cM (hs:=xH k bx bm x70.2.1 dn rs) (os:=xW x70.2.1) (hc:=λ w hs=>cQ x25.1 _ (by omega) h70.go h70.ok hs)) (λ x74 h74=>?_);refine qX ?_;refine aD (cF (hc:=λ w1 hw=>aAy (v:=aB x70.2.1.L x25.1) h74.2 (eZ h level) x70.1 (hw.fq hch3 hA h70.ok x25.1))) (λ x77 h77=>?_))
     all_goals have hB:=mw h74.2 h70.bd (eZ h level);have hch4:=hch3.cons (f:=(x77.1,aH (nC (Tc (aB x70.2.1.L x25.1) (eZ h level) x70.1))))
     all_goals (refine aA ?_;refine aC (bQ rf rfl) rfl ?_;refine aC (bQ rf rfl) rfl ?_;refine aJ (λ x20=>?_);refine lW (λ _=>?_);refine jG ?_;refine eI [(0,[]),(1,[]),(2,[]),(3,[]),(4,[]),(5,[]),(6,[]),(7,[]),(9,[]),(8,[1]),(10,[1]),(11,[]),(12,[])] ?_;refine aV ?_;refine Kb4 ?_;refine aV ?_;refine bV ?_;refine aV ?_;refine bV ?_;refine aV ?_;refine dB (i:=8) (hq:=(cV (hc:=λ w1 hw=>Wx hB level (Gp (aB x55.2.1.L x55.1).nd) (hw.cl (.new .head))))) (h:=λ x88=>?_);refine bI (i:=10) (hq:=(cM (hs:=xH k bx bm x70.2.1 dn rs) (os:=xW x70.2.1) (A0:=[((So (Tc (aB x70.2.1.L x25.1) (eZ h level) x70.1) x77 level (Gp (aB x55.2.1.L x55.1).nd)).brA,aH (cz (Tc (aB x70.2.1.L x25.1) (eZ h level) x70.1) x77 level (Gp (aB x55.2.1.L x55.1).nd))),((So (Tc (aB x70.2.1.L x25.1) (eZ h level) x70.1) x77 level (Gp (aB x55.2.1.L x55.1).nd)).prA,dF [])]) (hA:=aAp) (hc:=λ w hs=>iD hg (n:=So (Tc (aB x70.2.1.L x25.1) (eZ h level) x70.1) x77 level (Gp (aB x55.2.1.L x55.1).nd)) (xs:=cz (Tc (aB x70.2.1.L x25.1) (eZ h level) x70.1) x77 level (Gp (aB x55.2.1.L x55.1).nd)) (ys:=[]) x25.1 _ (jr _ _ _) (j6 _ _ _) (Yr hB _ _ _) (Nat.zero_le _) (Xj hB _ _ (Qg h56.2.hash)) (by omega) (by rw[<- aAv,<- aDR h74.2,aCB (xs:=(aB x55.2.1.L x55.1).xs) (ys:=(aB x55.2.1.L x55.1).ys)];exact h74.1) h70.ok hs))) (h:=λ x90 h90=>?_);refine bI (i:=11) (hq:=(cM (hs:=xH k bx bm x90.2.1 dn rs) (os:=xW x90.2.1) (hc:=λ w hs=>uU hg t p x25.1 x90.1 _ ht (by have:=h90.len;omega) (by have:=h90.bd;omega) h90.go h90.ok hs))) (h:=λ x91 h91=>?_))
     all_goals have hch5:=Ch.nx h91 (Ch.nx h90 hch4);have hlc:x.cs.length<=x91.2.1.cs.length:=by have:=h25.lc;have:=h55.lc;have:=h70.lc;have:=h90.lc;have:=h91.lc;omega
     all_goals refine J7 ?_
     all_goals refine aS results182 (λ w hw=>?_);obtain⟨N,hN,hf⟩:=hch5.to (t':=K x91.1) h91 h91.go hlc (bN _);exact⟨(x91.1,x91.2.1,N),rfl,hN,(hw.eY hf).v4⟩
end
end
end Go.Proofs.YtbajmaoegmbfgaaGreat
namespace Go.Ct
open Go Go.RowKit
section
def byt(s:ByteArray)(i:Nat):Nat:=(s.data.getD i 0).toNat
theorem N0(s:ByteArray)(i:Nat):byt s i<256:=(s.data.getD i 0).toNat_lt
def hsN(s:ByteArray):Nat->Nat
 | 0=>14695981039346656037
 | i+1=>((hsN s i ^^^ byt s i)*1099511628211)%18446744073709551616
theorem Ij(s:ByteArray):∀i,hsN s i<18446744073709551616
 | 0=>by show 14695981039346656037<18446744073709551616;decide
 | _+1=>Nat.mod_lt _ (by decide)
def jQ(s:ByteArray)(m:Nat):Nat:=hsN s s.size &&& m
theorem pQ(s:ByteArray)(m:Nat):jQ s m<18446744073709551616:=Nat.lt_of_le_of_lt Nat.and_le_left (Ij s _)
section
variable{P:Program}{S:List (Nat×Value)}{G:World->Prop}{d:Nat}{ty t t':TypeId}{pos:String}{af:Array Edge}{gd:Option (Nat×Bool)}{x y:Operand}{a b i:Nat}{s:ByteArray}
theorem iz(hx:ev S x=.string s)(hy:ev S y=.int .i64 (i:Int))(ht:P.underlying t=some .string)(h:i<s.size):aM P S G ⟨some d,.index t x y,ty,pos,af,gd⟩ (.int .u8 (byt s i:Int)):=⟨λ w _=>by
 have e:(s[((i:Nat):Int).toNat]'(by simpa using h)).toNat=byt s i:=by unfold byt;rw[Array.getD_eq_getD_getElem?,Array.getElem?_eq_getElem (by simpa using h)];rfl
 simp only[execOp,hx,hy,Sem.run_bind];rw[run_index_string w t s .i64 i ht,dif_pos ⟨bN _,by omega⟩,e];rfl⟩
theorem sc(hx:ev S x=.int .u64 (a:Int))(hy:ev S y=.int .u64 (b:Int))(ha:a<18446744073709551616)(hb:b<18446744073709551616):aM P S G ⟨some d,.binOp .xor t x y t',ty,pos,af,gd⟩ (.int .u64 ((a ^^^ b:Nat):Int)):=by have:=aDI (P:=P) (G:=G) (d:=d) (ty:=ty) (pos:=pos) (af:=af) (gd:=gd) (t:=t) (t':=t') hx hy;rwa [rl ha hb] at this
theorem qe(hx:ev S x=.int .u64 (a:Int))(hy:ev S y=.int .u64 (b:Int)):aM P S G ⟨some d,.binOp .mul t x y t',ty,pos,af,gd⟩ (.int .u64 ((a*b%18446744073709551616:Nat):Int)):=by
 have:=zt (P:=P) (G:=G) (d:=d) (ty:=ty) (pos:=pos) (af:=af) (gd:=gd) (t:=t) (t':=t') hx hy;have e:IntKind.u64.wrap ((a:Int)*(b:Int))=((a*b%18446744073709551616:Nat):Int):=by rw[<- Int.natCast_mul,wrap_u64];generalize a*b=q;omega
 rwa [e] at this
end
end
end Go.Ct
namespace Go.Proofs.YtbajmaoegmbfgaaGreat
open Go.Proofs.Tryz
open Go Go.RowKit Go.Ct
section
theorem cp(key:ByteArray){m:Nat}(hm:m<18446744073709551616)(hk:key.size<=4611686018427387903)(w:World):Calls prog 222 #[.string key,.int .u64 (m:Int)] w λ e w'=>e=.returned (.int .u64 ((jQ key m:Nat):Int))/\St w [] [] w':=by
 refine enter func222 ntmps222 rfl rfl (SF.s0 w) ?_;simp only[cC];refine cU ?_;refine Je ?_;refine Fq ?_;refine gF [5,6,7,8,9,10,11,12,13,14,15,16,17,18,19] (λ y:Nat=>[(6,.int .i64 ((y:Nat):Int)),(5,.int .u64 ((hsN key y:Nat):Int))]) (λ y=>y<=key.size) (λ y=>key.size-y) (0) (Nat.zero_le _) ?_ (λ y f hx=>?_);·repeat (first|exact bF _|refine aX (by exact rfl) ?_)
 refine K0a ?_;refine D1 ?_;refine kW ?_;refine wF ?_;refine bD (λ c10=>?_) (λ c10=>?_)
 ·refine rT ?_;refine yG ?_;refine qX ?_;refine aP (fD (iz (s:=key) (i:=y) rf rf (by kernel_rfl) (by omega))) (λ x16=>?_);refine K2e ?_;refine aC (qe rf rf) rfl ?_;refine J1 ?_;refine Kb6 ?_;refine eG (y+1) ?_ ?_ ?_;·omega
  ·repeat' (first|exact bF _|refine aX ?_ ?_)
   all_goals (exact rfl)
  ·omega
 ·refine K1t ?_;refine jD ?_;refine aC (Uo rf rf (Ij _ _) hm) rfl ?_;refine J1 ?_;refine aS results222 (λ w hw=>?_);have hy:y=key.size:=by omega
  subst hy;exact⟨rfl,hw.done⟩
theorem oI(key:ByteArray)(w:World):Calls prog 208 #[.string key] w λ e w'=>e=.returned (.bool (decide (key.size<=64)))/\St w [] [] w':=by refine enter func208 ntmps208 rfl rfl (SF.s0 w) ?_;simp only[cC];refine Kb5 ?_;refine kW ?_;refine xR ?_;refine J1 ?_;refine aS results208 (λ w hw=>?_);exact⟨by rw[show decide (key.size<=64)=decide ((key.size:Int)<=64) from decide_eq_decide.2 (by omega)];rfl,hw.done⟩
theorem gZ(f:Bool)(v:Int)(w:World):Calls prog 223 #[.bool f,.int .u64 v] w λ e w'=>e=.returned (.agg ⟨(Rs.mk 0 f v ⟨#[]⟩ 0 0 0 false).cells⟩)/\St w [] [] w':=by refine enter func223 ntmps223 rfl rfl (SF.s0 w) ?_;simp only[cC];refine K0t ?_;intro x4;refine jD ?_;refine wU ?_;refine aZ results223 (λ w hw=>?_);exact⟨rfl,hw.done⟩
end
end Go.Proofs.YtbajmaoegmbfgaaGreat
namespace Go.Ct
open Go Go.RowKit
section
variable{g:Gx}{x:XS}{o:Option Int}{T:Tr}
theorem Nx.ch{X:XS}{N:List aQ}{t:Tr}{b:Int}(h:Nx g x X N t b):Ch x X (aN N):=⟨N,h.ext,λ _ hf=>.inr hf⟩
theorem nR{a b:List aQ}:∀f∈aN (a++b),f.2=[]∨f∈aN b++aN a:=λ f hf=>by
 rw[cX] at hf;rcases List.mem_append.1 hf with h|h;·exact .inr (List.mem_append_right _ h)
 ·exact .inr (List.mem_append_left _ h)
theorem XS.Ok.ysl(h:x.Ok)(r:Int):(aB x.L r).ys.length<=1099511627775:=by
 have h1:=h.lL;unfold aB;split;·have:=h.ys _ (fH (L:=x.L) (k:=(r-1).toNat) (by omega));omega
 ·exact Nat.zero_le _
theorem tS{B:Int->Tr}(h:gI g x (match o with|none=>T|some b=>B b))(hs:o.isSome=true):gI g x (B (o.getD 0)):=by
 cases o with
 | none=>cases hs
 | some b=>exact h
theorem Ob{B:Int->Tr}(h:gI g x (match o with|none=>T|some b=>B b))(hs:o.isSome=false):gI g x T:=by
 cases o with
 | none=>exact h
 | some b=>cases hs
theorem gI.kV{n:Nat}{T:Nat->Tr}(h:gI g x (T n))(hs:x.st=false)(h0:T 0=.stuck)(hg:g.Ok):∃f,n=f+1/\gI g x (T (f+1)):=by
 cases n with
 | zero=>rw[h0] at h;exact((h.run hs).ad hg).elim
 | succ f=>exact⟨f,rfl,h⟩
end
end Go.Ct
namespace Go.Proofs.YtbajmaoegmbfgaaGreat
open Go.Proofs.Tryz
open Go Go.RowKit Go.Ct
section
theorem nZ{key:ByteArray}{mask:Int}{m:Nat}(e:mask=(m:Int))(hm:m<18446744073709551616)(hk:key.size<=64)(w:World):Calls prog 222 #[.string key,.int .u64 mask] w λ e w'=>e=.returned (.int .u64 ((jQ key m:Nat):Int))/\St w [] [] w':=by subst e;exact cp key hm (by omega) w
theorem M7{v:aQ}{n:Nat}{w:World}(k:ByteArray)(hr:sG w v.nd v.xs v.ys)(hy:v.ys.length<=1099511627775):Calls prog 60 #[.slice v.nd.prA v.nd.prN v.nd.dF,.string k] w λ e w'=>e=.returned (.tuple #[.int .u64 ((cL v.c.ys k).getD 0),.bool (cL v.c.ys k).isSome])/\St w [] [] w':=by rw[hr.prN];exact Dh k hr.pr hy
section
variable{k:Cl}{bx bm:Nat}{x:XS}{dn:Bool}{rs:Rs}{D:List Nat}{A:Fr}{w:World}{g:Gx}
set_option maxRecDepth 100000 in
theorem aBf(hg:g.Ok){m:Nat}(K:Rs->Tr)(n:Nat)(hn:n<=1073741824)(hm:m<18446744073709551616)(em:k.mask=(m:Int))(ek:k.key.size<=64)(ht:k.t.root<=9223372036854775807)(hA:∀f∈aN x.L,f∈A)(go:gI g x (kI k.t λ i=>lE k.t (jQ k.key m) k.key K n i 0))(ok:x.Ok)(hs:SF w D (xH k bx bm x dn rs) A [] (xW x) w):Calls prog 183 #[.pointer (some ⟨bx,0,none⟩)] w λ e w'=>∃q:Rs×XS×List aQ,e=.returned (.agg ⟨q.1.cells⟩)/\Nx g x q.2.1 q.2.2 (K q.1) 0/\SF w D (xH k bx bm q.2.1 dn rs) [] (aN q.2.2) (xW q.2.1) w':=by
 refine enter func183 ntmps183 rfl rfl (cJ hs) ?_;simp only[cC];refine J0 ?_;refine aJ (λ x2=>?_);refine Qa ?_;refine eR [3,4,13,14,15,16,17,18,19,20,21,22,23,24,25,26,27,28] (λ j:Nat=>[(3,.pointer (some ⟨j,0,none⟩)),(4,.int .u64 ((jQ k.key m:Nat):Int))]) (λ _=>True) (λ j=>[(j,.cells ⟨[.int .i64 k.t.root,.bool k.t.ro]⟩ 29 (0,0)),(x2,.cells ⟨Rs.zero.cells⟩ 64 (0,0)),(bx,xO k bm x dn rs),(bm,xM x)]) (λ _=>[]) (λ _=>xW x) (by decide) (λ _=>by exact rfl) ?_ (λ j f hx=>?_)
 ·refine K0i ?_;refine K0d ?_;refine gL (E:=[15,16]) (by decide +kernel) ((.cons ?_ (.cons ?_ .nil)));·refine Bd (i:=15) (hq:=(cV (hc:=λ w1 hw=>nZ em hm ek w1))) (hfire:=E0i) (h:=λ x28=>?_);refine iP (hfire:=E0a) (h:=λ x3=>?_);refine C1 ?_;refine fC (x3) ?_;·trivial
  ·refine iL (i:=16) (hfire:=E0a) (h:=λ x3=>?_);refine dB (i:=15) (hq:=(cV (hc:=λ w1 hw=>nZ em hm ek w1))) (hfire:=(λ _=>by(refine aL.cons (by exact gD (hq:=aU (k:=2) (vs:=[.int .i64 k.t.root,.bool k.t.ro]) rf cY eD rfl rfl)) ?_;exact aL.nil))) (h:=λ x28=>?_);refine C1 ?_;refine fC (x3) ?_;·trivial
 refine K0a ?_;refine J2 ?_;refine bO ?_;refine aD (cM (hs:=xH k bx bm x dn rs) (os:=xW x) (hc:=λ w hs=>D5 hg k.t _ ht go ok hs)) (λ x31 h31=>?_);refine jG ?_;refine Fq ?_;refine mN [5,6,7,8,9,10,11,12,32,33,34,35,36,37,38,39,40,41,42,43,44,45,46,47,48,49,50,51,52,53,54,55,56,57,58,59,60,61,62,63,64,65,66,67,68,69,70,71,72,73,74,75,76,77,78,79,80,81,82,83,84,85,86,87,88,89,90,91,92,93,94,95,96,97,98,99,100,101,102,103,104,105,106,107,108,109,110,111,112] (λ y:Nat×Int×XS×List aQ=>[(5,.int .i64 y.2.1),(6,.int .i64 ((n-y.1:Nat):Int))]) (λ y=>y.1<=n/\Nx g x y.2.2.1 y.2.2.2 (lE k.t (jQ k.key m) k.key K y.1 y.2.1 ((n-y.1:Nat):Int)) y.2.1) (λ y=>[(j,.cells ⟨[.int .i64 k.t.root,.bool k.t.ro]⟩ 29 (0,0)),(x2,.cells ⟨Rs.zero.cells⟩ 64 (0,0)),(bx,xO k bm y.2.2.1 dn rs),(bm,xM y.2.2.1)]) (λ y=>aN y.2.2.2) (λ y=>xW y.2.2.1) (λ y=>y.1) ((n,x31.1,x31.2.1,x31.2.2)) (⟨Nat.le_refl n,by rw[Nat.sub_self];exact h31⟩) (λ y f hx=>?_) (hw0:=λ w hw=>by rw[List.append_nil] at hw;exact hw);refine K0a ?_;refine K2i ?_;refine bD (λ c36=>?_) (λ c36=>?_)
 ·obtain⟨f,hf,gx⟩:=gI.kV (T:=λ z=>lE k.t (jQ k.key m) k.key K z y.2.1 ((n-y.1:Nat):Int)) hx.2.go (by simpa using c36) rfl hg;have hyl:=hx.1;refine rT ?_;refine jD ?_;refine Kd0 ?_;refine aD (cM (hs:=xH k bx bm y.2.2.1 dn rs) (os:=xW y.2.2.1) (hc:=λ w hs=>pS hg k.t y.2.1 _ ht hx.2.bd gx hx.2.ok hs)) (λ x43 h43=>?_);have hch:=Ch.nx h43 hx.2.ch;have hlc:x.cs.length<=x43.2.1.cs.length:=by have:=h43.lc;have:=hx.2.lc;omega
  refine aD (cM (hs:=xH k bx bm x43.2.1 dn rs) (os:=xW x43.2.1) (hc:=λ w hs=>cQ x43.1 _ h43.bd h43.go h43.ok hs)) (λ x44 h44=>?_);refine aJ (λ x7=>?_);refine J5 ?_;refine K2f ?_;refine bD (λ c47=>?_) (λ c47=>?_)
  ·have g1:=h44.1.to (λ _=>if_pos c47);refine aT ?_;refine aT ?_;refine gH [0,1,2,3,4,5,6,7] ?_;refine mE ?_;refine zA ?_;refine ji ?_;refine eN ?_;refine bD (λ c56=>?_) (λ c56=>?_)
   ·refine iE ?_;refine aP (cV (hc:=λ w1 hw=>gZ _ _ w1)) (λ x59=>?_);refine J5 ?_;refine aZ results183 (λ w hw=>?_);obtain⟨N,hN,hf⟩:=hch.to (t':=K (dM true (aB x43.2.1.L x43.1).nd.val)) h43 (g1.to (λ _=>if_pos (by assumption))) hlc (bN _);exact⟨(dM true (aB x43.2.1.L x43.1).nd.val,x43.2.1,N),rfl,hN,(hw.eY hf).v4⟩
   ·refine aW ?_;refine J0 ?_;refine aP (cV (hc:=λ w1 hw=>gZ _ _ w1)) (λ x60=>?_);refine J5 ?_;refine aZ results183 (λ w hw=>?_);obtain⟨N,hN,hf⟩:=hch.to (t':=K (dM false 0)) h43 (g1.to (λ _=>if_neg (by assumption))) hlc (bN _);exact⟨(dM false 0,x43.2.1,N),rfl,hN,(hw.eY hf).v4⟩
  ·have g1:=h44.1.to (λ _=>if_neg c47);refine lP ?_;refine bD (λ c61=>?_) (λ c61=>?_)
   ·have g2:=g1.to (λ _=>if_pos c61);refine aT ?_;refine gH [0,1,2,3,4,5,6,7,8,9,10,11,12] ?_;refine mE ?_;refine zA ?_;refine dB (i:=7) (hq:=(cV (hc:=λ w1 hw=>M7 (v:=aB x43.2.1.L x43.1) (n:=0) k.key (hw.fq hch hA h43.ok x43.1) (h43.ok.ysl _)))) (h:=λ x71=>?_);refine aV ?_;refine cZ (i:=9) (hq:=(bQ rf rfl)) (h:=?_);refine cZ (i:=10) (hq:=(bQ rf rfl)) (h:=?_);refine Pa ?_;refine jD ?_;refine aP (cV (hc:=λ w1 hw=>gZ _ _ w1)) (λ x76=>?_);refine J5 ?_;refine aZ results183 (λ w hw=>?_);obtain⟨N,hN,hf⟩:=hch.to (t':=K (dM (cL (aB x43.2.1.L x43.1).c.ys k.key).isSome ((cL (aB x43.2.1.L x43.1).c.ys k.key).getD 0))) h43 (g2) hlc (bN _)
    exact⟨(dM (cL (aB x43.2.1.L x43.1).c.ys k.key).isSome ((cL (aB x43.2.1.L x43.1).c.ys k.key).getD 0),x43.2.1,N),rfl,hN,(hw.eY hf).v4⟩
   ·have g2:=g1.to (λ _=>if_neg c61);refine pE ?_;refine aT ?_;refine eI [(0,[]),(1,[]),(2,[]),(3,[0]),(4,[]),(5,[]),(6,[]),(7,[]),(8,[]),(9,[])] ?_;refine Kb4 ?_;refine dB (i:=3) (hq:=(cV (hc:=λ w1 hw=>fN (pQ k.key m) ((n-y.1:Nat):Int) w1))) (h:=λ x81=>?_);refine dB (i:=4) (hq:=(cV (hc:=λ w1 hw=>Ld (v:=aB x43.2.1.L x43.1) h44.2 (eZ (jQ k.key m) ((n-y.1:Nat):Int)) (hw.fq hch hA h43.ok x43.1)))) (h:=λ x82=>?_);refine aV ?_;refine cZ (i:=6) (hq:=(bQ rf rfl)) (h:=?_);refine cZ (i:=7) (hq:=(bQ rf rfl)) (h:=?_);refine Pa ?_;refine aT ?_;refine mP ?_;refine aA ?_;(refine eE 89 (λ g89=>?_) (λ g89=>?_)<;>refine Ka0 ?_);all_goals (refine Kc2 ?_)
    all_goals
    refine bD (λ c92=>?_) (λ c92=>?_)
    ·all_goals (refine J0 ?_;refine aP (cV (hc:=λ w1 hw=>gZ _ _ w1)) (λ x93=>?_);refine J5 ?_)
     all_goals refine aZ results183 (λ w hw=>?_);obtain⟨N,hN,hf⟩:=hch.to (t':=K (dM false 0)) h43 (by first|exact g2.bZ (by assumption)|exact Ob g2 (by assumption)) hlc (bN _);exact⟨(dM false 0,x43.2.1,N),rfl,hN,(hw.eY hf).v4⟩
    ·try exact nv c92
     all_goals (refine lB ?_;refine jD ?_;refine aD (cM (hs:=xH k bx bm x43.2.1 dn rs) (os:=xW x43.2.1) (hc:=λ w hs=>cQ ((iU (aB x43.2.1.L x43.1).c (eZ (jQ k.key m) ((n-y.1:Nat):Int))).getD 0) _ (mD h44.2 _) (tS g2 (by assumption)) h43.ok hs)) (λ x96 h96=>?_);refine aJ (λ x12=>?_);refine J5 ?_;refine iE ?_;refine tG ?_)
     all_goals
      refine bD (λ c99=>?_) (λ c99=>?_)
      ·refine aT ?_;refine aT ?_;refine gH [0,1,2,3,4,5,6,7] ?_;refine mE ?_;refine zA ?_;refine ji ?_;refine eN ?_;refine bD (λ c107=>?_) (λ c107=>?_);·refine iE ?_;refine aP (cV (hc:=λ w1 hw=>gZ _ _ w1)) (λ x110=>?_);refine J5 ?_;refine aZ results183 (λ w hw=>?_);obtain⟨N,hN,hf⟩:=hch.to (t':=K (dM true (aB x43.2.1.L ((iU (aB x43.2.1.L x43.1).c (eZ (jQ k.key m) ((n-y.1:Nat):Int))).getD 0)).nd.val)) h43 ((h96.1.to (λ _=>if_pos c99)).to (λ _=>if_pos (by assumption))) hlc (bN _);exact⟨(dM true (aB x43.2.1.L ((iU (aB x43.2.1.L x43.1).c (eZ (jQ k.key m) ((n-y.1:Nat):Int))).getD 0)).nd.val,x43.2.1,N),rfl,hN,(hw.eY hf).v4⟩
       ·refine aW ?_;refine J0 ?_;refine aP (cV (hc:=λ w1 hw=>gZ _ _ w1)) (λ x111=>?_);refine J5 ?_;refine aZ results183 (λ w hw=>?_);obtain⟨N,hN,hf⟩:=hch.to (t':=K (dM false 0)) h43 ((h96.1.to (λ _=>if_pos c99)).to (λ _=>if_neg (by assumption))) hlc (bN _);exact⟨(dM false 0,x43.2.1,N),rfl,hN,(hw.eY hf).v4⟩
      ·refine aW ?_;refine yG ?_;refine J1 ?_;refine Kb6 ?_;refine iS ((y.1-1,((iU (aB x43.2.1.L x43.1).c (eZ (jQ k.key m) ((n-y.1:Nat):Int))).getD 0),x43.2.1,y.2.2.2++x43.2.2)) ?_ (hw1:=λ w hw=>(hw.eY nR).v6)
       ·have e1:y.1-1=f:=by omega
        have e2:((n-y.1:Nat):Int)+1=((n-f:Nat):Int):=by omega
        refine⟨by show y.1-1<=n;omega,(hx.2.trans h43).cR ?_ (mD h44.2 _)⟩;show gI g x43.2.1 (lE k.t (jQ k.key m) k.key K (y.1-1) ((iU (aB x43.2.1.L x43.1).c (eZ (jQ k.key m) ((n-y.1:Nat):Int))).getD 0) ((n-(y.1-1):Nat):Int));rw[e1,<- e2];exact h96.1.to (λ _=>if_neg c99)
 ·refine K1t ?_;refine Kc0 ?_;refine aZ results183 (λ w hw=>?_);obtain⟨N,hN,hf⟩:=hx.2.ch.to (t':=K (Rs.zero)) hx.2 (hx.2.go.bZ (by simpa using c36)) hx.2.lc (bN _);exact⟨(Rs.zero,y.2.2.1,N),rfl,hN,(hw.eY hf).v4⟩
end
end
section
section
variable{x:Int}{h0 h:Nat}{p0:Pr}{k:ByteArray}{u gen:Int}{f f':Nat}
theorem Sd:∀n lvl,dN x h0 h p0 k u gen f n lvl≠[]
 | 0,lvl=>by unfold dN;split<;>exact List.cons_ne_nil _ _
 | n+1,lvl=>by rw[dN];exact λ h=>Sd n (lvl+1) (List.append_eq_nil_iff.1 h).1
theorem Ym:∀n lvl,(dN x h0 h p0 k u gen f n lvl).headD NI.no=(dN x h0 h p0 k u gen f' n lvl).headD NI.no
 | 0,lvl=>by unfold dN;split<;>rfl
 | n+1,lvl=>by
  have:=Ym n (lvl+1);rw[dN,dN];have h1:=Sd (x:=x) (h0:=h0) (h:=h) (p0:=p0) (k:=k) (u:=u) (gen:=gen) (f:=f) n (lvl+1);have h2:=Sd (x:=x) (h0:=h0) (h:=h) (p0:=p0) (k:=k) (u:=u) (gen:=gen) (f:=f') n (lvl+1);revert this h1 h2;cases dN x h0 h p0 k u gen f n (lvl+1) with
  | nil=>exact λ _ h1=>absurd rfl h1
  | cons a l=>
   cases dN x h0 h p0 k u gen f' n (lvl+1) with
   | nil=>exact λ _ _ h2=>absurd rfl h2
   | cons b l'=>exact λ this _ _=>this
structure NiB(m c:Nat)(a:NI):Prop where
 nv:mX m c {a.c0 with main:=0,prev:=0,status:=0}
 init:a.init<=m
 ys:a.ys.length<=2
theorem niB{a:NI}{m c:Nat}(h1:∀r∈a.xs,r<=m)(h2:∃b:Nat,a.n.bm=(b:Int)/\b<18446744073709551616)(h3:∃b:Nat,a.n.hash=(b:Int)/\b<18446744073709551616)(h4:a.n.bS=0/\a.n.exp=0/\a.n.new=0)(h5:a.init<=m)(h6:a.ys.length<=2):NiB m c a :=⟨⟨by show a.n.bS<=m;omega,by show a.n.exp<=m;omega,by show a.n.new<=m;omega,h1,bN _,bN _,bN _,h2,h3⟩,h5,h6⟩
theorem zg{i k:Nat}{a b r:Int}(h:r∈two i k a b):r=a∨r=b:=by
 unfold two at h;split at h;·simpa using h
 ·have:=h;simp at this;exact this.symm
theorem Zo{m c:Nat}{g i:Int}(h:i<=m):NiB m c (sJ g i):=niB (λ r hr=>(List.not_mem_nil hr).elim) ⟨0,rfl,by decide⟩ ⟨0,rfl,by decide⟩ ⟨rfl,rfl,rfl⟩ h (Nat.zero_le _)
theorem aAw{m c b:Nat}{xs:List Int}(hb:b<18446744073709551616)(h:∀r∈xs,r<=m):NiB m c (jg b xs):=niB h ⟨b,rfl,hb⟩ ⟨0,rfl,by decide⟩ ⟨rfl,rfl,rfl⟩ (bN _) (Nat.zero_le _)
theorem aD7{m c:Nat}(hh:h<18446744073709551616)(hf:1<=f)(hx:x<=m):∀n lvl i a,(dN x h0 h p0 k u gen f n lvl)[i]?=some a->f+i<=m+1->NiB m c a
 | 0,lvl,i,a=>by
  unfold dN
  split
  ·intro h1 _
   cases i with
   | zero=>cases h1;exact niB (λ r hr=>(List.not_mem_nil hr).elim) ⟨0,rfl,by decide⟩ ⟨h,rfl,hh⟩ ⟨rfl,rfl,rfl⟩ (bN _) (Nat.le_trans (On _) (Nat.le_refl 2))
   | succ i=>simp at h1
  ·intro h1 h2
   match i,h1,h2 with
   | 0,h1,_=>cases h1;exact niB (λ r hr=>(List.not_mem_nil hr).elim) ⟨0,rfl,by decide⟩ ⟨h,rfl,hh⟩ ⟨rfl,rfl,rfl⟩ (bN _) (Nat.zero_le _)
   | 1,h1,h2=>cases h1;exact aAw (A9 (A9 (by decide) _) _) (λ r hr=>(zg hr).elim (λ e=>by omega) (λ e=>by omega))
   | _+2,h1,_=>simp at h1
 | n+1,lvl,i,a=>by
  have ih:=aD7 (c:=c) hh hf hx n (lvl+1) i a;rw[dN];intro h1 h2
  generalize hl:dN x h0 h p0 k u gen f n (lvl+1)=l at ih h1
  rw[List.getElem?_append] at h1
  split at h1
  ·exact ih h1 h2
  ·rename_i h3
   match hi:i-l.length,h1 with
   | 0,h1=>cases h1;exact Zo (by omega)
   | 1,h1=>cases h1;exact aAw (A9 (by decide) _) (λ r hr=>by rw[List.mem_singleton.1 hr];omega)
   | _+2,h1=>simp at h1
end
structure DI(g:Gx)(x:XS)(K:Int->Tr)(l:List NI)(fi:Nat)(y:Nat×Int×XS×List aQ):Prop where
 le:y.1<=l.length
 st:y.2.2.1.st=false
 ok:y.2.2.1.Ok
 zero:y.1=0->y=(0,0,x,[])
 pos:y.1≠0->Nx g x y.2.2.1 y.2.2.2 (Ba (l.drop y.1) y.2.1 K) y.2.1/\1<=y.2.2.1.m/\y.2.2.1.made.getD (y.2.2.1.m-1) 0=y.2.1/\((fi+y.1:Nat):Int)<=y.2.1+1
variable{g:Gx}{x:XS}{l:List NI}{fi:Nat}
theorem DI.next{K:Int->Tr}{y:Nat×Int×XS×List aQ}(h:DI g x K l fi y){lf:Nat->List NI}(hlf:l=lf fi)(hh0:∀f f',(lf f).headD NI.no=(lf f').headD NI.no)(hne:lf fi≠[])(go:gI g x (.alloc ((lf 0).headD NI.no).c0 ((lf 0).headD NI.no).init λ f=>Ba (lf f.toNat).tail f K))(hfi:(fi:Int)=if x.m=x.made.length then((x.L.length+1:Nat):Int) else x.made.getD x.m 0)(hi:y.1<l.length) :
  ∃a K',l[y.1]?=some a/\gI g y.2.2.1 (.alloc a.c0 a.init K')/\(fi+y.1:Nat)<=y.2.2.1.L.length+1/\Ch x y.2.2.1 (aN y.2.2.2)/\x.L.length<=y.2.2.1.L.length/\∀q X' N',Nx g y.2.2.1 X' N' (K' q) q->AlS y.2.2.1 q X'->DI g x K l fi (y.1+1,q,X',y.2.2.2++N'):=by
 obtain⟨i,r,X,N⟩:=y;have hst:X.st=false:=h.st;have hok:X.Ok:=h.ok;by_cases h0:i=0
 ·have e:=h.zero h0;simp only[Prod.mk.injEq] at e;obtain⟨rfl,rfl,rfl,rfl⟩:=e;have hl:∃a t,lf fi=a::t:=by
   cases hq:lf fi with
   | nil=>exact absurd hq hne
   | cons a t=>exact⟨a,t,rfl⟩
  obtain⟨a,t,ha⟩:=hl;have hd:(lf 0).headD NI.no=a:=by rw[hh0 0 fi,ha];rfl
  rw[hd] at go;refine⟨a,_,by rw[hlf,ha];rfl,go,?_,⟨[],by simp,λ f hf=>by simp[aN] at hf⟩,Nat.le_refl _,λ q X' N' hn (ha':AlS X q X')=>?_⟩
  ·show fi+0<=X.L.length+1;split at hfi;·omega
   ·have:=mU hok.made X.m;omega
  ·obtain⟨a1,a2,a3,a4,a5⟩:=ha' hst;have hq:q=(fi:Int):=by rw[hfi];exact a5
   refine⟨hi,a1,hn.ok,λ h=>absurd h (Nat.succ_ne_zero _),λ _=>⟨?_,?_,?_,?_⟩⟩;·have h2:=hn.go;rw[hq] at h2;rw[List.nil_append];refine⟨?_,hn.ok,hn.ext,hn.lc,hn.bd⟩;show gI g X' (Ba (l.drop 1) q K);rw[hq,hlf,ha];rw[show((fi:Nat):Int).toNat=fi from by omega,ha] at h2;exact h2
   ·show 1<=X'.m;omega
   ·show X'.made.getD (X'.m-1) 0=q;rw[a2];exact a3
   ·show((fi+1:Nat):Int)<=q+1;omega
 ·obtain⟨p1,p2,p3,p4⟩:=h.pos h0;have p1':Nx g x X N (Ba (l.drop i) r K) r:=p1;have p2':1<=X.m:=p2;have p3':X.made.getD (X.m-1) 0=r:=p3;have p4':((fi+i:Nat):Int)<=r+1:=p4;have hi':i<l.length:=hi;have hd:l.drop i=l[i]::l.drop (i+1):=List.drop_eq_getElem_cons hi';have g1:=p1'.go;rw[hd] at g1;refine⟨l[i],_,List.getElem?_eq_getElem hi',g1,?_,p1'.ch,p1'.len,λ q X' N' hn (ha':AlS X q X')=>?_⟩
  ·show fi+i<=X.L.length+1;have:=p1'.bd;omega
  ·obtain⟨a1,a2,a3,a4,a5⟩:=ha' hst;refine⟨hi,a1,hn.ok,λ h=>absurd h (Nat.succ_ne_zero _),λ _=>⟨p1'.trans hn,?_,?_,?_⟩⟩;·show 1<=X'.m;omega
   ·show X'.made.getD (X'.m-1) 0=q;rw[a2];exact a3
   ·show((fi+(i+1):Nat):Int)<=q+1;have hb:r<q:=by
     rw[a5];split;·have:=p1'.bd;omega
     ·have h3:=hok.lm;rw[<- p3'];exact hok.ms _ _ (by omega) (by omega)
    omega
theorem DI.done{K:Int->Tr}{y:Nat×Int×XS×List aQ}(h:DI g x K l fi y)(hne:l≠[])(hi:¬y.1<l.length):Nx g x y.2.2.1 y.2.2.2 (K y.2.1) y.2.1:=by have h1:=h.le;have h2:0<l.length:=List.length_pos_iff.2 hne;have h3:=(h.pos (by omega)).1;rw[show y.1=l.length by omega,List.drop_length] at h3;exact h3
end
section
theorem Vw{l:List NI}{i:Nat}{a:NI}(h:l[i]?=some a):(Ja l).getD i 0=a.init:=by unfold Ja;rw[iX,List.getElem?_map,h];rfl
section
variable{k:Cl}{bx bm:Nat}{x:XS}{dn:Bool}{rs:Rs}{D:List Nat}{A:Fr}{w:World}{g:Gx}
set_option maxRecDepth 100000 in
theorem aAJ(hg:g.Ok)(b:Int){h:Nat}(hh:h<18446744073709551616)(level:Nat)(gen:Int)(K:Int->Tr)(hb:b<=x.L.length)(go:gI g x (Wt k b h level gen K))(ok:x.Ok)(hs:SF w D (xH k bx bm x dn rs) A [] (xW x) w):Calls prog 250 #[.pointer (some ⟨bx,0,none⟩),.int .i64 b,.int .u64 (h:Int),.int .i64 (level:Int),.int .i64 gen] w λ e w'=>∃q:Int×XS×List aQ,e=.returned (.int .i64 q.1)/\Nx g x q.2.1 q.2.2 (K q.1) q.1/\SF w D (xH k bx bm q.2.1 dn rs) [] (aN q.2.2) (xW q.2.1) w':=by
 have hlL:=ok.lL;have hlm:=ok.lm;have hm1:x.m<x.made.length->1<=x.made.getD x.m 0/\x.made.getD x.m 0<=x.L.length:=λ h=>⟨ok.m1 _ (by rw[iX,List.getElem?_eq_getElem h];exact List.getElem_mem h),mU ok.made _⟩;obtain⟨h0,hv0,hh0⟩:=(ok.nv b).hash
 have hv:(aB x.L b).nd.hash=(h0:Int):=hv0;refine enter func250 ntmps250 rfl rfl (cJ hs) ?_;simp only[cC]
 refine cU ?_;refine cU ?_;refine mP ?_;refine H0 ?_;refine Pb ?_;refine Eb ?_;refine jG ?_;refine eR [12,26,27,28,29,30,31,32,33,34,35,36,37,38,39,40,41,42,43,44,45] (λ q:Nat=>[(12,.int .i64 (q:Int))]) (λ q=>1<=q/\q<=x.L.length+1/\(q:Int)=if x.m=x.made.length then((x.L.length+1:Nat):Int) else x.made.getD x.m 0) (λ q=>xH k bx bm x dn rs) (λ q=>[]) (λ q=>xW x) (by decide) (λ _=>by exact rfl) ?_ (λ q f hx=>?_)
 ·refine aT ?_;refine gH [0,1,2,3,4,5,6,7,8,9] ?_;refine Fl ?_;refine qB ?_;refine Ec ?_;refine eN ?_;refine bD (λ c35=>?_) (λ c35=>?_);·have hm2:=hm1 (by omega);refine gH [0,1,2,3,4,5,6,7,8,9,10] ?_;refine Fl ?_;refine Pe ?_;refine J7 ?_;refine fC ((x.made.getD x.m 0).toNat) ?_;·exact⟨by omega,by omega,by rw[if_neg (by omega)];omega⟩
  ·refine aW ?_;refine fC (x.L.length+1) ?_;·exact⟨by omega,by omega,by rw[if_pos (by omega)]⟩
 refine K0a ?_;obtain⟨hq1,hq2,hq3⟩:=hx;refine aT ?_;refine Kc9 ?_;refine bD (λ c49=>?_) (λ c49=>?_);·refine cU ?_;refine aS results250 (λ w hw=>?_);exact⟨(0,x,[]),rfl,Nx.st (by assumption) go ok,hw.bB (hF:=by exact bA.nil)⟩
 ·refine lB ?_;refine eI [(0,[]),(1,[]),(3,[]),(4,[]),(5,[]),(6,[]),(7,[]),(8,[]),(9,[]),(10,[]),(11,[]),(12,[]),(13,[]),(14,[]),(15,[]),(16,[]),(17,[]),(2,[9,14]),(18,[]),(19,[]),(20,[]),(21,[]),(22,[]),(23,[])] ?_;refine iW ?_;refine iW ?_;refine zA ?_;refine zA ?_;refine iW ?_;refine aV ?_;refine bI (i:=2) (hq:=(cM (hs:=xH k bx bm x dn rs) (os:=xW x) (hc:=λ w hs=>cQ b _ hb go ok hs))) (h:=λ x53 h53=>?_);have e0:(aB x.L b).c.hash.toNat=h0:=by rw[hv0];simp
  have go2:=h53.1;rw[e0] at go2;refine bI (i:=18) (hq:=(cF (hc:=λ w1 hw=>gq (v:=aB x.L b) (at':=b) (h0:=h0) (h:=h) (fi:=q) (lvl:=level) hv hh0 hh hq1 (by omega) w1))) (h:=λ x69 h69=>?_);refine aV ?_;refine cZ (i:=20) (hq:=(bQ rf rfl)) (h:=?_);refine cZ (i:=21) (hq:=(bQ rf rfl)) (h:=?_);refine Pa ?_;refine aT ?_;refine Fq ?_;refine mN [11,15,72,73,74,75,76,77,78,79,80,81,82,83,84,85,86,87] (λ y:Nat×Int×XS×List aQ=>[(15,.int .i64 (y.1:Int)),(11,.int .i64 y.2.1)]) (λ y=>DI g x K (dQ b h0 h (aB x.L b) k.key k.val gen q (kX h0 h-level)) q y) (λ y=>xH k bx bm y.2.2.1 dn rs) (λ y=>(x69.pn,iH x69.L)::(x69.pc,aH x69.ini)::(aN x69.L++aN y.2.2.2)) (λ y=>xW y.2.2.1) (λ y=>x69.L.length-y.1) ((0,0,x,[])) (⟨Nat.zero_le _,by assumption,ok,λ _=>rfl,λ h=>absurd rfl h⟩) (λ y f hx=>?_) (hw0:=λ w hw=>hw.sub (List.Sublist.refl _) (bA.iT λ f hf=>by simpa[aN] using hf) (List.Sublist.refl _));refine K0a ?_;have hy:=hx;refine K1w ?_;refine bD (λ c75=>?_) (λ c75=>?_)
  ·obtain⟨hd,hd1,hd2⟩:=h69;have hle:=hd.len;have hlt:y.1<x69.L.length:=by omega
   obtain⟨a,K',ha,ga,hfb,hch,hln,hnx⟩:=hy.next (lf:=λ f=>dQ b h0 h (aB x.L b) k.key k.val gen f (kX h0 h-level)) rfl (λ f f'=>Ym _ _) (Sd _ _) go2 hq3 (by omega);obtain⟨a',ha',hma⟩:=hd.m.at hlt;have haa:a'=a:=Option.some.inj (ha'.symm.trans ha);subst haa;have hini:x69.ini.getD y.1 0=a'.init:=by rw[hd.ini];exact Vw ha
   have hB:=aD7 (c:=y.2.2.1.cs.length) hh hq1 (show b<=y.2.2.1.L.length by omega) _ _ _ _ ha (by omega);have hsx:=hma.sx;have htw:=hy.ok.two;have hcl:=Aa h0 h;have hdl:(dQ b h0 h (aB x.L b) k.key k.val gen q (kX h0 h-level)).length<=2+2*(kX h0 h-level):=Uv _ _;have hyy:=hB.ys;rw[<- hma.ys] at hyy;have hc0:(x69.L.getD y.1 aQ.zero).nd.c (x69.L.getD y.1 aQ.zero).xs (x69.L.getD y.1 aQ.zero).ys=a'.c0:=hma.c0;refine rT ?_;refine gH [0,1,2,3,4,5,6,7,8,9,10] ?_;refine iW ?_;refine aV ?_;refine Pe ?_;refine iW ?_;refine Pe ?_;refine bI (i:=9) (hq:=(cM (hs:=xH k bx bm y.2.2.1 dn rs) (os:=xW y.2.2.1) (A0:=[((x69.L.getD y.1 aQ.zero).nd.brA,aH (x69.L.getD y.1 aQ.zero).xs),((x69.L.getD y.1 aQ.zero).nd.prA,dF (x69.L.getD y.1 aQ.zero).ys)]) (hA:=bH.of λ f hf=>.inr (.inr (.inl (by simp only[List.mem_cons,List.not_mem_nil,or_false] at hf;rcases hf with rfl|rfl;exact .tail _ (.tail _ (List.mem_append_left _ (Fv hlt)));exact .tail _ (.tail _ (List.mem_append_left _ (Ge hlt))))))) (hc:=λ w hs=>Xm hg (n:=(x69.L.getD y.1 aQ.zero).nd) (xs:=(x69.L.getD y.1 aQ.zero).xs) (ys:=(x69.L.getD y.1 aQ.zero).ys) (x69.ini.getD y.1 0) K' hma.fit.brN hma.fit.prN (by omega) (by omega) (by rw[hc0];exact hB.nv) (by rw[hini];exact hB.init) (by rw[hc0,hini];exact ga) hy.ok hs))) (h:=λ x87 h87=>?_);refine J7 ?_;refine Kb6 ?_;refine iS ((y.1+1,x87.1,x87.2.1,y.2.2.2++x87.2.2)) ?_ (hw1:=λ w hw=>hw.sub (List.Sublist.refl _) (bA.iT λ f hf=>by simp only[cX,List.mem_append,List.mem_cons] at hf ⊢;rcases hf with hf|hf|hf|hf|hf;exact .inr (.inl hf);exact .inr (.inr (.inl hf));exact .inr (.inr (.inr (.inl hf)));exact .inr (.inr (.inr (.inr hf)));exact .inl hf) (List.Sublist.refl _))
   ·exact hnx _ _ _ h87.1 h87.2
  ·refine K1t ?_;refine Ka4 ?_;refine aS results250 (λ w hw=>?_);exact⟨(y.2.1,y.2.2.1,y.2.2.2),rfl,hy.done (Sd _ _) (by have:=h69.1.len;omega),(hw.eY λ f hf=>.inr (.tail _ (.tail _ (List.mem_append_right _ hf)))).v4⟩
end
end
section
section
variable{v:aQ}{n c m:Nat}{w:World}
variable{A F:Fr}{O:List Ow}{h:Int}
theorem aC2(h:mX n c v.c)(k:ByteArray)(u:Int)(hr:sG w v.nd v.xs v.ys)(hy:v.ys.length<=150000000000):Calls prog 247 #[v.nd.v,.string k,.int .u64 u] w (aCC w (lS v.nd v.xs v.ys k u) v.nd.hash):=Tn (n:=v.nd) k u (fK h).1 (fK h).2 hr hy
theorem aDJ(h:mX n c v.c)(k:ByteArray)(hr:sG w v.nd v.xs v.ys)(hy:v.ys.length<=150000000000):Calls prog 251 #[v.nd.v,.string k] w (aCD w (rC v.nd v.xs v.ys k) v.nd.hash):=Q6 (n:=v.nd) k (fK h).1 (fK h).2 hr hy
theorem j7(o:Option (List Pr))(h:Int)(x:Option Addr×Nat):(sb o h x).brN=([]:List Int).length/\(sb o h x).prN=(di o).length:=by cases o<;>exact⟨rfl,rfl⟩
theorem C4(q:List Pr)(h:Int)(x:Option Addr×Nat):(Ph (some q) h x={Nd.zero with kind:=5,hash:=h,key:=(q.getD 0 (⟨#[]⟩,0)).1,val:=(q.getD 0 (⟨#[]⟩,0)).2}/\Jv (some q)=[])∨(Ph (some q) h x={Nd.zero with kind:=6,hash:=h,prA:=x.1,prN:=q.length,dF:=x.2}/\Jv (some q)=q):=by
 by_cases hq:q.length=1;·exact .inl ⟨if_pos hq,if_pos hq⟩
 ·exact .inr ⟨if_neg hq,if_neg hq⟩
theorem pi(o:Option (List Pr))(h:Int)(x:Option Addr×Nat):(Ph o h x).brN=([]:List Int).length/\(Ph o h x).prN=(Jv o).length:=by
 cases o with
 | none=>exact⟨rfl,rfl⟩
 | some l=>rcases C4 l h x with⟨e1,e2⟩|⟨e1,e2⟩<;>rw[e1,e2]<;>exact⟨rfl,rfl⟩
theorem aD8{o:Option (List Pr)}{x:Option Addr×Nat}:bH A ((x.1,dF (di o))::F) O [((sb o h x).brA,aH []),((sb o h x).prA,dF (di o))]:=by
 cases o with
 | none=>exact .cons (.inl rfl) (.cons (.inl rfl) .nil)
 | some q=>exact .cons (.inl rfl) (.cons (.inr (.inr (.inl (.head _)))) .nil)
theorem aCz{o:Option (List Pr)}{x:Option Addr×Nat}:bH A ((x.1,dF (Jv o))::F) O [((Ph o h x).brA,aH []),((Ph o h x).prA,dF (Jv o))]:=by
 cases o with
 | none=>exact .cons (.inl rfl) (.cons (.inl rfl) .nil)
 | some q=>
  rcases C4 q h x with⟨e1,e2⟩|⟨e1,e2⟩<;>rw[e1,e2];·exact .cons (.inl rfl) (.cons (.inl rfl) .nil)
  ·exact .cons (.inl rfl) (.cons (.inr (.inr (.inl (.head _)))) .nil)
theorem aBl{o:Option (List Pr)}(x:Option Addr×Nat)(hh:∃b:Nat,h=(b:Int)/\b<18446744073709551616):mX m c {(sb o h x).c [] (di o) with main:=0,prev:=0,status:=0}:=by
 cases o with
 | none=>exact⟨bN _,bN _,bN _,(λ r hr=>nomatch hr),bN _,bN _,bN _,⟨0,rfl,by decide⟩,⟨0,rfl,by decide⟩⟩
 | some q=>exact⟨bN _,bN _,bN _,(λ r hr=>nomatch hr),bN _,bN _,bN _,⟨0,rfl,by decide⟩,hh⟩
theorem aCd{o:Option (List Pr)}(x:Option Addr×Nat)(hh:∃b:Nat,h=(b:Int)/\b<18446744073709551616):mX m c {(Ph o h x).c [] (Jv o) with main:=0,prev:=0,status:=0}:=by
 cases o with
 | none=>exact⟨bN _,bN _,bN _,(λ r hr=>nomatch hr),bN _,bN _,bN _,⟨0,rfl,by decide⟩,⟨0,rfl,by decide⟩⟩
 | some q=>rcases C4 q h x with⟨e1,e2⟩|⟨e1,e2⟩<;>rw[e1,e2]<;>exact⟨bN _,bN _,bN _,(λ r hr=>nomatch hr),bN _,bN _,bN _,⟨0,rfl,by decide⟩,hh⟩
theorem aB3(l:List Int)(ys:List Pr)(d:Nd)(k:ByteArray)(u:Int):(di (lS d l ys k u)).length<=ys.length+1:=by
 have:=vf ys k u;unfold lS;split;·exact this
 ·exact Nat.zero_le _
theorem aBQ(l:List Int)(ys:List Pr)(d:Nd)(k:ByteArray):(Jv (rC d l ys k)).length<=ys.length:=by
 have:=sf ys k;unfold rC;split
 ·simp only[Jv];split;·exact Nat.zero_le _
  ·exact this
 ·exact Nat.zero_le _
theorem sP{x:XS}(h:x.Ok)(r:Int):(aB x.L r).ys.length<=x.L.length:=by
 unfold aB;split;·exact h.ys _ (fH (L:=x.L) (k:=(r-1).toNat) (by omega))
 ·exact Nat.zero_le _
end
theorem Hy{n c h:Nat}{k:ByteArray}{u:Int}(hh:h<18446744073709551616):mX n c {(({Nd.zero with kind:=4,hash:=(h:Int),key:=k,val:=u}:Nd).c [] []) with main:=0,prev:=0,status:=0}:=⟨bN _,bN _,bN _,(λ r hr=>nomatch hr),bN _,bN _,bN _,⟨0,rfl,by decide⟩,⟨h,rfl,hh⟩⟩
theorem qQ(p:Value)(o f:Bool)(v:Int)(w:World):Calls prog 248 #[p,.bool o,.bool f,.int .u64 v] w λ e w'=>e=.returned (.tuple #[.agg ⟨(oS f v).cells⟩,.int .i64 (if o=true then 1 else 0)])/\St w [] [] w':=by
 refine enter func248 ntmps248 rfl rfl (SF.s0 w) ?_;simp only[cC];refine J0 ?_;refine aJ (λ x8=>?_);refine zQ ?_;refine aP (cV (hc:=λ w1 hw=>gZ f v w1)) (λ x13=>?_);refine aJ (λ x10=>?_);refine J5 ?_;refine J0 ?_;refine vO ?_;refine jS ?_;refine oG ?_;refine bD (λ c16=>?_) (λ c16=>?_);·refine nJ ?_;refine E8 ?_;refine aZ results248 (λ w hw=>?_);rw[if_neg (by simp_all)];exact⟨rfl,hw.done⟩
 ·refine aW ?_;refine nJ ?_;refine E8 ?_;refine aZ results248 (λ w hw=>?_);rw[if_pos (by simp_all)];exact⟨rfl,hw.done⟩
section
variable{k:Cl}{bx bm:Nat}{x:XS}{dn:Bool}{rs:Rs}{D:List Nat}{A:Fr}{w:World}{g:Gx}
theorem yC(f:Bool)(v:Int)(hs:SF w D (xH k bx bm x dn rs) A [] (xW x) w):Calls prog 246 #[.pointer (some ⟨bx,0,none⟩),.bool f,.int .u64 v] w λ e w'=>∃q:Unit,e=.returned (.bool (nP k f v))/\True/\SF w D (xH k bx bm x dn rs) [] [] (xW x) w':=by
 refine enter func246 ntmps246 rfl rfl (cJ hs) ?_;simp only[cC];refine Je ?_;refine Jw ?_;refine J3 ?_;refine aG ?_;refine cO ?_;refine lP ?_;refine bD (λ c12=>?_) (λ c12=>?_);·refine J2 ?_;refine zG ?_;refine J1 ?_;refine aS results246 (λ w hw=>?_);rw[show nP k f v=!f from if_pos (by assumption)];exact⟨(),rfl,trivial,hw.bB⟩
 ·refine lP ?_;refine bD (λ c16=>?_) (λ c16=>?_);·refine Ka4 ?_;refine aS results246 (λ w hw=>?_);rw[show nP k f v=f from(if_neg (by assumption)).trans (if_pos (by assumption))];exact⟨(),rfl,trivial,hw.bB⟩
  ·refine lP ?_;refine bD (λ c19=>?_) (λ c19=>?_)
   ·refine jD ?_;(refine eE 22 (λ g22=>?_) (λ g22=>?_)<;>refine Ka0 ?_);all_goals (refine J79 ?_;refine J6 ?_;refine vY ?_;refine J1 ?_)
    all_goals
    refine aS results246 (λ w hw=>?_);have e:nP k f v=(f&&v==k.exp):=(if_neg (by assumption)).trans ((if_neg (by assumption)).trans (if_pos (by assumption)));rw[e];exact⟨(),by simp_all<;>rfl,trivial,hw.bB⟩
   ·refine Kb0 ?_;refine aS results246 (λ w hw=>?_);rw[show nP k f v=true from(if_neg (by assumption)).trans ((if_neg (by assumption)).trans (if_neg (by assumption)))];exact⟨(),rfl,trivial,hw.bB⟩
theorem W4(hg:g.Ok)(i m index gen:Int)(K:Int->Tr)(ht:k.t.root<=9223372036854775807)(hi:i<=x.L.length)(hm:m<=x.L.length)(hA:∀f∈aN x.L,f∈A)(go:gI g x (Cy k i m index gen K))(ok:x.Ok)(hs:SF w D (xH k bx bm x dn rs) A [] (xW x) w):Calls prog 225 #[.pointer (some ⟨bx,0,none⟩),.int .i64 i,.int .i64 m,.int .i64 index,.int .i64 gen] w λ e w'=>∃q:Int×XS×List aQ,e=.returned (.int .i64 q.1)/\Nx g x q.2.1 q.2.2 (K q.1) q.1/\SF w D (xH k bx bm q.2.1 dn rs) [] (aN q.2.2) (xW q.2.1) w':=by
 refine enter func225 ntmps225 rfl rfl (cJ hs) ?_;simp only[cC];refine Kc6 ?_;refine aD (cM (hs:=xH k bx bm x dn rs) (os:=xW x) (hc:=λ w hs=>cQ m _ hm go ok hs)) (λ x16 h16=>?_);refine aA ?_;refine aP (cV (hc:=λ w1 hw=>Ld (v:=aB x.L m) (ok.nv m) index (ok.sU hw hA m))) (λ x18=>?_);refine K0c ?_;refine J8 ?_;refine aT ?_;refine mP ?_;refine aA ?_;(refine eE 25 (λ g25=>?_) (λ g25=>?_)<;>refine Ka0 ?_);all_goals (refine Ka0 ?_;(first|refine aI ?_|(refine aF ?_;refine aD (cM (hs:=xH k bx bm x dn rs) (os:=xW x) (hc:=λ w hs=>cQ ((iU (aB x.L m).c index).getD 0) _ (mD (ok.nv m) index) h16.1 ok hs)) (λ x28 h28=>?_)));refine J81 ?_;refine vY ?_;refine aG ?_)
 all_goals
 refine bD (λ c32=>?_) (λ c32=>?_)
 ·all_goals (refine Ka4 ?_)
  all_goals refine aS results225 (λ w hw=>?_);exact⟨((iU (aB x.L m).c index).getD 0,x,[]),rfl,⟨by first|exact h28.1.to (λ _=>if_pos (by assumption))|exact go.bZ (by assumption),ok,by simp,Nat.le_refl _,mD (ok.nv m) index⟩,hw.bB (hF:=by exact bA.nil)⟩
 ·try exact nv c32
  all_goals (refine Bo ?_;refine H0 ?_;refine aE ?_;refine aC (aU (k:=2) (vs:=[.int .i64 k.t.root,.bool k.t.ro]) rf cY eD rfl rfl) rfl ?_;refine qX ?_;refine aA ?_;refine aD (cM (hs:=xH k bx bm x dn rs) (os:=xW x) (A0:=aN x.L) (hA:=E0l) (hc:=λ w hs=>ye hg k.t i m index _ ht hi hm (λ f hf=>hf) (h28.1.to (λ _=>if_neg (by assumption))) ok hs)) (λ x43 h43=>?_);refine J1 ?_)
  all_goals refine aS results225 (λ w hw=>?_);exact⟨x43,rfl,h43,by rw[List.append_nil] at hw;exact hw.v4⟩
end
end
end Go.Proofs.YtbajmaoegmbfgaaGreat
namespace Go.Ct
open Go Go.RowKit
section
theorem z7{a b:ByteArray}(h:a=b):(a.toList==b.toList)=true:=by subst h;simp
theorem aAB{a b:ByteArray}(h:¬a=b):(a.toList==b.toList)=false:=by rw[beq_eq_false_iff_ne];exact λ e=>h (toList_inj e)
section
variable{P:Program}{S:List (Nat×Value)}{G:World->Prop}{d:Nat}{ty t t':TypeId}{pos:String}{af:Array Edge}{gd:Option (Nat×Bool)}{x y:Operand}{a b:ByteArray}
theorem xa(hx:ev S x=.string a)(hy:ev S y=.string b)(h:a=b):aM P S G ⟨some d,.binOp .eql t x y t',ty,pos,af,gd⟩ (.bool true):=by have:=Is (P:=P) (G:=G) (d:=d) (ty:=ty) (pos:=pos) (af:=af) (gd:=gd) (t:=t) (t':=t') hx hy;rwa [z7 h] at this
theorem w7(hx:ev S x=.string a)(hy:ev S y=.string b)(h:¬a=b):aM P S G ⟨some d,.binOp .eql t x y t',ty,pos,af,gd⟩ (.bool false):=by have:=Is (P:=P) (G:=G) (d:=d) (ty:=ty) (pos:=pos) (af:=af) (gd:=gd) (t:=t) (t':=t') hx hy;rwa [aAB h] at this
end
end
end Go.Ct
namespace Go.Proofs.YtbajmaoegmbfgaaGreat
open Go.Proofs.Tryz
open Go Go.RowKit Go.Ct
section
section
variable{v:aQ}{n c:Nat}{w:World}
theorem Lj(h:mX n c v.c){i b:Int}(e:iU v.c i=some b)(hr:sG w v.nd v.xs v.ys):Calls prog 216 #[v.nd.v,.int .i64 i] w λ e w'=>e=.returned (.tuple #[.int .i64 b,.bool true])/\St w [] [] w':=by have:=Ld h i hr;rwa [e] at this
theorem zs(h:mX n c v.c){i:Int}(e:iU v.c i=none)(hr:sG w v.nd v.xs v.ys):Calls prog 216 #[v.nd.v,.int .i64 i] w λ e w'=>e=.returned (.tuple #[.int .i64 0,.bool false])/\St w [] [] w':=by have:=Ld h i hr;rwa [e] at this
end
section
variable{k:Cl}{bx bm:Nat}{x:XS}{dn:Bool}{rs:Rs}{D:List Nat}{A:Fr}{w:World}{g:Gx}
abbrev dk(g:Gx)(x:XS)(K:Rs->Int->Tr)(bx bm:Nat)(k:Cl)(dn:Bool)(rs:Rs)(D:List Nat)(w:World)(e:Ending)(w':World):Prop:=∃q:Rs×Int×XS×List aQ,e=.returned (.tuple #[.agg ⟨q.1.cells⟩,.int .i64 q.2.1])/\Nx g x q.2.2.1 q.2.2.2 (K q.1 q.2.1) 0/\SF w D (xH k bx bm q.2.2.1 dn rs) [] (aN q.2.2.2) (xW q.2.2.1) w'
variable{h:Nat}{b:Int}
set_option maxRecDepth 100000 in
theorem db(hg:g.Ok)(i m:Int)(hh:h<18446744073709551616)(level:Nat)(hlv:level<=1073741824)(gen:Int)(K:Rs->Int->Tr)(ht:k.t.root<=9223372036854775807)(hi:i<=x.L.length)(hm:m<=x.L.length)(hA:∀f∈aN x.L,f∈A)(hk:(aB x.L m).nd.kind=6)(go:gI g x (jU k i m h level gen K))(ok:x.Ok)(hs:SF w D (xH k bx bm x dn rs) A [] (xW x) w):Calls prog 224 #[.pointer (some ⟨bx,0,none⟩),.int .i64 i,.int .i64 m,.int .u64 (h:Int),.int .i64 (level:Int),.int .i64 gen] w (dk g x K bx bm k dn rs D w):=by
 have hyl:=sP ok m;have hlL:=ok.lL;refine K1s ?_;simp only[cC]
 refine K0b ?_;intro x12;refine iP (hfire:=E0a) (h:=λ x14=>?_);refine qJ (h:=λ _=>?_);refine K0l ?_;intro x48 h48 x17;refine bD (λ c51=>?_) (λ c51=>?_)
 ·have g1:=h48.1.to (λ _=>if_pos hk);refine Kc8 ?_;refine aP (cV (hc:=λ w1 hw=>M7 (v:=(aB x.L m)) (n:=0) k.key (ok.sU hw hA m) (ok.ysl m))) (λ x56=>?_);refine K0c ?_;refine J8 ?_;refine D1 ?_;refine aA ?_;refine aD (cM (hs:=xH k bx bm x dn rs) (os:=xW x) (hc:=λ w hs=>yC _ _ hs)) (λ x62 h62=>?_);refine oG ?_;refine bD (λ c63=>?_) (λ c63=>?_)
  ·have g2:=g1.to (λ _=>if_neg (show ¬nP k (cL (aB x.L m).c.ys k.key).isSome ((cL (aB x.L m).c.ys k.key).getD 0)=true from by simpa using c63));refine jD ?_;refine aP (cV (hc:=λ w1 hw=>gZ _ _ w1)) (λ x66=>?_);refine E8 ?_;refine aZ results224 (λ w hw=>?_);exact⟨(dM (cL (aB x.L m).c.ys k.key).isSome ((cL (aB x.L m).c.ys k.key).getD 0),1,x,[]),rfl,⟨g2,ok,by simp,Nat.le_refl _,bN _⟩,hw.bB (hF:=by exact bA.nil)⟩
  ·have g2:=g1.to (λ _=>if_pos (show nP k (cL (aB x.L m).c.ys k.key).isSome ((cL (aB x.L m).c.ys k.key).getD 0)=true from by simpa using c63));refine aW ?_;refine nJ ?_;refine qX ?_;refine aD (cF (hc:=λ w1 hw=>aC2 (v:=(aB x.L m)) h48.2 k.key k.val (ok.sU hw hA m) (by omega))) (λ x71 h71=>?_);refine K0c ?_;refine aJ (λ x20=>?_);refine lW (λ _=>?_);refine jG ?_;refine eI [(0,[]),(1,[]),(2,[]),(3,[]),(4,[]),(5,[]),(6,[]),(7,[]),(10,[]),(11,[]),(8,[2]),(9,[]),(12,[]),(13,[]),(14,[]),(15,[]),(16,[])] ?_;refine iW ?_;refine Kb4 ?_;refine aV ?_;refine Kb4 ?_;refine aV ?_;refine bI (i:=8) (hq:=(cM (hs:=xH k bx bm x dn rs) (os:=xW x) (A0:=[((sb (lS (aB x.L m).nd (aB x.L m).xs (aB x.L m).ys k.key k.val) (aB x.L m).nd.hash x71).brA,aH []),((sb (lS (aB x.L m).nd (aB x.L m).xs (aB x.L m).ys k.key k.val) (aB x.L m).nd.hash x71).prA,dF (di (lS (aB x.L m).nd (aB x.L m).xs (aB x.L m).ys k.key k.val)))]) (hA:=aD8) (hc:=λ w hs=>iD hg (n:=sb (lS (aB x.L m).nd (aB x.L m).xs (aB x.L m).ys k.key k.val) (aB x.L m).nd.hash x71) (xs:=[]) (ys:=di (lS (aB x.L m).nd (aB x.L m).xs (aB x.L m).ys k.key k.val)) m _ (j7 _ _ _).1 (j7 _ _ _).2 (by decide) (by have:=aB3 (aB x.L m).xs (aB x.L m).ys (aB x.L m).nd k.key k.val;omega) (aBl _ h48.2.hash) hm (by rw[aEC];exact g2) ok hs))) (h:=λ x82 h82=>?_);refine bI (i:=9) (hq:=(cM (hs:=xH k bx bm x82.2.1 dn rs) (os:=xW x82.2.1) (hc:=λ w hs=>uU hg k.t i m x82.1 _ ht (by have:=h82.len;omega) h82.bd h82.go h82.ok hs))) (h:=λ x83 h83=>?_);have hch:=Ch.nx h83 (Ch.nx h82 ((Ch.base (F:=[])).cons (f:=(x71.1,dF (di (lS (aB x.L m).nd (aB x.L m).xs (aB x.L m).ys k.key k.val))))));have hlc:x.cs.length<=x83.2.1.cs.length:=by have:=h82.lc;have:=h83.lc;omega
   refine dB (i:=12) (hq:=(cV (hc:=λ w1 hw=>qQ _ _ _ _ w1))) (h:=λ x86=>?_);refine cZ (i:=13) (hq:=(bQ rf rfl)) (h:=?_);refine cZ (i:=14) (hq:=(bQ rf rfl)) (h:=?_);refine C1 ?_;refine aZ results224 (λ w hw=>?_);obtain⟨N,hN,hf⟩:=hch.to (t':=K (oS (cL (aB x.L m).c.ys k.key).isSome ((cL (aB x.L m).c.ys k.key).getD 0)) (if x83.1=true then 1 else 0)) h83 (h83.go) hlc (bN _);exact⟨(oS (cL (aB x.L m).c.ys k.key).isSome ((cL (aB x.L m).c.ys k.key).getD 0),(if x83.1=true then 1 else 0),x83.2.1,N),rfl,hN,(hw.eY hf).v4⟩
 ·exact absurd hk c51
set_option maxRecDepth 100000 in
theorem Z7(hg:g.Ok)(i m:Int)(hh:h<18446744073709551616)(level:Nat)(hlv:level<=1073741824)(gen:Int)(K:Rs->Int->Tr)(ht:k.t.root<=9223372036854775807)(hi:i<=x.L.length)(hm:m<=x.L.length)(hA:∀f∈aN x.L,f∈A)(hk:¬(aB x.L m).nd.kind=6)(hl:iU (aB x.L m).c (eZ h (level:Int))=none)(go:gI g x (jU k i m h level gen K))(ok:x.Ok)(hs:SF w D (xH k bx bm x dn rs) A [] (xW x) w):Calls prog 224 #[.pointer (some ⟨bx,0,none⟩),.int .i64 i,.int .i64 m,.int .u64 (h:Int),.int .i64 (level:Int),.int .i64 gen] w (dk g x K bx bm k dn rs D w):=by
 have hyl:=sP ok m;have hlL:=ok.lL;refine K1s ?_;simp only[cC]
 refine K0b ?_;intro x12;refine iP (hfire:=E0a) (h:=λ x14=>?_);refine qJ (h:=λ _=>?_);refine K0l ?_;intro x48 h48 x17;refine bD (λ c51=>?_) (λ c51=>?_);·exact absurd c51 hk
 ·have g0:=h48.1.to (λ _=>if_neg hk);have g1:=Ob g0 (by rw[hl];rfl);refine K0r ?_;intro x91;refine zQ ?_;refine aA ?_;refine bM ?_;refine aJ (λ x23=>?_);refine J5 ?_;refine E4 ?_;refine aP (cV (hc:=λ w1 hw=>zs (v:=(aB x.L m)) h48.2 hl (ok.sU hw hA m))) (λ x99=>?_);refine K0c ?_;refine J8 ?_;refine D1 ?_;refine aI ?_;(refine aI ?_);(refine aI ?_);refine J87 ?_;refine aG ?_;refine bD (λ c109=>?_) (λ c109=>?_)
  ·exact nv c109
  ·refine Bo ?_;refine aI ?_;(refine aI ?_);(refine aI ?_);refine J81 ?_;(refine aI ?_);refine cH ?_;refine zQ ?_;refine aD (cM (hs:=xH k bx bm x dn rs) (os:=xW x) (hc:=λ w hs=>fU 0 (by decide) ok hs)) (λ x122 h122=>?_);refine cP ?_;refine Kd9 ?_;refine oG ?_;refine bD (λ c125=>?_) (λ c125=>?_)
   ·refine dS ?_;refine jG ?_;refine K2g ?_;intro x129 h129;refine bD (λ c130=>?_) (λ c130=>?_);·have g2:=g1.to (λ _=>if_neg (show ¬nP k false 0=true from by simpa using c130));refine K2j ?_;intro x133 w hw;exact⟨(dM false 0,1,x,[]),rfl,⟨g2,ok,by simp,Nat.le_refl _,bN _⟩,hw.bB (hF:=by exact bA.nil)⟩
    ·have g2:=g1.to (λ _=>if_pos (show nP k false 0=true from by simpa using c130));refine rT ?_;refine J2 ?_;refine zG ?_;refine J1 ?_;refine bD (λ c134=>?_) (λ c134=>?_)
     ·refine aT ?_;refine eR [28,29,137,138,139,140,141,142,143,144,145] (λ z:Nat×(Int×XS×List aQ)×(Option Addr×Nat)×Nd=>[(28,.pointer (some ⟨z.1,0,none⟩))]) (λ z=>Nx g x z.2.1.2.1 z.2.1.2.2 (.alloc (nh (aB x.L m).c (eZ h (level:Int)) z.2.1.1) m λ r=>lH k.t i m r λ ok=>K (oS false 0) (if ok=true then 1 else 0)) z.2.1.1/\z.2.2.2=nN (dg (aB x.L m) (eZ h (level:Int)) z.2.1.1) z.2.2.1) (λ z=>[(z.1,.cells ⟨z.2.2.2.cells⟩ 47 (0,0)),(x23,.cells ⟨({Nd.zero with kind:=4,hash:=(h:Int),key:=k.key,val:=k.val}:Nd).cells⟩ 47 (0,0)),(x17,.cells ⟨(aB x.L m).nd.cells⟩ 47 (0,0)),(x14,.cells ⟨[.int .i64 k.t.root,.bool k.t.ro]⟩ 29 (0,0)),(x12,.cells ⟨Rs.zero.cells⟩ 64 (0,0)),(bx,xO k bm z.2.1.2.1 dn rs),(bm,xM z.2.1.2.1)]) (λ z=>(z.2.2.1.1,aH (nC (dg (aB x.L m) (eZ h (level:Int)) z.2.1.1)))::(aN z.2.1.2.2++[])) (λ z=>xW z.2.1.2.1) (by decide) (λ _=>by exact rfl) ?_ (λ z f hx=>?_)
      ·refine gO (.one 0 [] (.one 1 [] (.one 2 [] (.one 3 [] (.two 4 [0] (.two 5 [] (.one 6 [] (.one 7 [] (.one 8 [] (.one 9 [0,3] (.one 10 [] (.one 11 [] .nil)))))) 0 [] (.two 9 [0,3] (.one 5 [] (.one 6 [] (.one 7 [] (.one 8 [] (.one 10 [] (.one 11 [] .nil)))))) 0 [] .nil)) 0 [] (.two 9 [0,3] (.one 4 [0] (.one 5 [] (.one 6 [] (.one 7 [] (.one 8 [] (.one 10 [] (.one 11 [] .nil))))))) 0 [] .nil)))))) ?_;refine Kb4 ?_;refine bV ?_;refine gL (E:=[4,9]) (by decide +kernel) ((.cons ?_ (.cons ?_ .nil)))
       ·refine nX (i:=4) (hq:=(cM (hs:=xH k bx bm x dn rs) (os:=xW x) (A0:=[(none,aH []),(none,dF [])]) (hc:=λ w hs=>iD hg (n:={Nd.zero with kind:=4,hash:=(h:Int),key:=k.key,val:=k.val}) (xs:=[]) (ys:=[]) 0 _ rfl rfl (by decide) (Nat.zero_le _) (Hy hh) (bN _) (g2) ok hs))) (h:=λ x142 h142=>?_);refine gL (E:=[5,9]) (by decide +kernel) ((.cons ?_ (.cons ?_ .nil)));·refine nX (i:=5) (hq:=(cF (hc:=λ w1 hw=>ij (v:=(aB x.L m)) h48.2 (eZ h (level:Int)) x142.1 (ok.sU hw hA m)))) (h:=λ x143 h143=>?_);refine K1z ?_;refine iP (h:=λ x28=>?_);refine K1n ?_;·exact⟨h142,rfl⟩
        ·refine iL (i:=9) (h:=λ x28=>?_);refine bI (i:=5) (hq:=(cF (hc:=λ w1 hw=>ij (v:=(aB x.L m)) h48.2 (eZ h (level:Int)) x142.1 (ok.sU hw hA m)))) (h:=λ x143 h143=>?_);refine K1z ?_;refine K1n ?_;·exact⟨h142,rfl⟩
       ·refine iL (i:=9) (h:=λ x28=>?_);refine bI (i:=4) (hq:=(cM (hs:=xH k bx bm x dn rs) (os:=xW x) (A0:=[(none,aH []),(none,dF [])]) (hc:=λ w hs=>iD hg (n:={Nd.zero with kind:=4,hash:=(h:Int),key:=k.key,val:=k.val}) (xs:=[]) (ys:=[]) 0 _ rfl rfl (by decide) (Nat.zero_le _) (Hy hh) (bN _) (g2) ok hs))) (h:=λ x142 h142=>?_);refine bI (i:=5) (hq:=(cF (hc:=λ w1 hw=>ij (v:=(aB x.L m)) h48.2 (eZ h (level:Int)) x142.1 (ok.sU hw hA m)))) (h:=λ x143 h143=>?_);refine K1z ?_;refine K1n ?_;·exact⟨h142,rfl⟩
      refine K0a ?_;obtain⟨hz,ez⟩:=hx;have hlz:=hz.len;have hB:=aCS ((ok.nv m).mono (Nat.le_refl _) (Nat.le_refl _) |>.mono hlz hz.lc) hz.bd (eZ h (level:Int));refine aT ?_;refine eI [(0,[]),(1,[]),(2,[]),(3,[]),(4,[]),(5,[]),(6,[]),(7,[]),(8,[2]),(9,[]),(10,[]),(11,[]),(12,[]),(13,[]),(14,[])] ?_;refine iW ?_;refine Kb4 ?_;refine aV ?_;refine bV ?_;refine aV ?_;refine bI (i:=8) (hq:=(cM (hs:=xH k bx bm z.2.1.2.1 dn rs) (os:=xW z.2.1.2.1) (A0:=[(z.2.2.2.brA,aH (nC (dg (aB x.L m) (eZ h (level:Int)) z.2.1.1))),(z.2.2.2.prA,dF [])]) (hA:=by rw[ez];exact Vy) (hc:=λ w hs=>iD hg (n:=z.2.2.2) (xs:=nC (dg (aB x.L m) (eZ h (level:Int)) z.2.1.1)) (ys:=[]) m _ (by rw[ez];exact F5 _ _) (by rw[ez];exact Fz _ _) hB.len (Nat.zero_le _) (by rw[ez];exact hB.nvB _) (by omega) (by rw[ez,<- aDf h48.2];exact hz.go) hz.ok hs))) (h:=λ x154 h154=>?_);refine bI (i:=9) (hq:=(cM (hs:=xH k bx bm x154.2.1 dn rs) (os:=xW x154.2.1) (hc:=λ w hs=>uU hg k.t i m x154.1 _ ht (by have:=h154.len;omega) h154.bd h154.go h154.ok hs))) (h:=λ x155 h155=>?_);have hch:=Ch.nx h155 (Ch.nx h154 (((Ch.base (F:=[])).nx hz).cons (f:=(z.2.2.1.1,aH (nC (dg (aB x.L m) (eZ h (level:Int)) z.2.1.1))))));have hlc:x.cs.length<=x155.2.1.cs.length:=by have:=hz.lc;have:=h154.lc;have:=h155.lc;omega
      refine dB (i:=10) (hq:=(cV (hc:=λ w1 hw=>qQ _ _ _ _ w1))) (h:=λ x156=>?_);refine cZ (i:=11) (hq:=(bQ rf rfl)) (h:=?_);refine cZ (i:=12) (hq:=(bQ rf rfl)) (h:=?_);refine C1 ?_;refine aZ results224 (λ w hw=>?_);obtain⟨N,hN,hf⟩:=hch.to (t':=K (oS false 0) (if x155.1=true then 1 else 0)) h155 (h155.go) hlc (bN _);exact⟨(oS false 0,(if x155.1=true then 1 else 0),x155.2.1,N),rfl,hN,(hw.eY hf).v4⟩
     ·exact nv c134
   ·exact nv c125
set_option maxRecDepth 100000 in
theorem Zw(hg:g.Ok)(i m:Int)(hh:h<18446744073709551616)(level:Nat)(hlv:level<=1073741824)(gen:Int)(K:Rs->Int->Tr)(ht:k.t.root<=9223372036854775807)(hi:i<=x.L.length)(hm:m<=x.L.length)(hA:∀f∈aN x.L,f∈A)(hk:¬(aB x.L m).nd.kind=6)(hl:iU (aB x.L m).c (eZ h (level:Int))=some b)(hi2:(aB x.L b).nd.kind=2)(go:gI g x (jU k i m h level gen K))(ok:x.Ok)(hs:SF w D (xH k bx bm x dn rs) A [] (xW x) w):Calls prog 224 #[.pointer (some ⟨bx,0,none⟩),.int .i64 i,.int .i64 m,.int .u64 (h:Int),.int .i64 (level:Int),.int .i64 gen] w (dk g x K bx bm k dn rs D w):=by
 have hyl:=sP ok m;have hlL:=ok.lL;have hb:b<=x.L.length:=by have:=mD (ok.nv m) (eZ h (level:Int));rw[hl] at this;exact this
 refine K1s ?_;simp only[cC];refine K0b ?_;intro x12;refine iP (hfire:=E0a) (h:=λ x14=>?_);refine qJ (h:=λ _=>?_);refine K0l ?_;intro x48 h48 x17;refine bD (λ c51=>?_) (λ c51=>?_);·exact absurd c51 hk
 ·refine K1u ?_;intro g0 g1;rw[hl] at g1;refine K0p ?_;intro x91 x23 x99;refine K0c ?_;refine J8 ?_;refine D1 ?_;(refine Ka3 ?_);((refine Ka3 ?_));((refine aF ?_;refine aD (cM (hs:=xH k bx bm x dn rs) (os:=xW x) (hc:=λ w hs=>cQ b _ hb g1 ok hs)) (λ x106 h106=>?_)));refine J87 ?_;refine aG ?_;refine bD (λ c109=>?_) (λ c109=>?_);·have g2:=h106.1.to (λ _=>if_pos hi2);refine J0 ?_;refine bM ?_;refine E8 ?_;refine aZ results224 (λ w hw=>?_);exact⟨(Rs.zero,2,x,[]),rfl,⟨g2,ok,by simp,Nat.le_refl _,bN _⟩,hw.bB (hF:=by exact bA.nil)⟩
  ·exact absurd hi2 c109
set_option maxRecDepth 100000 in
theorem Zj(hg:g.Ok)(i m:Int)(hh:h<18446744073709551616)(level:Nat)(hlv:level<=1073741824)(gen:Int)(K:Rs->Int->Tr)(ht:k.t.root<=9223372036854775807)(hi:i<=x.L.length)(hm:m<=x.L.length)(hA:∀f∈aN x.L,f∈A)(hk:¬(aB x.L m).nd.kind=6)(hl:iU (aB x.L m).c (eZ h (level:Int))=some b)(hi2:¬(aB x.L b).nd.kind=2)(he:(aB x.L b).nd.key=k.key)(go:gI g x (jU k i m h level gen K))(ok:x.Ok)(hs:SF w D (xH k bx bm x dn rs) A [] (xW x) w):Calls prog 224 #[.pointer (some ⟨bx,0,none⟩),.int .i64 i,.int .i64 m,.int .u64 (h:Int),.int .i64 (level:Int),.int .i64 gen] w (dk g x K bx bm k dn rs D w):=by
 have hyl:=sP ok m;have hlL:=ok.lL;have hb:b<=x.L.length:=by have:=mD (ok.nv m) (eZ h (level:Int));rw[hl] at this;exact this
 refine K1s ?_;simp only[cC];refine K0b ?_;intro x12;refine iP (hfire:=E0a) (h:=λ x14=>?_);refine qJ (h:=λ _=>?_);refine K0l ?_;intro x48 h48 x17;refine bD (λ c51=>?_) (λ c51=>?_);·exact absurd c51 hk
 ·refine K1u ?_;intro g0 g1;rw[hl] at g1;refine K0p ?_;intro x91 x23 x99;refine K0c ?_;refine J8 ?_;refine D1 ?_;(refine Ka3 ?_);((refine Ka3 ?_));((refine aF ?_;refine aD (cM (hs:=xH k bx bm x dn rs) (os:=xW x) (hc:=λ w hs=>cQ b _ hb g1 ok hs)) (λ x106 h106=>?_)));refine J87 ?_;refine aG ?_;refine bD (λ c109=>?_) (λ c109=>?_);·exact absurd c109 hi2
  ·have g3:=(h106.1.to (λ _=>if_neg hi2)).to (λ _=>if_pos he);refine Bo ?_;(refine Ka3 ?_);((refine Ka3 ?_));((refine aF ?_;refine aD (cM (hs:=xH k bx bm x dn rs) (os:=xW x) (hc:=λ w hs=>fU b (by omega) ok hs)) (λ x115 h115=>?_)));refine J81 ?_;((refine aF ?_;refine aC (xa rf rf he) rfl ?_));refine cH ?_;refine zQ ?_;refine aD (cM (hs:=xH k bx bm x dn rs) (os:=xW x) (hc:=λ w hs=>fU b (by omega) ok hs)) (λ x122 h122=>?_);refine cP ?_;refine Kd9 ?_;refine oG ?_;refine bD (λ c125=>?_) (λ c125=>?_)
   ·exact nv c125
   ·refine lB ?_;refine K2g ?_;intro x129 h129;refine bD (λ c130=>?_) (λ c130=>?_);·have g2:=g3.to (λ _=>if_neg (show ¬nP k true (aB x.L b).nd.val=true from by simpa using c130));refine K2j ?_;intro x133 w hw;exact⟨(dM true (aB x.L b).nd.val,1,x,[]),rfl,⟨g2,ok,by simp,Nat.le_refl _,bN _⟩,hw.bB (hF:=by exact bA.nil)⟩
    ·have g2:=g3.to (λ _=>if_pos (show nP k true (aB x.L b).nd.val=true from by simpa using c130));refine rT ?_;refine J2 ?_;refine zG ?_;refine J1 ?_;refine bD (λ c134=>?_) (λ c134=>?_)
     ·exact nv c134
     ·refine Ka4 ?_;refine bD (λ c159=>?_) (λ c159=>?_)
      ·refine aT ?_;refine eI [(0,[]),(1,[]),(2,[]),(3,[]),(4,[]),(5,[]),(6,[]),(7,[]),(8,[]),(9,[]),(13,[]),(10,[2]),(11,[2]),(12,[]),(14,[]),(15,[]),(16,[]),(17,[]),(18,[])] ?_;refine iW ?_;refine Kb4 ?_;refine iW ?_;refine iW ?_;refine bV ?_;refine aV ?_;refine bI (i:=10) (hq:=(cM (hs:=xH k bx bm x dn rs) (os:=xW x) (A0:=[(none,aH []),(none,dF [])]) (hc:=λ w hs=>iD hg (n:={Nd.zero with kind:=4,hash:=(h:Int),key:=k.key,val:=k.val}) (xs:=[]) (ys:=[]) 0 _ rfl rfl (by decide) (Nat.zero_le _) (Hy hh) (bN _) (g2) ok hs))) (h:=λ x171 h171=>?_);have hch:=(Ch.base (F:=[])).nx h171;refine bI (i:=11) (hq:=(cM (hs:=xH k bx bm x171.2.1 dn rs) (os:=xW x171.2.1) (A0:=aN x171.2.1.L) (hA:=Ch.all hch hA) (hc:=λ w hs=>C3 hg m (eZ h (level:Int)) x171.1 _ (by have:=h171.len;omega) h171.bd (λ f hf=>hf) h171.go h171.ok hs))) (h:=λ x172 h172=>?_);refine bI (i:=12) (hq:=(cM (hs:=xH k bx bm x172.2.1 dn rs) (os:=xW x172.2.1) (hc:=λ w hs=>uU hg k.t i m x172.1 _ ht (by have:=h171.len;have:=h172.len;omega) h172.bd h172.go h172.ok hs))) (h:=λ x173 h173=>?_);have hch2:=Ch.nx h173 (Ch.nx h172 hch);have hlc:x.cs.length<=x173.2.1.cs.length:=by have:=h171.lc;have:=h172.lc;have:=h173.lc;omega
       refine dB (i:=14) (hq:=(cV (hc:=λ w1 hw=>qQ _ _ _ _ w1))) (h:=λ x175=>?_);refine cZ (i:=15) (hq:=(bQ rf rfl)) (h:=?_);refine cZ (i:=16) (hq:=(bQ rf rfl)) (h:=?_);refine C1 ?_;refine aZ results224 (λ w hw=>?_);obtain⟨N,hN,hf⟩:=hch2.to (t':=K (oS true (aB x.L b).nd.val) (if x173.1=true then 1 else 0)) h173 (h173.go) hlc (bN _);exact⟨(oS true (aB x.L b).nd.val,(if x173.1=true then 1 else 0),x173.2.1,N),rfl,hN,(hw.eY hf).v4⟩
      ·exact nv c159
set_option maxRecDepth 100000 in
theorem bu(hg:g.Ok)(i m:Int)(hh:h<18446744073709551616)(level:Nat)(hlv:level<=1073741824)(gen:Int)(K:Rs->Int->Tr)(ht:k.t.root<=9223372036854775807)(hi:i<=x.L.length)(hm:m<=x.L.length)(hA:∀f∈aN x.L,f∈A)(hk:¬(aB x.L m).nd.kind=6)(hl:iU (aB x.L m).c (eZ h (level:Int))=some b)(hi2:¬(aB x.L b).nd.kind=2)(he:¬(aB x.L b).nd.key=k.key)(go:gI g x (jU k i m h level gen K))(ok:x.Ok)(hs:SF w D (xH k bx bm x dn rs) A [] (xW x) w):Calls prog 224 #[.pointer (some ⟨bx,0,none⟩),.int .i64 i,.int .i64 m,.int .u64 (h:Int),.int .i64 (level:Int),.int .i64 gen] w (dk g x K bx bm k dn rs D w):=by
 have hyl:=sP ok m;have hlL:=ok.lL;have hb:b<=x.L.length:=by have:=mD (ok.nv m) (eZ h (level:Int));rw[hl] at this;exact this
 refine K1s ?_;simp only[cC];refine K0b ?_;intro x12;refine iP (hfire:=E0a) (h:=λ x14=>?_);refine qJ (h:=λ _=>?_);refine K0l ?_;intro x48 h48 x17;refine bD (λ c51=>?_) (λ c51=>?_);·exact absurd c51 hk
 ·refine K1u ?_;intro g0 g1;rw[hl] at g1;refine K0p ?_;intro x91 x23 x99;refine K0c ?_;refine J8 ?_;refine D1 ?_;(refine Ka3 ?_);((refine Ka3 ?_));((refine aF ?_;refine aD (cM (hs:=xH k bx bm x dn rs) (os:=xW x) (hc:=λ w hs=>cQ b _ hb g1 ok hs)) (λ x106 h106=>?_)));refine J87 ?_;refine aG ?_;refine bD (λ c109=>?_) (λ c109=>?_);·exact absurd c109 hi2
  ·have g3:=(h106.1.to (λ _=>if_neg hi2)).to (λ _=>if_neg he);refine Bo ?_;(refine Ka3 ?_);((refine Ka3 ?_));((refine aF ?_;refine aD (cM (hs:=xH k bx bm x dn rs) (os:=xW x) (hc:=λ w hs=>fU b (by omega) ok hs)) (λ x115 h115=>?_)));refine J81 ?_;((refine aF ?_;refine aC (w7 rf rf he) rfl ?_));refine cH ?_;refine zQ ?_;refine aD (cM (hs:=xH k bx bm x dn rs) (os:=xW x) (hc:=λ w hs=>fU b (by omega) ok hs)) (λ x122 h122=>?_);refine cP ?_;refine Kd9 ?_;refine oG ?_;refine bD (λ c125=>?_) (λ c125=>?_)
   ·refine dS ?_;refine jG ?_;refine K2g ?_;intro x129 h129;refine bD (λ c130=>?_) (λ c130=>?_);·have g2:=g3.to (λ _=>if_neg (show ¬nP k false 0=true from by simpa using c130));refine K2j ?_;intro x133 w hw;exact⟨(dM false 0,1,x,[]),rfl,⟨g2,ok,by simp,Nat.le_refl _,bN _⟩,hw.bB (hF:=by exact bA.nil)⟩
    ·have g2:=g3.to (λ _=>if_pos (show nP k false 0=true from by simpa using c130));refine rT ?_;refine J2 ?_;refine zG ?_;refine J1 ?_;refine bD (λ c134=>?_) (λ c134=>?_)
     ·exact nv c134
     ·refine Ka4 ?_;refine bD (λ c159=>?_) (λ c159=>?_);·exact nv c159
      ·refine pE ?_;refine jD ?_;refine bM ?_;refine qX ?_;refine qX ?_;refine Eb ?_;refine aA ?_;refine aD (cM (hs:=xH k bx bm x dn rs) (os:=xW x) (hc:=λ w hs=>aAJ hg b hh (level+1) gen _ hb g2 ok hs)) (λ x187 h187=>?_);refine aD (cM (hs:=xH k bx bm x187.2.1 dn rs) (os:=xW x187.2.1) (A0:=[(none,aH []),(none,dF [])]) (hc:=λ w hs=>iD hg (n:={Nd.zero with kind:=2,gen:=gen}) (xs:=[]) (ys:=[]) x187.1 _ rfl rfl (by decide) (Nat.zero_le _) tP h187.bd h187.go h187.ok hs)) (λ x188 h188=>?_);have hch:=Ch.nx h188 ((Ch.base (F:=[])).nx h187);refine jG ?_;refine eI [(0,[]),(1,[]),(2,[]),(3,[]),(4,[]),(5,[]),(6,[]),(7,[]),(8,[]),(9,[2]),(10,[]),(11,[]),(12,[]),(13,[]),(14,[]),(15,[])] ?_;refine iW ?_;refine Kb4 ?_;refine iW ?_;refine iW ?_;refine bI (i:=9) (hq:=(cM (hs:=xH k bx bm x188.2.1 dn rs) (os:=xW x188.2.1) (A0:=aN x188.2.1.L) (hA:=Ch.all hch hA) (hc:=λ w hs=>C3 hg m (eZ h (level:Int)) x188.1 _ (by have:=h187.len;have:=h188.len;omega) h188.bd (λ f hf=>hf) h188.go h188.ok hs))) (h:=λ x198 h198=>?_);refine bI (i:=10) (hq:=(cM (hs:=xH k bx bm x198.2.1 dn rs) (os:=xW x198.2.1) (hc:=λ w hs=>uU hg k.t i m x198.1 _ ht (by have:=h187.len;have:=h188.len;have:=h198.len;omega) h198.bd h198.go h198.ok hs))) (h:=λ x199 h199=>?_);have hch2:=Ch.nx h199 (Ch.nx h198 hch);have hlc:x.cs.length<=x199.2.1.cs.length:=by have:=h187.lc;have:=h188.lc;have:=h198.lc;have:=h199.lc;omega
       refine dB (i:=11) (hq:=(cV (hc:=λ w1 hw=>qQ _ _ _ _ w1))) (h:=λ x200=>?_);refine cZ (i:=12) (hq:=(bQ rf rfl)) (h:=?_);refine cZ (i:=13) (hq:=(bQ rf rfl)) (h:=?_);refine C1 ?_;refine aZ results224 (λ w hw=>?_);obtain⟨N,hN,hf⟩:=hch2.to (t':=K (oS false 0) (if x199.1=true then 1 else 0)) h199 (h199.go) hlc (bN _);exact⟨(oS false 0,(if x199.1=true then 1 else 0),x199.2.1,N),rfl,hN,(hw.eY hf).v4⟩
   ·exact nv c125
theorem de(hg:g.Ok)(i m:Int)(hh:h<18446744073709551616)(level:Nat)(hlv:level<=1073741824)(gen:Int)(K:Rs->Int->Tr)(ht:k.t.root<=9223372036854775807)(hi:i<=x.L.length)(hm:m<=x.L.length)(hA:∀f∈aN x.L,f∈A)(go:gI g x (jU k i m h level gen K))(ok:x.Ok)(hs:SF w D (xH k bx bm x dn rs) A [] (xW x) w):Calls prog 224 #[.pointer (some ⟨bx,0,none⟩),.int .i64 i,.int .i64 m,.int .u64 (h:Int),.int .i64 (level:Int),.int .i64 gen] w (dk g x K bx bm k dn rs D w):=by
 by_cases hk:(aB x.L m).nd.kind=6;·exact db hg i m hh level hlv gen K ht hi hm hA hk go ok hs
 ·cases hl:iU (aB x.L m).c (eZ h (level:Int)) with
  | none=>exact Z7 hg i m hh level hlv gen K ht hi hm hA hk hl go ok hs
  | some b=>
   by_cases hi2:(aB x.L b).nd.kind=2;·exact Zw hg i m hh level hlv gen K ht hi hm hA hk hl hi2 go ok hs
   ·by_cases he:(aB x.L b).nd.key=k.key;·exact Zj hg i m hh level hlv gen K ht hi hm hA hk hl hi2 he go ok hs
    ·exact bu hg i m hh level hlv gen K ht hi hm hA hk hl hi2 he go ok hs
end
end
end Go.Proofs.YtbajmaoegmbfgaaGreat

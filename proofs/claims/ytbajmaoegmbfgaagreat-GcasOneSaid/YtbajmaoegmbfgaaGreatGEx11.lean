/- Merged. -/
import Derived.Test.YtbajmaoegmbfgaaGreatGEx6
import Derived.Test.YtbajmaoegmbfgaaGreatGBr2
import Derived.Test.YtbajmaoegmbfgaaGreatGJoin
set_option linter.unusedSimpArgs false
set_option linter.unusedVariables false
namespace Go.Proofs.YtbajmaoegmbfgaaGreat
open Go Go.RowKit Go.Ct
section
theorem fM{h:Nat}(hh:h<18446744073709551616)(level:Int)(w:World):Calls Tryz.prog 218 #[.int .u64 (h:Int),.int .i64 level] w λ e w'=>e=.returned (.int .i64 (hU h level))/\St w [] [] w':=by
 by_cases hl:level<0∨10<level
 ·unfold hU
  rw[if_pos hl]
  refine enter Tryz.func218 Tryz.ntmps218 rfl rfl (SF.s0 w) ?_
  simp only[cG]
  refine dA ?_;refine Kb6 ?_
  (refine eI 7 (λ g7=>?_) (λ g7=>?_)<;>refine Ka0 ?_)
  all_goals (refine Ka7 ?_)
  all_goals
  refine bC (λ c10=>?_) (λ c10=>?_)
  ·all_goals try (exfalso;omega)
   all_goals refine dA ?_
   all_goals
    refine aT Tryz.results218 (λ w hw=>?_)
    exact⟨rfl,hw.done⟩
  ·try exact nv c10
   all_goals try (exfalso;omega)
 ·unfold hU
  rw[if_neg hl]
  exact Dc (l:=level.toNat) (by omega) hh (by omega) w
section
variable{m c:Nat}{o:Option (Nat×List Int)}{w:World}
noncomputable abbrev coB (o:Option (Nat×List Int)) (x:Option Addr×Nat) (level:Int) (s:Nd):Bool:=Ua (nB o x) (mI o) [] level s
noncomputable abbrev Ol (o:Option (Nat×List Int)) (x:Option Addr×Nat) (level:Int) (s:Nd):Nd:=vu (coB o x level s) (nB o x) s
noncomputable abbrev Yx (o:Option (Nat×List Int)) (x:Option Addr×Nat) (level:Int) (s:Nd):List Int:=oj (coB o x level s) (mI o)
theorem uz{α:Type}(t:Bool):oj t ([]:List α)=[]:=by unfold oj;split<;>rfl
theorem Qh(h:wQ m o)(x:Option Addr×Nat):∃b:Nat,(nB o x).bm=(b:Int)/\b<18446744073709551616:=by
 cases o with
 | none=>exact⟨0,rfl,by decide⟩
 | some q=>exact⟨q.1,rfl,(h.out q rfl).1⟩
theorem Pa(h:wQ m o){x:Option Addr×Nat}(hc:Go.Ct.Cl w x.1 (aH (mI o))):sG w (nB o x) (mI o) []:=by
 refine⟨E5 _ _,Ek _ _,?_,?_,by have:=h.len;omega,by decide⟩
 ·cases o with
  | none=>exact Cl.nil _ _
  | some q=>exact hc
 ·exact Cl.nil _ _
theorem Xe(h:wQ m o){x:Option Addr×Nat}(level:Int)(s:Nd)(hc:Go.Ct.Cl w x.1 (aH (mI o))):Calls Tryz.prog 221 #[(nB o x).v,.int .i64 level,s.v] w λ e w'=>e=.returned (Ol o x level s).v/\St w [] [] w':=by
 obtain⟨b,h1,h2⟩:=Qh h x
 exact Ea (n:=nB o x) level s h1 h2 (Pa h hc)
theorem vn(x:Option Addr×Nat)(level:Int)(s:Nd):z4 (Jf o) level (s.c [] [])=(Ol o x level s).c (Yx o x level s) []:=by
 have:=(aCI (n:=nB o x) (s:=s) (xs:=mI o) (ys:=[]) level).symm
 rw[Hb,uz] at this
 exact this
theorem dq(x:Option Addr×Nat)(level:Int)(s:Nd):(Ol o x level s).brN=(Yx o x level s).length:=by
 unfold Ol vu Yx oj
 split
 ·rfl
 ·exact E5 _ _
theorem dy(x:Option Addr×Nat)(level:Int)(s:Nd):(Ol o x level s).prN=([]:List Pr).length:=by
 unfold Ol vu
 split
 ·rfl
 ·exact Ek _ _
theorem Wc(h:wQ m o)(x:Option Addr×Nat)(level:Int)(s:Nd):(Yx o x level s).length<=274877906944:=by
 unfold Yx oj
 split
 ·exact Nat.zero_le _
 ·exact h.len
theorem U7(h:wQ m o)(x:Option Addr×Nat)(level:Int){s:Nd}(hh:∃b:Nat,s.hash=(b:Int)/\b<18446744073709551616):mC m c {(Ol o x level s).c (Yx o x level s) [] with main:=0,prev:=0,status:=0}:=by
 unfold Ol vu Yx oj
 split
 ·exact⟨bL _,bL _,bL _,(λ r hr=>nomatch hr),bL _,bL _,bL _,⟨0,rfl,by decide⟩,hh⟩
 ·exact h.nvB x
theorem wq{A F:Fr}{O:List Ow}{x:Option Addr×Nat}{level:Int}{s:Nd}:bH A ((x.1,aH (mI o))::F) O [((Ol o x level s).brA,aH (Yx o x level s)),((Ol o x level s).prA,cX [])]:=by
 unfold Ol vu Yx oj
 split
 ·exact .cons (.inl rfl) (.cons (.inl rfl) .nil)
 ·exact Tf
end
theorem ns(n:Nd):(Gn n).brN=([]:List Int).length/\(Gn n).prN=([]:List Pr).length:=by unfold Gn;split<;>exact⟨rfl,rfl⟩
theorem Rk{n:Nd}(h:∃b:Nat,n.hash=(b:Int)/\b<18446744073709551616):∃b:Nat,(Gn n).hash=(b:Int)/\b<18446744073709551616:=by
 unfold Gn
 split
 ·exact h
 ·exact⟨0,rfl,by decide⟩
theorem aAD{n:Nd}{m c:Nat}(h:∃b:Nat,n.hash=(b:Int)/\b<18446744073709551616):mC m c {(Gn n).c [] [] with main:=0,prev:=0,status:=0}:=by
 have h2:=Rk h
 revert h2
 unfold Gn
 split<;>exact λ h2=>⟨bL _,bL _,bL _,(λ r hr=>nomatch hr),bL _,bL _,bL _,⟨0,rfl,by decide⟩,h2⟩
theorem aBa{v:aQ}{n c:Nat}(h:mC n c v.c){i r:Int}:Ue v.c i r=Jf (Rq v i r):=(aCh (fI h).1 i r).symm
theorem aBW{v:aQ}{n c:Nat}(h:mC n c v.c){i:Int}:N4 v.c i=Jf (Z3 v i):=(aBD (fI h).1 i).symm
theorem aAq{o:Option Int}{c:Int}(h1:o.isSome=true)(h2:o.getD 0=c):o=some c:=by
 cases o with
 | none=>cases h1
 | some v=>exact congrArg some h2
theorem ow{o:Option Int}{c:Int}(h1:o.isSome=false):¬o=some c:=λ h=>by rw[h] at h1;cases h1
theorem q9{o:Option Int}{c:Int}(h1:o.getD 0≠c):¬o=some c:=λ h=>by rw[h] at h1;exact h1 rfl
section
variable{k:Cl}{bx bm:Nat}{x:XS}{dn:Bool}{rs:Rs}{D:List Nat}{A:Fr}{w:World}{g:Gx}
theorem rb(hg:g.Ok)(t:dU)(i c index:Int)(K:Int->Tr)(ht:t.root<=9223372036854775807)(hi:i<=x.L.length)(hc:c<=x.L.length)(hA:∀f∈aN x.L,f∈A)(go:gE g x (Mu t i c index K))(ok:x.Ok)(hs:SF w D (xH k bx bm x dn rs) A [] (xW x) w):Calls Tryz.prog 181 #[.pointer (some ⟨bx,0,none⟩),Nz t,.int .i64 i,.int .i64 c,.int .i64 index] w λ e w'=>∃q:Int×XS×List aQ,e=.returned (.int .i64 q.1)/\Nx g x q.2.1 q.2.2 (K q.1) q.1/\SF w D (xH k bx bm q.2.1 dn rs) [] (aN q.2.2) (xW q.2.1) w':=by
 refine enter Tryz.func181 Tryz.ntmps181 rfl rfl (cD hs) ?_
 simp only[cG]
 simp only[Nz]
 refine J0 ?_;refine bM (λ x6=>?_);refine zZ ?_;refine aE (cM (hs:=xH k bx bm x dn rs) (os:=xW x) (hc:=λ w hs=>cH c _ hc go ok hs)) (λ x18 h18=>?_);refine aB ?_;refine aP (cV (hc:=λ w1 hw=>Ld (v:=aC x.L c) (ok.nv c) index (ok.sN hw hA c))) (λ x20=>?_);refine aB ?_;refine aD (bR rf rfl) rfl ?_;refine aD (bR rf rfl) rfl ?_;refine J8 ?_;refine Kb3 ?_;refine aB ?_;refine aE (cM (hs:=xH k bx bm x dn rs) (os:=xW x) (hc:=λ w hs=>pB hg t ((lI (aC x.L c).c index).getD 0) _ ht (pU (ok.nv c) index) h18.1 ok hs)) (λ x26 h26=>?_);refine zZ ?_;refine aB ?_;refine aE (cM (hs:=xH k bx bm x26.2.1 dn rs) (os:=xW x26.2.1) (hc:=λ w hs=>cH i _ (by have:=h26.len;omega) h26.go h26.ok hs)) (λ x30 h30=>?_);refine cB ?_;refine bO ?_;refine aB ?_;refine aE (cM (hs:=xH k bx bm x26.2.1 dn rs) (os:=xW x26.2.1) (A0:=[(none,aH []),(none,cX [])]) (hc:=λ w hs=>gX hg (n:={Nd.zero with kind:=2,gen:=(aC x26.2.1.L i).nd.gen}) (xs:=[]) (ys:=[]) x26.1 _ rfl rfl (by decide) (Nat.zero_le _) sL h26.bd h30.1 h26.ok hs)) (λ x34 h34=>?_)
 have hch:=Ch.nx h34 ((Ch.base (F:=[])).nx h26)
 refine iT ?_;refine aV ?_;refine eH [(0,[]),(1,[]),(2,[]),(3,[]),(4,[]),(5,[]),(6,[]),(7,[]),(8,[1]),(9,[])] ?_;refine Ka9 ?_;refine iK ?_;refine iK ?_;refine iK ?_;refine bE (i:=8) (hq:=(cM (hs:=xH k bx bm x34.2.1 dn rs) (os:=xW x34.2.1) (A0:=aN x34.2.1.L) (hA:=Ch.all hch hA) (hc:=λ w hs=>Bx hg c index x34.1 _ (by have:=h26.len;have:=h34.len;omega) h34.bd (λ f hf=>hf) h34.go h34.ok hs))) (h:=λ x43 h43=>?_);refine bE (i:=9) (hq:=(cM (hs:=xH k bx bm x43.2.1 dn rs) (os:=xW x43.2.1) (hc:=λ w hs=>tH hg t i c x43.1 _ ht (by have:=h26.len;have:=h34.len;have:=h43.len;omega) h43.bd h43.go h43.ok hs))) (h:=λ x44 h44=>?_)
 have hch2:=Ch.nx h44 (Ch.nx h43 hch)
 have hlc:x.cs.length<=x44.2.1.cs.length:=by have:=h26.lc;have:=h34.lc;have:=h43.lc;have:=h44.lc;omega
 refine eL ?_
 refine bC (λ c44=>?_) (λ c44=>?_)
 ·refine Ka5 ?_
  refine aT Tryz.results181 (λ w hw=>?_)
  obtain⟨N,hN,hf⟩:=hch2.to h44 (h44.go.to (t':=K x34.1) (λ _=>by rw[if_pos (by assumption)])) hlc (show x34.1<=_ by have:=h34.bd;have:=h43.len;have:=h44.len;omega)
  exact⟨(x34.1,x44.2.1,N),rfl,hN,(hw.eX hf).v4⟩
 ·refine aZ ?_;refine dA ?_
  refine aT Tryz.results181 (λ w hw=>?_)
  obtain⟨N,hN,hf⟩:=hch2.to h44 (h44.go.to (t':=K 0) (λ _=>by rw[if_neg (by simp only[Bool.not_eq_true];assumption)])) hlc (show(0:Int)<=_ from bL _)
  exact⟨(0,x44.2.1,N),rfl,hN,(hw.eX hf).v4⟩
end
end
section
section
variable{k:Cl}{bx bm:Nat}{x:XS}{dn:Bool}{rs:Rs}{D:List Nat}{A:Fr}{w:World}{g:Gx}
theorem Lu(hg:g.Ok)(t:dU)(p c:Int){h:Nat}(hh:h<18446744073709551616)(level:Int)(K:Bool->Tr)(ht:t.root<=9223372036854775807)(hp:p<=x.L.length)(hc:c<=x.L.length)(hA:∀f∈aN x.L,f∈A)(go:gE g x (zQ t p c h level K))(ok:x.Ok)(hs:SF w D (xH k bx bm x dn rs) A [] (xW x) w):Calls Tryz.prog 182 #[.pointer (some ⟨bx,0,none⟩),Nz t,.int .i64 p,.int .i64 c,.int .u64 (h:Int),.int .i64 level] w λ e w'=>∃q:Bool×XS×List aQ,e=.returned (.bool q.1)/\Nx g x q.2.1 q.2.2 (K q.1) 0/\SF w D (xH k bx bm q.2.1 dn rs) [] (aN q.2.2) (xW q.2.1) w':=by
  refine enter Tryz.func182 Tryz.ntmps182 rfl rfl (cD hs) ?_
  simp only[cG]
  simp only[Nz]
  refine J0 ?_;refine bM (λ x7=>?_);refine Ka4 ?_;refine bQ ?_;refine aB ?_;refine aE (cM (hs:=xH k bx bm x dn rs) (os:=xW x) (hc:=λ w hs=>pB hg t p _ ht hp go ok hs)) (λ x25 h25=>?_)
  have hch:=(Ch.base (F:=[])).nx h25
  have hl25:=h25.len
  refine zZ ?_;refine aP (cV (hc:=λ w1 hw=>fM hh level w1)) (λ x28=>?_);refine iT ?_;refine jF ?_;refine aE (cM (hs:=xH k bx bm x25.2.1 dn rs) (os:=xW x25.2.1) (hc:=λ w hs=>cH x25.1 _ h25.bd h25.go h25.ok hs)) (λ x32 h32=>?_);refine aB ?_;refine aP (cV (hc:=λ w1 hw=>Ld (v:=aC x25.2.1.L x25.1) h32.2 (hU h level) (hw.jl hch hA h25.ok x25.1))) (λ x34=>?_);refine aB ?_;refine aD (bR rf rfl) rfl ?_;refine aD (bR rf rfl) rfl ?_;refine J8 ?_;refine mK ?_;refine aB ?_
  (refine eI 41 (λ g41=>?_) (λ g41=>?_)<;>refine Ka0 ?_)
  all_goals (refine Ny ?_;refine aB ?_)
  all_goals (first|refine aJ ?_|(refine eI 45 (λ g45=>?_) (λ g45=>?_)<;>refine Ka0 ?_))
  all_goals (refine Ka0 ?_;refine Ry ?_;refine aI ?_)
  all_goals
   refine bC (λ c49=>?_) (λ c49=>?_)
   · all_goals refine dA ?_
     all_goals
      refine aT Tryz.results182 (λ w hw=>?_)
      obtain⟨N,hN,hf⟩:=hch.to (t':=K false) h25 (by first|exact h32.1.bY (by assumption)|exact h32.1.to (λ _=>if_neg (ow (by assumption)))|exact h32.1.to (λ _=>if_neg (q9 (by assumption)))) h25.lc (bL _)
      exact⟨(false,x25.2.1,N),rfl,hN,(hw.eX hf).v4⟩
   · try exact nv c49
     all_goals
      have g1:=h32.1.to (λ _=>if_pos (aAq (by assumption) (by assumption)))
     all_goals (refine Du ?_;refine bQ ?_;refine aB ?_;refine aE (cM (hs:=xH k bx bm x25.2.1 dn rs) (os:=xW x25.2.1) (hc:=λ w hs=>pB hg t c _ ht (by omega) g1 h25.ok hs)) (λ x55 h55=>?_))
     all_goals
      have hch2:=Ch.nx h55 hch
      have hl55:=h55.len
     all_goals (refine aE (cM (hs:=xH k bx bm x55.2.1 dn rs) (os:=xW x55.2.1) (hc:=λ w hs=>cH x55.1 _ h55.bd h55.go h55.ok hs)) (λ x56 h56=>?_);refine aP (cV (hc:=λ w1 hw=>Iw (aC x55.2.1.L x55.1).nd w1)) (λ x57=>?_);refine aB ?_;refine aD (bR rf rfl) rfl ?_;refine aD (bR rf rfl) rfl ?_;refine aL (λ x17=>?_);refine kP (λ _=>?_);refine iT ?_;refine mK ?_;refine aB ?_)
     all_goals ((refine eI 64 (λ g64=>?_) (λ g64=>?_)<;>refine Ka0 ?_))
     all_goals (refine Kc0 ?_)
     all_goals
      refine bC (λ c67=>?_) (λ c67=>?_)
      · all_goals refine dA ?_
        all_goals
         refine aT Tryz.results182 (λ w hw=>?_)
         obtain⟨N,hN,hf⟩:=hch2.to (t':=K false) h55 (by first|exact h56.1.bY (by assumption)|exact h56.1.to (λ _=>if_neg (show ¬(aC x55.2.1.L x55.1).c.kind=5 from by assumption))) (by have:=h25.lc;have:=h55.lc;omega) (bL _)
         exact⟨(false,x55.2.1,N),rfl,hN,(hw.eX hf).v4⟩
      · try exact nv c67
        all_goals
         have g2:=h56.1.to (λ _=>if_pos (show(aC x55.2.1.L x55.1).c.kind=5 from by assumption))
        all_goals (refine aZ ?_;refine Kb3 ?_;refine aE (cM (hs:=xH k bx bm x55.2.1 dn rs) (os:=xW x55.2.1) (A0:=[((Gn (aC x55.2.1.L x55.1).nd).brA,aH []),((Gn (aC x55.2.1.L x55.1).nd).prA,cX [])]) (hA:=.cons (.inl rfl) (.cons (.inl rfl) .nil)) (hc:=λ w hs=>gX hg (n:=Gn (aC x55.2.1.L x55.1).nd) (xs:=[]) (ys:=[]) 0 _ (ns _).1 (ns _).2 (by decide) (Nat.zero_le _) (aAD h56.2.hash) (bL _) (by rw[aCe (xs:=(aC x55.2.1.L x55.1).xs) (ys:=(aC x55.2.1.L x55.1).ys)];exact g2) h55.ok hs)) (λ x70 h70=>?_))
        all_goals
         have hch3:=Ch.nx h70 hch2
         have hl70:=h70.len
         have hb25:=h25.bd
        all_goals (refine zZ ?_;refine aE (cM (hs:=xH k bx bm x70.2.1 dn rs) (os:=xW x70.2.1) (hc:=λ w hs=>cH x25.1 _ (by omega) h70.go h70.ok hs)) (λ x74 h74=>?_);refine pM ?_;refine aE (cF (hc:=λ w1 hw=>v7 (v:=aC x70.2.1.L x25.1) h74.2 (hU h level) x70.1 (hw.jl hch3 hA h70.ok x25.1))) (λ x77 h77=>?_))
        all_goals
         have hB:=ik h74.2 h70.bd (hU h level)
         have hch4:=hch3.cons (f:=(x77.1,aH (mI (Rq (aC x70.2.1.L x25.1) (hU h level) x70.1))))
        all_goals (refine aB ?_;refine aD (bR rf rfl) rfl ?_;refine aD (bR rf rfl) rfl ?_;refine aL (λ x20=>?_);refine kP (λ _=>?_);refine iT ?_;refine eH [(0,[]),(1,[]),(2,[]),(3,[]),(4,[]),(5,[]),(6,[]),(7,[]),(9,[]),(8,[1]),(10,[1]),(11,[]),(12,[])] ?_;refine Ka9 ?_;refine iK ?_;refine Ka9 ?_;refine Ka9 ?_;refine aR ?_;refine dC (i:=8) (hq:=(cV (hc:=λ w1 hw=>Xe hB level (Gn (aC x55.2.1.L x55.1).nd) (hw.cl (.new .head))))) (h:=λ x88=>?_);refine bE (i:=10) (hq:=(cM (hs:=xH k bx bm x70.2.1 dn rs) (os:=xW x70.2.1) (A0:=[((Ol (Rq (aC x70.2.1.L x25.1) (hU h level) x70.1) x77 level (Gn (aC x55.2.1.L x55.1).nd)).brA,aH (Yx (Rq (aC x70.2.1.L x25.1) (hU h level) x70.1) x77 level (Gn (aC x55.2.1.L x55.1).nd))),((Ol (Rq (aC x70.2.1.L x25.1) (hU h level) x70.1) x77 level (Gn (aC x55.2.1.L x55.1).nd)).prA,cX [])]) (hA:=wq) (hc:=λ w hs=>gX hg (n:=Ol (Rq (aC x70.2.1.L x25.1) (hU h level) x70.1) x77 level (Gn (aC x55.2.1.L x55.1).nd)) (xs:=Yx (Rq (aC x70.2.1.L x25.1) (hU h level) x70.1) x77 level (Gn (aC x55.2.1.L x55.1).nd)) (ys:=[]) x25.1 _ (dq _ _ _) (dy _ _ _) (Wc hB _ _ _) (Nat.zero_le _) (U7 hB _ _ (Rk h56.2.hash)) (by omega) (by rw[<- vn,<- aBa h74.2,aCe (xs:=(aC x55.2.1.L x55.1).xs) (ys:=(aC x55.2.1.L x55.1).ys)];exact h74.1) h70.ok hs))) (h:=λ x90 h90=>?_);refine bE (i:=11) (hq:=(cM (hs:=xH k bx bm x90.2.1 dn rs) (os:=xW x90.2.1) (hc:=λ w hs=>tH hg t p x25.1 x90.1 _ ht (by have:=h90.len;omega) (by have:=h90.bd;omega) h90.go h90.ok hs))) (h:=λ x91 h91=>?_))
        all_goals
         have hch5:=Ch.nx h91 (Ch.nx h90 hch4)
         have hlc:x.cs.length<=x91.2.1.cs.length:=by have:=h25.lc;have:=h55.lc;have:=h70.lc;have:=h90.lc;have:=h91.lc;omega
        all_goals refine J7 ?_
        all_goals
         refine aT Tryz.results182 (λ w hw=>?_)
         obtain⟨N,hN,hf⟩:=hch5.to (t':=K x91.1) h91 h91.go hlc (bL _)
         exact⟨(x91.1,x91.2.1,N),rfl,hN,(hw.eX hf).v4⟩
end
end
end Go.Proofs.YtbajmaoegmbfgaaGreat
namespace Go.Ct
open Go Go.RowKit
section
def byt(s:ByteArray)(i:Nat):Nat:=(s.data.getD i 0).toNat
theorem gg(s:ByteArray)(i:Nat):byt s i<256:=(s.data.getD i 0).toNat_lt
def hsN(s:ByteArray):Nat->Nat
 | 0=>14695981039346656037
 | i+1=>((hsN s i ^^^ byt s i)*1099511628211)%18446744073709551616
theorem Uk(s:ByteArray):∀i,hsN s i<18446744073709551616
 | 0=>by show 14695981039346656037<18446744073709551616;decide
 | _+1=>Nat.mod_lt _ (by decide)
def mJ(s:ByteArray)(m:Nat):Nat:=hsN s s.size &&& m
theorem uB(s:ByteArray)(m:Nat):mJ s m<18446744073709551616:=Nat.lt_of_le_of_lt Nat.and_le_left (Uk s _)
section
variable{P:Program}{S:List (Nat×Value)}{G:World->Prop}{d:Nat}{ty t t':TypeId}{pos:String}{af:Array Edge}{gd:Option (Nat×Bool)}{x y:Operand}{a b i:Nat}{s:ByteArray}
theorem zk(hx:ev S x=.string s)(hy:ev S y=.int .i64 (i:Int))(ht:P.underlying t=some .string)(h:i<s.size):aM P S G ⟨some d,.index t x y,ty,pos,af,gd⟩ (.int .u8 (byt s i:Int)):=⟨λ w _=>by
 have e:(s[((i:Nat):Int).toNat]'(by simpa using h)).toNat=byt s i:=by
  unfold byt
  rw[Array.getD_eq_getD_getElem?,Array.getElem?_eq_getElem (by simpa using h)]
  rfl
 simp only[execOp,hx,hy,Sem.run_bind]
 rw[run_index_string w t s .i64 i ht,dif_pos ⟨bL _,by omega⟩,e]
 rfl⟩
theorem zi(hx:ev S x=.int .u64 (a:Int))(hy:ev S y=.int .u64 (b:Int))(ha:a<18446744073709551616)(hb:b<18446744073709551616):aM P S G ⟨some d,.binOp .xor t x y t',ty,pos,af,gd⟩ (.int .u64 ((a ^^^ b:Nat):Int)):=by
 have:=aCc (P:=P) (G:=G) (d:=d) (ty:=ty) (pos:=pos) (af:=af) (gd:=gd) (t:=t) (t':=t') hx hy
 rwa [jb ha hb] at this
theorem aAO(hx:ev S x=.int .u64 (a:Int))(hy:ev S y=.int .u64 (b:Int)):aM P S G ⟨some d,.binOp .mul t x y t',ty,pos,af,gd⟩ (.int .u64 ((a*b%18446744073709551616:Nat):Int)):=by
 have:=aCl (P:=P) (G:=G) (d:=d) (ty:=ty) (pos:=pos) (af:=af) (gd:=gd) (t:=t) (t':=t') hx hy
 have e:IntKind.u64.wrap ((a:Int)*(b:Int))=((a*b%18446744073709551616:Nat):Int):=by
  rw[<- Int.natCast_mul,wrap_u64]
  generalize a*b=q
  omega
 rwa [e] at this
end
end
end Go.Ct
namespace Go.Proofs.YtbajmaoegmbfgaaGreat
open Go Go.RowKit Go.Ct
section
theorem Xq(key:ByteArray){m:Nat}(hm:m<18446744073709551616)(hk:key.size<=4611686018427387903)(w:World):Calls Tryz.prog 222 #[.string key,.int .u64 (m:Int)] w λ e w'=>e=.returned (.int .u64 ((mJ key m:Nat):Int))/\St w [] [] w':=by
 refine enter Tryz.func222 Tryz.ntmps222 rfl rfl (SF.s0 w) ?_
 simp only[cG]
 refine dA ?_;refine E8 ?_;refine D8 ?_
 refine iF [5,6,7,8,9,10,11,12,13,14,15,16,17,18,19] (λ y:Nat=>[(6,.int .i64 ((y:Nat):Int)),(5,.int .u64 ((hsN key y:Nat):Int))]) (λ y=>y<=key.size) (λ y=>key.size-y) (0) (Nat.zero_le _) ?_ (λ y f hx=>?_)
 ·repeat (first|exact bJ _|refine bF (by exact rfl) ?_)
 dsimp only[iC,List.map,List.cons_append,List.nil_append]
 refine C4 ?_;refine mH ?_;refine Bi ?_
 refine bC (λ c10=>?_) (λ c10=>?_)
 ·refine rY ?_;refine xK ?_;refine pM ?_;refine aP (gM (zk (s:=key) (i:=y) rf rf (by kernel_rfl) (by omega))) (λ x16=>?_);refine aD (U2 (k2:=.u8) rf (by kernel_rfl) (by exact wF rfl) ⟨bL _,by have:=gg key y;omega⟩) rfl ?_;refine aD (zi rf rf (Uk _ _) (by have:=gg key y;omega)) rfl ?_;refine aD (aAO rf rf) rfl ?_;refine J1 ?_;refine Ka8 ?_
  refine fP (y+1) ?_ ?_ ?_
  ·omega
  ·repeat' (first|exact bJ _|refine bF ?_ ?_)
   all_goals (exact rfl)
  ·omega
 ·refine bT rfl ?_;refine jF ?_;refine aD (aAI rf rf (Uk _ _) hm) rfl ?_;refine J1 ?_
  refine aT Tryz.results222 (λ w hw=>?_)
  have hy:y=key.size:=by omega
  subst hy
  exact⟨rfl,hw.done⟩
theorem oB(key:ByteArray)(w:World):Calls Tryz.prog 208 #[.string key] w λ e w'=>e=.returned (.bool (decide (key.size<=64)))/\St w [] [] w':=by
 refine enter Tryz.func208 Tryz.ntmps208 rfl rfl (SF.s0 w) ?_
 simp only[cG]
 refine Kc7 ?_;refine mH ?_;refine A2 ?_;refine J1 ?_
 refine aT Tryz.results208 (λ w hw=>?_)
 exact⟨by rw[show decide (key.size<=64)=decide ((key.size:Int)<=64) from decide_eq_decide.2 (by omega)];rfl,hw.done⟩
theorem gU(f:Bool)(v:Int)(w:World):Calls Tryz.prog 223 #[.bool f,.int .u64 v] w λ e w'=>e=.returned (.agg ⟨(Rs.mk 0 f v ⟨#[]⟩ 0 0 0 false).cells⟩)/\St w [] [] w':=by
 refine enter Tryz.func223 Tryz.ntmps223 rfl rfl (SF.s0 w) ?_
 simp only[cG]
 refine J0 ?_;refine aL (λ x4=>?_);refine aI ?_;refine jF ?_;refine xF ?_
 refine bD Tryz.results223 (λ w hw=>?_)
 exact⟨rfl,hw.done⟩
end
end Go.Proofs.YtbajmaoegmbfgaaGreat
namespace Go.Ct
open Go Go.RowKit
section
theorem Nx.ch{g:Gx}{x X:XS}{N:List aQ}{t:Tr}{b:Int}(h:Nx g x X N t b):Ch x X (aN N):=⟨N,h.ext,λ _ hf=>.inr hf⟩
theorem nR{a b:List aQ}:∀f∈aN (a++b),f.2=[]∨f∈aN b++aN a:=λ f hf=>by
 rw[dE] at hf
 rcases List.mem_append.1 hf with h|h
 ·exact .inr (List.mem_append_right _ h)
 ·exact .inr (List.mem_append_left _ h)
theorem XS.Ok.ysl{x:XS}(h:x.Ok)(r:Int):(aC x.L r).ys.length<=1099511627775:=by
 have h1:=h.lL
 unfold aC
 split
 ·have:=h.ys _ (fR (L:=x.L) (k:=(r-1).toNat) (by omega));omega
 ·exact Nat.zero_le _
theorem tN{g:Gx}{x:XS}{o:Option Int}{T:Tr}{B:Int->Tr}(h:gE g x (match o with|none=>T|some b=>B b))(hs:o.isSome=true):gE g x (B (o.getD 0)):=by
 cases o with
 | none=>cases hs
 | some b=>exact h
theorem Me{g:Gx}{x:XS}{o:Option Int}{T:Tr}{B:Int->Tr}(h:gE g x (match o with|none=>T|some b=>B b))(hs:o.isSome=false):gE g x T:=by
 cases o with
 | none=>exact h
 | some b=>cases hs
theorem gE.kD{g:Gx}{x:XS}{n:Nat}{T:Nat->Tr}(h:gE g x (T n))(hs:x.st=false)(h0:T 0=.stuck)(hg:g.Ok):∃f,n=f+1/\gE g x (T (f+1)):=by
 cases n with
 | zero=>rw[h0] at h;exact((h.run hs).Yo hg).elim
 | succ f=>exact⟨f,rfl,h⟩
end
end Go.Ct
namespace Go.Proofs.YtbajmaoegmbfgaaGreat
open Go Go.RowKit Go.Ct
section
theorem nS{key:ByteArray}{mask:Int}{m:Nat}(e:mask=(m:Int))(hm:m<18446744073709551616)(hk:key.size<=64)(w:World):Calls Tryz.prog 222 #[.string key,.int .u64 mask] w λ e w'=>e=.returned (.int .u64 ((mJ key m:Nat):Int))/\St w [] [] w':=by
 subst e
 exact Xq key hm (by omega) w
theorem Lr{v:aQ}{n:Nat}{w:World}(k:ByteArray)(hr:sG w v.nd v.xs v.ys)(hy:v.ys.length<=1099511627775):Calls Tryz.prog 60 #[.slice v.nd.prA v.nd.prN v.nd.cX,.string k] w λ e w'=>e=.returned (.tuple #[.int .u64 ((dY v.c.ys k).getD 0),.bool (dY v.c.ys k).isSome])/\St w [] [] w':=by
 rw[hr.prN]
 exact Jy k hr.pr hy
section
variable{k:Cl}{bx bm:Nat}{x:XS}{dn:Bool}{rs:Rs}{D:List Nat}{A:Fr}{w:World}{g:Gx}
set_option maxRecDepth 100000 in
theorem zw(hg:g.Ok){m:Nat}(K:Rs->Tr)(n:Nat)(hn:n<=1073741824)(hm:m<18446744073709551616)(em:k.mask=(m:Int))(ek:k.key.size<=64)(ht:k.t.root<=9223372036854775807)(hA:∀f∈aN x.L,f∈A)(go:gE g x (uP k.t λ i=>Dm k.t (mJ k.key m) k.key K n i 0))(ok:x.Ok)(hs:SF w D (xH k bx bm x dn rs) A [] (xW x) w):Calls Tryz.prog 183 #[.pointer (some ⟨bx,0,none⟩)] w λ e w'=>∃q:Rs×XS×List aQ,e=.returned (.agg ⟨q.1.cells⟩)/\Nx g x q.2.1 q.2.2 (K q.1) 0/\SF w D (xH k bx bm q.2.1 dn rs) [] (aN q.2.2) (xW q.2.1) w':=by
 refine enter Tryz.func183 Tryz.ntmps183 rfl rfl (cD hs) ?_
 simp only[cG]
 refine J0 ?_;refine aL (λ x2=>?_);refine Tq ?_
 refine eP [3,4,13,14,15,16,17,18,19,20,21,22,23,24,25,26,27,28] (λ j:Nat=>[(3,.pointer (some ⟨j,0,none⟩)),(4,.int .u64 ((mJ k.key m:Nat):Int))]) (λ _=>True) (λ j=>[(j,.cells ⟨[.int .i64 k.t.root,.bool k.t.ro]⟩ 29 (0,0)),(x2,.cells ⟨Rs.zero.cells⟩ 64 (0,0)),(bx,xO k bm x dn rs),(bm,xM x)]) (λ _=>[]) (λ _=>xW x) (by decide) (λ _=>by exact rfl) ?_ (λ j f hx=>?_)
 ·refine gK (.one 0 [] (.one 1 [] (.one 2 [] (.one 3 [] (.one 4 [] (.one 5 [] (.one 6 [] (.one 7 [] (.one 8 [] (.one 9 [] (.one 10 [] (.one 11 [] (.one 12 [] (.one 13 [] (.one 14 [] (.two 15 [4] (.one 16 [4,9,14] (.one 17 [] (.one 18 [] .nil))) 0 [] (.two 16 [4,9,14] (.one 15 [4] (.one 17 [] (.one 18 [] .nil))) 0 [] .nil))))))))))))))))) ?_
  refine J9 ?_;refine aW ?_;refine bU (i:=4) (hq:=(aU (k:=2) (vs:=[.int .i64 k.t.root,.bool k.t.ro]) rf cS eT rfl rfl)) (h:=?_);refine yJ ?_;refine yJ ?_
  refine gV (E:=[15,16]) (by decide +kernel) ((.cons ?_ (.cons ?_ .nil)))
  ·refine Lj (i:=15) (hq:=(cV (hc:=λ w1 hw=>nS em hm ek w1))) (hfire:=(λ _=>by(refine aK.cons (by exact fL (hq:=aU (k:=2) (vs:=[.int .i64 k.t.root,.bool k.t.ro]) rf cS eT rfl rfl)) ?_;exact aK.nil))) (h:=λ x28=>?_)
   refine gW (hfire:=(λ _=>by((repeat (first|exact aK.nil|refine aK.cons (by first|exact fL (hq:=aU (k:=2) (vs:=[.int .i64 k.t.root,.bool k.t.ro]) rf cS eT rfl rfl)|exact eN) ?_));done))) (h:=λ x3=>?_);refine Bu ?_
   refine fH (x3) ?_
   ·trivial
  ·refine gY (i:=16) (hfire:=(λ _=>by((repeat (first|exact aK.nil|refine aK.cons (by first|exact fL (hq:=aU (k:=2) (vs:=[.int .i64 k.t.root,.bool k.t.ro]) rf cS eT rfl rfl)|exact eN) ?_));done))) (h:=λ x3=>?_)
   refine dC (i:=15) (hq:=(cV (hc:=λ w1 hw=>nS em hm ek w1))) (hfire:=(λ _=>by(refine aK.cons (by exact fL (hq:=aU (k:=2) (vs:=[.int .i64 k.t.root,.bool k.t.ro]) rf cS eT rfl rfl)) ?_;exact aK.nil))) (h:=λ x28=>?_);refine Bu ?_
   refine fH (x3) ?_
   ·trivial
 dsimp only[iC,List.map,List.cons_append,List.nil_append]
 refine Kb3 ?_;refine aE (cM (hs:=xH k bx bm x dn rs) (os:=xW x) (hc:=λ w hs=>Cc hg k.t _ ht go ok hs)) (λ x31 h31=>?_);refine iT ?_;refine D8 ?_
 refine nT [5,6,7,8,9,10,11,12,32,33,34,35,36,37,38,39,40,41,42,43,44,45,46,47,48,49,50,51,52,53,54,55,56,57,58,59,60,61,62,63,64,65,66,67,68,69,70,71,72,73,74,75,76,77,78,79,80,81,82,83,84,85,86,87,88,89,90,91,92,93,94,95,96,97,98,99,100,101,102,103,104,105,106,107,108,109,110,111,112] (λ y:Nat×Int×XS×List aQ=>[(5,.int .i64 y.2.1),(6,.int .i64 ((n-y.1:Nat):Int))]) (λ y=>y.1<=n/\Nx g x y.2.2.1 y.2.2.2 (Dm k.t (mJ k.key m) k.key K y.1 y.2.1 ((n-y.1:Nat):Int)) y.2.1) (λ y=>[(j,.cells ⟨[.int .i64 k.t.root,.bool k.t.ro]⟩ 29 (0,0)),(x2,.cells ⟨Rs.zero.cells⟩ 64 (0,0)),(bx,xO k bm y.2.2.1 dn rs),(bm,xM y.2.2.1)]) (λ y=>aN y.2.2.2) (λ y=>xW y.2.2.1) (λ y=>y.1) ((n,x31.1,x31.2.1,x31.2.2)) (⟨Nat.le_refl n,by rw[Nat.sub_self];exact h31⟩) (λ y f hx=>?_) (hw0:=λ w hw=>by rw[List.append_nil] at hw;exact hw)
 dsimp only[iC,List.map,List.cons_append,List.nil_append]
 refine aV ?_;refine mK ?_;refine pE ?_
 refine bC (λ c36=>?_) (λ c36=>?_)
 ·obtain⟨f,hf,gx⟩:=gE.kD (T:=λ z=>Dm k.t (mJ k.key m) k.key K z y.2.1 ((n-y.1:Nat):Int)) hx.2.go (by simpa using c36) rfl hg
  have hyl:=hx.1
  refine rY ?_;refine jF ?_;refine bQ ?_;refine aB ?_;refine aE (cM (hs:=xH k bx bm y.2.2.1 dn rs) (os:=xW y.2.2.1) (hc:=λ w hs=>pB hg k.t y.2.1 _ ht hx.2.bd gx hx.2.ok hs)) (λ x43 h43=>?_)
  have hch:=Ch.nx h43 hx.2.ch
  have hlc:x.cs.length<=x43.2.1.cs.length:=by have:=h43.lc;have:=hx.2.lc;omega
  refine aE (cM (hs:=xH k bx bm x43.2.1 dn rs) (os:=xW x43.2.1) (hc:=λ w hs=>cH x43.1 _ h43.bd h43.go h43.ok hs)) (λ x44 h44=>?_);refine aL (λ x7=>?_);refine J5 ?_;refine Df ?_;refine aI ?_;refine cW ?_;refine mB ?_
  refine bC (λ c47=>?_) (λ c47=>?_)
  ·have g1:=h44.1.to (λ _=>if_pos c47)
   refine aV ?_;refine aV ?_;refine gZ [0,1,2,3,4,5,6,7] ?_;refine lK ?_;refine yJ ?_;refine w5 ?_;refine eL ?_
   refine bC (λ c56=>?_) (λ c56=>?_)
   ·refine iH ?_;refine aP (cV (hc:=λ w1 hw=>gU _ _ w1)) (λ x59=>?_);refine J5 ?_
    refine bD Tryz.results183 (λ w hw=>?_)
    obtain⟨N,hN,hf⟩:=hch.to (t':=K (jO true (aC x43.2.1.L x43.1).nd.val)) h43 (g1.to (λ _=>if_pos (by assumption))) hlc (bL _)
    exact⟨(jO true (aC x43.2.1.L x43.1).nd.val,x43.2.1,N),rfl,hN,(hw.eX hf).v4⟩
   ·refine aZ ?_;refine J0 ?_;refine aP (cV (hc:=λ w1 hw=>gU _ _ w1)) (λ x60=>?_);refine J5 ?_
    refine bD Tryz.results183 (λ w hw=>?_)
    obtain⟨N,hN,hf⟩:=hch.to (t':=K (jO false 0)) h43 (g1.to (λ _=>if_neg (by assumption))) hlc (bL _)
    exact⟨(jO false 0,x43.2.1,N),rfl,hN,(hw.eX hf).v4⟩
  ·have g1:=h44.1.to (λ _=>if_neg c47)
   refine mB ?_
   refine bC (λ c61=>?_) (λ c61=>?_)
   ·have g2:=g1.to (λ _=>if_pos c61)
    refine aV ?_;refine gZ [0,1,2,3,4,5,6,7,8,9,10,11,12] ?_;refine lK ?_;refine yJ ?_;refine dC (i:=7) (hq:=(cV (hc:=λ w1 hw=>Lr (v:=aC x43.2.1.L x43.1) (n:=0) k.key (hw.jl hch hA h43.ok x43.1) (h43.ok.ysl _)))) (h:=λ x71=>?_);refine aR ?_;refine cK (i:=9) (hq:=(bR rf rfl)) (h:=?_);refine cK (i:=10) (hq:=(bR rf rfl)) (h:=?_);refine Pf ?_;refine jF ?_;refine aP (cV (hc:=λ w1 hw=>gU _ _ w1)) (λ x76=>?_);refine J5 ?_
    refine bD Tryz.results183 (λ w hw=>?_)
    obtain⟨N,hN,hf⟩:=hch.to (t':=K (jO (dY (aC x43.2.1.L x43.1).c.ys k.key).isSome ((dY (aC x43.2.1.L x43.1).c.ys k.key).getD 0))) h43 (g2) hlc (bL _)
    exact⟨(jO (dY (aC x43.2.1.L x43.1).c.ys k.key).isSome ((dY (aC x43.2.1.L x43.1).c.ys k.key).getD 0),x43.2.1,N),rfl,hN,(hw.eX hf).v4⟩
   ·have g2:=g1.to (λ _=>if_neg c61)
    refine pF ?_;refine aV ?_;refine eH [(0,[]),(1,[]),(2,[]),(3,[0]),(4,[]),(5,[]),(6,[]),(7,[]),(8,[]),(9,[])] ?_;refine bS ?_;refine iK ?_;refine dC (i:=3) (hq:=(cV (hc:=λ w1 hw=>fM (uB k.key m) ((n-y.1:Nat):Int) w1))) (h:=λ x81=>?_);refine dC (i:=4) (hq:=(cV (hc:=λ w1 hw=>Ld (v:=aC x43.2.1.L x43.1) h44.2 (hU (mJ k.key m) ((n-y.1:Nat):Int)) (hw.jl hch hA h43.ok x43.1)))) (h:=λ x82=>?_);refine aR ?_;refine cK (i:=6) (hq:=(bR rf rfl)) (h:=?_);refine cK (i:=7) (hq:=(bR rf rfl)) (h:=?_);refine Pf ?_;refine aV ?_;refine mK ?_;refine aB ?_
    (refine eI 89 (λ g89=>?_) (λ g89=>?_)<;>refine Ka0 ?_)
    all_goals (refine Kc0 ?_)
    all_goals
    refine bC (λ c92=>?_) (λ c92=>?_)
    ·all_goals (refine J0 ?_;refine aP (cV (hc:=λ w1 hw=>gU _ _ w1)) (λ x93=>?_);refine J5 ?_)
     all_goals
      refine bD Tryz.results183 (λ w hw=>?_)
      obtain⟨N,hN,hf⟩:=hch.to (t':=K (jO false 0)) h43 (by first|exact g2.bY (by assumption)|exact Me g2 (by assumption)) hlc (bL _)
      exact⟨(jO false 0,x43.2.1,N),rfl,hN,(hw.eX hf).v4⟩
    ·try exact nv c92
     all_goals (refine kZ ?_;refine jF ?_;refine aE (cM (hs:=xH k bx bm x43.2.1 dn rs) (os:=xW x43.2.1) (hc:=λ w hs=>cH ((lI (aC x43.2.1.L x43.1).c (hU (mJ k.key m) ((n-y.1:Nat):Int))).getD 0) _ (pU h44.2 _) (tN g2 (by assumption)) h43.ok hs)) (λ x96 h96=>?_);refine aL (λ x12=>?_);refine J5 ?_;refine iH ?_;refine uQ ?_)
     all_goals
      refine bC (λ c99=>?_) (λ c99=>?_)
      ·refine aV ?_;refine aV ?_;refine gZ [0,1,2,3,4,5,6,7] ?_;refine lK ?_;refine yJ ?_;refine w5 ?_;refine eL ?_
       refine bC (λ c107=>?_) (λ c107=>?_)
       ·refine iH ?_;refine aP (cV (hc:=λ w1 hw=>gU _ _ w1)) (λ x110=>?_);refine J5 ?_
        refine bD Tryz.results183 (λ w hw=>?_)
        obtain⟨N,hN,hf⟩:=hch.to (t':=K (jO true (aC x43.2.1.L ((lI (aC x43.2.1.L x43.1).c (hU (mJ k.key m) ((n-y.1:Nat):Int))).getD 0)).nd.val)) h43 ((h96.1.to (λ _=>if_pos c99)).to (λ _=>if_pos (by assumption))) hlc (bL _)
        exact⟨(jO true (aC x43.2.1.L ((lI (aC x43.2.1.L x43.1).c (hU (mJ k.key m) ((n-y.1:Nat):Int))).getD 0)).nd.val,x43.2.1,N),rfl,hN,(hw.eX hf).v4⟩
       ·refine aZ ?_;refine J0 ?_;refine aP (cV (hc:=λ w1 hw=>gU _ _ w1)) (λ x111=>?_);refine J5 ?_
        refine bD Tryz.results183 (λ w hw=>?_)
        obtain⟨N,hN,hf⟩:=hch.to (t':=K (jO false 0)) h43 ((h96.1.to (λ _=>if_pos c99)).to (λ _=>if_neg (by assumption))) hlc (bL _)
        exact⟨(jO false 0,x43.2.1,N),rfl,hN,(hw.eX hf).v4⟩
      ·refine aZ ?_;refine xK ?_;refine J1 ?_;refine Ka8 ?_
       refine iO ((y.1-1,((lI (aC x43.2.1.L x43.1).c (hU (mJ k.key m) ((n-y.1:Nat):Int))).getD 0),x43.2.1,y.2.2.2++x43.2.2)) ?_ (hw1:=λ w hw=>(hw.eX nR).v6)
       ·have e1:y.1-1=f:=by omega
        have e2:((n-y.1:Nat):Int)+1=((n-f:Nat):Int):=by omega
        refine⟨by show y.1-1<=n;omega,(hx.2.trans h43).cI ?_ (pU h44.2 _)⟩
        show gE g x43.2.1 (Dm k.t (mJ k.key m) k.key K (y.1-1) ((lI (aC x43.2.1.L x43.1).c (hU (mJ k.key m) ((n-y.1:Nat):Int))).getD 0) ((n-(y.1-1):Nat):Int))
        rw[e1,<- e2]
        exact h96.1.to (λ _=>if_neg c99)
 ·refine bT rfl ?_;refine Kb8 ?_
  refine bD Tryz.results183 (λ w hw=>?_)
  obtain⟨N,hN,hf⟩:=hx.2.ch.to (t':=K (Rs.zero)) hx.2 (hx.2.go.bY (by simpa using c36)) hx.2.lc (bL _)
  exact⟨(Rs.zero,y.2.2.1,N),rfl,hN,(hw.eX hf).v4⟩
end
end
end Go.Proofs.YtbajmaoegmbfgaaGreat

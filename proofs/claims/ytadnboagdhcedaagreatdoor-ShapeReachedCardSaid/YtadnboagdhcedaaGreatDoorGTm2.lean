/- The trees are never stuck within as many accesses as they have fuel: calls. -/
import Derived.Test.YtadnboagdhcedaaGreatDoorGEx23
import Derived.Test.YtadnboagdhcedaaGreatDoorGAr9
import Derived.Test.YtadnboagdhcedaaGreatDoorGJoin

set_option linter.unusedSimpArgs false
set_option linter.unusedVariables false
namespace Go.Proofs.YtadnboagdhcedaaGreatDoor
section
open Go Go.RowKit Go.Ct
section
variable{n c:Nat}
theorem eU{a:Nv}{i:Int}{k:Int->Tr}(hc:1<=c)(h:∀v,bZ (k v) n (c-1)):bZ (.alloc a i k) n c:=by
 obtain⟨c,rfl⟩:∃d,c=d+1:=⟨c-1,by omega⟩
 exact Ij h
theorem Ap{a i r:Int}{K:Int->Tr}(hc:1<=c)(h:∀v,bZ (K v) n (c-1)):bZ (C9 a i r K) n c:=cL λ _=>eU hc h
theorem P4{t:dZ}{i o x:Int}{K:Int->Tr}(h:F2 K n):bZ (Kf t i o x K) n c:=cL λ _=>gA λ n1 h1 _=>cL λ _=>eU (by decide) λ _=>Ap (by decide) λ _=>jB λ n2 h2 _=>h n2 (by omega) _
theorem wY{t:dZ}{p o:Int}{h0:Nat}{l:Int}{K:Bool->Tr}(h:F2 K n):bZ (wU t p o h0 l K) n c:=gA λ n1 h1 _=>cL λ _=>by
 split
 ·exact gA λ n2 h2 _=>cL λ _=>by
   split
   ·exact eU (by decide) λ _=>cL λ _=>eU (by decide) λ _=>jB λ n3 h3 _=>h n3 (by omega) _
   ·exact h n2 (by omega) _
 ·exact h n1 h1 _
theorem Hj{t:dZ}{h0:Nat}{key:ByteArray}{K:Rs->Tr}:∀(q n c:Nat) (i level:Int),n<q->F2 K n->bZ (Bb t h0 key K q i level) n c
 | 0,n,c,i,level,hq,_=>absurd hq (Nat.not_lt_zero n)
 | q+1,n,c,i,level,hq,h=>gA λ n1 h1 _=>cL λ _=>by
  split
  ·split<;>exact h n1 h1 _
  ·split
   ·exact h n1 h1 _
   ·split
    ·exact h n1 h1 _
    ·exact cL λ _=>by
      split
      ·split<;>exact h n1 h1 _
      ·exact Hj q n1 64 _ _ (by omega) (h.lt (by omega))
theorem K2:∀(l:List NI) (r:Int) (K:Int->Tr) (n c:Nat),l.length<=c->(∀v,bZ (K v) n (c-l.length))->bZ (zB l r K) n c
 | [],r,K,n,c,_,h=>h r
 | a::l,r,K,n,c,hc,h=>by
  have hc':l.length+1<=c:=by simpa using hc
  exact eU (by omega) λ v=>K2 l v K n (c-1) (by omega) (λ u=>by have:=h u;rw[List.length_cons] at this;rwa [show c-1-l.length=c-(l.length+1) by omega])
theorem Tp{k:Cl}{b:Int}{h0 level:Nat}{gen:Int}{K:Int->Tr}(hc:32<=c)(h:∀v,bZ (K v) n (c-32)):bZ (S8 k b h0 level gen K) n c:=cL λ nb=>eU (by omega) λ f=>by
 have hl:(dP b nb.hash.toNat h0 (nb.key,nb.val) k.key k.val gen f.toNat level).tail.length<=31:=by
  have h1:=P9 (x:=b) (h0:=nb.hash.toNat) (h:=h0) (p0:=(nb.key,nb.val)) (k:=k.key) (u:=k.val) (gen:=gen) (f:=f.toNat) (jW nb.hash.toNat h0-level) (jW nb.hash.toNat h0-(jW nb.hash.toNat h0-level))
  have h2:=xC nb.hash.toNat h0
  rw[List.length_tail]
  unfold dP
  omega
 exact K2 _ _ _ _ _ (by omega) λ v=>uc (by omega) (h v)
theorem Jy{k:Cl}{i m:Int}{h0 level:Nat}{gen:Int}{K:Rs->Int->Tr}(h:∀n',n'<=n->∀r w,bZ (K r w) n' 64):bZ (kQ k i m h0 level gen K) n 64:=cL λ nb=>by
 split
 ·split
  ·exact eU (by decide) λ _=>jB λ n1 h1 _=>h n1 (by omega) _ _
  ·exact h n (Nat.le_refl n) _ _
 ·split
  ·split
   ·exact eU (by decide) λ _=>eU (by decide) λ _=>jB λ n1 h1 _=>h n1 (by omega) _ _
   ·exact h n (Nat.le_refl n) _ _
  ·refine cL λ _=>?_
   split
   ·exact h n (Nat.le_refl n) _ _
   ·split
    ·split
     ·exact eU (by decide) λ _=>Ap (by decide) λ _=>jB λ n1 h1 _=>h n1 (by omega) _ _
     ·exact h n (Nat.le_refl n) _ _
    ·split
     ·exact Tp (by decide) λ _=>eU (by decide) λ _=>Ap (by decide) λ _=>jB λ n1 h1 _=>h n1 (by omega) _ _
     ·exact h n (Nat.le_refl n) _ _
theorem Fk{k:Cl}{i m x gen:Int}{K:Int->Tr}(h:∀n',n'<=n->∀v,bZ (K v) n' 64):bZ (Ej k i m x gen K) n 64:=cL λ _=>cL λ _=>by
 split
 ·exact h n (Nat.le_refl n) _
 ·exact P4 λ n1 h1 _=>h n1 (by omega) _
theorem Di{k:Cl}{h0:Nat}{K:Rs->Tr}{again:Tr}{gen:Int}:∀(q n c:Nat) (i parent:Int) (level:Nat),n<q->F2 K n->(∀n',n'<n->bZ again n' 64)->bZ (Bq k h0 K again gen q i parent level) n c
 | 0,n,c,i,p,level,hq,_,_=>absurd hq (Nat.not_lt_zero n)
 | q+1,n,c,i,p,level,hq,h,ha=>gA λ n1 h1 _=>cL λ _=>by
  split
  ·exact wY λ n2 h2 _=>ha n2 (by omega)
  ·refine Jy λ n2 h2 r w=>?_
   split
   ·exact h n2 (by omega) _
   ·split
    ·exact ha n2 (by omega)
    ·refine Fk λ n3 h3 v=>?_
     split
     ·exact ha n3 (by omega)
     ·exact Di q n3 64 _ _ _ (by omega) (h.lt (by omega)) (λ n4 h4=>ha n4 (by omega))
theorem M0{k:Cl}{h0:Nat}{K:Rs->Tr}:∀(q n c:Nat),n<q->F2 K n->bZ (yW k h0 K q) n c
 | 0,n,c,hq,_=>absurd hq (Nat.not_lt_zero n)
 | q+1,n,c,hq,h=>oA λ n1 h1 _=>cL λ _=>Di q n1 64 _ _ _ (by omega) (h.lt (by omega)) (λ n2 h2=>M0 q n2 64 (by omega) (h.lt (by omega)))
theorem Gb{k:Cl}{i m:Int}{h0 level:Nat}{K:Rs->Int->Tr}(h:∀n',n'<=n->∀r w,bZ (K r w) n' 64):bZ (jD k i m h0 level K) n 64:=cL λ nb=>by
 split
 ·split
  ·exact h n (Nat.le_refl n) _ _
  ·exact eU (by decide) λ _=>jB λ n1 h1 _=>h n1 (by omega) _ _
 ·split
  ·exact h n (Nat.le_refl n) _ _
  ·refine cL λ _=>?_
   split
   ·exact h n (Nat.le_refl n) _ _
   ·split
    ·exact h n (Nat.le_refl n) _ _
    ·split
     ·exact h n (Nat.le_refl n) _ _
     ·exact cL λ _=>eU (by decide) λ _=>jB λ n1 h1 _=>h n1 (by omega) _ _
theorem Sh{t:dZ}{path:List Int}{h0:Nat}{K:Tr}:∀(l n:Nat),(∀n',n'<=n->bZ K n' 64)->bZ (pj t path h0 K l) n 64
 | 0,n,h=>h n (Nat.le_refl n)
 | l+1,n,h=>gA λ n1 h1 _=>cL λ _=>by
  split
  ·exact wY λ n2 h2 _=>Sh l n2 (λ n3 h3=>h n3 (by omega))
  ·exact h n1 (by omega)
theorem A2{k:Cl}{h0:Nat}{K:Rs->Tr}{again:Tr}{gen:Int}:∀(q n c:Nat) (i:Int) (path:List Int) (level:Nat),n<q->F2 K n->(∀n',n'<n->bZ again n' 64)->bZ (uH k h0 K again gen q i path level) n c
 | 0,n,c,i,p,level,hq,_,_=>absurd hq (Nat.not_lt_zero n)
 | q+1,n,c,i,p,level,hq,h,ha=>gA λ n1 h1 _=>cL λ _=>by
  split
  ·exact wY λ n2 h2 _=>ha n2 (by omega)
  ·refine Gb λ n2 h2 r w=>?_
   split
   ·split
    ·exact Sh _ _ λ n3 h3=>h n3 (by omega) _
    ·exact h n2 (by omega) _
   ·split
    ·exact ha n2 (by omega)
    ·refine Fk λ n3 h3 v=>?_
     split
     ·exact ha n3 (by omega)
     ·exact A2 q n3 64 _ _ _ (by omega) (h.lt (by omega)) (λ n4 h4=>ha n4 (by omega))
theorem Hv{k:Cl}{h0:Nat}{K:Rs->Tr}:∀(q n c:Nat),n<q->F2 K n->bZ (pC k h0 K q) n c
 | 0,n,c,hq,_=>absurd hq (Nat.not_lt_zero n)
 | q+1,n,c,hq,h=>oA λ n1 h1 _=>cL λ _=>A2 q n1 64 _ _ _ (by omega) (h.lt (by omega)) (λ n2 h2=>Hv q n2 64 (by omega) (h.lt (by omega)))
theorem Jf{i:Int}{k:Int->Tr}(hc:1<=c)(h:∀v,bZ (k v) n (c-1)):bZ (.cell i k) n c:=by
 obtain⟨c,rfl⟩:∃d,c=d+1:=⟨c-1,by omega⟩
 exact ry h
theorem P1{k:Int->Tr}(hc:1<=c)(h:∀v,bZ (k v) n (c-1)):bZ (.gen k) n c:=by
 obtain⟨c,rfl⟩:∃d,c=d+1:=⟨c-1,by omega⟩
 exact yj h
theorem jA{r:Rs}:bZ (.done r) n c:=by simp[bZ]
theorem Ho{m:Int}:bZ (Gm m .done) n 64:=P1 (by decide) λ _=>eU (by decide) λ _=>Jf (by decide) λ _=>jA
theorem Hu{t:dZ}{fz:Bool}:∀(q n c:Nat),n<q->bZ (Eb t fz .done q) n c
 | 0,n,c,hq=>absurd hq (Nat.not_lt_zero n)
 | q+1,n,c,hq=>oA λ n1 h1 _=>gA λ n2 h2 _=>P1 (by decide) λ _=>eU (by decide) λ _=>xB (λ n3 h3 b=>by
  split
  ·split
   ·exact Jf (by decide) λ _=>jA
   ·exact Ho
  ·exact Hu q n3 64 (by omega)) (by decide)
theorem Dx{t:dZ}{fz:Bool}{q:Nat}(h:n<q):bZ (qY t fz .done q) n c:=by
 unfold qY
 split
 ·exact oG λ n1 h1 _=>by
   split
   ·exact Jf (by decide) λ _=>jA
   ·exact gA λ n2 h2 _=>Ho
 ·exact Hu q n c h
theorem Dh{t:dZ}:∀(q n c:Nat),n<q->bZ (uE t .done q) n c
 | 0,n,c,hq=>absurd hq (Nat.not_lt_zero n)
 | q+1,n,c,hq=>oA λ n1 h1 _=>gA λ n2 h2 _=>eU (by decide) λ _=>P1 (by decide) λ _=>eU (by decide) λ _=>xB (λ n3 h3 b=>by
  split
  ·exact jA
  ·exact Dh q n3 64 (by omega)) (by decide)
theorem T4{k:Cl}{h0 q:Nat}(h:n<q):bZ (kW k h0 q) n 64:=by
 have hd:∀{X:Type} {K:X->Rs},F2 (λ v=>Tr.done (K v)) n:=λ _ _ _=>jA
 unfold kW
 split
 ·exact jA
 split
 ·exact gA hd
 split
 ·exact jB hd
 split
 ·exact oA hd
 split
 ·exact xB hd (by decide)
 split
 ·exact oA λ n1 h1 _=>Hj q n1 64 _ _ (by omega) (λ _ _ _=>jA)
 split
 ·exact M0 q n 64 h (λ _ _ _=>jA)
 split
 ·exact Hv q n 64 h (λ _ _ _=>jA)
 split
 ·exact Dx h
 split
 ·exact Dx h
 ·exact Dh q n 64 h
end
end

/- Worlds: lists of tries and of executions; the smallest functions. -/
end Go.Proofs.YtadnboagdhcedaaGreatDoor
namespace Go.Ct
section
open Go Go.RowKit
section
variable{P:Program}{S:List (Nat×Value)}{d:Nat}{ty t t' e:TypeId}{pos:String}{af:Array Edge}{gd:Option (Nat×Bool)}{x y:Operand}{w0 w:World}{M:List Nat}{H:List (Nat×Obj)}{A F:Fr}{O:List Ow}{a:Option Addr}
theorem X4{cs:List Value}{kk:IntKind}{m c k:Nat}(hx:ev S x=.slice a m c)(hy:ev S y=.int kk ((k:Nat):Int))(ht:P.underlying t=some (.slice e))(hs:one P e=true)(hf:pE A F O a cs)(h1:k<m)(h2:k<cs.length) :
  aJ P S (SF w0 M H A F O) ⟨some d,.indexAddr t x y,ty,pos,af,gd⟩ (.pointer (some ⟨cR a,dX a+k,none⟩)):=⟨λ w hw =>
 (xQ (G:=SF w0 M H A F O) hx hy ht hs ((hw.cl hf).ptr (by omega)) h1).run w hw⟩
theorem Zz{cs:List Value}{q:Nat}{v:Value}(hx:ev S x=.pointer (some ⟨cR a,dX a+q,none⟩))(ht:one P t=true)(hf:pE A F O a cs)(hq:cs[q]?=some v) :
  aJ P S (SF w0 M H A F O) ⟨some d,.load t x,ty,pos,af,gd⟩ v:=nT hx ht (λ w hw=>hw.cl hf) hq
theorem Qh{cs:List Value}{kk:IntKind}{m c k:Nat}(hx:ev S x=.slice a m c)(hy:ev S y=.int kk ((k:Nat):Int))(ht:P.underlying t=some (.slice e))(hs:jO P e 2=true)(hf:pE A F O a cs)(h1:k<m)(h2:2*k<cs.length) :
  aJ P S (SF w0 M H A F O) ⟨some d,.indexAddr t x y,ty,pos,af,gd⟩ (.pointer (some ⟨cR a,dX a+2*k,none⟩)):=⟨λ w hw =>
 (Mv (G:=SF w0 M H A F O) hx hy ht hs ((hw.cl hf).ptr (by omega)) h1).run w hw⟩
end
end
end Go.Ct
namespace Go.Proofs.YtadnboagdhcedaaGreatDoor
section
open Go Go.RowKit Go.Ct
def qS(ts:List dZ):List Value:=ts.flatMap λ t=>[.int .i64 t.root,.bool t.ro]
def vV(es:List Nat):List Value:=es.map λ b=>.pointer (some ⟨b,0,none⟩)
theorem lV:∀ts:List dZ,(qS ts).length=ts.length*2
 | []=>rfl
 | t::ts=>by
  have:=lV ts
  simp only[qS,List.flatMap_cons,List.length_append,List.length_cons,List.length_nil] at this ⊢
  omega
theorem Wa(ts:List dZ)(t:dZ):qS (ts++[t])=qS ts++[.int .i64 t.root,.bool t.ro]:=by simp[qS]
theorem bu(es:List Nat)(b:Nat):vV (es++[b])=vV es++[.pointer (some ⟨b,0,none⟩)]:=by simp[vV]
theorem xI(es:List Nat):(vV es).length=es.length:=by simp[vV]
theorem Dm:dF Tryz.prog 37 29 [.int .i64 0,.bool false]:=mE (z:=.agg ⟨[.int .i64 0,.bool false]⟩) (by kernel_rfl) (by kernel_rfl) rfl
theorem Lj:dF Tryz.prog 38 73 [.pointer none]:=mE (z:=.pointer none) (by kernel_rfl) (by kernel_rfl) rfl
theorem ig:dF Tryz.prog 107 30 [.int .u64 0]:=mE (z:=.int .u64 0) (by kernel_rfl) (by kernel_rfl) rfl
abbrev mX(bm:Nat)(mask:Int)(pt:Option Addr)(nt kt:Nat)(pe:Option Addr)(ne ke:Nat):Obj:=.cells ⟨[.pointer (some ⟨bm,0,none⟩),.int .u64 mask,.slice pt nt kt,.slice pe ne ke]⟩ 40 (0,0)
def yS:List Int:=[18446744073709551615,0,1,64,63,4095,9223372036854775808,4032,3458764513820540928,18446744073709551615]
theorem se{l:List Int}{a:Option Addr}{b c k:Nat}{w:World}(ht:gq w b a l c k) :
  Calls Tryz.prog 23 #[.pointer (some ⟨b,0,none⟩)] w λ e w' =>
  ∃v:Nat,e=.returned (.int .u64 (yS.getD v 0))/\v<10/\SF w [b] ((b,O4 a l c (nD l k))::[]) [] [] [] w':=by
 refine enter Tryz.func23 Tryz.ntmps23 rfl rfl ht.start ?_
 simp only[cO]
 refine cQ ?_;refine J0 ?_;refine aT ((by exact Fo (λ _=>cE (cs:=yS.map (Value.int .u64)) ig F5 rfl rfl rfl rfl rfl))) (λ x3=>?_);refine aB ?_;refine aC (wF (hc:=λ w1 hw=>eJ 10 (hw.tape dV fin ht.len) (by decide) (by decide))) (λ x5 h5=>?_);refine aE (X4 (cs:=yS.map (Value.int .u64)) rf rf fC gB fin (by omega) (by rw[List.length_map];simp only[yS,List.length_cons,List.length_nil];omega)) rfl ?_;refine aE (Zz (cs:=yS.map (Value.int .u64)) (v:=.int .u64 (yS.getD x5 0)) rf gB fin (by rw[List.getElem?_map,fI,List.getElem?_eq_getElem (by simp only[yS,List.length_cons,List.length_nil];omega)];rfl)) rfl ?_;refine J1 ?_
 refine aQ Tryz.results23 (λ w hw=>?_)
 exact⟨x5,rfl,by omega,hw.aS⟩
theorem rm{l:List Int}{a:Option Addr}{b c k:Nat}{w:World}(ht:gq w b a l c k) :
  Calls Tryz.prog 25 #[.pointer (some ⟨b,0,none⟩)] w λ e w' =>
  ∃v:Bool,e=.returned (.bool v)/\True/\SF w [b] ((b,O4 a l c k)::[]) [] [] [] w':=by
 refine enter Tryz.func25 Tryz.ntmps25 rfl rfl ht.start ?_
 simp only[cO]
 refine F4 ?_;refine fJ [0,1,2,3,4,5,6,7,8,9,10] ?_;refine Cx ?_;refine lN ?_;refine Bh ?_;refine J7 ?_
 refine aQ Tryz.results25 (λ w hw=>?_)
 exact⟨_,rfl,trivial,hw.aS⟩
end

/- Worlds: Create, keep. -/
section
open Go Go.RowKit Go.Ct
structure KQ where
 ts:List dZ
 es:List Nat
 pt:Option Addr
 kt:Nat
 pe:Option Addr
 ke:Nat
def Pk(dn:Bool)(rs:Rs)(bx:Nat)(ts:List dZ)(es:List Nat)(q:KQ):Prop :=
 (dn=false/\q.es=es++[bx]/\q.ts=ts)∨(dn=true/\q.es=es/\(q.ts=ts∨(0<rs.root/\q.ts.length<=5/\q.ts=ts++[⟨rs.root,rs.ro⟩])))
section
variable{k:Cl}{bw bx bm:Nat}{x:XS}{dn:Bool}{rs:Rs}{D:List Nat}{A:Fr}{w:World}{mask:Int}{ts:List dZ}{es:List Nat}{pt pe:Option Addr}{kt ke:Nat}
abbrev wL(ts:List dZ)(es:List Nat)(pt:Option Addr)(kt:Nat)(pe:Option Addr)(ke:Nat):List Ow:=[⟨pt,qS ts,kt,29,2⟩,⟨pe,vV es,ke,73,1⟩]
theorem yl(h:SF w D ((bw,mX bm mask pt ts.length kt pe es.length ke)::xH k bx bm x dn rs) A [] (wL ts es pt kt pe ke++xW x) w) :
  SF w D [(bw,.cells ⟨[.pointer (some ⟨bm,0,none⟩),.int .u64 mask,.slice pt ts.length kt,.slice pe es.length ke]⟩ 40 (0,0)),(bx,xO k bm x dn rs),(bm,xM x)] A [] [⟨pt,qS ts,kt,29,2⟩,⟨pe,vV es,ke,73,1⟩,⟨x.pg,aG x.got,x.kg,62,1⟩,⟨x.pm,aG x.made,x.km,62,1⟩,⟨x.pl,aG x.cel,x.kl,27,1⟩,⟨x.pe,aG x.gns,x.ke,3,1⟩,⟨x.pn,gR x.L,x.cn,77,14⟩,⟨x.pc,aG x.cs,x.cc,62,1⟩] w:=h
theorem td(hts:ts.length<=1000)(hes:es.length<=1000)(hs:SF w D ((bw,mX bm mask pt ts.length kt pe es.length ke)::xH k bx bm x dn rs) A [] (wL ts es pt kt pe ke++xW x) w):Calls Tryz.prog 49 #[.pointer (some ⟨bw,0,none⟩),.pointer (some ⟨bx,0,none⟩)] w λ e w'=>∃q:KQ,e=.returned (.tuple #[])/\Pk dn rs bx ts es q/\SF w D ((bw,mX bm mask q.pt q.ts.length q.kt q.pe q.es.length q.ke)::xH k bx bm x dn rs) [] [] (wL q.ts q.es q.pt q.kt q.pe q.ke++xW x) w':=by
 refine enter Tryz.func49 Tryz.ntmps49 rfl rfl (yl hs) ?_
 simp only[cO]
 refine J2 ?_;refine aC (cM (hs:=xH k bx bm x dn rs) (os:=xW x) (hc:=λ w hs=>Pz hs)) (λ x6 h6=>?_);refine mJ ?_
 refine aZ (λ c7=>?_) (λ c7=>?_)
 ·refine Kp ?_;refine dJ ?_;refine J3 ?_;refine aB ?_;refine aT ((by exact Fo (λ _=>cE (cs:=vV [bx]) Lj F5 rfl rfl rfl rfl rfl))) (λ x14=>?_);(refine aT (bI.eZ (iB (sz:=1) (cs:=vV es) rf rf (.tail .head) (by rw[xI];omega) fin rfl rfl Lj rfl (by decide) fC (by omega)) xN) (λ x15=>?_);try (refine fB (λ h15=>?_)));refine Vr ?_
  refine Cd Tryz.results49 (λ w hw=>?_)
  first
  | exact⟨⟨ts,es++[bx],pt,kt,x15.1,x15.2⟩,rfl,.inl ⟨by simpa using c7,rfl,rfl⟩,by dsimp only[wL];rw[bu,show(es++[bx]).length=es.length+1 by simp];exact hw.aS⟩
  | exact⟨⟨ts,es,pt,kt,pe,ke⟩,rfl,.inr ⟨by simpa using c7,rfl,.inl rfl⟩,hw.aS⟩
 ·refine J2 ?_;refine aC (cM (hs:=xH k bx bm x dn rs) (os:=xW x) (hc:=λ w hs=>Wl hs)) (λ x19 h19=>?_);refine aN (λ x4=>?_);refine J5 ?_;refine J0 ?_;refine Kb7 ?_;refine wG ?_;refine aB ?_
  (refine eF 24 (λ g24=>?_) (λ g24=>?_)<;>refine Ka0 ?_)
  all_goals ((first|refine aH ?_|(refine aF ?_;refine dJ ?_));refine Uw ?_;refine ow ?_;refine aI ?_)
  all_goals
  refine aZ (λ c31=>?_) (λ c31=>?_)
  ·try exact nv c31
   all_goals (refine eG [(0,[]),(1,[]),(2,[]),(3,[]),(4,[]),(5,[]),(6,[]),(7,[4]),(8,[]),(9,[]),(10,[]),(11,[])] ?_;refine ud ?_;refine aP ?_;refine bJ (i:=6) (hq:=(aK (k:=2) (vs:=[.int .i64 rs.root,.bool rs.ro]) rf dV fX rfl rfl)) (h:=?_);refine cY (i:=7) (hq:=((by exact Fo (λ _=>cE (cs:=qS [⟨rs.root,rs.ro⟩]) Dm F5 rfl rfl rfl rfl rfl)))) (h:=λ x39=>?_);((refine cY (i:=8) (hq:=(bI.eZ (iB (sz:=2) (cs:=qS ts) rf rf .head (by rw[lV]) fin rfl rfl Dm rfl (by decide) fC (by omega)) xN)) (h:=λ x40=>?_);try (refine fW (λ h40=>?_))));refine J88 ?_)
   all_goals
    refine Cd Tryz.results49 (λ w hw=>?_)
    first
    | exact⟨⟨ts++[⟨rs.root,rs.ro⟩],es,x40.1,x40.2,pe,ke⟩,rfl,.inr ⟨by simpa using c7,rfl,.inr ⟨by omega,by show(ts++[(⟨rs.root,rs.ro⟩:dZ)]).length<=5;simp;omega,rfl⟩⟩,by dsimp only[wL];rw[Wa,show(ts++[(⟨rs.root,rs.ro⟩:dZ)]).length=ts.length+1 by simp];exact hw.aS⟩
    | exact⟨⟨ts,es,pt,kt,pe,ke⟩,rfl,.inr ⟨by simpa using c7,rfl,.inl rfl⟩,hw.aS⟩
  ·all_goals refine bA ?_
   all_goals
    refine Cd Tryz.results49 (λ w hw=>?_)
    first
    | exact⟨⟨ts,es,pt,kt,pe,ke⟩,rfl,.inr ⟨by simpa using c7,rfl,.inl rfl⟩,hw.aS⟩
theorem lz(hts:ts.length<=1000)(hes:es.length<=1000)(hs:SF w D [(bw,mX bm mask pt ts.length kt pe es.length ke),(bx,xO k bm x dn rs),(bm,xM x)] A [] [⟨pt,qS ts,kt,29,2⟩,⟨pe,vV es,ke,73,1⟩,⟨x.pg,aG x.got,x.kg,62,1⟩,⟨x.pm,aG x.made,x.km,62,1⟩,⟨x.pl,aG x.cel,x.kl,27,1⟩,⟨x.pe,aG x.gns,x.ke,3,1⟩,⟨x.pn,gR x.L,x.cn,77,14⟩,⟨x.pc,aG x.cs,x.cc,62,1⟩] w):Calls Tryz.prog 49 #[.pointer (some ⟨bw,0,none⟩),.pointer (some ⟨bx,0,none⟩)] w λ e w'=>∃q:KQ,e=.returned (.tuple #[])/\Pk dn rs bx ts es q/\SF w D [(bw,mX bm mask q.pt q.ts.length q.kt q.pe q.es.length q.ke),(bx,xO k bm x dn rs),(bm,xM x)] [] [] [⟨q.pt,qS q.ts,q.kt,29,2⟩,⟨q.pe,vV q.es,q.ke,73,1⟩,⟨x.pg,aG x.got,x.kg,62,1⟩,⟨x.pm,aG x.made,x.km,62,1⟩,⟨x.pl,aG x.cel,x.kl,27,1⟩,⟨x.pe,aG x.gns,x.ke,3,1⟩,⟨x.pn,gR x.L,x.cn,77,14⟩,⟨x.pc,aG x.cs,x.cc,62,1⟩] w':=td hts hes hs
end
end

/- Worlds: Create. -/
section
open Go Go.RowKit Go.Ct
def Nz:Nd:={Nd.zero with kind:=3}
def uJ(g:Int):Nd:={Nd.zero with kind:=2,gen:=g}
def L4(x y:AX):List aL:=[cN,cN]++[kG Nz [] [] 0 x]++[kG (uJ 1) [] [] 1 y]
theorem sm{x y:AX}:∀f∈aW (L4 x y),f.2=[]:=by
 intro f hf
 simp[aW,L4,aL.fr,cN,kG,aG,dG] at hf
 rcases hf with hf|hf|hf|hf|hf|hf|hf|hf<;>rw[hf]
theorem Lf{w:World}{D:List Nat}{b:Nat}{acc:Int}{pn:Option Addr}{cn:Nat}{A:Fr}(hs:SF w D [(b,mO [cN,cN] [] 0 acc pn cn none 0)] A [] (mW [cN,cN] [] pn cn none 0) w) :
  Calls Tryz.prog 24 #[.pointer (some ⟨b,0,none⟩)] w λ e w'=>∃q:AX×AX×Option Addr×Nat,e=.returned (.agg ⟨[.int .i64 3,.bool false]⟩)/\True /\
   SF w D [(b,mO (L4 q.1 q.2.1) [0,3,4] 1 acc q.2.1.pn q.2.1.cn q.2.2.1 q.2.2.2)] [] (aW (L4 q.1 q.2.1)) (mW (L4 q.1 q.2.1) [0,3,4] q.2.1.pn q.2.1.cn q.2.2.1 q.2.2.2) w':=by
 refine enter Tryz.func24 Tryz.ntmps24 rfl rfl (wR hs) ?_
 simp only[cO]
 refine J0 ?_;refine aN (λ x2=>?_);refine aI ?_;refine J2 ?_;refine bG ?_;refine aC (cM (A0:=[(none,aG []),(none,dG [])]) (hc:=λ w hs=>nB (L:=[cN,cN]) (cs:=[]) (n:=Nz) (xs:=[]) (ys:=[]) 0 hs rfl rfl (by decide) (by decide) (by decide) (by decide))) (λ x7 h7=>?_);refine Ka4 ?_;refine aC (cM (hc:=λ w hs=>Hb (L:=[cN,cN]++[kG Nz [] [] 0 x7]) (cs:=[0]) hs)) (λ x9 h9=>?_);refine sZ ?_;refine aB ?_;refine bG ?_;refine aB ?_;refine aC (cM (A0:=[(none,aG []),(none,dG [])]) (hc:=λ w hs=>nB (L:=[cN,cN]++[kG Nz [] [] 0 x7]) (cs:=[0]) (n:=uJ 1) (xs:=[]) (ys:=[]) 3 hs rfl rfl (by decide) (by decide) (by simp) (by decide))) (λ x15 h15=>?_);refine aC (cM (hc:=λ w hs=>iU (L:=L4 x7 x15) (cs:=[0,3]) 4 hs (by decide))) (λ x16 h16=>?_);refine As ?_
 refine bK Tryz.results24 (λ w hw=>?_)
 exact⟨(x7,x15,x16.1,x16.2),rfl,trivial,(hw.eP (λ f hf=>.inl (sm f hf))).v1⟩
end

/- Calls that may change known blocks and own lists, and leave new ones. -/
section
open Go Go.RowKit Go.Ct
section
variable{S:List (Nat×Value)}{w0 w:World}{M:List Nat}{H:List (Nat×Obj)}{A F:Fr}{O:List Ow}{ty:TypeId}{pos:String}{af:Array Edge}{gd:Option (Nat×Bool)}{X:Type}{V:X->Value}
theorem cMH{φ:X->Prop}{hs H':List (Nat×Obj)}{os O':List Ow}{hs' Hc H1:X->List (Nat×Obj)}{os' Oc O1:X->List Ow}{Fc F1:X->Fr}{A0:Fr}{is js:List Nat}{f:FuncId}{xs:List Operand}{at_:Array TypeId}{vs:List Value}{dst:Option Nat}
  (ha:yU S xs=vs:=by(repeat (first|exact pM _|(apply mK;focus ((conv=>{lhs;whnf});try exact rfl))));first|done|fail) (hp:plain Tryz.prog f=true:=by kernel_rfl)
  (hc:∀w,SF w (Ks hs os) hs A0 [] os w->Calls Tryz.prog f ⟨vs⟩ w λ e w'=>∃x,e=.returned (V x)/\φ x/\SF w (Ks hs os) (hs' x++Hc x) [] (Fc x) (os' x++Oc x) w')
  (hH:A8 H is hs H':=by(repeat (first|exact A8.nil|(apply A8.cons;(focus ((repeat (first|exact Ru.head|apply Ru.tail));done));simp only[N6])));first|done|fail)
  (hO:A8 O js os O':=by(repeat (first|exact A8.nil|(apply A8.cons;(focus ((repeat (first|exact Ru.head|apply Ru.tail));done));simp only[N6])));first|done|fail)
  (hA:bP A F O' A0:=by(repeat (first|exact bP.of (λ _ h=>Or.inr (Or.inl h))|exact bP.nil|(refine bP.cons (by first|exact Or.inl rfl|exact Or.inr (Or.inr (Or.inl (by simp)))|exact Or.inr (Or.inl (by simp))|exact Or.inr (Or.inr (Or.inr (by simp)))) ?_)));first|done|fail)
  (hl1:∀x,is.length=(hs' x).length:=by intro x;exact rfl) (hl2:∀x,js.length=(os' x).length:=by intro x;exact rfl)
  (hH1:∀x,Hc x++B4 is (hs' x) H'=H1 x:=by intro x;first|(simp only[B4,Qd,List.nil_append,List.cons_append];exact rfl)|exact rfl) (hF1:∀x,Fc x++F=F1 x:=by intro x;first|(simp only[List.nil_append,List.cons_append];exact rfl)|exact rfl) (hO1:∀x,Oc x++B4 js (os' x) O'=O1 x:=by intro x;simp only[B4,Qd,mW,List.nil_append,List.cons_append];exact rfl) :
  bI Tryz.prog S (SF w0 M H A F O) ⟨dst,.call {callee:=.value (.func f),args:=⟨xs⟩,argTypes:=at_},ty,pos,af,gd⟩ X V (λ x w=>φ x/\SF w0 M (H1 x) A (F1 x) (O1 x) w) :=
 kM (nA hp ha) λ w hw=>(hc w (hw.Fg hH hO hA)).mono λ _ _ ⟨x,he,hx,hs⟩=>⟨x,he,hx,by
  have:=hw.R9 (hs':=hs' x) (Hc:=Hc x) (os':=os' x) (Oc:=Oc x) hH hO hs (hl1 x) (hl2 x)
  rw[<- hH1 x,<- hF1 x,<- hO1 x]
  exact this⟩
end
end

/- Worlds: an execution is run. -/
end Go.Proofs.YtadnboagdhcedaaGreatDoor
namespace Go.Ct
section
open Go Go.RowKit
theorem Rc.trans{i j:Nat}{t t1 t2:Tr}{s s1 s2:Mm}(h1:Rc i t s t1 s1)(h2:Rc j t1 s1 t2 s2):Rc (i+j) t s t2 s2:=by
 induction h2 with
 | refl t s=>exact h1
 | Np _ hs ih=>exact .Np (ih h1) hs
 | loud _ hs ih=>exact .loud (ih h1) hs
def Sz(x:XS)(B:Nat):Prop:=x.L.length<=B/\x.cs.length<=B/\x.gen<=B
theorem Gk{T R R':Tr}{x x':XS}{dn:Bool}{rs:Rs}{j N B:Nat}(h:ob T x dn rs R)(hd:dn=false)(hT:bZ T N 64)(hN:x.got.length+1<=N)(hr:Rc j R x.mm R' x'.mm)(hj:j<=1)(hs:Sz x B):Sz x' (B+128):=by
 rcases h.Vt with⟨e,_⟩|⟨_,e⟩
 ·rw[hd] at e;cases e
 ·obtain⟨c,h1,_,_⟩:=h.wk.uI (Nat.le_refl 64) hT (by omega)
  obtain⟨c',h2,h3,h4,h5,h6,h7⟩:=hr.uI (Nat.le_refl 64) (L0 e h1 (by omega)) (by omega)
  obtain⟨s1,s2,s3⟩:=hs
  simp only[XS.mm,List.length_map] at h5 h6 h7
  exact⟨by omega,by omega,by omega⟩
theorem O9{T R':Tr}{x x':XS}{j N B:Nat}(hT:bZ T N 64)(hr:Rc j T x.mm R' x'.mm)(hj:j<=0)(hs:Sz x B):Sz x' (B+64):=by
 obtain⟨c',h2,h3,h4,h5,h6,h7⟩:=hr.uI (Nat.le_refl 64) hT (by omega)
 obtain⟨s1,s2,s3⟩:=hs
 simp only[XS.mm,List.length_map] at h5 h6 h7
 exact⟨by omega,by omega,by omega⟩
end
end Go.Ct
namespace Go.Proofs.YtadnboagdhcedaaGreatDoor
section
open Go Go.RowKit Go.Ct
def T0(k:Cl)(m:Nat):Tr:=kW k (kI k.key m) 1073741824
theorem vA(k:Cl)(m:Nat){n:Nat}(h:n<1073741824):bZ (T0 k m) n 64:=T4 h
def xE(k:Cl)(bm b:Nat)(x:XS)(dn:Bool)(rs:Rs):List (Nat×Obj):=if dn=true then [] else [(b,xO k bm x false rs)]
def xE4(x:XS)(dn:Bool):List Ow:=if dn=true then [] else [⟨x.pg,aG x.got,x.kg,62,1⟩,⟨x.pm,aG x.made,x.km,62,1⟩,⟨x.pl,aG x.cel,x.kl,27,1⟩,⟨x.pe,aG x.gns,x.ke,3,1⟩]
structure RY where
 i:Nat
 x:XS
 N:List aL
 dn:Bool
 rs:Rs
 R:Tr
structure Jn(k:Cl)(m:Nat)(x0:XS)(B:Nat)(y:RY):Prop where
 ex:ob (T0 k m) y.x y.dn y.rs y.R
 rc:∃j,Rc j (T0 k m) x0.mm y.R y.x.mm
 ext:y.x.L=x0.L++y.N
 lc:x0.cs.length<=y.x.cs.length
 gl:y.x.got.length<=y.i
 sz:Sz y.x (B+64+128*y.i)
theorem Jn.gf{k:Cl}{m N:Nat}{x0 x':XS}{B:Nat}{N':List aL}{dn:Bool}{rs:Rs}(hN:N<1073741824)(h:zV (T0 k m) (T0 k m) 0 0 Rs.zero x0 x' N' dn rs)(hs:Sz x0 B):∃R,Jn k m x0 B ⟨0,x',N',dn,rs,R⟩:=by
 obtain⟨R',j,h1,h2,h3,h4,h5,h6⟩:=h.exI
 exact⟨R',h3,⟨j,h4⟩,h5,h6,by have:=h.gl;show x'.got.length<=0;omega,O9 (vA k m hN) h4 h1 hs⟩
theorem Jn.step{k:Cl}{m:Nat}{x0 x':XS}{B:Nat}{y:RY}{N':List aL}{dn:Bool}{rs:Rs}(hi:Jn k m x0 B y)(hd:y.dn=false)(hB:y.i<1073741822)(h:zV (T0 k m) y.R 1 (y.x.got.length+1) y.rs y.x x' N' dn rs):∃R,Jn k m x0 B ⟨y.i+1,x',y.N++N',dn,rs,R⟩:=by
 obtain⟨R',j,h1,h2,h3,h4,h5,h6⟩:=h.exI
 obtain⟨j0,hj0⟩:=hi.rc
 have hg:=hi.gl
 refine⟨R',h3,⟨j0+j,hj0.trans h4⟩,by show x'.L=_;rw[h5,hi.ext,List.append_assoc],Nat.le_trans hi.lc h6,by have:=h.gl;show x'.got.length<=y.i+1;omega,?_⟩
 have:=Gk hi.ex hd (vA k m (n:=y.x.got.length+1) (by omega)) (Nat.le_refl _) h4 h1 hi.sz
 rw[show B+64+128*(y.i+1)=B+64+128*y.i+128 by omega]
 exact this
section
variable{k:Cl}{bw bm m B:Nat}{L:List aL}{cs:List Int}{gen acc:Int}{pn pc:Option Addr}{cn cc:Nat}{D:List Nat}{A:Fr}{w:World}{mask:Int}{ts:List dZ}{es:List Nat}{pt pe:Option Addr}{kt ke:Nat}
theorem bf(hsz:L.length<=137438953472/\cs.length<=137438953472/\gen<=137438953472)(hk:mu k)(hm:m<18446744073709551616)(em:k.mask=(m:Int))(ht:k.t.root<=9223372036854775807)(ha:k.a<=L.length)(hb:k.b<=L.length)(hnn:k.n<=L.length)(hA:∀f∈aW L,f∈A)(ok:(XS.new L cs gen acc pn cn pc cc).Ok)(hs:SF w D [(bm,mO L cs gen acc pn cn pc cc)] A [] [⟨pn,gR L,cn,77,14⟩,⟨pc,aG cs,cc,62,1⟩] w):Calls Tryz.prog 42 #[.pointer (some ⟨bm,0,none⟩),.agg ⟨Nt k⟩] w λ e w'=>∃q:Nat×XS×List aL×Bool×Rs,e=.returned (.pointer (some ⟨q.1,0,none⟩))/\zV (T0 k m) (T0 k m) 0 0 Rs.zero (XS.new L cs gen acc pn cn pc cc) q.2.1 q.2.2.1 q.2.2.2.1 q.2.2.2.2/\SF w D ([(bm,xM q.2.1)]++[(q.1,xO k bm q.2.1 q.2.2.2.1 q.2.2.2.2)]) [] (aW q.2.2.1) ([⟨q.2.1.pn,gR q.2.1.L,q.2.1.cn,77,14⟩,⟨q.2.1.pc,aG q.2.1.cs,q.2.1.cc,62,1⟩]++[⟨q.2.1.pg,aG q.2.1.got,q.2.1.kg,62,1⟩,⟨q.2.1.pm,aG q.2.1.made,q.2.1.km,62,1⟩,⟨q.2.1.pl,aG q.2.1.cel,q.2.1.kl,27,1⟩,⟨q.2.1.pe,aG q.2.1.gns,q.2.1.ke,3,1⟩]) w' :=
 (ik (N:=0) (n:=1073741824) (m:=m) (vA k m (by decide)) (by decide) hsz hk (Nat.le_refl _) hm em ht ha hb hnn hA ok hs).mono λ _ _ ⟨q,e,h,hw⟩=>⟨q,e,h,hw.perm (List.Perm.swap _ _ _) (List.perm_append_comm (l₁:=[_,_]) (l₂:=[_,_,_,_]))⟩
set_option maxHeartbeats 1000000 in
theorem qo(steps:Nat)(hst:steps<=1048576)(hB:B<=100000000000)(hsz:Sz (XS.new L cs gen acc pn cn pc cc) B)(hk:mu k)(hm:m<18446744073709551616)(em:k.mask=(m:Int))(ht:k.t.root<=9223372036854775807)(ha:k.a=0)(hb:k.b=0)(hnn:k.n=0)(hA:∀f∈aW L,f∈A)(ok:(XS.new L cs gen acc pn cn pc cc).Ok)(hts:ts.length<=1000)(hes:es.length<=1000)
  (hs:SF w D [(bw,mX bm mask pt ts.length kt pe es.length ke),(bm,mO L cs gen acc pn cn pc cc)] A [] [⟨pt,qS ts,kt,29,2⟩,⟨pe,vV es,ke,73,1⟩,⟨pn,gR L,cn,77,14⟩,⟨pc,aG cs,cc,62,1⟩] w) :
  Calls Tryz.prog 28 #[.pointer (some ⟨bw,0,none⟩),.agg ⟨Nt k⟩,.int .i64 (steps:Int)] w λ e w'=>∃q:Nat×RY×KQ,e=.returned (.tuple #[])/\(Jn k m (XS.new L cs gen acc pn cn pc cc) B q.2.1/\q.2.1.i<=steps/\Pk q.2.1.dn q.2.1.rs q.1 ts es q.2.2) /\
   SF w D (xE k bm q.1 q.2.1.x q.2.1.dn q.2.1.rs++[(bw,mX bm mask q.2.2.pt q.2.2.ts.length q.2.2.kt q.2.2.pe q.2.2.es.length q.2.2.ke),(bm,xM q.2.1.x)]) [] (aW q.2.1.N) (xE4 q.2.1.x q.2.1.dn++[⟨q.2.2.pt,qS q.2.2.ts,q.2.2.kt,29,2⟩,⟨q.2.2.pe,vV q.2.2.es,q.2.2.ke,73,1⟩,⟨q.2.1.x.pn,gR q.2.1.x.L,q.2.1.x.cn,77,14⟩,⟨q.2.1.x.pc,aG q.2.1.x.cs,q.2.1.x.cc,62,1⟩]) w':=by
 have hL:(0:Int)<=L.length:=bH _
 have hsz2:=hsz
 obtain⟨s1,s2,s3⟩:=hsz2
 simp only[XS.new] at s1 s2 s3
 refine enter Tryz.func28 Tryz.ntmps28 rfl rfl hs ?_
 simp only[cO]
 refine J0 ?_;refine bQ (λ x4=>?_);refine Sx ?_;refine fJ [0,1,2,3,4,5,6] ?_;refine U1 ?_;refine bO ?_;refine bC (i:=5) (hq:=(cMH (hs:=[(bm,mO L cs gen acc pn cn pc cc)]) (os:=[⟨pn,gR L,cn,77,14⟩,⟨pc,aG cs,cc,62,1⟩]) (A0:=aW L) (hA:=bP.of λ f hf=>.inr (.inl (hA f hf))) (hc:=λ w hs=>bf (m:=m) ⟨by omega,by omega,by omega⟩ hk hm em ht (by omega) (by omega) (by omega) (λ f hf=>hf) ok hs))) (h:=λ x13 h13=>?_);refine J7 ?_;refine aR ?_;refine Gl ?_
 obtain⟨R0,hR0⟩:=Jn.gf (B:=B) (N:=0) (by decide) h13 hsz
 refine kZ [7,14,15,16,17,18,19,20,21,22,23,24,25] (λ y:RY=>[(7,.int .i64 ((y.i:Nat):Int))]) (λ y=>Jn k m (XS.new L cs gen acc pn cn pc cc) B y/\y.i<=steps) (λ y=>[(x13.1,xO k bm y.x y.dn y.rs),(x4,.cells ⟨Nt k⟩ 70 (0,0)),(bw,mX bm mask pt ts.length kt pe es.length ke),(bm,xM y.x)]) (λ y=>aW y.N) (λ y=>[⟨y.x.pg,aG y.x.got,y.x.kg,62,1⟩,⟨y.x.pm,aG y.x.made,y.x.km,62,1⟩,⟨y.x.pl,aG y.x.cel,y.x.kl,27,1⟩,⟨y.x.pe,aG y.x.gns,y.x.ke,3,1⟩,⟨pt,qS ts,kt,29,2⟩,⟨pe,vV es,ke,73,1⟩,⟨y.x.pn,gR y.x.L,y.x.cn,77,14⟩,⟨y.x.pc,aG y.x.cs,y.x.cc,62,1⟩]) (λ y=>steps-y.i) (⟨0,x13.2.1,x13.2.2.1,x13.2.2.2.1,x13.2.2.2.2,R0⟩) (⟨hR0,Nat.zero_le _⟩) (λ y f hx=>?_) (hw0:=λ w hw=>by rw[List.append_nil] at hw;exact hw.v4)
 dsimp only[fY,List.map,List.cons_append,List.nil_append]
 obtain⟨hi,his⟩:=hx
 have hsx:=hi.sz
 obtain⟨z1,z2,z3⟩:=hsx
 have hgl:=hi.gl
 refine kT ?_;refine aC (cM (hs:=xH k x13.1 bm y.x y.dn y.rs) (os:=xW y.x) (hc:=λ w hs=>Pz hs)) (λ x15 h15=>?_);refine E8 ?_
 (refine eF 17 (λ g17=>?_) (λ g17=>?_)<;>refine Ka0 ?_)
 all_goals (refine Ka0 ?_;refine ow ?_;refine aI ?_)
 all_goals
 refine aZ (λ c21=>?_) (λ c21=>?_)
 ·try exact nv c21
  all_goals (refine nZ ?_;refine xJ ?_;refine aC (cM (hs:=xH k x13.1 bm y.x y.dn y.rs) (os:=xW y.x) (A0:=aW y.x.L) (hA:=bP.of λ f hf=>by rw[hi.ext,dB] at hf;rcases List.mem_append.1 hf with hf|hf;exact .inr (.inl (hA f hf));exact .inr (.inr (.inl hf))) (hc:=λ w hs=>Y0 (N:=y.x.got.length+1) (n:=1073741824) (m:=m) (vA k m (by omega)) (by omega) rfl ⟨by omega,by omega,by omega⟩ hi.ex hk (Nat.le_refl _) hm em ht (by rw[ha];exact bH _) (by rw[hb];exact bH _) (by rw[hnn];exact bH _) (λ f hf=>hf) hs)) (λ x25 h25=>?_);refine aI ?_;refine Kd0 ?_)
  all_goals
   have hdf:y.dn=false:=by simp_all
   have hq:zV (T0 k m) y.R 1 (y.x.got.length+1) y.rs y.x x25.1 x25.2.1 x25.2.2.1 x25.2.2.2:=by rcases h25 with h|h;rw[hdf] at h;cases h.1;exact h.2
   obtain⟨R1,hR1⟩:=hi.step hdf (by omega) hq
   refine fV (⟨y.i+1,x25.1,y.N++x25.2.1,x25.2.2.1,x25.2.2.2,R1⟩) ?_ (hw1:=λ w hw=>hw.back (hF:=by rw[dB];exact aV.qL λ f hf=>(List.mem_append.1 hf).elim (λ h=>List.mem_append_right _ h) (λ h=>List.mem_append_left _ h)))
   ·exact⟨hR1,by show y.i+1<=steps;omega⟩
 ·all_goals (refine bF rfl ?_;refine Kp ?_;refine aC (cM (hs:=[(bw,mX bm mask pt ts.length kt pe es.length ke),(x13.1,xO k bm y.x y.dn y.rs),(bm,xM y.x)]) (os:=[⟨pt,qS ts,kt,29,2⟩,⟨pe,vV es,ke,73,1⟩,⟨y.x.pg,aG y.x.got,y.x.kg,62,1⟩,⟨y.x.pm,aG y.x.made,y.x.km,62,1⟩,⟨y.x.pl,aG y.x.cel,y.x.kl,27,1⟩,⟨y.x.pe,aG y.x.gns,y.x.ke,3,1⟩,⟨y.x.pn,gR y.x.L,y.x.cn,77,14⟩,⟨y.x.pc,aG y.x.cs,y.x.cc,62,1⟩]) (hc:=λ w hs=>lz hts hes hs)) (λ x28 h28=>?_);refine aI ?_)
  all_goals
   refine Cd Tryz.results28 (λ w hw=>?_)
   rcases y with⟨i,x,N,dn,rs,R⟩
   cases dn with
   | true=>exact⟨(x13.1,⟨i,x,N,true,rs,R⟩,x28),rfl,⟨hi,his,h28⟩,hw.v1⟩
   | false=>exact⟨(x13.1,⟨i,x,N,false,rs,R⟩,x28),rfl,⟨hi,his,h28⟩,hw.v1⟩
end
end

end Go.Proofs.YtadnboagdhcedaaGreatDoor

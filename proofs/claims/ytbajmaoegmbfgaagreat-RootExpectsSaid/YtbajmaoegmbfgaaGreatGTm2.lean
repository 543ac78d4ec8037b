/- The trees are never stuck within as many accesses as they have fuel: calls. -/
import Derived.Test.YtbajmaoegmbfgaaGreatGEx23
import Derived.Test.YtbajmaoegmbfgaaGreatGBr2
import Derived.Test.YtbajmaoegmbfgaaGreatGJoin

set_option linter.unusedSimpArgs false
set_option linter.unusedVariables false
namespace Go.Proofs.YtbajmaoegmbfgaaGreat
section
open Go Go.RowKit Go.Ct
section
variable{n c:Nat}
theorem fJ{a:Nv}{i:Int}{k:Int->Tr}(hc:1<=c)(h:∀v,bR (k v) n (c-1)):bR (.alloc a i k) n c:=by
 obtain⟨c,rfl⟩:∃d,c=d+1:=⟨c-1,by omega⟩
 exact Km h
theorem Bt{a i r:Int}{K:Int->Tr}(hc:1<=c)(h:∀v,bR (K v) n (c-1)):bR (Hj a i r K) n c:=cO λ _=>fJ hc h
theorem Ri{t:dM}{i o x:Int}{K:Int->Tr}(h:H0 K n):bR (Ld t i o x K) n c:=cO λ _=>gG λ n1 h1 _=>cO λ _=>fJ (by decide) λ _=>Bt (by decide) λ _=>jZ λ n2 h2 _=>h n2 (by omega) _
theorem zE{t:dM}{p o:Int}{h0:Nat}{l:Int}{K:Bool->Tr}(h:H0 K n):bR (yK t p o h0 l K) n c:=gG λ n1 h1 _=>cO λ _=>by
 split
 ·exact gG λ n2 h2 _=>cO λ _=>by
   split
   ·exact fJ (by decide) λ _=>cO λ _=>fJ (by decide) λ _=>jZ λ n3 h3 _=>h n3 (by omega) _
   ·exact h n2 (by omega) _
 ·exact h n1 h1 _
theorem I8{t:dM}{h0:Nat}{key:ByteArray}{K:Rs->Tr}:∀(q n c:Nat) (i level:Int),n<q->H0 K n->bR (Cj t h0 key K q i level) n c
 | 0,n,c,i,level,hq,_=>absurd hq (Nat.not_lt_zero n)
 | q+1,n,c,i,level,hq,h=>gG λ n1 h1 _=>cO λ _=>by
  split
  ·split<;>exact h n1 h1 _
  ·split
   ·exact h n1 h1 _
   ·split
    ·exact h n1 h1 _
    ·exact cO λ _=>by
      split
      ·split<;>exact h n1 h1 _
      ·exact I8 q n1 64 _ _ (by omega) (h.lt (by omega))
theorem Ot:∀(l:List NI) (r:Int) (K:Int->Tr) (n c:Nat),l.length<=c->(∀v,bR (K v) n (c-l.length))->bR (Ag l r K) n c
 | [],r,K,n,c,_,h=>h r
 | a::l,r,K,n,c,hc,h=>by
  have hc':l.length+1<=c:=by simpa using hc
  exact fJ (by omega) λ v=>Ot l v K n (c-1) (by omega) (λ u=>by have:=h u;rw[List.length_cons] at this;rwa [show c-1-l.length=c-(l.length+1) by omega])
theorem Wz{k:Cl}{b:Int}{h0 level:Nat}{gen:Int}{K:Int->Tr}(hc:32<=c)(h:∀v,bR (K v) n (c-32)):bR (T7 k b h0 level gen K) n c:=cO λ nb=>fJ (by omega) λ f=>by
 have hl:(dP b nb.hash.toNat h0 (nb.key,nb.val) k.key k.val gen f.toNat level).tail.length<=31:=by
  have h1:=Qt (x:=b) (h0:=nb.hash.toNat) (h:=h0) (p0:=(nb.key,nb.val)) (k:=k.key) (u:=k.val) (gen:=gen) (f:=f.toNat) (kQ nb.hash.toNat h0-level) (kQ nb.hash.toNat h0-(kQ nb.hash.toNat h0-level))
  have h2:=zA nb.hash.toNat h0
  rw[List.length_tail]
  unfold dP
  omega
 exact Ot _ _ _ _ _ (by omega) λ v=>wh (by omega) (h v)
theorem Kj{k:Cl}{i m:Int}{h0 level:Nat}{gen:Int}{K:Rs->Int->Tr}(h:∀n',n'<=n->∀r w,bR (K r w) n' 64):bR (lU k i m h0 level gen K) n 64:=cO λ nb=>by
 split
 ·split
  ·exact fJ (by decide) λ _=>jZ λ n1 h1 _=>h n1 (by omega) _ _
  ·exact h n (Nat.le_refl n) _ _
 ·split
  ·split
   ·exact fJ (by decide) λ _=>fJ (by decide) λ _=>jZ λ n1 h1 _=>h n1 (by omega) _ _
   ·exact h n (Nat.le_refl n) _ _
  ·refine cO λ _=>?_
   split
   ·exact h n (Nat.le_refl n) _ _
   ·split
    ·split
     ·exact fJ (by decide) λ _=>Bt (by decide) λ _=>jZ λ n1 h1 _=>h n1 (by omega) _ _
     ·exact h n (Nat.le_refl n) _ _
    ·split
     ·exact Wz (by decide) λ _=>fJ (by decide) λ _=>Bt (by decide) λ _=>jZ λ n1 h1 _=>h n1 (by omega) _ _
     ·exact h n (Nat.le_refl n) _ _
theorem Fo{k:Cl}{i m x gen:Int}{K:Int->Tr}(h:∀n',n'<=n->∀v,bR (K v) n' 64):bR (Gt k i m x gen K) n 64:=cO λ _=>cO λ _=>by
 split
 ·exact h n (Nat.le_refl n) _
 ·exact Ri λ n1 h1 _=>h n1 (by omega) _
theorem E8{k:Cl}{h0:Nat}{K:Rs->Tr}{again:Tr}{gen:Int}:∀(q n c:Nat) (i parent:Int) (level:Nat),n<q->H0 K n->(∀n',n'<n->bR again n' 64)->bR (Cv k h0 K again gen q i parent level) n c
 | 0,n,c,i,p,level,hq,_,_=>absurd hq (Nat.not_lt_zero n)
 | q+1,n,c,i,p,level,hq,h,ha=>gG λ n1 h1 _=>cO λ _=>by
  split
  ·exact zE λ n2 h2 _=>ha n2 (by omega)
  ·refine Kj λ n2 h2 r w=>?_
   split
   ·exact h n2 (by omega) _
   ·split
    ·exact ha n2 (by omega)
    ·refine Fo λ n3 h3 v=>?_
     split
     ·exact ha n3 (by omega)
     ·exact E8 q n3 64 _ _ _ (by omega) (h.lt (by omega)) (λ n4 h4=>ha n4 (by omega))
theorem Oq{k:Cl}{h0:Nat}{K:Rs->Tr}:∀(q n c:Nat),n<q->H0 K n->bR (Ae k h0 K q) n c
 | 0,n,c,hq,_=>absurd hq (Nat.not_lt_zero n)
 | q+1,n,c,hq,h=>oU λ n1 h1 _=>cO λ _=>E8 q n1 64 _ _ _ (by omega) (h.lt (by omega)) (λ n2 h2=>Oq q n2 64 (by omega) (h.lt (by omega)))
theorem H3{k:Cl}{i m:Int}{h0 level:Nat}{K:Rs->Int->Tr}(h:∀n',n'<=n->∀r w,bR (K r w) n' 64):bR (jY k i m h0 level K) n 64:=cO λ nb=>by
 split
 ·split
  ·exact h n (Nat.le_refl n) _ _
  ·exact fJ (by decide) λ _=>jZ λ n1 h1 _=>h n1 (by omega) _ _
 ·split
  ·exact h n (Nat.le_refl n) _ _
  ·refine cO λ _=>?_
   split
   ·exact h n (Nat.le_refl n) _ _
   ·split
    ·exact h n (Nat.le_refl n) _ _
    ·split
     ·exact h n (Nat.le_refl n) _ _
     ·exact cO λ _=>fJ (by decide) λ _=>jZ λ n1 h1 _=>h n1 (by omega) _ _
theorem Tu{t:dM}{path:List Int}{h0:Nat}{K:Tr}:∀(l n:Nat),(∀n',n'<=n->bR K n' 64)->bR (tq t path h0 K l) n 64
 | 0,n,h=>h n (Nat.le_refl n)
 | l+1,n,h=>gG λ n1 h1 _=>cO λ _=>by
  split
  ·exact zE λ n2 h2 _=>Tu l n2 (λ n3 h3=>h n3 (by omega))
  ·exact h n1 (by omega)
theorem Cb{k:Cl}{h0:Nat}{K:Rs->Tr}{again:Tr}{gen:Int}:∀(q n c:Nat) (i:Int) (path:List Int) (level:Nat),n<q->H0 K n->(∀n',n'<n->bR again n' 64)->bR (vD k h0 K again gen q i path level) n c
 | 0,n,c,i,p,level,hq,_,_=>absurd hq (Nat.not_lt_zero n)
 | q+1,n,c,i,p,level,hq,h,ha=>gG λ n1 h1 _=>cO λ _=>by
  split
  ·exact zE λ n2 h2 _=>ha n2 (by omega)
  ·refine H3 λ n2 h2 r w=>?_
   split
   ·split
    ·exact Tu _ _ λ n3 h3=>h n3 (by omega) _
    ·exact h n2 (by omega) _
   ·split
    ·exact ha n2 (by omega)
    ·refine Fo λ n3 h3 v=>?_
     split
     ·exact ha n3 (by omega)
     ·exact Cb q n3 64 _ _ _ (by omega) (h.lt (by omega)) (λ n4 h4=>ha n4 (by omega))
theorem Je{k:Cl}{h0:Nat}{K:Rs->Tr}:∀(q n c:Nat),n<q->H0 K n->bR (qM k h0 K q) n c
 | 0,n,c,hq,_=>absurd hq (Nat.not_lt_zero n)
 | q+1,n,c,hq,h=>oU λ n1 h1 _=>cO λ _=>Cb q n1 64 _ _ _ (by omega) (h.lt (by omega)) (λ n2 h2=>Je q n2 64 (by omega) (h.lt (by omega)))
theorem Kf{i:Int}{k:Int->Tr}(hc:1<=c)(h:∀v,bR (k v) n (c-1)):bR (.cell i k) n c:=by
 obtain⟨c,rfl⟩:∃d,c=d+1:=⟨c-1,by omega⟩
 exact vj h
theorem Rf{k:Int->Tr}(hc:1<=c)(h:∀v,bR (k v) n (c-1)):bR (.gen k) n c:=by
 obtain⟨c,rfl⟩:∃d,c=d+1:=⟨c-1,by omega⟩
 exact aBk h
theorem kB{r:Rs}:bR (.done r) n c:=by simp[bR]
theorem Ji{m:Int}:bR (Io m .done) n 64:=Rf (by decide) λ _=>fJ (by decide) λ _=>Kf (by decide) λ _=>kB
theorem I9{t:dM}{fz:Bool}:∀(q n c:Nat),n<q->bR (Ew t fz .done q) n c
 | 0,n,c,hq=>absurd hq (Nat.not_lt_zero n)
 | q+1,n,c,hq=>oU λ n1 h1 _=>gG λ n2 h2 _=>Rf (by decide) λ _=>fJ (by decide) λ _=>yW (λ n3 h3 b=>by
  split
  ·split
   ·exact Kf (by decide) λ _=>kB
   ·exact Ji
  ·exact I9 q n3 64 (by omega)) (by decide)
theorem Ep{t:dM}{fz:Bool}{q:Nat}(h:n<q):bR (sS t fz .done q) n c:=by
 unfold sS
 split
 ·exact pF λ n1 h1 _=>by
   split
   ·exact Kf (by decide) λ _=>kB
   ·exact gG λ n2 h2 _=>Ji
 ·exact I9 q n c h
theorem Gq{t:dM}:∀(q n c:Nat),n<q->bR (vM t .done q) n c
 | 0,n,c,hq=>absurd hq (Nat.not_lt_zero n)
 | q+1,n,c,hq=>oU λ n1 h1 _=>gG λ n2 h2 _=>fJ (by decide) λ _=>Rf (by decide) λ _=>fJ (by decide) λ _=>yW (λ n3 h3 b=>by
  split
  ·exact kB
  ·exact Gq q n3 64 (by omega)) (by decide)
theorem Iw{k:Cl}{h0 q:Nat}(h:n<q):bR (kM k h0 q) n 64:=by
 have hd:∀{X:Type} {K:X->Rs},H0 (λ v=>Tr.done (K v)) n:=λ _ _ _=>kB
 unfold kM
 split
 ·exact kB
 split
 ·exact gG hd
 split
 ·exact jZ hd
 split
 ·exact oU hd
 split
 ·exact yW hd (by decide)
 split
 ·exact oU λ n1 h1 _=>I8 q n1 64 _ _ (by omega) (λ _ _ _=>kB)
 split
 ·exact Oq q n 64 h (λ _ _ _=>kB)
 split
 ·exact Je q n 64 h (λ _ _ _=>kB)
 split
 ·exact Ep h
 split
 ·exact Ep h
 ·exact Gq q n 64 h
end
end

/- Worlds: lists of tries and of executions; the smallest functions. -/
end Go.Proofs.YtbajmaoegmbfgaaGreat
namespace Go.Ct
section
open Go Go.RowKit
section
variable{P:Program}{S:List (Nat×Value)}{d:Nat}{ty t t' e:TypeId}{pos:String}{af:Array Edge}{gd:Option (Nat×Bool)}{x y:Operand}{w0 w:World}{M:List Nat}{H:List (Nat×Obj)}{A F:Fr}{O:List Ow}{a:Option Addr}
theorem dy{cs:List Value}{kk:IntKind}{m c k:Nat}(hx:ev S x=.slice a m c)(hy:ev S y=.int kk ((k:Nat):Int))(ht:P.underlying t=some (.slice e))(hs:one P e=true)(hf:qW A F O a cs)(h1:k<m)(h2:k<cs.length) :
  aK P S (SF w0 M H A F O) ⟨some d,.indexAddr t x y,ty,pos,af,gd⟩ (.pointer (some ⟨cR a,eD a+k,none⟩)):=⟨λ w hw =>
 (Af (G:=SF w0 M H A F O) hx hy ht hs ((hw.cl hf).ptr (by omega)) h1).run w hw⟩
theorem Z6{cs:List Value}{q:Nat}{v:Value}(hx:ev S x=.pointer (some ⟨cR a,eD a+q,none⟩))(ht:one P t=true)(hf:qW A F O a cs)(hq:cs[q]?=some v) :
  aK P S (SF w0 M H A F O) ⟨some d,.load t x,ty,pos,af,gd⟩ v:=qF hx ht (λ w hw=>hw.cl hf) hq
theorem Mr{cs:List Value}{kk:IntKind}{m c k:Nat}(hx:ev S x=.slice a m c)(hy:ev S y=.int kk ((k:Nat):Int))(ht:P.underlying t=some (.slice e))(hs:kC P e 2=true)(hf:qW A F O a cs)(h1:k<m)(h2:2*k<cs.length) :
  aK P S (SF w0 M H A F O) ⟨some d,.indexAddr t x y,ty,pos,af,gd⟩ (.pointer (some ⟨cR a,eD a+2*k,none⟩)):=⟨λ w hw =>
 (Of (G:=SF w0 M H A F O) hx hy ht hs ((hw.cl hf).ptr (by omega)) h1).run w hw⟩
end
end
end Go.Ct
namespace Go.Proofs.YtbajmaoegmbfgaaGreat
section
open Go Go.RowKit Go.Ct
def sE(ts:List dM):List Value:=ts.flatMap λ t=>[.int .i64 t.root,.bool t.ro]
def yJ(es:List Nat):List Value:=es.map λ b=>.pointer (some ⟨b,0,none⟩)
theorem kT:∀ts:List dM,(sE ts).length=ts.length*2
 | []=>rfl
 | t::ts=>by
  have:=kT ts
  simp only[sE,List.flatMap_cons,List.length_append,List.length_cons,List.length_nil] at this ⊢
  omega
theorem Yq(ts:List dM)(t:dM):sE (ts++[t])=sE ts++[.int .i64 t.root,.bool t.ro]:=by simp[sE]
theorem Zx(es:List Nat)(b:Nat):yJ (es++[b])=yJ es++[.pointer (some ⟨b,0,none⟩)]:=by simp[yJ]
theorem yV(es:List Nat):(yJ es).length=es.length:=by simp[yJ]
theorem En:dW Tryz.prog 32 29 [.int .i64 0,.bool false]:=mV (z:=.agg ⟨[.int .i64 0,.bool false]⟩) (by kernel_rfl) (by kernel_rfl) rfl
theorem Ny:dW Tryz.prog 33 74 [.pointer none]:=mV (z:=.pointer none) (by kernel_rfl) (by kernel_rfl) rfl
theorem kv:dW Tryz.prog 169 31 [.int .u64 0]:=mV (z:=.int .u64 0) (by kernel_rfl) (by kernel_rfl) rfl
abbrev nY(bm:Nat)(mask:Int)(pt:Option Addr)(nt kt:Nat)(pe:Option Addr)(ne ke:Nat):Obj:=.cells ⟨[.pointer (some ⟨bm,0,none⟩),.int .u64 mask,.slice pt nt kt,.slice pe ne ke]⟩ 35 (0,0)
def zO:List Int:=[18446744073709551615,0,1,64,63,4095,9223372036854775808,4032,3458764513820540928,18446744073709551615]
theorem wx{l:List Int}{a:Option Addr}{b c k:Nat}{w:World}(ht:pz w b a l c k) :
  Calls Tryz.prog 65 #[.pointer (some ⟨b,0,none⟩)] w λ e w' =>
  ∃v:Nat,e=.returned (.int .u64 (zO.getD v 0))/\v<10/\SF w [b] ((b,Qe a l c (nB l k))::[]) [] [] [] w':=by
 refine enter Tryz.func65 Tryz.ntmps65 rfl rfl ht.start ?_
 simp only[cD]
 refine cU ?_;refine J0 ?_;refine aM ((by exact Kr (λ _=>cQ (cs:=zO.map (Value.int .u64)) kv Lm rfl rfl rfl rfl rfl))) (λ x3=>?_);refine aA ?_;refine aD (xA (hc:=λ w1 hw=>eN 10 (hw.tape cX fin ht.len) (by decide) (by decide))) (λ x5 h5=>?_);refine aB (dy (cs:=zO.map (Value.int .u64)) rf rf gQ gN fin (by omega) (by rw[List.length_map];simp only[zO,List.length_cons,List.length_nil];omega)) rfl ?_;refine aB (Z6 (cs:=zO.map (Value.int .u64)) (v:=.int .u64 (zO.getD x5 0)) rf gN fin (by rw[List.getElem?_map,jK,List.getElem?_eq_getElem (by simp only[zO,List.length_cons,List.length_nil];omega)];rfl)) rfl ?_;refine J1 ?_
 refine aN Tryz.results65 (λ w hw=>?_)
 exact⟨x5,rfl,by omega,hw.aW⟩
theorem vm{l:List Int}{a:Option Addr}{b c k:Nat}{w:World}(ht:pz w b a l c k) :
  Calls Tryz.prog 53 #[.pointer (some ⟨b,0,none⟩)] w λ e w' =>
  ∃v:Bool,e=.returned (.bool v)/\True/\SF w [b] ((b,Qe a l c k)::[]) [] [] [] w':=by
 refine enter Tryz.func53 Tryz.ntmps53 rfl rfl ht.start ?_
 simp only[cD]
 refine Hu ?_;refine gE [0,1,2,3,4,5,6,7,8,9,10] ?_;refine Ea ?_;refine oF ?_;refine Cc ?_;refine J7 ?_
 refine aN Tryz.results53 (λ w hw=>?_)
 exact⟨_,rfl,trivial,hw.aW⟩
end

/- Worlds: Create, keep. -/
section
open Go Go.RowKit Go.Ct
structure KQ where
 ts:List dM
 es:List Nat
 pt:Option Addr
 kt:Nat
 pe:Option Addr
 ke:Nat
def Q2(dn:Bool)(rs:Rs)(bx:Nat)(ts:List dM)(es:List Nat)(q:KQ):Prop :=
 (dn=false/\q.es=es++[bx]/\q.ts=ts)∨(dn=true/\q.es=es/\(q.ts=ts∨(0<rs.root/\q.ts.length<=5/\q.ts=ts++[⟨rs.root,rs.ro⟩])))
section
variable{k:Cl}{bw bx bm:Nat}{x:XS}{dn:Bool}{rs:Rs}{D:List Nat}{A:Fr}{w:World}{mask:Int}{ts:List dM}{es:List Nat}{pt pe:Option Addr}{kt ke:Nat}
abbrev wL(ts:List dM)(es:List Nat)(pt:Option Addr)(kt:Nat)(pe:Option Addr)(ke:Nat):List Ow:=[⟨pt,sE ts,kt,29,2⟩,⟨pe,yJ es,ke,74,1⟩]
theorem aAB(h:SF w D ((bw,nY bm mask pt ts.length kt pe es.length ke)::xH k bx bm x dn rs) A [] (wL ts es pt kt pe ke++xW x) w) :
  SF w D [(bw,.cells ⟨[.pointer (some ⟨bm,0,none⟩),.int .u64 mask,.slice pt ts.length kt,.slice pe es.length ke]⟩ 35 (0,0)),(bx,xO k bm x dn rs),(bm,xM x)] A [] [⟨pt,sE ts,kt,29,2⟩,⟨pe,yJ es,ke,74,1⟩,⟨x.pg,aH x.got,x.kg,37,1⟩,⟨x.pm,aH x.made,x.km,37,1⟩,⟨x.pl,aH x.cel,x.kl,27,1⟩,⟨x.pe,aH x.gns,x.ke,3,1⟩,⟨x.pn,iR x.L,x.cn,47,14⟩,⟨x.pc,aH x.cs,x.cc,37,1⟩] w:=h
theorem zg(hts:ts.length<=1000)(hes:es.length<=1000)(hs:SF w D ((bw,nY bm mask pt ts.length kt pe es.length ke)::xH k bx bm x dn rs) A [] (wL ts es pt kt pe ke++xW x) w):Calls Tryz.prog 115 #[.pointer (some ⟨bw,0,none⟩),.pointer (some ⟨bx,0,none⟩)] w λ e w'=>∃q:KQ,e=.returned (.tuple #[])/\Q2 dn rs bx ts es q/\SF w D ((bw,nY bm mask q.pt q.ts.length q.kt q.pe q.es.length q.ke)::xH k bx bm x dn rs) [] [] (wL q.ts q.es q.pt q.kt q.pe q.ke++xW x) w':=by
 refine enter Tryz.func115 Tryz.ntmps115 rfl rfl (aAB hs) ?_
 simp only[cD]
 refine J2 ?_;refine aD (cM (hs:=xH k bx bm x dn rs) (os:=xW x) (hc:=λ w hs=>Sl hs)) (λ x6 h6=>?_);refine pD ?_
 refine bC (λ c7=>?_) (λ c7=>?_)
 ·refine L8 ?_;refine cZ ?_;refine Kc1 ?_;refine aM ((by exact Kr (λ _=>cQ (cs:=yJ [bx]) Ny Lm rfl rfl rfl rfl rfl))) (λ x14=>?_);(refine aM (bD.eT (fP (sz:=1) (cs:=yJ es) rf rf (.tail .head) (by rw[yV];omega) fin rfl rfl Ny rfl (by decide) gQ (by omega)) xC) (λ x15=>?_);try (refine fD (λ h15=>?_)));refine K8 ?_
  refine Bl Tryz.results115 (λ w hw=>?_)
  first
  | exact⟨⟨ts,es++[bx],pt,kt,x15.1,x15.2⟩,rfl,.inl ⟨by simpa using c7,rfl,rfl⟩,by dsimp only[wL];rw[Zx,show(es++[bx]).length=es.length+1 by simp];exact hw.aW⟩
  | exact⟨⟨ts,es,pt,kt,pe,ke⟩,rfl,.inr ⟨by simpa using c7,rfl,.inl rfl⟩,hw.aW⟩
 ·refine J2 ?_;refine aD (cM (hs:=xH k bx bm x dn rs) (os:=xW x) (hc:=λ w hs=>j3 hs)) (λ x19 h19=>?_);refine aJ (λ x4=>?_);refine J5 ?_;refine Ka9 ?_;refine J3 ?_;refine Cp ?_;refine aA ?_
  (refine eC 24 (λ g24=>?_) (λ g24=>?_)<;>refine Ka0 ?_)
  all_goals (refine Kb3 ?_;refine Rn ?_;refine tj ?_;refine aG ?_)
  all_goals
  refine bC (λ c31=>?_) (λ c31=>?_)
  ·try exact nv c31
   all_goals (refine eM [(0,[]),(1,[]),(2,[]),(3,[]),(4,[]),(5,[]),(6,[]),(7,[4]),(8,[]),(9,[]),(10,[]),(11,[])] ?_;refine Vn ?_;refine aS ?_;refine bW (i:=6) (hq:=(aP (k:=2) (vs:=[.int .i64 rs.root,.bool rs.ro]) rf cX eH rfl rfl)) (h:=?_);refine dB (i:=7) (hq:=((by exact Kr (λ _=>cQ (cs:=sE [⟨rs.root,rs.ro⟩]) En Lm rfl rfl rfl rfl rfl)))) (h:=λ x39=>?_);((refine dB (i:=8) (hq:=(bD.eT (fP (sz:=2) (cs:=sE ts) rf rf .head (by rw[kT]) fin rfl rfl En rfl (by decide) gQ (by omega)) xC)) (h:=λ x40=>?_);try (refine fH (λ h40=>?_))));refine zn ?_)
   all_goals
    refine Bl Tryz.results115 (λ w hw=>?_)
    first
    | exact⟨⟨ts++[⟨rs.root,rs.ro⟩],es,x40.1,x40.2,pe,ke⟩,rfl,.inr ⟨by simpa using c7,rfl,.inr ⟨by omega,by show(ts++[(⟨rs.root,rs.ro⟩:dM)]).length<=5;simp;omega,rfl⟩⟩,by dsimp only[wL];rw[Yq,show(ts++[(⟨rs.root,rs.ro⟩:dM)]).length=ts.length+1 by simp];exact hw.aW⟩
    | exact⟨⟨ts,es,pt,kt,pe,ke⟩,rfl,.inr ⟨by simpa using c7,rfl,.inl rfl⟩,hw.aW⟩
  ·all_goals refine aV ?_
   all_goals
    refine Bl Tryz.results115 (λ w hw=>?_)
    first
    | exact⟨⟨ts,es,pt,kt,pe,ke⟩,rfl,.inr ⟨by simpa using c7,rfl,.inl rfl⟩,hw.aW⟩
theorem lz(hts:ts.length<=1000)(hes:es.length<=1000)(hs:SF w D [(bw,nY bm mask pt ts.length kt pe es.length ke),(bx,xO k bm x dn rs),(bm,xM x)] A [] [⟨pt,sE ts,kt,29,2⟩,⟨pe,yJ es,ke,74,1⟩,⟨x.pg,aH x.got,x.kg,37,1⟩,⟨x.pm,aH x.made,x.km,37,1⟩,⟨x.pl,aH x.cel,x.kl,27,1⟩,⟨x.pe,aH x.gns,x.ke,3,1⟩,⟨x.pn,iR x.L,x.cn,47,14⟩,⟨x.pc,aH x.cs,x.cc,37,1⟩] w):Calls Tryz.prog 115 #[.pointer (some ⟨bw,0,none⟩),.pointer (some ⟨bx,0,none⟩)] w λ e w'=>∃q:KQ,e=.returned (.tuple #[])/\Q2 dn rs bx ts es q/\SF w D [(bw,nY bm mask q.pt q.ts.length q.kt q.pe q.es.length q.ke),(bx,xO k bm x dn rs),(bm,xM x)] [] [] [⟨q.pt,sE q.ts,q.kt,29,2⟩,⟨q.pe,yJ q.es,q.ke,74,1⟩,⟨x.pg,aH x.got,x.kg,37,1⟩,⟨x.pm,aH x.made,x.km,37,1⟩,⟨x.pl,aH x.cel,x.kl,27,1⟩,⟨x.pe,aH x.gns,x.ke,3,1⟩,⟨x.pn,iR x.L,x.cn,47,14⟩,⟨x.pc,aH x.cs,x.cc,37,1⟩] w':=zg hts hes hs
end
end

/- Worlds: Create. -/
section
open Go Go.RowKit Go.Ct
def Zn:Nd:={Nd.zero with kind:=3}
def ve(g:Int):Nd:={Nd.zero with kind:=2,gen:=g}
def L4(x y:AX):List aU:=[eU,eU]++[lM Zn [] [] 0 x]++[lM (ve 1) [] [] 1 y]
theorem dz{x y:AX}:∀f∈aL (L4 x y),f.2=[]:=by
 intro f hf
 simp[aL,L4,aU.fr,eU,lM,aH,dD] at hf
 rcases hf with hf|hf|hf|hf|hf|hf|hf|hf<;>rw[hf]
theorem Pb{w:World}{D:List Nat}{b:Nat}{acc:Int}{pn:Option Addr}{cn:Nat}{A:Fr}(hs:SF w D [(b,mO [eU,eU] [] 0 acc pn cn none 0)] A [] (mW [eU,eU] [] pn cn none 0) w) :
  Calls Tryz.prog 66 #[.pointer (some ⟨b,0,none⟩)] w λ e w'=>∃q:AX×AX×Option Addr×Nat,e=.returned (.agg ⟨[.int .i64 3,.bool false]⟩)/\True /\
   SF w D [(b,mO (L4 q.1 q.2.1) [0,3,4] 1 acc q.2.1.pn q.2.1.cn q.2.2.1 q.2.2.2)] [] (aL (L4 q.1 q.2.1)) (mW (L4 q.1 q.2.1) [0,3,4] q.2.1.pn q.2.1.cn q.2.2.1 q.2.2.2) w':=by
 refine enter Tryz.func66 Tryz.ntmps66 rfl rfl (yC hs) ?_
 simp only[cD]
 refine J0 ?_;refine aJ (λ x2=>?_);refine aG ?_;refine J2 ?_;refine bM ?_;refine aD (cM (A0:=[(none,aH []),(none,dD [])]) (hc:=λ w hs=>Gp (L:=[eU,eU]) (cs:=[]) (n:=Zn) (xs:=[]) (ys:=[]) 0 hs rfl rfl (by decide) (by decide) (by decide) (by decide))) (λ x7 h7=>?_);refine Ka4 ?_;refine aD (cM (hc:=λ w hs=>I2 (L:=[eU,eU]++[lM Zn [] [] 0 x7]) (cs:=[0]) hs)) (λ x9 h9=>?_);refine zB ?_;refine aA ?_;refine bM ?_;refine aA ?_;refine aD (cM (A0:=[(none,aH []),(none,dD [])]) (hc:=λ w hs=>Gp (L:=[eU,eU]++[lM Zn [] [] 0 x7]) (cs:=[0]) (n:=ve 1) (xs:=[]) (ys:=[]) 3 hs rfl rfl (by decide) (by decide) (by simp) (by decide))) (λ x15 h15=>?_);refine aD (cM (hc:=λ w hs=>kX (L:=L4 x7 x15) (cs:=[0,3]) 4 hs (by decide))) (λ x16 h16=>?_);refine uU ?_
 refine bA Tryz.results66 (λ w hw=>?_)
 exact⟨(x7,x15,x16.1,x16.2),rfl,trivial,(hw.fC (λ f hf=>.inl (dz f hf))).v4⟩
end

/- Calls that may change known blocks and own lists, and leave new ones. -/
section
open Go Go.RowKit Go.Ct
section
variable{S:List (Nat×Value)}{w0 w:World}{M:List Nat}{H:List (Nat×Obj)}{A F:Fr}{O:List Ow}{ty:TypeId}{pos:String}{af:Array Edge}{gd:Option (Nat×Bool)}{X:Type}{V:X->Value}
theorem cMH{φ:X->Prop}{hs H':List (Nat×Obj)}{os O':List Ow}{hs' Hc H1:X->List (Nat×Obj)}{os' Oc O1:X->List Ow}{Fc F1:X->Fr}{A0:Fr}{is js:List Nat}{f:FuncId}{xs:List Operand}{at_:Array TypeId}{vs:List Value}{dst:Option Nat}
  (ha:qU S xs=vs:=by(repeat (first|exact cP _|(apply cC;focus ((conv=>{lhs;whnf});try exact rfl))));first|done|fail) (hp:plain Tryz.prog f=true:=by kernel_rfl)
  (hc:∀w,SF w (Ks hs os) hs A0 [] os w->Calls Tryz.prog f ⟨vs⟩ w λ e w'=>∃x,e=.returned (V x)/\φ x/\SF w (Ks hs os) (hs' x++Hc x) [] (Fc x) (os' x++Oc x) w')
  (hH:mY H is hs H':=by(repeat (first|exact mY.nil|(apply mY.cons;(focus ((repeat (first|exact Az.head|apply Az.tail));done));simp only[rW])));first|done|fail)
  (hO:mY O js os O':=by(repeat (first|exact mY.nil|(apply mY.cons;(focus ((repeat (first|exact Az.head|apply Az.tail));done));simp only[rW])));first|done|fail)
  (hA:bJ A F O' A0:=by(repeat (first|exact bJ.of (λ _ h=>Or.inr (Or.inl h))|exact bJ.nil|(refine bJ.cons (by first|exact Or.inl rfl|exact Or.inr (Or.inr (Or.inl (by simp)))|exact Or.inr (Or.inl (by simp))|exact Or.inr (Or.inr (Or.inr (by simp)))) ?_)));first|done|fail)
  (hl1:∀x,is.length=(hs' x).length:=by intro x;exact rfl) (hl2:∀x,js.length=(os' x).length:=by intro x;exact rfl)
  (hH1:∀x,Hc x++jJ is (hs' x) H'=H1 x:=by intro x;first|(simp only[jJ,tL,List.nil_append,List.cons_append];exact rfl)|exact rfl) (hF1:∀x,Fc x++F=F1 x:=by intro x;first|(simp only[List.nil_append,List.cons_append];exact rfl)|exact rfl) (hO1:∀x,Oc x++jJ js (os' x) O'=O1 x:=by intro x;simp only[jJ,tL,mW,List.nil_append,List.cons_append];exact rfl) :
  bD Tryz.prog S (SF w0 M H A F O) ⟨dst,.call {callee:=.value (.func f),args:=⟨xs⟩,argTypes:=at_},ty,pos,af,gd⟩ X V (λ x w=>φ x/\SF w0 M (H1 x) A (F1 x) (O1 x) w) :=
 iE (nS hp ha) λ w hw=>(hc w (hw.rL hH hO hA)).mono λ _ _ ⟨x,he,hx,hs⟩=>⟨x,he,hx,by
  have:=hw.zY (hs':=hs' x) (Hc:=Hc x) (os':=os' x) (Oc:=Oc x) hH hO hs (hl1 x) (hl2 x)
  rw[<- hH1 x,<- hF1 x,<- hO1 x]
  exact this⟩
end
end

/- Worlds: an execution is run. -/
end Go.Proofs.YtbajmaoegmbfgaaGreat
namespace Go.Ct
section
open Go Go.RowKit
theorem Rc.trans{i j:Nat}{t t1 t2:Tr}{s s1 s2:Mm}(h1:Rc i t s t1 s1)(h2:Rc j t1 s1 t2 s2):Rc (i+j) t s t2 s2:=by
 induction h2 with
 | refl t s=>exact h1
 | jH _ hs ih=>exact .jH (ih h1) hs
 | loud _ hs ih=>exact .loud (ih h1) hs
def Sz(x:XS)(B:Nat):Prop:=x.L.length<=B/\x.cs.length<=B/\x.gen<=B
theorem Jt{T R R':Tr}{x x':XS}{dn:Bool}{rs:Rs}{j N B:Nat}(h:oc T x dn rs R)(hd:dn=false)(hT:bR T N 64)(hN:x.got.length+1<=N)(hr:Rc j R x.mm R' x'.mm)(hj:j<=1)(hs:Sz x B):Sz x' (B+128):=by
 rcases h.X2 with⟨e,_⟩|⟨_,e⟩
 ·rw[hd] at e;cases e
 ·obtain⟨c,h1,_,_⟩:=h.wk.vH (Nat.le_refl 64) hT (by omega)
  obtain⟨c',h2,h3,h4,h5,h6,h7⟩:=hr.vH (Nat.le_refl 64) (Nr e h1 (by omega)) (by omega)
  obtain⟨s1,s2,s3⟩:=hs
  simp only[XS.mm,List.length_map] at h5 h6 h7
  exact⟨by omega,by omega,by omega⟩
theorem Rt{T R':Tr}{x x':XS}{j N B:Nat}(hT:bR T N 64)(hr:Rc j T x.mm R' x'.mm)(hj:j<=0)(hs:Sz x B):Sz x' (B+64):=by
 obtain⟨c',h2,h3,h4,h5,h6,h7⟩:=hr.vH (Nat.le_refl 64) hT (by omega)
 obtain⟨s1,s2,s3⟩:=hs
 simp only[XS.mm,List.length_map] at h5 h6 h7
 exact⟨by omega,by omega,by omega⟩
end
end Go.Ct
namespace Go.Proofs.YtbajmaoegmbfgaaGreat
section
open Go Go.RowKit Go.Ct
noncomputable def T0 (k:Cl) (m:Nat):Tr:=kM k (mC k.key m) 1073741824
theorem tQ(k:Cl)(m:Nat){n:Nat}(h:n<1073741824):bR (T0 k m) n 64:=Iw h
def xE(k:Cl)(bm b:Nat)(x:XS)(dn:Bool)(rs:Rs):List (Nat×Obj):=if dn=true then [] else [(b,xO k bm x false rs)]
def xE4(x:XS)(dn:Bool):List Ow:=if dn=true then [] else [⟨x.pg,aH x.got,x.kg,37,1⟩,⟨x.pm,aH x.made,x.km,37,1⟩,⟨x.pl,aH x.cel,x.kl,27,1⟩,⟨x.pe,aH x.gns,x.ke,3,1⟩]
structure RY where
 i:Nat
 x:XS
 N:List aU
 dn:Bool
 rs:Rs
 R:Tr
structure Lo(k:Cl)(m:Nat)(x0:XS)(B:Nat)(y:RY):Prop where
 ex:oc (T0 k m) y.x y.dn y.rs y.R
 rc:∃j,Rc j (T0 k m) x0.mm y.R y.x.mm
 ext:y.x.L=x0.L++y.N
 lc:x0.cs.length<=y.x.cs.length
 gl:y.x.got.length<=y.i
 sz:Sz y.x (B+64+128*y.i)
theorem Lo.ox{k:Cl}{m N:Nat}{x0 x':XS}{B:Nat}{N':List aU}{dn:Bool}{rs:Rs}(hN:N<1073741824)(h:Ak (T0 k m) (T0 k m) 0 0 Rs.zero x0 x' N' dn rs)(hs:Sz x0 B):∃R,Lo k m x0 B ⟨0,x',N',dn,rs,R⟩:=by
 obtain⟨R',j,h1,h2,h3,h4,h5,h6⟩:=h.exI
 exact⟨R',h3,⟨j,h4⟩,h5,h6,by have:=h.gl;show x'.got.length<=0;omega,Rt (tQ k m hN) h4 h1 hs⟩
theorem Lo.step{k:Cl}{m:Nat}{x0 x':XS}{B:Nat}{y:RY}{N':List aU}{dn:Bool}{rs:Rs}(hi:Lo k m x0 B y)(hd:y.dn=false)(hB:y.i<1073741822)(h:Ak (T0 k m) y.R 1 (y.x.got.length+1) y.rs y.x x' N' dn rs):∃R,Lo k m x0 B ⟨y.i+1,x',y.N++N',dn,rs,R⟩:=by
 obtain⟨R',j,h1,h2,h3,h4,h5,h6⟩:=h.exI
 obtain⟨j0,hj0⟩:=hi.rc
 have hg:=hi.gl
 refine⟨R',h3,⟨j0+j,hj0.trans h4⟩,by show x'.L=_;rw[h5,hi.ext,List.append_assoc],Nat.le_trans hi.lc h6,by have:=h.gl;show x'.got.length<=y.i+1;omega,?_⟩
 have:=Jt hi.ex hd (tQ k m (n:=y.x.got.length+1) (by omega)) (Nat.le_refl _) h4 h1 hi.sz
 rw[show B+64+128*(y.i+1)=B+64+128*y.i+128 by omega]
 exact this
section
variable{k:Cl}{bw bm m B:Nat}{L:List aU}{cs:List Int}{gen acc:Int}{pn pc:Option Addr}{cn cc:Nat}{D:List Nat}{A:Fr}{w:World}{mask:Int}{ts:List dM}{es:List Nat}{pt pe:Option Addr}{kt ke:Nat}
theorem fp(hsz:L.length<=137438953472/\cs.length<=137438953472/\gen<=137438953472)(hk:jf k)(hm:m<18446744073709551616)(em:k.mask=(m:Int))(ht:k.t.root<=9223372036854775807)(ha:k.a<=L.length)(hb:k.b<=L.length)(hnn:k.n<=L.length)(hA:∀f∈aL L,f∈A)(ok:(XS.new L cs gen acc pn cn pc cc).Ok)(hs:SF w D [(bm,mO L cs gen acc pn cn pc cc)] A [] [⟨pn,iR L,cn,47,14⟩,⟨pc,aH cs,cc,37,1⟩] w):Calls Tryz.prog 49 #[.pointer (some ⟨bm,0,none⟩),.agg ⟨P7 k⟩] w λ e w'=>∃q:Nat×XS×List aU×Bool×Rs,e=.returned (.pointer (some ⟨q.1,0,none⟩))/\Ak (T0 k m) (T0 k m) 0 0 Rs.zero (XS.new L cs gen acc pn cn pc cc) q.2.1 q.2.2.1 q.2.2.2.1 q.2.2.2.2/\SF w D ([(bm,xM q.2.1)]++[(q.1,xO k bm q.2.1 q.2.2.2.1 q.2.2.2.2)]) [] (aL q.2.2.1) ([⟨q.2.1.pn,iR q.2.1.L,q.2.1.cn,47,14⟩,⟨q.2.1.pc,aH q.2.1.cs,q.2.1.cc,37,1⟩]++[⟨q.2.1.pg,aH q.2.1.got,q.2.1.kg,37,1⟩,⟨q.2.1.pm,aH q.2.1.made,q.2.1.km,37,1⟩,⟨q.2.1.pl,aH q.2.1.cel,q.2.1.kl,27,1⟩,⟨q.2.1.pe,aH q.2.1.gns,q.2.1.ke,3,1⟩]) w' :=
 (qe (N:=0) (n:=1073741824) (m:=m) (tQ k m (by decide)) (by decide) hsz hk (Nat.le_refl _) hm em ht ha hb hnn hA ok hs).mono λ _ _ ⟨q,e,h,hw⟩=>⟨q,e,h,hw.perm (List.Perm.swap _ _ _) (List.perm_append_comm (l₁:=[_,_]) (l₂:=[_,_,_,_]))⟩
set_option maxHeartbeats 1000000 in
theorem u4(steps:Nat)(hst:steps<=1048576)(hB:B<=100000000000)(hsz:Sz (XS.new L cs gen acc pn cn pc cc) B)(hk:jf k)(hm:m<18446744073709551616)(em:k.mask=(m:Int))(ht:k.t.root<=9223372036854775807)(ha:k.a=0)(hb:k.b=0)(hnn:k.n=0)(hA:∀f∈aL L,f∈A)(ok:(XS.new L cs gen acc pn cn pc cc).Ok)(hts:ts.length<=1000)(hes:es.length<=1000)
  (hs:SF w D [(bw,nY bm mask pt ts.length kt pe es.length ke),(bm,mO L cs gen acc pn cn pc cc)] A [] [⟨pt,sE ts,kt,29,2⟩,⟨pe,yJ es,ke,74,1⟩,⟨pn,iR L,cn,47,14⟩,⟨pc,aH cs,cc,37,1⟩] w) :
  Calls Tryz.prog 67 #[.pointer (some ⟨bw,0,none⟩),.agg ⟨P7 k⟩,.int .i64 (steps:Int)] w λ e w'=>∃q:Nat×RY×KQ,e=.returned (.tuple #[])/\(Lo k m (XS.new L cs gen acc pn cn pc cc) B q.2.1/\q.2.1.i<=steps/\Q2 q.2.1.dn q.2.1.rs q.1 ts es q.2.2) /\
   SF w D (xE k bm q.1 q.2.1.x q.2.1.dn q.2.1.rs++[(bw,nY bm mask q.2.2.pt q.2.2.ts.length q.2.2.kt q.2.2.pe q.2.2.es.length q.2.2.ke),(bm,xM q.2.1.x)]) [] (aL q.2.1.N) (xE4 q.2.1.x q.2.1.dn++[⟨q.2.2.pt,sE q.2.2.ts,q.2.2.kt,29,2⟩,⟨q.2.2.pe,yJ q.2.2.es,q.2.2.ke,74,1⟩,⟨q.2.1.x.pn,iR q.2.1.x.L,q.2.1.x.cn,47,14⟩,⟨q.2.1.x.pc,aH q.2.1.x.cs,q.2.1.x.cc,37,1⟩]) w':=by
 have hL:(0:Int)<=L.length:=bH _
 have hsz2:=hsz
 obtain⟨s1,s2,s3⟩:=hsz2
 simp only[XS.new] at s1 s2 s3
 refine enter Tryz.func67 Tryz.ntmps67 rfl rfl hs ?_
 simp only[cD]
 refine J0 ?_;refine bO (λ x4=>?_);refine S2 ?_;refine gE [0,1,2,3,4,5,6] ?_;refine il ?_;refine bY ?_;refine bG (i:=5) (hq:=(cMH (hs:=[(bm,mO L cs gen acc pn cn pc cc)]) (os:=[⟨pn,iR L,cn,47,14⟩,⟨pc,aH cs,cc,37,1⟩]) (A0:=aL L) (hA:=bJ.of λ f hf=>.inr (.inl (hA f hf))) (hc:=λ w hs=>fp (m:=m) ⟨by omega,by omega,by omega⟩ hk hm em ht (by omega) (by omega) (by omega) (λ f hf=>hf) ok hs))) (h:=λ x13 h13=>?_);refine J7 ?_;refine aR ?_;refine Ht ?_
 obtain⟨R0,hR0⟩:=Lo.ox (B:=B) (N:=0) (by decide) h13 hsz
 refine oJ [7,14,15,16,17,18,19,20,21,22,23,24,25] (λ y:RY=>[(7,.int .i64 ((y.i:Nat):Int))]) (λ y=>Lo k m (XS.new L cs gen acc pn cn pc cc) B y/\y.i<=steps) (λ y=>[(x13.1,xO k bm y.x y.dn y.rs),(x4,.cells ⟨P7 k⟩ 89 (0,0)),(bw,nY bm mask pt ts.length kt pe es.length ke),(bm,xM y.x)]) (λ y=>aL y.N) (λ y=>[⟨y.x.pg,aH y.x.got,y.x.kg,37,1⟩,⟨y.x.pm,aH y.x.made,y.x.km,37,1⟩,⟨y.x.pl,aH y.x.cel,y.x.kl,27,1⟩,⟨y.x.pe,aH y.x.gns,y.x.ke,3,1⟩,⟨pt,sE ts,kt,29,2⟩,⟨pe,yJ es,ke,74,1⟩,⟨y.x.pn,iR y.x.L,y.x.cn,47,14⟩,⟨y.x.pc,aH y.x.cs,y.x.cc,37,1⟩]) (λ y=>steps-y.i) (⟨0,x13.2.1,x13.2.2.1,x13.2.2.2.1,x13.2.2.2.2,R0⟩) (⟨hR0,Nat.zero_le _⟩) (λ y f hx=>?_) (hw0:=λ w hw=>by rw[List.append_nil] at hw;exact hw.v6)
 dsimp only[gZ,List.map,List.cons_append,List.nil_append]
 obtain⟨hi,his⟩:=hx
 have hsx:=hi.sz
 obtain⟨z1,z2,z3⟩:=hsx
 have hgl:=hi.gl
 refine mD ?_;refine aD (cM (hs:=xH k x13.1 bm y.x y.dn y.rs) (os:=xW y.x) (hc:=λ w hs=>Sl hs)) (λ x15 h15=>?_);refine Et ?_
 (refine eC 17 (λ g17=>?_) (λ g17=>?_)<;>refine Ka0 ?_)
 all_goals (refine Ka0 ?_;refine tj ?_;refine aG ?_)
 all_goals
 refine bC (λ c21=>?_) (λ c21=>?_)
 ·try exact nv c21
  all_goals (refine tB ?_;refine yD ?_;refine aD (cM (hs:=xH k x13.1 bm y.x y.dn y.rs) (os:=xW y.x) (A0:=aL y.x.L) (hA:=bJ.of λ f hf=>by rw[hi.ext,dE] at hf;rcases List.mem_append.1 hf with hf|hf;exact .inr (.inl (hA f hf));exact .inr (.inr (.inl hf))) (hc:=λ w hs=>ft (N:=y.x.got.length+1) (n:=1073741824) (m:=m) (tQ k m (by omega)) (by omega) rfl ⟨by omega,by omega,by omega⟩ hi.ex hk (Nat.le_refl _) hm em ht (by rw[ha];exact bH _) (by rw[hb];exact bH _) (by rw[hnn];exact bH _) (λ f hf=>hf) hs)) (λ x25 h25=>?_);refine aG ?_;refine Kb8 ?_)
  all_goals
   have hdf:y.dn=false:=by simp_all
   have hq:Ak (T0 k m) y.R 1 (y.x.got.length+1) y.rs y.x x25.1 x25.2.1 x25.2.2.1 x25.2.2.2:=by rcases h25 with h|h;rw[hdf] at h;cases h.1;exact h.2
   obtain⟨R1,hR1⟩:=hi.step hdf (by omega) hq
   refine iJ (⟨y.i+1,x25.1,y.N++x25.2.1,x25.2.2.1,x25.2.2.2,R1⟩) ?_ (hw1:=λ w hw=>hw.back (hF:=by rw[dE];exact aY.kN λ f hf=>(List.mem_append.1 hf).elim (λ h=>List.mem_append_right _ h) (λ h=>List.mem_append_left _ h)))
   ·exact⟨hR1,by show y.i+1<=steps;omega⟩
 ·all_goals (refine bS rfl ?_;refine L8 ?_;refine aD (cM (hs:=[(bw,nY bm mask pt ts.length kt pe es.length ke),(x13.1,xO k bm y.x y.dn y.rs),(bm,xM y.x)]) (os:=[⟨pt,sE ts,kt,29,2⟩,⟨pe,yJ es,ke,74,1⟩,⟨y.x.pg,aH y.x.got,y.x.kg,37,1⟩,⟨y.x.pm,aH y.x.made,y.x.km,37,1⟩,⟨y.x.pl,aH y.x.cel,y.x.kl,27,1⟩,⟨y.x.pe,aH y.x.gns,y.x.ke,3,1⟩,⟨y.x.pn,iR y.x.L,y.x.cn,47,14⟩,⟨y.x.pc,aH y.x.cs,y.x.cc,37,1⟩]) (hc:=λ w hs=>lz hts hes hs)) (λ x28 h28=>?_);refine aG ?_)
  all_goals
   refine Bl Tryz.results67 (λ w hw=>?_)
   rcases y with⟨i,x,N,dn,rs,R⟩
   cases dn with
   | true=>exact⟨(x13.1,⟨i,x,N,true,rs,R⟩,x28),rfl,⟨hi,his,h28⟩,hw.v4⟩
   | false=>exact⟨(x13.1,⟨i,x,N,false,rs,R⟩,x28),rfl,⟨hi,his,h28⟩,hw.v4⟩
end
end

end Go.Proofs.YtbajmaoegmbfgaaGreat

/- The trees are never stuck within as many accesses as they have fuel: calls. -/
import Derived.Test.YtpobgmdalcpomaaGreatGEx24
import Derived.Test.YtpobgmdalcpomaaGreatGAr9
import Derived.Test.YtpobgmdalcpomaaGreatGJoin

set_option linter.unusedSimpArgs false
set_option linter.unusedVariables false
namespace Go.Proofs.YtpobgmdalcpomaaGreat
section
open Go Go.RowKit Go.Ct
section
variable{n c:Nat}
theorem fR{a:Nv}{i:Int}{k:Int->Tr}(hc:1<=c)(h:∀v,cO (k v) n (c-1)):cO (.alloc a i k) n c:=by
 obtain⟨c,rfl⟩:∃d,c=d+1:=⟨c-1,by omega⟩
 exact Kf h
theorem Bn{a i r:Int}{K:Int->Tr}(hc:1<=c)(h:∀v,cO (K v) n (c-1)):cO (Dr a i r K) n c:=dF λ _=>fR hc h
theorem Qq{t:iV}{i o x:Int}{K:Int->Tr}(h:Gp K n):cO (Jw t i o x K) n c:=dF λ _=>hY λ n1 h1 _=>dF λ _=>fR (by decide) λ _=>Bn (by decide) λ _=>kH λ n2 h2 _=>h n2 (by omega) _
theorem yA{t:iV}{p o:Int}{h0:Nat}{l:Int}{K:Bool->Tr}(h:Gp K n):cO (yH t p o h0 l K) n c:=hY λ n1 h1 _=>dF λ _=>by
 split
 ·exact hY λ n2 h2 _=>dF λ _=>by
   split
   ·exact fR (by decide) λ _=>dF λ _=>fR (by decide) λ _=>kH λ n3 h3 _=>h n3 (by omega) _
   ·exact h n2 (by omega) _
 ·exact h n1 h1 _
theorem Hq{t:iV}{h0:Nat}{key:ByteArray}{K:Rs->Tr}:∀(q n c:Nat) (i level:Int),n<q->Gp K n->cO (B6 t h0 key K q i level) n c
 | 0,n,c,i,level,hq,_=>absurd hq (Nat.not_lt_zero n)
 | q+1,n,c,i,level,hq,h=>hY λ n1 h1 _=>dF λ _=>by
  split
  ·split<;>exact h n1 h1 _
  ·split
   ·exact h n1 h1 _
   ·split
    ·exact h n1 h1 _
    ·exact dF λ _=>by
      split
      ·split<;>exact h n1 h1 _
      ·exact Hq q n1 64 _ _ (by omega) (h.lt (by omega))
theorem N6:∀(l:List NI) (r:Int) (K:Int->Tr) (n c:Nat),l.length<=c->(∀v,cO (K v) n (c-l.length))->cO (yT l r K) n c
 | [],r,K,n,c,_,h=>h r
 | a::l,r,K,n,c,hc,h=>by
  have hc':l.length+1<=c:=by simpa using hc
  exact fR (by omega) λ v=>N6 l v K n (c-1) (by omega) (λ u=>by have:=h u;rw[List.length_cons] at this;rwa [show c-1-l.length=c-(l.length+1) by omega])
theorem Ux{k:Cl}{b:Int}{h0 level:Nat}{gen:Int}{K:Int->Tr}(hc:32<=c)(h:∀v,cO (K v) n (c-32)):cO (Sv k b h0 level gen K) n c:=dF λ nb=>fR (by omega) λ f=>by
 have hl:(dP b nb.hash.toNat h0 (nb.key,nb.val) k.key k.val gen f.toNat level).tail.length<=31:=by
  have h1:=Ps (x:=b) (h0:=nb.hash.toNat) (h:=h0) (p0:=(nb.key,nb.val)) (k:=k.key) (u:=k.val) (gen:=gen) (f:=f.toNat) (kX nb.hash.toNat h0-level) (kX nb.hash.toNat h0-(kX nb.hash.toNat h0-level))
  have h2:=yL nb.hash.toNat h0
  rw[List.length_tail]
  unfold dP
  omega
 exact N6 _ _ _ _ _ (by omega) λ v=>ri (by omega) (h v)
theorem Jl{k:Cl}{i m:Int}{h0 level:Nat}{gen:Int}{K:Rs->Int->Tr}(h:∀n',n'<=n->∀r w,cO (K r w) n' 64):cO (lT k i m h0 level gen K) n 64:=dF λ nb=>by
 split
 ·split
  ·exact fR (by decide) λ _=>kH λ n1 h1 _=>h n1 (by omega) _ _
  ·exact h n (Nat.le_refl n) _ _
 ·split
  ·split
   ·exact fR (by decide) λ _=>fR (by decide) λ _=>kH λ n1 h1 _=>h n1 (by omega) _ _
   ·exact h n (Nat.le_refl n) _ _
  ·refine dF λ _=>?_
   split
   ·exact h n (Nat.le_refl n) _ _
   ·split
    ·split
     ·exact fR (by decide) λ _=>Bn (by decide) λ _=>kH λ n1 h1 _=>h n1 (by omega) _ _
     ·exact h n (Nat.le_refl n) _ _
    ·split
     ·exact Ux (by decide) λ _=>fR (by decide) λ _=>Bn (by decide) λ _=>kH λ n1 h1 _=>h n1 (by omega) _ _
     ·exact h n (Nat.le_refl n) _ _
theorem Fa{k:Cl}{i m x gen:Int}{K:Int->Tr}(h:∀n',n'<=n->∀v,cO (K v) n' 64):cO (Ej k i m x gen K) n 64:=dF λ _=>dF λ _=>by
 split
 ·exact h n (Nat.le_refl n) _
 ·exact Qq λ n1 h1 _=>h n1 (by omega) _
theorem Fo{k:Cl}{h0:Nat}{K:Rs->Tr}{again:Tr}{gen:Int}:∀(q n c:Nat) (i parent:Int) (level:Nat),n<q->Gp K n->(∀n',n'<n->cO again n' 64)->cO (Ck k h0 K again gen q i parent level) n c
 | 0,n,c,i,p,level,hq,_,_=>absurd hq (Nat.not_lt_zero n)
 | q+1,n,c,i,p,level,hq,h,ha=>hY λ n1 h1 _=>dF λ _=>by
  split
  ·exact yA λ n2 h2 _=>ha n2 (by omega)
  ·refine Jl λ n2 h2 r w=>?_
   split
   ·exact h n2 (by omega) _
   ·split
    ·exact ha n2 (by omega)
    ·refine Fa λ n3 h3 v=>?_
     split
     ·exact ha n3 (by omega)
     ·exact Fo q n3 64 _ _ _ (by omega) (h.lt (by omega)) (λ n4 h4=>ha n4 (by omega))
theorem Mz{k:Cl}{h0:Nat}{K:Rs->Tr}:∀(q n c:Nat),n<q->Gp K n->cO (Fl k h0 K q) n c
 | 0,n,c,hq,_=>absurd hq (Nat.not_lt_zero n)
 | q+1,n,c,hq,h=>oT λ n1 h1 _=>dF λ _=>Fo q n1 64 _ _ _ (by omega) (h.lt (by omega)) (λ n2 h2=>Mz q n2 64 (by omega) (h.lt (by omega)))
theorem Gs{k:Cl}{i m:Int}{h0 level:Nat}{K:Rs->Int->Tr}(h:∀n',n'<=n->∀r w,cO (K r w) n' 64):cO (kF k i m h0 level K) n 64:=dF λ nb=>by
 split
 ·split
  ·exact h n (Nat.le_refl n) _ _
  ·exact fR (by decide) λ _=>kH λ n1 h1 _=>h n1 (by omega) _ _
 ·split
  ·exact h n (Nat.le_refl n) _ _
  ·refine dF λ _=>?_
   split
   ·exact h n (Nat.le_refl n) _ _
   ·split
    ·exact h n (Nat.le_refl n) _ _
    ·split
     ·exact h n (Nat.le_refl n) _ _
     ·exact dF λ _=>fR (by decide) λ _=>kH λ n1 h1 _=>h n1 (by omega) _ _
theorem Sw{t:iV}{path:List Int}{h0:Nat}{K:Tr}:∀(l n:Nat),(∀n',n'<=n->cO K n' 64)->cO (lx t path h0 K l) n 64
 | 0,n,h=>h n (Nat.le_refl n)
 | l+1,n,h=>hY λ n1 h1 _=>dF λ _=>by
  split
  ·exact yA λ n2 h2 _=>Sw l n2 (λ n3 h3=>h n3 (by omega))
  ·exact h n1 (by omega)
theorem B9{k:Cl}{h0:Nat}{K:Rs->Tr}{again:Tr}{gen:Int}:∀(q n c:Nat) (i:Int) (path:List Int) (level:Nat),n<q->Gp K n->(∀n',n'<n->cO again n' 64)->cO (uG k h0 K again gen q i path level) n c
 | 0,n,c,i,p,level,hq,_,_=>absurd hq (Nat.not_lt_zero n)
 | q+1,n,c,i,p,level,hq,h,ha=>hY λ n1 h1 _=>dF λ _=>by
  split
  ·exact yA λ n2 h2 _=>ha n2 (by omega)
  ·refine Gs λ n2 h2 r w=>?_
   split
   ·split
    ·exact Sw _ _ λ n3 h3=>h n3 (by omega) _
    ·exact h n2 (by omega) _
   ·split
    ·exact ha n2 (by omega)
    ·refine Fa λ n3 h3 v=>?_
     split
     ·exact ha n3 (by omega)
     ·exact B9 q n3 64 _ _ _ (by omega) (h.lt (by omega)) (λ n4 h4=>ha n4 (by omega))
theorem Hz{k:Cl}{h0:Nat}{K:Rs->Tr}:∀(q n c:Nat),n<q->Gp K n->cO (uR k h0 K q) n c
 | 0,n,c,hq,_=>absurd hq (Nat.not_lt_zero n)
 | q+1,n,c,hq,h=>oT λ n1 h1 _=>dF λ _=>B9 q n1 64 _ _ _ (by omega) (h.lt (by omega)) (λ n2 h2=>Hz q n2 64 (by omega) (h.lt (by omega)))
theorem I1{i:Int}{k:Int->Tr}(hc:1<=c)(h:∀v,cO (k v) n (c-1)):cO (.cell i k) n c:=by
 obtain⟨c,rfl⟩:∃d,c=d+1:=⟨c-1,by omega⟩
 exact ob h
theorem O8{k:Int->Tr}(hc:1<=c)(h:∀v,cO (k v) n (c-1)):cO (.gen k) n c:=by
 obtain⟨c,rfl⟩:∃d,c=d+1:=⟨c-1,by omega⟩
 exact v9 h
theorem kI{r:Rs}:cO (.done r) n c:=by simp[cO]
theorem Hi{m:Int}:cO (Mi m .done) n 64:=O8 (by decide) λ _=>fR (by decide) λ _=>I1 (by decide) λ _=>kI
theorem Im{t:iV}{fz:Bool}:∀(q n c:Nat),n<q->cO (Ib t fz .done q) n c
 | 0,n,c,hq=>absurd hq (Nat.not_lt_zero n)
 | q+1,n,c,hq=>oT λ n1 h1 _=>hY λ n2 h2 _=>O8 (by decide) λ _=>fR (by decide) λ _=>yE (λ n3 h3 b=>by
  split
  ·split
   ·exact I1 (by decide) λ _=>kI
   ·exact Hi
  ·exact Im q n3 64 (by omega)) (by decide)
theorem Dy{t:iV}{fz:Bool}{q:Nat}(h:n<q):cO (rV t fz .done q) n c:=by
 unfold rV
 split
 ·exact pN λ n1 h1 _=>by
   split
   ·exact I1 (by decide) λ _=>kI
   ·exact hY λ n2 h2 _=>Hi
 ·exact Im q n c h
theorem Dt{t:iV}:∀(q n c:Nat),n<q->cO (yJ t .done q) n c
 | 0,n,c,hq=>absurd hq (Nat.not_lt_zero n)
 | q+1,n,c,hq=>oT λ n1 h1 _=>hY λ n2 h2 _=>fR (by decide) λ _=>O8 (by decide) λ _=>fR (by decide) λ _=>yE (λ n3 h3 b=>by
  split
  ·exact kI
  ·exact Dt q n3 64 (by omega)) (by decide)
theorem Ub{k:Cl}{h0 q:Nat}(h:n<q):cO (lV k h0 q) n 64:=by
 have hd:∀{X:Type} {K:X->Rs},Gp (λ v=>Tr.done (K v)) n:=λ _ _ _=>kI
 unfold lV
 split
 ·exact kI
 split
 ·exact hY hd
 split
 ·exact kH hd
 split
 ·exact oT hd
 split
 ·exact yE hd (by decide)
 split
 ·exact oT λ n1 h1 _=>Hq q n1 64 _ _ (by omega) (λ _ _ _=>kI)
 split
 ·exact Mz q n 64 h (λ _ _ _=>kI)
 split
 ·exact Hz q n 64 h (λ _ _ _=>kI)
 split
 ·exact Dy h
 split
 ·exact Dy h
 ·exact Dt q n 64 h
end
end

/- Worlds: lists of tries and of executions; the smallest functions. -/
end Go.Proofs.YtpobgmdalcpomaaGreat
namespace Go.Ct
section
open Go Go.RowKit
section
variable{P:Program}{S:List (Nat×Value)}{d:Nat}{ty t t' e:TypeId}{pos:String}{af:Array Edge}{gd:Option (Nat×Bool)}{x y:Operand}{w0 w:World}{M:List Nat}{H:List (Nat×Obj)}{A F:Fr}{O:List Ow}{a:Option Addr}
theorem nw{cs:List Value}{kk:IntKind}{m c k:Nat}(hx:ev S x=.slice a m c)(hy:ev S y=.int kk ((k:Nat):Int))(ht:P.underlying t=some (.slice e))(hs:one P e=true)(hf:pP A F O a cs)(h1:k<m)(h2:k<cs.length) :
  aS P S (SF w0 M H A F O) ⟨some d,.indexAddr t x y,ty,pos,af,gd⟩ (.pointer (some ⟨dJ a,eW a+k,none⟩)):=⟨λ w hw =>
 (Ae (G:=SF w0 M H A F O) hx hy ht hs ((hw.cl hf).ptr (by omega)) h1).run w hw⟩
theorem nz{cs:List Value}{q:Nat}{v:Value}(hx:ev S x=.pointer (some ⟨dJ a,eW a+q,none⟩))(ht:one P t=true)(hf:pP A F O a cs)(hq:cs[q]?=some v) :
  aS P S (SF w0 M H A F O) ⟨some d,.load t x,ty,pos,af,gd⟩ v:=oJ hx ht (λ w hw=>hw.cl hf) hq
theorem Ry{cs:List Value}{kk:IntKind}{m c k:Nat}(hx:ev S x=.slice a m c)(hy:ev S y=.int kk ((k:Nat):Int))(ht:P.underlying t=some (.slice e))(hs:kL P e 2=true)(hf:pP A F O a cs)(h1:k<m)(h2:2*k<cs.length) :
  aS P S (SF w0 M H A F O) ⟨some d,.indexAddr t x y,ty,pos,af,gd⟩ (.pointer (some ⟨dJ a,eW a+2*k,none⟩)):=⟨λ w hw =>
 (Mf (G:=SF w0 M H A F O) hx hy ht hs ((hw.cl hf).ptr (by omega)) h1).run w hw⟩
end
end
end Go.Ct
namespace Go.Proofs.YtpobgmdalcpomaaGreat
section
open Go Go.RowKit Go.Ct
def sU(ts:List iV):List Value:=ts.flatMap λ t=>[.int .i64 t.root,.bool t.ro]
def yR(es:List Nat):List Value:=es.map λ b=>.pointer (some ⟨b,0,none⟩)
theorem mK:∀ts:List iV,(sU ts).length=ts.length*2
 | []=>rfl
 | t::ts=>by
  have:=mK ts
  simp only[sU,List.flatMap_cons,List.length_append,List.length_cons,List.length_nil] at this ⊢
  omega
theorem bc(ts:List iV)(t:iV):sU (ts++[t])=sU ts++[.int .i64 t.root,.bool t.ro]:=by simp[sU]
theorem bk(es:List Nat)(b:Nat):yR (es++[b])=yR es++[.pointer (some ⟨b,0,none⟩)]:=by simp[yR]
theorem Fb(es:List Nat):(yR es).length=es.length:=by simp[yR]
theorem Fg:eD Tryz.prog 27 33 [.int .i64 0,.bool false]:=mE (z:=.agg ⟨[.int .i64 0,.bool false]⟩) (by kernel_rfl) (by kernel_rfl) rfl
theorem L0:eD Tryz.prog 28 86 [.pointer none]:=mE (z:=.pointer none) (by kernel_rfl) (by kernel_rfl) rfl
theorem il:eD Tryz.prog 104 26 [.int .u64 0]:=mE (z:=.int .u64 0) (by kernel_rfl) (by kernel_rfl) rfl
abbrev nX(bm:Nat)(mask:Int)(pt:Option Addr)(nt kt:Nat)(pe:Option Addr)(ne ke:Nat):Obj:=.cells ⟨[.pointer (some ⟨bm,0,none⟩),.int .u64 mask,.slice pt nt kt,.slice pe ne ke]⟩ 30 (0,0)
def yU:List Int:=[18446744073709551615,0,1,64,63,4095,9223372036854775808,4032,3458764513820540928,18446744073709551615]
theorem p8{l:List Int}{a:Option Addr}{b c k:Nat}{w:World}(ht:jw w b a l c k) :
  Calls Tryz.prog 26 #[.pointer (some ⟨b,0,none⟩)] w λ e w' =>
  ∃v:Nat,e=.returned (.int .u64 (yU.getD v 0))/\v<10/\SF w [b] ((b,O5 a l c (nS l k))::[]) [] [] [] w':=by
 refine enter Tryz.func26 Tryz.ntmps26 rfl rfl ht.start ?_
 simp only[dB]
 all_goals (refine dH ?_;refine J0 ?_;refine aF ((by exact Cx (λ _=>cS (cs:=yU.map (Value.int .u64)) il Ei rfl rfl rfl rfl rfl))) (λ x3=>?_);refine aA ?_;(refine aF (xJ (hc:=λ w1 hw=>fO 10 (hw.tape cQ fin ht.len) (by decide) (by decide))) (λ x5=>?_);try (refine aB (λ h5=>?_)));refine aH (nw (cs:=yU.map (Value.int .u64)) rf rf fG bU fin (by omega) (by rw[List.length_map];simp only[yU,List.length_cons,List.length_nil];omega)) rfl ?_;refine aH (nz (cs:=yU.map (Value.int .u64)) (v:=.int .u64 (yU.getD x5 0)) rf bU fin (by rw[List.getElem?_map,gdg,List.getElem?_eq_getElem (by simp only[yU,List.length_cons,List.length_nil];omega)];rfl)) rfl ?_;refine J1 ?_)
 all_goals
 refine aR Tryz.results26 (λ w hw=>?_)
 exact⟨x5,rfl,by omega,hw.aV⟩
theorem n9{l:List Int}{a:Option Addr}{b c k:Nat}{w:World}(ht:jw w b a l c k) :
  Calls Tryz.prog 28 #[.pointer (some ⟨b,0,none⟩)] w λ e w' =>
  ∃v:Bool,e=.returned (.bool v)/\True/\SF w [b] ((b,O5 a l c k)::[]) [] [] [] w':=by
 refine enter Tryz.func28 Tryz.ntmps28 rfl rfl ht.start ?_
 simp only[dB]
 all_goals (refine Be ?_;refine eE [0,1,2,3,4,5,6,7,8,9,10] ?_;refine mY ?_;refine jD ?_;refine Br ?_;refine J7 ?_)
 all_goals
 refine aR Tryz.results28 (λ w hw=>?_)
 exact⟨_,rfl,trivial,hw.aV⟩
end

/- Worlds: Create, keep. -/
section
open Go Go.RowKit Go.Ct
structure KQ where
 ts:List iV
 es:List Nat
 pt:Option Addr
 kt:Nat
 pe:Option Addr
 ke:Nat
def Qw(dn:Bool)(rs:Rs)(bx:Nat)(ts:List iV)(es:List Nat)(q:KQ):Prop :=
 (dn=false/\q.es=es++[bx]/\q.ts=ts)∨(dn=true/\q.es=es/\(q.ts=ts∨(0<rs.root/\q.ts.length<=5/\q.ts=ts++[⟨rs.root,rs.ro⟩])))
section
variable{k:Cl}{bw bx bm:Nat}{x:XS}{dn:Bool}{rs:Rs}{D:List Nat}{A:Fr}{w:World}{mask:Int}{ts:List iV}{es:List Nat}{pt pe:Option Addr}{kt ke:Nat}
abbrev wL(ts:List iV)(es:List Nat)(pt:Option Addr)(kt:Nat)(pe:Option Addr)(ke:Nat):List Ow:=[⟨pt,sU ts,kt,33,2⟩,⟨pe,yR es,ke,86,1⟩]
theorem w6(h:SF w D ((bw,nX bm mask pt ts.length kt pe es.length ke)::xH k bx bm x dn rs) A [] (wL ts es pt kt pe ke++xW x) w) :
  SF w D [(bw,.cells ⟨[.pointer (some ⟨bm,0,none⟩),.int .u64 mask,.slice pt ts.length kt,.slice pe es.length ke]⟩ 30 (0,0)),(bx,xO k bm x dn rs),(bm,xM x)] A [] [⟨pt,sU ts,kt,33,2⟩,⟨pe,yR es,ke,86,1⟩,⟨x.pg,aJ x.got,x.kg,52,1⟩,⟨x.pm,aJ x.made,x.km,52,1⟩,⟨x.pl,aJ x.cel,x.kl,31,1⟩,⟨x.pe,aJ x.gns,x.ke,3,1⟩,⟨x.pn,iD x.L,x.cn,59,14⟩,⟨x.pc,aJ x.cs,x.cc,52,1⟩] w:=h
theorem qm(hts:ts.length<=1000)(hes:es.length<=1000)(hs:SF w D ((bw,nX bm mask pt ts.length kt pe es.length ke)::xH k bx bm x dn rs) A [] (wL ts es pt kt pe ke++xW x) w):Calls Tryz.prog 51 #[.pointer (some ⟨bw,0,none⟩),.pointer (some ⟨bx,0,none⟩)] w λ e w'=>∃q:KQ,e=.returned (.tuple #[])/\Qw dn rs bx ts es q/\SF w D ((bw,nX bm mask q.pt q.ts.length q.kt q.pe q.es.length q.ke)::xH k bx bm x dn rs) [] [] (wL q.ts q.es q.pt q.kt q.pe q.ke++xW x) w':=by
 refine enter Tryz.func51 Tryz.ntmps51 rfl rfl (w6 hs) ?_
 simp only[dB]
 all_goals (refine J2 ?_;(refine aF (cM (hs:=xH k bx bm x dn rs) (os:=xW x) (hc:=λ w hs=>Zb hs)) (λ x6=>?_);try (refine aB (λ h6=>?_)));refine kD ?_)
 all_goals
 refine bF (λ c7=>?_) (λ c7=>?_)
 ·try exact nv c7
  all_goals (refine Fk ?_;refine eF ?_;refine J3 ?_;refine aA ?_;refine aF ((by exact Cx (λ _=>cS (cs:=yR [bx]) L0 Ei rfl rfl rfl rfl rfl))) (λ x14=>?_);(refine aF (aP.eL (fT (sz:=1) (cs:=yR es) rf rf (.tail .head) (by rw[Fb];omega) fin rfl rfl L0 rfl (by decide) fG (by omega)) dV) (λ x15=>?_);try (refine aB (λ h15=>?_)));refine Lj ?_)
  all_goals
   refine zG Tryz.results51 (λ w hw=>?_)
   first
   | exact⟨⟨ts,es++[bx],pt,kt,x15.1,x15.2⟩,rfl,.inl ⟨by simpa using c7,rfl,rfl⟩,by dsimp only[wL];rw[bk,show(es++[bx]).length=es.length+1 by simp];exact hw.aV⟩
   | exact⟨⟨ts,es,pt,kt,pe,ke⟩,rfl,.inr ⟨by simpa using c7,rfl,.inl rfl⟩,hw.aV⟩
 ·try exact nv c7
  all_goals (refine J2 ?_;(refine aF (cM (hs:=xH k bx bm x dn rs) (os:=xW x) (hc:=λ w hs=>Xp hs)) (λ x19=>?_);try (refine aB (λ h19=>?_)));refine aY (λ x4=>?_);refine J5 ?_;refine J0 ?_;refine aE ?_;refine J3 ?_;refine xG ?_;refine aA ?_)
  all_goals (first|refine aG ?_|(refine aC ?_;refine aA ?_)|(refine dG 24 (λ g24=>?_) (λ g24=>?_)<;>(first|refine aG ?_|(refine aC ?_;refine aA ?_))))
  all_goals ((first|refine aG ?_|(refine aC ?_;refine eF ?_));refine Li ?_;refine nh ?_;refine aN ?_)
  all_goals
   refine bF (λ c31=>?_) (λ c31=>?_)
   ·try exact nv c31
    all_goals (refine dL [(0,[]),(1,[]),(2,[]),(3,[]),(4,[]),(5,[]),(6,[]),(7,[4]),(8,[]),(9,[]),(10,[]),(11,[])] ?_;refine Gg ?_;refine aX ?_;refine bP (i:=6) (hq:=(aM (k:=2) (vs:=[.int .i64 rs.root,.bool rs.ro]) rf cQ dS rfl rfl)) (h:=?_);refine bA (i:=7) (hq:=((by exact Cx (λ _=>cS (cs:=sU [⟨rs.root,rs.ro⟩]) Fg Ei rfl rfl rfl rfl rfl)))) (h:=λ x39=>?_);((refine bA (i:=8) (hq:=(aP.eL (fT (sz:=2) (cs:=sU ts) rf rf .head (by rw[mK]) fin rfl rfl Fg rfl (by decide) fG (by omega)) dV)) (h:=λ x40=>?_);try (refine aK (λ h40=>?_))));refine Il ?_)
    all_goals
    refine zG Tryz.results51 (λ w hw=>?_)
    first
    | exact⟨⟨ts++[⟨rs.root,rs.ro⟩],es,x40.1,x40.2,pe,ke⟩,rfl,.inr ⟨by simpa using c7,rfl,.inr ⟨by omega,by show(ts++[(⟨rs.root,rs.ro⟩:iV)]).length<=5;simp;omega,rfl⟩⟩,by dsimp only[wL];rw[bc,show(ts++[(⟨rs.root,rs.ro⟩:iV)]).length=ts.length+1 by simp];exact hw.aV⟩
    | exact⟨⟨ts,es,pt,kt,pe,ke⟩,rfl,.inr ⟨by simpa using c7,rfl,.inl rfl⟩,hw.aV⟩
   ·try exact nv c31
    all_goals refine aZ ?_
    all_goals
    refine zG Tryz.results51 (λ w hw=>?_)
    first
    | exact⟨⟨ts,es,pt,kt,pe,ke⟩,rfl,.inr ⟨by simpa using c7,rfl,.inl rfl⟩,hw.aV⟩
theorem jk(hts:ts.length<=1000)(hes:es.length<=1000)(hs:SF w D [(bw,nX bm mask pt ts.length kt pe es.length ke),(bx,xO k bm x dn rs),(bm,xM x)] A [] [⟨pt,sU ts,kt,33,2⟩,⟨pe,yR es,ke,86,1⟩,⟨x.pg,aJ x.got,x.kg,52,1⟩,⟨x.pm,aJ x.made,x.km,52,1⟩,⟨x.pl,aJ x.cel,x.kl,31,1⟩,⟨x.pe,aJ x.gns,x.ke,3,1⟩,⟨x.pn,iD x.L,x.cn,59,14⟩,⟨x.pc,aJ x.cs,x.cc,52,1⟩] w):Calls Tryz.prog 51 #[.pointer (some ⟨bw,0,none⟩),.pointer (some ⟨bx,0,none⟩)] w λ e w'=>∃q:KQ,e=.returned (.tuple #[])/\Qw dn rs bx ts es q/\SF w D [(bw,nX bm mask q.pt q.ts.length q.kt q.pe q.es.length q.ke),(bx,xO k bm x dn rs),(bm,xM x)] [] [] [⟨q.pt,sU q.ts,q.kt,33,2⟩,⟨q.pe,yR q.es,q.ke,86,1⟩,⟨x.pg,aJ x.got,x.kg,52,1⟩,⟨x.pm,aJ x.made,x.km,52,1⟩,⟨x.pl,aJ x.cel,x.kl,31,1⟩,⟨x.pe,aJ x.gns,x.ke,3,1⟩,⟨x.pn,iD x.L,x.cn,59,14⟩,⟨x.pc,aJ x.cs,x.cc,52,1⟩] w':=qm hts hes hs
end
end

/- Worlds: Create. -/
section
open Go Go.RowKit Go.Ct
def Yc:Nd:={Nd.zero with kind:=3}
def sj(g:Int):Nd:={Nd.zero with kind:=2,gen:=g}
def L4(x y:AX):List aQ:=[dE,dE]++[gK Yc [] [] 0 x]++[gK (sj 1) [] [] 1 y]
theorem oj{x y:AX}:∀f∈bG (L4 x y),f.2=[]:=by
 intro f hf
 simp[bG,L4,aQ.fr,dE,gK,aJ,dI] at hf
 rcases hf with hf|hf|hf|hf|hf|hf|hf|hf<;>rw[hf]
theorem Xn{w:World}{D:List Nat}{b:Nat}{acc:Int}{pn:Option Addr}{cn:Nat}{A:Fr}(hs:SF w D [(b,mO [dE,dE] [] 0 acc pn cn none 0)] A [] (mW [dE,dE] [] pn cn none 0) w) :
  Calls Tryz.prog 27 #[.pointer (some ⟨b,0,none⟩)] w λ e w'=>∃q:AX×AX×Option Addr×Nat,e=.returned (.agg ⟨[.int .i64 3,.bool false]⟩)/\True /\
   SF w D [(b,mO (L4 q.1 q.2.1) [0,3,4] 1 acc q.2.1.pn q.2.1.cn q.2.2.1 q.2.2.2)] [] (bG (L4 q.1 q.2.1)) (mW (L4 q.1 q.2.1) [0,3,4] q.2.1.pn q.2.1.cn q.2.2.1 q.2.2.2) w':=by
 refine enter Tryz.func27 Tryz.ntmps27 rfl rfl (xQ hs) ?_
 simp only[dB]
 all_goals (refine J0 ?_;refine aY (λ x2=>?_);refine aN ?_;refine J2 ?_;refine bV ?_;(refine aF (cM (A0:=[(none,aJ []),(none,dI [])]) (hc:=λ w hs=>qT (L:=[dE,dE]) (cs:=[]) (n:=Yc) (xs:=[]) (ys:=[]) 0 hs rfl rfl (by decide) (by decide) (by decide) (by decide))) (λ x7=>?_);try (refine aB (λ h7=>?_)));refine J1 ?_;refine J2 ?_;(refine aF (cM (hc:=λ w hs=>Hu (L:=[dE,dE]++[gK Yc [] [] 0 x7]) (cs:=[0]) hs)) (λ x9=>?_);try (refine aB (λ h9=>?_)));refine yQ ?_;refine aA ?_;refine bV ?_;refine aA ?_;(refine aF (cM (A0:=[(none,aJ []),(none,dI [])]) (hc:=λ w hs=>qT (L:=[dE,dE]++[gK Yc [] [] 0 x7]) (cs:=[0]) (n:=sj 1) (xs:=[]) (ys:=[]) 3 hs rfl rfl (by decide) (by decide) (by simp) (by decide))) (λ x15=>?_);try (refine aB (λ h15=>?_)));(refine aF (cM (hc:=λ w hs=>iH (L:=L4 x7 x15) (cs:=[0,3]) 4 hs (by decide))) (λ x16=>?_);try (refine aB (λ h16=>?_)));refine zN ?_)
 all_goals
 refine bH Tryz.results27 (λ w hw=>?_)
 exact⟨(x7,x15,x16.1,x16.2),rfl,trivial,(hw.dO (λ f hf=>.inl (oj f hf))).aV (hF:=by exact aW.all)⟩
end

/- Calls that may change known blocks and own lists, and leave new ones. -/
section
open Go Go.RowKit Go.Ct
section
variable{S:List (Nat×Value)}{w0 w:World}{M:List Nat}{H:List (Nat×Obj)}{A F:Fr}{O:List Ow}{ty:TypeId}{pos:String}{af:Array Edge}{gd:Option (Nat×Bool)}{X:Type}{V:X->Value}
theorem cMH{φ:X->Prop}{hs H':List (Nat×Obj)}{os O':List Ow}{hs' Hc H1:X->List (Nat×Obj)}{os' Oc O1:X->List Ow}{Fc F1:X->Fr}{A0:Fr}{is js:List Nat}{f:FuncId}{xs:List Operand}{at_:Array TypeId}{vs:List Value}{dst:Option Nat}
  (ha:zT S xs=vs:=by(repeat (first|exact pW _|(apply nD;focus ((conv=>{lhs;whnf});try exact rfl))));first|done|fail) (hp:plain Tryz.prog f=true:=by kernel_rfl)
  (hc:∀w,SF w (Ks hs os) hs A0 [] os w->Calls Tryz.prog f ⟨vs⟩ w λ e w'=>∃x,e=.returned (V x)/\φ x/\SF w (Ks hs os) (hs' x++Hc x) [] (Fc x) (os' x++Oc x) w')
  (hH:Cd H is hs H':=by(repeat (first|exact Cd.nil|(apply Cd.cons;(focus ((repeat (first|exact Rp.head|apply Rp.tail));done));simp only[P4])));first|done|fail)
  (hO:Cd O js os O':=by(repeat (first|exact Cd.nil|(apply Cd.cons;(focus ((repeat (first|exact Rp.head|apply Rp.tail));done));simp only[P4])));first|done|fail)
  (hA:dA A F O' A0:=by(repeat (first|exact dA.of (λ _ h=>Or.inr (Or.inl h))|exact dA.nil|(refine dA.cons (by first|exact Or.inl rfl|exact Or.inr (Or.inr (Or.inl (by simp)))|exact Or.inr (Or.inl (by simp))|exact Or.inr (Or.inr (Or.inr (by simp)))) ?_)));first|done|fail)
  (hl1:∀x,is.length=(hs' x).length:=by intro x;exact rfl) (hl2:∀x,js.length=(os' x).length:=by intro x;exact rfl)
  (hH1:∀x,Hc x++Cr is (hs' x) H'=H1 x:=by intro x;first|(simp only[Cr,Ql,List.nil_append,List.cons_append];exact rfl)|exact rfl) (hF1:∀x,Fc x++F=F1 x:=by intro x;first|(simp only[List.nil_append,List.cons_append];exact rfl)|exact rfl) (hO1:∀x,Oc x++Cr js (os' x) O'=O1 x:=by intro x;simp only[Cr,Ql,mW,List.nil_append,List.cons_append];exact rfl) :
  aP Tryz.prog S (SF w0 M H A F O) ⟨dst,.call {callee:=.value (.func f),args:=⟨xs⟩,argTypes:=at_},ty,pos,af,gd⟩ X V (λ x w=>φ x/\SF w0 M (H1 x) A (F1 x) (O1 x) w) :=
 lM (nR hp ha) λ w hw=>(hc w (hw.Dm hH hO hA)).mono λ _ _ ⟨x,he,hx,hs⟩=>⟨x,he,hx,by
  have:=hw.Ta (hs':=hs' x) (Hc:=Hc x) (os':=os' x) (Oc:=Oc x) hH hO hs (hl1 x) (hl2 x)
  rw[<- hH1 x,<- hF1 x,<- hO1 x]
  exact this⟩
end
end

end Go.Proofs.YtpobgmdalcpomaaGreat

/- The trees are never stuck within as many accesses as they have fuel: calls. -/
import Derived.Test.YtbajmaoegmbfgaaGreatGEx24
import Derived.Test.YtbajmaoegmbfgaaGreatGAr9
import Derived.Test.YtbajmaoegmbfgaaGreatGJoin

set_option linter.unusedSimpArgs false
set_option linter.unusedVariables false
namespace Go.Proofs.YtbajmaoegmbfgaaGreat
section
open Go Go.RowKit Go.Ct
section
variable{n c:Nat}
theorem gF{a:Nv}{i:Int}{k:Int->Tr}(hc:1<=c)(h:∀v,bY (k v) n (c-1)):bY (.alloc a i k) n c:=by
 obtain⟨c,rfl⟩:∃d,c=d+1:=⟨c-1,by omega⟩
 exact L6 h
theorem A8{a i r:Int}{K:Int->Tr}(hc:1<=c)(h:∀v,bY (K v) n (c-1)):bY (Fo a i r K) n c:=dD λ _=>gF hc h
theorem Qu{t:gY}{i o x:Int}{K:Int->Tr}(h:H7 K n):bY (K6 t i o x K) n c:=dD λ _=>hU λ n1 h1 _=>dD λ _=>gF (by decide) λ _=>A8 (by decide) λ _=>kK λ n2 h2 _=>h n2 (by omega) _
theorem zF{t:gY}{p o:Int}{h0:Nat}{l:Int}{K:Bool->Tr}(h:H7 K n):bY (zG t p o h0 l K) n c:=hU λ n1 h1 _=>dD λ _=>by
 split
 ·exact hU λ n2 h2 _=>dD λ _=>by
   split
   ·exact gF (by decide) λ _=>dD λ _=>gF (by decide) λ _=>kK λ n3 h3 _=>h n3 (by omega) _
   ·exact h n2 (by omega) _
 ·exact h n1 h1 _
theorem Ih{t:gY}{h0:Nat}{key:ByteArray}{K:Rs->Tr}:∀(q n c:Nat) (i level:Int),n<q->H7 K n->bY (Cf t h0 key K q i level) n c
 | 0,n,c,i,level,hq,_=>absurd hq (Nat.not_lt_zero n)
 | q+1,n,c,i,level,hq,h=>hU λ n1 h1 _=>dD λ _=>by
  split
  ·split<;>exact h n1 h1 _
  ·split
   ·exact h n1 h1 _
   ·split
    ·exact h n1 h1 _
    ·exact dD λ _=>by
      split
      ·split<;>exact h n1 h1 _
      ·exact Ih q n1 64 _ _ (by omega) (h.lt (by omega))
theorem Mx:∀(l:List NI) (r:Int) (K:Int->Tr) (n c:Nat),l.length<=c->(∀v,bY (K v) n (c-l.length))->bY (Ag l r K) n c
 | [],r,K,n,c,_,h=>h r
 | a::l,r,K,n,c,hc,h=>by
  have hc':l.length+1<=c:=by simpa using hc
  exact gF (by omega) λ v=>Mx l v K n (c-1) (by omega) (λ u=>by have:=h u;rw[List.length_cons] at this;rwa [show c-1-l.length=c-(l.length+1) by omega])
theorem V7{k:Cl}{b:Int}{h0 level:Nat}{gen:Int}{K:Int->Tr}(hc:32<=c)(h:∀v,bY (K v) n (c-32)):bY (Sm k b h0 level gen K) n c:=dD λ nb=>gF (by omega) λ f=>by
 have hl:(dP b nb.hash.toNat h0 (nb.key,nb.val) k.key k.val gen f.toNat level).tail.length<=31:=by
  have h1:=Qg (x:=b) (h0:=nb.hash.toNat) (h:=h0) (p0:=(nb.key,nb.val)) (k:=k.key) (u:=k.val) (gen:=gen) (f:=f.toNat) (lE nb.hash.toNat h0-level) (lE nb.hash.toNat h0-(lE nb.hash.toNat h0-level))
  have h2:=zE nb.hash.toNat h0
  rw[List.length_tail]
  unfold dP
  omega
 exact Mx _ _ _ _ _ (by omega) λ v=>r6 (by omega) (h v)
theorem Km{k:Cl}{i m:Int}{h0 level:Nat}{gen:Int}{K:Rs->Int->Tr}(h:∀n',n'<=n->∀r w,bY (K r w) n' 64):bY (mJ k i m h0 level gen K) n 64:=dD λ nb=>by
 split
 ·split
  ·exact gF (by decide) λ _=>kK λ n1 h1 _=>h n1 (by omega) _ _
  ·exact h n (Nat.le_refl n) _ _
 ·split
  ·split
   ·exact gF (by decide) λ _=>gF (by decide) λ _=>kK λ n1 h1 _=>h n1 (by omega) _ _
   ·exact h n (Nat.le_refl n) _ _
  ·refine dD λ _=>?_
   split
   ·exact h n (Nat.le_refl n) _ _
   ·split
    ·split
     ·exact gF (by decide) λ _=>A8 (by decide) λ _=>kK λ n1 h1 _=>h n1 (by omega) _ _
     ·exact h n (Nat.le_refl n) _ _
    ·split
     ·exact V7 (by decide) λ _=>gF (by decide) λ _=>A8 (by decide) λ _=>kK λ n1 h1 _=>h n1 (by omega) _ _
     ·exact h n (Nat.le_refl n) _ _
theorem Fb{k:Cl}{i m x gen:Int}{K:Int->Tr}(h:∀n',n'<=n->∀v,bY (K v) n' 64):bY (Gf k i m x gen K) n 64:=dD λ _=>dD λ _=>by
 split
 ·exact h n (Nat.le_refl n) _
 ·exact Qu λ n1 h1 _=>h n1 (by omega) _
theorem Es{k:Cl}{h0:Nat}{K:Rs->Tr}{again:Tr}{gen:Int}:∀(q n c:Nat) (i parent:Int) (level:Nat),n<q->H7 K n->(∀n',n'<n->bY again n' 64)->bY (Cp k h0 K again gen q i parent level) n c
 | 0,n,c,i,p,level,hq,_,_=>absurd hq (Nat.not_lt_zero n)
 | q+1,n,c,i,p,level,hq,h,ha=>hU λ n1 h1 _=>dD λ _=>by
  split
  ·exact zF λ n2 h2 _=>ha n2 (by omega)
  ·refine Km λ n2 h2 r w=>?_
   split
   ·exact h n2 (by omega) _
   ·split
    ·exact ha n2 (by omega)
    ·refine Fb λ n3 h3 v=>?_
     split
     ·exact ha n3 (by omega)
     ·exact Es q n3 64 _ _ _ (by omega) (h.lt (by omega)) (λ n4 h4=>ha n4 (by omega))
theorem M1{k:Cl}{h0:Nat}{K:Rs->Tr}:∀(q n c:Nat),n<q->H7 K n->bY (F5 k h0 K q) n c
 | 0,n,c,hq,_=>absurd hq (Nat.not_lt_zero n)
 | q+1,n,c,hq,h=>oZ λ n1 h1 _=>dD λ _=>Es q n1 64 _ _ _ (by omega) (h.lt (by omega)) (λ n2 h2=>M1 q n2 64 (by omega) (h.lt (by omega)))
theorem Ie{k:Cl}{i m:Int}{h0 level:Nat}{K:Rs->Int->Tr}(h:∀n',n'<=n->∀r w,bY (K r w) n' 64):bY (kN k i m h0 level K) n 64:=dD λ nb=>by
 split
 ·split
  ·exact h n (Nat.le_refl n) _ _
  ·exact gF (by decide) λ _=>kK λ n1 h1 _=>h n1 (by omega) _ _
 ·split
  ·exact h n (Nat.le_refl n) _ _
  ·refine dD λ _=>?_
   split
   ·exact h n (Nat.le_refl n) _ _
   ·split
    ·exact h n (Nat.le_refl n) _ _
    ·split
     ·exact h n (Nat.le_refl n) _ _
     ·exact dD λ _=>gF (by decide) λ _=>kK λ n1 h1 _=>h n1 (by omega) _ _
theorem U3{t:gY}{path:List Int}{h0:Nat}{K:Tr}:∀(l n:Nat),(∀n',n'<=n->bY K n' 64)->bY (qs t path h0 K l) n 64
 | 0,n,h=>h n (Nat.le_refl n)
 | l+1,n,h=>hU λ n1 h1 _=>dD λ _=>by
  split
  ·exact zF λ n2 h2 _=>U3 l n2 (λ n3 h3=>h n3 (by omega))
  ·exact h n1 (by omega)
theorem C6{k:Cl}{h0:Nat}{K:Rs->Tr}{again:Tr}{gen:Int}:∀(q n c:Nat) (i:Int) (path:List Int) (level:Nat),n<q->H7 K n->(∀n',n'<n->bY again n' 64)->bY (vN k h0 K again gen q i path level) n c
 | 0,n,c,i,p,level,hq,_,_=>absurd hq (Nat.not_lt_zero n)
 | q+1,n,c,i,p,level,hq,h,ha=>hU λ n1 h1 _=>dD λ _=>by
  split
  ·exact zF λ n2 h2 _=>ha n2 (by omega)
  ·refine Ie λ n2 h2 r w=>?_
   split
   ·split
    ·exact U3 _ _ λ n3 h3=>h n3 (by omega) _
    ·exact h n2 (by omega) _
   ·split
    ·exact ha n2 (by omega)
    ·refine Fb λ n3 h3 v=>?_
     split
     ·exact ha n3 (by omega)
     ·exact C6 q n3 64 _ _ _ (by omega) (h.lt (by omega)) (λ n4 h4=>ha n4 (by omega))
theorem Im{k:Cl}{h0:Nat}{K:Rs->Tr}:∀(q n c:Nat),n<q->H7 K n->bY (vT k h0 K q) n c
 | 0,n,c,hq,_=>absurd hq (Nat.not_lt_zero n)
 | q+1,n,c,hq,h=>oZ λ n1 h1 _=>dD λ _=>C6 q n1 64 _ _ _ (by omega) (h.lt (by omega)) (λ n2 h2=>Im q n2 64 (by omega) (h.lt (by omega)))
theorem Lu{i:Int}{k:Int->Tr}(hc:1<=c)(h:∀v,bY (k v) n (c-1)):bY (.cell i k) n c:=by
 obtain⟨c,rfl⟩:∃d,c=d+1:=⟨c-1,by omega⟩
 exact tm h
theorem Rh{k:Int->Tr}(hc:1<=c)(h:∀v,bY (k v) n (c-1)):bY (.gen k) n c:=by
 obtain⟨c,rfl⟩:∃d,c=d+1:=⟨c-1,by omega⟩
 exact yd h
theorem kL{r:Rs}:bY (.done r) n c:=by simp[bY]
theorem Je{m:Int}:bY (Pm m .done) n 64:=Rh (by decide) λ _=>gF (by decide) λ _=>Lu (by decide) λ _=>kL
theorem Jw{t:gY}{fz:Bool}:∀(q n c:Nat),n<q->bY (Jl t fz .done q) n c
 | 0,n,c,hq=>absurd hq (Nat.not_lt_zero n)
 | q+1,n,c,hq=>oZ λ n1 h1 _=>hU λ n2 h2 _=>Rh (by decide) λ _=>gF (by decide) λ _=>yX (λ n3 h3 b=>by
  split
  ·split
   ·exact Lu (by decide) λ _=>kL
   ·exact Je
  ·exact Jw q n3 64 (by omega)) (by decide)
theorem Ed{t:gY}{fz:Bool}{q:Nat}(h:n<q):bY (sY t fz .done q) n c:=by
 unfold sY
 split
 ·exact pM λ n1 h1 _=>by
   split
   ·exact Lu (by decide) λ _=>kL
   ·exact hU λ n2 h2 _=>Je
 ·exact Jw q n c h
theorem Gn{t:gY}:∀(q n c:Nat),n<q->bY (yS t .done q) n c
 | 0,n,c,hq=>absurd hq (Nat.not_lt_zero n)
 | q+1,n,c,hq=>oZ λ n1 h1 _=>hU λ n2 h2 _=>gF (by decide) λ _=>Rh (by decide) λ _=>gF (by decide) λ _=>yX (λ n3 h3 b=>by
  split
  ·exact kL
  ·exact Gn q n3 64 (by omega)) (by decide)
theorem Jq{k:Cl}{h0 q:Nat}(h:n<q):bY (kZ k h0 q) n 64:=by
 have hd:∀{X:Type} {K:X->Rs},H7 (λ v=>Tr.done (K v)) n:=λ _ _ _=>kL
 unfold kZ
 split
 ·exact kL
 split
 ·exact hU hd
 split
 ·exact kK hd
 split
 ·exact oZ hd
 split
 ·exact yX hd (by decide)
 split
 ·exact oZ λ n1 h1 _=>Ih q n1 64 _ _ (by omega) (λ _ _ _=>kL)
 split
 ·exact M1 q n 64 h (λ _ _ _=>kL)
 split
 ·exact Im q n 64 h (λ _ _ _=>kL)
 split
 ·exact Ed h
 split
 ·exact Ed h
 ·exact Gn q n 64 h
end
end

/- Worlds: lists of tries and of executions; the smallest functions. -/
end Go.Proofs.YtbajmaoegmbfgaaGreat
namespace Go.Ct
section
open Go Go.RowKit
section
variable{P:Program}{S:List (Nat×Value)}{d:Nat}{ty t t' e:TypeId}{pos:String}{af:Array Edge}{gd:Option (Nat×Bool)}{x y:Operand}{w0 w:World}{M:List Nat}{H:List (Nat×Obj)}{A F:Fr}{O:List Ow}{a:Option Addr}
theorem po{cs:List Value}{kk:IntKind}{m c k:Nat}(hx:ev S x=.slice a m c)(hy:ev S y=.int kk ((k:Nat):Int))(ht:P.underlying t=some (.slice e))(hs:one P e=true)(hf:rD A F O a cs)(h1:k<m)(h2:k<cs.length) :
  aP P S (SF w0 M H A F O) ⟨some d,.indexAddr t x y,ty,pos,af,gd⟩ (.pointer (some ⟨dI a,fC a+k,none⟩)):=⟨λ w hw =>
 (zY (G:=SF w0 M H A F O) hx hy ht hs ((hw.cl hf).ptr (by omega)) h1).run w hw⟩
theorem Ge{cs:List Value}{q:Nat}{v:Value}(hx:ev S x=.pointer (some ⟨dI a,fC a+q,none⟩))(ht:one P t=true)(hf:rD A F O a cs)(hq:cs[q]?=some v) :
  aP P S (SF w0 M H A F O) ⟨some d,.load t x,ty,pos,af,gd⟩ v:=qL hx ht (λ w hw=>hw.cl hf) hq
theorem tZ{cs:List Value}{kk:IntKind}{m c k:Nat}(hx:ev S x=.slice a m c)(hy:ev S y=.int kk ((k:Nat):Int))(ht:P.underlying t=some (.slice e))(hs:jT P e 2=true)(hf:rD A F O a cs)(h1:k<m)(h2:2*k<cs.length) :
  aP P S (SF w0 M H A F O) ⟨some d,.indexAddr t x y,ty,pos,af,gd⟩ (.pointer (some ⟨dI a,fC a+2*k,none⟩)):=⟨λ w hw =>
 (Mi (G:=SF w0 M H A F O) hx hy ht hs ((hw.cl hf).ptr (by omega)) h1).run w hw⟩
end
end
end Go.Ct
namespace Go.Proofs.YtbajmaoegmbfgaaGreat
section
open Go Go.RowKit Go.Ct
def sF(ts:List gY):List Value:=ts.flatMap λ t=>[.int .i64 t.root,.bool t.ro]
def Aj(es:List Nat):List Value:=es.map λ b=>.pointer (some ⟨b,0,none⟩)
theorem kD:∀ts:List gY,(sF ts).length=ts.length*2
 | []=>rfl
 | t::ts=>by
  have:=kD ts
  simp only[sF,List.flatMap_cons,List.length_append,List.length_cons,List.length_nil] at this ⊢
  omega
theorem Z5(ts:List gY)(t:gY):sF (ts++[t])=sF ts++[.int .i64 t.root,.bool t.ro]:=by simp[sF]
theorem cw(es:List Nat)(b:Nat):Aj (es++[b])=Aj es++[.pointer (some ⟨b,0,none⟩)]:=by simp[Aj]
theorem Fw(es:List Nat):(Aj es).length=es.length:=by simp[Aj]
theorem Gp:eM Tryz.prog 32 29 [.int .i64 0,.bool false]:=mH (z:=.agg ⟨[.int .i64 0,.bool false]⟩) (by kernel_rfl) (by kernel_rfl) rfl
theorem Po:eM Tryz.prog 33 74 [.pointer none]:=mH (z:=.pointer none) (by kernel_rfl) (by kernel_rfl) rfl
theorem j5:eM Tryz.prog 169 31 [.int .u64 0]:=mH (z:=.int .u64 0) (by kernel_rfl) (by kernel_rfl) rfl
abbrev oH(bm:Nat)(mask:Int)(pt:Option Addr)(nt kt:Nat)(pe:Option Addr)(ne ke:Nat):Obj:=.cells ⟨[.pointer (some ⟨bm,0,none⟩),.int .u64 mask,.slice pt nt kt,.slice pe ne ke]⟩ 35 (0,0)
def Ax:List Int:=[18446744073709551615,0,1,64,63,4095,9223372036854775808,4032,3458764513820540928,18446744073709551615]
theorem uz{l:List Int}{a:Option Addr}{b c k:Nat}{w:World}(ht:mn w b a l c k) :
  Calls Tryz.prog 65 #[.pointer (some ⟨b,0,none⟩)] w λ e w' =>
  ∃v:Nat,e=.returned (.int .u64 (Ax.getD v 0))/\v<10/\SF w [b] ((b,De a l c (lD l k))::[]) [] [] [] w':=by
 refine enter Tryz.func65 Tryz.ntmps65 rfl rfl ht.start ?_
 simp only[cN]
 all_goals (refine dC ?_;refine J0 ?_;refine aY ((by exact Ib (λ _=>cZ (cs:=Ax.map (Value.int .u64)) j5 It rfl rfl rfl rfl rfl))) (λ x3=>?_);refine aA ?_;refine aC (uR (hc:=λ w1 hw=>fF 10 (hw.tape bQ fin ht.len) (by decide) (by decide))) (λ x5 h5=>?_);refine aB (po (cs:=Ax.map (Value.int .u64)) rf rf gK cG fin (by omega) (by rw[List.length_map];simp only[Ax,List.length_cons,List.length_nil];omega)) rfl ?_;refine aB (Ge (cs:=Ax.map (Value.int .u64)) (v:=.int .u64 (Ax.getD x5 0)) rf cG fin (by rw[List.getElem?_map,lB,List.getElem?_eq_getElem (by simp only[Ax,List.length_cons,List.length_nil];omega)];rfl)) rfl ?_;refine J1 ?_)
 all_goals
 refine aU Tryz.results65 (λ w hw=>?_)
 exact⟨x5,rfl,by omega,hw.aS⟩
theorem ar{l:List Int}{a:Option Addr}{b c k:Nat}{w:World}(ht:mn w b a l c k) :
  Calls Tryz.prog 53 #[.pointer (some ⟨b,0,none⟩)] w λ e w' =>
  ∃v:Bool,e=.returned (.bool v)/\True/\SF w [b] ((b,De a l c k)::[]) [] [] [] w':=by
 refine enter Tryz.func53 Tryz.ntmps53 rfl rfl ht.start ?_
 simp only[cN]
 all_goals (refine H5 ?_;refine fL [0,1,2,3,4,5,6,7,8,9,10] ?_;refine qC ?_;refine mP ?_;refine Al ?_;refine J7 ?_)
 all_goals
 refine aU Tryz.results53 (λ w hw=>?_)
 exact⟨_,rfl,trivial,hw.aS⟩
end

/- Worlds: Create, keep. -/
section
open Go Go.RowKit Go.Ct
structure KQ where
 ts:List gY
 es:List Nat
 pt:Option Addr
 kt:Nat
 pe:Option Addr
 ke:Nat
def Qq(dn:Bool)(rs:Rs)(bx:Nat)(ts:List gY)(es:List Nat)(q:KQ):Prop :=
 (dn=false/\q.es=es++[bx]/\q.ts=ts)∨(dn=true/\q.es=es/\(q.ts=ts∨(0<rs.root/\q.ts.length<=5/\q.ts=ts++[⟨rs.root,rs.ro⟩])))
section
variable{k:Cl}{bw bx bm:Nat}{x:XS}{dn:Bool}{rs:Rs}{D:List Nat}{A:Fr}{w:World}{mask:Int}{ts:List gY}{es:List Nat}{pt pe:Option Addr}{kt ke:Nat}
abbrev wL(ts:List gY)(es:List Nat)(pt:Option Addr)(kt:Nat)(pe:Option Addr)(ke:Nat):List Ow:=[⟨pt,sF ts,kt,29,2⟩,⟨pe,Aj es,ke,74,1⟩]
theorem zb(h:SF w D ((bw,oH bm mask pt ts.length kt pe es.length ke)::xH k bx bm x dn rs) A [] (wL ts es pt kt pe ke++xW x) w) :
  SF w D [(bw,.cells ⟨[.pointer (some ⟨bm,0,none⟩),.int .u64 mask,.slice pt ts.length kt,.slice pe es.length ke]⟩ 35 (0,0)),(bx,xO k bm x dn rs),(bm,xM x)] A [] [⟨pt,sF ts,kt,29,2⟩,⟨pe,Aj es,ke,74,1⟩,⟨x.pg,aG x.got,x.kg,37,1⟩,⟨x.pm,aG x.made,x.km,37,1⟩,⟨x.pl,aG x.cel,x.kl,27,1⟩,⟨x.pe,aG x.gns,x.ke,3,1⟩,⟨x.pn,iO x.L,x.cn,47,14⟩,⟨x.pc,aG x.cs,x.cc,37,1⟩] w:=h
theorem v5(hts:ts.length<=1000)(hes:es.length<=1000)(hs:SF w D ((bw,oH bm mask pt ts.length kt pe es.length ke)::xH k bx bm x dn rs) A [] (wL ts es pt kt pe ke++xW x) w):Calls Tryz.prog 115 #[.pointer (some ⟨bw,0,none⟩),.pointer (some ⟨bx,0,none⟩)] w λ e w'=>∃q:KQ,e=.returned (.tuple #[])/\Qq dn rs bx ts es q/\SF w D ((bw,oH bm mask q.pt q.ts.length q.kt q.pe q.es.length q.ke)::xH k bx bm x dn rs) [] [] (wL q.ts q.es q.pt q.kt q.pe q.ke++xW x) w':=by
 refine enter Tryz.func115 Tryz.ntmps115 rfl rfl (zb hs) ?_
 simp only[cN]
 all_goals (refine J2 ?_;refine aC (cM (hs:=xH k bx bm x dn rs) (os:=xW x) (hc:=λ w hs=>Fu hs)) (λ x6 h6=>?_);refine qT ?_)
 all_goals
 refine bG (λ c7=>?_) (λ c7=>?_)
 ·all_goals (refine Ic ?_;refine dZ ?_;refine J3 ?_;refine aA ?_;refine aY ((by exact Ib (λ _=>cZ (cs:=Aj [bx]) Po It rfl rfl rfl rfl rfl))) (λ x14=>?_);(refine aY (aM.eJ (fJ (sz:=1) (cs:=Aj es) rf rf (.tail .head) (by rw[Fw];omega) fin rfl rfl Po rfl (by decide) gK (by omega)) dU) (λ x15=>?_);try (refine eA (λ h15=>?_)));refine D5 ?_)
  all_goals
   refine Di Tryz.results115 (λ w hw=>?_)
   first
   | exact⟨⟨ts,es++[bx],pt,kt,x15.1,x15.2⟩,rfl,.inl ⟨by simpa using c7,rfl,rfl⟩,by dsimp only[wL];rw[cw,show(es++[bx]).length=es.length+1 by simp];exact hw.aS⟩
   | exact⟨⟨ts,es,pt,kt,pe,ke⟩,rfl,.inr ⟨by simpa using c7,rfl,.inl rfl⟩,hw.aS⟩
 ·all_goals (refine J2 ?_;refine aC (cM (hs:=xH k bx bm x dn rs) (os:=xW x) (hc:=λ w hs=>Mo hs)) (λ x19 h19=>?_);refine aJ (λ x4=>?_);refine J5 ?_;refine J0 ?_;refine aE ?_;refine J3 ?_;refine zP ?_;refine aA ?_)
  all_goals ((refine fS 24 (λ g24=>?_) (λ g24=>?_)<;>(first|refine aN ?_|(refine aF ?_;refine aA ?_))))
  all_goals ((first|refine aN ?_|(refine aF ?_;refine dZ ?_));refine je ?_;refine pu ?_;refine aH ?_)
  all_goals
   refine bG (λ c31=>?_) (λ c31=>?_)
   ·try exact nv c31
    all_goals (refine dX [(0,[]),(1,[]),(2,[]),(3,[]),(4,[]),(5,[]),(6,[]),(7,[4]),(8,[]),(9,[]),(10,[]),(11,[])] ?_;refine Qh ?_;refine aT ?_;refine bS (i:=6) (hq:=(aL (k:=2) (vs:=[.int .i64 rs.root,.bool rs.ro]) rf bQ cD rfl rfl)) (h:=?_);refine cL (i:=7) (hq:=((by exact Ib (λ _=>cZ (cs:=sF [⟨rs.root,rs.ro⟩]) Gp It rfl rfl rfl rfl rfl)))) (h:=λ x39=>?_);((refine cL (i:=8) (hq:=(aM.eJ (fJ (sz:=2) (cs:=sF ts) rf rf .head (by rw[kD]) fin rfl rfl Gp rfl (by decide) gK (by omega)) dU)) (h:=λ x40=>?_);try (refine cW (λ h40=>?_))));refine iy ?_)
    all_goals
    refine Di Tryz.results115 (λ w hw=>?_)
    first
    | exact⟨⟨ts++[⟨rs.root,rs.ro⟩],es,x40.1,x40.2,pe,ke⟩,rfl,.inr ⟨by simpa using c7,rfl,.inr ⟨by omega,by show(ts++[(⟨rs.root,rs.ro⟩:gY)]).length<=5;simp;omega,rfl⟩⟩,by dsimp only[wL];rw[Z5,show(ts++[(⟨rs.root,rs.ro⟩:gY)]).length=ts.length+1 by simp];exact hw.aS⟩
    | exact⟨⟨ts,es,pt,kt,pe,ke⟩,rfl,.inr ⟨by simpa using c7,rfl,.inl rfl⟩,hw.aS⟩
   ·all_goals refine bD ?_
    all_goals
    refine Di Tryz.results115 (λ w hw=>?_)
    first
    | exact⟨⟨ts,es,pt,kt,pe,ke⟩,rfl,.inr ⟨by simpa using c7,rfl,.inl rfl⟩,hw.aS⟩
theorem jx(hts:ts.length<=1000)(hes:es.length<=1000)(hs:SF w D [(bw,oH bm mask pt ts.length kt pe es.length ke),(bx,xO k bm x dn rs),(bm,xM x)] A [] [⟨pt,sF ts,kt,29,2⟩,⟨pe,Aj es,ke,74,1⟩,⟨x.pg,aG x.got,x.kg,37,1⟩,⟨x.pm,aG x.made,x.km,37,1⟩,⟨x.pl,aG x.cel,x.kl,27,1⟩,⟨x.pe,aG x.gns,x.ke,3,1⟩,⟨x.pn,iO x.L,x.cn,47,14⟩,⟨x.pc,aG x.cs,x.cc,37,1⟩] w):Calls Tryz.prog 115 #[.pointer (some ⟨bw,0,none⟩),.pointer (some ⟨bx,0,none⟩)] w λ e w'=>∃q:KQ,e=.returned (.tuple #[])/\Qq dn rs bx ts es q/\SF w D [(bw,oH bm mask q.pt q.ts.length q.kt q.pe q.es.length q.ke),(bx,xO k bm x dn rs),(bm,xM x)] [] [] [⟨q.pt,sF q.ts,q.kt,29,2⟩,⟨q.pe,Aj q.es,q.ke,74,1⟩,⟨x.pg,aG x.got,x.kg,37,1⟩,⟨x.pm,aG x.made,x.km,37,1⟩,⟨x.pl,aG x.cel,x.kl,27,1⟩,⟨x.pe,aG x.gns,x.ke,3,1⟩,⟨x.pn,iO x.L,x.cn,47,14⟩,⟨x.pc,aG x.cs,x.cc,37,1⟩] w':=v5 hts hes hs
end
end

/- Worlds: Create. -/
section
open Go Go.RowKit Go.Ct
def Zl:Nd:={Nd.zero with kind:=3}
def wy(g:Int):Nd:={Nd.zero with kind:=2,gen:=g}
def L4(x y:AX):List aX:=[fW,fW]++[gI Zl [] [] 0 x]++[gI (wy 1) [] [] 1 y]
theorem cq{x y:AX}:∀f∈aR (L4 x y),f.2=[]:=by
 intro f hf
 simp[aR,L4,aX.fr,fW,gI,aG,dW] at hf
 rcases hf with hf|hf|hf|hf|hf|hf|hf|hf<;>rw[hf]
theorem Pn{w:World}{D:List Nat}{b:Nat}{acc:Int}{pn:Option Addr}{cn:Nat}{A:Fr}(hs:SF w D [(b,mO [fW,fW] [] 0 acc pn cn none 0)] A [] (mW [fW,fW] [] pn cn none 0) w) :
  Calls Tryz.prog 66 #[.pointer (some ⟨b,0,none⟩)] w λ e w'=>∃q:AX×AX×Option Addr×Nat,e=.returned (.agg ⟨[.int .i64 3,.bool false]⟩)/\True /\
   SF w D [(b,mO (L4 q.1 q.2.1) [0,3,4] 1 acc q.2.1.pn q.2.1.cn q.2.2.1 q.2.2.2)] [] (aR (L4 q.1 q.2.1)) (mW (L4 q.1 q.2.1) [0,3,4] q.2.1.pn q.2.1.cn q.2.2.1 q.2.2.2) w':=by
 refine enter Tryz.func66 Tryz.ntmps66 rfl rfl (yE hs) ?_
 simp only[cN]
 all_goals (refine J0 ?_;refine aJ (λ x2=>?_);refine aH ?_;refine J2 ?_;refine bO ?_;refine aC (cM (A0:=[(none,aG []),(none,dW [])]) (hc:=λ w hs=>Ex (L:=[fW,fW]) (cs:=[]) (n:=Zl) (xs:=[]) (ys:=[]) 0 hs rfl rfl (by decide) (by decide) (by decide) (by decide))) (λ x7 h7=>?_);refine J1 ?_;refine J2 ?_;refine aC (cM (hc:=λ w hs=>Jr (L:=[fW,fW]++[gI Zl [] [] 0 x7]) (cs:=[0]) hs)) (λ x9 h9=>?_);refine xT ?_;refine aA ?_;refine bO ?_;refine aA ?_;refine aC (cM (A0:=[(none,aG []),(none,dW [])]) (hc:=λ w hs=>Ex (L:=[fW,fW]++[gI Zl [] [] 0 x7]) (cs:=[0]) (n:=wy 1) (xs:=[]) (ys:=[]) 3 hs rfl rfl (by decide) (by decide) (by simp) (by decide))) (λ x15 h15=>?_);refine aC (cM (hc:=λ w hs=>jE (L:=L4 x7 x15) (cs:=[0,3]) 4 hs (by decide))) (λ x16 h16=>?_);refine wJ ?_)
 all_goals
 refine bE Tryz.results66 (λ w hw=>?_)
 exact⟨(x7,x15,x16.1,x16.2),rfl,trivial,(hw.dY (λ f hf=>.inl (cq f hf))).aS (hF:=by exact aV.all)⟩
end

/- Calls that may change known blocks and own lists, and leave new ones. -/
section
open Go Go.RowKit Go.Ct
section
variable{S:List (Nat×Value)}{w0 w:World}{M:List Nat}{H:List (Nat×Obj)}{A F:Fr}{O:List Ow}{ty:TypeId}{pos:String}{af:Array Edge}{gd:Option (Nat×Bool)}{X:Type}{V:X->Value}
theorem vy{φ:X->Prop}{hs H':List (Nat×Obj)}{os O':List Ow}{hs' Hc H1:X->List (Nat×Obj)}{os' Oc O1:X->List Ow}{Fc F1:X->Fr}{A0:Fr}{is js:List Nat}{f:FuncId}{xs:List Operand}{at_:Array TypeId}{vs:List Value}{dst:Option Nat}
  (ha:qV S xs=vs:=by(repeat (first|exact cP _|(apply cC;focus ((conv=>{lhs;whnf});try exact rfl))));first|done|fail) (hp:plain Tryz.prog f=true:=by kernel_rfl)
  (hc:∀w,SF w (Ks hs os) hs A0 [] os w->Calls Tryz.prog f ⟨vs⟩ w λ e w'=>∃x,e=.returned (V x)/\φ x/\SF w (Ks hs os) (hs' x++Hc x) [] (Fc x) (os' x++Oc x) w')
  (hH:lX H is hs H':=by(repeat (first|exact lX.nil|(apply lX.cons;(focus ((repeat (first|exact yL.head|apply yL.tail));done));simp only[qE])));first|done|fail)
  (hO:lX O js os O':=by(repeat (first|exact lX.nil|(apply lX.cons;(focus ((repeat (first|exact yL.head|apply yL.tail));done));simp only[qE])));first|done|fail)
  (hA:bB A F O' A0:=by(repeat (first|exact bB.of (λ _ h=>Or.inr (Or.inl h))|exact bB.nil|(refine bB.cons (by first|exact Or.inl rfl|exact Or.inr (Or.inr (Or.inl (by simp)))|exact Or.inr (Or.inl (by simp))|exact Or.inr (Or.inr (Or.inr (by simp)))) ?_)));first|done|fail)
  (hl1:∀x,is.length=(hs' x).length:=by intro x;exact rfl) (hl2:∀x,js.length=(os' x).length:=by intro x;exact rfl)
  (hH1:∀x,Hc x++jA is (hs' x) H'=H1 x:=by intro x;first|(simp only[jA,qX,List.nil_append,List.cons_append];exact rfl)|exact rfl) (hF1:∀x,Fc x++F=F1 x:=by intro x;first|(simp only[List.nil_append,List.cons_append];exact rfl)|exact rfl) (hO1:∀x,Oc x++jA js (os' x) O'=O1 x:=by intro x;simp only[jA,qX,mW,List.nil_append,List.cons_append];exact rfl) :
  aM Tryz.prog S (SF w0 M H A F O) ⟨dst,.call {callee:=.value (.func f),args:=⟨xs⟩,argTypes:=at_},ty,pos,af,gd⟩ X V (λ x w=>φ x/\SF w0 M (H1 x) A (F1 x) (O1 x) w) :=
 hJ (mA hp ha) λ w hw=>(hc w (hw.pE hH hO hA)).mono λ _ _ ⟨x,he,hx,hs⟩=>⟨x,he,hx,by
  have:=hw.xG (hs':=hs' x) (Hc:=Hc x) (os':=os' x) (Oc:=Oc x) hH hO hs (hl1 x) (hl2 x)
  rw[<- hH1 x,<- hF1 x,<- hO1 x]
  exact this⟩
end
end

/- Worlds: an execution is run. -/
end Go.Proofs.YtbajmaoegmbfgaaGreat
namespace Go.Ct
section
open Go Go.RowKit
theorem Rc.trans{i j:Nat}{t t1 t2:Tr}{s s1 s2:Mm}(h1:Rc i t s t1 s1)(h2:Rc j t1 s1 t2 s2):Rc (i+j) t s t2 s2:=by
 induction h2 with
 | refl t s=>exact h1
 | jP _ hs ih=>exact .jP (ih h1) hs
 | loud _ hs ih=>exact .loud (ih h1) hs
def Sz(x:XS)(B:Nat):Prop:=x.L.length<=B/\x.cs.length<=B/\x.gen<=B
theorem Bw{T R R':Tr}{x x':XS}{dn:Bool}{rs:Rs}{j N B:Nat}(h:iw T x dn rs R)(hd:dn=false)(hT:bY T N 64)(hN:x.got.length+1<=N)(hr:Rc j R x.mm R' x'.mm)(hj:j<=1)(hs:Sz x B):Sz x' (B+128):=by
 rcases h.R7 with⟨e,_⟩|⟨_,e⟩
 ·rw[hd] at e;cases e
 ·obtain⟨c,h1,_,_⟩:=h.wk.rR (Nat.le_refl 64) hT (by omega)
  obtain⟨c',h2,h3,h4,h5,h6,h7⟩:=hr.rR (Nat.le_refl 64) (Hg e h1 (by omega)) (by omega)
  obtain⟨s1,s2,s3⟩:=hs
  simp only[XS.mm,List.length_map] at h5 h6 h7
  exact⟨by omega,by omega,by omega⟩
theorem Ev{T R':Tr}{x x':XS}{j N B:Nat}(hT:bY T N 64)(hr:Rc j T x.mm R' x'.mm)(hj:j<=0)(hs:Sz x B):Sz x' (B+64):=by
 obtain⟨c',h2,h3,h4,h5,h6,h7⟩:=hr.rR (Nat.le_refl 64) hT (by omega)
 obtain⟨s1,s2,s3⟩:=hs
 simp only[XS.mm,List.length_map] at h5 h6 h7
 exact⟨by omega,by omega,by omega⟩
end
end Go.Ct
namespace Go.Proofs.YtbajmaoegmbfgaaGreat
section
open Go Go.RowKit Go.Ct
noncomputable def T0 (k:Cl) (m:Nat):Tr:=kZ k (mR k.key m) 1073741824
theorem mN(k:Cl)(m:Nat){n:Nat}(h:n<1073741824):bY (T0 k m) n 64:=Jq h
def xE(k:Cl)(bm b:Nat)(x:XS)(dn:Bool)(rs:Rs):List (Nat×Obj):=if dn=true then [] else [(b,xO k bm x false rs)]
def xE4(x:XS)(dn:Bool):List Ow:=if dn=true then [] else [⟨x.pg,aG x.got,x.kg,37,1⟩,⟨x.pm,aG x.made,x.km,37,1⟩,⟨x.pl,aG x.cel,x.kl,27,1⟩,⟨x.pe,aG x.gns,x.ke,3,1⟩]
structure RY where
 i:Nat
 x:XS
 N:List aX
 dn:Bool
 rs:Rs
 R:Tr
structure L5(k:Cl)(m:Nat)(x0:XS)(B:Nat)(y:RY):Prop where
 ex:iw (T0 k m) y.x y.dn y.rs y.R
 rc:∃j,Rc j (T0 k m) x0.mm y.R y.x.mm
 ext:y.x.L=x0.L++y.N
 lc:x0.cs.length<=y.x.cs.length
 gl:y.x.got.length<=y.i
 sz:Sz y.x (B+64+128*y.i)
theorem L5.nk{k:Cl}{m N:Nat}{x0 x':XS}{B:Nat}{N':List aX}{dn:Bool}{rs:Rs}(hN:N<1073741824)(h:vX (T0 k m) (T0 k m) 0 0 Rs.zero x0 x' N' dn rs)(hs:Sz x0 B):∃R,L5 k m x0 B ⟨0,x',N',dn,rs,R⟩:=by
 obtain⟨R',j,h1,h2,h3,h4,h5,h6⟩:=h.exI
 exact⟨R',h3,⟨j,h4⟩,h5,h6,by have:=h.gl;show x'.got.length<=0;omega,Ev (mN k m hN) h4 h1 hs⟩
theorem L5.step{k:Cl}{m:Nat}{x0 x':XS}{B:Nat}{y:RY}{N':List aX}{dn:Bool}{rs:Rs}(hi:L5 k m x0 B y)(hd:y.dn=false)(hB:y.i<1073741822)(h:vX (T0 k m) y.R 1 (y.x.got.length+1) y.rs y.x x' N' dn rs):∃R,L5 k m x0 B ⟨y.i+1,x',y.N++N',dn,rs,R⟩:=by
 obtain⟨R',j,h1,h2,h3,h4,h5,h6⟩:=h.exI
 obtain⟨j0,hj0⟩:=hi.rc
 have hg:=hi.gl
 refine⟨R',h3,⟨j0+j,hj0.trans h4⟩,by show x'.L=_;rw[h5,hi.ext,List.append_assoc],Nat.le_trans hi.lc h6,by have:=h.gl;show x'.got.length<=y.i+1;omega,?_⟩
 have:=Bw hi.ex hd (mN k m (n:=y.x.got.length+1) (by omega)) (Nat.le_refl _) h4 h1 hi.sz
 rw[show B+64+128*(y.i+1)=B+64+128*y.i+128 by omega]
 exact this
section
variable{k:Cl}{bw bm m B:Nat}{L:List aX}{cs:List Int}{gen acc:Int}{pn pc:Option Addr}{cn cc:Nat}{D:List Nat}{A:Fr}{w:World}{mask:Int}{ts:List gY}{es:List Nat}{pt pe:Option Addr}{kt ke:Nat}
theorem M5(hsz:L.length<=137438953472/\cs.length<=137438953472/\gen<=137438953472)(hk:Xo k)(hm:m<18446744073709551616)(em:k.mask=(m:Int))(ht:k.t.root<=9223372036854775807)(ha:k.a<=L.length)(hb:k.b<=L.length)(hnn:k.n<=L.length)(hA:∀f∈aR L,f∈A)(ok:(XS.new L cs gen acc pn cn pc cc).Ok)(hs:SF w D [(bm,mO L cs gen acc pn cn pc cc)] A [] [⟨pn,iO L,cn,47,14⟩,⟨pc,aG cs,cc,37,1⟩] w):Calls Tryz.prog 49 #[.pointer (some ⟨bm,0,none⟩),.agg ⟨Pt k⟩] w λ e w'=>∃q:Nat×XS×List aX×Bool×Rs,e=.returned (.pointer (some ⟨q.1,0,none⟩))/\vX (T0 k m) (T0 k m) 0 0 Rs.zero (XS.new L cs gen acc pn cn pc cc) q.2.1 q.2.2.1 q.2.2.2.1 q.2.2.2.2/\SF w D ([(bm,xM q.2.1)]++[(q.1,xO k bm q.2.1 q.2.2.2.1 q.2.2.2.2)]) [] (aR q.2.2.1) ([⟨q.2.1.pn,iO q.2.1.L,q.2.1.cn,47,14⟩,⟨q.2.1.pc,aG q.2.1.cs,q.2.1.cc,37,1⟩]++[⟨q.2.1.pg,aG q.2.1.got,q.2.1.kg,37,1⟩,⟨q.2.1.pm,aG q.2.1.made,q.2.1.km,37,1⟩,⟨q.2.1.pl,aG q.2.1.cel,q.2.1.kl,27,1⟩,⟨q.2.1.pe,aG q.2.1.gns,q.2.1.ke,3,1⟩]) w' :=
 (o9 (N:=0) (n:=1073741824) (m:=m) (mN k m (by decide)) (by decide) hsz hk (Nat.le_refl _) hm em ht ha hb hnn hA ok hs).mono λ _ _ ⟨q,e,h,hw⟩=>⟨q,e,h,hw.perm (List.Perm.swap _ _ _) (List.perm_append_comm (l₁:=[_,_]) (l₂:=[_,_,_,_]))⟩
set_option maxHeartbeats 1000000 in
theorem tv(steps:Nat)(hst:steps<=1048576)(hB:B<=100000000000)(hsz:Sz (XS.new L cs gen acc pn cn pc cc) B)(hk:Xo k)(hm:m<18446744073709551616)(em:k.mask=(m:Int))(ht:k.t.root<=9223372036854775807)(ha:k.a=0)(hb:k.b=0)(hnn:k.n=0)(hA:∀f∈aR L,f∈A)(ok:(XS.new L cs gen acc pn cn pc cc).Ok)(hts:ts.length<=1000)(hes:es.length<=1000)
  (hs:SF w D [(bw,oH bm mask pt ts.length kt pe es.length ke),(bm,mO L cs gen acc pn cn pc cc)] A [] [⟨pt,sF ts,kt,29,2⟩,⟨pe,Aj es,ke,74,1⟩,⟨pn,iO L,cn,47,14⟩,⟨pc,aG cs,cc,37,1⟩] w) :
  Calls Tryz.prog 67 #[.pointer (some ⟨bw,0,none⟩),.agg ⟨Pt k⟩,.int .i64 (steps:Int)] w λ e w'=>∃q:Nat×RY×KQ,e=.returned (.tuple #[])/\(L5 k m (XS.new L cs gen acc pn cn pc cc) B q.2.1/\q.2.1.i<=steps/\Qq q.2.1.dn q.2.1.rs q.1 ts es q.2.2) /\
   SF w D (xE k bm q.1 q.2.1.x q.2.1.dn q.2.1.rs++[(bw,oH bm mask q.2.2.pt q.2.2.ts.length q.2.2.kt q.2.2.pe q.2.2.es.length q.2.2.ke),(bm,xM q.2.1.x)]) [] (aR q.2.1.N) (xE4 q.2.1.x q.2.1.dn++[⟨q.2.2.pt,sF q.2.2.ts,q.2.2.kt,29,2⟩,⟨q.2.2.pe,Aj q.2.2.es,q.2.2.ke,74,1⟩,⟨q.2.1.x.pn,iO q.2.1.x.L,q.2.1.x.cn,47,14⟩,⟨q.2.1.x.pc,aG q.2.1.x.cs,q.2.1.x.cc,37,1⟩]) w':=by
 have hL:(0:Int)<=L.length:=bM _
 have hsz2:=hsz
 obtain⟨s1,s2,s3⟩:=hsz2
 simp only[XS.new] at s1 s2 s3
 refine enter Tryz.func67 Tryz.ntmps67 rfl rfl hs ?_
 simp only[cN]
 all_goals (refine J0 ?_;refine bW (λ x4=>?_);refine Hs ?_;refine fL [0,1,2,3,4,5,6] ?_;refine Yj ?_;refine bR ?_;refine bA (i:=5) (hq:=(vy (hs:=[(bm,mO L cs gen acc pn cn pc cc)]) (os:=[⟨pn,iO L,cn,47,14⟩,⟨pc,aG cs,cc,37,1⟩]) (A0:=aR L) (hA:=bB.of λ f hf=>.inr (.inl (hA f hf))) (hc:=λ w hs=>M5 (m:=m) ⟨by omega,by omega,by omega⟩ hk hm em ht (by omega) (by omega) (by omega) (λ f hf=>hf) ok hs))) (h:=λ x13 h13=>?_);refine J7 ?_;refine aW ?_;refine Hu ?_)
 all_goals
 obtain⟨R0,hR0⟩:=L5.nk (B:=B) (N:=0) (by decide) h13 hsz
 refine oR [7,14,15,16,17,18,19,20,21,22,23,24,25] (λ y:RY=>[(7,.int .i64 ((y.i:Nat):Int))]) (λ y=>L5 k m (XS.new L cs gen acc pn cn pc cc) B y/\y.i<=steps) (λ y=>[(x13.1,xO k bm y.x y.dn y.rs),(x4,.cells ⟨Pt k⟩ 89 (0,0)),(bw,oH bm mask pt ts.length kt pe es.length ke),(bm,xM y.x)]) (λ y=>aR y.N) (λ y=>[⟨y.x.pg,aG y.x.got,y.x.kg,37,1⟩,⟨y.x.pm,aG y.x.made,y.x.km,37,1⟩,⟨y.x.pl,aG y.x.cel,y.x.kl,27,1⟩,⟨y.x.pe,aG y.x.gns,y.x.ke,3,1⟩,⟨pt,sF ts,kt,29,2⟩,⟨pe,Aj es,ke,74,1⟩,⟨y.x.pn,iO y.x.L,y.x.cn,47,14⟩,⟨y.x.pc,aG y.x.cs,y.x.cc,37,1⟩]) (λ y=>steps-y.i) (⟨0,x13.2.1,x13.2.2.1,x13.2.2.2.1,x13.2.2.2.2,R0⟩) (⟨hR0,Nat.zero_le _⟩) (λ y f hx=>?_) (hw0:=λ w hw=>by rw[List.append_nil] at hw;exact hw.back (hF:=by exact aV.all))
 dsimp only[iL,List.map,List.cons_append,List.nil_append]
 obtain⟨hi,his⟩:=hx
 have hsx:=hi.sz
 obtain⟨z1,z2,z3⟩:=hsx
 have hgl:=hi.gl
 all_goals (refine lW ?_;refine aC (cM (hs:=xH k x13.1 bm y.x y.dn y.rs) (os:=xW y.x) (hc:=λ w hs=>Fu hs)) (λ x15 h15=>?_);refine Hp ?_)
 all_goals ((refine fS 17 (λ g17=>?_) (λ g17=>?_)<;>(first|refine aN ?_|(refine aF ?_;refine aA ?_))))
 all_goals ((first|refine aN ?_|(refine aF ?_;refine aA ?_));refine pu ?_;refine aH ?_)
 all_goals
  refine bG (λ c21=>?_) (λ c21=>?_)
  ·try exact nv c21
   all_goals (refine qD ?_;refine zK ?_;refine aC (cM (hs:=xH k x13.1 bm y.x y.dn y.rs) (os:=xW y.x) (A0:=aR y.x.L) (hA:=bB.of λ f hf=>by rw[hi.ext,eI] at hf;rcases List.mem_append.1 hf with hf|hf;exact .inr (.inl (hA f hf));exact .inr (.inr (.inl hf))) (hc:=λ w hs=>Q7 (N:=y.x.got.length+1) (n:=1073741824) (m:=m) (mN k m (by omega)) (by omega) rfl ⟨by omega,by omega,by omega⟩ hi.ex hk (Nat.le_refl _) hm em ht (by rw[ha];exact bM _) (by rw[hb];exact bM _) (by rw[hnn];exact bM _) (λ f hf=>hf) hs)) (λ x25 h25=>?_);refine aH ?_;refine fT ?_;refine zL ?_)
   all_goals
   have hdf:y.dn=false:=by simp_all
   have hq:vX (T0 k m) y.R 1 (y.x.got.length+1) y.rs y.x x25.1 x25.2.1 x25.2.2.1 x25.2.2.2:=by rcases h25 with h|h;rw[hdf] at h;cases h.1;exact h.2
   obtain⟨R1,hR1⟩:=hi.step hdf (by omega) hq
   refine jJ (⟨y.i+1,x25.1,y.N++x25.2.1,x25.2.2.1,x25.2.2.2,R1⟩) ?_ (hw1:=λ w hw=>hw.back (hF:=by rw[eI];exact aV.gG λ f hf=>(List.mem_append.1 hf).elim (λ h=>List.mem_append_right _ h) (λ h=>List.mem_append_left _ h)))
   ·exact⟨hR1,by show y.i+1<=steps;omega⟩
  ·all_goals (refine bV rfl ?_;refine Ic ?_;refine aC (cM (hs:=[(bw,oH bm mask pt ts.length kt pe es.length ke),(x13.1,xO k bm y.x y.dn y.rs),(bm,xM y.x)]) (os:=[⟨pt,sF ts,kt,29,2⟩,⟨pe,Aj es,ke,74,1⟩,⟨y.x.pg,aG y.x.got,y.x.kg,37,1⟩,⟨y.x.pm,aG y.x.made,y.x.km,37,1⟩,⟨y.x.pl,aG y.x.cel,y.x.kl,27,1⟩,⟨y.x.pe,aG y.x.gns,y.x.ke,3,1⟩,⟨y.x.pn,iO y.x.L,y.x.cn,47,14⟩,⟨y.x.pc,aG y.x.cs,y.x.cc,37,1⟩]) (hc:=λ w hs=>jx hts hes hs)) (λ x28 h28=>?_);refine aH ?_)
   all_goals
   refine Di Tryz.results67 (λ w hw=>?_)
   rcases y with⟨i,x,N,dn,rs,R⟩
   cases dn with
   | true=>exact⟨(x13.1,⟨i,x,N,true,rs,R⟩,x28),rfl,⟨hi,his,h28⟩,hw.aS (hF:=by exact aV.all)⟩
   | false=>exact⟨(x13.1,⟨i,x,N,false,rs,R⟩,x28),rfl,⟨hi,his,h28⟩,hw.aS (hF:=by exact aV.all)⟩
end
end

end Go.Proofs.YtbajmaoegmbfgaaGreat

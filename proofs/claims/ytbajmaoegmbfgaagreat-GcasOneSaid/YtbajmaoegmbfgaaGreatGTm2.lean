/- Merged. -/
import Derived.Test.YtbajmaoegmbfgaaGreatGEx23
import Derived.Test.YtbajmaoegmbfgaaGreatGBr2
import Derived.Test.YtbajmaoegmbfgaaGreatGJoin
set_option linter.unusedSimpArgs false
set_option linter.unusedVariables false
namespace Go.Proofs.YtbajmaoegmbfgaaGreat
open Go Go.RowKit Go.Ct
section
section
variable{n c:Nat}
theorem fV{a:Nv}{i:Int}{k:Int->Tr}(hc:1<=c)(h:∀v,bW (k v) n (c-1)):bW (.alloc a i k) n c:=by
 obtain⟨c,rfl⟩:∃d,c=d+1:=⟨c-1,by omega⟩
 exact M6 h
theorem B3{a i r:Int}{K:Int->Tr}(hc:1<=c)(h:∀v,bW (K v) n (c-1)):bW (Ht a i r K) n c:=cQ λ _=>fV hc h
theorem Tk{t:dU}{i o x:Int}{K:Int->Tr}(h:I9 K n):bW (Mu t i o x K) n c:=cQ λ _=>iB λ n1 h1 _=>cQ λ _=>fV (by decide) λ _=>B3 (by decide) λ _=>kK λ n2 h2 _=>h n2 (by omega) _
theorem zI{t:dU}{p o:Int}{h0:Nat}{l:Int}{K:Bool->Tr}(h:I9 K n):bW (zQ t p o h0 l K) n c:=iB λ n1 h1 _=>cQ λ _=>by
 split
 ·exact iB λ n2 h2 _=>cQ λ _=>by
   split
   ·exact fV (by decide) λ _=>cQ λ _=>fV (by decide) λ _=>kK λ n3 h3 _=>h n3 (by omega) _
   ·exact h n2 (by omega) _
 ·exact h n1 h1 _
theorem Kq{t:dU}{h0:Nat}{key:ByteArray}{K:Rs->Tr}:∀(q n c:Nat) (i level:Int),n<q->I9 K n->bW (Dm t h0 key K q i level) n c
 | 0,n,c,i,level,hq,_=>absurd hq (Nat.not_lt_zero n)
 | q+1,n,c,i,level,hq,h=>iB λ n1 h1 _=>cQ λ _=>by
  split
  ·split<;>exact h n1 h1 _
  ·split
   ·exact h n1 h1 _
   ·split
    ·exact h n1 h1 _
    ·exact cQ λ _=>by
      split
      ·split<;>exact h n1 h1 _
      ·exact Kq q n1 64 _ _ (by omega) (h.lt (by omega))
theorem O9:∀(l:List NI) (r:Int) (K:Int->Tr) (n c:Nat),l.length<=c->(∀v,bW (K v) n (c-l.length))->bW (Ad l r K) n c
 | [],r,K,n,c,_,h=>h r
 | a::l,r,K,n,c,hc,h=>by
  have hc':l.length+1<=c:=by simpa using hc
  exact fV (by omega) λ v=>O9 l v K n (c-1) (by omega) (λ u=>by have:=h u;rw[List.length_cons] at this;rwa [show c-1-l.length=c-(l.length+1) by omega])
theorem Y0{k:Cl}{b:Int}{h0 level:Nat}{gen:Int}{K:Int->Tr}(hc:32<=c)(h:∀v,bW (K v) n (c-32)):bW (Wa k b h0 level gen K) n c:=cQ λ nb=>fV (by omega) λ f=>by
 have hl:(dP b nb.hash.toNat h0 (nb.key,nb.val) k.key k.val gen f.toNat level).tail.length<=31:=by
  have h1:=R3 (x:=b) (h0:=nb.hash.toNat) (h:=h0) (p0:=(nb.key,nb.val)) (k:=k.key) (u:=k.val) (gen:=gen) (f:=f.toNat) (lN nb.hash.toNat h0-level) (lN nb.hash.toNat h0-(lN nb.hash.toNat h0-level))
  have h2:=zG nb.hash.toNat h0
  rw[List.length_tail]
  unfold dP
  omega
 exact O9 _ _ _ _ _ (by omega) λ v=>aAu (by omega) (h v)
theorem Nf{k:Cl}{i m:Int}{h0 level:Nat}{gen:Int}{K:Rs->Int->Tr}(h:∀n',n'<=n->∀r w,bW (K r w) n' 64):bW (mG k i m h0 level gen K) n 64:=cQ λ nb=>by
 split
 ·split
  ·exact fV (by decide) λ _=>kK λ n1 h1 _=>h n1 (by omega) _ _
  ·exact h n (Nat.le_refl n) _ _
 ·split
  ·split
   ·exact fV (by decide) λ _=>fV (by decide) λ _=>kK λ n1 h1 _=>h n1 (by omega) _ _
   ·exact h n (Nat.le_refl n) _ _
  ·refine cQ λ _=>?_
   split
   ·exact h n (Nat.le_refl n) _ _
   ·split
    ·split
     ·exact fV (by decide) λ _=>B3 (by decide) λ _=>kK λ n1 h1 _=>h n1 (by omega) _ _
     ·exact h n (Nat.le_refl n) _ _
    ·split
     ·exact Y0 (by decide) λ _=>fV (by decide) λ _=>B3 (by decide) λ _=>kK λ n1 h1 _=>h n1 (by omega) _ _
     ·exact h n (Nat.le_refl n) _ _
theorem Hw{k:Cl}{i m x gen:Int}{K:Int->Tr}(h:∀n',n'<=n->∀v,bW (K v) n' 64):bW (Gz k i m x gen K) n 64:=cQ λ _=>cQ λ _=>by
 split
 ·exact h n (Nat.le_refl n) _
 ·exact Tk λ n1 h1 _=>h n1 (by omega) _
theorem He{k:Cl}{h0:Nat}{K:Rs->Tr}{again:Tr}{gen:Int}:∀(q n c:Nat) (i parent:Int) (level:Nat),n<q->I9 K n->(∀n',n'<n->bW again n' 64)->bW (Dk k h0 K again gen q i parent level) n c
 | 0,n,c,i,p,level,hq,_,_=>absurd hq (Nat.not_lt_zero n)
 | q+1,n,c,i,p,level,hq,h,ha=>iB λ n1 h1 _=>cQ λ _=>by
  split
  ·exact zI λ n2 h2 _=>ha n2 (by omega)
  ·refine Nf λ n2 h2 r w=>?_
   split
   ·exact h n2 (by omega) _
   ·split
    ·exact ha n2 (by omega)
    ·refine Hw λ n3 h3 v=>?_
     split
     ·exact ha n3 (by omega)
     ·exact He q n3 64 _ _ _ (by omega) (h.lt (by omega)) (λ n4 h4=>ha n4 (by omega))
theorem Qi{k:Cl}{h0:Nat}{K:Rs->Tr}:∀(q n c:Nat),n<q->I9 K n->bW (A6 k h0 K q) n c
 | 0,n,c,hq,_=>absurd hq (Nat.not_lt_zero n)
 | q+1,n,c,hq,h=>pP λ n1 h1 _=>cQ λ _=>He q n1 64 _ _ _ (by omega) (h.lt (by omega)) (λ n2 h2=>Qi q n2 64 (by omega) (h.lt (by omega)))
theorem Ji{k:Cl}{i m:Int}{h0 level:Nat}{K:Rs->Int->Tr}(h:∀n',n'<=n->∀r w,bW (K r w) n' 64):bW (kL k i m h0 level K) n 64:=cQ λ nb=>by
 split
 ·split
  ·exact h n (Nat.le_refl n) _ _
  ·exact fV (by decide) λ _=>kK λ n1 h1 _=>h n1 (by omega) _ _
 ·split
  ·exact h n (Nat.le_refl n) _ _
  ·refine cQ λ _=>?_
   split
   ·exact h n (Nat.le_refl n) _ _
   ·split
    ·exact h n (Nat.le_refl n) _ _
    ·split
     ·exact h n (Nat.le_refl n) _ _
     ·exact cQ λ _=>fV (by decide) λ _=>kK λ n1 h1 _=>h n1 (by omega) _ _
theorem Wu{t:dU}{path:List Int}{h0:Nat}{K:Tr}:∀(l n:Nat),(∀n',n'<=n->bW K n' 64)->bW (w8 t path h0 K l) n 64
 | 0,n,h=>h n (Nat.le_refl n)
 | l+1,n,h=>iB λ n1 h1 _=>cQ λ _=>by
  split
  ·exact zI λ n2 h2 _=>Wu l n2 (λ n3 h3=>h n3 (by omega))
  ·exact h n1 (by omega)
theorem C9{k:Cl}{h0:Nat}{K:Rs->Tr}{again:Tr}{gen:Int}:∀(q n c:Nat) (i:Int) (path:List Int) (level:Nat),n<q->I9 K n->(∀n',n'<n->bW again n' 64)->bW (vU k h0 K again gen q i path level) n c
 | 0,n,c,i,p,level,hq,_,_=>absurd hq (Nat.not_lt_zero n)
 | q+1,n,c,i,p,level,hq,h,ha=>iB λ n1 h1 _=>cQ λ _=>by
  split
  ·exact zI λ n2 h2 _=>ha n2 (by omega)
  ·refine Ji λ n2 h2 r w=>?_
   split
   ·split
    ·exact Wu _ _ λ n3 h3=>h n3 (by omega) _
    ·exact h n2 (by omega) _
   ·split
    ·exact ha n2 (by omega)
    ·refine Hw λ n3 h3 v=>?_
     split
     ·exact ha n3 (by omega)
     ·exact C9 q n3 64 _ _ _ (by omega) (h.lt (by omega)) (λ n4 h4=>ha n4 (by omega))
theorem Kp{k:Cl}{h0:Nat}{K:Rs->Tr}:∀(q n c:Nat),n<q->I9 K n->bW (rG k h0 K q) n c
 | 0,n,c,hq,_=>absurd hq (Nat.not_lt_zero n)
 | q+1,n,c,hq,h=>pP λ n1 h1 _=>cQ λ _=>C9 q n1 64 _ _ _ (by omega) (h.lt (by omega)) (λ n2 h2=>Kp q n2 64 (by omega) (h.lt (by omega)))
theorem Nm{i:Int}{k:Int->Tr}(hc:1<=c)(h:∀v,bW (k v) n (c-1)):bW (.cell i k) n c:=by
 obtain⟨c,rfl⟩:∃d,c=d+1:=⟨c-1,by omega⟩
 exact aAk h
theorem R6{k:Int->Tr}(hc:1<=c)(h:∀v,bW (k v) n (c-1)):bW (.gen k) n c:=by
 obtain⟨c,rfl⟩:∃d,c=d+1:=⟨c-1,by omega⟩
 exact aCp h
theorem kQ{r:Rs}:bW (.done r) n c:=by simp[bW]
theorem K5{m:Int}:bW (Kd m .done) n 64:=R6 (by decide) λ _=>fV (by decide) λ _=>Nm (by decide) λ _=>kQ
theorem Jq{t:dU}{fz:Bool}:∀(q n c:Nat),n<q->bW (Gm t fz .done q) n c
 | 0,n,c,hq=>absurd hq (Nat.not_lt_zero n)
 | q+1,n,c,hq=>pP λ n1 h1 _=>iB λ n2 h2 _=>R6 (by decide) λ _=>fV (by decide) λ _=>zX (λ n3 h3 b=>by
  split
  ·split
   ·exact Nm (by decide) λ _=>kQ
   ·exact K5
  ·exact Jq q n3 64 (by omega)) (by decide)
theorem E9{t:dU}{fz:Bool}{q:Nat}(h:n<q):bW (tT t fz .done q) n c:=by
 unfold tT
 split
 ·exact pV λ n1 h1 _=>by
   split
   ·exact Nm (by decide) λ _=>kQ
   ·exact iB λ n2 h2 _=>K5
 ·exact Jq q n c h
theorem Hp{t:dU}:∀(q n c:Nat),n<q->bW (vX t .done q) n c
 | 0,n,c,hq=>absurd hq (Nat.not_lt_zero n)
 | q+1,n,c,hq=>pP λ n1 h1 _=>iB λ n2 h2 _=>fV (by decide) λ _=>R6 (by decide) λ _=>fV (by decide) λ _=>zX (λ n3 h3 b=>by
  split
  ·exact kQ
  ·exact Hp q n3 64 (by omega)) (by decide)
theorem La{k:Cl}{h0 q:Nat}(h:n<q):bW (lG k h0 q) n 64:=by
 have hd:∀{X:Type} {K:X->Rs},I9 (λ v=>Tr.done (K v)) n:=λ _ _ _=>kQ
 unfold lG
 split
 ·exact kQ
 split
 ·exact iB hd
 split
 ·exact kK hd
 split
 ·exact pP hd
 split
 ·exact zX hd (by decide)
 split
 ·exact pP λ n1 h1 _=>Kq q n1 64 _ _ (by omega) (λ _ _ _=>kQ)
 split
 ·exact Qi q n 64 h (λ _ _ _=>kQ)
 split
 ·exact Kp q n 64 h (λ _ _ _=>kQ)
 split
 ·exact E9 h
 split
 ·exact E9 h
 ·exact Hp q n 64 h
end
end
end Go.Proofs.YtbajmaoegmbfgaaGreat
namespace Go.Ct
open Go Go.RowKit
section
section
variable{P:Program}{S:List (Nat×Value)}{d:Nat}{ty t t' e:TypeId}{pos:String}{af:Array Edge}{gd:Option (Nat×Bool)}{x y:Operand}{w0 w:World}{M:List Nat}{H:List (Nat×Obj)}{A F:Fr}{O:List Ow}{a:Option Addr}
theorem jd{cs:List Value}{kk:IntKind}{m c k:Nat}(hx:ev S x=.slice a m c)(hy:ev S y=.int kk ((k:Nat):Int))(ht:P.underlying t=some (.slice e))(hs:one P e=true)(hf:pY A F O a cs)(h1:k<m)(h2:k<cs.length) :
  aM P S (SF w0 M H A F O) ⟨some d,.indexAddr t x y,ty,pos,af,gd⟩ (.pointer (some ⟨cO a,eF a+k,none⟩)):=⟨λ w hw =>
 (A1 (G:=SF w0 M H A F O) hx hy ht hs ((hw.cl hf).ptr (by omega)) h1).run w hw⟩
theorem aw{cs:List Value}{q:Nat}{v:Value}(hx:ev S x=.pointer (some ⟨cO a,eF a+q,none⟩))(ht:one P t=true)(hf:pY A F O a cs)(hq:cs[q]?=some v) :
  aM P S (SF w0 M H A F O) ⟨some d,.load t x,ty,pos,af,gd⟩ v:=nX hx ht (λ w hw=>hw.cl hf) hq
theorem N7{cs:List Value}{kk:IntKind}{m c k:Nat}(hx:ev S x=.slice a m c)(hy:ev S y=.int kk ((k:Nat):Int))(ht:P.underlying t=some (.slice e))(hs:jR P e 2=true)(hf:pY A F O a cs)(h1:k<m)(h2:2*k<cs.length) :
  aM P S (SF w0 M H A F O) ⟨some d,.indexAddr t x y,ty,pos,af,gd⟩ (.pointer (some ⟨cO a,eF a+2*k,none⟩)):=⟨λ w hw =>
 (Pk (G:=SF w0 M H A F O) hx hy ht hs ((hw.cl hf).ptr (by omega)) h1).run w hw⟩
end
end
end Go.Ct
namespace Go.Proofs.YtbajmaoegmbfgaaGreat
open Go.Proofs.Tryz (prog)
open Go Go.RowKit Go.Ct
section
def rT(ts:List dU):List Value:=ts.flatMap λ t=>[.int .i64 t.root,.bool t.ro]
def wX(es:List Nat):List Value:=es.map λ b=>.pointer (some ⟨b,0,none⟩)
theorem lQ:∀ts:List dU,(rT ts).length=ts.length*2
 | []=>rfl
 | t::ts=>by
  have:=lQ ts
  simp only[rT,List.flatMap_cons,List.length_append,List.length_cons,List.length_nil] at this ⊢
  omega
theorem ei(ts:List dU)(t:dU):rT (ts++[t])=rT ts++[.int .i64 t.root,.bool t.ro]:=by simp[rT]
theorem di(es:List Nat)(b:Nat):wX (es++[b])=wX es++[.pointer (some ⟨b,0,none⟩)]:=by simp[wX]
theorem zV(es:List Nat):(wX es).length=es.length:=by simp[wX]
theorem Fm:dW prog 32 29 [.int .i64 0,.bool false]:=mL (z:=.agg ⟨[.int .i64 0,.bool false]⟩) (by kernel_rfl) (by kernel_rfl) rfl
theorem Oe:dW prog 33 74 [.pointer none]:=mL (z:=.pointer none) (by kernel_rfl) (by kernel_rfl) rfl
theorem qj:dW prog 169 31 [.int .u64 0]:=mL (z:=.int .u64 0) (by kernel_rfl) (by kernel_rfl) rfl
abbrev lB(bm:Nat)(mask:Int)(pt:Option Addr)(nt kt:Nat)(pe:Option Addr)(ne ke:Nat):Obj:=.cells ⟨[.pointer (some ⟨bm,0,none⟩),.int .u64 mask,.slice pt nt kt,.slice pe ne ke]⟩ 35 (0,0)
def Ax:List Int:=[18446744073709551615,0,1,64,63,4095,9223372036854775808,4032,3458764513820540928,18446744073709551615]
theorem aAH{l:List Int}{a:Option Addr}{b c k:Nat}{w:World}(ht:tw w b a l c k) :
  Calls prog 65 #[.pointer (some ⟨b,0,none⟩)] w λ e w' =>
  ∃v:Nat,e=.returned (.int .u64 (Ax.getD v 0))/\v<10/\SF w [b] ((b,E3 a l c (lA l k))::[]) [] [] [] w':=by
 refine enter Tryz.func65 Tryz.ntmps65 rfl rfl ht.start ?_
 simp only[cG]
 refine dA ?_;refine J0 ?_;refine aP ((by exact I8 (λ _=>cN (cs:=Ax.map (Value.int .u64)) qj Jh rfl rfl rfl rfl rfl))) (λ x3=>?_);refine aB ?_;refine aE (vK (hc:=λ w1 hw=>eM 10 (hw.tape cS fin ht.len) (by decide) (by decide))) (λ x5 h5=>?_);refine aD (jd (cs:=Ax.map (Value.int .u64)) rf rf fZ fO fin (by omega) (by rw[List.length_map];simp only[Ax,List.length_cons,List.length_nil];omega)) rfl ?_;refine aD (aw (cs:=Ax.map (Value.int .u64)) (v:=.int .u64 (Ax.getD x5 0)) rf fO fin (by rw[List.getElem?_map,iU,List.getElem?_eq_getElem (by simp only[Ax,List.length_cons,List.length_nil];omega)];rfl)) rfl ?_;refine J1 ?_
 refine aT Tryz.results65 (λ w hw=>?_)
 exact⟨x5,rfl,by omega,hw.aY⟩
theorem yn{l:List Int}{a:Option Addr}{b c k:Nat}{w:World}(ht:tw w b a l c k) :
  Calls prog 53 #[.pointer (some ⟨b,0,none⟩)] w λ e w' =>
  ∃v:Bool,e=.returned (.bool v)/\True/\SF w [b] ((b,E3 a l c k)::[]) [] [] [] w':=by
 refine enter Tryz.func53 Tryz.ntmps53 rfl rfl ht.start ?_
 simp only[cG]
 refine E8 ?_;refine gZ [0,1,2,3,4,5,6,7,8,9,10] ?_;refine Es ?_;refine oE ?_;refine Di ?_;refine J7 ?_
 refine aT Tryz.results53 (λ w hw=>?_)
 exact⟨_,rfl,trivial,hw.aY⟩
end
section
structure KQ where
 ts:List dU
 es:List Nat
 pt:Option Addr
 kt:Nat
 pe:Option Addr
 ke:Nat
def Sv(dn:Bool)(rs:Rs)(bx:Nat)(ts:List dU)(es:List Nat)(q:KQ):Prop :=
 (dn=false/\q.es=es++[bx]/\q.ts=ts)∨(dn=true/\q.es=es/\(q.ts=ts∨(0<rs.root/\q.ts.length<=5/\q.ts=ts++[⟨rs.root,rs.ro⟩])))
section
variable{k:Cl}{bw bx bm:Nat}{x:XS}{dn:Bool}{rs:Rs}{D:List Nat}{A:Fr}{w:World}{mask:Int}{ts:List dU}{es:List Nat}{pt pe:Option Addr}{kt ke:Nat}
abbrev wL(ts:List dU)(es:List Nat)(pt:Option Addr)(kt:Nat)(pe:Option Addr)(ke:Nat):List Ow:=[⟨pt,rT ts,kt,29,2⟩,⟨pe,wX es,ke,74,1⟩]
theorem aB7(h:SF w D ((bw,lB bm mask pt ts.length kt pe es.length ke)::xH k bx bm x dn rs) A [] (wL ts es pt kt pe ke++xW x) w) :
  SF w D [(bw,.cells ⟨[.pointer (some ⟨bm,0,none⟩),.int .u64 mask,.slice pt ts.length kt,.slice pe es.length ke]⟩ 35 (0,0)),(bx,xO k bm x dn rs),(bm,xM x)] A [] [⟨pt,rT ts,kt,29,2⟩,⟨pe,wX es,ke,74,1⟩,⟨x.pg,aH x.got,x.kg,37,1⟩,⟨x.pm,aH x.made,x.km,37,1⟩,⟨x.pl,aH x.cel,x.kl,27,1⟩,⟨x.pe,aH x.gns,x.ke,3,1⟩,⟨x.pn,iI x.L,x.cn,47,14⟩,⟨x.pc,aH x.cs,x.cc,37,1⟩] w:=h
theorem z9(hts:ts.length<=1000)(hes:es.length<=1000)(hs:SF w D ((bw,lB bm mask pt ts.length kt pe es.length ke)::xH k bx bm x dn rs) A [] (wL ts es pt kt pe ke++xW x) w):Calls prog 115 #[.pointer (some ⟨bw,0,none⟩),.pointer (some ⟨bx,0,none⟩)] w λ e w'=>∃q:KQ,e=.returned (.tuple #[])/\Sv dn rs bx ts es q/\SF w D ((bw,lB bm mask q.pt q.ts.length q.kt q.pe q.es.length q.ke)::xH k bx bm x dn rs) [] [] (wL q.ts q.es q.pt q.kt q.pe q.ke++xW x) w':=by
 refine enter Tryz.func115 Tryz.ntmps115 rfl rfl (aB7 hs) ?_
 simp only[cG]
 refine J2 ?_;refine aE (cM (hs:=xH k bx bm x dn rs) (os:=xW x) (hc:=λ w hs=>Rz hs)) (λ x6 h6=>?_);refine pE ?_
 refine bC (λ c7=>?_) (λ c7=>?_)
 ·refine Jb ?_;refine dI ?_;refine J3 ?_;refine aB ?_;refine aP ((by exact I8 (λ _=>cN (cs:=wX [bx]) Oe Jh rfl rfl rfl rfl rfl))) (λ x14=>?_);(refine aP (bG.eR (fY (sz:=1) (cs:=wX es) rf rf (.tail .head) (by rw[zV];omega) fin rfl rfl Oe rfl (by decide) fZ (by omega)) vM) (λ x15=>?_);try (refine eY (λ h15=>?_)));refine Nw ?_
  refine B6 Tryz.results115 (λ w hw=>?_)
  first
  | exact⟨⟨ts,es++[bx],pt,kt,x15.1,x15.2⟩,rfl,.inl ⟨by simpa using c7,rfl,rfl⟩,by dsimp only[wL];rw[di,show(es++[bx]).length=es.length+1 by simp];exact hw.aY⟩
  | exact⟨⟨ts,es,pt,kt,pe,ke⟩,rfl,.inr ⟨by simpa using c7,rfl,.inl rfl⟩,hw.aY⟩
 ·refine J2 ?_;refine aE (cM (hs:=xH k bx bm x dn rs) (os:=xW x) (hc:=λ w hs=>bg hs)) (λ x19 h19=>?_);refine aL (λ x4=>?_);refine J5 ?_;refine Kc5 ?_;refine J3 ?_;refine Dv ?_;refine aB ?_
  (refine eI 24 (λ g24=>?_) (λ g24=>?_)<;>refine Ka0 ?_)
  all_goals (refine Kb4 ?_;refine Ts ?_;refine wo ?_;refine aI ?_)
  all_goals
  refine bC (λ c31=>?_) (λ c31=>?_)
  ·try exact nv c31
   all_goals (refine eH [(0,[]),(1,[]),(2,[]),(3,[]),(4,[]),(5,[]),(6,[]),(7,[4]),(8,[]),(9,[]),(10,[]),(11,[])] ?_;refine Zg ?_;refine aW ?_;refine bU (i:=6) (hq:=(aU (k:=2) (vs:=[.int .i64 rs.root,.bool rs.ro]) rf cS eT rfl rfl)) (h:=?_);refine dC (i:=7) (hq:=((by exact I8 (λ _=>cN (cs:=rT [⟨rs.root,rs.ro⟩]) Fm Jh rfl rfl rfl rfl rfl)))) (h:=λ x39=>?_);((refine dC (i:=8) (hq:=(bG.eR (fY (sz:=2) (cs:=rT ts) rf rf .head (by rw[lQ]) fin rfl rfl Fm rfl (by decide) fZ (by omega)) vM)) (h:=λ x40=>?_);try (refine eK (λ h40=>?_))));refine J88 ?_)
   all_goals
    refine B6 Tryz.results115 (λ w hw=>?_)
    first
    | exact⟨⟨ts++[⟨rs.root,rs.ro⟩],es,x40.1,x40.2,pe,ke⟩,rfl,.inr ⟨by simpa using c7,rfl,.inr ⟨by omega,by show(ts++[(⟨rs.root,rs.ro⟩:dU)]).length<=5;simp;omega,rfl⟩⟩,by dsimp only[wL];rw[ei,show(ts++[(⟨rs.root,rs.ro⟩:dU)]).length=ts.length+1 by simp];exact hw.aY⟩
    | exact⟨⟨ts,es,pt,kt,pe,ke⟩,rfl,.inr ⟨by simpa using c7,rfl,.inl rfl⟩,hw.aY⟩
  ·all_goals refine aZ ?_
   all_goals
    refine B6 Tryz.results115 (λ w hw=>?_)
    first
    | exact⟨⟨ts,es,pt,kt,pe,ke⟩,rfl,.inr ⟨by simpa using c7,rfl,.inl rfl⟩,hw.aY⟩
theorem va(hts:ts.length<=1000)(hes:es.length<=1000)(hs:SF w D [(bw,lB bm mask pt ts.length kt pe es.length ke),(bx,xO k bm x dn rs),(bm,xM x)] A [] [⟨pt,rT ts,kt,29,2⟩,⟨pe,wX es,ke,74,1⟩,⟨x.pg,aH x.got,x.kg,37,1⟩,⟨x.pm,aH x.made,x.km,37,1⟩,⟨x.pl,aH x.cel,x.kl,27,1⟩,⟨x.pe,aH x.gns,x.ke,3,1⟩,⟨x.pn,iI x.L,x.cn,47,14⟩,⟨x.pc,aH x.cs,x.cc,37,1⟩] w):Calls prog 115 #[.pointer (some ⟨bw,0,none⟩),.pointer (some ⟨bx,0,none⟩)] w λ e w'=>∃q:KQ,e=.returned (.tuple #[])/\Sv dn rs bx ts es q/\SF w D [(bw,lB bm mask q.pt q.ts.length q.kt q.pe q.es.length q.ke),(bx,xO k bm x dn rs),(bm,xM x)] [] [] [⟨q.pt,rT q.ts,q.kt,29,2⟩,⟨q.pe,wX q.es,q.ke,74,1⟩,⟨x.pg,aH x.got,x.kg,37,1⟩,⟨x.pm,aH x.made,x.km,37,1⟩,⟨x.pl,aH x.cel,x.kl,27,1⟩,⟨x.pe,aH x.gns,x.ke,3,1⟩,⟨x.pn,iI x.L,x.cn,47,14⟩,⟨x.pc,aH x.cs,x.cc,37,1⟩] w':=z9 hts hes hs
end
end
section
def ku:Nd:={Nd.zero with kind:=3}
def y5(g:Int):Nd:={Nd.zero with kind:=2,gen:=g}
def L4(x y:AX):List aQ:=[fK,fK]++[mZ ku [] [] 0 x]++[mZ (y5 1) [] [] 1 y]
theorem lx{x y:AX}:∀f∈aN (L4 x y),f.2=[]:=by
 intro f hf
 simp[aN,L4,aQ.fr,fK,mZ,aH,cX] at hf
 rcases hf with hf|hf|hf|hf|hf|hf|hf|hf<;>rw[hf]
theorem Qe{w:World}{D:List Nat}{b:Nat}{acc:Int}{pn:Option Addr}{cn:Nat}{A:Fr}(hs:SF w D [(b,mO [fK,fK] [] 0 acc pn cn none 0)] A [] (mW [fK,fK] [] pn cn none 0) w) :
  Calls prog 66 #[.pointer (some ⟨b,0,none⟩)] w λ e w'=>∃q:AX×AX×Option Addr×Nat,e=.returned (.agg ⟨[.int .i64 3,.bool false]⟩)/\True /\
   SF w D [(b,mO (L4 q.1 q.2.1) [0,3,4] 1 acc q.2.1.pn q.2.1.cn q.2.2.1 q.2.2.2)] [] (aN (L4 q.1 q.2.1)) (mW (L4 q.1 q.2.1) [0,3,4] q.2.1.pn q.2.1.cn q.2.2.1 q.2.2.2) w':=by
 refine enter Tryz.func66 Tryz.ntmps66 rfl rfl (yZ hs) ?_
 simp only[cG]
 refine J0 ?_;refine aL (λ x2=>?_);refine aI ?_;refine J2 ?_;refine bO ?_;refine aE (cM (A0:=[(none,aH []),(none,cX [])]) (hc:=λ w hs=>H0 (L:=[fK,fK]) (cs:=[]) (n:=ku) (xs:=[]) (ys:=[]) 0 hs rfl rfl (by decide) (by decide) (by decide) (by decide))) (λ x7 h7=>?_);refine Ka4 ?_;refine aE (cM (hc:=λ w hs=>Ke (L:=[fK,fK]++[mZ ku [] [] 0 x7]) (cs:=[0]) hs)) (λ x9 h9=>?_);refine zZ ?_;refine aB ?_;refine bO ?_;refine aB ?_;refine aE (cM (A0:=[(none,aH []),(none,cX [])]) (hc:=λ w hs=>H0 (L:=[fK,fK]++[mZ ku [] [] 0 x7]) (cs:=[0]) (n:=y5 1) (xs:=[]) (ys:=[]) 3 hs rfl rfl (by decide) (by decide) (by simp) (by decide))) (λ x15 h15=>?_);refine aE (cM (hc:=λ w hs=>lU (L:=L4 x7 x15) (cs:=[0,3]) 4 hs (by decide))) (λ x16 h16=>?_);refine xF ?_
 refine bD Tryz.results66 (λ w hw=>?_)
 exact⟨(x7,x15,x16.1,x16.2),rfl,trivial,(hw.eX (λ f hf=>.inl (lx f hf))).v4⟩
end
section
section
variable{S:List (Nat×Value)}{w0 w:World}{M:List Nat}{H:List (Nat×Obj)}{A F:Fr}{O:List Ow}{ty:TypeId}{pos:String}{af:Array Edge}{gd:Option (Nat×Bool)}{X:Type}{V:X->Value}
theorem th{φ:X->Prop}{hs H':List (Nat×Obj)}{os O':List Ow}{hs' Hc H1:X->List (Nat×Obj)}{os' Oc O1:X->List Ow}{Fc F1:X->Fr}{A0:Fr}{is js:List Nat}{f:FuncId}{xs:List Operand}{at_:Array TypeId}{vs:List Value}{dst:Option Nat}
  (ha:rP S xs=vs:=by(repeat (first|exact dF _|(apply cL;focus ((conv=>{lhs;whnf});try exact rfl))));first|done|fail) (hp:plain prog f=true:=by kernel_rfl)
  (hc:∀w,SF w (Ks hs os) hs A0 [] os w->Calls prog f ⟨vs⟩ w λ e w'=>∃x,e=.returned (V x)/\φ x/\SF w (Ks hs os) (hs' x++Hc x) [] (Fc x) (os' x++Oc x) w')
  (hH:nZ H is hs H':=by(repeat (first|exact nZ.nil|(apply nZ.cons;(focus ((repeat (first|exact Bk.head|apply Bk.tail));done));simp only[sP])));first|done|fail)
  (hO:nZ O js os O':=by(repeat (first|exact nZ.nil|(apply nZ.cons;(focus ((repeat (first|exact Bk.head|apply Bk.tail));done));simp only[sP])));first|done|fail)
  (hA:bH A F O' A0:=by(repeat (first|exact bH.of (λ _ h=>Or.inr (Or.inl h))|exact bH.nil|(refine bH.cons (by first|exact Or.inl rfl|exact Or.inr (Or.inr (Or.inl (by simp)))|exact Or.inr (Or.inl (by simp))|exact Or.inr (Or.inr (Or.inr (by simp)))) ?_)));first|done|fail)
  (hl1:∀x,is.length=(hs' x).length:=by intro x;exact rfl) (hl2:∀x,js.length=(os' x).length:=by intro x;exact rfl)
  (hH1:∀x,Hc x++jX is (hs' x) H'=H1 x:=by intro x;first|(simp only[jX,tR,List.nil_append,List.cons_append];exact rfl)|exact rfl) (hF1:∀x,Fc x++F=F1 x:=by intro x;first|(simp only[List.nil_append,List.cons_append];exact rfl)|exact rfl) (hO1:∀x,Oc x++jX js (os' x) O'=O1 x:=by intro x;simp only[jX,tR,mW,List.nil_append,List.cons_append];exact rfl) :
  bG prog S (SF w0 M H A F O) ⟨dst,.call {callee:=.value (.func f),args:=⟨xs⟩,argTypes:=at_},ty,pos,af,gd⟩ X V (λ x w=>φ x/\SF w0 M (H1 x) A (F1 x) (O1 x) w) :=
 iQ (oM hp ha) λ w hw=>(hc w (hw.sV hH hO hA)).mono λ _ _ ⟨x,he,hx,hs⟩=>⟨x,he,hx,by
  have:=hw.Bc (hs':=hs' x) (Hc:=Hc x) (os':=os' x) (Oc:=Oc x) hH hO hs (hl1 x) (hl2 x)
  rw[<- hH1 x,<- hF1 x,<- hO1 x]
  exact this⟩
end
end
end Go.Proofs.YtbajmaoegmbfgaaGreat
namespace Go.Ct
open Go Go.RowKit
section
theorem Rc.trans{i j:Nat}{t t1 t2:Tr}{s s1 s2:Mm}(h1:Rc i t s t1 s1)(h2:Rc j t1 s1 t2 s2):Rc (i+j) t s t2 s2:=by
 induction h2 with
 | refl t s=>exact h1
 | gF _ hs ih=>exact .gF (ih h1) hs
 | loud _ hs ih=>exact .loud (ih h1) hs
def Sz(x:XS)(B:Nat):Prop:=x.L.length<=B/\x.cs.length<=B/\x.gen<=B
theorem Li{T R R':Tr}{x x':XS}{dn:Bool}{rs:Rs}{j N B:Nat}(h:qv T x dn rs R)(hd:dn=false)(hT:bW T N 64)(hN:x.got.length+1<=N)(hr:Rc j R x.mm R' x'.mm)(hj:j<=1)(hs:Sz x B):Sz x' (B+128):=by
 rcases h.Z0 with⟨e,_⟩|⟨_,e⟩
 ·rw[hd] at e;cases e
 ·obtain⟨c,h1,_,_⟩:=h.wk.vQ (Nat.le_refl 64) hT (by omega)
  obtain⟨c',h2,h3,h4,h5,h6,h7⟩:=hr.vQ (Nat.le_refl 64) (Qk e h1 (by omega)) (by omega)
  obtain⟨s1,s2,s3⟩:=hs
  simp only[XS.mm,List.length_map] at h5 h6 h7
  exact⟨by omega,by omega,by omega⟩
theorem Su{T R':Tr}{x x':XS}{j N B:Nat}(hT:bW T N 64)(hr:Rc j T x.mm R' x'.mm)(hj:j<=0)(hs:Sz x B):Sz x' (B+64):=by
 obtain⟨c',h2,h3,h4,h5,h6,h7⟩:=hr.vQ (Nat.le_refl 64) hT (by omega)
 obtain⟨s1,s2,s3⟩:=hs
 simp only[XS.mm,List.length_map] at h5 h6 h7
 exact⟨by omega,by omega,by omega⟩
end
end Go.Ct
namespace Go.Proofs.YtbajmaoegmbfgaaGreat
open Go Go.RowKit Go.Ct
section
noncomputable def T0 (k:Cl) (m:Nat):Tr:=lG k (mJ k.key m) 1073741824
theorem rC(k:Cl)(m:Nat){n:Nat}(h:n<1073741824):bW (T0 k m) n 64:=La h
def xE(k:Cl)(bm b:Nat)(x:XS)(dn:Bool)(rs:Rs):List (Nat×Obj):=if dn=true then [] else [(b,xO k bm x false rs)]
def xE4(x:XS)(dn:Bool):List Ow:=if dn=true then [] else [⟨x.pg,aH x.got,x.kg,37,1⟩,⟨x.pm,aH x.made,x.km,37,1⟩,⟨x.pl,aH x.cel,x.kl,27,1⟩,⟨x.pe,aH x.gns,x.ke,3,1⟩]
structure RY where
 i:Nat
 x:XS
 N:List aQ
 dn:Bool
 rs:Rs
 R:Tr
structure Np(k:Cl)(m:Nat)(x0:XS)(B:Nat)(y:RY):Prop where
 ex:qv (T0 k m) y.x y.dn y.rs y.R
 rc:∃j,Rc j (T0 k m) x0.mm y.R y.x.mm
 ext:y.x.L=x0.L++y.N
 lc:x0.cs.length<=y.x.cs.length
 gl:y.x.got.length<=y.i
 sz:Sz y.x (B+64+128*y.i)
theorem Np.uo{k:Cl}{m N:Nat}{x0 x':XS}{B:Nat}{N':List aQ}{dn:Bool}{rs:Rs}(hN:N<1073741824)(h:Ay (T0 k m) (T0 k m) 0 0 Rs.zero x0 x' N' dn rs)(hs:Sz x0 B):∃R,Np k m x0 B ⟨0,x',N',dn,rs,R⟩:=by
 obtain⟨R',j,h1,h2,h3,h4,h5,h6⟩:=h.exI
 exact⟨R',h3,⟨j,h4⟩,h5,h6,by have:=h.gl;show x'.got.length<=0;omega,Su (rC k m hN) h4 h1 hs⟩
theorem Np.step{k:Cl}{m:Nat}{x0 x':XS}{B:Nat}{y:RY}{N':List aQ}{dn:Bool}{rs:Rs}(hi:Np k m x0 B y)(hd:y.dn=false)(hB:y.i<1073741822)(h:Ay (T0 k m) y.R 1 (y.x.got.length+1) y.rs y.x x' N' dn rs):∃R,Np k m x0 B ⟨y.i+1,x',y.N++N',dn,rs,R⟩:=by
 obtain⟨R',j,h1,h2,h3,h4,h5,h6⟩:=h.exI
 obtain⟨j0,hj0⟩:=hi.rc
 have hg:=hi.gl
 refine⟨R',h3,⟨j0+j,hj0.trans h4⟩,by show x'.L=_;rw[h5,hi.ext,List.append_assoc],Nat.le_trans hi.lc h6,by have:=h.gl;show x'.got.length<=y.i+1;omega,?_⟩
 have:=Li hi.ex hd (rC k m (n:=y.x.got.length+1) (by omega)) (Nat.le_refl _) h4 h1 hi.sz
 rw[show B+64+128*(y.i+1)=B+64+128*y.i+128 by omega]
 exact this
section
variable{k:Cl}{bw bm m B:Nat}{L:List aQ}{cs:List Int}{gen acc:Int}{pn pc:Option Addr}{cn cc:Nat}{D:List Nat}{A:Fr}{w:World}{mask:Int}{ts:List dU}{es:List Nat}{pt pe:Option Addr}{kt ke:Nat}
theorem cr(hsz:L.length<=137438953472/\cs.length<=137438953472/\gen<=137438953472)(hk:gu k)(hm:m<18446744073709551616)(em:k.mask=(m:Int))(ht:k.t.root<=9223372036854775807)(ha:k.a<=L.length)(hb:k.b<=L.length)(hnn:k.n<=L.length)(hA:∀f∈aN L,f∈A)(ok:(XS.new L cs gen acc pn cn pc cc).Ok)(hs:SF w D [(bm,mO L cs gen acc pn cn pc cc)] A [] [⟨pn,iI L,cn,47,14⟩,⟨pc,aH cs,cc,37,1⟩] w):Calls Tryz.prog 49 #[.pointer (some ⟨bm,0,none⟩),.agg ⟨Rv k⟩] w λ e w'=>∃q:Nat×XS×List aQ×Bool×Rs,e=.returned (.pointer (some ⟨q.1,0,none⟩))/\Ay (T0 k m) (T0 k m) 0 0 Rs.zero (XS.new L cs gen acc pn cn pc cc) q.2.1 q.2.2.1 q.2.2.2.1 q.2.2.2.2/\SF w D ([(bm,xM q.2.1)]++[(q.1,xO k bm q.2.1 q.2.2.2.1 q.2.2.2.2)]) [] (aN q.2.2.1) ([⟨q.2.1.pn,iI q.2.1.L,q.2.1.cn,47,14⟩,⟨q.2.1.pc,aH q.2.1.cs,q.2.1.cc,37,1⟩]++[⟨q.2.1.pg,aH q.2.1.got,q.2.1.kg,37,1⟩,⟨q.2.1.pm,aH q.2.1.made,q.2.1.km,37,1⟩,⟨q.2.1.pl,aH q.2.1.cel,q.2.1.kl,27,1⟩,⟨q.2.1.pe,aH q.2.1.gns,q.2.1.ke,3,1⟩]) w' :=
 (r5 (N:=0) (n:=1073741824) (m:=m) (rC k m (by decide)) (by decide) hsz hk (Nat.le_refl _) hm em ht ha hb hnn hA ok hs).mono λ _ _ ⟨q,e,h,hw⟩=>⟨q,e,h,hw.perm (List.Perm.swap _ _ _) (List.perm_append_comm (l₁:=[_,_]) (l₂:=[_,_,_,_]))⟩
set_option maxHeartbeats 1000000 in
theorem z7(steps:Nat)(hst:steps<=1048576)(hB:B<=100000000000)(hsz:Sz (XS.new L cs gen acc pn cn pc cc) B)(hk:gu k)(hm:m<18446744073709551616)(em:k.mask=(m:Int))(ht:k.t.root<=9223372036854775807)(ha:k.a=0)(hb:k.b=0)(hnn:k.n=0)(hA:∀f∈aN L,f∈A)(ok:(XS.new L cs gen acc pn cn pc cc).Ok)(hts:ts.length<=1000)(hes:es.length<=1000)
  (hs:SF w D [(bw,lB bm mask pt ts.length kt pe es.length ke),(bm,mO L cs gen acc pn cn pc cc)] A [] [⟨pt,rT ts,kt,29,2⟩,⟨pe,wX es,ke,74,1⟩,⟨pn,iI L,cn,47,14⟩,⟨pc,aH cs,cc,37,1⟩] w) :
  Calls Tryz.prog 67 #[.pointer (some ⟨bw,0,none⟩),.agg ⟨Rv k⟩,.int .i64 (steps:Int)] w λ e w'=>∃q:Nat×RY×KQ,e=.returned (.tuple #[])/\(Np k m (XS.new L cs gen acc pn cn pc cc) B q.2.1/\q.2.1.i<=steps/\Sv q.2.1.dn q.2.1.rs q.1 ts es q.2.2) /\
   SF w D (xE k bm q.1 q.2.1.x q.2.1.dn q.2.1.rs++[(bw,lB bm mask q.2.2.pt q.2.2.ts.length q.2.2.kt q.2.2.pe q.2.2.es.length q.2.2.ke),(bm,xM q.2.1.x)]) [] (aN q.2.1.N) (xE4 q.2.1.x q.2.1.dn++[⟨q.2.2.pt,rT q.2.2.ts,q.2.2.kt,29,2⟩,⟨q.2.2.pe,wX q.2.2.es,q.2.2.ke,74,1⟩,⟨q.2.1.x.pn,iI q.2.1.x.L,q.2.1.x.cn,47,14⟩,⟨q.2.1.x.pc,aH q.2.1.x.cs,q.2.1.x.cc,37,1⟩]) w':=by
 have hL:(0:Int)<=L.length:=bL _
 have hsz2:=hsz
 obtain⟨s1,s2,s3⟩:=hsz2
 simp only[XS.new] at s1 s2 s3
 refine enter Tryz.func67 Tryz.ntmps67 rfl rfl hs ?_
 simp only[cG]
 refine J0 ?_;refine bM (λ x4=>?_);refine Tq ?_;refine gZ [0,1,2,3,4,5,6] ?_;refine Zx ?_;refine bS ?_;refine bE (i:=5) (hq:=(th (hs:=[(bm,mO L cs gen acc pn cn pc cc)]) (os:=[⟨pn,iI L,cn,47,14⟩,⟨pc,aH cs,cc,37,1⟩]) (A0:=aN L) (hA:=bH.of λ f hf=>.inr (.inl (hA f hf))) (hc:=λ w hs=>cr (m:=m) ⟨by omega,by omega,by omega⟩ hk hm em ht (by omega) (by omega) (by omega) (λ f hf=>hf) ok hs))) (h:=λ x13 h13=>?_);refine J7 ?_;refine aV ?_;refine D8 ?_
 obtain⟨R0,hR0⟩:=Np.uo (B:=B) (N:=0) (by decide) h13 hsz
 refine nT [7,14,15,16,17,18,19,20,21,22,23,24,25] (λ y:RY=>[(7,.int .i64 ((y.i:Nat):Int))]) (λ y=>Np k m (XS.new L cs gen acc pn cn pc cc) B y/\y.i<=steps) (λ y=>[(x13.1,xO k bm y.x y.dn y.rs),(x4,.cells ⟨Rv k⟩ 89 (0,0)),(bw,lB bm mask pt ts.length kt pe es.length ke),(bm,xM y.x)]) (λ y=>aN y.N) (λ y=>[⟨y.x.pg,aH y.x.got,y.x.kg,37,1⟩,⟨y.x.pm,aH y.x.made,y.x.km,37,1⟩,⟨y.x.pl,aH y.x.cel,y.x.kl,27,1⟩,⟨y.x.pe,aH y.x.gns,y.x.ke,3,1⟩,⟨pt,rT ts,kt,29,2⟩,⟨pe,wX es,ke,74,1⟩,⟨y.x.pn,iI y.x.L,y.x.cn,47,14⟩,⟨y.x.pc,aH y.x.cs,y.x.cc,37,1⟩]) (λ y=>steps-y.i) (⟨0,x13.2.1,x13.2.2.1,x13.2.2.2.1,x13.2.2.2.2,R0⟩) (⟨hR0,Nat.zero_le _⟩) (λ y f hx=>?_) (hw0:=λ w hw=>by rw[List.append_nil] at hw;exact hw.v6)
 dsimp only[iC,List.map,List.cons_append,List.nil_append]
 obtain⟨hi,his⟩:=hx
 have hsx:=hi.sz
 obtain⟨z1,z2,z3⟩:=hsx
 have hgl:=hi.gl
 refine kT ?_;refine aE (cM (hs:=xH k x13.1 bm y.x y.dn y.rs) (os:=xW y.x) (hc:=λ w hs=>Rz hs)) (λ x15 h15=>?_);refine Dg ?_
 (refine eI 17 (λ g17=>?_) (λ g17=>?_)<;>refine Ka0 ?_)
 all_goals (refine Ka0 ?_;refine wo ?_;refine aI ?_)
 all_goals
 refine bC (λ c21=>?_) (λ c21=>?_)
 ·try exact nv c21
  all_goals (refine rY ?_;refine xK ?_;refine aE (cM (hs:=xH k x13.1 bm y.x y.dn y.rs) (os:=xW y.x) (A0:=aN y.x.L) (hA:=bH.of λ f hf=>by rw[hi.ext,dE] at hf;rcases List.mem_append.1 hf with hf|hf;exact .inr (.inl (hA f hf));exact .inr (.inr (.inl hf))) (hc:=λ w hs=>iz (N:=y.x.got.length+1) (n:=1073741824) (m:=m) (rC k m (by omega)) (by omega) rfl ⟨by omega,by omega,by omega⟩ hi.ex hk (Nat.le_refl _) hm em ht (by rw[ha];exact bL _) (by rw[hb];exact bL _) (by rw[hnn];exact bL _) (λ f hf=>hf) hs)) (λ x25 h25=>?_);refine aI ?_;refine Ka8 ?_)
  all_goals
   have hdf:y.dn=false:=by simp_all
   have hq:Ay (T0 k m) y.R 1 (y.x.got.length+1) y.rs y.x x25.1 x25.2.1 x25.2.2.1 x25.2.2.2:=by rcases h25 with h|h;rw[hdf] at h;cases h.1;exact h.2
   obtain⟨R1,hR1⟩:=hi.step hdf (by omega) hq
   refine iO (⟨y.i+1,x25.1,y.N++x25.2.1,x25.2.2.1,x25.2.2.2,R1⟩) ?_ (hw1:=λ w hw=>hw.back (hF:=by rw[dE];exact aX.iV λ f hf=>(List.mem_append.1 hf).elim (λ h=>List.mem_append_right _ h) (λ h=>List.mem_append_left _ h)))
   ·exact⟨hR1,by show y.i+1<=steps;omega⟩
 ·all_goals (refine bT rfl ?_;refine Jb ?_;refine aE (cM (hs:=[(bw,lB bm mask pt ts.length kt pe es.length ke),(x13.1,xO k bm y.x y.dn y.rs),(bm,xM y.x)]) (os:=[⟨pt,rT ts,kt,29,2⟩,⟨pe,wX es,ke,74,1⟩,⟨y.x.pg,aH y.x.got,y.x.kg,37,1⟩,⟨y.x.pm,aH y.x.made,y.x.km,37,1⟩,⟨y.x.pl,aH y.x.cel,y.x.kl,27,1⟩,⟨y.x.pe,aH y.x.gns,y.x.ke,3,1⟩,⟨y.x.pn,iI y.x.L,y.x.cn,47,14⟩,⟨y.x.pc,aH y.x.cs,y.x.cc,37,1⟩]) (hc:=λ w hs=>va hts hes hs)) (λ x28 h28=>?_);refine aI ?_)
  all_goals
   refine B6 Tryz.results67 (λ w hw=>?_)
   rcases y with⟨i,x,N,dn,rs,R⟩
   cases dn with
   | true=>exact⟨(x13.1,⟨i,x,N,true,rs,R⟩,x28),rfl,⟨hi,his,h28⟩,hw.v4⟩
   | false=>exact⟨(x13.1,⟨i,x,N,false,rs,R⟩,x28),rfl,⟨hi,his,h28⟩,hw.v4⟩
end
end
end Go.Proofs.YtbajmaoegmbfgaaGreat

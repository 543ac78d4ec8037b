/- Merged. -/
import Derived.Test.YtdnklbipddigbaaGreatGEx24
import Derived.Test.YtdnklbipddigbaaGreatGTape
import Derived.Test.YtdnklbipddigbaaGreatGMst
set_option linter.unusedSimpArgs false
set_option linter.unusedVariables false
namespace Go.Proofs.YtdnklbipddigbaaGreat
open Go Go.RowKit Go.Ct
section
section
variable{n c:Nat}
theorem t_allocS{a:Nv}{i:Int}{k:Int->Tr}(hc:1<=c)(h:∀v,Tame (k v) n (c-1)):Tame (.alloc a i k) n c:=by obtain⟨c,rfl⟩:∃d,c=d+1:=⟨c-1,by omega⟩;exact t_alloc h
theorem repl_tame{a i r:Int}{K:Int->Tr}(hc:1<=c)(h:∀v,Tame (K v) n (c-1)):Tame (replT a i r K) n c:=t_node λ _=>t_allocS hc h
theorem renew_tame{t:Tri}{i o x:Int}{K:Int->Tr}(h:Aft K n):Tame (renewT t i o x K) n c:=t_node λ _=>read_tame λ n1 h1 _=>t_node λ _=>t_allocS (by decide) λ _=>repl_tame (by decide) λ _=>gcas_tame λ n2 h2 _=>h n2 (by omega) _
theorem clean_tame{t:Tri}{p o:Int}{h0:Nat}{l:Int}{K:Bool->Tr}(h:Aft K n):Tame (cleanT t p o h0 l K) n c:=read_tame λ n1 h1 _=>t_node λ _=>by
 split
 ·exact read_tame λ n2 h2 _=>t_node λ _=>by
   split;·exact t_allocS (by decide) λ _=>t_node λ _=>t_allocS (by decide) λ _=>gcas_tame λ n3 h3 _=>h n3 (by omega) _
   ·exact h n2 (by omega) _
 ·exact h n1 h1 _
theorem find_tame{t:Tri}{h0:Nat}{key:ByteArray}{K:Rs->Tr}:∀(q n c:Nat) (i level:Int),n<q->Aft K n->Tame (findT t h0 key K q i level) n c
 | 0,n,c,i,level,hq,_=>absurd hq (Nat.not_lt_zero n)
 | q+1,n,c,i,level,hq,h=>read_tame λ n1 h1 _=>t_node λ _=>by
  split;·split<;>exact h n1 h1 _
  ·split;·exact h n1 h1 _
   ·split;·exact h n1 h1 _
    ·exact t_node λ _=>by
      split;·split<;>exact h n1 h1 _
      ·exact find_tame q n1 64 _ _ (by omega) (h.lt (by omega))
theorem als_tame:∀(l:List NI) (r:Int) (K:Int->Tr) (n c:Nat),l.length<=c->(∀v,Tame (K v) n (c-l.length))->Tame (alsT l r K) n c
 | [],r,K,n,c,_,h=>h r
 | a::l,r,K,n,c,hc,h=>by
  have hc':l.length+1<=c:=by simpa using hc
  exact t_allocS (by omega) λ v=>als_tame l v K n (c-1) (by omega) (λ u=>by have:=h u;rw[List.length_cons] at this;rwa [show c-1-l.length=c-(l.length+1) by omega])
theorem dual_tame{k:Cl}{b:Int}{h0 level:Nat}{gen:Int}{K:Int->Tr}(hc:32<=c)(h:∀v,Tame (K v) n (c-32)):Tame (dualT k b h0 level gen K) n c:=t_node λ nb=>t_allocS (by omega) λ f=>by
 have hl:(dP b nb.hash.toNat h0 (nb.key,nb.val) k.key k.val gen f.toNat level).tail.length<=31:=by have h1:=dN_len (x:=b) (h0:=nb.hash.toNat) (h:=h0) (p0:=(nb.key,nb.val)) (k:=k.key) (u:=k.val) (gen:=gen) (f:=f.toNat) (com nb.hash.toNat h0-level) (com nb.hash.toNat h0-(com nb.hash.toNat h0-level));have h2:=com_le nb.hash.toNat h0;rw[List.length_tail];unfold dP;omega
 exact als_tame _ _ _ _ _ (by omega) λ v=>t_mono (by omega) (h v)
theorem putLeaf_tame{k:Cl}{i m:Int}{h0 level:Nat}{gen:Int}{K:Rs->Int->Tr}(h:∀n',n'<=n->∀r w,Tame (K r w) n' 64):Tame (putLeafT k i m h0 level gen K) n 64:=t_node λ nb=>by
 split
 ·split;·exact t_allocS (by decide) λ _=>gcas_tame λ n1 h1 _=>h n1 (by omega) _ _
  ·exact h n (Nat.le_refl n) _ _
 ·split
  ·split;·exact t_allocS (by decide) λ _=>t_allocS (by decide) λ _=>gcas_tame λ n1 h1 _=>h n1 (by omega) _ _
   ·exact h n (Nat.le_refl n) _ _
  ·refine t_node λ _=>?_;split;·exact h n (Nat.le_refl n) _ _
   ·split
    ·split;·exact t_allocS (by decide) λ _=>repl_tame (by decide) λ _=>gcas_tame λ n1 h1 _=>h n1 (by omega) _ _
     ·exact h n (Nat.le_refl n) _ _
    ·split;·exact dual_tame (by decide) λ _=>t_allocS (by decide) λ _=>repl_tame (by decide) λ _=>gcas_tame λ n1 h1 _=>h n1 (by omega) _ _
     ·exact h n (Nat.le_refl n) _ _
theorem below_tame{k:Cl}{i m x gen:Int}{K:Int->Tr}(h:∀n',n'<=n->∀v,Tame (K v) n' 64):Tame (belowT k i m x gen K) n 64:=t_node λ _=>t_node λ _=>by
 split;·exact h n (Nat.le_refl n) _
 ·exact renew_tame λ n1 h1 _=>h n1 (by omega) _
theorem putIn_tame{k:Cl}{h0:Nat}{K:Rs->Tr}{again:Tr}{gen:Int}:∀(q n c:Nat) (i parent:Int) (level:Nat),n<q->Aft K n->(∀n',n'<n->Tame again n' 64)->Tame (putIn k h0 K again gen q i parent level) n c
 | 0,n,c,i,p,level,hq,_,_=>absurd hq (Nat.not_lt_zero n)
 | q+1,n,c,i,p,level,hq,h,ha=>read_tame λ n1 h1 _=>t_node λ _=>by
  split;·exact clean_tame λ n2 h2 _=>ha n2 (by omega)
  ·refine putLeaf_tame λ n2 h2 r w=>?_;split;·exact h n2 (by omega) _
   ·split;·exact ha n2 (by omega)
    ·refine below_tame λ n3 h3 v=>?_;split;·exact ha n3 (by omega)
     ·exact putIn_tame q n3 64 _ _ _ (by omega) (h.lt (by omega)) (λ n4 h4=>ha n4 (by omega))
theorem put_tame{k:Cl}{h0:Nat}{K:Rs->Tr}:∀(q n c:Nat),n<q->Aft K n->Tame (putT k h0 K q) n c
 | 0,n,c,hq,_=>absurd hq (Nat.not_lt_zero n)
 | q+1,n,c,hq,h=>help_tame λ n1 h1 _=>t_node λ _=>putIn_tame q n1 64 _ _ _ (by omega) (h.lt (by omega)) (λ n2 h2=>put_tame q n2 64 (by omega) (h.lt (by omega)))
theorem dropLeaf_tame{k:Cl}{i m:Int}{h0 level:Nat}{K:Rs->Int->Tr}(h:∀n',n'<=n->∀r w,Tame (K r w) n' 64):Tame (dropLeafT k i m h0 level K) n 64:=t_node λ nb=>by
 split
 ·split;·exact h n (Nat.le_refl n) _ _
  ·exact t_allocS (by decide) λ _=>gcas_tame λ n1 h1 _=>h n1 (by omega) _ _
 ·split;·exact h n (Nat.le_refl n) _ _
  ·refine t_node λ _=>?_;split;·exact h n (Nat.le_refl n) _ _
   ·split;·exact h n (Nat.le_refl n) _ _
    ·split;·exact h n (Nat.le_refl n) _ _
     ·exact t_node λ _=>t_allocS (by decide) λ _=>gcas_tame λ n1 h1 _=>h n1 (by omega) _ _
theorem up_tame{t:Tri}{path:List Int}{h0:Nat}{K:Tr}:∀(l n:Nat),(∀n',n'<=n->Tame K n' 64)->Tame (upT t path h0 K l) n 64
 | 0,n,h=>h n (Nat.le_refl n)
 | l+1,n,h=>read_tame λ n1 h1 _=>t_node λ _=>by
  split;·exact clean_tame λ n2 h2 _=>up_tame l n2 (λ n3 h3=>h n3 (by omega))
  ·exact h n1 (by omega)
theorem dropIn_tame{k:Cl}{h0:Nat}{K:Rs->Tr}{again:Tr}{gen:Int}:∀(q n c:Nat) (i:Int) (path:List Int) (level:Nat),n<q->Aft K n->(∀n',n'<n->Tame again n' 64)->Tame (dropIn k h0 K again gen q i path level) n c
 | 0,n,c,i,p,level,hq,_,_=>absurd hq (Nat.not_lt_zero n)
 | q+1,n,c,i,p,level,hq,h,ha=>read_tame λ n1 h1 _=>t_node λ _=>by
  split;·exact clean_tame λ n2 h2 _=>ha n2 (by omega)
  ·refine dropLeaf_tame λ n2 h2 r w=>?_;split
   ·split;·exact up_tame _ _ λ n3 h3=>h n3 (by omega) _
    ·exact h n2 (by omega) _
   ·split;·exact ha n2 (by omega)
    ·refine below_tame λ n3 h3 v=>?_;split;·exact ha n3 (by omega)
     ·exact dropIn_tame q n3 64 _ _ _ (by omega) (h.lt (by omega)) (λ n4 h4=>ha n4 (by omega))
theorem drop_tame{k:Cl}{h0:Nat}{K:Rs->Tr}:∀(q n c:Nat),n<q->Aft K n->Tame (dropT k h0 K q) n c
 | 0,n,c,hq,_=>absurd hq (Nat.not_lt_zero n)
 | q+1,n,c,hq,h=>help_tame λ n1 h1 _=>t_node λ _=>dropIn_tame q n1 64 _ _ _ (by omega) (h.lt (by omega)) (λ n2 h2=>drop_tame q n2 64 (by omega) (h.lt (by omega)))
theorem t_cellS{i:Int}{k:Int->Tr}(hc:1<=c)(h:∀v,Tame (k v) n (c-1)):Tame (.cell i k) n c:=by obtain⟨c,rfl⟩:∃d,c=d+1:=⟨c-1,by omega⟩;exact t_cell h
theorem t_genS{k:Int->Tr}(hc:1<=c)(h:∀v,Tame (k v) n (c-1)):Tame (.gen k) n c:=by obtain⟨c,rfl⟩:∃d,c=d+1:=⟨c-1,by omega⟩;exact t_gen h
theorem done_tame{r:Rs}:Tame (.done r) n c:=by simp[Tame]
theorem copy_tame{m:Int}:Tame (copyT m .done) n 64:=t_genS (by decide) λ _=>t_allocS (by decide) λ _=>t_cellS (by decide) λ _=>done_tame
theorem snap_tame{t:Tri}{fz:Bool}:∀(q n c:Nat),n<q->Tame (snapT t fz .done q) n c
 | 0,n,c,hq=>absurd hq (Nat.not_lt_zero n)
 | q+1,n,c,hq=>help_tame λ n1 h1 _=>read_tame λ n2 h2 _=>t_genS (by decide) λ _=>t_allocS (by decide) λ _=>rdcss_tame (λ n3 h3 b=>by
  split
  ·split;·exact t_cellS (by decide) λ _=>done_tame
   ·exact copy_tame
  ·exact snap_tame q n3 64 (by omega)) (by decide)
theorem snap0_tame{t:Tri}{fz:Bool}{q:Nat}(h:n<q):Tame (snap0T t fz .done q) n c:=by
 unfold snap0T;split
 ·exact t_load λ n1 h1 _=>by
   split;·exact t_cellS (by decide) λ _=>done_tame
   ·exact read_tame λ n2 h2 _=>copy_tame
 ·exact snap_tame q n c h
theorem clear_tame{t:Tri}:∀(q n c:Nat),n<q->Tame (clearT t .done q) n c
 | 0,n,c,hq=>absurd hq (Nat.not_lt_zero n)
 | q+1,n,c,hq=>help_tame λ n1 h1 _=>read_tame λ n2 h2 _=>t_allocS (by decide) λ _=>t_genS (by decide) λ _=>t_allocS (by decide) λ _=>rdcss_tame (λ n3 h3 b=>by
  split;·exact done_tame
  ·exact clear_tame q n3 64 (by omega)) (by decide)
theorem call_tame{k:Cl}{h0 q:Nat}(h:n<q):Tame (callT k h0 q) n 64:=by
 have hd:∀{X:Type} {K:X->Rs},Aft (λ v=>Tr.done (K v)) n:=λ _ _ _=>done_tame
 unfold callT;split;·exact done_tame
 split;·exact read_tame hd
 split;·exact gcas_tame hd
 split;·exact help_tame hd
 split;·exact rdcss_tame hd (by decide)
 split;·exact help_tame λ n1 h1 _=>find_tame q n1 64 _ _ (by omega) (λ _ _ _=>done_tame)
 split;·exact put_tame q n 64 h (λ _ _ _=>done_tame)
 split;·exact drop_tame q n 64 h (λ _ _ _=>done_tame)
 split;·exact snap0_tame h
 split;·exact snap0_tame h
 ·exact clear_tame q n 64 h
end
end
end Go.Proofs.YtdnklbipddigbaaGreat
namespace Go.Ct
open Go Go.RowKit
section
section
variable{P:Program}{S:List (Nat×Value)}{d:Nat}{ty t t' e:TypeId}{pos:String}{af:Array Edge}{gd:Option (Nat×Bool)}{x y:Operand}{w0 w:World}{M:List Nat}{H:List (Nat×Obj)}{A F:Fr}{O:List Ow}{a:Option Addr}
theorem o_ix1{cs:List Value}{kk:IntKind}{m c k:Nat}(hx:ev S x=.slice a m c)(hy:ev S y=.int kk ((k:Nat):Int))(ht:P.underlying t=some (.slice e))(hs:one P e=true)(hf:FIn A F O a cs)(h1:k<m)(h2:k<cs.length) :
  Quiet P S (SF w0 M H A F O) ⟨some d,.indexAddr t x y,ty,pos,af,gd⟩ (.pointer (some ⟨ablk a,aoff a+k,none⟩)):=⟨λ w hw =>
 (o_index1 (G:=SF w0 M H A F O) hx hy ht hs ((hw.cl hf).ptr (by omega)) h1).run w hw⟩
theorem o_ld1{cs:List Value}{q:Nat}{v:Value}(hx:ev S x=.pointer (some ⟨ablk a,aoff a+q,none⟩))(ht:one P t=true)(hf:FIn A F O a cs)(hq:cs[q]?=some v) :
  Quiet P S (SF w0 M H A F O) ⟨some d,.load t x,ty,pos,af,gd⟩ v:=o_loadW hx ht (λ w hw=>hw.cl hf) hq
theorem o_ix2{cs:List Value}{kk:IntKind}{m c k:Nat}(hx:ev S x=.slice a m c)(hy:ev S y=.int kk ((k:Nat):Int))(ht:P.underlying t=some (.slice e))(hs:aggOf P e 2=true)(hf:FIn A F O a cs)(h1:k<m)(h2:2*k<cs.length) :
  Quiet P S (SF w0 M H A F O) ⟨some d,.indexAddr t x y,ty,pos,af,gd⟩ (.pointer (some ⟨ablk a,aoff a+2*k,none⟩)):=⟨λ w hw =>
 (o_index2 (G:=SF w0 M H A F O) hx hy ht hs ((hw.cl hf).ptr (by omega)) h1).run w hw⟩
end
end
end Go.Ct
namespace Go.Proofs.YtdnklbipddigbaaGreat
open Go.Proofs.Tryz (prog)
open Go Go.RowKit Go.Ct
section
def trC(ts:List Tri):List Value:=ts.flatMap λ t=>[.int .i64 t.root,.bool t.ro]
def ptC(es:List Nat):List Value:=es.map λ b=>.pointer (some ⟨b,0,none⟩)
theorem trC_length:∀ts:List Tri,(trC ts).length=ts.length*2
 | []=>rfl
 | t::ts=>by have:=trC_length ts;simp only[trC,List.flatMap_cons,List.length_append,List.length_cons,List.length_nil] at this ⊢;omega
theorem trC_push(ts:List Tri)(t:Tri):trC (ts++[t])=trC ts++[.int .i64 t.root,.bool t.ro]:=by simp[trC]
theorem ptC_push(es:List Nat)(b:Nat):ptC (es++[b])=ptC es++[.pointer (some ⟨b,0,none⟩)]:=by simp[ptC]
theorem ptC_length(es:List Nat):(ptC es).length=es.length:=by simp[ptC]
theorem elem_trs:ElemIs prog 37 35 [.int .i64 0,.bool false]:=elem_mk (z:=.agg ⟨[.int .i64 0,.bool false]⟩) (by kernel_rfl) (by kernel_rfl) rfl
theorem elem_exs:ElemIs prog 38 84 [.pointer none]:=elem_mk (z:=.pointer none) (by kernel_rfl) (by kernel_rfl) rfl
theorem elem_us:ElemIs prog 151 23 [.int .u64 0]:=elem_mk (z:=.int .u64 0) (by kernel_rfl) (by kernel_rfl) rfl
abbrev wobj(bm:Nat)(mask:Int)(pt:Option Addr)(nt kt:Nat)(pe:Option Addr)(ne ke:Nat):Obj:=.cells ⟨[.pointer (some ⟨bm,0,none⟩),.int .u64 mask,.slice pt nt kt,.slice pe ne ke]⟩ 40 (0,0)
def masks:List Int:=[18446744073709551615,0,1,64,63,4095,9223372036854775808,4032,3458764513820540928,18446744073709551615]
theorem mask_c{l:List Int}{a:Option Addr}{b c k:Nat}{w:World}(ht:TpAt w b a l c k) :
  Calls prog 44 #[.pointer (some ⟨b,0,none⟩)] w λ e w' =>
  ∃v:Nat,e=.returned (.int .u64 (masks.getD v 0))/\v<10/\SF w [b] ((b,tpO a l c (tiN l k))::[]) [] [] [] w':=by refine enter Tryz.func44 Tryz.ntmps44 rfl rfl ht.start ?_;simp only[mkS];refine J10 ?_;refine J0 ?_;refine j_own ((by exact lSFF (λ _=>o_buildSlice (cs:=masks.map (Value.int .u64)) elem_us pa1 rfl rfl rfl rfl rfl))) (λ x3=>?_);refine j_move ?_;refine j_ownF (cF1 (hc:=λ w1 hw=>next_c 10 (hw.tape atT fin ht.len) (by decide) (by decide))) (λ x5 h5=>?_);refine l_quiet (o_ix1 (cs:=masks.map (Value.int .u64)) rf rf sl1 on1 fin (by omega) (by rw[List.length_map];simp only[masks,List.length_cons,List.length_nil];omega)) rfl ?_;refine l_quiet (o_ld1 (cs:=masks.map (Value.int .u64)) (v:=.int .u64 (masks.getD x5 0)) rf on1 fin (by rw[List.getElem?_map,gdg,List.getElem?_eq_getElem (by simp only[masks,List.length_cons,List.length_nil];omega)];rfl)) rfl ?_;refine J1 ?_;refine k_rv Tryz.results44 (λ w hw=>?_);exact⟨x5,rfl,by omega,hw.finH⟩
theorem left_c{l:List Int}{a:Option Addr}{b c k:Nat}{w:World}(ht:TpAt w b a l c k) :
  Calls prog 36 #[.pointer (some ⟨b,0,none⟩)] w λ e w' =>
  ∃v:Bool,e=.returned (.bool v)/\True/\SF w [b] ((b,tpO a l c k)::[]) [] [] [] w':=by refine enter Tryz.func36 Tryz.ntmps36 rfl rfl ht.start ?_;simp only[mkS];refine J75 ?_;refine k_dq [0,1,2,3,4,5,6,7,8,9,10] ?_;refine Kf1 ?_;refine r_lss ?_;refine J7 ?_;refine k_rv Tryz.results36 (λ w hw=>?_);exact⟨_,rfl,trivial,hw.finH⟩
end
section
structure KQ where
 ts:List Tri
 es:List Nat
 pt:Option Addr
 kt:Nat
 pe:Option Addr
 ke:Nat
def KeepOk(dn:Bool)(rs:Rs)(bx:Nat)(ts:List Tri)(es:List Nat)(q:KQ):Prop :=(dn=false/\q.es=es++[bx]/\q.ts=ts)∨(dn=true/\q.es=es/\(q.ts=ts∨(0<rs.root/\q.ts.length<=5/\q.ts=ts++[⟨rs.root,rs.ro⟩])))
section
variable{k:Cl}{bw bx bm:Nat}{x:XS}{dn:Bool}{rs:Rs}{D:List Nat}{A:Fr}{w:World}{mask:Int}{ts:List Tri}{es:List Nat}{pt pe:Option Addr}{kt ke:Nat}
abbrev wL(ts:List Tri)(es:List Nat)(pt:Option Addr)(kt:Nat)(pe:Option Addr)(ke:Nat):List Ow:=[⟨pt,trC ts,kt,35,2⟩,⟨pe,ptC es,ke,84,1⟩]
theorem kOpen(h:SF w D ((bw,wobj bm mask pt ts.length kt pe es.length ke)::xH k bx bm x dn rs) A [] (wL ts es pt kt pe ke++xW x) w) :
  SF w D [(bw,.cells ⟨[.pointer (some ⟨bm,0,none⟩),.int .u64 mask,.slice pt ts.length kt,.slice pe es.length ke]⟩ 40 (0,0)),(bx,xO k bm x dn rs),(bm,xM x)] A [] [⟨pt,trC ts,kt,35,2⟩,⟨pe,ptC es,ke,84,1⟩,⟨x.pg,refsC x.got,x.kg,28,1⟩,⟨x.pm,refsC x.made,x.km,28,1⟩,⟨x.pl,refsC x.cel,x.kl,33,1⟩,⟨x.pe,refsC x.gns,x.ke,3,1⟩,⟨x.pn,nvC x.L,x.cn,45,14⟩,⟨x.pc,refsC x.cs,x.cc,28,1⟩] w:=h
theorem keep_c(hts:ts.length<=1000)(hes:es.length<=1000)(hs:SF w D ((bw,wobj bm mask pt ts.length kt pe es.length ke)::xH k bx bm x dn rs) A [] (wL ts es pt kt pe ke++xW x) w):Calls prog 91 #[.pointer (some ⟨bw,0,none⟩),.pointer (some ⟨bx,0,none⟩)] w λ e w'=>∃q:KQ,e=.returned (.tuple #[])/\KeepOk dn rs bx ts es q/\SF w D ((bw,wobj bm mask q.pt q.ts.length q.kt q.pe q.es.length q.ke)::xH k bx bm x dn rs) [] [] (wL q.ts q.es q.pt q.kt q.pe q.ke++xW x) w':=by
 refine enter Tryz.func91 Tryz.ntmps91 rfl rfl (kOpen hs) ?_;simp only[mkS];refine J2 ?_;refine j_ownF (cM (hs:=xH k bx bm x dn rs) (os:=xW x) (hc:=λ w hs=>done_c hs)) (λ x6 h6=>?_);refine J33 ?_;refine kif (λ c7=>?_) (λ c7=>?_)
 ·refine J76 ?_;refine j_nilCheck ?_;refine Ke9 ?_;refine j_own ((by exact lSFF (λ _=>o_buildSlice (cs:=ptC [bx]) elem_exs pa1 rfl rfl rfl rfl rfl))) (λ x14=>?_);(refine j_own (Loud.convOF (o_append (sz:=1) (cs:=ptC es) rf rf (.tail .head) (by rw[ptC_length];omega) fin rfl rfl elem_exs rfl (by decide) sl1 (by omega)) co1) (λ x15=>?_);try (refine l_fact (λ h15=>?_)));refine J61 ?_;refine k_et Tryz.results91 (λ w hw=>?_)
  first
  | exact⟨⟨ts,es++[bx],pt,kt,x15.1,x15.2⟩,rfl,.inl ⟨by simpa using c7,rfl,rfl⟩,by dsimp only[wL];rw[ptC_push,show(es++[bx]).length=es.length+1 by simp];exact hw.finH⟩
  | exact⟨⟨ts,es,pt,kt,pe,ke⟩,rfl,.inr ⟨by simpa using c7,rfl,.inl rfl⟩,hw.finH⟩
 ·refine J2 ?_;refine j_ownF (cM (hs:=xH k bx bm x dn rs) (os:=xW x) (hc:=λ w hs=>result_c hs)) (λ x19 h19=>?_);refine j_alloc (λ x4=>?_);refine J5 ?_;refine J0 ?_;refine j_fieldAddr ?_;refine J3 ?_;refine j_gtr ?_;refine j_move ?_;(refine lcs 24 (λ g24=>?_) (λ g24=>?_)<;>refine Ka0 ?_);all_goals (refine Kf2 ?_;refine J43 ?_;refine J41 ?_;refine l_nil ?_)
  all_goals
  refine kif (λ c31=>?_) (λ c31=>?_)
  ·try exact nv c31
   all_goals (refine k_dp [(0,[]),(1,[]),(2,[]),(3,[]),(4,[]),(5,[]),(6,[]),(7,[4]),(8,[]),(9,[]),(10,[]),(11,[])] ?_;refine J67 ?_;refine r_fieldAddr ?_;refine r_ownQ (i:=6) (hq:=(o_loadPart (k:=2) (vs:=[.int .i64 rs.root,.bool rs.ro]) rf atT ag1 rfl rfl)) (h:=?_);refine r_own (i:=7) (hq:=((by exact lSFF (λ _=>o_buildSlice (cs:=trC [⟨rs.root,rs.ro⟩]) elem_trs pa1 rfl rfl rfl rfl rfl)))) (h:=λ x39=>?_);((refine r_own (i:=8) (hq:=(Loud.convOF (o_append (sz:=2) (cs:=trC ts) rf rf .head (by rw[trC_length]) fin rfl rfl elem_trs rfl (by decide) sl1 (by omega)) co1)) (h:=λ x40=>?_);try (refine r_fact (λ h40=>?_))));refine J88 ?_)
   all_goals
    refine k_et Tryz.results91 (λ w hw=>?_)
    first
    | exact⟨⟨ts++[⟨rs.root,rs.ro⟩],es,x40.1,x40.2,pe,ke⟩,rfl,.inr ⟨by simpa using c7,rfl,.inr ⟨by omega,by show(ts++[(⟨rs.root,rs.ro⟩:Tri)]).length<=5;simp;omega,rfl⟩⟩,by dsimp only[wL];rw[trC_push,show(ts++[(⟨rs.root,rs.ro⟩:Tri)]).length=ts.length+1 by simp];exact hw.finH⟩
    | exact⟨⟨ts,es,pt,kt,pe,ke⟩,rfl,.inr ⟨by simpa using c7,rfl,.inl rfl⟩,hw.finH⟩
  ·all_goals refine k_skip ?_
   all_goals
    refine k_et Tryz.results91 (λ w hw=>?_)
    first
    | exact⟨⟨ts,es,pt,kt,pe,ke⟩,rfl,.inr ⟨by simpa using c7,rfl,.inl rfl⟩,hw.finH⟩
theorem keep2_c(hts:ts.length<=1000)(hes:es.length<=1000)(hs:SF w D [(bw,wobj bm mask pt ts.length kt pe es.length ke),(bx,xO k bm x dn rs),(bm,xM x)] A [] [⟨pt,trC ts,kt,35,2⟩,⟨pe,ptC es,ke,84,1⟩,⟨x.pg,refsC x.got,x.kg,28,1⟩,⟨x.pm,refsC x.made,x.km,28,1⟩,⟨x.pl,refsC x.cel,x.kl,33,1⟩,⟨x.pe,refsC x.gns,x.ke,3,1⟩,⟨x.pn,nvC x.L,x.cn,45,14⟩,⟨x.pc,refsC x.cs,x.cc,28,1⟩] w):Calls prog 91 #[.pointer (some ⟨bw,0,none⟩),.pointer (some ⟨bx,0,none⟩)] w λ e w'=>∃q:KQ,e=.returned (.tuple #[])/\KeepOk dn rs bx ts es q/\SF w D [(bw,wobj bm mask q.pt q.ts.length q.kt q.pe q.es.length q.ke),(bx,xO k bm x dn rs),(bm,xM x)] [] [] [⟨q.pt,trC q.ts,q.kt,35,2⟩,⟨q.pe,ptC q.es,q.ke,84,1⟩,⟨x.pg,refsC x.got,x.kg,28,1⟩,⟨x.pm,refsC x.made,x.km,28,1⟩,⟨x.pl,refsC x.cel,x.kl,33,1⟩,⟨x.pe,refsC x.gns,x.ke,3,1⟩,⟨x.pn,nvC x.L,x.cn,45,14⟩,⟨x.pc,refsC x.cs,x.cc,28,1⟩] w':=keep_c hts hes hs
end
end
section
def ndC0:Nd:={Nd.zero with kind:=3}
def ndI0(g:Int):Nd:={Nd.zero with kind:=2,gen:=g}
def L4(x y:AX):List NdV:=[markV,markV]++[alV ndC0 [] [] 0 x]++[alV (ndI0 1) [] [] 1 y]
theorem L4_fam{x y:AX}:∀f∈famF (L4 x y),f.2=[]:=by intro f hf;simp[famF,L4,NdV.fr,markV,alV,refsC,prC] at hf;rcases hf with hf|hf|hf|hf|hf|hf|hf|hf<;>rw[hf]
theorem create_c{w:World}{D:List Nat}{b:Nat}{acc:Int}{pn:Option Addr}{cn:Nat}{A:Fr}(hs:SF w D [(b,mO [markV,markV] [] 0 acc pn cn none 0)] A [] (mW [markV,markV] [] pn cn none 0) w) :
  Calls prog 45 #[.pointer (some ⟨b,0,none⟩)] w λ e w'=>∃q:AX×AX×Option Addr×Nat,e=.returned (.agg ⟨[.int .i64 3,.bool false]⟩)/\True /\
   SF w D [(b,mO (L4 q.1 q.2.1) [0,3,4] 1 acc q.2.1.pn q.2.1.cn q.2.2.1 q.2.2.2)] [] (famF (L4 q.1 q.2.1)) (mW (L4 q.1 q.2.1) [0,3,4] q.2.1.pn q.2.1.cn q.2.2.1 q.2.2.2) w':=by refine enter Tryz.func45 Tryz.ntmps45 rfl rfl (mOpen hs) ?_;simp only[mkS];refine J0 ?_;refine j_alloc (λ x2=>?_);refine l_nil ?_;refine J2 ?_;refine j_build ?_;refine j_ownF (cM (A0:=[(none,refsC []),(none,prC [])]) (hc:=λ w hs=>mAlloc_c (L:=[markV,markV]) (cs:=[]) (n:=ndC0) (xs:=[]) (ys:=[]) 0 hs rfl rfl (by decide) (by decide) (by decide) (by decide))) (λ x7 h7=>?_);refine Ka7 ?_;refine j_ownF (cM (hc:=λ w hs=>mNewGen_c (L:=[markV,markV]++[alV ndC0 [] [] 0 x7]) (cs:=[0]) hs)) (λ x9 h9=>?_);refine J73 ?_;refine j_move ?_;refine j_build ?_;refine j_move ?_;refine j_ownF (cM (A0:=[(none,refsC []),(none,prC [])]) (hc:=λ w hs=>mAlloc_c (L:=[markV,markV]++[alV ndC0 [] [] 0 x7]) (cs:=[0]) (n:=ndI0 1) (xs:=[]) (ys:=[]) 3 hs rfl rfl (by decide) (by decide) (by simp) (by decide))) (λ x15 h15=>?_);refine j_ownF (cM (hc:=λ w hs=>mNewCell_c (L:=L4 x7 x15) (cs:=[0,3]) 4 hs (by decide))) (λ x16 h16=>?_);refine J52 ?_;refine k_rt Tryz.results45 (λ w hw=>?_);exact⟨(x7,x15,x16.1,x16.2),rfl,trivial,(hw.subF (λ f hf=>.inl (L4_fam f hf))).z0⟩
end
section
section
variable{S:List (Nat×Value)}{w0 w:World}{M:List Nat}{H:List (Nat×Obj)}{A F:Fr}{O:List Ow}{ty:TypeId}{pos:String}{af:Array Edge}{gd:Option (Nat×Bool)}{X:Type}{V:X->Value}
theorem cMH{φ:X->Prop}{hs H':List (Nat×Obj)}{os O':List Ow}{hs' Hc H1:X->List (Nat×Obj)}{os' Oc O1:X->List Ow}{Fc F1:X->Fr}{A0:Fr}{is js:List Nat}{f:FuncId}{xs:List Operand}{at_:Array TypeId}{vs:List Value}{dst:Option Nat}
  (ha:evL S xs=vs:=by(repeat (first|exact evL_nil _|(apply evL_cons;focus ((conv=>{lhs;whnf});try exact rfl))));first|done|fail) (hp:plain prog f=true:=by kernel_rfl)
  (hc:∀w,SF w (Ks hs os) hs A0 [] os w->Calls prog f ⟨vs⟩ w λ e w'=>∃x,e=.returned (V x)/\φ x/\SF w (Ks hs os) (hs' x++Hc x) [] (Fc x) (os' x++Oc x) w')
  (hH:Ats H is hs H':=by(repeat (first|exact Ats.nil|(apply Ats.cons;(focus ((repeat (first|exact LAt.head|apply LAt.tail));done));simp only[delA])));first|done|fail)
  (hO:Ats O js os O':=by(repeat (first|exact Ats.nil|(apply Ats.cons;(focus ((repeat (first|exact LAt.head|apply LAt.tail));done));simp only[delA])));first|done|fail)
  (hA:HasAll A F O' A0:=by(repeat (first|exact HasAll.of (λ _ h=>Or.inr (Or.inl h))|exact HasAll.nil|(refine HasAll.cons (by first|exact Or.inl rfl|exact Or.inr (Or.inr (Or.inl (by simp)))|exact Or.inr (Or.inl (by simp))|exact Or.inr (Or.inr (Or.inr (by simp)))) ?_)));first|done|fail)
  (hl1:∀x,is.length=(hs' x).length:=by intro x;exact rfl) (hl2:∀x,js.length=(os' x).length:=by intro x;exact rfl)
  (hH1:∀x,Hc x++putA is (hs' x) H'=H1 x:=by intro x;first|(simp only[putA,insA,List.nil_append,List.cons_append];exact rfl)|exact rfl) (hF1:∀x,Fc x++F=F1 x:=by intro x;first|(simp only[List.nil_append,List.cons_append];exact rfl)|exact rfl) (hO1:∀x,Oc x++putA js (os' x) O'=O1 x:=by intro x;simp only[putA,insA,mW,List.nil_append,List.cons_append];exact rfl) :
  Loud prog S (SF w0 M H A F O) ⟨dst,.call {callee:=.value (.func f),args:=⟨xs⟩,argTypes:=at_},ty,pos,af,gd⟩ X V (λ x w=>φ x/\SF w0 M (H1 x) A (F1 x) (O1 x) w) :=
 loud_call (run_call hp ha) λ w hw=>(hc w (hw.memStart hH hO hA)).mono λ _ _ ⟨x,he,hx,hs⟩=>⟨x,he,hx,by have:=hw.callMem (hs':=hs' x) (Hc:=Hc x) (os':=os' x) (Oc:=Oc x) hH hO hs (hl1 x) (hl2 x);rw[<- hH1 x,<- hF1 x,<- hO1 x];exact this⟩
end
end
end Go.Proofs.YtdnklbipddigbaaGreat
namespace Go.Ct
open Go Go.RowKit
section
theorem Rc.trans{i j:Nat}{t t1 t2:Tr}{s s1 s2:Mm}(h1:Rc i t s t1 s1)(h2:Rc j t1 s1 t2 s2):Rc (i+j) t s t2 s2:=by
 induction h2 with
 | refl t s=>exact h1
 | sil _ hs ih=>exact .sil (ih h1) hs
 | loud _ hs ih=>exact .loud (ih h1) hs
def Sz(x:XS)(B:Nat):Prop:=x.L.length<=B/\x.cs.length<=B/\x.gen<=B
theorem size_step{T R R':Tr}{x x':XS}{dn:Bool}{rs:Rs}{j N B:Nat}(h:ExI T x dn rs R)(hd:dn=false)(hT:Tame T N 64)(hN:x.got.length+1<=N)(hr:Rc j R x.mm R' x'.mm)(hj:j<=1)(hs:Sz x B):Sz x' (B+128):=by
 rcases h.res with⟨e,_⟩|⟨_,e⟩;·rw[hd] at e;cases e
 ·obtain⟨c,h1,_,_⟩:=h.wk.tame (Nat.le_refl 64) hT (by omega);obtain⟨c',h2,h3,h4,h5,h6,h7⟩:=hr.tame (Nat.le_refl 64) (tame_acc e h1 (by omega)) (by omega);obtain⟨s1,s2,s3⟩:=hs;simp only[XS.mm,List.length_map] at h5 h6 h7;exact⟨by omega,by omega,by omega⟩
theorem size_start{T R':Tr}{x x':XS}{j N B:Nat}(hT:Tame T N 64)(hr:Rc j T x.mm R' x'.mm)(hj:j<=0)(hs:Sz x B):Sz x' (B+64):=by obtain⟨c',h2,h3,h4,h5,h6,h7⟩:=hr.tame (Nat.le_refl 64) hT (by omega);obtain⟨s1,s2,s3⟩:=hs;simp only[XS.mm,List.length_map] at h5 h6 h7;exact⟨by omega,by omega,by omega⟩
end
end Go.Ct
namespace Go.Proofs.YtdnklbipddigbaaGreat
open Go Go.RowKit Go.Ct
section
noncomputable def T0 (k:Cl) (m:Nat):Tr:=callT k (hsK k.key m) 1073741824
theorem t0_tame(k:Cl)(m:Nat){n:Nat}(h:n<1073741824):Tame (T0 k m) n 64:=call_tame h
def xE(k:Cl)(bm b:Nat)(x:XS)(dn:Bool)(rs:Rs):List (Nat×Obj):=if dn=true then [] else [(b,xO k bm x false rs)]
def xE4(x:XS)(dn:Bool):List Ow:=if dn=true then [] else [⟨x.pg,refsC x.got,x.kg,28,1⟩,⟨x.pm,refsC x.made,x.km,28,1⟩,⟨x.pl,refsC x.cel,x.kl,33,1⟩,⟨x.pe,refsC x.gns,x.ke,3,1⟩]
structure RY where
 i:Nat
 x:XS
 N:List NdV
 dn:Bool
 rs:Rs
 R:Tr
structure RunI(k:Cl)(m:Nat)(x0:XS)(B:Nat)(y:RY):Prop where
 ex:ExI (T0 k m) y.x y.dn y.rs y.R
 rc:∃j,Rc j (T0 k m) x0.mm y.R y.x.mm
 ext:y.x.L=x0.L++y.N
 lc:x0.cs.length<=y.x.cs.length
 gl:y.x.got.length<=y.i
 sz:Sz y.x (B+64+128*y.i)
theorem RunI.ofStart{k:Cl}{m N:Nat}{x0 x':XS}{B:Nat}{N':List NdV}{dn:Bool}{rs:Rs}(hN:N<1073741824)(h:RepQ (T0 k m) (T0 k m) 0 0 Rs.zero x0 x' N' dn rs)(hs:Sz x0 B):∃R,RunI k m x0 B ⟨0,x',N',dn,rs,R⟩:=by obtain⟨R',j,h1,h2,h3,h4,h5,h6⟩:=h.exI;exact⟨R',h3,⟨j,h4⟩,h5,h6,by have:=h.gl;show x'.got.length<=0;omega,size_start (t0_tame k m hN) h4 h1 hs⟩
theorem RunI.step{k:Cl}{m:Nat}{x0 x':XS}{B:Nat}{y:RY}{N':List NdV}{dn:Bool}{rs:Rs}(hi:RunI k m x0 B y)(hd:y.dn=false)(hB:y.i<1073741822)(h:RepQ (T0 k m) y.R 1 (y.x.got.length+1) y.rs y.x x' N' dn rs):∃R,RunI k m x0 B ⟨y.i+1,x',y.N++N',dn,rs,R⟩:=by obtain⟨R',j,h1,h2,h3,h4,h5,h6⟩:=h.exI;obtain⟨j0,hj0⟩:=hi.rc;have hg:=hi.gl;refine⟨R',h3,⟨j0+j,hj0.trans h4⟩,by show x'.L=_;rw[h5,hi.ext,List.append_assoc],Nat.le_trans hi.lc h6,by have:=h.gl;show x'.got.length<=y.i+1;omega,?_⟩;have:=size_step hi.ex hd (t0_tame k m (n:=y.x.got.length+1) (by omega)) (Nat.le_refl _) h4 h1 hi.sz;rw[show B+64+128*(y.i+1)=B+64+128*y.i+128 by omega];exact this
section
variable{k:Cl}{bw bm m B:Nat}{L:List NdV}{cs:List Int}{gen acc:Int}{pn pc:Option Addr}{cn cc:Nat}{D:List Nat}{A:Fr}{w:World}{mask:Int}{ts:List Tri}{es:List Nat}{pt pe:Option Addr}{kt ke:Nat}
theorem start2_c(hsz:L.length<=137438953472/\cs.length<=137438953472/\gen<=137438953472)(hk:KOk k)(hm:m<18446744073709551616)(em:k.mask=(m:Int))(ht:k.t.root<=9223372036854775807)(ha:k.a<=L.length)(hb:k.b<=L.length)(hnn:k.n<=L.length)(hA:∀f∈famF L,f∈A)(ok:(XS.new L cs gen acc pn cn pc cc).Ok)(hs:SF w D [(bm,mO L cs gen acc pn cn pc cc)] A [] [⟨pn,nvC L,cn,45,14⟩,⟨pc,refsC cs,cc,28,1⟩] w):Calls Tryz.prog 42 #[.pointer (some ⟨bm,0,none⟩),.agg ⟨clC k⟩] w λ e w'=>∃q:Nat×XS×List NdV×Bool×Rs,e=.returned (.pointer (some ⟨q.1,0,none⟩))/\RepQ (T0 k m) (T0 k m) 0 0 Rs.zero (XS.new L cs gen acc pn cn pc cc) q.2.1 q.2.2.1 q.2.2.2.1 q.2.2.2.2/\SF w D ([(bm,xM q.2.1)]++[(q.1,xO k bm q.2.1 q.2.2.2.1 q.2.2.2.2)]) [] (famF q.2.2.1) ([⟨q.2.1.pn,nvC q.2.1.L,q.2.1.cn,45,14⟩,⟨q.2.1.pc,refsC q.2.1.cs,q.2.1.cc,28,1⟩]++[⟨q.2.1.pg,refsC q.2.1.got,q.2.1.kg,28,1⟩,⟨q.2.1.pm,refsC q.2.1.made,q.2.1.km,28,1⟩,⟨q.2.1.pl,refsC q.2.1.cel,q.2.1.kl,33,1⟩,⟨q.2.1.pe,refsC q.2.1.gns,q.2.1.ke,3,1⟩]) w' :=(start_c (N:=0) (n:=1073741824) (m:=m) (t0_tame k m (by decide)) (by decide) hsz hk (Nat.le_refl _) hm em ht ha hb hnn hA ok hs).mono λ _ _ ⟨q,e,h,hw⟩=>⟨q,e,h,hw.perm (List.Perm.swap _ _ _) (List.perm_append_comm (l₁:=[_,_]) (l₂:=[_,_,_,_]))⟩
set_option maxHeartbeats 1000000 in
theorem wrun_c(steps:Nat)(hst:steps<=1048576)(hB:B<=100000000000)(hsz:Sz (XS.new L cs gen acc pn cn pc cc) B)(hk:KOk k)(hm:m<18446744073709551616)(em:k.mask=(m:Int))(ht:k.t.root<=9223372036854775807)(ha:k.a=0)(hb:k.b=0)(hnn:k.n=0)(hA:∀f∈famF L,f∈A)(ok:(XS.new L cs gen acc pn cn pc cc).Ok)(hts:ts.length<=1000)(hes:es.length<=1000)
  (hs:SF w D [(bw,wobj bm mask pt ts.length kt pe es.length ke),(bm,mO L cs gen acc pn cn pc cc)] A [] [⟨pt,trC ts,kt,35,2⟩,⟨pe,ptC es,ke,84,1⟩,⟨pn,nvC L,cn,45,14⟩,⟨pc,refsC cs,cc,28,1⟩] w) :
  Calls Tryz.prog 46 #[.pointer (some ⟨bw,0,none⟩),.agg ⟨clC k⟩,.int .i64 (steps:Int)] w λ e w'=>∃q:Nat×RY×KQ,e=.returned (.tuple #[])/\(RunI k m (XS.new L cs gen acc pn cn pc cc) B q.2.1/\q.2.1.i<=steps/\KeepOk q.2.1.dn q.2.1.rs q.1 ts es q.2.2) /\
   SF w D (xE k bm q.1 q.2.1.x q.2.1.dn q.2.1.rs++[(bw,wobj bm mask q.2.2.pt q.2.2.ts.length q.2.2.kt q.2.2.pe q.2.2.es.length q.2.2.ke),(bm,xM q.2.1.x)]) [] (famF q.2.1.N) (xE4 q.2.1.x q.2.1.dn++[⟨q.2.2.pt,trC q.2.2.ts,q.2.2.kt,35,2⟩,⟨q.2.2.pe,ptC q.2.2.es,q.2.2.ke,84,1⟩,⟨q.2.1.x.pn,nvC q.2.1.x.L,q.2.1.x.cn,45,14⟩,⟨q.2.1.x.pc,refsC q.2.1.x.cs,q.2.1.x.cc,28,1⟩]) w':=by
 have hL:(0:Int)<=L.length:=nn0 _;have hsz2:=hsz;obtain⟨s1,s2,s3⟩:=hsz2;simp only[XS.new] at s1 s2 s3;refine enter Tryz.func46 Tryz.ntmps46 rfl rfl hs ?_;simp only[mkS];refine J0 ?_;refine j_box (λ x4=>?_);refine J80 ?_;refine k_dq [0,1,2,3,4,5,6] ?_;refine J14 ?_;refine r_load ?_;refine r_ownF (i:=5) (hq:=(cMH (hs:=[(bm,mO L cs gen acc pn cn pc cc)]) (os:=[⟨pn,nvC L,cn,45,14⟩,⟨pc,refsC cs,cc,28,1⟩]) (A0:=famF L) (hA:=HasAll.of λ f hf=>.inr (.inl (hA f hf))) (hc:=λ w hs=>start2_c (m:=m) ⟨by omega,by omega,by omega⟩ hk hm em ht (by omega) (by omega) (by omega) (λ f hf=>hf) ok hs))) (h:=λ x13 h13=>?_);refine J7 ?_;refine k_seq ?_;refine J69 ?_;obtain⟨R0,hR0⟩:=RunI.ofStart (B:=B) (N:=0) (by decide) h13 hsz;refine k_lp [7,14,15,16,17,18,19,20,21,22,23,24,25] (λ y:RY=>[(7,.int .i64 ((y.i:Nat):Int))]) (λ y=>RunI k m (XS.new L cs gen acc pn cn pc cc) B y/\y.i<=steps) (λ y=>[(x13.1,xO k bm y.x y.dn y.rs),(x4,.cells ⟨clC k⟩ 80 (0,0)),(bw,wobj bm mask pt ts.length kt pe es.length ke),(bm,xM y.x)]) (λ y=>famF y.N) (λ y=>[⟨y.x.pg,refsC y.x.got,y.x.kg,28,1⟩,⟨y.x.pm,refsC y.x.made,y.x.km,28,1⟩,⟨y.x.pl,refsC y.x.cel,y.x.kl,33,1⟩,⟨y.x.pe,refsC y.x.gns,y.x.ke,3,1⟩,⟨pt,trC ts,kt,35,2⟩,⟨pe,ptC es,ke,84,1⟩,⟨y.x.pn,nvC y.x.L,y.x.cn,45,14⟩,⟨y.x.pc,refsC y.x.cs,y.x.cc,28,1⟩]) (λ y=>steps-y.i) (⟨0,x13.2.1,x13.2.2.1,x13.2.2.2.1,x13.2.2.2.2,R0⟩) (⟨hR0,Nat.zero_le _⟩) (λ y f hx=>?_) (hw0:=λ w hw=>by rw[List.append_nil] at hw;exact hw.z4);dsimp only[mkU,List.map,List.cons_append,List.nil_append];obtain⟨hi,his⟩:=hx;have hsx:=hi.sz;obtain⟨z1,z2,z3⟩:=hsx;have hgl:=hi.gl;refine J32 ?_;refine j_ownF (cM (hs:=xH k x13.1 bm y.x y.dn y.rs) (os:=xW y.x) (hc:=λ w hs=>done_c hs)) (λ x15 h15=>?_);refine J59 ?_;(refine lcs 17 (λ g17=>?_) (λ g17=>?_)<;>refine Ka0 ?_);all_goals (refine Ka0 ?_;refine J41 ?_;refine l_nil ?_)
 all_goals
 refine kif (λ c21=>?_) (λ c21=>?_)
 ·try exact nv c21
  all_goals (refine J37 ?_;refine J20 ?_;refine j_ownF (cM (hs:=xH k x13.1 bm y.x y.dn y.rs) (os:=xW y.x) (A0:=famF y.x.L) (hA:=HasAll.of λ f hf=>by rw[hi.ext,famF_append] at hf;rcases List.mem_append.1 hf with hf|hf;exact .inr (.inl (hA f hf));exact .inr (.inr (.inl hf))) (hc:=λ w hs=>step_c (N:=y.x.got.length+1) (n:=1073741824) (m:=m) (t0_tame k m (by omega)) (by omega) rfl ⟨by omega,by omega,by omega⟩ hi.ex hk (Nat.le_refl _) hm em ht (by rw[ha];exact nn0 _) (by rw[hb];exact nn0 _) (by rw[hnn];exact nn0 _) (λ f hf=>hf) hs)) (λ x25 h25=>?_);refine l_nil ?_;refine Kb5 ?_)
  all_goals
   have hdf:y.dn=false:=by simp_all
   have hq:RepQ (T0 k m) y.R 1 (y.x.got.length+1) y.rs y.x x25.1 x25.2.1 x25.2.2.1 x25.2.2.2:=by rcases h25 with h|h;rw[hdf] at h;cases h.1;exact h.2
   obtain⟨R1,hR1⟩:=hi.step hdf (by omega) hq;refine k_rd (⟨y.i+1,x25.1,y.N++x25.2.1,x25.2.2.1,x25.2.2.2,R1⟩) ?_ (hw1:=λ w hw=>hw.back (hF:=by rw[famF_append];exact FSub.ofSub λ f hf=>(List.mem_append.1 hf).elim (λ h=>List.mem_append_right _ h) (λ h=>List.mem_append_left _ h)));·exact⟨hR1,by show y.i+1<=steps;omega⟩
 ·all_goals (refine k_exit rfl ?_;refine J76 ?_;refine j_ownF (cM (hs:=[(bw,wobj bm mask pt ts.length kt pe es.length ke),(x13.1,xO k bm y.x y.dn y.rs),(bm,xM y.x)]) (os:=[⟨pt,trC ts,kt,35,2⟩,⟨pe,ptC es,ke,84,1⟩,⟨y.x.pg,refsC y.x.got,y.x.kg,28,1⟩,⟨y.x.pm,refsC y.x.made,y.x.km,28,1⟩,⟨y.x.pl,refsC y.x.cel,y.x.kl,33,1⟩,⟨y.x.pe,refsC y.x.gns,y.x.ke,3,1⟩,⟨y.x.pn,nvC y.x.L,y.x.cn,45,14⟩,⟨y.x.pc,refsC y.x.cs,y.x.cc,28,1⟩]) (hc:=λ w hs=>keep2_c hts hes hs)) (λ x28 h28=>?_);refine l_nil ?_)
  all_goals
   refine k_et Tryz.results46 (λ w hw=>?_);rcases y with⟨i,x,N,dn,rs,R⟩;cases dn with
   | true=>exact⟨(x13.1,⟨i,x,N,true,rs,R⟩,x28),rfl,⟨hi,his,h28⟩,hw.z0⟩
   | false=>exact⟨(x13.1,⟨i,x,N,false,rs,R⟩,x28),rfl,⟨hi,his,h28⟩,hw.z0⟩
end
end
end Go.Proofs.YtdnklbipddigbaaGreat

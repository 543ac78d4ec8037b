/- The engine, part 9: lists of strings and of nodes; tapes. -/
import Derived.Test.YtbajmaoegmbfgaaGreatGLst
import Derived.Test.YtbajmaoegmbfgaaGreatGMem
import Derived.Lib.SliceRun
import Derived.Laws.Pointers

set_option linter.unusedSimpArgs false
set_option linter.unusedVariables false
namespace Go.Ct
section
open Go Go.RowKit
section
variable{P:Program}{n:Nat}{S:List (Nat×Value)}
variable{w0 w w':World}{M:List Nat}{H H':List (Nat×Obj)}{A F F':Fr}{O O':List Ow}{G:World->Prop}
variable{d:Nat}{ty:TypeId}{pos:String}{af:Array Edge}{gd:Option (Nat×Bool)}{dst:Option Nat}{x y z:Operand}{t t2 e:TypeId}{p a:Option Addr}{i m k c c2:Nat}
def U7(l:List ByteArray):List Value:=l.map Value.string
theorem gu{lst:List ByteArray}{kk:IntKind}(hx:ev S x=.slice a m c)(hy:ev S y=.int kk ((k:Nat):Int))(ht:P.underlying t=some (.slice e))(hs:one P e=true)(hf:qQ A F O a (U7 lst))(h1:k<m)(h2:k<lst.length) :
  aK P S (SF w0 M H A F O) ⟨some d,.indexAddr t x y,ty,pos,af,gd⟩ (.pointer (some ⟨cQ a,eF a+k,none⟩)):=⟨λ w hw =>
 (Ax (G:=SF w0 M H A F O) hx hy ht hs ((hw.cl hf).ptr (by simp only[U7,List.length_map];omega)) h1).run w hw⟩
theorem qb{lst:List ByteArray}{q:Nat}(hx:ev S x=.pointer (some ⟨cQ a,eF a+q,none⟩))(ht:one P t=true)(hf:qQ A F O a (U7 lst))(hq:q<lst.length) :
  aK P S (SF w0 M H A F O) ⟨some d,.load t x,ty,pos,af,gd⟩ (.string (lst.getD q ⟨#[]⟩)):=pY hx ht (λ w hw=>hw.cl hf) (by simp[U7,hq,List.getD])
def Kv(l:List Nd):List Value:=l.flatMap Nd.cells
theorem C1:∀l:List Nd,(Kv l).length=14*l.length
 | []=>rfl
 | _::r=>by
  have:=C1 r
  simp only[Kv,List.flatMap_cons,List.length_append,List.length_cons] at this ⊢
  rw[this]
  simp only[Nd.cells,List.length_cons,List.length_nil]
  omega
theorem Tg:∀{l:List Nd} {k j:Nat},k<l.length->j<14->(Kv l)[14*k+j]?=(l.getD k Nd.zero).cells[j]?
 | [],_,_,h,_=>by simp at h
 | n::r,0,j,_,hj=>by
  simp only[Kv,List.flatMap_cons,Nat.mul_zero,Nat.zero_add,List.getD_cons_zero]
  rw[List.getElem?_append_left (by simp only[Nd.cells,List.length_cons,List.length_nil];omega)]
 | n::r,k+1,j,h,hj=>by
  have:=Tg (l:=r) (k:=k) (j:=j) (by simpa using h) hj
  simp only[Kv,List.flatMap_cons,List.getD_cons_succ] at this ⊢
  rw[List.getElem?_append_right (by simp only[Nd.cells,List.length_cons,List.length_nil];omega),<- this]
  congr 1
  simp only[Nd.cells,List.length_cons,List.length_nil]
  omega
theorem Qd{m c:Nat}{i:Int}{kk:IntKind}(hx:ev S x=.slice a m c)(hy:ev S y=.int kk ((k:Nat):Int))(ht:P.underlying t=some (.slice e))(hs:jA P e 14=true)(ha:a=some ⟨cQ a,eF a,none⟩)(h1:k<m) :
  aK P S G ⟨some d,.indexAddr t x y,ty,pos,af,gd⟩ (.pointer (some ⟨cQ a,eF a+14*k,none⟩)):=⟨λ w _=>by
 obtain⟨_,_,_,hsz⟩:=iI hs
 have:=A4 (P:=P) (a:=a) (m:=m) (c:=c) (k:=kk) ht hsz ha (i:=(k:Int)) (by omega) (by omega) w
 simp only[Int.toNat_natCast,Nat.mul_comm k 14] at this
 simp[execOp,hx,hy,this]⟩
theorem dg{lst:List Nd}{kk:IntKind}(hx:ev S x=.slice a m c)(hy:ev S y=.int kk ((k:Nat):Int))(ht:P.underlying t=some (.slice e))(hs:jA P e 14=true)(hf:qQ A F O a (Kv lst))(h1:k<m)(h2:k<lst.length) :
  aK P S (SF w0 M H A F O) ⟨some d,.indexAddr t x y,ty,pos,af,gd⟩ (.pointer (some ⟨cQ a,eF a+14*k,none⟩)):=⟨λ w hw =>
 (Qd (i:=0) (G:=SF w0 M H A F O) hx hy ht hs ((hw.cl hf).ptr (by rw[C1];omega)) h1).run w hw⟩
theorem pf{lst:List Nd}{q:Nat}(hx:ev S x=.pointer (some ⟨cQ a,eF a+14*q,none⟩))(ht:jA P t 14=true)(hf:qQ A F O a (Kv lst))(hq:q<lst.length) :
  aK P S (SF w0 M H A F O) ⟨some d,.load t x,ty,pos,af,gd⟩ (lst.getD q Nd.zero).v:=⟨λ w hw=>by
 have hcl:=hw.cl hf
 obtain⟨dd,hu,hm,hi⟩:=iI ht
 have hagg:(isAgg t).run P w=.ok true w:=by
  unfold isAgg
  rw[Sem.run_bind,run_underlying hu w]
  cases dd<;>simp_all
 have hl:(loadCells ⟨cQ a,eF a+14*q,none⟩ 14).run P w=.ok ⟨(lst.getD q Nd.zero).cells⟩ w:=by
  have:=run_loadCells_list (P:=P) w ⟨cQ a,eF a+14*q,none⟩ (lst.getD q Nd.zero).cells (λ j z hz=>by
   have hj:j<14:=(List.getElem?_eq_some_iff.1 hz).1
   rw[Addr.add_lit]
   have h3:=(hcl.at_ (14*q+j) z (by rw[Tg hq hj];exact hz)).2
   rwa [<- Nat.add_assoc] at h3)
  exact this
 cases hq':P.info? t with
 | none=>rw[hq'] at hi;simp at hi
 | some i =>
  have hs:i.size=14:=by rw[hq'] at hi;simpa using hi
  simp[execOp,hx,Instr.loadAt,Instr.sureAddr,loadVar,hagg,Go.sizeOf,typeInfo,hq',hs,hl,Nd.v]⟩
def Wv(v n:Int):Int:=IntKind.i64.wrap ((IntKind.u64.wrap v).tmod (IntKind.u64.wrap n))
def tvN(l:List Int)(k:Nat)(n:Int):Nat:=if k<l.length then(Wv (l.getD k 0) n).toNat else 0
def kG(l:List Int)(k:Nat):Nat:=if k<l.length then k+1 else k
theorem wrap_u64(i:Int):IntKind.u64.wrap i=i%18446744073709551616:=by
 simp[IntKind.wrap,IntKind.signed,IntKind.bits]
theorem Q3{v n:Int}(h0:0<n)(h1:n<=9223372036854775807):0<=Wv v n/\Wv v n<n:=by
 unfold Wv
 rw[wrap_u64,wrap_u64,Int.emod_eq_of_lt (a:=n) (by omega) (by omega)]
 have h2:=Int.emod_nonneg v (show(18446744073709551616:Int)≠0 by decide)
 have h3:=Int.tmod_lt_of_pos (v%18446744073709551616) h0
 have h4:=Int.tmod_nonneg n h2
 rw[wrap_i64 (by omega) (by omega)]
 exact⟨h4,h3⟩
def Yu(T:TypeId)(a:Option Addr)(l:List Int)(c k:Nat):Obj:=.cells ⟨[.slice a l.length c,.int .i64 ((k:Nat):Int)]⟩ T (0,0)
structure Mb(w:World)(T:TypeId)(b:Nat)(a:Option Addr)(l:List Int)(c k:Nat):Prop where
 obj:w.heap[b]?=some (Yu T a l c k)
 cl:Cl w a (aG l)
 ne:aG l≠[]->cQ a≠b
 len:l.length<=17592186043904
theorem SF.tape(h:SF w0 M H A F O w){T b l}(ha:At H i b (Yu T a l c k))(hf:qQ A F [] a (aG l))(hl:l.length<=17592186043904):Mb w T b a l c k:=by
 refine⟨h.st.at ha,?_,λ hc e=>h.apart hf hc (e▸List.mem_append_left _ (List.mem_map.2 ⟨_,ha.mem,rfl⟩)),hl⟩
 cases hf with
 | bC h1=>exact h.cl (.bC h1)
 | new h1=>exact h.cl (.new h1)
 | own h1=>cases h1
 | hdr h1 _=>cases h1
theorem Mb.start{T b l}(h:Mb w T b a l c k):SF w [b] [(b,.cells ⟨[.slice a l.length c,.int .i64 ((k:Nat):Int)]⟩ T (0,0))] [(a,aG l)] [] [] w:=by
 refine⟨⟨rfl,rfl,rfl,Nat.le_refl _,λ _ _ _=>rfl,λ p hp=>?_,λ p hp=>?_,by simp⟩,λ f hf=>?_,λ _ h=>(List.not_mem_nil h).elim,λ _ h=>(List.not_mem_nil h).elim,by simp[Ks]⟩
 ·simp only[List.mem_singleton] at hp
  subst hp
  exact h.obj
 ·simp only[List.mem_singleton] at hp
  subst hp
  exact .inl (by simp)
 ·simp only[List.mem_singleton] at hf
  subst hf
  exact⟨h.cl,λ hc=>by simp only[Ks,List.map_cons,List.map_nil,List.flatMap_nil,List.append_nil,List.mem_singleton];exact h.ne hc⟩
end
end

/- The engine, part 10b: lists of nodes, each with its own lists. -/
section
open Go Go.RowKit
section
variable{w0 w w':World}{M:List Nat}{H:List (Nat×Obj)}{A F:Fr}{O:List Ow}
structure aU where
 nd:Nd
 xs:List Int
 ys:List Pr
structure Nv where
 kind:Int
 gen:Int
 main:Int
 bm:Int
 xs:List Int
 hash:Int
 key:ByteArray
 val:Int
 ys:List Pr
 prev:Int
 bC:Int
 exp:Int
 new:Int
 status:Int
def Nd.c(n:Nd)(xs:List Int)(ys:List Pr):Nv:=⟨n.kind,n.gen,n.main,n.bm,xs,n.hash,n.key,n.val,ys,n.prev,n.bC,n.exp,n.new,n.status⟩
def aU.c(v:aU):Nv:=v.nd.c v.xs v.ys
theorem rO{a b:Nd}{x1 x2:List Int}{y1 y2:List Pr}:qZ a b x1 x2 y1 y2↔a.c x1 y1=b.c x2 y2:=by simp[qZ,Nd.c]
def aU.fr(v:aU):Fr:=[(v.nd.brA,aG v.xs),(v.nd.prA,dB v.ys)]
def aU.zero:aU:=⟨Nd.zero,[],[]⟩
def aL(L:List aU):Fr:=L.flatMap aU.fr
def gL(L:List aU):List Value:=L.flatMap (·.nd.cells)
theorem Ud(L:List aU):gL L=Kv (L.map (·.nd)):=by simp[gL,Kv,List.flatMap_map]
theorem ob{L:List aU}{k:Nat}:(L.map (·.nd)).getD k Nd.zero=(L.getD k aU.zero).nd:=by
 rw[jY,jY,List.getElem?_map]
 cases L[k]?<;>rfl
theorem iP(n:Nd):n.cells.length=14:=rfl
theorem Ei(a b:List aU):gL (a++b)=gL a++gL b:=by simp[gL]
theorem m9(v:aU):gL [v]=v.nd.cells:=by simp[gL]
theorem jH(a:List aU)(v:aU):gL (a++[v])=gL a++v.nd.cells:=by rw[Ei,m9]
theorem cZ(a b:List aU):aL (a++b)=aL a++aL b:=by simp[aL]
theorem dU:∀L:List aU,(gL L).length=L.length*14
 | []=>rfl
 | v::L=>by
  have:=dU L
  simp only[gL,List.flatMap_cons,List.length_append,iP,List.length_cons] at this ⊢
  omega
theorem bb:∀{L:List aU} {k j:Nat} {v:Value},k<L.length->(L.getD k aU.zero).nd.cells[j]?=some v->(gL L)[14*k+j]?=some v
 | v::L,0,j,u,_,hj=>by
  have hlt:j<14:=by
   have:=(List.getElem?_eq_some_iff.1 hj).1
   simpa[iP] using this
  simp only[gL,List.flatMap_cons,Nat.mul_zero,Nat.zero_add]
  rw[List.getElem?_append_left (by rw[iP];exact hlt)]
  simpa using hj
 | v::L,k+1,j,u,hk,hj=>by
  simp only[gL,List.flatMap_cons]
  rw[List.getElem?_append_right (by rw[iP];omega),iP,show 14*(k+1)+j-14=14*k+j by omega]
  exact bb (L:=L) (by simpa using hk) (by simpa using hj)
theorem Ci(n:Nd):n.cells.all (·.oneCell')=true:=rfl
theorem Aa:∀L:List aU,(gL L).all (·.oneCell')=true
 | []=>rfl
 | v::L=>by
  have:=Aa L
  simp only[gL,List.flatMap_cons,List.all_append,Bool.and_eq_true] at this ⊢
  exact⟨Ci _,this⟩
theorem rG{L:List aU}{f:Option Addr×List Value}:f∈aL L↔∃v∈L,f∈v.fr:=by simp[aL]
theorem fJ{L:List aU}{k:Nat}(hk:k<L.length):L.getD k aU.zero∈L:=by
 rw[jY,List.getElem?_eq_getElem hk];exact List.getElem_mem hk
theorem K3{L:List aU}{k:Nat}(hk:k<L.length):((L.getD k aU.zero).nd.brA,aG (L.getD k aU.zero).xs)∈aL L:=rG.2 ⟨_,fJ hk,by simp[aU.fr]⟩
theorem K6{L:List aU}{k:Nat}(hk:k<L.length):((L.getD k aU.zero).nd.prA,dB (L.getD k aU.zero).ys)∈aL L:=rG.2 ⟨_,fJ hk,by simp[aU.fr]⟩
structure aU.Fit(v:aU):Prop where
 brN:v.nd.brN=v.xs.length
 prN:v.nd.prN=v.ys.length
 brS:v.xs.length<=35184372088832
 prS:v.ys.length<=11728124029610
theorem aU.Fit.rJ{v:aU}(h:v.Fit){w:World}(hb:Cl w v.nd.brA (aG v.xs))(hp:Cl w v.nd.prA (dB v.ys)):rQ w v.nd v.xs v.ys :=
 ⟨h.brN,h.prN,hb,hp,by have:=h.brS;omega,by have:=h.prS;omega⟩
def Fits(L:List aU):Prop:=∀v∈L,v.Fit
theorem Fits.at{L:List aU}(h:Fits L){k:Nat}(hk:k<L.length):(L.getD k aU.zero).Fit:=h _ (fJ hk)
theorem Nb:aU.zero.Fit:=⟨rfl,rfl,by decide,by decide⟩
structure mZ(w:World)(L:List aU)(cs:List Int)(pn pc:Option Addr):Prop where
 nds:Cl w pn (gL L)
 cls:Cl w pc (aG cs)
 fam:∀f∈aL L,Cl w f.1 f.2
 fit:Fits L
theorem mZ.start{w:World}{L:List aU}{cs:List Int}{pn pc:Option Addr}(h:mZ w L cs pn pc):SF w [] [] ((pn,gL L)::(pc,aG cs)::aL L) [] [] w:=SF.begin λ f hf=>by
 rcases List.mem_cons.1 hf with rfl|hf
 ·exact h.nds
 rcases List.mem_cons.1 hf with rfl|hf
 ·exact h.cls
 ·exact h.fam f hf
theorem SF.O4{L:List aU}{f1 f2:Option Addr×List Value}(h:SF w0 M H (f1::f2::aL L) F O w)(hfit:Fits L){k:Nat}(hk:k<L.length):rQ w (L.getD k aU.zero).nd (L.getD k aU.zero).xs (L.getD k aU.zero).ys :=
 (hfit.at hk).rJ (h.bC _ (List.mem_cons_of_mem _ (List.mem_cons_of_mem _ (K3 hk)))).1 (h.bC _ (List.mem_cons_of_mem _ (List.mem_cons_of_mem _ (K6 hk)))).1
theorem SF.y6{L:List aU}(h:SF w0 M H (aL L) F O w)(hfit:Fits L){k:Nat}(hk:k<L.length):rQ w (L.getD k aU.zero).nd (L.getD k aU.zero).xs (L.getD k aU.zero).ys :=
 (hfit.at hk).rJ (h.bC _ (K3 hk)).1 (h.bC _ (K6 hk)).1
theorem SF.wa{L:List aU}(h:SF w0 M H A F O w)(hF:∀f∈aL L,f.2=[]∨f∈A∨f∈F)(hfit:Fits L){v:aU}(hv:v∈L):rQ w v.nd v.xs v.ys:=by
 have key:∀f∈aL L,Cl w f.1 f.2:=λ f hf=>by
  rcases hF f hf with h0|h1|h1
  ·rw[h0];exact Cl.nil _ _
  ·exact(h.bC f h1).1
  ·exact(h.new f h1).1
 exact(hfit v hv).rJ (key (v.nd.brA,aG v.xs) (rG.2 ⟨v,hv,by simp[aU.fr]⟩)) (key (v.nd.prA,dB v.ys) (rG.2 ⟨v,hv,by simp[aU.fr]⟩))
variable{P:Program}{S:List (Nat×Value)}{G:World->Prop}{d:Nat}{ty:TypeId}{pos:String}{af:Array Edge}{gd:Option (Nat×Bool)}{x y:Operand}{t t2 e:TypeId}{p a:Option Addr}{i m k c c2:Nat}
theorem rD{L:List aU}{kk:IntKind}(hx:ev S x=.slice a m c)(hy:ev S y=.int kk ((k:Nat):Int))(ht:P.underlying t=some (.slice e))(hs:jA P e 14=true)(hf:qQ A F O a (gL L))(h1:k<m)(h2:k<L.length) :
  aK P S (SF w0 M H A F O) ⟨some d,.indexAddr t x y,ty,pos,af,gd⟩ (.pointer (some ⟨cQ a,eF a+14*k,none⟩)):=dg (lst:=L.map (·.nd)) hx hy ht hs (by rw[<- Ud];exact hf) h1 (by simpa using h2)
theorem Ul{L:List aU}{q:Nat}(hx:ev S x=.pointer (some ⟨cQ a,eF a+14*q,none⟩))(ht:jA P t 14=true)(hf:qQ A F O a (gL L))(hq:q<L.length) :
  aK P S (SF w0 M H A F O) ⟨some d,.load t x,ty,pos,af,gd⟩ (L.getD q aU.zero).nd.v:=by
 have:=pf (P:=P) (S:=S) (w0:=w0) (M:=M) (H:=H) (A:=A) (F:=F) (O:=O) (d:=d) (ty:=ty) (pos:=pos) (af:=af) (gd:=gd) (lst:=L.map (·.nd)) hx ht (by rw[<- Ud];exact hf) (by simpa using hq)
 rwa [ob] at this
theorem wD{L:List aU}{q:Nat}(hx:ev S x=.pointer (some ⟨cQ a,eF a+14*q,none⟩))(ht:one P t=true)(hf:qQ A F O a (gL L))(hq:q<L.length) :
  aK P S (SF w0 M H A F O) ⟨some d,.load t x,ty,pos,af,gd⟩ (.int .i64 (L.getD q aU.zero).nd.kind):=pY (q:=14*q) hx ht (λ w hw=>hw.cl hf) (bb (j:=0) hq rfl)
theorem Ut{L:List aU}{zc:List Value}(v:aU)(hx:ev S x=.slice p m c)(hy:ev S y=.slice a 1 c2)(ho:wV O i p (gL L) c e 14)(hm:L.length=m)(hf:qQ A F O a v.nd.cells)
  (he:dI P t e zc) (hz:zc.length=14) (ht2:P.underlying t2=some (.slice e)) (hb:m+1<=549755813888) :
  bE P S (SF w0 M H A F O) ⟨some d,.call {callee:=.builtin .append,args := #[x,y],argTypes := #[t,t2]},ty,pos,af,gd⟩ (Option Addr×Nat) (λ q=>.slice q.1 (m+1) q.2)
   (λ q w=>m+1<=q.2/\SF w0 M H A F (kE O i ⟨q.1,gL (L++[v]),q.2,e,14⟩) w):=by
 rw[jH]
 exact fQ hx hy ho (by rw[dU,hm]) hf (by simp[Nd.cells]) (Ci _) he hz (by decide) ht2 hb
theorem eb{L L2:List aU}{zc:List Value}(hx:ev S x=.slice p m c)(hy:ev S y=.slice a k c2)(ho:wV O i p (gL L) c e 14)(hm:L.length=m)(hf:qQ A F O a (gL L2))(hk:L2.length=k)
  (he:dI P t e zc) (hz:zc.length=14) (ht2:P.underlying t2=some (.slice e)) (hb:m+k<=549755813888) :
  bE P S (SF w0 M H A F O) ⟨some d,.call {callee:=.builtin .append,args := #[x,y],argTypes := #[t,t2]},ty,pos,af,gd⟩ (Option Addr×Nat) (λ q=>.slice q.1 (m+k) q.2)
   (λ q w=>m+k<=q.2/\SF w0 M H A F (kE O i ⟨q.1,gL (L++L2),q.2,e,14⟩) w):=by
 rw[Ei]
 exact fQ hx hy ho (by rw[dU,hm]) hf (by rw[dU,hk]) (Aa _) he hz (by decide) ht2 hb
theorem nq{k:Nat}{k1 k2:IntKind}{zc:List Value}(hx:ev S x=.int k1 0)(hy:ev S y=.int k2 ((k:Nat):Int))(he:dI P t e zc)(hz:zc.length=14)(hk:k<=1099511627776) :
  bE P S (SF w0 M H A F O) ⟨some d,.makeSlice t x y,ty,pos,af,gd⟩ Nat (λ b=>.slice (some ⟨b,0,none⟩) 0 k) (λ b=>SF w0 M H A F (⟨some ⟨b,0,none⟩,gL [],k,e,14⟩::O)):=by
 have:=Uy (P:=P) (S:=S) (w0:=w0) (M:=M) (H:=H) (A:=A) (F:=F) (O:=O) (d:=d) (ty:=ty) (pos:=pos) (af:=af) (gd:=gd) (m:=0) (k:=k) (k1:=k1) (k2:=k2) (x:=x) (y:=y) (cs:=gL []) (by simpa using hx) hy he (Nat.zero_le _) hk (List.eq_nil_of_length_eq_zero (by rw[jN];simp))
 rwa [hz] at this
section
variable{m n:Nat}{t':TypeId}
theorem nQ(hx:ev S x=.int .i64 ((m:Nat):Int))(hy:ev S y=.int .i64 ((n:Nat):Int))(h:m+n<=9223372036854775807) :
  aK P S G ⟨some d,.binOp .add t x y t',ty,pos,af,gd⟩ (.int .i64 ((m+n:Nat):Int)):=by
 have:=mC (P:=P) (G:=G) (d:=d) (ty:=ty) (pos:=pos) (af:=af) (gd:=gd) (t:=t) (t':=t') hx hy
 rw[wrap_i64 (by omega) (by omega)] at this
 rw[Int.natCast_add]
 exact this
theorem iY(hx:ev S x=.int .i64 ((m:Nat):Int))(hy:ev S y=.int .i64 ((n:Nat):Int))(h:n<=m)(h2:m<=9223372036854775807) :
  aK P S G ⟨some d,.binOp .sub t x y t',ty,pos,af,gd⟩ (.int .i64 ((m-n:Nat):Int)):=by
 have:=Oi (P:=P) (G:=G) (d:=d) (ty:=ty) (pos:=pos) (af:=af) (gd:=gd) (t:=t) (t':=t') hx hy
 rw[wrap_i64 (by omega) (by omega)] at this
 rw[Int.natCast_sub h]
 exact this
end
theorem iW{P:Program}{S:List (Nat×Value)}{G:World->Prop}{d:Nat}{ty:TypeId}{pos:String}{af:Array Edge}{gd:Option (Nat×Bool)}{x:Operand}{vs:List Value}{k:Nat}{v:Value}(hx:ev S x=.tuple ⟨vs⟩)(hk:vs[k]?=some v):aK P S G ⟨some d,.extract x k,ty,pos,af,gd⟩ v:=⟨λ w _=>by
 simp[execOp,hx,Instr.extract,hk]⟩
theorem Kf{a:Int}(hx:ev S x=.int .i64 a)(hy:ev S y=.int .i64 1)(h:1<=a)(h2:a<=9223372036854775807):aK P S G ⟨some d,.binOp .sub t x y t2,ty,pos,af,gd⟩ (.int .i64 (((a-1).toNat:Nat):Int)):=by
 have:=Sb (P:=P) (G:=G) (d:=d) (ty:=ty) (pos:=pos) (af:=af) (gd:=gd) (t:=t) (t':=t2) hx hy (by omega)
 rwa [show a-1=(((a-1).toNat:Nat):Int) by omega] at this
theorem O7:∀(L:List aU) (k:Nat),(gL L).drop (k*14)=gL (L.drop k)
 | [],k=>by simp[gL]
 | v::L,0=>by simp
 | v::L,k+1=>by
  have:=O7 L k
  rw[List.drop_succ_cons,<- this]
  show(v.nd.cells++gL L).drop ((k+1)*14)=_
  rw[List.drop_append,List.drop_eq_nil_of_le (by rw[iP];omega),iP,List.nil_append]
  congr 1
  omega
theorem pu{L:List aU}(hx:ev S x=.slice a m c)(hy:ev S y=.int .i64 ((k:Nat):Int))(ht:P.underlying t=some (.slice e))(hs:(P.info? e).map (·.size)=some 14)(hk:k<=m)(hf:qQ A F [] a (gL L))(hmc:m<=c)(hl:L.length=m) :
  bE P S (SF w0 M H A F O) ⟨some d,.slice t x (some y) none none,ty,pos,af,gd⟩ (Option Addr) (λ p=>.slice p (m-k) (c-k)) (λ p=>SF w0 M H ((p,gL (L.drop k))::A) F O):=by
 have:=mu (P:=P) (w0:=w0) (M:=M) (H:=H) (O:=O) (d:=d) (ty:=ty) (pos:=pos) (af:=af) (gd:=gd) hx hy ht hs hk hf hmc (by rw[dU,hl])
 rw[O7] at this
 exact this
theorem SF.xb(h:SF w0 M H A F O w){L:List aU}{T:TypeId}(ho:wV O i p (gL L) c T 14):L.length<=c:=by
 rcases(h.own _ ho.mem).1 with⟨_,h2,_⟩|⟨b,rest,_,_,h3⟩
 ·have h2':gL L=[]:=h2
  have:(gL L).length=0:=by rw[h2'];rfl
  rw[dU] at this
  omega
 ·have h3':(gL L++rest).length=c*14:=h3
  rw[List.length_append,dU] at h3'
  omega
theorem aN{b off:Nat}{cs vs:List Value}{T:TypeId}(hx:ev S x=.pointer (some ⟨b,off,none⟩))(ha:At H i b (.cells ⟨cs⟩ T (0,0)))(ht:jA P t k=true)(hv:(cs.drop off).take k=vs)(hl:vs.length=k) :
  aK P S (SF w0 M H A F O) ⟨some d,.load t x,ty,pos,af,gd⟩ (.agg ⟨vs⟩):=⟨λ w hw=>by
 have hb:=hw.st.at ha
 have hcl:Cl w (some ⟨b,0,none⟩) cs:=Cl.block (pre:=[]) (rest:=[]) (by simpa using hb) rfl
 obtain⟨dd,hu,hm,hi⟩:=iI ht
 have hagg:(isAgg t).run P w=.ok true w:=by
  unfold isAgg
  rw[Sem.run_bind,run_underlying hu w]
  cases dd<;>simp_all
 have hlc:(loadCells ⟨b,off,none⟩ k).run P w=.ok ⟨vs⟩ w:=by
  have:=run_loadCells_list (P:=P) w ⟨b,off,none⟩ vs (λ j z hz=>by
   rw[Addr.add_lit]
   have hj:j<k:=by rw[<- hl];exact(List.getElem?_eq_some_iff.1 hz).1
   have h1:cs[off+j]?=some z:=by
    rw[<- hv,List.getElem?_take,if_pos hj,List.getElem?_drop] at hz
    exact hz
   have h3:=(hcl.at_ (off+j) z h1).2
   simpa[cQ,eF] using h3)
  rwa [hl] at this
 cases hq':P.info? t with
 | none=>rw[hq'] at hi;simp at hi
 | some inf =>
  have hs:inf.size=k:=by rw[hq'] at hi;simpa using hi
  simp[execOp,hx,Instr.loadAt,Instr.sureAddr,loadVar,hagg,Go.sizeOf,typeInfo,hq',hs,hlc]⟩
def zL(P:Program)(t:TypeId)(k:Nat):Option Nat :=
 match P.underlying t with
 | some (.struct fs)=>match fs[k]? with
  | some f=>if one P f.type then some f.offset else none
  | none=>none
 | _=>none
theorem Tt{cs:List Value}{off:Nat}{v:Value}(hx:ev S x=.agg ⟨cs⟩)(hf:zL P t k=some off)(hv:cs[off]?=some v):aK P S G ⟨some d,.field t x k,ty,pos,af,gd⟩ v:=⟨λ w _=>by
 unfold zL at hf
 cases hu:P.underlying t with
 | none=>simp[hu] at hf
 | some dd =>
  cases dd<;>simp[hu] at hf
  rename_i fs
  cases hk:fs[k]? with
  | none=>simp[hk] at hf
  | some f =>
   simp only[hk] at hf
   split at hf
   ·rename_i h1
    simp only[Option.some.injEq] at hf
    subst hf
    have hp:=lR (P:=P) h1 (cs:=⟨cs⟩) (off:=f.offset) (v:=v) (by simpa using hv) w
    simp[execOp,hx,Instr.field,run_underlying hu,hk,asAgg,hp]
   ·cases hf⟩
def jM(l:List Bool):List Value:=l.map .bool
theorem xT(l:List Bool):(jM l).length=l.length:=by simp[jM]
theorem Wt{l:List Bool}{k:Nat}(h:k<l.length):(jM l)[k]?=some (.bool (l.getD k false)):=by simp[jM,h,List.getD]
theorem Qh(k:Nat):made [.bool false] k=jM (List.replicate k false):=by
 refine List.ext_getElem? λ i=>?_
 by_cases hi:i<k
 ·simp[made,madeCells,jM,Array.getElem?_toList,Array.getElem?_map,Array.getElem?_range,hi,Nat.mod_one]
 ·rw[List.getElem?_eq_none (by rw[jN];simp;omega),List.getElem?_eq_none (by simp[jM];omega)]
theorem lx{m k:Nat}{k1 k2:IntKind}(hx:ev S x=.int k1 ((m:Nat):Int))(hy:ev S y=.int k2 ((k:Nat):Int))(he:dI P t e [.bool false])(hmk:m<=k)(hk:k<=1099511627776) :
  bE P S (SF w0 M H A F O) ⟨some d,.makeSlice t x y,ty,pos,af,gd⟩ Nat (λ b=>.slice (some ⟨b,0,none⟩) m k) (λ b=>SF w0 M H A F (⟨some ⟨b,0,none⟩,jM (List.replicate m false),k,e,1⟩::O)) :=
 Uy hx hy he hmk hk (Qh m)
theorem vC{lst:List Bool}{kk:IntKind}(hx:ev S x=.slice a m c)(hy:ev S y=.int kk ((k:Nat):Int))(ht:P.underlying t=some (.slice e))(hs:one P e=true)(hf:qQ A F O a (jM lst))(h1:k<m)(h2:k<lst.length) :
  aK P S (SF w0 M H A F O) ⟨some d,.indexAddr t x y,ty,pos,af,gd⟩ (.pointer (some ⟨cQ a,eF a+k,none⟩)):=⟨λ w hw =>
 (Ax (G:=SF w0 M H A F O) hx hy ht hs ((hw.cl hf).ptr (by rw[xT];omega)) h1).run w hw⟩
theorem Lh{lst:List Bool}{q:Nat}(hx:ev S x=.pointer (some ⟨cQ a,eF a+q,none⟩))(ht:one P t=true)(hf:qQ A F O a (jM lst))(hq:q<lst.length) :
  aK P S (SF w0 M H A F O) ⟨some d,.load t x,ty,pos,af,gd⟩ (.bool (lst.getD q false)):=pY hx ht (λ w hw=>hw.cl hf) (Wt hq)
theorem Qy(l:List Bool)(k:Nat)(v:Bool):(jM l).set k (.bool v)=jM (l.set k v):=by simp[jM]
theorem Zw{q:Nat}{l:List Bool}{v:Bool}(hx:ev S x=.pointer (some ⟨cQ p,eF p+q,none⟩))(hy:ev S y=.bool v)(ht:one P t=true)(ho:wV O i p (jM l) c e 1)(hq:q<l.length) :
  bE P S (SF w0 M H A F O) ⟨none,.store t x y,ty,pos,af,gd⟩ Unit (λ _=>undef) (λ _=>SF w0 M H A F (kE O i ⟨p,jM (l.set q v),c,e,1⟩)):=by
 rw[<- Qy]
 exact N5 hx hy rfl ht ho (by rw[xT];exact hq)
theorem di(hx:ev S x=.slice a m c)(hy:ev S y=.slice none 0 0)(ht:P.underlying t=some (.slice e)):aK P S G ⟨some d,.binOp .eql t x y t2,ty,pos,af,gd⟩ (.bool a.isNone):=⟨λ w _=>by
 have:=Go.Lib.run_eql_slice_nil (P:=P) w t e a m c 0 0 ht
 simp[execOp,hx,hy,this,eqGuard]⟩
def Im(P:Program)(t:TypeId):Bool:=match P.underlying t with|some (.pointer _)=>true|_=>false
theorem M1(h:Im P t=true):P.underlying t=some (.pointer (P.pointee t)):=by
 unfold Im at h
 cases hu:P.underlying t with
 | none=>simp[hu] at h
 | some dd=>cases dd<;>simp[hu,Program.pointee] at h ⊢
theorem n6{q:Option Addr}(hx:ev S x=.pointer q)(hy:ev S y=.pointer none)(ht:Im P t=true):aK P S G ⟨some d,.binOp .eql t x y t2,ty,pos,af,gd⟩ (.bool q.isNone):=⟨λ w _=>by
 have:=run_eql_pointer_nil (P:=P) w t q (M1 ht)
 simp[execOp,hx,hy,this,eqGuard]⟩
theorem Uw{q:Option Addr}(hx:ev S x=.pointer q)(hy:ev S y=.pointer none)(ht:Im P t=true):aK P S G ⟨some d,.binOp .neq t x y t2,ty,pos,af,gd⟩ (.bool (!q.isNone)):=⟨λ w _=>by
 have:=run_neq_pointer_nil (P:=P) w t q (M1 ht)
 simp[execOp,hx,hy,this,eqGuard]⟩
end
end

end Go.Ct

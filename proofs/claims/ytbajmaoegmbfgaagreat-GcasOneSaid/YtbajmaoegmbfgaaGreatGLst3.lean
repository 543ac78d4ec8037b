/- Merged. -/
import Derived.Test.YtbajmaoegmbfgaaGreatGFz
import Derived.Test.YtbajmaoegmbfgaaGreatGFun
import Derived.Lib.SliceRun
import Derived.Laws.Pointers
import Derived.Test.YtbajmaoegmbfgaaGreatProg
set_option linter.unusedSimpArgs false
set_option linter.unusedVariables false
namespace Go.Ct
open Go Go.RowKit
section
section
variable{P:Program}{n:Nat}{S:List (Nat×Value)}
variable{w0 w w':World}{M:List Nat}{H H':List (Nat×Obj)}{A F F':Fr}{O O':List Ow}{G:World->Prop}
variable{d:Nat}{ty:TypeId}{pos:String}{af:Array Edge}{gd:Option (Nat×Bool)}{dst:Option Nat}{x y z:Operand}{t t2 e:TypeId}{p a:Option Addr}{i m k c c2:Nat}
def Wn(l:List ByteArray):List Value:=l.map Value.string
theorem fg{lst:List ByteArray}{kk:IntKind}(hx:ev S x=.slice a m c)(hy:ev S y=.int kk ((k:Nat):Int))(ht:P.underlying t=some (.slice e))(hs:one P e=true)(hf:pY A F O a (Wn lst))(h1:k<m)(h2:k<lst.length) :
  aM P S (SF w0 M H A F O) ⟨some d,.indexAddr t x y,ty,pos,af,gd⟩ (.pointer (some ⟨cO a,eF a+k,none⟩)):=⟨λ w hw =>
 (A1 (G:=SF w0 M H A F O) hx hy ht hs ((hw.cl hf).ptr (by simp only[Wn,List.length_map];omega)) h1).run w hw⟩
theorem o8{lst:List ByteArray}{q:Nat}(hx:ev S x=.pointer (some ⟨cO a,eF a+q,none⟩))(ht:one P t=true)(hf:pY A F O a (Wn lst))(hq:q<lst.length) :
  aM P S (SF w0 M H A F O) ⟨some d,.load t x,ty,pos,af,gd⟩ (.string (lst.getD q ⟨#[]⟩)):=nX hx ht (λ w hw=>hw.cl hf) (by simp[Wn,hq,List.getD])
def Ng(l:List Nd):List Value:=l.flatMap Nd.cells
theorem Dz:∀l:List Nd,(Ng l).length=14*l.length
 | []=>rfl
 | _::r=>by
  have:=Dz r
  simp only[Ng,List.flatMap_cons,List.length_append,List.length_cons] at this ⊢
  rw[this]
  simp only[Nd.cells,List.length_cons,List.length_nil]
  omega
theorem Vv:∀{l:List Nd} {k j:Nat},k<l.length->j<14->(Ng l)[14*k+j]?=(l.getD k Nd.zero).cells[j]?
 | [],_,_,h,_=>by simp at h
 | n::r,0,j,_,hj=>by
  simp only[Ng,List.flatMap_cons,Nat.mul_zero,Nat.zero_add,List.getD_cons_zero]
  rw[List.getElem?_append_left (by simp only[Nd.cells,List.length_cons,List.length_nil];omega)]
 | n::r,k+1,j,h,hj=>by
  have:=Vv (l:=r) (k:=k) (j:=j) (by simpa using h) hj
  simp only[Ng,List.flatMap_cons,List.getD_cons_succ] at this ⊢
  rw[List.getElem?_append_right (by simp only[Nd.cells,List.length_cons,List.length_nil];omega),<- this]
  congr 1
  simp only[Nd.cells,List.length_cons,List.length_nil]
  omega
theorem Sg{m c:Nat}{i:Int}{kk:IntKind}(hx:ev S x=.slice a m c)(hy:ev S y=.int kk ((k:Nat):Int))(ht:P.underlying t=some (.slice e))(hs:jR P e 14=true)(ha:a=some ⟨cO a,eF a,none⟩)(h1:k<m) :
  aM P S G ⟨some d,.indexAddr t x y,ty,pos,af,gd⟩ (.pointer (some ⟨cO a,eF a+14*k,none⟩)):=⟨λ w _=>by
 obtain⟨_,_,_,hsz⟩:=iA hs
 have:=yA (P:=P) (a:=a) (m:=m) (c:=c) (k:=kk) ht hsz ha (i:=(k:Int)) (by omega) (by omega) w
 simp only[Int.toNat_natCast,Nat.mul_comm k 14] at this
 simp[execOp,hx,hy,this]⟩
theorem jh{lst:List Nd}{kk:IntKind}(hx:ev S x=.slice a m c)(hy:ev S y=.int kk ((k:Nat):Int))(ht:P.underlying t=some (.slice e))(hs:jR P e 14=true)(hf:pY A F O a (Ng lst))(h1:k<m)(h2:k<lst.length) :
  aM P S (SF w0 M H A F O) ⟨some d,.indexAddr t x y,ty,pos,af,gd⟩ (.pointer (some ⟨cO a,eF a+14*k,none⟩)):=⟨λ w hw =>
 (Sg (i:=0) (G:=SF w0 M H A F O) hx hy ht hs ((hw.cl hf).ptr (by rw[Dz];omega)) h1).run w hw⟩
theorem uu{lst:List Nd}{q:Nat}(hx:ev S x=.pointer (some ⟨cO a,eF a+14*q,none⟩))(ht:jR P t 14=true)(hf:pY A F O a (Ng lst))(hq:q<lst.length) :
  aM P S (SF w0 M H A F O) ⟨some d,.load t x,ty,pos,af,gd⟩ (lst.getD q Nd.zero).v:=⟨λ w hw=>by
 have hcl:=hw.cl hf
 obtain⟨dd,hu,hm,hi⟩:=iA ht
 have hagg:(isAgg t).run P w=.ok true w:=by
  unfold isAgg
  rw[Sem.run_bind,run_underlying hu w]
  cases dd<;>simp_all
 have hl:(loadCells ⟨cO a,eF a+14*q,none⟩ 14).run P w=.ok ⟨(lst.getD q Nd.zero).cells⟩ w:=by
  have:=run_loadCells_list (P:=P) w ⟨cO a,eF a+14*q,none⟩ (lst.getD q Nd.zero).cells (λ j z hz=>by
   have hj:j<14:=(List.getElem?_eq_some_iff.1 hz).1
   rw[Addr.add_lit]
   have h3:=(hcl.at_ (14*q+j) z (by rw[Vv hq hj];exact hz)).2
   rwa [<- Nat.add_assoc] at h3)
  exact this
 cases hq':P.info? t with
 | none=>rw[hq'] at hi;simp at hi
 | some i =>
  have hs:i.size=14:=by rw[hq'] at hi;simpa using hi
  simp[execOp,hx,Instr.loadAt,Instr.sureAddr,loadVar,hagg,Go.sizeOf,typeInfo,hq',hs,hl,Nd.v]⟩
def X1(v n:Int):Int:=IntKind.i64.wrap ((IntKind.u64.wrap v).tmod (IntKind.u64.wrap n))
def tvN(l:List Int)(k:Nat)(n:Int):Nat:=if k<l.length then(X1 (l.getD k 0) n).toNat else 0
def lA(l:List Int)(k:Nat):Nat:=if k<l.length then k+1 else k
theorem wrap_u64(i:Int):IntKind.u64.wrap i=i%18446744073709551616:=by
 simp[IntKind.wrap,IntKind.signed,IntKind.bits]
theorem S8{v n:Int}(h0:0<n)(h1:n<=9223372036854775807):0<=X1 v n/\X1 v n<n:=by
 unfold X1
 rw[wrap_u64,wrap_u64,Int.emod_eq_of_lt (a:=n) (by omega) (by omega)]
 have h2:=Int.emod_nonneg v (show(18446744073709551616:Int)≠0 by decide)
 have h3:=Int.tmod_lt_of_pos (v%18446744073709551616) h0
 have h4:=Int.tmod_nonneg n h2
 rw[wrap_i64 (by omega) (by omega)]
 exact⟨h4,h3⟩
def fk(T:TypeId)(a:Option Addr)(l:List Int)(c k:Nat):Obj:=.cells ⟨[.slice a l.length c,.int .i64 ((k:Nat):Int)]⟩ T (0,0)
structure Ly(w:World)(T:TypeId)(b:Nat)(a:Option Addr)(l:List Int)(c k:Nat):Prop where
 obj:w.heap[b]?=some (fk T a l c k)
 cl:Cl w a (aH l)
 ne:aH l≠[]->cO a≠b
 len:l.length<=17592186043904
theorem SF.tape(h:SF w0 M H A F O w){T b l}(ha:At H i b (fk T a l c k))(hf:pY A F [] a (aH l))(hl:l.length<=17592186043904):Ly w T b a l c k:=by
 refine⟨h.st.at ha,?_,λ hc e=>h.apart hf hc (e▸List.mem_append_left _ (List.mem_map.2 ⟨_,ha.mem,rfl⟩)),hl⟩
 cases hf with
 | bK h1=>exact h.cl (.bK h1)
 | new h1=>exact h.cl (.new h1)
 | own h1=>cases h1
 | hdr h1 _=>cases h1
theorem Ly.start{T b l}(h:Ly w T b a l c k):SF w [b] [(b,.cells ⟨[.slice a l.length c,.int .i64 ((k:Nat):Int)]⟩ T (0,0))] [(a,aH l)] [] [] w:=by
 refine⟨⟨rfl,rfl,rfl,Nat.le_refl _,λ _ _ _=>rfl,λ p hp=>?_,λ p hp=>?_,by simp⟩,λ f hf=>?_,λ _ h=>(List.not_mem_nil h).elim,λ _ h=>(List.not_mem_nil h).elim,by simp[Ks]⟩
 ·simp only[List.mem_singleton] at hp
  subst hp
  exact h.obj
 ·simp only[List.mem_singleton] at hp
  subst hp
  exact .inl (by simp)
 ·simp only[List.mem_singleton] at hf
  subst hf
  exact⟨h.cl,λ hc=>by simp only[Ks,List.map_cons,List.map_nil,List.flatMap_nil,List.append_nil,List.mem_singleton];exact h.ne hc⟩
end
end
section
section
variable{w0 w w':World}{M:List Nat}{H:List (Nat×Obj)}{A F:Fr}{O:List Ow}
structure aQ where
 nd:Nd
 xs:List Int
 ys:List Pr
structure Nv where
 kind:Int
 gen:Int
 main:Int
 bm:Int
 xs:List Int
 hash:Int
 key:ByteArray
 val:Int
 ys:List Pr
 prev:Int
 bK:Int
 exp:Int
 new:Int
 status:Int
def Nd.c(n:Nd)(xs:List Int)(ys:List Pr):Nv:=⟨n.kind,n.gen,n.main,n.bm,xs,n.hash,n.key,n.val,ys,n.prev,n.bK,n.exp,n.new,n.status⟩
def aQ.c(v:aQ):Nv:=v.nd.c v.xs v.ys
theorem Aw{a b:Nd}{x1 x2:List Int}{y1 y2:List Pr}:sQ a b x1 x2 y1 y2↔a.c x1 y1=b.c x2 y2:=by simp[sQ,Nd.c]
def aQ.fr(v:aQ):Fr:=[(v.nd.brA,aH v.xs),(v.nd.prA,cX v.ys)]
def aQ.zero:aQ:=⟨Nd.zero,[],[]⟩
def aN(L:List aQ):Fr:=L.flatMap aQ.fr
def iI(L:List aQ):List Value:=L.flatMap (·.nd.cells)
theorem V0(L:List aQ):iI L=Ng (L.map (·.nd)):=by simp[iI,Ng,List.flatMap_map]
theorem vb{L:List aQ}{k:Nat}:(L.map (·.nd)).getD k Nd.zero=(L.getD k aQ.zero).nd:=by
 rw[iU,iU,List.getElem?_map]
 cases L[k]?<;>rfl
theorem iZ(n:Nd):n.cells.length=14:=rfl
theorem G9(a b:List aQ):iI (a++b)=iI a++iI b:=by simp[iI]
theorem uy(v:aQ):iI [v]=v.nd.cells:=by simp[iI]
theorem kF(a:List aQ)(v:aQ):iI (a++[v])=iI a++v.nd.cells:=by rw[G9,uy]
theorem dE(a b:List aQ):aN (a++b)=aN a++aN b:=by simp[aN]
theorem eD:∀L:List aQ,(iI L).length=L.length*14
 | []=>rfl
 | v::L=>by
  have:=eD L
  simp only[iI,List.flatMap_cons,List.length_append,iZ,List.length_cons] at this ⊢
  omega
theorem Sc:∀{L:List aQ} {k j:Nat} {v:Value},k<L.length->(L.getD k aQ.zero).nd.cells[j]?=some v->(iI L)[14*k+j]?=some v
 | v::L,0,j,u,_,hj=>by
  have hlt:j<14:=by
   have:=(List.getElem?_eq_some_iff.1 hj).1
   simpa[iZ] using this
  simp only[iI,List.flatMap_cons,Nat.mul_zero,Nat.zero_add]
  rw[List.getElem?_append_left (by rw[iZ];exact hlt)]
  simpa using hj
 | v::L,k+1,j,u,hk,hj=>by
  simp only[iI,List.flatMap_cons]
  rw[List.getElem?_append_right (by rw[iZ];omega),iZ,show 14*(k+1)+j-14=14*k+j by omega]
  exact Sc (L:=L) (by simpa using hk) (by simpa using hj)
theorem C6(n:Nd):n.cells.all (·.oneCell')=true:=rfl
theorem An:∀L:List aQ,(iI L).all (·.oneCell')=true
 | []=>rfl
 | v::L=>by
  have:=An L
  simp only[iI,List.flatMap_cons,List.all_append,Bool.and_eq_true] at this ⊢
  exact⟨C6 _,this⟩
theorem oV{L:List aQ}{f:Option Addr×List Value}:f∈aN L↔∃v∈L,f∈v.fr:=by simp[aN]
theorem fR{L:List aQ}{k:Nat}(hk:k<L.length):L.getD k aQ.zero∈L:=by
 rw[iU,List.getElem?_eq_getElem hk];exact List.getElem_mem hk
theorem E2{L:List aQ}{k:Nat}(hk:k<L.length):((L.getD k aQ.zero).nd.brA,aH (L.getD k aQ.zero).xs)∈aN L:=oV.2 ⟨_,fR hk,by simp[aQ.fr]⟩
theorem E7{L:List aQ}{k:Nat}(hk:k<L.length):((L.getD k aQ.zero).nd.prA,cX (L.getD k aQ.zero).ys)∈aN L:=oV.2 ⟨_,fR hk,by simp[aQ.fr]⟩
structure aQ.Fit(v:aQ):Prop where
 brN:v.nd.brN=v.xs.length
 prN:v.nd.prN=v.ys.length
 brS:v.xs.length<=35184372088832
 prS:v.ys.length<=11728124029610
theorem aQ.Fit.sN{v:aQ}(h:v.Fit){w:World}(hb:Cl w v.nd.brA (aH v.xs))(hp:Cl w v.nd.prA (cX v.ys)):sG w v.nd v.xs v.ys :=
 ⟨h.brN,h.prN,hb,hp,by have:=h.brS;omega,by have:=h.prS;omega⟩
def Fits(L:List aQ):Prop:=∀v∈L,v.Fit
theorem Fits.at{L:List aQ}(h:Fits L){k:Nat}(hk:k<L.length):(L.getD k aQ.zero).Fit:=h _ (fR hk)
theorem Ou:aQ.zero.Fit:=⟨rfl,rfl,by decide,by decide⟩
structure rU(w:World)(L:List aQ)(cs:List Int)(pn pc:Option Addr):Prop where
 nds:Cl w pn (iI L)
 cls:Cl w pc (aH cs)
 fam:∀f∈aN L,Cl w f.1 f.2
 fit:Fits L
theorem rU.start{w:World}{L:List aQ}{cs:List Int}{pn pc:Option Addr}(h:rU w L cs pn pc):SF w [] [] ((pn,iI L)::(pc,aH cs)::aN L) [] [] w:=SF.begin λ f hf=>by
 rcases List.mem_cons.1 hf with rfl|hf
 ·exact h.nds
 rcases List.mem_cons.1 hf with rfl|hf
 ·exact h.cls
 ·exact h.fam f hf
theorem SF.P2{L:List aQ}{f1 f2:Option Addr×List Value}(h:SF w0 M H (f1::f2::aN L) F O w)(hfit:Fits L){k:Nat}(hk:k<L.length):sG w (L.getD k aQ.zero).nd (L.getD k aQ.zero).xs (L.getD k aQ.zero).ys :=
 (hfit.at hk).sN (h.bK _ (List.mem_cons_of_mem _ (List.mem_cons_of_mem _ (E2 hk)))).1 (h.bK _ (List.mem_cons_of_mem _ (List.mem_cons_of_mem _ (E7 hk)))).1
theorem SF.aBu{L:List aQ}(h:SF w0 M H (aN L) F O w)(hfit:Fits L){k:Nat}(hk:k<L.length):sG w (L.getD k aQ.zero).nd (L.getD k aQ.zero).xs (L.getD k aQ.zero).ys :=
 (hfit.at hk).sN (h.bK _ (E2 hk)).1 (h.bK _ (E7 hk)).1
theorem SF.aCP{L:List aQ}(h:SF w0 M H A F O w)(hF:∀f∈aN L,f.2=[]∨f∈A∨f∈F)(hfit:Fits L){v:aQ}(hv:v∈L):sG w v.nd v.xs v.ys:=by
 have key:∀f∈aN L,Cl w f.1 f.2:=λ f hf=>by
  rcases hF f hf with h0|h1|h1
  ·rw[h0];exact Cl.nil _ _
  ·exact(h.bK f h1).1
  ·exact(h.new f h1).1
 exact(hfit v hv).sN (key (v.nd.brA,aH v.xs) (oV.2 ⟨v,hv,by simp[aQ.fr]⟩)) (key (v.nd.prA,cX v.ys) (oV.2 ⟨v,hv,by simp[aQ.fr]⟩))
variable{P:Program}{S:List (Nat×Value)}{G:World->Prop}{d:Nat}{ty:TypeId}{pos:String}{af:Array Edge}{gd:Option (Nat×Bool)}{x y:Operand}{t t2 e:TypeId}{p a:Option Addr}{i m k c c2:Nat}
theorem sI{L:List aQ}{kk:IntKind}(hx:ev S x=.slice a m c)(hy:ev S y=.int kk ((k:Nat):Int))(ht:P.underlying t=some (.slice e))(hs:jR P e 14=true)(hf:pY A F O a (iI L))(h1:k<m)(h2:k<L.length) :
  aM P S (SF w0 M H A F O) ⟨some d,.indexAddr t x y,ty,pos,af,gd⟩ (.pointer (some ⟨cO a,eF a+14*k,none⟩)):=jh (lst:=L.map (·.nd)) hx hy ht hs (by rw[<- V0];exact hf) h1 (by simpa using h2)
theorem Wi{L:List aQ}{q:Nat}(hx:ev S x=.pointer (some ⟨cO a,eF a+14*q,none⟩))(ht:jR P t 14=true)(hf:pY A F O a (iI L))(hq:q<L.length) :
  aM P S (SF w0 M H A F O) ⟨some d,.load t x,ty,pos,af,gd⟩ (L.getD q aQ.zero).nd.v:=by
 have:=uu (P:=P) (S:=S) (w0:=w0) (M:=M) (H:=H) (A:=A) (F:=F) (O:=O) (d:=d) (ty:=ty) (pos:=pos) (af:=af) (gd:=gd) (lst:=L.map (·.nd)) hx ht (by rw[<- V0];exact hf) (by simpa using hq)
 rwa [vb] at this
theorem l7{L:List aQ}{q j:Nat}{v:Value}(hx:ev S x=.pointer (some ⟨cO a,eF a+14*q+j,none⟩))(ht:one P t=true)(hj:(L.getD q aQ.zero).nd.cells[j]?=some v)(hf:pY A F O a (iI L))(hq:q<L.length) :
  aM P S (SF w0 M H A F O) ⟨some d,.load t x,ty,pos,af,gd⟩ v:=nX (q:=14*q+j) (by rw[hx];simp only[Nat.add_assoc]) ht (λ w hw=>hw.cl hf) (Sc hq hj)
theorem wB{L:List aQ}{q:Nat}(hx:ev S x=.pointer (some ⟨cO a,eF a+14*q,none⟩))(ht:one P t=true)(hf:pY A F O a (iI L))(hq:q<L.length) :
  aM P S (SF w0 M H A F O) ⟨some d,.load t x,ty,pos,af,gd⟩ (.int .i64 (L.getD q aQ.zero).nd.kind):=nX (q:=14*q) hx ht (λ w hw=>hw.cl hf) (Sc (j:=0) hq rfl)
theorem qn{L:List aQ}{zc:List Value}(v:aQ)(hx:ev S x=.slice p m c)(hy:ev S y=.slice a 1 c2)(ho:xP O i p (iI L) c e 14)(hm:L.length=m)(hf:pY A F O a v.nd.cells)
  (he:dW P t e zc) (hz:zc.length=14) (ht2:P.underlying t2=some (.slice e)) (hb:m+1<=549755813888) :
  bG P S (SF w0 M H A F O) ⟨some d,.call {callee:=.builtin .append,args := #[x,y],argTypes := #[t,t2]},ty,pos,af,gd⟩ (Option Addr×Nat) (λ q=>.slice q.1 (m+1) q.2)
   (λ q w=>m+1<=q.2/\SF w0 M H A F (lD O i ⟨q.1,iI (L++[v]),q.2,e,14⟩) w):=by
 rw[kF]
 exact fY hx hy ho (by rw[eD,hm]) hf (by simp[Nd.cells]) (C6 _) he hz (by decide) ht2 hb
theorem du{L L2:List aQ}{zc:List Value}(hx:ev S x=.slice p m c)(hy:ev S y=.slice a k c2)(ho:xP O i p (iI L) c e 14)(hm:L.length=m)(hf:pY A F O a (iI L2))(hk:L2.length=k)
  (he:dW P t e zc) (hz:zc.length=14) (ht2:P.underlying t2=some (.slice e)) (hb:m+k<=549755813888) :
  bG P S (SF w0 M H A F O) ⟨some d,.call {callee:=.builtin .append,args := #[x,y],argTypes := #[t,t2]},ty,pos,af,gd⟩ (Option Addr×Nat) (λ q=>.slice q.1 (m+k) q.2)
   (λ q w=>m+k<=q.2/\SF w0 M H A F (lD O i ⟨q.1,iI (L++L2),q.2,e,14⟩) w):=by
 rw[G9]
 exact fY hx hy ho (by rw[eD,hm]) hf (by rw[eD,hk]) (An _) he hz (by decide) ht2 hb
theorem sc{k:Nat}{k1 k2:IntKind}{zc:List Value}(hx:ev S x=.int k1 0)(hy:ev S y=.int k2 ((k:Nat):Int))(he:dW P t e zc)(hz:zc.length=14)(hk:k<=1099511627776) :
  bG P S (SF w0 M H A F O) ⟨some d,.makeSlice t x y,ty,pos,af,gd⟩ Nat (λ b=>.slice (some ⟨b,0,none⟩) 0 k) (λ b=>SF w0 M H A F (⟨some ⟨b,0,none⟩,iI [],k,e,14⟩::O)):=by
 have:=Xc (P:=P) (S:=S) (w0:=w0) (M:=M) (H:=H) (A:=A) (F:=F) (O:=O) (d:=d) (ty:=ty) (pos:=pos) (af:=af) (gd:=gd) (m:=0) (k:=k) (k1:=k1) (k2:=k2) (x:=x) (y:=y) (cs:=iI []) (by simpa using hx) hy he (Nat.zero_le _) hk (List.eq_nil_of_length_eq_zero (by rw[kB];simp))
 rwa [hz] at this
section
variable{m n:Nat}{t':TypeId}
theorem pA(hx:ev S x=.int .i64 ((m:Nat):Int))(hy:ev S y=.int .i64 ((n:Nat):Int))(h:m+n<=9223372036854775807) :
  aM P S G ⟨some d,.binOp .add t x y t',ty,pos,af,gd⟩ (.int .i64 ((m+n:Nat):Int)):=by
 have:=oL (P:=P) (G:=G) (d:=d) (ty:=ty) (pos:=pos) (af:=af) (gd:=gd) (t:=t) (t':=t') hx hy
 rw[wrap_i64 (by omega) (by omega)] at this
 rw[Int.natCast_add]
 exact this
theorem jK(hx:ev S x=.int .i64 ((m:Nat):Int))(hy:ev S y=.int .i64 ((n:Nat):Int))(h:n<=m)(h2:m<=9223372036854775807) :
  aM P S G ⟨some d,.binOp .sub t x y t',ty,pos,af,gd⟩ (.int .i64 ((m-n:Nat):Int)):=by
 have:=P1 (P:=P) (G:=G) (d:=d) (ty:=ty) (pos:=pos) (af:=af) (gd:=gd) (t:=t) (t':=t') hx hy
 rw[wrap_i64 (by omega) (by omega)] at this
 rw[Int.natCast_sub h]
 exact this
end
theorem jJ{P:Program}{S:List (Nat×Value)}{G:World->Prop}{d:Nat}{ty:TypeId}{pos:String}{af:Array Edge}{gd:Option (Nat×Bool)}{x:Operand}{vs:List Value}{k:Nat}{v:Value}(hx:ev S x=.tuple ⟨vs⟩)(hk:vs[k]?=some v):aM P S G ⟨some d,.extract x k,ty,pos,af,gd⟩ v:=⟨λ w _=>by
 simp[execOp,hx,Instr.extract,hk]⟩
theorem L7{a:Int}(hx:ev S x=.int .i64 a)(hy:ev S y=.int .i64 1)(h:1<=a)(h2:a<=9223372036854775807):aM P S G ⟨some d,.binOp .sub t x y t2,ty,pos,af,gd⟩ (.int .i64 (((a-1).toNat:Nat):Int)):=by
 have:=Tc (P:=P) (G:=G) (d:=d) (ty:=ty) (pos:=pos) (af:=af) (gd:=gd) (t:=t) (t':=t2) hx hy (by omega)
 rwa [show a-1=(((a-1).toNat:Nat):Int) by omega] at this
theorem Oo:∀(L:List aQ) (k:Nat),(iI L).drop (k*14)=iI (L.drop k)
 | [],k=>by simp[iI]
 | v::L,0=>by simp
 | v::L,k+1=>by
  have:=Oo L k
  rw[List.drop_succ_cons,<- this]
  show(v.nd.cells++iI L).drop ((k+1)*14)=_
  rw[List.drop_append,List.drop_eq_nil_of_le (by rw[iZ];omega),iZ,List.nil_append]
  congr 1
  omega
theorem uc{L:List aQ}(hx:ev S x=.slice a m c)(hy:ev S y=.int .i64 ((k:Nat):Int))(ht:P.underlying t=some (.slice e))(hs:(P.info? e).map (·.size)=some 14)(hk:k<=m)(hf:pY A F [] a (iI L))(hmc:m<=c)(hl:L.length=m) :
  bG P S (SF w0 M H A F O) ⟨some d,.slice t x (some y) none none,ty,pos,af,gd⟩ (Option Addr) (λ p=>.slice p (m-k) (c-k)) (λ p=>SF w0 M H ((p,iI (L.drop k))::A) F O):=by
 have:=si (P:=P) (w0:=w0) (M:=M) (H:=H) (O:=O) (d:=d) (ty:=ty) (pos:=pos) (af:=af) (gd:=gd) hx hy ht hs hk hf hmc (by rw[eD,hl])
 rw[Oo] at this
 exact this
theorem SF.aAd(h:SF w0 M H A F O w){L:List aQ}{T:TypeId}(ho:xP O i p (iI L) c T 14):L.length<=c:=by
 rcases(h.own _ ho.mem).1 with⟨_,h2,_⟩|⟨b,rest,_,_,h3⟩
 ·have h2':iI L=[]:=h2
  have:(iI L).length=0:=by rw[h2'];rfl
  rw[eD] at this
  omega
 ·have h3':(iI L++rest).length=c*14:=h3
  rw[List.length_append,eD] at h3'
  omega
theorem aU{b off:Nat}{cs vs:List Value}{T:TypeId}(hx:ev S x=.pointer (some ⟨b,off,none⟩))(ha:At H i b (.cells ⟨cs⟩ T (0,0)))(ht:jR P t k=true)(hv:(cs.drop off).take k=vs)(hl:vs.length=k) :
  aM P S (SF w0 M H A F O) ⟨some d,.load t x,ty,pos,af,gd⟩ (.agg ⟨vs⟩):=⟨λ w hw=>by
 have hb:=hw.st.at ha
 have hcl:Cl w (some ⟨b,0,none⟩) cs:=Cl.block (pre:=[]) (rest:=[]) (by simpa using hb) rfl
 obtain⟨dd,hu,hm,hi⟩:=iA ht
 have hagg:(isAgg t).run P w=.ok true w:=by
  unfold isAgg
  rw[Sem.run_bind,run_underlying hu w]
  cases dd<;>simp_all
 have hlc:(loadCells ⟨b,off,none⟩ k).run P w=.ok ⟨vs⟩ w:=by
  have:=run_loadCells_list (P:=P) w ⟨b,off,none⟩ vs (λ j z hz=>by
   rw[Addr.add_lit]
   have hj:j<k:=by rw[<- hl];exact(List.getElem?_eq_some_iff.1 hz).1
   have h1:cs[off+j]?=some z:=by
    rw[<- hv,List.getElem?_take,if_pos hj,List.getElem?_drop] at hz
    exact hz
   have h3:=(hcl.at_ (off+j) z h1).2
   simpa[cO,eF] using h3)
  rwa [hl] at this
 cases hq':P.info? t with
 | none=>rw[hq'] at hi;simp at hi
 | some inf =>
  have hs:inf.size=k:=by rw[hq'] at hi;simpa using hi
  simp[execOp,hx,Instr.loadAt,Instr.sureAddr,loadVar,hagg,Go.sizeOf,typeInfo,hq',hs,hlc]⟩
def A8(P:Program)(t:TypeId)(k:Nat):Option Nat :=
 match P.underlying t with
 | some (.struct fs)=>match fs[k]? with
  | some f=>if one P f.type then some f.offset else none
  | none=>none
 | _=>none
theorem M4{cs:List Value}{off:Nat}{v:Value}(hx:ev S x=.agg ⟨cs⟩)(hf:A8 P t k=some off)(hv:cs[off]?=some v):aM P S G ⟨some d,.field t x k,ty,pos,af,gd⟩ v:=⟨λ w _=>by
 unfold A8 at hf
 cases hu:P.underlying t with
 | none=>simp[hu] at hf
 | some dd =>
  cases dd<;>simp[hu] at hf
  rename_i fs
  cases hk:fs[k]? with
  | none=>simp[hk] at hf
  | some f =>
   simp only[hk] at hf
   split at hf
   ·rename_i h1
    simp only[Option.some.injEq] at hf
    subst hf
    have hp:=tX (P:=P) h1 (cs:=⟨cs⟩) (off:=f.offset) (v:=v) (by simpa using hv) w
    simp[execOp,hx,Instr.field,run_underlying hu,hk,asAgg,hp]
   ·cases hf⟩
def jP(l:List Bool):List Value:=l.map .bool
theorem zD(l:List Bool):(jP l).length=l.length:=by simp[jP]
theorem Y3{l:List Bool}{k:Nat}(h:k<l.length):(jP l)[k]?=some (.bool (l.getD k false)):=by simp[jP,h,List.getD]
theorem Uj(k:Nat):made [.bool false] k=jP (List.replicate k false):=by
 refine List.ext_getElem? λ i=>?_
 by_cases hi:i<k
 ·simp[made,madeCells,jP,Array.getElem?_toList,Array.getElem?_map,Array.getElem?_range,hi,Nat.mod_one]
 ·rw[List.getElem?_eq_none (by rw[kB];simp;omega),List.getElem?_eq_none (by simp[jP];omega)]
theorem u7{m k:Nat}{k1 k2:IntKind}(hx:ev S x=.int k1 ((m:Nat):Int))(hy:ev S y=.int k2 ((k:Nat):Int))(he:dW P t e [.bool false])(hmk:m<=k)(hk:k<=1099511627776) :
  bG P S (SF w0 M H A F O) ⟨some d,.makeSlice t x y,ty,pos,af,gd⟩ Nat (λ b=>.slice (some ⟨b,0,none⟩) m k) (λ b=>SF w0 M H A F (⟨some ⟨b,0,none⟩,jP (List.replicate m false),k,e,1⟩::O)) :=
 Xc hx hy he hmk hk (Uj m)
theorem oD{lst:List Bool}{kk:IntKind}(hx:ev S x=.slice a m c)(hy:ev S y=.int kk ((k:Nat):Int))(ht:P.underlying t=some (.slice e))(hs:one P e=true)(hf:pY A F O a (jP lst))(h1:k<m)(h2:k<lst.length) :
  aM P S (SF w0 M H A F O) ⟨some d,.indexAddr t x y,ty,pos,af,gd⟩ (.pointer (some ⟨cO a,eF a+k,none⟩)):=⟨λ w hw =>
 (A1 (G:=SF w0 M H A F O) hx hy ht hs ((hw.cl hf).ptr (by rw[zD];omega)) h1).run w hw⟩
theorem Au{lst:List Bool}{q:Nat}(hx:ev S x=.pointer (some ⟨cO a,eF a+q,none⟩))(ht:one P t=true)(hf:pY A F O a (jP lst))(hq:q<lst.length) :
  aM P S (SF w0 M H A F O) ⟨some d,.load t x,ty,pos,af,gd⟩ (.bool (lst.getD q false)):=nX hx ht (λ w hw=>hw.cl hf) (Y3 hq)
theorem Us(l:List Bool)(k:Nat)(v:Bool):(jP l).set k (.bool v)=jP (l.set k v):=by simp[jP]
theorem cj{q:Nat}{l:List Bool}{v:Bool}(hx:ev S x=.pointer (some ⟨cO p,eF p+q,none⟩))(hy:ev S y=.bool v)(ht:one P t=true)(ho:xP O i p (jP l) c e 1)(hq:q<l.length) :
  bG P S (SF w0 M H A F O) ⟨none,.store t x y,ty,pos,af,gd⟩ Unit (λ _=>undef) (λ _=>SF w0 M H A F (lD O i ⟨p,jP (l.set q v),c,e,1⟩)):=by
 rw[<- Us]
 exact Qv hx hy rfl ht ho (by rw[zD];exact hq)
theorem je(hx:ev S x=.slice a m c)(hy:ev S y=.slice none 0 0)(ht:P.underlying t=some (.slice e)):aM P S G ⟨some d,.binOp .eql t x y t2,ty,pos,af,gd⟩ (.bool a.isNone):=⟨λ w _=>by
 have:=Go.Lib.run_eql_slice_nil (P:=P) w t e a m c 0 0 ht
 simp[execOp,hx,hy,this,eqGuard]⟩
def Kb(P:Program)(t:TypeId):Bool:=match P.underlying t with|some (.pointer _)=>true|_=>false
theorem Ql(h:Kb P t=true):P.underlying t=some (.pointer (P.pointee t)):=by
 unfold Kb at h
 cases hu:P.underlying t with
 | none=>simp[hu] at h
 | some dd=>cases dd<;>simp[hu,Program.pointee] at h ⊢
theorem uv{q:Option Addr}(hx:ev S x=.pointer q)(hy:ev S y=.pointer none)(ht:Kb P t=true):aM P S G ⟨some d,.binOp .eql t x y t2,ty,pos,af,gd⟩ (.bool q.isNone):=⟨λ w _=>by
 have:=run_eql_pointer_nil (P:=P) w t q (Ql ht)
 simp[execOp,hx,hy,this,eqGuard]⟩
theorem Xd{q:Option Addr}(hx:ev S x=.pointer q)(hy:ev S y=.pointer none)(ht:Kb P t=true):aM P S G ⟨some d,.binOp .neq t x y t2,ty,pos,af,gd⟩ (.bool (!q.isNone)):=⟨λ w _=>by
 have:=run_neq_pointer_nil (P:=P) w t q (Ql ht)
 simp[execOp,hx,hy,this,eqGuard]⟩
end
end
end Go.Ct
namespace Go.Proofs.YtbajmaoegmbfgaaGreat
open Go.Proofs.Tryz (prog)
open Go.RowKit Go.Ct
section
def aBb:List Nat:=[2,3,4,5,9,12,15,16,17,20,21,22,23,25,27,30,31,32,33,37,42,44,45,50,56,62,74,85,95,102,108,115,122,123,129,130,151,156,169,209,255,259]
theorem xm:(aBb.all λ t=>one prog t)=true:=by kernel_rfl
theorem Lw{t:Nat}(h:aBb.elem t=true):one prog t=true:=List.all_eq_true.1 xm t (List.mem_of_elem_eq_true h)
def aCt:List (Nat×Nat):=[(29,2),(35,4),(39,5),(47,14),(52,3),(54,4),(64,8),(76,2),(87,3),(89,25),(114,2),(125,3),(128,4),(132,14),(139,4),(141,17),(153,52),(159,5),(164,2),(230,2)]
theorem yz:(aCt.all λ p=>jR prog p.1 p.2)=true:=by kernel_rfl
theorem Uh{t k:Nat}(h:(aCt.any λ p=>Nat.beq p.1 t&&Nat.beq p.2 k)=true):jR prog t k=true:=by
 obtain⟨p,hp,ht⟩:=List.any_eq_true.1 h
 simp only[Bool.and_eq_true] at ht
 have h2:=List.all_eq_true.1 yz p hp
 rwa [eW ht.1,eW ht.2] at h2
theorem yW:dB prog 29=some (.agg ⟨[.int .i64 0,.bool false]⟩):=by kernel_rfl
theorem Il{t:Nat}(h:Nat.beq t 29=true):dB prog t=some (.agg ⟨[.int .i64 0,.bool false]⟩):=by rw[eW h];exact yW
theorem Cv{t:Nat}(h:Nat.beq t 29=true):structOf prog t [.int .i64 0,.bool false]:=by rw[eW h];exact iG (by kernel_rfl) yW
theorem vW:dB prog 35=some (.agg ⟨[.pointer none,.int .u64 0,.slice none 0 0,.slice none 0 0]⟩):=by kernel_rfl
theorem sO{t:Nat}(h:Nat.beq t 35=true):structOf prog t [.pointer none,.int .u64 0,.slice none 0 0,.slice none 0 0]:=by rw[eW h];exact iG (by kernel_rfl) vW
theorem nE:dB prog 39=some (.agg ⟨[.int .i64 0,.int .i64 0,.int .i64 0,.int .i64 0,.slice none 0 0]⟩):=by kernel_rfl
theorem uG{t:Nat}(h:Nat.beq t 39=true):dB prog t=some (.agg ⟨[.int .i64 0,.int .i64 0,.int .i64 0,.int .i64 0,.slice none 0 0]⟩):=by rw[eW h];exact nE
theorem rM{t:Nat}(h:Nat.beq t 39=true):structOf prog t [.int .i64 0,.int .i64 0,.int .i64 0,.int .i64 0,.slice none 0 0]:=by rw[eW h];exact iG (by kernel_rfl) nE
theorem yV:dB prog 47=some (.agg ⟨[.int .i64 0,.int .i64 0,.int .i64 0,.int .u64 0,.slice none 0 0,.int .u64 0,.string ⟨#[]⟩,.int .u64 0,.slice none 0 0,.int .i64 0,.int .i64 0,.int .i64 0,.int .i64 0,.int .i64 0]⟩):=by kernel_rfl
theorem Hu{t:Nat}(h:Nat.beq t 47=true):dB prog t=some (.agg ⟨[.int .i64 0,.int .i64 0,.int .i64 0,.int .u64 0,.slice none 0 0,.int .u64 0,.string ⟨#[]⟩,.int .u64 0,.slice none 0 0,.int .i64 0,.int .i64 0,.int .i64 0,.int .i64 0,.int .i64 0]⟩):=by rw[eW h];exact yV
theorem B4{t:Nat}(h:Nat.beq t 47=true):structOf prog t [.int .i64 0,.int .i64 0,.int .i64 0,.int .u64 0,.slice none 0 0,.int .u64 0,.string ⟨#[]⟩,.int .u64 0,.slice none 0 0,.int .i64 0,.int .i64 0,.int .i64 0,.int .i64 0,.int .i64 0]:=by rw[eW h];exact iG (by kernel_rfl) yV
theorem Fk:dB prog 52=some (.agg ⟨[.slice none 0 0,.slice none 0 0,.int .i64 0]⟩):=by kernel_rfl
theorem Ao{t:Nat}(h:Nat.beq t 52=true):structOf prog t [.slice none 0 0,.slice none 0 0,.int .i64 0]:=by rw[eW h];exact iG (by kernel_rfl) Fk
theorem yM:dB prog 54=some (.agg ⟨[.slice none 0 0,.slice none 0 0,.int .i64 0,.int .i64 0]⟩):=by kernel_rfl
theorem vC{t:Nat}(h:Nat.beq t 54=true):placeOf prog t [(0,3),(3,1)] [.slice none 0 0,.slice none 0 0,.int .i64 0,.int .i64 0]:=by rw[eW h];exact lO (by kernel_rfl) yM
theorem uK:dB prog 64=some (.agg ⟨[.int .i64 0,.bool false,.int .u64 0,.string ⟨#[]⟩,.int .i64 0,.int .i64 0,.int .i64 0,.bool false]⟩):=by kernel_rfl
theorem Bp{t:Nat}(h:Nat.beq t 64=true):dB prog t=some (.agg ⟨[.int .i64 0,.bool false,.int .u64 0,.string ⟨#[]⟩,.int .i64 0,.int .i64 0,.int .i64 0,.bool false]⟩):=by rw[eW h];exact uK
theorem Ah{t:Nat}(h:Nat.beq t 64=true):placeOf prog t [(0,1),(1,1),(2,1),(3,1),(4,1),(5,1),(6,2)] [.int .i64 0,.bool false,.int .u64 0,.string ⟨#[]⟩,.int .i64 0,.int .i64 0,.int .i64 0,.bool false]:=by rw[eW h];exact lO (by kernel_rfl) uK
theorem oK:dB prog 89=some (.agg ⟨[.int .i64 0,.int .i64 0,.bool false,.int .i64 0,.int .i64 0,.int .i64 0,.int .i64 0,.int .u64 0,.int .u64 0,.string ⟨#[]⟩,.int .u64 0,.int .u64 0,.int .i64 0,.bool false,.bool false,.slice none 0 0,.slice none 0 0,.int .i64 0,.bool false,.int .u64 0,.string ⟨#[]⟩,.int .i64 0,.int .i64 0,.int .i64 0,.bool false]⟩):=by kernel_rfl
theorem uX{t:Nat}(h:Nat.beq t 89=true):dB prog t=some (.agg ⟨[.int .i64 0,.int .i64 0,.bool false,.int .i64 0,.int .i64 0,.int .i64 0,.int .i64 0,.int .u64 0,.int .u64 0,.string ⟨#[]⟩,.int .u64 0,.int .u64 0,.int .i64 0,.bool false,.bool false,.slice none 0 0,.slice none 0 0,.int .i64 0,.bool false,.int .u64 0,.string ⟨#[]⟩,.int .i64 0,.int .i64 0,.int .i64 0,.bool false]⟩):=by rw[eW h];exact oK
theorem tE{t:Nat}(h:Nat.beq t 89=true):placeOf prog t [(0,1),(1,2),(3,1),(4,1),(5,1),(6,1),(7,1),(8,1),(9,1),(10,1),(11,1),(12,1),(13,1),(14,3),(17,8)] [.int .i64 0,.int .i64 0,.bool false,.int .i64 0,.int .i64 0,.int .i64 0,.int .i64 0,.int .u64 0,.int .u64 0,.string ⟨#[]⟩,.int .u64 0,.int .u64 0,.int .i64 0,.bool false,.bool false,.slice none 0 0,.slice none 0 0,.int .i64 0,.bool false,.int .u64 0,.string ⟨#[]⟩,.int .i64 0,.int .i64 0,.int .i64 0,.bool false]:=by rw[eW h];exact lO (by kernel_rfl) oK
theorem yK:dB prog 114=some (.agg ⟨[.slice none 0 0,.int .i64 0]⟩):=by kernel_rfl
theorem tV{t:Nat}(h:Nat.beq t 114=true):structOf prog t [.slice none 0 0,.int .i64 0]:=by rw[eW h];exact iG (by kernel_rfl) yK
theorem Ai:dB prog 125=some (.agg ⟨[.nilIface,.int .i64 0,.bool false]⟩):=by kernel_rfl
theorem Iy{t:Nat}(h:Nat.beq t 125=true):dB prog t=some (.agg ⟨[.nilIface,.int .i64 0,.bool false]⟩):=by rw[eW h];exact Ai
theorem Gv{t:Nat}(h:Nat.beq t 125=true):placeOf prog t [(0,1),(1,2)] [.nilIface,.int .i64 0,.bool false]:=by rw[eW h];exact lO (by kernel_rfl) Ai
theorem uN:dB prog 128=some (.agg ⟨[.int .i64 0,.int .i64 0,.int .i64 0,.int .i64 0]⟩):=by kernel_rfl
theorem Co{t:Nat}(h:Nat.beq t 128=true):dB prog t=some (.agg ⟨[.int .i64 0,.int .i64 0,.int .i64 0,.int .i64 0]⟩):=by rw[eW h];exact uN
theorem zR{t:Nat}(h:Nat.beq t 128=true):structOf prog t [.int .i64 0,.int .i64 0,.int .i64 0,.int .i64 0]:=by rw[eW h];exact iG (by kernel_rfl) uN
theorem xA:dB prog 132=some (.agg ⟨[.int .i64 0,.int .i64 0,.int .i64 0,.int .i64 0,.nilFunc,.nilFunc,.int .i64 0,.bool false,.int .u64 0,.string ⟨#[]⟩,.int .i64 0,.int .i64 0,.int .i64 0,.bool false]⟩):=by kernel_rfl
theorem Eb{t:Nat}(h:Nat.beq t 132=true):dB prog t=some (.agg ⟨[.int .i64 0,.int .i64 0,.int .i64 0,.int .i64 0,.nilFunc,.nilFunc,.int .i64 0,.bool false,.int .u64 0,.string ⟨#[]⟩,.int .i64 0,.int .i64 0,.int .i64 0,.bool false]⟩):=by rw[eW h];exact xA
theorem Bq{t:Nat}(h:Nat.beq t 132=true):placeOf prog t [(0,4),(4,1),(5,1),(6,8)] [.int .i64 0,.int .i64 0,.int .i64 0,.int .i64 0,.nilFunc,.nilFunc,.int .i64 0,.bool false,.int .u64 0,.string ⟨#[]⟩,.int .i64 0,.int .i64 0,.int .i64 0,.bool false]:=by rw[eW h];exact lO (by kernel_rfl) xA
theorem Cm:dB prog 139=some (.agg ⟨[.slice none 0 0,.slice none 0 0,.int .i64 0,.int .i64 0]⟩):=by kernel_rfl
theorem yN{t:Nat}(h:Nat.beq t 139=true):structOf prog t [.slice none 0 0,.slice none 0 0,.int .i64 0,.int .i64 0]:=by rw[eW h];exact iG (by kernel_rfl) Cm
theorem F2:dB prog 141=some (.agg ⟨[.nilIface,.int .i64 0,.int .i64 0,.int .i64 0,.int .i64 0,.nilFunc,.nilFunc,.int .i64 0,.bool false,.int .u64 0,.string ⟨#[]⟩,.int .i64 0,.int .i64 0,.int .i64 0,.bool false,.int .i64 0,.bool false]⟩):=by kernel_rfl
theorem Ce{t:Nat}(h:Nat.beq t 141=true):placeOf prog t [(0,1),(1,14),(15,1),(16,1)] [.nilIface,.int .i64 0,.int .i64 0,.int .i64 0,.int .i64 0,.nilFunc,.nilFunc,.int .i64 0,.bool false,.int .u64 0,.string ⟨#[]⟩,.int .i64 0,.int .i64 0,.int .i64 0,.bool false,.int .i64 0,.bool false]:=by rw[eW h];exact lO (by kernel_rfl) F2
theorem vP:dB prog 153=some (.agg ⟨[.pointer none,.int .i64 0,.int .i64 0,.bool false,.int .i64 0,.int .i64 0,.int .i64 0,.int .i64 0,.int .u64 0,.int .u64 0,.string ⟨#[]⟩,.int .u64 0,.int .u64 0,.int .i64 0,.bool false,.bool false,.slice none 0 0,.slice none 0 0,.int .i64 0,.bool false,.int .u64 0,.string ⟨#[]⟩,.int .i64 0,.int .i64 0,.int .i64 0,.bool false,.slice none 0 0,.slice none 0 0,.slice none 0 0,.slice none 0 0,.int .i64 0,.int .i64 0,.int .i64 0,.int .i64 0,.int .i64 0,.bool false,.int .i64 0,.int .i64 0,.int .i64 0,.int .i64 0,.bool false,.int .i64 0,.bool false,.int .u64 0,.string ⟨#[]⟩,.int .i64 0,.int .i64 0,.int .i64 0,.bool false,.bool false,.slice none 0 0,.slice none 0 0]⟩):=by kernel_rfl
theorem tI{t:Nat}(h:Nat.beq t 153=true):placeOf prog t [(0,1),(1,25),(26,1),(27,1),(28,1),(29,1),(30,1),(31,1),(32,1),(33,1),(34,1),(35,1),(36,4),(40,1),(41,8),(49,3)] [.pointer none,.int .i64 0,.int .i64 0,.bool false,.int .i64 0,.int .i64 0,.int .i64 0,.int .i64 0,.int .u64 0,.int .u64 0,.string ⟨#[]⟩,.int .u64 0,.int .u64 0,.int .i64 0,.bool false,.bool false,.slice none 0 0,.slice none 0 0,.int .i64 0,.bool false,.int .u64 0,.string ⟨#[]⟩,.int .i64 0,.int .i64 0,.int .i64 0,.bool false,.slice none 0 0,.slice none 0 0,.slice none 0 0,.slice none 0 0,.int .i64 0,.int .i64 0,.int .i64 0,.int .i64 0,.int .i64 0,.bool false,.int .i64 0,.int .i64 0,.int .i64 0,.int .i64 0,.bool false,.int .i64 0,.bool false,.int .u64 0,.string ⟨#[]⟩,.int .i64 0,.int .i64 0,.int .i64 0,.bool false,.bool false,.slice none 0 0,.slice none 0 0]:=by rw[eW h];exact lO (by kernel_rfl) vP
theorem yS:dB prog 164=some (.agg ⟨[.string ⟨#[]⟩,.int .u64 0]⟩):=by kernel_rfl
theorem Ig{t:Nat}(h:Nat.beq t 164=true):dB prog t=some (.agg ⟨[.string ⟨#[]⟩,.int .u64 0]⟩):=by rw[eW h];exact yS
theorem Bv{t:Nat}(h:Nat.beq t 164=true):structOf prog t [.string ⟨#[]⟩,.int .u64 0]:=by rw[eW h];exact iG (by kernel_rfl) yS
def aCx:List (Nat×Nat):=[(29,0),(29,1),(35,0),(35,1),(35,2),(35,3),(39,0),(39,1),(39,2),(39,3),(39,4),(47,0),(47,1),(47,2),(47,3),(47,4),(47,5),(47,6),(47,7),(47,8),(47,9),(47,10),(47,11),(47,12),(47,13),(52,0),(52,1),(52,2),(54,0),(64,0),(64,1),(64,2),(64,3),(64,4),(64,5),(64,6),(76,0),(76,1),(87,0),(87,1),(87,2),(89,0),(89,1),(114,0),(114,1),(125,0),(125,1),(128,0),(128,1),(128,2),(128,3),(132,0),(139,0),(139,1),(139,2),(139,3),(141,0),(141,1),(153,0),(153,1),(159,0),(164,0),(164,1),(230,0),(230,1)]
theorem aAG:(aCx.all λ p=>cU prog p.1 p.2==some p.2)=true:=by kernel_rfl
theorem aAJ{t k:Nat}(h:(aCx.any λ p=>Nat.beq p.1 t&&Nat.beq p.2 k)=true):cU prog t k=some k:=by
 obtain⟨p,hp,ht⟩:=List.any_eq_true.1 h
 simp only[Bool.and_eq_true] at ht
 have h2:=eq_of_beq (List.all_eq_true.1 aAG p hp)
 rwa [eW ht.1,eW ht.2] at h2
def xc:List (Nat×Nat):=[(29,0),(29,1),(35,0),(35,1),(35,2),(35,3),(39,0),(39,1),(39,2),(39,3),(39,4),(47,0),(47,1),(47,2),(47,3),(47,4),(47,5),(47,6),(47,7),(47,8),(47,9),(47,10),(47,11),(47,12),(47,13),(52,0),(52,1),(52,2),(64,0),(64,1),(64,2),(64,3),(64,4),(64,5),(76,0),(76,1),(87,0),(87,1),(87,2),(89,0),(114,0),(114,1),(125,0),(128,0),(128,1),(128,2),(128,3),(139,0),(139,1),(139,2),(139,3),(141,0),(153,0),(164,0),(164,1),(230,0),(230,1)]
theorem r8:(xc.all λ p=>A8 prog p.1 p.2==some p.2)=true:=by kernel_rfl
theorem Mf{t k:Nat}(h:(xc.any λ p=>Nat.beq p.1 t&&Nat.beq p.2 k)=true):A8 prog t k=some k:=by
 obtain⟨p,hp,ht⟩:=List.any_eq_true.1 h
 simp only[Bool.and_eq_true] at ht
 have h2:=eq_of_beq (List.all_eq_true.1 r8 p hp)
 rwa [eW ht.1,eW ht.2] at h2
theorem xC{t k:Nat}(h:(Nat.beq t 54&&Nat.beq k 1)=true):cU prog t k=some 3:=by simp only[Bool.and_eq_true] at h;rw[eW h.1,eW h.2];kernel_rfl
theorem vG{t k:Nat}(h:(Nat.beq t 89&&Nat.beq k 2)=true):cU prog t k=some 3:=by simp only[Bool.and_eq_true] at h;rw[eW h.1,eW h.2];kernel_rfl
theorem vI{t k:Nat}(h:(Nat.beq t 89&&Nat.beq k 3)=true):cU prog t k=some 4:=by simp only[Bool.and_eq_true] at h;rw[eW h.1,eW h.2];kernel_rfl
theorem vF{t k:Nat}(h:(Nat.beq t 89&&Nat.beq k 4)=true):cU prog t k=some 5:=by simp only[Bool.and_eq_true] at h;rw[eW h.1,eW h.2];kernel_rfl
theorem uV{t k:Nat}(h:(Nat.beq t 89&&Nat.beq k 7)=true):cU prog t k=some 8:=by simp only[Bool.and_eq_true] at h;rw[eW h.1,eW h.2];kernel_rfl
theorem uS{t k:Nat}(h:(Nat.beq t 89&&Nat.beq k 8)=true):cU prog t k=some 9:=by simp only[Bool.and_eq_true] at h;rw[eW h.1,eW h.2];kernel_rfl
theorem uY{t k:Nat}(h:(Nat.beq t 89&&Nat.beq k 9)=true):cU prog t k=some 10:=by simp only[Bool.and_eq_true] at h;rw[eW h.1,eW h.2];kernel_rfl
theorem tZ{t k:Nat}(h:(Nat.beq t 89&&Nat.beq k 10)=true):cU prog t k=some 11:=by simp only[Bool.and_eq_true] at h;rw[eW h.1,eW h.2];kernel_rfl
theorem uE{t k:Nat}(h:(Nat.beq t 89&&Nat.beq k 11)=true):cU prog t k=some 12:=by simp only[Bool.and_eq_true] at h;rw[eW h.1,eW h.2];kernel_rfl
theorem uD{t k:Nat}(h:(Nat.beq t 89&&Nat.beq k 12)=true):cU prog t k=some 13:=by simp only[Bool.and_eq_true] at h;rw[eW h.1,eW h.2];kernel_rfl
theorem D7{t k:Nat}(h:(Nat.beq t 132&&Nat.beq k 1)=true):cU prog t k=some 4:=by simp only[Bool.and_eq_true] at h;rw[eW h.1,eW h.2];kernel_rfl
theorem D6{t k:Nat}(h:(Nat.beq t 132&&Nat.beq k 2)=true):cU prog t k=some 5:=by simp only[Bool.and_eq_true] at h;rw[eW h.1,eW h.2];kernel_rfl
theorem Ef{t k:Nat}(h:(Nat.beq t 132&&Nat.beq k 3)=true):cU prog t k=some 6:=by simp only[Bool.and_eq_true] at h;rw[eW h.1,eW h.2];kernel_rfl
theorem Ee{t k:Nat}(h:(Nat.beq t 141&&Nat.beq k 2)=true):cU prog t k=some 15:=by simp only[Bool.and_eq_true] at h;rw[eW h.1,eW h.2];kernel_rfl
theorem Eh{t k:Nat}(h:(Nat.beq t 141&&Nat.beq k 3)=true):cU prog t k=some 16:=by simp only[Bool.and_eq_true] at h;rw[eW h.1,eW h.2];kernel_rfl
theorem vA{t k:Nat}(h:(Nat.beq t 153&&Nat.beq k 2)=true):cU prog t k=some 26:=by simp only[Bool.and_eq_true] at h;rw[eW h.1,eW h.2];kernel_rfl
theorem uR{t k:Nat}(h:(Nat.beq t 153&&Nat.beq k 3)=true):cU prog t k=some 27:=by simp only[Bool.and_eq_true] at h;rw[eW h.1,eW h.2];kernel_rfl
theorem vD{t k:Nat}(h:(Nat.beq t 153&&Nat.beq k 4)=true):cU prog t k=some 28:=by simp only[Bool.and_eq_true] at h;rw[eW h.1,eW h.2];kernel_rfl
theorem vJ{t k:Nat}(h:(Nat.beq t 153&&Nat.beq k 5)=true):cU prog t k=some 29:=by simp only[Bool.and_eq_true] at h;rw[eW h.1,eW h.2];kernel_rfl
theorem uZ{t k:Nat}(h:(Nat.beq t 153&&Nat.beq k 6)=true):cU prog t k=some 30:=by simp only[Bool.and_eq_true] at h;rw[eW h.1,eW h.2];kernel_rfl
theorem uT{t k:Nat}(h:(Nat.beq t 153&&Nat.beq k 7)=true):cU prog t k=some 31:=by simp only[Bool.and_eq_true] at h;rw[eW h.1,eW h.2];kernel_rfl
theorem vB{t k:Nat}(h:(Nat.beq t 153&&Nat.beq k 8)=true):cU prog t k=some 32:=by simp only[Bool.and_eq_true] at h;rw[eW h.1,eW h.2];kernel_rfl
theorem vH{t k:Nat}(h:(Nat.beq t 153&&Nat.beq k 9)=true):cU prog t k=some 33:=by simp only[Bool.and_eq_true] at h;rw[eW h.1,eW h.2];kernel_rfl
theorem tJ{t k:Nat}(h:(Nat.beq t 153&&Nat.beq k 10)=true):cU prog t k=some 34:=by simp only[Bool.and_eq_true] at h;rw[eW h.1,eW h.2];kernel_rfl
theorem uF{t k:Nat}(h:(Nat.beq t 153&&Nat.beq k 11)=true):cU prog t k=some 35:=by simp only[Bool.and_eq_true] at h;rw[eW h.1,eW h.2];kernel_rfl
theorem sY{t k:Nat}(h:(Nat.beq t 153&&Nat.beq k 12)=true):cU prog t k=some 36:=by simp only[Bool.and_eq_true] at h;rw[eW h.1,eW h.2];kernel_rfl
theorem tB{t k:Nat}(h:(Nat.beq t 153&&Nat.beq k 13)=true):cU prog t k=some 40:=by simp only[Bool.and_eq_true] at h;rw[eW h.1,eW h.2];kernel_rfl
theorem tW{t k:Nat}(h:(Nat.beq t 153&&Nat.beq k 14)=true):cU prog t k=some 41:=by simp only[Bool.and_eq_true] at h;rw[eW h.1,eW h.2];kernel_rfl
def aBg:List Nat:=[15,16,17,23,25,30,42,56,74,156,259]
theorem yy:(aBg.all λ t=>Kb prog t)=true:=by kernel_rfl
theorem R5{t:Nat}(h:aBg.elem t=true):Kb prog t=true:=List.all_eq_true.1 yy t (List.mem_of_elem_eq_true h)
def ad:List (Nat×Nat):=[(22,3),(32,29),(33,74),(44,37),(45,164),(50,47),(85,230),(95,4),(102,9),(108,76),(115,39),(151,27),(169,31)]
def vg(t:Nat):Nat:=(ad.lookup t).getD 0
theorem aA3:(ad.all λ p=>(match prog.underlying p.1 with|some (.slice e)=>Nat.beq e p.2&&Nat.beq (vg p.1) p.2|_=>false))=true:=by kernel_rfl
theorem aBe{t:Nat}(h:(ad.any λ p=>Nat.beq p.1 t)=true):prog.underlying t=some (.slice (vg t)):=by
 obtain⟨p,hp,ht⟩:=List.any_eq_true.1 h
 have h2:=List.all_eq_true.1 aA3 p hp
 rw[<- eW ht]
 cases hu:prog.underlying p.1 with
 | none=>rw[hu] at h2;simp at h2
 | some d =>
  rw[hu] at h2
  cases d<;>simp only[Bool.false_eq_true] at h2
  simp only[Bool.and_eq_true] at h2
  rw[eW h2.1,eW h2.2]
def aA8:List (Nat×Nat):=[(3,1),(4,1),(9,1),(27,1),(29,2),(31,1),(37,1),(39,5),(47,14),(74,1),(76,2),(164,2),(230,2)]
theorem zs:(aA8.all λ p=>(prog.info? p.1).map (·.size)==some p.2)=true:=by kernel_rfl
theorem uL{e s:Nat}(h:(aA8.any λ p=>Nat.beq p.1 e&&Nat.beq p.2 s)=true):(prog.info? e).map (·.size)=some s:=by
 obtain⟨p,hp,ht⟩:=List.any_eq_true.1 h
 simp only[Bool.and_eq_true] at ht
 have h2:=List.all_eq_true.1 zs p hp
 rw[<- eW ht.1,<- eW ht.2]
 exact eq_of_beq h2
theorem qk{t:Nat}(h:Nat.beq t 4=true):prog.underlying t=some .bool:=by
 rw[eW h];kernel_rfl
theorem y3{t:Nat}(h:Nat.beq t 9=true):prog.underlying t=some .string:=by
 rw[eW h];kernel_rfl
theorem qb{t:Nat}(h:Nat.beq t 164=true):Lz prog t=true:=by
 rw[eW h];kernel_rfl
def aCf:List (Nat×IntKind):=[(2,.i64),(3,.i64),(5,.u8),(12,.u64),(21,.i32),(27,.i64),(31,.u64),(37,.i64),(62,.i64),(209,.u64),(255,.u32)]
theorem aAW:(aCf.all λ p=>zE prog p.1 p.2)=true:=by kernel_rfl
theorem wF{t:Nat}{k:IntKind}(h:(aCf.any λ p=>Nat.beq p.1 t&&p.2==k)=true):zE prog t k=true:=by
 obtain⟨p,hp,ht⟩:=List.any_eq_true.1 h
 simp only[Bool.and_eq_true] at ht
 have h2:=List.all_eq_true.1 aAW p hp
 rw[eW ht.1,eq_of_beq ht.2] at h2
 exact h2
def wz(P:Program)(t e s:Nat):Bool :=
 (match P.underlying t with|some (.slice e')=>Nat.beq e' e|_=>false)&&(match P.info? e with
  | some i=>Nat.beq i.size s&&Nat.ble i.bytes 256
  | none=>false)
theorem mL{P:Program}{t e:Nat}{z:Value}{zc:List Value}(h:wz P t e zc.length=true)(hz:dB P e=some z)(hzc:z.cells=⟨zc⟩):dW P t e zc:=by
 unfold wz at h
 simp only[Bool.and_eq_true] at h
 refine⟨?_,?_⟩
 ·cases hu:P.underlying t with
  | none=>simp[hu] at h
  | some d =>
   rw[hu] at h
   cases d<;>simp only[Bool.false_eq_true,false_and] at h
   rw[eW h.1]
 ·cases hi:P.info? e with
  | none=>simp[hi] at h
  | some i =>
   rw[hi] at h
   simp only[Bool.and_eq_true] at h
   exact⟨i,z,rfl,by simpa[dB,hi] using hz,hzc,eW h.2.1,Nat.le_of_ble_eq_true h.2.2⟩
theorem Xm:dB prog 3=some (.int .i64 0):=by kernel_rfl
theorem Fq:dW prog 22 3 [.int .i64 0]:=mL (by kernel_rfl) Xm rfl
theorem K3{t:Nat}(h:Nat.beq t 22=true):dW prog t 3 [.int .i64 0]:=by rw[eW h];exact Fq
theorem Xw:dB prog 37=some (.int .i64 0):=by kernel_rfl
theorem oI:dW prog 44 37 [.int .i64 0]:=mL (by kernel_rfl) Xw rfl
theorem Jv{t:Nat}(h:Nat.beq t 44=true):dW prog t 37 [.int .i64 0]:=by rw[eW h];exact oI
theorem Sm:dB prog 164=some (.agg ⟨[.string ⟨#[]⟩,.int .u64 0]⟩):=by kernel_rfl
theorem Yi:dW prog 45 164 [.string ⟨#[]⟩,.int .u64 0]:=mL (by kernel_rfl) Sm rfl
theorem qL{t:Nat}(h:Nat.beq t 45=true):dW prog t 164 [.string ⟨#[]⟩,.int .u64 0]:=by rw[eW h];exact Yi
def vm:List Value:=[.int .i64 0,.int .i64 0,.int .i64 0,.int .u64 0,.slice none 0 0,.int .u64 0,.string ⟨#[]⟩,.int .u64 0,.slice none 0 0,.int .i64 0,.int .i64 0,.int .i64 0,.int .i64 0,.int .i64 0]
theorem Tx:dB prog 47=some (.agg ⟨[.int .i64 0,.int .i64 0,.int .i64 0,.int .u64 0,.slice none 0 0,.int .u64 0,.string ⟨#[]⟩,.int .u64 0,.slice none 0 0,.int .i64 0,.int .i64 0,.int .i64 0,.int .i64 0,.int .i64 0]⟩):=by kernel_rfl
theorem sD:dW prog 50 47 vm:=mL (by kernel_rfl) Tx rfl
theorem H5{t:Nat}(h:Nat.beq t 50=true):dW prog t 47 vm:=by rw[eW h];exact sD
theorem Sb:dB prog 4=some (.bool false):=by kernel_rfl
theorem Yl:dW prog 95 4 [.bool false]:=mL (by kernel_rfl) Sb rfl
theorem F7{t:Nat}(h:Nat.beq t 95=true):dW prog t 4 [.bool false]:=by rw[eW h];exact Yl
theorem Xn:dB prog 9=some (.string ⟨#[]⟩):=by kernel_rfl
theorem mh:dW prog 102 9 [.string ⟨#[]⟩]:=mL (by kernel_rfl) Xn rfl
theorem Zs{t:Nat}(h:Nat.beq t 102=true):dW prog t 9 [.string ⟨#[]⟩]:=by rw[eW h];exact mh
end
end Go.Proofs.YtbajmaoegmbfgaaGreat

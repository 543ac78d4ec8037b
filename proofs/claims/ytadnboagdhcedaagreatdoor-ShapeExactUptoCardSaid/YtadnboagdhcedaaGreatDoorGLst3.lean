/- The engine, part 9: lists of strings and of nodes; tapes. -/
import Derived.Test.YtadnboagdhcedaaGreatDoorGLst
import Derived.Test.YtadnboagdhcedaaGreatDoorGFun
import Derived.Lib.SliceRun
import Derived.Laws.Pointers

set_option linter.unusedSimpArgs false
set_option linter.unusedVariables false
namespace Go.Ct
section
open Go Go.RowKit
section
variable{P:Program}{n:Nat}{S:List (Nat×Value)}
variable{w0 w w':World}{M:List Nat}{H H':List (Nat×Obj)}{A F F':Fr}{O O':List Ow}{G:World->Prop}
variable{d:Nat}{ty:TypeId}{pos:String}{af:Array Edge}{gd:Option (Nat×Bool)}{dst:Option Nat}{x y z:Operand}{t t2 e:TypeId}{p a:Option Addr}{i m k c c2:Nat}
def W5(l:List ByteArray):List Value:=l.map Value.string
theorem ki{lst:List ByteArray}{kk:IntKind}(hx:ev S x=.slice a m c)(hy:ev S y=.int kk ((k:Nat):Int))(ht:P.underlying t=some (.slice e))(hs:one P e=true)(hf:pS A F O a (W5 lst))(h1:k<m)(h2:k<lst.length) :
  aM P S (SF w0 M H A F O) ⟨some d,.indexAddr t x y,ty,pos,af,gd⟩ (.pointer (some ⟨cZ a,eG a+k,none⟩)):=⟨λ w hw =>
 (Bq (G:=SF w0 M H A F O) hx hy ht hs ((hw.cl hf).ptr (by simp only[W5,List.length_map];omega)) h1).run w hw⟩
theorem m6{lst:List ByteArray}{q:Nat}(hx:ev S x=.pointer (some ⟨cZ a,eG a+q,none⟩))(ht:one P t=true)(hf:pS A F O a (W5 lst))(hq:q<lst.length) :
  aM P S (SF w0 M H A F O) ⟨some d,.load t x,ty,pos,af,gd⟩ (.string (lst.getD q ⟨#[]⟩)):=mJ hx ht (λ w hw=>hw.cl hf) (by simp[W5,hq,List.getD])
def Mx(l:List Nd):List Value:=l.flatMap Nd.cells
theorem D0:∀l:List Nd,(Mx l).length=14*l.length
 | []=>rfl
 | _::r=>by
  have:=D0 r
  simp only[Mx,List.flatMap_cons,List.length_append,List.length_cons] at this ⊢
  rw[this]
  simp only[Nd.cells,List.length_cons,List.length_nil]
  omega
theorem Vg:∀{l:List Nd} {k j:Nat},k<l.length->j<14->(Mx l)[14*k+j]?=(l.getD k Nd.zero).cells[j]?
 | [],_,_,h,_=>by simp at h
 | n::r,0,j,_,hj=>by
  simp only[Mx,List.flatMap_cons,Nat.mul_zero,Nat.zero_add,List.getD_cons_zero]
  rw[List.getElem?_append_left (by simp only[Nd.cells,List.length_cons,List.length_nil];omega)]
 | n::r,k+1,j,h,hj=>by
  have:=Vg (l:=r) (k:=k) (j:=j) (by simpa using h) hj
  simp only[Mx,List.flatMap_cons,List.getD_cons_succ] at this ⊢
  rw[List.getElem?_append_right (by simp only[Nd.cells,List.length_cons,List.length_nil];omega),<- this]
  congr 1
  simp only[Nd.cells,List.length_cons,List.length_nil]
  omega
theorem Ud{m c:Nat}{i:Int}{kk:IntKind}(hx:ev S x=.slice a m c)(hy:ev S y=.int kk ((k:Nat):Int))(ht:P.underlying t=some (.slice e))(hs:jK P e 14=true)(ha:a=some ⟨cZ a,eG a,none⟩)(h1:k<m) :
  aM P S G ⟨some d,.indexAddr t x y,ty,pos,af,gd⟩ (.pointer (some ⟨cZ a,eG a+14*k,none⟩)):=⟨λ w _=>by
 obtain⟨_,_,_,hsz⟩:=gZ hs
 have:=yM (P:=P) (a:=a) (m:=m) (c:=c) (k:=kk) ht hsz ha (i:=(k:Int)) (by omega) (by omega) w
 simp only[Int.toNat_natCast,Nat.mul_comm k 14] at this
 simp[execOp,hx,hy,this]⟩
theorem gp{lst:List Nd}{kk:IntKind}(hx:ev S x=.slice a m c)(hy:ev S y=.int kk ((k:Nat):Int))(ht:P.underlying t=some (.slice e))(hs:jK P e 14=true)(hf:pS A F O a (Mx lst))(h1:k<m)(h2:k<lst.length) :
  aM P S (SF w0 M H A F O) ⟨some d,.indexAddr t x y,ty,pos,af,gd⟩ (.pointer (some ⟨cZ a,eG a+14*k,none⟩)):=⟨λ w hw =>
 (Ud (i:=0) (G:=SF w0 M H A F O) hx hy ht hs ((hw.cl hf).ptr (by rw[D0];omega)) h1).run w hw⟩
theorem nu{lst:List Nd}{q:Nat}(hx:ev S x=.pointer (some ⟨cZ a,eG a+14*q,none⟩))(ht:jK P t 14=true)(hf:pS A F O a (Mx lst))(hq:q<lst.length) :
  aM P S (SF w0 M H A F O) ⟨some d,.load t x,ty,pos,af,gd⟩ (lst.getD q Nd.zero).v:=⟨λ w hw=>by
 have hcl:=hw.cl hf
 obtain⟨dd,hu,hm,hi⟩:=gZ ht
 have hagg:(isAgg t).run P w=.ok true w:=by
  unfold isAgg
  rw[Sem.run_bind,run_underlying hu w]
  cases dd<;>simp_all
 have hl:(loadCells ⟨cZ a,eG a+14*q,none⟩ 14).run P w=.ok ⟨(lst.getD q Nd.zero).cells⟩ w:=by
  have:=run_loadCells_list (P:=P) w ⟨cZ a,eG a+14*q,none⟩ (lst.getD q Nd.zero).cells (λ j z hz=>by
   have hj:j<14:=(List.getElem?_eq_some_iff.1 hz).1
   rw[Addr.add_lit]
   have h3:=(hcl.at_ (14*q+j) z (by rw[Vg hq hj];exact hz)).2
   rwa [<- Nat.add_assoc] at h3)
  exact this
 cases hq':P.info? t with
 | none=>rw[hq'] at hi;simp at hi
 | some i =>
  have hs:i.size=14:=by rw[hq'] at hi;simpa using hi
  simp[execOp,hx,Instr.loadAt,Instr.sureAddr,loadVar,hagg,Go.sizeOf,typeInfo,hq',hs,hl,Nd.v]⟩
def kT(v n:Int):Int:=IntKind.i64.wrap ((IntKind.u64.wrap v).tmod (IntKind.u64.wrap n))
def tvN(l:List Int)(k:Nat)(n:Int):Nat:=if k<l.length then(kT (l.getD k 0) n).toNat else 0
def oS(l:List Int)(k:Nat):Nat:=if k<l.length then k+1 else k
theorem wrap_u64(i:Int):IntKind.u64.wrap i=i%18446744073709551616:=by
 simp[IntKind.wrap,IntKind.signed,IntKind.bits]
theorem Aq{v n:Int}(h0:0<n)(h1:n<=9223372036854775807):0<=kT v n/\kT v n<n:=by
 unfold kT
 rw[wrap_u64,wrap_u64,Int.emod_eq_of_lt (a:=n) (by omega) (by omega)]
 have h2:=Int.emod_nonneg v (show(18446744073709551616:Int)≠0 by decide)
 have h3:=Int.tmod_lt_of_pos (v%18446744073709551616) h0
 have h4:=Int.tmod_nonneg n h2
 rw[wrap_i64 (by omega) (by omega)]
 exact⟨h4,h3⟩
def bb(T:TypeId)(a:Option Addr)(l:List Int)(c k:Nat):Obj:=.cells ⟨[.slice a l.length c,.int .i64 ((k:Nat):Int)]⟩ T (0,0)
structure Lj(w:World)(T:TypeId)(b:Nat)(a:Option Addr)(l:List Int)(c k:Nat):Prop where
 obj:w.heap[b]?=some (bb T a l c k)
 cl:Cl w a (aH l)
 ne:aH l≠[]->cZ a≠b
 len:l.length<=17592186043904
theorem SF.tape(h:SF w0 M H A F O w){T b l}(ha:At H i b (bb T a l c k))(hf:pS A F [] a (aH l))(hl:l.length<=17592186043904):Lj w T b a l c k:=by
 refine⟨h.st.at ha,?_,λ hc e=>h.apart hf hc (e▸List.mem_append_left _ (List.mem_map.2 ⟨_,ha.mem,rfl⟩)),hl⟩
 cases hf with
 | bO h1=>exact h.cl (.bO h1)
 | new h1=>exact h.cl (.new h1)
 | own h1=>cases h1
 | hdr h1 _=>cases h1
theorem Lj.start{T b l}(h:Lj w T b a l c k):SF w [b] [(b,.cells ⟨[.slice a l.length c,.int .i64 ((k:Nat):Int)]⟩ T (0,0))] [(a,aH l)] [] [] w:=by
 refine⟨⟨rfl,rfl,rfl,Nat.le_refl _,λ _ _ _=>rfl,λ p hp=>?_,λ p hp=>?_,by simp⟩,λ f hf=>?_,λ _ h=>(List.not_mem_nil h).elim,λ _ h=>(List.not_mem_nil h).elim,by simp[Ks]⟩
 ·simp only[List.mem_singleton] at hp
  subst hp
  exact h.obj
 ·simp only[List.mem_singleton] at hp
  subst hp
  exact .inl (by simp)
 ·simp only[List.mem_singleton] at hf
  subst hf
  exact⟨h.cl,λ hc=>by simp only[Ks,List.map_cons,List.map_nil,List.flatMap_nil,List.append_nil,List.mem_singleton];exact h.ne hc⟩
end
end

/- The engine, part 10b: lists of nodes, each with its own lists. -/
section
open Go Go.RowKit
section
variable{w0 w w':World}{M:List Nat}{H:List (Nat×Obj)}{A F:Fr}{O:List Ow}
structure aI where
 nd:Nd
 xs:List Int
 ys:List Pr
structure Nv where
 kind:Int
 gen:Int
 main:Int
 bm:Int
 xs:List Int
 hash:Int
 key:ByteArray
 val:Int
 ys:List Pr
 prev:Int
 bO:Int
 exp:Int
 new:Int
 status:Int
def Nd.c(n:Nd)(xs:List Int)(ys:List Pr):Nv:=⟨n.kind,n.gen,n.main,n.bm,xs,n.hash,n.key,n.val,ys,n.prev,n.bO,n.exp,n.new,n.status⟩
def aI.c(v:aI):Nv:=v.nd.c v.xs v.ys
theorem wA{a b:Nd}{x1 x2:List Int}{y1 y2:List Pr}:rG a b x1 x2 y1 y2↔a.c x1 y1=b.c x2 y2:=by simp[rG,Nd.c]
def aI.fr(v:aI):Fr:=[(v.nd.brA,aH v.xs),(v.nd.prA,dK v.ys)]
def aI.zero:aI:=⟨Nd.zero,[],[]⟩
def bD(L:List aI):Fr:=L.flatMap aI.fr
def fX(L:List aI):List Value:=L.flatMap (·.nd.cells)
theorem U6(L:List aI):fX L=Mx (L.map (·.nd)):=by simp[fX,Mx,List.flatMap_map]
theorem ny{L:List aI}{k:Nat}:(L.map (·.nd)).getD k Nd.zero=(L.getD k aI.zero).nd:=by
 rw[gF,gF,List.getElem?_map]
 cases L[k]?<;>rfl
theorem fE(n:Nd):n.cells.length=14:=rfl
theorem nI(a b:List aI):fX (a++b)=fX a++fX b:=by simp[fX]
theorem tq(v:aI):fX [v]=v.nd.cells:=by simp[fX]
theorem qF(a:List aI)(v:aI):fX (a++[v])=fX a++v.nd.cells:=by rw[nI,tq]
theorem fH(a b:List aI):bD (a++b)=bD a++bD b:=by simp[bD]
theorem eT:∀L:List aI,(fX L).length=L.length*14
 | []=>rfl
 | v::L=>by
  have:=eT L
  simp only[fX,List.flatMap_cons,List.length_append,fE,List.length_cons] at this ⊢
  omega
theorem S6:∀{L:List aI} {k j:Nat} {v:Value},k<L.length->(L.getD k aI.zero).nd.cells[j]?=some v->(fX L)[14*k+j]?=some v
 | v::L,0,j,u,_,hj=>by
  have hlt:j<14:=by
   have:=(List.getElem?_eq_some_iff.1 hj).1
   simpa[fE] using this
  simp only[fX,List.flatMap_cons,Nat.mul_zero,Nat.zero_add]
  rw[List.getElem?_append_left (by rw[fE];exact hlt)]
  simpa using hj
 | v::L,k+1,j,u,hk,hj=>by
  simp only[fX,List.flatMap_cons]
  rw[List.getElem?_append_right (by rw[fE];omega),fE,show 14*(k+1)+j-14=14*k+j by omega]
  exact S6 (L:=L) (by simpa using hk) (by simpa using hj)
theorem Dm(n:Nd):n.cells.all (·.oneCell')=true:=rfl
theorem Bc:∀L:List aI,(fX L).all (·.oneCell')=true
 | []=>rfl
 | v::L=>by
  have:=Bc L
  simp only[fX,List.flatMap_cons,List.all_append,Bool.and_eq_true] at this ⊢
  exact⟨Dm _,this⟩
theorem gK{L:List aI}{f:Option Addr×List Value}:f∈bD L↔∃v∈L,f∈v.fr:=by simp[bD]
theorem eE{L:List aI}{k:Nat}(hk:k<L.length):L.getD k aI.zero∈L:=by
 rw[gF,List.getElem?_eq_getElem hk];exact List.getElem_mem hk
theorem Ku{L:List aI}{k:Nat}(hk:k<L.length):((L.getD k aI.zero).nd.brA,aH (L.getD k aI.zero).xs)∈bD L:=gK.2 ⟨_,eE hk,by simp[aI.fr]⟩
theorem Nk{L:List aI}{k:Nat}(hk:k<L.length):((L.getD k aI.zero).nd.prA,dK (L.getD k aI.zero).ys)∈bD L:=gK.2 ⟨_,eE hk,by simp[aI.fr]⟩
structure aI.Fit(v:aI):Prop where
 brN:v.nd.brN=v.xs.length
 prN:v.nd.prN=v.ys.length
 brS:v.xs.length<=35184372088832
 prS:v.ys.length<=11728124029610
theorem aI.Fit.sR{v:aI}(h:v.Fit){w:World}(hb:Cl w v.nd.brA (aH v.xs))(hp:Cl w v.nd.prA (dK v.ys)):qR w v.nd v.xs v.ys :=
 ⟨h.brN,h.prN,hb,hp,by have:=h.brS;omega,by have:=h.prS;omega⟩
def Fits(L:List aI):Prop:=∀v∈L,v.Fit
theorem Fits.at{L:List aI}(h:Fits L){k:Nat}(hk:k<L.length):(L.getD k aI.zero).Fit:=h _ (eE hk)
theorem Rh:aI.zero.Fit:=⟨rfl,rfl,by decide,by decide⟩
structure eP(w:World)(L:List aI)(cs:List Int)(pn pc:Option Addr):Prop where
 nds:Cl w pn (fX L)
 cls:Cl w pc (aH cs)
 O9:∀f∈bD L,Cl w f.1 f.2
 fit:Fits L
theorem eP.start{w:World}{L:List aI}{cs:List Int}{pn pc:Option Addr}(h:eP w L cs pn pc):SF w [] [] ((pn,fX L)::(pc,aH cs)::bD L) [] [] w:=SF.begin λ f hf=>by
 rcases List.mem_cons.1 hf with rfl|hf
 ·exact h.nds
 rcases List.mem_cons.1 hf with rfl|hf
 ·exact h.cls
 ·exact h.O9 f hf
theorem SF.Ov{L:List aI}{f1 f2:Option Addr×List Value}(h:SF w0 M H (f1::f2::bD L) F O w)(hfit:Fits L){k:Nat}(hk:k<L.length):qR w (L.getD k aI.zero).nd (L.getD k aI.zero).xs (L.getD k aI.zero).ys :=
 (hfit.at hk).sR (h.bO _ (List.mem_cons_of_mem _ (List.mem_cons_of_mem _ (Ku hk)))).1 (h.bO _ (List.mem_cons_of_mem _ (List.mem_cons_of_mem _ (Nk hk)))).1
theorem SF.aCN{L:List aI}(h:SF w0 M H A F O w)(hF:∀f∈bD L,f.2=[]∨f∈A∨f∈F)(hfit:Fits L){v:aI}(hv:v∈L):qR w v.nd v.xs v.ys:=by
 have key:∀f∈bD L,Cl w f.1 f.2:=λ f hf=>by
  rcases hF f hf with h0|h1|h1
  ·rw[h0];exact Cl.nil _ _
  ·exact(h.bO f h1).1
  ·exact(h.new f h1).1
 exact(hfit v hv).sR (key (v.nd.brA,aH v.xs) (gK.2 ⟨v,hv,by simp[aI.fr]⟩)) (key (v.nd.prA,dK v.ys) (gK.2 ⟨v,hv,by simp[aI.fr]⟩))
variable{P:Program}{S:List (Nat×Value)}{G:World->Prop}{d:Nat}{ty:TypeId}{pos:String}{af:Array Edge}{gd:Option (Nat×Bool)}{x y:Operand}{t t2 e:TypeId}{p a:Option Addr}{i m k c c2:Nat}
theorem iC{L:List aI}{kk:IntKind}(hx:ev S x=.slice a m c)(hy:ev S y=.int kk ((k:Nat):Int))(ht:P.underlying t=some (.slice e))(hs:jK P e 14=true)(hf:pS A F O a (fX L))(h1:k<m)(h2:k<L.length) :
  aM P S (SF w0 M H A F O) ⟨some d,.indexAddr t x y,ty,pos,af,gd⟩ (.pointer (some ⟨cZ a,eG a+14*k,none⟩)):=gp (lst:=L.map (·.nd)) hx hy ht hs (by rw[<- U6];exact hf) h1 (by simpa using h2)
theorem Nj{L:List aI}{q:Nat}(hx:ev S x=.pointer (some ⟨cZ a,eG a+14*q,none⟩))(ht:jK P t 14=true)(hf:pS A F O a (fX L))(hq:q<L.length) :
  aM P S (SF w0 M H A F O) ⟨some d,.load t x,ty,pos,af,gd⟩ (L.getD q aI.zero).nd.v:=by
 have:=nu (P:=P) (S:=S) (w0:=w0) (M:=M) (H:=H) (A:=A) (F:=F) (O:=O) (d:=d) (ty:=ty) (pos:=pos) (af:=af) (gd:=gd) (lst:=L.map (·.nd)) hx ht (by rw[<- U6];exact hf) (by simpa using hq)
 rwa [ny] at this
theorem l9{L:List aI}{q j:Nat}{v:Value}(hx:ev S x=.pointer (some ⟨cZ a,eG a+14*q+j,none⟩))(ht:one P t=true)(hj:(L.getD q aI.zero).nd.cells[j]?=some v)(hf:pS A F O a (fX L))(hq:q<L.length) :
  aM P S (SF w0 M H A F O) ⟨some d,.load t x,ty,pos,af,gd⟩ v:=mJ (q:=14*q+j) (by rw[hx];simp only[Nat.add_assoc]) ht (λ w hw=>hw.cl hf) (S6 hq hj)
theorem wQ{L:List aI}{q:Nat}(hx:ev S x=.pointer (some ⟨cZ a,eG a+14*q,none⟩))(ht:one P t=true)(hf:pS A F O a (fX L))(hq:q<L.length) :
  aM P S (SF w0 M H A F O) ⟨some d,.load t x,ty,pos,af,gd⟩ (.int .i64 (L.getD q aI.zero).nd.kind):=mJ (q:=14*q) hx ht (λ w hw=>hw.cl hf) (S6 (j:=0) hq rfl)
theorem sv{L:List aI}{zc:List Value}(v:aI)(hx:ev S x=.slice p m c)(hy:ev S y=.slice a 1 c2)(ho:uN O i p (fX L) c e 14)(hm:L.length=m)(hf:pS A F O a v.nd.cells)
  (he:dY P t e zc) (hz:zc.length=14) (ht2:P.underlying t2=some (.slice e)) (hb:m+1<=549755813888) :
  aX P S (SF w0 M H A F O) ⟨some d,.call {callee:=.builtin .append,args := #[x,y],argTypes := #[t,t2]},ty,pos,af,gd⟩ (Option Addr×Nat) (λ q=>.slice q.1 (m+1) q.2)
   (λ q w=>m+1<=q.2/\SF w0 M H A F (kP O i ⟨q.1,fX (L++[v]),q.2,e,14⟩) w):=by
 rw[qF]
 exact iY hx hy ho (by rw[eT,hm]) hf (by simp[Nd.cells]) (Dm _) he hz (by decide) ht2 hb
theorem dq{L L2:List aI}{zc:List Value}(hx:ev S x=.slice p m c)(hy:ev S y=.slice a k c2)(ho:uN O i p (fX L) c e 14)(hm:L.length=m)(hf:pS A F O a (fX L2))(hk:L2.length=k)
  (he:dY P t e zc) (hz:zc.length=14) (ht2:P.underlying t2=some (.slice e)) (hb:m+k<=549755813888) :
  aX P S (SF w0 M H A F O) ⟨some d,.call {callee:=.builtin .append,args := #[x,y],argTypes := #[t,t2]},ty,pos,af,gd⟩ (Option Addr×Nat) (λ q=>.slice q.1 (m+k) q.2)
   (λ q w=>m+k<=q.2/\SF w0 M H A F (kP O i ⟨q.1,fX (L++L2),q.2,e,14⟩) w):=by
 rw[nI]
 exact iY hx hy ho (by rw[eT,hm]) hf (by rw[eT,hk]) (Bc _) he hz (by decide) ht2 hb
theorem C5{zc:List Value}(he:dY P t e zc)(hz:zc.length=14):aX P S (SF w0 M H A F O) ⟨some d,.buildSlice t 0 #[],ty,pos,af,gd⟩ Nat (λ b=>.slice (some ⟨b,0,none⟩) 0 0) (λ b=>SF w0 M H A F (⟨some ⟨b,0,none⟩,fX [],0,e,14⟩::O)):=by
 have:=Gz (P:=P) (S:=S) (w0:=w0) (M:=M) (H:=H) (A:=A) (F:=F) (O:=O) (d:=d) (ty:=ty) (pos:=pos) (af:=af) (gd:=gd) he
 rwa [hz] at this
theorem sm{k:Nat}{k1 k2:IntKind}{zc:List Value}(hx:ev S x=.int k1 0)(hy:ev S y=.int k2 ((k:Nat):Int))(he:dY P t e zc)(hz:zc.length=14)(hk:k<=1099511627776) :
  aX P S (SF w0 M H A F O) ⟨some d,.makeSlice t x y,ty,pos,af,gd⟩ Nat (λ b=>.slice (some ⟨b,0,none⟩) 0 k) (λ b=>SF w0 M H A F (⟨some ⟨b,0,none⟩,fX [],k,e,14⟩::O)):=by
 have:=Nh (P:=P) (S:=S) (w0:=w0) (M:=M) (H:=H) (A:=A) (F:=F) (O:=O) (d:=d) (ty:=ty) (pos:=pos) (af:=af) (gd:=gd) (m:=0) (k:=k) (k1:=k1) (k2:=k2) (x:=x) (y:=y) (cs:=fX []) (by simpa using hx) hy he (Nat.zero_le _) hk (List.eq_nil_of_length_eq_zero (by rw[kE];simp))
 rwa [hz] at this
section
variable{m n:Nat}{t':TypeId}
theorem lT(hx:ev S x=.int .i64 ((m:Nat):Int))(hy:ev S y=.int .i64 ((n:Nat):Int))(h:m+n<=9223372036854775807) :
  aM P S G ⟨some d,.binOp .add t x y t',ty,pos,af,gd⟩ (.int .i64 ((m+n:Nat):Int)):=by
 have:=sO (P:=P) (G:=G) (d:=d) (ty:=ty) (pos:=pos) (af:=af) (gd:=gd) (t:=t) (t':=t') hx hy
 rw[wrap_i64 (by omega) (by omega)] at this
 rw[Int.natCast_add]
 exact this
theorem kF(hx:ev S x=.int .i64 ((m:Nat):Int))(hy:ev S y=.int .i64 ((n:Nat):Int))(h:n<=m)(h2:m<=9223372036854775807) :
  aM P S G ⟨some d,.binOp .sub t x y t',ty,pos,af,gd⟩ (.int .i64 ((m-n:Nat):Int)):=by
 have:=Ke (P:=P) (G:=G) (d:=d) (ty:=ty) (pos:=pos) (af:=af) (gd:=gd) (t:=t) (t':=t') hx hy
 rw[wrap_i64 (by omega) (by omega)] at this
 rw[Int.natCast_sub h]
 exact this
end
theorem jN{P:Program}{S:List (Nat×Value)}{G:World->Prop}{d:Nat}{ty:TypeId}{pos:String}{af:Array Edge}{gd:Option (Nat×Bool)}{x:Operand}{vs:List Value}{k:Nat}{v:Value}(hx:ev S x=.tuple ⟨vs⟩)(hk:vs[k]?=some v):aM P S G ⟨some d,.extract x k,ty,pos,af,gd⟩ v:=⟨λ w _=>by
 simp[execOp,hx,Instr.extract,hk]⟩
theorem Ls{a:Int}(hx:ev S x=.int .i64 a)(hy:ev S y=.int .i64 1)(h:1<=a)(h2:a<=9223372036854775807):aM P S G ⟨some d,.binOp .sub t x y t2,ty,pos,af,gd⟩ (.int .i64 (((a-1).toNat:Nat):Int)):=by
 have:=Lv (P:=P) (G:=G) (d:=d) (ty:=ty) (pos:=pos) (af:=af) (gd:=gd) (t:=t) (t':=t2) hx hy (by omega)
 rwa [show a-1=(((a-1).toNat:Nat):Int) by omega] at this
theorem O3:∀(L:List aI) (k:Nat),(fX L).drop (k*14)=fX (L.drop k)
 | [],k=>by simp[fX]
 | v::L,0=>by simp
 | v::L,k+1=>by
  have:=O3 L k
  rw[List.drop_succ_cons,<- this]
  show(v.nd.cells++fX L).drop ((k+1)*14)=_
  rw[List.drop_append,List.drop_eq_nil_of_le (by rw[fE];omega),fE,List.nil_append]
  congr 1
  omega
theorem pw{L:List aI}(hx:ev S x=.slice a m c)(hy:ev S y=.int .i64 ((k:Nat):Int))(ht:P.underlying t=some (.slice e))(hs:(P.info? e).map (·.size)=some 14)(hk:k<=m)(hf:pS A F [] a (fX L))(hmc:m<=c)(hl:L.length=m) :
  aX P S (SF w0 M H A F O) ⟨some d,.slice t x (some y) none none,ty,pos,af,gd⟩ (Option Addr) (λ p=>.slice p (m-k) (c-k)) (λ p=>SF w0 M H ((p,fX (L.drop k))::A) F O):=by
 have:=qy (P:=P) (w0:=w0) (M:=M) (H:=H) (O:=O) (d:=d) (ty:=ty) (pos:=pos) (af:=af) (gd:=gd) hx hy ht hs hk hf hmc (by rw[eT,hl])
 rw[O3] at this
 exact this
theorem SF.Se(h:SF w0 M H A F O w){L:List aI}{T:TypeId}(ho:uN O i p (fX L) c T 14):L.length<=c:=by
 rcases(h.own _ ho.mem).1 with⟨_,h2,_⟩|⟨b,rest,_,_,h3⟩
 ·have h2':fX L=[]:=h2
  have:(fX L).length=0:=by rw[h2'];rfl
  rw[eT] at this
  omega
 ·have h3':(fX L++rest).length=c*14:=h3
  rw[List.length_append,eT] at h3'
  omega
theorem aW{b off:Nat}{cs vs:List Value}{T:TypeId}(hx:ev S x=.pointer (some ⟨b,off,none⟩))(ha:At H i b (.cells ⟨cs⟩ T (0,0)))(ht:jK P t k=true)(hv:(cs.drop off).take k=vs)(hl:vs.length=k) :
  aM P S (SF w0 M H A F O) ⟨some d,.load t x,ty,pos,af,gd⟩ (.agg ⟨vs⟩):=⟨λ w hw=>by
 have hb:=hw.st.at ha
 have hcl:Cl w (some ⟨b,0,none⟩) cs:=Cl.block (pre:=[]) (rest:=[]) (by simpa using hb) rfl
 obtain⟨dd,hu,hm,hi⟩:=gZ ht
 have hagg:(isAgg t).run P w=.ok true w:=by
  unfold isAgg
  rw[Sem.run_bind,run_underlying hu w]
  cases dd<;>simp_all
 have hlc:(loadCells ⟨b,off,none⟩ k).run P w=.ok ⟨vs⟩ w:=by
  have:=run_loadCells_list (P:=P) w ⟨b,off,none⟩ vs (λ j z hz=>by
   rw[Addr.add_lit]
   have hj:j<k:=by rw[<- hl];exact(List.getElem?_eq_some_iff.1 hz).1
   have h1:cs[off+j]?=some z:=by
    rw[<- hv,List.getElem?_take,if_pos hj,List.getElem?_drop] at hz
    exact hz
   have h3:=(hcl.at_ (off+j) z h1).2
   simpa[cZ,eG] using h3)
  rwa [hl] at this
 cases hq':P.info? t with
 | none=>rw[hq'] at hi;simp at hi
 | some inf =>
  have hs:inf.size=k:=by rw[hq'] at hi;simpa using hi
  simp[execOp,hx,Instr.loadAt,Instr.sureAddr,loadVar,hagg,Go.sizeOf,typeInfo,hq',hs,hlc]⟩
def Bs(P:Program)(t:TypeId)(k:Nat):Option Nat :=
 match P.underlying t with
 | some (.struct fs)=>match fs[k]? with
  | some f=>if one P f.type then some f.offset else none
  | none=>none
 | _=>none
theorem Vm{cs:List Value}{off:Nat}{v:Value}(hx:ev S x=.agg ⟨cs⟩)(hf:Bs P t k=some off)(hv:cs[off]?=some v):aM P S G ⟨some d,.field t x k,ty,pos,af,gd⟩ v:=⟨λ w _=>by
 unfold Bs at hf
 cases hu:P.underlying t with
 | none=>simp[hu] at hf
 | some dd =>
  cases dd<;>simp[hu] at hf
  rename_i fs
  cases hk:fs[k]? with
  | none=>simp[hk] at hf
  | some f =>
   simp only[hk] at hf
   split at hf
   ·rename_i h1
    simp only[Option.some.injEq] at hf
    subst hf
    have hp:=tD (P:=P) h1 (cs:=⟨cs⟩) (off:=f.offset) (v:=v) (by simpa using hv) w
    simp[execOp,hx,Instr.field,run_underlying hu,hk,asAgg,hp]
   ·cases hf⟩
theorem aCe{kk:IntKind}{a:Int}(hx:ev S x=.int kk a):aM P S G ⟨some d,.unOp .neg t x,ty,pos,af,gd⟩ (.int kk (kk.wrap (0-a))):=⟨λ w _=>by
 simp[execOp,hx,Op.unary,Op.intArith]⟩
def iV(l:List Bool):List Value:=l.map .bool
theorem zF(l:List Bool):(iV l).length=l.length:=by simp[iV]
theorem X1{l:List Bool}{k:Nat}(h:k<l.length):(iV l)[k]?=some (.bool (l.getD k false)):=by simp[iV,h,List.getD]
theorem R7(k:Nat):made [.bool false] k=iV (List.replicate k false):=by
 refine List.ext_getElem? λ i=>?_
 by_cases hi:i<k
 ·simp[made,madeCells,iV,Array.getElem?_toList,Array.getElem?_map,Array.getElem?_range,hi,Nat.mod_one]
 ·rw[List.getElem?_eq_none (by rw[kE];simp;omega),List.getElem?_eq_none (by simp[iV];omega)]
theorem qx{m k:Nat}{k1 k2:IntKind}(hx:ev S x=.int k1 ((m:Nat):Int))(hy:ev S y=.int k2 ((k:Nat):Int))(he:dY P t e [.bool false])(hmk:m<=k)(hk:k<=1099511627776) :
  aX P S (SF w0 M H A F O) ⟨some d,.makeSlice t x y,ty,pos,af,gd⟩ Nat (λ b=>.slice (some ⟨b,0,none⟩) m k) (λ b=>SF w0 M H A F (⟨some ⟨b,0,none⟩,iV (List.replicate m false),k,e,1⟩::O)) :=
 Nh hx hy he hmk hk (R7 m)
theorem lE{lst:List Bool}{kk:IntKind}(hx:ev S x=.slice a m c)(hy:ev S y=.int kk ((k:Nat):Int))(ht:P.underlying t=some (.slice e))(hs:one P e=true)(hf:pS A F O a (iV lst))(h1:k<m)(h2:k<lst.length) :
  aM P S (SF w0 M H A F O) ⟨some d,.indexAddr t x y,ty,pos,af,gd⟩ (.pointer (some ⟨cZ a,eG a+k,none⟩)):=⟨λ w hw =>
 (Bq (G:=SF w0 M H A F O) hx hy ht hs ((hw.cl hf).ptr (by rw[zF];omega)) h1).run w hw⟩
theorem yC{lst:List Bool}{q:Nat}(hx:ev S x=.pointer (some ⟨cZ a,eG a+q,none⟩))(ht:one P t=true)(hf:pS A F O a (iV lst))(hq:q<lst.length) :
  aM P S (SF w0 M H A F O) ⟨some d,.load t x,ty,pos,af,gd⟩ (.bool (lst.getD q false)):=mJ hx ht (λ w hw=>hw.cl hf) (X1 hq)
theorem Sv(l:List Bool)(k:Nat)(v:Bool):(iV l).set k (.bool v)=iV (l.set k v):=by simp[iV]
theorem hZ{q:Nat}{l:List Bool}{v:Bool}(hx:ev S x=.pointer (some ⟨cZ p,eG p+q,none⟩))(hy:ev S y=.bool v)(ht:one P t=true)(ho:uN O i p (iV l) c e 1)(hq:q<l.length) :
  aX P S (SF w0 M H A F O) ⟨none,.store t x y,ty,pos,af,gd⟩ Unit (λ _=>undef) (λ _=>SF w0 M H A F (kP O i ⟨p,iV (l.set q v),c,e,1⟩)):=by
 rw[<- Sv]
 exact Oq hx hy rfl ht ho (by rw[zF];exact hq)
theorem jx(hx:ev S x=.slice a m c)(hy:ev S y=.slice none 0 0)(ht:P.underlying t=some (.slice e)):aM P S G ⟨some d,.binOp .eql t x y t2,ty,pos,af,gd⟩ (.bool a.isNone):=⟨λ w _=>by
 have:=Go.Lib.run_eql_slice_nil (P:=P) w t e a m c 0 0 ht
 simp[execOp,hx,hy,this,eqGuard]⟩
end
end

end Go.Ct

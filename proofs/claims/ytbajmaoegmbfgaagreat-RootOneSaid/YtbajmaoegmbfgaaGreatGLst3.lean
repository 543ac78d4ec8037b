/- Merged. -/
import Derived.Test.YtbajmaoegmbfgaaGreatGLst
import Derived.Test.YtbajmaoegmbfgaaGreatGMem
import Derived.Lib.SliceRun
import Derived.Laws.Pointers
import Derived.Test.YtbajmaoegmbfgaaGreatProg
set_option linter.unusedSimpArgs false
set_option linter.unusedVariables false
namespace Go.Ct
open Go Go.RowKit
section
section
variable{P:Program}{n:Nat}{S:List (Nat×Value)}
variable{w0 w w':World}{M:List Nat}{H H':List (Nat×Obj)}{A F F':Fr}{O O':List Ow}{G:World->Prop}
variable{d:Nat}{ty:TypeId}{pos:String}{af:Array Edge}{gd:Option (Nat×Bool)}{dst:Option Nat}{x y z:Operand}{t t2 e:TypeId}{p a:Option Addr}{i m k c c2:Nat}
def Ui(l:List ByteArray):List Value:=l.map Value.string
theorem gi{lst:List ByteArray}{kk:IntKind}(hx:ev S x=.slice a m c)(hy:ev S y=.int kk ((k:Nat):Int))(ht:P.underlying t=some (.slice e))(hs:one P e=true)(hf:rK A F O a (Ui lst))(h1:k<m)(h2:k<lst.length) :
  aK P S (SF w0 M H A F O) ⟨some d,.indexAddr t x y,ty,pos,af,gd⟩ (.pointer (some ⟨dA a,eH a+k,none⟩)):=⟨λ w hw =>
 (A3 (G:=SF w0 M H A F O) hx hy ht hs ((hw.cl hf).ptr (by simp only[Ui,List.length_map];omega)) h1).run w hw⟩
theorem pz{lst:List ByteArray}{q:Nat}(hx:ev S x=.pointer (some ⟨dA a,eH a+q,none⟩))(ht:one P t=true)(hf:rK A F O a (Ui lst))(hq:q<lst.length) :
  aK P S (SF w0 M H A F O) ⟨some d,.load t x,ty,pos,af,gd⟩ (.string (lst.getD q ⟨#[]⟩)):=rC hx ht (λ w hw=>hw.cl hf) (by simp[Ui,hq,List.getD])
def Mg(l:List Nd):List Value:=l.flatMap Nd.cells
theorem Cx:∀l:List Nd,(Mg l).length=14*l.length
 | []=>rfl
 | _::r=>by
  have:=Cx r
  simp only[Mg,List.flatMap_cons,List.length_append,List.length_cons] at this ⊢
  rw[this]
  simp only[Nd.cells,List.length_cons,List.length_nil]
  omega
theorem We:∀{l:List Nd} {k j:Nat},k<l.length->j<14->(Mg l)[14*k+j]?=(l.getD k Nd.zero).cells[j]?
 | [],_,_,h,_=>by simp at h
 | n::r,0,j,_,hj=>by
  simp only[Mg,List.flatMap_cons,Nat.mul_zero,Nat.zero_add,List.getD_cons_zero]
  rw[List.getElem?_append_left (by simp only[Nd.cells,List.length_cons,List.length_nil];omega)]
 | n::r,k+1,j,h,hj=>by
  have:=We (l:=r) (k:=k) (j:=j) (by simpa using h) hj
  simp only[Mg,List.flatMap_cons,List.getD_cons_succ] at this ⊢
  rw[List.getElem?_append_right (by simp only[Nd.cells,List.length_cons,List.length_nil];omega),<- this]
  congr 1
  simp only[Nd.cells,List.length_cons,List.length_nil]
  omega
theorem Sa{m c:Nat}{i:Int}{kk:IntKind}(hx:ev S x=.slice a m c)(hy:ev S y=.int kk ((k:Nat):Int))(ht:P.underlying t=some (.slice e))(hs:kQ P e 14=true)(ha:a=some ⟨dA a,eH a,none⟩)(h1:k<m) :
  aK P S G ⟨some d,.indexAddr t x y,ty,pos,af,gd⟩ (.pointer (some ⟨dA a,eH a+14*k,none⟩)):=⟨λ w _=>by
 obtain⟨_,_,_,hsz⟩:=jG hs
 have:=B5 (P:=P) (a:=a) (m:=m) (c:=c) (k:=kk) ht hsz ha (i:=(k:Int)) (by omega) (by omega) w
 simp only[Int.toNat_natCast,Nat.mul_comm k 14] at this
 simp[execOp,hx,hy,this]⟩
theorem jz{lst:List Nd}{kk:IntKind}(hx:ev S x=.slice a m c)(hy:ev S y=.int kk ((k:Nat):Int))(ht:P.underlying t=some (.slice e))(hs:kQ P e 14=true)(hf:rK A F O a (Mg lst))(h1:k<m)(h2:k<lst.length) :
  aK P S (SF w0 M H A F O) ⟨some d,.indexAddr t x y,ty,pos,af,gd⟩ (.pointer (some ⟨dA a,eH a+14*k,none⟩)):=⟨λ w hw =>
 (Sa (i:=0) (G:=SF w0 M H A F O) hx hy ht hs ((hw.cl hf).ptr (by rw[Cx];omega)) h1).run w hw⟩
theorem oc{lst:List Nd}{q:Nat}(hx:ev S x=.pointer (some ⟨dA a,eH a+14*q,none⟩))(ht:kQ P t 14=true)(hf:rK A F O a (Mg lst))(hq:q<lst.length) :
  aK P S (SF w0 M H A F O) ⟨some d,.load t x,ty,pos,af,gd⟩ (lst.getD q Nd.zero).v:=⟨λ w hw=>by
 have hcl:=hw.cl hf
 obtain⟨dd,hu,hm,hi⟩:=jG ht
 have hagg:(isAgg t).run P w=.ok true w:=by
  unfold isAgg
  rw[Sem.run_bind,run_underlying hu w]
  cases dd<;>simp_all
 have hl:(loadCells ⟨dA a,eH a+14*q,none⟩ 14).run P w=.ok ⟨(lst.getD q Nd.zero).cells⟩ w:=by
  have:=run_loadCells_list (P:=P) w ⟨dA a,eH a+14*q,none⟩ (lst.getD q Nd.zero).cells (λ j z hz=>by
   have hj:j<14:=(List.getElem?_eq_some_iff.1 hz).1
   rw[Addr.add_lit]
   have h3:=(hcl.at_ (14*q+j) z (by rw[We hq hj];exact hz)).2
   rwa [<- Nat.add_assoc] at h3)
  exact this
 cases hq':P.info? t with
 | none=>rw[hq'] at hi;simp at hi
 | some i =>
  have hs:i.size=14:=by rw[hq'] at hi;simpa using hi
  simp[execOp,hx,Instr.loadAt,Instr.sureAddr,loadVar,hagg,Go.sizeOf,typeInfo,hq',hs,hl,Nd.v]⟩
def W6(v n:Int):Int:=IntKind.i64.wrap ((IntKind.u64.wrap v).tmod (IntKind.u64.wrap n))
def tvN(l:List Int)(k:Nat)(n:Int):Nat:=if k<l.length then(W6 (l.getD k 0) n).toNat else 0
def kY(l:List Int)(k:Nat):Nat:=if k<l.length then k+1 else k
theorem wrap_u64(i:Int):IntKind.u64.wrap i=i%18446744073709551616:=by
 simp[IntKind.wrap,IntKind.signed,IntKind.bits]
theorem Rb{v n:Int}(h0:0<n)(h1:n<=9223372036854775807):0<=W6 v n/\W6 v n<n:=by
 unfold W6
 rw[wrap_u64,wrap_u64,Int.emod_eq_of_lt (a:=n) (by omega) (by omega)]
 have h2:=Int.emod_nonneg v (show(18446744073709551616:Int)≠0 by decide)
 have h3:=Int.tmod_lt_of_pos (v%18446744073709551616) h0
 have h4:=Int.tmod_nonneg n h2
 rw[wrap_i64 (by omega) (by omega)]
 exact⟨h4,h3⟩
def jy(T:TypeId)(a:Option Addr)(l:List Int)(c k:Nat):Obj:=.cells ⟨[.slice a l.length c,.int .i64 ((k:Nat):Int)]⟩ T (0,0)
structure Lj(w:World)(T:TypeId)(b:Nat)(a:Option Addr)(l:List Int)(c k:Nat):Prop where
 obj:w.heap[b]?=some (jy T a l c k)
 cl:Cl w a (aH l)
 ne:aH l≠[]->dA a≠b
 len:l.length<=17592186043904
theorem SF.tape(h:SF w0 M H A F O w){T b l}(ha:At H i b (jy T a l c k))(hf:rK A F [] a (aH l))(hl:l.length<=17592186043904):Lj w T b a l c k:=by
 refine⟨h.st.at ha,?_,λ hc e=>h.apart hf hc (e▸List.mem_append_left _ (List.mem_map.2 ⟨_,ha.mem,rfl⟩)),hl⟩
 cases hf with
 | bA h1=>exact h.cl (.bA h1)
 | new h1=>exact h.cl (.new h1)
 | own h1=>cases h1
 | hdr h1 _=>cases h1
theorem Lj.start{T b l}(h:Lj w T b a l c k):SF w [b] [(b,.cells ⟨[.slice a l.length c,.int .i64 ((k:Nat):Int)]⟩ T (0,0))] [(a,aH l)] [] [] w:=by
 refine⟨⟨rfl,rfl,rfl,Nat.le_refl _,λ _ _ _=>rfl,λ p hp=>?_,λ p hp=>?_,by simp⟩,λ f hf=>?_,λ _ h=>(List.not_mem_nil h).elim,λ _ h=>(List.not_mem_nil h).elim,by simp[Ks]⟩
 ·simp only[List.mem_singleton] at hp
  subst hp
  exact h.obj
 ·simp only[List.mem_singleton] at hp
  subst hp
  exact .inl (by simp)
 ·simp only[List.mem_singleton] at hf
  subst hf
  exact⟨h.cl,λ hc=>by simp only[Ks,List.map_cons,List.map_nil,List.flatMap_nil,List.append_nil,List.mem_singleton];exact h.ne hc⟩
end
end
section
section
variable{w0 w w':World}{M:List Nat}{H:List (Nat×Obj)}{A F:Fr}{O:List Ow}
structure aU where
 nd:Nd
 xs:List Int
 ys:List Pr
structure Nv where
 kind:Int
 gen:Int
 main:Int
 bm:Int
 xs:List Int
 hash:Int
 key:ByteArray
 val:Int
 ys:List Pr
 prev:Int
 bA:Int
 exp:Int
 new:Int
 status:Int
def Nd.c(n:Nd)(xs:List Int)(ys:List Pr):Nv:=⟨n.kind,n.gen,n.main,n.bm,xs,n.hash,n.key,n.val,ys,n.prev,n.bA,n.exp,n.new,n.status⟩
def aU.c(v:aU):Nv:=v.nd.c v.xs v.ys
theorem Au{a b:Nd}{x1 x2:List Int}{y1 y2:List Pr}:rW a b x1 x2 y1 y2↔a.c x1 y1=b.c x2 y2:=by simp[rW,Nd.c]
def aU.fr(v:aU):Fr:=[(v.nd.brA,aH v.xs),(v.nd.prA,dE v.ys)]
def aU.zero:aU:=⟨Nd.zero,[],[]⟩
def aL(L:List aU):Fr:=L.flatMap aU.fr
def gX(L:List aU):List Value:=L.flatMap (·.nd.cells)
theorem Uw(L:List aU):gX L=Mg (L.map (·.nd)):=by simp[gX,Mg,List.flatMap_map]
theorem o7{L:List aU}{k:Nat}:(L.map (·.nd)).getD k Nd.zero=(L.getD k aU.zero).nd:=by
 rw[jS,jS,List.getElem?_map]
 cases L[k]?<;>rfl
theorem jB(n:Nd):n.cells.length=14:=rfl
theorem Fi(a b:List aU):gX (a++b)=gX a++gX b:=by simp[gX]
theorem pb(v:aU):gX [v]=v.nd.cells:=by simp[gX]
theorem kE(a:List aU)(v:aU):gX (a++[v])=gX a++v.nd.cells:=by rw[Fi,pb]
theorem dF(a b:List aU):aL (a++b)=aL a++aL b:=by simp[aL]
theorem eA:∀L:List aU,(gX L).length=L.length*14
 | []=>rfl
 | v::L=>by
  have:=eA L
  simp only[gX,List.flatMap_cons,List.length_append,jB,List.length_cons] at this ⊢
  omega
theorem kw:∀{L:List aU} {k j:Nat} {v:Value},k<L.length->(L.getD k aU.zero).nd.cells[j]?=some v->(gX L)[14*k+j]?=some v
 | v::L,0,j,u,_,hj=>by
  have hlt:j<14:=by
   have:=(List.getElem?_eq_some_iff.1 hj).1
   simpa[jB] using this
  simp only[gX,List.flatMap_cons,Nat.mul_zero,Nat.zero_add]
  rw[List.getElem?_append_left (by rw[jB];exact hlt)]
  simpa using hj
 | v::L,k+1,j,u,hk,hj=>by
  simp only[gX,List.flatMap_cons]
  rw[List.getElem?_append_right (by rw[jB];omega),jB,show 14*(k+1)+j-14=14*k+j by omega]
  exact kw (L:=L) (by simpa using hk) (by simpa using hj)
theorem Dc(n:Nd):n.cells.all (·.oneCell')=true:=rfl
theorem Ab:∀L:List aU,(gX L).all (·.oneCell')=true
 | []=>rfl
 | v::L=>by
  have:=Ab L
  simp only[gX,List.flatMap_cons,List.all_append,Bool.and_eq_true] at this ⊢
  exact⟨Dc _,this⟩
theorem sI{L:List aU}{f:Option Addr×List Value}:f∈aL L↔∃v∈L,f∈v.fr:=by simp[aL]
theorem gE{L:List aU}{k:Nat}(hk:k<L.length):L.getD k aU.zero∈L:=by
 rw[jS,List.getElem?_eq_getElem hk];exact List.getElem_mem hk
theorem K1{L:List aU}{k:Nat}(hk:k<L.length):((L.getD k aU.zero).nd.brA,aH (L.getD k aU.zero).xs)∈aL L:=sI.2 ⟨_,gE hk,by simp[aU.fr]⟩
theorem L9{L:List aU}{k:Nat}(hk:k<L.length):((L.getD k aU.zero).nd.prA,dE (L.getD k aU.zero).ys)∈aL L:=sI.2 ⟨_,gE hk,by simp[aU.fr]⟩
structure aU.Fit(v:aU):Prop where
 brN:v.nd.brN=v.xs.length
 prN:v.nd.prN=v.ys.length
 brS:v.xs.length<=35184372088832
 prS:v.ys.length<=11728124029610
theorem aU.Fit.sG{v:aU}(h:v.Fit){w:World}(hb:Cl w v.nd.brA (aH v.xs))(hp:Cl w v.nd.prA (dE v.ys)):rV w v.nd v.xs v.ys :=
 ⟨h.brN,h.prN,hb,hp,by have:=h.brS;omega,by have:=h.prS;omega⟩
def Fits(L:List aU):Prop:=∀v∈L,v.Fit
theorem Fits.at{L:List aU}(h:Fits L){k:Nat}(hk:k<L.length):(L.getD k aU.zero).Fit:=h _ (gE hk)
theorem Y7:aU.zero.Fit:=⟨rfl,rfl,by decide,by decide⟩
structure rX(w:World)(L:List aU)(cs:List Int)(pn pc:Option Addr):Prop where
 nds:Cl w pn (gX L)
 cls:Cl w pc (aH cs)
 fam:∀f∈aL L,Cl w f.1 f.2
 fit:Fits L
theorem rX.start{w:World}{L:List aU}{cs:List Int}{pn pc:Option Addr}(h:rX w L cs pn pc):SF w [] [] ((pn,gX L)::(pc,aH cs)::aL L) [] [] w:=SF.begin λ f hf=>by
 rcases List.mem_cons.1 hf with rfl|hf
 ·exact h.nds
 rcases List.mem_cons.1 hf with rfl|hf
 ·exact h.cls
 ·exact h.fam f hf
theorem SF.Pp{L:List aU}{f1 f2:Option Addr×List Value}(h:SF w0 M H (f1::f2::aL L) F O w)(hfit:Fits L){k:Nat}(hk:k<L.length):rV w (L.getD k aU.zero).nd (L.getD k aU.zero).xs (L.getD k aU.zero).ys :=
 (hfit.at hk).sG (h.bA _ (List.mem_cons_of_mem _ (List.mem_cons_of_mem _ (K1 hk)))).1 (h.bA _ (List.mem_cons_of_mem _ (List.mem_cons_of_mem _ (L9 hk)))).1
theorem SF.aBG{L:List aU}(h:SF w0 M H (aL L) F O w)(hfit:Fits L){k:Nat}(hk:k<L.length):rV w (L.getD k aU.zero).nd (L.getD k aU.zero).xs (L.getD k aU.zero).ys :=
 (hfit.at hk).sG (h.bA _ (K1 hk)).1 (h.bA _ (L9 hk)).1
theorem SF.aCC{L:List aU}(h:SF w0 M H A F O w)(hF:∀f∈aL L,f.2=[]∨f∈A∨f∈F)(hfit:Fits L){v:aU}(hv:v∈L):rV w v.nd v.xs v.ys:=by
 have key:∀f∈aL L,Cl w f.1 f.2:=λ f hf=>by
  rcases hF f hf with h0|h1|h1
  ·rw[h0];exact Cl.nil _ _
  ·exact(h.bA f h1).1
  ·exact(h.new f h1).1
 exact(hfit v hv).sG (key (v.nd.brA,aH v.xs) (sI.2 ⟨v,hv,by simp[aU.fr]⟩)) (key (v.nd.prA,dE v.ys) (sI.2 ⟨v,hv,by simp[aU.fr]⟩))
variable{P:Program}{S:List (Nat×Value)}{G:World->Prop}{d:Nat}{ty:TypeId}{pos:String}{af:Array Edge}{gd:Option (Nat×Bool)}{x y:Operand}{t t2 e:TypeId}{p a:Option Addr}{i m k c c2:Nat}
theorem sQ{L:List aU}{kk:IntKind}(hx:ev S x=.slice a m c)(hy:ev S y=.int kk ((k:Nat):Int))(ht:P.underlying t=some (.slice e))(hs:kQ P e 14=true)(hf:rK A F O a (gX L))(h1:k<m)(h2:k<L.length) :
  aK P S (SF w0 M H A F O) ⟨some d,.indexAddr t x y,ty,pos,af,gd⟩ (.pointer (some ⟨dA a,eH a+14*k,none⟩)):=jz (lst:=L.map (·.nd)) hx hy ht hs (by rw[<- Uw];exact hf) h1 (by simpa using h2)
theorem U9{L:List aU}{q:Nat}(hx:ev S x=.pointer (some ⟨dA a,eH a+14*q,none⟩))(ht:kQ P t 14=true)(hf:rK A F O a (gX L))(hq:q<L.length) :
  aK P S (SF w0 M H A F O) ⟨some d,.load t x,ty,pos,af,gd⟩ (L.getD q aU.zero).nd.v:=by
 have:=oc (P:=P) (S:=S) (w0:=w0) (M:=M) (H:=H) (A:=A) (F:=F) (O:=O) (d:=d) (ty:=ty) (pos:=pos) (af:=af) (gd:=gd) (lst:=L.map (·.nd)) hx ht (by rw[<- Uw];exact hf) (by simpa using hq)
 rwa [o7] at this
theorem vZ{L:List aU}{q:Nat}(hx:ev S x=.pointer (some ⟨dA a,eH a+14*q,none⟩))(ht:one P t=true)(hf:rK A F O a (gX L))(hq:q<L.length) :
  aK P S (SF w0 M H A F O) ⟨some d,.load t x,ty,pos,af,gd⟩ (.int .i64 (L.getD q aU.zero).nd.kind):=rC (q:=14*q) hx ht (λ w hw=>hw.cl hf) (kw (j:=0) hq rfl)
theorem ot{L:List aU}{zc:List Value}(v:aU)(hx:ev S x=.slice p m c)(hy:ev S y=.slice a 1 c2)(ho:xC O i p (gX L) c e 14)(hm:L.length=m)(hf:rK A F O a v.nd.cells)
  (he:dS P t e zc) (hz:zc.length=14) (ht2:P.underlying t2=some (.slice e)) (hb:m+1<=549755813888) :
  bF P S (SF w0 M H A F O) ⟨some d,.call {callee:=.builtin .append,args := #[x,y],argTypes := #[t,t2]},ty,pos,af,gd⟩ (Option Addr×Nat) (λ q=>.slice q.1 (m+1) q.2)
   (λ q w=>m+1<=q.2/\SF w0 M H A F (kW O i ⟨q.1,gX (L++[v]),q.2,e,14⟩) w):=by
 rw[kE]
 exact fT hx hy ho (by rw[eA,hm]) hf (by simp[Nd.cells]) (Dc _) he hz (by decide) ht2 hb
theorem j5{L L2:List aU}{zc:List Value}(hx:ev S x=.slice p m c)(hy:ev S y=.slice a k c2)(ho:xC O i p (gX L) c e 14)(hm:L.length=m)(hf:rK A F O a (gX L2))(hk:L2.length=k)
  (he:dS P t e zc) (hz:zc.length=14) (ht2:P.underlying t2=some (.slice e)) (hb:m+k<=549755813888) :
  bF P S (SF w0 M H A F O) ⟨some d,.call {callee:=.builtin .append,args := #[x,y],argTypes := #[t,t2]},ty,pos,af,gd⟩ (Option Addr×Nat) (λ q=>.slice q.1 (m+k) q.2)
   (λ q w=>m+k<=q.2/\SF w0 M H A F (kW O i ⟨q.1,gX (L++L2),q.2,e,14⟩) w):=by
 rw[Fi]
 exact fT hx hy ho (by rw[eA,hm]) hf (by rw[eA,hk]) (Ab _) he hz (by decide) ht2 hb
theorem qn{k:Nat}{k1 k2:IntKind}{zc:List Value}(hx:ev S x=.int k1 0)(hy:ev S y=.int k2 ((k:Nat):Int))(he:dS P t e zc)(hz:zc.length=14)(hk:k<=1099511627776) :
  bF P S (SF w0 M H A F O) ⟨some d,.makeSlice t x y,ty,pos,af,gd⟩ Nat (λ b=>.slice (some ⟨b,0,none⟩) 0 k) (λ b=>SF w0 M H A F (⟨some ⟨b,0,none⟩,gX [],k,e,14⟩::O)):=by
 have:=T8 (P:=P) (S:=S) (w0:=w0) (M:=M) (H:=H) (A:=A) (F:=F) (O:=O) (d:=d) (ty:=ty) (pos:=pos) (af:=af) (gd:=gd) (m:=0) (k:=k) (k1:=k1) (k2:=k2) (x:=x) (y:=y) (cs:=gX []) (by simpa using hx) hy he (Nat.zero_le _) hk (List.eq_nil_of_length_eq_zero (by rw[jW];simp))
 rwa [hz] at this
section
variable{m n:Nat}{t':TypeId}
theorem oT(hx:ev S x=.int .i64 ((m:Nat):Int))(hy:ev S y=.int .i64 ((n:Nat):Int))(h:m+n<=9223372036854775807) :
  aK P S G ⟨some d,.binOp .add t x y t',ty,pos,af,gd⟩ (.int .i64 ((m+n:Nat):Int)):=by
 have:=oJ (P:=P) (G:=G) (d:=d) (ty:=ty) (pos:=pos) (af:=af) (gd:=gd) (t:=t) (t':=t') hx hy
 rw[wrap_i64 (by omega) (by omega)] at this
 rw[Int.natCast_add]
 exact this
theorem jI(hx:ev S x=.int .i64 ((m:Nat):Int))(hy:ev S y=.int .i64 ((n:Nat):Int))(h:n<=m)(h2:m<=9223372036854775807) :
  aK P S G ⟨some d,.binOp .sub t x y t',ty,pos,af,gd⟩ (.int .i64 ((m-n:Nat):Int)):=by
 have:=Nq (P:=P) (G:=G) (d:=d) (ty:=ty) (pos:=pos) (af:=af) (gd:=gd) (t:=t) (t':=t') hx hy
 rw[wrap_i64 (by omega) (by omega)] at this
 rw[Int.natCast_sub h]
 exact this
end
theorem jF{P:Program}{S:List (Nat×Value)}{G:World->Prop}{d:Nat}{ty:TypeId}{pos:String}{af:Array Edge}{gd:Option (Nat×Bool)}{x:Operand}{vs:List Value}{k:Nat}{v:Value}(hx:ev S x=.tuple ⟨vs⟩)(hk:vs[k]?=some v):aK P S G ⟨some d,.extract x k,ty,pos,af,gd⟩ v:=⟨λ w _=>by
 simp[execOp,hx,Instr.extract,hk]⟩
theorem Lc{a:Int}(hx:ev S x=.int .i64 a)(hy:ev S y=.int .i64 1)(h:1<=a)(h2:a<=9223372036854775807):aK P S G ⟨some d,.binOp .sub t x y t2,ty,pos,af,gd⟩ (.int .i64 (((a-1).toNat:Nat):Int)):=by
 have:=S8 (P:=P) (G:=G) (d:=d) (ty:=ty) (pos:=pos) (af:=af) (gd:=gd) (t:=t) (t':=t2) hx hy (by omega)
 rwa [show a-1=(((a-1).toNat:Nat):Int) by omega] at this
theorem Ot:∀(L:List aU) (k:Nat),(gX L).drop (k*14)=gX (L.drop k)
 | [],k=>by simp[gX]
 | v::L,0=>by simp
 | v::L,k+1=>by
  have:=Ot L k
  rw[List.drop_succ_cons,<- this]
  show(v.nd.cells++gX L).drop ((k+1)*14)=_
  rw[List.drop_append,List.drop_eq_nil_of_le (by rw[jB];omega),jB,List.nil_append]
  congr 1
  omega
theorem qb{L:List aU}(hx:ev S x=.slice a m c)(hy:ev S y=.int .i64 ((k:Nat):Int))(ht:P.underlying t=some (.slice e))(hs:(P.info? e).map (·.size)=some 14)(hk:k<=m)(hf:rK A F [] a (gX L))(hmc:m<=c)(hl:L.length=m) :
  bF P S (SF w0 M H A F O) ⟨some d,.slice t x (some y) none none,ty,pos,af,gd⟩ (Option Addr) (λ p=>.slice p (m-k) (c-k)) (λ p=>SF w0 M H ((p,gX (L.drop k))::A) F O):=by
 have:=ue (P:=P) (w0:=w0) (M:=M) (H:=H) (O:=O) (d:=d) (ty:=ty) (pos:=pos) (af:=af) (gd:=gd) hx hy ht hs hk hf hmc (by rw[eA,hl])
 rw[Ot] at this
 exact this
theorem SF.ze(h:SF w0 M H A F O w){L:List aU}{T:TypeId}(ho:xC O i p (gX L) c T 14):L.length<=c:=by
 rcases(h.own _ ho.mem).1 with⟨_,h2,_⟩|⟨b,rest,_,_,h3⟩
 ·have h2':gX L=[]:=h2
  have:(gX L).length=0:=by rw[h2'];rfl
  rw[eA] at this
  omega
 ·have h3':(gX L++rest).length=c*14:=h3
  rw[List.length_append,eA] at h3'
  omega
theorem aP{b off:Nat}{cs vs:List Value}{T:TypeId}(hx:ev S x=.pointer (some ⟨b,off,none⟩))(ha:At H i b (.cells ⟨cs⟩ T (0,0)))(ht:kQ P t k=true)(hv:(cs.drop off).take k=vs)(hl:vs.length=k) :
  aK P S (SF w0 M H A F O) ⟨some d,.load t x,ty,pos,af,gd⟩ (.agg ⟨vs⟩):=⟨λ w hw=>by
 have hb:=hw.st.at ha
 have hcl:Cl w (some ⟨b,0,none⟩) cs:=Cl.block (pre:=[]) (rest:=[]) (by simpa using hb) rfl
 obtain⟨dd,hu,hm,hi⟩:=jG ht
 have hagg:(isAgg t).run P w=.ok true w:=by
  unfold isAgg
  rw[Sem.run_bind,run_underlying hu w]
  cases dd<;>simp_all
 have hlc:(loadCells ⟨b,off,none⟩ k).run P w=.ok ⟨vs⟩ w:=by
  have:=run_loadCells_list (P:=P) w ⟨b,off,none⟩ vs (λ j z hz=>by
   rw[Addr.add_lit]
   have hj:j<k:=by rw[<- hl];exact(List.getElem?_eq_some_iff.1 hz).1
   have h1:cs[off+j]?=some z:=by
    rw[<- hv,List.getElem?_take,if_pos hj,List.getElem?_drop] at hz
    exact hz
   have h3:=(hcl.at_ (off+j) z h1).2
   simpa[dA,eH] using h3)
  rwa [hl] at this
 cases hq':P.info? t with
 | none=>rw[hq'] at hi;simp at hi
 | some inf =>
  have hs:inf.size=k:=by rw[hq'] at hi;simpa using hi
  simp[execOp,hx,Instr.loadAt,Instr.sureAddr,loadVar,hagg,Go.sizeOf,typeInfo,hq',hs,hlc]⟩
def Av(P:Program)(t:TypeId)(k:Nat):Option Nat :=
 match P.underlying t with
 | some (.struct fs)=>match fs[k]? with
  | some f=>if one P f.type then some f.offset else none
  | none=>none
 | _=>none
theorem Uj{cs:List Value}{off:Nat}{v:Value}(hx:ev S x=.agg ⟨cs⟩)(hf:Av P t k=some off)(hv:cs[off]?=some v):aK P S G ⟨some d,.field t x k,ty,pos,af,gd⟩ v:=⟨λ w _=>by
 unfold Av at hf
 cases hu:P.underlying t with
 | none=>simp[hu] at hf
 | some dd =>
  cases dd<;>simp[hu] at hf
  rename_i fs
  cases hk:fs[k]? with
  | none=>simp[hk] at hf
  | some f =>
   simp only[hk] at hf
   split at hf
   ·rename_i h1
    simp only[Option.some.injEq] at hf
    subst hf
    have hp:=tB (P:=P) h1 (cs:=⟨cs⟩) (off:=f.offset) (v:=v) (by simpa using hv) w
    simp[execOp,hx,Instr.field,run_underlying hu,hk,asAgg,hp]
   ·cases hf⟩
def gG(l:List Bool):List Value:=l.map .bool
theorem yQ(l:List Bool):(gG l).length=l.length:=by simp[gG]
theorem Wq{l:List Bool}{k:Nat}(h:k<l.length):(gG l)[k]?=some (.bool (l.getD k false)):=by simp[gG,h,List.getD]
theorem Tp(k:Nat):made [.bool false] k=gG (List.replicate k false):=by
 refine List.ext_getElem? λ i=>?_
 by_cases hi:i<k
 ·simp[made,madeCells,gG,Array.getElem?_toList,Array.getElem?_map,Array.getElem?_range,hi,Nat.mod_one]
 ·rw[List.getElem?_eq_none (by rw[jW];simp;omega),List.getElem?_eq_none (by simp[gG];omega)]
theorem rb{m k:Nat}{k1 k2:IntKind}(hx:ev S x=.int k1 ((m:Nat):Int))(hy:ev S y=.int k2 ((k:Nat):Int))(he:dS P t e [.bool false])(hmk:m<=k)(hk:k<=1099511627776) :
  bF P S (SF w0 M H A F O) ⟨some d,.makeSlice t x y,ty,pos,af,gd⟩ Nat (λ b=>.slice (some ⟨b,0,none⟩) m k) (λ b=>SF w0 M H A F (⟨some ⟨b,0,none⟩,gG (List.replicate m false),k,e,1⟩::O)) :=
 T8 hx hy he hmk hk (Tp m)
theorem wX{lst:List Bool}{kk:IntKind}(hx:ev S x=.slice a m c)(hy:ev S y=.int kk ((k:Nat):Int))(ht:P.underlying t=some (.slice e))(hs:one P e=true)(hf:rK A F O a (gG lst))(h1:k<m)(h2:k<lst.length) :
  aK P S (SF w0 M H A F O) ⟨some d,.indexAddr t x y,ty,pos,af,gd⟩ (.pointer (some ⟨dA a,eH a+k,none⟩)):=⟨λ w hw =>
 (A3 (G:=SF w0 M H A F O) hx hy ht hs ((hw.cl hf).ptr (by rw[yQ];omega)) h1).run w hw⟩
theorem K7{lst:List Bool}{q:Nat}(hx:ev S x=.pointer (some ⟨dA a,eH a+q,none⟩))(ht:one P t=true)(hf:rK A F O a (gG lst))(hq:q<lst.length) :
  aK P S (SF w0 M H A F O) ⟨some d,.load t x,ty,pos,af,gd⟩ (.bool (lst.getD q false)):=rC hx ht (λ w hw=>hw.cl hf) (Wq hq)
theorem To(l:List Bool)(k:Nat)(v:Bool):(gG l).set k (.bool v)=gG (l.set k v):=by simp[gG]
theorem j2{q:Nat}{l:List Bool}{v:Bool}(hx:ev S x=.pointer (some ⟨dA p,eH p+q,none⟩))(hy:ev S y=.bool v)(ht:one P t=true)(ho:xC O i p (gG l) c e 1)(hq:q<l.length) :
  bF P S (SF w0 M H A F O) ⟨none,.store t x y,ty,pos,af,gd⟩ Unit (λ _=>undef) (λ _=>SF w0 M H A F (kW O i ⟨p,gG (l.set q v),c,e,1⟩)):=by
 rw[<- To]
 exact Oi hx hy rfl ht ho (by rw[yQ];exact hq)
theorem kh(hx:ev S x=.slice a m c)(hy:ev S y=.slice none 0 0)(ht:P.underlying t=some (.slice e)):aK P S G ⟨some d,.binOp .eql t x y t2,ty,pos,af,gd⟩ (.bool a.isNone):=⟨λ w _=>by
 have:=Go.Lib.run_eql_slice_nil (P:=P) w t e a m c 0 0 ht
 simp[execOp,hx,hy,this,eqGuard]⟩
def Jx(P:Program)(t:TypeId):Bool:=match P.underlying t with|some (.pointer _)=>true|_=>false
theorem Nk(h:Jx P t=true):P.underlying t=some (.pointer (P.pointee t)):=by
 unfold Jx at h
 cases hu:P.underlying t with
 | none=>simp[hu] at h
 | some dd=>cases dd<;>simp[hu,Program.pointee] at h ⊢
theorem pj{q:Option Addr}(hx:ev S x=.pointer q)(hy:ev S y=.pointer none)(ht:Jx P t=true):aK P S G ⟨some d,.binOp .eql t x y t2,ty,pos,af,gd⟩ (.bool q.isNone):=⟨λ w _=>by
 have:=run_eql_pointer_nil (P:=P) w t q (Nk ht)
 simp[execOp,hx,hy,this,eqGuard]⟩
theorem Vw{q:Option Addr}(hx:ev S x=.pointer q)(hy:ev S y=.pointer none)(ht:Jx P t=true):aK P S G ⟨some d,.binOp .neq t x y t2,ty,pos,af,gd⟩ (.bool (!q.isNone)):=⟨λ w _=>by
 have:=run_neq_pointer_nil (P:=P) w t q (Nk ht)
 simp[execOp,hx,hy,this,eqGuard]⟩
end
end
end Go.Ct
namespace Go.Proofs.YtbajmaoegmbfgaaGreat
open Go.Proofs.Tryz (prog)
open Go.RowKit Go.Ct
section
def aBA:List Nat:=[2,3,4,5,9,12,15,16,17,20,21,22,23,25,27,30,31,32,33,37,42,44,45,50,56,62,74,85,95,102,108,115,122,123,129,130,151,156,169,209,255,259]
theorem xl:(aBA.all λ t=>one prog t)=true:=by kernel_rfl
theorem Ma{t:Nat}(h:aBA.elem t=true):one prog t=true:=List.all_eq_true.1 xl t (List.mem_of_elem_eq_true h)
def aBD:List (Nat×Nat):=[(29,2),(35,4),(39,5),(47,14),(52,3),(54,4),(64,8),(76,2),(87,3),(89,25),(114,2),(125,3),(128,4),(132,14),(139,4),(141,17),(153,52),(159,5),(164,2),(230,2)]
theorem zn:(aBD.all λ p=>kQ prog p.1 p.2)=true:=by kernel_rfl
theorem R9{t k:Nat}(h:(aBD.any λ p=>Nat.beq p.1 t&&Nat.beq p.2 k)=true):kQ prog t k=true:=by
 obtain⟨p,hp,ht⟩:=List.any_eq_true.1 h
 simp only[Bool.and_eq_true] at ht
 have h2:=List.all_eq_true.1 zn p hp
 rwa [eT ht.1,eT ht.2] at h2
theorem yF:dD prog 29=some (.agg ⟨[.int .i64 0,.bool false]⟩):=by kernel_rfl
theorem G5{t:Nat}(h:Nat.beq t 29=true):dD prog t=some (.agg ⟨[.int .i64 0,.bool false]⟩):=by rw[eT h];exact yF
theorem Cg{t:Nat}(h:Nat.beq t 29=true):structOf prog t [.int .i64 0,.bool false]:=by rw[eT h];exact iS (by kernel_rfl) yF
theorem wW:dD prog 35=some (.agg ⟨[.pointer none,.int .u64 0,.slice none 0 0,.slice none 0 0]⟩):=by kernel_rfl
theorem sF{t:Nat}(h:Nat.beq t 35=true):structOf prog t [.pointer none,.int .u64 0,.slice none 0 0,.slice none 0 0]:=by rw[eT h];exact iS (by kernel_rfl) wW
theorem yP:dD prog 47=some (.agg ⟨[.int .i64 0,.int .i64 0,.int .i64 0,.int .u64 0,.slice none 0 0,.int .u64 0,.string ⟨#[]⟩,.int .u64 0,.slice none 0 0,.int .i64 0,.int .i64 0,.int .i64 0,.int .i64 0,.int .i64 0]⟩):=by kernel_rfl
theorem Hf{t:Nat}(h:Nat.beq t 47=true):dD prog t=some (.agg ⟨[.int .i64 0,.int .i64 0,.int .i64 0,.int .u64 0,.slice none 0 0,.int .u64 0,.string ⟨#[]⟩,.int .u64 0,.slice none 0 0,.int .i64 0,.int .i64 0,.int .i64 0,.int .i64 0,.int .i64 0]⟩):=by rw[eT h];exact yP
theorem Cb{t:Nat}(h:Nat.beq t 47=true):structOf prog t [.int .i64 0,.int .i64 0,.int .i64 0,.int .u64 0,.slice none 0 0,.int .u64 0,.string ⟨#[]⟩,.int .u64 0,.slice none 0 0,.int .i64 0,.int .i64 0,.int .i64 0,.int .i64 0,.int .i64 0]:=by rw[eT h];exact iS (by kernel_rfl) yP
theorem E8:dD prog 52=some (.agg ⟨[.slice none 0 0,.slice none 0 0,.int .i64 0]⟩):=by kernel_rfl
theorem zY{t:Nat}(h:Nat.beq t 52=true):structOf prog t [.slice none 0 0,.slice none 0 0,.int .i64 0]:=by rw[eT h];exact iS (by kernel_rfl) E8
theorem yB:dD prog 54=some (.agg ⟨[.slice none 0 0,.slice none 0 0,.int .i64 0,.int .i64 0]⟩):=by kernel_rfl
theorem uL{t:Nat}(h:Nat.beq t 54=true):placeOf prog t [(0,3),(3,1)] [.slice none 0 0,.slice none 0 0,.int .i64 0,.int .i64 0]:=by rw[eT h];exact lM (by kernel_rfl) yB
theorem uH:dD prog 64=some (.agg ⟨[.int .i64 0,.bool false,.int .u64 0,.string ⟨#[]⟩,.int .i64 0,.int .i64 0,.int .i64 0,.bool false]⟩):=by kernel_rfl
theorem Ca{t:Nat}(h:Nat.beq t 64=true):dD prog t=some (.agg ⟨[.int .i64 0,.bool false,.int .u64 0,.string ⟨#[]⟩,.int .i64 0,.int .i64 0,.int .i64 0,.bool false]⟩):=by rw[eT h];exact uH
theorem Ad{t:Nat}(h:Nat.beq t 64=true):placeOf prog t [(0,1),(1,1),(2,1),(3,1),(4,1),(5,1),(6,2)] [.int .i64 0,.bool false,.int .u64 0,.string ⟨#[]⟩,.int .i64 0,.int .i64 0,.int .i64 0,.bool false]:=by rw[eT h];exact lM (by kernel_rfl) uH
theorem oD:dD prog 89=some (.agg ⟨[.int .i64 0,.int .i64 0,.bool false,.int .i64 0,.int .i64 0,.int .i64 0,.int .i64 0,.int .u64 0,.int .u64 0,.string ⟨#[]⟩,.int .u64 0,.int .u64 0,.int .i64 0,.bool false,.bool false,.slice none 0 0,.slice none 0 0,.int .i64 0,.bool false,.int .u64 0,.string ⟨#[]⟩,.int .i64 0,.int .i64 0,.int .i64 0,.bool false]⟩):=by kernel_rfl
theorem uV{t:Nat}(h:Nat.beq t 89=true):dD prog t=some (.agg ⟨[.int .i64 0,.int .i64 0,.bool false,.int .i64 0,.int .i64 0,.int .i64 0,.int .i64 0,.int .u64 0,.int .u64 0,.string ⟨#[]⟩,.int .u64 0,.int .u64 0,.int .i64 0,.bool false,.bool false,.slice none 0 0,.slice none 0 0,.int .i64 0,.bool false,.int .u64 0,.string ⟨#[]⟩,.int .i64 0,.int .i64 0,.int .i64 0,.bool false]⟩):=by rw[eT h];exact oD
theorem tW{t:Nat}(h:Nat.beq t 89=true):placeOf prog t [(0,1),(1,2),(3,1),(4,1),(5,1),(6,1),(7,1),(8,1),(9,1),(10,1),(11,1),(12,1),(13,1),(14,3),(17,8)] [.int .i64 0,.int .i64 0,.bool false,.int .i64 0,.int .i64 0,.int .i64 0,.int .i64 0,.int .u64 0,.int .u64 0,.string ⟨#[]⟩,.int .u64 0,.int .u64 0,.int .i64 0,.bool false,.bool false,.slice none 0 0,.slice none 0 0,.int .i64 0,.bool false,.int .u64 0,.string ⟨#[]⟩,.int .i64 0,.int .i64 0,.int .i64 0,.bool false]:=by rw[eT h];exact lM (by kernel_rfl) oD
theorem yC:dD prog 114=some (.agg ⟨[.slice none 0 0,.int .i64 0]⟩):=by kernel_rfl
theorem tQ{t:Nat}(h:Nat.beq t 114=true):structOf prog t [.slice none 0 0,.int .i64 0]:=by rw[eT h];exact iS (by kernel_rfl) yC
theorem Ae:dD prog 125=some (.agg ⟨[.nilIface,.int .i64 0,.bool false]⟩):=by kernel_rfl
theorem Ie{t:Nat}(h:Nat.beq t 125=true):dD prog t=some (.agg ⟨[.nilIface,.int .i64 0,.bool false]⟩):=by rw[eT h];exact Ae
theorem Hl{t:Nat}(h:Nat.beq t 125=true):placeOf prog t [(0,1),(1,2)] [.nilIface,.int .i64 0,.bool false]:=by rw[eT h];exact lM (by kernel_rfl) Ae
theorem uG:dD prog 128=some (.agg ⟨[.int .i64 0,.int .i64 0,.int .i64 0,.int .i64 0]⟩):=by kernel_rfl
theorem Bw{t:Nat}(h:Nat.beq t 128=true):dD prog t=some (.agg ⟨[.int .i64 0,.int .i64 0,.int .i64 0,.int .i64 0]⟩):=by rw[eT h];exact uG
theorem zK{t:Nat}(h:Nat.beq t 128=true):structOf prog t [.int .i64 0,.int .i64 0,.int .i64 0,.int .i64 0]:=by rw[eT h];exact iS (by kernel_rfl) uG
theorem wB:dD prog 132=some (.agg ⟨[.int .i64 0,.int .i64 0,.int .i64 0,.int .i64 0,.nilFunc,.nilFunc,.int .i64 0,.bool false,.int .u64 0,.string ⟨#[]⟩,.int .i64 0,.int .i64 0,.int .i64 0,.bool false]⟩):=by kernel_rfl
theorem Dn{t:Nat}(h:Nat.beq t 132=true):dD prog t=some (.agg ⟨[.int .i64 0,.int .i64 0,.int .i64 0,.int .i64 0,.nilFunc,.nilFunc,.int .i64 0,.bool false,.int .u64 0,.string ⟨#[]⟩,.int .i64 0,.int .i64 0,.int .i64 0,.bool false]⟩):=by rw[eT h];exact wB
theorem Bh{t:Nat}(h:Nat.beq t 132=true):placeOf prog t [(0,4),(4,1),(5,1),(6,8)] [.int .i64 0,.int .i64 0,.int .i64 0,.int .i64 0,.nilFunc,.nilFunc,.int .i64 0,.bool false,.int .u64 0,.string ⟨#[]⟩,.int .i64 0,.int .i64 0,.int .i64 0,.bool false]:=by rw[eT h];exact lM (by kernel_rfl) wB
theorem B7:dD prog 139=some (.agg ⟨[.slice none 0 0,.slice none 0 0,.int .i64 0,.int .i64 0]⟩):=by kernel_rfl
theorem xZ{t:Nat}(h:Nat.beq t 139=true):structOf prog t [.slice none 0 0,.slice none 0 0,.int .i64 0,.int .i64 0]:=by rw[eT h];exact iS (by kernel_rfl) B7
theorem Fp:dD prog 141=some (.agg ⟨[.nilIface,.int .i64 0,.int .i64 0,.int .i64 0,.int .i64 0,.nilFunc,.nilFunc,.int .i64 0,.bool false,.int .u64 0,.string ⟨#[]⟩,.int .i64 0,.int .i64 0,.int .i64 0,.bool false,.int .i64 0,.bool false]⟩):=by kernel_rfl
theorem Co{t:Nat}(h:Nat.beq t 141=true):placeOf prog t [(0,1),(1,14),(15,1),(16,1)] [.nilIface,.int .i64 0,.int .i64 0,.int .i64 0,.int .i64 0,.nilFunc,.nilFunc,.int .i64 0,.bool false,.int .u64 0,.string ⟨#[]⟩,.int .i64 0,.int .i64 0,.int .i64 0,.bool false,.int .i64 0,.bool false]:=by rw[eT h];exact lM (by kernel_rfl) Fp
theorem vO:dD prog 153=some (.agg ⟨[.pointer none,.int .i64 0,.int .i64 0,.bool false,.int .i64 0,.int .i64 0,.int .i64 0,.int .i64 0,.int .u64 0,.int .u64 0,.string ⟨#[]⟩,.int .u64 0,.int .u64 0,.int .i64 0,.bool false,.bool false,.slice none 0 0,.slice none 0 0,.int .i64 0,.bool false,.int .u64 0,.string ⟨#[]⟩,.int .i64 0,.int .i64 0,.int .i64 0,.bool false,.slice none 0 0,.slice none 0 0,.slice none 0 0,.slice none 0 0,.int .i64 0,.int .i64 0,.int .i64 0,.int .i64 0,.int .i64 0,.bool false,.int .i64 0,.int .i64 0,.int .i64 0,.int .i64 0,.bool false,.int .i64 0,.bool false,.int .u64 0,.string ⟨#[]⟩,.int .i64 0,.int .i64 0,.int .i64 0,.bool false,.bool false,.slice none 0 0,.slice none 0 0]⟩):=by kernel_rfl
theorem tS{t:Nat}(h:Nat.beq t 153=true):placeOf prog t [(0,1),(1,25),(26,1),(27,1),(28,1),(29,1),(30,1),(31,1),(32,1),(33,1),(34,1),(35,1),(36,4),(40,1),(41,8),(49,3)] [.pointer none,.int .i64 0,.int .i64 0,.bool false,.int .i64 0,.int .i64 0,.int .i64 0,.int .i64 0,.int .u64 0,.int .u64 0,.string ⟨#[]⟩,.int .u64 0,.int .u64 0,.int .i64 0,.bool false,.bool false,.slice none 0 0,.slice none 0 0,.int .i64 0,.bool false,.int .u64 0,.string ⟨#[]⟩,.int .i64 0,.int .i64 0,.int .i64 0,.bool false,.slice none 0 0,.slice none 0 0,.slice none 0 0,.slice none 0 0,.int .i64 0,.int .i64 0,.int .i64 0,.int .i64 0,.int .i64 0,.bool false,.int .i64 0,.int .i64 0,.int .i64 0,.int .i64 0,.bool false,.int .i64 0,.bool false,.int .u64 0,.string ⟨#[]⟩,.int .i64 0,.int .i64 0,.int .i64 0,.bool false,.bool false,.slice none 0 0,.slice none 0 0]:=by rw[eT h];exact lM (by kernel_rfl) vO
theorem yG:dD prog 164=some (.agg ⟨[.string ⟨#[]⟩,.int .u64 0]⟩):=by kernel_rfl
theorem Gl{t:Nat}(h:Nat.beq t 164=true):dD prog t=some (.agg ⟨[.string ⟨#[]⟩,.int .u64 0]⟩):=by rw[eT h];exact yG
theorem B4{t:Nat}(h:Nat.beq t 164=true):structOf prog t [.string ⟨#[]⟩,.int .u64 0]:=by rw[eT h];exact iS (by kernel_rfl) yG
def aBc:List (Nat×Nat):=[(29,0),(29,1),(35,0),(35,1),(35,2),(35,3),(39,0),(39,1),(39,2),(39,3),(39,4),(47,0),(47,1),(47,2),(47,3),(47,4),(47,5),(47,6),(47,7),(47,8),(47,9),(47,10),(47,11),(47,12),(47,13),(52,0),(52,1),(52,2),(54,0),(64,0),(64,1),(64,2),(64,3),(64,4),(64,5),(64,6),(76,0),(76,1),(87,0),(87,1),(87,2),(89,0),(89,1),(114,0),(114,1),(125,0),(125,1),(128,0),(128,1),(128,2),(128,3),(132,0),(139,0),(139,1),(139,2),(139,3),(141,0),(141,1),(153,0),(153,1),(159,0),(164,0),(164,1),(230,0),(230,1)]
theorem xj:(aBc.all λ p=>dB prog p.1 p.2==some p.2)=true:=by kernel_rfl
theorem zs{t k:Nat}(h:(aBc.any λ p=>Nat.beq p.1 t&&Nat.beq p.2 k)=true):dB prog t k=some k:=by
 obtain⟨p,hp,ht⟩:=List.any_eq_true.1 h
 simp only[Bool.and_eq_true] at ht
 have h2:=eq_of_beq (List.all_eq_true.1 xj p hp)
 rwa [eT ht.1,eT ht.2] at h2
def vd:List (Nat×Nat):=[(29,0),(29,1),(35,0),(35,1),(35,2),(35,3),(39,0),(39,1),(39,2),(39,3),(39,4),(47,0),(47,1),(47,2),(47,3),(47,4),(47,5),(47,6),(47,7),(47,8),(47,9),(47,10),(47,11),(47,12),(47,13),(52,0),(52,1),(52,2),(64,0),(64,1),(64,2),(64,3),(64,4),(64,5),(76,0),(76,1),(87,0),(87,1),(87,2),(89,0),(114,0),(114,1),(125,0),(128,0),(128,1),(128,2),(128,3),(139,0),(139,1),(139,2),(139,3),(141,0),(153,0),(164,0),(164,1),(230,0),(230,1)]
theorem tj:(vd.all λ p=>Av prog p.1 p.2==some p.2)=true:=by kernel_rfl
theorem Uu{t k:Nat}(h:(vd.any λ p=>Nat.beq p.1 t&&Nat.beq p.2 k)=true):Av prog t k=some k:=by
 obtain⟨p,hp,ht⟩:=List.any_eq_true.1 h
 simp only[Bool.and_eq_true] at ht
 have h2:=eq_of_beq (List.all_eq_true.1 tj p hp)
 rwa [eT ht.1,eT ht.2] at h2
theorem wC{t k:Nat}(h:(Nat.beq t 54&&Nat.beq k 1)=true):dB prog t k=some 3:=by simp only[Bool.and_eq_true] at h;rw[eT h.1,eT h.2];kernel_rfl
theorem vD{t k:Nat}(h:(Nat.beq t 89&&Nat.beq k 2)=true):dB prog t k=some 3:=by simp only[Bool.and_eq_true] at h;rw[eT h.1,eT h.2];kernel_rfl
theorem uQ{t k:Nat}(h:(Nat.beq t 89&&Nat.beq k 3)=true):dB prog t k=some 4:=by simp only[Bool.and_eq_true] at h;rw[eT h.1,eT h.2];kernel_rfl
theorem uY{t k:Nat}(h:(Nat.beq t 89&&Nat.beq k 4)=true):dB prog t k=some 5:=by simp only[Bool.and_eq_true] at h;rw[eT h.1,eT h.2];kernel_rfl
theorem uN{t k:Nat}(h:(Nat.beq t 89&&Nat.beq k 7)=true):dB prog t k=some 8:=by simp only[Bool.and_eq_true] at h;rw[eT h.1,eT h.2];kernel_rfl
theorem uZ{t k:Nat}(h:(Nat.beq t 89&&Nat.beq k 8)=true):dB prog t k=some 9:=by simp only[Bool.and_eq_true] at h;rw[eT h.1,eT h.2];kernel_rfl
theorem uP{t k:Nat}(h:(Nat.beq t 89&&Nat.beq k 9)=true):dB prog t k=some 10:=by simp only[Bool.and_eq_true] at h;rw[eT h.1,eT h.2];kernel_rfl
theorem tH{t k:Nat}(h:(Nat.beq t 89&&Nat.beq k 10)=true):dB prog t k=some 11:=by simp only[Bool.and_eq_true] at h;rw[eT h.1,eT h.2];kernel_rfl
theorem tX{t k:Nat}(h:(Nat.beq t 89&&Nat.beq k 11)=true):dB prog t k=some 12:=by simp only[Bool.and_eq_true] at h;rw[eT h.1,eT h.2];kernel_rfl
theorem tK{t k:Nat}(h:(Nat.beq t 89&&Nat.beq k 12)=true):dB prog t k=some 13:=by simp only[Bool.and_eq_true] at h;rw[eT h.1,eT h.2];kernel_rfl
theorem Dr{t k:Nat}(h:(Nat.beq t 132&&Nat.beq k 1)=true):dB prog t k=some 4:=by simp only[Bool.and_eq_true] at h;rw[eT h.1,eT h.2];kernel_rfl
theorem Dy{t k:Nat}(h:(Nat.beq t 132&&Nat.beq k 2)=true):dB prog t k=some 5:=by simp only[Bool.and_eq_true] at h;rw[eT h.1,eT h.2];kernel_rfl
theorem D2{t k:Nat}(h:(Nat.beq t 132&&Nat.beq k 3)=true):dB prog t k=some 6:=by simp only[Bool.and_eq_true] at h;rw[eT h.1,eT h.2];kernel_rfl
theorem Dz{t k:Nat}(h:(Nat.beq t 141&&Nat.beq k 2)=true):dB prog t k=some 15:=by simp only[Bool.and_eq_true] at h;rw[eT h.1,eT h.2];kernel_rfl
theorem Du{t k:Nat}(h:(Nat.beq t 141&&Nat.beq k 3)=true):dB prog t k=some 16:=by simp only[Bool.and_eq_true] at h;rw[eT h.1,eT h.2];kernel_rfl
theorem vB{t k:Nat}(h:(Nat.beq t 153&&Nat.beq k 2)=true):dB prog t k=some 26:=by simp only[Bool.and_eq_true] at h;rw[eT h.1,eT h.2];kernel_rfl
theorem uO{t k:Nat}(h:(Nat.beq t 153&&Nat.beq k 3)=true):dB prog t k=some 27:=by simp only[Bool.and_eq_true] at h;rw[eT h.1,eT h.2];kernel_rfl
theorem uR{t k:Nat}(h:(Nat.beq t 153&&Nat.beq k 4)=true):dB prog t k=some 28:=by simp only[Bool.and_eq_true] at h;rw[eT h.1,eT h.2];kernel_rfl
theorem uS{t k:Nat}(h:(Nat.beq t 153&&Nat.beq k 5)=true):dB prog t k=some 29:=by simp only[Bool.and_eq_true] at h;rw[eT h.1,eT h.2];kernel_rfl
theorem vE{t k:Nat}(h:(Nat.beq t 153&&Nat.beq k 6)=true):dB prog t k=some 30:=by simp only[Bool.and_eq_true] at h;rw[eT h.1,eT h.2];kernel_rfl
theorem uT{t k:Nat}(h:(Nat.beq t 153&&Nat.beq k 7)=true):dB prog t k=some 31:=by simp only[Bool.and_eq_true] at h;rw[eT h.1,eT h.2];kernel_rfl
theorem uX{t k:Nat}(h:(Nat.beq t 153&&Nat.beq k 8)=true):dB prog t k=some 32:=by simp only[Bool.and_eq_true] at h;rw[eT h.1,eT h.2];kernel_rfl
theorem vA{t k:Nat}(h:(Nat.beq t 153&&Nat.beq k 9)=true):dB prog t k=some 33:=by simp only[Bool.and_eq_true] at h;rw[eT h.1,eT h.2];kernel_rfl
theorem tY{t k:Nat}(h:(Nat.beq t 153&&Nat.beq k 10)=true):dB prog t k=some 34:=by simp only[Bool.and_eq_true] at h;rw[eT h.1,eT h.2];kernel_rfl
theorem tG{t k:Nat}(h:(Nat.beq t 153&&Nat.beq k 11)=true):dB prog t k=some 35:=by simp only[Bool.and_eq_true] at h;rw[eT h.1,eT h.2];kernel_rfl
theorem tU{t k:Nat}(h:(Nat.beq t 153&&Nat.beq k 12)=true):dB prog t k=some 36:=by simp only[Bool.and_eq_true] at h;rw[eT h.1,eT h.2];kernel_rfl
theorem tV{t k:Nat}(h:(Nat.beq t 153&&Nat.beq k 13)=true):dB prog t k=some 40:=by simp only[Bool.and_eq_true] at h;rw[eT h.1,eT h.2];kernel_rfl
theorem sW{t k:Nat}(h:(Nat.beq t 153&&Nat.beq k 14)=true):dB prog t k=some 41:=by simp only[Bool.and_eq_true] at h;rw[eT h.1,eT h.2];kernel_rfl
def aBh:List Nat:=[15,16,17,23,25,30,42,56,74,156,259]
theorem yg:(aBh.all λ t=>Jx prog t)=true:=by kernel_rfl
theorem S6{t:Nat}(h:aBh.elem t=true):Jx prog t=true:=List.all_eq_true.1 yg t (List.mem_of_elem_eq_true h)
def Zj:List (Nat×Nat):=[(22,3),(32,29),(33,74),(44,37),(45,164),(50,47),(85,230),(95,4),(102,9),(108,76),(115,39),(151,27),(169,31)]
def ux(t:Nat):Nat:=(Zj.lookup t).getD 0
theorem aAJ:(Zj.all λ p=>(match prog.underlying p.1 with|some (.slice e)=>Nat.beq e p.2&&Nat.beq (ux p.1) p.2|_=>false))=true:=by kernel_rfl
theorem aA6{t:Nat}(h:(Zj.any λ p=>Nat.beq p.1 t)=true):prog.underlying t=some (.slice (ux t)):=by
 obtain⟨p,hp,ht⟩:=List.any_eq_true.1 h
 have h2:=List.all_eq_true.1 aAJ p hp
 rw[<- eT ht]
 cases hu:prog.underlying p.1 with
 | none=>rw[hu] at h2;simp at h2
 | some d =>
  rw[hu] at h2
  cases d<;>simp only[Bool.false_eq_true] at h2
  simp only[Bool.and_eq_true] at h2
  rw[eT h2.1,eT h2.2]
def aBZ:List (Nat×Nat):=[(3,1),(4,1),(9,1),(27,1),(29,2),(31,1),(37,1),(39,5),(47,14),(74,1),(76,2),(164,2),(230,2)]
theorem aAg:(aBZ.all λ p=>(prog.info? p.1).map (·.size)==some p.2)=true:=by kernel_rfl
theorem uJ{e s:Nat}(h:(aBZ.any λ p=>Nat.beq p.1 e&&Nat.beq p.2 s)=true):(prog.info? e).map (·.size)=some s:=by
 obtain⟨p,hp,ht⟩:=List.any_eq_true.1 h
 simp only[Bool.and_eq_true] at ht
 have h2:=List.all_eq_true.1 aAg p hp
 rw[<- eT ht.1,<- eT ht.2]
 exact eq_of_beq h2
theorem yu{t:Nat}(h:Nat.beq t 9=true):prog.underlying t=some .string:=by
 rw[eT h];kernel_rfl
theorem ug{t:Nat}(h:Nat.beq t 164=true):Mq prog t=true:=by
 rw[eT h];kernel_rfl
def aAG:List (Nat×IntKind):=[(2,.i64),(3,.i64),(5,.u8),(12,.u64),(21,.i32),(27,.i64),(31,.u64),(37,.i64),(62,.i64),(209,.u64),(255,.u32)]
theorem aAp:(aAG.all λ p=>yJ prog p.1 p.2)=true:=by kernel_rfl
theorem vT{t:Nat}{k:IntKind}(h:(aAG.any λ p=>Nat.beq p.1 t&&p.2==k)=true):yJ prog t k=true:=by
 obtain⟨p,hp,ht⟩:=List.any_eq_true.1 h
 simp only[Bool.and_eq_true] at ht
 have h2:=List.all_eq_true.1 aAp p hp
 rw[eT ht.1,eq_of_beq ht.2] at h2
 exact h2
def we(P:Program)(t e s:Nat):Bool :=
 (match P.underlying t with|some (.slice e')=>Nat.beq e' e|_=>false)&&(match P.info? e with
  | some i=>Nat.beq i.size s&&Nat.ble i.bytes 256
  | none=>false)
theorem lZ{P:Program}{t e:Nat}{z:Value}{zc:List Value}(h:we P t e zc.length=true)(hz:dD P e=some z)(hzc:z.cells=⟨zc⟩):dS P t e zc:=by
 unfold we at h
 simp only[Bool.and_eq_true] at h
 refine⟨?_,?_⟩
 ·cases hu:P.underlying t with
  | none=>simp[hu] at h
  | some d =>
   rw[hu] at h
   cases d<;>simp only[Bool.false_eq_true,false_and] at h
   rw[eT h.1]
 ·cases hi:P.info? e with
  | none=>simp[hi] at h
  | some i =>
   rw[hi] at h
   simp only[Bool.and_eq_true] at h
   exact⟨i,z,rfl,by simpa[dD,hi] using hz,hzc,eT h.2.1,Nat.le_of_ble_eq_true h.2.2⟩
theorem Xi:dD prog 3=some (.int .i64 0):=by kernel_rfl
theorem Ft:dS prog 22 3 [.int .i64 0]:=lZ (by kernel_rfl) Xi rfl
theorem Jk{t:Nat}(h:Nat.beq t 22=true):dS prog t 3 [.int .i64 0]:=by rw[eT h];exact Ft
theorem W2:dD prog 37=some (.int .i64 0):=by kernel_rfl
theorem nY:dS prog 44 37 [.int .i64 0]:=lZ (by kernel_rfl) W2 rfl
theorem Jo{t:Nat}(h:Nat.beq t 44=true):dS prog t 37 [.int .i64 0]:=by rw[eT h];exact nY
theorem Q4:dD prog 164=some (.agg ⟨[.string ⟨#[]⟩,.int .u64 0]⟩):=by kernel_rfl
theorem Wt:dS prog 45 164 [.string ⟨#[]⟩,.int .u64 0]:=lZ (by kernel_rfl) Q4 rfl
theorem pX{t:Nat}(h:Nat.beq t 45=true):dS prog t 164 [.string ⟨#[]⟩,.int .u64 0]:=by rw[eT h];exact Wt
def wj:List Value:=[.int .i64 0,.int .i64 0,.int .i64 0,.int .u64 0,.slice none 0 0,.int .u64 0,.string ⟨#[]⟩,.int .u64 0,.slice none 0 0,.int .i64 0,.int .i64 0,.int .i64 0,.int .i64 0,.int .i64 0]
theorem Rz:dD prog 47=some (.agg ⟨[.int .i64 0,.int .i64 0,.int .i64 0,.int .u64 0,.slice none 0 0,.int .u64 0,.string ⟨#[]⟩,.int .u64 0,.slice none 0 0,.int .i64 0,.int .i64 0,.int .i64 0,.int .i64 0,.int .i64 0]⟩):=by kernel_rfl
theorem sC:dS prog 50 47 wj:=lZ (by kernel_rfl) Rz rfl
theorem Fj{t:Nat}(h:Nat.beq t 50=true):dS prog t 47 wj:=by rw[eT h];exact sC
theorem Tm:dD prog 4=some (.bool false):=by kernel_rfl
theorem Xf:dS prog 95 4 [.bool false]:=lZ (by kernel_rfl) Tm rfl
theorem Gv{t:Nat}(h:Nat.beq t 95=true):dS prog t 4 [.bool false]:=by rw[eT h];exact Xf
theorem Yg:dD prog 9=some (.string ⟨#[]⟩):=by kernel_rfl
theorem jk:dS prog 102 9 [.string ⟨#[]⟩]:=lZ (by kernel_rfl) Yg rfl
theorem Yn{t:Nat}(h:Nat.beq t 102=true):dS prog t 9 [.string ⟨#[]⟩]:=by rw[eT h];exact jk
end
end Go.Proofs.YtbajmaoegmbfgaaGreat

/- Merged. -/
import Derived.Test.YtdnklbipddigbaaGreatGLst
import Derived.Test.YtdnklbipddigbaaGreatGMem
import Derived.Lib.SliceRun
import Derived.Laws.Pointers
set_option linter.unusedSimpArgs false
set_option linter.unusedVariables false
namespace Go.Ct
open Go Go.RowKit
section
section
variable{P:Program}{n:Nat}{S:List (Nat×Value)}
variable{w0 w w':World}{M:List Nat}{H H':List (Nat×Obj)}{A F F':Fr}{O O':List Ow}{G:World->Prop}
variable{d:Nat}{ty:TypeId}{pos:String}{af:Array Edge}{gd:Option (Nat×Bool)}{dst:Option Nat}{x y z:Operand}{t t2 e:TypeId}{p a:Option Addr}{i m k c c2:Nat}
def strsC(l:List ByteArray):List Value:=l.map Value.string
theorem o_indexS{lst:List ByteArray}{kk:IntKind}(hx:ev S x=.slice a m c)(hy:ev S y=.int kk ((k:Nat):Int))(ht:P.underlying t=some (.slice e))(hs:one P e=true)(hf:FIn A F O a (strsC lst))(h1:k<m)(h2:k<lst.length) :
  Quiet P S (SF w0 M H A F O) ⟨some d,.indexAddr t x y,ty,pos,af,gd⟩ (.pointer (some ⟨ablk a,aoff a+k,none⟩)):=⟨λ w hw =>
 (o_index1 (G:=SF w0 M H A F O) hx hy ht hs ((hw.cl hf).ptr (by simp only[strsC,List.length_map];omega)) h1).run w hw⟩
theorem o_loadS{lst:List ByteArray}{q:Nat}(hx:ev S x=.pointer (some ⟨ablk a,aoff a+q,none⟩))(ht:one P t=true)(hf:FIn A F O a (strsC lst))(hq:q<lst.length) :
  Quiet P S (SF w0 M H A F O) ⟨some d,.load t x,ty,pos,af,gd⟩ (.string (lst.getD q ⟨#[]⟩)):=o_loadW hx ht (λ w hw=>hw.cl hf) (by simp[strsC,hq,List.getD])
def ndsC(l:List Nd):List Value:=l.flatMap Nd.cells
theorem ndsC_length:∀l:List Nd,(ndsC l).length=14*l.length
 | []=>rfl
 | _::r=>by have:=ndsC_length r;simp only[ndsC,List.flatMap_cons,List.length_append,List.length_cons] at this ⊢;rw[this];simp only[Nd.cells,List.length_cons,List.length_nil];omega
theorem ndsC_at:∀{l:List Nd} {k j:Nat},k<l.length->j<14->(ndsC l)[14*k+j]?=(l.getD k Nd.zero).cells[j]?
 | [],_,_,h,_=>by simp at h
 | n::r,0,j,_,hj=>by
  simp only[ndsC,List.flatMap_cons,Nat.mul_zero,Nat.zero_add,List.getD_cons_zero]
  rw[List.getElem?_append_left (by simp only[Nd.cells,List.length_cons,List.length_nil];omega)]
 | n::r,k+1,j,h,hj=>by
  have:=ndsC_at (l:=r) (k:=k) (j:=j) (by simpa using h) hj
  simp only[ndsC,List.flatMap_cons,List.getD_cons_succ] at this ⊢
  rw[List.getElem?_append_right (by simp only[Nd.cells,List.length_cons,List.length_nil];omega),<- this]
  congr 1
  simp only[Nd.cells,List.length_cons,List.length_nil]
  omega
theorem run_indexN{m c:Nat}{i:Int}{kk:IntKind}(hx:ev S x=.slice a m c)(hy:ev S y=.int kk ((k:Nat):Int))(ht:P.underlying t=some (.slice e))(hs:aggOf P e 14=true)(ha:a=some ⟨ablk a,aoff a,none⟩)(h1:k<m) :
  Quiet P S G ⟨some d,.indexAddr t x y,ty,pos,af,gd⟩ (.pointer (some ⟨ablk a,aoff a+14*k,none⟩)):=⟨λ w _=>by obtain⟨_,_,_,hsz⟩:=agg_parts hs;have:=run_index (P:=P) (a:=a) (m:=m) (c:=c) (k:=kk) ht hsz ha (i:=(k:Int)) (by omega) (by omega) w;simp only[Int.toNat_natCast,Nat.mul_comm k 14] at this;simp[execOp,hx,hy,this]⟩
theorem o_indexN{lst:List Nd}{kk:IntKind}(hx:ev S x=.slice a m c)(hy:ev S y=.int kk ((k:Nat):Int))(ht:P.underlying t=some (.slice e))(hs:aggOf P e 14=true)(hf:FIn A F O a (ndsC lst))(h1:k<m)(h2:k<lst.length) :
  Quiet P S (SF w0 M H A F O) ⟨some d,.indexAddr t x y,ty,pos,af,gd⟩ (.pointer (some ⟨ablk a,aoff a+14*k,none⟩)):=⟨λ w hw =>
 (run_indexN (i:=0) (G:=SF w0 M H A F O) hx hy ht hs ((hw.cl hf).ptr (by rw[ndsC_length];omega)) h1).run w hw⟩
theorem o_loadN{lst:List Nd}{q:Nat}(hx:ev S x=.pointer (some ⟨ablk a,aoff a+14*q,none⟩))(ht:aggOf P t 14=true)(hf:FIn A F O a (ndsC lst))(hq:q<lst.length) :
  Quiet P S (SF w0 M H A F O) ⟨some d,.load t x,ty,pos,af,gd⟩ (lst.getD q Nd.zero).v:=⟨λ w hw=>by
 have hcl:=hw.cl hf;obtain⟨dd,hu,hm,hi⟩:=agg_parts ht;have hagg:(isAgg t).run P w=.ok true w:=by unfold isAgg;rw[Sem.run_bind,run_underlying hu w];cases dd<;>simp_all
 have hl:(loadCells ⟨ablk a,aoff a+14*q,none⟩ 14).run P w=.ok ⟨(lst.getD q Nd.zero).cells⟩ w:=by
  have:=run_loadCells_list (P:=P) w ⟨ablk a,aoff a+14*q,none⟩ (lst.getD q Nd.zero).cells (λ j z hz=>by have hj:j<14:=(List.getElem?_eq_some_iff.1 hz).1;rw[Addr.add_lit];have h3:=(hcl.at_ (14*q+j) z (by rw[ndsC_at hq hj];exact hz)).2;rwa [<- Nat.add_assoc] at h3)
  exact this
 cases hq':P.info? t with
 | none=>rw[hq'] at hi;simp at hi
 | some i=>
  have hs:i.size=14:=by rw[hq'] at hi;simpa using hi
  simp[execOp,hx,Instr.loadAt,Instr.sureAddr,loadVar,hagg,Go.sizeOf,typeInfo,hq',hs,hl,Nd.v]⟩
def modv(v n:Int):Int:=IntKind.i64.wrap ((IntKind.u64.wrap v).tmod (IntKind.u64.wrap n))
def tvN(l:List Int)(k:Nat)(n:Int):Nat:=if k<l.length then(modv (l.getD k 0) n).toNat else 0
def tiN(l:List Int)(k:Nat):Nat:=if k<l.length then k+1 else k
theorem wrap_u64(i:Int):IntKind.u64.wrap i=i%18446744073709551616:=by simp[IntKind.wrap,IntKind.signed,IntKind.bits]
theorem modv_bound{v n:Int}(h0:0<n)(h1:n<=9223372036854775807):0<=modv v n/\modv v n<n:=by unfold modv;rw[wrap_u64,wrap_u64,Int.emod_eq_of_lt (a:=n) (by omega) (by omega)];have h2:=Int.emod_nonneg v (show(18446744073709551616:Int)≠0 by decide);have h3:=Int.tmod_lt_of_pos (v%18446744073709551616) h0;have h4:=Int.tmod_nonneg n h2;rw[wrap_i64 (by omega) (by omega)];exact⟨h4,h3⟩
def tapeO(T:TypeId)(a:Option Addr)(l:List Int)(c k:Nat):Obj:=.cells ⟨[.slice a l.length c,.int .i64 ((k:Nat):Int)]⟩ T (0,0)
structure TapeAt(w:World)(T:TypeId)(b:Nat)(a:Option Addr)(l:List Int)(c k:Nat):Prop where
 obj:w.heap[b]?=some (tapeO T a l c k)
 cl:Cl w a (refsC l)
 ne:refsC l≠[]->ablk a≠b
 len:l.length<=17592186043904
theorem SF.tape(h:SF w0 M H A F O w){T b l}(ha:At H i b (tapeO T a l c k))(hf:FIn A F [] a (refsC l))(hl:l.length<=17592186043904):TapeAt w T b a l c k:=by
 refine⟨h.st.at ha,?_,λ hc e=>h.apart hf hc (e▸List.mem_append_left _ (List.mem_map.2 ⟨_,ha.mem,rfl⟩)),hl⟩;cases hf with
 | old h1=>exact h.cl (.old h1)
 | new h1=>exact h.cl (.new h1)
 | own h1=>cases h1
 | hdr h1 _=>cases h1
theorem TapeAt.start{T b l}(h:TapeAt w T b a l c k):SF w [b] [(b,.cells ⟨[.slice a l.length c,.int .i64 ((k:Nat):Int)]⟩ T (0,0))] [(a,refsC l)] [] [] w:=by
 refine⟨⟨rfl,rfl,rfl,Nat.le_refl _,λ _ _ _=>rfl,λ p hp=>?_,λ p hp=>?_,by simp⟩,λ f hf=>?_,λ _ h=>(List.not_mem_nil h).elim,λ _ h=>(List.not_mem_nil h).elim,by simp[Ks]⟩;·simp only[List.mem_singleton] at hp;subst hp;exact h.obj
 ·simp only[List.mem_singleton] at hp;subst hp;exact .inl (by simp)
 ·simp only[List.mem_singleton] at hf;subst hf;exact⟨h.cl,λ hc=>by simp only[Ks,List.map_cons,List.map_nil,List.flatMap_nil,List.append_nil,List.mem_singleton];exact h.ne hc⟩
end
end
section
section
variable{w0 w w':World}{M:List Nat}{H:List (Nat×Obj)}{A F:Fr}{O:List Ow}
structure NdV where
 nd:Nd
 xs:List Int
 ys:List Pr
structure Nv where
 kind:Int
 gen:Int
 main:Int
 bm:Int
 xs:List Int
 hash:Int
 key:ByteArray
 val:Int
 ys:List Pr
 prev:Int
 old:Int
 exp:Int
 new:Int
 status:Int
def Nd.c(n:Nd)(xs:List Int)(ys:List Pr):Nv:=⟨n.kind,n.gen,n.main,n.bm,xs,n.hash,n.key,n.val,ys,n.prev,n.old,n.exp,n.new,n.status⟩
def NdV.c(v:NdV):Nv:=v.nd.c v.xs v.ys
theorem ndEq_iff{a b:Nd}{x1 x2:List Int}{y1 y2:List Pr}:NdEq a b x1 x2 y1 y2↔a.c x1 y1=b.c x2 y2:=by simp[NdEq,Nd.c]
def NdV.fr(v:NdV):Fr:=[(v.nd.brA,refsC v.xs),(v.nd.prA,prC v.ys)]
def NdV.zero:NdV:=⟨Nd.zero,[],[]⟩
def famF(L:List NdV):Fr:=L.flatMap NdV.fr
def nvC(L:List NdV):List Value:=L.flatMap (·.nd.cells)
theorem nvC_nds(L:List NdV):nvC L=ndsC (L.map (·.nd)):=by simp[nvC,ndsC,List.flatMap_map]
theorem getD_nd{L:List NdV}{k:Nat}:(L.map (·.nd)).getD k Nd.zero=(L.getD k NdV.zero).nd:=by rw[gdg,gdg,List.getElem?_map];cases L[k]?<;>rfl
theorem cells_length(n:Nd):n.cells.length=14:=rfl
theorem nvC_append(a b:List NdV):nvC (a++b)=nvC a++nvC b:=by simp[nvC]
theorem nvC_one(v:NdV):nvC [v]=v.nd.cells:=by simp[nvC]
theorem nvC_push(a:List NdV)(v:NdV):nvC (a++[v])=nvC a++v.nd.cells:=by rw[nvC_append,nvC_one]
theorem famF_append(a b:List NdV):famF (a++b)=famF a++famF b:=by simp[famF]
theorem nvC_length:∀L:List NdV,(nvC L).length=L.length*14
 | []=>rfl
 | v::L=>by have:=nvC_length L;simp only[nvC,List.flatMap_cons,List.length_append,cells_length,List.length_cons] at this ⊢;omega
theorem nvC_at:∀{L:List NdV} {k j:Nat} {v:Value},k<L.length->(L.getD k NdV.zero).nd.cells[j]?=some v->(nvC L)[14*k+j]?=some v
 | v::L,0,j,u,_,hj=>by
  have hlt:j<14:=by
   have:=(List.getElem?_eq_some_iff.1 hj).1
   simpa[cells_length] using this
  simp only[nvC,List.flatMap_cons,Nat.mul_zero,Nat.zero_add]
  rw[List.getElem?_append_left (by rw[cells_length];exact hlt)]
  simpa using hj
 | v::L,k+1,j,u,hk,hj=>by
  simp only[nvC,List.flatMap_cons]
  rw[List.getElem?_append_right (by rw[cells_length];omega),cells_length,show 14*(k+1)+j-14=14*k+j by omega]
  exact nvC_at (L:=L) (by simpa using hk) (by simpa using hj)
theorem oneCells_nd(n:Nd):n.cells.all (·.oneCell')=true:=rfl
theorem oneCells_nvC:∀L:List NdV,(nvC L).all (·.oneCell')=true
 | []=>rfl
 | v::L=>by have:=oneCells_nvC L;simp only[nvC,List.flatMap_cons,List.all_append,Bool.and_eq_true] at this ⊢;exact⟨oneCells_nd _,this⟩
theorem mem_famF{L:List NdV}{f:Option Addr×List Value}:f∈famF L↔∃v∈L,f∈v.fr:=by simp[famF]
theorem getD_mem{L:List NdV}{k:Nat}(hk:k<L.length):L.getD k NdV.zero∈L:=by rw[gdg,List.getElem?_eq_getElem hk];exact List.getElem_mem hk
theorem famF_br{L:List NdV}{k:Nat}(hk:k<L.length):((L.getD k NdV.zero).nd.brA,refsC (L.getD k NdV.zero).xs)∈famF L:=mem_famF.2 ⟨_,getD_mem hk,by simp[NdV.fr]⟩
theorem famF_pr{L:List NdV}{k:Nat}(hk:k<L.length):((L.getD k NdV.zero).nd.prA,prC (L.getD k NdV.zero).ys)∈famF L:=mem_famF.2 ⟨_,getD_mem hk,by simp[NdV.fr]⟩
structure NdV.Fit(v:NdV):Prop where
 brN:v.nd.brN=v.xs.length
 prN:v.nd.prN=v.ys.length
 brS:v.xs.length<=35184372088832
 prS:v.ys.length<=11728124029610
theorem NdV.Fit.rep{v:NdV}(h:v.Fit){w:World}(hb:Cl w v.nd.brA (refsC v.xs))(hp:Cl w v.nd.prA (prC v.ys)):Rep w v.nd v.xs v.ys :=⟨h.brN,h.prN,hb,hp,by have:=h.brS;omega,by have:=h.prS;omega⟩
def Fits(L:List NdV):Prop:=∀v∈L,v.Fit
theorem Fits.at{L:List NdV}(h:Fits L){k:Nat}(hk:k<L.length):(L.getD k NdV.zero).Fit:=h _ (getD_mem hk)
theorem fit_zero:NdV.zero.Fit:=⟨rfl,rfl,by decide,by decide⟩
structure StAt(w:World)(L:List NdV)(cs:List Int)(pn pc:Option Addr):Prop where
 nds:Cl w pn (nvC L)
 cls:Cl w pc (refsC cs)
 fam:∀f∈famF L,Cl w f.1 f.2
 fit:Fits L
theorem StAt.start{w:World}{L:List NdV}{cs:List Int}{pn pc:Option Addr}(h:StAt w L cs pn pc):SF w [] [] ((pn,nvC L)::(pc,refsC cs)::famF L) [] [] w:=SF.begin λ f hf=>by
 rcases List.mem_cons.1 hf with rfl|hf;·exact h.nds
 rcases List.mem_cons.1 hf with rfl|hf;·exact h.cls
 ·exact h.fam f hf
theorem SF.repA{L:List NdV}{f1 f2:Option Addr×List Value}(h:SF w0 M H (f1::f2::famF L) F O w)(hfit:Fits L){k:Nat}(hk:k<L.length):Rep w (L.getD k NdV.zero).nd (L.getD k NdV.zero).xs (L.getD k NdV.zero).ys :=(hfit.at hk).rep (h.old _ (List.mem_cons_of_mem _ (List.mem_cons_of_mem _ (famF_br hk)))).1 (h.old _ (List.mem_cons_of_mem _ (List.mem_cons_of_mem _ (famF_pr hk)))).1
theorem SF.repF{L:List NdV}(h:SF w0 M H A F O w)(hF:∀f∈famF L,f.2=[]∨f∈A∨f∈F)(hfit:Fits L){v:NdV}(hv:v∈L):Rep w v.nd v.xs v.ys:=by
 have key:∀f∈famF L,Cl w f.1 f.2:=λ f hf=>by
  rcases hF f hf with h0|h1|h1
  ·rw[h0];exact Cl.nil _ _
  ·exact(h.old f h1).1
  ·exact(h.new f h1).1
 exact(hfit v hv).rep (key (v.nd.brA,refsC v.xs) (mem_famF.2 ⟨v,hv,by simp[NdV.fr]⟩)) (key (v.nd.prA,prC v.ys) (mem_famF.2 ⟨v,hv,by simp[NdV.fr]⟩))
variable{P:Program}{S:List (Nat×Value)}{G:World->Prop}{d:Nat}{ty:TypeId}{pos:String}{af:Array Edge}{gd:Option (Nat×Bool)}{x y:Operand}{t t2 e:TypeId}{p a:Option Addr}{i m k c c2:Nat}
theorem o_indexV{L:List NdV}{kk:IntKind}(hx:ev S x=.slice a m c)(hy:ev S y=.int kk ((k:Nat):Int))(ht:P.underlying t=some (.slice e))(hs:aggOf P e 14=true)(hf:FIn A F O a (nvC L))(h1:k<m)(h2:k<L.length) :
  Quiet P S (SF w0 M H A F O) ⟨some d,.indexAddr t x y,ty,pos,af,gd⟩ (.pointer (some ⟨ablk a,aoff a+14*k,none⟩)):=o_indexN (lst:=L.map (·.nd)) hx hy ht hs (by rw[<- nvC_nds];exact hf) h1 (by simpa using h2)
theorem o_loadV{L:List NdV}{q:Nat}(hx:ev S x=.pointer (some ⟨ablk a,aoff a+14*q,none⟩))(ht:aggOf P t 14=true)(hf:FIn A F O a (nvC L))(hq:q<L.length) :
  Quiet P S (SF w0 M H A F O) ⟨some d,.load t x,ty,pos,af,gd⟩ (L.getD q NdV.zero).nd.v:=by have:=o_loadN (P:=P) (S:=S) (w0:=w0) (M:=M) (H:=H) (A:=A) (F:=F) (O:=O) (d:=d) (ty:=ty) (pos:=pos) (af:=af) (gd:=gd) (lst:=L.map (·.nd)) hx ht (by rw[<- nvC_nds];exact hf) (by simpa using hq);rwa [getD_nd] at this
theorem o_loadV0{L:List NdV}{q:Nat}(hx:ev S x=.pointer (some ⟨ablk a,aoff a+14*q,none⟩))(ht:one P t=true)(hf:FIn A F O a (nvC L))(hq:q<L.length) :
  Quiet P S (SF w0 M H A F O) ⟨some d,.load t x,ty,pos,af,gd⟩ (.int .i64 (L.getD q NdV.zero).nd.kind):=o_loadW (q:=14*q) hx ht (λ w hw=>hw.cl hf) (nvC_at (j:=0) hq rfl)
theorem o_appV1{L:List NdV}{zc:List Value}(v:NdV)(hx:ev S x=.slice p m c)(hy:ev S y=.slice a 1 c2)(ho:OAt O i p (nvC L) c e 14)(hm:L.length=m)(hf:FIn A F O a v.nd.cells)
  (he:ElemIs P t e zc) (hz:zc.length=14) (ht2:P.underlying t2=some (.slice e)) (hb:m+1<=549755813888) :
  Loud P S (SF w0 M H A F O) ⟨some d,.call {callee:=.builtin .append,args := #[x,y],argTypes := #[t,t2]},ty,pos,af,gd⟩ (Option Addr×Nat) (λ q=>.slice q.1 (m+1) q.2)
   (λ q w=>m+1<=q.2/\SF w0 M H A F (setO O i ⟨q.1,nvC (L++[v]),q.2,e,14⟩) w):=by rw[nvC_push];exact o_append hx hy ho (by rw[nvC_length,hm]) hf (by simp[Nd.cells]) (oneCells_nd _) he hz (by decide) ht2 hb
theorem o_appV{L L2:List NdV}{zc:List Value}(hx:ev S x=.slice p m c)(hy:ev S y=.slice a k c2)(ho:OAt O i p (nvC L) c e 14)(hm:L.length=m)(hf:FIn A F O a (nvC L2))(hk:L2.length=k)
  (he:ElemIs P t e zc) (hz:zc.length=14) (ht2:P.underlying t2=some (.slice e)) (hb:m+k<=549755813888) :
  Loud P S (SF w0 M H A F O) ⟨some d,.call {callee:=.builtin .append,args := #[x,y],argTypes := #[t,t2]},ty,pos,af,gd⟩ (Option Addr×Nat) (λ q=>.slice q.1 (m+k) q.2)
   (λ q w=>m+k<=q.2/\SF w0 M H A F (setO O i ⟨q.1,nvC (L++L2),q.2,e,14⟩) w):=by rw[nvC_append];exact o_append hx hy ho (by rw[nvC_length,hm]) hf (by rw[nvC_length,hk]) (oneCells_nvC _) he hz (by decide) ht2 hb
theorem o_makeV{k:Nat}{k1 k2:IntKind}{zc:List Value}(hx:ev S x=.int k1 0)(hy:ev S y=.int k2 ((k:Nat):Int))(he:ElemIs P t e zc)(hz:zc.length=14)(hk:k<=1099511627776) :
  Loud P S (SF w0 M H A F O) ⟨some d,.makeSlice t x y,ty,pos,af,gd⟩ Nat (λ b=>.slice (some ⟨b,0,none⟩) 0 k) (λ b=>SF w0 M H A F (⟨some ⟨b,0,none⟩,nvC [],k,e,14⟩::O)):=by have:=o_makeO (P:=P) (S:=S) (w0:=w0) (M:=M) (H:=H) (A:=A) (F:=F) (O:=O) (d:=d) (ty:=ty) (pos:=pos) (af:=af) (gd:=gd) (m:=0) (k:=k) (k1:=k1) (k2:=k2) (x:=x) (y:=y) (cs:=nvC []) (by simpa using hx) hy he (Nat.zero_le _) hk (List.eq_nil_of_length_eq_zero (by rw[made_length];simp));rwa [hz] at this
section
variable{m n:Nat}{t':TypeId}
theorem o_addN(hx:ev S x=.int .i64 ((m:Nat):Int))(hy:ev S y=.int .i64 ((n:Nat):Int))(h:m+n<=9223372036854775807) :
  Quiet P S G ⟨some d,.binOp .add t x y t',ty,pos,af,gd⟩ (.int .i64 ((m+n:Nat):Int)):=by have:=o_add (P:=P) (G:=G) (d:=d) (ty:=ty) (pos:=pos) (af:=af) (gd:=gd) (t:=t) (t':=t') hx hy;rw[wrap_i64 (by omega) (by omega)] at this;rw[Int.natCast_add];exact this
theorem o_subN(hx:ev S x=.int .i64 ((m:Nat):Int))(hy:ev S y=.int .i64 ((n:Nat):Int))(h:n<=m)(h2:m<=9223372036854775807) :
  Quiet P S G ⟨some d,.binOp .sub t x y t',ty,pos,af,gd⟩ (.int .i64 ((m-n:Nat):Int)):=by have:=o_sub (P:=P) (G:=G) (d:=d) (ty:=ty) (pos:=pos) (af:=af) (gd:=gd) (t:=t) (t':=t') hx hy;rw[wrap_i64 (by omega) (by omega)] at this;rw[Int.natCast_sub h];exact this
end
theorem o_extract{P:Program}{S:List (Nat×Value)}{G:World->Prop}{d:Nat}{ty:TypeId}{pos:String}{af:Array Edge}{gd:Option (Nat×Bool)}{x:Operand}{vs:List Value}{k:Nat}{v:Value}(hx:ev S x=.tuple ⟨vs⟩)(hk:vs[k]?=some v):Quiet P S G ⟨some d,.extract x k,ty,pos,af,gd⟩ v:=⟨λ w _=>by simp[execOp,hx,Instr.extract,hk]⟩
theorem o_decT{a:Int}(hx:ev S x=.int .i64 a)(hy:ev S y=.int .i64 1)(h:1<=a)(h2:a<=9223372036854775807):Quiet P S G ⟨some d,.binOp .sub t x y t2,ty,pos,af,gd⟩ (.int .i64 (((a-1).toNat:Nat):Int)):=by have:=o_subR (P:=P) (G:=G) (d:=d) (ty:=ty) (pos:=pos) (af:=af) (gd:=gd) (t:=t) (t':=t2) hx hy (by omega);rwa [show a-1=(((a-1).toNat:Nat):Int) by omega] at this
theorem drop_nvC:∀(L:List NdV) (k:Nat),(nvC L).drop (k*14)=nvC (L.drop k)
 | [],k=>by simp[nvC]
 | v::L,0=>by simp
 | v::L,k+1=>by have:=drop_nvC L k;rw[List.drop_succ_cons,<- this];show(v.nd.cells++nvC L).drop ((k+1)*14)=_;rw[List.drop_append,List.drop_eq_nil_of_le (by rw[cells_length];omega),cells_length,List.nil_append];congr 1;omega
theorem o_tailV{L:List NdV}(hx:ev S x=.slice a m c)(hy:ev S y=.int .i64 ((k:Nat):Int))(ht:P.underlying t=some (.slice e))(hs:(P.info? e).map (·.size)=some 14)(hk:k<=m)(hf:FIn A F [] a (nvC L))(hmc:m<=c)(hl:L.length=m) :
  Loud P S (SF w0 M H A F O) ⟨some d,.slice t x (some y) none none,ty,pos,af,gd⟩ (Option Addr) (λ p=>.slice p (m-k) (c-k)) (λ p=>SF w0 M H ((p,nvC (L.drop k))::A) F O):=by have:=o_tailF (P:=P) (w0:=w0) (M:=M) (H:=H) (O:=O) (d:=d) (ty:=ty) (pos:=pos) (af:=af) (gd:=gd) hx hy ht hs hk hf hmc (by rw[nvC_length,hl]);rw[drop_nvC] at this;exact this
theorem SF.capV(h:SF w0 M H A F O w){L:List NdV}{T:TypeId}(ho:OAt O i p (nvC L) c T 14):L.length<=c:=by
 rcases(h.own _ ho.mem).1 with⟨_,h2,_⟩|⟨b,rest,_,_,h3⟩
 ·have h2':nvC L=[]:=h2;have:(nvC L).length=0:=by rw[h2'];rfl
  rw[nvC_length] at this;omega
 ·have h3':(nvC L++rest).length=c*14:=h3;rw[List.length_append,nvC_length] at h3';omega
theorem o_loadPart{b off:Nat}{cs vs:List Value}{T:TypeId}(hx:ev S x=.pointer (some ⟨b,off,none⟩))(ha:At H i b (.cells ⟨cs⟩ T (0,0)))(ht:aggOf P t k=true)(hv:(cs.drop off).take k=vs)(hl:vs.length=k) :
  Quiet P S (SF w0 M H A F O) ⟨some d,.load t x,ty,pos,af,gd⟩ (.agg ⟨vs⟩):=⟨λ w hw=>by
 have hb:=hw.st.at ha;have hcl:Cl w (some ⟨b,0,none⟩) cs:=Cl.block (pre:=[]) (rest:=[]) (by simpa using hb) rfl;obtain⟨dd,hu,hm,hi⟩:=agg_parts ht;have hagg:(isAgg t).run P w=.ok true w:=by unfold isAgg;rw[Sem.run_bind,run_underlying hu w];cases dd<;>simp_all
 have hlc:(loadCells ⟨b,off,none⟩ k).run P w=.ok ⟨vs⟩ w:=by
  have:=run_loadCells_list (P:=P) w ⟨b,off,none⟩ vs (λ j z hz=>by
   rw[Addr.add_lit];have hj:j<k:=by rw[<- hl];exact(List.getElem?_eq_some_iff.1 hz).1
   have h1:cs[off+j]?=some z:=by rw[<- hv,List.getElem?_take,if_pos hj,List.getElem?_drop] at hz;exact hz
   have h3:=(hcl.at_ (off+j) z h1).2;simpa[ablk,aoff] using h3)
  rwa [hl] at this
 cases hq':P.info? t with
 | none=>rw[hq'] at hi;simp at hi
 | some inf=>
  have hs:inf.size=k:=by rw[hq'] at hi;simpa using hi
  simp[execOp,hx,Instr.loadAt,Instr.sureAddr,loadVar,hagg,Go.sizeOf,typeInfo,hq',hs,hlc]⟩
def fieldOne(P:Program)(t:TypeId)(k:Nat):Option Nat :=
 match P.underlying t with
 | some (.struct fs)=>match fs[k]? with
  | some f=>if one P f.type then some f.offset else none
  | none=>none
 | _=>none
theorem o_field{cs:List Value}{off:Nat}{v:Value}(hx:ev S x=.agg ⟨cs⟩)(hf:fieldOne P t k=some off)(hv:cs[off]?=some v):Quiet P S G ⟨some d,.field t x k,ty,pos,af,gd⟩ v:=⟨λ w _=>by
 unfold fieldOne at hf;cases hu:P.underlying t with
 | none=>simp[hu] at hf
 | some dd=>
  cases dd<;>simp[hu] at hf;rename_i fs;cases hk:fs[k]? with
  | none=>simp[hk] at hf
  | some f=>
   simp only[hk] at hf;split at hf;·rename_i h1;simp only[Option.some.injEq] at hf;subst hf;have hp:=run_part_one (P:=P) h1 (cs:=⟨cs⟩) (off:=f.offset) (v:=v) (by simpa using hv) w;simp[execOp,hx,Instr.field,run_underlying hu,hk,asAgg,hp]
   ·cases hf⟩
def boolsC(l:List Bool):List Value:=l.map .bool
theorem boolsC_length(l:List Bool):(boolsC l).length=l.length:=by simp[boolsC]
theorem boolsC_at{l:List Bool}{k:Nat}(h:k<l.length):(boolsC l)[k]?=some (.bool (l.getD k false)):=by simp[boolsC,h,List.getD]
theorem made_bools(k:Nat):made [.bool false] k=boolsC (List.replicate k false):=by
 refine List.ext_getElem? λ i=>?_;by_cases hi:i<k;·simp[made,madeCells,boolsC,Array.getElem?_toList,Array.getElem?_map,Array.getElem?_range,hi,Nat.mod_one]
 ·rw[List.getElem?_eq_none (by rw[made_length];simp;omega),List.getElem?_eq_none (by simp[boolsC];omega)]
theorem o_makeB{m k:Nat}{k1 k2:IntKind}(hx:ev S x=.int k1 ((m:Nat):Int))(hy:ev S y=.int k2 ((k:Nat):Int))(he:ElemIs P t e [.bool false])(hmk:m<=k)(hk:k<=1099511627776) :
  Loud P S (SF w0 M H A F O) ⟨some d,.makeSlice t x y,ty,pos,af,gd⟩ Nat (λ b=>.slice (some ⟨b,0,none⟩) m k) (λ b=>SF w0 M H A F (⟨some ⟨b,0,none⟩,boolsC (List.replicate m false),k,e,1⟩::O)) :=
 o_makeO hx hy he hmk hk (made_bools m)
theorem o_indexB{lst:List Bool}{kk:IntKind}(hx:ev S x=.slice a m c)(hy:ev S y=.int kk ((k:Nat):Int))(ht:P.underlying t=some (.slice e))(hs:one P e=true)(hf:FIn A F O a (boolsC lst))(h1:k<m)(h2:k<lst.length) :
  Quiet P S (SF w0 M H A F O) ⟨some d,.indexAddr t x y,ty,pos,af,gd⟩ (.pointer (some ⟨ablk a,aoff a+k,none⟩)):=⟨λ w hw =>
 (o_index1 (G:=SF w0 M H A F O) hx hy ht hs ((hw.cl hf).ptr (by rw[boolsC_length];omega)) h1).run w hw⟩
theorem o_loadB{lst:List Bool}{q:Nat}(hx:ev S x=.pointer (some ⟨ablk a,aoff a+q,none⟩))(ht:one P t=true)(hf:FIn A F O a (boolsC lst))(hq:q<lst.length) :
  Quiet P S (SF w0 M H A F O) ⟨some d,.load t x,ty,pos,af,gd⟩ (.bool (lst.getD q false)):=o_loadW hx ht (λ w hw=>hw.cl hf) (boolsC_at hq)
theorem set_boolsC(l:List Bool)(k:Nat)(v:Bool):(boolsC l).set k (.bool v)=boolsC (l.set k v):=by simp[boolsC]
theorem o_storeB{q:Nat}{l:List Bool}{v:Bool}(hx:ev S x=.pointer (some ⟨ablk p,aoff p+q,none⟩))(hy:ev S y=.bool v)(ht:one P t=true)(ho:OAt O i p (boolsC l) c e 1)(hq:q<l.length) :
  Loud P S (SF w0 M H A F O) ⟨none,.store t x y,ty,pos,af,gd⟩ Unit (λ _=>undef) (λ _=>SF w0 M H A F (setO O i ⟨p,boolsC (l.set q v),c,e,1⟩)):=by rw[<- set_boolsC];exact o_storeO hx hy rfl ht ho (by rw[boolsC_length];exact hq)
theorem o_eqlNil(hx:ev S x=.slice a m c)(hy:ev S y=.slice none 0 0)(ht:P.underlying t=some (.slice e)):Quiet P S G ⟨some d,.binOp .eql t x y t2,ty,pos,af,gd⟩ (.bool a.isNone):=⟨λ w _=>by have:=Go.Lib.run_eql_slice_nil (P:=P) w t e a m c 0 0 ht;simp[execOp,hx,hy,this,eqGuard]⟩
end
end
end Go.Ct

/- The engine, part 9: lists of strings and of nodes; tapes. -/
import Derived.Test.YtbajmaoegmbfgaaGreatGLst
import Derived.Test.YtbajmaoegmbfgaaGreatGMem
import Derived.Lib.SliceRun
import Derived.Laws.Pointers

set_option linter.unusedSimpArgs false
set_option linter.unusedVariables false
namespace Go.Ct
section
open Go Go.RowKit
section
variable{P:Program}{n:Nat}{S:List (Nat×Value)}
variable{w0 w w':World}{M:List Nat}{H H':List (Nat×Obj)}{A F F':Fr}{O O':List Ow}{G:World->Prop}
variable{d:Nat}{ty:TypeId}{pos:String}{af:Array Edge}{gd:Option (Nat×Bool)}{dst:Option Nat}{x y z:Operand}{t t2 e:TypeId}{p a:Option Addr}{i m k c c2:Nat}
def Vh(l:List ByteArray):List Value:=l.map Value.string
theorem jo{lst:List ByteArray}{kk:IntKind}(hx:ev S x=.slice a m c)(hy:ev S y=.int kk ((k:Nat):Int))(ht:P.underlying t=some (.slice e))(hs:one P e=true)(hf:qZ A F O a (Vh lst))(h1:k<m)(h2:k<lst.length) :
  aL P S (SF w0 M H A F O) ⟨some d,.indexAddr t x y,ty,pos,af,gd⟩ (.pointer (some ⟨dC a,eH a+k,none⟩)):=⟨λ w hw =>
 (Au (G:=SF w0 M H A F O) hx hy ht hs ((hw.cl hf).ptr (by simp only[Vh,List.length_map];omega)) h1).run w hw⟩
theorem rb{lst:List ByteArray}{q:Nat}(hx:ev S x=.pointer (some ⟨dC a,eH a+q,none⟩))(ht:one P t=true)(hf:qZ A F O a (Vh lst))(hq:q<lst.length) :
  aL P S (SF w0 M H A F O) ⟨some d,.load t x,ty,pos,af,gd⟩ (.string (lst.getD q ⟨#[]⟩)):=qT hx ht (λ w hw=>hw.cl hf) (by simp[Vh,hq,List.getD])
def Mq(l:List Nd):List Value:=l.flatMap Nd.cells
theorem Dn:∀l:List Nd,(Mq l).length=14*l.length
 | []=>rfl
 | _::r=>by
  have:=Dn r
  simp only[Mq,List.flatMap_cons,List.length_append,List.length_cons] at this ⊢
  rw[this]
  simp only[Nd.cells,List.length_cons,List.length_nil]
  omega
theorem Vs:∀{l:List Nd} {k j:Nat},k<l.length->j<14->(Mq l)[14*k+j]?=(l.getD k Nd.zero).cells[j]?
 | [],_,_,h,_=>by simp at h
 | n::r,0,j,_,hj=>by
  simp only[Mq,List.flatMap_cons,Nat.mul_zero,Nat.zero_add,List.getD_cons_zero]
  rw[List.getElem?_append_left (by simp only[Nd.cells,List.length_cons,List.length_nil];omega)]
 | n::r,k+1,j,h,hj=>by
  have:=Vs (l:=r) (k:=k) (j:=j) (by simpa using h) hj
  simp only[Mq,List.flatMap_cons,List.getD_cons_succ] at this ⊢
  rw[List.getElem?_append_right (by simp only[Nd.cells,List.length_cons,List.length_nil];omega),<- this]
  congr 1
  simp only[Nd.cells,List.length_cons,List.length_nil]
  omega
theorem Ss{m c:Nat}{i:Int}{kk:IntKind}(hx:ev S x=.slice a m c)(hy:ev S y=.int kk ((k:Nat):Int))(ht:P.underlying t=some (.slice e))(hs:jQ P e 14=true)(ha:a=some ⟨dC a,eH a,none⟩)(h1:k<m) :
  aL P S G ⟨some d,.indexAddr t x y,ty,pos,af,gd⟩ (.pointer (some ⟨dC a,eH a+14*k,none⟩)):=⟨λ w _=>by
 obtain⟨_,_,_,hsz⟩:=iG hs
 have:=Cx (P:=P) (a:=a) (m:=m) (c:=c) (k:=kk) ht hsz ha (i:=(k:Int)) (by omega) (by omega) w
 simp only[Int.toNat_natCast,Nat.mul_comm k 14] at this
 simp[execOp,hx,hy,this]⟩
theorem nf{lst:List Nd}{kk:IntKind}(hx:ev S x=.slice a m c)(hy:ev S y=.int kk ((k:Nat):Int))(ht:P.underlying t=some (.slice e))(hs:jQ P e 14=true)(hf:qZ A F O a (Mq lst))(h1:k<m)(h2:k<lst.length) :
  aL P S (SF w0 M H A F O) ⟨some d,.indexAddr t x y,ty,pos,af,gd⟩ (.pointer (some ⟨dC a,eH a+14*k,none⟩)):=⟨λ w hw =>
 (Ss (i:=0) (G:=SF w0 M H A F O) hx hy ht hs ((hw.cl hf).ptr (by rw[Dn];omega)) h1).run w hw⟩
theorem ox{lst:List Nd}{q:Nat}(hx:ev S x=.pointer (some ⟨dC a,eH a+14*q,none⟩))(ht:jQ P t 14=true)(hf:qZ A F O a (Mq lst))(hq:q<lst.length) :
  aL P S (SF w0 M H A F O) ⟨some d,.load t x,ty,pos,af,gd⟩ (lst.getD q Nd.zero).v:=⟨λ w hw=>by
 have hcl:=hw.cl hf
 obtain⟨dd,hu,hm,hi⟩:=iG ht
 have hagg:(isAgg t).run P w=.ok true w:=by
  unfold isAgg
  rw[Sem.run_bind,run_underlying hu w]
  cases dd<;>simp_all
 have hl:(loadCells ⟨dC a,eH a+14*q,none⟩ 14).run P w=.ok ⟨(lst.getD q Nd.zero).cells⟩ w:=by
  have:=run_loadCells_list (P:=P) w ⟨dC a,eH a+14*q,none⟩ (lst.getD q Nd.zero).cells (λ j z hz=>by
   have hj:j<14:=(List.getElem?_eq_some_iff.1 hz).1
   rw[Addr.add_lit]
   have h3:=(hcl.at_ (14*q+j) z (by rw[Vs hq hj];exact hz)).2
   rwa [<- Nat.add_assoc] at h3)
  exact this
 cases hq':P.info? t with
 | none=>rw[hq'] at hi;simp at hi
 | some i =>
  have hs:i.size=14:=by rw[hq'] at hi;simpa using hi
  simp[execOp,hx,Instr.loadAt,Instr.sureAddr,loadVar,hagg,Go.sizeOf,typeInfo,hq',hs,hl,Nd.v]⟩
def W4(v n:Int):Int:=IntKind.i64.wrap ((IntKind.u64.wrap v).tmod (IntKind.u64.wrap n))
def tvN(l:List Int)(k:Nat)(n:Int):Nat:=if k<l.length then(W4 (l.getD k 0) n).toNat else 0
def lQ(l:List Int)(k:Nat):Nat:=if k<l.length then k+1 else k
theorem wrap_u64(i:Int):IntKind.u64.wrap i=i%18446744073709551616:=by
 simp[IntKind.wrap,IntKind.signed,IntKind.bits]
theorem Sc{v n:Int}(h0:0<n)(h1:n<=9223372036854775807):0<=W4 v n/\W4 v n<n:=by
 unfold W4
 rw[wrap_u64,wrap_u64,Int.emod_eq_of_lt (a:=n) (by omega) (by omega)]
 have h2:=Int.emod_nonneg v (show(18446744073709551616:Int)≠0 by decide)
 have h3:=Int.tmod_lt_of_pos (v%18446744073709551616) h0
 have h4:=Int.tmod_nonneg n h2
 rw[wrap_i64 (by omega) (by omega)]
 exact⟨h4,h3⟩
def cu(T:TypeId)(a:Option Addr)(l:List Int)(c k:Nat):Obj:=.cells ⟨[.slice a l.length c,.int .i64 ((k:Nat):Int)]⟩ T (0,0)
structure L6(w:World)(T:TypeId)(b:Nat)(a:Option Addr)(l:List Int)(c k:Nat):Prop where
 obj:w.heap[b]?=some (cu T a l c k)
 cl:Cl w a (aG l)
 ne:aG l≠[]->dC a≠b
 len:l.length<=17592186043904
theorem SF.tape(h:SF w0 M H A F O w){T b l}(ha:At H i b (cu T a l c k))(hf:qZ A F [] a (aG l))(hl:l.length<=17592186043904):L6 w T b a l c k:=by
 refine⟨h.st.at ha,?_,λ hc e=>h.apart hf hc (e▸List.mem_append_left _ (List.mem_map.2 ⟨_,ha.mem,rfl⟩)),hl⟩
 cases hf with
 | bN h1=>exact h.cl (.bN h1)
 | new h1=>exact h.cl (.new h1)
 | own h1=>cases h1
 | hdr h1 _=>cases h1
theorem L6.start{T b l}(h:L6 w T b a l c k):SF w [b] [(b,.cells ⟨[.slice a l.length c,.int .i64 ((k:Nat):Int)]⟩ T (0,0))] [(a,aG l)] [] [] w:=by
 refine⟨⟨rfl,rfl,rfl,Nat.le_refl _,λ _ _ _=>rfl,λ p hp=>?_,λ p hp=>?_,by simp⟩,λ f hf=>?_,λ _ h=>(List.not_mem_nil h).elim,λ _ h=>(List.not_mem_nil h).elim,by simp[Ks]⟩
 ·simp only[List.mem_singleton] at hp
  subst hp
  exact h.obj
 ·simp only[List.mem_singleton] at hp
  subst hp
  exact .inl (by simp)
 ·simp only[List.mem_singleton] at hf
  subst hf
  exact⟨h.cl,λ hc=>by simp only[Ks,List.map_cons,List.map_nil,List.flatMap_nil,List.append_nil,List.mem_singleton];exact h.ne hc⟩
end
end

/- The engine, part 10b: lists of nodes, each with its own lists. -/
section
open Go Go.RowKit
section
variable{w0 w w':World}{M:List Nat}{H:List (Nat×Obj)}{A F:Fr}{O:List Ow}
structure aZ where
 nd:Nd
 xs:List Int
 ys:List Pr
structure Nv where
 kind:Int
 gen:Int
 main:Int
 bm:Int
 xs:List Int
 hash:Int
 key:ByteArray
 val:Int
 ys:List Pr
 prev:Int
 bN:Int
 exp:Int
 new:Int
 status:Int
def Nd.c(n:Nd)(xs:List Int)(ys:List Pr):Nv:=⟨n.kind,n.gen,n.main,n.bm,xs,n.hash,n.key,n.val,ys,n.prev,n.bN,n.exp,n.new,n.status⟩
def aZ.c(v:aZ):Nv:=v.nd.c v.xs v.ys
theorem uZ{a b:Nd}{x1 x2:List Int}{y1 y2:List Pr}:rS a b x1 x2 y1 y2↔a.c x1 y1=b.c x2 y2:=by simp[rS,Nd.c]
def aZ.fr(v:aZ):Fr:=[(v.nd.brA,aG v.xs),(v.nd.prA,dH v.ys)]
def aZ.zero:aZ:=⟨Nd.zero,[],[]⟩
def aM(L:List aZ):Fr:=L.flatMap aZ.fr
def gN(L:List aZ):List Value:=L.flatMap (·.nd.cells)
theorem Vn(L:List aZ):gN L=Mq (L.map (·.nd)):=by simp[gN,Mq,List.flatMap_map]
theorem qo{L:List aZ}{k:Nat}:(L.map (·.nd)).getD k Nd.zero=(L.getD k aZ.zero).nd:=by
 rw[kQ,kQ,List.getElem?_map]
 cases L[k]?<;>rfl
theorem iY(n:Nd):n.cells.length=14:=rfl
theorem Ht(a b:List aZ):gN (a++b)=gN a++gN b:=by simp[gN]
theorem qj(v:aZ):gN [v]=v.nd.cells:=by simp[gN]
theorem kB(a:List aZ)(v:aZ):gN (a++[v])=gN a++v.nd.cells:=by rw[Ht,qj]
theorem cZ(a b:List aZ):aM (a++b)=aM a++aM b:=by simp[aM]
theorem dZ:∀L:List aZ,(gN L).length=L.length*14
 | []=>rfl
 | v::L=>by
  have:=dZ L
  simp only[gN,List.flatMap_cons,List.length_append,iY,List.length_cons] at this ⊢
  omega
theorem gg:∀{L:List aZ} {k j:Nat} {v:Value},k<L.length->(L.getD k aZ.zero).nd.cells[j]?=some v->(gN L)[14*k+j]?=some v
 | v::L,0,j,u,_,hj=>by
  have hlt:j<14:=by
   have:=(List.getElem?_eq_some_iff.1 hj).1
   simpa[iY] using this
  simp only[gN,List.flatMap_cons,Nat.mul_zero,Nat.zero_add]
  rw[List.getElem?_append_left (by rw[iY];exact hlt)]
  simpa using hj
 | v::L,k+1,j,u,hk,hj=>by
  simp only[gN,List.flatMap_cons]
  rw[List.getElem?_append_right (by rw[iY];omega),iY,show 14*(k+1)+j-14=14*k+j by omega]
  exact gg (L:=L) (by simpa using hk) (by simpa using hj)
theorem Dz(n:Nd):n.cells.all (·.oneCell')=true:=rfl
theorem Be:∀L:List aZ,(gN L).all (·.oneCell')=true
 | []=>rfl
 | v::L=>by
  have:=Be L
  simp only[gN,List.flatMap_cons,List.all_append,Bool.and_eq_true] at this ⊢
  exact⟨Dz _,this⟩
theorem rJ{L:List aZ}{f:Option Addr×List Value}:f∈aM L↔∃v∈L,f∈v.fr:=by simp[aM]
theorem iL{L:List aZ}{k:Nat}(hk:k<L.length):L.getD k aZ.zero∈L:=by
 rw[kQ,List.getElem?_eq_getElem hk];exact List.getElem_mem hk
theorem K6{L:List aZ}{k:Nat}(hk:k<L.length):((L.getD k aZ.zero).nd.brA,aG (L.getD k aZ.zero).xs)∈aM L:=rJ.2 ⟨_,iL hk,by simp[aZ.fr]⟩
theorem K8{L:List aZ}{k:Nat}(hk:k<L.length):((L.getD k aZ.zero).nd.prA,dH (L.getD k aZ.zero).ys)∈aM L:=rJ.2 ⟨_,iL hk,by simp[aZ.fr]⟩
structure aZ.Fit(v:aZ):Prop where
 brN:v.nd.brN=v.xs.length
 prN:v.nd.prN=v.ys.length
 brS:v.xs.length<=35184372088832
 prS:v.ys.length<=11728124029610
theorem aZ.Fit.rG{v:aZ}(h:v.Fit){w:World}(hb:Cl w v.nd.brA (aG v.xs))(hp:Cl w v.nd.prA (dH v.ys)):qS w v.nd v.xs v.ys :=
 ⟨h.brN,h.prN,hb,hp,by have:=h.brS;omega,by have:=h.prS;omega⟩
def Fits(L:List aZ):Prop:=∀v∈L,v.Fit
theorem Fits.at{L:List aZ}(h:Fits L){k:Nat}(hk:k<L.length):(L.getD k aZ.zero).Fit:=h _ (iL hk)
theorem P3:aZ.zero.Fit:=⟨rfl,rfl,by decide,by decide⟩
structure Bl(w:World)(L:List aZ)(cs:List Int)(pn pc:Option Addr):Prop where
 nds:Cl w pn (gN L)
 cls:Cl w pc (aG cs)
 fam:∀f∈aM L,Cl w f.1 f.2
 fit:Fits L
theorem Bl.start{w:World}{L:List aZ}{cs:List Int}{pn pc:Option Addr}(h:Bl w L cs pn pc):SF w [] [] ((pn,gN L)::(pc,aG cs)::aM L) [] [] w:=SF.begin λ f hf=>by
 rcases List.mem_cons.1 hf with rfl|hf
 ·exact h.nds
 rcases List.mem_cons.1 hf with rfl|hf
 ·exact h.cls
 ·exact h.fam f hf
theorem SF.sm{L:List aZ}{f1 f2:Option Addr×List Value}(h:SF w0 M H (f1::f2::aM L) F O w)(hfit:Fits L){k:Nat}(hk:k<L.length):qS w (L.getD k aZ.zero).nd (L.getD k aZ.zero).xs (L.getD k aZ.zero).ys :=
 (hfit.at hk).rG (h.bN _ (List.mem_cons_of_mem _ (List.mem_cons_of_mem _ (K6 hk)))).1 (h.bN _ (List.mem_cons_of_mem _ (List.mem_cons_of_mem _ (K8 hk)))).1
theorem SF.aAF{L:List aZ}(h:SF w0 M H (aM L) F O w)(hfit:Fits L){k:Nat}(hk:k<L.length):qS w (L.getD k aZ.zero).nd (L.getD k aZ.zero).xs (L.getD k aZ.zero).ys :=
 (hfit.at hk).rG (h.bN _ (K6 hk)).1 (h.bN _ (K8 hk)).1
theorem SF.ze{L:List aZ}(h:SF w0 M H A F O w)(hF:∀f∈aM L,f.2=[]∨f∈A∨f∈F)(hfit:Fits L){v:aZ}(hv:v∈L):qS w v.nd v.xs v.ys:=by
 have key:∀f∈aM L,Cl w f.1 f.2:=λ f hf=>by
  rcases hF f hf with h0|h1|h1
  ·rw[h0];exact Cl.nil _ _
  ·exact(h.bN f h1).1
  ·exact(h.new f h1).1
 exact(hfit v hv).rG (key (v.nd.brA,aG v.xs) (rJ.2 ⟨v,hv,by simp[aZ.fr]⟩)) (key (v.nd.prA,dH v.ys) (rJ.2 ⟨v,hv,by simp[aZ.fr]⟩))
variable{P:Program}{S:List (Nat×Value)}{G:World->Prop}{d:Nat}{ty:TypeId}{pos:String}{af:Array Edge}{gd:Option (Nat×Bool)}{x y:Operand}{t t2 e:TypeId}{p a:Option Addr}{i m k c c2:Nat}
theorem Bg{L:List aZ}{kk:IntKind}(hx:ev S x=.slice a m c)(hy:ev S y=.int kk ((k:Nat):Int))(ht:P.underlying t=some (.slice e))(hs:jQ P e 14=true)(hf:qZ A F O a (gN L))(h1:k<m)(h2:k<L.length) :
  aL P S (SF w0 M H A F O) ⟨some d,.indexAddr t x y,ty,pos,af,gd⟩ (.pointer (some ⟨dC a,eH a+14*k,none⟩)):=nf (lst:=L.map (·.nd)) hx hy ht hs (by rw[<- Vn];exact hf) h1 (by simpa using h2)
theorem Tz{L:List aZ}{q:Nat}(hx:ev S x=.pointer (some ⟨dC a,eH a+14*q,none⟩))(ht:jQ P t 14=true)(hf:qZ A F O a (gN L))(hq:q<L.length) :
  aL P S (SF w0 M H A F O) ⟨some d,.load t x,ty,pos,af,gd⟩ (L.getD q aZ.zero).nd.v:=by
 have:=ox (P:=P) (S:=S) (w0:=w0) (M:=M) (H:=H) (A:=A) (F:=F) (O:=O) (d:=d) (ty:=ty) (pos:=pos) (af:=af) (gd:=gd) (lst:=L.map (·.nd)) hx ht (by rw[<- Vn];exact hf) (by simpa using hq)
 rwa [qo] at this
theorem Hl{L:List aZ}{q:Nat}(hx:ev S x=.pointer (some ⟨dC a,eH a+14*q,none⟩))(ht:one P t=true)(hf:qZ A F O a (gN L))(hq:q<L.length) :
  aL P S (SF w0 M H A F O) ⟨some d,.load t x,ty,pos,af,gd⟩ (.int .i64 (L.getD q aZ.zero).nd.kind):=qT (q:=14*q) hx ht (λ w hw=>hw.cl hf) (gg (j:=0) hq rfl)
theorem V3{L:List aZ}{zc:List Value}(v:aZ)(hx:ev S x=.slice p m c)(hy:ev S y=.slice a 1 c2)(ho:xI O i p (gN L) c e 14)(hm:L.length=m)(hf:qZ A F O a v.nd.cells)
  (he:dM P t e zc) (hz:zc.length=14) (ht2:P.underlying t2=some (.slice e)) (hb:m+1<=549755813888) :
  bF P S (SF w0 M H A F O) ⟨some d,.call {callee:=.builtin .append,args := #[x,y],argTypes := #[t,t2]},ty,pos,af,gd⟩ (Option Addr×Nat) (λ q=>.slice q.1 (m+1) q.2)
   (λ q w=>m+1<=q.2/\SF w0 M H A F (kS O i ⟨q.1,gN (L++[v]),q.2,e,14⟩) w):=by
 rw[kB]
 exact fJ hx hy ho (by rw[dZ,hm]) hf (by simp[Nd.cells]) (Dz _) he hz (by decide) ht2 hb
theorem j9{L L2:List aZ}{zc:List Value}(hx:ev S x=.slice p m c)(hy:ev S y=.slice a k c2)(ho:xI O i p (gN L) c e 14)(hm:L.length=m)(hf:qZ A F O a (gN L2))(hk:L2.length=k)
  (he:dM P t e zc) (hz:zc.length=14) (ht2:P.underlying t2=some (.slice e)) (hb:m+k<=549755813888) :
  bF P S (SF w0 M H A F O) ⟨some d,.call {callee:=.builtin .append,args := #[x,y],argTypes := #[t,t2]},ty,pos,af,gd⟩ (Option Addr×Nat) (λ q=>.slice q.1 (m+k) q.2)
   (λ q w=>m+k<=q.2/\SF w0 M H A F (kS O i ⟨q.1,gN (L++L2),q.2,e,14⟩) w):=by
 rw[Ht]
 exact fJ hx hy ho (by rw[dZ,hm]) hf (by rw[dZ,hk]) (Be _) he hz (by decide) ht2 hb
theorem o4{k:Nat}{k1 k2:IntKind}{zc:List Value}(hx:ev S x=.int k1 0)(hy:ev S y=.int k2 ((k:Nat):Int))(he:dM P t e zc)(hz:zc.length=14)(hk:k<=1099511627776) :
  bF P S (SF w0 M H A F O) ⟨some d,.makeSlice t x y,ty,pos,af,gd⟩ Nat (λ b=>.slice (some ⟨b,0,none⟩) 0 k) (λ b=>SF w0 M H A F (⟨some ⟨b,0,none⟩,gN [],k,e,14⟩::O)):=by
 have:=Vo (P:=P) (S:=S) (w0:=w0) (M:=M) (H:=H) (A:=A) (F:=F) (O:=O) (d:=d) (ty:=ty) (pos:=pos) (af:=af) (gd:=gd) (m:=0) (k:=k) (k1:=k1) (k2:=k2) (x:=x) (y:=y) (cs:=gN []) (by simpa using hx) hy he (Nat.zero_le _) hk (List.eq_nil_of_length_eq_zero (by rw[kD];simp))
 rwa [hz] at this
section
variable{m n:Nat}{t':TypeId}
theorem oJ(hx:ev S x=.int .i64 ((m:Nat):Int))(hy:ev S y=.int .i64 ((n:Nat):Int))(h:m+n<=9223372036854775807) :
  aL P S G ⟨some d,.binOp .add t x y t',ty,pos,af,gd⟩ (.int .i64 ((m+n:Nat):Int)):=by
 have:=pR (P:=P) (G:=G) (d:=d) (ty:=ty) (pos:=pos) (af:=af) (gd:=gd) (t:=t) (t':=t') hx hy
 rw[wrap_i64 (by omega) (by omega)] at this
 rw[Int.natCast_add]
 exact this
theorem jJ(hx:ev S x=.int .i64 ((m:Nat):Int))(hy:ev S y=.int .i64 ((n:Nat):Int))(h:n<=m)(h2:m<=9223372036854775807) :
  aL P S G ⟨some d,.binOp .sub t x y t',ty,pos,af,gd⟩ (.int .i64 ((m-n:Nat):Int)):=by
 have:=Jb (P:=P) (G:=G) (d:=d) (ty:=ty) (pos:=pos) (af:=af) (gd:=gd) (t:=t) (t':=t') hx hy
 rw[wrap_i64 (by omega) (by omega)] at this
 rw[Int.natCast_sub h]
 exact this
end
theorem jI{P:Program}{S:List (Nat×Value)}{G:World->Prop}{d:Nat}{ty:TypeId}{pos:String}{af:Array Edge}{gd:Option (Nat×Bool)}{x:Operand}{vs:List Value}{k:Nat}{v:Value}(hx:ev S x=.tuple ⟨vs⟩)(hk:vs[k]?=some v):aL P S G ⟨some d,.extract x k,ty,pos,af,gd⟩ v:=⟨λ w _=>by
 simp[execOp,hx,Instr.extract,hk]⟩
theorem du{a:Int}(hx:ev S x=.int .i64 a)(hy:ev S y=.int .i64 1)(h:1<=a)(h2:a<=9223372036854775807):aL P S G ⟨some d,.binOp .sub t x y t2,ty,pos,af,gd⟩ (.int .i64 (((a-1).toNat:Nat):Int)):=by
 have:=Lf (P:=P) (G:=G) (d:=d) (ty:=ty) (pos:=pos) (af:=af) (gd:=gd) (t:=t) (t':=t2) hx hy (by omega)
 rwa [show a-1=(((a-1).toNat:Nat):Int) by omega] at this
theorem Po:∀(L:List aZ) (k:Nat),(gN L).drop (k*14)=gN (L.drop k)
 | [],k=>by simp[gN]
 | v::L,0=>by simp
 | v::L,k+1=>by
  have:=Po L k
  rw[List.drop_succ_cons,<- this]
  show(v.nd.cells++gN L).drop ((k+1)*14)=_
  rw[List.drop_append,List.drop_eq_nil_of_le (by rw[iY];omega),iY,List.nil_append]
  congr 1
  omega
theorem ti{L:List aZ}(hx:ev S x=.slice a m c)(hy:ev S y=.int .i64 ((k:Nat):Int))(ht:P.underlying t=some (.slice e))(hs:(P.info? e).map (·.size)=some 14)(hk:k<=m)(hf:qZ A F [] a (gN L))(hmc:m<=c)(hl:L.length=m) :
  bF P S (SF w0 M H A F O) ⟨some d,.slice t x (some y) none none,ty,pos,af,gd⟩ (Option Addr) (λ p=>.slice p (m-k) (c-k)) (λ p=>SF w0 M H ((p,gN (L.drop k))::A) F O):=by
 have:=ot (P:=P) (w0:=w0) (M:=M) (H:=H) (O:=O) (d:=d) (ty:=ty) (pos:=pos) (af:=af) (gd:=gd) hx hy ht hs hk hf hmc (by rw[dZ,hl])
 rw[Po] at this
 exact this
theorem SF.qp(h:SF w0 M H A F O w){L:List aZ}{T:TypeId}(ho:xI O i p (gN L) c T 14):L.length<=c:=by
 rcases(h.own _ ho.mem).1 with⟨_,h2,_⟩|⟨b,rest,_,_,h3⟩
 ·have h2':gN L=[]:=h2
  have:(gN L).length=0:=by rw[h2'];rfl
  rw[dZ] at this
  omega
 ·have h3':(gN L++rest).length=c*14:=h3
  rw[List.length_append,dZ] at h3'
  omega
theorem aN{b off:Nat}{cs vs:List Value}{T:TypeId}(hx:ev S x=.pointer (some ⟨b,off,none⟩))(ha:At H i b (.cells ⟨cs⟩ T (0,0)))(ht:jQ P t k=true)(hv:(cs.drop off).take k=vs)(hl:vs.length=k) :
  aL P S (SF w0 M H A F O) ⟨some d,.load t x,ty,pos,af,gd⟩ (.agg ⟨vs⟩):=⟨λ w hw=>by
 have hb:=hw.st.at ha
 have hcl:Cl w (some ⟨b,0,none⟩) cs:=Cl.block (pre:=[]) (rest:=[]) (by simpa using hb) rfl
 obtain⟨dd,hu,hm,hi⟩:=iG ht
 have hagg:(isAgg t).run P w=.ok true w:=by
  unfold isAgg
  rw[Sem.run_bind,run_underlying hu w]
  cases dd<;>simp_all
 have hlc:(loadCells ⟨b,off,none⟩ k).run P w=.ok ⟨vs⟩ w:=by
  have:=run_loadCells_list (P:=P) w ⟨b,off,none⟩ vs (λ j z hz=>by
   rw[Addr.add_lit]
   have hj:j<k:=by rw[<- hl];exact(List.getElem?_eq_some_iff.1 hz).1
   have h1:cs[off+j]?=some z:=by
    rw[<- hv,List.getElem?_take,if_pos hj,List.getElem?_drop] at hz
    exact hz
   have h3:=(hcl.at_ (off+j) z h1).2
   simpa[dC,eH] using h3)
  rwa [hl] at this
 cases hq':P.info? t with
 | none=>rw[hq'] at hi;simp at hi
 | some inf =>
  have hs:inf.size=k:=by rw[hq'] at hi;simpa using hi
  simp[execOp,hx,Instr.loadAt,Instr.sureAddr,loadVar,hagg,Go.sizeOf,typeInfo,hq',hs,hlc]⟩
def A4(P:Program)(t:TypeId)(k:Nat):Option Nat :=
 match P.underlying t with
 | some (.struct fs)=>match fs[k]? with
  | some f=>if one P f.type then some f.offset else none
  | none=>none
 | _=>none
theorem U2{cs:List Value}{off:Nat}{v:Value}(hx:ev S x=.agg ⟨cs⟩)(hf:A4 P t k=some off)(hv:cs[off]?=some v):aL P S G ⟨some d,.field t x k,ty,pos,af,gd⟩ v:=⟨λ w _=>by
 unfold A4 at hf
 cases hu:P.underlying t with
 | none=>simp[hu] at hf
 | some dd =>
  cases dd<;>simp[hu] at hf
  rename_i fs
  cases hk:fs[k]? with
  | none=>simp[hk] at hf
  | some f =>
   simp only[hk] at hf
   split at hf
   ·rename_i h1
    simp only[Option.some.injEq] at hf
    subst hf
    have hp:=mH (P:=P) h1 (cs:=⟨cs⟩) (off:=f.offset) (v:=v) (by simpa using hv) w
    simp[execOp,hx,Instr.field,run_underlying hu,hk,asAgg,hp]
   ·cases hf⟩
def kP(l:List Bool):List Value:=l.map .bool
theorem yF(l:List Bool):(kP l).length=l.length:=by simp[kP]
theorem X4{l:List Bool}{k:Nat}(h:k<l.length):(kP l)[k]?=some (.bool (l.getD k false)):=by simp[kP,h,List.getD]
theorem Rr(k:Nat):made [.bool false] k=kP (List.replicate k false):=by
 refine List.ext_getElem? λ i=>?_
 by_cases hi:i<k
 ·simp[made,madeCells,kP,Array.getElem?_toList,Array.getElem?_map,Array.getElem?_range,hi,Nat.mod_one]
 ·rw[List.getElem?_eq_none (by rw[kD];simp;omega),List.getElem?_eq_none (by simp[kP];omega)]
theorem rv{m k:Nat}{k1 k2:IntKind}(hx:ev S x=.int k1 ((m:Nat):Int))(hy:ev S y=.int k2 ((k:Nat):Int))(he:dM P t e [.bool false])(hmk:m<=k)(hk:k<=1099511627776) :
  bF P S (SF w0 M H A F O) ⟨some d,.makeSlice t x y,ty,pos,af,gd⟩ Nat (λ b=>.slice (some ⟨b,0,none⟩) m k) (λ b=>SF w0 M H A F (⟨some ⟨b,0,none⟩,kP (List.replicate m false),k,e,1⟩::O)) :=
 Vo hx hy he hmk hk (Rr m)
theorem Ie{lst:List Bool}{kk:IntKind}(hx:ev S x=.slice a m c)(hy:ev S y=.int kk ((k:Nat):Int))(ht:P.underlying t=some (.slice e))(hs:one P e=true)(hf:qZ A F O a (kP lst))(h1:k<m)(h2:k<lst.length) :
  aL P S (SF w0 M H A F O) ⟨some d,.indexAddr t x y,ty,pos,af,gd⟩ (.pointer (some ⟨dC a,eH a+k,none⟩)):=⟨λ w hw =>
 (Au (G:=SF w0 M H A F O) hx hy ht hs ((hw.cl hf).ptr (by rw[yF];omega)) h1).run w hw⟩
theorem Ve{lst:List Bool}{q:Nat}(hx:ev S x=.pointer (some ⟨dC a,eH a+q,none⟩))(ht:one P t=true)(hf:qZ A F O a (kP lst))(hq:q<lst.length) :
  aL P S (SF w0 M H A F O) ⟨some d,.load t x,ty,pos,af,gd⟩ (.bool (lst.getD q false)):=qT hx ht (λ w hw=>hw.cl hf) (X4 hq)
theorem S8(l:List Bool)(k:Nat)(v:Bool):(kP l).set k (.bool v)=kP (l.set k v):=by simp[kP]
theorem kj{q:Nat}{l:List Bool}{v:Bool}(hx:ev S x=.pointer (some ⟨dC p,eH p+q,none⟩))(hy:ev S y=.bool v)(ht:one P t=true)(ho:xI O i p (kP l) c e 1)(hq:q<l.length) :
  bF P S (SF w0 M H A F O) ⟨none,.store t x y,ty,pos,af,gd⟩ Unit (λ _=>undef) (λ _=>SF w0 M H A F (kS O i ⟨p,kP (l.set q v),c,e,1⟩)):=by
 rw[<- S8]
 exact Nz hx hy rfl ht ho (by rw[yF];exact hq)
theorem j8(hx:ev S x=.slice a m c)(hy:ev S y=.slice none 0 0)(ht:P.underlying t=some (.slice e)):aL P S G ⟨some d,.binOp .eql t x y t2,ty,pos,af,gd⟩ (.bool a.isNone):=⟨λ w _=>by
 have:=Go.Lib.run_eql_slice_nil (P:=P) w t e a m c 0 0 ht
 simp[execOp,hx,hy,this,eqGuard]⟩
def Jt(P:Program)(t:TypeId):Bool:=match P.underlying t with|some (.pointer _)=>true|_=>false
theorem O4(h:Jt P t=true):P.underlying t=some (.pointer (P.pointee t)):=by
 unfold Jt at h
 cases hu:P.underlying t with
 | none=>simp[hu] at h
 | some dd=>cases dd<;>simp[hu,Program.pointee] at h ⊢
theorem n7{q:Option Addr}(hx:ev S x=.pointer q)(hy:ev S y=.pointer none)(ht:Jt P t=true):aL P S G ⟨some d,.binOp .eql t x y t2,ty,pos,af,gd⟩ (.bool q.isNone):=⟨λ w _=>by
 have:=run_eql_pointer_nil (P:=P) w t q (O4 ht)
 simp[execOp,hx,hy,this,eqGuard]⟩
theorem T8{q:Option Addr}(hx:ev S x=.pointer q)(hy:ev S y=.pointer none)(ht:Jt P t=true):aL P S G ⟨some d,.binOp .neq t x y t2,ty,pos,af,gd⟩ (.bool (!q.isNone)):=⟨λ w _=>by
 have:=run_neq_pointer_nil (P:=P) w t q (O4 ht)
 simp[execOp,hx,hy,this,eqGuard]⟩
end
end

end Go.Ct

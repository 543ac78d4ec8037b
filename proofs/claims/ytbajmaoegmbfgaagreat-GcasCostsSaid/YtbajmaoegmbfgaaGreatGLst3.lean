/- The engine, part 9: lists of strings and of nodes; tapes. -/
import Derived.Test.YtbajmaoegmbfgaaGreatGLst
import Derived.Test.YtbajmaoegmbfgaaGreatGMem
import Derived.Lib.SliceRun
import Derived.Laws.Pointers

set_option linter.unusedSimpArgs false
set_option linter.unusedVariables false
namespace Go.Ct
section
open Go Go.RowKit
section
variable{P:Program}{n:Nat}{S:List (Nat×Value)}
variable{w0 w w':World}{M:List Nat}{H H':List (Nat×Obj)}{A F F':Fr}{O O':List Ow}{G:World->Prop}
variable{d:Nat}{ty:TypeId}{pos:String}{af:Array Edge}{gd:Option (Nat×Bool)}{dst:Option Nat}{x y z:Operand}{t t2 e:TypeId}{p a:Option Addr}{i m k c c2:Nat}
def To(l:List ByteArray):List Value:=l.map Value.string
theorem Zf{lst:List ByteArray}{kk:IntKind}(hx:ev S x=.slice a m c)(hy:ev S y=.int kk ((k:Nat):Int))(ht:P.underlying t=some (.slice e))(hs:one P e=true)(hf:pK A F O a (To lst))(h1:k<m)(h2:k<lst.length) :
  aL P S (SF w0 M H A F O) ⟨some d,.indexAddr t x y,ty,pos,af,gd⟩ (.pointer (some ⟨cJ a,eA a+k,none⟩)):=⟨λ w hw =>
 (Ai (G:=SF w0 M H A F O) hx hy ht hs ((hw.cl hf).ptr (by simp only[To,List.length_map];omega)) h1).run w hw⟩
theorem nk{lst:List ByteArray}{q:Nat}(hx:ev S x=.pointer (some ⟨cJ a,eA a+q,none⟩))(ht:one P t=true)(hf:pK A F O a (To lst))(hq:q<lst.length) :
  aL P S (SF w0 M H A F O) ⟨some d,.load t x,ty,pos,af,gd⟩ (.string (lst.getD q ⟨#[]⟩)):=nL hx ht (λ w hw=>hw.cl hf) (by simp[To,hq,List.getD])
def Mn(l:List Nd):List Value:=l.flatMap Nd.cells
theorem Cp:∀l:List Nd,(Mn l).length=14*l.length
 | []=>rfl
 | _::r=>by
  have:=Cp r
  simp only[Mn,List.flatMap_cons,List.length_append,List.length_cons] at this ⊢
  rw[this]
  simp only[Nd.cells,List.length_cons,List.length_nil]
  omega
theorem Uv:∀{l:List Nd} {k j:Nat},k<l.length->j<14->(Mn l)[14*k+j]?=(l.getD k Nd.zero).cells[j]?
 | [],_,_,h,_=>by simp at h
 | n::r,0,j,_,hj=>by
  simp only[Mn,List.flatMap_cons,Nat.mul_zero,Nat.zero_add,List.getD_cons_zero]
  rw[List.getElem?_append_left (by simp only[Nd.cells,List.length_cons,List.length_nil];omega)]
 | n::r,k+1,j,h,hj=>by
  have:=Uv (l:=r) (k:=k) (j:=j) (by simpa using h) hj
  simp only[Mn,List.flatMap_cons,List.getD_cons_succ] at this ⊢
  rw[List.getElem?_append_right (by simp only[Nd.cells,List.length_cons,List.length_nil];omega),<- this]
  congr 1
  simp only[Nd.cells,List.length_cons,List.length_nil]
  omega
theorem Rz{m c:Nat}{i:Int}{kk:IntKind}(hx:ev S x=.slice a m c)(hy:ev S y=.int kk ((k:Nat):Int))(ht:P.underlying t=some (.slice e))(hs:jM P e 14=true)(ha:a=some ⟨cJ a,eA a,none⟩)(h1:k<m) :
  aL P S G ⟨some d,.indexAddr t x y,ty,pos,af,gd⟩ (.pointer (some ⟨cJ a,eA a+14*k,none⟩)):=⟨λ w _=>by
 obtain⟨_,_,_,hsz⟩:=gW hs
 have:=wY (P:=P) (a:=a) (m:=m) (c:=c) (k:=kk) ht hsz ha (i:=(k:Int)) (by omega) (by omega) w
 simp only[Int.toNat_natCast,Nat.mul_comm k 14] at this
 simp[execOp,hx,hy,this]⟩
theorem Zq{lst:List Nd}{kk:IntKind}(hx:ev S x=.slice a m c)(hy:ev S y=.int kk ((k:Nat):Int))(ht:P.underlying t=some (.slice e))(hs:jM P e 14=true)(hf:pK A F O a (Mn lst))(h1:k<m)(h2:k<lst.length) :
  aL P S (SF w0 M H A F O) ⟨some d,.indexAddr t x y,ty,pos,af,gd⟩ (.pointer (some ⟨cJ a,eA a+14*k,none⟩)):=⟨λ w hw =>
 (Rz (i:=0) (G:=SF w0 M H A F O) hx hy ht hs ((hw.cl hf).ptr (by rw[Cp];omega)) h1).run w hw⟩
theorem ny{lst:List Nd}{q:Nat}(hx:ev S x=.pointer (some ⟨cJ a,eA a+14*q,none⟩))(ht:jM P t 14=true)(hf:pK A F O a (Mn lst))(hq:q<lst.length) :
  aL P S (SF w0 M H A F O) ⟨some d,.load t x,ty,pos,af,gd⟩ (lst.getD q Nd.zero).v:=⟨λ w hw=>by
 have hcl:=hw.cl hf
 obtain⟨dd,hu,hm,hi⟩:=gW ht
 have hagg:(isAgg t).run P w=.ok true w:=by
  unfold isAgg
  rw[Sem.run_bind,run_underlying hu w]
  cases dd<;>simp_all
 have hl:(loadCells ⟨cJ a,eA a+14*q,none⟩ 14).run P w=.ok ⟨(lst.getD q Nd.zero).cells⟩ w:=by
  have:=run_loadCells_list (P:=P) w ⟨cJ a,eA a+14*q,none⟩ (lst.getD q Nd.zero).cells (λ j z hz=>by
   have hj:j<14:=(List.getElem?_eq_some_iff.1 hz).1
   rw[Addr.add_lit]
   have h3:=(hcl.at_ (14*q+j) z (by rw[Uv hq hj];exact hz)).2
   rwa [<- Nat.add_assoc] at h3)
  exact this
 cases hq':P.info? t with
 | none=>rw[hq'] at hi;simp at hi
 | some i =>
  have hs:i.size=14:=by rw[hq'] at hi;simpa using hi
  simp[execOp,hx,Instr.loadAt,Instr.sureAddr,loadVar,hagg,Go.sizeOf,typeInfo,hq',hs,hl,Nd.v]⟩
def X4(v n:Int):Int:=IntKind.i64.wrap ((IntKind.u64.wrap v).tmod (IntKind.u64.wrap n))
def tvN(l:List Int)(k:Nat)(n:Int):Nat:=if k<l.length then(X4 (l.getD k 0) n).toNat else 0
def mM(l:List Int)(k:Nat):Nat:=if k<l.length then k+1 else k
theorem wrap_u64(i:Int):IntKind.u64.wrap i=i%18446744073709551616:=by
 simp[IntKind.wrap,IntKind.signed,IntKind.bits]
theorem Sx{v n:Int}(h0:0<n)(h1:n<=9223372036854775807):0<=X4 v n/\X4 v n<n:=by
 unfold X4
 rw[wrap_u64,wrap_u64,Int.emod_eq_of_lt (a:=n) (by omega) (by omega)]
 have h2:=Int.emod_nonneg v (show(18446744073709551616:Int)≠0 by decide)
 have h3:=Int.tmod_lt_of_pos (v%18446744073709551616) h0
 have h4:=Int.tmod_nonneg n h2
 rw[wrap_i64 (by omega) (by omega)]
 exact⟨h4,h3⟩
def aw(T:TypeId)(a:Option Addr)(l:List Int)(c k:Nat):Obj:=.cells ⟨[.slice a l.length c,.int .i64 ((k:Nat):Int)]⟩ T (0,0)
structure K1(w:World)(T:TypeId)(b:Nat)(a:Option Addr)(l:List Int)(c k:Nat):Prop where
 obj:w.heap[b]?=some (aw T a l c k)
 cl:Cl w a (aG l)
 ne:aG l≠[]->cJ a≠b
 len:l.length<=17592186043904
theorem SF.tape(h:SF w0 M H A F O w){T b l}(ha:At H i b (aw T a l c k))(hf:pK A F [] a (aG l))(hl:l.length<=17592186043904):K1 w T b a l c k:=by
 refine⟨h.st.at ha,?_,λ hc e=>h.apart hf hc (e▸List.mem_append_left _ (List.mem_map.2 ⟨_,ha.mem,rfl⟩)),hl⟩
 cases hf with
 | bJ h1=>exact h.cl (.bJ h1)
 | new h1=>exact h.cl (.new h1)
 | own h1=>cases h1
 | hdr h1 _=>cases h1
theorem K1.start{T b l}(h:K1 w T b a l c k):SF w [b] [(b,.cells ⟨[.slice a l.length c,.int .i64 ((k:Nat):Int)]⟩ T (0,0))] [(a,aG l)] [] [] w:=by
 refine⟨⟨rfl,rfl,rfl,Nat.le_refl _,λ _ _ _=>rfl,λ p hp=>?_,λ p hp=>?_,by simp⟩,λ f hf=>?_,λ _ h=>(List.not_mem_nil h).elim,λ _ h=>(List.not_mem_nil h).elim,by simp[Ks]⟩
 ·simp only[List.mem_singleton] at hp
  subst hp
  exact h.obj
 ·simp only[List.mem_singleton] at hp
  subst hp
  exact .inl (by simp)
 ·simp only[List.mem_singleton] at hf
  subst hf
  exact⟨h.cl,λ hc=>by simp only[Ks,List.map_cons,List.map_nil,List.flatMap_nil,List.append_nil,List.mem_singleton];exact h.ne hc⟩
end
end

/- The engine, part 10b: lists of nodes, each with its own lists. -/
section
open Go Go.RowKit
section
variable{w0 w w':World}{M:List Nat}{H:List (Nat×Obj)}{A F:Fr}{O:List Ow}
structure aP where
 nd:Nd
 xs:List Int
 ys:List Pr
structure Nv where
 kind:Int
 gen:Int
 main:Int
 bm:Int
 xs:List Int
 hash:Int
 key:ByteArray
 val:Int
 ys:List Pr
 prev:Int
 bJ:Int
 exp:Int
 new:Int
 status:Int
def Nd.c(n:Nd)(xs:List Int)(ys:List Pr):Nv:=⟨n.kind,n.gen,n.main,n.bm,xs,n.hash,n.key,n.val,ys,n.prev,n.bJ,n.exp,n.new,n.status⟩
def aP.c(v:aP):Nv:=v.nd.c v.xs v.ys
theorem zK{a b:Nd}{x1 x2:List Int}{y1 y2:List Pr}:rK a b x1 x2 y1 y2↔a.c x1 y1=b.c x2 y2:=by simp[rK,Nd.c]
def aP.fr(v:aP):Fr:=[(v.nd.brA,aG v.xs),(v.nd.prA,cR v.ys)]
def aP.zero:aP:=⟨Nd.zero,[],[]⟩
def aM(L:List aP):Fr:=L.flatMap aP.fr
def iY(L:List aP):List Value:=L.flatMap (·.nd.cells)
theorem Vx(L:List aP):iY L=Mn (L.map (·.nd)):=by simp[iY,Mn,List.flatMap_map]
theorem p9{L:List aP}{k:Nat}:(L.map (·.nd)).getD k Nd.zero=(L.getD k aP.zero).nd:=by
 rw[jC,jC,List.getElem?_map]
 cases L[k]?<;>rfl
theorem iS(n:Nd):n.cells.length=14:=rfl
theorem Hw(a b:List aP):iY (a++b)=iY a++iY b:=by simp[iY]
theorem mw(v:aP):iY [v]=v.nd.cells:=by simp[iY]
theorem jV(a:List aP)(v:aP):iY (a++[v])=iY a++v.nd.cells:=by rw[Hw,mw]
theorem eE(a b:List aP):aM (a++b)=aM a++aM b:=by simp[aM]
theorem dW:∀L:List aP,(iY L).length=L.length*14
 | []=>rfl
 | v::L=>by
  have:=dW L
  simp only[iY,List.flatMap_cons,List.length_append,iS,List.length_cons] at this ⊢
  omega
theorem ft:∀{L:List aP} {k j:Nat} {v:Value},k<L.length->(L.getD k aP.zero).nd.cells[j]?=some v->(iY L)[14*k+j]?=some v
 | v::L,0,j,u,_,hj=>by
  have hlt:j<14:=by
   have:=(List.getElem?_eq_some_iff.1 hj).1
   simpa[iS] using this
  simp only[iY,List.flatMap_cons,Nat.mul_zero,Nat.zero_add]
  rw[List.getElem?_append_left (by rw[iS];exact hlt)]
  simpa using hj
 | v::L,k+1,j,u,hk,hj=>by
  simp only[iY,List.flatMap_cons]
  rw[List.getElem?_append_right (by rw[iS];omega),iS,show 14*(k+1)+j-14=14*k+j by omega]
  exact ft (L:=L) (by simpa using hk) (by simpa using hj)
theorem Cy(n:Nd):n.cells.all (·.oneCell')=true:=rfl
theorem Ay:∀L:List aP,(iY L).all (·.oneCell')=true
 | []=>rfl
 | v::L=>by
  have:=Ay L
  simp only[iY,List.flatMap_cons,List.all_append,Bool.and_eq_true] at this ⊢
  exact⟨Cy _,this⟩
theorem rO{L:List aP}{f:Option Addr×List Value}:f∈aM L↔∃v∈L,f∈v.fr:=by simp[aM]
theorem fO{L:List aP}{k:Nat}(hk:k<L.length):L.getD k aP.zero∈L:=by
 rw[jC,List.getElem?_eq_getElem hk];exact List.getElem_mem hk
theorem D7{L:List aP}{k:Nat}(hk:k<L.length):((L.getD k aP.zero).nd.brA,aG (L.getD k aP.zero).xs)∈aM L:=rO.2 ⟨_,fO hk,by simp[aP.fr]⟩
theorem Ec{L:List aP}{k:Nat}(hk:k<L.length):((L.getD k aP.zero).nd.prA,cR (L.getD k aP.zero).ys)∈aM L:=rO.2 ⟨_,fO hk,by simp[aP.fr]⟩
structure aP.Fit(v:aP):Prop where
 brN:v.nd.brN=v.xs.length
 prN:v.nd.prN=v.ys.length
 brS:v.xs.length<=35184372088832
 prS:v.ys.length<=11728124029610
theorem aP.Fit.rQ{v:aP}(h:v.Fit){w:World}(hb:Cl w v.nd.brA (aG v.xs))(hp:Cl w v.nd.prA (cR v.ys)):rX w v.nd v.xs v.ys :=
 ⟨h.brN,h.prN,hb,hp,by have:=h.brS;omega,by have:=h.prS;omega⟩
def Fits(L:List aP):Prop:=∀v∈L,v.Fit
theorem Fits.at{L:List aP}(h:Fits L){k:Nat}(hk:k<L.length):(L.getD k aP.zero).Fit:=h _ (fO hk)
theorem Qg:aP.zero.Fit:=⟨rfl,rfl,by decide,by decide⟩
structure qT(w:World)(L:List aP)(cs:List Int)(pn pc:Option Addr):Prop where
 nds:Cl w pn (iY L)
 cls:Cl w pc (aG cs)
 fam:∀f∈aM L,Cl w f.1 f.2
 fit:Fits L
theorem qT.start{w:World}{L:List aP}{cs:List Int}{pn pc:Option Addr}(h:qT w L cs pn pc):SF w [] [] ((pn,iY L)::(pc,aG cs)::aM L) [] [] w:=SF.begin λ f hf=>by
 rcases List.mem_cons.1 hf with rfl|hf
 ·exact h.nds
 rcases List.mem_cons.1 hf with rfl|hf
 ·exact h.cls
 ·exact h.fam f hf
theorem SF.Qj{L:List aP}{f1 f2:Option Addr×List Value}(h:SF w0 M H (f1::f2::aM L) F O w)(hfit:Fits L){k:Nat}(hk:k<L.length):rX w (L.getD k aP.zero).nd (L.getD k aP.zero).xs (L.getD k aP.zero).ys :=
 (hfit.at hk).rQ (h.bJ _ (List.mem_cons_of_mem _ (List.mem_cons_of_mem _ (D7 hk)))).1 (h.bJ _ (List.mem_cons_of_mem _ (List.mem_cons_of_mem _ (Ec hk)))).1
theorem SF.aA0{L:List aP}(h:SF w0 M H (aM L) F O w)(hfit:Fits L){k:Nat}(hk:k<L.length):rX w (L.getD k aP.zero).nd (L.getD k aP.zero).xs (L.getD k aP.zero).ys :=
 (hfit.at hk).rQ (h.bJ _ (D7 hk)).1 (h.bJ _ (Ec hk)).1
theorem SF.aBz{L:List aP}(h:SF w0 M H A F O w)(hF:∀f∈aM L,f.2=[]∨f∈A∨f∈F)(hfit:Fits L){v:aP}(hv:v∈L):rX w v.nd v.xs v.ys:=by
 have key:∀f∈aM L,Cl w f.1 f.2:=λ f hf=>by
  rcases hF f hf with h0|h1|h1
  ·rw[h0];exact Cl.nil _ _
  ·exact(h.bJ f h1).1
  ·exact(h.new f h1).1
 exact(hfit v hv).rQ (key (v.nd.brA,aG v.xs) (rO.2 ⟨v,hv,by simp[aP.fr]⟩)) (key (v.nd.prA,cR v.ys) (rO.2 ⟨v,hv,by simp[aP.fr]⟩))
variable{P:Program}{S:List (Nat×Value)}{G:World->Prop}{d:Nat}{ty:TypeId}{pos:String}{af:Array Edge}{gd:Option (Nat×Bool)}{x y:Operand}{t t2 e:TypeId}{p a:Option Addr}{i m k c c2:Nat}
theorem sB{L:List aP}{kk:IntKind}(hx:ev S x=.slice a m c)(hy:ev S y=.int kk ((k:Nat):Int))(ht:P.underlying t=some (.slice e))(hs:jM P e 14=true)(hf:pK A F O a (iY L))(h1:k<m)(h2:k<L.length) :
  aL P S (SF w0 M H A F O) ⟨some d,.indexAddr t x y,ty,pos,af,gd⟩ (.pointer (some ⟨cJ a,eA a+14*k,none⟩)):=Zq (lst:=L.map (·.nd)) hx hy ht hs (by rw[<- Vx];exact hf) h1 (by simpa using h2)
theorem Va{L:List aP}{q:Nat}(hx:ev S x=.pointer (some ⟨cJ a,eA a+14*q,none⟩))(ht:jM P t 14=true)(hf:pK A F O a (iY L))(hq:q<L.length) :
  aL P S (SF w0 M H A F O) ⟨some d,.load t x,ty,pos,af,gd⟩ (L.getD q aP.zero).nd.v:=by
 have:=ny (P:=P) (S:=S) (w0:=w0) (M:=M) (H:=H) (A:=A) (F:=F) (O:=O) (d:=d) (ty:=ty) (pos:=pos) (af:=af) (gd:=gd) (lst:=L.map (·.nd)) hx ht (by rw[<- Vx];exact hf) (by simpa using hq)
 rwa [p9] at this
theorem vD{L:List aP}{q:Nat}(hx:ev S x=.pointer (some ⟨cJ a,eA a+14*q,none⟩))(ht:one P t=true)(hf:pK A F O a (iY L))(hq:q<L.length) :
  aL P S (SF w0 M H A F O) ⟨some d,.load t x,ty,pos,af,gd⟩ (.int .i64 (L.getD q aP.zero).nd.kind):=nL (q:=14*q) hx ht (λ w hw=>hw.cl hf) (ft (j:=0) hq rfl)
theorem nz{L:List aP}{zc:List Value}(v:aP)(hx:ev S x=.slice p m c)(hy:ev S y=.slice a 1 c2)(ho:wV O i p (iY L) c e 14)(hm:L.length=m)(hf:pK A F O a v.nd.cells)
  (he:dL P t e zc) (hz:zc.length=14) (ht2:P.underlying t2=some (.slice e)) (hb:m+1<=549755813888) :
  bC P S (SF w0 M H A F O) ⟨some d,.call {callee:=.builtin .append,args := #[x,y],argTypes := #[t,t2]},ty,pos,af,gd⟩ (Option Addr×Nat) (λ q=>.slice q.1 (m+1) q.2)
   (λ q w=>m+1<=q.2/\SF w0 M H A F (kN O i ⟨q.1,iY (L++[v]),q.2,e,14⟩) w):=by
 rw[jV]
 exact fN hx hy ho (by rw[dW,hm]) hf (by simp[Nd.cells]) (Cy _) he hz (by decide) ht2 hb
theorem dg{L L2:List aP}{zc:List Value}(hx:ev S x=.slice p m c)(hy:ev S y=.slice a k c2)(ho:wV O i p (iY L) c e 14)(hm:L.length=m)(hf:pK A F O a (iY L2))(hk:L2.length=k)
  (he:dL P t e zc) (hz:zc.length=14) (ht2:P.underlying t2=some (.slice e)) (hb:m+k<=549755813888) :
  bC P S (SF w0 M H A F O) ⟨some d,.call {callee:=.builtin .append,args := #[x,y],argTypes := #[t,t2]},ty,pos,af,gd⟩ (Option Addr×Nat) (λ q=>.slice q.1 (m+k) q.2)
   (λ q w=>m+k<=q.2/\SF w0 M H A F (kN O i ⟨q.1,iY (L++L2),q.2,e,14⟩) w):=by
 rw[Hw]
 exact fN hx hy ho (by rw[dW,hm]) hf (by rw[dW,hk]) (Ay _) he hz (by decide) ht2 hb
theorem qs{k:Nat}{k1 k2:IntKind}{zc:List Value}(hx:ev S x=.int k1 0)(hy:ev S y=.int k2 ((k:Nat):Int))(he:dL P t e zc)(hz:zc.length=14)(hk:k<=1099511627776) :
  bC P S (SF w0 M H A F O) ⟨some d,.makeSlice t x y,ty,pos,af,gd⟩ Nat (λ b=>.slice (some ⟨b,0,none⟩) 0 k) (λ b=>SF w0 M H A F (⟨some ⟨b,0,none⟩,iY [],k,e,14⟩::O)):=by
 have:=Vq (P:=P) (S:=S) (w0:=w0) (M:=M) (H:=H) (A:=A) (F:=F) (O:=O) (d:=d) (ty:=ty) (pos:=pos) (af:=af) (gd:=gd) (m:=0) (k:=k) (k1:=k1) (k2:=k2) (x:=x) (y:=y) (cs:=iY []) (by simpa using hx) hy he (Nat.zero_le _) hk (List.eq_nil_of_length_eq_zero (by rw[jU];simp))
 rwa [hz] at this
section
variable{m n:Nat}{t':TypeId}
theorem oK(hx:ev S x=.int .i64 ((m:Nat):Int))(hy:ev S y=.int .i64 ((n:Nat):Int))(h:m+n<=9223372036854775807) :
  aL P S G ⟨some d,.binOp .add t x y t',ty,pos,af,gd⟩ (.int .i64 ((m+n:Nat):Int)):=by
 have:=nS (P:=P) (G:=G) (d:=d) (ty:=ty) (pos:=pos) (af:=af) (gd:=gd) (t:=t) (t':=t') hx hy
 rw[wrap_i64 (by omega) (by omega)] at this
 rw[Int.natCast_add]
 exact this
theorem jJ(hx:ev S x=.int .i64 ((m:Nat):Int))(hy:ev S y=.int .i64 ((n:Nat):Int))(h:n<=m)(h2:m<=9223372036854775807) :
  aL P S G ⟨some d,.binOp .sub t x y t',ty,pos,af,gd⟩ (.int .i64 ((m-n:Nat):Int)):=by
 have:=Nn (P:=P) (G:=G) (d:=d) (ty:=ty) (pos:=pos) (af:=af) (gd:=gd) (t:=t) (t':=t') hx hy
 rw[wrap_i64 (by omega) (by omega)] at this
 rw[Int.natCast_sub h]
 exact this
end
theorem jH{P:Program}{S:List (Nat×Value)}{G:World->Prop}{d:Nat}{ty:TypeId}{pos:String}{af:Array Edge}{gd:Option (Nat×Bool)}{x:Operand}{vs:List Value}{k:Nat}{v:Value}(hx:ev S x=.tuple ⟨vs⟩)(hk:vs[k]?=some v):aL P S G ⟨some d,.extract x k,ty,pos,af,gd⟩ v:=⟨λ w _=>by
 simp[execOp,hx,Instr.extract,hk]⟩
theorem Mr{a:Int}(hx:ev S x=.int .i64 a)(hy:ev S y=.int .i64 1)(h:1<=a)(h2:a<=9223372036854775807):aL P S G ⟨some d,.binOp .sub t x y t2,ty,pos,af,gd⟩ (.int .i64 (((a-1).toNat:Nat):Int)):=by
 have:=Qz (P:=P) (G:=G) (d:=d) (ty:=ty) (pos:=pos) (af:=af) (gd:=gd) (t:=t) (t':=t2) hx hy (by omega)
 rwa [show a-1=(((a-1).toNat:Nat):Int) by omega] at this
theorem Pa:∀(L:List aP) (k:Nat),(iY L).drop (k*14)=iY (L.drop k)
 | [],k=>by simp[iY]
 | v::L,0=>by simp
 | v::L,k+1=>by
  have:=Pa L k
  rw[List.drop_succ_cons,<- this]
  show(v.nd.cells++iY L).drop ((k+1)*14)=_
  rw[List.drop_append,List.drop_eq_nil_of_le (by rw[iS];omega),iS,List.nil_append]
  congr 1
  omega
theorem pz{L:List aP}(hx:ev S x=.slice a m c)(hy:ev S y=.int .i64 ((k:Nat):Int))(ht:P.underlying t=some (.slice e))(hs:(P.info? e).map (·.size)=some 14)(hk:k<=m)(hf:pK A F [] a (iY L))(hmc:m<=c)(hl:L.length=m) :
  bC P S (SF w0 M H A F O) ⟨some d,.slice t x (some y) none none,ty,pos,af,gd⟩ (Option Addr) (λ p=>.slice p (m-k) (c-k)) (λ p=>SF w0 M H ((p,iY (L.drop k))::A) F O):=by
 have:=oy (P:=P) (w0:=w0) (M:=M) (H:=H) (O:=O) (d:=d) (ty:=ty) (pos:=pos) (af:=af) (gd:=gd) hx hy ht hs hk hf hmc (by rw[dW,hl])
 rw[Pa] at this
 exact this
theorem SF.yq(h:SF w0 M H A F O w){L:List aP}{T:TypeId}(ho:wV O i p (iY L) c T 14):L.length<=c:=by
 rcases(h.own _ ho.mem).1 with⟨_,h2,_⟩|⟨b,rest,_,_,h3⟩
 ·have h2':iY L=[]:=h2
  have:(iY L).length=0:=by rw[h2'];rfl
  rw[dW] at this
  omega
 ·have h3':(iY L++rest).length=c*14:=h3
  rw[List.length_append,dW] at h3'
  omega
theorem aR{b off:Nat}{cs vs:List Value}{T:TypeId}(hx:ev S x=.pointer (some ⟨b,off,none⟩))(ha:At H i b (.cells ⟨cs⟩ T (0,0)))(ht:jM P t k=true)(hv:(cs.drop off).take k=vs)(hl:vs.length=k) :
  aL P S (SF w0 M H A F O) ⟨some d,.load t x,ty,pos,af,gd⟩ (.agg ⟨vs⟩):=⟨λ w hw=>by
 have hb:=hw.st.at ha
 have hcl:Cl w (some ⟨b,0,none⟩) cs:=Cl.block (pre:=[]) (rest:=[]) (by simpa using hb) rfl
 obtain⟨dd,hu,hm,hi⟩:=gW ht
 have hagg:(isAgg t).run P w=.ok true w:=by
  unfold isAgg
  rw[Sem.run_bind,run_underlying hu w]
  cases dd<;>simp_all
 have hlc:(loadCells ⟨b,off,none⟩ k).run P w=.ok ⟨vs⟩ w:=by
  have:=run_loadCells_list (P:=P) w ⟨b,off,none⟩ vs (λ j z hz=>by
   rw[Addr.add_lit]
   have hj:j<k:=by rw[<- hl];exact(List.getElem?_eq_some_iff.1 hz).1
   have h1:cs[off+j]?=some z:=by
    rw[<- hv,List.getElem?_take,if_pos hj,List.getElem?_drop] at hz
    exact hz
   have h3:=(hcl.at_ (off+j) z h1).2
   simpa[cJ,eA] using h3)
  rwa [hl] at this
 cases hq':P.info? t with
 | none=>rw[hq'] at hi;simp at hi
 | some inf =>
  have hs:inf.size=k:=by rw[hq'] at hi;simpa using hi
  simp[execOp,hx,Instr.loadAt,Instr.sureAddr,loadVar,hagg,Go.sizeOf,typeInfo,hq',hs,hlc]⟩
def zS(P:Program)(t:TypeId)(k:Nat):Option Nat :=
 match P.underlying t with
 | some (.struct fs)=>match fs[k]? with
  | some f=>if one P f.type then some f.offset else none
  | none=>none
 | _=>none
theorem L5{cs:List Value}{off:Nat}{v:Value}(hx:ev S x=.agg ⟨cs⟩)(hf:zS P t k=some off)(hv:cs[off]?=some v):aL P S G ⟨some d,.field t x k,ty,pos,af,gd⟩ v:=⟨λ w _=>by
 unfold zS at hf
 cases hu:P.underlying t with
 | none=>simp[hu] at hf
 | some dd =>
  cases dd<;>simp[hu] at hf
  rename_i fs
  cases hk:fs[k]? with
  | none=>simp[hk] at hf
  | some f =>
   simp only[hk] at hf
   split at hf
   ·rename_i h1
    simp only[Option.some.injEq] at hf
    subst hf
    have hp:=tR (P:=P) h1 (cs:=⟨cs⟩) (off:=f.offset) (v:=v) (by simpa using hv) w
    simp[execOp,hx,Instr.field,run_underlying hu,hk,asAgg,hp]
   ·cases hf⟩
def jI(l:List Bool):List Value:=l.map .bool
theorem xZ(l:List Bool):(jI l).length=l.length:=by simp[jI]
theorem Wc{l:List Bool}{k:Nat}(h:k<l.length):(jI l)[k]?=some (.bool (l.getD k false)):=by simp[jI,h,List.getD]
theorem Su(k:Nat):made [.bool false] k=jI (List.replicate k false):=by
 refine List.ext_getElem? λ i=>?_
 by_cases hi:i<k
 ·simp[made,madeCells,jI,Array.getElem?_toList,Array.getElem?_map,Array.getElem?_range,hi,Nat.mod_one]
 ·rw[List.getElem?_eq_none (by rw[jU];simp;omega),List.getElem?_eq_none (by simp[jI];omega)]
theorem ld{m k:Nat}{k1 k2:IntKind}(hx:ev S x=.int k1 ((m:Nat):Int))(hy:ev S y=.int k2 ((k:Nat):Int))(he:dL P t e [.bool false])(hmk:m<=k)(hk:k<=1099511627776) :
  bC P S (SF w0 M H A F O) ⟨some d,.makeSlice t x y,ty,pos,af,gd⟩ Nat (λ b=>.slice (some ⟨b,0,none⟩) m k) (λ b=>SF w0 M H A F (⟨some ⟨b,0,none⟩,jI (List.replicate m false),k,e,1⟩::O)) :=
 Vq hx hy he hmk hk (Su m)
theorem nW{lst:List Bool}{kk:IntKind}(hx:ev S x=.slice a m c)(hy:ev S y=.int kk ((k:Nat):Int))(ht:P.underlying t=some (.slice e))(hs:one P e=true)(hf:pK A F O a (jI lst))(h1:k<m)(h2:k<lst.length) :
  aL P S (SF w0 M H A F O) ⟨some d,.indexAddr t x y,ty,pos,af,gd⟩ (.pointer (some ⟨cJ a,eA a+k,none⟩)):=⟨λ w hw =>
 (Ai (G:=SF w0 M H A F O) hx hy ht hs ((hw.cl hf).ptr (by rw[xZ];omega)) h1).run w hw⟩
theorem Ah{lst:List Bool}{q:Nat}(hx:ev S x=.pointer (some ⟨cJ a,eA a+q,none⟩))(ht:one P t=true)(hf:pK A F O a (jI lst))(hq:q<lst.length) :
  aL P S (SF w0 M H A F O) ⟨some d,.load t x,ty,pos,af,gd⟩ (.bool (lst.getD q false)):=nL hx ht (λ w hw=>hw.cl hf) (Wc hq)
theorem Ro(l:List Bool)(k:Nat)(v:Bool):(jI l).set k (.bool v)=jI (l.set k v):=by simp[jI]
theorem av{q:Nat}{l:List Bool}{v:Bool}(hx:ev S x=.pointer (some ⟨cJ p,eA p+q,none⟩))(hy:ev S y=.bool v)(ht:one P t=true)(ho:wV O i p (jI l) c e 1)(hq:q<l.length) :
  bC P S (SF w0 M H A F O) ⟨none,.store t x y,ty,pos,af,gd⟩ Unit (λ _=>undef) (λ _=>SF w0 M H A F (kN O i ⟨p,jI (l.set q v),c,e,1⟩)):=by
 rw[<- Ro]
 exact M0 hx hy rfl ht ho (by rw[xZ];exact hq)
theorem a7(hx:ev S x=.slice a m c)(hy:ev S y=.slice none 0 0)(ht:P.underlying t=some (.slice e)):aL P S G ⟨some d,.binOp .eql t x y t2,ty,pos,af,gd⟩ (.bool a.isNone):=⟨λ w _=>by
 have:=Go.Lib.run_eql_slice_nil (P:=P) w t e a m c 0 0 ht
 simp[execOp,hx,hy,this,eqGuard]⟩
def I3(P:Program)(t:TypeId):Bool:=match P.underlying t with|some (.pointer _)=>true|_=>false
theorem Pu(h:I3 P t=true):P.underlying t=some (.pointer (P.pointee t)):=by
 unfold I3 at h
 cases hu:P.underlying t with
 | none=>simp[hu] at h
 | some dd=>cases dd<;>simp[hu,Program.pointee] at h ⊢
theorem ml{q:Option Addr}(hx:ev S x=.pointer q)(hy:ev S y=.pointer none)(ht:I3 P t=true):aL P S G ⟨some d,.binOp .eql t x y t2,ty,pos,af,gd⟩ (.bool q.isNone):=⟨λ w _=>by
 have:=run_eql_pointer_nil (P:=P) w t q (Pu ht)
 simp[execOp,hx,hy,this,eqGuard]⟩
theorem Um{q:Option Addr}(hx:ev S x=.pointer q)(hy:ev S y=.pointer none)(ht:I3 P t=true):aL P S G ⟨some d,.binOp .neq t x y t2,ty,pos,af,gd⟩ (.bool (!q.isNone)):=⟨λ w _=>by
 have:=run_neq_pointer_nil (P:=P) w t q (Pu ht)
 simp[execOp,hx,hy,this,eqGuard]⟩
end
end

end Go.Ct

/- The engine, part 9: lists of strings and of nodes; tapes. -/
import Derived.Test.YtbajmaoegmbfgaaGreatGLst
import Derived.Test.YtbajmaoegmbfgaaGreatGMem
import Derived.Lib.SliceRun
import Derived.Laws.Pointers

set_option linter.unusedSimpArgs false
set_option linter.unusedVariables false
namespace Go.Ct
section
open Go Go.RowKit
section
variable{P:Program}{n:Nat}{S:List (Nat×Value)}
variable{w0 w w':World}{M:List Nat}{H H':List (Nat×Obj)}{A F F':Fr}{O O':List Ow}{G:World->Prop}
variable{d:Nat}{ty:TypeId}{pos:String}{af:Array Edge}{gd:Option (Nat×Bool)}{dst:Option Nat}{x y z:Operand}{t t2 e:TypeId}{p a:Option Addr}{i m k c c2:Nat}
def Wz(l:List ByteArray):List Value:=l.map Value.string
theorem jb{lst:List ByteArray}{kk:IntKind}(hx:ev S x=.slice a m c)(hy:ev S y=.int kk ((k:Nat):Int))(ht:P.underlying t=some (.slice e))(hs:one P e=true)(hf:qT A F O a (Wz lst))(h1:k<m)(h2:k<lst.length) :
  aM P S (SF w0 M H A F O) ⟨some d,.indexAddr t x y,ty,pos,af,gd⟩ (.pointer (some ⟨cU a,eJ a+k,none⟩)):=⟨λ w hw =>
 (A7 (G:=SF w0 M H A F O) hx hy ht hs ((hw.cl hf).ptr (by simp only[Wz,List.length_map];omega)) h1).run w hw⟩
theorem oy{lst:List ByteArray}{q:Nat}(hx:ev S x=.pointer (some ⟨cU a,eJ a+q,none⟩))(ht:one P t=true)(hf:qT A F O a (Wz lst))(hq:q<lst.length) :
  aM P S (SF w0 M H A F O) ⟨some d,.load t x,ty,pos,af,gd⟩ (.string (lst.getD q ⟨#[]⟩)):=oA hx ht (λ w hw=>hw.cl hf) (by simp[Wz,hq,List.getD])
def Lx(l:List Nd):List Value:=l.flatMap Nd.cells
theorem Dh:∀l:List Nd,(Lx l).length=14*l.length
 | []=>rfl
 | _::r=>by
  have:=Dh r
  simp only[Lx,List.flatMap_cons,List.length_append,List.length_cons] at this ⊢
  rw[this]
  simp only[Nd.cells,List.length_cons,List.length_nil]
  omega
theorem U2:∀{l:List Nd} {k j:Nat},k<l.length->j<14->(Lx l)[14*k+j]?=(l.getD k Nd.zero).cells[j]?
 | [],_,_,h,_=>by simp at h
 | n::r,0,j,_,hj=>by
  simp only[Lx,List.flatMap_cons,Nat.mul_zero,Nat.zero_add,List.getD_cons_zero]
  rw[List.getElem?_append_left (by simp only[Nd.cells,List.length_cons,List.length_nil];omega)]
 | n::r,k+1,j,h,hj=>by
  have:=U2 (l:=r) (k:=k) (j:=j) (by simpa using h) hj
  simp only[Lx,List.flatMap_cons,List.getD_cons_succ] at this ⊢
  rw[List.getElem?_append_right (by simp only[Nd.cells,List.length_cons,List.length_nil];omega),<- this]
  congr 1
  simp only[Nd.cells,List.length_cons,List.length_nil]
  omega
theorem Tw{m c:Nat}{i:Int}{kk:IntKind}(hx:ev S x=.slice a m c)(hy:ev S y=.int kk ((k:Nat):Int))(ht:P.underlying t=some (.slice e))(hs:kH P e 14=true)(ha:a=some ⟨cU a,eJ a,none⟩)(h1:k<m) :
  aM P S G ⟨some d,.indexAddr t x y,ty,pos,af,gd⟩ (.pointer (some ⟨cU a,eJ a+14*k,none⟩)):=⟨λ w _=>by
 obtain⟨_,_,_,hsz⟩:=iU hs
 have:=yE (P:=P) (a:=a) (m:=m) (c:=c) (k:=kk) ht hsz ha (i:=(k:Int)) (by omega) (by omega) w
 simp only[Int.toNat_natCast,Nat.mul_comm k 14] at this
 simp[execOp,hx,hy,this]⟩
theorem gm{lst:List Nd}{kk:IntKind}(hx:ev S x=.slice a m c)(hy:ev S y=.int kk ((k:Nat):Int))(ht:P.underlying t=some (.slice e))(hs:kH P e 14=true)(hf:qT A F O a (Lx lst))(h1:k<m)(h2:k<lst.length) :
  aM P S (SF w0 M H A F O) ⟨some d,.indexAddr t x y,ty,pos,af,gd⟩ (.pointer (some ⟨cU a,eJ a+14*k,none⟩)):=⟨λ w hw =>
 (Tw (i:=0) (G:=SF w0 M H A F O) hx hy ht hs ((hw.cl hf).ptr (by rw[Dh];omega)) h1).run w hw⟩
theorem qo{lst:List Nd}{q:Nat}(hx:ev S x=.pointer (some ⟨cU a,eJ a+14*q,none⟩))(ht:kH P t 14=true)(hf:qT A F O a (Lx lst))(hq:q<lst.length) :
  aM P S (SF w0 M H A F O) ⟨some d,.load t x,ty,pos,af,gd⟩ (lst.getD q Nd.zero).v:=⟨λ w hw=>by
 have hcl:=hw.cl hf
 obtain⟨dd,hu,hm,hi⟩:=iU ht
 have hagg:(isAgg t).run P w=.ok true w:=by
  unfold isAgg
  rw[Sem.run_bind,run_underlying hu w]
  cases dd<;>simp_all
 have hl:(loadCells ⟨cU a,eJ a+14*q,none⟩ 14).run P w=.ok ⟨(lst.getD q Nd.zero).cells⟩ w:=by
  have:=run_loadCells_list (P:=P) w ⟨cU a,eJ a+14*q,none⟩ (lst.getD q Nd.zero).cells (λ j z hz=>by
   have hj:j<14:=(List.getElem?_eq_some_iff.1 hz).1
   rw[Addr.add_lit]
   have h3:=(hcl.at_ (14*q+j) z (by rw[U2 hq hj];exact hz)).2
   rwa [<- Nat.add_assoc] at h3)
  exact this
 cases hq':P.info? t with
 | none=>rw[hq'] at hi;simp at hi
 | some i =>
  have hs:i.size=14:=by rw[hq'] at hi;simpa using hi
  simp[execOp,hx,Instr.loadAt,Instr.sureAddr,loadVar,hagg,Go.sizeOf,typeInfo,hq',hs,hl,Nd.v]⟩
def Xv(v n:Int):Int:=IntKind.i64.wrap ((IntKind.u64.wrap v).tmod (IntKind.u64.wrap n))
def tvN(l:List Int)(k:Nat)(n:Int):Nat:=if k<l.length then(Xv (l.getD k 0) n).toNat else 0
def oC(l:List Int)(k:Nat):Nat:=if k<l.length then k+1 else k
theorem wrap_u64(i:Int):IntKind.u64.wrap i=i%18446744073709551616:=by
 simp[IntKind.wrap,IntKind.signed,IntKind.bits]
theorem Tl{v n:Int}(h0:0<n)(h1:n<=9223372036854775807):0<=Xv v n/\Xv v n<n:=by
 unfold Xv
 rw[wrap_u64,wrap_u64,Int.emod_eq_of_lt (a:=n) (by omega) (by omega)]
 have h2:=Int.emod_nonneg v (show(18446744073709551616:Int)≠0 by decide)
 have h3:=Int.tmod_lt_of_pos (v%18446744073709551616) h0
 have h4:=Int.tmod_nonneg n h2
 rw[wrap_i64 (by omega) (by omega)]
 exact⟨h4,h3⟩
def my(T:TypeId)(a:Option Addr)(l:List Int)(c k:Nat):Obj:=.cells ⟨[.slice a l.length c,.int .i64 ((k:Nat):Int)]⟩ T (0,0)
structure Mr(w:World)(T:TypeId)(b:Nat)(a:Option Addr)(l:List Int)(c k:Nat):Prop where
 obj:w.heap[b]?=some (my T a l c k)
 cl:Cl w a (aH l)
 ne:aH l≠[]->cU a≠b
 len:l.length<=17592186043904
theorem SF.tape(h:SF w0 M H A F O w){T b l}(ha:At H i b (my T a l c k))(hf:qT A F [] a (aH l))(hl:l.length<=17592186043904):Mr w T b a l c k:=by
 refine⟨h.st.at ha,?_,λ hc e=>h.apart hf hc (e▸List.mem_append_left _ (List.mem_map.2 ⟨_,ha.mem,rfl⟩)),hl⟩
 cases hf with
 | bA h1=>exact h.cl (.bA h1)
 | new h1=>exact h.cl (.new h1)
 | own h1=>cases h1
 | hdr h1 _=>cases h1
theorem Mr.start{T b l}(h:Mr w T b a l c k):SF w [b] [(b,.cells ⟨[.slice a l.length c,.int .i64 ((k:Nat):Int)]⟩ T (0,0))] [(a,aH l)] [] [] w:=by
 refine⟨⟨rfl,rfl,rfl,Nat.le_refl _,λ _ _ _=>rfl,λ p hp=>?_,λ p hp=>?_,by simp⟩,λ f hf=>?_,λ _ h=>(List.not_mem_nil h).elim,λ _ h=>(List.not_mem_nil h).elim,by simp[Ks]⟩
 ·simp only[List.mem_singleton] at hp
  subst hp
  exact h.obj
 ·simp only[List.mem_singleton] at hp
  subst hp
  exact .inl (by simp)
 ·simp only[List.mem_singleton] at hf
  subst hf
  exact⟨h.cl,λ hc=>by simp only[Ks,List.map_cons,List.map_nil,List.flatMap_nil,List.append_nil,List.mem_singleton];exact h.ne hc⟩
end
end

/- The engine, part 10b: lists of nodes, each with its own lists. -/
section
open Go Go.RowKit
section
variable{w0 w w':World}{M:List Nat}{H:List (Nat×Obj)}{A F:Fr}{O:List Ow}
structure aP where
 nd:Nd
 xs:List Int
 ys:List Pr
structure Nv where
 kind:Int
 gen:Int
 main:Int
 bm:Int
 xs:List Int
 hash:Int
 key:ByteArray
 val:Int
 ys:List Pr
 prev:Int
 bA:Int
 exp:Int
 new:Int
 status:Int
def Nd.c(n:Nd)(xs:List Int)(ys:List Pr):Nv:=⟨n.kind,n.gen,n.main,n.bm,xs,n.hash,n.key,n.val,ys,n.prev,n.bA,n.exp,n.new,n.status⟩
def aP.c(v:aP):Nv:=v.nd.c v.xs v.ys
theorem A2{a b:Nd}{x1 x2:List Int}{y1 y2:List Pr}:sG a b x1 x2 y1 y2↔a.c x1 y1=b.c x2 y2:=by simp[sG,Nd.c]
def aP.fr(v:aP):Fr:=[(v.nd.brA,aH v.xs),(v.nd.prA,cZ v.ys)]
def aP.zero:aP:=⟨Nd.zero,[],[]⟩
def aL(L:List aP):Fr:=L.flatMap aP.fr
def iO(L:List aP):List Value:=L.flatMap (·.nd.cells)
theorem Vu(L:List aP):iO L=Lx (L.map (·.nd)):=by simp[iO,Lx,List.flatMap_map]
theorem pq{L:List aP}{k:Nat}:(L.map (·.nd)).getD k Nd.zero=(L.getD k aP.zero).nd:=by
 rw[jN,jN,List.getElem?_map]
 cases L[k]?<;>rfl
theorem jD(n:Nd):n.cells.length=14:=rfl
theorem Hb(a b:List aP):iO (a++b)=iO a++iO b:=by simp[iO]
theorem oh(v:aP):iO [v]=v.nd.cells:=by simp[iO]
theorem kD(a:List aP)(v:aP):iO (a++[v])=iO a++v.nd.cells:=by rw[Hb,oh]
theorem dE(a b:List aP):aL (a++b)=aL a++aL b:=by simp[aL]
theorem dY:∀L:List aP,(iO L).length=L.length*14
 | []=>rfl
 | v::L=>by
  have:=dY L
  simp only[iO,List.flatMap_cons,List.length_append,jD,List.length_cons] at this ⊢
  omega
theorem ad:∀{L:List aP} {k j:Nat} {v:Value},k<L.length->(L.getD k aP.zero).nd.cells[j]?=some v->(iO L)[14*k+j]?=some v
 | v::L,0,j,u,_,hj=>by
  have hlt:j<14:=by
   have:=(List.getElem?_eq_some_iff.1 hj).1
   simpa[jD] using this
  simp only[iO,List.flatMap_cons,Nat.mul_zero,Nat.zero_add]
  rw[List.getElem?_append_left (by rw[jD];exact hlt)]
  simpa using hj
 | v::L,k+1,j,u,hk,hj=>by
  simp only[iO,List.flatMap_cons]
  rw[List.getElem?_append_right (by rw[jD];omega),jD,show 14*(k+1)+j-14=14*k+j by omega]
  exact ad (L:=L) (by simpa using hk) (by simpa using hj)
theorem Dv(n:Nd):n.cells.all (·.oneCell')=true:=rfl
theorem Ak:∀L:List aP,(iO L).all (·.oneCell')=true
 | []=>rfl
 | v::L=>by
  have:=Ak L
  simp only[iO,List.flatMap_cons,List.all_append,Bool.and_eq_true] at this ⊢
  exact⟨Dv _,this⟩
theorem sP{L:List aP}{f:Option Addr×List Value}:f∈aL L↔∃v∈L,f∈v.fr:=by simp[aL]
theorem fY{L:List aP}{k:Nat}(hk:k<L.length):L.getD k aP.zero∈L:=by
 rw[jN,List.getElem?_eq_getElem hk];exact List.getElem_mem hk
theorem E3{L:List aP}{k:Nat}(hk:k<L.length):((L.getD k aP.zero).nd.brA,aH (L.getD k aP.zero).xs)∈aL L:=sP.2 ⟨_,fY hk,by simp[aP.fr]⟩
theorem Eu{L:List aP}{k:Nat}(hk:k<L.length):((L.getD k aP.zero).nd.prA,cZ (L.getD k aP.zero).ys)∈aL L:=sP.2 ⟨_,fY hk,by simp[aP.fr]⟩
structure aP.Fit(v:aP):Prop where
 brN:v.nd.brN=v.xs.length
 prN:v.nd.prN=v.ys.length
 brS:v.xs.length<=35184372088832
 prS:v.ys.length<=11728124029610
theorem aP.Fit.sF{v:aP}(h:v.Fit){w:World}(hb:Cl w v.nd.brA (aH v.xs))(hp:Cl w v.nd.prA (cZ v.ys)):sE w v.nd v.xs v.ys :=
 ⟨h.brN,h.prN,hb,hp,by have:=h.brS;omega,by have:=h.prS;omega⟩
def Fits(L:List aP):Prop:=∀v∈L,v.Fit
theorem Fits.at{L:List aP}(h:Fits L){k:Nat}(hk:k<L.length):(L.getD k aP.zero).Fit:=h _ (fY hk)
theorem P7:aP.zero.Fit:=⟨rfl,rfl,by decide,by decide⟩
structure qV(w:World)(L:List aP)(cs:List Int)(pn pc:Option Addr):Prop where
 nds:Cl w pn (iO L)
 cls:Cl w pc (aH cs)
 fam:∀f∈aL L,Cl w f.1 f.2
 fit:Fits L
theorem qV.start{w:World}{L:List aP}{cs:List Int}{pn pc:Option Addr}(h:qV w L cs pn pc):SF w [] [] ((pn,iO L)::(pc,aH cs)::aL L) [] [] w:=SF.begin λ f hf=>by
 rcases List.mem_cons.1 hf with rfl|hf
 ·exact h.nds
 rcases List.mem_cons.1 hf with rfl|hf
 ·exact h.cls
 ·exact h.fam f hf
theorem SF.Qh{L:List aP}{f1 f2:Option Addr×List Value}(h:SF w0 M H (f1::f2::aL L) F O w)(hfit:Fits L){k:Nat}(hk:k<L.length):sE w (L.getD k aP.zero).nd (L.getD k aP.zero).xs (L.getD k aP.zero).ys :=
 (hfit.at hk).sF (h.bA _ (List.mem_cons_of_mem _ (List.mem_cons_of_mem _ (E3 hk)))).1 (h.bA _ (List.mem_cons_of_mem _ (List.mem_cons_of_mem _ (Eu hk)))).1
theorem SF.aA5{L:List aP}(h:SF w0 M H (aL L) F O w)(hfit:Fits L){k:Nat}(hk:k<L.length):sE w (L.getD k aP.zero).nd (L.getD k aP.zero).xs (L.getD k aP.zero).ys :=
 (hfit.at hk).sF (h.bA _ (E3 hk)).1 (h.bA _ (Eu hk)).1
theorem SF.aCi{L:List aP}(h:SF w0 M H A F O w)(hF:∀f∈aL L,f.2=[]∨f∈A∨f∈F)(hfit:Fits L){v:aP}(hv:v∈L):sE w v.nd v.xs v.ys:=by
 have key:∀f∈aL L,Cl w f.1 f.2:=λ f hf=>by
  rcases hF f hf with h0|h1|h1
  ·rw[h0];exact Cl.nil _ _
  ·exact(h.bA f h1).1
  ·exact(h.new f h1).1
 exact(hfit v hv).sF (key (v.nd.brA,aH v.xs) (sP.2 ⟨v,hv,by simp[aP.fr]⟩)) (key (v.nd.prA,cZ v.ys) (sP.2 ⟨v,hv,by simp[aP.fr]⟩))
variable{P:Program}{S:List (Nat×Value)}{G:World->Prop}{d:Nat}{ty:TypeId}{pos:String}{af:Array Edge}{gd:Option (Nat×Bool)}{x y:Operand}{t t2 e:TypeId}{p a:Option Addr}{i m k c c2:Nat}
theorem sN{L:List aP}{kk:IntKind}(hx:ev S x=.slice a m c)(hy:ev S y=.int kk ((k:Nat):Int))(ht:P.underlying t=some (.slice e))(hs:kH P e 14=true)(hf:qT A F O a (iO L))(h1:k<m)(h2:k<L.length) :
  aM P S (SF w0 M H A F O) ⟨some d,.indexAddr t x y,ty,pos,af,gd⟩ (.pointer (some ⟨cU a,eJ a+14*k,none⟩)):=gm (lst:=L.map (·.nd)) hx hy ht hs (by rw[<- Vu];exact hf) h1 (by simpa using h2)
theorem Xc{L:List aP}{q:Nat}(hx:ev S x=.pointer (some ⟨cU a,eJ a+14*q,none⟩))(ht:kH P t 14=true)(hf:qT A F O a (iO L))(hq:q<L.length) :
  aM P S (SF w0 M H A F O) ⟨some d,.load t x,ty,pos,af,gd⟩ (L.getD q aP.zero).nd.v:=by
 have:=qo (P:=P) (S:=S) (w0:=w0) (M:=M) (H:=H) (A:=A) (F:=F) (O:=O) (d:=d) (ty:=ty) (pos:=pos) (af:=af) (gd:=gd) (lst:=L.map (·.nd)) hx ht (by rw[<- Vu];exact hf) (by simpa using hq)
 rwa [pq] at this
theorem xG{L:List aP}{q:Nat}(hx:ev S x=.pointer (some ⟨cU a,eJ a+14*q,none⟩))(ht:one P t=true)(hf:qT A F O a (iO L))(hq:q<L.length) :
  aM P S (SF w0 M H A F O) ⟨some d,.load t x,ty,pos,af,gd⟩ (.int .i64 (L.getD q aP.zero).nd.kind):=oA (q:=14*q) hx ht (λ w hw=>hw.cl hf) (ad (j:=0) hq rfl)
theorem Uv{L:List aP}{zc:List Value}(v:aP)(hx:ev S x=.slice p m c)(hy:ev S y=.slice a 1 c2)(ho:xN O i p (iO L) c e 14)(hm:L.length=m)(hf:qT A F O a v.nd.cells)
  (he:dM P t e zc) (hz:zc.length=14) (ht2:P.underlying t2=some (.slice e)) (hb:m+1<=549755813888) :
  bG P S (SF w0 M H A F O) ⟨some d,.call {callee:=.builtin .append,args := #[x,y],argTypes := #[t,t2]},ty,pos,af,gd⟩ (Option Addr×Nat) (λ q=>.slice q.1 (m+1) q.2)
   (λ q w=>m+1<=q.2/\SF w0 M H A F (kZ O i ⟨q.1,iO (L++[v]),q.2,e,14⟩) w):=by
 rw[kD]
 exact fV hx hy ho (by rw[dY,hm]) hf (by simp[Nd.cells]) (Dv _) he hz (by decide) ht2 hb
theorem fx{L L2:List aP}{zc:List Value}(hx:ev S x=.slice p m c)(hy:ev S y=.slice a k c2)(ho:xN O i p (iO L) c e 14)(hm:L.length=m)(hf:qT A F O a (iO L2))(hk:L2.length=k)
  (he:dM P t e zc) (hz:zc.length=14) (ht2:P.underlying t2=some (.slice e)) (hb:m+k<=549755813888) :
  bG P S (SF w0 M H A F O) ⟨some d,.call {callee:=.builtin .append,args := #[x,y],argTypes := #[t,t2]},ty,pos,af,gd⟩ (Option Addr×Nat) (λ q=>.slice q.1 (m+k) q.2)
   (λ q w=>m+k<=q.2/\SF w0 M H A F (kZ O i ⟨q.1,iO (L++L2),q.2,e,14⟩) w):=by
 rw[Hb]
 exact fV hx hy ho (by rw[dY,hm]) hf (by rw[dY,hk]) (Ak _) he hz (by decide) ht2 hb
theorem uj{k:Nat}{k1 k2:IntKind}{zc:List Value}(hx:ev S x=.int k1 0)(hy:ev S y=.int k2 ((k:Nat):Int))(he:dM P t e zc)(hz:zc.length=14)(hk:k<=1099511627776) :
  bG P S (SF w0 M H A F O) ⟨some d,.makeSlice t x y,ty,pos,af,gd⟩ Nat (λ b=>.slice (some ⟨b,0,none⟩) 0 k) (λ b=>SF w0 M H A F (⟨some ⟨b,0,none⟩,iO [],k,e,14⟩::O)):=by
 have:=Wu (P:=P) (S:=S) (w0:=w0) (M:=M) (H:=H) (A:=A) (F:=F) (O:=O) (d:=d) (ty:=ty) (pos:=pos) (af:=af) (gd:=gd) (m:=0) (k:=k) (k1:=k1) (k2:=k2) (x:=x) (y:=y) (cs:=iO []) (by simpa using hx) hy he (Nat.zero_le _) hk (List.eq_nil_of_length_eq_zero (by rw[kB];simp))
 rwa [hz] at this
section
variable{m n:Nat}{t':TypeId}
theorem oW(hx:ev S x=.int .i64 ((m:Nat):Int))(hy:ev S y=.int .i64 ((n:Nat):Int))(h:m+n<=9223372036854775807) :
  aM P S G ⟨some d,.binOp .add t x y t',ty,pos,af,gd⟩ (.int .i64 ((m+n:Nat):Int)):=by
 have:=nG (P:=P) (G:=G) (d:=d) (ty:=ty) (pos:=pos) (af:=af) (gd:=gd) (t:=t) (t':=t') hx hy
 rw[wrap_i64 (by omega) (by omega)] at this
 rw[Int.natCast_add]
 exact this
theorem jR(hx:ev S x=.int .i64 ((m:Nat):Int))(hy:ev S y=.int .i64 ((n:Nat):Int))(h:n<=m)(h2:m<=9223372036854775807) :
  aM P S G ⟨some d,.binOp .sub t x y t',ty,pos,af,gd⟩ (.int .i64 ((m-n:Nat):Int)):=by
 have:=Qn (P:=P) (G:=G) (d:=d) (ty:=ty) (pos:=pos) (af:=af) (gd:=gd) (t:=t) (t':=t') hx hy
 rw[wrap_i64 (by omega) (by omega)] at this
 rw[Int.natCast_sub h]
 exact this
end
theorem jO{P:Program}{S:List (Nat×Value)}{G:World->Prop}{d:Nat}{ty:TypeId}{pos:String}{af:Array Edge}{gd:Option (Nat×Bool)}{x:Operand}{vs:List Value}{k:Nat}{v:Value}(hx:ev S x=.tuple ⟨vs⟩)(hk:vs[k]?=some v):aM P S G ⟨some d,.extract x k,ty,pos,af,gd⟩ v:=⟨λ w _=>by
 simp[execOp,hx,Instr.extract,hk]⟩
theorem L3{a:Int}(hx:ev S x=.int .i64 a)(hy:ev S y=.int .i64 1)(h:1<=a)(h2:a<=9223372036854775807):aM P S G ⟨some d,.binOp .sub t x y t2,ty,pos,af,gd⟩ (.int .i64 (((a-1).toNat:Nat):Int)):=by
 have:=Un (P:=P) (G:=G) (d:=d) (ty:=ty) (pos:=pos) (af:=af) (gd:=gd) (t:=t) (t':=t2) hx hy (by omega)
 rwa [show a-1=(((a-1).toNat:Nat):Int) by omega] at this
theorem P4:∀(L:List aP) (k:Nat),(iO L).drop (k*14)=iO (L.drop k)
 | [],k=>by simp[iO]
 | v::L,0=>by simp
 | v::L,k+1=>by
  have:=P4 L k
  rw[List.drop_succ_cons,<- this]
  show(v.nd.cells++iO L).drop ((k+1)*14)=_
  rw[List.drop_append,List.drop_eq_nil_of_le (by rw[jD];omega),jD,List.nil_append]
  congr 1
  omega
theorem n8{L:List aP}(hx:ev S x=.slice a m c)(hy:ev S y=.int .i64 ((k:Nat):Int))(ht:P.underlying t=some (.slice e))(hs:(P.info? e).map (·.size)=some 14)(hk:k<=m)(hf:qT A F [] a (iO L))(hmc:m<=c)(hl:L.length=m) :
  bG P S (SF w0 M H A F O) ⟨some d,.slice t x (some y) none none,ty,pos,af,gd⟩ (Option Addr) (λ p=>.slice p (m-k) (c-k)) (λ p=>SF w0 M H ((p,iO (L.drop k))::A) F O):=by
 have:=tu (P:=P) (w0:=w0) (M:=M) (H:=H) (O:=O) (d:=d) (ty:=ty) (pos:=pos) (af:=af) (gd:=gd) hx hy ht hs hk hf hmc (by rw[dY,hl])
 rw[P4] at this
 exact this
theorem SF.xh(h:SF w0 M H A F O w){L:List aP}{T:TypeId}(ho:xN O i p (iO L) c T 14):L.length<=c:=by
 rcases(h.own _ ho.mem).1 with⟨_,h2,_⟩|⟨b,rest,_,_,h3⟩
 ·have h2':iO L=[]:=h2
  have:(iO L).length=0:=by rw[h2'];rfl
  rw[dY] at this
  omega
 ·have h3':(iO L++rest).length=c*14:=h3
  rw[List.length_append,dY] at h3'
  omega
theorem aR{b off:Nat}{cs vs:List Value}{T:TypeId}(hx:ev S x=.pointer (some ⟨b,off,none⟩))(ha:At H i b (.cells ⟨cs⟩ T (0,0)))(ht:kH P t k=true)(hv:(cs.drop off).take k=vs)(hl:vs.length=k) :
  aM P S (SF w0 M H A F O) ⟨some d,.load t x,ty,pos,af,gd⟩ (.agg ⟨vs⟩):=⟨λ w hw=>by
 have hb:=hw.st.at ha
 have hcl:Cl w (some ⟨b,0,none⟩) cs:=Cl.block (pre:=[]) (rest:=[]) (by simpa using hb) rfl
 obtain⟨dd,hu,hm,hi⟩:=iU ht
 have hagg:(isAgg t).run P w=.ok true w:=by
  unfold isAgg
  rw[Sem.run_bind,run_underlying hu w]
  cases dd<;>simp_all
 have hlc:(loadCells ⟨b,off,none⟩ k).run P w=.ok ⟨vs⟩ w:=by
  have:=run_loadCells_list (P:=P) w ⟨b,off,none⟩ vs (λ j z hz=>by
   rw[Addr.add_lit]
   have hj:j<k:=by rw[<- hl];exact(List.getElem?_eq_some_iff.1 hz).1
   have h1:cs[off+j]?=some z:=by
    rw[<- hv,List.getElem?_take,if_pos hj,List.getElem?_drop] at hz
    exact hz
   have h3:=(hcl.at_ (off+j) z h1).2
   simpa[cU,eJ] using h3)
  rwa [hl] at this
 cases hq':P.info? t with
 | none=>rw[hq'] at hi;simp at hi
 | some inf =>
  have hs:inf.size=k:=by rw[hq'] at hi;simpa using hi
  simp[execOp,hx,Instr.loadAt,Instr.sureAddr,loadVar,hagg,Go.sizeOf,typeInfo,hq',hs,hlc]⟩
def Bn(P:Program)(t:TypeId)(k:Nat):Option Nat :=
 match P.underlying t with
 | some (.struct fs)=>match fs[k]? with
  | some f=>if one P f.type then some f.offset else none
  | none=>none
 | _=>none
theorem Wb{cs:List Value}{off:Nat}{v:Value}(hx:ev S x=.agg ⟨cs⟩)(hf:Bn P t k=some off)(hv:cs[off]?=some v):aM P S G ⟨some d,.field t x k,ty,pos,af,gd⟩ v:=⟨λ w _=>by
 unfold Bn at hf
 cases hu:P.underlying t with
 | none=>simp[hu] at hf
 | some dd =>
  cases dd<;>simp[hu] at hf
  rename_i fs
  cases hk:fs[k]? with
  | none=>simp[hk] at hf
  | some f =>
   simp only[hk] at hf
   split at hf
   ·rename_i h1
    simp only[Option.some.injEq] at hf
    subst hf
    have hp:=tV (P:=P) h1 (cs:=⟨cs⟩) (off:=f.offset) (v:=v) (by simpa using hv) w
    simp[execOp,hx,Instr.field,run_underlying hu,hk,asAgg,hp]
   ·cases hf⟩
def jS(l:List Bool):List Value:=l.map .bool
theorem zH(l:List Bool):(jS l).length=l.length:=by simp[jS]
theorem Xm{l:List Bool}{k:Nat}(h:k<l.length):(jS l)[k]?=some (.bool (l.getD k false)):=by simp[jS,h,List.getD]
theorem Tt(k:Nat):made [.bool false] k=jS (List.replicate k false):=by
 refine List.ext_getElem? λ i=>?_
 by_cases hi:i<k
 ·simp[made,madeCells,jS,Array.getElem?_toList,Array.getElem?_map,Array.getElem?_range,hi,Nat.mod_one]
 ·rw[List.getElem?_eq_none (by rw[kB];simp;omega),List.getElem?_eq_none (by simp[jS];omega)]
theorem py{m k:Nat}{k1 k2:IntKind}(hx:ev S x=.int k1 ((m:Nat):Int))(hy:ev S y=.int k2 ((k:Nat):Int))(he:dM P t e [.bool false])(hmk:m<=k)(hk:k<=1099511627776) :
  bG P S (SF w0 M H A F O) ⟨some d,.makeSlice t x y,ty,pos,af,gd⟩ Nat (λ b=>.slice (some ⟨b,0,none⟩) m k) (λ b=>SF w0 M H A F (⟨some ⟨b,0,none⟩,jS (List.replicate m false),k,e,1⟩::O)) :=
 Wu hx hy he hmk hk (Tt m)
theorem oU{lst:List Bool}{kk:IntKind}(hx:ev S x=.slice a m c)(hy:ev S y=.int kk ((k:Nat):Int))(ht:P.underlying t=some (.slice e))(hs:one P e=true)(hf:qT A F O a (jS lst))(h1:k<m)(h2:k<lst.length) :
  aM P S (SF w0 M H A F O) ⟨some d,.indexAddr t x y,ty,pos,af,gd⟩ (.pointer (some ⟨cU a,eJ a+k,none⟩)):=⟨λ w hw =>
 (A7 (G:=SF w0 M H A F O) hx hy ht hs ((hw.cl hf).ptr (by rw[zH];omega)) h1).run w hw⟩
theorem Bj{lst:List Bool}{q:Nat}(hx:ev S x=.pointer (some ⟨cU a,eJ a+q,none⟩))(ht:one P t=true)(hf:qT A F O a (jS lst))(hq:q<lst.length) :
  aM P S (SF w0 M H A F O) ⟨some d,.load t x,ty,pos,af,gd⟩ (.bool (lst.getD q false)):=oA hx ht (λ w hw=>hw.cl hf) (Xm hq)
theorem Tn(l:List Bool)(k:Nat)(v:Bool):(jS l).set k (.bool v)=jS (l.set k v):=by simp[jS]
theorem av{q:Nat}{l:List Bool}{v:Bool}(hx:ev S x=.pointer (some ⟨cU p,eJ p+q,none⟩))(hy:ev S y=.bool v)(ht:one P t=true)(ho:xN O i p (jS l) c e 1)(hq:q<l.length) :
  bG P S (SF w0 M H A F O) ⟨none,.store t x y,ty,pos,af,gd⟩ Unit (λ _=>undef) (λ _=>SF w0 M H A F (kZ O i ⟨p,jS (l.set q v),c,e,1⟩)):=by
 rw[<- Tn]
 exact N4 hx hy rfl ht ho (by rw[zH];exact hq)
theorem mw(hx:ev S x=.slice a m c)(hy:ev S y=.slice none 0 0)(ht:P.underlying t=some (.slice e)):aM P S G ⟨some d,.binOp .eql t x y t2,ty,pos,af,gd⟩ (.bool a.isNone):=⟨λ w _=>by
 have:=Go.Lib.run_eql_slice_nil (P:=P) w t e a m c 0 0 ht
 simp[execOp,hx,hy,this,eqGuard]⟩
def Kr(P:Program)(t:TypeId):Bool:=match P.underlying t with|some (.pointer _)=>true|_=>false
theorem Pa(h:Kr P t=true):P.underlying t=some (.pointer (P.pointee t)):=by
 unfold Kr at h
 cases hu:P.underlying t with
 | none=>simp[hu] at h
 | some dd=>cases dd<;>simp[hu,Program.pointee] at h ⊢
theorem rv{q:Option Addr}(hx:ev S x=.pointer q)(hy:ev S y=.pointer none)(ht:Kr P t=true):aM P S G ⟨some d,.binOp .eql t x y t2,ty,pos,af,gd⟩ (.bool q.isNone):=⟨λ w _=>by
 have:=run_eql_pointer_nil (P:=P) w t q (Pa ht)
 simp[execOp,hx,hy,this,eqGuard]⟩
theorem Vl{q:Option Addr}(hx:ev S x=.pointer q)(hy:ev S y=.pointer none)(ht:Kr P t=true):aM P S G ⟨some d,.binOp .neq t x y t2,ty,pos,af,gd⟩ (.bool (!q.isNone)):=⟨λ w _=>by
 have:=run_neq_pointer_nil (P:=P) w t q (Pa ht)
 simp[execOp,hx,hy,this,eqGuard]⟩
end
end

end Go.Ct

/- Merged. -/
import Derived.Test.YtbajmaoegmbfgaaGreatGFz
import Derived.Test.YtbajmaoegmbfgaaGreatGFun
import Derived.Lib.SliceRun
import Derived.Laws.Pointers
import Derived.Test.YtbajmaoegmbfgaaGreatProg
set_option linter.unusedSimpArgs false
set_option linter.unusedVariables false
namespace Go.Ct
open Go Go.RowKit
section
section
variable{P:Program}{n:Nat}{S:List (Nat×Value)}
variable{w0 w w':World}{M:List Nat}{H H':List (Nat×Obj)}{A F F':Fr}{O O':List Ow}{G:World->Prop}
variable{d:Nat}{ty:TypeId}{pos:String}{af:Array Edge}{gd:Option (Nat×Bool)}{dst:Option Nat}{x y z:Operand}{t t2 e:TypeId}{p a:Option Addr}{i m k c c2:Nat}
def V9(l:List ByteArray):List Value:=l.map Value.string
theorem rq{lst:List ByteArray}{kk:IntKind}(hx:ev S x=.slice a m c)(hy:ev S y=.int kk ((k:Nat):Int))(ht:P.underlying t=some (.slice e))(hs:one P e=true)(hf:sD A F O a (V9 lst))(h1:k<m)(h2:k<lst.length) :
  aM P S (SF w0 M H A F O) ⟨some d,.indexAddr t x y,ty,pos,af,gd⟩ (.pointer (some ⟨dG a,eO a+k,none⟩)):=⟨λ w hw =>
 (A8 (G:=SF w0 M H A F O) hx hy ht hs ((hw.cl hf).ptr (by simp only[V9,List.length_map];omega)) h1).run w hw⟩
theorem yn{lst:List ByteArray}{q:Nat}(hx:ev S x=.pointer (some ⟨dG a,eO a+q,none⟩))(ht:one P t=true)(hf:sD A F O a (V9 lst))(hq:q<lst.length) :
  aM P S (SF w0 M H A F O) ⟨some d,.load t x,ty,pos,af,gd⟩ (.string (lst.getD q ⟨#[]⟩)):=qF hx ht (λ w hw=>hw.cl hf) (by simp[V9,hq,List.getD])
def No(l:List Nd):List Value:=l.flatMap Nd.cells
theorem Ea:∀l:List Nd,(No l).length=14*l.length
 | []=>rfl
 | _::r=>by have:=Ea r;simp only[No,List.flatMap_cons,List.length_append,List.length_cons] at this ⊢;rw[this];simp only[Nd.cells,List.length_cons,List.length_nil];omega
theorem Xs:∀{l:List Nd} {k j:Nat},k<l.length->j<14->(No l)[14*k+j]?=(l.getD k Nd.zero).cells[j]?
 | [],_,_,h,_=>by simp at h
 | n::r,0,j,_,hj=>by
  simp only[No,List.flatMap_cons,Nat.mul_zero,Nat.zero_add,List.getD_cons_zero]
  rw[List.getElem?_append_left (by simp only[Nd.cells,List.length_cons,List.length_nil];omega)]
 | n::r,k+1,j,h,hj=>by
  have:=Xs (l:=r) (k:=k) (j:=j) (by simpa using h) hj
  simp only[No,List.flatMap_cons,List.getD_cons_succ] at this ⊢
  rw[List.getElem?_append_right (by simp only[Nd.cells,List.length_cons,List.length_nil];omega),<- this]
  congr 1
  simp only[Nd.cells,List.length_cons,List.length_nil]
  omega
theorem V7{m c:Nat}{i:Int}{kk:IntKind}(hx:ev S x=.slice a m c)(hy:ev S y=.int kk ((k:Nat):Int))(ht:P.underlying t=some (.slice e))(hs:kC P e 14=true)(ha:a=some ⟨dG a,eO a,none⟩)(h1:k<m) :
  aM P S G ⟨some d,.indexAddr t x y,ty,pos,af,gd⟩ (.pointer (some ⟨dG a,eO a+14*k,none⟩)):=⟨λ w _=>by obtain⟨_,_,_,hsz⟩:=jA hs;have:=Dx (P:=P) (a:=a) (m:=m) (c:=c) (k:=kk) ht hsz ha (i:=(k:Int)) (by omega) (by omega) w;simp only[Int.toNat_natCast,Nat.mul_comm k 14] at this;simp[execOp,hx,hy,this]⟩
theorem qg{lst:List Nd}{kk:IntKind}(hx:ev S x=.slice a m c)(hy:ev S y=.int kk ((k:Nat):Int))(ht:P.underlying t=some (.slice e))(hs:kC P e 14=true)(hf:sD A F O a (No lst))(h1:k<m)(h2:k<lst.length) :
  aM P S (SF w0 M H A F O) ⟨some d,.indexAddr t x y,ty,pos,af,gd⟩ (.pointer (some ⟨dG a,eO a+14*k,none⟩)):=⟨λ w hw =>
 (V7 (i:=0) (G:=SF w0 M H A F O) hx hy ht hs ((hw.cl hf).ptr (by rw[Ea];omega)) h1).run w hw⟩
theorem y9{lst:List Nd}{q:Nat}(hx:ev S x=.pointer (some ⟨dG a,eO a+14*q,none⟩))(ht:kC P t 14=true)(hf:sD A F O a (No lst))(hq:q<lst.length) :
  aM P S (SF w0 M H A F O) ⟨some d,.load t x,ty,pos,af,gd⟩ (lst.getD q Nd.zero).v:=⟨λ w hw=>by
 have hcl:=hw.cl hf;obtain⟨dd,hu,hm,hi⟩:=jA ht;have hagg:(isAgg t).run P w=.ok true w:=by unfold isAgg;rw[Sem.run_bind,run_underlying hu w];cases dd<;>simp_all
 have hl:(loadCells ⟨dG a,eO a+14*q,none⟩ 14).run P w=.ok ⟨(lst.getD q Nd.zero).cells⟩ w:=by
  have:=run_loadCells_list (P:=P) w ⟨dG a,eO a+14*q,none⟩ (lst.getD q Nd.zero).cells (λ j z hz=>by have hj:j<14:=(List.getElem?_eq_some_iff.1 hz).1;rw[Addr.add_lit];have h3:=(hcl.at_ (14*q+j) z (by rw[Xs hq hj];exact hz)).2;rwa [<- Nat.add_assoc] at h3)
  exact this
 cases hq':P.info? t with
 | none=>rw[hq'] at hi;simp at hi
 | some i=>
  have hs:i.size=14:=by rw[hq'] at hi;simpa using hi
  simp[execOp,hx,Instr.loadAt,Instr.sureAddr,loadVar,hagg,Go.sizeOf,typeInfo,hq',hs,hl,Nd.v]⟩
def ah(v n:Int):Int:=IntKind.i64.wrap ((IntKind.u64.wrap v).tmod (IntKind.u64.wrap n))
def tvN(l:List Int)(k:Nat)(n:Int):Nat:=if k<l.length then(ah (l.getD k 0) n).toNat else 0
def pN(l:List Int)(k:Nat):Nat:=if k<l.length then k+1 else k
theorem wrap_u64(i:Int):IntKind.u64.wrap i=i%18446744073709551616:=by simp[IntKind.wrap,IntKind.signed,IntKind.bits]
theorem Vr{v n:Int}(h0:0<n)(h1:n<=9223372036854775807):0<=ah v n/\ah v n<n:=by unfold ah;rw[wrap_u64,wrap_u64,Int.emod_eq_of_lt (a:=n) (by omega) (by omega)];have h2:=Int.emod_nonneg v (show(18446744073709551616:Int)≠0 by decide);have h3:=Int.tmod_lt_of_pos (v%18446744073709551616) h0;have h4:=Int.tmod_nonneg n h2;rw[wrap_i64 (by omega) (by omega)];exact⟨h4,h3⟩
def ng(T:TypeId)(a:Option Addr)(l:List Int)(c k:Nat):Obj:=.cells ⟨[.slice a l.length c,.int .i64 ((k:Nat):Int)]⟩ T (0,0)
structure Nb(w:World)(T:TypeId)(b:Nat)(a:Option Addr)(l:List Int)(c k:Nat):Prop where
 obj:w.heap[b]?=some (ng T a l c k)
 cl:Cl w a (aH l)
 ne:aH l≠[]->dG a≠b
 len:l.length<=17592186043904
theorem SF.tape(h:SF w0 M H A F O w){T b l}(ha:At H i b (ng T a l c k))(hf:sD A F [] a (aH l))(hl:l.length<=17592186043904):Nb w T b a l c k:=by
 refine⟨h.st.at ha,?_,λ hc e=>h.apart hf hc (e▸List.mem_append_left _ (List.mem_map.2 ⟨_,ha.mem,rfl⟩)),hl⟩;cases hf with
 | bS h1=>exact h.cl (.bS h1)
 | new h1=>exact h.cl (.new h1)
 | own h1=>cases h1
 | hdr h1 _=>cases h1
theorem Nb.start{T b l}(h:Nb w T b a l c k):SF w [b] [(b,.cells ⟨[.slice a l.length c,.int .i64 ((k:Nat):Int)]⟩ T (0,0))] [(a,aH l)] [] [] w:=by
 refine⟨⟨rfl,rfl,rfl,Nat.le_refl _,λ _ _ _=>rfl,λ p hp=>?_,λ p hp=>?_,by simp⟩,λ f hf=>?_,λ _ h=>(List.not_mem_nil h).elim,λ _ h=>(List.not_mem_nil h).elim,by simp[Ks]⟩;·simp only[List.mem_singleton] at hp;subst hp;exact h.obj
 ·simp only[List.mem_singleton] at hp;subst hp;exact .inl (by simp)
 ·simp only[List.mem_singleton] at hf;subst hf;exact⟨h.cl,λ hc=>by simp only[Ks,List.map_cons,List.map_nil,List.flatMap_nil,List.append_nil,List.mem_singleton];exact h.ne hc⟩
end
end
section
section
variable{w0 w w':World}{M:List Nat}{H:List (Nat×Obj)}{A F:Fr}{O:List Ow}
structure aQ where
 nd:Nd
 xs:List Int
 ys:List Pr
structure Nv where
 kind:Int
 gen:Int
 main:Int
 bm:Int
 xs:List Int
 hash:Int
 key:ByteArray
 val:Int
 ys:List Pr
 prev:Int
 bS:Int
 exp:Int
 new:Int
 status:Int
def Nd.c(n:Nd)(xs:List Int)(ys:List Pr):Nv:=⟨n.kind,n.gen,n.main,n.bm,xs,n.hash,n.key,n.val,ys,n.prev,n.bS,n.exp,n.new,n.status⟩
def aQ.c(v:aQ):Nv:=v.nd.c v.xs v.ys
theorem rS{a b:Nd}{x1 x2:List Int}{y1 y2:List Pr}:sX a b x1 x2 y1 y2↔a.c x1 y1=b.c x2 y2:=by simp[sX,Nd.c]
def aQ.fr(v:aQ):Fr:=[(v.nd.brA,aH v.xs),(v.nd.prA,dF v.ys)]
def aQ.zero:aQ:=⟨Nd.zero,[],[]⟩
def aN(L:List aQ):Fr:=L.flatMap aQ.fr
def iH(L:List aQ):List Value:=L.flatMap (·.nd.cells)
theorem Xa(L:List aQ):iH L=No (L.map (·.nd)):=by simp[iH,No,List.flatMap_map]
theorem vm{L:List aQ}{k:Nat}:(L.map (·.nd)).getD k Nd.zero=(L.getD k aQ.zero).nd:=by rw[iX,iX,List.getElem?_map];cases L[k]?<;>rfl
theorem jP(n:Nd):n.cells.length=14:=rfl
theorem Hz(a b:List aQ):iH (a++b)=iH a++iH b:=by simp[iH]
theorem vr(v:aQ):iH [v]=v.nd.cells:=by simp[iH]
theorem kJ(a:List aQ)(v:aQ):iH (a++[v])=iH a++v.nd.cells:=by rw[Hz,vr]
theorem cX(a b:List aQ):aN (a++b)=aN a++aN b:=by simp[aN]
theorem eC:∀L:List aQ,(iH L).length=L.length*14
 | []=>rfl
 | v::L=>by have:=eC L;simp only[iH,List.flatMap_cons,List.length_append,jP,List.length_cons] at this ⊢;omega
theorem k9:∀{L:List aQ} {k j:Nat} {v:Value},k<L.length->(L.getD k aQ.zero).nd.cells[j]?=some v->(iH L)[14*k+j]?=some v
 | v::L,0,j,u,_,hj=>by
  have hlt:j<14:=by
   have:=(List.getElem?_eq_some_iff.1 hj).1
   simpa[jP] using this
  simp only[iH,List.flatMap_cons,Nat.mul_zero,Nat.zero_add]
  rw[List.getElem?_append_left (by rw[jP];exact hlt)]
  simpa using hj
 | v::L,k+1,j,u,hk,hj=>by
  simp only[iH,List.flatMap_cons]
  rw[List.getElem?_append_right (by rw[jP];omega),jP,show 14*(k+1)+j-14=14*k+j by omega]
  exact k9 (L:=L) (by simpa using hk) (by simpa using hj)
theorem Ee(n:Nd):n.cells.all (·.oneCell')=true:=rfl
theorem B4:∀L:List aQ,(iH L).all (·.oneCell')=true
 | []=>rfl
 | v::L=>by have:=B4 L;simp only[iH,List.flatMap_cons,List.all_append,Bool.and_eq_true] at this ⊢;exact⟨Ee _,this⟩
theorem tM{L:List aQ}{f:Option Addr×List Value}:f∈aN L↔∃v∈L,f∈v.fr:=by simp[aN]
theorem fH{L:List aQ}{k:Nat}(hk:k<L.length):L.getD k aQ.zero∈L:=by rw[iX,List.getElem?_eq_getElem hk];exact List.getElem_mem hk
theorem Fv{L:List aQ}{k:Nat}(hk:k<L.length):((L.getD k aQ.zero).nd.brA,aH (L.getD k aQ.zero).xs)∈aN L:=tM.2 ⟨_,fH hk,by simp[aQ.fr]⟩
theorem Ge{L:List aQ}{k:Nat}(hk:k<L.length):((L.getD k aQ.zero).nd.prA,dF (L.getD k aQ.zero).ys)∈aN L:=tM.2 ⟨_,fH hk,by simp[aQ.fr]⟩
structure aQ.Fit(v:aQ):Prop where
 brN:v.nd.brN=v.xs.length
 prN:v.nd.prN=v.ys.length
 brS:v.xs.length<=35184372088832
 prS:v.ys.length<=11728124029610
theorem aQ.Fit.sU{v:aQ}(h:v.Fit){w:World}(hb:Cl w v.nd.brA (aH v.xs))(hp:Cl w v.nd.prA (dF v.ys)):sG w v.nd v.xs v.ys :=⟨h.brN,h.prN,hb,hp,by have:=h.brS;omega,by have:=h.prS;omega⟩
def Fits(L:List aQ):Prop:=∀v∈L,v.Fit
theorem Fits.at{L:List aQ}(h:Fits L){k:Nat}(hk:k<L.length):(L.getD k aQ.zero).Fit:=h _ (fH hk)
theorem P6:aQ.zero.Fit:=⟨rfl,rfl,by decide,by decide⟩
structure nM(w:World)(L:List aQ)(cs:List Int)(pn pc:Option Addr):Prop where
 nds:Cl w pn (iH L)
 cls:Cl w pc (aH cs)
 fam:∀f∈aN L,Cl w f.1 f.2
 fit:Fits L
theorem nM.start{w:World}{L:List aQ}{cs:List Int}{pn pc:Option Addr}(h:nM w L cs pn pc):SF w [] [] ((pn,iH L)::(pc,aH cs)::aN L) [] [] w:=SF.begin λ f hf=>by
 rcases List.mem_cons.1 hf with rfl|hf;·exact h.nds
 rcases List.mem_cons.1 hf with rfl|hf;·exact h.cls
 ·exact h.fam f hf
theorem SF.Rw{L:List aQ}{f1 f2:Option Addr×List Value}(h:SF w0 M H (f1::f2::aN L) F O w)(hfit:Fits L){k:Nat}(hk:k<L.length):sG w (L.getD k aQ.zero).nd (L.getD k aQ.zero).xs (L.getD k aQ.zero).ys :=(hfit.at hk).sU (h.bS _ (List.mem_cons_of_mem _ (List.mem_cons_of_mem _ (Fv hk)))).1 (h.bS _ (List.mem_cons_of_mem _ (List.mem_cons_of_mem _ (Ge hk)))).1
theorem SF.aDX{L:List aQ}(h:SF w0 M H (aN L) F O w)(hfit:Fits L){k:Nat}(hk:k<L.length):sG w (L.getD k aQ.zero).nd (L.getD k aQ.zero).xs (L.getD k aQ.zero).ys :=(hfit.at hk).sU (h.bS _ (Fv hk)).1 (h.bS _ (Ge hk)).1
theorem SF.aA1{L:List aQ}(h:SF w0 M H A F O w)(hF:∀f∈aN L,f.2=[]∨f∈A∨f∈F)(hfit:Fits L){v:aQ}(hv:v∈L):sG w v.nd v.xs v.ys:=by
 have key:∀f∈aN L,Cl w f.1 f.2:=λ f hf=>by
  rcases hF f hf with h0|h1|h1
  ·rw[h0];exact Cl.nil _ _
  ·exact(h.bS f h1).1
  ·exact(h.new f h1).1
 exact(hfit v hv).sU (key (v.nd.brA,aH v.xs) (tM.2 ⟨v,hv,by simp[aQ.fr]⟩)) (key (v.nd.prA,dF v.ys) (tM.2 ⟨v,hv,by simp[aQ.fr]⟩))
variable{P:Program}{S:List (Nat×Value)}{G:World->Prop}{d:Nat}{ty:TypeId}{pos:String}{af:Array Edge}{gd:Option (Nat×Bool)}{x y:Operand}{t t2 e:TypeId}{p a:Option Addr}{i m k c c2:Nat}
variable{q:Nat}{zc:List Value}
theorem tB{L:List aQ}{kk:IntKind}(hx:ev S x=.slice a m c)(hy:ev S y=.int kk ((k:Nat):Int))(ht:P.underlying t=some (.slice e))(hs:kC P e 14=true)(hf:sD A F O a (iH L))(h1:k<m)(h2:k<L.length) :
  aM P S (SF w0 M H A F O) ⟨some d,.indexAddr t x y,ty,pos,af,gd⟩ (.pointer (some ⟨dG a,eO a+14*k,none⟩)):=qg (lst:=L.map (·.nd)) hx hy ht hs (by rw[<- Xa];exact hf) h1 (by simpa using h2)
theorem Wn{L:List aQ}(hx:ev S x=.pointer (some ⟨dG a,eO a+14*q,none⟩))(ht:kC P t 14=true)(hf:sD A F O a (iH L))(hq:q<L.length) :
  aM P S (SF w0 M H A F O) ⟨some d,.load t x,ty,pos,af,gd⟩ (L.getD q aQ.zero).nd.v:=by have:=y9 (P:=P) (S:=S) (w0:=w0) (M:=M) (H:=H) (A:=A) (F:=F) (O:=O) (d:=d) (ty:=ty) (pos:=pos) (af:=af) (gd:=gd) (lst:=L.map (·.nd)) hx ht (by rw[<- Xa];exact hf) (by simpa using hq);rwa [vm] at this
theorem wE{L:List aQ}(hx:ev S x=.pointer (some ⟨dG a,eO a+14*q,none⟩))(ht:one P t=true)(hf:sD A F O a (iH L))(hq:q<L.length) :
  aM P S (SF w0 M H A F O) ⟨some d,.load t x,ty,pos,af,gd⟩ (.int .i64 (L.getD q aQ.zero).nd.kind):=qF (q:=14*q) hx ht (λ w hw=>hw.cl hf) (k9 (j:=0) hq rfl)
theorem Ya{L:List aQ}(v:aQ)(hx:ev S x=.slice p m c)(hy:ev S y=.slice a 1 c2)(ho:yU O i p (iH L) c e 14)(hm:L.length=m)(hf:sD A F O a v.nd.cells)(he:dX P t e zc)(hz:zc.length=14)(ht2:P.underlying t2=some (.slice e))(hb:m+1<=549755813888) :
  bG P S (SF w0 M H A F O) ⟨some d,.call {callee:=.builtin .append,args := #[x,y],argTypes := #[t,t2]},ty,pos,af,gd⟩ (Option Addr×Nat) (λ q=>.slice q.1 (m+1) q.2)
   (λ q w=>m+1<=q.2/\SF w0 M H A F (lM O i ⟨q.1,iH (L++[v]),q.2,e,14⟩) w):=by rw[kJ];exact gA hx hy ho (by rw[eC,hm]) hf (by simp[Nd.cells]) (Ee _) he hz (by decide) ht2 hb
theorem qb{L L2:List aQ}(hx:ev S x=.slice p m c)(hy:ev S y=.slice a k c2)(ho:yU O i p (iH L) c e 14)(hm:L.length=m)(hf:sD A F O a (iH L2))(hk:L2.length=k)(he:dX P t e zc)(hz:zc.length=14)(ht2:P.underlying t2=some (.slice e))(hb:m+k<=549755813888) :
  bG P S (SF w0 M H A F O) ⟨some d,.call {callee:=.builtin .append,args := #[x,y],argTypes := #[t,t2]},ty,pos,af,gd⟩ (Option Addr×Nat) (λ q=>.slice q.1 (m+k) q.2)
   (λ q w=>m+k<=q.2/\SF w0 M H A F (lM O i ⟨q.1,iH (L++L2),q.2,e,14⟩) w):=by rw[Hz];exact gA hx hy ho (by rw[eC,hm]) hf (by rw[eC,hk]) (B4 _) he hz (by decide) ht2 hb
theorem xd{k:Nat}{k1 k2:IntKind}(hx:ev S x=.int k1 0)(hy:ev S y=.int k2 ((k:Nat):Int))(he:dX P t e zc)(hz:zc.length=14)(hk:k<=1099511627776) :
  bG P S (SF w0 M H A F O) ⟨some d,.makeSlice t x y,ty,pos,af,gd⟩ Nat (λ b=>.slice (some ⟨b,0,none⟩) 0 k) (λ b=>SF w0 M H A F (⟨some ⟨b,0,none⟩,iH [],k,e,14⟩::O)):=by have:=Xh (P:=P) (S:=S) (w0:=w0) (M:=M) (H:=H) (A:=A) (F:=F) (O:=O) (d:=d) (ty:=ty) (pos:=pos) (af:=af) (gd:=gd) (m:=0) (k:=k) (k1:=k1) (k2:=k2) (x:=x) (y:=y) (cs:=iH []) (by simpa using hx) hy he (Nat.zero_le _) hk (List.eq_nil_of_length_eq_zero (by rw[kK];simp));rwa [hz] at this
section
variable{m n:Nat}{t':TypeId}
theorem pY(hx:ev S x=.int .i64 ((m:Nat):Int))(hy:ev S y=.int .i64 ((n:Nat):Int))(h:m+n<=9223372036854775807) :
  aM P S G ⟨some d,.binOp .add t x y t',ty,pos,af,gd⟩ (.int .i64 ((m+n:Nat):Int)):=by have:=oR (P:=P) (G:=G) (d:=d) (ty:=ty) (pos:=pos) (af:=af) (gd:=gd) (t:=t) (t':=t') hx hy;rw[wrap_i64 (by omega) (by omega)] at this;rw[Int.natCast_add];exact this
theorem jZ(hx:ev S x=.int .i64 ((m:Nat):Int))(hy:ev S y=.int .i64 ((n:Nat):Int))(h:n<=m)(h2:m<=9223372036854775807) :
  aM P S G ⟨some d,.binOp .sub t x y t',ty,pos,af,gd⟩ (.int .i64 ((m-n:Nat):Int)):=by have:=Mb (P:=P) (G:=G) (d:=d) (ty:=ty) (pos:=pos) (af:=af) (gd:=gd) (t:=t) (t':=t') hx hy;rw[wrap_i64 (by omega) (by omega)] at this;rw[Int.natCast_sub h];exact this
end
theorem jW{P:Program}{S:List (Nat×Value)}{G:World->Prop}{d:Nat}{ty:TypeId}{pos:String}{af:Array Edge}{gd:Option (Nat×Bool)}{x:Operand}{vs:List Value}{k:Nat}{v:Value}(hx:ev S x=.tuple ⟨vs⟩)(hk:vs[k]?=some v):aM P S G ⟨some d,.extract x k,ty,pos,af,gd⟩ v:=⟨λ w _=>by simp[execOp,hx,Instr.extract,hk]⟩
theorem Np{a:Int}(hx:ev S x=.int .i64 a)(hy:ev S y=.int .i64 1)(h:1<=a)(h2:a<=9223372036854775807):aM P S G ⟨some d,.binOp .sub t x y t2,ty,pos,af,gd⟩ (.int .i64 (((a-1).toNat:Nat):Int)):=by have:=Mp (P:=P) (G:=G) (d:=d) (ty:=ty) (pos:=pos) (af:=af) (gd:=gd) (t:=t) (t':=t2) hx hy (by omega);rwa [show a-1=(((a-1).toNat:Nat):Int) by omega] at this
theorem Pw:∀(L:List aQ) (k:Nat),(iH L).drop (k*14)=iH (L.drop k)
 | [],k=>by simp[iH]
 | v::L,0=>by simp
 | v::L,k+1=>by have:=Pw L k;rw[List.drop_succ_cons,<- this];show(v.nd.cells++iH L).drop ((k+1)*14)=_;rw[List.drop_append,List.drop_eq_nil_of_le (by rw[jP];omega),jP,List.nil_append];congr 1;omega
theorem th{L:List aQ}(hx:ev S x=.slice a m c)(hy:ev S y=.int .i64 ((k:Nat):Int))(ht:P.underlying t=some (.slice e))(hs:(P.info? e).map (·.size)=some 14)(hk:k<=m)(hf:sD A F [] a (iH L))(hmc:m<=c)(hl:L.length=m) :
  bG P S (SF w0 M H A F O) ⟨some d,.slice t x (some y) none none,ty,pos,af,gd⟩ (Option Addr) (λ p=>.slice p (m-k) (c-k)) (λ p=>SF w0 M H ((p,iH (L.drop k))::A) F O):=by have:=wj (P:=P) (w0:=w0) (M:=M) (H:=H) (O:=O) (d:=d) (ty:=ty) (pos:=pos) (af:=af) (gd:=gd) hx hy ht hs hk hf hmc (by rw[eC,hl]);rw[Pw] at this;exact this
theorem SF.yy(h:SF w0 M H A F O w){L:List aQ}{T:TypeId}(ho:yU O i p (iH L) c T 14):L.length<=c:=by
 rcases(h.own _ ho.mem).1 with⟨_,h2,_⟩|⟨b,rest,_,_,h3⟩
 ·have h2':iH L=[]:=h2;have:(iH L).length=0:=by rw[h2'];rfl
  rw[eC] at this;omega
 ·have h3':(iH L++rest).length=c*14:=h3;rw[List.length_append,eC] at h3';omega
theorem aU{b off:Nat}{cs vs:List Value}{T:TypeId}(hx:ev S x=.pointer (some ⟨b,off,none⟩))(ha:At H i b (.cells ⟨cs⟩ T (0,0)))(ht:kC P t k=true)(hv:(cs.drop off).take k=vs)(hl:vs.length=k) :
  aM P S (SF w0 M H A F O) ⟨some d,.load t x,ty,pos,af,gd⟩ (.agg ⟨vs⟩):=⟨λ w hw=>by
 have hb:=hw.st.at ha;have hcl:Cl w (some ⟨b,0,none⟩) cs:=Cl.block (pre:=[]) (rest:=[]) (by simpa using hb) rfl;obtain⟨dd,hu,hm,hi⟩:=jA ht;have hagg:(isAgg t).run P w=.ok true w:=by unfold isAgg;rw[Sem.run_bind,run_underlying hu w];cases dd<;>simp_all
 have hlc:(loadCells ⟨b,off,none⟩ k).run P w=.ok ⟨vs⟩ w:=by
  have:=run_loadCells_list (P:=P) w ⟨b,off,none⟩ vs (λ j z hz=>by
   rw[Addr.add_lit];have hj:j<k:=by rw[<- hl];exact(List.getElem?_eq_some_iff.1 hz).1
   have h1:cs[off+j]?=some z:=by rw[<- hv,List.getElem?_take,if_pos hj,List.getElem?_drop] at hz;exact hz
   have h3:=(hcl.at_ (off+j) z h1).2;simpa[dG,eO] using h3)
  rwa [hl] at this
 cases hq':P.info? t with
 | none=>rw[hq'] at hi;simp at hi
 | some inf=>
  have hs:inf.size=k:=by rw[hq'] at hi;simpa using hi
  simp[execOp,hx,Instr.loadAt,Instr.sureAddr,loadVar,hagg,Go.sizeOf,typeInfo,hq',hs,hlc]⟩
def Bx(P:Program)(t:TypeId)(k:Nat):Option Nat :=
 match P.underlying t with
 | some (.struct fs)=>match fs[k]? with
  | some f=>if one P f.type then some f.offset else none
  | none=>none
 | _=>none
theorem W2{cs:List Value}{off:Nat}{v:Value}(hx:ev S x=.agg ⟨cs⟩)(hf:Bx P t k=some off)(hv:cs[off]?=some v):aM P S G ⟨some d,.field t x k,ty,pos,af,gd⟩ v:=⟨λ w _=>by
 unfold Bx at hf;cases hu:P.underlying t with
 | none=>simp[hu] at hf
 | some dd=>
  cases dd<;>simp[hu] at hf;rename_i fs;cases hk:fs[k]? with
  | none=>simp[hk] at hf
  | some f=>
   simp only[hk] at hf;split at hf;·rename_i h1;simp only[Option.some.injEq] at hf;subst hf;have hp:=mV (P:=P) h1 (cs:=⟨cs⟩) (off:=f.offset) (v:=v) (by simpa using hv) w;simp[execOp,hx,Instr.field,run_underlying hu,hk,asAgg,hp]
   ·cases hf⟩
def jY(l:List Bool):List Value:=l.map .bool
variable{l lst:List Bool}
theorem zT(l:List Bool):(jY l).length=l.length:=by simp[jY]
theorem Z9{k:Nat}(h:k<l.length):(jY l)[k]?=some (.bool (l.getD k false)):=by simp[jY,h,List.getD]
theorem Ur(k:Nat):made [.bool false] k=jY (List.replicate k false):=by
 refine List.ext_getElem? λ i=>?_;by_cases hi:i<k;·simp[made,madeCells,jY,Array.getElem?_toList,Array.getElem?_map,Array.getElem?_range,hi,Nat.mod_one]
 ·rw[List.getElem?_eq_none (by rw[kK];simp;omega),List.getElem?_eq_none (by simp[jY];omega)]
theorem ux{m k:Nat}{k1 k2:IntKind}(hx:ev S x=.int k1 ((m:Nat):Int))(hy:ev S y=.int k2 ((k:Nat):Int))(he:dX P t e [.bool false])(hmk:m<=k)(hk:k<=1099511627776) :
  bG P S (SF w0 M H A F O) ⟨some d,.makeSlice t x y,ty,pos,af,gd⟩ Nat (λ b=>.slice (some ⟨b,0,none⟩) m k) (λ b=>SF w0 M H A F (⟨some ⟨b,0,none⟩,jY (List.replicate m false),k,e,1⟩::O)) :=
 Xh hx hy he hmk hk (Ur m)
theorem oT{kk:IntKind}(hx:ev S x=.slice a m c)(hy:ev S y=.int kk ((k:Nat):Int))(ht:P.underlying t=some (.slice e))(hs:one P e=true)(hf:sD A F O a (jY lst))(h1:k<m)(h2:k<lst.length) :
  aM P S (SF w0 M H A F O) ⟨some d,.indexAddr t x y,ty,pos,af,gd⟩ (.pointer (some ⟨dG a,eO a+k,none⟩)):=⟨λ w hw =>
 (A8 (G:=SF w0 M H A F O) hx hy ht hs ((hw.cl hf).ptr (by rw[zT];omega)) h1).run w hw⟩
theorem Br{q:Nat}(hx:ev S x=.pointer (some ⟨dG a,eO a+q,none⟩))(ht:one P t=true)(hf:sD A F O a (jY lst))(hq:q<lst.length) :
  aM P S (SF w0 M H A F O) ⟨some d,.load t x,ty,pos,af,gd⟩ (.bool (lst.getD q false)):=qF hx ht (λ w hw=>hw.cl hf) (Z9 hq)
theorem Vn(l:List Bool)(k:Nat)(v:Bool):(jY l).set k (.bool v)=jY (l.set k v):=by simp[jY]
theorem ru{q:Nat}{v:Bool}(hx:ev S x=.pointer (some ⟨dG p,eO p+q,none⟩))(hy:ev S y=.bool v)(ht:one P t=true)(ho:yU O i p (jY l) c e 1)(hq:q<l.length) :
  bG P S (SF w0 M H A F O) ⟨none,.store t x y,ty,pos,af,gd⟩ Unit (λ _=>undef) (λ _=>SF w0 M H A F (lM O i ⟨p,jY (l.set q v),c,e,1⟩)):=by rw[<- Vn];exact P2 hx hy rfl ht ho (by rw[zT];exact hq)
theorem o6(hx:ev S x=.slice a m c)(hy:ev S y=.slice none 0 0)(ht:P.underlying t=some (.slice e)):aM P S G ⟨some d,.binOp .eql t x y t2,ty,pos,af,gd⟩ (.bool a.isNone):=⟨λ w _=>by have:=Go.Lib.run_eql_slice_nil (P:=P) w t e a m c 0 0 ht;simp[execOp,hx,hy,this,eqGuard]⟩
def K2(P:Program)(t:TypeId):Bool:=match P.underlying t with|some (.pointer _)=>true|_=>false
theorem Qm(h:K2 P t=true):P.underlying t=some (.pointer (P.pointee t)):=by
 unfold K2 at h;cases hu:P.underlying t with
 | none=>simp[hu] at h
 | some dd=>cases dd<;>simp[hu,Program.pointee] at h ⊢
theorem vt{q:Option Addr}(hx:ev S x=.pointer q)(hy:ev S y=.pointer none)(ht:K2 P t=true):aM P S G ⟨some d,.binOp .eql t x y t2,ty,pos,af,gd⟩ (.bool q.isNone):=⟨λ w _=>by have:=run_eql_pointer_nil (P:=P) w t q (Qm ht);simp[execOp,hx,hy,this,eqGuard]⟩
theorem Yq{q:Option Addr}(hx:ev S x=.pointer q)(hy:ev S y=.pointer none)(ht:K2 P t=true):aM P S G ⟨some d,.binOp .neq t x y t2,ty,pos,af,gd⟩ (.bool (!q.isNone)):=⟨λ w _=>by have:=run_neq_pointer_nil (P:=P) w t q (Qm ht);simp[execOp,hx,hy,this,eqGuard]⟩
end
end
end Go.Ct
namespace Go.Proofs.YtbajmaoegmbfgaaGreat
open Go.Proofs.Tryz
open Go.RowKit Go.Ct
section
def aCW:List Nat:=[2,3,4,5,9,12,15,16,17,20,21,22,23,25,27,30,31,32,33,37,42,44,45,50,56,62,74,85,95,102,108,115,122,123,129,130,151,156,169,209,255,259]
theorem aBx:(aCW.all λ t=>one prog t)=true:=by kernel_rfl
theorem Og{t:Nat}(h:aCW.elem t=true):one prog t=true:=List.all_eq_true.1 aBx t (List.mem_of_elem_eq_true h)
def aCY:List (Nat×Nat):=[(29,2),(35,4),(39,5),(47,14),(52,3),(54,4),(64,8),(76,2),(87,3),(89,25),(114,2),(125,3),(128,4),(132,14),(139,4),(141,17),(153,52),(159,5),(164,2),(230,2)]
variable{t:Nat}
theorem aBL:(aCY.all λ p=>kC prog p.1 p.2)=true:=by kernel_rfl
theorem U6{k:Nat}(h:(aCY.any λ p=>Nat.beq p.1 t&&Nat.beq p.2 k)=true):kC prog t k=true:=by obtain⟨p,hp,ht⟩:=List.any_eq_true.1 h;simp only[Bool.and_eq_true] at ht;have h2:=List.all_eq_true.1 aBL p hp;rwa [eS ht.1,eS ht.2] at h2
theorem zS:dJ prog 29=some (.agg ⟨[.int .i64 0,.bool false]⟩):=by kernel_rfl
theorem Ih(h:Nat.beq t 29=true):dJ prog t=some (.agg ⟨[.int .i64 0,.bool false]⟩):=by rw[eS h];exact zS
theorem D2(h:Nat.beq t 29=true):structOf prog t [.int .i64 0,.bool false]:=by rw[eS h];exact iK (by kernel_rfl) zS
theorem xP:dJ prog 35=some (.agg ⟨[.pointer none,.int .u64 0,.slice none 0 0,.slice none 0 0]⟩):=by kernel_rfl
theorem tN(h:Nat.beq t 35=true):structOf prog t [.pointer none,.int .u64 0,.slice none 0 0,.slice none 0 0]:=by rw[eS h];exact iK (by kernel_rfl) xP
theorem vG:dJ prog 39=some (.agg ⟨[.int .i64 0,.int .i64 0,.int .i64 0,.int .i64 0,.slice none 0 0]⟩):=by kernel_rfl
theorem sQ(h:Nat.beq t 39=true):structOf prog t [.int .i64 0,.int .i64 0,.int .i64 0,.int .i64 0,.slice none 0 0]:=by rw[eS h];exact iK (by kernel_rfl) vG
theorem zR:dJ prog 47=some (.agg ⟨[.int .i64 0,.int .i64 0,.int .i64 0,.int .u64 0,.slice none 0 0,.int .u64 0,.string ⟨#[]⟩,.int .u64 0,.slice none 0 0,.int .i64 0,.int .i64 0,.int .i64 0,.int .i64 0,.int .i64 0]⟩):=by kernel_rfl
theorem I5(h:Nat.beq t 47=true):dJ prog t=some (.agg ⟨[.int .i64 0,.int .i64 0,.int .i64 0,.int .u64 0,.slice none 0 0,.int .u64 0,.string ⟨#[]⟩,.int .u64 0,.slice none 0 0,.int .i64 0,.int .i64 0,.int .i64 0,.int .i64 0,.int .i64 0]⟩):=by rw[eS h];exact zR
theorem D6(h:Nat.beq t 47=true):structOf prog t [.int .i64 0,.int .i64 0,.int .i64 0,.int .u64 0,.slice none 0 0,.int .u64 0,.string ⟨#[]⟩,.int .u64 0,.slice none 0 0,.int .i64 0,.int .i64 0,.int .i64 0,.int .i64 0,.int .i64 0]:=by rw[eS h];exact iK (by kernel_rfl) zR
theorem xS:dJ prog 52=some (.agg ⟨[.slice none 0 0,.slice none 0 0,.int .i64 0]⟩):=by kernel_rfl
theorem E9(h:Nat.beq t 52=true):dJ prog t=some (.agg ⟨[.slice none 0 0,.slice none 0 0,.int .i64 0]⟩):=by rw[eS h];exact xS
theorem Cg(h:Nat.beq t 52=true):structOf prog t [.slice none 0 0,.slice none 0 0,.int .i64 0]:=by rw[eS h];exact iK (by kernel_rfl) xS
theorem yZ:dJ prog 54=some (.agg ⟨[.slice none 0 0,.slice none 0 0,.int .i64 0,.int .i64 0]⟩):=by kernel_rfl
theorem vX(h:Nat.beq t 54=true):placeOf prog t [(0,3),(3,1)] [.slice none 0 0,.slice none 0 0,.int .i64 0,.int .i64 0]:=by rw[eS h];exact kM (by kernel_rfl) yZ
theorem uZ:dJ prog 64=some (.agg ⟨[.int .i64 0,.bool false,.int .u64 0,.string ⟨#[]⟩,.int .i64 0,.int .i64 0,.int .i64 0,.bool false]⟩):=by kernel_rfl
theorem Cs(h:Nat.beq t 64=true):dJ prog t=some (.agg ⟨[.int .i64 0,.bool false,.int .u64 0,.string ⟨#[]⟩,.int .i64 0,.int .i64 0,.int .i64 0,.bool false]⟩):=by rw[eS h];exact uZ
theorem By(h:Nat.beq t 64=true):placeOf prog t [(0,1),(1,1),(2,1),(3,1),(4,1),(5,1),(6,2)] [.int .i64 0,.bool false,.int .u64 0,.string ⟨#[]⟩,.int .i64 0,.int .i64 0,.int .i64 0,.bool false]:=by rw[eS h];exact kM (by kernel_rfl) uZ
theorem oX:dJ prog 89=some (.agg ⟨[.int .i64 0,.int .i64 0,.bool false,.int .i64 0,.int .i64 0,.int .i64 0,.int .i64 0,.int .u64 0,.int .u64 0,.string ⟨#[]⟩,.int .u64 0,.int .u64 0,.int .i64 0,.bool false,.bool false,.slice none 0 0,.slice none 0 0,.int .i64 0,.bool false,.int .u64 0,.string ⟨#[]⟩,.int .i64 0,.int .i64 0,.int .i64 0,.bool false]⟩):=by kernel_rfl
theorem vH(h:Nat.beq t 89=true):dJ prog t=some (.agg ⟨[.int .i64 0,.int .i64 0,.bool false,.int .i64 0,.int .i64 0,.int .i64 0,.int .i64 0,.int .u64 0,.int .u64 0,.string ⟨#[]⟩,.int .u64 0,.int .u64 0,.int .i64 0,.bool false,.bool false,.slice none 0 0,.slice none 0 0,.int .i64 0,.bool false,.int .u64 0,.string ⟨#[]⟩,.int .i64 0,.int .i64 0,.int .i64 0,.bool false]⟩):=by rw[eS h];exact oX
theorem tT(h:Nat.beq t 89=true):placeOf prog t [(0,1),(1,2),(3,1),(4,1),(5,1),(6,1),(7,1),(8,1),(9,1),(10,1),(11,1),(12,1),(13,1),(14,3),(17,8)] [.int .i64 0,.int .i64 0,.bool false,.int .i64 0,.int .i64 0,.int .i64 0,.int .i64 0,.int .u64 0,.int .u64 0,.string ⟨#[]⟩,.int .u64 0,.int .u64 0,.int .i64 0,.bool false,.bool false,.slice none 0 0,.slice none 0 0,.int .i64 0,.bool false,.int .u64 0,.string ⟨#[]⟩,.int .i64 0,.int .i64 0,.int .i64 0,.bool false]:=by rw[eS h];exact kM (by kernel_rfl) oX
theorem yX:dJ prog 114=some (.agg ⟨[.slice none 0 0,.int .i64 0]⟩):=by kernel_rfl
theorem uV(h:Nat.beq t 114=true):structOf prog t [.slice none 0 0,.int .i64 0]:=by rw[eS h];exact iK (by kernel_rfl) yX
theorem O5:dJ prog 125=some (.agg ⟨[.nilIface,.int .i64 0,.bool false]⟩):=by kernel_rfl
theorem H2(h:Nat.beq t 125=true):placeOf prog t [(0,1),(1,2)] [.nilIface,.int .i64 0,.bool false]:=by rw[eS h];exact kM (by kernel_rfl) O5
theorem vA:dJ prog 128=some (.agg ⟨[.int .i64 0,.int .i64 0,.int .i64 0,.int .i64 0]⟩):=by kernel_rfl
theorem Dk(h:Nat.beq t 128=true):dJ prog t=some (.agg ⟨[.int .i64 0,.int .i64 0,.int .i64 0,.int .i64 0]⟩):=by rw[eS h];exact vA
theorem Av(h:Nat.beq t 128=true):structOf prog t [.int .i64 0,.int .i64 0,.int .i64 0,.int .i64 0]:=by rw[eS h];exact iK (by kernel_rfl) vA
theorem wM:dJ prog 132=some (.agg ⟨[.int .i64 0,.int .i64 0,.int .i64 0,.int .i64 0,.nilFunc,.nilFunc,.int .i64 0,.bool false,.int .u64 0,.string ⟨#[]⟩,.int .i64 0,.int .i64 0,.int .i64 0,.bool false]⟩):=by kernel_rfl
theorem Fh(h:Nat.beq t 132=true):dJ prog t=some (.agg ⟨[.int .i64 0,.int .i64 0,.int .i64 0,.int .i64 0,.nilFunc,.nilFunc,.int .i64 0,.bool false,.int .u64 0,.string ⟨#[]⟩,.int .i64 0,.int .i64 0,.int .i64 0,.bool false]⟩):=by rw[eS h];exact wM
theorem Dn(h:Nat.beq t 132=true):placeOf prog t [(0,4),(4,1),(5,1),(6,8)] [.int .i64 0,.int .i64 0,.int .i64 0,.int .i64 0,.nilFunc,.nilFunc,.int .i64 0,.bool false,.int .u64 0,.string ⟨#[]⟩,.int .i64 0,.int .i64 0,.int .i64 0,.bool false]:=by rw[eS h];exact kM (by kernel_rfl) wM
theorem Dz:dJ prog 139=some (.agg ⟨[.slice none 0 0,.slice none 0 0,.int .i64 0,.int .i64 0]⟩):=by kernel_rfl
theorem zC(h:Nat.beq t 139=true):structOf prog t [.slice none 0 0,.slice none 0 0,.int .i64 0,.int .i64 0]:=by rw[eS h];exact iK (by kernel_rfl) Dz
theorem Hj:dJ prog 141=some (.agg ⟨[.nilIface,.int .i64 0,.int .i64 0,.int .i64 0,.int .i64 0,.nilFunc,.nilFunc,.int .i64 0,.bool false,.int .u64 0,.string ⟨#[]⟩,.int .i64 0,.int .i64 0,.int .i64 0,.bool false,.int .i64 0,.bool false]⟩):=by kernel_rfl
theorem Di(h:Nat.beq t 141=true):placeOf prog t [(0,1),(1,14),(15,1),(16,1)] [.nilIface,.int .i64 0,.int .i64 0,.int .i64 0,.int .i64 0,.nilFunc,.nilFunc,.int .i64 0,.bool false,.int .u64 0,.string ⟨#[]⟩,.int .i64 0,.int .i64 0,.int .i64 0,.bool false,.int .i64 0,.bool false]:=by rw[eS h];exact kM (by kernel_rfl) Hj
theorem wV:dJ prog 153=some (.agg ⟨[.pointer none,.int .i64 0,.int .i64 0,.bool false,.int .i64 0,.int .i64 0,.int .i64 0,.int .i64 0,.int .u64 0,.int .u64 0,.string ⟨#[]⟩,.int .u64 0,.int .u64 0,.int .i64 0,.bool false,.bool false,.slice none 0 0,.slice none 0 0,.int .i64 0,.bool false,.int .u64 0,.string ⟨#[]⟩,.int .i64 0,.int .i64 0,.int .i64 0,.bool false,.slice none 0 0,.slice none 0 0,.slice none 0 0,.slice none 0 0,.int .i64 0,.int .i64 0,.int .i64 0,.int .i64 0,.int .i64 0,.bool false,.int .i64 0,.int .i64 0,.int .i64 0,.int .i64 0,.bool false,.int .i64 0,.bool false,.int .u64 0,.string ⟨#[]⟩,.int .i64 0,.int .i64 0,.int .i64 0,.bool false,.bool false,.slice none 0 0,.slice none 0 0]⟩):=by kernel_rfl
theorem uE(h:Nat.beq t 153=true):placeOf prog t [(0,1),(1,25),(26,1),(27,1),(28,1),(29,1),(30,1),(31,1),(32,1),(33,1),(34,1),(35,1),(36,4),(40,1),(41,8),(49,3)] [.pointer none,.int .i64 0,.int .i64 0,.bool false,.int .i64 0,.int .i64 0,.int .i64 0,.int .i64 0,.int .u64 0,.int .u64 0,.string ⟨#[]⟩,.int .u64 0,.int .u64 0,.int .i64 0,.bool false,.bool false,.slice none 0 0,.slice none 0 0,.int .i64 0,.bool false,.int .u64 0,.string ⟨#[]⟩,.int .i64 0,.int .i64 0,.int .i64 0,.bool false,.slice none 0 0,.slice none 0 0,.slice none 0 0,.slice none 0 0,.int .i64 0,.int .i64 0,.int .i64 0,.int .i64 0,.int .i64 0,.bool false,.int .i64 0,.int .i64 0,.int .i64 0,.int .i64 0,.bool false,.int .i64 0,.bool false,.int .u64 0,.string ⟨#[]⟩,.int .i64 0,.int .i64 0,.int .i64 0,.bool false,.bool false,.slice none 0 0,.slice none 0 0]:=by rw[eS h];exact kM (by kernel_rfl) wV
theorem D7:dJ prog 159=some (.agg ⟨[.nilIface,.int .i64 0,.bool false,.string ⟨#[]⟩,.int .u64 0]⟩):=by kernel_rfl
theorem Ad(h:Nat.beq t 159=true):placeOf prog t [(0,3),(3,1),(4,1)] [.nilIface,.int .i64 0,.bool false,.string ⟨#[]⟩,.int .u64 0]:=by rw[eS h];exact kM (by kernel_rfl) D7
theorem zO:dJ prog 164=some (.agg ⟨[.string ⟨#[]⟩,.int .u64 0]⟩):=by kernel_rfl
theorem Jj(h:Nat.beq t 164=true):dJ prog t=some (.agg ⟨[.string ⟨#[]⟩,.int .u64 0]⟩):=by rw[eS h];exact zO
theorem Cq(h:Nat.beq t 164=true):structOf prog t [.string ⟨#[]⟩,.int .u64 0]:=by rw[eS h];exact iK (by kernel_rfl) zO
def aDh:List (Nat×Nat):=[(29,0),(29,1),(35,0),(35,1),(35,2),(35,3),(39,0),(39,1),(39,2),(39,3),(39,4),(47,0),(47,1),(47,2),(47,3),(47,4),(47,5),(47,6),(47,7),(47,8),(47,9),(47,10),(47,11),(47,12),(47,13),(52,0),(52,1),(52,2),(54,0),(64,0),(64,1),(64,2),(64,3),(64,4),(64,5),(64,6),(76,0),(76,1),(87,0),(87,1),(87,2),(89,0),(89,1),(114,0),(114,1),(125,0),(125,1),(128,0),(128,1),(128,2),(128,3),(132,0),(139,0),(139,1),(139,2),(139,3),(141,0),(141,1),(153,0),(153,1),(159,0),(164,0),(164,1),(230,0),(230,1)]
theorem aAO:(aDh.all λ p=>dC prog p.1 p.2==some p.2)=true:=by kernel_rfl
theorem aCw{t k:Nat}(h:(aDh.any λ p=>Nat.beq p.1 t&&Nat.beq p.2 k)=true):dC prog t k=some k:=by obtain⟨p,hp,ht⟩:=List.any_eq_true.1 h;simp only[Bool.and_eq_true] at ht;have h2:=eq_of_beq (List.all_eq_true.1 aAO p hp);rwa [eS ht.1,eS ht.2] at h2
def z5:List (Nat×Nat):=[(29,0),(29,1),(35,0),(35,1),(35,2),(35,3),(39,0),(39,1),(39,2),(39,3),(39,4),(47,0),(47,1),(47,2),(47,3),(47,4),(47,5),(47,6),(47,7),(47,8),(47,9),(47,10),(47,11),(47,12),(47,13),(52,0),(52,1),(52,2),(64,0),(64,1),(64,2),(64,3),(64,4),(64,5),(76,0),(76,1),(87,0),(87,1),(87,2),(89,0),(114,0),(114,1),(125,0),(128,0),(128,1),(128,2),(128,3),(139,0),(139,1),(139,2),(139,3),(141,0),(153,0),(164,0),(164,1),(230,0),(230,1)]
variable{k:Nat}
theorem zo:(z5.all λ p=>Bx prog p.1 p.2==some p.2)=true:=by kernel_rfl
theorem Yk{t:Nat}(h:(z5.any λ p=>Nat.beq p.1 t&&Nat.beq p.2 k)=true):Bx prog t k=some k:=by obtain⟨p,hp,ht⟩:=List.any_eq_true.1 h;simp only[Bool.and_eq_true] at ht;have h2:=eq_of_beq (List.all_eq_true.1 zo p hp);rwa [eS ht.1,eS ht.2] at h2
theorem xI{t:Nat}(h:(Nat.beq t 54&&Nat.beq k 1)=true):dC prog t k=some 3:=by simp only[Bool.and_eq_true] at h;rw[eS h.1,eS h.2];kernel_rfl
theorem vC{t:Nat}(h:(Nat.beq t 89&&Nat.beq k 2)=true):dC prog t k=some 3:=by simp only[Bool.and_eq_true] at h;rw[eS h.1,eS h.2];kernel_rfl
theorem vP{t:Nat}(h:(Nat.beq t 89&&Nat.beq k 3)=true):dC prog t k=some 4:=by simp only[Bool.and_eq_true] at h;rw[eS h.1,eS h.2];kernel_rfl
theorem vJ{t:Nat}(h:(Nat.beq t 89&&Nat.beq k 4)=true):dC prog t k=some 5:=by simp only[Bool.and_eq_true] at h;rw[eS h.1,eS h.2];kernel_rfl
theorem vD{t:Nat}(h:(Nat.beq t 89&&Nat.beq k 7)=true):dC prog t k=some 8:=by simp only[Bool.and_eq_true] at h;rw[eS h.1,eS h.2];kernel_rfl
theorem vT{t:Nat}(h:(Nat.beq t 89&&Nat.beq k 8)=true):dC prog t k=some 9:=by simp only[Bool.and_eq_true] at h;rw[eS h.1,eS h.2];kernel_rfl
theorem vR{t:Nat}(h:(Nat.beq t 89&&Nat.beq k 9)=true):dC prog t k=some 10:=by simp only[Bool.and_eq_true] at h;rw[eS h.1,eS h.2];kernel_rfl
theorem tW{t:Nat}(h:(Nat.beq t 89&&Nat.beq k 10)=true):dC prog t k=some 11:=by simp only[Bool.and_eq_true] at h;rw[eS h.1,eS h.2];kernel_rfl
theorem tX{t:Nat}(h:(Nat.beq t 89&&Nat.beq k 11)=true):dC prog t k=some 12:=by simp only[Bool.and_eq_true] at h;rw[eS h.1,eS h.2];kernel_rfl
theorem uN{t:Nat}(h:(Nat.beq t 89&&Nat.beq k 12)=true):dC prog t k=some 13:=by simp only[Bool.and_eq_true] at h;rw[eS h.1,eS h.2];kernel_rfl
theorem Ff{t:Nat}(h:(Nat.beq t 132&&Nat.beq k 1)=true):dC prog t k=some 4:=by simp only[Bool.and_eq_true] at h;rw[eS h.1,eS h.2];kernel_rfl
theorem Fb{t:Nat}(h:(Nat.beq t 132&&Nat.beq k 2)=true):dC prog t k=some 5:=by simp only[Bool.and_eq_true] at h;rw[eS h.1,eS h.2];kernel_rfl
theorem Ft{t:Nat}(h:(Nat.beq t 132&&Nat.beq k 3)=true):dC prog t k=some 6:=by simp only[Bool.and_eq_true] at h;rw[eS h.1,eS h.2];kernel_rfl
theorem E7{t:Nat}(h:(Nat.beq t 141&&Nat.beq k 2)=true):dC prog t k=some 15:=by simp only[Bool.and_eq_true] at h;rw[eS h.1,eS h.2];kernel_rfl
theorem E3{t:Nat}(h:(Nat.beq t 141&&Nat.beq k 3)=true):dC prog t k=some 16:=by simp only[Bool.and_eq_true] at h;rw[eS h.1,eS h.2];kernel_rfl
theorem vK{t:Nat}(h:(Nat.beq t 153&&Nat.beq k 2)=true):dC prog t k=some 26:=by simp only[Bool.and_eq_true] at h;rw[eS h.1,eS h.2];kernel_rfl
theorem vQ{t:Nat}(h:(Nat.beq t 153&&Nat.beq k 3)=true):dC prog t k=some 27:=by simp only[Bool.and_eq_true] at h;rw[eS h.1,eS h.2];kernel_rfl
theorem vU{t:Nat}(h:(Nat.beq t 153&&Nat.beq k 4)=true):dC prog t k=some 28:=by simp only[Bool.and_eq_true] at h;rw[eS h.1,eS h.2];kernel_rfl
theorem vW{t:Nat}(h:(Nat.beq t 153&&Nat.beq k 5)=true):dC prog t k=some 29:=by simp only[Bool.and_eq_true] at h;rw[eS h.1,eS h.2];kernel_rfl
theorem vE{t:Nat}(h:(Nat.beq t 153&&Nat.beq k 6)=true):dC prog t k=some 30:=by simp only[Bool.and_eq_true] at h;rw[eS h.1,eS h.2];kernel_rfl
theorem vI{t:Nat}(h:(Nat.beq t 153&&Nat.beq k 7)=true):dC prog t k=some 31:=by simp only[Bool.and_eq_true] at h;rw[eS h.1,eS h.2];kernel_rfl
theorem vV{t:Nat}(h:(Nat.beq t 153&&Nat.beq k 8)=true):dC prog t k=some 32:=by simp only[Bool.and_eq_true] at h;rw[eS h.1,eS h.2];kernel_rfl
theorem vL{t:Nat}(h:(Nat.beq t 153&&Nat.beq k 9)=true):dC prog t k=some 33:=by simp only[Bool.and_eq_true] at h;rw[eS h.1,eS h.2];kernel_rfl
theorem uI{t:Nat}(h:(Nat.beq t 153&&Nat.beq k 10)=true):dC prog t k=some 34:=by simp only[Bool.and_eq_true] at h;rw[eS h.1,eS h.2];kernel_rfl
theorem uK{t:Nat}(h:(Nat.beq t 153&&Nat.beq k 11)=true):dC prog t k=some 35:=by simp only[Bool.and_eq_true] at h;rw[eS h.1,eS h.2];kernel_rfl
theorem tY{t:Nat}(h:(Nat.beq t 153&&Nat.beq k 12)=true):dC prog t k=some 36:=by simp only[Bool.and_eq_true] at h;rw[eS h.1,eS h.2];kernel_rfl
theorem tQ{t:Nat}(h:(Nat.beq t 153&&Nat.beq k 13)=true):dC prog t k=some 40:=by simp only[Bool.and_eq_true] at h;rw[eS h.1,eS h.2];kernel_rfl
theorem tR{t:Nat}(h:(Nat.beq t 153&&Nat.beq k 14)=true):dC prog t k=some 41:=by simp only[Bool.and_eq_true] at h;rw[eS h.1,eS h.2];kernel_rfl
theorem Cb{t:Nat}(h:(Nat.beq t 159&&Nat.beq k 1)=true):dC prog t k=some 3:=by simp only[Bool.and_eq_true] at h;rw[eS h.1,eS h.2];kernel_rfl
theorem Bt{t:Nat}(h:(Nat.beq t 159&&Nat.beq k 2)=true):dC prog t k=some 4:=by simp only[Bool.and_eq_true] at h;rw[eS h.1,eS h.2];kernel_rfl
def aD4:List Nat:=[15,16,17,23,25,30,42,56,74,156,259]
theorem aBO:(aD4.all λ t=>K2 prog t)=true:=by kernel_rfl
theorem Uu{t:Nat}(h:aD4.elem t=true):K2 prog t=true:=List.all_eq_true.1 aBO t (List.mem_of_elem_eq_true h)
def kv:List (Nat×Nat):=[(22,3),(32,29),(33,74),(44,37),(45,164),(50,47),(85,230),(95,4),(102,9),(108,76),(115,39),(151,27),(169,31)]
def aAd(t:Nat):Nat:=(kv.lookup t).getD 0
theorem aEd:(kv.all λ p=>(match prog.underlying p.1 with|some (.slice e)=>Nat.beq e p.2&&Nat.beq (aAd p.1) p.2|_=>false))=true:=by kernel_rfl
theorem aD6{t:Nat}(h:(kv.any λ p=>Nat.beq p.1 t)=true):prog.underlying t=some (.slice (aAd t)):=by
 obtain⟨p,hp,ht⟩:=List.any_eq_true.1 h;have h2:=List.all_eq_true.1 aEd p hp;rw[<- eS ht];cases hu:prog.underlying p.1 with
 | none=>rw[hu] at h2;simp at h2
 | some d=>rw[hu] at h2;cases d<;>simp only[Bool.false_eq_true] at h2;simp only[Bool.and_eq_true] at h2;rw[eS h2.1,eS h2.2]
def aDt:List (Nat×Nat):=[(3,1),(4,1),(9,1),(27,1),(29,2),(31,1),(37,1),(39,5),(47,14),(74,1),(76,2),(164,2),(230,2)]
theorem aAX:(aDt.all λ p=>(prog.info? p.1).map (·.size)==some p.2)=true:=by kernel_rfl
theorem vB{e s:Nat}(h:(aDt.any λ p=>Nat.beq p.1 e&&Nat.beq p.2 s)=true):(prog.info? e).map (·.size)=some s:=by obtain⟨p,hp,ht⟩:=List.any_eq_true.1 h;simp only[Bool.and_eq_true] at ht;have h2:=List.all_eq_true.1 aAX p hp;rw[<- eS ht.1,<- eS ht.2];exact eq_of_beq h2
theorem aBU{t:Nat}(h:Nat.beq t 9=true):prog.underlying t=some .string:=by rw[eS h];kernel_rfl
theorem yw{t:Nat}(h:Nat.beq t 164=true):Mu prog t=true:=by rw[eS h];kernel_rfl
def aCH:List (Nat×IntKind):=[(2,.i64),(3,.i64),(5,.u8),(12,.u64),(21,.i32),(27,.i64),(31,.u64),(37,.i64),(62,.i64),(209,.u64),(255,.u32)]
theorem aB8:(aCH.all λ p=>zL prog p.1 p.2)=true:=by kernel_rfl
theorem tU{t:Nat}{k:IntKind}(h:(aCH.any λ p=>Nat.beq p.1 t&&p.2==k)=true):zL prog t k=true:=by obtain⟨p,hp,ht⟩:=List.any_eq_true.1 h;simp only[Bool.and_eq_true] at ht;have h2:=List.all_eq_true.1 aB8 p hp;rw[eS ht.1,eq_of_beq ht.2] at h2;exact h2
def z8(P:Program)(t e s:Nat):Bool :=
 (match P.underlying t with|some (.slice e')=>Nat.beq e' e|_=>false)&&(match P.info? e with
  | some i=>Nat.beq i.size s&&Nat.ble i.bytes 256
  | none=>false)
theorem lU{P:Program}{t e:Nat}{z:Value}{zc:List Value}(h:z8 P t e zc.length=true)(hz:dJ P e=some z)(hzc:z.cells=⟨zc⟩):dX P t e zc:=by
 unfold z8 at h;simp only[Bool.and_eq_true] at h;refine⟨?_,?_⟩
 ·cases hu:P.underlying t with
  | none=>simp[hu] at h
  | some d=>rw[hu] at h;cases d<;>simp only[Bool.false_eq_true,false_and] at h;rw[eS h.1]
 ·cases hi:P.info? e with
  | none=>simp[hi] at h
  | some i=>rw[hi] at h;simp only[Bool.and_eq_true] at h;exact⟨i,z,rfl,by simpa[dJ,hi] using hz,hzc,eS h.2.1,Nat.le_of_ble_eq_true h.2.2⟩
theorem bl:dJ prog 3=some (.int .i64 0):=by kernel_rfl
theorem Il:dX prog 22 3 [.int .i64 0]:=lU (by kernel_rfl) bl rfl
theorem Ku{t:Nat}(h:Nat.beq t 22=true):dX prog t 3 [.int .i64 0]:=by rw[eS h];exact Il
theorem Z0:dJ prog 37=some (.int .i64 0):=by kernel_rfl
theorem rG:dX prog 44 37 [.int .i64 0]:=lU (by kernel_rfl) Z0 rfl
theorem Mc{t:Nat}(h:Nat.beq t 44=true):dX prog t 37 [.int .i64 0]:=by rw[eS h];exact rG
theorem U2:dJ prog 164=some (.agg ⟨[.string ⟨#[]⟩,.int .u64 0]⟩):=by kernel_rfl
theorem bk:dX prog 45 164 [.string ⟨#[]⟩,.int .u64 0]:=lU (by kernel_rfl) U2 rfl
theorem qW{t:Nat}(h:Nat.beq t 45=true):dX prog t 164 [.string ⟨#[]⟩,.int .u64 0]:=by rw[eS h];exact bk
def zr:List Value:=[.int .i64 0,.int .i64 0,.int .i64 0,.int .u64 0,.slice none 0 0,.int .u64 0,.string ⟨#[]⟩,.int .u64 0,.slice none 0 0,.int .i64 0,.int .i64 0,.int .i64 0,.int .i64 0,.int .i64 0]
theorem U7:dJ prog 47=some (.agg ⟨[.int .i64 0,.int .i64 0,.int .i64 0,.int .u64 0,.slice none 0 0,.int .u64 0,.string ⟨#[]⟩,.int .u64 0,.slice none 0 0,.int .i64 0,.int .i64 0,.int .i64 0,.int .i64 0,.int .i64 0]⟩):=by kernel_rfl
theorem tH:dX prog 50 47 zr:=lU (by kernel_rfl) U7 rfl
theorem Ii{t:Nat}(h:Nat.beq t 50=true):dX prog t 47 zr:=by rw[eS h];exact tH
theorem Tm:dJ prog 4=some (.bool false):=by kernel_rfl
theorem Z3:dX prog 95 4 [.bool false]:=lU (by kernel_rfl) Tm rfl
theorem Iw{t:Nat}(h:Nat.beq t 95=true):dX prog t 4 [.bool false]:=by rw[eS h];exact Z3
theorem cq:dJ prog 9=some (.string ⟨#[]⟩):=by kernel_rfl
theorem j4:dX prog 102 9 [.string ⟨#[]⟩]:=lU (by kernel_rfl) cq rfl
theorem Zh{t:Nat}(h:Nat.beq t 102=true):dX prog t 9 [.string ⟨#[]⟩]:=by rw[eS h];exact j4
end
end Go.Proofs.YtbajmaoegmbfgaaGreat

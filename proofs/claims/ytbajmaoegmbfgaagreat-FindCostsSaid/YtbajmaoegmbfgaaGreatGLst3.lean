/- Merged. -/
import Derived.Test.YtbajmaoegmbfgaaGreatGFz
import Derived.Test.YtbajmaoegmbfgaaGreatGFun
import Derived.Lib.SliceRun
import Derived.Laws.Pointers
import Derived.Test.YtbajmaoegmbfgaaGreatProg
set_option linter.unusedSimpArgs false
set_option linter.unusedVariables false
namespace Go.Ct
open Go Go.RowKit
section
section
variable{P:Program}{n:Nat}{S:List (Nat×Value)}
variable{w0 w w':World}{M:List Nat}{H H':List (Nat×Obj)}{A F F':Fr}{O O':List Ow}{G:World->Prop}
variable{d:Nat}{ty:TypeId}{pos:String}{af:Array Edge}{gd:Option (Nat×Bool)}{dst:Option Nat}{x y z:Operand}{t t2 e:TypeId}{p a:Option Addr}{i m k c c2:Nat}
def V8(l:List ByteArray):List Value:=l.map Value.string
theorem dk{lst:List ByteArray}{kk:IntKind}(hx:ev S x=.slice a m c)(hy:ev S y=.int kk ((k:Nat):Int))(ht:P.underlying t=some (.slice e))(hs:one P e=true)(hf:rO A F O a (V8 lst))(h1:k<m)(h2:k<lst.length) :
  aL P S (SF w0 M H A F O) ⟨some d,.indexAddr t x y,ty,pos,af,gd⟩ (.pointer (some ⟨dE a,eH a+k,none⟩)):=⟨λ w hw =>
 (Bs (G:=SF w0 M H A F O) hx hy ht hs ((hw.cl hf).ptr (by simp only[V8,List.length_map];omega)) h1).run w hw⟩
theorem w9{lst:List ByteArray}{q:Nat}(hx:ev S x=.pointer (some ⟨dE a,eH a+q,none⟩))(ht:one P t=true)(hf:rO A F O a (V8 lst))(hq:q<lst.length) :
  aL P S (SF w0 M H A F O) ⟨some d,.load t x,ty,pos,af,gd⟩ (.string (lst.getD q ⟨#[]⟩)):=nZ hx ht (λ w hw=>hw.cl hf) (by simp[V8,hq,List.getD])
def On(l:List Nd):List Value:=l.flatMap Nd.cells
theorem Eh:∀l:List Nd,(On l).length=14*l.length
 | []=>rfl
 | _::r=>by have:=Eh r;simp only[On,List.flatMap_cons,List.length_append,List.length_cons] at this ⊢;rw[this];simp only[Nd.cells,List.length_cons,List.length_nil];omega
theorem X1:∀{l:List Nd} {k j:Nat},k<l.length->j<14->(On l)[14*k+j]?=(l.getD k Nd.zero).cells[j]?
 | [],_,_,h,_=>by simp at h
 | n::r,0,j,_,hj=>by
  simp only[On,List.flatMap_cons,Nat.mul_zero,Nat.zero_add,List.getD_cons_zero]
  rw[List.getElem?_append_left (by simp only[Nd.cells,List.length_cons,List.length_nil];omega)]
 | n::r,k+1,j,h,hj=>by
  have:=X1 (l:=r) (k:=k) (j:=j) (by simpa using h) hj
  simp only[On,List.flatMap_cons,List.getD_cons_succ] at this ⊢
  rw[List.getElem?_append_right (by simp only[Nd.cells,List.length_cons,List.length_nil];omega),<- this]
  congr 1
  simp only[Nd.cells,List.length_cons,List.length_nil]
  omega
theorem Vq{m c:Nat}{i:Int}{kk:IntKind}(hx:ev S x=.slice a m c)(hy:ev S y=.int kk ((k:Nat):Int))(ht:P.underlying t=some (.slice e))(hs:jO P e 14=true)(ha:a=some ⟨dE a,eH a,none⟩)(h1:k<m) :
  aL P S G ⟨some d,.indexAddr t x y,ty,pos,af,gd⟩ (.pointer (some ⟨dE a,eH a+14*k,none⟩)):=⟨λ w _=>by obtain⟨_,_,_,hsz⟩:=iG hs;have:=yE (P:=P) (a:=a) (m:=m) (c:=c) (k:=kk) ht hsz ha (i:=(k:Int)) (by omega) (by omega) w;simp only[Int.toNat_natCast,Nat.mul_comm k 14] at this;simp[execOp,hx,hy,this]⟩
theorem mb{lst:List Nd}{kk:IntKind}(hx:ev S x=.slice a m c)(hy:ev S y=.int kk ((k:Nat):Int))(ht:P.underlying t=some (.slice e))(hs:jO P e 14=true)(hf:rO A F O a (On lst))(h1:k<m)(h2:k<lst.length) :
  aL P S (SF w0 M H A F O) ⟨some d,.indexAddr t x y,ty,pos,af,gd⟩ (.pointer (some ⟨dE a,eH a+14*k,none⟩)):=⟨λ w hw =>
 (Vq (i:=0) (G:=SF w0 M H A F O) hx hy ht hs ((hw.cl hf).ptr (by rw[Eh];omega)) h1).run w hw⟩
theorem vo{lst:List Nd}{q:Nat}(hx:ev S x=.pointer (some ⟨dE a,eH a+14*q,none⟩))(ht:jO P t 14=true)(hf:rO A F O a (On lst))(hq:q<lst.length) :
  aL P S (SF w0 M H A F O) ⟨some d,.load t x,ty,pos,af,gd⟩ (lst.getD q Nd.zero).v:=⟨λ w hw=>by
 have hcl:=hw.cl hf;obtain⟨dd,hu,hm,hi⟩:=iG ht;have hagg:(isAgg t).run P w=.ok true w:=by unfold isAgg;rw[Sem.run_bind,run_underlying hu w];cases dd<;>simp_all
 have hl:(loadCells ⟨dE a,eH a+14*q,none⟩ 14).run P w=.ok ⟨(lst.getD q Nd.zero).cells⟩ w:=by
  have:=run_loadCells_list (P:=P) w ⟨dE a,eH a+14*q,none⟩ (lst.getD q Nd.zero).cells (λ j z hz=>by have hj:j<14:=(List.getElem?_eq_some_iff.1 hz).1;rw[Addr.add_lit];have h3:=(hcl.at_ (14*q+j) z (by rw[X1 hq hj];exact hz)).2;rwa [<- Nat.add_assoc] at h3)
  exact this
 cases hq':P.info? t with
 | none=>rw[hq'] at hi;simp at hi
 | some i=>
  have hs:i.size=14:=by rw[hq'] at hi;simpa using hi
  simp[execOp,hx,Instr.loadAt,Instr.sureAddr,loadVar,hagg,Go.sizeOf,typeInfo,hq',hs,hl,Nd.v]⟩
def bc(v n:Int):Int:=IntKind.i64.wrap ((IntKind.u64.wrap v).tmod (IntKind.u64.wrap n))
def tvN(l:List Int)(k:Nat)(n:Int):Nat:=if k<l.length then(bc (l.getD k 0) n).toNat else 0
def pF(l:List Int)(k:Nat):Nat:=if k<l.length then k+1 else k
theorem wrap_u64(i:Int):IntKind.u64.wrap i=i%18446744073709551616:=by simp[IntKind.wrap,IntKind.signed,IntKind.bits]
theorem Ue{v n:Int}(h0:0<n)(h1:n<=9223372036854775807):0<=bc v n/\bc v n<n:=by unfold bc;rw[wrap_u64,wrap_u64,Int.emod_eq_of_lt (a:=n) (by omega) (by omega)];have h2:=Int.emod_nonneg v (show(18446744073709551616:Int)≠0 by decide);have h3:=Int.tmod_lt_of_pos (v%18446744073709551616) h0;have h4:=Int.tmod_nonneg n h2;rw[wrap_i64 (by omega) (by omega)];exact⟨h4,h3⟩
def di(T:TypeId)(a:Option Addr)(l:List Int)(c k:Nat):Obj:=.cells ⟨[.slice a l.length c,.int .i64 ((k:Nat):Int)]⟩ T (0,0)
structure M3(w:World)(T:TypeId)(b:Nat)(a:Option Addr)(l:List Int)(c k:Nat):Prop where
 obj:w.heap[b]?=some (di T a l c k)
 cl:Cl w a (aH l)
 ne:aH l≠[]->dE a≠b
 len:l.length<=17592186043904
theorem SF.tape(h:SF w0 M H A F O w){T b l}(ha:At H i b (di T a l c k))(hf:rO A F [] a (aH l))(hl:l.length<=17592186043904):M3 w T b a l c k:=by
 refine⟨h.st.at ha,?_,λ hc e=>h.apart hf hc (e▸List.mem_append_left _ (List.mem_map.2 ⟨_,ha.mem,rfl⟩)),hl⟩;cases hf with
 | bR h1=>exact h.cl (.bR h1)
 | new h1=>exact h.cl (.new h1)
 | own h1=>cases h1
 | hdr h1 _=>cases h1
theorem M3.start{T b l}(h:M3 w T b a l c k):SF w [b] [(b,.cells ⟨[.slice a l.length c,.int .i64 ((k:Nat):Int)]⟩ T (0,0))] [(a,aH l)] [] [] w:=by
 refine⟨⟨rfl,rfl,rfl,Nat.le_refl _,λ _ _ _=>rfl,λ p hp=>?_,λ p hp=>?_,by simp⟩,λ f hf=>?_,λ _ h=>(List.not_mem_nil h).elim,λ _ h=>(List.not_mem_nil h).elim,by simp[Ks]⟩;·simp only[List.mem_singleton] at hp;subst hp;exact h.obj
 ·simp only[List.mem_singleton] at hp;subst hp;exact .inl (by simp)
 ·simp only[List.mem_singleton] at hf;subst hf;exact⟨h.cl,λ hc=>by simp only[Ks,List.map_cons,List.map_nil,List.flatMap_nil,List.append_nil,List.mem_singleton];exact h.ne hc⟩
end
end
section
section
variable{w0 w w':World}{M:List Nat}{H:List (Nat×Obj)}{A F:Fr}{O:List Ow}
structure aR where
 nd:Nd
 xs:List Int
 ys:List Pr
structure Nv where
 kind:Int
 gen:Int
 main:Int
 bm:Int
 xs:List Int
 hash:Int
 key:ByteArray
 val:Int
 ys:List Pr
 prev:Int
 bR:Int
 exp:Int
 new:Int
 status:Int
def Nd.c(n:Nd)(xs:List Int)(ys:List Pr):Nv:=⟨n.kind,n.gen,n.main,n.bm,xs,n.hash,n.key,n.val,ys,n.prev,n.bR,n.exp,n.new,n.status⟩
def aR.c(v:aR):Nv:=v.nd.c v.xs v.ys
theorem xP{a b:Nd}{x1 x2:List Int}{y1 y2:List Pr}:tG a b x1 x2 y1 y2↔a.c x1 y1=b.c x2 y2:=by simp[tG,Nd.c]
def aR.fr(v:aR):Fr:=[(v.nd.brA,aH v.xs),(v.nd.prA,dI v.ys)]
def aR.zero:aR:=⟨Nd.zero,[],[]⟩
def aP(L:List aR):Fr:=L.flatMap aR.fr
def jB(L:List aR):List Value:=L.flatMap (·.nd.cells)
theorem Wy(L:List aR):jB L=On (L.map (·.nd)):=by simp[jB,On,List.flatMap_map]
theorem um{L:List aR}{k:Nat}:(L.map (·.nd)).getD k Nd.zero=(L.getD k aR.zero).nd:=by rw[jA,jA,List.getElem?_map];cases L[k]?<;>rfl
theorem jH(n:Nd):n.cells.length=14:=rfl
theorem Je(a b:List aR):jB (a++b)=jB a++jB b:=by simp[jB]
theorem s5(v:aR):jB [v]=v.nd.cells:=by simp[jB]
theorem kM(a:List aR)(v:aR):jB (a++[v])=jB a++v.nd.cells:=by rw[Je,s5]
theorem cU(a b:List aR):aP (a++b)=aP a++aP b:=by simp[aP]
theorem eC:∀L:List aR,(jB L).length=L.length*14
 | []=>rfl
 | v::L=>by have:=eC L;simp only[jB,List.flatMap_cons,List.length_append,jH,List.length_cons] at this ⊢;omega
theorem j7:∀{L:List aR} {k j:Nat} {v:Value},k<L.length->(L.getD k aR.zero).nd.cells[j]?=some v->(jB L)[14*k+j]?=some v
 | v::L,0,j,u,_,hj=>by
  have hlt:j<14:=by
   have:=(List.getElem?_eq_some_iff.1 hj).1
   simpa[jH] using this
  simp only[jB,List.flatMap_cons,Nat.mul_zero,Nat.zero_add]
  rw[List.getElem?_append_left (by rw[jH];exact hlt)]
  simpa using hj
 | v::L,k+1,j,u,hk,hj=>by
  simp only[jB,List.flatMap_cons]
  rw[List.getElem?_append_right (by rw[jH];omega),jH,show 14*(k+1)+j-14=14*k+j by omega]
  exact j7 (L:=L) (by simpa using hk) (by simpa using hj)
theorem Ee(n:Nd):n.cells.all (·.oneCell')=true:=rfl
theorem A7:∀L:List aR,(jB L).all (·.oneCell')=true
 | []=>rfl
 | v::L=>by have:=A7 L;simp only[jB,List.flatMap_cons,List.all_append,Bool.and_eq_true] at this ⊢;exact⟨Ee _,this⟩
theorem tF{L:List aR}{f:Option Addr×List Value}:f∈aP L↔∃v∈L,f∈v.fr:=by simp[aP]
theorem fZ{L:List aR}{k:Nat}(hk:k<L.length):L.getD k aR.zero∈L:=by rw[jA,List.getElem?_eq_getElem hk];exact List.getElem_mem hk
theorem Fz{L:List aR}{k:Nat}(hk:k<L.length):((L.getD k aR.zero).nd.brA,aH (L.getD k aR.zero).xs)∈aP L:=tF.2 ⟨_,fZ hk,by simp[aR.fr]⟩
theorem Fy{L:List aR}{k:Nat}(hk:k<L.length):((L.getD k aR.zero).nd.prA,dI (L.getD k aR.zero).ys)∈aP L:=tF.2 ⟨_,fZ hk,by simp[aR.fr]⟩
structure aR.Fit(v:aR):Prop where
 brN:v.nd.brN=v.xs.length
 prN:v.nd.prN=v.ys.length
 brS:v.xs.length<=35184372088832
 prS:v.ys.length<=11728124029610
theorem aR.Fit.sM{v:aR}(h:v.Fit){w:World}(hb:Cl w v.nd.brA (aH v.xs))(hp:Cl w v.nd.prA (dI v.ys)):sE w v.nd v.xs v.ys :=⟨h.brN,h.prN,hb,hp,by have:=h.brS;omega,by have:=h.prS;omega⟩
def Fits(L:List aR):Prop:=∀v∈L,v.Fit
theorem Fits.at{L:List aR}(h:Fits L){k:Nat}(hk:k<L.length):(L.getD k aR.zero).Fit:=h _ (fZ hk)
theorem R8:aR.zero.Fit:=⟨rfl,rfl,by decide,by decide⟩
structure rQ(w:World)(L:List aR)(cs:List Int)(pn pc:Option Addr):Prop where
 nds:Cl w pn (jB L)
 cls:Cl w pc (aH cs)
 fam:∀f∈aP L,Cl w f.1 f.2
 fit:Fits L
theorem rQ.start{w:World}{L:List aR}{cs:List Int}{pn pc:Option Addr}(h:rQ w L cs pn pc):SF w [] [] ((pn,jB L)::(pc,aH cs)::aP L) [] [] w:=SF.begin λ f hf=>by
 rcases List.mem_cons.1 hf with rfl|hf;·exact h.nds
 rcases List.mem_cons.1 hf with rfl|hf;·exact h.cls
 ·exact h.fam f hf
theorem SF.Ql{L:List aR}{f1 f2:Option Addr×List Value}(h:SF w0 M H (f1::f2::aP L) F O w)(hfit:Fits L){k:Nat}(hk:k<L.length):sE w (L.getD k aR.zero).nd (L.getD k aR.zero).xs (L.getD k aR.zero).ys :=(hfit.at hk).sM (h.bR _ (List.mem_cons_of_mem _ (List.mem_cons_of_mem _ (Fz hk)))).1 (h.bR _ (List.mem_cons_of_mem _ (List.mem_cons_of_mem _ (Fy hk)))).1
theorem SF.aCv{L:List aR}(h:SF w0 M H (aP L) F O w)(hfit:Fits L){k:Nat}(hk:k<L.length):sE w (L.getD k aR.zero).nd (L.getD k aR.zero).xs (L.getD k aR.zero).ys :=(hfit.at hk).sM (h.bR _ (Fz hk)).1 (h.bR _ (Fy hk)).1
theorem SF.aEj{L:List aR}(h:SF w0 M H A F O w)(hF:∀f∈aP L,f.2=[]∨f∈A∨f∈F)(hfit:Fits L){v:aR}(hv:v∈L):sE w v.nd v.xs v.ys:=by
 have key:∀f∈aP L,Cl w f.1 f.2:=λ f hf=>by
  rcases hF f hf with h0|h1|h1
  ·rw[h0];exact Cl.nil _ _
  ·exact(h.bR f h1).1
  ·exact(h.new f h1).1
 exact(hfit v hv).sM (key (v.nd.brA,aH v.xs) (tF.2 ⟨v,hv,by simp[aR.fr]⟩)) (key (v.nd.prA,dI v.ys) (tF.2 ⟨v,hv,by simp[aR.fr]⟩))
variable{P:Program}{S:List (Nat×Value)}{G:World->Prop}{d:Nat}{ty:TypeId}{pos:String}{af:Array Edge}{gd:Option (Nat×Bool)}{x y:Operand}{t t2 e:TypeId}{p a:Option Addr}{i m k c c2:Nat}
variable{q:Nat}{zc:List Value}
theorem sP{L:List aR}{kk:IntKind}(hx:ev S x=.slice a m c)(hy:ev S y=.int kk ((k:Nat):Int))(ht:P.underlying t=some (.slice e))(hs:jO P e 14=true)(hf:rO A F O a (jB L))(h1:k<m)(h2:k<L.length) :
  aL P S (SF w0 M H A F O) ⟨some d,.indexAddr t x y,ty,pos,af,gd⟩ (.pointer (some ⟨dE a,eH a+14*k,none⟩)):=mb (lst:=L.map (·.nd)) hx hy ht hs (by rw[<- Wy];exact hf) h1 (by simpa using h2)
theorem Wl{L:List aR}(hx:ev S x=.pointer (some ⟨dE a,eH a+14*q,none⟩))(ht:jO P t 14=true)(hf:rO A F O a (jB L))(hq:q<L.length) :
  aL P S (SF w0 M H A F O) ⟨some d,.load t x,ty,pos,af,gd⟩ (L.getD q aR.zero).nd.v:=by have:=vo (P:=P) (S:=S) (w0:=w0) (M:=M) (H:=H) (A:=A) (F:=F) (O:=O) (d:=d) (ty:=ty) (pos:=pos) (af:=af) (gd:=gd) (lst:=L.map (·.nd)) hx ht (by rw[<- Wy];exact hf) (by simpa using hq);rwa [um] at this
theorem xS{L:List aR}(hx:ev S x=.pointer (some ⟨dE a,eH a+14*q,none⟩))(ht:one P t=true)(hf:rO A F O a (jB L))(hq:q<L.length) :
  aL P S (SF w0 M H A F O) ⟨some d,.load t x,ty,pos,af,gd⟩ (.int .i64 (L.getD q aR.zero).nd.kind):=nZ (q:=14*q) hx ht (λ w hw=>hw.cl hf) (j7 (j:=0) hq rfl)
theorem ua{L:List aR}(v:aR)(hx:ev S x=.slice p m c)(hy:ev S y=.slice a 1 c2)(ho:yQ O i p (jB L) c e 14)(hm:L.length=m)(hf:rO A F O a v.nd.cells)(he:dY P t e zc)(hz:zc.length=14)(ht2:P.underlying t2=some (.slice e))(hb:m+1<=549755813888) :
  bE P S (SF w0 M H A F O) ⟨some d,.call {callee:=.builtin .append,args := #[x,y],argTypes := #[t,t2]},ty,pos,af,gd⟩ (Option Addr×Nat) (λ q=>.slice q.1 (m+1) q.2)
   (λ q w=>m+1<=q.2/\SF w0 M H A F (lP O i ⟨q.1,jB (L++[v]),q.2,e,14⟩) w):=by rw[kM];exact fX hx hy ho (by rw[eC,hm]) hf (by simp[Nd.cells]) (Ee _) he hz (by decide) ht2 hb
theorem db{L L2:List aR}(hx:ev S x=.slice p m c)(hy:ev S y=.slice a k c2)(ho:yQ O i p (jB L) c e 14)(hm:L.length=m)(hf:rO A F O a (jB L2))(hk:L2.length=k)(he:dY P t e zc)(hz:zc.length=14)(ht2:P.underlying t2=some (.slice e))(hb:m+k<=549755813888) :
  bE P S (SF w0 M H A F O) ⟨some d,.call {callee:=.builtin .append,args := #[x,y],argTypes := #[t,t2]},ty,pos,af,gd⟩ (Option Addr×Nat) (λ q=>.slice q.1 (m+k) q.2)
   (λ q w=>m+k<=q.2/\SF w0 M H A F (lP O i ⟨q.1,jB (L++L2),q.2,e,14⟩) w):=by rw[Je];exact fX hx hy ho (by rw[eC,hm]) hf (by rw[eC,hk]) (A7 _) he hz (by decide) ht2 hb
theorem v9{k:Nat}{k1 k2:IntKind}(hx:ev S x=.int k1 0)(hy:ev S y=.int k2 ((k:Nat):Int))(he:dY P t e zc)(hz:zc.length=14)(hk:k<=1099511627776) :
  bE P S (SF w0 M H A F O) ⟨some d,.makeSlice t x y,ty,pos,af,gd⟩ Nat (λ b=>.slice (some ⟨b,0,none⟩) 0 k) (λ b=>SF w0 M H A F (⟨some ⟨b,0,none⟩,jB [],k,e,14⟩::O)):=by have:=Vv (P:=P) (S:=S) (w0:=w0) (M:=M) (H:=H) (A:=A) (F:=F) (O:=O) (d:=d) (ty:=ty) (pos:=pos) (af:=af) (gd:=gd) (m:=0) (k:=k) (k1:=k1) (k2:=k2) (x:=x) (y:=y) (cs:=jB []) (by simpa using hx) hy he (Nat.zero_le _) hk (List.eq_nil_of_length_eq_zero (by rw[kV];simp));rwa [hz] at this
section
variable{m n:Nat}{t':TypeId}
theorem pS(hx:ev S x=.int .i64 ((m:Nat):Int))(hy:ev S y=.int .i64 ((n:Nat):Int))(h:m+n<=9223372036854775807) :
  aL P S G ⟨some d,.binOp .add t x y t',ty,pos,af,gd⟩ (.int .i64 ((m+n:Nat):Int)):=by have:=nK (P:=P) (G:=G) (d:=d) (ty:=ty) (pos:=pos) (af:=af) (gd:=gd) (t:=t) (t':=t') hx hy;rw[wrap_i64 (by omega) (by omega)] at this;rw[Int.natCast_add];exact this
theorem jX(hx:ev S x=.int .i64 ((m:Nat):Int))(hy:ev S y=.int .i64 ((n:Nat):Int))(h:n<=m)(h2:m<=9223372036854775807) :
  aL P S G ⟨some d,.binOp .sub t x y t',ty,pos,af,gd⟩ (.int .i64 ((m-n:Nat):Int)):=by have:=Kj (P:=P) (G:=G) (d:=d) (ty:=ty) (pos:=pos) (af:=af) (gd:=gd) (t:=t) (t':=t') hx hy;rw[wrap_i64 (by omega) (by omega)] at this;rw[Int.natCast_sub h];exact this
end
theorem jT{P:Program}{S:List (Nat×Value)}{G:World->Prop}{d:Nat}{ty:TypeId}{pos:String}{af:Array Edge}{gd:Option (Nat×Bool)}{x:Operand}{vs:List Value}{k:Nat}{v:Value}(hx:ev S x=.tuple ⟨vs⟩)(hk:vs[k]?=some v):aL P S G ⟨some d,.extract x k,ty,pos,af,gd⟩ v:=⟨λ w _=>by simp[execOp,hx,Instr.extract,hk]⟩
theorem Nn{a:Int}(hx:ev S x=.int .i64 a)(hy:ev S y=.int .i64 1)(h:1<=a)(h2:a<=9223372036854775807):aL P S G ⟨some d,.binOp .sub t x y t2,ty,pos,af,gd⟩ (.int .i64 (((a-1).toNat:Nat):Int)):=by have:=Mv (P:=P) (G:=G) (d:=d) (ty:=ty) (pos:=pos) (af:=af) (gd:=gd) (t:=t) (t':=t2) hx hy (by omega);rwa [show a-1=(((a-1).toNat:Nat):Int) by omega] at this
theorem R5:∀(L:List aR) (k:Nat),(jB L).drop (k*14)=jB (L.drop k)
 | [],k=>by simp[jB]
 | v::L,0=>by simp
 | v::L,k+1=>by have:=R5 L k;rw[List.drop_succ_cons,<- this];show(v.nd.cells++jB L).drop ((k+1)*14)=_;rw[List.drop_append,List.drop_eq_nil_of_le (by rw[jH];omega),jH,List.nil_append];congr 1;omega
theorem ta{L:List aR}(hx:ev S x=.slice a m c)(hy:ev S y=.int .i64 ((k:Nat):Int))(ht:P.underlying t=some (.slice e))(hs:(P.info? e).map (·.size)=some 14)(hk:k<=m)(hf:rO A F [] a (jB L))(hmc:m<=c)(hl:L.length=m) :
  bE P S (SF w0 M H A F O) ⟨some d,.slice t x (some y) none none,ty,pos,af,gd⟩ (Option Addr) (λ p=>.slice p (m-k) (c-k)) (λ p=>SF w0 M H ((p,jB (L.drop k))::A) F O):=by have:=u9 (P:=P) (w0:=w0) (M:=M) (H:=H) (O:=O) (d:=d) (ty:=ty) (pos:=pos) (af:=af) (gd:=gd) hx hy ht hs hk hf hmc (by rw[eC,hl]);rw[R5] at this;exact this
theorem SF.tg(h:SF w0 M H A F O w){L:List aR}{T:TypeId}(ho:yQ O i p (jB L) c T 14):L.length<=c:=by
 rcases(h.own _ ho.mem).1 with⟨_,h2,_⟩|⟨b,rest,_,_,h3⟩
 ·have h2':jB L=[]:=h2;have:(jB L).length=0:=by rw[h2'];rfl
  rw[eC] at this;omega
 ·have h3':(jB L++rest).length=c*14:=h3;rw[List.length_append,eC] at h3';omega
theorem aU{b off:Nat}{cs vs:List Value}{T:TypeId}(hx:ev S x=.pointer (some ⟨b,off,none⟩))(ha:At H i b (.cells ⟨cs⟩ T (0,0)))(ht:jO P t k=true)(hv:(cs.drop off).take k=vs)(hl:vs.length=k) :
  aL P S (SF w0 M H A F O) ⟨some d,.load t x,ty,pos,af,gd⟩ (.agg ⟨vs⟩):=⟨λ w hw=>by
 have hb:=hw.st.at ha;have hcl:Cl w (some ⟨b,0,none⟩) cs:=Cl.block (pre:=[]) (rest:=[]) (by simpa using hb) rfl;obtain⟨dd,hu,hm,hi⟩:=iG ht;have hagg:(isAgg t).run P w=.ok true w:=by unfold isAgg;rw[Sem.run_bind,run_underlying hu w];cases dd<;>simp_all
 have hlc:(loadCells ⟨b,off,none⟩ k).run P w=.ok ⟨vs⟩ w:=by
  have:=run_loadCells_list (P:=P) w ⟨b,off,none⟩ vs (λ j z hz=>by
   rw[Addr.add_lit];have hj:j<k:=by rw[<- hl];exact(List.getElem?_eq_some_iff.1 hz).1
   have h1:cs[off+j]?=some z:=by rw[<- hv,List.getElem?_take,if_pos hj,List.getElem?_drop] at hz;exact hz
   have h3:=(hcl.at_ (off+j) z h1).2;simpa[dE,eH] using h3)
  rwa [hl] at this
 cases hq':P.info? t with
 | none=>rw[hq'] at hi;simp at hi
 | some inf=>
  have hs:inf.size=k:=by rw[hq'] at hi;simpa using hi
  simp[execOp,hx,Instr.loadAt,Instr.sureAddr,loadVar,hagg,Go.sizeOf,typeInfo,hq',hs,hlc]⟩
def Az(P:Program)(t:TypeId)(k:Nat):Option Nat :=
 match P.underlying t with
 | some (.struct fs)=>match fs[k]? with
  | some f=>if one P f.type then some f.offset else none
  | none=>none
 | _=>none
theorem Vy{cs:List Value}{off:Nat}{v:Value}(hx:ev S x=.agg ⟨cs⟩)(hf:Az P t k=some off)(hv:cs[off]?=some v):aL P S G ⟨some d,.field t x k,ty,pos,af,gd⟩ v:=⟨λ w _=>by
 unfold Az at hf;cases hu:P.underlying t with
 | none=>simp[hu] at hf
 | some dd=>
  cases dd<;>simp[hu] at hf;rename_i fs;cases hk:fs[k]? with
  | none=>simp[hk] at hf
  | some f=>
   simp only[hk] at hf;split at hf;·rename_i h1;simp only[Option.some.injEq] at hf;subst hf;have hp:=mQ (P:=P) h1 (cs:=⟨cs⟩) (off:=f.offset) (v:=v) (by simpa using hv) w;simp[execOp,hx,Instr.field,run_underlying hu,hk,asAgg,hp]
   ·cases hf⟩
def jW(l:List Bool):List Value:=l.map .bool
variable{l lst:List Bool}
theorem zC(l:List Bool):(jW l).length=l.length:=by simp[jW]
theorem Z9{k:Nat}(h:k<l.length):(jW l)[k]?=some (.bool (l.getD k false)):=by simp[jW,h,List.getD]
theorem Uw(k:Nat):made [.bool false] k=jW (List.replicate k false):=by
 refine List.ext_getElem? λ i=>?_;by_cases hi:i<k;·simp[made,madeCells,jW,Array.getElem?_toList,Array.getElem?_map,Array.getElem?_range,hi,Nat.mod_one]
 ·rw[List.getElem?_eq_none (by rw[kV];simp;omega),List.getElem?_eq_none (by simp[jW];omega)]
theorem xh{m k:Nat}{k1 k2:IntKind}(hx:ev S x=.int k1 ((m:Nat):Int))(hy:ev S y=.int k2 ((k:Nat):Int))(he:dY P t e [.bool false])(hmk:m<=k)(hk:k<=1099511627776) :
  bE P S (SF w0 M H A F O) ⟨some d,.makeSlice t x y,ty,pos,af,gd⟩ Nat (λ b=>.slice (some ⟨b,0,none⟩) m k) (λ b=>SF w0 M H A F (⟨some ⟨b,0,none⟩,jW (List.replicate m false),k,e,1⟩::O)) :=
 Vv hx hy he hmk hk (Uw m)
theorem pD{kk:IntKind}(hx:ev S x=.slice a m c)(hy:ev S y=.int kk ((k:Nat):Int))(ht:P.underlying t=some (.slice e))(hs:one P e=true)(hf:rO A F O a (jW lst))(h1:k<m)(h2:k<lst.length) :
  aL P S (SF w0 M H A F O) ⟨some d,.indexAddr t x y,ty,pos,af,gd⟩ (.pointer (some ⟨dE a,eH a+k,none⟩)):=⟨λ w hw =>
 (Bs (G:=SF w0 M H A F O) hx hy ht hs ((hw.cl hf).ptr (by rw[zC];omega)) h1).run w hw⟩
theorem Bi{q:Nat}(hx:ev S x=.pointer (some ⟨dE a,eH a+q,none⟩))(ht:one P t=true)(hf:rO A F O a (jW lst))(hq:q<lst.length) :
  aL P S (SF w0 M H A F O) ⟨some d,.load t x,ty,pos,af,gd⟩ (.bool (lst.getD q false)):=nZ hx ht (λ w hw=>hw.cl hf) (Z9 hq)
theorem Vp(l:List Bool)(k:Nat)(v:Bool):(jW l).set k (.bool v)=jW (l.set k v):=by simp[jW]
theorem qo{q:Nat}{v:Bool}(hx:ev S x=.pointer (some ⟨dE p,eH p+q,none⟩))(hy:ev S y=.bool v)(ht:one P t=true)(ho:yQ O i p (jW l) c e 1)(hq:q<l.length) :
  bE P S (SF w0 M H A F O) ⟨none,.store t x y,ty,pos,af,gd⟩ Unit (λ _=>undef) (λ _=>SF w0 M H A F (lP O i ⟨p,jW (l.set q v),c,e,1⟩)):=by rw[<- Vp];exact Rr hx hy rfl ht ho (by rw[zC];exact hq)
theorem r5(hx:ev S x=.slice a m c)(hy:ev S y=.slice none 0 0)(ht:P.underlying t=some (.slice e)):aL P S G ⟨some d,.binOp .eql t x y t2,ty,pos,af,gd⟩ (.bool a.isNone):=⟨λ w _=>by have:=Go.Lib.run_eql_slice_nil (P:=P) w t e a m c 0 0 ht;simp[execOp,hx,hy,this,eqGuard]⟩
def Kh(P:Program)(t:TypeId):Bool:=match P.underlying t with|some (.pointer _)=>true|_=>false
theorem Sk(h:Kh P t=true):P.underlying t=some (.pointer (P.pointee t)):=by
 unfold Kh at h;cases hu:P.underlying t with
 | none=>simp[hu] at h
 | some dd=>cases dd<;>simp[hu,Program.pointee] at h ⊢
theorem yi{q:Option Addr}(hx:ev S x=.pointer q)(hy:ev S y=.pointer none)(ht:Kh P t=true):aL P S G ⟨some d,.binOp .eql t x y t2,ty,pos,af,gd⟩ (.bool q.isNone):=⟨λ w _=>by have:=run_eql_pointer_nil (P:=P) w t q (Sk ht);simp[execOp,hx,hy,this,eqGuard]⟩
theorem Wa{q:Option Addr}(hx:ev S x=.pointer q)(hy:ev S y=.pointer none)(ht:Kh P t=true):aL P S G ⟨some d,.binOp .neq t x y t2,ty,pos,af,gd⟩ (.bool (!q.isNone)):=⟨λ w _=>by have:=run_neq_pointer_nil (P:=P) w t q (Sk ht);simp[execOp,hx,hy,this,eqGuard]⟩
end
end
end Go.Ct
namespace Go.Proofs.YtbajmaoegmbfgaaGreat
open Go.Proofs.Tryz
open Go.RowKit Go.Ct
section
def aC9:List Nat:=[2,3,4,5,9,12,15,16,17,20,21,22,23,25,27,30,31,32,33,37,42,44,45,50,56,62,74,85,95,102,108,115,122,123,129,130,151,156,169,209,255,259]
theorem aBS:(aC9.all λ t=>one prog t)=true:=by kernel_rfl
theorem H2{t:Nat}(h:aC9.elem t=true):one prog t=true:=List.all_eq_true.1 aBS t (List.mem_of_elem_eq_true h)
def aDB:List (Nat×Nat):=[(29,2),(35,4),(39,5),(47,14),(52,3),(54,4),(64,8),(76,2),(87,3),(89,25),(114,2),(125,3),(128,4),(132,14),(139,4),(141,17),(153,52),(159,5),(164,2),(230,2)]
variable{t:Nat}
theorem aBE:(aDB.all λ p=>jO prog p.1 p.2)=true:=by kernel_rfl
theorem T8{k:Nat}(h:(aDB.any λ p=>Nat.beq p.1 t&&Nat.beq p.2 k)=true):jO prog t k=true:=by obtain⟨p,hp,ht⟩:=List.any_eq_true.1 h;simp only[Bool.and_eq_true] at ht;have h2:=List.all_eq_true.1 aBE p hp;rwa [eT ht.1,eT ht.2] at h2
theorem zF:dK prog 29=some (.agg ⟨[.int .i64 0,.bool false]⟩):=by kernel_rfl
theorem Gq(h:Nat.beq t 29=true):dK prog t=some (.agg ⟨[.int .i64 0,.bool false]⟩):=by rw[eT h];exact zF
theorem Da(h:Nat.beq t 29=true):structOf prog t [.int .i64 0,.bool false]:=by rw[eT h];exact iH (by kernel_rfl) zF
theorem wE:dK prog 35=some (.agg ⟨[.pointer none,.int .u64 0,.slice none 0 0,.slice none 0 0]⟩):=by kernel_rfl
theorem tJ(h:Nat.beq t 35=true):structOf prog t [.pointer none,.int .u64 0,.slice none 0 0,.slice none 0 0]:=by rw[eT h];exact iH (by kernel_rfl) wE
theorem vM:dK prog 39=some (.agg ⟨[.int .i64 0,.int .i64 0,.int .i64 0,.int .i64 0,.slice none 0 0]⟩):=by kernel_rfl
theorem sI(h:Nat.beq t 39=true):structOf prog t [.int .i64 0,.int .i64 0,.int .i64 0,.int .i64 0,.slice none 0 0]:=by rw[eT h];exact iH (by kernel_rfl) vM
theorem zH:dK prog 47=some (.agg ⟨[.int .i64 0,.int .i64 0,.int .i64 0,.int .u64 0,.slice none 0 0,.int .u64 0,.string ⟨#[]⟩,.int .u64 0,.slice none 0 0,.int .i64 0,.int .i64 0,.int .i64 0,.int .i64 0,.int .i64 0]⟩):=by kernel_rfl
theorem It(h:Nat.beq t 47=true):dK prog t=some (.agg ⟨[.int .i64 0,.int .i64 0,.int .i64 0,.int .u64 0,.slice none 0 0,.int .u64 0,.string ⟨#[]⟩,.int .u64 0,.slice none 0 0,.int .i64 0,.int .i64 0,.int .i64 0,.int .i64 0,.int .i64 0]⟩):=by rw[eT h];exact zH
theorem Dk(h:Nat.beq t 47=true):structOf prog t [.int .i64 0,.int .i64 0,.int .i64 0,.int .u64 0,.slice none 0 0,.int .u64 0,.string ⟨#[]⟩,.int .u64 0,.slice none 0 0,.int .i64 0,.int .i64 0,.int .i64 0,.int .i64 0,.int .i64 0]:=by rw[eT h];exact iH (by kernel_rfl) zH
theorem I3:dK prog 52=some (.agg ⟨[.slice none 0 0,.slice none 0 0,.int .i64 0]⟩):=by kernel_rfl
theorem A5(h:Nat.beq t 52=true):structOf prog t [.slice none 0 0,.slice none 0 0,.int .i64 0]:=by rw[eT h];exact iH (by kernel_rfl) I3
theorem yY:dK prog 54=some (.agg ⟨[.slice none 0 0,.slice none 0 0,.int .i64 0,.int .i64 0]⟩):=by kernel_rfl
theorem vG(h:Nat.beq t 54=true):placeOf prog t [(0,3),(3,1)] [.slice none 0 0,.slice none 0 0,.int .i64 0,.int .i64 0]:=by rw[eT h];exact kI (by kernel_rfl) yY
theorem uU:dK prog 64=some (.agg ⟨[.int .i64 0,.bool false,.int .u64 0,.string ⟨#[]⟩,.int .i64 0,.int .i64 0,.int .i64 0,.bool false]⟩):=by kernel_rfl
theorem C4(h:Nat.beq t 64=true):dK prog t=some (.agg ⟨[.int .i64 0,.bool false,.int .u64 0,.string ⟨#[]⟩,.int .i64 0,.int .i64 0,.int .i64 0,.bool false]⟩):=by rw[eT h];exact uU
theorem Bo(h:Nat.beq t 64=true):placeOf prog t [(0,1),(1,1),(2,1),(3,1),(4,1),(5,1),(6,2)] [.int .i64 0,.bool false,.int .u64 0,.string ⟨#[]⟩,.int .i64 0,.int .i64 0,.int .i64 0,.bool false]:=by rw[eT h];exact kI (by kernel_rfl) uU
theorem oV:dK prog 89=some (.agg ⟨[.int .i64 0,.int .i64 0,.bool false,.int .i64 0,.int .i64 0,.int .i64 0,.int .i64 0,.int .u64 0,.int .u64 0,.string ⟨#[]⟩,.int .u64 0,.int .u64 0,.int .i64 0,.bool false,.bool false,.slice none 0 0,.slice none 0 0,.int .i64 0,.bool false,.int .u64 0,.string ⟨#[]⟩,.int .i64 0,.int .i64 0,.int .i64 0,.bool false]⟩):=by kernel_rfl
theorem vH(h:Nat.beq t 89=true):dK prog t=some (.agg ⟨[.int .i64 0,.int .i64 0,.bool false,.int .i64 0,.int .i64 0,.int .i64 0,.int .i64 0,.int .u64 0,.int .u64 0,.string ⟨#[]⟩,.int .u64 0,.int .u64 0,.int .i64 0,.bool false,.bool false,.slice none 0 0,.slice none 0 0,.int .i64 0,.bool false,.int .u64 0,.string ⟨#[]⟩,.int .i64 0,.int .i64 0,.int .i64 0,.bool false]⟩):=by rw[eT h];exact oV
theorem uK(h:Nat.beq t 89=true):placeOf prog t [(0,1),(1,2),(3,1),(4,1),(5,1),(6,1),(7,1),(8,1),(9,1),(10,1),(11,1),(12,1),(13,1),(14,3),(17,8)] [.int .i64 0,.int .i64 0,.bool false,.int .i64 0,.int .i64 0,.int .i64 0,.int .i64 0,.int .u64 0,.int .u64 0,.string ⟨#[]⟩,.int .u64 0,.int .u64 0,.int .i64 0,.bool false,.bool false,.slice none 0 0,.slice none 0 0,.int .i64 0,.bool false,.int .u64 0,.string ⟨#[]⟩,.int .i64 0,.int .i64 0,.int .i64 0,.bool false]:=by rw[eT h];exact kI (by kernel_rfl) oV
theorem yW:dK prog 114=some (.agg ⟨[.slice none 0 0,.int .i64 0]⟩):=by kernel_rfl
theorem tW(h:Nat.beq t 114=true):structOf prog t [.slice none 0 0,.int .i64 0]:=by rw[eT h];exact iH (by kernel_rfl) yW
theorem Mo:dK prog 125=some (.agg ⟨[.nilIface,.int .i64 0,.bool false]⟩):=by kernel_rfl
theorem Gr(h:Nat.beq t 125=true):placeOf prog t [(0,1),(1,2)] [.nilIface,.int .i64 0,.bool false]:=by rw[eT h];exact kI (by kernel_rfl) Mo
theorem uW:dK prog 128=some (.agg ⟨[.int .i64 0,.int .i64 0,.int .i64 0,.int .i64 0]⟩):=by kernel_rfl
theorem Cr(h:Nat.beq t 128=true):dK prog t=some (.agg ⟨[.int .i64 0,.int .i64 0,.int .i64 0,.int .i64 0]⟩):=by rw[eT h];exact uW
theorem zT(h:Nat.beq t 128=true):structOf prog t [.int .i64 0,.int .i64 0,.int .i64 0,.int .i64 0]:=by rw[eT h];exact iH (by kernel_rfl) uW
theorem xU:dK prog 132=some (.agg ⟨[.int .i64 0,.int .i64 0,.int .i64 0,.int .i64 0,.nilFunc,.nilFunc,.int .i64 0,.bool false,.int .u64 0,.string ⟨#[]⟩,.int .i64 0,.int .i64 0,.int .i64 0,.bool false]⟩):=by kernel_rfl
theorem E1(h:Nat.beq t 132=true):dK prog t=some (.agg ⟨[.int .i64 0,.int .i64 0,.int .i64 0,.int .i64 0,.nilFunc,.nilFunc,.int .i64 0,.bool false,.int .u64 0,.string ⟨#[]⟩,.int .i64 0,.int .i64 0,.int .i64 0,.bool false]⟩):=by rw[eT h];exact xU
theorem Cc(h:Nat.beq t 132=true):placeOf prog t [(0,4),(4,1),(5,1),(6,8)] [.int .i64 0,.int .i64 0,.int .i64 0,.int .i64 0,.nilFunc,.nilFunc,.int .i64 0,.bool false,.int .u64 0,.string ⟨#[]⟩,.int .i64 0,.int .i64 0,.int .i64 0,.bool false]:=by rw[eT h];exact kI (by kernel_rfl) xU
theorem Cp:dK prog 139=some (.agg ⟨[.slice none 0 0,.slice none 0 0,.int .i64 0,.int .i64 0]⟩):=by kernel_rfl
theorem yV(h:Nat.beq t 139=true):structOf prog t [.slice none 0 0,.slice none 0 0,.int .i64 0,.int .i64 0]:=by rw[eT h];exact iH (by kernel_rfl) Cp
theorem Gv:dK prog 141=some (.agg ⟨[.nilIface,.int .i64 0,.int .i64 0,.int .i64 0,.int .i64 0,.nilFunc,.nilFunc,.int .i64 0,.bool false,.int .u64 0,.string ⟨#[]⟩,.int .i64 0,.int .i64 0,.int .i64 0,.bool false,.int .i64 0,.bool false]⟩):=by kernel_rfl
theorem Cj(h:Nat.beq t 141=true):placeOf prog t [(0,1),(1,14),(15,1),(16,1)] [.nilIface,.int .i64 0,.int .i64 0,.int .i64 0,.int .i64 0,.nilFunc,.nilFunc,.int .i64 0,.bool false,.int .u64 0,.string ⟨#[]⟩,.int .i64 0,.int .i64 0,.int .i64 0,.bool false,.int .i64 0,.bool false]:=by rw[eT h];exact kI (by kernel_rfl) Gv
theorem wI:dK prog 153=some (.agg ⟨[.pointer none,.int .i64 0,.int .i64 0,.bool false,.int .i64 0,.int .i64 0,.int .i64 0,.int .i64 0,.int .u64 0,.int .u64 0,.string ⟨#[]⟩,.int .u64 0,.int .u64 0,.int .i64 0,.bool false,.bool false,.slice none 0 0,.slice none 0 0,.int .i64 0,.bool false,.int .u64 0,.string ⟨#[]⟩,.int .i64 0,.int .i64 0,.int .i64 0,.bool false,.slice none 0 0,.slice none 0 0,.slice none 0 0,.slice none 0 0,.int .i64 0,.int .i64 0,.int .i64 0,.int .i64 0,.int .i64 0,.bool false,.int .i64 0,.int .i64 0,.int .i64 0,.int .i64 0,.bool false,.int .i64 0,.bool false,.int .u64 0,.string ⟨#[]⟩,.int .i64 0,.int .i64 0,.int .i64 0,.bool false,.bool false,.slice none 0 0,.slice none 0 0]⟩):=by kernel_rfl
theorem tS(h:Nat.beq t 153=true):placeOf prog t [(0,1),(1,25),(26,1),(27,1),(28,1),(29,1),(30,1),(31,1),(32,1),(33,1),(34,1),(35,1),(36,4),(40,1),(41,8),(49,3)] [.pointer none,.int .i64 0,.int .i64 0,.bool false,.int .i64 0,.int .i64 0,.int .i64 0,.int .i64 0,.int .u64 0,.int .u64 0,.string ⟨#[]⟩,.int .u64 0,.int .u64 0,.int .i64 0,.bool false,.bool false,.slice none 0 0,.slice none 0 0,.int .i64 0,.bool false,.int .u64 0,.string ⟨#[]⟩,.int .i64 0,.int .i64 0,.int .i64 0,.bool false,.slice none 0 0,.slice none 0 0,.slice none 0 0,.slice none 0 0,.int .i64 0,.int .i64 0,.int .i64 0,.int .i64 0,.int .i64 0,.bool false,.int .i64 0,.int .i64 0,.int .i64 0,.int .i64 0,.bool false,.int .i64 0,.bool false,.int .u64 0,.string ⟨#[]⟩,.int .i64 0,.int .i64 0,.int .i64 0,.bool false,.bool false,.slice none 0 0,.slice none 0 0]:=by rw[eT h];exact kI (by kernel_rfl) wI
theorem Dy:dK prog 159=some (.agg ⟨[.nilIface,.int .i64 0,.bool false,.string ⟨#[]⟩,.int .u64 0]⟩):=by kernel_rfl
theorem Ak(h:Nat.beq t 159=true):placeOf prog t [(0,3),(3,1),(4,1)] [.nilIface,.int .i64 0,.bool false,.string ⟨#[]⟩,.int .u64 0]:=by rw[eT h];exact kI (by kernel_rfl) Dy
theorem zA:dK prog 164=some (.agg ⟨[.string ⟨#[]⟩,.int .u64 0]⟩):=by kernel_rfl
theorem Hg(h:Nat.beq t 164=true):dK prog t=some (.agg ⟨[.string ⟨#[]⟩,.int .u64 0]⟩):=by rw[eT h];exact zA
theorem Du(h:Nat.beq t 164=true):structOf prog t [.string ⟨#[]⟩,.int .u64 0]:=by rw[eT h];exact iH (by kernel_rfl) zA
def aCx:List (Nat×Nat):=[(29,0),(29,1),(35,0),(35,1),(35,2),(35,3),(39,0),(39,1),(39,2),(39,3),(39,4),(47,0),(47,1),(47,2),(47,3),(47,4),(47,5),(47,6),(47,7),(47,8),(47,9),(47,10),(47,11),(47,12),(47,13),(52,0),(52,1),(52,2),(54,0),(64,0),(64,1),(64,2),(64,3),(64,4),(64,5),(64,6),(76,0),(76,1),(87,0),(87,1),(87,2),(89,0),(89,1),(114,0),(114,1),(125,0),(125,1),(128,0),(128,1),(128,2),(128,3),(132,0),(139,0),(139,1),(139,2),(139,3),(141,0),(141,1),(153,0),(153,1),(159,0),(164,0),(164,1),(230,0),(230,1)]
theorem aBv:(aCx.all λ p=>dA prog p.1 p.2==some p.2)=true:=by kernel_rfl
theorem aAY{t k:Nat}(h:(aCx.any λ p=>Nat.beq p.1 t&&Nat.beq p.2 k)=true):dA prog t k=some k:=by obtain⟨p,hp,ht⟩:=List.any_eq_true.1 h;simp only[Bool.and_eq_true] at ht;have h2:=eq_of_beq (List.all_eq_true.1 aBv p hp);rwa [eT ht.1,eT ht.2] at h2
def zd:List (Nat×Nat):=[(29,0),(29,1),(35,0),(35,1),(35,2),(35,3),(39,0),(39,1),(39,2),(39,3),(39,4),(47,0),(47,1),(47,2),(47,3),(47,4),(47,5),(47,6),(47,7),(47,8),(47,9),(47,10),(47,11),(47,12),(47,13),(52,0),(52,1),(52,2),(64,0),(64,1),(64,2),(64,3),(64,4),(64,5),(76,0),(76,1),(87,0),(87,1),(87,2),(89,0),(114,0),(114,1),(125,0),(128,0),(128,1),(128,2),(128,3),(139,0),(139,1),(139,2),(139,3),(141,0),(153,0),(164,0),(164,1),(230,0),(230,1)]
variable{k:Nat}
theorem tc:(zd.all λ p=>Az prog p.1 p.2==some p.2)=true:=by kernel_rfl
theorem Wb{t:Nat}(h:(zd.any λ p=>Nat.beq p.1 t&&Nat.beq p.2 k)=true):Az prog t k=some k:=by obtain⟨p,hp,ht⟩:=List.any_eq_true.1 h;simp only[Bool.and_eq_true] at ht;have h2:=eq_of_beq (List.all_eq_true.1 tc p hp);rwa [eT ht.1,eT ht.2] at h2
theorem wS{t:Nat}(h:(Nat.beq t 54&&Nat.beq k 1)=true):dA prog t k=some 3:=by simp only[Bool.and_eq_true] at h;rw[eT h.1,eT h.2];kernel_rfl
theorem vF{t:Nat}(h:(Nat.beq t 89&&Nat.beq k 2)=true):dA prog t k=some 3:=by simp only[Bool.and_eq_true] at h;rw[eT h.1,eT h.2];kernel_rfl
theorem vD{t:Nat}(h:(Nat.beq t 89&&Nat.beq k 3)=true):dA prog t k=some 4:=by simp only[Bool.and_eq_true] at h;rw[eT h.1,eT h.2];kernel_rfl
theorem vI{t:Nat}(h:(Nat.beq t 89&&Nat.beq k 4)=true):dA prog t k=some 5:=by simp only[Bool.and_eq_true] at h;rw[eT h.1,eT h.2];kernel_rfl
theorem vO{t:Nat}(h:(Nat.beq t 89&&Nat.beq k 7)=true):dA prog t k=some 8:=by simp only[Bool.and_eq_true] at h;rw[eT h.1,eT h.2];kernel_rfl
theorem vN{t:Nat}(h:(Nat.beq t 89&&Nat.beq k 8)=true):dA prog t k=some 9:=by simp only[Bool.and_eq_true] at h;rw[eT h.1,eT h.2];kernel_rfl
theorem uZ{t:Nat}(h:(Nat.beq t 89&&Nat.beq k 9)=true):dA prog t k=some 10:=by simp only[Bool.and_eq_true] at h;rw[eT h.1,eT h.2];kernel_rfl
theorem tL{t:Nat}(h:(Nat.beq t 89&&Nat.beq k 10)=true):dA prog t k=some 11:=by simp only[Bool.and_eq_true] at h;rw[eT h.1,eT h.2];kernel_rfl
theorem uI{t:Nat}(h:(Nat.beq t 89&&Nat.beq k 11)=true):dA prog t k=some 12:=by simp only[Bool.and_eq_true] at h;rw[eT h.1,eT h.2];kernel_rfl
theorem uM{t:Nat}(h:(Nat.beq t 89&&Nat.beq k 12)=true):dA prog t k=some 13:=by simp only[Bool.and_eq_true] at h;rw[eT h.1,eT h.2];kernel_rfl
theorem E7{t:Nat}(h:(Nat.beq t 132&&Nat.beq k 1)=true):dA prog t k=some 4:=by simp only[Bool.and_eq_true] at h;rw[eT h.1,eT h.2];kernel_rfl
theorem Ey{t:Nat}(h:(Nat.beq t 132&&Nat.beq k 2)=true):dA prog t k=some 5:=by simp only[Bool.and_eq_true] at h;rw[eT h.1,eT h.2];kernel_rfl
theorem E8{t:Nat}(h:(Nat.beq t 132&&Nat.beq k 3)=true):dA prog t k=some 6:=by simp only[Bool.and_eq_true] at h;rw[eT h.1,eT h.2];kernel_rfl
theorem E0{t:Nat}(h:(Nat.beq t 141&&Nat.beq k 2)=true):dA prog t k=some 15:=by simp only[Bool.and_eq_true] at h;rw[eT h.1,eT h.2];kernel_rfl
theorem E2{t:Nat}(h:(Nat.beq t 141&&Nat.beq k 3)=true):dA prog t k=some 16:=by simp only[Bool.and_eq_true] at h;rw[eT h.1,eT h.2];kernel_rfl
theorem vA{t:Nat}(h:(Nat.beq t 153&&Nat.beq k 2)=true):dA prog t k=some 26:=by simp only[Bool.and_eq_true] at h;rw[eT h.1,eT h.2];kernel_rfl
theorem vR{t:Nat}(h:(Nat.beq t 153&&Nat.beq k 3)=true):dA prog t k=some 27:=by simp only[Bool.and_eq_true] at h;rw[eT h.1,eT h.2];kernel_rfl
theorem vL{t:Nat}(h:(Nat.beq t 153&&Nat.beq k 4)=true):dA prog t k=some 28:=by simp only[Bool.and_eq_true] at h;rw[eT h.1,eT h.2];kernel_rfl
theorem vE{t:Nat}(h:(Nat.beq t 153&&Nat.beq k 5)=true):dA prog t k=some 29:=by simp only[Bool.and_eq_true] at h;rw[eT h.1,eT h.2];kernel_rfl
theorem vC{t:Nat}(h:(Nat.beq t 153&&Nat.beq k 6)=true):dA prog t k=some 30:=by simp only[Bool.and_eq_true] at h;rw[eT h.1,eT h.2];kernel_rfl
theorem vP{t:Nat}(h:(Nat.beq t 153&&Nat.beq k 7)=true):dA prog t k=some 31:=by simp only[Bool.and_eq_true] at h;rw[eT h.1,eT h.2];kernel_rfl
theorem uX{t:Nat}(h:(Nat.beq t 153&&Nat.beq k 8)=true):dA prog t k=some 32:=by simp only[Bool.and_eq_true] at h;rw[eT h.1,eT h.2];kernel_rfl
theorem vJ{t:Nat}(h:(Nat.beq t 153&&Nat.beq k 9)=true):dA prog t k=some 33:=by simp only[Bool.and_eq_true] at h;rw[eT h.1,eT h.2];kernel_rfl
theorem uC{t:Nat}(h:(Nat.beq t 153&&Nat.beq k 10)=true):dA prog t k=some 34:=by simp only[Bool.and_eq_true] at h;rw[eT h.1,eT h.2];kernel_rfl
theorem uJ{t:Nat}(h:(Nat.beq t 153&&Nat.beq k 11)=true):dA prog t k=some 35:=by simp only[Bool.and_eq_true] at h;rw[eT h.1,eT h.2];kernel_rfl
theorem tQ{t:Nat}(h:(Nat.beq t 153&&Nat.beq k 12)=true):dA prog t k=some 36:=by simp only[Bool.and_eq_true] at h;rw[eT h.1,eT h.2];kernel_rfl
theorem uF{t:Nat}(h:(Nat.beq t 153&&Nat.beq k 13)=true):dA prog t k=some 40:=by simp only[Bool.and_eq_true] at h;rw[eT h.1,eT h.2];kernel_rfl
theorem tU{t:Nat}(h:(Nat.beq t 153&&Nat.beq k 14)=true):dA prog t k=some 41:=by simp only[Bool.and_eq_true] at h;rw[eT h.1,eT h.2];kernel_rfl
theorem Bj{t:Nat}(h:(Nat.beq t 159&&Nat.beq k 1)=true):dA prog t k=some 3:=by simp only[Bool.and_eq_true] at h;rw[eT h.1,eT h.2];kernel_rfl
theorem Bn{t:Nat}(h:(Nat.beq t 159&&Nat.beq k 2)=true):dA prog t k=some 4:=by simp only[Bool.and_eq_true] at h;rw[eT h.1,eT h.2];kernel_rfl
def aCt:List Nat:=[15,16,17,23,25,30,42,56,74,156,259]
theorem aAz:(aCt.all λ t=>Kh prog t)=true:=by kernel_rfl
theorem Ud{t:Nat}(h:aCt.elem t=true):Kh prog t=true:=List.all_eq_true.1 aAz t (List.mem_of_elem_eq_true h)
def fw:List (Nat×Nat):=[(22,3),(32,29),(33,74),(44,37),(45,164),(50,47),(85,230),(95,4),(102,9),(108,76),(115,39),(151,27),(169,31)]
def aAt(t:Nat):Nat:=(fw.lookup t).getD 0
theorem aC4:(fw.all λ p=>(match prog.underlying p.1 with|some (.slice e)=>Nat.beq e p.2&&Nat.beq (aAt p.1) p.2|_=>false))=true:=by kernel_rfl
theorem aDe{t:Nat}(h:(fw.any λ p=>Nat.beq p.1 t)=true):prog.underlying t=some (.slice (aAt t)):=by
 obtain⟨p,hp,ht⟩:=List.any_eq_true.1 h;have h2:=List.all_eq_true.1 aC4 p hp;rw[<- eT ht];cases hu:prog.underlying p.1 with
 | none=>rw[hu] at h2;simp at h2
 | some d=>rw[hu] at h2;cases d<;>simp only[Bool.false_eq_true] at h2;simp only[Bool.and_eq_true] at h2;rw[eT h2.1,eT h2.2]
def aCw:List (Nat×Nat):=[(3,1),(4,1),(9,1),(27,1),(29,2),(31,1),(37,1),(39,5),(47,14),(74,1),(76,2),(164,2),(230,2)]
theorem aCa:(aCw.all λ p=>(prog.info? p.1).map (·.size)==some p.2)=true:=by kernel_rfl
theorem uS{e s:Nat}(h:(aCw.any λ p=>Nat.beq p.1 e&&Nat.beq p.2 s)=true):(prog.info? e).map (·.size)=some s:=by obtain⟨p,hp,ht⟩:=List.any_eq_true.1 h;simp only[Bool.and_eq_true] at ht;have h2:=List.all_eq_true.1 aCa p hp;rw[<- eT ht.1,<- eT ht.2];exact eq_of_beq h2
theorem aAN{t:Nat}(h:Nat.beq t 9=true):prog.underlying t=some .string:=by rw[eT h];kernel_rfl
theorem vx{t:Nat}(h:Nat.beq t 164=true):Oo prog t=true:=by rw[eT h];kernel_rfl
def aDb:List (Nat×IntKind):=[(2,.i64),(3,.i64),(5,.u8),(12,.u64),(21,.i32),(27,.i64),(31,.u64),(37,.i64),(62,.i64),(209,.u64),(255,.u32)]
theorem aCl:(aDb.all λ p=>zG prog p.1 p.2)=true:=by kernel_rfl
theorem tK{t:Nat}{k:IntKind}(h:(aDb.any λ p=>Nat.beq p.1 t&&p.2==k)=true):zG prog t k=true:=by obtain⟨p,hp,ht⟩:=List.any_eq_true.1 h;simp only[Bool.and_eq_true] at ht;have h2:=List.all_eq_true.1 aCl p hp;rw[eT ht.1,eq_of_beq ht.2] at h2;exact h2
def aAp(P:Program)(t e s:Nat):Bool :=
 (match P.underlying t with|some (.slice e')=>Nat.beq e' e|_=>false)&&(match P.info? e with
  | some i=>Nat.beq i.size s&&Nat.ble i.bytes 256
  | none=>false)
theorem nA{P:Program}{t e:Nat}{z:Value}{zc:List Value}(h:aAp P t e zc.length=true)(hz:dK P e=some z)(hzc:z.cells=⟨zc⟩):dY P t e zc:=by
 unfold aAp at h;simp only[Bool.and_eq_true] at h;refine⟨?_,?_⟩
 ·cases hu:P.underlying t with
  | none=>simp[hu] at h
  | some d=>rw[hu] at h;cases d<;>simp only[Bool.false_eq_true,false_and] at h;rw[eT h.1]
 ·cases hi:P.info? e with
  | none=>simp[hi] at h
  | some i=>rw[hi] at h;simp only[Bool.and_eq_true] at h;exact⟨i,z,rfl,by simpa[dK,hi] using hz,hzc,eT h.2.1,Nat.le_of_ble_eq_true h.2.2⟩
theorem Yz:dK prog 3=some (.int .i64 0):=by kernel_rfl
theorem Gh:dY prog 22 3 [.int .i64 0]:=nA (by kernel_rfl) Yz rfl
theorem Lz{t:Nat}(h:Nat.beq t 22=true):dY prog t 3 [.int .i64 0]:=by rw[eT h];exact Gh
theorem Zl:dK prog 37=some (.int .i64 0):=by kernel_rfl
theorem qS:dY prog 44 37 [.int .i64 0]:=nA (by kernel_rfl) Zl rfl
theorem Kn{t:Nat}(h:Nat.beq t 44=true):dY prog t 37 [.int .i64 0]:=by rw[eT h];exact qS
theorem Ug:dK prog 164=some (.agg ⟨[.string ⟨#[]⟩,.int .u64 0]⟩):=by kernel_rfl
theorem Zc:dY prog 45 164 [.string ⟨#[]⟩,.int .u64 0]:=nA (by kernel_rfl) Ug rfl
theorem qZ{t:Nat}(h:Nat.beq t 45=true):dY prog t 164 [.string ⟨#[]⟩,.int .u64 0]:=by rw[eT h];exact Zc
def ze:List Value:=[.int .i64 0,.int .i64 0,.int .i64 0,.int .u64 0,.slice none 0 0,.int .u64 0,.string ⟨#[]⟩,.int .u64 0,.slice none 0 0,.int .i64 0,.int .i64 0,.int .i64 0,.int .i64 0,.int .i64 0]
theorem Vc:dK prog 47=some (.agg ⟨[.int .i64 0,.int .i64 0,.int .i64 0,.int .u64 0,.slice none 0 0,.int .u64 0,.string ⟨#[]⟩,.int .u64 0,.slice none 0 0,.int .i64 0,.int .i64 0,.int .i64 0,.int .i64 0,.int .i64 0]⟩):=by kernel_rfl
theorem sO:dY prog 50 47 ze:=nA (by kernel_rfl) Vc rfl
theorem Gn{t:Nat}(h:Nat.beq t 50=true):dY prog t 47 ze:=by rw[eT h];exact sO
theorem Uv:dK prog 4=some (.bool false):=by kernel_rfl
theorem Y0:dY prog 95 4 [.bool false]:=nA (by kernel_rfl) Uv rfl
theorem Gf{t:Nat}(h:Nat.beq t 95=true):dY prog t 4 [.bool false]:=by rw[eT h];exact Y0
theorem Zf:dK prog 9=some (.string ⟨#[]⟩):=by kernel_rfl
theorem m6:dY prog 102 9 [.string ⟨#[]⟩]:=nA (by kernel_rfl) Zf rfl
theorem Zb{t:Nat}(h:Nat.beq t 102=true):dY prog t 9 [.string ⟨#[]⟩]:=by rw[eT h];exact m6
end
end Go.Proofs.YtbajmaoegmbfgaaGreat

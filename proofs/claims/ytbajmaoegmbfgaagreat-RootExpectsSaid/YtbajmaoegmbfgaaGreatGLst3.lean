/- The engine, part 9: lists of strings and of nodes; tapes. -/
import Derived.Test.YtbajmaoegmbfgaaGreatGLst
import Derived.Test.YtbajmaoegmbfgaaGreatGMem
import Derived.Lib.SliceRun
import Derived.Laws.Pointers

set_option linter.unusedSimpArgs false
set_option linter.unusedVariables false
namespace Go.Ct
section
open Go Go.RowKit
section
variable{P:Program}{n:Nat}{S:List (Nat×Value)}
variable{w0 w w':World}{M:List Nat}{H H':List (Nat×Obj)}{A F F':Fr}{O O':List Ow}{G:World->Prop}
variable{d:Nat}{ty:TypeId}{pos:String}{af:Array Edge}{gd:Option (Nat×Bool)}{dst:Option Nat}{x y z:Operand}{t t2 e:TypeId}{p a:Option Addr}{i m k c c2:Nat}
def Tz(l:List ByteArray):List Value:=l.map Value.string
theorem ai{lst:List ByteArray}{kk:IntKind}(hx:ev S x=.slice a m c)(hy:ev S y=.int kk ((k:Nat):Int))(ht:P.underlying t=some (.slice e))(hs:one P e=true)(hf:qW A F O a (Tz lst))(h1:k<m)(h2:k<lst.length) :
  aK P S (SF w0 M H A F O) ⟨some d,.indexAddr t x y,ty,pos,af,gd⟩ (.pointer (some ⟨cR a,eD a+k,none⟩)):=⟨λ w hw =>
 (Af (G:=SF w0 M H A F O) hx hy ht hs ((hw.cl hf).ptr (by simp only[Tz,List.length_map];omega)) h1).run w hw⟩
theorem oq{lst:List ByteArray}{q:Nat}(hx:ev S x=.pointer (some ⟨cR a,eD a+q,none⟩))(ht:one P t=true)(hf:qW A F O a (Tz lst))(hq:q<lst.length) :
  aK P S (SF w0 M H A F O) ⟨some d,.load t x,ty,pos,af,gd⟩ (.string (lst.getD q ⟨#[]⟩)):=qF hx ht (λ w hw=>hw.cl hf) (by simp[Tz,hq,List.getD])
def Ll(l:List Nd):List Value:=l.flatMap Nd.cells
theorem C8:∀l:List Nd,(Ll l).length=14*l.length
 | []=>rfl
 | _::r=>by
  have:=C8 r
  simp only[Ll,List.flatMap_cons,List.length_append,List.length_cons] at this ⊢
  rw[this]
  simp only[Nd.cells,List.length_cons,List.length_nil]
  omega
theorem Uo:∀{l:List Nd} {k j:Nat},k<l.length->j<14->(Ll l)[14*k+j]?=(l.getD k Nd.zero).cells[j]?
 | [],_,_,h,_=>by simp at h
 | n::r,0,j,_,hj=>by
  simp only[Ll,List.flatMap_cons,Nat.mul_zero,Nat.zero_add,List.getD_cons_zero]
  rw[List.getElem?_append_left (by simp only[Nd.cells,List.length_cons,List.length_nil];omega)]
 | n::r,k+1,j,h,hj=>by
  have:=Uo (l:=r) (k:=k) (j:=j) (by simpa using h) hj
  simp only[Ll,List.flatMap_cons,List.getD_cons_succ] at this ⊢
  rw[List.getElem?_append_right (by simp only[Nd.cells,List.length_cons,List.length_nil];omega),<- this]
  congr 1
  simp only[Nd.cells,List.length_cons,List.length_nil]
  omega
theorem R8{m c:Nat}{i:Int}{kk:IntKind}(hx:ev S x=.slice a m c)(hy:ev S y=.int kk ((k:Nat):Int))(ht:P.underlying t=some (.slice e))(hs:kC P e 14=true)(ha:a=some ⟨cR a,eD a,none⟩)(h1:k<m) :
  aK P S G ⟨some d,.indexAddr t x y,ty,pos,af,gd⟩ (.pointer (some ⟨cR a,eD a+14*k,none⟩)):=⟨λ w _=>by
 obtain⟨_,_,_,hsz⟩:=iZ hs
 have:=Bd (P:=P) (a:=a) (m:=m) (c:=c) (k:=kk) ht hsz ha (i:=(k:Int)) (by omega) (by omega) w
 simp only[Int.toNat_natCast,Nat.mul_comm k 14] at this
 simp[execOp,hx,hy,this]⟩
theorem cf{lst:List Nd}{kk:IntKind}(hx:ev S x=.slice a m c)(hy:ev S y=.int kk ((k:Nat):Int))(ht:P.underlying t=some (.slice e))(hs:kC P e 14=true)(hf:qW A F O a (Ll lst))(h1:k<m)(h2:k<lst.length) :
  aK P S (SF w0 M H A F O) ⟨some d,.indexAddr t x y,ty,pos,af,gd⟩ (.pointer (some ⟨cR a,eD a+14*k,none⟩)):=⟨λ w hw =>
 (R8 (i:=0) (G:=SF w0 M H A F O) hx hy ht hs ((hw.cl hf).ptr (by rw[C8];omega)) h1).run w hw⟩
theorem ld{lst:List Nd}{q:Nat}(hx:ev S x=.pointer (some ⟨cR a,eD a+14*q,none⟩))(ht:kC P t 14=true)(hf:qW A F O a (Ll lst))(hq:q<lst.length) :
  aK P S (SF w0 M H A F O) ⟨some d,.load t x,ty,pos,af,gd⟩ (lst.getD q Nd.zero).v:=⟨λ w hw=>by
 have hcl:=hw.cl hf
 obtain⟨dd,hu,hm,hi⟩:=iZ ht
 have hagg:(isAgg t).run P w=.ok true w:=by
  unfold isAgg
  rw[Sem.run_bind,run_underlying hu w]
  cases dd<;>simp_all
 have hl:(loadCells ⟨cR a,eD a+14*q,none⟩ 14).run P w=.ok ⟨(lst.getD q Nd.zero).cells⟩ w:=by
  have:=run_loadCells_list (P:=P) w ⟨cR a,eD a+14*q,none⟩ (lst.getD q Nd.zero).cells (λ j z hz=>by
   have hj:j<14:=(List.getElem?_eq_some_iff.1 hz).1
   rw[Addr.add_lit]
   have h3:=(hcl.at_ (14*q+j) z (by rw[Uo hq hj];exact hz)).2
   rwa [<- Nat.add_assoc] at h3)
  exact this
 cases hq':P.info? t with
 | none=>rw[hq'] at hi;simp at hi
 | some i =>
  have hs:i.size=14:=by rw[hq'] at hi;simpa using hi
  simp[execOp,hx,Instr.loadAt,Instr.sureAddr,loadVar,hagg,Go.sizeOf,typeInfo,hq',hs,hl,Nd.v]⟩
def uG(v n:Int):Int:=IntKind.i64.wrap ((IntKind.u64.wrap v).tmod (IntKind.u64.wrap n))
def tvN(l:List Int)(k:Nat)(n:Int):Nat:=if k<l.length then(uG (l.getD k 0) n).toNat else 0
def nB(l:List Int)(k:Nat):Nat:=if k<l.length then k+1 else k
theorem wrap_u64(i:Int):IntKind.u64.wrap i=i%18446744073709551616:=by
 simp[IntKind.wrap,IntKind.signed,IntKind.bits]
theorem yM{v n:Int}(h0:0<n)(h1:n<=9223372036854775807):0<=uG v n/\uG v n<n:=by
 unfold uG
 rw[wrap_u64,wrap_u64,Int.emod_eq_of_lt (a:=n) (by omega) (by omega)]
 have h2:=Int.emod_nonneg v (show(18446744073709551616:Int)≠0 by decide)
 have h3:=Int.tmod_lt_of_pos (v%18446744073709551616) h0
 have h4:=Int.tmod_nonneg n h2
 rw[wrap_i64 (by omega) (by omega)]
 exact⟨h4,h3⟩
def aw(T:TypeId)(a:Option Addr)(l:List Int)(c k:Nat):Obj:=.cells ⟨[.slice a l.length c,.int .i64 ((k:Nat):Int)]⟩ T (0,0)
structure Kz(w:World)(T:TypeId)(b:Nat)(a:Option Addr)(l:List Int)(c k:Nat):Prop where
 obj:w.heap[b]?=some (aw T a l c k)
 cl:Cl w a (aH l)
 ne:aH l≠[]->cR a≠b
 len:l.length<=17592186043904
theorem SF.tape(h:SF w0 M H A F O w){T b l}(ha:At H i b (aw T a l c k))(hf:qW A F [] a (aH l))(hl:l.length<=17592186043904):Kz w T b a l c k:=by
 refine⟨h.st.at ha,?_,λ hc e=>h.apart hf hc (e▸List.mem_append_left _ (List.mem_map.2 ⟨_,ha.mem,rfl⟩)),hl⟩
 cases hf with
 | aZ h1=>exact h.cl (.aZ h1)
 | new h1=>exact h.cl (.new h1)
 | own h1=>cases h1
 | hdr h1 _=>cases h1
theorem Kz.start{T b l}(h:Kz w T b a l c k):SF w [b] [(b,.cells ⟨[.slice a l.length c,.int .i64 ((k:Nat):Int)]⟩ T (0,0))] [(a,aH l)] [] [] w:=by
 refine⟨⟨rfl,rfl,rfl,Nat.le_refl _,λ _ _ _=>rfl,λ p hp=>?_,λ p hp=>?_,by simp⟩,λ f hf=>?_,λ _ h=>(List.not_mem_nil h).elim,λ _ h=>(List.not_mem_nil h).elim,by simp[Ks]⟩
 ·simp only[List.mem_singleton] at hp
  subst hp
  exact h.obj
 ·simp only[List.mem_singleton] at hp
  subst hp
  exact .inl (by simp)
 ·simp only[List.mem_singleton] at hf
  subst hf
  exact⟨h.cl,λ hc=>by simp only[Ks,List.map_cons,List.map_nil,List.flatMap_nil,List.append_nil,List.mem_singleton];exact h.ne hc⟩
end
end

/- The engine, part 10b: lists of nodes, each with its own lists. -/
section
open Go Go.RowKit
section
variable{w0 w w':World}{M:List Nat}{H:List (Nat×Obj)}{A F:Fr}{O:List Ow}
structure aU where
 nd:Nd
 xs:List Int
 ys:List Pr
structure Nv where
 kind:Int
 gen:Int
 main:Int
 bm:Int
 xs:List Int
 hash:Int
 key:ByteArray
 val:Int
 ys:List Pr
 prev:Int
 aZ:Int
 exp:Int
 new:Int
 status:Int
def Nd.c(n:Nd)(xs:List Int)(ys:List Pr):Nv:=⟨n.kind,n.gen,n.main,n.bm,xs,n.hash,n.key,n.val,ys,n.prev,n.aZ,n.exp,n.new,n.status⟩
def aU.c(v:aU):Nv:=v.nd.c v.xs v.ys
theorem Au{a b:Nd}{x1 x2:List Int}{y1 y2:List Pr}:rO a b x1 x2 y1 y2↔a.c x1 y1=b.c x2 y2:=by simp[rO,Nd.c]
def aU.fr(v:aU):Fr:=[(v.nd.brA,aH v.xs),(v.nd.prA,dD v.ys)]
def aU.zero:aU:=⟨Nd.zero,[],[]⟩
def aL(L:List aU):Fr:=L.flatMap aU.fr
def iR(L:List aU):List Value:=L.flatMap (·.nd.cells)
theorem Tp(L:List aU):iR L=Ll (L.map (·.nd)):=by simp[iR,Ll,List.flatMap_map]
theorem pw{L:List aU}{k:Nat}:(L.map (·.nd)).getD k Nd.zero=(L.getD k aU.zero).nd:=by
 rw[jK,jK,List.getElem?_map]
 cases L[k]?<;>rfl
theorem iL(n:Nd):n.cells.length=14:=rfl
theorem Fi(a b:List aU):iR (a++b)=iR a++iR b:=by simp[iR]
theorem nh(v:aU):iR [v]=v.nd.cells:=by simp[iR]
theorem jL(a:List aU)(v:aU):iR (a++[v])=iR a++v.nd.cells:=by rw[Fi,nh]
theorem dE(a b:List aU):aL (a++b)=aL a++aL b:=by simp[aL]
theorem dX:∀L:List aU,(iR L).length=L.length*14
 | []=>rfl
 | v::L=>by
  have:=dX L
  simp only[iR,List.flatMap_cons,List.length_append,iL,List.length_cons] at this ⊢
  omega
theorem cg:∀{L:List aU} {k j:Nat} {v:Value},k<L.length->(L.getD k aU.zero).nd.cells[j]?=some v->(iR L)[14*k+j]?=some v
 | v::L,0,j,u,_,hj=>by
  have hlt:j<14:=by
   have:=(List.getElem?_eq_some_iff.1 hj).1
   simpa[iL] using this
  simp only[iR,List.flatMap_cons,Nat.mul_zero,Nat.zero_add]
  rw[List.getElem?_append_left (by rw[iL];exact hlt)]
  simpa using hj
 | v::L,k+1,j,u,hk,hj=>by
  simp only[iR,List.flatMap_cons]
  rw[List.getElem?_append_right (by rw[iL];omega),iL,show 14*(k+1)+j-14=14*k+j by omega]
  exact cg (L:=L) (by simpa using hk) (by simpa using hj)
theorem Cg(n:Nd):n.cells.all (·.oneCell')=true:=rfl
theorem zK:∀L:List aU,(iR L).all (·.oneCell')=true
 | []=>rfl
 | v::L=>by
  have:=zK L
  simp only[iR,List.flatMap_cons,List.all_append,Bool.and_eq_true] at this ⊢
  exact⟨Cg _,this⟩
theorem rK{L:List aU}{f:Option Addr×List Value}:f∈aL L↔∃v∈L,f∈v.fr:=by simp[aL]
theorem fX{L:List aU}{k:Nat}(hk:k<L.length):L.getD k aU.zero∈L:=by
 rw[jK,List.getElem?_eq_getElem hk];exact List.getElem_mem hk
theorem Lh{L:List aU}{k:Nat}(hk:k<L.length):((L.getD k aU.zero).nd.brA,aH (L.getD k aU.zero).xs)∈aL L:=rK.2 ⟨_,fX hk,by simp[aU.fr]⟩
theorem K6{L:List aU}{k:Nat}(hk:k<L.length):((L.getD k aU.zero).nd.prA,dD (L.getD k aU.zero).ys)∈aL L:=rK.2 ⟨_,fX hk,by simp[aU.fr]⟩
structure aU.Fit(v:aU):Prop where
 brN:v.nd.brN=v.xs.length
 prN:v.nd.prN=v.ys.length
 brS:v.xs.length<=35184372088832
 prS:v.ys.length<=11728124029610
theorem aU.Fit.rD{v:aU}(h:v.Fit){w:World}(hb:Cl w v.nd.brA (aH v.xs))(hp:Cl w v.nd.prA (dD v.ys)):sB w v.nd v.xs v.ys :=
 ⟨h.brN,h.prN,hb,hp,by have:=h.brS;omega,by have:=h.prS;omega⟩
def Fits(L:List aU):Prop:=∀v∈L,v.Fit
theorem Fits.at{L:List aU}(h:Fits L){k:Nat}(hk:k<L.length):(L.getD k aU.zero).Fit:=h _ (fX hk)
theorem dt:aU.zero.Fit:=⟨rfl,rfl,by decide,by decide⟩
structure rU(w:World)(L:List aU)(cs:List Int)(pn pc:Option Addr):Prop where
 nds:Cl w pn (iR L)
 cls:Cl w pc (aH cs)
 fam:∀f∈aL L,Cl w f.1 f.2
 fit:Fits L
theorem rU.start{w:World}{L:List aU}{cs:List Int}{pn pc:Option Addr}(h:rU w L cs pn pc):SF w [] [] ((pn,iR L)::(pc,aH cs)::aL L) [] [] w:=SF.begin λ f hf=>by
 rcases List.mem_cons.1 hf with rfl|hf
 ·exact h.nds
 rcases List.mem_cons.1 hf with rfl|hf
 ·exact h.cls
 ·exact h.fam f hf
theorem SF.M3{L:List aU}{f1 f2:Option Addr×List Value}(h:SF w0 M H (f1::f2::aL L) F O w)(hfit:Fits L){k:Nat}(hk:k<L.length):sB w (L.getD k aU.zero).nd (L.getD k aU.zero).xs (L.getD k aU.zero).ys :=
 (hfit.at hk).rD (h.aZ _ (List.mem_cons_of_mem _ (List.mem_cons_of_mem _ (Lh hk)))).1 (h.aZ _ (List.mem_cons_of_mem _ (List.mem_cons_of_mem _ (K6 hk)))).1
theorem SF.aBj{L:List aU}(h:SF w0 M H (aL L) F O w)(hfit:Fits L){k:Nat}(hk:k<L.length):sB w (L.getD k aU.zero).nd (L.getD k aU.zero).xs (L.getD k aU.zero).ys :=
 (hfit.at hk).rD (h.aZ _ (Lh hk)).1 (h.aZ _ (K6 hk)).1
theorem SF.aBF{L:List aU}(h:SF w0 M H A F O w)(hF:∀f∈aL L,f.2=[]∨f∈A∨f∈F)(hfit:Fits L){v:aU}(hv:v∈L):sB w v.nd v.xs v.ys:=by
 have key:∀f∈aL L,Cl w f.1 f.2:=λ f hf=>by
  rcases hF f hf with h0|h1|h1
  ·rw[h0];exact Cl.nil _ _
  ·exact(h.aZ f h1).1
  ·exact(h.new f h1).1
 exact(hfit v hv).rD (key (v.nd.brA,aH v.xs) (rK.2 ⟨v,hv,by simp[aU.fr]⟩)) (key (v.nd.prA,dD v.ys) (rK.2 ⟨v,hv,by simp[aU.fr]⟩))
variable{P:Program}{S:List (Nat×Value)}{G:World->Prop}{d:Nat}{ty:TypeId}{pos:String}{af:Array Edge}{gd:Option (Nat×Bool)}{x y:Operand}{t t2 e:TypeId}{p a:Option Addr}{i m k c c2:Nat}
theorem rX{L:List aU}{kk:IntKind}(hx:ev S x=.slice a m c)(hy:ev S y=.int kk ((k:Nat):Int))(ht:P.underlying t=some (.slice e))(hs:kC P e 14=true)(hf:qW A F O a (iR L))(h1:k<m)(h2:k<L.length) :
  aK P S (SF w0 M H A F O) ⟨some d,.indexAddr t x y,ty,pos,af,gd⟩ (.pointer (some ⟨cR a,eD a+14*k,none⟩)):=cf (lst:=L.map (·.nd)) hx hy ht hs (by rw[<- Tp];exact hf) h1 (by simpa using h2)
theorem U0{L:List aU}{q:Nat}(hx:ev S x=.pointer (some ⟨cR a,eD a+14*q,none⟩))(ht:kC P t 14=true)(hf:qW A F O a (iR L))(hq:q<L.length) :
  aK P S (SF w0 M H A F O) ⟨some d,.load t x,ty,pos,af,gd⟩ (L.getD q aU.zero).nd.v:=by
 have:=ld (P:=P) (S:=S) (w0:=w0) (M:=M) (H:=H) (A:=A) (F:=F) (O:=O) (d:=d) (ty:=ty) (pos:=pos) (af:=af) (gd:=gd) (lst:=L.map (·.nd)) hx ht (by rw[<- Tp];exact hf) (by simpa using hq)
 rwa [pw] at this
theorem uX{L:List aU}{q:Nat}(hx:ev S x=.pointer (some ⟨cR a,eD a+14*q,none⟩))(ht:one P t=true)(hf:qW A F O a (iR L))(hq:q<L.length) :
  aK P S (SF w0 M H A F O) ⟨some d,.load t x,ty,pos,af,gd⟩ (.int .i64 (L.getD q aU.zero).nd.kind):=qF (q:=14*q) hx ht (λ w hw=>hw.cl hf) (cg (j:=0) hq rfl)
theorem oo{L:List aU}{zc:List Value}(v:aU)(hx:ev S x=.slice p m c)(hy:ev S y=.slice a 1 c2)(ho:wU O i p (iR L) c e 14)(hm:L.length=m)(hf:qW A F O a v.nd.cells)
  (he:dW P t e zc) (hz:zc.length=14) (ht2:P.underlying t2=some (.slice e)) (hb:m+1<=549755813888) :
  bD P S (SF w0 M H A F O) ⟨some d,.call {callee:=.builtin .append,args := #[x,y],argTypes := #[t,t2]},ty,pos,af,gd⟩ (Option Addr×Nat) (λ q=>.slice q.1 (m+1) q.2)
   (λ q w=>m+1<=q.2/\SF w0 M H A F (kK O i ⟨q.1,iR (L++[v]),q.2,e,14⟩) w):=by
 rw[jL]
 exact fP hx hy ho (by rw[dX,hm]) hf (by simp[Nd.cells]) (Cg _) he hz (by decide) ht2 hb
theorem jd{L L2:List aU}{zc:List Value}(hx:ev S x=.slice p m c)(hy:ev S y=.slice a k c2)(ho:wU O i p (iR L) c e 14)(hm:L.length=m)(hf:qW A F O a (iR L2))(hk:L2.length=k)
  (he:dW P t e zc) (hz:zc.length=14) (ht2:P.underlying t2=some (.slice e)) (hb:m+k<=549755813888) :
  bD P S (SF w0 M H A F O) ⟨some d,.call {callee:=.builtin .append,args := #[x,y],argTypes := #[t,t2]},ty,pos,af,gd⟩ (Option Addr×Nat) (λ q=>.slice q.1 (m+k) q.2)
   (λ q w=>m+k<=q.2/\SF w0 M H A F (kK O i ⟨q.1,iR (L++L2),q.2,e,14⟩) w):=by
 rw[Fi]
 exact fP hx hy ho (by rw[dX,hm]) hf (by rw[dX,hk]) (zK _) he hz (by decide) ht2 hb
theorem ri{k:Nat}{k1 k2:IntKind}{zc:List Value}(hx:ev S x=.int k1 0)(hy:ev S y=.int k2 ((k:Nat):Int))(he:dW P t e zc)(hz:zc.length=14)(hk:k<=1099511627776) :
  bD P S (SF w0 M H A F O) ⟨some d,.makeSlice t x y,ty,pos,af,gd⟩ Nat (λ b=>.slice (some ⟨b,0,none⟩) 0 k) (λ b=>SF w0 M H A F (⟨some ⟨b,0,none⟩,iR [],k,e,14⟩::O)):=by
 have:=T9 (P:=P) (S:=S) (w0:=w0) (M:=M) (H:=H) (A:=A) (F:=F) (O:=O) (d:=d) (ty:=ty) (pos:=pos) (af:=af) (gd:=gd) (m:=0) (k:=k) (k1:=k1) (k2:=k2) (x:=x) (y:=y) (cs:=iR []) (by simpa using hx) hy he (Nat.zero_le _) hk (List.eq_nil_of_length_eq_zero (by rw[jM];simp))
 rwa [hz] at this
section
variable{m n:Nat}{t':TypeId}
theorem mL(hx:ev S x=.int .i64 ((m:Nat):Int))(hy:ev S y=.int .i64 ((n:Nat):Int))(h:m+n<=9223372036854775807) :
  aK P S G ⟨some d,.binOp .add t x y t',ty,pos,af,gd⟩ (.int .i64 ((m+n:Nat):Int)):=by
 have:=nC (P:=P) (G:=G) (d:=d) (ty:=ty) (pos:=pos) (af:=af) (gd:=gd) (t:=t) (t':=t') hx hy
 rw[wrap_i64 (by omega) (by omega)] at this
 rw[Int.natCast_add]
 exact this
theorem jA(hx:ev S x=.int .i64 ((m:Nat):Int))(hy:ev S y=.int .i64 ((n:Nat):Int))(h:n<=m)(h2:m<=9223372036854775807) :
  aK P S G ⟨some d,.binOp .sub t x y t',ty,pos,af,gd⟩ (.int .i64 ((m-n:Nat):Int)):=by
 have:=N8 (P:=P) (G:=G) (d:=d) (ty:=ty) (pos:=pos) (af:=af) (gd:=gd) (t:=t) (t':=t') hx hy
 rw[wrap_i64 (by omega) (by omega)] at this
 rw[Int.natCast_sub h]
 exact this
end
theorem iY{P:Program}{S:List (Nat×Value)}{G:World->Prop}{d:Nat}{ty:TypeId}{pos:String}{af:Array Edge}{gd:Option (Nat×Bool)}{x:Operand}{vs:List Value}{k:Nat}{v:Value}(hx:ev S x=.tuple ⟨vs⟩)(hk:vs[k]?=some v):aK P S G ⟨some d,.extract x k,ty,pos,af,gd⟩ v:=⟨λ w _=>by
 simp[execOp,hx,Instr.extract,hk]⟩
theorem K1{a:Int}(hx:ev S x=.int .i64 a)(hy:ev S y=.int .i64 1)(h:1<=a)(h2:a<=9223372036854775807):aK P S G ⟨some d,.binOp .sub t x y t2,ty,pos,af,gd⟩ (.int .i64 (((a-1).toNat:Nat):Int)):=by
 have:=Ro (P:=P) (G:=G) (d:=d) (ty:=ty) (pos:=pos) (af:=af) (gd:=gd) (t:=t) (t':=t2) hx hy (by omega)
 rwa [show a-1=(((a-1).toNat:Nat):Int) by omega] at this
theorem Np:∀(L:List aU) (k:Nat),(iR L).drop (k*14)=iR (L.drop k)
 | [],k=>by simp[iR]
 | v::L,0=>by simp
 | v::L,k+1=>by
  have:=Np L k
  rw[List.drop_succ_cons,<- this]
  show(v.nd.cells++iR L).drop ((k+1)*14)=_
  rw[List.drop_append,List.drop_eq_nil_of_le (by rw[iL];omega),iL,List.nil_append]
  congr 1
  omega
theorem q9{L:List aU}(hx:ev S x=.slice a m c)(hy:ev S y=.int .i64 ((k:Nat):Int))(ht:P.underlying t=some (.slice e))(hs:(P.info? e).map (·.size)=some 14)(hk:k<=m)(hf:qW A F [] a (iR L))(hmc:m<=c)(hl:L.length=m) :
  bD P S (SF w0 M H A F O) ⟨some d,.slice t x (some y) none none,ty,pos,af,gd⟩ (Option Addr) (λ p=>.slice p (m-k) (c-k)) (λ p=>SF w0 M H ((p,iR (L.drop k))::A) F O):=by
 have:=pu (P:=P) (w0:=w0) (M:=M) (H:=H) (O:=O) (d:=d) (ty:=ty) (pos:=pos) (af:=af) (gd:=gd) hx hy ht hs hk hf hmc (by rw[dX,hl])
 rw[Np] at this
 exact this
theorem SF.y3(h:SF w0 M H A F O w){L:List aU}{T:TypeId}(ho:wU O i p (iR L) c T 14):L.length<=c:=by
 rcases(h.own _ ho.mem).1 with⟨_,h2,_⟩|⟨b,rest,_,_,h3⟩
 ·have h2':iR L=[]:=h2
  have:(iR L).length=0:=by rw[h2'];rfl
  rw[dX] at this
  omega
 ·have h3':(iR L++rest).length=c*14:=h3
  rw[List.length_append,dX] at h3'
  omega
theorem aP{b off:Nat}{cs vs:List Value}{T:TypeId}(hx:ev S x=.pointer (some ⟨b,off,none⟩))(ha:At H i b (.cells ⟨cs⟩ T (0,0)))(ht:kC P t k=true)(hv:(cs.drop off).take k=vs)(hl:vs.length=k) :
  aK P S (SF w0 M H A F O) ⟨some d,.load t x,ty,pos,af,gd⟩ (.agg ⟨vs⟩):=⟨λ w hw=>by
 have hb:=hw.st.at ha
 have hcl:Cl w (some ⟨b,0,none⟩) cs:=Cl.block (pre:=[]) (rest:=[]) (by simpa using hb) rfl
 obtain⟨dd,hu,hm,hi⟩:=iZ ht
 have hagg:(isAgg t).run P w=.ok true w:=by
  unfold isAgg
  rw[Sem.run_bind,run_underlying hu w]
  cases dd<;>simp_all
 have hlc:(loadCells ⟨b,off,none⟩ k).run P w=.ok ⟨vs⟩ w:=by
  have:=run_loadCells_list (P:=P) w ⟨b,off,none⟩ vs (λ j z hz=>by
   rw[Addr.add_lit]
   have hj:j<k:=by rw[<- hl];exact(List.getElem?_eq_some_iff.1 hz).1
   have h1:cs[off+j]?=some z:=by
    rw[<- hv,List.getElem?_take,if_pos hj,List.getElem?_drop] at hz
    exact hz
   have h3:=(hcl.at_ (off+j) z h1).2
   simpa[cR,eD] using h3)
  rwa [hl] at this
 cases hq':P.info? t with
 | none=>rw[hq'] at hi;simp at hi
 | some inf =>
  have hs:inf.size=k:=by rw[hq'] at hi;simpa using hi
  simp[execOp,hx,Instr.loadAt,Instr.sureAddr,loadVar,hagg,Go.sizeOf,typeInfo,hq',hs,hlc]⟩
def Al(P:Program)(t:TypeId)(k:Nat):Option Nat :=
 match P.underlying t with
 | some (.struct fs)=>match fs[k]? with
  | some f=>if one P f.type then some f.offset else none
  | none=>none
 | _=>none
theorem Ta{cs:List Value}{off:Nat}{v:Value}(hx:ev S x=.agg ⟨cs⟩)(hf:Al P t k=some off)(hv:cs[off]?=some v):aK P S G ⟨some d,.field t x k,ty,pos,af,gd⟩ v:=⟨λ w _=>by
 unfold Al at hf
 cases hu:P.underlying t with
 | none=>simp[hu] at hf
 | some dd =>
  cases dd<;>simp[hu] at hf
  rename_i fs
  cases hk:fs[k]? with
  | none=>simp[hk] at hf
  | some f =>
   simp only[hk] at hf
   split at hf
   ·rename_i h1
    simp only[Option.some.injEq] at hf
    subst hf
    have hp:=tI (P:=P) h1 (cs:=⟨cs⟩) (off:=f.offset) (v:=v) (by simpa using hv) w
    simp[execOp,hx,Instr.field,run_underlying hu,hk,asAgg,hp]
   ·cases hf⟩
def jT(l:List Bool):List Value:=l.map .bool
theorem xU(l:List Bool):(jT l).length=l.length:=by simp[jT]
theorem Wi{l:List Bool}{k:Nat}(h:k<l.length):(jT l)[k]?=some (.bool (l.getD k false)):=by simp[jT,h,List.getD]
theorem Qw(k:Nat):made [.bool false] k=jT (List.replicate k false):=by
 refine List.ext_getElem? λ i=>?_
 by_cases hi:i<k
 ·simp[made,madeCells,jT,Array.getElem?_toList,Array.getElem?_map,Array.getElem?_range,hi,Nat.mod_one]
 ·rw[List.getElem?_eq_none (by rw[jM];simp;omega),List.getElem?_eq_none (by simp[jT];omega)]
theorem r7{m k:Nat}{k1 k2:IntKind}(hx:ev S x=.int k1 ((m:Nat):Int))(hy:ev S y=.int k2 ((k:Nat):Int))(he:dW P t e [.bool false])(hmk:m<=k)(hk:k<=1099511627776) :
  bD P S (SF w0 M H A F O) ⟨some d,.makeSlice t x y,ty,pos,af,gd⟩ Nat (λ b=>.slice (some ⟨b,0,none⟩) m k) (λ b=>SF w0 M H A F (⟨some ⟨b,0,none⟩,jT (List.replicate m false),k,e,1⟩::O)) :=
 T9 hx hy he hmk hk (Qw m)
theorem vE{lst:List Bool}{kk:IntKind}(hx:ev S x=.slice a m c)(hy:ev S y=.int kk ((k:Nat):Int))(ht:P.underlying t=some (.slice e))(hs:one P e=true)(hf:qW A F O a (jT lst))(h1:k<m)(h2:k<lst.length) :
  aK P S (SF w0 M H A F O) ⟨some d,.indexAddr t x y,ty,pos,af,gd⟩ (.pointer (some ⟨cR a,eD a+k,none⟩)):=⟨λ w hw =>
 (Af (G:=SF w0 M H A F O) hx hy ht hs ((hw.cl hf).ptr (by rw[xU];omega)) h1).run w hw⟩
theorem Lj{lst:List Bool}{q:Nat}(hx:ev S x=.pointer (some ⟨cR a,eD a+q,none⟩))(ht:one P t=true)(hf:qW A F O a (jT lst))(hq:q<lst.length) :
  aK P S (SF w0 M H A F O) ⟨some d,.load t x,ty,pos,af,gd⟩ (.bool (lst.getD q false)):=qF hx ht (λ w hw=>hw.cl hf) (Wi hq)
theorem Sm(l:List Bool)(k:Nat)(v:Bool):(jT l).set k (.bool v)=jT (l.set k v):=by simp[jT]
theorem dh{q:Nat}{l:List Bool}{v:Bool}(hx:ev S x=.pointer (some ⟨cR p,eD p+q,none⟩))(hy:ev S y=.bool v)(ht:one P t=true)(ho:wU O i p (jT l) c e 1)(hq:q<l.length) :
  bD P S (SF w0 M H A F O) ⟨none,.store t x y,ty,pos,af,gd⟩ Unit (λ _=>undef) (λ _=>SF w0 M H A F (kK O i ⟨p,jT (l.set q v),c,e,1⟩)):=by
 rw[<- Sm]
 exact Pv hx hy rfl ht ho (by rw[xU];exact hq)
theorem j1(hx:ev S x=.slice a m c)(hy:ev S y=.slice none 0 0)(ht:P.underlying t=some (.slice e)):aK P S G ⟨some d,.binOp .eql t x y t2,ty,pos,af,gd⟩ (.bool a.isNone):=⟨λ w _=>by
 have:=Go.Lib.run_eql_slice_nil (P:=P) w t e a m c 0 0 ht
 simp[execOp,hx,hy,this,eqGuard]⟩
def I4(P:Program)(t:TypeId):Bool:=match P.underlying t with|some (.pointer _)=>true|_=>false
theorem N6(h:I4 P t=true):P.underlying t=some (.pointer (P.pointee t)):=by
 unfold I4 at h
 cases hu:P.underlying t with
 | none=>simp[hu] at h
 | some dd=>cases dd<;>simp[hu,Program.pointee] at h ⊢
theorem pf{q:Option Addr}(hx:ev S x=.pointer q)(hy:ev S y=.pointer none)(ht:I4 P t=true):aK P S G ⟨some d,.binOp .eql t x y t2,ty,pos,af,gd⟩ (.bool q.isNone):=⟨λ w _=>by
 have:=run_eql_pointer_nil (P:=P) w t q (N6 ht)
 simp[execOp,hx,hy,this,eqGuard]⟩
theorem To{q:Option Addr}(hx:ev S x=.pointer q)(hy:ev S y=.pointer none)(ht:I4 P t=true):aK P S G ⟨some d,.binOp .neq t x y t2,ty,pos,af,gd⟩ (.bool (!q.isNone)):=⟨λ w _=>by
 have:=run_neq_pointer_nil (P:=P) w t q (N6 ht)
 simp[execOp,hx,hy,this,eqGuard]⟩
end
end

end Go.Ct

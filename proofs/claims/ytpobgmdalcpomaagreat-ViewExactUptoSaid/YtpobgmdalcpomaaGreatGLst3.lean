/- The engine, part 9: lists of strings and of nodes; tapes. -/
import Derived.Test.YtpobgmdalcpomaaGreatGLst
import Derived.Test.YtpobgmdalcpomaaGreatGMem
import Derived.Lib.SliceRun
import Derived.Laws.Pointers

set_option linter.unusedSimpArgs false
set_option linter.unusedVariables false
namespace Go.Ct
section
open Go Go.RowKit
section
variable{P:Program}{n:Nat}{S:List (Nat×Value)}
variable{w0 w w':World}{M:List Nat}{H H':List (Nat×Obj)}{A F F':Fr}{O O':List Ow}{G:World->Prop}
variable{d:Nat}{ty:TypeId}{pos:String}{af:Array Edge}{gd:Option (Nat×Bool)}{dst:Option Nat}{x y z:Operand}{t t2 e:TypeId}{p a:Option Addr}{i m k c c2:Nat}
def Tf(l:List ByteArray):List Value:=l.map Value.string
theorem ak{lst:List ByteArray}{kk:IntKind}(hx:ev S x=.slice a m c)(hy:ev S y=.int kk ((k:Nat):Int))(ht:P.underlying t=some (.slice e))(hs:one P e=true)(hf:pP A F O a (Tf lst))(h1:k<m)(h2:k<lst.length) :
  aS P S (SF w0 M H A F O) ⟨some d,.indexAddr t x y,ty,pos,af,gd⟩ (.pointer (some ⟨dJ a,eW a+k,none⟩)):=⟨λ w hw =>
 (Ae (G:=SF w0 M H A F O) hx hy ht hs ((hw.cl hf).ptr (by simp only[Tf,List.length_map];omega)) h1).run w hw⟩
theorem fy{lst:List ByteArray}{q:Nat}(hx:ev S x=.pointer (some ⟨dJ a,eW a+q,none⟩))(ht:one P t=true)(hf:pP A F O a (Tf lst))(hq:q<lst.length) :
  aS P S (SF w0 M H A F O) ⟨some d,.load t x,ty,pos,af,gd⟩ (.string (lst.getD q ⟨#[]⟩)):=oJ hx ht (λ w hw=>hw.cl hf) (by simp[Tf,hq,List.getD])
def Ku(l:List Nd):List Value:=l.flatMap Nd.cells
theorem Bx:∀l:List Nd,(Ku l).length=14*l.length
 | []=>rfl
 | _::r=>by
  have:=Bx r
  simp only[Ku,List.flatMap_cons,List.length_append,List.length_cons] at this ⊢
  rw[this]
  simp only[Nd.cells,List.length_cons,List.length_nil]
  omega
theorem S8:∀{l:List Nd} {k j:Nat},k<l.length->j<14->(Ku l)[14*k+j]?=(l.getD k Nd.zero).cells[j]?
 | [],_,_,h,_=>by simp at h
 | n::r,0,j,_,hj=>by
  simp only[Ku,List.flatMap_cons,Nat.mul_zero,Nat.zero_add,List.getD_cons_zero]
  rw[List.getElem?_append_left (by simp only[Nd.cells,List.length_cons,List.length_nil];omega)]
 | n::r,k+1,j,h,hj=>by
  have:=S8 (l:=r) (k:=k) (j:=j) (by simpa using h) hj
  simp only[Ku,List.flatMap_cons,List.getD_cons_succ] at this ⊢
  rw[List.getElem?_append_right (by simp only[Nd.cells,List.length_cons,List.length_nil];omega),<- this]
  congr 1
  simp only[Nd.cells,List.length_cons,List.length_nil]
  omega
theorem Qv{m c:Nat}{i:Int}{kk:IntKind}(hx:ev S x=.slice a m c)(hy:ev S y=.int kk ((k:Nat):Int))(ht:P.underlying t=some (.slice e))(hs:kL P e 14=true)(ha:a=some ⟨dJ a,eW a,none⟩)(h1:k<m) :
  aS P S G ⟨some d,.indexAddr t x y,ty,pos,af,gd⟩ (.pointer (some ⟨dJ a,eW a+14*k,none⟩)):=⟨λ w _=>by
 obtain⟨_,_,_,hsz⟩:=iO hs
 have:=wD (P:=P) (a:=a) (m:=m) (c:=c) (k:=kk) ht hsz ha (i:=(k:Int)) (by omega) (by omega) w
 simp only[Int.toNat_natCast,Nat.mul_comm k 14] at this
 simp[execOp,hx,hy,this]⟩
theorem bj{lst:List Nd}{kk:IntKind}(hx:ev S x=.slice a m c)(hy:ev S y=.int kk ((k:Nat):Int))(ht:P.underlying t=some (.slice e))(hs:kL P e 14=true)(hf:pP A F O a (Ku lst))(h1:k<m)(h2:k<lst.length) :
  aS P S (SF w0 M H A F O) ⟨some d,.indexAddr t x y,ty,pos,af,gd⟩ (.pointer (some ⟨dJ a,eW a+14*k,none⟩)):=⟨λ w hw =>
 (Qv (i:=0) (G:=SF w0 M H A F O) hx hy ht hs ((hw.cl hf).ptr (by rw[Bx];omega)) h1).run w hw⟩
theorem fh{lst:List Nd}{q:Nat}(hx:ev S x=.pointer (some ⟨dJ a,eW a+14*q,none⟩))(ht:kL P t 14=true)(hf:pP A F O a (Ku lst))(hq:q<lst.length) :
  aS P S (SF w0 M H A F O) ⟨some d,.load t x,ty,pos,af,gd⟩ (lst.getD q Nd.zero).v:=⟨λ w hw=>by
 have hcl:=hw.cl hf
 obtain⟨dd,hu,hm,hi⟩:=iO ht
 have hagg:(isAgg t).run P w=.ok true w:=by
  unfold isAgg
  rw[Sem.run_bind,run_underlying hu w]
  cases dd<;>simp_all
 have hl:(loadCells ⟨dJ a,eW a+14*q,none⟩ 14).run P w=.ok ⟨(lst.getD q Nd.zero).cells⟩ w:=by
  have:=run_loadCells_list (P:=P) w ⟨dJ a,eW a+14*q,none⟩ (lst.getD q Nd.zero).cells (λ j z hz=>by
   have hj:j<14:=(List.getElem?_eq_some_iff.1 hz).1
   rw[Addr.add_lit]
   have h3:=(hcl.at_ (14*q+j) z (by rw[S8 hq hj];exact hz)).2
   rwa [<- Nat.add_assoc] at h3)
  exact this
 cases hq':P.info? t with
 | none=>rw[hq'] at hi;simp at hi
 | some i =>
  have hs:i.size=14:=by rw[hq'] at hi;simpa using hi
  simp[execOp,hx,Instr.loadAt,Instr.sureAddr,loadVar,hagg,Go.sizeOf,typeInfo,hq',hs,hl,Nd.v]⟩
def yI(v n:Int):Int:=IntKind.i64.wrap ((IntKind.u64.wrap v).tmod (IntKind.u64.wrap n))
def ye(l:List Int)(k:Nat)(n:Int):Nat:=if k<l.length then(yI (l.getD k 0) n).toNat else 0
def nS(l:List Int)(k:Nat):Nat:=if k<l.length then k+1 else k
theorem wrap_u64(i:Int):IntKind.u64.wrap i=i%18446744073709551616:=by
 simp[IntKind.wrap,IntKind.signed,IntKind.bits]
theorem yB{v n:Int}(h0:0<n)(h1:n<=9223372036854775807):0<=yI v n/\yI v n<n:=by
 unfold yI
 rw[wrap_u64,wrap_u64,Int.emod_eq_of_lt (a:=n) (by omega) (by omega)]
 have h2:=Int.emod_nonneg v (show(18446744073709551616:Int)≠0 by decide)
 have h3:=Int.tmod_lt_of_pos (v%18446744073709551616) h0
 have h4:=Int.tmod_nonneg n h2
 rw[wrap_i64 (by omega) (by omega)]
 exact⟨h4,h3⟩
def Z1(T:TypeId)(a:Option Addr)(l:List Int)(c k:Nat):Obj:=.cells ⟨[.slice a l.length c,.int .i64 ((k:Nat):Int)]⟩ T (0,0)
structure Ki(w:World)(T:TypeId)(b:Nat)(a:Option Addr)(l:List Int)(c k:Nat):Prop where
 obj:w.heap[b]?=some (Z1 T a l c k)
 cl:Cl w a (aJ l)
 ne:aJ l≠[]->dJ a≠b
 len:l.length<=17592186043904
theorem SF.tape(h:SF w0 M H A F O w){T b l}(ha:At H i b (Z1 T a l c k))(hf:pP A F [] a (aJ l))(hl:l.length<=17592186043904):Ki w T b a l c k:=by
 refine⟨h.st.at ha,?_,λ hc e=>h.apart hf hc (e▸List.mem_append_left _ (List.mem_map.2 ⟨_,ha.mem,rfl⟩)),hl⟩
 cases hf with
 | cE h1=>exact h.cl (.cE h1)
 | new h1=>exact h.cl (.new h1)
 | own h1=>cases h1
 | hdr h1 _=>cases h1
theorem Ki.start{T b l}(h:Ki w T b a l c k):SF w [b] [(b,.cells ⟨[.slice a l.length c,.int .i64 ((k:Nat):Int)]⟩ T (0,0))] [(a,aJ l)] [] [] w:=by
 refine⟨⟨rfl,rfl,rfl,Nat.le_refl _,λ _ _ _=>rfl,λ p hp=>?_,λ p hp=>?_,by simp⟩,λ f hf=>?_,λ _ h=>(List.not_mem_nil h).elim,λ _ h=>(List.not_mem_nil h).elim,by simp[Ks]⟩
 ·simp only[List.mem_singleton] at hp
  subst hp
  exact h.obj
 ·simp only[List.mem_singleton] at hp
  subst hp
  exact .inl (by simp)
 ·simp only[List.mem_singleton] at hf
  subst hf
  exact⟨h.cl,λ hc=>by simp only[Ks,List.map_cons,List.map_nil,List.flatMap_nil,List.append_nil,List.mem_singleton];exact h.ne hc⟩
end
end

/- The engine, part 10b: lists of nodes, each with its own lists. -/
section
open Go Go.RowKit
section
variable{w0 w w':World}{M:List Nat}{H:List (Nat×Obj)}{A F:Fr}{O:List Ow}
structure aQ where
 nd:Nd
 xs:List Int
 ys:List Pr
structure Nv where
 kind:Int
 gen:Int
 main:Int
 bm:Int
 xs:List Int
 hash:Int
 key:ByteArray
 val:Int
 ys:List Pr
 prev:Int
 cE:Int
 exp:Int
 new:Int
 status:Int
def Nd.c(n:Nd)(xs:List Int)(ys:List Pr):Nv:=⟨n.kind,n.gen,n.main,n.bm,xs,n.hash,n.key,n.val,ys,n.prev,n.cE,n.exp,n.new,n.status⟩
def aQ.c(v:aQ):Nv:=v.nd.c v.xs v.ys
theorem zL{a b:Nd}{x1 x2:List Int}{y1 y2:List Pr}:qQ a b x1 x2 y1 y2↔a.c x1 y1=b.c x2 y2:=by simp[qQ,Nd.c]
def aQ.fr(v:aQ):Fr:=[(v.nd.brA,aJ v.xs),(v.nd.prA,dI v.ys)]
def aQ.zero:aQ:=⟨Nd.zero,[],[]⟩
def bG(L:List aQ):Fr:=L.flatMap aQ.fr
def iD(L:List aQ):List Value:=L.flatMap (·.nd.cells)
theorem Rf(L:List aQ):iD L=Ku (L.map (·.nd)):=by simp[iD,Ku,List.flatMap_map]
theorem gg{L:List aQ}{k:Nat}:(L.map (·.nd)).getD k Nd.zero=(L.getD k aQ.zero).nd:=by
 rw[gdg,gdg,List.getElem?_map]
 cases L[k]?<;>rfl
theorem iF(n:Nd):n.cells.length=14:=rfl
theorem Dg(a b:List aQ):iD (a++b)=iD a++iD b:=by simp[iD]
theorem da(v:aQ):iD [v]=v.nd.cells:=by simp[iD]
theorem cD(a:List aQ)(v:aQ):iD (a++[v])=iD a++v.nd.cells:=by rw[Dg,da]
theorem fC(a b:List aQ):bG (a++b)=bG a++bG b:=by simp[bG]
theorem eM:∀L:List aQ,(iD L).length=L.length*14
 | []=>rfl
 | v::L=>by
  have:=eM L
  simp only[iD,List.flatMap_cons,List.length_append,iF,List.length_cons] at this ⊢
  omega
theorem av:∀{L:List aQ} {k j:Nat} {v:Value},k<L.length->(L.getD k aQ.zero).nd.cells[j]?=some v->(iD L)[14*k+j]?=some v
 | v::L,0,j,u,_,hj=>by
  have hlt:j<14:=by
   have:=(List.getElem?_eq_some_iff.1 hj).1
   simpa[iF] using this
  simp only[iD,List.flatMap_cons,Nat.mul_zero,Nat.zero_add]
  rw[List.getElem?_append_left (by rw[iF];exact hlt)]
  simpa using hj
 | v::L,k+1,j,u,hk,hj=>by
  simp only[iD,List.flatMap_cons]
  rw[List.getElem?_append_right (by rw[iF];omega),iF,show 14*(k+1)+j-14=14*k+j by omega]
  exact av (L:=L) (by simpa using hk) (by simpa using hj)
theorem Ce(n:Nd):n.cells.all (·.oneCell')=true:=rfl
theorem Af:∀L:List aQ,(iD L).all (·.oneCell')=true
 | []=>rfl
 | v::L=>by
  have:=Af L
  simp only[iD,List.flatMap_cons,List.all_append,Bool.and_eq_true] at this ⊢
  exact⟨Ce _,this⟩
theorem nM{L:List aQ}{f:Option Addr×List Value}:f∈bG L↔∃v∈L,f∈v.fr:=by simp[bG]
theorem fX{L:List aQ}{k:Nat}(hk:k<L.length):L.getD k aQ.zero∈L:=by
 rw[gdg,List.getElem?_eq_getElem hk];exact List.getElem_mem hk
theorem Kd{L:List aQ}{k:Nat}(hk:k<L.length):((L.getD k aQ.zero).nd.brA,aJ (L.getD k aQ.zero).xs)∈bG L:=nM.2 ⟨_,fX hk,by simp[aQ.fr]⟩
theorem Iw{L:List aQ}{k:Nat}(hk:k<L.length):((L.getD k aQ.zero).nd.prA,dI (L.getD k aQ.zero).ys)∈bG L:=nM.2 ⟨_,fX hk,by simp[aQ.fr]⟩
structure aQ.Fit(v:aQ):Prop where
 brN:v.nd.brN=v.xs.length
 prN:v.nd.prN=v.ys.length
 brS:v.xs.length<=35184372088832
 prS:v.ys.length<=11728124029610
theorem aQ.Fit.rJ{v:aQ}(h:v.Fit){w:World}(hb:Cl w v.nd.brA (aJ v.xs))(hp:Cl w v.nd.prA (dI v.ys)):pQ w v.nd v.xs v.ys :=
 ⟨h.brN,h.prN,hb,hp,by have:=h.brS;omega,by have:=h.prS;omega⟩
def Fits(L:List aQ):Prop:=∀v∈L,v.Fit
theorem Fits.at{L:List aQ}(h:Fits L){k:Nat}(hk:k<L.length):(L.getD k aQ.zero).Fit:=h _ (fX hk)
theorem Me:aQ.zero.Fit:=⟨rfl,rfl,by decide,by decide⟩
structure fV(w:World)(L:List aQ)(cs:List Int)(pn pc:Option Addr):Prop where
 nds:Cl w pn (iD L)
 cls:Cl w pc (aJ cs)
 fam:∀f∈bG L,Cl w f.1 f.2
 fit:Fits L
theorem fV.start{w:World}{L:List aQ}{cs:List Int}{pn pc:Option Addr}(h:fV w L cs pn pc):SF w [] [] ((pn,iD L)::(pc,aJ cs)::bG L) [] [] w:=SF.begin λ f hf=>by
 rcases List.mem_cons.1 hf with rfl|hf
 ·exact h.nds
 rcases List.mem_cons.1 hf with rfl|hf
 ·exact h.cls
 ·exact h.fam f hf
theorem SF.Mu{L:List aQ}{f1 f2:Option Addr×List Value}(h:SF w0 M H (f1::f2::bG L) F O w)(hfit:Fits L){k:Nat}(hk:k<L.length):pQ w (L.getD k aQ.zero).nd (L.getD k aQ.zero).xs (L.getD k aQ.zero).ys :=
 (hfit.at hk).rJ (h.cE _ (List.mem_cons_of_mem _ (List.mem_cons_of_mem _ (Kd hk)))).1 (h.cE _ (List.mem_cons_of_mem _ (List.mem_cons_of_mem _ (Iw hk)))).1
theorem SF.y5{L:List aQ}(h:SF w0 M H A F O w)(hF:∀f∈bG L,f.2=[]∨f∈A∨f∈F)(hfit:Fits L){v:aQ}(hv:v∈L):pQ w v.nd v.xs v.ys:=by
 have key:∀f∈bG L,Cl w f.1 f.2:=λ f hf=>by
  rcases hF f hf with h0|h1|h1
  ·rw[h0];exact Cl.nil _ _
  ·exact(h.cE f h1).1
  ·exact(h.new f h1).1
 exact(hfit v hv).rJ (key (v.nd.brA,aJ v.xs) (nM.2 ⟨v,hv,by simp[aQ.fr]⟩)) (key (v.nd.prA,dI v.ys) (nM.2 ⟨v,hv,by simp[aQ.fr]⟩))
variable{P:Program}{S:List (Nat×Value)}{G:World->Prop}{d:Nat}{ty:TypeId}{pos:String}{af:Array Edge}{gd:Option (Nat×Bool)}{x y:Operand}{t t2 e:TypeId}{p a:Option Addr}{i m k c c2:Nat}
theorem qX{L:List aQ}{kk:IntKind}(hx:ev S x=.slice a m c)(hy:ev S y=.int kk ((k:Nat):Int))(ht:P.underlying t=some (.slice e))(hs:kL P e 14=true)(hf:pP A F O a (iD L))(h1:k<m)(h2:k<L.length) :
  aS P S (SF w0 M H A F O) ⟨some d,.indexAddr t x y,ty,pos,af,gd⟩ (.pointer (some ⟨dJ a,eW a+14*k,none⟩)):=bj (lst:=L.map (·.nd)) hx hy ht hs (by rw[<- Rf];exact hf) h1 (by simpa using h2)
theorem Ts{L:List aQ}{q:Nat}(hx:ev S x=.pointer (some ⟨dJ a,eW a+14*q,none⟩))(ht:kL P t 14=true)(hf:pP A F O a (iD L))(hq:q<L.length) :
  aS P S (SF w0 M H A F O) ⟨some d,.load t x,ty,pos,af,gd⟩ (L.getD q aQ.zero).nd.v:=by
 have:=fh (P:=P) (S:=S) (w0:=w0) (M:=M) (H:=H) (A:=A) (F:=F) (O:=O) (d:=d) (ty:=ty) (pos:=pos) (af:=af) (gd:=gd) (lst:=L.map (·.nd)) hx ht (by rw[<- Rf];exact hf) (by simpa using hq)
 rwa [gg] at this
theorem vB{L:List aQ}{q:Nat}(hx:ev S x=.pointer (some ⟨dJ a,eW a+14*q,none⟩))(ht:one P t=true)(hf:pP A F O a (iD L))(hq:q<L.length) :
  aS P S (SF w0 M H A F O) ⟨some d,.load t x,ty,pos,af,gd⟩ (.int .i64 (L.getD q aQ.zero).nd.kind):=oJ (q:=14*q) hx ht (λ w hw=>hw.cl hf) (av (j:=0) hq rfl)
theorem j2{L:List aQ}{zc:List Value}(v:aQ)(hx:ev S x=.slice p m c)(hy:ev S y=.slice a 1 c2)(ho:vL O i p (iD L) c e 14)(hm:L.length=m)(hf:pP A F O a v.nd.cells)
  (he:eD P t e zc) (hz:zc.length=14) (ht2:P.underlying t2=some (.slice e)) (hb:m+1<=549755813888) :
  aP P S (SF w0 M H A F O) ⟨some d,.call {callee:=.builtin .append,args := #[x,y],argTypes := #[t,t2]},ty,pos,af,gd⟩ (Option Addr×Nat) (λ q=>.slice q.1 (m+1) q.2)
   (λ q w=>m+1<=q.2/\SF w0 M H A F (kB O i ⟨q.1,iD (L++[v]),q.2,e,14⟩) w):=by
 rw[cD]
 exact fT hx hy ho (by rw[eM,hm]) hf (by simp[Nd.cells]) (Ce _) he hz (by decide) ht2 hb
theorem Xt{L L2:List aQ}{zc:List Value}(hx:ev S x=.slice p m c)(hy:ev S y=.slice a k c2)(ho:vL O i p (iD L) c e 14)(hm:L.length=m)(hf:pP A F O a (iD L2))(hk:L2.length=k)
  (he:eD P t e zc) (hz:zc.length=14) (ht2:P.underlying t2=some (.slice e)) (hb:m+k<=549755813888) :
  aP P S (SF w0 M H A F O) ⟨some d,.call {callee:=.builtin .append,args := #[x,y],argTypes := #[t,t2]},ty,pos,af,gd⟩ (Option Addr×Nat) (λ q=>.slice q.1 (m+k) q.2)
   (λ q w=>m+k<=q.2/\SF w0 M H A F (kB O i ⟨q.1,iD (L++L2),q.2,e,14⟩) w):=by
 rw[Dg]
 exact fT hx hy ho (by rw[eM,hm]) hf (by rw[eM,hk]) (Af _) he hz (by decide) ht2 hb
theorem Bo{zc:List Value}(he:eD P t e zc)(hz:zc.length=14):aP P S (SF w0 M H A F O) ⟨some d,.buildSlice t 0 #[],ty,pos,af,gd⟩ Nat (λ b=>.slice (some ⟨b,0,none⟩) 0 0) (λ b=>SF w0 M H A F (⟨some ⟨b,0,none⟩,iD [],0,e,14⟩::O)):=by
 have:=Du (P:=P) (S:=S) (w0:=w0) (M:=M) (H:=H) (A:=A) (F:=F) (O:=O) (d:=d) (ty:=ty) (pos:=pos) (af:=af) (gd:=gd) he
 rwa [hz] at this
theorem ku{k:Nat}{k1 k2:IntKind}{zc:List Value}(hx:ev S x=.int k1 0)(hy:ev S y=.int k2 ((k:Nat):Int))(he:eD P t e zc)(hz:zc.length=14)(hk:k<=1099511627776) :
  aP P S (SF w0 M H A F O) ⟨some d,.makeSlice t x y,ty,pos,af,gd⟩ Nat (λ b=>.slice (some ⟨b,0,none⟩) 0 k) (λ b=>SF w0 M H A F (⟨some ⟨b,0,none⟩,iD [],k,e,14⟩::O)):=by
 have:=To (P:=P) (S:=S) (w0:=w0) (M:=M) (H:=H) (A:=A) (F:=F) (O:=O) (d:=d) (ty:=ty) (pos:=pos) (af:=af) (gd:=gd) (m:=0) (k:=k) (k1:=k1) (k2:=k2) (x:=x) (y:=y) (cs:=iD []) (by simpa using hx) hy he (Nat.zero_le _) hk (List.eq_nil_of_length_eq_zero (by rw[jZ];simp))
 rwa [hz] at this
section
variable{m n:Nat}{t':TypeId}
theorem gO(hx:ev S x=.int .i64 ((m:Nat):Int))(hy:ev S y=.int .i64 ((n:Nat):Int))(h:m+n<=9223372036854775807) :
  aS P S G ⟨some d,.binOp .add t x y t',ty,pos,af,gd⟩ (.int .i64 ((m+n:Nat):Int)):=by
 have:=tC (P:=P) (G:=G) (d:=d) (ty:=ty) (pos:=pos) (af:=af) (gd:=gd) (t:=t) (t':=t') hx hy
 rw[wrap_i64 (by omega) (by omega)] at this
 rw[Int.natCast_add]
 exact this
theorem fP(hx:ev S x=.int .i64 ((m:Nat):Int))(hy:ev S y=.int .i64 ((n:Nat):Int))(h:n<=m)(h2:m<=9223372036854775807) :
  aS P S G ⟨some d,.binOp .sub t x y t',ty,pos,af,gd⟩ (.int .i64 ((m-n:Nat):Int)):=by
 have:=Mw (P:=P) (G:=G) (d:=d) (ty:=ty) (pos:=pos) (af:=af) (gd:=gd) (t:=t) (t':=t') hx hy
 rw[wrap_i64 (by omega) (by omega)] at this
 rw[Int.natCast_sub h]
 exact this
end
theorem jI{P:Program}{S:List (Nat×Value)}{G:World->Prop}{d:Nat}{ty:TypeId}{pos:String}{af:Array Edge}{gd:Option (Nat×Bool)}{x:Operand}{vs:List Value}{k:Nat}{v:Value}(hx:ev S x=.tuple ⟨vs⟩)(hk:vs[k]?=some v):aS P S G ⟨some d,.extract x k,ty,pos,af,gd⟩ v:=⟨λ w _=>by
 simp[execOp,hx,Instr.extract,hk]⟩
theorem K0{a:Int}(hx:ev S x=.int .i64 a)(hy:ev S y=.int .i64 1)(h:1<=a)(h2:a<=9223372036854775807):aS P S G ⟨some d,.binOp .sub t x y t2,ty,pos,af,gd⟩ (.int .i64 (((a-1).toNat:Nat):Int)):=by
 have:=Qk (P:=P) (G:=G) (d:=d) (ty:=ty) (pos:=pos) (af:=af) (gd:=gd) (t:=t) (t':=t2) hx hy (by omega)
 rwa [show a-1=(((a-1).toNat:Nat):Int) by omega] at this
theorem Ly:∀(L:List aQ) (k:Nat),(iD L).drop (k*14)=iD (L.drop k)
 | [],k=>by simp[iD]
 | v::L,0=>by simp
 | v::L,k+1=>by
  have:=Ly L k
  rw[List.drop_succ_cons,<- this]
  show(v.nd.cells++iD L).drop ((k+1)*14)=_
  rw[List.drop_append,List.drop_eq_nil_of_le (by rw[iF];omega),iF,List.nil_append]
  congr 1
  omega
theorem kj{L:List aQ}(hx:ev S x=.slice a m c)(hy:ev S y=.int .i64 ((k:Nat):Int))(ht:P.underlying t=some (.slice e))(hs:(P.info? e).map (·.size)=some 14)(hk:k<=m)(hf:pP A F [] a (iD L))(hmc:m<=c)(hl:L.length=m) :
  aP P S (SF w0 M H A F O) ⟨some d,.slice t x (some y) none none,ty,pos,af,gd⟩ (Option Addr) (λ p=>.slice p (m-k) (c-k)) (λ p=>SF w0 M H ((p,iD (L.drop k))::A) F O):=by
 have:=ic (P:=P) (w0:=w0) (M:=M) (H:=H) (O:=O) (d:=d) (ty:=ty) (pos:=pos) (af:=af) (gd:=gd) hx hy ht hs hk hf hmc (by rw[eM,hl])
 rw[Ly] at this
 exact this
theorem SF.eb(h:SF w0 M H A F O w){L:List aQ}{T:TypeId}(ho:vL O i p (iD L) c T 14):L.length<=c:=by
 rcases(h.own _ ho.mem).1 with⟨_,h2,_⟩|⟨b,rest,_,_,h3⟩
 ·have h2':iD L=[]:=h2
  have:(iD L).length=0:=by rw[h2'];rfl
  rw[eM] at this
  omega
 ·have h3':(iD L++rest).length=c*14:=h3
  rw[List.length_append,eM] at h3'
  omega
theorem aM{b off:Nat}{cs vs:List Value}{T:TypeId}(hx:ev S x=.pointer (some ⟨b,off,none⟩))(ha:At H i b (.cells ⟨cs⟩ T (0,0)))(ht:kL P t k=true)(hv:(cs.drop off).take k=vs)(hl:vs.length=k) :
  aS P S (SF w0 M H A F O) ⟨some d,.load t x,ty,pos,af,gd⟩ (.agg ⟨vs⟩):=⟨λ w hw=>by
 have hb:=hw.st.at ha
 have hcl:Cl w (some ⟨b,0,none⟩) cs:=Cl.block (pre:=[]) (rest:=[]) (by simpa using hb) rfl
 obtain⟨dd,hu,hm,hi⟩:=iO ht
 have hagg:(isAgg t).run P w=.ok true w:=by
  unfold isAgg
  rw[Sem.run_bind,run_underlying hu w]
  cases dd<;>simp_all
 have hlc:(loadCells ⟨b,off,none⟩ k).run P w=.ok ⟨vs⟩ w:=by
  have:=run_loadCells_list (P:=P) w ⟨b,off,none⟩ vs (λ j z hz=>by
   rw[Addr.add_lit]
   have hj:j<k:=by rw[<- hl];exact(List.getElem?_eq_some_iff.1 hz).1
   have h1:cs[off+j]?=some z:=by
    rw[<- hv,List.getElem?_take,if_pos hj,List.getElem?_drop] at hz
    exact hz
   have h3:=(hcl.at_ (off+j) z h1).2
   simpa[dJ,eW] using h3)
  rwa [hl] at this
 cases hq':P.info? t with
 | none=>rw[hq'] at hi;simp at hi
 | some inf =>
  have hs:inf.size=k:=by rw[hq'] at hi;simpa using hi
  simp[execOp,hx,Instr.loadAt,Instr.sureAddr,loadVar,hagg,Go.sizeOf,typeInfo,hq',hs,hlc]⟩
def yV(P:Program)(t:TypeId)(k:Nat):Option Nat :=
 match P.underlying t with
 | some (.struct fs)=>match fs[k]? with
  | some f=>if one P f.type then some f.offset else none
  | none=>none
 | _=>none
theorem Sy{cs:List Value}{off:Nat}{v:Value}(hx:ev S x=.agg ⟨cs⟩)(hf:yV P t k=some off)(hv:cs[off]?=some v):aS P S G ⟨some d,.field t x k,ty,pos,af,gd⟩ v:=⟨λ w _=>by
 unfold yV at hf
 cases hu:P.underlying t with
 | none=>simp[hu] at hf
 | some dd =>
  cases dd<;>simp[hu] at hf
  rename_i fs
  cases hk:fs[k]? with
  | none=>simp[hk] at hf
  | some f =>
   simp only[hk] at hf
   split at hf
   ·rename_i h1
    simp only[Option.some.injEq] at hf
    subst hf
    have hp:=sX (P:=P) h1 (cs:=⟨cs⟩) (off:=f.offset) (v:=v) (by simpa using hv) w
    simp[execOp,hx,Instr.field,run_underlying hu,hk,asAgg,hp]
   ·cases hf⟩
def iR(l:List Bool):List Value:=l.map .bool
theorem xS(l:List Bool):(iR l).length=l.length:=by simp[iR]
theorem Uk{l:List Bool}{k:Nat}(h:k<l.length):(iR l)[k]?=some (.bool (l.getD k false)):=by simp[iR,h,List.getD]
theorem Qp(k:Nat):made [.bool false] k=iR (List.replicate k false):=by
 refine List.ext_getElem? λ i=>?_
 by_cases hi:i<k
 ·simp[made,madeCells,iR,Array.getElem?_toList,Array.getElem?_map,Array.getElem?_range,hi,Nat.mod_one]
 ·rw[List.getElem?_eq_none (by rw[jZ];simp;omega),List.getElem?_eq_none (by simp[iR];omega)]
theorem gk{m k:Nat}{k1 k2:IntKind}(hx:ev S x=.int k1 ((m:Nat):Int))(hy:ev S y=.int k2 ((k:Nat):Int))(he:eD P t e [.bool false])(hmk:m<=k)(hk:k<=1099511627776) :
  aP P S (SF w0 M H A F O) ⟨some d,.makeSlice t x y,ty,pos,af,gd⟩ Nat (λ b=>.slice (some ⟨b,0,none⟩) m k) (λ b=>SF w0 M H A F (⟨some ⟨b,0,none⟩,iR (List.replicate m false),k,e,1⟩::O)) :=
 To hx hy he hmk hk (Qp m)
theorem kT{lst:List Bool}{kk:IntKind}(hx:ev S x=.slice a m c)(hy:ev S y=.int kk ((k:Nat):Int))(ht:P.underlying t=some (.slice e))(hs:one P e=true)(hf:pP A F O a (iR lst))(h1:k<m)(h2:k<lst.length) :
  aS P S (SF w0 M H A F O) ⟨some d,.indexAddr t x y,ty,pos,af,gd⟩ (.pointer (some ⟨dJ a,eW a+k,none⟩)):=⟨λ w hw =>
 (Ae (G:=SF w0 M H A F O) hx hy ht hs ((hw.cl hf).ptr (by rw[xS];omega)) h1).run w hw⟩
theorem vS{lst:List Bool}{q:Nat}(hx:ev S x=.pointer (some ⟨dJ a,eW a+q,none⟩))(ht:one P t=true)(hf:pP A F O a (iR lst))(hq:q<lst.length) :
  aS P S (SF w0 M H A F O) ⟨some d,.load t x,ty,pos,af,gd⟩ (.bool (lst.getD q false)):=oJ hx ht (λ w hw=>hw.cl hf) (Uk hq)
theorem Qg(l:List Bool)(k:Nat)(v:Bool):(iR l).set k (.bool v)=iR (l.set k v):=by simp[iR]
theorem cU{q:Nat}{l:List Bool}{v:Bool}(hx:ev S x=.pointer (some ⟨dJ p,eW p+q,none⟩))(hy:ev S y=.bool v)(ht:one P t=true)(ho:vL O i p (iR l) c e 1)(hq:q<l.length) :
  aP P S (SF w0 M H A F O) ⟨none,.store t x y,ty,pos,af,gd⟩ Unit (λ _=>undef) (λ _=>SF w0 M H A F (kB O i ⟨p,iR (l.set q v),c,e,1⟩)):=by
 rw[<- Qg]
 exact M7 hx hy rfl ht ho (by rw[xS];exact hq)
theorem Zu(hx:ev S x=.slice a m c)(hy:ev S y=.slice none 0 0)(ht:P.underlying t=some (.slice e)):aS P S G ⟨some d,.binOp .eql t x y t2,ty,pos,af,gd⟩ (.bool a.isNone):=⟨λ w _=>by
 have:=Go.Lib.run_eql_slice_nil (P:=P) w t e a m c 0 0 ht
 simp[execOp,hx,hy,this,eqGuard]⟩
end
end

end Go.Ct

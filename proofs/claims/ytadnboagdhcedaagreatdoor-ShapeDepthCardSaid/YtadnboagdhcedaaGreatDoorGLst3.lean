/- The engine, part 9: lists of strings and of nodes; tapes. -/
import Derived.Test.YtadnboagdhcedaaGreatDoorGLst
import Derived.Test.YtadnboagdhcedaaGreatDoorGFun
import Derived.Lib.SliceRun
import Derived.Laws.Pointers

set_option linter.unusedSimpArgs false
set_option linter.unusedVariables false
namespace Go.Ct
section
open Go Go.RowKit
section
variable{P:Program}{n:Nat}{S:List (Nat×Value)}
variable{w0 w w':World}{M:List Nat}{H H':List (Nat×Obj)}{A F F':Fr}{O O':List Ow}{G:World->Prop}
variable{d:Nat}{ty:TypeId}{pos:String}{af:Array Edge}{gd:Option (Nat×Bool)}{dst:Option Nat}{x y z:Operand}{t t2 e:TypeId}{p a:Option Addr}{i m k c c2:Nat}
def D5(l:List ByteArray):List Value:=l.map Value.string
theorem Nj{lst:List ByteArray}{kk:IntKind}(hx:ev S x=.slice a m c)(hy:ev S y=.int kk ((k:Nat):Int))(ht:P.underlying t=some (.slice e))(hs:one P e=true)(hf:pI A F O a (D5 lst))(h1:k<m)(h2:k<lst.length) :
  aJ P S (SF w0 M H A F O) ⟨some d,.indexAddr t x y,ty,pos,af,gd⟩ (.pointer (some ⟨cR a,dX a+k,none⟩)):=⟨λ w hw =>
 (xF (G:=SF w0 M H A F O) hx hy ht hs ((hw.cl hf).ptr (by simp only[D5,List.length_map];omega)) h1).run w hw⟩
theorem R6{lst:List ByteArray}{q:Nat}(hx:ev S x=.pointer (some ⟨cR a,dX a+q,none⟩))(ht:one P t=true)(hf:pI A F O a (D5 lst))(hq:q<lst.length) :
  aJ P S (SF w0 M H A F O) ⟨some d,.load t x,ty,pos,af,gd⟩ (.string (lst.getD q ⟨#[]⟩)):=nT hx ht (λ w hw=>hw.cl hf) (by simp[D5,hq,List.getD])
def Jn(l:List Nd):List Value:=l.flatMap Nd.cells
theorem Br:∀l:List Nd,(Jn l).length=14*l.length
 | []=>rfl
 | _::r=>by
  have:=Br r
  simp only[Jn,List.flatMap_cons,List.length_append,List.length_cons] at this ⊢
  rw[this]
  simp only[Nd.cells,List.length_cons,List.length_nil]
  omega
theorem Sg:∀{l:List Nd} {k j:Nat},k<l.length->j<14->(Jn l)[14*k+j]?=(l.getD k Nd.zero).cells[j]?
 | [],_,_,h,_=>by simp at h
 | n::r,0,j,_,hj=>by
  simp only[Jn,List.flatMap_cons,Nat.mul_zero,Nat.zero_add,List.getD_cons_zero]
  rw[List.getElem?_append_left (by simp only[Nd.cells,List.length_cons,List.length_nil];omega)]
 | n::r,k+1,j,h,hj=>by
  have:=Sg (l:=r) (k:=k) (j:=j) (by simpa using h) hj
  simp only[Jn,List.flatMap_cons,List.getD_cons_succ] at this ⊢
  rw[List.getElem?_append_right (by simp only[Nd.cells,List.length_cons,List.length_nil];omega),<- this]
  congr 1
  simp only[Nd.cells,List.length_cons,List.length_nil]
  omega
theorem Pp{m c:Nat}{i:Int}{kk:IntKind}(hx:ev S x=.slice a m c)(hy:ev S y=.int kk ((k:Nat):Int))(ht:P.underlying t=some (.slice e))(hs:jP P e 14=true)(ha:a=some ⟨cR a,dX a,none⟩)(h1:k<m) :
  aJ P S G ⟨some d,.indexAddr t x y,ty,pos,af,gd⟩ (.pointer (some ⟨cR a,dX a+14*k,none⟩)):=⟨λ w _=>by
 obtain⟨_,_,_,hsz⟩:=iF hs
 have:=zJ (P:=P) (a:=a) (m:=m) (c:=c) (k:=kk) ht hsz ha (i:=(k:Int)) (by omega) (by omega) w
 simp only[Int.toNat_natCast,Nat.mul_comm k 14] at this
 simp[execOp,hx,hy,this]⟩
theorem ad{lst:List Nd}{kk:IntKind}(hx:ev S x=.slice a m c)(hy:ev S y=.int kk ((k:Nat):Int))(ht:P.underlying t=some (.slice e))(hs:jP P e 14=true)(hf:pI A F O a (Jn lst))(h1:k<m)(h2:k<lst.length) :
  aJ P S (SF w0 M H A F O) ⟨some d,.indexAddr t x y,ty,pos,af,gd⟩ (.pointer (some ⟨cR a,dX a+14*k,none⟩)):=⟨λ w hw =>
 (Pp (i:=0) (G:=SF w0 M H A F O) hx hy ht hs ((hw.cl hf).ptr (by rw[Br];omega)) h1).run w hw⟩
theorem ib{lst:List Nd}{q:Nat}(hx:ev S x=.pointer (some ⟨cR a,dX a+14*q,none⟩))(ht:jP P t 14=true)(hf:pI A F O a (Jn lst))(hq:q<lst.length) :
  aJ P S (SF w0 M H A F O) ⟨some d,.load t x,ty,pos,af,gd⟩ (lst.getD q Nd.zero).v:=⟨λ w hw=>by
 have hcl:=hw.cl hf
 obtain⟨dd,hu,hm,hi⟩:=iF ht
 have hagg:(isAgg t).run P w=.ok true w:=by
  unfold isAgg
  rw[Sem.run_bind,run_underlying hu w]
  cases dd<;>simp_all
 have hl:(loadCells ⟨cR a,dX a+14*q,none⟩ 14).run P w=.ok ⟨(lst.getD q Nd.zero).cells⟩ w:=by
  have:=run_loadCells_list (P:=P) w ⟨cR a,dX a+14*q,none⟩ (lst.getD q Nd.zero).cells (λ j z hz=>by
   have hj:j<14:=(List.getElem?_eq_some_iff.1 hz).1
   rw[Addr.add_lit]
   have h3:=(hcl.at_ (14*q+j) z (by rw[Sg hq hj];exact hz)).2
   rwa [<- Nat.add_assoc] at h3)
  exact this
 cases hq':P.info? t with
 | none=>rw[hq'] at hi;simp at hi
 | some i =>
  have hs:i.size=14:=by rw[hq'] at hi;simpa using hi
  simp[execOp,hx,Instr.loadAt,Instr.sureAddr,loadVar,hagg,Go.sizeOf,typeInfo,hq',hs,hl,Nd.v]⟩
def Uh(v n:Int):Int:=IntKind.i64.wrap ((IntKind.u64.wrap v).tmod (IntKind.u64.wrap n))
def tvN(l:List Int)(k:Nat)(n:Int):Nat:=if k<l.length then(Uh (l.getD k 0) n).toNat else 0
def mY(l:List Int)(k:Nat):Nat:=if k<l.length then k+1 else k
theorem wrap_u64(i:Int):IntKind.u64.wrap i=i%18446744073709551616:=by
 simp[IntKind.wrap,IntKind.signed,IntKind.bits]
theorem Pd{v n:Int}(h0:0<n)(h1:n<=9223372036854775807):0<=Uh v n/\Uh v n<n:=by
 unfold Uh
 rw[wrap_u64,wrap_u64,Int.emod_eq_of_lt (a:=n) (by omega) (by omega)]
 have h2:=Int.emod_nonneg v (show(18446744073709551616:Int)≠0 by decide)
 have h3:=Int.tmod_lt_of_pos (v%18446744073709551616) h0
 have h4:=Int.tmod_nonneg n h2
 rw[wrap_i64 (by omega) (by omega)]
 exact⟨h4,h3⟩
def cd(T:TypeId)(a:Option Addr)(l:List Int)(c k:Nat):Obj:=.cells ⟨[.slice a l.length c,.int .i64 ((k:Nat):Int)]⟩ T (0,0)
structure Ir(w:World)(T:TypeId)(b:Nat)(a:Option Addr)(l:List Int)(c k:Nat):Prop where
 obj:w.heap[b]?=some (cd T a l c k)
 cl:Cl w a (aG l)
 ne:aG l≠[]->cR a≠b
 len:l.length<=17592186043904
theorem SF.tape(h:SF w0 M H A F O w){T b l}(ha:At H i b (cd T a l c k))(hf:pI A F [] a (aG l))(hl:l.length<=17592186043904):Ir w T b a l c k:=by
 refine⟨h.st.at ha,?_,λ hc e=>h.apart hf hc (e▸List.mem_append_left _ (List.mem_map.2 ⟨_,ha.mem,rfl⟩)),hl⟩
 cases hf with
 | bM h1=>exact h.cl (.bM h1)
 | new h1=>exact h.cl (.new h1)
 | own h1=>cases h1
 | hdr h1 _=>cases h1
theorem Ir.start{T b l}(h:Ir w T b a l c k):SF w [b] [(b,.cells ⟨[.slice a l.length c,.int .i64 ((k:Nat):Int)]⟩ T (0,0))] [(a,aG l)] [] [] w:=by
 refine⟨⟨rfl,rfl,rfl,Nat.le_refl _,λ _ _ _=>rfl,λ p hp=>?_,λ p hp=>?_,by simp⟩,λ f hf=>?_,λ _ h=>(List.not_mem_nil h).elim,λ _ h=>(List.not_mem_nil h).elim,by simp[Ks]⟩
 ·simp only[List.mem_singleton] at hp
  subst hp
  exact h.obj
 ·simp only[List.mem_singleton] at hp
  subst hp
  exact .inl (by simp)
 ·simp only[List.mem_singleton] at hf
  subst hf
  exact⟨h.cl,λ hc=>by simp only[Ks,List.map_cons,List.map_nil,List.flatMap_nil,List.append_nil,List.mem_singleton];exact h.ne hc⟩
end
end

/- The engine, part 10b: lists of nodes, each with its own lists. -/
section
open Go Go.RowKit
section
variable{w0 w w':World}{M:List Nat}{H:List (Nat×Obj)}{A F:Fr}{O:List Ow}
structure aL where
 nd:Nd
 xs:List Int
 ys:List Pr
structure Nv where
 kind:Int
 gen:Int
 main:Int
 bm:Int
 xs:List Int
 hash:Int
 key:ByteArray
 val:Int
 ys:List Pr
 prev:Int
 bM:Int
 exp:Int
 new:Int
 status:Int
def Nd.c(n:Nd)(xs:List Int)(ys:List Pr):Nv:=⟨n.kind,n.gen,n.main,n.bm,xs,n.hash,n.key,n.val,ys,n.prev,n.bM,n.exp,n.new,n.status⟩
def aL.c(v:aL):Nv:=v.nd.c v.xs v.ys
theorem yE{a b:Nd}{x1 x2:List Int}{y1 y2:List Pr}:pP a b x1 x2 y1 y2↔a.c x1 y1=b.c x2 y2:=by simp[pP,Nd.c]
def aL.fr(v:aL):Fr:=[(v.nd.brA,aG v.xs),(v.nd.prA,dF v.ys)]
def aL.zero:aL:=⟨Nd.zero,[],[]⟩
def aV(L:List aL):Fr:=L.flatMap aL.fr
def gR(L:List aL):List Value:=L.flatMap (·.nd.cells)
theorem Sd(L:List aL):gR L=Jn (L.map (·.nd)):=by simp[gR,Jn,List.flatMap_map]
theorem mb{L:List aL}{k:Nat}:(L.map (·.nd)).getD k Nd.zero=(L.getD k aL.zero).nd:=by
 rw[fM,fM,List.getElem?_map]
 cases L[k]?<;>rfl
theorem hU(n:Nd):n.cells.length=14:=rfl
theorem Da(a b:List aL):gR (a++b)=gR a++gR b:=by simp[gR]
theorem m9(v:aL):gR [v]=v.nd.cells:=by simp[gR]
theorem oD(a:List aL)(v:aL):gR (a++[v])=gR a++v.nd.cells:=by rw[Da,m9]
theorem dB(a b:List aL):aV (a++b)=aV a++aV b:=by simp[aV]
theorem eP:∀L:List aL,(gR L).length=L.length*14
 | []=>rfl
 | v::L=>by
  have:=eP L
  simp only[gR,List.flatMap_cons,List.length_append,hU,List.length_cons] at this ⊢
  omega
theorem P6:∀{L:List aL} {k j:Nat} {v:Value},k<L.length->(L.getD k aL.zero).nd.cells[j]?=some v->(gR L)[14*k+j]?=some v
 | v::L,0,j,u,_,hj=>by
  have hlt:j<14:=by
   have:=(List.getElem?_eq_some_iff.1 hj).1
   simpa[hU] using this
  simp only[gR,List.flatMap_cons,Nat.mul_zero,Nat.zero_add]
  rw[List.getElem?_append_left (by rw[hU];exact hlt)]
  simpa using hj
 | v::L,k+1,j,u,hk,hj=>by
  simp only[gR,List.flatMap_cons]
  rw[List.getElem?_append_right (by rw[hU];omega),hU,show 14*(k+1)+j-14=14*k+j by omega]
  exact P6 (L:=L) (by simpa using hk) (by simpa using hj)
theorem A6(n:Nd):n.cells.all (·.oneCell')=true:=rfl
theorem yG:∀L:List aL,(gR L).all (·.oneCell')=true
 | []=>rfl
 | v::L=>by
  have:=yG L
  simp only[gR,List.flatMap_cons,List.all_append,Bool.and_eq_true] at this ⊢
  exact⟨A6 _,this⟩
theorem kV{L:List aL}{f:Option Addr×List Value}:f∈aV L↔∃v∈L,f∈v.fr:=by simp[aV]
theorem eV{L:List aL}{k:Nat}(hk:k<L.length):L.getD k aL.zero∈L:=by
 rw[fM,List.getElem?_eq_getElem hk];exact List.getElem_mem hk
theorem I0{L:List aL}{k:Nat}(hk:k<L.length):((L.getD k aL.zero).nd.brA,aG (L.getD k aL.zero).xs)∈aV L:=kV.2 ⟨_,eV hk,by simp[aL.fr]⟩
theorem Ro{L:List aL}{k:Nat}(hk:k<L.length):((L.getD k aL.zero).nd.prA,dF (L.getD k aL.zero).ys)∈aV L:=kV.2 ⟨_,eV hk,by simp[aL.fr]⟩
structure aL.Fit(v:aL):Prop where
 brN:v.nd.brN=v.xs.length
 prN:v.nd.prN=v.ys.length
 brS:v.xs.length<=35184372088832
 prS:v.ys.length<=11728124029610
theorem aL.Fit.qQ{v:aL}(h:v.Fit){w:World}(hb:Cl w v.nd.brA (aG v.xs))(hp:Cl w v.nd.prA (dF v.ys)):qP w v.nd v.xs v.ys :=
 ⟨h.brN,h.prN,hb,hp,by have:=h.brS;omega,by have:=h.prS;omega⟩
def Fits(L:List aL):Prop:=∀v∈L,v.Fit
theorem Fits.at{L:List aL}(h:Fits L){k:Nat}(hk:k<L.length):(L.getD k aL.zero).Fit:=h _ (eV hk)
theorem Mi:aL.zero.Fit:=⟨rfl,rfl,by decide,by decide⟩
structure gS(w:World)(L:List aL)(cs:List Int)(pn pc:Option Addr):Prop where
 nds:Cl w pn (gR L)
 cls:Cl w pc (aG cs)
 fam:∀f∈aV L,Cl w f.1 f.2
 fit:Fits L
theorem gS.start{w:World}{L:List aL}{cs:List Int}{pn pc:Option Addr}(h:gS w L cs pn pc):SF w [] [] ((pn,gR L)::(pc,aG cs)::aV L) [] [] w:=SF.begin λ f hf=>by
 rcases List.mem_cons.1 hf with rfl|hf
 ·exact h.nds
 rcases List.mem_cons.1 hf with rfl|hf
 ·exact h.cls
 ·exact h.fam f hf
theorem SF.fq{L:List aL}{f1 f2:Option Addr×List Value}(h:SF w0 M H (f1::f2::aV L) F O w)(hfit:Fits L){k:Nat}(hk:k<L.length):qP w (L.getD k aL.zero).nd (L.getD k aL.zero).xs (L.getD k aL.zero).ys :=
 (hfit.at hk).qQ (h.bM _ (List.mem_cons_of_mem _ (List.mem_cons_of_mem _ (I0 hk)))).1 (h.bM _ (List.mem_cons_of_mem _ (List.mem_cons_of_mem _ (Ro hk)))).1
theorem SF.aAF{L:List aL}(h:SF w0 M H A F O w)(hF:∀f∈aV L,f.2=[]∨f∈A∨f∈F)(hfit:Fits L){v:aL}(hv:v∈L):qP w v.nd v.xs v.ys:=by
 have key:∀f∈aV L,Cl w f.1 f.2:=λ f hf=>by
  rcases hF f hf with h0|h1|h1
  ·rw[h0];exact Cl.nil _ _
  ·exact(h.bM f h1).1
  ·exact(h.new f h1).1
 exact(hfit v hv).qQ (key (v.nd.brA,aG v.xs) (kV.2 ⟨v,hv,by simp[aL.fr]⟩)) (key (v.nd.prA,dF v.ys) (kV.2 ⟨v,hv,by simp[aL.fr]⟩))
variable{P:Program}{S:List (Nat×Value)}{G:World->Prop}{d:Nat}{ty:TypeId}{pos:String}{af:Array Edge}{gd:Option (Nat×Bool)}{x y:Operand}{t t2 e:TypeId}{p a:Option Addr}{i m k c c2:Nat}
theorem mV{L:List aL}{kk:IntKind}(hx:ev S x=.slice a m c)(hy:ev S y=.int kk ((k:Nat):Int))(ht:P.underlying t=some (.slice e))(hs:jP P e 14=true)(hf:pI A F O a (gR L))(h1:k<m)(h2:k<L.length) :
  aJ P S (SF w0 M H A F O) ⟨some d,.indexAddr t x y,ty,pos,af,gd⟩ (.pointer (some ⟨cR a,dX a+14*k,none⟩)):=ad (lst:=L.map (·.nd)) hx hy ht hs (by rw[<- Sd];exact hf) h1 (by simpa using h2)
theorem S5{L:List aL}{q:Nat}(hx:ev S x=.pointer (some ⟨cR a,dX a+14*q,none⟩))(ht:jP P t 14=true)(hf:pI A F O a (gR L))(hq:q<L.length) :
  aJ P S (SF w0 M H A F O) ⟨some d,.load t x,ty,pos,af,gd⟩ (L.getD q aL.zero).nd.v:=by
 have:=ib (P:=P) (S:=S) (w0:=w0) (M:=M) (H:=H) (A:=A) (F:=F) (O:=O) (d:=d) (ty:=ty) (pos:=pos) (af:=af) (gd:=gd) (lst:=L.map (·.nd)) hx ht (by rw[<- Sd];exact hf) (by simpa using hq)
 rwa [mb] at this
theorem de{L:List aL}{q j:Nat}{v:Value}(hx:ev S x=.pointer (some ⟨cR a,dX a+14*q+j,none⟩))(ht:one P t=true)(hj:(L.getD q aL.zero).nd.cells[j]?=some v)(hf:pI A F O a (gR L))(hq:q<L.length) :
  aJ P S (SF w0 M H A F O) ⟨some d,.load t x,ty,pos,af,gd⟩ v:=nT (q:=14*q+j) (by rw[hx];simp only[Nat.add_assoc]) ht (λ w hw=>hw.cl hf) (P6 hq hj)
theorem E2{L:List aL}{q:Nat}(hx:ev S x=.pointer (some ⟨cR a,dX a+14*q,none⟩))(ht:one P t=true)(hf:pI A F O a (gR L))(hq:q<L.length) :
  aJ P S (SF w0 M H A F O) ⟨some d,.load t x,ty,pos,af,gd⟩ (.int .i64 (L.getD q aL.zero).nd.kind):=nT (q:=14*q) hx ht (λ w hw=>hw.cl hf) (P6 (j:=0) hq rfl)
theorem j7{L:List aL}{zc:List Value}(v:aL)(hx:ev S x=.slice p m c)(hy:ev S y=.slice a 1 c2)(ho:vE O i p (gR L) c e 14)(hm:L.length=m)(hf:pI A F O a v.nd.cells)
  (he:dE P t e zc) (hz:zc.length=14) (ht2:P.underlying t2=some (.slice e)) (hb:m+1<=549755813888) :
  bJ P S (SF w0 M H A F O) ⟨some d,.call {callee:=.builtin .append,args := #[x,y],argTypes := #[t,t2]},ty,pos,af,gd⟩ (Option Addr×Nat) (λ q=>.slice q.1 (m+1) q.2)
   (λ q w=>m+1<=q.2/\SF w0 M H A F (jQ O i ⟨q.1,gR (L++[v]),q.2,e,14⟩) w):=by
 rw[oD]
 exact iC hx hy ho (by rw[eP,hm]) hf (by simp[Nd.cells]) (A6 _) he hz (by decide) ht2 hb
theorem Yj{L L2:List aL}{zc:List Value}(hx:ev S x=.slice p m c)(hy:ev S y=.slice a k c2)(ho:vE O i p (gR L) c e 14)(hm:L.length=m)(hf:pI A F O a (gR L2))(hk:L2.length=k)
  (he:dE P t e zc) (hz:zc.length=14) (ht2:P.underlying t2=some (.slice e)) (hb:m+k<=549755813888) :
  bJ P S (SF w0 M H A F O) ⟨some d,.call {callee:=.builtin .append,args := #[x,y],argTypes := #[t,t2]},ty,pos,af,gd⟩ (Option Addr×Nat) (λ q=>.slice q.1 (m+k) q.2)
   (λ q w=>m+k<=q.2/\SF w0 M H A F (jQ O i ⟨q.1,gR (L++L2),q.2,e,14⟩) w):=by
 rw[Da]
 exact iC hx hy ho (by rw[eP,hm]) hf (by rw[eP,hk]) (yG _) he hz (by decide) ht2 hb
theorem mw{k:Nat}{k1 k2:IntKind}{zc:List Value}(hx:ev S x=.int k1 0)(hy:ev S y=.int k2 ((k:Nat):Int))(he:dE P t e zc)(hz:zc.length=14)(hk:k<=1099511627776) :
  bJ P S (SF w0 M H A F O) ⟨some d,.makeSlice t x y,ty,pos,af,gd⟩ Nat (λ b=>.slice (some ⟨b,0,none⟩) 0 k) (λ b=>SF w0 M H A F (⟨some ⟨b,0,none⟩,gR [],k,e,14⟩::O)):=by
 have:=Jo (P:=P) (S:=S) (w0:=w0) (M:=M) (H:=H) (A:=A) (F:=F) (O:=O) (d:=d) (ty:=ty) (pos:=pos) (af:=af) (gd:=gd) (m:=0) (k:=k) (k1:=k1) (k2:=k2) (x:=x) (y:=y) (cs:=gR []) (by simpa using hx) hy he (Nat.zero_le _) hk (List.eq_nil_of_length_eq_zero (by rw[iS];simp))
 rwa [hz] at this
section
variable{m n:Nat}{t':TypeId}
theorem lU(hx:ev S x=.int .i64 ((m:Nat):Int))(hy:ev S y=.int .i64 ((n:Nat):Int))(h:m+n<=9223372036854775807) :
  aJ P S G ⟨some d,.binOp .add t x y t',ty,pos,af,gd⟩ (.int .i64 ((m+n:Nat):Int)):=by
 have:=vW (P:=P) (G:=G) (d:=d) (ty:=ty) (pos:=pos) (af:=af) (gd:=gd) (t:=t) (t':=t') hx hy
 rw[wrap_i64 (by omega) (by omega)] at this
 rw[Int.natCast_add]
 exact this
theorem iV(hx:ev S x=.int .i64 ((m:Nat):Int))(hy:ev S y=.int .i64 ((n:Nat):Int))(h:n<=m)(h2:m<=9223372036854775807) :
  aJ P S G ⟨some d,.binOp .sub t x y t',ty,pos,af,gd⟩ (.int .i64 ((m-n:Nat):Int)):=by
 have:=Hn (P:=P) (G:=G) (d:=d) (ty:=ty) (pos:=pos) (af:=af) (gd:=gd) (t:=t) (t':=t') hx hy
 rw[wrap_i64 (by omega) (by omega)] at this
 rw[Int.natCast_sub h]
 exact this
end
theorem jA{P:Program}{S:List (Nat×Value)}{G:World->Prop}{d:Nat}{ty:TypeId}{pos:String}{af:Array Edge}{gd:Option (Nat×Bool)}{x:Operand}{vs:List Value}{k:Nat}{v:Value}(hx:ev S x=.tuple ⟨vs⟩)(hk:vs[k]?=some v):aJ P S G ⟨some d,.extract x k,ty,pos,af,gd⟩ v:=⟨λ w _=>by
 simp[execOp,hx,Instr.extract,hk]⟩
theorem Xs{a:Int}(hx:ev S x=.int .i64 a)(hy:ev S y=.int .i64 1)(h:1<=a)(h2:a<=9223372036854775807):aJ P S G ⟨some d,.binOp .sub t x y t2,ty,pos,af,gd⟩ (.int .i64 (((a-1).toNat:Nat):Int)):=by
 have:=Iq (P:=P) (G:=G) (d:=d) (ty:=ty) (pos:=pos) (af:=af) (gd:=gd) (t:=t) (t':=t2) hx hy (by omega)
 rwa [show a-1=(((a-1).toNat:Nat):Int) by omega] at this
theorem Lx:∀(L:List aL) (k:Nat),(gR L).drop (k*14)=gR (L.drop k)
 | [],k=>by simp[gR]
 | v::L,0=>by simp
 | v::L,k+1=>by
  have:=Lx L k
  rw[List.drop_succ_cons,<- this]
  show(v.nd.cells++gR L).drop ((k+1)*14)=_
  rw[List.drop_append,List.drop_eq_nil_of_le (by rw[hU];omega),hU,List.nil_append]
  congr 1
  omega
theorem mv{L:List aL}(hx:ev S x=.slice a m c)(hy:ev S y=.int .i64 ((k:Nat):Int))(ht:P.underlying t=some (.slice e))(hs:(P.info? e).map (·.size)=some 14)(hk:k<=m)(hf:pI A F [] a (gR L))(hmc:m<=c)(hl:L.length=m) :
  bJ P S (SF w0 M H A F O) ⟨some d,.slice t x (some y) none none,ty,pos,af,gd⟩ (Option Addr) (λ p=>.slice p (m-k) (c-k)) (λ p=>SF w0 M H ((p,gR (L.drop k))::A) F O):=by
 have:=jb (P:=P) (w0:=w0) (M:=M) (H:=H) (O:=O) (d:=d) (ty:=ty) (pos:=pos) (af:=af) (gd:=gd) hx hy ht hs hk hf hmc (by rw[eP,hl])
 rw[Lx] at this
 exact this
theorem SF.Ij(h:SF w0 M H A F O w){L:List aL}{T:TypeId}(ho:vE O i p (gR L) c T 14):L.length<=c:=by
 rcases(h.own _ ho.mem).1 with⟨_,h2,_⟩|⟨b,rest,_,_,h3⟩
 ·have h2':gR L=[]:=h2
  have:(gR L).length=0:=by rw[h2'];rfl
  rw[eP] at this
  omega
 ·have h3':(gR L++rest).length=c*14:=h3
  rw[List.length_append,eP] at h3'
  omega
theorem aK{b off:Nat}{cs vs:List Value}{T:TypeId}(hx:ev S x=.pointer (some ⟨b,off,none⟩))(ha:At H i b (.cells ⟨cs⟩ T (0,0)))(ht:jP P t k=true)(hv:(cs.drop off).take k=vs)(hl:vs.length=k) :
  aJ P S (SF w0 M H A F O) ⟨some d,.load t x,ty,pos,af,gd⟩ (.agg ⟨vs⟩):=⟨λ w hw=>by
 have hb:=hw.st.at ha
 have hcl:Cl w (some ⟨b,0,none⟩) cs:=Cl.block (pre:=[]) (rest:=[]) (by simpa using hb) rfl
 obtain⟨dd,hu,hm,hi⟩:=iF ht
 have hagg:(isAgg t).run P w=.ok true w:=by
  unfold isAgg
  rw[Sem.run_bind,run_underlying hu w]
  cases dd<;>simp_all
 have hlc:(loadCells ⟨b,off,none⟩ k).run P w=.ok ⟨vs⟩ w:=by
  have:=run_loadCells_list (P:=P) w ⟨b,off,none⟩ vs (λ j z hz=>by
   rw[Addr.add_lit]
   have hj:j<k:=by rw[<- hl];exact(List.getElem?_eq_some_iff.1 hz).1
   have h1:cs[off+j]?=some z:=by
    rw[<- hv,List.getElem?_take,if_pos hj,List.getElem?_drop] at hz
    exact hz
   have h3:=(hcl.at_ (off+j) z h1).2
   simpa[cR,dX] using h3)
  rwa [hl] at this
 cases hq':P.info? t with
 | none=>rw[hq'] at hi;simp at hi
 | some inf =>
  have hs:inf.size=k:=by rw[hq'] at hi;simpa using hi
  simp[execOp,hx,Instr.loadAt,Instr.sureAddr,loadVar,hagg,Go.sizeOf,typeInfo,hq',hs,hlc]⟩
def yV(P:Program)(t:TypeId)(k:Nat):Option Nat :=
 match P.underlying t with
 | some (.struct fs)=>match fs[k]? with
  | some f=>if one P f.type then some f.offset else none
  | none=>none
 | _=>none
theorem Th{cs:List Value}{off:Nat}{v:Value}(hx:ev S x=.agg ⟨cs⟩)(hf:yV P t k=some off)(hv:cs[off]?=some v):aJ P S G ⟨some d,.field t x k,ty,pos,af,gd⟩ v:=⟨λ w _=>by
 unfold yV at hf
 cases hu:P.underlying t with
 | none=>simp[hu] at hf
 | some dd =>
  cases dd<;>simp[hu] at hf
  rename_i fs
  cases hk:fs[k]? with
  | none=>simp[hk] at hf
  | some f =>
   simp only[hk] at hf
   split at hf
   ·rename_i h1
    simp only[Option.some.injEq] at hf
    subst hf
    have hp:=rL (P:=P) h1 (cs:=⟨cs⟩) (off:=f.offset) (v:=v) (by simpa using hv) w
    simp[execOp,hx,Instr.field,run_underlying hu,hk,asAgg,hp]
   ·cases hf⟩
theorem yg{kk:IntKind}{a:Int}(hx:ev S x=.int kk a):aJ P S G ⟨some d,.unOp .neg t x,ty,pos,af,gd⟩ (.int kk (kk.wrap (0-a))):=⟨λ w _=>by
 simp[execOp,hx,Op.unary,Op.intArith]⟩
def iH(l:List Bool):List Value:=l.map .bool
theorem wG(l:List Bool):(iH l).length=l.length:=by simp[iH]
theorem T9{l:List Bool}{k:Nat}(h:k<l.length):(iH l)[k]?=some (.bool (l.getD k false)):=by simp[iH,h,List.getD]
theorem Qi(k:Nat):made [.bool false] k=iH (List.replicate k false):=by
 refine List.ext_getElem? λ i=>?_
 by_cases hi:i<k
 ·simp[made,madeCells,iH,Array.getElem?_toList,Array.getElem?_map,Array.getElem?_range,hi,Nat.mod_one]
 ·rw[List.getElem?_eq_none (by rw[iS];simp;omega),List.getElem?_eq_none (by simp[iH];omega)]
theorem jf{m k:Nat}{k1 k2:IntKind}(hx:ev S x=.int k1 ((m:Nat):Int))(hy:ev S y=.int k2 ((k:Nat):Int))(he:dE P t e [.bool false])(hmk:m<=k)(hk:k<=1099511627776) :
  bJ P S (SF w0 M H A F O) ⟨some d,.makeSlice t x y,ty,pos,af,gd⟩ Nat (λ b=>.slice (some ⟨b,0,none⟩) m k) (λ b=>SF w0 M H A F (⟨some ⟨b,0,none⟩,iH (List.replicate m false),k,e,1⟩::O)) :=
 Jo hx hy he hmk hk (Qi m)
theorem uL{lst:List Bool}{kk:IntKind}(hx:ev S x=.slice a m c)(hy:ev S y=.int kk ((k:Nat):Int))(ht:P.underlying t=some (.slice e))(hs:one P e=true)(hf:pI A F O a (iH lst))(h1:k<m)(h2:k<lst.length) :
  aJ P S (SF w0 M H A F O) ⟨some d,.indexAddr t x y,ty,pos,af,gd⟩ (.pointer (some ⟨cR a,dX a+k,none⟩)):=⟨λ w hw =>
 (xF (G:=SF w0 M H A F O) hx hy ht hs ((hw.cl hf).ptr (by rw[wG];omega)) h1).run w hw⟩
theorem Jk{lst:List Bool}{q:Nat}(hx:ev S x=.pointer (some ⟨cR a,dX a+q,none⟩))(ht:one P t=true)(hf:pI A F O a (iH lst))(hq:q<lst.length) :
  aJ P S (SF w0 M H A F O) ⟨some d,.load t x,ty,pos,af,gd⟩ (.bool (lst.getD q false)):=nT hx ht (λ w hw=>hw.cl hf) (T9 hq)
theorem Oe(l:List Bool)(k:Nat)(v:Bool):(iH l).set k (.bool v)=iH (l.set k v):=by simp[iH]
theorem Xb{q:Nat}{l:List Bool}{v:Bool}(hx:ev S x=.pointer (some ⟨cR p,dX p+q,none⟩))(hy:ev S y=.bool v)(ht:one P t=true)(ho:vE O i p (iH l) c e 1)(hq:q<l.length) :
  bJ P S (SF w0 M H A F O) ⟨none,.store t x y,ty,pos,af,gd⟩ Unit (λ _=>undef) (λ _=>SF w0 M H A F (jQ O i ⟨p,iH (l.set q v),c,e,1⟩)):=by
 rw[<- Oe]
 exact Lq hx hy rfl ht ho (by rw[wG];exact hq)
theorem Yg(hx:ev S x=.slice a m c)(hy:ev S y=.slice none 0 0)(ht:P.underlying t=some (.slice e)):aJ P S G ⟨some d,.binOp .eql t x y t2,ty,pos,af,gd⟩ (.bool a.isNone):=⟨λ w _=>by
 have:=Go.Lib.run_eql_slice_nil (P:=P) w t e a m c 0 0 ht
 simp[execOp,hx,hy,this,eqGuard]⟩
end
end

end Go.Ct

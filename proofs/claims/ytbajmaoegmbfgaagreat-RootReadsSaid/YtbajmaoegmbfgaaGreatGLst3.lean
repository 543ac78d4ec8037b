/- The engine, part 9: lists of strings and of nodes; tapes. -/
import Derived.Test.YtbajmaoegmbfgaaGreatGLst
import Derived.Test.YtbajmaoegmbfgaaGreatGMem
import Derived.Lib.SliceRun
import Derived.Laws.Pointers

set_option linter.unusedSimpArgs false
set_option linter.unusedVariables false
namespace Go.Ct
section
open Go Go.RowKit
section
variable{P:Program}{n:Nat}{S:List (Nat×Value)}
variable{w0 w w':World}{M:List Nat}{H H':List (Nat×Obj)}{A F F':Fr}{O O':List Ow}{G:World->Prop}
variable{d:Nat}{ty:TypeId}{pos:String}{af:Array Edge}{gd:Option (Nat×Bool)}{dst:Option Nat}{x y z:Operand}{t t2 e:TypeId}{p a:Option Addr}{i m k c c2:Nat}
def Sr(l:List ByteArray):List Value:=l.map Value.string
theorem Zs{lst:List ByteArray}{kk:IntKind}(hx:ev S x=.slice a m c)(hy:ev S y=.int kk ((k:Nat):Int))(ht:P.underlying t=some (.slice e))(hs:one P e=true)(hf:rD A F O a (Sr lst))(h1:k<m)(h2:k<lst.length) :
  aP P S (SF w0 M H A F O) ⟨some d,.indexAddr t x y,ty,pos,af,gd⟩ (.pointer (some ⟨dI a,fC a+k,none⟩)):=⟨λ w hw =>
 (zY (G:=SF w0 M H A F O) hx hy ht hs ((hw.cl hf).ptr (by simp only[Sr,List.length_map];omega)) h1).run w hw⟩
theorem m6{lst:List ByteArray}{q:Nat}(hx:ev S x=.pointer (some ⟨dI a,fC a+q,none⟩))(ht:one P t=true)(hf:rD A F O a (Sr lst))(hq:q<lst.length) :
  aP P S (SF w0 M H A F O) ⟨some d,.load t x,ty,pos,af,gd⟩ (.string (lst.getD q ⟨#[]⟩)):=qL hx ht (λ w hw=>hw.cl hf) (by simp[Sr,hq,List.getD])
def Lq(l:List Nd):List Value:=l.flatMap Nd.cells
theorem Ce:∀l:List Nd,(Lq l).length=14*l.length
 | []=>rfl
 | _::r=>by
  have:=Ce r
  simp only[Lq,List.flatMap_cons,List.length_append,List.length_cons] at this ⊢
  rw[this]
  simp only[Nd.cells,List.length_cons,List.length_nil]
  omega
theorem Ti:∀{l:List Nd} {k j:Nat},k<l.length->j<14->(Lq l)[14*k+j]?=(l.getD k Nd.zero).cells[j]?
 | [],_,_,h,_=>by simp at h
 | n::r,0,j,_,hj=>by
  simp only[Lq,List.flatMap_cons,Nat.mul_zero,Nat.zero_add,List.getD_cons_zero]
  rw[List.getElem?_append_left (by simp only[Nd.cells,List.length_cons,List.length_nil];omega)]
 | n::r,k+1,j,h,hj=>by
  have:=Ti (l:=r) (k:=k) (j:=j) (by simpa using h) hj
  simp only[Lq,List.flatMap_cons,List.getD_cons_succ] at this ⊢
  rw[List.getElem?_append_right (by simp only[Nd.cells,List.length_cons,List.length_nil];omega),<- this]
  congr 1
  simp only[Nd.cells,List.length_cons,List.length_nil]
  omega
theorem Ro{m c:Nat}{i:Int}{kk:IntKind}(hx:ev S x=.slice a m c)(hy:ev S y=.int kk ((k:Nat):Int))(ht:P.underlying t=some (.slice e))(hs:jT P e 14=true)(ha:a=some ⟨dI a,fC a,none⟩)(h1:k<m) :
  aP P S G ⟨some d,.indexAddr t x y,ty,pos,af,gd⟩ (.pointer (some ⟨dI a,fC a+14*k,none⟩)):=⟨λ w _=>by
 obtain⟨_,_,_,hsz⟩:=iV hs
 have:=Bb (P:=P) (a:=a) (m:=m) (c:=c) (k:=kk) ht hsz ha (i:=(k:Int)) (by omega) (by omega) w
 simp only[Int.toNat_natCast,Nat.mul_comm k 14] at this
 simp[execOp,hx,hy,this]⟩
theorem Yt{lst:List Nd}{kk:IntKind}(hx:ev S x=.slice a m c)(hy:ev S y=.int kk ((k:Nat):Int))(ht:P.underlying t=some (.slice e))(hs:jT P e 14=true)(hf:rD A F O a (Lq lst))(h1:k<m)(h2:k<lst.length) :
  aP P S (SF w0 M H A F O) ⟨some d,.indexAddr t x y,ty,pos,af,gd⟩ (.pointer (some ⟨dI a,fC a+14*k,none⟩)):=⟨λ w hw =>
 (Ro (i:=0) (G:=SF w0 M H A F O) hx hy ht hs ((hw.cl hf).ptr (by rw[Ce];omega)) h1).run w hw⟩
theorem pb{lst:List Nd}{q:Nat}(hx:ev S x=.pointer (some ⟨dI a,fC a+14*q,none⟩))(ht:jT P t 14=true)(hf:rD A F O a (Lq lst))(hq:q<lst.length) :
  aP P S (SF w0 M H A F O) ⟨some d,.load t x,ty,pos,af,gd⟩ (lst.getD q Nd.zero).v:=⟨λ w hw=>by
 have hcl:=hw.cl hf
 obtain⟨dd,hu,hm,hi⟩:=iV ht
 have hagg:(isAgg t).run P w=.ok true w:=by
  unfold isAgg
  rw[Sem.run_bind,run_underlying hu w]
  cases dd<;>simp_all
 have hl:(loadCells ⟨dI a,fC a+14*q,none⟩ 14).run P w=.ok ⟨(lst.getD q Nd.zero).cells⟩ w:=by
  have:=run_loadCells_list (P:=P) w ⟨dI a,fC a+14*q,none⟩ (lst.getD q Nd.zero).cells (λ j z hz=>by
   have hj:j<14:=(List.getElem?_eq_some_iff.1 hz).1
   rw[Addr.add_lit]
   have h3:=(hcl.at_ (14*q+j) z (by rw[Ti hq hj];exact hz)).2
   rwa [<- Nat.add_assoc] at h3)
  exact this
 cases hq':P.info? t with
 | none=>rw[hq'] at hi;simp at hi
 | some i =>
  have hs:i.size=14:=by rw[hq'] at hi;simpa using hi
  simp[execOp,hx,Instr.loadAt,Instr.sureAddr,loadVar,hagg,Go.sizeOf,typeInfo,hq',hs,hl,Nd.v]⟩
def Wx(v n:Int):Int:=IntKind.i64.wrap ((IntKind.u64.wrap v).tmod (IntKind.u64.wrap n))
def tvN(l:List Int)(k:Nat)(n:Int):Nat:=if k<l.length then(Wx (l.getD k 0) n).toNat else 0
def lD(l:List Int)(k:Nat):Nat:=if k<l.length then k+1 else k
theorem wrap_u64(i:Int):IntKind.u64.wrap i=i%18446744073709551616:=by
 simp[IntKind.wrap,IntKind.signed,IntKind.bits]
theorem Ry{v n:Int}(h0:0<n)(h1:n<=9223372036854775807):0<=Wx v n/\Wx v n<n:=by
 unfold Wx
 rw[wrap_u64,wrap_u64,Int.emod_eq_of_lt (a:=n) (by omega) (by omega)]
 have h2:=Int.emod_nonneg v (show(18446744073709551616:Int)≠0 by decide)
 have h3:=Int.tmod_lt_of_pos (v%18446744073709551616) h0
 have h4:=Int.tmod_nonneg n h2
 rw[wrap_i64 (by omega) (by omega)]
 exact⟨h4,h3⟩
def ij(T:TypeId)(a:Option Addr)(l:List Int)(c k:Nat):Obj:=.cells ⟨[.slice a l.length c,.int .i64 ((k:Nat):Int)]⟩ T (0,0)
structure L8(w:World)(T:TypeId)(b:Nat)(a:Option Addr)(l:List Int)(c k:Nat):Prop where
 obj:w.heap[b]?=some (ij T a l c k)
 cl:Cl w a (aG l)
 ne:aG l≠[]->dI a≠b
 len:l.length<=17592186043904
theorem SF.tape(h:SF w0 M H A F O w){T b l}(ha:At H i b (ij T a l c k))(hf:rD A F [] a (aG l))(hl:l.length<=17592186043904):L8 w T b a l c k:=by
 refine⟨h.st.at ha,?_,λ hc e=>h.apart hf hc (e▸List.mem_append_left _ (List.mem_map.2 ⟨_,ha.mem,rfl⟩)),hl⟩
 cases hf with
 | bF h1=>exact h.cl (.bF h1)
 | new h1=>exact h.cl (.new h1)
 | own h1=>cases h1
 | hdr h1 _=>cases h1
theorem L8.start{T b l}(h:L8 w T b a l c k):SF w [b] [(b,.cells ⟨[.slice a l.length c,.int .i64 ((k:Nat):Int)]⟩ T (0,0))] [(a,aG l)] [] [] w:=by
 refine⟨⟨rfl,rfl,rfl,Nat.le_refl _,λ _ _ _=>rfl,λ p hp=>?_,λ p hp=>?_,by simp⟩,λ f hf=>?_,λ _ h=>(List.not_mem_nil h).elim,λ _ h=>(List.not_mem_nil h).elim,by simp[Ks]⟩
 ·simp only[List.mem_singleton] at hp
  subst hp
  exact h.obj
 ·simp only[List.mem_singleton] at hp
  subst hp
  exact .inl (by simp)
 ·simp only[List.mem_singleton] at hf
  subst hf
  exact⟨h.cl,λ hc=>by simp only[Ks,List.map_cons,List.map_nil,List.flatMap_nil,List.append_nil,List.mem_singleton];exact h.ne hc⟩
end
end

/- The engine, part 10b: lists of nodes, each with its own lists. -/
section
open Go Go.RowKit
section
variable{w0 w w':World}{M:List Nat}{H:List (Nat×Obj)}{A F:Fr}{O:List Ow}
structure aX where
 nd:Nd
 xs:List Int
 ys:List Pr
structure Nv where
 kind:Int
 gen:Int
 main:Int
 bm:Int
 xs:List Int
 hash:Int
 key:ByteArray
 val:Int
 ys:List Pr
 prev:Int
 bF:Int
 exp:Int
 new:Int
 status:Int
def Nd.c(n:Nd)(xs:List Int)(ys:List Pr):Nv:=⟨n.kind,n.gen,n.main,n.bm,xs,n.hash,n.key,n.val,ys,n.prev,n.bF,n.exp,n.new,n.status⟩
def aX.c(v:aX):Nv:=v.nd.c v.xs v.ys
theorem vK{a b:Nd}{x1 x2:List Int}{y1 y2:List Pr}:rP a b x1 x2 y1 y2↔a.c x1 y1=b.c x2 y2:=by simp[rP,Nd.c]
def aX.fr(v:aX):Fr:=[(v.nd.brA,aG v.xs),(v.nd.prA,dW v.ys)]
def aX.zero:aX:=⟨Nd.zero,[],[]⟩
def aR(L:List aX):Fr:=L.flatMap aX.fr
def iO(L:List aX):List Value:=L.flatMap (·.nd.cells)
theorem Tn(L:List aX):iO L=Lq (L.map (·.nd)):=by simp[iO,Lq,List.flatMap_map]
theorem jw{L:List aX}{k:Nat}:(L.map (·.nd)).getD k Nd.zero=(L.getD k aX.zero).nd:=by
 rw[lB,lB,List.getElem?_map]
 cases L[k]?<;>rfl
theorem jF(n:Nd):n.cells.length=14:=rfl
theorem Fl(a b:List aX):iO (a++b)=iO a++iO b:=by simp[iO]
theorem mv(v:aX):iO [v]=v.nd.cells:=by simp[iO]
theorem bH(a:List aX)(v:aX):iO (a++[v])=iO a++v.nd.cells:=by rw[Fl,mv]
theorem eI(a b:List aX):aR (a++b)=aR a++aR b:=by simp[aR]
theorem dJ:∀L:List aX,(iO L).length=L.length*14
 | []=>rfl
 | v::L=>by
  have:=dJ L
  simp only[iO,List.flatMap_cons,List.length_append,jF,List.length_cons] at this ⊢
  omega
theorem dx:∀{L:List aX} {k j:Nat} {v:Value},k<L.length->(L.getD k aX.zero).nd.cells[j]?=some v->(iO L)[14*k+j]?=some v
 | v::L,0,j,u,_,hj=>by
  have hlt:j<14:=by
   have:=(List.getElem?_eq_some_iff.1 hj).1
   simpa[jF] using this
  simp only[iO,List.flatMap_cons,Nat.mul_zero,Nat.zero_add]
  rw[List.getElem?_append_left (by rw[jF];exact hlt)]
  simpa using hj
 | v::L,k+1,j,u,hk,hj=>by
  simp only[iO,List.flatMap_cons]
  rw[List.getElem?_append_right (by rw[jF];omega),jF,show 14*(k+1)+j-14=14*k+j by omega]
  exact dx (L:=L) (by simpa using hk) (by simpa using hj)
theorem Cc(n:Nd):n.cells.all (·.oneCell')=true:=rfl
theorem Aa:∀L:List aX,(iO L).all (·.oneCell')=true
 | []=>rfl
 | v::L=>by
  have:=Aa L
  simp only[iO,List.flatMap_cons,List.all_append,Bool.and_eq_true] at this ⊢
  exact⟨Cc _,this⟩
theorem rW{L:List aX}{f:Option Addr×List Value}:f∈aR L↔∃v∈L,f∈v.fr:=by simp[aR]
theorem iU{L:List aX}{k:Nat}(hk:k<L.length):L.getD k aX.zero∈L:=by
 rw[lB,List.getElem?_eq_getElem hk];exact List.getElem_mem hk
theorem Lg{L:List aX}{k:Nat}(hk:k<L.length):((L.getD k aX.zero).nd.brA,aG (L.getD k aX.zero).xs)∈aR L:=rW.2 ⟨_,iU hk,by simp[aX.fr]⟩
theorem Kq{L:List aX}{k:Nat}(hk:k<L.length):((L.getD k aX.zero).nd.prA,dW (L.getD k aX.zero).ys)∈aR L:=rW.2 ⟨_,iU hk,by simp[aX.fr]⟩
structure aX.Fit(v:aX):Prop where
 brN:v.nd.brN=v.xs.length
 prN:v.nd.prN=v.ys.length
 brS:v.xs.length<=35184372088832
 prS:v.ys.length<=11728124029610
theorem aX.Fit.sE{v:aX}(h:v.Fit){w:World}(hb:Cl w v.nd.brA (aG v.xs))(hp:Cl w v.nd.prA (dW v.ys)):rK w v.nd v.xs v.ys :=
 ⟨h.brN,h.prN,hb,hp,by have:=h.brS;omega,by have:=h.prS;omega⟩
def Fits(L:List aX):Prop:=∀v∈L,v.Fit
theorem Fits.at{L:List aX}(h:Fits L){k:Nat}(hk:k<L.length):(L.getD k aX.zero).Fit:=h _ (iU hk)
theorem Mn:aX.zero.Fit:=⟨rfl,rfl,by decide,by decide⟩
structure C8(w:World)(L:List aX)(cs:List Int)(pn pc:Option Addr):Prop where
 nds:Cl w pn (iO L)
 cls:Cl w pc (aG cs)
 fam:∀f∈aR L,Cl w f.1 f.2
 fit:Fits L
theorem C8.start{w:World}{L:List aX}{cs:List Int}{pn pc:Option Addr}(h:C8 w L cs pn pc):SF w [] [] ((pn,iO L)::(pc,aG cs)::aR L) [] [] w:=SF.begin λ f hf=>by
 rcases List.mem_cons.1 hf with rfl|hf
 ·exact h.nds
 rcases List.mem_cons.1 hf with rfl|hf
 ·exact h.cls
 ·exact h.fam f hf
theorem SF.jq{L:List aX}{f1 f2:Option Addr×List Value}(h:SF w0 M H (f1::f2::aR L) F O w)(hfit:Fits L){k:Nat}(hk:k<L.length):rK w (L.getD k aX.zero).nd (L.getD k aX.zero).xs (L.getD k aX.zero).ys :=
 (hfit.at hk).sE (h.bF _ (List.mem_cons_of_mem _ (List.mem_cons_of_mem _ (Lg hk)))).1 (h.bF _ (List.mem_cons_of_mem _ (List.mem_cons_of_mem _ (Kq hk)))).1
theorem SF.zh{L:List aX}(h:SF w0 M H (aR L) F O w)(hfit:Fits L){k:Nat}(hk:k<L.length):rK w (L.getD k aX.zero).nd (L.getD k aX.zero).xs (L.getD k aX.zero).ys :=
 (hfit.at hk).sE (h.bF _ (Lg hk)).1 (h.bF _ (Kq hk)).1
theorem SF.uh{L:List aX}(h:SF w0 M H A F O w)(hF:∀f∈aR L,f.2=[]∨f∈A∨f∈F)(hfit:Fits L){v:aX}(hv:v∈L):rK w v.nd v.xs v.ys:=by
 have key:∀f∈aR L,Cl w f.1 f.2:=λ f hf=>by
  rcases hF f hf with h0|h1|h1
  ·rw[h0];exact Cl.nil _ _
  ·exact(h.bF f h1).1
  ·exact(h.new f h1).1
 exact(hfit v hv).sE (key (v.nd.brA,aG v.xs) (rW.2 ⟨v,hv,by simp[aX.fr]⟩)) (key (v.nd.prA,dW v.ys) (rW.2 ⟨v,hv,by simp[aX.fr]⟩))
variable{P:Program}{S:List (Nat×Value)}{G:World->Prop}{d:Nat}{ty:TypeId}{pos:String}{af:Array Edge}{gd:Option (Nat×Bool)}{x y:Operand}{t t2 e:TypeId}{p a:Option Addr}{i m k c c2:Nat}
theorem zX{L:List aX}{kk:IntKind}(hx:ev S x=.slice a m c)(hy:ev S y=.int kk ((k:Nat):Int))(ht:P.underlying t=some (.slice e))(hs:jT P e 14=true)(hf:rD A F O a (iO L))(h1:k<m)(h2:k<L.length) :
  aP P S (SF w0 M H A F O) ⟨some d,.indexAddr t x y,ty,pos,af,gd⟩ (.pointer (some ⟨dI a,fC a+14*k,none⟩)):=Yt (lst:=L.map (·.nd)) hx hy ht hs (by rw[<- Tn];exact hf) h1 (by simpa using h2)
theorem Vi{L:List aX}{q:Nat}(hx:ev S x=.pointer (some ⟨dI a,fC a+14*q,none⟩))(ht:jT P t 14=true)(hf:rD A F O a (iO L))(hq:q<L.length) :
  aP P S (SF w0 M H A F O) ⟨some d,.load t x,ty,pos,af,gd⟩ (L.getD q aX.zero).nd.v:=by
 have:=pb (P:=P) (S:=S) (w0:=w0) (M:=M) (H:=H) (A:=A) (F:=F) (O:=O) (d:=d) (ty:=ty) (pos:=pos) (af:=af) (gd:=gd) (lst:=L.map (·.nd)) hx ht (by rw[<- Tn];exact hf) (by simpa using hq)
 rwa [jw] at this
theorem Hh{L:List aX}{q:Nat}(hx:ev S x=.pointer (some ⟨dI a,fC a+14*q,none⟩))(ht:one P t=true)(hf:rD A F O a (iO L))(hq:q<L.length) :
  aP P S (SF w0 M H A F O) ⟨some d,.load t x,ty,pos,af,gd⟩ (.int .i64 (L.getD q aX.zero).nd.kind):=qL (q:=14*q) hx ht (λ w hw=>hw.cl hf) (dx (j:=0) hq rfl)
theorem Sl{L:List aX}{zc:List Value}(v:aX)(hx:ev S x=.slice p m c)(hy:ev S y=.slice a 1 c2)(ho:wY O i p (iO L) c e 14)(hm:L.length=m)(hf:rD A F O a v.nd.cells)
  (he:eM P t e zc) (hz:zc.length=14) (ht2:P.underlying t2=some (.slice e)) (hb:m+1<=549755813888) :
  aM P S (SF w0 M H A F O) ⟨some d,.call {callee:=.builtin .append,args := #[x,y],argTypes := #[t,t2]},ty,pos,af,gd⟩ (Option Addr×Nat) (λ q=>.slice q.1 (m+1) q.2)
   (λ q w=>m+1<=q.2/\SF w0 M H A F (kF O i ⟨q.1,iO (L++[v]),q.2,e,14⟩) w):=by
 rw[bH]
 exact fJ hx hy ho (by rw[dJ,hm]) hf (by simp[Nd.cells]) (Cc _) he hz (by decide) ht2 hb
theorem Zg{L L2:List aX}{zc:List Value}(hx:ev S x=.slice p m c)(hy:ev S y=.slice a k c2)(ho:wY O i p (iO L) c e 14)(hm:L.length=m)(hf:rD A F O a (iO L2))(hk:L2.length=k)
  (he:eM P t e zc) (hz:zc.length=14) (ht2:P.underlying t2=some (.slice e)) (hb:m+k<=549755813888) :
  aM P S (SF w0 M H A F O) ⟨some d,.call {callee:=.builtin .append,args := #[x,y],argTypes := #[t,t2]},ty,pos,af,gd⟩ (Option Addr×Nat) (λ q=>.slice q.1 (m+k) q.2)
   (λ q w=>m+k<=q.2/\SF w0 M H A F (kF O i ⟨q.1,iO (L++L2),q.2,e,14⟩) w):=by
 rw[Fl]
 exact fJ hx hy ho (by rw[dJ,hm]) hf (by rw[dJ,hk]) (Aa _) he hz (by decide) ht2 hb
theorem mq{k:Nat}{k1 k2:IntKind}{zc:List Value}(hx:ev S x=.int k1 0)(hy:ev S y=.int k2 ((k:Nat):Int))(he:eM P t e zc)(hz:zc.length=14)(hk:k<=1099511627776) :
  aM P S (SF w0 M H A F O) ⟨some d,.makeSlice t x y,ty,pos,af,gd⟩ Nat (λ b=>.slice (some ⟨b,0,none⟩) 0 k) (λ b=>SF w0 M H A F (⟨some ⟨b,0,none⟩,iO [],k,e,14⟩::O)):=by
 have:=Ut (P:=P) (S:=S) (w0:=w0) (M:=M) (H:=H) (A:=A) (F:=F) (O:=O) (d:=d) (ty:=ty) (pos:=pos) (af:=af) (gd:=gd) (m:=0) (k:=k) (k1:=k1) (k2:=k2) (x:=x) (y:=y) (cs:=iO []) (by simpa using hx) hy he (Nat.zero_le _) hk (List.eq_nil_of_length_eq_zero (by rw[jZ];simp))
 rwa [hz] at this
section
variable{m n:Nat}{t':TypeId}
theorem jS(hx:ev S x=.int .i64 ((m:Nat):Int))(hy:ev S y=.int .i64 ((n:Nat):Int))(h:m+n<=9223372036854775807) :
  aP P S G ⟨some d,.binOp .add t x y t',ty,pos,af,gd⟩ (.int .i64 ((m+n:Nat):Int)):=by
 have:=pR (P:=P) (G:=G) (d:=d) (ty:=ty) (pos:=pos) (af:=af) (gd:=gd) (t:=t) (t':=t') hx hy
 rw[wrap_i64 (by omega) (by omega)] at this
 rw[Int.natCast_add]
 exact this
theorem gJ(hx:ev S x=.int .i64 ((m:Nat):Int))(hy:ev S y=.int .i64 ((n:Nat):Int))(h:n<=m)(h2:m<=9223372036854775807) :
  aP P S G ⟨some d,.binOp .sub t x y t',ty,pos,af,gd⟩ (.int .i64 ((m-n:Nat):Int)):=by
 have:=Ni (P:=P) (G:=G) (d:=d) (ty:=ty) (pos:=pos) (af:=af) (gd:=gd) (t:=t) (t':=t') hx hy
 rw[wrap_i64 (by omega) (by omega)] at this
 rw[Int.natCast_sub h]
 exact this
end
theorem kM{P:Program}{S:List (Nat×Value)}{G:World->Prop}{d:Nat}{ty:TypeId}{pos:String}{af:Array Edge}{gd:Option (Nat×Bool)}{x:Operand}{vs:List Value}{k:Nat}{v:Value}(hx:ev S x=.tuple ⟨vs⟩)(hk:vs[k]?=some v):aP P S G ⟨some d,.extract x k,ty,pos,af,gd⟩ v:=⟨λ w _=>by
 simp[execOp,hx,Instr.extract,hk]⟩
theorem gk{a:Int}(hx:ev S x=.int .i64 a)(hy:ev S y=.int .i64 1)(h:1<=a)(h2:a<=9223372036854775807):aP P S G ⟨some d,.binOp .sub t x y t2,ty,pos,af,gd⟩ (.int .i64 (((a-1).toNat:Nat):Int)):=by
 have:=Rl (P:=P) (G:=G) (d:=d) (ty:=ty) (pos:=pos) (af:=af) (gd:=gd) (t:=t) (t':=t2) hx hy (by omega)
 rwa [show a-1=(((a-1).toNat:Nat):Int) by omega] at this
theorem Ny:∀(L:List aX) (k:Nat),(iO L).drop (k*14)=iO (L.drop k)
 | [],k=>by simp[iO]
 | v::L,0=>by simp
 | v::L,k+1=>by
  have:=Ny L k
  rw[List.drop_succ_cons,<- this]
  show(v.nd.cells++iO L).drop ((k+1)*14)=_
  rw[List.drop_append,List.drop_eq_nil_of_le (by rw[jF];omega),jF,List.nil_append]
  congr 1
  omega
theorem od{L:List aX}(hx:ev S x=.slice a m c)(hy:ev S y=.int .i64 ((k:Nat):Int))(ht:P.underlying t=some (.slice e))(hs:(P.info? e).map (·.size)=some 14)(hk:k<=m)(hf:rD A F [] a (iO L))(hmc:m<=c)(hl:L.length=m) :
  aM P S (SF w0 M H A F O) ⟨some d,.slice t x (some y) none none,ty,pos,af,gd⟩ (Option Addr) (λ p=>.slice p (m-k) (c-k)) (λ p=>SF w0 M H ((p,iO (L.drop k))::A) F O):=by
 have:=lh (P:=P) (w0:=w0) (M:=M) (H:=H) (O:=O) (d:=d) (ty:=ty) (pos:=pos) (af:=af) (gd:=gd) hx hy ht hs hk hf hmc (by rw[dJ,hl])
 rw[Ny] at this
 exact this
theorem SF.wh(h:SF w0 M H A F O w){L:List aX}{T:TypeId}(ho:wY O i p (iO L) c T 14):L.length<=c:=by
 rcases(h.own _ ho.mem).1 with⟨_,h2,_⟩|⟨b,rest,_,_,h3⟩
 ·have h2':iO L=[]:=h2
  have:(iO L).length=0:=by rw[h2'];rfl
  rw[dJ] at this
  omega
 ·have h3':(iO L++rest).length=c*14:=h3
  rw[List.length_append,dJ] at h3'
  omega
theorem aL{b off:Nat}{cs vs:List Value}{T:TypeId}(hx:ev S x=.pointer (some ⟨b,off,none⟩))(ha:At H i b (.cells ⟨cs⟩ T (0,0)))(ht:jT P t k=true)(hv:(cs.drop off).take k=vs)(hl:vs.length=k) :
  aP P S (SF w0 M H A F O) ⟨some d,.load t x,ty,pos,af,gd⟩ (.agg ⟨vs⟩):=⟨λ w hw=>by
 have hb:=hw.st.at ha
 have hcl:Cl w (some ⟨b,0,none⟩) cs:=Cl.block (pre:=[]) (rest:=[]) (by simpa using hb) rfl
 obtain⟨dd,hu,hm,hi⟩:=iV ht
 have hagg:(isAgg t).run P w=.ok true w:=by
  unfold isAgg
  rw[Sem.run_bind,run_underlying hu w]
  cases dd<;>simp_all
 have hlc:(loadCells ⟨b,off,none⟩ k).run P w=.ok ⟨vs⟩ w:=by
  have:=run_loadCells_list (P:=P) w ⟨b,off,none⟩ vs (λ j z hz=>by
   rw[Addr.add_lit]
   have hj:j<k:=by rw[<- hl];exact(List.getElem?_eq_some_iff.1 hz).1
   have h1:cs[off+j]?=some z:=by
    rw[<- hv,List.getElem?_take,if_pos hj,List.getElem?_drop] at hz
    exact hz
   have h3:=(hcl.at_ (off+j) z h1).2
   simpa[dI,fC] using h3)
  rwa [hl] at this
 cases hq':P.info? t with
 | none=>rw[hq'] at hi;simp at hi
 | some inf =>
  have hs:inf.size=k:=by rw[hq'] at hi;simpa using hi
  simp[execOp,hx,Instr.loadAt,Instr.sureAddr,loadVar,hagg,Go.sizeOf,typeInfo,hq',hs,hlc]⟩
def zR(P:Program)(t:TypeId)(k:Nat):Option Nat :=
 match P.underlying t with
 | some (.struct fs)=>match fs[k]? with
  | some f=>if one P f.type then some f.offset else none
  | none=>none
 | _=>none
theorem Tl{cs:List Value}{off:Nat}{v:Value}(hx:ev S x=.agg ⟨cs⟩)(hf:zR P t k=some off)(hv:cs[off]?=some v):aP P S G ⟨some d,.field t x k,ty,pos,af,gd⟩ v:=⟨λ w _=>by
 unfold zR at hf
 cases hu:P.underlying t with
 | none=>simp[hu] at hf
 | some dd =>
  cases dd<;>simp[hu] at hf
  rename_i fs
  cases hk:fs[k]? with
  | none=>simp[hk] at hf
  | some f =>
   simp only[hk] at hf
   split at hf
   ·rename_i h1
    simp only[Option.some.injEq] at hf
    subst hf
    have hp:=mI (P:=P) h1 (cs:=⟨cs⟩) (off:=f.offset) (v:=v) (by simpa using hv) w
    simp[execOp,hx,Instr.field,run_underlying hu,hk,asAgg,hp]
   ·cases hf⟩
def kV(l:List Bool):List Value:=l.map .bool
theorem yG(l:List Bool):(kV l).length=l.length:=by simp[kV]
theorem Wo{l:List Bool}{k:Nat}(h:k<l.length):(kV l)[k]?=some (.bool (l.getD k false)):=by simp[kV,h,List.getD]
theorem Rx(k:Nat):made [.bool false] k=kV (List.replicate k false):=by
 refine List.ext_getElem? λ i=>?_
 by_cases hi:i<k
 ·simp[made,madeCells,kV,Array.getElem?_toList,Array.getElem?_map,Array.getElem?_range,hi,Nat.mod_one]
 ·rw[List.getElem?_eq_none (by rw[jZ];simp;omega),List.getElem?_eq_none (by simp[kV];omega)]
theorem jr{m k:Nat}{k1 k2:IntKind}(hx:ev S x=.int k1 ((m:Nat):Int))(hy:ev S y=.int k2 ((k:Nat):Int))(he:eM P t e [.bool false])(hmk:m<=k)(hk:k<=1099511627776) :
  aM P S (SF w0 M H A F O) ⟨some d,.makeSlice t x y,ty,pos,af,gd⟩ Nat (λ b=>.slice (some ⟨b,0,none⟩) m k) (λ b=>SF w0 M H A F (⟨some ⟨b,0,none⟩,kV (List.replicate m false),k,e,1⟩::O)) :=
 Ut hx hy he hmk hk (Rx m)
theorem Fa{lst:List Bool}{kk:IntKind}(hx:ev S x=.slice a m c)(hy:ev S y=.int kk ((k:Nat):Int))(ht:P.underlying t=some (.slice e))(hs:one P e=true)(hf:rD A F O a (kV lst))(h1:k<m)(h2:k<lst.length) :
  aP P S (SF w0 M H A F O) ⟨some d,.indexAddr t x y,ty,pos,af,gd⟩ (.pointer (some ⟨dI a,fC a+k,none⟩)):=⟨λ w hw =>
 (zY (G:=SF w0 M H A F O) hx hy ht hs ((hw.cl hf).ptr (by rw[yG];omega)) h1).run w hw⟩
theorem Uy{lst:List Bool}{q:Nat}(hx:ev S x=.pointer (some ⟨dI a,fC a+q,none⟩))(ht:one P t=true)(hf:rD A F O a (kV lst))(hq:q<lst.length) :
  aP P S (SF w0 M H A F O) ⟨some d,.load t x,ty,pos,af,gd⟩ (.bool (lst.getD q false)):=qL hx ht (λ w hw=>hw.cl hf) (Wo hq)
theorem R5(l:List Bool)(k:Nat)(v:Bool):(kV l).set k (.bool v)=kV (l.set k v):=by simp[kV]
theorem cU{q:Nat}{l:List Bool}{v:Bool}(hx:ev S x=.pointer (some ⟨dI p,fC p+q,none⟩))(hy:ev S y=.bool v)(ht:one P t=true)(ho:wY O i p (kV l) c e 1)(hq:q<l.length) :
  aM P S (SF w0 M H A F O) ⟨none,.store t x y,ty,pos,af,gd⟩ Unit (λ _=>undef) (λ _=>SF w0 M H A F (kF O i ⟨p,kV (l.set q v),c,e,1⟩)):=by
 rw[<- R5]
 exact Oq hx hy rfl ht ho (by rw[yG];exact hq)
theorem Zy(hx:ev S x=.slice a m c)(hy:ev S y=.slice none 0 0)(ht:P.underlying t=some (.slice e)):aP P S G ⟨some d,.binOp .eql t x y t2,ty,pos,af,gd⟩ (.bool a.isNone):=⟨λ w _=>by
 have:=Go.Lib.run_eql_slice_nil (P:=P) w t e a m c 0 0 ht
 simp[execOp,hx,hy,this,eqGuard]⟩
def I8(P:Program)(t:TypeId):Bool:=match P.underlying t with|some (.pointer _)=>true|_=>false
theorem M3(h:I8 P t=true):P.underlying t=some (.pointer (P.pointee t)):=by
 unfold I8 at h
 cases hu:P.underlying t with
 | none=>simp[hu] at h
 | some dd=>cases dd<;>simp[hu,Program.pointee] at h ⊢
theorem mw{q:Option Addr}(hx:ev S x=.pointer q)(hy:ev S y=.pointer none)(ht:I8 P t=true):aP P S G ⟨some d,.binOp .eql t x y t2,ty,pos,af,gd⟩ (.bool q.isNone):=⟨λ w _=>by
 have:=run_eql_pointer_nil (P:=P) w t q (M3 ht)
 simp[execOp,hx,hy,this,eqGuard]⟩
theorem Ul{q:Option Addr}(hx:ev S x=.pointer q)(hy:ev S y=.pointer none)(ht:I8 P t=true):aP P S G ⟨some d,.binOp .neq t x y t2,ty,pos,af,gd⟩ (.bool (!q.isNone)):=⟨λ w _=>by
 have:=run_neq_pointer_nil (P:=P) w t q (M3 ht)
 simp[execOp,hx,hy,this,eqGuard]⟩
end
end

end Go.Ct

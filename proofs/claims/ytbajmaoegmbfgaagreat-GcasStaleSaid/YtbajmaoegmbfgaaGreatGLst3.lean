/- Merged. -/
import Derived.Test.YtbajmaoegmbfgaaGreatGLst
import Derived.Test.YtbajmaoegmbfgaaGreatGMem
import Derived.Lib.SliceRun
import Derived.Laws.Pointers
set_option linter.unusedSimpArgs false
set_option linter.unusedVariables false
namespace Go.Ct
open Go Go.RowKit
section
section
variable{P:Program}{n:Nat}{S:List (Nat×Value)}
variable{w0 w w':World}{M:List Nat}{H H':List (Nat×Obj)}{A F F':Fr}{O O':List Ow}{G:World->Prop}
variable{d:Nat}{ty:TypeId}{pos:String}{af:Array Edge}{gd:Option (Nat×Bool)}{dst:Option Nat}{x y z:Operand}{t t2 e:TypeId}{p a:Option Addr}{i m k c c2:Nat}
def Vc(l:List ByteArray):List Value:=l.map Value.string
theorem iy{lst:List ByteArray}{kk:IntKind}(hx:ev S x=.slice a m c)(hy:ev S y=.int kk ((k:Nat):Int))(ht:P.underlying t=some (.slice e))(hs:one P e=true)(hf:qQ A F O a (Vc lst))(h1:k<m)(h2:k<lst.length) :
  aL P S (SF w0 M H A F O) ⟨some d,.indexAddr t x y,ty,pos,af,gd⟩ (.pointer (some ⟨cN a,eD a+k,none⟩)):=⟨λ w hw =>
 (zV (G:=SF w0 M H A F O) hx hy ht hs ((hw.cl hf).ptr (by simp only[Vc,List.length_map];omega)) h1).run w hw⟩
theorem th{lst:List ByteArray}{q:Nat}(hx:ev S x=.pointer (some ⟨cN a,eD a+q,none⟩))(ht:one P t=true)(hf:qQ A F O a (Vc lst))(hq:q<lst.length) :
  aL P S (SF w0 M H A F O) ⟨some d,.load t x,ty,pos,af,gd⟩ (.string (lst.getD q ⟨#[]⟩)):=oA hx ht (λ w hw=>hw.cl hf) (by simp[Vc,hq,List.getD])
def Mw(l:List Nd):List Value:=l.flatMap Nd.cells
theorem Dw:∀l:List Nd,(Mw l).length=14*l.length
 | []=>rfl
 | _::r=>by
  have:=Dw r
  simp only[Mw,List.flatMap_cons,List.length_append,List.length_cons] at this ⊢
  rw[this]
  simp only[Nd.cells,List.length_cons,List.length_nil]
  omega
theorem Ve:∀{l:List Nd} {k j:Nat},k<l.length->j<14->(Mw l)[14*k+j]?=(l.getD k Nd.zero).cells[j]?
 | [],_,_,h,_=>by simp at h
 | n::r,0,j,_,hj=>by
  simp only[Mw,List.flatMap_cons,Nat.mul_zero,Nat.zero_add,List.getD_cons_zero]
  rw[List.getElem?_append_left (by simp only[Nd.cells,List.length_cons,List.length_nil];omega)]
 | n::r,k+1,j,h,hj=>by
  have:=Ve (l:=r) (k:=k) (j:=j) (by simpa using h) hj
  simp only[Mw,List.flatMap_cons,List.getD_cons_succ] at this ⊢
  rw[List.getElem?_append_right (by simp only[Nd.cells,List.length_cons,List.length_nil];omega),<- this]
  congr 1
  simp only[Nd.cells,List.length_cons,List.length_nil]
  omega
theorem Tw{m c:Nat}{i:Int}{kk:IntKind}(hx:ev S x=.slice a m c)(hy:ev S y=.int kk ((k:Nat):Int))(ht:P.underlying t=some (.slice e))(hs:jU P e 14=true)(ha:a=some ⟨cN a,eD a,none⟩)(h1:k<m) :
  aL P S G ⟨some d,.indexAddr t x y,ty,pos,af,gd⟩ (.pointer (some ⟨cN a,eD a+14*k,none⟩)):=⟨λ w _=>by
 obtain⟨_,_,_,hsz⟩:=iC hs
 have:=xP (P:=P) (a:=a) (m:=m) (c:=c) (k:=kk) ht hsz ha (i:=(k:Int)) (by omega) (by omega) w
 simp only[Int.toNat_natCast,Nat.mul_comm k 14] at this
 simp[execOp,hx,hy,this]⟩
theorem nh{lst:List Nd}{kk:IntKind}(hx:ev S x=.slice a m c)(hy:ev S y=.int kk ((k:Nat):Int))(ht:P.underlying t=some (.slice e))(hs:jU P e 14=true)(hf:qQ A F O a (Mw lst))(h1:k<m)(h2:k<lst.length) :
  aL P S (SF w0 M H A F O) ⟨some d,.indexAddr t x y,ty,pos,af,gd⟩ (.pointer (some ⟨cN a,eD a+14*k,none⟩)):=⟨λ w hw =>
 (Tw (i:=0) (G:=SF w0 M H A F O) hx hy ht hs ((hw.cl hf).ptr (by rw[Dw];omega)) h1).run w hw⟩
theorem ru{lst:List Nd}{q:Nat}(hx:ev S x=.pointer (some ⟨cN a,eD a+14*q,none⟩))(ht:jU P t 14=true)(hf:qQ A F O a (Mw lst))(hq:q<lst.length) :
  aL P S (SF w0 M H A F O) ⟨some d,.load t x,ty,pos,af,gd⟩ (lst.getD q Nd.zero).v:=⟨λ w hw=>by
 have hcl:=hw.cl hf
 obtain⟨dd,hu,hm,hi⟩:=iC ht
 have hagg:(isAgg t).run P w=.ok true w:=by
  unfold isAgg
  rw[Sem.run_bind,run_underlying hu w]
  cases dd<;>simp_all
 have hl:(loadCells ⟨cN a,eD a+14*q,none⟩ 14).run P w=.ok ⟨(lst.getD q Nd.zero).cells⟩ w:=by
  have:=run_loadCells_list (P:=P) w ⟨cN a,eD a+14*q,none⟩ (lst.getD q Nd.zero).cells (λ j z hz=>by
   have hj:j<14:=(List.getElem?_eq_some_iff.1 hz).1
   rw[Addr.add_lit]
   have h3:=(hcl.at_ (14*q+j) z (by rw[Ve hq hj];exact hz)).2
   rwa [<- Nat.add_assoc] at h3)
  exact this
 cases hq':P.info? t with
 | none=>rw[hq'] at hi;simp at hi
 | some i =>
  have hs:i.size=14:=by rw[hq'] at hi;simpa using hi
  simp[execOp,hx,Instr.loadAt,Instr.sureAddr,loadVar,hagg,Go.sizeOf,typeInfo,hq',hs,hl,Nd.v]⟩
def Yj(v n:Int):Int:=IntKind.i64.wrap ((IntKind.u64.wrap v).tmod (IntKind.u64.wrap n))
def tvN(l:List Int)(k:Nat)(n:Int):Nat:=if k<l.length then(Yj (l.getD k 0) n).toNat else 0
def mX(l:List Int)(k:Nat):Nat:=if k<l.length then k+1 else k
theorem wrap_u64(i:Int):IntKind.u64.wrap i=i%18446744073709551616:=by
 simp[IntKind.wrap,IntKind.signed,IntKind.bits]
theorem Ta{v n:Int}(h0:0<n)(h1:n<=9223372036854775807):0<=Yj v n/\Yj v n<n:=by
 unfold Yj
 rw[wrap_u64,wrap_u64,Int.emod_eq_of_lt (a:=n) (by omega) (by omega)]
 have h2:=Int.emod_nonneg v (show(18446744073709551616:Int)≠0 by decide)
 have h3:=Int.tmod_lt_of_pos (v%18446744073709551616) h0
 have h4:=Int.tmod_nonneg n h2
 rw[wrap_i64 (by omega) (by omega)]
 exact⟨h4,h3⟩
def ck(T:TypeId)(a:Option Addr)(l:List Int)(c k:Nat):Obj:=.cells ⟨[.slice a l.length c,.int .i64 ((k:Nat):Int)]⟩ T (0,0)
structure Lh(w:World)(T:TypeId)(b:Nat)(a:Option Addr)(l:List Int)(c k:Nat):Prop where
 obj:w.heap[b]?=some (ck T a l c k)
 cl:Cl w a (aG l)
 ne:aG l≠[]->cN a≠b
 len:l.length<=17592186043904
theorem SF.tape(h:SF w0 M H A F O w){T b l}(ha:At H i b (ck T a l c k))(hf:qQ A F [] a (aG l))(hl:l.length<=17592186043904):Lh w T b a l c k:=by
 refine⟨h.st.at ha,?_,λ hc e=>h.apart hf hc (e▸List.mem_append_left _ (List.mem_map.2 ⟨_,ha.mem,rfl⟩)),hl⟩
 cases hf with
 | bJ h1=>exact h.cl (.bJ h1)
 | new h1=>exact h.cl (.new h1)
 | own h1=>cases h1
 | hdr h1 _=>cases h1
theorem Lh.start{T b l}(h:Lh w T b a l c k):SF w [b] [(b,.cells ⟨[.slice a l.length c,.int .i64 ((k:Nat):Int)]⟩ T (0,0))] [(a,aG l)] [] [] w:=by
 refine⟨⟨rfl,rfl,rfl,Nat.le_refl _,λ _ _ _=>rfl,λ p hp=>?_,λ p hp=>?_,by simp⟩,λ f hf=>?_,λ _ h=>(List.not_mem_nil h).elim,λ _ h=>(List.not_mem_nil h).elim,by simp[Ks]⟩
 ·simp only[List.mem_singleton] at hp
  subst hp
  exact h.obj
 ·simp only[List.mem_singleton] at hp
  subst hp
  exact .inl (by simp)
 ·simp only[List.mem_singleton] at hf
  subst hf
  exact⟨h.cl,λ hc=>by simp only[Ks,List.map_cons,List.map_nil,List.flatMap_nil,List.append_nil,List.mem_singleton];exact h.ne hc⟩
end
end
section
section
variable{w0 w w':World}{M:List Nat}{H:List (Nat×Obj)}{A F:Fr}{O:List Ow}
structure aP where
 nd:Nd
 xs:List Int
 ys:List Pr
structure Nv where
 kind:Int
 gen:Int
 main:Int
 bm:Int
 xs:List Int
 hash:Int
 key:ByteArray
 val:Int
 ys:List Pr
 prev:Int
 bJ:Int
 exp:Int
 new:Int
 status:Int
def Nd.c(n:Nd)(xs:List Int)(ys:List Pr):Nv:=⟨n.kind,n.gen,n.main,n.bm,xs,n.hash,n.key,n.val,ys,n.prev,n.bJ,n.exp,n.new,n.status⟩
def aP.c(v:aP):Nv:=v.nd.c v.xs v.ys
theorem Ao{a b:Nd}{x1 x2:List Int}{y1 y2:List Pr}:rQ a b x1 x2 y1 y2↔a.c x1 y1=b.c x2 y2:=by simp[rQ,Nd.c]
def aP.fr(v:aP):Fr:=[(v.nd.brA,aG v.xs),(v.nd.prA,cY v.ys)]
def aP.zero:aP:=⟨Nd.zero,[],[]⟩
def aM(L:List aP):Fr:=L.flatMap aP.fr
def iJ(L:List aP):List Value:=L.flatMap (·.nd.cells)
theorem Ww(L:List aP):iJ L=Mw (L.map (·.nd)):=by simp[iJ,Mw,List.flatMap_map]
theorem tg{L:List aP}{k:Nat}:(L.map (·.nd)).getD k Nd.zero=(L.getD k aP.zero).nd:=by
 rw[iM,iM,List.getElem?_map]
 cases L[k]?<;>rfl
theorem iY(n:Nd):n.cells.length=14:=rfl
theorem Fj(a b:List aP):iJ (a++b)=iJ a++iJ b:=by simp[iJ]
theorem rz(v:aP):iJ [v]=v.nd.cells:=by simp[iJ]
theorem kK(a:List aP)(v:aP):iJ (a++[v])=iJ a++v.nd.cells:=by rw[Fj,rz]
theorem dD(a b:List aP):aM (a++b)=aM a++aM b:=by simp[aM]
theorem eA:∀L:List aP,(iJ L).length=L.length*14
 | []=>rfl
 | v::L=>by
  have:=eA L
  simp only[iJ,List.flatMap_cons,List.length_append,iY,List.length_cons] at this ⊢
  omega
theorem Sx:∀{L:List aP} {k j:Nat} {v:Value},k<L.length->(L.getD k aP.zero).nd.cells[j]?=some v->(iJ L)[14*k+j]?=some v
 | v::L,0,j,u,_,hj=>by
  have hlt:j<14:=by
   have:=(List.getElem?_eq_some_iff.1 hj).1
   simpa[iY] using this
  simp only[iJ,List.flatMap_cons,Nat.mul_zero,Nat.zero_add]
  rw[List.getElem?_append_left (by rw[iY];exact hlt)]
  simpa using hj
 | v::L,k+1,j,u,hk,hj=>by
  simp only[iJ,List.flatMap_cons]
  rw[List.getElem?_append_right (by rw[iY];omega),iY,show 14*(k+1)+j-14=14*k+j by omega]
  exact Sx (L:=L) (by simpa using hk) (by simpa using hj)
theorem C8(n:Nd):n.cells.all (·.oneCell')=true:=rfl
theorem As:∀L:List aP,(iJ L).all (·.oneCell')=true
 | []=>rfl
 | v::L=>by
  have:=As L
  simp only[iJ,List.flatMap_cons,List.all_append,Bool.and_eq_true] at this ⊢
  exact⟨C8 _,this⟩
theorem oJ{L:List aP}{f:Option Addr×List Value}:f∈aM L↔∃v∈L,f∈v.fr:=by simp[aM]
theorem fL{L:List aP}{k:Nat}(hk:k<L.length):L.getD k aP.zero∈L:=by
 rw[iM,List.getElem?_eq_getElem hk];exact List.getElem_mem hk
theorem El{L:List aP}{k:Nat}(hk:k<L.length):((L.getD k aP.zero).nd.brA,aG (L.getD k aP.zero).xs)∈aM L:=oJ.2 ⟨_,fL hk,by simp[aP.fr]⟩
theorem Er{L:List aP}{k:Nat}(hk:k<L.length):((L.getD k aP.zero).nd.prA,cY (L.getD k aP.zero).ys)∈aM L:=oJ.2 ⟨_,fL hk,by simp[aP.fr]⟩
structure aP.Fit(v:aP):Prop where
 brN:v.nd.brN=v.xs.length
 prN:v.nd.prN=v.ys.length
 brS:v.xs.length<=35184372088832
 prS:v.ys.length<=11728124029610
theorem aP.Fit.sA{v:aP}(h:v.Fit){w:World}(hb:Cl w v.nd.brA (aG v.xs))(hp:Cl w v.nd.prA (cY v.ys)):rY w v.nd v.xs v.ys :=
 ⟨h.brN,h.prN,hb,hp,by have:=h.brS;omega,by have:=h.prS;omega⟩
def Fits(L:List aP):Prop:=∀v∈L,v.Fit
theorem Fits.at{L:List aP}(h:Fits L){k:Nat}(hk:k<L.length):(L.getD k aP.zero).Fit:=h _ (fL hk)
theorem P4:aP.zero.Fit:=⟨rfl,rfl,by decide,by decide⟩
structure qV(w:World)(L:List aP)(cs:List Int)(pn pc:Option Addr):Prop where
 nds:Cl w pn (iJ L)
 cls:Cl w pc (aG cs)
 fam:∀f∈aM L,Cl w f.1 f.2
 fit:Fits L
theorem qV.start{w:World}{L:List aP}{cs:List Int}{pn pc:Option Addr}(h:qV w L cs pn pc):SF w [] [] ((pn,iJ L)::(pc,aG cs)::aM L) [] [] w:=SF.begin λ f hf=>by
 rcases List.mem_cons.1 hf with rfl|hf
 ·exact h.nds
 rcases List.mem_cons.1 hf with rfl|hf
 ·exact h.cls
 ·exact h.fam f hf
theorem SF.P6{L:List aP}{f1 f2:Option Addr×List Value}(h:SF w0 M H (f1::f2::aM L) F O w)(hfit:Fits L){k:Nat}(hk:k<L.length):rY w (L.getD k aP.zero).nd (L.getD k aP.zero).xs (L.getD k aP.zero).ys :=
 (hfit.at hk).sA (h.bJ _ (List.mem_cons_of_mem _ (List.mem_cons_of_mem _ (El hk)))).1 (h.bJ _ (List.mem_cons_of_mem _ (List.mem_cons_of_mem _ (Er hk)))).1
theorem SF.aBZ{L:List aP}(h:SF w0 M H (aM L) F O w)(hfit:Fits L){k:Nat}(hk:k<L.length):rY w (L.getD k aP.zero).nd (L.getD k aP.zero).xs (L.getD k aP.zero).ys :=
 (hfit.at hk).sA (h.bJ _ (El hk)).1 (h.bJ _ (Er hk)).1
theorem SF.aCC{L:List aP}(h:SF w0 M H A F O w)(hF:∀f∈aM L,f.2=[]∨f∈A∨f∈F)(hfit:Fits L){v:aP}(hv:v∈L):rY w v.nd v.xs v.ys:=by
 have key:∀f∈aM L,Cl w f.1 f.2:=λ f hf=>by
  rcases hF f hf with h0|h1|h1
  ·rw[h0];exact Cl.nil _ _
  ·exact(h.bJ f h1).1
  ·exact(h.new f h1).1
 exact(hfit v hv).sA (key (v.nd.brA,aG v.xs) (oJ.2 ⟨v,hv,by simp[aP.fr]⟩)) (key (v.nd.prA,cY v.ys) (oJ.2 ⟨v,hv,by simp[aP.fr]⟩))
variable{P:Program}{S:List (Nat×Value)}{G:World->Prop}{d:Nat}{ty:TypeId}{pos:String}{af:Array Edge}{gd:Option (Nat×Bool)}{x y:Operand}{t t2 e:TypeId}{p a:Option Addr}{i m k c c2:Nat}
theorem sC{L:List aP}{kk:IntKind}(hx:ev S x=.slice a m c)(hy:ev S y=.int kk ((k:Nat):Int))(ht:P.underlying t=some (.slice e))(hs:jU P e 14=true)(hf:qQ A F O a (iJ L))(h1:k<m)(h2:k<L.length) :
  aL P S (SF w0 M H A F O) ⟨some d,.indexAddr t x y,ty,pos,af,gd⟩ (.pointer (some ⟨cN a,eD a+14*k,none⟩)):=nh (lst:=L.map (·.nd)) hx hy ht hs (by rw[<- Ww];exact hf) h1 (by simpa using h2)
theorem V4{L:List aP}{q:Nat}(hx:ev S x=.pointer (some ⟨cN a,eD a+14*q,none⟩))(ht:jU P t 14=true)(hf:qQ A F O a (iJ L))(hq:q<L.length) :
  aL P S (SF w0 M H A F O) ⟨some d,.load t x,ty,pos,af,gd⟩ (L.getD q aP.zero).nd.v:=by
 have:=ru (P:=P) (S:=S) (w0:=w0) (M:=M) (H:=H) (A:=A) (F:=F) (O:=O) (d:=d) (ty:=ty) (pos:=pos) (af:=af) (gd:=gd) (lst:=L.map (·.nd)) hx ht (by rw[<- Ww];exact hf) (by simpa using hq)
 rwa [tg] at this
theorem Zv{L:List aP}{q j:Nat}{v:Value}(hx:ev S x=.pointer (some ⟨cN a,eD a+14*q+j,none⟩))(ht:one P t=true)(hj:(L.getD q aP.zero).nd.cells[j]?=some v)(hf:qQ A F O a (iJ L))(hq:q<L.length) :
  aL P S (SF w0 M H A F O) ⟨some d,.load t x,ty,pos,af,gd⟩ v:=oA (q:=14*q+j) (by rw[hx];simp only[Nat.add_assoc]) ht (λ w hw=>hw.cl hf) (Sx hq hj)
theorem vI{L:List aP}{q:Nat}(hx:ev S x=.pointer (some ⟨cN a,eD a+14*q,none⟩))(ht:one P t=true)(hf:qQ A F O a (iJ L))(hq:q<L.length) :
  aL P S (SF w0 M H A F O) ⟨some d,.load t x,ty,pos,af,gd⟩ (.int .i64 (L.getD q aP.zero).nd.kind):=oA (q:=14*q) hx ht (λ w hw=>hw.cl hf) (Sx (j:=0) hq rfl)
theorem Wr{L:List aP}{zc:List Value}(v:aP)(hx:ev S x=.slice p m c)(hy:ev S y=.slice a 1 c2)(ho:xC O i p (iJ L) c e 14)(hm:L.length=m)(hf:qQ A F O a v.nd.cells)
  (he:dS P t e zc) (hz:zc.length=14) (ht2:P.underlying t2=some (.slice e)) (hb:m+1<=549755813888) :
  bF P S (SF w0 M H A F O) ⟨some d,.call {callee:=.builtin .append,args := #[x,y],argTypes := #[t,t2]},ty,pos,af,gd⟩ (Option Addr×Nat) (λ q=>.slice q.1 (m+1) q.2)
   (λ q w=>m+1<=q.2/\SF w0 M H A F (kX O i ⟨q.1,iJ (L++[v]),q.2,e,14⟩) w):=by
 rw[kK]
 exact fS hx hy ho (by rw[eA,hm]) hf (by simp[Nd.cells]) (C8 _) he hz (by decide) ht2 hb
theorem dg{L L2:List aP}{zc:List Value}(hx:ev S x=.slice p m c)(hy:ev S y=.slice a k c2)(ho:xC O i p (iJ L) c e 14)(hm:L.length=m)(hf:qQ A F O a (iJ L2))(hk:L2.length=k)
  (he:dS P t e zc) (hz:zc.length=14) (ht2:P.underlying t2=some (.slice e)) (hb:m+k<=549755813888) :
  bF P S (SF w0 M H A F O) ⟨some d,.call {callee:=.builtin .append,args := #[x,y],argTypes := #[t,t2]},ty,pos,af,gd⟩ (Option Addr×Nat) (λ q=>.slice q.1 (m+k) q.2)
   (λ q w=>m+k<=q.2/\SF w0 M H A F (kX O i ⟨q.1,iJ (L++L2),q.2,e,14⟩) w):=by
 rw[Fj]
 exact fS hx hy ho (by rw[eA,hm]) hf (by rw[eA,hk]) (As _) he hz (by decide) ht2 hb
theorem tj{k:Nat}{k1 k2:IntKind}{zc:List Value}(hx:ev S x=.int k1 0)(hy:ev S y=.int k2 ((k:Nat):Int))(he:dS P t e zc)(hz:zc.length=14)(hk:k<=1099511627776) :
  bF P S (SF w0 M H A F O) ⟨some d,.makeSlice t x y,ty,pos,af,gd⟩ Nat (λ b=>.slice (some ⟨b,0,none⟩) 0 k) (λ b=>SF w0 M H A F (⟨some ⟨b,0,none⟩,iJ [],k,e,14⟩::O)):=by
 have:=Wl (P:=P) (S:=S) (w0:=w0) (M:=M) (H:=H) (A:=A) (F:=F) (O:=O) (d:=d) (ty:=ty) (pos:=pos) (af:=af) (gd:=gd) (m:=0) (k:=k) (k1:=k1) (k2:=k2) (x:=x) (y:=y) (cs:=iJ []) (by simpa using hx) hy he (Nat.zero_le _) hk (List.eq_nil_of_length_eq_zero (by rw[kH];simp))
 rwa [hz] at this
section
variable{m n:Nat}{t':TypeId}
theorem pB(hx:ev S x=.int .i64 ((m:Nat):Int))(hy:ev S y=.int .i64 ((n:Nat):Int))(h:m+n<=9223372036854775807) :
  aL P S G ⟨some d,.binOp .add t x y t',ty,pos,af,gd⟩ (.int .i64 ((m+n:Nat):Int)):=by
 have:=oM (P:=P) (G:=G) (d:=d) (ty:=ty) (pos:=pos) (af:=af) (gd:=gd) (t:=t) (t':=t') hx hy
 rw[wrap_i64 (by omega) (by omega)] at this
 rw[Int.natCast_add]
 exact this
theorem jK(hx:ev S x=.int .i64 ((m:Nat):Int))(hy:ev S y=.int .i64 ((n:Nat):Int))(h:n<=m)(h2:m<=9223372036854775807) :
  aL P S G ⟨some d,.binOp .sub t x y t',ty,pos,af,gd⟩ (.int .i64 ((m-n:Nat):Int)):=by
 have:=Qz (P:=P) (G:=G) (d:=d) (ty:=ty) (pos:=pos) (af:=af) (gd:=gd) (t:=t) (t':=t') hx hy
 rw[wrap_i64 (by omega) (by omega)] at this
 rw[Int.natCast_sub h]
 exact this
end
theorem jJ{P:Program}{S:List (Nat×Value)}{G:World->Prop}{d:Nat}{ty:TypeId}{pos:String}{af:Array Edge}{gd:Option (Nat×Bool)}{x:Operand}{vs:List Value}{k:Nat}{v:Value}(hx:ev S x=.tuple ⟨vs⟩)(hk:vs[k]?=some v):aL P S G ⟨some d,.extract x k,ty,pos,af,gd⟩ v:=⟨λ w _=>by
 simp[execOp,hx,Instr.extract,hk]⟩
theorem Nb{a:Int}(hx:ev S x=.int .i64 a)(hy:ev S y=.int .i64 1)(h:1<=a)(h2:a<=9223372036854775807):aL P S G ⟨some d,.binOp .sub t x y t2,ty,pos,af,gd⟩ (.int .i64 (((a-1).toNat:Nat):Int)):=by
 have:=Ug (P:=P) (G:=G) (d:=d) (ty:=ty) (pos:=pos) (af:=af) (gd:=gd) (t:=t) (t':=t2) hx hy (by omega)
 rwa [show a-1=(((a-1).toNat:Nat):Int) by omega] at this
theorem Rj:∀(L:List aP) (k:Nat),(iJ L).drop (k*14)=iJ (L.drop k)
 | [],k=>by simp[iJ]
 | v::L,0=>by simp
 | v::L,k+1=>by
  have:=Rj L k
  rw[List.drop_succ_cons,<- this]
  show(v.nd.cells++iJ L).drop ((k+1)*14)=_
  rw[List.drop_append,List.drop_eq_nil_of_le (by rw[iY];omega),iY,List.nil_append]
  congr 1
  omega
theorem te{L:List aP}(hx:ev S x=.slice a m c)(hy:ev S y=.int .i64 ((k:Nat):Int))(ht:P.underlying t=some (.slice e))(hs:(P.info? e).map (·.size)=some 14)(hk:k<=m)(hf:qQ A F [] a (iJ L))(hmc:m<=c)(hl:L.length=m) :
  bF P S (SF w0 M H A F O) ⟨some d,.slice t x (some y) none none,ty,pos,af,gd⟩ (Option Addr) (λ p=>.slice p (m-k) (c-k)) (λ p=>SF w0 M H ((p,iJ (L.drop k))::A) F O):=by
 have:=q0 (P:=P) (w0:=w0) (M:=M) (H:=H) (O:=O) (d:=d) (ty:=ty) (pos:=pos) (af:=af) (gd:=gd) hx hy ht hs hk hf hmc (by rw[eA,hl])
 rw[Rj] at this
 exact this
theorem SF.yi(h:SF w0 M H A F O w){L:List aP}{T:TypeId}(ho:xC O i p (iJ L) c T 14):L.length<=c:=by
 rcases(h.own _ ho.mem).1 with⟨_,h2,_⟩|⟨b,rest,_,_,h3⟩
 ·have h2':iJ L=[]:=h2
  have:(iJ L).length=0:=by rw[h2'];rfl
  rw[eA] at this
  omega
 ·have h3':(iJ L++rest).length=c*14:=h3
  rw[List.length_append,eA] at h3'
  omega
theorem aT{b off:Nat}{cs vs:List Value}{T:TypeId}(hx:ev S x=.pointer (some ⟨b,off,none⟩))(ha:At H i b (.cells ⟨cs⟩ T (0,0)))(ht:jU P t k=true)(hv:(cs.drop off).take k=vs)(hl:vs.length=k) :
  aL P S (SF w0 M H A F O) ⟨some d,.load t x,ty,pos,af,gd⟩ (.agg ⟨vs⟩):=⟨λ w hw=>by
 have hb:=hw.st.at ha
 have hcl:Cl w (some ⟨b,0,none⟩) cs:=Cl.block (pre:=[]) (rest:=[]) (by simpa using hb) rfl
 obtain⟨dd,hu,hm,hi⟩:=iC ht
 have hagg:(isAgg t).run P w=.ok true w:=by
  unfold isAgg
  rw[Sem.run_bind,run_underlying hu w]
  cases dd<;>simp_all
 have hlc:(loadCells ⟨b,off,none⟩ k).run P w=.ok ⟨vs⟩ w:=by
  have:=run_loadCells_list (P:=P) w ⟨b,off,none⟩ vs (λ j z hz=>by
   rw[Addr.add_lit]
   have hj:j<k:=by rw[<- hl];exact(List.getElem?_eq_some_iff.1 hz).1
   have h1:cs[off+j]?=some z:=by
    rw[<- hv,List.getElem?_take,if_pos hj,List.getElem?_drop] at hz
    exact hz
   have h3:=(hcl.at_ (off+j) z h1).2
   simpa[cN,eD] using h3)
  rwa [hl] at this
 cases hq':P.info? t with
 | none=>rw[hq'] at hi;simp at hi
 | some inf =>
  have hs:inf.size=k:=by rw[hq'] at hi;simpa using hi
  simp[execOp,hx,Instr.loadAt,Instr.sureAddr,loadVar,hagg,Go.sizeOf,typeInfo,hq',hs,hlc]⟩
def Az(P:Program)(t:TypeId)(k:Nat):Option Nat :=
 match P.underlying t with
 | some (.struct fs)=>match fs[k]? with
  | some f=>if one P f.type then some f.offset else none
  | none=>none
 | _=>none
theorem Lu{cs:List Value}{off:Nat}{v:Value}(hx:ev S x=.agg ⟨cs⟩)(hf:Az P t k=some off)(hv:cs[off]?=some v):aL P S G ⟨some d,.field t x k,ty,pos,af,gd⟩ v:=⟨λ w _=>by
 unfold Az at hf
 cases hu:P.underlying t with
 | none=>simp[hu] at hf
 | some dd =>
  cases dd<;>simp[hu] at hf
  rename_i fs
  cases hk:fs[k]? with
  | none=>simp[hk] at hf
  | some f =>
   simp only[hk] at hf
   split at hf
   ·rename_i h1
    simp only[Option.some.injEq] at hf
    subst hf
    have hp:=sR (P:=P) h1 (cs:=⟨cs⟩) (off:=f.offset) (v:=v) (by simpa using hv) w
    simp[execOp,hx,Instr.field,run_underlying hu,hk,asAgg,hp]
   ·cases hf⟩
def jO(l:List Bool):List Value:=l.map .bool
theorem yE(l:List Bool):(jO l).length=l.length:=by simp[jO]
theorem Yx{l:List Bool}{k:Nat}(h:k<l.length):(jO l)[k]?=some (.bool (l.getD k false)):=by simp[jO,h,List.getD]
theorem Rz(k:Nat):made [.bool false] k=jO (List.replicate k false):=by
 refine List.ext_getElem? λ i=>?_
 by_cases hi:i<k
 ·simp[made,madeCells,jO,Array.getElem?_toList,Array.getElem?_map,Array.getElem?_range,hi,Nat.mod_one]
 ·rw[List.getElem?_eq_none (by rw[kH];simp;omega),List.getElem?_eq_none (by simp[jO];omega)]
theorem tw{m k:Nat}{k1 k2:IntKind}(hx:ev S x=.int k1 ((m:Nat):Int))(hy:ev S y=.int k2 ((k:Nat):Int))(he:dS P t e [.bool false])(hmk:m<=k)(hk:k<=1099511627776) :
  bF P S (SF w0 M H A F O) ⟨some d,.makeSlice t x y,ty,pos,af,gd⟩ Nat (λ b=>.slice (some ⟨b,0,none⟩) m k) (λ b=>SF w0 M H A F (⟨some ⟨b,0,none⟩,jO (List.replicate m false),k,e,1⟩::O)) :=
 Wl hx hy he hmk hk (Rz m)
theorem oH{lst:List Bool}{kk:IntKind}(hx:ev S x=.slice a m c)(hy:ev S y=.int kk ((k:Nat):Int))(ht:P.underlying t=some (.slice e))(hs:one P e=true)(hf:qQ A F O a (jO lst))(h1:k<m)(h2:k<lst.length) :
  aL P S (SF w0 M H A F O) ⟨some d,.indexAddr t x y,ty,pos,af,gd⟩ (.pointer (some ⟨cN a,eD a+k,none⟩)):=⟨λ w hw =>
 (zV (G:=SF w0 M H A F O) hx hy ht hs ((hw.cl hf).ptr (by rw[yE];omega)) h1).run w hw⟩
theorem Ab{lst:List Bool}{q:Nat}(hx:ev S x=.pointer (some ⟨cN a,eD a+q,none⟩))(ht:one P t=true)(hf:qQ A F O a (jO lst))(hq:q<lst.length) :
  aL P S (SF w0 M H A F O) ⟨some d,.load t x,ty,pos,af,gd⟩ (.bool (lst.getD q false)):=oA hx ht (λ w hw=>hw.cl hf) (Yx hq)
theorem Ss(l:List Bool)(k:Nat)(v:Bool):(jO l).set k (.bool v)=jO (l.set k v):=by simp[jO]
theorem Z1{q:Nat}{l:List Bool}{v:Bool}(hx:ev S x=.pointer (some ⟨cN p,eD p+q,none⟩))(hy:ev S y=.bool v)(ht:one P t=true)(ho:xC O i p (jO l) c e 1)(hq:q<l.length) :
  bF P S (SF w0 M H A F O) ⟨none,.store t x y,ty,pos,af,gd⟩ Unit (λ _=>undef) (λ _=>SF w0 M H A F (kX O i ⟨p,jO (l.set q v),c,e,1⟩)):=by
 rw[<- Ss]
 exact Pk hx hy rfl ht ho (by rw[yE];exact hq)
theorem ai(hx:ev S x=.slice a m c)(hy:ev S y=.slice none 0 0)(ht:P.underlying t=some (.slice e)):aL P S G ⟨some d,.binOp .eql t x y t2,ty,pos,af,gd⟩ (.bool a.isNone):=⟨λ w _=>by
 have:=Go.Lib.run_eql_slice_nil (P:=P) w t e a m c 0 0 ht
 simp[execOp,hx,hy,this,eqGuard]⟩
def Kj(P:Program)(t:TypeId):Bool:=match P.underlying t with|some (.pointer _)=>true|_=>false
theorem Pa(h:Kj P t=true):P.underlying t=some (.pointer (P.pointee t)):=by
 unfold Kj at h
 cases hu:P.underlying t with
 | none=>simp[hu] at h
 | some dd=>cases dd<;>simp[hu,Program.pointee] at h ⊢
theorem sm{q:Option Addr}(hx:ev S x=.pointer q)(hy:ev S y=.pointer none)(ht:Kj P t=true):aL P S G ⟨some d,.binOp .eql t x y t2,ty,pos,af,gd⟩ (.bool q.isNone):=⟨λ w _=>by
 have:=run_eql_pointer_nil (P:=P) w t q (Pa ht)
 simp[execOp,hx,hy,this,eqGuard]⟩
theorem Vl{q:Option Addr}(hx:ev S x=.pointer q)(hy:ev S y=.pointer none)(ht:Kj P t=true):aL P S G ⟨some d,.binOp .neq t x y t2,ty,pos,af,gd⟩ (.bool (!q.isNone)):=⟨λ w _=>by
 have:=run_neq_pointer_nil (P:=P) w t q (Pa ht)
 simp[execOp,hx,hy,this,eqGuard]⟩
end
end
end Go.Ct

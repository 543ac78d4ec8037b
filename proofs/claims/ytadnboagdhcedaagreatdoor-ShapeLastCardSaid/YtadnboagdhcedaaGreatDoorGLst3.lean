/- The engine, part 9: lists of strings and of nodes; tapes. -/
import Derived.Test.YtadnboagdhcedaaGreatDoorGLst
import Derived.Test.YtadnboagdhcedaaGreatDoorGMem
import Derived.Lib.SliceRun
import Derived.Laws.Pointers

set_option linter.unusedSimpArgs false
set_option linter.unusedVariables false
namespace Go.Ct
section
open Go Go.RowKit
section
variable{P:Program}{n:Nat}{S:List (Nat×Value)}
variable{w0 w w':World}{M:List Nat}{H H':List (Nat×Obj)}{A F F':Fr}{O O':List Ow}{G:World->Prop}
variable{d:Nat}{ty:TypeId}{pos:String}{af:Array Edge}{gd:Option (Nat×Bool)}{dst:Option Nat}{x y z:Operand}{t t2 e:TypeId}{p a:Option Addr}{i m k c c2:Nat}
def wE(l:List ByteArray):List Value:=l.map Value.string
theorem Wh{lst:List ByteArray}{kk:IntKind}(hx:ev S x=.slice a m c)(hy:ev S y=.int kk ((k:Nat):Int))(ht:P.underlying t=some (.slice e))(hs:one P e=true)(hf:rK A F O a (wE lst))(h1:k<m)(h2:k<lst.length) :
  aJ P S (SF w0 M H A F O) ⟨some d,.indexAddr t x y,ty,pos,af,gd⟩ (.pointer (some ⟨dC a,fB a+k,none⟩)):=⟨λ w hw =>
 (B6 (G:=SF w0 M H A F O) hx hy ht hs ((hw.cl hf).ptr (by simp only[wE,List.length_map];omega)) h1).run w hw⟩
theorem dh{lst:List ByteArray}{q:Nat}(hx:ev S x=.pointer (some ⟨dC a,fB a+q,none⟩))(ht:one P t=true)(hf:rK A F O a (wE lst))(hq:q<lst.length) :
  aJ P S (SF w0 M H A F O) ⟨some d,.load t x,ty,pos,af,gd⟩ (.string (lst.getD q ⟨#[]⟩)):=oM hx ht (λ w hw=>hw.cl hf) (by simp[wE,hq,List.getD])
def Hv(l:List Nd):List Value:=l.flatMap Nd.cells
theorem Ab:∀l:List Nd,(Hv l).length=14*l.length
 | []=>rfl
 | _::r=>by
  have:=Ab r
  simp only[Hv,List.flatMap_cons,List.length_append,List.length_cons] at this ⊢
  rw[this]
  simp only[Nd.cells,List.length_cons,List.length_nil]
  omega
theorem P4:∀{l:List Nd} {k j:Nat},k<l.length->j<14->(Hv l)[14*k+j]?=(l.getD k Nd.zero).cells[j]?
 | [],_,_,h,_=>by simp at h
 | n::r,0,j,_,hj=>by
  simp only[Hv,List.flatMap_cons,Nat.mul_zero,Nat.zero_add,List.getD_cons_zero]
  rw[List.getElem?_append_left (by simp only[Nd.cells,List.length_cons,List.length_nil];omega)]
 | n::r,k+1,j,h,hj=>by
  have:=P4 (l:=r) (k:=k) (j:=j) (by simpa using h) hj
  simp only[Hv,List.flatMap_cons,List.getD_cons_succ] at this ⊢
  rw[List.getElem?_append_right (by simp only[Nd.cells,List.length_cons,List.length_nil];omega),<- this]
  congr 1
  simp only[Nd.cells,List.length_cons,List.length_nil]
  omega
theorem Mg{m c:Nat}{i:Int}{kk:IntKind}(hx:ev S x=.slice a m c)(hy:ev S y=.int kk ((k:Nat):Int))(ht:P.underlying t=some (.slice e))(hs:kZ P e 14=true)(ha:a=some ⟨dC a,fB a,none⟩)(h1:k<m) :
  aJ P S G ⟨some d,.indexAddr t x y,ty,pos,af,gd⟩ (.pointer (some ⟨dC a,fB a+14*k,none⟩)):=⟨λ w _=>by
 obtain⟨_,_,_,hsz⟩:=iP hs
 have:=yO (P:=P) (a:=a) (m:=m) (c:=c) (k:=kk) ht hsz ha (i:=(k:Int)) (by omega) (by omega) w
 simp only[Int.toNat_natCast,Nat.mul_comm k 14] at this
 simp[execOp,hx,hy,this]⟩
theorem Zl{lst:List Nd}{kk:IntKind}(hx:ev S x=.slice a m c)(hy:ev S y=.int kk ((k:Nat):Int))(ht:P.underlying t=some (.slice e))(hs:kZ P e 14=true)(hf:rK A F O a (Hv lst))(h1:k<m)(h2:k<lst.length) :
  aJ P S (SF w0 M H A F O) ⟨some d,.indexAddr t x y,ty,pos,af,gd⟩ (.pointer (some ⟨dC a,fB a+14*k,none⟩)):=⟨λ w hw =>
 (Mg (i:=0) (G:=SF w0 M H A F O) hx hy ht hs ((hw.cl hf).ptr (by rw[Ab];omega)) h1).run w hw⟩
theorem dz{lst:List Nd}{q:Nat}(hx:ev S x=.pointer (some ⟨dC a,fB a+14*q,none⟩))(ht:kZ P t 14=true)(hf:rK A F O a (Hv lst))(hq:q<lst.length) :
  aJ P S (SF w0 M H A F O) ⟨some d,.load t x,ty,pos,af,gd⟩ (lst.getD q Nd.zero).v:=⟨λ w hw=>by
 have hcl:=hw.cl hf
 obtain⟨dd,hu,hm,hi⟩:=iP ht
 have hagg:(isAgg t).run P w=.ok true w:=by
  unfold isAgg
  rw[Sem.run_bind,run_underlying hu w]
  cases dd<;>simp_all
 have hl:(loadCells ⟨dC a,fB a+14*q,none⟩ 14).run P w=.ok ⟨(lst.getD q Nd.zero).cells⟩ w:=by
  have:=run_loadCells_list (P:=P) w ⟨dC a,fB a+14*q,none⟩ (lst.getD q Nd.zero).cells (λ j z hz=>by
   have hj:j<14:=(List.getElem?_eq_some_iff.1 hz).1
   rw[Addr.add_lit]
   have h3:=(hcl.at_ (14*q+j) z (by rw[P4 hq hj];exact hz)).2
   rwa [<- Nat.add_assoc] at h3)
  exact this
 cases hq':P.info? t with
 | none=>rw[hq'] at hi;simp at hi
 | some i =>
  have hs:i.size=14:=by rw[hq'] at hi;simpa using hi
  simp[execOp,hx,Instr.loadAt,Instr.sureAddr,loadVar,hagg,Go.sizeOf,typeInfo,hq',hs,hl,Nd.v]⟩
theorem wrap_u64(i:Int):IntKind.u64.wrap i=i%18446744073709551616:=by
 simp[IntKind.wrap,IntKind.signed,IntKind.bits]
end
end

/- The engine, part 10b: lists of nodes, each with its own lists. -/
section
open Go Go.RowKit
section
variable{w0 w w':World}{M:List Nat}{H:List (Nat×Obj)}{A F:Fr}{O:List Ow}
structure aK where
 nd:Nd
 xs:List Int
 ys:List Pr
structure Nv where
 kind:Int
 gen:Int
 main:Int
 bm:Int
 xs:List Int
 hash:Int
 key:ByteArray
 val:Int
 ys:List Pr
 prev:Int
 bL:Int
 exp:Int
 new:Int
 status:Int
def Nd.c(n:Nd)(xs:List Int)(ys:List Pr):Nv:=⟨n.kind,n.gen,n.main,n.bm,xs,n.hash,n.key,n.val,ys,n.prev,n.bL,n.exp,n.new,n.status⟩
def aK.c(v:aK):Nv:=v.nd.c v.xs v.ys
theorem wD{a b:Nd}{x1 x2:List Int}{y1 y2:List Pr}:oU a b x1 x2 y1 y2↔a.c x1 y1=b.c x2 y2:=by simp[oU,Nd.c]
def aK.fr(v:aK):Fr:=[(v.nd.brA,aG v.xs),(v.nd.prA,cZ v.ys)]
def aK.zero:aK:=⟨Nd.zero,[],[]⟩
def aY(L:List aK):Fr:=L.flatMap aK.fr
def jC(L:List aK):List Value:=L.flatMap (·.nd.cells)
theorem P3(L:List aK):jC L=Hv (L.map (·.nd)):=by simp[jC,Hv,List.flatMap_map]
theorem a9{L:List aK}{k:Nat}:(L.map (·.nd)).getD k Nd.zero=(L.getD k aK.zero).nd:=by
 rw[fQ,fQ,List.getElem?_map]
 cases L[k]?<;>rfl
theorem gT(n:Nd):n.cells.length=14:=rfl
theorem Cu(a b:List aK):jC (a++b)=jC a++jC b:=by simp[jC]
theorem a7(v:aK):jC [v]=v.nd.cells:=by simp[jC]
theorem nN(a:List aK)(v:aK):jC (a++[v])=jC a++v.nd.cells:=by rw[Cu,a7]
theorem dL(a b:List aK):aY (a++b)=aY a++aY b:=by simp[aY]
theorem eF:∀L:List aK,(jC L).length=L.length*14
 | []=>rfl
 | v::L=>by
  have:=eF L
  simp only[jC,List.flatMap_cons,List.length_append,gT,List.length_cons] at this ⊢
  omega
theorem Nw:∀{L:List aK} {k j:Nat} {v:Value},k<L.length->(L.getD k aK.zero).nd.cells[j]?=some v->(jC L)[14*k+j]?=some v
 | v::L,0,j,u,_,hj=>by
  have hlt:j<14:=by
   have:=(List.getElem?_eq_some_iff.1 hj).1
   simpa[gT] using this
  simp only[jC,List.flatMap_cons,Nat.mul_zero,Nat.zero_add]
  rw[List.getElem?_append_left (by rw[gT];exact hlt)]
  simpa using hj
 | v::L,k+1,j,u,hk,hj=>by
  simp only[jC,List.flatMap_cons]
  rw[List.getElem?_append_right (by rw[gT];omega),gT,show 14*(k+1)+j-14=14*k+j by omega]
  exact Nw (L:=L) (by simpa using hk) (by simpa using hj)
theorem zY(n:Nd):n.cells.all (·.oneCell')=true:=rfl
theorem xA:∀L:List aK,(jC L).all (·.oneCell')=true
 | []=>rfl
 | v::L=>by
  have:=xA L
  simp only[jC,List.flatMap_cons,List.all_append,Bool.and_eq_true] at this ⊢
  exact⟨zY _,this⟩
theorem kN{L:List aK}{f:Option Addr×List Value}:f∈aY L↔∃v∈L,f∈v.fr:=by simp[aY]
theorem eN{L:List aK}{k:Nat}(hk:k<L.length):L.getD k aK.zero∈L:=by
 rw[fQ,List.getElem?_eq_getElem hk];exact List.getElem_mem hk
theorem H3{L:List aK}{k:Nat}(hk:k<L.length):((L.getD k aK.zero).nd.brA,aG (L.getD k aK.zero).xs)∈aY L:=kN.2 ⟨_,eN hk,by simp[aK.fr]⟩
theorem O4{L:List aK}{k:Nat}(hk:k<L.length):((L.getD k aK.zero).nd.prA,cZ (L.getD k aK.zero).ys)∈aY L:=kN.2 ⟨_,eN hk,by simp[aK.fr]⟩
structure aK.Fit(v:aK):Prop where
 brN:v.nd.brN=v.xs.length
 prN:v.nd.prN=v.ys.length
 brS:v.xs.length<=35184372088832
 prS:v.ys.length<=11728124029610
theorem aK.Fit.pU{v:aK}(h:v.Fit){w:World}(hb:Cl w v.nd.brA (aG v.xs))(hp:Cl w v.nd.prA (cZ v.ys)):pT w v.nd v.xs v.ys :=
 ⟨h.brN,h.prN,hb,hp,by have:=h.brS;omega,by have:=h.prS;omega⟩
def Fits(L:List aK):Prop:=∀v∈L,v.Fit
theorem Fits.at{L:List aK}(h:Fits L){k:Nat}(hk:k<L.length):(L.getD k aK.zero).Fit:=h _ (eN hk)
theorem L6:aK.zero.Fit:=⟨rfl,rfl,by decide,by decide⟩
structure hY(w:World)(L:List aK)(cs:List Int)(pn pc:Option Addr):Prop where
 nds:Cl w pn (jC L)
 cls:Cl w pc (aG cs)
 fam:∀f∈aY L,Cl w f.1 f.2
 fit:Fits L
theorem hY.start{w:World}{L:List aK}{cs:List Int}{pn pc:Option Addr}(h:hY w L cs pn pc):SF w [] [] ((pn,jC L)::(pc,aG cs)::aY L) [] [] w:=SF.begin λ f hf=>by
 rcases List.mem_cons.1 hf with rfl|hf
 ·exact h.nds
 rcases List.mem_cons.1 hf with rfl|hf
 ·exact h.cls
 ·exact h.fam f hf
theorem SF.ai{L:List aK}{f1 f2:Option Addr×List Value}(h:SF w0 M H (f1::f2::aY L) F O w)(hfit:Fits L){k:Nat}(hk:k<L.length):pT w (L.getD k aK.zero).nd (L.getD k aK.zero).xs (L.getD k aK.zero).ys :=
 (hfit.at hk).pU (h.bL _ (List.mem_cons_of_mem _ (List.mem_cons_of_mem _ (H3 hk)))).1 (h.bL _ (List.mem_cons_of_mem _ (List.mem_cons_of_mem _ (O4 hk)))).1
theorem SF.zq{L:List aK}(h:SF w0 M H A F O w)(hF:∀f∈aY L,f.2=[]∨f∈A∨f∈F)(hfit:Fits L){v:aK}(hv:v∈L):pT w v.nd v.xs v.ys:=by
 have key:∀f∈aY L,Cl w f.1 f.2:=λ f hf=>by
  rcases hF f hf with h0|h1|h1
  ·rw[h0];exact Cl.nil _ _
  ·exact(h.bL f h1).1
  ·exact(h.new f h1).1
 exact(hfit v hv).pU (key (v.nd.brA,aG v.xs) (kN.2 ⟨v,hv,by simp[aK.fr]⟩)) (key (v.nd.prA,cZ v.ys) (kN.2 ⟨v,hv,by simp[aK.fr]⟩))
variable{P:Program}{S:List (Nat×Value)}{G:World->Prop}{d:Nat}{ty:TypeId}{pos:String}{af:Array Edge}{gd:Option (Nat×Bool)}{x y:Operand}{t t2 e:TypeId}{p a:Option Addr}{i m k c c2:Nat}
theorem lV{L:List aK}{kk:IntKind}(hx:ev S x=.slice a m c)(hy:ev S y=.int kk ((k:Nat):Int))(ht:P.underlying t=some (.slice e))(hs:kZ P e 14=true)(hf:rK A F O a (jC L))(h1:k<m)(h2:k<L.length) :
  aJ P S (SF w0 M H A F O) ⟨some d,.indexAddr t x y,ty,pos,af,gd⟩ (.pointer (some ⟨dC a,fB a+14*k,none⟩)):=Zl (lst:=L.map (·.nd)) hx hy ht hs (by rw[<- P3];exact hf) h1 (by simpa using h2)
theorem Qy{L:List aK}{q:Nat}(hx:ev S x=.pointer (some ⟨dC a,fB a+14*q,none⟩))(ht:kZ P t 14=true)(hf:rK A F O a (jC L))(hq:q<L.length) :
  aJ P S (SF w0 M H A F O) ⟨some d,.load t x,ty,pos,af,gd⟩ (L.getD q aK.zero).nd.v:=by
 have:=dz (P:=P) (S:=S) (w0:=w0) (M:=M) (H:=H) (A:=A) (F:=F) (O:=O) (d:=d) (ty:=ty) (pos:=pos) (af:=af) (gd:=gd) (lst:=L.map (·.nd)) hx ht (by rw[<- P3];exact hf) (by simpa using hq)
 rwa [a9] at this
theorem V5{L:List aK}{q j:Nat}{v:Value}(hx:ev S x=.pointer (some ⟨dC a,fB a+14*q+j,none⟩))(ht:one P t=true)(hj:(L.getD q aK.zero).nd.cells[j]?=some v)(hf:rK A F O a (jC L))(hq:q<L.length) :
  aJ P S (SF w0 M H A F O) ⟨some d,.load t x,ty,pos,af,gd⟩ v:=oM (q:=14*q+j) (by rw[hx];simp only[Nat.add_assoc]) ht (λ w hw=>hw.cl hf) (Nw hq hj)
theorem D7{L:List aK}{q:Nat}(hx:ev S x=.pointer (some ⟨dC a,fB a+14*q,none⟩))(ht:one P t=true)(hf:rK A F O a (jC L))(hq:q<L.length) :
  aJ P S (SF w0 M H A F O) ⟨some d,.load t x,ty,pos,af,gd⟩ (.int .i64 (L.getD q aK.zero).nd.kind):=oM (q:=14*q) hx ht (λ w hw=>hw.cl hf) (Nw (j:=0) hq rfl)
theorem ja{L:List aK}{zc:List Value}(v:aK)(hx:ev S x=.slice p m c)(hy:ev S y=.slice a 1 c2)(ho:uR O i p (jC L) c e 14)(hm:L.length=m)(hf:rK A F O a v.nd.cells)
  (he:dR P t e zc) (hz:zc.length=14) (ht2:P.underlying t2=some (.slice e)) (hb:m+1<=549755813888) :
  bH P S (SF w0 M H A F O) ⟨some d,.call {callee:=.builtin .append,args := #[x,y],argTypes := #[t,t2]},ty,pos,af,gd⟩ (Option Addr×Nat) (λ q=>.slice q.1 (m+1) q.2)
   (λ q w=>m+1<=q.2/\SF w0 M H A F (jH O i ⟨q.1,jC (L++[v]),q.2,e,14⟩) w):=by
 rw[nN]
 exact jG hx hy ho (by rw[eF,hm]) hf (by simp[Nd.cells]) (zY _) he hz (by decide) ht2 hb
theorem Ut{L L2:List aK}{zc:List Value}(hx:ev S x=.slice p m c)(hy:ev S y=.slice a k c2)(ho:uR O i p (jC L) c e 14)(hm:L.length=m)(hf:rK A F O a (jC L2))(hk:L2.length=k)
  (he:dR P t e zc) (hz:zc.length=14) (ht2:P.underlying t2=some (.slice e)) (hb:m+k<=549755813888) :
  bH P S (SF w0 M H A F O) ⟨some d,.call {callee:=.builtin .append,args := #[x,y],argTypes := #[t,t2]},ty,pos,af,gd⟩ (Option Addr×Nat) (λ q=>.slice q.1 (m+k) q.2)
   (λ q w=>m+k<=q.2/\SF w0 M H A F (jH O i ⟨q.1,jC (L++L2),q.2,e,14⟩) w):=by
 rw[Cu]
 exact jG hx hy ho (by rw[eF,hm]) hf (by rw[eF,hk]) (xA _) he hz (by decide) ht2 hb
theorem bp{k:Nat}{k1 k2:IntKind}{zc:List Value}(hx:ev S x=.int k1 0)(hy:ev S y=.int k2 ((k:Nat):Int))(he:dR P t e zc)(hz:zc.length=14)(hk:k<=1099511627776) :
  bH P S (SF w0 M H A F O) ⟨some d,.makeSlice t x y,ty,pos,af,gd⟩ Nat (λ b=>.slice (some ⟨b,0,none⟩) 0 k) (λ b=>SF w0 M H A F (⟨some ⟨b,0,none⟩,jC [],k,e,14⟩::O)):=by
 have:=G7 (P:=P) (S:=S) (w0:=w0) (M:=M) (H:=H) (A:=A) (F:=F) (O:=O) (d:=d) (ty:=ty) (pos:=pos) (af:=af) (gd:=gd) (m:=0) (k:=k) (k1:=k1) (k2:=k2) (x:=x) (y:=y) (cs:=jC []) (by simpa using hx) hy he (Nat.zero_le _) hk (List.eq_nil_of_length_eq_zero (by rw[iL];simp))
 rwa [hz] at this
section
variable{m n:Nat}{t':TypeId}
theorem mL(hx:ev S x=.int .i64 ((m:Nat):Int))(hy:ev S y=.int .i64 ((n:Nat):Int))(h:m+n<=9223372036854775807) :
  aJ P S G ⟨some d,.binOp .add t x y t',ty,pos,af,gd⟩ (.int .i64 ((m+n:Nat):Int)):=by
 have:=vH (P:=P) (G:=G) (d:=d) (ty:=ty) (pos:=pos) (af:=af) (gd:=gd) (t:=t) (t':=t') hx hy
 rw[wrap_i64 (by omega) (by omega)] at this
 rw[Int.natCast_add]
 exact this
theorem iJ(hx:ev S x=.int .i64 ((m:Nat):Int))(hy:ev S y=.int .i64 ((n:Nat):Int))(h:n<=m)(h2:m<=9223372036854775807) :
  aJ P S G ⟨some d,.binOp .sub t x y t',ty,pos,af,gd⟩ (.int .i64 ((m-n:Nat):Int)):=by
 have:=Ga (P:=P) (G:=G) (d:=d) (ty:=ty) (pos:=pos) (af:=af) (gd:=gd) (t:=t) (t':=t') hx hy
 rw[wrap_i64 (by omega) (by omega)] at this
 rw[Int.natCast_sub h]
 exact this
end
theorem iO{P:Program}{S:List (Nat×Value)}{G:World->Prop}{d:Nat}{ty:TypeId}{pos:String}{af:Array Edge}{gd:Option (Nat×Bool)}{x:Operand}{vs:List Value}{k:Nat}{v:Value}(hx:ev S x=.tuple ⟨vs⟩)(hk:vs[k]?=some v):aJ P S G ⟨some d,.extract x k,ty,pos,af,gd⟩ v:=⟨λ w _=>by
 simp[execOp,hx,Instr.extract,hk]⟩
theorem Vo{a:Int}(hx:ev S x=.int .i64 a)(hy:ev S y=.int .i64 1)(h:1<=a)(h2:a<=9223372036854775807):aJ P S G ⟨some d,.binOp .sub t x y t2,ty,pos,af,gd⟩ (.int .i64 (((a-1).toNat:Nat):Int)):=by
 have:=H9 (P:=P) (G:=G) (d:=d) (ty:=ty) (pos:=pos) (af:=af) (gd:=gd) (t:=t) (t':=t2) hx hy (by omega)
 rwa [show a-1=(((a-1).toNat:Nat):Int) by omega] at this
theorem Kj:∀(L:List aK) (k:Nat),(jC L).drop (k*14)=jC (L.drop k)
 | [],k=>by simp[jC]
 | v::L,0=>by simp
 | v::L,k+1=>by
  have:=Kj L k
  rw[List.drop_succ_cons,<- this]
  show(v.nd.cells++jC L).drop ((k+1)*14)=_
  rw[List.drop_append,List.drop_eq_nil_of_le (by rw[gT];omega),gT,List.nil_append]
  congr 1
  omega
theorem eb{L:List aK}(hx:ev S x=.slice a m c)(hy:ev S y=.int .i64 ((k:Nat):Int))(ht:P.underlying t=some (.slice e))(hs:(P.info? e).map (·.size)=some 14)(hk:k<=m)(hf:rK A F [] a (jC L))(hmc:m<=c)(hl:L.length=m) :
  bH P S (SF w0 M H A F O) ⟨some d,.slice t x (some y) none none,ty,pos,af,gd⟩ (Option Addr) (λ p=>.slice p (m-k) (c-k)) (λ p=>SF w0 M H ((p,jC (L.drop k))::A) F O):=by
 have:=gq (P:=P) (w0:=w0) (M:=M) (H:=H) (O:=O) (d:=d) (ty:=ty) (pos:=pos) (af:=af) (gd:=gd) hx hy ht hs hk hf hmc (by rw[eF,hl])
 rw[Kj] at this
 exact this
theorem SF.M4(h:SF w0 M H A F O w){L:List aK}{T:TypeId}(ho:uR O i p (jC L) c T 14):L.length<=c:=by
 rcases(h.own _ ho.mem).1 with⟨_,h2,_⟩|⟨b,rest,_,_,h3⟩
 ·have h2':jC L=[]:=h2
  have:(jC L).length=0:=by rw[h2'];rfl
  rw[eF] at this
  omega
 ·have h3':(jC L++rest).length=c*14:=h3
  rw[List.length_append,eF] at h3'
  omega
theorem aL{b off:Nat}{cs vs:List Value}{T:TypeId}(hx:ev S x=.pointer (some ⟨b,off,none⟩))(ha:At H i b (.cells ⟨cs⟩ T (0,0)))(ht:kZ P t k=true)(hv:(cs.drop off).take k=vs)(hl:vs.length=k) :
  aJ P S (SF w0 M H A F O) ⟨some d,.load t x,ty,pos,af,gd⟩ (.agg ⟨vs⟩):=⟨λ w hw=>by
 have hb:=hw.st.at ha
 have hcl:Cl w (some ⟨b,0,none⟩) cs:=Cl.block (pre:=[]) (rest:=[]) (by simpa using hb) rfl
 obtain⟨dd,hu,hm,hi⟩:=iP ht
 have hagg:(isAgg t).run P w=.ok true w:=by
  unfold isAgg
  rw[Sem.run_bind,run_underlying hu w]
  cases dd<;>simp_all
 have hlc:(loadCells ⟨b,off,none⟩ k).run P w=.ok ⟨vs⟩ w:=by
  have:=run_loadCells_list (P:=P) w ⟨b,off,none⟩ vs (λ j z hz=>by
   rw[Addr.add_lit]
   have hj:j<k:=by rw[<- hl];exact(List.getElem?_eq_some_iff.1 hz).1
   have h1:cs[off+j]?=some z:=by
    rw[<- hv,List.getElem?_take,if_pos hj,List.getElem?_drop] at hz
    exact hz
   have h3:=(hcl.at_ (off+j) z h1).2
   simpa[dC,fB] using h3)
  rwa [hl] at this
 cases hq':P.info? t with
 | none=>rw[hq'] at hi;simp at hi
 | some inf =>
  have hs:inf.size=k:=by rw[hq'] at hi;simpa using hi
  simp[execOp,hx,Instr.loadAt,Instr.sureAddr,loadVar,hagg,Go.sizeOf,typeInfo,hq',hs,hlc]⟩
def wU(P:Program)(t:TypeId)(k:Nat):Option Nat :=
 match P.underlying t with
 | some (.struct fs)=>match fs[k]? with
  | some f=>if one P f.type then some f.offset else none
  | none=>none
 | _=>none
theorem Ql{cs:List Value}{off:Nat}{v:Value}(hx:ev S x=.agg ⟨cs⟩)(hf:wU P t k=some off)(hv:cs[off]?=some v):aJ P S G ⟨some d,.field t x k,ty,pos,af,gd⟩ v:=⟨λ w _=>by
 unfold wU at hf
 cases hu:P.underlying t with
 | none=>simp[hu] at hf
 | some dd =>
  cases dd<;>simp[hu] at hf
  rename_i fs
  cases hk:fs[k]? with
  | none=>simp[hk] at hf
  | some f =>
   simp only[hk] at hf
   split at hf
   ·rename_i h1
    simp only[Option.some.injEq] at hf
    subst hf
    have hp:=pZ (P:=P) h1 (cs:=⟨cs⟩) (off:=f.offset) (v:=v) (by simpa using hv) w
    simp[execOp,hx,Instr.field,run_underlying hu,hk,asAgg,hp]
   ·cases hf⟩
theorem vj{kk:IntKind}{a:Int}(hx:ev S x=.int kk a):aJ P S G ⟨some d,.unOp .neg t x,ty,pos,af,gd⟩ (.int kk (kk.wrap (0-a))):=⟨λ w _=>by
 simp[execOp,hx,Op.unary,Op.intArith]⟩
def hJ(l:List Bool):List Value:=l.map .bool
theorem vL(l:List Bool):(hJ l).length=l.length:=by simp[hJ]
theorem Tc{l:List Bool}{k:Nat}(h:k<l.length):(hJ l)[k]?=some (.bool (l.getD k false)):=by simp[hJ,h,List.getD]
theorem Ng(k:Nat):made [.bool false] k=hJ (List.replicate k false):=by
 refine List.ext_getElem? λ i=>?_
 by_cases hi:i<k
 ·simp[made,madeCells,hJ,Array.getElem?_toList,Array.getElem?_map,Array.getElem?_range,hi,Nat.mod_one]
 ·rw[List.getElem?_eq_none (by rw[iL];simp;omega),List.getElem?_eq_none (by simp[hJ];omega)]
theorem je{m k:Nat}{k1 k2:IntKind}(hx:ev S x=.int k1 ((m:Nat):Int))(hy:ev S y=.int k2 ((k:Nat):Int))(he:dR P t e [.bool false])(hmk:m<=k)(hk:k<=1099511627776) :
  bH P S (SF w0 M H A F O) ⟨some d,.makeSlice t x y,ty,pos,af,gd⟩ Nat (λ b=>.slice (some ⟨b,0,none⟩) m k) (λ b=>SF w0 M H A F (⟨some ⟨b,0,none⟩,hJ (List.replicate m false),k,e,1⟩::O)) :=
 G7 hx hy he hmk hk (Ng m)
theorem sR{lst:List Bool}{kk:IntKind}(hx:ev S x=.slice a m c)(hy:ev S y=.int kk ((k:Nat):Int))(ht:P.underlying t=some (.slice e))(hs:one P e=true)(hf:rK A F O a (hJ lst))(h1:k<m)(h2:k<lst.length) :
  aJ P S (SF w0 M H A F O) ⟨some d,.indexAddr t x y,ty,pos,af,gd⟩ (.pointer (some ⟨dC a,fB a+k,none⟩)):=⟨λ w hw =>
 (B6 (G:=SF w0 M H A F O) hx hy ht hs ((hw.cl hf).ptr (by rw[vL];omega)) h1).run w hw⟩
theorem G9{lst:List Bool}{q:Nat}(hx:ev S x=.pointer (some ⟨dC a,fB a+q,none⟩))(ht:one P t=true)(hf:rK A F O a (hJ lst))(hq:q<lst.length) :
  aJ P S (SF w0 M H A F O) ⟨some d,.load t x,ty,pos,af,gd⟩ (.bool (lst.getD q false)):=oM hx ht (λ w hw=>hw.cl hf) (Tc hq)
theorem Ou(l:List Bool)(k:Nat)(v:Bool):(hJ l).set k (.bool v)=hJ (l.set k v):=by simp[hJ]
theorem Y0{q:Nat}{l:List Bool}{v:Bool}(hx:ev S x=.pointer (some ⟨dC p,fB p+q,none⟩))(hy:ev S y=.bool v)(ht:one P t=true)(ho:uR O i p (hJ l) c e 1)(hq:q<l.length) :
  bH P S (SF w0 M H A F O) ⟨none,.store t x y,ty,pos,af,gd⟩ Unit (λ _=>undef) (λ _=>SF w0 M H A F (jH O i ⟨p,hJ (l.set q v),c,e,1⟩)):=by
 rw[<- Ou]
 exact Jk hx hy rfl ht ho (by rw[vL];exact hq)
theorem Vy(hx:ev S x=.slice a m c)(hy:ev S y=.slice none 0 0)(ht:P.underlying t=some (.slice e)):aJ P S G ⟨some d,.binOp .eql t x y t2,ty,pos,af,gd⟩ (.bool a.isNone):=⟨λ w _=>by
 have:=Go.Lib.run_eql_slice_nil (P:=P) w t e a m c 0 0 ht
 simp[execOp,hx,hy,this,eqGuard]⟩
end
end

end Go.Ct

/- The reference of dual: the nodes that are allocated for two keys. -/
import Derived.Test.YtadnboagdhcedaaGreatDoorGArS
import Derived.Test.YtadnboagdhcedaaGreatDoorGBr2
import Derived.Test.YtadnboagdhcedaaGreatDoorGPa1
import Derived.Test.YtadnboagdhcedaaGreatDoorGNode2
import Derived.Test.YtadnboagdhcedaaGreatDoorGTr3

set_option linter.unusedSimpArgs false
set_option linter.unusedVariables false
namespace Go.Ct
section
open Go Go.RowKit
def two(i k:Nat)(x s:Int):List Int:=if i<k then [x,s] else [s,x]
structure NI where
 n:Nd
 xs:List Int
 ys:List Pr
 init:Int
def AX.no:AX:=⟨none,0,none,0,none,0,none,0⟩
def NI.c(a:NI)(c:Nat):Nv:=(kG a.n a.xs a.ys c AX.no).c
abbrev Ep(h:Nat)(ys:List Pr):NI:=⟨{Nd.zero with kind:=6,hash:=(h:Int)},[],ys,0⟩
abbrev uK(h:Nat)(k:ByteArray)(u:Int):NI:=⟨{Nd.zero with kind:=4,hash:=(h:Int),key:=k,val:=u},[],[],0⟩
abbrev pL(gen m:Int):NI:=⟨{Nd.zero with kind:=2,gen:=gen},[],[],m⟩
abbrev bh(b:Nat)(xs:List Int):NI:=⟨{Nd.zero with kind:=3,bm:=(b:Int)},xs,[],0⟩
def NI.no:NI:=⟨Nd.zero,[],[],0⟩
structure G7(v:aL)(a:NI):Prop where
 xs:v.xs=a.xs
 ys:v.ys=a.ys
 kind:v.nd.kind=a.n.kind
 c:∀k,(kG v.nd v.xs v.ys k AX.no).c=a.c k
 fit:v.Fit
 sx:v.xs.length<=1000
 sy:v.ys.length<=1000
 c0:v.c=a.n.c a.xs a.ys
inductive nI:List aL->List NI->Prop where
 | nil:nI [] []
 | cons {v:aL} {a:NI} {L:List aL} {l:List NI} (h:G7 v a) (hr:nI L l):nI (v::L) (a::l)
theorem nI.len{L:List aL}{l:List NI}(h:nI L l):L.length=l.length:=by
 induction h with
 | nil=>rfl
 | cons _ _ ih=>simp[ih]
theorem nI.append{L M:List aL}{l m:List NI}(h:nI L l)(h2:nI M m):nI (L++M) (l++m):=by
 induction h with
 | nil=>exact h2
 | cons h _ ih=>exact .cons h ih
theorem nI.at{L:List aL}{l:List NI}(h:nI L l){i:Nat}(hi:i<L.length):∃a,l[i]?=some a/\G7 (L.getD i aL.zero) a:=by
 induction h generalizing i with
 | nil=>simp at hi
 | @cons v a L l h _ ih =>
  cases i with
  | zero=>exact⟨a,rfl,h⟩
  | succ i =>
   obtain⟨b,h1,h2⟩:=ih (i:=i) (by simpa using hi)
   exact⟨b,by simpa using h1,by simpa using h2⟩
def C5(l:List NI):List Int:=l.map NI.init
theorem SF.xd{w0 w:World}{M:List Nat}{H:List (Nat×Obj)}{A F:Fr}{O:List Ow}{f1 f2:Option Addr×List Value}(h:SF w0 M H A (f1::f2::F) O w):SF w0 M H A (f2::f1::F) O w:=h.eP λ f hf=>.inr (by
 simp only[List.mem_cons] at hf ⊢
 rcases hf with h|h|h
 ·exact .inr (.inl h)
 ·exact .inl h
 ·exact .inr (.inr h))
theorem SF.w6{w0 w:World}{M:List Nat}{H:List (Nat×Obj)}{A F:Fr}{O:List Ow}{i c:Nat}{p:Option Addr}(h:SF w0 M H A F O w){l:List Int}{T:TypeId}(ho:vJ O i p (aG l) c T 1):l.length<=c:=by
 rcases(h.own _ ho.mem).1 with⟨_,h2,_⟩|⟨b,rest,_,_,h3⟩
 ·have h2':aG l=[]:=h2
  have:(aG l).length=0:=by rw[h2'];rfl
  rw[gZ] at this
  omega
 ·have h3':(aG l++rest).length=c*1:=h3
  rw[List.length_append,gZ] at h3'
  omega
end
end Go.Ct
namespace Go.Proofs.YtadnboagdhcedaaGreatDoor
section
open Go Go.RowKit Go.Ct
def dN(x:Int)(h0 h:Nat)(p0:Pr)(k:ByteArray)(u gen:Int)(f:Nat):Nat->Nat->List NI
 | 0,lvl=>if lvl=11 then [Ep h (Bz [p0,(k,u)])] else [uK h k u,bh (dI (dI 0 (sl h0 lvl:Int)) (sl h lvl:Int)) (two (sl h0 lvl) (sl h lvl) x (f:Int))]
 | n+1,lvl=>dN x h0 h p0 k u gen f n (lvl+1)++[pL gen ((f-1+(dN x h0 h p0 k u gen f n (lvl+1)).length:Nat):Int),bh (dI 0 (sl h lvl:Int)) [((f+(dN x h0 h p0 k u gen f n (lvl+1)).length:Nat):Int)]]
theorem P9{x:Int}{h0 h:Nat}{p0:Pr}{k:ByteArray}{u gen:Int}{f:Nat}:∀n lvl,(dN x h0 h p0 k u gen f n lvl).length<=2+2*n
 | 0,lvl=>by
  unfold dN
  split<;>simp
 | n+1,lvl=>by
  have:=P9 (x:=x) (h0:=h0) (h:=h) (p0:=p0) (k:=k) (u:=u) (gen:=gen) (f:=f) n (lvl+1)
  unfold dN
  simp only[List.length_append,List.length_cons,List.length_nil]
  omega
theorem jr{i k:Nat}(hi:i<64)(hk:k<64)(hne:i≠k)(a b:Int)(w:World) :
  Calls Tryz.prog 175 #[.int .i64 (i:Int),.int .i64 a,.int .i64 (k:Int),.int .i64 b] w λ e w'=>∃p:Option Addr,e=.returned (.agg ⟨[.int .i64 3,.int .i64 0,.int .i64 0,.int .u64 ((dI (dI 0 (i:Int)) (k:Int):Nat):Int),.slice p 2 2,.int .u64 0,.string ⟨#[]⟩,.int .u64 0,.slice none 0 0,.int .i64 0,.int .i64 0,.int .i64 0,.int .i64 0,.int .i64 0]⟩)/\True/\SF w [] [] [] [(p,aG (two i k a b))] [] w':=by
 refine enter Tryz.func175 Tryz.ntmps175 rfl rfl (SF.s0 w) ?_
 simp only[cO]
 refine J0 ?_;refine aN (λ x8=>?_);refine aI ?_;refine J2 ?_;refine aT (cV (hc:=λ w1 hw=>lP (n:=0) (by decide) (i:Int) w1)) (λ x11=>?_);refine aB ?_;refine aT (cV (hc:=λ w1 hw=>lP (n:=dI 0 (i:Int)) (zI (by decide) _) (k:Int) w1)) (λ x13=>?_);refine oX ?_;refine fF (λ x16=>?_);refine bG ?_;refine aN (λ x9=>?_);refine J5 ?_;refine F0 ?_;refine vI ?_
 refine aZ (λ c20=>?_) (λ c20=>?_)
 ·refine Kp ?_;refine fF (λ x23=>?_);refine xK ?_;refine Ka9 ?_
  refine bK Tryz.results175 (λ w hw=>?_)
  first
  | exact⟨some ⟨x23,0,none⟩,rfl,trivial,by rw[show two i k a b=[b,a] from if_neg (by omega)];exact hw.ret (List.nil_sublist _) (aV.qL λ f hf=>by rw[List.mem_singleton.1 hf];exact .head _) (List.Sublist.refl _)⟩
  | exact⟨some ⟨x16,0,none⟩,rfl,trivial,by rw[show two i k a b=[a,b] from if_pos (by omega)];exact hw.ret (List.nil_sublist _) (aV.qL λ f hf=>by rw[List.mem_singleton.1 hf];exact .head _) (List.Sublist.refl _)⟩
 ·refine bA ?_;refine Ka9 ?_
  refine bK Tryz.results175 (λ w hw=>?_)
  first
  | exact⟨some ⟨x16,0,none⟩,rfl,trivial,by rw[show two i k a b=[a,b] from if_pos (by omega)];exact hw.ret (List.nil_sublist _) (aV.qL λ f hf=>by rw[List.mem_singleton.1 hf];exact .head _) (List.Sublist.refl _)⟩
theorem ka{l:List Pr}{a:Option Addr}{c:Nat}{w:World}(ha:Cl w a (dG l))(hlen:l.length<=200000000000) :
  Calls Tryz.prog 174 #[.slice a l.length c] w λ e w'=>∃x:Option Addr×Nat,e=.returned (.slice x.1 (Bz l).length x.2)/\(Bz l).length<=x.2/\SF w [] [] [] [(x.1,dG (Bz l))] [] w':=(eh ha hlen).mono λ _ _ h=>h
theorem A3{h l:Nat}{i:Int}(hi:i=(l:Int))(hh:h<18446744073709551616)(hl:l<=10)(w:World):Calls Tryz.prog 79 #[.int .u64 (h:Int),.int .i64 i] w λ e w'=>e=.returned (.int .i64 ((sl h l:Nat):Int))/\St w [] [] w':=by
 subst hi
 exact oF hh hl w
abbrev Kg(h:Nat)(ys:List Pr)(p:Option Addr)(c:Nat):aL:=⟨{Nd.zero with kind:=6,hash:=(h:Int),prA:=p,prN:=ys.length,dG:=c},[],ys⟩
abbrev zL(h:Nat)(k:ByteArray)(u:Int):aL:=⟨{Nd.zero with kind:=4,hash:=(h:Int),key:=k,val:=u},[],[]⟩
abbrev vN(gen:Int):aL:=⟨{Nd.zero with kind:=2,gen:=gen},[],[]⟩
abbrev jx(n b:Nat)(xs:List Int)(p:Option Addr):aL:=⟨{Nd.zero with kind:=3,bm:=(b:Int),brA:=p,brN:=n,brC:=n},xs,[]⟩
theorem z35:(0:Nat)<=35184372088832:=Nat.zero_le _
theorem z11:(0:Nat)<=11728124029610:=Nat.zero_le _
theorem ln{h:Nat}{ys:List Pr}{p:Option Addr}{c:Nat}(hy:ys.length<=1000):G7 (Kg h ys p c) (Ep h ys):=⟨rfl,rfl,rfl,λ _=>rfl,⟨rfl,rfl,z35,by show ys.length<=_;omega⟩,Nat.zero_le _,hy,rfl⟩
theorem Uj{h:Nat}{k:ByteArray}{u:Int}:G7 (zL h k u) (uK h k u):=⟨rfl,rfl,rfl,λ _=>rfl,⟨rfl,rfl,z35,z11⟩,Nat.zero_le _,Nat.zero_le _,rfl⟩
theorem Zx{gen m:Int}:G7 (vN gen) (pL gen m):=⟨rfl,rfl,rfl,λ _=>rfl,⟨rfl,rfl,z35,z11⟩,Nat.zero_le _,Nat.zero_le _,rfl⟩
theorem zv{n b:Nat}{xs:List Int}{p:Option Addr}(hn:n=xs.length)(hx:xs.length<=1000):G7 (jx n b xs p) (bh b xs):=⟨rfl,rfl,rfl,λ _=>rfl,⟨hn,rfl,by show xs.length<=_;omega,z11⟩,hx,Nat.zero_le _,rfl⟩
structure RX where
 L:List aL
 ini:List Int
 pn:Option Addr
 cn:Nat
 pc:Option Addr
 cc:Nat
structure F3(r:RX)(l:List NI):Prop where
 m:nI r.L l
 ini:r.ini=C5 l
theorem F3.len{r:RX}{l:List NI}(h:F3 r l):r.L.length=l.length/\r.ini.length=l.length:=⟨h.m.len,by rw[h.ini];simp[C5]⟩
theorem F3.push{r:RX}{l:List NI}(h:F3 r l){gen m:Int}{n b:Nat}{xs:List Int}{p pn pc:Option Addr}{cn cc:Nat}(hn:n=xs.length)(hx:xs.length<=1000):F3 ⟨r.L++[vN gen,jx n b xs p],r.ini++[m,0],pn,cn,pc,cc⟩ (l++[pL gen m,bh b xs]) :=
 ⟨h.m.append (.cons Zx (.cons (zv hn hx) .nil)),by show r.ini++_=_;rw[h.ini];simp[C5,pL,bh]⟩
theorem Od{L:List aL}{gen:Int}{b:Nat}{r:Int}{p:Option Addr}{F:Fr}{f:Option Addr×List Value}(hf:f∈aW (L++[vN gen,jx 1 b [r] p]))(h1:(p,aG [r])∈F)(h2:f∈aW L->f∈F):f.2=[]∨f∈F:=by
 simp only[aW,List.flatMap_append] at hf
 rcases List.mem_append.1 hf with hf|hf
 ·exact .inr (h2 hf)
 ·simp[aL.fr] at hf
  rcases hf with rfl|rfl|rfl|rfl
  ·exact .inl rfl
  ·exact .inl rfl
  ·exact .inr h1
  ·exact .inl rfl
variable{v:aL}{at':Int}{h0 h:Nat}{k:ByteArray}{u gen:Int}{fi lvl:Nat}
abbrev dQ(at':Int)(h0 h:Nat)(v:aL)(k:ByteArray)(u gen:Int)(fi:Nat)(n:Nat):List NI:=dN at' h0 h (v.nd.key,v.nd.val) k u gen fi n (jW h0 h-n)
theorem l9{n:Nat}(hn:n<jW h0 h):dQ at' h0 h v k u gen fi (n+1)=dQ at' h0 h v k u gen fi n++[pL gen ((fi-1+(dQ at' h0 h v k u gen fi n).length:Nat):Int),bh (dI 0 (sl h (jW h0 h-(n+1)):Int)) [((fi+(dQ at' h0 h v k u gen fi n).length:Nat):Int)]]:=by
 have e:jW h0 h-(n+1)+1=jW h0 h-n:=by omega
 unfold dQ
 rw[dN,e]
theorem tz{x y z:Option Addr}{c a b:Nat}(hc:jW h0 h=11):F3 ⟨[Kg h (Bz [(v.nd.key,v.nd.val),(k,u)]) z c],[0],x,a,y,b⟩ (dQ at' h0 h v k u gen fi 0):=by
 have e:dQ at' h0 h v k u gen fi 0=[Ep h (Bz [(v.nd.key,v.nd.val),(k,u)])]:=by
  unfold dQ dN
  exact if_pos hc
 rw[e]
 exact⟨.cons (ln (Nat.le_trans (Rj _) (by simp))) .nil,rfl⟩
theorem sw{x y p:Option Addr}{a b:Nat}(hc:jW h0 h≠11):F3 ⟨[zL h k u,jx 2 (dI (dI 0 (sl h0 (jW h0 h):Int)) (sl h (jW h0 h):Int)) (two (sl h0 (jW h0 h)) (sl h (jW h0 h)) at' (fi:Int)) p],[0,0],x,a,y,b⟩ (dQ at' h0 h v k u gen fi 0):=by
 have e:dQ at' h0 h v k u gen fi 0=[uK h k u,bh (dI (dI 0 (sl h0 (jW h0 h):Int)) (sl h (jW h0 h):Int)) (two (sl h0 (jW h0 h)) (sl h (jW h0 h)) at' (fi:Int))]:=by
  unfold dQ dN
  exact if_neg hc
 rw[e]
 exact⟨.cons Uj (.cons (zv (by unfold two;split<;>rfl) (by unfold two;split<;>simp)) .nil),rfl⟩
theorem Wx(hv:v.nd.hash=(h0:Int))(hh0:h0<18446744073709551616)(hh:h<18446744073709551616)(hf1:1<=fi)(hf2:fi<=274877906944)(w:World) :
    Calls Tryz.prog 167 #[.agg ⟨v.nd.cells⟩,.int .i64 at',.int .u64 (h:Int),.string k,.int .u64 u,.int .i64 (lvl:Int),.int .i64 gen,.int .i64 (fi:Int)] w λ e w' =>
      ∃d:RX,e=.returned (.tuple #[.slice d.pn d.L.length d.cn,.slice d.pc d.ini.length d.cc]) /\
      (F3 d (dQ at' h0 h v k u gen fi (jW h0 h-lvl))/\d.L.length<=d.cn/\d.ini.length<=d.cc) /\
      SF w [] [] [] ((d.pn,gR d.L)::(d.pc,aG d.ini)::aW d.L) [] w':=by
  have hcl:=xC h0 h
  refine enter Tryz.func167 Tryz.ntmps167 rfl rfl (SF.s0 w) ?_
  simp only[cO]
  refine J0 ?_;refine bQ (λ x8=>?_);refine J8 ?_;refine gU ?_;refine aB ?_;refine aT (cV (hc:=λ w1 hw=>by rw[hv];exact Kt hh0 hh w1)) (λ x26=>?_);refine gQ ?_
  refine dW [16,17,18,19,27,28,29,30,31,32,33,34,35,36,37,38,39,40,41,42,43,44,45,46,47,48,49,50,51,52,53,54,55,56,57,58,59] (λ q:RX=>[(16,.slice q.pn q.L.length q.cn),(17,.slice q.pc q.ini.length q.cc),(18,.int .i64 ((jW h0 h:Nat):Int))]) (λ q=>F3 q (dQ at' h0 h v k u gen fi 0)/\q.L.length<=2) (λ q=>[]) (λ q=>aW q.L) (λ q=>[⟨q.pn,gR q.L,q.cn,77,14⟩,⟨q.pc,aG q.ini,q.cc,62,1⟩]) (by decide) (λ _=>by exact rfl) ?_ (λ q f hx=>?_)
  · refine aR ?_
    refine xJ ?_;refine mM ?_;refine aI ?_
    refine aZ (λ c28=>?_) (λ c28=>?_)
    · refine gU ?_;refine J3 ?_;refine bG ?_;refine oX ?_;refine bG ?_;refine fF (λ x37=>?_);refine aC (cF (V:=λ x:Option Addr×Nat=>.slice x.1 (Bz [(v.nd.key,v.nd.val),(k,u)]).length x.2) (hc:=λ w1 hw=>ka (l:=[(v.nd.key,v.nd.val),(k,u)]) (hw.cl (.new .head)) (by simp))) (λ x38 h38=>?_);refine sZ ?_;refine bG ?_;refine aT (Pt (c:=1) (sz:=14) rfl (λ _=>cE (cs:=gR [Kg h (Bz [(v.nd.key,v.nd.val),(k,u)]) x38.1 x38.2]) qI F5 rfl rfl rfl rfl rfl)) (λ x42=>?_);refine aT (Pt (c:=1) (sz:=1) rfl (λ _=>cE (cs:=aG [0]) kO F5 rfl rfl rfl rfl rfl)) (λ x43=>?_);refine J8 ?_;refine dL ?_;refine J1 ?_
      refine eN ((⟨[Kg h (Bz [(v.nd.key,v.nd.val),(k,u)]) x38.1 x38.2],[0],some ⟨x42,0,none⟩,1,some ⟨x43,0,none⟩,1⟩:RX)) ?_ (hw1:=λ w hw=>(hw.Zi.eP λ f hf=>by simp[aW,aL.fr] at hf;rcases hf with rfl|rfl;exact .inl rfl;exact .inr (.head _)).sub (List.nil_sublist _) aV.all (List.Sublist.refl _))
      · have hne:jW h0 h=11:=by omega
        exact⟨tz hne,Nat.le_succ 1⟩
    · refine Kd1 ?_;refine bG ?_;refine J3 ?_;refine aB ?_;refine aT (cV (hc:=λ w1 hw=>by rw[hv];exact oF (l:=jW h0 h) hh0 (by omega) w1)) (λ x51=>?_);refine oX ?_;refine aB ?_;refine aT (cV (hc:=λ w1 hw=>oF (l:=jW h0 h) hh (by omega) w1)) (λ x55=>?_);refine aB ?_;refine aC (cF (hc:=λ w1 hw=>jr (tN h0 (jW h0 h)) (tN h (jW h0 h)) (I4 (h:=h0) (k:=h) (by omega)) at' (fi:Int) w1)) (λ x57 h57=>?_);refine aT (Pt (c:=2) (sz:=14) rfl (λ _=>cE (cs:=gR [zL h k u,jx 2 (dI (dI 0 (sl h0 (jW h0 h):Int)) (sl h (jW h0 h):Int)) (two (sl h0 (jW h0 h)) (sl h (jW h0 h)) at' (fi:Int)) x57]) qI F5 rfl rfl rfl rfl rfl)) (λ x58=>?_);refine J1 ?_;refine dL ?_;refine aT (Pt (c:=2) (sz:=1) rfl (λ _=>cE (cs:=aG [0,0]) kO F5 rfl rfl rfl rfl rfl)) (λ x59=>?_);refine J1 ?_
      refine eN ((⟨[zL h k u,jx 2 (dI (dI 0 (sl h0 (jW h0 h):Int)) (sl h (jW h0 h):Int)) (two (sl h0 (jW h0 h)) (sl h (jW h0 h)) at' (fi:Int)) x57],[0,0],some ⟨x58,0,none⟩,2,some ⟨x59,0,none⟩,2⟩:RX)) ?_ (hw1:=λ w hw=>(hw.Zi.eP λ f hf=>by simp[aW,aL.fr] at hf;rcases hf with rfl|rfl|rfl|rfl;exact .inl rfl;exact .inl rfl;exact .inr (.head _);exact .inl rfl).sub (List.nil_sublist _) aV.all (List.Sublist.refl _))
      · have hne:jW h0 h≠11:=by omega
        exact⟨sw hne,Nat.le_refl 2⟩
  dsimp only[fY,List.map,List.cons_append,List.nil_append]
  refine kT ?_;refine pF ?_;refine J1 ?_;refine bW ?_
  have hq2:=hx.1.len
  refine kZ [16,17,20,21,22,62,63,64,65,66,67,68,69,70,71,72,73,74,75,76,77,78,79,80,81,82,83,84,85,86,87,88,89] (λ y:Nat×RX=>[(16,.slice y.2.pn y.2.L.length y.2.cn),(17,.slice y.2.pc y.2.ini.length y.2.cc),(20,.int .i64 (((jW h0 h-y.1:Nat):Int)-1))]) (λ y=>y.1<=jW h0 h-lvl/\F3 y.2 (dQ at' h0 h v k u gen fi y.1)/\y.2.L.length<=2+2*y.1) (λ _=>_) (λ y=>aW y.2.L) (λ y=>[⟨y.2.pn,gR y.2.L,y.2.cn,77,14⟩,⟨y.2.pc,aG y.2.ini,y.2.cc,62,1⟩]) (λ y=>jW h0 h-lvl-y.1) ((0,q)) (⟨Nat.zero_le _,hx⟩) (λ y f hx=>?_) (hw0:=λ w hw=>hw.sub (List.Sublist.refl _) aV.all (List.Sublist.refl _))
  dsimp only[fY,List.map,List.cons_append,List.nil_append]
  obtain⟨hy1,hy2,hy3⟩:=hx
  obtain⟨hy4,hy5⟩:=hy2.len
  refine F0 ?_;refine mM ?_;refine aI ?_
  refine aZ (λ c64=>?_) (λ c64=>?_)
  · obtain⟨lv,elv⟩:∃lv:Nat,jW h0 h-(y.1+1)=lv:=⟨_,rfl⟩
    have elv2:(((jW h0 h-y.1:Nat):Int)-1)=(lv:Int):=by omega
    have hlv2:lv<=10:=by omega
    refine nZ ?_;refine iR ?_;refine dE ?_;refine aE (lT rf rf (by omega)) rfl ?_;refine aE (iV (n:=1) rf rf (by omega) (by omega)) rfl ?_;refine sZ ?_;refine aT (cV (hc:=λ w1 hw=>A3 elv2 hh hlv2 w1)) (λ x74=>?_);refine sZ ?_;refine bG ?_;refine aB ?_;refine aT (cV (hc:=λ w1 hw=>lP (n:=0) (by decide) (sl h lv:Int) w1)) (λ x79=>?_);refine aB ?_;refine aE (lT (n:=1) rf rf (by omega)) rfl ?_;refine aT (Fo (λ _=>cE (cs:=aG [((fi+y.2.L.length-1+1:Nat):Int)]) kO F5 rfl rfl rfl rfl rfl)) (λ x82=>?_);refine bG ?_;refine aT (Fo (λ _=>cE (cs:=gR [vN gen,jx 1 (dI 0 (sl h lv:Int)) [((fi+y.2.L.length-1+1:Nat):Int)] (some ⟨x82,0,none⟩)]) qI F5 rfl rfl rfl rfl rfl)) (λ x84=>?_);(refine aT (bI.eZ (ag (k:=2) (L2:=[vN gen,jx 1 (dI 0 (sl h lv:Int)) [((fi+y.2.L.length-1+1:Nat):Int)] (some ⟨x82,0,none⟩)]) rf rf Cc rfl fin rfl Xf rfl fC (by omega)) xN) (λ x85=>?_);try (refine fB (λ h85=>?_)));refine J1 ?_;refine Kp ?_;refine aT (Fo (λ _=>cE (cs:=aG [((fi+y.2.L.length-1:Nat):Int),0]) kO F5 rfl rfl rfl rfl rfl)) (λ x88=>?_);(refine aT (bI.eZ (Ob (k:=2) (l2:=[((fi+y.2.L.length-1:Nat):Int),0]) rf rf Cc rfl fin rfl Xg fC (by omega)) xN) (λ x89=>?_);try (refine fB (λ h89=>?_)));refine J1 ?_;refine eX ?_;refine xJ ?_;refine pF ?_;refine J1 ?_
    refine fV ((y.1+1,(⟨y.2.L++[vN gen,jx 1 (dI 0 (sl h lv:Int)) [((fi+y.2.L.length-1+1:Nat):Int)] (some ⟨x82,0,none⟩)],y.2.ini++[((fi+y.2.L.length-1:Nat):Int),0],x85.1,x85.2,x89.1,x89.2⟩:RX))) ?_ (hw1:=λ w hw=>hw.eP λ f hf=>Od hf (.tail _ (.tail _ (.head _))) (λ hf=>.tail _ (.tail _ (.tail _ hf))))
    · refine⟨by omega,?_,by simp only[List.length_append,List.length_cons,List.length_nil];omega⟩
      have e1:dQ at' h0 h v k u gen fi (y.1+1)=dQ at' h0 h v k u gen fi y.1++[pL gen ((fi+y.2.L.length-1:Nat):Int),bh (dI 0 (sl h lv:Int)) [((fi+y.2.L.length-1+1:Nat):Int)]]:=by
       rw[l9 (by omega),elv,<- hy4,show fi-1+y.2.L.length=fi+y.2.L.length-1 by omega,show fi+y.2.L.length-1+1=fi+y.2.L.length by omega]
      rw[e1]
      exact hy2.push rfl (by simp)
  · have en:y.1=jW h0 h-lvl:=by omega
    refine bF rfl ?_;refine iR ?_;refine J8 ?_
    refine bK Tryz.results167 (λ w hw=>?_)
    refine⟨y.2,rfl,⟨?_,?_,?_⟩,?_⟩
    · rw[<- en]
      exact hy2
    · exact hw.Tq .head
    · exact hw.w6 (.tail .head)
    · exact((hw.freeze .head).freeze .head).xd.ret (List.nil_sublist _) aV.all (List.nil_sublist _)
end

/- The procedures with shared cells, as trees. -/
end Go.Proofs.YtadnboagdhcedaaGreatDoor
namespace Go.Ct
section
def NI.c0(a:NI):Nv:=a.n.c a.xs a.ys
end
end Go.Ct
namespace Go.Proofs.YtadnboagdhcedaaGreatDoor
section
open Go.RowKit Go.Ct
structure dZ where
 root:Int
 ro:Bool
structure Cl where
 kind:Int
 t:dZ
 a:Int
 b:Int
 n:Int
 index:Int
 hash:Int
 mask:Int
 key:ByteArray
 val:Int
 exp:Int
 Ge:Int
 only:Bool
def fS(h:Nat)(level:Int):Int:=if level<0∨10<level then 0 else(sl h level.toNat:Int)
def Ba(p:Int):Nv:=({Nd.zero with kind:=7,bM:=p}:Nd).c [] []
def lX(g:Int):Nv:=({Nd.zero with kind:=2,gen:=g}:Nd).c [] []
def A4(a b c:Int):Nv:=({Nd.zero with kind:=8,bM:=a,exp:=b,new:=c}:Nd).c [] []
def Eu(h:Int)(k:ByteArray)(u:Int):Nv:=({Nd.zero with kind:=4,hash:=h,key:=k,val:=u}:Nd).c [] []
def Er:Nv:=({Nd.zero with kind:=3}:Nd).c [] []
def qi(v s:Int)(K:Int->Tr):Tr:=.node v λ n=>K (if s=1 then n.new else n.bM)
def Ga(t:dZ)(v s:Int)(K:Int->Tr):Tr:=qi v s λ w=>.nV t.root v w λ _=>K w
def Qw(t:dZ)(K:Int->Tr):Tr:=.load t.root λ v=>.node v λ n=>if n.kind=2 then K v else .node v λ n=>.load n.status λ s =>
 if s=0 then .node v λ n=>.nV n.status 0 2 λ _=>.node v λ n=>.load n.status λ s=>Ga t v s K else Ga t v s K
def Xl(i m p:Int)(K:Int->Tr):Tr:=.node i λ ni=>.node p λ np=>.nV ni.main m np.bM λ _=>.node p λ np=>K np.bM
def uP(i m:Int)(K:Int->Tr):Tr:=.node m λ nm=>.load nm.prev λ p=>if p=0 then K m else Xl i m p K
def Fl(i m p:Int)(c:Bool)(K:Int->Tr):Tr :=
 if c=true then .node m λ nm=>.nV nm.prev p 0 λ _=>uP i m K
 else .node m λ nm=>.alloc (Ba p) 0 λ f=>.nV nm.prev p f λ _=>uP i m K
def uX(t:dZ)(i m:Int)(K:Int->Tr):Tr:=.node m λ nm=>.load nm.prev λ p=>if p=0 then K m else .node p λ np =>
 if bU np then(if t.ro=true then Fl i m p false K else Qw t λ r=>.node r λ nr=>.node i λ ni=>Fl i m p (nr.gen==ni.gen) K)
 else Xl i m p K
def lM(t:dZ)(i:Int)(K:Int->Tr):Tr:=.node i λ ni=>.load ni.main λ m=>uX t i m K
def vK(t:dZ)(v:Int)(K:Tr):Tr:=.node v λ n=>lM t n.bM λ r=>.node v λ n2=>.node v λ n3=>.nV n3.status 0 (if r=n2.exp then 1 else 2) λ _=>K
def rY(t:dZ)(K:Int->Tr):Tr:=.load t.root λ v=>.node v λ n=>if n.kind=2 then K v else .node v λ n=>.load n.status λ s =>
 if s=0 then vK t v (.node v λ n=>.load n.status λ s=>Ga t v s K) else Ga t v s K
def mP(t:dZ)(i bM n:Int)(K:Bool->Tr):Tr:=.node i λ ni=>.nV ni.main bM n λ b=>if b=true then uX t i n λ m=>K (m==n) else K false
def tR(t:dZ)(bM exp new:Int)(K:Bool->Tr):Tr:=.alloc (A4 bM exp new) 0 λ d=>.nV t.root bM d λ b =>
 if b=true then vK t d (.node d λ nd=>.load nd.status λ s=>Ga t d s λ _=>K (s==1)) else K false
def C9(c index r:Int)(K:Int->Tr):Tr:=.node c λ nc=>.alloc (N9 nc index r) c K
def Kf(t:dZ)(i c index:Int)(K:Int->Tr):Tr:=.node c λ nc=>lM t ((jN nc index).getD 0) λ m=>.node i λ ni=>.alloc (lX ni.gen) m λ j =>
 C9 c index j λ r=>mP t i c r λ ok=>K (if ok=true then j else 0)
def wU(t:dZ)(parent child:Int)(h:Nat)(level:Int)(K:Bool->Tr):Tr:=lM t parent λ m=>.node m λ nm =>
 if jN nm (fS h level)=some child then lM t child λ mc=>.node mc λ nmc =>
  if nmc.kind=5 then .alloc (vm nmc) 0 λ s=>.node m λ nm2=>.alloc (qh (N9 nm2 (fS h level) s) level (vm nmc)) m λ r=>mP t parent m r K
  else K false
 else K false
def iH(f:Bool)(v:Int):Rs:=⟨0,f,v,⟨#[]⟩,0,0,0,false⟩
def qF(f:Bool)(v:Int):Rs:=⟨0,f,v,⟨#[]⟩,1,0,0,false⟩
def Bb(t:dZ)(h:Nat)(key:ByteArray)(K:Rs->Tr):Nat->Int->Int->Tr
 | 0,_,_=>.stuck
 | n+1,i,level=>lM t i λ mr=>.node mr λ m =>
  if m.kind=5 then(if m.key=key then K (iH true m.val) else K (iH false 0))
  else if m.kind=6 then K (iH (dH m.ys key).isSome ((dH m.ys key).getD 0))
  else match jN m (fS h level) with
   | none=>K (iH false 0)
   | some b=>.node b λ s=>if s.kind=4 then(if s.key=key then K (iH true s.val) else K (iH false 0)) else Bb t h key K n b (level+1)
def mR(c:Cl)(found:Bool)(v:Int):Bool:=if c.Ge=1 then !found else if c.Ge=2 then found else if c.Ge=3 then found&&v==c.exp else true
def zB:List NI->Int->(Int->Tr)->Tr
 | [],r,K=>K r
 | a::l,_,K=>.alloc a.c0 a.init λ r=>zB l r K
def dP(at_:Int)(h0 h:Nat)(p:Pr)(k:ByteArray)(u gen:Int)(fi lvl:Nat):List NI:=dN at_ h0 h p k u gen fi (jW h0 h-lvl) (jW h0 h-(jW h0 h-lvl))
def S8(c:Cl)(b:Int)(h:Nat)(level:Nat)(gen:Int)(K:Int->Tr):Tr:=.node b λ nb =>
 .alloc ((dP b nb.hash.toNat h (nb.key,nb.val) c.key c.val gen 0 level).headD NI.no).c0 ((dP b nb.hash.toNat h (nb.key,nb.val) c.key c.val gen 0 level).headD NI.no).init λ f =>
 zB (dP b nb.hash.toNat h (nb.key,nb.val) c.key c.val gen f.toNat level).tail f K
def kQ(c:Cl)(i m:Int)(h:Nat)(level:Nat)(gen:Int)(K:Rs->Int->Tr):Tr:=.node m λ n =>
 if n.kind=6 then
  (if mR c (dH n.ys c.key).isSome ((dH n.ys c.key).getD 0)=true then
   .alloc (sn n c.key c.val) m λ r=>mP c.t i m r λ ok=>K (qF (dH n.ys c.key).isSome ((dH n.ys c.key).getD 0)) (if ok=true then 1 else 0)
  else K (iH (dH n.ys c.key).isSome ((dH n.ys c.key).getD 0)) 1)
 else match jN n (fS h level) with
  | none=>if mR c false 0=true then .alloc (Eu h c.key c.val) 0 λ s=>.alloc (ql n (fS h level) s) m λ r=>mP c.t i m r λ ok=>K (qF false 0) (if ok=true then 1 else 0) else K (iH false 0) 1
  | some b=>.node b λ nb=>if nb.kind=2 then K Rs.zero 2 else
   if nb.key=c.key then
    (if mR c true nb.val=true then .alloc (Eu h c.key c.val) 0 λ s=>C9 m (fS h level) s λ r=>mP c.t i m r λ ok=>K (qF true nb.val) (if ok=true then 1 else 0)
    else K (iH true nb.val) 1)
   else
    (if mR c false 0=true then S8 c b h (level+1) gen λ d=>.alloc (lX gen) d λ j=>C9 m (fS h level) j λ r=>mP c.t i m r λ ok=>K (qF false 0) (if ok=true then 1 else 0)
    else K (iH false 0) 1)
def Ej(c:Cl)(i m index gen:Int)(K:Int->Tr):Tr:=.node m λ nm=>.node ((jN nm index).getD 0) λ nb=>if nb.gen=gen then K ((jN nm index).getD 0) else Kf c.t i m index K
def Bq(c:Cl)(h:Nat)(K:Rs->Tr)(again:Tr)(gen:Int):Nat->Int->Int->Nat->Tr
 | 0,_,_,_=>.stuck
 | n+1,i,parent,level=>lM c.t i λ m=>.node m λ nm =>
  if nm.kind=5 then wU c.t parent i h ((level:Int)-1) λ _=>again
  else kQ c i m h level gen λ r what=>if what=1 then K r else if what=0 then again else
   Ej c i m (fS h level) gen λ b=>if b=0 then again else Bq c h K again gen n b i (level+1)
def yW(c:Cl)(h:Nat)(K:Rs->Tr):Nat->Tr
 | 0=>.stuck
 | n+1=>rY c.t λ i=>.node i λ ni=>Bq c h K (yW c h K n) ni.gen n i 0 0
def jD(c:Cl)(i m:Int)(h:Nat)(level:Nat)(K:Rs->Int->Tr):Tr:=.node m λ n =>
 if n.kind=6 then
  (if(dH n.ys c.key).isSome=false∨(c.only=true/\(dH n.ys c.key).getD 0≠c.exp) then K (iH (dH n.ys c.key).isSome ((dH n.ys c.key).getD 0)) 1
  else .alloc (dj n c.key) m λ r=>mP c.t i m r λ ok=>K (qF true ((dH n.ys c.key).getD 0)) (if ok=true then 1 else 0))
 else match jN n (fS h level) with
  | none=>K (iH false 0) 1
  | some b=>.node b λ s=>if s.kind=2 then K Rs.zero 2 else if s.key≠c.key then K (iH false 0) 1 else if c.only=true/\s.val≠c.exp then K (iH true s.val) 1
   else .node ((Ja (Kn n (fS h level))).getD 0) λ so=>.alloc (qh (Kn n (fS h level)) level so) m λ r=>mP c.t i m r λ ok=>K (qF true s.val) (if ok=true then 1 else 0)
def pj(t:dZ)(path:List Int)(h:Nat)(K:Tr):Nat->Tr
 | 0=>K
 | l+1=>lM t (path.getD (l+1) 0) λ m=>.node m λ nm=>if nm.kind=5 then wU t (path.getD l 0) (path.getD (l+1) 0) h (l:Int) λ _=>pj t path h K l else K
def uH(c:Cl)(h:Nat)(K:Rs->Tr)(again:Tr)(gen:Int):Nat->Int->List Int->Nat->Tr
 | 0,_,_,_=>.stuck
 | n+1,i,path,level=>lM c.t i λ m=>.node m λ nm =>
  if nm.kind=5 then wU c.t (path.getD (level-1) 0) i h ((level:Int)-1) λ _=>again
  else jD c i m h level λ r what=>if what=1 then(if r.eM=1 then pj c.t path h (K r) (path.length-1) else K r) else if what=0 then again else
   Ej c i m (fS h level) gen λ b=>if b=0 then again else uH c h K again gen n b (path++[b]) (level+1)
def pC(c:Cl)(h:Nat)(K:Rs->Tr):Nat->Tr
 | 0=>.stuck
 | n+1=>rY c.t λ i=>.node i λ ni=>uH c h K (pC c h K n) ni.gen n i [i] 0
def Gh(root:Int)(ro:Bool):Rs:=⟨0,true,0,⟨#[]⟩,0,0,root,ro⟩
def Gm(m:Int)(K:Rs->Tr):Tr:=.gen λ g=>.alloc (lX g) m λ r=>.cell r λ c=>K (Gh c false)
def Eb(t:dZ)(fz:Bool)(K:Rs->Tr):Nat->Tr
 | 0=>.stuck
 | n+1=>rY t λ r=>lM t r λ m=>.gen λ g=>.alloc (lX g) m λ j=>tR t r m j λ ok =>
  if ok=true then(if fz=true then .cell r λ c=>K (Gh c true) else Gm m K) else Eb t fz K n
def qY(t:dZ)(fz:Bool)(K:Rs->Tr)(n:Nat):Tr :=
 if t.ro=true then .load t.root λ r=>if fz=true then .cell r λ c=>K (Gh c true) else lM t r λ m=>Gm m K
 else Eb t fz K n
def uE(t:dZ)(K:Rs->Tr):Nat->Tr
 | 0=>.stuck
 | n+1=>rY t λ r=>lM t r λ m=>.alloc Er 0 λ c=>.gen λ g=>.alloc (lX g) c λ j=>tR t r m j λ ok =>
  if ok=true then K (iH true 0) else uE t K n
def Kb(r:Int)(f:Bool):Rs:=⟨0,f,0,⟨#[]⟩,0,r,0,false⟩
def refuse(c:Cl):Int:=if c.kind=7∨c.kind=9 then(if c.key.size<=64 then 0 else 1) else if c.kind=8 then(if c.key.size<=64/\0<=c.Ge/\c.Ge<=3 then 0 else 1) else 0
def kW(c:Cl)(h:Nat)(n:Nat):Tr :=
 if refuse c≠0 then .done {Rs.zero with err:=refuse c}
 else if c.kind=1 then lM c.t c.a λ r=>.done (Kb r false)
 else if c.kind=2 then mP c.t c.a c.b c.n λ ok=>.done (Kb 0 ok)
 else if c.kind=3 then rY c.t λ r=>.done (Kb r false)
 else if c.kind=4 then tR c.t c.a c.b c.n λ ok=>.done (Kb 0 ok)
 else if c.kind=7 then rY c.t λ i=>Bb c.t h c.key .done n i 0
 else if c.kind=8 then yW c h .done n
 else if c.kind=9 then pC c h .done n
 else if c.kind=10 then qY c.t false .done n
 else if c.kind=11 then qY c.t true .done n
 else uE c.t .done n
end

/- Tries of worlds: the nodes that the procedures make. -/
section
open Go.Ct
theorem cX{a b:Int}{p:Prop}(k:a=b)(h:a≠b:=by decide):p:=absurd k h
theorem iz{gen h u:Int}{k:ByteArray}{n c:Nat}(hg:0<=gen)(hk:k.size<=64):mA gen n (cS (({Nd.zero with kind:=5,hash:=h,key:=k,val:=u}:Nd).c [] []) c).dv :=
 ⟨⟨by simp[pP,Nd.own,Nd.fO,Nd.fG,Nd.zero,cS,Nd.c,Nv.dv,Nv.nd],by simp[cS,Nd.c,Nv.dv,Nv.nd,Nd.zero],by simp[cS,Nd.c,Nv.dv,Nv.nd,Nd.zero];omega,by simp[cS,Nd.c,Nv.dv,Nv.nd,Nd.zero],.inr (.inr (.inr (.inl ⟨.inr rfl,hk⟩)))⟩,hg,λ i hi=>by simp[cS,Nd.c,Nv.dv] at hi,eV,eV,eV⟩
theorem ef{gen p:Int}{n c:Nat}(hg:0<=gen)(h1:1<=p)(h2:p<=n):mA gen n (cS (Ba p) c).dv :=
 ⟨⟨by simp[pP,Nd.own,Nd.fO,Nd.fG,Nd.zero,cS,Nd.c,Nv.dv,Nv.nd,Ba],by simp[cS,Nd.c,Nv.dv,Nv.nd,Nd.zero,Ba],by simp[cS,Nd.c,Nv.dv,Nv.nd,Nd.zero,Ba],by simp[cS,Nd.c,Nv.dv,Nv.nd,Nd.zero,Ba],.inr (.inr (.inr (.inr (.inr (.inr ⟨rfl,h1⟩)))))⟩,hg,λ i hi=>by simp[cS,Nd.c,Nv.dv,Ba] at hi,⟨by show 0<=p;omega,h2⟩,eV,eV⟩
theorem gg{gen a b d:Int}{n c:Nat}(hg:0<=gen)(a1:1<=a)(a2:a<=n)(b1:1<=b)(b2:b<=n)(d1:1<=d)(d2:d<=n):mA gen n (cS (A4 a b d) c).dv :=
 ⟨⟨by simp[pP,Nd.own,Nd.fO,Nd.fG,Nd.zero,cS,Nd.c,Nv.dv,Nv.nd,A4],by simp[cS,Nd.c,Nv.dv,Nv.nd,Nd.zero,A4],by simp[cS,Nd.c,Nv.dv,Nv.nd,Nd.zero,A4],by simp[cS,Nd.c,Nv.dv,Nv.nd,Nd.zero,A4];omega,.inr (.inr (.inr (.inr (.inr (.inl ⟨rfl,b1,d1,a1⟩)))))⟩,hg,λ i hi=>by simp[cS,Nd.c,Nv.dv,A4] at hi,⟨by show 0<=a;omega,a2⟩,⟨by show 0<=b;omega,b2⟩,⟨by show 0<=d;omega,d2⟩⟩
theorem wS{n:Nv}{N c:Nat}(h1:n.bM<=N)(h2:n.exp<=N)(h3:n.new<=N)(h4:∀r∈n.xs,r<=N)(hb:∃b:Nat,n.bm=(b:Int)/\b<18446744073709551616)(hh:∃b:Nat,n.hash=(b:Int)/\b<18446744073709551616):nS N (c+1) (cS n c) :=
 ⟨h1,h2,h3,h4,by show(if n.kind=2 then((c+1:Nat):Int) else 0)<=((c+1:Nat):Int);split<;>omega,by show(if n.kind=3∨n.kind=5∨n.kind=6 then((c+1:Nat):Int) else 0)<=((c+1:Nat):Int);split<;>omega,by show(if n.kind=8 then((c+1:Nat):Int) else 0)<=((c+1:Nat):Int);split<;>omega,hb,hh⟩
theorem iG:∃b:Nat,(0:Int)=(b:Int)/\b<18446744073709551616:=⟨0,rfl,by decide⟩
section
variable{H:ByteArray->Nat}{σ τ υ:Kw}{r:Int}{w:List Nat}
theorem Ym{p g:Int}(h:Inv H σ)(hp:bU (σ.nd p)):jH H σ (Ba p) w g:=by
 have hr:1<=p/\p<=σ.len:=gN hp
 exact⟨.inr (.inr (.inr (.inr (.inr (.inl rfl))))),ef h.gen hr.1 (by have:=hr.2;omega),wS (by show p<=_;have:=hr.2;omega) (bH _) (bH _) (λ r hr=>nomatch hr) iG iG,
  λ k=>cX (a:=7) (b:=2) k,λ k=>cX (a:=7) (b:=3) k,λ k=>cX (a:=7) (b:=4) k,λ k=>cX (a:=7) (b:=5) k,λ k=>cX (a:=7) (b:=6) k,λ _=>hp,λ k=>cX (a:=7) (b:=8) k⟩
theorem Ah{g g':Int}(hw:w.length<=11)(h1:1<=g')(h2:g'<=σ.mm.gen):jH H σ (lX g') w g :=
 ⟨.inl rfl,xU h2 h1,wS (bH _) (bH _) (bH _) (λ r hr=>nomatch hr) iG iG,
  λ _=>hw,λ k=>cX (a:=2) (b:=3) k,λ k=>cX (a:=2) (b:=4) k,λ k=>cX (a:=2) (b:=5) k,λ k=>cX (a:=2) (b:=6) k,λ k=>cX (a:=2) (b:=7) k,λ k=>cX (a:=2) (b:=8) k⟩
theorem Ys{a b d g:Int}(h:Inv H σ)(ha:sB σ a [])(hb1:1<=b)(hb2:b<=σ.len)(hd:sB σ d []):jH H σ (A4 a b d) w g:=by
 have h1:=ha.in
 have h2:=hd.in
 exact⟨.inr (.inr (.inr (.inr (.inr (.inr rfl))))),gg h.gen h1.1 (by omega) hb1 (by omega) h2.1 (by omega),wS (by show a<=_;omega) (by show b<=_;omega) (by show d<=_;omega) (λ r hr=>nomatch hr) iG iG,
  λ k=>cX (a:=8) (b:=2) k,λ k=>cX (a:=8) (b:=3) k,λ k=>cX (a:=8) (b:=4) k,λ k=>cX (a:=8) (b:=5) k,λ k=>cX (a:=8) (b:=6) k,λ k=>cX (a:=8) (b:=7) k,λ _=>⟨ha,hd⟩⟩
theorem yL{h:Nat}{k:ByteArray}{u g:Int}(i:Inv H σ)(hk:k.size<=64)(hh:H k=h)(hl:h<18446744073709551616):jH H σ (Eu h k u) w g :=
 ⟨.inr (.inr (.inl rfl)),G8 i.gen hk,wS (bH _) (bH _) (bH _) (λ r hr=>nomatch hr) iG ⟨h,rfl,hl⟩,
  λ k=>cX (a:=4) (b:=2) k,λ k=>cX (a:=4) (b:=3) k,λ _=>hh,λ k=>cX (a:=4) (b:=5) k,λ k=>cX (a:=4) (b:=6) k,λ k=>cX (a:=4) (b:=7) k,λ k=>cX (a:=4) (b:=8) k⟩
def Y1(h:Int)(k:ByteArray)(u:Int):Nv:=({Nd.zero with kind:=5,hash:=h,key:=k,val:=u}:Nd).c [] []
theorem C0{h:Nat}{k:ByteArray}{u g:Int}(i:Inv H σ)(hk:k.size<=64)(hh:H k=h)(hl:h<18446744073709551616)(w0:0<w.length)(w1:w.length<=11)(hu:fU h w):jH H σ (Y1 h k u) w g :=
 ⟨.inr (.inr (.inr (.inl rfl))),iz i.gen hk,wS (bH _) (bH _) (bH _) (λ r hr=>nomatch hr) iG ⟨h,rfl,hl⟩,
  λ k=>cX (a:=5) (b:=2) k,λ k=>cX (a:=5) (b:=3) k,λ k=>cX (a:=5) (b:=4) k,λ _=>⟨w0,w1,hh,hu⟩,λ k=>cX (a:=5) (b:=6) k,λ k=>cX (a:=5) (b:=7) k,λ k=>cX (a:=5) (b:=8) k⟩
def Qm(h:Int)(ys:List Pr):Nv:=({Nd.zero with kind:=6,hash:=h}:Nd).c [] ys
theorem Ds{h:Nat}{ys:List Pr}{g:Int}(i:Inv H σ)(h2:2<=ys.length)(ha:kr ys)(hs:Bf ys)(hh:∀p∈ys,H p.1=h)(hl:h<18446744073709551616)(w1:w.length=11)(hu:fU h w):jH H σ (Qm h ys) w g :=
 ⟨.inr (.inr (.inr (.inr (.inl rfl)))),je i.gen h2 ha hs,wS (bH _) (bH _) (bH _) (λ r hr=>nomatch hr) iG ⟨h,rfl,hl⟩,
  λ k=>cX (a:=6) (b:=2) k,λ k=>cX (a:=6) (b:=3) k,λ k=>cX (a:=6) (b:=4) k,λ k=>cX (a:=6) (b:=5) k,λ _=>⟨w1,hu,hh⟩,λ k=>cX (a:=6) (b:=7) k,λ k=>cX (a:=6) (b:=8) k⟩
theorem Qq{m:Nat->Option Int}{x:Int}:∀{k:Nat},x∈oE m k->∃j,j<k/\m j=some x
 | 0,h=>nomatch h
 | k+1,h=>by
  simp only[oE,List.mem_append,Option.mem_toList] at h
  rcases h with h|h
  ·obtain⟨j,h1,h2⟩:=Qq h
   exact⟨j,by omega,h2⟩
  ·exact⟨k,Nat.lt_succ_self k,h⟩
theorem Ip{b:Nat}{xs:List Int}(h:BV b xs){x:Int}(hx:x∈xs):∃j,j<64/\oQ b xs j=some x:=by
 rw[<- (N0 h).2] at hx
 exact Qq hx
theorem Su{b:Nat}{xs:List Int}(h:BV b xs){k:Nat}(hk:k<64){x:Int}(hx:oQ b xs k=some x):x∈xs:=by
 unfold oQ at hx
 split at hx
 ·rename_i hb
  cases hx
  exact Af (by rw[h.len];exact nK hk hb)
 ·cases hx
theorem sk{v:Nv}{k:Nat}(hk:64<=k):jN v (k:Int)=none:=by
 unfold jN Jk
 rw[Sr _ (by omega)]
 simp
theorem Jw{v:Nv}(hcv:CV v.nd v.xs v.ys){k:Nat}(hk:k<64):jN v (k:Int)=oQ v.bm.toNat v.xs k:=Rm hcv hk
theorem I3.le{g g' b:Int}(h:I3 σ w g b)(hg:g<=g'):I3 σ w g' b:=by
 rcases h with h|h
 ·exact .inl h
 ·exact .inr ⟨h.1,h.2.1,Int.le_trans h.2.2 hg⟩
theorem I3.in{g b:Int}(h:I3 σ w g b):1<=b/\b<=σ.len:=by
 rcases h with h|h<;>exact dD (N:=σ.mm.nodes) (i:=b) (by rw[h.1];decide)
theorem lQ{b:Nat}{xs:List Int}{g:Int}(i:Inv H σ)(hb:BV b xs)(hx:∀k:Nat,k<64->∀r,oQ b xs k=some r->I3 σ (w++[k]) g r)(hw:w.length<=10)(h0:0<w.length->xs≠[]/\∀b,xs=[b]->(σ.nd b).kind=2):jH H σ (A5 b xs) w g:=by
 have hr:∀r∈xs,1<=r/\r<=σ.len:=λ r hr=>by
  obtain⟨j,h1,h2⟩:=Ip hb hr
  exact(hx j h1 r h2).in
 have hok:mA σ.mm.gen (σ.len+1) (cS (A5 b xs) σ.cl).dv:=yQ i.gen hb (λ r h=>by have:=(hr r h).2;omega)
 refine⟨.inr (.inl rfl),hok,wS (bH _) (bH _) (bH _) (λ r h=>by have:=(hr r h).2;omega) ⟨b,rfl,hb.lt⟩ iG,
  λ k=>cX (a:=3) (b:=2) k,λ _=>⟨hw,λ k r hk=>?_,h0⟩,λ k=>cX (a:=3) (b:=4) k,λ k=>cX (a:=3) (b:=5) k,λ k=>cX (a:=3) (b:=6) k,λ k=>cX (a:=3) (b:=7) k,λ k=>cX (a:=3) (b:=8) k⟩
 by_cases h64:k<64
 ·rw[Jw (v:=cS (A5 b xs) σ.cl) ⟨rfl,hok.1⟩ h64] at hk
  exact hx k h64 r hk
 ·rw[sk (by omega)] at hk
  cases hk
structure kJ(σ:Kw)(m:Int)(w:List Nat)(g:Int)(b:Nat)(xs:List Int):Prop where
 kd:(σ.nd m).kind=3
 bm:(σ.nd m).bm.toNat=b
 el:(σ.nd m).xs=xs
 cv:CV (σ.nd m).nd (σ.nd m).xs (σ.nd m).ys
 bv:BV b xs
 wl:w.length<=10
 br:∀k:Nat,k<64->∀r,oQ b xs k=some r->I3 σ (w++[k]) g r
 ne:0<w.length->xs≠[]/\∀b,xs=[b]->(σ.nd b).kind=2
theorem mC.lK{m g:Int}(i:Inv H σ)(h:mC σ m w g)(k:(σ.nd m).kind=3):kJ σ m w g (σ.nd m).bm.toNat (σ.nd m).xs:=by
 have hr:=h.in
 have hn:=i.nd m hr.1 hr.2
 obtain⟨h1,h2,h3,_⟩:=hn.k3 k
 have hcv:CV (σ.nd m).nd (σ.nd m).xs (σ.nd m).ys:=⟨k,hn.valid⟩
 obtain⟨b,hb1,hb2⟩:=hn.bd.bm
 have hb:(σ.nd m).bm.toNat=b:=by omega
 rw[h.2.1] at h1 h2 h3
 refine⟨k,rfl,rfl,hcv,by rw[hb];exact hcv.bv hb1 hb2,h1,λ k' hk r hr=>?_,h3⟩
 exact(h2 k' r (by rw[Jw hcv hk];exact hr)).le h.2.2
theorem kJ.lk{m g:Int}{b:Nat}{xs:List Int}(h:kJ σ m w g b xs){k:Nat}(hk:k<64):jN (σ.nd m) (k:Int)=oQ b xs k:=by rw[Jw h.cv hk,h.bm,h.el]
theorem kJ.up{m g r:Int}{b:Nat}{xs:List Int}(h:kJ σ m w g b xs){k:Nat}(hk:k<64){o:Int}(ho:jN (σ.nd m) (k:Int)=some o)(hr:1<=r):N9 (σ.nd m) (k:Int) r=A5 b (oZ xs (eM b k) r)/\BV b (oZ xs (eM b k) r)/\(∀j,j<64->oQ b (oZ xs (eM b k) r) j=Gq (oQ b xs) k (some r) j)/\eM b k<xs.length:=by
 rw[h.lk hk] at ho
 have hb:b.testBit k=true:=by unfold oQ at ho;split at ho;assumption;cases ho
 have hu:=Oh h.bv hk hb hr
 refine⟨?_,hu.1,hu.2,by rw[h.bv.len];exact nK hk hb⟩
 unfold N9 cy
 rw[if_pos ⟨h.cv,hr,by rw[h.bm,oT b hk];exact hb⟩,h.bm,h.el,mT b hk]
 rfl
theorem kJ.ins{m g r:Int}{b:Nat}{xs:List Int}(h:kJ σ m w g b xs){k:Nat}(hk:k<64)(ho:jN (σ.nd m) (k:Int)=none)(hr:1<=r):ql (σ.nd m) (k:Int) r=A5 (b ||| 2^k) (uL xs (eM b k) r)/\BV (b ||| 2^k) (uL xs (eM b k) r)/\(∀j,j<64->oQ (b ||| 2^k) (uL xs (eM b k) r) j=Gq (oQ b xs) k (some r) j)/\(uL xs (eM b k) r).length=xs.length+1:=by
 rw[h.lk hk] at ho
 have hb:b.testBit k=false:=by
  unfold oQ at ho
  cases hb:b.testBit k with
  | false=>rfl
  | true=>rw[hb] at ho;simp at ho
 have hu:=Dn h.bv hk hb hr
 refine⟨?_,hu.1,hu.2,Dy (by rw[h.bv.len];have:=uM b k (64-k);rwa [show k+(64-k)=64 by omega] at this) r⟩
 unfold ql de
 rw[if_pos ⟨h.cv,⟨by omega,by omega⟩,hr,by rw[h.bm,oT b hk];exact hb⟩,h.bm,h.el,mT b hk,oB b hk]
 rfl
theorem kJ.re{m g:Int}{b:Nat}{xs:List Int}(h:kJ σ m w g b xs){k:Nat}(hk:k<64){o:Int}(ho:jN (σ.nd m) (k:Int)=some o):Kn (σ.nd m) (k:Int)=A5 (b ^^^ (b &&& 2^k)) (qN xs (eM b k))/\BV (b ^^^ (b &&& 2^k)) (qN xs (eM b k))/\(∀j,j<64->oQ (b ^^^ (b &&& 2^k)) (qN xs (eM b k)) j=Gq (oQ b xs) k none j)/\(qN xs (eM b k)).length+1=xs.length:=by
 rw[h.lk hk] at ho
 have hb:b.testBit k=true:=by unfold oQ at ho;split at ho;assumption;cases ho
 have hu:=Of h.bv hk hb
 refine⟨?_,hu.1,hu.2,D9 (by rw[h.bv.len];exact nK hk hb)⟩
 unfold Kn cx
 rw[if_pos ⟨h.cv,by rw[h.bm,oT b hk];exact hb⟩,h.bm,h.el,mT b hk,qZ b hk]
 rfl
end
end

end Go.Proofs.YtadnboagdhcedaaGreatDoor

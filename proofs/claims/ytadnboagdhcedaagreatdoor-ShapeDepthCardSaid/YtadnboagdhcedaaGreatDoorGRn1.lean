/- The reference of dual: the nodes that are allocated for two keys. -/
import Derived.Test.YtadnboagdhcedaaGreatDoorGArS
import Derived.Test.YtadnboagdhcedaaGreatDoorGBr2
import Derived.Test.YtadnboagdhcedaaGreatDoorGPa1
import Derived.Test.YtadnboagdhcedaaGreatDoorGNode2
import Derived.Test.YtadnboagdhcedaaGreatDoorGSh6
import Derived.Test.YtadnboagdhcedaaGreatDoorGLst3

set_option linter.unusedSimpArgs false
set_option linter.unusedVariables false
namespace Go.Ct
section
open Go Go.RowKit
def two(i k:Nat)(x s:Int):List Int:=if i<k then [x,s] else [s,x]
structure NI where
 n:Nd
 xs:List Int
 ys:List Pr
 init:Int
def AX.no:AX:=⟨none,0,none,0,none,0,none,0⟩
def NI.c(a:NI)(c:Nat):Nv:=(kK a.n a.xs a.ys c AX.no).c
abbrev De(h:Nat)(ys:List Pr):NI:=⟨{Nd.zero with kind:=6,hash:=(h:Int)},[],ys,0⟩
abbrev tD(h:Nat)(k:ByteArray)(u:Int):NI:=⟨{Nd.zero with kind:=4,hash:=(h:Int),key:=k,val:=u},[],[],0⟩
abbrev pK(gen m:Int):NI:=⟨{Nd.zero with kind:=2,gen:=gen},[],[],m⟩
abbrev Z9(b:Nat)(xs:List Int):NI:=⟨{Nd.zero with kind:=3,bm:=(b:Int)},xs,[],0⟩
def NI.no:NI:=⟨Nd.zero,[],[],0⟩
structure G4(v:aL)(a:NI):Prop where
 xs:v.xs=a.xs
 ys:v.ys=a.ys
 kind:v.nd.kind=a.n.kind
 c:∀k,(kK v.nd v.xs v.ys k AX.no).c=a.c k
 fit:v.Fit
 sx:v.xs.length<=1000
 sy:v.ys.length<=1000
 c0:v.c=a.n.c a.xs a.ys
inductive mZ:List aL->List NI->Prop where
 | nil:mZ [] []
 | cons {v:aL} {a:NI} {L:List aL} {l:List NI} (h:G4 v a) (hr:mZ L l):mZ (v::L) (a::l)
theorem mZ.len{L:List aL}{l:List NI}(h:mZ L l):L.length=l.length:=by
 induction h with
 | nil=>rfl
 | cons _ _ ih=>simp[ih]
theorem mZ.append{L M:List aL}{l m:List NI}(h:mZ L l)(h2:mZ M m):mZ (L++M) (l++m):=by
 induction h with
 | nil=>exact h2
 | cons h _ ih=>exact .cons h ih
theorem mZ.at{L:List aL}{l:List NI}(h:mZ L l){i:Nat}(hi:i<L.length):∃a,l[i]?=some a/\G4 (L.getD i aL.zero) a:=by
 induction h generalizing i with
 | nil=>simp at hi
 | @cons v a L l h _ ih =>
  cases i with
  | zero=>exact⟨a,rfl,h⟩
  | succ i =>
   obtain⟨b,h1,h2⟩:=ih (i:=i) (by simpa using hi)
   exact⟨b,by simpa using h1,by simpa using h2⟩
def Ej(l:List NI):List Int:=l.map NI.init
theorem SF.aAb{w0 w:World}{M:List Nat}{H:List (Nat×Obj)}{A F:Fr}{O:List Ow}{f1 f2:Option Addr×List Value}(h:SF w0 M H A (f1::f2::F) O w):SF w0 M H A (f2::f1::F) O w:=h.eN λ f hf=>.inr (by
 simp only[List.mem_cons] at hf ⊢
 rcases hf with h|h|h
 ·exact .inr (.inl h)
 ·exact .inl h
 ·exact .inr (.inr h))
theorem SF.w7{w0 w:World}{M:List Nat}{H:List (Nat×Obj)}{A F:Fr}{O:List Ow}{i c:Nat}{p:Option Addr}(h:SF w0 M H A F O w){l:List Int}{T:TypeId}(ho:vE O i p (aG l) c T 1):l.length<=c:=by
 rcases(h.own _ ho.mem).1 with⟨_,h2,_⟩|⟨b,rest,_,_,h3⟩
 ·have h2':aG l=[]:=h2
  have:(aG l).length=0:=by rw[h2'];rfl
  rw[hY] at this
  omega
 ·have h3':(aG l++rest).length=c*1:=h3
  rw[List.length_append,hY] at h3'
  omega
end
end Go.Ct
namespace Go.Proofs.YtadnboagdhcedaaGreatDoor
section
open Go Go.RowKit Go.Ct
def dN(x:Int)(h0 h:Nat)(p0:Pr)(k:ByteArray)(u gen:Int)(f:Nat):Nat->Nat->List NI
 | 0,lvl=>if lvl=11 then [De h (Bz [p0,(k,u)])] else [tD h k u,Z9 (dH (dH 0 (sl h0 lvl:Int)) (sl h lvl:Int)) (two (sl h0 lvl) (sl h lvl) x (f:Int))]
 | n+1,lvl=>dN x h0 h p0 k u gen f n (lvl+1)++[pK gen ((f-1+(dN x h0 h p0 k u gen f n (lvl+1)).length:Nat):Int),Z9 (dH 0 (sl h lvl:Int)) [((f+(dN x h0 h p0 k u gen f n (lvl+1)).length:Nat):Int)]]
theorem N6{x:Int}{h0 h:Nat}{p0:Pr}{k:ByteArray}{u gen:Int}{f:Nat}:∀n lvl,(dN x h0 h p0 k u gen f n lvl).length<=2+2*n
 | 0,lvl=>by
  unfold dN
  split<;>simp
 | n+1,lvl=>by
  have:=N6 (x:=x) (h0:=h0) (h:=h) (p0:=p0) (k:=k) (u:=u) (gen:=gen) (f:=f) n (lvl+1)
  unfold dN
  simp only[List.length_append,List.length_cons,List.length_nil]
  omega
theorem li{i k:Nat}(hi:i<64)(hk:k<64)(hne:i≠k)(a b:Int)(w:World) :
  Calls Tryz.prog 175 #[.int .i64 (i:Int),.int .i64 a,.int .i64 (k:Int),.int .i64 b] w λ e w'=>∃p:Option Addr,e=.returned (.agg ⟨[.int .i64 3,.int .i64 0,.int .i64 0,.int .u64 ((dH (dH 0 (i:Int)) (k:Int):Nat):Int),.slice p 2 2,.int .u64 0,.string ⟨#[]⟩,.int .u64 0,.slice none 0 0,.int .i64 0,.int .i64 0,.int .i64 0,.int .i64 0,.int .i64 0]⟩)/\True/\SF w [] [] [] [(p,aG (two i k a b))] [] w':=by
 refine enter Tryz.func175 Tryz.ntmps175 rfl rfl (SF.s0 w) ?_
 simp only[cP]
 refine J0 ?_;refine aP (λ x8=>?_);refine aI ?_;refine J2 ?_;refine aU (cV (hc:=λ w1 hw=>lQ (n:=0) (by decide) (i:Int) w1)) (λ x11=>?_);refine aB ?_;refine aU (cV (hc:=λ w1 hw=>lQ (n:=dH 0 (i:Int)) (yB (by decide) _) (k:Int) w1)) (λ x13=>?_);refine nX ?_;refine fF (λ x16=>?_);refine bD ?_;refine aP (λ x9=>?_);refine J5 ?_;refine Fz ?_;refine vV ?_
 refine aZ (λ c20=>?_) (λ c20=>?_)
 ·refine Kq ?_;refine fF (λ x23=>?_);refine xC ?_;refine Ka9 ?_
  refine bK Tryz.results175 (λ w hw=>?_)
  first
  | exact⟨some ⟨x23,0,none⟩,rfl,trivial,by rw[show two i k a b=[b,a] from if_neg (by omega)];exact hw.ret (List.nil_sublist _) (aW.oP λ f hf=>by rw[List.mem_singleton.1 hf];exact .head _) (List.Sublist.refl _)⟩
  | exact⟨some ⟨x16,0,none⟩,rfl,trivial,by rw[show two i k a b=[a,b] from if_pos (by omega)];exact hw.ret (List.nil_sublist _) (aW.oP λ f hf=>by rw[List.mem_singleton.1 hf];exact .head _) (List.Sublist.refl _)⟩
 ·refine bA ?_;refine Ka9 ?_
  refine bK Tryz.results175 (λ w hw=>?_)
  first
  | exact⟨some ⟨x16,0,none⟩,rfl,trivial,by rw[show two i k a b=[a,b] from if_pos (by omega)];exact hw.ret (List.nil_sublist _) (aW.oP λ f hf=>by rw[List.mem_singleton.1 hf];exact .head _) (List.Sublist.refl _)⟩
theorem mg{l:List Pr}{a:Option Addr}{c:Nat}{w:World}(ha:Cl w a (dF l))(hlen:l.length<=200000000000) :
  Calls Tryz.prog 174 #[.slice a l.length c] w λ e w'=>∃x:Option Addr×Nat,e=.returned (.slice x.1 (Bz l).length x.2)/\(Bz l).length<=x.2/\SF w [] [] [] [(x.1,dF (Bz l))] [] w':=(ju ha hlen).mono λ _ _ h=>h
theorem Bv{h l:Nat}{i:Int}(hi:i=(l:Int))(hh:h<18446744073709551616)(hl:l<=10)(w:World):Calls Tryz.prog 79 #[.int .u64 (h:Int),.int .i64 i] w λ e w'=>e=.returned (.int .i64 ((sl h l:Nat):Int))/\St w [] [] w':=by
 subst hi
 exact oR hh hl w
abbrev I3(h:Nat)(ys:List Pr)(p:Option Addr)(c:Nat):aL:=⟨{Nd.zero with kind:=6,hash:=(h:Int),prA:=p,prN:=ys.length,dF:=c},[],ys⟩
abbrev xT(h:Nat)(k:ByteArray)(u:Int):aL:=⟨{Nd.zero with kind:=4,hash:=(h:Int),key:=k,val:=u},[],[]⟩
abbrev vI(gen:Int):aL:=⟨{Nd.zero with kind:=2,gen:=gen},[],[]⟩
abbrev ko(n b:Nat)(xs:List Int)(p:Option Addr):aL:=⟨{Nd.zero with kind:=3,bm:=(b:Int),brA:=p,brN:=n,brC:=n},xs,[]⟩
theorem z35:(0:Nat)<=35184372088832:=Nat.zero_le _
theorem z11:(0:Nat)<=11728124029610:=Nat.zero_le _
theorem iu{h:Nat}{ys:List Pr}{p:Option Addr}{c:Nat}(hy:ys.length<=1000):G4 (I3 h ys p c) (De h ys):=⟨rfl,rfl,rfl,λ _=>rfl,⟨rfl,rfl,z35,by show ys.length<=_;omega⟩,Nat.zero_le _,hy,rfl⟩
theorem Vf{h:Nat}{k:ByteArray}{u:Int}:G4 (xT h k u) (tD h k u):=⟨rfl,rfl,rfl,λ _=>rfl,⟨rfl,rfl,z35,z11⟩,Nat.zero_le _,Nat.zero_le _,rfl⟩
theorem ak{gen m:Int}:G4 (vI gen) (pK gen m):=⟨rfl,rfl,rfl,λ _=>rfl,⟨rfl,rfl,z35,z11⟩,Nat.zero_le _,Nat.zero_le _,rfl⟩
theorem z0{n b:Nat}{xs:List Int}{p:Option Addr}(hn:n=xs.length)(hx:xs.length<=1000):G4 (ko n b xs p) (Z9 b xs):=⟨rfl,rfl,rfl,λ _=>rfl,⟨hn,rfl,by show xs.length<=_;omega,z11⟩,hx,Nat.zero_le _,rfl⟩
structure RX where
 L:List aL
 ini:List Int
 pn:Option Addr
 cn:Nat
 pc:Option Addr
 cc:Nat
structure F9(r:RX)(l:List NI):Prop where
 m:mZ r.L l
 ini:r.ini=Ej l
theorem F9.len{r:RX}{l:List NI}(h:F9 r l):r.L.length=l.length/\r.ini.length=l.length:=⟨h.m.len,by rw[h.ini];simp[Ej]⟩
theorem F9.push{r:RX}{l:List NI}(h:F9 r l){gen m:Int}{n b:Nat}{xs:List Int}{p pn pc:Option Addr}{cn cc:Nat}(hn:n=xs.length)(hx:xs.length<=1000):F9 ⟨r.L++[vI gen,ko n b xs p],r.ini++[m,0],pn,cn,pc,cc⟩ (l++[pK gen m,Z9 b xs]) :=
 ⟨h.m.append (.cons ak (.cons (z0 hn hx) .nil)),by show r.ini++_=_;rw[h.ini];simp[Ej,pK,Z9]⟩
theorem Ou{L:List aL}{gen:Int}{b:Nat}{r:Int}{p:Option Addr}{F:Fr}{f:Option Addr×List Value}(hf:f∈aV (L++[vI gen,ko 1 b [r] p]))(h1:(p,aG [r])∈F)(h2:f∈aV L->f∈F):f.2=[]∨f∈F:=by
 simp only[aV,List.flatMap_append] at hf
 rcases List.mem_append.1 hf with hf|hf
 ·exact .inr (h2 hf)
 ·simp[aL.fr] at hf
  rcases hf with rfl|rfl|rfl|rfl
  ·exact .inl rfl
  ·exact .inl rfl
  ·exact .inr h1
  ·exact .inl rfl
variable{v:aL}{at':Int}{h0 h:Nat}{k:ByteArray}{u gen:Int}{fi lvl:Nat}
abbrev dQ(at':Int)(h0 h:Nat)(v:aL)(k:ByteArray)(u gen:Int)(fi:Nat)(n:Nat):List NI:=dN at' h0 h (v.nd.key,v.nd.val) k u gen fi n (jV h0 h-n)
theorem fm{n:Nat}(hn:n<jV h0 h):dQ at' h0 h v k u gen fi (n+1)=dQ at' h0 h v k u gen fi n++[pK gen ((fi-1+(dQ at' h0 h v k u gen fi n).length:Nat):Int),Z9 (dH 0 (sl h (jV h0 h-(n+1)):Int)) [((fi+(dQ at' h0 h v k u gen fi n).length:Nat):Int)]]:=by
 have e:jV h0 h-(n+1)+1=jV h0 h-n:=by omega
 unfold dQ
 rw[dN,e]
theorem rh{x y z:Option Addr}{c a b:Nat}(hc:jV h0 h=11):F9 ⟨[I3 h (Bz [(v.nd.key,v.nd.val),(k,u)]) z c],[0],x,a,y,b⟩ (dQ at' h0 h v k u gen fi 0):=by
 have e:dQ at' h0 h v k u gen fi 0=[De h (Bz [(v.nd.key,v.nd.val),(k,u)])]:=by
  unfold dQ dN
  exact if_pos hc
 rw[e]
 exact⟨.cons (iu (Nat.le_trans (Si _) (by simp))) .nil,rfl⟩
theorem ru{x y p:Option Addr}{a b:Nat}(hc:jV h0 h≠11):F9 ⟨[xT h k u,ko 2 (dH (dH 0 (sl h0 (jV h0 h):Int)) (sl h (jV h0 h):Int)) (two (sl h0 (jV h0 h)) (sl h (jV h0 h)) at' (fi:Int)) p],[0,0],x,a,y,b⟩ (dQ at' h0 h v k u gen fi 0):=by
 have e:dQ at' h0 h v k u gen fi 0=[tD h k u,Z9 (dH (dH 0 (sl h0 (jV h0 h):Int)) (sl h (jV h0 h):Int)) (two (sl h0 (jV h0 h)) (sl h (jV h0 h)) at' (fi:Int))]:=by
  unfold dQ dN
  exact if_neg hc
 rw[e]
 exact⟨.cons Vf (.cons (z0 (by unfold two;split<;>rfl) (by unfold two;split<;>simp)) .nil),rfl⟩
theorem Xv(hv:v.nd.hash=(h0:Int))(hh0:h0<18446744073709551616)(hh:h<18446744073709551616)(hf1:1<=fi)(hf2:fi<=274877906944)(w:World) :
    Calls Tryz.prog 167 #[.agg ⟨v.nd.cells⟩,.int .i64 at',.int .u64 (h:Int),.string k,.int .u64 u,.int .i64 (lvl:Int),.int .i64 gen,.int .i64 (fi:Int)] w λ e w' =>
      ∃d:RX,e=.returned (.tuple #[.slice d.pn d.L.length d.cn,.slice d.pc d.ini.length d.cc]) /\
      (F9 d (dQ at' h0 h v k u gen fi (jV h0 h-lvl))/\d.L.length<=d.cn/\d.ini.length<=d.cc) /\
      SF w [] [] [] ((d.pn,gR d.L)::(d.pc,aG d.ini)::aV d.L) [] w':=by
  have hcl:=wP h0 h
  refine enter Tryz.func167 Tryz.ntmps167 rfl rfl (SF.s0 w) ?_
  simp only[cP]
  refine J0 ?_;refine bP (λ x8=>?_);refine J8 ?_;refine gU ?_;refine aB ?_;refine aU (cV (hc:=λ w1 hw=>by rw[hv];exact Kx hh0 hh w1)) (λ x26=>?_);refine gP ?_
  refine dV [16,17,18,19,27,28,29,30,31,32,33,34,35,36,37,38,39,40,41,42,43,44,45,46,47,48,49,50,51,52,53,54,55,56,57,58,59] (λ q:RX=>[(16,.slice q.pn q.L.length q.cn),(17,.slice q.pc q.ini.length q.cc),(18,.int .i64 ((jV h0 h:Nat):Int))]) (λ q=>F9 q (dQ at' h0 h v k u gen fi 0)/\q.L.length<=2) (λ q=>[]) (λ q=>aV q.L) (λ q=>[⟨q.pn,gR q.L,q.cn,77,14⟩,⟨q.pc,aG q.ini,q.cc,62,1⟩]) (by decide) (λ _=>by exact rfl) ?_ (λ q f hx=>?_)
  · refine aR ?_
    refine wS ?_;refine mT ?_;refine aI ?_
    refine aZ (λ c28=>?_) (λ c28=>?_)
    · refine gU ?_;refine J3 ?_;refine bD ?_;refine nX ?_;refine bD ?_;refine fF (λ x37=>?_);refine aC (cF (V:=λ x:Option Addr×Nat=>.slice x.1 (Bz [(v.nd.key,v.nd.val),(k,u)]).length x.2) (hc:=λ w1 hw=>mg (l:=[(v.nd.key,v.nd.val),(k,u)]) (hw.cl (.new .head)) (by simp))) (λ x38 h38=>?_);refine sV ?_;refine bD ?_;refine aU (O3 (c:=1) (sz:=14) rfl (λ _=>cC (cs:=gR [I3 h (Bz [(v.nd.key,v.nd.val),(k,u)]) x38.1 x38.2]) qF Fp rfl rfl rfl rfl rfl)) (λ x42=>?_);refine aU (O3 (c:=1) (sz:=1) rfl (λ _=>cC (cs:=aG [0]) lB Fp rfl rfl rfl rfl rfl)) (λ x43=>?_);refine J8 ?_;refine dJ ?_;refine J1 ?_
      refine eO ((⟨[I3 h (Bz [(v.nd.key,v.nd.val),(k,u)]) x38.1 x38.2],[0],some ⟨x42,0,none⟩,1,some ⟨x43,0,none⟩,1⟩:RX)) ?_ (hw1:=λ w hw=>(hw.au.eN λ f hf=>by simp[aV,aL.fr] at hf;rcases hf with rfl|rfl;exact .inl rfl;exact .inr (.head _)).sub (List.nil_sublist _) aW.all (List.Sublist.refl _))
      · have hne:jV h0 h=11:=by omega
        exact⟨rh hne,Nat.le_succ 1⟩
    · refine Kd1 ?_;refine bD ?_;refine J3 ?_;refine aB ?_;refine aU (cV (hc:=λ w1 hw=>by rw[hv];exact oR (l:=jV h0 h) hh0 (by omega) w1)) (λ x51=>?_);refine nX ?_;refine aB ?_;refine aU (cV (hc:=λ w1 hw=>oR (l:=jV h0 h) hh (by omega) w1)) (λ x55=>?_);refine aB ?_;refine aC (cF (hc:=λ w1 hw=>li (tV h0 (jV h0 h)) (tV h (jV h0 h)) (Kd (h:=h0) (k:=h) (by omega)) at' (fi:Int) w1)) (λ x57 h57=>?_);refine aU (O3 (c:=2) (sz:=14) rfl (λ _=>cC (cs:=gR [xT h k u,ko 2 (dH (dH 0 (sl h0 (jV h0 h):Int)) (sl h (jV h0 h):Int)) (two (sl h0 (jV h0 h)) (sl h (jV h0 h)) at' (fi:Int)) x57]) qF Fp rfl rfl rfl rfl rfl)) (λ x58=>?_);refine J1 ?_;refine dJ ?_;refine aU (O3 (c:=2) (sz:=1) rfl (λ _=>cC (cs:=aG [0,0]) lB Fp rfl rfl rfl rfl rfl)) (λ x59=>?_);refine J1 ?_
      refine eO ((⟨[xT h k u,ko 2 (dH (dH 0 (sl h0 (jV h0 h):Int)) (sl h (jV h0 h):Int)) (two (sl h0 (jV h0 h)) (sl h (jV h0 h)) at' (fi:Int)) x57],[0,0],some ⟨x58,0,none⟩,2,some ⟨x59,0,none⟩,2⟩:RX)) ?_ (hw1:=λ w hw=>(hw.au.eN λ f hf=>by simp[aV,aL.fr] at hf;rcases hf with rfl|rfl|rfl|rfl;exact .inl rfl;exact .inl rfl;exact .inr (.head _);exact .inl rfl).sub (List.nil_sublist _) aW.all (List.Sublist.refl _))
      · have hne:jV h0 h≠11:=by omega
        exact⟨ru hne,Nat.le_refl 2⟩
  dsimp only[fY,List.map,List.cons_append,List.nil_append]
  refine kR ?_;refine pC ?_;refine J1 ?_;refine bW ?_
  have hq2:=hx.1.len
  refine lE [16,17,20,21,22,62,63,64,65,66,67,68,69,70,71,72,73,74,75,76,77,78,79,80,81,82,83,84,85,86,87,88,89] (λ y:Nat×RX=>[(16,.slice y.2.pn y.2.L.length y.2.cn),(17,.slice y.2.pc y.2.ini.length y.2.cc),(20,.int .i64 (((jV h0 h-y.1:Nat):Int)-1))]) (λ y=>y.1<=jV h0 h-lvl/\F9 y.2 (dQ at' h0 h v k u gen fi y.1)/\y.2.L.length<=2+2*y.1) (λ _=>_) (λ y=>aV y.2.L) (λ y=>[⟨y.2.pn,gR y.2.L,y.2.cn,77,14⟩,⟨y.2.pc,aG y.2.ini,y.2.cc,62,1⟩]) (λ y=>jV h0 h-lvl-y.1) ((0,q)) (⟨Nat.zero_le _,hx⟩) (λ y f hx=>?_) (hw0:=λ w hw=>hw.sub (List.Sublist.refl _) aW.all (List.Sublist.refl _))
  dsimp only[fY,List.map,List.cons_append,List.nil_append]
  obtain⟨hy1,hy2,hy3⟩:=hx
  obtain⟨hy4,hy5⟩:=hy2.len
  refine Fz ?_;refine mT ?_;refine aI ?_
  refine aZ (λ c64=>?_) (λ c64=>?_)
  · obtain⟨lv,elv⟩:∃lv:Nat,jV h0 h-(y.1+1)=lv:=⟨_,rfl⟩
    have elv2:(((jV h0 h-y.1:Nat):Int)-1)=(lv:Int):=by omega
    have hlv2:lv<=10:=by omega
    refine oE ?_;refine iQ ?_;refine dI ?_;refine aE (lU rf rf (by omega)) rfl ?_;refine aE (iV (n:=1) rf rf (by omega) (by omega)) rfl ?_;refine sV ?_;refine aU (cV (hc:=λ w1 hw=>Bv elv2 hh hlv2 w1)) (λ x74=>?_);refine sV ?_;refine bD ?_;refine aB ?_;refine aU (cV (hc:=λ w1 hw=>lQ (n:=0) (by decide) (sl h lv:Int) w1)) (λ x79=>?_);refine aB ?_;refine aE (lU (n:=1) rf rf (by omega)) rfl ?_;refine aU (B4 (λ _=>cC (cs:=aG [((fi+y.2.L.length-1+1:Nat):Int)]) lB Fp rfl rfl rfl rfl rfl)) (λ x82=>?_);refine bD ?_;refine aU (B4 (λ _=>cC (cs:=gR [vI gen,ko 1 (dH 0 (sl h lv:Int)) [((fi+y.2.L.length-1+1:Nat):Int)] (some ⟨x82,0,none⟩)]) qF Fp rfl rfl rfl rfl rfl)) (λ x84=>?_);(refine aU (bJ.fA (Yj (k:=2) (L2:=[vI gen,ko 1 (dH 0 (sl h lv:Int)) [((fi+y.2.L.length-1+1:Nat):Int)] (some ⟨x82,0,none⟩)]) rf rf B5 rfl fin rfl Yx rfl fE (by omega)) xB) (λ x85=>?_);try (refine eZ (λ h85=>?_)));refine J1 ?_;refine Kq ?_;refine aU (B4 (λ _=>cC (cs:=aG [((fi+y.2.L.length-1:Nat):Int),0]) lB Fp rfl rfl rfl rfl rfl)) (λ x88=>?_);(refine aU (bJ.fA (Qb (k:=2) (l2:=[((fi+y.2.L.length-1:Nat):Int),0]) rf rf B5 rfl fin rfl Y5 fE (by omega)) xB) (λ x89=>?_);try (refine eZ (λ h89=>?_)));refine J1 ?_;refine eT ?_;refine wS ?_;refine pC ?_;refine J1 ?_
    refine gC ((y.1+1,(⟨y.2.L++[vI gen,ko 1 (dH 0 (sl h lv:Int)) [((fi+y.2.L.length-1+1:Nat):Int)] (some ⟨x82,0,none⟩)],y.2.ini++[((fi+y.2.L.length-1:Nat):Int),0],x85.1,x85.2,x89.1,x89.2⟩:RX))) ?_ (hw1:=λ w hw=>hw.eN λ f hf=>Ou hf (.tail _ (.tail _ (.head _))) (λ hf=>.tail _ (.tail _ (.tail _ hf))))
    · refine⟨by omega,?_,by simp only[List.length_append,List.length_cons,List.length_nil];omega⟩
      have e1:dQ at' h0 h v k u gen fi (y.1+1)=dQ at' h0 h v k u gen fi y.1++[pK gen ((fi+y.2.L.length-1:Nat):Int),Z9 (dH 0 (sl h lv:Int)) [((fi+y.2.L.length-1+1:Nat):Int)]]:=by
       rw[fm (by omega),elv,<- hy4,show fi-1+y.2.L.length=fi+y.2.L.length-1 by omega,show fi+y.2.L.length-1+1=fi+y.2.L.length by omega]
      rw[e1]
      exact hy2.push rfl (by simp)
  · have en:y.1=jV h0 h-lvl:=by omega
    refine bI rfl ?_;refine iQ ?_;refine J8 ?_
    refine bK Tryz.results167 (λ w hw=>?_)
    refine⟨y.2,rfl,⟨?_,?_,?_⟩,?_⟩
    · rw[<- en]
      exact hy2
    · exact hw.Ij .head
    · exact hw.w7 (.tail .head)
    · exact((hw.freeze .head).freeze .head).aAb.ret (List.nil_sublist _) aW.all (List.nil_sublist _)
end

/- The procedures with shared cells, as trees. -/
end Go.Proofs.YtadnboagdhcedaaGreatDoor
namespace Go.Ct
section
def NI.c0(a:NI):Nv:=a.n.c a.xs a.ys
end
end Go.Ct
namespace Go.Proofs.YtadnboagdhcedaaGreatDoor
section
open Go.RowKit Go.Ct
structure eA where
 root:Int
 ro:Bool
structure Cl where
 kind:Int
 t:eA
 a:Int
 b:Int
 n:Int
 index:Int
 hash:Int
 mask:Int
 key:ByteArray
 val:Int
 exp:Int
 Ge:Int
 only:Bool
def fT(h:Nat)(level:Int):Int:=if level<0∨10<level then 0 else(sl h level.toNat:Int)
def A5(p:Int):Nv:=({Nd.zero with kind:=7,bM:=p}:Nd).c [] []
def lO(g:Int):Nv:=({Nd.zero with kind:=2,gen:=g}:Nd).c [] []
def Bd(a b c:Int):Nv:=({Nd.zero with kind:=8,bM:=a,exp:=b,new:=c}:Nd).c [] []
def Ek(h:Int)(k:ByteArray)(u:Int):Nv:=({Nd.zero with kind:=4,hash:=h,key:=k,val:=u}:Nd).c [] []
def E3:Nv:=({Nd.zero with kind:=3}:Nd).c [] []
def uj(v s:Int)(K:Int->Tr):Tr:=.node v λ n=>K (if s=1 then n.new else n.bM)
def Fy(t:eA)(v s:Int)(K:Int->Tr):Tr:=uj v s λ w=>.oG t.root v w λ _=>K w
def Qm(t:eA)(K:Int->Tr):Tr:=.load t.root λ v=>.node v λ n=>if n.kind=2 then K v else .node v λ n=>.load n.status λ s =>
 if s=0 then .node v λ n=>.oG n.status 0 2 λ _=>.node v λ n=>.load n.status λ s=>Fy t v s K else Fy t v s K
def Yv(i m p:Int)(K:Int->Tr):Tr:=.node i λ ni=>.node p λ np=>.oG ni.main m np.bM λ _=>.node p λ np=>K np.bM
def tU(i m:Int)(K:Int->Tr):Tr:=.node m λ nm=>.load nm.prev λ p=>if p=0 then K m else Yv i m p K
def Dv(i m p:Int)(c:Bool)(K:Int->Tr):Tr :=
 if c=true then .node m λ nm=>.oG nm.prev p 0 λ _=>tU i m K
 else .node m λ nm=>.alloc (A5 p) 0 λ f=>.oG nm.prev p f λ _=>tU i m K
def uV(t:eA)(i m:Int)(K:Int->Tr):Tr:=.node m λ nm=>.load nm.prev λ p=>if p=0 then K m else .node p λ np =>
 if bT np then(if t.ro=true then Dv i m p false K else Qm t λ r=>.node r λ nr=>.node i λ ni=>Dv i m p (nr.gen==ni.gen) K)
 else Yv i m p K
def lI(t:eA)(i:Int)(K:Int->Tr):Tr:=.node i λ ni=>.load ni.main λ m=>uV t i m K
def vK(t:eA)(v:Int)(K:Tr):Tr:=.node v λ n=>lI t n.bM λ r=>.node v λ n2=>.node v λ n3=>.oG n3.status 0 (if r=n2.exp then 1 else 2) λ _=>K
def rY(t:eA)(K:Int->Tr):Tr:=.load t.root λ v=>.node v λ n=>if n.kind=2 then K v else .node v λ n=>.load n.status λ s =>
 if s=0 then vK t v (.node v λ n=>.load n.status λ s=>Fy t v s K) else Fy t v s K
def mX(t:eA)(i bM n:Int)(K:Bool->Tr):Tr:=.node i λ ni=>.oG ni.main bM n λ b=>if b=true then uV t i n λ m=>K (m==n) else K false
def tT(t:eA)(bM exp new:Int)(K:Bool->Tr):Tr:=.alloc (Bd bM exp new) 0 λ d=>.oG t.root bM d λ b =>
 if b=true then vK t d (.node d λ nd=>.load nd.status λ s=>Fy t d s λ _=>K (s==1)) else K false
def Co(c index r:Int)(K:Int->Tr):Tr:=.node c λ nc=>.alloc (P5 nc index r) c K
def Ik(t:eA)(i c index:Int)(K:Int->Tr):Tr:=.node c λ nc=>lI t ((jT nc index).getD 0) λ m=>.node i λ ni=>.alloc (lO ni.gen) m λ j =>
 Co c index j λ r=>mX t i c r λ ok=>K (if ok=true then j else 0)
def wV(t:eA)(parent child:Int)(h:Nat)(level:Int)(K:Bool->Tr):Tr:=lI t parent λ m=>.node m λ nm =>
 if jT nm (fT h level)=some child then lI t child λ mc=>.node mc λ nmc =>
  if nmc.kind=5 then .alloc (wg nmc) 0 λ s=>.node m λ nm2=>.alloc (td (P5 nm2 (fT h level) s) level (wg nmc)) m λ r=>mX t parent m r K
  else K false
 else K false
def iK(f:Bool)(v:Int):Rs:=⟨0,f,v,⟨#[]⟩,0,0,0,false⟩
def qK(f:Bool)(v:Int):Rs:=⟨0,f,v,⟨#[]⟩,1,0,0,false⟩
def Bl(t:eA)(h:Nat)(key:ByteArray)(K:Rs->Tr):Nat->Int->Int->Tr
 | 0,_,_=>.stuck
 | n+1,i,level=>lI t i λ mr=>.node mr λ m =>
  if m.kind=5 then(if m.key=key then K (iK true m.val) else K (iK false 0))
  else if m.kind=6 then K (iK (dG m.ys key).isSome ((dG m.ys key).getD 0))
  else match jT m (fT h level) with
   | none=>K (iK false 0)
   | some b=>.node b λ s=>if s.kind=4 then(if s.key=key then K (iK true s.val) else K (iK false 0)) else Bl t h key K n b (level+1)
def mG(c:Cl)(found:Bool)(v:Int):Bool:=if c.Ge=1 then !found else if c.Ge=2 then found else if c.Ge=3 then found&&v==c.exp else true
def yM:List NI->Int->(Int->Tr)->Tr
 | [],r,K=>K r
 | a::l,_,K=>.alloc a.c0 a.init λ r=>yM l r K
def dP(at_:Int)(h0 h:Nat)(p:Pr)(k:ByteArray)(u gen:Int)(fi lvl:Nat):List NI:=dN at_ h0 h p k u gen fi (jV h0 h-lvl) (jV h0 h-(jV h0 h-lvl))
def Sx(c:Cl)(b:Int)(h:Nat)(level:Nat)(gen:Int)(K:Int->Tr):Tr:=.node b λ nb =>
 .alloc ((dP b nb.hash.toNat h (nb.key,nb.val) c.key c.val gen 0 level).headD NI.no).c0 ((dP b nb.hash.toNat h (nb.key,nb.val) c.key c.val gen 0 level).headD NI.no).init λ f =>
 yM (dP b nb.hash.toNat h (nb.key,nb.val) c.key c.val gen f.toNat level).tail f K
def kM(c:Cl)(i m:Int)(h:Nat)(level:Nat)(gen:Int)(K:Rs->Int->Tr):Tr:=.node m λ n =>
 if n.kind=6 then
  (if mG c (dG n.ys c.key).isSome ((dG n.ys c.key).getD 0)=true then
   .alloc (v5 n c.key c.val) m λ r=>mX c.t i m r λ ok=>K (qK (dG n.ys c.key).isSome ((dG n.ys c.key).getD 0)) (if ok=true then 1 else 0)
  else K (iK (dG n.ys c.key).isSome ((dG n.ys c.key).getD 0)) 1)
 else match jT n (fT h level) with
  | none=>if mG c false 0=true then .alloc (Ek h c.key c.val) 0 λ s=>.alloc (uc n (fT h level) s) m λ r=>mX c.t i m r λ ok=>K (qK false 0) (if ok=true then 1 else 0) else K (iK false 0) 1
  | some b=>.node b λ nb=>if nb.kind=2 then K Rs.zero 2 else
   if nb.key=c.key then
    (if mG c true nb.val=true then .alloc (Ek h c.key c.val) 0 λ s=>Co m (fT h level) s λ r=>mX c.t i m r λ ok=>K (qK true nb.val) (if ok=true then 1 else 0)
    else K (iK true nb.val) 1)
   else
    (if mG c false 0=true then Sx c b h (level+1) gen λ d=>.alloc (lO gen) d λ j=>Co m (fT h level) j λ r=>mX c.t i m r λ ok=>K (qK false 0) (if ok=true then 1 else 0)
    else K (iK false 0) 1)
def Es(c:Cl)(i m index gen:Int)(K:Int->Tr):Tr:=.node m λ nm=>.node ((jT nm index).getD 0) λ nb=>if nb.gen=gen then K ((jT nm index).getD 0) else Ik c.t i m index K
def Bh(c:Cl)(h:Nat)(K:Rs->Tr)(again:Tr)(gen:Int):Nat->Int->Int->Nat->Tr
 | 0,_,_,_=>.stuck
 | n+1,i,parent,level=>lI c.t i λ m=>.node m λ nm =>
  if nm.kind=5 then wV c.t parent i h ((level:Int)-1) λ _=>again
  else kM c i m h level gen λ r what=>if what=1 then K r else if what=0 then again else
   Es c i m (fT h level) gen λ b=>if b=0 then again else Bh c h K again gen n b i (level+1)
def Ak(c:Cl)(h:Nat)(K:Rs->Tr):Nat->Tr
 | 0=>.stuck
 | n+1=>rY c.t λ i=>.node i λ ni=>Bh c h K (Ak c h K n) ni.gen n i 0 0
def jE(c:Cl)(i m:Int)(h:Nat)(level:Nat)(K:Rs->Int->Tr):Tr:=.node m λ n =>
 if n.kind=6 then
  (if(dG n.ys c.key).isSome=false∨(c.only=true/\(dG n.ys c.key).getD 0≠c.exp) then K (iK (dG n.ys c.key).isSome ((dG n.ys c.key).getD 0)) 1
  else .alloc (mz n c.key) m λ r=>mX c.t i m r λ ok=>K (qK true ((dG n.ys c.key).getD 0)) (if ok=true then 1 else 0))
 else match jT n (fT h level) with
  | none=>K (iK false 0) 1
  | some b=>.node b λ s=>if s.kind=2 then K Rs.zero 2 else if s.key≠c.key then K (iK false 0) 1 else if c.only=true/\s.val≠c.exp then K (iK true s.val) 1
   else .node ((Iz (Kn n (fT h level))).getD 0) λ so=>.alloc (td (Kn n (fT h level)) level so) m λ r=>mX c.t i m r λ ok=>K (qK true s.val) (if ok=true then 1 else 0)
def pb(t:eA)(path:List Int)(h:Nat)(K:Tr):Nat->Tr
 | 0=>K
 | l+1=>lI t (path.getD (l+1) 0) λ m=>.node m λ nm=>if nm.kind=5 then wV t (path.getD l 0) (path.getD (l+1) 0) h (l:Int) λ _=>pb t path h K l else K
def tF(c:Cl)(h:Nat)(K:Rs->Tr)(again:Tr)(gen:Int):Nat->Int->List Int->Nat->Tr
 | 0,_,_,_=>.stuck
 | n+1,i,path,level=>lI c.t i λ m=>.node m λ nm =>
  if nm.kind=5 then wV c.t (path.getD (level-1) 0) i h ((level:Int)-1) λ _=>again
  else jE c i m h level λ r what=>if what=1 then(if r.eM=1 then pb c.t path h (K r) (path.length-1) else K r) else if what=0 then again else
   Es c i m (fT h level) gen λ b=>if b=0 then again else tF c h K again gen n b (path++[b]) (level+1)
def qJ(c:Cl)(h:Nat)(K:Rs->Tr):Nat->Tr
 | 0=>.stuck
 | n+1=>rY c.t λ i=>.node i λ ni=>tF c h K (qJ c h K n) ni.gen n i [i] 0
def Gf(root:Int)(ro:Bool):Rs:=⟨0,true,0,⟨#[]⟩,0,0,root,ro⟩
def H4(m:Int)(K:Rs->Tr):Tr:=.gen λ g=>.alloc (lO g) m λ r=>.cell r λ c=>K (Gf c false)
def Ea(t:eA)(fz:Bool)(K:Rs->Tr):Nat->Tr
 | 0=>.stuck
 | n+1=>rY t λ r=>lI t r λ m=>.gen λ g=>.alloc (lO g) m λ j=>tT t r m j λ ok =>
  if ok=true then(if fz=true then .cell r λ c=>K (Gf c true) else H4 m K) else Ea t fz K n
def rB(t:eA)(fz:Bool)(K:Rs->Tr)(n:Nat):Tr :=
 if t.ro=true then .load t.root λ r=>if fz=true then .cell r λ c=>K (Gf c true) else lI t r λ m=>H4 m K
 else Ea t fz K n
def tP(t:eA)(K:Rs->Tr):Nat->Tr
 | 0=>.stuck
 | n+1=>rY t λ r=>lI t r λ m=>.alloc E3 0 λ c=>.gen λ g=>.alloc (lO g) c λ j=>tT t r m j λ ok =>
  if ok=true then K (iK true 0) else tP t K n
def Kb(r:Int)(f:Bool):Rs:=⟨0,f,0,⟨#[]⟩,0,r,0,false⟩
def refuse(c:Cl):Int:=if c.kind=7∨c.kind=9 then(if c.key.size<=64 then 0 else 1) else if c.kind=8 then(if c.key.size<=64/\0<=c.Ge/\c.Ge<=3 then 0 else 1) else 0
def lA(c:Cl)(h:Nat)(n:Nat):Tr :=
 if refuse c≠0 then .done {Rs.zero with err:=refuse c}
 else if c.kind=1 then lI c.t c.a λ r=>.done (Kb r false)
 else if c.kind=2 then mX c.t c.a c.b c.n λ ok=>.done (Kb 0 ok)
 else if c.kind=3 then rY c.t λ r=>.done (Kb r false)
 else if c.kind=4 then tT c.t c.a c.b c.n λ ok=>.done (Kb 0 ok)
 else if c.kind=7 then rY c.t λ i=>Bl c.t h c.key .done n i 0
 else if c.kind=8 then Ak c h .done n
 else if c.kind=9 then qJ c h .done n
 else if c.kind=10 then rB c.t false .done n
 else if c.kind=11 then rB c.t true .done n
 else tP c.t .done n
end

/- An execution of the reference: its block, its own lists; the rules for calls of its methods. -/
section
open Go Go.RowKit Go.Ct
def xoC(k:Cl)(bm:Nat)(x:XS)(dn:Bool)(rs:Rs):List Value:=[.pointer (some ⟨bm,0,none⟩),
 .int .i64 k.kind,.int .i64 k.t.root,.bool k.t.ro,.int .i64 k.a,.int .i64 k.b,.int .i64 k.n,.int .i64 k.index,.int .u64 k.hash,.int .u64 k.mask,.string k.key,.int .u64 k.val,.int .u64 k.exp,.int .i64 k.Ge,.bool k.only,
 .bool false,.slice none 0 0,.slice none 0 0,.int .i64 0,.bool false,.int .u64 0,.string ⟨#[]⟩,.int .i64 0,.int .i64 0,.int .i64 0,.bool false,
 .slice x.pg x.got.length x.kg,.slice x.pm x.made.length x.km,.slice x.pl x.cel.length x.kl,.slice x.pe x.gns.length x.ke,
 .int .i64 ((x.a:Nat):Int),.int .i64 ((x.m:Nat):Int),.int .i64 ((x.c:Nat):Int),.int .i64 ((x.g:Nat):Int),.int .i64 ((x.fr:Nat):Int),.bool x.st,
 .int .i64 x.nx.k,.int .i64 x.nx.c,.int .i64 x.nx.o,.int .i64 x.nx.n,.bool dn,
 .int .i64 rs.err,.bool rs.found,.int .u64 rs.val,.string rs.key,.int .i64 rs.eM,.int .i64 rs.ref,.int .i64 rs.root,.bool rs.ro,
 .bool false,.slice none 0 0,.slice none 0 0]
abbrev xO(k:Cl)(bm:Nat)(x:XS)(dn:Bool)(rs:Rs):Obj:=.cells ⟨xoC k bm x dn rs⟩ 115 (0,0)
abbrev xM(x:XS):Obj:=mO x.L x.cs x.gen x.acc x.pn x.cn x.pc x.cc
abbrev xW(x:XS):List Ow:=[⟨x.pg,aG x.got,x.kg,62,1⟩,⟨x.pm,aG x.made,x.km,62,1⟩,⟨x.pl,aG x.cel,x.kl,27,1⟩,⟨x.pe,aG x.gns,x.ke,3,1⟩,⟨x.pn,gR x.L,x.cn,77,14⟩,⟨x.pc,aG x.cs,x.cc,62,1⟩]
abbrev xH(k:Cl)(bx bm:Nat)(x:XS)(dn:Bool)(rs:Rs):List (Nat×Obj):=[(bx,xO k bm x dn rs),(bm,xM x)]
theorem yt{w0 w:World}{D:List Nat}{k:Cl}{bx bm:Nat}{x:XS}{dn:Bool}{rs:Rs}{A F:Fr}(h:SF w0 D (xH k bx bm x dn rs) A F (xW x) w) :
  SF w0 D [(bx,.cells ⟨[.pointer (some ⟨bm,0,none⟩),
 .int .i64 k.kind,.int .i64 k.t.root,.bool k.t.ro,.int .i64 k.a,.int .i64 k.b,.int .i64 k.n,.int .i64 k.index,.int .u64 k.hash,.int .u64 k.mask,.string k.key,.int .u64 k.val,.int .u64 k.exp,.int .i64 k.Ge,.bool k.only,
 .bool false,.slice none 0 0,.slice none 0 0,.int .i64 0,.bool false,.int .u64 0,.string ⟨#[]⟩,.int .i64 0,.int .i64 0,.int .i64 0,.bool false,
 .slice x.pg x.got.length x.kg,.slice x.pm x.made.length x.km,.slice x.pl x.cel.length x.kl,.slice x.pe x.gns.length x.ke,
 .int .i64 ((x.a:Nat):Int),.int .i64 ((x.m:Nat):Int),.int .i64 ((x.c:Nat):Int),.int .i64 ((x.g:Nat):Int),.int .i64 ((x.fr:Nat):Int),.bool x.st,
 .int .i64 x.nx.k,.int .i64 x.nx.c,.int .i64 x.nx.o,.int .i64 x.nx.n,.bool dn,
 .int .i64 rs.err,.bool rs.found,.int .u64 rs.val,.string rs.key,.int .i64 rs.eM,.int .i64 rs.ref,.int .i64 rs.root,.bool rs.ro,
 .bool false,.slice none 0 0,.slice none 0 0]⟩ 115 (0,0)),(bm,mO x.L x.cs x.gen x.acc x.pn x.cn x.pc x.cc)] A F [⟨x.pg,aG x.got,x.kg,62,1⟩,⟨x.pm,aG x.made,x.km,62,1⟩,⟨x.pl,aG x.cel,x.kl,27,1⟩,⟨x.pe,aG x.gns,x.ke,3,1⟩,⟨x.pn,gR x.L,x.cn,77,14⟩,⟨x.pc,aG x.cs,x.cc,62,1⟩] w:=h
theorem bX{w0 w:World}{D:List Nat}{k:Cl}{bx bm:Nat}{x:XS}{dn:Bool}{rs:Rs}{A F:Fr}(h:SF w0 D (xH k bx bm x dn rs) A F (xW x) w) :
  SF w0 D [(bx,.cells ⟨xoC k bm x dn rs⟩ 115 (0,0)),(bm,mO x.L x.cs x.gen x.acc x.pn x.cn x.pc x.cc)] A F [⟨x.pg,aG x.got,x.kg,62,1⟩,⟨x.pm,aG x.made,x.km,62,1⟩,⟨x.pl,aG x.cel,x.kl,27,1⟩,⟨x.pe,aG x.gns,x.ke,3,1⟩,⟨x.pn,gR x.L,x.cn,77,14⟩,⟨x.pc,aG x.cs,x.cc,62,1⟩] w:=h
end

/- A store of several cells into a known block. -/
end Go.Proofs.YtadnboagdhcedaaGreatDoor
namespace Go.Ct
section
open Go Go.RowKit
section
variable{P:Program}{n:Nat}{ds:List Deferred}{Q:Exit->Act->World->Prop}{ks:List CK}{S:List (Nat×Value)}{G:World->Prop}{ops:Array Oper}{l:List Oper}
variable{w0:World}{M:List Nat}{H:List (Nat×Obj)}{A F:Fr}{O:List Ow}
variable{d:Nat}{ty t:TypeId}{pos:String}{af:Array Edge}{gd:Option (Nat×Bool)}{dst:Option Nat}{x y:Operand}{v:Value}{w w':World}
theorem pJ{b off i:Nat}{vs bM cs:List Value}{T:TypeId}{H':List (Nat×Obj)}(hx:ev S x=.pointer (some ⟨b,off,none⟩))(ha:At H i b (.cells ⟨bM⟩ T (0,0)))(hy:ev S y=.agg ⟨vs⟩)(h1:vs.all (·.oneCell')=true)
  (ht:jP P t vs.length=true) (hl:off+vs.length<=bM.length) (hcs:bM.take off++vs++bM.drop (off+vs.length)=cs) (hH:setAt H i (.cells ⟨cs⟩ T (0,0))=H') :
  bJ P S (St w0 M H) ⟨none,.store t x y,ty,pos,af,gd⟩ Unit (λ _=>undef) (λ _=>St w0 M H') :=
 uU (λ w hw=>by
  subst hH hcs
  have hb:=hw.at ha
  obtain⟨dd,hu,hm,hi⟩:=iF ht
  have hst:=run_storeCells_at (P:=P) b off T vs 0 ⟨bM⟩ w hb (by simpa using hl) (by simpa using h1)
  simp only[Nat.add_zero] at hst
  refine⟨w.setRow b ⟨bM.take off++vs++bM.drop (off+vs.length)⟩,?_,hw.write ha rfl rfl rfl (by simp) (λ k hk=>setRow_other w b k _ hk) (setRow_heap w b ⟨bM⟩ _ T (0,0) hb)⟩
  cases hq':P.info? t with
  | none=>rw[hq'] at hi;simp at hi
  | some inf =>
   have hs:inf.size=vs.length:=by rw[hq'] at hi;simpa using hi
   simp[execOp,hx,hy,Instr.storeAt,Instr.sureAddr,storeVar,sizeOf,typeInfo,hq',hs,Value.cells,hst])
end
end

end Go.Ct

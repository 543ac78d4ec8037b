/- The reference of dual: the nodes that are allocated for two keys. -/
import Derived.Test.YtbajmaoegmbfgaaGreatGVw1
import Derived.Test.YtbajmaoegmbfgaaGreatGBr
import Derived.Test.YtbajmaoegmbfgaaGreatGPa1
import Derived.Test.YtbajmaoegmbfgaaGreatGMst

set_option linter.unusedSimpArgs false
set_option linter.unusedVariables false
namespace Go.Ct
section
open Go Go.RowKit
def two(i k:Nat)(x s:Int):List Int:=if i<k then [x,s] else [s,x]
structure NI where
 n:Nd
 xs:List Int
 ys:List Pr
 init:Int
def AX.no:AX:=⟨none,0,none,0,none,0,none,0⟩
def NI.c(a:NI)(c:Nat):Nv:=(nX a.n a.xs a.ys c AX.no).c
abbrev Hb(h:Nat)(ys:List Pr):NI:=⟨{Nd.zero with kind:=6,hash:=(h:Int)},[],ys,0⟩
abbrev wJ(h:Nat)(k:ByteArray)(u:Int):NI:=⟨{Nd.zero with kind:=4,hash:=(h:Int),key:=k,val:=u},[],[],0⟩
abbrev qQ(gen m:Int):NI:=⟨{Nd.zero with kind:=2,gen:=gen},[],[],m⟩
abbrev Zu(b:Nat)(xs:List Int):NI:=⟨{Nd.zero with kind:=3,bm:=(b:Int)},xs,[],0⟩
def NI.no:NI:=⟨Nd.zero,[],[],0⟩
structure Jr(v:aP)(a:NI):Prop where
 xs:v.xs=a.xs
 ys:v.ys=a.ys
 kind:v.nd.kind=a.n.kind
 c:∀k,(nX v.nd v.xs v.ys k AX.no).c=a.c k
 fit:v.Fit
 sx:v.xs.length<=1000
 sy:v.ys.length<=1000
 c0:v.c=a.n.c a.xs a.ys
inductive oJ:List aP->List NI->Prop where
 | nil:oJ [] []
 | cons {v:aP} {a:NI} {L:List aP} {l:List NI} (h:Jr v a) (hr:oJ L l):oJ (v::L) (a::l)
theorem oJ.len{L:List aP}{l:List NI}(h:oJ L l):L.length=l.length:=by
 induction h with
 | nil=>rfl
 | cons _ _ ih=>simp[ih]
theorem oJ.append{L M:List aP}{l m:List NI}(h:oJ L l)(h2:oJ M m):oJ (L++M) (l++m):=by
 induction h with
 | nil=>exact h2
 | cons h _ ih=>exact .cons h ih
theorem oJ.at{L:List aP}{l:List NI}(h:oJ L l){i:Nat}(hi:i<L.length):∃a,l[i]?=some a/\Jr (L.getD i aP.zero) a:=by
 induction h generalizing i with
 | nil=>simp at hi
 | @cons v a L l h _ ih =>
  cases i with
  | zero=>exact⟨a,rfl,h⟩
  | succ i =>
   obtain⟨b,h1,h2⟩:=ih (i:=i) (by simpa using hi)
   exact⟨b,by simpa using h1,by simpa using h2⟩
def Gj(l:List NI):List Int:=l.map NI.init
theorem SF.aAg{w0 w:World}{M:List Nat}{H:List (Nat×Obj)}{A F:Fr}{O:List Ow}{f1 f2:Option Addr×List Value}(h:SF w0 M H A (f1::f2::F) O w):SF w0 M H A (f2::f1::F) O w:=h.eU λ f hf=>.inr (by
 simp only[List.mem_cons] at hf ⊢
 rcases hf with h|h|h
 ·exact .inr (.inl h)
 ·exact .inl h
 ·exact .inr (.inr h))
theorem SF.aA1{w0 w:World}{M:List Nat}{H:List (Nat×Obj)}{A F:Fr}{O:List Ow}{i c:Nat}{p:Option Addr}(h:SF w0 M H A F O w){l:List Int}{T:TypeId}(ho:wV O i p (aG l) c T 1):l.length<=c:=by
 rcases(h.own _ ho.mem).1 with⟨_,h2,_⟩|⟨b,rest,_,_,h3⟩
 ·have h2':aG l=[]:=h2
  have:(aG l).length=0:=by rw[h2'];rfl
  rw[iX] at this
  omega
 ·have h3':(aG l++rest).length=c*1:=h3
  rw[List.length_append,iX] at h3'
  omega
end
end Go.Ct
namespace Go.Proofs.YtbajmaoegmbfgaaGreat
section
open Go Go.RowKit Go.Ct
def dN(x:Int)(h0 h:Nat)(p0:Pr)(k:ByteArray)(u gen:Int)(f:Nat):Nat->Nat->List NI
 | 0,lvl=>if lvl=11 then [Hb h (Dk [p0,(k,u)])] else [wJ h k u,Zu (dR (dR 0 (sl h0 lvl:Int)) (sl h lvl:Int)) (two (sl h0 lvl) (sl h lvl) x (f:Int))]
 | n+1,lvl=>dN x h0 h p0 k u gen f n (lvl+1)++[qQ gen ((f-1+(dN x h0 h p0 k u gen f n (lvl+1)).length:Nat):Int),Zu (dR 0 (sl h lvl:Int)) [((f+(dN x h0 h p0 k u gen f n (lvl+1)).length:Nat):Int)]]
theorem Rv{x:Int}{h0 h:Nat}{p0:Pr}{k:ByteArray}{u gen:Int}{f:Nat}:∀n lvl,(dN x h0 h p0 k u gen f n lvl).length<=2+2*n
 | 0,lvl=>by
  unfold dN
  split<;>simp
 | n+1,lvl=>by
  have:=Rv (x:=x) (h0:=h0) (h:=h) (p0:=p0) (k:=k) (u:=u) (gen:=gen) (f:=f) n (lvl+1)
  unfold dN
  simp only[List.length_append,List.length_cons,List.length_nil]
  omega
theorem o8{i k:Nat}(hi:i<64)(hk:k<64)(hne:i≠k)(a b:Int)(w:World) :
  Calls Tryz.prog 261 #[.int .i64 (i:Int),.int .i64 a,.int .i64 (k:Int),.int .i64 b] w λ e w'=>∃p:Option Addr,e=.returned (.agg ⟨[.int .i64 3,.int .i64 0,.int .i64 0,.int .u64 ((dR (dR 0 (i:Int)) (k:Int):Nat):Int),.slice p 2 2,.int .u64 0,.string ⟨#[]⟩,.int .u64 0,.slice none 0 0,.int .i64 0,.int .i64 0,.int .i64 0,.int .i64 0,.int .i64 0]⟩)/\True/\SF w [] [] [] [(p,aG (two i k a b))] [] w':=by
 refine enter Tryz.func261 Tryz.ntmps261 rfl rfl (SF.s0 w) ?_
 simp only[cD]
 refine J0 ?_;refine aJ (λ x8=>?_);refine aH ?_;refine J2 ?_;refine aN (cV (hc:=λ w1 hw=>nE (n:=0) (by decide) (i:Int) w1)) (λ x11=>?_);refine aA ?_;refine aN (cV (hc:=λ w1 hw=>nE (n:=dR 0 (i:Int)) (zU (by decide) _) (k:Int) w1)) (λ x13=>?_);refine pD ?_;refine eZ (λ x16=>?_);refine bM ?_;refine aJ (λ x9=>?_);refine J5 ?_;refine A6 ?_;refine Cf ?_
 refine aZ (λ c20=>?_) (λ c20=>?_)
 ·refine Ih ?_;refine eZ (λ x23=>?_);refine uS ?_;refine oC ?_;refine J5 ?_
  refine aY Tryz.results261 (λ w hw=>?_)
  first
  | exact⟨some ⟨x23,0,none⟩,rfl,trivial,by rw[show two i k a b=[b,a] from if_neg (by omega)];exact hw.ret (List.nil_sublist _) (aW.iI λ f hf=>by rw[List.mem_singleton.1 hf];exact .head _) (List.Sublist.refl _)⟩
  | exact⟨some ⟨x16,0,none⟩,rfl,trivial,by rw[show two i k a b=[a,b] from if_pos (by omega)];exact hw.ret (List.nil_sublist _) (aW.iI λ f hf=>by rw[List.mem_singleton.1 hf];exact .head _) (List.Sublist.refl _)⟩
 ·refine aX ?_;refine oC ?_;refine J5 ?_
  refine aY Tryz.results261 (λ w hw=>?_)
  first
  | exact⟨some ⟨x16,0,none⟩,rfl,trivial,by rw[show two i k a b=[a,b] from if_pos (by omega)];exact hw.ret (List.nil_sublist _) (aW.iI λ f hf=>by rw[List.mem_singleton.1 hf];exact .head _) (List.Sublist.refl _)⟩
theorem ki{l:List Pr}{a:Option Addr}{c:Nat}{w:World}(ha:Cl w a (cR l))(hlen:l.length<=200000000000) :
  Calls Tryz.prog 61 #[.slice a l.length c] w λ e w'=>∃x:Option Addr×Nat,e=.returned (.slice x.1 (Dk l).length x.2)/\(Dk l).length<=x.2/\SF w [] [] [] [(x.1,cR (Dk l))] [] w':=(ra ha hlen).mono λ _ _ h=>h
theorem De{h l:Nat}{i:Int}(hi:i=(l:Int))(hh:h<18446744073709551616)(hl:l<=10)(w:World):Calls Tryz.prog 218 #[.int .u64 (h:Int),.int .i64 i] w λ e w'=>e=.returned (.int .i64 ((sl h l:Nat):Int))/\St w [] [] w':=by
 subst hi
 exact pW hh hl w
abbrev K3(h:Nat)(ys:List Pr)(p:Option Addr)(c:Nat):aP:=⟨{Nd.zero with kind:=6,hash:=(h:Int),prA:=p,prN:=ys.length,cR:=c},[],ys⟩
abbrev zM(h:Nat)(k:ByteArray)(u:Int):aP:=⟨{Nd.zero with kind:=4,hash:=(h:Int),key:=k,val:=u},[],[]⟩
abbrev xF(gen:Int):aP:=⟨{Nd.zero with kind:=2,gen:=gen},[],[]⟩
abbrev mb(n b:Nat)(xs:List Int)(p:Option Addr):aP:=⟨{Nd.zero with kind:=3,bm:=(b:Int),brA:=p,brN:=n,brC:=n},xs,[]⟩
theorem z35:(0:Nat)<=35184372088832:=Nat.zero_le _
theorem z11:(0:Nat)<=11728124029610:=Nat.zero_le _
theorem rb{h:Nat}{ys:List Pr}{p:Option Addr}{c:Nat}(hy:ys.length<=1000):Jr (K3 h ys p c) (Hb h ys):=⟨rfl,rfl,rfl,λ _=>rfl,⟨rfl,rfl,z35,by show ys.length<=_;omega⟩,Nat.zero_le _,hy,rfl⟩
theorem Xj{h:Nat}{k:ByteArray}{u:Int}:Jr (zM h k u) (wJ h k u):=⟨rfl,rfl,rfl,λ _=>rfl,⟨rfl,rfl,z35,z11⟩,Nat.zero_le _,Nat.zero_le _,rfl⟩
theorem jq{gen m:Int}:Jr (xF gen) (qQ gen m):=⟨rfl,rfl,rfl,λ _=>rfl,⟨rfl,rfl,z35,z11⟩,Nat.zero_le _,Nat.zero_le _,rfl⟩
theorem aAE{n b:Nat}{xs:List Int}{p:Option Addr}(hn:n=xs.length)(hx:xs.length<=1000):Jr (mb n b xs p) (Zu b xs):=⟨rfl,rfl,rfl,λ _=>rfl,⟨hn,rfl,by show xs.length<=_;omega,z11⟩,hx,Nat.zero_le _,rfl⟩
structure RX where
 L:List aP
 ini:List Int
 pn:Option Addr
 cn:Nat
 pc:Option Addr
 cc:Nat
structure Il(r:RX)(l:List NI):Prop where
 m:oJ r.L l
 ini:r.ini=Gj l
theorem Il.len{r:RX}{l:List NI}(h:Il r l):r.L.length=l.length/\r.ini.length=l.length:=⟨h.m.len,by rw[h.ini];simp[Gj]⟩
theorem Il.push{r:RX}{l:List NI}(h:Il r l){gen m:Int}{n b:Nat}{xs:List Int}{p pn pc:Option Addr}{cn cc:Nat}(hn:n=xs.length)(hx:xs.length<=1000):Il ⟨r.L++[xF gen,mb n b xs p],r.ini++[m,0],pn,cn,pc,cc⟩ (l++[qQ gen m,Zu b xs]) :=
 ⟨h.m.append (.cons jq (.cons (aAE hn hx) .nil)),by show r.ini++_=_;rw[h.ini];simp[Gj,qQ,Zu]⟩
theorem S3{L:List aP}{gen:Int}{b:Nat}{r:Int}{p:Option Addr}{F:Fr}{f:Option Addr×List Value}(hf:f∈aM (L++[xF gen,mb 1 b [r] p]))(h1:(p,aG [r])∈F)(h2:f∈aM L->f∈F):f.2=[]∨f∈F:=by
 simp only[aM,List.flatMap_append] at hf
 rcases List.mem_append.1 hf with hf|hf
 ·exact .inr (h2 hf)
 ·simp[aP.fr] at hf
  rcases hf with rfl|rfl|rfl|rfl
  ·exact .inl rfl
  ·exact .inl rfl
  ·exact .inr h1
  ·exact .inl rfl
variable{v:aP}{at':Int}{h0 h:Nat}{k:ByteArray}{u gen:Int}{fi lvl:Nat}
abbrev dQ(at':Int)(h0 h:Nat)(v:aP)(k:ByteArray)(u gen:Int)(fi:Nat)(n:Nat):List NI:=dN at' h0 h (v.nd.key,v.nd.val) k u gen fi n (kW h0 h-n)
theorem ou{n:Nat}(hn:n<kW h0 h):dQ at' h0 h v k u gen fi (n+1)=dQ at' h0 h v k u gen fi n++[qQ gen ((fi-1+(dQ at' h0 h v k u gen fi n).length:Nat):Int),Zu (dR 0 (sl h (kW h0 h-(n+1)):Int)) [((fi+(dQ at' h0 h v k u gen fi n).length:Nat):Int)]]:=by
 have e:kW h0 h-(n+1)+1=kW h0 h-n:=by omega
 unfold dQ
 rw[dN,e]
theorem xa{x y z:Option Addr}{c a b:Nat}(hc:kW h0 h=11):Il ⟨[K3 h (Dk [(v.nd.key,v.nd.val),(k,u)]) z c],[0],x,a,y,b⟩ (dQ at' h0 h v k u gen fi 0):=by
 have e:dQ at' h0 h v k u gen fi 0=[Hb h (Dk [(v.nd.key,v.nd.val),(k,u)])]:=by
  unfold dQ dN
  exact if_pos hc
 rw[e]
 exact⟨.cons (rb (Nat.le_trans (Vd _) (by simp))) .nil,rfl⟩
theorem vv{x y p:Option Addr}{a b:Nat}(hc:kW h0 h≠11):Il ⟨[zM h k u,mb 2 (dR (dR 0 (sl h0 (kW h0 h):Int)) (sl h (kW h0 h):Int)) (two (sl h0 (kW h0 h)) (sl h (kW h0 h)) at' (fi:Int)) p],[0,0],x,a,y,b⟩ (dQ at' h0 h v k u gen fi 0):=by
 have e:dQ at' h0 h v k u gen fi 0=[wJ h k u,Zu (dR (dR 0 (sl h0 (kW h0 h):Int)) (sl h (kW h0 h):Int)) (two (sl h0 (kW h0 h)) (sl h (kW h0 h)) at' (fi:Int))]:=by
  unfold dQ dN
  exact if_neg hc
 rw[e]
 exact⟨.cons Xj (.cons (aAE (by unfold two;split<;>rfl) (by unfold two;split<;>simp)) .nil),rfl⟩
theorem Yt(hv:v.nd.hash=(h0:Int))(hh0:h0<18446744073709551616)(hh:h<18446744073709551616)(hf1:1<=fi)(hf2:fi<=274877906944)(w:World) :
    Calls Tryz.prog 257 #[.agg ⟨v.nd.cells⟩,.int .i64 at',.int .u64 (h:Int),.string k,.int .u64 u,.int .i64 (lvl:Int),.int .i64 gen,.int .i64 (fi:Int)] w λ e w' =>
      ∃d:RX,e=.returned (.tuple #[.slice d.pn d.L.length d.cn,.slice d.pc d.ini.length d.cc]) /\
      (Il d (dQ at' h0 h v k u gen fi (kW h0 h-lvl))/\d.L.length<=d.cn/\d.ini.length<=d.cc) /\
      SF w [] [] [] ((d.pn,iY d.L)::(d.pc,aG d.ini)::aM d.L) [] w':=by
  have hcl:=yZ h0 h
  refine enter Tryz.func257 Tryz.ntmps257 rfl rfl (SF.s0 w) ?_
  simp only[cD]
  refine J0 ?_;refine bK (λ x8=>?_);refine J8 ?_;refine hZ ?_;refine aA ?_;refine aN (cV (hc:=λ w1 hw=>by rw[hv];exact Qf hh0 hh w1)) (λ x26=>?_);refine iO ?_
  refine eQ [16,17,18,19,27,28,29,30,31,32,33,34,35,36,37,38,39,40,41,42,43,44,45,46,47,48,49,50,51,52,53,54,55,56,57,58,59] (λ q:RX=>[(16,.slice q.pn q.L.length q.cn),(17,.slice q.pc q.ini.length q.cc),(18,.int .i64 ((kW h0 h:Nat):Int))]) (λ q=>Il q (dQ at' h0 h v k u gen fi 0)/\q.L.length<=2) (λ q=>[]) (λ q=>aM q.L) (λ q=>[⟨q.pn,iY q.L,q.cn,47,14⟩,⟨q.pc,aG q.ini,q.cc,37,1⟩]) (by decide) (λ _=>by exact rfl) ?_ (λ q f hx=>?_)
  · refine aS ?_
    refine Aa ?_;refine nT ?_;refine aH ?_
    refine aZ (λ c28=>?_) (λ c28=>?_)
    · refine hZ ?_;refine J3 ?_;refine bM ?_;refine pD ?_;refine bM ?_;refine eZ (λ x37=>?_);refine aD (cF (V:=λ x:Option Addr×Nat=>.slice x.1 (Dk [(v.nd.key,v.nd.val),(k,u)]).length x.2) (hc:=λ w1 hw=>ki (l:=[(v.nd.key,v.nd.val),(k,u)]) (hw.cl (.new .head)) (by simp))) (λ x38 h38=>?_);refine zI ?_;refine bM ?_;refine aN (Q2 (c:=1) (sz:=14) rfl (λ _=>cN (cs:=iY [K3 h (Dk [(v.nd.key,v.nd.val),(k,u)]) x38.1 x38.2]) rE Je rfl rfl rfl rfl rfl)) (λ x42=>?_);refine aN (Q2 (c:=1) (sz:=1) rfl (λ _=>cN (cs:=aG [0]) pR Je rfl rfl rfl rfl rfl)) (λ x43=>?_);refine J8 ?_;refine dI ?_;refine J1 ?_
      refine fC ((⟨[K3 h (Dk [(v.nd.key,v.nd.val),(k,u)]) x38.1 x38.2],[0],some ⟨x42,0,none⟩,1,some ⟨x43,0,none⟩,1⟩:RX)) ?_ (hw1:=λ w hw=>(hw.Zr.eU λ f hf=>by simp[aM,aP.fr] at hf;rcases hf with rfl|rfl;exact .inl rfl;exact .inr (.head _)).sub (List.nil_sublist _) aW.all (List.Sublist.refl _))
      · have hne:kW h0 h=11:=by omega
        exact⟨xa hne,Nat.le_succ 1⟩
    · refine jA ?_;refine aA ?_;refine bM ?_;refine J3 ?_;refine aA ?_;refine aN (cV (hc:=λ w1 hw=>by rw[hv];exact pW (l:=kW h0 h) hh0 (by omega) w1)) (λ x51=>?_);refine pD ?_;refine aA ?_;refine aN (cV (hc:=λ w1 hw=>pW (l:=kW h0 h) hh (by omega) w1)) (λ x55=>?_);refine aA ?_;refine aD (cF (hc:=λ w1 hw=>o8 (yC h0 (kW h0 h)) (yC h (kW h0 h)) (Lj (h:=h0) (k:=h) (by omega)) at' (fi:Int) w1)) (λ x57 h57=>?_);refine aN (Q2 (c:=2) (sz:=14) rfl (λ _=>cN (cs:=iY [zM h k u,mb 2 (dR (dR 0 (sl h0 (kW h0 h):Int)) (sl h (kW h0 h):Int)) (two (sl h0 (kW h0 h)) (sl h (kW h0 h)) at' (fi:Int)) x57]) rE Je rfl rfl rfl rfl rfl)) (λ x58=>?_);refine J1 ?_;refine dI ?_;refine aN (Q2 (c:=2) (sz:=1) rfl (λ _=>cN (cs:=aG [0,0]) pR Je rfl rfl rfl rfl rfl)) (λ x59=>?_);refine J1 ?_
      refine fC ((⟨[zM h k u,mb 2 (dR (dR 0 (sl h0 (kW h0 h):Int)) (sl h (kW h0 h):Int)) (two (sl h0 (kW h0 h)) (sl h (kW h0 h)) at' (fi:Int)) x57],[0,0],some ⟨x58,0,none⟩,2,some ⟨x59,0,none⟩,2⟩:RX)) ?_ (hw1:=λ w hw=>(hw.Zr.eU λ f hf=>by simp[aM,aP.fr] at hf;rcases hf with rfl|rfl|rfl|rfl;exact .inl rfl;exact .inl rfl;exact .inr (.head _);exact .inl rfl).sub (List.nil_sublist _) aW.all (List.Sublist.refl _))
      · have hne:kW h0 h≠11:=by omega
        exact⟨vv hne,Nat.le_refl 2⟩
  dsimp only[iA,List.map,List.cons_append,List.nil_append]
  refine kX ?_;refine rM ?_;refine J1 ?_;refine cZ ?_
  have hq2:=hx.1.len
  refine oI [16,17,20,21,22,62,63,64,65,66,67,68,69,70,71,72,73,74,75,76,77,78,79,80,81,82,83,84,85,86,87,88,89] (λ y:Nat×RX=>[(16,.slice y.2.pn y.2.L.length y.2.cn),(17,.slice y.2.pc y.2.ini.length y.2.cc),(20,.int .i64 (((kW h0 h-y.1:Nat):Int)-1))]) (λ y=>y.1<=kW h0 h-lvl/\Il y.2 (dQ at' h0 h v k u gen fi y.1)/\y.2.L.length<=2+2*y.1) (λ _=>_) (λ y=>aM y.2.L) (λ y=>[⟨y.2.pn,iY y.2.L,y.2.cn,47,14⟩,⟨y.2.pc,aG y.2.ini,y.2.cc,37,1⟩]) (λ y=>kW h0 h-lvl-y.1) ((0,q)) (⟨Nat.zero_le _,hx⟩) (λ y f hx=>?_) (hw0:=λ w hw=>hw.sub (List.Sublist.refl _) aW.all (List.Sublist.refl _))
  dsimp only[iA,List.map,List.cons_append,List.nil_append]
  obtain⟨hy1,hy2,hy3⟩:=hx
  obtain⟨hy4,hy5⟩:=hy2.len
  refine A6 ?_;refine nT ?_;refine aH ?_
  refine aZ (λ c64=>?_) (λ c64=>?_)
  · obtain⟨lv,elv⟩:∃lv:Nat,kW h0 h-(y.1+1)=lv:=⟨_,rfl⟩
    have elv2:(((kW h0 h-y.1:Nat):Int)-1)=(lv:Int):=by omega
    have hlv2:lv<=10:=by omega
    refine rR ?_;refine jA ?_;refine dJ ?_;refine aC (oK rf rf (by omega)) rfl ?_;refine aC (jJ (n:=1) rf rf (by omega) (by omega)) rfl ?_;refine zI ?_;refine aN (cV (hc:=λ w1 hw=>De elv2 hh hlv2 w1)) (λ x74=>?_);refine zI ?_;refine bM ?_;refine aA ?_;refine aN (cV (hc:=λ w1 hw=>nE (n:=0) (by decide) (sl h lv:Int) w1)) (λ x79=>?_);refine aA ?_;refine aC (oK (n:=1) rf rf (by omega)) rfl ?_;refine aN (Li (λ _=>cN (cs:=aG [((fi+y.2.L.length-1+1:Nat):Int)]) pR Je rfl rfl rfl rfl rfl)) (λ x82=>?_);refine bM ?_;refine aN (Li (λ _=>cN (cs:=iY [xF gen,mb 1 (dR 0 (sl h lv:Int)) [((fi+y.2.L.length-1+1:Nat):Int)] (some ⟨x82,0,none⟩)]) rE Je rfl rfl rfl rfl rfl)) (λ x84=>?_);(refine aN (bC.eN (dg (k:=2) (L2:=[xF gen,mb 1 (dR 0 (sl h lv:Int)) [((fi+y.2.L.length-1+1:Nat):Int)] (some ⟨x82,0,none⟩)]) rf rf yO rfl fin rfl Ns rfl gA (by omega)) uR) (λ x85=>?_);try (refine eR (λ h85=>?_)));refine J1 ?_;refine Ih ?_;refine aN (Li (λ _=>cN (cs:=aG [((fi+y.2.L.length-1:Nat):Int),0]) pR Je rfl rfl rfl rfl rfl)) (λ x88=>?_);(refine aN (bC.eN (S6 (k:=2) (l2:=[((fi+y.2.L.length-1:Nat):Int),0]) rf rf yO rfl fin rfl Yd gA (by omega)) uR) (λ x89=>?_);try (refine eR (λ h89=>?_)));refine J1 ?_;refine fF ?_;refine Aa ?_;refine rM ?_;refine J1 ?_
    refine jG ((y.1+1,(⟨y.2.L++[xF gen,mb 1 (dR 0 (sl h lv:Int)) [((fi+y.2.L.length-1+1:Nat):Int)] (some ⟨x82,0,none⟩)],y.2.ini++[((fi+y.2.L.length-1:Nat):Int),0],x85.1,x85.2,x89.1,x89.2⟩:RX))) ?_ (hw1:=λ w hw=>hw.eU λ f hf=>S3 hf (.tail _ (.tail _ (.head _))) (λ hf=>.tail _ (.tail _ (.tail _ hf))))
    · refine⟨by omega,?_,by simp only[List.length_append,List.length_cons,List.length_nil];omega⟩
      have e1:dQ at' h0 h v k u gen fi (y.1+1)=dQ at' h0 h v k u gen fi y.1++[qQ gen ((fi+y.2.L.length-1:Nat):Int),Zu (dR 0 (sl h lv:Int)) [((fi+y.2.L.length-1+1:Nat):Int)]]:=by
       rw[ou (by omega),elv,<- hy4,show fi-1+y.2.L.length=fi+y.2.L.length-1 by omega,show fi+y.2.L.length-1+1=fi+y.2.L.length by omega]
      rw[e1]
      exact hy2.push rfl (by simp)
  · have en:y.1=kW h0 h-lvl:=by omega
    refine bR rfl ?_;refine jA ?_;refine J8 ?_
    refine aY Tryz.results257 (λ w hw=>?_)
    refine⟨y.2,rfl,⟨?_,?_,?_⟩,?_⟩
    · rw[<- en]
      exact hy2
    · exact hw.yq .head
    · exact hw.aA1 (.tail .head)
    · exact((hw.freeze .head).freeze .head).aAg.ret (List.nil_sublist _) aW.all (List.nil_sublist _)
end

/- The procedures with shared cells, as trees. -/
end Go.Proofs.YtbajmaoegmbfgaaGreat
namespace Go.Ct
section
def NI.c0(a:NI):Nv:=a.n.c a.xs a.ys
end
end Go.Ct
namespace Go.Proofs.YtbajmaoegmbfgaaGreat
section
open Go.RowKit Go.Ct
structure fG where
 root:Int
 ro:Bool
structure Cl where
 kind:Int
 t:fG
 a:Int
 b:Int
 n:Int
 index:Int
 hash:Int
 mask:Int
 key:ByteArray
 val:Int
 exp:Int
 Ia:Int
 only:Bool
def gS(h:Nat)(level:Int):Int:=if level<0∨10<level then 0 else(sl h level.toNat:Int)
def tT(p:Int):Nv:=({Nd.zero with kind:=7,bJ:=p}:Nd).c [] []
def tM(g:Int):Nv:=({Nd.zero with kind:=2,gen:=g}:Nd).c [] []
def Cw(a b c:Int):Nv:=({Nd.zero with kind:=8,bJ:=a,exp:=b,new:=c}:Nd).c [] []
def Gm(h:Int)(k:ByteArray)(u:Int):Nv:=({Nd.zero with kind:=4,hash:=h,key:=k,val:=u}:Nd).c [] []
def K2:Nv:=({Nd.zero with kind:=3}:Nd).c [] []
def vg(v s:Int)(K:Int->Tr):Tr:=.node v λ n=>K (if s=1 then n.new else n.bJ)
def uF(t:fG)(v s:Int)(K:Int->Tr):Tr:=vg v s λ w=>.jP t.root v w λ _=>K w
def yK(t:fG)(K:Int->Tr):Tr:=.load t.root λ v=>.node v λ n=>if n.kind=2 then K v else .node v λ n=>.load n.status λ s =>
 if s=0 then .node v λ n=>.jP n.status 0 2 λ _=>.node v λ n=>.load n.status λ s=>uF t v s K else uF t v s K
def Bm(i m p:Int)(K:Int->Tr):Tr:=.node i λ ni=>.node p λ np=>.jP ni.main m np.bJ λ _=>.node p λ np=>K np.bJ
def jF(i m:Int)(K:Int->Tr):Tr:=.node m λ nm=>.load nm.prev λ p=>if p=0 then K m else Bm i m p K
def gP(i m p:Int)(c:Bool)(K:Int->Tr):Tr :=
 if c=true then .node m λ nm=>.jP nm.prev p 0 λ _=>jF i m K
 else .node m λ nm=>.alloc (tT p) 0 λ f=>.jP nm.prev p f λ _=>jF i m K
def nP(t:fG)(i m:Int)(K:Int->Tr):Tr:=.node m λ nm=>.load nm.prev λ p=>if p=0 then K m else .node p λ np =>
 if bV np then(if t.ro=true then gP i m p false K else yK t λ r=>.node r λ nr=>.node i λ ni=>gP i m p (nr.gen==ni.gen) K)
 else Bm i m p K
def jR(t:fG)(i:Int)(K:Int->Tr):Tr:=.node i λ ni=>.load ni.main λ m=>nP t i m K
def zN(t:fG)(v:Int)(K:Tr):Tr:=.node v λ n=>jR t n.bJ λ r=>.node v λ n2=>.node v λ n3=>.jP n3.status 0 (if r=n2.exp then 1 else 2) λ _=>K
def xX(t:fG)(K:Int->Tr):Tr:=.load t.root λ v=>.node v λ n=>if n.kind=2 then K v else .node v λ n=>.load n.status λ s =>
 if s=0 then zN t v (.node v λ n=>.load n.status λ s=>uF t v s K) else uF t v s K
def jD(t:fG)(i bJ n:Int)(K:Bool->Tr):Tr:=.node i λ ni=>.jP ni.main bJ n λ b=>if b=true then nP t i n λ m=>K (m==n) else K false
def Bq(t:fG)(bJ exp new:Int)(K:Bool->Tr):Tr:=.alloc (Cw bJ exp new) 0 λ d=>.jP t.root bJ d λ b =>
 if b=true then zN t d (.node d λ nd=>.load nd.status λ s=>uF t d s λ _=>K (s==1)) else K false
noncomputable def Ht (c index r:Int) (K:Int->Tr):Tr:=.node c λ nc=>.alloc (jm nc index r) c K
noncomputable def Kt (t:fG) (i c index:Int) (K:Int->Tr):Tr:=.node c λ nc=>jR t ((lT nc index).getD 0) λ m=>.node i λ ni=>.alloc (tM ni.gen) m λ j =>
 Ht c index j λ r=>jD t i c r λ ok=>K (if ok=true then j else 0)
noncomputable def yX (t:fG) (parent child:Int) (h:Nat) (level:Int) (K:Bool->Tr):Tr:=jR t parent λ m=>.node m λ nm =>
 if lT nm (gS h level)=some child then jR t child λ mc=>.node mc λ nmc =>
  if nmc.kind=5 then .alloc (y0 nmc) 0 λ s=>.node m λ nm2=>.alloc (xp (jm nm2 (gS h level) s) level (y0 nmc)) m λ r=>jD t parent m r K
  else K false
 else K false
def jQ(f:Bool)(v:Int):Rs:=⟨0,f,v,⟨#[]⟩,0,0,0,false⟩
def sA(f:Bool)(v:Int):Rs:=⟨0,f,v,⟨#[]⟩,1,0,0,false⟩
noncomputable def Dg (t:fG) (h:Nat) (key:ByteArray) (K:Rs->Tr):Nat->Int->Int->Tr
 | 0,_,_=>.stuck
 | n+1,i,level=>jR t i λ mr=>.node mr λ m =>
  if m.kind=5 then(if m.key=key then K (jQ true m.val) else K (jQ false 0))
  else if m.kind=6 then K (jQ (dO m.ys key).isSome ((dO m.ys key).getD 0))
  else match lT m (gS h level) with
   | none=>K (jQ false 0)
   | some b=>.node b λ s=>if s.kind=4 then(if s.key=key then K (jQ true s.val) else K (jQ false 0)) else Dg t h key K n b (level+1)
def oA(c:Cl)(found:Bool)(v:Int):Bool:=if c.Ia=1 then !found else if c.Ia=2 then found else if c.Ia=3 then found&&v==c.exp else true
def Ak:List NI->Int->(Int->Tr)->Tr
 | [],r,K=>K r
 | a::l,_,K=>.alloc a.c0 a.init λ r=>Ak l r K
def dP(at_:Int)(h0 h:Nat)(p:Pr)(k:ByteArray)(u gen:Int)(fi lvl:Nat):List NI:=dN at_ h0 h p k u gen fi (kW h0 h-lvl) (kW h0 h-(kW h0 h-lvl))
def Ud(c:Cl)(b:Int)(h:Nat)(level:Nat)(gen:Int)(K:Int->Tr):Tr:=.node b λ nb =>
 .alloc ((dP b nb.hash.toNat h (nb.key,nb.val) c.key c.val gen 0 level).headD NI.no).c0 ((dP b nb.hash.toNat h (nb.key,nb.val) c.key c.val gen 0 level).headD NI.no).init λ f =>
 Ak (dP b nb.hash.toNat h (nb.key,nb.val) c.key c.val gen f.toNat level).tail f K
noncomputable def lV (c:Cl) (i m:Int) (h:Nat) (level:Nat) (gen:Int) (K:Rs->Int->Tr):Tr:=.node m λ n =>
 if n.kind=6 then
  (if oA c (dO n.ys c.key).isSome ((dO n.ys c.key).getD 0)=true then
   .alloc (u6 n c.key c.val) m λ r=>jD c.t i m r λ ok=>K (sA (dO n.ys c.key).isSome ((dO n.ys c.key).getD 0)) (if ok=true then 1 else 0)
  else K (jQ (dO n.ys c.key).isSome ((dO n.ys c.key).getD 0)) 1)
 else match lT n (gS h level) with
  | none=>if oA c false 0=true then .alloc (Gm h c.key c.val) 0 λ s=>.alloc (wz n (gS h level) s) m λ r=>jD c.t i m r λ ok=>K (sA false 0) (if ok=true then 1 else 0) else K (jQ false 0) 1
  | some b=>.node b λ nb=>if nb.kind=2 then K Rs.zero 2 else
   if nb.key=c.key then
    (if oA c true nb.val=true then .alloc (Gm h c.key c.val) 0 λ s=>Ht m (gS h level) s λ r=>jD c.t i m r λ ok=>K (sA true nb.val) (if ok=true then 1 else 0)
    else K (jQ true nb.val) 1)
   else
    (if oA c false 0=true then Ud c b h (level+1) gen λ d=>.alloc (tM gen) d λ j=>Ht m (gS h level) j λ r=>jD c.t i m r λ ok=>K (sA false 0) (if ok=true then 1 else 0)
    else K (jQ false 0) 1)
noncomputable def Ep (c:Cl) (i m index gen:Int) (K:Int->Tr):Tr:=.node m λ nm=>.node ((lT nm index).getD 0) λ nb=>if nb.gen=gen then K ((lT nm index).getD 0) else Kt c.t i m index K
noncomputable def Cr (c:Cl) (h:Nat) (K:Rs->Tr) (again:Tr) (gen:Int):Nat->Int->Int->Nat->Tr
 | 0,_,_,_=>.stuck
 | n+1,i,parent,level=>jR c.t i λ m=>.node m λ nm =>
  if nm.kind=5 then yX c.t parent i h ((level:Int)-1) λ _=>again
  else lV c i m h level gen λ r what=>if what=1 then K r else if what=0 then again else
   Ep c i m (gS h level) gen λ b=>if b=0 then again else Cr c h K again gen n b i (level+1)
noncomputable def Ew (c:Cl) (h:Nat) (K:Rs->Tr):Nat->Tr
 | 0=>.stuck
 | n+1=>xX c.t λ i=>.node i λ ni=>Cr c h K (Ew c h K n) ni.gen n i 0 0
noncomputable def kE (c:Cl) (i m:Int) (h:Nat) (level:Nat) (K:Rs->Int->Tr):Tr:=.node m λ n =>
 if n.kind=6 then
  (if(dO n.ys c.key).isSome=false∨(c.only=true/\(dO n.ys c.key).getD 0≠c.exp) then K (jQ (dO n.ys c.key).isSome ((dO n.ys c.key).getD 0)) 1
  else .alloc (ov n c.key) m λ r=>jD c.t i m r λ ok=>K (sA true ((dO n.ys c.key).getD 0)) (if ok=true then 1 else 0))
 else match lT n (gS h level) with
  | none=>K (jQ false 0) 1
  | some b=>.node b λ s=>if s.kind=2 then K Rs.zero 2 else if s.key≠c.key then K (jQ false 0) 1 else if c.only=true/\s.val≠c.exp then K (jQ true s.val) 1
   else .node ((L0 (Mt n (gS h level))).getD 0) λ so=>.alloc (xp (Mt n (gS h level)) level so) m λ r=>jD c.t i m r λ ok=>K (sA true s.val) (if ok=true then 1 else 0)
noncomputable def tc (t:fG) (path:List Int) (h:Nat) (K:Tr):Nat->Tr
 | 0=>K
 | l+1=>jR t (path.getD (l+1) 0) λ m=>.node m λ nm=>if nm.kind=5 then yX t (path.getD l 0) (path.getD (l+1) 0) h (l:Int) λ _=>tc t path h K l else K
noncomputable def vX (c:Cl) (h:Nat) (K:Rs->Tr) (again:Tr) (gen:Int):Nat->Int->List Int->Nat->Tr
 | 0,_,_,_=>.stuck
 | n+1,i,path,level=>jR c.t i λ m=>.node m λ nm =>
  if nm.kind=5 then yX c.t (path.getD (level-1) 0) i h ((level:Int)-1) λ _=>again
  else kE c i m h level λ r what=>if what=1 then(if r.gJ=1 then tc c.t path h (K r) (path.length-1) else K r) else if what=0 then again else
   Ep c i m (gS h level) gen λ b=>if b=0 then again else vX c h K again gen n b (path++[b]) (level+1)
noncomputable def vY (c:Cl) (h:Nat) (K:Rs->Tr):Nat->Tr
 | 0=>.stuck
 | n+1=>xX c.t λ i=>.node i λ ni=>vX c h K (vY c h K n) ni.gen n i [i] 0
def Ol(root:Int)(ro:Bool):Rs:=⟨0,true,0,⟨#[]⟩,0,0,root,ro⟩
def Oi(m:Int)(K:Rs->Tr):Tr:=.gen λ g=>.alloc (tM g) m λ r=>.cell r λ c=>K (Ol c false)
def Jo(t:fG)(fz:Bool)(K:Rs->Tr):Nat->Tr
 | 0=>.stuck
 | n+1=>xX t λ r=>jR t r λ m=>.gen λ g=>.alloc (tM g) m λ j=>Bq t r m j λ ok =>
  if ok=true then(if fz=true then .cell r λ c=>K (Ol c true) else Oi m K) else Jo t fz K n
def sO(t:fG)(fz:Bool)(K:Rs->Tr)(n:Nat):Tr :=
 if t.ro=true then .load t.root λ r=>if fz=true then .cell r λ c=>K (Ol c true) else jR t r λ m=>Oi m K
 else Jo t fz K n
def yV(t:fG)(K:Rs->Tr):Nat->Tr
 | 0=>.stuck
 | n+1=>xX t λ r=>jR t r λ m=>.alloc K2 0 λ c=>.gen λ g=>.alloc (tM g) c λ j=>Bq t r m j λ ok =>
  if ok=true then K (jQ true 0) else yV t K n
def gG(r:Int)(f:Bool):Rs:=⟨0,f,0,⟨#[]⟩,0,r,0,false⟩
def refuse(c:Cl):Int:=if c.kind=7∨c.kind=9 then(if c.key.size<=64 then 0 else 1) else if c.kind=8 then(if c.key.size<=64/\0<=c.Ia/\c.Ia<=3 then 0 else 1) else 0
noncomputable def kT (c:Cl) (h:Nat) (n:Nat):Tr :=
 if refuse c≠0 then .done {Rs.zero with err:=refuse c}
 else if c.kind=1 then jR c.t c.a λ r=>.done (gG r false)
 else if c.kind=2 then jD c.t c.a c.b c.n λ ok=>.done (gG 0 ok)
 else if c.kind=3 then xX c.t λ r=>.done (gG r false)
 else if c.kind=4 then Bq c.t c.a c.b c.n λ ok=>.done (gG 0 ok)
 else if c.kind=7 then xX c.t λ i=>Dg c.t h c.key .done n i 0
 else if c.kind=8 then Ew c h .done n
 else if c.kind=9 then vY c h .done n
 else if c.kind=10 then sO c.t false .done n
 else if c.kind=11 then sO c.t true .done n
 else yV c.t .done n
end

end Go.Proofs.YtbajmaoegmbfgaaGreat

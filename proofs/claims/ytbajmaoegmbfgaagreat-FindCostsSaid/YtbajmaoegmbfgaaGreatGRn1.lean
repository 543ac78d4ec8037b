/- Merged. -/
import Derived.Test.YtbajmaoegmbfgaaGreatGBr5
import Derived.Test.YtbajmaoegmbfgaaGreatGBit2
import Derived.Test.YtbajmaoegmbfgaaGreatGPa1
import Derived.Test.YtbajmaoegmbfgaaGreatGNode2
import Derived.Test.YtbajmaoegmbfgaaGreatGAr9
import Derived.Test.YtbajmaoegmbfgaaGreatGAr4
set_option linter.unusedSimpArgs false
set_option linter.unusedVariables false
namespace Go.Ct
open Go Go.RowKit
section
def two(i k:Nat)(x s:Int):List Int:=if i<k then [x,s] else [s,x]
structure NI where
 n:Nd
 xs:List Int
 ys:List Pr
 init:Int
def AX.no:AX:=⟨none,0,none,0,none,0,none,0⟩
def NI.c(a:NI)(c:Nat):Nv:=(pW a.n a.xs a.ys c AX.no).c
abbrev Gw(h:Nat)(ys:List Pr):NI:=⟨{Nd.zero with kind:=6,hash:=(h:Int)},[],ys,0⟩
abbrev vZ(h:Nat)(k:ByteArray)(u:Int):NI:=⟨{Nd.zero with kind:=4,hash:=(h:Int),key:=k,val:=u},[],[],0⟩
abbrev rX(gen m:Int):NI:=⟨{Nd.zero with kind:=2,gen:=gen},[],[],m⟩
abbrev mj(b:Nat)(xs:List Int):NI:=⟨{Nd.zero with kind:=3,bm:=(b:Int)},xs,[],0⟩
def NI.no:NI:=⟨Nd.zero,[],[],0⟩
structure Km(v:aR)(a:NI):Prop where
 xs:v.xs=a.xs
 ys:v.ys=a.ys
 kind:v.nd.kind=a.n.kind
 c:∀k,(pW v.nd v.xs v.ys k AX.no).c=a.c k
 fit:v.Fit
 sx:v.xs.length<=1000
 sy:v.ys.length<=1000
 c0:v.c=a.n.c a.xs a.ys
inductive pR:List aR->List NI->Prop where
 | nil:pR [] []
 | cons {v:aR} {a:NI} {L:List aR} {l:List NI} (h:Km v a) (hr:pR L l):pR (v::L) (a::l)
theorem pR.len{L:List aR}{l:List NI}(h:pR L l):L.length=l.length:=by
 induction h with
 | nil=>rfl
 | cons _ _ ih=>simp[ih]
theorem pR.append{L M:List aR}{l m:List NI}(h:pR L l)(h2:pR M m):pR (L++M) (l++m):=by
 induction h with
 | nil=>exact h2
 | cons h _ ih=>exact .cons h ih
theorem pR.at{L:List aR}{l:List NI}(h:pR L l){i:Nat}(hi:i<L.length):∃a,l[i]?=some a/\Km (L.getD i aR.zero) a:=by
 induction h generalizing i with
 | nil=>simp at hi
 | @cons v a L l h _ ih=>
  cases i with
  | zero=>exact⟨a,rfl,h⟩
  | succ i=>obtain⟨b,h1,h2⟩:=ih (i:=i) (by simpa using hi);exact⟨b,by simpa using h1,by simpa using h2⟩
def Iw(l:List NI):List Int:=l.map NI.init
variable{w0 w:World}{M:List Nat}{H:List (Nat×Obj)}{A F:Fr}{O:List Ow}
theorem SF.aDD{f1 f2:Option Addr×List Value}(h:SF w0 M H A (f1::f2::F) O w):SF w0 M H A (f2::f1::F) O w:=h.fA λ f hf=>.inr (by
 simp only[List.mem_cons] at hf ⊢;rcases hf with h|h|h;·exact .inr (.inl h)
 ·exact .inl h
 ·exact .inr (.inr h))
theorem SF.aDF{i c:Nat}{p:Option Addr}(h:SF w0 M H A F O w){l:List Int}{T:TypeId}(ho:yQ O i p (aH l) c T 1):l.length<=c:=by
 rcases(h.own _ ho.mem).1 with⟨_,h2,_⟩|⟨b,rest,_,_,h3⟩
 ·have h2':aH l=[]:=h2;have:(aH l).length=0:=by rw[h2'];rfl
  rw[jJ] at this;omega
 ·have h3':(aH l++rest).length=c*1:=h3;rw[List.length_append,jJ] at h3';omega
end
end Go.Ct
namespace Go.Proofs.YtbajmaoegmbfgaaGreat
open Go.Proofs.Tryz
open Go Go.RowKit Go.Ct
section
def dN(x:Int)(h0 h:Nat)(p0:Pr)(k:ByteArray)(u gen:Int)(f:Nat):Nat->Nat->List NI
 | 0,lvl=>if lvl=11 then [Gw h (E6 [p0,(k,u)])] else [vZ h k u,mj (dX (dX 0 (sl h0 lvl:Int)) (sl h lvl:Int)) (two (sl h0 lvl) (sl h lvl) x (f:Int))]
 | n+1,lvl=>dN x h0 h p0 k u gen f n (lvl+1)++[rX gen ((f-1+(dN x h0 h p0 k u gen f n (lvl+1)).length:Nat):Int),mj (dX 0 (sl h lvl:Int)) [((f+(dN x h0 h p0 k u gen f n (lvl+1)).length:Nat):Int)]]
theorem Tl{x:Int}{h0 h:Nat}{p0:Pr}{k:ByteArray}{u gen:Int}{f:Nat}:∀n lvl,(dN x h0 h p0 k u gen f n lvl).length<=2+2*n
 | 0,lvl=>by
  unfold dN
  split<;>simp
 | n+1,lvl=>by
  have:=Tl (x:=x) (h0:=h0) (h:=h) (p0:=p0) (k:=k) (u:=u) (gen:=gen) (f:=f) n (lvl+1);unfold dN;simp only[List.length_append,List.length_cons,List.length_nil]
  omega
theorem th{i k:Nat}(hi:i<64)(hk:k<64)(hne:i≠k)(a b:Int)(w:World) :
  Calls prog 261 #[.int .i64 (i:Int),.int .i64 a,.int .i64 (k:Int),.int .i64 b] w λ e w'=>∃p:Option Addr,e=.returned (.agg ⟨[.int .i64 3,.int .i64 0,.int .i64 0,.int .u64 ((dX (dX 0 (i:Int)) (k:Int):Nat):Int),.slice p 2 2,.int .u64 0,.string ⟨#[]⟩,.int .u64 0,.slice none 0 0,.int .i64 0,.int .i64 0,.int .i64 0,.int .i64 0,.int .i64 0]⟩)/\True/\SF w [] [] [] [(p,aH (two i k a b))] [] w':=by
 refine enter func261 ntmps261 rfl rfl (SF.s0 w) ?_;simp only[cC];refine J0 ?_;refine aJ (λ x8=>?_);refine aG ?_;refine J2 ?_;refine aN (cV (hc:=λ w1 hw=>nT (n:=0) (by decide) (i:Int) w1)) (λ x11=>?_);refine aA ?_;refine aN (cV (hc:=λ w1 hw=>nT (n:=dX 0 (i:Int)) (B4 (by decide) _) (k:Int) w1)) (λ x13=>?_);refine qL ?_;refine fC (λ x16=>?_);refine bN ?_;refine aJ (λ x9=>?_);refine J5 ?_;refine Cb ?_;refine zR ?_;refine bD (λ c20=>?_) (λ c20=>?_)
 ·refine Jl ?_;refine fC (λ x23=>?_);refine vU ?_;refine nG ?_;refine J5 ?_;refine aY results261 (λ w hw=>?_);first
  | exact⟨some ⟨x23,0,none⟩,rfl,trivial,by rw[show two i k a b=[b,a] from if_neg (by omega)];exact hw.ret (List.nil_sublist _) (aZ.iV λ f hf=>by rw[List.mem_singleton.1 hf];exact .head _) (List.Sublist.refl _)⟩
  | exact⟨some ⟨x16,0,none⟩,rfl,trivial,by rw[show two i k a b=[a,b] from if_pos (by omega)];exact hw.ret (List.nil_sublist _) (aZ.iV λ f hf=>by rw[List.mem_singleton.1 hf];exact .head _) (List.Sublist.refl _)⟩
 ·refine aW ?_;refine nG ?_;refine J5 ?_;refine aY results261 (λ w hw=>?_);first
  | exact⟨some ⟨x16,0,none⟩,rfl,trivial,by rw[show two i k a b=[a,b] from if_pos (by omega)];exact hw.ret (List.nil_sublist _) (aZ.iV λ f hf=>by rw[List.mem_singleton.1 hf];exact .head _) (List.Sublist.refl _)⟩
theorem y4{l:List Pr}{a:Option Addr}{c:Nat}{w:World}(ha:Cl w a (dI l))(hlen:l.length<=200000000000) :
  Calls prog 61 #[.slice a l.length c] w λ e w'=>∃x:Option Addr×Nat,e=.returned (.slice x.1 (E6 l).length x.2)/\(E6 l).length<=x.2/\SF w [] [] [] [(x.1,dI (E6 l))] [] w':=(wv ha hlen).mono λ _ _ h=>h
theorem Ec{h l:Nat}{i:Int}(hi:i=(l:Int))(hh:h<18446744073709551616)(hl:l<=10)(w:World):Calls prog 218 #[.int .u64 (h:Int),.int .i64 i] w λ e w'=>e=.returned (.int .i64 ((sl h l:Nat):Int))/\St w [] [] w':=by subst hi;exact qY hh hl w
abbrev Nm(h:Nat)(ys:List Pr)(p:Option Addr)(c:Nat):aR:=⟨{Nd.zero with kind:=6,hash:=(h:Int),prA:=p,prN:=ys.length,dI:=c},[],ys⟩
abbrev Bg(h:Nat)(k:ByteArray)(u:Int):aR:=⟨{Nd.zero with kind:=4,hash:=(h:Int),key:=k,val:=u},[],[]⟩
abbrev yA(gen:Int):aR:=⟨{Nd.zero with kind:=2,gen:=gen},[],[]⟩
abbrev u4(n b:Nat)(xs:List Int)(p:Option Addr):aR:=⟨{Nd.zero with kind:=3,bm:=(b:Int),brA:=p,brN:=n,brC:=n},xs,[]⟩
variable{h:Nat}{p:Option Addr}
theorem z35:(0:Nat)<=35184372088832:=Nat.zero_le _
theorem z11:(0:Nat)<=11728124029610:=Nat.zero_le _
theorem ti{ys:List Pr}{c:Nat}(hy:ys.length<=1000):Km (Nm h ys p c) (Gw h ys):=⟨rfl,rfl,rfl,λ _=>rfl,⟨rfl,rfl,z35,by show ys.length<=_;omega⟩,Nat.zero_le _,hy,rfl⟩
theorem ay{k:ByteArray}{u:Int}:Km (Bg h k u) (vZ h k u):=⟨rfl,rfl,rfl,λ _=>rfl,⟨rfl,rfl,z35,z11⟩,Nat.zero_le _,Nat.zero_le _,rfl⟩
theorem ij{gen m:Int}:Km (yA gen) (rX gen m):=⟨rfl,rfl,rfl,λ _=>rfl,⟨rfl,rfl,z35,z11⟩,Nat.zero_le _,Nat.zero_le _,rfl⟩
theorem aDW{n b:Nat}{xs:List Int}(hn:n=xs.length)(hx:xs.length<=1000):Km (u4 n b xs p) (mj b xs):=⟨rfl,rfl,rfl,λ _=>rfl,⟨hn,rfl,by show xs.length<=_;omega,z11⟩,hx,Nat.zero_le _,rfl⟩
structure RX where
 L:List aR
 ini:List Int
 pn:Option Addr
 cn:Nat
 pc:Option Addr
 cc:Nat
structure Jn(r:RX)(l:List NI):Prop where
 m:pR r.L l
 ini:r.ini=Iw l
theorem Jn.len{r:RX}{l:List NI}(h:Jn r l):r.L.length=l.length/\r.ini.length=l.length:=⟨h.m.len,by rw[h.ini];simp[Iw]⟩
theorem Jn.push{r:RX}{l:List NI}(h:Jn r l){gen m:Int}{n b:Nat}{xs:List Int}{p pn pc:Option Addr}{cn cc:Nat}(hn:n=xs.length)(hx:xs.length<=1000):Jn ⟨r.L++[yA gen,u4 n b xs p],r.ini++[m,0],pn,cn,pc,cc⟩ (l++[rX gen m,mj b xs]) :=⟨h.m.append (.cons ij (.cons (aDW hn hx) .nil)),by show r.ini++_=_;rw[h.ini];simp[Iw,rX,mj]⟩
theorem U1{L:List aR}{gen:Int}{b:Nat}{r:Int}{p:Option Addr}{F:Fr}{f:Option Addr×List Value}(hf:f∈aP (L++[yA gen,u4 1 b [r] p]))(h1:(p,aH [r])∈F)(h2:f∈aP L->f∈F):f.2=[]∨f∈F:=by
 simp only[aP,List.flatMap_append] at hf
 rcases List.mem_append.1 hf with hf|hf
 ·exact .inr (h2 hf)
 ·simp[aR.fr] at hf
  rcases hf with rfl|rfl|rfl|rfl
  ·exact .inl rfl
  ·exact .inl rfl
  ·exact .inr h1
  ·exact .inl rfl
variable{v:aR}{at':Int}{h0 h:Nat}{k:ByteArray}{u gen:Int}{fi lvl:Nat}
abbrev dQ(at':Int)(h0 h:Nat)(v:aR)(k:ByteArray)(u gen:Int)(fi:Nat)(n:Nat):List NI:=dN at' h0 h (v.nd.key,v.nd.val) k u gen fi n (kZ h0 h-n)
theorem yw{n:Nat}(hn:n<kZ h0 h):dQ at' h0 h v k u gen fi (n+1)=dQ at' h0 h v k u gen fi n++[rX gen ((fi-1+(dQ at' h0 h v k u gen fi n).length:Nat):Int),mj (dX 0 (sl h (kZ h0 h-(n+1)):Int)) [((fi+(dQ at' h0 h v k u gen fi n).length:Nat):Int)]]:=by
 have e:kZ h0 h-(n+1)+1=kZ h0 h-n:=by omega
 unfold dQ;rw[dN,e]
theorem aBp{x y z:Option Addr}{c a b:Nat}(hc:kZ h0 h=11):Jn ⟨[Nm h (E6 [(v.nd.key,v.nd.val),(k,u)]) z c],[0],x,a,y,b⟩ (dQ at' h0 h v k u gen fi 0):=by
 have e:dQ at' h0 h v k u gen fi 0=[Gw h (E6 [(v.nd.key,v.nd.val),(k,u)])]:=by unfold dQ dN;exact if_pos hc
 rw[e];exact⟨.cons (ti (Nat.le_trans (V9 _) (by simp))) .nil,rfl⟩
theorem aAF{x y p:Option Addr}{a b:Nat}(hc:kZ h0 h≠11):Jn ⟨[Bg h k u,u4 2 (dX (dX 0 (sl h0 (kZ h0 h):Int)) (sl h (kZ h0 h):Int)) (two (sl h0 (kZ h0 h)) (sl h (kZ h0 h)) at' (fi:Int)) p],[0,0],x,a,y,b⟩ (dQ at' h0 h v k u gen fi 0):=by
 have e:dQ at' h0 h v k u gen fi 0=[vZ h k u,mj (dX (dX 0 (sl h0 (kZ h0 h):Int)) (sl h (kZ h0 h):Int)) (two (sl h0 (kZ h0 h)) (sl h (kZ h0 h)) at' (fi:Int))]:=by unfold dQ dN;exact if_neg hc
 rw[e];exact⟨.cons ay (.cons (aDW (by unfold two;split<;>rfl) (by unfold two;split<;>simp)) .nil),rfl⟩
theorem mx(hv:v.nd.hash=(h0:Int))(hh0:h0<18446744073709551616)(hh:h<18446744073709551616)(hf1:1<=fi)(hf2:fi<=274877906944)(w:World) :
    Calls prog 257 #[.agg ⟨v.nd.cells⟩,.int .i64 at',.int .u64 (h:Int),.string k,.int .u64 u,.int .i64 (lvl:Int),.int .i64 gen,.int .i64 (fi:Int)] w λ e w' =>
      ∃d:RX,e=.returned (.tuple #[.slice d.pn d.L.length d.cn,.slice d.pc d.ini.length d.cc]) /\
      (Jn d (dQ at' h0 h v k u gen fi (kZ h0 h-lvl))/\d.L.length<=d.cn/\d.ini.length<=d.cc) /\
      SF w [] [] [] ((d.pn,jB d.L)::(d.pc,aH d.ini)::aP d.L) [] w':=by
  have hcl:=Ah h0 h;refine enter func257 ntmps257 rfl rfl (SF.s0 w) ?_;simp only[cC]
  refine J0 ?_;refine bL (λ x8=>?_);refine J8 ?_;refine Kc3 ?_;refine aN (cV (hc:=λ w1 hw=>by rw[hv];exact R9 hh0 hh w1)) (λ x26=>?_);refine jG ?_;refine eY [16,17,18,19,27,28,29,30,31,32,33,34,35,36,37,38,39,40,41,42,43,44,45,46,47,48,49,50,51,52,53,54,55,56,57,58,59] (λ q:RX=>[(16,.slice q.pn q.L.length q.cn),(17,.slice q.pc q.ini.length q.cc),(18,.int .i64 ((kZ h0 h:Nat):Int))]) (λ q=>Jn q (dQ at' h0 h v k u gen fi 0)/\q.L.length<=2) (λ q=>[]) (λ q=>aP q.L) (λ q=>[⟨q.pn,jB q.L,q.cn,47,14⟩,⟨q.pc,aH q.ini,q.cc,37,1⟩]) (by decide) (λ _=>by exact rfl) ?_ (λ q f hx=>?_)
  · refine aV ?_;refine xN ?_;refine lK ?_;refine aG ?_;refine bD (λ c28=>?_) (λ c28=>?_)
    · refine iB ?_;refine J3 ?_;refine bN ?_;refine qL ?_;refine bN ?_;refine fC (λ x37=>?_);refine aD (cF (V:=λ x:Option Addr×Nat=>.slice x.1 (E6 [(v.nd.key,v.nd.val),(k,u)]).length x.2) (hc:=λ w1 hw=>y4 (l:=[(v.nd.key,v.nd.val),(k,u)]) (hw.cl (.new .head)) (by simp))) (λ x38 h38=>?_);refine zO ?_;refine bN ?_;refine aN (Ut (c:=1) (sz:=14) rfl (λ _=>dF (cs:=jB [Nm h (E6 [(v.nd.key,v.nd.val),(k,u)]) x38.1 x38.2]) sO Ky rfl rfl rfl rfl rfl)) (λ x42=>?_);refine aN (Ut (c:=1) (sz:=1) rfl (λ _=>dF (cs:=aH [0]) qS Ky rfl rfl rfl rfl rfl)) (λ x43=>?_);refine J8 ?_;refine dU ?_;refine J1 ?_;refine fK ((⟨[Nm h (E6 [(v.nd.key,v.nd.val),(k,u)]) x38.1 x38.2],[0],some ⟨x42,0,none⟩,1,some ⟨x43,0,none⟩,1⟩:RX)) ?_ (hw1:=λ w hw=>(hw.oo.fA λ f hf=>by simp[aP,aR.fr] at hf;rcases hf with rfl|rfl;exact .inl rfl;exact .inr (.head _)).sub (List.nil_sublist _) aZ.all (List.Sublist.refl _))
      · have hne:kZ h0 h=11:=by omega
        exact⟨aBp hne,Nat.le_succ 1⟩
    · refine Kc0 ?_;refine bN ?_;refine J3 ?_;refine aA ?_;refine aN (cV (hc:=λ w1 hw=>by rw[hv];exact qY (l:=kZ h0 h) hh0 (by omega) w1)) (λ x51=>?_);refine qL ?_;refine aA ?_;refine aN (cV (hc:=λ w1 hw=>qY (l:=kZ h0 h) hh (by omega) w1)) (λ x55=>?_);refine aA ?_;refine aD (cF (hc:=λ w1 hw=>th (vW h0 (kZ h0 h)) (vW h (kZ h0 h)) (Mx (h:=h0) (k:=h) (by omega)) at' (fi:Int) w1)) (λ x57 h57=>?_);refine aN (Ut (c:=2) (sz:=14) rfl (λ _=>dF (cs:=jB [Bg h k u,u4 2 (dX (dX 0 (sl h0 (kZ h0 h):Int)) (sl h (kZ h0 h):Int)) (two (sl h0 (kZ h0 h)) (sl h (kZ h0 h)) at' (fi:Int)) x57]) sO Ky rfl rfl rfl rfl rfl)) (λ x58=>?_);refine J1 ?_;refine dU ?_;refine aN (Ut (c:=2) (sz:=1) rfl (λ _=>dF (cs:=aH [0,0]) qS Ky rfl rfl rfl rfl rfl)) (λ x59=>?_);refine J1 ?_;refine fK ((⟨[Bg h k u,u4 2 (dX (dX 0 (sl h0 (kZ h0 h):Int)) (sl h (kZ h0 h):Int)) (two (sl h0 (kZ h0 h)) (sl h (kZ h0 h)) at' (fi:Int)) x57],[0,0],some ⟨x58,0,none⟩,2,some ⟨x59,0,none⟩,2⟩:RX)) ?_ (hw1:=λ w hw=>(hw.oo.fA λ f hf=>by simp[aP,aR.fr] at hf;rcases hf with rfl|rfl|rfl|rfl;exact .inl rfl;exact .inl rfl;exact .inr (.head _);exact .inl rfl).sub (List.nil_sublist _) aZ.all (List.Sublist.refl _))
      · have hne:kZ h0 h≠11:=by omega
        exact⟨aAF hne,Nat.le_refl 2⟩
  refine K0a ?_;refine kF ?_;refine tE ?_;refine J1 ?_;refine cR ?_;have hq2:=hx.1.len;refine nB [16,17,20,21,22,62,63,64,65,66,67,68,69,70,71,72,73,74,75,76,77,78,79,80,81,82,83,84,85,86,87,88,89] (λ y:Nat×RX=>[(16,.slice y.2.pn y.2.L.length y.2.cn),(17,.slice y.2.pc y.2.ini.length y.2.cc),(20,.int .i64 (((kZ h0 h-y.1:Nat):Int)-1))]) (λ y=>y.1<=kZ h0 h-lvl/\Jn y.2 (dQ at' h0 h v k u gen fi y.1)/\y.2.L.length<=2+2*y.1) (λ _=>_) (λ y=>aP y.2.L) (λ y=>[⟨y.2.pn,jB y.2.L,y.2.cn,47,14⟩,⟨y.2.pc,aH y.2.ini,y.2.cc,37,1⟩]) (λ y=>kZ h0 h-lvl-y.1) ((0,q)) (⟨Nat.zero_le _,hx⟩) (λ y f hx=>?_) (hw0:=λ w hw=>hw.sub (List.Sublist.refl _) aZ.all (List.Sublist.refl _));refine K0a ?_;obtain⟨hy1,hy2,hy3⟩:=hx
  obtain⟨hy4,hy5⟩:=hy2.len;refine Cb ?_;refine lK ?_;refine aG ?_;refine bD (λ c64=>?_) (λ c64=>?_)
  · obtain⟨lv,elv⟩:∃lv:Nat,kZ h0 h-(y.1+1)=lv:=⟨_,rfl⟩
    have elv2:(((kZ h0 h-y.1:Nat):Int)-1)=(lv:Int):=by omega
    have hlv2:lv<=10:=by omega
    refine sG ?_;refine iZ ?_;refine dW ?_;refine aC (pS rf rf (by omega)) rfl ?_;refine aC (jX (n:=1) rf rf (by omega) (by omega)) rfl ?_;refine zO ?_;refine aN (cV (hc:=λ w1 hw=>Ec elv2 hh hlv2 w1)) (λ x74=>?_);refine zO ?_;refine bN ?_;refine aA ?_;refine aN (cV (hc:=λ w1 hw=>nT (n:=0) (by decide) (sl h lv:Int) w1)) (λ x79=>?_);refine aA ?_;refine aC (pS (n:=1) rf rf (by omega)) rfl ?_;refine aN (Mf (λ _=>dF (cs:=aH [((fi+y.2.L.length-1+1:Nat):Int)]) qS Ky rfl rfl rfl rfl rfl)) (λ x82=>?_);refine bN ?_;refine aN (Mf (λ _=>dF (cs:=jB [yA gen,u4 1 (dX 0 (sl h lv:Int)) [((fi+y.2.L.length-1+1:Nat):Int)] (some ⟨x82,0,none⟩)]) sO Ky rfl rfl rfl rfl rfl)) (λ x84=>?_);(refine aN (bE.eW (db (k:=2) (L2:=[yA gen,u4 1 (dX 0 (sl h lv:Int)) [((fi+y.2.L.length-1+1:Nat):Int)] (some ⟨x82,0,none⟩)]) rf rf Al rfl fin rfl P9 rfl gS (by omega)) vS) (λ x85=>?_);try (refine eP (λ h85=>?_)));refine J1 ?_;refine Jl ?_;refine aN (Mf (λ _=>dF (cs:=aH [((fi+y.2.L.length-1:Nat):Int),0]) qS Ky rfl rfl rfl rfl rfl)) (λ x88=>?_);(refine aN (bE.eW (Vm (k:=2) (l2:=[((fi+y.2.L.length-1:Nat):Int),0]) rf rf Al rfl fin rfl cf gS (by omega)) vS) (λ x89=>?_);try (refine eP (λ h89=>?_)));refine J1 ?_;refine eV ?_;refine xN ?_;refine tE ?_;refine J1 ?_;refine iX ((y.1+1,(⟨y.2.L++[yA gen,u4 1 (dX 0 (sl h lv:Int)) [((fi+y.2.L.length-1+1:Nat):Int)] (some ⟨x82,0,none⟩)],y.2.ini++[((fi+y.2.L.length-1:Nat):Int),0],x85.1,x85.2,x89.1,x89.2⟩:RX))) ?_ (hw1:=λ w hw=>hw.fA λ f hf=>U1 hf (.tail _ (.tail _ (.head _))) (λ hf=>.tail _ (.tail _ (.tail _ hf))))
    · refine⟨by omega,?_,by simp only[List.length_append,List.length_cons,List.length_nil];omega⟩
      have e1:dQ at' h0 h v k u gen fi (y.1+1)=dQ at' h0 h v k u gen fi y.1++[rX gen ((fi+y.2.L.length-1:Nat):Int),mj (dX 0 (sl h lv:Int)) [((fi+y.2.L.length-1+1:Nat):Int)]]:=by
       rw[yw (by omega),elv,<- hy4,show fi-1+y.2.L.length=fi+y.2.L.length-1 by omega,show fi+y.2.L.length-1+1=fi+y.2.L.length by omega]
      rw[e1]
      exact hy2.push rfl (by simp)
  · have en:y.1=kZ h0 h-lvl:=by omega
    refine bS rfl ?_;refine iZ ?_;refine J8 ?_;refine aY results257 (λ w hw=>?_);refine⟨y.2,rfl,⟨?_,?_,?_⟩,?_⟩
    · rw[<- en]
      exact hy2
    · exact hw.tg .head
    · exact hw.aDF (.tail .head)
    · exact((hw.freeze .head).freeze .head).aDD.ret (List.nil_sublist _) aZ.all (List.nil_sublist _)
end
end Go.Proofs.YtbajmaoegmbfgaaGreat
namespace Go.Ct
section
def NI.c0(a:NI):Nv:=a.n.c a.xs a.ys
end
end Go.Ct
namespace Go.Proofs.YtbajmaoegmbfgaaGreat
section
open Go.RowKit Go.Ct
structure dV where
 root:Int
 ro:Bool
structure Cl where
 kind:Int
 t:dV
 a:Int
 b:Int
 n:Int
 index:Int
 hash:Int
 mask:Int
 key:ByteArray
 val:Int
 exp:Int
 Jh:Int
 only:Bool
def eZ(h:Nat)(level:Int):Int:=if level<0∨10<level then 0 else(sl h level.toNat:Int)
def yZ(p:Int):Nv:=({Nd.zero with kind:=7,bR:=p}:Nd).c [] []
def nL(g:Int):Nv:=({Nd.zero with kind:=2,gen:=g}:Nd).c [] []
def Ej(a b c:Int):Nv:=({Nd.zero with kind:=8,bR:=a,exp:=b,new:=c}:Nd).c [] []
def zP(h:Int)(k:ByteArray)(u:Int):Nv:=({Nd.zero with kind:=4,hash:=h,key:=k,val:=u}:Nd).c [] []
def Hj:Nv:=({Nd.zero with kind:=3}:Nd).c [] []
def aA8(v s:Int)(K:Int->Tr):Tr:=.node v λ n=>K (if s=1 then n.new else n.bR)
def pM(t:dV)(v s:Int)(K:Int->Tr):Tr:=aA8 v s λ w=>.kH t.root v w λ _=>K w
def zN(t:dV)(K:Int->Tr):Tr:=.load t.root λ v=>.node v λ n=>if n.kind=2 then K v else .node v λ n=>.load n.status λ s =>
 if s=0 then .node v λ n=>.kH n.status 0 2 λ _=>.node v λ n=>.load n.status λ s=>pM t v s K else pM t v s K
def Jj(i m p:Int)(K:Int->Tr):Tr:=.node i λ ni=>.node p λ np=>.kH ni.main m np.bR λ _=>.node p λ np=>K np.bR
def kN(i m:Int)(K:Int->Tr):Tr:=.node m λ nm=>.load nm.prev λ p=>if p=0 then K m else Jj i m p K
def lF(i m p:Int)(c:Bool)(K:Int->Tr):Tr :=
 if c=true then .node m λ nm=>.kH nm.prev p 0 λ _=>kN i m K
 else .node m λ nm=>.alloc (yZ p) 0 λ f=>.kH nm.prev p f λ _=>kN i m K
def oJ(t:dV)(i m:Int)(K:Int->Tr):Tr:=.node m λ nm=>.load nm.prev λ p=>if p=0 then K m else .node p λ np =>
 if cB np then(if t.ro=true then lF i m p false K else zN t λ r=>.node r λ nr=>.node i λ ni=>lF i m p (nr.gen==ni.gen) K)
 else Jj i m p K
def iK(t:dV)(i:Int)(K:Int->Tr):Tr:=.node i λ ni=>.load ni.main λ m=>oJ t i m K
def qC(t:dV)(v:Int)(K:Tr):Tr:=.node v λ n=>iK t n.bR λ r=>.node v λ n2=>.node v λ n3=>.kH n3.status 0 (if r=n2.exp then 1 else 2) λ _=>K
def kP(t:dV)(K:Int->Tr):Tr:=.load t.root λ v=>.node v λ n=>if n.kind=2 then K v else .node v λ n=>.load n.status λ s =>
 if s=0 then qC t v (.node v λ n=>.load n.status λ s=>pM t v s K) else pM t v s K
def lE(t:dV)(i bR n:Int)(K:Bool->Tr):Tr:=.node i λ ni=>.kH ni.main bR n λ b=>if b=true then oJ t i n λ m=>K (m==n) else K false
def wK(t:dV)(bR exp new:Int)(K:Bool->Tr):Tr:=.alloc (Ej bR exp new) 0 λ d=>.kH t.root bR d λ b =>
 if b=true then qC t d (.node d λ nd=>.load nd.status λ s=>pM t d s λ _=>K (s==1)) else K false
noncomputable def Gt (c index r:Int) (K:Int->Tr):Tr:=.node c λ nc=>.alloc (T4 nc index r) c K
noncomputable def N7 (t:dV) (i c index:Int) (K:Int->Tr):Tr:=.node c λ nc=>iK t ((iO nc index).getD 0) λ m=>.node i λ ni=>.alloc (nL ni.gen) m λ j =>
 Gt c index j λ r=>lE t i c r λ ok=>K (if ok=true then j else 0)
noncomputable def vY (t:dV) (parent child:Int) (h:Nat) (level:Int) (K:Bool->Tr):Tr:=iK t parent λ m=>.node m λ nm =>
 if iO nm (eZ h level)=some child then iK t child λ mc=>.node mc λ nmc =>
  if nmc.kind=5 then .alloc (unV nmc) 0 λ s=>.node m λ nm2=>.alloc (coV (T4 nm2 (eZ h level) s) level (unV nmc)) m λ r=>lE t parent m r K
  else K false
 else K false
def dO(f:Bool)(v:Int):Rs:=⟨0,f,v,⟨#[]⟩,0,0,0,false⟩
def oU(f:Bool)(v:Int):Rs:=⟨0,f,v,⟨#[]⟩,1,0,0,false⟩
noncomputable def lC (t:dV) (h:Nat) (key:ByteArray) (K:Rs->Tr):Nat->Int->Int->Tr
 | 0,_,_=>.stuck
 | n+1,i,level=>iK t i λ mr=>.node mr λ m =>
  if m.kind=5 then(if m.key=key then K (dO true m.val) else K (dO false 0))
  else if m.kind=6 then K (dO (cK m.ys key).isSome ((cK m.ys key).getD 0))
  else match iO m (eZ h level) with
   | none=>K (dO false 0)
   | some b=>.node b λ s=>if s.kind=4 then(if s.key=key then K (dO true s.val) else K (dO false 0)) else lC t h key K n b (level+1)
def nI(c:Cl)(found:Bool)(v:Int):Bool:=if c.Jh=1 then !found else if c.Jh=2 then found else if c.Jh=3 then found&&v==c.exp else true
def A9:List NI->Int->(Int->Tr)->Tr
 | [],r,K=>K r
 | a::l,_,K=>.alloc a.c0 a.init λ r=>A9 l r K
def dP(at_:Int)(h0 h:Nat)(p:Pr)(k:ByteArray)(u gen:Int)(fi lvl:Nat):List NI:=dN at_ h0 h p k u gen fi (kZ h0 h-lvl) (kZ h0 h-(kZ h0 h-lvl))
def Xb(c:Cl)(b:Int)(h:Nat)(level:Nat)(gen:Int)(K:Int->Tr):Tr:=.node b λ nb =>
 .alloc ((dP b nb.hash.toNat h (nb.key,nb.val) c.key c.val gen 0 level).headD NI.no).c0 ((dP b nb.hash.toNat h (nb.key,nb.val) c.key c.val gen 0 level).headD NI.no).init λ f =>
 A9 (dP b nb.hash.toNat h (nb.key,nb.val) c.key c.val gen f.toNat level).tail f K
noncomputable def jQ (c:Cl) (i m:Int) (h:Nat) (level:Nat) (gen:Int) (K:Rs->Int->Tr):Tr:=.node m λ n =>
 if n.kind=6 then
  (if nI c (cK n.ys c.key).isSome ((cK n.ys c.key).getD 0)=true then
   .alloc (grV n c.key c.val) m λ r=>lE c.t i m r λ ok=>K (oU (cK n.ys c.key).isSome ((cK n.ys c.key).getD 0)) (if ok=true then 1 else 0)
  else K (dO (cK n.ys c.key).isSome ((cK n.ys c.key).getD 0)) 1)
 else match iO n (eZ h level) with
  | none=>if nI c false 0=true then .alloc (zP h c.key c.val) 0 λ s=>.alloc (gj n (eZ h level) s) m λ r=>lE c.t i m r λ ok=>K (oU false 0) (if ok=true then 1 else 0) else K (dO false 0) 1
  | some b=>.node b λ nb=>if nb.kind=2 then K Rs.zero 2 else
   if nb.key=c.key then
    (if nI c true nb.val=true then .alloc (zP h c.key c.val) 0 λ s=>Gt m (eZ h level) s λ r=>lE c.t i m r λ ok=>K (oU true nb.val) (if ok=true then 1 else 0)
    else K (dO true nb.val) 1)
   else
    (if nI c false 0=true then Xb c b h (level+1) gen λ d=>.alloc (nL gen) d λ j=>Gt m (eZ h level) j λ r=>lE c.t i m r λ ok=>K (oU false 0) (if ok=true then 1 else 0)
    else K (dO false 0) 1)
noncomputable def Cz (c:Cl) (i m index gen:Int) (K:Int->Tr):Tr:=.node m λ nm=>.node ((iO nm index).getD 0) λ nb=>if nb.gen=gen then K ((iO nm index).getD 0) else N7 c.t i m index K
noncomputable def tB (c:Cl) (h:Nat) (K:Rs->Tr) (again:Tr) (gen:Int):Nat->Int->Int->Nat->Tr
 | 0,_,_,_=>.stuck
 | n+1,i,parent,level=>iK c.t i λ m=>.node m λ nm =>
  if nm.kind=5 then vY c.t parent i h ((level:Int)-1) λ _=>again
  else jQ c i m h level gen λ r what=>if what=1 then K r else if what=0 then again else
   Cz c i m (eZ h level) gen λ b=>if b=0 then again else tB c h K again gen n b i (level+1)
noncomputable def vK (c:Cl) (h:Nat) (K:Rs->Tr):Nat->Tr
 | 0=>.stuck
 | n+1=>kP c.t λ i=>.node i λ ni=>tB c h K (vK c h K n) ni.gen n i 0 0
noncomputable def kY (c:Cl) (i m:Int) (h:Nat) (level:Nat) (K:Rs->Int->Tr):Tr:=.node m λ n =>
 if n.kind=6 then
  (if(cK n.ys c.key).isSome=false∨(c.only=true/\(cK n.ys c.key).getD 0≠c.exp) then K (dO (cK n.ys c.key).isSome ((cK n.ys c.key).getD 0)) 1
  else .alloc (uq n c.key) m λ r=>lE c.t i m r λ ok=>K (oU true ((cK n.ys c.key).getD 0)) (if ok=true then 1 else 0))
 else match iO n (eZ h level) with
  | none=>K (dO false 0) 1
  | some b=>.node b λ s=>if s.kind=2 then K Rs.zero 2 else if s.key≠c.key then K (dO false 0) 1 else if c.only=true/\s.val≠c.exp then K (dO true s.val) 1
   else .node ((Od (O2 n (eZ h level))).getD 0) λ so=>.alloc (coV (O2 n (eZ h level)) level so) m λ r=>lE c.t i m r λ ok=>K (oU true s.val) (if ok=true then 1 else 0)
noncomputable def upT (t:dV) (path:List Int) (h:Nat) (K:Tr):Nat->Tr
 | 0=>K
 | l+1=>iK t (path.getD (l+1) 0) λ m=>.node m λ nm=>if nm.kind=5 then vY t (path.getD l 0) (path.getD (l+1) 0) h (l:Int) λ _=>upT t path h K l else K
noncomputable def wG (c:Cl) (h:Nat) (K:Rs->Tr) (again:Tr) (gen:Int):Nat->Int->List Int->Nat->Tr
 | 0,_,_,_=>.stuck
 | n+1,i,path,level=>iK c.t i λ m=>.node m λ nm =>
  if nm.kind=5 then vY c.t (path.getD (level-1) 0) i h ((level:Int)-1) λ _=>again
  else kY c i m h level λ r what=>if what=1 then(if r.fP=1 then upT c.t path h (K r) (path.length-1) else K r) else if what=0 then again else
   Cz c i m (eZ h level) gen λ b=>if b=0 then again else wG c h K again gen n b (path++[b]) (level+1)
noncomputable def sD (c:Cl) (h:Nat) (K:Rs->Tr):Nat->Tr
 | 0=>.stuck
 | n+1=>kP c.t λ i=>.node i λ ni=>wG c h K (sD c h K n) ni.gen n i [i] 0
def Jy(root:Int)(ro:Bool):Rs:=⟨0,true,0,⟨#[]⟩,0,0,root,ro⟩
def Kz(m:Int)(K:Rs->Tr):Tr:=.gen λ g=>.alloc (nL g) m λ r=>.cell r λ c=>K (Jy c false)
def Gs(t:dV)(fz:Bool)(K:Rs->Tr):Nat->Tr
 | 0=>.stuck
 | n+1=>kP t λ r=>iK t r λ m=>.gen λ g=>.alloc (nL g) m λ j=>wK t r m j λ ok =>
  if ok=true then(if fz=true then .cell r λ c=>K (Jy c true) else Kz m K) else Gs t fz K n
def uN(t:dV)(fz:Bool)(K:Rs->Tr)(n:Nat):Tr :=
 if t.ro=true then .load t.root λ r=>if fz=true then .cell r λ c=>K (Jy c true) else iK t r λ m=>Kz m K
 else Gs t fz K n
def wD(t:dV)(K:Rs->Tr):Nat->Tr
 | 0=>.stuck
 | n+1=>kP t λ r=>iK t r λ m=>.alloc Hj 0 λ c=>.gen λ g=>.alloc (nL g) c λ j=>wK t r m j λ ok =>
  if ok=true then K (dO true 0) else wD t K n
def C9(r:Int)(f:Bool):Rs:=⟨0,f,0,⟨#[]⟩,0,r,0,false⟩
def refuse(c:Cl):Int:=if c.kind=7∨c.kind=9 then(if c.key.size<=64 then 0 else 1) else if c.kind=8 then(if c.key.size<=64/\0<=c.Jh/\c.Jh<=3 then 0 else 1) else 0
noncomputable def kS (c:Cl) (h:Nat) (n:Nat):Tr :=
 if refuse c≠0 then .done {Rs.zero with err:=refuse c}
 else if c.kind=1 then iK c.t c.a λ r=>.done (C9 r false)
 else if c.kind=2 then lE c.t c.a c.b c.n λ ok=>.done (C9 0 ok)
 else if c.kind=3 then kP c.t λ r=>.done (C9 r false)
 else if c.kind=4 then wK c.t c.a c.b c.n λ ok=>.done (C9 0 ok)
 else if c.kind=7 then kP c.t λ i=>lC c.t h c.key .done n i 0
 else if c.kind=8 then vK c h .done n
 else if c.kind=9 then sD c h .done n
 else if c.kind=10 then uN c.t false .done n
 else if c.kind=11 then uN c.t true .done n
 else wD c.t .done n
end
section
open Go Go.RowKit Go.Ct
def xoC(k:Cl)(bm:Nat)(x:XS)(dn:Bool)(rs:Rs):List Value:=[.pointer (some ⟨bm,0,none⟩),
 .int .i64 k.kind,.int .i64 k.t.root,.bool k.t.ro,.int .i64 k.a,.int .i64 k.b,.int .i64 k.n,.int .i64 k.index,.int .u64 k.hash,.int .u64 k.mask,.string k.key,.int .u64 k.val,.int .u64 k.exp,.int .i64 k.Jh,.bool k.only,
 .bool false,.slice none 0 0,.slice none 0 0,.int .i64 0,.bool false,.int .u64 0,.string ⟨#[]⟩,.int .i64 0,.int .i64 0,.int .i64 0,.bool false,
 .slice x.pg x.got.length x.kg,.slice x.pm x.made.length x.km,.slice x.pl x.cel.length x.kl,.slice x.pe x.gns.length x.ke,
 .int .i64 ((x.a:Nat):Int),.int .i64 ((x.m:Nat):Int),.int .i64 ((x.c:Nat):Int),.int .i64 ((x.g:Nat):Int),.int .i64 ((x.fr:Nat):Int),.bool x.st,
 .int .i64 x.nx.k,.int .i64 x.nx.c,.int .i64 x.nx.o,.int .i64 x.nx.n,.bool dn,
 .int .i64 rs.err,.bool rs.found,.int .u64 rs.val,.string rs.key,.int .i64 rs.fP,.int .i64 rs.ref,.int .i64 rs.root,.bool rs.ro,
 .bool false,.slice none 0 0,.slice none 0 0]
abbrev xO(k:Cl)(bm:Nat)(x:XS)(dn:Bool)(rs:Rs):Obj:=.cells ⟨xoC k bm x dn rs⟩ 153 (0,0)
abbrev xM(x:XS):Obj:=mO x.L x.cs x.gen x.acc x.pn x.cn x.pc x.cc
abbrev xW(x:XS):List Ow:=[⟨x.pg,aH x.got,x.kg,37,1⟩,⟨x.pm,aH x.made,x.km,37,1⟩,⟨x.pl,aH x.cel,x.kl,27,1⟩,⟨x.pe,aH x.gns,x.ke,3,1⟩,⟨x.pn,jB x.L,x.cn,47,14⟩,⟨x.pc,aH x.cs,x.cc,37,1⟩]
abbrev xH(k:Cl)(bx bm:Nat)(x:XS)(dn:Bool)(rs:Rs):List (Nat×Obj):=[(bx,xO k bm x dn rs),(bm,xM x)]
variable{w0 w:World}{D:List Nat}{k:Cl}{bx bm:Nat}{x:XS}{dn:Bool}{rs:Rs}{A F:Fr}
theorem aDu(h:SF w0 D (xH k bx bm x dn rs) A F (xW x) w) :
  SF w0 D [(bx,.cells ⟨[.pointer (some ⟨bm,0,none⟩),
 .int .i64 k.kind,.int .i64 k.t.root,.bool k.t.ro,.int .i64 k.a,.int .i64 k.b,.int .i64 k.n,.int .i64 k.index,.int .u64 k.hash,.int .u64 k.mask,.string k.key,.int .u64 k.val,.int .u64 k.exp,.int .i64 k.Jh,.bool k.only,
 .bool false,.slice none 0 0,.slice none 0 0,.int .i64 0,.bool false,.int .u64 0,.string ⟨#[]⟩,.int .i64 0,.int .i64 0,.int .i64 0,.bool false,
 .slice x.pg x.got.length x.kg,.slice x.pm x.made.length x.km,.slice x.pl x.cel.length x.kl,.slice x.pe x.gns.length x.ke,
 .int .i64 ((x.a:Nat):Int),.int .i64 ((x.m:Nat):Int),.int .i64 ((x.c:Nat):Int),.int .i64 ((x.g:Nat):Int),.int .i64 ((x.fr:Nat):Int),.bool x.st,
 .int .i64 x.nx.k,.int .i64 x.nx.c,.int .i64 x.nx.o,.int .i64 x.nx.n,.bool dn,
 .int .i64 rs.err,.bool rs.found,.int .u64 rs.val,.string rs.key,.int .i64 rs.fP,.int .i64 rs.ref,.int .i64 rs.root,.bool rs.ro,
 .bool false,.slice none 0 0,.slice none 0 0]⟩ 153 (0,0)),(bm,mO x.L x.cs x.gen x.acc x.pn x.cn x.pc x.cc)] A F [⟨x.pg,aH x.got,x.kg,37,1⟩,⟨x.pm,aH x.made,x.km,37,1⟩,⟨x.pl,aH x.cel,x.kl,27,1⟩,⟨x.pe,aH x.gns,x.ke,3,1⟩,⟨x.pn,jB x.L,x.cn,47,14⟩,⟨x.pc,aH x.cs,x.cc,37,1⟩] w:=h
theorem cI(h:SF w0 D (xH k bx bm x dn rs) A F (xW x) w) :
  SF w0 D [(bx,.cells ⟨xoC k bm x dn rs⟩ 153 (0,0)),(bm,mO x.L x.cs x.gen x.acc x.pn x.cn x.pc x.cc)] A F [⟨x.pg,aH x.got,x.kg,37,1⟩,⟨x.pm,aH x.made,x.km,37,1⟩,⟨x.pl,aH x.cel,x.kl,27,1⟩,⟨x.pe,aH x.gns,x.ke,3,1⟩,⟨x.pn,jB x.L,x.cn,47,14⟩,⟨x.pc,aH x.cs,x.cc,37,1⟩] w:=h
end
end Go.Proofs.YtbajmaoegmbfgaaGreat

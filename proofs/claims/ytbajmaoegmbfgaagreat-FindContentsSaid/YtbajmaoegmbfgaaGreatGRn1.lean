/- Merged. -/
import Derived.Test.YtbajmaoegmbfgaaGreatGTo2
import Derived.Test.YtbajmaoegmbfgaaGreatGPa1
import Derived.Test.YtbajmaoegmbfgaaGreatGNode2
import Derived.Test.YtbajmaoegmbfgaaGreatGTr3
import Derived.Test.YtbajmaoegmbfgaaGreatGAr8
set_option linter.unusedSimpArgs false
set_option linter.unusedVariables false
namespace Go.Ct
open Go Go.RowKit
section
def two(i k:Nat)(x s:Int):List Int:=if i<k then [x,s] else [s,x]
structure NI where
 n:Nd
 xs:List Int
 ys:List Pr
 init:Int
def AX.no:AX:=⟨none,0,none,0,none,0,none,0⟩
def NI.c(a:NI)(c:Nat):Nv:=(pP a.n a.xs a.ys c AX.no).c
abbrev I2(h:Nat)(ys:List Pr):NI:=⟨{Nd.zero with kind:=6,hash:=(h:Int)},[],ys,0⟩
abbrev xJ(h:Nat)(k:ByteArray)(u:Int):NI:=⟨{Nd.zero with kind:=4,hash:=(h:Int),key:=k,val:=u},[],[],0⟩
abbrev sJ(gen m:Int):NI:=⟨{Nd.zero with kind:=2,gen:=gen},[],[],m⟩
abbrev jg(b:Nat)(xs:List Int):NI:=⟨{Nd.zero with kind:=3,bm:=(b:Int)},xs,[],0⟩
def NI.no:NI:=⟨Nd.zero,[],[],0⟩
structure Ly(v:aQ)(a:NI):Prop where
 xs:v.xs=a.xs
 ys:v.ys=a.ys
 kind:v.nd.kind=a.n.kind
 c:∀k,(pP v.nd v.xs v.ys k AX.no).c=a.c k
 fit:v.Fit
 sx:v.xs.length<=1000
 sy:v.ys.length<=1000
 c0:v.c=a.n.c a.xs a.ys
inductive qA:List aQ->List NI->Prop where
 | nil:qA [] []
 | cons {v:aQ} {a:NI} {L:List aQ} {l:List NI} (h:Ly v a) (hr:qA L l):qA (v::L) (a::l)
theorem qA.len{L:List aQ}{l:List NI}(h:qA L l):L.length=l.length:=by
 induction h with
 | nil=>rfl
 | cons _ _ ih=>simp[ih]
theorem qA.append{L M:List aQ}{l m:List NI}(h:qA L l)(h2:qA M m):qA (L++M) (l++m):=by
 induction h with
 | nil=>exact h2
 | cons h _ ih=>exact .cons h ih
theorem qA.at{L:List aQ}{l:List NI}(h:qA L l){i:Nat}(hi:i<L.length):∃a,l[i]?=some a/\Ly (L.getD i aQ.zero) a:=by
 induction h generalizing i with
 | nil=>simp at hi
 | @cons v a L l h _ ih=>
  cases i with
  | zero=>exact⟨a,rfl,h⟩
  | succ i=>obtain⟨b,h1,h2⟩:=ih (i:=i) (by simpa using hi);exact⟨b,by simpa using h1,by simpa using h2⟩
def Ja(l:List NI):List Int:=l.map NI.init
variable{w0 w:World}{M:List Nat}{H:List (Nat×Obj)}{A F:Fr}{O:List Ow}
theorem SF.aCR{f1 f2:Option Addr×List Value}(h:SF w0 M H A (f1::f2::F) O w):SF w0 M H A (f2::f1::F) O w:=h.eY λ f hf=>.inr (by
 simp only[List.mem_cons] at hf ⊢;rcases hf with h|h|h;·exact .inr (.inl h)
 ·exact .inl h
 ·exact .inr (.inr h))
theorem SF.aDN{i c:Nat}{p:Option Addr}(h:SF w0 M H A F O w){l:List Int}{T:TypeId}(ho:yU O i p (aH l) c T 1):l.length<=c:=by
 rcases(h.own _ ho.mem).1 with⟨_,h2,_⟩|⟨b,rest,_,_,h3⟩
 ·have h2':aH l=[]:=h2;have:(aH l).length=0:=by rw[h2'];rfl
  rw[jL] at this;omega
 ·have h3':(aH l++rest).length=c*1:=h3;rw[List.length_append,jL] at h3';omega
end
end Go.Ct
namespace Go.Proofs.YtbajmaoegmbfgaaGreat
open Go.Proofs.Tryz
open Go Go.RowKit Go.Ct
section
def dN(x:Int)(h0 h:Nat)(p0:Pr)(k:ByteArray)(u gen:Int)(f:Nat):Nat->Nat->List NI
 | 0,lvl=>if lvl=11 then [I2 h (zE [p0,(k,u)])] else [xJ h k u,jg (dY (dY 0 (sl h0 lvl:Int)) (sl h lvl:Int)) (two (sl h0 lvl) (sl h lvl) x (f:Int))]
 | n+1,lvl=>dN x h0 h p0 k u gen f n (lvl+1)++[sJ gen ((f-1+(dN x h0 h p0 k u gen f n (lvl+1)).length:Nat):Int),jg (dY 0 (sl h lvl:Int)) [((f+(dN x h0 h p0 k u gen f n (lvl+1)).length:Nat):Int)]]
theorem Uv{x:Int}{h0 h:Nat}{p0:Pr}{k:ByteArray}{u gen:Int}{f:Nat}:∀n lvl,(dN x h0 h p0 k u gen f n lvl).length<=2+2*n
 | 0,lvl=>by
  unfold dN
  split<;>simp
 | n+1,lvl=>by
  have:=Uv (x:=x) (h0:=h0) (h:=h) (p0:=p0) (k:=k) (u:=u) (gen:=gen) (f:=f) n (lvl+1);unfold dN;simp only[List.length_append,List.length_cons,List.length_nil]
  omega
theorem tv{i k:Nat}(hi:i<64)(hk:k<64)(hne:i≠k)(a b:Int)(w:World) :
  Calls prog 261 #[.int .i64 (i:Int),.int .i64 a,.int .i64 (k:Int),.int .i64 b] w λ e w'=>∃p:Option Addr,e=.returned (.agg ⟨[.int .i64 3,.int .i64 0,.int .i64 0,.int .u64 ((dY (dY 0 (i:Int)) (k:Int):Nat):Int),.slice p 2 2,.int .u64 0,.string ⟨#[]⟩,.int .u64 0,.slice none 0 0,.int .i64 0,.int .i64 0,.int .i64 0,.int .i64 0,.int .i64 0]⟩)/\True/\SF w [] [] [] [(p,aH (two i k a b))] [] w':=by
 refine enter func261 ntmps261 rfl rfl (SF.s0 w) ?_;simp only[cC];refine J0 ?_;refine aJ (λ x8=>?_);refine aG ?_;refine J2 ?_;refine aP (cV (hc:=λ w1 hw=>nU (n:=0) (by decide) (i:Int) w1)) (λ x11=>?_);refine aA ?_;refine aP (cV (hc:=λ w1 hw=>nU (n:=dY 0 (i:Int)) (A9 (by decide) _) (k:Int) w1)) (λ x13=>?_);refine qX ?_;refine fJ (λ x16=>?_);refine bM ?_;refine aJ (λ x9=>?_);refine J5 ?_;refine D1 ?_;refine wF ?_;refine bD (λ c20=>?_) (λ c20=>?_)
 ·refine Km ?_;refine fJ (λ x23=>?_);refine vO ?_;refine Ka9 ?_;refine aZ results261 (λ w hw=>?_);first
  | exact⟨some ⟨x23,0,none⟩,rfl,trivial,by rw[show two i k a b=[b,a] from if_neg (by omega)];exact hw.ret (List.nil_sublist _) (bA.iT λ f hf=>by rw[List.mem_singleton.1 hf];exact .head _) (List.Sublist.refl _)⟩
  | exact⟨some ⟨x16,0,none⟩,rfl,trivial,by rw[show two i k a b=[a,b] from if_pos (by omega)];exact hw.ret (List.nil_sublist _) (bA.iT λ f hf=>by rw[List.mem_singleton.1 hf];exact .head _) (List.Sublist.refl _)⟩
 ·refine aW ?_;refine Ka9 ?_;refine aZ results261 (λ w hw=>?_);first
  | exact⟨some ⟨x16,0,none⟩,rfl,trivial,by rw[show two i k a b=[a,b] from if_pos (by omega)];exact hw.ret (List.nil_sublist _) (bA.iT λ f hf=>by rw[List.mem_singleton.1 hf];exact .head _) (List.Sublist.refl _)⟩
theorem xi{l:List Pr}{a:Option Addr}{c:Nat}{w:World}(ha:Cl w a (dF l))(hlen:l.length<=200000000000) :
  Calls prog 61 #[.slice a l.length c] w λ e w'=>∃x:Option Addr×Nat,e=.returned (.slice x.1 (zE l).length x.2)/\(zE l).length<=x.2/\SF w [] [] [] [(x.1,dF (zE l))] [] w':=(Wa ha hlen).mono λ _ _ h=>h
theorem Ez{h l:Nat}{i:Int}(hi:i=(l:Int))(hh:h<18446744073709551616)(hl:l<=10)(w:World):Calls prog 218 #[.int .u64 (h:Int),.int .i64 i] w λ e w'=>e=.returned (.int .i64 ((sl h l:Nat):Int))/\St w [] [] w':=by subst hi;exact qZ hh hl w
abbrev O8(h:Nat)(ys:List Pr)(p:Option Addr)(c:Nat):aQ:=⟨{Nd.zero with kind:=6,hash:=(h:Int),prA:=p,prN:=ys.length,dF:=c},[],ys⟩
abbrev A6(h:Nat)(k:ByteArray)(u:Int):aQ:=⟨{Nd.zero with kind:=4,hash:=(h:Int),key:=k,val:=u},[],[]⟩
abbrev yB(gen:Int):aQ:=⟨{Nd.zero with kind:=2,gen:=gen},[],[]⟩
abbrev wu(n b:Nat)(xs:List Int)(p:Option Addr):aQ:=⟨{Nd.zero with kind:=3,bm:=(b:Int),brA:=p,brN:=n,brC:=n},xs,[]⟩
variable{h:Nat}{p:Option Addr}
theorem z35:(0:Nat)<=35184372088832:=Nat.zero_le _
theorem z11:(0:Nat)<=11728124029610:=Nat.zero_le _
theorem yg{ys:List Pr}{c:Nat}(hy:ys.length<=1000):Ly (O8 h ys p c) (I2 h ys):=⟨rfl,rfl,rfl,λ _=>rfl,⟨rfl,rfl,z35,by show ys.length<=_;omega⟩,Nat.zero_le _,hy,rfl⟩
theorem aq{k:ByteArray}{u:Int}:Ly (A6 h k u) (xJ h k u):=⟨rfl,rfl,rfl,λ _=>rfl,⟨rfl,rfl,z35,z11⟩,Nat.zero_le _,Nat.zero_le _,rfl⟩
theorem jq{gen m:Int}:Ly (yB gen) (sJ gen m):=⟨rfl,rfl,rfl,λ _=>rfl,⟨rfl,rfl,z35,z11⟩,Nat.zero_le _,Nat.zero_le _,rfl⟩
theorem aDv{n b:Nat}{xs:List Int}(hn:n=xs.length)(hx:xs.length<=1000):Ly (wu n b xs p) (jg b xs):=⟨rfl,rfl,rfl,λ _=>rfl,⟨hn,rfl,by show xs.length<=_;omega,z11⟩,hx,Nat.zero_le _,rfl⟩
structure RX where
 L:List aQ
 ini:List Int
 pn:Option Addr
 cn:Nat
 pc:Option Addr
 cc:Nat
structure Jy(r:RX)(l:List NI):Prop where
 m:qA r.L l
 ini:r.ini=Ja l
theorem Jy.len{r:RX}{l:List NI}(h:Jy r l):r.L.length=l.length/\r.ini.length=l.length:=⟨h.m.len,by rw[h.ini];simp[Ja]⟩
theorem Jy.push{r:RX}{l:List NI}(h:Jy r l){gen m:Int}{n b:Nat}{xs:List Int}{p pn pc:Option Addr}{cn cc:Nat}(hn:n=xs.length)(hx:xs.length<=1000):Jy ⟨r.L++[yB gen,wu n b xs p],r.ini++[m,0],pn,cn,pc,cc⟩ (l++[sJ gen m,jg b xs]) :=⟨h.m.append (.cons jq (.cons (aDv hn hx) .nil)),by show r.ini++_=_;rw[h.ini];simp[Ja,sJ,jg]⟩
theorem T9{L:List aQ}{gen:Int}{b:Nat}{r:Int}{p:Option Addr}{F:Fr}{f:Option Addr×List Value}(hf:f∈aN (L++[yB gen,wu 1 b [r] p]))(h1:(p,aH [r])∈F)(h2:f∈aN L->f∈F):f.2=[]∨f∈F:=by
 simp only[aN,List.flatMap_append] at hf
 rcases List.mem_append.1 hf with hf|hf
 ·exact .inr (h2 hf)
 ·simp[aQ.fr] at hf
  rcases hf with rfl|rfl|rfl|rfl
  ·exact .inl rfl
  ·exact .inl rfl
  ·exact .inr h1
  ·exact .inl rfl
variable{v:aQ}{at':Int}{h0 h:Nat}{k:ByteArray}{u gen:Int}{fi lvl:Nat}
abbrev dQ(at':Int)(h0 h:Nat)(v:aQ)(k:ByteArray)(u gen:Int)(fi:Nat)(n:Nat):List NI:=dN at' h0 h (v.nd.key,v.nd.val) k u gen fi n (kX h0 h-n)
theorem yo{n:Nat}(hn:n<kX h0 h):dQ at' h0 h v k u gen fi (n+1)=dQ at' h0 h v k u gen fi n++[sJ gen ((fi-1+(dQ at' h0 h v k u gen fi n).length:Nat):Int),jg (dY 0 (sl h (kX h0 h-(n+1)):Int)) [((fi+(dQ at' h0 h v k u gen fi n).length:Nat):Int)]]:=by
 have e:kX h0 h-(n+1)+1=kX h0 h-n:=by omega
 unfold dQ;rw[dN,e]
theorem aBT{x y z:Option Addr}{c a b:Nat}(hc:kX h0 h=11):Jy ⟨[O8 h (zE [(v.nd.key,v.nd.val),(k,u)]) z c],[0],x,a,y,b⟩ (dQ at' h0 h v k u gen fi 0):=by
 have e:dQ at' h0 h v k u gen fi 0=[I2 h (zE [(v.nd.key,v.nd.val),(k,u)])]:=by unfold dQ dN;exact if_pos hc
 rw[e];exact⟨.cons (yg (Nat.le_trans (On _) (by simp))) .nil,rfl⟩
theorem aCe{x y p:Option Addr}{a b:Nat}(hc:kX h0 h≠11):Jy ⟨[A6 h k u,wu 2 (dY (dY 0 (sl h0 (kX h0 h):Int)) (sl h (kX h0 h):Int)) (two (sl h0 (kX h0 h)) (sl h (kX h0 h)) at' (fi:Int)) p],[0,0],x,a,y,b⟩ (dQ at' h0 h v k u gen fi 0):=by
 have e:dQ at' h0 h v k u gen fi 0=[xJ h k u,jg (dY (dY 0 (sl h0 (kX h0 h):Int)) (sl h (kX h0 h):Int)) (two (sl h0 (kX h0 h)) (sl h (kX h0 h)) at' (fi:Int))]:=by unfold dQ dN;exact if_neg hc
 rw[e];exact⟨.cons aq (.cons (aDv (by unfold two;split<;>rfl) (by unfold two;split<;>simp)) .nil),rfl⟩
theorem gq(hv:v.nd.hash=(h0:Int))(hh0:h0<18446744073709551616)(hh:h<18446744073709551616)(hf1:1<=fi)(hf2:fi<=274877906944)(w:World) :
    Calls prog 257 #[.agg ⟨v.nd.cells⟩,.int .i64 at',.int .u64 (h:Int),.string k,.int .u64 u,.int .i64 (lvl:Int),.int .i64 gen,.int .i64 (fi:Int)] w λ e w' =>
      ∃d:RX,e=.returned (.tuple #[.slice d.pn d.L.length d.cn,.slice d.pc d.ini.length d.cc]) /\
      (Jy d (dQ at' h0 h v k u gen fi (kX h0 h-lvl))/\d.L.length<=d.cn/\d.ini.length<=d.cc) /\
      SF w [] [] [] ((d.pn,iH d.L)::(d.pc,aH d.ini)::aN d.L) [] w':=by
  have hcl:=Aa h0 h;refine enter func257 ntmps257 rfl rfl (SF.s0 w) ?_;simp only[cC]
  refine J0 ?_;refine bJ (λ x8=>?_);refine J8 ?_;refine Kc8 ?_;refine aP (cV (hc:=λ w1 hw=>by rw[hv];exact Pv hh0 hh w1)) (λ x26=>?_);refine jG ?_;refine eR [16,17,18,19,27,28,29,30,31,32,33,34,35,36,37,38,39,40,41,42,43,44,45,46,47,48,49,50,51,52,53,54,55,56,57,58,59] (λ q:RX=>[(16,.slice q.pn q.L.length q.cn),(17,.slice q.pc q.ini.length q.cc),(18,.int .i64 ((kX h0 h:Nat):Int))]) (λ q=>Jy q (dQ at' h0 h v k u gen fi 0)/\q.L.length<=2) (λ q=>[]) (λ q=>aN q.L) (λ q=>[⟨q.pn,iH q.L,q.cn,47,14⟩,⟨q.pc,aH q.ini,q.cc,37,1⟩]) (by decide) (λ _=>by exact rfl) ?_ (λ q f hx=>?_)
  · refine aT ?_;refine yG ?_;refine lQ ?_;refine aG ?_;refine bD (λ c28=>?_) (λ c28=>?_)
    · refine iE ?_;refine J3 ?_;refine bM ?_;refine qX ?_;refine bM ?_;refine fJ (λ x37=>?_);refine aD (cF (V:=λ x:Option Addr×Nat=>.slice x.1 (zE [(v.nd.key,v.nd.val),(k,u)]).length x.2) (hc:=λ w1 hw=>xi (l:=[(v.nd.key,v.nd.val),(k,u)]) (hw.cl (.new .head)) (by simp))) (λ x38 h38=>?_);refine zQ ?_;refine bM ?_;refine aP (Ul (c:=1) (sz:=14) rfl (λ _=>cW (cs:=iH [O8 h (zE [(v.nd.key,v.nd.val),(k,u)]) x38.1 x38.2]) tH Kg rfl rfl rfl rfl rfl)) (λ x42=>?_);refine aP (Ul (c:=1) (sz:=1) rfl (λ _=>cW (cs:=aH [0]) rG Kg rfl rfl rfl rfl rfl)) (λ x43=>?_);refine J8 ?_;refine dS ?_;refine J1 ?_;refine fC ((⟨[O8 h (zE [(v.nd.key,v.nd.val),(k,u)]) x38.1 x38.2],[0],some ⟨x42,0,none⟩,1,some ⟨x43,0,none⟩,1⟩:RX)) ?_ (hw1:=λ w hw=>(hw.gj.eY λ f hf=>by simp[aN,aQ.fr] at hf;rcases hf with rfl|rfl;exact .inl rfl;exact .inr (.head _)).sub (List.nil_sublist _) bA.all (List.Sublist.refl _))
      · have hne:kX h0 h=11:=by omega
        exact⟨aBT hne,Nat.le_succ 1⟩
    · refine Kc4 ?_;refine bM ?_;refine J3 ?_;refine aA ?_;refine aP (cV (hc:=λ w1 hw=>by rw[hv];exact qZ (l:=kX h0 h) hh0 (by omega) w1)) (λ x51=>?_);refine qX ?_;refine aA ?_;refine aP (cV (hc:=λ w1 hw=>qZ (l:=kX h0 h) hh (by omega) w1)) (λ x55=>?_);refine aA ?_;refine aD (cF (hc:=λ w1 hw=>tv (xN h0 (kX h0 h)) (xN h (kX h0 h)) (Nz (h:=h0) (k:=h) (by omega)) at' (fi:Int) w1)) (λ x57 h57=>?_);refine aP (Ul (c:=2) (sz:=14) rfl (λ _=>cW (cs:=iH [A6 h k u,wu 2 (dY (dY 0 (sl h0 (kX h0 h):Int)) (sl h (kX h0 h):Int)) (two (sl h0 (kX h0 h)) (sl h (kX h0 h)) at' (fi:Int)) x57]) tH Kg rfl rfl rfl rfl rfl)) (λ x58=>?_);refine J1 ?_;refine dS ?_;refine aP (Ul (c:=2) (sz:=1) rfl (λ _=>cW (cs:=aH [0,0]) rG Kg rfl rfl rfl rfl rfl)) (λ x59=>?_);refine J1 ?_;refine fC ((⟨[A6 h k u,wu 2 (dY (dY 0 (sl h0 (kX h0 h):Int)) (sl h (kX h0 h):Int)) (two (sl h0 (kX h0 h)) (sl h (kX h0 h)) at' (fi:Int)) x57],[0,0],some ⟨x58,0,none⟩,2,some ⟨x59,0,none⟩,2⟩:RX)) ?_ (hw1:=λ w hw=>(hw.gj.eY λ f hf=>by simp[aN,aQ.fr] at hf;rcases hf with rfl|rfl|rfl|rfl;exact .inl rfl;exact .inl rfl;exact .inr (.head _);exact .inl rfl).sub (List.nil_sublist _) bA.all (List.Sublist.refl _))
      · have hne:kX h0 h≠11:=by omega
        exact⟨aCe hne,Nat.le_refl 2⟩
  refine K0a ?_;refine jS ?_;refine sV ?_;refine J1 ?_;refine cO ?_;have hq2:=hx.1.len;refine mN [16,17,20,21,22,62,63,64,65,66,67,68,69,70,71,72,73,74,75,76,77,78,79,80,81,82,83,84,85,86,87,88,89] (λ y:Nat×RX=>[(16,.slice y.2.pn y.2.L.length y.2.cn),(17,.slice y.2.pc y.2.ini.length y.2.cc),(20,.int .i64 (((kX h0 h-y.1:Nat):Int)-1))]) (λ y=>y.1<=kX h0 h-lvl/\Jy y.2 (dQ at' h0 h v k u gen fi y.1)/\y.2.L.length<=2+2*y.1) (λ _=>_) (λ y=>aN y.2.L) (λ y=>[⟨y.2.pn,iH y.2.L,y.2.cn,47,14⟩,⟨y.2.pc,aH y.2.ini,y.2.cc,37,1⟩]) (λ y=>kX h0 h-lvl-y.1) ((0,q)) (⟨Nat.zero_le _,hx⟩) (λ y f hx=>?_) (hw0:=λ w hw=>hw.sub (List.Sublist.refl _) bA.all (List.Sublist.refl _));refine K0a ?_;obtain⟨hy1,hy2,hy3⟩:=hx
  obtain⟨hy4,hy5⟩:=hy2.len;refine D1 ?_;refine lQ ?_;refine aG ?_;refine bD (λ c64=>?_) (λ c64=>?_)
  · obtain⟨lv,elv⟩:∃lv:Nat,kX h0 h-(y.1+1)=lv:=⟨_,rfl⟩
    have elv2:(((kX h0 h-y.1:Nat):Int)-1)=(lv:Int):=by omega
    have hlv2:lv<=10:=by omega
    refine rT ?_;refine jD ?_;refine dV ?_;refine aC (pY rf rf (by omega)) rfl ?_;refine aC (jZ (n:=1) rf rf (by omega) (by omega)) rfl ?_;refine zQ ?_;refine aP (cV (hc:=λ w1 hw=>Ez elv2 hh hlv2 w1)) (λ x74=>?_);refine zQ ?_;refine bM ?_;refine aA ?_;refine aP (cV (hc:=λ w1 hw=>nU (n:=0) (by decide) (sl h lv:Int) w1)) (λ x79=>?_);refine aA ?_;refine aC (pY (n:=1) rf rf (by omega)) rfl ?_;refine aP (Kk (λ _=>cW (cs:=aH [((fi+y.2.L.length-1+1:Nat):Int)]) rG Kg rfl rfl rfl rfl rfl)) (λ x82=>?_);refine bM ?_;refine aP (Kk (λ _=>cW (cs:=iH [yB gen,wu 1 (dY 0 (sl h lv:Int)) [((fi+y.2.L.length-1+1:Nat):Int)] (some ⟨x82,0,none⟩)]) tH Kg rfl rfl rfl rfl rfl)) (λ x84=>?_);(refine aP (bG.eM (qb (k:=2) (L2:=[yB gen,wu 1 (dY 0 (sl h lv:Int)) [((fi+y.2.L.length-1+1:Nat):Int)] (some ⟨x82,0,none⟩)]) rf rf zH rfl fin rfl Pf rfl gS (by omega)) vS) (λ x85=>?_);try (refine eP (λ h85=>?_)));refine J1 ?_;refine Km ?_;refine aP (Kk (λ _=>cW (cs:=aH [((fi+y.2.L.length-1:Nat):Int),0]) rG Kg rfl rfl rfl rfl rfl)) (λ x88=>?_);(refine aP (bG.eM (Vu (k:=2) (l2:=[((fi+y.2.L.length-1:Nat):Int),0]) rf rf zH rfl fin rfl dh gS (by omega)) vS) (λ x89=>?_);try (refine eP (λ h89=>?_)));refine J1 ?_;refine eV ?_;refine yG ?_;refine sV ?_;refine J1 ?_;refine iS ((y.1+1,(⟨y.2.L++[yB gen,wu 1 (dY 0 (sl h lv:Int)) [((fi+y.2.L.length-1+1:Nat):Int)] (some ⟨x82,0,none⟩)],y.2.ini++[((fi+y.2.L.length-1:Nat):Int),0],x85.1,x85.2,x89.1,x89.2⟩:RX))) ?_ (hw1:=λ w hw=>hw.eY λ f hf=>T9 hf (.tail _ (.tail _ (.head _))) (λ hf=>.tail _ (.tail _ (.tail _ hf))))
    · refine⟨by omega,?_,by simp only[List.length_append,List.length_cons,List.length_nil];omega⟩
      have e1:dQ at' h0 h v k u gen fi (y.1+1)=dQ at' h0 h v k u gen fi y.1++[sJ gen ((fi+y.2.L.length-1:Nat):Int),jg (dY 0 (sl h lv:Int)) [((fi+y.2.L.length-1+1:Nat):Int)]]:=by
       rw[yo (by omega),elv,<- hy4,show fi-1+y.2.L.length=fi+y.2.L.length-1 by omega,show fi+y.2.L.length-1+1=fi+y.2.L.length by omega]
      rw[e1]
      exact hy2.push rfl (by simp)
  · have en:y.1=kX h0 h-lvl:=by omega
    refine K1t ?_;refine jD ?_;refine J8 ?_;refine aZ results257 (λ w hw=>?_);refine⟨y.2,rfl,⟨?_,?_,?_⟩,?_⟩
    · rw[<- en]
      exact hy2
    · exact hw.yy .head
    · exact hw.aDN (.tail .head)
    · exact((hw.freeze .head).freeze .head).aCR.ret (List.nil_sublist _) bA.all (List.nil_sublist _)
end
end Go.Proofs.YtbajmaoegmbfgaaGreat
namespace Go.Ct
section
def NI.c0(a:NI):Nv:=a.n.c a.xs a.ys
end
end Go.Ct
namespace Go.Proofs.YtbajmaoegmbfgaaGreat
section
open Go.RowKit Go.Ct
structure dW where
 root:Int
 ro:Bool
structure Cl where
 kind:Int
 t:dW
 a:Int
 b:Int
 n:Int
 index:Int
 hash:Int
 mask:Int
 key:ByteArray
 val:Int
 exp:Int
 Kc:Int
 only:Bool
def eZ(h:Nat)(level:Int):Int:=if level<0∨10<level then 0 else(sl h level.toNat:Int)
def zV(p:Int):Nv:=({Nd.zero with kind:=7,bS:=p}:Nd).c [] []
def oA(g:Int):Nv:=({Nd.zero with kind:=2,gen:=g}:Nd).c [] []
def D9(a b c:Int):Nv:=({Nd.zero with kind:=8,bS:=a,exp:=b,new:=c}:Nd).c [] []
def zY(h:Int)(k:ByteArray)(u:Int):Nv:=({Nd.zero with kind:=4,hash:=h,key:=k,val:=u}:Nd).c [] []
def Jm:Nv:=({Nd.zero with kind:=3}:Nd).c [] []
def aA7(v s:Int)(K:Int->Tr):Tr:=.node v λ n=>K (if s=1 then n.new else n.bS)
def pT(t:dW)(v s:Int)(K:Int->Tr):Tr:=aA7 v s λ w=>.kG t.root v w λ _=>K w
def zU(t:dW)(K:Int->Tr):Tr:=.load t.root λ v=>.node v λ n=>if n.kind=2 then K v else .node v λ n=>.load n.status λ s =>
 if s=0 then .node v λ n=>.kG n.status 0 2 λ _=>.node v λ n=>.load n.status λ s=>pT t v s K else pT t v s K
def Ka(i m p:Int)(K:Int->Tr):Tr:=.node i λ ni=>.node p λ np=>.kG ni.main m np.bS λ _=>.node p λ np=>K np.bS
def kP(i m:Int)(K:Int->Tr):Tr:=.node m λ nm=>.load nm.prev λ p=>if p=0 then K m else Ka i m p K
def lG(i m p:Int)(c:Bool)(K:Int->Tr):Tr :=
 if c=true then .node m λ nm=>.kG nm.prev p 0 λ _=>kP i m K
 else .node m λ nm=>.alloc (zV p) 0 λ f=>.kG nm.prev p f λ _=>kP i m K
def oO(t:dW)(i m:Int)(K:Int->Tr):Tr:=.node m λ nm=>.load nm.prev λ p=>if p=0 then K m else .node p λ np =>
 if cB np then(if t.ro=true then lG i m p false K else zU t λ r=>.node r λ nr=>.node i λ ni=>lG i m p (nr.gen==ni.gen) K)
 else Ka i m p K
def iM(t:dW)(i:Int)(K:Int->Tr):Tr:=.node i λ ni=>.load ni.main λ m=>oO t i m K
def qD(t:dW)(v:Int)(K:Tr):Tr:=.node v λ n=>iM t n.bS λ r=>.node v λ n2=>.node v λ n3=>.kG n3.status 0 (if r=n2.exp then 1 else 2) λ _=>K
def kI(t:dW)(K:Int->Tr):Tr:=.load t.root λ v=>.node v λ n=>if n.kind=2 then K v else .node v λ n=>.load n.status λ s =>
 if s=0 then qD t v (.node v λ n=>.load n.status λ s=>pT t v s K) else pT t v s K
def lH(t:dW)(i bS n:Int)(K:Bool->Tr):Tr:=.node i λ ni=>.kG ni.main bS n λ b=>if b=true then oO t i n λ m=>K (m==n) else K false
def wI(t:dW)(bS exp new:Int)(K:Bool->Tr):Tr:=.alloc (D9 bS exp new) 0 λ d=>.kG t.root bS d λ b =>
 if b=true then qD t d (.node d λ nd=>.load nd.status λ s=>pT t d s λ _=>K (s==1)) else K false
noncomputable def Ik (c index r:Int) (K:Int->Tr):Tr:=.node c λ nc=>.alloc (Up nc index r) c K
noncomputable def Oq (t:dW) (i c index:Int) (K:Int->Tr):Tr:=.node c λ nc=>iM t ((iU nc index).getD 0) λ m=>.node i λ ni=>.alloc (oA ni.gen) m λ j =>
 Ik c index j λ r=>lH t i c r λ ok=>K (if ok=true then j else 0)
noncomputable def xU (t:dW) (parent child:Int) (h:Nat) (level:Int) (K:Bool->Tr):Tr:=iM t parent λ m=>.node m λ nm =>
 if iU nm (eZ h level)=some child then iM t child λ mc=>.node mc λ nmc =>
  if nmc.kind=5 then .alloc (unV nmc) 0 λ s=>.node m λ nm2=>.alloc (coV (Up nm2 (eZ h level) s) level (unV nmc)) m λ r=>lH t parent m r K
  else K false
 else K false
def dM(f:Bool)(v:Int):Rs:=⟨0,f,v,⟨#[]⟩,0,0,0,false⟩
def oS(f:Bool)(v:Int):Rs:=⟨0,f,v,⟨#[]⟩,1,0,0,false⟩
noncomputable def lE (t:dW) (h:Nat) (key:ByteArray) (K:Rs->Tr):Nat->Int->Int->Tr
 | 0,_,_=>.stuck
 | n+1,i,level=>iM t i λ mr=>.node mr λ m =>
  if m.kind=5 then(if m.key=key then K (dM true m.val) else K (dM false 0))
  else if m.kind=6 then K (dM (cL m.ys key).isSome ((cL m.ys key).getD 0))
  else match iU m (eZ h level) with
   | none=>K (dM false 0)
   | some b=>.node b λ s=>if s.kind=4 then(if s.key=key then K (dM true s.val) else K (dM false 0)) else lE t h key K n b (level+1)
def nP(c:Cl)(found:Bool)(v:Int):Bool:=if c.Kc=1 then !found else if c.Kc=2 then found else if c.Kc=3 then found&&v==c.exp else true
def Ba:List NI->Int->(Int->Tr)->Tr
 | [],r,K=>K r
 | a::l,_,K=>.alloc a.c0 a.init λ r=>Ba l r K
def dP(at_:Int)(h0 h:Nat)(p:Pr)(k:ByteArray)(u gen:Int)(fi lvl:Nat):List NI:=dN at_ h0 h p k u gen fi (kX h0 h-lvl) (kX h0 h-(kX h0 h-lvl))
def Wt(c:Cl)(b:Int)(h:Nat)(level:Nat)(gen:Int)(K:Int->Tr):Tr:=.node b λ nb =>
 .alloc ((dP b nb.hash.toNat h (nb.key,nb.val) c.key c.val gen 0 level).headD NI.no).c0 ((dP b nb.hash.toNat h (nb.key,nb.val) c.key c.val gen 0 level).headD NI.no).init λ f =>
 Ba (dP b nb.hash.toNat h (nb.key,nb.val) c.key c.val gen f.toNat level).tail f K
noncomputable def jU (c:Cl) (i m:Int) (h:Nat) (level:Nat) (gen:Int) (K:Rs->Int->Tr):Tr:=.node m λ n =>
 if n.kind=6 then
  (if nP c (cL n.ys c.key).isSome ((cL n.ys c.key).getD 0)=true then
   .alloc (grV n c.key c.val) m λ r=>lH c.t i m r λ ok=>K (oS (cL n.ys c.key).isSome ((cL n.ys c.key).getD 0)) (if ok=true then 1 else 0)
  else K (dM (cL n.ys c.key).isSome ((cL n.ys c.key).getD 0)) 1)
 else match iU n (eZ h level) with
  | none=>if nP c false 0=true then .alloc (zY h c.key c.val) 0 λ s=>.alloc (nh n (eZ h level) s) m λ r=>lH c.t i m r λ ok=>K (oS false 0) (if ok=true then 1 else 0) else K (dM false 0) 1
  | some b=>.node b λ nb=>if nb.kind=2 then K Rs.zero 2 else
   if nb.key=c.key then
    (if nP c true nb.val=true then .alloc (zY h c.key c.val) 0 λ s=>Ik m (eZ h level) s λ r=>lH c.t i m r λ ok=>K (oS true nb.val) (if ok=true then 1 else 0)
    else K (dM true nb.val) 1)
   else
    (if nP c false 0=true then Wt c b h (level+1) gen λ d=>.alloc (oA gen) d λ j=>Ik m (eZ h level) j λ r=>lH c.t i m r λ ok=>K (oS false 0) (if ok=true then 1 else 0)
    else K (dM false 0) 1)
noncomputable def Cy (c:Cl) (i m index gen:Int) (K:Int->Tr):Tr:=.node m λ nm=>.node ((iU nm index).getD 0) λ nb=>if nb.gen=gen then K ((iU nm index).getD 0) else Oq c.t i m index K
noncomputable def sY (c:Cl) (h:Nat) (K:Rs->Tr) (again:Tr) (gen:Int):Nat->Int->Int->Nat->Tr
 | 0,_,_,_=>.stuck
 | n+1,i,parent,level=>iM c.t i λ m=>.node m λ nm =>
  if nm.kind=5 then xU c.t parent i h ((level:Int)-1) λ _=>again
  else jU c i m h level gen λ r what=>if what=1 then K r else if what=0 then again else
   Cy c i m (eZ h level) gen λ b=>if b=0 then again else sY c h K again gen n b i (level+1)
noncomputable def vN (c:Cl) (h:Nat) (K:Rs->Tr):Nat->Tr
 | 0=>.stuck
 | n+1=>kI c.t λ i=>.node i λ ni=>sY c h K (vN c h K n) ni.gen n i 0 0
noncomputable def lA (c:Cl) (i m:Int) (h:Nat) (level:Nat) (K:Rs->Int->Tr):Tr:=.node m λ n =>
 if n.kind=6 then
  (if(cL n.ys c.key).isSome=false∨(c.only=true/\(cL n.ys c.key).getD 0≠c.exp) then K (dM (cL n.ys c.key).isSome ((cL n.ys c.key).getD 0)) 1
  else .alloc (xh n c.key) m λ r=>lH c.t i m r λ ok=>K (oS true ((cL n.ys c.key).getD 0)) (if ok=true then 1 else 0))
 else match iU n (eZ h level) with
  | none=>K (dM false 0) 1
  | some b=>.node b λ s=>if s.kind=2 then K Rs.zero 2 else if s.key≠c.key then K (dM false 0) 1 else if c.only=true/\s.val≠c.exp then K (dM true s.val) 1
   else .node ((Na (Pg n (eZ h level))).getD 0) λ so=>.alloc (coV (Pg n (eZ h level)) level so) m λ r=>lH c.t i m r λ ok=>K (oS true s.val) (if ok=true then 1 else 0)
noncomputable def upT (t:dW) (path:List Int) (h:Nat) (K:Tr):Nat->Tr
 | 0=>K
 | l+1=>iM t (path.getD (l+1) 0) λ m=>.node m λ nm=>if nm.kind=5 then xU t (path.getD l 0) (path.getD (l+1) 0) h (l:Int) λ _=>upT t path h K l else K
noncomputable def xQ (c:Cl) (h:Nat) (K:Rs->Tr) (again:Tr) (gen:Int):Nat->Int->List Int->Nat->Tr
 | 0,_,_,_=>.stuck
 | n+1,i,path,level=>iM c.t i λ m=>.node m λ nm =>
  if nm.kind=5 then xU c.t (path.getD (level-1) 0) i h ((level:Int)-1) λ _=>again
  else lA c i m h level λ r what=>if what=1 then(if r.fQ=1 then upT c.t path h (K r) (path.length-1) else K r) else if what=0 then again else
   Cy c i m (eZ h level) gen λ b=>if b=0 then again else xQ c h K again gen n b (path++[b]) (level+1)
noncomputable def sA (c:Cl) (h:Nat) (K:Rs->Tr):Nat->Tr
 | 0=>.stuck
 | n+1=>kI c.t λ i=>.node i λ ni=>xQ c h K (sA c h K n) ni.gen n i [i] 0
def Ki(root:Int)(ro:Bool):Rs:=⟨0,true,0,⟨#[]⟩,0,0,root,ro⟩
def L8(m:Int)(K:Rs->Tr):Tr:=.gen λ g=>.alloc (oA g) m λ r=>.cell r λ c=>K (Ki c false)
def Jf(t:dW)(fz:Bool)(K:Rs->Tr):Nat->Tr
 | 0=>.stuck
 | n+1=>kI t λ r=>iM t r λ m=>.gen λ g=>.alloc (oA g) m λ j=>wI t r m j λ ok =>
  if ok=true then(if fz=true then .cell r λ c=>K (Ki c true) else L8 m K) else Jf t fz K n
def uP(t:dW)(fz:Bool)(K:Rs->Tr)(n:Nat):Tr :=
 if t.ro=true then .load t.root λ r=>if fz=true then .cell r λ c=>K (Ki c true) else iM t r λ m=>L8 m K
 else Jf t fz K n
def wT(t:dW)(K:Rs->Tr):Nat->Tr
 | 0=>.stuck
 | n+1=>kI t λ r=>iM t r λ m=>.alloc Jm 0 λ c=>.gen λ g=>.alloc (oA g) c λ j=>wI t r m j λ ok =>
  if ok=true then K (dM true 0) else wT t K n
def C9(r:Int)(f:Bool):Rs:=⟨0,f,0,⟨#[]⟩,0,r,0,false⟩
def refuse(c:Cl):Int:=if c.kind=7∨c.kind=9 then(if c.key.size<=64 then 0 else 1) else if c.kind=8 then(if c.key.size<=64/\0<=c.Kc/\c.Kc<=3 then 0 else 1) else 0
noncomputable def kN (c:Cl) (h:Nat) (n:Nat):Tr :=
 if refuse c≠0 then .done {Rs.zero with err:=refuse c}
 else if c.kind=1 then iM c.t c.a λ r=>.done (C9 r false)
 else if c.kind=2 then lH c.t c.a c.b c.n λ ok=>.done (C9 0 ok)
 else if c.kind=3 then kI c.t λ r=>.done (C9 r false)
 else if c.kind=4 then wI c.t c.a c.b c.n λ ok=>.done (C9 0 ok)
 else if c.kind=7 then kI c.t λ i=>lE c.t h c.key .done n i 0
 else if c.kind=8 then vN c h .done n
 else if c.kind=9 then sA c h .done n
 else if c.kind=10 then uP c.t false .done n
 else if c.kind=11 then uP c.t true .done n
 else wT c.t .done n
end
section
open Go.Ct
variable{a b gen:Int}{n c:Nat}
theorem dU{p:Prop}(k:a=b)(h:a≠b:=by decide):p:=absurd k h
theorem zl{h u:Int}{k:ByteArray}(hg:0<=gen)(hk:k.size<=64):nK gen n (dI (({Nd.zero with kind:=5,hash:=h,key:=k,val:=u}:Nd).c [] []) c).dv :=⟨⟨by simp[sX,Nd.own,Nd.jV,Nd.jR,Nd.zero,dI,Nd.c,Nv.dv,Nv.nd],by simp[dI,Nd.c,Nv.dv,Nv.nd,Nd.zero],by simp[dI,Nd.c,Nv.dv,Nv.nd,Nd.zero];omega,by simp[dI,Nd.c,Nv.dv,Nv.nd,Nd.zero],.inr (.inr (.inr (.inl ⟨.inr rfl,hk⟩)))⟩,hg,λ i hi=>by simp[dI,Nd.c,Nv.dv] at hi,fZ,fZ,fZ⟩
theorem w4{p:Int}(hg:0<=gen)(h1:1<=p)(h2:p<=n):nK gen n (dI (zV p) c).dv :=⟨⟨by simp[sX,Nd.own,Nd.jV,Nd.jR,Nd.zero,dI,Nd.c,Nv.dv,Nv.nd,zV],by simp[dI,Nd.c,Nv.dv,Nv.nd,Nd.zero,zV],by simp[dI,Nd.c,Nv.dv,Nv.nd,Nd.zero,zV],by simp[dI,Nd.c,Nv.dv,Nv.nd,Nd.zero,zV],.inr (.inr (.inr (.inr (.inr (.inr ⟨rfl,h1⟩)))))⟩,hg,λ i hi=>by simp[dI,Nd.c,Nv.dv,zV] at hi,⟨by show 0<=p;omega,h2⟩,fZ,fZ⟩
theorem yu{d:Int}(hg:0<=gen)(a1:1<=a)(a2:a<=n)(b1:1<=b)(b2:b<=n)(d1:1<=d)(d2:d<=n):nK gen n (dI (D9 a b d) c).dv :=⟨⟨by simp[sX,Nd.own,Nd.jV,Nd.jR,Nd.zero,dI,Nd.c,Nv.dv,Nv.nd,D9],by simp[dI,Nd.c,Nv.dv,Nv.nd,Nd.zero,D9],by simp[dI,Nd.c,Nv.dv,Nv.nd,Nd.zero,D9],by simp[dI,Nd.c,Nv.dv,Nv.nd,Nd.zero,D9];omega,.inr (.inr (.inr (.inr (.inr (.inl ⟨rfl,b1,d1,a1⟩)))))⟩,hg,λ i hi=>by simp[dI,Nd.c,Nv.dv,D9] at hi,⟨by show 0<=a;omega,a2⟩,⟨by show 0<=b;omega,b2⟩,⟨by show 0<=d;omega,d2⟩⟩
theorem Am{n:Nv}{N:Nat}(h1:n.bS<=N)(h2:n.exp<=N)(h3:n.new<=N)(h4:∀r∈n.xs,r<=N)(hb:∃b:Nat,n.bm=(b:Int)/\b<18446744073709551616)(hh:∃b:Nat,n.hash=(b:Int)/\b<18446744073709551616):mX N (c+1) (dI n c) :=⟨h1,h2,h3,h4,by show(if n.kind=2 then((c+1:Nat):Int) else 0)<=((c+1:Nat):Int);split<;>omega,by show(if n.kind=3∨n.kind=5∨n.kind=6 then((c+1:Nat):Int) else 0)<=((c+1:Nat):Int);split<;>omega,by show(if n.kind=8 then((c+1:Nat):Int) else 0)<=((c+1:Nat):Int);split<;>omega,hb,hh⟩
theorem jX:∃b:Nat,(0:Int)=(b:Int)/\b<18446744073709551616:=⟨0,rfl,by decide⟩
section
variable{H:ByteArray->Nat}{σ τ υ:Kw}{r:Int}{w:List Nat}
theorem dw{p g:Int}(h:Inv H σ)(hp:cB (σ.nd p)):lF H σ (zV p) w g:=by
 have hr:1<=p/\p<=σ.len:=iY hp
 exact⟨.inr (.inr (.inr (.inr (.inr (.inl rfl))))),w4 h.gen hr.1 (by have:=hr.2;omega),Am (by show p<=_;have:=hr.2;omega) (bN _) (bN _) (λ r hr=>nomatch hr) jX jX,
  λ k=>dU (a:=7) (b:=2) k,λ k=>dU (a:=7) (b:=3) k,λ k=>dU (a:=7) (b:=4) k,λ k=>dU (a:=7) (b:=5) k,λ k=>dU (a:=7) (b:=6) k,λ _=>hp,λ k=>dU (a:=7) (b:=8) k⟩
theorem Dg{g g':Int}(hw:w.length<=11)(h1:1<=g')(h2:g'<=σ.mm.gen):lF H σ (oA g') w g :=
 ⟨.inl rfl,ox h2 h1,Am (bN _) (bN _) (bN _) (λ r hr=>nomatch hr) jX jX,
  λ _=>hw,λ k=>dU (a:=2) (b:=3) k,λ k=>dU (a:=2) (b:=4) k,λ k=>dU (a:=2) (b:=5) k,λ k=>dU (a:=2) (b:=6) k,λ k=>dU (a:=2) (b:=7) k,λ k=>dU (a:=2) (b:=8) k⟩
theorem rb{a b d g:Int}(h:Inv H σ)(ha:uW σ a [])(hb1:1<=b)(hb2:b<=σ.len)(hd:uW σ d []):lF H σ (D9 a b d) w g:=by
 have h1:=ha.in;have h2:=hd.in
 exact⟨.inr (.inr (.inr (.inr (.inr (.inr rfl))))),yu h.gen h1.1 (by omega) hb1 (by omega) h2.1 (by omega),Am (by show a<=_;omega) (by show b<=_;omega) (by show d<=_;omega) (λ r hr=>nomatch hr) jX jX,
  λ k=>dU (a:=8) (b:=2) k,λ k=>dU (a:=8) (b:=3) k,λ k=>dU (a:=8) (b:=4) k,λ k=>dU (a:=8) (b:=5) k,λ k=>dU (a:=8) (b:=6) k,λ k=>dU (a:=8) (b:=7) k,λ _=>⟨ha,hd⟩⟩
theorem Be{h:Nat}{k:ByteArray}{u g:Int}(i:Inv H σ)(hk:k.size<=64)(hh:H k=h)(hl:h<18446744073709551616):lF H σ (zY h k u) w g :=
 ⟨.inr (.inr (.inl rfl)),Za i.gen hk,Am (bN _) (bN _) (bN _) (λ r hr=>nomatch hr) jX ⟨h,rfl,hl⟩,
  λ k=>dU (a:=4) (b:=2) k,λ k=>dU (a:=4) (b:=3) k,λ _=>hh,λ k=>dU (a:=4) (b:=5) k,λ k=>dU (a:=4) (b:=6) k,λ k=>dU (a:=4) (b:=7) k,λ k=>dU (a:=4) (b:=8) k⟩
def jz(h:Int)(k:ByteArray)(u:Int):Nv:=({Nd.zero with kind:=5,hash:=h,key:=k,val:=u}:Nd).c [] []
theorem I6{h:Nat}{k:ByteArray}{u g:Int}(i:Inv H σ)(hk:k.size<=64)(hh:H k=h)(hl:h<18446744073709551616)(w0:0<w.length)(w1:w.length<=11)(hu:fT h w):lF H σ (jz h k u) w g :=
 ⟨.inr (.inr (.inr (.inl rfl))),zl i.gen hk,Am (bN _) (bN _) (bN _) (λ r hr=>nomatch hr) jX ⟨h,rfl,hl⟩,
  λ k=>dU (a:=5) (b:=2) k,λ k=>dU (a:=5) (b:=3) k,λ k=>dU (a:=5) (b:=4) k,λ _=>⟨w0,w1,hh,hu⟩,λ k=>dU (a:=5) (b:=6) k,λ k=>dU (a:=5) (b:=7) k,λ k=>dU (a:=5) (b:=8) k⟩
def Wi(h:Int)(ys:List Pr):Nv:=({Nd.zero with kind:=6,hash:=h}:Nd).c [] ys
variable{g x:Int}{xs:List Int}{k:Nat}{v:Nv}
theorem Gw{h:Nat}{ys:List Pr}(i:Inv H σ)(h2:2<=ys.length)(ha:zx ys)(hs:Jl ys)(hh:∀p∈ys,H p.1=h)(hl:h<18446744073709551616)(w1:w.length=11)(hu:fT h w):lF H σ (Wi h ys) w g :=
 ⟨.inr (.inr (.inr (.inr (.inl rfl)))),wv i.gen h2 ha hs,Am (bN _) (bN _) (bN _) (λ r hr=>nomatch hr) jX ⟨h,rfl,hl⟩,
  λ k=>dU (a:=6) (b:=2) k,λ k=>dU (a:=6) (b:=3) k,λ k=>dU (a:=6) (b:=4) k,λ k=>dU (a:=6) (b:=5) k,λ _=>⟨w1,hu,hh⟩,λ k=>dU (a:=6) (b:=7) k,λ k=>dU (a:=6) (b:=8) k⟩
theorem Nc{m:Nat->Option Int}{x:Int}:∀{k:Nat},x∈oM m k->∃j,j<k/\m j=some x
 | 0,h=>nomatch h
 | k+1,h=>by
  simp only[oM,List.mem_append,Option.mem_toList] at h;rcases h with h|h;·obtain⟨j,h1,h2⟩:=Nc h;exact⟨j,by omega,h2⟩
  ·exact⟨k,Nat.lt_succ_self k,h⟩
theorem Mr{b:Nat}(h:BV b xs)(hx:x∈xs):∃j,j<64/\nW b xs j=some x:=by rw[<- (U0 h).2] at hx;exact Nc hx
theorem Wm{b:Nat}(h:BV b xs)(hk:k<64)(hx:nW b xs k=some x):x∈xs:=by
 unfold nW at hx;split at hx;·rename_i hb;cases hx;exact Dw (by rw[h.len];exact pZ hk hb)
 ·cases hx
theorem aA6(hk:64<=k):iU v (k:Int)=none:=by unfold iU Fj;rw[Yj _ (by omega)];simp
theorem Nl(hcv:CV v.nd v.xs v.ys)(hk:k<64):iU v (k:Int)=nW v.bm.toNat v.xs k:=Yd hcv hk
theorem Nm.le{g' b:Int}(h:Nm σ w g b)(hg:g<=g'):Nm σ w g' b:=by
 rcases h with h|h;·exact .inl h
 ·exact .inr ⟨h.1,h.2.1,Int.le_trans h.2.2 hg⟩
theorem Nm.in{b:Int}(h:Nm σ w g b):1<=b/\b<=σ.len:=by rcases h with h|h<;>exact eU (N:=σ.mm.nodes) (i:=b) (by rw[h.1];decide)
theorem nY{b:Nat}(i:Inv H σ)(hb:BV b xs)(hx:∀k:Nat,k<64->∀r,nW b xs k=some r->Nm σ (w++[k]) g r)(hw:w.length<=10)(h0:0<w.length->xs≠[]/\∀b,xs=[b]->(σ.nd b).kind=2):lF H σ (Ck b xs) w g:=by
 have hr:∀r∈xs,1<=r/\r<=σ.len:=λ r hr=>by obtain⟨j,h1,h2⟩:=Mr hb hr;exact(hx j h1 r h2).in
 have hok:nK σ.mm.gen (σ.len+1) (dI (Ck b xs) σ.cl).dv:=mz i.gen hb (λ r h=>by have:=(hr r h).2;omega)
 refine⟨.inr (.inl rfl),hok,Am (bN _) (bN _) (bN _) (λ r h=>by have:=(hr r h).2;omega) ⟨b,rfl,hb.lt⟩ jX,
  λ k=>dU (a:=3) (b:=2) k,λ _=>⟨hw,λ k r hk=>?_,h0⟩,λ k=>dU (a:=3) (b:=4) k,λ k=>dU (a:=3) (b:=5) k,λ k=>dU (a:=3) (b:=6) k,λ k=>dU (a:=3) (b:=7) k,λ k=>dU (a:=3) (b:=8) k⟩
 by_cases h64:k<64;·rw[Nl (v:=dI (Ck b xs) σ.cl) ⟨rfl,hok.1⟩ h64] at hk;exact hx k h64 r hk
 ·rw[aA6 (by omega)] at hk;cases hk
structure nQ(σ:Kw)(m:Int)(w:List Nat)(g:Int)(b:Nat)(xs:List Int):Prop where
 kd:(σ.nd m).kind=3
 bm:(σ.nd m).bm.toNat=b
 el:(σ.nd m).xs=xs
 cv:CV (σ.nd m).nd (σ.nd m).xs (σ.nd m).ys
 bv:BV b xs
 wl:w.length<=10
 br:∀k:Nat,k<64->∀r,nW b xs k=some r->Nm σ (w++[k]) g r
 ne:0<w.length->xs≠[]/\∀b,xs=[b]->(σ.nd b).kind=2
theorem oQ.rR{m g:Int}(i:Inv H σ)(h:oQ σ m w g)(k:(σ.nd m).kind=3):nQ σ m w g (σ.nd m).bm.toNat (σ.nd m).xs:=by
 have hr:=h.in;have hn:=i.nd m hr.1 hr.2;obtain⟨h1,h2,h3,_⟩:=hn.k3 k
 have hcv:CV (σ.nd m).nd (σ.nd m).xs (σ.nd m).ys:=⟨k,hn.valid⟩;obtain⟨b,hb1,hb2⟩:=hn.bd.bm;have hb:(σ.nd m).bm.toNat=b:=by omega
 rw[h.2.1] at h1 h2 h3;refine⟨k,rfl,rfl,hcv,by rw[hb];exact hcv.bv hb1 hb2,h1,λ k' hk r hr=>?_,h3⟩;exact(h2 k' r (by rw[Nl hcv hk];exact hr)).le h.2.2
theorem nQ.lk{m g:Int}{b:Nat}{xs:List Int}(h:nQ σ m w g b xs){k:Nat}(hk:k<64):iU (σ.nd m) (k:Int)=nW b xs k:=by rw[Nl h.cv hk,h.bm,h.el]
theorem nQ.up{m g r:Int}{b:Nat}{xs:List Int}(h:nQ σ m w g b xs){k:Nat}(hk:k<64){o:Int}(ho:iU (σ.nd m) (k:Int)=some o)(hr:1<=r):Up (σ.nd m) (k:Int) r=Ck b (rV xs (fQ b k) r)/\BV b (rV xs (fQ b k) r)/\(∀j,j<64->nW b (rV xs (fQ b k) r) j=Lk (nW b xs) k (some r) j)/\fQ b k<xs.length:=by
 rw[h.lk hk] at ho;have hb:b.testBit k=true:=by unfold nW at ho;split at ho;assumption;cases ho
 have hu:=Vh h.bv hk hb hr;refine⟨?_,hu.1,hu.2,by rw[h.bv.len];exact pZ hk hb⟩;unfold Up s8;rw[if_pos ⟨h.cv,hr,by rw[h.bm,rL b hk];exact hb⟩,h.bm,h.el,pJ b hk];rfl
theorem nQ.ins{m g r:Int}{b:Nat}{xs:List Int}(h:nQ σ m w g b xs){k:Nat}(hk:k<64)(ho:iU (σ.nd m) (k:Int)=none)(hr:1<=r):nh (σ.nd m) (k:Int) r=Ck (b ||| 2^k) (vM xs (fQ b k) r)/\BV (b ||| 2^k) (vM xs (fQ b k) r)/\(∀j,j<64->nW (b ||| 2^k) (vM xs (fQ b k) r) j=Lk (nW b xs) k (some r) j)/\(vM xs (fQ b k) r).length=xs.length+1:=by
 rw[h.lk hk] at ho;have hb:b.testBit k=false:=by
  unfold nW at ho;cases hb:b.testBit k with
  | false=>rfl
  | true=>rw[hb] at ho;simp at ho
 have hu:=Ix h.bv hk hb hr;refine⟨?_,hu.1,hu.2,I3 (by rw[h.bv.len];have:=xT b k (64-k);rwa [show k+(64-k)=64 by omega] at this) r⟩;unfold nh q9;rw[if_pos ⟨h.cv,⟨by omega,by omega⟩,hr,by rw[h.bm,rL b hk];exact hb⟩,h.bm,h.el,pJ b hk,qP b hk];rfl
theorem nQ.re{m g:Int}{b:Nat}{xs:List Int}(h:nQ σ m w g b xs){k:Nat}(hk:k<64){o:Int}(ho:iU (σ.nd m) (k:Int)=some o):Pg (σ.nd m) (k:Int)=Ck (b ^^^ (b &&& 2^k)) (tE xs (fQ b k))/\BV (b ^^^ (b &&& 2^k)) (tE xs (fQ b k))/\(∀j,j<64->nW (b ^^^ (b &&& 2^k)) (tE xs (fQ b k)) j=Lk (nW b xs) k none j)/\(tE xs (fQ b k)).length+1=xs.length:=by
 rw[h.lk hk] at ho;have hb:b.testBit k=true:=by unfold nW at ho;split at ho;assumption;cases ho
 have hu:=Ug h.bv hk hb;refine⟨?_,hu.1,hu.2,Jp (by rw[h.bv.len];exact pZ hk hb)⟩;unfold Pg tc;rw[if_pos ⟨h.cv,by rw[h.bm,rL b hk];exact hb⟩,h.bm,h.el,pJ b hk,uF b hk];rfl
end
end
section
open Go.Ct
def ctR(ro:Bool):CT:=if ro=true then .rort else .root
def bY(σ:Kw)(t:dW):Prop:=1<=t.root/\t.root<=σ.cl/\σ.ct t.root=ctR t.ro
def qU(σ:Kw)(i:Int)(w:List Nat)(g:Int):Prop:=uW σ i w/\(σ.nd i).gen=g
section
variable{H:ByteArray->Nat}{Q:Rs->Kw->Prop}{σ τ υ:Kw}{i m p g:Int}{w:List Nat}{t:dW}
theorem bY.up(h:bY σ t)(l:Le σ τ):bY τ t:=⟨h.1,by have:=h.2.1;have:=l.cl;omega,by rw[l.ct _ h.2.1];exact h.2.2⟩
theorem qU.up(h:qU σ i w g)(l:Le σ τ):qU τ i w g:=⟨h.1.up l,by rw[l.nd h.1.in.2];exact h.2⟩
theorem qU.in(h:qU σ i w g):1<=i/\i<=σ.len:=h.1.in
theorem qU.ib(i1:Inv H σ)(h:qU σ i w g):oQ σ (σ.ce (σ.nd i).main) w g:=by have hc:=i1.eH h.1.1;have:=((i1.ce _ hc.1 hc.2.1).main i hc.2.2).2;rwa [h.1.2,h.2] at this
theorem aDB{cs:List Int}{c o:Int}(h1:1<=c)(h2:c<=cs.length)(h:¬iQ cs c o):bK cs c≠o:=λ e=>h ⟨h1,h2,by unfold bK at e;rwa [if_pos ⟨h1,h2⟩] at e⟩
theorem Q9{n:Nv}{c:Int}{k:Int->Tr}(i0:Inv H σ)(hn:lF H σ n w g)(hc:ck σ n c w g)
  (hk:∀υ r cl,Le σ υ->Inv H υ->r=((σ.len+1:Nat):Int)->υ.mm=σ.mm.push n c->υ.nd r=dI n cl->υ.way r=w->υ.gb r=g->1<=r->r<=υ.len->WT H Q (k r) υ):WT H Q (.alloc n c k) σ:=by
 obtain⟨υ,l2,i2,e2,e3,e4,e5⟩:=sk i0 hn hc;refine⟨υ,l2,i2,e2,hk υ _ σ.cl l2 i2 rfl e2 e3 e4 e5 (by omega) ?_⟩;have:υ.len=σ.len+1:=by simp only[Kw.len,e2,Mm.push,List.length_append,List.length_cons,List.length_nil]
 omega
structure Su(σ:Kw)(m p:Int):Prop where
 mkd:cB (σ.nd m)
 pk:cB (σ.nd p)
 pm:rJ σ m p
 ce:σ.ce (σ.nd m).prev=p∨σ.ce (σ.nd m).prev=0∨((σ.nd (σ.ce (σ.nd m).prev)).kind=7/\(σ.nd (σ.ce (σ.nd m).prev)).bS=p)
theorem rJ.up(i0:Inv H σ)(hm:cB (σ.nd m))(h:rJ σ m p)(l:Le σ τ):rJ τ m p:=by have hr:1<=m/\m<=σ.len:=iY hm;exact⟨by rw[l.way m hr.2,l.gb m hr.2];exact h.1.up l,bC.up i0 h.1.1 h.2 l⟩
theorem Su.up(i0:Inv H σ)(i1:Inv H τ)(h:Su σ m p)(l:Le σ τ):Su τ m p:=by
 have hr:1<=m/\m<=σ.len:=iY h.mkd;have hp:1<=p/\p<=σ.len:=iY h.pk;have hc:=i0.kR h.mkd;have hx:=l.nxt hc.1 hc.2.1 hc.2.2;refine⟨by rw[l.nd hr.2];exact h.mkd,by rw[l.nd hp.2];exact h.pk,h.pm.up i0 h.mkd l,?_⟩;rw[l.nd hr.2];rcases h.ce with e|e|⟨e1,e2⟩
 ·rw[e] at hx;rcases hx.2 h.pk with h1|h1|h1;·exact .inl h1
  ·exact .inr (.inl h1)
  ·exact .inr (.inr h1)
 ·rw[e] at hx;exact .inr (.inl (hx.1 (kB (.inl (yR _)))))
 ·have e3:=hx.1 (kB (.inr (.inl e1)));rw[e3];rw[l.nd (eU (N:=σ.mm.nodes) (i:=σ.ce (σ.nd m).prev) (by rw[e1];decide)).2];exact .inr (.inr ⟨e1,e2⟩)
theorem Su.cell(i0:Inv H σ)(h:Su σ m p):1<=(σ.nd m).prev/\(σ.nd m).prev<=σ.cl/\σ.ct (σ.nd m).prev=.prev m:=i0.kR h.mkd
theorem Inv.desc(i0:Inv H σ){v:Int}(h:(σ.nd v).kind=8):v<=σ.len/\uW σ (σ.nd v).bS []/\uW σ (σ.nd v).new []/\1<=(σ.nd v).status/\(σ.nd v).status<=σ.cl/\σ.ct (σ.nd v).status=.stat v:=by have hr:1<=v/\v<=σ.len:=eU (N:=σ.mm.nodes) (i:=v) (by rw[h];decide);have hn:=i0.nd v hr.1 hr.2;have h8:=hn.k8 h;exact⟨hr.2,h8.1,h8.2.1,h8.2.2.1,hn.bd.status,h8.2.2.2⟩
theorem bY.rw(hT:bY σ t)(hr:t.ro=false):σ.ct t.root=.root:=by rw[hT.2.2,hr];rfl
theorem S8{v s:Int}(i0:Inv H σ)(h:(σ.nd v).kind=8)(hs:s=1∨s=2){o:Int}(l1:Le σ τ)(i1:Inv H τ):Wy τ (σ.nd v).status o s:=by
 have hd:=i0.desc h;have e:τ.ct (σ.nd v).status=.stat v:=by rw[l1.ct _ hd.2.2.2.2.1];exact hd.2.2.2.2.2
 refine⟨by omega,by have:=i1.two;omega,λ i' h=>?_,λ m' h=>?_,λ d h=>.inr hs,λ h=>?_,λ h=>?_⟩<;>rw[e] at h<;>cases h
theorem l7(hT:bY σ t)(i0:Inv H σ):σ.ce t.root<=σ.len/\(uW σ (σ.ce t.root) []∨((σ.nd (σ.ce t.root)).kind=8/\t.ro=false)):=by
 have h:=i0.ce _ hT.1 hT.2.1;refine⟨h.hi,?_⟩;cases hr:t.ro with
 | true=>exact .inl (h.rort (by rw[hT.2.2,hr];rfl))
 | false=>
  rcases h.root (hT.rw hr) with h1|h1;·exact .inl h1
  ·exact .inr ⟨h1,rfl⟩
theorem bY.roI(hT:bY σ t)(i0:Inv H σ)(hr:t.ro=true):uW σ (σ.ce t.root) []:=(i0.ce _ hT.1 hT.2.1).rort (by rw[hT.2.2,hr];rfl)
theorem S9{n o:Int}(i0:Inv H σ)(hi:qU σ i w g)(hn:oQ σ n w g)(l1:Le σ τ)(i1:Inv H τ):Wy τ (σ.nd i).main o n:=by
 have hc:=i0.eH hi.1.1;have e:τ.ct (σ.nd i).main=.main i:=by rw[l1.ct _ hc.2.1];exact hc.2.2
 have hn1:=hn.up l1;refine⟨by have:=hn1.in;omega,hn1.in.2,λ i' h=>?_,λ m' h=>?_,λ d h=>?_,λ h=>?_,λ h=>?_⟩<;>rw[e] at h
 ·cases h;have:=hi.up l1;rw[this.1.2,this.2];exact hn1
 ·cases h
 ·cases h
 ·cases h
 ·cases h
end
end
section
open Go.Ct
theorem Po(h:Nat)(level:Int):∃k:Nat,k<64/\eZ h level=(k:Int):=by
 unfold eZ;try dsimp only
 split;·exact⟨0,by decide,rfl⟩
 ·exact⟨_,xN _ _,rfl⟩
theorem Ap{h l:Nat}(hl:l<=10):eZ h ((l:Nat):Int)=((sl h l:Nat):Int):=by unfold eZ;rw[if_neg (by omega),Int.toNat_natCast]
theorem tL{h k:Nat}{w:List Nat}(hu:fT h (w++[k])):fT h w:=λ j hj=>by have:=hu j (by simp;omega);rw[this,iX,List.getElem?_append_left hj,<- iX]
theorem Lr(h:Nat):fT h []:=λ k hk=>absurd hk (Nat.not_lt_zero k)
theorem rQ{h:Nat}{w:List Nat}(hu:fT h w):fT h (w++[sl h w.length]):=λ j hj=>by
 rw[List.length_append,List.length_singleton] at hj;by_cases e:j<w.length;·rw[hu j e,iX,iX,List.getElem?_append_left e]
 ·have:j=w.length:=by omega
  subst this;simp[iX]
theorem ay{xs:List Int}{p:Nat}{r b:Int}(hp:p<xs.length)(h:rV xs p r=[b]):b=r/\xs.length=1:=by
 have hl:=wP hp r;rw[h] at hl;have h1:xs.length=1:=by simpa using hl.symm
 have hp0:p=0:=by omega
 subst hp0;have:=Oo (xs:=xs) (p:=0) hp r 0;rw[h,if_pos rfl] at this;exact⟨by simpa using this,h1⟩
section
variable{H:ByteArray->Nat}{Q:Rs->Kw->Prop}{σ τ υ:Kw}{i m p g:Int}{w:List Nat}{t:dW}
variable{v n:Nv}{k b:Nat}{r o:Int}{xs:List Int}
theorem lJ{k b:Int}(h:iU v k=some b):v.kind=3:=by unfold iU at h;have:=Cc (show(Fj v.nd v.xs v.ys v.bm.toNat k).isSome=true by rw[h];rfl);exact this.1.1
theorem oJ{cl:Int}{c:Nat}(hm:cB n)(e:σ.nd r=dI n c)(hw:σ.way r=w)(hg:σ.gb r=g):oQ σ r w g:=⟨by rw[e];exact hm,hw,by rw[hg];exact Int.le_refl _⟩
theorem yN(hn:cB n)(h:oQ σ m w g)(hs:bC σ m):ck σ n m w g :=⟨⟨by have:=h.in;omega,h.in.2⟩,λ k=>by unfold cB at hn;omega,λ _=>.inr ⟨h,hs⟩,λ k=>by unfold cB at hn;omega⟩
theorem nQ.upL(h:nQ σ m w g b xs)(l:Le σ τ):nQ τ m w g b xs:=by have hr:=eU (N:=σ.mm.nodes) (i:=m) (by have:=h.kd;simp only[Kw.nd] at this;rw[this];decide);have e:=l.nd hr.2;refine⟨by rw[e];exact h.kd,by rw[e];exact h.bm,by rw[e];exact h.el,by rw[e];exact h.cv,h.bv,h.wl,λ k hk r hr=>(h.br k hk r hr).up l,λ h0=>⟨(h.ne h0).1,λ b hb=>?_⟩⟩;have:=(h.ne h0).2 b hb;rw[l.nd (eU (N:=σ.mm.nodes) (i:=b) (by rw[this];decide)).2];exact this
theorem qa(i0:Inv H σ)(hc:nQ σ m w g b xs)(hk:k<64)(ho:iU (σ.nd m) (k:Int)=some o)(hr:Nm σ (w++[k]) g r)(h0:0<w.length->xs.length=1->(σ.nd r).kind=2):lF H σ (Up (σ.nd m) (k:Int) r) w g:=by
 obtain⟨e,h1,h2,h3⟩:=hc.up hk ho hr.in.1;rw[e];refine nY i0 h1 (λ j hj v hv=>?_) hc.wl (λ hw=>⟨λ e=>?_,λ b hb=>?_⟩)
 ·rw[h2 j hj] at hv;unfold Lk at hv;split at hv;·rename_i ej;cases hv;rw[ej];exact hr
  ·exact hc.br j hj v hv
 ·have:=wP h3 r;rw[e] at this;simp at this;omega
 ·obtain⟨e1,e2⟩:=ay h3 hb;rw[e1];exact h0 hw e2
theorem Rg(hc:nQ σ m w g b xs)(hk:k<64)(ho:iU (σ.nd m) (k:Int)=some o)(hr:1<=r):(Up (σ.nd m) (k:Int) r).kind=3:=by rw[(hc.up hk ho hr).1];rfl
theorem qU.E6(i0:Inv H σ)(h:qU σ i w g):1<=g/\g<=σ.mm.gen/\w.length<=11:=by
 have hn:=i0.nd i h.in.1 h.in.2;have h2:=hn.k2 h.1.1;have hv:=hn.valid.2.2.2.2;have hg:=hn.gen;rw[h.2] at hg;refine⟨?_,hg,by rw[<- h.1.2];exact h2.1⟩;have hk:=h.1.1;rcases hv with h|h|h|h|h|h|h
 ·exact absurd (hk.symm.trans h) (by decide)
 ·have:=h.2;rw[<- ‹qU σ i w g›.2];exact this
 ·exact absurd (hk.symm.trans h.1) (by decide)
 ·rcases h.1 with h|h<;>exact absurd (hk.symm.trans h) (by decide)
 ·exact absurd (hk.symm.trans h.1) (by decide)
 ·exact absurd (hk.symm.trans h.1) (by decide)
 ·exact absurd (hk.symm.trans h.1) (by decide)
theorem m4{K:Int->Tr}{g':Int}(i0:Inv H σ)(h1:1<=g)(h2:g<=σ.mm.gen)(hw:w.length<=11)(hm:oQ σ m w g')(hg:g'<=g)(hK:∀τ j,Le σ τ->Inv H τ->qU τ j w g->WT H Q (K j) τ):WT H Q (.alloc (oA g) m K) σ :=Q9 (w:=w) (g:=0) i0 (Dg hw h1 h2) ⟨⟨by have:=hm.in;omega,hm.in.2⟩,λ _=>hm.le hg,λ k=>absurd k (kB (.inr (.inr (.inl rfl)))),λ k=>dU (a:=2) (b:=8) k⟩ λ υ j cl l1 i1 _ _ e1 e2 _ _ _=>hK υ j l1 i1 ⟨⟨by rw[e1];rfl,e2⟩,by rw[e1];rfl⟩
theorem s6(h:v.kind=5):unV v=zY v.hash v.key v.val:=by unfold unV Gp;rw[if_pos (show v.nd.kind=5 from h)];rfl
theorem M9(h:BV b xs):Na (Ck b xs)=if xs.length=1 then some (xs.getD 0 0) else none:=by
 have hcv:CV (Ck b xs).nd xs []:=by have:=aBY h (none,0);exact y4.1 this
 unfold Na r7;by_cases e:xs.length=1;·rw[if_pos e,if_pos ⟨hcv,e⟩];rfl
 ·rw[if_neg e,if_neg λ h=>e h.2]
theorem pq{s:Nv}{level:Int}(h:BV b xs):coV (Ck b xs) level s=if xs.length=1/\0<level/\s.kind=4 then tmV s else Ck b xs:=by
 have e:Tw (Ck b xs).nd (Ck b xs).xs (Ck b xs).ys level s.nd=decide (xs.length=1/\0<level/\s.kind=4):=by
  unfold Tw;have h1:r7 (Ck b xs).nd (Ck b xs).xs (Ck b xs).ys=Na (Ck b xs):=rfl;rw[h1,M9 h];refine decide_eq_decide.2 ⟨λ h=>⟨?_,h.2⟩,λ h=>⟨?_,h.2⟩⟩
  ·have:=h.1;split at this;·assumption
   ·cases this
  ·rw[if_pos h.1];rfl
 unfold coV;rw[e];by_cases hx:xs.length=1/\0<level/\s.kind=4;·rw[if_pos hx,if_pos (decide_eq_true hx)]
 ·rw[if_neg hx,if_neg (by rw[decide_eq_false hx];decide)]
structure aC9(H:ByteArray->Nat)(v:Nv):Prop where
 sz:v.key.size<=64
 ha:H v.key=v.hash.toNat
 hn:v.hash=((v.hash.toNat:Nat):Int)
 hl:v.hash.toNat<18446744073709551616
theorem Inv.leaf(i0:Inv H σ){s:Int}(h:(σ.nd s).kind=4∨(σ.nd s).kind=5):aC9 H (σ.nd s):=by
 have hr:=eU (N:=σ.mm.nodes) (i:=s) (by rcases h with h|h<;>(simp only[Kw.nd] at h;rw[h];decide));have hn:=i0.nd s hr.1 hr.2;obtain⟨b,hb1,hb2⟩:=hn.bd.hash
 refine⟨?_,?_,by omega,by omega⟩
 ·have hv:=hn.valid.2.2.2.2;rcases hv with h'|h'|h'|h'|h'|h'|h'
  ·have:(σ.nd s).kind=1:=h';omega
  ·have:(σ.nd s).kind=2:=h'.1;omega
  ·have:(σ.nd s).kind=3:=h'.1;omega
  ·exact h'.2
  ·have:(σ.nd s).kind=6:=h'.1;omega
  ·have:(σ.nd s).kind=8:=h'.1;omega
  ·have:(σ.nd s).kind=7:=h'.1;omega
 ·rcases h with h|h;·exact hn.k4 h
  ·exact(hn.k5 h).2.2.1
theorem yz{v:Nv}(h:aC9 H v):zY v.hash v.key v.val=zY ((v.hash.toNat:Nat):Int) v.key v.val:=by rw[<- h.hn]
end
end
section
open Go.Ct
theorem yE{l:List Pr}:Jl l↔∀p∈l,p.1.size<=64:=by
 constructor;·intro h p hp;obtain⟨i,hi,e⟩:=List.mem_iff_getElem.1 hp;have:=h i hi;rw[iA hi,e] at this;exact this
 ·intro h i hi;rw[iA hi];exact h _ (List.getElem_mem hi)
theorem jw{a b:Nat}(ha:a<18446744073709551616)(hb:b<18446744073709551616)(h:∀j,j<11->sl a j=sl b j):a=b:=by
 have key:∀d j,j+d=11->a >>> (6*j)=b >>> (6*j):=by
  intro d;induction d with
  | zero=>
   intro j hj;have hj:j=11:=by omega
   subst hj;rw[Nat.shiftRight_eq_div_pow,Nat.shiftRight_eq_div_pow,Nat.div_eq_of_lt (by omega),Nat.div_eq_of_lt (by omega)]
  | succ d ih=>intro j hj;have h1:=ih (j+1) (by omega);have h2:=h j (by omega);unfold sl at h2;rw[<- Oy,<- Oy] at h1;omega
 have:=key 11 0 rfl;simpa using this
theorem py{a b:Nat}{w:List Nat}(ha:a<18446744073709551616)(hb:b<18446744073709551616)(h1:fT a w)(h2:fT b w)(hw:w.length=11):a=b:=jw ha hb λ j hj=>by rw[h1 j (by omega),h2 j (by omega)]
section
variable{H:ByteArray->Nat}{Q:Rs->Kw->Prop}{σ τ υ:Kw}{i m p g:Int}{w:List Nat}{t:dW}
structure du(H:ByteArray->Nat)(σ:Kw)(m:Int)(w:List Nat)(h:Nat):Prop where
 kd:(σ.nd m).kind=6
 hs:(σ.nd m).hash=((h:Nat):Int)
 hl:h<18446744073709551616
 lv:LV (σ.nd m).nd (σ.nd m).xs (σ.nd m).ys
 two:2<=(σ.nd m).ys.length
 sa:SA (σ.nd m).ys
 sh:∀p∈(σ.nd m).ys,p.1.size<=64
 ha:∀p∈(σ.nd m).ys,H p.1=h
 wl:w.length=11
 un:fT h w
theorem oQ.Xb(i0:Inv H σ)(h:oQ σ m w g)(k:(σ.nd m).kind=6):du H σ m w (σ.nd m).hash.toNat:=by
 have hr:=h.in;have hn:=i0.nd m hr.1 hr.2;obtain⟨h1,h2,h3,_⟩:=hn.k6 k
 obtain⟨b,hb1,hb2⟩:=hn.bd.hash;have hv:=hn.valid.2.2.2.2;have hl:2<=(σ.nd m).ys.length/\zx (σ.nd m).ys/\Jl (σ.nd m).ys:=by
  rcases hv with h'|h'|h'|h'|h'|h'|h';·have:(σ.nd m).kind=1:=h';omega
  ·have:(σ.nd m).kind=2:=h'.1;omega
  ·have:(σ.nd m).kind=3:=h'.1;omega
  ·rcases h'.1 with h''|h'';·have:(σ.nd m).kind=4:=h'';omega
   ·have:(σ.nd m).kind=5:=h'';omega
  ·exact h'.2
  ·have:(σ.nd m).kind=8:=h'.1;omega
  ·have:(σ.nd m).kind=7:=h'.1;omega
 rw[h.2.1] at h1 h2;exact⟨k,by omega,by omega,⟨k,hn.valid⟩,hl.1,nD.1 hl.2.1,yE.1 hl.2.2,h3,h1,h2⟩
theorem aBN(i0:Inv H σ){h:Nat}(hl:du H σ m w h){k:ByteArray}{u:Int}(hk:k.size<=64)(hH:H k=h):cB (grV (σ.nd m) k u)/\lF H σ (grV (σ.nd m) k u) w g:=by
 have e:grV (σ.nd m) k u=Wi ((h:Nat):Int) (lO (σ.nd m).ys k u):=by unfold grV lS Rr;rw[if_pos ⟨hl.lv,hk⟩,if_pos hl.sa,hl.hs];rfl
 rw[e];refine⟨.inr (.inr rfl),Gw i0 ?_ (nD.2 (yQ hl.sa)) (yE.2 λ p hp=>?_) (λ p hp=>?_) hl.hl hl.wl hl.un⟩;·rw[yP hl.sa];have:=hl.two;(try dsimp only);split<;>omega
 ·rcases Bq hp with rfl|hp;·exact hk
  ·exact hl.sh p hp
 ·rcases Bq hp with rfl|hp;·exact hH
  ·exact hl.ha p hp
theorem aAW(i0:Inv H σ){h:Nat}(hl:du H σ m w h){k:ByteArray}(hf:(cL (σ.nd m).ys k).isSome=true):cB (xh (σ.nd m) k)/\lF H σ (xh (σ.nd m) k) w g:=by
 have hf2:(pM (σ.nd m).ys k).isSome=true:=by unfold cL at hf;rwa [if_pos hl.sa] at hf
 have hlen:=R6 (k:=k) hl.sa;rw[if_pos hf2] at hlen;have hmem:∀p∈jJ (σ.nd m).ys k,p∈(σ.nd m).ys:=λ p hp=>(List.mem_filter.1 hp).1;have htwo:=hl.two;by_cases h1:(jJ (σ.nd m).ys k).length=1
 ·have e:xh (σ.nd m) k=jz ((h:Nat):Int) ((jJ (σ.nd m).ys k).getD 0 (⟨#[]⟩,0)).1 ((jJ (σ.nd m).ys k).getD 0 (⟨#[]⟩,0)).2:=by unfold xh rC sW;rw[if_pos ⟨hl.lv,hf⟩,if_pos hl.sa,hl.hs];unfold Ph Jv;dsimp only;rw[if_pos h1,if_pos h1];rfl
  rw[e];have hp:(jJ (σ.nd m).ys k).getD 0 (⟨#[]⟩,0)∈(σ.nd m).ys:=hmem _ (by rw[iA (by omega)];exact List.getElem_mem _);exact⟨.inr (.inl rfl),I6 i0 (hl.sh _ hp) (hl.ha _ hp) hl.hl (by rw[hl.wl];decide) (by rw[hl.wl];decide) hl.un⟩
 ·have e:xh (σ.nd m) k=Wi ((h:Nat):Int) (jJ (σ.nd m).ys k):=by unfold xh rC sW;rw[if_pos ⟨hl.lv,hf⟩,if_pos hl.sa,hl.hs];unfold Ph Jv;dsimp only;rw[if_neg h1,if_neg h1];rfl
  rw[e];exact⟨.inr (.inr rfl),Gw i0 (by omega) (nD.2 (xX k hl.sa)) (yE.2 λ p hp=>hl.sh p (hmem p hp)) (λ p hp=>hl.ha p (hmem p hp)) hl.hl hl.wl hl.un⟩
def uR(h l:Nat):List Nat:=(List.range l).map (sl h)
theorem fY(h l:Nat):(uR h l).length=l:=by simp[uR]
theorem K1(h l:Nat):uR h (l+1)=uR h l++[sl h l]:=by simp[uR,List.range_succ]
theorem uB(h l:Nat):fT h (uR h l):=λ k hk=>by rw[fY] at hk;simp[uR,iX,hk]
theorem uz{h:Nat}{w:List Nat}(hu:fT h w):w=uR h w.length:=by
 refine List.ext_getElem (by rw[fY]) λ k h1 h2=>?_;have:=hu k h1;rw[iX,List.getElem?_eq_getElem h1] at this;simp only[uR,List.getElem_map,List.getElem_range]
 exact this.symm
theorem Zl{a b l:Nat}(hl:l<=kX a b):fT a (uR b l):=λ k hk=>by rw[fY] at hk;rw[<- uB b l k (by rw[fY];exact hk)];exact T5 (by omega)
theorem Nt:BV 0 []:=⟨by decide,by decide,λ i hi=>absurd hi (Nat.not_lt_zero i)⟩
theorem Gk:∀k,fQ 0 k=0
 | 0=>rfl
 | k+1=>by simp only[fQ,Gk k,Nat.zero_testBit];rfl
theorem gf{k:Nat}(hk:k<64){r:Int}(hr:1<=r):BV (dY 0 (k:Int)) [r]/\∀j,j<64->∀v,nW (dY 0 (k:Int)) [r] j=some v->j=k/\v=r:=by
 rw[qP 0 hk];have h:=Ix Nt hk (by simp) hr;rw[Gk,show vM [] 0 r=[r] from rfl] at h;refine⟨h.1,λ j hj v hv=>?_⟩;rw[h.2 j hj] at hv;unfold Lk at hv;split at hv
 ·cases hv;exact⟨by assumption,rfl⟩
 ·simp[nW] at hv
theorem aB4{k l:Nat}(hk:k<64)(hl:l<64)(hne:k≠l){x s:Int}(hx:1<=x)(hs:1<=s):BV (dY (dY 0 (k:Int)) (l:Int)) (two k l x s)/\∀j,j<64->∀v,nW (dY (dY 0 (k:Int)) (l:Int)) (two k l x s) j=some v->(j=k/\v=x)∨(j=l/\v=s):=by
 have h1:=gf hk hx;rw[qP 0 hk] at h1 ⊢;rw[qP _ hl];have hb:(0 ||| 2^k).testBit l=false:=by rw[Ci];simp;omega
 have h:=Ix h1.1 hl hb hs;have hc:fQ (0 ||| 2^k) l=if k<l then 1 else 0:=by have:=Bc (b:=0) (b':=0 ||| 2^k) (i:=k) (by simp) (λ j _=>Ci 0 k j) l (by omega);rw[this,Gk];omega
 have e:vM [x] (fQ (0 ||| 2^k) l) s=two k l x s:=by
  rw[hc];unfold two;by_cases hkl:k<l;·rw[if_pos hkl,if_pos hkl];rfl
  ·rw[if_neg hkl,if_neg hkl];rfl
 rw[e] at h;refine⟨h.1,λ j hj v hv=>?_⟩;rw[h.2 j hj] at hv;unfold Lk at hv;split at hv;·cases hv;exact .inr ⟨by assumption,rfl⟩
 ·exact .inl (h1.2 j hj v hv)
theorem Q7:∀(a b:List NI) (r:Int) (K:Int->Tr),Ba (a++b) r K=Ba a r λ r=>Ba b r K
 | [],_,_,_=>rfl
 | x::a,b,r,K=>by simp only[List.cons_append,Ba,Q7 a b]
theorem sK{n:Nv}(i0:Inv H σ)(h2:n.kind≠2):ck σ n 0 w g:=⟨⟨Int.le_refl _,bN _⟩,λ k=>absurd k h2,λ _=>.inl rfl,λ _=>rfl⟩
theorem vy{p q:Pr}(hne:p.1≠q.1):2<=(zE [p,q]).length/\SA (zE [p,q])/\∀r∈zE [p,q],r=p∨r=q:=by
 refine⟨?_,N4 _,λ r hr=>?_⟩
 ·have h1:zE [p]=[p]:=rfl;rw[show [p,q]=[p]++[q] from rfl,sZ,h1,yP (by simp[SA])];have:pM [p] q.1=none:=pG λ r hr=>by rw[List.mem_singleton.1 hr];exact hne
  rw[this];simp
 ·rw[show [p,q]=[p]++[q] from rfl,sZ] at hr;rcases Bq hr with h|h;·exact .inr h
  ·have h1:zE [p]=[p]:=rfl;rw[h1] at h;exact .inl (List.mem_singleton.1 h)
theorem Yu{x:Int}{h0 h:Nat}{p:Pr}{k:ByteArray}{u g:Int}:∀(n lvl:Nat),∃a:NI,∀f,∃l,dN x h0 h p k u g f n lvl=a::l
 | 0,lvl=>by
  by_cases e:lvl=11
  ·exact⟨I2 h (zE [p,(k,u)]),λ f=>⟨[],by unfold dN;rw[if_pos e]⟩⟩
  ·exact⟨xJ h k u,λ f=>⟨_,by unfold dN;rw[if_neg e]⟩⟩
 | n+1,lvl=>by
  obtain⟨a,ha⟩:=Yu (x:=x) (h0:=h0) (h:=h) (p:=p) (k:=k) (u:=u) (g:=g) n (lvl+1)
  refine⟨a,λ f=>?_⟩
  obtain⟨l,hl⟩:=ha f
  exact⟨_,by unfold dN;rw[hl];rfl⟩
end
end
end Go.Proofs.YtbajmaoegmbfgaaGreat
namespace Go.Ct
open Go Go.RowKit
section
def Hw(h:Nat)(a:ByteArray)(k:Nat)(b:ByteArray):Bool:=if kX h k<11 then decide (sl h (kX h k)<sl k (kX h k)) else dA a b
end
end Go.Ct
namespace Go.Proofs.YtbajmaoegmbfgaaGreat
section
open Go Go.RowKit Go.Ct
end
section
open Go.RowKit Go.Ct
section
variable{H:ByteArray->Nat}{σ:Kw}{i m p g:Int}{w:List Nat}{t:dW}
theorem Mo(i0:Inv H σ)(hi:qU σ i w g):∃p,gQ σ.mm.nodes σ.mm.cs i=some p/\oQ σ p w g:=by
 have hm:=hi.ib i0;have hc:=i0.kR hm.1;have hp:=(i0.ce _ hc.1 hc.2.1).prev _ hc.2.2;have e1:wK σ.mm.nodes σ.mm.cs i=σ.ce (σ.nd i).main:=rfl;have e2:oP σ.mm.nodes σ.mm.cs i=σ.ce (σ.nd (σ.ce (σ.nd i).main)).prev:=rfl;have e3:zN σ.mm.nodes σ.mm.cs i=if(σ.nd (oP σ.mm.nodes σ.mm.cs i)).kind=7 then(σ.nd (oP σ.mm.nodes σ.mm.cs i)).bS else oP σ.mm.nodes σ.mm.cs i:=rfl;unfold gQ;rw[if_pos ⟨hi.1.1,by rw[e1];exact hm.1⟩];have key:∀q,rJ σ (σ.ce (σ.nd i).main) q->oQ σ q w g:=λ q hq=>by have:=hq.1;rw[hm.2.1] at this;exact this.le hm.2.2
 by_cases h0:oP σ.mm.nodes σ.mm.cs i=0;·rw[if_pos h0,e1];exact⟨_,rfl,hm⟩
 ·rw[if_neg h0,e3];rw[e2] at h0 ⊢;rcases hp.2 with h|h|h;·exact absurd h h0
  ·have hk:=h.1.1;rw[if_neg (cB.ne0 hk).2.1,if_pos hk];exact⟨_,rfl,key _ h⟩
  ·rw[if_pos h.1,if_pos h.2.1.1];exact⟨_,rfl,key _ h.2⟩
theorem Mv(i0:Inv H σ)(hT:bY σ t):∃r,kT σ.mm.nodes σ.mm.cs t.root=some r/\uW σ r []:=by
 have hv:=(l7 hT i0).2;have e:sL σ.mm.nodes σ.mm.cs t.root=if(σ.nd (σ.ce t.root)).kind=8 then(if σ.ce (σ.nd (σ.ce t.root)).status=1 then(σ.nd (σ.ce t.root)).new else(σ.nd (σ.ce t.root)).bS) else σ.ce t.root:=rfl;have key:∀r,sL σ.mm.nodes σ.mm.cs t.root=r->uW σ r []->∃r,kT σ.mm.nodes σ.mm.cs t.root=some r/\uW σ r []:=λ r er hr=>⟨r,by unfold kT;rw[er];exact if_pos hr.1,hr⟩;rcases hv with h|h
 ·exact key _ (e.trans (if_neg (by rw[h.1];decide))) h
 ·have hd:=i0.desc h.1;by_cases hs:σ.ce (σ.nd (σ.ce t.root)).status=1;·exact key _ (e.trans ((if_pos h.1).trans (if_pos hs))) hd.2.2.1
  ·exact key _ (e.trans ((if_pos h.1).trans (if_neg hs))) hd.2.1
theorem oQ.vg(i0:Inv H σ)(h:oQ σ m w g)(h3:(σ.nd m).kind≠3):(σ.nd m).xs=[]:=by have hn:=i0.nd m h.in.1 h.in.2;have he:(σ.nd m).xs=(σ.nd m).nd.jV (σ.nd m).xs:=congrArg Nv.xs (rS.1 hn.valid.1);rw[he];unfold Nd.jV;exact if_neg (by simpa[Nv.nd] using h3)
theorem nQ.lof{b:Nat}{xs:List Int}(h:nQ σ m w g b xs):oM (nW b xs) 64=xs:=(U0 h.bv).2
def Bel(σ:Kw)(w:List Nat)(j:Int):Prop:=∃v,σ.way j=w++v/\(σ.nd j).kind=2/\(gQ σ.mm.nodes σ.mm.cs j).isSome=true
theorem Bel.up{k:Nat}{j:Int}(h:Bel σ (w++[k]) j):Bel σ w j:=by obtain⟨v,h1,h2⟩:=h;exact⟨k::v,by rw[h1,List.append_assoc];rfl,h2⟩
theorem ul{a b:Nat}{w u v:List Nat}(h:w++[a]++u=w++[b]++v):a=b:=by rw[List.append_assoc,List.append_assoc] at h;have:=List.append_cancel_left h;simpa using(List.cons.inj this).1
def uv(H:ByteArray->Nat)(p q:Pr):Prop:=Hw (H p.1) p.1 (H q.1) q.1=true
theorem xc{a b:Nat}{ka kb:ByteArray}{k l:Nat}(ha:fT a (w++[k]))(hb:fT b (w++[l]))(hw:w.length<=10)(hkl:k<l):Hw a ka b kb=true:=by
 have e1:∀j,j<w.length->sl a j=sl b j:=λ j hj=>by rw[tL ha j hj,tL hb j hj]
 have e2:sl a w.length=k:=by have:=ha w.length (by simp);rw[this];simp[iX]
 have e3:sl b w.length=l:=by have:=hb w.length (by simp);rw[this];simp[iX]
 have ec:w.length=kX a b:=Ni (by omega) e1 (λ _=>by omega);unfold Hw;rw[<- ec,if_pos (by omega),e2,e3];exact decide_eq_true hkl
theorem gv{h:Nat}{ka kb:ByteArray}(hs:dA ka kb=true):Hw h ka h kb=true:=by have:kX h h=11:=(Ni (l:=11) (by decide) (λ _ _=>rfl) (λ h=>absurd h (by decide))).symm;unfold Hw;rw[this,if_neg (by decide)];exact hs
theorem Ia(i0:Inv H σ):∀(n:Nat) (i:Int) (w:List Nat) (g:Int),qU σ i w g->(∀p∈Ds σ.mm.nodes σ.mm.cs n i,fT (H p.1) w/\H p.1<18446744073709551616)/\(Ds σ.mm.nodes σ.mm.cs n i).Pairwise (uv H)
 | 0,i,w,g,hi=>⟨(λ p hp=>nomatch hp),List.Pairwise.nil⟩
 | n+1,i,w,g,hi=>by
  obtain⟨p,hp,hm⟩:=Mo i0 hi;unfold Ds;rw[hp];show(∀q∈qM (σ.nd p)++lK σ.mm.nodes (Ds σ.mm.nodes σ.mm.cs n) (σ.nd p).xs,_)/\(qM (σ.nd p)++lK σ.mm.nodes (Ds σ.mm.nodes σ.mm.cs n) (σ.nd p).xs).Pairwise _;rcases hm.1 with h3|h5|h6
  ·have hc:=hm.rR i0 h3;have ho:qM (σ.nd p)=[]:=by unfold qM;rw[if_neg (by omega),if_neg (by omega)]
   rw[ho,List.nil_append];have key:∀k,k<=64->(∀q∈lK σ.mm.nodes (Ds σ.mm.nodes σ.mm.cs n) (oM (nW (σ.nd p).bm.toNat (σ.nd p).xs) k),(∃k',k'<k/\fT (H q.1) (w++[k']))/\H q.1<18446744073709551616)/\(lK σ.mm.nodes (Ds σ.mm.nodes σ.mm.cs n) (oM (nW (σ.nd p).bm.toNat (σ.nd p).xs) k)).Pairwise (uv H):=by
    intro k;induction k with
    | zero=>intro _;exact⟨λ q hq=>by simp[oM,lK] at hq,by simp[oM,lK]⟩
    | succ k ih=>
     intro hk;obtain⟨h1,h2⟩:=ih (by omega);simp only[oM];rw[Rp];have hnew:∀q∈lK σ.mm.nodes (Ds σ.mm.nodes σ.mm.cs n) (nW (σ.nd p).bm.toNat (σ.nd p).xs k).toList,fT (H q.1) (w++[k])/\H q.1<18446744073709551616:=by
      intro q hq;cases hmo:nW (σ.nd p).bm.toNat (σ.nd p).xs k with
      | none=>rw[hmo] at hq;simp[lK] at hq
      | some b=>
       rw[hmo] at hq;simp only[Option.toList,lK,List.append_nil] at hq;rcases hc.br k (by omega) b hmo with hb|hb;·rw[if_pos hb.1] at hq;rw[List.mem_singleton.1 hq];have hlf:=i0.leaf (.inl hb.1);have e:H (σ.nd b).key=(σ.nd b).hash.toNat:=hlf.ha;exact⟨by show fT (H (σ.nd b).key) _;rw[e];exact hb.2,by show H (σ.nd b).key<_;rw[e];exact hlf.hl⟩
       ·rw[if_neg (by rw[hb.1];decide)] at hq;exact(Ia i0 n b (w++[k]) _ ⟨⟨hb.1,hb.2.1⟩,rfl⟩).1 q hq
     have hpw:(lK σ.mm.nodes (Ds σ.mm.nodes σ.mm.cs n) (nW (σ.nd p).bm.toNat (σ.nd p).xs k).toList).Pairwise (uv H):=by
      cases hmo:nW (σ.nd p).bm.toNat (σ.nd p).xs k with
      | none=>simp[lK]
      | some b=>
       simp only[Option.toList,lK,List.append_nil];rcases hc.br k (by omega) b hmo with hb|hb;·rw[if_pos hb.1];exact List.pairwise_singleton _ _
       ·rw[if_neg (by rw[hb.1];decide)];exact(Ia i0 n b (w++[k]) _ ⟨⟨hb.1,hb.2.1⟩,rfl⟩).2
     refine⟨λ q hq=>?_,List.pairwise_append.2 ⟨h2,hpw,λ a ha b hb=>?_⟩⟩
     ·rcases List.mem_append.1 hq with hq|hq;·obtain⟨⟨k',h3,h4⟩,h5⟩:=h1 q hq;exact⟨⟨k',by omega,h4⟩,h5⟩
      ·exact⟨⟨k,by omega,(hnew q hq).1⟩,(hnew q hq).2⟩
     ·obtain⟨⟨k',h3,h4⟩,_⟩:=h1 a ha;exact xc h4 (hnew b hb).1 hc.wl h3
   obtain⟨h1,h2⟩:=key 64 (Nat.le_refl _);rw[hc.lof] at h1 h2;exact⟨λ q hq=>by obtain⟨⟨k',_,h4⟩,h5⟩:=h1 q hq;exact⟨tL h4,h5⟩,h2⟩
  ·have ho:qM (σ.nd p)=[((σ.nd p).key,(σ.nd p).val)]:=by unfold qM;rw[if_pos h5]
   rw[ho,hm.vg i0 (by omega)];have hlf:=i0.leaf (.inr h5);have e:H (σ.nd p).key=(σ.nd p).hash.toNat:=hlf.ha;have hu:=((i0.nd p hm.in.1 hm.in.2).k5 h5).2.2.2.1;rw[hm.2.1] at hu;refine⟨λ q hq=>?_,List.pairwise_singleton _ _⟩;have hq':q=((σ.nd p).key,(σ.nd p).val):=by simpa[lK] using hq
   rw[hq'];exact⟨by show fT (H (σ.nd p).key) _;rw[e];exact hu,by show H (σ.nd p).key<_;rw[e];exact hlf.hl⟩
  ·have ho:qM (σ.nd p)=(σ.nd p).ys:=by unfold qM;rw[if_neg (by omega),if_pos h6]
   rw[ho,hm.vg i0 (by omega)];have hln:=hm.Xb i0 h6;refine⟨λ q hq=>?_,?_⟩
   ·have hq':q∈(σ.nd p).ys:=by simpa[lK] using hq
    rw[hln.ha q hq'];exact⟨hln.un,hln.hl⟩
   ·simp only[lK,List.append_nil];exact hln.sa.imp_of_mem λ ha hb hs=>by unfold uv;rw[hln.ha _ ha,hln.ha _ hb];exact gv hs
end
end
section
open Go Go.RowKit Go.Ct
section
variable{H:ByteArray->Nat}{σ:Kw}{w:List Nat}{m g i:Int}
theorem Od{N:List Nv}{f:Int->List Int->List Int->Option (List Pl×List Pr)}{way idx:List Int}:∀(xs ys:List Int) (j:Nat) (s:List Int),uY N f way idx (xs++ys) j s=(uY N f way idx xs j s).bind λ p=>(uY N f way idx ys (j+xs.length) (s++p.1.map Pl.i)).map λ q=>(p.1++q.1,p.2++q.2)
 | [],ys,j,s=>by
  simp only[List.nil_append,uY,Option.bind_some,List.length_nil,Nat.add_zero,List.map_nil,List.append_nil]
  cases uY N f way idx ys j s<;>rfl
 | b::r,ys,j,s=>by
  have e:j+(b::r).length=j+1+r.length:=by simp only[List.length_cons];omega
  rw[e]
  simp only[List.cons_append,uY]
  split
  ·rw[Od r ys (j+1) s]
   cases uY N f way idx r (j+1) s with
   | none=>rfl
   | some p=>simp only[Option.bind_some,Option.map_some];cases uY N f way idx ys (j+1+r.length) (s++p.1.map Pl.i)<;>rfl
  ·split
   ·cases f b (way++[idx.getD j 0]) s with
    | none=>rfl
    | some p =>
     simp only[Option.bind_some]
     rw[Od r ys (j+1) (s++p.1.map Pl.i)]
     cases uY N f way idx r (j+1) (s++p.1.map Pl.i) with
     | none=>rfl
     | some q =>
      simp only[Option.bind_some,Option.map_some,List.map_append,<- List.append_assoc]
      cases uY N f way idx ys (j+1+r.length) (s++p.1.map Pl.i++q.1.map Pl.i)<;>simp
   ·rfl
def PlG(σ:Kw)(w:List Nat)(p:Pl):Prop:=Bel σ w p.i/\gQ σ.mm.nodes σ.mm.cs p.i=some p.m
theorem qu(i0:Inv H σ):∀(n:Nat) (i:Int) (w:List Nat) (g a:Int) (lv:Nat) (way s:List Int),qU σ i w g->12<=w.length+n->(∀j∈s,¬∃v,σ.way j=w++v)->∃q,Bb σ.mm.nodes σ.mm.cs n a lv i way s=some q/\(∀p∈q.1,PlG σ w p)/\q.1≠[]
 | 0,i,w,g,_,_,_,_,hi,hn,_=>by have:=(hi.E6 i0).2.2;omega
 | n+1,i,w,g,a,lv,way,s,hi,hn,hl=>by
  obtain⟨p,hp,hm⟩:=Mo i0 hi;have hbi:Bel σ w i:=⟨[],by rw[hi.1.2,List.append_nil],hi.1.1,by rw[hp];rfl⟩;have hns:¬i∈s:=λ h=>hl i h ⟨[],by rw[hi.1.2,List.append_nil]⟩;by_cases h3:(σ.nd p).kind=3
  ·have hc:=hm.rR i0 h3;have key:∀k,k<=64->∃q,uY σ.mm.nodes (λ b w s=>Bb σ.mm.nodes σ.mm.cs n i (lv+1) b w s) way (rY (σ.nd p).bm.toNat 64) (oM (nW (σ.nd p).bm.toNat (σ.nd p).xs) k) 0 (s++[i])=some q/\∀r∈q.1,∃k',k'<k/\PlG σ (w++[k']) r:=by
    intro k;induction k with
    | zero=>intro _;exact⟨([],[]),rfl,λ j hj=>nomatch hj⟩
    | succ k ih=>
     intro hk;obtain⟨q,h1,h2⟩:=ih (by omega);have up:∀r∈q.1,∃k',k'<k+1/\PlG σ (w++[k']) r:=λ r hr=>by obtain⟨k',h5,h6⟩:=h2 r hr;exact⟨k',by omega,h6⟩
     simp only[oM];rw[Od,h1,Option.bind_some];cases hmo:nW (σ.nd p).bm.toNat (σ.nd p).xs k with
     | none=>exact⟨q,by simp[uY],up⟩
     | some b=>
      rcases hc.br k (by omega) b hmo with hb|hb;·refine⟨(q.1,q.2++[((bE σ.mm.nodes b).key,(bE σ.mm.nodes b).val)]),?_,up⟩;simp only[Option.toList,uY];rw[if_pos hb.1];simp
      ·have hbg:qU σ b (w++[k]) (σ.nd b).gen:=⟨⟨hb.1,hb.2.1⟩,rfl⟩
       obtain⟨q2,h5,h6,_⟩:=qu i0 n b (w++[k]) _ i (lv+1) (way++[(rY (σ.nd p).bm.toNat 64).getD (0+(oM (nW (σ.nd p).bm.toNat (σ.nd p).xs) k).length) 0]) (s++[i]++q.1.map Pl.i) hbg E0x (λ j hj=>by
        rintro ⟨v,hv⟩;rcases List.mem_append.1 hj with hj|hj
        ·rcases List.mem_append.1 hj with hj|hj;·exact hl j hj ⟨k::v,by rw[hv,List.append_assoc];rfl⟩
         ·rw[List.mem_singleton.1 hj,hi.1.2] at hv;have:=congrArg List.length hv;simp at this
        ·obtain⟨r,hr,rfl⟩:=List.mem_map.1 hj;obtain⟨k',h5,⟨v',h6,_⟩,_⟩:=h2 r hr;rw[h6] at hv;have:=ul hv
         omega)
       refine⟨(q.1++q2.1,q.2++q2.2),?_,λ r hr=>?_⟩;·simp only[Option.toList,uY];rw[if_neg (by rw[hb.1];decide),if_pos hb.1,h5];simp
       ·rcases List.mem_append.1 hr with hr|hr;·exact up r hr
        ·exact⟨k,by omega,h6 r hr⟩
   obtain⟨q,h1,h2⟩:=key 64 (Nat.le_refl _);rw[hc.lof] at h1;refine⟨(⟨i,p,a,lv,way⟩::q.1,q.2),by rw[Qk hns hp (by rw[h3];decide),h1];rfl,λ r hr=>?_,by simp⟩;rcases List.mem_cons.1 hr with rfl|hr;·exact⟨hbi,hp⟩
   ·obtain⟨k',_,h6,h7⟩:=h2 r hr;exact⟨h6.up,h7⟩
  ·have hk:(bE σ.mm.nodes p).kind=5∨(bE σ.mm.nodes p).kind=6:=by have:cB (σ.nd p):=hm.1;unfold cB at this;have h3':¬(bE σ.mm.nodes p).kind=3:=h3;have t2:(bE σ.mm.nodes p).kind=3∨(bE σ.mm.nodes p).kind=5∨(bE σ.mm.nodes p).kind=6:=this;omega
   exact⟨_,B3 hns hp hk,λ r hr=>by rw[List.mem_singleton.1 hr];exact⟨hbi,hp⟩,by simp⟩
end
end
section
open Go.Ct
section
variable{H:ByteArray->Nat}{Q:Rs->Kw->Prop}{σ τ υ:Kw}{i m p g:Int}{w:List Nat}{c:Cl}{h:Nat}
structure Pn(H:ByteArray->Nat)(c:Cl)(h:Nat):Prop where
 sz:c.key.size<=64
 ha:H c.key=h
 hl:h<18446744073709551616
def Fur(σ:Kw)(m:Int)(h:Nat)(level:Nat):Prop:=∃b,iU (σ.nd m) (eZ h level)=some b/\(σ.nd b).kind=2
theorem q0{p:Prop}(b:Bool):(if b=true then(1:Int) else 0)=0∨(if b=true then(1:Int) else 0)=1∨p:=by cases b;exact .inl rfl;exact .inr (.inl rfl)
def D8(σ:Kw)(path:List Int)(h:Nat)(g:Int):Prop:=∀k,k<path.length->qU σ (path.getD k 0) (uR h k) g
theorem D8.up{path:List Int}(hp:D8 σ path h g)(l:Le σ τ):D8 τ path h g:=λ k hk=>(hp k hk).up l
theorem D8.snoc{path:List Int}{b:Int}(hp:D8 σ path h g)(hb:qU σ b (uR h path.length) g):D8 σ (path++[b]) h g:=λ k hk=>by
 rw[List.length_append,List.length_singleton] at hk;rw[iX];by_cases e:k<path.length;·rw[List.getElem?_append_left e,<- iX];exact hp k e
 ·have:k=path.length:=by omega
  subst this;simpa using hb
theorem ow{K:Int->Tr}(i0:Inv H σ)(hK:∀υ,Le σ υ->Inv H υ->υ.mm.gen=σ.mm.gen+1->WT H Q (K (σ.mm.gen+1)) υ):WT H Q (.gen K) σ:=by have e:Ext σ ⟨⟨σ.mm.nodes,σ.mm.cs,σ.mm.gen+1⟩,σ.way,σ.gb,σ.ct⟩:=⟨⟨[],by simp⟩,⟨[],by simp⟩,by show σ.mm.gen<=σ.mm.gen+1;omega,λ _ _=>rfl,λ _ _=>rfl,λ _ _=>rfl⟩;have hp:gN σ.mm.nodes σ.mm.cs (σ.mm.gen+1):=⟨i0.prop.two,by have:=i0.prop.gen0;omega,i0.prop.m0,i0.prop.m1,i0.prop.cells,λ k hk=>⟨(i0.prop.nodes k hk).1,by have:=(i0.prop.nodes k hk).2.1;omega,(i0.prop.nodes k hk).2.2⟩,i0.prop.marks⟩;have i1:=Oi i0 e hp (λ r h1 h2=>absurd h2 (by simp only[Kw.len] at *;omega)) (λ c h1 h2=>absurd h2 (by simp only[Kw.cl] at *;omega));exact⟨_,e.le,i1,rfl,hK _ e.le i1 rfl⟩
theorem Y2{r:Int}{K:Int->Tr}(ro:Bool)(i0:Inv H σ)(hr:uW σ r [])(hK:∀υ c,Le σ υ->Inv H υ->0<c->bY υ ⟨c,ro⟩->WT H Q (K c) υ):WT H Q (.cell r K) σ:=by
 have e:Ext σ ⟨⟨σ.mm.nodes,σ.mm.cs++[r],σ.mm.gen⟩,σ.way,σ.gb,λ c=>if c<=σ.cl then σ.ct c else ctR ro⟩:=⟨⟨[],by simp⟩,⟨[r],rfl⟩,Int.le_refl _,λ _ _=>rfl,λ _ _=>rfl,λ c hc=>if_pos hc⟩;have hcl:(σ.mm.cs++[r]).length=σ.cl+1:=by simp[Kw.cl]
 have hct:(if((σ.cl+1:Nat):Int)<=σ.cl then σ.ct ((σ.cl+1:Nat):Int) else ctR ro)=ctR ro:=if_neg (by omega);have hin:=hr.in
 have i1:=Oi i0 e (gN.cell i0.prop ⟨by omega,hin.2⟩) (λ r h1 h2=>absurd h2 (by simp only[Kw.len] at *;omega)) (λ c h1 h2=>by
  simp only[Kw.cl] at h1 h2;rw[hcl] at h2;have hc:c=((σ.cl+1:Nat):Int):=by simp only[Kw.cl] at *;omega
  subst hc;have hv:bK (σ.mm.cs++[r]) ((σ.cl+1:Nat):Int)=r:=by unfold bK;rw[if_pos ⟨by omega,by rw[hcl];exact Int.le_refl _⟩,show(((σ.cl+1:Nat):Int)-1).toNat=σ.mm.cs.length by simp only[Kw.cl];omega];simp[iX]
  refine⟨by simp only[Kw.ce,hv];omega,by simp only[Kw.ce,hv];exact hin.2,λ i' k=>?_,λ m k=>?_,λ d k=>?_,λ k=>.inl ?_,λ k=>?_⟩;·simp only[hct] at k;cases ro<;>cases k
  ·simp only[hct] at k;cases ro<;>cases k
  ·simp only[hct] at k;cases ro<;>cases k
  ·simp only[Kw.ce,hv];exact hr
  ·simp only[Kw.ce,hv];exact hr)
 refine⟨_,e.le,i1,rfl,hK _ _ e.le i1 (by omega) ⟨by show 1<=((σ.cl+1:Nat):Int);omega,by show((σ.cl+1:Nat):Int)<=((σ.mm.cs++[r]).length:Nat);rw[hcl];exact Int.le_refl _,hct⟩⟩
def Q0(r:Rs)(σ:Kw):Prop:=0<r.root->bY σ ⟨r.root,r.ro⟩
theorem Q0.up{r:Rs}(h:Q0 r σ)(l:Le σ τ):Q0 r τ:=λ h0=>(h h0).up l
theorem uW.Jt(hr:uW σ i w):qU σ i w (σ.nd i).gen:=⟨hr,rfl⟩
structure Tp(H:ByteArray->Nat)(σ:Kw)(c:Cl)(h:Nat):Prop where
 t:bY σ c.t
 hl:h<18446744073709551616
 ha:H c.key=h
 ro:c.kind=8∨c.kind=9∨c.kind=12∨c.kind=4->c.t.ro=false
 k:(7<=c.kind/\c.kind<=12)∨c.kind=3∨(c.kind=1/\∃w g,qU σ c.a w g)∨(c.kind=2/\∃w g,qU σ c.a w g/\oQ σ c.n w g)∨(c.kind=4/\uW σ c.a []/\uW σ c.n []/\1<=c.b/\c.b<=σ.len)
theorem Lb(h:refuse c=0)(hk:c.kind=7∨c.kind=8∨c.kind=9):c.key.size<=64:=by
 unfold refuse at h;split at h
 ·split at h;·assumption
  ·cases h
 split at h
 ·split at h;·rename_i hx;exact hx.1
  ·cases h
 ·omega
end
end
end Go.Proofs.YtbajmaoegmbfgaaGreat

/- Merged. -/
import Derived.Test.YtbajmaoegmbfgaaGreatGBr6
import Derived.Test.YtbajmaoegmbfgaaGreatGBr2
import Derived.Test.YtbajmaoegmbfgaaGreatGPa1
import Derived.Test.YtbajmaoegmbfgaaGreatGNode2
import Derived.Test.YtbajmaoegmbfgaaGreatGAr9
import Derived.Test.YtbajmaoegmbfgaaGreatGAr4
set_option linter.unusedSimpArgs false
set_option linter.unusedVariables false
namespace Go.Ct
open Go Go.RowKit
section
def two(i k:Nat)(x s:Int):List Int:=if i<k then [x,s] else [s,x]
structure NI where
 n:Nd
 xs:List Int
 ys:List Pr
 init:Int
def AX.no:AX:=⟨none,0,none,0,none,0,none,0⟩
def NI.c(a:NI)(c:Nat):Nv:=(kZ a.n a.xs a.ys c AX.no).c
abbrev Es(h:Nat)(ys:List Pr):NI:=⟨{Nd.zero with kind:=6,hash:=(h:Int)},[],ys,0⟩
abbrev wE(h:Nat)(k:ByteArray)(u:Int):NI:=⟨{Nd.zero with kind:=4,hash:=(h:Int),key:=k,val:=u},[],[],0⟩
abbrev qX(gen m:Int):NI:=⟨{Nd.zero with kind:=2,gen:=gen},[],[],m⟩
abbrev il(b:Nat)(xs:List Int):NI:=⟨{Nd.zero with kind:=3,bm:=(b:Int)},xs,[],0⟩
def NI.no:NI:=⟨Nd.zero,[],[],0⟩
structure I4(v:aU)(a:NI):Prop where
 xs:v.xs=a.xs
 ys:v.ys=a.ys
 kind:v.nd.kind=a.n.kind
 c:∀k,(kZ v.nd v.xs v.ys k AX.no).c=a.c k
 fit:v.Fit
 sx:v.xs.length<=1000
 sy:v.ys.length<=1000
 c0:v.c=a.n.c a.xs a.ys
inductive oV:List aU->List NI->Prop where
 | nil:oV [] []
 | cons {v:aU} {a:NI} {L:List aU} {l:List NI} (h:I4 v a) (hr:oV L l):oV (v::L) (a::l)
theorem oV.len{L:List aU}{l:List NI}(h:oV L l):L.length=l.length:=by
 induction h with
 | nil=>rfl
 | cons _ _ ih=>simp[ih]
theorem oV.append{L M:List aU}{l m:List NI}(h:oV L l)(h2:oV M m):oV (L++M) (l++m):=by
 induction h with
 | nil=>exact h2
 | cons h _ ih=>exact .cons h ih
theorem oV.at{L:List aU}{l:List NI}(h:oV L l){i:Nat}(hi:i<L.length):∃a,l[i]?=some a/\I4 (L.getD i aU.zero) a:=by
 induction h generalizing i with
 | nil=>simp at hi
 | @cons v a L l h _ ih =>
  cases i with
  | zero=>exact⟨a,rfl,h⟩
  | succ i =>
   obtain⟨b,h1,h2⟩:=ih (i:=i) (by simpa using hi)
   exact⟨b,by simpa using h1,by simpa using h2⟩
def Hq(l:List NI):List Int:=l.map NI.init
theorem SF.aBf{w0 w:World}{M:List Nat}{H:List (Nat×Obj)}{A F:Fr}{O:List Ow}{f1 f2:Option Addr×List Value}(h:SF w0 M H A (f1::f2::F) O w):SF w0 M H A (f2::f1::F) O w:=h.fG λ f hf=>.inr (by
 simp only[List.mem_cons] at hf ⊢
 rcases hf with h|h|h
 ·exact .inr (.inl h)
 ·exact .inl h
 ·exact .inr (.inr h))
theorem SF.aA9{w0 w:World}{M:List Nat}{H:List (Nat×Obj)}{A F:Fr}{O:List Ow}{i c:Nat}{p:Option Addr}(h:SF w0 M H A F O w){l:List Int}{T:TypeId}(ho:xC O i p (aH l) c T 1):l.length<=c:=by
 rcases(h.own _ ho.mem).1 with⟨_,h2,_⟩|⟨b,rest,_,_,h3⟩
 ·have h2':aH l=[]:=h2
  have:(aH l).length=0:=by rw[h2'];rfl
  rw[iZ] at this
  omega
 ·have h3':(aH l++rest).length=c*1:=h3
  rw[List.length_append,iZ] at h3'
  omega
end
end Go.Ct
namespace Go.Proofs.YtbajmaoegmbfgaaGreat
open Go Go.RowKit Go.Ct
section
def dN(x:Int)(h0 h:Nat)(p0:Pr)(k:ByteArray)(u gen:Int)(f:Nat):Nat->Nat->List NI
 | 0,lvl=>if lvl=11 then [Es h (D0 [p0,(k,u)])] else [wE h k u,il (dW (dW 0 (sl h0 lvl:Int)) (sl h lvl:Int)) (two (sl h0 lvl) (sl h lvl) x (f:Int))]
 | n+1,lvl=>dN x h0 h p0 k u gen f n (lvl+1)++[qX gen ((f-1+(dN x h0 h p0 k u gen f n (lvl+1)).length:Nat):Int),il (dW 0 (sl h lvl:Int)) [((f+(dN x h0 h p0 k u gen f n (lvl+1)).length:Nat):Int)]]
theorem Sc{x:Int}{h0 h:Nat}{p0:Pr}{k:ByteArray}{u gen:Int}{f:Nat}:∀n lvl,(dN x h0 h p0 k u gen f n lvl).length<=2+2*n
 | 0,lvl=>by
  unfold dN
  split<;>simp
 | n+1,lvl=>by
  have:=Sc (x:=x) (h0:=h0) (h:=h) (p0:=p0) (k:=k) (u:=u) (gen:=gen) (f:=f) n (lvl+1)
  unfold dN
  simp only[List.length_append,List.length_cons,List.length_nil]
  omega
theorem oh{i k:Nat}(hi:i<64)(hk:k<64)(hne:i≠k)(a b:Int)(w:World) :
  Calls Tryz.prog 261 #[.int .i64 (i:Int),.int .i64 a,.int .i64 (k:Int),.int .i64 b] w λ e w'=>∃p:Option Addr,e=.returned (.agg ⟨[.int .i64 3,.int .i64 0,.int .i64 0,.int .u64 ((dW (dW 0 (i:Int)) (k:Int):Nat):Int),.slice p 2 2,.int .u64 0,.string ⟨#[]⟩,.int .u64 0,.slice none 0 0,.int .i64 0,.int .i64 0,.int .i64 0,.int .i64 0,.int .i64 0]⟩)/\True/\SF w [] [] [] [(p,aH (two i k a b))] [] w':=by
 refine enter Tryz.func261 Tryz.ntmps261 rfl rfl (SF.s0 w) ?_
 simp only[cE]
 refine J0 ?_;refine aJ (λ x8=>?_);refine Kd0 ?_;refine aM (cV (hc:=λ w1 hw=>nI (n:=0) (by decide) (i:Int) w1)) (λ x11=>?_);refine aA ?_;refine aM (cV (hc:=λ w1 hw=>nI (n:=dW 0 (i:Int)) (zS (by decide) _) (k:Int) w1)) (λ x13=>?_);refine qJ ?_;refine fX (λ x16=>?_);refine bK ?_;refine aJ (λ x9=>?_);refine J5 ?_;refine Da ?_;refine Bq ?_
 refine bE (λ c20=>?_) (λ c20=>?_)
 ·refine Jv ?_;refine fX (λ x23=>?_);refine wV ?_;refine oX ?_;refine J5 ?_
  refine bB Tryz.results261 (λ w hw=>?_)
  first
  | exact⟨some ⟨x23,0,none⟩,rfl,trivial,by rw[show two i k a b=[b,a] from if_neg (by omega)];exact hw.ret (List.nil_sublist _) (aV.kN λ f hf=>by rw[List.mem_singleton.1 hf];exact .head _) (List.Sublist.refl _)⟩
  | exact⟨some ⟨x16,0,none⟩,rfl,trivial,by rw[show two i k a b=[a,b] from if_pos (by omega)];exact hw.ret (List.nil_sublist _) (aV.kN λ f hf=>by rw[List.mem_singleton.1 hf];exact .head _) (List.Sublist.refl _)⟩
 ·refine aS ?_;refine oX ?_;refine J5 ?_
  refine bB Tryz.results261 (λ w hw=>?_)
  first
  | exact⟨some ⟨x16,0,none⟩,rfl,trivial,by rw[show two i k a b=[a,b] from if_pos (by omega)];exact hw.ret (List.nil_sublist _) (aV.kN λ f hf=>by rw[List.mem_singleton.1 hf];exact .head _) (List.Sublist.refl _)⟩
theorem ob{l:List Pr}{a:Option Addr}{c:Nat}{w:World}(ha:Cl w a (dE l))(hlen:l.length<=200000000000) :
  Calls Tryz.prog 61 #[.slice a l.length c] w λ e w'=>∃x:Option Addr×Nat,e=.returned (.slice x.1 (D0 l).length x.2)/\(D0 l).length<=x.2/\SF w [] [] [] [(x.1,dE (D0 l))] [] w':=(qd ha hlen).mono λ _ _ h=>h
theorem C6{h l:Nat}{i:Int}(hi:i=(l:Int))(hh:h<18446744073709551616)(hl:l<=10)(w:World):Calls Tryz.prog 218 #[.int .u64 (h:Int),.int .i64 i] w λ e w'=>e=.returned (.int .i64 ((sl h l:Nat):Int))/\St w [] [] w':=by
 subst hi
 exact qI hh hl w
abbrev Lu(h:Nat)(ys:List Pr)(p:Option Addr)(c:Nat):aU:=⟨{Nd.zero with kind:=6,hash:=(h:Int),prA:=p,prN:=ys.length,dE:=c},[],ys⟩
abbrev zX(h:Nat)(k:ByteArray)(u:Int):aU:=⟨{Nd.zero with kind:=4,hash:=(h:Int),key:=k,val:=u},[],[]⟩
abbrev xJ(gen:Int):aU:=⟨{Nd.zero with kind:=2,gen:=gen},[],[]⟩
abbrev o5(n b:Nat)(xs:List Int)(p:Option Addr):aU:=⟨{Nd.zero with kind:=3,bm:=(b:Int),brA:=p,brN:=n,brC:=n},xs,[]⟩
theorem z35:(0:Nat)<=35184372088832:=Nat.zero_le _
theorem z11:(0:Nat)<=11728124029610:=Nat.zero_le _
theorem ta{h:Nat}{ys:List Pr}{p:Option Addr}{c:Nat}(hy:ys.length<=1000):I4 (Lu h ys p c) (Es h ys):=⟨rfl,rfl,rfl,λ _=>rfl,⟨rfl,rfl,z35,by show ys.length<=_;omega⟩,Nat.zero_le _,hy,rfl⟩
theorem Xg{h:Nat}{k:ByteArray}{u:Int}:I4 (zX h k u) (wE h k u):=⟨rfl,rfl,rfl,λ _=>rfl,⟨rfl,rfl,z35,z11⟩,Nat.zero_le _,Nat.zero_le _,rfl⟩
theorem jb{gen m:Int}:I4 (xJ gen) (qX gen m):=⟨rfl,rfl,rfl,λ _=>rfl,⟨rfl,rfl,z35,z11⟩,Nat.zero_le _,Nat.zero_le _,rfl⟩
theorem aA4{n b:Nat}{xs:List Int}{p:Option Addr}(hn:n=xs.length)(hx:xs.length<=1000):I4 (o5 n b xs p) (il b xs):=⟨rfl,rfl,rfl,λ _=>rfl,⟨hn,rfl,by show xs.length<=_;omega,z11⟩,hx,Nat.zero_le _,rfl⟩
structure RX where
 L:List aU
 ini:List Int
 pn:Option Addr
 cn:Nat
 pc:Option Addr
 cc:Nat
structure Ic(r:RX)(l:List NI):Prop where
 m:oV r.L l
 ini:r.ini=Hq l
theorem Ic.len{r:RX}{l:List NI}(h:Ic r l):r.L.length=l.length/\r.ini.length=l.length:=⟨h.m.len,by rw[h.ini];simp[Hq]⟩
theorem Ic.push{r:RX}{l:List NI}(h:Ic r l){gen m:Int}{n b:Nat}{xs:List Int}{p pn pc:Option Addr}{cn cc:Nat}(hn:n=xs.length)(hx:xs.length<=1000):Ic ⟨r.L++[xJ gen,o5 n b xs p],r.ini++[m,0],pn,cn,pc,cc⟩ (l++[qX gen m,il b xs]) :=
 ⟨h.m.append (.cons jb (.cons (aA4 hn hx) .nil)),by show r.ini++_=_;rw[h.ini];simp[Hq,qX,il]⟩
theorem Ts{L:List aU}{gen:Int}{b:Nat}{r:Int}{p:Option Addr}{F:Fr}{f:Option Addr×List Value}(hf:f∈aL (L++[xJ gen,o5 1 b [r] p]))(h1:(p,aH [r])∈F)(h2:f∈aL L->f∈F):f.2=[]∨f∈F:=by
 simp only[aL,List.flatMap_append] at hf
 rcases List.mem_append.1 hf with hf|hf
 ·exact .inr (h2 hf)
 ·simp[aU.fr] at hf
  rcases hf with rfl|rfl|rfl|rfl
  ·exact .inl rfl
  ·exact .inl rfl
  ·exact .inr h1
  ·exact .inl rfl
variable{v:aU}{at':Int}{h0 h:Nat}{k:ByteArray}{u gen:Int}{fi lvl:Nat}
abbrev dQ(at':Int)(h0 h:Nat)(v:aU)(k:ByteArray)(u gen:Int)(fi:Nat)(n:Nat):List NI:=dN at' h0 h (v.nd.key,v.nd.val) k u gen fi n (lB h0 h-n)
theorem qu{n:Nat}(hn:n<lB h0 h):dQ at' h0 h v k u gen fi (n+1)=dQ at' h0 h v k u gen fi n++[qX gen ((fi-1+(dQ at' h0 h v k u gen fi n).length:Nat):Int),il (dW 0 (sl h (lB h0 h-(n+1)):Int)) [((fi+(dQ at' h0 h v k u gen fi n).length:Nat):Int)]]:=by
 have e:lB h0 h-(n+1)+1=lB h0 h-n:=by omega
 unfold dQ
 rw[dN,e]
theorem yf{x y z:Option Addr}{c a b:Nat}(hc:lB h0 h=11):Ic ⟨[Lu h (D0 [(v.nd.key,v.nd.val),(k,u)]) z c],[0],x,a,y,b⟩ (dQ at' h0 h v k u gen fi 0):=by
 have e:dQ at' h0 h v k u gen fi 0=[Es h (D0 [(v.nd.key,v.nd.val),(k,u)])]:=by
  unfold dQ dN
  exact if_pos hc
 rw[e]
 exact⟨.cons (ta (Nat.le_trans (T6 _) (by simp))) .nil,rfl⟩
theorem y3{x y p:Option Addr}{a b:Nat}(hc:lB h0 h≠11):Ic ⟨[zX h k u,o5 2 (dW (dW 0 (sl h0 (lB h0 h):Int)) (sl h (lB h0 h):Int)) (two (sl h0 (lB h0 h)) (sl h (lB h0 h)) at' (fi:Int)) p],[0,0],x,a,y,b⟩ (dQ at' h0 h v k u gen fi 0):=by
 have e:dQ at' h0 h v k u gen fi 0=[wE h k u,il (dW (dW 0 (sl h0 (lB h0 h):Int)) (sl h (lB h0 h):Int)) (two (sl h0 (lB h0 h)) (sl h (lB h0 h)) at' (fi:Int))]:=by
  unfold dQ dN
  exact if_neg hc
 rw[e]
 exact⟨.cons Xg (.cons (aA4 (by unfold two;split<;>rfl) (by unfold two;split<;>simp)) .nil),rfl⟩
theorem fj(hv:v.nd.hash=(h0:Int))(hh0:h0<18446744073709551616)(hh:h<18446744073709551616)(hf1:1<=fi)(hf2:fi<=274877906944)(w:World) :
    Calls Tryz.prog 257 #[.agg ⟨v.nd.cells⟩,.int .i64 at',.int .u64 (h:Int),.string k,.int .u64 u,.int .i64 (lvl:Int),.int .i64 gen,.int .i64 (fi:Int)] w λ e w' =>
      ∃d:RX,e=.returned (.tuple #[.slice d.pn d.L.length d.cn,.slice d.pc d.ini.length d.cc]) /\
      (Ic d (dQ at' h0 h v k u gen fi (lB h0 h-lvl))/\d.L.length<=d.cn/\d.ini.length<=d.cc) /\
      SF w [] [] [] ((d.pn,gX d.L)::(d.pc,aH d.ini)::aL d.L) [] w':=by
  have hcl:=zB h0 h
  refine enter Tryz.func257 Tryz.ntmps257 rfl rfl (SF.s0 w) ?_
  simp only[cE]
  refine J0 ?_;refine bN (λ x8=>?_);refine J8 ?_;refine Kc5 ?_;refine aM (cV (hc:=λ w1 hw=>by rw[hv];exact Qg hh0 hh w1)) (λ x26=>?_);refine iW ?_
  refine eJ [16,17,18,19,27,28,29,30,31,32,33,34,35,36,37,38,39,40,41,42,43,44,45,46,47,48,49,50,51,52,53,54,55,56,57,58,59] (λ q:RX=>[(16,.slice q.pn q.L.length q.cn),(17,.slice q.pc q.ini.length q.cc),(18,.int .i64 ((lB h0 h:Nat):Int))]) (λ q=>Ic q (dQ at' h0 h v k u gen fi 0)/\q.L.length<=2) (λ q=>[]) (λ q=>aL q.L) (λ q=>[⟨q.pn,gX q.L,q.cn,47,14⟩,⟨q.pc,aH q.ini,q.cc,37,1⟩]) (by decide) (λ _=>by exact rfl) ?_ (λ q f hx=>?_)
  · refine aR ?_
    refine wZ ?_;refine oG ?_;refine aG ?_
    refine bE (λ c28=>?_) (λ c28=>?_)
    · refine gY ?_;refine J3 ?_;refine bK ?_;refine qJ ?_;refine bK ?_;refine fX (λ x37=>?_);refine aC (cF (V:=λ x:Option Addr×Nat=>.slice x.1 (D0 [(v.nd.key,v.nd.val),(k,u)]).length x.2) (hc:=λ w1 hw=>ob (l:=[(v.nd.key,v.nd.val),(k,u)]) (hw.cl (.new .head)) (by simp))) (λ x38 h38=>?_);refine zM ?_;refine bK ?_;refine aM (Rx (c:=1) (sz:=14) rfl (λ _=>cL (cs:=gX [Lu h (D0 [(v.nd.key,v.nd.val),(k,u)]) x38.1 x38.2]) sC Ii rfl rfl rfl rfl rfl)) (λ x42=>?_);refine aM (Rx (c:=1) (sz:=1) rfl (λ _=>cL (cs:=aH [0]) nY Ii rfl rfl rfl rfl rfl)) (λ x43=>?_);refine J8 ?_;refine dJ ?_;refine J1 ?_
      refine fF ((⟨[Lu h (D0 [(v.nd.key,v.nd.val),(k,u)]) x38.1 x38.2],[0],some ⟨x42,0,none⟩,1,some ⟨x43,0,none⟩,1⟩:RX)) ?_ (hw1:=λ w hw=>(hw.Y9.fG λ f hf=>by simp[aL,aU.fr] at hf;rcases hf with rfl|rfl;exact .inl rfl;exact .inr (.head _)).sub (List.nil_sublist _) aV.all (List.Sublist.refl _))
      · have hne:lB h0 h=11:=by omega
        exact⟨yf hne,Nat.le_succ 1⟩
    · refine Kb6 ?_;refine bK ?_;refine Kc2 ?_;refine aM (cV (hc:=λ w1 hw=>by rw[hv];exact qI (l:=lB h0 h) hh0 (by omega) w1)) (λ x51=>?_);refine qJ ?_;refine aA ?_;refine aM (cV (hc:=λ w1 hw=>qI (l:=lB h0 h) hh (by omega) w1)) (λ x55=>?_);refine aA ?_;refine aC (cF (hc:=λ w1 hw=>oh (yL h0 (lB h0 h)) (yL h (lB h0 h)) (L6 (h:=h0) (k:=h) (by omega)) at' (fi:Int) w1)) (λ x57 h57=>?_);refine aM (Rx (c:=2) (sz:=14) rfl (λ _=>cL (cs:=gX [zX h k u,o5 2 (dW (dW 0 (sl h0 (lB h0 h):Int)) (sl h (lB h0 h):Int)) (two (sl h0 (lB h0 h)) (sl h (lB h0 h)) at' (fi:Int)) x57]) sC Ii rfl rfl rfl rfl rfl)) (λ x58=>?_);refine J1 ?_;refine dJ ?_;refine aM (Rx (c:=2) (sz:=1) rfl (λ _=>cL (cs:=aH [0,0]) nY Ii rfl rfl rfl rfl rfl)) (λ x59=>?_);refine J1 ?_
      refine fF ((⟨[zX h k u,o5 2 (dW (dW 0 (sl h0 (lB h0 h):Int)) (sl h (lB h0 h):Int)) (two (sl h0 (lB h0 h)) (sl h (lB h0 h)) at' (fi:Int)) x57],[0,0],some ⟨x58,0,none⟩,2,some ⟨x59,0,none⟩,2⟩:RX)) ?_ (hw1:=λ w hw=>(hw.Y9.fG λ f hf=>by simp[aL,aU.fr] at hf;rcases hf with rfl|rfl|rfl|rfl;exact .inl rfl;exact .inl rfl;exact .inr (.head _);exact .inl rfl).sub (List.nil_sublist _) aV.all (List.Sublist.refl _))
      · have hne:lB h0 h≠11:=by omega
        exact⟨y3 hne,Nat.le_refl 2⟩
  dsimp only[iB,List.map,List.cons_append,List.nil_append]
  refine lI ?_;refine sB ?_;refine J1 ?_;refine cY ?_
  have hq2:=hx.1.len
  refine nS [16,17,20,21,22,62,63,64,65,66,67,68,69,70,71,72,73,74,75,76,77,78,79,80,81,82,83,84,85,86,87,88,89] (λ y:Nat×RX=>[(16,.slice y.2.pn y.2.L.length y.2.cn),(17,.slice y.2.pc y.2.ini.length y.2.cc),(20,.int .i64 (((lB h0 h-y.1:Nat):Int)-1))]) (λ y=>y.1<=lB h0 h-lvl/\Ic y.2 (dQ at' h0 h v k u gen fi y.1)/\y.2.L.length<=2+2*y.1) (λ _=>_) (λ y=>aL y.2.L) (λ y=>[⟨y.2.pn,gX y.2.L,y.2.cn,47,14⟩,⟨y.2.pc,aH y.2.ini,y.2.cc,37,1⟩]) (λ y=>lB h0 h-lvl-y.1) ((0,q)) (⟨Nat.zero_le _,hx⟩) (λ y f hx=>?_) (hw0:=λ w hw=>hw.sub (List.Sublist.refl _) aV.all (List.Sublist.refl _))
  dsimp only[iB,List.map,List.cons_append,List.nil_append]
  obtain⟨hy1,hy2,hy3⟩:=hx
  obtain⟨hy4,hy5⟩:=hy2.len
  refine Da ?_;refine oG ?_;refine aG ?_
  refine bE (λ c64=>?_) (λ c64=>?_)
  · obtain⟨lv,elv⟩:∃lv:Nat,lB h0 h-(y.1+1)=lv:=⟨_,rfl⟩
    have elv2:(((lB h0 h-y.1:Nat):Int)-1)=(lv:Int):=by omega
    have hlv2:lv<=10:=by omega
    refine sA ?_;refine jM ?_;refine dX ?_;refine aB (oT rf rf (by omega)) rfl ?_;refine aB (jI (n:=1) rf rf (by omega) (by omega)) rfl ?_;refine zM ?_;refine aM (cV (hc:=λ w1 hw=>C6 elv2 hh hlv2 w1)) (λ x74=>?_);refine zM ?_;refine bK ?_;refine aA ?_;refine aM (cV (hc:=λ w1 hw=>nI (n:=0) (by decide) (sl h lv:Int) w1)) (λ x79=>?_);refine aA ?_;refine aB (oT (n:=1) rf rf (by omega)) rfl ?_;refine aM (F2 (λ _=>cL (cs:=aH [((fi+y.2.L.length-1+1:Nat):Int)]) nY Ii rfl rfl rfl rfl rfl)) (λ x82=>?_);refine bK ?_;refine aM (F2 (λ _=>cL (cs:=gX [xJ gen,o5 1 (dW 0 (sl h lv:Int)) [((fi+y.2.L.length-1+1:Nat):Int)] (some ⟨x82,0,none⟩)]) sC Ii rfl rfl rfl rfl rfl)) (λ x84=>?_);(refine aM (bF.eX (j5 (k:=2) (L2:=[xJ gen,o5 1 (dW 0 (sl h lv:Int)) [((fi+y.2.L.length-1+1:Nat):Int)] (some ⟨x82,0,none⟩)]) rf rf Ar rfl fin rfl Q6 rfl gO (by omega)) xN) (λ x85=>?_);try (refine fD (λ h85=>?_)));refine J1 ?_;refine Jv ?_;refine aM (F2 (λ _=>cL (cs:=aH [((fi+y.2.L.length-1:Nat):Int),0]) nY Ii rfl rfl rfl rfl rfl)) (λ x88=>?_);(refine aM (bF.eX (Sl (k:=2) (l2:=[((fi+y.2.L.length-1:Nat):Int),0]) rf rf Ar rfl fin rfl m9 gO (by omega)) xN) (λ x89=>?_);try (refine fD (λ h89=>?_)));refine J1 ?_;refine eL ?_;refine wZ ?_;refine sB ?_;refine J1 ?_
    refine gU ((y.1+1,(⟨y.2.L++[xJ gen,o5 1 (dW 0 (sl h lv:Int)) [((fi+y.2.L.length-1+1:Nat):Int)] (some ⟨x82,0,none⟩)],y.2.ini++[((fi+y.2.L.length-1:Nat):Int),0],x85.1,x85.2,x89.1,x89.2⟩:RX))) ?_ (hw1:=λ w hw=>hw.fG λ f hf=>Ts hf (.tail _ (.tail _ (.head _))) (λ hf=>.tail _ (.tail _ (.tail _ hf))))
    · refine⟨by omega,?_,by simp only[List.length_append,List.length_cons,List.length_nil];omega⟩
      have e1:dQ at' h0 h v k u gen fi (y.1+1)=dQ at' h0 h v k u gen fi y.1++[qX gen ((fi+y.2.L.length-1:Nat):Int),il (dW 0 (sl h lv:Int)) [((fi+y.2.L.length-1+1:Nat):Int)]]:=by
       rw[qu (by omega),elv,<- hy4,show fi-1+y.2.L.length=fi+y.2.L.length-1 by omega,show fi+y.2.L.length-1+1=fi+y.2.L.length by omega]
      rw[e1]
      exact hy2.push rfl (by simp)
  · have en:y.1=lB h0 h-lvl:=by omega
    refine bR rfl ?_;refine jM ?_;refine J8 ?_
    refine bB Tryz.results257 (λ w hw=>?_)
    refine⟨y.2,rfl,⟨?_,?_,?_⟩,?_⟩
    · rw[<- en]
      exact hy2
    · exact hw.ze .head
    · exact hw.aA9 (.tail .head)
    · exact((hw.freeze .head).freeze .head).aBf.ret (List.nil_sublist _) aV.all (List.nil_sublist _)
end
end Go.Proofs.YtbajmaoegmbfgaaGreat
namespace Go.Ct
section
def NI.c0(a:NI):Nv:=a.n.c a.xs a.ys
end
end Go.Ct
namespace Go.Proofs.YtbajmaoegmbfgaaGreat
section
open Go.RowKit Go.Ct
structure dO where
 root:Int
 ro:Bool
structure Cl where
 kind:Int
 t:dO
 a:Int
 b:Int
 n:Int
 index:Int
 hash:Int
 mask:Int
 key:ByteArray
 val:Int
 exp:Int
 Il:Int
 only:Bool
def gJ(h:Nat)(level:Int):Int:=if level<0∨10<level then 0 else(sl h level.toNat:Int)
def yI(p:Int):Nv:=({Nd.zero with kind:=7,bA:=p}:Nd).c [] []
def fH(g:Int):Nv:=({Nd.zero with kind:=2,gen:=g}:Nd).c [] []
def lR(a b c:Int):Nv:=({Nd.zero with kind:=8,bA:=a,exp:=b,new:=c}:Nd).c [] []
def Gh(h:Int)(k:ByteArray)(u:Int):Nv:=({Nd.zero with kind:=4,hash:=h,key:=k,val:=u}:Nd).c [] []
def Fq:Nv:=({Nd.zero with kind:=3}:Nd).c [] []
def aAn(v s:Int)(K:Int->Tr):Tr:=.node v λ n=>K (if s=1 then n.new else n.bA)
def jX(t:dO)(v s:Int)(K:Int->Tr):Tr:=aAn v s λ w=>.iQ t.root v w λ _=>K w
def Ji(t:dO)(K:Int->Tr):Tr:=.load t.root λ v=>.node v λ n=>if n.kind=2 then K v else .node v λ n=>.load n.status λ s =>
 if s=0 then .node v λ n=>.iQ n.status 0 2 λ _=>.node v λ n=>.load n.status λ s=>jX t v s K else jX t v s K
def Nh(i m p:Int)(K:Int->Tr):Tr:=.node i λ ni=>.node p λ np=>.iQ ni.main m np.bA λ _=>.node p λ np=>K np.bA
def jV(i m:Int)(K:Int->Tr):Tr:=.node m λ nm=>.load nm.prev λ p=>if p=0 then K m else Nh i m p K
def rA(i m p:Int)(c:Bool)(K:Int->Tr):Tr :=
 if c=true then .node m λ nm=>.iQ nm.prev p 0 λ _=>jV i m K
 else .node m λ nm=>.alloc (yI p) 0 λ f=>.iQ nm.prev p f λ _=>jV i m K
def qW(t:dO)(i m:Int)(K:Int->Tr):Tr:=.node m λ nm=>.load nm.prev λ p=>if p=0 then K m else .node p λ np =>
 if bZ np then(if t.ro=true then rA i m p false K else Ji t λ r=>.node r λ nr=>.node i λ ni=>rA i m p (nr.gen==ni.gen) K)
 else Nh i m p K
def mJ(t:dO)(i:Int)(K:Int->Tr):Tr:=.node i λ ni=>.load ni.main λ m=>qW t i m K
def jN(t:dO)(v:Int)(K:Tr):Tr:=.node v λ n=>mJ t n.bA λ r=>.node v λ n2=>.node v λ n3=>.iQ n3.status 0 (if r=n2.exp then 1 else 2) λ _=>K
def kF(t:dO)(K:Int->Tr):Tr:=.load t.root λ v=>.node v λ n=>if n.kind=2 then K v else .node v λ n=>.load n.status λ s =>
 if s=0 then jN t v (.node v λ n=>.load n.status λ s=>jX t v s K) else jX t v s K
def oI(t:dO)(i bA n:Int)(K:Bool->Tr):Tr:=.node i λ ni=>.iQ ni.main bA n λ b=>if b=true then qW t i n λ m=>K (m==n) else K false
def jK(t:dO)(bA exp new:Int)(K:Bool->Tr):Tr:=.alloc (lR bA exp new) 0 λ d=>.iQ t.root bA d λ b =>
 if b=true then jN t d (.node d λ nd=>.load nd.status λ s=>jX t d s λ _=>K (s==1)) else K false
noncomputable def Eo (c index r:Int) (K:Int->Tr):Tr:=.node c λ nc=>.alloc (Rl nc index r) c K
noncomputable def Me (t:dO) (i c index:Int) (K:Int->Tr):Tr:=.node c λ nc=>mJ t ((kU nc index).getD 0) λ m=>.node i λ ni=>.alloc (fH ni.gen) m λ j =>
 Eo c index j λ r=>oI t i c r λ ok=>K (if ok=true then j else 0)
noncomputable def yW (t:dO) (parent child:Int) (h:Nat) (level:Int) (K:Bool->Tr):Tr:=mJ t parent λ m=>.node m λ nm =>
 if kU nm (gJ h level)=some child then mJ t child λ mc=>.node mc λ nmc =>
  if nmc.kind=5 then .alloc (unV nmc) 0 λ s=>.node m λ nm2=>.alloc (zq (Rl nm2 (gJ h level) s) level (unV nmc)) m λ r=>oI t parent m r K
  else K false
 else K false
def jL(f:Bool)(v:Int):Rs:=⟨0,f,v,⟨#[]⟩,0,0,0,false⟩
def rT(f:Bool)(v:Int):Rs:=⟨0,f,v,⟨#[]⟩,1,0,0,false⟩
noncomputable def Db (t:dO) (h:Nat) (key:ByteArray) (K:Rs->Tr):Nat->Int->Int->Tr
 | 0,_,_=>.stuck
 | n+1,i,level=>mJ t i λ mr=>.node mr λ m =>
  if m.kind=5 then(if m.key=key then K (jL true m.val) else K (jL false 0))
  else if m.kind=6 then K (jL (dV m.ys key).isSome ((dV m.ys key).getD 0))
  else match kU m (gJ h level) with
   | none=>K (jL false 0)
   | some b=>.node b λ s=>if s.kind=4 then(if s.key=key then K (jL true s.val) else K (jL false 0)) else Db t h key K n b (level+1)
def nU(c:Cl)(found:Bool)(v:Int):Bool:=if c.Il=1 then !found else if c.Il=2 then found else if c.Il=3 then found&&v==c.exp else true
def Aj:List NI->Int->(Int->Tr)->Tr
 | [],r,K=>K r
 | a::l,_,K=>.alloc a.c0 a.init λ r=>Aj l r K
def dP(at_:Int)(h0 h:Nat)(p:Pr)(k:ByteArray)(u gen:Int)(fi lvl:Nat):List NI:=dN at_ h0 h p k u gen fi (lB h0 h-lvl) (lB h0 h-(lB h0 h-lvl))
def Vl(c:Cl)(b:Int)(h:Nat)(level:Nat)(gen:Int)(K:Int->Tr):Tr:=.node b λ nb =>
 .alloc ((dP b nb.hash.toNat h (nb.key,nb.val) c.key c.val gen 0 level).headD NI.no).c0 ((dP b nb.hash.toNat h (nb.key,nb.val) c.key c.val gen 0 level).headD NI.no).init λ f =>
 Aj (dP b nb.hash.toNat h (nb.key,nb.val) c.key c.val gen f.toNat level).tail f K
noncomputable def lY (c:Cl) (i m:Int) (h:Nat) (level:Nat) (gen:Int) (K:Rs->Int->Tr):Tr:=.node m λ n =>
 if n.kind=6 then
  (if nU c (dV n.ys c.key).isSome ((dV n.ys c.key).getD 0)=true then
   .alloc (grV n c.key c.val) m λ r=>oI c.t i m r λ ok=>K (rT (dV n.ys c.key).isSome ((dV n.ys c.key).getD 0)) (if ok=true then 1 else 0)
  else K (jL (dV n.ys c.key).isSome ((dV n.ys c.key).getD 0)) 1)
 else match kU n (gJ h level) with
  | none=>if nU c false 0=true then .alloc (Gh h c.key c.val) 0 λ s=>.alloc (inV n (gJ h level) s) m λ r=>oI c.t i m r λ ok=>K (rT false 0) (if ok=true then 1 else 0) else K (jL false 0) 1
  | some b=>.node b λ nb=>if nb.kind=2 then K Rs.zero 2 else
   if nb.key=c.key then
    (if nU c true nb.val=true then .alloc (Gh h c.key c.val) 0 λ s=>Eo m (gJ h level) s λ r=>oI c.t i m r λ ok=>K (rT true nb.val) (if ok=true then 1 else 0)
    else K (jL true nb.val) 1)
   else
    (if nU c false 0=true then Vl c b h (level+1) gen λ d=>.alloc (fH gen) d λ j=>Eo m (gJ h level) j λ r=>oI c.t i m r λ ok=>K (rT false 0) (if ok=true then 1 else 0)
    else K (jL false 0) 1)
noncomputable def H2 (c:Cl) (i m index gen:Int) (K:Int->Tr):Tr:=.node m λ nm=>.node ((kU nm index).getD 0) λ nb=>if nb.gen=gen then K ((kU nm index).getD 0) else Me c.t i m index K
noncomputable def Dd (c:Cl) (h:Nat) (K:Rs->Tr) (again:Tr) (gen:Int):Nat->Int->Int->Nat->Tr
 | 0,_,_,_=>.stuck
 | n+1,i,parent,level=>mJ c.t i λ m=>.node m λ nm =>
  if nm.kind=5 then yW c.t parent i h ((level:Int)-1) λ _=>again
  else lY c i m h level gen λ r what=>if what=1 then K r else if what=0 then again else
   H2 c i m (gJ h level) gen λ b=>if b=0 then again else Dd c h K again gen n b i (level+1)
noncomputable def A5 (c:Cl) (h:Nat) (K:Rs->Tr):Nat->Tr
 | 0=>.stuck
 | n+1=>kF c.t λ i=>.node i λ ni=>Dd c h K (A5 c h K n) ni.gen n i 0 0
noncomputable def kI (c:Cl) (i m:Int) (h:Nat) (level:Nat) (K:Rs->Int->Tr):Tr:=.node m λ n =>
 if n.kind=6 then
  (if(dV n.ys c.key).isSome=false∨(c.only=true/\(dV n.ys c.key).getD 0≠c.exp) then K (jL (dV n.ys c.key).isSome ((dV n.ys c.key).getD 0)) 1
  else .alloc (pf n c.key) m λ r=>oI c.t i m r λ ok=>K (rT true ((dV n.ys c.key).getD 0)) (if ok=true then 1 else 0))
 else match kU n (gJ h level) with
  | none=>K (jL false 0) 1
  | some b=>.node b λ s=>if s.kind=2 then K Rs.zero 2 else if s.key≠c.key then K (jL false 0) 1 else if c.only=true/\s.val≠c.exp then K (jL true s.val) 1
   else .node ((K9 (M9 n (gJ h level))).getD 0) λ so=>.alloc (zq (M9 n (gJ h level)) level so) m λ r=>oI c.t i m r λ ok=>K (rT true s.val) (if ok=true then 1 else 0)
noncomputable def wi (t:dO) (path:List Int) (h:Nat) (K:Tr):Nat->Tr
 | 0=>K
 | l+1=>mJ t (path.getD (l+1) 0) λ m=>.node m λ nm=>if nm.kind=5 then yW t (path.getD l 0) (path.getD (l+1) 0) h (l:Int) λ _=>wi t path h K l else K
noncomputable def wG (c:Cl) (h:Nat) (K:Rs->Tr) (again:Tr) (gen:Int):Nat->Int->List Int->Nat->Tr
 | 0,_,_,_=>.stuck
 | n+1,i,path,level=>mJ c.t i λ m=>.node m λ nm =>
  if nm.kind=5 then yW c.t (path.getD (level-1) 0) i h ((level:Int)-1) λ _=>again
  else kI c i m h level λ r what=>if what=1 then(if r.fY=1 then wi c.t path h (K r) (path.length-1) else K r) else if what=0 then again else
   H2 c i m (gJ h level) gen λ b=>if b=0 then again else wG c h K again gen n b (path++[b]) (level+1)
noncomputable def qU (c:Cl) (h:Nat) (K:Rs->Tr):Nat->Tr
 | 0=>.stuck
 | n+1=>kF c.t λ i=>.node i λ ni=>wG c h K (qU c h K n) ni.gen n i [i] 0
def Io(root:Int)(ro:Bool):Rs:=⟨0,true,0,⟨#[]⟩,0,0,root,ro⟩
def Jt(m:Int)(K:Rs->Tr):Tr:=.gen λ g=>.alloc (fH g) m λ r=>.cell r λ c=>K (Io c false)
def Gf(t:dO)(fz:Bool)(K:Rs->Tr):Nat->Tr
 | 0=>.stuck
 | n+1=>kF t λ r=>mJ t r λ m=>.gen λ g=>.alloc (fH g) m λ j=>jK t r m j λ ok =>
  if ok=true then(if fz=true then .cell r λ c=>K (Io c true) else Jt m K) else Gf t fz K n
def sX(t:dO)(fz:Bool)(K:Rs->Tr)(n:Nat):Tr :=
 if t.ro=true then .load t.root λ r=>if fz=true then .cell r λ c=>K (Io c true) else mJ t r λ m=>Jt m K
 else Gf t fz K n
def wP(t:dO)(K:Rs->Tr):Nat->Tr
 | 0=>.stuck
 | n+1=>kF t λ r=>mJ t r λ m=>.alloc Fq 0 λ c=>.gen λ g=>.alloc (fH g) c λ j=>jK t r m j λ ok =>
  if ok=true then K (jL true 0) else wP t K n
def eN(r:Int)(f:Bool):Rs:=⟨0,f,0,⟨#[]⟩,0,r,0,false⟩
def refuse(c:Cl):Int:=if c.kind=7∨c.kind=9 then(if c.key.size<=64 then 0 else 1) else if c.kind=8 then(if c.key.size<=64/\0<=c.Il/\c.Il<=3 then 0 else 1) else 0
noncomputable def kX (c:Cl) (h:Nat) (n:Nat):Tr :=
 if refuse c≠0 then .done {Rs.zero with err:=refuse c}
 else if c.kind=1 then mJ c.t c.a λ r=>.done (eN r false)
 else if c.kind=2 then oI c.t c.a c.b c.n λ ok=>.done (eN 0 ok)
 else if c.kind=3 then kF c.t λ r=>.done (eN r false)
 else if c.kind=4 then jK c.t c.a c.b c.n λ ok=>.done (eN 0 ok)
 else if c.kind=7 then kF c.t λ i=>Db c.t h c.key .done n i 0
 else if c.kind=8 then A5 c h .done n
 else if c.kind=9 then qU c h .done n
 else if c.kind=10 then sX c.t false .done n
 else if c.kind=11 then sX c.t true .done n
 else wP c.t .done n
end
section
open Go Go.RowKit Go.Ct
def xoC(k:Cl)(bm:Nat)(x:XS)(dn:Bool)(rs:Rs):List Value:=[.pointer (some ⟨bm,0,none⟩),
 .int .i64 k.kind,.int .i64 k.t.root,.bool k.t.ro,.int .i64 k.a,.int .i64 k.b,.int .i64 k.n,.int .i64 k.index,.int .u64 k.hash,.int .u64 k.mask,.string k.key,.int .u64 k.val,.int .u64 k.exp,.int .i64 k.Il,.bool k.only,
 .bool false,.slice none 0 0,.slice none 0 0,.int .i64 0,.bool false,.int .u64 0,.string ⟨#[]⟩,.int .i64 0,.int .i64 0,.int .i64 0,.bool false,
 .slice x.pg x.got.length x.kg,.slice x.pm x.made.length x.km,.slice x.pl x.cel.length x.kl,.slice x.pe x.gns.length x.ke,
 .int .i64 ((x.a:Nat):Int),.int .i64 ((x.m:Nat):Int),.int .i64 ((x.c:Nat):Int),.int .i64 ((x.g:Nat):Int),.int .i64 ((x.fr:Nat):Int),.bool x.st,
 .int .i64 x.nx.k,.int .i64 x.nx.c,.int .i64 x.nx.o,.int .i64 x.nx.n,.bool dn,
 .int .i64 rs.err,.bool rs.found,.int .u64 rs.val,.string rs.key,.int .i64 rs.fY,.int .i64 rs.ref,.int .i64 rs.root,.bool rs.ro,
 .bool false,.slice none 0 0,.slice none 0 0]
abbrev xO(k:Cl)(bm:Nat)(x:XS)(dn:Bool)(rs:Rs):Obj:=.cells ⟨xoC k bm x dn rs⟩ 153 (0,0)
abbrev xM(x:XS):Obj:=mO x.L x.cs x.gen x.acc x.pn x.cn x.pc x.cc
abbrev xW(x:XS):List Ow:=[⟨x.pg,aH x.got,x.kg,37,1⟩,⟨x.pm,aH x.made,x.km,37,1⟩,⟨x.pl,aH x.cel,x.kl,27,1⟩,⟨x.pe,aH x.gns,x.ke,3,1⟩,⟨x.pn,gX x.L,x.cn,47,14⟩,⟨x.pc,aH x.cs,x.cc,37,1⟩]
abbrev xH(k:Cl)(bx bm:Nat)(x:XS)(dn:Bool)(rs:Rs):List (Nat×Obj):=[(bx,xO k bm x dn rs),(bm,xM x)]
theorem aBL{w0 w:World}{D:List Nat}{k:Cl}{bx bm:Nat}{x:XS}{dn:Bool}{rs:Rs}{A F:Fr}(h:SF w0 D (xH k bx bm x dn rs) A F (xW x) w) :
  SF w0 D [(bx,.cells ⟨[.pointer (some ⟨bm,0,none⟩),
 .int .i64 k.kind,.int .i64 k.t.root,.bool k.t.ro,.int .i64 k.a,.int .i64 k.b,.int .i64 k.n,.int .i64 k.index,.int .u64 k.hash,.int .u64 k.mask,.string k.key,.int .u64 k.val,.int .u64 k.exp,.int .i64 k.Il,.bool k.only,
 .bool false,.slice none 0 0,.slice none 0 0,.int .i64 0,.bool false,.int .u64 0,.string ⟨#[]⟩,.int .i64 0,.int .i64 0,.int .i64 0,.bool false,
 .slice x.pg x.got.length x.kg,.slice x.pm x.made.length x.km,.slice x.pl x.cel.length x.kl,.slice x.pe x.gns.length x.ke,
 .int .i64 ((x.a:Nat):Int),.int .i64 ((x.m:Nat):Int),.int .i64 ((x.c:Nat):Int),.int .i64 ((x.g:Nat):Int),.int .i64 ((x.fr:Nat):Int),.bool x.st,
 .int .i64 x.nx.k,.int .i64 x.nx.c,.int .i64 x.nx.o,.int .i64 x.nx.n,.bool dn,
 .int .i64 rs.err,.bool rs.found,.int .u64 rs.val,.string rs.key,.int .i64 rs.fY,.int .i64 rs.ref,.int .i64 rs.root,.bool rs.ro,
 .bool false,.slice none 0 0,.slice none 0 0]⟩ 153 (0,0)),(bm,mO x.L x.cs x.gen x.acc x.pn x.cn x.pc x.cc)] A F [⟨x.pg,aH x.got,x.kg,37,1⟩,⟨x.pm,aH x.made,x.km,37,1⟩,⟨x.pl,aH x.cel,x.kl,27,1⟩,⟨x.pe,aH x.gns,x.ke,3,1⟩,⟨x.pn,gX x.L,x.cn,47,14⟩,⟨x.pc,aH x.cs,x.cc,37,1⟩] w:=h
theorem cH{w0 w:World}{D:List Nat}{k:Cl}{bx bm:Nat}{x:XS}{dn:Bool}{rs:Rs}{A F:Fr}(h:SF w0 D (xH k bx bm x dn rs) A F (xW x) w) :
  SF w0 D [(bx,.cells ⟨xoC k bm x dn rs⟩ 153 (0,0)),(bm,mO x.L x.cs x.gen x.acc x.pn x.cn x.pc x.cc)] A F [⟨x.pg,aH x.got,x.kg,37,1⟩,⟨x.pm,aH x.made,x.km,37,1⟩,⟨x.pl,aH x.cel,x.kl,27,1⟩,⟨x.pe,aH x.gns,x.ke,3,1⟩,⟨x.pn,gX x.L,x.cn,47,14⟩,⟨x.pc,aH x.cs,x.cc,37,1⟩] w:=h
end
end Go.Proofs.YtbajmaoegmbfgaaGreat

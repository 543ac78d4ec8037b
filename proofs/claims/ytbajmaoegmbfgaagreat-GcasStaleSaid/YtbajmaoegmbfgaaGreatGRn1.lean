/- Merged. -/
import Derived.Test.YtbajmaoegmbfgaaGreatGBr6
import Derived.Test.YtbajmaoegmbfgaaGreatGBr2
import Derived.Test.YtbajmaoegmbfgaaGreatGPa1
import Derived.Test.YtbajmaoegmbfgaaGreatGNode2
import Derived.Test.YtbajmaoegmbfgaaGreatGAr9
import Derived.Test.YtbajmaoegmbfgaaGreatGAr4
set_option linter.unusedSimpArgs false
set_option linter.unusedVariables false
namespace Go.Ct
open Go Go.RowKit
section
def two(i k:Nat)(x s:Int):List Int:=if i<k then [x,s] else [s,x]
structure NI where
 n:Nd
 xs:List Int
 ys:List Pr
 init:Int
def AX.no:AX:=⟨none,0,none,0,none,0,none,0⟩
def NI.c(a:NI)(c:Nat):Nv:=(nM a.n a.xs a.ys c AX.no).c
abbrev Hw(h:Nat)(ys:List Pr):NI:=⟨{Nd.zero with kind:=6,hash:=(h:Int)},[],ys,0⟩
abbrev vQ(h:Nat)(k:ByteArray)(u:Int):NI:=⟨{Nd.zero with kind:=4,hash:=(h:Int),key:=k,val:=u},[],[],0⟩
abbrev rF(gen m:Int):NI:=⟨{Nd.zero with kind:=2,gen:=gen},[],[],m⟩
abbrev dy(b:Nat)(xs:List Int):NI:=⟨{Nd.zero with kind:=3,bm:=(b:Int)},xs,[],0⟩
def NI.no:NI:=⟨Nd.zero,[],[],0⟩
structure Jm(v:aP)(a:NI):Prop where
 xs:v.xs=a.xs
 ys:v.ys=a.ys
 kind:v.nd.kind=a.n.kind
 c:∀k,(nM v.nd v.xs v.ys k AX.no).c=a.c k
 fit:v.Fit
 sx:v.xs.length<=1000
 sy:v.ys.length<=1000
 c0:v.c=a.n.c a.xs a.ys
inductive oX:List aP->List NI->Prop where
 | nil:oX [] []
 | cons {v:aP} {a:NI} {L:List aP} {l:List NI} (h:Jm v a) (hr:oX L l):oX (v::L) (a::l)
theorem oX.len{L:List aP}{l:List NI}(h:oX L l):L.length=l.length:=by
 induction h with
 | nil=>rfl
 | cons _ _ ih=>simp[ih]
theorem oX.append{L M:List aP}{l m:List NI}(h:oX L l)(h2:oX M m):oX (L++M) (l++m):=by
 induction h with
 | nil=>exact h2
 | cons h _ ih=>exact .cons h ih
theorem oX.at{L:List aP}{l:List NI}(h:oX L l){i:Nat}(hi:i<L.length):∃a,l[i]?=some a/\Jm (L.getD i aP.zero) a:=by
 induction h generalizing i with
 | nil=>simp at hi
 | @cons v a L l h _ ih =>
  cases i with
  | zero=>exact⟨a,rfl,h⟩
  | succ i =>
   obtain⟨b,h1,h2⟩:=ih (i:=i) (by simpa using hi)
   exact⟨b,by simpa using h1,by simpa using h2⟩
def Fy(l:List NI):List Int:=l.map NI.init
theorem SF.aBJ{w0 w:World}{M:List Nat}{H:List (Nat×Obj)}{A F:Fr}{O:List Ow}{f1 f2:Option Addr×List Value}(h:SF w0 M H A (f1::f2::F) O w):SF w0 M H A (f2::f1::F) O w:=h.eW λ f hf=>.inr (by
 simp only[List.mem_cons] at hf ⊢
 rcases hf with h|h|h
 ·exact .inr (.inl h)
 ·exact .inl h
 ·exact .inr (.inr h))
theorem SF.aCd{w0 w:World}{M:List Nat}{H:List (Nat×Obj)}{A F:Fr}{O:List Ow}{i c:Nat}{p:Option Addr}(h:SF w0 M H A F O w){l:List Int}{T:TypeId}(ho:xC O i p (aG l) c T 1):l.length<=c:=by
 rcases(h.own _ ho.mem).1 with⟨_,h2,_⟩|⟨b,rest,_,_,h3⟩
 ·have h2':aG l=[]:=h2
  have:(aG l).length=0:=by rw[h2'];rfl
  rw[iX] at this
  omega
 ·have h3':(aG l++rest).length=c*1:=h3
  rw[List.length_append,iX] at h3'
  omega
end
end Go.Ct
namespace Go.Proofs.YtbajmaoegmbfgaaGreat
open Go Go.RowKit Go.Ct
section
def dN(x:Int)(h0 h:Nat)(p0:Pr)(k:ByteArray)(u gen:Int)(f:Nat):Nat->Nat->List NI
 | 0,lvl=>if lvl=11 then [Hw h (D8 [p0,(k,u)])] else [vQ h k u,dy (dU (dU 0 (sl h0 lvl:Int)) (sl h lvl:Int)) (two (sl h0 lvl) (sl h lvl) x (f:Int))]
 | n+1,lvl=>dN x h0 h p0 k u gen f n (lvl+1)++[rF gen ((f-1+(dN x h0 h p0 k u gen f n (lvl+1)).length:Nat):Int),dy (dU 0 (sl h lvl:Int)) [((f+(dN x h0 h p0 k u gen f n (lvl+1)).length:Nat):Int)]]
theorem Uf{x:Int}{h0 h:Nat}{p0:Pr}{k:ByteArray}{u gen:Int}{f:Nat}:∀n lvl,(dN x h0 h p0 k u gen f n lvl).length<=2+2*n
 | 0,lvl=>by
  unfold dN
  split<;>simp
 | n+1,lvl=>by
  have:=Uf (x:=x) (h0:=h0) (h:=h) (p0:=p0) (k:=k) (u:=u) (gen:=gen) (f:=f) n (lvl+1)
  unfold dN
  simp only[List.length_append,List.length_cons,List.length_nil]
  omega
theorem ur{i k:Nat}(hi:i<64)(hk:k<64)(hne:i≠k)(a b:Int)(w:World) :
  Calls Tryz.prog 261 #[.int .i64 (i:Int),.int .i64 a,.int .i64 (k:Int),.int .i64 b] w λ e w'=>∃p:Option Addr,e=.returned (.agg ⟨[.int .i64 3,.int .i64 0,.int .i64 0,.int .u64 ((dU (dU 0 (i:Int)) (k:Int):Nat):Int),.slice p 2 2,.int .u64 0,.string ⟨#[]⟩,.int .u64 0,.slice none 0 0,.int .i64 0,.int .i64 0,.int .i64 0,.int .i64 0,.int .i64 0]⟩)/\True/\SF w [] [] [] [(p,aG (two i k a b))] [] w':=by
 refine enter Tryz.func261 Tryz.ntmps261 rfl rfl (SF.s0 w) ?_
 simp only[cC]
 refine J0 ?_;refine aK (λ x8=>?_);refine aH ?_;refine J2 ?_;refine aQ (cV (hc:=λ w1 hw=>nW (n:=0) (by decide) (i:Int) w1)) (λ x11=>?_);refine aA ?_;refine aQ (cV (hc:=λ w1 hw=>nW (n:=dU 0 (i:Int)) (A4 (by decide) _) (k:Int) w1)) (λ x13=>?_);refine pK ?_;refine eZ (λ x16=>?_);refine bN ?_;refine aK (λ x9=>?_);refine J5 ?_;refine C6 ?_;refine Aj ?_
 refine bC (λ c20=>?_) (λ c20=>?_)
 ·refine Iz ?_;refine eZ (λ x23=>?_);refine uM ?_;refine nI ?_;refine J5 ?_
  refine bE Tryz.results261 (λ w hw=>?_)
  first
  | exact⟨some ⟨x23,0,none⟩,rfl,trivial,by rw[show two i k a b=[b,a] from if_neg (by omega)];exact hw.ret (List.nil_sublist _) (aY.jH λ f hf=>by rw[List.mem_singleton.1 hf];exact .head _) (List.Sublist.refl _)⟩
  | exact⟨some ⟨x16,0,none⟩,rfl,trivial,by rw[show two i k a b=[a,b] from if_pos (by omega)];exact hw.ret (List.nil_sublist _) (aY.jH λ f hf=>by rw[List.mem_singleton.1 hf];exact .head _) (List.Sublist.refl _)⟩
 ·refine aZ ?_;refine nI ?_;refine J5 ?_
  refine bE Tryz.results261 (λ w hw=>?_)
  first
  | exact⟨some ⟨x16,0,none⟩,rfl,trivial,by rw[show two i k a b=[a,b] from if_pos (by omega)];exact hw.ret (List.nil_sublist _) (aY.jH λ f hf=>by rw[List.mem_singleton.1 hf];exact .head _) (List.Sublist.refl _)⟩
theorem uk{l:List Pr}{a:Option Addr}{c:Nat}{w:World}(ha:Cl w a (cY l))(hlen:l.length<=200000000000) :
  Calls Tryz.prog 61 #[.slice a l.length c] w λ e w'=>∃x:Option Addr×Nat,e=.returned (.slice x.1 (D8 l).length x.2)/\(D8 l).length<=x.2/\SF w [] [] [] [(x.1,cY (D8 l))] [] w':=(qf ha hlen).mono λ _ _ h=>h
theorem Cz{h l:Nat}{i:Int}(hi:i=(l:Int))(hh:h<18446744073709551616)(hl:l<=10)(w:World):Calls Tryz.prog 218 #[.int .u64 (h:Int),.int .i64 i] w λ e w'=>e=.returned (.int .i64 ((sl h l:Nat):Int))/\St w [] [] w':=by
 subst hi
 exact qK hh hl w
abbrev Mn(h:Nat)(ys:List Pr)(p:Option Addr)(c:Nat):aP:=⟨{Nd.zero with kind:=6,hash:=(h:Int),prA:=p,prN:=ys.length,cY:=c},[],ys⟩
abbrev zZ(h:Nat)(k:ByteArray)(u:Int):aP:=⟨{Nd.zero with kind:=4,hash:=(h:Int),key:=k,val:=u},[],[]⟩
abbrev xQ(gen:Int):aP:=⟨{Nd.zero with kind:=2,gen:=gen},[],[]⟩
abbrev ou(n b:Nat)(xs:List Int)(p:Option Addr):aP:=⟨{Nd.zero with kind:=3,bm:=(b:Int),brA:=p,brN:=n,brC:=n},xs,[]⟩
theorem z35:(0:Nat)<=35184372088832:=Nat.zero_le _
theorem z11:(0:Nat)<=11728124029610:=Nat.zero_le _
theorem s9{h:Nat}{ys:List Pr}{p:Option Addr}{c:Nat}(hy:ys.length<=1000):Jm (Mn h ys p c) (Hw h ys):=⟨rfl,rfl,rfl,λ _=>rfl,⟨rfl,rfl,z35,by show ys.length<=_;omega⟩,Nat.zero_le _,hy,rfl⟩
theorem Yv{h:Nat}{k:ByteArray}{u:Int}:Jm (zZ h k u) (vQ h k u):=⟨rfl,rfl,rfl,λ _=>rfl,⟨rfl,rfl,z35,z11⟩,Nat.zero_le _,Nat.zero_le _,rfl⟩
theorem iz{gen m:Int}:Jm (xQ gen) (rF gen m):=⟨rfl,rfl,rfl,λ _=>rfl,⟨rfl,rfl,z35,z11⟩,Nat.zero_le _,Nat.zero_le _,rfl⟩
theorem aBz{n b:Nat}{xs:List Int}{p:Option Addr}(hn:n=xs.length)(hx:xs.length<=1000):Jm (ou n b xs p) (dy b xs):=⟨rfl,rfl,rfl,λ _=>rfl,⟨hn,rfl,by show xs.length<=_;omega,z11⟩,hx,Nat.zero_le _,rfl⟩
structure RX where
 L:List aP
 ini:List Int
 pn:Option Addr
 cn:Nat
 pc:Option Addr
 cc:Nat
structure I2(r:RX)(l:List NI):Prop where
 m:oX r.L l
 ini:r.ini=Fy l
theorem I2.len{r:RX}{l:List NI}(h:I2 r l):r.L.length=l.length/\r.ini.length=l.length:=⟨h.m.len,by rw[h.ini];simp[Fy]⟩
theorem I2.push{r:RX}{l:List NI}(h:I2 r l){gen m:Int}{n b:Nat}{xs:List Int}{p pn pc:Option Addr}{cn cc:Nat}(hn:n=xs.length)(hx:xs.length<=1000):I2 ⟨r.L++[xQ gen,ou n b xs p],r.ini++[m,0],pn,cn,pc,cc⟩ (l++[rF gen m,dy b xs]) :=
 ⟨h.m.append (.cons iz (.cons (aBz hn hx) .nil)),by show r.ini++_=_;rw[h.ini];simp[Fy,rF,dy]⟩
theorem Su{L:List aP}{gen:Int}{b:Nat}{r:Int}{p:Option Addr}{F:Fr}{f:Option Addr×List Value}(hf:f∈aM (L++[xQ gen,ou 1 b [r] p]))(h1:(p,aG [r])∈F)(h2:f∈aM L->f∈F):f.2=[]∨f∈F:=by
 simp only[aM,List.flatMap_append] at hf
 rcases List.mem_append.1 hf with hf|hf
 ·exact .inr (h2 hf)
 ·simp[aP.fr] at hf
  rcases hf with rfl|rfl|rfl|rfl
  ·exact .inl rfl
  ·exact .inl rfl
  ·exact .inr h1
  ·exact .inl rfl
variable{v:aP}{at':Int}{h0 h:Nat}{k:ByteArray}{u gen:Int}{fi lvl:Nat}
abbrev dQ(at':Int)(h0 h:Nat)(v:aP)(k:ByteArray)(u gen:Int)(fi:Nat)(n:Nat):List NI:=dN at' h0 h (v.nd.key,v.nd.val) k u gen fi n (lE h0 h-n)
theorem pj{n:Nat}(hn:n<lE h0 h):dQ at' h0 h v k u gen fi (n+1)=dQ at' h0 h v k u gen fi n++[rF gen ((fi-1+(dQ at' h0 h v k u gen fi n).length:Nat):Int),dy (dU 0 (sl h (lE h0 h-(n+1)):Int)) [((fi+(dQ at' h0 h v k u gen fi n).length:Nat):Int)]]:=by
 have e:lE h0 h-(n+1)+1=lE h0 h-n:=by omega
 unfold dQ
 rw[dN,e]
theorem aAm{x y z:Option Addr}{c a b:Nat}(hc:lE h0 h=11):I2 ⟨[Mn h (D8 [(v.nd.key,v.nd.val),(k,u)]) z c],[0],x,a,y,b⟩ (dQ at' h0 h v k u gen fi 0):=by
 have e:dQ at' h0 h v k u gen fi 0=[Hw h (D8 [(v.nd.key,v.nd.val),(k,u)])]:=by
  unfold dQ dN
  exact if_pos hc
 rw[e]
 exact⟨.cons (s9 (Nat.le_trans (W3 _) (by simp))) .nil,rfl⟩
theorem aAs{x y p:Option Addr}{a b:Nat}(hc:lE h0 h≠11):I2 ⟨[zZ h k u,ou 2 (dU (dU 0 (sl h0 (lE h0 h):Int)) (sl h (lE h0 h):Int)) (two (sl h0 (lE h0 h)) (sl h (lE h0 h)) at' (fi:Int)) p],[0,0],x,a,y,b⟩ (dQ at' h0 h v k u gen fi 0):=by
 have e:dQ at' h0 h v k u gen fi 0=[vQ h k u,dy (dU (dU 0 (sl h0 (lE h0 h):Int)) (sl h (lE h0 h):Int)) (two (sl h0 (lE h0 h)) (sl h (lE h0 h)) at' (fi:Int))]:=by
  unfold dQ dN
  exact if_neg hc
 rw[e]
 exact⟨.cons Yv (.cons (aBz (by unfold two;split<;>rfl) (by unfold two;split<;>simp)) .nil),rfl⟩
theorem bu(hv:v.nd.hash=(h0:Int))(hh0:h0<18446744073709551616)(hh:h<18446744073709551616)(hf1:1<=fi)(hf2:fi<=274877906944)(w:World) :
    Calls Tryz.prog 257 #[.agg ⟨v.nd.cells⟩,.int .i64 at',.int .u64 (h:Int),.string k,.int .u64 u,.int .i64 (lvl:Int),.int .i64 gen,.int .i64 (fi:Int)] w λ e w' =>
      ∃d:RX,e=.returned (.tuple #[.slice d.pn d.L.length d.cn,.slice d.pc d.ini.length d.cc]) /\
      (I2 d (dQ at' h0 h v k u gen fi (lE h0 h-lvl))/\d.L.length<=d.cn/\d.ini.length<=d.cc) /\
      SF w [] [] [] ((d.pn,iJ d.L)::(d.pc,aG d.ini)::aM d.L) [] w':=by
  have hcl:=zK h0 h
  refine enter Tryz.func257 Tryz.ntmps257 rfl rfl (SF.s0 w) ?_
  simp only[cC]
  refine J0 ?_;refine bM (λ x8=>?_);refine J8 ?_;refine Kb9 ?_;refine aQ (cV (hc:=λ w1 hw=>by rw[hv];exact Rf hh0 hh w1)) (λ x26=>?_);refine jF ?_
  refine eO [16,17,18,19,27,28,29,30,31,32,33,34,35,36,37,38,39,40,41,42,43,44,45,46,47,48,49,50,51,52,53,54,55,56,57,58,59] (λ q:RX=>[(16,.slice q.pn q.L.length q.cn),(17,.slice q.pc q.ini.length q.cc),(18,.int .i64 ((lE h0 h:Nat):Int))]) (λ q=>I2 q (dQ at' h0 h v k u gen fi 0)/\q.L.length<=2) (λ q=>[]) (λ q=>aM q.L) (λ q=>[⟨q.pn,iJ q.L,q.cn,47,14⟩,⟨q.pc,aG q.ini,q.cc,37,1⟩]) (by decide) (λ _=>by exact rfl) ?_ (λ q f hx=>?_)
  · refine aV ?_
    refine zG ?_;refine oG ?_;refine aH ?_
    refine bC (λ c28=>?_) (λ c28=>?_)
    · refine iI ?_;refine J3 ?_;refine bN ?_;refine pK ?_;refine bN ?_;refine eZ (λ x37=>?_);refine aD (cF (V:=λ x:Option Addr×Nat=>.slice x.1 (D8 [(v.nd.key,v.nd.val),(k,u)]).length x.2) (hc:=λ w1 hw=>uk (l:=[(v.nd.key,v.nd.val),(k,u)]) (hw.cl (.new .head)) (by simp))) (λ x38 h38=>?_);refine zS ?_;refine bN ?_;refine aQ (Td (c:=1) (sz:=14) rfl (λ _=>cQ (cs:=iJ [Mn h (D8 [(v.nd.key,v.nd.val),(k,u)]) x38.1 x38.2]) sK Jr rfl rfl rfl rfl rfl)) (λ x42=>?_);refine aQ (Td (c:=1) (sz:=1) rfl (λ _=>cQ (cs:=aG [0]) qM Jr rfl rfl rfl rfl rfl)) (λ x43=>?_);refine J8 ?_;refine dM ?_;refine J1 ?_
      refine fH ((⟨[Mn h (D8 [(v.nd.key,v.nd.val),(k,u)]) x38.1 x38.2],[0],some ⟨x42,0,none⟩,1,some ⟨x43,0,none⟩,1⟩:RX)) ?_ (hw1:=λ w hw=>(hw.b9.eW λ f hf=>by simp[aM,aP.fr] at hf;rcases hf with rfl|rfl;exact .inl rfl;exact .inr (.head _)).sub (List.nil_sublist _) aY.all (List.Sublist.refl _))
      · have hne:lE h0 h=11:=by omega
        exact⟨aAm hne,Nat.le_succ 1⟩
    · refine Kc2 ?_;refine bN ?_;refine J3 ?_;refine aA ?_;refine aQ (cV (hc:=λ w1 hw=>by rw[hv];exact qK (l:=lE h0 h) hh0 (by omega) w1)) (λ x51=>?_);refine pK ?_;refine aA ?_;refine aQ (cV (hc:=λ w1 hw=>qK (l:=lE h0 h) hh (by omega) w1)) (λ x55=>?_);refine aA ?_;refine aD (cF (hc:=λ w1 hw=>ur (yM h0 (lE h0 h)) (yM h (lE h0 h)) (Lx (h:=h0) (k:=h) (by omega)) at' (fi:Int) w1)) (λ x57 h57=>?_);refine aQ (Td (c:=2) (sz:=14) rfl (λ _=>cQ (cs:=iJ [zZ h k u,ou 2 (dU (dU 0 (sl h0 (lE h0 h):Int)) (sl h (lE h0 h):Int)) (two (sl h0 (lE h0 h)) (sl h (lE h0 h)) at' (fi:Int)) x57]) sK Jr rfl rfl rfl rfl rfl)) (λ x58=>?_);refine J1 ?_;refine dM ?_;refine aQ (Td (c:=2) (sz:=1) rfl (λ _=>cQ (cs:=aG [0,0]) qM Jr rfl rfl rfl rfl rfl)) (λ x59=>?_);refine J1 ?_
      refine fH ((⟨[zZ h k u,ou 2 (dU (dU 0 (sl h0 (lE h0 h):Int)) (sl h (lE h0 h):Int)) (two (sl h0 (lE h0 h)) (sl h (lE h0 h)) at' (fi:Int)) x57],[0,0],some ⟨x58,0,none⟩,2,some ⟨x59,0,none⟩,2⟩:RX)) ?_ (hw1:=λ w hw=>(hw.b9.eW λ f hf=>by simp[aM,aP.fr] at hf;rcases hf with rfl|rfl|rfl|rfl;exact .inl rfl;exact .inl rfl;exact .inr (.head _);exact .inl rfl).sub (List.nil_sublist _) aY.all (List.Sublist.refl _))
      · have hne:lE h0 h≠11:=by omega
        exact⟨aAs hne,Nat.le_refl 2⟩
  dsimp only[hY,List.map,List.cons_append,List.nil_append]
  refine kT ?_;refine rD ?_;refine J1 ?_;refine cS ?_
  have hq2:=hx.1.len
  refine nT [16,17,20,21,22,62,63,64,65,66,67,68,69,70,71,72,73,74,75,76,77,78,79,80,81,82,83,84,85,86,87,88,89] (λ y:Nat×RX=>[(16,.slice y.2.pn y.2.L.length y.2.cn),(17,.slice y.2.pc y.2.ini.length y.2.cc),(20,.int .i64 (((lE h0 h-y.1:Nat):Int)-1))]) (λ y=>y.1<=lE h0 h-lvl/\I2 y.2 (dQ at' h0 h v k u gen fi y.1)/\y.2.L.length<=2+2*y.1) (λ _=>_) (λ y=>aM y.2.L) (λ y=>[⟨y.2.pn,iJ y.2.L,y.2.cn,47,14⟩,⟨y.2.pc,aG y.2.ini,y.2.cc,37,1⟩]) (λ y=>lE h0 h-lvl-y.1) ((0,q)) (⟨Nat.zero_le _,hx⟩) (λ y f hx=>?_) (hw0:=λ w hw=>hw.sub (List.Sublist.refl _) aY.all (List.Sublist.refl _))
  dsimp only[hY,List.map,List.cons_append,List.nil_append]
  obtain⟨hy1,hy2,hy3⟩:=hx
  obtain⟨hy4,hy5⟩:=hy2.len
  refine C6 ?_;refine oG ?_;refine aH ?_
  refine bC (λ c64=>?_) (λ c64=>?_)
  · obtain⟨lv,elv⟩:∃lv:Nat,lE h0 h-(y.1+1)=lv:=⟨_,rfl⟩
    have elv2:(((lE h0 h-y.1:Nat):Int)-1)=(lv:Int):=by omega
    have hlv2:lv<=10:=by omega
    refine rX ?_;refine jG ?_;refine dR ?_;refine aC (pB rf rf (by omega)) rfl ?_;refine aC (jK (n:=1) rf rf (by omega) (by omega)) rfl ?_;refine zS ?_;refine aQ (cV (hc:=λ w1 hw=>Cz elv2 hh hlv2 w1)) (λ x74=>?_);refine zS ?_;refine bN ?_;refine aA ?_;refine aQ (cV (hc:=λ w1 hw=>nW (n:=0) (by decide) (sl h lv:Int) w1)) (λ x79=>?_);refine aA ?_;refine aC (pB (n:=1) rf rf (by omega)) rfl ?_;refine aQ (Ma (λ _=>cQ (cs:=aG [((fi+y.2.L.length-1+1:Nat):Int)]) qM Jr rfl rfl rfl rfl rfl)) (λ x82=>?_);refine bN ?_;refine aQ (Ma (λ _=>cQ (cs:=iJ [xQ gen,ou 1 (dU 0 (sl h lv:Int)) [((fi+y.2.L.length-1+1:Nat):Int)] (some ⟨x82,0,none⟩)]) sK Jr rfl rfl rfl rfl rfl)) (λ x84=>?_);(refine aQ (bF.eK (dg (k:=2) (L2:=[xQ gen,ou 1 (dU 0 (sl h lv:Int)) [((fi+y.2.L.length-1+1:Nat):Int)] (some ⟨x82,0,none⟩)]) rf rf yR rfl fin rfl Nt rfl gE (by omega)) uV) (λ x85=>?_);try (refine fD (λ h85=>?_)));refine J1 ?_;refine Iz ?_;refine aQ (Ma (λ _=>cQ (cs:=aG [((fi+y.2.L.length-1:Nat):Int),0]) qM Jr rfl rfl rfl rfl rfl)) (λ x88=>?_);(refine aQ (bF.eK (Um (k:=2) (l2:=[((fi+y.2.L.length-1:Nat):Int),0]) rf rf yR rfl fin rfl Zm gE (by omega)) uV) (λ x89=>?_);try (refine fD (λ h89=>?_)));refine J1 ?_;refine fK ?_;refine zG ?_;refine rD ?_;refine J1 ?_
    refine iS ((y.1+1,(⟨y.2.L++[xQ gen,ou 1 (dU 0 (sl h lv:Int)) [((fi+y.2.L.length-1+1:Nat):Int)] (some ⟨x82,0,none⟩)],y.2.ini++[((fi+y.2.L.length-1:Nat):Int),0],x85.1,x85.2,x89.1,x89.2⟩:RX))) ?_ (hw1:=λ w hw=>hw.eW λ f hf=>Su hf (.tail _ (.tail _ (.head _))) (λ hf=>.tail _ (.tail _ (.tail _ hf))))
    · refine⟨by omega,?_,by simp only[List.length_append,List.length_cons,List.length_nil];omega⟩
      have e1:dQ at' h0 h v k u gen fi (y.1+1)=dQ at' h0 h v k u gen fi y.1++[rF gen ((fi+y.2.L.length-1:Nat):Int),dy (dU 0 (sl h lv:Int)) [((fi+y.2.L.length-1+1:Nat):Int)]]:=by
       rw[pj (by omega),elv,<- hy4,show fi-1+y.2.L.length=fi+y.2.L.length-1 by omega,show fi+y.2.L.length-1+1=fi+y.2.L.length by omega]
      rw[e1]
      exact hy2.push rfl (by simp)
  · have en:y.1=lE h0 h-lvl:=by omega
    refine bP rfl ?_;refine jG ?_;refine J8 ?_
    refine bE Tryz.results257 (λ w hw=>?_)
    refine⟨y.2,rfl,⟨?_,?_,?_⟩,?_⟩
    · rw[<- en]
      exact hy2
    · exact hw.yi .head
    · exact hw.aCd (.tail .head)
    · exact((hw.freeze .head).freeze .head).aBJ.ret (List.nil_sublist _) aY.all (List.nil_sublist _)
end
end Go.Proofs.YtbajmaoegmbfgaaGreat
namespace Go.Ct
section
def NI.c0(a:NI):Nv:=a.n.c a.xs a.ys
end
end Go.Ct
namespace Go.Proofs.YtbajmaoegmbfgaaGreat
section
open Go.RowKit Go.Ct
structure dL where
 root:Int
 ro:Bool
structure Cl where
 kind:Int
 t:dL
 a:Int
 b:Int
 n:Int
 index:Int
 hash:Int
 mask:Int
 key:ByteArray
 val:Int
 exp:Int
 I5:Int
 only:Bool
def gY(h:Nat)(level:Int):Int:=if level<0∨10<level then 0 else(sl h level.toNat:Int)
def oN(p:Int):Nv:=({Nd.zero with kind:=7,bJ:=p}:Nd).c [] []
def nJ(g:Int):Nv:=({Nd.zero with kind:=2,gen:=g}:Nd).c [] []
def Dt(a b c:Int):Nv:=({Nd.zero with kind:=8,bJ:=a,exp:=b,new:=c}:Nd).c [] []
def Ga(h:Int)(k:ByteArray)(u:Int):Nv:=({Nd.zero with kind:=4,hash:=h,key:=k,val:=u}:Nd).c [] []
def Ig:Nv:=({Nd.zero with kind:=3}:Nd).c [] []
def yh(v s:Int)(K:Int->Tr):Tr:=.node v λ n=>K (if s=1 then n.new else n.bJ)
def uL(t:dL)(v s:Int)(K:Int->Tr):Tr:=yh v s λ w=>.jE t.root v w λ _=>K w
def C4(t:dL)(K:Int->Tr):Tr:=.load t.root λ v=>.node v λ n=>if n.kind=2 then K v else .node v λ n=>.load n.status λ s =>
 if s=0 then .node v λ n=>.jE n.status 0 2 λ _=>.node v λ n=>.load n.status λ s=>uL t v s K else uL t v s K
def I3(i m p:Int)(K:Int->Tr):Tr:=.node i λ ni=>.node p λ np=>.jE ni.main m np.bJ λ _=>.node p λ np=>K np.bJ
def kJ(i m:Int)(K:Int->Tr):Tr:=.node m λ nm=>.load nm.prev λ p=>if p=0 then K m else I3 i m p K
def jP(i m p:Int)(c:Bool)(K:Int->Tr):Tr :=
 if c=true then .node m λ nm=>.jE nm.prev p 0 λ _=>kJ i m K
 else .node m λ nm=>.alloc (oN p) 0 λ f=>.jE nm.prev p f λ _=>kJ i m K
def pJ(t:dL)(i m:Int)(K:Int->Tr):Tr:=.node m λ nm=>.load nm.prev λ p=>if p=0 then K m else .node p λ np =>
 if bQ np then(if t.ro=true then jP i m p false K else C4 t λ r=>.node r λ nr=>.node i λ ni=>jP i m p (nr.gen==ni.gen) K)
 else I3 i m p K
def nC(t:dL)(i:Int)(K:Int->Tr):Tr:=.node i λ ni=>.load ni.main λ m=>pJ t i m K
def xY(t:dL)(v:Int)(K:Tr):Tr:=.node v λ n=>nC t n.bJ λ r=>.node v λ n2=>.node v λ n3=>.jE n3.status 0 (if r=n2.exp then 1 else 2) λ _=>K
def uK(t:dL)(K:Int->Tr):Tr:=.load t.root λ v=>.node v λ n=>if n.kind=2 then K v else .node v λ n=>.load n.status λ s =>
 if s=0 then xY t v (.node v λ n=>.load n.status λ s=>uL t v s K) else uL t v s K
def jT(t:dL)(i bJ n:Int)(K:Bool->Tr):Tr:=.node i λ ni=>.jE ni.main bJ n λ b=>if b=true then pJ t i n λ m=>K (m==n) else K false
def vR(t:dL)(bJ exp new:Int)(K:Bool->Tr):Tr:=.alloc (Dt bJ exp new) 0 λ d=>.jE t.root bJ d λ b =>
 if b=true then xY t d (.node d λ nd=>.load nd.status λ s=>uL t d s λ _=>K (s==1)) else K false
noncomputable def Fo (c index r:Int) (K:Int->Tr):Tr:=.node c λ nc=>.alloc (Tn nc index r) c K
noncomputable def No (t:dL) (i c index:Int) (K:Int->Tr):Tr:=.node c λ nc=>nC t ((lA nc index).getD 0) λ m=>.node i λ ni=>.alloc (nJ ni.gen) m λ j =>
 Fo c index j λ r=>jT t i c r λ ok=>K (if ok=true then j else 0)
noncomputable def zC (t:dL) (parent child:Int) (h:Nat) (level:Int) (K:Bool->Tr):Tr:=nC t parent λ m=>.node m λ nm =>
 if lA nm (gY h level)=some child then nC t child λ mc=>.node mc λ nmc =>
  if nmc.kind=5 then .alloc (unV nmc) 0 λ s=>.node m λ nm2=>.alloc (xj (Tn nm2 (gY h level) s) level (unV nmc)) m λ r=>jT t parent m r K
  else K false
 else K false
def jN(f:Bool)(v:Int):Rs:=⟨0,f,v,⟨#[]⟩,0,0,0,false⟩
def sN(f:Bool)(v:Int):Rs:=⟨0,f,v,⟨#[]⟩,1,0,0,false⟩
noncomputable def Cx (t:dL) (h:Nat) (key:ByteArray) (K:Rs->Tr):Nat->Int->Int->Tr
 | 0,_,_=>.stuck
 | n+1,i,level=>nC t i λ mr=>.node mr λ m =>
  if m.kind=5 then(if m.key=key then K (jN true m.val) else K (jN false 0))
  else if m.kind=6 then K (jN (dV m.ys key).isSome ((dV m.ys key).getD 0))
  else match lA m (gY h level) with
   | none=>K (jN false 0)
   | some b=>.node b λ s=>if s.kind=4 then(if s.key=key then K (jN true s.val) else K (jN false 0)) else Cx t h key K n b (level+1)
def oR(c:Cl)(found:Bool)(v:Int):Bool:=if c.I5=1 then !found else if c.I5=2 then found else if c.I5=3 then found&&v==c.exp else true
def Aq:List NI->Int->(Int->Tr)->Tr
 | [],r,K=>K r
 | a::l,_,K=>.alloc a.c0 a.init λ r=>Aq l r K
def dP(at_:Int)(h0 h:Nat)(p:Pr)(k:ByteArray)(u gen:Int)(fi lvl:Nat):List NI:=dN at_ h0 h p k u gen fi (lE h0 h-lvl) (lE h0 h-(lE h0 h-lvl))
def Vf(c:Cl)(b:Int)(h:Nat)(level:Nat)(gen:Int)(K:Int->Tr):Tr:=.node b λ nb =>
 .alloc ((dP b nb.hash.toNat h (nb.key,nb.val) c.key c.val gen 0 level).headD NI.no).c0 ((dP b nb.hash.toNat h (nb.key,nb.val) c.key c.val gen 0 level).headD NI.no).init λ f =>
 Aq (dP b nb.hash.toNat h (nb.key,nb.val) c.key c.val gen f.toNat level).tail f K
noncomputable def mA (c:Cl) (i m:Int) (h:Nat) (level:Nat) (gen:Int) (K:Rs->Int->Tr):Tr:=.node m λ n =>
 if n.kind=6 then
  (if oR c (dV n.ys c.key).isSome ((dV n.ys c.key).getD 0)=true then
   .alloc (yf n c.key c.val) m λ r=>jT c.t i m r λ ok=>K (sN (dV n.ys c.key).isSome ((dV n.ys c.key).getD 0)) (if ok=true then 1 else 0)
  else K (jN (dV n.ys c.key).isSome ((dV n.ys c.key).getD 0)) 1)
 else match lA n (gY h level) with
  | none=>if oR c false 0=true then .alloc (Ga h c.key c.val) 0 λ s=>.alloc (xn n (gY h level) s) m λ r=>jT c.t i m r λ ok=>K (sN false 0) (if ok=true then 1 else 0) else K (jN false 0) 1
  | some b=>.node b λ nb=>if nb.kind=2 then K Rs.zero 2 else
   if nb.key=c.key then
    (if oR c true nb.val=true then .alloc (Ga h c.key c.val) 0 λ s=>Fo m (gY h level) s λ r=>jT c.t i m r λ ok=>K (sN true nb.val) (if ok=true then 1 else 0)
    else K (jN true nb.val) 1)
   else
    (if oR c false 0=true then Vf c b h (level+1) gen λ d=>.alloc (nJ gen) d λ j=>Fo m (gY h level) j λ r=>jT c.t i m r λ ok=>K (sN false 0) (if ok=true then 1 else 0)
    else K (jN false 0) 1)
noncomputable def E4 (c:Cl) (i m index gen:Int) (K:Int->Tr):Tr:=.node m λ nm=>.node ((lA nm index).getD 0) λ nb=>if nb.gen=gen then K ((lA nm index).getD 0) else No c.t i m index K
noncomputable def C3 (c:Cl) (h:Nat) (K:Rs->Tr) (again:Tr) (gen:Int):Nat->Int->Int->Nat->Tr
 | 0,_,_,_=>.stuck
 | n+1,i,parent,level=>nC c.t i λ m=>.node m λ nm =>
  if nm.kind=5 then zC c.t parent i h ((level:Int)-1) λ _=>again
  else mA c i m h level gen λ r what=>if what=1 then K r else if what=0 then again else
   E4 c i m (gY h level) gen λ b=>if b=0 then again else C3 c h K again gen n b i (level+1)
noncomputable def zU (c:Cl) (h:Nat) (K:Rs->Tr):Nat->Tr
 | 0=>.stuck
 | n+1=>uK c.t λ i=>.node i λ ni=>C3 c h K (zU c h K n) ni.gen n i 0 0
noncomputable def kO (c:Cl) (i m:Int) (h:Nat) (level:Nat) (K:Rs->Int->Tr):Tr:=.node m λ n =>
 if n.kind=6 then
  (if(dV n.ys c.key).isSome=false∨(c.only=true/\(dV n.ys c.key).getD 0≠c.exp) then K (jN (dV n.ys c.key).isSome ((dV n.ys c.key).getD 0)) 1
  else .alloc (sj n c.key) m λ r=>jT c.t i m r λ ok=>K (sN true ((dV n.ys c.key).getD 0)) (if ok=true then 1 else 0))
 else match lA n (gY h level) with
  | none=>K (jN false 0) 1
  | some b=>.node b λ s=>if s.kind=2 then K Rs.zero 2 else if s.key≠c.key then K (jN false 0) 1 else if c.only=true/\s.val≠c.exp then K (jN true s.val) 1
   else .node ((Lr (Ny n (gY h level))).getD 0) λ so=>.alloc (xj (Ny n (gY h level)) level so) m λ r=>jT c.t i m r λ ok=>K (sN true s.val) (if ok=true then 1 else 0)
noncomputable def wz (t:dL) (path:List Int) (h:Nat) (K:Tr):Nat->Tr
 | 0=>K
 | l+1=>nC t (path.getD (l+1) 0) λ m=>.node m λ nm=>if nm.kind=5 then zC t (path.getD l 0) (path.getD (l+1) 0) h (l:Int) λ _=>wz t path h K l else K
noncomputable def vW (c:Cl) (h:Nat) (K:Rs->Tr) (again:Tr) (gen:Int):Nat->Int->List Int->Nat->Tr
 | 0,_,_,_=>.stuck
 | n+1,i,path,level=>nC c.t i λ m=>.node m λ nm =>
  if nm.kind=5 then zC c.t (path.getD (level-1) 0) i h ((level:Int)-1) λ _=>again
  else kO c i m h level λ r what=>if what=1 then(if r.gA=1 then wz c.t path h (K r) (path.length-1) else K r) else if what=0 then again else
   E4 c i m (gY h level) gen λ b=>if b=0 then again else vW c h K again gen n b (path++[b]) (level+1)
noncomputable def rH (c:Cl) (h:Nat) (K:Rs->Tr):Nat->Tr
 | 0=>.stuck
 | n+1=>uK c.t λ i=>.node i λ ni=>vW c h K (rH c h K n) ni.gen n i [i] 0
def Ix(root:Int)(ro:Bool):Rs:=⟨0,true,0,⟨#[]⟩,0,0,root,ro⟩
def Jj(m:Int)(K:Rs->Tr):Tr:=.gen λ g=>.alloc (nJ g) m λ r=>.cell r λ c=>K (Ix c false)
def Gh(t:dL)(fz:Bool)(K:Rs->Tr):Nat->Tr
 | 0=>.stuck
 | n+1=>uK t λ r=>nC t r λ m=>.gen λ g=>.alloc (nJ g) m λ j=>vR t r m j λ ok =>
  if ok=true then(if fz=true then .cell r λ c=>K (Ix c true) else Jj m K) else Gh t fz K n
def tE(t:dL)(fz:Bool)(K:Rs->Tr)(n:Nat):Tr :=
 if t.ro=true then .load t.root λ r=>if fz=true then .cell r λ c=>K (Ix c true) else nC t r λ m=>Jj m K
 else Gh t fz K n
def vZ(t:dL)(K:Rs->Tr):Nat->Tr
 | 0=>.stuck
 | n+1=>uK t λ r=>nC t r λ m=>.alloc Ig 0 λ c=>.gen λ g=>.alloc (nJ g) c λ j=>vR t r m j λ ok =>
  if ok=true then K (jN true 0) else vZ t K n
def kF(r:Int)(f:Bool):Rs:=⟨0,f,0,⟨#[]⟩,0,r,0,false⟩
def refuse(c:Cl):Int:=if c.kind=7∨c.kind=9 then(if c.key.size<=64 then 0 else 1) else if c.kind=8 then(if c.key.size<=64/\0<=c.I5/\c.I5<=3 then 0 else 1) else 0
noncomputable def kZ (c:Cl) (h:Nat) (n:Nat):Tr :=
 if refuse c≠0 then .done {Rs.zero with err:=refuse c}
 else if c.kind=1 then nC c.t c.a λ r=>.done (kF r false)
 else if c.kind=2 then jT c.t c.a c.b c.n λ ok=>.done (kF 0 ok)
 else if c.kind=3 then uK c.t λ r=>.done (kF r false)
 else if c.kind=4 then vR c.t c.a c.b c.n λ ok=>.done (kF 0 ok)
 else if c.kind=7 then uK c.t λ i=>Cx c.t h c.key .done n i 0
 else if c.kind=8 then zU c h .done n
 else if c.kind=9 then rH c h .done n
 else if c.kind=10 then tE c.t false .done n
 else if c.kind=11 then tE c.t true .done n
 else vZ c.t .done n
end
section
open Go Go.RowKit Go.Ct
def xoC(k:Cl)(bm:Nat)(x:XS)(dn:Bool)(rs:Rs):List Value:=[.pointer (some ⟨bm,0,none⟩),
 .int .i64 k.kind,.int .i64 k.t.root,.bool k.t.ro,.int .i64 k.a,.int .i64 k.b,.int .i64 k.n,.int .i64 k.index,.int .u64 k.hash,.int .u64 k.mask,.string k.key,.int .u64 k.val,.int .u64 k.exp,.int .i64 k.I5,.bool k.only,
 .bool false,.slice none 0 0,.slice none 0 0,.int .i64 0,.bool false,.int .u64 0,.string ⟨#[]⟩,.int .i64 0,.int .i64 0,.int .i64 0,.bool false,
 .slice x.pg x.got.length x.kg,.slice x.pm x.made.length x.km,.slice x.pl x.cel.length x.kl,.slice x.pe x.gns.length x.ke,
 .int .i64 ((x.a:Nat):Int),.int .i64 ((x.m:Nat):Int),.int .i64 ((x.c:Nat):Int),.int .i64 ((x.g:Nat):Int),.int .i64 ((x.fr:Nat):Int),.bool x.st,
 .int .i64 x.nx.k,.int .i64 x.nx.c,.int .i64 x.nx.o,.int .i64 x.nx.n,.bool dn,
 .int .i64 rs.err,.bool rs.found,.int .u64 rs.val,.string rs.key,.int .i64 rs.gA,.int .i64 rs.ref,.int .i64 rs.root,.bool rs.ro,
 .bool false,.slice none 0 0,.slice none 0 0]
abbrev xO(k:Cl)(bm:Nat)(x:XS)(dn:Bool)(rs:Rs):Obj:=.cells ⟨xoC k bm x dn rs⟩ 153 (0,0)
abbrev xM(x:XS):Obj:=mO x.L x.cs x.gen x.acc x.pn x.cn x.pc x.cc
abbrev xW(x:XS):List Ow:=[⟨x.pg,aG x.got,x.kg,37,1⟩,⟨x.pm,aG x.made,x.km,37,1⟩,⟨x.pl,aG x.cel,x.kl,27,1⟩,⟨x.pe,aG x.gns,x.ke,3,1⟩,⟨x.pn,iJ x.L,x.cn,47,14⟩,⟨x.pc,aG x.cs,x.cc,37,1⟩]
abbrev xH(k:Cl)(bx bm:Nat)(x:XS)(dn:Bool)(rs:Rs):List (Nat×Obj):=[(bx,xO k bm x dn rs),(bm,xM x)]
theorem aBi{w0 w:World}{D:List Nat}{k:Cl}{bx bm:Nat}{x:XS}{dn:Bool}{rs:Rs}{A F:Fr}(h:SF w0 D (xH k bx bm x dn rs) A F (xW x) w) :
  SF w0 D [(bx,.cells ⟨[.pointer (some ⟨bm,0,none⟩),
 .int .i64 k.kind,.int .i64 k.t.root,.bool k.t.ro,.int .i64 k.a,.int .i64 k.b,.int .i64 k.n,.int .i64 k.index,.int .u64 k.hash,.int .u64 k.mask,.string k.key,.int .u64 k.val,.int .u64 k.exp,.int .i64 k.I5,.bool k.only,
 .bool false,.slice none 0 0,.slice none 0 0,.int .i64 0,.bool false,.int .u64 0,.string ⟨#[]⟩,.int .i64 0,.int .i64 0,.int .i64 0,.bool false,
 .slice x.pg x.got.length x.kg,.slice x.pm x.made.length x.km,.slice x.pl x.cel.length x.kl,.slice x.pe x.gns.length x.ke,
 .int .i64 ((x.a:Nat):Int),.int .i64 ((x.m:Nat):Int),.int .i64 ((x.c:Nat):Int),.int .i64 ((x.g:Nat):Int),.int .i64 ((x.fr:Nat):Int),.bool x.st,
 .int .i64 x.nx.k,.int .i64 x.nx.c,.int .i64 x.nx.o,.int .i64 x.nx.n,.bool dn,
 .int .i64 rs.err,.bool rs.found,.int .u64 rs.val,.string rs.key,.int .i64 rs.gA,.int .i64 rs.ref,.int .i64 rs.root,.bool rs.ro,
 .bool false,.slice none 0 0,.slice none 0 0]⟩ 153 (0,0)),(bm,mO x.L x.cs x.gen x.acc x.pn x.cn x.pc x.cc)] A F [⟨x.pg,aG x.got,x.kg,37,1⟩,⟨x.pm,aG x.made,x.km,37,1⟩,⟨x.pl,aG x.cel,x.kl,27,1⟩,⟨x.pe,aG x.gns,x.ke,3,1⟩,⟨x.pn,iJ x.L,x.cn,47,14⟩,⟨x.pc,aG x.cs,x.cc,37,1⟩] w:=h
theorem cB{w0 w:World}{D:List Nat}{k:Cl}{bx bm:Nat}{x:XS}{dn:Bool}{rs:Rs}{A F:Fr}(h:SF w0 D (xH k bx bm x dn rs) A F (xW x) w) :
  SF w0 D [(bx,.cells ⟨xoC k bm x dn rs⟩ 153 (0,0)),(bm,mO x.L x.cs x.gen x.acc x.pn x.cn x.pc x.cc)] A F [⟨x.pg,aG x.got,x.kg,37,1⟩,⟨x.pm,aG x.made,x.km,37,1⟩,⟨x.pl,aG x.cel,x.kl,27,1⟩,⟨x.pe,aG x.gns,x.ke,3,1⟩,⟨x.pn,iJ x.L,x.cn,47,14⟩,⟨x.pc,aG x.cs,x.cc,37,1⟩] w:=h
end
end Go.Proofs.YtbajmaoegmbfgaaGreat

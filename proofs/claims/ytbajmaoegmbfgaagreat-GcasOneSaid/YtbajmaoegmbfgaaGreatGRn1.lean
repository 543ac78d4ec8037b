/- Merged. -/
import Derived.Test.YtbajmaoegmbfgaaGreatGBr2
import Derived.Test.YtbajmaoegmbfgaaGreatGPa1
import Derived.Test.YtbajmaoegmbfgaaGreatGNode2
import Derived.Test.YtbajmaoegmbfgaaGreatGAr9
import Derived.Test.YtbajmaoegmbfgaaGreatGAr4
set_option linter.unusedSimpArgs false
set_option linter.unusedVariables false
namespace Go.Ct
open Go Go.RowKit
section
def two(i k:Nat)(x s:Int):List Int:=if i<k then [x,s] else [s,x]
structure NI where
 n:Nd
 xs:List Int
 ys:List Pr
 init:Int
def AX.no:AX:=⟨none,0,none,0,none,0,none,0⟩
def NI.c(a:NI)(c:Nat):Nv:=(mZ a.n a.xs a.ys c AX.no).c
abbrev Gy(h:Nat)(ys:List Pr):NI:=⟨{Nd.zero with kind:=6,hash:=(h:Int)},[],ys,0⟩
abbrev wZ(h:Nat)(k:ByteArray)(u:Int):NI:=⟨{Nd.zero with kind:=4,hash:=(h:Int),key:=k,val:=u},[],[],0⟩
abbrev rH(gen m:Int):NI:=⟨{Nd.zero with kind:=2,gen:=gen},[],[],m⟩
abbrev j5(b:Nat)(xs:List Int):NI:=⟨{Nd.zero with kind:=3,bm:=(b:Int)},xs,[],0⟩
def NI.no:NI:=⟨Nd.zero,[],[],0⟩
structure Jo(v:aQ)(a:NI):Prop where
 xs:v.xs=a.xs
 ys:v.ys=a.ys
 kind:v.nd.kind=a.n.kind
 c:∀k,(mZ v.nd v.xs v.ys k AX.no).c=a.c k
 fit:v.Fit
 sx:v.xs.length<=1000
 sy:v.ys.length<=1000
 c0:v.c=a.n.c a.xs a.ys
inductive oX:List aQ->List NI->Prop where
 | nil:oX [] []
 | cons {v:aQ} {a:NI} {L:List aQ} {l:List NI} (h:Jo v a) (hr:oX L l):oX (v::L) (a::l)
theorem oX.len{L:List aQ}{l:List NI}(h:oX L l):L.length=l.length:=by
 induction h with
 | nil=>rfl
 | cons _ _ ih=>simp[ih]
theorem oX.append{L M:List aQ}{l m:List NI}(h:oX L l)(h2:oX M m):oX (L++M) (l++m):=by
 induction h with
 | nil=>exact h2
 | cons h _ ih=>exact .cons h ih
theorem oX.at{L:List aQ}{l:List NI}(h:oX L l){i:Nat}(hi:i<L.length):∃a,l[i]?=some a/\Jo (L.getD i aQ.zero) a:=by
 induction h generalizing i with
 | nil=>simp at hi
 | @cons v a L l h _ ih =>
  cases i with
  | zero=>exact⟨a,rfl,h⟩
  | succ i =>
   obtain⟨b,h1,h2⟩:=ih (i:=i) (by simpa using hi)
   exact⟨b,by simpa using h1,by simpa using h2⟩
def Hr(l:List NI):List Int:=l.map NI.init
theorem SF.aBH{w0 w:World}{M:List Nat}{H:List (Nat×Obj)}{A F:Fr}{O:List Ow}{f1 f2:Option Addr×List Value}(h:SF w0 M H A (f1::f2::F) O w):SF w0 M H A (f2::f1::F) O w:=h.eX λ f hf=>.inr (by
 simp only[List.mem_cons] at hf ⊢
 rcases hf with h|h|h
 ·exact .inr (.inl h)
 ·exact .inl h
 ·exact .inr (.inr h))
theorem SF.aBM{w0 w:World}{M:List Nat}{H:List (Nat×Obj)}{A F:Fr}{O:List Ow}{i c:Nat}{p:Option Addr}(h:SF w0 M H A F O w){l:List Int}{T:TypeId}(ho:xP O i p (aH l) c T 1):l.length<=c:=by
 rcases(h.own _ ho.mem).1 with⟨_,h2,_⟩|⟨b,rest,_,_,h3⟩
 ·have h2':aH l=[]:=h2
  have:(aH l).length=0:=by rw[h2'];rfl
  rw[jD] at this
  omega
 ·have h3':(aH l++rest).length=c*1:=h3
  rw[List.length_append,jD] at h3'
  omega
end
end Go.Ct
namespace Go.Proofs.YtbajmaoegmbfgaaGreat
open Go Go.RowKit Go.Ct
section
def dN(x:Int)(h0 h:Nat)(p0:Pr)(k:ByteArray)(u gen:Int)(f:Nat):Nat->Nat->List NI
 | 0,lvl=>if lvl=11 then [Gy h (Ec [p0,(k,u)])] else [wZ h k u,j5 (dZ (dZ 0 (sl h0 lvl:Int)) (sl h lvl:Int)) (two (sl h0 lvl) (sl h lvl) x (f:Int))]
 | n+1,lvl=>dN x h0 h p0 k u gen f n (lvl+1)++[rH gen ((f-1+(dN x h0 h p0 k u gen f n (lvl+1)).length:Nat):Int),j5 (dZ 0 (sl h lvl:Int)) [((f+(dN x h0 h p0 k u gen f n (lvl+1)).length:Nat):Int)]]
theorem R3{x:Int}{h0 h:Nat}{p0:Pr}{k:ByteArray}{u gen:Int}{f:Nat}:∀n lvl,(dN x h0 h p0 k u gen f n lvl).length<=2+2*n
 | 0,lvl=>by
  unfold dN
  split<;>simp
 | n+1,lvl=>by
  have:=R3 (x:=x) (h0:=h0) (h:=h) (p0:=p0) (k:=k) (u:=u) (gen:=gen) (f:=f) n (lvl+1)
  unfold dN
  simp only[List.length_append,List.length_cons,List.length_nil]
  omega
theorem oy{i k:Nat}(hi:i<64)(hk:k<64)(hne:i≠k)(a b:Int)(w:World) :
  Calls Tryz.prog 261 #[.int .i64 (i:Int),.int .i64 a,.int .i64 (k:Int),.int .i64 b] w λ e w'=>∃p:Option Addr,e=.returned (.agg ⟨[.int .i64 3,.int .i64 0,.int .i64 0,.int .u64 ((dZ (dZ 0 (i:Int)) (k:Int):Nat):Int),.slice p 2 2,.int .u64 0,.string ⟨#[]⟩,.int .u64 0,.slice none 0 0,.int .i64 0,.int .i64 0,.int .i64 0,.int .i64 0,.int .i64 0]⟩)/\True/\SF w [] [] [] [(p,aH (two i k a b))] [] w':=by
 refine enter Tryz.func261 Tryz.ntmps261 rfl rfl (SF.s0 w) ?_
 simp only[cG]
 refine J0 ?_;refine aL (λ x8=>?_);refine aI ?_;refine J2 ?_;refine aP (cV (hc:=λ w1 hw=>nQ (n:=0) (by decide) (i:Int) w1)) (λ x11=>?_);refine aB ?_;refine aP (cV (hc:=λ w1 hw=>nQ (n:=dZ 0 (i:Int)) (Bf (by decide) _) (k:Int) w1)) (λ x13=>?_);refine pM ?_;refine fF (λ x16=>?_);refine bO ?_;refine aL (λ x9=>?_);refine J5 ?_;refine C4 ?_;refine Bi ?_
 refine bC (λ c20=>?_) (λ c20=>?_)
 ·refine Jb ?_;refine fF (λ x23=>?_);refine vL ?_;refine oR ?_;refine J5 ?_
  refine bD Tryz.results261 (λ w hw=>?_)
  first
  | exact⟨some ⟨x23,0,none⟩,rfl,trivial,by rw[show two i k a b=[b,a] from if_neg (by omega)];exact hw.ret (List.nil_sublist _) (aX.iV λ f hf=>by rw[List.mem_singleton.1 hf];exact .head _) (List.Sublist.refl _)⟩
  | exact⟨some ⟨x16,0,none⟩,rfl,trivial,by rw[show two i k a b=[a,b] from if_pos (by omega)];exact hw.ret (List.nil_sublist _) (aX.iV λ f hf=>by rw[List.mem_singleton.1 hf];exact .head _) (List.Sublist.refl _)⟩
 ·refine aZ ?_;refine oR ?_;refine J5 ?_
  refine bD Tryz.results261 (λ w hw=>?_)
  first
  | exact⟨some ⟨x16,0,none⟩,rfl,trivial,by rw[show two i k a b=[a,b] from if_pos (by omega)];exact hw.ret (List.nil_sublist _) (aX.iV λ f hf=>by rw[List.mem_singleton.1 hf];exact .head _) (List.Sublist.refl _)⟩
theorem pj{l:List Pr}{a:Option Addr}{c:Nat}{w:World}(ha:Cl w a (cX l))(hlen:l.length<=200000000000) :
  Calls Tryz.prog 61 #[.slice a l.length c] w λ e w'=>∃x:Option Addr×Nat,e=.returned (.slice x.1 (Ec l).length x.2)/\(Ec l).length<=x.2/\SF w [] [] [] [(x.1,cX (Ec l))] [] w':=(ub ha hlen).mono λ _ _ h=>h
theorem Dc{h l:Nat}{i:Int}(hi:i=(l:Int))(hh:h<18446744073709551616)(hl:l<=10)(w:World):Calls Tryz.prog 218 #[.int .u64 (h:Int),.int .i64 i] w λ e w'=>e=.returned (.int .i64 ((sl h l:Nat):Int))/\St w [] [] w':=by
 subst hi
 exact qF hh hl w
abbrev Lt(h:Nat)(ys:List Pr)(p:Option Addr)(c:Nat):aQ:=⟨{Nd.zero with kind:=6,hash:=(h:Int),prA:=p,prN:=ys.length,cX:=c},[],ys⟩
abbrev Aa(h:Nat)(k:ByteArray)(u:Int):aQ:=⟨{Nd.zero with kind:=4,hash:=(h:Int),key:=k,val:=u},[],[]⟩
abbrev yF(gen:Int):aQ:=⟨{Nd.zero with kind:=2,gen:=gen},[],[]⟩
abbrev qh(n b:Nat)(xs:List Int)(p:Option Addr):aQ:=⟨{Nd.zero with kind:=3,bm:=(b:Int),brA:=p,brN:=n,brC:=n},xs,[]⟩
theorem z35:(0:Nat)<=35184372088832:=Nat.zero_le _
theorem z11:(0:Nat)<=11728124029610:=Nat.zero_le _
theorem p8{h:Nat}{ys:List Pr}{p:Option Addr}{c:Nat}(hy:ys.length<=1000):Jo (Lt h ys p c) (Gy h ys):=⟨rfl,rfl,rfl,λ _=>rfl,⟨rfl,rfl,z35,by show ys.length<=_;omega⟩,Nat.zero_le _,hy,rfl⟩
theorem Y1{h:Nat}{k:ByteArray}{u:Int}:Jo (Aa h k u) (wZ h k u):=⟨rfl,rfl,rfl,λ _=>rfl,⟨rfl,rfl,z35,z11⟩,Nat.zero_le _,Nat.zero_le _,rfl⟩
theorem cw{gen m:Int}:Jo (yF gen) (rH gen m):=⟨rfl,rfl,rfl,λ _=>rfl,⟨rfl,rfl,z35,z11⟩,Nat.zero_le _,Nat.zero_le _,rfl⟩
theorem aA1{n b:Nat}{xs:List Int}{p:Option Addr}(hn:n=xs.length)(hx:xs.length<=1000):Jo (qh n b xs p) (j5 b xs):=⟨rfl,rfl,rfl,λ _=>rfl,⟨hn,rfl,by show xs.length<=_;omega,z11⟩,hx,Nat.zero_le _,rfl⟩
structure RX where
 L:List aQ
 ini:List Int
 pn:Option Addr
 cn:Nat
 pc:Option Addr
 cc:Nat
structure Iz(r:RX)(l:List NI):Prop where
 m:oX r.L l
 ini:r.ini=Hr l
theorem Iz.len{r:RX}{l:List NI}(h:Iz r l):r.L.length=l.length/\r.ini.length=l.length:=⟨h.m.len,by rw[h.ini];simp[Hr]⟩
theorem Iz.push{r:RX}{l:List NI}(h:Iz r l){gen m:Int}{n b:Nat}{xs:List Int}{p pn pc:Option Addr}{cn cc:Nat}(hn:n=xs.length)(hx:xs.length<=1000):Iz ⟨r.L++[yF gen,qh n b xs p],r.ini++[m,0],pn,cn,pc,cc⟩ (l++[rH gen m,j5 b xs]) :=
 ⟨h.m.append (.cons cw (.cons (aA1 hn hx) .nil)),by show r.ini++_=_;rw[h.ini];simp[Hr,rH,j5]⟩
theorem Sj{L:List aQ}{gen:Int}{b:Nat}{r:Int}{p:Option Addr}{F:Fr}{f:Option Addr×List Value}(hf:f∈aN (L++[yF gen,qh 1 b [r] p]))(h1:(p,aH [r])∈F)(h2:f∈aN L->f∈F):f.2=[]∨f∈F:=by
 simp only[aN,List.flatMap_append] at hf
 rcases List.mem_append.1 hf with hf|hf
 ·exact .inr (h2 hf)
 ·simp[aQ.fr] at hf
  rcases hf with rfl|rfl|rfl|rfl
  ·exact .inl rfl
  ·exact .inl rfl
  ·exact .inr h1
  ·exact .inl rfl
variable{v:aQ}{at':Int}{h0 h:Nat}{k:ByteArray}{u gen:Int}{fi lvl:Nat}
abbrev dQ(at':Int)(h0 h:Nat)(v:aQ)(k:ByteArray)(u gen:Int)(fi:Nat)(n:Nat):List NI:=dN at' h0 h (v.nd.key,v.nd.val) k u gen fi n (lN h0 h-n)
theorem s7{n:Nat}(hn:n<lN h0 h):dQ at' h0 h v k u gen fi (n+1)=dQ at' h0 h v k u gen fi n++[rH gen ((fi-1+(dQ at' h0 h v k u gen fi n).length:Nat):Int),j5 (dZ 0 (sl h (lN h0 h-(n+1)):Int)) [((fi+(dQ at' h0 h v k u gen fi n).length:Nat):Int)]]:=by
 have e:lN h0 h-(n+1)+1=lN h0 h-n:=by omega
 unfold dQ
 rw[dN,e]
theorem za{x y z:Option Addr}{c a b:Nat}(hc:lN h0 h=11):Iz ⟨[Lt h (Ec [(v.nd.key,v.nd.val),(k,u)]) z c],[0],x,a,y,b⟩ (dQ at' h0 h v k u gen fi 0):=by
 have e:dQ at' h0 h v k u gen fi 0=[Gy h (Ec [(v.nd.key,v.nd.val),(k,u)])]:=by
  unfold dQ dN
  exact if_pos hc
 rw[e]
 exact⟨.cons (p8 (Nat.le_trans (Vb _) (by simp))) .nil,rfl⟩
theorem zh{x y p:Option Addr}{a b:Nat}(hc:lN h0 h≠11):Iz ⟨[Aa h k u,qh 2 (dZ (dZ 0 (sl h0 (lN h0 h):Int)) (sl h (lN h0 h):Int)) (two (sl h0 (lN h0 h)) (sl h (lN h0 h)) at' (fi:Int)) p],[0,0],x,a,y,b⟩ (dQ at' h0 h v k u gen fi 0):=by
 have e:dQ at' h0 h v k u gen fi 0=[wZ h k u,j5 (dZ (dZ 0 (sl h0 (lN h0 h):Int)) (sl h (lN h0 h):Int)) (two (sl h0 (lN h0 h)) (sl h (lN h0 h)) at' (fi:Int))]:=by
  unfold dQ dN
  exact if_neg hc
 rw[e]
 exact⟨.cons Y1 (.cons (aA1 (by unfold two;split<;>rfl) (by unfold two;split<;>simp)) .nil),rfl⟩
theorem fp(hv:v.nd.hash=(h0:Int))(hh0:h0<18446744073709551616)(hh:h<18446744073709551616)(hf1:1<=fi)(hf2:fi<=274877906944)(w:World) :
    Calls Tryz.prog 257 #[.agg ⟨v.nd.cells⟩,.int .i64 at',.int .u64 (h:Int),.string k,.int .u64 u,.int .i64 (lvl:Int),.int .i64 gen,.int .i64 (fi:Int)] w λ e w' =>
      ∃d:RX,e=.returned (.tuple #[.slice d.pn d.L.length d.cn,.slice d.pc d.ini.length d.cc]) /\
      (Iz d (dQ at' h0 h v k u gen fi (lN h0 h-lvl))/\d.L.length<=d.cn/\d.ini.length<=d.cc) /\
      SF w [] [] [] ((d.pn,iI d.L)::(d.pc,aH d.ini)::aN d.L) [] w':=by
  have hcl:=zG h0 h
  refine enter Tryz.func257 Tryz.ntmps257 rfl rfl (SF.s0 w) ?_
  simp only[cG]
  refine J0 ?_;refine bM (λ x8=>?_);refine J8 ?_;refine Kb9 ?_;refine aP (cV (hc:=λ w1 hw=>by rw[hv];exact Pv hh0 hh w1)) (λ x26=>?_);refine iT ?_
  refine eP [16,17,18,19,27,28,29,30,31,32,33,34,35,36,37,38,39,40,41,42,43,44,45,46,47,48,49,50,51,52,53,54,55,56,57,58,59] (λ q:RX=>[(16,.slice q.pn q.L.length q.cn),(17,.slice q.pc q.ini.length q.cc),(18,.int .i64 ((lN h0 h:Nat):Int))]) (λ q=>Iz q (dQ at' h0 h v k u gen fi 0)/\q.L.length<=2) (λ q=>[]) (λ q=>aN q.L) (λ q=>[⟨q.pn,iI q.L,q.cn,47,14⟩,⟨q.pc,aH q.ini,q.cc,37,1⟩]) (by decide) (λ _=>by exact rfl) ?_ (λ q f hx=>?_)
  · refine aV ?_
    refine xK ?_;refine oG ?_;refine aI ?_
    refine bC (λ c28=>?_) (λ c28=>?_)
    · refine iH ?_;refine J3 ?_;refine bO ?_;refine pM ?_;refine bO ?_;refine fF (λ x37=>?_);refine aE (cF (V:=λ x:Option Addr×Nat=>.slice x.1 (Ec [(v.nd.key,v.nd.val),(k,u)]).length x.2) (hc:=λ w1 hw=>pj (l:=[(v.nd.key,v.nd.val),(k,u)]) (hw.cl (.new .head)) (by simp))) (λ x38 h38=>?_);refine zZ ?_;refine bO ?_;refine aP (Ty (c:=1) (sz:=14) rfl (λ _=>cN (cs:=iI [Lt h (Ec [(v.nd.key,v.nd.val),(k,u)]) x38.1 x38.2]) sD Jh rfl rfl rfl rfl rfl)) (λ x42=>?_);refine aP (Ty (c:=1) (sz:=1) rfl (λ _=>cN (cs:=aH [0]) oI Jh rfl rfl rfl rfl rfl)) (λ x43=>?_);refine J8 ?_;refine dR ?_;refine J1 ?_
      refine fH ((⟨[Lt h (Ec [(v.nd.key,v.nd.val),(k,u)]) x38.1 x38.2],[0],some ⟨x42,0,none⟩,1,some ⟨x43,0,none⟩,1⟩:RX)) ?_ (hw1:=λ w hw=>(hw.m4.eX λ f hf=>by simp[aN,aQ.fr] at hf;rcases hf with rfl|rfl;exact .inl rfl;exact .inr (.head _)).sub (List.nil_sublist _) aX.all (List.Sublist.refl _))
      · have hne:lN h0 h=11:=by omega
        exact⟨za hne,Nat.le_succ 1⟩
    · refine Kc4 ?_;refine bO ?_;refine J3 ?_;refine aB ?_;refine aP (cV (hc:=λ w1 hw=>by rw[hv];exact qF (l:=lN h0 h) hh0 (by omega) w1)) (λ x51=>?_);refine pM ?_;refine aB ?_;refine aP (cV (hc:=λ w1 hw=>qF (l:=lN h0 h) hh (by omega) w1)) (λ x55=>?_);refine aB ?_;refine aE (cF (hc:=λ w1 hw=>oy (yQ h0 (lN h0 h)) (yQ h (lN h0 h)) (Mj (h:=h0) (k:=h) (by omega)) at' (fi:Int) w1)) (λ x57 h57=>?_);refine aP (Ty (c:=2) (sz:=14) rfl (λ _=>cN (cs:=iI [Aa h k u,qh 2 (dZ (dZ 0 (sl h0 (lN h0 h):Int)) (sl h (lN h0 h):Int)) (two (sl h0 (lN h0 h)) (sl h (lN h0 h)) at' (fi:Int)) x57]) sD Jh rfl rfl rfl rfl rfl)) (λ x58=>?_);refine J1 ?_;refine dR ?_;refine aP (Ty (c:=2) (sz:=1) rfl (λ _=>cN (cs:=aH [0,0]) oI Jh rfl rfl rfl rfl rfl)) (λ x59=>?_);refine J1 ?_
      refine fH ((⟨[Aa h k u,qh 2 (dZ (dZ 0 (sl h0 (lN h0 h):Int)) (sl h (lN h0 h):Int)) (two (sl h0 (lN h0 h)) (sl h (lN h0 h)) at' (fi:Int)) x57],[0,0],some ⟨x58,0,none⟩,2,some ⟨x59,0,none⟩,2⟩:RX)) ?_ (hw1:=λ w hw=>(hw.m4.eX λ f hf=>by simp[aN,aQ.fr] at hf;rcases hf with rfl|rfl|rfl|rfl;exact .inl rfl;exact .inl rfl;exact .inr (.head _);exact .inl rfl).sub (List.nil_sublist _) aX.all (List.Sublist.refl _))
      · have hne:lN h0 h≠11:=by omega
        exact⟨zh hne,Nat.le_refl 2⟩
  dsimp only[iC,List.map,List.cons_append,List.nil_append]
  refine kT ?_;refine qW ?_;refine J1 ?_;refine cW ?_
  have hq2:=hx.1.len
  refine nT [16,17,20,21,22,62,63,64,65,66,67,68,69,70,71,72,73,74,75,76,77,78,79,80,81,82,83,84,85,86,87,88,89] (λ y:Nat×RX=>[(16,.slice y.2.pn y.2.L.length y.2.cn),(17,.slice y.2.pc y.2.ini.length y.2.cc),(20,.int .i64 (((lN h0 h-y.1:Nat):Int)-1))]) (λ y=>y.1<=lN h0 h-lvl/\Iz y.2 (dQ at' h0 h v k u gen fi y.1)/\y.2.L.length<=2+2*y.1) (λ _=>_) (λ y=>aN y.2.L) (λ y=>[⟨y.2.pn,iI y.2.L,y.2.cn,47,14⟩,⟨y.2.pc,aH y.2.ini,y.2.cc,37,1⟩]) (λ y=>lN h0 h-lvl-y.1) ((0,q)) (⟨Nat.zero_le _,hx⟩) (λ y f hx=>?_) (hw0:=λ w hw=>hw.sub (List.Sublist.refl _) aX.all (List.Sublist.refl _))
  dsimp only[iC,List.map,List.cons_append,List.nil_append]
  obtain⟨hy1,hy2,hy3⟩:=hx
  obtain⟨hy4,hy5⟩:=hy2.len
  refine C4 ?_;refine oG ?_;refine aI ?_
  refine bC (λ c64=>?_) (λ c64=>?_)
  · obtain⟨lv,elv⟩:∃lv:Nat,lN h0 h-(y.1+1)=lv:=⟨_,rfl⟩
    have elv2:(((lN h0 h-y.1:Nat):Int)-1)=(lv:Int):=by omega
    have hlv2:lv<=10:=by omega
    refine rY ?_;refine jF ?_;refine dS ?_;refine aD (pA rf rf (by omega)) rfl ?_;refine aD (jK (n:=1) rf rf (by omega) (by omega)) rfl ?_;refine zZ ?_;refine aP (cV (hc:=λ w1 hw=>Dc elv2 hh hlv2 w1)) (λ x74=>?_);refine zZ ?_;refine bO ?_;refine aB ?_;refine aP (cV (hc:=λ w1 hw=>nQ (n:=0) (by decide) (sl h lv:Int) w1)) (λ x79=>?_);refine aB ?_;refine aD (pA (n:=1) rf rf (by omega)) rfl ?_;refine aP (I8 (λ _=>cN (cs:=aH [((fi+y.2.L.length-1+1:Nat):Int)]) oI Jh rfl rfl rfl rfl rfl)) (λ x82=>?_);refine bO ?_;refine aP (I8 (λ _=>cN (cs:=iI [yF gen,qh 1 (dZ 0 (sl h lv:Int)) [((fi+y.2.L.length-1+1:Nat):Int)] (some ⟨x82,0,none⟩)]) sD Jh rfl rfl rfl rfl rfl)) (λ x84=>?_);(refine aP (bG.eR (du (k:=2) (L2:=[yF gen,qh 1 (dZ 0 (sl h lv:Int)) [((fi+y.2.L.length-1+1:Nat):Int)] (some ⟨x82,0,none⟩)]) rf rf zM rfl fin rfl Jc rfl fZ (by omega)) vM) (λ x85=>?_);try (refine eY (λ h85=>?_)));refine J1 ?_;refine Jb ?_;refine aP (I8 (λ _=>cN (cs:=aH [((fi+y.2.L.length-1:Nat):Int),0]) oI Jh rfl rfl rfl rfl rfl)) (λ x88=>?_);(refine aP (bG.eR (Te (k:=2) (l2:=[((fi+y.2.L.length-1:Nat):Int),0]) rf rf zM rfl fin rfl Zu fZ (by omega)) vM) (λ x89=>?_);try (refine eY (λ h89=>?_)));refine J1 ?_;refine fG ?_;refine xK ?_;refine qW ?_;refine J1 ?_
    refine iO ((y.1+1,(⟨y.2.L++[yF gen,qh 1 (dZ 0 (sl h lv:Int)) [((fi+y.2.L.length-1+1:Nat):Int)] (some ⟨x82,0,none⟩)],y.2.ini++[((fi+y.2.L.length-1:Nat):Int),0],x85.1,x85.2,x89.1,x89.2⟩:RX))) ?_ (hw1:=λ w hw=>hw.eX λ f hf=>Sj hf (.tail _ (.tail _ (.head _))) (λ hf=>.tail _ (.tail _ (.tail _ hf))))
    · refine⟨by omega,?_,by simp only[List.length_append,List.length_cons,List.length_nil];omega⟩
      have e1:dQ at' h0 h v k u gen fi (y.1+1)=dQ at' h0 h v k u gen fi y.1++[rH gen ((fi+y.2.L.length-1:Nat):Int),j5 (dZ 0 (sl h lv:Int)) [((fi+y.2.L.length-1+1:Nat):Int)]]:=by
       rw[s7 (by omega),elv,<- hy4,show fi-1+y.2.L.length=fi+y.2.L.length-1 by omega,show fi+y.2.L.length-1+1=fi+y.2.L.length by omega]
      rw[e1]
      exact hy2.push rfl (by simp)
  · have en:y.1=lN h0 h-lvl:=by omega
    refine bT rfl ?_;refine jF ?_;refine J8 ?_
    refine bD Tryz.results257 (λ w hw=>?_)
    refine⟨y.2,rfl,⟨?_,?_,?_⟩,?_⟩
    · rw[<- en]
      exact hy2
    · exact hw.aAd .head
    · exact hw.aBM (.tail .head)
    · exact((hw.freeze .head).freeze .head).aBH.ret (List.nil_sublist _) aX.all (List.nil_sublist _)
end
end Go.Proofs.YtbajmaoegmbfgaaGreat
namespace Go.Ct
section
def NI.c0(a:NI):Nv:=a.n.c a.xs a.ys
end
end Go.Ct
namespace Go.Proofs.YtbajmaoegmbfgaaGreat
section
open Go.RowKit Go.Ct
structure dU where
 root:Int
 ro:Bool
structure Cl where
 kind:Int
 t:dU
 a:Int
 b:Int
 n:Int
 index:Int
 hash:Int
 mask:Int
 key:ByteArray
 val:Int
 exp:Int
 I0:Int
 only:Bool
def hU(h:Nat)(level:Int):Int:=if level<0∨10<level then 0 else(sl h level.toNat:Int)
def yP(p:Int):Nv:=({Nd.zero with kind:=7,bK:=p}:Nd).c [] []
def nI(g:Int):Nv:=({Nd.zero with kind:=2,gen:=g}:Nd).c [] []
def D5(a b c:Int):Nv:=({Nd.zero with kind:=8,bK:=a,exp:=b,new:=c}:Nd).c [] []
def Fa(h:Int)(k:ByteArray)(u:Int):Nv:=({Nd.zero with kind:=4,hash:=h,key:=k,val:=u}:Nd).c [] []
def H7:Nv:=({Nd.zero with kind:=3}:Nd).c [] []
def yv(v s:Int)(K:Int->Tr):Tr:=.node v λ n=>K (if s=1 then n.new else n.bK)
def uW(t:dU)(v s:Int)(K:Int->Tr):Tr:=yv v s λ w=>.jW t.root v w λ _=>K w
def Ak(t:dU)(K:Int->Tr):Tr:=.load t.root λ v=>.node v λ n=>if n.kind=2 then K v else .node v λ n=>.load n.status λ s =>
 if s=0 then .node v λ n=>.jW n.status 0 2 λ _=>.node v λ n=>.load n.status λ s=>uW t v s K else uW t v s K
def Ih(i m p:Int)(K:Int->Tr):Tr:=.node i λ ni=>.node p λ np=>.jW ni.main m np.bK λ _=>.node p λ np=>K np.bK
def kI(i m:Int)(K:Int->Tr):Tr:=.node m λ nm=>.load nm.prev λ p=>if p=0 then K m else Ih i m p K
def kR(i m p:Int)(c:Bool)(K:Int->Tr):Tr :=
 if c=true then .node m λ nm=>.jW nm.prev p 0 λ _=>kI i m K
 else .node m λ nm=>.alloc (yP p) 0 λ f=>.jW nm.prev p f λ _=>kI i m K
def mY(t:dU)(i m:Int)(K:Int->Tr):Tr:=.node m λ nm=>.load nm.prev λ p=>if p=0 then K m else .node p λ np =>
 if bV np then(if t.ro=true then kR i m p false K else Ak t λ r=>.node r λ nr=>.node i λ ni=>kR i m p (nr.gen==ni.gen) K)
 else Ih i m p K
def jQ(t:dU)(i:Int)(K:Int->Tr):Tr:=.node i λ ni=>.load ni.main λ m=>mY t i m K
def yE(t:dU)(v:Int)(K:Tr):Tr:=.node v λ n=>jQ t n.bK λ r=>.node v λ n2=>.node v λ n3=>.jW n3.status 0 (if r=n2.exp then 1 else 2) λ _=>K
def uP(t:dU)(K:Int->Tr):Tr:=.load t.root λ v=>.node v λ n=>if n.kind=2 then K v else .node v λ n=>.load n.status λ s =>
 if s=0 then yE t v (.node v λ n=>.load n.status λ s=>uW t v s K) else uW t v s K
def jU(t:dU)(i bK n:Int)(K:Bool->Tr):Tr:=.node i λ ni=>.jW ni.main bK n λ b=>if b=true then mY t i n λ m=>K (m==n) else K false
def vV(t:dU)(bK exp new:Int)(K:Bool->Tr):Tr:=.alloc (D5 bK exp new) 0 λ d=>.jW t.root bK d λ b =>
 if b=true then yE t d (.node d λ nd=>.load nd.status λ s=>uW t d s λ _=>K (s==1)) else K false
noncomputable def Ht (c index r:Int) (K:Int->Tr):Tr:=.node c λ nc=>.alloc (Ue nc index r) c K
noncomputable def Mu (t:dU) (i c index:Int) (K:Int->Tr):Tr:=.node c λ nc=>jQ t ((lI nc index).getD 0) λ m=>.node i λ ni=>.alloc (nI ni.gen) m λ j =>
 Ht c index j λ r=>jU t i c r λ ok=>K (if ok=true then j else 0)
noncomputable def zQ (t:dU) (parent child:Int) (h:Nat) (level:Int) (K:Bool->Tr):Tr:=jQ t parent λ m=>.node m λ nm =>
 if lI nm (hU h level)=some child then jQ t child λ mc=>.node mc λ nmc =>
  if nmc.kind=5 then .alloc (unV nmc) 0 λ s=>.node m λ nm2=>.alloc (z4 (Ue nm2 (hU h level) s) level (unV nmc)) m λ r=>jU t parent m r K
  else K false
 else K false
def jO(f:Bool)(v:Int):Rs:=⟨0,f,v,⟨#[]⟩,0,0,0,false⟩
def sA(f:Bool)(v:Int):Rs:=⟨0,f,v,⟨#[]⟩,1,0,0,false⟩
noncomputable def Dm (t:dU) (h:Nat) (key:ByteArray) (K:Rs->Tr):Nat->Int->Int->Tr
 | 0,_,_=>.stuck
 | n+1,i,level=>jQ t i λ mr=>.node mr λ m =>
  if m.kind=5 then(if m.key=key then K (jO true m.val) else K (jO false 0))
  else if m.kind=6 then K (jO (dY m.ys key).isSome ((dY m.ys key).getD 0))
  else match lI m (hU h level) with
   | none=>K (jO false 0)
   | some b=>.node b λ s=>if s.kind=4 then(if s.key=key then K (jO true s.val) else K (jO false 0)) else Dm t h key K n b (level+1)
def oO(c:Cl)(found:Bool)(v:Int):Bool:=if c.I0=1 then !found else if c.I0=2 then found else if c.I0=3 then found&&v==c.exp else true
def Ad:List NI->Int->(Int->Tr)->Tr
 | [],r,K=>K r
 | a::l,_,K=>.alloc a.c0 a.init λ r=>Ad l r K
def dP(at_:Int)(h0 h:Nat)(p:Pr)(k:ByteArray)(u gen:Int)(fi lvl:Nat):List NI:=dN at_ h0 h p k u gen fi (lN h0 h-lvl) (lN h0 h-(lN h0 h-lvl))
def Wa(c:Cl)(b:Int)(h:Nat)(level:Nat)(gen:Int)(K:Int->Tr):Tr:=.node b λ nb =>
 .alloc ((dP b nb.hash.toNat h (nb.key,nb.val) c.key c.val gen 0 level).headD NI.no).c0 ((dP b nb.hash.toNat h (nb.key,nb.val) c.key c.val gen 0 level).headD NI.no).init λ f =>
 Ad (dP b nb.hash.toNat h (nb.key,nb.val) c.key c.val gen f.toNat level).tail f K
noncomputable def mG (c:Cl) (i m:Int) (h:Nat) (level:Nat) (gen:Int) (K:Rs->Int->Tr):Tr:=.node m λ n =>
 if n.kind=6 then
  (if oO c (dY n.ys c.key).isSome ((dY n.ys c.key).getD 0)=true then
   .alloc (zj n c.key c.val) m λ r=>jU c.t i m r λ ok=>K (sA (dY n.ys c.key).isSome ((dY n.ys c.key).getD 0)) (if ok=true then 1 else 0)
  else K (jO (dY n.ys c.key).isSome ((dY n.ys c.key).getD 0)) 1)
 else match lI n (hU h level) with
  | none=>if oO c false 0=true then .alloc (Fa h c.key c.val) 0 λ s=>.alloc (zx n (hU h level) s) m λ r=>jU c.t i m r λ ok=>K (sA false 0) (if ok=true then 1 else 0) else K (jO false 0) 1
  | some b=>.node b λ nb=>if nb.kind=2 then K Rs.zero 2 else
   if nb.key=c.key then
    (if oO c true nb.val=true then .alloc (Fa h c.key c.val) 0 λ s=>Ht m (hU h level) s λ r=>jU c.t i m r λ ok=>K (sA true nb.val) (if ok=true then 1 else 0)
    else K (jO true nb.val) 1)
   else
    (if oO c false 0=true then Wa c b h (level+1) gen λ d=>.alloc (nI gen) d λ j=>Ht m (hU h level) j λ r=>jU c.t i m r λ ok=>K (sA false 0) (if ok=true then 1 else 0)
    else K (jO false 0) 1)
noncomputable def Gz (c:Cl) (i m index gen:Int) (K:Int->Tr):Tr:=.node m λ nm=>.node ((lI nm index).getD 0) λ nb=>if nb.gen=gen then K ((lI nm index).getD 0) else Mu c.t i m index K
noncomputable def Dk (c:Cl) (h:Nat) (K:Rs->Tr) (again:Tr) (gen:Int):Nat->Int->Int->Nat->Tr
 | 0,_,_,_=>.stuck
 | n+1,i,parent,level=>jQ c.t i λ m=>.node m λ nm =>
  if nm.kind=5 then zQ c.t parent i h ((level:Int)-1) λ _=>again
  else mG c i m h level gen λ r what=>if what=1 then K r else if what=0 then again else
   Gz c i m (hU h level) gen λ b=>if b=0 then again else Dk c h K again gen n b i (level+1)
noncomputable def A6 (c:Cl) (h:Nat) (K:Rs->Tr):Nat->Tr
 | 0=>.stuck
 | n+1=>uP c.t λ i=>.node i λ ni=>Dk c h K (A6 c h K n) ni.gen n i 0 0
noncomputable def kL (c:Cl) (i m:Int) (h:Nat) (level:Nat) (K:Rs->Int->Tr):Tr:=.node m λ n =>
 if n.kind=6 then
  (if(dY n.ys c.key).isSome=false∨(c.only=true/\(dY n.ys c.key).getD 0≠c.exp) then K (jO (dY n.ys c.key).isSome ((dY n.ys c.key).getD 0)) 1
  else .alloc (te n c.key) m λ r=>jU c.t i m r λ ok=>K (sA true ((dY n.ys c.key).getD 0)) (if ok=true then 1 else 0))
 else match lI n (hU h level) with
  | none=>K (jO false 0) 1
  | some b=>.node b λ s=>if s.kind=2 then K Rs.zero 2 else if s.key≠c.key then K (jO false 0) 1 else if c.only=true/\s.val≠c.exp then K (jO true s.val) 1
   else .node ((Ni (N4 n (hU h level))).getD 0) λ so=>.alloc (z4 (N4 n (hU h level)) level so) m λ r=>jU c.t i m r λ ok=>K (sA true s.val) (if ok=true then 1 else 0)
noncomputable def w8 (t:dU) (path:List Int) (h:Nat) (K:Tr):Nat->Tr
 | 0=>K
 | l+1=>jQ t (path.getD (l+1) 0) λ m=>.node m λ nm=>if nm.kind=5 then zQ t (path.getD l 0) (path.getD (l+1) 0) h (l:Int) λ _=>w8 t path h K l else K
noncomputable def vU (c:Cl) (h:Nat) (K:Rs->Tr) (again:Tr) (gen:Int):Nat->Int->List Int->Nat->Tr
 | 0,_,_,_=>.stuck
 | n+1,i,path,level=>jQ c.t i λ m=>.node m λ nm =>
  if nm.kind=5 then zQ c.t (path.getD (level-1) 0) i h ((level:Int)-1) λ _=>again
  else kL c i m h level λ r what=>if what=1 then(if r.gC=1 then w8 c.t path h (K r) (path.length-1) else K r) else if what=0 then again else
   Gz c i m (hU h level) gen λ b=>if b=0 then again else vU c h K again gen n b (path++[b]) (level+1)
noncomputable def rG (c:Cl) (h:Nat) (K:Rs->Tr):Nat->Tr
 | 0=>.stuck
 | n+1=>uP c.t λ i=>.node i λ ni=>vU c h K (rG c h K n) ni.gen n i [i] 0
def I2(root:Int)(ro:Bool):Rs:=⟨0,true,0,⟨#[]⟩,0,0,root,ro⟩
def Kd(m:Int)(K:Rs->Tr):Tr:=.gen λ g=>.alloc (nI g) m λ r=>.cell r λ c=>K (I2 c false)
def Gm(t:dU)(fz:Bool)(K:Rs->Tr):Nat->Tr
 | 0=>.stuck
 | n+1=>uP t λ r=>jQ t r λ m=>.gen λ g=>.alloc (nI g) m λ j=>vV t r m j λ ok =>
  if ok=true then(if fz=true then .cell r λ c=>K (I2 c true) else Kd m K) else Gm t fz K n
def tT(t:dU)(fz:Bool)(K:Rs->Tr)(n:Nat):Tr :=
 if t.ro=true then .load t.root λ r=>if fz=true then .cell r λ c=>K (I2 c true) else jQ t r λ m=>Kd m K
 else Gm t fz K n
def vX(t:dU)(K:Rs->Tr):Nat->Tr
 | 0=>.stuck
 | n+1=>uP t λ r=>jQ t r λ m=>.alloc H7 0 λ c=>.gen λ g=>.alloc (nI g) c λ j=>vV t r m j λ ok =>
  if ok=true then K (jO true 0) else vX t K n
def fC(r:Int)(f:Bool):Rs:=⟨0,f,0,⟨#[]⟩,0,r,0,false⟩
def refuse(c:Cl):Int:=if c.kind=7∨c.kind=9 then(if c.key.size<=64 then 0 else 1) else if c.kind=8 then(if c.key.size<=64/\0<=c.I0/\c.I0<=3 then 0 else 1) else 0
noncomputable def lG (c:Cl) (h:Nat) (n:Nat):Tr :=
 if refuse c≠0 then .done {Rs.zero with err:=refuse c}
 else if c.kind=1 then jQ c.t c.a λ r=>.done (fC r false)
 else if c.kind=2 then jU c.t c.a c.b c.n λ ok=>.done (fC 0 ok)
 else if c.kind=3 then uP c.t λ r=>.done (fC r false)
 else if c.kind=4 then vV c.t c.a c.b c.n λ ok=>.done (fC 0 ok)
 else if c.kind=7 then uP c.t λ i=>Dm c.t h c.key .done n i 0
 else if c.kind=8 then A6 c h .done n
 else if c.kind=9 then rG c h .done n
 else if c.kind=10 then tT c.t false .done n
 else if c.kind=11 then tT c.t true .done n
 else vX c.t .done n
end
section
open Go Go.RowKit Go.Ct
def xoC(k:Cl)(bm:Nat)(x:XS)(dn:Bool)(rs:Rs):List Value:=[.pointer (some ⟨bm,0,none⟩),
 .int .i64 k.kind,.int .i64 k.t.root,.bool k.t.ro,.int .i64 k.a,.int .i64 k.b,.int .i64 k.n,.int .i64 k.index,.int .u64 k.hash,.int .u64 k.mask,.string k.key,.int .u64 k.val,.int .u64 k.exp,.int .i64 k.I0,.bool k.only,
 .bool false,.slice none 0 0,.slice none 0 0,.int .i64 0,.bool false,.int .u64 0,.string ⟨#[]⟩,.int .i64 0,.int .i64 0,.int .i64 0,.bool false,
 .slice x.pg x.got.length x.kg,.slice x.pm x.made.length x.km,.slice x.pl x.cel.length x.kl,.slice x.pe x.gns.length x.ke,
 .int .i64 ((x.a:Nat):Int),.int .i64 ((x.m:Nat):Int),.int .i64 ((x.c:Nat):Int),.int .i64 ((x.g:Nat):Int),.int .i64 ((x.fr:Nat):Int),.bool x.st,
 .int .i64 x.nx.k,.int .i64 x.nx.c,.int .i64 x.nx.o,.int .i64 x.nx.n,.bool dn,
 .int .i64 rs.err,.bool rs.found,.int .u64 rs.val,.string rs.key,.int .i64 rs.gC,.int .i64 rs.ref,.int .i64 rs.root,.bool rs.ro,
 .bool false,.slice none 0 0,.slice none 0 0]
abbrev xO(k:Cl)(bm:Nat)(x:XS)(dn:Bool)(rs:Rs):Obj:=.cells ⟨xoC k bm x dn rs⟩ 153 (0,0)
abbrev xM(x:XS):Obj:=mO x.L x.cs x.gen x.acc x.pn x.cn x.pc x.cc
abbrev xW(x:XS):List Ow:=[⟨x.pg,aH x.got,x.kg,37,1⟩,⟨x.pm,aH x.made,x.km,37,1⟩,⟨x.pl,aH x.cel,x.kl,27,1⟩,⟨x.pe,aH x.gns,x.ke,3,1⟩,⟨x.pn,iI x.L,x.cn,47,14⟩,⟨x.pc,aH x.cs,x.cc,37,1⟩]
abbrev xH(k:Cl)(bx bm:Nat)(x:XS)(dn:Bool)(rs:Rs):List (Nat×Obj):=[(bx,xO k bm x dn rs),(bm,xM x)]
theorem aCb{w0 w:World}{D:List Nat}{k:Cl}{bx bm:Nat}{x:XS}{dn:Bool}{rs:Rs}{A F:Fr}(h:SF w0 D (xH k bx bm x dn rs) A F (xW x) w) :
  SF w0 D [(bx,.cells ⟨[.pointer (some ⟨bm,0,none⟩),
 .int .i64 k.kind,.int .i64 k.t.root,.bool k.t.ro,.int .i64 k.a,.int .i64 k.b,.int .i64 k.n,.int .i64 k.index,.int .u64 k.hash,.int .u64 k.mask,.string k.key,.int .u64 k.val,.int .u64 k.exp,.int .i64 k.I0,.bool k.only,
 .bool false,.slice none 0 0,.slice none 0 0,.int .i64 0,.bool false,.int .u64 0,.string ⟨#[]⟩,.int .i64 0,.int .i64 0,.int .i64 0,.bool false,
 .slice x.pg x.got.length x.kg,.slice x.pm x.made.length x.km,.slice x.pl x.cel.length x.kl,.slice x.pe x.gns.length x.ke,
 .int .i64 ((x.a:Nat):Int),.int .i64 ((x.m:Nat):Int),.int .i64 ((x.c:Nat):Int),.int .i64 ((x.g:Nat):Int),.int .i64 ((x.fr:Nat):Int),.bool x.st,
 .int .i64 x.nx.k,.int .i64 x.nx.c,.int .i64 x.nx.o,.int .i64 x.nx.n,.bool dn,
 .int .i64 rs.err,.bool rs.found,.int .u64 rs.val,.string rs.key,.int .i64 rs.gC,.int .i64 rs.ref,.int .i64 rs.root,.bool rs.ro,
 .bool false,.slice none 0 0,.slice none 0 0]⟩ 153 (0,0)),(bm,mO x.L x.cs x.gen x.acc x.pn x.cn x.pc x.cc)] A F [⟨x.pg,aH x.got,x.kg,37,1⟩,⟨x.pm,aH x.made,x.km,37,1⟩,⟨x.pl,aH x.cel,x.kl,27,1⟩,⟨x.pe,aH x.gns,x.ke,3,1⟩,⟨x.pn,iI x.L,x.cn,47,14⟩,⟨x.pc,aH x.cs,x.cc,37,1⟩] w:=h
theorem cD{w0 w:World}{D:List Nat}{k:Cl}{bx bm:Nat}{x:XS}{dn:Bool}{rs:Rs}{A F:Fr}(h:SF w0 D (xH k bx bm x dn rs) A F (xW x) w) :
  SF w0 D [(bx,.cells ⟨xoC k bm x dn rs⟩ 153 (0,0)),(bm,mO x.L x.cs x.gen x.acc x.pn x.cn x.pc x.cc)] A F [⟨x.pg,aH x.got,x.kg,37,1⟩,⟨x.pm,aH x.made,x.km,37,1⟩,⟨x.pl,aH x.cel,x.kl,27,1⟩,⟨x.pe,aH x.gns,x.ke,3,1⟩,⟨x.pn,iI x.L,x.cn,47,14⟩,⟨x.pc,aH x.cs,x.cc,37,1⟩] w:=h
end
end Go.Proofs.YtbajmaoegmbfgaaGreat

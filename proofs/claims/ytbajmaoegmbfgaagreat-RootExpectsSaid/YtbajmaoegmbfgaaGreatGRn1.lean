/- The reference of dual: the nodes that are allocated for two keys. -/
import Derived.Test.YtbajmaoegmbfgaaGreatGBr6
import Derived.Test.YtbajmaoegmbfgaaGreatGBr2
import Derived.Test.YtbajmaoegmbfgaaGreatGPa1
import Derived.Test.YtbajmaoegmbfgaaGreatGNode2
import Derived.Test.YtbajmaoegmbfgaaGreatGAr9
import Derived.Test.YtbajmaoegmbfgaaGreatGAr4

set_option linter.unusedSimpArgs false
set_option linter.unusedVariables false
namespace Go.Ct
section
open Go Go.RowKit
def two(i k:Nat)(x s:Int):List Int:=if i<k then [x,s] else [s,x]
structure NI where
 n:Nd
 xs:List Int
 ys:List Pr
 init:Int
def AX.no:AX:=⟨none,0,none,0,none,0,none,0⟩
def NI.c(a:NI)(c:Nat):Nv:=(lM a.n a.xs a.ys c AX.no).c
abbrev F2(h:Nat)(ys:List Pr):NI:=⟨{Nd.zero with kind:=6,hash:=(h:Int)},[],ys,0⟩
abbrev vG(h:Nat)(k:ByteArray)(u:Int):NI:=⟨{Nd.zero with kind:=4,hash:=(h:Int),key:=k,val:=u},[],[],0⟩
abbrev qL(gen m:Int):NI:=⟨{Nd.zero with kind:=2,gen:=gen},[],[],m⟩
abbrev cu(b:Nat)(xs:List Int):NI:=⟨{Nd.zero with kind:=3,bm:=(b:Int)},xs,[],0⟩
def NI.no:NI:=⟨Nd.zero,[],[],0⟩
structure Jy(v:aU)(a:NI):Prop where
 xs:v.xs=a.xs
 ys:v.ys=a.ys
 kind:v.nd.kind=a.n.kind
 c:∀k,(lM v.nd v.xs v.ys k AX.no).c=a.c k
 fit:v.Fit
 sx:v.xs.length<=1000
 sy:v.ys.length<=1000
 c0:v.c=a.n.c a.xs a.ys
inductive oC:List aU->List NI->Prop where
 | nil:oC [] []
 | cons {v:aU} {a:NI} {L:List aU} {l:List NI} (h:Jy v a) (hr:oC L l):oC (v::L) (a::l)
theorem oC.len{L:List aU}{l:List NI}(h:oC L l):L.length=l.length:=by
 induction h with
 | nil=>rfl
 | cons _ _ ih=>simp[ih]
theorem oC.append{L M:List aU}{l m:List NI}(h:oC L l)(h2:oC M m):oC (L++M) (l++m):=by
 induction h with
 | nil=>exact h2
 | cons h _ ih=>exact .cons h ih
theorem oC.at{L:List aU}{l:List NI}(h:oC L l){i:Nat}(hi:i<L.length):∃a,l[i]?=some a/\Jy (L.getD i aU.zero) a:=by
 induction h generalizing i with
 | nil=>simp at hi
 | @cons v a L l h _ ih =>
  cases i with
  | zero=>exact⟨a,rfl,h⟩
  | succ i =>
   obtain⟨b,h1,h2⟩:=ih (i:=i) (by simpa using hi)
   exact⟨b,by simpa using h1,by simpa using h2⟩
def F6(l:List NI):List Int:=l.map NI.init
theorem SF.aAn{w0 w:World}{M:List Nat}{H:List (Nat×Obj)}{A F:Fr}{O:List Ow}{f1 f2:Option Addr×List Value}(h:SF w0 M H A (f1::f2::F) O w):SF w0 M H A (f2::f1::F) O w:=h.fC λ f hf=>.inr (by
 simp only[List.mem_cons] at hf ⊢
 rcases hf with h|h|h
 ·exact .inr (.inl h)
 ·exact .inl h
 ·exact .inr (.inr h))
theorem SF.aBy{w0 w:World}{M:List Nat}{H:List (Nat×Obj)}{A F:Fr}{O:List Ow}{i c:Nat}{p:Option Addr}(h:SF w0 M H A F O w){l:List Int}{T:TypeId}(ho:wU O i p (aH l) c T 1):l.length<=c:=by
 rcases(h.own _ ho.mem).1 with⟨_,h2,_⟩|⟨b,rest,_,_,h3⟩
 ·have h2':aH l=[]:=h2
  have:(aH l).length=0:=by rw[h2'];rfl
  rw[iQ] at this
  omega
 ·have h3':(aH l++rest).length=c*1:=h3
  rw[List.length_append,iQ] at h3'
  omega
end
end Go.Ct
namespace Go.Proofs.YtbajmaoegmbfgaaGreat
section
open Go Go.RowKit Go.Ct
def dN(x:Int)(h0 h:Nat)(p0:Pr)(k:ByteArray)(u gen:Int)(f:Nat):Nat->Nat->List NI
 | 0,lvl=>if lvl=11 then [F2 h (Dj [p0,(k,u)])] else [vG h k u,cu (dS (dS 0 (sl h0 lvl:Int)) (sl h lvl:Int)) (two (sl h0 lvl) (sl h lvl) x (f:Int))]
 | n+1,lvl=>dN x h0 h p0 k u gen f n (lvl+1)++[qL gen ((f-1+(dN x h0 h p0 k u gen f n (lvl+1)).length:Nat):Int),cu (dS 0 (sl h lvl:Int)) [((f+(dN x h0 h p0 k u gen f n (lvl+1)).length:Nat):Int)]]
theorem Qt{x:Int}{h0 h:Nat}{p0:Pr}{k:ByteArray}{u gen:Int}{f:Nat}:∀n lvl,(dN x h0 h p0 k u gen f n lvl).length<=2+2*n
 | 0,lvl=>by
  unfold dN
  split<;>simp
 | n+1,lvl=>by
  have:=Qt (x:=x) (h0:=h0) (h:=h) (p0:=p0) (k:=k) (u:=u) (gen:=gen) (f:=f) n (lvl+1)
  unfold dN
  simp only[List.length_append,List.length_cons,List.length_nil]
  omega
theorem qc{i k:Nat}(hi:i<64)(hk:k<64)(hne:i≠k)(a b:Int)(w:World) :
  Calls Tryz.prog 261 #[.int .i64 (i:Int),.int .i64 a,.int .i64 (k:Int),.int .i64 b] w λ e w'=>∃p:Option Addr,e=.returned (.agg ⟨[.int .i64 3,.int .i64 0,.int .i64 0,.int .u64 ((dS (dS 0 (i:Int)) (k:Int):Nat):Int),.slice p 2 2,.int .u64 0,.string ⟨#[]⟩,.int .u64 0,.slice none 0 0,.int .i64 0,.int .i64 0,.int .i64 0,.int .i64 0,.int .i64 0]⟩)/\True/\SF w [] [] [] [(p,aH (two i k a b))] [] w':=by
 refine enter Tryz.func261 Tryz.ntmps261 rfl rfl (SF.s0 w) ?_
 simp only[cD]
 refine J0 ?_;refine aJ (λ x8=>?_);refine aG ?_;refine J2 ?_;refine aM (cV (hc:=λ w1 hw=>mS (n:=0) (by decide) (i:Int) w1)) (λ x11=>?_);refine aA ?_;refine aM (cV (hc:=λ w1 hw=>mS (n:=dS 0 (i:Int)) (Av (by decide) _) (k:Int) w1)) (λ x13=>?_);refine pQ ?_;refine fR (λ x16=>?_);refine bM ?_;refine aJ (λ x9=>?_);refine J5 ?_;refine Cm ?_;refine C5 ?_
 refine bC (λ c20=>?_) (λ c20=>?_)
 ·refine L8 ?_;refine fR (λ x23=>?_);refine vK ?_;refine oI ?_;refine J5 ?_
  refine bA Tryz.results261 (λ w hw=>?_)
  first
  | exact⟨some ⟨x23,0,none⟩,rfl,trivial,by rw[show two i k a b=[b,a] from if_neg (by omega)];exact hw.ret (List.nil_sublist _) (aY.kN λ f hf=>by rw[List.mem_singleton.1 hf];exact .head _) (List.Sublist.refl _)⟩
  | exact⟨some ⟨x16,0,none⟩,rfl,trivial,by rw[show two i k a b=[a,b] from if_pos (by omega)];exact hw.ret (List.nil_sublist _) (aY.kN λ f hf=>by rw[List.mem_singleton.1 hf];exact .head _) (List.Sublist.refl _)⟩
 ·refine aV ?_;refine oI ?_;refine J5 ?_
  refine bA Tryz.results261 (λ w hw=>?_)
  first
  | exact⟨some ⟨x16,0,none⟩,rfl,trivial,by rw[show two i k a b=[a,b] from if_pos (by omega)];exact hw.ret (List.nil_sublist _) (aY.kN λ f hf=>by rw[List.mem_singleton.1 hf];exact .head _) (List.Sublist.refl _)⟩
theorem lu{l:List Pr}{a:Option Addr}{c:Nat}{w:World}(ha:Cl w a (dD l))(hlen:l.length<=200000000000) :
  Calls Tryz.prog 61 #[.slice a l.length c] w λ e w'=>∃x:Option Addr×Nat,e=.returned (.slice x.1 (Dj l).length x.2)/\(Dj l).length<=x.2/\SF w [] [] [] [(x.1,dD (Dj l))] [] w':=(pi ha hlen).mono λ _ _ h=>h
theorem Ca{h l:Nat}{i:Int}(hi:i=(l:Int))(hh:h<18446744073709551616)(hl:l<=10)(w:World):Calls Tryz.prog 218 #[.int .u64 (h:Int),.int .i64 i] w λ e w'=>e=.returned (.int .i64 ((sl h l:Nat):Int))/\St w [] [] w':=by
 subst hi
 exact pX hh hl w
abbrev Kp(h:Nat)(ys:List Pr)(p:Option Addr)(c:Nat):aU:=⟨{Nd.zero with kind:=6,hash:=(h:Int),prA:=p,prN:=ys.length,dD:=c},[],ys⟩
abbrev Ab(h:Nat)(k:ByteArray)(u:Int):aU:=⟨{Nd.zero with kind:=4,hash:=(h:Int),key:=k,val:=u},[],[]⟩
abbrev xI(gen:Int):aU:=⟨{Nd.zero with kind:=2,gen:=gen},[],[]⟩
abbrev ou(n b:Nat)(xs:List Int)(p:Option Addr):aU:=⟨{Nd.zero with kind:=3,bm:=(b:Int),brA:=p,brN:=n,brC:=n},xs,[]⟩
theorem z35:(0:Nat)<=35184372088832:=Nat.zero_le _
theorem z11:(0:Nat)<=11728124029610:=Nat.zero_le _
theorem q0{h:Nat}{ys:List Pr}{p:Option Addr}{c:Nat}(hy:ys.length<=1000):Jy (Kp h ys p c) (F2 h ys):=⟨rfl,rfl,rfl,λ _=>rfl,⟨rfl,rfl,z35,by show ys.length<=_;omega⟩,Nat.zero_le _,hy,rfl⟩
theorem Ww{h:Nat}{k:ByteArray}{u:Int}:Jy (Ab h k u) (vG h k u):=⟨rfl,rfl,rfl,λ _=>rfl,⟨rfl,rfl,z35,z11⟩,Nat.zero_le _,Nat.zero_le _,rfl⟩
theorem ib{gen m:Int}:Jy (xI gen) (qL gen m):=⟨rfl,rfl,rfl,λ _=>rfl,⟨rfl,rfl,z35,z11⟩,Nat.zero_le _,Nat.zero_le _,rfl⟩
theorem aAU{n b:Nat}{xs:List Int}{p:Option Addr}(hn:n=xs.length)(hx:xs.length<=1000):Jy (ou n b xs p) (cu b xs):=⟨rfl,rfl,rfl,λ _=>rfl,⟨hn,rfl,by show xs.length<=_;omega,z11⟩,hx,Nat.zero_le _,rfl⟩
structure RX where
 L:List aU
 ini:List Int
 pn:Option Addr
 cn:Nat
 pc:Option Addr
 cc:Nat
structure Hy(r:RX)(l:List NI):Prop where
 m:oC r.L l
 ini:r.ini=F6 l
theorem Hy.len{r:RX}{l:List NI}(h:Hy r l):r.L.length=l.length/\r.ini.length=l.length:=⟨h.m.len,by rw[h.ini];simp[F6]⟩
theorem Hy.push{r:RX}{l:List NI}(h:Hy r l){gen m:Int}{n b:Nat}{xs:List Int}{p pn pc:Option Addr}{cn cc:Nat}(hn:n=xs.length)(hx:xs.length<=1000):Hy ⟨r.L++[xI gen,ou n b xs p],r.ini++[m,0],pn,cn,pc,cc⟩ (l++[qL gen m,cu b xs]) :=
 ⟨h.m.append (.cons ib (.cons (aAU hn hx) .nil)),by show r.ini++_=_;rw[h.ini];simp[F6,qL,cu]⟩
theorem Q7{L:List aU}{gen:Int}{b:Nat}{r:Int}{p:Option Addr}{F:Fr}{f:Option Addr×List Value}(hf:f∈aL (L++[xI gen,ou 1 b [r] p]))(h1:(p,aH [r])∈F)(h2:f∈aL L->f∈F):f.2=[]∨f∈F:=by
 simp only[aL,List.flatMap_append] at hf
 rcases List.mem_append.1 hf with hf|hf
 ·exact .inr (h2 hf)
 ·simp[aU.fr] at hf
  rcases hf with rfl|rfl|rfl|rfl
  ·exact .inl rfl
  ·exact .inl rfl
  ·exact .inr h1
  ·exact .inl rfl
variable{v:aU}{at':Int}{h0 h:Nat}{k:ByteArray}{u gen:Int}{fi lvl:Nat}
abbrev dQ(at':Int)(h0 h:Nat)(v:aU)(k:ByteArray)(u gen:Int)(fi:Nat)(n:Nat):List NI:=dN at' h0 h (v.nd.key,v.nd.val) k u gen fi n (kQ h0 h-n)
theorem n6{n:Nat}(hn:n<kQ h0 h):dQ at' h0 h v k u gen fi (n+1)=dQ at' h0 h v k u gen fi n++[qL gen ((fi-1+(dQ at' h0 h v k u gen fi n).length:Nat):Int),cu (dS 0 (sl h (kQ h0 h-(n+1)):Int)) [((fi+(dQ at' h0 h v k u gen fi n).length:Nat):Int)]]:=by
 have e:kQ h0 h-(n+1)+1=kQ h0 h-n:=by omega
 unfold dQ
 rw[dN,e]
theorem u9{x y z:Option Addr}{c a b:Nat}(hc:kQ h0 h=11):Hy ⟨[Kp h (Dj [(v.nd.key,v.nd.val),(k,u)]) z c],[0],x,a,y,b⟩ (dQ at' h0 h v k u gen fi 0):=by
 have e:dQ at' h0 h v k u gen fi 0=[F2 h (Dj [(v.nd.key,v.nd.val),(k,u)])]:=by
  unfold dQ dN
  exact if_pos hc
 rw[e]
 exact⟨.cons (q0 (Nat.le_trans (Tg _) (by simp))) .nil,rfl⟩
theorem wv{x y p:Option Addr}{a b:Nat}(hc:kQ h0 h≠11):Hy ⟨[Ab h k u,ou 2 (dS (dS 0 (sl h0 (kQ h0 h):Int)) (sl h (kQ h0 h):Int)) (two (sl h0 (kQ h0 h)) (sl h (kQ h0 h)) at' (fi:Int)) p],[0,0],x,a,y,b⟩ (dQ at' h0 h v k u gen fi 0):=by
 have e:dQ at' h0 h v k u gen fi 0=[vG h k u,cu (dS (dS 0 (sl h0 (kQ h0 h):Int)) (sl h (kQ h0 h):Int)) (two (sl h0 (kQ h0 h)) (sl h (kQ h0 h)) at' (fi:Int))]:=by
  unfold dQ dN
  exact if_neg hc
 rw[e]
 exact⟨.cons Ww (.cons (aAU (by unfold two;split<;>rfl) (by unfold two;split<;>simp)) .nil),rfl⟩
theorem Zk(hv:v.nd.hash=(h0:Int))(hh0:h0<18446744073709551616)(hh:h<18446744073709551616)(hf1:1<=fi)(hf2:fi<=274877906944)(w:World) :
    Calls Tryz.prog 257 #[.agg ⟨v.nd.cells⟩,.int .i64 at',.int .u64 (h:Int),.string k,.int .u64 u,.int .i64 (lvl:Int),.int .i64 gen,.int .i64 (fi:Int)] w λ e w' =>
      ∃d:RX,e=.returned (.tuple #[.slice d.pn d.L.length d.cn,.slice d.pc d.ini.length d.cc]) /\
      (Hy d (dQ at' h0 h v k u gen fi (kQ h0 h-lvl))/\d.L.length<=d.cn/\d.ini.length<=d.cc) /\
      SF w [] [] [] ((d.pn,iR d.L)::(d.pc,aH d.ini)::aL d.L) [] w':=by
  have hcl:=zA h0 h
  refine enter Tryz.func257 Tryz.ntmps257 rfl rfl (SF.s0 w) ?_
  simp only[cD]
  refine J0 ?_;refine bO (λ x8=>?_);refine J8 ?_;refine Kc3 ?_;refine aM (cV (hc:=λ w1 hw=>by rw[hv];exact Nz hh0 hh w1)) (λ x26=>?_);refine iW ?_
  refine eE [16,17,18,19,27,28,29,30,31,32,33,34,35,36,37,38,39,40,41,42,43,44,45,46,47,48,49,50,51,52,53,54,55,56,57,58,59] (λ q:RX=>[(16,.slice q.pn q.L.length q.cn),(17,.slice q.pc q.ini.length q.cc),(18,.int .i64 ((kQ h0 h:Nat):Int))]) (λ q=>Hy q (dQ at' h0 h v k u gen fi 0)/\q.L.length<=2) (λ q=>[]) (λ q=>aL q.L) (λ q=>[⟨q.pn,iR q.L,q.cn,47,14⟩,⟨q.pc,aH q.ini,q.cc,37,1⟩]) (by decide) (λ _=>by exact rfl) ?_ (λ q f hx=>?_)
  · refine aR ?_
    refine yD ?_;refine nW ?_;refine aG ?_
    refine bC (λ c28=>?_) (λ c28=>?_)
    · refine gP ?_;refine J3 ?_;refine bM ?_;refine pQ ?_;refine bM ?_;refine fR (λ x37=>?_);refine aD (cF (V:=λ x:Option Addr×Nat=>.slice x.1 (Dj [(v.nd.key,v.nd.val),(k,u)]).length x.2) (hc:=λ w1 hw=>lu (l:=[(v.nd.key,v.nd.val),(k,u)]) (hw.cl (.new .head)) (by simp))) (λ x38 h38=>?_);refine zB ?_;refine bM ?_;refine aM (R7 (c:=1) (sz:=14) rfl (λ _=>cQ (cs:=iR [Kp h (Dj [(v.nd.key,v.nd.val),(k,u)]) x38.1 x38.2]) rJ Lm rfl rfl rfl rfl rfl)) (λ x42=>?_);refine aM (R7 (c:=1) (sz:=1) rfl (λ _=>cQ (cs:=aH [0]) pC Lm rfl rfl rfl rfl rfl)) (λ x43=>?_);refine J8 ?_;refine dH ?_;refine J1 ?_
      refine eY ((⟨[Kp h (Dj [(v.nd.key,v.nd.val),(k,u)]) x38.1 x38.2],[0],some ⟨x42,0,none⟩,1,some ⟨x43,0,none⟩,1⟩:RX)) ?_ (hw1:=λ w hw=>(hw.dx.fC λ f hf=>by simp[aL,aU.fr] at hf;rcases hf with rfl|rfl;exact .inl rfl;exact .inr (.head _)).sub (List.nil_sublist _) aY.all (List.Sublist.refl _))
      · have hne:kQ h0 h=11:=by omega
        exact⟨u9 hne,Nat.le_succ 1⟩
    · refine Kb5 ?_;refine bM ?_;refine Kc1 ?_;refine aM (cV (hc:=λ w1 hw=>by rw[hv];exact pX (l:=kQ h0 h) hh0 (by omega) w1)) (λ x51=>?_);refine pQ ?_;refine aA ?_;refine aM (cV (hc:=λ w1 hw=>pX (l:=kQ h0 h) hh (by omega) w1)) (λ x55=>?_);refine aA ?_;refine aD (cF (hc:=λ w1 hw=>qc (xS h0 (kQ h0 h)) (xS h (kQ h0 h)) (K9 (h:=h0) (k:=h) (by omega)) at' (fi:Int) w1)) (λ x57 h57=>?_);refine aM (R7 (c:=2) (sz:=14) rfl (λ _=>cQ (cs:=iR [Ab h k u,ou 2 (dS (dS 0 (sl h0 (kQ h0 h):Int)) (sl h (kQ h0 h):Int)) (two (sl h0 (kQ h0 h)) (sl h (kQ h0 h)) at' (fi:Int)) x57]) rJ Lm rfl rfl rfl rfl rfl)) (λ x58=>?_);refine J1 ?_;refine dH ?_;refine aM (R7 (c:=2) (sz:=1) rfl (λ _=>cQ (cs:=aH [0,0]) pC Lm rfl rfl rfl rfl rfl)) (λ x59=>?_);refine J1 ?_
      refine eY ((⟨[Ab h k u,ou 2 (dS (dS 0 (sl h0 (kQ h0 h):Int)) (sl h (kQ h0 h):Int)) (two (sl h0 (kQ h0 h)) (sl h (kQ h0 h)) at' (fi:Int)) x57],[0,0],some ⟨x58,0,none⟩,2,some ⟨x59,0,none⟩,2⟩:RX)) ?_ (hw1:=λ w hw=>(hw.dx.fC λ f hf=>by simp[aL,aU.fr] at hf;rcases hf with rfl|rfl|rfl|rfl;exact .inl rfl;exact .inl rfl;exact .inr (.head _);exact .inl rfl).sub (List.nil_sublist _) aY.all (List.Sublist.refl _))
      · have hne:kQ h0 h≠11:=by omega
        exact⟨wv hne,Nat.le_refl 2⟩
  dsimp only[gZ,List.map,List.cons_append,List.nil_append]
  refine mD ?_;refine rR ?_;refine J1 ?_;refine cY ?_
  have hq2:=hx.1.len
  refine oJ [16,17,20,21,22,62,63,64,65,66,67,68,69,70,71,72,73,74,75,76,77,78,79,80,81,82,83,84,85,86,87,88,89] (λ y:Nat×RX=>[(16,.slice y.2.pn y.2.L.length y.2.cn),(17,.slice y.2.pc y.2.ini.length y.2.cc),(20,.int .i64 (((kQ h0 h-y.1:Nat):Int)-1))]) (λ y=>y.1<=kQ h0 h-lvl/\Hy y.2 (dQ at' h0 h v k u gen fi y.1)/\y.2.L.length<=2+2*y.1) (λ _=>_) (λ y=>aL y.2.L) (λ y=>[⟨y.2.pn,iR y.2.L,y.2.cn,47,14⟩,⟨y.2.pc,aH y.2.ini,y.2.cc,37,1⟩]) (λ y=>kQ h0 h-lvl-y.1) ((0,q)) (⟨Nat.zero_le _,hx⟩) (λ y f hx=>?_) (hw0:=λ w hw=>hw.sub (List.Sublist.refl _) aY.all (List.Sublist.refl _))
  dsimp only[gZ,List.map,List.cons_append,List.nil_append]
  obtain⟨hy1,hy2,hy3⟩:=hx
  obtain⟨hy4,hy5⟩:=hy2.len
  refine Cm ?_;refine nW ?_;refine aG ?_
  refine bC (λ c64=>?_) (λ c64=>?_)
  · obtain⟨lv,elv⟩:∃lv:Nat,kQ h0 h-(y.1+1)=lv:=⟨_,rfl⟩
    have elv2:(((kQ h0 h-y.1:Nat):Int)-1)=(lv:Int):=by omega
    have hlv2:lv<=10:=by omega
    refine tB ?_;refine iX ?_;refine dY ?_;refine aB (mL rf rf (by omega)) rfl ?_;refine aB (jA (n:=1) rf rf (by omega) (by omega)) rfl ?_;refine zB ?_;refine aM (cV (hc:=λ w1 hw=>Ca elv2 hh hlv2 w1)) (λ x74=>?_);refine zB ?_;refine bM ?_;refine aA ?_;refine aM (cV (hc:=λ w1 hw=>mS (n:=0) (by decide) (sl h lv:Int) w1)) (λ x79=>?_);refine aA ?_;refine aB (mL (n:=1) rf rf (by omega)) rfl ?_;refine aM (Kr (λ _=>cQ (cs:=aH [((fi+y.2.L.length-1+1:Nat):Int)]) pC Lm rfl rfl rfl rfl rfl)) (λ x82=>?_);refine bM ?_;refine aM (Kr (λ _=>cQ (cs:=iR [xI gen,ou 1 (dS 0 (sl h lv:Int)) [((fi+y.2.L.length-1+1:Nat):Int)] (some ⟨x82,0,none⟩)]) rJ Lm rfl rfl rfl rfl rfl)) (λ x84=>?_);(refine aM (bD.eT (jd (k:=2) (L2:=[xI gen,ou 1 (dS 0 (sl h lv:Int)) [((fi+y.2.L.length-1+1:Nat):Int)] (some ⟨x82,0,none⟩)]) rf rf Aq rfl fin rfl Su rfl gQ (by omega)) xC) (λ x85=>?_);try (refine fD (λ h85=>?_)));refine J1 ?_;refine L8 ?_;refine aM (Kr (λ _=>cQ (cs:=aH [((fi+y.2.L.length-1:Nat):Int),0]) pC Lm rfl rfl rfl rfl rfl)) (λ x88=>?_);(refine aM (bD.eT (Qr (k:=2) (l2:=[((fi+y.2.L.length-1:Nat):Int),0]) rf rf Aq rfl fin rfl ka gQ (by omega)) xC) (λ x89=>?_);try (refine fD (λ h89=>?_)));refine J1 ?_;refine fG ?_;refine yD ?_;refine rR ?_;refine J1 ?_
    refine iJ ((y.1+1,(⟨y.2.L++[xI gen,ou 1 (dS 0 (sl h lv:Int)) [((fi+y.2.L.length-1+1:Nat):Int)] (some ⟨x82,0,none⟩)],y.2.ini++[((fi+y.2.L.length-1:Nat):Int),0],x85.1,x85.2,x89.1,x89.2⟩:RX))) ?_ (hw1:=λ w hw=>hw.fC λ f hf=>Q7 hf (.tail _ (.tail _ (.head _))) (λ hf=>.tail _ (.tail _ (.tail _ hf))))
    · refine⟨by omega,?_,by simp only[List.length_append,List.length_cons,List.length_nil];omega⟩
      have e1:dQ at' h0 h v k u gen fi (y.1+1)=dQ at' h0 h v k u gen fi y.1++[qL gen ((fi+y.2.L.length-1:Nat):Int),cu (dS 0 (sl h lv:Int)) [((fi+y.2.L.length-1+1:Nat):Int)]]:=by
       rw[n6 (by omega),elv,<- hy4,show fi-1+y.2.L.length=fi+y.2.L.length-1 by omega,show fi+y.2.L.length-1+1=fi+y.2.L.length by omega]
      rw[e1]
      exact hy2.push rfl (by simp)
  · have en:y.1=kQ h0 h-lvl:=by omega
    refine bS rfl ?_;refine iX ?_;refine J8 ?_
    refine bA Tryz.results257 (λ w hw=>?_)
    refine⟨y.2,rfl,⟨?_,?_,?_⟩,?_⟩
    · rw[<- en]
      exact hy2
    · exact hw.y3 .head
    · exact hw.aBy (.tail .head)
    · exact((hw.freeze .head).freeze .head).aAn.ret (List.nil_sublist _) aY.all (List.nil_sublist _)
end

/- The procedures with shared cells, as trees. -/
end Go.Proofs.YtbajmaoegmbfgaaGreat
namespace Go.Ct
section
def NI.c0(a:NI):Nv:=a.n.c a.xs a.ys
end
end Go.Ct
namespace Go.Proofs.YtbajmaoegmbfgaaGreat
section
open Go.RowKit Go.Ct
structure dM where
 root:Int
 ro:Bool
structure Cl where
 kind:Int
 t:dM
 a:Int
 b:Int
 n:Int
 index:Int
 hash:Int
 mask:Int
 key:ByteArray
 val:Int
 exp:Int
 H7:Int
 only:Bool
def gD(h:Nat)(level:Int):Int:=if level<0∨10<level then 0 else(sl h level.toNat:Int)
def yI(p:Int):Nv:=({Nd.zero with kind:=7,aZ:=p}:Nd).c [] []
def kH(g:Int):Nv:=({Nd.zero with kind:=2,gen:=g}:Nd).c [] []
def qE(a b c:Int):Nv:=({Nd.zero with kind:=8,aZ:=a,exp:=b,new:=c}:Nd).c [] []
def Gu(h:Int)(k:ByteArray)(u:Int):Nv:=({Nd.zero with kind:=4,hash:=h,key:=k,val:=u}:Nd).c [] []
def Em:Nv:=({Nd.zero with kind:=3}:Nd).c [] []
def xd(v s:Int)(K:Int->Tr):Tr:=.node v λ n=>K (if s=1 then n.new else n.aZ)
def oD(t:dM)(v s:Int)(K:Int->Tr):Tr:=xd v s λ w=>.iS t.root v w λ _=>K w
def Ei(t:dM)(K:Int->Tr):Tr:=.load t.root λ v=>.node v λ n=>if n.kind=2 then K v else .node v λ n=>.load n.status λ s =>
 if s=0 then .node v λ n=>.iS n.status 0 2 λ _=>.node v λ n=>.load n.status λ s=>oD t v s K else oD t v s K
def Li(i m p:Int)(K:Int->Tr):Tr:=.node i λ ni=>.node p λ np=>.iS ni.main m np.aZ λ _=>.node p λ np=>K np.aZ
def jQ(i m:Int)(K:Int->Tr):Tr:=.node m λ nm=>.load nm.prev λ p=>if p=0 then K m else Li i m p K
def oG(i m p:Int)(c:Bool)(K:Int->Tr):Tr :=
 if c=true then .node m λ nm=>.iS nm.prev p 0 λ _=>jQ i m K
 else .node m λ nm=>.alloc (yI p) 0 λ f=>.iS nm.prev p f λ _=>jQ i m K
def oN(t:dM)(i m:Int)(K:Int->Tr):Tr:=.node m λ nm=>.load nm.prev λ p=>if p=0 then K m else .node p λ np =>
 if bX np then(if t.ro=true then oG i m p false K else Ei t λ r=>.node r λ nr=>.node i λ ni=>oG i m p (nr.gen==ni.gen) K)
 else Li i m p K
def lG(t:dM)(i:Int)(K:Int->Tr):Tr:=.node i λ ni=>.load ni.main λ m=>oN t i m K
def oK(t:dM)(v:Int)(K:Tr):Tr:=.node v λ n=>lG t n.aZ λ r=>.node v λ n2=>.node v λ n3=>.iS n3.status 0 (if r=n2.exp then 1 else 2) λ _=>K
def tY(t:dM)(K:Int->Tr):Tr:=.load t.root λ v=>.node v λ n=>if n.kind=2 then K v else .node v λ n=>.load n.status λ s =>
 if s=0 then oK t v (.node v λ n=>.load n.status λ s=>oD t v s K) else oD t v s K
def nG(t:dM)(i aZ n:Int)(K:Bool->Tr):Tr:=.node i λ ni=>.iS ni.main aZ n λ b=>if b=true then oN t i n λ m=>K (m==n) else K false
def jB(t:dM)(aZ exp new:Int)(K:Bool->Tr):Tr:=.alloc (qE aZ exp new) 0 λ d=>.iS t.root aZ d λ b =>
 if b=true then oK t d (.node d λ nd=>.load nd.status λ s=>oD t d s λ _=>K (s==1)) else K false
noncomputable def Hj (c index r:Int) (K:Int->Tr):Tr:=.node c λ nc=>.alloc (Si nc index r) c K
noncomputable def Ld (t:dM) (i c index:Int) (K:Int->Tr):Tr:=.node c λ nc=>lG t ((kJ nc index).getD 0) λ m=>.node i λ ni=>.alloc (kH ni.gen) m λ j =>
 Hj c index j λ r=>nG t i c r λ ok=>K (if ok=true then j else 0)
noncomputable def yK (t:dM) (parent child:Int) (h:Nat) (level:Int) (K:Bool->Tr):Tr:=lG t parent λ m=>.node m λ nm =>
 if kJ nm (gD h level)=some child then lG t child λ mc=>.node mc λ nmc =>
  if nmc.kind=5 then .alloc (zs nmc) 0 λ s=>.node m λ nm2=>.alloc (yn (Si nm2 (gD h level) s) level (zs nmc)) m λ r=>nG t parent m r K
  else K false
 else K false
def jC(f:Bool)(v:Int):Rs:=⟨0,f,v,⟨#[]⟩,0,0,0,false⟩
def rC(f:Bool)(v:Int):Rs:=⟨0,f,v,⟨#[]⟩,1,0,0,false⟩
noncomputable def Cj (t:dM) (h:Nat) (key:ByteArray) (K:Rs->Tr):Nat->Int->Int->Tr
 | 0,_,_=>.stuck
 | n+1,i,level=>lG t i λ mr=>.node mr λ m =>
  if m.kind=5 then(if m.key=key then K (jC true m.val) else K (jC false 0))
  else if m.kind=6 then K (jC (dR m.ys key).isSome ((dR m.ys key).getD 0))
  else match kJ m (gD h level) with
   | none=>K (jC false 0)
   | some b=>.node b λ s=>if s.kind=4 then(if s.key=key then K (jC true s.val) else K (jC false 0)) else Cj t h key K n b (level+1)
def nV(c:Cl)(found:Bool)(v:Int):Bool:=if c.H7=1 then !found else if c.H7=2 then found else if c.H7=3 then found&&v==c.exp else true
def Ag:List NI->Int->(Int->Tr)->Tr
 | [],r,K=>K r
 | a::l,_,K=>.alloc a.c0 a.init λ r=>Ag l r K
def dP(at_:Int)(h0 h:Nat)(p:Pr)(k:ByteArray)(u gen:Int)(fi lvl:Nat):List NI:=dN at_ h0 h p k u gen fi (kQ h0 h-lvl) (kQ h0 h-(kQ h0 h-lvl))
def T7(c:Cl)(b:Int)(h:Nat)(level:Nat)(gen:Int)(K:Int->Tr):Tr:=.node b λ nb =>
 .alloc ((dP b nb.hash.toNat h (nb.key,nb.val) c.key c.val gen 0 level).headD NI.no).c0 ((dP b nb.hash.toNat h (nb.key,nb.val) c.key c.val gen 0 level).headD NI.no).init λ f =>
 Ag (dP b nb.hash.toNat h (nb.key,nb.val) c.key c.val gen f.toNat level).tail f K
noncomputable def lU (c:Cl) (i m:Int) (h:Nat) (level:Nat) (gen:Int) (K:Rs->Int->Tr):Tr:=.node m λ n =>
 if n.kind=6 then
  (if nV c (dR n.ys c.key).isSome ((dR n.ys c.key).getD 0)=true then
   .alloc (zl n c.key c.val) m λ r=>nG c.t i m r λ ok=>K (rC (dR n.ys c.key).isSome ((dR n.ys c.key).getD 0)) (if ok=true then 1 else 0)
  else K (jC (dR n.ys c.key).isSome ((dR n.ys c.key).getD 0)) 1)
 else match kJ n (gD h level) with
  | none=>if nV c false 0=true then .alloc (Gu h c.key c.val) 0 λ s=>.alloc (xq n (gD h level) s) m λ r=>nG c.t i m r λ ok=>K (rC false 0) (if ok=true then 1 else 0) else K (jC false 0) 1
  | some b=>.node b λ nb=>if nb.kind=2 then K Rs.zero 2 else
   if nb.key=c.key then
    (if nV c true nb.val=true then .alloc (Gu h c.key c.val) 0 λ s=>Hj m (gD h level) s λ r=>nG c.t i m r λ ok=>K (rC true nb.val) (if ok=true then 1 else 0)
    else K (jC true nb.val) 1)
   else
    (if nV c false 0=true then T7 c b h (level+1) gen λ d=>.alloc (kH gen) d λ j=>Hj m (gD h level) j λ r=>nG c.t i m r λ ok=>K (rC false 0) (if ok=true then 1 else 0)
    else K (jC false 0) 1)
noncomputable def Gt (c:Cl) (i m index gen:Int) (K:Int->Tr):Tr:=.node m λ nm=>.node ((kJ nm index).getD 0) λ nb=>if nb.gen=gen then K ((kJ nm index).getD 0) else Ld c.t i m index K
noncomputable def Cv (c:Cl) (h:Nat) (K:Rs->Tr) (again:Tr) (gen:Int):Nat->Int->Int->Nat->Tr
 | 0,_,_,_=>.stuck
 | n+1,i,parent,level=>lG c.t i λ m=>.node m λ nm =>
  if nm.kind=5 then yK c.t parent i h ((level:Int)-1) λ _=>again
  else lU c i m h level gen λ r what=>if what=1 then K r else if what=0 then again else
   Gt c i m (gD h level) gen λ b=>if b=0 then again else Cv c h K again gen n b i (level+1)
noncomputable def Ae (c:Cl) (h:Nat) (K:Rs->Tr):Nat->Tr
 | 0=>.stuck
 | n+1=>tY c.t λ i=>.node i λ ni=>Cv c h K (Ae c h K n) ni.gen n i 0 0
noncomputable def jY (c:Cl) (i m:Int) (h:Nat) (level:Nat) (K:Rs->Int->Tr):Tr:=.node m λ n =>
 if n.kind=6 then
  (if(dR n.ys c.key).isSome=false∨(c.only=true/\(dR n.ys c.key).getD 0≠c.exp) then K (jC (dR n.ys c.key).isSome ((dR n.ys c.key).getD 0)) 1
  else .alloc (qg n c.key) m λ r=>nG c.t i m r λ ok=>K (rC true ((dR n.ys c.key).getD 0)) (if ok=true then 1 else 0))
 else match kJ n (gD h level) with
  | none=>K (jC false 0) 1
  | some b=>.node b λ s=>if s.kind=2 then K Rs.zero 2 else if s.key≠c.key then K (jC false 0) 1 else if c.only=true/\s.val≠c.exp then K (jC true s.val) 1
   else .node ((Mc (Ml n (gD h level))).getD 0) λ so=>.alloc (yn (Ml n (gD h level)) level so) m λ r=>nG c.t i m r λ ok=>K (rC true s.val) (if ok=true then 1 else 0)
noncomputable def tq (t:dM) (path:List Int) (h:Nat) (K:Tr):Nat->Tr
 | 0=>K
 | l+1=>lG t (path.getD (l+1) 0) λ m=>.node m λ nm=>if nm.kind=5 then yK t (path.getD l 0) (path.getD (l+1) 0) h (l:Int) λ _=>tq t path h K l else K
noncomputable def vD (c:Cl) (h:Nat) (K:Rs->Tr) (again:Tr) (gen:Int):Nat->Int->List Int->Nat->Tr
 | 0,_,_,_=>.stuck
 | n+1,i,path,level=>lG c.t i λ m=>.node m λ nm =>
  if nm.kind=5 then yK c.t (path.getD (level-1) 0) i h ((level:Int)-1) λ _=>again
  else jY c i m h level λ r what=>if what=1 then(if r.fT=1 then tq c.t path h (K r) (path.length-1) else K r) else if what=0 then again else
   Gt c i m (gD h level) gen λ b=>if b=0 then again else vD c h K again gen n b (path++[b]) (level+1)
noncomputable def qM (c:Cl) (h:Nat) (K:Rs->Tr):Nat->Tr
 | 0=>.stuck
 | n+1=>tY c.t λ i=>.node i λ ni=>vD c h K (qM c h K n) ni.gen n i [i] 0
def H5(root:Int)(ro:Bool):Rs:=⟨0,true,0,⟨#[]⟩,0,0,root,ro⟩
def Io(m:Int)(K:Rs->Tr):Tr:=.gen λ g=>.alloc (kH g) m λ r=>.cell r λ c=>K (H5 c false)
def Ew(t:dM)(fz:Bool)(K:Rs->Tr):Nat->Tr
 | 0=>.stuck
 | n+1=>tY t λ r=>lG t r λ m=>.gen λ g=>.alloc (kH g) m λ j=>jB t r m j λ ok =>
  if ok=true then(if fz=true then .cell r λ c=>K (H5 c true) else Io m K) else Ew t fz K n
def sS(t:dM)(fz:Bool)(K:Rs->Tr)(n:Nat):Tr :=
 if t.ro=true then .load t.root λ r=>if fz=true then .cell r λ c=>K (H5 c true) else lG t r λ m=>Io m K
 else Ew t fz K n
def vM(t:dM)(K:Rs->Tr):Nat->Tr
 | 0=>.stuck
 | n+1=>tY t λ r=>lG t r λ m=>.alloc Em 0 λ c=>.gen λ g=>.alloc (kH g) c λ j=>jB t r m j λ ok =>
  if ok=true then K (jC true 0) else vM t K n
def iD(r:Int)(f:Bool):Rs:=⟨0,f,0,⟨#[]⟩,0,r,0,false⟩
def refuse(c:Cl):Int:=if c.kind=7∨c.kind=9 then(if c.key.size<=64 then 0 else 1) else if c.kind=8 then(if c.key.size<=64/\0<=c.H7/\c.H7<=3 then 0 else 1) else 0
noncomputable def kM (c:Cl) (h:Nat) (n:Nat):Tr :=
 if refuse c≠0 then .done {Rs.zero with err:=refuse c}
 else if c.kind=1 then lG c.t c.a λ r=>.done (iD r false)
 else if c.kind=2 then nG c.t c.a c.b c.n λ ok=>.done (iD 0 ok)
 else if c.kind=3 then tY c.t λ r=>.done (iD r false)
 else if c.kind=4 then jB c.t c.a c.b c.n λ ok=>.done (iD 0 ok)
 else if c.kind=7 then tY c.t λ i=>Cj c.t h c.key .done n i 0
 else if c.kind=8 then Ae c h .done n
 else if c.kind=9 then qM c h .done n
 else if c.kind=10 then sS c.t false .done n
 else if c.kind=11 then sS c.t true .done n
 else vM c.t .done n
end

/- An execution of the reference: its block, its own lists; the rules for calls of its methods. -/
section
open Go Go.RowKit Go.Ct
def xoC(k:Cl)(bm:Nat)(x:XS)(dn:Bool)(rs:Rs):List Value:=[.pointer (some ⟨bm,0,none⟩),
 .int .i64 k.kind,.int .i64 k.t.root,.bool k.t.ro,.int .i64 k.a,.int .i64 k.b,.int .i64 k.n,.int .i64 k.index,.int .u64 k.hash,.int .u64 k.mask,.string k.key,.int .u64 k.val,.int .u64 k.exp,.int .i64 k.H7,.bool k.only,
 .bool false,.slice none 0 0,.slice none 0 0,.int .i64 0,.bool false,.int .u64 0,.string ⟨#[]⟩,.int .i64 0,.int .i64 0,.int .i64 0,.bool false,
 .slice x.pg x.got.length x.kg,.slice x.pm x.made.length x.km,.slice x.pl x.cel.length x.kl,.slice x.pe x.gns.length x.ke,
 .int .i64 ((x.a:Nat):Int),.int .i64 ((x.m:Nat):Int),.int .i64 ((x.c:Nat):Int),.int .i64 ((x.g:Nat):Int),.int .i64 ((x.fr:Nat):Int),.bool x.st,
 .int .i64 x.nx.k,.int .i64 x.nx.c,.int .i64 x.nx.o,.int .i64 x.nx.n,.bool dn,
 .int .i64 rs.err,.bool rs.found,.int .u64 rs.val,.string rs.key,.int .i64 rs.fT,.int .i64 rs.ref,.int .i64 rs.root,.bool rs.ro,
 .bool false,.slice none 0 0,.slice none 0 0]
abbrev xO(k:Cl)(bm:Nat)(x:XS)(dn:Bool)(rs:Rs):Obj:=.cells ⟨xoC k bm x dn rs⟩ 153 (0,0)
abbrev xM(x:XS):Obj:=mO x.L x.cs x.gen x.acc x.pn x.cn x.pc x.cc
abbrev xW(x:XS):List Ow:=[⟨x.pg,aH x.got,x.kg,37,1⟩,⟨x.pm,aH x.made,x.km,37,1⟩,⟨x.pl,aH x.cel,x.kl,27,1⟩,⟨x.pe,aH x.gns,x.ke,3,1⟩,⟨x.pn,iR x.L,x.cn,47,14⟩,⟨x.pc,aH x.cs,x.cc,37,1⟩]
abbrev xH(k:Cl)(bx bm:Nat)(x:XS)(dn:Bool)(rs:Rs):List (Nat×Obj):=[(bx,xO k bm x dn rs),(bm,xM x)]
theorem aAK{w0 w:World}{D:List Nat}{k:Cl}{bx bm:Nat}{x:XS}{dn:Bool}{rs:Rs}{A F:Fr}(h:SF w0 D (xH k bx bm x dn rs) A F (xW x) w) :
  SF w0 D [(bx,.cells ⟨[.pointer (some ⟨bm,0,none⟩),
 .int .i64 k.kind,.int .i64 k.t.root,.bool k.t.ro,.int .i64 k.a,.int .i64 k.b,.int .i64 k.n,.int .i64 k.index,.int .u64 k.hash,.int .u64 k.mask,.string k.key,.int .u64 k.val,.int .u64 k.exp,.int .i64 k.H7,.bool k.only,
 .bool false,.slice none 0 0,.slice none 0 0,.int .i64 0,.bool false,.int .u64 0,.string ⟨#[]⟩,.int .i64 0,.int .i64 0,.int .i64 0,.bool false,
 .slice x.pg x.got.length x.kg,.slice x.pm x.made.length x.km,.slice x.pl x.cel.length x.kl,.slice x.pe x.gns.length x.ke,
 .int .i64 ((x.a:Nat):Int),.int .i64 ((x.m:Nat):Int),.int .i64 ((x.c:Nat):Int),.int .i64 ((x.g:Nat):Int),.int .i64 ((x.fr:Nat):Int),.bool x.st,
 .int .i64 x.nx.k,.int .i64 x.nx.c,.int .i64 x.nx.o,.int .i64 x.nx.n,.bool dn,
 .int .i64 rs.err,.bool rs.found,.int .u64 rs.val,.string rs.key,.int .i64 rs.fT,.int .i64 rs.ref,.int .i64 rs.root,.bool rs.ro,
 .bool false,.slice none 0 0,.slice none 0 0]⟩ 153 (0,0)),(bm,mO x.L x.cs x.gen x.acc x.pn x.cn x.pc x.cc)] A F [⟨x.pg,aH x.got,x.kg,37,1⟩,⟨x.pm,aH x.made,x.km,37,1⟩,⟨x.pl,aH x.cel,x.kl,27,1⟩,⟨x.pe,aH x.gns,x.ke,3,1⟩,⟨x.pn,iR x.L,x.cn,47,14⟩,⟨x.pc,aH x.cs,x.cc,37,1⟩] w:=h
theorem cB{w0 w:World}{D:List Nat}{k:Cl}{bx bm:Nat}{x:XS}{dn:Bool}{rs:Rs}{A F:Fr}(h:SF w0 D (xH k bx bm x dn rs) A F (xW x) w) :
  SF w0 D [(bx,.cells ⟨xoC k bm x dn rs⟩ 153 (0,0)),(bm,mO x.L x.cs x.gen x.acc x.pn x.cn x.pc x.cc)] A F [⟨x.pg,aH x.got,x.kg,37,1⟩,⟨x.pm,aH x.made,x.km,37,1⟩,⟨x.pl,aH x.cel,x.kl,27,1⟩,⟨x.pe,aH x.gns,x.ke,3,1⟩,⟨x.pn,iR x.L,x.cn,47,14⟩,⟨x.pc,aH x.cs,x.cc,37,1⟩] w:=h
end

end Go.Proofs.YtbajmaoegmbfgaaGreat

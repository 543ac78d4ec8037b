/- The reference of dual: the nodes that are allocated for two keys. -/
import Derived.Test.YtadnboagdhcedaaGreatDoorGArS
import Derived.Test.YtadnboagdhcedaaGreatDoorGBr2
import Derived.Test.YtadnboagdhcedaaGreatDoorGPa1
import Derived.Test.YtadnboagdhcedaaGreatDoorGNode3
import Derived.Test.YtadnboagdhcedaaGreatDoorGSh6
import Derived.Test.YtadnboagdhcedaaGreatDoorGLst3

set_option linter.unusedSimpArgs false
set_option linter.unusedVariables false
namespace Go.Ct
section
open Go Go.RowKit
def two(i k:Nat)(x s:Int):List Int:=if i<k then [x,s] else [s,x]
structure NI where
 n:Nd
 xs:List Int
 ys:List Pr
 init:Int
def AX.no:AX:=⟨none,0,none,0,none,0,none,0⟩
def NI.c(a:NI)(c:Nat):Nv:=(jY a.n a.xs a.ys c AX.no).c
abbrev Bv(h:Nat)(ys:List Pr):NI:=⟨{Nd.zero with kind:=6,hash:=(h:Int)},[],ys,0⟩
abbrev tU(h:Nat)(k:ByteArray)(u:Int):NI:=⟨{Nd.zero with kind:=4,hash:=(h:Int),key:=k,val:=u},[],[],0⟩
abbrev oK(gen m:Int):NI:=⟨{Nd.zero with kind:=2,gen:=gen},[],[],m⟩
abbrev Yf(b:Nat)(xs:List Int):NI:=⟨{Nd.zero with kind:=3,bm:=(b:Int)},xs,[],0⟩
def NI.no:NI:=⟨Nd.zero,[],[],0⟩
structure Fp(v:aK)(a:NI):Prop where
 xs:v.xs=a.xs
 ys:v.ys=a.ys
 kind:v.nd.kind=a.n.kind
 c:∀k,(jY v.nd v.xs v.ys k AX.no).c=a.c k
 fit:v.Fit
 sx:v.xs.length<=1000
 sy:v.ys.length<=1000
 c0:v.c=a.n.c a.xs a.ys
inductive mI:List aK->List NI->Prop where
 | nil:mI [] []
 | cons {v:aK} {a:NI} {L:List aK} {l:List NI} (h:Fp v a) (hr:mI L l):mI (v::L) (a::l)
theorem mI.len{L:List aK}{l:List NI}(h:mI L l):L.length=l.length:=by
 induction h with
 | nil=>rfl
 | cons _ _ ih=>simp[ih]
theorem mI.append{L M:List aK}{l m:List NI}(h:mI L l)(h2:mI M m):mI (L++M) (l++m):=by
 induction h with
 | nil=>exact h2
 | cons h _ ih=>exact .cons h ih
theorem mI.at{L:List aK}{l:List NI}(h:mI L l){i:Nat}(hi:i<L.length):∃a,l[i]?=some a/\Fp (L.getD i aK.zero) a:=by
 induction h generalizing i with
 | nil=>simp at hi
 | @cons v a L l h _ ih =>
  cases i with
  | zero=>exact⟨a,rfl,h⟩
  | succ i =>
   obtain⟨b,h1,h2⟩:=ih (i:=i) (by simpa using hi)
   exact⟨b,by simpa using h1,by simpa using h2⟩
def C0(l:List NI):List Int:=l.map NI.init
theorem SF.vr{w0 w:World}{M:List Nat}{H:List (Nat×Obj)}{A F:Fr}{O:List Ow}{f1 f2:Option Addr×List Value}(h:SF w0 M H A (f1::f2::F) O w):SF w0 M H A (f2::f1::F) O w:=h.eG λ f hf=>.inr (by
 simp only[List.mem_cons] at hf ⊢
 rcases hf with h|h|h
 ·exact .inr (.inl h)
 ·exact .inl h
 ·exact .inr (.inr h))
theorem SF.uo{w0 w:World}{M:List Nat}{H:List (Nat×Obj)}{A F:Fr}{O:List Ow}{i c:Nat}{p:Option Addr}(h:SF w0 M H A F O w){l:List Int}{T:TypeId}(ho:uR O i p (aG l) c T 1):l.length<=c:=by
 rcases(h.own _ ho.mem).1 with⟨_,h2,_⟩|⟨b,rest,_,_,h3⟩
 ·have h2':aG l=[]:=h2
  have:(aG l).length=0:=by rw[h2'];rfl
  rw[gS] at this
  omega
 ·have h3':(aG l++rest).length=c*1:=h3
  rw[List.length_append,gS] at h3'
  omega
end
end Go.Ct
namespace Go.Proofs.YtadnboagdhcedaaGreatDoor
section
open Go Go.RowKit Go.Ct
def dN(x:Int)(h0 h:Nat)(p0:Pr)(k:ByteArray)(u gen:Int)(f:Nat):Nat->Nat->List NI
 | 0,lvl=>if lvl=11 then [Bv h (A4 [p0,(k,u)])] else [tU h k u,Yf (dB (dB 0 (sl h0 lvl:Int)) (sl h lvl:Int)) (two (sl h0 lvl) (sl h lvl) x (f:Int))]
 | n+1,lvl=>dN x h0 h p0 k u gen f n (lvl+1)++[oK gen ((f-1+(dN x h0 h p0 k u gen f n (lvl+1)).length:Nat):Int),Yf (dB 0 (sl h lvl:Int)) [((f+(dN x h0 h p0 k u gen f n (lvl+1)).length:Nat):Int)]]
theorem Mt{x:Int}{h0 h:Nat}{p0:Pr}{k:ByteArray}{u gen:Int}{f:Nat}:∀n lvl,(dN x h0 h p0 k u gen f n lvl).length<=2+2*n
 | 0,lvl=>by
  unfold dN
  split<;>simp
 | n+1,lvl=>by
  have:=Mt (x:=x) (h0:=h0) (h:=h) (p0:=p0) (k:=k) (u:=u) (gen:=gen) (f:=f) n (lvl+1)
  unfold dN
  simp only[List.length_append,List.length_cons,List.length_nil]
  omega
theorem dx{i k:Nat}(hi:i<64)(hk:k<64)(hne:i≠k)(a b:Int)(w:World) :
  Calls Tryz.prog 175 #[.int .i64 (i:Int),.int .i64 a,.int .i64 (k:Int),.int .i64 b] w λ e w'=>∃p:Option Addr,e=.returned (.agg ⟨[.int .i64 3,.int .i64 0,.int .i64 0,.int .u64 ((dB (dB 0 (i:Int)) (k:Int):Nat):Int),.slice p 2 2,.int .u64 0,.string ⟨#[]⟩,.int .u64 0,.slice none 0 0,.int .i64 0,.int .i64 0,.int .i64 0,.int .i64 0,.int .i64 0]⟩)/\True/\SF w [] [] [] [(p,aG (two i k a b))] [] w':=by
 refine enter Tryz.func175 Tryz.ntmps175 rfl rfl (SF.s0 w) ?_
 simp only[cR]
 refine J0 ?_;refine aP (λ x8=>?_);refine aI ?_;refine J2 ?_;refine aR (cV (hc:=λ w1 hw=>lD (n:=0) (by decide) (i:Int) w1)) (λ x11=>?_);refine aB ?_;refine aR (cV (hc:=λ w1 hw=>lD (n:=dB 0 (i:Int)) (wZ (by decide) _) (k:Int) w1)) (λ x13=>?_);refine nB ?_;refine fT (λ x16=>?_);refine bD ?_;refine aP (λ x9=>?_);refine J5 ?_;refine Gi ?_;refine vR ?_
 refine aZ (λ c20=>?_) (λ c20=>?_)
 ·refine Mc ?_;refine fT (λ x23=>?_);refine wN ?_;refine Kb1 ?_
  refine bJ Tryz.results175 (λ w hw=>?_)
  first
  | exact⟨some ⟨x23,0,none⟩,rfl,trivial,by rw[show two i k a b=[b,a] from if_neg (by omega)];exact hw.ret (List.nil_sublist _) (aX.pD λ f hf=>by rw[List.mem_singleton.1 hf];exact .head _) (List.Sublist.refl _)⟩
  | exact⟨some ⟨x16,0,none⟩,rfl,trivial,by rw[show two i k a b=[a,b] from if_pos (by omega)];exact hw.ret (List.nil_sublist _) (aX.pD λ f hf=>by rw[List.mem_singleton.1 hf];exact .head _) (List.Sublist.refl _)⟩
 ·refine bA ?_;refine Kb1 ?_
  refine bJ Tryz.results175 (λ w hw=>?_)
  first
  | exact⟨some ⟨x16,0,none⟩,rfl,trivial,by rw[show two i k a b=[a,b] from if_pos (by omega)];exact hw.ret (List.nil_sublist _) (aX.pD λ f hf=>by rw[List.mem_singleton.1 hf];exact .head _) (List.Sublist.refl _)⟩
theorem ag{l:List Pr}{a:Option Addr}{c:Nat}{w:World}(ha:Cl w a (cZ l))(hlen:l.length<=200000000000) :
  Calls Tryz.prog 174 #[.slice a l.length c] w λ e w'=>∃x:Option Addr×Nat,e=.returned (.slice x.1 (A4 l).length x.2)/\(A4 l).length<=x.2/\SF w [] [] [] [(x.1,cZ (A4 l))] [] w':=(ah ha hlen).mono λ _ _ h=>h
theorem Av{h l:Nat}{i:Int}(hi:i=(l:Int))(hh:h<18446744073709551616)(hl:l<=10)(w:World):Calls Tryz.prog 79 #[.int .u64 (h:Int),.int .i64 i] w λ e w'=>e=.returned (.int .i64 ((sl h l:Nat):Int))/\St w [] [] w':=by
 subst hi
 exact oF hh hl w
abbrev H6(h:Nat)(ys:List Pr)(p:Option Addr)(c:Nat):aK:=⟨{Nd.zero with kind:=6,hash:=(h:Int),prA:=p,prN:=ys.length,cZ:=c},[],ys⟩
abbrev xS(h:Nat)(k:ByteArray)(u:Int):aK:=⟨{Nd.zero with kind:=4,hash:=(h:Int),key:=k,val:=u},[],[]⟩
abbrev uJ(gen:Int):aK:=⟨{Nd.zero with kind:=2,gen:=gen},[],[]⟩
abbrev gu(n b:Nat)(xs:List Int)(p:Option Addr):aK:=⟨{Nd.zero with kind:=3,bm:=(b:Int),brA:=p,brN:=n,brC:=n},xs,[]⟩
theorem yj:(0:Nat)<=35184372088832:=Nat.zero_le _
theorem zn:(0:Nat)<=11728124029610:=Nat.zero_le _
theorem ei{h:Nat}{ys:List Pr}{p:Option Addr}{c:Nat}(hy:ys.length<=1000):Fp (H6 h ys p c) (Bv h ys):=⟨rfl,rfl,rfl,λ _=>rfl,⟨rfl,rfl,yj,by show ys.length<=_;omega⟩,Nat.zero_le _,hy,rfl⟩
theorem S9{h:Nat}{k:ByteArray}{u:Int}:Fp (xS h k u) (tU h k u):=⟨rfl,rfl,rfl,λ _=>rfl,⟨rfl,rfl,yj,zn⟩,Nat.zero_le _,Nat.zero_le _,rfl⟩
theorem V7{gen m:Int}:Fp (uJ gen) (oK gen m):=⟨rfl,rfl,rfl,λ _=>rfl,⟨rfl,rfl,yj,zn⟩,Nat.zero_le _,Nat.zero_le _,rfl⟩
theorem wv{n b:Nat}{xs:List Int}{p:Option Addr}(hn:n=xs.length)(hx:xs.length<=1000):Fp (gu n b xs p) (Yf b xs):=⟨rfl,rfl,rfl,λ _=>rfl,⟨hn,rfl,by show xs.length<=_;omega,zn⟩,hx,Nat.zero_le _,rfl⟩
structure RX where
 L:List aK
 ini:List Int
 pn:Option Addr
 cn:Nat
 pc:Option Addr
 cc:Nat
structure Ex(r:RX)(l:List NI):Prop where
 m:mI r.L l
 ini:r.ini=C0 l
theorem Ex.len{r:RX}{l:List NI}(h:Ex r l):r.L.length=l.length/\r.ini.length=l.length:=⟨h.m.len,by rw[h.ini];simp[C0]⟩
theorem Ex.push{r:RX}{l:List NI}(h:Ex r l){gen m:Int}{n b:Nat}{xs:List Int}{p pn pc:Option Addr}{cn cc:Nat}(hn:n=xs.length)(hx:xs.length<=1000):Ex ⟨r.L++[uJ gen,gu n b xs p],r.ini++[m,0],pn,cn,pc,cc⟩ (l++[oK gen m,Yf b xs]) :=
 ⟨h.m.append (.cons V7 (.cons (wv hn hx) .nil)),by show r.ini++_=_;rw[h.ini];simp[C0,oK,Yf]⟩
theorem Mr{L:List aK}{gen:Int}{b:Nat}{r:Int}{p:Option Addr}{F:Fr}{f:Option Addr×List Value}(hf:f∈aY (L++[uJ gen,gu 1 b [r] p]))(h1:(p,aG [r])∈F)(h2:f∈aY L->f∈F):f.2=[]∨f∈F:=by
 simp only[aY,List.flatMap_append] at hf
 rcases List.mem_append.1 hf with hf|hf
 ·exact .inr (h2 hf)
 ·simp[aK.fr] at hf
  rcases hf with rfl|rfl|rfl|rfl
  ·exact .inl rfl
  ·exact .inl rfl
  ·exact .inr h1
  ·exact .inl rfl
variable{v:aK}{at':Int}{h0 h:Nat}{k:ByteArray}{u gen:Int}{fi lvl:Nat}
abbrev dQ(at':Int)(h0 h:Nat)(v:aK)(k:ByteArray)(u gen:Int)(fi:Nat)(n:Nat):List NI:=dN at' h0 h (v.nd.key,v.nd.val) k u gen fi n (jM h0 h-n)
theorem fq{n:Nat}(hn:n<jM h0 h):dQ at' h0 h v k u gen fi (n+1)=dQ at' h0 h v k u gen fi n++[oK gen ((fi-1+(dQ at' h0 h v k u gen fi n).length:Nat):Int),Yf (dB 0 (sl h (jM h0 h-(n+1)):Int)) [((fi+(dQ at' h0 h v k u gen fi n).length:Nat):Int)]]:=by
 have e:jM h0 h-(n+1)+1=jM h0 h-n:=by omega
 unfold dQ
 rw[dN,e]
theorem pf{x y z:Option Addr}{c a b:Nat}(hc:jM h0 h=11):Ex ⟨[H6 h (A4 [(v.nd.key,v.nd.val),(k,u)]) z c],[0],x,a,y,b⟩ (dQ at' h0 h v k u gen fi 0):=by
 have e:dQ at' h0 h v k u gen fi 0=[Bv h (A4 [(v.nd.key,v.nd.val),(k,u)])]:=by
  unfold dQ dN
  exact if_pos hc
 rw[e]
 exact⟨.cons (ei (Nat.le_trans (Qt _) (by simp))) .nil,rfl⟩
theorem ns{x y p:Option Addr}{a b:Nat}(hc:jM h0 h≠11):Ex ⟨[xS h k u,gu 2 (dB (dB 0 (sl h0 (jM h0 h):Int)) (sl h (jM h0 h):Int)) (two (sl h0 (jM h0 h)) (sl h (jM h0 h)) at' (fi:Int)) p],[0,0],x,a,y,b⟩ (dQ at' h0 h v k u gen fi 0):=by
 have e:dQ at' h0 h v k u gen fi 0=[tU h k u,Yf (dB (dB 0 (sl h0 (jM h0 h):Int)) (sl h (jM h0 h):Int)) (two (sl h0 (jM h0 h)) (sl h (jM h0 h)) at' (fi:Int))]:=by
  unfold dQ dN
  exact if_neg hc
 rw[e]
 exact⟨.cons S9 (.cons (wv (by unfold two;split<;>rfl) (by unfold two;split<;>simp)) .nil),rfl⟩
theorem Xz(hv:v.nd.hash=(h0:Int))(hh0:h0<18446744073709551616)(hh:h<18446744073709551616)(hf1:1<=fi)(hf2:fi<=274877906944)(w:World) :
    Calls Tryz.prog 167 #[.agg ⟨v.nd.cells⟩,.int .i64 at',.int .u64 (h:Int),.string k,.int .u64 u,.int .i64 (lvl:Int),.int .i64 gen,.int .i64 (fi:Int)] w λ e w' =>
      ∃d:RX,e=.returned (.tuple #[.slice d.pn d.L.length d.cn,.slice d.pc d.ini.length d.cc]) /\
      (Ex d (dQ at' h0 h v k u gen fi (jM h0 h-lvl))/\d.L.length<=d.cn/\d.ini.length<=d.cc) /\
      SF w [] [] [] ((d.pn,jC d.L)::(d.pc,aG d.ini)::aY d.L) [] w':=by
  have hcl:=vY h0 h
  refine enter Tryz.func167 Tryz.ntmps167 rfl rfl (SF.s0 w) ?_
  simp only[cR]
  refine J0 ?_;refine bP (λ x8=>?_);refine J8 ?_;refine gN ?_;refine aB ?_;refine aR (cV (hc:=λ w1 hw=>by rw[hv];exact K4 hh0 hh w1)) (λ x26=>?_);refine gK ?_
  refine eL [16,17,18,19,27,28,29,30,31,32,33,34,35,36,37,38,39,40,41,42,43,44,45,46,47,48,49,50,51,52,53,54,55,56,57,58,59] (λ q:RX=>[(16,.slice q.pn q.L.length q.cn),(17,.slice q.pc q.ini.length q.cc),(18,.int .i64 ((jM h0 h:Nat):Int))]) (λ q=>Ex q (dQ at' h0 h v k u gen fi 0)/\q.L.length<=2) (λ q=>[]) (λ q=>aY q.L) (λ q=>[⟨q.pn,jC q.L,q.cn,77,14⟩,⟨q.pc,aG q.ini,q.cc,62,1⟩]) (by decide) (λ _=>by exact rfl) ?_ (λ q f hx=>?_)
  · refine aS ?_
    refine yB ?_;refine lU ?_;refine aI ?_
    refine aZ (λ c28=>?_) (λ c28=>?_)
    · refine gN ?_;refine J3 ?_;refine bD ?_;refine nB ?_;refine bD ?_;refine fT (λ x37=>?_);refine aC (cF (V:=λ x:Option Addr×Nat=>.slice x.1 (A4 [(v.nd.key,v.nd.val),(k,u)]).length x.2) (hc:=λ w1 hw=>ag (l:=[(v.nd.key,v.nd.val),(k,u)]) (hw.cl (.new .head)) (by simp))) (λ x38 h38=>?_);refine tZ ?_;refine bD ?_;refine aR (Na (c:=1) (sz:=14) rfl (λ _=>cS (cs:=jC [H6 h (A4 [(v.nd.key,v.nd.val),(k,u)]) x38.1 x38.2]) pS L9 rfl rfl rfl rfl rfl)) (λ x42=>?_);refine aR (Na (c:=1) (sz:=1) rfl (λ _=>cS (cs:=aG [0]) kM L9 rfl rfl rfl rfl rfl)) (λ x43=>?_);refine J8 ?_;refine dO ?_;refine J1 ?_
      refine gA ((⟨[H6 h (A4 [(v.nd.key,v.nd.val),(k,u)]) x38.1 x38.2],[0],some ⟨x42,0,none⟩,1,some ⟨x43,0,none⟩,1⟩:RX)) ?_ (hw1:=λ w hw=>(hw.Y6.eG λ f hf=>by simp[aY,aK.fr] at hf;rcases hf with rfl|rfl;exact .inl rfl;exact .inr (.head _)).sub (List.nil_sublist _) aX.all (List.Sublist.refl _))
      · have hne:jM h0 h=11:=by omega
        exact⟨pf hne,Nat.le_succ 1⟩
    · refine iF ?_;refine aB ?_;refine bD ?_;refine J3 ?_;refine aB ?_;refine aR (cV (hc:=λ w1 hw=>by rw[hv];exact oF (l:=jM h0 h) hh0 (by omega) w1)) (λ x51=>?_);refine nB ?_;refine aB ?_;refine aR (cV (hc:=λ w1 hw=>oF (l:=jM h0 h) hh (by omega) w1)) (λ x55=>?_);refine aB ?_;refine aC (cF (hc:=λ w1 hw=>dx (tM h0 (jM h0 h)) (tM h (jM h0 h)) (Ig (h:=h0) (k:=h) (by omega)) at' (fi:Int) w1)) (λ x57 h57=>?_);refine aR (Na (c:=2) (sz:=14) rfl (λ _=>cS (cs:=jC [xS h k u,gu 2 (dB (dB 0 (sl h0 (jM h0 h):Int)) (sl h (jM h0 h):Int)) (two (sl h0 (jM h0 h)) (sl h (jM h0 h)) at' (fi:Int)) x57]) pS L9 rfl rfl rfl rfl rfl)) (λ x58=>?_);refine J1 ?_;refine dO ?_;refine aR (Na (c:=2) (sz:=1) rfl (λ _=>cS (cs:=aG [0,0]) kM L9 rfl rfl rfl rfl rfl)) (λ x59=>?_);refine J1 ?_
      refine gA ((⟨[xS h k u,gu 2 (dB (dB 0 (sl h0 (jM h0 h):Int)) (sl h (jM h0 h):Int)) (two (sl h0 (jM h0 h)) (sl h (jM h0 h)) at' (fi:Int)) x57],[0,0],some ⟨x58,0,none⟩,2,some ⟨x59,0,none⟩,2⟩:RX)) ?_ (hw1:=λ w hw=>(hw.Y6.eG λ f hf=>by simp[aY,aK.fr] at hf;rcases hf with rfl|rfl|rfl|rfl;exact .inl rfl;exact .inl rfl;exact .inr (.head _);exact .inl rfl).sub (List.nil_sublist _) aX.all (List.Sublist.refl _))
      · have hne:jM h0 h≠11:=by omega
        exact⟨ns hne,Nat.le_refl 2⟩
  dsimp only[gG,List.map,List.cons_append,List.nil_append]
  refine kT ?_;refine oP ?_;refine J1 ?_;refine bV ?_
  have hq2:=hx.1.len
  refine mP [16,17,20,21,22,62,63,64,65,66,67,68,69,70,71,72,73,74,75,76,77,78,79,80,81,82,83,84,85,86,87,88,89] (λ y:Nat×RX=>[(16,.slice y.2.pn y.2.L.length y.2.cn),(17,.slice y.2.pc y.2.ini.length y.2.cc),(20,.int .i64 (((jM h0 h-y.1:Nat):Int)-1))]) (λ y=>y.1<=jM h0 h-lvl/\Ex y.2 (dQ at' h0 h v k u gen fi y.1)/\y.2.L.length<=2+2*y.1) (λ _=>_) (λ y=>aY y.2.L) (λ y=>[⟨y.2.pn,jC y.2.L,y.2.cn,77,14⟩,⟨y.2.pc,aG y.2.ini,y.2.cc,62,1⟩]) (λ y=>jM h0 h-lvl-y.1) ((0,q)) (⟨Nat.zero_le _,hx⟩) (λ y f hx=>?_) (hw0:=λ w hw=>hw.sub (List.Sublist.refl _) aX.all (List.Sublist.refl _))
  dsimp only[gG,List.map,List.cons_append,List.nil_append]
  obtain⟨hy1,hy2,hy3⟩:=hx
  obtain⟨hy4,hy5⟩:=hy2.len
  refine Gi ?_;refine lU ?_;refine aI ?_
  refine aZ (λ c64=>?_) (λ c64=>?_)
  · obtain⟨lv,elv⟩:∃lv:Nat,jM h0 h-(y.1+1)=lv:=⟨_,rfl⟩
    have elv2:(((jM h0 h-y.1:Nat):Int)-1)=(lv:Int):=by omega
    have hlv2:lv<=10:=by omega
    refine oW ?_;refine iF ?_;refine dF ?_;refine aE (mL rf rf (by omega)) rfl ?_;refine aE (iJ (n:=1) rf rf (by omega) (by omega)) rfl ?_;refine tZ ?_;refine aR (cV (hc:=λ w1 hw=>Av elv2 hh hlv2 w1)) (λ x74=>?_);refine tZ ?_;refine bD ?_;refine aB ?_;refine aR (cV (hc:=λ w1 hw=>lD (n:=0) (by decide) (sl h lv:Int) w1)) (λ x79=>?_);refine aB ?_;refine aE (mL (n:=1) rf rf (by omega)) rfl ?_;refine aR (Lq (λ _=>cS (cs:=aG [((fi+y.2.L.length-1+1:Nat):Int)]) kM L9 rfl rfl rfl rfl rfl)) (λ x82=>?_);refine bD ?_;refine aR (Lq (λ _=>cS (cs:=jC [uJ gen,gu 1 (dB 0 (sl h lv:Int)) [((fi+y.2.L.length-1+1:Nat):Int)] (some ⟨x82,0,none⟩)]) pS L9 rfl rfl rfl rfl rfl)) (λ x84=>?_);(refine aR (bH.fG (Ut (k:=2) (L2:=[uJ gen,gu 1 (dB 0 (sl h lv:Int)) [((fi+y.2.L.length-1+1:Nat):Int)] (some ⟨x82,0,none⟩)]) rf rf A5 rfl fin rfl Ux rfl fK (by omega)) yA) (λ x85=>?_);try (refine eX (λ h85=>?_)));refine J1 ?_;refine Mc ?_;refine aR (Lq (λ _=>cS (cs:=aG [((fi+y.2.L.length-1:Nat):Int),0]) kM L9 rfl rfl rfl rfl rfl)) (λ x88=>?_);(refine aR (bH.fG (Oy (k:=2) (l2:=[((fi+y.2.L.length-1:Nat):Int),0]) rf rf A5 rfl fin rfl U3 fK (by omega)) yA) (λ x89=>?_);try (refine eX (λ h89=>?_)));refine J1 ?_;refine eV ?_;refine yB ?_;refine oP ?_;refine J1 ?_
    refine gI ((y.1+1,(⟨y.2.L++[uJ gen,gu 1 (dB 0 (sl h lv:Int)) [((fi+y.2.L.length-1+1:Nat):Int)] (some ⟨x82,0,none⟩)],y.2.ini++[((fi+y.2.L.length-1:Nat):Int),0],x85.1,x85.2,x89.1,x89.2⟩:RX))) ?_ (hw1:=λ w hw=>hw.eG λ f hf=>Mr hf (.tail _ (.tail _ (.head _))) (λ hf=>.tail _ (.tail _ (.tail _ hf))))
    · refine⟨by omega,?_,by simp only[List.length_append,List.length_cons,List.length_nil];omega⟩
      have e1:dQ at' h0 h v k u gen fi (y.1+1)=dQ at' h0 h v k u gen fi y.1++[oK gen ((fi+y.2.L.length-1:Nat):Int),Yf (dB 0 (sl h lv:Int)) [((fi+y.2.L.length-1+1:Nat):Int)]]:=by
       rw[fq (by omega),elv,<- hy4,show fi-1+y.2.L.length=fi+y.2.L.length-1 by omega,show fi+y.2.L.length-1+1=fi+y.2.L.length by omega]
      rw[e1]
      exact hy2.push rfl (by simp)
  · have en:y.1=jM h0 h-lvl:=by omega
    refine bG rfl ?_;refine iF ?_;refine J8 ?_
    refine bJ Tryz.results167 (λ w hw=>?_)
    refine⟨y.2,rfl,⟨?_,?_,?_⟩,?_⟩
    · rw[<- en]
      exact hy2
    · exact hw.M4 .head
    · exact hw.uo (.tail .head)
    · exact((hw.freeze .head).freeze .head).vr.ret (List.nil_sublist _) aX.all (List.nil_sublist _)
end

/- The procedures with shared cells, as trees. -/
end Go.Proofs.YtadnboagdhcedaaGreatDoor
namespace Go.Ct
section
def NI.c0(a:NI):Nv:=a.n.c a.xs a.ys
end
end Go.Ct
namespace Go.Proofs.YtadnboagdhcedaaGreatDoor
section
open Go.RowKit Go.Ct
structure eQ where
 root:Int
 ro:Bool
structure Cl where
 kind:Int
 t:eQ
 a:Int
 b:Int
 n:Int
 index:Int
 hash:Int
 mask:Int
 key:ByteArray
 val:Int
 exp:Int
 pol:Int
 only:Bool
def fM(h:Nat)(level:Int):Int:=if level<0∨10<level then 0 else(sl h level.toNat:Int)
def Au(p:Int):Nv:=({Nd.zero with kind:=7,bL:=p}:Nd).c [] []
def lG(g:Int):Nv:=({Nd.zero with kind:=2,gen:=g}:Nd).c [] []
def zT(a b c:Int):Nv:=({Nd.zero with kind:=8,bL:=a,exp:=b,new:=c}:Nd).c [] []
def Cx(h:Int)(k:ByteArray)(u:Int):Nv:=({Nd.zero with kind:=4,hash:=h,key:=k,val:=u}:Nd).c [] []
def Ca:Nv:=({Nd.zero with kind:=3}:Nd).c [] []
def n0(v s:Int)(K:Int->Tr):Tr:=.node v λ n=>K (if s=1 then n.new else n.bL)
def E1(t:eQ)(v s:Int)(K:Int->Tr):Tr:=n0 v s λ w=>.nW t.root v w λ _=>K w
def Pg(t:eQ)(K:Int->Tr):Tr:=.load t.root λ v=>.node v λ n=>if n.kind=2 then K v else .node v λ n=>.load n.status λ s =>
 if s=0 then .node v λ n=>.nW n.status 0 2 λ _=>.node v λ n=>.load n.status λ s=>E1 t v s K else E1 t v s K
def Yo(i m p:Int)(K:Int->Tr):Tr:=.node i λ ni=>.node p λ np=>.nW ni.main m np.bL λ _=>.node p λ np=>K np.bL
def tQ(i m:Int)(K:Int->Tr):Tr:=.node m λ nm=>.load nm.prev λ p=>if p=0 then K m else Yo i m p K
def Bo(i m p:Int)(c:Bool)(K:Int->Tr):Tr :=
 if c=true then .node m λ nm=>.nW nm.prev p 0 λ _=>tQ i m K
 else .node m λ nm=>.alloc (Au p) 0 λ f=>.nW nm.prev p f λ _=>tQ i m K
def uN(t:eQ)(i m:Int)(K:Int->Tr):Tr:=.node m λ nm=>.load nm.prev λ p=>if p=0 then K m else .node p λ np =>
 if bU np then(if t.ro=true then Bo i m p false K else Pg t λ r=>.node r λ nr=>.node i λ ni=>Bo i m p (nr.gen==ni.gen) K)
 else Yo i m p K
def kX(t:eQ)(i:Int)(K:Int->Tr):Tr:=.node i λ ni=>.load ni.main λ m=>uN t i m K
def uG(t:eQ)(v:Int)(K:Tr):Tr:=.node v λ n=>kX t n.bL λ r=>.node v λ n2=>.node v λ n3=>.nW n3.status 0 (if r=n2.exp then 1 else 2) λ _=>K
def rH(t:eQ)(K:Int->Tr):Tr:=.load t.root λ v=>.node v λ n=>if n.kind=2 then K v else .node v λ n=>.load n.status λ s =>
 if s=0 then uG t v (.node v λ n=>.load n.status λ s=>E1 t v s K) else E1 t v s K
def mA(t:eQ)(i bL n:Int)(K:Bool->Tr):Tr:=.node i λ ni=>.nW ni.main bL n λ b=>if b=true then uN t i n λ m=>K (m==n) else K false
def tD(t:eQ)(bL exp new:Int)(K:Bool->Tr):Tr:=.alloc (zT bL exp new) 0 λ d=>.nW t.root bL d λ b =>
 if b=true then uG t d (.node d λ nd=>.load nd.status λ s=>E1 t d s λ _=>K (s==1)) else K false
def Cq(c index r:Int)(K:Int->Tr):Tr:=.node c λ nc=>.alloc (Np nc index r) c K
def Gw(t:eQ)(i c index:Int)(K:Int->Tr):Tr:=.node c λ nc=>kX t ((jF nc index).getD 0) λ m=>.node i λ ni=>.alloc (lG ni.gen) m λ j =>
 Cq c index j λ r=>mA t i c r λ ok=>K (if ok=true then j else 0)
def vP(t:eQ)(parent child:Int)(h:Nat)(level:Int)(K:Bool->Tr):Tr:=kX t parent λ m=>.node m λ nm =>
 if jF nm (fM h level)=some child then kX t child λ mc=>.node mc λ nmc =>
  if nmc.kind=5 then .alloc (sr nmc) 0 λ s=>.node m λ nm2=>.alloc (oy (Np nm2 (fM h level) s) level (sr nmc)) m λ r=>mA t parent m r K
  else K false
 else K false
def hZ(f:Bool)(v:Int):Rs:=⟨0,f,v,⟨#[]⟩,0,0,0,false⟩
def pF(f:Bool)(v:Int):Rs:=⟨0,f,v,⟨#[]⟩,1,0,0,false⟩
def Ae(t:eQ)(h:Nat)(key:ByteArray)(K:Rs->Tr):Nat->Int->Int->Tr
 | 0,_,_=>.stuck
 | n+1,i,level=>kX t i λ mr=>.node mr λ m =>
  if m.kind=5 then(if m.key=key then K (hZ true m.val) else K (hZ false 0))
  else if m.kind=6 then K (hZ (dA m.ys key).isSome ((dA m.ys key).getD 0))
  else match jF m (fM h level) with
   | none=>K (hZ false 0)
   | some b=>.node b λ s=>if s.kind=4 then(if s.key=key then K (hZ true s.val) else K (hZ false 0)) else Ae t h key K n b (level+1)
def mD(c:Cl)(found:Bool)(v:Int):Bool:=if c.pol=1 then !found else if c.pol=2 then found else if c.pol=3 then found&&v==c.exp else true
def xT:List NI->Int->(Int->Tr)->Tr
 | [],r,K=>K r
 | a::l,_,K=>.alloc a.c0 a.init λ r=>xT l r K
def dP(at_:Int)(h0 h:Nat)(p:Pr)(k:ByteArray)(u gen:Int)(fi lvl:Nat):List NI:=dN at_ h0 h p k u gen fi (jM h0 h-lvl) (jM h0 h-(jM h0 h-lvl))
def Qd(c:Cl)(b:Int)(h:Nat)(level:Nat)(gen:Int)(K:Int->Tr):Tr:=.node b λ nb =>
 .alloc ((dP b nb.hash.toNat h (nb.key,nb.val) c.key c.val gen 0 level).headD NI.no).c0 ((dP b nb.hash.toNat h (nb.key,nb.val) c.key c.val gen 0 level).headD NI.no).init λ f =>
 xT (dP b nb.hash.toNat h (nb.key,nb.val) c.key c.val gen f.toNat level).tail f K
def kF(c:Cl)(i m:Int)(h:Nat)(level:Nat)(gen:Int)(K:Rs->Int->Tr):Tr:=.node m λ n =>
 if n.kind=6 then
  (if mD c (dA n.ys c.key).isSome ((dA n.ys c.key).getD 0)=true then
   .alloc (ox n c.key c.val) m λ r=>mA c.t i m r λ ok=>K (pF (dA n.ys c.key).isSome ((dA n.ys c.key).getD 0)) (if ok=true then 1 else 0)
  else K (hZ (dA n.ys c.key).isSome ((dA n.ys c.key).getD 0)) 1)
 else match jF n (fM h level) with
  | none=>if mD c false 0=true then .alloc (Cx h c.key c.val) 0 λ s=>.alloc (qe n (fM h level) s) m λ r=>mA c.t i m r λ ok=>K (pF false 0) (if ok=true then 1 else 0) else K (hZ false 0) 1
  | some b=>.node b λ nb=>if nb.kind=2 then K Rs.zero 2 else
   if nb.key=c.key then
    (if mD c true nb.val=true then .alloc (Cx h c.key c.val) 0 λ s=>Cq m (fM h level) s λ r=>mA c.t i m r λ ok=>K (pF true nb.val) (if ok=true then 1 else 0)
    else K (hZ true nb.val) 1)
   else
    (if mD c false 0=true then Qd c b h (level+1) gen λ d=>.alloc (lG gen) d λ j=>Cq m (fM h level) j λ r=>mA c.t i m r λ ok=>K (pF false 0) (if ok=true then 1 else 0)
    else K (hZ false 0) 1)
def Ee(c:Cl)(i m index gen:Int)(K:Int->Tr):Tr:=.node m λ nm=>.node ((jF nm index).getD 0) λ nb=>if nb.gen=gen then K ((jF nm index).getD 0) else Gw c.t i m index K
def zP(c:Cl)(h:Nat)(K:Rs->Tr)(again:Tr)(gen:Int):Nat->Int->Int->Nat->Tr
 | 0,_,_,_=>.stuck
 | n+1,i,parent,level=>kX c.t i λ m=>.node m λ nm =>
  if nm.kind=5 then vP c.t parent i h ((level:Int)-1) λ _=>again
  else kF c i m h level gen λ r what=>if what=1 then K r else if what=0 then again else
   Ee c i m (fM h level) gen λ b=>if b=0 then again else zP c h K again gen n b i (level+1)
def yG(c:Cl)(h:Nat)(K:Rs->Tr):Nat->Tr
 | 0=>.stuck
 | n+1=>rH c.t λ i=>.node i λ ni=>zP c h K (yG c h K n) ni.gen n i 0 0
def iU(c:Cl)(i m:Int)(h:Nat)(level:Nat)(K:Rs->Int->Tr):Tr:=.node m λ n =>
 if n.kind=6 then
  (if(dA n.ys c.key).isSome=false∨(c.only=true/\(dA n.ys c.key).getD 0≠c.exp) then K (hZ (dA n.ys c.key).isSome ((dA n.ys c.key).getD 0)) 1
  else .alloc (cf n c.key) m λ r=>mA c.t i m r λ ok=>K (pF true ((dA n.ys c.key).getD 0)) (if ok=true then 1 else 0))
 else match jF n (fM h level) with
  | none=>K (hZ false 0) 1
  | some b=>.node b λ s=>if s.kind=2 then K Rs.zero 2 else if s.key≠c.key then K (hZ false 0) 1 else if c.only=true/\s.val≠c.exp then K (hZ true s.val) 1
   else .node ((Iq (I9 n (fM h level))).getD 0) λ so=>.alloc (oy (I9 n (fM h level)) level so) m λ r=>mA c.t i m r λ ok=>K (pF true s.val) (if ok=true then 1 else 0)
def kw(t:eQ)(path:List Int)(h:Nat)(K:Tr):Nat->Tr
 | 0=>K
 | l+1=>kX t (path.getD (l+1) 0) λ m=>.node m λ nm=>if nm.kind=5 then vP t (path.getD l 0) (path.getD (l+1) 0) h (l:Int) λ _=>kw t path h K l else K
def tS(c:Cl)(h:Nat)(K:Rs->Tr)(again:Tr)(gen:Int):Nat->Int->List Int->Nat->Tr
 | 0,_,_,_=>.stuck
 | n+1,i,path,level=>kX c.t i λ m=>.node m λ nm =>
  if nm.kind=5 then vP c.t (path.getD (level-1) 0) i h ((level:Int)-1) λ _=>again
  else iU c i m h level λ r what=>if what=1 then(if r.eE=1 then kw c.t path h (K r) (path.length-1) else K r) else if what=0 then again else
   Ee c i m (fM h level) gen λ b=>if b=0 then again else tS c h K again gen n b (path++[b]) (level+1)
def pJ(c:Cl)(h:Nat)(K:Rs->Tr):Nat->Tr
 | 0=>.stuck
 | n+1=>rH c.t λ i=>.node i λ ni=>tS c h K (pJ c h K n) ni.gen n i [i] 0
def En(root:Int)(ro:Bool):Rs:=⟨0,true,0,⟨#[]⟩,0,0,root,ro⟩
def F7(m:Int)(K:Rs->Tr):Tr:=.gen λ g=>.alloc (lG g) m λ r=>.cell r λ c=>K (En c false)
def Dn(t:eQ)(fz:Bool)(K:Rs->Tr):Nat->Tr
 | 0=>.stuck
 | n+1=>rH t λ r=>kX t r λ m=>.gen λ g=>.alloc (lG g) m λ j=>tD t r m j λ ok =>
  if ok=true then(if fz=true then .cell r λ c=>K (En c true) else F7 m K) else Dn t fz K n
def qM(t:eQ)(fz:Bool)(K:Rs->Tr)(n:Nat):Tr :=
 if t.ro=true then .load t.root λ r=>if fz=true then .cell r λ c=>K (En c true) else kX t r λ m=>F7 m K
 else Dn t fz K n
def sQ(t:eQ)(K:Rs->Tr):Nat->Tr
 | 0=>.stuck
 | n+1=>rH t λ r=>kX t r λ m=>.alloc Ca 0 λ c=>.gen λ g=>.alloc (lG g) c λ j=>tD t r m j λ ok =>
  if ok=true then K (hZ true 0) else sQ t K n
def Ib(r:Int)(f:Bool):Rs:=⟨0,f,0,⟨#[]⟩,0,r,0,false⟩
def refuse(c:Cl):Int:=if c.kind=7∨c.kind=9 then(if c.key.size<=64 then 0 else 1) else if c.kind=8 then(if c.key.size<=64/\0<=c.pol/\c.pol<=3 then 0 else 1) else 0
def kO(c:Cl)(h:Nat)(n:Nat):Tr :=
 if refuse c≠0 then .done {Rs.zero with err:=refuse c}
 else if c.kind=1 then kX c.t c.a λ r=>.done (Ib r false)
 else if c.kind=2 then mA c.t c.a c.b c.n λ ok=>.done (Ib 0 ok)
 else if c.kind=3 then rH c.t λ r=>.done (Ib r false)
 else if c.kind=4 then tD c.t c.a c.b c.n λ ok=>.done (Ib 0 ok)
 else if c.kind=7 then rH c.t λ i=>Ae c.t h c.key .done n i 0
 else if c.kind=8 then yG c h .done n
 else if c.kind=9 then pJ c h .done n
 else if c.kind=10 then qM c.t false .done n
 else if c.kind=11 then qM c.t true .done n
 else sQ c.t .done n
end

/- An execution of the reference: its block, its own lists; the rules for calls of its methods. -/
section
open Go Go.RowKit Go.Ct
def xoC(k:Cl)(bm:Nat)(x:XS)(dn:Bool)(rs:Rs):List Value:=[.pointer (some ⟨bm,0,none⟩),
 .int .i64 k.kind,.int .i64 k.t.root,.bool k.t.ro,.int .i64 k.a,.int .i64 k.b,.int .i64 k.n,.int .i64 k.index,.int .u64 k.hash,.int .u64 k.mask,.string k.key,.int .u64 k.val,.int .u64 k.exp,.int .i64 k.pol,.bool k.only,
 .bool false,.slice none 0 0,.slice none 0 0,.int .i64 0,.bool false,.int .u64 0,.string ⟨#[]⟩,.int .i64 0,.int .i64 0,.int .i64 0,.bool false,
 .slice x.pg x.got.length x.kg,.slice x.pm x.made.length x.km,.slice x.pl x.cel.length x.kl,.slice x.pe x.gns.length x.ke,
 .int .i64 ((x.a:Nat):Int),.int .i64 ((x.m:Nat):Int),.int .i64 ((x.c:Nat):Int),.int .i64 ((x.g:Nat):Int),.int .i64 ((x.fr:Nat):Int),.bool x.st,
 .int .i64 x.nx.k,.int .i64 x.nx.c,.int .i64 x.nx.o,.int .i64 x.nx.n,.bool dn,
 .int .i64 rs.err,.bool rs.found,.int .u64 rs.val,.string rs.key,.int .i64 rs.eE,.int .i64 rs.ref,.int .i64 rs.root,.bool rs.ro,
 .bool false,.slice none 0 0,.slice none 0 0]
abbrev xO(k:Cl)(bm:Nat)(x:XS)(dn:Bool)(rs:Rs):Obj:=.cells ⟨xoC k bm x dn rs⟩ 115 (0,0)
abbrev xM(x:XS):Obj:=mO x.L x.cs x.gen x.acc x.pn x.cn x.pc x.cc
abbrev xW(x:XS):List Ow:=[⟨x.pg,aG x.got,x.kg,62,1⟩,⟨x.pm,aG x.made,x.km,62,1⟩,⟨x.pl,aG x.cel,x.kl,27,1⟩,⟨x.pe,aG x.gns,x.ke,3,1⟩,⟨x.pn,jC x.L,x.cn,77,14⟩,⟨x.pc,aG x.cs,x.cc,62,1⟩]
abbrev xH(k:Cl)(bx bm:Nat)(x:XS)(dn:Bool)(rs:Rs):List (Nat×Obj):=[(bx,xO k bm x dn rs),(bm,xM x)]
theorem xm{w0 w:World}{D:List Nat}{k:Cl}{bx bm:Nat}{x:XS}{dn:Bool}{rs:Rs}{A F:Fr}(h:SF w0 D (xH k bx bm x dn rs) A F (xW x) w) :
  SF w0 D [(bx,.cells ⟨[.pointer (some ⟨bm,0,none⟩),
 .int .i64 k.kind,.int .i64 k.t.root,.bool k.t.ro,.int .i64 k.a,.int .i64 k.b,.int .i64 k.n,.int .i64 k.index,.int .u64 k.hash,.int .u64 k.mask,.string k.key,.int .u64 k.val,.int .u64 k.exp,.int .i64 k.pol,.bool k.only,
 .bool false,.slice none 0 0,.slice none 0 0,.int .i64 0,.bool false,.int .u64 0,.string ⟨#[]⟩,.int .i64 0,.int .i64 0,.int .i64 0,.bool false,
 .slice x.pg x.got.length x.kg,.slice x.pm x.made.length x.km,.slice x.pl x.cel.length x.kl,.slice x.pe x.gns.length x.ke,
 .int .i64 ((x.a:Nat):Int),.int .i64 ((x.m:Nat):Int),.int .i64 ((x.c:Nat):Int),.int .i64 ((x.g:Nat):Int),.int .i64 ((x.fr:Nat):Int),.bool x.st,
 .int .i64 x.nx.k,.int .i64 x.nx.c,.int .i64 x.nx.o,.int .i64 x.nx.n,.bool dn,
 .int .i64 rs.err,.bool rs.found,.int .u64 rs.val,.string rs.key,.int .i64 rs.eE,.int .i64 rs.ref,.int .i64 rs.root,.bool rs.ro,
 .bool false,.slice none 0 0,.slice none 0 0]⟩ 115 (0,0)),(bm,mO x.L x.cs x.gen x.acc x.pn x.cn x.pc x.cc)] A F [⟨x.pg,aG x.got,x.kg,62,1⟩,⟨x.pm,aG x.made,x.km,62,1⟩,⟨x.pl,aG x.cel,x.kl,27,1⟩,⟨x.pe,aG x.gns,x.ke,3,1⟩,⟨x.pn,jC x.L,x.cn,77,14⟩,⟨x.pc,aG x.cs,x.cc,62,1⟩] w:=h
theorem cA{w0 w:World}{D:List Nat}{k:Cl}{bx bm:Nat}{x:XS}{dn:Bool}{rs:Rs}{A F:Fr}(h:SF w0 D (xH k bx bm x dn rs) A F (xW x) w) :
  SF w0 D [(bx,.cells ⟨xoC k bm x dn rs⟩ 115 (0,0)),(bm,mO x.L x.cs x.gen x.acc x.pn x.cn x.pc x.cc)] A F [⟨x.pg,aG x.got,x.kg,62,1⟩,⟨x.pm,aG x.made,x.km,62,1⟩,⟨x.pl,aG x.cel,x.kl,27,1⟩,⟨x.pe,aG x.gns,x.ke,3,1⟩,⟨x.pn,jC x.L,x.cn,77,14⟩,⟨x.pc,aG x.cs,x.cc,62,1⟩] w:=h
end

/- A store of several cells into a known block. -/
end Go.Proofs.YtadnboagdhcedaaGreatDoor
namespace Go.Ct
section
open Go Go.RowKit
section
variable{P:Program}{n:Nat}{ds:List Deferred}{Q:Exit->Act->World->Prop}{ks:List CK}{S:List (Nat×Value)}{G:World->Prop}{ops:Array Oper}{l:List Oper}
variable{w0:World}{M:List Nat}{H:List (Nat×Obj)}{A F:Fr}{O:List Ow}
variable{d:Nat}{ty t:TypeId}{pos:String}{af:Array Edge}{gd:Option (Nat×Bool)}{dst:Option Nat}{x y:Operand}{v:Value}{w w':World}
theorem zS{b off i:Nat}{vs bL cs:List Value}{T:TypeId}{H':List (Nat×Obj)}(hx:ev S x=.pointer (some ⟨b,off,none⟩))(ha:At H i b (.cells ⟨bL⟩ T (0,0)))(hy:ev S y=.agg ⟨vs⟩)(h1:vs.all (·.oneCell')=true)
  (ht:kZ P t vs.length=true) (hl:off+vs.length<=bL.length) (hcs:bL.take off++vs++bL.drop (off+vs.length)=cs) (hH:setAt H i (.cells ⟨cs⟩ T (0,0))=H') :
  bH P S (St w0 M H) ⟨none,.store t x y,ty,pos,af,gd⟩ Unit (λ _=>undef) (λ _=>St w0 M H') :=
 uF (λ w hw=>by
  subst hH hcs
  have hb:=hw.at ha
  obtain⟨dd,hu,hm,hi⟩:=iP ht
  have hst:=run_storeCells_at (P:=P) b off T vs 0 ⟨bL⟩ w hb (by simpa using hl) (by simpa using h1)
  simp only[Nat.add_zero] at hst
  refine⟨w.setRow b ⟨bL.take off++vs++bL.drop (off+vs.length)⟩,?_,hw.write ha rfl rfl rfl (by simp) (λ k hk=>setRow_other w b k _ hk) (setRow_heap w b ⟨bL⟩ _ T (0,0) hb)⟩
  cases hq':P.info? t with
  | none=>rw[hq'] at hi;simp at hi
  | some inf =>
   have hs:inf.size=vs.length:=by rw[hq'] at hi;simpa using hi
   simp[execOp,hx,hy,Instr.storeAt,Instr.sureAddr,storeVar,sizeOf,typeInfo,hq',hs,Value.cells,hst])
end
end

end Go.Ct

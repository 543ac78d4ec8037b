/- The reference of dual: the nodes that are allocated for two keys. -/
import Derived.Test.YtadnboagdhcedaaGreatDoorGArS
import Derived.Test.YtadnboagdhcedaaGreatDoorGBr2
import Derived.Test.YtadnboagdhcedaaGreatDoorGPa1
import Derived.Test.YtadnboagdhcedaaGreatDoorGNode2
import Derived.Test.YtadnboagdhcedaaGreatDoorGSh6
import Derived.Test.YtadnboagdhcedaaGreatDoorGLst3

set_option linter.unusedSimpArgs false
set_option linter.unusedVariables false
namespace Go.Ct
section
open Go Go.RowKit
def two(i k:Nat)(x s:Int):List Int:=if i<k then [x,s] else [s,x]
structure NI where
 n:Nd
 xs:List Int
 ys:List Pr
 init:Int
def AX.no:AX:=⟨none,0,none,0,none,0,none,0⟩
def NI.c(a:NI)(c:Nat):Nv:=(lW a.n a.xs a.ys c AX.no).c
abbrev Fo(h:Nat)(ys:List Pr):NI:=⟨{Nd.zero with kind:=6,hash:=(h:Int)},[],ys,0⟩
abbrev wJ(h:Nat)(k:ByteArray)(u:Int):NI:=⟨{Nd.zero with kind:=4,hash:=(h:Int),key:=k,val:=u},[],[],0⟩
abbrev qZ(gen m:Int):NI:=⟨{Nd.zero with kind:=2,gen:=gen},[],[],m⟩
abbrev bj(b:Nat)(xs:List Int):NI:=⟨{Nd.zero with kind:=3,bm:=(b:Int)},xs,[],0⟩
def NI.no:NI:=⟨Nd.zero,[],[],0⟩
structure I7(v:aI)(a:NI):Prop where
 xs:v.xs=a.xs
 ys:v.ys=a.ys
 kind:v.nd.kind=a.n.kind
 c:∀k,(lW v.nd v.xs v.ys k AX.no).c=a.c k
 fit:v.Fit
 sx:v.xs.length<=1000
 sy:v.ys.length<=1000
 c0:v.c=a.n.c a.xs a.ys
inductive oZ:List aI->List NI->Prop where
 | nil:oZ [] []
 | cons {v:aI} {a:NI} {L:List aI} {l:List NI} (h:I7 v a) (hr:oZ L l):oZ (v::L) (a::l)
theorem oZ.len{L:List aI}{l:List NI}(h:oZ L l):L.length=l.length:=by
 induction h with
 | nil=>rfl
 | cons _ _ ih=>simp[ih]
theorem oZ.append{L M:List aI}{l m:List NI}(h:oZ L l)(h2:oZ M m):oZ (L++M) (l++m):=by
 induction h with
 | nil=>exact h2
 | cons h _ ih=>exact .cons h ih
theorem oZ.at{L:List aI}{l:List NI}(h:oZ L l){i:Nat}(hi:i<L.length):∃a,l[i]?=some a/\I7 (L.getD i aI.zero) a:=by
 induction h generalizing i with
 | nil=>simp at hi
 | @cons v a L l h _ ih =>
  cases i with
  | zero=>exact⟨a,rfl,h⟩
  | succ i =>
   obtain⟨b,h1,h2⟩:=ih (i:=i) (by simpa using hi)
   exact⟨b,by simpa using h1,by simpa using h2⟩
def F3(l:List NI):List Int:=l.map NI.init
theorem SF.aBA{w0 w:World}{M:List Nat}{H:List (Nat×Obj)}{A F:Fr}{O:List Ow}{f1 f2:Option Addr×List Value}(h:SF w0 M H A (f1::f2::F) O w):SF w0 M H A (f2::f1::F) O w:=h.fN λ f hf=>.inr (by
 simp only[List.mem_cons] at hf ⊢
 rcases hf with h|h|h
 ·exact .inr (.inl h)
 ·exact .inl h
 ·exact .inr (.inr h))
theorem SF.aBY{w0 w:World}{M:List Nat}{H:List (Nat×Obj)}{A F:Fr}{O:List Ow}{i c:Nat}{p:Option Addr}(h:SF w0 M H A F O w){l:List Int}{T:TypeId}(ho:uN O i p (aH l) c T 1):l.length<=c:=by
 rcases(h.own _ ho.mem).1 with⟨_,h2,_⟩|⟨b,rest,_,_,h3⟩
 ·have h2':aH l=[]:=h2;have:(aH l).length=0:=by rw[h2'];rfl
  rw[gV] at this
  omega
 ·have h3':(aH l++rest).length=c*1:=h3;rw[List.length_append,gV] at h3';omega
end
end Go.Ct
namespace Go.Proofs.YtadnboagdhcedaaGreatDoor
section
open Go Go.RowKit Go.Ct
def dN(x:Int)(h0 h:Nat)(p0:Pr)(k:ByteArray)(u gen:Int)(f:Nat):Nat->Nat->List NI
 | 0,lvl=>if lvl=11 then [Fo h (Eh [p0,(k,u)])] else [wJ h k u,bj (eL (eL 0 (sl h0 lvl:Int)) (sl h lvl:Int)) (two (sl h0 lvl) (sl h lvl) x (f:Int))]
 | n+1,lvl=>dN x h0 h p0 k u gen f n (lvl+1)++[qZ gen ((f-1+(dN x h0 h p0 k u gen f n (lvl+1)).length:Nat):Int),bj (eL 0 (sl h lvl:Int)) [((f+(dN x h0 h p0 k u gen f n (lvl+1)).length:Nat):Int)]]
theorem Ue{x:Int}{h0 h:Nat}{p0:Pr}{k:ByteArray}{u gen:Int}{f:Nat}:∀n lvl,(dN x h0 h p0 k u gen f n lvl).length<=2+2*n
 | 0,lvl=>by
  unfold dN
  split<;>simp
 | n+1,lvl=>by
  have:=Ue (x:=x) (h0:=h0) (h:=h) (p0:=p0) (k:=k) (u:=u) (gen:=gen) (f:=f) n (lvl+1);unfold dN;simp only[List.length_append,List.length_cons,List.length_nil]
  omega
theorem th{i k:Nat}(hi:i<64)(hk:k<64)(hne:i≠k)(a b:Int)(w:World) :
  Calls Tryz.prog 175 #[.int .i64 (i:Int),.int .i64 a,.int .i64 (k:Int),.int .i64 b] w λ e w'=>∃p:Option Addr,e=.returned (.agg ⟨[.int .i64 3,.int .i64 0,.int .i64 0,.int .u64 ((eL (eL 0 (i:Int)) (k:Int):Nat):Int),.slice p 2 2,.int .u64 0,.string ⟨#[]⟩,.int .u64 0,.slice none 0 0,.int .i64 0,.int .i64 0,.int .i64 0,.int .i64 0,.int .i64 0]⟩)/\True/\SF w [] [] [] [(p,aH (two i k a b))] [] w':=by
 refine enter Tryz.func175 Tryz.ntmps175 rfl rfl (SF.s0 w) ?_;simp only[cP]
 refine J0 ?_;refine aT (λ x8=>?_);refine aK ?_;refine J2 ?_;refine aS (cV (hc:=λ w1 hw=>nT (n:=0) (by decide) (i:Int) w1)) (λ x11=>?_);refine aB ?_;refine aS (cV (hc:=λ w1 hw=>nT (n:=eL 0 (i:Int)) (A1 (by decide) _) (k:Int) w1)) (λ x13=>?_);refine pK ?_;refine fD (λ x16=>?_);refine bQ ?_;refine aT (λ x9=>?_);refine J5 ?_;refine B8 ?_;refine rJ ?_;refine bA (λ c20=>?_) (λ c20=>?_)
 ·refine Il ?_;refine fD (λ x23=>?_);refine zV ?_;refine Kb5 ?_;refine bK Tryz.results175 (λ w hw=>?_);first
  | exact⟨some ⟨x23,0,none⟩,rfl,trivial,by rw[show two i k a b=[b,a] from if_neg (by omega)];exact hw.ret (List.nil_sublist _) (aP.kJ λ f hf=>by rw[List.mem_singleton.1 hf];exact .head _) (List.Sublist.refl _)⟩
  | exact⟨some ⟨x16,0,none⟩,rfl,trivial,by rw[show two i k a b=[a,b] from if_pos (by omega)];exact hw.ret (List.nil_sublist _) (aP.kJ λ f hf=>by rw[List.mem_singleton.1 hf];exact .head _) (List.Sublist.refl _)⟩
 ·refine bB ?_;refine Kb5 ?_;refine bK Tryz.results175 (λ w hw=>?_);first
  | exact⟨some ⟨x16,0,none⟩,rfl,trivial,by rw[show two i k a b=[a,b] from if_pos (by omega)];exact hw.ret (List.nil_sublist _) (aP.kJ λ f hf=>by rw[List.mem_singleton.1 hf];exact .head _) (List.Sublist.refl _)⟩
theorem sq{l:List Pr}{a:Option Addr}{c:Nat}{w:World}(ha:Cl w a (dK l))(hlen:l.length<=200000000000) :
  Calls Tryz.prog 174 #[.slice a l.length c] w λ e w'=>∃x:Option Addr×Nat,e=.returned (.slice x.1 (Eh l).length x.2)/\(Eh l).length<=x.2/\SF w [] [] [] [(x.1,dK (Eh l))] [] w':=(oo ha hlen).mono λ _ _ h=>h
theorem Ef{h l:Nat}{i:Int}(hi:i=(l:Int))(hh:h<18446744073709551616)(hl:l<=10)(w:World):Calls Tryz.prog 79 #[.int .u64 (h:Int),.int .i64 i] w λ e w'=>e=.returned (.int .i64 ((sl h l:Nat):Int))/\St w [] [] w':=by
 subst hi
 exact qI hh hl w
abbrev Ll(h:Nat)(ys:List Pr)(p:Option Addr)(c:Nat):aI:=⟨{Nd.zero with kind:=6,hash:=(h:Int),prA:=p,prN:=ys.length,dK:=c},[],ys⟩
abbrev A8(h:Nat)(k:ByteArray)(u:Int):aI:=⟨{Nd.zero with kind:=4,hash:=(h:Int),key:=k,val:=u},[],[]⟩
abbrev yJ(gen:Int):aI:=⟨{Nd.zero with kind:=2,gen:=gen},[],[]⟩
abbrev ua(n b:Nat)(xs:List Int)(p:Option Addr):aI:=⟨{Nd.zero with kind:=3,bm:=(b:Int),brA:=p,brN:=n,brC:=n},xs,[]⟩
theorem z35:(0:Nat)<=35184372088832:=Nat.zero_le _
theorem z11:(0:Nat)<=11728124029610:=Nat.zero_le _
theorem qj{h:Nat}{ys:List Pr}{p:Option Addr}{c:Nat}(hy:ys.length<=1000):I7 (Ll h ys p c) (Fo h ys):=⟨rfl,rfl,rfl,λ _=>rfl,⟨rfl,rfl,z35,by show ys.length<=_;omega⟩,Nat.zero_le _,hy,rfl⟩
theorem Ye{h:Nat}{k:ByteArray}{u:Int}:I7 (A8 h k u) (wJ h k u):=⟨rfl,rfl,rfl,λ _=>rfl,⟨rfl,rfl,z35,z11⟩,Nat.zero_le _,Nat.zero_le _,rfl⟩
theorem k9{gen m:Int}:I7 (yJ gen) (qZ gen m):=⟨rfl,rfl,rfl,λ _=>rfl,⟨rfl,rfl,z35,z11⟩,Nat.zero_le _,Nat.zero_le _,rfl⟩
theorem aBu{n b:Nat}{xs:List Int}{p:Option Addr}(hn:n=xs.length)(hx:xs.length<=1000):I7 (ua n b xs p) (bj b xs):=⟨rfl,rfl,rfl,λ _=>rfl,⟨hn,rfl,by show xs.length<=_;omega,z11⟩,hx,Nat.zero_le _,rfl⟩
structure RX where
 L:List aI
 ini:List Int
 pn:Option Addr
 cn:Nat
 pc:Option Addr
 cc:Nat
structure Iu(r:RX)(l:List NI):Prop where
 m:oZ r.L l
 ini:r.ini=F3 l
theorem Iu.len{r:RX}{l:List NI}(h:Iu r l):r.L.length=l.length/\r.ini.length=l.length:=⟨h.m.len,by rw[h.ini];simp[F3]⟩
theorem Iu.push{r:RX}{l:List NI}(h:Iu r l){gen m:Int}{n b:Nat}{xs:List Int}{p pn pc:Option Addr}{cn cc:Nat}(hn:n=xs.length)(hx:xs.length<=1000):Iu ⟨r.L++[yJ gen,ua n b xs p],r.ini++[m,0],pn,cn,pc,cc⟩ (l++[qZ gen m,bj b xs]) :=
 ⟨h.m.append (.cons k9 (.cons (aBu hn hx) .nil)),by show r.ini++_=_;rw[h.ini];simp[F3,qZ,bj]⟩
theorem Sk{L:List aI}{gen:Int}{b:Nat}{r:Int}{p:Option Addr}{F:Fr}{f:Option Addr×List Value}(hf:f∈bD (L++[yJ gen,ua 1 b [r] p]))(h1:(p,aH [r])∈F)(h2:f∈bD L->f∈F):f.2=[]∨f∈F:=by
 simp only[bD,List.flatMap_append] at hf
 rcases List.mem_append.1 hf with hf|hf
 ·exact .inr (h2 hf)
 ·simp[aI.fr] at hf
  rcases hf with rfl|rfl|rfl|rfl
  ·exact .inl rfl
  ·exact .inl rfl
  ·exact .inr h1
  ·exact .inl rfl
variable{v:aI}{at':Int}{h0 h:Nat}{k:ByteArray}{u gen:Int}{fi lvl:Nat}
abbrev dQ(at':Int)(h0 h:Nat)(v:aI)(k:ByteArray)(u gen:Int)(fi:Nat)(n:Nat):List NI:=dN at' h0 h (v.nd.key,v.nd.val) k u gen fi n (lN h0 h-n)
theorem oa{n:Nat}(hn:n<lN h0 h):dQ at' h0 h v k u gen fi (n+1)=dQ at' h0 h v k u gen fi n++[qZ gen ((fi-1+(dQ at' h0 h v k u gen fi n).length:Nat):Int),bj (eL 0 (sl h (lN h0 h-(n+1)):Int)) [((fi+(dQ at' h0 h v k u gen fi n).length:Nat):Int)]]:=by
 have e:lN h0 h-(n+1)+1=lN h0 h-n:=by omega
 unfold dQ
 rw[dN,e]
theorem aAh{x y z:Option Addr}{c a b:Nat}(hc:lN h0 h=11):Iu ⟨[Ll h (Eh [(v.nd.key,v.nd.val),(k,u)]) z c],[0],x,a,y,b⟩ (dQ at' h0 h v k u gen fi 0):=by
 have e:dQ at' h0 h v k u gen fi 0=[Fo h (Eh [(v.nd.key,v.nd.val),(k,u)])]:=by
  unfold dQ dN
  exact if_pos hc
 rw[e]
 exact⟨.cons (qj (Nat.le_trans (Uz _) (by simp))) .nil,rfl⟩
theorem aAc{x y p:Option Addr}{a b:Nat}(hc:lN h0 h≠11):Iu ⟨[A8 h k u,ua 2 (eL (eL 0 (sl h0 (lN h0 h):Int)) (sl h (lN h0 h):Int)) (two (sl h0 (lN h0 h)) (sl h (lN h0 h)) at' (fi:Int)) p],[0,0],x,a,y,b⟩ (dQ at' h0 h v k u gen fi 0):=by
 have e:dQ at' h0 h v k u gen fi 0=[wJ h k u,bj (eL (eL 0 (sl h0 (lN h0 h):Int)) (sl h (lN h0 h):Int)) (two (sl h0 (lN h0 h)) (sl h (lN h0 h)) at' (fi:Int))]:=by
  unfold dQ dN
  exact if_neg hc
 rw[e]
 exact⟨.cons Ye (.cons (aBu (by unfold two;split<;>rfl) (by unfold two;split<;>simp)) .nil),rfl⟩
theorem jq(hv:v.nd.hash=(h0:Int))(hh0:h0<18446744073709551616)(hh:h<18446744073709551616)(hf1:1<=fi)(hf2:fi<=274877906944)(w:World) :
    Calls Tryz.prog 167 #[.agg ⟨v.nd.cells⟩,.int .i64 at',.int .u64 (h:Int),.string k,.int .u64 u,.int .i64 (lvl:Int),.int .i64 gen,.int .i64 (fi:Int)] w λ e w' =>
      ∃d:RX,e=.returned (.tuple #[.slice d.pn d.L.length d.cn,.slice d.pc d.ini.length d.cc]) /\
      (Iu d (dQ at' h0 h v k u gen fi (lN h0 h-lvl))/\d.L.length<=d.cn/\d.ini.length<=d.cc) /\
      SF w [] [] [] ((d.pn,fX d.L)::(d.pc,aH d.ini)::bD d.L) [] w':=by
  have hcl:=An h0 h;refine enter Tryz.func167 Tryz.ntmps167 rfl rfl (SF.s0 w) ?_;simp only[cP]
  refine J0 ?_;refine bF (λ x8=>?_);refine J8 ?_;refine Ka9 ?_;refine aS (cV (hc:=λ w1 hw=>by rw[hv];exact Pe hh0 hh w1)) (λ x26=>?_);refine gX ?_;refine eN [16,17,18,19,27,28,29,30,31,32,33,34,35,36,37,38,39,40,41,42,43,44,45,46,47,48,49,50,51,52,53,54,55,56,57,58,59] (λ q:RX=>[(16,.slice q.pn q.L.length q.cn),(17,.slice q.pc q.ini.length q.cc),(18,.int .i64 ((lN h0 h:Nat):Int))]) (λ q=>Iu q (dQ at' h0 h v k u gen fi 0)/\q.L.length<=2) (λ q=>[]) (λ q=>bD q.L) (λ q=>[⟨q.pn,fX q.L,q.cn,77,14⟩,⟨q.pc,aH q.ini,q.cc,62,1⟩]) (by decide) (λ _=>by exact rfl) ?_ (λ q f hx=>?_)
  · refine aV ?_;refine zT ?_;refine oD ?_;refine aK ?_;refine bA (λ c28=>?_) (λ c28=>?_)
    · refine gH ?_;refine J3 ?_;refine bQ ?_;refine pK ?_;refine bQ ?_;refine fD (λ x37=>?_);refine aD (cF (V:=λ x:Option Addr×Nat=>.slice x.1 (Eh [(v.nd.key,v.nd.val),(k,u)]).length x.2) (hc:=λ w1 hw=>sq (l:=[(v.nd.key,v.nd.val),(k,u)]) (hw.cl (.new .head)) (by simp))) (λ x38 h38=>?_);refine vE ?_;refine bQ ?_;refine aS (Sj (c:=1) (sz:=14) rfl (λ _=>cX (cs:=fX [Ll h (Eh [(v.nd.key,v.nd.val),(k,u)]) x38.1 x38.2]) rZ Ih rfl rfl rfl rfl rfl)) (λ x42=>?_);refine aS (Sj (c:=1) (sz:=1) rfl (λ _=>cX (cs:=aH [0]) mV Ih rfl rfl rfl rfl rfl)) (λ x43=>?_);refine J8 ?_;refine dM ?_;refine J1 ?_;refine eQ ((⟨[Ll h (Eh [(v.nd.key,v.nd.val),(k,u)]) x38.1 x38.2],[0],some ⟨x42,0,none⟩,1,some ⟨x43,0,none⟩,1⟩:RX)) ?_ (hw1:=λ w hw=>(hw.Oj.fN λ f hf=>by simp[bD,aI.fr] at hf;rcases hf with rfl|rfl;exact .inl rfl;exact .inr (.head _)).sub (List.nil_sublist _) aP.all (List.Sublist.refl _))
      · have hne:lN h0 h=11:=by omega
        exact⟨aAh hne,Nat.le_succ 1⟩
    · refine Ke5 ?_;refine bQ ?_;refine J3 ?_;refine aB ?_;refine aS (cV (hc:=λ w1 hw=>by rw[hv];exact qI (l:=lN h0 h) hh0 (by omega) w1)) (λ x51=>?_);refine pK ?_;refine aB ?_;refine aS (cV (hc:=λ w1 hw=>qI (l:=lN h0 h) hh (by omega) w1)) (λ x55=>?_);refine aB ?_;refine aD (cF (hc:=λ w1 hw=>th (vS h0 (lN h0 h)) (vS h (lN h0 h)) (L0 (h:=h0) (k:=h) (by omega)) at' (fi:Int) w1)) (λ x57 h57=>?_);refine aS (Sj (c:=2) (sz:=14) rfl (λ _=>cX (cs:=fX [A8 h k u,ua 2 (eL (eL 0 (sl h0 (lN h0 h):Int)) (sl h (lN h0 h):Int)) (two (sl h0 (lN h0 h)) (sl h (lN h0 h)) at' (fi:Int)) x57]) rZ Ih rfl rfl rfl rfl rfl)) (λ x58=>?_);refine J1 ?_;refine dM ?_;refine aS (Sj (c:=2) (sz:=1) rfl (λ _=>cX (cs:=aH [0,0]) mV Ih rfl rfl rfl rfl rfl)) (λ x59=>?_);refine J1 ?_;refine eQ ((⟨[A8 h k u,ua 2 (eL (eL 0 (sl h0 (lN h0 h):Int)) (sl h (lN h0 h):Int)) (two (sl h0 (lN h0 h)) (sl h (lN h0 h)) at' (fi:Int)) x57],[0,0],some ⟨x58,0,none⟩,2,some ⟨x59,0,none⟩,2⟩:RX)) ?_ (hw1:=λ w hw=>(hw.Oj.fN λ f hf=>by simp[bD,aI.fr] at hf;rcases hf with rfl|rfl|rfl|rfl;exact .inl rfl;exact .inl rfl;exact .inr (.head _);exact .inl rfl).sub (List.nil_sublist _) aP.all (List.Sublist.refl _))
      · have hne:lN h0 h≠11:=by omega
        exact⟨aAc hne,Nat.le_refl 2⟩
  refine K0a ?_;refine jL ?_;refine oQ ?_;refine J1 ?_;refine cE ?_;have hq2:=hx.1.len;refine kK [16,17,20,21,22,62,63,64,65,66,67,68,69,70,71,72,73,74,75,76,77,78,79,80,81,82,83,84,85,86,87,88,89] (λ y:Nat×RX=>[(16,.slice y.2.pn y.2.L.length y.2.cn),(17,.slice y.2.pc y.2.ini.length y.2.cc),(20,.int .i64 (((lN h0 h-y.1:Nat):Int)-1))]) (λ y=>y.1<=lN h0 h-lvl/\Iu y.2 (dQ at' h0 h v k u gen fi y.1)/\y.2.L.length<=2+2*y.1) (λ _=>_) (λ y=>bD y.2.L) (λ y=>[⟨y.2.pn,fX y.2.L,y.2.cn,77,14⟩,⟨y.2.pc,aH y.2.ini,y.2.cc,62,1⟩]) (λ y=>lN h0 h-lvl-y.1) ((0,q)) (⟨Nat.zero_le _,hx⟩) (λ y f hx=>?_) (hw0:=λ w hw=>hw.sub (List.Sublist.refl _) aP.all (List.Sublist.refl _));refine K0a ?_;obtain⟨hy1,hy2,hy3⟩:=hx
  obtain⟨hy4,hy5⟩:=hy2.len
  refine B8 ?_;refine oD ?_;refine aK ?_;refine bA (λ c64=>?_) (λ c64=>?_)
  · obtain⟨lv,elv⟩:∃lv:Nat,lN h0 h-(y.1+1)=lv:=⟨_,rfl⟩
    have elv2:(((lN h0 h-y.1:Nat):Int)-1)=(lv:Int):=by omega
    have hlv2:lv<=10:=by omega
    refine mZ ?_;refine jJ ?_;refine dE ?_;refine aE (lT rf rf (by omega)) rfl ?_;refine aE (kF (n:=1) rf rf (by omega) (by omega)) rfl ?_;refine vE ?_;refine aS (cV (hc:=λ w1 hw=>Ef elv2 hh hlv2 w1)) (λ x74=>?_);refine vE ?_;refine bQ ?_;refine aB ?_;refine aS (cV (hc:=λ w1 hw=>nT (n:=0) (by decide) (sl h lv:Int) w1)) (λ x79=>?_);refine aB ?_;refine aE (lT (n:=1) rf rf (by omega)) rfl ?_;refine aS (Fv (λ _=>cX (cs:=aH [((fi+y.2.L.length-1+1:Nat):Int)]) mV Ih rfl rfl rfl rfl rfl)) (λ x82=>?_);refine bQ ?_;refine aS (Fv (λ _=>cX (cs:=fX [yJ gen,ua 1 (eL 0 (sl h lv:Int)) [((fi+y.2.L.length-1+1:Nat):Int)] (some ⟨x82,0,none⟩)]) rZ Ih rfl rfl rfl rfl rfl)) (λ x84=>?_);(refine aS (aX.gA (dq (k:=2) (L2:=[yJ gen,ua 1 (eL 0 (sl h lv:Int)) [((fi+y.2.L.length-1+1:Nat):Int)] (some ⟨x82,0,none⟩)]) rf rf fT rfl fin rfl Yi rfl eC (by omega)) fM) (λ x85=>?_);try (refine fL (λ h85=>?_)));refine J1 ?_;refine Il ?_;refine aS (Fv (λ _=>cX (cs:=aH [((fi+y.2.L.length-1:Nat):Int),0]) mV Ih rfl rfl rfl rfl rfl)) (λ x88=>?_);(refine aS (aX.gA (T8 (k:=2) (l2:=[((fi+y.2.L.length-1:Nat):Int),0]) rf rf fT rfl fin rfl Yd eC (by omega)) fM) (λ x89=>?_);try (refine fL (λ h89=>?_)));refine J1 ?_;refine eX ?_;refine zT ?_;refine oQ ?_;refine J1 ?_;refine gT ((y.1+1,(⟨y.2.L++[yJ gen,ua 1 (eL 0 (sl h lv:Int)) [((fi+y.2.L.length-1+1:Nat):Int)] (some ⟨x82,0,none⟩)],y.2.ini++[((fi+y.2.L.length-1:Nat):Int),0],x85.1,x85.2,x89.1,x89.2⟩:RX))) ?_ (hw1:=λ w hw=>hw.fN λ f hf=>Sk hf (.tail _ (.tail _ (.head _))) (λ hf=>.tail _ (.tail _ (.tail _ hf))))
    · refine⟨by omega,?_,by simp only[List.length_append,List.length_cons,List.length_nil];omega⟩
      have e1:dQ at' h0 h v k u gen fi (y.1+1)=dQ at' h0 h v k u gen fi y.1++[qZ gen ((fi+y.2.L.length-1:Nat):Int),bj (eL 0 (sl h lv:Int)) [((fi+y.2.L.length-1+1:Nat):Int)]]:=by
       rw[oa (by omega),elv,<- hy4,show fi-1+y.2.L.length=fi+y.2.L.length-1 by omega,show fi+y.2.L.length-1+1=fi+y.2.L.length by omega]
      rw[e1]
      exact hy2.push rfl (by simp)
  · have en:y.1=lN h0 h-lvl:=by omega
    refine bM rfl ?_;refine jJ ?_;refine J8 ?_;refine bK Tryz.results167 (λ w hw=>?_);refine⟨y.2,rfl,⟨?_,?_,?_⟩,?_⟩
    · rw[<- en]
      exact hy2
    · exact hw.Se .head
    · exact hw.aBY (.tail .head)
    · exact((hw.freeze .head).freeze .head).aBA.ret (List.nil_sublist _) aP.all (List.nil_sublist _)
end

/- The procedures with shared cells, as trees. -/
end Go.Proofs.YtadnboagdhcedaaGreatDoor
namespace Go.Ct
section
def NI.c0(a:NI):Nv:=a.n.c a.xs a.ys
end
end Go.Ct
namespace Go.Proofs.YtadnboagdhcedaaGreatDoor
section
open Go.RowKit Go.Ct
structure iS where
 root:Int
 ro:Bool
structure Cl where
 kind:Int
 t:iS
 a:Int
 b:Int
 n:Int
 index:Int
 hash:Int
 mask:Int
 key:ByteArray
 val:Int
 exp:Int
 Is:Int
 only:Bool
def iE(h:Nat)(level:Int):Int:=if level<0∨10<level then 0 else(sl h level.toNat:Int)
def D2(p:Int):Nv:=({Nd.zero with kind:=7,bO:=p}:Nd).c [] []
def uB(g:Int):Nv:=({Nd.zero with kind:=2,gen:=g}:Nd).c [] []
def Dw(a b c:Int):Nv:=({Nd.zero with kind:=8,bO:=a,exp:=b,new:=c}:Nd).c [] []
def Hv(h:Int)(k:ByteArray)(u:Int):Nv:=({Nd.zero with kind:=4,hash:=h,key:=k,val:=u}:Nd).c [] []
def K5:Nv:=({Nd.zero with kind:=3}:Nd).c [] []
def aAd(v s:Int)(K:Int->Tr):Tr:=.node v λ n=>K (if s=1 then n.new else n.bO)
def Kt(t:iS)(v s:Int)(K:Int->Tr):Tr:=aAd v s λ w=>.rP t.root v w λ _=>K w
def Uy(t:iS)(K:Int->Tr):Tr:=.load t.root λ v=>.node v λ n=>if n.kind=2 then K v else .node v λ n=>.load n.status λ s =>
 if s=0 then .node v λ n=>.rP n.status 0 2 λ _=>.node v λ n=>.load n.status λ s=>Kt t v s K else Kt t v s K
def ku(i m p:Int)(K:Int->Tr):Tr:=.node i λ ni=>.node p λ np=>.rP ni.main m np.bO λ _=>.node p λ np=>K np.bO
def vL(i m:Int)(K:Int->Tr):Tr:=.node m λ nm=>.load nm.prev λ p=>if p=0 then K m else ku i m p K
def Gn(i m p:Int)(c:Bool)(K:Int->Tr):Tr :=
 if c=true then .node m λ nm=>.rP nm.prev p 0 λ _=>vL i m K
 else .node m λ nm=>.alloc (D2 p) 0 λ f=>.rP nm.prev p f λ _=>vL i m K
def A4(t:iS)(i m:Int)(K:Int->Tr):Tr:=.node m λ nm=>.load nm.prev λ p=>if p=0 then K m else .node p λ np =>
 if cC np then(if t.ro=true then Gn i m p false K else Uy t λ r=>.node r λ nr=>.node i λ ni=>Gn i m p (nr.gen==ni.gen) K)
 else ku i m p K
def pA(t:iS)(i:Int)(K:Int->Tr):Tr:=.node i λ ni=>.load ni.main λ m=>A4 t i m K
def B0(t:iS)(v:Int)(K:Tr):Tr:=.node v λ n=>pA t n.bO λ r=>.node v λ n2=>.node v λ n3=>.rP n3.status 0 (if r=n2.exp then 1 else 2) λ _=>K
def zQ(t:iS)(K:Int->Tr):Tr:=.load t.root λ v=>.node v λ n=>if n.kind=2 then K v else .node v λ n=>.load n.status λ s =>
 if s=0 then B0 t v (.node v λ n=>.load n.status λ s=>Kt t v s K) else Kt t v s K
def oP(t:iS)(i bO n:Int)(K:Bool->Tr):Tr:=.node i λ ni=>.rP ni.main bO n λ b=>if b=true then A4 t i n λ m=>K (m==n) else K false
def Cp(t:iS)(bO exp new:Int)(K:Bool->Tr):Tr:=.alloc (Dw bO exp new) 0 λ d=>.rP t.root bO d λ b =>
 if b=true then B0 t d (.node d λ nd=>.load nd.status λ s=>Kt t d s λ _=>K (s==1)) else K false
def F7(c index r:Int)(K:Int->Tr):Tr:=.node c λ nc=>.alloc (jl nc index r) c K
def Mo(t:iS)(i c index:Int)(K:Int->Tr):Tr:=.node c λ nc=>pA t ((mU nc index).getD 0) λ m=>.node i λ ni=>.alloc (uB ni.gen) m λ j =>
 F7 c index j λ r=>oP t i c r λ ok=>K (if ok=true then j else 0)
def zZ(t:iS)(parent child:Int)(h:Nat)(level:Int)(K:Bool->Tr):Tr:=pA t parent λ m=>.node m λ nm =>
 if mU nm (iE h level)=some child then pA t child λ mc=>.node mc λ nmc =>
  if nmc.kind=5 then .alloc (unV nmc) 0 λ s=>.node m λ nm2=>.alloc (xy (jl nm2 (iE h level) s) level (unV nmc)) m λ r=>oP t parent m r K
  else K false
 else K false
def jV(f:Bool)(v:Int):Rs:=⟨0,f,v,⟨#[]⟩,0,0,0,false⟩
def rU(f:Bool)(v:Int):Rs:=⟨0,f,v,⟨#[]⟩,1,0,0,false⟩
def Dj(t:iS)(h:Nat)(key:ByteArray)(K:Rs->Tr):Nat->Int->Int->Tr
 | 0,_,_=>.stuck
 | n+1,i,level=>pA t i λ mr=>.node mr λ m =>
  if m.kind=5 then(if m.key=key then K (jV true m.val) else K (jV false 0))
  else if m.kind=6 then K (jV (eK m.ys key).isSome ((eK m.ys key).getD 0))
  else match mU m (iE h level) with
   | none=>K (jV false 0)
   | some b=>.node b λ s=>if s.kind=4 then(if s.key=key then K (jV true s.val) else K (jV false 0)) else Dj t h key K n b (level+1)
def oA(c:Cl)(found:Bool)(v:Int):Bool:=if c.Is=1 then !found else if c.Is=2 then found else if c.Is=3 then found&&v==c.exp else true
def Bp:List NI->Int->(Int->Tr)->Tr
 | [],r,K=>K r
 | a::l,_,K=>.alloc a.c0 a.init λ r=>Bp l r K
def dP(at_:Int)(h0 h:Nat)(p:Pr)(k:ByteArray)(u gen:Int)(fi lvl:Nat):List NI:=dN at_ h0 h p k u gen fi (lN h0 h-lvl) (lN h0 h-(lN h0 h-lvl))
def W3(c:Cl)(b:Int)(h:Nat)(level:Nat)(gen:Int)(K:Int->Tr):Tr:=.node b λ nb =>
 .alloc ((dP b nb.hash.toNat h (nb.key,nb.val) c.key c.val gen 0 level).headD NI.no).c0 ((dP b nb.hash.toNat h (nb.key,nb.val) c.key c.val gen 0 level).headD NI.no).init λ f =>
 Bp (dP b nb.hash.toNat h (nb.key,nb.val) c.key c.val gen f.toNat level).tail f K
def mQ(c:Cl)(i m:Int)(h:Nat)(level:Nat)(gen:Int)(K:Rs->Int->Tr):Tr:=.node m λ n =>
 if n.kind=6 then
  (if oA c (eK n.ys c.key).isSome ((eK n.ys c.key).getD 0)=true then
   .alloc (xg n c.key c.val) m λ r=>oP c.t i m r λ ok=>K (rU (eK n.ys c.key).isSome ((eK n.ys c.key).getD 0)) (if ok=true then 1 else 0)
  else K (jV (eK n.ys c.key).isSome ((eK n.ys c.key).getD 0)) 1)
 else match mU n (iE h level) with
  | none=>if oA c false 0=true then .alloc (Hv h c.key c.val) 0 λ s=>.alloc (yf n (iE h level) s) m λ r=>oP c.t i m r λ ok=>K (rU false 0) (if ok=true then 1 else 0) else K (jV false 0) 1
  | some b=>.node b λ nb=>if nb.kind=2 then K Rs.zero 2 else
   if nb.key=c.key then
    (if oA c true nb.val=true then .alloc (Hv h c.key c.val) 0 λ s=>F7 m (iE h level) s λ r=>oP c.t i m r λ ok=>K (rU true nb.val) (if ok=true then 1 else 0)
    else K (jV true nb.val) 1)
   else
    (if oA c false 0=true then W3 c b h (level+1) gen λ d=>.alloc (uB gen) d λ j=>F7 m (iE h level) j λ r=>oP c.t i m r λ ok=>K (rU false 0) (if ok=true then 1 else 0)
    else K (jV false 0) 1)
def Fk(c:Cl)(i m index gen:Int)(K:Int->Tr):Tr:=.node m λ nm=>.node ((mU nm index).getD 0) λ nb=>if nb.gen=gen then K ((mU nm index).getD 0) else Mo c.t i m index K
def Dz(c:Cl)(h:Nat)(K:Rs->Tr)(again:Tr)(gen:Int):Nat->Int->Int->Nat->Tr
 | 0,_,_,_=>.stuck
 | n+1,i,parent,level=>pA c.t i λ m=>.node m λ nm =>
  if nm.kind=5 then zZ c.t parent i h ((level:Int)-1) λ _=>again
  else mQ c i m h level gen λ r what=>if what=1 then K r else if what=0 then again else
   Fk c i m (iE h level) gen λ b=>if b=0 then again else Dz c h K again gen n b i (level+1)
def G0(c:Cl)(h:Nat)(K:Rs->Tr):Nat->Tr
 | 0=>.stuck
 | n+1=>zQ c.t λ i=>.node i λ ni=>Dz c h K (G0 c h K n) ni.gen n i 0 0
def kO(c:Cl)(i m:Int)(h:Nat)(level:Nat)(K:Rs->Int->Tr):Tr:=.node m λ n =>
 if n.kind=6 then
  (if(eK n.ys c.key).isSome=false∨(c.only=true/\(eK n.ys c.key).getD 0≠c.exp) then K (jV (eK n.ys c.key).isSome ((eK n.ys c.key).getD 0)) 1
  else .alloc (ub n c.key) m λ r=>oP c.t i m r λ ok=>K (rU true ((eK n.ys c.key).getD 0)) (if ok=true then 1 else 0))
 else match mU n (iE h level) with
  | none=>K (jV false 0) 1
  | some b=>.node b λ s=>if s.kind=2 then K Rs.zero 2 else if s.key≠c.key then K (jV false 0) 1 else if c.only=true/\s.val≠c.exp then K (jV true s.val) 1
   else .node ((Ly (Nr n (iE h level))).getD 0) λ so=>.alloc (xy (Nr n (iE h level)) level so) m λ r=>oP c.t i m r λ ok=>K (rU true s.val) (if ok=true then 1 else 0)
def uy(t:iS)(path:List Int)(h:Nat)(K:Tr):Nat->Tr
 | 0=>K
 | l+1=>pA t (path.getD (l+1) 0) λ m=>.node m λ nm=>if nm.kind=5 then zZ t (path.getD l 0) (path.getD (l+1) 0) h (l:Int) λ _=>uy t path h K l else K
def vY(c:Cl)(h:Nat)(K:Rs->Tr)(again:Tr)(gen:Int):Nat->Int->List Int->Nat->Tr
 | 0,_,_,_=>.stuck
 | n+1,i,path,level=>pA c.t i λ m=>.node m λ nm =>
  if nm.kind=5 then zZ c.t (path.getD (level-1) 0) i h ((level:Int)-1) λ _=>again
  else kO c i m h level λ r what=>if what=1 then(if r.gB=1 then uy c.t path h (K r) (path.length-1) else K r) else if what=0 then again else
   Fk c i m (iE h level) gen λ b=>if b=0 then again else vY c h K again gen n b (path++[b]) (level+1)
def wM(c:Cl)(h:Nat)(K:Rs->Tr):Nat->Tr
 | 0=>.stuck
 | n+1=>zQ c.t λ i=>.node i λ ni=>vY c h K (wM c h K n) ni.gen n i [i] 0
def Q3(root:Int)(ro:Bool):Rs:=⟨0,true,0,⟨#[]⟩,0,0,root,ro⟩
def O6(m:Int)(K:Rs->Tr):Tr:=.gen λ g=>.alloc (uB g) m λ r=>.cell r λ c=>K (Q3 c false)
def I8(t:iS)(fz:Bool)(K:Rs->Tr):Nat->Tr
 | 0=>.stuck
 | n+1=>zQ t λ r=>pA t r λ m=>.gen λ g=>.alloc (uB g) m λ j=>Cp t r m j λ ok =>
  if ok=true then(if fz=true then .cell r λ c=>K (Q3 c true) else O6 m K) else I8 t fz K n
def tI(t:iS)(fz:Bool)(K:Rs->Tr)(n:Nat):Tr :=
 if t.ro=true then .load t.root λ r=>if fz=true then .cell r λ c=>K (Q3 c true) else pA t r λ m=>O6 m K
 else I8 t fz K n
def Ap(t:iS)(K:Rs->Tr):Nat->Tr
 | 0=>.stuck
 | n+1=>zQ t λ r=>pA t r λ m=>.alloc K5 0 λ c=>.gen λ g=>.alloc (uB g) c λ j=>Cp t r m j λ ok =>
  if ok=true then K (jV true 0) else Ap t K n
def M6(r:Int)(f:Bool):Rs:=⟨0,f,0,⟨#[]⟩,0,r,0,false⟩
def refuse(c:Cl):Int:=if c.kind=7∨c.kind=9 then(if c.key.size<=64 then 0 else 1) else if c.kind=8 then(if c.key.size<=64/\0<=c.Is/\c.Is<=3 then 0 else 1) else 0
def mH(c:Cl)(h:Nat)(n:Nat):Tr :=
 if refuse c≠0 then .done {Rs.zero with err:=refuse c}
 else if c.kind=1 then pA c.t c.a λ r=>.done (M6 r false)
 else if c.kind=2 then oP c.t c.a c.b c.n λ ok=>.done (M6 0 ok)
 else if c.kind=3 then zQ c.t λ r=>.done (M6 r false)
 else if c.kind=4 then Cp c.t c.a c.b c.n λ ok=>.done (M6 0 ok)
 else if c.kind=7 then zQ c.t λ i=>Dj c.t h c.key .done n i 0
 else if c.kind=8 then G0 c h .done n
 else if c.kind=9 then wM c h .done n
 else if c.kind=10 then tI c.t false .done n
 else if c.kind=11 then tI c.t true .done n
 else Ap c.t .done n
end

/- An execution of the reference: its block, its own lists; the rules for calls of its methods. -/
section
open Go Go.RowKit Go.Ct
def xoC(k:Cl)(bm:Nat)(x:XS)(dn:Bool)(rs:Rs):List Value:=[.pointer (some ⟨bm,0,none⟩),
 .int .i64 k.kind,.int .i64 k.t.root,.bool k.t.ro,.int .i64 k.a,.int .i64 k.b,.int .i64 k.n,.int .i64 k.index,.int .u64 k.hash,.int .u64 k.mask,.string k.key,.int .u64 k.val,.int .u64 k.exp,.int .i64 k.Is,.bool k.only,
 .bool false,.slice none 0 0,.slice none 0 0,.int .i64 0,.bool false,.int .u64 0,.string ⟨#[]⟩,.int .i64 0,.int .i64 0,.int .i64 0,.bool false,
 .slice x.pg x.got.length x.kg,.slice x.pm x.made.length x.km,.slice x.pl x.cel.length x.kl,.slice x.pe x.gns.length x.ke,
 .int .i64 ((x.a:Nat):Int),.int .i64 ((x.m:Nat):Int),.int .i64 ((x.c:Nat):Int),.int .i64 ((x.g:Nat):Int),.int .i64 ((x.fr:Nat):Int),.bool x.st,
 .int .i64 x.nx.k,.int .i64 x.nx.c,.int .i64 x.nx.o,.int .i64 x.nx.n,.bool dn,
 .int .i64 rs.err,.bool rs.found,.int .u64 rs.val,.string rs.key,.int .i64 rs.gB,.int .i64 rs.ref,.int .i64 rs.root,.bool rs.ro,
 .bool false,.slice none 0 0,.slice none 0 0]
abbrev xO(k:Cl)(bm:Nat)(x:XS)(dn:Bool)(rs:Rs):Obj:=.cells ⟨xoC k bm x dn rs⟩ 115 (0,0)
abbrev xM(x:XS):Obj:=mO x.L x.cs x.gen x.acc x.pn x.cn x.pc x.cc
abbrev xW(x:XS):List Ow:=[⟨x.pg,aH x.got,x.kg,62,1⟩,⟨x.pm,aH x.made,x.km,62,1⟩,⟨x.pl,aH x.cel,x.kl,27,1⟩,⟨x.pe,aH x.gns,x.ke,3,1⟩,⟨x.pn,fX x.L,x.cn,77,14⟩,⟨x.pc,aH x.cs,x.cc,62,1⟩]
abbrev xH(k:Cl)(bx bm:Nat)(x:XS)(dn:Bool)(rs:Rs):List (Nat×Obj):=[(bx,xO k bm x dn rs),(bm,xM x)]
theorem aBs{w0 w:World}{D:List Nat}{k:Cl}{bx bm:Nat}{x:XS}{dn:Bool}{rs:Rs}{A F:Fr}(h:SF w0 D (xH k bx bm x dn rs) A F (xW x) w) :
  SF w0 D [(bx,.cells ⟨[.pointer (some ⟨bm,0,none⟩),
 .int .i64 k.kind,.int .i64 k.t.root,.bool k.t.ro,.int .i64 k.a,.int .i64 k.b,.int .i64 k.n,.int .i64 k.index,.int .u64 k.hash,.int .u64 k.mask,.string k.key,.int .u64 k.val,.int .u64 k.exp,.int .i64 k.Is,.bool k.only,
 .bool false,.slice none 0 0,.slice none 0 0,.int .i64 0,.bool false,.int .u64 0,.string ⟨#[]⟩,.int .i64 0,.int .i64 0,.int .i64 0,.bool false,
 .slice x.pg x.got.length x.kg,.slice x.pm x.made.length x.km,.slice x.pl x.cel.length x.kl,.slice x.pe x.gns.length x.ke,
 .int .i64 ((x.a:Nat):Int),.int .i64 ((x.m:Nat):Int),.int .i64 ((x.c:Nat):Int),.int .i64 ((x.g:Nat):Int),.int .i64 ((x.fr:Nat):Int),.bool x.st,
 .int .i64 x.nx.k,.int .i64 x.nx.c,.int .i64 x.nx.o,.int .i64 x.nx.n,.bool dn,
 .int .i64 rs.err,.bool rs.found,.int .u64 rs.val,.string rs.key,.int .i64 rs.gB,.int .i64 rs.ref,.int .i64 rs.root,.bool rs.ro,
 .bool false,.slice none 0 0,.slice none 0 0]⟩ 115 (0,0)),(bm,mO x.L x.cs x.gen x.acc x.pn x.cn x.pc x.cc)] A F [⟨x.pg,aH x.got,x.kg,62,1⟩,⟨x.pm,aH x.made,x.km,62,1⟩,⟨x.pl,aH x.cel,x.kl,27,1⟩,⟨x.pe,aH x.gns,x.ke,3,1⟩,⟨x.pn,fX x.L,x.cn,77,14⟩,⟨x.pc,aH x.cs,x.cc,62,1⟩] w:=h
theorem cL{w0 w:World}{D:List Nat}{k:Cl}{bx bm:Nat}{x:XS}{dn:Bool}{rs:Rs}{A F:Fr}(h:SF w0 D (xH k bx bm x dn rs) A F (xW x) w) :
  SF w0 D [(bx,.cells ⟨xoC k bm x dn rs⟩ 115 (0,0)),(bm,mO x.L x.cs x.gen x.acc x.pn x.cn x.pc x.cc)] A F [⟨x.pg,aH x.got,x.kg,62,1⟩,⟨x.pm,aH x.made,x.km,62,1⟩,⟨x.pl,aH x.cel,x.kl,27,1⟩,⟨x.pe,aH x.gns,x.ke,3,1⟩,⟨x.pn,fX x.L,x.cn,77,14⟩,⟨x.pc,aH x.cs,x.cc,62,1⟩] w:=h
end

/- A store of several cells into a known block. -/
end Go.Proofs.YtadnboagdhcedaaGreatDoor
namespace Go.Ct
section
open Go Go.RowKit
section
variable{P:Program}{n:Nat}{ds:List Deferred}{Q:Exit->Act->World->Prop}{ks:List CK}{S:List (Nat×Value)}{G:World->Prop}{ops:Array Oper}{l:List Oper}
variable{w0:World}{M:List Nat}{H:List (Nat×Obj)}{A F:Fr}{O:List Ow}
variable{d:Nat}{ty t:TypeId}{pos:String}{af:Array Edge}{gd:Option (Nat×Bool)}{dst:Option Nat}{x y:Operand}{v:Value}{w w':World}
theorem rB{b off i:Nat}{vs bO cs:List Value}{T:TypeId}{H':List (Nat×Obj)}(hx:ev S x=.pointer (some ⟨b,off,none⟩))(ha:At H i b (.cells ⟨bO⟩ T (0,0)))(hy:ev S y=.agg ⟨vs⟩)(h1:vs.all (·.oneCell')=true)
  (ht:jK P t vs.length=true) (hl:off+vs.length<=bO.length) (hcs:bO.take off++vs++bO.drop (off+vs.length)=cs) (hH:setAt H i (.cells ⟨cs⟩ T (0,0))=H') :
  aX P S (St w0 M H) ⟨none,.store t x y,ty,pos,af,gd⟩ Unit (λ _=>undef) (λ _=>St w0 M H') :=
 sC (λ w hw=>by
  subst hH hcs
  have hb:=hw.at ha
  obtain⟨dd,hu,hm,hi⟩:=gZ ht
  have hst:=run_storeCells_at (P:=P) b off T vs 0 ⟨bO⟩ w hb (by simpa using hl) (by simpa using h1)
  simp only[Nat.add_zero] at hst
  refine⟨w.setRow b ⟨bO.take off++vs++bO.drop (off+vs.length)⟩,?_,hw.write ha rfl rfl rfl (by simp) (λ k hk=>setRow_other w b k _ hk) (setRow_heap w b ⟨bO⟩ _ T (0,0) hb)⟩
  cases hq':P.info? t with
  | none=>rw[hq'] at hi;simp at hi
  | some inf =>
   have hs:inf.size=vs.length:=by rw[hq'] at hi;simpa using hi
   simp[execOp,hx,hy,Instr.storeAt,Instr.sureAddr,storeVar,sizeOf,typeInfo,hq',hs,Value.cells,hst])
end
end

end Go.Ct

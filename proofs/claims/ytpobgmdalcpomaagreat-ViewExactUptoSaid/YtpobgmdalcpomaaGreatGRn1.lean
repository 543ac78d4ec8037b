/- The reference of dual: the nodes that are allocated for two keys. -/
import Derived.Test.YtpobgmdalcpomaaGreatGBr5
import Derived.Test.YtpobgmdalcpomaaGreatGPaX
import Derived.Test.YtpobgmdalcpomaaGreatGPa2
import Derived.Test.YtpobgmdalcpomaaGreatGNode2
import Derived.Test.YtpobgmdalcpomaaGreatGR95
import Derived.Test.YtpobgmdalcpomaaGreatAr4
import Derived.Test.YtpobgmdalcpomaaGreatGLst3

set_option linter.unusedSimpArgs false
set_option linter.unusedVariables false
namespace Go.Ct
section
open Go Go.RowKit
def two(i k:Nat)(x s:Int):List Int:=if i<k then [x,s] else [s,x]
structure NI where
 n:Nd
 xs:List Int
 ys:List Pr
 init:Int
def AX.no:AX:=⟨none,0,none,0,none,0,none,0⟩
def NI.c(a:NI)(c:Nat):Nv:=(gK a.n a.xs a.ys c AX.no).c
abbrev En(h:Nat)(ys:List Pr):NI:=⟨{Nd.zero with kind:=6,hash:=(h:Int)},[],ys,0⟩
abbrev uF(h:Nat)(k:ByteArray)(u:Int):NI:=⟨{Nd.zero with kind:=4,hash:=(h:Int),key:=k,val:=u},[],[],0⟩
abbrev pT(gen m:Int):NI:=⟨{Nd.zero with kind:=2,gen:=gen},[],[],m⟩
abbrev Wx(b:Nat)(xs:List Int):NI:=⟨{Nd.zero with kind:=3,bm:=(b:Int)},xs,[],0⟩
def NI.no:NI:=⟨Nd.zero,[],[],0⟩
structure G6(v:aQ)(a:NI):Prop where
 xs:v.xs=a.xs
 ys:v.ys=a.ys
 kind:v.nd.kind=a.n.kind
 c:∀k,(gK v.nd v.xs v.ys k AX.no).c=a.c k
 fit:v.Fit
 sx:v.xs.length<=1000
 sy:v.ys.length<=1000
 c0:v.c=a.n.c a.xs a.ys
inductive nU:List aQ->List NI->Prop where
 | nil:nU [] []
 | cons {v:aQ} {a:NI} {L:List aQ} {l:List NI} (h:G6 v a) (hr:nU L l):nU (v::L) (a::l)
theorem nU.len{L:List aQ}{l:List NI}(h:nU L l):L.length=l.length:=by
 induction h with
 | nil=>rfl
 | cons _ _ ih=>simp[ih]
theorem nU.append{L M:List aQ}{l m:List NI}(h:nU L l)(h2:nU M m):nU (L++M) (l++m):=by
 induction h with
 | nil=>exact h2
 | cons h _ ih=>exact .cons h ih
theorem nU.at{L:List aQ}{l:List NI}(h:nU L l){i:Nat}(hi:i<L.length):∃a,l[i]?=some a/\G6 (L.getD i aQ.zero) a:=by
 induction h generalizing i with
 | nil=>simp at hi
 | @cons v a L l h _ ih =>
  cases i with
  | zero=>exact⟨a,rfl,h⟩
  | succ i =>
   obtain⟨b,h1,h2⟩:=ih (i:=i) (by simpa using hi)
   exact⟨b,by simpa using h1,by simpa using h2⟩
def Ee(l:List NI):List Int:=l.map NI.init
theorem SF.vn{w0 w:World}{M:List Nat}{H:List (Nat×Obj)}{A F:Fr}{O:List Ow}{f1 f2:Option Addr×List Value}(h:SF w0 M H A (f1::f2::F) O w):SF w0 M H A (f2::f1::F) O w:=h.dO λ f hf=>.inr (by
 simp only[List.mem_cons] at hf ⊢
 rcases hf with h|h|h
 ·exact .inr (.inl h)
 ·exact .inl h
 ·exact .inr (.inr h))
theorem SF.xp{w0 w:World}{M:List Nat}{H:List (Nat×Obj)}{A F:Fr}{O:List Ow}{i c:Nat}{p:Option Addr}(h:SF w0 M H A F O w){l:List Int}{T:TypeId}(ho:vL O i p (aJ l) c T 1):l.length<=c:=by
 rcases(h.own _ ho.mem).1 with⟨_,h2,_⟩|⟨b,rest,_,_,h3⟩
 ·have h2':aJ l=[]:=h2
  have:(aJ l).length=0:=by rw[h2'];rfl
  rw[gF] at this
  omega
 ·have h3':(aJ l++rest).length=c*1:=h3
  rw[List.length_append,gF] at h3'
  omega
end
end Go.Ct
namespace Go.Proofs.YtpobgmdalcpomaaGreat
section
open Go Go.RowKit Go.Ct
def dN(x:Int)(h0 h:Nat)(p0:Pr)(k:ByteArray)(u gen:Int)(f:Nat):Nat->Nat->List NI
 | 0,lvl=>if lvl=11 then [En h (Cu [p0,(k,u)])] else [uF h k u,Wx (eA (eA 0 (sl h0 lvl:Int)) (sl h lvl:Int)) (two (sl h0 lvl) (sl h lvl) x (f:Int))]
 | n+1,lvl=>dN x h0 h p0 k u gen f n (lvl+1)++[pT gen ((f-1+(dN x h0 h p0 k u gen f n (lvl+1)).length:Nat):Int),Wx (eA 0 (sl h lvl:Int)) [((f+(dN x h0 h p0 k u gen f n (lvl+1)).length:Nat):Int)]]
theorem Ps{x:Int}{h0 h:Nat}{p0:Pr}{k:ByteArray}{u gen:Int}{f:Nat}:∀n lvl,(dN x h0 h p0 k u gen f n lvl).length<=2+2*n
 | 0,lvl=>by
  unfold dN
  split<;>simp
 | n+1,lvl=>by
  have:=Ps (x:=x) (h0:=h0) (h:=h) (p0:=p0) (k:=k) (u:=u) (gen:=gen) (f:=f) n (lvl+1)
  unfold dN
  simp only[List.length_append,List.length_cons,List.length_nil]
  omega
theorem cx{i k:Nat}(hi:i<64)(hk:k<64)(hne:i≠k)(a b:Int)(w:World) :
  Calls Tryz.prog 156 #[.int .i64 (i:Int),.int .i64 a,.int .i64 (k:Int),.int .i64 b] w λ e w'=>∃p:Option Addr,e=.returned (.agg ⟨[.int .i64 3,.int .i64 0,.int .i64 0,.int .u64 ((eA (eA 0 (i:Int)) (k:Int):Nat):Int),.slice p 2 2,.int .u64 0,.string ⟨#[]⟩,.int .u64 0,.slice none 0 0,.int .i64 0,.int .i64 0,.int .i64 0,.int .i64 0,.int .i64 0]⟩)/\True/\SF w [] [] [] [(p,aJ (two i k a b))] [] w':=by
 refine enter Tryz.func156 Tryz.ntmps156 rfl rfl (SF.s0 w) ?_
 simp only[dB]
 all_goals (refine J0 ?_;refine aY (λ x8=>?_);refine aN ?_;refine J2 ?_;(refine aF (cV (hc:=λ w1 hw=>mR (n:=0) (by decide) (i:Int) w1)) (λ x11=>?_);try (refine aB (λ h11=>?_)));refine aA ?_;(refine aF (cV (hc:=λ w1 hw=>mR (n:=eA 0 (i:Int)) (yY (by decide) _) (k:Int) w1)) (λ x13=>?_);try (refine aB (λ h13=>?_)));refine oI ?_;refine fA (λ x16=>?_);refine bV ?_;refine aY (λ x9=>?_);refine J5 ?_;refine Cy ?_;refine uQ ?_)
 all_goals
 refine bF (λ c20=>?_) (λ c20=>?_)
 ·try exact nv c20
  all_goals (refine Fk ?_;refine fA (λ x23=>?_);refine qS ?_;refine iU ?_;refine J5 ?_)
  all_goals
   refine bH Tryz.results156 (λ w hw=>?_)
   first
   | exact⟨some ⟨x23,0,none⟩,rfl,trivial,by rw[show two i k a b=[b,a] from if_neg (by omega)];exact hw.ret (List.nil_sublist _) (aW.jM λ f hf=>by rw[List.mem_singleton.1 hf];exact .head _) (List.Sublist.refl _)⟩
   | exact⟨some ⟨x16,0,none⟩,rfl,trivial,by rw[show two i k a b=[a,b] from if_pos (by omega)];exact hw.ret (List.nil_sublist _) (aW.jM λ f hf=>by rw[List.mem_singleton.1 hf];exact .head _) (List.Sublist.refl _)⟩
 ·try exact nv c20
  all_goals (refine aZ ?_;refine iU ?_;refine J5 ?_)
  all_goals
   refine bH Tryz.results156 (λ w hw=>?_)
   first
   | exact⟨some ⟨x16,0,none⟩,rfl,trivial,by rw[show two i k a b=[a,b] from if_pos (by omega)];exact hw.ret (List.nil_sublist _) (aW.jM λ f hf=>by rw[List.mem_singleton.1 hf];exact .head _) (List.Sublist.refl _)⟩
theorem jb{l:List Pr}{a:Option Addr}{c:Nat}{w:World}(ha:Cl w a (dI l))(hlen:l.length<=200000000000) :
  Calls Tryz.prog 155 #[.slice a l.length c] w λ e w'=>∃x:Option Addr×Nat,e=.returned (.slice x.1 (Cu l).length x.2)/\(Cu l).length<=x.2/\SF w [] [] [] [(x.1,dI (Cu l))] [] w':=(j3 ha hlen).mono λ _ _ h=>h
theorem Ci{h l:Nat}{i:Int}(hi:i=(l:Int))(hh:h<18446744073709551616)(hl:l<=10)(w:World):Calls Tryz.prog 35 #[.int .u64 (h:Int),.int .i64 i] w λ e w'=>e=.returned (.int .i64 ((sl h l:Nat):Int))/\St w [] [] w':=by
 subst hi
 exact pA hh hl w
abbrev Kl(h:Nat)(ys:List Pr)(p:Option Addr)(c:Nat):aQ:=⟨{Nd.zero with kind:=6,hash:=(h:Int),prA:=p,prN:=ys.length,dI:=c},[],ys⟩
abbrev zA(h:Nat)(k:ByteArray)(u:Int):aQ:=⟨{Nd.zero with kind:=4,hash:=(h:Int),key:=k,val:=u},[],[]⟩
abbrev wP(gen:Int):aQ:=⟨{Nd.zero with kind:=2,gen:=gen},[],[]⟩
abbrev iq(n b:Nat)(xs:List Int)(p:Option Addr):aQ:=⟨{Nd.zero with kind:=3,bm:=(b:Int),brA:=p,brN:=n,brC:=n},xs,[]⟩
theorem zo:(0:Nat)<=35184372088832:=Nat.zero_le _
theorem yw:(0:Nat)<=11728124029610:=Nat.zero_le _
theorem ko{h:Nat}{ys:List Pr}{p:Option Addr}{c:Nat}(hy:ys.length<=1000):G6 (Kl h ys p c) (En h ys):=⟨rfl,rfl,rfl,λ _=>rfl,⟨rfl,rfl,zo,by show ys.length<=_;omega⟩,Nat.zero_le _,hy,rfl⟩
theorem Uc{h:Nat}{k:ByteArray}{u:Int}:G6 (zA h k u) (uF h k u):=⟨rfl,rfl,rfl,λ _=>rfl,⟨rfl,rfl,zo,yw⟩,Nat.zero_le _,Nat.zero_le _,rfl⟩
theorem Zq{gen m:Int}:G6 (wP gen) (pT gen m):=⟨rfl,rfl,rfl,λ _=>rfl,⟨rfl,rfl,zo,yw⟩,Nat.zero_le _,Nat.zero_le _,rfl⟩
theorem vd{n b:Nat}{xs:List Int}{p:Option Addr}(hn:n=xs.length)(hx:xs.length<=1000):G6 (iq n b xs p) (Wx b xs):=⟨rfl,rfl,rfl,λ _=>rfl,⟨hn,rfl,by show xs.length<=_;omega,yw⟩,hx,Nat.zero_le _,rfl⟩
structure RX where
 L:List aQ
 ini:List Int
 pn:Option Addr
 cn:Nat
 pc:Option Addr
 cc:Nat
structure G0(r:RX)(l:List NI):Prop where
 m:nU r.L l
 ini:r.ini=Ee l
theorem G0.len{r:RX}{l:List NI}(h:G0 r l):r.L.length=l.length/\r.ini.length=l.length:=⟨h.m.len,by rw[h.ini];simp[Ee]⟩
theorem G0.push{r:RX}{l:List NI}(h:G0 r l){gen m:Int}{n b:Nat}{xs:List Int}{p pn pc:Option Addr}{cn cc:Nat}(hn:n=xs.length)(hx:xs.length<=1000):G0 ⟨r.L++[wP gen,iq n b xs p],r.ini++[m,0],pn,cn,pc,cc⟩ (l++[pT gen m,Wx b xs]) :=
 ⟨h.m.append (.cons Zq (.cons (vd hn hx) .nil)),by show r.ini++_=_;rw[h.ini];simp[Ee,pT,Wx]⟩
theorem P1{L:List aQ}{gen:Int}{b:Nat}{r:Int}{p:Option Addr}{F:Fr}{f:Option Addr×List Value}(hf:f∈bG (L++[wP gen,iq 1 b [r] p]))(h1:(p,aJ [r])∈F)(h2:f∈bG L->f∈F):f.2=[]∨f∈F:=by
 simp only[bG,List.flatMap_append] at hf
 rcases List.mem_append.1 hf with hf|hf
 ·exact .inr (h2 hf)
 ·simp[aQ.fr] at hf
  rcases hf with rfl|rfl|rfl|rfl
  ·exact .inl rfl
  ·exact .inl rfl
  ·exact .inr h1
  ·exact .inl rfl
variable{v:aQ}{at':Int}{h0 h:Nat}{k:ByteArray}{u gen:Int}{fi lvl:Nat}
abbrev dQ(at':Int)(h0 h:Nat)(v:aQ)(k:ByteArray)(u gen:Int)(fi:Nat)(n:Nat):List NI:=dN at' h0 h (v.nd.key,v.nd.val) k u gen fi n (kX h0 h-n)
theorem df{n:Nat}(hn:n<kX h0 h):dQ at' h0 h v k u gen fi (n+1)=dQ at' h0 h v k u gen fi n++[pT gen ((fi-1+(dQ at' h0 h v k u gen fi n).length:Nat):Int),Wx (eA 0 (sl h (kX h0 h-(n+1)):Int)) [((fi+(dQ at' h0 h v k u gen fi n).length:Nat):Int)]]:=by
 have e:kX h0 h-(n+1)+1=kX h0 h-n:=by omega
 unfold dQ
 rw[dN,e]
theorem tq{x y z:Option Addr}{c a b:Nat}(hc:kX h0 h=11):G0 ⟨[Kl h (Cu [(v.nd.key,v.nd.val),(k,u)]) z c],[0],x,a,y,b⟩ (dQ at' h0 h v k u gen fi 0):=by
 have e:dQ at' h0 h v k u gen fi 0=[En h (Cu [(v.nd.key,v.nd.val),(k,u)])]:=by
  unfold dQ dN
  exact if_pos hc
 rw[e]
 exact⟨.cons (ko (Nat.le_trans (R2 _) (by simp))) .nil,rfl⟩
theorem oy{x y p:Option Addr}{a b:Nat}(hc:kX h0 h≠11):G0 ⟨[zA h k u,iq 2 (eA (eA 0 (sl h0 (kX h0 h):Int)) (sl h (kX h0 h):Int)) (two (sl h0 (kX h0 h)) (sl h (kX h0 h)) at' (fi:Int)) p],[0,0],x,a,y,b⟩ (dQ at' h0 h v k u gen fi 0):=by
 have e:dQ at' h0 h v k u gen fi 0=[uF h k u,Wx (eA (eA 0 (sl h0 (kX h0 h):Int)) (sl h (kX h0 h):Int)) (two (sl h0 (kX h0 h)) (sl h (kX h0 h)) at' (fi:Int))]:=by
  unfold dQ dN
  exact if_neg hc
 rw[e]
 exact⟨.cons Uc (.cons (vd (by unfold two;split<;>rfl) (by unfold two;split<;>simp)) .nil),rfl⟩
theorem Z0(hv:v.nd.hash=(h0:Int))(hh0:h0<18446744073709551616)(hh:h<18446744073709551616)(hf1:1<=fi)(hf2:fi<=274877906944)(w:World) :
    Calls Tryz.prog 150 #[.agg ⟨v.nd.cells⟩,.int .i64 at',.int .u64 (h:Int),.string k,.int .u64 u,.int .i64 (lvl:Int),.int .i64 gen,.int .i64 (fi:Int)] w λ e w' =>
      ∃d:RX,e=.returned (.tuple #[.slice d.pn d.L.length d.cn,.slice d.pc d.ini.length d.cc]) /\
      (G0 d (dQ at' h0 h v k u gen fi (kX h0 h-lvl))/\d.L.length<=d.cn/\d.ini.length<=d.cc) /\
      SF w [] [] [] ((d.pn,iD d.L)::(d.pc,aJ d.ini)::bG d.L) [] w':=by
  have hcl:=yL h0 h
  refine enter Tryz.func150 Tryz.ntmps150 rfl rfl (SF.s0 w) ?_
  simp only[dB]
  all_goals (refine J0 ?_;refine bM (λ x8=>?_);refine J8 ?_;refine gR ?_;refine aA ?_;(refine aF (cV (hc:=λ w1 hw=>by rw[hv];exact Nc hh0 hh w1)) (λ x26=>?_);try (refine aB (λ h26=>?_)));refine iI ?_)
  all_goals
   refine fH [16,17,18,19,27,28,29,30,31,32,33,34,35,36,37,38,39,40,41,42,43,44,45,46,47,48,49,50,51,52,53,54,55,56,57,58,59] (λ q:RX=>[(16,.slice q.pn q.L.length q.cn),(17,.slice q.pc q.ini.length q.cc),(18,.int .i64 ((kX h0 h:Nat):Int))]) (λ q=>G0 q (dQ at' h0 h v k u gen fi 0)/\q.L.length<=2) (λ q=>[]) (λ q=>bG q.L) (λ q=>[⟨q.pn,iD q.L,q.cn,59,14⟩,⟨q.pc,aJ q.ini,q.cc,52,1⟩]) (by decide) (λ _=>by exact rfl) ?_ (λ q f hx=>?_)
   · all_goals (refine aT ?_)
     all_goals (refine xU ?_;refine oC ?_;refine aN ?_)
     all_goals
      refine bF (λ c28=>?_) (λ c28=>?_)
      · try exact nv c28
        all_goals (refine gR ?_;refine J3 ?_;refine bV ?_;refine oI ?_;refine bV ?_;refine fA (λ x37=>?_);(refine aF (cF (V:=λ x:Option Addr×Nat=>.slice x.1 (Cu [(v.nd.key,v.nd.val),(k,u)]).length x.2) (hc:=λ w1 hw=>jb (l:=[(v.nd.key,v.nd.val),(k,u)]) (hw.cl (.new .head)) (by simp))) (λ x38=>?_);try (refine aB (λ h38=>?_)));refine yQ ?_;refine bV ?_;refine aF (Pg (c:=1) (sz:=14) rfl (λ _=>cS (cs:=iD [Kl h (Cu [(v.nd.key,v.nd.val),(k,u)]) x38.1 x38.2]) rC Ei rfl rfl rfl rfl rfl)) (λ x42=>?_);refine aF (Pg (c:=1) (sz:=1) rfl (λ _=>cS (cs:=aJ [0]) lW Ei rfl rfl rfl rfl rfl)) (λ x43=>?_);refine J8 ?_;refine dD ?_;refine J1 ?_)
        all_goals
         refine fM ((⟨[Kl h (Cu [(v.nd.key,v.nd.val),(k,u)]) x38.1 x38.2],[0],some ⟨x42,0,none⟩,1,some ⟨x43,0,none⟩,1⟩:RX)) ?_ (hw1:=λ w hw=>(hw.Ic.dO λ f hf=>by simp[bG,aQ.fr] at hf;rcases hf with rfl|rfl;exact .inl rfl;exact .inr (.head _)).sub (List.nil_sublist _) aW.all (List.Sublist.refl _))
         · have hne:kX h0 h=11:=by omega
           exact⟨tq hne,Nat.le_succ 1⟩
      · try exact nv c28
        all_goals (refine jE ?_;refine aA ?_;refine bV ?_;refine J3 ?_;refine aA ?_;(refine aF (cV (hc:=λ w1 hw=>by rw[hv];exact pA (l:=kX h0 h) hh0 (by omega) w1)) (λ x51=>?_);try (refine aB (λ h51=>?_)));refine oI ?_;refine aA ?_;(refine aF (cV (hc:=λ w1 hw=>pA (l:=kX h0 h) hh (by omega) w1)) (λ x55=>?_);try (refine aB (λ h55=>?_)));refine aA ?_;(refine aF (cF (hc:=λ w1 hw=>cx (xD h0 (kX h0 h)) (xD h (kX h0 h)) (Ji (h:=h0) (k:=h) (by omega)) at' (fi:Int) w1)) (λ x57=>?_);try (refine aB (λ h57=>?_)));refine aF (Pg (c:=2) (sz:=14) rfl (λ _=>cS (cs:=iD [zA h k u,iq 2 (eA (eA 0 (sl h0 (kX h0 h):Int)) (sl h (kX h0 h):Int)) (two (sl h0 (kX h0 h)) (sl h (kX h0 h)) at' (fi:Int)) x57]) rC Ei rfl rfl rfl rfl rfl)) (λ x58=>?_);refine J1 ?_;refine dD ?_;refine aF (Pg (c:=2) (sz:=1) rfl (λ _=>cS (cs:=aJ [0,0]) lW Ei rfl rfl rfl rfl rfl)) (λ x59=>?_);refine J1 ?_)
        all_goals
         refine fM ((⟨[zA h k u,iq 2 (eA (eA 0 (sl h0 (kX h0 h):Int)) (sl h (kX h0 h):Int)) (two (sl h0 (kX h0 h)) (sl h (kX h0 h)) at' (fi:Int)) x57],[0,0],some ⟨x58,0,none⟩,2,some ⟨x59,0,none⟩,2⟩:RX)) ?_ (hw1:=λ w hw=>(hw.Ic.dO λ f hf=>by simp[bG,aQ.fr] at hf;rcases hf with rfl|rfl|rfl|rfl;exact .inl rfl;exact .inl rfl;exact .inr (.head _);exact .inl rfl).sub (List.nil_sublist _) aW.all (List.Sublist.refl _))
         · have hne:kX h0 h≠11:=by omega
           exact⟨oy hne,Nat.le_refl 2⟩
   dsimp only[gW,List.map,List.cons_append,List.nil_append]
  all_goals (refine jS ?_;refine kN ?_;refine J1 ?_;refine cZ ?_)
  all_goals
   have hq2:=hx.1.len
   refine lO [16,17,20,21,22,62,63,64,65,66,67,68,69,70,71,72,73,74,75,76,77,78,79,80,81,82,83,84,85,86,87,88,89] (λ y:Nat×RX=>[(16,.slice y.2.pn y.2.L.length y.2.cn),(17,.slice y.2.pc y.2.ini.length y.2.cc),(20,.int .i64 (((kX h0 h-y.1:Nat):Int)-1))]) (λ y=>y.1<=kX h0 h-lvl/\G0 y.2 (dQ at' h0 h v k u gen fi y.1)/\y.2.L.length<=2+2*y.1) (λ _=>_) (λ y=>bG y.2.L) (λ y=>[⟨y.2.pn,iD y.2.L,y.2.cn,59,14⟩,⟨y.2.pc,aJ y.2.ini,y.2.cc,52,1⟩]) (λ y=>kX h0 h-lvl-y.1) ((0,q)) (⟨Nat.zero_le _,hx⟩) (λ y f hx=>?_) (hw0:=λ w hw=>hw.sub (List.Sublist.refl _) aW.all (List.Sublist.refl _))
   dsimp only[gW,List.map,List.cons_append,List.nil_append]
   obtain⟨hy1,hy2,hy3⟩:=hx
   obtain⟨hy4,hy5⟩:=hy2.len
   all_goals (refine Cy ?_;refine oC ?_;refine aN ?_)
   all_goals
    refine bF (λ c64=>?_) (λ c64=>?_)
    · try exact nv c64
      all_goals
       obtain⟨lv,elv⟩:∃lv:Nat,kX h0 h-(y.1+1)=lv:=⟨_,rfl⟩
       have elv2:(((kX h0 h-y.1:Nat):Int)-1)=(lv:Int):=by omega
       have hlv2:lv<=10:=by omega
      all_goals (refine oD ?_;refine jE ?_;refine dW ?_;refine aH (gO rf rf (by omega)) rfl ?_;refine aH (fP (n:=1) rf rf (by omega) (by omega)) rfl ?_;refine yQ ?_;(refine aF (cV (hc:=λ w1 hw=>Ci elv2 hh hlv2 w1)) (λ x74=>?_);try (refine aB (λ h74=>?_)));refine yQ ?_;refine bV ?_;refine aA ?_;(refine aF (cV (hc:=λ w1 hw=>mR (n:=0) (by decide) (sl h lv:Int) w1)) (λ x79=>?_);try (refine aB (λ h79=>?_)));refine aA ?_;refine aH (gO (n:=1) rf rf (by omega)) rfl ?_;refine aF (Cx (λ _=>cS (cs:=aJ [((fi+y.2.L.length-1+1:Nat):Int)]) lW Ei rfl rfl rfl rfl rfl)) (λ x82=>?_);refine bV ?_;refine aF (Cx (λ _=>cS (cs:=iD [wP gen,iq 1 (eA 0 (sl h lv:Int)) [((fi+y.2.L.length-1+1:Nat):Int)] (some ⟨x82,0,none⟩)]) rC Ei rfl rfl rfl rfl rfl)) (λ x84=>?_);(refine aF (aP.eL (Xt (k:=2) (L2:=[wP gen,iq 1 (eA 0 (sl h lv:Int)) [((fi+y.2.L.length-1+1:Nat):Int)] (some ⟨x82,0,none⟩)]) rf rf dZ rfl fin rfl Lo rfl fG (by omega)) dV) (λ x85=>?_);try (refine aB (λ h85=>?_)));refine J1 ?_;refine Fk ?_;refine aF (Cx (λ _=>cS (cs:=aJ [((fi+y.2.L.length-1:Nat):Int),0]) lW Ei rfl rfl rfl rfl rfl)) (λ x88=>?_);(refine aF (aP.eL (Qd (k:=2) (l2:=[((fi+y.2.L.length-1:Nat):Int),0]) rf rf dZ rfl fin rfl Wa fG (by omega)) dV) (λ x89=>?_);try (refine aB (λ h89=>?_)));refine J1 ?_;refine eV ?_;refine xU ?_;refine kN ?_;refine J1 ?_)
      all_goals
       refine gY ((y.1+1,(⟨y.2.L++[wP gen,iq 1 (eA 0 (sl h lv:Int)) [((fi+y.2.L.length-1+1:Nat):Int)] (some ⟨x82,0,none⟩)],y.2.ini++[((fi+y.2.L.length-1:Nat):Int),0],x85.1,x85.2,x89.1,x89.2⟩:RX))) ?_ (hw1:=λ w hw=>hw.dO λ f hf=>P1 hf (.tail _ (.tail _ (.head _))) (λ hf=>.tail _ (.tail _ (.tail _ hf))))
       · refine⟨by omega,?_,by simp only[List.length_append,List.length_cons,List.length_nil];omega⟩
         have e1:dQ at' h0 h v k u gen fi (y.1+1)=dQ at' h0 h v k u gen fi y.1++[pT gen ((fi+y.2.L.length-1:Nat):Int),Wx (eA 0 (sl h lv:Int)) [((fi+y.2.L.length-1+1:Nat):Int)]]:=by
          rw[df (by omega),elv,<- hy4,show fi-1+y.2.L.length=fi+y.2.L.length-1 by omega,show fi+y.2.L.length-1+1=fi+y.2.L.length by omega]
         rw[e1]
         exact hy2.push rfl (by simp)
    · try exact nv c64
      all_goals
       have en:y.1=kX h0 h-lvl:=by omega
      all_goals (refine bQ rfl ?_;refine jE ?_;refine J8 ?_)
      all_goals
       refine bH Tryz.results150 (λ w hw=>?_)
       refine⟨y.2,rfl,⟨?_,?_,?_⟩,?_⟩
       · rw[<- en]
         exact hy2
       · exact hw.eb .head
       · exact hw.xp (.tail .head)
       · exact((hw.freeze .head).freeze .head).vn.ret (List.nil_sublist _) aW.all (List.nil_sublist _)
end

/- The procedures with shared cells, as trees. -/
end Go.Proofs.YtpobgmdalcpomaaGreat
namespace Go.Ct
section
def NI.c0(a:NI):Nv:=a.n.c a.xs a.ys
end
end Go.Ct
namespace Go.Proofs.YtpobgmdalcpomaaGreat
section
open Go.RowKit Go.Ct
structure iV where
 root:Int
 ro:Bool
structure Cl where
 kind:Int
 t:iV
 a:Int
 b:Int
 n:Int
 index:Int
 hash:Int
 mask:Int
 key:ByteArray
 val:Int
 exp:Int
 Gz:Int
 only:Bool
def gZ(h:Nat)(level:Int):Int:=if level<0∨10<level then 0 else(sl h level.toNat:Int)
def Cf(p:Int):Nv:=({Nd.zero with kind:=7,cE:=p}:Nd).c [] []
def sH(g:Int):Nv:=({Nd.zero with kind:=2,gen:=g}:Nd).c [] []
def Cc(a b c:Int):Nv:=({Nd.zero with kind:=8,cE:=a,exp:=b,new:=c}:Nd).c [] []
def Eu(h:Int)(k:ByteArray)(u:Int):Nv:=({Nd.zero with kind:=4,hash:=h,key:=k,val:=u}:Nd).c [] []
def Km:Nv:=({Nd.zero with kind:=3}:Nd).c [] []
def qv(v s:Int)(K:Int->Tr):Tr:=.node v λ n=>K (if s=1 then n.new else n.cE)
def Jh(t:iV)(v s:Int)(K:Int->Tr):Tr:=qv v s λ w=>.qN t.root v w λ _=>K w
def Rb(t:iV)(K:Int->Tr):Tr:=.load t.root λ v=>.node v λ n=>if n.kind=2 then K v else .node v λ n=>.load n.status λ s =>
 if s=0 then .node v λ n=>.qN n.status 0 2 λ _=>.node v λ n=>.load n.status λ s=>Jh t v s K else Jh t v s K
def Xc(i m p:Int)(K:Int->Tr):Tr:=.node i λ ni=>.node p λ np=>.qN ni.main m np.cE λ _=>.node p λ np=>K np.cE
def vF(i m:Int)(K:Int->Tr):Tr:=.node m λ nm=>.load nm.prev λ p=>if p=0 then K m else Xc i m p K
def Fy(i m p:Int)(c:Bool)(K:Int->Tr):Tr :=
 if c=true then .node m λ nm=>.qN nm.prev p 0 λ _=>vF i m K
 else .node m λ nm=>.alloc (Cf p) 0 λ f=>.qN nm.prev p f λ _=>vF i m K
def zS(t:iV)(i m:Int)(K:Int->Tr):Tr:=.node m λ nm=>.load nm.prev λ p=>if p=0 then K m else .node p λ np =>
 if cK np then(if t.ro=true then Fy i m p false K else Rb t λ r=>.node r λ nr=>.node i λ ni=>Fy i m p (nr.gen==ni.gen) K)
 else Xc i m p K
def oA(t:iV)(i:Int)(K:Int->Tr):Tr:=.node i λ ni=>.load ni.main λ m=>zS t i m K
def zU(t:iV)(v:Int)(K:Tr):Tr:=.node v λ n=>oA t n.cE λ r=>.node v λ n2=>.node v λ n3=>.qN n3.status 0 (if r=n2.exp then 1 else 2) λ _=>K
def xB(t:iV)(K:Int->Tr):Tr:=.load t.root λ v=>.node v λ n=>if n.kind=2 then K v else .node v λ n=>.load n.status λ s =>
 if s=0 then zU t v (.node v λ n=>.load n.status λ s=>Jh t v s K) else Jh t v s K
def nP(t:iV)(i cE n:Int)(K:Bool->Tr):Tr:=.node i λ ni=>.qN ni.main cE n λ b=>if b=true then zS t i n λ m=>K (m==n) else K false
def A9(t:iV)(cE exp new:Int)(K:Bool->Tr):Tr:=.alloc (Cc cE exp new) 0 λ d=>.qN t.root cE d λ b =>
 if b=true then zU t d (.node d λ nd=>.load nd.status λ s=>Jh t d s λ _=>K (s==1)) else K false
noncomputable def Dr (c index r:Int) (K:Int->Tr):Tr:=.node c λ nc=>.alloc (Y7 nc index r) c K
noncomputable def Jw (t:iV) (i c index:Int) (K:Int->Tr):Tr:=.node c λ nc=>oA t ((mB nc index).getD 0) λ m=>.node i λ ni=>.alloc (sH ni.gen) m λ j =>
 Dr c index j λ r=>nP t i c r λ ok=>K (if ok=true then j else 0)
noncomputable def yH (t:iV) (parent child:Int) (h:Nat) (level:Int) (K:Bool->Tr):Tr:=oA t parent λ m=>.node m λ nm =>
 if mB nm (gZ h level)=some child then oA t child λ mc=>.node mc λ nmc =>
  if nmc.kind=5 then .alloc (ua nmc) 0 λ s=>.node m λ nm2=>.alloc (sg (Y7 nm2 (gZ h level) s) level (ua nmc)) m λ r=>nP t parent m r K
  else K false
 else K false
def jR(f:Bool)(v:Int):Rs:=⟨0,f,v,⟨#[]⟩,0,0,0,false⟩
def qY(f:Bool)(v:Int):Rs:=⟨0,f,v,⟨#[]⟩,1,0,0,false⟩
noncomputable def B6 (t:iV) (h:Nat) (key:ByteArray) (K:Rs->Tr):Nat->Int->Int->Tr
 | 0,_,_=>.stuck
 | n+1,i,level=>oA t i λ mr=>.node mr λ m =>
  if m.kind=5 then(if m.key=key then K (jR true m.val) else K (jR false 0))
  else if m.kind=6 then K (jR (eI m.ys key).isSome ((eI m.ys key).getD 0))
  else match mB m (gZ h level) with
   | none=>K (jR false 0)
   | some b=>.node b λ s=>if s.kind=4 then(if s.key=key then K (jR true s.val) else K (jR false 0)) else B6 t h key K n b (level+1)
def nG(c:Cl)(found:Bool)(v:Int):Bool:=if c.Gz=1 then !found else if c.Gz=2 then found else if c.Gz=3 then found&&v==c.exp else true
def yT:List NI->Int->(Int->Tr)->Tr
 | [],r,K=>K r
 | a::l,_,K=>.alloc a.c0 a.init λ r=>yT l r K
def dP(at_:Int)(h0 h:Nat)(p:Pr)(k:ByteArray)(u gen:Int)(fi lvl:Nat):List NI:=dN at_ h0 h p k u gen fi (kX h0 h-lvl) (kX h0 h-(kX h0 h-lvl))
def Sv(c:Cl)(b:Int)(h:Nat)(level:Nat)(gen:Int)(K:Int->Tr):Tr:=.node b λ nb =>
 .alloc ((dP b nb.hash.toNat h (nb.key,nb.val) c.key c.val gen 0 level).headD NI.no).c0 ((dP b nb.hash.toNat h (nb.key,nb.val) c.key c.val gen 0 level).headD NI.no).init λ f =>
 yT (dP b nb.hash.toNat h (nb.key,nb.val) c.key c.val gen f.toNat level).tail f K
noncomputable def lT (c:Cl) (i m:Int) (h:Nat) (level:Nat) (gen:Int) (K:Rs->Int->Tr):Tr:=.node m λ n =>
 if n.kind=6 then
  (if nG c (eI n.ys c.key).isSome ((eI n.ys c.key).getD 0)=true then
   .alloc (rr n c.key c.val) m λ r=>nP c.t i m r λ ok=>K (qY (eI n.ys c.key).isSome ((eI n.ys c.key).getD 0)) (if ok=true then 1 else 0)
  else K (jR (eI n.ys c.key).isSome ((eI n.ys c.key).getD 0)) 1)
 else match mB n (gZ h level) with
  | none=>if nG c false 0=true then .alloc (Eu h c.key c.val) 0 λ s=>.alloc (oc n (gZ h level) s) m λ r=>nP c.t i m r λ ok=>K (qY false 0) (if ok=true then 1 else 0) else K (jR false 0) 1
  | some b=>.node b λ nb=>if nb.kind=2 then K Rs.zero 2 else
   if nb.key=c.key then
    (if nG c true nb.val=true then .alloc (Eu h c.key c.val) 0 λ s=>Dr m (gZ h level) s λ r=>nP c.t i m r λ ok=>K (qY true nb.val) (if ok=true then 1 else 0)
    else K (jR true nb.val) 1)
   else
    (if nG c false 0=true then Sv c b h (level+1) gen λ d=>.alloc (sH gen) d λ j=>Dr m (gZ h level) j λ r=>nP c.t i m r λ ok=>K (qY false 0) (if ok=true then 1 else 0)
    else K (jR false 0) 1)
noncomputable def Ej (c:Cl) (i m index gen:Int) (K:Int->Tr):Tr:=.node m λ nm=>.node ((mB nm index).getD 0) λ nb=>if nb.gen=gen then K ((mB nm index).getD 0) else Jw c.t i m index K
noncomputable def Ck (c:Cl) (h:Nat) (K:Rs->Tr) (again:Tr) (gen:Int):Nat->Int->Int->Nat->Tr
 | 0,_,_,_=>.stuck
 | n+1,i,parent,level=>oA c.t i λ m=>.node m λ nm =>
  if nm.kind=5 then yH c.t parent i h ((level:Int)-1) λ _=>again
  else lT c i m h level gen λ r what=>if what=1 then K r else if what=0 then again else
   Ej c i m (gZ h level) gen λ b=>if b=0 then again else Ck c h K again gen n b i (level+1)
noncomputable def Fl (c:Cl) (h:Nat) (K:Rs->Tr):Nat->Tr
 | 0=>.stuck
 | n+1=>xB c.t λ i=>.node i λ ni=>Ck c h K (Fl c h K n) ni.gen n i 0 0
noncomputable def kF (c:Cl) (i m:Int) (h:Nat) (level:Nat) (K:Rs->Int->Tr):Tr:=.node m λ n =>
 if n.kind=6 then
  (if(eI n.ys c.key).isSome=false∨(c.only=true/\(eI n.ys c.key).getD 0≠c.exp) then K (jR (eI n.ys c.key).isSome ((eI n.ys c.key).getD 0)) 1
  else .alloc (kr n c.key) m λ r=>nP c.t i m r λ ok=>K (qY true ((eI n.ys c.key).getD 0)) (if ok=true then 1 else 0))
 else match mB n (gZ h level) with
  | none=>K (jR false 0) 1
  | some b=>.node b λ s=>if s.kind=2 then K Rs.zero 2 else if s.key≠c.key then K (jR false 0) 1 else if c.only=true/\s.val≠c.exp then K (jR true s.val) 1
   else .node ((K6 (Lk n (gZ h level))).getD 0) λ so=>.alloc (sg (Lk n (gZ h level)) level so) m λ r=>nP c.t i m r λ ok=>K (qY true s.val) (if ok=true then 1 else 0)
noncomputable def lx (t:iV) (path:List Int) (h:Nat) (K:Tr):Nat->Tr
 | 0=>K
 | l+1=>oA t (path.getD (l+1) 0) λ m=>.node m λ nm=>if nm.kind=5 then yH t (path.getD l 0) (path.getD (l+1) 0) h (l:Int) λ _=>lx t path h K l else K
noncomputable def uG (c:Cl) (h:Nat) (K:Rs->Tr) (again:Tr) (gen:Int):Nat->Int->List Int->Nat->Tr
 | 0,_,_,_=>.stuck
 | n+1,i,path,level=>oA c.t i λ m=>.node m λ nm =>
  if nm.kind=5 then yH c.t (path.getD (level-1) 0) i h ((level:Int)-1) λ _=>again
  else kF c i m h level λ r what=>if what=1 then(if r.hJ=1 then lx c.t path h (K r) (path.length-1) else K r) else if what=0 then again else
   Ej c i m (gZ h level) gen λ b=>if b=0 then again else uG c h K again gen n b (path++[b]) (level+1)
noncomputable def uR (c:Cl) (h:Nat) (K:Rs->Tr):Nat->Tr
 | 0=>.stuck
 | n+1=>xB c.t λ i=>.node i λ ni=>uG c h K (uR c h K n) ni.gen n i [i] 0
def Lz(root:Int)(ro:Bool):Rs:=⟨0,true,0,⟨#[]⟩,0,0,root,ro⟩
def Mi(m:Int)(K:Rs->Tr):Tr:=.gen λ g=>.alloc (sH g) m λ r=>.cell r λ c=>K (Lz c false)
def Ib(t:iV)(fz:Bool)(K:Rs->Tr):Nat->Tr
 | 0=>.stuck
 | n+1=>xB t λ r=>oA t r λ m=>.gen λ g=>.alloc (sH g) m λ j=>A9 t r m j λ ok =>
  if ok=true then(if fz=true then .cell r λ c=>K (Lz c true) else Mi m K) else Ib t fz K n
def rV(t:iV)(fz:Bool)(K:Rs->Tr)(n:Nat):Tr :=
 if t.ro=true then .load t.root λ r=>if fz=true then .cell r λ c=>K (Lz c true) else oA t r λ m=>Mi m K
 else Ib t fz K n
def yJ(t:iV)(K:Rs->Tr):Nat->Tr
 | 0=>.stuck
 | n+1=>xB t λ r=>oA t r λ m=>.alloc Km 0 λ c=>.gen λ g=>.alloc (sH g) c λ j=>A9 t r m j λ ok =>
  if ok=true then K (jR true 0) else yJ t K n
def I0(r:Int)(f:Bool):Rs:=⟨0,f,0,⟨#[]⟩,0,r,0,false⟩
def refuse(c:Cl):Int:=if c.kind=7∨c.kind=9 then(if c.key.size<=64 then 0 else 1) else if c.kind=8 then(if c.key.size<=64/\0<=c.Gz/\c.Gz<=3 then 0 else 1) else 0
noncomputable def lV (c:Cl) (h:Nat) (n:Nat):Tr :=
 if refuse c≠0 then .done {Rs.zero with err:=refuse c}
 else if c.kind=1 then oA c.t c.a λ r=>.done (I0 r false)
 else if c.kind=2 then nP c.t c.a c.b c.n λ ok=>.done (I0 0 ok)
 else if c.kind=3 then xB c.t λ r=>.done (I0 r false)
 else if c.kind=4 then A9 c.t c.a c.b c.n λ ok=>.done (I0 0 ok)
 else if c.kind=7 then xB c.t λ i=>B6 c.t h c.key .done n i 0
 else if c.kind=8 then Fl c h .done n
 else if c.kind=9 then uR c h .done n
 else if c.kind=10 then rV c.t false .done n
 else if c.kind=11 then rV c.t true .done n
 else yJ c.t .done n
end

/- An execution of the reference: its block, its own lists; the rules for calls of its methods. -/
section
open Go Go.RowKit Go.Ct
def z0(k:Cl)(bm:Nat)(x:XS)(dn:Bool)(rs:Rs):List Value:=[.pointer (some ⟨bm,0,none⟩),
 .int .i64 k.kind,.int .i64 k.t.root,.bool k.t.ro,.int .i64 k.a,.int .i64 k.b,.int .i64 k.n,.int .i64 k.index,.int .u64 k.hash,.int .u64 k.mask,.string k.key,.int .u64 k.val,.int .u64 k.exp,.int .i64 k.Gz,.bool k.only,
 .bool false,.slice none 0 0,.slice none 0 0,.int .i64 0,.bool false,.int .u64 0,.string ⟨#[]⟩,.int .i64 0,.int .i64 0,.int .i64 0,.bool false,
 .slice x.pg x.got.length x.kg,.slice x.pm x.made.length x.km,.slice x.pl x.cel.length x.kl,.slice x.pe x.gns.length x.ke,
 .int .i64 ((x.a:Nat):Int),.int .i64 ((x.m:Nat):Int),.int .i64 ((x.c:Nat):Int),.int .i64 ((x.g:Nat):Int),.int .i64 ((x.fr:Nat):Int),.bool x.st,
 .int .i64 x.nx.k,.int .i64 x.nx.c,.int .i64 x.nx.o,.int .i64 x.nx.n,.bool dn,
 .int .i64 rs.err,.bool rs.found,.int .u64 rs.val,.string rs.key,.int .i64 rs.hJ,.int .i64 rs.ref,.int .i64 rs.root,.bool rs.ro,
 .bool false,.slice none 0 0,.slice none 0 0]
abbrev xO(k:Cl)(bm:Nat)(x:XS)(dn:Bool)(rs:Rs):Obj:=.cells ⟨z0 k bm x dn rs⟩ 113 (0,0)
abbrev xM(x:XS):Obj:=mO x.L x.cs x.gen x.acc x.pn x.cn x.pc x.cc
abbrev xW(x:XS):List Ow:=[⟨x.pg,aJ x.got,x.kg,52,1⟩,⟨x.pm,aJ x.made,x.km,52,1⟩,⟨x.pl,aJ x.cel,x.kl,31,1⟩,⟨x.pe,aJ x.gns,x.ke,3,1⟩,⟨x.pn,iD x.L,x.cn,59,14⟩,⟨x.pc,aJ x.cs,x.cc,52,1⟩]
abbrev xH(k:Cl)(bx bm:Nat)(x:XS)(dn:Bool)(rs:Rs):List (Nat×Obj):=[(bx,xO k bm x dn rs),(bm,xM x)]
theorem vk{w0 w:World}{D:List Nat}{k:Cl}{bx bm:Nat}{x:XS}{dn:Bool}{rs:Rs}{A F:Fr}(h:SF w0 D (xH k bx bm x dn rs) A F (xW x) w) :
  SF w0 D [(bx,.cells ⟨[.pointer (some ⟨bm,0,none⟩),
 .int .i64 k.kind,.int .i64 k.t.root,.bool k.t.ro,.int .i64 k.a,.int .i64 k.b,.int .i64 k.n,.int .i64 k.index,.int .u64 k.hash,.int .u64 k.mask,.string k.key,.int .u64 k.val,.int .u64 k.exp,.int .i64 k.Gz,.bool k.only,
 .bool false,.slice none 0 0,.slice none 0 0,.int .i64 0,.bool false,.int .u64 0,.string ⟨#[]⟩,.int .i64 0,.int .i64 0,.int .i64 0,.bool false,
 .slice x.pg x.got.length x.kg,.slice x.pm x.made.length x.km,.slice x.pl x.cel.length x.kl,.slice x.pe x.gns.length x.ke,
 .int .i64 ((x.a:Nat):Int),.int .i64 ((x.m:Nat):Int),.int .i64 ((x.c:Nat):Int),.int .i64 ((x.g:Nat):Int),.int .i64 ((x.fr:Nat):Int),.bool x.st,
 .int .i64 x.nx.k,.int .i64 x.nx.c,.int .i64 x.nx.o,.int .i64 x.nx.n,.bool dn,
 .int .i64 rs.err,.bool rs.found,.int .u64 rs.val,.string rs.key,.int .i64 rs.hJ,.int .i64 rs.ref,.int .i64 rs.root,.bool rs.ro,
 .bool false,.slice none 0 0,.slice none 0 0]⟩ 113 (0,0)),(bm,mO x.L x.cs x.gen x.acc x.pn x.cn x.pc x.cc)] A F [⟨x.pg,aJ x.got,x.kg,52,1⟩,⟨x.pm,aJ x.made,x.km,52,1⟩,⟨x.pl,aJ x.cel,x.kl,31,1⟩,⟨x.pe,aJ x.gns,x.ke,3,1⟩,⟨x.pn,iD x.L,x.cn,59,14⟩,⟨x.pc,aJ x.cs,x.cc,52,1⟩] w:=h
theorem cN{w0 w:World}{D:List Nat}{k:Cl}{bx bm:Nat}{x:XS}{dn:Bool}{rs:Rs}{A F:Fr}(h:SF w0 D (xH k bx bm x dn rs) A F (xW x) w) :
  SF w0 D [(bx,.cells ⟨z0 k bm x dn rs⟩ 113 (0,0)),(bm,mO x.L x.cs x.gen x.acc x.pn x.cn x.pc x.cc)] A F [⟨x.pg,aJ x.got,x.kg,52,1⟩,⟨x.pm,aJ x.made,x.km,52,1⟩,⟨x.pl,aJ x.cel,x.kl,31,1⟩,⟨x.pe,aJ x.gns,x.ke,3,1⟩,⟨x.pn,iD x.L,x.cn,59,14⟩,⟨x.pc,aJ x.cs,x.cc,52,1⟩] w:=h
end

/- A store of several cells into a known block. -/
end Go.Proofs.YtpobgmdalcpomaaGreat
namespace Go.Ct
section
open Go Go.RowKit
section
variable{P:Program}{n:Nat}{ds:List Deferred}{Q:Exit->Act->World->Prop}{ks:List CK}{S:List (Nat×Value)}{G:World->Prop}{ops:Array Oper}{l:List Oper}
variable{w0:World}{M:List Nat}{H:List (Nat×Obj)}{A F:Fr}{O:List Ow}
variable{d:Nat}{ty t:TypeId}{pos:String}{af:Array Edge}{gd:Option (Nat×Bool)}{dst:Option Nat}{x y:Operand}{v:Value}{w w':World}
theorem pX{b off i:Nat}{vs cE cs:List Value}{T:TypeId}{H':List (Nat×Obj)}(hx:ev S x=.pointer (some ⟨b,off,none⟩))(ha:At H i b (.cells ⟨cE⟩ T (0,0)))(hy:ev S y=.agg ⟨vs⟩)(h1:vs.all (·.oneCell')=true)
  (ht:kL P t vs.length=true) (hl:off+vs.length<=cE.length) (hcs:cE.take off++vs++cE.drop (off+vs.length)=cs) (hH:setAt H i (.cells ⟨cs⟩ T (0,0))=H') :
  aP P S (St w0 M H) ⟨none,.store t x y,ty,pos,af,gd⟩ Unit (λ _=>undef) (λ _=>St w0 M H') :=
 wG (λ w hw=>by
  subst hH hcs
  have hb:=hw.at ha
  obtain⟨dd,hu,hm,hi⟩:=iO ht
  have hst:=run_storeCells_at (P:=P) b off T vs 0 ⟨cE⟩ w hb (by simpa using hl) (by simpa using h1)
  simp only[Nat.add_zero] at hst
  refine⟨w.setRow b ⟨cE.take off++vs++cE.drop (off+vs.length)⟩,?_,hw.write ha rfl rfl rfl (by simp) (λ k hk=>setRow_other w b k _ hk) (setRow_heap w b ⟨cE⟩ _ T (0,0) hb)⟩
  cases hq':P.info? t with
  | none=>rw[hq'] at hi;simp at hi
  | some inf =>
   have hs:inf.size=vs.length:=by rw[hq'] at hi;simpa using hi
   simp[execOp,hx,hy,Instr.storeAt,Instr.sureAddr,storeVar,sizeOf,typeInfo,hq',hs,Value.cells,hst])
end
end

end Go.Ct

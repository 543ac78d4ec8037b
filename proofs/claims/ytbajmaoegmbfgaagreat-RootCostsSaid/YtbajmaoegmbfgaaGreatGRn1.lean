/- The reference of dual: the nodes that are allocated for two keys. -/
import Derived.Test.YtbajmaoegmbfgaaGreatGVw1
import Derived.Test.YtbajmaoegmbfgaaGreatGBr
import Derived.Test.YtbajmaoegmbfgaaGreatGPa1
import Derived.Test.YtbajmaoegmbfgaaGreatGMst

set_option linter.unusedSimpArgs false
set_option linter.unusedVariables false
namespace Go.Ct
section
open Go Go.RowKit
def two(i k:Nat)(x s:Int):List Int:=if i<k then [x,s] else [s,x]
structure NI where
 n:Nd
 xs:List Int
 ys:List Pr
 init:Int
def AX.no:AX:=⟨none,0,none,0,none,0,none,0⟩
def NI.c(a:NI)(c:Nat):Nv:=(jU a.n a.xs a.ys c AX.no).c
abbrev Fu(h:Nat)(ys:List Pr):NI:=⟨{Nd.zero with kind:=6,hash:=(h:Int)},[],ys,0⟩
abbrev vO(h:Nat)(k:ByteArray)(u:Int):NI:=⟨{Nd.zero with kind:=4,hash:=(h:Int),key:=k,val:=u},[],[],0⟩
abbrev rC(gen m:Int):NI:=⟨{Nd.zero with kind:=2,gen:=gen},[],[],m⟩
abbrev fh(b:Nat)(xs:List Int):NI:=⟨{Nd.zero with kind:=3,bm:=(b:Int)},xs,[],0⟩
def NI.no:NI:=⟨Nd.zero,[],[],0⟩
structure Jd(v:aP)(a:NI):Prop where
 xs:v.xs=a.xs
 ys:v.ys=a.ys
 kind:v.nd.kind=a.n.kind
 c:∀k,(jU v.nd v.xs v.ys k AX.no).c=a.c k
 fit:v.Fit
 sx:v.xs.length<=1000
 sy:v.ys.length<=1000
 c0:v.c=a.n.c a.xs a.ys
inductive oY:List aP->List NI->Prop where
 | nil:oY [] []
 | cons {v:aP} {a:NI} {L:List aP} {l:List NI} (h:Jd v a) (hr:oY L l):oY (v::L) (a::l)
theorem oY.len{L:List aP}{l:List NI}(h:oY L l):L.length=l.length:=by
 induction h with
 | nil=>rfl
 | cons _ _ ih=>simp[ih]
theorem oY.append{L M:List aP}{l m:List NI}(h:oY L l)(h2:oY M m):oY (L++M) (l++m):=by
 induction h with
 | nil=>exact h2
 | cons h _ ih=>exact .cons h ih
theorem oY.at{L:List aP}{l:List NI}(h:oY L l){i:Nat}(hi:i<L.length):∃a,l[i]?=some a/\Jd (L.getD i aP.zero) a:=by
 induction h generalizing i with
 | nil=>simp at hi
 | @cons v a L l h _ ih =>
  cases i with
  | zero=>exact⟨a,rfl,h⟩
  | succ i =>
   obtain⟨b,h1,h2⟩:=ih (i:=i) (by simpa using hi)
   exact⟨b,by simpa using h1,by simpa using h2⟩
def Ha(l:List NI):List Int:=l.map NI.init
theorem SF.aBJ{w0 w:World}{M:List Nat}{H:List (Nat×Obj)}{A F:Fr}{O:List Ow}{f1 f2:Option Addr×List Value}(h:SF w0 M H A (f1::f2::F) O w):SF w0 M H A (f2::f1::F) O w:=h.eY λ f hf=>.inr (by
 simp only[List.mem_cons] at hf ⊢
 rcases hf with h|h|h
 ·exact .inr (.inl h)
 ·exact .inl h
 ·exact .inr (.inr h))
theorem SF.aCc{w0 w:World}{M:List Nat}{H:List (Nat×Obj)}{A F:Fr}{O:List Ow}{i c:Nat}{p:Option Addr}(h:SF w0 M H A F O w){l:List Int}{T:TypeId}(ho:xN O i p (aH l) c T 1):l.length<=c:=by
 rcases(h.own _ ho.mem).1 with⟨_,h2,_⟩|⟨b,rest,_,_,h3⟩
 ·have h2':aH l=[]:=h2
  have:(aH l).length=0:=by rw[h2'];rfl
  rw[jE] at this
  omega
 ·have h3':(aH l++rest).length=c*1:=h3
  rw[List.length_append,jE] at h3'
  omega
end
end Go.Ct
namespace Go.Proofs.YtbajmaoegmbfgaaGreat
section
open Go Go.RowKit Go.Ct
def dN(x:Int)(h0 h:Nat)(p0:Pr)(k:ByteArray)(u gen:Int)(f:Nat):Nat->Nat->List NI
 | 0,lvl=>if lvl=11 then [Fu h (Ee [p0,(k,u)])] else [vO h k u,fh (dO (dO 0 (sl h0 lvl:Int)) (sl h lvl:Int)) (two (sl h0 lvl) (sl h lvl) x (f:Int))]
 | n+1,lvl=>dN x h0 h p0 k u gen f n (lvl+1)++[rC gen ((f-1+(dN x h0 h p0 k u gen f n (lvl+1)).length:Nat):Int),fh (dO 0 (sl h lvl:Int)) [((f+(dN x h0 h p0 k u gen f n (lvl+1)).length:Nat):Int)]]
theorem Ts{x:Int}{h0 h:Nat}{p0:Pr}{k:ByteArray}{u gen:Int}{f:Nat}:∀n lvl,(dN x h0 h p0 k u gen f n lvl).length<=2+2*n
 | 0,lvl=>by
  unfold dN
  split<;>simp
 | n+1,lvl=>by
  have:=Ts (x:=x) (h0:=h0) (h:=h) (p0:=p0) (k:=k) (u:=u) (gen:=gen) (f:=f) n (lvl+1)
  unfold dN
  simp only[List.length_append,List.length_cons,List.length_nil]
  omega
theorem tm{i k:Nat}(hi:i<64)(hk:k<64)(hne:i≠k)(a b:Int)(w:World) :
  Calls Tryz.prog 261 #[.int .i64 (i:Int),.int .i64 a,.int .i64 (k:Int),.int .i64 b] w λ e w'=>∃p:Option Addr,e=.returned (.agg ⟨[.int .i64 3,.int .i64 0,.int .i64 0,.int .u64 ((dO (dO 0 (i:Int)) (k:Int):Nat):Int),.slice p 2 2,.int .u64 0,.string ⟨#[]⟩,.int .u64 0,.slice none 0 0,.int .i64 0,.int .i64 0,.int .i64 0,.int .i64 0,.int .i64 0]⟩)/\True/\SF w [] [] [] [(p,aH (two i k a b))] [] w':=by
 refine enter Tryz.func261 Tryz.ntmps261 rfl rfl (SF.s0 w) ?_
 simp only[cA]
 refine J0 ?_;refine aJ (λ x8=>?_);refine aG ?_;refine J2 ?_;refine aN (cV (hc:=λ w1 hw=>nK (n:=0) (by decide) (i:Int) w1)) (λ x11=>?_);refine aA ?_;refine aN (cV (hc:=λ w1 hw=>nK (n:=dO 0 (i:Int)) (Bo (by decide) _) (k:Int) w1)) (λ x13=>?_);refine pV ?_;refine fF (λ x16=>?_);refine bI ?_;refine aJ (λ x9=>?_);refine J5 ?_;refine Db ?_;refine Bv ?_
 refine bD (λ c20=>?_) (λ c20=>?_)
 ·refine Jc ?_;refine fF (λ x23=>?_);refine vF ?_;refine nF ?_;refine J5 ?_
  refine aY Tryz.results261 (λ w hw=>?_)
  first
  | exact⟨some ⟨x23,0,none⟩,rfl,trivial,by rw[show two i k a b=[b,a] from if_neg (by omega)];exact hw.ret (List.nil_sublist _) (aV.iM λ f hf=>by rw[List.mem_singleton.1 hf];exact .head _) (List.Sublist.refl _)⟩
  | exact⟨some ⟨x16,0,none⟩,rfl,trivial,by rw[show two i k a b=[a,b] from if_pos (by omega)];exact hw.ret (List.nil_sublist _) (aV.iM λ f hf=>by rw[List.mem_singleton.1 hf];exact .head _) (List.Sublist.refl _)⟩
 ·refine aW ?_;refine nF ?_;refine J5 ?_
  refine aY Tryz.results261 (λ w hw=>?_)
  first
  | exact⟨some ⟨x16,0,none⟩,rfl,trivial,by rw[show two i k a b=[a,b] from if_pos (by omega)];exact hw.ret (List.nil_sublist _) (aV.iM λ f hf=>by rw[List.mem_singleton.1 hf];exact .head _) (List.Sublist.refl _)⟩
theorem ql{l:List Pr}{a:Option Addr}{c:Nat}{w:World}(ha:Cl w a (cZ l))(hlen:l.length<=200000000000) :
  Calls Tryz.prog 61 #[.slice a l.length c] w λ e w'=>∃x:Option Addr×Nat,e=.returned (.slice x.1 (Ee l).length x.2)/\(Ee l).length<=x.2/\SF w [] [] [] [(x.1,cZ (Ee l))] [] w':=(rq ha hlen).mono λ _ _ h=>h
theorem D8{h l:Nat}{i:Int}(hi:i=(l:Int))(hh:h<18446744073709551616)(hl:l<=10)(w:World):Calls Tryz.prog 218 #[.int .u64 (h:Int),.int .i64 i] w λ e w'=>e=.returned (.int .i64 ((sl h l:Nat):Int))/\St w [] [] w':=by
 subst hi
 exact qB hh hl w
abbrev M8(h:Nat)(ys:List Pr)(p:Option Addr)(c:Nat):aP:=⟨{Nd.zero with kind:=6,hash:=(h:Int),prA:=p,prN:=ys.length,cZ:=c},[],ys⟩
abbrev Ba(h:Nat)(k:ByteArray)(u:Int):aP:=⟨{Nd.zero with kind:=4,hash:=(h:Int),key:=k,val:=u},[],[]⟩
abbrev yF(gen:Int):aP:=⟨{Nd.zero with kind:=2,gen:=gen},[],[]⟩
abbrev ov(n b:Nat)(xs:List Int)(p:Option Addr):aP:=⟨{Nd.zero with kind:=3,bm:=(b:Int),brA:=p,brN:=n,brC:=n},xs,[]⟩
theorem z35:(0:Nat)<=35184372088832:=Nat.zero_le _
theorem z11:(0:Nat)<=11728124029610:=Nat.zero_le _
theorem s4{h:Nat}{ys:List Pr}{p:Option Addr}{c:Nat}(hy:ys.length<=1000):Jd (M8 h ys p c) (Fu h ys):=⟨rfl,rfl,rfl,λ _=>rfl,⟨rfl,rfl,z35,by show ys.length<=_;omega⟩,Nat.zero_le _,hy,rfl⟩
theorem Xz{h:Nat}{k:ByteArray}{u:Int}:Jd (Ba h k u) (vO h k u):=⟨rfl,rfl,rfl,λ _=>rfl,⟨rfl,rfl,z35,z11⟩,Nat.zero_le _,Nat.zero_le _,rfl⟩
theorem gf{gen m:Int}:Jd (yF gen) (rC gen m):=⟨rfl,rfl,rfl,λ _=>rfl,⟨rfl,rfl,z35,z11⟩,Nat.zero_le _,Nat.zero_le _,rfl⟩
theorem aBS{n b:Nat}{xs:List Int}{p:Option Addr}(hn:n=xs.length)(hx:xs.length<=1000):Jd (ov n b xs p) (fh b xs):=⟨rfl,rfl,rfl,λ _=>rfl,⟨hn,rfl,by show xs.length<=_;omega,z11⟩,hx,Nat.zero_le _,rfl⟩
structure RX where
 L:List aP
 ini:List Int
 pn:Option Addr
 cn:Nat
 pc:Option Addr
 cc:Nat
structure Ix(r:RX)(l:List NI):Prop where
 m:oY r.L l
 ini:r.ini=Ha l
theorem Ix.len{r:RX}{l:List NI}(h:Ix r l):r.L.length=l.length/\r.ini.length=l.length:=⟨h.m.len,by rw[h.ini];simp[Ha]⟩
theorem Ix.push{r:RX}{l:List NI}(h:Ix r l){gen m:Int}{n b:Nat}{xs:List Int}{p pn pc:Option Addr}{cn cc:Nat}(hn:n=xs.length)(hx:xs.length<=1000):Ix ⟨r.L++[yF gen,ov n b xs p],r.ini++[m,0],pn,cn,pc,cc⟩ (l++[rC gen m,fh b xs]) :=
 ⟨h.m.append (.cons gf (.cons (aBS hn hx) .nil)),by show r.ini++_=_;rw[h.ini];simp[Ha,rC,fh]⟩
theorem Sh{L:List aP}{gen:Int}{b:Nat}{r:Int}{p:Option Addr}{F:Fr}{f:Option Addr×List Value}(hf:f∈aL (L++[yF gen,ov 1 b [r] p]))(h1:(p,aH [r])∈F)(h2:f∈aL L->f∈F):f.2=[]∨f∈F:=by
 simp only[aL,List.flatMap_append] at hf
 rcases List.mem_append.1 hf with hf|hf
 ·exact .inr (h2 hf)
 ·simp[aP.fr] at hf
  rcases hf with rfl|rfl|rfl|rfl
  ·exact .inl rfl
  ·exact .inl rfl
  ·exact .inr h1
  ·exact .inl rfl
variable{v:aP}{at':Int}{h0 h:Nat}{k:ByteArray}{u gen:Int}{fi lvl:Nat}
abbrev dQ(at':Int)(h0 h:Nat)(v:aP)(k:ByteArray)(u gen:Int)(fi:Nat)(n:Nat):List NI:=dN at' h0 h (v.nd.key,v.nd.val) k u gen fi n (lC h0 h-n)
theorem oa{n:Nat}(hn:n<lC h0 h):dQ at' h0 h v k u gen fi (n+1)=dQ at' h0 h v k u gen fi n++[rC gen ((fi-1+(dQ at' h0 h v k u gen fi n).length:Nat):Int),fh (dO 0 (sl h (lC h0 h-(n+1)):Int)) [((fi+(dQ at' h0 h v k u gen fi n).length:Nat):Int)]]:=by
 have e:lC h0 h-(n+1)+1=lC h0 h-n:=by omega
 unfold dQ
 rw[dN,e]
theorem aAu{x y z:Option Addr}{c a b:Nat}(hc:lC h0 h=11):Ix ⟨[M8 h (Ee [(v.nd.key,v.nd.val),(k,u)]) z c],[0],x,a,y,b⟩ (dQ at' h0 h v k u gen fi 0):=by
 have e:dQ at' h0 h v k u gen fi 0=[Fu h (Ee [(v.nd.key,v.nd.val),(k,u)])]:=by
  unfold dQ dN
  exact if_pos hc
 rw[e]
 exact⟨.cons (s4 (Nat.le_trans (U1 _) (by simp))) .nil,rfl⟩
theorem yt{x y p:Option Addr}{a b:Nat}(hc:lC h0 h≠11):Ix ⟨[Ba h k u,ov 2 (dO (dO 0 (sl h0 (lC h0 h):Int)) (sl h (lC h0 h):Int)) (two (sl h0 (lC h0 h)) (sl h (lC h0 h)) at' (fi:Int)) p],[0,0],x,a,y,b⟩ (dQ at' h0 h v k u gen fi 0):=by
 have e:dQ at' h0 h v k u gen fi 0=[vO h k u,fh (dO (dO 0 (sl h0 (lC h0 h):Int)) (sl h (lC h0 h):Int)) (two (sl h0 (lC h0 h)) (sl h (lC h0 h)) at' (fi:Int))]:=by
  unfold dQ dN
  exact if_neg hc
 rw[e]
 exact⟨.cons Xz (.cons (aBS (by unfold two;split<;>rfl) (by unfold two;split<;>simp)) .nil),rfl⟩
theorem ab(hv:v.nd.hash=(h0:Int))(hh0:h0<18446744073709551616)(hh:h<18446744073709551616)(hf1:1<=fi)(hf2:fi<=274877906944)(w:World) :
    Calls Tryz.prog 257 #[.agg ⟨v.nd.cells⟩,.int .i64 at',.int .u64 (h:Int),.string k,.int .u64 u,.int .i64 (lvl:Int),.int .i64 gen,.int .i64 (fi:Int)] w λ e w' =>
      ∃d:RX,e=.returned (.tuple #[.slice d.pn d.L.length d.cn,.slice d.pc d.ini.length d.cc]) /\
      (Ix d (dQ at' h0 h v k u gen fi (lC h0 h-lvl))/\d.L.length<=d.cn/\d.ini.length<=d.cc) /\
      SF w [] [] [] ((d.pn,iO d.L)::(d.pc,aH d.ini)::aL d.L) [] w':=by
  have hcl:=zT h0 h
  refine enter Tryz.func257 Tryz.ntmps257 rfl rfl (SF.s0 w) ?_
  simp only[cA]
  refine J0 ?_;refine bK (λ x8=>?_);refine J8 ?_;refine Kd0 ?_;refine aN (cV (hc:=λ w1 hw=>by rw[hv];exact O6 hh0 hh w1)) (λ x26=>?_);refine iZ ?_
  refine dX [16,17,18,19,27,28,29,30,31,32,33,34,35,36,37,38,39,40,41,42,43,44,45,46,47,48,49,50,51,52,53,54,55,56,57,58,59] (λ q:RX=>[(16,.slice q.pn q.L.length q.cn),(17,.slice q.pc q.ini.length q.cc),(18,.int .i64 ((lC h0 h:Nat):Int))]) (λ q=>Ix q (dQ at' h0 h v k u gen fi 0)/\q.L.length<=2) (λ q=>[]) (λ q=>aL q.L) (λ q=>[⟨q.pn,iO q.L,q.cn,47,14⟩,⟨q.pc,aH q.ini,q.cc,37,1⟩]) (by decide) (λ _=>by exact rfl) ?_ (λ q f hx=>?_)
  · refine aS ?_
    refine Aa ?_;refine oG ?_;refine aG ?_
    refine bD (λ c28=>?_) (λ c28=>?_)
    · refine iB ?_;refine J3 ?_;refine bI ?_;refine pV ?_;refine bI ?_;refine fF (λ x37=>?_);refine aD (cF (V:=λ x:Option Addr×Nat=>.slice x.1 (Ee [(v.nd.key,v.nd.val),(k,u)]).length x.2) (hc:=λ w1 hw=>ql (l:=[(v.nd.key,v.nd.val),(k,u)]) (hw.cl (.new .head)) (by simp))) (λ x38 h38=>?_);refine Ai ?_;refine bI ?_;refine aN (Sf (c:=1) (sz:=14) rfl (λ _=>cW (cs:=iO [M8 h (Ee [(v.nd.key,v.nd.val),(k,u)]) x38.1 x38.2]) rU Jo rfl rfl rfl rfl rfl)) (λ x42=>?_);refine aN (Sf (c:=1) (sz:=1) rfl (λ _=>cW (cs:=aH [0]) qS Jo rfl rfl rfl rfl rfl)) (λ x43=>?_);refine J8 ?_;refine dG ?_;refine J1 ?_
      refine eE ((⟨[M8 h (Ee [(v.nd.key,v.nd.val),(k,u)]) x38.1 x38.2],[0],some ⟨x42,0,none⟩,1,some ⟨x43,0,none⟩,1⟩:RX)) ?_ (hw1:=λ w hw=>(hw.ki.eY λ f hf=>by simp[aL,aP.fr] at hf;rcases hf with rfl|rfl;exact .inl rfl;exact .inr (.head _)).sub (List.nil_sublist _) aV.all (List.Sublist.refl _))
      · have hne:lC h0 h=11:=by omega
        exact⟨aAu hne,Nat.le_succ 1⟩
    · refine Kb8 ?_;refine bI ?_;refine Kc9 ?_;refine aN (cV (hc:=λ w1 hw=>by rw[hv];exact qB (l:=lC h0 h) hh0 (by omega) w1)) (λ x51=>?_);refine pV ?_;refine aA ?_;refine aN (cV (hc:=λ w1 hw=>qB (l:=lC h0 h) hh (by omega) w1)) (λ x55=>?_);refine aA ?_;refine aD (cF (hc:=λ w1 hw=>tm (zC h0 (lC h0 h)) (zC h (lC h0 h)) (Lf (h:=h0) (k:=h) (by omega)) at' (fi:Int) w1)) (λ x57 h57=>?_);refine aN (Sf (c:=2) (sz:=14) rfl (λ _=>cW (cs:=iO [Ba h k u,ov 2 (dO (dO 0 (sl h0 (lC h0 h):Int)) (sl h (lC h0 h):Int)) (two (sl h0 (lC h0 h)) (sl h (lC h0 h)) at' (fi:Int)) x57]) rU Jo rfl rfl rfl rfl rfl)) (λ x58=>?_);refine J1 ?_;refine dG ?_;refine aN (Sf (c:=2) (sz:=1) rfl (λ _=>cW (cs:=aH [0,0]) qS Jo rfl rfl rfl rfl rfl)) (λ x59=>?_);refine J1 ?_
      refine eE ((⟨[Ba h k u,ov 2 (dO (dO 0 (sl h0 (lC h0 h):Int)) (sl h (lC h0 h):Int)) (two (sl h0 (lC h0 h)) (sl h (lC h0 h)) at' (fi:Int)) x57],[0,0],some ⟨x58,0,none⟩,2,some ⟨x59,0,none⟩,2⟩:RX)) ?_ (hw1:=λ w hw=>(hw.ki.eY λ f hf=>by simp[aL,aP.fr] at hf;rcases hf with rfl|rfl|rfl|rfl;exact .inl rfl;exact .inl rfl;exact .inr (.head _);exact .inl rfl).sub (List.nil_sublist _) aV.all (List.Sublist.refl _))
      · have hne:lC h0 h≠11:=by omega
        exact⟨yt hne,Nat.le_refl 2⟩
  dsimp only[hX,List.map,List.cons_append,List.nil_append]
  refine kR ?_;refine rY ?_;refine J1 ?_;refine dD ?_
  have hq2:=hx.1.len
  refine oK [16,17,20,21,22,62,63,64,65,66,67,68,69,70,71,72,73,74,75,76,77,78,79,80,81,82,83,84,85,86,87,88,89] (λ y:Nat×RX=>[(16,.slice y.2.pn y.2.L.length y.2.cn),(17,.slice y.2.pc y.2.ini.length y.2.cc),(20,.int .i64 (((lC h0 h-y.1:Nat):Int)-1))]) (λ y=>y.1<=lC h0 h-lvl/\Ix y.2 (dQ at' h0 h v k u gen fi y.1)/\y.2.L.length<=2+2*y.1) (λ _=>_) (λ y=>aL y.2.L) (λ y=>[⟨y.2.pn,iO y.2.L,y.2.cn,47,14⟩,⟨y.2.pc,aH y.2.ini,y.2.cc,37,1⟩]) (λ y=>lC h0 h-lvl-y.1) ((0,q)) (⟨Nat.zero_le _,hx⟩) (λ y f hx=>?_) (hw0:=λ w hw=>hw.sub (List.Sublist.refl _) aV.all (List.Sublist.refl _))
  dsimp only[hX,List.map,List.cons_append,List.nil_append]
  obtain⟨hy1,hy2,hy3⟩:=hx
  obtain⟨hy4,hy5⟩:=hy2.len
  refine Db ?_;refine oG ?_;refine aG ?_
  refine bD (λ c64=>?_) (λ c64=>?_)
  · obtain⟨lv,elv⟩:∃lv:Nat,lC h0 h-(y.1+1)=lv:=⟨_,rfl⟩
    have elv2:(((lC h0 h-y.1:Nat):Int)-1)=(lv:Int):=by omega
    have hlv2:lv<=10:=by omega
    refine rR ?_;refine jJ ?_;refine eA ?_;refine aC (oW rf rf (by omega)) rfl ?_;refine aC (jR (n:=1) rf rf (by omega) (by omega)) rfl ?_;refine Ai ?_;refine aN (cV (hc:=λ w1 hw=>D8 elv2 hh hlv2 w1)) (λ x74=>?_);refine Ai ?_;refine bI ?_;refine aA ?_;refine aN (cV (hc:=λ w1 hw=>nK (n:=0) (by decide) (sl h lv:Int) w1)) (λ x79=>?_);refine aA ?_;refine aC (oW (n:=1) rf rf (by omega)) rfl ?_;refine aN (Md (λ _=>cW (cs:=aH [((fi+y.2.L.length-1+1:Nat):Int)]) qS Jo rfl rfl rfl rfl rfl)) (λ x82=>?_);refine bI ?_;refine aN (Md (λ _=>cW (cs:=iO [yF gen,ov 1 (dO 0 (sl h lv:Int)) [((fi+y.2.L.length-1+1:Nat):Int)] (some ⟨x82,0,none⟩)]) rU Jo rfl rfl rfl rfl rfl)) (λ x84=>?_);(refine aN (bG.eM (fx (k:=2) (L2:=[yF gen,ov 1 (dO 0 (sl h lv:Int)) [((fi+y.2.L.length-1+1:Nat):Int)] (some ⟨x82,0,none⟩)]) rf rf yX rfl fin rfl Kz rfl gH (by omega)) vJ) (λ x85=>?_);try (refine eN (λ h85=>?_)));refine J1 ?_;refine Jc ?_;refine aN (Md (λ _=>cW (cs:=aH [((fi+y.2.L.length-1:Nat):Int),0]) qS Jo rfl rfl rfl rfl rfl)) (λ x88=>?_);(refine aN (bG.eM (Uo (k:=2) (l2:=[((fi+y.2.L.length-1:Nat):Int),0]) rf rf yX rfl fin rfl Zr gH (by omega)) vJ) (λ x89=>?_);try (refine eN (λ h89=>?_)));refine J1 ?_;refine fG ?_;refine Aa ?_;refine rY ?_;refine J1 ?_
    refine jG ((y.1+1,(⟨y.2.L++[yF gen,ov 1 (dO 0 (sl h lv:Int)) [((fi+y.2.L.length-1+1:Nat):Int)] (some ⟨x82,0,none⟩)],y.2.ini++[((fi+y.2.L.length-1:Nat):Int),0],x85.1,x85.2,x89.1,x89.2⟩:RX))) ?_ (hw1:=λ w hw=>hw.eY λ f hf=>Sh hf (.tail _ (.tail _ (.head _))) (λ hf=>.tail _ (.tail _ (.tail _ hf))))
    · refine⟨by omega,?_,by simp only[List.length_append,List.length_cons,List.length_nil];omega⟩
      have e1:dQ at' h0 h v k u gen fi (y.1+1)=dQ at' h0 h v k u gen fi y.1++[rC gen ((fi+y.2.L.length-1:Nat):Int),fh (dO 0 (sl h lv:Int)) [((fi+y.2.L.length-1+1:Nat):Int)]]:=by
       rw[oa (by omega),elv,<- hy4,show fi-1+y.2.L.length=fi+y.2.L.length-1 by omega,show fi+y.2.L.length-1+1=fi+y.2.L.length by omega]
      rw[e1]
      exact hy2.push rfl (by simp)
  · have en:y.1=lC h0 h-lvl:=by omega
    refine bR rfl ?_;refine jJ ?_;refine J8 ?_
    refine aY Tryz.results257 (λ w hw=>?_)
    refine⟨y.2,rfl,⟨?_,?_,?_⟩,?_⟩
    · rw[<- en]
      exact hy2
    · exact hw.xh .head
    · exact hw.aCc (.tail .head)
    · exact((hw.freeze .head).freeze .head).aBJ.ret (List.nil_sublist _) aV.all (List.nil_sublist _)
end

/- The procedures with shared cells, as trees. -/
end Go.Proofs.YtbajmaoegmbfgaaGreat
namespace Go.Ct
section
def NI.c0(a:NI):Nv:=a.n.c a.xs a.ys
end
end Go.Ct
namespace Go.Proofs.YtbajmaoegmbfgaaGreat
section
open Go.RowKit Go.Ct
structure eQ where
 root:Int
 ro:Bool
structure Cl where
 kind:Int
 t:eQ
 a:Int
 b:Int
 n:Int
 index:Int
 hash:Int
 mask:Int
 key:ByteArray
 val:Int
 exp:Int
 Iy:Int
 only:Bool
def iA(h:Nat)(level:Int):Int:=if level<0∨10<level then 0 else(sl h level.toNat:Int)
def yV(p:Int):Nv:=({Nd.zero with kind:=7,bA:=p}:Nd).c [] []
def iC(g:Int):Nv:=({Nd.zero with kind:=2,gen:=g}:Nd).c [] []
def Bp(a b c:Int):Nv:=({Nd.zero with kind:=8,bA:=a,exp:=b,new:=c}:Nd).c [] []
def Iq(h:Int)(k:ByteArray)(u:Int):Nv:=({Nd.zero with kind:=4,hash:=h,key:=k,val:=u}:Nd).c [] []
def Nf:Nv:=({Nd.zero with kind:=3}:Nd).c [] []
def xi(v s:Int)(K:Int->Tr):Tr:=.node v λ n=>K (if s=1 then n.new else n.bA)
def iE(t:eQ)(v s:Int)(K:Int->Tr):Tr:=xi v s λ w=>.hY t.root v w λ _=>K w
def yW(t:eQ)(K:Int->Tr):Tr:=.load t.root λ v=>.node v λ n=>if n.kind=2 then K v else .node v λ n=>.load n.status λ s =>
 if s=0 then .node v λ n=>.hY n.status 0 2 λ _=>.node v λ n=>.load n.status λ s=>iE t v s K else iE t v s K
def Bb(i m p:Int)(K:Int->Tr):Tr:=.node i λ ni=>.node p λ np=>.hY ni.main m np.bA λ _=>.node p λ np=>K np.bA
def iK(i m:Int)(K:Int->Tr):Tr:=.node m λ nm=>.load nm.prev λ p=>if p=0 then K m else Bb i m p K
def jK(i m p:Int)(c:Bool)(K:Int->Tr):Tr :=
 if c=true then .node m λ nm=>.hY nm.prev p 0 λ _=>iK i m K
 else .node m λ nm=>.alloc (yV p) 0 λ f=>.hY nm.prev p f λ _=>iK i m K
def mI(t:eQ)(i m:Int)(K:Int->Tr):Tr:=.node m λ nm=>.load nm.prev λ p=>if p=0 then K m else .node p λ np =>
 if cG np then(if t.ro=true then jK i m p false K else yW t λ r=>.node r λ nr=>.node i λ ni=>jK i m p (nr.gen==ni.gen) K)
 else Bb i m p K
def lR(t:eQ)(i:Int)(K:Int->Tr):Tr:=.node i λ ni=>.load ni.main λ m=>mI t i m K
def lG(t:eQ)(v:Int)(K:Tr):Tr:=.node v λ n=>lR t n.bA λ r=>.node v λ n2=>.node v λ n3=>.hY n3.status 0 (if r=n2.exp then 1 else 2) λ _=>K
def mL(t:eQ)(K:Int->Tr):Tr:=.load t.root λ v=>.node v λ n=>if n.kind=2 then K v else .node v λ n=>.load n.status λ s =>
 if s=0 then lG t v (.node v λ n=>.load n.status λ s=>iE t v s K) else iE t v s K
def oS(t:eQ)(i bA n:Int)(K:Bool->Tr):Tr:=.node i λ ni=>.hY ni.main bA n λ b=>if b=true then mI t i n λ m=>K (m==n) else K false
def lP(t:eQ)(bA exp new:Int)(K:Bool->Tr):Tr:=.alloc (Bp bA exp new) 0 λ d=>.hY t.root bA d λ b =>
 if b=true then lG t d (.node d λ nd=>.load nd.status λ s=>iE t d s λ _=>K (s==1)) else K false
noncomputable def G8 (c index r:Int) (K:Int->Tr):Tr:=.node c λ nc=>.alloc (ir nc index r) c K
noncomputable def My (t:eQ) (i c index:Int) (K:Int->Tr):Tr:=.node c λ nc=>lR t ((mE nc index).getD 0) λ m=>.node i λ ni=>.alloc (iC ni.gen) m λ j =>
 G8 c index j λ r=>oS t i c r λ ok=>K (if ok=true then j else 0)
noncomputable def zR (t:eQ) (parent child:Int) (h:Nat) (level:Int) (K:Bool->Tr):Tr:=lR t parent λ m=>.node m λ nm =>
 if mE nm (iA h level)=some child then lR t child λ mc=>.node mc λ nmc =>
  if nmc.kind=5 then .alloc (unV nmc) 0 λ s=>.node m λ nm2=>.alloc (coV (ir nm2 (iA h level) s) level (unV nmc)) m λ r=>oS t parent m r K
  else K false
 else K false
def jW(f:Bool)(v:Int):Rs:=⟨0,f,v,⟨#[]⟩,0,0,0,false⟩
def rX(f:Bool)(v:Int):Rs:=⟨0,f,v,⟨#[]⟩,1,0,0,false⟩
noncomputable def Dz (t:eQ) (h:Nat) (key:ByteArray) (K:Rs->Tr):Nat->Int->Int->Tr
 | 0,_,_=>.stuck
 | n+1,i,level=>lR t i λ mr=>.node mr λ m =>
  if m.kind=5 then(if m.key=key then K (jW true m.val) else K (jW false 0))
  else if m.kind=6 then K (jW (dU m.ys key).isSome ((dU m.ys key).getD 0))
  else match mE m (iA h level) with
   | none=>K (jW false 0)
   | some b=>.node b λ s=>if s.kind=4 then(if s.key=key then K (jW true s.val) else K (jW false 0)) else Dz t h key K n b (level+1)
def oO(c:Cl)(found:Bool)(v:Int):Bool:=if c.Iy=1 then !found else if c.Iy=2 then found else if c.Iy=3 then found&&v==c.exp else true
def A5:List NI->Int->(Int->Tr)->Tr
 | [],r,K=>K r
 | a::l,_,K=>.alloc a.c0 a.init λ r=>A5 l r K
def dP(at_:Int)(h0 h:Nat)(p:Pr)(k:ByteArray)(u gen:Int)(fi lvl:Nat):List NI:=dN at_ h0 h p k u gen fi (lC h0 h-lvl) (lC h0 h-(lC h0 h-lvl))
def U6(c:Cl)(b:Int)(h:Nat)(level:Nat)(gen:Int)(K:Int->Tr):Tr:=.node b λ nb =>
 .alloc ((dP b nb.hash.toNat h (nb.key,nb.val) c.key c.val gen 0 level).headD NI.no).c0 ((dP b nb.hash.toNat h (nb.key,nb.val) c.key c.val gen 0 level).headD NI.no).init λ f =>
 A5 (dP b nb.hash.toNat h (nb.key,nb.val) c.key c.val gen f.toNat level).tail f K
noncomputable def mR (c:Cl) (i m:Int) (h:Nat) (level:Nat) (gen:Int) (K:Rs->Int->Tr):Tr:=.node m λ n =>
 if n.kind=6 then
  (if oO c (dU n.ys c.key).isSome ((dU n.ys c.key).getD 0)=true then
   .alloc (xc n c.key c.val) m λ r=>oS c.t i m r λ ok=>K (rX (dU n.ys c.key).isSome ((dU n.ys c.key).getD 0)) (if ok=true then 1 else 0)
  else K (jW (dU n.ys c.key).isSome ((dU n.ys c.key).getD 0)) 1)
 else match mE n (iA h level) with
  | none=>if oO c false 0=true then .alloc (Iq h c.key c.val) 0 λ s=>.alloc (xd n (iA h level) s) m λ r=>oS c.t i m r λ ok=>K (rX false 0) (if ok=true then 1 else 0) else K (jW false 0) 1
  | some b=>.node b λ nb=>if nb.kind=2 then K Rs.zero 2 else
   if nb.key=c.key then
    (if oO c true nb.val=true then .alloc (Iq h c.key c.val) 0 λ s=>G8 m (iA h level) s λ r=>oS c.t i m r λ ok=>K (rX true nb.val) (if ok=true then 1 else 0)
    else K (jW true nb.val) 1)
   else
    (if oO c false 0=true then U6 c b h (level+1) gen λ d=>.alloc (iC gen) d λ j=>G8 m (iA h level) j λ r=>oS c.t i m r λ ok=>K (rX false 0) (if ok=true then 1 else 0)
    else K (jW false 0) 1)
noncomputable def Gj (c:Cl) (i m index gen:Int) (K:Int->Tr):Tr:=.node m λ nm=>.node ((mE nm index).getD 0) λ nb=>if nb.gen=gen then K ((mE nm index).getD 0) else My c.t i m index K
noncomputable def Dj (c:Cl) (h:Nat) (K:Rs->Tr) (again:Tr) (gen:Int):Nat->Int->Int->Nat->Tr
 | 0,_,_,_=>.stuck
 | n+1,i,parent,level=>lR c.t i λ m=>.node m λ nm =>
  if nm.kind=5 then zR c.t parent i h ((level:Int)-1) λ _=>again
  else mR c i m h level gen λ r what=>if what=1 then K r else if what=0 then again else
   Gj c i m (iA h level) gen λ b=>if b=0 then again else Dj c h K again gen n b i (level+1)
noncomputable def G5 (c:Cl) (h:Nat) (K:Rs->Tr):Nat->Tr
 | 0=>.stuck
 | n+1=>mL c.t λ i=>.node i λ ni=>Dj c h K (G5 c h K n) ni.gen n i 0 0
noncomputable def kM (c:Cl) (i m:Int) (h:Nat) (level:Nat) (K:Rs->Int->Tr):Tr:=.node m λ n =>
 if n.kind=6 then
  (if(dU n.ys c.key).isSome=false∨(c.only=true/\(dU n.ys c.key).getD 0≠c.exp) then K (jW (dU n.ys c.key).isSome ((dU n.ys c.key).getD 0)) 1
  else .alloc (qc n c.key) m λ r=>oS c.t i m r λ ok=>K (rX true ((dU n.ys c.key).getD 0)) (if ok=true then 1 else 0))
 else match mE n (iA h level) with
  | none=>K (jW false 0) 1
  | some b=>.node b λ s=>if s.kind=2 then K Rs.zero 2 else if s.key≠c.key then K (jW false 0) 1 else if c.only=true/\s.val≠c.exp then K (jW true s.val) 1
   else .node ((Lq (Nr n (iA h level))).getD 0) λ so=>.alloc (coV (Nr n (iA h level)) level so) m λ r=>oS c.t i m r λ ok=>K (rX true s.val) (if ok=true then 1 else 0)
noncomputable def vq (t:eQ) (path:List Int) (h:Nat) (K:Tr):Nat->Tr
 | 0=>K
 | l+1=>lR t (path.getD (l+1) 0) λ m=>.node m λ nm=>if nm.kind=5 then zR t (path.getD l 0) (path.getD (l+1) 0) h (l:Int) λ _=>vq t path h K l else K
noncomputable def wI (c:Cl) (h:Nat) (K:Rs->Tr) (again:Tr) (gen:Int):Nat->Int->List Int->Nat->Tr
 | 0,_,_,_=>.stuck
 | n+1,i,path,level=>lR c.t i λ m=>.node m λ nm =>
  if nm.kind=5 then zR c.t (path.getD (level-1) 0) i h ((level:Int)-1) λ _=>again
  else kM c i m h level λ r what=>if what=1 then(if r.gU=1 then vq c.t path h (K r) (path.length-1) else K r) else if what=0 then again else
   Gj c i m (iA h level) gen λ b=>if b=0 then again else wI c h K again gen n b (path++[b]) (level+1)
noncomputable def xD (c:Cl) (h:Nat) (K:Rs->Tr):Nat->Tr
 | 0=>.stuck
 | n+1=>mL c.t λ i=>.node i λ ni=>wI c h K (xD c h K n) ni.gen n i [i] 0
def Pg(root:Int)(ro:Bool):Rs:=⟨0,true,0,⟨#[]⟩,0,0,root,ro⟩
def Qw(m:Int)(K:Rs->Tr):Tr:=.gen λ g=>.alloc (iC g) m λ r=>.cell r λ c=>K (Pg c false)
def Jn(t:eQ)(fz:Bool)(K:Rs->Tr):Nat->Tr
 | 0=>.stuck
 | n+1=>mL t λ r=>lR t r λ m=>.gen λ g=>.alloc (iC g) m λ j=>lP t r m j λ ok =>
  if ok=true then(if fz=true then .cell r λ c=>K (Pg c true) else Qw m K) else Jn t fz K n
def tI(t:eQ)(fz:Bool)(K:Rs->Tr)(n:Nat):Tr :=
 if t.ro=true then .load t.root λ r=>if fz=true then .cell r λ c=>K (Pg c true) else lR t r λ m=>Qw m K
 else Jn t fz K n
def zW(t:eQ)(K:Rs->Tr):Nat->Tr
 | 0=>.stuck
 | n+1=>mL t λ r=>lR t r λ m=>.alloc Nf 0 λ c=>.gen λ g=>.alloc (iC g) c λ j=>lP t r m j λ ok =>
  if ok=true then K (jW true 0) else zW t K n
def gC(r:Int)(f:Bool):Rs:=⟨0,f,0,⟨#[]⟩,0,r,0,false⟩
def refuse(c:Cl):Int:=if c.kind=7∨c.kind=9 then(if c.key.size<=64 then 0 else 1) else if c.kind=8 then(if c.key.size<=64/\0<=c.Iy/\c.Iy<=3 then 0 else 1) else 0
noncomputable def lA (c:Cl) (h:Nat) (n:Nat):Tr :=
 if refuse c≠0 then .done {Rs.zero with err:=refuse c}
 else if c.kind=1 then lR c.t c.a λ r=>.done (gC r false)
 else if c.kind=2 then oS c.t c.a c.b c.n λ ok=>.done (gC 0 ok)
 else if c.kind=3 then mL c.t λ r=>.done (gC r false)
 else if c.kind=4 then lP c.t c.a c.b c.n λ ok=>.done (gC 0 ok)
 else if c.kind=7 then mL c.t λ i=>Dz c.t h c.key .done n i 0
 else if c.kind=8 then G5 c h .done n
 else if c.kind=9 then xD c h .done n
 else if c.kind=10 then tI c.t false .done n
 else if c.kind=11 then tI c.t true .done n
 else zW c.t .done n
end

end Go.Proofs.YtbajmaoegmbfgaaGreat

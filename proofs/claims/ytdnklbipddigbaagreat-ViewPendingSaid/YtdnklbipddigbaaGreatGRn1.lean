/- Merged. -/
import Derived.Test.YtdnklbipddigbaaGreatGVw1
import Derived.Test.YtdnklbipddigbaaGreatGNode8
import Derived.Test.YtdnklbipddigbaaGreatGPa1
import Derived.Test.YtdnklbipddigbaaGreatGRs0
import Derived.Test.YtdnklbipddigbaaGreatGLst3
import Derived.Test.YtdnklbipddigbaaGreatGMst
import Derived.Defers
import Derived.Recover
set_option linter.unusedSimpArgs false
set_option linter.unusedVariables false
namespace Go.Ct
open Go Go.RowKit
section
def two(i k:Nat)(x s:Int):List Int:=if i<k then [x,s] else [s,x]
structure NI where
 n:Nd
 xs:List Int
 ys:List Pr
 init:Int
def AX.no:AX:=⟨none,0,none,0,none,0,none,0⟩
def NI.c(a:NI)(c:Nat):Nv:=(alV a.n a.xs a.ys c AX.no).c
abbrev niList(h:Nat)(ys:List Pr):NI:=⟨{Nd.zero with kind:=6,hash:=(h:Int)},[],ys,0⟩
abbrev niSingle(h:Nat)(k:ByteArray)(u:Int):NI:=⟨{Nd.zero with kind:=4,hash:=(h:Int),key:=k,val:=u},[],[],0⟩
abbrev niInner(gen m:Int):NI:=⟨{Nd.zero with kind:=2,gen:=gen},[],[],m⟩
abbrev niC(b:Nat)(xs:List Int):NI:=⟨{Nd.zero with kind:=3,bm:=(b:Int)},xs,[],0⟩
def NI.no:NI:=⟨Nd.zero,[],[],0⟩
structure Match(v:NdV)(a:NI):Prop where
 xs:v.xs=a.xs
 ys:v.ys=a.ys
 kind:v.nd.kind=a.n.kind
 c:∀k,(alV v.nd v.xs v.ys k AX.no).c=a.c k
 fit:v.Fit
 sx:v.xs.length<=1000
 sy:v.ys.length<=1000
 c0:v.c=a.n.c a.xs a.ys
inductive MatchL:List NdV->List NI->Prop where
 | nil:MatchL [] []
 | cons {v:NdV} {a:NI} {L:List NdV} {l:List NI} (h:Match v a) (hr:MatchL L l):MatchL (v::L) (a::l)
theorem MatchL.len{L:List NdV}{l:List NI}(h:MatchL L l):L.length=l.length:=by
 induction h with
 | nil=>rfl
 | cons _ _ ih=>simp[ih]
theorem MatchL.append{L M:List NdV}{l m:List NI}(h:MatchL L l)(h2:MatchL M m):MatchL (L++M) (l++m):=by
 induction h with
 | nil=>exact h2
 | cons h _ ih=>exact .cons h ih
theorem MatchL.at{L:List NdV}{l:List NI}(h:MatchL L l){i:Nat}(hi:i<L.length):∃a,l[i]?=some a/\Match (L.getD i NdV.zero) a:=by
 induction h generalizing i with
 | nil=>simp at hi
 | @cons v a L l h _ ih=>
  cases i with
  | zero=>exact⟨a,rfl,h⟩
  | succ i=>obtain⟨b,h1,h2⟩:=ih (i:=i) (by simpa using hi);exact⟨b,by simpa using h1,by simpa using h2⟩
def initsL(l:List NI):List Int:=l.map NI.init
theorem SF.swapF{w0 w:World}{M:List Nat}{H:List (Nat×Obj)}{A F:Fr}{O:List Ow}{f1 f2:Option Addr×List Value}(h:SF w0 M H A (f1::f2::F) O w):SF w0 M H A (f2::f1::F) O w:=h.subF λ f hf=>.inr (by
 simp only[List.mem_cons] at hf ⊢;rcases hf with h|h|h;·exact .inr (.inl h)
 ·exact .inl h
 ·exact .inr (.inr h))
theorem SF.capR2{w0 w:World}{M:List Nat}{H:List (Nat×Obj)}{A F:Fr}{O:List Ow}{i c:Nat}{p:Option Addr}(h:SF w0 M H A F O w){l:List Int}{T:TypeId}(ho:OAt O i p (refsC l) c T 1):l.length<=c:=by
 rcases(h.own _ ho.mem).1 with⟨_,h2,_⟩|⟨b,rest,_,_,h3⟩
 ·have h2':refsC l=[]:=h2;have:(refsC l).length=0:=by rw[h2'];rfl
  rw[refsC_length] at this;omega
 ·have h3':(refsC l++rest).length=c*1:=h3;rw[List.length_append,refsC_length] at h3';omega
end
end Go.Ct
namespace Go.Proofs.YtdnklbipddigbaaGreat
open Go Go.RowKit Go.Ct
section
def dN(x:Int)(h0 h:Nat)(p0:Pr)(k:ByteArray)(u gen:Int)(f:Nat):Nat->Nat->List NI
 | 0,lvl=>if lvl=11 then [niList h (ofL [p0,(k,u)])] else [niSingle h k u,niC (withI (withI 0 (sl h0 lvl:Int)) (sl h lvl:Int)) (two (sl h0 lvl) (sl h lvl) x (f:Int))]
 | n+1,lvl=>dN x h0 h p0 k u gen f n (lvl+1)++[niInner gen ((f-1+(dN x h0 h p0 k u gen f n (lvl+1)).length:Nat):Int),niC (withI 0 (sl h lvl:Int)) [((f+(dN x h0 h p0 k u gen f n (lvl+1)).length:Nat):Int)]]
theorem dN_len{x:Int}{h0 h:Nat}{p0:Pr}{k:ByteArray}{u gen:Int}{f:Nat}:∀n lvl,(dN x h0 h p0 k u gen f n lvl).length<=2+2*n
 | 0,lvl=>by
  unfold dN
  split<;>simp
 | n+1,lvl=>by
  have:=dN_len (x:=x) (h0:=h0) (h:=h) (p0:=p0) (k:=k) (u:=u) (gen:=gen) (f:=f) n (lvl+1)
  unfold dN
  simp only[List.length_append,List.length_cons,List.length_nil]
  omega
theorem pairR_c{i k:Nat}(hi:i<64)(hk:k<64)(hne:i≠k)(a b:Int)(w:World) :
  Calls Tryz.prog 251 #[.int .i64 (i:Int),.int .i64 a,.int .i64 (k:Int),.int .i64 b] w λ e w'=>∃p:Option Addr,e=.returned (.agg ⟨[.int .i64 3,.int .i64 0,.int .i64 0,.int .u64 ((withI (withI 0 (i:Int)) (k:Int):Nat):Int),.slice p 2 2,.int .u64 0,.string ⟨#[]⟩,.int .u64 0,.slice none 0 0,.int .i64 0,.int .i64 0,.int .i64 0,.int .i64 0,.int .i64 0]⟩)/\True/\SF w [] [] [] [(p,refsC (two i k a b))] [] w':=by
 refine enter Tryz.func251 Tryz.ntmps251 rfl rfl (SF.s0 w) ?_;simp only[mkS];refine J0 ?_;refine j_alloc (λ x8=>?_);refine l_nil ?_;refine J2 ?_;refine j_own (cV (hc:=λ w1 hw=>refWith_c (n:=0) (by decide) (i:Int) w1)) (λ x11=>?_);refine j_move ?_;refine j_own (cV (hc:=λ w1 hw=>refWith_c (n:=withI 0 (i:Int)) (withI_lt (by decide) _) (k:Int) w1)) (λ x13=>?_);refine J35 ?_;refine j_buildSlice (λ x16=>?_);refine j_build ?_;refine j_alloc (λ x9=>?_);refine J5 ?_;refine J65 ?_;refine J47 ?_;refine kif (λ c20=>?_) (λ c20=>?_)
 ·refine J76 ?_;refine j_buildSlice (λ x23=>?_);refine J23 ?_;refine J25 ?_;refine J5 ?_;refine k_rt Tryz.results251 (λ w hw=>?_)
  first
  | exact⟨some ⟨x23,0,none⟩,rfl,trivial,by rw[show two i k a b=[b,a] from if_neg (by omega)];exact hw.ret (List.nil_sublist _) (FSub.ofSub λ f hf=>by rw[List.mem_singleton.1 hf];exact .head _) (List.Sublist.refl _)⟩
  | exact⟨some ⟨x16,0,none⟩,rfl,trivial,by rw[show two i k a b=[a,b] from if_pos (by omega)];exact hw.ret (List.nil_sublist _) (FSub.ofSub λ f hf=>by rw[List.mem_singleton.1 hf];exact .head _) (List.Sublist.refl _)⟩
 ·refine Kc5 ?_;refine J5 ?_;refine k_rt Tryz.results251 (λ w hw=>?_)
  first
  | exact⟨some ⟨x16,0,none⟩,rfl,trivial,by rw[show two i k a b=[a,b] from if_pos (by omega)];exact hw.ret (List.nil_sublist _) (FSub.ofSub λ f hf=>by rw[List.mem_singleton.1 hf];exact .head _) (List.Sublist.refl _)⟩
theorem refOf_r{l:List Pr}{a:Option Addr}{c:Nat}{w:World}(ha:Cl w a (prC l))(hlen:l.length<=200000000000) :
  Calls Tryz.prog 250 #[.slice a l.length c] w λ e w'=>∃x:Option Addr×Nat,e=.returned (.slice x.1 (ofL l).length x.2)/\(ofL l).length<=x.2/\SF w [] [] [] [(x.1,prC (ofL l))] [] w':=(refOf_c ha hlen).mono λ _ _ h=>h
theorem refSliceI_c{h l:Nat}{i:Int}(hi:i=(l:Int))(hh:h<18446744073709551616)(hl:l<=10)(w:World):Calls Tryz.prog 210 #[.int .u64 (h:Int),.int .i64 i] w λ e w'=>e=.returned (.int .i64 ((sl h l:Nat):Int))/\St w [] [] w':=by subst hi;exact refSlice_c hh hl w
abbrev ndList(h:Nat)(ys:List Pr)(p:Option Addr)(c:Nat):NdV:=⟨{Nd.zero with kind:=6,hash:=(h:Int),prA:=p,prN:=ys.length,prC:=c},[],ys⟩
abbrev ndSingle(h:Nat)(k:ByteArray)(u:Int):NdV:=⟨{Nd.zero with kind:=4,hash:=(h:Int),key:=k,val:=u},[],[]⟩
abbrev ndInner(gen:Int):NdV:=⟨{Nd.zero with kind:=2,gen:=gen},[],[]⟩
abbrev ndC(n b:Nat)(xs:List Int)(p:Option Addr):NdV:=⟨{Nd.zero with kind:=3,bm:=(b:Int),brA:=p,brN:=n,brC:=n},xs,[]⟩
theorem z35:(0:Nat)<=35184372088832:=Nat.zero_le _
theorem z11:(0:Nat)<=11728124029610:=Nat.zero_le _
theorem mt_list{h:Nat}{ys:List Pr}{p:Option Addr}{c:Nat}(hy:ys.length<=1000):Match (ndList h ys p c) (niList h ys):=⟨rfl,rfl,rfl,λ _=>rfl,⟨rfl,rfl,z35,by show ys.length<=_;omega⟩,Nat.zero_le _,hy,rfl⟩
theorem mt_single{h:Nat}{k:ByteArray}{u:Int}:Match (ndSingle h k u) (niSingle h k u):=⟨rfl,rfl,rfl,λ _=>rfl,⟨rfl,rfl,z35,z11⟩,Nat.zero_le _,Nat.zero_le _,rfl⟩
theorem mt_inner{gen m:Int}:Match (ndInner gen) (niInner gen m):=⟨rfl,rfl,rfl,λ _=>rfl,⟨rfl,rfl,z35,z11⟩,Nat.zero_le _,Nat.zero_le _,rfl⟩
theorem mt_c{n b:Nat}{xs:List Int}{p:Option Addr}(hn:n=xs.length)(hx:xs.length<=1000):Match (ndC n b xs p) (niC b xs):=⟨rfl,rfl,rfl,λ _=>rfl,⟨hn,rfl,by show xs.length<=_;omega,z11⟩,hx,Nat.zero_le _,rfl⟩
structure RX where
 L:List NdV
 ini:List Int
 pn:Option Addr
 cn:Nat
 pc:Option Addr
 cc:Nat
structure RXOk(r:RX)(l:List NI):Prop where
 m:MatchL r.L l
 ini:r.ini=initsL l
theorem RXOk.len{r:RX}{l:List NI}(h:RXOk r l):r.L.length=l.length/\r.ini.length=l.length:=⟨h.m.len,by rw[h.ini];simp[initsL]⟩
theorem RXOk.push{r:RX}{l:List NI}(h:RXOk r l){gen m:Int}{n b:Nat}{xs:List Int}{p pn pc:Option Addr}{cn cc:Nat}(hn:n=xs.length)(hx:xs.length<=1000):RXOk ⟨r.L++[ndInner gen,ndC n b xs p],r.ini++[m,0],pn,cn,pc,cc⟩ (l++[niInner gen m,niC b xs]) :=⟨h.m.append (.cons mt_inner (.cons (mt_c hn hx) .nil)),by show r.ini++_=_;rw[h.ini];simp[initsL,niInner,niC]⟩
theorem famF_push2{L:List NdV}{gen:Int}{b:Nat}{r:Int}{p:Option Addr}{F:Fr}{f:Option Addr×List Value}(hf:f∈famF (L++[ndInner gen,ndC 1 b [r] p]))(h1:(p,refsC [r])∈F)(h2:f∈famF L->f∈F):f.2=[]∨f∈F:=by
 simp only[famF,List.flatMap_append] at hf
 rcases List.mem_append.1 hf with hf|hf
 ·exact .inr (h2 hf)
 ·simp[NdV.fr] at hf
  rcases hf with rfl|rfl|rfl|rfl
  ·exact .inl rfl
  ·exact .inl rfl
  ·exact .inr h1
  ·exact .inl rfl
variable{v:NdV}{at':Int}{h0 h:Nat}{k:ByteArray}{u gen:Int}{fi lvl:Nat}
abbrev dQ(at':Int)(h0 h:Nat)(v:NdV)(k:ByteArray)(u gen:Int)(fi:Nat)(n:Nat):List NI:=dN at' h0 h (v.nd.key,v.nd.val) k u gen fi n (com h0 h-n)
theorem dQ_step{n:Nat}(hn:n<com h0 h):dQ at' h0 h v k u gen fi (n+1)=dQ at' h0 h v k u gen fi n++[niInner gen ((fi-1+(dQ at' h0 h v k u gen fi n).length:Nat):Int),niC (withI 0 (sl h (com h0 h-(n+1)):Int)) [((fi+(dQ at' h0 h v k u gen fi n).length:Nat):Int)]]:=by
 have e:com h0 h-(n+1)+1=com h0 h-n:=by omega
 unfold dQ;rw[dN,e]
theorem base_t{x y z:Option Addr}{c a b:Nat}(hc:com h0 h=11):RXOk ⟨[ndList h (ofL [(v.nd.key,v.nd.val),(k,u)]) z c],[0],x,a,y,b⟩ (dQ at' h0 h v k u gen fi 0):=by
 have e:dQ at' h0 h v k u gen fi 0=[niList h (ofL [(v.nd.key,v.nd.val),(k,u)])]:=by unfold dQ dN;exact if_pos hc
 rw[e];exact⟨.cons (mt_list (Nat.le_trans (ofL_len _) (by simp))) .nil,rfl⟩
theorem base_f{x y p:Option Addr}{a b:Nat}(hc:com h0 h≠11):RXOk ⟨[ndSingle h k u,ndC 2 (withI (withI 0 (sl h0 (com h0 h):Int)) (sl h (com h0 h):Int)) (two (sl h0 (com h0 h)) (sl h (com h0 h)) at' (fi:Int)) p],[0,0],x,a,y,b⟩ (dQ at' h0 h v k u gen fi 0):=by
 have e:dQ at' h0 h v k u gen fi 0=[niSingle h k u,niC (withI (withI 0 (sl h0 (com h0 h):Int)) (sl h (com h0 h):Int)) (two (sl h0 (com h0 h)) (sl h (com h0 h)) at' (fi:Int))]:=by unfold dQ dN;exact if_neg hc
 rw[e];exact⟨.cons mt_single (.cons (mt_c (by unfold two;split<;>rfl) (by unfold two;split<;>simp)) .nil),rfl⟩
theorem nodesR_c(hv:v.nd.hash=(h0:Int))(hh0:h0<18446744073709551616)(hh:h<18446744073709551616)(hf1:1<=fi)(hf2:fi<=274877906944)(w:World) :
    Calls Tryz.prog 245 #[.agg ⟨v.nd.cells⟩,.int .i64 at',.int .u64 (h:Int),.string k,.int .u64 u,.int .i64 (lvl:Int),.int .i64 gen,.int .i64 (fi:Int)] w λ e w' =>
      ∃d:RX,e=.returned (.tuple #[.slice d.pn d.L.length d.cn,.slice d.pc d.ini.length d.cc]) /\
      (RXOk d (dQ at' h0 h v k u gen fi (com h0 h-lvl))/\d.L.length<=d.cn/\d.ini.length<=d.cc) /\
      SF w [] [] [] ((d.pn,nvC d.L)::(d.pc,refsC d.ini)::famF d.L) [] w':=by
       have hcl:=com_le h0 h;refine enter Tryz.func245 Tryz.ntmps245 rfl rfl (SF.s0 w) ?_;simp only[mkS];refine J0 ?_;refine j_box (λ x8=>?_);refine J8 ?_;refine Kc4 ?_;refine j_own (cV (hc:=λ w1 hw=>by rw[hv];exact refCommon_c hh0 hh w1)) (λ x26=>?_);refine J27 ?_;refine k_joinG [16,17,18,19,27,28,29,30,31,32,33,34,35,36,37,38,39,40,41,42,43,44,45,46,47,48,49,50,51,52,53,54,55,56,57,58,59] (λ q:RX=>[(16,.slice q.pn q.L.length q.cn),(17,.slice q.pc q.ini.length q.cc),(18,.int .i64 ((com h0 h:Nat):Int))]) (λ q=>RXOk q (dQ at' h0 h v k u gen fi 0)/\q.L.length<=2) (λ q=>[]) (λ q=>famF q.L) (λ q=>[⟨q.pn,nvC q.L,q.cn,45,14⟩,⟨q.pc,refsC q.ini,q.cc,28,1⟩]) (by decide) (λ _=>by exact rfl) ?_ (λ q f hx=>?_)
       ·refine k_seq ?_;refine J20 ?_;refine j_geq ?_;refine l_nil ?_;refine kif (λ c28=>?_) (λ c28=>?_)
        ·refine J24 ?_;refine J3 ?_;refine j_build ?_;refine J35 ?_;refine j_build ?_;refine j_buildSlice (λ x37=>?_);refine j_ownF (cF (V:=λ x:Option Addr×Nat=>.slice x.1 (ofL [(v.nd.key,v.nd.val),(k,u)]).length x.2) (hc:=λ w1 hw=>refOf_r (l:=[(v.nd.key,v.nd.val),(k,u)]) (hw.cl (.new .head)) (by simp))) (λ x38 h38=>?_);refine J73 ?_;refine j_build ?_;refine j_own (lSFO (c:=1) (sz:=14) rfl (λ _=>o_buildSlice (cs:=nvC [ndList h (ofL [(v.nd.key,v.nd.val),(k,u)]) x38.1 x38.2]) elem_node pa1 rfl rfl rfl rfl rfl)) (λ x42=>?_);refine j_own (lSFO (c:=1) (sz:=1) rfl (λ _=>o_buildSlice (cs:=refsC [0]) elem_ref pa1 rfl rfl rfl rfl rfl)) (λ x43=>?_);refine J8 ?_;refine k_region ?_;refine J1 ?_;refine k_rj ((⟨[ndList h (ofL [(v.nd.key,v.nd.val),(k,u)]) x38.1 x38.2],[0],some ⟨x42,0,none⟩,1,some ⟨x43,0,none⟩,1⟩:RX)) ?_ (hw1:=λ w hw=>(hw.swapO.subF λ f hf=>by simp[famF,NdV.fr] at hf;rcases hf with rfl|rfl;exact .inl rfl;exact .inr (.head _)).sub (List.nil_sublist _) FSub.all (List.Sublist.refl _))
         ·have hne:com h0 h=11:=by omega
          exact⟨base_t hne,Nat.le_succ 1⟩
        ·refine Kc0 ?_;refine j_build ?_;refine Ke9 ?_;refine j_own (cV (hc:=λ w1 hw=>by rw[hv];exact refSlice_c (l:=com h0 h) hh0 (by omega) w1)) (λ x51=>?_);refine Kf8 ?_;refine j_own (cV (hc:=λ w1 hw=>refSlice_c (l:=com h0 h) hh (by omega) w1)) (λ x55=>?_);refine j_move ?_;refine j_ownF (cF (hc:=λ w1 hw=>pairR_c (sl_lt h0 (com h0 h)) (sl_lt h (com h0 h)) (com_ne (h:=h0) (k:=h) (by omega)) at' (fi:Int) w1)) (λ x57 h57=>?_);refine j_own (lSFO (c:=2) (sz:=14) rfl (λ _=>o_buildSlice (cs:=nvC [ndSingle h k u,ndC 2 (withI (withI 0 (sl h0 (com h0 h):Int)) (sl h (com h0 h):Int)) (two (sl h0 (com h0 h)) (sl h (com h0 h)) at' (fi:Int)) x57]) elem_node pa1 rfl rfl rfl rfl rfl)) (λ x58=>?_);refine J1 ?_;refine k_region ?_;refine j_own (lSFO (c:=2) (sz:=1) rfl (λ _=>o_buildSlice (cs:=refsC [0,0]) elem_ref pa1 rfl rfl rfl rfl rfl)) (λ x59=>?_);refine J1 ?_;refine k_rj ((⟨[ndSingle h k u,ndC 2 (withI (withI 0 (sl h0 (com h0 h):Int)) (sl h (com h0 h):Int)) (two (sl h0 (com h0 h)) (sl h (com h0 h)) at' (fi:Int)) x57],[0,0],some ⟨x58,0,none⟩,2,some ⟨x59,0,none⟩,2⟩:RX)) ?_ (hw1:=λ w hw=>(hw.swapO.subF λ f hf=>by simp[famF,NdV.fr] at hf;rcases hf with rfl|rfl|rfl|rfl;exact .inl rfl;exact .inl rfl;exact .inr (.head _);exact .inl rfl).sub (List.nil_sublist _) FSub.all (List.Sublist.refl _))
         ·have hne:com h0 h≠11:=by omega
          exact⟨base_f hne,Nat.le_refl 2⟩
       dsimp only[mkU,List.map,List.cons_append,List.nil_append];refine J32 ?_;refine j_dec ?_;refine J1 ?_;refine k_block ?_;have hq2:=hx.1.len;refine k_lp [16,17,20,21,22,62,63,64,65,66,67,68,69,70,71,72,73,74,75,76,77,78,79,80,81,82,83,84,85,86,87,88,89] (λ y:Nat×RX=>[(16,.slice y.2.pn y.2.L.length y.2.cn),(17,.slice y.2.pc y.2.ini.length y.2.cc),(20,.int .i64 (((com h0 h-y.1:Nat):Int)-1))]) (λ y=>y.1<=com h0 h-lvl/\RXOk y.2 (dQ at' h0 h v k u gen fi y.1)/\y.2.L.length<=2+2*y.1) (λ _=>_) (λ y=>famF y.2.L) (λ y=>[⟨y.2.pn,nvC y.2.L,y.2.cn,45,14⟩,⟨y.2.pc,refsC y.2.ini,y.2.cc,28,1⟩]) (λ y=>com h0 h-lvl-y.1) ((0,q)) (⟨Nat.zero_le _,hx⟩) (λ y f hx=>?_) (hw0:=λ w hw=>hw.sub (List.Sublist.refl _) FSub.all (List.Sublist.refl _));dsimp only[mkU,List.map,List.cons_append,List.nil_append];obtain⟨hy1,hy2,hy3⟩:=hx;obtain⟨hy4,hy5⟩:=hy2.len;refine J65 ?_;refine j_geq ?_;refine l_nil ?_;refine kif (λ c64=>?_) (λ c64=>?_)
       ·obtain⟨lv,elv⟩:∃lv:Nat,com h0 h-(y.1+1)=lv:=⟨_,rfl⟩;have elv2:(((com h0 h-y.1:Nat):Int)-1)=(lv:Int):=by omega
        have hlv2:lv<=10:=by omega
        refine J37 ?_;refine J11 ?_;refine j_len ?_;refine l_quiet (o_addN rf rf (by omega)) rfl ?_;refine l_quiet (o_subN (n:=1) rf rf (by omega) (by omega)) rfl ?_;refine J73 ?_;refine j_own (cV (hc:=λ w1 hw=>refSliceI_c elv2 hh hlv2 w1)) (λ x74=>?_);refine J73 ?_;refine j_build ?_;refine j_move ?_;refine j_own (cV (hc:=λ w1 hw=>refWith_c (n:=0) (by decide) (sl h lv:Int) w1)) (λ x79=>?_);refine j_move ?_;refine l_quiet (o_addN (n:=1) rf rf (by omega)) rfl ?_;refine j_own (lSFF (λ _=>o_buildSlice (cs:=refsC [((fi+y.2.L.length-1+1:Nat):Int)]) elem_ref pa1 rfl rfl rfl rfl rfl)) (λ x82=>?_);refine j_build ?_;refine j_own (lSFF (λ _=>o_buildSlice (cs:=nvC [ndInner gen,ndC 1 (withI 0 (sl h lv:Int)) [((fi+y.2.L.length-1+1:Nat):Int)] (some ⟨x82,0,none⟩)]) elem_node pa1 rfl rfl rfl rfl rfl)) (λ x84=>?_);(refine j_own (Loud.convOF (o_appV (k:=2) (L2:=[ndInner gen,ndC 1 (withI 0 (sl h lv:Int)) [((fi+y.2.L.length-1+1:Nat):Int)] (some ⟨x82,0,none⟩)]) rf rf oaT rfl fin rfl en1 rfl sl1 (by omega)) co1) (λ x85=>?_);try (refine l_fact (λ h85=>?_)));refine J1 ?_;refine J76 ?_;refine j_own (lSFF (λ _=>o_buildSlice (cs:=refsC [((fi+y.2.L.length-1:Nat):Int),0]) elem_ref pa1 rfl rfl rfl rfl rfl)) (λ x88=>?_);(refine j_own (Loud.convOF (o_appR (k:=2) (l2:=[((fi+y.2.L.length-1:Nat):Int),0]) rf rf oaT rfl fin rfl er1 sl1 (by omega)) co1) (λ x89=>?_);try (refine l_fact (λ h89=>?_)));refine J1 ?_;refine k_blk ?_;refine J20 ?_;refine j_dec ?_;refine J1 ?_;refine k_rd ((y.1+1,(⟨y.2.L++[ndInner gen,ndC 1 (withI 0 (sl h lv:Int)) [((fi+y.2.L.length-1+1:Nat):Int)] (some ⟨x82,0,none⟩)],y.2.ini++[((fi+y.2.L.length-1:Nat):Int),0],x85.1,x85.2,x89.1,x89.2⟩:RX))) ?_ (hw1:=λ w hw=>hw.subF λ f hf=>famF_push2 hf (.tail _ (.tail _ (.head _))) (λ hf=>.tail _ (.tail _ (.tail _ hf))))
        ·refine⟨by omega,?_,by simp only[List.length_append,List.length_cons,List.length_nil];omega⟩;have e1:dQ at' h0 h v k u gen fi (y.1+1)=dQ at' h0 h v k u gen fi y.1++[niInner gen ((fi+y.2.L.length-1:Nat):Int),niC (withI 0 (sl h lv:Int)) [((fi+y.2.L.length-1+1:Nat):Int)]]:=by rw[dQ_step (by omega),elv,<- hy4,show fi-1+y.2.L.length=fi+y.2.L.length-1 by omega,show fi+y.2.L.length-1+1=fi+y.2.L.length by omega]
         rw[e1];exact hy2.push rfl (by simp)
       ·have en:y.1=com h0 h-lvl:=by omega
        refine k_exit rfl ?_;refine J11 ?_;refine J8 ?_;refine k_rt Tryz.results245 (λ w hw=>?_);refine⟨y.2,rfl,⟨?_,?_,?_⟩,?_⟩;·rw[<- en];exact hy2
        ·exact hw.capV .head
        ·exact hw.capR2 (.tail .head)
        ·exact((hw.freeze .head).freeze .head).swapF.ret (List.nil_sublist _) FSub.all (List.nil_sublist _)
end
end Go.Proofs.YtdnklbipddigbaaGreat
namespace Go.Ct
section
def NI.c0(a:NI):Nv:=a.n.c a.xs a.ys
end
end Go.Ct
namespace Go.Proofs.YtdnklbipddigbaaGreat
open Go.RowKit Go.Ct
section
structure Tri where
 root:Int
 ro:Bool
structure Cl where
 kind:Int
 t:Tri
 a:Int
 b:Int
 n:Int
 index:Int
 hash:Int
 mask:Int
 key:ByteArray
 val:Int
 exp:Int
 pol:Int
 only:Bool
def slI(h:Nat)(level:Int):Int:=if level<0∨10<level then 0 else(sl h level.toNat:Int)
def failV(p:Int):Nv:=({Nd.zero with kind:=7,old:=p}:Nd).c [] []
def inodeV(g:Int):Nv:=({Nd.zero with kind:=2,gen:=g}:Nd).c [] []
def descV(a b c:Int):Nv:=({Nd.zero with kind:=8,old:=a,exp:=b,new:=c}:Nd).c [] []
def singV(h:Int)(k:ByteArray)(u:Int):Nv:=({Nd.zero with kind:=4,hash:=h,key:=k,val:=u}:Nd).c [] []
def emptyV:Nv:=({Nd.zero with kind:=3}:Nd).c [] []
def winT(v s:Int)(K:Int->Tr):Tr:=.node v λ n=>K (if s=1 then n.new else n.old)
def cmpT(t:Tri)(v s:Int)(K:Int->Tr):Tr:=winT v s λ w=>.cas t.root v w λ _=>K w
def rootT(t:Tri)(K:Int->Tr):Tr:=.load t.root λ v=>.node v λ n=>if n.kind=2 then K v else .node v λ n=>.load n.status λ s =>
 if s=0 then .node v λ n=>.cas n.status 0 2 λ _=>.node v λ n=>.load n.status λ s=>cmpT t v s K else cmpT t v s K
def finT(i m p:Int)(K:Int->Tr):Tr:=.node i λ ni=>.node p λ np=>.cas ni.main m np.old λ _=>.node p λ np=>K np.old
def settle2T(i m:Int)(K:Int->Tr):Tr:=.node m λ nm=>.load nm.prev λ p=>if p=0 then K m else finT i m p K
def commT(i m p:Int)(c:Bool)(K:Int->Tr):Tr :=
 if c=true then .node m λ nm=>.cas nm.prev p 0 λ _=>settle2T i m K
 else .node m λ nm=>.alloc (failV p) 0 λ f=>.cas nm.prev p f λ _=>settle2T i m K
def settleT(t:Tri)(i m:Int)(K:Int->Tr):Tr:=.node m λ nm=>.load nm.prev λ p=>if p=0 then K m else .node p λ np =>
 if MainK np then(if t.ro=true then commT i m p false K else rootT t λ r=>.node r λ nr=>.node i λ ni=>commT i m p (nr.gen==ni.gen) K)
 else finT i m p K
def readT(t:Tri)(i:Int)(K:Int->Tr):Tr:=.node i λ ni=>.load ni.main λ m=>settleT t i m K
def decideT(t:Tri)(v:Int)(K:Tr):Tr:=.node v λ n=>readT t n.old λ r=>.node v λ n2=>.node v λ n3=>.cas n3.status 0 (if r=n2.exp then 1 else 2) λ _=>K
def helpT(t:Tri)(K:Int->Tr):Tr:=.load t.root λ v=>.node v λ n=>if n.kind=2 then K v else .node v λ n=>.load n.status λ s =>
 if s=0 then decideT t v (.node v λ n=>.load n.status λ s=>cmpT t v s K) else cmpT t v s K
def gcasT(t:Tri)(i old n:Int)(K:Bool->Tr):Tr:=.node i λ ni=>.cas ni.main old n λ b=>if b=true then settleT t i n λ m=>K (m==n) else K false
def rdcssT(t:Tri)(old exp new:Int)(K:Bool->Tr):Tr:=.alloc (descV old exp new) 0 λ d=>.cas t.root old d λ b =>
 if b=true then decideT t d (.node d λ nd=>.load nd.status λ s=>cmpT t d s λ _=>K (s==1)) else K false
noncomputable def replT (c index r:Int) (K:Int->Tr):Tr:=.node c λ nc=>.alloc (upV nc index r) c K
noncomputable def renewT (t:Tri) (i c index:Int) (K:Int->Tr):Tr:=.node c λ nc=>readT t ((lkV nc index).getD 0) λ m=>.node i λ ni=>.alloc (inodeV ni.gen) m λ j =>
 replT c index j λ r=>gcasT t i c r λ ok=>K (if ok=true then j else 0)
noncomputable def cleanT (t:Tri) (parent child:Int) (h:Nat) (level:Int) (K:Bool->Tr):Tr:=readT t parent λ m=>.node m λ nm =>
 if lkV nm (slI h level)=some child then readT t child λ mc=>.node mc λ nmc =>
  if nmc.kind=5 then .alloc (unV nmc) 0 λ s=>.node m λ nm2=>.alloc (coV (upV nm2 (slI h level) s) level (unV nmc)) m λ r=>gcasT t parent m r K
  else K false
 else K false
def valR(f:Bool)(v:Int):Rs:=⟨0,f,v,⟨#[]⟩,0,0,0,false⟩
def swpR(f:Bool)(v:Int):Rs:=⟨0,f,v,⟨#[]⟩,1,0,0,false⟩
noncomputable def findT (t:Tri) (h:Nat) (key:ByteArray) (K:Rs->Tr):Nat->Int->Int->Tr
 | 0,_,_=>.stuck
 | n+1,i,level=>readT t i λ mr=>.node mr λ m =>
  if m.kind=5 then(if m.key=key then K (valR true m.val) else K (valR false 0))
  else if m.kind=6 then K (valR (findO m.ys key).isSome ((findO m.ys key).getD 0))
  else match lkV m (slI h level) with
   | none=>K (valR false 0)
   | some b=>.node b λ s=>if s.kind=4 then(if s.key=key then K (valR true s.val) else K (valR false 0)) else findT t h key K n b (level+1)
def permB(c:Cl)(found:Bool)(v:Int):Bool:=if c.pol=1 then !found else if c.pol=2 then found else if c.pol=3 then found&&v==c.exp else true
def alsT:List NI->Int->(Int->Tr)->Tr
 | [],r,K=>K r
 | a::l,_,K=>.alloc a.c0 a.init λ r=>alsT l r K
def dP(at_:Int)(h0 h:Nat)(p:Pr)(k:ByteArray)(u gen:Int)(fi lvl:Nat):List NI:=dN at_ h0 h p k u gen fi (com h0 h-lvl) (com h0 h-(com h0 h-lvl))
def dualT(c:Cl)(b:Int)(h:Nat)(level:Nat)(gen:Int)(K:Int->Tr):Tr:=.node b λ nb =>
 .alloc ((dP b nb.hash.toNat h (nb.key,nb.val) c.key c.val gen 0 level).headD NI.no).c0 ((dP b nb.hash.toNat h (nb.key,nb.val) c.key c.val gen 0 level).headD NI.no).init λ f =>
 alsT (dP b nb.hash.toNat h (nb.key,nb.val) c.key c.val gen f.toNat level).tail f K
noncomputable def putLeafT (c:Cl) (i m:Int) (h:Nat) (level:Nat) (gen:Int) (K:Rs->Int->Tr):Tr:=.node m λ n =>
 if n.kind=6 then
  (if permB c (findO n.ys c.key).isSome ((findO n.ys c.key).getD 0)=true then
   .alloc (grV n c.key c.val) m λ r=>gcasT c.t i m r λ ok=>K (swpR (findO n.ys c.key).isSome ((findO n.ys c.key).getD 0)) (if ok=true then 1 else 0)
  else K (valR (findO n.ys c.key).isSome ((findO n.ys c.key).getD 0)) 1)
 else match lkV n (slI h level) with
  | none=>if permB c false 0=true then .alloc (singV h c.key c.val) 0 λ s=>.alloc (inV n (slI h level) s) m λ r=>gcasT c.t i m r λ ok=>K (swpR false 0) (if ok=true then 1 else 0) else K (valR false 0) 1
  | some b=>.node b λ nb=>if nb.kind=2 then K Rs.zero 2 else
   if nb.key=c.key then
    (if permB c true nb.val=true then .alloc (singV h c.key c.val) 0 λ s=>replT m (slI h level) s λ r=>gcasT c.t i m r λ ok=>K (swpR true nb.val) (if ok=true then 1 else 0)
    else K (valR true nb.val) 1)
   else
    (if permB c false 0=true then dualT c b h (level+1) gen λ d=>.alloc (inodeV gen) d λ j=>replT m (slI h level) j λ r=>gcasT c.t i m r λ ok=>K (swpR false 0) (if ok=true then 1 else 0)
    else K (valR false 0) 1)
noncomputable def belowT (c:Cl) (i m index gen:Int) (K:Int->Tr):Tr:=.node m λ nm=>.node ((lkV nm index).getD 0) λ nb=>if nb.gen=gen then K ((lkV nm index).getD 0) else renewT c.t i m index K
noncomputable def putIn (c:Cl) (h:Nat) (K:Rs->Tr) (again:Tr) (gen:Int):Nat->Int->Int->Nat->Tr
 | 0,_,_,_=>.stuck
 | n+1,i,parent,level=>readT c.t i λ m=>.node m λ nm =>
  if nm.kind=5 then cleanT c.t parent i h ((level:Int)-1) λ _=>again
  else putLeafT c i m h level gen λ r what=>if what=1 then K r else if what=0 then again else
   belowT c i m (slI h level) gen λ b=>if b=0 then again else putIn c h K again gen n b i (level+1)
noncomputable def putT (c:Cl) (h:Nat) (K:Rs->Tr):Nat->Tr
 | 0=>.stuck
 | n+1=>helpT c.t λ i=>.node i λ ni=>putIn c h K (putT c h K n) ni.gen n i 0 0
noncomputable def dropLeafT (c:Cl) (i m:Int) (h:Nat) (level:Nat) (K:Rs->Int->Tr):Tr:=.node m λ n =>
 if n.kind=6 then
  (if(findO n.ys c.key).isSome=false∨(c.only=true/\(findO n.ys c.key).getD 0≠c.exp) then K (valR (findO n.ys c.key).isSome ((findO n.ys c.key).getD 0)) 1
  else .alloc (shV n c.key) m λ r=>gcasT c.t i m r λ ok=>K (swpR true ((findO n.ys c.key).getD 0)) (if ok=true then 1 else 0))
 else match lkV n (slI h level) with
  | none=>K (valR false 0) 1
  | some b=>.node b λ s=>if s.kind=2 then K Rs.zero 2 else if s.key≠c.key then K (valR false 0) 1 else if c.only=true/\s.val≠c.exp then K (valR true s.val) 1
   else .node ((soV (reV n (slI h level))).getD 0) λ so=>.alloc (coV (reV n (slI h level)) level so) m λ r=>gcasT c.t i m r λ ok=>K (swpR true s.val) (if ok=true then 1 else 0)
noncomputable def upT (t:Tri) (path:List Int) (h:Nat) (K:Tr):Nat->Tr
 | 0=>K
 | l+1=>readT t (path.getD (l+1) 0) λ m=>.node m λ nm=>if nm.kind=5 then cleanT t (path.getD l 0) (path.getD (l+1) 0) h (l:Int) λ _=>upT t path h K l else K
noncomputable def dropIn (c:Cl) (h:Nat) (K:Rs->Tr) (again:Tr) (gen:Int):Nat->Int->List Int->Nat->Tr
 | 0,_,_,_=>.stuck
 | n+1,i,path,level=>readT c.t i λ m=>.node m λ nm =>
  if nm.kind=5 then cleanT c.t (path.getD (level-1) 0) i h ((level:Int)-1) λ _=>again
  else dropLeafT c i m h level λ r what=>if what=1 then(if r.cnt=1 then upT c.t path h (K r) (path.length-1) else K r) else if what=0 then again else
   belowT c i m (slI h level) gen λ b=>if b=0 then again else dropIn c h K again gen n b (path++[b]) (level+1)
noncomputable def dropT (c:Cl) (h:Nat) (K:Rs->Tr):Nat->Tr
 | 0=>.stuck
 | n+1=>helpT c.t λ i=>.node i λ ni=>dropIn c h K (dropT c h K n) ni.gen n i [i] 0
def triR(root:Int)(ro:Bool):Rs:=⟨0,true,0,⟨#[]⟩,0,0,root,ro⟩
def copyT(m:Int)(K:Rs->Tr):Tr:=.gen λ g=>.alloc (inodeV g) m λ r=>.cell r λ c=>K (triR c false)
def snapT(t:Tri)(fz:Bool)(K:Rs->Tr):Nat->Tr
 | 0=>.stuck
 | n+1=>helpT t λ r=>readT t r λ m=>.gen λ g=>.alloc (inodeV g) m λ j=>rdcssT t r m j λ ok =>
  if ok=true then(if fz=true then .cell r λ c=>K (triR c true) else copyT m K) else snapT t fz K n
def snap0T(t:Tri)(fz:Bool)(K:Rs->Tr)(n:Nat):Tr :=
 if t.ro=true then .load t.root λ r=>if fz=true then .cell r λ c=>K (triR c true) else readT t r λ m=>copyT m K
 else snapT t fz K n
def clearT(t:Tri)(K:Rs->Tr):Nat->Tr
 | 0=>.stuck
 | n+1=>helpT t λ r=>readT t r λ m=>.alloc emptyV 0 λ c=>.gen λ g=>.alloc (inodeV g) c λ j=>rdcssT t r m j λ ok =>
  if ok=true then K (valR true 0) else clearT t K n
def refR(r:Int)(f:Bool):Rs:=⟨0,f,0,⟨#[]⟩,0,r,0,false⟩
def refuse(c:Cl):Int:=if c.kind=7∨c.kind=9 then(if c.key.size<=64 then 0 else 1) else if c.kind=8 then(if c.key.size<=64/\0<=c.pol/\c.pol<=3 then 0 else 1) else 0
noncomputable def callT (c:Cl) (h:Nat) (n:Nat):Tr :=
 if refuse c≠0 then .done {Rs.zero with err:=refuse c}
 else if c.kind=1 then readT c.t c.a λ r=>.done (refR r false)
 else if c.kind=2 then gcasT c.t c.a c.b c.n λ ok=>.done (refR 0 ok)
 else if c.kind=3 then helpT c.t λ r=>.done (refR r false)
 else if c.kind=4 then rdcssT c.t c.a c.b c.n λ ok=>.done (refR 0 ok)
 else if c.kind=7 then helpT c.t λ i=>findT c.t h c.key .done n i 0
 else if c.kind=8 then putT c h .done n
 else if c.kind=9 then dropT c h .done n
 else if c.kind=10 then snap0T c.t false .done n
 else if c.kind=11 then snap0T c.t true .done n
 else clearT c.t .done n
end
end Go.Proofs.YtdnklbipddigbaaGreat
namespace Go.Ct
open Go Go.RowKit
section
end
end Go.Ct
namespace Go.Proofs.YtdnklbipddigbaaGreat
open Go.RowKit Go.Ct
section
section
variable{w:World}{D:List Nat}{b:Nat}{L:List NdV}{cs:List Int}{gen acc:Int}{pn pc:Option Addr}{cn cc:Nat}{A:Fr}
end
end
end Go.Proofs.YtdnklbipddigbaaGreat
namespace Go.Ct
open Go Go.RowKit
section
section
variable{P:Program}{S:List (Nat×Value)}{G:World->Prop}{d:Nat}{ty t t2:TypeId}{pos:String}{af:Array Edge}{gd:Option (Nat×Bool)}{x y:Operand}{dst:Option Nat}{v:Value}
end
end
end Go.Ct
namespace Go.Proofs.YtdnklbipddigbaaGreat
open Go Go.RowKit Go.Ct
section
section
variable{S:List (Nat×Value)}{w0 w:World}{M:List Nat}{H:List (Nat×Obj)}{A F:Fr}{O:List Ow}{ty:TypeId}{pos:String}{af:Array Edge}{gd:Option (Nat×Bool)}{X:Type}{V:X->Value}
end
end
end Go.Proofs.YtdnklbipddigbaaGreat
namespace Go.Ct
open Go Go.RowKit
section
section
variable{P:Program}{n:Nat}{ds:List Deferred}{Q:Exit->Act->World->Prop}{ks:List CK}{S:List (Nat×Value)}{G:World->Prop}{ops:Array Oper}{l:List Oper}
variable{w0:World}{M:List Nat}{H:List (Nat×Obj)}{A F:Fr}{O:List Ow}
variable{d:Nat}{ty t:TypeId}{pos:String}{af:Array Edge}{gd:Option (Nat×Bool)}{dst:Option Nat}{x y:Operand}{v:Value}{w w':World}
theorem o_storePart{b off i:Nat}{vs old cs:List Value}{T:TypeId}{H':List (Nat×Obj)}(hx:ev S x=.pointer (some ⟨b,off,none⟩))(ha:At H i b (.cells ⟨old⟩ T (0,0)))(hy:ev S y=.agg ⟨vs⟩)(h1:vs.all (·.oneCell')=true)
  (ht:aggOf P t vs.length=true) (hl:off+vs.length<=old.length) (hcs:old.take off++vs++old.drop (off+vs.length)=cs) (hH:setAt H i (.cells ⟨cs⟩ T (0,0))=H') :
  Loud P S (St w0 M H) ⟨none,.store t x y,ty,pos,af,gd⟩ Unit (λ _=>undef) (λ _=>St w0 M H') :=
 loud_skip (λ w hw=>by
  subst hH hcs;have hb:=hw.at ha;obtain⟨dd,hu,hm,hi⟩:=agg_parts ht;have hst:=run_storeCells_at (P:=P) b off T vs 0 ⟨old⟩ w hb (by simpa using hl) (by simpa using h1);simp only[Nat.add_zero] at hst;refine⟨w.setRow b ⟨old.take off++vs++old.drop (off+vs.length)⟩,?_,hw.write ha rfl rfl rfl (by simp) (λ k hk=>setRow_other w b k _ hk) (setRow_heap w b ⟨old⟩ _ T (0,0) hb)⟩;cases hq':P.info? t with
  | none=>rw[hq'] at hi;simp at hi
  | some inf=>
   have hs:inf.size=vs.length:=by rw[hq'] at hi;simpa using hi
   simp[execOp,hx,hy,Instr.storeAt,Instr.sureAddr,storeVar,sizeOf,typeInfo,hq',hs,Value.cells,hst])
end
end
section
section
variable{P:Program}{S:List (Nat×Value)}{w0 w w':World}{M:List Nat}{H:List (Nat×Obj)}{A F:Fr}{O:List Ow}{d:Nat}{ty t:TypeId}{pos:String}{af:Array Edge}{gd:Option (Nat×Bool)}{x y:Operand}{v:Value}
theorem o_loadFA{a:Option Addr}{cs vs:List Value}{q k:Nat}(hx:ev S x=.pointer (some ⟨ablk a,aoff a+q,none⟩))(ht:aggOf P t k=true)(hf:FIn A F O a cs)(hv:(cs.drop q).take k=vs)(hl:vs.length=k) :
  Quiet P S (SF w0 M H A F O) ⟨some d,.load t x,ty,pos,af,gd⟩ (.agg ⟨vs⟩):=⟨λ w hw=>by
 have hcl:=hw.cl hf;obtain⟨dd,hu,hm,hi⟩:=agg_parts ht;have hagg:(isAgg t).run P w=.ok true w:=by unfold isAgg;rw[Sem.run_bind,run_underlying hu w];cases dd<;>simp_all
 have hc:(loadCells ⟨ablk a,aoff a+q,none⟩ k).run P w=.ok ⟨vs⟩ w:=by
  have:=run_loadCells_list (P:=P) w ⟨ablk a,aoff a+q,none⟩ vs (λ j z hz=>by
   subst hv;have hj:=(List.getElem?_eq_some_iff.1 hz).1;have h2:cs[q+j]?=some z:=by rw[List.getElem?_take_of_lt (by simp at hj;omega),List.getElem?_drop] at hz;exact hz
   rw[Addr.add_lit,show aoff a+q+j=aoff a+(q+j) by omega];exact(hcl.at_ _ _ h2).2)
  rw[hl] at this;simpa using this
 cases hq':P.info? t with
 | none=>rw[hq'] at hi;simp at hi
 | some i=>
  have hs:i.size=k:=by rw[hq'] at hi;simpa using hi
  simp[execOp,hx,Instr.loadAt,Instr.sureAddr,loadVar,hagg,Go.sizeOf,typeInfo,hq',hs,hc]⟩
end
end
section
section
variable{P:Program}{n:Nat}{ds:List Deferred}{Q:Exit->Act->World->Prop}{ks:List CK}{S:List (Nat×Value)}{G:World->Prop}{ops:Array Oper}{l:List Oper}
variable{w0:World}{M:List Nat}{H:List (Nat×Obj)}{A F:Fr}{O:List Ow}
variable{d:Nat}{ty t:TypeId}{pos:String}{af:Array Edge}{gd:Option (Nat×Bool)}{dst:Option Nat}{x y:Operand}{v:Value}{w w':World}
end
end
end Go.Ct
namespace Go.Proofs.YtdnklbipddigbaaGreat
open Go Go.RowKit Go.Ct
section
variable{n:Nat}{Q:Exit->Act->World->Prop}{ks:List CK}{S:List (Nat×Value)}{ops:Array Oper}{l ol:List Oper}{pl:Plan}{LL:List Nat}{Dl Dp Dq:List Nat}
variable{w0:World}{M:List Nat}{H:List (Nat×Obj)}{A F:Fr}{O:List Ow}{G:World->Prop}{i d:Nat}{v:Value}{op:Op}{ty:TypeId}{pos:String}{af:Array Edge}{gd:Option (Nat×Bool)}{X:Type}{V:X->Value}{G':X->World->Prop}{j g:Nat}{want t:Bool}
variable{ds:List Deferred}
end
end Go.Proofs.YtdnklbipddigbaaGreat
namespace Go.Ct
open Go Go.RowKit
section
abbrev Clo := Option (FuncId × List Value)
structure Cd where
 a:Ac
 f:Clo
 g:Clo
 r:Rs
end
end Go.Ct
namespace Go.Proofs.YtdnklbipddigbaaGreat
section
open Go.RowKit Go.Ct
end
section
open Go Go.RowKit Go.Ct
section
variable{S:List (Nat×Value)}{w0 w:World}{M:List Nat}{H:List (Nat×Obj)}{A F:Fr}{O:List Ow}{ty:TypeId}{pos:String}{af:Array Edge}{gd:Option (Nat×Bool)}{X:Type}{V:X->Value}
end
end
section
open Go Go.RowKit Go.Ct
section
variable{S:List (Nat×Value)}{w0 w:World}{M:List Nat}{H:List (Nat×Obj)}{A F:Fr}{O:List Ow}{ty:TypeId}{pos:String}{af:Array Edge}{gd:Option (Nat×Bool)}{X:Type}{V:X->Value}
end
end
end Go.Proofs.YtdnklbipddigbaaGreat

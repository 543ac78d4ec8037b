/- script.Check; handle.New; sched: History. -/
import Derived.Test.YtnilhhnfjfdokaaGreatDoorGMcc

set_option linter.unusedSimpArgs false
set_option linter.unusedVariables false
namespace Go.Proofs.YtnilhhnfjfdokaaGreatDoor
section
open Go Go.RowKit Go.Ct
structure kT where
 p:Option Addr
 c:Nat
 l:List lO
def gQ(ls:List kT):List Value:=ls.map λ s=>.slice s.p s.l.length s.c
theorem Bn(ls:List kT):(gQ ls).length=ls.length:=by simp[gQ]
theorem Oy{ls:List kT}{i:Nat}(h:i<ls.length):(gQ ls)[i]?=some (.slice ls[i].p ls[i].l.length ls[i].c):=by simp[gQ,h]
section
variable{w:World}{D:List Nat}{A:Fr}{b:Nat}{acc:Int}{pn:Option Addr}{cn:Nat}
theorem Py{m:Int}{ls:List kT}{p p2:Option Addr}{c c2 n:Nat}(h8:ls.length<=8)(h16:∀s∈ls,s.l.length<=16)(hn:n<=67108864)(hcl:Go.Ct.Cl w p (gQ ls)) :
  Calls Tryz.prog 19 #[.agg ⟨[.int .u64 m,.slice p ls.length c,.slice p2 n c2]⟩] w λ e w'=>e=.returned (.int .i64 0)/\St w [] [] w':=by
 refine enter Tryz.func19 Tryz.ntmps19 rfl rfl (SF.begin (A:=[(p,gQ ls)]) (λ f hf=>by rcases List.mem_singleton.1 hf with rfl;exact hcl)) ?_
 simp only[cP]
 refine J0 ?_;refine bF (λ x1=>?_);refine kZ ?_;refine jA ?_;refine cO ?_;refine wD ?_;refine aB ?_
 (refine lN 9 (λ g9=>?_) (λ g9=>?_)<;>(try ((exfalso;omega)))<;>((refine aE ?_;refine aK ?_)))
 ((refine Kb6 ?_));((refine aE ?_;refine cO ?_));refine kf ?_;refine aD ?_
 refine aU (λ c14=>?_) (λ c14=>?_)
 ·try ((exfalso;omega))
 ·try (first|contradiction|(exfalso;omega))
  refine lS ?_;refine jA ?_;refine Ka8 ?_
  refine jY [2,4,18,19,20,21,22,23,24,25] (λ i:Nat=>[(18,.int .i64 ((i:Nat):Int))]) (λ i=>i<=ls.length) (λ i=>ls.length-i) (0) (Nat.zero_le _) ?_ (λ k f hx=>?_)
  ·repeat (first|exact bQ _|refine bG (by exact rfl) ?_)
  dsimp only[lP,List.map,List.cons_append,List.nil_append]
  refine Ka1 ?_
  refine aU (λ c19=>?_) (λ c19=>?_)
  ·try (first|contradiction|(exfalso;omega))
   have hkl:k<ls.length:=by omega
   have h16k:=h16 _ (List.getElem_mem hkl)
   refine Kd2 ?_;refine aA (bR (k:=k) (cs:=gQ ls) rf rf dJ eC (.old .head) hkl (by rw[Bn];exact hkl)) rfl ?_;refine aA (bO (q:=k) (cs:=gQ ls) rf eC (.old .head) (Oy hkl)) rfl ?_;refine Kb7 ?_;refine cO ?_;refine wD ?_;refine aD ?_
   refine aU (λ c24=>?_) (λ c24=>?_)
   ·try ((exfalso;omega))
   ·try (first|contradiction|(exfalso;omega))
    refine Kc0 ?_
    refine gT (k+1) ?_ ?_ ?_
    ·omega
    ·repeat' (first|exact bQ _|refine bG ?_ ?_)
     exact rfl
    ·exact hkl
  ·try (first|contradiction|(exfalso;omega))
   refine aX rfl ?_;refine dW ?_
   refine bE Tryz.results19 (λ w hw=>?_)
   exact⟨rfl,hw.done⟩
theorem Y8{m:Nat}(hs:SF w D [(b,aO [] [] 0 acc pn cn none 0)] A [] (mW [] [] pn cn none 0) w) :
  Calls Tryz.prog 21 #[.iface 61 (.pointer (some ⟨b,0,none⟩)),.int .u64 (m:Int)] w λ e w'=>∃x:(Nat×Nat×Nat×Nat)×AX×AX×Option Addr×Nat,e=.returned (pt x.1.1)/\True/\SF w D [(x.1.1,oT b m x.1.2.1 x.1.2.2.1 x.1.2.2.2),(x.1.2.1,bW [] 0),(x.1.2.2.1,bW (Dc t3) 1),(b,aO (L2 x.2.1 x.2.2.1) [0,3,4] 1 acc x.2.2.1.pn x.2.2.1.cn x.2.2.2.1 x.2.2.2.2)] [] (dV (L2 x.2.1 x.2.2.1)) (mW (L2 x.2.1 x.2.2.1) [0,3,4] x.2.2.1.pn x.2.2.1.cn x.2.2.2.1 x.2.2.2.2) w':=by
 refine enter Tryz.func21 Tryz.ntmps21 rfl rfl hs ?_
 simp only[cP]
 refine dW ?_;refine mL ?_;refine aF (cE λ _=>kC) (λ x8=>?_);refine aF (cE λ _=>kC) (λ x9=>?_);refine aF (cE λ _=>kC) (λ x10=>?_);refine cK ?_;refine bF (λ x12=>?_);refine Kc7 ?_;refine aA (Fp rf rf (qS _)) rfl ?_;refine aD ?_
 refine aU (λ c14=>?_) (λ c14=>?_)
 ·refine eG [(0,[]),(1,[]),(2,[]),(3,[]),(4,[]),(5,[3]),(6,[])] ?_;refine mG ?_;refine aR ?_;refine bS (i:=5) (hq:=(cM (V:=λ _:AX×AX×Option Addr×Nat=>.agg ⟨[.int .i64 3,.bool false]⟩) (A0:=[]) (hs:=[(b,aO [] [] 0 acc pn cn none 0)]) (os:=mW [] [] pn cn none 0) (hc:=λ w hs=>Kj hs))) (h:=λ x20 h20=>?_);refine fE (i:=6) (hq:=(cE λ _=>Et (K:=3) (E:=38) (dK:=.int .i64) (k:=.int .i64 0) (v:=.agg ⟨[.int .i64 3,.bool false]⟩) (es:=[]) (c:=0) rf rf rf bD (by kernel_rfl) (by kernel_rfl) rfl rfl dI)) (h:=λ _=>?_);refine dC ?_;refine J2 ?_;refine J1 ?_
  refine bE Tryz.results21 (λ w hw=>?_)
  exact⟨((x12,x8,x9,x10),x20),rfl,trivial,(hw.perm (H':=[(x12,oT b m x8 x9 x10),(x8,bW [] 0),(x9,bW (Dc t3) 1),(x10,bW [] 0),(b,aO (L2 x20.1 x20.2.1) [0,3,4] 1 acc x20.2.1.pn x20.2.1.cn x20.2.2.1 x20.2.2.2)]) ((((List.Perm.swap _ _ _).cons _).trans (((List.Perm.swap _ _ _).cons _).cons _)).trans (((List.Perm.swap _ _ _).cons _).trans (List.Perm.refl _))) (List.Perm.refl _)).ret (by repeat (first|exact List.Sublist.refl _|apply List.Sublist.cons_cons|apply List.Sublist.cons)) (bL.dH λ f hf=>by simpa using hf) (List.Sublist.refl _)⟩
 ·exact nv c14
theorem qX{bm bT:Nat}{pk:Option Addr×Nat×Nat}{V:MV}(hl:V.hi.length<=1000000)(hs:SF w D [(bm,yE b bT pk V)] A [] (jB V) w) :
  Calls Tryz.prog 7 #[pt bm] w λ e w'=>∃x:Option Addr×Nat,e=.returned (.slice x.1 V.hi.length x.2)/\True/\SF w D [(bm,yE b bT pk V)] [] [(x.1,Bs V.hi)] (jB V) w':=by
 refine enter Tryz.func7 Tryz.ntmps7 rfl rfl hs ?_
 simp only[cP]
 refine dW ?_;refine oJ ?_;refine aH (cF (hc:=λ w1 hw=>Ke (hw.cl (.own (.tail .head))) (by omega))) (λ x7 h7=>?_);refine J1 ?_
 refine bE Tryz.results7 (λ w hw=>?_)
 exact⟨x7,rfl,trivial,hw.ret (List.Sublist.refl _) (bL.dH λ f hf=>by simpa using hf) (List.Sublist.refl _)⟩
end
end

/- sched.New. -/
end Go.Proofs.YtnilhhnfjfdokaaGreatDoor
namespace Go.Ct
section
open Go Go.RowKit
def Nq(l:List Nat)(i n:Nat):List Value:=Og (l.take i)++List.replicate (n-i) (.int .i8 0)
theorem zW{l:List Nat}{i n:Nat}(hi:i<=n)(hn:l.length=n):(Nq l i n).length=n:=by
 unfold Nq
 rw[List.length_append,Fb,List.length_take,List.length_replicate]
 omega
theorem Su{l:List Nat}{i n:Nat}(hi:i<n)(hn:l.length=n)(a:Value)(k:Nat)(hk:l[i]?=some k):((Nq l i n).set i a).set i (.int .i8 ((k:Nat):Int))=Nq l (i+1) n:=by
 have e1:l.take (i+1)=l.take i++[k]:=by rw[List.take_add_one,hk];rfl
 have e2:n-i=(n-(i+1))+1:=by omega
 have hl:(Og (l.take i)).length=i:=by rw[Fb,List.length_take];omega
 unfold Nq
 rw[e1,List.set_set,List.set_append_right _ _ (by omega),hl,Nat.sub_self,e2,List.replicate_succ,List.set_cons_zero]
 simp[Og]
theorem W5(l:List Nat):Nq l l.length l.length=Og l:=by simp[Nq]
theorem Wl(l:List Nat)(n:Nat):Nq l 0 n=List.replicate n (.int .i8 0):=by simp[Nq,Og]
theorem X9(k:Nat):made [.int .i8 0] k=List.replicate k (.int .i8 0):=by
 refine List.ext_getElem? λ i=>?_
 by_cases hi:i<k
 ·simp[made,madeCells,Array.getElem?_toList,Array.getElem?_map,Array.getElem?_range,hi,Nat.mod_one]
 ·rw[List.getElem?_eq_none (by rw[kF];simp;omega),List.getElem?_eq_none (by simp;omega)]
end
end Go.Ct
namespace Go.Proofs.YtnilhhnfjfdokaaGreatDoor
section
open Go Go.RowKit Go.Ct
theorem Iw:dL Tryz.prog 63 73 [.slice none 0 0,.int .i64 0,.pointer none]:=fZ (z:=.agg ⟨[.slice none 0 0,.int .i64 0,.pointer none]⟩) (by kernel_rfl) (by kernel_rfl) rfl
theorem U1:dL Tryz.prog 64 74 [.int .i8 0]:=fZ (z:=.int .i8 0) (by kernel_rfl) (by kernel_rfl) rfl
abbrev se:Obj:=.cells ⟨[]⟩ 0 (0,0)
abbrev Uv(acc:Int)(x y:AX)(pc:Option Addr)(cc:Nat):AS:=⟨L2 x y,[0,3,4],1,acc,y.pn,y.cn,pc,cc,0,se⟩
theorem Ts(acc:Int)(x y:AX)(pc:Option Addr)(cc:Nat):(Uv acc x y pc cc).Ok:=by
 refine⟨?_,⟨?_,?_,?_⟩⟩
 ·intro v hv
  simp[L2] at hv
  rcases hv with rfl|rfl<;>exact Us (by decide) (by decide)
 ·intro v hv
  simp only[AS.mm,cN,L2,List.cons_append,List.nil_append,List.map_cons,List.map_nil,List.mem_cons,List.not_mem_nil,or_false] at hv
  have z:(0:Int)<=((4:Nat):Int):=by decide
  have z3:(0:Int)<=((3:Nat):Int):=by decide
  have zb:∃b:Nat,(0:Int)=(b:Int)/\b<18446744073709551616:=⟨0,rfl,by decide⟩
  rcases hv with rfl|rfl|rfl|rfl
  ·exact⟨z,z,z,(λ r hr=>nomatch hr),z3,z3,z3,zb,zb⟩
  ·exact⟨z,z,z,(λ r hr=>nomatch hr),z3,z3,z3,zb,zb⟩
  ·exact⟨z,z,z,(λ r hr=>nomatch hr),z3,by show(1:Int)<=((3:Nat):Int);decide,z3,zb,zb⟩
  ·exact⟨z,z,z,(λ r hr=>nomatch hr),by show(2:Int)<=((3:Nat):Int);decide,z3,z3,zb,zb⟩
 ·intro v hv
  have h4:((AS.mm (Uv acc x y pc cc)).nodes.length:Int)=4:=rfl
  rw[h4]
  simp only[AS.mm,List.mem_cons,List.not_mem_nil,or_false] at hv
  rcases hv with rfl|rfl|rfl<;>decide
 ·show 2<=4
  decide
def Jl(ops:List (List lO))(π:Nat×Obj):AM:=⟨⟨[sX.c,sX.c,eO eZ 0,eO (xQ 1) 1],[0,3,4],1,π⟩,ops.map λ l=>⟨l,0,none⟩,[]⟩
structure NW where
 b:Nat
 bm:Nat
 bT:Nat
 bo:Nat
 bt:Nat
 bi:Nat
 pk:Option Addr×Nat×Nat
 V:MV
end

/- sched.New: the walk. -/
section
open Go Go.RowKit Go.Ct
def zP(l:List Nat):List Int:=l.map λ k=>((k:Nat):Int)
theorem T9(l:List Nat):(zP l).length=l.length:=by simp[zP]
theorem Zf{l:List Nat}{i k:Nat}(h:l[i]?=some k):(zP l).getD i 0=((k:Nat):Int):=by simp[zP,List.getD,h]
theorem Ve{q:Nat}(h:q<8):IntKind.i8.wrap ((q:Nat):Int)=((q:Nat):Int):=by
 have:q=0∨q=1∨q=2∨q=3∨q=4∨q=5∨q=6∨q=7:=by omega
 rcases this with rfl|rfl|rfl|rfl|rfl|rfl|rfl|rfl<;>decide
structure o0(ls:List kT)(i:Nat)(l:List gN)(F:Fr):Prop where
 len:l.length=i
 abs:l.map gN.abs=(ls.take i).map λ s=>⟨s.l,0,none⟩
 pr:∀t∈l,t.pr=none/\(t.op,gG t.ops)∈F
theorem o0.next{ls:List kT}{i:Nat}{l:List gN}{F:Fr}(h:o0 ls i l F){s:kT}(hs:ls[i]?=some s)(p:Option Addr)(c:Nat):o0 ls (i+1) (l++[⟨p,c,s.l,0,none⟩]) ((p,gG s.l)::F):=by
 refine⟨by simp[h.len],?_,λ t ht=>?_⟩
 ·rw[List.map_append,h.abs,List.take_add_one,hs,List.map_append]
  rfl
 ·rcases List.mem_append.1 ht with ht|ht
  ·exact⟨(h.pr t ht).1,List.mem_cons_of_mem _ (h.pr t ht).2⟩
  ·rw[List.mem_singleton.1 ht]
   exact⟨rfl,.head _⟩
structure gz(m:Nat)(ls:List kT)(pk:List Nat)(x:NW):Prop where
 mi:MI x.b 0 (Jl (ls.map kT.l) x.V.a.pv) x.V
 pkm:(x.pk.1,Og pk)∈x.V.B
 pl:x.pk.2.1=pk.length
abbrev NW.H(m:Nat)(x:NW):List (Nat×Obj):=cg m x.b x.bm x.bT x.bo x.bt x.bi x.pk x.V
set_option maxRecDepth 100000 in
set_option maxHeartbeats 1000000 in
theorem Mn{w:World}{m:Nat}{ls:List kT}{pk:List Nat}{p p2:Option Addr}{c c2:Nat}(hs8:ls.length<=8)(hs16:∀s∈ls,s.l.length<=16/\∀o∈s.l,F9 o)(hn:pk.length<=67108864)(hpk:∀k∈pk,k<ls.length)(hcl:Go.Ct.Cl w p (gQ ls))(hcp:Go.Ct.Cl w p2 (aW (zP pk)))(hco:∀s∈ls,Go.Ct.Cl w s.p (gG s.l)) :
  Calls Tryz.prog 9 #[.agg ⟨[.int .u64 (m:Int),.slice p ls.length c,.slice p2 pk.length c2]⟩] w λ e w'=>∃x:NW,e=.returned (.tuple #[pt x.bm,.int .i64 0])/\gz m ls pk x/\SF w [] (NW.H m x) [] x.V.B (jB x.V) w':=by
 refine enter Tryz.func9 Tryz.ntmps9 rfl rfl (SF.begin (A:=(p,gQ ls)::(p2,aW (zP pk))::ls.map λ s=>(s.p,gG s.l)) (λ f hf=>by
rcases List.mem_cons.1 hf with rfl|hf
·exact hcl
rcases List.mem_cons.1 hf with rfl|hf
·exact hcp
·obtain⟨s,hs,rfl⟩:=List.mem_map.1 hf
 exact hco s hs)) ?_
 simp only[cP]
 all_goals (refine J0 ?_;refine bF (λ x1=>?_);refine J8 ?_;refine aJ ?_;refine pV ?_;refine aF (cV (hc:=λ w1 hw=>Py hs8 (λ s hs=>(hs16 s hs).1) hn (hw.cl (.old .head)))) (λ x12=>?_);refine Kb7 ?_;refine Kc9 ?_)
 all_goals
 refine aU (λ c14=>?_) (λ c14=>?_)
 ·exact nv c14
 ·all_goals try (first|contradiction|(exfalso;omega))
  all_goals (refine Kc1 ?_;refine aH (Ws (Hc:=λ q=>[(q,aO [] [] 0 0 none 0 none 0)]) (Fc:=λ _=>[]) (Oc:=λ _=>mW [] [] none 0 none 0) (hc:=λ w1 hw=>ie w1)) (λ x16 h16=>?_);refine Ni ?_;refine aA (Ui rf (Qz _)) rfl ?_;refine J3 ?_;refine aH (Jh (V:=λ x:(Nat×Nat×Nat×Nat)×AX×AX×Option Addr×Nat=>pt x.1.1) (hs:=[(x16,aO [] [] 0 0 none 0 none 0)]) (os:=mW [] [] none 0 none 0) (hs':=λ x=>[(x16,aO (L2 x.2.1 x.2.2.1) [0,3,4] 1 0 x.2.2.1.pn x.2.2.1.cn x.2.2.2.1 x.2.2.2.2)]) (Hc:=λ x=>[(x.1.1,oT x16 m x.1.2.1 x.1.2.2.1 x.1.2.2.2),(x.1.2.1,bW [] 0),(x.1.2.2.1,bW (Dc t3) 1)]) (os':=λ x=>mW (L2 x.2.1 x.2.2.1) [0,3,4] x.2.2.1.pn x.2.2.1.cn x.2.2.2.1 x.2.2.2.2) (Oc:=λ _=>[]) (Fc:=λ x=>dV (L2 x.2.1 x.2.2.1)) (A0:=[]) (hc:=λ w1 hw=>(Y8 (m:=m) hw).mono λ _ _ ⟨x,e,h,hw⟩=>⟨x,e,h,by rw[List.append_nil];exact hw.perm (List.perm_append_comm (l₁:=[(x16,aO (L2 x.2.1 x.2.2.1) [0,3,4] 1 0 x.2.2.1.pn x.2.2.1.cn x.2.2.2.1 x.2.2.2.2)]) (l₂:=[(x.1.1,oT x16 m x.1.2.1 x.1.2.2.1 x.1.2.2.2),(x.1.2.1,bW [] 0),(x.1.2.2.1,bW (Dc t3) 1)])) (List.Perm.refl _)⟩)) (λ x22 h22=>?_);refine cK ?_;refine bF (λ x24=>?_);refine kZ ?_;refine jA ?_;refine Ka8 ?_)
  all_goals
   refine uD [8,28,29,30,31,32,33,34,35,36,37,38,39,40,41,42,43,44] (λ y:Nat×List gN×Option Addr×Nat×Fr=>[(28,.int .i64 ((y.1:Nat):Int))]) (λ y=>y.1<=ls.length/\o0 ls y.1 y.2.1 y.2.2.2.2) (λ y=>[(x24,.cells ⟨[pt x16,pt x22.1.1,.slice y.2.2.1 y.2.1.length y.2.2.2.1,.slice none 0 0,.slice none 0 0,.int .i64 0]⟩ 66 (0,0)),(x22.1.1,oT x16 m x22.1.2.1 x22.1.2.2.1 x22.1.2.2.2),(x22.1.2.1,bW [] 0),(x22.1.2.2.1,bW (Dc t3) 1),(x16,aO (L2 x22.2.1 x22.2.2.1) [0,3,4] 1 0 x22.2.2.1.pn x22.2.2.1.cn x22.2.2.2.1 x22.2.2.2.2),(x1,.cells ⟨[.int .u64 (m:Int),.slice p ls.length c,.slice p2 pk.length c2]⟩ 27 (0,0))]) (λ y=>y.2.2.2.2) (λ y=>⟨y.2.2.1,db y.2.1,y.2.2.2.1,73,3⟩::mW (L2 x22.2.1 x22.2.2.1) [0,3,4] x22.2.2.1.pn x22.2.2.1.cn x22.2.2.2.1 x22.2.2.2.2) (λ y=>ls.length-y.1) ((0,[],none,0,[])) (⟨Nat.zero_le _,rfl,rfl,λ t ht=>nomatch ht⟩) (λ y f hx=>?_) (hw0:=λ w hw=>(hw.gU 73 3).back (hF:=bL.nil))
   dsimp only[lP,List.map,List.cons_append,List.nil_append]
   obtain⟨hy1,hy2⟩:=hx
   have hyl:=hy2.len
   all_goals (refine Ka1 ?_)
   all_goals
   refine aU (λ c29=>?_) (λ c29=>?_)
   ·all_goals try (first|contradiction|(exfalso;omega))
    all_goals
     have hkl:y.1<ls.length:=by omega
     have hat:=Oy hkl
     have hoA:(ls[y.1].p,gG ls[y.1].l)∈ls.map λ s=>(s.p,gG s.l):=List.mem_map.2 ⟨_,List.getElem_mem hkl,rfl⟩
     have h16k:=(hs16 _ (List.getElem_mem hkl)).1
     have hst:ls[y.1]?=some ls[y.1]:=List.getElem?_eq_getElem hkl
     generalize ls[y.1]=s at hat hoA h16k hst
    all_goals (refine Kd2 ?_;refine aA (bR (k:=y.1) (cs:=gQ ls) rf rf dJ eC (.old .head) hkl (by rw[Bn];exact hkl)) rfl ?_;refine aA (bO (q:=y.1) (cs:=gQ ls) rf eC (.old .head) hat) rfl ?_;refine J1 ?_;refine eG [(0,[]),(1,[]),(2,[]),(3,[]),(4,[]),(5,[]),(6,[4]),(7,[]),(8,[4]),(9,[]),(10,[]),(11,[]),(12,[])] ?_;refine Cy ?_;refine aR ?_;refine bS (i:=6) (hq:=(cF (hc:=λ w1 hw=>Lu (hw.cl (.old (.tail (.tail (mV.gE hoA))))) (by omega)))) (h:=λ x38 h38=>?_);refine jZ ?_;refine bZ (i:=8) (hq:=(by exact gD λ _=>aP Iw mH rf rf rf rf (by simp only[dQ,cI,List.cons_append,List.nil_append,List.append_nil];exact rfl))) (h:=λ x40=>?_);((refine bZ (i:=9) (hq:=(aQ.cL (E7 (f:=gN.cells) (v1:=⟨x38.1,x38.2,s.l,0,none⟩) cS (by decide) rfl rf rf .head rfl (.new .head) Iw rfl dJ (by omega)) hP)) (h:=λ x41=>?_);try (refine eR (λ h41=>?_))));refine Gq ?_;refine Ka9 ?_)
    all_goals
     refine zI ((y.1+1,y.2.1++[⟨x38.1,x38.2,s.l,0,none⟩],x41.1,x41.2,(x38.1,gG s.l)::y.2.2.2.2)) ?_ (hw1:=λ w hw=>by rw[show y.2.1.length+1=(y.2.1++[(⟨x38.1,x38.2,s.l,0,none⟩:gN)]).length by simp] at hw;exact hw.back (hF:=bL.dH λ f hf=>by simp at hf ⊢;rcases hf with h|h<;>simp[h]))
     ·exact⟨hkl,hy2.next hst _ _⟩
   ·all_goals try (first|contradiction|(exfalso;omega))
    all_goals (refine aX rfl ?_;refine J2 ?_;refine oi ?_;refine aF (nG rf rf U1 (by omega) (by omega) (X9 pk.length)) (λ x49=>?_);refine Ak ?_;refine C3 ?_;refine Ka8 ?_)
    all_goals
     refine uD [9,10,55,56,57,58,59,60,61,62,63,64,65,66,67,68,69,70,71,72,73,74,75,76,77,78,79,80,81,82,83,84,85] (λ z:Nat=>[(55,.int .i64 ((z:Nat):Int))]) (λ z=>z<=pk.length) (λ z=>[(x24,.cells ⟨[pt x16,pt x22.1.1,.slice y.2.2.1 y.2.1.length y.2.2.2.1,.slice (some ⟨x49,0,none⟩) pk.length pk.length,.slice none 0 0,.int .i64 0]⟩ 66 (0,0)),(x22.1.1,oT x16 m x22.1.2.1 x22.1.2.2.1 x22.1.2.2.2),(x22.1.2.1,bW [] 0),(x22.1.2.2.1,bW (Dc t3) 1),(x16,aO (L2 x22.2.1 x22.2.2.1) [0,3,4] 1 0 x22.2.2.1.pn x22.2.2.1.cn x22.2.2.2.1 x22.2.2.2.2),(x1,.cells ⟨[.int .u64 (m:Int),.slice p ls.length c,.slice p2 pk.length c2]⟩ 27 (0,0))]) (λ z=>y.2.2.2.2) (λ z=>⟨some ⟨x49,0,none⟩,Nq pk z pk.length,pk.length,74,1⟩::⟨y.2.2.1,db y.2.1,y.2.2.2.1,73,3⟩::mW (L2 x22.2.1 x22.2.2.1) [0,3,4] x22.2.2.1.pn x22.2.2.1.cn x22.2.2.2.1 x22.2.2.2.2) (λ z=>pk.length-z) (0) (Nat.zero_le _) (λ z f hx=>?_) (hw0:=λ w hw=>by rw[Wl];exact hw.z1)
     dsimp only[lP,List.map,List.cons_append,List.nil_append]
     all_goals (refine Ka1 ?_)
     all_goals
     refine aU (λ c56=>?_) (λ c56=>?_)
     ·all_goals try (first|contradiction|(exfalso;omega))
      all_goals
       have hzl:z<pk.length:=by omega
       have hzt:pk[z]?=some pk[z]:=List.getElem?_eq_getElem hzl
       have hzk:=hpk _ (List.getElem_mem hzl)
       generalize pk[z]=q at hzt hzk
       have hzn:=Zf hzt
       have hq8:q<8:=by omega
      all_goals (refine Ka6 ?_;refine aA (Jc (lst:=zP pk) (k:=z) rf rf dJ eC (.old (.tail .head)) hzl (by rw[T9];exact hzl)) rfl ?_;refine aA (bO (q:=z) (cs:=aW (zP pk)) (v:=.int .i64 ((q:Nat):Int)) rf eC (.old (.tail .head)) (by rw[<- hzn];simp[aW,zP,List.getD,hzt])) rfl ?_;refine J8 ?_;refine oJ ?_;refine aB ?_;refine aA (bR (k:=z) (cs:=Nq pk z pk.length) rf rf dJ eC (.own .head) hzl (by rw[zW hx rfl];exact hzl)) rfl ?_;refine aL (aQ.hJ (jP (q:=z) (cs:=Nq pk z pk.length) rf rf rfl eC zG (by rw[zW hx rfl];exact hzl)) hP) (λ _=>?_);refine Kb8 ?_;refine fS ?_;refine aB ?_)
      all_goals ((refine Ka2 ?_))
      all_goals (((refine Ka2 ?_));((refine Kc3 ?_));refine kj ?_;refine wU ?_;refine aD ?_)
      all_goals
       refine aU (λ c76=>?_) (λ c76=>?_)
       ·all_goals try (first|contradiction|(exfalso;omega))
        all_goals (refine Gt ?_;refine bC ?_;refine J3 ?_;refine G3 ?_;refine aA (nX rf (by exact nQ (k:=.i64) rfl) (by exact nQ (k:=.i8) rfl)) rfl ?_;refine aA (bR (k:=z) (cs:=(Nq pk z pk.length).set z (.int .i8 (-1))) rf rf dJ eC (.own .head) hzl (by rw[List.length_set,zW hx rfl];exact hzl)) rfl ?_;refine aL (aQ.hJ (jP (q:=z) (v:=.int .i8 (IntKind.i8.wrap ((q:Nat):Int))) (cs:=(Nq pk z pk.length).set z (.int .i8 (-1))) rf rf rfl eC zG (by rw[List.length_set,zW hx rfl];exact hzl)) hP) (λ _=>?_);refine aD ?_;refine Ka9 ?_)
        all_goals
        refine zI (z+1) ?_ (hw1:=λ w hw=>by rw[show IntKind.i8.wrap ((q:Nat):Int)=((q:Nat):Int) from Ve hq8,Su hzl rfl _ q hzt] at hw;exact hw.z1)
        ·exact hzl
       ·all_goals try (first|contradiction|(exfalso;omega))
     ·all_goals try (first|contradiction|(exfalso;omega))
      all_goals (refine aX rfl ?_;refine J2 ?_;refine J8 ?_)
      all_goals
       refine bV Tryz.results9 (λ w hw=>?_)
       have hzl:z=pk.length:=by omega
       have hyl2:y.1=ls.length:=by omega
       subst hzl
       rw[W5] at hw
       obtain⟨n1,n2,n3⟩:=hy2
       rw[hyl2,List.take_length] at n2
       have hfl:y.2.1.flatMap (Fh x16)=[]:=List.flatMap_eq_nil_iff.2 λ t ht=>by unfold Fh;rw[(n3 t ht).1]
       refine⟨⟨x16,x24,x22.1.1,x22.1.2.1,x22.1.2.2.1,x22.1.2.2.2,(some ⟨x49,0,none⟩,pk.length,pk.length),⟨Uv 0 x22.2.1 x22.2.2.1 x22.2.2.2.1 x22.2.2.2.2,[],0,y.2.1,y.2.2.1,y.2.2.2.1,[],none,0,0,List.cons (some ⟨x49,0,none⟩,Og pk) y.2.2.2.2⟩⟩,rfl,⟨⟨Ts _ _ _ _ _,rfl,by rw[n2];simp[Jl],rfl,λ k t hk=>?_,λ t ht p hp=>?_,λ f hf=>.inl (Rn f hf),λ t ht=>List.mem_cons_of_mem _ (n3 t ht).2,λ t ht=>?_,by show y.2.1.length<=8;omega,Nat.zero_le _⟩,.head _,rfl⟩,?_⟩
       ·unfold Da
        rw[(n3 t (List.mem_of_getElem? hk)).1]
        intro i _ _
        rfl
       ·rw[(n3 t ht).1] at hp
        cases hp
       ·have hm:t.abs∈ls.map λ s=>(⟨s.l,0,none⟩:Rf):=by rw[<- n2];exact List.mem_map.2 ⟨t,ht,rfl⟩
        obtain⟨s,hs,e⟩:=List.mem_map.1 hm
        have e1:t.ops=s.l:=(congrArg Rf.ops e).symm
        have e2:t.idx=0:=(congrArg Rf.idx e).symm
        rw[e1,e2]
        exact⟨(hs16 s hs).1,Nat.zero_le _,λ hne=>absurd (n3 t ht).1 hne,(hs16 s hs).2⟩
       ·show SF _ _ (_::_::_::_::_::y.2.1.flatMap (Fh x16)) _ _ _ _
        rw[hfl]
        exact(((hw.freeze .head).gU 59 11).perm (List.Perm.refl _) (List.Perm.swap _ _ _)).ret (by repeat (first|exact List.Sublist.refl _|apply List.Sublist.cons_cons|apply List.Sublist.cons)) (by exact bL.all) (List.Sublist.refl _)
end

end Go.Proofs.YtnilhhnfjfdokaaGreatDoor

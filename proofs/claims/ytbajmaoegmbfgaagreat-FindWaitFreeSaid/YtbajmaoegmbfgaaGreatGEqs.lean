/- Structs of numbers, bools and strings are compared. -/
import Derived.Test.YtbajmaoegmbfgaaGreatGDfr
import Derived.Test.YtbajmaoegmbfgaaGreatGWo6
import Derived.Test.YtbajmaoegmbfgaaGreatGJoin

set_option linter.unusedSimpArgs false
set_option linter.unusedVariables false
namespace Go.Ct
section
open Go Go.RowKit
section
variable{P:Program}{w:World}
def u9(P:Program)(t:TypeId):Nat->Bool
 | 0=>match P.underlying t with|some (.int _)=>true|_=>false
 | 1=>match P.underlying t with|some .bool=>true|_=>false
 | _=>match P.underlying t with|some .string=>true|_=>false
inductive ns:Nat->Value->Value->Bool->Prop where
 | int (k:IntKind) (a b:Int):ns 0 (.int k a) (.int k b) (a==b)
 | bool (a b:Bool):ns 1 (.bool a) (.bool b) (a==b)
 | str (a b:ByteArray):ns 2 (.string a) (.string b) (decide (a=b))
theorem ns.run{t:TypeId}{k:Nat}{u v:Value}{r:Bool}(h:ns k u v r)(ht:u9 P t k=true)(d:Nat):(Op.equalIn (d+1) t u v).run P w=.ok r w:=by
 cases h with
 | int k a b =>
  cases hu:P.underlying t with
  | none=>simp[u9,hu] at ht
  | some z =>
   cases z<;>simp[u9,hu] at ht
   exact run_equalIn_int w d t k _ a b hu
 | bool a b =>
  cases hu:P.underlying t with
  | none=>simp[u9,hu] at ht
  | some z =>
   cases z<;>simp[u9,hu] at ht
   exact run_equalIn_bool w d t a b hu
 | str a b =>
  cases hu:P.underlying t with
  | none=>simp[u9,hu] at ht
  | some z =>
   cases z<;>simp[u9,hu] at ht
   rw[<- H3]
   exact run_equalIn_string w d t a b hu
def fOk(P:Program)(f:Field)(o k:Nat):Bool:=f.name != "_" && Nat.beq f.offset o&&one P f.type&&u9 P f.type k
theorem Vc{f:Field}{fs:List Field}{o k:Nat}{u v:Value}{r:Bool}{xs ys:Array Value}{d:Nat}(hf:fOk P f o k=true)(hx:xs[o]?=some u)(hy:ys[o]?=some v)(h:ns k u v r) :
  (Op.eqFields (d+1) xs ys (f::fs)).run P w=if r=true then(Op.eqFields (d+1) xs ys fs).run P w else .ok false w:=by
 simp only[fOk,Bool.and_eq_true,bne_iff_ne,ne_eq] at hf
 obtain⟨⟨⟨h1,h2⟩,h3⟩,h4⟩:=hf
 replace h2:=eG h2
 subst h2
 have p1:(part f.type xs f.offset).run P w=.ok u w:=mH h3 hx w
 have p2:(part f.type ys f.offset).run P w=.ok v w:=mH h3 hy w
 simp only[Op.eqFields,h1,ne_eq,not_false_eq_true,if_true,Sem.run_bind,p1,p2,h.run h4 d,Result.andThen_ok,Sem.run_ite,Sem.run_pure]
 cases r<;>simp
theorem uc{xs ys:Array Value}{d:Nat}:(Op.eqFields d xs ys []).run P w=.ok true w:=by simp[Op.eqFields]
def Y1(P:Program)(t:TypeId):List Nat->Nat->List Field->Bool
 | [],_,fs=>fs.isEmpty
 | k::ks,o,f::fs=>fOk P f o k&&Y1 P t ks (o+1) fs
 | _::_,_,[]=>false
inductive B4:List Nat->List Value->List Value->Bool->Prop where
 | nil:B4 [] [] [] true
 | cons {k:Nat} {ks:List Nat} {u v:Value} {us vs:List Value} {r r2:Bool} (h:ns k u v r) (hs:B4 ks us vs r2):B4 (k::ks) (u::us) (v::vs) (r&&r2)
theorem Us{t:TypeId}{d:Nat}:∀{ks:List Nat} {us vs:List Value} {r:Bool} {fs:List Field} {o:Nat} {xs ys:List Value},B4 ks us vs r->Y1 P t ks o fs=true->xs.drop o=us->ys.drop o=vs ->
  (Op.eqFields (d+1) ⟨xs⟩ ⟨ys⟩ fs).run P w=.ok r w
 | [],_,_,_,fs,_,_,_,h,hs,_,_=>by
  cases h
  cases fs with
  | nil=>exact uc
  | cons f fs=>simp[Y1] at hs
 | k::ks,_,_,_,fs,o,xs,ys,h,hs,hx,hy=>by
  cases h with
  | @cons _ _ u v us vs r r2 h h2 =>
   cases fs with
   | nil=>simp[Y1] at hs
   | cons f fs =>
    simp only[Y1,Bool.and_eq_true] at hs
    have ex:xs[o]?=some u:=by rw[<- List.head?_drop,hx];rfl
    have ey:ys[o]?=some v:=by rw[<- List.head?_drop,hy];rfl
    have hx2:xs.drop (o+1)=us:=by rw[<- List.drop_drop,hx];rfl
    have hy2:ys.drop (o+1)=vs:=by rw[<- List.drop_drop,hy];rfl
    rw[Vc hs.1 (by simpa using ex) (by simpa using ey) h,Us h2 hs.2 hx2 hy2]
    cases r<;>simp
def Ez(P:Program)(t:TypeId)(ks:List Nat):Bool :=
 (match P.underlying t with
 | some (.struct fs)=>Y1 P t ks 0 fs.toList
 | _=>false)&&!P.stoodInHeld t&&!P.eqGuardType P.depth t
theorem C7{t:TypeId}{ks:List Nat}{us vs:List Value}{r:Bool}(h:Ez P t ks=true)(hv:B4 ks us vs r)(d:Nat) :
  (Op.equalIn (d+2) t (.agg ⟨us⟩) (.agg ⟨vs⟩)).run P w=.ok r w/\P.eqGuardType P.depth t=false:=by
 unfold Ez at h
 cases hu:P.underlying t with
 | none=>simp[hu] at h
 | some dd =>
  rw[hu] at h
  cases dd<;>simp only[Bool.false_and,Bool.false_eq_true] at h
  rename_i fs
  have hf:P.fieldsOf t=fs:=by simp[Program.fieldsOf,hu]
  simp only[Bool.and_eq_true,Bool.not_eq_true'] at h
  refine⟨?_,h.2⟩
  rw[run_equalIn_struct w (d+1) t _ _ (by rw[hf];exact hu) h.1.2,hf]
  exact Us (o:=0) hv h.1.1 rfl rfl
def D0(P:Program)(t:TypeId):List Nat->List Nat->Nat->List Field->Bool
 | [],k2,o,[f]=>f.name != "_" && Nat.beq f.offset o&&jQ P f.type 2&&Ez P f.type k2
 | k::ks,k2,o,f::fs=>fOk P f o k&&D0 P t ks k2 (o+1) fs
 | _,_,_,_=>false
theorem Aa{t:TypeId}(h:jQ P t 2=true){cs:List Value}{off:Nat}{u v:Value}(hv:cs.drop off=[u,v])(w:World):(part t ⟨cs⟩ off).run P w=.ok (.agg ⟨[u,v]⟩) w:=by
 obtain⟨dd,hu,hm,hi⟩:=iG h
 have hagg:(isAgg t).run P w=.ok true w:=by
  unfold isAgg
  rw[Sem.run_bind,run_underlying hu w]
  cases dd<;>simp_all
 cases hq':P.info? t with
 | none=>rw[hq'] at hi;simp at hi
 | some i =>
  have hs:i.size=2:=by rw[hq'] at hi;simpa using hi
  simp[part,hagg,Go.sizeOf,typeInfo,hq',hs,hv]
theorem Qu{t:TypeId}{d:Nat}{k2:List Nat}{a1 a2 b1 b2:Value}{r2:Bool}(hn:B4 k2 [a1,a2] [b1,b2] r2):∀{ks:List Nat} {us vs:List Value} {r:Bool} {fs:List Field} {o:Nat} {xs ys:List Value},B4 ks us vs r->D0 P t ks k2 o fs=true->xs.drop o=us++[a1,a2]->ys.drop o=vs++[b1,b2] ->
  (Op.eqFields (d+2) ⟨xs⟩ ⟨ys⟩ fs).run P w=.ok (r&&r2) w
 | [],_,_,_,fs,o,xs,ys,h,hs,hx,hy=>by
  cases h
  cases fs with
  | nil=>simp[D0] at hs
  | cons f fs =>
   cases fs with
   | cons g fs=>simp[D0] at hs
   | nil =>
    simp only[D0,Bool.and_eq_true,bne_iff_ne,ne_eq] at hs
    obtain⟨⟨⟨h1,h2⟩,h3⟩,h4⟩:=hs
    replace h2:=eG h2
    subst h2
    have p1:(part f.type ⟨xs⟩ f.offset).run P w=.ok (.agg ⟨[a1,a2]⟩) w:=Aa h3 hx w
    have p2:(part f.type ⟨ys⟩ f.offset).run P w=.ok (.agg ⟨[b1,b2]⟩) w:=Aa h3 hy w
    simp only[Op.eqFields,h1,ne_eq,not_false_eq_true,if_true,Sem.run_bind,p1,p2,(C7 (w:=w) h4 hn d).1,Result.andThen_ok,Sem.run_ite,Sem.run_pure]
    cases r2<;>simp
 | k::ks,_,_,_,fs,o,xs,ys,h,hs,hx,hy=>by
  cases h with
  | @cons _ _ u v us vs r r3 h h2 =>
   cases fs with
   | nil=>simp[D0] at hs
   | cons f fs =>
    simp only[D0,Bool.and_eq_true] at hs
    have ex:xs[o]?=some u:=by rw[<- List.head?_drop,hx];rfl
    have ey:ys[o]?=some v:=by rw[<- List.head?_drop,hy];rfl
    have hx2:xs.drop (o+1)=us++[a1,a2]:=by rw[<- List.drop_drop,hx];rfl
    have hy2:ys.drop (o+1)=vs++[b1,b2]:=by rw[<- List.drop_drop,hy];rfl
    rw[Vc hs.1 (by simpa using ex) (by simpa using ey) h,Qu hn h2 hs.2 hx2 hy2]
    cases r<;>simp
def qD(P:Program)(t:TypeId)(ks k2:List Nat):Bool :=
 (match P.underlying t with
 | some (.struct fs)=>D0 P t ks k2 0 fs.toList
 | _=>false)&&!P.stoodInHeld t&&!P.eqGuardType P.depth t
theorem Lq{t:TypeId}{ks k2:List Nat}{us vs:List Value}{a1 a2 b1 b2:Value}{r r2:Bool}(h:qD P t ks k2=true)(hv:B4 ks us vs r)(hn:B4 k2 [a1,a2] [b1,b2] r2)(d:Nat) :
  (Op.equalIn (d+3) t (.agg ⟨us++[a1,a2]⟩) (.agg ⟨vs++[b1,b2]⟩)).run P w=.ok (r&&r2) w/\P.eqGuardType P.depth t=false:=by
 unfold qD at h
 cases hu:P.underlying t with
 | none=>simp[hu] at h
 | some dd =>
  rw[hu] at h
  cases dd<;>simp only[Bool.false_and,Bool.false_eq_true] at h
  rename_i fs
  have hf:P.fieldsOf t=fs:=by simp[Program.fieldsOf,hu]
  simp only[Bool.and_eq_true,Bool.not_eq_true'] at h
  refine⟨?_,h.2⟩
  rw[run_equalIn_struct w (d+2) t _ _ (by rw[hf];exact hu) h.1.2,hf]
  exact Qu (o:=0) hn hv h.1.1 rfl rfl
variable{S:List (Nat×Value)}{G:World->Prop}{d:Nat}{ty t t':TypeId}{pos:String}{af:Array Edge}{gd:Option (Nat×Bool)}{x y:Operand}
instance:DecidableEq Ac:=λ a b=>if h:a.k=b.k/\a.c=b.c/\a.o=b.o/\a.n=b.n then isTrue (by cases a;cases b;simp_all) else isFalse (λ e=>h (by subst e;exact⟨rfl,rfl,rfl,rfl⟩))
instance:DecidableEq Rs:=λ a b=>if h:a.err=b.err/\a.found=b.found/\a.val=b.val/\a.key=b.key/\a.fZ=b.fZ/\a.ref=b.ref/\a.root=b.root/\a.ro=b.ro then isTrue (by cases a;cases b;simp_all) else isFalse (λ e=>h (by subst e;exact⟨rfl,rfl,rfl,rfl,rfl,rfl,rfl,rfl⟩))
theorem w3(a b:Ac):B4 [0,0,0,0] a.cells b.cells (decide (a=b)):=by
 have h:=B4.cons (ns.int .i64 a.k b.k) (.cons (.int .i64 a.c b.c) (.cons (.int .i64 a.o b.o) (.cons (.int .i64 a.n b.n) .nil)))
 have e:(a.k==b.k&&(a.c==b.c&&(a.o==b.o&&(a.n==b.n&&true))))=decide (a=b):=by
  rw[Bool.eq_iff_iff]
  obtain⟨a1,a2,a3,a4⟩:=a
  obtain⟨b1,b2,b3,b4⟩:=b
  simp
 rw[e] at h
 exact h
theorem V1{a b:Ac}(hx:ev S x=.agg ⟨a.cells⟩)(hy:ev S y=.agg ⟨b.cells⟩)(ht:Ez P t [0,0,0,0]=true):aL P S G ⟨some d,.binOp .eql t x y t',ty,pos,af,gd⟩ (.bool (decide (a=b))):=⟨λ w _=>by
 have h:=C7 (w:=w) ht (w3 a b) 9998
 simp[execOp,hx,hy,run_eqGuard_agg w _ t _ _ _ _ h.2,run_eql_struct,h.1]⟩
theorem aw(a b:Rs){t:TypeId}(ht:qD P t [0,1,0,2,0,0] [0,1]=true)(d:Nat) :
  (Op.equalIn (d+3) t (.agg ⟨a.cells⟩) (.agg ⟨b.cells⟩)).run P w=.ok (decide (a=b)) w/\P.eqGuardType P.depth t=false:=by
 have h:=Lq (w:=w) ht (B4.cons (ns.int .i64 a.err b.err) (.cons (.bool a.found b.found) (.cons (.int .u64 a.val b.val) (.cons (.str a.key b.key) (.cons (.int .i64 a.fZ b.fZ) (.cons (.int .i64 a.ref b.ref) .nil))))))
  (B4.cons (ns.int .i64 a.root b.root) (.cons (.bool a.ro b.ro) .nil)) d
 have e:((a.err==b.err&&(a.found==b.found&&(a.val==b.val&&(decide (a.key=b.key)&&(a.fZ==b.fZ&&(a.ref==b.ref&&true))))))&&(a.root==b.root&&(a.ro==b.ro&&true)))=decide (a=b):=by
  rw[Bool.eq_iff_iff]
  obtain⟨a1,a2,a3,a4,a5,a6,a7,a8⟩:=a
  obtain⟨b1,b2,b3,b4,b5,b6,b7,b8⟩:=b
  simp[and_assoc]
 rw[e] at h
 exact h
theorem Mc{a b:Rs}(hx:ev S x=.agg ⟨a.cells⟩)(hy:ev S y=.agg ⟨b.cells⟩)(ht:qD P t [0,1,0,2,0,0] [0,1]=true):aL P S G ⟨some d,.binOp .eql t x y t',ty,pos,af,gd⟩ (.bool (decide (a=b))):=⟨λ w _=>by
 have h:=aw (w:=w) a b ht 9997
 simp[execOp,hx,hy,run_eqGuard_agg w _ t _ _ _ _ h.2,run_eql_struct,h.1]⟩
theorem q9{a b:Rs}(hx:ev S x=.agg ⟨a.cells⟩)(hy:ev S y=.agg ⟨b.cells⟩)(ht:qD P t [0,1,0,2,0,0] [0,1]=true):aL P S G ⟨some d,.binOp .neq t x y t',ty,pos,af,gd⟩ (.bool (!decide (a=b))):=⟨λ w _=>by
 have h:=aw (w:=w) a b ht 9997
 simp[execOp,hx,hy,run_eqGuard_agg w _ t _ _ _ _ h.2,run_neq_struct,h.1]⟩
end
end
end Go.Ct
namespace Go.Proofs.YtbajmaoegmbfgaaGreat
section
open Go Go.RowKit Go.Ct
end

/- Pairs: whether a task and an execution are at the same point. -/
section
open Go Go.RowKit Go.Ct
section
variable{k:Cl}{ba bx bm tb n:Nat}{x:XS}{c:Cd}{rs:Rs}{D:List Nat}{A:Fr}{w:World}
theorem Bd{bt:Nat}{d:Bool}(hd:(c.a.k==0)=d)(h:w.heap[bt]?=some (tO ba c n)):Calls Tryz.prog 33 #[.pointer (some ⟨bt,0,none⟩)] w λ e w'=>e=.returned (.bool d)/\St w [] [] w':=by
 subst hd
 exact vS h
theorem Nr{bt:Nat}{d:Bool}{a:Ac}(hd:(c.a.k==0)=d)(ha:(if d=true then Ac.zero else c.a)=a)(h:w.heap[bt]?=some (tO ba c n)):Calls Tryz.prog 133 #[.pointer (some ⟨bt,0,none⟩)] w λ e w'=>e=.returned (.tuple #[.agg ⟨a.cells⟩,.bool (!d)])/\St w [] [] w':=by
 subst hd ha
 have:=cy h
 simp only[beq_iff_eq] at this ⊢
 exact this
theorem sZ{bt:Nat}{d:Bool}{r:Rs}(hd:(c.a.k==0)=d)(ha:(if d=true then c.r else Rs.zero)=r)(h:w.heap[bt]?=some (tO ba c n)):Calls Tryz.prog 34 #[.pointer (some ⟨bt,0,none⟩)] w λ e w'=>e=.returned (.agg ⟨r.cells⟩)/\St w [] [] w':=by
 subst hd ha
 have:=Tg h
 simp only[beq_iff_eq] at this ⊢
 exact this
theorem T4{dn:Bool}{a:Ac}(ha:(if dn=true then Ac.zero else x.nx)=a)(hs:SF w D (xH k bx bm x dn rs) A [] (xW x) w):Calls Tryz.prog 134 #[.pointer (some ⟨bx,0,none⟩)] w λ e w'=>∃q:Unit,e=.returned (.tuple #[.agg ⟨a.cells⟩,.bool (!dn)])/\True/\SF w D (xH k bx bm x dn rs) [] [] (xW x) w':=by
 subst ha
 exact rk hs
theorem Uv{dn:Bool}(hn:x.got.length=n)(hs:SF w D (xH k bx bm x dn rs) A [] (xW x) w):Calls Tryz.prog 132 #[.pointer (some ⟨bx,0,none⟩)] w λ e w'=>∃q:Unit,e=.returned (.int .i64 (n:Int))/\True/\SF w D (xH k bx bm x dn rs) [] [] (xW x) w':=by
 subst hn
 exact n0 hs
theorem ka{w0:World}{dn:Bool}(h:SF w0 D ((tb,tO ba c n)::xH k bx bm x dn rs) A [] (xW x) w):SF w0 D [(tb,tO ba c n),(bx,.cells ⟨xoC k bm x dn rs⟩ 153 (0,0)),(bm,mO x.L x.cs x.gen x.acc x.pn x.cn x.pc x.cc)] A [] [⟨x.pg,aG x.got,x.kg,37,1⟩,⟨x.pm,aG x.made,x.km,37,1⟩,⟨x.pl,aG x.cel,x.kl,27,1⟩,⟨x.pe,aG x.gns,x.ke,3,1⟩,⟨x.pn,gN x.L,x.cn,47,14⟩,⟨x.pc,aG x.cs,x.cc,37,1⟩] w:=h
set_option maxRecDepth 100000 in
set_option maxHeartbeats 1000000 in
theorem Y8(hk:(c.a.k==0)=true)(hr:c.r=rs)(hn:x.got.length=n)(hs:SF w D ((tb,tO ba c n)::xH k bx bm x true rs) A [] (xW x) w) :
  Calls Tryz.prog 93 #[.agg ⟨[.pointer (some ⟨tb,0,none⟩),.pointer (some ⟨bx,0,none⟩)]⟩] w λ e w'=>∃q:Unit,e=.returned (.bool true)/\True/\SF w D ((tb,tO ba c n)::xH k bx bm x true rs) [] [] (xW x) w':=by
 refine enter Tryz.func93 Tryz.ntmps93 rfl rfl (ka hs) ?_
 simp only[bY]
 refine J0 ?_;refine bO (λ x1=>?_);refine iZ ?_;refine aV ?_;refine dX [(0,[]),(1,[]),(2,[]),(3,[]),(4,[]),(5,[]),(7,[]),(8,[]),(6,[8]),(9,[]),(10,[]),(11,[]),(12,[]),(13,[]),(14,[]),(16,[]),(17,[]),(15,[17]),(18,[]),(19,[]),(20,[])] ?_;refine lV ?_;refine mG ?_;refine aP ?_
 (refine aQ ?_)
 ((refine bP ?_));refine nj ?_;((refine cN (i:=6) (hq:=(cV (hc:=λ w1 hw=>Bd hk (hw.st.at cL)))) (h:=λ x13=>?_)));((refine bC (i:=9) (hq:=(cM (hs:=xH k bx bm x true rs) (os:=xW x) (hc:=λ w hs=>Cg hs))) (h:=λ x16 h16=>?_)));((refine ml ?_));refine eQ ?_;refine aP ?_
 (refine aQ ?_)
 ((refine bP ?_));refine nj ?_;((refine cN (i:=15) (hq:=(cV (hc:=λ w1 hw=>Cu (hw.st.at cL)))) (h:=λ x22=>?_)));((refine bC (i:=18) (hq:=(cM (hs:=xH k bx bm x true rs) (os:=xW x) (hc:=λ w hs=>Uv hn hs))) (h:=λ x25 h25=>?_)));((refine Nk ?_));refine eQ ?_;refine eC ?_
 refine bE (λ c27=>?_) (λ c27=>?_)
 ·exact absurd c27 (by simp)
 ·refine bB ?_;refine gZ ?_;refine aR (cV (hc:=λ w1 hw=>Nr (a:=Ac.zero) hk (if_pos rfl) (hw.st.at cL))) (λ x31=>?_);refine No ?_;refine aI (λ x3=>?_);refine zH ?_;refine gZ ?_;refine aC (cM (hs:=xH k bx bm x true rs) (os:=xW x) (hc:=λ w hs=>T4 (a:=Ac.zero) (if_pos rfl) hs)) (λ x37 h37=>?_);refine No ?_;refine aI (λ x5=>?_);refine jP (λ _=>?_);refine iZ ?_;refine dX [(0,[]),(1,[]),(2,[]),(3,[]),(4,[]),(5,[]),(6,[]),(7,[]),(8,[]),(9,[]),(10,[]),(11,[]),(12,[]),(13,[]),(15,[]),(16,[]),(14,[16]),(17,[]),(18,[]),(19,[]),(20,[]),(21,[]),(22,[]),(23,[]),(24,[]),(26,[]),(25,[]),(27,[]),(28,[]),(29,[]),(30,[]),(31,[])] ?_;refine bP ?_;refine bP ?_;refine cE (i:=2) (hq:=(V1 rf rf (by kernel_rfl))) (h:=?_);refine aP ?_
  (refine aP ?_)
  ((refine aP ?_));((refine dj ?_));refine eQ ?_;refine aP ?_
  (refine aP ?_)
  ((refine F3 ?_));((refine aP ?_))
  (refine aQ ?_)
  ((refine bP ?_));refine nj ?_;((refine cN (i:=14) (hq:=(cV (hc:=λ w1 hw=>sZ (r:=rs) hk ((if_pos rfl).trans hr) (hw.st.at cL)))) (h:=λ x54=>?_)));((refine bC (i:=17) (hq:=(cM (hs:=xH k bx bm x true rs) (os:=xW x) (hc:=λ w hs=>Oi hs))) (h:=λ x57 h57=>?_)));((refine cE (i:=18) (hq:=(Mc rf rf (by kernel_rfl))) (h:=?_)));((refine eQ ?_));((refine aP ?_))
  (refine Zk 60 (λ g60=>?_) (λ g60=>?_)<;>(first|refine dE ?_|(refine aP ?_)))
  all_goals (first|refine dE ?_|(refine aP ?_))
  all_goals (refine dE ?_)
  all_goals ((refine dE ?_);(refine dE ?_);((refine dE ?_));(refine dE ?_);(first|refine dE ?_|(refine eQ ?_));((refine eQ ?_));refine eQ ?_;refine J7 ?_)
  all_goals
  refine aT Tryz.results93 (λ w hw=>?_)
  first
   | exact⟨(),rfl,trivial,hw.aU⟩
   | (exfalso;simp_all;done)
set_option maxRecDepth 100000 in
set_option maxHeartbeats 1000000 in
theorem X2{a:Ac}(hk:(c.a.k==0)=false)(ha:c.a=a)(hx:x.nx=a)(hn:x.got.length=n)(hs:SF w D ((tb,tO ba c n)::xH k bx bm x false rs) A [] (xW x) w) :
  Calls Tryz.prog 93 #[.agg ⟨[.pointer (some ⟨tb,0,none⟩),.pointer (some ⟨bx,0,none⟩)]⟩] w λ e w'=>∃q:Unit,e=.returned (.bool true)/\True/\SF w D ((tb,tO ba c n)::xH k bx bm x false rs) [] [] (xW x) w':=by
 refine enter Tryz.func93 Tryz.ntmps93 rfl rfl (ka hs) ?_
 simp only[bY]
 refine J0 ?_;refine bO (λ x1=>?_);refine iZ ?_;refine aV ?_;refine dX [(0,[]),(1,[]),(2,[]),(3,[]),(4,[]),(5,[]),(7,[]),(8,[]),(6,[8]),(9,[]),(10,[]),(11,[]),(12,[]),(13,[]),(14,[]),(16,[]),(17,[]),(15,[17]),(18,[]),(19,[]),(20,[])] ?_;refine lV ?_;refine mG ?_;refine aP ?_
 (refine aQ ?_)
 ((refine bP ?_));refine nj ?_;((refine cN (i:=6) (hq:=(cV (hc:=λ w1 hw=>Bd hk (hw.st.at cL)))) (h:=λ x13=>?_)));((refine bC (i:=9) (hq:=(cM (hs:=xH k bx bm x false rs) (os:=xW x) (hc:=λ w hs=>Cg hs))) (h:=λ x16 h16=>?_)));((refine ml ?_));refine eQ ?_;refine aP ?_
 (refine aQ ?_)
 ((refine bP ?_));refine nj ?_;((refine cN (i:=15) (hq:=(cV (hc:=λ w1 hw=>Cu (hw.st.at cL)))) (h:=λ x22=>?_)));((refine bC (i:=18) (hq:=(cM (hs:=xH k bx bm x false rs) (os:=xW x) (hc:=λ w hs=>Uv hn hs))) (h:=λ x25 h25=>?_)));((refine Nk ?_));refine eQ ?_;refine eC ?_
 refine bE (λ c27=>?_) (λ c27=>?_)
 ·exact absurd c27 (by simp)
 ·refine bB ?_;refine gZ ?_;refine aR (cV (hc:=λ w1 hw=>Nr (a:=a) hk ((if_neg (by decide)).trans ha) (hw.st.at cL))) (λ x31=>?_);refine No ?_;refine aI (λ x3=>?_);refine zH ?_;refine gZ ?_;refine aC (cM (hs:=xH k bx bm x false rs) (os:=xW x) (hc:=λ w hs=>T4 (a:=a) ((if_neg (by decide)).trans hx) hs)) (λ x37 h37=>?_);refine No ?_;refine aI (λ x5=>?_);refine jP (λ _=>?_);refine iZ ?_;refine dX [(0,[]),(1,[]),(2,[]),(3,[]),(4,[]),(5,[]),(6,[]),(7,[]),(8,[]),(9,[]),(10,[]),(11,[]),(12,[]),(13,[]),(15,[]),(16,[]),(14,[16]),(17,[]),(18,[]),(19,[]),(20,[]),(21,[]),(22,[]),(23,[]),(24,[]),(26,[]),(25,[]),(27,[]),(28,[]),(29,[]),(30,[]),(31,[])] ?_;refine bP ?_;refine bP ?_;refine cE (i:=2) (hq:=(V1 rf rf (by kernel_rfl))) (h:=?_);refine aP ?_
  (refine Zk 43 (λ g43=>?_) (λ g43=>?_)<;>(first|refine dE ?_|(refine aP ?_)))
  all_goals ((first|refine dE ?_|(refine aP ?_));(first|refine dE ?_|(refine dj ?_));refine eQ ?_;refine aP ?_)
  all_goals (first|refine dE ?_|(refine aP ?_))
  all_goals ((first|refine dE ?_|(refine F3 ?_));(first|refine dE ?_|(refine aP ?_)))
  all_goals (refine dE ?_)
  all_goals ((refine dE ?_);refine nj ?_;((refine dE ?_));((refine dE ?_));(refine dE ?_);(first|refine dE ?_|(refine eQ ?_));(first|refine dE ?_|(refine aP ?_)))
  all_goals (first|refine dE ?_|(refine aP ?_))
  all_goals (first|refine dE ?_|(refine aP ?_))
  all_goals (first|refine dE ?_|(refine aQ ?_))
  all_goals ((first|refine dE ?_|(refine bP ?_));(first|refine dE ?_|(refine gC ?_));(first|refine dE ?_|(refine cN (i:=25) (hq:=(cV (hc:=λ w1 hw=>sZ (r:=Rs.zero) hk (if_neg (by decide)) (hw.st.at cL)))) (h:=λ x65=>?_)));(first|refine dE ?_|(refine cE (i:=27) (hq:=(Mc (b:=Rs.zero) rf rf (by kernel_rfl))) (h:=?_)));(first|refine dE ?_|(refine eQ ?_));(first|refine dE ?_|(refine eQ ?_));refine eQ ?_;refine J7 ?_)
  all_goals
  refine aT Tryz.results93 (λ w hw=>?_)
  first
   | exact⟨(),rfl,trivial,hw.aU⟩
   | (exfalso;simp_all;done)
end
end

/- Literals of lists that may be changed. -/
end Go.Proofs.YtbajmaoegmbfgaaGreat
namespace Go.Ct
section
open Go Go.RowKit
section
variable{P:Program}{S:List (Nat×Value)}{G:World->Prop}{d:Nat}{ty t t' e:TypeId}{pos:String}{af:Array Edge}{gd:Option (Nat×Bool)}{x y:Operand}{w0 w:World}{M:List Nat}{H:List (Nat×Obj)}{A F:Fr}{O:List Ow}{a:Option Addr}
theorem SF.aCp{b c sz:Nat}{cs:List Value}{T:TypeId}(h:SF w0 M ((b,.cells ⟨cs⟩ T (0,0))::H) A F O w)(hl:cs.length=c*sz):SF w0 M H A F (⟨some ⟨b,0,none⟩,cs,c,T,sz⟩::O) w:=by
 have hp:(Ks H (⟨some ⟨b,0,none⟩,cs,c,T,sz⟩::O)).Perm (Ks ((b,.cells ⟨cs⟩ T (0,0))::H) O):=by
  unfold Ks
  simp only[List.flatMap_cons,iB,List.map_cons,List.cons_append,List.nil_append]
  exact List.perm_middle
 have hb:=h.st.has (b,.cells ⟨cs⟩ T (0,0)) (List.mem_cons_self ..)
 have hn:=h.st.new (b,.cells ⟨cs⟩ T (0,0)) (List.mem_cons_self ..)
 refine⟨h.st.sub (List.sublist_cons_self ..),λ f hf=>⟨(h.bN f hf).1,λ hc hm=>(h.bN f hf).2 hc (hp.mem_iff.1 hm)⟩,λ f hf=>⟨(h.new f hf).1,λ hc=>⟨λ hm=>((h.new f hf).2 hc).1 (hp.mem_iff.1 hm),((h.new f hf).2 hc).2⟩⟩,λ o ho=>?_,hp.nodup_iff.2 h.dis⟩
 rcases List.mem_cons.1 ho with rfl|ho
 ·refine⟨.inr ⟨b,[],rfl,by simpa using hb,by simpa using hl⟩,λ k hk=>?_⟩
  simp only[iB,List.mem_singleton] at hk
  subst hk
  exact hn.symm
 ·exact h.own o ho
theorem Pt{len:Nat}{parts:List (Nat×Operand)}{ps:List (Nat×Value)}{zc cs:List Value}{sz:Nat}(he:dM P t e zc)(hv:jU S parts=ps)(hlen:ps.length=len)(hidx:ps.map Prod.fst=List.range' 0 ps.length)(h1:(ps.all λ p=>Nat.beq (nB p.2).length zc.length)=true)
  (hpos:(Nat.blt 0 len&&Nat.blt 0 zc.length&&Nat.ble (len*zc.length) 16777216)=true) (hcs:C9 ps=cs) (hsz:cs.length=len*sz) :
  bF P S (SF w0 M H A F O) ⟨some d,.buildSlice t len ⟨parts⟩,ty,pos,af,gd⟩ Nat (λ b=>.slice (some ⟨b,0,none⟩) len len) (λ b=>SF w0 M H A F (⟨some ⟨b,0,none⟩,cs,len,e,sz⟩::O)) :=
 (fS λ _=>cP he hv hlen hidx h1 hpos hcs).conv λ b w h=>h.aCp hsz
end
end

/- Worlds: Worlds. -/
end Go.Ct
namespace Go.Proofs.YtbajmaoegmbfgaaGreat
section
open Go Go.RowKit Go.Ct
theorem P9(x y:AX)(acc:Int)(pn:Option Addr)(cn:Nat)(pc:Option Addr)(cc:Nat):(XS.new (L4 x y) [0,3,4] 1 acc pn cn pc cc).Ok:=by
 have hmem:∀v∈L4 x y,v=fA∨v=oN mg [] [] 0 x∨v=oN (zl 1) [] [] 1 y:=λ v hv=>by
  simp[L4] at hv
  exact hv
 refine⟨λ v hv=>?_,λ v hv=>?_,λ v hv=>?_,(λ v hv=>nomatch hv),(λ v hv=>nomatch hv),by show 2<=4;decide,by show 4<=_;decide,by show 3<=_;decide,Nat.zero_le _,Nat.le_refl _,Nat.le_refl _,Nat.le_refl _,Nat.le_refl _,Nat.zero_le _,λ v hv=>?_,by show(0:Int)<=1;decide,(λ i j _ hj=>absurd hj (Nat.not_lt_zero j)),(λ v hv=>nomatch hv)⟩
 ·rcases hmem v hv with rfl|rfl|rfl
  ·exact⟨rfl,rfl,by decide,by decide⟩
  ·exact L3 (by decide) (by decide)
  ·exact L3 (by decide) (by decide)
 ·have z:(0:Int)<=((4:Nat):Int):=by decide
  have z3:(0:Int)<=((3:Nat):Int):=by decide
  rcases hmem v hv with rfl|rfl|rfl
  ·exact⟨z,z,z,(λ r hr=>nomatch hr),z3,z3,z3,jL,jL⟩
  ·exact⟨z,z,z,(λ r hr=>nomatch hr),z3,by show(1:Int)<=((3:Nat):Int);decide,z3,jL,jL⟩
  ·exact⟨z,z,z,(λ r hr=>nomatch hr),by show(2:Int)<=((3:Nat):Int);decide,z3,z3,jL,jL⟩
 ·have hv':v=0∨v=3∨v=4:=by simpa[XS.new] using hv
  show v<=((4:Nat):Int)
  omega
 ·rcases hmem v hv with rfl|rfl|rfl<;>exact Nat.zero_le _
def kinds:List Int:=[8,8,8,9,9,10,11,12,7,8]
theorem fw{v:Nat}(h:v<10):7<=kinds.getD v 0/\kinds.getD v 0<=12:=by
 have:v=0∨v=1∨v=2∨v=3∨v=4∨v=5∨v=6∨v=7∨v=8∨v=9:=by omega
 rcases this with rfl|rfl|rfl|rfl|rfl|rfl|rfl|rfl|rfl|rfl<;>decide
theorem jx{v:Nat}(h:v<10):∃m:Nat,zW.getD v 0=(m:Int)/\m<18446744073709551616:=by
 have:v=0∨v=1∨v=2∨v=3∨v=4∨v=5∨v=6∨v=7∨v=8∨v=9:=by omega
 refine⟨(zW.getD v 0).toNat,?_⟩
 rcases this with rfl|rfl|rfl|rfl|rfl|rfl|rfl|rfl|rfl|rfl<;>decide
theorem Q2.mono{m B C E B' C' E':Nat}{W:Wd}(h:Q2 m B C E W)(hB:B<=B')(hC:C<=C')(hE:E<=E'):Q2 m B' C' E' W:=by
 obtain⟨s1,s2,s3⟩:=h.sz
 exact⟨h.z,⟨by omega,by omega,by omega⟩,λ e he=>by have:=h.ex e he;exact⟨this.i,this.k,this.em,this.ht,this.ha,by have:=this.gl;omega⟩,h.t0,h.tr,h.tl,by have:=h.el;omega,h.wr⟩
section
variable{S:List (Nat×Value)}{w0 w:World}{M:List Nat}{H:List (Nat×Obj)}{A F:Fr}{O:List Ow}{ty:TypeId}{pos:String}{af:Array Edge}{gd:Option (Nat×Bool)}{X:Type}{V:X->Value}
theorem cT(nH nO:Nat){φ:X->Prop}{hs:List (Nat×Obj)}{os:List Ow}{hs' H1:X->List (Nat×Obj)}{os' O1:X->List Ow}{Fc F1:X->Fr}{A0:Fr}{f:FuncId}{xs:List Operand}{at_:Array TypeId}{vs:List Value}{dst:Option Nat}
  (hc:∀w,SF w (Ks hs os) hs A0 [] os w->Calls Tryz.prog f ⟨vs⟩ w λ e w'=>∃x,e=.returned (V x)/\φ x/\SF w (Ks hs os) (hs' x) [] (Fc x) (os' x) w')
  (hA:aX A F (O.take nO) A0) (hF1:∀x,φ x->∀f∈F1 x,f.2=[]∨f∈Fc x++F)
  (ha:pI S xs=vs:=by(repeat (first|exact cD _|(apply bU;focus ((conv=>{lhs;whnf});try exact rfl))));first|done|fail) (hp:plain Tryz.prog f=true:=by kernel_rfl)
  (hH:H=H.take nH++hs:=by exact rfl) (hO:O=O.take nO++os:=by exact rfl)
  (hH1:∀x,H.take nH++hs' x=H1 x:=by intro x;simp only[List.take_succ_cons,List.take_zero,List.cons_append,List.nil_append,wH];exact rfl) (hO1:∀x,O.take nO++os' x=O1 x:=by intro x;simp only[List.take_succ_cons,List.take_zero,List.cons_append,List.nil_append,wO];exact rfl) :
  bF Tryz.prog S (SF w0 M H A F O) ⟨dst,.call {callee:=.value (.func f),args:=⟨xs⟩,argTypes:=at_},ty,pos,af,gd⟩ X V (λ x w=>φ x/\SF w0 M (H1 x) A (F1 x) (O1 x) w) :=
 gD (lX hp ha) λ w hw=>(tN (H':=H.take nH) (O':=O.take nO) hw ((List.Perm.of_eq hH).trans List.perm_append_comm) ((List.Perm.of_eq hO).trans List.perm_append_comm) hA (hc w)).mono λ _ _ ⟨x,he,hx,hs⟩=>⟨x,he,hx,by
  have h2:=(hs.perm (H':=H1 x) (O':=O1 x) (by rw[<- hH1 x];exact List.perm_append_comm) (by rw[<- hO1 x];exact List.perm_append_comm)).fE (hF1 x hx)
  exact h2⟩
end
theorem Vv(l:List EX):(rF l).length=l.length:=by simp[rF]
theorem xy{es:List Nat}{k:Nat}(h:k<es.length):(Bk es)[k]?=some (.pointer (some ⟨es.getD k 0,0,none⟩)):=by
 simp[Bk,kQ,h]
structure WY where
 i:Nat
 pos:Nat
 W:Wd
structure WYI(m:Nat)(y:WY):Prop where
 hi:y.i<=18
 ok:Q2 m (8+134217920*y.i) (1048576+y.i) y.i y.W
theorem Od.Io{kind:Int}{ts:List fL}{q:Br}(h:Od kind ts q)(p:Int):Od kind ts {q with Io:=p}:=⟨h.ky,h.mem,h.ro⟩
set_option maxRecDepth 100000 in
set_option maxHeartbeats 4000000 in
theorem cf{l:List Int}{a:Option Addr}{c:Nat}{w:World}(ha:Go.Ct.Cl w a (aG l))(hl:l.length<=17592186043904) :
  Calls Tryz.prog 19 #[.slice a l.length c] w λ e w'=>∃q:Nat×Nat×Nat×Wd,e=.returned (.pointer (some ⟨q.1,0,none⟩))/\(q.2.2.1<18446744073709551616/\Q2 q.2.2.1 2415922570 1048594 18 q.2.2.2)/\SF w [] (wH q.2.2.1 q.1 q.2.1 q.2.2.2) [] (aM q.2.2.2.z.L) (wO q.2.2.2) w':=by
 refine enter Tryz.func19 Tryz.ntmps19 rfl rfl (SF.s1 ha) ?_
 simp only[bY]
 refine cR ?_;refine J2 ?_;refine aC (Rx (Fc:=λ _=>[]) (Oc:=λ _=>[]) (hc:=λ w1 hw=>lq)) (λ x10 h10=>?_);refine J1 ?_;refine J0 ?_;refine aC (Rx (Fc:=λ _=>[]) (hc:=λ w1 hw=>ef w1)) (λ x11 h11=>?_);refine aA ?_;refine aC (xK (hc:=λ w1 hw=>xx (hw.tape cL fin hl))) (λ x13 h13=>?_);refine bJ ?_;refine bO (λ x15=>?_);refine wJ ?_;refine dF ?_;refine J3 ?_;refine aC (cM (hc:=λ w hs=>Pk hs)) (λ x21 h21=>?_);refine aR (Pt (sz:=2) (cs:=rV [⟨3,false⟩]) Ho Ix rfl rfl rfl rfl rfl rfl) (λ x22=>?_);refine O7 ?_;refine aV ?_;refine Fs ?_
 obtain⟨m,em,hm⟩:=jx h13
 refine nA [5,6,7,8,25,26,27,28,29,30,31,32,33,34,35,36,37,38,39,40,41,42,43,44,45,46,47,48,49,50,51,52,53,54,55,56,57,58,59,60,61,62,63,64,65,66,67,68,69,70,71,72,73,74,75,76,77,78,79,80,81,82,83,84,85,86,87,88,89,90,91,92,93,94,95,96,97,98] (λ y:WY=>[(5,.int .i64 ((y.i:Nat):Int))]) (λ y=>WYI m y) (λ y=>(x10,Bh a l c y.pos)::(x15,mE x11.1 (m:Int) y.W.pt y.W.ts.length y.W.kt y.W.pe (rF y.W.ex).length y.W.ke)::(x11.1,xM y.W.z)::oF x11.1 y.W.ex) (λ y=>aM y.W.z.L) (λ y=>⟨y.W.pt,rV y.W.ts,y.W.kt,29,2⟩::⟨y.W.pe,Bk (rF y.W.ex),y.W.ke,74,1⟩::⟨y.W.z.pn,gN y.W.z.L,y.W.z.cn,47,14⟩::⟨y.W.z.pc,aG y.W.z.cs,y.W.z.cc,37,1⟩::mQ y.W.ex) (λ y=>18-y.i) (⟨0,lQ l 0,⟨XS.new (L4 x21.1 x21.2.1) [0,3,4] 1 0 x21.2.1.pn x21.2.1.cn x21.2.2.1 x21.2.2.2,[⟨3,false⟩],some ⟨x22,0,none⟩,1,[],none,0⟩⟩) (⟨by show(0:Nat)<=18;decide,P9 _ _ _ _ _ _ _,⟨by show 4<=8+134217920*0;decide,by show 3<=8+134217920*0;decide,by show(1:Int)<=((8+134217920*0:Nat):Int);decide⟩,(λ e he=>nomatch he),by show 0<1;decide,rfl,by show 1<=5;decide,Nat.le_refl _,.new⟩) (λ y f hx=>?_) (hw0:=λ w hw=>by rw[em,List.append_nil] at hw;exact(hw.lW 74 1).perm (List.perm_append_comm (l₁:=[_]) (l₂:=[_,_])) (List.Perm.swap _ _ _))
 dsimp only[gR,List.map,List.cons_append,List.nil_append]
 have hy:=hx
 refine kM ?_;refine Fv ?_
 (refine eM 27 (λ g27=>?_) (λ g27=>?_)<;>(first|refine aJ ?_|(refine aF ?_;refine aA ?_)))
 all_goals ((first|refine aJ ?_|(refine aF ?_;refine aC (xK (hc:=λ w1 hw=>fo (hw.tape cL fin hl))) (λ x29 h29=>?_)));refine cH ?_;refine aH ?_)
 all_goals
 refine bE (λ c30=>?_) (λ c30=>?_)
 ·try exact nv c30
  all_goals (refine qI ?_;refine J0 ?_;refine aR ((by exact I0 (λ _=>cP (cs:=aG kinds) F2 Ix rfl rfl rfl rfl rfl))) (λ x33=>?_);refine aA ?_;refine aC (xK (hc:=λ w1 hw=>eT 10 (hw.tape cL fin hl) (by decide) (by decide))) (λ x35 h35=>?_);refine aB (fD (lst:=kinds) (k:=x35) rf rf hX iA (.new .head) (by omega) (by simp only[kinds,List.length_cons,List.length_nil];omega)) rfl ?_;refine aB (gV (lst:=kinds) (q:=x35) rf iA (.new .head) (by simp only[kinds,List.length_cons,List.length_nil];omega)) rfl ?_;refine iZ ?_)
  all_goals
   refine eI [6,38,39,40,41,42,43,44] (λ q:Int×Nat=>[(6,.int .i64 q.1)]) (λ q=>7<=q.1/\q.1<=12) (λ q=>(x10,Bh a l c q.2)::(x15,mE x11.1 (m:Int) y.W.pt y.W.ts.length y.W.kt y.W.pe (rF y.W.ex).length y.W.ke)::(x11.1,xM y.W.z)::oF x11.1 y.W.ex) (λ _=>aM y.W.z.L) (λ _=>⟨y.W.pt,rV y.W.ts,y.W.kt,29,2⟩::⟨y.W.pe,Bk (rF y.W.ex),y.W.ke,74,1⟩::⟨y.W.z.pn,gN y.W.z.L,y.W.z.cn,47,14⟩::⟨y.W.z.pc,aG y.W.z.cs,y.W.z.cc,37,1⟩::mQ y.W.ex) (by decide) (λ _=>by exact rfl) ?_ (λ q f hx=>?_)
   ·refine aV ?_
    refine xZ ?_;refine mC ?_;refine aA ?_
    (refine eM 40 (λ g40=>?_) (λ g40=>?_)<;>(first|refine aJ ?_|(refine aF ?_;refine aA ?_)))
    all_goals ((first|refine aJ ?_|(refine aF ?_;refine aC (xK (hc:=λ w1 hw=>eT 3 (hw.tape cL fin hl) (by decide) (by decide))) (λ x42 h42=>?_)));refine Iw ?_;refine aH ?_)
    all_goals
    refine bE (λ c44=>?_) (λ c44=>?_)
    ·try exact nv c44
     all_goals (refine dW ?_;refine J1 ?_)
     all_goals
      refine fC ((8,lQ l (lQ l y.pos))) ?_ (hw1:=λ w hw=>hw.back (hF:=aY.iP λ f hf=>List.mem_cons_of_mem _ hf))
      ·exact⟨by show(7:Int)<=8;decide,by show(8:Int)<=12;decide⟩
    ·all_goals try (exfalso;omega)
     all_goals refine bB ?_
     all_goals
      refine fC (by first|exact((λ _=>(kinds.getD x35 0,lQ l (lQ l y.pos))) x42)|exact(kinds.getD x35 0,lQ l y.pos)) ?_ (hw1:=λ w hw=>hw.back (hF:=aY.iP λ f hf=>List.mem_cons_of_mem _ hf))
      ·exact fw (by omega)
   dsimp only[gR,List.map,List.cons_append,List.nil_append]
   have hq:=hx
  all_goals (refine iO ?_;refine aA ?_;refine aC (cM (hs:=[(x10,Bh a l c q.2),(x15,mE x11.1 (m:Int) y.W.pt y.W.ts.length y.W.kt y.W.pe (rF y.W.ex).length y.W.ke)]) (os:=[⟨y.W.pt,rV y.W.ts,y.W.kt,29,2⟩]) (A0:=[(a,aG l)]) (hc:=λ w hs=>Mb q.1 hq hl hy.ok.t0 (by have:=hy.ok.tl;omega) hy.ok.tr hs)) (λ x48 h48=>?_);refine aI (λ x7=>?_);refine J5 ?_;refine aV ?_)
  all_goals
   refine eI [49,50,51,52,53,54,55,56] (λ r:Int×Nat=>[]) (λ r=>True) (λ r=>(x7,.cells ⟨Q3 (({x48 with Io:=r.1}:Br).cl q.1 (m:Int))⟩ 89 (0,0))::(x10,Bh a l c r.2)::(x15,mE x11.1 (m:Int) y.W.pt y.W.ts.length y.W.kt y.W.pe (rF y.W.ex).length y.W.ke)::(x11.1,xM y.W.z)::oF x11.1 y.W.ex) (λ _=>aM y.W.z.L) (λ _=>⟨y.W.pt,rV y.W.ts,y.W.kt,29,2⟩::⟨y.W.pe,Bk (rF y.W.ex),y.W.ke,74,1⟩::⟨y.W.z.pn,gN y.W.z.L,y.W.z.cn,47,14⟩::⟨y.W.z.pc,aG y.W.z.cs,y.W.z.cc,37,1⟩::mQ y.W.ex) (by decide) (λ _=>by exact rfl) ?_ (λ r f hx=>?_)
   ·refine aV ?_
    refine xZ ?_;refine mC ?_;refine aA ?_
    (refine eM 51 (λ g51=>?_) (λ g51=>?_)<;>(first|refine aJ ?_|(refine aF ?_;refine aA ?_)))
    all_goals ((first|refine aJ ?_|(refine aF ?_;refine aC (xK (hc:=λ w1 hw=>eT 3 (hw.tape cL fin hl) (by decide) (by decide))) (λ x53 h53=>?_)));refine Iw ?_;refine aH ?_)
    all_goals
    refine bE (λ c55=>?_) (λ c55=>?_)
    ·try exact nv c55
     all_goals (refine dW ?_;refine uN ?_)
     all_goals
      refine fC ((0,lQ l x48.pos)) ?_ (hw1:=λ w hw=>hw.back (hF:=aY.all))
      ·trivial
    ·all_goals try (exfalso;omega)
     all_goals refine bB ?_
     all_goals
      refine fC (by first|exact((λ _=>(x48.Io,lQ l x48.pos)) x53)|exact(x48.Io,x48.pos)) ?_ (hw1:=λ w hw=>hw.back (hF:=aY.all))
      ·trivial
   dsimp only[gR,List.map,List.cons_append,List.nil_append]
  all_goals refine Is ?_
  all_goals
   refine eI [8,57,58,59,60,61,62,63,64,65,66,67,68,69] (λ s:Nat×Nat=>[(8,.int .i64 ((s.1:Nat):Int))]) (λ s=>s.1<=1048576) (λ s=>(x7,.cells ⟨Q3 (({x48 with Io:=r.1}:Br).cl q.1 (m:Int))⟩ 89 (0,0))::(x10,Bh a l c s.2)::(x15,mE x11.1 (m:Int) y.W.pt y.W.ts.length y.W.kt y.W.pe (rF y.W.ex).length y.W.ke)::(x11.1,xM y.W.z)::oF x11.1 y.W.ex) (λ _=>aM y.W.z.L) (λ _=>⟨y.W.pt,rV y.W.ts,y.W.kt,29,2⟩::⟨y.W.pe,Bk (rF y.W.ex),y.W.ke,74,1⟩::⟨y.W.z.pn,gN y.W.z.L,y.W.z.cn,47,14⟩::⟨y.W.z.pc,aG y.W.z.cs,y.W.z.cc,37,1⟩::mQ y.W.ex) (by decide) (λ _=>by exact rfl) ?_ (λ s f hx=>?_)
   ·refine aV ?_
    refine xZ ?_;refine dF ?_;refine P4 ?_;refine Fv ?_
    (refine eM 63 (λ g63=>?_) (λ g63=>?_)<;>(first|refine aJ ?_|(refine aF ?_;refine aA ?_)))
    all_goals ((first|refine aJ ?_|(refine aF ?_;refine aC (xK (hc:=λ w1 hw=>eT 4 (hw.tape cL fin hl) (by decide) (by decide))) (λ x65 h65=>?_)));refine zR ?_;refine aH ?_)
    all_goals
    refine bE (λ c67=>?_) (λ c67=>?_)
    ·try exact nv c67
     all_goals (refine xZ ?_;refine aC (xK (hc:=λ w1 hw=>eT 16 (hw.tape cL fin hl) (by decide) (by decide))) (λ x69 h69=>?_);refine J1 ?_)
     all_goals
      refine fC ((x69,lQ l (lQ l r.2))) ?_ (hw1:=λ w hw=>hw.back (hF:=aY.all))
      ·show x69<=1048576;omega
    ·all_goals try (exfalso;omega)
     all_goals refine bB ?_
     all_goals
      refine fC (by first|exact((λ _=>(1048576,lQ l r.2)) x65)|exact(1048576,r.2)) ?_ (hw1:=λ w hw=>hw.back (hF:=aY.all))
      ·exact Nat.le_refl 1048576
   dsimp only[gR,List.map,List.cons_append,List.nil_append]
   have hs1:=hx
  all_goals (refine J2 ?_;refine bR ?_;refine aA ?_;refine aC (cT 2 0 (hs:=wH m x15 x11.1 y.W) (os:=wO y.W) (A0:=aM y.W.z.L) (F1:=λ x:Wd×List aZ=>aM x.1.z.L) (hc:=λ w hs=>pf (q:={x48 with Io:=r.1}) (kind:=q.1) s.1 hs1 (by omega) (by omega) hm hy.ok (by omega) hq (h48.Io _) (λ f hf=>hf) hs) (hA:=aX.of λ f hf=>.inr (.inr (.inl hf))) (hF1:=λ x hx f hf=>by rw[hx.2,cZ] at hf;exact .inr ((List.mem_append.1 hf).elim (λ h=>List.mem_append_right _ h) (λ h=>List.mem_append_left _ h)))) (λ x73 h73=>?_);refine aH ?_)
  all_goals
   refine eI [74,75,76,77,78,79,80,81,82,83,84,85,86,87,88,89,90,91,92,93,94,95,96,97,98] (λ u:Nat×Wd=>[]) (λ u=>Q2 m (8+134217920*(y.i+1)) (1048576+(y.i+1)) (y.i+1) u.2) (λ u=>(x7,.cells ⟨Q3 (({x48 with Io:=r.1}:Br).cl q.1 (m:Int))⟩ 89 (0,0))::(x10,Bh a l c u.1)::(x15,mE x11.1 (m:Int) u.2.pt u.2.ts.length u.2.kt u.2.pe (rF u.2.ex).length u.2.ke)::(x11.1,xM u.2.z)::oF x11.1 u.2.ex) (λ u=>aM u.2.z.L) (λ u=>⟨u.2.pt,rV u.2.ts,u.2.kt,29,2⟩::⟨u.2.pe,Bk (rF u.2.ex),u.2.ke,74,1⟩::⟨u.2.z.pn,gN u.2.z.L,u.2.z.cn,47,14⟩::⟨u.2.z.pc,aG u.2.z.cs,u.2.z.cc,37,1⟩::mQ u.2.ex) (by decide) (λ _=>by exact rfl) ?_ (λ u f hx=>?_)
   ·refine aV ?_
    refine xZ ?_;refine dF ?_;refine P4 ?_;refine Dj ?_;refine aA ?_
    (refine eM 80 (λ g80=>?_) (λ g80=>?_)<;>(first|refine aJ ?_|(refine aF ?_;refine aA ?_)))
    all_goals ((first|refine aJ ?_|(refine aF ?_;refine aC (xK (hc:=λ w1 hw=>eT 3 (hw.tape cL fin hl) (by decide) (by decide))) (λ x82 h82=>?_)));refine zR ?_;refine aH ?_)
    all_goals
    refine bE (λ c84=>?_) (λ c84=>?_)
    ·try exact nv c84
     all_goals (refine dX [(0,[]),(1,[]),(2,[]),(3,[]),(4,[]),(5,[]),(6,[]),(7,[]),(8,[]),(9,[]),(10,[3]),(11,[]),(12,[]),(13,[])] ?_;refine mx ?_;refine Zi ?_;refine pV ?_;refine bC (i:=10) (hq:=(xK (hc:=λ w1 hw=>eT ((rF x73.1.ex).length:Nat) (hw.tape cL fin hl) (by omega) (by rw[Vv];have:=h73.1.el;omega)))) (h:=λ x95 h95=>?_);refine bT (i:=11) (hq:=(wa (cs:=Bk (rF x73.1.ex)) (k:=x95) rf rf hX iA (.own (.tail .head)) (by omega) (by rw[G4];omega))) (h:=?_);refine bT (i:=12) (hq:=(Hz (cs:=Bk (rF x73.1.ex)) (v:=.pointer (some ⟨(rF x73.1.ex).getD x95 0,0,none⟩)) rf iA (.own (.tail .head)) (xy (by omega)))) (h:=?_);refine bC (i:=13) (hq:=(cT 2 0 (hs:=wH m x15 x11.1 x73.1) (os:=wO x73.1) (A0:=aM x73.1.z.L) (F1:=λ x:Wd×List aZ=>aM x.1.z.L) (hc:=λ w hs=>ln (i:=x95) (by rw[<- Vv];omega) (by omega) (by omega) hm h73.1 (λ f hf=>hf) hs) (hA:=aX.of λ f hf=>.inr (.inr (.inl hf))) (hF1:=λ x hx f hf=>by rw[hx.2.2,cZ] at hf;exact .inr ((List.mem_append.1 hf).elim (λ h=>List.mem_append_right _ h) (λ h=>List.mem_append_left _ h))))) (h:=λ x98 h98=>?_);refine eC ?_)
     all_goals
      refine fC ((lQ l (lQ l s.2),x98.1)) ?_ (hw1:=λ w hw=>hw.back (hF:=aY.all))
      ·exact h98.1.mono (by omega) (by omega) (Nat.le_refl _)
    ·all_goals try (exfalso;omega)
     all_goals refine bB ?_
     all_goals
      refine fC (by first|exact((λ _=>(lQ l s.2,x73.1)) x82)|exact(s.2,x73.1)) ?_ (hw1:=λ w hw=>hw.back (hF:=aY.all))
      ·exact h73.1.mono (by omega) (by omega) (Nat.le_refl _)
   dsimp only[gR,List.map,List.cons_append,List.nil_append]
  all_goals (refine eP ?_;refine yH ?_)
  all_goals
   refine iJ (⟨y.i+1,u.1,u.2⟩) ?_ (hw1:=λ w hw=>hw.back (hF:=aY.all))
   ·exact⟨by show y.i+1<=18;omega,hx⟩
 ·all_goals try (exfalso;omega)
  all_goals (refine bM rfl ?_;refine J2 ?_;refine J1 ?_)
  all_goals
   refine aT Tryz.results19 (λ w hw=>?_)
   exact⟨(x15,x11.1,m,y.W),rfl,⟨hm,hy.ok.mono (by have:=hy.hi;omega) (by have:=hy.hi;omega) hy.hi⟩,hw.aU (hH:=List.Sublist.cons _ (List.Sublist.refl _)) (hF:=by exact aY.all) (hO:=List.Sublist.refl _)⟩
end

end Go.Proofs.YtbajmaoegmbfgaaGreat

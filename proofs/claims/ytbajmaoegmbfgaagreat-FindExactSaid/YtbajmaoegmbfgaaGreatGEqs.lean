/- Structs of numbers, bools and strings are compared. -/
import Derived.Test.YtbajmaoegmbfgaaGreatGDfr
import Derived.Test.YtbajmaoegmbfgaaGreatGWo6
import Derived.Test.YtbajmaoegmbfgaaGreatGJoin

set_option linter.unusedSimpArgs false
set_option linter.unusedVariables false
namespace Go.Ct
section
open Go Go.RowKit
section
variable{P:Program}{w:World}
def uj(P:Program)(t:TypeId):Nat->Bool
 | 0=>match P.underlying t with|some (.int _)=>true|_=>false
 | 1=>match P.underlying t with|some .bool=>true|_=>false
 | _=>match P.underlying t with|some .string=>true|_=>false
inductive ly:Nat->Value->Value->Bool->Prop where
 | int (k:IntKind) (a b:Int):ly 0 (.int k a) (.int k b) (a==b)
 | bool (a b:Bool):ly 1 (.bool a) (.bool b) (a==b)
 | str (a b:ByteArray):ly 2 (.string a) (.string b) (decide (a=b))
theorem ly.run{t:TypeId}{k:Nat}{u v:Value}{r:Bool}(h:ly k u v r)(ht:uj P t k=true)(d:Nat):(Op.equalIn (d+1) t u v).run P w=.ok r w:=by
 cases h with
 | int k a b =>
  cases hu:P.underlying t with
  | none=>simp[uj,hu] at ht
  | some z =>
   cases z<;>simp[uj,hu] at ht
   exact run_equalIn_int w d t k _ a b hu
 | bool a b =>
  cases hu:P.underlying t with
  | none=>simp[uj,hu] at ht
  | some z =>
   cases z<;>simp[uj,hu] at ht
   exact run_equalIn_bool w d t a b hu
 | str a b =>
  cases hu:P.underlying t with
  | none=>simp[uj,hu] at ht
  | some z =>
   cases z<;>simp[uj,hu] at ht
   rw[<- Ev]
   exact run_equalIn_string w d t a b hu
def fOk(P:Program)(f:Field)(o k:Nat):Bool:=f.name != "_" && Nat.beq f.offset o&&one P f.type&&uj P f.type k
theorem To{f:Field}{fs:List Field}{o k:Nat}{u v:Value}{r:Bool}{xs ys:Array Value}{d:Nat}(hf:fOk P f o k=true)(hx:xs[o]?=some u)(hy:ys[o]?=some v)(h:ly k u v r) :
  (Op.eqFields (d+1) xs ys (f::fs)).run P w=if r=true then(Op.eqFields (d+1) xs ys fs).run P w else .ok false w:=by
 simp only[fOk,Bool.and_eq_true,bne_iff_ne,ne_eq] at hf
 obtain⟨⟨⟨h1,h2⟩,h3⟩,h4⟩:=hf
 replace h2:=eF h2
 subst h2
 have p1:(part f.type xs f.offset).run P w=.ok u w:=lW h3 hx w
 have p2:(part f.type ys f.offset).run P w=.ok v w:=lW h3 hy w
 simp only[Op.eqFields,h1,ne_eq,not_false_eq_true,if_true,Sem.run_bind,p1,p2,h.run h4 d,Result.andThen_ok,Sem.run_ite,Sem.run_pure]
 cases r<;>simp
theorem p9{xs ys:Array Value}{d:Nat}:(Op.eqFields d xs ys []).run P w=.ok true w:=by simp[Op.eqFields]
def Xt(P:Program)(t:TypeId):List Nat->Nat->List Field->Bool
 | [],_,fs=>fs.isEmpty
 | k::ks,o,f::fs=>fOk P f o k&&Xt P t ks (o+1) fs
 | _::_,_,[]=>false
inductive Bs:List Nat->List Value->List Value->Bool->Prop where
 | nil:Bs [] [] [] true
 | cons {k:Nat} {ks:List Nat} {u v:Value} {us vs:List Value} {r r2:Bool} (h:ly k u v r) (hs:Bs ks us vs r2):Bs (k::ks) (u::us) (v::vs) (r&&r2)
theorem Tf{t:TypeId}{d:Nat}:∀{ks:List Nat} {us vs:List Value} {r:Bool} {fs:List Field} {o:Nat} {xs ys:List Value},Bs ks us vs r->Xt P t ks o fs=true->xs.drop o=us->ys.drop o=vs ->
  (Op.eqFields (d+1) ⟨xs⟩ ⟨ys⟩ fs).run P w=.ok r w
 | [],_,_,_,fs,_,_,_,h,hs,_,_=>by
  cases h
  cases fs with
  | nil=>exact p9
  | cons f fs=>simp[Xt] at hs
 | k::ks,_,_,_,fs,o,xs,ys,h,hs,hx,hy=>by
  cases h with
  | @cons _ _ u v us vs r r2 h h2 =>
   cases fs with
   | nil=>simp[Xt] at hs
   | cons f fs =>
    simp only[Xt,Bool.and_eq_true] at hs
    have ex:xs[o]?=some u:=by rw[<- List.head?_drop,hx];rfl
    have ey:ys[o]?=some v:=by rw[<- List.head?_drop,hy];rfl
    have hx2:xs.drop (o+1)=us:=by rw[<- List.drop_drop,hx];rfl
    have hy2:ys.drop (o+1)=vs:=by rw[<- List.drop_drop,hy];rfl
    rw[To hs.1 (by simpa using ex) (by simpa using ey) h,Tf h2 hs.2 hx2 hy2]
    cases r<;>simp
def Ed(P:Program)(t:TypeId)(ks:List Nat):Bool :=
 (match P.underlying t with
 | some (.struct fs)=>Xt P t ks 0 fs.toList
 | _=>false)&&!P.stoodInHeld t&&!P.eqGuardType P.depth t
theorem Cr{t:TypeId}{ks:List Nat}{us vs:List Value}{r:Bool}(h:Ed P t ks=true)(hv:Bs ks us vs r)(d:Nat) :
  (Op.equalIn (d+2) t (.agg ⟨us⟩) (.agg ⟨vs⟩)).run P w=.ok r w/\P.eqGuardType P.depth t=false:=by
 unfold Ed at h
 cases hu:P.underlying t with
 | none=>simp[hu] at h
 | some dd =>
  rw[hu] at h
  cases dd<;>simp only[Bool.false_and,Bool.false_eq_true] at h
  rename_i fs
  have hf:P.fieldsOf t=fs:=by simp[Program.fieldsOf,hu]
  simp only[Bool.and_eq_true,Bool.not_eq_true'] at h
  refine⟨?_,h.2⟩
  rw[run_equalIn_struct w (d+1) t _ _ (by rw[hf];exact hu) h.1.2,hf]
  exact Tf (o:=0) hv h.1.1 rfl rfl
def Cz(P:Program)(t:TypeId):List Nat->List Nat->Nat->List Field->Bool
 | [],k2,o,[f]=>f.name != "_" && Nat.beq f.offset o&&jL P f.type 2&&Ed P f.type k2
 | k::ks,k2,o,f::fs=>fOk P f o k&&Cz P t ks k2 (o+1) fs
 | _,_,_,_=>false
theorem zQ{t:TypeId}(h:jL P t 2=true){cs:List Value}{off:Nat}{u v:Value}(hv:cs.drop off=[u,v])(w:World):(part t ⟨cs⟩ off).run P w=.ok (.agg ⟨[u,v]⟩) w:=by
 obtain⟨dd,hu,hm,hi⟩:=iK h
 have hagg:(isAgg t).run P w=.ok true w:=by
  unfold isAgg
  rw[Sem.run_bind,run_underlying hu w]
  cases dd<;>simp_all
 cases hq':P.info? t with
 | none=>rw[hq'] at hi;simp at hi
 | some i =>
  have hs:i.size=2:=by rw[hq'] at hi;simpa using hi
  simp[part,hagg,Go.sizeOf,typeInfo,hq',hs,hv]
theorem O7{t:TypeId}{d:Nat}{k2:List Nat}{a1 a2 b1 b2:Value}{r2:Bool}(hn:Bs k2 [a1,a2] [b1,b2] r2):∀{ks:List Nat} {us vs:List Value} {r:Bool} {fs:List Field} {o:Nat} {xs ys:List Value},Bs ks us vs r->Cz P t ks k2 o fs=true->xs.drop o=us++[a1,a2]->ys.drop o=vs++[b1,b2] ->
  (Op.eqFields (d+2) ⟨xs⟩ ⟨ys⟩ fs).run P w=.ok (r&&r2) w
 | [],_,_,_,fs,o,xs,ys,h,hs,hx,hy=>by
  cases h
  cases fs with
  | nil=>simp[Cz] at hs
  | cons f fs =>
   cases fs with
   | cons g fs=>simp[Cz] at hs
   | nil =>
    simp only[Cz,Bool.and_eq_true,bne_iff_ne,ne_eq] at hs
    obtain⟨⟨⟨h1,h2⟩,h3⟩,h4⟩:=hs
    replace h2:=eF h2
    subst h2
    have p1:(part f.type ⟨xs⟩ f.offset).run P w=.ok (.agg ⟨[a1,a2]⟩) w:=zQ h3 hx w
    have p2:(part f.type ⟨ys⟩ f.offset).run P w=.ok (.agg ⟨[b1,b2]⟩) w:=zQ h3 hy w
    simp only[Op.eqFields,h1,ne_eq,not_false_eq_true,if_true,Sem.run_bind,p1,p2,(Cr (w:=w) h4 hn d).1,Result.andThen_ok,Sem.run_ite,Sem.run_pure]
    cases r2<;>simp
 | k::ks,_,_,_,fs,o,xs,ys,h,hs,hx,hy=>by
  cases h with
  | @cons _ _ u v us vs r r3 h h2 =>
   cases fs with
   | nil=>simp[Cz] at hs
   | cons f fs =>
    simp only[Cz,Bool.and_eq_true] at hs
    have ex:xs[o]?=some u:=by rw[<- List.head?_drop,hx];rfl
    have ey:ys[o]?=some v:=by rw[<- List.head?_drop,hy];rfl
    have hx2:xs.drop (o+1)=us++[a1,a2]:=by rw[<- List.drop_drop,hx];rfl
    have hy2:ys.drop (o+1)=vs++[b1,b2]:=by rw[<- List.drop_drop,hy];rfl
    rw[To hs.1 (by simpa using ex) (by simpa using ey) h,O7 hn h2 hs.2 hx2 hy2]
    cases r<;>simp
def pG(P:Program)(t:TypeId)(ks k2:List Nat):Bool :=
 (match P.underlying t with
 | some (.struct fs)=>Cz P t ks k2 0 fs.toList
 | _=>false)&&!P.stoodInHeld t&&!P.eqGuardType P.depth t
theorem Kd{t:TypeId}{ks k2:List Nat}{us vs:List Value}{a1 a2 b1 b2:Value}{r r2:Bool}(h:pG P t ks k2=true)(hv:Bs ks us vs r)(hn:Bs k2 [a1,a2] [b1,b2] r2)(d:Nat) :
  (Op.equalIn (d+3) t (.agg ⟨us++[a1,a2]⟩) (.agg ⟨vs++[b1,b2]⟩)).run P w=.ok (r&&r2) w/\P.eqGuardType P.depth t=false:=by
 unfold pG at h
 cases hu:P.underlying t with
 | none=>simp[hu] at h
 | some dd =>
  rw[hu] at h
  cases dd<;>simp only[Bool.false_and,Bool.false_eq_true] at h
  rename_i fs
  have hf:P.fieldsOf t=fs:=by simp[Program.fieldsOf,hu]
  simp only[Bool.and_eq_true,Bool.not_eq_true'] at h
  refine⟨?_,h.2⟩
  rw[run_equalIn_struct w (d+2) t _ _ (by rw[hf];exact hu) h.1.2,hf]
  exact O7 (o:=0) hn hv h.1.1 rfl rfl
variable{S:List (Nat×Value)}{G:World->Prop}{d:Nat}{ty t t':TypeId}{pos:String}{af:Array Edge}{gd:Option (Nat×Bool)}{x y:Operand}
instance:DecidableEq Ac:=λ a b=>if h:a.k=b.k/\a.c=b.c/\a.o=b.o/\a.n=b.n then isTrue (by cases a;cases b;simp_all) else isFalse (λ e=>h (by subst e;exact⟨rfl,rfl,rfl,rfl⟩))
instance:DecidableEq Rs:=λ a b=>if h:a.err=b.err/\a.found=b.found/\a.val=b.val/\a.key=b.key/\a.fX=b.fX/\a.ref=b.ref/\a.root=b.root/\a.ro=b.ro then isTrue (by cases a;cases b;simp_all) else isFalse (λ e=>h (by subst e;exact⟨rfl,rfl,rfl,rfl,rfl,rfl,rfl,rfl⟩))
theorem w9(a b:Ac):Bs [0,0,0,0] a.cells b.cells (decide (a=b)):=by
 have h:=Bs.cons (ly.int .i64 a.k b.k) (.cons (.int .i64 a.c b.c) (.cons (.int .i64 a.o b.o) (.cons (.int .i64 a.n b.n) .nil)))
 have e:(a.k==b.k&&(a.c==b.c&&(a.o==b.o&&(a.n==b.n&&true))))=decide (a=b):=by
  rw[Bool.eq_iff_iff]
  obtain⟨a1,a2,a3,a4⟩:=a
  obtain⟨b1,b2,b3,b4⟩:=b
  simp
 rw[e] at h
 exact h
theorem Vg{a b:Ac}(hx:ev S x=.agg ⟨a.cells⟩)(hy:ev S y=.agg ⟨b.cells⟩)(ht:Ed P t [0,0,0,0]=true):aL P S G ⟨some d,.binOp .eql t x y t',ty,pos,af,gd⟩ (.bool (decide (a=b))):=⟨λ w _=>by
 have h:=Cr (w:=w) ht (w9 a b) 9998
 simp[execOp,hx,hy,run_eqGuard_agg w _ t _ _ _ _ h.2,run_eql_struct,h.1]⟩
theorem kv(a b:Rs){t:TypeId}(ht:pG P t [0,1,0,2,0,0] [0,1]=true)(d:Nat) :
  (Op.equalIn (d+3) t (.agg ⟨a.cells⟩) (.agg ⟨b.cells⟩)).run P w=.ok (decide (a=b)) w/\P.eqGuardType P.depth t=false:=by
 have h:=Kd (w:=w) ht (Bs.cons (ly.int .i64 a.err b.err) (.cons (.bool a.found b.found) (.cons (.int .u64 a.val b.val) (.cons (.str a.key b.key) (.cons (.int .i64 a.fX b.fX) (.cons (.int .i64 a.ref b.ref) .nil))))))
  (Bs.cons (ly.int .i64 a.root b.root) (.cons (.bool a.ro b.ro) .nil)) d
 have e:((a.err==b.err&&(a.found==b.found&&(a.val==b.val&&(decide (a.key=b.key)&&(a.fX==b.fX&&(a.ref==b.ref&&true))))))&&(a.root==b.root&&(a.ro==b.ro&&true)))=decide (a=b):=by
  rw[Bool.eq_iff_iff]
  obtain⟨a1,a2,a3,a4,a5,a6,a7,a8⟩:=a
  obtain⟨b1,b2,b3,b4,b5,b6,b7,b8⟩:=b
  simp[and_assoc]
 rw[e] at h
 exact h
theorem Lm{a b:Rs}(hx:ev S x=.agg ⟨a.cells⟩)(hy:ev S y=.agg ⟨b.cells⟩)(ht:pG P t [0,1,0,2,0,0] [0,1]=true):aL P S G ⟨some d,.binOp .eql t x y t',ty,pos,af,gd⟩ (.bool (decide (a=b))):=⟨λ w _=>by
 have h:=kv (w:=w) a b ht 9997
 simp[execOp,hx,hy,run_eqGuard_agg w _ t _ _ _ _ h.2,run_eql_struct,h.1]⟩
theorem oq{a b:Rs}(hx:ev S x=.agg ⟨a.cells⟩)(hy:ev S y=.agg ⟨b.cells⟩)(ht:pG P t [0,1,0,2,0,0] [0,1]=true):aL P S G ⟨some d,.binOp .neq t x y t',ty,pos,af,gd⟩ (.bool (!decide (a=b))):=⟨λ w _=>by
 have h:=kv (w:=w) a b ht 9997
 simp[execOp,hx,hy,run_eqGuard_agg w _ t _ _ _ _ h.2,run_neq_struct,h.1]⟩
end
end
end Go.Ct
namespace Go.Proofs.YtbajmaoegmbfgaaGreat
section
open Go Go.RowKit Go.Ct
end

/- Pairs: whether a task and an execution are at the same point. -/
section
open Go Go.RowKit Go.Ct
section
variable{k:Cl}{ba bx bm tb n:Nat}{x:XS}{c:Cd}{rs:Rs}{D:List Nat}{A:Fr}{w:World}
theorem Ek{bt:Nat}{d:Bool}(hd:(c.a.k==0)=d)(h:w.heap[bt]?=some (tO ba c n)):Calls Tryz.prog 33 #[.pointer (some ⟨bt,0,none⟩)] w λ e w'=>e=.returned (.bool d)/\St w [] [] w':=by
 subst hd
 exact vB h
theorem Pc{bt:Nat}{d:Bool}{a:Ac}(hd:(c.a.k==0)=d)(ha:(if d=true then Ac.zero else c.a)=a)(h:w.heap[bt]?=some (tO ba c n)):Calls Tryz.prog 133 #[.pointer (some ⟨bt,0,none⟩)] w λ e w'=>e=.returned (.tuple #[.agg ⟨a.cells⟩,.bool (!d)])/\St w [] [] w':=by
 subst hd ha
 have:=bh h
 simp only[beq_iff_eq] at this ⊢
 exact this
theorem sA{bt:Nat}{d:Bool}{r:Rs}(hd:(c.a.k==0)=d)(ha:(if d=true then c.r else Rs.zero)=r)(h:w.heap[bt]?=some (tO ba c n)):Calls Tryz.prog 34 #[.pointer (some ⟨bt,0,none⟩)] w λ e w'=>e=.returned (.agg ⟨r.cells⟩)/\St w [] [] w':=by
 subst hd ha
 have:=Q7 h
 simp only[beq_iff_eq] at this ⊢
 exact this
theorem Vn{dn:Bool}{a:Ac}(ha:(if dn=true then Ac.zero else x.nx)=a)(hs:SF w D (xH k bx bm x dn rs) A [] (xW x) w):Calls Tryz.prog 134 #[.pointer (some ⟨bx,0,none⟩)] w λ e w'=>∃q:Unit,e=.returned (.tuple #[.agg ⟨a.cells⟩,.bool (!dn)])/\True/\SF w D (xH k bx bm x dn rs) [] [] (xW x) w':=by
 subst ha
 exact ri hs
theorem Us{dn:Bool}(hn:x.got.length=n)(hs:SF w D (xH k bx bm x dn rs) A [] (xW x) w):Calls Tryz.prog 132 #[.pointer (some ⟨bx,0,none⟩)] w λ e w'=>∃q:Unit,e=.returned (.int .i64 (n:Int))/\True/\SF w D (xH k bx bm x dn rs) [] [] (xW x) w':=by
 subst hn
 exact oy hs
theorem Y5{w0:World}{dn:Bool}(h:SF w0 D ((tb,tO ba c n)::xH k bx bm x dn rs) A [] (xW x) w):SF w0 D [(tb,tO ba c n),(bx,.cells ⟨xoC k bm x dn rs⟩ 153 (0,0)),(bm,mO x.L x.cs x.gen x.acc x.pn x.cn x.pc x.cc)] A [] [⟨x.pg,aH x.got,x.kg,37,1⟩,⟨x.pm,aH x.made,x.km,37,1⟩,⟨x.pl,aH x.cel,x.kl,27,1⟩,⟨x.pe,aH x.gns,x.ke,3,1⟩,⟨x.pn,gY x.L,x.cn,47,14⟩,⟨x.pc,aH x.cs,x.cc,37,1⟩] w:=h
set_option maxRecDepth 100000 in
set_option maxHeartbeats 1000000 in
theorem Wx(hk:(c.a.k==0)=true)(hr:c.r=rs)(hn:x.got.length=n)(hs:SF w D ((tb,tO ba c n)::xH k bx bm x true rs) A [] (xW x) w) :
  Calls Tryz.prog 93 #[.agg ⟨[.pointer (some ⟨tb,0,none⟩),.pointer (some ⟨bx,0,none⟩)]⟩] w λ e w'=>∃q:Unit,e=.returned (.bool true)/\True/\SF w D ((tb,tO ba c n)::xH k bx bm x true rs) [] [] (xW x) w':=by
 refine enter Tryz.func93 Tryz.ntmps93 rfl rfl (Y5 hs) ?_
 simp only[bY]
 refine J0 ?_;refine bN (λ x1=>?_);refine iT ?_;refine aV ?_;refine dZ [(0,[]),(1,[]),(2,[]),(3,[]),(4,[]),(5,[]),(7,[]),(8,[]),(6,[8]),(9,[]),(10,[]),(11,[]),(12,[]),(13,[]),(14,[]),(16,[]),(17,[]),(15,[17]),(18,[]),(19,[]),(20,[])] ?_;refine mL ?_;refine mD ?_;refine aN ?_
 (refine aR ?_)
 ((refine bP ?_));refine Yw ?_;((refine cL (i:=6) (hq:=(cV (hc:=λ w1 hw=>Ek hk (hw.st.at cK)))) (h:=λ x13=>?_)));((refine bD (i:=9) (hq:=(cM (hs:=xH k bx bm x true rs) (os:=xW x) (hc:=λ w hs=>Bp hs))) (h:=λ x16 h16=>?_)));((refine ad ?_));refine eO ?_;refine aN ?_
 (refine aR ?_)
 ((refine bP ?_));refine Yw ?_;((refine cL (i:=15) (hq:=(cV (hc:=λ w1 hw=>I5 (hw.st.at cK)))) (h:=λ x22=>?_)));((refine bD (i:=18) (hq:=(cM (hs:=xH k bx bm x true rs) (os:=xW x) (hc:=λ w hs=>Us hn hs))) (h:=λ x25 h25=>?_)));((refine Of ?_));refine eO ?_;refine eA ?_
 refine bE (λ c27=>?_) (λ c27=>?_)
 ·exact absurd c27 (by simp)
 ·refine aZ ?_;refine hJ ?_;refine aQ (cV (hc:=λ w1 hw=>Pc (a:=Ac.zero) hk (if_pos rfl) (hw.st.at cK))) (λ x31=>?_);refine N6 ?_;refine aI (λ x3=>?_);refine yT ?_;refine hJ ?_;refine aC (cM (hs:=xH k bx bm x true rs) (os:=xW x) (hc:=λ w hs=>Vn (a:=Ac.zero) (if_pos rfl) hs)) (λ x37 h37=>?_);refine N6 ?_;refine aI (λ x5=>?_);refine jI (λ _=>?_);refine iT ?_;refine dZ [(0,[]),(1,[]),(2,[]),(3,[]),(4,[]),(5,[]),(6,[]),(7,[]),(8,[]),(9,[]),(10,[]),(11,[]),(12,[]),(13,[]),(15,[]),(16,[]),(14,[16]),(17,[]),(18,[]),(19,[]),(20,[]),(21,[]),(22,[]),(23,[]),(24,[]),(26,[]),(25,[]),(27,[]),(28,[]),(29,[]),(30,[]),(31,[])] ?_;refine bP ?_;refine bP ?_;refine cG (i:=2) (hq:=(Vg rf rf (by kernel_rfl))) (h:=?_);refine aN ?_
  (refine aN ?_)
  ((refine aN ?_));((refine jt ?_));refine eO ?_;refine aN ?_
  (refine aN ?_)
  ((refine Gp ?_));((refine aN ?_))
  (refine aR ?_)
  ((refine bP ?_));refine Yw ?_;((refine cL (i:=14) (hq:=(cV (hc:=λ w1 hw=>sA (r:=rs) hk ((if_pos rfl).trans hr) (hw.st.at cK)))) (h:=λ x54=>?_)));((refine bD (i:=17) (hq:=(cM (hs:=xH k bx bm x true rs) (os:=xW x) (hc:=λ w hs=>O4 hs))) (h:=λ x57 h57=>?_)));((refine cG (i:=18) (hq:=(Lm rf rf (by kernel_rfl))) (h:=?_)));((refine eO ?_));((refine aN ?_))
  (refine Yq 60 (λ g60=>?_) (λ g60=>?_)<;>(first|refine dD ?_|(refine aN ?_)))
  all_goals (first|refine dD ?_|(refine aN ?_))
  all_goals (refine dD ?_)
  all_goals ((refine dD ?_);(refine dD ?_);((refine dD ?_));(refine dD ?_);(first|refine dD ?_|(refine eO ?_));((refine eO ?_));refine eO ?_;refine J7 ?_)
  all_goals
  refine aT Tryz.results93 (λ w hw=>?_)
  first
   | exact⟨(),rfl,trivial,hw.aU⟩
   | (exfalso;simp_all;done)
set_option maxRecDepth 100000 in
set_option maxHeartbeats 1000000 in
theorem V8{a:Ac}(hk:(c.a.k==0)=false)(ha:c.a=a)(hx:x.nx=a)(hn:x.got.length=n)(hs:SF w D ((tb,tO ba c n)::xH k bx bm x false rs) A [] (xW x) w) :
  Calls Tryz.prog 93 #[.agg ⟨[.pointer (some ⟨tb,0,none⟩),.pointer (some ⟨bx,0,none⟩)]⟩] w λ e w'=>∃q:Unit,e=.returned (.bool true)/\True/\SF w D ((tb,tO ba c n)::xH k bx bm x false rs) [] [] (xW x) w':=by
 refine enter Tryz.func93 Tryz.ntmps93 rfl rfl (Y5 hs) ?_
 simp only[bY]
 refine J0 ?_;refine bN (λ x1=>?_);refine iT ?_;refine aV ?_;refine dZ [(0,[]),(1,[]),(2,[]),(3,[]),(4,[]),(5,[]),(7,[]),(8,[]),(6,[8]),(9,[]),(10,[]),(11,[]),(12,[]),(13,[]),(14,[]),(16,[]),(17,[]),(15,[17]),(18,[]),(19,[]),(20,[])] ?_;refine mL ?_;refine mD ?_;refine aN ?_
 (refine aR ?_)
 ((refine bP ?_));refine Yw ?_;((refine cL (i:=6) (hq:=(cV (hc:=λ w1 hw=>Ek hk (hw.st.at cK)))) (h:=λ x13=>?_)));((refine bD (i:=9) (hq:=(cM (hs:=xH k bx bm x false rs) (os:=xW x) (hc:=λ w hs=>Bp hs))) (h:=λ x16 h16=>?_)));((refine ad ?_));refine eO ?_;refine aN ?_
 (refine aR ?_)
 ((refine bP ?_));refine Yw ?_;((refine cL (i:=15) (hq:=(cV (hc:=λ w1 hw=>I5 (hw.st.at cK)))) (h:=λ x22=>?_)));((refine bD (i:=18) (hq:=(cM (hs:=xH k bx bm x false rs) (os:=xW x) (hc:=λ w hs=>Us hn hs))) (h:=λ x25 h25=>?_)));((refine Of ?_));refine eO ?_;refine eA ?_
 refine bE (λ c27=>?_) (λ c27=>?_)
 ·exact absurd c27 (by simp)
 ·refine aZ ?_;refine hJ ?_;refine aQ (cV (hc:=λ w1 hw=>Pc (a:=a) hk ((if_neg (by decide)).trans ha) (hw.st.at cK))) (λ x31=>?_);refine N6 ?_;refine aI (λ x3=>?_);refine yT ?_;refine hJ ?_;refine aC (cM (hs:=xH k bx bm x false rs) (os:=xW x) (hc:=λ w hs=>Vn (a:=a) ((if_neg (by decide)).trans hx) hs)) (λ x37 h37=>?_);refine N6 ?_;refine aI (λ x5=>?_);refine jI (λ _=>?_);refine iT ?_;refine dZ [(0,[]),(1,[]),(2,[]),(3,[]),(4,[]),(5,[]),(6,[]),(7,[]),(8,[]),(9,[]),(10,[]),(11,[]),(12,[]),(13,[]),(15,[]),(16,[]),(14,[16]),(17,[]),(18,[]),(19,[]),(20,[]),(21,[]),(22,[]),(23,[]),(24,[]),(26,[]),(25,[]),(27,[]),(28,[]),(29,[]),(30,[]),(31,[])] ?_;refine bP ?_;refine bP ?_;refine cG (i:=2) (hq:=(Vg rf rf (by kernel_rfl))) (h:=?_);refine aN ?_
  (refine Yq 43 (λ g43=>?_) (λ g43=>?_)<;>(first|refine dD ?_|(refine aN ?_)))
  all_goals ((first|refine dD ?_|(refine aN ?_));(first|refine dD ?_|(refine jt ?_));refine eO ?_;refine aN ?_)
  all_goals (first|refine dD ?_|(refine aN ?_))
  all_goals ((first|refine dD ?_|(refine Gp ?_));(first|refine dD ?_|(refine aN ?_)))
  all_goals (refine dD ?_)
  all_goals ((refine dD ?_);refine Yw ?_;((refine dD ?_));((refine dD ?_));(refine dD ?_);(first|refine dD ?_|(refine eO ?_));(first|refine dD ?_|(refine aN ?_)))
  all_goals (first|refine dD ?_|(refine aN ?_))
  all_goals (first|refine dD ?_|(refine aN ?_))
  all_goals (first|refine dD ?_|(refine aR ?_))
  all_goals ((first|refine dD ?_|(refine bP ?_));(first|refine dD ?_|(refine gN ?_));(first|refine dD ?_|(refine cL (i:=25) (hq:=(cV (hc:=λ w1 hw=>sA (r:=Rs.zero) hk (if_neg (by decide)) (hw.st.at cK)))) (h:=λ x65=>?_)));(first|refine dD ?_|(refine cG (i:=27) (hq:=(Lm (b:=Rs.zero) rf rf (by kernel_rfl))) (h:=?_)));(first|refine dD ?_|(refine eO ?_));(first|refine dD ?_|(refine eO ?_));refine eO ?_;refine J7 ?_)
  all_goals
  refine aT Tryz.results93 (λ w hw=>?_)
  first
   | exact⟨(),rfl,trivial,hw.aU⟩
   | (exfalso;simp_all;done)
end
end

/- Literals of lists that may be changed. -/
end Go.Proofs.YtbajmaoegmbfgaaGreat
namespace Go.Ct
section
open Go Go.RowKit
section
variable{P:Program}{S:List (Nat×Value)}{G:World->Prop}{d:Nat}{ty t t' e:TypeId}{pos:String}{af:Array Edge}{gd:Option (Nat×Bool)}{x y:Operand}{w0 w:World}{M:List Nat}{H:List (Nat×Obj)}{A F:Fr}{O:List Ow}{a:Option Addr}
theorem SF.aBR{b c sz:Nat}{cs:List Value}{T:TypeId}(h:SF w0 M ((b,.cells ⟨cs⟩ T (0,0))::H) A F O w)(hl:cs.length=c*sz):SF w0 M H A F (⟨some ⟨b,0,none⟩,cs,c,T,sz⟩::O) w:=by
 have hp:(Ks H (⟨some ⟨b,0,none⟩,cs,c,T,sz⟩::O)).Perm (Ks ((b,.cells ⟨cs⟩ T (0,0))::H) O):=by
  unfold Ks
  simp only[List.flatMap_cons,hZ,List.map_cons,List.cons_append,List.nil_append]
  exact List.perm_middle
 have hb:=h.st.has (b,.cells ⟨cs⟩ T (0,0)) (List.mem_cons_self ..)
 have hn:=h.st.new (b,.cells ⟨cs⟩ T (0,0)) (List.mem_cons_self ..)
 refine⟨h.st.sub (List.sublist_cons_self ..),λ f hf=>⟨(h.bO f hf).1,λ hc hm=>(h.bO f hf).2 hc (hp.mem_iff.1 hm)⟩,λ f hf=>⟨(h.new f hf).1,λ hc=>⟨λ hm=>((h.new f hf).2 hc).1 (hp.mem_iff.1 hm),((h.new f hf).2 hc).2⟩⟩,λ o ho=>?_,hp.nodup_iff.2 h.dis⟩
 rcases List.mem_cons.1 ho with rfl|ho
 ·refine⟨.inr ⟨b,[],rfl,by simpa using hb,by simpa using hl⟩,λ k hk=>?_⟩
  simp only[hZ,List.mem_singleton] at hk
  subst hk
  exact hn.symm
 ·exact h.own o ho
theorem ar{len:Nat}{parts:List (Nat×Operand)}{ps:List (Nat×Value)}{zc cs:List Value}{sz:Nat}(he:dK P t e zc)(hv:jM S parts=ps)(hlen:ps.length=len)(hidx:ps.map Prod.fst=List.range' 0 ps.length)(h1:(ps.all λ p=>Nat.beq (mR p.2).length zc.length)=true)
  (hpos:(Nat.blt 0 len&&Nat.blt 0 zc.length&&Nat.ble (len*zc.length) 16777216)=true) (hcs:Cy ps=cs) (hsz:cs.length=len*sz) :
  bF P S (SF w0 M H A F O) ⟨some d,.buildSlice t len ⟨parts⟩,ty,pos,af,gd⟩ Nat (λ b=>.slice (some ⟨b,0,none⟩) len len) (λ b=>SF w0 M H A F (⟨some ⟨b,0,none⟩,cs,len,e,sz⟩::O)) :=
 (fR λ _=>cP he hv hlen hidx h1 hpos hcs).conv λ b w h=>h.aBR hsz
end
end

end Go.Ct

/- Structs of numbers, bools and strings are compared. -/
import Derived.Test.YtnilhhnfjfdokaaGreatDoorGDfr
import Derived.Test.YtnilhhnfjfdokaaGreatDoorGWn1

set_option linter.unusedSimpArgs false
set_option linter.unusedVariables false
namespace Go.Ct
section
open Go Go.RowKit
section
variable{P:Program}{w:World}
def bz(P:Program)(t:TypeId):Nat->Bool
 | 0=>match P.underlying t with|some (.int _)=>true|_=>false
 | 1=>match P.underlying t with|some .bool=>true|_=>false
 | _=>match P.underlying t with|some .string=>true|_=>false
inductive Y1:Nat->Value->Value->Bool->Prop where
 | int (k:IntKind) (a b:Int):Y1 0 (.int k a) (.int k b) (a==b)
 | bool (a b:Bool):Y1 1 (.bool a) (.bool b) (a==b)
 | str (a b:ByteArray):Y1 2 (.string a) (.string b) (decide (a=b))
theorem Y1.run{t:TypeId}{k:Nat}{u v:Value}{r:Bool}(h:Y1 k u v r)(ht:bz P t k=true)(d:Nat):(Op.equalIn (d+1) t u v).run P w=.ok r w:=by
 cases h with
 | int k a b =>
  cases hu:P.underlying t with
  | none=>simp[bz,hu] at ht
  | some z =>
   cases z<;>simp[bz,hu] at ht
   exact run_equalIn_int w d t k _ a b hu
 | bool a b =>
  cases hu:P.underlying t with
  | none=>simp[bz,hu] at ht
  | some z =>
   cases z<;>simp[bz,hu] at ht
   exact run_equalIn_bool w d t a b hu
 | str a b =>
  cases hu:P.underlying t with
  | none=>simp[bz,hu] at ht
  | some z =>
   cases z<;>simp[bz,hu] at ht
   rw[<- Lk]
   exact run_equalIn_string w d t a b hu
def ow(P:Program)(f:Field)(o k:Nat):Bool:=f.name != "_" && Nat.beq f.offset o&&one P f.type&&bz P f.type k
theorem Mj{f:Field}{fs:List Field}{o k:Nat}{u v:Value}{r:Bool}{xs ys:Array Value}{d:Nat}(hf:ow P f o k=true)(hx:xs[o]?=some u)(hy:ys[o]?=some v)(h:Y1 k u v r) :
  (Op.eqFields (d+1) xs ys (f::fs)).run P w=if r=true then(Op.eqFields (d+1) xs ys fs).run P w else .ok false w:=by
 simp only[ow,Bool.and_eq_true,bne_iff_ne,ne_eq] at hf
 obtain⟨⟨⟨h1,h2⟩,h3⟩,h4⟩:=hf
 replace h2:=eX h2
 subst h2
 have p1:(part f.type xs f.offset).run P w=.ok u w:=jE h3 hx w
 have p2:(part f.type ys f.offset).run P w=.ok v w:=jE h3 hy w
 simp only[Op.eqFields,h1,ne_eq,not_false_eq_true,if_true,Sem.run_bind,p1,p2,h.run h4 d,Result.andThen_ok,Sem.run_ite,Sem.run_pure]
 cases r<;>simp
theorem Ym{xs ys:Array Value}{d:Nat}:(Op.eqFields d xs ys []).run P w=.ok true w:=by simp[Op.eqFields]
def Qv(P:Program)(t:TypeId):List Nat->Nat->List Field->Bool
 | [],_,fs=>fs.isEmpty
 | k::ks,o,f::fs=>ow P f o k&&Qv P t ks (o+1) fs
 | _::_,_,[]=>false
inductive Az:List Nat->List Value->List Value->Bool->Prop where
 | nil:Az [] [] [] true
 | cons {k:Nat} {ks:List Nat} {u v:Value} {us vs:List Value} {r r2:Bool} (h:Y1 k u v r) (hs:Az ks us vs r2):Az (k::ks) (u::us) (v::vs) (r&&r2)
theorem Ot{t:TypeId}{d:Nat}:∀{ks:List Nat} {us vs:List Value} {r:Bool} {fs:List Field} {o:Nat} {xs ys:List Value},Az ks us vs r->Qv P t ks o fs=true->xs.drop o=us->ys.drop o=vs ->
  (Op.eqFields (d+1) ⟨xs⟩ ⟨ys⟩ fs).run P w=.ok r w
 | [],_,_,_,fs,_,_,_,h,hs,_,_=>by
  cases h
  cases fs with
  | nil=>exact Ym
  | cons f fs=>simp[Qv] at hs
 | k::ks,_,_,_,fs,o,xs,ys,h,hs,hx,hy=>by
  cases h with
  | @cons _ _ u v us vs r r2 h h2 =>
   cases fs with
   | nil=>simp[Qv] at hs
   | cons f fs =>
    simp only[Qv,Bool.and_eq_true] at hs
    have ex:xs[o]?=some u:=by rw[<- List.head?_drop,hx];rfl
    have ey:ys[o]?=some v:=by rw[<- List.head?_drop,hy];rfl
    have hx2:xs.drop (o+1)=us:=by rw[<- List.drop_drop,hx];rfl
    have hy2:ys.drop (o+1)=vs:=by rw[<- List.drop_drop,hy];rfl
    rw[Mj hs.1 (by simpa using ex) (by simpa using ey) h,Ot h2 hs.2 hx2 hy2]
    cases r<;>simp
def Ex(P:Program)(t:TypeId)(ks:List Nat):Bool :=
 (match P.underlying t with
 | some (.struct fs)=>Qv P t ks 0 fs.toList
 | _=>false)&&!P.stoodInHeld t&&!P.eqGuardType P.depth t
theorem Hd{t:TypeId}{ks:List Nat}{us vs:List Value}{r:Bool}(h:Ex P t ks=true)(hv:Az ks us vs r)(d:Nat) :
  (Op.equalIn (d+2) t (.agg ⟨us⟩) (.agg ⟨vs⟩)).run P w=.ok r w/\P.eqGuardType P.depth t=false:=by
 unfold Ex at h
 cases hu:P.underlying t with
 | none=>simp[hu] at h
 | some dd =>
  rw[hu] at h
  cases dd<;>simp only[Bool.false_and,Bool.false_eq_true] at h
  rename_i fs
  have hf:P.fieldsOf t=fs:=by simp[Program.fieldsOf,hu]
  simp only[Bool.and_eq_true,Bool.not_eq_true'] at h
  refine⟨?_,h.2⟩
  rw[run_equalIn_struct w (d+1) t _ _ (by rw[hf];exact hu) h.1.2,hf]
  exact Ot (o:=0) hv h.1.1 rfl rfl
def yX(P:Program)(t:TypeId):List Nat->List Nat->Nat->List Field->Bool
 | [],k2,o,[f]=>f.name != "_" && Nat.beq f.offset o&&gX P f.type 2&&Ex P f.type k2
 | k::ks,k2,o,f::fs=>ow P f o k&&yX P t ks k2 (o+1) fs
 | _,_,_,_=>false
theorem uV{t:TypeId}(h:gX P t 2=true){cs:List Value}{off:Nat}{u v:Value}(hv:cs.drop off=[u,v])(w:World):(part t ⟨cs⟩ off).run P w=.ok (.agg ⟨[u,v]⟩) w:=by
 obtain⟨dd,hu,hm,hi⟩:=fX h
 have hagg:(isAgg t).run P w=.ok true w:=by
  unfold isAgg
  rw[Sem.run_bind,run_underlying hu w]
  cases dd<;>simp_all
 cases hq':P.info? t with
 | none=>rw[hq'] at hi;simp at hi
 | some i =>
  have hs:i.size=2:=by rw[hq'] at hi;simpa using hi
  simp[part,hagg,Go.sizeOf,typeInfo,hq',hs,hv]
theorem Hv{t:TypeId}{d:Nat}{k2:List Nat}{a1 a2 b1 b2:Value}{r2:Bool}(hn:Az k2 [a1,a2] [b1,b2] r2):∀{ks:List Nat} {us vs:List Value} {r:Bool} {fs:List Field} {o:Nat} {xs ys:List Value},Az ks us vs r->yX P t ks k2 o fs=true->xs.drop o=us++[a1,a2]->ys.drop o=vs++[b1,b2] ->
  (Op.eqFields (d+2) ⟨xs⟩ ⟨ys⟩ fs).run P w=.ok (r&&r2) w
 | [],_,_,_,fs,o,xs,ys,h,hs,hx,hy=>by
  cases h
  cases fs with
  | nil=>simp[yX] at hs
  | cons f fs =>
   cases fs with
   | cons g fs=>simp[yX] at hs
   | nil =>
    simp only[yX,Bool.and_eq_true,bne_iff_ne,ne_eq] at hs
    obtain⟨⟨⟨h1,h2⟩,h3⟩,h4⟩:=hs
    replace h2:=eX h2
    subst h2
    have p1:(part f.type ⟨xs⟩ f.offset).run P w=.ok (.agg ⟨[a1,a2]⟩) w:=uV h3 hx w
    have p2:(part f.type ⟨ys⟩ f.offset).run P w=.ok (.agg ⟨[b1,b2]⟩) w:=uV h3 hy w
    simp only[Op.eqFields,h1,ne_eq,not_false_eq_true,if_true,Sem.run_bind,p1,p2,(Hd (w:=w) h4 hn d).1,Result.andThen_ok,Sem.run_ite,Sem.run_pure]
    cases r2<;>simp
 | k::ks,_,_,_,fs,o,xs,ys,h,hs,hx,hy=>by
  cases h with
  | @cons _ _ u v us vs r r3 h h2 =>
   cases fs with
   | nil=>simp[yX] at hs
   | cons f fs =>
    simp only[yX,Bool.and_eq_true] at hs
    have ex:xs[o]?=some u:=by rw[<- List.head?_drop,hx];rfl
    have ey:ys[o]?=some v:=by rw[<- List.head?_drop,hy];rfl
    have hx2:xs.drop (o+1)=us++[a1,a2]:=by rw[<- List.drop_drop,hx];rfl
    have hy2:ys.drop (o+1)=vs++[b1,b2]:=by rw[<- List.drop_drop,hy];rfl
    rw[Mj hs.1 (by simpa using ex) (by simpa using ey) h,Hv hn h2 hs.2 hx2 hy2]
    cases r<;>simp
def mP(P:Program)(t:TypeId)(ks k2:List Nat):Bool :=
 (match P.underlying t with
 | some (.struct fs)=>yX P t ks k2 0 fs.toList
 | _=>false)&&!P.stoodInHeld t&&!P.eqGuardType P.depth t
theorem E3{t:TypeId}{ks k2:List Nat}{us vs:List Value}{a1 a2 b1 b2:Value}{r r2:Bool}(h:mP P t ks k2=true)(hv:Az ks us vs r)(hn:Az k2 [a1,a2] [b1,b2] r2)(d:Nat) :
  (Op.equalIn (d+3) t (.agg ⟨us++[a1,a2]⟩) (.agg ⟨vs++[b1,b2]⟩)).run P w=.ok (r&&r2) w/\P.eqGuardType P.depth t=false:=by
 unfold mP at h
 cases hu:P.underlying t with
 | none=>simp[hu] at h
 | some dd =>
  rw[hu] at h
  cases dd<;>simp only[Bool.false_and,Bool.false_eq_true] at h
  rename_i fs
  have hf:P.fieldsOf t=fs:=by simp[Program.fieldsOf,hu]
  simp only[Bool.and_eq_true,Bool.not_eq_true'] at h
  refine⟨?_,h.2⟩
  rw[run_equalIn_struct w (d+2) t _ _ (by rw[hf];exact hu) h.1.2,hf]
  exact Hv (o:=0) hn hv h.1.1 rfl rfl
variable{S:List (Nat×Value)}{G:World->Prop}{d:Nat}{ty t t':TypeId}{pos:String}{af:Array Edge}{gd:Option (Nat×Bool)}{x y:Operand}
instance:DecidableEq Ac:=λ a b=>if h:a.k=b.k/\a.c=b.c/\a.o=b.o/\a.n=b.n then isTrue (by cases a;cases b;simp_all) else isFalse (λ e=>h (by subst e;exact⟨rfl,rfl,rfl,rfl⟩))
instance:DecidableEq Rs:=λ a b=>if h:a.err=b.err/\a.found=b.found/\a.val=b.val/\a.key=b.key/\a.iH=b.iH/\a.ref=b.ref/\a.root=b.root/\a.ro=b.ro then isTrue (by cases a;cases b;simp_all) else isFalse (λ e=>h (by subst e;exact⟨rfl,rfl,rfl,rfl,rfl,rfl,rfl,rfl⟩))
theorem Uh(a b:Rs){t:TypeId}(ht:mP P t [0,1,0,2,0,0] [0,1]=true)(d:Nat) :
  (Op.equalIn (d+3) t (.agg ⟨a.cells⟩) (.agg ⟨b.cells⟩)).run P w=.ok (decide (a=b)) w/\P.eqGuardType P.depth t=false:=by
 have h:=E3 (w:=w) ht (Az.cons (Y1.int .i64 a.err b.err) (.cons (.bool a.found b.found) (.cons (.int .u64 a.val b.val) (.cons (.str a.key b.key) (.cons (.int .i64 a.iH b.iH) (.cons (.int .i64 a.ref b.ref) .nil))))))
  (Az.cons (Y1.int .i64 a.root b.root) (.cons (.bool a.ro b.ro) .nil)) d
 have e:((a.err==b.err&&(a.found==b.found&&(a.val==b.val&&(decide (a.key=b.key)&&(a.iH==b.iH&&(a.ref==b.ref&&true))))))&&(a.root==b.root&&(a.ro==b.ro&&true)))=decide (a=b):=by
  rw[Bool.eq_iff_iff]
  obtain⟨a1,a2,a3,a4,a5,a6,a7,a8⟩:=a
  obtain⟨b1,b2,b3,b4,b5,b6,b7,b8⟩:=b
  simp[and_assoc]
 rw[e] at h
 exact h
theorem Xr{a b:Rs}(hx:ev S x=.agg ⟨a.cells⟩)(hy:ev S y=.agg ⟨b.cells⟩)(ht:mP P t [0,1,0,2,0,0] [0,1]=true):aG P S G ⟨some d,.binOp .eql t x y t',ty,pos,af,gd⟩ (.bool (decide (a=b))):=⟨λ w _=>by
 have h:=Uh (w:=w) a b ht 9997
 simp[execOp,hx,hy,run_eqGuard_agg w _ t _ _ _ _ h.2,run_eql_struct,h.1]⟩
theorem Eo{a b:Rs}(hx:ev S x=.agg ⟨a.cells⟩)(hy:ev S y=.agg ⟨b.cells⟩)(ht:mP P t [0,1,0,2,0,0] [0,1]=true):aG P S G ⟨some d,.binOp .neq t x y t',ty,pos,af,gd⟩ (.bool (!decide (a=b))):=⟨λ w _=>by
 have h:=Uh (w:=w) a b ht 9997
 simp[execOp,hx,hy,run_eqGuard_agg w _ t _ _ _ _ h.2,run_neq_struct,h.1]⟩
end
end
end Go.Ct
namespace Go.Proofs.YtnilhhnfjfdokaaGreatDoor
section
open Go Go.RowKit Go.Ct
end

/- OneWinner: plain parts. -/
section
open Go Go.RowKit Go.Ct
theorem B0:dL Tryz.prog 25 30 [.slice none 0 0]:=fZ (z:=.slice none 0 0) (by kernel_rfl) (by kernel_rfl) rfl
theorem Mf(a b:Int)(w:World):(Instr.build 45 #[(0,.int .i64 a),(1,.int .i64 b)]).run Tryz.prog w=.ok (.agg ⟨[.int .i64 a,.int .i64 b]⟩) w:=by kernel_rfl
theorem mK{S:List (Nat×Value)}{G:World->Prop}{d:Nat}{ty:TypeId}{pos:String}{af:Array Edge}{gd:Option (Nat×Bool)}{x y:Operand}{a b:Int}(hx:ev S x=.int .i64 a)(hy:ev S y=.int .i64 b):aG Tryz.prog S G ⟨some d,.build 45 #[(0,x),(1,y)],ty,pos,af,gd⟩ (.agg ⟨[.int .i64 a,.int .i64 b]⟩):=⟨λ w _=>by
 simp[execOp,hx,hy,Mf]⟩
section
variable{key:ByteArray}{m:Nat}{val:Nat->Int}
def GW(key:ByteArray)(m:Nat)(val:Nat->Int)(Z:AM):Prop:=∃N,N<=66/\Rb key m val Z N
theorem e9:o5 m 3 (GW key m val):=by
 refine⟨λ Z k ⟨N,hN,hw⟩ hk=>?_,λ Z ⟨N,hN,hw⟩=>?_,λ Z ⟨N,hN,hw⟩=>hw.wi.len⟩
 ·obtain⟨h1,N',h2,h3,_⟩:=hw.pick hk
  have s1:=hw.sn
  have s2:=hw.sc
  exact⟨h1,⟨by omega,by omega⟩,N',by omega,h3⟩
 ·obtain⟨K,hK,hd,hi⟩:=hw.drain
  refine⟨K,by omega,λ i hl=>?_,?_⟩
  ·obtain⟨N',h1,_,h2⟩:=hi i hl
   rw[h2.wi.fT]
   simpa using h1
  ·rw[hd.wi.fT]
   rfl
theorem iz{Z:AM}(h:GW key m val Z)(hd:Z.fT=true):∃j,j<3/\∀k,k<3->iT Z.hist k 0=some (if k=j then fL false 0 else dG true (val j))/\iT Z.hist k 1=some (dG true (val j)):=by
 obtain⟨N,_,hw⟩:=h
 rw[hw.wi.fT] at hd
 have e:N=0:=of_decide_eq_true hd
 subst e
 exact hw.wi.end
structure Xx(key:ByteArray)(val:Nat->Int)(i:Nat)(ls:List kT)(F:Fr):Prop where
 len:ls.length=i
 ops:ls.map kT.l=(List.range i).map (kG key val)
 mem:∀s∈ls,(s.p,gG s.l)∈F
theorem Xx.next{i:Nat}{ls:List kT}{F:Fr}(h:Xx key val i ls F)(p:Option Addr)(c:Nat):Xx key val (i+1) (ls++[⟨p,c,kG key val i⟩]) ((p,gG (kG key val i))::F):=by
 refine⟨by simp[h.len],?_,λ s hs=>?_⟩
 ·rw[List.map_append,h.ops,List.range_succ,List.map_append]
  rfl
 ·rcases List.mem_append.1 hs with hs|hs
  ·exact List.mem_cons_of_mem _ (h.mem s hs)
  ·rw[List.mem_singleton.1 hs]
   exact .head _
theorem Pm(ls:List kT)(s:kT):gQ (ls++[s])=gQ ls++[.slice s.p s.l.length s.c]:=by simp[gQ]
theorem Xx.zero{ls:List kT}{F:Fr}(h:Xx key val 3 ls F)(π:Nat×Obj):GW key m val (Jl (ls.map kT.l) π):=by
 refine⟨66,Nat.le_refl _,?_⟩
 rw[h.ops]
 exact ej m π
theorem Xx.ok{i:Nat}{ls:List kT}{F:Fr}(h:Xx key val i ls F)(hk:key.size<=64):∀s∈ls,s.l.length<=16/\∀o∈s.l,F9 o:=λ s hs=>by
 have hm:s.l∈ls.map kT.l:=List.mem_map.2 ⟨s,hs,rfl⟩
 rw[h.ops] at hm
 obtain⟨q,_,e⟩:=List.mem_map.1 hm
 rw[<- e]
 refine⟨by show 2<=16;decide,λ o ho=>?_⟩
 unfold kG at ho
 simp only[List.mem_cons,List.not_mem_nil,or_false] at ho
 rcases ho with rfl|rfl
 ·exact⟨.inr (.inl rfl),rfl,hk⟩
 ·exact⟨.inr (.inr (.inr (.inr rfl))),rfl,hk⟩
end
theorem So{w0 w:World}{M:List Nat}{A F F0:Fr}{V:MV}{o:Ow}{L:List (Nat×Obj)}{q:Nat×Obj}(h:SF w0 M (L++[q]) A (F++F0) (jB V++[o]) w):SF w0 M (q::L) A F (jB V) w:=by
 have h2:=h.sub (H':=L++[q]) (F':=F) (O':=jB V) (List.Sublist.refl _) (bL.dH λ f hf=>List.mem_append_left _ hf) (List.sublist_append_left _ _)
 exact h2.perm (List.perm_append_comm (l₁:=[q]) (l₂:=L)) (List.Perm.refl _)
end

/- OneWinner: the walk. -/
section
open Go Go.RowKit Go.Ct
def A7(j:Nat):Nat->Int
 | 0=>0
 | k+1=>if k=j then 1 else A7 j k
def wX(val:Nat->Int)(j:Nat):Nat->Int
 | 0=>0
 | k+1=>if k=j then val j else wX val j k
theorem I0(j:Nat):∀k,k<=j->A7 j k=0
 | 0,_=>rfl
 | k+1,h=>by
  show(if k=j then 1 else A7 j k)=0
  rw[if_neg (by omega)]
  exact I0 j k (by omega)
theorem Y2(val:Nat->Int){j:Nat}(h:j<3):A7 j 3=1/\wX val j 3=val j:=by
 have:j=0∨j=1∨j=2:=by omega
 rcases this with rfl|rfl|rfl<;>exact⟨rfl,rfl⟩
def zN(val:Nat->Int)(j k:Nat):Rs:=if k=j then fL false 0 else dG true (val j)
section
variable{val:Nat->Int}{j k:Nat}{v:Int}
theorem Vr(h:zN val j k=⟨0,false,0,⟨#[]⟩,1,0,0,false⟩):k=j:=by
 unfold zN at h
 by_cases e:k=j
 ·exact e
 ·rw[if_neg e] at h
  have:=congrArg Rs.iH h
  simp[dG] at this
theorem di(h:¬zN val j k=⟨0,false,0,⟨#[]⟩,1,0,0,false⟩):k≠j:=λ e=>by
 unfold zN at h
 rw[if_pos e] at h
 exact h rfl
theorem gf(h:k=j):IntKind.i64.wrap (A7 j k+1)=A7 j (k+1):=by
 rw[I0 j k (by omega)]
 show _=if k=j then 1 else A7 j k
 rw[if_pos h]
 decide
theorem j0(h:k≠j):A7 j k=A7 j (k+1):=by
 show _=if k=j then 1 else A7 j k
 rw[if_neg h]
theorem ei(h:k=j):wX val j (k+1)=val j:=by
 show(if k=j then val j else wX val j k)=_
 rw[if_pos h]
theorem gq(h:k≠j):wX val j k=wX val j (k+1):=by
 show _=if k=j then val j else wX val j k
 rw[if_neg h]
theorem Xc:(zN val j k).iH=0->zN val j k=dG true (val j):=λ h=>by
 unfold zN at *
 by_cases e:k=j
 ·rw[if_pos e] at h;cases h
 ·rw[if_neg e]
end
theorem V7{P:Program}{S:List (Nat×Value)}{G:World->Prop}{d:Nat}{ty t t':TypeId}{pos:String}{af:Array Edge}{gd:Option (Nat×Bool)}{x y:Operand}{a b:Rs}(hx:ev S x=.agg ⟨a.cells⟩)(hy:ev S y=.agg ⟨b.cells⟩)(ht:mP P t [0,1,0,2,0,0] [0,1]=true)(h:a=b):aG P S G ⟨some d,.binOp .neq t x y t',ty,pos,af,gd⟩ (.bool false):=by
 have:=Eo (P:=P) (G:=G) (d:=d) (ty:=ty) (pos:=pos) (af:=af) (gd:=gd) (t':=t') hx hy ht
 rwa [show(!decide (a=b))=false by simp[h]] at this
set_option maxRecDepth 100000 in
set_option maxHeartbeats 1000000 in
theorem H2{w:World}{m:Nat}{key:ByteArray}{v:Int}{tl:List Int}{a:Option Addr}{ca:Nat}(hAw:∀w,Calls Tryz.prog 4 #[] w λ e w'=>e=.returned (.bool true)/\St w [] [] w')(hm0:m<18446744073709551616)(hca:Go.Ct.Cl w a (aW tl))(htl:tl.length<=17592186043904) :
  Calls Tryz.prog 3 #[.slice a tl.length ca,.int .u64 (m:Int),.string key,.int .u64 v] w λ e w'=>e=.returned (.bool true)/\St w [] [] w':=by
 obtain⟨val,hval⟩:∃val:Nat->Int,val=λ k=>IntKind.u64.wrap (v+((k:Nat):Int)):=⟨_,rfl⟩
 refine enter Tryz.func3 Tryz.ntmps3 rfl rfl (SF.begin (A:=[(a,aW tl)]) (λ f hf=>by rcases List.mem_singleton.1 hf with rfl;exact hca)) ?_
 simp only[cP]
 refine Kb1 ?_;refine oG ?_;refine wD ?_;refine aD ?_
 refine aU (λ c25=>?_) (λ c25=>?_)
 ·try (first|contradiction|(exfalso;omega))
  refine J0 ?_;refine aF (cV (hc:=λ w1 hw=>hAw w1)) (λ x26=>?_);refine J1 ?_
  refine bE Tryz.results3 (λ w hw=>?_)
  exact⟨rfl,hw.done⟩
 ·try (first|contradiction|(exfalso;omega))
  have hk64:key.size<=64:=by omega
  refine Kd3 ?_;refine cK ?_;refine aI (λ x9=>?_);refine J5 ?_;refine aJ ?_;refine W0 ?_
  refine uD [10,29,30,31,32,33,34,35,36,37,38,39,40,41,42,43,44,45] (λ y:Nat×List kT×Option Addr×Nat×Fr=>[(10,.int .u64 ((y.1:Nat):Int))]) (λ y=>y.1<=3/\Xx key val y.1 y.2.1 y.2.2.2.2) (λ y=>[(x9,.cells ⟨[.int .u64 (m:Int),.slice y.2.2.1 y.2.1.length y.2.2.2.1,.slice none 0 0]⟩ 27 (0,0))]) (λ y=>y.2.2.2.2) (λ y=>[⟨y.2.2.1,gQ y.2.1,y.2.2.2.1,30,1⟩]) (λ y=>3-y.1) ((0,[],none,0,[])) (⟨Nat.zero_le _,rfl,rfl,λ s hs=>nomatch hs⟩) (λ y f hx=>?_) (hw0:=λ w hw=>(hw.gU 30 1).back (hF:=bL.nil))
  dsimp only[lP,List.map,List.cons_append,List.nil_append]
  obtain⟨hy1,hy2⟩:=hx
  have hyl:=hy2.len
  refine gS ?_;refine fF ?_
  refine aU (λ c30=>?_) (λ c30=>?_)
  ·try (first|contradiction|(exfalso;omega))
   refine hU ?_;refine dD ?_;refine J3 ?_;refine G3 ?_;refine aB ?_;refine oA ?_;refine cK ?_;refine aB ?_;refine cK ?_;refine aF (by exact gD λ _=>aP qM mH rf rf rf rf (by simp only[dQ,cI,List.cons_append,List.nil_append,List.append_nil];exact rfl)) (λ x42=>?_);refine aF (by exact gD λ _=>aP B0 mH rf rf rf rf (by simp only[dQ,cI,List.cons_append,List.nil_append,List.append_nil];exact rfl)) (λ x43=>?_);(refine aF (aQ.cL (cQ (sz:=1) (cs:=gQ y.2.1) rf rf .head (by rw[Bn];omega) (.new .head) rfl rfl B0 rfl (by decide) dJ (by omega)) hP) (λ x44=>?_);try (refine eH (λ h44=>?_)));refine Jm ?_;refine dZ ?_;refine Gt ?_;refine aA (pN rf rf) rfl ?_;refine J1 ?_
   refine iD ((y.1+1,y.2.1++[⟨some ⟨x42,0,none⟩,2,kG key val y.1⟩],x44.1,x44.2,List.cons (some ⟨x42,0,none⟩,gG (kG key val y.1)) y.2.2.2.2)) ?_ ?_ (by repeat (first|(with_reducible exact pW.refl)|refine pW.cons (by exact rfl) ?_)) ?_ (λ w hw=>by
    rw[show y.2.1.length+1=(y.2.1++[(⟨some ⟨x42,0,none⟩,2,kG key val y.1⟩:kT)]).length by simp] at hw
    rw[Pm]
    have e:[Value.int .i64 2,.int .i64 0,.string key,.int .u64 (IntKind.u64.wrap (v+((y.1:Nat):Int))),.int .u64 0,.int .i64 7,.int .i64 0,.string key,.int .u64 0,.int .u64 0]=gG (kG key val y.1):=by rw[hval];rfl
    rw[e] at hw
    exact hw.back (hF:=bL.dH λ f hf=>by simp at hf ⊢;rcases hf with h|h<;>simp[h]))
   ·omega
   ·repeat' (first|exact bQ _|refine bG ?_ ?_)
    (conv=>{lhs;whnf};rw[show IntKind.u64.wrap (((y.1:Nat):Int)+1)=((y.1+1:Nat):Int) by rw[wrap_u64];omega])
   ·exact⟨by omega,hy2.next _ _⟩
  ·try (first|contradiction|(exfalso;omega))
   refine aX rfl ?_;refine aJ ?_
   have hy3:y.1=3:=by omega
   have hy4:Xx key val 3 y.2.1 y.2.2.2.2:=hy3▸hy2
   have hy5:y.2.1.length=3:=hy4.len
   refine dD ?_;refine bP ?_;refine aB ?_;(refine aF (aQ.conv (Ws (V:=λ x:NW×MV=>.tuple #[pt x.1.bm,.bool true]) (φ:=λ x=>∃Z,mz (GW key m val) x Z) (Hc:=λ x=>NW.L m x.1 x.2) (Fc:=λ x=>x.2.B) (Oc:=λ x=>jB x.2) (hc:=λ w1 hw=>H4 (ls:=y.2.1) e9 (λ π=>hy4.zero π) hy5 (by decide) hm0 (by omega) (hy4.ok hk64) (hw.cl (.own .head)) (λ s hs=>hw.cl (.new (mV.gE (hy4.mem s hs)))) (hw.cl (.old .head)) htl)) (λ x w h=>And.intro h.1 (show SF _ _ ((x9,.cells ⟨[.int .u64 (m:Int),.slice y.2.2.1 y.2.1.length y.2.2.2.1,.slice none 0 0]⟩ 27 (0,0))::NW.L m x.1 x.2) [(a,aW tl)] x.2.B (jB x.2) _ from So h.2))) (λ x49=>?_);try (refine eH (λ h49=>?_)))
   obtain⟨Z,hZ⟩:=h49
   obtain⟨j,hj3,hj⟩:=iz hZ.g hZ.d
   have hhi:=hZ.mi.hist
   have hhl:=hZ.mi.hl
   have hr0:∀k,k<3->iT x49.2.hi k 0=some (zN val j k):=λ k hk=>by rw[hhi];exact(hj k hk).1
   have hr1:∀k,k<3->iT x49.2.hi k 1=some (dG true (val j)):=λ k hk=>by rw[hhi];exact(hj k hk).2
   refine C9 ?_;refine J8 ?_;refine gS ?_;refine wO ?_
   refine aU (λ c53=>?_) (λ c53=>?_)
   ·exact nv c53
   ·try (first|contradiction|(exfalso;omega))
    refine bB ?_;refine Wb ?_;refine aJ ?_;refine W0 ?_
    refine uD [13,14,15,16,17,54,55,56,57,58,59,60,61,62,63,64,65,66,67,68,69,70,71,72,73,74] (λ u:Nat=>[(15,.int .i64 ((u:Nat):Int)),(13,.int .i64 (A7 j u)),(14,.int .u64 (wX val j u))]) (λ u=>u<=3) (λ u=>NW.L m x49.1 x49.2) (λ u=>x49.2.B) (λ u=>jB x49.2) (λ u=>3-u) (0) (Nat.zero_le _) (λ u f hx=>?_) (hw0:=λ w hw=>(hw.sub (List.sublist_cons_self _ _) (by exact bL.all) (List.Sublist.refl _)))
    dsimp only[lP,List.map,List.cons_append,List.nil_append]
    refine gS ?_;refine fF ?_
    refine aU (λ c55=>?_) (λ c55=>?_)
    ·try (first|contradiction|(exfalso;omega))
     have hz3:u<3:=by omega
     refine Ka6 ?_;refine aH (cM (V:=λ x:Option Addr×Nat=>.slice x.1 x49.2.hi.length x.2) (hs:=[(x49.1.bm,yE x49.1.b x49.1.bT x49.1.pk x49.2)]) (os:=jB x49.2) (A0:=[]) (hs':=λ _=>[(x49.1.bm,yE x49.1.b x49.1.bT x49.1.pk x49.2)]) (os':=λ _=>jB x49.2) (Fc:=λ x=>[(x.1,Bs x49.2.hi)]) (hc:=λ w1 hw=>qX (by omega) hw)) (λ x60 h60=>?_);refine aB ?_;refine aA (mK rf rf) rfl ?_;refine aF (cV (v:=.tuple #[.agg ⟨(zN val j u).cells⟩,.bool true]) (hc:=λ w1 hw=>tJ (by omega) (hw.cl (.new .head)) (hr0 u hz3))) (λ x63=>?_);refine C9 ?_;refine aI (λ x16=>?_);refine Wv ?_;refine pV ?_;refine cK ?_;refine aA (Xr (a:=zN val j u) (b:=⟨0,false,0,⟨#[]⟩,1,0,0,false⟩) rf rf (by kernel_rfl)) rfl ?_;refine aD ?_
     refine aU (λ c68=>?_) (λ c68=>?_)
     ·try (first|contradiction|(exfalso;omega))
      have e1:=gf (Vr c68)
      have e2:IntKind.u64.wrap (v+((u:Nat):Int))=wX val j (u+1):=by rw[ei (Vr c68),hval,Vr c68]
      refine qe ?_;refine G3 ?_;refine fC ?_;refine aA (pN rf rf) rfl ?_;refine J8 ?_;refine dZ ?_;refine ik ?_
      refine iD (u+1) ?_ ?_ (by repeat (first|(with_reducible exact pW.refl)|refine pW.cons (by exact rfl) ?_)) ?_ (λ w hw=>hw.back (hF:=by exact bL.dH λ f hf=>by simp[hf]))
      ·omega
      ·repeat' (first|exact bQ _|refine bG ?_ ?_)
       all_goals (first|exact rfl|exact congrArg (Value.int .i64) e1|exact congrArg (Value.int .u64) e2)
      ·exact hz3
     ·try (first|contradiction|(exfalso;omega))
      have e1:=j0 (di c68)
      have e2:wX val j u=wX val j (u+1):=gq (di c68)
      refine oC ?_;refine ik ?_
      refine iD (u+1) ?_ ?_ (by repeat (first|(with_reducible exact pW.refl)|refine pW.cons (by exact rfl) ?_)) ?_ (λ w hw=>hw.back (hF:=by exact bL.dH λ f hf=>by simp[hf]))
      ·omega
      ·repeat' (first|exact bQ _|refine bG ?_ ?_)
       all_goals (first|exact rfl|exact congrArg (Value.int .i64) e1|exact congrArg (Value.int .u64) e2)
      ·exact hz3
    ·try (first|contradiction|(exfalso;omega))
     refine aX rfl ?_;refine aJ ?_;refine aJ ?_
     have hu:u=3:=by omega
     subst hu
     obtain⟨we1,we2⟩:=Y2 val hj3
     refine dD ?_;refine J1 ?_;refine aV ?_
     refine uD [8,18,19,20,21,22,75,76,77,78,79,80,81,82,83,84,85,86,87,88,89,90,91,92,93,94,95,96,97,98,99,100,101,102,103,104,105,106,107,108,109] (λ z:Nat=>[(18,.int .i64 ((z:Nat):Int))]) (λ z=>z<=3) (λ z=>NW.L m x49.1 x49.2) (λ z=>x49.2.B) (λ z=>jB x49.2) (λ z=>3-z) (0) (Nat.zero_le _) (λ z f hx=>?_) (hw0:=λ w hw=>hw)
     dsimp only[lP,List.map,List.cons_append,List.nil_append]
     refine gS ?_;refine fF ?_
     refine aU (λ c76=>?_) (λ c76=>?_)
     ·try (first|contradiction|(exfalso;omega))
      have hz4:z<3:=by omega
      refine Ka6 ?_;refine aH (cM (V:=λ x:Option Addr×Nat=>.slice x.1 x49.2.hi.length x.2) (hs:=[(x49.1.bm,yE x49.1.b x49.1.bT x49.1.pk x49.2)]) (os:=jB x49.2) (A0:=[]) (hs':=λ _=>[(x49.1.bm,yE x49.1.b x49.1.bT x49.1.pk x49.2)]) (os':=λ _=>jB x49.2) (Fc:=λ x=>[(x.1,Bs x49.2.hi)]) (hc:=λ w1 hw=>qX (by omega) hw)) (λ x81 h81=>?_);refine aB ?_;refine aA (mK rf rf) rfl ?_;refine aF (cV (v:=.tuple #[.agg ⟨(zN val j z).cells⟩,.bool true]) (hc:=λ w1 hw=>tJ (by omega) (hw.cl (.new .head)) (hr0 z hz4))) (λ x84=>?_);refine C9 ?_;refine aI (λ x19=>?_);refine Wv ?_;refine J2 ?_;refine aH (cM (V:=λ x:Option Addr×Nat=>.slice x.1 x49.2.hi.length x.2) (hs:=[(x49.1.bm,yE x49.1.b x49.1.bT x49.1.pk x49.2)]) (os:=jB x49.2) (A0:=[]) (hs':=λ _=>[(x49.1.bm,yE x49.1.b x49.1.bT x49.1.pk x49.2)]) (os':=λ _=>jB x49.2) (Fc:=λ x=>[(x.1,Bs x49.2.hi)]) (hc:=λ w1 hw=>qX (by omega) hw)) (λ x89 h89=>?_);refine aB ?_;refine aA (mK rf rf) rfl ?_;refine aF (cV (v:=.tuple #[.agg ⟨(dG true (val j)).cells⟩,.bool true]) (hc:=λ w1 hw=>tJ (by omega) (hw.cl (.new .head)) (hr1 z hz4))) (λ x92=>?_);refine C9 ?_;refine aI (λ x21=>?_);refine Wv ?_;refine jA ?_;refine Kb2 ?_
      (refine lN 98 (λ g98=>?_) (λ g98=>?_)<;>(first|refine aT ?_|(refine aE ?_;refine bP ?_)))
      all_goals (refine Ka5 ?_;(first|refine aT ?_|(refine aE ?_;refine cK ?_));(first|refine aT ?_|(refine aE ?_;refine aA (V7 (a:=zN val j z) (b:=dG true (wX val j 3)) rf rf (by kernel_rfl) (by rw[we2];exact Xc (by assumption))) rfl ?_));refine Kb3 ?_)
      all_goals ((refine Kb6 ?_))
      all_goals (((refine Ka2 ?_));((refine aE ?_;refine cK ?_));((refine aE ?_;refine aA (V7 (a:=dG true (val j)) (b:=dG true (wX val j 3)) rf rf (by kernel_rfl) (by rw[we2])) rfl ?_));refine Kb0 ?_)
      all_goals
      refine aU (λ c109=>?_) (λ c109=>?_)
      ·exact nv c109
      ·all_goals try (first|contradiction|(exfalso;omega))
       all_goals (refine oC ?_;refine ik ?_)
       all_goals
        refine zI (z+1) ?_ (hw1:=λ w hw=>hw.back (hF:=by exact bL.dH λ f hf=>by simp[hf]))
        ·exact hz4
     ·try (first|contradiction|(exfalso;omega))
      refine aX rfl ?_;refine J0 ?_;refine aF (cV (hc:=λ w1 hw=>hAw w1)) (λ x110=>?_);refine aB ?_
      (refine Ka2 ?_)
      refine zM ?_;refine J1 ?_
      refine bE Tryz.results3 (λ w hw=>?_)
      (exact⟨by rw[we1];rfl,hw.done⟩)
end

end Go.Proofs.YtnilhhnfjfdokaaGreatDoor

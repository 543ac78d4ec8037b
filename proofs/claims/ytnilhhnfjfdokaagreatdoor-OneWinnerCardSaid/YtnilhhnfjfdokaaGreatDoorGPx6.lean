/- The machine, as a function; threads that put one key where there is none. -/
import Derived.Test.YtnilhhnfjfdokaaGreatDoorGPx3
import Derived.Test.YtnilhhnfjfdokaaGreatDoorGGc4
import Derived.Test.YtnilhhnfjfdokaaGreatDoorGCmh
import Derived.Test.YtnilhhnfjfdokaaGreatDoorGShort

set_option linter.unusedSimpArgs false
set_option linter.unusedVariables false
namespace Go.Proofs.YtnilhhnfjfdokaaGreatDoor
section
open Go Go.RowKit Go.Ct
structure lO where
 kind:Int
 handle:Int
 key:ByteArray
 val:Int
 exp:Int
structure lR where
 thr:Nat
 idx:Nat
 ret:Bool
 r:Rs
structure Rf where
 ops:List lO
 idx:Nat
 pr:Option Tr
structure AM where
 s:Mm
 th:List Rf
 hist:List lR
def sV:Nat:=1000
def xW(k:Int):Int:=if k=2 then 1 else if k=3 then 2 else if k=4 then 3 else 0
def rT(m:Nat)(o:lO):Tr :=
 if o.kind=7 then qB t3 λ i=>nK t3 (lU o.key m) o.key .done sV i 0
 else gV ⟨t3,o.key,lU o.key m,o.val,xW o.kind,o.exp⟩ sV
def wV(r:Rs):Rs:={r with ref:=0,root:=0,ro:=false}
def nB(Z:AM)(k:Nat)(t:Rf)(p:Tr×Mm)(l:List lR):AM :=
 match p.1 with
 | .done r=>⟨p.2,Z.th.set k ⟨t.ops,t.idx+1,none⟩,l++[⟨k,t.idx,true,wV r⟩]⟩
 | T=>⟨p.2,Z.th.set k ⟨t.ops,t.idx,some T⟩,l⟩
def dO(m:Nat)(k:Nat)(Z:AM):AM :=
 match Z.th[k]? with
 | none=>Z
 | some t =>
  match t.ops[t.idx]? with
  | none=>Z
  | some o =>
   match t.pr with
   | none=>nB Z k t (fA (rT m o) Z.s) (Z.hist++[⟨k,t.idx,false,Rs.zero⟩])
   | some T=>nB Z k t (kQ (T,Z.s)) Z.hist
def Ju(m:Nat)(k:Nat)(Z:AM):Prop :=
 ∀t o,Z.th[k]?=some t->t.ops[t.idx]?=some o->(match t.pr with|none=>(fA (rT m o) Z.s).1|some T=>(kQ (T,Z.s)).1)≠.stuck
def iT(l:List lR)(k i:Nat):Option Rs:=(l.find? λ e=>e.thr==k&&e.idx==i&&e.ret).map lR.r
end

/- put: its small functions; method values; the private part does not matter at the beginning. -/
end Go.Proofs.YtnilhhnfjfdokaaGreatDoor
namespace Go.Ct
section
open Go Go.RowKit
theorem nJ{P:Program}{S:List (Nat×Value)}{G:World->Prop}{d:Nat}{ty:TypeId}{pos:String}{af:Array Edge}{gd:Option (Nat×Bool)}{fn:Fn}{fs cap:List Operand}{us vs:List Value}(hf:lD S fs=us)(hc:lD S cap=vs):aG P S G ⟨some d,.makeFunc fn ⟨fs⟩ ⟨cap⟩,ty,pos,af,gd⟩ (.func fn ⟨us⟩ ⟨vs⟩):=⟨λ w _=>by
 subst hf hc
 have hm:(cap.map (ev S)).toArray=⟨lD S cap⟩:=by rw[oR]
 have hn:(fs.map (ev S)).toArray=⟨lD S fs⟩:=by rw[oR]
 simp only[execOp,List.map_toArray,hm,hn]
 rfl⟩
end
end Go.Ct
namespace Go.Proofs.YtnilhhnfjfdokaaGreatDoor
section
open Go Go.RowKit Go.Ct
abbrev pC(b:Nat)(c:lW)(g par i l:Int):List Value:=[.iface 61 (.pointer (some ⟨b,0,none⟩)),.int .i64 c.t.root,.bool c.t.ro,.string c.key,.int .u64 (c.h:Int),.int .u64 c.val,.int .i64 c.pol,.int .u64 c.exp,.int .i64 g,.int .i64 par,.int .i64 i,.int .i64 l]
abbrev pO(b:Nat)(c:lW)(g par i l:Int):Obj:=.cells ⟨pC b c g par i l⟩ 207 (0,0)
theorem fN.nn{b:Nat}:∀{t:Tr} {s s2:Mm} {c:Cd} {B:Fr} (π:Nat×Obj),fN b t s c s2 B->fN b t ⟨s.nodes,s.cs,s.gen,π⟩ c s2 B
 | .done _,_,_,_,_,_,h=>h
 | .load _ k,_,_,_,_,_,h=>h
 | .oI _ _ _ k,_,_,_,_,_,h=>h
 | .alloc n i k,s,_,_,_,π,h=>fN.nn (t:=k ((s.nodes.length+1:Nat):Int)) π h
 | .cell i k,s,_,_,_,π,h=>fN.nn (t:=k ((s.cs.length+1:Nat):Int)) π h
 | .gen k,s,_,_,_,π,h=>fN.nn (t:=k (s.gen+1)) π h
 | .node r k,s,_,_,_,π,h=>⟨h.1,fN.nn (t:=k (bU s.nodes r)) π h.2⟩
 | .stuck,_,_,_,_,_,_=>trivial
section
variable{D:List Nat}{A B:Fr}{a:AS}{b u:Nat}{w:World}{f:FuncId}{cap:wN}{t:nS}{c:lW}
theorem yL(found:Bool)(v:Int)(w:World):Calls Tryz.prog 254 #[.bool found,.int .u64 v] w λ e w'=>e=.returned (.agg ⟨(fP (dG found v)).cells⟩)/\St w [] [] w':=by
 refine enter Tryz.func254 Tryz.ntmps254 rfl rfl (SF.s0 w) ?_
 simp only[cP]
 refine J0 ?_;refine aI (λ x4=>?_);refine aD ?_;refine mL ?_;refine cK ?_;refine aF (cV (hc:=λ w1 hw=>rX (dG found v) w1)) (λ x8=>?_);refine aL (cE λ _=>aC rf bD rf (bA _) cY rf dI) (λ _=>?_);refine aD ?_
 refine bV Tryz.results254 (λ w hw=>?_)
 exact⟨rfl,hw.done⟩
theorem yN{g par i l:Int}(hb:w.heap[u]?=some (pO b c g par i l))(found:Bool)(v:Int):Calls Tryz.prog 253 #[pt u,.bool found,.int .u64 v] w λ e w'=>e=.returned (.bool (jS c found v))/\St w [] [] w':=by
 refine enter Tryz.func253 Tryz.ntmps253 rfl rfl (SF.Td hb) ?_
 simp only[cP]
 refine Lf ?_;refine oJ ?_;refine Kb9 ?_;refine jN ?_
 refine aU (λ c11=>?_) (λ c11=>?_)
 ·refine J2 ?_;refine Oe ?_;refine J1 ?_
  refine bE Tryz.results253 (λ w hw=>?_)
  refine⟨?_,hw.fV.same hb⟩
  unfold jS
  rw[if_pos (by assumption)]
  rfl
 ·refine jN ?_
  refine aU (λ c15=>?_) (λ c15=>?_)
  ·refine J2 ?_;refine J1 ?_
   refine bE Tryz.results253 (λ w hw=>?_)
   refine⟨?_,hw.fV.same hb⟩
   unfold jS
   rw[if_neg (by assumption),if_pos (by assumption)]
   rfl
  ·refine jN ?_
   refine aU (λ c18=>?_) (λ c18=>?_)
   ·refine mL ?_
    (refine lN 21 (λ g21=>?_) (λ g21=>?_)<;>refine Ka5 ?_)
    all_goals (refine Ka5 ?_;(first|refine aT ?_|(refine aE ?_;refine bC ?_));refine J6 ?_;refine zM ?_;refine J1 ?_)
    all_goals
    refine bE Tryz.results253 (λ w hw=>?_)
    refine⟨?_,hw.fV.same hb⟩
    unfold jS
    rw[if_neg (by assumption),if_neg (by assumption),if_pos (by assumption),g21]
    rfl
   ·refine oC ?_;refine dW ?_
    refine bE Tryz.results253 (λ w hw=>?_)
    refine⟨?_,hw.fV.same hb⟩
    unfold jS
    rw[if_neg (by assumption),if_neg (by assumption),if_neg (by assumption)]
    rfl
theorem S6(ok:a.Ok)(hm:a.mm.Small)(hs:SF w D [(b,eN a),(a.u,a.po)] A [] (fD a) w) :
  Calls Tryz.prog 103 #[.agg ⟨iS b t⟩,fn f cap] w (mS b (λ _ _ _=>True) a B D w):=by
 refine enter Tryz.func103 Tryz.ntmps103 rfl rfl hs ?_
 simp only[cP]
 refine J0 ?_;refine bF (λ x2=>?_);refine bF (λ x3=>?_);refine aI (λ x4=>?_);refine Kb4 ?_;refine aK ?_;refine J3 ?_;(refine aA bN rfl ?_);refine aF (cV (hc:=λ w1 hw=>kP _ _ _ w1)) (λ x9=>?_);refine aL (cE λ _=>aC rf bD rf (bA _) cY rf dI) (λ _=>?_);refine aD ?_
 refine bV Tryz.results103 (λ w hw=>?_)
 exact⟨(kO t.root _ _,[bx x2 (iS b t),bx x3 [fn f cap]],a),rfl,⟨trivial,ok,(AS.fG.refl a).more (λ _ h=>(List.not_mem_nil h).elim)⟩,((hw.cC (.tail .head)).cC (.tail .head)).rI⟩
end
end

/- put: start, replace. -/
section
open Go Go.RowKit Go.Ct
abbrev AS.wp(a:AS)(u:Nat)(o:Obj):AS:=⟨a.L,a.cs,a.gen,a.acc,a.pn,a.cn,a.pc,a.cc,u,o⟩
theorem yR{a:AS}{u:Nat}{o:Obj}(e:a.pv=(u,o)):a=AS.wp a u o:=by
 cases a;cases e;rfl
def B6(b u:Nat)(c:lW)(n:Nat):Prop:=∀(a:AS) (D:List Nat) (A B:Fr) (w:World) (g par i l:Int),a.pv=(u,pO b c g par i l)->a.Ok->a.mm.Small->(∀f∈dV a.L,f∈A)->(∀x∈B,x∈A)->SF w D [(b,eN a),(a.u,a.po)] A [] (fD a) w ->
  Calls Tryz.prog 99 #[pt u] w (mS b (λ c' s' B'=>fN b (gV c n) a.mm c' s' B') a B D w)
section
variable{D:List Nat}{A B:Fr}{a:AS}{b u:Nat}{w:World}{f:FuncId}{cap:wN}{t:nS}{c:lW}
theorem Xe:B6 b u c 0:=by
 intro a D A B w g par i l e ok hm hA hB hs
 obtain⟨a0,rfl⟩:∃a0:AS,a=AS.wp a0 u (pO b c g par i l):=⟨a,yR e⟩
 refine enter Tryz.func99 Tryz.ntmps99 rfl rfl hs ?_
 simp only[cP]
 refine J0 ?_;refine aI (λ x2=>?_);refine aD ?_;refine Pj ?_;refine aA (dE (k:=3) (vs:=iS b c.t) rf bD cY rfl rfl) rfl ?_;refine aB ?_;refine aA (nJ Uu Uu) rfl ?_;refine aH (kV (A0:=A) (λ w1 hw=>S6 (B:=B) (f:=137) (cap:=⟨[pt u],[]⟩) ok hm hw)) (λ x9 h9=>?_);refine aL (cE λ _=>aC rf bD rf (bA _) cY rf dI) (λ _=>?_);refine aD ?_
 refine bV Tryz.results99 (λ w hw=>?_)
 exact⟨x9,rfl,⟨trivial,h9.2⟩,hw.rN⟩
theorem Zk{n:Nat}(ht:c.t.root<=9223372036854775807)(hb:∀(s:Mm) (B:Fr) (g par i l r:Int),s.pv=(u,pO b c g par i l)->r<=s.nodes.length->kL b 137 ⟨[pt u],[]⟩ [.int .i64 r] B s (.node r λ _=>nY c.t r λ m=>jH c r m (gV c n))):B6 b u c (n+1):=by
 intro a D A B w g par i l e ok hm hA hB hs
 obtain⟨a0,rfl⟩:∃a0:AS,a=AS.wp a0 u (pO b c g par i l):=⟨a,yR e⟩
 have hT:sP b (λ r=>.node r λ _=>nY c.t r λ m=>jH c r m (gV c n)) (AS.wp a0 u (pO b c g par i l)).mm 137 ⟨[pt u],[]⟩ B:=⟨by kernel_rfl,λ r s1 l1 hr _=>hb s1 B g par i l r l1.pv hr⟩
 refine enter Tryz.func99 Tryz.ntmps99 rfl rfl hs ?_
 simp only[cP]
 refine J0 ?_;refine aI (λ x2=>?_);refine aD ?_;refine Pj ?_;refine aA (dE (k:=3) (vs:=iS b c.t) rf bD cY rfl rfl) rfl ?_;refine aB ?_;refine aA (nJ Uu Uu) rfl ?_;refine aH (kV (A0:=A) (λ w1 hw=>N8 ht hT ok hm hA hB hw)) (λ x9 h9=>?_);refine aL (cE λ _=>aC rf bD rf (bA _) cY rf dI) (λ _=>?_);refine aD ?_
 refine bV Tryz.results99 (λ w hw=>?_)
 exact⟨x9,rfl,h9,hw.rN⟩
theorem Qe{n:Nat}(hd:B6 b u c n){found:Bool}{v g par i l:Int}{s:Mm}{b1 b2 b3:Nat}(hpv:s.pv=(u,pO b c g par i l))(k:Bool):kL b 285 [pt b1,pt b2,pt b3] [.bool k] (bx b1 [pt u]::bx b2 [.bool found]::bx b3 [.int .u64 v]::B) s (if k=true then .done (fL found v) else gV c n):=by
 intro a D A w em ok hm0 hA hB hw0
 subst em
 have hm:a.mm.Small:=hm0.small
 refine enter Tryz.func285 Tryz.ntmps285 rfl rfl hw0 ?_
 simp only[cP]
 refine J0 ?_;refine aI (λ x5=>?_);refine Kc8 ?_;refine wO ?_
 refine aU (λ c7=>?_) (λ c7=>?_)
 ·refine J0 ?_;refine aA (iG b1 [pt u] 0 hB rfl) rfl ?_;refine aH (kV (λ w1 hw=>hd a _ A _ w1 g par i l hpv ok hm hA hB hw)) (λ x9 h9=>?_);refine aL (cE λ _=>aC rf bD rf (bA _) cY rf dI) (λ _=>?_);refine aD ?_
  refine bV Tryz.results285 (λ w hw=>?_)
  refine⟨x9,rfl,⟨?_,h9.2⟩,hw.rN⟩
  rw[if_neg (by simpa using c7)]
  exact h9.1
 ·refine Kc1 ?_;refine aA (iG b2 [.bool found] 0 hB rfl) rfl ?_;refine aA (iG b3 [.int .u64 v] 0 hB rfl) rfl ?_;refine cK ?_;refine aF (cV (hc:=λ w1 hw=>rX (fL found v) w1)) (λ x13=>?_);refine aL (cE λ _=>aC rf bD rf (bA _) cY rf dI) (λ _=>?_);refine aD ?_
  refine bV Tryz.results285 (λ w hw=>?_)
  refine⟨(fP (fL found v),[],a),rfl,⟨?_,ok,AS.fG.refl a⟩,hw.rI⟩
  rw[if_pos (by simpa using c7)]
  exact⟨rfl,rfl⟩
end
end

/- put: replace. -/
section
open Go Go.RowKit Go.Ct
theorem nz{A F:Fr}{O:List Ow}{x y z:Option Addr×List Value}:cA A (x::y::z::(F++[])) O (x::y::z::(F++A)):=cA.of λ f hf=>by
 simp only[List.mem_cons,List.mem_append] at hf
 rcases hf with h|h|h|h|h
 ·exact .inr (.inr (.inl (by simp[h])))
 ·exact .inr (.inr (.inl (by simp[h])))
 ·exact .inr (.inr (.inl (by simp[h])))
 ·exact .inr (.inr (.inl (by simp[h])))
 ·exact .inr (.inl h)
theorem ct{F:Fr}{x y z f:Option Addr×List Value}(h:f∈F):f∈x::y::z::F:=.tail _ (.tail _ (.tail _ h))
theorem lq{A B F:Fr}{x y z:Option Addr×List Value}(h:∀f∈B,f∈A):∀f∈x::y::z::(F++B),f∈x::y::z::(F++A):=λ f hf=>by
 simp only[List.mem_cons,List.mem_append] at hf ⊢
 rcases hf with h1|h1|h1|h1|h1
 ·exact .inl h1
 ·exact .inr (.inl h1)
 ·exact .inr (.inr (.inl h1))
 ·exact .inr (.inr (.inr (.inl h1)))
 ·exact .inr (.inr (.inr (.inr (h f h1))))
theorem jv{A:Fr}{a:AS}{n:Nd}{xs:List Int}{ys:List Pr}{init:Int}{x:AX}(h:∀f∈dV a.L,f∈A):∀f∈dV (a.al n xs ys init x).L,f∈(pQ n xs ys a.cs.length x).fr++A:=λ f hf=>by
 rw[yM] at hf
 rcases List.mem_append.1 hf with h1|h1
 ·exact List.mem_append_right _ (h f h1)
 ·exact List.mem_append_left _ (by simpa[dV] using h1)
theorem cj{A F:Fr}{O:List Ow}{x:Option Addr×List Value}:cA A (x::(F++[])) O (x::(F++A)):=cA.of λ f hf=>by
 simp only[List.mem_cons,List.mem_append] at hf
 rcases hf with h|h|h
 ·exact .inr (.inr (.inl (by simp[h])))
 ·exact .inr (.inr (.inl (by simp[h])))
 ·exact .inr (.inl h)
theorem cq{A B F:Fr}{x:Option Addr×List Value}(h:∀f∈B,f∈A):∀f∈F++B,f∈x::(F++A):=λ f hf=>by
 simp only[List.mem_cons,List.mem_append] at hf ⊢
 rcases hf with h1|h1
 ·exact .inr (.inl h1)
 ·exact .inr (.inr (h f h1))
theorem Kg{w0 w:World}{M:List Nat}{H H':List (Nat×Obj)}{A F G:Fr}{O:List Ow}(h:SF w0 M H A (F++(G++[])) O w)(hH:H'.Sublist H:=by repeat (first|exact List.Sublist.refl _|apply List.Sublist.cons)):SF w0 M H' [] (F++G) O w:=h.ret hH (bL.dH λ f hf=>by simpa using hf) (List.Sublist.refl _)
section
variable{D:List Nat}{A B:Fr}{a:AS}{b u:Nat}{w:World}{f:FuncId}{cap:wN}{t:nS}{c:lW}
abbrev P4(c:lW)(n:Nat)(found:Bool)(v:Int):Bool->Tr:=λ ok=>if ok=true then .done (fL found v) else gV c n
theorem yO{n:Nat}(hd:B6 b u c n)(ht:c.t.root<=9223372036854775807){found:Bool}{v g par r l m:Int}{nd:Nd}{xs:List Int}{k:Bool}(hk:k=true)(hpv:a.pv=(u,pO b c g par r l))(hr:r<=a.mm.nodes.length)(hmm:m<=a.mm.nodes.length)(e1:nd.brN=xs.length)(e2:nd.prN=0)(hx:xs.length<=1000)(hnb:uJ a.mm.nodes.length a.mm.cs.length {nd.c xs [] with main:=0,prev:=0,status:=0})(hAn:(nd.brA,aW xs)∈A)(ok:a.Ok)(hm1:a.mm.nodes.length<=137438953100/\a.mm.cs.length<=137438953100)(hA:∀f∈dV a.L,f∈A)(hB:∀x∈B,x∈A)(hs:SF w D [(b,eN a),(a.u,a.po)] A [] (fD a) w) :
  Calls Tryz.prog 256 #[pt u,.int .i64 m,nd.v,.bool k,.bool found,.int .u64 v] w (mS b (λ c' s' B'=>fN b (.alloc (nd.c xs []) m λ q=>qR c.t r m q (P4 c n found v)) a.mm c' s' B') a B D w):=by
 subst hk
 obtain⟨a0,rfl⟩:∃a0:AS,a=AS.wp a0 u (pO b c g par r l):=⟨a,yR hpv⟩
 have hm:(AS.wp a0 u (pO b c g par r l)).mm.Small:=⟨Nat.le_trans hm1.1 (by decide),Nat.le_trans hm1.2 (by decide)⟩
 have okx:∀x:AX,((AS.wp a0 u (pO b c g par r l)).al nd xs [] m x).Ok:=λ x=>ok.al x (by omega) (by simp) hnb (by omega)
 have hmx:∀x:AX,((AS.wp a0 u (pO b c g par r l)).al nd xs [] m x).mm.Small:=λ x=>by
  rw[jV]
  have h1:=hm1.1
  have h2:=hm1.2
  have h3:=nC (k:=(nd.c xs []).kind) (cs:=(AS.wp a0 u (pO b c g par r l)).mm.cs) (init:=m)
  exact⟨by show((AS.wp a0 u (pO b c g par r l)).mm.nodes++[_]).length<=_;rw[List.length_append];simp only[List.length_singleton];omega,by show(mR _ _ _).length<=_;omega⟩
 have hlx:∀x:AX,((AS.wp a0 u (pO b c g par r l)).al nd xs [] m x).mm.nodes.length=(AS.wp a0 u (pO b c g par r l)).mm.nodes.length+1:=λ x=>by rw[jV];show(_++[_]).length=_;rw[List.length_append];rfl
 have hT:∀(x:AX) (x6 xa xb:Nat),Q0 b (P4 c n found v) ((AS.wp a0 u (pO b c g par r l)).al nd xs [] m x).mm 285 ⟨[],[pt x6,pt xa,pt xb]⟩ (bx x6 [pt u]::bx xa [.bool found]::bx xb [.int .u64 v]::((pQ nd xs [] a0.cs.length x).fr++B)):=λ x x6 xa xb=>⟨by kernel_rfl,λ k s1 l1 _=>Qe hd (g:=g) (par:=par) (i:=r) (l:=l) (l1.pv.trans rfl) k⟩
 refine enter Tryz.func256 Tryz.ntmps256 rfl rfl hs ?_
 simp only[cP]
 simp only[Nd.v,Nd.cells]
 refine J0 ?_;refine bF (λ x6=>?_);refine bF (λ x8=>?_);refine bF (λ x10=>?_);refine bF (λ x11=>?_);refine aI (λ x12=>?_);refine Kc8 ?_;refine wO ?_
 refine aU (λ c14=>?_) (λ c14=>?_)
 ·exact nv c14
 ·try (first|contradiction|(exfalso;omega))
  refine lS ?_;refine eG [(0,[]),(1,[]),(2,[]),(3,[]),(4,[]),(5,[]),(6,[]),(7,[]),(8,[]),(9,[]),(10,[]),(11,[]),(12,[]),(13,[]),(14,[]),(15,[]),(17,[]),(16,[0,3,4,7]),(18,[]),(19,[])] ?_;refine cB ?_;refine J4 ?_;refine aS (i:=3) (hq:=(dE (k:=3) (vs:=iS b c.t) rf bD cY rfl rfl)) (h:=?_);refine cB ?_;refine J4 ?_;refine cB ?_;refine aR ?_;refine cB ?_;refine J4 ?_;refine gY ?_;refine cB ?_;refine aR ?_;(refine cZ (i:=17) (hq:=bN) (h:=?_));refine bS (i:=16) (hq:=(Wu (V:=λ _:AX=>.int .i64 ((a0.mm.nodes.length+1:Nat):Int)) (hs:=[(b,eN (AS.wp a0 u (pO b c g par r l)))]) (os:=fD (AS.wp a0 u (pO b c g par r l))) (A0:=[(nd.brA,aW xs),(nd.prA,gK [])]) (hs':=λ x=>[(b,eN ((AS.wp a0 u (pO b c g par r l)).al nd xs [] m x))]) (os':=λ x=>fD ((AS.wp a0 u (pO b c g par r l)).al nd xs [] m x)) (Fc:=λ x=>(pQ nd xs [] a0.cs.length x).fr) (hA:=.cons (.inr (.inl hAn)) (.cons (.inl rfl) .nil)) (hm:=λ w=>mF _ _ _ w) (hc:=λ w1 hw=>uT (n:=nd) (xs:=xs) (ys:=[]) ok hm m e1 e2 (by omega) (by simp) (λ f hf=>hf) hw))) (hfire:=(λ _=>by(refine eA ?_;(repeat (first|exact aM.nil|refine aM.cons (by first|exact eE|exact cX (hq:=dE (k:=3) (vs:=iS b c.t) rf bD cY rfl rfl)) ?_));done))) (h:=λ x33 h33=>?_);((refine bZ (i:=18) (hq:=(aQ.pre (λ w h=>(show SF _ _ [_,_,(b,eN ((AS.wp a0 u (pO b c g par r l)).al nd xs [] m x33)),(u,pO b c g par r l)] _ (bx x6 [pt u]::bx x10 [.bool found]::bx x11 [.int .u64 v]::((pQ nd xs [] a0.cs.length x33).fr++[]):Fr) _ w from((h.cC (.tail .head)).cC (.tail .head)).cC (.tail (.tail .head)))) (kV (a:=(AS.wp a0 u (pO b c g par r l)).al nd xs [] m x33) (A0:=bx x6 [pt u]::bx x10 [.bool found]::bx x11 [.int .u64 v]::((pQ nd xs [] a0.cs.length x33).fr++A)) (B:=bx x6 [pt u]::bx x10 [.bool found]::bx x11 [.int .u64 v]::((pQ nd xs [] a0.cs.length x33).fr++B)) (hA:=nz) (λ w1 hw=>Xq (i:=r) (old:=m) (n:=((a0.mm.nodes.length+1:Nat):Int)) ht (hT x33 x6 x10 x11) (by rw[hlx];omega) (by rw[hlx];exact Int.le_refl _) (okx x33) (hmx x33) (λ f hf=>ct (jv (hA) f hf)) (lq hB) hw)))) (h:=λ x35=>?_);try (refine eR (λ h35=>?_))));refine fE (i:=19) (hq:=(cE λ _=>aC rf bD rf (bA _) cY rf dI)) (h:=λ _=>?_);refine dC ?_
  refine bV Tryz.results256 (λ w hw=>?_)
  refine⟨(x35.1,x35.2.1++(bx x6 [pt u]::bx x10 [.bool found]::bx x11 [.int .u64 v]::(pQ nd xs [] a0.cs.length x33).fr),x35.2.2),rfl,⟨?_,h35.2.1,?_⟩,?_⟩
  ·have h1:=h35.1
   rw[jV] at h1
   rw[List.append_assoc]
   exact h1
  ·exact((AS.fG.al (AS.wp a0 u (pO b c g par r l)) nd xs [] m x33).trans h35.2.2).more λ f hf=>(List.mem_append.1 hf).elim (λ h=>List.mem_append_left _ h) λ h=>List.mem_append_right _ (ct h)
  ·exact Kg (G:=bx x6 [pt u]::bx x10 [.bool found]::bx x11 [.int .u64 v]::(pQ nd xs [] a0.cs.length x33).fr) hw
end
end

end Go.Proofs.YtnilhhnfjfdokaaGreatDoor

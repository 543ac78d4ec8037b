/- strconv: small numbers, truth values are appended. -/
import Derived.Test.YtnilhhnfjfdokaaGreatDoorLz6
import Derived.Laws.Externs

set_option linter.unusedSimpArgs false
set_option linter.unusedVariables false
namespace Go.Ct
section
open Go Go.RowKit
def lM(ns:List Int):List Value:=ns.map (Value.int .u8)
def eS(s:ByteArray):List Int:=s.data.toList.map λ b=>((b.toNat:Nat):Int)
theorem G6(s:ByteArray):byteCells s=lM (eS s):=by simp[byteCells,lM,eS]
theorem Oi(a b:List Int):lM (a++b)=lM a++lM b:=by simp[lM]
theorem Mv(a:List Int):(lM a).length=a.length:=by simp[lM]
theorem A5(s:ByteArray):(eS s).length=s.size:=by simp[eS]
section
variable{P:Program}{S:List (Nat×Value)}{w0:World}{M:List Nat}{H:List (Nat×Obj)}{A F:Fr}{O:List Ow}{G:World->Prop}{d:Nat}{ty t t2 e:TypeId}{pos:String}{af:Array Edge}{gd:Option (Nat×Bool)}{x y:Operand}{op:Op}{v:Value}{p a:Option Addr}{ns:List Int}{m c c2 i:Nat}
theorem da(h:∀w,(execOp (ev S) ⟨some d,op,ty,pos,af,gd⟩).run P w=.ok (.value v) w):aG P S G ⟨some d,op,ty,pos,af,gd⟩ v:=⟨λ w _=>h w⟩
theorem zZ{s:ByteArray}(hx:ev S x=.slice p m c)(hy:ev S y=.string s)(ho:sH O i p (lM ns) c e 1)(hm:ns.length=m)(hk0:0<s.size)
  (he:dL P t e [.int .u8 0]) (ht2:P.underlying t2=some .string) (hb:m+s.size<=549755813888) :
  aQ P S (SF w0 M H A F O) ⟨some d,.call {callee:=.builtin .append,args := #[x,y],argTypes := #[t,t2]},ty,pos,af,gd⟩ (Option Addr×Nat) (λ q=>.slice q.1 (ns++eS s).length q.2)
   (λ q w=>True/\SF w0 M H A F (jQ O i ⟨q.1,lM (ns++eS s),q.2,e,1⟩) w):=by
 have:=R8 (P:=P) (S:=S) (w0:=w0) (M:=M) (H:=H) (A:=A) (F:=F) (d:=d) (ty:=ty) (pos:=pos) (af:=af) (gd:=gd) hx hy ho (by rw[Mv];exact hm) hk0 he rfl ht2 hb
 rw[G6,<- Oi,show m+s.size=(ns++eS s).length by rw[List.length_append,A5,hm]] at this
 exact this.conv λ q w h=>⟨trivial,h.2⟩
theorem jU{u:Int}(hx:ev S x=.slice p m c)(hy:ev S y=.slice a 1 c2)(ho:sH O i p (lM ns) c e 1)(hm:ns.length=m)(hf:oB A F O a [.int .u8 u])
  (he:dL P t e [.int .u8 0]) (ht2:P.underlying t2=some (.slice e)) (hb:m+1<=549755813888) :
  aQ P S (SF w0 M H A F O) ⟨some d,.call {callee:=.builtin .append,args := #[x,y],argTypes := #[t,t2]},ty,pos,af,gd⟩ (Option Addr×Nat) (λ q=>.slice q.1 (ns++[u]).length q.2)
   (λ q w=>True/\SF w0 M H A F (jQ O i ⟨q.1,lM (ns++[u]),q.2,e,1⟩) w):=by
 have:=cQ (P:=P) (S:=S) (w0:=w0) (M:=M) (H:=H) (A:=A) (F:=F) (d:=d) (ty:=ty) (pos:=pos) (af:=af) (gd:=gd) (k:=1) (sz:=1) hx hy ho (by rw[Mv,hm,Nat.mul_one]) hf rfl rfl he rfl (by decide) ht2 hb
 rw[show lM ns++[.int .u8 u]=lM (ns++[u]) by rw[Oi];rfl,show m+1=(ns++[u]).length by simp[hm]] at this
 exact this.conv λ q w h=>⟨trivial,h.2⟩
end
end
end Go.Ct
namespace Go.Proofs.YtnilhhnfjfdokaaGreatDoor
section
open Go Go.RowKit Go.Ct
theorem dB:dL Tryz.prog 158 5 [.int .u8 0]:=fZ (z:=.int .u8 0) (by kernel_rfl) (by kernel_rfl) rfl
section
variable{w:World}{D:List Nat}{A:Fr}{p:Option Addr}{ns:List Int}{c:Nat}
def j8(p:Option Addr)(ns:List Int)(c:Nat)(D:List Nat)(w:World)(e:Ending)(w':World):Prop:=∃x:Option Addr×List Int×Nat,e=.returned (.slice x.1 x.2.1.length x.2.2)/\(0<x.2.1.length/\x.2.1.length<=ns.length+8)/\SF w D [] [] [] [⟨x.1,lM x.2.1,x.2.2,5,1⟩] w'
theorem Ys{n:Nat}(hn:n=0∨n=1∨n=2)(w:World):Calls Tryz.prog 132 #[.int .i64 (n:Int)] w λ e w'=>e=.returned (.string ⟨#[48+UInt8.ofNat n]⟩)/\St w [] [] w':=by
 have hn3:n<=2:=by omega
 rcases hn with h|h|h
 all_goals
 refine enter Tryz.func132 Tryz.ntmps132 rfl rfl (SF.s0 w) ?_
 simp only[cP]
 all_goals (refine Kb1 ?_;refine fF ?_)
 all_goals
 refine aU (λ c4=>?_) (λ c4=>?_)
 ·all_goals try (first|contradiction|(exfalso;omega))
  all_goals (refine mL ?_;refine rD ?_;refine aA (da (v:=.string ⟨#[48+UInt8.ofNat n]⟩) (by intro w;subst h;kernel_rfl)) rfl ?_;refine J1 ?_)
  all_goals
   refine bE Tryz.results132 (λ w hw=>?_)
   exact⟨rfl,hw.done⟩
 ·all_goals try ((exfalso;omega))
theorem D3{n:Nat}(hn:n=0∨n=1∨n=2)(hl:ns.length<=1000000)(hs:SF w D [] A [] [⟨p,lM ns,c,5,1⟩] w):Calls Tryz.prog 93 #[.slice p ns.length c,.int .u64 (n:Int),.int .i64 10] w (j8 p ns c D w):=by
 refine enter Tryz.func93 Tryz.ntmps93 rfl rfl hs ?_
 simp only[cP]
 refine Kb1 ?_;refine D0 ?_
 refine aU (λ c10=>?_) (λ c10=>?_)
 ·try (first|contradiction|(exfalso;omega))
  refine gS ?_;refine fF ?_
  refine aU (λ c12=>?_) (λ c12=>?_)
  ·try (first|contradiction|(exfalso;omega))
   refine mL ?_;refine fC ?_;refine aF (cV (hc:=λ w1 hw=>Ys hn w1)) (λ x16=>?_);(refine aF (aQ.cL (zZ (ns:=ns) rf rf .head rfl (Nat.le_of_ble_eq_true rfl) dB (by kernel_rfl) (by show ns.length+1<=_;omega)) hP) (λ x17=>?_);try (refine eH (λ h17=>?_)));refine J1 ?_
   refine bE Tryz.results93 (λ w hw=>?_)
   exact⟨(x17.1,ns++eS ⟨#[48+UInt8.ofNat n]⟩,x17.2),rfl,⟨by simp[eS],by simp[eS]⟩,hw.ret (List.Sublist.refl _) bL.nil (List.Sublist.refl _)⟩
  ·try ((exfalso;omega))
 ·exact nv c10
theorem I1{n:Nat}(hn:n=0∨n=1∨n=2)(hl:ns.length<=1000000)(hs:SF w D [] A [] [⟨p,lM ns,c,5,1⟩] w):Calls Tryz.prog 62 #[.slice p ns.length c,.int .u64 (n:Int),.int .i64 10] w (j8 p ns c D w):=by
 refine enter Tryz.func62 Tryz.ntmps62 rfl rfl hs ?_
 simp only[cP]
 refine dW ?_;refine mL ?_;refine aB ?_;refine aH (cM (V:=λ x:Option Addr×List Int×Nat=>.slice x.1 x.2.1.length x.2.2) (hs:=[]) (os:=[⟨p,lM ns,c,5,1⟩]) (A0:=[]) (hs':=λ _=>[]) (os':=λ x=>[⟨x.1,lM x.2.1,x.2.2,5,1⟩]) (Fc:=λ _=>[]) (hc:=λ w1 hw=>D3 hn hl hw)) (λ x10 h10=>?_);refine J1 ?_
 refine bE Tryz.results62 (λ w hw=>?_)
 exact⟨x10,rfl,h10,hw.ret (List.Sublist.refl _) bL.nil (List.Sublist.refl _)⟩
theorem R9{n:Nat}(hn:n=0∨n=1∨n=2)(hl:ns.length<=1000000)(hs:SF w D [] A [] [⟨p,lM ns,c,5,1⟩] w):Calls Tryz.prog 91 #[.slice p ns.length c,.int .i64 (n:Int),.int .i64 10] w (j8 p ns c D w):=by
 refine enter Tryz.func91 Tryz.ntmps91 rfl rfl hs ?_
 simp only[cP]
 refine Kd1 ?_;refine fC ?_;refine Kc7 ?_;refine fF ?_
 refine aU (λ c11=>?_) (λ c11=>?_)
 ·try (contradiction)
 ·try (first|contradiction|(exfalso;omega))
  refine C5 ?_;refine aB ?_;refine aH (cM (V:=λ x:Option Addr×List Int×Nat=>.slice x.1 x.2.1.length x.2.2) (hs:=[]) (os:=[⟨p,lM ns,c,5,1⟩]) (A0:=[]) (hs':=λ _=>[]) (os':=λ x=>[⟨x.1,lM x.2.1,x.2.2,5,1⟩]) (Fc:=λ _=>[]) (hc:=λ w1 hw=>D3 hn hl hw)) (λ x20 h20=>?_);refine J1 ?_
  refine bE Tryz.results91 (λ w hw=>?_)
  exact⟨x20,rfl,h20,hw.ret (List.Sublist.refl _) bL.nil (List.Sublist.refl _)⟩
theorem vA{n:Nat}(hn:n=0∨n=1∨n=2)(hl:ns.length<=1000000)(hs:SF w D [] A [] [⟨p,lM ns,c,5,1⟩] w):Calls Tryz.prog 60 #[.slice p ns.length c,.int .i64 (n:Int),.int .i64 10] w (j8 p ns c D w):=by
 refine enter Tryz.func60 Tryz.ntmps60 rfl rfl hs ?_
 simp only[cP]
 refine dW ?_;refine mL ?_;refine aB ?_;refine aH (cM (V:=λ x:Option Addr×List Int×Nat=>.slice x.1 x.2.1.length x.2.2) (hs:=[]) (os:=[⟨p,lM ns,c,5,1⟩]) (A0:=[]) (hs':=λ _=>[]) (os':=λ x=>[⟨x.1,lM x.2.1,x.2.2,5,1⟩]) (Fc:=λ _=>[]) (hc:=λ w1 hw=>R9 hn hl hw)) (λ x10 h10=>?_);refine J1 ?_
 refine bE Tryz.results60 (λ w hw=>?_)
 exact⟨x10,rfl,h10,hw.ret (List.Sublist.refl _) bL.nil (List.Sublist.refl _)⟩
theorem Pa(hl:ns.length<=1000000)(hs:SF w D [] A [] [⟨p,lM ns,c,5,1⟩] w):Calls Tryz.prog 92 #[.slice p ns.length c,.bool false] w (j8 p ns c D w):=by
 refine enter Tryz.func92 Tryz.ntmps92 rfl rfl hs ?_
 simp only[cP]
 refine Kb1 ?_;refine aD ?_
 refine aU (λ c5=>?_) (λ c5=>?_)
 ·exact nv c5
 ·try (first|contradiction|(exfalso;omega))
  refine Kd3 ?_;(refine aF (aQ.cL (zZ (ns:=ns) rf rf .head rfl (by decide) dB (by kernel_rfl) (by show ns.length+5<=_;omega)) hP) (λ x9=>?_);try (refine eH (λ h9=>?_)));refine J1 ?_
  refine bE Tryz.results92 (λ w hw=>?_)
  exact⟨(x9.1,ns++eS ⟨#[102,97,108,115,101]⟩,x9.2),rfl,⟨by simp[eS],by simp[eS]⟩,hw.ret (List.Sublist.refl _) bL.nil (List.Sublist.refl _)⟩
theorem Cb(hl:ns.length<=1000000)(hs:SF w D [] A [] [⟨p,lM ns,c,5,1⟩] w):Calls Tryz.prog 61 #[.slice p ns.length c,.bool false] w (j8 p ns c D w):=by
 refine enter Tryz.func61 Tryz.ntmps61 rfl rfl hs ?_
 simp only[cP]
 refine dW ?_;refine mL ?_;refine aH (cM (V:=λ x:Option Addr×List Int×Nat=>.slice x.1 x.2.1.length x.2.2) (hs:=[]) (os:=[⟨p,lM ns,c,5,1⟩]) (A0:=[]) (hs':=λ _=>[]) (os':=λ x=>[⟨x.1,lM x.2.1,x.2.2,5,1⟩]) (Fc:=λ _=>[]) (hc:=λ w1 hw=>Pa hl hw)) (λ x7 h7=>?_);refine J1 ?_
 refine bE Tryz.results61 (λ w hw=>?_)
 exact⟨x7,rfl,h7,hw.ret (List.Sublist.refl _) bL.nil (List.Sublist.refl _)⟩
end
end

/- maps.Clone; families: New. -/
end Go.Proofs.YtnilhhnfjfdokaaGreatDoor
namespace Go.Ct
section
open Go Go.RowKit
theorem Pz(P:Program){w:World}{r:Nat}{es:List MapEntry}{clock:Nat}(t:TypeId)(hb:w.heap[r]?=some (bW es clock)) :
  (Extern.MapsClone.clone #[.iface t (.map (some r))]).run P w=.ok (.iface t (.map (some w.heap.size))) (w.alloc (bW es clock)):=by
 have e:Extern.MapsClone.clone #[.iface t (.map (some r))]=(getObj r >>= λ o=>match o with
   | .map entries clock=>(newObj (.map entries clock) >>= λ n=>pure (.iface t (.map (some n))))
   | _=>stuck "maps.clone: a map expected"):=rfl
 rw[e]
 simp[MapKept.run_getObj_map hb,Result.andThen,go_sem]
section
variable{P:Program}{S:List (Nat×Value)}{G:World->Prop}{d:Nat}{ty t xT K E:TypeId}{pos:String}{af:Array Edge}{gd:Option (Nat×Bool)}{x:Operand}{v:Value}
theorem My(hx:ev S x=.iface t v)(h:P.underlying t=some (.map K E)):aG P S G ⟨some d,.typeAssert x xT t false,ty,pos,af,gd⟩ v:=⟨λ w _=>by
 simp[execOp,hx,Instr.typeAssert,run_underlying h,go_sem,Result.andThen]⟩
theorem Zg{w0:World}{M:List Nat}{H H':List (Nat×Obj)}{y z:Operand}{b i c:Nat}{dK:TypeDesc}{k:Value}{es:List MapEntry}(hx:ev S x=.map (some b))(hy:ev S y=k)(hz:ev S z=v)(ha:At H i b (bW es c))(hu:P.underlying t=some (.map K E))(hd:P.underlying K=some dK)(hk:Go.MapKept.IsKey dK k)(hr:Instr.findNow dK k es 0=some none)(hH:setAt H i (bW (es++[⟨k,v,c⟩]) (c+1))=H') :
  aQ P S (St w0 M H) ⟨none,.insert t x y z,ty,pos,af,gd⟩ Unit (λ _=>undef) (λ _=>St w0 M H') :=
 iZ λ w hw=>by
  subst hH
  have hb:=hw.at ha
  obtain⟨h1,h2⟩:=MapKept.heap_set (o':=bW (es++[⟨k,v,c⟩]) (c+1)) hb
  exact⟨{w with heap:=w.heap.setIfInBounds b (bW (es++[⟨k,v,c⟩]) (c+1))},by simp[execOp,hx,hy,hz,B4 hb hu hd hk hr],hw.write ha rfl rfl rfl (by simp) (λ k hk=>h2 k hk) h1⟩
end
end
end Go.Ct
namespace Go.Proofs.YtnilhhnfjfdokaaGreatDoor
section
open Go Go.RowKit Go.Ct
theorem Il{S:List (Nat×Value)}{w0:World}{M:List Nat}{H:List (Nat×Obj)}{d:Nat}{ty t:TypeId}{pos:String}{af:Array Edge}{gd:Option (Nat×Bool)}{x:Operand}{at_:Array TypeId}{b i c:Nat}{es:List MapEntry}(hx:ev S x=.iface t (.map (some b)))(ha:At H i b (bW es c)) :
  aQ Tryz.prog S (St w0 M H) ⟨some d,.call {callee:=.value (.func 94),args := #[x],argTypes:=at_},ty,pos,af,gd⟩ Nat (λ n=>.iface t (.map (some n))) (λ n=>St w0 M ((n,bW es c)::H)) :=
 fM λ w hw=>⟨w.heap.size,_,by
  have hr:=run_callFunc_extern (P:=Tryz.prog) (f:=94) (e:=Extern.MapsClone.clone) Tryz.func94 (by kernel_rfl) (by kernel_rfl) (by kernel_rfl) (by kernel_rfl) #[.iface t (.map (some b))] w
  have he:ev S (.func 94)=.func (.func 94) #[] #[]:=rfl
  simp[execOp,resolve,Deferred.ofValue,invoke,hx,he,hr,Pz Tryz.prog t (hw.at ha),Result.andThen],hw.alloc _⟩
structure Js where
 b:Nat
 bm:Nat
 bi:Nat
 bv:Nat
abbrev Jt(bv:Nat):List MapEntry:=[⟨.int .i64 0,.agg ⟨[.map (some bv),.bool false]⟩,0⟩]
abbrev iX(f:Js)(ve:List MapEntry)(vc:Nat):List (Nat×Obj):=[(f.b,.cells ⟨[.int .u64 63,.map (some f.bm),.map (some f.bi)]⟩ 135 (0,0)),(f.bm,bW (Jt f.bv) 1),(f.bi,bW [] 0),(f.bv,bW ve vc)]
section
variable{w:World}{D:List Nat}{A:Fr}{b c:Nat}{es:List MapEntry}
theorem Yk(w:World):Calls Tryz.prog 30 #[.int .u64 63] w λ e w'=>∃f:Js,e=.returned (pt f.b)/\True/\SF w [] (iX f [] 0) [] [] [] w':=by
 refine enter Tryz.func30 Tryz.ntmps30 rfl rfl (SF.s0 w) ?_
 simp only[cP]
 refine Kd1 ?_;refine aF (cE λ _=>kC) (λ x4=>?_);refine aF (cE λ _=>kC) (λ x5=>?_);refine cK ?_;refine aL (cE λ _=>Zg (K:=3) (E:=131) (dK:=.int .i64) (k:=.int .i64 0) (v:=.agg ⟨[.map (some x5),.bool false]⟩) (es:=[]) (c:=0) rf rf rf bD (by kernel_rfl) (by kernel_rfl) rfl rfl dI) (λ _=>?_);refine aB ?_;refine aF (cE λ _=>kC) (λ x8=>?_);refine cK ?_;refine bF (λ x10=>?_);refine J1 ?_
 refine bE Tryz.results30 (λ w hw=>?_)
 exact⟨⟨x10,x4,x8,x5⟩,rfl,trivial,(hw.perm (H':=[(x10,.cells ⟨[.int .u64 63,.map (some x4),.map (some x8)]⟩ 135 (0,0)),(x4,bW (Jt x5) 1),(x8,bW [] 0),(x5,bW [] 0)]) ((List.perm_append_comm (l₁:=[(x4,bW (Jt x5) 1)]) (l₂:=[(x8,bW [] 0),(x5,bW [] 0)])).cons _) (List.Perm.refl _)).fV⟩
end
end

/- maps.Clone; families: Copy. -/
end Go.Proofs.YtnilhhnfjfdokaaGreatDoor
namespace Go.Ct
section
open Go Go.RowKit
theorem Ho{α:Type}:∀H:List α,((List.range H.length).flatMap λ i=>(H.drop i).take 1)=H
 | []=>rfl
 | x::H=>by
  rw[List.length_cons,List.range_succ_eq_map,List.flatMap_cons,List.flatMap_map]
  show x::((List.range H.length).flatMap λ i=>(H.drop i).take 1)=x::H
  rw[Ho H]
theorem SF.pick{w0 w:World}{M:List Nat}{H:List (Nat×Obj)}{A F:Fr}{O:List Ow}(is js:List Nat)(n:Nat)(h:SF w0 M H A F O w)(hn:H.length=n:=by rfl)(hp:(List.range n).Perm (is++js):=by decide):SF w0 M (is.flatMap λ i=>(H.drop i).take 1) A F O w:=by
 have p:H.Perm ((is++js).flatMap λ i=>(H.drop i).take 1):=by
  have:=List.Perm.flatMap_right (λ i=>(H.drop i).take 1) hp
  rw[<- hn,Ho] at this
  exact this
 rw[List.flatMap_append] at p
 exact(h.perm p.symm (List.Perm.refl _)).sub (List.sublist_append_left _ _) bL.all (List.Sublist.refl _)
end
end Go.Ct
namespace Go.Proofs.YtnilhhnfjfdokaaGreatDoor
section
open Go Go.RowKit Go.Ct
theorem ew(n:Nat)(w:World):(Instr.makeInterface 129 (.map (some n))).run Tryz.prog w=.ok (.iface 129 (.map (some n))) w:=by kernel_rfl
theorem dz(n:Nat)(w:World):(Instr.makeInterface 133 (.map (some n))).run Tryz.prog w=.ok (.iface 133 (.map (some n))) w:=by kernel_rfl
section
variable{w:World}{D:List Nat}{A:Fr}{b c vc:Nat}{es ve:List MapEntry}{u:Js}
theorem U9(hs:SF w D [(b,bW es c)] A [] [] w):Calls Tryz.prog 64 #[.map (some b)] w λ e w'=>∃n:Nat,e=.returned (.map (some n))/\True/\SF w D ([(b,bW es c)]++[(n,bW es c)]) [] [] [] w':=by
 refine enter Tryz.func64 Tryz.ntmps64 rfl rfl hs ?_
 simp only[cP]
 refine Kb1 ?_;refine aA (zX (K:=9) (E:=23) rf rf (by kernel_rfl)) rfl ?_;refine aD ?_
 refine aU (λ c4=>?_) (λ c4=>?_)
 ·exact nomatch c4
 ·refine Kd3 ?_;refine aA (Ui rf (ew _)) rfl ?_;(refine aF (cE λ _=>Il rf bD) (λ x7=>?_));refine aA (My (K:=9) (E:=23) rf (by kernel_rfl)) rfl ?_;refine J1 ?_
  refine bE Tryz.results64 (λ w hw=>?_)
  exact⟨x7,rfl,trivial,(hw.perm (List.Perm.swap _ _ _) (List.Perm.refl _)).W1⟩
theorem Jj(hs:SF w D [(b,bW es c)] A [] [] w):Calls Tryz.prog 63 #[.map (some b)] w λ e w'=>∃n:Nat,e=.returned (.map (some n))/\True/\SF w D ([(b,bW es c)]++[(n,bW es c)]) [] [] [] w':=by
 refine enter Tryz.func63 Tryz.ntmps63 rfl rfl hs ?_
 simp only[cP]
 refine Kb1 ?_;refine aA (zX (K:=3) (E:=169) rf rf (by kernel_rfl)) rfl ?_;refine aD ?_
 refine aU (λ c4=>?_) (λ c4=>?_)
 ·exact nomatch c4
 ·refine Kd3 ?_;refine aA (Ui rf (dz _)) rfl ?_;(refine aF (cE λ _=>Il rf bD) (λ x7=>?_));refine aA (My (K:=3) (E:=169) rf (by kernel_rfl)) rfl ?_;refine J1 ?_
  refine bE Tryz.results63 (λ w hw=>?_)
  exact⟨x7,rfl,trivial,(hw.perm (List.Perm.swap _ _ _) (List.Perm.refl _)).W1⟩
set_option maxRecDepth 100000 in
theorem Ag(hs:SF w D (iX u ve vc) A [] [] w):Calls Tryz.prog 49 #[pt u.b] w λ e w'=>∃g:Js,e=.returned (pt g.b)/\True/\SF w D (iX u ve vc++iX g ve vc) [] [] [] w':=by
 refine enter Tryz.func49 Tryz.ntmps49 rfl rfl hs ?_
 simp only[cP]
 refine Lf ?_
 refine oV [3,6,7,8,9,10,11,12,13,14,15,16,17,18,19,20,21,22] (λ j:Nat×Nat×Nat=>[(3,pt j.1)]) (λ _=>True) (λ j=>[(j.1,.cells ⟨[.int .u64 63,.map (some j.2.1),.map (some j.2.2)]⟩ 135 (0,0)),(j.2.1,bW [] 0),(j.2.2,bW [] 0)]++iX u ve vc) (λ _=>[]) (λ _=>[]) (by decide) (λ _=>by exact rfl) ?_ (λ j f hx=>?_)
 ·refine mB (.one 0 [] (.one 1 [] (.one 2 [] (.one 3 [] (.one 4 [] (.one 5 [] (.one 6 [] (.one 7 [] (.one 8 [] (.one 10 [] (.one 11 [] (.one 12 [] (.one 13 [] (.two 9 [3,13] (.one 14 [3] (.one 15 [] (.one 16 [] (.one 17 [] .nil)))) 0 [] (.two 14 [3] (.one 9 [3,13] (.one 15 [] (.one 16 [] (.one 17 [] .nil)))) 0 [] .nil))))))))))))))) ?_
  refine iu ?_;refine aS (i:=8) (hq:=(fR (Kw (K:=3) (E:=131) rf bD (by kernel_rfl)))) (h:=?_);refine mG ?_
  refine kS (E:=[9,14]) (by decide +kernel) ((.cons ?_ (.cons ?_ .nil)))
  ·refine nD (i:=9) (hq:=(cE λ _=>Co (K:=3) (E:=131) (n:=1) rf (by kernel_rfl))) (h:=λ x15=>?_)
   refine bS (i:=14) (hq:=(Jh (V:=λ n:Nat=>.map (some n)) (hs:=[(u.bi,bW [] 0)]) (os:=[]) (hs':=λ _=>[(u.bi,bW [] 0)]) (Hc:=λ n=>[(n,bW [] 0)]) (os':=λ _=>[]) (Oc:=λ _=>[]) (Fc:=λ _=>[]) (A0:=[]) (hc:=λ w1 hw=>Jj hw))) (h:=λ x20 h20=>?_);refine jZ ?_;refine Dh (h:=λ x22=>?_);refine J7 ?_
   refine nR ((x22,x15,x20)) ?_ (hw1:=λ w hw=>by exact(hw.perm ((List.Perm.swap _ _ _).cons _) (List.Perm.refl _)).back (hH:=by exact List.Sublist.refl _) (hF:=by exact bL.nil) (hO:=by exact List.Sublist.refl _))
   ·trivial
  ·refine qW (i:=14) (hq:=(Jh (V:=λ n:Nat=>.map (some n)) (hs:=[(u.bi,bW [] 0)]) (os:=[]) (hs':=λ _=>[(u.bi,bW [] 0)]) (Hc:=λ n=>[(n,bW [] 0)]) (os':=λ _=>[]) (Oc:=λ _=>[]) (Fc:=λ _=>[]) (A0:=[]) (hc:=λ w1 hw=>Jj hw))) (h:=λ x20 h20=>?_)
   refine bZ (i:=9) (hq:=(cE λ _=>Co (K:=3) (E:=131) (n:=1) rf (by kernel_rfl))) (h:=λ x15=>?_);refine jZ ?_;refine Dh (h:=λ x22=>?_);refine J7 ?_
   refine nR ((x22,x15,x20)) ?_ (hw1:=λ w hw=>by exact hw.back (hH:=by exact List.Sublist.refl _) (hF:=by exact bL.nil) (hO:=by exact List.Sublist.refl _))
   ·trivial
 dsimp only[lP,List.map,List.cons_append,List.nil_append]
 refine aJ ?_;refine oJ ?_;refine aF (cE λ _=>A4 (K:=3) (E:=131) rf bD (by kernel_rfl)) (λ x27=>?_);refine Kb9 ?_;refine cJ ?_;refine J0 ?_;refine aF (cE λ _=>Ik (e:=⟨.int .i64 0,.agg ⟨[.map (some u.bv),.bool false]⟩,0⟩) rf bD bD (by simp) (by decide) (by kernel_rfl) dI) (λ x28=>?_);refine iI ?_;refine pT ?_
 refine aU (λ c29=>?_) (λ c29=>?_)
 ·refine bB ?_;refine aV ?_;refine J0 ?_;refine aA (fR (Nu (e:=⟨.int .i64 0,.agg ⟨[.map (some u.bv),.bool false]⟩,0⟩) rf bD bD (by simp) (by simp))) rfl ?_;refine ql ?_;refine aI (λ x5=>?_);refine bX (λ _=>?_);refine J5 ?_;refine eG [(0,[]),(1,[]),(2,[]),(3,[]),(4,[]),(5,[]),(6,[]),(8,[]),(9,[]),(7,[3,9]),(10,[]),(11,[])] ?_;refine mG ?_;refine aR ?_;refine Kc4 ?_;refine bS (i:=7) (hq:=(Jh (V:=λ n:Nat=>.map (some n)) (hs:=[(u.bv,bW ve vc)]) (os:=[]) (hs':=λ _=>[(u.bv,bW ve vc)]) (Hc:=λ n=>[(n,bW ve vc)]) (os':=λ _=>[]) (Oc:=λ _=>[]) (Fc:=λ _=>[]) (A0:=[]) (hc:=λ w1 hw=>U9 hw))) (h:=λ x40 h40=>?_);refine jZ ?_;refine fE (i:=11) (hq:=(cE λ _=>Et (K:=3) (E:=131) (dK:=.int .i64) (k:=.int .i64 0) (v:=.agg ⟨[.map (some x40),.bool false]⟩) (es:=[]) (c:=0) rf rf rf bD (by kernel_rfl) (by kernel_rfl) rfl rfl dI)) (h:=λ _=>?_);refine dC ?_;refine dZ ?_;refine bH ?_;refine J0 ?_;refine aA (fR (Aw rf bD bD (by simp) (by decide) (by kernel_rfl))) rfl ?_;refine iI ?_;refine pT ?_
  refine aU (λ c29=>?_) (λ c29=>?_)
  ·exact nv c29
  ·refine aX rfl ?_;refine J2 ?_;refine J1 ?_
   refine bE Tryz.results49 (λ w hw=>?_)
   exact⟨⟨j.1,j.2.1,j.2.2,x40⟩,rfl,trivial,(hw.pick [6,7,8,9,3,4,5,0] [1,2] 10).W1⟩
 ·exact nv c29
end
end

/- families: refusals, setting, applying. -/
end Go.Proofs.YtnilhhnfjfdokaaGreatDoor
namespace Go.Ct
section
open Go Go.RowKit
theorem mD{P:Program}{S:List (Nat×Value)}{w0:World}{M:List Nat}{H:List (Nat×Obj)}{d:Nat}{ty t K E:TypeId}{pos:String}{af:Array Edge}{gd:Option (Nat×Bool)}{x y:Operand}{dK:TypeDesc}{k v ze:Value}{es:List MapEntry}{c i b:Nat}{r:Option (Nat×Value)}(hx:ev S x=.map (some b))(hy:ev S y=k)(ha:At H i b (bW es c))(hu:P.underlying t=some (.map K E))(hd:P.underlying K=some dK)(hk:MapKept.IsKey dK k)(hz:bY P E=some ze)(hr:Instr.findNow dK k es 0=some r)(hv:(r.map Prod.snd).getD ze=v) :
  aG P S (St w0 M H) ⟨some d,.lookup t x y false,ty,pos,af,gd⟩ v:=hv▸Ip hx hy ha hu hd hk hz hr
end
end Go.Ct
namespace Go.Proofs.YtnilhhnfjfdokaaGreatDoor
section
open Go Go.RowKit Go.Ct
def gF:Nat->List MapEntry
 | 0=>[]
 | 1=>[⟨.string fB,.int .u64 1,0⟩]
 | _=>[⟨.string fB,.int .u64 2,0⟩]
def gL:Nat->Nat
 | 0=>0
 | _=>1
section
variable{w:World}{D:List Nat}{A:Fr}{vc:Nat}{ve:List MapEntry}{u:Js}{o:lO}{a:Nat×Nat}
theorem P6(ho:o.kind=1∨o.kind=7)(h0:o.handle=0)(hk:o.key=fB)(hs:SF w D (iX u ve vc) A [] [] w):Calls Tryz.prog 95 #[pt u.b,.agg ⟨o.cells⟩] w λ e w'=>e=.returned (.int .i64 0)/\SF w D (iX u ve vc) [] [] [] w':=by
 have hkz:o.key.size<=64:=by rw[hk];decide
 refine enter Tryz.func95 Tryz.ntmps95 rfl rfl hs ?_
 simp only[cP]
 simp only[lO.cells,h0]
 refine J0 ?_;refine bF (λ x3=>?_);refine kZ ?_;refine eG [(0,[]),(1,[]),(2,[]),(3,[]),(4,[]),(5,[]),(6,[]),(7,[]),(8,[]),(9,[]),(10,[3,5,6]),(11,[]),(12,[])] ?_;refine mG ?_;refine gY ?_;refine aS (i:=6) (hq:=(fR (iE (K:=3) (E:=131) (dK:=.int .i64) (ze:=.agg ⟨[.map none,.bool false]⟩) (k:=.int .i64 0) (es:=Jt u.bv) (c:=1) (r:=some (0,.agg ⟨[.map (some u.bv),.bool false]⟩)) rf rf bD (by kernel_rfl) (by kernel_rfl) rfl (by kernel_rfl) rfl))) (h:=?_);refine aR ?_;refine eP ?_;refine eP ?_;refine sB (hfire:=(λ _=>by((repeat (first|exact aM.nil|refine aM.cons (by first|exact eE|exact cX (hq:=fR (iE (K:=3) (E:=131) (dK:=.int .i64) (ze:=.agg ⟨[.map none,.bool false]⟩) (k:=.int .i64 0) (es:=Jt u.bv) (c:=1) (r:=some (0,.agg ⟨[.map (some u.bv),.bool false]⟩)) rf rf bD (by kernel_rfl) (by kernel_rfl) rfl (by kernel_rfl) rfl))) ?_));done))) (h:=λ x5=>?_);refine pa ?_;refine gS ?_;refine wO ?_
 refine aU (λ c18=>?_) (λ c18=>?_)
 ·try (contradiction)
 ·try (first|contradiction|(exfalso;omega))
  refine lS ?_;refine jA ?_;refine vI ?_;refine aB ?_
  (refine lN 22 (λ g22=>?_) (λ g22=>?_)<;>(try ((exfalso;omega)))<;>((refine aE ?_;refine aK ?_)))
  ((refine Kb6 ?_));((refine aE ?_;refine aF (cV (v:=.bool true) (hc:=λ w1 hw=>by have h1:=rP o.key w1;rw[show(decide (o.key.size<=64))=true by simp[hkz]] at h1;exact h1)) (λ x25=>?_)));refine Q9 ?_;refine aD ?_
  refine aU (λ c27=>?_) (λ c27=>?_)
  ·exact nv c27
  ·try (first|contradiction|(exfalso;omega))
   refine lS ?_;refine jA ?_;refine Kb9 ?_;refine Kd0 ?_
   refine aU (λ c30=>?_) (λ c30=>?_)
   ·try (first|contradiction|(exfalso;omega))
    refine bB ?_
    refine aU (λ c30=>?_) (λ c30=>?_)
    ·try (first|contradiction|(exfalso;omega))
     refine jA ?_;refine aD ?_
     refine aU (λ c39=>?_) (λ c39=>?_)
     ·exact nv c39
     ·try (first|contradiction|(exfalso;omega))
      refine oC ?_;refine dW ?_
      refine bE Tryz.results95 (λ w hw=>?_)
      exact⟨rfl,hw.ret (by repeat (first|exact List.Sublist.refl _|apply List.Sublist.cons)) (bL.dH λ f hf=>hf) (List.Sublist.refl _)⟩
    ·try (contradiction)
   ·try (first|contradiction|(exfalso;omega))
    refine jN ?_
    refine aU (λ c30=>?_) (λ c30=>?_)
    ·try ((exfalso;omega))
    ·try (first|contradiction|(exfalso;omega))
     refine jN ?_
     refine aU (λ c30=>?_) (λ c30=>?_)
     ·try ((exfalso;omega))
     ·try (first|contradiction|(exfalso;omega))
      refine jN ?_
      refine aU (λ c30=>?_) (λ c30=>?_)
      ·try ((exfalso;omega))
      ·try (first|contradiction|(exfalso;omega))
       refine jN ?_
       refine aU (λ c30=>?_) (λ c30=>?_)
       ·try ((exfalso;omega))
       ·try (first|contradiction|(exfalso;omega))
        refine jN ?_
        refine aU (λ c30=>?_) (λ c30=>?_)
        ·try ((exfalso;omega))
        ·try (first|contradiction|(exfalso;omega))
         refine dD ?_;refine K1 ?_
         refine aU (λ c30=>?_) (λ c30=>?_)
         ·try ((exfalso;omega))
         ·try (first|contradiction|(exfalso;omega))
          refine Kd0 ?_
          refine aU (λ c40=>?_) (λ c40=>?_)
          ·try ((exfalso;omega))
          ·try (first|contradiction|(exfalso;omega))
           refine dD ?_;refine K1 ?_
           refine aU (λ c40=>?_) (λ c40=>?_)
           ·try ((exfalso;omega))
           ·try (first|contradiction|(exfalso;omega))
            refine oC ?_;refine dW ?_
            refine bE Tryz.results95 (λ w hw=>?_)
            exact⟨rfl,hw.ret (by repeat (first|exact List.Sublist.refl _|apply List.Sublist.cons)) (bL.dH λ f hf=>hf) (List.Sublist.refl _)⟩
end
end

end Go.Proofs.YtnilhhnfjfdokaaGreatDoor

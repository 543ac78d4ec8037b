/- Merged. -/
import Derived.Test.YtdeecdfockjoiaaGreatDoorLz6
import Derived.Laws.Externs
set_option linter.unusedSimpArgs false
set_option linter.unusedVariables false
namespace Go.Ct
open Go Go.RowKit
section
def oO(ns:List Int):List Value:=ns.map (Value.int .u8)
def fU(s:ByteArray):List Int:=s.data.toList.map λ b=>((b.toNat:Nat):Int)
theorem Rn(s:ByteArray):byteCells s=oO (fU s):=by simp[byteCells,oO,fU]
theorem Xi(a b:List Int):oO (a++b)=oO a++oO b:=by simp[oO]
theorem Vk(a:List Int):(oO a).length=a.length:=by simp[oO]
theorem Hr(s:ByteArray):(fU s).length=s.size:=by simp[fU]
section
variable{P:Program}{S:List (Nat×Value)}{w0:World}{M:List Nat}{H:List (Nat×Obj)}{A F:Fr}{O:List Ow}{G:World->Prop}{d:Nat}{ty t t2 e:TypeId}{pos:String}{af:Array Edge}{gd:Option (Nat×Bool)}{x y:Operand}{op:Op}{v:Value}{p a:Option Addr}{ns:List Int}{m c c2 i:Nat}
theorem xj(h:∀w,(execOp (ev S) ⟨some d,op,ty,pos,af,gd⟩).run P w=.ok (.value v) w):aN P S G ⟨some d,op,ty,pos,af,gd⟩ v:=⟨λ w _=>h w⟩
theorem Fh{s:ByteArray}(hx:ev S x=.slice p m c)(hy:ev S y=.string s)(ho:rM O i p (oO ns) c e 1)(hm:ns.length=m)(hk0:0<s.size)
  (he:dU P t e [.int .u8 0]) (ht2:P.underlying t2=some .string) (hb:m+s.size<=549755813888) :
  aW P S (SF w0 M H A F O) ⟨some d,.call {callee:=.builtin .append,args := #[x,y],argTypes := #[t,t2]},ty,pos,af,gd⟩ (Option Addr×Nat) (λ q=>.slice q.1 (ns++fU s).length q.2)
   (λ q w=>True/\SF w0 M H A F (gU O i ⟨q.1,oO (ns++fU s),q.2,e,1⟩) w):=by have:=dg (P:=P) (S:=S) (w0:=w0) (M:=M) (H:=H) (A:=A) (F:=F) (d:=d) (ty:=ty) (pos:=pos) (af:=af) (gd:=gd) hx hy ho (by rw[Vk];exact hm) hk0 he rfl ht2 hb;rw[Rn,<- Xi,show m+s.size=(ns++fU s).length by rw[List.length_append,Hr,hm]] at this;exact this.conv λ q w h=>⟨trivial,h.2⟩
theorem mK{u:Int}(hx:ev S x=.slice p m c)(hy:ev S y=.slice a 1 c2)(ho:rM O i p (oO ns) c e 1)(hm:ns.length=m)(hf:qC A F O a [.int .u8 u])
  (he:dU P t e [.int .u8 0]) (ht2:P.underlying t2=some (.slice e)) (hb:m+1<=549755813888) :
  aW P S (SF w0 M H A F O) ⟨some d,.call {callee:=.builtin .append,args := #[x,y],argTypes := #[t,t2]},ty,pos,af,gd⟩ (Option Addr×Nat) (λ q=>.slice q.1 (ns++[u]).length q.2)
   (λ q w=>True/\SF w0 M H A F (gU O i ⟨q.1,oO (ns++[u]),q.2,e,1⟩) w):=by have:=dG (P:=P) (S:=S) (w0:=w0) (M:=M) (H:=H) (A:=A) (F:=F) (d:=d) (ty:=ty) (pos:=pos) (af:=af) (gd:=gd) (k:=1) (sz:=1) hx hy ho (by rw[Vk,hm,Nat.mul_one]) hf rfl rfl he rfl (by decide) ht2 hb;rw[show oO ns++[.int .u8 u]=oO (ns++[u]) by rw[Xi];rfl,show m+1=(ns++[u]).length by simp[hm]] at this;exact this.conv λ q w h=>⟨trivial,h.2⟩
end
end
end Go.Ct
namespace Go.Proofs.YtdeecdfockjoiaaGreatDoor
open Go.Proofs.Tryz
open Go Go.RowKit Go.Ct
section
theorem dY:dU prog 175 5 [.int .u8 0]:=gR (z:=.int .u8 0) (by kernel_rfl) (by kernel_rfl) rfl
section
variable{w:World}{D:List Nat}{A:Fr}{p:Option Addr}{ns:List Int}{c:Nat}
def ApQ(p:Option Addr)(ns:List Int)(c:Nat)(D:List Nat)(w:World)(e:Ending)(w':World):Prop:=∃x:Option Addr×List Int×Nat,e=.returned (.slice x.1 x.2.1.length x.2.2)/\(0<x.2.1.length/\x.2.1.length<=ns.length+8)/\SF w D [] [] [] [⟨x.1,oO x.2.1,x.2.2,5,1⟩] w'
variable{n:Nat}
theorem qo(hn:n=0∨n=1∨n=2)(w:World):Calls prog 163 #[.int .i64 (n:Int)] w λ e w'=>e=.returned (.string ⟨#[48+UInt8.ofNat n]⟩)/\St w [] [] w':=by
 have hn3:n<=2:=by omega
 rcases hn with h|h|h;all_goals
 refine enter func163 ntmps163 rfl rfl (SF.s0 w) ?_;simp only[cN];all_goals (refine Ka9 ?_;refine fX ?_)
 all_goals
 refine aX (λ c4=>?_) (λ c4=>?_)
 ·all_goals try (first|contradiction|(exfalso;omega))
  all_goals (refine lV ?_;refine tZ ?_;refine aA (xj (v:=.string ⟨#[48+UInt8.ofNat n]⟩) (by intro w;subst h;kernel_rfl)) rfl ?_;refine J1 ?_)
  all_goals refine bJ results163 (λ w hw=>?_);exact⟨rfl,hw.done⟩
 ·all_goals try ((exfalso;omega))
theorem Km(hn:n=0∨n=1∨n=2)(hl:ns.length<=1000000)(hs:SF w D [] A [] [⟨p,oO ns,c,5,1⟩] w):Calls prog 125 #[.slice p ns.length c,.int .u64 (n:Int),.int .i64 10] w (ApQ p ns c D w):=by
 refine enter func125 ntmps125 rfl rfl hs ?_;simp only[cN];refine Ka9 ?_;refine E2 ?_;refine aX (λ c10=>?_) (λ c10=>?_)
 ·try (first|contradiction|(exfalso;omega))
  refine gQ ?_;refine fX ?_;refine aX (λ c12=>?_) (λ c12=>?_)
  ·try (first|contradiction|(exfalso;omega))
   refine lV ?_;refine fR ?_;refine aH (cV (hc:=λ w1 hw=>qo hn w1)) (λ x16=>?_);(refine aH (aW.cX (Fh (ns:=ns) rf rf .head rfl (Nat.le_of_ble_eq_true rfl) dY (by kernel_rfl) (by show ns.length+1<=_;omega)) jK) (λ x17=>?_);try (refine dQ (λ h17=>?_)));refine J1 ?_;refine bJ results125 (λ w hw=>?_);exact⟨(x17.1,ns++fU ⟨#[48+UInt8.ofNat n]⟩,x17.2),rfl,⟨by simp[fU],by simp[fU]⟩,hw.ret (List.Sublist.refl _) bM.nil (List.Sublist.refl _)⟩
  ·try ((exfalso;omega))
 ·exact nv c10
theorem P7(hn:n=0∨n=1∨n=2)(hl:ns.length<=1000000)(hs:SF w D [] A [] [⟨p,oO ns,c,5,1⟩] w):Calls prog 79 #[.slice p ns.length c,.int .u64 (n:Int),.int .i64 10] w (ApQ p ns c D w):=by refine enter func79 ntmps79 rfl rfl hs ?_;simp only[cN];refine eD ?_;refine lV ?_;refine aB ?_;refine aI (cM (V:=λ x:Option Addr×List Int×Nat=>.slice x.1 x.2.1.length x.2.2) (hs:=[]) (os:=[⟨p,oO ns,c,5,1⟩]) (A0:=[]) (hs':=λ _=>[]) (os':=λ x=>[⟨x.1,oO x.2.1,x.2.2,5,1⟩]) (Fc:=λ _=>[]) (hc:=λ w1 hw=>Km hn hl hw)) (λ x10 h10=>?_);refine J1 ?_;refine bJ results79 (λ w hw=>?_);exact⟨x10,rfl,h10,hw.ret (List.Sublist.refl _) bM.nil (List.Sublist.refl _)⟩
theorem gk(hn:n=0∨n=1∨n=2)(hl:ns.length<=1000000)(hs:SF w D [] A [] [⟨p,oO ns,c,5,1⟩] w):Calls prog 123 #[.slice p ns.length c,.int .i64 (n:Int),.int .i64 10] w (ApQ p ns c D w):=by
 refine enter func123 ntmps123 rfl rfl hs ?_;simp only[cN];refine Kd3 ?_;refine fR ?_;refine Kc7 ?_;refine fX ?_;refine aX (λ c11=>?_) (λ c11=>?_);·try (contradiction)
 ·try (first|contradiction|(exfalso;omega))
  refine yO ?_;refine aB ?_;refine aI (cM (V:=λ x:Option Addr×List Int×Nat=>.slice x.1 x.2.1.length x.2.2) (hs:=[]) (os:=[⟨p,oO ns,c,5,1⟩]) (A0:=[]) (hs':=λ _=>[]) (os':=λ x=>[⟨x.1,oO x.2.1,x.2.2,5,1⟩]) (Fc:=λ _=>[]) (hc:=λ w1 hw=>Km hn hl hw)) (λ x20 h20=>?_);refine J1 ?_;refine bJ results123 (λ w hw=>?_);exact⟨x20,rfl,h20,hw.ret (List.Sublist.refl _) bM.nil (List.Sublist.refl _)⟩
theorem A3(hn:n=0∨n=1∨n=2)(hl:ns.length<=1000000)(hs:SF w D [] A [] [⟨p,oO ns,c,5,1⟩] w):Calls prog 77 #[.slice p ns.length c,.int .i64 (n:Int),.int .i64 10] w (ApQ p ns c D w):=by refine enter func77 ntmps77 rfl rfl hs ?_;simp only[cN];refine eD ?_;refine lV ?_;refine aB ?_;refine aI (cM (V:=λ x:Option Addr×List Int×Nat=>.slice x.1 x.2.1.length x.2.2) (hs:=[]) (os:=[⟨p,oO ns,c,5,1⟩]) (A0:=[]) (hs':=λ _=>[]) (os':=λ x=>[⟨x.1,oO x.2.1,x.2.2,5,1⟩]) (Fc:=λ _=>[]) (hc:=λ w1 hw=>gk hn hl hw)) (λ x10 h10=>?_);refine J1 ?_;refine bJ results77 (λ w hw=>?_);exact⟨x10,rfl,h10,hw.ret (List.Sublist.refl _) bM.nil (List.Sublist.refl _)⟩
theorem Yv(hl:ns.length<=1000000)(hs:SF w D [] A [] [⟨p,oO ns,c,5,1⟩] w):Calls prog 124 #[.slice p ns.length c,.bool false] w (ApQ p ns c D w):=by
 refine enter func124 ntmps124 rfl rfl hs ?_;simp only[cN];refine Ka9 ?_;refine aE ?_;refine aX (λ c5=>?_) (λ c5=>?_);·exact nv c5
 ·try (first|contradiction|(exfalso;omega))
  refine Kd9 ?_;(refine aH (aW.cX (Fh (ns:=ns) rf rf .head rfl (by decide) dY (by kernel_rfl) (by show ns.length+5<=_;omega)) jK) (λ x9=>?_);try (refine dQ (λ h9=>?_)));refine J1 ?_;refine bJ results124 (λ w hw=>?_);exact⟨(x9.1,ns++fU ⟨#[102,97,108,115,101]⟩,x9.2),rfl,⟨by simp[fU],by simp[fU]⟩,hw.ret (List.Sublist.refl _) bM.nil (List.Sublist.refl _)⟩
theorem I5(hl:ns.length<=1000000)(hs:SF w D [] A [] [⟨p,oO ns,c,5,1⟩] w):Calls prog 78 #[.slice p ns.length c,.bool false] w (ApQ p ns c D w):=by refine enter func78 ntmps78 rfl rfl hs ?_;simp only[cN];refine eD ?_;refine lV ?_;refine aI (cM (V:=λ x:Option Addr×List Int×Nat=>.slice x.1 x.2.1.length x.2.2) (hs:=[]) (os:=[⟨p,oO ns,c,5,1⟩]) (A0:=[]) (hs':=λ _=>[]) (os':=λ x=>[⟨x.1,oO x.2.1,x.2.2,5,1⟩]) (Fc:=λ _=>[]) (hc:=λ w1 hw=>Yv hl hw)) (λ x7 h7=>?_);refine J1 ?_;refine bJ results78 (λ w hw=>?_);exact⟨x7,rfl,h7,hw.ret (List.Sublist.refl _) bM.nil (List.Sublist.refl _)⟩
end
end
end Go.Proofs.YtdeecdfockjoiaaGreatDoor
namespace Go.Ct
open Go Go.RowKit
section
theorem ag(P:Program){w:World}{r:Nat}{es:List MapEntry}{clock:Nat}(t:TypeId)(hb:w.heap[r]?=some (cQ es clock)) :
  (Extern.MapsClone.clone #[.iface t (.map (some r))]).run P w=.ok (.iface t (.map (some w.heap.size))) (w.alloc (cQ es clock)):=by
 have e:Extern.MapsClone.clone #[.iface t (.map (some r))]=(getObj r >>= λ o=>match o with
   | .map entries clock=>(newObj (.map entries clock) >>= λ n=>pure (.iface t (.map (some n))))
   | _=>stuck "maps.clone: a map expected"):=rfl
 rw[e];simp[MapKept.run_getObj_map hb,Result.andThen,go_sem]
section
variable{P:Program}{S:List (Nat×Value)}{G:World->Prop}{d:Nat}{ty t xT K E:TypeId}{pos:String}{af:Array Edge}{gd:Option (Nat×Bool)}{x:Operand}{v:Value}
theorem X3(hx:ev S x=.iface t v)(h:P.underlying t=some (.map K E)):aN P S G ⟨some d,.typeAssert x xT t false,ty,pos,af,gd⟩ v:=⟨λ w _=>by simp[execOp,hx,Instr.typeAssert,run_underlying h,go_sem,Result.andThen]⟩
theorem q8{w0:World}{M:List Nat}{H H':List (Nat×Obj)}{y z:Operand}{b i c:Nat}{dK:TypeDesc}{k:Value}{es:List MapEntry}(hx:ev S x=.map (some b))(hy:ev S y=k)(hz:ev S z=v)(ha:At H i b (cQ es c))(hu:P.underlying t=some (.map K E))(hd:P.underlying K=some dK)(hk:Go.MapKept.IsKey dK k)(hr:Instr.findNow dK k es 0=some none)(hH:setAt H i (cQ (es++[⟨k,v,c⟩]) (c+1))=H') :
  aW P S (St w0 M H) ⟨none,.insert t x y z,ty,pos,af,gd⟩ Unit (λ _=>undef) (λ _=>St w0 M H') :=
 lK λ w hw=>by
  subst hH;have hb:=hw.at ha;obtain⟨h1,h2⟩:=MapKept.heap_set (o':=cQ (es++[⟨k,v,c⟩]) (c+1)) hb
  exact⟨{w with heap:=w.heap.setIfInBounds b (cQ (es++[⟨k,v,c⟩]) (c+1))},by simp[execOp,hx,hy,hz,Ia hb hu hd hk hr],hw.write ha rfl rfl rfl (by simp) (λ k hk=>h2 k hk) h1⟩
end
end
end Go.Ct
namespace Go.Proofs.YtdeecdfockjoiaaGreatDoor
open Go.Proofs.Tryz
open Go Go.RowKit Go.Ct
section
theorem Si{S:List (Nat×Value)}{w0:World}{M:List Nat}{H:List (Nat×Obj)}{d:Nat}{ty t:TypeId}{pos:String}{af:Array Edge}{gd:Option (Nat×Bool)}{x:Operand}{at_:Array TypeId}{b i c:Nat}{es:List MapEntry}(hx:ev S x=.iface t (.map (some b)))(ha:At H i b (cQ es c)) :
  aW prog S (St w0 M H) ⟨some d,.call {callee:=.value (.func 126),args := #[x],argTypes:=at_},ty,pos,af,gd⟩ Nat (λ n=>.iface t (.map (some n))) (λ n=>St w0 M ((n,cQ es c)::H)) :=
 gS λ w hw=>⟨w.heap.size,_,by
  have hr:=run_callFunc_extern (P:=prog) (f:=126) (e:=Extern.MapsClone.clone) func126 (by kernel_rfl) (by kernel_rfl) (by kernel_rfl) (by kernel_rfl) #[.iface t (.map (some b))] w;have he:ev S (.func 126)=.func (.func 126) #[] #[]:=rfl
  simp[execOp,resolve,Deferred.ofValue,invoke,hx,he,hr,ag prog t (hw.at ha),Result.andThen],hw.alloc _⟩
structure S2 where
 b:Nat
 bm:Nat
 bi:Nat
 bv:Nat
abbrev S5(bv:Nat):List MapEntry:=[⟨.int .i64 0,.agg ⟨[.map (some bv),.bool false]⟩,0⟩]
abbrev lB(f:S2)(ve:List MapEntry)(vc:Nat):List (Nat×Obj):=[(f.b,.cells ⟨[.int .u64 63,.map (some f.bm),.map (some f.bi)]⟩ 153 (0,0)),(f.bm,cQ (S5 f.bv) 1),(f.bi,cQ [] 0),(f.bv,cQ ve vc)]
section
variable{w:World}{D:List Nat}{A:Fr}{b c:Nat}{es:List MapEntry}
theorem uv(w:World):Calls prog 38 #[.int .u64 63] w λ e w'=>∃f:S2,e=.returned (pt f.b)/\True/\SF w [] (lB f [] 0) [] [] [] w':=by refine enter func38 ntmps38 rfl rfl (SF.s0 w) ?_;simp only[cN];refine Kd3 ?_;refine aH (cC λ _=>mQ) (λ x4=>?_);refine aH (cC λ _=>mQ) (λ x5=>?_);refine cI ?_;refine aM (cC λ _=>q8 (K:=3) (E:=149) (dK:=.int .i64) (k:=.int .i64 0) (v:=.agg ⟨[.map (some x5),.bool false]⟩) (es:=[]) (c:=0) rf rf rf bI (by kernel_rfl) (by kernel_rfl) rfl rfl dM) (λ _=>?_);refine aB ?_;refine aH (cC λ _=>mQ) (λ x8=>?_);refine cI ?_;refine bC (λ x10=>?_);refine J1 ?_;refine bJ results38 (λ w hw=>?_);exact⟨⟨x10,x4,x8,x5⟩,rfl,trivial,(hw.perm (H':=[(x10,.cells ⟨[.int .u64 63,.map (some x4),.map (some x8)]⟩ 153 (0,0)),(x4,cQ (S5 x5) 1),(x8,cQ [] 0),(x5,cQ [] 0)]) ((List.perm_append_comm (l₁:=[(x4,cQ (S5 x5) 1)]) (l₂:=[(x8,cQ [] 0),(x5,cQ [] 0)])).cons _) (List.Perm.refl _)).fS⟩
end
end
end Go.Proofs.YtdeecdfockjoiaaGreatDoor
namespace Go.Ct
open Go Go.RowKit
section
theorem Pq{α:Type}:∀H:List α,((List.range H.length).flatMap λ i=>(H.drop i).take 1)=H
 | []=>rfl
 | x::H=>by
  rw[List.length_cons,List.range_succ_eq_map,List.flatMap_cons,List.flatMap_map];show x::((List.range H.length).flatMap λ i=>(H.drop i).take 1)=x::H
  rw[Pq H]
theorem SF.pick{w0 w:World}{M:List Nat}{H:List (Nat×Obj)}{A F:Fr}{O:List Ow}(is js:List Nat)(n:Nat)(h:SF w0 M H A F O w)(hn:H.length=n:=by rfl)(hp:(List.range n).Perm (is++js):=by decide):SF w0 M (is.flatMap λ i=>(H.drop i).take 1) A F O w:=by
 have p:H.Perm ((is++js).flatMap λ i=>(H.drop i).take 1):=by have:=List.Perm.flatMap_right (λ i=>(H.drop i).take 1) hp;rw[<- hn,Pq] at this;exact this
 rw[List.flatMap_append] at p;exact(h.perm p.symm (List.Perm.refl _)).sub (List.sublist_append_left _ _) bM.all (List.Sublist.refl _)
end
end Go.Ct
namespace Go.Proofs.YtdeecdfockjoiaaGreatDoor
open Go.Proofs.Tryz
open Go Go.RowKit Go.Ct
section
theorem zt(n:Nat)(w:World):(Instr.makeInterface 147 (.map (some n))).run prog w=.ok (.iface 147 (.map (some n))) w:=by kernel_rfl
theorem aBN(n:Nat)(w:World):(Instr.makeInterface 151 (.map (some n))).run prog w=.ok (.iface 151 (.map (some n))) w:=by kernel_rfl
section
variable{w:World}{D:List Nat}{A:Fr}{b c vc:Nat}{es ve:List MapEntry}{u:S2}
theorem gl(hs:SF w D [(b,cQ es c)] A [] [] w):Calls prog 81 #[.map (some b)] w λ e w'=>∃n:Nat,e=.returned (.map (some n))/\True/\SF w D ([(b,cQ es c)]++[(n,cQ es c)]) [] [] [] w':=by
 refine enter func81 ntmps81 rfl rfl hs ?_;simp only[cN];refine Ka9 ?_;refine aA (F5 (K:=9) (E:=23) rf rf (by kernel_rfl)) rfl ?_;refine aE ?_;refine aX (λ c4=>?_) (λ c4=>?_);·exact nomatch c4
 ·refine Kd9 ?_;refine aA (ov rf (zt _)) rfl ?_;(refine aH (cC λ _=>Si rf bI) (λ x7=>?_));refine aA (X3 (K:=9) (E:=23) rf (by kernel_rfl)) rfl ?_;refine J1 ?_;refine bJ results81 (λ w hw=>?_);exact⟨x7,rfl,trivial,(hw.perm (List.Perm.swap _ _ _) (List.Perm.refl _)).ph⟩
theorem Qa(hs:SF w D [(b,cQ es c)] A [] [] w):Calls prog 80 #[.map (some b)] w λ e w'=>∃n:Nat,e=.returned (.map (some n))/\True/\SF w D ([(b,cQ es c)]++[(n,cQ es c)]) [] [] [] w':=by
 refine enter func80 ntmps80 rfl rfl hs ?_;simp only[cN];refine Ka9 ?_;refine aA (F5 (K:=3) (E:=186) rf rf (by kernel_rfl)) rfl ?_;refine aE ?_;refine aX (λ c4=>?_) (λ c4=>?_);·exact nomatch c4
 ·refine Kd9 ?_;refine aA (ov rf (aBN _)) rfl ?_;(refine aH (cC λ _=>Si rf bI) (λ x7=>?_));refine aA (X3 (K:=3) (E:=186) rf (by kernel_rfl)) rfl ?_;refine J1 ?_;refine bJ results80 (λ w hw=>?_);exact⟨x7,rfl,trivial,(hw.perm (List.Perm.swap _ _ _) (List.Perm.refl _)).ph⟩
set_option maxRecDepth 100000 in
theorem Ib(hs:SF w D (lB u ve vc) A [] [] w):Calls prog 55 #[pt u.b] w λ e w'=>∃g:S2,e=.returned (pt g.b)/\True/\SF w D (lB u ve vc++lB g ve vc) [] [] [] w':=by
 refine enter func55 ntmps55 rfl rfl hs ?_;simp only[cN];refine Uh ?_;refine nX [3,6,7,8,9,10,11,12,13,14,15,16,17,18,19,20,21,22] (λ j:Nat×Nat×Nat=>[(3,pt j.1)]) (λ _=>True) (λ j=>[(j.1,.cells ⟨[.int .u64 63,.map (some j.2.1),.map (some j.2.2)]⟩ 153 (0,0)),(j.2.1,cQ [] 0),(j.2.2,cQ [] 0)]++lB u ve vc) (λ _=>[]) (λ _=>[]) (by decide) (λ _=>by exact rfl) ?_ (λ j f hx=>?_)
 ·refine kR (.one 0 [] (.one 1 [] (.one 2 [] (.one 3 [] (.one 4 [] (.one 5 [] (.one 6 [] (.one 7 [] (.one 8 [] (.one 10 [] (.one 11 [] (.one 12 [] (.one 13 [] (.two 9 [3,13] (.one 14 [3] (.one 15 [] (.one 16 [] (.one 17 [] .nil)))) 0 [] (.two 14 [3] (.one 9 [3,13] (.one 15 [] (.one 16 [] (.one 17 [] .nil)))) 0 [] .nil))))))))))))))) ?_;refine Y0 ?_;refine aS (i:=8) (hq:=(iE (Vj (K:=3) (E:=149) rf bI (by kernel_rfl)))) (h:=?_);refine mD ?_;refine jF (E:=[9,14]) (by decide +kernel) ((.cons ?_ (.cons ?_ .nil)));·refine lN (i:=9) (hq:=(cC λ _=>Ih (K:=3) (E:=149) (n:=1) rf (by kernel_rfl))) (h:=λ x15=>?_);refine bE (i:=14) (hq:=(Og (V:=λ n:Nat=>.map (some n)) (hs:=[(u.bi,cQ [] 0)]) (os:=[]) (hs':=λ _=>[(u.bi,cQ [] 0)]) (Hc:=λ n=>[(n,cQ [] 0)]) (os':=λ _=>[]) (Oc:=λ _=>[]) (Fc:=λ _=>[]) (A0:=[]) (hc:=λ w1 hw=>Qa hw))) (h:=λ x20 h20=>?_);refine iZ ?_;refine Ey (h:=λ x22=>?_);refine J7 ?_;refine lZ ((x22,x15,x20)) ?_ (hw1:=λ w hw=>by exact(hw.perm ((List.Perm.swap _ _ _).cons _) (List.Perm.refl _)).back (hH:=E1h) (hF:=by exact bM.nil) (hO:=E0x));·trivial
  ·refine nM (i:=14) (hq:=(Og (V:=λ n:Nat=>.map (some n)) (hs:=[(u.bi,cQ [] 0)]) (os:=[]) (hs':=λ _=>[(u.bi,cQ [] 0)]) (Hc:=λ n=>[(n,cQ [] 0)]) (os':=λ _=>[]) (Oc:=λ _=>[]) (Fc:=λ _=>[]) (A0:=[]) (hc:=λ w1 hw=>Qa hw))) (h:=λ x20 h20=>?_);refine bR (i:=9) (hq:=(cC λ _=>Ih (K:=3) (E:=149) (n:=1) rf (by kernel_rfl))) (h:=λ x15=>?_);refine iZ ?_;refine Ey (h:=λ x22=>?_);refine J7 ?_;refine lZ ((x22,x15,x20)) ?_ (hw1:=λ w hw=>by exact hw.back (hH:=E1h) (hF:=by exact bM.nil) (hO:=E0x));·trivial
 refine K0c ?_;refine aL ?_;refine qQ ?_;refine aH (cC λ _=>I4 (K:=3) (E:=149) rf bI (by kernel_rfl)) (λ x27=>?_);refine Kb6 ?_;refine dC ?_;refine J0 ?_;refine aH (cC λ _=>Q2 (e:=⟨.int .i64 0,.agg ⟨[.map (some u.bv),.bool false]⟩,0⟩) rf bI bI (by simp) (by decide) (by kernel_rfl) dM) (λ x28=>?_);refine kL ?_;refine pJ ?_;refine aX (λ c29=>?_) (λ c29=>?_)
 ·refine bG ?_;refine bB ?_;refine J0 ?_;refine aA (iE (Xk (e:=⟨.int .i64 0,.agg ⟨[.map (some u.bv),.bool false]⟩,0⟩) rf bI bI (by simp) (by simp))) rfl ?_;refine J54 ?_;refine aJ (λ x5=>?_);refine cO (λ _=>?_);refine J5 ?_;refine eO [(0,[]),(1,[]),(2,[]),(3,[]),(4,[]),(5,[]),(6,[]),(8,[]),(9,[]),(7,[3,9]),(10,[]),(11,[])] ?_;refine Kd4 ?_;refine Kc6 ?_;refine bE (i:=7) (hq:=(Og (V:=λ n:Nat=>.map (some n)) (hs:=[(u.bv,cQ ve vc)]) (os:=[]) (hs':=λ _=>[(u.bv,cQ ve vc)]) (Hc:=λ n=>[(n,cQ ve vc)]) (os':=λ _=>[]) (Oc:=λ _=>[]) (Fc:=λ _=>[]) (A0:=[]) (hc:=λ w1 hw=>gl hw))) (h:=λ x40 h40=>?_);refine iZ ?_;refine eT (i:=11) (hq:=(cC λ _=>Nf (K:=3) (E:=149) (dK:=.int .i64) (k:=.int .i64 0) (v:=.agg ⟨[.map (some x40),.bool false]⟩) (es:=[]) (c:=0) rf rf rf bI (by kernel_rfl) (by kernel_rfl) rfl rfl dM)) (h:=λ _=>?_);refine dA ?_;refine eN ?_;refine bZ ?_;refine K2u ?_;refine aX (λ c29=>?_) (λ c29=>?_);·exact nv c29
  ·refine K1z ?_;refine Kd6 ?_;refine bJ results55 (λ w hw=>?_);exact⟨⟨j.1,j.2.1,j.2.2,x40⟩,rfl,trivial,(hw.pick [6,7,8,9,3,4,5,0] [1,2] 10).ph⟩
 ·exact nv c29
end
end
end Go.Proofs.YtdeecdfockjoiaaGreatDoor
namespace Go.Ct
open Go Go.RowKit
section
theorem pK{P:Program}{S:List (Nat×Value)}{w0:World}{M:List Nat}{H:List (Nat×Obj)}{d:Nat}{ty t K E:TypeId}{pos:String}{af:Array Edge}{gd:Option (Nat×Bool)}{x y:Operand}{dK:TypeDesc}{k v ze:Value}{es:List MapEntry}{c i b:Nat}{r:Option (Nat×Value)}(hx:ev S x=.map (some b))(hy:ev S y=k)(ha:At H i b (cQ es c))(hu:P.underlying t=some (.map K E))(hd:P.underlying K=some dK)(hk:MapKept.IsKey dK k)(hz:cH P E=some ze)(hr:Instr.findNow dK k es 0=some r)(hv:(r.map Prod.snd).getD ze=v) :
  aN P S (St w0 M H) ⟨some d,.lookup t x y false,ty,pos,af,gd⟩ v:=hv▸Qg hx hy ha hu hd hk hz hr
end
end Go.Ct
namespace Go.Proofs.YtdeecdfockjoiaaGreatDoor
open Go.Proofs.Tryz
open Go Go.RowKit Go.Ct
section
def iV:Nat->List MapEntry
 | 0=>[]
 | 1=>[⟨.string gD,.int .u64 1,0⟩]
 | _=>[⟨.string gD,.int .u64 2,0⟩]
def jE:Nat->Nat
 | 0=>0
 | _=>1
section
variable{w:World}{D:List Nat}{A:Fr}{vc:Nat}{ve:List MapEntry}{u:S2}{o:jX}{a:Nat×Nat}
theorem ad(ho:o.kind=1∨o.kind=7)(h0:o.handle=0)(hk:o.key=gD)(hs:SF w D (lB u ve vc) A [] [] w):Calls prog 127 #[pt u.b,.agg ⟨o.cells⟩] w λ e w'=>e=.returned (.int .i64 0)/\SF w D (lB u ve vc) [] [] [] w':=by
 have hkz:o.key.size<=64:=by rw[hk];decide
 refine enter func127 ntmps127 rfl rfl hs ?_;simp only[cN];simp only[jX.cells,h0];refine K3f ?_;intro x3;refine lX ?_;refine eO [(0,[]),(1,[]),(2,[]),(3,[]),(4,[]),(5,[]),(6,[]),(7,[]),(8,[]),(9,[]),(10,[3,5,6]),(11,[]),(12,[])] ?_;refine mD ?_;refine hY ?_;refine aS (i:=6) (hq:=(iE (kH (K:=3) (E:=149) (dK:=.int .i64) (ze:=.agg ⟨[.map none,.bool false]⟩) (k:=.int .i64 0) (es:=S5 u.bv) (c:=1) (r:=some (0,.agg ⟨[.map (some u.bv),.bool false]⟩)) rf rf bI (by kernel_rfl) (by kernel_rfl) rfl (by kernel_rfl) rfl))) (h:=?_);refine Kc3 ?_;refine nY (hfire:=(λ _=>by((repeat (first|exact aR.nil|refine aR.cons (by first|exact dZ|exact cR (hq:=iE (kH (K:=3) (E:=149) (dK:=.int .i64) (ze:=.agg ⟨[.map none,.bool false]⟩) (k:=.int .i64 0) (es:=S5 u.bv) (c:=1) (r:=some (0,.agg ⟨[.map (some u.bv),.bool false]⟩)) rf rf bI (by kernel_rfl) (by kernel_rfl) rfl (by kernel_rfl) rfl))) ?_));done))) (h:=λ x5=>?_);refine S9 ?_;refine Kb9 ?_;refine aX (λ c18=>?_) (λ c18=>?_);·try (contradiction)
 ·try (first|contradiction|(exfalso;omega))
  refine lL ?_;refine jN ?_;refine yC ?_;refine aB ?_;(refine mN 22 (λ g22=>?_) (λ g22=>?_)<;>(try ((exfalso;omega)))<;>((refine aF ?_;refine aQ ?_)));((refine Kc5 ?_));((refine aF ?_;refine aH (cV (v:=.bool true) (hc:=λ w1 hw=>by have h1:=sA o.key w1;rw[show(decide (o.key.size<=64))=true by simp[hkz]] at h1;exact h1)) (λ x25=>?_)));refine Ke4 ?_;refine aX (λ c27=>?_) (λ c27=>?_);·exact nv c27
  ·try (first|contradiction|(exfalso;omega))
   refine lL ?_;refine K3i ?_;refine aX (λ c30=>?_) (λ c30=>?_)
   ·try (first|contradiction|(exfalso;omega))
    refine bG ?_;refine aX (λ c30=>?_) (λ c30=>?_)
    ·try (first|contradiction|(exfalso;omega))
     refine jN ?_;refine aE ?_;refine aX (λ c39=>?_) (λ c39=>?_);·exact nv c39
     ·try (first|contradiction|(exfalso;omega))
      refine Ke6 ?_;refine bJ results127 (λ w hw=>?_);exact⟨rfl,hw.ret E0a (bM.dB λ f hf=>hf) (List.Sublist.refl _)⟩
    ·try (contradiction)
   ·try (first|contradiction|(exfalso;omega))
    refine kT ?_;refine aX (λ c30=>?_) (λ c30=>?_);·try ((exfalso;omega))
    ·try (first|contradiction|(exfalso;omega))
     refine kT ?_;refine aX (λ c30=>?_) (λ c30=>?_);·try ((exfalso;omega))
     ·try (first|contradiction|(exfalso;omega))
      refine kT ?_;refine aX (λ c30=>?_) (λ c30=>?_);·try ((exfalso;omega))
      ·try (first|contradiction|(exfalso;omega))
       refine kT ?_;refine aX (λ c30=>?_) (λ c30=>?_);·try ((exfalso;omega))
       ·try (first|contradiction|(exfalso;omega))
        refine kT ?_;refine aX (λ c30=>?_) (λ c30=>?_);·try ((exfalso;omega))
        ·try (first|contradiction|(exfalso;omega))
         refine eC ?_;refine Sx ?_;refine aX (λ c30=>?_) (λ c30=>?_);·try ((exfalso;omega))
         ·try (first|contradiction|(exfalso;omega))
          refine Kd5 ?_;refine aX (λ c40=>?_) (λ c40=>?_);·try ((exfalso;omega))
          ·try (first|contradiction|(exfalso;omega))
           refine eC ?_;refine Sx ?_;refine aX (λ c40=>?_) (λ c40=>?_);·try ((exfalso;omega))
           ·try (first|contradiction|(exfalso;omega))
            refine Ke6 ?_;refine bJ results127 (λ w hw=>?_);exact⟨rfl,hw.ret E0a (bM.dB λ f hf=>hf) (List.Sublist.refl _)⟩
end
end
section
section
variable{w:World}{D:List Nat}{A:Fr}{vc bv:Nat}{ve:List MapEntry}{u:S2}{o:jX}{a:Nat×Nat}
theorem aDR(a:Nat×Nat)(ha:In3 a):a.1<8/\a.2<16:=by rcases ha with rfl|rfl|rfl<;>decide
theorem aCh(a:Nat×Nat)(ha:In3 a):((Cm a).kind=1∨(Cm a).kind=7)/\(Cm a).handle=0/\(Cm a).key=gD:=by rcases ha with rfl|rfl|rfl<;>exact⟨by decide,rfl,rfl⟩
theorem aCv(a:Nat×Nat)(bv:Nat):Instr.findNow (.int .i64) (.int .i64 ((1+a.1*16+a.2:Nat):Int)) (S5 bv) 0=some none:=by
 have hne:((((1+a.1*16+a.2:Nat):Int))==(0:Int))=false:=by simp;omega
 show(match(if IntKind.i64=IntKind.i64 then some ((((1+a.1*16+a.2:Nat):Int))==(0:Int)) else none) with|some true=>_|some false=>Instr.findNow (.int .i64) _ [] 1|none=>_)=_;rw[if_pos rfl,hne];rfl
theorem vY(ha:In3 a)(hs:SF w D (lB u ve vc) A [] [] w):Calls prog 82 #[pt u.b,.int .i64 (a.1:Int),.int .i64 (a.2:Int),.agg ⟨(Cm a).cells⟩] w λ e w'=>e=.returned (.int .i64 0)/\SF w D (lB u ve vc) [] [] [] w':=by
 obtain⟨hn1,hn2⟩:=aDR a ha;obtain⟨hk1,hk2,hk3⟩:=aCh a ha;have hfa:=aCv a u.bv;refine enter func82 ntmps82 rfl rfl hs ?_;simp only[cN]
 simp only[jX.cells];refine J0 ?_;refine bC (λ x7=>?_);refine Jo ?_;refine aH (cV (hc:=λ w1 hw=>kD hn1 hn2 w1)) (λ x19=>?_);refine Kc7 ?_;refine Ph ?_;(refine aF ?_;refine aQ ?_);refine J89 ?_;refine aB ?_;(refine mN 27 (λ g27=>?_) (λ g27=>?_)<;>(try ((exfalso;omega)))<;>((refine aF ?_;refine aQ ?_)));((refine Kc5 ?_));refine w9 ?_;refine aE ?_;refine aX (λ c31=>?_) (λ c31=>?_);·try ((exfalso;omega))
 ·try (first|contradiction|(exfalso;omega))
  refine lL ?_;refine jN ?_;refine E2 ?_;refine aX (λ c34=>?_) (λ c34=>?_);·try ((exfalso;omega))
  ·try (first|contradiction|(exfalso;omega))
   refine J2 ?_;refine bO ?_;refine aI (cM (φ:=λ _=>True) (V:=λ _:Unit=>.int .i64 0) (hs:=lB u ve vc) (os:=[]) (A0:=[]) (hs':=λ _=>lB u ve vc) (os':=λ _=>[]) (Fc:=λ _=>[]) (hc:=λ w1 hw=>(ad hk1 hk2 hk3 hw).mono λ _ _ ⟨e,h⟩=>⟨(),e,trivial,h⟩)) (λ x55 h55=>?_);refine Kb7 ?_;refine Kc0 ?_;refine aX (λ c57=>?_) (λ c57=>?_);·exact nv c57
   ·try (first|contradiction|(exfalso;omega))
    refine bk ?_;refine aB ?_;refine aA (iE (kH (K:=3) (E:=149) (dK:=.int .i64) (ze:=.agg ⟨[.map none,.bool false]⟩) (k:=.int .i64 ((1+a.1*16+a.2:Nat):Int)) (es:=S5 u.bv) (c:=1) (r:=none) rf rf bI (by kernel_rfl) (by kernel_rfl) rfl (by kernel_rfl) hfa)) rfl ?_;refine Ez ?_;refine aJ (λ x13=>?_);refine Px ?_;refine qQ ?_;refine aB ?_;refine aA (iE (kH (K:=3) (E:=186) (dK:=.int .i64) (ze:=.agg ⟨[.int .i64 0,.int .i64 0,.int .i64 0]⟩) (k:=.int .i64 ((1+a.1*16+a.2:Nat):Int)) (es:=[]) (c:=0) (r:=none) rf rf bI (by kernel_rfl) (by kernel_rfl) rfl (by kernel_rfl) rfl)) rfl ?_;refine Ez ?_;refine aJ (λ x15=>?_);refine oW (λ _=>?_);refine lX ?_;refine lV ?_;(refine Ka2 ?_);refine Kb1 ?_;refine aX (λ c80=>?_) (λ c80=>?_);·exact nv c80
    ·try (first|contradiction|(exfalso;omega))
     refine bG ?_;refine eD ?_;refine bJ results82 (λ w hw=>?_);exact⟨rfl,hw.ret E0a bM.nil (List.Sublist.refl _)⟩
theorem iw(hs:SF w D [(bv,cQ (iV 0) (jE 0))] A [] [] w):Calls prog 83 #[.agg ⟨[.map (some bv),.bool false]⟩,.agg ⟨(Cm (0,0)).cells⟩] w λ e w'=>e=.returned (.agg ⟨(gP false 0).cells⟩)/\SF w D [(bv,cQ (iV 1) (jE 1))] [] [] [] w':=by
 refine enter func83 ntmps83 rfl rfl hs ?_;simp only[cN];simp only[jX.cells,Cm];refine J0 ?_;refine bC (λ x2=>?_);refine bC (λ x3=>?_);refine aJ (λ x4=>?_);refine aE ?_;refine jN ?_;refine J3 ?_;refine aA (iE (kH (K:=9) (E:=23) (dK:=.string) (ze:=.int .u64 0) (k:=.string gD) (es:=[]) (c:=0) (r:=none) rf rf bI (by kernel_rfl) (by kernel_rfl) trivial (by kernel_rfl) rfl)) rfl ?_;refine Ez ?_;refine J8 ?_;refine lV ?_;refine cI ?_;refine aJ (λ x7=>?_);refine J5 ?_;refine eD ?_;refine Ga ?_;refine Kb6 ?_;refine kT ?_;refine aX (λ c22=>?_) (λ c22=>?_);·exact nv c22
 ·try (first|contradiction|(exfalso;omega))
  refine kT ?_;refine aX (λ c26=>?_) (λ c26=>?_);·exact nv c26
  ·try (first|contradiction|(exfalso;omega))
   refine kT ?_;refine aX (λ c29=>?_) (λ c29=>?_);·exact nv c29
   ·try (first|contradiction|(exfalso;omega))
    refine rL ?_;refine gQ ?_;refine aE ?_;refine aX (λ c38=>?_) (λ c38=>?_)
    ·try (first|contradiction|(exfalso;omega))
     refine jN ?_;refine J3 ?_;refine J3 ?_;refine aM (cC λ _=>Nf (K:=9) (E:=23) (dK:=.string) (k:=.string gD) (v:=.int .u64 1) (es:=[]) (c:=0) rf rf rf bI (by kernel_rfl) (by kernel_rfl) trivial rfl dM) (λ _=>?_);refine aE ?_;refine eC ?_;refine Qd ?_;refine Ke7 ?_;refine bF results83 (λ w hw=>?_);exact⟨rfl,hw.ret E0a bM.nil (List.Sublist.refl _)⟩
    ·exact nv c38
theorem fj(hs:SF w D [(bv,cQ (iV 1) (jE 1))] A [] [] w):Calls prog 83 #[.agg ⟨[.map (some bv),.bool false]⟩,.agg ⟨(Cm (1,0)).cells⟩] w λ e w'=>e=.returned (.agg ⟨(gP true 1).cells⟩)/\SF w D [(bv,cQ (iV 2) (jE 2))] [] [] [] w':=by
 refine enter func83 ntmps83 rfl rfl hs ?_;simp only[cN];simp only[jX.cells,Cm];refine J0 ?_;refine bC (λ x2=>?_);refine bC (λ x3=>?_);refine aJ (λ x4=>?_);refine aE ?_;refine jN ?_;refine J3 ?_;refine aA (iE (kH (K:=9) (E:=23) (dK:=.string) (ze:=.int .u64 0) (k:=.string gD) (es:=iV 1) (c:=1) (r:=some (0,.int .u64 1)) rf rf bI (by kernel_rfl) (by kernel_rfl) trivial (by kernel_rfl) (by kernel_rfl))) rfl ?_;refine Ez ?_;refine J8 ?_;refine lV ?_;refine cI ?_;refine aJ (λ x7=>?_);refine J5 ?_;refine eD ?_;refine Ga ?_;refine Kb6 ?_;refine kT ?_;refine aX (λ c22=>?_) (λ c22=>?_);·exact nv c22
 ·try (first|contradiction|(exfalso;omega))
  refine kT ?_;refine aX (λ c26=>?_) (λ c26=>?_);·exact nv c26
  ·try (first|contradiction|(exfalso;omega))
   refine kT ?_;refine aX (λ c29=>?_) (λ c29=>?_);·exact nv c29
   ·try (first|contradiction|(exfalso;omega))
    refine rL ?_;refine gQ ?_;refine aE ?_;refine aX (λ c38=>?_) (λ c38=>?_)
    ·try (first|contradiction|(exfalso;omega))
     refine jN ?_;refine J3 ?_;refine J3 ?_;refine aM (cC λ _=>kx (K:=9) (E:=23) (dK:=.string) (k:=.string gD) (v:=.int .u64 2) (es:=iV 1) (c:=1) (j:=0) (u:=.int .u64 1) (e:=⟨.string gD,.int .u64 1,0⟩) rf rf rf bI (by kernel_rfl) (by kernel_rfl) trivial (by kernel_rfl) rfl rfl dM) (λ _=>?_);refine aE ?_;refine eC ?_;refine Qd ?_;refine Ke7 ?_;refine bF results83 (λ w hw=>?_);exact⟨rfl,hw.ret E0a bM.nil (List.Sublist.refl _)⟩
    ·exact nv c38
theorem zJ(hs:SF w D (lB u (iV 0) (jE 0)) A [] [] w):Calls prog 56 #[pt u.b,.int .i64 0,.int .i64 0,.agg ⟨(Cm (0,0)).cells⟩] w λ e w'=>e=.returned (.agg ⟨(gP false 0).cells⟩)/\SF w D (lB u (iV 1) (jE 1)) [] [] [] w':=by
 refine enter func56 ntmps56 rfl rfl hs ?_;simp only[cN];simp only[jX.cells,Cm];refine K3t ?_;intro x7 x8;refine aI (cM (φ:=λ _=>True) (V:=λ _:Unit=>.int .i64 0) (hs:=lB u (iV 0) (jE 0)) (os:=[]) (A0:=[]) (hs':=λ _=>lB u (iV 0) (jE 0)) (os':=λ _=>[]) (Fc:=λ _=>[]) (hc:=λ w1 hw=>(vY (a:=(0,0)) (.inl rfl) hw).mono λ _ _ ⟨e,h⟩=>⟨(),e,trivial,h⟩)) (λ x18 h18=>?_);refine Kb7 ?_;refine Kc0 ?_;refine aX (λ c20=>?_) (λ c20=>?_);·exact nv c20
 ·try (first|contradiction|(exfalso;omega))
  refine yO ?_;refine aH (cV (v:=.int .i64 1) (hc:=λ w1 hw=>kD (k:=0) (i:=0) (by decide) (by decide) w1)) (λ x25=>?_);refine K0l ?_;refine nY (hfire:=E0g) (h:=λ x11=>?_);refine eT (i:=8) (hq:=(cC λ _=>aC (cs:=[.map (some u.bv),.bool false]) rf bI rf rfl (by kernel_rfl) rf dM)) (h:=λ _=>?_);refine dA ?_;refine Ga ?_;refine Kb6 ?_;refine Kd5 ?_;refine aX (λ c35=>?_) (λ c35=>?_)
  ·try (first|contradiction|(exfalso;omega))
   refine bG ?_;refine aX (λ c35=>?_) (λ c35=>?_)
   ·try (first|contradiction|(exfalso;omega))
    refine oT ?_;refine bO ?_;refine aI (cM (φ:=λ _=>True) (V:=λ _:Unit=>.agg ⟨(gP false 0).cells⟩) (hs:=[(u.bv,cQ (iV 0) (jE 0))]) (os:=[]) (A0:=[]) (hs':=λ _=>[(u.bv,cQ (iV 1) (jE 1))]) (os':=λ _=>[]) (Fc:=λ _=>[]) (hc:=λ w1 hw=>(iw hw).mono λ _ _ ⟨e,h⟩=>⟨(),e,trivial,h⟩)) (λ x42 h42=>?_);refine J5 ?_;refine bF results56 (λ w hw=>?_);exact⟨rfl,hw.ret E0a bM.nil (List.Sublist.refl _)⟩
   ·exact nv c35
  ·exact nv c35
theorem Aa(hs:SF w D (lB u (iV 1) (jE 1)) A [] [] w):Calls prog 56 #[pt u.b,.int .i64 1,.int .i64 0,.agg ⟨(Cm (1,0)).cells⟩] w λ e w'=>e=.returned (.agg ⟨(gP true 1).cells⟩)/\SF w D (lB u (iV 2) (jE 2)) [] [] [] w':=by
 refine enter func56 ntmps56 rfl rfl hs ?_;simp only[cN];simp only[jX.cells,Cm];refine K3t ?_;intro x7 x8;refine aI (cM (φ:=λ _=>True) (V:=λ _:Unit=>.int .i64 0) (hs:=lB u (iV 1) (jE 1)) (os:=[]) (A0:=[]) (hs':=λ _=>lB u (iV 1) (jE 1)) (os':=λ _=>[]) (Fc:=λ _=>[]) (hc:=λ w1 hw=>(vY (a:=(1,0)) (.inr (.inl rfl)) hw).mono λ _ _ ⟨e,h⟩=>⟨(),e,trivial,h⟩)) (λ x18 h18=>?_);refine Kb7 ?_;refine Kc0 ?_;refine aX (λ c20=>?_) (λ c20=>?_);·exact nv c20
 ·try (first|contradiction|(exfalso;omega))
  refine yO ?_;refine aH (cV (v:=.int .i64 17) (hc:=λ w1 hw=>kD (k:=1) (i:=0) (by decide) (by decide) w1)) (λ x25=>?_);refine K0l ?_;refine nY (hfire:=E0g) (h:=λ x11=>?_);refine eT (i:=8) (hq:=(cC λ _=>aC (cs:=[.map (some u.bv),.bool false]) rf bI rf rfl (by kernel_rfl) rf dM)) (h:=λ _=>?_);refine dA ?_;refine Ga ?_;refine Kb6 ?_;refine Kd5 ?_;refine aX (λ c35=>?_) (λ c35=>?_)
  ·try (first|contradiction|(exfalso;omega))
   refine bG ?_;refine aX (λ c35=>?_) (λ c35=>?_)
   ·try (first|contradiction|(exfalso;omega))
    refine oT ?_;refine bO ?_;refine aI (cM (φ:=λ _=>True) (V:=λ _:Unit=>.agg ⟨(gP true 1).cells⟩) (hs:=[(u.bv,cQ (iV 1) (jE 1))]) (os:=[]) (A0:=[]) (hs':=λ _=>[(u.bv,cQ (iV 2) (jE 2))]) (os':=λ _=>[]) (Fc:=λ _=>[]) (hc:=λ w1 hw=>(fj hw).mono λ _ _ ⟨e,h⟩=>⟨(),e,trivial,h⟩)) (λ x42 h42=>?_);refine J5 ?_;refine bF results56 (λ w hw=>?_);exact⟨rfl,hw.ret E0a bM.nil (List.Sublist.refl _)⟩
   ·exact nv c35
  ·exact nv c35
theorem zF(hs:SF w D (lB u (iV 2) (jE 2)) A [] [] w):Calls prog 56 #[pt u.b,.int .i64 1,.int .i64 1,.agg ⟨(Cm (1,1)).cells⟩] w λ e w'=>e=.returned (.agg ⟨(eG true 2).cells⟩)/\SF w D (lB u (iV 2) (jE 2)) [] [] [] w':=by
 refine enter func56 ntmps56 rfl rfl hs ?_;simp only[cN];simp only[jX.cells,Cm];refine K3t ?_;intro x7 x8;refine aI (cM (φ:=λ _=>True) (V:=λ _:Unit=>.int .i64 0) (hs:=lB u (iV 2) (jE 2)) (os:=[]) (A0:=[]) (hs':=λ _=>lB u (iV 2) (jE 2)) (os':=λ _=>[]) (Fc:=λ _=>[]) (hc:=λ w1 hw=>(vY (a:=(1,1)) (.inr (.inr rfl)) hw).mono λ _ _ ⟨e,h⟩=>⟨(),e,trivial,h⟩)) (λ x18 h18=>?_);refine Kb7 ?_;refine Kc0 ?_;refine aX (λ c20=>?_) (λ c20=>?_);·exact nv c20
 ·try (first|contradiction|(exfalso;omega))
  refine yO ?_;refine aH (cV (v:=.int .i64 18) (hc:=λ w1 hw=>kD (k:=1) (i:=1) (by decide) (by decide) w1)) (λ x25=>?_);refine K0l ?_;refine nY (hfire:=E0g) (h:=λ x11=>?_);refine eT (i:=8) (hq:=(cC λ _=>aC (cs:=[.map (some u.bv),.bool false]) rf bI rf rfl (by kernel_rfl) rf dM)) (h:=λ _=>?_);refine dA ?_;refine Ga ?_;refine Kb6 ?_;refine Kd5 ?_;refine aX (λ c35=>?_) (λ c35=>?_);·exact nv c35
  ·try (first|contradiction|(exfalso;omega))
   refine kT ?_;refine aX (λ c35=>?_) (λ c35=>?_);·exact nv c35
   ·try (first|contradiction|(exfalso;omega))
    refine kT ?_;refine aX (λ c35=>?_) (λ c35=>?_);·exact nv c35
    ·try (first|contradiction|(exfalso;omega))
     refine eC ?_;refine Sx ?_;refine aX (λ c35=>?_) (λ c35=>?_);·exact nv c35
     ·try (first|contradiction|(exfalso;omega))
      refine Kd5 ?_;refine aX (λ c43=>?_) (λ c43=>?_);·exact nv c43
      ·try (first|contradiction|(exfalso;omega))
       refine eC ?_;refine Sx ?_;refine aX (λ c43=>?_) (λ c43=>?_);·exact nv c43
       ·try (first|contradiction|(exfalso;omega))
        refine kT ?_;refine aX (λ c49=>?_) (λ c49=>?_)
        ·try (first|contradiction|(exfalso;omega))
         refine jN ?_;refine J3 ?_;refine aA (iE (kH (K:=9) (E:=23) (dK:=.string) (ze:=.int .u64 0) (k:=.string gD) (es:=iV 2) (c:=1) (r:=some (0,.int .u64 2)) rf rf bI (by kernel_rfl) (by kernel_rfl) trivial (by kernel_rfl) (by kernel_rfl))) rfl ?_;refine Ez ?_;refine J8 ?_;refine lV ?_;refine Sv ?_;refine bF results56 (λ w hw=>?_);exact⟨rfl,hw.ret E0a bM.nil (List.Sublist.refl _)⟩
        ·exact nv c49
end
end
section
section
variable{w:World}{p:Option Addr}{c n:Nat}
theorem Zr(hn:n<=1)(fv:Value)(w:World):Calls prog 232 #[.slice p n c,.int .i64 0,.int .i64 (n:Int),fv] w λ e w'=>e=.returned (.tuple #[])/\St w [] [] w':=by
 refine enter func232 ntmps232 rfl rfl (SF.s0 w) ?_;simp only[cN];refine J2 ?_;refine tZ ?_;refine J1 ?_;refine bB ?_;refine dC ?_;refine qJ ?_;refine fX ?_;refine aX (λ c14=>?_) (λ c14=>?_);·try ((exfalso;omega))
 ·try (first|contradiction|(exfalso;omega))
  refine K1z ?_;refine Qb results232 (λ w hw=>?_);exact⟨rfl,hw.done⟩
theorem tw(hn:n=0∨n=1)(w:World):Calls prog 204 #[.int .u64 (n:Int)] w λ e w'=>e=.returned (.int .i64 (n:Int))/\St w [] [] w':=by
 have hn1:n<=1:=by omega
 rcases hn with h|h;all_goals
 refine enter func204 ntmps204 rfl rfl (SF.s0 w) ?_;simp only[cN];all_goals (refine Ka9 ?_;refine iF ?_;refine aE ?_)
 all_goals
 refine aX (λ c4=>?_) (λ c4=>?_);·all_goals try ((exfalso;omega))
 ·all_goals try (first|contradiction|(exfalso;omega))
  all_goals (refine lL ?_;refine J2 ?_;refine iF ?_;refine aE ?_)
  all_goals
   refine aX (λ c8=>?_) (λ c8=>?_);·all_goals try ((exfalso;omega))
   ·all_goals try (first|contradiction|(exfalso;omega))
    all_goals (refine lL ?_;refine J2 ?_;refine iF ?_;refine aE ?_)
    all_goals
    refine aX (λ c14=>?_) (λ c14=>?_);·all_goals try ((exfalso;omega))
    ·all_goals try (first|contradiction|(exfalso;omega))
     all_goals (refine yO ?_;refine aA (rZ (k:=.u8) (k2:=.u64) rf (by kernel_rfl) (by kernel_rfl)) rfl ?_;refine aA (xj (v:=.int .u8 (n:Int)) (by intro w;subst h;kernel_rfl)) rfl ?_;refine aA (Vw (k2:=.u8) rf (by kernel_rfl) (by kernel_rfl) (by omega)) rfl ?_;refine rQ ?_;refine J1 ?_)
     all_goals refine bJ results204 (λ w hw=>?_);exact⟨by rw[Int.zero_add];rfl,hw.done⟩
theorem aCx(hn:n=0∨n=1)(w:World):Calls prog 200 #[.int .u64 (n:Int)] w λ e w'=>e=.returned (.int .i64 (n:Int))/\St w [] [] w':=by
 refine enter func200 ntmps200 rfl rfl (SF.s0 w) ?_;simp only[cN];refine Uh ?_;refine aX (λ c0=>?_) (λ c0=>?_);·exact nv c0
 ·refine Kd9 ?_;refine aH (cV (hc:=λ w1 hw=>tw hn w1)) (λ x7=>?_);refine J1 ?_;refine bJ results200 (λ w hw=>?_);exact⟨rfl,hw.done⟩
theorem aCn(hn:n=0∨n=1)(fv:Value)(q:Int)(w:World):Calls prog 199 #[.slice p n c,.int .i64 0,.int .i64 (n:Int),.int .i64 q,fv] w λ e w'=>e=.returned (.tuple #[])/\St w [] [] w':=by
 have h1:n<=1:=by omega
 refine enter func199 ntmps199 rfl rfl (SF.s0 w) ?_;simp only[cN];refine eD ?_;refine zi ?_;refine dC ?_;refine bB ?_;refine lV ?_;refine y7 ?_;refine Kc7 ?_;refine yC ?_;refine aE ?_;refine aX (λ c25=>?_) (λ c25=>?_)
 ·try (first|contradiction|(exfalso;omega))
  refine lV ?_;refine Df ?_;refine aH (cV (hc:=λ w1 hw=>Zr h1 fv w1)) (λ x30=>?_);refine aE ?_;refine bF results199 (λ w hw=>?_);exact⟨rfl,hw.done⟩
 ·try ((exfalso;omega))
theorem W5(hn:n=0∨n=1)(fv:Value)(w:World):Calls prog 159 #[.slice p n c,fv] w λ e w'=>e=.returned (.tuple #[])/\St w [] [] w':=by
 have h1:n<=1:=by omega
 refine enter func159 ntmps159 rfl rfl (SF.s0 w) ?_;simp only[cN];refine J2 ?_;refine cP ?_;refine J1 ?_;refine Cg ?_;refine Df ?_;refine aA (Mo (k2:=.i64) rf (by kernel_rfl) (by kernel_rfl) (by omega)) rfl ?_;refine aH (cV (hc:=λ w1 hw=>aCx hn w1)) (λ x11=>?_);refine aB ?_;refine aH (cV (hc:=λ w1 hw=>aCn hn fv _ w1)) (λ x13=>?_);refine aE ?_;refine Qb results159 (λ w hw=>?_);exact⟨rfl,hw.done⟩
end
end
section
abbrev Ir(q:ByteArray×Int):List Value:=[.string q.1,.int .u64 q.2]
abbrev hsF(q:Int×ByteArray×Int):List Value:=[.int .u64 q.1,.string q.2.1,.int .u64 q.2.2]
theorem wY(q:ByteArray×Int):(Ir q).length=2:=rfl
theorem X6(q:Int×ByteArray×Int):(hsF q).length=3:=rfl
theorem F7:dU prog 249 251 (hsF (0,⟨#[]⟩,0)):=gR (z:=.agg ⟨hsF (0,⟨#[]⟩,0)⟩) (by kernel_rfl) (by kernel_rfl) rfl
theorem Ye:dU prog 176 182 (Ir (⟨#[]⟩,0)):=gR (z:=.agg ⟨Ir (⟨#[]⟩,0)⟩) (by kernel_rfl) (by kernel_rfl) rfl
section
variable{w:World}{D:List Nat}{A:Fr}{u:S2}{v:Int}
set_option maxRecDepth 100000 in
theorem fx(hs:SF w D (lB u [] 0) A [] [] w):Calls prog 122 #[pt u.b,.agg ⟨[.map (some u.bv),.bool false]⟩] w λ e w'=>∃x:Option Addr×Nat,e=.returned (.slice x.1 0 x.2)/\True/\SF w D (lB u [] 0) [] [(x.1,[])] [] w':=by
 refine enter func122 ntmps122 rfl rfl hs ?_;simp only[cN];refine K3f ?_;intro x3;refine J1 ?_;refine jN ?_;refine aA (iE (Vj (K:=9) (E:=23) rf bI (by kernel_rfl))) rfl ?_;refine aH (pF (m:=0) (k:=0) (cs:=[]) rf rf F7 (by decide) (by decide) (by kernel_rfl)) (λ x14=>?_);refine lX ?_;refine jN ?_;refine aH (cC λ _=>I4 (K:=9) (E:=23) rf bI (by kernel_rfl)) (λ x17=>?_);refine Kb6 ?_;refine dC ?_;refine K2u ?_;refine aX (λ c19=>?_) (λ c19=>?_);·exact nv c19
 ·try (first|contradiction|(exfalso;omega))
  refine K1z ?_;refine J2 ?_;refine aH (cV (hc:=λ w1 hw=>W5 (n:=0) (.inl rfl) _ w1)) (λ x37=>?_);refine Kb5 ?_;refine cP ?_;refine aH (pF (m:=0) (k:=0) (cs:=[]) rf rf Ye (by decide) (by decide) (by kernel_rfl)) (λ x40=>?_);refine Kc7 ?_;refine Ka8 ?_;refine dC ?_;refine Ka1 ?_;refine aX (λ c44=>?_) (λ c44=>?_);·exact nv c44
  ·try (first|contradiction|(exfalso;omega))
   refine K1z ?_;refine Kd6 ?_;refine bJ results122 (λ w hw=>?_);exact⟨(some ⟨x40,0,none⟩,0),rfl,trivial,(hw.freeze .head).ret E0a (by exact bM.all) (List.nil_sublist _)⟩
set_option maxRecDepth 100000 in
theorem cw(hs:SF w D (lB u [⟨.string gD,.int .u64 v,0⟩] 1) A [] [] w):Calls prog 122 #[pt u.b,.agg ⟨[.map (some u.bv),.bool false]⟩] w λ e w'=>∃x:Option Addr×Nat,e=.returned (.slice x.1 1 x.2)/\True/\SF w D (lB u [⟨.string gD,.int .u64 v,0⟩] 1) [] [(x.1,eV Ir [(gD,v)])] [] w':=by
 refine enter func122 ntmps122 rfl rfl hs ?_;simp only[cN];refine K3f ?_;intro x3;refine J1 ?_;refine jN ?_;refine aA (iE (Vj (K:=9) (E:=23) rf bI (by kernel_rfl))) rfl ?_;refine aH (pF (m:=0) (k:=1) (cs:=[]) rf rf F7 (by decide) (by decide) (by kernel_rfl)) (λ x14=>?_);refine lX ?_;refine jN ?_;refine aH (cC λ _=>I4 (K:=9) (E:=23) rf bI (by kernel_rfl)) (λ x17=>?_);refine Kb6 ?_;refine dC ?_;refine J0 ?_;refine aH (cC λ _=>Q2 (e:=⟨.string gD,.int .u64 v,0⟩) rf bI bI (by simp) (by decide) (by kernel_rfl) dM) (λ x18=>?_);refine kL ?_;refine pJ ?_;refine aX (λ c19=>?_) (λ c19=>?_)
 ·try (first|contradiction|(exfalso;omega))
  refine bG ?_;refine bB ?_;refine J0 ?_;refine aA (iE (Xk (e:=⟨.string gD,.int .u64 v,0⟩) rf bI bI (by simp) (by simp))) rfl ?_;refine J54 ?_;refine J8 ?_;refine Cg ?_;refine Df ?_;refine bN ?_;refine J3 ?_;refine aH (cV (v:=.int .u64 ((mV gD 63:Nat):Int)) (hc:=λ w1 hw=>pZ (m:=63) gD (by decide) (by decide) w1)) (λ x29=>?_);refine Df ?_;refine cI ?_;refine cI ?_;refine aH (by exact gG λ _=>aU F7 nK rf rf rf rf E0c) (λ x34=>?_);(refine aH (aW.cX (dG (sz:=3) (m:=0) rf rf .head rfl (.new .head) rfl rfl F7 rfl (by decide) dP (by decide)) jK) (λ x35=>?_);try (refine dQ (λ h35=>?_)));refine J1 ?_;refine eN ?_;refine bZ ?_;refine K2u ?_;refine aX (λ c19=>?_) (λ c19=>?_);·exact nv c19
  ·try (first|contradiction|(exfalso;omega))
   refine K1z ?_;refine J2 ?_;refine aH (cV (hc:=λ w1 hw=>W5 (n:=1) (.inr rfl) _ w1)) (λ x37=>?_);refine Kb5 ?_;refine cP ?_;refine aH (pF (m:=1) (k:=1) (cs:=eV Ir [(⟨#[]⟩,0)]) rf rf Ye (by decide) (by decide) (by kernel_rfl)) (λ x40=>?_);refine Kc7 ?_;refine Ka8 ?_;refine dC ?_;refine Ka1 ?_;refine aX (λ c44=>?_) (λ c44=>?_)
   ·try (first|contradiction|(exfalso;omega))
    refine Ka6 ?_;refine aA (bP (f:=hsF) (l:=[(((mV gD 63:Nat):Int),gD,v)]) (k:=0) X6 (by decide) rf rf dP (by kernel_rfl) (.own (.tail .head)) (Nat.le_of_ble_eq_true rfl) (Nat.le_of_ble_eq_true rfl)) rfl ?_;refine aA (cZ (f:=hsF) (l:=[(((mV gD 63:Nat):Int),gD,v)]) (k:=0) X6 rf (by kernel_rfl) (.own (.tail .head)) rfl) rfl ?_;refine aH (cC λ _=>cW (z:=hsF (0,⟨#[]⟩,0)) (by kernel_rfl)) (λ x10=>?_);refine cO (λ _=>?_);refine aM (cC λ _=>aC rf bI rf rfl (by kernel_rfl) rf dM) (λ _=>?_);refine aE ?_;refine Fw ?_;refine aQ ?_;refine aA (cJ (k:=2) (vs:=[.string gD,.int .u64 v]) rf bI (by kernel_rfl) rfl rfl) rfl ?_;refine aA (bP (f:=Ir) (l:=[(⟨#[]⟩,0)]) (k:=0) wY (by decide) rf rf dP (by kernel_rfl) (.own .head) (by decide) (by decide)) rfl ?_;refine aM (aW.gJ (wR (f:=Ir) (l:=[(⟨#[]⟩,0)]) (k:=0) (v1:=(gD,v)) wY rf rf rfl (by kernel_rfl) .head rfl (by decide)) jK) (λ _=>?_);refine aE ?_;refine K3z ?_;refine aX (λ c44=>?_) (λ c44=>?_);·exact nv c44
    ·try (first|contradiction|(exfalso;omega))
     refine K1z ?_;refine Kd6 ?_;refine bJ results122 (λ w hw=>?_);exact⟨(some ⟨x40,0,none⟩,1),rfl,trivial,(hw.freeze .head).ret E0a (bM.dB λ f hf=>by simp at hf;simp[hf]) (List.nil_sublist _)⟩
   ·exact nv c44
 ·exact nv c19
end
end
end Go.Proofs.YtdeecdfockjoiaaGreatDoor

/- sched: Run. -/
import Derived.Test.YtnilhhnfjfdokaaGreatDoorGPx9
import Derived.Test.YtnilhhnfjfdokaaGreatDoorGDfr
import Derived.Test.YtnilhhnfjfdokaaGreatDoorGJoin
import Derived.Test.YtnilhhnfjfdokaaGreatDoorGNode3

set_option linter.unusedSimpArgs false
set_option linter.unusedVariables false
namespace Go.Ct
section
open Go Go.RowKit
theorem bR{P:Program}{S:List (Nat×Value)}{w0:World}{M:List Nat}{H:List (Nat×Obj)}{A F:Fr}{O:List Ow}{d:Nat}{ty t e:TypeId}{pos:String}{af:Array Edge}{gd:Option (Nat×Bool)}{x y:Operand}{a:Option Addr}{cs:List Value}{kk:IntKind}{m c k:Nat}(hx:ev S x=.slice a m c)(hy:ev S y=.int kk ((k:Nat):Int))(ht:P.underlying t=some (.slice e))(hs:one P e=true)(hf:oB A F O a cs)(h1:k<m)(h2:k<cs.length) :
  aG P S (SF w0 M H A F O) ⟨some d,.indexAddr t x y,ty,pos,af,gd⟩ (.pointer (some ⟨cU a,dY a+k,none⟩)):=⟨λ w hw =>
 (Ci (G:=SF w0 M H A F O) hx hy ht hs ((hw.cl hf).ptr (by omega)) h1).run w hw⟩
def Og(l:List Nat):List Value:=l.map λ k=>.int .i8 ((k:Nat):Int)
theorem dy{l:List Nat}{i:Nat}(h:i<l.length):(Og l)[i]?=some (.int .i8 ((l[i]:Nat):Int)):=by simp[Og,h]
theorem Fb(l:List Nat):(Og l).length=l.length:=by simp[Og]
end
end Go.Ct
namespace Go.Proofs.YtnilhhnfjfdokaaGreatDoor
section
open Go Go.RowKit Go.Ct
section
variable{D:List Nat}{A:Fr}{b bT bm m bo bt bi k C:Nat}{w:World}{pk:Option Addr×Nat×Nat}{V:MV}{Z:AM}
theorem Cj(m:Nat):∀(l:List Nat) (Z:AM),(xK m l Z).th.length=Z.th.length
 | [],_=>rfl
 | k::l,Z=>(Cj m l _).trans (yH _ _ _)
set_option maxRecDepth 100000 in
theorem Xg{n:Nat}{l:List Nat}(h:MI b C Z V)(hn:Z.th.length=n)(hl:∀k∈l,k<n)(hi:∀i (h:i<l.length),Ju m l[i] (xK m (l.take i) Z)/\(xK m (l.take i) Z).s.jL)(hpk:(pk.1,Og l)∈V.B)(hpl:pk.2.1=l.length)(hC:C+l.length<=400000)(hm0:m<18446744073709551616)(hA2:∀f∈V.B,f∈A)(hs:SF w D (cg m b bm bT bo bt bi pk V) A [] (jB V) w) :
  Calls Tryz.prog 10 #[pt bm] w λ e w'=>∃x:MV×Fr,e=.returned (.tuple #[])/\(MI b (C+l.length) (xK m l Z) x.1/\x.1.B=x.2++V.B)/\SF w D (cg m b bm bT bo bt bi pk x.1) [] x.2 (jB x.1) w':=by
 have h8:=h.tl
 have hVn:=h.len
 refine enter Tryz.func10 Tryz.ntmps10 rfl rfl hs ?_
 simp only[cP]
 refine Kc6 ?_
 refine uD [3,9,10,11,12,13,14,15,16,17] (λ y:Nat×MV×Fr=>[(9,.int .i64 ((y.1:Nat):Int))]) (λ y=>y.1<=l.length/\MI b (C+y.1) (xK m (l.take y.1) Z) y.2.1/\y.2.1.B=y.2.2++V.B) (λ y=>nc m b bm bT bo bt bi pk y.2.1) (λ y=>y.2.2) (λ y=>jB y.2.1) (λ y=>l.length-y.1) ((0,V,[])) (⟨Nat.zero_le _,h,rfl⟩) (λ y f hx=>?_)
 dsimp only[lP,List.map,List.cons_append,List.nil_append]
 obtain⟨hy1,hy2,hy3⟩:=hx
 have hlen:y.2.1.th.length=n:=by rw[hy2.len,Cj,hn]
 refine Ka1 ?_
 refine aU (λ c10=>?_) (λ c10=>?_)
 ·have hyl:y.1<l.length:=by omega
  have hln:=hl _ (List.getElem_mem hyl)
  have hat:=dy hyl
  obtain⟨hok,htn⟩:=hi y.1 hyl
  have e:l.take (y.1+1)=l.take y.1++[l[y.1]]:=by rw[List.take_add_one,List.getElem?_eq_getElem hyl];rfl
  generalize l[y.1]=q at hln hat hok e
  have hq8:q<8:=by omega
  refine Kd2 ?_;refine aA (bR (k:=y.1) (cs:=Og l) rf rf dJ eC (.old (mV.gE (hA2 _ hpk))) (by omega) (by rw[Fb];exact hyl)) rfl ?_;refine aA (bO (q:=y.1) (cs:=Og l) rf eC (.old (mV.gE (hA2 _ hpk))) hat) rfl ?_;refine J1 ?_;refine Cw ?_;refine fC ?_;refine aH (cT 0 0 (hs:=nc m b bm bT bo bt bi pk y.2.1) (os:=jB y.2.1) (A0:=dV y.2.1.a.L++y.2.1.B) (V:=λ x:MV×Fr×Bool=>.bool x.2.2) (F1:=λ x:MV×Fr×Bool=>x.2.1++y.2.2) (hc:=λ w1 hw=>Ap (k:=q) hy2 (by omega) hm0 (by rw[hlen];exact hln) hok htn (λ f hf=>List.mem_append_left _ hf) (λ f hf=>List.mem_append_right _ hf) hw) (hA:=ax hy2 hy3 hA2) (hF1:=λ x hx f hf=>.inr hf)) (λ x16 h16=>?_);refine aD ?_;refine Ka9 ?_
  refine zI ((y.1+1,x16.1,x16.2.1++y.2.2)) ?_ (hw1:=λ w hw=>hw.z1)
  ·refine⟨hyl,?_,by rw[h16.2,hy3,List.append_assoc]⟩
   show MI b (C+y.1+1) (xK m (l.take (y.1+1)) Z) x16.1
   rw[e,Dx]
   exact h16.1
 ·refine aX rfl ?_
  refine Ru Tryz.results10 (λ w hw=>?_)
  have hyl:y.1=l.length:=by omega
  refine⟨(y.2.1,y.2.2),rfl,⟨?_,hy3⟩,hw.W1.z1⟩
  have h2:=hy2
  rw[hyl,List.take_length] at h2
  exact h2
end
end

/- Clones of lists of rows. -/
end Go.Proofs.YtnilhhnfjfdokaaGreatDoor
namespace Go.Ct
section
open Go Go.RowKit
theorem yF{α:Type}{f:α->List Value}{sz:Nat}(hf:∀a,(f a).length=sz)(h0:0<sz){l:List α}(h:dR f l=[]):l=[]:=by
 have:=jT hf l
 rw[h] at this
 rcases Nat.mul_eq_zero.1 this.symm with h|h
 ·exact List.eq_nil_of_length_eq_zero h
 ·omega
theorem yB{α:Type}{f:α->List Value}(h:∀a,(f a).all (·.oneCell')=true)(l:List α):(dR f l).all (·.oneCell')=true:=by
 rw[List.all_eq_true]
 intro x hx
 obtain⟨a,_,ha⟩:=List.mem_flatMap.1 hx
 exact List.all_eq_true.1 (h a) x ha
end
end Go.Ct
namespace Go.Proofs.YtnilhhnfjfdokaaGreatDoor
section
open Go Go.RowKit Go.Ct
theorem qM:dL Tryz.prog 30 29 (lO.cells ⟨0,0,⟨#[]⟩,0,0⟩):=fZ (z:=.agg ⟨lO.cells ⟨0,0,⟨#[]⟩,0,0⟩⟩) (by kernel_rfl) (by kernel_rfl) rfl
def gZ(p:Nat×Nat):List Value:=[.int .i64 ((p.1:Nat):Int),.int .i64 ((p.2:Nat):Int)]
theorem dM(p:Nat×Nat):(gZ p).length=2:=rfl
theorem fO:dL Tryz.prog 51 45 (gZ (0,0)):=fZ (z:=.agg ⟨gZ (0,0)⟩) (by kernel_rfl) (by kernel_rfl) rfl
section
variable{w:World}{a:Option Addr}{c:Nat}
theorem Ke{l:List lR}(ha:Go.Ct.Cl w a (Bs l))(hl:l.length<=274877906944):Calls Tryz.prog 18 #[.slice a l.length c] w λ e w' =>
  ∃x:Option Addr×Nat,e=.returned (.slice x.1 l.length x.2)/\True/\SF w [] [] [] [(x.1,Bs l)] [] w':=by
 refine enter Tryz.func18 Tryz.ntmps18 rfl rfl (SF.s1 ha) ?_
 simp only[cP]
 refine Kb1 ?_;refine D0 ?_
 refine aU (λ c4=>?_) (λ c4=>?_)
 ·have e0:a=none:=by cases a with|none=>rfl|some _=>cases c4
  subst e0
  obtain rfl:=yF gA (by decide) ha.Bg
  refine dW ?_
  refine bE Tryz.results18 (λ w hw=>?_)
  exact⟨(none,0),rfl,trivial,(hw.Pd (F':=[(none,[])]) (λ f hf=>.inl (by rw[List.mem_singleton.1 hf]))).fV⟩
 ·refine Kc1 ?_;refine aF (Al oH) (λ x5=>?_);refine aB ?_;(refine aF (aQ.cL (cQ (sz:=11) (cs:=[]) (m:=0) rf rf zG rfl (.old .head) (by rw[jT gA]) (yB (λ _=>rfl) _) oH rfl (by decide) dJ (by omega)) hP) (λ x7=>?_);try (refine eH (λ h7=>?_)));refine J1 ?_
  refine bE Tryz.results18 (λ w hw=>?_)
  exact⟨x7,by simp only[Nat.zero_add];rfl,trivial,(hw.freeze .head).z0⟩
theorem Lu{l:List lO}(ha:Go.Ct.Cl w a (gG l))(hl:l.length<=274877906944):Calls Tryz.prog 22 #[.slice a l.length c] w λ e w' =>
  ∃x:Option Addr×Nat,e=.returned (.slice x.1 l.length x.2)/\True/\SF w [] [] [] [(x.1,gG l)] [] w':=by
 refine enter Tryz.func22 Tryz.ntmps22 rfl rfl (SF.s1 ha) ?_
 simp only[cP]
 refine Kb1 ?_;refine D0 ?_
 refine aU (λ c4=>?_) (λ c4=>?_)
 ·have e0:a=none:=by cases a with|none=>rfl|some _=>cases c4
  subst e0
  obtain rfl:=yF lZ (by decide) ha.Bg
  refine dW ?_
  refine bE Tryz.results22 (λ w hw=>?_)
  exact⟨(none,0),rfl,trivial,(hw.Pd (F':=[(none,[])]) (λ f hf=>.inl (by rw[List.mem_singleton.1 hf]))).fV⟩
 ·refine Kc1 ?_;refine aF (Al qM) (λ x5=>?_);refine aB ?_;(refine aF (aQ.cL (cQ (sz:=5) (cs:=[]) (m:=0) rf rf zG rfl (.old .head) (by rw[jT lZ]) (yB (λ _=>rfl) _) qM rfl (by decide) dJ (by omega)) hP) (λ x7=>?_);try (refine eH (λ h7=>?_)));refine J1 ?_
  refine bE Tryz.results22 (λ w hw=>?_)
  exact⟨x7,by simp only[Nat.zero_add];rfl,trivial,(hw.freeze .head).z0⟩
theorem Lj{l:List (Nat×Nat)}(ha:Go.Ct.Cl w a (dR gZ l))(hl:l.length<=274877906944):Calls Tryz.prog 47 #[.slice a l.length c] w λ e w' =>
  ∃x:Option Addr×Nat,e=.returned (.slice x.1 l.length x.2)/\True/\SF w [] [] [] [(x.1,dR gZ l)] [] w':=by
 refine enter Tryz.func47 Tryz.ntmps47 rfl rfl (SF.s1 ha) ?_
 simp only[cP]
 refine Kb1 ?_;refine D0 ?_
 refine aU (λ c4=>?_) (λ c4=>?_)
 ·have e0:a=none:=by cases a with|none=>rfl|some _=>cases c4
  subst e0
  obtain rfl:=yF dM (by decide) ha.Bg
  refine dW ?_
  refine bE Tryz.results47 (λ w hw=>?_)
  exact⟨(none,0),rfl,trivial,(hw.Pd (F':=[(none,[])]) (λ f hf=>.inl (by rw[List.mem_singleton.1 hf]))).fV⟩
 ·refine Kc1 ?_;refine aF (Al fO) (λ x5=>?_);refine aB ?_;(refine aF (aQ.cL (cQ (sz:=2) (cs:=[]) (m:=0) rf rf zG rfl (.old .head) (by rw[jT dM]) (yB (λ _=>rfl) _) fO rfl (by decide) dJ (by omega)) hP) (λ x7=>?_);try (refine eH (λ h7=>?_)));refine J1 ?_
  refine bE Tryz.results47 (λ w hw=>?_)
  exact⟨x7,by simp only[Nat.zero_add];rfl,trivial,(hw.freeze .head).z0⟩
end
end

/- Drawn regions in frames that have calls to make when they leave. -/
end Go.Proofs.YtnilhhnfjfdokaaGreatDoor
namespace Go.Ct
section
open Go Go.RowKit
def uL(a:Act)(ds:List Deferred):Act:={a with defers:=a.defers++ds}
section
variable{P:Program}{ds:List Deferred}{next next':Act->World->Prop}{Q Q':Exit->Act->World->Prop}{ops:Array Oper}
theorem Af(a:Act)(dst:Option Tmp)(v:Value):uL (a.put dst v) ds=(uL a ds).put dst v:=by cases dst<;>rfl
theorem D7(a:Act):(uL a ds).eval=a.eval:=by funext x;cases x<;>rfl
theorem Ja(hq:∀e a w,Q e a w->Q' e (uL a ds) w)(h:LetsOut Q):LetsOut Q':=by
 obtain⟨a,w,h⟩:=h
 exact⟨_,w,hq _ _ _ h⟩
theorem jt{o:Oper}{a:Act}{w:World}(hn:∀a w,next a w->next' (uL a ds) w)(hq:∀e a w,Q e a w->Q' e (uL a ds) w)(h:o.wp P a w next Q):o.wp P (uL a ds) w next' Q':=by
 unfold Oper.wp at *
 rw[D7]
 have key:∀v w,next (a.put o.dst v) w->next' ((uL a ds).put o.dst v) w:=λ v w h=>by rw[<- Af];exact hn _ _ h
 generalize (execOp a.eval o).run P w=r at *
 cases r with
 | ok n w' =>
  cases n<;>simp only[Oper.upon] at h ⊢ <;>
   first
    | exact key _ _ h
    | exact Calls.mono h (λ e w'' he=>by cases e<;>first|exact key _ _ he|exact hq _ _ _ he|exact Ja hq he)
    | exact Rows.mono h (λ _ _ he=>key _ _ he)
    | exact(by have:=hn _ _ h;rw[Af] at this;exact this)
    | exact h
 | halt x w'=>cases x<;>simp only[Oper.upon] at h ⊢ <;> exact hq _ _ _ h
theorem sF(hq:∀e a w,Q e a w->Q' e (uL a ds) w):∀(fuel:Nat) (listed:Array Bool) (a:Act) (w:World),wpAny P .any ops Q fuel listed a w->wpAny P .any ops Q' fuel listed (uL a ds) w
 | 0,_,_,_,h=>⟨h.1,hq _ _ _ h.2⟩
 | fuel+1,listed,a,w,h=>⟨λ hr=>hq _ _ _ (h.1 hr),λ i hi=>by
  have hi':=h.2 i hi
  unfold wpOp at hi' ⊢
  cases ho:ops[i]? with
  | none=>rw[ho] at hi';exact sF hq fuel _ _ _ hi'
  | some o =>
   rw[ho] at hi'
   simp only at hi' ⊢
   have ht:(uL a ds).tmps=a.tmps:=rfl
   rw[ht]
   split
   ·rename_i hw
    rw[if_pos hw] at hi'
    rcases hi' with h1|⟨h1,h2⟩
    ·exact .inl (jt (λ a w h=>sF hq fuel _ a w h) hq h1)
    ·exact .inr ⟨by unfold Oper.asks at *;rw[D7];exact h1,Ja hq h2⟩
   ·rename_i hw
    rw[if_neg hw] at hi'
    rw[<- Af]
    exact sF hq fuel _ _ _ hi'⟩
end
section
variable{P:Program}{n:Nat}{ds:List Deferred}{Q:Exit->Act->World->Prop}{ks:List CK}{S:List (Nat×Value)}{G:World->Prop}{ops:Array Oper}
def o9(P:Program)(Q:Exit->Act->World->Prop)(ks:List CK)(ds:List Deferred)(a:Act)(w:World):Prop:=runK P Q ks .normal (uL a ds) w
def ae(P:Program)(Q:Exit->Act->World->Prop)(ks:List CK)(ds:List Deferred)(e:Exit)(a:Act)(w:World):Prop:=runK P Q ks e (uL a ds) w
theorem Uc(e:Exit)(a:Act)(w:World)(h:runK P (ae P Q ks ds) [.inv (o9 P Q ks ds)] e a w):runK P Q ks e (uL a ds) w:=by
 cases e<;>exact h
theorem Yu{id:Nat}(pl:lQ)(hm:P.follows .mixedOrders=true)(hG:∀w,G w->G w.drew)(h:JR P n (ae P Q ks ds) [.inv (o9 P Q ks ds)] ops pl [] [] [] S G):KD P n ds Q (.code (.region id ops true)::ks) S G:=⟨λ hS w hw=>by
 refine wp_region_any hm (sF Uc _ _ ⟨dX n S,[]⟩ _ (h.run _ _ _ _ ⟨hS,hG w hw,by simp,rfl,by simp[dX],λ j hj=>?_,λ _ h=>(List.not_mem_nil h).elim,λ t _=>?_,λ _ h=>(List.not_mem_nil h).elim,λ _ h=>(List.not_mem_nil h).elim,λ i hi=>(hi.elim List.not_mem_nil List.not_mem_nil).elim,λ k hk=>by
   exfalso
   rw[Array.getD_eq_getD_getElem?] at hk
   cases hx:(Array.replicate ops.size false)[k]? with
   | none=>rw[hx] at hk;cases hk
   | some b =>
    rw[hx] at hk
    have:=Array.getElem?_eq_some_iff.1 hx
    obtain⟨_,hb⟩:=this
    simp at hb
    subst hb
    cases hk⟩ ?_))
 ·exfalso
  rw[Array.getD_eq_getD_getElem?] at hj
  cases hx:(Array.replicate ops.size false)[j]? with
  | none=>rw[hx] at hj;cases hj
  | some b =>
   rw[hx] at hj
   simp only[Option.getD_some] at hj
   subst hj
   rw[Array.getElem?_replicate] at hx
   split at hx<;>simp at hx
 ·exact congrFun (iB (ds:=[]) hS) (.tmp t)
 ·exact Nat.le_trans (List.length_filter_le _ _) (by simp)⟩
theorem Z0(h:KD P n ds Q ks S G):JK P n (ae P Q ks ds) [.inv (o9 P Q ks ds)] S G:=⟨λ hS w hw=>h.run hS w hw⟩
end
end
end Go.Ct
namespace Go.Proofs.YtnilhhnfjfdokaaGreatDoor
section
open Go Go.RowKit Go.Ct
section
variable{n:Nat}{ds:List Deferred}{Q:Exit->Act->World->Prop}{ks:List CK}{S:List (Nat×Value)}{ops:Array Oper}{w0:World}{M:List Nat}{H:List (Nat×Obj)}{A F:Fr}{O:List Ow}
theorem nw{id:Nat}{pl:lQ}(p:List Nat)(h:JR Tryz.prog n (ae Tryz.prog Q ks ds) [.inv (o9 Tryz.prog Q ks ds)] ops pl [] [] [] S (SF w0 M H A F O))(hp:la p=pl:=by simp only[la];exact rfl)(hm:Tryz.prog.follows .mixedOrders=true:=by kernel_rfl):KD Tryz.prog n ds Q (.code (.region id ops true)::ks) S (SF w0 M H A F O):=Yu pl hm (λ _ h=>h.drew) h
end
end

/- snap: a new trie on an empty arena. -/
end Go.Proofs.YtnilhhnfjfdokaaGreatDoor
namespace Go.Ct
section
open Go Go.RowKit
theorem Ge{P:Program}{S:List (Nat×Value)}{G:World->Prop}{d:Nat}{ty:TypeId}{pos:String}{af:Array Edge}{gd:Option (Nat×Bool)}{x:Operand}{nm:String}{t:TypeId}{p:Value}{b:Array Value}(hx:ev S x=.func (.method nm) ⟨[.iface t p]⟩ b)(h:∀w,(nilAhead (P.types.size+100) t p nm).run P w=.ok (some false) w):aG P S G ⟨some d,.nilCheck x,ty,pos,af,gd⟩ (.func (.method nm) ⟨[.iface t p]⟩ b):=⟨λ w _=>by
 simp[execOp,hx,h,go_sem,Result.andThen]⟩
end
end Go.Ct
namespace Go.Proofs.YtnilhhnfjfdokaaGreatDoor
section
open Go Go.RowKit Go.Ct
theorem Kr(p:Option Addr)(w:World):(callMethod (.iface 61 (.pointer p)) "NewGen" #[]).run Tryz.prog w=.ok (.enter 339 #[.pointer p]) w:=by kernel_rfl
theorem Ic(p:Option Addr)(a:Value)(w:World):(callMethod (.iface 61 (.pointer p)) "NewCell" #[a]).run Tryz.prog w=.ok (.enter 338 #[.pointer p,a]) w:=by kernel_rfl
theorem L9(a:Addr)(w:World):(nilAhead (Tryz.prog.types.size+100) 61 (.pointer (some a)) "Alloc").run Tryz.prog w=.ok (some false) w:=by kernel_rfl
theorem Ga(p:Option Addr):Idle Tryz.prog 85 #[.pointer p]:=λ w=>by
 refine callsD_of_wpS Tryz.func85 rfl λ c₀ cs hu=>?_
 apply wpS_seq
 apply wpS_region
 simp[wpOpsS,go_sem,recoverD,hu,Tryz.ntmps85,Exit.thenS]
 refine wpS_cond (t:=false) (by simp[Act.eval,Array.replicate]) ?_
 simp only[Bool.false_eq_true,if_false]
 refine wpS_of_wp (wp_skip ?_)
 cases c₀
 simp_all[bodyPostS,results,Tryz.results85]
def R4:Nd:={Nd.zero with kind:=3}
def kr(g:Int):Nd:={Nd.zero with kind:=2,gen:=g}
def L2(x y:AX):List eY:=[pQ R4 [] [] 0 x]++[pQ (kr 1) [] [] 1 y]
theorem Rn{x y:AX}:∀f∈dV (L2 x y),f.2=[]:=by
 intro f hf
 simp[dV,L2,eY.fr,pQ,aW,gK] at hf
 rcases hf with hf|hf|hf|hf<;>rw[hf]
section
variable{w:World}{D:List Nat}{b:Nat}{acc:Int}{pn:Option Addr}{cn:Nat}{A:Fr}
theorem Qr{x:AX}(hs:SF w D [(b,aO [pQ R4 [] [] 0 x] [0] 0 acc x.pn x.cn x.pc x.cc)] A [] (mW [pQ R4 [] [] 0 x] [0] x.pn x.cn x.pc x.cc) w) :
  Calls Tryz.prog 87 #[.iface 61 (.pointer (some ⟨b,0,none⟩)),.int .i64 3] w λ e w'=>∃y:AX,e=.returned (.int .i64 4)/\True/\SF w D [(b,aO (L2 x y) [0,3] 1 acc y.pn y.cn y.pc y.cc)] [] (dV (L2 x y)) (mW (L2 x y) [0,3] y.pn y.cn y.pc y.cc) w':=by
 refine enter Tryz.func87 Tryz.ntmps87 rfl rfl hs ?_
 simp only[cP]
 refine Kd1 ?_;refine aH (Wu (V:=λ _:Unit=>.int .i64 1) (A0:=[]) (hm:=λ w=>Kr _ w) (hc:=λ w hs=>P5 (gen:=0) hs)) (λ x7 h7=>?_);refine kZ ?_;refine iM [0,1,3,4,5,6,2,7,8] ?_;refine Hj ?_;refine aR ?_;refine cZ (i:=4) (hq:=(nJ Uu Uu)) (h:=?_);refine cZ (i:=5) (hq:=(Ge rf (L9 _))) (h:=?_);refine aR ?_;refine bZ (i:=2) (hq:=(cV (hc:=λ w1 hw=>Y0 1 w1))) (h:=λ x10=>?_);refine bS (i:=7) (hq:=(Wu (A0:=[(none,aW []),(none,gK [])]) (hm:=λ w=>mF _ _ _ w) (hc:=λ w hs=>Bi (L:=[pQ R4 [] [] 0 x]) (cs:=[0]) (n:=kr 1) (xs:=[]) (ys:=[]) 3 hs rfl rfl (by decide) (by decide) (by simp) (by decide)))) (h:=λ x15 h15=>?_);refine J7 ?_
 refine bE Tryz.results87 (λ w hw=>?_)
 exact⟨x15,rfl,trivial,(hw.Pd (λ f hf=>.inl (Rn f hf))).z0⟩
theorem Jg(hs:SF w D [(b,aO [] [] 0 acc pn cn none 0)] A [] (mW [] [] pn cn none 0) w) :
  Calls Tryz.prog 56 #[.iface 61 (.pointer (some ⟨b,0,none⟩))] w λ e w'=>∃q:AX×AX×Option Addr×Nat,e=.returned (.agg ⟨[.int .i64 3,.bool false]⟩)/\True/\SF w D [(b,aO (L2 q.1 q.2.1) [0,3,4] 1 acc q.2.1.pn q.2.1.cn q.2.2.1 q.2.2.2)] [] (dV (L2 q.1 q.2.1)) (mW (L2 q.1 q.2.1) [0,3,4] q.2.1.pn q.2.1.cn q.2.2.1 q.2.2.2) w':=by
 refine Fk Tryz.func56 Tryz.ntmps56 rfl rfl hs ?_
 simp only[cP]
 refine eT ?_;refine dA ?_;refine nV (λ x2=>?_);refine fQ ?_;refine eT ?_;refine dA ?_;(refine fJ bN rfl ?_);refine wF rfl ?_;refine fQ ?_;refine eT ?_;refine nw [0,2,3,1,4,5] ?_;refine aR ?_;refine cZ (i:=2) (hq:=(mZ rf)) (h:=?_);refine aR ?_;refine bZ (i:=1) (hq:=(cV (hc:=λ w1 hw=>Ya w1))) (h:=λ x7=>?_);refine bS (i:=4) (hq:=(Wu (A0:=[(none,aW []),(none,gK [])]) (hm:=λ w=>mF _ _ _ w) (hc:=λ w hs=>Bi (L:=[]) (cs:=[]) (n:=R4) (xs:=[]) (ys:=[]) 0 hs rfl rfl (by decide) (by decide) (by decide) (by decide)))) (h:=λ x10 h10=>?_);refine nU (h:=λ _=>?_);refine dC ?_;refine Z0 ?_;refine eT ?_;refine dA ?_;refine jC ?_;refine jC ?_;refine oS (cM (A0:=[]) (hc:=λ w hs=>Qr (x:=x10) hs)) (λ x13 h13=>?_);refine oX (λ _=>?_);refine fQ ?_;refine eT ?_;refine dA ?_;refine jC ?_;refine jC ?_;refine oS (Wu (A0:=[]) (hm:=λ w=>Ic _ _ w) (hc:=λ w hs=>oQ (L:=L2 x10 x13) (cs:=[0,3]) 4 hs (by decide))) (λ x16 h16=>?_);refine Sa ?_;refine zS (cE λ _=>aC rf bD rf rfl cY rf dI) (λ _=>?_);refine fQ ?_
 refine wC (Ga _) (by kernel_rfl) Tryz.results56 (.cell rf bD cY .nil) (λ w hw=>?_)
 exact⟨(x10,x13,x16.1,x16.2),rfl,trivial,hw.ret (by repeat (first|exact List.Sublist.refl _|apply List.Sublist.cons)) (bL.dH λ f hf=>by simp[hf]) (List.Sublist.refl _)⟩
theorem Kj(hs:SF w D [(b,aO [] [] 0 acc pn cn none 0)] A [] (mW [] [] pn cn none 0) w) :
  Calls Tryz.prog 38 #[.iface 61 (.pointer (some ⟨b,0,none⟩))] w λ e w'=>∃q:AX×AX×Option Addr×Nat,e=.returned (.agg ⟨[.int .i64 3,.bool false]⟩)/\True/\SF w D [(b,aO (L2 q.1 q.2.1) [0,3,4] 1 acc q.2.1.pn q.2.1.cn q.2.2.1 q.2.2.2)] [] (dV (L2 q.1 q.2.1)) (mW (L2 q.1 q.2.1) [0,3,4] q.2.1.pn q.2.1.cn q.2.2.1 q.2.2.2) w':=by
 refine enter Tryz.func38 Tryz.ntmps38 rfl rfl hs ?_
 simp only[cP]
 refine J0 ?_;refine aI (λ x2=>?_);refine Kb8 ?_;refine aH (cM (A0:=[]) (hc:=λ w hs=>Jg hs)) (λ x4 h4=>?_);refine aL (cE λ _=>aC rf bD rf rfl cY rf dI) (λ _=>?_);refine aD ?_
 refine bV Tryz.results38 (λ w hw=>?_)
 exact⟨x4,rfl,trivial,hw.ret (by repeat (first|exact List.Sublist.refl _|apply List.Sublist.cons)) (bL.dH λ f hf=>by simp[hf]) (List.Sublist.refl _)⟩
end
end

end Go.Proofs.YtnilhhnfjfdokaaGreatDoor

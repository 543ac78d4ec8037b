/- Merged. -/
import Derived.Test.YtdeecdfockjoiaaGreatDoorGMc8
import Derived.Test.YtdeecdfockjoiaaGreatDoorGSp1
import Derived.Test.YtdeecdfockjoiaaGreatDoorGBr4
import Derived.Test.YtdeecdfockjoiaaGreatDoorGShort
set_option linter.unusedSimpArgs false
set_option linter.unusedVariables false
namespace Go.Ct
open Go Go.RowKit
section
theorem cK{P:Program}{S:List (Nat×Value)}{w0:World}{M:List Nat}{H:List (Nat×Obj)}{A F:Fr}{O:List Ow}{d:Nat}{ty t e:TypeId}{pos:String}{af:Array Edge}{gd:Option (Nat×Bool)}{x y:Operand}{a:Option Addr}{cs:List Value}{kk:IntKind}{m c k:Nat}(hx:ev S x=.slice a m c)(hy:ev S y=.int kk ((k:Nat):Int))(ht:P.underlying t=some (.slice e))(hs:one P e=true)(hf:qC A F O a cs)(h1:k<m)(h2:k<cs.length) :
  aN P S (SF w0 M H A F O) ⟨some d,.indexAddr t x y,ty,pos,af,gd⟩ (.pointer (some ⟨dJ a,eQ a+k,none⟩)):=⟨λ w hw =>
 (Aw (G:=SF w0 M H A F O) hx hy ht hs ((hw.cl hf).ptr (by omega)) h1).run w hw⟩
def Vy(l:List Nat):List Value:=l.map λ k=>.int .i8 ((k:Nat):Int)
theorem aBB{l:List Nat}{i:Nat}(h:i<l.length):(Vy l)[i]?=some (.int .i8 ((l[i]:Nat):Int)):=by simp[Vy,h]
theorem Nb(l:List Nat):(Vy l).length=l.length:=by simp[Vy]
end
end Go.Ct
namespace Go.Proofs.YtdeecdfockjoiaaGreatDoor
open Go Go.RowKit Go.Ct
section
section
variable{D:List Nat}{A:Fr}{b bT bm m bo bt bi k C:Nat}{w:World}{pk:Option Addr×Nat×Nat}{V:MV}{Z:AM}
theorem It(m:Nat):∀(l:List Nat) (Z:AM),(C8 m l Z).th.length=Z.th.length
 | [],_=>rfl
 | k::l,Z=>(It m l _).trans (Ed _ _ _)
set_option maxRecDepth 100000 in
theorem qb{n:Nat}{l:List Nat}(h:MI b C Z V)(hn:Z.th.length=n)(hl:∀k∈l,k<n)(hi:∀i (h:i<l.length),Uw m l[i] (C8 m (l.take i) Z)/\(C8 m (l.take i) Z).s.iL)(hpk:(pk.1,Vy l)∈V.B)(hpl:pk.2.1=l.length)(hC:C+l.length<=400000)(hm0:m<18446744073709551616)(hA2:∀f∈V.B,f∈A)(hs:SF w D (xu m b bm bT bo bt bi pk V) A [] (xQ V) w) :
  Calls Tryz.prog 19 #[pt bm] w λ e w'=>∃x:MV×Fr,e=.returned (.tuple #[])/\(MI b (C+l.length) (C8 m l Z) x.1/\x.1.B=x.2++V.B)/\SF w D (xu m b bm bT bo bt bi pk x.1) [] x.2 (xQ x.1) w':=by
 have h8:=h.tl;have hVn:=h.len;refine enter Tryz.func19 Tryz.ntmps19 rfl rfl hs ?_;simp only[cN]
 refine Kd2 ?_;refine sF [3,9,10,11,12,13,14,15,16,17] (λ y:Nat×MV×Fr=>[(9,.int .i64 ((y.1:Nat):Int))]) (λ y=>y.1<=l.length/\MI b (C+y.1) (C8 m (l.take y.1) Z) y.2.1/\y.2.1.B=y.2.2++V.B) (λ y=>mcL m b bm bT bo bt bi pk y.2.1) (λ y=>y.2.2) (λ y=>xQ y.2.1) (λ y=>l.length-y.1) ((0,V,[])) (⟨Nat.zero_le _,h,rfl⟩) (λ y f hx=>?_);refine K0c ?_;obtain⟨hy1,hy2,hy3⟩:=hx;have hlen:y.2.1.th.length=n:=by rw[hy2.len,It,hn]
 refine Ka1 ?_;refine aX (λ c10=>?_) (λ c10=>?_)
 ·have hyl:y.1<l.length:=by omega
  have hln:=hl _ (List.getElem_mem hyl);have hat:=aBB hyl;obtain⟨hok,htn⟩:=hi y.1 hyl
  have e:l.take (y.1+1)=l.take y.1++[l[y.1]]:=by rw[List.take_add_one,List.getElem?_eq_getElem hyl];rfl
  generalize l[y.1]=q at hln hat hok e;have hq8:q<8:=by omega
  refine Ke1 ?_;refine aA (cK (k:=y.1) (cs:=Vy l) rf rf dP eL (.old (mU.eU (hA2 _ hpk))) (by omega) (by rw[Nb];exact hyl)) rfl ?_;refine aA (cG (q:=y.1) (cs:=Vy l) rf eL (.old (mU.eU (hA2 _ hpk))) hat) rfl ?_;refine J1 ?_;refine Fw ?_;refine fR ?_;refine aI (cT 0 0 (hs:=mcL m b bm bT bo bt bi pk y.2.1) (os:=xQ y.2.1) (A0:=dD y.2.1.a.L++y.2.1.B) (V:=λ x:MV×Fr×Bool=>.bool x.2.2) (F1:=λ x:MV×Fr×Bool=>x.2.1++y.2.2) (hc:=λ w1 hw=>A4 (k:=q) hy2 (by omega) hm0 (by rw[hlen];exact hln) hok htn (λ f hf=>List.mem_append_left _ hf) (λ f hf=>List.mem_append_right _ hf) hw) (hA:=yh hy2 hy3 hA2) (hF1:=λ x hx f hf=>.inr hf)) (λ x16 h16=>?_);refine aE ?_;refine Kb0 ?_;refine xS ((y.1+1,x16.1,x16.2.1++y.2.2)) ?_ (hw1:=λ w hw=>hw.zA0);·refine⟨hyl,?_,by rw[h16.2,hy3,List.append_assoc]⟩;show MI b (C+y.1+1) (C8 m (l.take (y.1+1)) Z) x16.1;rw[e,Lk];exact h16.1
 ·refine K1z ?_;refine Qb Tryz.results19 (λ w hw=>?_);have hyl:y.1=l.length:=by omega
  refine⟨(y.2.1,y.2.2),rfl,⟨?_,hy3⟩,hw.ph.zA0⟩;have h2:=hy2;rw[hyl,List.take_length] at h2;exact h2
end
end
end Go.Proofs.YtdeecdfockjoiaaGreatDoor
namespace Go.Ct
open Go Go.RowKit
section
theorem D8{α:Type}{f:α->List Value}{sz:Nat}(hf:∀a,(f a).length=sz)(h0:0<sz){l:List α}(h:eV f l=[]):l=[]:=by
 have:=mF hf l;rw[h] at this;rcases Nat.mul_eq_zero.1 this.symm with h|h
 ·exact List.eq_nil_of_length_eq_zero h
 ·omega
theorem D2{α:Type}{f:α->List Value}(h:∀a,(f a).all (·.oneCell')=true)(l:List α):(eV f l).all (·.oneCell')=true:=by rw[List.all_eq_true];intro x hx;obtain⟨a,_,ha⟩:=List.mem_flatMap.1 hx;exact List.all_eq_true.1 (h a) x ha
end
end Go.Ct
namespace Go.Proofs.YtdeecdfockjoiaaGreatDoor
open Go.Proofs.Tryz
open Go Go.RowKit Go.Ct
section
theorem gX:dU prog 26 29 (jX.cells ⟨0,0,⟨#[]⟩,0,0⟩):=gR (z:=.agg ⟨jX.cells ⟨0,0,⟨#[]⟩,0,0⟩⟩) (by kernel_rfl) (by kernel_rfl) rfl
def jO(p:Nat×Nat):List Value:=[.int .i64 ((p.1:Nat):Int),.int .i64 ((p.2:Nat):Int)]
theorem eR(p:Nat×Nat):(jO p).length=2:=rfl
theorem gZ:dU prog 69 49 (jO (0,0)):=gR (z:=.agg ⟨jO (0,0)⟩) (by kernel_rfl) (by kernel_rfl) rfl
section
variable{w:World}{a:Option Addr}{c:Nat}
theorem U2{l:List oR}(ha:Go.Ct.Cl w a (Fk l))(hl:l.length<=274877906944):Calls prog 18 #[.slice a l.length c] w λ e w' =>
  ∃x:Option Addr×Nat,e=.returned (.slice x.1 l.length x.2)/\True/\SF w [] [] [] [(x.1,Fk l)] [] w':=by
 refine enter func18 ntmps18 rfl rfl (SF.s1 ha) ?_;simp only[cN];refine Ka9 ?_;refine E2 ?_;refine aX (λ c4=>?_) (λ c4=>?_)
 ·have e0:a=none:=by cases a with|none=>rfl|some _=>cases c4
  subst e0;obtain rfl:=D8 iQ (by decide) ha.H4;refine eD ?_;refine bJ results18 (λ w hw=>?_);exact⟨(none,0),rfl,trivial,(hw.Us (F':=[(none,[])]) (λ f hf=>.inl (by rw[List.mem_singleton.1 hf]))).fS⟩
 ·refine Kc4 ?_;refine aH (Hh rT) (λ x5=>?_);refine aB ?_;(refine aH (aW.cX (dG (sz:=11) (cs:=[]) (m:=0) rf rf rP rfl (.old .head) (by rw[mF iQ]) (D2 (λ _=>rfl) _) rT rfl (by decide) dP (by omega)) jK) (λ x7=>?_);try (refine dQ (λ h7=>?_)));refine J1 ?_;refine bJ results18 (λ w hw=>?_);exact⟨x7,by simp only[Nat.zero_add];rfl,trivial,(hw.freeze .head).v6⟩
theorem Va{l:List jX}(ha:Go.Ct.Cl w a (iB l))(hl:l.length<=274877906944):Calls prog 24 #[.slice a l.length c] w λ e w' =>
  ∃x:Option Addr×Nat,e=.returned (.slice x.1 l.length x.2)/\True/\SF w [] [] [] [(x.1,iB l)] [] w':=by
 refine enter func24 ntmps24 rfl rfl (SF.s1 ha) ?_;simp only[cN];refine Ka9 ?_;refine E2 ?_;refine aX (λ c4=>?_) (λ c4=>?_)
 ·have e0:a=none:=by cases a with|none=>rfl|some _=>cases c4
  subst e0;obtain rfl:=D8 lD (by decide) ha.H4;refine eD ?_;refine bJ results24 (λ w hw=>?_);exact⟨(none,0),rfl,trivial,(hw.Us (F':=[(none,[])]) (λ f hf=>.inl (by rw[List.mem_singleton.1 hf]))).fS⟩
 ·refine Kc4 ?_;refine aH (Hh gX) (λ x5=>?_);refine aB ?_;(refine aH (aW.cX (dG (sz:=5) (cs:=[]) (m:=0) rf rf rP rfl (.old .head) (by rw[mF lD]) (D2 (λ _=>rfl) _) gX rfl (by decide) dP (by omega)) jK) (λ x7=>?_);try (refine dQ (λ h7=>?_)));refine J1 ?_;refine bJ results24 (λ w hw=>?_);exact⟨x7,by simp only[Nat.zero_add];rfl,trivial,(hw.freeze .head).v6⟩
theorem Tl{l:List (Nat×Nat)}(ha:Go.Ct.Cl w a (eV jO l))(hl:l.length<=274877906944):Calls prog 53 #[.slice a l.length c] w λ e w' =>
  ∃x:Option Addr×Nat,e=.returned (.slice x.1 l.length x.2)/\True/\SF w [] [] [] [(x.1,eV jO l)] [] w':=by
 refine enter func53 ntmps53 rfl rfl (SF.s1 ha) ?_;simp only[cN];refine Ka9 ?_;refine E2 ?_;refine aX (λ c4=>?_) (λ c4=>?_)
 ·have e0:a=none:=by cases a with|none=>rfl|some _=>cases c4
  subst e0;obtain rfl:=D8 eR (by decide) ha.H4;refine eD ?_;refine bJ results53 (λ w hw=>?_);exact⟨(none,0),rfl,trivial,(hw.Us (F':=[(none,[])]) (λ f hf=>.inl (by rw[List.mem_singleton.1 hf]))).fS⟩
 ·refine Kc4 ?_;refine aH (Hh gZ) (λ x5=>?_);refine aB ?_;(refine aH (aW.cX (dG (sz:=2) (cs:=[]) (m:=0) rf rf rP rfl (.old .head) (by rw[mF eR]) (D2 (λ _=>rfl) _) gZ rfl (by decide) dP (by omega)) jK) (λ x7=>?_);try (refine dQ (λ h7=>?_)));refine J1 ?_;refine bJ results53 (λ w hw=>?_);exact⟨x7,by simp only[Nat.zero_add];rfl,trivial,(hw.freeze .head).v6⟩
end
end
end Go.Proofs.YtdeecdfockjoiaaGreatDoor
namespace Go.Ct
open Go Go.RowKit
section
def Bl(a:Act)(ds:List Deferred):Act:={a with defers:=a.defers++ds}
section
variable{P:Program}{ds:List Deferred}{next next':Act->World->Prop}{Q Q':Exit->Act->World->Prop}{ops:Array Oper}
theorem G5(a:Act)(dst:Option Tmp)(v:Value):Bl (a.put dst v) ds=(Bl a ds).put dst v:=by cases dst<;>rfl
theorem Lz(a:Act):(Bl a ds).eval=a.eval:=by funext x;cases x<;>rfl
theorem Qo(hq:∀e a w,Q e a w->Q' e (Bl a ds) w)(h:LetsOut Q):LetsOut Q':=by obtain⟨a,w,h⟩:=h;exact⟨_,w,hq _ _ _ h⟩
theorem aAs{o:Oper}{a:Act}{w:World}(hn:∀a w,next a w->next' (Bl a ds) w)(hq:∀e a w,Q e a w->Q' e (Bl a ds) w)(h:o.wp P a w next Q):o.wp P (Bl a ds) w next' Q':=by
 unfold Oper.wp at *;rw[Lz];have key:∀v w,next (a.put o.dst v) w->next' ((Bl a ds).put o.dst v) w:=λ v w h=>by rw[<- G5];exact hn _ _ h
 generalize (execOp a.eval o).run P w=r at *;cases r with
 | ok n w'=>
  cases n<;>simp only[Oper.upon] at h ⊢ <;>
   first
    | exact key _ _ h
    | exact Calls.mono h (λ e w'' he=>by cases e<;>first|exact key _ _ he|exact hq _ _ _ he|exact Qo hq he)
    | exact Rows.mono h (λ _ _ he=>key _ _ he)
    | exact(by have:=hn _ _ h;rw[G5] at this;exact this)
    | exact h
 | halt x w'=>cases x<;>simp only[Oper.upon] at h ⊢ <;> exact hq _ _ _ h
theorem wN(hq:∀e a w,Q e a w->Q' e (Bl a ds) w):∀(fuel:Nat) (listed:Array Bool) (a:Act) (w:World),wpAny P .any ops Q fuel listed a w->wpAny P .any ops Q' fuel listed (Bl a ds) w
 | 0,_,_,_,h=>⟨h.1,hq _ _ _ h.2⟩
 | fuel+1,listed,a,w,h=>⟨λ hr=>hq _ _ _ (h.1 hr),λ i hi=>by
  have hi':=h.2 i hi;unfold wpOp at hi' ⊢;cases ho:ops[i]? with
  | none=>rw[ho] at hi';exact wN hq fuel _ _ _ hi'
  | some o=>
   rw[ho] at hi';simp only at hi' ⊢;have ht:(Bl a ds).tmps=a.tmps:=rfl;rw[ht];split
   ·rename_i hw;rw[if_pos hw] at hi';rcases hi' with h1|⟨h1,h2⟩;·exact .inl (aAs (λ a w h=>wN hq fuel _ a w h) hq h1)
    ·exact .inr ⟨by unfold Oper.asks at *;rw[Lz];exact h1,Qo hq h2⟩
   ·rename_i hw;rw[if_neg hw] at hi';rw[<- G5];exact wN hq fuel _ _ _ hi'⟩
end
section
variable{P:Program}{n:Nat}{ds:List Deferred}{Q:Exit->Act->World->Prop}{ks:List CK}{S:List (Nat×Value)}{G:World->Prop}{ops:Array Oper}
def InD(P:Program)(Q:Exit->Act->World->Prop)(ks:List CK)(ds:List Deferred)(a:Act)(w:World):Prop:=runK P Q ks .normal (Bl a ds) w
def rj(P:Program)(Q:Exit->Act->World->Prop)(ks:List CK)(ds:List Deferred)(e:Exit)(a:Act)(w:World):Prop:=runK P Q ks e (Bl a ds) w
theorem fy(e:Exit)(a:Act)(w:World)(h:runK P (rj P Q ks ds) [.inv (InD P Q ks ds)] e a w):runK P Q ks e (Bl a ds) w:=by cases e<;>exact h
theorem si{id:Nat}(pl:nS)(hm:P.follows .mixedOrders=true)(hG:∀w,G w->G w.drew)(h:JR P n (rj P Q ks ds) [.inv (InD P Q ks ds)] ops pl [] [] [] S G):KD P n ds Q (.code (.region id ops true)::ks) S G:=⟨λ hS w hw=>by
 refine wp_region_any hm (wN fy _ _ ⟨eX n S,[]⟩ _ (h.run _ _ _ _ ⟨hS,hG w hw,by simp,rfl,by simp[eX],λ j hj=>?_,λ _ h=>(List.not_mem_nil h).elim,λ t _=>?_,λ _ h=>(List.not_mem_nil h).elim,λ _ h=>(List.not_mem_nil h).elim,λ i hi=>(hi.elim List.not_mem_nil List.not_mem_nil).elim,λ k hk=>by
  exfalso;rw[Array.getD_eq_getD_getElem?] at hk;cases hx:(Array.replicate ops.size false)[k]? with
  | none=>rw[hx] at hk;cases hk
  | some b=>
   rw[hx] at hk;have:=Array.getElem?_eq_some_iff.1 hx;obtain⟨_,hb⟩:=this
   simp at hb;subst hb;cases hk⟩ ?_))
 ·exfalso;rw[Array.getD_eq_getD_getElem?] at hj;cases hx:(Array.replicate ops.size false)[j]? with
  | none=>rw[hx] at hj;cases hj
  | some b=>rw[hx] at hj;simp only[Option.getD_some] at hj;subst hj;rw[Array.getElem?_replicate] at hx;split at hx<;>simp at hx
 ·exact congrFun (kE (ds:=[]) hS) (.tmp t)
 ·exact Nat.le_trans (List.length_filter_le _ _) (by simp)⟩
theorem tj(h:KD P n ds Q ks S G):JK P n (rj P Q ks ds) [.inv (InD P Q ks ds)] S G:=⟨λ hS w hw=>h.run hS w hw⟩
end
end
end Go.Ct
namespace Go.Proofs.YtdeecdfockjoiaaGreatDoor
open Go.Proofs.Tryz (prog)
open Go Go.RowKit Go.Ct
section
section
variable{n:Nat}{ds:List Deferred}{Q:Exit->Act->World->Prop}{ks:List CK}{S:List (Nat×Value)}{ops:Array Oper}{w0:World}{M:List Nat}{H:List (Nat×Obj)}{A F:Fr}{O:List Ow}
theorem aCr{id:Nat}{pl:nS}(p:List Nat)(h:JR prog n (rj prog Q ks ds) [.inv (InD prog Q ks ds)] ops pl [] [] [] S (SF w0 M H A F O))(hp:sqL p=pl:=by simp only[sqL];exact rfl)(hm:prog.follows .mixedOrders=true:=by kernel_rfl):KD prog n ds Q (.code (.region id ops true)::ks) S (SF w0 M H A F O):=si pl hm (λ _ h=>h.drew) h
end
end
end Go.Proofs.YtdeecdfockjoiaaGreatDoor
namespace Go.Ct
open Go Go.RowKit
section
theorem Oz{P:Program}{S:List (Nat×Value)}{G:World->Prop}{d:Nat}{ty:TypeId}{pos:String}{af:Array Edge}{gd:Option (Nat×Bool)}{x:Operand}{nm:String}{t:TypeId}{p:Value}{b:Array Value}(hx:ev S x=.func (.method nm) ⟨[.iface t p]⟩ b)(h:∀w,(nilAhead (P.types.size+100) t p nm).run P w=.ok (some false) w):aN P S G ⟨some d,.nilCheck x,ty,pos,af,gd⟩ (.func (.method nm) ⟨[.iface t p]⟩ b):=⟨λ w _=>by simp[execOp,hx,h,go_sem,Result.andThen]⟩
end
end Go.Ct
namespace Go.Proofs.YtdeecdfockjoiaaGreatDoor
open Go.Proofs.Tryz
open Go Go.RowKit Go.Ct
section
theorem Ui(p:Option Addr)(w:World):(callMethod (.iface 63 (.pointer p)) "NewGen" #[]).run prog w=.ok (.enter 339 #[.pointer p]) w:=by kernel_rfl
theorem Rb(p:Option Addr)(a:Value)(w:World):(callMethod (.iface 63 (.pointer p)) "NewCell" #[a]).run prog w=.ok (.enter 338 #[.pointer p,a]) w:=by kernel_rfl
theorem Ud(a:Addr)(w:World):(nilAhead (prog.types.size+100) 63 (.pointer (some a)) "Alloc").run prog w=.ok (some false) w:=by kernel_rfl
theorem Me(p:Option Addr):Idle prog 86 #[.pointer p]:=λ w=>by refine callsD_of_wpS func86 rfl λ c₀ cs hu=>?_;apply wpS_seq;apply wpS_region;simp[wpOpsS,go_sem,recoverD,hu,ntmps86,Exit.thenS];refine wpS_cond (t:=false) E1o ?_;simp only[Bool.false_eq_true,if_false];refine wpS_of_wp (wp_skip ?_);cases c₀;simp_all[bodyPostS,results,results86]
def n4:Nd:={Nd.zero with kind:=3}
def aB1(g:Int):Nd:={Nd.zero with kind:=2,gen:=g}
def L2(x y:AX):List dW:=[mX n4 [] [] 0 x]++[mX (aB1 1) [] [] 1 y]
theorem nu{x y:AX}:∀f∈dD (L2 x y),f.2=[]:=by intro f hf;simp[dD,L2,dW.fr,mX,aT,dF] at hf;rcases hf with hf|hf|hf|hf<;>rw[hf]
section
variable{w:World}{D:List Nat}{b:Nat}{acc:Int}{pn:Option Addr}{cn:Nat}{A:Fr}
theorem Yk{x:AX}(hs:SF w D [(b,aO [mX n4 [] [] 0 x] [0] 0 acc x.pn x.cn x.pc x.cc)] A [] (mW [mX n4 [] [] 0 x] [0] x.pn x.cn x.pc x.cc) w) :
  Calls prog 88 #[.iface 63 (.pointer (some ⟨b,0,none⟩)),.int .i64 3] w λ e w'=>∃y:AX,e=.returned (.int .i64 4)/\True/\SF w D [(b,aO (L2 x y) [0,3] 1 acc y.pn y.cn y.pc y.cc)] [] (dD (L2 x y)) (mW (L2 x y) [0,3] y.pn y.cn y.pc y.cc) w':=by refine enter func88 ntmps88 rfl rfl hs ?_;simp only[cN];refine Kd3 ?_;refine aI (Ju (V:=λ _:Unit=>.int .i64 1) (A0:=[]) (hm:=λ w=>Ui _ w) (hc:=λ w hs=>Zd (gen:=0) hs)) (λ x7 h7=>?_);refine lX ?_;refine fO [0,1,3,4,5,6,2,7,8] ?_;refine yS ?_;refine aP ?_;refine cD (i:=4) (hq:=(jA Jp Jp)) (h:=?_);refine cD (i:=5) (hq:=(Oz rf (Ud _))) (h:=?_);refine aP ?_;refine bR (i:=2) (hq:=(cV (hc:=λ w1 hw=>Nw 1 w1))) (h:=λ x10=>?_);refine bE (i:=7) (hq:=(Ju (A0:=[(none,aT []),(none,dF [])]) (hm:=λ w=>fP _ _ _ w) (hc:=λ w hs=>Aq (L:=[mX n4 [] [] 0 x]) (cs:=[0]) (n:=aB1 1) (xs:=[]) (ys:=[]) 3 hs rfl rfl (by decide) (by decide) (by simp) (by decide)))) (h:=λ x15 h15=>?_);refine J7 ?_;refine bJ results88 (λ w hw=>?_);exact⟨x15,rfl,trivial,(hw.Us (λ f hf=>.inl (nu f hf))).v6⟩
theorem R5(hs:SF w D [(b,aO [] [] 0 acc pn cn none 0)] A [] (mW [] [] pn cn none 0) w) :
  Calls prog 57 #[.iface 63 (.pointer (some ⟨b,0,none⟩))] w λ e w'=>∃q:AX×AX×Option Addr×Nat,e=.returned (.agg ⟨[.int .i64 3,.bool false]⟩)/\True/\SF w D [(b,aO (L2 q.1 q.2.1) [0,3,4] 1 acc q.2.1.pn q.2.1.cn q.2.2.1 q.2.2.2)] [] (dD (L2 q.1 q.2.1)) (mW (L2 q.1 q.2.1) [0,3,4] q.2.1.pn q.2.1.cn q.2.2.1 q.2.2.2) w':=by refine Ny func57 ntmps57 rfl rfl hs ?_;simp only[cN];refine K2a ?_;refine sB (λ x2=>?_);refine K1y ?_;refine aCr [0,2,3,1,4,5] ?_;refine aP ?_;refine cD (i:=2) (hq:=(jU rf)) (h:=?_);refine aP ?_;refine bR (i:=1) (hq:=(cV (hc:=λ w1 hw=>W4 w1))) (h:=λ x7=>?_);refine bE (i:=4) (hq:=(Ju (A0:=[(none,aT []),(none,dF [])]) (hm:=λ w=>fP _ _ _ w) (hc:=λ w hs=>Aq (L:=[]) (cs:=[]) (n:=n4) (xs:=[]) (ys:=[]) 0 hs rfl rfl (by decide) (by decide) (by decide) (by decide)))) (h:=λ x10 h10=>?_);refine sI (h:=λ _=>?_);refine dA ?_;refine tj ?_;refine K2a ?_;refine lC ?_;refine lC ?_;refine tD (cM (A0:=[]) (hc:=λ w hs=>Yk (x:=x10) hs)) (λ x13 h13=>?_);refine sZ (λ _=>?_);refine iA ?_;refine K2a ?_;refine lC ?_;refine lC ?_;refine tD (Ju (A0:=[]) (hm:=λ w=>Rb _ _ w) (hc:=λ w hs=>tT (L:=L2 x10 x13) (cs:=[0,3]) 4 hs (by decide))) (λ x16 h16=>?_);refine ja ?_;refine F3 (cC λ _=>aC rf bI rf rfl cY rf dM) (λ _=>?_);refine iA ?_;refine A6 (Me _) (by kernel_rfl) results57 (.cell rf bI cY .nil) (λ w hw=>?_);exact⟨(x10,x13,x16.1,x16.2),rfl,trivial,hw.ret E0a (bM.dB λ f hf=>by simp[hf]) (List.Sublist.refl _)⟩
theorem Tf(hs:SF w D [(b,aO [] [] 0 acc pn cn none 0)] A [] (mW [] [] pn cn none 0) w) :
  Calls prog 39 #[.iface 63 (.pointer (some ⟨b,0,none⟩))] w λ e w'=>∃q:AX×AX×Option Addr×Nat,e=.returned (.agg ⟨[.int .i64 3,.bool false]⟩)/\True/\SF w D [(b,aO (L2 q.1 q.2.1) [0,3,4] 1 acc q.2.1.pn q.2.1.cn q.2.2.1 q.2.2.2)] [] (dD (L2 q.1 q.2.1)) (mW (L2 q.1 q.2.1) [0,3,4] q.2.1.pn q.2.1.cn q.2.2.1 q.2.2.2) w':=by refine enter func39 ntmps39 rfl rfl hs ?_;simp only[cN];refine J0 ?_;refine aJ (λ x2=>?_);refine Kb5 ?_;refine aI (cM (A0:=[]) (hc:=λ w hs=>R5 hs)) (λ x4 h4=>?_);refine aM (cC λ _=>aC rf bI rf rfl cY rf dM) (λ _=>?_);refine aE ?_;refine bF results39 (λ w hw=>?_);exact⟨x4,rfl,trivial,hw.ret E0a (bM.dB λ f hf=>by simp[hf]) (List.Sublist.refl _)⟩
end
end
section
structure uP where
 p:Option Addr
 c:Nat
 l:List jX
def kI(ls:List uP):List Value:=ls.map λ s=>.slice s.p s.l.length s.c
theorem Py(ls:List uP):(kI ls).length=ls.length:=by simp[kI]
theorem V7{ls:List uP}{i:Nat}(h:i<ls.length):(kI ls)[i]?=some (.slice ls[i].p ls[i].l.length ls[i].c):=by simp[kI,h]
section
variable{w:World}{D:List Nat}{A:Fr}{b:Nat}{acc:Int}{pn:Option Addr}{cn:Nat}
theorem Z6{m:Int}{ls:List uP}{p p2:Option Addr}{c c2 n:Nat}(h8:ls.length<=8)(h16:∀s∈ls,s.l.length<=16)(hn:n<=67108864)(hcl:Go.Ct.Cl w p (kI ls)) :
  Calls prog 21 #[.agg ⟨[.int .u64 m,.slice p ls.length c,.slice p2 n c2]⟩] w λ e w'=>e=.returned (.int .i64 0)/\St w [] [] w':=by
 refine enter func21 ntmps21 rfl rfl (SF.begin (A:=[(p,kI ls)]) (λ f hf=>by rcases List.mem_singleton.1 hf with rfl;exact hcl)) ?_;simp only[cN];refine J0 ?_;refine bC (λ x1=>?_);refine lX ?_;refine jN ?_;refine cP ?_;refine vI ?_;refine aB ?_;(refine mN 9 (λ g9=>?_) (λ g9=>?_)<;>(try ((exfalso;omega)))<;>((refine aF ?_;refine aQ ?_)));((refine Kc5 ?_));((refine aF ?_;refine cP ?_));refine w9 ?_;refine aE ?_;refine aX (λ c14=>?_) (λ c14=>?_);·try ((exfalso;omega))
 ·try (first|contradiction|(exfalso;omega))
  refine lL ?_;refine jN ?_;refine Ka8 ?_;refine kP [2,4,18,19,20,21,22,23,24,25] (λ i:Nat=>[(18,.int .i64 ((i:Nat):Int))]) (λ i=>i<=ls.length) (λ i=>ls.length-i) (0) (Nat.zero_le _) ?_ (λ k f hx=>?_);·repeat (first|exact bX _|refine bL (by exact rfl) ?_)
  refine K4a ?_;refine aX (λ c19=>?_) (λ c19=>?_)
  ·try (first|contradiction|(exfalso;omega))
   have hkl:k<ls.length:=by omega
   have h16k:=h16 _ (List.getElem_mem hkl);refine Ke1 ?_;refine aA (cK (k:=k) (cs:=kI ls) rf rf dP eL (.old .head) hkl (by rw[Py];exact hkl)) rfl ?_;refine aA (cG (q:=k) (cs:=kI ls) rf eL (.old .head) (V7 hkl)) rfl ?_;refine Kb7 ?_;refine cP ?_;refine vI ?_;refine aE ?_;refine aX (λ c24=>?_) (λ c24=>?_)
   ·try ((exfalso;omega))
   ·try (first|contradiction|(exfalso;omega))
    refine Kc1 ?_;refine hJ (k+1) ?_ ?_ ?_;·omega
    ·repeat' (first|exact bX _|refine bL ?_ ?_)
     exact rfl
    ·exact hkl
  ·try (first|contradiction|(exfalso;omega))
   refine K1z ?_;refine eD ?_;refine bJ results21 (λ w hw=>?_);exact⟨rfl,hw.done⟩
theorem w5{m:Nat}(hs:SF w D [(b,aO [] [] 0 acc pn cn none 0)] A [] (mW [] [] pn cn none 0) w) :
  Calls prog 23 #[.iface 63 (.pointer (some ⟨b,0,none⟩)),.int .u64 (m:Int)] w λ e w'=>∃x:(Nat×Nat×Nat×Nat)×AX×AX×Option Addr×Nat,e=.returned (pt x.1.1)/\True/\SF w D [(x.1.1,sL b m x.1.2.1 x.1.2.2.1 x.1.2.2.2),(x.1.2.1,cQ [] 0),(x.1.2.2.1,cQ (Jy t3) 1),(b,aO (L2 x.2.1 x.2.2.1) [0,3,4] 1 acc x.2.2.1.pn x.2.2.1.cn x.2.2.2.1 x.2.2.2.2)] [] (dD (L2 x.2.1 x.2.2.1)) (mW (L2 x.2.1 x.2.2.1) [0,3,4] x.2.2.1.pn x.2.2.1.cn x.2.2.2.1 x.2.2.2.2) w':=by
 refine enter func23 ntmps23 rfl rfl hs ?_;simp only[cN];refine eD ?_;refine lV ?_;refine aH (cC λ _=>mQ) (λ x8=>?_);refine aH (cC λ _=>mQ) (λ x9=>?_);refine aH (cC λ _=>mQ) (λ x10=>?_);refine cI ?_;refine bC (λ x12=>?_);refine Kc7 ?_;refine aA (Mr rf rf (vA _)) rfl ?_;refine aE ?_;refine aX (λ c14=>?_) (λ c14=>?_);·refine eO [(0,[]),(1,[]),(2,[]),(3,[]),(4,[]),(5,[3]),(6,[])] ?_;refine Kd4 ?_;refine bE (i:=5) (hq:=(cM (V:=λ _:AX×AX×Option Addr×Nat=>.agg ⟨[.int .i64 3,.bool false]⟩) (A0:=[]) (hs:=[(b,aO [] [] 0 acc pn cn none 0)]) (os:=mW [] [] pn cn none 0) (hc:=λ w hs=>Tf hs))) (h:=λ x20 h20=>?_);refine eT (i:=6) (hq:=(cC λ _=>Nf (K:=3) (E:=42) (dK:=.int .i64) (k:=.int .i64 0) (v:=.agg ⟨[.int .i64 3,.bool false]⟩) (es:=[]) (c:=0) rf rf rf bI (by kernel_rfl) (by kernel_rfl) rfl rfl dM)) (h:=λ _=>?_);refine dA ?_;refine Kd6 ?_;refine bJ results23 (λ w hw=>?_);exact⟨((x12,x8,x9,x10),x20),rfl,trivial,(hw.perm (H':=[(x12,sL b m x8 x9 x10),(x8,cQ [] 0),(x9,cQ (Jy t3) 1),(x10,cQ [] 0),(b,aO (L2 x20.1 x20.2.1) [0,3,4] 1 acc x20.2.1.pn x20.2.1.cn x20.2.2.1 x20.2.2.2)]) ((((List.Perm.swap _ _ _).cons _).trans (((List.Perm.swap _ _ _).cons _).cons _)).trans (((List.Perm.swap _ _ _).cons _).trans (List.Perm.refl _))) (List.Perm.refl _)).ret E0d (bM.dB λ f hf=>by simpa using hf) (List.Sublist.refl _)⟩
 ·exact nv c14
theorem Hl{bm bT:Nat}{pk:Option Addr×Nat×Nat}{V:MV}(hl:V.hi.length<=1000000)(hs:SF w D [(bm,Gc b bT pk V)] A [] (ax V) w) :
  Calls prog 10 #[pt bm] w λ e w'=>∃x:Option Addr×Nat,e=.returned (.slice x.1 V.hi.length x.2)/\True/\SF w D [(bm,Gc b bT pk V)] [] [(x.1,Fk V.hi)] (ax V) w':=by refine enter func10 ntmps10 rfl rfl hs ?_;simp only[cN];refine eD ?_;refine qQ ?_;refine aI (cF (hc:=λ w1 hw=>U2 (hw.cl (.own .head)) (by omega))) (λ x7 h7=>?_);refine J1 ?_;refine bJ results10 (λ w hw=>?_);exact⟨x7,rfl,trivial,hw.ret (List.Sublist.refl _) (bM.dB λ f hf=>by simpa using hf) (List.Sublist.refl _)⟩
end
end
end Go.Proofs.YtdeecdfockjoiaaGreatDoor
namespace Go.Ct
open Go Go.RowKit
section
def Xv(l:List Nat)(i n:Nat):List Value:=Vy (l.take i)++List.replicate (n-i) (.int .i8 0)
theorem Fs{l:List Nat}{i n:Nat}(hi:i<=n)(hn:l.length=n):(Xv l i n).length=n:=by unfold Xv;rw[List.length_append,Nb,List.length_take,List.length_replicate];omega
theorem ee{l:List Nat}{i n:Nat}(hi:i<n)(hn:l.length=n)(a:Value)(k:Nat)(hk:l[i]?=some k):((Xv l i n).set i a).set i (.int .i8 ((k:Nat):Int))=Xv l (i+1) n:=by
 have e1:l.take (i+1)=l.take i++[k]:=by rw[List.take_add_one,hk];rfl
 have e2:n-i=(n-(i+1))+1:=by omega
 have hl:(Vy (l.take i)).length=i:=by rw[Nb,List.length_take];omega
 unfold Xv;rw[e1,List.set_set,List.set_append_right _ _ (by omega),hl,Nat.sub_self,e2,List.replicate_succ,List.set_cons_zero];simp[Vy]
theorem v7(l:List Nat):Xv l l.length l.length=Vy l:=by simp[Xv]
theorem cg(l:List Nat)(n:Nat):Xv l 0 n=List.replicate n (.int .i8 0):=by simp[Xv,Vy]
theorem sr(k:Nat):made [.int .i8 0] k=List.replicate k (.int .i8 0):=by
 refine List.ext_getElem? λ i=>?_;by_cases hi:i<k;·simp[made,madeCells,Array.getElem?_toList,Array.getElem?_map,Array.getElem?_range,hi,Nat.mod_one]
 ·rw[List.getElem?_eq_none (by rw[mT];simp;omega),List.getElem?_eq_none (by simp;omega)]
end
end Go.Ct
namespace Go.Proofs.YtdeecdfockjoiaaGreatDoor
open Go.Proofs.Tryz
open Go Go.RowKit Go.Ct
section
theorem Qi:dU prog 65 78 [.slice none 0 0,.int .i64 0,.pointer none]:=gR (z:=.agg ⟨[.slice none 0 0,.int .i64 0,.pointer none]⟩) (by kernel_rfl) (by kernel_rfl) rfl
theorem lc:dU prog 66 79 [.int .i8 0]:=gR (z:=.int .i8 0) (by kernel_rfl) (by kernel_rfl) rfl
abbrev pxO:Obj:=.cells ⟨[]⟩ 0 (0,0)
abbrev eh(acc:Int)(x y:AX)(pc:Option Addr)(cc:Nat):AS:=⟨L2 x y,[0,3,4],1,acc,y.pn,y.cn,pc,cc,0,pxO,Hv⟩
theorem kf(acc:Int)(x y:AX)(pc:Option Addr)(cc:Nat):(eh acc x y pc cc).Ok:=by
 refine⟨?_,⟨?_,?_,?_⟩⟩;·intro v hv;simp[L2] at hv;rcases hv with rfl|rfl<;>exact U7 (by decide) (by decide)
 ·intro v hv;simp only[AS.mm,aV,L2,List.cons_append,List.nil_append,List.map_cons,List.map_nil,List.mem_cons,List.not_mem_nil,or_false] at hv;have z:(0:Int)<=((4:Nat):Int):=by decide
  have z3:(0:Int)<=((3:Nat):Int):=by decide
  have zb:∃b:Nat,(0:Int)=(b:Int)/\b<18446744073709551616:=⟨0,rfl,by decide⟩;rcases hv with rfl|rfl|rfl|rfl
  ·exact⟨z,z,z,(λ r hr=>nomatch hr),z3,z3,z3,zb,zb⟩
  ·exact⟨z,z,z,(λ r hr=>nomatch hr),z3,z3,z3,zb,zb⟩
  ·exact⟨z,z,z,(λ r hr=>nomatch hr),z3,by show(1:Int)<=((3:Nat):Int);decide,z3,zb,zb⟩
  ·exact⟨z,z,z,(λ r hr=>nomatch hr),by show(2:Int)<=((3:Nat):Int);decide,z3,z3,zb,zb⟩
 ·intro v hv;have h4:((AS.mm (eh acc x y pc cc)).nodes.length:Int)=4:=rfl;rw[h4];simp only[AS.mm,List.mem_cons,List.not_mem_nil,or_false] at hv;rcases hv with rfl|rfl|rfl<;>decide
 ·show 2<=4;decide
def Nj(ops:List (List jX))(π:Pv):AM:=⟨⟨[Eh.c,Eh.c,fY Mc 0,fY (eY 1) 1],[0,3,4],1,π⟩,ops.map λ l=>⟨l,0,none⟩,[]⟩
structure NW where
 b:Nat
 bm:Nat
 bT:Nat
 bo:Nat
 bt:Nat
 bi:Nat
 pk:Option Addr×Nat×Nat
 V:MV
end
section
def E5(l:List Nat):List Int:=l.map λ k=>((k:Nat):Int)
theorem fp(l:List Nat):(E5 l).length=l.length:=by simp[E5]
theorem qk{l:List Nat}{i k:Nat}(h:l[i]?=some k):(E5 l).getD i 0=((k:Nat):Int):=by simp[E5,List.getD,h]
theorem lh{q:Nat}(h:q<8):IntKind.i8.wrap ((q:Nat):Int)=((q:Nat):Int):=by
 have:q=0∨q=1∨q=2∨q=3∨q=4∨q=5∨q=6∨q=7:=by omega
 rcases this with rfl|rfl|rfl|rfl|rfl|rfl|rfl|rfl<;>decide
structure NTh(ls:List uP)(i:Nat)(l:List jD)(F:Fr):Prop where
 len:l.length=i
 abs:l.map jD.abs=(ls.take i).map λ s=>⟨s.l,0,none⟩
 pr:∀t∈l,t.pr=none/\(t.op,iB t.ops)∈F
theorem NTh.next{ls:List uP}{i:Nat}{l:List jD}{F:Fr}(h:NTh ls i l F){s:uP}(hs:ls[i]?=some s)(p:Option Addr)(c:Nat):NTh ls (i+1) (l++[⟨p,c,s.l,0,none⟩]) ((p,iB s.l)::F):=by
 refine⟨by simp[h.len],?_,λ t ht=>?_⟩;·rw[List.map_append,h.abs,List.take_add_one,hs,List.map_append];rfl
 ·rcases List.mem_append.1 ht with ht|ht;·exact⟨(h.pr t ht).1,List.mem_cons_of_mem _ (h.pr t ht).2⟩
  ·rw[List.mem_singleton.1 ht];exact⟨rfl,.head _⟩
structure aBI(m:Nat)(ls:List uP)(pk:List Nat)(x:NW):Prop where
 mi:MI x.b 0 (Nj (ls.map uP.l) x.V.a.pv) x.V
 pkm:(x.pk.1,Vy pk)∈x.V.B
 pl:x.pk.2.1=pk.length
abbrev NW.H(m:Nat)(x:NW):List (Nat×Obj):=xu m x.b x.bm x.bT x.bo x.bt x.bi x.pk x.V
set_option maxRecDepth 100000 in
set_option maxHeartbeats 1000000 in
theorem X8{w:World}{m:Nat}{ls:List uP}{pk:List Nat}{p p2:Option Addr}{c c2:Nat}(hs8:ls.length<=8)(hs16:∀s∈ls,s.l.length<=16/\∀o∈s.l,Gs o)(hn:pk.length<=67108864)(hpk:∀k∈pk,k<ls.length)(hcl:Go.Ct.Cl w p (kI ls))(hcp:Go.Ct.Cl w p2 (aT (E5 pk)))(hco:∀s∈ls,Go.Ct.Cl w s.p (iB s.l)) :
  Calls prog 13 #[.agg ⟨[.int .u64 (m:Int),.slice p ls.length c,.slice p2 pk.length c2]⟩] w λ e w'=>∃x:NW,e=.returned (.tuple #[pt x.bm,.int .i64 0])/\aBI m ls pk x/\SF w [] (NW.H m x) [] x.V.B (xQ x.V) w':=by
 refine enter func13 ntmps13 rfl rfl (SF.begin (A:=(p,kI ls)::(p2,aT (E5 pk))::ls.map λ s=>(s.p,iB s.l)) (λ f hf=>by
rcases List.mem_cons.1 hf with rfl|hf
·exact hcl
rcases List.mem_cons.1 hf with rfl|hf
·exact hcp
·obtain⟨s,hs,rfl⟩:=List.mem_map.1 hf
 exact hco s hs)) ?_
 simp only[cN]
 all_goals (refine J0 ?_;refine bC (λ x1=>?_);refine J8 ?_;refine aL ?_;refine oT ?_;refine aH (cV (hc:=λ w1 hw=>Z6 hs8 (λ s hs=>(hs16 s hs).1) hn (hw.cl (.old .head)))) (λ x12=>?_);refine Kb7 ?_;refine Kc0 ?_)
 all_goals
 refine aX (λ c14=>?_) (λ c14=>?_)
 ·exact nv c14
 ·all_goals try (first|contradiction|(exfalso;omega))
  all_goals (refine Kc4 ?_;refine aI (aj (Hc:=λ q=>[(q,aO [] [] 0 0 none 0 none 0)]) (Fc:=λ _=>[]) (Oc:=λ _=>mW [] [] none 0 none 0) (hc:=λ w1 hw=>aA9 w1)) (λ x16 h16=>?_);refine Jo ?_;refine aA (ov rf (Zu _)) rfl ?_;refine J3 ?_;refine aI (Og (V:=λ x:(Nat×Nat×Nat×Nat)×AX×AX×Option Addr×Nat=>pt x.1.1) (hs:=[(x16,aO [] [] 0 0 none 0 none 0)]) (os:=mW [] [] none 0 none 0) (hs':=λ x=>[(x16,aO (L2 x.2.1 x.2.2.1) [0,3,4] 1 0 x.2.2.1.pn x.2.2.1.cn x.2.2.2.1 x.2.2.2.2)]) (Hc:=λ x=>[(x.1.1,sL x16 m x.1.2.1 x.1.2.2.1 x.1.2.2.2),(x.1.2.1,cQ [] 0),(x.1.2.2.1,cQ (Jy t3) 1)]) (os':=λ x=>mW (L2 x.2.1 x.2.2.1) [0,3,4] x.2.2.1.pn x.2.2.1.cn x.2.2.2.1 x.2.2.2.2) (Oc:=λ _=>[]) (Fc:=λ x=>dD (L2 x.2.1 x.2.2.1)) (A0:=[]) (hc:=λ w1 hw=>(w5 (m:=m) hw).mono λ _ _ ⟨x,e,h,hw⟩=>⟨x,e,h,by rw[List.append_nil];exact hw.perm (List.perm_append_comm (l₁:=[(x16,aO (L2 x.2.1 x.2.2.1) [0,3,4] 1 0 x.2.2.1.pn x.2.2.1.cn x.2.2.2.1 x.2.2.2.2)]) (l₂:=[(x.1.1,sL x16 m x.1.2.1 x.1.2.2.1 x.1.2.2.2),(x.1.2.1,cQ [] 0),(x.1.2.2.1,cQ (Jy t3) 1)])) (List.Perm.refl _)⟩)) (λ x22 h22=>?_);refine cI ?_;refine bC (λ x24=>?_);refine lX ?_;refine jN ?_;refine Ka8 ?_)
  all_goals
   refine sF [8,28,29,30,31,32,33,34,35,36,37,38,39,40,41,42,43,44] (λ y:Nat×List jD×Option Addr×Nat×Fr=>[(28,.int .i64 ((y.1:Nat):Int))]) (λ y=>y.1<=ls.length/\NTh ls y.1 y.2.1 y.2.2.2.2) (λ y=>[(x24,.cells ⟨[pt x16,pt x22.1.1,.slice y.2.2.1 y.2.1.length y.2.2.2.1,.slice none 0 0,.slice none 0 0,.int .i64 0]⟩ 68 (0,0)),(x22.1.1,sL x16 m x22.1.2.1 x22.1.2.2.1 x22.1.2.2.2),(x22.1.2.1,cQ [] 0),(x22.1.2.2.1,cQ (Jy t3) 1),(x16,aO (L2 x22.2.1 x22.2.2.1) [0,3,4] 1 0 x22.2.2.1.pn x22.2.2.1.cn x22.2.2.2.1 x22.2.2.2.2),(x1,.cells ⟨[.int .u64 (m:Int),.slice p ls.length c,.slice p2 pk.length c2]⟩ 34 (0,0))]) (λ y=>y.2.2.2.2) (λ y=>⟨y.2.2.1,cu y.2.1,y.2.2.2.1,78,3⟩::mW (L2 x22.2.1 x22.2.2.1) [0,3,4] x22.2.2.1.pn x22.2.2.1.cn x22.2.2.2.1 x22.2.2.2.2) (λ y=>ls.length-y.1) ((0,[],none,0,[])) (⟨Nat.zero_le _,rfl,rfl,λ t ht=>nomatch ht⟩) (λ y f hx=>?_) (hw0:=λ w hw=>(hw.gN 78 3).back (hF:=bM.nil));refine K0c ?_;obtain⟨hy1,hy2⟩:=hx
   have hyl:=hy2.len;all_goals (refine Ka1 ?_)
   all_goals
   refine aX (λ c29=>?_) (λ c29=>?_)
   ·all_goals try (first|contradiction|(exfalso;omega))
    all_goals
     have hkl:y.1<ls.length:=by omega
     have hat:=V7 hkl;have hoA:(ls[y.1].p,iB ls[y.1].l)∈ls.map λ s=>(s.p,iB s.l):=List.mem_map.2 ⟨_,List.getElem_mem hkl,rfl⟩;have h16k:=(hs16 _ (List.getElem_mem hkl)).1;have hst:ls[y.1]?=some ls[y.1]:=List.getElem?_eq_getElem hkl;generalize ls[y.1]=s at hat hoA h16k hst
    all_goals (refine Ke1 ?_;refine aA (cK (k:=y.1) (cs:=kI ls) rf rf dP eL (.old .head) hkl (by rw[Py];exact hkl)) rfl ?_;refine aA (cG (q:=y.1) (cs:=kI ls) rf eL (.old .head) hat) rfl ?_;refine J1 ?_;refine eO [(0,[]),(1,[]),(2,[]),(3,[]),(4,[]),(5,[]),(6,[4]),(7,[]),(8,[4]),(9,[]),(10,[]),(11,[]),(12,[])] ?_;refine Em ?_;refine aP ?_;refine bE (i:=6) (hq:=(cF (hc:=λ w1 hw=>Va (hw.cl (.old (.tail (.tail (mU.eU hoA))))) (by omega)))) (h:=λ x38 h38=>?_);refine iZ ?_;refine bR (i:=8) (hq:=(by exact gG λ _=>aU Qi nK rf rf rf rf (by simp only[dS,cL,List.cons_append,List.nil_append,List.append_nil];exact rfl))) (h:=λ x40=>?_);((refine bR (i:=9) (hq:=(aW.cX (tS (f:=jD.cells) (v1:=⟨x38.1,x38.2,s.l,0,none⟩) dO (by decide) rfl rf rf .head rfl (.new .head) Qi rfl dP (by omega)) jK)) (h:=λ x41=>?_);try (refine eZ (λ h41=>?_))));refine Ln ?_;refine Kb0 ?_)
    all_goals
     refine xS ((y.1+1,y.2.1++[⟨x38.1,x38.2,s.l,0,none⟩],x41.1,x41.2,(x38.1,iB s.l)::y.2.2.2.2)) ?_ (hw1:=λ w hw=>by rw[show y.2.1.length+1=(y.2.1++[(⟨x38.1,x38.2,s.l,0,none⟩:jD)]).length by simp] at hw;exact hw.back (hF:=bM.dB λ f hf=>by simp at hf ⊢;rcases hf with h|h<;>simp[h]))
     ·exact⟨hkl,hy2.next hst _ _⟩
   ·all_goals try (first|contradiction|(exfalso;omega))
    all_goals (refine bD rfl ?_;refine J2 ?_;refine J85 ?_;refine aH (pF rf rf lc (by omega) (by omega) (sr pk.length)) (λ x49=>?_);refine E4 ?_;refine Ga ?_;refine Ka8 ?_)
    all_goals
     refine sF [9,10,55,56,57,58,59,60,61,62,63,64,65,66,67,68,69,70,71,72,73,74,75,76,77,78,79,80,81,82,83,84,85] (λ z:Nat=>[(55,.int .i64 ((z:Nat):Int))]) (λ z=>z<=pk.length) (λ z=>[(x24,.cells ⟨[pt x16,pt x22.1.1,.slice y.2.2.1 y.2.1.length y.2.2.2.1,.slice (some ⟨x49,0,none⟩) pk.length pk.length,.slice none 0 0,.int .i64 0]⟩ 68 (0,0)),(x22.1.1,sL x16 m x22.1.2.1 x22.1.2.2.1 x22.1.2.2.2),(x22.1.2.1,cQ [] 0),(x22.1.2.2.1,cQ (Jy t3) 1),(x16,aO (L2 x22.2.1 x22.2.2.1) [0,3,4] 1 0 x22.2.2.1.pn x22.2.2.1.cn x22.2.2.2.1 x22.2.2.2.2),(x1,.cells ⟨[.int .u64 (m:Int),.slice p ls.length c,.slice p2 pk.length c2]⟩ 34 (0,0))]) (λ z=>y.2.2.2.2) (λ z=>⟨some ⟨x49,0,none⟩,Xv pk z pk.length,pk.length,79,1⟩::⟨y.2.2.1,cu y.2.1,y.2.2.2.1,78,3⟩::mW (L2 x22.2.1 x22.2.2.1) [0,3,4] x22.2.2.1.pn x22.2.2.1.cn x22.2.2.2.1 x22.2.2.2.2) (λ z=>pk.length-z) (0) (Nat.zero_le _) (λ z f hx=>?_) (hw0:=λ w hw=>by rw[cg];exact hw.zA0);refine K0c ?_;all_goals (refine Ka1 ?_)
     all_goals
     refine aX (λ c56=>?_) (λ c56=>?_)
     ·all_goals try (first|contradiction|(exfalso;omega))
      all_goals
       have hzl:z<pk.length:=by omega
       have hzt:pk[z]?=some pk[z]:=List.getElem?_eq_getElem hzl;have hzk:=hpk _ (List.getElem_mem hzl);generalize pk[z]=q at hzt hzk;have hzn:=qk hzt;have hq8:q<8:=by omega
      all_goals (refine Ka6 ?_;refine aA (lY (lst:=E5 pk) (k:=z) rf rf dP eL (.old (.tail .head)) hzl (by rw[fp];exact hzl)) rfl ?_;refine aA (cG (q:=z) (cs:=aT (E5 pk)) (v:=.int .i64 ((q:Nat):Int)) rf eL (.old (.tail .head)) (by rw[<- hzn];simp[aT,E5,List.getD,hzt])) rfl ?_;refine J8 ?_;refine qQ ?_;refine aB ?_;refine aA (cK (k:=z) (cs:=Xv pk z pk.length) rf rf dP eL (.own .head) hzl (by rw[Fs hx rfl];exact hzl)) rfl ?_;refine aM (aW.gJ (kZ (q:=z) (cs:=Xv pk z pk.length) rf rf rfl eL rP (by rw[Fs hx rfl];exact hzl)) jK) (λ _=>?_);refine Kb5 ?_;refine iF ?_;refine aB ?_)
      all_goals ((refine Ka2 ?_))
      all_goals (((refine Ka2 ?_));((refine Kc9 ?_));refine J43 ?_;refine Cn ?_;refine aE ?_)
      all_goals
       refine aX (λ c76=>?_) (λ c76=>?_)
       ·all_goals try (first|contradiction|(exfalso;omega))
        all_goals (refine Cg ?_;refine bN ?_;refine J3 ?_;refine Df ?_;refine aA (rZ rf (by exact rD (k:=.i64) rfl) (by exact rD (k:=.i8) rfl)) rfl ?_;refine aA (cK (k:=z) (cs:=(Xv pk z pk.length).set z (.int .i8 (-1))) rf rf dP eL (.own .head) hzl (by rw[List.length_set,Fs hx rfl];exact hzl)) rfl ?_;refine aM (aW.gJ (kZ (q:=z) (v:=.int .i8 (IntKind.i8.wrap ((q:Nat):Int))) (cs:=(Xv pk z pk.length).set z (.int .i8 (-1))) rf rf rfl eL rP (by rw[List.length_set,Fs hx rfl];exact hzl)) jK) (λ _=>?_);refine aE ?_;refine Kb0 ?_)
        all_goals
        refine xS (z+1) ?_ (hw1:=λ w hw=>by rw[show IntKind.i8.wrap ((q:Nat):Int)=((q:Nat):Int) from lh hq8,ee hzl rfl _ q hzt] at hw;exact hw.zA0)
        ·exact hzl
       ·all_goals try (first|contradiction|(exfalso;omega))
     ·all_goals try (first|contradiction|(exfalso;omega))
      all_goals (refine bD rfl ?_;refine J2 ?_;refine J8 ?_)
      all_goals
       refine bF results13 (λ w hw=>?_);have hzl:z=pk.length:=by omega
       have hyl2:y.1=ls.length:=by omega
       subst hzl
       rw[v7] at hw
       obtain⟨n1,n2,n3⟩:=hy2
       rw[hyl2,List.take_length] at n2;have hfl:y.2.1.flatMap (No x16)=[]:=List.flatMap_eq_nil_iff.2 λ t ht=>by unfold No;rw[(n3 t ht).1]
       have hfo:y.2.1.flatMap Pg=[]:=List.flatMap_eq_nil_iff.2 λ t ht=>by unfold Pg;rw[(n3 t ht).1]
       refine⟨⟨x16,x24,x22.1.1,x22.1.2.1,x22.1.2.2.1,x22.1.2.2.2,(some ⟨x49,0,none⟩,pk.length,pk.length),⟨eh 0 x22.2.1 x22.2.2.1 x22.2.2.2.1 x22.2.2.2.2,[],0,y.2.1,y.2.2.1,y.2.2.2.1,[],none,0,0,List.cons (some ⟨x49,0,none⟩,Vy pk) y.2.2.2.2⟩⟩,rfl,⟨⟨kf _ _ _ _ _,rfl,by rw[n2];simp[Nj],rfl,λ k t hk=>?_,λ t ht p hp=>?_,λ f hf=>.inl (nu f hf),λ t ht=>List.mem_cons_of_mem _ (n3 t ht).2,λ t ht=>?_,by show y.2.1.length<=8;omega,Nat.zero_le _⟩,.head _,rfl⟩,?_⟩
       ·unfold Jr
        rw[(n3 t (List.mem_of_getElem? hk)).1]
        intro i _ _
        rfl
       ·rw[(n3 t ht).1] at hp
        cases hp
       ·have hm:t.abs∈ls.map λ s=>(⟨s.l,0,none⟩:X5):=by rw[<- n2];exact List.mem_map.2 ⟨t,ht,rfl⟩
        obtain⟨s,hs,e⟩:=List.mem_map.1 hm
        have e1:t.ops=s.l:=(congrArg X5.ops e).symm;have e2:t.idx=0:=(congrArg X5.idx e).symm;rw[e1,e2];exact⟨(hs16 s hs).1,Nat.zero_le _,λ hne=>absurd (n3 t ht).1 hne,(hs16 s hs).2⟩
       ·show SF _ _ (_::_::_::_::_::y.2.1.flatMap (No x16)) _ _ (_::_::(_++y.2.1.flatMap Pg)) _
        rw[hfl,hfo]
        exact(((hw.freeze .head).gN 61 11).perm (List.Perm.refl _) (List.Perm.swap _ _ _)).ret (by repeat (first|exact List.Sublist.refl _|apply List.Sublist.cons_cons|apply List.Sublist.cons)) (by exact bM.all) (List.Sublist.refl _)
end
end Go.Proofs.YtdeecdfockjoiaaGreatDoor

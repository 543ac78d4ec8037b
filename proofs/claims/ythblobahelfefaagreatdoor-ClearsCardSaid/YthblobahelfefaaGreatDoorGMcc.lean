/- Merged. -/
import Derived.Test.YthblobahelfefaaGreatDoorGMc6
import Derived.Test.YthblobahelfefaaGreatDoorGAr5
import Derived.Test.YthblobahelfefaaGreatDoorGJoin
import Derived.Test.YthblobahelfefaaGreatDoorGSlices
import Derived.Test.YthblobahelfefaaGreatDoorGPx8
set_option linter.unusedSimpArgs false
set_option linter.unusedVariables false
namespace Go.Ct
open Go Go.RowKit
section
theorem fM{P:Program}{S:List (Nat×Value)}{w0:World}{M:List Nat}{H:List (Nat×Obj)}{A F:Fr}{O:List Ow}{d:Nat}{ty t e:TypeId}{pos:String}{af:Array Edge}{gd:Option (Nat×Bool)}{x y:Operand}{a:Option Addr}{cs:List Value}{kk:IntKind}{m c k:Nat}(hx:ev S x=.slice a m c)(hy:ev S y=.int kk ((k:Nat):Int))(ht:P.underlying t=some (.slice e))(hs:one P e=true)(hf:pB A F O a cs)(h1:k<m)(h2:k<cs.length) :
  aH P S (SF w0 M H A F O) ⟨some d,.indexAddr t x y,ty,pos,af,gd⟩ (.pointer (some ⟨cI a,dH a+k,none⟩)):=⟨λ w hw =>
 (Io (G:=SF w0 M H A F O) hx hy ht hs ((hw.cl hf).ptr (by omega)) h1).run w hw⟩
def Yt(l:List Nat):List Value:=l.map λ k=>.int .i8 ((k:Nat):Int)
theorem aDZ{l:List Nat}{i:Nat}(h:i<l.length):(Yt l)[i]?=some (.int .i8 ((l[i]:Nat):Int)):=by simp[Yt,h]
theorem Oh(l:List Nat):(Yt l).length=l.length:=by simp[Yt]
end
end Go.Ct
namespace Go.Proofs.YthblobahelfefaaGreatDoor
open Go Go.RowKit Go.Ct
section
section
variable{D:List Nat}{A:Fr}{b bT bm m bo bt bi k C:Nat}{w:World}{pk:Option Addr×Nat×Nat}{V:MV}{Z:AM}
theorem H3(m:Nat):∀(l:List Nat) (Z:AM),(oD m l Z).th.length=Z.th.length
 | [],_=>rfl
 | k::l,Z=>(H3 m l _).trans (Ca _ _ _)
set_option maxRecDepth 100000 in
theorem W9{n:Nat}{l:List Nat}(h:MI b C Z V)(hn:Z.th.length=n)(hl:∀k∈l,k<n)(hi:∀i (h:i<l.length),Tf m l[i] (oD m (l.take i) Z)/\(oD m (l.take i) Z).s.gM)(hpk:(pk.1,Yt l)∈V.B)(hpl:pk.2.1=l.length)(hC:C+l.length<=400000)(hm0:m<18446744073709551616)(hA2:∀f∈V.B,f∈A)(hs:SF w D (mcH m b bm bT bo bt bi pk V) A [] (Et V) w) :
  Calls Tryz.prog 14 #[pt bm] w λ e w'=>∃x:MV×Fr,e=.returned (.tuple #[])/\(MI b (C+l.length) (oD m l Z) x.1/\x.1.B=x.2++V.B)/\SF w D (mcH m b bm bT bo bt bi pk x.1) [] x.2 (Et x.1) w':=by
 have h8:=h.tl;have hVn:=h.len;refine enter Tryz.func14 Tryz.ntmps14 rfl rfl hs ?_;simp only[bY]
 refine zG ?_;refine Ka9 ?_;refine mE [3,9,10,11,12,13,14,15,16,17] (λ y:Nat×MV×Fr=>[(9,.int .i64 ((y.1:Nat):Int))]) (λ y=>y.1<=l.length/\MI b (C+y.1) (oD m (l.take y.1) Z) y.2.1/\y.2.1.B=y.2.2++V.B) (λ y=>mcL m b bm bT bo bt bi pk y.2.1) (λ y=>y.2.2) (λ y=>Et y.2.1) (λ y=>l.length-y.1) ((0,V,[])) (⟨Nat.zero_le _,h,rfl⟩) (λ y f hx=>?_);refine K0a ?_;obtain⟨hy1,hy2,hy3⟩:=hx;have hlen:y.2.1.th.length=n:=by rw[hy2.len,H3,hn]
 refine Ka7 ?_;refine aX (λ c10=>?_) (λ c10=>?_)
 ·have hyl:y.1<l.length:=by omega
  have hln:=hl _ (List.getElem_mem hyl);have hat:=aDZ hyl;obtain⟨hok,htn⟩:=hi y.1 hyl
  have e:l.take (y.1+1)=l.take y.1++[l[y.1]]:=by rw[List.take_add_one,List.getElem?_eq_getElem hyl];rfl
  generalize l[y.1]=q at hln hat hok e;have hq8:q<8:=by omega
  refine tG ?_;refine J0 ?_;refine aA (fM (k:=y.1) (cs:=Yt l) rf rf fU iH (.old (lQ.dS (hA2 _ hpk))) (by omega) (by rw[Oh];exact hyl)) rfl ?_;refine aA (eY (q:=y.1) (cs:=Yt l) rf iH (.old (lQ.dS (hA2 _ hpk))) hat) rfl ?_;refine J1 ?_;refine U4 ?_;refine eR ?_;refine aJ (cT 0 0 (hs:=mcL m b bm bT bo bt bi pk y.2.1) (os:=Et y.2.1) (A0:=cH y.2.1.a.L++y.2.1.B) (V:=λ x:MV×Fr×Bool=>.bool x.2.2) (F1:=λ x:MV×Fr×Bool=>x.2.1++y.2.2) (hc:=λ w1 hw=>Qz (k:=q) hy2 (by omega) hm0 (by rw[hlen];exact hln) hok htn (λ f hf=>List.mem_append_left _ hf) (λ f hf=>List.mem_append_right _ hf) hw) (hA:=aA7 hy2 hy3 hA2) (hF1:=λ x hx f hf=>.inr hf)) (λ x16 h16=>?_);refine aC ?_;refine Kb6 ?_;refine nS ((y.1+1,x16.1,x16.2.1++y.2.2)) ?_ (hw1:=λ w hw=>hw.v6);·refine⟨hyl,?_,by rw[h16.2,hy3,List.append_assoc]⟩;show MI b (C+y.1+1) (oD m (l.take (y.1+1)) Z) x16.1;rw[e,Lv];exact h16.1
 ·refine K1o ?_;refine Qd Tryz.results14 (λ w hw=>?_);have hyl:y.1=l.length:=by omega
  refine⟨(y.2.1,y.2.2),rfl,⟨?_,hy3⟩,hw.u9.v6⟩;have h2:=hy2;rw[hyl,List.take_length] at h2;exact h2
end
end
end Go.Proofs.YthblobahelfefaaGreatDoor
namespace Go.Ct
open Go Go.RowKit
section
theorem Dc{α:Type}{f:α->List Value}{sz:Nat}(hf:∀a,(f a).length=sz)(h0:0<sz){l:List α}(h:dE f l=[]):l=[]:=by
 have:=iP hf l;rw[h] at this;rcases Nat.mul_eq_zero.1 this.symm with h|h
 ·exact List.eq_nil_of_length_eq_zero h
 ·omega
theorem Dr{α:Type}{f:α->List Value}(h:∀a,(f a).all (·.oneCell')=true)(l:List α):(dE f l).all (·.oneCell')=true:=by rw[List.all_eq_true];intro x hx;obtain⟨a,_,ha⟩:=List.mem_flatMap.1 hx;exact List.all_eq_true.1 (h a) x ha
end
end Go.Ct
namespace Go.Proofs.YthblobahelfefaaGreatDoor
open Go.Proofs.Tryz
open Go Go.RowKit Go.Ct
section
theorem oU:cS prog 28 26 (kA.cells ⟨0,0,⟨#[]⟩,0,0⟩):=fX (z:=.agg ⟨kA.cells ⟨0,0,⟨#[]⟩,0,0⟩⟩) (by kernel_rfl) (by kernel_rfl) rfl
def sU(p:Nat×Nat):List Value:=[.int .i64 ((p.1:Nat):Int),.int .i64 ((p.2:Nat):Int)]
theorem oW(p:Nat×Nat):(sU p).length=2:=rfl
theorem mZ:cS prog 39 91 (sU (0,0)):=fX (z:=.agg ⟨sU (0,0)⟩) (by kernel_rfl) (by kernel_rfl) rfl
section
variable{w:World}{a:Option Addr}{c:Nat}
theorem Vi{l:List gE}(ha:Go.Ct.Cl w a (Uo l))(hl:l.length<=274877906944):Calls prog 25 #[.slice a l.length c] w λ e w' =>
  ∃x:Option Addr×Nat,e=.returned (.slice x.1 l.length x.2)/\True/\SF w [] [] [] [(x.1,Uo l)] [] w':=by
 refine enter func25 ntmps25 rfl rfl (SF.s1 ha) ?_;simp only[bY];refine Ka5 ?_;refine Fe ?_;refine aX (λ c4=>?_) (λ c4=>?_)
 ·have e0:a=none:=by cases a with|none=>rfl|some _=>cases c4
  subst e0;obtain rfl:=Dc mS (by decide) ha.Hf;refine cC ?_;refine aP results25 (λ w hw=>?_);exact⟨(none,0),rfl,trivial,(hw.db (F':=[(none,[])]) (λ f hf=>.inl (by rw[List.mem_singleton.1 hf]))).eP⟩
 ·refine Kb5 ?_;refine aK (H4 rC) (λ x5=>?_);refine aD ?_;(refine aK (aQ.eG (fS (sz:=11) (cs:=[]) (m:=0) rf rf tD rfl (.old .head) (by rw[iP mS]) (Dr (λ _=>rfl) _) rC rfl (by decide) fU (by omega)) nM) (λ x7=>?_);try (refine eF (λ h7=>?_)));refine J1 ?_;refine aP results25 (λ w hw=>?_);exact⟨x7,by simp only[Nat.zero_add];rfl,trivial,(hw.freeze .head).v4⟩
theorem T8{l:List kA}(ha:Go.Ct.Cl w a (iG l))(hl:l.length<=274877906944):Calls prog 29 #[.slice a l.length c] w λ e w' =>
  ∃x:Option Addr×Nat,e=.returned (.slice x.1 l.length x.2)/\True/\SF w [] [] [] [(x.1,iG l)] [] w':=by
 refine enter func29 ntmps29 rfl rfl (SF.s1 ha) ?_;simp only[bY];refine Ka5 ?_;refine Fe ?_;refine aX (λ c4=>?_) (λ c4=>?_)
 ·have e0:a=none:=by cases a with|none=>rfl|some _=>cases c4
  subst e0;obtain rfl:=Dc wJ (by decide) ha.Hf;refine cC ?_;refine aP results29 (λ w hw=>?_);exact⟨(none,0),rfl,trivial,(hw.db (F':=[(none,[])]) (λ f hf=>.inl (by rw[List.mem_singleton.1 hf]))).eP⟩
 ·refine Kb5 ?_;refine aK (H4 oU) (λ x5=>?_);refine aD ?_;(refine aK (aQ.eG (fS (sz:=5) (cs:=[]) (m:=0) rf rf tD rfl (.old .head) (by rw[iP wJ]) (Dr (λ _=>rfl) _) oU rfl (by decide) fU (by omega)) nM) (λ x7=>?_);try (refine eF (λ h7=>?_)));refine J1 ?_;refine aP results29 (λ w hw=>?_);exact⟨x7,by simp only[Nat.zero_add];rfl,trivial,(hw.freeze .head).v4⟩
theorem U9{l:List (Nat×Nat)}(ha:Go.Ct.Cl w a (dE sU l))(hl:l.length<=274877906944):Calls prog 44 #[.slice a l.length c] w λ e w' =>
  ∃x:Option Addr×Nat,e=.returned (.slice x.1 l.length x.2)/\True/\SF w [] [] [] [(x.1,dE sU l)] [] w':=by
 refine enter func44 ntmps44 rfl rfl (SF.s1 ha) ?_;simp only[bY];refine Ka5 ?_;refine Fe ?_;refine aX (λ c4=>?_) (λ c4=>?_)
 ·have e0:a=none:=by cases a with|none=>rfl|some _=>cases c4
  subst e0;obtain rfl:=Dc oW (by decide) ha.Hf;refine cC ?_;refine aP results44 (λ w hw=>?_);exact⟨(none,0),rfl,trivial,(hw.db (F':=[(none,[])]) (λ f hf=>.inl (by rw[List.mem_singleton.1 hf]))).eP⟩
 ·refine Kb5 ?_;refine aK (H4 mZ) (λ x5=>?_);refine aD ?_;(refine aK (aQ.eG (fS (sz:=2) (cs:=[]) (m:=0) rf rf tD rfl (.old .head) (by rw[iP oW]) (Dr (λ _=>rfl) _) mZ rfl (by decide) fU (by omega)) nM) (λ x7=>?_);try (refine eF (λ h7=>?_)));refine J1 ?_;refine aP results44 (λ w hw=>?_);exact⟨x7,by simp only[Nat.zero_add];rfl,trivial,(hw.freeze .head).v4⟩
end
end
end Go.Proofs.YthblobahelfefaaGreatDoor
namespace Go.Ct
open Go Go.RowKit
section
def Av(a:Act)(ds:List Deferred):Act:={a with defers:=a.defers++ds}
section
variable{P:Program}{ds:List Deferred}{next next':Act->World->Prop}{Q Q':Exit->Act->World->Prop}{ops:Array Oper}
theorem H6(a:Act)(dst:Option Tmp)(v:Value):Av (a.put dst v) ds=(Av a ds).put dst v:=by cases dst<;>rfl
theorem K1(a:Act):(Av a ds).eval=a.eval:=by funext x;cases x<;>rfl
theorem So(hq:∀e a w,Q e a w->Q' e (Av a ds) w)(h:LetsOut Q):LetsOut Q':=by obtain⟨a,w,h⟩:=h;exact⟨_,w,hq _ _ _ h⟩
theorem aDf{o:Oper}{a:Act}{w:World}(hn:∀a w,next a w->next' (Av a ds) w)(hq:∀e a w,Q e a w->Q' e (Av a ds) w)(h:o.wp P a w next Q):o.wp P (Av a ds) w next' Q':=by
 unfold Oper.wp at *;rw[K1];have key:∀v w,next (a.put o.dst v) w->next' ((Av a ds).put o.dst v) w:=λ v w h=>by rw[<- H6];exact hn _ _ h
 generalize (execOp a.eval o).run P w=r at *;cases r with
 | ok n w'=>
  cases n<;>simp only[Oper.upon] at h ⊢ <;>
   first
    | exact key _ _ h
    | exact Calls.mono h (λ e w'' he=>by cases e<;>first|exact key _ _ he|exact hq _ _ _ he|exact So hq he)
    | exact Rows.mono h (λ _ _ he=>key _ _ he)
    | exact(by have:=hn _ _ h;rw[H6] at this;exact this)
    | exact h
 | halt x w'=>cases x<;>simp only[Oper.upon] at h ⊢ <;> exact hq _ _ _ h
theorem wA(hq:∀e a w,Q e a w->Q' e (Av a ds) w):∀(fuel:Nat) (listed:Array Bool) (a:Act) (w:World),wpAny P .any ops Q fuel listed a w->wpAny P .any ops Q' fuel listed (Av a ds) w
 | 0,_,_,_,h=>⟨h.1,hq _ _ _ h.2⟩
 | fuel+1,listed,a,w,h=>⟨λ hr=>hq _ _ _ (h.1 hr),λ i hi=>by
  have hi':=h.2 i hi;unfold wpOp at hi' ⊢;cases ho:ops[i]? with
  | none=>rw[ho] at hi';exact wA hq fuel _ _ _ hi'
  | some o=>
   rw[ho] at hi';simp only at hi' ⊢;have ht:(Av a ds).tmps=a.tmps:=rfl;rw[ht];split
   ·rename_i hw;rw[if_pos hw] at hi';rcases hi' with h1|⟨h1,h2⟩;·exact .inl (aDf (λ a w h=>wA hq fuel _ a w h) hq h1)
    ·exact .inr ⟨by unfold Oper.asks at *;rw[K1];exact h1,So hq h2⟩
   ·rename_i hw;rw[if_neg hw] at hi';rw[<- H6];exact wA hq fuel _ _ _ hi'⟩
end
section
variable{P:Program}{n:Nat}{ds:List Deferred}{Q:Exit->Act->World->Prop}{ks:List CK}{S:List (Nat×Value)}{G:World->Prop}{ops:Array Oper}
def InD(P:Program)(Q:Exit->Act->World->Prop)(ks:List CK)(ds:List Deferred)(a:Act)(w:World):Prop:=runK P Q ks .normal (Av a ds) w
def zn(P:Program)(Q:Exit->Act->World->Prop)(ks:List CK)(ds:List Deferred)(e:Exit)(a:Act)(w:World):Prop:=runK P Q ks e (Av a ds) w
theorem lf(e:Exit)(a:Act)(w:World)(h:runK P (zn P Q ks ds) [.inv (InD P Q ks ds)] e a w):runK P Q ks e (Av a ds) w:=by cases e<;>exact h
theorem ym{id:Nat}(pl:nP)(hm:P.follows .mixedOrders=true)(hG:∀w,G w->G w.drew)(h:JR P n (zn P Q ks ds) [.inv (InD P Q ks ds)] ops pl [] [] [] S G):KD P n ds Q (.code (.region id ops true)::ks) S G:=⟨λ hS w hw=>by
 refine wp_region_any hm (wA lf _ _ ⟨dU n S,[]⟩ _ (h.run _ _ _ _ ⟨hS,hG w hw,by simp,rfl,by simp[dU],λ j hj=>?_,λ _ h=>(List.not_mem_nil h).elim,λ t _=>?_,λ _ h=>(List.not_mem_nil h).elim,λ _ h=>(List.not_mem_nil h).elim,λ i hi=>(hi.elim List.not_mem_nil List.not_mem_nil).elim,λ k hk=>by
  exfalso;rw[Array.getD_eq_getD_getElem?] at hk;cases hx:(Array.replicate ops.size false)[k]? with
  | none=>rw[hx] at hk;cases hk
  | some b=>
   rw[hx] at hk;have:=Array.getElem?_eq_some_iff.1 hx;obtain⟨_,hb⟩:=this
   simp at hb;subst hb;cases hk⟩ ?_))
 ·exfalso;rw[Array.getD_eq_getD_getElem?] at hj;cases hx:(Array.replicate ops.size false)[j]? with
  | none=>rw[hx] at hj;cases hj
  | some b=>rw[hx] at hj;simp only[Option.getD_some] at hj;subst hj;rw[Array.getElem?_replicate] at hx;split at hx<;>simp at hx
 ·exact congrFun (iY (ds:=[]) hS) (.tmp t)
 ·exact Nat.le_trans (List.length_filter_le _ _) (by simp)⟩
theorem wi(h:KD P n ds Q ks S G):JK P n (zn P Q ks ds) [.inv (InD P Q ks ds)] S G:=⟨λ hS w hw=>h.run hS w hw⟩
end
end
end Go.Ct
namespace Go.Proofs.YthblobahelfefaaGreatDoor
open Go.Proofs.Tryz
open Go Go.RowKit Go.Ct
section
section
variable{n:Nat}{ds:List Deferred}{Q:Exit->Act->World->Prop}{ks:List CK}{S:List (Nat×Value)}{ops:Array Oper}{w0:World}{M:List Nat}{H:List (Nat×Obj)}{A F:Fr}{O:List Ow}
theorem aE3{id:Nat}{pl:nP}(p:List Nat)(h:JR prog n (zn prog Q ks ds) [.inv (InD prog Q ks ds)] ops pl [] [] [] S (SF w0 M H A F O))(hp:sqL p=pl:=by simp only[sqL];exact rfl)(hm:prog.follows .mixedOrders=true:=by kernel_rfl):KD prog n ds Q (.code (.region id ops true)::ks) S (SF w0 M H A F O):=ym pl hm (λ _ h=>h.drew) h
end
end
section
theorem N6(p:Option Addr):Idle prog 91 #[.pointer p]:=λ w=>by refine callsD_of_wpS func91 rfl λ c₀ cs hu=>?_;apply wpS_seq;apply wpS_region;simp[wpOpsS,go_sem,recoverD,hu,ntmps91,Exit.thenS];refine wpS_cond (t:=false) E1i ?_;simp only[Bool.false_eq_true,if_false];refine wpS_of_wp (wp_skip ?_);cases c₀;simp_all[bodyPostS,results,results91]
def qm:Nd:={Nd.zero with kind:=3}
def aFl(g:Int):Nd:={Nd.zero with kind:=2,gen:=g}
def L2(x y:AX):List dJ:=[kP qm [] [] 0 x]++[kP (aFl 1) [] [] 1 y]
theorem je{x y:AX}:∀f∈cH (L2 x y),f.2=[]:=by intro f hf;simp[cH,L2,dJ.fr,kP,aN,cY] at hf;rcases hf with hf|hf|hf|hf<;>rw[hf]
section
variable{w:World}{D:List Nat}{b:Nat}{acc:Int}{pn:Option Addr}{cn:Nat}{A:Fr}
theorem ez{x:AX}(hs:SF w D [(b,aO [kP qm [] [] 0 x] [0] 0 acc x.pn x.cn x.pc x.cc)] A [] (mW [kP qm [] [] 0 x] [0] x.pn x.cn x.pc x.cc) w) :
  Calls prog 93 #[.iface 51 (.pointer (some ⟨b,0,none⟩)),.int .i64 3] w λ e w'=>∃y:AX,e=.returned (.int .i64 4)/\True/\SF w D [(b,aO (L2 x y) [0,3] 1 acc y.pn y.cn y.pc y.cc)] [] (cH (L2 x y)) (mW (L2 x y) [0,3] y.pn y.cn y.pc y.cc) w':=by refine enter func93 ntmps93 rfl rfl hs ?_;simp only[bY];refine Kc1 ?_;refine aJ (Jc (V:=λ _:Unit=>.int .i64 1) (A0:=[]) (hm:=λ w=>Hl _ w) (hc:=λ w hs=>L1 (gen:=0) hs)) (λ x7 h7=>?_);refine nN ?_;refine gL [0,1,3,4,5,6,2,7,8] ?_;refine Bx ?_;refine aR ?_;refine dA (i:=4) (hq:=(nK aj aj)) (h:=?_);refine dA (i:=5) (hq:=(Nn rf (U3 _))) (h:=?_);refine aR ?_;refine cB (i:=2) (hq:=(cV (hc:=λ w1 hw=>Fl 1 w1))) (h:=λ x10=>?_);refine bS (i:=7) (hq:=(Jc (A0:=[(none,aN []),(none,cY [])]) (hm:=λ w=>eK _ _ _ w) (hc:=λ w hs=>Bt (L:=[kP qm [] [] 0 x]) (cs:=[0]) (n:=aFl 1) (xs:=[]) (ys:=[]) 3 hs rfl rfl (by decide) (by decide) (by simp) (by decide)))) (h:=λ x15 h15=>?_);refine J7 ?_;refine aP results93 (λ w hw=>?_);exact⟨x15,rfl,trivial,(hw.db (λ f hf=>.inl (je f hf))).v4⟩
theorem Sv(hs:SF w D [(b,aO [] [] 0 acc pn cn none 0)] A [] (mW [] [] pn cn none 0) w) :
  Calls prog 66 #[.iface 51 (.pointer (some ⟨b,0,none⟩))] w λ e w'=>∃q:AX×AX×Option Addr×Nat,e=.returned (.agg ⟨[.int .i64 3,.bool false]⟩)/\True/\SF w D [(b,aO (L2 q.1 q.2.1) [0,3,4] 1 acc q.2.1.pn q.2.1.cn q.2.2.1 q.2.2.2)] [] (cH (L2 q.1 q.2.1)) (mW (L2 q.1 q.2.1) [0,3,4] q.2.1.pn q.2.1.cn q.2.2.1 q.2.2.2) w':=by refine Mf func66 ntmps66 rfl rfl hs ?_;simp only[bY];refine K0s ?_;refine qQ (λ x2=>?_);refine K0r ?_;refine aE3 [0,2,3,1,4,5] ?_;refine aR ?_;refine dA (i:=2) (hq:=(fK rf)) (h:=?_);refine aR ?_;refine cB (i:=1) (hq:=(cV (hc:=λ w1 hw=>Nj w1))) (h:=λ x7=>?_);refine bS (i:=4) (hq:=(Jc (A0:=[(none,aN []),(none,cY [])]) (hm:=λ w=>eK _ _ _ w) (hc:=λ w hs=>Bt (L:=[]) (cs:=[]) (n:=qm) (xs:=[]) (ys:=[]) 0 hs rfl rfl (by decide) (by decide) (by decide) (by decide)))) (h:=λ x10 h10=>?_);refine oK (h:=λ _=>?_);refine dY ?_;refine wi ?_;refine K0s ?_;refine kI ?_;refine kI ?_;refine rZ (cM (A0:=[]) (hc:=λ w hs=>ez (x:=x10) hs)) (λ x13 h13=>?_);refine sH (λ _=>?_);refine fW ?_;refine K0s ?_;refine kI ?_;refine kI ?_;refine rZ (Jc (A0:=[]) (hm:=λ w=>S3 _ _ w) (hc:=λ w hs=>rO (L:=L2 x10 x13) (cs:=[0,3]) 4 hs (by decide))) (λ x16 h16=>?_);refine od ?_;refine Fm (cK λ _=>aE rf bU rf rfl cW rf dV) (λ _=>?_);refine fW ?_;refine Bl (N6 _) (by kernel_rfl) results66 (.cell rf bU cW .nil) (λ w hw=>?_);exact⟨(x10,x13,x16.1,x16.2),rfl,trivial,hw.ret E0a (aT.bA λ f hf=>by simp[hf]) (List.Sublist.refl _)⟩
theorem Tx(hs:SF w D [(b,aO [] [] 0 acc pn cn none 0)] A [] (mW [] [] pn cn none 0) w) :
  Calls prog 48 #[.iface 51 (.pointer (some ⟨b,0,none⟩))] w λ e w'=>∃q:AX×AX×Option Addr×Nat,e=.returned (.agg ⟨[.int .i64 3,.bool false]⟩)/\True/\SF w D [(b,aO (L2 q.1 q.2.1) [0,3,4] 1 acc q.2.1.pn q.2.1.cn q.2.2.1 q.2.2.2)] [] (cH (L2 q.1 q.2.1)) (mW (L2 q.1 q.2.1) [0,3,4] q.2.1.pn q.2.1.cn q.2.2.1 q.2.2.2) w':=by refine enter func48 ntmps48 rfl rfl hs ?_;simp only[bY];refine J0 ?_;refine aI (λ x2=>?_);refine aC ?_;refine J2 ?_;refine aJ (cM (A0:=[]) (hc:=λ w hs=>Sv hs)) (λ x4 h4=>?_);refine aM (cK λ _=>aE rf bU rf rfl cW rf dV) (λ _=>?_);refine aC ?_;refine bJ results48 (λ w hw=>?_);exact⟨x4,rfl,trivial,hw.ret E0a (aT.bA λ f hf=>by simp[hf]) (List.Sublist.refl _)⟩
end
end
section
structure eE where
 p:Option Addr
 c:Nat
 l:List kA
def jX(ls:List eE):List Value:=ls.map λ s=>.slice s.p s.l.length s.c
theorem qU(ls:List eE):(jX ls).length=ls.length:=by simp[jX]
theorem wC{ls:List eE}{i:Nat}(h:i<ls.length):(jX ls)[i]?=some (.slice ls[i].p ls[i].l.length ls[i].c):=by simp[jX,h]
section
variable{w:World}{D:List Nat}{A:Fr}{b:Nat}{acc:Int}{pn:Option Addr}{cn:Nat}
theorem di{m:Int}{ls:List eE}{p p2:Option Addr}{c c2 n:Nat}(h8:ls.length<=8)(h16:∀s∈ls,s.l.length<=16)(hn:n<=67108864)(hcl:Go.Ct.Cl w p (jX ls)) :
  Calls prog 26 #[.agg ⟨[.int .u64 m,.slice p ls.length c,.slice p2 n c2]⟩] w λ e w'=>e=.returned (.int .i64 0)/\St w [] [] w':=by
 refine enter func26 ntmps26 rfl rfl (SF.begin (A:=[(p,jX ls)]) (λ f hf=>by rcases List.mem_singleton.1 hf with rfl;exact hcl)) ?_;simp only[bY];refine J0 ?_;refine bC (λ x1=>?_);refine nN ?_;refine gP ?_;refine cZ ?_;refine Bs ?_;refine aD ?_;(refine kT 9 (λ g9=>?_) (λ g9=>?_)<;>(try ((exfalso;omega)))<;>((refine aG ?_;refine aF ?_)));((refine aG ?_;refine bW ?_));((refine aG ?_;refine cZ ?_));refine vd ?_;refine aC ?_;refine aX (λ c14=>?_) (λ c14=>?_);·try ((exfalso;omega))
 ·try (first|contradiction|(exfalso;omega))
  refine mD ?_;refine gP ?_;refine Ka9 ?_;refine iI [2,4,18,19,20,21,22,23,24,25] (λ i:Nat=>[(18,.int .i64 ((i:Nat):Int))]) (λ i=>i<=ls.length) (λ i=>ls.length-i) (0) (Nat.zero_le _) ?_ (λ k f hx=>?_);·repeat (first|exact bH _|refine aY (by exact rfl) ?_)
  refine K2b ?_;refine aX (λ c19=>?_) (λ c19=>?_)
  ·try (first|contradiction|(exfalso;omega))
   have hkl:k<ls.length:=by omega
   have h16k:=h16 _ (List.getElem_mem hkl);refine tG ?_;refine J0 ?_;refine aA (fM (k:=k) (cs:=jX ls) rf rf fU iH (.old .head) hkl (by rw[qU];exact hkl)) rfl ?_;refine aA (eY (q:=k) (cs:=jX ls) rf iH (.old .head) (wC hkl)) rfl ?_;refine Kb7 ?_;refine cZ ?_;refine Bs ?_;refine aC ?_;refine aX (λ c24=>?_) (λ c24=>?_)
   ·try ((exfalso;omega))
   ·try (first|contradiction|(exfalso;omega))
    refine Kd0 ?_;refine eO (k+1) ?_ ?_ ?_;·omega
    ·repeat' (first|exact bH _|refine aY ?_ ?_)
     exact rfl
    ·exact hkl
  ·try (first|contradiction|(exfalso;omega))
   refine K1o ?_;refine cC ?_;refine aP results26 (λ w hw=>?_);exact⟨rfl,hw.done⟩
theorem aAf{m:Nat}(hs:SF w D [(b,aO [] [] 0 acc pn cn none 0)] A [] (mW [] [] pn cn none 0) w) :
  Calls prog 28 #[.iface 51 (.pointer (some ⟨b,0,none⟩)),.int .u64 (m:Int)] w λ e w'=>∃x:(Nat×Nat×Nat×Nat)×AX×AX×Option Addr×Nat,e=.returned (pt x.1.1)/\True/\SF w D [(x.1.1,qX b m x.1.2.1 x.1.2.2.1 x.1.2.2.2),(x.1.2.1,bV [] 0),(x.1.2.2.1,bV (Jb t3) 1),(b,aO (L2 x.2.1 x.2.2.1) [0,3,4] 1 acc x.2.2.1.pn x.2.2.1.cn x.2.2.2.1 x.2.2.2.2)] [] (cH (L2 x.2.1 x.2.2.1)) (mW (L2 x.2.1 x.2.2.1) [0,3,4] x.2.2.1.pn x.2.2.1.cn x.2.2.2.1 x.2.2.2.2) w':=by
 refine enter func28 ntmps28 rfl rfl hs ?_;simp only[bY];refine cC ?_;refine lV ?_;refine aK (cK λ _=>lU) (λ x8=>?_);refine aK (cK λ _=>lU) (λ x9=>?_);refine aK (cK λ _=>lU) (λ x10=>?_);refine bX ?_;refine bC (λ x12=>?_);refine Kc5 ?_;refine aA (Mu rf rf (uC _)) rfl ?_;refine aC ?_;refine aX (λ c14=>?_) (λ c14=>?_);·refine eQ [(0,[]),(1,[]),(2,[]),(3,[]),(4,[]),(5,[3]),(6,[])] ?_;refine nZ ?_;refine aR ?_;refine bS (i:=5) (hq:=(cM (V:=λ _:AX×AX×Option Addr×Nat=>.agg ⟨[.int .i64 3,.bool false]⟩) (A0:=[]) (hs:=[(b,aO [] [] 0 acc pn cn none 0)]) (os:=mW [] [] pn cn none 0) (hc:=λ w hs=>Tx hs))) (h:=λ x20 h20=>?_);refine fC (i:=6) (hq:=(cK λ _=>Mb (K:=3) (E:=72) (dK:=.int .i64) (k:=.int .i64 0) (v:=.agg ⟨[.int .i64 3,.bool false]⟩) (es:=[]) (c:=0) rf rf rf bU (by kernel_rfl) (by kernel_rfl) rfl rfl dV)) (h:=λ _=>?_);refine dY ?_;refine Kc4 ?_;refine aP results28 (λ w hw=>?_);exact⟨((x12,x8,x9,x10),x20),rfl,trivial,(hw.perm (H':=[(x12,qX b m x8 x9 x10),(x8,bV [] 0),(x9,bV (Jb t3) 1),(x10,bV [] 0),(b,aO (L2 x20.1 x20.2.1) [0,3,4] 1 acc x20.2.1.pn x20.2.1.cn x20.2.2.1 x20.2.2.2)]) ((((List.Perm.swap _ _ _).cons _).trans (((List.Perm.swap _ _ _).cons _).cons _)).trans (((List.Perm.swap _ _ _).cons _).trans (List.Perm.refl _))) (List.Perm.refl _)).ret E0d (aT.bA λ f hf=>by simpa using hf) (List.Sublist.refl _)⟩
 ·exact nv c14
theorem Qm{bm bT:Nat}{pk:Option Addr×Nat×Nat}{V:MV}(hl:V.hi.length<=1000000)(hs:SF w D [(bm,Ju b bT pk V)] A [] (vj V) w) :
  Calls prog 12 #[pt bm] w λ e w'=>∃x:Option Addr×Nat,e=.returned (.slice x.1 V.hi.length x.2)/\True/\SF w D [(bm,Ju b bT pk V)] [] [(x.1,Uo V.hi)] (vj V) w':=by refine enter func12 ntmps12 rfl rfl hs ?_;simp only[bY];refine cC ?_;refine zG ?_;refine aJ (cF (hc:=λ w1 hw=>Vi (hw.cl (.own .head)) (by omega))) (λ x7 h7=>?_);refine J1 ?_;refine aP results12 (λ w hw=>?_);exact⟨x7,rfl,trivial,hw.ret (List.Sublist.refl _) (aT.bA λ f hf=>by simpa using hf) (List.Sublist.refl _)⟩
end
end
end Go.Proofs.YthblobahelfefaaGreatDoor
namespace Go.Ct
open Go Go.RowKit
section
def Y4(l:List Nat)(i n:Nat):List Value:=Yt (l.take i)++List.replicate (n-i) (.int .i8 0)
theorem Fa{l:List Nat}{i n:Nat}(hi:i<=n)(hn:l.length=n):(Y4 l i n).length=n:=by unfold Y4;rw[List.length_append,Oh,List.length_take,List.length_replicate];omega
theorem ig{l:List Nat}{i n:Nat}(hi:i<n)(hn:l.length=n)(a:Value)(k:Nat)(hk:l[i]?=some k):((Y4 l i n).set i a).set i (.int .i8 ((k:Nat):Int))=Y4 l (i+1) n:=by
 have e1:l.take (i+1)=l.take i++[k]:=by rw[List.take_add_one,hk];rfl
 have e2:n-i=(n-(i+1))+1:=by omega
 have hl:(Yt (l.take i)).length=i:=by rw[Oh,List.length_take];omega
 unfold Y4;rw[e1,List.set_set,List.set_append_right _ _ (by omega),hl,Nat.sub_self,e2,List.replicate_succ,List.set_cons_zero];simp[Yt]
theorem w9(l:List Nat):Y4 l l.length l.length=Yt l:=by simp[Y4]
theorem km(l:List Nat)(n:Nat):Y4 l 0 n=List.replicate n (.int .i8 0):=by simp[Y4,Yt]
theorem aA5(k:Nat):made [.int .i8 0] k=List.replicate k (.int .i8 0):=by
 refine List.ext_getElem? λ i=>?_;by_cases hi:i<k;·simp[made,madeCells,Array.getElem?_toList,Array.getElem?_map,Array.getElem?_range,hi,Nat.mod_one]
 ·rw[List.getElem?_eq_none (by rw[jQ];simp;omega),List.getElem?_eq_none (by simp;omega)]
end
end Go.Ct
namespace Go.Proofs.YthblobahelfefaaGreatDoor
open Go Go.RowKit Go.Ct
section
theorem R8:cS Tryz.prog 53 83 [.slice none 0 0,.int .i64 0,.pointer none]:=fX (z:=.agg ⟨[.slice none 0 0,.int .i64 0,.pointer none]⟩) (by kernel_rfl) (by kernel_rfl) rfl
theorem gz:cS Tryz.prog 54 84 [.int .i8 0]:=fX (z:=.int .i8 0) (by kernel_rfl) (by kernel_rfl) rfl
abbrev pxO:Obj:=.cells ⟨[]⟩ 0 (0,0)
abbrev uq(acc:Int)(x y:AX)(pc:Option Addr)(cc:Nat):AS:=⟨L2 x y,[0,3,4],1,acc,y.pn,y.cn,pc,cc,0,pxO,E0⟩
theorem s7(acc:Int)(x y:AX)(pc:Option Addr)(cc:Nat):(uq acc x y pc cc).Ok:=by
 refine⟨?_,⟨?_,?_,?_⟩⟩;·intro v hv;simp[L2] at hv;rcases hv with rfl|rfl<;>exact T0 (by decide) (by decide)
 ·intro v hv;simp only[AS.mm,bM,L2,List.cons_append,List.nil_append,List.map_cons,List.map_nil,List.mem_cons,List.not_mem_nil,or_false] at hv;have z:(0:Int)<=((4:Nat):Int):=by decide
  have z3:(0:Int)<=((3:Nat):Int):=by decide
  have zb:∃b:Nat,(0:Int)=(b:Int)/\b<18446744073709551616:=⟨0,rfl,by decide⟩;rcases hv with rfl|rfl|rfl|rfl
  ·exact⟨z,z,z,(λ r hr=>nomatch hr),z3,z3,z3,zb,zb⟩
  ·exact⟨z,z,z,(λ r hr=>nomatch hr),z3,z3,z3,zb,zb⟩
  ·exact⟨z,z,z,(λ r hr=>nomatch hr),z3,by show(1:Int)<=((3:Nat):Int);decide,z3,zb,zb⟩
  ·exact⟨z,z,z,(λ r hr=>nomatch hr),by show(2:Int)<=((3:Nat):Int);decide,z3,z3,zb,zb⟩
 ·intro v hv;have h4:((AS.mm (uq acc x y pc cc)).nodes.length:Int)=4:=rfl;rw[h4];simp only[AS.mm,List.mem_cons,List.not_mem_nil,or_false] at hv;rcases hv with rfl|rfl|rfl<;>decide
 ·show 2<=4;decide
def yT(ops:List (List kA))(π:Pv):AM:=⟨⟨[Ec.c,Ec.c,mM cQ 0,mM (dC 1) 1],[0,3,4],1,π⟩,ops.map λ l=>⟨l,0,none⟩,[]⟩
structure NW where
 b:Nat
 bm:Nat
 bT:Nat
 bo:Nat
 bt:Nat
 bi:Nat
 pk:Option Addr×Nat×Nat
 V:MV
end
end Go.Proofs.YthblobahelfefaaGreatDoor

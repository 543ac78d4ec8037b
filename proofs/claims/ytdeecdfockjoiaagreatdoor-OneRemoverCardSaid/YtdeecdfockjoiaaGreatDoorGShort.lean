/- Merged. -/
import Derived.Test.YtdeecdfockjoiaaGreatDoorAuto
import Derived.Test.YtdeecdfockjoiaaGreatDoorGNode1
import Derived.Test.YtdeecdfockjoiaaGreatDoorGSlices
import Derived.Test.YtdeecdfockjoiaaGreatDoorGPa2
set_option linter.unusedSimpArgs false
set_option linter.unusedVariables false
namespace Go.Ct
open Go Go.RowKit
section
variable{w0 w:World}{M:List Nat}{H:List (Nat×Obj)}{A F:Fr}{O:List Ow}
end
end Go.Ct
namespace Go.Proofs.YtdeecdfockjoiaaGreatDoor
open Go.RowKit Go.Ct
section
theorem T5{n:Nd}{xs:List Int}{ys:List Pr}(h:n.kind=3)(hv:fW n xs ys):(xs.length:Int)=Ep n.bm/\Pos xs:=by obtain⟨_,_,_,_,hv⟩:=hv;rcases hv with h1|⟨h1,_⟩|⟨_,h2,h3⟩|⟨h1|h1,_⟩|⟨h1,_⟩|⟨h1,_⟩|⟨h1,_⟩;all_goals first|exact⟨h2,h3⟩|(rw[h] at h1;exact absurd h1 (by decide))
end
section
end
end Go.Proofs.YtdeecdfockjoiaaGreatDoor
namespace Go.Ct
open Go Go.RowKit
section
end
end Go.Ct
namespace Go.Proofs.YtdeecdfockjoiaaGreatDoor
open Go.Proofs.Tryz
open Go.RowKit Go.Ct
section
def CV(n:Nd)(xs:List Int)(ys:List Pr):Prop:=n.kind=3/\fW n xs ys
theorem CV.bv{n:Nd}{xs:List Int}{ys:List Pr}{b:Nat}(h:CV n xs ys)(hb:n.bm=(b:Int))(hb2:b<18446744073709551616):BV b xs:=by obtain⟨h1,h2⟩:=T5 h.1 h.2;rw[hb,xD hb2] at h1;exact⟨hb2,by omega,h2⟩
instance (n:Nd) (ys:List Pr):Decidable (ys=n.mB ys):=if h:(n.kind==6)=true then isTrue (by unfold Nd.mB;rw[if_pos h]) else decidable_of_iff (ys=[]) (by unfold Nd.mB;rw[if_neg h])
instance (n:Nd) (xs:List Int) (ys:List Pr):Decidable (Kf n n.own xs (n.oQ xs) ys (n.mB ys)):=inferInstanceAs (Decidable (n.kind=n.own.kind/\n.gen=n.own.gen/\n.main=n.own.main/\n.bm=n.own.bm/\xs=n.oQ xs/\n.hash=n.own.hash/\n.key=n.own.key/\n.val=n.own.val/\ys=n.mB ys/\n.prev=n.own.prev/\n.old=n.own.old/\n.exp=n.own.exp/\n.new=n.own.new/\n.status=n.own.status))
instance (l:List Int):Decidable (Pos l):=inferInstanceAs (Decidable (∀i,i<l.length->1<=l.getD i 0))
instance (l:List Pr):Decidable (Ql l):=inferInstanceAs (Decidable (∀i,i<l.length->(l.getD i (⟨#[]⟩,0)).1.size<=64))
instance (l:List Pr):Decidable (Asc l):=decidable_of_iff (∀i,i<l.length->1<=i->dR (l.getD (i-1) (⟨#[]⟩,0)).1 (l.getD i (⟨#[]⟩,0)).1=true) ⟨λ h i a b=>h i b a,λ h i a b=>h i b a⟩
instance (n:Nd) (xs:List Int) (ys:List Pr):Decidable (fW n xs ys):=inferInstanceAs (Decidable (_/\_))
instance (n:Nd) (xs:List Int) (ys:List Pr):Decidable (CV n xs ys):=inferInstanceAs (Decidable (_/\_))
def V5(n:Nd)(xs:List Int)(ys:List Pr)(b:Nat)(i:Int):Option Int:=if CV n xs ys/\sQ b i=true then some (xs.getD (iD b i) 0) else none
def b9(n:Nd)(xs:List Int)(ys:List Pr):Option Int:=if CV n xs ys/\xs.length=1 then some (xs.getD 0 0) else none
theorem nR{b:Nat}{i:Int}(h:sQ b i=true):0<=i/\i<64/\b.testBit i.toNat=true/\iD b i=jG b i.toNat:=by simp only[sQ,Bool.and_eq_true,decide_eq_true_eq] at h;exact⟨h.1,h.2.1,h.2.2,by unfold iD;congr 1;omega⟩
theorem l8{b:Nat}{xs:List Int}(h:BV b xs){i:Int}(hh:sQ b i=true):iD b i<xs.length:=by obtain⟨h1,h2,h3,h4⟩:=nR hh;rw[h4,h.len];exact pY (by omega) h3
section
variable{n:Nd}{xs:List Int}{ys:List Pr}{w:World}{b:Nat}
theorem Ja(hr:Cp w n xs ys):Calls prog 173 #[n.v] w λ e w'=>∃r:Bool,e=.returned (.bool r)/\(r=true↔CV n xs ys)/\St w [] [] w':=by
 refine enter func173 ntmps173 rfl rfl (SF.s0 w) ?_;simp only[cN];simp only[Nd.v,Nd.cells];refine J0 ?_;refine bC (λ x1=>?_);refine J1 ?_;refine jN ?_;refine Kb2 ?_;(refine mN 6 (λ g6=>?_) (λ g6=>?_)<;>refine Kf0 ?_);all_goals ((first|refine aZ ?_|(refine aF ?_;refine aI (c0 (V:=.bool) (hc:=λ w1 hw=>Ll (n:=n) (hr.jR hw.done))) (λ x8 h8=>?_)));refine bY ?_;refine J1 ?_)
 all_goals
 refine bJ results173 (λ w hw=>?_);refine⟨_,rfl,?_,hw.done⟩;simp_all[CV]
theorem eu(i:Int)(hb:n.bm=(b:Int))(hb2:b<18446744073709551616)(hr:Cp w n xs ys):Calls prog 139 #[n.v,.int .i64 i] w λ e w'=>e=.returned (.tuple #[.int .i64 ((V5 n xs ys b i).getD 0),.bool (V5 n xs ys b i).isSome])/\St w [] [] w':=by
 have e1:=hr.brN;refine enter func139 ntmps139 rfl rfl (SF.s2 hr.br hr.pr) ?_;simp only[cN]
 simp only[Nd.v,Nd.cells,hb,e1];refine J0 ?_;refine bC (λ x2=>?_);refine J8 ?_;refine aL ?_;refine oT ?_;refine aI (c0 (V:=.bool) (hc:=λ w1 hw=>by rw[<- e1,<- hb];exact Ja (n:=n) (hr.jR hw.done))) (λ x7 h7=>?_);refine Ti ?_;(refine mN 9 (λ g9=>?_) (λ g9=>?_)<;>refine Ka5 ?_);all_goals (refine um ?_;(first|refine aZ ?_|(refine aF ?_;refine aH (cV (hc:=λ w1 hw=>W8 hb2 i w1)) (λ x13=>?_)));refine Ke4 ?_)
 all_goals
 refine aX (λ c15=>?_) (λ c15=>?_)
 ·all_goals refine Kq ?_
  all_goals refine bF results139 (λ w hw=>?_);rw[show V5 n xs ys b i=none from if_neg (by simp_all)];exact⟨rfl,hw.done⟩
 ·try exact nv c15
  all_goals have hcv:CV n xs ys:=h7.1 (by simpa using g9);have hpl:=l8 (hcv.bv hb hb2) c15
  all_goals (refine lL ?_;refine eO [(0,[]),(1,[]),(2,[]),(3,[]),(4,[]),(5,[1]),(6,[]),(7,[]),(8,[]),(9,[])] ?_;refine Kc6 ?_;refine aP ?_;refine bR (i:=5) (hq:=(cV (hc:=λ w1 hw=>Xp hb2 i w1))) (h:=λ x21=>?_);refine yg ?_;refine Vz ?_)
  all_goals refine bF results139 (λ w hw=>?_);rw[show V5 n xs ys b i=some (xs.getD (iD b i) 0) from if_pos ⟨hcv,c15⟩];exact⟨rfl,hw.done⟩
theorem lx(hr:Cp w n xs ys):Calls prog 278 #[n.v] w λ e w'=>e=.returned (.tuple #[.int .i64 ((b9 n xs ys).getD 0),.bool (b9 n xs ys).isSome])/\St w [] [] w':=by
 have e1:=hr.brN;refine enter func278 ntmps278 rfl rfl (SF.s2 hr.br hr.pr) ?_;simp only[cN]
 simp only[Nd.v,Nd.cells,e1];refine J0 ?_;refine bC (λ x1=>?_);refine J8 ?_;refine aL ?_;refine oT ?_;refine aI (c0 (V:=.bool) (hc:=λ w1 hw=>by rw[<- e1];exact Ja (n:=n) (hr.jR hw.done))) (λ x5 h5=>?_);refine Ti ?_;(refine mN 7 (λ g7=>?_) (λ g7=>?_)<;>refine Ka5 ?_);all_goals (refine Kf0 ?_;(first|refine aZ ?_|(refine aF ?_;refine cP ?_));refine ka ?_;refine aE ?_)
 all_goals
 refine aX (λ c12=>?_) (λ c12=>?_)
 ·all_goals refine Kq ?_
  all_goals refine bF results278 (λ w hw=>?_);rw[show b9 n xs ys=none from if_neg (by simp_all;try omega)];exact⟨rfl,hw.done⟩
 ·try exact nv c12
  all_goals have hcv:CV n xs ys:=h5.1 (by simpa using g7);have hl1:xs.length=1:=by omega
  all_goals (refine bG ?_;refine jN ?_;refine aA (lY (k:=0) rf rf dP eL fin (by omega) (by omega)) rfl ?_;refine bO ?_;refine J8 ?_)
  all_goals refine bF results278 (λ w hw=>?_);rw[show b9 n xs ys=some (xs.getD 0 0) from if_pos ⟨hcv,hl1⟩];exact⟨rfl,hw.done⟩
end
end
section
def cn(b:Nat)(xs:List Int)(x:Option Addr×Nat):Nd:={Nd.zero with kind:=3,bm:=(b:Int),brA:=x.1,brN:=xs.length,brC:=x.2}
theorem xe{b:Nat}{xs:List Int}(h:BV b xs)(x:Option Addr×Nat){p:Int}(hp:0<=p):CV {cn b xs x with prev:=p} xs [] :=⟨rfl,by simp[Kf,Nd.own,Nd.oQ,Nd.mB,cn],by simp[cn,Nd.zero],hp,by simp[cn,Nd.zero],.inr (.inr (.inl ⟨rfl,by show(xs.length:Int)=Ep (b:Int);rw[xD h.lt,h.len],h.pos⟩))⟩
theorem aBQ{b:Nat}{xs:List Int}(h:BV b xs)(x:Option Addr×Nat):CV (cn b xs x) xs []:=xe h x (p:=0) (Int.le_refl _)
end
section
variable{w w':World}{F:Fr}{o:Ow}{l ys:List Pr}{a:Option Addr}{c:Nat}{h:Int}{n:Nd}{xs:List Int}
theorem Nw(g:Int)(w:World):Calls prog 128 #[.int .i64 g] w λ e w'=>e=.returned ({Nd.zero with kind:=2,gen:=g}:Nd).v/\St w [] [] w':=by refine enter func128 ntmps128 rfl rfl (SF.s0 w) ?_;simp only[cN];refine J0 ?_;refine aJ (λ x2=>?_);refine Kb5 ?_;refine Sv ?_;refine bF results128 (λ w hw=>?_);exact⟨rfl,hw.done⟩
theorem W4(w:World):Calls prog 87 #[] w λ e w'=>e=.returned ({Nd.zero with kind:=3}:Nd).v/\St w [] [] w':=by refine enter func87 ntmps87 rfl rfl (SF.s0 w) ?_;simp only[cN];refine J0 ?_;refine aJ (λ x0=>?_);refine Kb4 ?_;refine Sv ?_;refine bF results87 (λ w hw=>?_);exact⟨rfl,hw.done⟩
theorem Bw(h:Int)(k:ByteArray)(v:Int)(w:World):Calls prog 275 #[.int .u64 h,.string k,.int .u64 v] w λ e w'=>e=.returned ({Nd.zero with kind:=4,hash:=h,key:=k,val:=v}:Nd).v/\St w [] [] w':=by refine enter func275 ntmps275 rfl rfl (SF.s0 w) ?_;simp only[cN];refine J0 ?_;refine aJ (λ x6=>?_);refine Ke2 ?_;refine aB ?_;refine Sv ?_;refine bF results275 (λ w hw=>?_);exact⟨rfl,hw.done⟩
theorem gg(h:Int)(k:ByteArray)(v:Int)(w:World):Calls prog 279 #[.int .u64 h,.string k,.int .u64 v] w λ e w'=>e=.returned ({Nd.zero with kind:=5,hash:=h,key:=k,val:=v}:Nd).v/\St w [] [] w':=by refine enter func279 ntmps279 rfl rfl (SF.s0 w) ?_;simp only[cN];refine J0 ?_;refine aJ (λ x6=>?_);refine Ke2 ?_;refine aB ?_;refine Sv ?_;refine bF results279 (λ w hw=>?_);exact⟨rfl,hw.done⟩
theorem oh(o:Int)(w:World):Calls prog 220 #[.int .i64 o] w λ e w'=>e=.returned ({Nd.zero with kind:=7,old:=o}:Nd).v/\St w [] [] w':=by refine enter func220 ntmps220 rfl rfl (SF.s0 w) ?_;simp only[cN];refine J0 ?_;refine aJ (λ x2=>?_);refine Kb5 ?_;refine Sv ?_;refine bF results220 (λ w hw=>?_);exact⟨rfl,hw.done⟩
theorem SF.frz(h:SF w [] [] [] F [o] w'):SF w [] [] [] ((o.p,o.cs)::F) [] w':=h.freeze .head (by simp)
theorem SF.aDr{o2:Ow}(h:SF w [] [] [] F [o,o2] w'):SF w [] [] [] ((o2.p,o2.cs)::(o.p,o.cs)::F) [] w':=(h.freeze .head (by simp)).freeze .head (by simp)
theorem Tu:wQ prog 182 24=true:=by kernel_rfl
theorem Zt:wQ prog 39 8=true:=by kernel_rfl
theorem Ku(ha:Cl w a (dF l))(hl:l.length<=11728124029610):Calls prog 269 #[.slice a l.length c] w λ e w' =>
  ∃p:Option Addr,e=.returned (.slice p l.length l.length)/\(l=[]->p=none)/\SF w [] [] [] [] [⟨p,dF l,l.length,182,2⟩] w':=by
 refine enter func269 ntmps269 rfl rfl (SF.s1 ha) ?_;simp only[cN];refine Ka9 ?_;refine cP ?_;refine E2 ?_;refine aX (λ c6=>?_) (λ c6=>?_);·have hl0:l=[]:=List.eq_nil_of_length_eq_zero (by omega);subst hl0;refine eD ?_;refine bJ results269 (λ w hw=>?_);exact⟨none,rfl,λ _=>rfl,(hw.gN 182 2).fS⟩
 ·refine Kd9 ?_;refine cP ?_;refine aH (gh rf rf ep1 Tu om om) (λ x9=>?_);refine Jo ?_;refine Ts (λ x12=>?_);refine Kb5 ?_;refine J1 ?_;refine bJ results269 (λ w hw=>?_);exact⟨some ⟨x9,0,none⟩,rfl,λ h=>absurd (congrArg List.length h) (by simpa using c6),by simpa using hw.fS (H':=[]) (F':=[])⟩
theorem Y4{l:List Int}(ha:Cl w a (aT l))(hl:l.length<=35184372088832):Calls prog 268 #[.slice a l.length c] w λ e w' =>
  ∃p:Option Addr,e=.returned (.slice p l.length l.length)/\(l=[]->p=none)/\SF w [] [] [] [] [⟨p,aT l,l.length,39,1⟩] w':=by
 refine enter func268 ntmps268 rfl rfl (SF.s1 ha) ?_;simp only[cN];refine Ka9 ?_;refine cP ?_;refine E2 ?_;refine aX (λ c6=>?_) (λ c6=>?_);·have hl0:l=[]:=List.eq_nil_of_length_eq_zero (by omega);subst hl0;refine eD ?_;refine bJ results268 (λ w hw=>?_);exact⟨none,rfl,λ _=>rfl,(hw.gN 39 1).fS⟩
 ·refine Kd9 ?_;refine cP ?_;refine aH (ll rf rf er1 Zt om om) (λ x9=>?_);refine Jo ?_;refine Ts (λ x12=>?_);refine Kb5 ?_;refine J1 ?_;refine bJ results268 (λ w hw=>?_);exact⟨some ⟨x9,0,none⟩,rfl,λ h=>absurd (congrArg List.length h) (by simpa using c6),by simpa using hw.fS (H':=[]) (F':=[])⟩
theorem aBH(ha:Cl w a (dF l))(hl:l.length<=11728124029610):Calls prog 283 #[.int .u64 h,.slice a l.length c] w λ e w' =>
  ∃p:Option Addr,e=.returned ({Nd.zero with kind:=6,hash:=h,prA:=p,prN:=l.length,dF:=l.length}:Nd).v/\(l=[]->p=none)/\SF w [] [] [] [] [⟨p,dF l,l.length,182,2⟩] w':=by refine enter func283 ntmps283 rfl rfl (SF.s1 ha) ?_;simp only[cN];refine K2f ?_;intro x4;refine Ke2 ?_;refine aI (aj (Hc:=λ _=>[]) (Fc:=λ _=>[]) (hc:=λ w1 hw=>Ku (hw.cl fin) hl)) (λ x7 h7=>?_);refine Sv ?_;refine bF results283 (λ w hw=>?_);exact⟨x7,rfl,h7,hw.fS⟩
theorem X0(hr:Cp w n xs ys)(h1:xs.length<=35184372088832)(h2:ys.length<=11728124029610):Calls prog 231 #[n.v] w λ e w' =>
  ∃p:Option Addr×Option Addr,e=.returned ({n with brA:=p.1,brC:=xs.length,prA:=p.2,dF:=ys.length}:Nd).v/\((xs=[]->p.1=none)/\(ys=[]->p.2=none))/\SF w [] [] [] [] [⟨p.2,dF ys,ys.length,182,2⟩,⟨p.1,aT xs,xs.length,39,1⟩] w':=by
 have e1:=hr.brN;have e2:=hr.prN;refine enter func231 ntmps231 rfl rfl (SF.s2 hr.br hr.pr) ?_;simp only[cN]
 simp only[Nd.v,Nd.cells];refine J0 ?_;refine bC (λ x1=>?_);refine aJ (λ x2=>?_);refine aE ?_;refine jN ?_;refine aI (aj (Hc:=λ _=>[]) (Fc:=λ _=>[]) (hc:=λ w1 hw=>by rw[e1];exact Y4 (hw.cl fin) h1)) (λ x5 h5=>?_);refine Qd ?_;refine jN ?_;refine aI (aj (Hc:=λ _=>[]) (Fc:=λ _=>[]) (hc:=λ w1 hw=>by rw[e2];exact Ku (hw.cl fin) h2)) (λ x9 h9=>?_);refine Qd ?_;refine Ke7 ?_;refine bF results231 (λ w hw=>?_);exact⟨(x5,x9),by rw[e1,e2];rfl,⟨h5,h9⟩,hw.fS⟩
theorem U8(ha:Cl w a (dF l))(hl:l.length<=11728124029610):Calls prog 283 #[.int .u64 h,.slice a l.length c] w λ e w' =>
  ∃p:Option Addr,e=.returned ({Nd.zero with kind:=6,hash:=h,prA:=p,prN:=l.length,dF:=l.length}:Nd).v/\(l=[]->p=none)/\SF w [] [] [] [(p,dF l)] [] w':=(aBH ha hl).mono λ _ _ ⟨p,he,hp,hs⟩=>⟨p,he,hp,SF.frz hs⟩
theorem V6(hr:Cp w n xs ys)(h1:xs.length<=35184372088832)(h2:ys.length<=11728124029610):Calls prog 231 #[n.v] w λ e w' =>
  ∃p:Option Addr×Option Addr,e=.returned ({n with brA:=p.1,brC:=xs.length,prA:=p.2,dF:=ys.length}:Nd).v/\((xs=[]->p.1=none)/\(ys=[]->p.2=none))/\SF w [] [] [] [(p.1,aT xs),(p.2,dF ys)] [] w':=(X0 hr h1 h2).mono λ _ _ ⟨p,he,hp,hs⟩=>⟨p,he,hp,SF.aDr hs⟩
end
section
abbrev tn:=bz 53
abbrev vm(w:World):=N5 w 53
variable{l:List Int}{a:Option Addr}{c:Nat}{w:World}
theorem aBU(v n:Int)(w:World)(hn:IntKind.u64.wrap n≠0):Calls prog 12 #[.int .i64 v,.int .i64 n] w λ e w'=>e=.returned (.int .i64 (Zp v n))/\St w [] [] w':=by refine enter func12 ntmps12 rfl rfl (SF.s0 w) ?_;simp only[cN];refine Kd3 ?_;refine fR ?_;refine aB ?_;refine fR ?_;refine aCB ?_;refine fR ?_;refine J1 ?_;refine bJ results12 (λ w hw=>?_);exact⟨rfl,hw.done⟩
theorem ym:Calls prog 4 #[.slice a l.length c] w λ e w' =>
  ∃b:Nat,e=.returned (.pointer (some ⟨b,0,none⟩))/\True/\SF w [] [(b,tn a l c 0)] [] [] [] w':=by refine enter func4 ntmps4 rfl rfl (SF.s0 w) ?_;simp only[cN];refine Kd3 ?_;refine cI ?_;refine bC (λ x5=>?_);refine J1 ?_;refine bJ results4 (λ w hw=>?_);exact⟨x5,rfl,trivial,hw.fS⟩
theorem Ta{b k:Nat}(n:Int)(ht:vm w b a l c k)(h0:0<n)(h1:n<=9223372036854775807) :
  Calls prog 5 #[.pointer (some ⟨b,0,none⟩),.int .i64 n] w λ e w' =>
  ∃v:Nat,e=.returned (.int .i64 ((v:Nat):Int))/\((v:Int)<n/\v=tvN l k n)/\SF w [b] ((b,tn a l c (za l k))::[]) [] [] [] w':=by
 have hl:=ht.len;have hu:IntKind.u64.wrap n≠0:=by rw[wrap_u64];omega
 refine enter func5 ntmps5 rfl rfl ht.start ?_;simp only[cN];refine Uh ?_;refine aL ?_;refine fO [0,1,2,3,4,5,6,7,8,9] ?_;refine Y0 ?_;refine Cb ?_;refine Wu ?_;refine dA ?_;refine aX (λ c14=>?_) (λ c14=>?_);·refine eD ?_;refine bJ results5 (λ w hw=>?_);exact⟨0,rfl,⟨by omega,by simp only[tvN];rw[if_neg (by omega)]⟩,by simp only[za];rw[if_neg (by omega)];exact hw.fS⟩
 ·refine bk ?_;refine tZ ?_;refine E4 ?_;refine aL ?_;refine fO [0,1,2,3,4,5,6,7,8,9,10,11,12,13] ?_;refine Y0 ?_;refine xz ?_;refine yg ?_;refine aP ?_;refine bR (i:=12) (hq:=(cV (hc:=λ w1 hw=>aBU (l.getD (k+1-1) 0) n w1 hu))) (h:=λ x34=>?_);refine J7 ?_;refine bJ results5 (λ w hw=>?_);have hb:=Vd (v:=l.getD k 0) h0 h1;exact⟨(Zp (l.getD k 0) n).toNat,by rw[Int.toNat_of_nonneg hb.1];rfl,⟨by omega,by simp only[tvN];rw[if_pos (by omega)]⟩,by simp only[za];rw[if_pos (by omega)];exact hw.fS⟩
def Jg:List ByteArray:=[⟨#[97]⟩,⟨#[98]⟩,⟨#[99]⟩,⟨#[100]⟩,⟨#[97,98]⟩,⟨#[]⟩,⟨#[98,48]⟩,⟨#[107,101,121]⟩]
theorem aDi{l:List Int}{a:Option Addr}{b c k:Nat}{w:World}(ht:vm w b a l c k) :
  Calls prog 7 #[.pointer (some ⟨b,0,none⟩)] w λ e w' =>
  ∃v:Nat,e=.returned (.string (Jg.getD v ⟨#[]⟩))/\(v<8/\v=tvN l k 8)/\SF w [b] ((b,tn a l c (za l k))::[]) [] [] [] w':=by refine enter func7 ntmps7 rfl rfl ht.start ?_;simp only[cN];refine eD ?_;refine J0 ?_;refine nD (λ x3=>?_);refine aB ?_;refine aI (cF1 (hc:=λ w1 hw=>Ta 8 (hw.tape bI fin ht.len) (by decide) (by decide))) (λ x5 h5=>?_);refine aA (bj (lst:=Jg) rf rf dP eL fin (by omega) E1d) rfl ?_;refine aA (tm (lst:=Jg) rf eL fin E1d) rfl ?_;refine J1 ?_;refine bJ results7 (λ w hw=>?_);exact⟨x5,rfl,⟨by omega,h5.2⟩,hw.fS⟩
theorem Uq(v:Nat):(Jg.getD v ⟨#[]⟩).size<=3:=by
 by_cases h:v<8
 ·have:v=0∨v=1∨v=2∨v=3∨v=4∨v=5∨v=6∨v=7:=by omega
  rcases this with rfl|rfl|rfl|rfl|rfl|rfl|rfl|rfl<;>decide
 ·rw[List.getD,List.getElem?_eq_none E1d];decide
end
end Go.Proofs.YtdeecdfockjoiaaGreatDoor
namespace Go.Ct
section
end
end Go.Ct
namespace Go.Proofs.YtdeecdfockjoiaaGreatDoor
open Go.Proofs.Tryz
section
open Go.RowKit Go.Ct
end
section
open Go.RowKit Go.Ct
def tmb(s:Nd):Nd:={Nd.zero with kind:=5,hash:=s.hash,key:=s.key,val:=s.val}
def mG(n:Nd):Nd:=if n.kind=5 then{Nd.zero with kind:=4,hash:=n.hash,key:=n.key,val:=n.val} else Nd.zero
theorem S8(n:Nd)(w:World):Calls prog 245 #[n.v] w λ e w'=>e=.returned (.tuple #[(mG n).v,.bool (decide (n.kind=5))])/\St w [] [] w':=by
 refine enter func245 ntmps245 rfl rfl (SF.s0 w) ?_;simp only[cN];simp only[Nd.v,Nd.cells];refine J0 ?_;refine bC (λ x1=>?_);refine aJ (λ x2=>?_);refine lX ?_;refine jN ?_;refine Kc0 ?_;refine aX (λ c6=>?_) (λ c6=>?_);·refine Ke0 ?_;refine Px ?_;refine bF results245 (λ w hw=>?_);exact⟨by rw[show mG n=Nd.zero from if_neg (by assumption),decide_eq_false (by assumption)];rfl,hw.done⟩
 ·refine bG ?_;refine jN ?_;refine J3 ?_;refine J3 ?_;refine aH (cV (hc:=λ w1 hw=>Bw n.hash n.key n.val w1)) (λ x14=>?_);refine Px ?_;refine bF results245 (λ w hw=>?_);exact⟨by rw[show mG n={Nd.zero with kind:=4,hash:=n.hash,key:=n.key,val:=n.val} from if_pos (by omega),decide_eq_true (by omega)];rfl,hw.done⟩
section
variable{n s:Nd}{xs:List Int}{ys:List Pr}{w:World}{b:Nat}
def LV(n:Nd)(xs:List Int)(ys:List Pr):Prop:=n.kind=6/\fW n xs ys
theorem Er(hr:Cp w n xs ys):Calls prog 282 #[n.v] w λ e w'=>∃r:Bool,e=.returned (.bool r)/\(r=true↔LV n xs ys)/\St w [] [] w':=by
 refine enter func282 ntmps282 rfl rfl (SF.s0 w) ?_;simp only[cN];simp only[Nd.v,Nd.cells];refine J0 ?_;refine bC (λ x1=>?_);refine J1 ?_;refine jN ?_;refine Kb2 ?_;(refine mN 6 (λ g6=>?_) (λ g6=>?_)<;>refine Kf0 ?_);all_goals ((first|refine aZ ?_|(refine aF ?_;refine aI (c0 (V:=.bool) (hc:=λ w1 hw=>Ll (n:=n) (hr.jR hw.done))) (λ x8 h8=>?_)));refine bY ?_;refine J1 ?_)
 all_goals
 refine bJ results282 (λ w hw=>?_);refine⟨_,rfl,?_,hw.done⟩;simp_all[LV]
open Classical in
def Jm(n:Nd)(xs:List Int)(ys:List Pr)(level:Int)(s:Nd):Bool:=decide ((b9 n xs ys).isSome=true/\0<level/\s.kind=4)
def v9(t:Bool)(n s:Nd)(xs:List Int)(ys:List Pr)(x:Option Addr×Option Addr):Nd:=if t=true then tmb s else{n with brA:=x.1,brC:=xs.length,prA:=x.2,dF:=ys.length}
def reN(t:Bool)(n s:Nd):Nd:=if t=true then tmb s else n
def Ea{α:Type}(t:Bool)(l:List α):List α:=if t=true then [] else l
theorem tH(level:Int)(s:Nd)(hr:Cp w n xs ys)(hx:xs.length<=1000)(hy:ys.length<=1000):Calls prog 247 #[n.v,.int .i64 level,s.v] w λ e w'=>∃x:Option Addr×Option Addr,e=.returned (v9 (Jm n xs ys level s) n s xs ys x).v/\True/\SF w [] [] [] [(x.1,aT (Ea (Jm n xs ys level s) xs)),(x.2,dF (Ea (Jm n xs ys level s) ys))] [] w':=by
 refine enter func247 ntmps247 rfl rfl (SF.s0 w) ?_;simp only[cN];simp only[Nd.v,Nd.cells];refine K3f ?_;intro x3;refine K3k ?_;intro x5 x6;refine oT ?_;refine aH (cV (hc:=λ w1 hw=>lx (n:=n) (hr.jR hw.done))) (λ x11=>?_);refine aB ?_;refine K1s ?_;refine J8 ?_;refine gQ ?_;refine vI ?_;refine aB ?_;(refine mN 16 (λ g16=>?_) (λ g16=>?_)<;>refine Ka3 ?_);all_goals (refine Kb3 ?_)
 all_goals (first|refine aZ ?_|(refine mN 19 (λ g19=>?_) (λ g19=>?_)<;>refine Ka5 ?_))
 all_goals (refine J78 ?_;refine aE ?_)
 all_goals
 refine aX (λ c23=>?_) (λ c23=>?_)
 ·try exact nv c23
  all_goals (refine jN ?_;refine J3 ?_;refine J3 ?_;refine aH (cV (hc:=λ w1 hw=>gg s.hash s.key s.val w1)) (λ x30=>?_);refine J5 ?_)
  all_goals refine bF results247 (λ w hw=>?_);rw[show Jm n xs ys level s=true from decide_eq_true ⟨by assumption,by omega,by omega⟩];exact⟨(none,none),rfl,trivial,((hw.M7 none).M7 none).fin⟩
 ·all_goals (refine bG ?_;refine oT ?_;refine aI (cF (hc:=λ w1 hw=>V6 (n:=n) (hr.jR hw.done) (by omega) (by omega))) (λ x32 h32=>?_);refine J5 ?_)
  all_goals refine bF results247 (λ w hw=>?_);rw[show Jm n xs ys level s=false from decide_eq_false (by rintro ⟨t1,t2,t3⟩;first|omega|(clear hw;simp_all;done))];exact⟨x32,rfl,trivial,hw.fin⟩
end
end
section
open Go.RowKit Go.Ct
def wh(o:Option (List Pr))(h:Int)(x:Option Addr×Nat):Nd:=match o with|some m=>{Nd.zero with kind:=6,hash:=h,prA:=x.1,prN:=m.length,dF:=x.2}|none=>Nd.zero
def jf(o:Option (List Pr)):List Pr:=o.getD []
def Sy(o:Option (List Pr))(h:Int)(x:Option Addr×Nat):Nd:=match o with|some m=>if m.length=1 then{Nd.zero with kind:=5,hash:=h,key:=(m.getD 0 (⟨#[]⟩,0)).1,val:=(m.getD 0 (⟨#[]⟩,0)).2} else{Nd.zero with kind:=6,hash:=h,prA:=x.1,prN:=m.length,dF:=x.2}|none=>Nd.zero
def H6(o:Option (List Pr)):List Pr:=match o with|some m=>if m.length=1 then [] else m|none=>[]
instance (n:Nd) (xs:List Int) (ys:List Pr):Decidable (LV n xs ys):=inferInstanceAs (Decidable (_/\_))
def iY(n:Nd)(xs:List Int)(ys:List Pr)(k:ByteArray)(v:Int):Option (List Pr):=if LV n xs ys/\k.size<=64 then some (rF ys k v) else none
def mE(n:Nd)(xs:List Int)(ys:List Pr)(k:ByteArray):Option (List Pr):=if LV n xs ys/\(cS ys k).isSome=true then some (kQ ys k) else none
def aDP(w:World)(o:Option (List Pr))(h:Int)(e:Ending)(w':World):Prop:=∃x:Option Addr×Nat,e=.returned (.tuple #[(wh o h x).v,.bool o.isSome])/\(jf o).length<=x.2/\SF w [] [] [] [(x.1,dF (jf o))] [] w'
def aDs(w:World)(o:Option (List Pr))(h:Int)(e:Ending)(w':World):Prop:=∃x:Option Addr×Nat,e=.returned (.tuple #[(Sy o h x).v,.bool o.isSome])/\(H6 o).length<=x.2/\SF w [] [] [] [(x.1,dF (H6 o))] [] w'
section
variable{n s:Nd}{xs:List Int}{ys:List Pr}{w:World}{b:Nat}
theorem V0(k:ByteArray)(v:Int)(hr:Cp w n xs ys)(hc:ys.length<=n.dF)(hy:ys.length<=150000000000):Calls prog 251 #[n.v,.string k,.int .u64 v] w (aDP w (iY n xs ys k v) n.hash):=by
 have e2:=hr.prN;have hp:=Mt ys k v;refine enter func251 ntmps251 rfl rfl (SF.s1 hr.pr) ?_;simp only[cN]
 simp only[Nd.v,Nd.cells,e2];refine K3f ?_;intro x3;refine aJ (λ x6=>?_);refine lX ?_;refine oT ?_;refine aI (c0 (V:=.bool) (hc:=λ w1 hw=>by rw[<- e2];exact Er (n:=n) (hr.jR hw.done))) (λ x9 h9=>?_);refine Ti ?_;(refine mN 11 (λ g11=>?_) (λ g11=>?_)<;>refine Ka3 ?_);all_goals ((first|refine aZ ?_|(refine aF ?_;refine pW ?_));refine w9 ?_;refine aE ?_)
 all_goals
 refine aX (λ c15=>?_) (λ c15=>?_)
 ·all_goals (refine Ke0 ?_;refine Px ?_)
  all_goals refine bF results251 (λ w hw=>?_);rw[show iY n xs ys k v=none from if_neg (by rintro ⟨t1,t2⟩;have:=h9.2 t1;clear hw;first|omega|(simp_all;done))];exact⟨(none,0),rfl,Nat.le_refl _,(hw.M7 none).fin⟩
 ·try exact nv c15
  all_goals (refine lL ?_;refine eO [(0,[]),(1,[]),(2,[]),(3,[]),(4,[]),(5,[]),(6,[1]),(7,[]),(8,[]),(9,[])] ?_;refine Kc6 ?_;refine yS ?_;refine bE (i:=6) (hq:=(cF (hc:=λ w1 hw=>rh (l:=ys) k v (hw.cl fin) hc (by omega)))) (h:=λ x23 h23=>?_);refine bE (i:=7) (hq:=(cF (hc:=λ w1 hw=>U8 (h:=n.hash) (hw.cl fin) (by omega)))) (h:=λ x24 h24=>?_);refine S9 ?_)
  all_goals refine bF results251 (λ w hw=>?_);rw[show iY n xs ys k v=some (rF ys k v) from if_pos ⟨h9.1 (by clear hw;simp_all),by omega⟩];exact⟨(x24,(rF ys k v).length),rfl,Nat.le_refl _,hw.fin⟩
theorem Q4(k:ByteArray)(hr:Cp w n xs ys)(hc:ys.length<=n.dF)(hy:ys.length<=150000000000):Calls prog 291 #[n.v,.string k] w (aDs w (mE n xs ys k) n.hash):=by
 have e2:=hr.prN;have hp:=Ik ys k;refine enter func291 ntmps291 rfl rfl (SF.s1 hr.pr) ?_;simp only[cN]
 simp only[Nd.v,Nd.cells,e2];refine J0 ?_;refine bC (λ x2=>?_);refine aJ (λ x4=>?_);refine lX ?_;refine oT ?_;refine aI (c0 (V:=.bool) (hc:=λ w1 hw=>by rw[<- e2];exact Er (n:=n) (hr.jR hw.done))) (λ x10 h10=>?_);refine pU ?_;refine aX (λ c11=>?_) (λ c11=>?_);·refine Ke0 ?_;refine Px ?_;refine bF results291 (λ w hw=>?_);rw[show mE n xs ys k=none from if_neg (by rintro ⟨t1,t2⟩;have:=h10.2 t1;clear hw;simp_all)];exact⟨(none,0),rfl,Nat.le_refl _,(hw.M7 none).fin⟩
 ·refine lL ?_;refine Ke5 ?_;refine aH (cV (hc:=λ w1 hw=>Jl (l:=ys) k (hw.cl fin) (by omega))) (λ x17=>?_);refine aB ?_;refine K1s ?_;refine J8 ?_;refine J2 ?_;refine pU ?_;refine aX (λ c21=>?_) (λ c21=>?_);·refine Ke0 ?_;refine Px ?_;refine bF results291 (λ w hw=>?_);rw[show mE n xs ys k=none from if_neg (by rintro ⟨t1,t2⟩;clear hw;simp_all)];exact⟨(none,0),rfl,Nat.le_refl _,(hw.M7 none).fin⟩
  ·refine bG ?_;refine Ke5 ?_;refine aI (cF (hc:=λ w1 hw=>fw (l:=ys) k (hw.cl fin) hc (by omega))) (λ x26 h26=>?_);refine Kc7 ?_;refine cP ?_;refine E2 ?_;refine aX (λ c29=>?_) (λ c29=>?_)
   ·refine aL ?_;refine fO [0,1,2,3,4,5,6,7,8,9,10,11,12] ?_;refine hY ?_;refine aP ?_;refine aS (i:=3) (hq:=(Hw (k:=0) rf rf dP cY fin (by omega) (by omega))) (h:=?_);refine hY ?_;refine aP ?_;refine aS (i:=7) (hq:=(Hw (k:=0) rf rf dP cY fin (by omega) (by omega))) (h:=?_);refine bQ ?_;refine aS (i:=9) (hq:=(Rf (q:=0) (lst:=kQ ys k) rf eL fin (by omega))) (h:=?_);refine bR (i:=10) (hq:=(cV (hc:=λ w1 hw=>gg n.hash ((kQ ys k).getD 0 (⟨#[]⟩,0)).1 ((kQ ys k).getD 0 (⟨#[]⟩,0)).2 w1))) (h:=λ x40=>?_);refine S9 ?_;refine bF results291 (λ w hw=>?_);have e1:(kQ ys k).length=1:=by omega
    rw[show mE n xs ys k=some (kQ ys k) from if_pos ⟨h10.1 (by clear hw;simp_all),by clear hw;simp_all⟩];exact⟨(none,0),by simp only[Sy,if_pos e1];rfl,by simp only[H6,if_pos e1];exact Nat.le_refl _,by simp only[H6,if_pos e1];exact(hw.M7 none).fin⟩
   ·refine bG ?_;refine Ke5 ?_;refine aI (cF (hc:=λ w1 hw=>U8 (h:=n.hash) (hw.cl fin) (by omega))) (λ x44 h44=>?_);refine Px ?_;refine bF results291 (λ w hw=>?_);have e1:¬(kQ ys k).length=1:=by omega
    rw[show mE n xs ys k=some (kQ ys k) from if_pos ⟨h10.1 (by clear hw;simp_all),by clear hw;simp_all⟩];exact⟨(x44,(kQ ys k).length),by simp only[Sy,if_neg e1];rfl,by simp only[H6,if_neg e1];exact Nat.le_refl _,by simp only[H6,if_neg e1];exact hw.fin⟩
end
end
end Go.Proofs.YtdeecdfockjoiaaGreatDoor
namespace Go.Ct
open Go Go.RowKit
section
section
variable{P:Program}{n:Nat}{S:List (Nat×Value)}
variable{w0 w w':World}{M:List Nat}{H H':List (Nat×Obj)}{A F F':Fr}{O O':List Ow}{G:World->Prop}
variable{d:Nat}{ty:TypeId}{pos:String}{af:Array Edge}{gd:Option (Nat×Bool)}{dst:Option Nat}{x y z:Operand}{t t2 e:TypeId}{p a:Option Addr}{i m k c c2:Nat}
theorem SF.aBP{a1:Option Addr×List Value}(h:SF w0 M H (a1::A) F O w):SF w0 M H A F O w:=⟨h.st,λ f hf=>h.old f (List.mem_cons_of_mem _ hf),h.new,h.own,h.dis⟩
def tlA(a:Option Addr)(k c:Nat):Option Addr:=if c=k then a else a.map (·.add k)
theorem Mz(hx:ev S x=.slice a m c)(hy:ev S y=.int .i64 ((k:Nat):Int))(ht:P.underlying t=some (.slice e))(hs:(P.info? e).map (·.size)=some 1)(hk:k<=m)(hmc:m<=c) :
  aN P S G ⟨some d,.slice t x (some y) none none,ty,pos,af,gd⟩ (.slice (tlA a k c) (m-k) (c-k)):=⟨λ w _=>by
 have he:P.elem t=e:=by simp[Program.elem,ht]
 have ht':P.underlying t=some (.slice (P.elem t)):=by rw[he];exact ht
 cases hi:P.info? e with
 | none=>simp[hi] at hs
 | some inf=>
  have hs':inf.size=1:=by simpa[hi] using hs
  have hr:=run_slice_l (P:=P) w t a m c ht' .i64 (k:Int) (by omega) (by omega);refine mx (v:=.slice (tlA a k c) (m-k) (c-k)) ?_;simp[hx,hy,run_sliceAt_slice w t _ _ _ _ ht',hr,he,sizeOf,typeInfo,hi,hs',sliced,tlA]⟩
theorem SF.me(h:SF w0 M H A F O w){l:List Int}(hf:qC A F [] a (aT l))(hc:l.length<=c):SF w0 M H ((tlA a k c,aT (l.drop k))::A) F O w:=by
 have e:aT (l.drop k)=(aT l).drop k:=by rw[Gx]
 rw[e];refine h.Ji hf (λ hn=>?_) (λ h=>by rw[h];simp) (λ w hc'=>?_)
 ·unfold tlA;split;·rfl
  ·cases a with
   | none=>rfl
   | some a=>obtain⟨b,o,s⟩:=a;simp only[Option.map_some,dJ,Addr.add];split<;>rfl
 ·unfold tlA;split;·rename_i heq;have:(aT l).drop k=[]:=List.drop_eq_nil_of_le (by rw[lG];omega);rw[this];exact Cl.nil _ _
  ·exact hc'.drop _
theorem SF.m9(h:SF w0 M H A F O w){l:List Int}(hf:qC A F [] a (aT l)):SF w0 M H ((a,aT (l.take k))::A) F O w:=by
 have e:aT (l.take k)=(aT l).take k:=by rw[zT]
 rw[e];exact h.Ji hf (λ _=>rfl) (λ h=>by rw[h];simp) (λ w hc=>hc.take (List.take_prefix _ _))
abbrev Sl:=Option Addr×List Int×Nat
def xr(L:List Sl):List Value:=L.map λ q=>.slice q.1 q.2.1.length q.2.2
def slA(L:List Sl):Fr:=L.map λ q=>(q.1,aT q.2.1)
def Ek(L:List Sl):List Int:=L.flatMap λ q=>q.2.1
variable{L:List Sl}
theorem Qv{kk:IntKind}(hx:ev S x=.slice a m c)(hy:ev S y=.int kk ((k:Nat):Int))(ht:P.underlying t=some (.slice e))(hs:one P e=true)(hf:qC A F O a (xr L))(h1:k<m)(h2:k<L.length) :
  aN P S (SF w0 M H A F O) ⟨some d,.indexAddr t x y,ty,pos,af,gd⟩ (.pointer (some ⟨dJ a,eQ a+k,none⟩)):=⟨λ w hw =>
 (Aw (G:=SF w0 M H A F O) hx hy ht hs ((hw.cl hf).ptr (by simp only[xr,List.length_map];omega)) h1).run w hw⟩
theorem Yg{q:Nat}{z:Sl}(hx:ev S x=.pointer (some ⟨dJ a,eQ a+q,none⟩))(ht:one P t=true)(hf:qC A F O a (xr L))(hq:L[q]?=some z) :
  aN P S (SF w0 M H A F O) ⟨some d,.load t x,ty,pos,af,gd⟩ (.slice z.1 z.2.1.length z.2.2):=wP hx ht (λ w hw=>hw.cl hf) (by simp[xr,hq])
theorem mU.ti{F:Fr}{q:Option Addr×List Value}(h:q∈F):mU F q.1 q.2:=by
 induction F with
 | nil=>exact(List.not_mem_nil h).elim
 | cons f F ih=>
  rcases List.mem_cons.1 h with rfl|h;·exact .head
  ·exact .tail (ih h)
theorem aAd{k:Nat}{z:Sl}(hz:L[k]?=some z):qC ((a,xr L)::slA L) F O z.1 (aT z.2.1):=by have h:mU (slA L) z.1 (aT z.2.1):=mU.ti (q:=(z.1,aT z.2.1)) (List.mem_map.2 ⟨z,List.mem_of_getElem? hz,rfl⟩);exact .old (.tail h)
theorem Am{k:Nat}{z:Sl}(h:L[k]?=some z):Ek (L.take (k+1))=Ek (L.take k)++z.2.1:=by unfold Ek;rw[List.take_add_one,h,List.flatMap_append];simp
theorem aBK{B:Nat}(hB:∀q∈L,q.2.1.length<=B):(Ek L).length<=L.length*B:=by
 induction L with
 | nil=>simp[Ek]
 | cons q L ih=>have h1:=ih λ q hq=>hB q (List.mem_cons_of_mem _ hq);have h2:=hB q (List.mem_cons_self ..);have:Ek (q::L)=q.2.1++Ek L:=rfl;rw[this,List.length_append,List.length_cons,Nat.add_mul,Nat.one_mul];omega
theorem Nl(L:List Sl)(k:Nat):(Ek (L.take k)).length<=(Ek L).length:=by
 have:Ek L=Ek (L.take k)++Ek (L.drop k):=by unfold Ek;rw[<- List.flatMap_append,List.take_append_drop]
 rw[this,List.length_append];omega
end
end
end Go.Ct
namespace Go.Proofs.YtdeecdfockjoiaaGreatDoor
open Go.Proofs.Tryz
open Go Go.RowKit Go.Ct
section
theorem uf:cH prog 96=some (.slice none 0 0):=by kernel_rfl
theorem u0:dU prog 349 96 [.slice none 0 0]:=gR (by kernel_rfl) uf rfl
theorem Hs{t:Nat}(h:Nat.beq t 349=true):dU prog t 96 [.slice none 0 0]:=by rw[fC h];exact u0
theorem Wc:prog.underlying 349=some (.slice 96):=by kernel_rfl
theorem Mg:one prog 96=true:=by kernel_rfl
theorem dm{L:List Sl}{a:Option Addr}{ca:Nat}{w:World}(ha:Cl w a (xr L))(hl:∀q∈L,Cl w q.1 (aT q.2.1))(h3:L.length<=3)(hB:∀q∈L,q.2.1.length<=1000) :
  Calls prog 299 #[.slice a L.length ca] w λ e w'=>∃x:Option Addr×Nat,e=.returned (.slice x.1 (Ek L).length x.2)/\(Ek L).length<=x.2/\SF w [] [] [] [] [⟨x.1,aT (Ek L),x.2,39,1⟩] w':=by
 have hle:=aBK hB;have hst:SF w [] [] ((a,xr L)::slA L) [] [] w:=SF.begin λ f hf=>by
  rcases List.mem_cons.1 hf with rfl|hf;·exact ha
  ·obtain⟨q,hq,rfl⟩:=List.mem_map.1 hf;exact hl q hq
 refine enter func299 ntmps299 rfl rfl hst ?_;simp only[cN];refine eD ?_;refine Ka9 ?_;refine aA (Xb rf Wc) rfl ?_;refine Ka7 ?_;refine kP [3,5,11,12,13,14,15,16,17,18,19] (λ k=>[(3,.int .i64 (((Ek (L.take k)).length:Nat):Int)),(11,.int .i64 ((k:Nat):Int))]) (λ k=>k<=L.length) (λ k=>L.length-k) (0) (Nat.zero_le _) ?_ (λ k f hx=>?_);·repeat (first|exact bX _|refine bL (by exact rfl) ?_)
 refine K4a ?_;refine aX (λ c12=>?_) (λ c12=>?_)
 ·obtain⟨z,hz⟩:∃z,L[k]?=some z:=⟨L[k]'(by omega),List.getElem?_eq_getElem (by omega)⟩;have hzl:=congrArg List.length (Am hz);rw[List.length_append] at hzl;have hzp:=Nl L (k+1);refine K3x ?_;refine cP ?_;refine rQ ?_;refine Kd8 ?_;refine hJ (k+1) ?_ ?_ ?_
  ·omega
  ·repeat' (first|exact bX _|refine bL ?_ ?_)
   all_goals (first|exact rfl|(conv=>{lhs;whnf};congr 1;omega))
  ·omega
 ·have hzp:=Nl L k;refine K1z ?_;refine J2 ?_;refine aH (Yf (m:=0) rf rf Pt (Nat.zero_le _) (by omega)) (λ x21=>?_);refine Kc7 ?_;refine aA (Xb rf Wc) rfl ?_;refine Ka7 ?_;refine sF [6,8,24,25,26,27,28,29,30,31] (λ y:Nat×Option Addr×Nat=>[(6,.slice y.2.1 (Ek (L.take y.1)).length y.2.2),(24,.int .i64 ((y.1:Nat):Int))]) (λ y=>y.1<=L.length/\(Ek (L.take y.1)).length<=y.2.2) (λ _=>_) (λ _=>_) (λ y=>[⟨y.2.1,aT (Ek (L.take y.1)),y.2.2,39,1⟩]) (λ y=>L.length-y.1) ((0,some ⟨x21,0,none⟩,(Ek (L.take k)).length)) (⟨Nat.zero_le _,Nat.zero_le _⟩) (λ y f hx=>?_);refine K4a ?_;refine aX (λ c25=>?_) (λ c25=>?_)
  ·obtain⟨z,hz⟩:∃z,L[y.1]?=some z:=⟨L[y.1]'(by omega),List.getElem?_eq_getElem (by omega)⟩;have hzl:=congrArg List.length (Am hz);rw[List.length_append] at hzl;have hzp:=Nl L (y.1+1);have hzf:=aAd (a:=a) (F:=[]) (O:=[]) hz;refine rE (λ w hw=>hw.Ji hzf (λ _=>rfl) (λ h=>h) (λ _ h=>h)) ?_;refine K3x ?_;(refine Ax (λ x30=>?_);try (refine dQ (λ h30=>?_)));refine Kd8 ?_;refine kJ ((y.1+1,x30)) ?_ ?_ E0n ?_ (λ w hw=>by rw[<- Am hz] at hw;exact hw.aBP.back)
   ·omega
   ·repeat' (first|exact bX _|refine bL ?_ ?_)
    all_goals (first|(conv=>{lhs;whnf};rw[<- hzl])|exact rfl)
   ·exact⟨by omega,by simp only[];rw[Am hz,List.length_append];omega⟩
  ·refine K1z ?_;refine Kd6 ?_;refine bJ results299 (λ w hw=>?_);have hy:y.1=L.length:=by omega
   rw[hy,List.take_length] at hw;exact⟨(y.2.1,y.2.2),by rw[hy,List.take_length];rfl,by rw[hy,List.take_length] at hx;exact hx.2,hw.fS⟩
end
end Go.Proofs.YtdeecdfockjoiaaGreatDoor

/- Merged. -/
import Derived.Test.YthblobahelfefaaGreatDoorGBit2
import Derived.Test.YthblobahelfefaaGreatDoorGSlices
import Derived.Test.YthblobahelfefaaGreatDoorGJoin
import Derived.Test.YthblobahelfefaaGreatDoorGAutoD
import Derived.Test.YthblobahelfefaaGreatDoorGAr5
import Derived.Test.YthblobahelfefaaGreatDoorGPa2
set_option linter.unusedSimpArgs false
set_option linter.unusedVariables false
namespace Go.Ct
open Go Go.RowKit
section
section
variable{P:Program}{n:Nat}{S:List (Nat×Value)}
variable{w0 w w':World}{M:List Nat}{H H':List (Nat×Obj)}{A F F':Fr}{O O':List Ow}{G:World->Prop}
variable{d:Nat}{ty:TypeId}{pos:String}{af:Array Edge}{gd:Option (Nat×Bool)}{dst:Option Nat}{x y z:Operand}{t t2 e:TypeId}{p a:Option Addr}{i m k c c2:Nat}
theorem SF.aCh{a1:Option Addr×List Value}(h:SF w0 M H (a1::A) F O w):SF w0 M H A F O w:=⟨h.st,λ f hf=>h.old f (List.mem_cons_of_mem _ hf),h.new,h.own,h.dis⟩
def tlA(a:Option Addr)(k c:Nat):Option Addr:=if c=k then a else a.map (·.add k)
theorem V5(hx:ev S x=.slice a m c)(hy:ev S y=.int .i64 ((k:Nat):Int))(ht:P.underlying t=some (.slice e))(hs:(P.info? e).map (·.size)=some 1)(hk:k<=m)(hmc:m<=c) :
  aH P S G ⟨some d,.slice t x (some y) none none,ty,pos,af,gd⟩ (.slice (tlA a k c) (m-k) (c-k)):=⟨λ w _=>by
 have he:P.elem t=e:=by simp[Program.elem,ht]
 have ht':P.underlying t=some (.slice (P.elem t)):=by rw[he];exact ht
 cases hi:P.info? e with
 | none=>simp[hi] at hs
 | some inf=>
  have hs':inf.size=1:=by simpa[hi] using hs
  have hr:=run_slice_l (P:=P) w t a m c ht' .i64 (k:Int) (by omega) (by omega);refine jy (v:=.slice (tlA a k c) (m-k) (c-k)) ?_;simp[hx,hy,run_sliceAt_slice w t _ _ _ _ ht',hr,he,sizeOf,typeInfo,hi,hs',sliced,tlA]⟩
theorem SF.aBE(h:SF w0 M H A F O w){l:List Int}(hf:pB A F [] a (aN l))(hc:l.length<=c):SF w0 M H ((tlA a k c,aN (l.drop k))::A) F O w:=by
 have e:aN (l.drop k)=(aN l).drop k:=by rw[Ip]
 rw[e];refine h.Gy hf (λ hn=>?_) (λ h=>by rw[h];simp) (λ w hc'=>?_)
 ·unfold tlA;split;·rfl
  ·cases a with
   | none=>rfl
   | some a=>obtain⟨b,o,s⟩:=a;simp only[Option.map_some,cI,Addr.add];split<;>rfl
 ·unfold tlA;split;·rename_i heq;have:(aN l).drop k=[]:=List.drop_eq_nil_of_le (by rw[kG];omega);rw[this];exact Cl.nil _ _
  ·exact hc'.drop _
theorem SF.aBn(h:SF w0 M H A F O w){l:List Int}(hf:pB A F [] a (aN l)):SF w0 M H ((a,aN (l.take k))::A) F O w:=by
 have e:aN (l.take k)=(aN l).take k:=by rw[yL]
 rw[e];exact h.Gy hf (λ _=>rfl) (λ h=>by rw[h];simp) (λ w hc=>hc.take (List.take_prefix _ _))
abbrev Sl:=Option Addr×List Int×Nat
def slC(L:List Sl):List Value:=L.map λ q=>.slice q.1 q.2.1.length q.2.2
def slA(L:List Sl):Fr:=L.map λ q=>(q.1,aN q.2.1)
def Er(L:List Sl):List Int:=L.flatMap λ q=>q.2.1
variable{L:List Sl}
theorem R7{kk:IntKind}(hx:ev S x=.slice a m c)(hy:ev S y=.int kk ((k:Nat):Int))(ht:P.underlying t=some (.slice e))(hs:one P e=true)(hf:pB A F O a (slC L))(h1:k<m)(h2:k<L.length) :
  aH P S (SF w0 M H A F O) ⟨some d,.indexAddr t x y,ty,pos,af,gd⟩ (.pointer (some ⟨cI a,dH a+k,none⟩)):=⟨λ w hw =>
 (Io (G:=SF w0 M H A F O) hx hy ht hs ((hw.cl hf).ptr (by simp only[slC,List.length_map];omega)) h1).run w hw⟩
theorem W7{q:Nat}{z:Sl}(hx:ev S x=.pointer (some ⟨cI a,dH a+q,none⟩))(ht:one P t=true)(hf:pB A F O a (slC L))(hq:L[q]?=some z) :
  aH P S (SF w0 M H A F O) ⟨some d,.load t x,ty,pos,af,gd⟩ (.slice z.1 z.2.1.length z.2.2):=zU hx ht (λ w hw=>hw.cl hf) (by simp[slC,hq])
theorem lQ.xz{F:Fr}{q:Option Addr×List Value}(h:q∈F):lQ F q.1 q.2:=by
 induction F with
 | nil=>exact(List.not_mem_nil h).elim
 | cons f F ih=>
  rcases List.mem_cons.1 h with rfl|h;·exact .head
  ·exact .tail (ih h)
theorem aCu{k:Nat}{z:Sl}(hz:L[k]?=some z):pB ((a,slC L)::slA L) F O z.1 (aN z.2.1):=by have h:lQ (slA L) z.1 (aN z.2.1):=lQ.xz (q:=(z.1,aN z.2.1)) (List.mem_map.2 ⟨z,List.mem_of_getElem? hz,rfl⟩);exact .old (.tail h)
theorem As{k:Nat}{z:Sl}(h:L[k]?=some z):Er (L.take (k+1))=Er (L.take k)++z.2.1:=by unfold Er;rw[List.take_add_one,h,List.flatMap_append];simp
theorem aDh{B:Nat}(hB:∀q∈L,q.2.1.length<=B):(Er L).length<=L.length*B:=by
 induction L with
 | nil=>simp[Er]
 | cons q L ih=>have h1:=ih λ q hq=>hB q (List.mem_cons_of_mem _ hq);have h2:=hB q (List.mem_cons_self ..);have:Er (q::L)=q.2.1++Er L:=rfl;rw[this,List.length_append,List.length_cons,Nat.add_mul,Nat.one_mul];omega
theorem Oe(L:List Sl)(k:Nat):(Er (L.take k)).length<=(Er L).length:=by
 have:Er L=Er (L.take k)++Er (L.drop k):=by unfold Er;rw[<- List.flatMap_append,List.take_append_drop]
 rw[this,List.length_append];omega
end
end
end Go.Ct
namespace Go.Proofs.YthblobahelfefaaGreatDoor
open Go.Proofs.Tryz
section
open Go Go.RowKit Go.Ct
theorem zh:bR prog 122=some (.slice none 0 0):=by kernel_rfl
theorem wh:cS prog 344 122 [.slice none 0 0]:=fX (by kernel_rfl) zh rfl
theorem Sh{t:Nat}(h:Nat.beq t 344=true):cS prog t 122 [.slice none 0 0]:=by rw[eJ h];exact wh
theorem Yc:prog.underlying 344=some (.slice 122):=by kernel_rfl
theorem Nq:one prog 122=true:=by kernel_rfl
theorem s6{L:List Sl}{a:Option Addr}{ca:Nat}{w:World}(ha:Cl w a (slC L))(hl:∀q∈L,Cl w q.1 (aN q.2.1))(h3:L.length<=3)(hB:∀q∈L,q.2.1.length<=1000) :
  Calls prog 296 #[.slice a L.length ca] w λ e w'=>∃x:Option Addr×Nat,e=.returned (.slice x.1 (Er L).length x.2)/\(Er L).length<=x.2/\SF w [] [] [] [] [⟨x.1,aN (Er L),x.2,69,1⟩] w':=by
 have hle:=aDh hB;have hst:SF w [] [] ((a,slC L)::slA L) [] [] w:=SF.begin λ f hf=>by
  rcases List.mem_cons.1 hf with rfl|hf;·exact ha
  ·obtain⟨q,hq,rfl⟩:=List.mem_map.1 hf;exact hl q hq
 refine enter func296 ntmps296 rfl rfl hst ?_;simp only[bY];refine cC ?_;refine Ka5 ?_;refine aA (Yl rf Yc) rfl ?_;refine Ka8 ?_;refine iI [3,5,11,12,13,14,15,16,17,18,19] (λ k=>[(3,.int .i64 (((Er (L.take k)).length:Nat):Int)),(11,.int .i64 ((k:Nat):Int))]) (λ k=>k<=L.length) (λ k=>L.length-k) (0) (Nat.zero_le _) ?_ (λ k f hx=>?_);·repeat (first|exact bH _|refine aY (by exact rfl) ?_)
 refine K2b ?_;refine aX (λ c12=>?_) (λ c12=>?_)
 ·obtain⟨z,hz⟩:∃z,L[k]?=some z:=⟨L[k]'(by omega),List.getElem?_eq_getElem (by omega)⟩;have hzl:=congrArg List.length (As hz);rw[List.length_append] at hzl;have hzp:=Oe L (k+1);refine K1s ?_;refine cZ ?_;refine pX ?_;refine J1 ?_;refine Kb6 ?_;refine eO (k+1) ?_ ?_ ?_
  ·omega
  ·repeat' (first|exact bH _|refine aY ?_ ?_)
   all_goals (first|exact rfl|(conv=>{lhs;whnf};congr 1;omega))
  ·omega
 ·have hzp:=Oe L k;refine K1o ?_;refine J2 ?_;refine aK (Zn (m:=0) rf rf Qh (Nat.zero_le _) (by omega)) (λ x21=>?_);refine Kc5 ?_;refine aA (Yl rf Yc) rfl ?_;refine Ka8 ?_;refine mE [6,8,24,25,26,27,28,29,30,31] (λ y:Nat×Option Addr×Nat=>[(6,.slice y.2.1 (Er (L.take y.1)).length y.2.2),(24,.int .i64 ((y.1:Nat):Int))]) (λ y=>y.1<=L.length/\(Er (L.take y.1)).length<=y.2.2) (λ _=>_) (λ _=>_) (λ y=>[⟨y.2.1,aN (Er (L.take y.1)),y.2.2,69,1⟩]) (λ y=>L.length-y.1) ((0,some ⟨x21,0,none⟩,(Er (L.take k)).length)) (⟨Nat.zero_le _,Nat.zero_le _⟩) (λ y f hx=>?_);refine K2b ?_;refine aX (λ c25=>?_) (λ c25=>?_)
  ·obtain⟨z,hz⟩:∃z,L[y.1]?=some z:=⟨L[y.1]'(by omega),List.getElem?_eq_getElem (by omega)⟩;have hzl:=congrArg List.length (As hz);rw[List.length_append] at hzl;have hzp:=Oe L (y.1+1);have hzf:=aCu (a:=a) (F:=[]) (O:=[]) hz;refine rY (λ w hw=>hw.Gy hzf (λ _=>rfl) (λ h=>h) (λ _ h=>h)) ?_;refine K1s ?_;(refine Iw (λ x30=>?_);try (refine eF (λ h30=>?_)));refine J1 ?_;refine Kb6 ?_;refine jS ((y.1+1,x30)) ?_ ?_ E0k ?_ (λ w hw=>by rw[<- As hz] at hw;exact hw.aCh.back)
   ·omega
   ·repeat' (first|exact bH _|refine aY ?_ ?_)
    all_goals (first|(conv=>{lhs;whnf};rw[<- hzl])|exact rfl)
   ·exact⟨by omega,by simp only[];rw[As hz,List.length_append];omega⟩
  ·refine K1o ?_;refine Kc4 ?_;refine aP results296 (λ w hw=>?_);have hy:y.1=L.length:=by omega
   rw[hy,List.take_length] at hw;exact⟨(y.2.1,y.2.2),by rw[hy,List.take_length];rfl,by rw[hy,List.take_length] at hx;exact hx.2,hw.eP⟩
end
section
open Go.RowKit Go.Ct
variable{a:Option Addr}{ca:Nat}{w:World}
theorem ss{L:List Sl}(b:Nat)(ha:Cl w a (slC L))(hl:∀q∈L,Cl w q.1 (aN q.2.1))(h3:L.length<=3)(hB:∀q∈L,q.2.1.length<=1000) :
  Calls prog 275 #[.int .u64 (b:Int),.slice a L.length ca] w λ e w'=>∃x:Option Addr×Nat,e=.returned (cn b (Er L) x).v/\(Er L).length<=x.2/\SF w [] [] [] [(x.1,aN (Er L))] [] w':=by refine enter func275 ntmps275 rfl rfl (SF.s0 w) ?_;simp only[bY];refine K1h ?_;intro x4;refine aC ?_;refine lV ?_;refine aJ (fv (Hc:=λ _=>[]) (Fc:=λ _=>[]) (hc:=λ w1 hw=>s6 (L:=L) (ha.lB hw.done) (λ q hq=>(hl q hq).lB hw.done) h3 hB)) (λ x7 h7=>?_);refine P1 ?_;refine bJ results275 (λ w hw=>?_);exact⟨x7,rfl,h7,SF.frz hw.eP⟩
theorem P6{p1 p2 p3:Option Addr}{l1 l2 l3 l:List Int}{m1 m2 m3 c1 c2 c3:Nat}(b:Nat)(ha:Cl w a [.slice p1 m1 c1,.slice p2 m2 c2,.slice p3 m3 c3])(h1:Cl w p1 (aN l1))(h2:Cl w p2 (aN l2))(h3:Cl w p3 (aN l3))(e1:l1.length=m1)(e2:l2.length=m2)(e3:l3.length=m3)(b1:m1<=1000)(b2:m2<=1000)(b3:m3<=1000)(hl:l1++(l2++l3)=l) :
  Calls prog 275 #[.int .u64 (b:Int),.slice a 3 ca] w λ e w'=>∃x:Option Addr×Nat,e=.returned (cn b l x).v/\l.length<=x.2/\SF w [] [] [] [(x.1,aN l)] [] w':=by subst e1 e2 e3 hl;have:=ss (L:=[(p1,l1,c1),(p2,l2,c2),(p3,l3,c3)]) (a:=a) (ca:=ca) (w:=w) b ha (by simp[h1,h2,h3]) (by simp) (by simp;omega);simpa[Er] using this
def K4(n:Nd)(xs:List Int)(ys:List Pr)(b:Nat)(i r:Int):Option (Nat×List Int):=if CV n xs ys/\(0<=i/\i<64)/\1<=r/\tU b i=false then some (dF b i,sO xs (iK b i) r) else none
def Jn(n:Nd)(xs:List Int)(ys:List Pr)(b:Nat)(i r:Int):Option (Nat×List Int):=if CV n xs ys/\1<=r/\tU b i=true then some (b,B8 xs (iK b i) r) else none
def Ig(o:Option (Nat×List Int))(x:Option Addr×Nat):Nd:=match o with|some q=>cn q.1 q.2 x|none=>Nd.zero
def sQ(o:Option (Nat×List Int)):List Int:=match o with|some q=>q.2|none=>[]
def aFt(w:World)(o:Option (Nat×List Int))(e:Ending)(w':World):Prop:=∃x:Option Addr×Nat,e=.returned (.tuple #[(Ig o x).v,.bool o.isSome])/\(sQ o).length<=x.2/\SF w [] [] [] [(x.1,aN (sQ o))] [] w'
theorem aAs{b:Nat}{xs:List Int}(h:BV b xs)(i:Int):iK b i<=xs.length:=by rw[h.len];unfold iK;obtain⟨d,hd⟩:=Nat.exists_eq_add_of_le (Nat.min_le_right i.toNat 64);have:=vJ b (min i.toNat 64) d;rw[<- hd] at this;exact this
section
variable{n:Nd}{xs:List Int}{ys:List Pr}{w:World}{b:Nat}
theorem Ah(i:Int)(hr:Jy w n xs ys):Calls prog 274 #[n.v,.int .i64 i] w λ e w'=>∃r:Bool,e=.returned (.bool r)/\(r=true↔CV n xs ys/\(0<=i/\i<64))/\St w [] [] w':=by
 refine enter func274 ntmps274 rfl rfl (SF.s0 w) ?_;simp only[bY];simp only[Nd.v,Nd.cells];refine J0 ?_;refine bC (λ x2=>?_);refine J1 ?_;refine tB ?_;refine aJ (c0 (V:=.bool) (hc:=λ w1 hw=>Qg (n:=n) (hr.lB hw.done))) (λ x6 h6=>?_);refine aD ?_;(refine kT 7 (λ g7=>?_) (λ g7=>?_)<;>refine Ka0 ?_);all_goals ((first|refine bG ?_|(refine aG ?_;refine kZ ?_));refine dG ?_;refine aD ?_)
 all_goals (first|refine bG ?_|(refine kT 11 (λ g11=>?_) (λ g11=>?_)<;>refine Ka0 ?_))
 all_goals (refine vb ?_;refine J1 ?_)
 all_goals
 refine aP results274 (λ w hw=>?_);refine⟨_,rfl,?_,hw.done⟩;first|(simp_all;done)|(simp_all;omega)
theorem F9(i r:Int)(hb:n.bm=(b:Int))(hb2:b<18446744073709551616)(hr:Jy w n xs ys)(hc:xs.length<=n.brC)(hx:xs.length<=1000):Calls prog 284 #[n.v,.int .i64 i,.int .i64 r] w (aFt w (K4 n xs ys b i r)):=by
 have e1:=hr.brN;refine enter func284 ntmps284 rfl rfl (SF.s2 hr.br hr.pr) ?_;simp only[bY]
 simp only[Nd.v,Nd.cells,hb,e1];refine K1m ?_;intro x3;refine aI (λ x6=>?_);refine nN ?_;refine J71 ?_;refine aJ (c0 (V:=.bool) (hc:=λ w1 hw=>by rw[<- e1,<- hb];exact Ah i (n:=n) (hr.lB hw.done))) (λ x12 h12=>?_);refine fl ?_;(refine kT 14 (λ g14=>?_) (λ g14=>?_)<;>refine Ka0 ?_);all_goals (refine vb ?_;refine aD ?_)
 all_goals (first|refine bG ?_|(refine kT 18 (λ g18=>?_) (λ g18=>?_)<;>refine Ka1 ?_))
 all_goals (refine J29 ?_;(first|refine bG ?_|(refine aG ?_;refine aK (cV (hc:=λ w1 hw=>jx hb2 i w1)) (λ x22=>?_)));refine Kc2 ?_)
 all_goals
 refine aX (λ c23=>?_) (λ c23=>?_)
 ·all_goals (refine J0 ?_;refine bX ?_;refine J46 ?_)
  all_goals refine bJ results284 (λ w hw=>?_);rw[show K4 n xs ys b i r=none from if_neg (by rintro ⟨k1,k2,k3,k4⟩;have h:=h12.2 ⟨k1,k2⟩;clear hw;first|omega|(simp_all;done))];exact⟨(none,0),rfl,Nat.le_refl _,(hw.aC3 none).fin⟩
 ·try exact nv c23
  all_goals have hcv:=h12.1 (by simpa using g14);have hbv:=hcv.1.bv hb hb2;have hpl:=aAs hbv i;refine rY (λ w hw=>(hw.aBn (k:=iK b i) fin).aBE (k:=iK b i) (c:=n.brC) fin hc) ?_
  all_goals (refine bD ?_;refine gP ?_;refine aD ?_;refine aK (cV (hc:=λ w1 hw=>sh hb2 i w1)) (λ x28=>?_);refine J1 ?_;refine gP ?_;refine aD ?_;refine aK (cV (hc:=λ w1 hw=>aDY hb2 i w1)) (λ x32=>?_);refine nN ?_;refine eQ [(0,[]),(1,[]),(2,[]),(3,[]),(4,[]),(5,[]),(7,[]),(8,[]),(9,[]),(10,[]),(6,[2,8]),(11,[]),(12,[]),(13,[]),(14,[])] ?_;refine aR ?_;refine iX ?_;refine aR ?_;refine dA (i:=4) (hq:=(An rf rf fU (by exact Og rfl) (by omega))) (h:=?_);refine aR ?_;refine iX ?_;refine aR ?_;refine dA (i:=10) (hq:=(V5 rf rf fU (by exact mX rfl) (by omega) (by omega))) (h:=?_);refine iW (h:=λ x39=>?_);refine cB (i:=11) (hq:=(mH λ _=>bO (Sh rfl) zN rf rf rf rf (by simp only[fT,dO,List.cons_append,List.nil_append];exact rfl))) (h:=λ x44=>?_);refine bS (i:=12) (hq:=(cF (hc:=λ w1 hw=>P6 (l:=sO xs (iK b i) r) (dF b i) (hw.cl fin) (hw.cl fin) (l2:=[r]) (show Cl w1 (some ⟨x39,0,none⟩) (aN [r]) from hw.cl fin) (hw.cl fin) E0p rfl (by rw[List.length_drop]) (by omega) (show 1<=1000 by decide) (by omega) rfl))) (h:=λ x45 h45=>?_);refine J40 ?_)
  all_goals refine bJ results284 (λ w hw=>?_);rw[show K4 n xs ys b i r=some (dF b i,sO xs (iK b i) r) from if_pos ⟨hcv.1,hcv.2,by omega,c23⟩];exact⟨x45,rfl,h45,hw.fin⟩
theorem L0(i r:Int)(hb:n.bm=(b:Int))(hb2:b<18446744073709551616)(hr:Jy w n xs ys)(hc:xs.length<=n.brC)(hx:xs.length<=1000):Calls prog 248 #[n.v,.int .i64 i,.int .i64 r] w (aFt w (Jn n xs ys b i r)):=by
 have e1:=hr.brN;refine enter func248 ntmps248 rfl rfl (SF.s2 hr.br hr.pr) ?_;simp only[bY]
 simp only[Nd.v,Nd.cells,hb,e1];refine K1m ?_;intro x3;refine aI (λ x6=>?_);refine nN ?_;refine J71 ?_;refine aJ (c0 (V:=.bool) (hc:=λ w1 hw=>by rw[<- e1,<- hb];exact Ah i (n:=n) (hr.lB hw.done))) (λ x11 h11=>?_);refine fl ?_;(refine kT 13 (λ g13=>?_) (λ g13=>?_)<;>refine Ka0 ?_);all_goals (refine vb ?_;refine aD ?_)
 all_goals (first|refine bG ?_|(refine kT 17 (λ g17=>?_) (λ g17=>?_)<;>refine Ka1 ?_))
 all_goals (refine J29 ?_;(first|refine bG ?_|(refine aG ?_;refine aK (cV (hc:=λ w1 hw=>jx hb2 i w1)) (λ x21=>?_)));refine y7 ?_;refine aC ?_)
 all_goals
 refine aX (λ c23=>?_) (λ c23=>?_)
 ·all_goals (refine J0 ?_;refine bX ?_;refine J46 ?_)
  all_goals refine bJ results248 (λ w hw=>?_);rw[show Jn n xs ys b i r=none from if_neg (by rintro ⟨k1,k3,k4⟩;have h:=h11.2 ⟨k1,(wO k4).1,(wO k4).2.1⟩;clear hw;first|omega|(simp_all;done))];exact⟨(none,0),rfl,Nat.le_refl _,(hw.aC3 none).fin⟩
 ·try exact nv c23
  all_goals have hcv:=h11.1 (by simpa using g13);have hbv:=hcv.1.bv hb hb2;have hpl:=aBl hbv c23;refine rY (λ w hw=>(hw.aBn (k:=iK b i) fin).aBE (k:=iK b i+1) (c:=n.brC) fin hc) ?_
  all_goals (refine bD ?_;refine gP ?_;refine aD ?_;refine aK (cV (hc:=λ w1 hw=>sh hb2 i w1)) (λ x28=>?_);refine nN ?_;refine eQ [(0,[]),(1,[]),(2,[]),(3,[]),(4,[]),(5,[]),(6,[]),(8,[]),(9,[]),(10,[]),(11,[]),(12,[]),(7,[1,3,9]),(13,[1]),(14,[]),(15,[]),(16,[])] ?_;refine Kb8 ?_;refine aR ?_;refine dA (i:=5) (hq:=(An rf rf fU (by exact Og rfl) (by omega))) (h:=?_);refine aR ?_;refine iX ?_;refine aR ?_;refine Zr ?_;refine dA (i:=12) (hq:=(V5 (k:=iK b i+1) rf rf fU (by exact mX rfl) (by omega) (by omega))) (h:=?_);refine iW (h:=λ x36=>?_);refine cB (i:=13) (hq:=(mH λ _=>bO (Sh rfl) zN rf rf rf rf (by simp only[fT,dO,List.cons_append,List.nil_append];exact rfl))) (h:=λ x42=>?_);refine bS (i:=14) (hq:=(cF (hc:=λ w1 hw=>P6 (l:=B8 xs (iK b i) r) b (hw.cl fin) (hw.cl fin) (l2:=[r]) (show Cl w1 (some ⟨x36,0,none⟩) (aN [r]) from hw.cl fin) (hw.cl fin) E0p rfl (by rw[List.length_drop]) (by omega) (show 1<=1000 by decide) (by omega) rfl))) (h:=λ x43 h43=>?_);refine J40 ?_)
  all_goals refine bJ results248 (λ w hw=>?_);rw[show Jn n xs ys b i r=some (b,B8 xs (iK b i) r) from if_pos ⟨hcv.1,by omega,c23⟩];exact⟨x43,rfl,h43,hw.fin⟩
end
end
section
open Go.RowKit Go.Ct
section
variable{n:Nd}{xs:List Int}{ys:List Pr}{w:World}{b:Nat}
end
end
section
open Go.RowKit Go.Ct
theorem wQ{k:Nat}(b:Nat)(hk:k<64):dF b (k:Int)=b ||| 2^k:=by unfold dF;rw[if_pos (by omega),Int.toNat_natCast]
theorem qJ{k:Nat}(b:Nat)(hk:k<64):iK b (k:Int)=iD b k:=by unfold iK;rw[Int.toNat_natCast,Nat.min_eq_left (by omega)]
theorem vO{k:Nat}(b:Nat)(hk:k<64):tU b (k:Int)=b.testBit k:=by rw[Mi b (by omega) (by omega),Int.toNat_natCast]
section
variable{n:Nd}{xs:List Int}{ys:List Pr}{w:World}{b:Nat}
theorem nt{i:Int}(h:(Y0 n xs ys b i).isSome=true):CV n xs ys/\tU b i=true:=by
 unfold Y0 at h;split at h;·assumption
 ·cases h
end
end
end Go.Proofs.YthblobahelfefaaGreatDoor
namespace Go.Ct
section
def Ap(n:Nv):Prop:=n.kind=3∨n.kind=5∨n.kind=6
instance (n:Nv):Decidable (Ap n):=by unfold Ap;exact inferInstance
end
section
def Nv.nd(v:Nv):Nd:=⟨v.kind,v.gen,v.main,v.bm,none,v.xs.length,0,v.hash,v.key,v.val,none,v.ys.length,0,v.prev,v.old,v.exp,v.new,v.status⟩
theorem Xy{n:Nd}{xs:List Int}{ys:List Pr}:eW n xs ys↔eW (n.c xs ys).nd xs ys:=by
 have e:M8 n n.own xs (n.oZ xs) ys (n.lS ys)↔M8 (n.c xs ys).nd (n.c xs ys).nd.own xs ((n.c xs ys).nd.oZ xs) ys ((n.c xs ys).nd.lS ys):=by
  rw[Qp,Qp];have e1:n.own.c (n.oZ xs) (n.lS ys)=(n.c xs ys).nd.own.c ((n.c xs ys).nd.oZ xs) ((n.c xs ys).nd.lS ys):=by
   have hx:(n.c xs ys).nd.oZ xs=n.oZ xs:=rfl;have hy:(n.c xs ys).nd.lS ys=n.lS ys:=rfl;have hk:(n.c xs ys).nd.kind=n.kind:=rfl;rw[hx,hy];unfold Nd.own;rw[hk];repeat' split
   all_goals rfl
  rw[e1];exact Iff.rfl
 unfold eW;rw[e];exact Iff.rfl
end
end Go.Ct
namespace Go.Proofs.YthblobahelfefaaGreatDoor
open Go.RowKit Go.Ct
section
variable{n:Nd}{xs:List Int}{ys:List Pr}
theorem aE8:CV n xs ys↔CV (n.c xs ys).nd xs ys:=by unfold CV;rw[Xy (n:=n)];exact Iff.rfl
theorem aF2:LV n xs ys↔LV (n.c xs ys).nd xs ys:=by unfold LV;rw[Xy (n:=n)];exact Iff.rfl
theorem rm:CV (n.c xs ys).nd (n.c xs ys).xs (n.c xs ys).ys=CV n xs ys:=propext aE8.symm
theorem aD9:LV (n.c xs ys).nd (n.c xs ys).xs (n.c xs ys).ys=LV n xs ys:=propext aF2.symm
def Pd(b:Nat)(xs:List Int):Nv:=(cn b xs (none,0)).c xs []
def lY(v:Nv)(i:Int):Option Int:=Y0 v.nd v.xs v.ys v.bm.toNat i
def ud(o:Option (Nat×List Int)):Nv:=match o with|some q=>Pd q.1 q.2|none=>Nv.zero
def Tm(v:Nv)(i r:Int):Nv:=ud (K4 v.nd v.xs v.ys v.bm.toNat i r)
def Kn(v:Nv)(i r:Int):Nv:=ud (Jn v.nd v.xs v.ys v.bm.toNat i r)
def grV(v:Nv)(k:ByteArray)(u:Int):Nv:=(grN (iF v.nd v.xs v.ys k u) v.hash (none,0)).c [] (ie (iF v.nd v.xs v.ys k u))
section
variable{n s:Nd}{xs:List Int}{ys:List Pr}{b:Nat}
theorem aEK(hb:n.bm=(b:Int))(i:Int):Y0 n xs ys b i=lY (n.c xs ys) i:=by
 have e:(n.c xs ys).bm.toNat=b:=by show n.bm.toNat=b;omega
 unfold lY Y0;rw[e];simp only[rm (n:=n)];try rfl
theorem Vt(o:Option (Nat×List Int))(x:Option Addr×Nat):(Ig o x).c (sQ o) []=ud o:=by cases o<;>rfl
theorem aF7(hb:n.bm=(b:Int))(i r:Int):ud (K4 n xs ys b i r)=Tm (n.c xs ys) i r:=by
 have e:(n.c xs ys).bm.toNat=b:=by show n.bm.toNat=b;omega
 unfold Tm K4;rw[e];simp only[rm (n:=n)];try rfl
theorem aGd(hb:n.bm=(b:Int))(i r:Int):ud (Jn n xs ys b i r)=Kn (n.c xs ys) i r:=by
 have e:(n.c xs ys).bm.toNat=b:=by show n.bm.toNat=b;omega
 unfold Kn Jn;rw[e];simp only[rm (n:=n)];try rfl
theorem aF0(k:ByteArray)(u:Int)(x:Option Addr×Nat):(grN (iF n xs ys k u) n.hash x).c [] (ie (iF n xs ys k u))=grV (n.c xs ys) k u:=by
 have e':iF (n.c xs ys).nd (n.c xs ys).xs (n.c xs ys).ys k u=iF n xs ys k u:=by unfold iF;simp only[aD9 (n:=n)];try rfl
 unfold grV;rw[e'];cases iF n xs ys k u<;>rfl
end
end
end Go.Proofs.YthblobahelfefaaGreatDoor
namespace Go.Ct
open Go Go.RowKit
section
structure rH(n c:Nat)(v:Nv):Prop where
 old:v.old<=n
 exp:v.exp<=n
 new:v.new<=n
 br:∀r∈v.xs,r<=n
 main:v.main<=c
 prev:v.prev<=c
 status:v.status<=c
 bm:∃b:Nat,v.bm=(b:Int)/\b<18446744073709551616
 hash:∃b:Nat,v.hash=(b:Int)/\b<18446744073709551616
theorem rH.mono{n c n' c':Nat}{v:Nv}(h:rH n c v)(h1:n<=n')(h2:c<=c'):rH n' c' v :=⟨by have:=h.old;omega,by have:=h.exp;omega,by have:=h.new;omega,λ r hr=>by have:=h.br r hr;omega,by have:=h.main;omega,by have:=h.prev;omega,by have:=h.status;omega,h.bm,h.hash⟩
theorem rr(n c:Nat):rH n c Nv.zero:=⟨fQ _,fQ _,fQ _,(λ r hr=>nomatch hr),fQ _,fQ _,fQ _,⟨0,rfl,by decide⟩,⟨0,rfl,by decide⟩⟩
theorem Ya{l:List Int}{n:Nat}(h:∀v∈l,v<=n)(k:Nat):l.getD k 0<=n:=by
 rw[Ss];cases hk:l[k]? with
 | none=>exact fQ n
 | some v=>exact h v (List.mem_of_getElem? hk)
end
section
def Tr.acc:Tr->Option Ac
 | .load c _=>some ⟨1,c,0,0⟩
 | .qG c o n _=>some ⟨2,c,o,n⟩
 | _=>none
def fB:Tr->Bool
 | .load _ _=>true
 | .qG _ _ _ _=>true
 | .done _=>true
 | _=>false
end
section
def sl(h l:Nat):Nat:=(h >>> (6*l))%64
theorem mI(h l:Nat):sl h l<64:=Nat.mod_lt _ (by decide)
theorem s9(h l:Nat):(h >>> (6*l)) &&& 63=sl h l:=Nat.and_two_pow_sub_one_eq_mod _ 6
def Gx(h k:Nat):Nat->Nat->Nat
 | 0,l=>l
 | n+1,l=>if sl h l=sl k l then Gx h k n (l+1) else l
def mU(h k:Nat):Nat:=Gx h k 11 0
theorem wU(h k:Nat):∀n l,l<=Gx h k n l/\Gx h k n l<=l+n/\(∀i,l<=i->i<Gx h k n l->sl h i=sl k i)/\(Gx h k n l<l+n->sl h (Gx h k n l)≠sl k (Gx h k n l))
 | 0,l=>⟨Nat.le_refl _,Nat.le_refl _,λ i h1 h2=>absurd h2 (by simp only[Gx];omega),λ h=>absurd h (by simp only[Gx];omega)⟩
 | n+1,l=>by
  simp only[Gx];split
  ·rename_i he;obtain⟨h1,h2,h3,h4⟩:=wU h k n (l+1);refine⟨by omega,by omega,λ i hi hi2=>?_,λ hlt=>h4 (by omega)⟩;rcases Nat.lt_or_eq_of_le hi with hi|rfl;·exact h3 i (by omega) hi2
   ·exact he
  ·rename_i he;exact⟨Nat.le_refl _,by omega,λ i h1 h2=>absurd h2 (by omega),λ _=>he⟩
theorem rJ(h k:Nat):mU h k<=11:=by have:=(wU h k 11 0).2.1;unfold mU;omega
theorem V0{h k i:Nat}(hi:i<mU h k):sl h i=sl k i:=(wU h k 11 0).2.2.1 i (Nat.zero_le _) hi
theorem N8{h k:Nat}(hc:mU h k<11):sl h (mU h k)≠sl k (mU h k):=(wU h k 11 0).2.2.2 (by unfold mU at hc;omega)
theorem qx{h k l:Nat}(hl:l<=11)(h1:∀i,i<l->sl h i=sl k i)(h2:l<11->sl h l≠sl k l):l=mU h k:=by
 rcases Nat.lt_trichotomy l (mU h k) with h3|h3|h3;·exact absurd (V0 h3) (h2 (by have:=rJ h k;omega))
 ·exact h3
 ·exact absurd (h1 _ h3) (N8 (by omega))
section
variable{P:Program}{S:List (Nat×Value)}{G:World->Prop}{d:Nat}{ty t t':TypeId}{pos:String}{af:Array Edge}{gd:Option (Nat×Bool)}{x y:Operand}{a b i:Nat}{k':IntKind}
theorem wg(hx:ev S x=.int .i64 (a:Int))(hy:ev S y=.int .i64 (b:Int))(h:a*b<=9223372036854775807):aH P S G ⟨some d,.binOp .mul t x y t',ty,pos,af,gd⟩ (.int .i64 ((a*b:Nat):Int)):=by have:=gm (P:=P) (G:=G) (d:=d) (ty:=ty) (pos:=pos) (af:=af) (gd:=gd) (t:=t) (t':=t') hx hy;rw[<- Int.natCast_mul,wrap_i64 (by omega) (by omega)] at this;exact this
theorem aB4(hx:ev S x=.int .u64 (a:Int))(hy:ev S y=.int k' (i:Int))(h:i<=64):aH P S G ⟨some d,.binOp .shr t x y t',ty,pos,af,gd⟩ (.int .u64 ((a >>> i:Nat):Int)):=by have:=Fs (P:=P) (G:=G) (d:=d) (ty:=ty) (pos:=pos) (af:=af) (gd:=gd) (t:=t) (t':=t') hx hy (by omega);rwa [nD h] at this
theorem kz(hx:ev S x=.int .u64 (a:Int))(hy:ev S y=.int .u64 (b:Int))(ha:a<18446744073709551616)(hb:b<18446744073709551616):aH P S G ⟨some d,.binOp .and t x y t',ty,pos,af,gd⟩ (.int .u64 ((a &&& b:Nat):Int)):=by have:=tq (P:=P) (G:=G) (d:=d) (ty:=ty) (pos:=pos) (af:=af) (gd:=gd) (t:=t) (t':=t') hx hy;rwa [nI ha hb] at this
end
end
end Go.Ct
namespace Go.Proofs.YthblobahelfefaaGreatDoor
open Go.Proofs.Tryz
open Go.RowKit Go.Ct
section
theorem kF{h l:Nat}(hh:h<18446744073709551616)(hl:l<=10)(w:World):Calls prog 145 #[.int .u64 (h:Int),.int .i64 (l:Int)] w λ e w'=>e=.returned (.int .i64 ((sl h l:Nat):Int))/\St w [] [] w':=by
 have hsl:(h >>> (6*l)) &&& 63<64:=by rw[s9];exact mI h l
 refine enter func145 ntmps145 rfl rfl (SF.s0 w) ?_;simp only[bY];refine K1t ?_;((refine aG ?_;refine kZ ?_));refine Kc2 ?_;refine aX (λ c10=>?_) (λ c10=>?_);·try (exfalso;omega)
 ·try (exfalso;omega)
  refine Ix ?_;refine aA (wg (a:=6) (b:=l) rf rf (by omega)) rfl ?_;refine eR ?_;refine aA (aB4 (i:=6*l) rf rf (by omega)) rfl ?_;refine aA (kz (b:=63) rf rf (Nat.lt_of_le_of_lt (Nat.shiftRight_le _ _) hh) (by decide)) rfl ?_;refine eR ?_;refine J1 ?_;refine aP results145 (λ w hw=>?_);exact⟨by rw[s9];rfl,hw.done⟩
theorem Fv{h k:Nat}(hh:h<18446744073709551616)(hk:k<18446744073709551616)(w:World):Calls prog 166 #[.int .u64 (h:Int),.int .u64 (k:Int)] w λ e w'=>e=.returned (.int .i64 ((mU h k:Nat):Int))/\St w [] [] w':=by
 refine enter func166 ntmps166 rfl rfl (SF.s0 w) ?_;simp only[bY];refine Ka5 ?_;refine Kb2 ?_;refine iI [4,5,6,7,8,9,10,11,12,13,14,15,16,17] (λ y:Nat=>[(6,.int .i64 ((y:Nat):Int))]) (λ y=>y<=11/\∀i,i<y->sl h i=sl k i) (λ y=>11-y) (0) (⟨Nat.zero_le _,λ i hi=>absurd hi (Nat.not_lt_zero i)⟩) ?_ (λ y f hx=>?_);·repeat (first|exact bH _|refine aY (by exact rfl) ?_)
 refine K2b ?_;refine aX (λ c7=>?_) (λ c7=>?_)
 ·refine Kb4 ?_;refine P2 ?_;refine aK (cV (hc:=λ w1 hw=>kF (l:=y) hh (by omega) w1)) (λ x11=>?_);refine Jh ?_;refine aK (cV (hc:=λ w1 hw=>kF (l:=y) hk (by omega) w1)) (λ x14=>?_);refine Kc0 ?_;refine aX (λ c15=>?_) (λ c15=>?_);·refine Kc4 ?_;refine aP results166 (λ w hw=>?_);exact⟨by rw[<- qx (h:=h) (k:=k) hx.1 hx.2 (λ _=>by omega)];rfl,hw.done⟩
  ·refine Kd0 ?_;refine eO (y+1) ?_ ?_ ?_;·omega
   ·repeat' (first|exact bH _|refine aY ?_ ?_)
    exact rfl
   ·exact⟨by omega,λ i hi=>by rcases Nat.lt_succ_iff_lt_or_eq.1 hi with h|rfl;exact hx.2 i h;omega⟩
 ·refine K1o ?_;refine cC ?_;refine aP results166 (λ w hw=>?_);exact⟨by rw[<- qx (h:=h) (k:=k) (l:=11) (by decide) (λ i hi=>hx.2 i (by omega)) (λ h=>absurd h (by decide))];rfl,hw.done⟩
end
end Go.Proofs.YthblobahelfefaaGreatDoor

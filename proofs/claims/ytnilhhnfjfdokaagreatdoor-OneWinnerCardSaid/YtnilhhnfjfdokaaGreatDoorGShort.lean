/- What is known of a list, in short. -/
import Derived.Test.YtnilhhnfjfdokaaGreatDoorAuto
import Derived.Test.YtnilhhnfjfdokaaGreatDoorGBitsE
import Derived.Test.YtnilhhnfjfdokaaGreatDoorGNode4
import Derived.Test.YtnilhhnfjfdokaaGreatDoorGPa2
import Derived.Test.YtnilhhnfjfdokaaGreatDoorGNode3
import Derived.Test.YtnilhhnfjfdokaaGreatDoorGJoin
import Derived.Test.YtnilhhnfjfdokaaGreatDoorGDfr

set_option linter.unusedSimpArgs false
set_option linter.unusedVariables false
namespace Go.Ct
section
open Go Go.RowKit
variable{w0 w:World}{M:List Nat}{H:List (Nat×Obj)}{A F:Fr}{O:List Ow}
end
end Go.Ct
namespace Go.Proofs.YtnilhhnfjfdokaaGreatDoor
section
open Go.RowKit Go.Ct
theorem L8{n:Nd}{xs:List Int}{ys:List Pr}(h:n.kind=3)(hv:eW n xs ys):(xs.length:Int)=yP n.bm/\Pos xs:=by
 obtain⟨_,_,_,_,hv⟩:=hv
 rcases hv with h1|⟨h1,_⟩|⟨_,h2,h3⟩|⟨h1|h1,_⟩|⟨h1,_⟩|⟨h1,_⟩|⟨h1,_⟩
 all_goals first|exact⟨h2,h3⟩|(rw[h] at h1;exact absurd h1 (by decide))
end

/- The reference's Valid. -/
section
open Go.RowKit Go.Ct
end

/- Branches: what Lookup and Sole compute. -/
end Go.Proofs.YtnilhhnfjfdokaaGreatDoor
namespace Go.Ct
section
open Go Go.RowKit
end
end Go.Ct
namespace Go.Proofs.YtnilhhnfjfdokaaGreatDoor
section
open Go.RowKit Go.Ct
def CV(n:Nd)(xs:List Int)(ys:List Pr):Prop:=n.kind=3/\eW n xs ys
theorem CV.bv{n:Nd}{xs:List Int}{ys:List Pr}{b:Nat}(h:CV n xs ys)(hb:n.bm=(b:Int))(hb2:b<18446744073709551616):BV b xs:=by
 obtain⟨h1,h2⟩:=L8 h.1 h.2
 rw[hb,rO hb2] at h1
 exact⟨hb2,by omega,h2⟩
instance (n:Nd) (ys:List Pr):Decidable (ys=n.kE ys):=if h:(n.kind==6)=true then isTrue (by unfold Nd.kE;rw[if_pos h]) else decidable_of_iff (ys=[]) (by unfold Nd.kE;rw[if_neg h])
instance (n:Nd) (xs:List Int) (ys:List Pr):Decidable (Ey n n.own xs (n.mN xs) ys (n.kE ys)):=inferInstanceAs (Decidable (n.kind=n.own.kind/\n.gen=n.own.gen/\n.main=n.own.main/\n.bm=n.own.bm/\xs=n.mN xs/\n.hash=n.own.hash/\n.key=n.own.key/\n.val=n.own.val/\ys=n.kE ys/\n.prev=n.own.prev/\n.old=n.own.old/\n.exp=n.own.exp/\n.new=n.own.new/\n.status=n.own.status))
instance (l:List Int):Decidable (Pos l):=inferInstanceAs (Decidable (∀i,i<l.length->1<=l.getD i 0))
instance (l:List Pr):Decidable (Sk l):=inferInstanceAs (Decidable (∀i,i<l.length->(l.getD i (⟨#[]⟩,0)).1.size<=64))
instance (l:List Pr):Decidable (kn l):=decidable_of_iff (∀i,i<l.length->1<=i->eK (l.getD (i-1) (⟨#[]⟩,0)).1 (l.getD i (⟨#[]⟩,0)).1=true) ⟨λ h i a b=>h i b a,λ h i a b=>h i b a⟩
instance (n:Nd) (xs:List Int) (ys:List Pr):Decidable (eW n xs ys):=inferInstanceAs (Decidable (_/\_))
instance (n:Nd) (xs:List Int) (ys:List Pr):Decidable (CV n xs ys):=inferInstanceAs (Decidable (_/\_))
def Kz(n:Nd)(xs:List Int)(ys:List Pr)(b:Nat)(i:Int):Option Int:=if CV n xs ys/\uC b i=true then some (xs.getD (kK b i) 0) else none
theorem rM{b:Nat}{i:Int}(h:uC b i=true):0<=i/\i<64/\b.testBit i.toNat=true/\kK b i=iH b i.toNat:=by
 simp only[uC,Bool.and_eq_true,decide_eq_true_eq] at h
 exact⟨h.1,h.2.1,h.2.2,by unfold kK;congr 1;omega⟩
theorem aq{b:Nat}{xs:List Int}(h:BV b xs){i:Int}(hh:uC b i=true):kK b i<xs.length:=by
 obtain⟨h1,h2,h3,h4⟩:=rM hh
 rw[h4,h.len]
 exact wY (by omega) h3
section
variable{n:Nd}{xs:List Int}{ys:List Pr}{w:World}{b:Nat}
theorem Jf(hr:Fv w n xs ys):Calls Tryz.prog 181 #[n.v] w λ e w'=>∃r:Bool,e=.returned (.bool r)/\(r=true↔CV n xs ys)/\St w [] [] w':=by
 refine enter Tryz.func181 Tryz.ntmps181 rfl rfl (SF.s0 w) ?_
 simp only[cP]
 simp only[Nd.v,Nd.cells]
 refine J0 ?_;refine bF (λ x1=>?_);refine J1 ?_;refine jA ?_;refine Kb2 ?_
 (refine lN 6 (λ g6=>?_) (λ g6=>?_)<;>(first|refine aT ?_|(refine aE ?_;refine bP ?_)))
 all_goals ((first|refine aT ?_|(refine aE ?_;refine aH (c0 (V:=.bool) (hc:=λ w1 hw=>Pf (n:=n) (hr.kJ hw.done))) (λ x8 h8=>?_)));refine bI ?_;refine J1 ?_)
 all_goals
 refine bE Tryz.results181 (λ w hw=>?_)
 refine⟨_,rfl,?_,hw.done⟩
 simp_all[CV]
theorem U0(i:Int)(hb:n.bm=(b:Int))(hb2:b<18446744073709551616)(hr:Fv w n xs ys):Calls Tryz.prog 146 #[n.v,.int .i64 i] w λ e w'=>e=.returned (.tuple #[.int .i64 ((Kz n xs ys b i).getD 0),.bool (Kz n xs ys b i).isSome])/\St w [] [] w':=by
 have e1:=hr.brN
 refine enter Tryz.func146 Tryz.ntmps146 rfl rfl (SF.s2 hr.br hr.pr) ?_
 simp only[cP]
 simp only[Nd.v,Nd.cells,hb,e1]
 refine J0 ?_;refine bF (λ x2=>?_);refine J8 ?_;refine aJ ?_;refine pV ?_;refine aH (c0 (V:=.bool) (hc:=λ w1 hw=>by rw[<- e1,<- hb];exact Jf (n:=n) (hr.kJ hw.done))) (λ x7 h7=>?_);refine Wy ?_
 (refine lN 9 (λ g9=>?_) (λ g9=>?_)<;>refine Ka4 ?_)
 all_goals (refine ix ?_;(first|refine aT ?_|(refine aE ?_;refine aF (cV (hc:=λ w1 hw=>V9 hb2 i w1)) (λ x13=>?_)));refine Q9 ?_;refine aD ?_)
 all_goals
 refine aU (λ c15=>?_) (λ c15=>?_)
 ·all_goals refine Wb ?_
  all_goals
   refine bV Tryz.results146 (λ w hw=>?_)
   rw[show Kz n xs ys b i=none from if_neg (by simp_all)];exact⟨rfl,hw.done⟩
 ·try exact nv c15
  all_goals
   have hcv:CV n xs ys:=h7.1 (by simpa using g9)
   have hpl:=aq (hcv.bv hb hb2) c15
  all_goals (refine lS ?_;refine eG [(0,[]),(1,[]),(2,[]),(3,[]),(4,[]),(5,[1]),(6,[]),(7,[]),(8,[]),(9,[])] ?_;refine Kc4 ?_;refine aR ?_;refine bZ (i:=5) (hq:=(cV (hc:=λ w1 hw=>Tc hb2 i w1))) (h:=λ x21=>?_);refine ke ?_;refine dg ?_)
  all_goals
   refine bV Tryz.results146 (λ w hw=>?_)
   rw[show Kz n xs ys b i=some (xs.getD (kK b i) 0) from if_pos ⟨hcv,c15⟩];exact⟨rfl,hw.done⟩
end
end

/- Branches: a C-node of a bitmap and a list. -/
section
open Go.RowKit Go.Ct
def cn(b:Nat)(xs:List Int)(x:Option Addr×Nat):Nd:={Nd.zero with kind:=3,bm:=(b:Int),brA:=x.1,brN:=xs.length,brC:=x.2}
end

/- Nodes and lists of pairs out of tapes. -/
end Go.Proofs.YtnilhhnfjfdokaaGreatDoor
namespace Go.Ct
section
end
end Go.Ct
namespace Go.Proofs.YtnilhhnfjfdokaaGreatDoor
section
open Go.RowKit Go.Ct
end

/- Tombs: Untombed, Contracted, Grown, Shrunk: both sides. -/
section
open Go.RowKit Go.Ct
section
variable{n s:Nd}{xs:List Int}{ys:List Pr}{w:World}{b:Nat}
def LV(n:Nd)(xs:List Int)(ys:List Pr):Prop:=n.kind=6/\eW n xs ys
end
end

/- Tombs: Grown, Shrunk: both sides; agrees. -/
section
open Go.RowKit Go.Ct
instance (n:Nd) (xs:List Int) (ys:List Pr):Decidable (LV n xs ys):=inferInstanceAs (Decidable (_/\_))
section
variable{n s:Nd}{xs:List Int}{ys:List Pr}{w:World}{b:Nat}
end
end

/- Branches: lists of lists, joined; the C-node of them. -/
end Go.Proofs.YtnilhhnfjfdokaaGreatDoor
namespace Go.Ct
section
open Go Go.RowKit
section
variable{P:Program}{n:Nat}{S:List (Nat×Value)}
variable{w0 w w':World}{M:List Nat}{H H':List (Nat×Obj)}{A F F':Fr}{O O':List Ow}{G:World->Prop}
variable{d:Nat}{ty:TypeId}{pos:String}{af:Array Edge}{gd:Option (Nat×Bool)}{dst:Option Nat}{x y z:Operand}{t t2 e:TypeId}{p a:Option Addr}{i m k c c2:Nat}
theorem SF.gm{a1:Option Addr×List Value}(h:SF w0 M H (a1::A) F O w):SF w0 M H A F O w:=⟨h.st,λ f hf=>h.old f (List.mem_cons_of_mem _ hf),h.new,h.own,h.dis⟩
def j9(a:Option Addr)(k c:Nat):Option Addr:=if c=k then a else a.map (·.add k)
theorem N6(hx:ev S x=.slice a m c)(hy:ev S y=.int .i64 ((k:Nat):Int))(ht:P.underlying t=some (.slice e))(hs:(P.info? e).map (·.size)=some 1)(hk:k<=m)(hmc:m<=c) :
  aG P S G ⟨some d,.slice t x (some y) none none,ty,pos,af,gd⟩ (.slice (j9 a k c) (m-k) (c-k)):=⟨λ w _=>by
 have he:P.elem t=e:=by simp[Program.elem,ht]
 have ht':P.underlying t=some (.slice (P.elem t)):=by rw[he];exact ht
 cases hi:P.info? e with
 | none=>simp[hi] at hs
 | some inf =>
  have hs':inf.size=1:=by simpa[hi] using hs
  have hr:=run_slice_l (P:=P) w t a m c ht' .i64 (k:Int) (by omega) (by omega)
  refine jy (v:=.slice (j9 a k c) (m-k) (c-k)) ?_
  simp[hx,hy,run_sliceAt_slice w t _ _ _ _ ht',hr,he,sizeOf,typeInfo,hi,hs',sliced,j9]⟩
theorem SF.bc(h:SF w0 M H A F O w){l:List Int}(hf:oB A F [] a (aW l))(hc:l.length<=c):SF w0 M H ((j9 a k c,aW (l.drop k))::A) F O w:=by
 have e:aW (l.drop k)=(aW l).drop k:=by rw[Au]
 rw[e]
 refine h.Lc hf (λ hn=>?_) (λ h=>by rw[h];simp) (λ w hc'=>?_)
 ·unfold j9
  split
  ·rfl
  ·cases a with
   | none=>rfl
   | some a =>
    obtain⟨b,o,s⟩:=a
    simp only[Option.map_some,cU,Addr.add]
    split<;>rfl
 ·unfold j9
  split
  ·rename_i heq
   have:(aW l).drop k=[]:=List.drop_eq_nil_of_le (by rw[iY];omega)
   rw[this]
   exact Cl.nil _ _
  ·exact hc'.drop _
theorem SF.av(h:SF w0 M H A F O w){l:List Int}(hf:oB A F [] a (aW l)):SF w0 M H ((a,aW (l.take k))::A) F O w:=by
 have e:aW (l.take k)=(aW l).take k:=by rw[tY]
 rw[e]
 exact h.Lc hf (λ _=>rfl) (λ h=>by rw[h];simp) (λ w hc=>hc.take (List.take_prefix _ _))
abbrev Sl:=Option Addr×List Int×Nat
def au(L:List Sl):List Value:=L.map λ q=>.slice q.1 q.2.1.length q.2.2
def qx(L:List Sl):Fr:=L.map λ q=>(q.1,aW q.2.1)
def zJ(L:List Sl):List Int:=L.flatMap λ q=>q.2.1
theorem I7{L:List Sl}{kk:IntKind}(hx:ev S x=.slice a m c)(hy:ev S y=.int kk ((k:Nat):Int))(ht:P.underlying t=some (.slice e))(hs:one P e=true)(hf:oB A F O a (au L))(h1:k<m)(h2:k<L.length) :
  aG P S (SF w0 M H A F O) ⟨some d,.indexAddr t x y,ty,pos,af,gd⟩ (.pointer (some ⟨cU a,dY a+k,none⟩)):=⟨λ w hw =>
 (Ci (G:=SF w0 M H A F O) hx hy ht hs ((hw.cl hf).ptr (by simp only[au,List.length_map];omega)) h1).run w hw⟩
theorem Nz{L:List Sl}{q:Nat}{z:Sl}(hx:ev S x=.pointer (some ⟨cU a,dY a+q,none⟩))(ht:one P t=true)(hf:oB A F O a (au L))(hq:L[q]?=some z) :
  aG P S (SF w0 M H A F O) ⟨some d,.load t x,ty,pos,af,gd⟩ (.slice z.1 z.2.1.length z.2.2):=vD hx ht (λ w hw=>hw.cl hf) (by simp[au,hq])
theorem mV.Z5{F:Fr}{q:Option Addr×List Value}(h:q∈F):mV F q.1 q.2:=by
 induction F with
 | nil=>exact(List.not_mem_nil h).elim
 | cons f F ih =>
  rcases List.mem_cons.1 h with rfl|h
  ·exact .head
  ·exact .tail (ih h)
theorem ji{L:List Sl}{k:Nat}{z:Sl}(hz:L[k]?=some z):oB ((a,au L)::qx L) F O z.1 (aW z.2.1):=by
 have h:mV (qx L) z.1 (aW z.2.1):=mV.Z5 (q:=(z.1,aW z.2.1)) (List.mem_map.2 ⟨z,List.mem_of_getElem? hz,rfl⟩)
 exact .old (.tail h)
theorem uZ{L:List Sl}{k:Nat}{z:Sl}(h:L[k]?=some z):zJ (L.take (k+1))=zJ (L.take k)++z.2.1:=by
 unfold zJ
 rw[List.take_add_one,h,List.flatMap_append]
 simp
theorem je{L:List Sl}{B:Nat}(hB:∀q∈L,q.2.1.length<=B):(zJ L).length<=L.length*B:=by
 induction L with
 | nil=>simp[zJ]
 | cons q L ih =>
  have h1:=ih λ q hq=>hB q (List.mem_cons_of_mem _ hq)
  have h2:=hB q (List.mem_cons_self ..)
  have:zJ (q::L)=q.2.1++zJ L:=rfl
  rw[this,List.length_append,List.length_cons,Nat.add_mul,Nat.one_mul]
  omega
theorem Ep(L:List Sl)(k:Nat):(zJ (L.take k)).length<=(zJ L).length:=by
 have:zJ L=zJ (L.take k)++zJ (L.drop k):=by unfold zJ;rw[<- List.flatMap_append,List.take_append_drop]
 rw[this,List.length_append]
 omega
end
end
end Go.Ct
namespace Go.Proofs.YtnilhhnfjfdokaaGreatDoor
section
open Go Go.RowKit Go.Ct
theorem ad:bY Tryz.prog 94=some (.slice none 0 0):=by kernel_rfl
theorem Zh:dL Tryz.prog 347 94 [.slice none 0 0]:=fZ (by kernel_rfl) ad rfl
theorem Hu{t:Nat}(h:Nat.beq t 347=true):dL Tryz.prog t 94 [.slice none 0 0]:=by rw[eX h];exact Zh
theorem Mo:Tryz.prog.underlying 347=some (.slice 94):=by kernel_rfl
theorem Gw:one Tryz.prog 94=true:=by kernel_rfl
theorem Tk{L:List Sl}{a:Option Addr}{ca:Nat}{w:World}(ha:Cl w a (au L))(hl:∀q∈L,Cl w q.1 (aW q.2.1))(h3:L.length<=3)(hB:∀q∈L,q.2.1.length<=1000) :
  Calls Tryz.prog 298 #[.slice a L.length ca] w λ e w'=>∃x:Option Addr×Nat,e=.returned (.slice x.1 (zJ L).length x.2)/\(zJ L).length<=x.2/\SF w [] [] [] [] [⟨x.1,aW (zJ L),x.2,35,1⟩] w':=by
 have hle:=je hB
 have hst:SF w [] [] ((a,au L)::qx L) [] [] w:=SF.begin λ f hf=>by
  rcases List.mem_cons.1 hf with rfl|hf
  ·exact ha
  ·obtain⟨q,hq,rfl⟩:=List.mem_map.1 hf
   exact hl q hq
 refine enter Tryz.func298 Tryz.ntmps298 rfl rfl hst ?_
 simp only[cP]
 refine dW ?_;refine Kb1 ?_;refine aA (Mk rf Mo) rfl ?_;refine Ka7 ?_
 refine jY [3,5,11,12,13,14,15,16,17,18,19] (λ k=>[(3,.int .i64 (((zJ (L.take k)).length:Nat):Int)),(11,.int .i64 ((k:Nat):Int))]) (λ k=>k<=L.length) (λ k=>L.length-k) (0) (Nat.zero_le _) ?_ (λ k f hx=>?_)
 ·repeat (first|exact bQ _|refine bG (by exact rfl) ?_)
 dsimp only[lP,List.map,List.cons_append,List.nil_append]
 refine Ka1 ?_
 refine aU (λ c12=>?_) (λ c12=>?_)
 ·obtain⟨z,hz⟩:∃z,L[k]?=some z:=⟨L[k]'(by omega),List.getElem?_eq_getElem (by omega)⟩
  have hzl:=congrArg List.length (uZ hz)
  rw[List.length_append] at hzl
  have hzp:=Ep L (k+1)
  refine Kd2 ?_;refine aA (I7 (L:=L) rf rf Mo Gw fin (by omega) (by omega)) rfl ?_;refine aA (Nz (L:=L) rf Gw fin hz) rfl ?_;refine J1 ?_;refine Cw ?_;refine cO ?_;refine oA ?_;refine Kd7 ?_
  refine gT (k+1) ?_ ?_ ?_
  ·omega
  ·repeat' (first|exact bQ _|refine bG ?_ ?_)
   all_goals (first|exact rfl|(conv=>{lhs;whnf};congr 1;omega))
  ·omega
 ·have hzp:=Ep L k
  refine aX rfl ?_;refine J2 ?_;refine aF (M7 (m:=0) rf rf Jb (Nat.zero_le _) (by omega)) (λ x21=>?_);refine Kc7 ?_;refine aA (Mk rf Mo) rfl ?_;refine Ka7 ?_
  refine uD [6,8,24,25,26,27,28,29,30,31] (λ y:Nat×Option Addr×Nat=>[(6,.slice y.2.1 (zJ (L.take y.1)).length y.2.2),(24,.int .i64 ((y.1:Nat):Int))]) (λ y=>y.1<=L.length/\(zJ (L.take y.1)).length<=y.2.2) (λ _=>_) (λ _=>_) (λ y=>[⟨y.2.1,aW (zJ (L.take y.1)),y.2.2,35,1⟩]) (λ y=>L.length-y.1) ((0,some ⟨x21,0,none⟩,(zJ (L.take k)).length)) (⟨Nat.zero_le _,Nat.zero_le _⟩) (λ y f hx=>?_)
  dsimp only[lP,List.map,List.cons_append,List.nil_append]
  refine Ka1 ?_
  refine aU (λ c25=>?_) (λ c25=>?_)
  ·obtain⟨z,hz⟩:∃z,L[y.1]?=some z:=⟨L[y.1]'(by omega),List.getElem?_eq_getElem (by omega)⟩
   have hzl:=congrArg List.length (uZ hz)
   rw[List.length_append] at hzl
   have hzp:=Ep L (y.1+1)
   have hzf:=ji (a:=a) (F:=[]) (O:=[]) hz
   refine tX (λ w hw=>hw.Lc hzf (λ _=>rfl) (λ h=>h) (λ _ h=>h)) ?_
   refine Kd2 ?_;refine aA (I7 (L:=L) rf rf Mo Gw fin (by omega) (by omega)) rfl ?_;refine aA (Nz (L:=L) rf Gw fin hz) rfl ?_;refine J1 ?_;refine Cw ?_;(refine Hk (λ x30=>?_);try (refine eH (λ h30=>?_)));refine Kd7 ?_
   refine iD ((y.1+1,x30)) ?_ ?_ (by repeat (first|(with_reducible exact pW.refl)|refine pW.cons (by exact rfl) ?_)) ?_ (λ w hw=>by rw[<- uZ hz] at hw;exact hw.gm.back)
   ·omega
   ·repeat' (first|exact bQ _|refine bG ?_ ?_)
    all_goals (first|(conv=>{lhs;whnf};rw[<- hzl])|exact rfl)
   ·exact⟨by omega,by simp only[];rw[uZ hz,List.length_append];omega⟩
  ·refine aX rfl ?_;refine J2 ?_;refine J1 ?_
   refine bE Tryz.results298 (λ w hw=>?_)
   have hy:y.1=L.length:=by omega
   rw[hy,List.take_length] at hw
   exact⟨(y.2.1,y.2.2),by rw[hy,List.take_length];rfl,by rw[hy,List.take_length] at hx;exact hx.2,hw.fV⟩
end

/- Branches: Inserted, Updated, Removed. -/
section
open Go.RowKit Go.Ct
theorem Uq{L:List Sl}{a:Option Addr}{ca:Nat}{w:World}(b:Nat)(ha:Cl w a (au L))(hl:∀q∈L,Cl w q.1 (aW q.2.1))(h3:L.length<=3)(hB:∀q∈L,q.2.1.length<=1000) :
  Calls Tryz.prog 277 #[.int .u64 (b:Int),.slice a L.length ca] w λ e w'=>∃x:Option Addr×Nat,e=.returned (cn b (zJ L) x).v/\(zJ L).length<=x.2/\SF w [] [] [] [(x.1,aW (zJ L))] [] w':=by
 refine enter Tryz.func277 Tryz.ntmps277 rfl rfl (SF.s0 w) ?_
 simp only[cP]
 refine J0 ?_;refine aI (λ x4=>?_);refine aD ?_;refine mL ?_;refine aH (Ws (Hc:=λ _=>[]) (Fc:=λ _=>[]) (hc:=λ w1 hw=>Tk (L:=L) (ha.kJ hw.done) (λ q hq=>(hl q hq).kJ hw.done) h3 hB)) (λ x7 h7=>?_);refine Na ?_
 refine bV Tryz.results277 (λ w hw=>?_)
 exact⟨x7,rfl,h7,SF.rv hw.fV⟩
theorem G7{a p1 p2 p3:Option Addr}{l1 l2 l3 l:List Int}{m1 m2 m3 c1 c2 c3 ca:Nat}{w:World}(b:Nat)(ha:Cl w a [.slice p1 m1 c1,.slice p2 m2 c2,.slice p3 m3 c3])(h1:Cl w p1 (aW l1))(h2:Cl w p2 (aW l2))(h3:Cl w p3 (aW l3))
  (e1:l1.length=m1) (e2:l2.length=m2) (e3:l3.length=m3) (b1:m1<=1000) (b2:m2<=1000) (b3:m3<=1000) (hl:l1++(l2++l3)=l) :
  Calls Tryz.prog 277 #[.int .u64 (b:Int),.slice a 3 ca] w λ e w'=>∃x:Option Addr×Nat,e=.returned (cn b l x).v/\l.length<=x.2/\SF w [] [] [] [(x.1,aW l)] [] w':=by
 subst e1 e2 e3 hl
 have:=Uq (L:=[(p1,l1,c1),(p2,l2,c2),(p3,l3,c3)]) (a:=a) (ca:=ca) (w:=w) b ha (by simp[h1,h2,h3]) (by simp) (by simp;omega)
 simpa[zJ] using this
def Gp(n:Nd)(xs:List Int)(ys:List Pr)(b:Nat)(i r:Int):Option (Nat×List Int):=if CV n xs ys/\(0<=i/\i<64)/\1<=r/\uC b i=false then some (pL b i,tM xs (kK b i) r) else none
def Lh(n:Nd)(xs:List Int)(ys:List Pr)(b:Nat)(i r:Int):Option (Nat×List Int):=if CV n xs ys/\1<=r/\uC b i=true then some (b,B8 xs (kK b i) r) else none
def C4(o:Option (Nat×List Int))(x:Option Addr×Nat):Nd:=match o with|some q=>cn q.1 q.2 x|none=>Nd.zero
def sS(o:Option (Nat×List Int)):List Int:=match o with|some q=>q.2|none=>[]
def mx(w:World)(o:Option (Nat×List Int))(e:Ending)(w':World):Prop:=∃x:Option Addr×Nat,e=.returned (.tuple #[(C4 o x).v,.bool o.isSome])/\(sS o).length<=x.2/\SF w [] [] [] [(x.1,aW (sS o))] [] w'
theorem Zt{b:Nat}{xs:List Int}(h:BV b xs)(i:Int):kK b i<=xs.length:=by
 rw[h.len]
 unfold kK
 obtain⟨d,hd⟩:=Nat.exists_eq_add_of_le (Nat.min_le_right i.toNat 64)
 have:=qJ b (min i.toNat 64) d
 rw[<- hd] at this
 exact this
section
variable{n:Nd}{xs:List Int}{ys:List Pr}{w:World}{b:Nat}
theorem uK(i:Int)(hr:Fv w n xs ys):Calls Tryz.prog 276 #[n.v,.int .i64 i] w λ e w'=>∃r:Bool,e=.returned (.bool r)/\(r=true↔CV n xs ys/\(0<=i/\i<64))/\St w [] [] w':=by
 refine enter Tryz.func276 Tryz.ntmps276 rfl rfl (SF.s0 w) ?_
 simp only[cP]
 simp only[Nd.v,Nd.cells]
 refine J0 ?_;refine bF (λ x2=>?_);refine J1 ?_;refine pV ?_;refine aH (c0 (V:=.bool) (hc:=λ w1 hw=>Jf (n:=n) (hr.kJ hw.done))) (λ x6 h6=>?_);refine aB ?_
 (refine lN 7 (λ g7=>?_) (λ g7=>?_)<;>refine Ka5 ?_)
 all_goals ((first|refine aT ?_|(refine aE ?_;refine fS ?_));refine Kb3 ?_)
 all_goals (first|refine aT ?_|(refine lN 11 (λ g11=>?_) (λ g11=>?_)<;>refine Ka5 ?_))
 all_goals (refine wU ?_;refine J1 ?_)
 all_goals
 refine bE Tryz.results276 (λ w hw=>?_)
 refine⟨_,rfl,?_,hw.done⟩
 first|(simp_all;done)|(simp_all;omega)
theorem Mb(i r:Int)(hb:n.bm=(b:Int))(hb2:b<18446744073709551616)(hr:Fv w n xs ys)(hc:xs.length<=n.brC)(hx:xs.length<=1000):Calls Tryz.prog 286 #[n.v,.int .i64 i,.int .i64 r] w (mx w (Gp n xs ys b i r)):=by
 have e1:=hr.brN
 refine enter Tryz.func286 Tryz.ntmps286 rfl rfl (SF.s2 hr.br hr.pr) ?_
 simp only[cP]
 simp only[Nd.v,Nd.cells,hb,e1]
 refine J0 ?_;refine bF (λ x3=>?_);refine aI (λ x6=>?_);refine kZ ?_;refine qa ?_;refine aH (c0 (V:=.bool) (hc:=λ w1 hw=>by rw[<- e1,<- hb];exact uK i (n:=n) (hr.kJ hw.done))) (λ x12 h12=>?_);refine Wy ?_
 (refine lN 14 (λ g14=>?_) (λ g14=>?_)<;>refine Ka5 ?_)
 all_goals (refine Kb5 ?_)
 all_goals (first|refine aT ?_|(refine lN 18 (λ g18=>?_) (λ g18=>?_)<;>refine Ka4 ?_))
 all_goals (refine ix ?_;(first|refine aT ?_|(refine aE ?_;refine aF (cV (hc:=λ w1 hw=>V9 hb2 i w1)) (λ x22=>?_)));refine Kb0 ?_)
 all_goals
 refine aU (λ c23=>?_) (λ c23=>?_)
 ·all_goals (refine J0 ?_;refine cK ?_;refine Wv ?_)
  all_goals
   refine bV Tryz.results286 (λ w hw=>?_)
   rw[show Gp n xs ys b i r=none from if_neg (by rintro ⟨k1,k2,k3,k4⟩;have h:=h12.2 ⟨k1,k2⟩;clear hw;first|omega|(simp_all;done))];exact⟨(none,0),rfl,Nat.le_refl _,(hw.n7 none).fin⟩
 ·try exact nv c23
  all_goals
   have hcv:=h12.1 (by simpa using g14)
   have hbv:=hcv.1.bv hb hb2
   have hpl:=Zt hbv i
   refine tX (λ w hw=>(hw.av (k:=kK b i) fin).bc (k:=kK b i) (c:=n.brC) fin hc) ?_
  all_goals (refine bB ?_;refine jA ?_;refine aB ?_;refine aF (cV (hc:=λ w1 hw=>Tc hb2 i w1)) (λ x28=>?_);refine J1 ?_;refine jA ?_;refine aB ?_;refine aF (cV (hc:=λ w1 hw=>ja hb2 i w1)) (λ x32=>?_);refine kZ ?_;refine eG [(0,[]),(1,[]),(2,[]),(3,[]),(4,[]),(5,[]),(7,[]),(8,[]),(9,[]),(10,[]),(6,[2,8]),(11,[]),(12,[]),(13,[]),(14,[])] ?_;refine aR ?_;refine gY ?_;refine aR ?_;refine cZ (i:=4) (hq:=(Bz rf rf dJ (by exact K5 rfl) (by omega))) (h:=?_);refine aR ?_;refine gY ?_;refine aR ?_;refine cZ (i:=10) (hq:=(N6 rf rf dJ (by exact pJ rfl) (by omega) (by omega))) (h:=?_);refine jG (h:=λ x39=>?_);refine bZ (i:=11) (hq:=(gD λ _=>aP (Hu rfl) mH rf rf rf rf (by simp only[dQ,cI,List.cons_append,List.nil_append];exact rfl))) (h:=λ x44=>?_);refine bS (i:=12) (hq:=(cF (hc:=λ w1 hw=>G7 (l:=tM xs (kK b i) r) (pL b i) (hw.cl fin) (hw.cl fin) (l2:=[r]) (show Cl w1 (some ⟨x39,0,none⟩) (aW [r]) from hw.cl fin) (hw.cl fin) (by rw[List.length_take];omega) rfl (by rw[List.length_drop]) (by omega) (show 1<=1000 by decide) (by omega) rfl))) (h:=λ x45 h45=>?_);refine pa ?_)
  all_goals
   refine bV Tryz.results286 (λ w hw=>?_)
   rw[show Gp n xs ys b i r=some (pL b i,tM xs (kK b i) r) from if_pos ⟨hcv.1,hcv.2,by omega,c23⟩];exact⟨x45,rfl,h45,hw.fin⟩
theorem Qq(i r:Int)(hb:n.bm=(b:Int))(hb2:b<18446744073709551616)(hr:Fv w n xs ys)(hc:xs.length<=n.brC)(hx:xs.length<=1000):Calls Tryz.prog 250 #[n.v,.int .i64 i,.int .i64 r] w (mx w (Lh n xs ys b i r)):=by
 have e1:=hr.brN
 refine enter Tryz.func250 Tryz.ntmps250 rfl rfl (SF.s2 hr.br hr.pr) ?_
 simp only[cP]
 simp only[Nd.v,Nd.cells,hb,e1]
 refine J0 ?_;refine bF (λ x3=>?_);refine aI (λ x6=>?_);refine kZ ?_;refine qa ?_;refine aH (c0 (V:=.bool) (hc:=λ w1 hw=>by rw[<- e1,<- hb];exact uK i (n:=n) (hr.kJ hw.done))) (λ x11 h11=>?_);refine Wy ?_
 (refine lN 13 (λ g13=>?_) (λ g13=>?_)<;>refine Ka5 ?_)
 all_goals (refine Kb5 ?_)
 all_goals (first|refine aT ?_|(refine lN 17 (λ g17=>?_) (λ g17=>?_)<;>refine Ka4 ?_))
 all_goals (refine ix ?_;(first|refine aT ?_|(refine aE ?_;refine aF (cV (hc:=λ w1 hw=>V9 hb2 i w1)) (λ x21=>?_)));refine Q9 ?_;refine aD ?_)
 all_goals
 refine aU (λ c23=>?_) (λ c23=>?_)
 ·all_goals (refine J0 ?_;refine cK ?_;refine Wv ?_)
  all_goals
   refine bV Tryz.results250 (λ w hw=>?_)
   rw[show Lh n xs ys b i r=none from if_neg (by rintro ⟨k1,k3,k4⟩;have h:=h11.2 ⟨k1,(rM k4).1,(rM k4).2.1⟩;clear hw;first|omega|(simp_all;done))];exact⟨(none,0),rfl,Nat.le_refl _,(hw.n7 none).fin⟩
 ·try exact nv c23
  all_goals
   have hcv:=h11.1 (by simpa using g13)
   have hbv:=hcv.1.bv hb hb2
   have hpl:=aq hbv c23
   refine tX (λ w hw=>(hw.av (k:=kK b i) fin).bc (k:=kK b i+1) (c:=n.brC) fin hc) ?_
  all_goals (refine bB ?_;refine jA ?_;refine aB ?_;refine aF (cV (hc:=λ w1 hw=>Tc hb2 i w1)) (λ x28=>?_);refine kZ ?_;refine eG [(0,[]),(1,[]),(2,[]),(3,[]),(4,[]),(5,[]),(6,[]),(8,[]),(9,[]),(10,[]),(11,[]),(12,[]),(7,[1,3,9]),(13,[1]),(14,[]),(15,[]),(16,[])] ?_;refine Kc4 ?_;refine aR ?_;refine cZ (i:=5) (hq:=(Bz rf rf dJ (by exact K5 rfl) (by omega))) (h:=?_);refine aR ?_;refine gY ?_;refine aR ?_;refine ln ?_;refine cZ (i:=12) (hq:=(N6 (k:=kK b i+1) rf rf dJ (by exact pJ rfl) (by omega) (by omega))) (h:=?_);refine jG (h:=λ x36=>?_);refine bZ (i:=13) (hq:=(gD λ _=>aP (Hu rfl) mH rf rf rf rf (by simp only[dQ,cI,List.cons_append,List.nil_append];exact rfl))) (h:=λ x42=>?_);refine bS (i:=14) (hq:=(cF (hc:=λ w1 hw=>G7 (l:=B8 xs (kK b i) r) b (hw.cl fin) (hw.cl fin) (l2:=[r]) (show Cl w1 (some ⟨x36,0,none⟩) (aW [r]) from hw.cl fin) (hw.cl fin) (by rw[List.length_take];omega) rfl (by rw[List.length_drop]) (by omega) (show 1<=1000 by decide) (by omega) rfl))) (h:=λ x43 h43=>?_);refine pa ?_)
  all_goals
   refine bV Tryz.results250 (λ w hw=>?_)
   rw[show Lh n xs ys b i r=some (b,B8 xs (kK b i) r) from if_pos ⟨hcv.1,by omega,c23⟩];exact⟨x43,rfl,h43,hw.fin⟩
end
end

/- Branches: the reference's build, Inserted, Updated, Removed. -/
section
open Go.RowKit Go.Ct
section
variable{n:Nd}{xs:List Int}{ys:List Pr}{w:World}{b:Nat}
end
end

/- Branches: the reference's Inserted, Updated, Removed. -/
section
open Go.RowKit Go.Ct
theorem Di{k:Nat}(b:Nat)(hk:k<64):pL b (k:Int)=b ||| 2^k:=by
 unfold pL;rw[if_pos (by omega),Int.toNat_natCast]
theorem As{k:Nat}(b:Nat)(hk:k<64):kK b (k:Int)=iH b k:=by
 unfold kK;rw[Int.toNat_natCast,Nat.min_eq_left (by omega)]
theorem uW{k:Nat}(b:Nat)(hk:k<64):uC b (k:Int)=b.testBit k:=by
 rw[O3 b (by omega) (by omega),Int.toNat_natCast]
section
variable{n:Nd}{xs:List Int}{ys:List Pr}{w:World}{b:Nat}
theorem Rh{i:Int}(h:(Kz n xs ys b i).isSome=true):CV n xs ys/\uC b i=true:=by
 unfold Kz at h
 split at h
 ·assumption
 ·cases h
end
end

/- The contents of a trie in a state: what is computed. -/
end Go.Proofs.YtnilhhnfjfdokaaGreatDoor
namespace Go.Ct
section
def yU(n:Nv):Prop:=n.kind=3∨n.kind=5∨n.kind=6
instance (n:Nv):Decidable (yU n):=by unfold yU;exact inferInstance
end

/- Proper states, by what their nodes hold. -/
section
def Nv.nd(v:Nv):Nd:=⟨v.kind,v.gen,v.main,v.bm,none,v.xs.length,0,v.hash,v.key,v.val,none,v.ys.length,0,v.prev,v.old,v.exp,v.new,v.status⟩
def Nv.dv(v:Nv):eY:=⟨v.nd,v.xs,v.ys⟩
theorem W6{n:Nd}{xs:List Int}{ys:List Pr}:eW n xs ys↔eW (n.c xs ys).nd xs ys:=by
 have e:Ey n n.own xs (n.mN xs) ys (n.kE ys)↔Ey (n.c xs ys).nd (n.c xs ys).nd.own xs ((n.c xs ys).nd.mN xs) ys ((n.c xs ys).nd.kE ys):=by
  rw[Ix,Ix]
  have e1:n.own.c (n.mN xs) (n.kE ys)=(n.c xs ys).nd.own.c ((n.c xs ys).nd.mN xs) ((n.c xs ys).nd.kE ys):=by
   have hx:(n.c xs ys).nd.mN xs=n.mN xs:=rfl
   have hy:(n.c xs ys).nd.kE ys=n.kE ys:=rfl
   have hk:(n.c xs ys).nd.kind=n.kind:=rfl
   rw[hx,hy]
   unfold Nd.own
   rw[hk]
   repeat' split
   all_goals rfl
  rw[e1]
  exact Iff.rfl
 unfold eW
 rw[e]
 exact Iff.rfl
end

/- Nodes by what they hold: what the reference's functions on nodes give. -/
end Go.Ct
namespace Go.Proofs.YtnilhhnfjfdokaaGreatDoor
section
open Go.RowKit Go.Ct
theorem p8{n:Nd}{xs:List Int}{ys:List Pr}:CV n xs ys↔CV (n.c xs ys).nd xs ys:=by
 unfold CV
 rw[W6 (n:=n)]
 exact Iff.rfl
theorem Vl{n:Nd}{xs:List Int}{ys:List Pr}:CV (n.c xs ys).nd (n.c xs ys).xs (n.c xs ys).ys=CV n xs ys:=propext p8.symm
def pg(b:Nat)(xs:List Int):Nv:=(cn b xs (none,0)).c xs []
def qI(v:Nv)(i:Int):Option Int:=Kz v.nd v.xs v.ys v.bm.toNat i
def Pe(o:Option (Nat×List Int)):Nv:=match o with|some q=>pg q.1 q.2|none=>Nv.zero
def C1(v:Nv)(i r:Int):Nv:=Pe (Gp v.nd v.xs v.ys v.bm.toNat i r)
def jk(v:Nv)(i r:Int):Nv:=Pe (Lh v.nd v.xs v.ys v.bm.toNat i r)
section
variable{n s:Nd}{xs:List Int}{ys:List Pr}{b:Nat}
theorem mb(hb:n.bm=(b:Int))(i:Int):Kz n xs ys b i=qI (n.c xs ys) i:=by
 have e:(n.c xs ys).bm.toNat=b:=by show n.bm.toNat=b;omega
 unfold qI Kz
 rw[e]
 simp only[Vl (n:=n)]
 try rfl
theorem Lx(o:Option (Nat×List Int))(x:Option Addr×Nat):(C4 o x).c (sS o) []=Pe o:=by cases o<;>rfl
theorem pu(hb:n.bm=(b:Int))(i r:Int):Pe (Gp n xs ys b i r)=C1 (n.c xs ys) i r:=by
 have e:(n.c xs ys).bm.toNat=b:=by show n.bm.toNat=b;omega
 unfold C1 Gp
 rw[e]
 simp only[Vl (n:=n)]
 try rfl
theorem qn(hb:n.bm=(b:Int))(i r:Int):Pe (Lh n xs ys b i r)=jk (n.c xs ys) i r:=by
 have e:(n.c xs ys).bm.toNat=b:=by show n.bm.toNat=b;omega
 unfold jk Lh
 rw[e]
 simp only[Vl (n:=n)]
 try rfl
end
end

/- The numbers of a node. -/
end Go.Proofs.YtnilhhnfjfdokaaGreatDoor
namespace Go.Ct
section
open Go Go.RowKit
structure uJ(n c:Nat)(v:Nv):Prop where
 old:v.old<=n
 exp:v.exp<=n
 new:v.new<=n
 br:∀r∈v.xs,r<=n
 main:v.main<=c
 prev:v.prev<=c
 status:v.status<=c
 bm:∃b:Nat,v.bm=(b:Int)/\b<18446744073709551616
 hash:∃b:Nat,v.hash=(b:Int)/\b<18446744073709551616
theorem uJ.mono{n c n' c':Nat}{v:Nv}(h:uJ n c v)(h1:n<=n')(h2:c<=c'):uJ n' c' v :=
 ⟨by have:=h.old;omega,by have:=h.exp;omega,by have:=h.new;omega,λ r hr=>by have:=h.br r hr;omega,by have:=h.main;omega,by have:=h.prev;omega,by have:=h.status;omega,h.bm,h.hash⟩
theorem Rk(n c:Nat):uJ n c Nv.zero:=⟨pR _,pR _,pR _,(λ r hr=>nomatch hr),pR _,pR _,pR _,⟨0,rfl,by decide⟩,⟨0,rfl,by decide⟩⟩
theorem M8{l:List Int}{n:Nat}(h:∀v∈l,v<=n)(k:Nat):l.getD k 0<=n:=by
 rw[G0]
 cases hk:l[k]? with
 | none=>exact pR n
 | some v=>exact h v (List.mem_of_getElem? hk)
end

/- Trees at rest. -/
section
def Tr.acc:Tr->Option Ac
 | .load c _=>some ⟨1,c,0,0⟩
 | .oI c o n _=>some ⟨2,c,o,n⟩
 | _=>none
def fK:Tr->Bool
 | .load _ _=>true
 | .oI _ _ _ _=>true
 | .done _=>true
 | _=>false
end

/- Hash values: their slices, and how many two of them share. -/
section
open Go Go.RowKit
def sl(h l:Nat):Nat:=(h >>> (6*l))%64
theorem nt(h l:Nat):sl h l<64:=Nat.mod_lt _ (by decide)
theorem U7(h l:Nat):(h >>> (6*l)) &&& 63=sl h l:=Nat.and_two_pow_sub_one_eq_mod _ 6
section
variable{P:Program}{S:List (Nat×Value)}{G:World->Prop}{d:Nat}{ty t t':TypeId}{pos:String}{af:Array Edge}{gd:Option (Nat×Bool)}{x y:Operand}{a b i:Nat}{k':IntKind}
theorem Xk(hx:ev S x=.int .i64 (a:Int))(hy:ev S y=.int .i64 (b:Int))(h:a*b<=9223372036854775807):aG P S G ⟨some d,.binOp .mul t x y t',ty,pos,af,gd⟩ (.int .i64 ((a*b:Nat):Int)):=by
 have:=Se (P:=P) (G:=G) (d:=d) (ty:=ty) (pos:=pos) (af:=af) (gd:=gd) (t:=t) (t':=t') hx hy
 rw[<- Int.natCast_mul,wrap_i64 (by omega) (by omega)] at this
 exact this
theorem jz(hx:ev S x=.int .u64 (a:Int))(hy:ev S y=.int k' (i:Int))(h:i<=64):aG P S G ⟨some d,.binOp .shr t x y t',ty,pos,af,gd⟩ (.int .u64 ((a >>> i:Nat):Int)):=by
 have:=Nk (P:=P) (G:=G) (d:=d) (ty:=ty) (pos:=pos) (af:=af) (gd:=gd) (t:=t) (t':=t') hx hy (by omega)
 rwa [lA h] at this
theorem U2(hx:ev S x=.int .u64 (a:Int))(hy:ev S y=.int .u64 (b:Int))(ha:a<18446744073709551616)(hb:b<18446744073709551616):aG P S G ⟨some d,.binOp .and t x y t',ty,pos,af,gd⟩ (.int .u64 ((a &&& b:Nat):Int)):=by
 have:=Sx (P:=P) (G:=G) (d:=d) (ty:=ty) (pos:=pos) (af:=af) (gd:=gd) (t:=t) (t':=t') hx hy
 rwa [lE ha hb] at this
end
end
end Go.Ct
namespace Go.Proofs.YtnilhhnfjfdokaaGreatDoor
section
open Go.RowKit Go.Ct
theorem Qf{h l:Nat}(hh:h<18446744073709551616)(hl:l<=10)(w:World):Calls Tryz.prog 147 #[.int .u64 (h:Int),.int .i64 (l:Int)] w λ e w'=>e=.returned (.int .i64 ((sl h l:Nat):Int))/\St w [] [] w':=by
 have hsl:(h >>> (6*l)) &&& 63<64:=by rw[U7];exact nt h l
 refine enter Tryz.func147 Tryz.ntmps147 rfl rfl (SF.s0 w) ?_
 simp only[cP]
 refine Kb1 ?_;refine Kb ?_
 (refine Ka2 ?_)
 ((refine Kc5 ?_));refine Kb0 ?_
 refine aU (λ c10=>?_) (λ c10=>?_)
 ·try (exfalso;omega)
 ·try (exfalso;omega)
  refine C5 ?_;refine aA (Xk (a:=6) (b:=l) rf rf (by omega)) rfl ?_;refine fC ?_;refine aA (jz (i:=6*l) rf rf (by omega)) rfl ?_;refine aA (U2 (b:=63) rf rf (Nat.lt_of_le_of_lt (Nat.shiftRight_le _ _) hh) (by decide)) rfl ?_;refine fC ?_;refine J1 ?_
  refine bE Tryz.results147 (λ w hw=>?_)
  exact⟨by rw[U7];rfl,hw.done⟩
end

/- The procedures with shared cells, as trees. -/
section
open Go.RowKit Go.Ct
structure nS where
 root:Int
 ro:Bool
structure Cl where
 kind:Int
 t:nS
 a:Int
 b:Int
 n:Int
 index:Int
 hash:Int
 mask:Int
 key:ByteArray
 val:Int
 exp:Int
 pol:Int
 only:Bool
def iF(h:Nat)(level:Int):Int:=if level<0∨10<level then 0 else(sl h level.toNat:Int)
def Rp(p:Int):Nv:=({Nd.zero with kind:=7,old:=p}:Nd).c [] []
def xQ(g:Int):Nv:=({Nd.zero with kind:=2,gen:=g}:Nd).c [] []
def lI(h:Int)(k:ByteArray)(u:Int):Nv:=({Nd.zero with kind:=4,hash:=h,key:=k,val:=u}:Nd).c [] []
def eZ:Nv:=({Nd.zero with kind:=3}:Nd).c [] []
def qh(v s:Int)(K:Int->Tr):Tr:=.node v λ n=>K (if s=1 then n.new else n.old)
def nN(t:nS)(v s:Int)(K:Int->Tr):Tr:=qh v s λ w=>.oI t.root v w λ _=>K w
def Dr(t:nS)(K:Int->Tr):Tr:=.load t.root λ v=>.node v λ n=>if n.kind=2 then K v else .node v λ n=>.load n.status λ s =>
 if s=0 then .node v λ n=>.oI n.status 0 2 λ _=>.node v λ n=>.load n.status λ s=>nN t v s K else nN t v s K
def Kl(i m p:Int)(K:Int->Tr):Tr:=.node i λ ni=>.node p λ np=>.oI ni.main m np.old λ _=>.node p λ np=>K np.old
def fY(i m:Int)(K:Int->Tr):Tr:=.node m λ nm=>.load nm.prev λ p=>if p=0 then K m else Kl i m p K
def kY(i m p:Int)(c:Bool)(K:Int->Tr):Tr :=
 if c=true then .node m λ nm=>.oI nm.prev p 0 λ _=>fY i m K
 else .node m λ nm=>.alloc (Rp p) 0 λ f=>.oI nm.prev p f λ _=>fY i m K
def gC(t:nS)(i m:Int)(K:Int->Tr):Tr:=.node m λ nm=>.load nm.prev λ p=>if p=0 then K m else .node p λ np =>
 if yU np then(if t.ro=true then kY i m p false K else Dr t λ r=>.node r λ nr=>.node i λ ni=>kY i m p (nr.gen==ni.gen) K)
 else Kl i m p K
def nY(t:nS)(i:Int)(K:Int->Tr):Tr:=.node i λ ni=>.load ni.main λ m=>gC t i m K
def Ad(t:nS)(v:Int)(K:Tr):Tr:=.node v λ n=>nY t n.old λ r=>.node v λ n2=>.node v λ n3=>.oI n3.status 0 (if r=n2.exp then 1 else 2) λ _=>K
def qB(t:nS)(K:Int->Tr):Tr:=.load t.root λ v=>.node v λ n=>if n.kind=2 then K v else .node v λ n=>.load n.status λ s =>
 if s=0 then Ad t v (.node v λ n=>.load n.status λ s=>nN t v s K) else nN t v s K
def qR(t:nS)(i old n:Int)(K:Bool->Tr):Tr:=.node i λ ni=>.oI ni.main old n λ b=>if b=true then gC t i n λ m=>K (m==n) else K false
def dG(f:Bool)(v:Int):Rs:=⟨0,f,v,⟨#[]⟩,0,0,0,false⟩
def fL(f:Bool)(v:Int):Rs:=⟨0,f,v,⟨#[]⟩,1,0,0,false⟩
def nK(t:nS)(h:Nat)(key:ByteArray)(K:Rs->Tr):Nat->Int->Int->Tr
 | 0,_,_=>.stuck
 | n+1,i,level=>nY t i λ mr=>.node mr λ m =>
  if m.kind=5 then(if m.key=key then K (dG true m.val) else K (dG false 0))
  else if m.kind=6 then K (dG (iO m.ys key).isSome ((iO m.ys key).getD 0))
  else match qI m (iF h level) with
   | none=>K (dG false 0)
   | some b=>.node b λ s=>if s.kind=4 then(if s.key=key then K (dG true s.val) else K (dG false 0)) else nK t h key K n b (level+1)
end

end Go.Proofs.YtnilhhnfjfdokaaGreatDoor

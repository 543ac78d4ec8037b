/- States are compared. -/
import Derived.Test.YtadnboagdhcedaaGreatDoorGAr9
import Derived.Test.YtadnboagdhcedaaGreatDoorGGa
import Derived.Test.YtadnboagdhcedaaGreatDoorGBr2

set_option linter.unusedSimpArgs false
set_option linter.unusedVariables false
namespace Go.Ct
section
theorem xi{L1 L2:List aL}(h:L1.length=L2.length):L1.map aL.c=L2.map aL.c↔∀i,i<L1.length->(L1.getD i aL.zero).c=(L2.getD i aL.zero).c:=by
 constructor
 ·intro e i hi
  have h1:(L1.map aL.c)[i]?=(L2.map aL.c)[i]?:=by rw[e]
  rw[List.getElem?_map,List.getElem?_map,List.getElem?_eq_getElem hi,List.getElem?_eq_getElem (h▸hi)] at h1
  rw[fM,fM,List.getElem?_eq_getElem hi,List.getElem?_eq_getElem (h▸hi)]
  simpa using h1
 ·intro e
  refine List.ext_getElem? λ i=>?_
  rw[List.getElem?_map,List.getElem?_map]
  by_cases hi:i<L1.length
  ·have h1:=e i hi
   rw[fM,fM,List.getElem?_eq_getElem hi,List.getElem?_eq_getElem (h▸hi)] at h1
   rw[List.getElem?_eq_getElem hi,List.getElem?_eq_getElem (h▸hi)]
   simpa using h1
  ·rw[List.getElem?_eq_none (by omega),List.getElem?_eq_none (by omega)]
end
end Go.Ct
namespace Go.Proofs.YtadnboagdhcedaaGreatDoor
section
open Go.RowKit Go.Ct
end

/- Proper states, by what their nodes hold. -/
end Go.Proofs.YtadnboagdhcedaaGreatDoor
namespace Go.Ct
section
def Nv.nd(v:Nv):Nd:=⟨v.kind,v.gen,v.main,v.bm,none,v.xs.length,0,v.hash,v.key,v.val,none,v.ys.length,0,v.prev,v.bM,v.exp,v.new,v.status⟩
def Nv.dv(v:Nv):aL:=⟨v.nd,v.xs,v.ys⟩
theorem Nv.aAu(v:Nv):v.dv.c=v:=rfl
theorem uk(N:List Nv):(N.map Nv.dv).map aL.c=N:=by
 rw[List.map_map]
 exact(List.map_congr_left (λ v _=>Nv.aAu v)).trans (List.map_id N)
theorem Jj{n:Nd}{xs:List Int}{ys:List Pr}:bY n xs ys↔bY (n.c xs ys).nd xs ys:=by
 have e:pP n n.own xs (n.fQ xs) ys (n.fH ys)↔pP (n.c xs ys).nd (n.c xs ys).nd.own xs ((n.c xs ys).nd.fQ xs) ys ((n.c xs ys).nd.fH ys):=by
  rw[yE,yE]
  have e1:n.own.c (n.fQ xs) (n.fH ys)=(n.c xs ys).nd.own.c ((n.c xs ys).nd.fQ xs) ((n.c xs ys).nd.fH ys):=by
   have hx:(n.c xs ys).nd.fQ xs=n.fQ xs:=rfl
   have hy:(n.c xs ys).nd.fH ys=n.fH ys:=rfl
   have hk:(n.c xs ys).nd.kind=n.kind:=rfl
   rw[hx,hy]
   unfold Nd.own
   rw[hk]
   repeat' split
   all_goals rfl
  rw[e1]
  exact Iff.rfl
 unfold bY
 rw[e]
 exact Iff.rfl
theorem uq{gen:Int}{n:Nat}{u v:aL}(h:u.c=v.c)(hu:lW gen n u):lW gen n v:=by
 have key:∀v:aL,lW gen n v↔lW gen n v.c.dv:=λ v=>by
  unfold lW
  rw[Jj (n:=v.nd)]
  exact Iff.rfl
 rw[key,<- h,<- key]
 exact hu
theorem jt{m:Nat}{L1 L2:List aL}(h:L1.map aL.c=L2.map aL.c):marks m L1=marks m L2:=by
 have key:∀L:List aL,marks m L=(L.map aL.c).foldl (λ u c=>eQ u c.nd) (some (List.replicate m false)):=λ L=>by
  unfold marks
  rw[List.foldl_map]
  rfl
 rw[key,key,h]
theorem Vj{L1 L2:List aL}{cs:List Int}{gen:Int}(h:L1.map aL.c=L2.map aL.c)(hp:dM L1 cs gen):dM L2 cs gen:=by
 have hl:L1.length=L2.length:=by simpa using congrArg List.length h
 have hi:=(xi hl).1 h
 have h2:=hp.two
 refine⟨by omega,hp.gen0,?_,?_,λ i h=>by have:=hp.cells i h;rwa [hl] at this,λ i h=>?_,by rw[<- jt h];exact hp.marks⟩
 ·have:=congrArg Nv.kind (hi 0 (by omega))
  exact this.symm.trans hp.m0
 ·have:=congrArg Nv.kind (hi 1 (by omega))
  exact this.symm.trans hp.m1
 ·have:=hp.nodes i (by omega)
  rw[<- hl]
  exact uq (hi i (by omega)) this
def eD(N:List Nv)(cs:List Int)(gen:Int):Prop:=dM (N.map Nv.dv) cs gen
theorem eD.to{N:List Nv}{cs:List Int}{gen:Int}(h:eD N cs gen){L:List aL}(hl:L.map aL.c=N):dM L cs gen:=Vj (by rw[uk,hl]) h
theorem eD.push{N:List Nv}{cs:List Int}{gen init:Int}{n:Nv}(h:eD N cs gen)(hv:lW gen (N.length+1) (cS n cs.length).dv)(hi:Db init N.length):eD (N++[cS n cs.length]) (gG n.kind cs init) gen:=by
 have hm:(N.map Nv.dv).length=N.length:=by simp
 have:=Ls (v:=(cS n cs.length).dv) (k:=n.kind) (init:=init) h (by rw[hm];exact hv) (by rw[hm];exact hi) (by
  have e:(cS n cs.length).dv.nd.kind=n.kind:=rfl
  unfold gO gG
  rw[e]
  by_cases h2:n.kind=2
  ·right
   rw[if_pos h2,if_pos (.inl h2)]
   exact⟨by show some (if n.kind=2 then _ else _)=_;rw[if_pos h2],rfl⟩
  rw[if_neg h2]
  by_cases h3:n.kind=3∨n.kind=5∨n.kind=6
  ·right
   rw[if_pos h3,if_pos (by omega)]
   exact⟨by show some (if n.kind=3∨n.kind=5∨n.kind=6 then _ else _)=_;rw[if_pos h3],rfl⟩
  rw[if_neg h3]
  by_cases h8:n.kind=8
  ·right
   rw[if_pos h8,if_pos (by omega)]
   exact⟨by show some (if n.kind=8 then _ else _)=_;rw[if_pos h8],rfl⟩
  ·left
   rw[if_neg h8,if_neg (by omega)]
   exact⟨rfl,rfl⟩)
 unfold eD
 rw[List.map_append]
 exact this
theorem eD.cell{N:List Nv}{cs:List Int}{gen init:Int}(h:eD N cs gen)(hi:Db init N.length):eD N (cs++[init]) gen:=by
 have hm:(N.map Nv.dv).length=N.length:=by simp
 refine⟨h.two,h.gen0,h.m0,h.m1,λ i hi'=>?_,h.nodes,?_⟩
 ·rw[fM]
  rw[List.length_append,List.length_cons,List.length_nil] at hi'
  by_cases hl:i<cs.length
  ·rw[List.getElem?_append_left hl,<- fM]
   exact h.cells i hl
  ·rw[List.getElem?_append_right (by omega),show i-cs.length=0 by omega,hm]
   exact hi
 ·have key:∀(l:List aL) (m:Nat) (u:List Bool),l.foldl (λ u v=>eQ u v.nd) (some u)≠none->l.foldl (λ u v=>eQ u v.nd) (some (u++[false]))≠none:=by
   intro l
   induction l with
   | nil=>intro _ u _ h;cases h
   | cons v l ih =>
    intro m u hu
    rw[List.foldl_cons] at hu ⊢
    have hnone:∀l:List aL,l.foldl (λ u v=>eQ u v.nd) none=none:=λ l=>by
     induction l with
     | nil=>rfl
     | cons v l ih=>exact ih
    cases hc:gO v.nd with
    | none =>
     rw[show eQ (some u) v.nd=some u by simp[eQ,hc]] at hu
     rw[show eQ (some (u++[false])) v.nd=some (u++[false]) by simp[eQ,hc]]
     exact ih m u hu
    | some c =>
     by_cases hc3:1<=c/\c<=u.length/\u.getD (c-1).toNat false=false
     ·obtain⟨c1,c2,c3⟩:=hc3
      have hlt:(c-1).toNat<u.length:=by omega
      have e1:(u++[false]).getD (c-1).toNat false=u.getD (c-1).toNat false:=by
       rw[fM,fM,List.getElem?_append_left hlt]
      have e2:eQ (some u) v.nd=some (u.set (c-1).toNat true):=by
       show(match gO v.nd with|none=>_|some c=>_)=_
       rw[hc]
       exact if_pos ⟨c1,c2,c3⟩
      have e3:eQ (some (u++[false])) v.nd=some (u.set (c-1).toNat true++[false]):=by
       show(match gO v.nd with|none=>_|some c=>_)=_
       rw[hc,<- List.set_append_left _ _ hlt]
       exact if_pos ⟨c1,by rw[List.length_append,List.length_cons,List.length_nil];omega,by rw[e1];exact c3⟩
      rw[e2] at hu
      rw[e3]
      exact ih m _ hu
     ·have e2:eQ (some u) v.nd=none:=by
       show(match gO v.nd with|none=>_|some c=>_)=_
       rw[hc]
       exact if_neg hc3
      rw[e2,hnone] at hu
      exact absurd rfl hu
  have:=key (N.map Nv.dv) 0 (List.replicate cs.length false) h.marks
  unfold marks
  rw[List.length_append,List.length_cons,List.length_nil,List.replicate_succ']
  exact this
end

/- Nodes by what they hold: what the reference's functions on nodes give. -/
end Go.Ct
namespace Go.Proofs.YtadnboagdhcedaaGreatDoor
section
open Go.RowKit Go.Ct
theorem yb{n:Nd}{xs:List Int}{ys:List Pr}:CV n xs ys↔CV (n.c xs ys).nd xs ys:=by
 unfold CV
 rw[Jj (n:=n)]
 exact Iff.rfl
theorem aAO{n:Nd}{xs:List Int}{ys:List Pr}:LV n xs ys↔LV (n.c xs ys).nd xs ys:=by
 unfold LV
 rw[Jj (n:=n)]
 exact Iff.rfl
theorem Wy{n:Nd}{xs:List Int}{ys:List Pr}:CV (n.c xs ys).nd (n.c xs ys).xs (n.c xs ys).ys=CV n xs ys:=propext yb.symm
theorem zg{n:Nd}{xs:List Int}{ys:List Pr}:LV (n.c xs ys).nd (n.c xs ys).xs (n.c xs ys).ys=LV n xs ys:=propext aAO.symm
def Bt(b:Nat)(xs:List Int):Nv:=(cn b xs (none,0)).c xs []
def jT(v:Nv)(i:Int):Option Int:=Ib v.nd v.xs v.ys v.bm.toNat i
def Iz(v:Nv):Option Int:=Wl v.nd v.xs v.ys
def Fs(o:Option (Nat×List Int)):Nv:=match o with|some q=>Bt q.1 q.2|none=>Nv.zero
def uc(v:Nv)(i r:Int):Nv:=Fs (dr v.nd v.xs v.ys v.bm.toNat i r)
def P5(v:Nv)(i r:Int):Nv:=Fs (dk v.nd v.xs v.ys v.bm.toNat i r)
def Kn(v:Nv)(i:Int):Nv:=Fs (dm v.nd v.xs v.ys v.bm.toNat i)
def tmV(s:Nv):Nv:=(tmb s.nd).c [] []
def td(v:Nv)(level:Int)(s:Nv):Nv:=if Qg v.nd v.xs v.ys level s.nd=true then tmV s else v
def wg(v:Nv):Nv:=(D3 v.nd).c [] []
def v5(v:Nv)(k:ByteArray)(u:Int):Nv:=(Yp (jR v.nd v.xs v.ys k u) v.hash (none,0)).c [] (Vy (jR v.nd v.xs v.ys k u))
def mz(v:Nv)(k:ByteArray):Nv:=(Kp (oN v.nd v.xs v.ys k) v.hash (none,0)).c [] (Fl (oN v.nd v.xs v.ys k))
section
variable{n s:Nd}{xs:List Int}{ys:List Pr}{b:Nat}
theorem xa(hb:n.bm=(b:Int))(i:Int):Ib n xs ys b i=jT (n.c xs ys) i:=by
 have e:(n.c xs ys).bm.toNat=b:=by show n.bm.toNat=b;omega
 unfold jT Ib
 rw[e]
 simp only[Wy (n:=n)]
 try rfl
theorem qq:Wl n xs ys=Iz (n.c xs ys):=by
 unfold Iz Wl
 simp only[Wy (n:=n)]
 try rfl
theorem Em(o:Option (Nat×List Int))(x:Option Addr×Nat):(lG o x).c (kO o) []=Fs o:=by cases o<;>rfl
theorem aAA(hb:n.bm=(b:Int))(i r:Int):Fs (dr n xs ys b i r)=uc (n.c xs ys) i r:=by
 have e:(n.c xs ys).bm.toNat=b:=by show n.bm.toNat=b;omega
 unfold uc dr
 rw[e]
 simp only[Wy (n:=n)]
 try rfl
theorem z4(hb:n.bm=(b:Int))(i r:Int):Fs (dk n xs ys b i r)=P5 (n.c xs ys) i r:=by
 have e:(n.c xs ys).bm.toNat=b:=by show n.bm.toNat=b;omega
 unfold P5 dk
 rw[e]
 simp only[Wy (n:=n)]
 try rfl
theorem yi(hb:n.bm=(b:Int))(i:Int):Fs (dm n xs ys b i)=Kn (n.c xs ys) i:=by
 have e:(n.c xs ys).bm.toNat=b:=by show n.bm.toNat=b;omega
 unfold Kn dm
 rw[e]
 simp only[Wy (n:=n)]
 try rfl
theorem aAU(level:Int):(ou (Qg n xs ys level s) n s).c (di (Qg n xs ys level s) xs) (di (Qg n xs ys level s) ys)=td (n.c xs ys) level (s.c [] []):=by
 have e:Qg (n.c xs ys).nd xs ys level (s.c [] []).nd=Qg n xs ys level s:=by
  unfold Qg
  rw[qq (n:=n)]
  rfl
 have e':Qg (n.c xs ys).nd (n.c xs ys).xs (n.c xs ys).ys level (s.c [] []).nd=Qg n xs ys level s:=e
 unfold td ou di
 rw[e']
 split<;>rfl
theorem xb:(D3 n).c [] []=wg (n.c xs ys):=by
 unfold wg D3
 show _=Nd.c (if n.kind=5 then _ else _) _ _
 split<;>rfl
theorem aAr(k:ByteArray)(u:Int)(x:Option Addr×Nat):(Yp (jR n xs ys k u) n.hash x).c [] (Vy (jR n xs ys k u))=v5 (n.c xs ys) k u:=by
 have e':jR (n.c xs ys).nd (n.c xs ys).xs (n.c xs ys).ys k u=jR n xs ys k u:=by unfold jR;simp only[zg (n:=n)];try rfl
 unfold v5
 rw[e']
 cases jR n xs ys k u<;>rfl
theorem aAN(k:ByteArray)(x:Option Addr×Nat):(Kp (oN n xs ys k) n.hash x).c [] (Fl (oN n xs ys k))=mz (n.c xs ys) k:=by
 have e':oN (n.c xs ys).nd (n.c xs ys).xs (n.c xs ys).ys k=oN n xs ys k:=by unfold oN;simp only[zg (n:=n)];try rfl
 unfold mz
 rw[e']
 cases oN n xs ys k with
 | none=>rfl
 | some m=>unfold Kp;simp only[Fl];split<;>rfl
end
end

/- Hash values: their slices, and how many two of them share. -/
end Go.Proofs.YtadnboagdhcedaaGreatDoor
namespace Go.Ct
section
open Go Go.RowKit
def sl(h l:Nat):Nat:=(h >>> (6*l))%64
theorem tV(h l:Nat):sl h l<64:=Nat.mod_lt _ (by decide)
theorem Y1(h l:Nat):(h >>> (6*l)) &&& 63=sl h l:=Nat.and_two_pow_sub_one_eq_mod _ 6
theorem Iv(h j:Nat):(h >>> (6*j))/64=h >>> (6*(j+1)):=by
 rw[show 6*(j+1)=6*j+6 by omega,Nat.shiftRight_add,Nat.shiftRight_eq_div_pow (h >>> (6*j)) 6]
def C8(h k:Nat):Nat->Nat->Nat
 | 0,l=>l
 | n+1,l=>if sl h l=sl k l then C8 h k n (l+1) else l
def jV(h k:Nat):Nat:=C8 h k 11 0
theorem uT(h k:Nat):∀n l,l<=C8 h k n l/\C8 h k n l<=l+n/\(∀i,l<=i->i<C8 h k n l->sl h i=sl k i)/\(C8 h k n l<l+n->sl h (C8 h k n l)≠sl k (C8 h k n l))
 | 0,l=>⟨Nat.le_refl _,Nat.le_refl _,λ i h1 h2=>absurd h2 (by simp only[C8];omega),λ h=>absurd h (by simp only[C8];omega)⟩
 | n+1,l=>by
  simp only[C8]
  split
  ·rename_i he
   obtain⟨h1,h2,h3,h4⟩:=uT h k n (l+1)
   refine⟨by omega,by omega,λ i hi hi2=>?_,λ hlt=>h4 (by omega)⟩
   rcases Nat.lt_or_eq_of_le hi with hi|rfl
   ·exact h3 i (by omega) hi2
   ·exact he
  ·rename_i he
   exact⟨Nat.le_refl _,by omega,λ i h1 h2=>absurd h2 (by omega),λ _=>he⟩
theorem wP(h k:Nat):jV h k<=11:=by have:=(uT h k 11 0).2.1;unfold jV;omega
theorem Oh{h k i:Nat}(hi:i<jV h k):sl h i=sl k i:=(uT h k 11 0).2.2.1 i (Nat.zero_le _) hi
theorem Kd{h k:Nat}(hc:jV h k<11):sl h (jV h k)≠sl k (jV h k):=(uT h k 11 0).2.2.2 (by unfold jV at hc;omega)
theorem vx{h k l:Nat}(hl:l<=11)(h1:∀i,i<l->sl h i=sl k i)(h2:l<11->sl h l≠sl k l):l=jV h k:=by
 rcases Nat.lt_trichotomy l (jV h k) with h3|h3|h3
 ·exact absurd (Oh h3) (h2 (by have:=wP h k;omega))
 ·exact h3
 ·exact absurd (h1 _ h3) (Kd (by omega))
theorem rz{P:Program}{S:List (Nat×Value)}{G:World->Prop}{d:Nat}{ty t t':TypeId}{pos:String}{af:Array Edge}{gd:Option (Nat×Bool)}{x y:Operand}{a b:Nat}(hx:ev S x=.int .u64 (a:Int))(hy:ev S y=.int .u64 (b:Int))(h0:b≠0)(ha:a<18446744073709551616):aJ P S G ⟨some d,.binOp .quo t x y t',ty,pos,af,gd⟩ (.int .u64 ((a/b:Nat):Int)):=⟨λ w _=>by
 have h1:((b:Nat):Int)≠0:=by omega
 have h2:(a:Int).tdiv (b:Int)=((a/b:Nat):Int):=by rw[Int.tdiv_eq_ediv_of_nonneg (by omega)];rfl
 have h3:IntKind.u64.wrap ((a/b:Nat):Int)=((a/b:Nat):Int):=by
  have h4:=Nat.div_le_self a b
  generalize a/b=q at h4 ⊢
  rw[wrap_u64]
  omega
 simp only[execOp,hx,hy,eqGuard_at_int,binOp,Op.intDiv]
 simp[h0,h2]
 exact h3⟩
section
variable{P:Program}{S:List (Nat×Value)}{G:World->Prop}{d:Nat}{ty t t':TypeId}{pos:String}{af:Array Edge}{gd:Option (Nat×Bool)}{x y:Operand}{a b i:Nat}{k':IntKind}
theorem ki(hx:ev S x=.int .i64 (a:Int))(hy:ev S y=.int .i64 (b:Int))(h:a*b<=9223372036854775807):aJ P S G ⟨some d,.binOp .mul t x y t',ty,pos,af,gd⟩ (.int .i64 ((a*b:Nat):Int)):=by
 have:=Y8 (P:=P) (G:=G) (d:=d) (ty:=ty) (pos:=pos) (af:=af) (gd:=gd) (t:=t) (t':=t') hx hy
 rw[<- Int.natCast_mul,wrap_i64 (by omega) (by omega)] at this
 exact this
theorem sn(hx:ev S x=.int .u64 (a:Int))(hy:ev S y=.int k' (i:Int))(h:i<=64):aJ P S G ⟨some d,.binOp .shr t x y t',ty,pos,af,gd⟩ (.int .u64 ((a >>> i:Nat):Int)):=by
 have:=po (P:=P) (G:=G) (d:=d) (ty:=ty) (pos:=pos) (af:=af) (gd:=gd) (t:=t) (t':=t') hx hy (by omega)
 rwa [kY h] at this
theorem Qc(hx:ev S x=.int .u64 (a:Int))(hy:ev S y=.int .u64 (b:Int))(ha:a<18446744073709551616)(hb:b<18446744073709551616):aJ P S G ⟨some d,.binOp .and t x y t',ty,pos,af,gd⟩ (.int .u64 ((a &&& b:Nat):Int)):=by
 have:=nq (P:=P) (G:=G) (d:=d) (ty:=ty) (pos:=pos) (af:=af) (gd:=gd) (t:=t) (t':=t') hx hy
 rwa [lD ha hb] at this
theorem sk(hx:ev S x=.int .u64 (a:Int))(hy:ev S y=.int .u64 (b:Int))(h0:b≠0):aJ P S G ⟨some d,.binOp .rem t x y t',ty,pos,af,gd⟩ (.int .u64 ((a%b:Nat):Int)):=by
 have:=X3 (P:=P) (G:=G) (d:=d) (ty:=ty) (pos:=pos) (af:=af) (gd:=gd) (t:=t) (t':=t') hx hy (by omega)
 rwa [Int.tmod_eq_emod_of_nonneg (by omega),<- Int.natCast_emod] at this
end
end
end Go.Ct
namespace Go.Proofs.YtadnboagdhcedaaGreatDoor
section
open Go.RowKit Go.Ct
theorem Gn{h l:Nat}(hh:h<18446744073709551616)(hl:l<=10)(w:World):Calls Tryz.prog 72 #[.int .u64 (h:Int),.int .i64 (l:Int)] w λ e w'=>e=.returned (.int .i64 ((sl h l:Nat):Int))/\St w [] [] w':=by
 have hsl:(h >>> (6*l)) &&& 63<64:=by rw[Y1];exact tV h l
 refine enter Tryz.func72 Tryz.ntmps72 rfl rfl (SF.s0 w) ?_
 simp only[cP]
 refine Ka7 ?_;refine Ec ?_
 (refine Ka4 ?_)
 ((refine aF ?_;refine mT ?_));refine cH ?_;refine aI ?_
 refine aZ (λ c10=>?_) (λ c10=>?_)
 ·try (exfalso;omega)
 ·try (exfalso;omega)
  refine Ag ?_;refine aE (ki (a:=6) (b:=l) rf rf (by omega)) rfl ?_;refine iE ?_;refine aE (sn (i:=6*l) rf rf (by omega)) rfl ?_;refine aE (Qc (b:=63) rf rf (Nat.lt_of_le_of_lt (Nat.shiftRight_le _ _) hh) (by decide)) rfl ?_;refine iE ?_;refine J1 ?_
  refine aQ Tryz.results72 (λ w hw=>?_)
  exact⟨by rw[Y1];rfl,hw.done⟩
theorem oR{h l:Nat}(hh:h<18446744073709551616)(hl:l<=10)(w:World):Calls Tryz.prog 79 #[.int .u64 (h:Int),.int .i64 (l:Int)] w λ e w'=>e=.returned (.int .i64 ((sl h l:Nat):Int))/\St w [] [] w':=by
 refine enter Tryz.func79 Tryz.ntmps79 rfl rfl (SF.s0 w) ?_
 simp only[cP]
 refine Ka7 ?_;refine Ec ?_
 (refine Ka4 ?_)
 refine Kb5 ?_
 refine aZ (λ c10=>?_) (λ c10=>?_)
 ·try (exfalso;omega)
 ·try (exfalso;omega)
  refine oE ?_
  refine eY [0,1,11,12,13,14,15,16] (λ y:Nat=>[(1,.int .i64 ((l-y:Nat):Int)),(0,.int .u64 ((h >>> (6*y):Nat):Int))]) (λ y=>y<=l) (λ y=>l-y) (0) (Nat.zero_le _) ?_ (λ y f hx=>?_)
  ·repeat (first|exact bB _|refine aY (by exact rfl) ?_)
  dsimp only[fY,List.map,List.cons_append,List.nil_append]
  refine kR ?_;refine wE ?_;refine aI ?_
  refine aZ (λ c12=>?_) (λ c12=>?_)
  ·try (exfalso;omega)
   refine oE ?_;refine wS ?_;refine aU (fG (rz (b:=64) rf rf (by decide) (Nat.lt_of_le_of_lt (Nat.shiftRight_le _ _) hh))) (λ x16=>?_);refine J1 ?_;refine eT ?_;refine wS ?_;refine pC ?_;refine J1 ?_
   refine dO (y+1) ?_ ?_ ?_
   ·omega
   ·repeat' (first|exact bB _|refine aY ?_ ?_)
    all_goals (first|exact rfl|(conv=>{lhs;whnf};rw[Iv];done))
   ·omega
  ·try (exfalso;omega)
   refine bI rfl ?_;refine J2 ?_;refine aE (sk (b:=64) rf rf (by decide)) rfl ?_;refine iE ?_;refine J1 ?_
   refine aQ Tryz.results79 (λ w hw=>?_)
   have hy:y=l:=by omega
   subst hy
   exact⟨rfl,hw.done⟩
theorem Kx{h k:Nat}(hh:h<18446744073709551616)(hk:k<18446744073709551616)(w:World):Calls Tryz.prog 173 #[.int .u64 (h:Int),.int .u64 (k:Int)] w λ e w'=>e=.returned (.int .i64 ((jV h k:Nat):Int))/\St w [] [] w':=by
 refine enter Tryz.func173 Tryz.ntmps173 rfl rfl (SF.s0 w) ?_
 simp only[cP]
 refine cQ ?_;refine cQ ?_;refine Eb ?_
 refine eY [5,6,7,8,9,10,11,12,13,14,15,16,17,18] (λ y:Nat=>[(5,.int .i64 ((y:Nat):Int))]) (λ y=>y<=11/\∀i,i<y->sl h i=sl k i) (λ y=>11-y) (0) (⟨Nat.zero_le _,λ i hi=>absurd hi (Nat.not_lt_zero i)⟩) ?_ (λ y f hx=>?_)
 ·repeat (first|exact bB _|refine aY (by exact rfl) ?_)
 dsimp only[fY,List.map,List.cons_append,List.nil_append]
 refine kR ?_;refine Bs ?_;refine aB ?_
 (refine eF 8 (λ g8=>?_) (λ g8=>?_)<;>refine Ka0 ?_)
 all_goals (refine Ka0 ?_;(first|refine aH ?_|(refine aF ?_;refine aU (cV (hc:=λ w1 hw=>oR (l:=y) hh (by omega) w1)) (λ x11=>?_)));refine Ka0 ?_;refine Ka0 ?_;(first|refine aH ?_|(refine aF ?_;refine aU (cV (hc:=λ w1 hw=>oR (l:=y) hk (by omega) w1)) (λ x14=>?_)));refine zH ?_;refine aI ?_)
 all_goals
 refine aZ (λ c16=>?_) (λ c16=>?_)
 ·try exact nv c16
  all_goals (refine bA ?_;refine bW ?_;refine Ab ?_;refine eT ?_)
  all_goals
   refine dO (y+1) ?_ ?_ ?_
   ·omega
   ·repeat' (first|exact bB _|refine aY ?_ ?_)
    exact rfl
   ·exact⟨by omega,λ i hi=>by rcases Nat.lt_succ_iff_lt_or_eq.1 hi with h|rfl;exact hx.2 i h;omega⟩
 ·all_goals try (exfalso;omega)
  all_goals (refine bI rfl ?_;refine Ka6 ?_)
  all_goals
   refine aQ Tryz.results173 (λ w hw=>?_)
   exact⟨by rw[<- vx (h:=h) (k:=k) hx.1 hx.2 (λ _=>by omega)];rfl,hw.done⟩
end

end Go.Proofs.YtadnboagdhcedaaGreatDoor

/- States are compared. -/
import Derived.Test.YtadnboagdhcedaaGreatDoorGAr7
import Derived.Test.YtadnboagdhcedaaGreatDoorGGa
import Derived.Test.YtadnboagdhcedaaGreatDoorGBr2
import Derived.Test.YtadnboagdhcedaaGreatDoorGBits

set_option linter.unusedSimpArgs false
set_option linter.unusedVariables false
namespace Go.Ct
section
theorem wy{L1 L2:List aK}(h:L1.length=L2.length):L1.map aK.c=L2.map aK.c↔∀i,i<L1.length->(L1.getD i aK.zero).c=(L2.getD i aK.zero).c:=by
 constructor
 ·intro e i hi
  have h1:(L1.map aK.c)[i]?=(L2.map aK.c)[i]?:=by rw[e]
  rw[List.getElem?_map,List.getElem?_map,List.getElem?_eq_getElem hi,List.getElem?_eq_getElem (h▸hi)] at h1
  rw[fQ,fQ,List.getElem?_eq_getElem hi,List.getElem?_eq_getElem (h▸hi)]
  simpa using h1
 ·intro e
  refine List.ext_getElem? λ i=>?_
  rw[List.getElem?_map,List.getElem?_map]
  by_cases hi:i<L1.length
  ·have h1:=e i hi
   rw[fQ,fQ,List.getElem?_eq_getElem hi,List.getElem?_eq_getElem (h▸hi)] at h1
   rw[List.getElem?_eq_getElem hi,List.getElem?_eq_getElem (h▸hi)]
   simpa using h1
  ·rw[List.getElem?_eq_none (by omega),List.getElem?_eq_none (by omega)]
end
end Go.Ct
namespace Go.Proofs.YtadnboagdhcedaaGreatDoor
section
open Go.RowKit Go.Ct
end

/- Proper states, by what their nodes hold. -/
end Go.Proofs.YtadnboagdhcedaaGreatDoor
namespace Go.Ct
section
def Nv.nd(v:Nv):Nd:=⟨v.kind,v.gen,v.main,v.bm,none,v.xs.length,0,v.hash,v.key,v.val,none,v.ys.length,0,v.prev,v.bL,v.exp,v.new,v.status⟩
def Nv.dv(v:Nv):aK:=⟨v.nd,v.xs,v.ys⟩
theorem Nv.zh(v:Nv):v.dv.c=v:=rfl
theorem ov(N:List Nv):(N.map Nv.dv).map aK.c=N:=by
 rw[List.map_map]
 exact(List.map_congr_left (λ v _=>Nv.zh v)).trans (List.map_id N)
theorem Iu{n:Nd}{xs:List Int}{ys:List Pr}:bY n xs ys↔bY (n.c xs ys).nd xs ys:=by
 have e:oU n n.own xs (n.fI xs) ys (n.eZ ys)↔oU (n.c xs ys).nd (n.c xs ys).nd.own xs ((n.c xs ys).nd.fI xs) ys ((n.c xs ys).nd.eZ ys):=by
  rw[wD,wD]
  have e1:n.own.c (n.fI xs) (n.eZ ys)=(n.c xs ys).nd.own.c ((n.c xs ys).nd.fI xs) ((n.c xs ys).nd.eZ ys):=by
   have hx:(n.c xs ys).nd.fI xs=n.fI xs:=rfl
   have hy:(n.c xs ys).nd.eZ ys=n.eZ ys:=rfl
   have hk:(n.c xs ys).nd.kind=n.kind:=rfl
   rw[hx,hy]
   unfold Nd.own
   rw[hk]
   repeat' split
   all_goals rfl
  rw[e1]
  exact Iff.rfl
 unfold bY
 rw[e]
 exact Iff.rfl
theorem qn{gen:Int}{n:Nat}{u v:aK}(h:u.c=v.c)(hu:lE gen n u):lE gen n v:=by
 have key:∀v:aK,lE gen n v↔lE gen n v.c.dv:=λ v=>by
  unfold lE
  rw[Iu (n:=v.nd)]
  exact Iff.rfl
 rw[key,<- h,<- key]
 exact hu
theorem ab{m:Nat}{L1 L2:List aK}(h:L1.map aK.c=L2.map aK.c):marks m L1=marks m L2:=by
 have key:∀L:List aK,marks m L=(L.map aK.c).foldl (λ u c=>eJ u c.nd) (some (List.replicate m false)):=λ L=>by
  unfold marks
  rw[List.foldl_map]
  rfl
 rw[key,key,h]
theorem Tu{L1 L2:List aK}{cs:List Int}{gen:Int}(h:L1.map aK.c=L2.map aK.c)(hp:dH L1 cs gen):dH L2 cs gen:=by
 have hl:L1.length=L2.length:=by simpa using congrArg List.length h
 have hi:=(wy hl).1 h
 have h2:=hp.two
 refine⟨by omega,hp.gen0,?_,?_,λ i h=>by have:=hp.cells i h;rwa [hl] at this,λ i h=>?_,by rw[<- ab h];exact hp.marks⟩
 ·have:=congrArg Nv.kind (hi 0 (by omega))
  exact this.symm.trans hp.m0
 ·have:=congrArg Nv.kind (hi 1 (by omega))
  exact this.symm.trans hp.m1
 ·have:=hp.nodes i (by omega)
  rw[<- hl]
  exact qn (hi i (by omega)) this
def dX(N:List Nv)(cs:List Int)(gen:Int):Prop:=dH (N.map Nv.dv) cs gen
theorem dX.to{N:List Nv}{cs:List Int}{gen:Int}(h:dX N cs gen){L:List aK}(hl:L.map aK.c=N):dH L cs gen:=Tu (by rw[ov,hl]) h
theorem dX.push{N:List Nv}{cs:List Int}{gen init:Int}{n:Nv}(h:dX N cs gen)(hv:lE gen (N.length+1) (cO n cs.length).dv)(hi:C9 init N.length):dX (N++[cO n cs.length]) (fZ n.kind cs init) gen:=by
 have hm:(N.map Nv.dv).length=N.length:=by simp
 have:=Lt (v:=(cO n cs.length).dv) (k:=n.kind) (init:=init) h (by rw[hm];exact hv) (by rw[hm];exact hi) (by
  have e:(cO n cs.length).dv.nd.kind=n.kind:=rfl
  unfold gD fZ
  rw[e]
  by_cases h2:n.kind=2
  ·right
   rw[if_pos h2,if_pos (.inl h2)]
   exact⟨by show some (if n.kind=2 then _ else _)=_;rw[if_pos h2],rfl⟩
  rw[if_neg h2]
  by_cases h3:n.kind=3∨n.kind=5∨n.kind=6
  ·right
   rw[if_pos h3,if_pos (by omega)]
   exact⟨by show some (if n.kind=3∨n.kind=5∨n.kind=6 then _ else _)=_;rw[if_pos h3],rfl⟩
  rw[if_neg h3]
  by_cases h8:n.kind=8
  ·right
   rw[if_pos h8,if_pos (by omega)]
   exact⟨by show some (if n.kind=8 then _ else _)=_;rw[if_pos h8],rfl⟩
  ·left
   rw[if_neg h8,if_neg (by omega)]
   exact⟨rfl,rfl⟩)
 unfold dX
 rw[List.map_append]
 exact this
theorem dX.cell{N:List Nv}{cs:List Int}{gen init:Int}(h:dX N cs gen)(hi:C9 init N.length):dX N (cs++[init]) gen:=by
 have hm:(N.map Nv.dv).length=N.length:=by simp
 refine⟨h.two,h.gen0,h.m0,h.m1,λ i hi'=>?_,h.nodes,?_⟩
 ·rw[fQ]
  rw[List.length_append,List.length_cons,List.length_nil] at hi'
  by_cases hl:i<cs.length
  ·rw[List.getElem?_append_left hl,<- fQ]
   exact h.cells i hl
  ·rw[List.getElem?_append_right (by omega),show i-cs.length=0 by omega,hm]
   exact hi
 ·have key:∀(l:List aK) (m:Nat) (u:List Bool),l.foldl (λ u v=>eJ u v.nd) (some u)≠none->l.foldl (λ u v=>eJ u v.nd) (some (u++[false]))≠none:=by
   intro l
   induction l with
   | nil=>intro _ u _ h;cases h
   | cons v l ih =>
    intro m u hu
    rw[List.foldl_cons] at hu ⊢
    have hnone:∀l:List aK,l.foldl (λ u v=>eJ u v.nd) none=none:=λ l=>by
     induction l with
     | nil=>rfl
     | cons v l ih=>exact ih
    cases hc:gD v.nd with
    | none =>
     rw[show eJ (some u) v.nd=some u by simp[eJ,hc]] at hu
     rw[show eJ (some (u++[false])) v.nd=some (u++[false]) by simp[eJ,hc]]
     exact ih m u hu
    | some c =>
     by_cases hc3:1<=c/\c<=u.length/\u.getD (c-1).toNat false=false
     ·obtain⟨c1,c2,c3⟩:=hc3
      have hlt:(c-1).toNat<u.length:=by omega
      have e1:(u++[false]).getD (c-1).toNat false=u.getD (c-1).toNat false:=by
       rw[fQ,fQ,List.getElem?_append_left hlt]
      have e2:eJ (some u) v.nd=some (u.set (c-1).toNat true):=by
       show(match gD v.nd with|none=>_|some c=>_)=_
       rw[hc]
       exact if_pos ⟨c1,c2,c3⟩
      have e3:eJ (some (u++[false])) v.nd=some (u.set (c-1).toNat true++[false]):=by
       show(match gD v.nd with|none=>_|some c=>_)=_
       rw[hc,<- List.set_append_left _ _ hlt]
       exact if_pos ⟨c1,by rw[List.length_append,List.length_cons,List.length_nil];omega,by rw[e1];exact c3⟩
      rw[e2] at hu
      rw[e3]
      exact ih m _ hu
     ·have e2:eJ (some u) v.nd=none:=by
       show(match gD v.nd with|none=>_|some c=>_)=_
       rw[hc]
       exact if_neg hc3
      rw[e2,hnone] at hu
      exact absurd rfl hu
  have:=key (N.map Nv.dv) 0 (List.replicate cs.length false) h.marks
  unfold marks
  rw[List.length_append,List.length_cons,List.length_nil,List.replicate_succ']
  exact this
end

/- Nodes by what they hold: what the reference's functions on nodes give. -/
end Go.Ct
namespace Go.Proofs.YtadnboagdhcedaaGreatDoor
section
open Go.RowKit Go.Ct
theorem vv{n:Nd}{xs:List Int}{ys:List Pr}:CV n xs ys↔CV (n.c xs ys).nd xs ys:=by
 unfold CV
 rw[Iu (n:=n)]
 exact Iff.rfl
theorem yu{n:Nd}{xs:List Int}{ys:List Pr}:LV n xs ys↔LV (n.c xs ys).nd xs ys:=by
 unfold LV
 rw[Iu (n:=n)]
 exact Iff.rfl
theorem Zc{n:Nd}{xs:List Int}{ys:List Pr}:CV (n.c xs ys).nd (n.c xs ys).xs (n.c xs ys).ys=CV n xs ys:=propext vv.symm
theorem xb{n:Nd}{xs:List Int}{ys:List Pr}:LV (n.c xs ys).nd (n.c xs ys).xs (n.c xs ys).ys=LV n xs ys:=propext yu.symm
def Ax(b:Nat)(xs:List Int):Nv:=(cn b xs (none,0)).c xs []
def jF(v:Nv)(i:Int):Option Int:=G6 v.nd v.xs v.ys v.bm.toNat i
def Iq(v:Nv):Option Int:=Vj v.nd v.xs v.ys
def Er(o:Option (Nat×List Int)):Nv:=match o with|some q=>Ax q.1 q.2|none=>Nv.zero
def qe(v:Nv)(i r:Int):Nv:=Er (Zy v.nd v.xs v.ys v.bm.toNat i r)
def Np(v:Nv)(i r:Int):Nv:=Er (Zz v.nd v.xs v.ys v.bm.toNat i r)
def I9(v:Nv)(i:Int):Nv:=Er (Z0 v.nd v.xs v.ys v.bm.toNat i)
def zr(s:Nv):Nv:=(tmb s.nd).c [] []
def oy(v:Nv)(level:Int)(s:Nv):Nv:=if M5 v.nd v.xs v.ys level s.nd=true then zr s else v
def sr(v:Nv):Nv:=(Eb v.nd).c [] []
def ox(v:Nv)(k:ByteArray)(u:Int):Nv:=(Uw (jI v.nd v.xs v.ys k u) v.hash (none,0)).c [] (Ug (jI v.nd v.xs v.ys k u))
def cf(v:Nv)(k:ByteArray):Nv:=(Ja (nY v.nd v.xs v.ys k) v.hash (none,0)).c [] (Ej (nY v.nd v.xs v.ys k))
section
variable{n s:Nd}{xs:List Int}{ys:List Pr}{b:Nat}
theorem ti(hb:n.bm=(b:Int))(i:Int):G6 n xs ys b i=jF (n.c xs ys) i:=by
 have e:(n.c xs ys).bm.toNat=b:=by show n.bm.toNat=b;omega
 unfold jF G6
 rw[e]
 simp only[Zc (n:=n)]
 try rfl
theorem n9:Vj n xs ys=Iq (n.c xs ys):=by
 unfold Iq Vj
 simp only[Zc (n:=n)]
 try rfl
theorem Dd(o:Option (Nat×List Int))(x:Option Addr×Nat):(kW o x).c (kE o) []=Er o:=by cases o<;>rfl
theorem yv(hb:n.bm=(b:Int))(i r:Int):Er (Zy n xs ys b i r)=qe (n.c xs ys) i r:=by
 have e:(n.c xs ys).bm.toNat=b:=by show n.bm.toNat=b;omega
 unfold qe Zy
 rw[e]
 simp only[Zc (n:=n)]
 try rfl
theorem v5(hb:n.bm=(b:Int))(i r:Int):Er (Zz n xs ys b i r)=Np (n.c xs ys) i r:=by
 have e:(n.c xs ys).bm.toNat=b:=by show n.bm.toNat=b;omega
 unfold Np Zz
 rw[e]
 simp only[Zc (n:=n)]
 try rfl
theorem uk(hb:n.bm=(b:Int))(i:Int):Er (Z0 n xs ys b i)=I9 (n.c xs ys) i:=by
 have e:(n.c xs ys).bm.toNat=b:=by show n.bm.toNat=b;omega
 unfold I9 Z0
 rw[e]
 simp only[Zc (n:=n)]
 try rfl
theorem zg(level:Int):(j4 (M5 n xs ys level s) n s).c (Z2 (M5 n xs ys level s) xs) (Z2 (M5 n xs ys level s) ys)=oy (n.c xs ys) level (s.c [] []):=by
 have e:M5 (n.c xs ys).nd xs ys level (s.c [] []).nd=M5 n xs ys level s:=by
  unfold M5
  rw[n9 (n:=n)]
  rfl
 have e':M5 (n.c xs ys).nd (n.c xs ys).xs (n.c xs ys).ys level (s.c [] []).nd=M5 n xs ys level s:=e
 unfold oy j4 Z2
 rw[e']
 split<;>rfl
theorem wi:(Eb n).c [] []=sr (n.c xs ys):=by
 unfold sr Eb
 show _=Nd.c (if n.kind=5 then _ else _) _ _
 split<;>rfl
theorem zi(k:ByteArray)(u:Int)(x:Option Addr×Nat):(Uw (jI n xs ys k u) n.hash x).c [] (Ug (jI n xs ys k u))=ox (n.c xs ys) k u:=by
 have e':jI (n.c xs ys).nd (n.c xs ys).xs (n.c xs ys).ys k u=jI n xs ys k u:=by unfold jI;simp only[xb (n:=n)];try rfl
 unfold ox
 rw[e']
 cases jI n xs ys k u<;>rfl
theorem zb(k:ByteArray)(x:Option Addr×Nat):(Ja (nY n xs ys k) n.hash x).c [] (Ej (nY n xs ys k))=cf (n.c xs ys) k:=by
 have e':nY (n.c xs ys).nd (n.c xs ys).xs (n.c xs ys).ys k=nY n xs ys k:=by unfold nY;simp only[xb (n:=n)];try rfl
 unfold cf
 rw[e']
 cases nY n xs ys k with
 | none=>rfl
 | some m=>unfold Ja;simp only[Ej];split<;>rfl
end
end

/- Hash values: their slices, and how many two of them share. -/
end Go.Proofs.YtadnboagdhcedaaGreatDoor
namespace Go.Ct
section
open Go Go.RowKit
def sl(h l:Nat):Nat:=(h >>> (6*l))%64
theorem tM(h l:Nat):sl h l<64:=Nat.mod_lt _ (by decide)
theorem X9(h l:Nat):(h >>> (6*l)) &&& 63=sl h l:=Nat.and_two_pow_sub_one_eq_mod _ 6
theorem I7(h j:Nat):(h >>> (6*j))/64=h >>> (6*(j+1)):=by
 rw[show 6*(j+1)=6*j+6 by omega,Nat.shiftRight_add,Nat.shiftRight_eq_div_pow (h >>> (6*j)) 6]
def Bt(h k:Nat):Nat->Nat->Nat
 | 0,l=>l
 | n+1,l=>if sl h l=sl k l then Bt h k n (l+1) else l
def jM(h k:Nat):Nat:=Bt h k 11 0
theorem uH(h k:Nat):∀n l,l<=Bt h k n l/\Bt h k n l<=l+n/\(∀i,l<=i->i<Bt h k n l->sl h i=sl k i)/\(Bt h k n l<l+n->sl h (Bt h k n l)≠sl k (Bt h k n l))
 | 0,l=>⟨Nat.le_refl _,Nat.le_refl _,λ i h1 h2=>absurd h2 (by simp only[Bt];omega),λ h=>absurd h (by simp only[Bt];omega)⟩
 | n+1,l=>by
  simp only[Bt]
  split
  ·rename_i he
   obtain⟨h1,h2,h3,h4⟩:=uH h k n (l+1)
   refine⟨by omega,by omega,λ i hi hi2=>?_,λ hlt=>h4 (by omega)⟩
   rcases Nat.lt_or_eq_of_le hi with hi|rfl
   ·exact h3 i (by omega) hi2
   ·exact he
  ·rename_i he
   exact⟨Nat.le_refl _,by omega,λ i h1 h2=>absurd h2 (by omega),λ _=>he⟩
theorem vY(h k:Nat):jM h k<=11:=by have:=(uH h k 11 0).2.1;unfold jM;omega
theorem Mk{h k i:Nat}(hi:i<jM h k):sl h i=sl k i:=(uH h k 11 0).2.2.1 i (Nat.zero_le _) hi
theorem Ig{h k:Nat}(hc:jM h k<11):sl h (jM h k)≠sl k (jM h k):=(uH h k 11 0).2.2.2 (by unfold jM at hc;omega)
theorem mz{h k l:Nat}(hl:l<=11)(h1:∀i,i<l->sl h i=sl k i)(h2:l<11->sl h l≠sl k l):l=jM h k:=by
 rcases Nat.lt_trichotomy l (jM h k) with h3|h3|h3
 ·exact absurd (Mk h3) (h2 (by have:=vY h k;omega))
 ·exact h3
 ·exact absurd (h1 _ h3) (Ig (by omega))
theorem ph{P:Program}{S:List (Nat×Value)}{G:World->Prop}{d:Nat}{ty t t':TypeId}{pos:String}{af:Array Edge}{gd:Option (Nat×Bool)}{x y:Operand}{a b:Nat}(hx:ev S x=.int .u64 (a:Int))(hy:ev S y=.int .u64 (b:Int))(h0:b≠0)(ha:a<18446744073709551616):aJ P S G ⟨some d,.binOp .quo t x y t',ty,pos,af,gd⟩ (.int .u64 ((a/b:Nat):Int)):=⟨λ w _=>by
 have h1:((b:Nat):Int)≠0:=by omega
 have h2:(a:Int).tdiv (b:Int)=((a/b:Nat):Int):=by rw[Int.tdiv_eq_ediv_of_nonneg (by omega)];rfl
 have h3:IntKind.u64.wrap ((a/b:Nat):Int)=((a/b:Nat):Int):=by
  have h4:=Nat.div_le_self a b
  generalize a/b=q at h4 ⊢
  rw[wrap_u64]
  omega
 simp only[execOp,hx,hy,eqGuard_at_int,binOp,Op.intDiv]
 simp[h0,h2]
 exact h3⟩
section
variable{P:Program}{S:List (Nat×Value)}{G:World->Prop}{d:Nat}{ty t t':TypeId}{pos:String}{af:Array Edge}{gd:Option (Nat×Bool)}{x y:Operand}{a b i:Nat}{k':IntKind}
theorem jg(hx:ev S x=.int .i64 (a:Int))(hy:ev S y=.int .i64 (b:Int))(h:a*b<=9223372036854775807):aJ P S G ⟨some d,.binOp .mul t x y t',ty,pos,af,gd⟩ (.int .i64 ((a*b:Nat):Int)):=by
 have:=W6 (P:=P) (G:=G) (d:=d) (ty:=ty) (pos:=pos) (af:=af) (gd:=gd) (t:=t) (t':=t') hx hy
 rw[<- Int.natCast_mul,wrap_i64 (by omega) (by omega)] at this
 exact this
theorem ow(hx:ev S x=.int .u64 (a:Int))(hy:ev S y=.int k' (i:Int))(h:i<=64):aJ P S G ⟨some d,.binOp .shr t x y t',ty,pos,af,gd⟩ (.int .u64 ((a >>> i:Nat):Int)):=by
 have:=li (P:=P) (G:=G) (d:=d) (ty:=ty) (pos:=pos) (af:=af) (gd:=gd) (t:=t) (t':=t') hx hy (by omega)
 rwa [kP h] at this
theorem My(hx:ev S x=.int .u64 (a:Int))(hy:ev S y=.int .u64 (b:Int))(ha:a<18446744073709551616)(hb:b<18446744073709551616):aJ P S G ⟨some d,.binOp .and t x y t',ty,pos,af,gd⟩ (.int .u64 ((a &&& b:Nat):Int)):=by
 have:=ln (P:=P) (G:=G) (d:=d) (ty:=ty) (pos:=pos) (af:=af) (gd:=gd) (t:=t) (t':=t') hx hy
 rwa [kC ha hb] at this
theorem q0(hx:ev S x=.int .u64 (a:Int))(hy:ev S y=.int .u64 (b:Int))(h0:b≠0):aJ P S G ⟨some d,.binOp .rem t x y t',ty,pos,af,gd⟩ (.int .u64 ((a%b:Nat):Int)):=by
 have:=xc (P:=P) (G:=G) (d:=d) (ty:=ty) (pos:=pos) (af:=af) (gd:=gd) (t:=t) (t':=t') hx hy (by omega)
 rwa [Int.tmod_eq_emod_of_nonneg (by omega),<- Int.natCast_emod] at this
end
end
end Go.Ct
namespace Go.Proofs.YtadnboagdhcedaaGreatDoor
section
open Go.RowKit Go.Ct
theorem F8{h l:Nat}(hh:h<18446744073709551616)(hl:l<=10)(w:World):Calls Tryz.prog 72 #[.int .u64 (h:Int),.int .i64 (l:Int)] w λ e w'=>e=.returned (.int .i64 ((sl h l:Nat):Int))/\St w [] [] w':=by
 have hsl:(h >>> (6*l)) &&& 63<64:=by rw[X9];exact tM h l
 refine enter Tryz.func72 Tryz.ntmps72 rfl rfl (SF.s0 w) ?_
 simp only[cR]
 refine Ka7 ?_;refine Gq ?_
 (refine Ka3 ?_)
 ((refine aF ?_;refine lU ?_));refine cU ?_;refine aI ?_
 refine aZ (λ c10=>?_) (λ c10=>?_)
 ·try (exfalso;omega)
 ·try (exfalso;omega)
  refine yT ?_;refine aE (jg (a:=6) (b:=l) rf rf (by omega)) rfl ?_;refine lJ ?_;refine aE (ow (i:=6*l) rf rf (by omega)) rfl ?_;refine aE (My (b:=63) rf rf (Nat.lt_of_le_of_lt (Nat.shiftRight_le _ _) hh) (by decide)) rfl ?_;refine lJ ?_;refine J1 ?_
  refine aN Tryz.results72 (λ w hw=>?_)
  exact⟨by rw[X9];rfl,hw.done⟩
theorem oF{h l:Nat}(hh:h<18446744073709551616)(hl:l<=10)(w:World):Calls Tryz.prog 79 #[.int .u64 (h:Int),.int .i64 (l:Int)] w λ e w'=>e=.returned (.int .i64 ((sl h l:Nat):Int))/\St w [] [] w':=by
 refine enter Tryz.func79 Tryz.ntmps79 rfl rfl (SF.s0 w) ?_
 simp only[cR]
 refine Ka7 ?_;refine Gq ?_
 (refine Ka3 ?_)
 refine Kc1 ?_
 refine aZ (λ c10=>?_) (λ c10=>?_)
 ·try (exfalso;omega)
 ·try (exfalso;omega)
  refine oW ?_
  refine eS [0,1,11,12,13,14,15,16] (λ y:Nat=>[(1,.int .i64 ((l-y:Nat):Int)),(0,.int .u64 ((h >>> (6*y):Nat):Int))]) (λ y=>y<=l) (λ y=>l-y) (0) (Nat.zero_le _) ?_ (λ y f hx=>?_)
  ·repeat (first|exact bB _|refine aW (by exact rfl) ?_)
  dsimp only[gG,List.map,List.cons_append,List.nil_append]
  refine kT ?_;refine As ?_;refine aI ?_
  refine aZ (λ c12=>?_) (λ c12=>?_)
  ·try (exfalso;omega)
   refine oW ?_;refine yB ?_;refine aR (eY (ph (b:=64) rf rf (by decide) (Nat.lt_of_le_of_lt (Nat.shiftRight_le _ _) hh))) (λ x16=>?_);refine J1 ?_;refine eV ?_;refine yB ?_;refine oP ?_;refine J1 ?_
   refine dJ (y+1) ?_ ?_ ?_
   ·omega
   ·repeat' (first|exact bB _|refine aW ?_ ?_)
    all_goals (first|exact rfl|(conv=>{lhs;whnf};rw[I7];done))
   ·omega
  ·try (exfalso;omega)
   refine bG rfl ?_;refine J2 ?_;refine aE (q0 (b:=64) rf rf (by decide)) rfl ?_;refine lJ ?_;refine J1 ?_
   refine aN Tryz.results79 (λ w hw=>?_)
   have hy:y=l:=by omega
   subst hy
   exact⟨rfl,hw.done⟩
theorem K4{h k:Nat}(hh:h<18446744073709551616)(hk:k<18446744073709551616)(w:World):Calls Tryz.prog 173 #[.int .u64 (h:Int),.int .u64 (k:Int)] w λ e w'=>e=.returned (.int .i64 ((jM h k:Nat):Int))/\St w [] [] w':=by
 refine enter Tryz.func173 Tryz.ntmps173 rfl rfl (SF.s0 w) ?_
 simp only[cR]
 refine cN ?_;refine cN ?_;refine Cc ?_
 refine eS [5,6,7,8,9,10,11,12,13,14,15,16,17,18] (λ y:Nat=>[(5,.int .i64 ((y:Nat):Int))]) (λ y=>y<=11/\∀i,i<y->sl h i=sl k i) (λ y=>11-y) (0) (⟨Nat.zero_le _,λ i hi=>absurd hi (Nat.not_lt_zero i)⟩) ?_ (λ y f hx=>?_)
 ·repeat (first|exact bB _|refine aW (by exact rfl) ?_)
 dsimp only[gG,List.map,List.cons_append,List.nil_append]
 refine kT ?_;refine Ao ?_;refine aB ?_
 (refine eR 8 (λ g8=>?_) (λ g8=>?_)<;>refine Ka1 ?_)
 all_goals (refine Ka1 ?_;(first|refine aH ?_|(refine aF ?_;refine aR (cV (hc:=λ w1 hw=>oF (l:=y) hh (by omega) w1)) (λ x11=>?_)));refine Ka1 ?_;refine Ka1 ?_;(first|refine aH ?_|(refine aF ?_;refine aR (cV (hc:=λ w1 hw=>oF (l:=y) hk (by omega) w1)) (λ x14=>?_)));refine wQ ?_;refine aI ?_)
 all_goals
 refine aZ (λ c16=>?_) (λ c16=>?_)
 ·try exact nv c16
  all_goals (refine bA ?_;refine bV ?_;refine Ba ?_;refine eV ?_)
  all_goals
   refine dJ (y+1) ?_ ?_ ?_
   ·omega
   ·repeat' (first|exact bB _|refine aW ?_ ?_)
    exact rfl
   ·exact⟨by omega,λ i hi=>by rcases Nat.lt_succ_iff_lt_or_eq.1 hi with h|rfl;exact hx.2 i h;omega⟩
 ·all_goals try (exfalso;omega)
  all_goals (refine bG rfl ?_;refine Ka6 ?_)
  all_goals
   refine aN Tryz.results173 (λ w hw=>?_)
   exact⟨by rw[<- mz (h:=h) (k:=k) hx.1 hx.2 (λ _=>by omega)];rfl,hw.done⟩
end

end Go.Proofs.YtadnboagdhcedaaGreatDoor

/- The contents of a trie in a state: what is computed. -/
import Derived.Test.YtbajmaoegmbfgaaGreatGArH
import Derived.Test.YtbajmaoegmbfgaaGreatGAr9
import Derived.Test.YtbajmaoegmbfgaaGreatGBr2
import Derived.Test.YtbajmaoegmbfgaaGreatGPaX

set_option linter.unusedSimpArgs false
set_option linter.unusedVariables false
namespace Go.Ct
section
def eV(n:Nv):Prop:=n.kind=3∨n.kind=5∨n.kind=6
instance (n:Nv):Decidable (eV n):=by unfold eV;exact inferInstance
theorem fY{N:List Nv}{i:Int}(h:(fV N i).kind≠0):1<=i/\i<=N.length:=by
 unfold fV at h
 split at h
 ·assumption
 ·exact absurd rfl h
end

/- Proper states, by what their nodes hold. -/
section
def Nv.nd(v:Nv):Nd:=⟨v.kind,v.gen,v.main,v.bm,none,v.xs.length,0,v.hash,v.key,v.val,none,v.ys.length,0,v.prev,v.bF,v.exp,v.new,v.status⟩
def Nv.dv(v:Nv):aX:=⟨v.nd,v.xs,v.ys⟩
theorem Nv.aAD(v:Nv):v.dv.c=v:=rfl
theorem sc(N:List Nv):(N.map Nv.dv).map aX.c=N:=by
 rw[List.map_map]
 exact(List.map_congr_left (λ v _=>Nv.aAD v)).trans (List.map_id N)
theorem Ld{n:Nd}{xs:List Int}{ys:List Pr}:bI n xs ys↔bI (n.c xs ys).nd xs ys:=by
 have e:rP n n.own xs (n.kA xs) ys (n.jK ys)↔rP (n.c xs ys).nd (n.c xs ys).nd.own xs ((n.c xs ys).nd.kA xs) ys ((n.c xs ys).nd.jK ys):=by
  rw[vK,vK]
  have e1:n.own.c (n.kA xs) (n.jK ys)=(n.c xs ys).nd.own.c ((n.c xs ys).nd.kA xs) ((n.c xs ys).nd.jK ys):=by
   have hx:(n.c xs ys).nd.kA xs=n.kA xs:=rfl
   have hy:(n.c xs ys).nd.jK ys=n.jK ys:=rfl
   have hk:(n.c xs ys).nd.kind=n.kind:=rfl
   rw[hx,hy]
   unfold Nd.own
   rw[hk]
   repeat' split
   all_goals first|rfl|contradiction
  rw[e1]
  exact Iff.rfl
 unfold bI
 rw[e]
 exact Iff.rfl
theorem uy{gen:Int}{n:Nat}{u v:aX}(h:u.c=v.c)(hu:nQ gen n u):nQ gen n v:=by
 have key:∀v:aX,nQ gen n v↔nQ gen n v.c.dv:=λ v=>by
  unfold nQ
  rw[Ld (n:=v.nd)]
  exact Iff.rfl
 rw[key,<- h,<- key]
 exact hu
theorem nj{m:Nat}{L1 L2:List aX}(h:L1.map aX.c=L2.map aX.c):marks m L1=marks m L2:=by
 have key:∀L:List aX,marks m L=(L.map aX.c).foldl (λ u c=>gD u c.nd) (some (List.replicate m false)):=λ L=>by
  unfold marks
  rw[List.foldl_map]
  rfl
 rw[key,key,h]
theorem Vm{L1 L2:List aX}{cs:List Int}{gen:Int}(h:L1.map aX.c=L2.map aX.c)(hp:mD L1 cs gen):mD L2 cs gen:=by
 have hl:L1.length=L2.length:=by simpa using congrArg List.length h
 have hi:=(Yf hl).1 h
 have h2:=hp.two
 refine⟨by omega,hp.gen0,?_,?_,λ i h=>by have:=hp.cells i h;rwa [hl] at this,λ i h=>?_,by rw[<- nj h];exact hp.marks⟩
 ·have:=congrArg Nv.kind (hi 0 (by omega))
  exact this.symm.trans hp.m0
 ·have:=congrArg Nv.kind (hi 1 (by omega))
  exact this.symm.trans hp.m1
 ·have:=hp.nodes i (by omega)
  rw[<- hl]
  exact uy (hi i (by omega)) this
def gP(N:List Nv)(cs:List Int)(gen:Int):Prop:=mD (N.map Nv.dv) cs gen
theorem gP.to{N:List Nv}{cs:List Int}{gen:Int}(h:gP N cs gen){L:List aX}(hl:L.map aX.c=N):mD L cs gen:=Vm (by rw[sc,hl]) h
theorem gP.push{N:List Nv}{cs:List Int}{gen init:Int}{n:Nv}(h:gP N cs gen)(hv:nQ gen (N.length+1) (eS n cs.length).dv)(hi:F6 init N.length):gP (N++[eS n cs.length]) (cY n.kind cs init) gen:=by
 have hm:(N.map Nv.dv).length=N.length:=by simp
 have:=M6 (v:=(eS n cs.length).dv) (k:=n.kind) (init:=init) h (by rw[hm];exact hv) (by rw[hm];exact hi) (by
  have e:(eS n cs.length).dv.nd.kind=n.kind:=rfl
  unfold eP cY
  rw[e]
  by_cases h2:n.kind=2
  ·right
   rw[if_pos h2,if_pos (.inl h2)]
   exact⟨by show some (if n.kind=2 then _ else _)=_;rw[if_pos h2],rfl⟩
  rw[if_neg h2]
  by_cases h3:n.kind=3∨n.kind=5∨n.kind=6
  ·right
   rw[if_pos h3,if_pos (by omega)]
   exact⟨by show some (if n.kind=3∨n.kind=5∨n.kind=6 then _ else _)=_;rw[if_pos h3],rfl⟩
  rw[if_neg h3]
  by_cases h8:n.kind=8
  ·right
   rw[if_pos h8,if_pos (by omega)]
   exact⟨by show some (if n.kind=8 then _ else _)=_;rw[if_pos h8],rfl⟩
  ·left
   rw[if_neg h8,if_neg (by omega)]
   exact⟨rfl,rfl⟩)
 unfold gP
 rw[List.map_append]
 exact this
theorem gP.cell{N:List Nv}{cs:List Int}{gen init:Int}(h:gP N cs gen)(hi:F6 init N.length):gP N (cs++[init]) gen:=by
 have hm:(N.map Nv.dv).length=N.length:=by simp
 refine⟨h.two,h.gen0,h.m0,h.m1,λ i hi'=>?_,h.nodes,?_⟩
 ·rw[lB]
  rw[List.length_append,List.length_cons,List.length_nil] at hi'
  by_cases hl:i<cs.length
  ·rw[List.getElem?_append_left hl,<- lB]
   exact h.cells i hl
  ·rw[List.getElem?_append_right (by omega),show i-cs.length=0 by omega,hm]
   exact hi
 ·have key:∀(l:List aX) (m:Nat) (u:List Bool),l.foldl (λ u v=>gD u v.nd) (some u)≠none->l.foldl (λ u v=>gD u v.nd) (some (u++[false]))≠none:=by
   intro l
   induction l with
   | nil=>intro _ u _ h;cases h
   | cons v l ih =>
    intro m u hu
    rw[List.foldl_cons] at hu ⊢
    have hnone:∀l:List aX,l.foldl (λ u v=>gD u v.nd) none=none:=λ l=>by
     induction l with
     | nil=>rfl
     | cons v l ih=>exact ih
    cases hc:eP v.nd with
    | none =>
     rw[show gD (some u) v.nd=some u by simp[gD,hc]] at hu
     rw[show gD (some (u++[false])) v.nd=some (u++[false]) by simp[gD,hc]]
     exact ih m u hu
    | some c =>
     by_cases hc3:1<=c/\c<=u.length/\u.getD (c-1).toNat false=false
     ·obtain⟨c1,c2,c3⟩:=hc3
      have hlt:(c-1).toNat<u.length:=by omega
      have e1:(u++[false]).getD (c-1).toNat false=u.getD (c-1).toNat false:=by
       rw[lB,lB,List.getElem?_append_left hlt]
      have e2:gD (some u) v.nd=some (u.set (c-1).toNat true):=by
       show(match eP v.nd with|none=>_|some c=>_)=_
       rw[hc]
       exact if_pos ⟨c1,c2,c3⟩
      have e3:gD (some (u++[false])) v.nd=some (u.set (c-1).toNat true++[false]):=by
       show(match eP v.nd with|none=>_|some c=>_)=_
       rw[hc,<- List.set_append_left _ _ hlt]
       exact if_pos ⟨c1,by rw[List.length_append,List.length_cons,List.length_nil];omega,by rw[e1];exact c3⟩
      rw[e2] at hu
      rw[e3]
      exact ih m _ hu
     ·have e2:gD (some u) v.nd=none:=by
       show(match eP v.nd with|none=>_|some c=>_)=_
       rw[hc]
       exact if_neg hc3
      rw[e2,hnone] at hu
      exact absurd rfl hu
  have:=key (N.map Nv.dv) 0 (List.replicate cs.length false) h.marks
  unfold marks
  rw[List.length_append,List.length_cons,List.length_nil,List.replicate_succ']
  exact this
end

/- Nodes by what they hold: what the reference's functions on nodes give. -/
end Go.Ct
namespace Go.Proofs.YtbajmaoegmbfgaaGreat
section
open Go.RowKit Go.Ct
theorem z0{n:Nd}{xs:List Int}{ys:List Pr}:CV n xs ys↔CV (n.c xs ys).nd xs ys:=by
 unfold CV
 rw[Ld (n:=n)]
 exact Iff.rfl
theorem aAy{n:Nd}{xs:List Int}{ys:List Pr}:LV n xs ys↔LV (n.c xs ys).nd xs ys:=by
 unfold LV
 rw[Ld (n:=n)]
 exact Iff.rfl
theorem il{n:Nd}{xs:List Int}{ys:List Pr}:CV (n.c xs ys).nd (n.c xs ys).xs (n.c xs ys).ys=CV n xs ys:=propext z0.symm
theorem zf{n:Nd}{xs:List Int}{ys:List Pr}:LV (n.c xs ys).nd (n.c xs ys).xs (n.c xs ys).ys=LV n xs ys:=propext aAy.symm
def Ht(b:Nat)(xs:List Int):Nv:=(cn b xs (none,0)).c xs []
noncomputable def mC (v:Nv) (i:Int):Option Int:=Ll v.nd v.xs v.ys v.bm.toNat i
noncomputable def Mc (v:Nv):Option Int:=Za v.nd v.xs v.ys
def Hw(o:Option (Nat×List Int)):Nv:=match o with|some q=>Ht q.1 q.2|none=>Nv.zero
noncomputable def sf (v:Nv) (i r:Int):Nv:=Hw (jc v.nd v.xs v.ys v.bm.toNat i r)
noncomputable def ae (v:Nv) (i r:Int):Nv:=Hw (iz v.nd v.xs v.ys v.bm.toNat i r)
noncomputable def Mh (v:Nv) (i:Int):Nv:=Hw (jd v.nd v.xs v.ys v.bm.toNat i)
def tmV(s:Nv):Nv:=(tmb s.nd).c [] []
noncomputable def ug (v:Nv) (level:Int) (s:Nv):Nv:=if Sd v.nd v.xs v.ys level s.nd=true then tmV s else v
def xg(v:Nv):Nv:=(Hf v.nd).c [] []
noncomputable def wa (v:Nv) (k:ByteArray) (u:Int):Nv:=(aa (lA v.nd v.xs v.ys k u) v.hash (none,0)).c [] (Xp (lA v.nd v.xs v.ys k u))
noncomputable def jz (v:Nv) (k:ByteArray):Nv:=(Md (pB v.nd v.xs v.ys k) v.hash (none,0)).c [] (Hv (pB v.nd v.xs v.ys k))
section
variable{n s:Nd}{xs:List Int}{ys:List Pr}{b:Nat}
theorem aAi(hb:n.bm=(b:Int))(i:Int):Ll n xs ys b i=mC (n.c xs ys) i:=by
 have e:(n.c xs ys).bm.toNat=b:=by show n.bm.toNat=b;omega
 unfold mC Ll
 rw[e]
 rw[il (n:=n)]
 rfl
theorem tz:Za n xs ys=Mc (n.c xs ys):=by
 unfold Mc Za
 rw[il (n:=n)]
 rfl
theorem F0(o:Option (Nat×List Int))(x:Option Addr×Nat):(mT o x).c (lZ o) []=Hw o:=by cases o<;>rfl
theorem aAE(hb:n.bm=(b:Int))(i r:Int):Hw (jc n xs ys b i r)=sf (n.c xs ys) i r:=by
 have e:(n.c xs ys).bm.toNat=b:=by show n.bm.toNat=b;omega
 unfold sf jc
 rw[e]
 rw[il (n:=n)]
 rfl
theorem z9(hb:n.bm=(b:Int))(i r:Int):Hw (iz n xs ys b i r)=ae (n.c xs ys) i r:=by
 have e:(n.c xs ys).bm.toNat=b:=by show n.bm.toNat=b;omega
 unfold ae iz
 rw[e]
 rw[il (n:=n)]
 rfl
theorem zl(hb:n.bm=(b:Int))(i:Int):Hw (jd n xs ys b i)=Mh (n.c xs ys) i:=by
 have e:(n.c xs ys).bm.toNat=b:=by show n.bm.toNat=b;omega
 unfold Mh jd
 rw[e]
 rw[il (n:=n)]
 rfl
theorem aAt(level:Int):(qb (Sd n xs ys level s) n s).c (ja (Sd n xs ys level s) xs) (ja (Sd n xs ys level s) ys)=ug (n.c xs ys) level (s.c [] []):=by
 have e:Sd (n.c xs ys).nd xs ys level (s.c [] []).nd=Sd n xs ys level s:=by
  unfold Sd
  rw[tz (n:=n)]
  rfl
 have e':Sd (n.c xs ys).nd (n.c xs ys).xs (n.c xs ys).ys level (s.c [] []).nd=Sd n xs ys level s:=e
 unfold ug qb ja
 rw[e']
 split<;>rfl
theorem yk:(Hf n).c [] []=xg (n.c xs ys):=by
 unfold xg Hf
 show _=Nd.c (if n.kind=5 then _ else _) _ _
 split<;>rfl
theorem aAs(k:ByteArray)(u:Int)(x:Option Addr×Nat):(aa (lA n xs ys k u) n.hash x).c [] (Xp (lA n xs ys k u))=wa (n.c xs ys) k u:=by
 have e':lA (n.c xs ys).nd (n.c xs ys).xs (n.c xs ys).ys k u=lA n xs ys k u:=by unfold lA;rw[zf (n:=n)];rfl
 unfold wa
 rw[e']
 cases lA n xs ys k u<;>rfl
theorem aAB(k:ByteArray)(x:Option Addr×Nat):(Md (pB n xs ys k) n.hash x).c [] (Hv (pB n xs ys k))=jz (n.c xs ys) k:=by
 have e':pB (n.c xs ys).nd (n.c xs ys).xs (n.c xs ys).ys k=pB n xs ys k:=by unfold pB;rw[zf (n:=n)];rfl
 unfold jz
 rw[e']
 cases pB n xs ys k with
 | none=>rfl
 | some m=>unfold Md;simp only[Hv];split<;>rfl
end
end

/- Hash values: their slices, and how many two of them share. -/
end Go.Proofs.YtbajmaoegmbfgaaGreat
namespace Go.Ct
section
open Go Go.RowKit
def sl(h l:Nat):Nat:=(h >>> (6*l))%64
theorem xY(h l:Nat):sl h l<64:=Nat.mod_lt _ (by decide)
theorem K9(h j:Nat):(h >>> (6*j))/64=h >>> (6*(j+1)):=by
 rw[show 6*(j+1)=6*j+6 by omega,Nat.shiftRight_add,Nat.shiftRight_eq_div_pow (h >>> (6*j)) 6]
def Gv(h k:Nat):Nat->Nat->Nat
 | 0,l=>l
 | n+1,l=>if sl h l=sl k l then Gv h k n (l+1) else l
def lE(h k:Nat):Nat:=Gv h k 11 0
theorem wN(h k:Nat):∀n l,l<=Gv h k n l/\Gv h k n l<=l+n/\(∀i,l<=i->i<Gv h k n l->sl h i=sl k i)/\(Gv h k n l<l+n->sl h (Gv h k n l)≠sl k (Gv h k n l))
 | 0,l=>⟨Nat.le_refl _,Nat.le_refl _,λ i h1 h2=>absurd h2 (by simp only[Gv];omega),λ h=>absurd h (by simp only[Gv];omega)⟩
 | n+1,l=>by
  simp only[Gv]
  split
  ·rename_i he
   obtain⟨h1,h2,h3,h4⟩:=wN h k n (l+1)
   refine⟨by omega,by omega,λ i hi hi2=>?_,λ hlt=>h4 (by omega)⟩
   rcases Nat.lt_or_eq_of_le hi with hi|rfl
   ·exact h3 i (by omega) hi2
   ·exact he
  ·rename_i he
   exact⟨Nat.le_refl _,by omega,λ i h1 h2=>absurd h2 (by omega),λ _=>he⟩
theorem zE(h k:Nat):lE h k<=11:=by have:=(wN h k 11 0).2.1;unfold lE;omega
theorem Qr{h k i:Nat}(hi:i<lE h k):sl h i=sl k i:=(wN h k 11 0).2.2.1 i (Nat.zero_le _) hi
theorem K4{h k:Nat}(hc:lE h k<11):sl h (lE h k)≠sl k (lE h k):=(wN h k 11 0).2.2.2 (by unfold lE at hc;omega)
theorem sg{h k l:Nat}(hl:l<=11)(h1:∀i,i<l->sl h i=sl k i)(h2:l<11->sl h l≠sl k l):l=lE h k:=by
 rcases Nat.lt_trichotomy l (lE h k) with h3|h3|h3
 ·exact absurd (Qr h3) (h2 (by have:=zE h k;omega))
 ·exact h3
 ·exact absurd (h1 _ h3) (K4 (by omega))
theorem vd{P:Program}{S:List (Nat×Value)}{G:World->Prop}{d:Nat}{ty t t':TypeId}{pos:String}{af:Array Edge}{gd:Option (Nat×Bool)}{x y:Operand}{a b:Nat}(hx:ev S x=.int .u64 (a:Int))(hy:ev S y=.int .u64 (b:Int))(h0:b≠0)(ha:a<18446744073709551616):aP P S G ⟨some d,.binOp .quo t x y t',ty,pos,af,gd⟩ (.int .u64 ((a/b:Nat):Int)):=⟨λ w _=>by
 have h1:((b:Nat):Int)≠0:=by omega
 have h2:(a:Int).tdiv (b:Int)=((a/b:Nat):Int):=by rw[Int.tdiv_eq_ediv_of_nonneg (by omega)];rfl
 have h3:IntKind.u64.wrap ((a/b:Nat):Int)=((a/b:Nat):Int):=by
  have h4:=Nat.div_le_self a b
  generalize a/b=q at h4 ⊢
  rw[wrap_u64]
  omega
 simp only[execOp,hx,hy,eqGuard_at_int,binOp,Op.intDiv]
 simp[h0,h2]
 exact h3⟩
section
variable{P:Program}{S:List (Nat×Value)}{G:World->Prop}{d:Nat}{ty t t':TypeId}{pos:String}{af:Array Edge}{gd:Option (Nat×Bool)}{x y:Operand}{a b i:Nat}{k':IntKind}
theorem s5(hx:ev S x=.int .u64 (a:Int))(hy:ev S y=.int .u64 (b:Int))(ha:a<18446744073709551616)(hb:b<18446744073709551616):aP P S G ⟨some d,.binOp .and t x y t',ty,pos,af,gd⟩ (.int .u64 ((a &&& b:Nat):Int)):=by
 have:=rv (P:=P) (G:=G) (d:=d) (ty:=ty) (pos:=pos) (af:=af) (gd:=gd) (t:=t) (t':=t') hx hy
 rwa [pQ ha hb] at this
theorem wc(hx:ev S x=.int .u64 (a:Int))(hy:ev S y=.int .u64 (b:Int))(h0:b≠0):aP P S G ⟨some d,.binOp .rem t x y t',ty,pos,af,gd⟩ (.int .u64 ((a%b:Nat):Int)):=by
 have:=fm (P:=P) (G:=G) (d:=d) (ty:=ty) (pos:=pos) (af:=af) (gd:=gd) (t:=t) (t':=t') hx hy (by omega)
 rwa [Int.tmod_eq_emod_of_nonneg (by omega),<- Int.natCast_emod] at this
end
end
end Go.Ct
namespace Go.Proofs.YtbajmaoegmbfgaaGreat
section
open Go.RowKit Go.Ct
theorem pK{h l:Nat}(hh:h<18446744073709551616)(hl:l<=10)(w:World):Calls Tryz.prog 218 #[.int .u64 (h:Int),.int .i64 (l:Int)] w λ e w'=>e=.returned (.int .i64 ((sl h l:Nat):Int))/\St w [] [] w':=by
 refine enter Tryz.func218 Tryz.ntmps218 rfl rfl (SF.s0 w) ?_
 simp only[cN]
 all_goals (refine dC ?_;refine lW ?_;refine Ju ?_)
 all_goals ((refine aF ?_;refine aA ?_))
 all_goals (refine I3 ?_;refine aH ?_)
 all_goals
 refine bG (λ c10=>?_) (λ c10=>?_)
 ·all_goals try (exfalso;omega)
  all_goals refine dC ?_
  all_goals
   refine aU Tryz.results218 (λ w hw=>?_)
   have hy:y=l:=by omega
   subst hy
   exact⟨rfl,hw.done⟩
 ·all_goals try (exfalso;omega)
  all_goals refine qD ?_
  all_goals
   refine fZ [0,1,11,12,13,14,15,16] (λ y:Nat=>[(1,.int .i64 ((l-y:Nat):Int)),(0,.int .u64 ((h >>> (6*y):Nat):Int))]) (λ y=>y<=l) (λ y=>l-y) (0) (Nat.zero_le _) ?_ (λ y f hx=>?_)
   ·repeat (first|exact bK _|refine bC (by first|exact rfl|(conv=>{lhs;whnf};simp;done)) ?_)
   dsimp only[iL,List.map,List.cons_append,List.nil_append]
   all_goals (refine lW ?_;refine zP ?_;refine aH ?_)
   all_goals
   refine bG (λ c12=>?_) (λ c12=>?_)
   ·all_goals try (exfalso;omega)
    all_goals (refine qD ?_;refine zK ?_;refine aY (iN (vd (b:=64) rf rf (by decide) (Nat.lt_of_le_of_lt (Nat.shiftRight_le _ _) hh))) (λ x16=>?_);refine J1 ?_;refine fT ?_;refine zK ?_;refine rS ?_;refine J1 ?_)
    all_goals
     refine eU (y+1) ?_ ?_ ?_
     ·first|omega|(simp only[];omega)
     ·repeat' (first|exact bK _|refine bC ?_ ?_)
      all_goals (first|exact rfl|(conv=>{lhs;whnf};rw[K9];done)|(conv=>{lhs;whnf};simp;done)|(conv=>{lhs;whnf};congr 1;omega))
     ·omega
   ·all_goals try (exfalso;omega)
    all_goals (refine bV rfl ?_;refine J2 ?_;refine aB (wc (b:=64) rf rf (by decide)) rfl ?_;refine lP ?_;refine J1 ?_)
    all_goals
     refine aU Tryz.results218 (λ w hw=>?_)
     have hy:y=l:=by omega
     subst hy
     exact⟨rfl,hw.done⟩
theorem Mv{h k:Nat}(hh:h<18446744073709551616)(hk:k<18446744073709551616)(w:World):Calls Tryz.prog 260 #[.int .u64 (h:Int),.int .u64 (k:Int)] w λ e w'=>e=.returned (.int .i64 ((lE h k:Nat):Int))/\St w [] [] w':=by
 refine enter Tryz.func260 Tryz.ntmps260 rfl rfl (SF.s0 w) ?_
 simp only[cN]
 all_goals (refine dC ?_;refine dC ?_;refine Da ?_)
 all_goals
 refine fZ [5,6,7,8,9,10,11,12,13,14,15,16,17,18] (λ y:Nat=>[(5,.int .i64 ((y:Nat):Int))]) (λ y=>y<=11/\∀i,i<y->sl h i=sl k i) (λ y=>11-y) (0) (⟨Nat.zero_le _,λ i hi=>absurd hi (Nat.not_lt_zero i)⟩) ?_ (λ y f hx=>?_)
 ·repeat (first|exact bK _|refine bC (by first|exact rfl|(conv=>{lhs;whnf};simp;done)) ?_)
 dsimp only[iL,List.map,List.cons_append,List.nil_append]
 all_goals (refine lW ?_;refine zO ?_;refine aA ?_)
 all_goals ((refine fS 8 (λ g8=>?_) (λ g8=>?_)<;>(try (exfalso;omega))<;>(first|refine aN ?_|(refine aF ?_;refine aA ?_))))
 all_goals ((first|refine aN ?_|(refine aF ?_;refine aA ?_));(first|refine aN ?_|(refine aF ?_;refine aY (cV (hc:=λ w1 hw=>pK (l:=y) hh (by omega) w1)) (λ x11=>?_)));(first|refine aN ?_|(refine aF ?_;refine aA ?_));(first|refine aN ?_|(refine aF ?_;refine aA ?_));(first|refine aN ?_|(refine aF ?_;refine aY (cV (hc:=λ w1 hw=>pK (l:=y) hk (by omega) w1)) (λ x14=>?_)));refine zM ?_;refine aH ?_)
 all_goals
  refine bG (λ c16=>?_) (λ c16=>?_)
  ·try exact nv c16
   all_goals try (exfalso;omega)
   all_goals (refine bD ?_;refine dE ?_;refine zL ?_;refine fT ?_)
   all_goals
   refine eU (y+1) ?_ ?_ ?_
   ·first|omega|(simp only[];omega)
   ·repeat' (first|exact bK _|refine bC ?_ ?_)
    all_goals (first|exact rfl|(conv=>{lhs;whnf};simp;done)|(conv=>{lhs;whnf};congr 1;omega))
   ·exact⟨by omega,λ i hi=>by rcases Nat.lt_succ_iff_lt_or_eq.1 hi with h|rfl;exact hx.2 i h;omega⟩
  ·all_goals try (exfalso;omega)
   all_goals (refine bV rfl ?_;refine J2 ?_;refine J1 ?_)
   all_goals
   refine aU Tryz.results260 (λ w hw=>?_)
   exact⟨by rw[<- sg (h:=h) (k:=k) hx.1 hx.2 (λ _=>by first|omega|(intro;omega))];rfl,hw.done⟩
end

end Go.Proofs.YtbajmaoegmbfgaaGreat

/- Merged. -/
import Derived.Test.YtdnklbipddigbaaGreatGAr9
import Derived.Test.YtdnklbipddigbaaGreatGTape
import Derived.Test.YtdnklbipddigbaaGreatGBr5
import Derived.Test.YtdnklbipddigbaaGreatGBits
set_option linter.unusedSimpArgs false
set_option linter.unusedVariables false
namespace Go.Ct
section
def MainK(n:Nv):Prop:=n.kind=3∨n.kind=5∨n.kind=6
instance (n:Nv):Decidable (MainK n):=by unfold MainK;exact inferInstance
def rootP(N:List Nv)(cs:List Int)(c:Int):Int:=if(ndAt N (cellV cs c)).kind=8 then(if cellV cs (ndAt N (cellV cs c)).status=1 then(ndAt N (cellV cs c)).new else(ndAt N (cellV cs c)).old) else cellV cs c
def rootO(N:List Nv)(cs:List Int)(c:Int):Option Int:=if(ndAt N (rootP N cs c)).kind=2 then some (rootP N cs c) else none
def bodyM(N:List Nv)(cs:List Int)(i:Int):Int:=cellV cs (ndAt N i).main
def bodyP(N:List Nv)(cs:List Int)(i:Int):Int:=cellV cs (ndAt N (bodyM N cs i)).prev
def bodyQ(N:List Nv)(cs:List Int)(i:Int):Int:=if(ndAt N (bodyP N cs i)).kind=7 then(ndAt N (bodyP N cs i)).old else bodyP N cs i
def bodyO(N:List Nv)(cs:List Int)(i:Int):Option Int :=
 if(ndAt N i).kind=2/\MainK (ndAt N (bodyM N cs i)) then
  if bodyP N cs i=0 then some (bodyM N cs i) else if MainK (ndAt N (bodyQ N cs i)) then some (bodyQ N cs i) else none
 else none
def visB(N:List Nv)(f:Int->List Int->Option (List Int)):List Int->List Int->Option (List Int)
 | [],l=>some l
 | b::r,l=>if(ndAt N b).kind=4 then visB N f r l else if(ndAt N b).kind=2 then(f b l).bind (visB N f r) else none
def vis(N:List Nv)(cs:List Int):Nat->Int->List Int->Option (List Int)
 | 0,_,_=>none
 | n+1,i,l=>if i∈l then none else(bodyO N cs i).bind λ m=>visB N (vis N cs n) (ndAt N m).xs (l++[i])
def ownP(v:Nv):List Pr:=if v.kind=5 then [(v.key,v.val)] else if v.kind=6 then v.ys else []
def colB(N:List Nv)(f:Int->List Pr):List Int->List Pr
 | []=>[]
 | b::r=>(if(ndAt N b).kind=4 then [((ndAt N b).key,(ndAt N b).val)] else f b)++colB N f r
def col(N:List Nv)(cs:List Int):Nat->Int->List Pr
 | 0,_=>[]
 | n+1,i=>match bodyO N cs i with
  | none=>[]
  | some m=>ownP (ndAt N m)++colB N (col N cs n) (ndAt N m).xs
theorem visB_app{N:List Nv}{f:Int->List Int->Option (List Int)}:∀(a b l:List Int),visB N f (a++b) l=(visB N f a l).bind (visB N f b)
 | [],b,l=>rfl
 | x::a,b,l=>by
  simp only[List.cons_append,visB];split;·exact visB_app a b l
  split
  ·cases f x l with
   | none=>rfl
   | some l2=>exact visB_app a b l2
  ·rfl
theorem colB_app{N:List Nv}{f:Int->List Pr}:∀(a b:List Int),colB N f (a++b)=colB N f a++colB N f b
 | [],b=>rfl
 | x::a,b=>by simp only[List.cons_append,colB,colB_app a b,List.append_assoc]
theorem body_kind{N:List Nv}{cs:List Int}{i m:Int}(h:bodyO N cs i=some m):(ndAt N i).kind=2/\MainK (ndAt N m):=by
 unfold bodyO at h;split at h
 ·rename_i h1;split at h;·cases h;exact h1
  split at h;·cases h;exact⟨h1.1,by assumption⟩
  ·cases h
 ·cases h
theorem kind_in{N:List Nv}{i:Int}(h:(ndAt N i).kind≠0):1<=i/\i<=N.length:=by
 unfold ndAt at h;split at h;·assumption
 ·exact absurd rfl h
theorem vis_pre{N:List Nv}{cs:List Int}:∀(n:Nat) (i:Int) (l l2:List Int),vis N cs n i l=some l2->∃r,l2=l++i::r
 | 0,_,_,_,h=>nomatch h
 | n+1,i,l,l2,h=>by
  unfold vis at h;split at h;·cases h
  obtain⟨m,_,h⟩:=Option.bind_eq_some_iff.1 h;have key:∀(xs l l2:List Int),visB N (vis N cs n) xs l=some l2->∃r,l2=l++r:=by
   intro xs;induction xs with
   | nil=>intro l l2 h;cases h;exact⟨[],by simp⟩
   | cons b r ih=>
    intro l l2 h;unfold visB at h;split at h;·exact ih l l2 h
    split at h;·obtain⟨l3,h3,h⟩:=Option.bind_eq_some_iff.1 h;obtain⟨r1,rfl⟩:=vis_pre n b l l3 h3;obtain⟨r2,rfl⟩:=ih _ _ h;exact⟨b::r1++r2,by simp⟩
    ·cases h
  obtain⟨r,rfl⟩:=key _ _ _ h;exact⟨r,by simp⟩
end
section
theorem map_c{L1 L2:List NdV}(h:L1.length=L2.length):L1.map NdV.c=L2.map NdV.c↔∀i,i<L1.length->(L1.getD i NdV.zero).c=(L2.getD i NdV.zero).c:=by
 constructor
 ·intro e i hi;have h1:(L1.map NdV.c)[i]?=(L2.map NdV.c)[i]?:=by rw[e]
  rw[List.getElem?_map,List.getElem?_map,List.getElem?_eq_getElem hi,List.getElem?_eq_getElem (h▸hi)] at h1;rw[gdg,gdg,List.getElem?_eq_getElem hi,List.getElem?_eq_getElem (h▸hi)];simpa using h1
 ·intro e;refine List.ext_getElem? λ i=>?_;rw[List.getElem?_map,List.getElem?_map];by_cases hi:i<L1.length;·have h1:=e i hi;rw[gdg,gdg,List.getElem?_eq_getElem hi,List.getElem?_eq_getElem (h▸hi)] at h1;rw[List.getElem?_eq_getElem hi,List.getElem?_eq_getElem (h▸hi)];simpa using h1
  ·rw[List.getElem?_eq_none (by omega),List.getElem?_eq_none (by omega)]
end
end Go.Ct
namespace Go.Proofs.YtdnklbipddigbaaGreat
open Go.RowKit Go.Ct
section
theorem modN_c(v:Int)(n:Nat)(w:World)(h0:0<n)(h1:n<=274877906944):Calls Tryz.prog 11 #[.int .i64 v,.int .i64 ((n:Nat):Int)] w λ e w'=>e=.returned (.int .i64 (((modv v n).toNat:Nat):Int))/\St w [] [] w':=by have h:=modv_bound (v:=v) (n:=(n:Int)) (by omega) (by omega);rw[Int.toNat_of_nonneg h.1];exact mod_c v n w (by rw[wrap_u64];omega)
end
end Go.Proofs.YtdnklbipddigbaaGreat
namespace Go.Ct
section
def Nv.nd(v:Nv):Nd:=⟨v.kind,v.gen,v.main,v.bm,none,v.xs.length,0,v.hash,v.key,v.val,none,v.ys.length,0,v.prev,v.old,v.exp,v.new,v.status⟩
def Nv.dv(v:Nv):NdV:=⟨v.nd,v.xs,v.ys⟩
theorem Nv.dv_c(v:Nv):v.dv.c=v:=rfl
theorem map_dv(N:List Nv):(N.map Nv.dv).map NdV.c=N:=by rw[List.map_map];exact(List.map_congr_left (λ v _=>Nv.dv_c v)).trans (List.map_id N)
theorem valid_c{n:Nd}{xs:List Int}{ys:List Pr}:NdValid n xs ys↔NdValid (n.c xs ys).nd xs ys:=by
 have e:NdEq n n.own xs (n.xsOwn xs) ys (n.ysOwn ys)↔NdEq (n.c xs ys).nd (n.c xs ys).nd.own xs ((n.c xs ys).nd.xsOwn xs) ys ((n.c xs ys).nd.ysOwn ys):=by
  rw[ndEq_iff,ndEq_iff];have e1:n.own.c (n.xsOwn xs) (n.ysOwn ys)=(n.c xs ys).nd.own.c ((n.c xs ys).nd.xsOwn xs) ((n.c xs ys).nd.ysOwn ys):=by
   have hx:(n.c xs ys).nd.xsOwn xs=n.xsOwn xs:=rfl;have hy:(n.c xs ys).nd.ysOwn ys=n.ysOwn ys:=rfl;have hk:(n.c xs ys).nd.kind=n.kind:=rfl;rw[hx,hy];unfold Nd.own;rw[hk];repeat' split
   all_goals rfl
  rw[e1];exact Iff.rfl
 unfold NdValid;rw[e];exact Iff.rfl
theorem ndOk_c{gen:Int}{n:Nat}{u v:NdV}(h:u.c=v.c)(hu:NdOk gen n u):NdOk gen n v:=by
 have key:∀v:NdV,NdOk gen n v↔NdOk gen n v.c.dv:=λ v=>by unfold NdOk;rw[valid_c (n:=v.nd)];exact Iff.rfl
 rw[key,<- h,<- key];exact hu
theorem marks_c{m:Nat}{L1 L2:List NdV}(h:L1.map NdV.c=L2.map NdV.c):marks m L1=marks m L2:=by
 have key:∀L:List NdV,marks m L=(L.map NdV.c).foldl (λ u c=>markS u c.nd) (some (List.replicate m false)):=λ L=>by unfold marks;rw[List.foldl_map];rfl
 rw[key,key,h]
theorem proper_c'{L1 L2:List NdV}{cs:List Int}{gen:Int}(h:L1.map NdV.c=L2.map NdV.c)(hp:Proper L1 cs gen):Proper L2 cs gen:=by
 have hl:L1.length=L2.length:=by simpa using congrArg List.length h
 have hi:=(map_c hl).1 h;have h2:=hp.two;refine⟨by omega,hp.gen0,?_,?_,λ i h=>by have:=hp.cells i h;rwa [hl] at this,λ i h=>?_,by rw[<- marks_c h];exact hp.marks⟩;·have:=congrArg Nv.kind (hi 0 (by omega));exact this.symm.trans hp.m0
 ·have:=congrArg Nv.kind (hi 1 (by omega));exact this.symm.trans hp.m1
 ·have:=hp.nodes i (by omega);rw[<- hl];exact ndOk_c (hi i (by omega)) this
def ProperN(N:List Nv)(cs:List Int)(gen:Int):Prop:=Proper (N.map Nv.dv) cs gen
theorem ProperN.to{N:List Nv}{cs:List Int}{gen:Int}(h:ProperN N cs gen){L:List NdV}(hl:L.map NdV.c=N):Proper L cs gen:=proper_c' (by rw[map_dv,hl]) h
theorem ProperN.push{N:List Nv}{cs:List Int}{gen init:Int}{n:Nv}(h:ProperN N cs gen)(hv:NdOk gen (N.length+1) (alNv n cs.length).dv)(hi:Ins init N.length):ProperN (N++[alNv n cs.length]) (alCs n.kind cs init) gen:=by
 have hm:(N.map Nv.dv).length=N.length:=by simp
 have:=proper_push (v:=(alNv n cs.length).dv) (k:=n.kind) (init:=init) h (by rw[hm];exact hv) (by rw[hm];exact hi) (by
  have e:(alNv n cs.length).dv.nd.kind=n.kind:=rfl;unfold cellK alCs;rw[e];by_cases h2:n.kind=2;·right;rw[if_pos h2,if_pos (.inl h2)];exact⟨by show some (if n.kind=2 then _ else _)=_;rw[if_pos h2],rfl⟩
  rw[if_neg h2];by_cases h3:n.kind=3∨n.kind=5∨n.kind=6;·right;rw[if_pos h3,if_pos (by omega)];exact⟨by show some (if n.kind=3∨n.kind=5∨n.kind=6 then _ else _)=_;rw[if_pos h3],rfl⟩
  rw[if_neg h3];by_cases h8:n.kind=8;·right;rw[if_pos h8,if_pos (by omega)];exact⟨by show some (if n.kind=8 then _ else _)=_;rw[if_pos h8],rfl⟩
  ·left;rw[if_neg h8,if_neg (by omega)];exact⟨rfl,rfl⟩)
 unfold ProperN;rw[List.map_append];exact this
theorem ProperN.cell{N:List Nv}{cs:List Int}{gen init:Int}(h:ProperN N cs gen)(hi:Ins init N.length):ProperN N (cs++[init]) gen:=by
 have hm:(N.map Nv.dv).length=N.length:=by simp
 refine⟨h.two,h.gen0,h.m0,h.m1,λ i hi'=>?_,h.nodes,?_⟩
 ·rw[gdg];rw[List.length_append,List.length_cons,List.length_nil] at hi';by_cases hl:i<cs.length;·rw[List.getElem?_append_left hl,<- gdg];exact h.cells i hl
  ·rw[List.getElem?_append_right (by omega),show i-cs.length=0 by omega,hm];exact hi
 ·have key:∀(l:List NdV) (m:Nat) (u:List Bool),l.foldl (λ u v=>markS u v.nd) (some u)≠none->l.foldl (λ u v=>markS u v.nd) (some (u++[false]))≠none:=by
   intro l;induction l with
   | nil=>intro _ u _ h;cases h
   | cons v l ih=>
    intro m u hu;rw[List.foldl_cons] at hu ⊢;have hnone:∀l:List NdV,l.foldl (λ u v=>markS u v.nd) none=none:=λ l=>by
     induction l with
     | nil=>rfl
     | cons v l ih=>exact ih
    cases hc:cellK v.nd with
    | none=>rw[show markS (some u) v.nd=some u by simp[markS,hc]] at hu;rw[show markS (some (u++[false])) v.nd=some (u++[false]) by simp[markS,hc]];exact ih m u hu
    | some c=>
     by_cases hc3:1<=c/\c<=u.length/\u.getD (c-1).toNat false=false
     ·obtain⟨c1,c2,c3⟩:=hc3;have hlt:(c-1).toNat<u.length:=by omega
      have e1:(u++[false]).getD (c-1).toNat false=u.getD (c-1).toNat false:=by rw[gdg,gdg,List.getElem?_append_left hlt]
      have e2:markS (some u) v.nd=some (u.set (c-1).toNat true):=by show(match cellK v.nd with|none=>_|some c=>_)=_;rw[hc];exact if_pos ⟨c1,c2,c3⟩
      have e3:markS (some (u++[false])) v.nd=some (u.set (c-1).toNat true++[false]):=by show(match cellK v.nd with|none=>_|some c=>_)=_;rw[hc,<- List.set_append_left _ _ hlt];exact if_pos ⟨c1,by rw[List.length_append,List.length_cons,List.length_nil];omega,by rw[e1];exact c3⟩
      rw[e2] at hu;rw[e3];exact ih m _ hu
     ·have e2:markS (some u) v.nd=none:=by show(match cellK v.nd with|none=>_|some c=>_)=_;rw[hc];exact if_neg hc3
      rw[e2,hnone] at hu;exact absurd rfl hu
  have:=key (N.map Nv.dv) 0 (List.replicate cs.length false) h.marks;unfold marks;rw[List.length_append,List.length_cons,List.length_nil,List.replicate_succ'];exact this
end
end Go.Ct
namespace Go.Proofs.YtdnklbipddigbaaGreat
open Go.RowKit Go.Ct
section
theorem cv_c{n:Nd}{xs:List Int}{ys:List Pr}:CV n xs ys↔CV (n.c xs ys).nd xs ys:=by unfold CV;rw[valid_c (n:=n)];exact Iff.rfl
theorem lv_c{n:Nd}{xs:List Int}{ys:List Pr}:LV n xs ys↔LV (n.c xs ys).nd xs ys:=by unfold LV;rw[valid_c (n:=n)];exact Iff.rfl
theorem cv_e{n:Nd}{xs:List Int}{ys:List Pr}:CV (n.c xs ys).nd (n.c xs ys).xs (n.c xs ys).ys=CV n xs ys:=propext cv_c.symm
theorem lv_e{n:Nd}{xs:List Int}{ys:List Pr}:LV (n.c xs ys).nd (n.c xs ys).xs (n.c xs ys).ys=LV n xs ys:=propext lv_c.symm
def cnV(b:Nat)(xs:List Int):Nv:=(cn b xs (none,0)).c xs []
noncomputable def lkV (v:Nv) (i:Int):Option Int:=lkO v.nd v.xs v.ys v.bm.toNat i
noncomputable def soV (v:Nv):Option Int:=soO v.nd v.xs v.ys
def resV(o:Option (Nat×List Int)):Nv:=match o with|some q=>cnV q.1 q.2|none=>Nv.zero
noncomputable def inV (v:Nv) (i r:Int):Nv:=resV (inO v.nd v.xs v.ys v.bm.toNat i r)
noncomputable def upV (v:Nv) (i r:Int):Nv:=resV (upO v.nd v.xs v.ys v.bm.toNat i r)
noncomputable def reV (v:Nv) (i:Int):Nv:=resV (reO v.nd v.xs v.ys v.bm.toNat i)
def tmV(s:Nv):Nv:=(tmb s.nd).c [] []
noncomputable def coV (v:Nv) (level:Int) (s:Nv):Nv:=if coT v.nd v.xs v.ys level s.nd=true then tmV s else v
def unV(v:Nv):Nv:=(unN v.nd).c [] []
noncomputable def grV (v:Nv) (k:ByteArray) (u:Int):Nv:=(grN (growO v.nd v.xs v.ys k u) v.hash (none,0)).c [] (grL (growO v.nd v.xs v.ys k u))
noncomputable def shV (v:Nv) (k:ByteArray):Nv:=(shN (shrO v.nd v.xs v.ys k) v.hash (none,0)).c [] (shL (shrO v.nd v.xs v.ys k))
section
variable{n s:Nd}{xs:List Int}{ys:List Pr}{b:Nat}
theorem lk_c(hb:n.bm=(b:Int))(i:Int):lkO n xs ys b i=lkV (n.c xs ys) i:=by
 have e:(n.c xs ys).bm.toNat=b:=by show n.bm.toNat=b;omega
 unfold lkV lkO;rw[e];rw[cv_e (n:=n)];rfl
theorem so_c:soO n xs ys=soV (n.c xs ys):=by unfold soV soO;rw[cv_e (n:=n)];rfl
theorem resN_c(o:Option (Nat×List Int))(x:Option Addr×Nat):(resN o x).c (resL o) []=resV o:=by cases o<;>rfl
theorem in_c(hb:n.bm=(b:Int))(i r:Int):resV (inO n xs ys b i r)=inV (n.c xs ys) i r:=by
 have e:(n.c xs ys).bm.toNat=b:=by show n.bm.toNat=b;omega
 unfold inV inO;rw[e];rw[cv_e (n:=n)];rfl
theorem up_c(hb:n.bm=(b:Int))(i r:Int):resV (upO n xs ys b i r)=upV (n.c xs ys) i r:=by
 have e:(n.c xs ys).bm.toNat=b:=by show n.bm.toNat=b;omega
 unfold upV upO;rw[e];rw[cv_e (n:=n)];rfl
theorem re_c(hb:n.bm=(b:Int))(i:Int):resV (reO n xs ys b i)=reV (n.c xs ys) i:=by
 have e:(n.c xs ys).bm.toNat=b:=by show n.bm.toNat=b;omega
 unfold reV reO;rw[e];rw[cv_e (n:=n)];rfl
theorem co_c(level:Int):(reN (coT n xs ys level s) n s).c (coX (coT n xs ys level s) xs) (coX (coT n xs ys level s) ys)=coV (n.c xs ys) level (s.c [] []):=by
 have e:coT (n.c xs ys).nd xs ys level (s.c [] []).nd=coT n xs ys level s:=by unfold coT;rw[so_c (n:=n)];rfl
 have e':coT (n.c xs ys).nd (n.c xs ys).xs (n.c xs ys).ys level (s.c [] []).nd=coT n xs ys level s:=e;unfold coV reN coX;rw[e'];split<;>rfl
theorem un_c:(unN n).c [] []=unV (n.c xs ys):=by unfold unV unN;show _=Nd.c (if n.kind=5 then _ else _) _ _;split<;>rfl
theorem gr_c(k:ByteArray)(u:Int)(x:Option Addr×Nat):(grN (growO n xs ys k u) n.hash x).c [] (grL (growO n xs ys k u))=grV (n.c xs ys) k u:=by
 have e':growO (n.c xs ys).nd (n.c xs ys).xs (n.c xs ys).ys k u=growO n xs ys k u:=by unfold growO;rw[lv_e (n:=n)];rfl
 unfold grV;rw[e'];cases growO n xs ys k u<;>rfl
theorem sh_c(k:ByteArray)(x:Option Addr×Nat):(shN (shrO n xs ys k) n.hash x).c [] (shL (shrO n xs ys k))=shV (n.c xs ys) k:=by
 have e':shrO (n.c xs ys).nd (n.c xs ys).xs (n.c xs ys).ys k=shrO n xs ys k:=by unfold shrO;rw[lv_e (n:=n)];rfl
 unfold shV;rw[e'];cases shrO n xs ys k with
 | none=>rfl
 | some m=>unfold shN;simp only[shL];split<;>rfl
end
end
end Go.Proofs.YtdnklbipddigbaaGreat
namespace Go.Ct
open Go Go.RowKit
section
def sl(h l:Nat):Nat:=(h >>> (6*l))%64
theorem sl_lt(h l:Nat):sl h l<64:=Nat.mod_lt _ (by decide)
theorem sr_next(h j:Nat):(h >>> (6*j))/64=h >>> (6*(j+1)):=by rw[show 6*(j+1)=6*j+6 by omega,Nat.shiftRight_add,Nat.shiftRight_eq_div_pow (h >>> (6*j)) 6]
def comF(h k:Nat):Nat->Nat->Nat
 | 0,l=>l
 | n+1,l=>if sl h l=sl k l then comF h k n (l+1) else l
def com(h k:Nat):Nat:=comF h k 11 0
theorem comF_spec(h k:Nat):∀n l,l<=comF h k n l/\comF h k n l<=l+n/\(∀i,l<=i->i<comF h k n l->sl h i=sl k i)/\(comF h k n l<l+n->sl h (comF h k n l)≠sl k (comF h k n l))
 | 0,l=>⟨Nat.le_refl _,Nat.le_refl _,λ i h1 h2=>absurd h2 (by simp only[comF];omega),λ h=>absurd h (by simp only[comF];omega)⟩
 | n+1,l=>by
  simp only[comF];split
  ·rename_i he;obtain⟨h1,h2,h3,h4⟩:=comF_spec h k n (l+1);refine⟨by omega,by omega,λ i hi hi2=>?_,λ hlt=>h4 (by omega)⟩;rcases Nat.lt_or_eq_of_le hi with hi|rfl;·exact h3 i (by omega) hi2
   ·exact he
  ·rename_i he;exact⟨Nat.le_refl _,by omega,λ i h1 h2=>absurd h2 (by omega),λ _=>he⟩
theorem com_le(h k:Nat):com h k<=11:=by have:=(comF_spec h k 11 0).2.1;unfold com;omega
theorem com_eq{h k i:Nat}(hi:i<com h k):sl h i=sl k i:=(comF_spec h k 11 0).2.2.1 i (Nat.zero_le _) hi
theorem com_ne{h k:Nat}(hc:com h k<11):sl h (com h k)≠sl k (com h k):=(comF_spec h k 11 0).2.2.2 (by unfold com at hc;omega)
theorem com_is{h k l:Nat}(hl:l<=11)(h1:∀i,i<l->sl h i=sl k i)(h2:l<11->sl h l≠sl k l):l=com h k:=by
 rcases Nat.lt_trichotomy l (com h k) with h3|h3|h3;·exact absurd (com_eq h3) (h2 (by have:=com_le h k;omega))
 ·exact h3
 ·exact absurd (h1 _ h3) (com_ne (by omega))
theorem o_quoN{P:Program}{S:List (Nat×Value)}{G:World->Prop}{d:Nat}{ty t t':TypeId}{pos:String}{af:Array Edge}{gd:Option (Nat×Bool)}{x y:Operand}{a b:Nat}(hx:ev S x=.int .u64 (a:Int))(hy:ev S y=.int .u64 (b:Int))(h0:b≠0)(ha:a<18446744073709551616):Quiet P S G ⟨some d,.binOp .quo t x y t',ty,pos,af,gd⟩ (.int .u64 ((a/b:Nat):Int)):=⟨λ w _=>by
 have h1:((b:Nat):Int)≠0:=by omega
 have h2:(a:Int).tdiv (b:Int)=((a/b:Nat):Int):=by rw[Int.tdiv_eq_ediv_of_nonneg (by omega)];rfl
 have h3:IntKind.u64.wrap ((a/b:Nat):Int)=((a/b:Nat):Int):=by have h4:=Nat.div_le_self a b;generalize a/b=q at h4 ⊢;rw[wrap_u64];omega
 simp only[execOp,hx,hy,eqGuard_at_int,binOp,Op.intDiv];simp[h0,h2];exact h3⟩
section
variable{P:Program}{S:List (Nat×Value)}{G:World->Prop}{d:Nat}{ty t t':TypeId}{pos:String}{af:Array Edge}{gd:Option (Nat×Bool)}{x y:Operand}{a b i:Nat}{k':IntKind}
theorem o_andN(hx:ev S x=.int .u64 (a:Int))(hy:ev S y=.int .u64 (b:Int))(ha:a<18446744073709551616)(hb:b<18446744073709551616):Quiet P S G ⟨some d,.binOp .and t x y t',ty,pos,af,gd⟩ (.int .u64 ((a &&& b:Nat):Int)):=by have:=o_and (P:=P) (G:=G) (d:=d) (ty:=ty) (pos:=pos) (af:=af) (gd:=gd) (t:=t) (t':=t') hx hy;rwa [rAnd_nat ha hb] at this
theorem o_remN(hx:ev S x=.int .u64 (a:Int))(hy:ev S y=.int .u64 (b:Int))(h0:b≠0):Quiet P S G ⟨some d,.binOp .rem t x y t',ty,pos,af,gd⟩ (.int .u64 ((a%b:Nat):Int)):=by have:=o_rem (P:=P) (G:=G) (d:=d) (ty:=ty) (pos:=pos) (af:=af) (gd:=gd) (t:=t) (t':=t') hx hy (by omega);rwa [Int.tmod_eq_emod_of_nonneg (by omega),<- Int.natCast_emod] at this
end
end
end Go.Ct
namespace Go.Proofs.YtdnklbipddigbaaGreat
open Go.RowKit Go.Ct
section
theorem refSlice_c{h l:Nat}(hh:h<18446744073709551616)(hl:l<=10)(w:World):Calls Tryz.prog 210 #[.int .u64 (h:Int),.int .i64 (l:Int)] w λ e w'=>e=.returned (.int .i64 ((sl h l:Nat):Int))/\St w [] [] w':=by
 refine enter Tryz.func210 Tryz.ntmps210 rfl rfl (SF.s0 w) ?_;simp only[mkS];refine Kc2 ?_;refine J64 ?_;(refine Ka3 ?_);refine Ka6 ?_;refine kif (λ c10=>?_) (λ c10=>?_);·try (exfalso;omega)
 ·try (exfalso;omega)
  refine J37 ?_;refine k_loopC [0,1,11,12,13,14,15,16] (λ y:Nat=>[(1,.int .i64 ((l-y:Nat):Int)),(0,.int .u64 ((h >>> (6*y):Nat):Int))]) (λ y=>y<=l) (λ y=>l-y) (0) (Nat.zero_le _) ?_ (λ y f hx=>?_);·repeat (first|exact knows_nil _|refine knows_cons (by exact rfl) ?_)
  dsimp only[mkU,List.map,List.cons_append,List.nil_append];refine J32 ?_;refine j_gtr ?_;refine l_nil ?_;refine kif (λ c12=>?_) (λ c12=>?_)
  ·try (exfalso;omega)
   refine J37 ?_;refine J20 ?_;refine j_own (loud_of_quiet (o_quoN (b:=64) rf rf (by decide) (Nat.lt_of_le_of_lt (Nat.shiftRight_le _ _) hh))) (λ x16=>?_);refine J1 ?_;refine k_blk ?_;refine J20 ?_;refine j_dec ?_;refine J1 ?_;refine k_roundC (y+1) ?_ ?_ ?_;·omega
   ·repeat' (first|exact knows_nil _|refine knows_cons ?_ ?_)
    all_goals (first|exact rfl|(conv=>{lhs;whnf};rw[sr_next];done))
   ·omega
  ·try (exfalso;omega)
   refine k_exit rfl ?_;refine J2 ?_;refine l_quiet (o_remN (b:=64) rf rf (by decide)) rfl ?_;refine j_convert ?_;refine J1 ?_;refine k_rv Tryz.results210 (λ w hw=>?_);have hy:y=l:=by omega
   subst hy;exact⟨rfl,hw.done⟩
theorem refCommon_c{h k:Nat}(hh:h<18446744073709551616)(hk:k<18446744073709551616)(w:World):Calls Tryz.prog 249 #[.int .u64 (h:Int),.int .u64 (k:Int)] w λ e w'=>e=.returned (.int .i64 ((com h k:Nat):Int))/\St w [] [] w':=by
 refine enter Tryz.func249 Tryz.ntmps249 rfl rfl (SF.s0 w) ?_;simp only[mkS];refine J10 ?_;refine J10 ?_;refine J62 ?_;refine k_loopC [5,6,7,8,9,10,11,12,13,14,15,16,17,18] (λ y:Nat=>[(5,.int .i64 ((y:Nat):Int))]) (λ y=>y<=11/\∀i,i<y->sl h i=sl k i) (λ y=>11-y) (0) (⟨Nat.zero_le _,λ i hi=>absurd hi (Nat.not_lt_zero i)⟩) ?_ (λ y f hx=>?_);·repeat (first|exact knows_nil _|refine knows_cons (by exact rfl) ?_)
 dsimp only[mkU,List.map,List.cons_append,List.nil_append];refine J32 ?_;refine j_leq ?_;refine j_move ?_;(refine lcs 8 (λ g8=>?_) (λ g8=>?_)<;>refine Ka0 ?_);all_goals (refine Ka0 ?_;(first|refine j_un ?_|(refine j_yes ?_;refine j_own (cV (hc:=λ w1 hw=>refSlice_c (l:=y) hh (by omega) w1)) (λ x11=>?_)));refine Ka0 ?_;refine Ka0 ?_;(first|refine j_un ?_|(refine j_yes ?_;refine j_own (cV (hc:=λ w1 hw=>refSlice_c (l:=y) hk (by omega) w1)) (λ x14=>?_)));refine J12 ?_;refine l_nil ?_)
 all_goals
 refine kif (λ c16=>?_) (λ c16=>?_)
 ·try exact nv c16
  all_goals (refine k_skip ?_;refine k_block ?_;refine J70 ?_;refine k_blk ?_)
  all_goals
   refine k_roundC (y+1) ?_ ?_ ?_;·omega
   ·repeat' (first|exact knows_nil _|refine knows_cons ?_ ?_)
    exact rfl
   ·exact⟨by omega,λ i hi=>by rcases Nat.lt_succ_iff_lt_or_eq.1 hi with h|rfl;exact hx.2 i h;omega⟩
 ·all_goals try (exfalso;omega)
  all_goals (refine k_exit rfl ?_;refine Kb2 ?_)
  all_goals refine k_rv Tryz.results249 (λ w hw=>?_);exact⟨by rw[<- com_is (h:=h) (k:=k) hx.1 hx.2 (λ _=>by omega)];rfl,hw.done⟩
end
end Go.Proofs.YtdnklbipddigbaaGreat

/- Places of a trie in a state: what is computed (plain). -/
import Derived.Test.YtpobgmdalcpomaaGreatGRs0
import Derived.Test.YtpobgmdalcpomaaGreatGVw3
import Derived.Test.YtpobgmdalcpomaaGreatGBitsE
import Derived.Test.YtpobgmdalcpomaaGreatGJoin

set_option linter.unusedSimpArgs false
set_option linter.unusedVariables false
namespace Go.Ct
section
structure Pl where
 i:Int
 m:Int
 a:Int
 lv:Nat
 way:List Int
def pJ(b:Nat):Nat->List Int
 | 0=>[]
 | k+1=>pJ b k++(if b.testBit k then [(k:Int)] else [])
def B8(N:List Nv)(f:Int->List Int->List Int->Option (List Pl×List Pr))(way idx:List Int):List Int->Nat->List Int->Option (List Pl×List Pr)
 | [],_,_=>some ([],[])
 | b::r,j,s=>if(cG N b).kind=4 then(B8 N f way idx r (j+1) s).map λ q=>(q.1,((cG N b).key,(cG N b).val)::q.2)
  else if(cG N b).kind=2 then(f b (way++[idx.getD j 0]) s).bind λ p=>(B8 N f way idx r (j+1) (s++p.1.map Pl.i)).map λ q=>(p.1++q.1,p.2++q.2)
  else none
def By(N:List Nv)(cs:List Int):Nat->Int->Nat->Int->List Int->List Int->Option (List Pl×List Pr)
 | 0,_,_,_,_,_=>none
 | n+1,a,lv,i,way,s=>if i∈s then none else(eR N cs i).bind λ m =>
  if(cG N m).kind=5∨(cG N m).kind=6 then some ([⟨i,m,a,lv,way⟩],rR (cG N m))
  else(B8 N (λ b w s=>By N cs n i (lv+1) b w s) way (pJ (cG N m).bm.toNat 64) (cG N m).xs 0 (s++[i])).map λ q=>(⟨i,m,a,lv,way⟩::q.1,q.2)
end

/- The reference of views: the numbers of a bitmap's bits. -/
section
theorem Ed(b:Nat):∀k,(pJ b k).length=hJ b k
 | 0=>rfl
 | k+1=>by
  simp only[pJ,List.length_append,Ed b k,hJ]
  split<;>simp_all
end
end Go.Ct
namespace Go.Proofs.YtpobgmdalcpomaaGreat
section
open Go Go.RowKit Go.Ct
theorem Jj{n:Nat}(hn:n<18446744073709551616)(w:World):Calls Tryz.prog 65 #[.int .u64 (n:Int)] w λ e w'=>∃x:Option Addr×Nat,e=.returned (.slice x.1 (pJ n 64).length x.2)/\True/\SF w [] [] [] [(x.1,aJ (pJ n 64))] [] w':=by
 refine enter Tryz.func65 Tryz.ntmps65 rfl rfl ((SF.s0 w).jK 3 1) ?_
 simp only[dB]
 all_goals (refine dH ?_;refine Be ?_;refine Cq ?_)
 all_goals
 refine lO [3,4,5,6,7,8,9,10,11,12,13,14,15] (λ y:Nat×Option Addr×Nat=>[(3,.slice y.2.1 (pJ n y.1).length y.2.2),(4,.int .i64 ((y.1:Nat):Int))]) (λ y=>y.1<=64) (λ _=>_) (λ _=>_) (λ y=>[⟨y.2.1,aJ (pJ n y.1),y.2.2,3,1⟩]) (λ y=>64-y.1) ((0,none,0)) (by decide) (λ y f hx=>?_)
 dsimp only[gW,List.map,List.cons_append,List.nil_append]
 have hcl:=xY n y.1
 have hil:=Ed n y.1
 all_goals (refine jS ?_;refine uQ ?_)
 all_goals
  refine bF (λ c6=>?_) (λ c6=>?_)
  ·try exact nv c6
   all_goals (refine oD ?_;refine jE ?_;(refine aF (cV (hc:=λ w1 hw=>Df hn (y.1:Int) w1)) (λ x11=>?_);try (refine aB (λ h11=>?_)));refine aN ?_)
   all_goals
   refine bF (λ c11=>?_) (λ c11=>?_)
   ·try exact nv c11
    all_goals
     have e1:pJ n (y.1+1)=pJ n y.1++[(y.1:Int)]:=by rw[sP n (by omega) (by omega),Int.toNat_natCast] at c11;simp only[pJ,c11,if_true]
    all_goals (refine Fk ?_;refine fA (λ x14=>?_);(refine dM (λ x15=>?_);try (refine aB (λ h15=>?_)));refine J1 ?_;refine eV ?_;refine uH ?_)
    all_goals
     refine jU ((by first|exact(y.1+1,x15)|exact(y.1+1,y.2))) ?_ ?_ (by repeat (first|(with_reducible exact vQ.refl)|refine vQ.cons (by exact rfl) ?_)) ?_ (λ w hw=>by simp only[e1];first|exact hw.back|(rw[show(pJ n y.1).length+1=(pJ n y.1++[(y.1:Int)]).length by simp] at hw;exact hw.back))
     ·first|omega|(simp only[];omega)
     ·repeat' (first|exact bI _|refine bE ?_ ?_)
      all_goals (first|exact rfl|(simp only[e1];first|exact rfl|(conv=>{lhs;whnf};simp;done))|(conv=>{lhs;whnf};congr 1;omega))
     ·(show y.1+1<=64;omega)
   ·try exact nv c11
    all_goals
     have e1:pJ n (y.1+1)=pJ n y.1:=by rw[sP n (by omega) (by omega),Int.toNat_natCast] at c11;simp only[pJ,c11];simp
    all_goals (refine mN ?_;refine uH ?_)
    all_goals
     refine jU ((by first|exact(y.1+1,x15)|exact(y.1+1,y.2))) ?_ ?_ (by repeat (first|(with_reducible exact vQ.refl)|refine vQ.cons (by exact rfl) ?_)) ?_ (λ w hw=>by simp only[e1];first|exact hw.back|(rw[show(pJ n y.1).length+1=(pJ n y.1++[(y.1:Int)]).length by simp] at hw;exact hw.back))
     ·first|omega|(simp only[];omega)
     ·repeat' (first|exact bI _|refine bE ?_ ?_)
      all_goals (first|exact rfl|(simp only[e1];first|exact rfl|(conv=>{lhs;whnf};simp;done))|(conv=>{lhs;whnf};congr 1;omega))
     ·(show y.1+1<=64;omega)
  ·try exact nv c6
   all_goals (refine bQ rfl ?_;refine J2 ?_;refine J1 ?_)
   all_goals
   refine aR Tryz.results65 (λ w hw=>?_)
   have e2:y.1=64:=by omega
   rw[e2] at hw ⊢
   generalize pJ n 64=B at hw ⊢
   exact⟨y.2,rfl,trivial,SF.z4 hw.aV⟩
theorem Gu{n:Nat}{b:Int}{ix:List Int}(hi:ix=pJ n 64)(hn:n<18446744073709551616)(e:b=(n:Int))(w:World):Calls Tryz.prog 65 #[.int .u64 b] w λ e w'=>∃x:Option Addr×Nat,e=.returned (.slice x.1 ix.length x.2)/\True/\SF w [] [] [] [(x.1,aJ ix)] [] w':=by
 rw[hi,e]
 with_reducible exact Jj hn w
end

/- Places of a trie: their lists in memory; steps of the loop over the branches. -/
end Go.Proofs.YtpobgmdalcpomaaGreat
namespace Go.Ct
section
open Go Go.RowKit
structure qM where
 p:Pl
 wp:Option Addr
 wc:Nat
def qM.cells(v:qM):List Value:=[.int .i64 v.p.i,.int .i64 v.p.m,.int .i64 v.p.a,.int .i64 ((v.p.lv:Nat):Int),.slice v.wp v.p.way.length v.wc]
def pS(l:List qM):List Value:=l.flatMap qM.cells
def Gy(l:List qM):Fr:=l.map λ v=>(v.wp,aJ v.p.way)
theorem vG:∀l:List qM,(pS l).length=l.length*5
 | []=>rfl
 | v::l=>by simp only[pS,List.flatMap_cons,List.length_append] at *;rw[show(List.flatMap qM.cells l).length=l.length*5 from vG l];simp[qM.cells];omega
theorem Nt(l l2:List qM):pS (l++l2)=pS l++pS l2:=by simp[pS]
theorem yX:∀l:List qM,(pS l).all (·.oneCell')=true
 | []=>rfl
 | v::l=>by simp only[pS,List.flatMap_cons,List.all_append];rw[show(List.flatMap qM.cells l).all (·.oneCell')=true from yX l];rfl
section
variable{N:List Nv}{f:Int->List Int->List Int->Option (List Pl×List Pr)}{way idx xs s s2:List Int}{j:Nat}{r:List Pl×List Pr}
def yS(N:List Nv)(f:Int->List Int->List Int->Option (List Pl×List Pr))(way idx xs s:List Int)(j:Nat)(tl:List Pl)(ps:List Pr):Prop :=
 B8 N f way idx xs 0 s=(B8 N f way idx (xs.drop j) j (s++tl.map Pl.i)).map λ q=>(tl++q.1,ps++q.2)
theorem yS.zero:yS N f way idx xs s 0 [] []:=by
 unfold yS
 simp only[List.drop_zero,List.map_nil,List.append_nil,List.nil_append]
 cases B8 N f way idx xs 0 s<;>rfl
theorem Da{xs:List Int}{j:Nat}(h:j<xs.length):xs.drop j=xs.getD j 0::xs.drop (j+1):=by
 rw[List.drop_eq_getElem_cons h,gdg,List.getElem?_eq_getElem h];rfl
theorem yS.single{tl:List Pl}{ps:List Pr}(h:yS N f way idx xs s j tl ps)(hj:j<xs.length)(hk:(cG N (xs.getD j 0)).kind=4):yS N f way idx xs s (j+1) tl (ps++[((cG N (xs.getD j 0)).key,(cG N (xs.getD j 0)).val)]):=by
 unfold yS at h ⊢
 rw[h,Da hj]
 simp only[B8,hk,if_true]
 cases B8 N f way idx (xs.drop (j+1)) (j+1) (s++tl.map Pl.i)<;>simp
theorem yS.inner{tl:List Pl}{ps:List Pr}(h:yS N f way idx xs s j tl ps)(hj:j<xs.length)(hk:(cG N (xs.getD j 0)).kind=2)(hf:f (xs.getD j 0) (way++[idx.getD j 0]) (s++tl.map Pl.i)=some r):yS N f way idx xs s (j+1) (tl++r.1) (ps++r.2):=by
 unfold yS at h ⊢
 rw[h,Da hj]
 have h4:¬(cG N (xs.getD j 0)).kind=4:=by omega
 simp only[B8,h4,hk,if_true,if_false,hf,Option.bind_some,List.map_append,List.append_assoc]
 cases B8 N f way idx (xs.drop (j+1)) (j+1) (s++(tl.map Pl.i++r.1.map Pl.i))<;>simp
theorem yS.fail{tl:List Pl}{ps:List Pr}(h:yS N f way idx xs s j tl ps)(hj:j<xs.length)(hk:(cG N (xs.getD j 0)).kind=2)(hf:f (xs.getD j 0) (way++[idx.getD j 0]) (s++tl.map Pl.i)=none):B8 N f way idx xs 0 s=none:=by
 unfold yS at h
 rw[h,Da hj]
 have h4:¬(cG N (xs.getD j 0)).kind=4:=by omega
 simp only[B8,h4,hk,if_true,if_false,hf,Option.bind_none,Option.map_none,reduceCtorEq,show ¬((2:Int)=4) by decide]
theorem yS.bad{tl:List Pl}{ps:List Pr}(h:yS N f way idx xs s j tl ps)(hj:j<xs.length)(hk:(cG N (xs.getD j 0)).kind≠4)(hk2:(cG N (xs.getD j 0)).kind≠2):B8 N f way idx xs 0 s=none:=by
 unfold yS at h
 rw[h,Da hj]
 simp only[B8,hk,hk2,if_false,Option.map_none]
theorem yS.done{tl:List Pl}{ps:List Pr}(h:yS N f way idx xs s j tl ps)(hj:xs.length<=j):B8 N f way idx xs 0 s=some (tl,ps):=by
 unfold yS at h
 rw[h,List.drop_eq_nil_of_le hj]
 simp[B8]
end
section
variable{N:List Nv}{cs:List Int}{a i m:Int}{lv n:Nat}{way s:List Int}
theorem Nw(h:i∈s):∀{n:Nat},By N cs n a lv i way s=none
 | 0=>rfl
 | _+1=>if_pos h
theorem N0(h:(eR N cs i).isSome=false):∀{n:Nat},By N cs n a lv i way s=none
 | 0=>rfl
 | n+1=>by
  unfold By
  cases hb:eR N cs i with
  | none=>split<;>rfl
  | some m=>rw[hb] at h;cases h
theorem Jr(h:¬i∈s)(h2:eR N cs i=some m)(h3:(cG N m).kind=5∨(cG N m).kind=6):By N cs (n+1) a lv i way s=some ([⟨i,m,a,lv,way⟩],rR (cG N m)):=by
 unfold By
 rw[if_neg h,h2,Option.bind_some,if_pos h3]
theorem ns(h:¬i∈s)(h2:eR N cs i=some m)(h3:¬((cG N m).kind=5∨(cG N m).kind=6)):By N cs (n+1) a lv i way s=(B8 N (λ b w s=>By N cs n i (lv+1) b w s) way (pJ (cG N m).bm.toNat 64) (cG N m).xs 0 (s++[i])).map λ q=>(⟨i,m,a,lv,way⟩::q.1,q.2):=by
 rw[By]
 rw[if_neg h,h2,Option.bind_some,if_neg h3]
end
end

/- Views: Contents and Inner. -/
end Go.Ct
namespace Go.Proofs.YtpobgmdalcpomaaGreat
section
open Go Go.RowKit Go.Ct
section
variable{L:List aQ}{cs:List Int}{gen:Int}{pn pc:Option Addr}{cn cc:Nat}{w:World}
theorem Fe(h:fV w L cs pn pc)(hl:L.length<=274877906944)(hc:cs.length<=274877906944)(hcn:L.length<=cn)(hp:dK L cs gen):Calls Tryz.prog 41 #[kJ L cs gen pn cn pc cc] w λ e w'=>e=.returned (.bool true)/\St w [] [] w':=by
 refine enter Tryz.func41 Tryz.ntmps41 rfl rfl h.start ?_
 simp only[dB]
 simp only[kJ]
 all_goals (refine J0 ?_;refine bM (λ x1=>?_);refine J1 ?_;refine iU ?_;(refine aF (Y0 (hc:=λ w1 hw=>td (h.kC hw) hl hc hcn hp)) (λ x7=>?_);try (refine aB (λ h7=>?_)));refine pZ ?_;refine J8 ?_;refine J2 ?_;refine P0 ?_)
 all_goals
 refine aR Tryz.results41 (λ w hw=>?_)
 exact⟨rfl,hw.done⟩
theorem Qm(h:fV w L cs pn pc)(hl:L.length<=274877906944)(hc:cs.length<=274877906944)(hp:¬dK L cs gen):Calls Tryz.prog 41 #[kJ L cs gen pn cn pc cc] w λ e w'=>e=.returned (.bool false)/\St w [] [] w':=by
 refine enter Tryz.func41 Tryz.ntmps41 rfl rfl h.start ?_
 simp only[dB]
 simp only[kJ]
 all_goals (refine J0 ?_;refine bM (λ x1=>?_);refine J1 ?_;refine iU ?_;(refine aF (cV (hc:=λ w1 hw=>te (h.kC hw) hl hc hp)) (λ x7=>?_);try (refine aB (λ h7=>?_)));refine pZ ?_;refine J8 ?_;refine J2 ?_;refine P0 ?_)
 all_goals
 refine aR Tryz.results41 (λ w hw=>?_)
 exact⟨rfl,hw.done⟩
theorem A8(h:fV w L cs pn pc)(hl:L.length<=274877906944)(hc:cs.length<=274877906944)(hcn:L.length<=cn):Calls Tryz.prog 41 #[kJ L cs gen pn cn pc cc] w λ e w'=>∃r:Bool,e=.returned (.bool r)/\(r=true↔dK L cs gen)/\St w [] [] w':=by
 by_cases hp:dK L cs gen
 ·exact(Fe h hl hc hcn hp).mono λ _ _ h=>⟨true,h.1,⟨λ _=>hp,λ _=>rfl⟩,h.2⟩
 ·exact(Qm h hl hc hp).mono λ _ _ h=>⟨false,h.1,⟨(λ h=>nomatch h),λ h=>absurd h hp⟩,h.2⟩
theorem sO(hp:dK L cs gen)(hr:lD L)(hl:L.length<=274877906944):V9 L cs:=by
 have hd:∀x:Int,B5 x L.length->x<=9223372036854775807:=λ x h=>by have:=h.2;omega
 refine⟨λ c=>?_,λ r=>?_,λ r=>?_,λ r=>?_,λ r=>?_,λ r=>?_,λ r=>?_⟩
 ·unfold bY
  split
  ·exact hd _ (hp.cells _ (by omega))
  ·decide
 ·unfold aD
  split
  ·exact hd _ (hp.nodes (r-1).toNat (by omega)).2.2.2.1
  ·decide
 ·unfold aD
  split
  ·exact hd _ (hp.nodes (r-1).toNat (by omega)).2.2.2.2.2
  ·decide
 ·unfold aD
  split
  ·exact(hr _ (fX (by omega))).main
  ·decide
 ·unfold aD
  split
  ·exact(hr _ (fX (by omega))).prev
  ·decide
 ·unfold aD
  split
  ·exact(hr _ (fX (by omega))).status
  ·decide
 ·unfold aD
  split
  ·intro b hb
   obtain⟨i,hi,rfl⟩:=List.mem_iff_getElem.1 hb
   have:=(hp.nodes (r-1).toNat (by omega)).2.2.1 i hi
   rw[gdg,List.getElem?_eq_getElem hi] at this
   exact hd _ this
  ·intro b hb
   cases hb
open Classical in
noncomputable def nN (L:List aQ) (cs:List Int) (gen:Int) (c:Int):Option (List Int):=if dK L cs gen then(fU (L.map aQ.c) cs c).bind λ r=>zY (L.map aQ.c) cs 12 r [] else none
theorem zC(hp:dK L cs gen){c:Int}:nN L cs gen c=(fU (L.map aQ.c) cs c).bind λ r=>zY (L.map aQ.c) cs 12 r []:=if_pos hp
theorem zE{c r:Int}(h:fU (L.map aQ.c) cs c=some r):∃k:Nat,r=((k+1:Nat):Int)/\k<L.length:=by
 unfold fU at h
 split at h
 ·rename_i hk
  cases h
  have:=eS (N:=L.map aQ.c) (i:=oB (L.map aQ.c) cs c) (by omega)
  rw[List.length_map] at this
  exact⟨(oB (L.map aQ.c) cs c-1).toNat,by omega,by omega⟩
 ·cases h
theorem H9{o:Option (List Int)}{b:Bool}{q:VQ}{P:Prop}(h:ik o b q/\P)(ho:o=none)(hb:b=true):False:=by
 have h1:=h.1
 rw[ho,hb] at h1
 exact nomatch (show true=false from h1)
theorem Bs(h:fV w L cs pn pc)(hr:lD L)(hl:L.length<=274877906944)(hc:cs.length<=274877906944)(hcn:L.length<=cn)(c:Int)(ro:Bool)(hi:c<=9223372036854775807)(hn:nN L cs gen c=none):Calls Tryz.prog 33 #[kJ L cs gen pn cn pc cc,.agg ⟨[.int .i64 c,.bool ro]⟩] w λ e w'=>e=.returned (.tuple #[.pointer none,.bool false])/\St w [] [] w':=by
  refine enter Tryz.func33 Tryz.ntmps33 rfl rfl (h.start.jK 52 1) ?_
  simp only[dB]
  simp only[kJ]
  all_goals (refine J0 ?_;refine bM (λ x2=>?_);refine bM (λ x3=>?_);refine J8 ?_;refine aT ?_;refine iU ?_;(refine aF (c0 (V:=.bool) (hc:=λ w1 hw=>A8 (h.kC hw) hl hc hcn)) (λ x10=>?_);try (refine aB (λ h10=>?_)));refine kD ?_)
  all_goals
   refine bF (λ c11=>?_) (λ c11=>?_)
   · try exact nv c11
     all_goals refine qE ?_
     all_goals
      refine bH Tryz.results33 (λ w hw=>?_)
      first
       | exact⟨rfl,hw.done⟩
   · try exact nv c11
     all_goals
      have hp:dK L cs gen:=h10.1 (by simpa using c11)
      have hb:=sO hp hr hl
      rw[zC hp] at hn
     all_goals (refine aZ ?_;refine iU ?_;refine bJ ?_;(refine aF (cV (hc:=λ w1 hw=>I4 (h.kC hw) hb hl hc c ro hi)) (λ x15=>?_);try (refine aB (λ h15=>?_)));refine pZ ?_;refine J8 ?_;refine jS ?_;refine kD ?_)
     all_goals
      refine bF (λ c19=>?_) (λ c19=>?_)
      · try exact nv c19
        all_goals refine qE ?_
        all_goals
         refine bH Tryz.results33 (λ w hw=>?_)
         first
          | exact⟨rfl,hw.done⟩
      · try exact nv c19
        all_goals
         obtain⟨r,hrt⟩:=Option.isSome_iff_exists.1 (show(fU (L.map aQ.c) cs c).isSome=true by simpa using c19)
         obtain⟨k,rfl,hk⟩:=zE hrt
         rw[hrt,Option.bind_some] at hn
         rw[hrt,Option.getD_some]
        all_goals (refine iW ?_;refine dL [(0,[]),(1,[]),(2,[]),(3,[]),(4,[0]),(5,[]),(6,[]),(7,[])] ?_;refine bT ?_;refine jP ?_;refine jD ?_;refine qA (h:=λ x24=>?_);refine eT ?_;refine Tk (h:=λ x26=>?_);refine J7 ?_;refine Cy ?_;(refine aF (cM (hs:=[(x26,nu L cs gen pn cn pc cc x24 ⟨[],List.replicate L.length false,none,0⟩ none [] 0)]) (os:=ng L x24 ⟨[],List.replicate L.length false,none,0⟩) (hc:=λ w1 hs=>Kh h.fit hb hl hc x26 x24 none [] 0 12 0 rfl k ⟨[],List.replicate L.length false,none,0⟩ _ w1 hk (Ov.zero _) hs)) (λ x29=>?_);try (refine aB (λ h29=>?_)));refine kD ?_)
        all_goals
         refine bF (λ c30=>?_) (λ c30=>?_)
         · try exact nv c30
           all_goals refine qE ?_
           all_goals
            refine bH Tryz.results33 (λ w hw=>?_)
            first
             | exact⟨rfl,hw.done⟩
             | exact(H9 h29 hn (by simpa using c30)).elim
         · try exact nv c30
           all_goals (refine aZ ?_;refine J2 ?_;refine J8 ?_)
           all_goals
            refine bH Tryz.results33 (λ w hw=>?_)
            first
             | exact⟨rfl,hw.done⟩
             | exact(H9 h29 hn (by simpa using c30)).elim
theorem B0(h:fV w L cs pn pc)(hr:lD L)(hl:L.length<=274877906944)(hc:cs.length<=274877906944)(hcn:L.length<=cn)(c:Int)(ro:Bool)(hi:c<=9223372036854775807){l:List Int}(hn:nN L cs gen c=some l):Calls Tryz.prog 33 #[kJ L cs gen pn cn pc cc,.agg ⟨[.int .i64 c,.bool ro]⟩] w λ e w'=>∃x:Nat×Nat×VQ,e=.returned (.tuple #[.pointer (some ⟨x.1,0,none⟩),.bool true])/\(x.2.2.l=l/\l.length<=L.length)/\SF w [] [(x.1,nu L cs gen pn cn pc cc x.2.1 x.2.2 none [] 0)] [] [] (ng L x.2.1 x.2.2) w':=by
  have hp:dK L cs gen:=by
    unfold nN at hn
    split at hn
    · assumption
    · cases hn
  have hb:=sO hp hr hl
  rw[zC hp] at hn
  obtain⟨r,hrt,hn⟩:=Option.bind_eq_some_iff.1 hn
  obtain⟨k,rfl,hk⟩:=zE hrt
  refine enter Tryz.func33 Tryz.ntmps33 rfl rfl (h.start.jK 52 1) ?_
  simp only[dB]
  simp only[kJ]
  all_goals (refine J0 ?_;refine bM (λ x2=>?_);refine bM (λ x3=>?_);refine J8 ?_;refine aT ?_;refine iU ?_;(refine aF (cV (hc:=λ w1 hw=>Fe (h.kC hw) hl hc hcn hp)) (λ x10=>?_);try (refine aB (λ h10=>?_)));refine kD ?_)
  all_goals
   refine bF (λ c11=>?_) (λ c11=>?_)
   · try exact nv c11
     all_goals refine qE ?_
     all_goals
      refine bH Tryz.results33 (λ w hw=>?_)
      have h1:=h29.1
      rw[hn] at h1
      exact⟨(x26,x24,x29.2),rfl,⟨h1.2,by rw[<- h1.2];exact h29.2.len⟩,hw.ret (List.Sublist.cons_cons _ (List.nil_sublist _)) (aW.jM λ f hf=>(List.not_mem_nil hf).elim) (List.Sublist.refl _)⟩
   · try exact nv c11
     all_goals (refine aZ ?_;refine iU ?_;refine bJ ?_;(refine aF (cV (hc:=λ w1 hw=>by have:=I4 (gen:=gen) (cn:=cn) (cc:=cc) (h.kC hw) hb hl hc c ro hi;rw[hrt] at this;exact this)) (λ x15=>?_);try (refine aB (λ h15=>?_)));refine pZ ?_;refine J8 ?_;refine jS ?_;refine kD ?_)
     all_goals
      refine bF (λ c19=>?_) (λ c19=>?_)
      · try exact nv c19
        all_goals
         simp at c19
        all_goals refine qE ?_
        all_goals
         refine bH Tryz.results33 (λ w hw=>?_)
         have h1:=h29.1
         rw[hn] at h1
         exact⟨(x26,x24,x29.2),rfl,⟨h1.2,by rw[<- h1.2];exact h29.2.len⟩,hw.ret (List.Sublist.cons_cons _ (List.nil_sublist _)) (aW.jM λ f hf=>(List.not_mem_nil hf).elim) (List.Sublist.refl _)⟩
      · try exact nv c19
        all_goals (refine iW ?_;refine dL [(0,[]),(1,[]),(2,[]),(3,[]),(4,[0]),(5,[]),(6,[]),(7,[])] ?_;refine bT ?_;refine jP ?_;refine jD ?_;refine qA (h:=λ x24=>?_);refine eT ?_;refine Tk (h:=λ x26=>?_);refine J7 ?_;refine Cy ?_;(refine aF (cM (hs:=[(x26,nu L cs gen pn cn pc cc x24 ⟨[],List.replicate L.length false,none,0⟩ none [] 0)]) (os:=ng L x24 ⟨[],List.replicate L.length false,none,0⟩) (hc:=λ w1 hs=>Kh h.fit hb hl hc x26 x24 none [] 0 12 0 rfl k ⟨[],List.replicate L.length false,none,0⟩ _ w1 hk (Ov.zero _) hs)) (λ x29=>?_);try (refine aB (λ h29=>?_)));refine kD ?_)
        all_goals
         refine bF (λ c30=>?_) (λ c30=>?_)
         · try exact nv c30
           all_goals
            exfalso
            have h1:=h29.1
            rw[hn] at h1
            have h2:=h1.1
            simp_all
           all_goals refine qE ?_
           all_goals
            refine bH Tryz.results33 (λ w hw=>?_)
            have h1:=h29.1
            rw[hn] at h1
            exact⟨(x26,x24,x29.2),rfl,⟨h1.2,by rw[<- h1.2];exact h29.2.len⟩,hw.ret (List.Sublist.cons_cons _ (List.nil_sublist _)) (aW.jM λ f hf=>(List.not_mem_nil hf).elim) (List.Sublist.refl _)⟩
         · try exact nv c30
           all_goals (refine aZ ?_;refine J2 ?_;refine J8 ?_)
           all_goals
            refine bH Tryz.results33 (λ w hw=>?_)
            have h1:=h29.1
            rw[hn] at h1
            exact⟨(x26,x24,x29.2),rfl,⟨h1.2,by rw[<- h1.2];exact h29.2.len⟩,hw.ret (List.Sublist.cons_cons _ (List.nil_sublist _)) (aW.jM λ f hf=>(List.not_mem_nil hf).elim) (List.Sublist.refl _)⟩
end
end

/- Literals of lists that may be changed. -/
end Go.Proofs.YtpobgmdalcpomaaGreat
namespace Go.Ct
section
open Go Go.RowKit
section
variable{P:Program}{S:List (Nat×Value)}{G:World->Prop}{d:Nat}{ty t t' e:TypeId}{pos:String}{af:Array Edge}{gd:Option (Nat×Bool)}{x y:Operand}{w0 w:World}{M:List Nat}{H:List (Nat×Obj)}{A F:Fr}{O:List Ow}{a:Option Addr}
theorem SF.yx{b c sz:Nat}{cs:List Value}{T:TypeId}(h:SF w0 M ((b,.cells ⟨cs⟩ T (0,0))::H) A F O w)(hl:cs.length=c*sz):SF w0 M H A F (⟨some ⟨b,0,none⟩,cs,c,T,sz⟩::O) w:=by
 have hp:(Ks H (⟨some ⟨b,0,none⟩,cs,c,T,sz⟩::O)).Perm (Ks ((b,.cells ⟨cs⟩ T (0,0))::H) O):=by
  unfold Ks
  simp only[List.flatMap_cons,iK,List.map_cons,List.cons_append,List.nil_append]
  exact List.perm_middle
 have hb:=h.st.has (b,.cells ⟨cs⟩ T (0,0)) (List.mem_cons_self ..)
 have hn:=h.st.new (b,.cells ⟨cs⟩ T (0,0)) (List.mem_cons_self ..)
 refine⟨h.st.sub (List.sublist_cons_self ..),λ f hf=>⟨(h.cE f hf).1,λ hc hm=>(h.cE f hf).2 hc (hp.mem_iff.1 hm)⟩,λ f hf=>⟨(h.new f hf).1,λ hc=>⟨λ hm=>((h.new f hf).2 hc).1 (hp.mem_iff.1 hm),((h.new f hf).2 hc).2⟩⟩,λ o ho=>?_,hp.nodup_iff.2 h.dis⟩
 rcases List.mem_cons.1 ho with rfl|ho
 ·refine⟨.inr ⟨b,[],rfl,by simpa using hb,by simpa using hl⟩,λ k hk=>?_⟩
  simp only[iK,List.mem_singleton] at hk
  subst hk
  exact hn.symm
 ·exact h.own o ho
theorem Nu{len:Nat}{parts:List (Nat×Operand)}{ps:List (Nat×Value)}{zc cs:List Value}{sz:Nat}(he:eD P t e zc)(hv:jQ S parts=ps)(hlen:ps.length=len)(hidx:ps.map Prod.fst=List.range' 0 ps.length)(h1:(ps.all λ p=>Nat.beq (mJ p.2).length zc.length)=true)
  (hpos:(Nat.blt 0 len&&Nat.blt 0 zc.length&&Nat.ble (len*zc.length) 16777216)=true) (hcs:Bw ps=cs) (hsz:cs.length=len*sz) :
  aP P S (SF w0 M H A F O) ⟨some d,.buildSlice t len ⟨parts⟩,ty,pos,af,gd⟩ Nat (λ b=>.slice (some ⟨b,0,none⟩) len len) (λ b=>SF w0 M H A F (⟨some ⟨b,0,none⟩,cs,len,e,sz⟩::O)) :=
 (fQ λ _=>cS he hv hlen hidx h1 hpos hcs).conv λ b w h=>h.yx hsz
end
end

end Go.Ct

/- The reference of views: the places of a trie. -/
import Derived.Test.YtadnboagdhcedaaGreatDoorGSh31
import Derived.Test.YtadnboagdhcedaaGreatDoorGSh9
set_option linter.unusedSimpArgs false
set_option linter.unusedVariables false
namespace Go.Ct
open Go Go.RowKit
structure En where
 ok:Bool
 l:List sJ
 lp:Option Addr
 lc:Nat
 ps:List Pr
 pp:Option Addr
 pc:Nat
 sn:List Bool
 own:Bool
structure PlY where
 j:Nat
 tl:List sJ
 lp:Option Addr
 lc:Nat
 ps:List Pr
 pp:Option Addr
 pc:Nat
 sn:List Bool
def En.pf(x:En):Fr:=if x.own=true then [(x.pp,dK x.ps)] else []
def En.fr(x:En):Fr:=(x.lp,qQ x.l)::(Ik x.l.tail++x.pf)
def Vs(n:Nat)(vs:List Bool)(s:List Int):Prop:=Ro (n+1) vs (s.map (· + 1))
theorem Vs.zero(n:Nat):Vs n (List.replicate (n+1) false) []:=Ro.zero _
theorem iz{s:List Int}{k:Int}:k+1∈s.map (· + 1)↔k∈s:=by
 rw[List.mem_map]
 exact⟨λ⟨a,h,e⟩=>by rw[show k=a by omega];exact h,λ h=>⟨k,h,rfl⟩⟩
theorem Vs.mem{n k:Nat}{vs:List Bool}{s:List Int}(h:Vs n vs s)(hk:k<=n):vs.getD k false=true↔(k:Int)∈s:=by
 rw[h.2.1 k (by omega)]
 rw[show((k+1:Nat):Int)=(k:Int)+1 by omega]
 exact iz
theorem Vs.set{n k:Nat}{vs:List Bool}{s:List Int}(h:Vs n vs s)(hk:k<=n)(hf:vs.getD k false=false):Vs n (vs.set k true) (s++[(k:Int)]):=by
 have:=Ro.set h (k:=k) (by omega) hf;unfold Vs;rw[List.map_append];exact this
theorem Vs.len{n:Nat}{vs:List Bool}{s:List Int}(h:Vs n vs s):s.length<=n+1:=by have:=Ro.len h;rw[List.length_map] at this;exact this
def N0(L:List aI)(B:Nat)(wp:Option Addr)(wc:Nat)(s:List Int)(o:Option (List Pl×List Pr))(x:En):Prop:=x.sn.length=L.length+1/\match o with
 | none=>x.ok=false
 | some q=>x.ok=true/\x.l.map sJ.p=q.1/\x.ps=q.2/\(∃p tl,x.l=⟨p,wp,wc⟩::tl)/\(x.own=false->(x.pp,dK x.ps)∈bD L)/\Vs L.length x.sn (s++q.1.map Pl.i)/\x.ps.length<=x.l.length*(B+64)
theorem N0.one{L:List aI}{B:Nat}{wp lp pp:Option Addr}{wc lc pc:Nat}{s way:List Int}{i r a:Int}{lv:Nat}{sn:List Bool}{ps:List Pr}{own:Bool}{o:Option (List Pl×List Pr)}(h1:sn.length=L.length+1)(he:o=some ([⟨i,r,a,lv,way⟩],ps))(hf:own=false->(pp,dK ps)∈bD L)(hv:Vs L.length sn (s++[i]))(hb:ps.length<=B+64) :
  N0 L B wp wc s o ⟨true,[⟨⟨i,r,a,lv,way⟩,wp,wc⟩],lp,lc,ps,pp,pc,sn,own⟩:=⟨h1,by rw[he];exact⟨rfl,rfl,rfl,⟨_,_,rfl⟩,hf,hv,by simpa using hb⟩⟩
theorem N0.yes{L:List aI}{B:Nat}{wp:Option Addr}{wc:Nat}{s:List Int}{o:Option (List Pl×List Pr)}{x:En}(h:N0 L B wp wc s o x)(hk:x.ok=true):∃q,o=some q/\x.l.map sJ.p=q.1/\x.ps=q.2/\(∃p tl,x.l=⟨p,wp,wc⟩::tl)/\(x.own=false->(x.pp,dK x.ps)∈bD L)/\Vs L.length x.sn (s++q.1.map Pl.i)/\x.ps.length<=x.l.length*(B+64):=by
 cases o with
 | none=>have:=h.2;rw[hk] at this;cases this
 | some q=>exact⟨q,rfl,h.2.2⟩
theorem N0.aCQ{L:List aI}{B:Nat}{wp:Option Addr}{wc:Nat}{s:List Int}{o:Option (List Pl×List Pr)}{x:En}(h:N0 L B wp wc s o x)(hk:x.ok=false):o=none:=by
 cases o with
 | none=>rfl
 | some q=>have:=h.2.1;rw[hk] at this;cases this
theorem N0.no{L:List aI}{B:Nat}{wp:Option Addr}{wc:Nat}{s:List Int}{o:Option (List Pl×List Pr)}{x:En}(e:o=none)(h1:x.sn.length=L.length+1)(h2:x.ok=false):N0 L B wp wc s o x:=⟨h1,by rw[e];exact h2⟩
theorem En.fin{L:List aI}{A F:Fr}{O:List Ow}{x:En}(h:x.own=false->(x.pp,dK x.ps)∈bD L)(hF:∀f∈x.fr,f∈F)(hA:∀f∈bD L,f∈A):pS A F O x.pp (dK x.ps):=by
 cases ho:x.own with
 | true=>exact .new (nP.eI (hF _ (List.mem_cons_of_mem _ (List.mem_append_right _ (by unfold En.pf;rw[if_pos ho];exact List.mem_cons_self ..)))))
 | false=>exact .bO (nP.eI (hA _ (h ho)))
theorem Br{N:List Nv}{cs:List Int}{n lv:Nat}{a i:Int}{way s:List Int}{q:List Pl×List Pr}(h:tU N cs n a lv i way s=some q):∃m t,q.1=⟨i,m,a,lv,way⟩::t:=by
 cases n with
 | zero=>cases h
 | succ n =>
  unfold tU at h
  split at h
  ·cases h
  obtain⟨m,_,h⟩:=Option.bind_eq_some_iff.1 h
  split at h
  ·cases h;exact⟨m,[],rfl⟩
  ·obtain⟨t,_,h⟩:=Option.map_eq_some_iff.1 h
   subst h
   exact⟨m,t.1,rfl⟩
def Few(L:List aI)(B:Nat):Prop:=(∀r,(aA L r).ys.length<=B/\(aA L r).xs.length<=64)/\(L.length+1)*(B+64)<=549755813888
end Go.Ct
namespace Go.Proofs.YtadnboagdhcedaaGreatDoor
open Go Go.RowKit Go.Ct
section
variable{L:List aI}{cs:List Int}{gen:Int}{pn pc:Option Addr}{cn cc:Nat}{w:World}
theorem Gi:dY Tryz.prog 97 102 [.int .i64 0,.int .i64 0,.int .i64 0,.int .i64 0,.slice none 0 0]:=mS (z:=.agg ⟨[.int .i64 0,.int .i64 0,.int .i64 0,.int .i64 0,.slice none 0 0]⟩) (by kernel_rfl) (by kernel_rfl) rfl
abbrev mu(L:List aI)(pv:Nat)(sn:List Bool):Ow:=⟨some ⟨pv,0,none⟩,iV sn,L.length+1,4,1⟩
def w6(L:List aI)(cs:List Int)(gen:Int)(pn:Option Addr)(cn:Nat)(pc:Option Addr)(cc:Nat)(B pv:Nat)(n:Nat):Prop:=∀(lv:Nat),lv+n=12->∀(k:Nat) (a mm:Int) (way:List Int) (wp:Option Addr) (wc:Nat) (s:List Int) (sn:List Bool) (D:List Nat) (w:World),k<L.length->way.length=lv->way.length<=wc->Vs L.length sn s->SF w D [] ((pn,fX L)::(pc,aH cs)::(wp,aH way)::bD L) [] [mu L pv sn] w ->
  Calls Tryz.prog 60 #[iF L cs gen pn cn pc cc,.agg ⟨[.int .i64 ((k+1:Nat):Int),.int .i64 mm,.int .i64 a,.int .i64 ((lv:Nat):Int),.slice wp way.length wc]⟩,.slice (some ⟨pv,0,none⟩) (L.length+1) (L.length+1)] w λ e w'=>∃x:En,e=.returned (.tuple #[.slice x.lp x.l.length x.lc,.slice x.pp x.ps.length x.pc,.bool x.ok])/\N0 L B wp wc s (tU (L.map aI.c) cs n a lv ((k+1:Nat):Int) way s) x/\SF w D [] [] x.fr [mu L pv x.sn] w'
theorem Y3(h0:Fits L)(hb:mj L cs)(hl:L.length<=274877906944)(hc:cs.length<=274877906944)(B pv:Nat)(n lv:Nat)(hn:lv+n=12)(k:Nat)(a mm:Int)(way:List Int)(wp:Option Addr)(wc:Nat)(s:List Int)(sn:List Bool)(D:List Nat)(w:World)(hk:k<L.length)(hv:Vs L.length sn s)
  (hno:(dB (L.map aI.c) cs ((k+1:Nat):Int)).isSome=false∨n=0∨((k+1:Nat):Int)∈s) (hs:SF w D [] ((pn,fX L)::(pc,aH cs)::(wp,aH way)::bD L) [] [mu L pv sn] w) :
  Calls Tryz.prog 60 #[iF L cs gen pn cn pc cc,.agg ⟨[.int .i64 ((k+1:Nat):Int),.int .i64 mm,.int .i64 a,.int .i64 ((lv:Nat):Int),.slice wp way.length wc]⟩,.slice (some ⟨pv,0,none⟩) (L.length+1) (L.length+1)] w λ e w'=>∃x:En,e=.returned (.tuple #[.slice x.lp x.l.length x.lc,.slice x.pp x.ps.length x.pc,.bool x.ok])/\N0 L B wp wc s (tU (L.map aI.c) cs n a lv ((k+1:Nat):Int) way s) x/\SF w D [] [] x.fr [mu L pv x.sn] w':=by
 have hvl:sn.length=L.length+1:=hv.1
 have hno2:(dB (L.map aI.c) cs ((k+1:Nat):Int)).isSome=false∨n=0∨sn.getD (k+1) false=true:=by
  rcases hno with h|h|h
  ·exact .inl h
  ·exact .inr (.inl h)
  ·exact .inr (.inr ((hv.mem (k:=k+1) (by omega)).2 h))
 have hplc:tU (L.map aI.c) cs n a lv ((k+1:Nat):Int) way s=none:=by
  rcases hno with h|h|h
  ·exact Qv h
  ·subst h;exact rfl
  ·exact Ps h
 rw[hplc];refine enter Tryz.func60 Tryz.ntmps60 rfl rfl hs ?_;simp only[cP]
 simp only[iF]
 refine K1r ?_;intro x3;refine bF (λ x4=>?_);refine dL (λ _=>?_);refine J8 ?_;refine iH ?_;refine J3 ?_;refine aS (cV (hc:=λ w1 hw=>Wh (hw.kB (.inr (.inl (.head _))) (.inr (.inl (.tail _ (.head _)))) (λ f hf=>.inr (.inl (.tail _ (.tail _ (.tail _ hf))))) h0) hb hl hc ((k+1:Nat):Int) (by omega))) (λ x22=>?_);refine Kb1 ?_;refine C6 ?_;(refine eM 27 (λ g27=>?_) (λ g27=>?_)<;>refine Ka1 ?_);all_goals (refine Ka2 ?_;refine Aj ?_;refine aB ?_)
 all_goals (first|refine aJ ?_|(refine eM 32 (λ g32=>?_) (λ g32=>?_)<;>refine Ka0 ?_))
 all_goals (refine J6 ?_;(first|refine aJ ?_|(refine aF ?_;refine aE (lE (k:=k+1) rf rf eC dC fin (by omega) (by omega)) rfl ?_));(first|refine aJ ?_|(refine aF ?_;refine aE (yC (q:=k+1) rf dC fin (by omega)) rfl ?_));refine cI ?_;refine aK ?_)
 all_goals
 refine bA (λ c38=>?_) (λ c38=>?_)
 ·all_goals try (first|(exact abt)|(exfalso;omega))
  all_goals (refine J0 ?_;refine dL (λ _=>?_);refine J8 ?_)
  all_goals
   refine bK Tryz.results60 (λ w hw=>?_);exact⟨⟨false,[],none,0,[],none,0,sn,false⟩,rfl,⟨hvl,rfl⟩,(hw.fN (F':=[(none,qQ [])]) (by intro f hf;rw[List.mem_singleton.1 hf];exact .inl rfl)).aQ⟩
 ·try exact nv c38
  all_goals
   (exfalso;(rcases hno2 with h|h|h);(rw[h] at g27;cases g27);(exfalso;omega);(rw[h] at c38;cases c38))
theorem zs{L:List aI}{B:Nat}{f:Int->List Int->List Int->Option (List Pl×List Pr)}{way ix xs s:List Int}{y:PlY}{x:En}{q:Nat}{qq:List Pl×List Pr}{p1 p2:Option Addr}{c1 c2:Nat}(h1:B5 (L.map aI.c) f way ix xs s y.j (y.tl.map sJ.p) y.ps)(hjl:y.j<xs.length)(hj:xs.getD y.j 0=((q+1:Nat):Int))(hkd:(bH (L.map aI.c) ((q+1:Nat):Int)).kind=2)
  (hq1:f ((q+1:Nat):Int) (way++[ix.getD y.j 0]) (s++(y.tl.map sJ.p).map Pl.i)=some qq) (e1:x.l.map sJ.p=qq.1) (e2:x.ps=qq.2) (e5:Vs L.length x.sn ((s++(y.tl.map sJ.p).map Pl.i)++qq.1.map Pl.i)) (e6:x.ps.length<=x.l.length*(B+64)) (hb:y.ps.length+(64-y.j)<=(y.tl.length+1)*(B+64)) :
  (⟨y.j+1,y.tl++x.l,p1,c1,y.ps++x.ps,p2,c2,x.sn⟩:PlY).j<=xs.length/\B5 (L.map aI.c) f way ix xs s (y.j+1) ((y.tl++x.l).map sJ.p) (y.ps++x.ps)/\Vs L.length x.sn (s++((y.tl++x.l).map sJ.p).map Pl.i)/\(y.ps++x.ps).length+(64-(y.j+1))<=((y.tl++x.l).length+1)*(B+64):=by
 refine⟨hjl,?_,?_,?_⟩
 ·have:=B5.inner h1 hjl (by rw[hj];exact hkd) (by rw[hj];exact hq1);rw[List.map_append,e1,e2];exact this
 ·rw[List.map_append,List.map_append,e1,<- List.append_assoc]
  exact e5
 ·rw[List.length_append,List.length_append,show y.tl.length+x.l.length+1=(y.tl.length+1)+x.l.length by omega,Nat.add_mul]
  omega
theorem Q7(a b:List sJ):Ik (a++b)=Ik a++Ik b:=by simp[Ik]
theorem zk{w0 w:World}{M:List Nat}{H:List (Nat×Obj)}{A:Fr}{T T2 T3:TypeId}{pp lp wp:Option Addr}{kp kl wc:Nat}{psC:List Value}{ix wy:List Int}{ip:Option Addr}{x:En}{hd:sJ}{tl t0:List sJ}{p0:Pl}{sw:Ow}{b:Nat×Obj}
  (hw:SF w0 M (b::H) A (x.fr++(ip,aH ix)::Ik tl) [⟨wp,aH wy,wc,T,1⟩,⟨pp,psC,kp,T2,2⟩,⟨lp,qQ (hd::tl)++qQ x.l,kl,T3,5⟩,sw] w) (e3:x.l=⟨p0,wp,wc⟩::t0) (e8:p0.way=wy) :
  SF w0 M H A ((ip,aH ix)::Ik (tl++x.l)) [⟨pp,psC,kp,T2,2⟩,⟨lp,qQ (hd::(tl++x.l)),kl,T3,5⟩,sw] w:=by
 rw[<- List.cons_append,O8];refine SF.back (SF.fN (F':=(ip,aH ix)::Ik (tl++x.l)) (hw.freeze .head) λ f hf=>?_) (hH:=List.sublist_cons_self ..) (hF:=aP.all);rw[Q7] at hf;rcases List.mem_cons.1 hf with rfl|hf
 ·exact .inr (.tail _ (List.mem_append_right _ (.head _)))
 rcases List.mem_append.1 hf with hf|hf
 ·exact .inr (.tail _ (List.mem_append_right _ (.tail _ hf)))
 ·rw[e3] at hf
  rcases List.mem_cons.1 hf with rfl|hf
  ·show aH p0.way=[]∨(wp,aH p0.way)∈_
   rw[e8]
   exact .inr (.head _)
  ·refine .inr (.tail _ (List.mem_append_left _ (.tail _ (List.mem_append_left _ ?_))));rw[e3];exact hf
theorem aAB{L:List aI}{B:Nat}{wp lp pp:Option Addr}{wc lc pc:Nat}{s way:List Int}{i r a:Int}{lv:Nat}{o:Option (List Pl×List Pr)}{y:PlY}(h:Vs L.length y.sn ((s++[i])++(y.tl.map sJ.p).map Pl.i))(ho:o=some (⟨i,r,a,lv,way⟩::y.tl.map sJ.p,y.ps))(hb:y.ps.length+(64-y.j)<=(y.tl.length+1)*(B+64)) :
  N0 L B wp wc s o ⟨true,⟨⟨i,r,a,lv,way⟩,wp,wc⟩::y.tl,lp,lc,y.ps,pp,pc,y.sn,true⟩:=by
 refine⟨h.1,?_⟩
 rw[ho]
 refine⟨rfl,rfl,rfl,⟨_,_,rfl⟩,(λ e=>nomatch e),?_,?_⟩
 ·rw[List.append_assoc] at h
  exact h
 ·show y.ps.length<=(y.tl.length+1)*(B+64)
  omega
theorem aCk{ip lp pp wp:Option Addr}{wc lc pc:Nat}{ix:List Value}{p:Pl}{ps:List Pr}{sn:List Bool}(tl:List sJ):∀f∈(⟨true,⟨p,wp,wc⟩::tl,lp,lc,ps,pp,pc,sn,true⟩:En).fr,f.2=[]∨f∈(lp,qQ (⟨p,wp,wc⟩::tl))::(pp,dK ps)::(ip,ix)::Ik tl:=by
 intro f hf
 rcases List.mem_cons.1 hf with rfl|hf
 ·exact .inr (.head _)
 rcases List.mem_append.1 hf with hf|hf
 ·exact .inr (.tail _ (.tail _ (.tail _ hf)))
 ·rw[show(⟨true,⟨p,wp,wc⟩::tl,lp,lc,ps,pp,pc,sn,true⟩:En).pf=[(pp,dK ps)] from rfl] at hf
  rw[List.mem_singleton.1 hf]
  exact .inr (.tail _ (.head _))
set_option maxRecDepth 100000 in
set_option maxHeartbeats 2000000 in
theorem Jg(h0:Fits L)(hb:mj L cs)(hl:L.length<=274877906944)(hc:cs.length<=274877906944)(hbm:∀r,∃b:Nat,b<18446744073709551616/\(aA L r).nd.bm=(b:Int)/\((aA L r).nd.kind=3->(aA L r).xs.length=gB b 64))(B pv:Nat)(hB:Few L B)(n:Nat)(ih:∀m,n=m+1->w6 L cs gen pn cn pc cc B pv m):w6 L cs gen pn cn pc cc B pv n:=by
  intro lv hn k a mm way wp wc s sn D w hk hwl hwc hv hs
  have hvl:sn.length=L.length+1:=hv.1;have hvn:=hv.len;by_cases hno:(dB (L.map aI.c) cs ((k+1:Nat):Int)).isSome=false∨n=0∨((k+1:Nat):Int)∈s
  · exact Y3 h0 hb hl hc B pv n lv hn k a mm way wp wc s sn D w hk hv hno hs
  simp only[not_or] at hno
  obtain⟨hb1,hn0,hnot⟩:=hno
  obtain⟨r,hr⟩:=Option.isSome_iff_exists.1 (show(dB (L.map aI.c) cs ((k+1:Nat):Int)).isSome=true by cases h:(dB (L.map aI.c) cs ((k+1:Nat):Int)).isSome<;>simp_all)
  obtain⟨m,rfl⟩:∃m,n=m+1:=⟨n-1,by omega⟩
  have hnf:sn.getD (k+1) false=false:=by
    cases h:sn.getD (k+1) false with
    | false=>rfl
    | true=>exact absurd ((hv.mem (k:=k+1) (by omega)).1 h) hnot
  have hv2:=hv.set (k:=k+1) (by omega) hnf;have hfr:=Jz h0 r;have hri:=Kb (nM hr).2;rw[List.length_map] at hri;have hrr:r<=9223372036854775807:=by omega
  have hbn:=hfr.brN;have hbs:=hfr.brS;have hpn:=hfr.prN;have hfm:=Uq hri;have hfp:=pa hri;have hbr:=hb.br r;have hB1:=(hB.1 r).1;have hB2:=(hB.1 r).2;obtain⟨bt,hbt,hbe,hbl⟩:=hbm r
  obtain⟨ix,hix⟩:∃ix,ix=fZ bt 64:=⟨_,rfl⟩
  have hpl:¬(aA L r).nd.kind=5->¬(aA L r).nd.kind=6->tU (L.map aI.c) cs (m+1) a lv ((k+1:Nat):Int) way s=(yQ (L.map aI.c) (λ b w s=>tU (L.map aI.c) cs m ((k+1:Nat):Int) (lv+1) b w s) way ix (aA L r).xs 0 (s++[((k+1:Nat):Int)])).map λ q=>(⟨((k+1:Nat):Int),r,a,lv,way⟩::q.1,q.2):=by
    intro h5 h6
    rw[us hnot hr (by rw[bG];exact λ h=>h.elim h5 h6),wY]
    rw[bG,show(aA L r).c.bm=(bt:Int) from hbe,Int.toNat_natCast,<- hix]
  have hv3:=hv2.len;refine enter Tryz.func60 Tryz.ntmps60 rfl rfl (hs.R9 (a':=(aA L r).nd.brA) (cs':=aH (aA L r).xs) (.bO (.tail (.tail (.tail (nP.eI hfm))))) (λ _=>rfl) (λ h=>h) (λ w h=>h)) ?_;simp only[cP]
  simp only[iF]
  refine K1r ?_;intro x3;refine bF (λ x4=>?_);refine dL (λ _=>?_);refine J8 ?_;refine iH ?_;refine J3 ?_;refine aS (cV (hc:=λ w1 hw=>by have:=Wh (gen:=gen) (cn:=cn) (cc:=cc) (hw.kB (.inr (.inl (.tail _ (.head _)))) (.inr (.inl (.tail _ (.tail _ (.head _))))) (λ f hf=>.inr (.inl (.tail _ (.tail _ (.tail _ (.tail _ hf)))))) h0) hb hl hc ((k+1:Nat):Int) (by omega);rw[hr] at this;exact this)) (λ x22=>?_);refine Kb1 ?_;refine C6 ?_;(refine aF ?_;refine aC ?_);((refine aF ?_;refine bI ?_));refine Aj ?_;refine aB ?_;(refine eM 32 (λ g32=>?_) (λ g32=>?_)<;>(try ((exfalso;omega)))<;>((refine Ka4 ?_)));refine J6 ?_;((refine aF ?_;refine aE (lE (k:=k+1) rf rf eC dC fin (by omega) (by omega)) rfl ?_));((refine aF ?_;refine aE (yC (q:=k+1) rf dC fin (by omega)) rfl ?_));refine cI ?_;refine aK ?_;refine bA (λ c38=>?_) (λ c38=>?_)
  · try (first|(exact abt)|(exfalso;omega))
    (exfalso;simp_all)
  · try (first|(exact abt)|(exfalso;omega))
    refine Kb3 ?_;refine J3 ?_;refine aE (lE (k:=k+1) rf rf eC dC fin (by omega) (by omega)) rfl ?_;refine J5 ?_;refine J2 ?_;refine zV ?_;refine iH ?_;refine aS (Px (sz:=5) (cs:=qQ [⟨⟨((k+1:Nat):Int),r,a,lv,way⟩,wp,wc⟩]) Gi Ih rf rf rf rf rf rf) (λ x46=>?_);refine J1 ?_;refine vP ?_;refine aS (cV (hc:=λ w1 hw=>jR (hw.kB (.inr (.inl (.tail _ (.head _)))) (.inr (.inl (.tail _ (.tail _ (.head _))))) (λ f hf=>.inr (.inl (.tail _ (.tail _ (.tail _ (.tail _ hf)))))) h0) r (by omega) hl)) (λ x49=>?_);refine aT (λ x10=>?_);refine Ke6 ?_;refine Kd4 ?_;refine bA (λ c52=>?_) (λ c52=>?_)
    · try (first|(exact abt)|(exfalso;omega))
      refine aV ?_;refine Bt [6,7,8,54,55,56,57,58,59,60] (λ z:Nat=>[(6,.slice (some ⟨x46,0,none⟩) 1 1),(60,.slice (some ⟨z,0,none⟩) 1 1),(7,.slice (some ⟨z,0,none⟩) 1 1),(8,.bool true)]) (λ z=>True) (λ _=>[]) (λ z=>[(some ⟨z,0,none⟩,dK [((aA L r).nd.key,(aA L r).nd.val)])]) (λ _=>[]) (by decide) (λ _=>by exact rfl) (λ _=>by simp only[List.nil_append,List.cons_append];exact rfl) (λ _=>by simp only[List.nil_append,List.cons_append];exact rfl) (λ _=>by simp only[List.nil_append,List.cons_append];exact rfl) ?_ (λ z f hx=>?_)
      · refine fY (.one 0 [] (.one 1 [] (.one 2 [] (.one 3 [] (.one 4 [] (.one 5 [] (.two 6 [] (.one 7 [2,4] (.one 8 [] (.one 9 [] .nil))) 0 [] (.two 7 [2,4] (.one 6 [] (.one 8 [] (.one 9 [] .nil))) 0 [] .nil)))))))) ?_;refine aL ?_;refine Ke2 ?_;refine gQ ?_;refine fV (E:=[6,7]) (by decide +kernel) ((.cons ?_ (.cons ?_ .nil)))
        · refine jE (i:=6) (h:=λ x60=>?_);refine nR (h:=λ _=>?_);refine Sq ?_;refine eQ (x60) ?_
          · trivial
        · refine Xn (i:=7) (h:=λ _=>?_);refine dA (h:=λ x60=>?_);refine Sq ?_;refine eQ (x60) ?_
          · trivial
      refine K0a ?_;refine bK Tryz.results60 (λ w hw=>?_);have hk5:(bH (L.map aI.c) r).kind=5:=by rw[bG];exact c52
      have ho:Qy (aA L r).c=[((aA L r).nd.key,(aA L r).nd.val)]:=if_pos c52;refine⟨⟨true,[⟨⟨((k+1:Nat):Int),r,a,lv,way⟩,wp,wc⟩],some ⟨x46,0,none⟩,1,[((aA L r).nd.key,(aA L r).nd.val)],some ⟨z,0,none⟩,1,sn.set (k+1) true,true⟩,rfl,N0.one (by rw[List.length_set];exact hvl) ((Nb hnot hr (.inl hk5)).trans (by rw[bG,ho])) (λ e=>nomatch e) hv2 (by simp only[List.length_cons,List.length_nil];omega),?_⟩;exact(show SF _ D [] [] [(some ⟨x46,0,none⟩,qQ [⟨⟨((k+1:Nat):Int),r,a,lv,way⟩,wp,wc⟩]),(some ⟨z,0,none⟩,dK [((aA L r).nd.key,(aA L r).nd.val)])] [mu L pv (sn.set (k+1) true)] _ from(hw.freeze .head).aQ)
    · try (first|(exact abt)|(exfalso;omega))
      refine jM ?_;refine bA (λ c61=>?_) (λ c61=>?_)
      · try (first|(exact abt)|(exfalso;omega))
        refine aV ?_;refine dZ [(0,[]),(1,[]),(2,[]),(3,[2]),(4,[]),(5,[])] ?_;refine aL ?_;refine iT ?_;refine nR (h:=λ _=>?_);refine Sq ?_;refine bK Tryz.results60 (λ w hw=>?_);have hk6:(bH (L.map aI.c) r).kind=6:=by rw[bG];exact c61
        have ho:Qy (aA L r).c=(aA L r).ys:=(if_neg (show ¬(aA L r).nd.kind=5 from c52)).trans (if_pos c61);refine⟨⟨true,[⟨⟨((k+1:Nat):Int),r,a,lv,way⟩,wp,wc⟩],some ⟨x46,0,none⟩,1,(aA L r).ys,(aA L r).nd.prA,(aA L r).nd.dK,sn.set (k+1) true,false⟩,by rw[hpn];exact rfl,N0.one (by rw[List.length_set];exact hvl) ((Nb hnot hr (.inr hk6)).trans (by rw[bG,ho])) (λ _=>hfp) hv2 (by omega),?_⟩;exact(show SF _ D [] [] [(some ⟨x46,0,none⟩,qQ [⟨⟨((k+1:Nat):Int),r,a,lv,way⟩,wp,wc⟩])] [mu L pv (sn.set (k+1) true)] _ from(hw.freeze .head).aQ)
      · try (first|(exact abt)|(exfalso;omega))
        refine kN ?_;refine gH ?_;refine aD (cF (hc:=λ w1 hw=>zP hix hbt hbe w1)) (λ x68 h68=>?_);refine gX ?_;refine zR ?_;refine kK [6,7,8,12,13,14,15,16,17,69,70,71,72,73,74,75,76,77,78,79,80,81,82,83,84,85,86,87,88,89,90,91,92,93,94,95,96,97,98,99,100,101,102,103,104,105,106,107,108,109,110,111,112,113,114,115,116,117,118,119,120,121,122,123,124,125,126,127,128,129,130,131,132,133] (λ y:PlY=>[(6,.slice y.lp (y.tl.length+1) y.lc),(7,.slice y.pp y.ps.length y.pc),(12,.int .i64 ((y.j:Nat):Int))]) (λ y=>y.j<=(aA L r).xs.length/\B5 (L.map aI.c) (λ b w s=>tU (L.map aI.c) cs m ((k+1:Nat):Int) (lv+1) b w s) way ix (aA L r).xs (s++[((k+1:Nat):Int)]) y.j (y.tl.map sJ.p) y.ps/\Vs L.length y.sn ((s++[((k+1:Nat):Int)])++(y.tl.map sJ.p).map Pl.i)/\y.ps.length+(64-y.j)<=(y.tl.length+1)*(B+64)) (λ y=>[(x10,.cells ⟨(aA L r).nd.cells⟩ 77 (0,0)),(x4,.cells ⟨[.int .i64 ((k+1:Nat):Int),.int .i64 r,.int .i64 a,.int .i64 ((lv:Nat):Int),.slice wp way.length wc]⟩ 102 (0,0)),(x3,.cells ⟨[.slice pn L.length cn,.slice pc cs.length cc,.int .i64 gen]⟩ 25 (0,0))]) (λ y=>(x68.1,aH ix)::Ik y.tl) (λ y=>[⟨y.pp,dK y.ps,y.pc,137,2⟩,⟨y.lp,qQ (⟨⟨((k+1:Nat):Int),r,a,lv,way⟩,wp,wc⟩::y.tl),y.lc,102,5⟩,mu L pv y.sn]) (λ y=>(aA L r).xs.length-y.j) (⟨0,[],some ⟨x46,0,none⟩,1,[],none,0,sn.set (k+1) true⟩) (⟨Nat.zero_le _,B5.zero,by simpa using hv2,by simp⟩) (λ y f hx=>?_) (hw0:=λ w hw=>(hw.kS 137 2).back);refine K0a ?_;have hy:=hx;refine jL ?_;refine I3 ?_;refine rJ ?_;refine bA (λ c73=>?_) (λ c73=>?_)
        · try (first|(exact abt)|(exfalso;omega))
          have hbk:(aA L r).xs.getD y.j 0<=9223372036854775807:=hbr _ (by rw[gF,List.getElem?_eq_getElem (by omega)];exact List.getElem_mem _)
          have hk3:(aA L r).nd.kind=3:=by
           have:=(nM hr).2;rw[bG] at this;rcases this with h|h|h
           · exact h
           · exact absurd h c52
           · exact absurd h c61
          have hil:ix.length=(aA L r).xs.length:=by rw[hix,Hd,hbl hk3]
          have hjl:y.j<(aA L r).xs.length:=by omega
          have hlen0:=hy.2.2.1.len;simp only[List.length_append,List.length_map,List.length_cons,List.length_nil] at hlen0
          have hmul:(y.tl.length+1)*(B+64)<=549755813888:=Nat.le_trans (Nat.mul_le_mul_right _ (by omega)) hB.2;have hbnd:=hy.2.2.2;refine mZ ?_;refine aV ?_;refine Bt [13,76,77,78,79,80,81,82] (λ z:Nat=>[(82,(aA L ((aA L r).xs.getD y.j 0)).nd.v),(13,.pointer (some ⟨z,0,none⟩))]) (λ z=>True) (λ z=>[(z,.cells ⟨(aA L ((aA L r).xs.getD y.j 0)).nd.cells⟩ 77 (0,0))]) (λ _=>[]) (λ _=>[]) (by decide) (λ _=>by exact rfl) (λ _=>by simp only[List.nil_append,List.cons_append];exact rfl) (λ _=>by simp only[List.nil_append,List.cons_append];exact rfl) (λ _=>by simp only[List.nil_append,List.cons_append];exact rfl) ?_ (λ z f hx=>?_)
          · refine K1t ?_;refine aZ ?_;refine Kd1 ?_;refine Tc ?_;refine fV (E:=[6,7]) (by decide +kernel) ((.cons ?_ (.cons ?_ .nil)))
            · refine Ga (i:=6) (hq:=(cV (hc:=λ w1 hw=>jR (hw.kB (.inr (.inl (.tail _ (.head _)))) (.inr (.inl (.tail _ (.tail _ (.head _))))) (λ f hf=>.inr (.inl (.tail _ (.tail _ (.tail _ (.tail _ hf)))))) h0) ((aA L r).xs.getD y.j 0) (by omega) hl))) (h:=λ x82=>?_);refine gG (hfire:=(λ _=>by(refine aG.cons (by exact bY) ?_;refine aG.cons (by exact bY) ?_;refine aG.cons (by exact lV) ?_;refine aG.cons (by exact bY) ?_;exact aG.nil))) (h:=λ x13=>?_);refine vF ?_;refine eQ (x13) ?_ (hw1:=λ w hw=>hw.zA1)
              · trivial
            · refine gW (i:=7) (hfire:=(λ _=>by(refine aG.cons (by exact bY) ?_;refine aG.cons (by exact bY) ?_;refine aG.cons (by exact lV) ?_;refine aG.cons (by exact bY) ?_;exact aG.nil))) (h:=λ x13=>?_);refine cA (i:=6) (hq:=(cV (hc:=λ w1 hw=>jR (hw.kB (.inr (.inl (.tail _ (.head _)))) (.inr (.inl (.tail _ (.tail _ (.head _))))) (λ f hf=>.inr (.inl (.tail _ (.tail _ (.tail _ (.tail _ hf)))))) h0) ((aA L r).xs.getD y.j 0) (by omega) hl))) (h:=λ x82=>?_);refine vF ?_;refine eQ (x13) ?_ (hw1:=λ w hw=>hw.zA1)
              · trivial
          refine K0a ?_;refine Ce ?_;refine rW ?_;refine bA (λ c85=>?_) (λ c85=>?_)
          · try (first|(exact abt)|(exfalso;omega))
            refine J2 ?_;refine Kd3 ?_;refine bQ ?_;refine fD (λ x92=>?_);(refine fB (λ x93=>?_);try (refine fL (λ h93=>?_)));refine J1 ?_;refine bM rfl ?_;refine sK ?_;refine kD ((by exact⟨y.j+1,y.tl,y.lp,y.lc,y.ps++[((aA L ((aA L r).xs.getD y.j 0)).nd.key,(aA L ((aA L r).xs.getD y.j 0)).nd.val)],x93.1,x93.2,y.sn⟩)) ?_ ?_ (by repeat (first|(with_reducible exact xP.refl)|refine xP.cons (by exact rfl) ?_)) ?_ (λ w hw=>by exact hw.back (hF:=aP.kJ λ f hf=>List.mem_cons_of_mem _ hf))
            · (simp only[];omega)
            · repeat' (first|exact bC _|refine aY ?_ ?_)
              all_goals (first|exact rfl|(conv=>{lhs;whnf};simp;done))
            · (exact⟨by show y.j+1<=_;omega,by have:=B5.single hy.2.1 hjl (by rw[bG];exact c85);rw[bG] at this;exact this,hy.2.2.1,by show(y.ps++[_]).length+(64-(y.j+1))<=(y.tl.length+1)*(B+64);rw[List.length_append,List.length_singleton];omega⟩)
          · try (first|(exact abt)|(exfalso;omega))
            refine jH ?_;refine gH ?_;refine Ka7 ?_;refine bA (λ c96=>?_) (λ c96=>?_)
            · try (first|(exact abt)|(exfalso;omega))
              refine J0 ?_;refine dL (λ _=>?_);refine J8 ?_;refine bK Tryz.results60 (λ w hw=>?_);exact⟨⟨false,[],none,0,[],none,0,y.sn,false⟩,rfl,N0.no ((hpl c52 c61).trans (by rw[B5.bad hy.2.1 hjl (by rw[bG];exact c85) (by rw[bG];exact c96)];rfl)) hy.2.2.1.1 rfl,(hw.fN (F':=[(none,qQ [])]) (by intro f hf;rw[List.mem_singleton.1 hf];exact .inl rfl)).aQ (hO:=.cons _ (.cons _ (List.Sublist.refl _)))⟩
            · try (first|(exact abt)|(exfalso;omega))
              obtain⟨q,hj,hq⟩:∃q:Nat,(aA L r).xs.getD y.j 0=((q+1:Nat):Int)/\q<L.length:=by
               have:=eF (N:=L.map aI.c) (i:=(aA L r).xs.getD y.j 0) (by rw[bG];show(aA L ((aA L r).xs.getD y.j 0)).nd.kind≠0;omega);rw[List.length_map] at this;exact⟨((aA L r).xs.getD y.j 0-1).toNat,by omega,by omega⟩
              have hkd:(bH (L.map aI.c) ((aA L r).xs.getD y.j 0)).kind=2:=by rw[bG];show(aA L ((aA L r).xs.getD y.j 0)).nd.kind=2;omega
              rw[hj] at hkd;refine jH ?_;refine Bt [14,97,98,99,100,101,102,103,104,105,106] (λ u:Option Addr×Nat=>[(14,.slice u.1 (way++[ix.getD y.j 0]).length u.2)]) (λ u=>way.length+1<=u.2) (λ _=>[]) (λ _=>[]) (λ u=>[⟨u.1,aH (way++[ix.getD y.j 0]),u.2,3,1⟩]) (by decide) (λ _=>by exact rfl) (λ _=>by simp only[List.nil_append,List.cons_append];exact rfl) (λ _=>by simp only[List.nil_append,List.cons_append];exact rfl) (λ _=>by simp only[List.nil_append,List.cons_append];exact rfl) ?_ (λ u f hx=>?_)
              · refine fY (.one 1 [] (.one 2 [] (.one 4 [] (.one 5 [] (.one 6 [] (.one 7 [] (.two 0 [2,6,7] (.two 3 [6,7] (.one 8 [2] (.one 9 [] (.one 10 [] .nil))) 0 [] (.two 8 [2] (.one 3 [6,7] (.one 9 [] (.one 10 [] .nil))) 0 [] .nil)) 0 [] (.two 8 [2] (.one 0 [2,6,7] (.one 3 [6,7] (.one 9 [] (.one 10 [] .nil)))) 0 [] .nil)))))))) ?_;refine iT ?_;refine iJ ?_;refine bJ (i:=6) (hq:=(bE (k:=y.j) (lst:=ix) rf rf eC dC fin (by omega) (by omega))) (h:=?_);refine bJ (i:=7) (hq:=(bP (q:=y.j) (lst:=ix) rf dC fin (by omega))) (h:=?_);refine fV (E:=[0,8]) (by decide +kernel) ((.cons ?_ (.cons ?_ .nil)))
                · refine vJ (i:=0) (hfire:=(λ _=>by(refine aG.cons (by exact bY) ?_;refine aG.cons (by exact cG (hq:=bE (k:=y.j) (lst:=ix) rf rf eC dC fin (by omega) (by omega))) ?_;refine aG.cons (by exact cG (hq:=bP (q:=y.j) (lst:=ix) rf dC fin (by omega))) ?_;exact aG.nil))) (h:=λ x97=>?_);refine fV (E:=[3,8]) (by decide +kernel) ((.cons ?_ (.cons ?_ .nil)))
                  · (refine Gg (i:=3) (hfire:=(λ _=>by(refine cQ ?_;refine aG.cons (by exact cG (hq:=bE (k:=y.j) (lst:=ix) rf rf eC dC fin (by omega) (by omega))) ?_;refine aG.cons (by exact cG (hq:=bP (q:=y.j) (lst:=ix) rf dC fin (by omega))) ?_;exact aG.nil))) (h:=λ x100=>?_);try (refine dO (λ h100=>?_)));refine dA (hfire:=(λ _=>by(refine aG.cons (by exact bY) ?_;exact aG.nil))) (h:=λ x105=>?_);((refine fP (h:=λ x106=>?_);try (refine dO (λ h106=>?_))));refine J7 ?_;refine kD (x106) (by decide) ?_ (by repeat (first|(with_reducible exact xP.refl)|refine xP.cons (by exact rfl) ?_)) ?_ (λ w hw=>hw.back (hF:=aP.kJ λ f hf=>List.mem_cons_of_mem _ hf) (hO:=by exact List.Sublist.refl _))
                    · repeat' (first|exact bC _|refine aY ?_ ?_)
                      (conv=>{lhs;whnf};simp;done)
                    · omega
                  · refine jE (i:=8) (hfire:=(λ _=>by(refine aG.cons (by exact bY) ?_;exact aG.nil))) (h:=λ x105=>?_);((refine fP (hfire:=(λ _=>by(refine cQ ?_;refine aG.cons (by exact cG (hq:=bE (k:=y.j) (lst:=ix) rf rf eC dC fin (by omega) (by omega))) ?_;refine aG.cons (by exact cG (hq:=bP (q:=y.j) (lst:=ix) rf dC fin (by omega))) ?_;exact aG.nil))) (h:=λ x100=>?_);try (refine dO (λ h100=>?_))));((refine fP (h:=λ x106=>?_);try (refine dO (λ h106=>?_))));refine J7 ?_;refine kD (x106) (by decide) ?_ (by repeat (first|(with_reducible exact xP.refl)|refine xP.cons (by exact rfl) ?_)) ?_ (λ w hw=>hw.back (hF:=aP.kJ λ f hf=>List.mem_cons_of_mem _ hf) (hO:=by exact List.Sublist.refl _))
                    · repeat' (first|exact bC _|refine aY ?_ ?_)
                      (conv=>{lhs;whnf};simp;done)
                    · omega
                · refine jE (i:=8) (hfire:=(λ _=>by(refine aG.cons (by exact bY) ?_;exact aG.nil))) (h:=λ x105=>?_);refine Az (hfire:=(λ _=>by(refine aG.cons (by exact bY) ?_;refine aG.cons (by exact cG (hq:=bE (k:=y.j) (lst:=ix) rf rf eC dC fin (by omega) (by omega))) ?_;refine aG.cons (by exact cG (hq:=bP (q:=y.j) (lst:=ix) rf dC fin (by omega))) ?_;exact aG.nil))) (h:=λ x97=>?_);((refine fP (hfire:=(λ _=>by(refine cQ ?_;refine aG.cons (by exact cG (hq:=bE (k:=y.j) (lst:=ix) rf rf eC dC fin (by omega) (by omega))) ?_;refine aG.cons (by exact cG (hq:=bP (q:=y.j) (lst:=ix) rf dC fin (by omega))) ?_;exact aG.nil))) (h:=λ x100=>?_);try (refine dO (λ h100=>?_))));((refine fP (h:=λ x106=>?_);try (refine dO (λ h106=>?_))));refine J7 ?_;refine kD (x106) (by decide) ?_ (by repeat (first|(with_reducible exact xP.refl)|refine xP.cons (by exact rfl) ?_)) ?_ (λ w hw=>hw.back (hF:=aP.kJ λ f hf=>List.mem_cons_of_mem _ hf) (hO:=by exact List.Sublist.refl _))
                  · repeat' (first|exact bC _|refine aY ?_ ?_)
                    (conv=>{lhs;whnf};simp;done)
                  · omega
              refine K0a ?_;refine aV ?_;refine gP [0,1,2,3,4,5,6,7,8,9,10,11,12,13,14,15,16,17,18,19,20,21] ?_;refine aZ ?_;refine Kd1 ?_;refine bJ (i:=4) (hq:=(bE (k:=y.j) (lst:=(aA L r).xs) rf rf eC dC (.bO .head) (by omega) (by omega))) (h:=?_);refine bJ (i:=5) (hq:=(mJ (cs:=aH (aA L r).xs) (q:=y.j) (v:=.int .i64 ((q+1:Nat):Int)) rf dC (λ w hw=>hw.cl (.bO .head)) (by rw[<- hj];exact Pt hjl))) (h:=?_);refine Ke2 ?_;refine bs ?_;refine aL ?_;refine gQ ?_;refine aL ?_;refine bL (i:=14) (hq:=(cM (hs:=[]) (os:=[mu L pv y.sn]) (hA:=bU.cons (.inr (.inl (.tail _ (.head _)))) (bU.cons (.inr (.inl (.tail _ (.tail _ (.head _))))) (bU.cons (.inr (.inr (.inr ⟨_,.head _,rfl,rfl⟩))) (bU.of λ f hf=>.inr (.inl (.tail _ (.tail _ (.tail _ (.tail _ hf))))))))) (hc:=λ w1 hs=>ih m rfl (lv+1) (by omega) q ((k+1:Nat):Int) 0 (way++[ix.getD y.j 0]) u.1 u.2 _ y.sn _ w1 hq (by simp;omega) (by simp;omega) hy.2.2.1 hs))) (h:=λ x122 h122=>?_);refine aL ?_;refine kQ ?_;refine kQ ?_;refine kQ ?_;refine nR (h:=λ _=>?_);refine Sq ?_;refine jL ?_;refine lA ?_;refine bA (λ c127=>?_) (λ c127=>?_)
              · try (first|(exact abt)|(exfalso;omega))
                have hno:=N0.aCQ h122 (by simpa using c127);refine J0 ?_;refine dL (λ _=>?_);refine J8 ?_;refine bK Tryz.results60 (λ w hw=>?_);exact⟨⟨false,[],none,0,[],none,0,x122.sn,false⟩,rfl,N0.no ((hpl c52 c61).trans (by rw[B5.fail hy.2.1 hjl (by rw[hj];exact hkd) (by rw[hj];exact hno)];rfl)) h122.1 rfl,(hw.fN (F':=[(none,qQ [])]) (by intro f hf;rw[List.mem_singleton.1 hf];exact .inl rfl)).aQ (hO:=.cons _ (.cons _ (.cons _ (List.Sublist.refl _))))⟩
              · try (first|(exact abt)|(exfalso;omega))
                obtain⟨qq,hq1,e1,e2,⟨p0,t0,e3⟩,e4,e5,e6⟩:=N0.yes h122 (by simpa using c127)
                have hlen1:=e5.len;have hlen2:x122.l.length=qq.1.length:=by rw[<- e1,List.length_map]
                simp only[List.length_append,List.length_map,List.length_cons,List.length_nil] at hlen1
                have hmul2:(y.tl.length+1)*(B+64)+x122.l.length*(B+64)<=549755813888:=by rw[<- Nat.add_mul];exact Nat.le_trans (Nat.mul_le_mul_right _ (by omega)) hB.2
                obtain⟨m0,t1,e7⟩:=Br hq1
                have e8:p0.way=way++[ix.getD y.j 0]:=by have:=e1;rw[e3,e7] at this;rw[show p0=_ from(List.cons.inj this).1]
                refine bB ?_;refine Il ?_;(refine aS (aX.gA (iY (sz:=5) (cs:=qQ (⟨⟨((k+1:Nat):Int),r,a,lv,way⟩,wp,wc⟩::y.tl)) (ys:=qQ x122.l) rf rf fT (by rw[xF];rfl) (.new .head) (by rw[xF]) (Be _) Gi rfl (by decide) eC (by omega)) fM) (λ x130=>?_);try (refine fL (λ h130=>?_)));refine pK ?_;(refine aS (aX.gA (Ln (l:=y.ps) (l2:=x122.ps) rf rf fT rfl (En.fin e4 (λ f hf=>List.mem_append_left _ hf) (λ f hf=>.tail _ (.tail _ (.tail _ (.tail _ hf))))) rfl vj eC (by omega)) fM) (λ x133=>?_);try (refine fL (λ h133=>?_)));refine J8 ?_;refine Kc2 ?_;refine kD ((by exact⟨y.j+1,y.tl++x122.l,x130.1,x130.2,y.ps++x122.ps,x133.1,x133.2,x122.sn⟩)) ?_ ?_ (by repeat (first|(with_reducible exact xP.refl)|refine xP.cons (by exact rfl) ?_)) ?_ (λ w hw=>by exact zk hw e3 e8)
                · (simp only[];omega)
                · repeat' (first|exact bC _|refine aY ?_ ?_)
                  all_goals (first|exact rfl|(conv=>{lhs;whnf};simp;done)|(conv=>{lhs;whnf};simp only[List.length_append];congr 1;omega))
                · exact zs hy.2.1 hjl hj hkd hq1 e1 e2 e5 e6 hbnd
        · try (first|(exact abt)|(exfalso;omega))
          refine bM rfl ?_;refine jJ ?_;refine dL (λ _=>?_);refine J8 ?_;refine bK Tryz.results60 (λ w hw=>?_);refine⟨⟨true,⟨⟨((k+1:Nat):Int),r,a,lv,way⟩,wp,wc⟩::y.tl,y.lp,y.lc,y.ps,y.pp,y.pc,y.sn,true⟩,rfl,aAB hy.2.2.1 ((hpl c52 c61).trans (by rw[B5.done hy.2.1 (by omega)];rfl)) hy.2.2.2,?_⟩;exact(SF.fN ((hw.freeze .head).freeze .head) (aCk y.tl)).zA0
theorem Hp(h0:Fits L)(hb:mj L cs)(hl:L.length<=274877906944)(hc:cs.length<=274877906944)(hbm:∀r,∃b:Nat,b<18446744073709551616/\(aA L r).nd.bm=(b:Int)/\((aA L r).nd.kind=3->(aA L r).xs.length=gB b 64))(B pv:Nat)(hB:Few L B):∀n,w6 L cs gen pn cn pc cc B pv n
 | 0=>Jg h0 hb hl hc hbm B pv hB 0 λ m e=>nomatch e
 | n+1=>Jg h0 hb hl hc hbm B pv hB (n+1) λ m e=>by cases e;exact Hp h0 hb hl hc hbm B pv hB n
end
end Go.Proofs.YtadnboagdhcedaaGreatDoor

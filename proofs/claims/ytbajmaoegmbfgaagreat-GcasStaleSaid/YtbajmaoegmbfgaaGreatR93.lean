/- Merged. -/
import Derived.Test.YtbajmaoegmbfgaaGreatGR91
import Derived.Test.YtbajmaoegmbfgaaGreatGWo6
set_option linter.unusedSimpArgs false
set_option linter.unusedVariables false
namespace Go.Ct
open Go Go.RowKit
structure Ik where
 ok:Bool
 l:List vF
 lp:Option Addr
 lc:Nat
 ps:List Pr
 pp:Option Addr
 pc:Nat
 sn:List Bool
 own:Bool
structure PlY where
 j:Nat
 tl:List vF
 lp:Option Addr
 lc:Nat
 ps:List Pr
 pp:Option Addr
 pc:Nat
 sn:List Bool
def Ik.pf(x:Ik):Fr:=if x.own=true then [(x.pp,cY x.ps)] else []
def Ik.fr(x:Ik):Fr:=(x.lp,qW x.l)::(Is x.l.tail++x.pf)
def Vs(n:Nat)(vs:List Bool)(s:List Int):Prop:=nf (n+1) vs (s.map (· + 1))
theorem Vs.zero(n:Nat):Vs n (List.replicate (n+1) false) []:=nf.zero _
theorem Z7{s:List Int}{k:Int}:k+1∈s.map (· + 1)↔k∈s:=by
 rw[List.mem_map]
 exact⟨λ⟨a,h,e⟩=>by rw[show k=a by omega];exact h,λ h=>⟨k,h,rfl⟩⟩
theorem Vs.mem{n k:Nat}{vs:List Bool}{s:List Int}(h:Vs n vs s)(hk:k<=n):vs.getD k false=true↔(k:Int)∈s:=by
 rw[h.2.1 k (by omega)]
 rw[show((k+1:Nat):Int)=(k:Int)+1 by omega]
 exact Z7
theorem Vs.set{n k:Nat}{vs:List Bool}{s:List Int}(h:Vs n vs s)(hk:k<=n)(hf:vs.getD k false=false):Vs n (vs.set k true) (s++[(k:Int)]):=by
 have:=nf.set h (k:=k) (by omega) hf
 unfold Vs
 rw[List.map_append]
 exact this
theorem Vs.len{n:Nat}{vs:List Bool}{s:List Int}(h:Vs n vs s):s.length<=n+1:=by have:=nf.len h;rw[List.length_map] at this;exact this
def Nw(L:List aP)(B:Nat)(wp:Option Addr)(wc:Nat)(s:List Int)(o:Option (List Pl×List Pr))(x:Ik):Prop:=x.sn.length=L.length+1/\match o with
 | none=>x.ok=false
 | some q=>x.ok=true/\x.l.map vF.p=q.1/\x.ps=q.2/\(∃p tl,x.l=⟨p,wp,wc⟩::tl)/\(x.own=false->(x.pp,cY x.ps)∈aM L)/\Vs L.length x.sn (s++q.1.map Pl.i)/\x.ps.length<=x.l.length*(B+64)
theorem Nw.one{L:List aP}{B:Nat}{wp lp pp:Option Addr}{wc lc pc:Nat}{s way:List Int}{i r a:Int}{lv:Nat}{sn:List Bool}{ps:List Pr}{own:Bool}{o:Option (List Pl×List Pr)}(h1:sn.length=L.length+1)(he:o=some ([⟨i,r,a,lv,way⟩],ps))(hf:own=false->(pp,cY ps)∈aM L)(hv:Vs L.length sn (s++[i]))(hb:ps.length<=B+64) :
  Nw L B wp wc s o ⟨true,[⟨⟨i,r,a,lv,way⟩,wp,wc⟩],lp,lc,ps,pp,pc,sn,own⟩:=⟨h1,by rw[he];exact⟨rfl,rfl,rfl,⟨_,_,rfl⟩,hf,hv,by simpa using hb⟩⟩
theorem Nw.yes{L:List aP}{B:Nat}{wp:Option Addr}{wc:Nat}{s:List Int}{o:Option (List Pl×List Pr)}{x:Ik}(h:Nw L B wp wc s o x)(hk:x.ok=true):∃q,o=some q/\x.l.map vF.p=q.1/\x.ps=q.2/\(∃p tl,x.l=⟨p,wp,wc⟩::tl)/\(x.own=false->(x.pp,cY x.ps)∈aM L)/\Vs L.length x.sn (s++q.1.map Pl.i)/\x.ps.length<=x.l.length*(B+64):=by
 cases o with
 | none=>have:=h.2;rw[hk] at this;cases this
 | some q=>exact⟨q,rfl,h.2.2⟩
theorem Nw.aCn{L:List aP}{B:Nat}{wp:Option Addr}{wc:Nat}{s:List Int}{o:Option (List Pl×List Pr)}{x:Ik}(h:Nw L B wp wc s o x)(hk:x.ok=false):o=none:=by
 cases o with
 | none=>rfl
 | some q=>have:=h.2.1;rw[hk] at this;cases this
theorem Nw.no{L:List aP}{B:Nat}{wp:Option Addr}{wc:Nat}{s:List Int}{o:Option (List Pl×List Pr)}{x:Ik}(e:o=none)(h1:x.sn.length=L.length+1)(h2:x.ok=false):Nw L B wp wc s o x:=⟨h1,by rw[e];exact h2⟩
theorem Ik.fin{L:List aP}{A F:Fr}{O:List Ow}{x:Ik}(h:x.own=false->(x.pp,cY x.ps)∈aM L)(hF:∀f∈x.fr,f∈F)(hA:∀f∈aM L,f∈A):qQ A F O x.pp (cY x.ps):=by
 cases ho:x.own with
 | true=>exact .new (Ad.rM (hF _ (List.mem_cons_of_mem _ (List.mem_append_right _ (by unfold Ik.pf;rw[if_pos ho];exact List.mem_cons_self ..)))))
 | false=>exact .bJ (Ad.rM (hA _ (h ho)))
theorem na{N:List Nv}{cs:List Int}{n lv:Nat}{a i:Int}{way s:List Int}{q:List Pl×List Pr}(h:Ii N cs n a lv i way s=some q):∃m t,q.1=⟨i,m,a,lv,way⟩::t:=by
 cases n with
 | zero=>cases h
 | succ n =>
  unfold Ii at h
  split at h
  ·cases h
  obtain⟨m,_,h⟩:=Option.bind_eq_some_iff.1 h
  split at h
  ·cases h;exact⟨m,[],rfl⟩
  ·obtain⟨t,_,h⟩:=Option.map_eq_some_iff.1 h
   subst h
   exact⟨m,t.1,rfl⟩
def Few(L:List aP)(B:Nat):Prop:=(∀r,(aB L r).ys.length<=B/\(aB L r).xs.length<=64)/\(L.length+1)*(B+64)<=549755813888
end Go.Ct
namespace Go.Proofs.YtbajmaoegmbfgaaGreat
open Go Go.RowKit Go.Ct
section
variable{L:List aP}{cs:List Int}{gen:Int}{pn pc:Option Addr}{cn cc:Nat}{w:World}
theorem Ft:dS Tryz.prog 115 39 [.int .i64 0,.int .i64 0,.int .i64 0,.int .i64 0,.slice none 0 0]:=mQ (z:=.agg ⟨[.int .i64 0,.int .i64 0,.int .i64 0,.int .i64 0,.slice none 0 0]⟩) (by kernel_rfl) (by kernel_rfl) rfl
abbrev ud(L:List aP)(pv:Nat)(sn:List Bool):Ow:=⟨some ⟨pv,0,none⟩,jO sn,L.length+1,4,1⟩
def zr(L:List aP)(cs:List Int)(gen:Int)(pn:Option Addr)(cn:Nat)(pc:Option Addr)(cc:Nat)(B pv:Nat)(n:Nat):Prop:=∀(lv:Nat),lv+n=12->∀(k:Nat) (a mm:Int) (way:List Int) (wp:Option Addr) (wc:Nat) (s:List Int) (sn:List Bool) (D:List Nat) (w:World),k<L.length->way.length=lv->way.length<=wc->Vs L.length sn s->SF w D [] ((pn,iJ L)::(pc,aG cs)::(wp,aG way)::aM L) [] [ud L pv sn] w ->
  Calls Tryz.prog 116 #[Iu L cs gen pn cn pc cc,.agg ⟨[.int .i64 ((k+1:Nat):Int),.int .i64 mm,.int .i64 a,.int .i64 ((lv:Nat):Int),.slice wp way.length wc]⟩,.slice (some ⟨pv,0,none⟩) (L.length+1) (L.length+1)] w λ e w'=>∃x:Ik,e=.returned (.tuple #[.slice x.lp x.l.length x.lc,.slice x.pp x.ps.length x.pc,.bool x.ok])/\Nw L B wp wc s (Ii (L.map aP.c) cs n a lv ((k+1:Nat):Int) way s) x/\SF w D [] [] x.fr [ud L pv x.sn] w'
theorem Zg(h0:Fits L)(hb:StB L cs)(hl:L.length<=274877906944)(hc:cs.length<=274877906944)(B pv:Nat)(n lv:Nat)(hn:lv+n=12)(k:Nat)(a mm:Int)(way:List Int)(wp:Option Addr)(wc:Nat)(s:List Int)(sn:List Bool)(D:List Nat)(w:World)(hk:k<L.length)(hv:Vs L.length sn s)
  (hno:(fV (L.map aP.c) cs ((k+1:Nat):Int)).isSome=false∨n=0∨((k+1:Nat):Int)∈s) (hs:SF w D [] ((pn,iJ L)::(pc,aG cs)::(wp,aG way)::aM L) [] [ud L pv sn] w) :
  Calls Tryz.prog 116 #[Iu L cs gen pn cn pc cc,.agg ⟨[.int .i64 ((k+1:Nat):Int),.int .i64 mm,.int .i64 a,.int .i64 ((lv:Nat):Int),.slice wp way.length wc]⟩,.slice (some ⟨pv,0,none⟩) (L.length+1) (L.length+1)] w λ e w'=>∃x:Ik,e=.returned (.tuple #[.slice x.lp x.l.length x.lc,.slice x.pp x.ps.length x.pc,.bool x.ok])/\Nw L B wp wc s (Ii (L.map aP.c) cs n a lv ((k+1:Nat):Int) way s) x/\SF w D [] [] x.fr [ud L pv x.sn] w':=by
 have hvl:sn.length=L.length+1:=hv.1
 have hno2:(fV (L.map aP.c) cs ((k+1:Nat):Int)).isSome=false∨n=0∨sn.getD (k+1) false=true:=by
  rcases hno with h|h|h
  ·exact .inl h
  ·exact .inr (.inl h)
  ·exact .inr (.inr ((hv.mem (k:=k+1) (by omega)).2 h))
 have hplc:Ii (L.map aP.c) cs n a lv ((k+1:Nat):Int) way s=none:=by
  rcases hno with h|h|h
  ·exact lu h
  ·subst h;exact rfl
  ·exact j3 h
 rw[hplc]
 refine enter Tryz.func116 Tryz.ntmps116 rfl rfl hs ?_
 simp only[cC]
 simp only[Iu]
 refine J0 ?_;refine bM (λ x3=>?_);refine bM (λ x4=>?_);refine fX (λ _=>?_);refine J8 ?_;refine nI ?_;refine J3 ?_;refine aQ (cV (hc:=λ w1 hw=>Lo (hw.Gm (.inr (.inl (.head _))) (.inr (.inl (.tail _ (.head _)))) (λ f hf=>.inr (.inl (.tail _ (.tail _ (.tail _ hf))))) h0) hb hl hc ((k+1:Nat):Int) (by omega))) (λ x22=>?_);refine Kb5 ?_;refine Dg ?_
 (refine eJ 27 (λ g27=>?_) (λ g27=>?_)<;>refine Ka1 ?_)
 all_goals (refine Ka2 ?_;refine Am ?_;refine aA ?_)
 all_goals (first|refine aI ?_|(refine eJ 32 (λ g32=>?_) (λ g32=>?_)<;>refine Ka0 ?_))
 all_goals (refine J6 ?_;(first|refine aI ?_|(refine aE ?_;refine aC (oH (k:=k+1) rf rf gE fW fin (by omega) (by omega)) rfl ?_));(first|refine aI ?_|(refine aE ?_;refine aC (Ab (q:=k+1) rf fW fin (by omega)) rfl ?_));refine cD ?_;refine aH ?_)
 all_goals
 refine bC (λ c38=>?_) (λ c38=>?_)
 ·all_goals try (first|(exact abt)|(exfalso;omega))
  all_goals (refine J0 ?_;refine fX (λ _=>?_);refine J8 ?_)
  all_goals
   refine bE Tryz.results116 (λ w hw=>?_)
   exact⟨⟨false,[],none,0,[],none,0,sn,false⟩,rfl,⟨hvl,rfl⟩,(hw.eW (F':=[(none,qW [])]) (by intro f hf;rw[List.mem_singleton.1 hf];exact .inl rfl)).aX⟩
 ·try exact nv c38
  all_goals
   (exfalso;(rcases hno2 with h|h|h);(rw[h] at g27;cases g27);(exfalso;omega);(rw[h] at c38;cases c38))
theorem z5{L:List aP}{B:Nat}{f:Int->List Int->List Int->Option (List Pl×List Pr)}{way ix xs s:List Int}{y:PlY}{x:Ik}{q:Nat}{qq:List Pl×List Pr}{p1 p2:Option Addr}{c1 c2:Nat}(h1:Ai (L.map aP.c) f way ix xs s y.j (y.tl.map vF.p) y.ps)(hjl:y.j<xs.length)(hj:xs.getD y.j 0=((q+1:Nat):Int))(hkd:(aS (L.map aP.c) ((q+1:Nat):Int)).kind=2)
  (hq1:f ((q+1:Nat):Int) (way++[ix.getD y.j 0]) (s++(y.tl.map vF.p).map Pl.i)=some qq) (e1:x.l.map vF.p=qq.1) (e2:x.ps=qq.2) (e5:Vs L.length x.sn ((s++(y.tl.map vF.p).map Pl.i)++qq.1.map Pl.i)) (e6:x.ps.length<=x.l.length*(B+64)) (hb:y.ps.length+(64-y.j)<=(y.tl.length+1)*(B+64)) :
  (⟨y.j+1,y.tl++x.l,p1,c1,y.ps++x.ps,p2,c2,x.sn⟩:PlY).j<=xs.length/\Ai (L.map aP.c) f way ix xs s (y.j+1) ((y.tl++x.l).map vF.p) (y.ps++x.ps)/\Vs L.length x.sn (s++((y.tl++x.l).map vF.p).map Pl.i)/\(y.ps++x.ps).length+(64-(y.j+1))<=((y.tl++x.l).length+1)*(B+64):=by
 refine⟨hjl,?_,?_,?_⟩
 ·have:=Ai.inner h1 hjl (by rw[hj];exact hkd) (by rw[hj];exact hq1)
  rw[List.map_append,e1,e2]
  exact this
 ·rw[List.map_append,List.map_append,e1,<- List.append_assoc]
  exact e5
 ·rw[List.length_append,List.length_append,show y.tl.length+x.l.length+1=(y.tl.length+1)+x.l.length by omega,Nat.add_mul]
  omega
theorem Pm(a b:List vF):Is (a++b)=Is a++Is b:=by simp[Is]
theorem z7{w0 w:World}{M:List Nat}{H:List (Nat×Obj)}{A:Fr}{T T2 T3:TypeId}{pp lp wp:Option Addr}{kp kl wc:Nat}{psC:List Value}{ix wy:List Int}{ip:Option Addr}{x:Ik}{hd:vF}{tl t0:List vF}{p0:Pl}{sw:Ow}{b:Nat×Obj}
  (hw:SF w0 M (b::H) A (x.fr++(ip,aG ix)::Is tl) [⟨wp,aG wy,wc,T,1⟩,⟨pp,psC,kp,T2,2⟩,⟨lp,qW (hd::tl)++qW x.l,kl,T3,5⟩,sw] w) (e3:x.l=⟨p0,wp,wc⟩::t0) (e8:p0.way=wy) :
  SF w0 M H A ((ip,aG ix)::Is (tl++x.l)) [⟨pp,psC,kp,T2,2⟩,⟨lp,qW (hd::(tl++x.l)),kl,T3,5⟩,sw] w:=by
 rw[<- List.cons_append,Qu]
 refine SF.back (SF.eW (F':=(ip,aG ix)::Is (tl++x.l)) (hw.freeze .head) λ f hf=>?_) (hH:=List.sublist_cons_self ..) (hF:=aY.all)
 rw[Pm] at hf
 rcases List.mem_cons.1 hf with rfl|hf
 ·exact .inr (.tail _ (List.mem_append_right _ (.head _)))
 rcases List.mem_append.1 hf with hf|hf
 ·exact .inr (.tail _ (List.mem_append_right _ (.tail _ hf)))
 ·rw[e3] at hf
  rcases List.mem_cons.1 hf with rfl|hf
  ·show aG p0.way=[]∨(wp,aG p0.way)∈_
   rw[e8]
   exact .inr (.head _)
  ·refine .inr (.tail _ (List.mem_append_left _ (.tail _ (List.mem_append_left _ ?_))))
   rw[e3]
   exact hf
theorem zf{L:List aP}{B:Nat}{wp lp pp:Option Addr}{wc lc pc:Nat}{s way:List Int}{i r a:Int}{lv:Nat}{o:Option (List Pl×List Pr)}{y:PlY}(h:Vs L.length y.sn ((s++[i])++(y.tl.map vF.p).map Pl.i))(ho:o=some (⟨i,r,a,lv,way⟩::y.tl.map vF.p,y.ps))(hb:y.ps.length+(64-y.j)<=(y.tl.length+1)*(B+64)) :
  Nw L B wp wc s o ⟨true,⟨⟨i,r,a,lv,way⟩,wp,wc⟩::y.tl,lp,lc,y.ps,pp,pc,y.sn,true⟩:=by
 refine⟨h.1,?_⟩
 rw[ho]
 refine⟨rfl,rfl,rfl,⟨_,_,rfl⟩,(λ e=>nomatch e),?_,?_⟩
 ·rw[List.append_assoc] at h
  exact h
 ·show y.ps.length<=(y.tl.length+1)*(B+64)
  omega
theorem aAP{ip lp pp wp:Option Addr}{wc lc pc:Nat}{ix:List Value}{p:Pl}{ps:List Pr}{sn:List Bool}(tl:List vF):∀f∈(⟨true,⟨p,wp,wc⟩::tl,lp,lc,ps,pp,pc,sn,true⟩:Ik).fr,f.2=[]∨f∈(lp,qW (⟨p,wp,wc⟩::tl))::(pp,cY ps)::(ip,ix)::Is tl:=by
 intro f hf
 rcases List.mem_cons.1 hf with rfl|hf
 ·exact .inr (.head _)
 rcases List.mem_append.1 hf with hf|hf
 ·exact .inr (.tail _ (.tail _ (.tail _ hf)))
 ·rw[show(⟨true,⟨p,wp,wc⟩::tl,lp,lc,ps,pp,pc,sn,true⟩:Ik).pf=[(pp,cY ps)] from rfl] at hf
  rw[List.mem_singleton.1 hf]
  exact .inr (.tail _ (.head _))
set_option maxRecDepth 100000 in
set_option maxHeartbeats 2000000 in
theorem Je(h0:Fits L)(hb:StB L cs)(hl:L.length<=274877906944)(hc:cs.length<=274877906944)(hbm:∀r,∃b:Nat,b<18446744073709551616/\(aB L r).nd.bm=(b:Int)/\((aB L r).nd.kind=3->(aB L r).xs.length=gA b 64))(B pv:Nat)(hB:Few L B)(n:Nat)(ih:∀m,n=m+1->zr L cs gen pn cn pc cc B pv m):zr L cs gen pn cn pc cc B pv n:=by
  intro lv hn k a mm way wp wc s sn D w hk hwl hwc hv hs
  have hvl:sn.length=L.length+1:=hv.1
  have hvn:=hv.len
  by_cases hno:(fV (L.map aP.c) cs ((k+1:Nat):Int)).isSome=false∨n=0∨((k+1:Nat):Int)∈s
  · exact Zg h0 hb hl hc B pv n lv hn k a mm way wp wc s sn D w hk hv hno hs
  simp only[not_or] at hno
  obtain⟨hb1,hn0,hnot⟩:=hno
  obtain⟨r,hr⟩:=Option.isSome_iff_exists.1 (show(fV (L.map aP.c) cs ((k+1:Nat):Int)).isSome=true by cases h:(fV (L.map aP.c) cs ((k+1:Nat):Int)).isSome<;>simp_all)
  obtain⟨m,rfl⟩:∃m,n=m+1:=⟨n-1,by omega⟩
  have hnf:sn.getD (k+1) false=false:=by
    cases h:sn.getD (k+1) false with
    | false=>rfl
    | true=>exact absurd ((hv.mem (k:=k+1) (by omega)).1 h) hnot
  have hv2:=hv.set (k:=k+1) (by omega) hnf
  have hfr:=Km h0 r
  have hri:=Xs (Bq hr).2
  rw[List.length_map] at hri
  have hrr:r<=9223372036854775807:=by omega
  have hbn:=hfr.brN
  have hbs:=hfr.brS
  have hpn:=hfr.prN
  have hfm:=rv hri
  have hfp:=oy hri
  have hbr:=hb.br r
  have hB1:=(hB.1 r).1
  have hB2:=(hB.1 r).2
  obtain⟨bt,hbt,hbe,hbl⟩:=hbm r
  obtain⟨ix,hix⟩:∃ix,ix=sF bt 64:=⟨_,rfl⟩
  have hpl:¬(aB L r).nd.kind=5->¬(aB L r).nd.kind=6->Ii (L.map aP.c) cs (m+1) a lv ((k+1:Nat):Int) way s=(yI (L.map aP.c) (λ b w s=>Ii (L.map aP.c) cs m ((k+1:Nat):Int) (lv+1) b w s) way ix (aB L r).xs 0 (s++[((k+1:Nat):Int)])).map λ q=>(⟨((k+1:Nat):Int),r,a,lv,way⟩::q.1,q.2):=by
    intro h5 h6
    rw[vq hnot hr (by rw[cZ];exact λ h=>h.elim h5 h6),jz]
    rw[cZ,show(aB L r).c.bm=(bt:Int) from hbe,Int.toNat_natCast,<- hix]
  have hv3:=hv2.len
  refine enter Tryz.func116 Tryz.ntmps116 rfl rfl (hs.Uo (a':=(aB L r).nd.brA) (cs':=aG (aB L r).xs) (.bJ (.tail (.tail (.tail (Ad.rM hfm))))) (λ _=>rfl) (λ h=>h) (λ w h=>h)) ?_
  simp only[cC]
  simp only[Iu]
  refine J0 ?_;refine bM (λ x3=>?_);refine bM (λ x4=>?_);refine fX (λ _=>?_);refine J8 ?_;refine nI ?_;refine J3 ?_;refine aQ (cV (hc:=λ w1 hw=>by have:=Lo (gen:=gen) (cn:=cn) (cc:=cc) (hw.Gm (.inr (.inl (.tail _ (.head _)))) (.inr (.inl (.tail _ (.tail _ (.head _))))) (λ f hf=>.inr (.inl (.tail _ (.tail _ (.tail _ (.tail _ hf)))))) h0) hb hl hc ((k+1:Nat):Int) (by omega);rw[hr] at this;exact this)) (λ x22=>?_);refine Kb5 ?_;refine Dg ?_
  (refine aE ?_;refine aF ?_)
  ((refine aE ?_;refine bR ?_));refine Am ?_;refine aA ?_
  (refine eJ 32 (λ g32=>?_) (λ g32=>?_)<;>(try ((exfalso;omega)))<;>((refine Ka3 ?_)))
  refine J6 ?_;((refine aE ?_;refine aC (oH (k:=k+1) rf rf gE fW fin (by omega) (by omega)) rfl ?_));((refine aE ?_;refine aC (Ab (q:=k+1) rf fW fin (by omega)) rfl ?_));refine cD ?_;refine aH ?_
  refine bC (λ c38=>?_) (λ c38=>?_)
  · try (first|(exact abt)|(exfalso;omega))
    (exfalso;simp_all)
  · try (first|(exact abt)|(exfalso;omega))
    refine aZ ?_;refine J2 ?_;refine J3 ?_;refine aC (oH (k:=k+1) rf rf gE fW fin (by omega) (by omega)) rfl ?_;refine J5 ?_;refine J2 ?_;refine uM ?_;refine nI ?_;refine aQ (O3 (sz:=5) (cs:=qW [⟨⟨((k+1:Nat):Int),r,a,lv,way⟩,wp,wc⟩]) Ft Jr rf rf rf rf rf rf) (λ x46=>?_);refine J1 ?_;refine Dn ?_;refine aQ (cV (hc:=λ w1 hw=>pW (hw.Gm (.inr (.inl (.tail _ (.head _)))) (.inr (.inl (.tail _ (.tail _ (.head _))))) (λ f hf=>.inr (.inl (.tail _ (.tail _ (.tail _ (.tail _ hf)))))) h0) r (by omega) hl)) (λ x49=>?_);refine aK (λ x10=>?_);refine J5 ?_;refine Du ?_;refine aH ?_;refine cS ?_;refine lQ ?_
    refine bC (λ c52=>?_) (λ c52=>?_)
    · try (first|(exact abt)|(exfalso;omega))
      refine aV ?_
      refine L9 [6,7,8,54,55,56,57,58,59,60] (λ z:Nat=>[(6,.slice (some ⟨x46,0,none⟩) 1 1),(60,.slice (some ⟨z,0,none⟩) 1 1),(7,.slice (some ⟨z,0,none⟩) 1 1),(8,.bool true)]) (λ z=>True) (λ _=>[]) (λ z=>[(some ⟨z,0,none⟩,cY [((aB L r).nd.key,(aB L r).nd.val)])]) (λ _=>[]) (by decide) (λ _=>by exact rfl) (λ _=>by simp only[List.nil_append,List.cons_append];exact rfl) (λ _=>by simp only[List.nil_append,List.cons_append];exact rfl) (λ _=>by simp only[List.nil_append,List.cons_append];exact rfl) ?_ (λ z f hx=>?_)
      · refine gI (.one 0 [] (.one 1 [] (.one 2 [] (.one 3 [] (.one 4 [] (.one 5 [] (.two 6 [] (.one 7 [2,4] (.one 8 [] (.one 9 [] .nil))) 0 [] (.two 7 [2,4] (.one 6 [] (.one 8 [] (.one 9 [] .nil))) 0 [] .nil)))))))) ?_
        refine aN ?_;refine lH ?_;refine lH ?_;refine iH ?_
        refine gR (E:=[6,7]) (by decide +kernel) ((.cons ?_ (.cons ?_ .nil)))
        · refine mE (i:=6) (h:=λ x60=>?_)
          refine kN (h:=λ _=>?_);refine Oz ?_
          refine fH (x60) ?_
          · trivial
        · refine X1 (i:=7) (h:=λ _=>?_)
          refine bZ (h:=λ x60=>?_);refine Oz ?_
          refine fH (x60) ?_
          · trivial
      dsimp only[hY,List.map,List.cons_append,List.nil_append]
      refine bE Tryz.results116 (λ w hw=>?_)
      have hk5:(aS (L.map aP.c) r).kind=5:=by rw[cZ];exact c52
      have ho:o7 (aB L r).c=[((aB L r).nd.key,(aB L r).nd.val)]:=if_pos c52
      refine⟨⟨true,[⟨⟨((k+1:Nat):Int),r,a,lv,way⟩,wp,wc⟩],some ⟨x46,0,none⟩,1,[((aB L r).nd.key,(aB L r).nd.val)],some ⟨z,0,none⟩,1,sn.set (k+1) true,true⟩,rfl,Nw.one (by rw[List.length_set];exact hvl) ((M7 hnot hr (.inl hk5)).trans (by rw[cZ,ho])) (λ e=>nomatch e) hv2 (by simp only[List.length_cons,List.length_nil];omega),?_⟩
      exact(show SF _ D [] [] [(some ⟨x46,0,none⟩,qW [⟨⟨((k+1:Nat):Int),r,a,lv,way⟩,wp,wc⟩]),(some ⟨z,0,none⟩,cY [((aB L r).nd.key,(aB L r).nd.val)])] [ud L pv (sn.set (k+1) true)] _ from(hw.freeze .head).aX)
    · try (first|(exact abt)|(exfalso;omega))
      refine lQ ?_
      refine bC (λ c61=>?_) (λ c61=>?_)
      · try (first|(exact abt)|(exfalso;omega))
        refine aV ?_;refine eC [(0,[]),(1,[]),(2,[]),(3,[2]),(4,[]),(5,[])] ?_;refine aN ?_;refine lH ?_;refine kN (h:=λ _=>?_);refine Oz ?_
        refine bE Tryz.results116 (λ w hw=>?_)
        have hk6:(aS (L.map aP.c) r).kind=6:=by rw[cZ];exact c61
        have ho:o7 (aB L r).c=(aB L r).ys:=(if_neg (show ¬(aB L r).nd.kind=5 from c52)).trans (if_pos c61)
        refine⟨⟨true,[⟨⟨((k+1:Nat):Int),r,a,lv,way⟩,wp,wc⟩],some ⟨x46,0,none⟩,1,(aB L r).ys,(aB L r).nd.prA,(aB L r).nd.cY,sn.set (k+1) true,false⟩,by rw[hpn];exact rfl,Nw.one (by rw[List.length_set];exact hvl) ((M7 hnot hr (.inr hk6)).trans (by rw[cZ,ho])) (λ _=>hfp) hv2 (by omega),?_⟩
        exact(show SF _ D [] [] [(some ⟨x46,0,none⟩,qW [⟨⟨((k+1:Nat):Int),r,a,lv,way⟩,wp,wc⟩])] [ud L pv (sn.set (k+1) true)] _ from(hw.freeze .head).aX)
      · try (first|(exact abt)|(exfalso;omega))
        refine pI ?_;refine iI ?_;refine aD (cF (hc:=λ w1 hw=>Iv hix hbt hbe w1)) (λ x68 h68=>?_);refine jF ?_;refine Ex ?_
        refine nT [6,7,8,12,13,14,15,16,17,69,70,71,72,73,74,75,76,77,78,79,80,81,82,83,84,85,86,87,88,89,90,91,92,93,94,95,96,97,98,99,100,101,102,103,104,105,106,107,108,109,110,111,112,113,114,115,116,117,118,119,120,121,122,123,124,125,126,127,128,129,130,131,132,133] (λ y:PlY=>[(6,.slice y.lp (y.tl.length+1) y.lc),(7,.slice y.pp y.ps.length y.pc),(12,.int .i64 ((y.j:Nat):Int))]) (λ y=>y.j<=(aB L r).xs.length/\Ai (L.map aP.c) (λ b w s=>Ii (L.map aP.c) cs m ((k+1:Nat):Int) (lv+1) b w s) way ix (aB L r).xs (s++[((k+1:Nat):Int)]) y.j (y.tl.map vF.p) y.ps/\Vs L.length y.sn ((s++[((k+1:Nat):Int)])++(y.tl.map vF.p).map Pl.i)/\y.ps.length+(64-y.j)<=(y.tl.length+1)*(B+64)) (λ y=>[(x10,.cells ⟨(aB L r).nd.cells⟩ 47 (0,0)),(x4,.cells ⟨[.int .i64 ((k+1:Nat):Int),.int .i64 r,.int .i64 a,.int .i64 ((lv:Nat):Int),.slice wp way.length wc]⟩ 39 (0,0)),(x3,.cells ⟨[.slice pn L.length cn,.slice pc cs.length cc,.int .i64 gen]⟩ 52 (0,0))]) (λ y=>(x68.1,aG ix)::Is y.tl) (λ y=>[⟨y.pp,cY y.ps,y.pc,164,2⟩,⟨y.lp,qW (⟨⟨((k+1:Nat):Int),r,a,lv,way⟩,wp,wc⟩::y.tl),y.lc,39,5⟩,ud L pv y.sn]) (λ y=>(aB L r).xs.length-y.j) (⟨0,[],some ⟨x46,0,none⟩,1,[],none,0,sn.set (k+1) true⟩) (⟨Nat.zero_le _,Ai.zero,by simpa using hv2,by simp⟩) (λ y f hx=>?_) (hw0:=λ w hw=>(hw.jX 164 2).back)
        dsimp only[hY,List.map,List.cons_append,List.nil_append]
        have hy:=hx
        refine kT ?_;refine Rr ?_;refine Aj ?_
        refine bC (λ c73=>?_) (λ c73=>?_)
        · try (first|(exact abt)|(exfalso;omega))
          have hbk:(aB L r).xs.getD y.j 0<=9223372036854775807:=hbr _ (by rw[iM,List.getElem?_eq_getElem (by omega)];exact List.getElem_mem _)
          have hk3:(aB L r).nd.kind=3:=by
           have:=(Bq hr).2
           rw[cZ] at this
           rcases this with h|h|h
           · exact h
           · exact absurd h c52
           · exact absurd h c61
          have hil:ix.length=(aB L r).xs.length:=by rw[hix,Ho,hbl hk3]
          have hjl:y.j<(aB L r).xs.length:=by omega
          have hlen0:=hy.2.2.1.len
          simp only[List.length_append,List.length_map,List.length_cons,List.length_nil] at hlen0
          have hmul:(y.tl.length+1)*(B+64)<=549755813888:=Nat.le_trans (Nat.mul_le_mul_right _ (by omega)) hB.2
          have hbnd:=hy.2.2.2
          refine rX ?_;refine aV ?_
          refine L9 [13,76,77,78,79,80,81,82] (λ z:Nat=>[(82,(aB L ((aB L r).xs.getD y.j 0)).nd.v),(13,.pointer (some ⟨z,0,none⟩))]) (λ z=>True) (λ z=>[(z,.cells ⟨(aB L ((aB L r).xs.getD y.j 0)).nd.cells⟩ 47 (0,0))]) (λ _=>[]) (λ _=>[]) (by decide) (λ _=>by exact rfl) (λ _=>by simp only[List.nil_append,List.cons_append];exact rfl) (λ _=>by simp only[List.nil_append,List.cons_append];exact rfl) (λ _=>by simp only[List.nil_append,List.cons_append];exact rfl) ?_ (λ z f hx=>?_)
          · refine gI (.one 0 [] (.one 1 [] (.one 2 [] (.one 3 [] (.one 4 [] (.one 5 [] (.two 6 [] (.one 7 [0,2,4,5] (.one 8 [] .nil)) 0 [] (.two 7 [0,2,4,5] (.one 6 [] (.one 8 [] .nil)) 0 [] .nil)))))))) ?_
            refine bT ?_;refine lH ?_;refine aN ?_;refine Un ?_
            refine gR (E:=[6,7]) (by decide +kernel) ((.cons ?_ (.cons ?_ .nil)))
            · refine Ki (i:=6) (hq:=(cV (hc:=λ w1 hw=>pW (hw.Gm (.inr (.inl (.tail _ (.head _)))) (.inr (.inl (.tail _ (.tail _ (.head _))))) (λ f hf=>.inr (.inl (.tail _ (.tail _ (.tail _ (.tail _ hf)))))) h0) ((aB L r).xs.getD y.j 0) (by omega) hl))) (h:=λ x82=>?_)
              refine gU (hfire:=(λ _=>by(refine aJ.cons (by exact eG) ?_;refine aJ.cons (by exact eG) ?_;refine aJ.cons (by exact lP) ?_;refine aJ.cons (by exact eG) ?_;exact aJ.nil))) (h:=λ x13=>?_);refine zT ?_
              refine fH (x13) ?_ (hw1:=λ w hw=>hw.v6)
              · trivial
            · refine gW (i:=7) (hfire:=(λ _=>by(refine aJ.cons (by exact eG) ?_;refine aJ.cons (by exact eG) ?_;refine aJ.cons (by exact lP) ?_;refine aJ.cons (by exact eG) ?_;exact aJ.nil))) (h:=λ x13=>?_)
              refine cR (i:=6) (hq:=(cV (hc:=λ w1 hw=>pW (hw.Gm (.inr (.inl (.tail _ (.head _)))) (.inr (.inl (.tail _ (.tail _ (.head _))))) (λ f hf=>.inr (.inl (.tail _ (.tail _ (.tail _ (.tail _ hf)))))) h0) ((aB L r).xs.getD y.j 0) (by omega) hl))) (h:=λ x82=>?_);refine zT ?_
              refine fH (x13) ?_ (hw1:=λ w hw=>hw.v6)
              · trivial
          dsimp only[hY,List.map,List.cons_append,List.nil_append]
          refine Kc7 ?_
          refine bC (λ c85=>?_) (λ c85=>?_)
          · try (first|(exact abt)|(exfalso;omega))
            refine J2 ?_;refine J3 ?_;refine J3 ?_;refine bN ?_;refine eZ (λ x92=>?_);(refine fG (λ x93=>?_);try (refine fD (λ h93=>?_)));refine J1 ?_;refine bP rfl ?_;refine wN ?_
            refine lB ((by exact⟨y.j+1,y.tl,y.lp,y.lc,y.ps++[((aB L ((aB L r).xs.getD y.j 0)).nd.key,(aB L ((aB L r).xs.getD y.j 0)).nd.val)],x93.1,x93.2,y.sn⟩)) ?_ ?_ (by repeat (first|(with_reducible exact yJ.refl)|refine yJ.cons (by exact rfl) ?_)) ?_ (λ w hw=>by exact hw.back (hF:=aY.jH λ f hf=>List.mem_cons_of_mem _ hf))
            · (simp only[];omega)
            · repeat' (first|exact bI _|refine bD ?_ ?_)
              all_goals (first|exact rfl|(conv=>{lhs;whnf};simp;done))
            · (exact⟨by show y.j+1<=_;omega,by have:=Ai.single hy.2.1 hjl (by rw[cZ];exact c85);rw[cZ] at this;exact this,hy.2.2.1,by show(y.ps++[_]).length+(64-(y.j+1))<=(y.tl.length+1)*(B+64);rw[List.length_append,List.length_singleton];omega⟩)
          · try (first|(exact abt)|(exfalso;omega))
            refine kW ?_;refine iI ?_;refine Kc8 ?_
            refine bC (λ c96=>?_) (λ c96=>?_)
            · try (first|(exact abt)|(exfalso;omega))
              refine J0 ?_;refine fX (λ _=>?_);refine J8 ?_
              refine bE Tryz.results116 (λ w hw=>?_)
              exact⟨⟨false,[],none,0,[],none,0,y.sn,false⟩,rfl,Nw.no ((hpl c52 c61).trans (by rw[Ai.bad hy.2.1 hjl (by rw[cZ];exact c85) (by rw[cZ];exact c96)];rfl)) hy.2.2.1.1 rfl,(hw.eW (F':=[(none,qW [])]) (by intro f hf;rw[List.mem_singleton.1 hf];exact .inl rfl)).aX (hO:=.cons _ (.cons _ (List.Sublist.refl _)))⟩
            · try (first|(exact abt)|(exfalso;omega))
              obtain⟨q,hj,hq⟩:∃q:Nat,(aB L r).xs.getD y.j 0=((q+1:Nat):Int)/\q<L.length:=by
               have:=dJ (N:=L.map aP.c) (i:=(aB L r).xs.getD y.j 0) (by rw[cZ];show(aB L ((aB L r).xs.getD y.j 0)).nd.kind≠0;omega)
               rw[List.length_map] at this
               exact⟨((aB L r).xs.getD y.j 0-1).toNat,by omega,by omega⟩
              have hkd:(aS (L.map aP.c) ((aB L r).xs.getD y.j 0)).kind=2:=by rw[cZ];show(aB L ((aB L r).xs.getD y.j 0)).nd.kind=2;omega
              rw[hj] at hkd
              refine kW ?_
              refine L9 [14,97,98,99,100,101,102,103,104,105,106] (λ u:Option Addr×Nat=>[(14,.slice u.1 (way++[ix.getD y.j 0]).length u.2)]) (λ u=>way.length+1<=u.2) (λ _=>[]) (λ _=>[]) (λ u=>[⟨u.1,aG (way++[ix.getD y.j 0]),u.2,3,1⟩]) (by decide) (λ _=>by exact rfl) (λ _=>by simp only[List.nil_append,List.cons_append];exact rfl) (λ _=>by simp only[List.nil_append,List.cons_append];exact rfl) (λ _=>by simp only[List.nil_append,List.cons_append];exact rfl) ?_ (λ u f hx=>?_)
              · refine gI (.one 1 [] (.one 2 [] (.one 4 [] (.one 5 [] (.one 6 [] (.one 7 [] (.two 0 [2,6,7] (.two 3 [6,7] (.one 8 [2] (.one 9 [] (.one 10 [] .nil))) 0 [] (.two 8 [2] (.one 3 [6,7] (.one 9 [] (.one 10 [] .nil))) 0 [] .nil)) 0 [] (.two 8 [2] (.one 0 [2,6,7] (.one 3 [6,7] (.one 9 [] (.one 10 [] .nil)))) 0 [] .nil)))))))) ?_
                refine lH ?_;refine iL ?_;refine bV (i:=6) (hq:=(dH (k:=y.j) (lst:=ix) rf rf gE fW fin (by omega) (by omega))) (h:=?_);refine bV (i:=7) (hq:=(eX (q:=y.j) (lst:=ix) rf fW fin (by omega))) (h:=?_)
                refine gR (E:=[0,8]) (by decide +kernel) ((.cons ?_ (.cons ?_ .nil)))
                · refine lj (i:=0) (hfire:=(λ _=>by(refine aJ.cons (by exact eG) ?_;refine aJ.cons (by exact fC (hq:=dH (k:=y.j) (lst:=ix) rf rf gE fW fin (by omega) (by omega))) ?_;refine aJ.cons (by exact fC (hq:=eX (q:=y.j) (lst:=ix) rf fW fin (by omega))) ?_;exact aJ.nil))) (h:=λ x97=>?_)
                  refine gR (E:=[3,8]) (by decide +kernel) ((.cons ?_ (.cons ?_ .nil)))
                  · (refine m6 (i:=3) (hfire:=(λ _=>by(refine eY ?_;refine aJ.cons (by exact fC (hq:=dH (k:=y.j) (lst:=ix) rf rf gE fW fin (by omega) (by omega))) ?_;refine aJ.cons (by exact fC (hq:=eX (q:=y.j) (lst:=ix) rf fW fin (by omega))) ?_;exact aJ.nil))) (h:=λ x100=>?_);try (refine eH (λ h100=>?_)))
                    refine bZ (hfire:=(λ _=>by(refine aJ.cons (by exact eG) ?_;exact aJ.nil))) (h:=λ x105=>?_);((refine mG (h:=λ x106=>?_);try (refine eH (λ h106=>?_))));refine J7 ?_
                    refine lB (x106) (by decide) ?_ (by repeat (first|(with_reducible exact yJ.refl)|refine yJ.cons (by exact rfl) ?_)) ?_ (λ w hw=>hw.back (hF:=aY.jH λ f hf=>List.mem_cons_of_mem _ hf) (hO:=by exact List.Sublist.refl _))
                    · repeat' (first|exact bI _|refine bD ?_ ?_)
                      (conv=>{lhs;whnf};simp;done)
                    · omega
                  · refine mE (i:=8) (hfire:=(λ _=>by(refine aJ.cons (by exact eG) ?_;exact aJ.nil))) (h:=λ x105=>?_)
                    ((refine mG (hfire:=(λ _=>by(refine eY ?_;refine aJ.cons (by exact fC (hq:=dH (k:=y.j) (lst:=ix) rf rf gE fW fin (by omega) (by omega))) ?_;refine aJ.cons (by exact fC (hq:=eX (q:=y.j) (lst:=ix) rf fW fin (by omega))) ?_;exact aJ.nil))) (h:=λ x100=>?_);try (refine eH (λ h100=>?_))));((refine mG (h:=λ x106=>?_);try (refine eH (λ h106=>?_))));refine J7 ?_
                    refine lB (x106) (by decide) ?_ (by repeat (first|(with_reducible exact yJ.refl)|refine yJ.cons (by exact rfl) ?_)) ?_ (λ w hw=>hw.back (hF:=aY.jH λ f hf=>List.mem_cons_of_mem _ hf) (hO:=by exact List.Sublist.refl _))
                    · repeat' (first|exact bI _|refine bD ?_ ?_)
                      (conv=>{lhs;whnf};simp;done)
                    · omega
                · refine mE (i:=8) (hfire:=(λ _=>by(refine aJ.cons (by exact eG) ?_;exact aJ.nil))) (h:=λ x105=>?_)
                  refine b8 (hfire:=(λ _=>by(refine aJ.cons (by exact eG) ?_;refine aJ.cons (by exact fC (hq:=dH (k:=y.j) (lst:=ix) rf rf gE fW fin (by omega) (by omega))) ?_;refine aJ.cons (by exact fC (hq:=eX (q:=y.j) (lst:=ix) rf fW fin (by omega))) ?_;exact aJ.nil))) (h:=λ x97=>?_);((refine mG (hfire:=(λ _=>by(refine eY ?_;refine aJ.cons (by exact fC (hq:=dH (k:=y.j) (lst:=ix) rf rf gE fW fin (by omega) (by omega))) ?_;refine aJ.cons (by exact fC (hq:=eX (q:=y.j) (lst:=ix) rf fW fin (by omega))) ?_;exact aJ.nil))) (h:=λ x100=>?_);try (refine eH (λ h100=>?_))));((refine mG (h:=λ x106=>?_);try (refine eH (λ h106=>?_))));refine J7 ?_
                  refine lB (x106) (by decide) ?_ (by repeat (first|(with_reducible exact yJ.refl)|refine yJ.cons (by exact rfl) ?_)) ?_ (λ w hw=>hw.back (hF:=aY.jH λ f hf=>List.mem_cons_of_mem _ hf) (hO:=by exact List.Sublist.refl _))
                  · repeat' (first|exact bI _|refine bD ?_ ?_)
                    (conv=>{lhs;whnf};simp;done)
                  · omega
              dsimp only[hY,List.map,List.cons_append,List.nil_append]
              refine aV ?_;refine gZ [0,1,2,3,4,5,6,7,8,9,10,11,12,13,14,15,16,17,18,19,20,21] ?_;refine bT ?_;refine lH ?_;refine aN ?_;refine bV (i:=4) (hq:=(dH (k:=y.j) (lst:=(aB L r).xs) rf rf gE fW (.bJ .head) (by omega) (by omega))) (h:=?_);refine bV (i:=5) (hq:=(oA (cs:=aG (aB L r).xs) (q:=y.j) (v:=.int .i64 ((q+1:Nat):Int)) rf fW (λ w hw=>hw.cl (.bJ .head)) (by rw[<- hj];exact Oe hjl))) (h:=?_);refine lH ?_;refine lH ?_;refine jm ?_;refine aN ?_;refine iH ?_;refine aN ?_;refine bB (i:=14) (hq:=(cM (hs:=[]) (os:=[ud L pv y.sn]) (hA:=bG.cons (.inr (.inl (.tail _ (.head _)))) (bG.cons (.inr (.inl (.tail _ (.tail _ (.head _))))) (bG.cons (.inr (.inr (.inr ⟨_,.head _,rfl,rfl⟩))) (bG.of λ f hf=>.inr (.inl (.tail _ (.tail _ (.tail _ (.tail _ hf))))))))) (hc:=λ w1 hs=>ih m rfl (lv+1) (by omega) q ((k+1:Nat):Int) 0 (way++[ix.getD y.j 0]) u.1 u.2 _ y.sn _ w1 hq (by simp;omega) (by simp;omega) hy.2.2.1 hs))) (h:=λ x122 h122=>?_);refine aN ?_;refine iP ?_;refine iP ?_;refine iP ?_;refine kN (h:=λ _=>?_);refine Oz ?_;refine kT ?_;refine oV ?_
              refine bC (λ c127=>?_) (λ c127=>?_)
              · try (first|(exact abt)|(exfalso;omega))
                have hno:=Nw.aCn h122 (by simpa using c127)
                refine J0 ?_;refine fX (λ _=>?_);refine J8 ?_
                refine bE Tryz.results116 (λ w hw=>?_)
                exact⟨⟨false,[],none,0,[],none,0,x122.sn,false⟩,rfl,Nw.no ((hpl c52 c61).trans (by rw[Ai.fail hy.2.1 hjl (by rw[hj];exact hkd) (by rw[hj];exact hno)];rfl)) h122.1 rfl,(hw.eW (F':=[(none,qW [])]) (by intro f hf;rw[List.mem_singleton.1 hf];exact .inl rfl)).aX (hO:=.cons _ (.cons _ (.cons _ (List.Sublist.refl _))))⟩
              · try (first|(exact abt)|(exfalso;omega))
                obtain⟨qq,hq1,e1,e2,⟨p0,t0,e3⟩,e4,e5,e6⟩:=Nw.yes h122 (by simpa using c127)
                have hlen1:=e5.len
                have hlen2:x122.l.length=qq.1.length:=by rw[<- e1,List.length_map]
                simp only[List.length_append,List.length_map,List.length_cons,List.length_nil] at hlen1
                have hmul2:(y.tl.length+1)*(B+64)+x122.l.length*(B+64)<=549755813888:=by rw[<- Nat.add_mul];exact Nat.le_trans (Nat.mul_le_mul_right _ (by omega)) hB.2
                obtain⟨m0,t1,e7⟩:=na hq1
                have e8:p0.way=way++[ix.getD y.j 0]:=by have:=e1;rw[e3,e7] at this;rw[show p0=_ from(List.cons.inj this).1]
                refine aZ ?_;refine Iz ?_;(refine aQ (bF.eK (fS (sz:=5) (cs:=qW (⟨⟨((k+1:Nat):Int),r,a,lv,way⟩,wp,wc⟩::y.tl)) (ys:=qW x122.l) rf rf yR (by rw[wZ];rfl) (.new .head) (by rw[wZ]) (A3 _) Ft rfl (by decide) gE (by omega)) uV) (λ x130=>?_);try (refine fD (λ h130=>?_)));refine pK ?_;(refine aQ (bF.eK (Nq (l:=y.ps) (l2:=x122.ps) rf rf yR rfl (Ik.fin e4 (λ f hf=>List.mem_append_left _ hf) (λ f hf=>.tail _ (.tail _ (.tail _ (.tail _ hf))))) rfl vy gE (by omega)) uV) (λ x133=>?_);try (refine fD (λ h133=>?_)));refine J8 ?_;refine Kb2 ?_
                refine lB ((by exact⟨y.j+1,y.tl++x122.l,x130.1,x130.2,y.ps++x122.ps,x133.1,x133.2,x122.sn⟩)) ?_ ?_ (by repeat (first|(with_reducible exact yJ.refl)|refine yJ.cons (by exact rfl) ?_)) ?_ (λ w hw=>by exact z7 hw e3 e8)
                · (simp only[];omega)
                · repeat' (first|exact bI _|refine bD ?_ ?_)
                  all_goals (first|exact rfl|(conv=>{lhs;whnf};simp;done)|(conv=>{lhs;whnf};simp only[List.length_append];congr 1;omega))
                · exact z5 hy.2.1 hjl hj hkd hq1 e1 e2 e5 e6 hbnd
        · try (first|(exact abt)|(exfalso;omega))
          refine bP rfl ?_;refine jG ?_;refine fX (λ _=>?_);refine J8 ?_
          refine bE Tryz.results116 (λ w hw=>?_)
          refine⟨⟨true,⟨⟨((k+1:Nat):Int),r,a,lv,way⟩,wp,wc⟩::y.tl,y.lp,y.lc,y.ps,y.pp,y.pc,y.sn,true⟩,rfl,zf hy.2.2.1 ((hpl c52 c61).trans (by rw[Ai.done hy.2.1 (by omega)];rfl)) hy.2.2.2,?_⟩
          exact(SF.eW ((hw.freeze .head).freeze .head) (aAP y.tl)).v4
theorem Q2(h0:Fits L)(hb:StB L cs)(hl:L.length<=274877906944)(hc:cs.length<=274877906944)(hbm:∀r,∃b:Nat,b<18446744073709551616/\(aB L r).nd.bm=(b:Int)/\((aB L r).nd.kind=3->(aB L r).xs.length=gA b 64))(B pv:Nat)(hB:Few L B):∀n,zr L cs gen pn cn pc cc B pv n
 | 0=>Je h0 hb hl hc hbm B pv hB 0 λ m e=>nomatch e
 | n+1=>Je h0 hb hl hc hbm B pv hB (n+1) λ m e=>by cases e;exact Q2 h0 hb hl hc hbm B pv hB n
end
end Go.Proofs.YtbajmaoegmbfgaaGreat

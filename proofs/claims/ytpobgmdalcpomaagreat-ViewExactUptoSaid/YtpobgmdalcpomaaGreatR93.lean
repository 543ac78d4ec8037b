/- The reference of views: the places of a trie. -/
import Derived.Test.YtpobgmdalcpomaaGreatGPl1
set_option linter.unusedSimpArgs false
set_option linter.unusedVariables false
namespace Go.Ct
open Go Go.RowKit
structure Cp where
 ok:Bool
 l:List qM
 lp:Option Addr
 lc:Nat
 ps:List Pr
 pp:Option Addr
 pc:Nat
 sn:List Bool
 own:Bool
structure ya where
 j:Nat
 tl:List qM
 lp:Option Addr
 lc:Nat
 ps:List Pr
 pp:Option Addr
 pc:Nat
 sn:List Bool
def Cp.pf(x:Cp):Fr:=if x.own=true then [(x.pp,dI x.ps)] else []
def Cp.fr(x:Cp):Fr:=(x.lp,pS x.l)::(Gy x.l.tail++x.pf)
def Vs(n:Nat)(vs:List Bool)(s:List Int):Prop:=Ov (n+1) vs (s.map (· + 1))
theorem Vs.zero(n:Nat):Vs n (List.replicate (n+1) false) []:=Ov.zero _
theorem Zv{s:List Int}{k:Int}:k+1∈s.map (· + 1)↔k∈s:=by
 rw[List.mem_map]
 exact⟨λ⟨a,h,e⟩=>by rw[show k=a by omega];exact h,λ h=>⟨k,h,rfl⟩⟩
theorem Vs.mem{n k:Nat}{vs:List Bool}{s:List Int}(h:Vs n vs s)(hk:k<=n):vs.getD k false=true↔(k:Int)∈s:=by
 rw[h.2.1 k (by omega)]
 rw[show((k+1:Nat):Int)=(k:Int)+1 by omega]
 exact Zv
theorem Vs.set{n k:Nat}{vs:List Bool}{s:List Int}(h:Vs n vs s)(hk:k<=n)(hf:vs.getD k false=false):Vs n (vs.set k true) (s++[(k:Int)]):=by
 have:=Ov.set h (k:=k) (by omega) hf
 unfold Vs
 rw[List.map_append]
 exact this
theorem Vs.len{n:Nat}{vs:List Bool}{s:List Int}(h:Vs n vs s):s.length<=n+1:=by have:=Ov.len h;rw[List.length_map] at this;exact this
def Lc(L:List aQ)(B:Nat)(wp:Option Addr)(wc:Nat)(s:List Int)(o:Option (List Pl×List Pr))(x:Cp):Prop:=x.sn.length=L.length+1/\match o with
 | none=>x.ok=false
 | some q=>x.ok=true/\x.l.map qM.p=q.1/\x.ps=q.2/\(∃p tl,x.l=⟨p,wp,wc⟩::tl)/\(x.own=false->(x.pp,dI x.ps)∈bG L)/\Vs L.length x.sn (s++q.1.map Pl.i)/\x.ps.length<=x.l.length*(B+64)
theorem Lc.one{L:List aQ}{B:Nat}{wp lp pp:Option Addr}{wc lc pc:Nat}{s way:List Int}{i r a:Int}{lv:Nat}{sn:List Bool}{ps:List Pr}{own:Bool}{o:Option (List Pl×List Pr)}(h1:sn.length=L.length+1)(he:o=some ([⟨i,r,a,lv,way⟩],ps))(hf:own=false->(pp,dI ps)∈bG L)(hv:Vs L.length sn (s++[i]))(hb:ps.length<=B+64) :
  Lc L B wp wc s o ⟨true,[⟨⟨i,r,a,lv,way⟩,wp,wc⟩],lp,lc,ps,pp,pc,sn,own⟩:=⟨h1,by rw[he];exact⟨rfl,rfl,rfl,⟨_,_,rfl⟩,hf,hv,by simpa using hb⟩⟩
theorem Lc.yes{L:List aQ}{B:Nat}{wp:Option Addr}{wc:Nat}{s:List Int}{o:Option (List Pl×List Pr)}{x:Cp}(h:Lc L B wp wc s o x)(hk:x.ok=true):∃q,o=some q/\x.l.map qM.p=q.1/\x.ps=q.2/\(∃p tl,x.l=⟨p,wp,wc⟩::tl)/\(x.own=false->(x.pp,dI x.ps)∈bG L)/\Vs L.length x.sn (s++q.1.map Pl.i)/\x.ps.length<=x.l.length*(B+64):=by
 cases o with
 | none=>have:=h.2;rw[hk] at this;cases this
 | some q=>exact⟨q,rfl,h.2.2⟩
theorem Lc.za{L:List aQ}{B:Nat}{wp:Option Addr}{wc:Nat}{s:List Int}{o:Option (List Pl×List Pr)}{x:Cp}(h:Lc L B wp wc s o x)(hk:x.ok=false):o=none:=by
 cases o with
 | none=>rfl
 | some q=>have:=h.2.1;rw[hk] at this;cases this
theorem Lc.no{L:List aQ}{B:Nat}{wp:Option Addr}{wc:Nat}{s:List Int}{o:Option (List Pl×List Pr)}{x:Cp}(e:o=none)(h1:x.sn.length=L.length+1)(h2:x.ok=false):Lc L B wp wc s o x:=⟨h1,by rw[e];exact h2⟩
theorem Cp.fin{L:List aQ}{A F:Fr}{O:List Ow}{x:Cp}(h:x.own=false->(x.pp,dI x.ps)∈bG L)(hF:∀f∈x.fr,f∈F)(hA:∀f∈bG L,f∈A):pP A F O x.pp (dI x.ps):=by
 cases ho:x.own with
 | true=>exact .new (tD.jB (hF _ (List.mem_cons_of_mem _ (List.mem_append_right _ (by unfold Cp.pf;rw[if_pos ho];exact List.mem_cons_self ..)))))
 | false=>exact .cE (tD.jB (hA _ (h ho)))
theorem ai{N:List Nv}{cs:List Int}{n lv:Nat}{a i:Int}{way s:List Int}{q:List Pl×List Pr}(h:By N cs n a lv i way s=some q):∃m t,q.1=⟨i,m,a,lv,way⟩::t:=by
 cases n with
 | zero=>cases h
 | succ n =>
  unfold By at h
  split at h
  ·cases h
  obtain⟨m,_,h⟩:=Option.bind_eq_some_iff.1 h
  split at h
  ·cases h;exact⟨m,[],rfl⟩
  ·obtain⟨t,_,h⟩:=Option.map_eq_some_iff.1 h
   subst h
   exact⟨m,t.1,rfl⟩
def zg(L:List aQ)(B:Nat):Prop:=(∀r,(aD L r).ys.length<=B/\(aD L r).xs.length<=64)/\(L.length+1)*(B+64)<=549755813888
end Go.Ct
namespace Go.Proofs.YtpobgmdalcpomaaGreat
open Go Go.RowKit Go.Ct
section
variable{L:List aQ}{cs:List Int}{gen:Int}{pn pc:Option Addr}{cn cc:Nat}{w:World}
theorem E7:eD Tryz.prog 100 54 [.int .i64 0,.int .i64 0,.int .i64 0,.int .i64 0,.slice none 0 0]:=mE (z:=.agg ⟨[.int .i64 0,.int .i64 0,.int .i64 0,.int .i64 0,.slice none 0 0]⟩) (by kernel_rfl) (by kernel_rfl) rfl
abbrev cj(L:List aQ)(pv:Nat)(sn:List Bool):Ow:=⟨some ⟨pv,0,none⟩,iR sn,L.length+1,4,1⟩
def oz(L:List aQ)(cs:List Int)(gen:Int)(pn:Option Addr)(cn:Nat)(pc:Option Addr)(cc:Nat)(B pv:Nat)(n:Nat):Prop:=∀(lv:Nat),lv+n=12->∀(k:Nat) (a mm:Int) (way:List Int) (wp:Option Addr) (wc:Nat) (s:List Int) (sn:List Bool) (D:List Nat) (w:World),k<L.length->way.length=lv->way.length<=wc->Vs L.length sn s->SF w D [] ((pn,iD L)::(pc,aJ cs)::(wp,aJ way)::bG L) [] [cj L pv sn] w ->
  Calls Tryz.prog 55 #[kJ L cs gen pn cn pc cc,.agg ⟨[.int .i64 ((k+1:Nat):Int),.int .i64 mm,.int .i64 a,.int .i64 ((lv:Nat):Int),.slice wp way.length wc]⟩,.slice (some ⟨pv,0,none⟩) (L.length+1) (L.length+1)] w λ e w'=>∃x:Cp,e=.returned (.tuple #[.slice x.lp x.l.length x.lc,.slice x.pp x.ps.length x.pc,.bool x.ok])/\Lc L B wp wc s (By (L.map aQ.c) cs n a lv ((k+1:Nat):Int) way s) x/\SF w D [] [] x.fr [cj L pv x.sn] w'
theorem U5(h0:Fits L)(hb:V9 L cs)(hl:L.length<=274877906944)(hc:cs.length<=274877906944)(B pv:Nat)(n lv:Nat)(hn:lv+n=12)(k:Nat)(a mm:Int)(way:List Int)(wp:Option Addr)(wc:Nat)(s:List Int)(sn:List Bool)(D:List Nat)(w:World)(hk:k<L.length)(hv:Vs L.length sn s)
  (hno:(eR (L.map aQ.c) cs ((k+1:Nat):Int)).isSome=false∨n=0∨((k+1:Nat):Int)∈s) (hs:SF w D [] ((pn,iD L)::(pc,aJ cs)::(wp,aJ way)::bG L) [] [cj L pv sn] w) :
  Calls Tryz.prog 55 #[kJ L cs gen pn cn pc cc,.agg ⟨[.int .i64 ((k+1:Nat):Int),.int .i64 mm,.int .i64 a,.int .i64 ((lv:Nat):Int),.slice wp way.length wc]⟩,.slice (some ⟨pv,0,none⟩) (L.length+1) (L.length+1)] w λ e w'=>∃x:Cp,e=.returned (.tuple #[.slice x.lp x.l.length x.lc,.slice x.pp x.ps.length x.pc,.bool x.ok])/\Lc L B wp wc s (By (L.map aQ.c) cs n a lv ((k+1:Nat):Int) way s) x/\SF w D [] [] x.fr [cj L pv x.sn] w':=by
 have hvl:sn.length=L.length+1:=hv.1
 have hno2:(eR (L.map aQ.c) cs ((k+1:Nat):Int)).isSome=false∨n=0∨sn.getD (k+1) false=true:=by
  rcases hno with h|h|h
  ·exact .inl h
  ·exact .inr (.inl h)
  ·exact .inr (.inr ((hv.mem (k:=k+1) (by omega)).2 h))
 have hplc:By (L.map aQ.c) cs n a lv ((k+1:Nat):Int) way s=none:=by
  rcases hno with h|h|h
  ·exact N0 h
  ·subst h;exact rfl
  ·exact Nw h
 rw[hplc]
 refine enter Tryz.func55 Tryz.ntmps55 rfl rfl hs ?_
 simp only[dB]
 simp only[kJ]
 all_goals (refine J0 ?_;refine bM (λ x3=>?_);refine bM (λ x4=>?_);refine eJ (λ _=>?_);refine J8 ?_;refine iU ?_;refine J3 ?_;(refine aF (cV (hc:=λ w1 hw=>Kz (hw.rE (.inr (.inl (.head _))) (.inr (.inl (.tail _ (.head _)))) (λ f hf=>.inr (.inl (.tail _ (.tail _ (.tail _ hf))))) h0) hb hl hc ((k+1:Nat):Int) (by omega))) (λ x22=>?_);try (refine aB (λ h22=>?_)));refine pZ ?_;refine J8 ?_;refine jS ?_;refine As ?_)
 all_goals (first|refine aG ?_|(refine aC ?_;refine aE ?_)|(refine dG 27 (λ g27=>?_) (λ g27=>?_)<;>(try (first|(exact absurd (by assumption) (by decide:¬(true=false)))|(exfalso;omega)))<;>(first|refine aG ?_|(refine aC ?_;refine aE ?_))))
 all_goals ((first|refine aG ?_|(refine aC ?_;refine bJ ?_));refine xV ?_;refine aA ?_)
 all_goals (first|refine aG ?_|(refine aC ?_;refine aA ?_)|(refine dG 32 (λ g32=>?_) (λ g32=>?_)<;>(try (first|(exact absurd (by assumption) (by decide:¬(true=false)))|(exfalso;omega)))<;>(first|refine aG ?_|(refine aC ?_;refine aA ?_))))
 all_goals (refine J6 ?_;(first|refine aG ?_|(refine aC ?_;refine aH (kT (k:=k+1) rf rf fG bU fin (by omega) (by omega)) rfl ?_));(first|refine aG ?_|(refine aC ?_;refine aH (vS (q:=k+1) rf bU fin (by omega)) rfl ?_));refine cH ?_;refine aN ?_)
 all_goals
 refine bF (λ c38=>?_) (λ c38=>?_)
 ·try exact nv c38
  all_goals try (first|(exact absurd (by assumption) (by decide:¬(true=false)))|(exfalso;omega))
  all_goals (refine J0 ?_;refine eJ (λ _=>?_);refine J8 ?_)
  all_goals
   refine bH Tryz.results55 (λ w hw=>?_)
   exact⟨⟨false,[],none,0,[],none,0,sn,false⟩,rfl,⟨hvl,rfl⟩,(hw.dO (F':=[(none,pS [])]) (by intro f hf;rw[List.mem_singleton.1 hf];exact .inl rfl)).aV⟩
 ·try exact nv c38
  all_goals try (first|(exact absurd (by assumption) (by decide:¬(true=false)))|(exfalso;omega))
  all_goals
   (exfalso;(rcases hno2 with h|h|h);(rw[h] at g27;cases g27);(exfalso;omega);(rw[h] at c38;cases c38))
theorem bn{L:List aQ}{B:Nat}{f:Int->List Int->List Int->Option (List Pl×List Pr)}{way ix xs s:List Int}{y:ya}{x:Cp}{q:Nat}{qq:List Pl×List Pr}{p1 p2:Option Addr}{c1 c2:Nat}(h1:yS (L.map aQ.c) f way ix xs s y.j (y.tl.map qM.p) y.ps)(hjl:y.j<xs.length)(hj:xs.getD y.j 0=((q+1:Nat):Int))(hkd:(cG (L.map aQ.c) ((q+1:Nat):Int)).kind=2)
  (hq1:f ((q+1:Nat):Int) (way++[ix.getD y.j 0]) (s++(y.tl.map qM.p).map Pl.i)=some qq) (e1:x.l.map qM.p=qq.1) (e2:x.ps=qq.2) (e5:Vs L.length x.sn ((s++(y.tl.map qM.p).map Pl.i)++qq.1.map Pl.i)) (e6:x.ps.length<=x.l.length*(B+64)) (hb:y.ps.length+(64-y.j)<=(y.tl.length+1)*(B+64)) :
  (⟨y.j+1,y.tl++x.l,p1,c1,y.ps++x.ps,p2,c2,x.sn⟩:ya).j<=xs.length/\yS (L.map aQ.c) f way ix xs s (y.j+1) ((y.tl++x.l).map qM.p) (y.ps++x.ps)/\Vs L.length x.sn (s++((y.tl++x.l).map qM.p).map Pl.i)/\(y.ps++x.ps).length+(64-(y.j+1))<=((y.tl++x.l).length+1)*(B+64):=by
 refine⟨hjl,?_,?_,?_⟩
 ·have:=yS.inner h1 hjl (by rw[hj];exact hkd) (by rw[hj];exact hq1)
  rw[List.map_append,e1,e2]
  exact this
 ·rw[List.map_append,List.map_append,e1,<- List.append_assoc]
  exact e5
 ·rw[List.length_append,List.length_append,show y.tl.length+x.l.length+1=(y.tl.length+1)+x.l.length by omega,Nat.add_mul]
  omega
theorem Nn(a b:List qM):Gy (a++b)=Gy a++Gy b:=by simp[Gy]
theorem Ys{w0 w:World}{M:List Nat}{H:List (Nat×Obj)}{A:Fr}{T T2 T3:TypeId}{pp lp wp:Option Addr}{kp kl wc:Nat}{psC:List Value}{ix wy:List Int}{ip:Option Addr}{x:Cp}{hd:qM}{tl t0:List qM}{p0:Pl}{sw:Ow}{b:Nat×Obj}
  (hw:SF w0 M (b::H) A (x.fr++(ip,aJ ix)::Gy tl) [⟨wp,aJ wy,wc,T,1⟩,⟨pp,psC,kp,T2,2⟩,⟨lp,pS (hd::tl)++pS x.l,kl,T3,5⟩,sw] w) (e3:x.l=⟨p0,wp,wc⟩::t0) (e8:p0.way=wy) :
  SF w0 M H A ((ip,aJ ix)::Gy (tl++x.l)) [⟨pp,psC,kp,T2,2⟩,⟨lp,pS (hd::(tl++x.l)),kl,T3,5⟩,sw] w:=by
 rw[<- List.cons_append,Nt]
 refine SF.back (SF.dO (F':=(ip,aJ ix)::Gy (tl++x.l)) (hw.freeze .head) λ f hf=>?_) (hH:=List.sublist_cons_self ..) (hF:=aW.all)
 rw[Nn] at hf
 rcases List.mem_cons.1 hf with rfl|hf
 ·exact .inr (.tail _ (List.mem_append_right _ (.head _)))
 rcases List.mem_append.1 hf with hf|hf
 ·exact .inr (.tail _ (List.mem_append_right _ (.tail _ hf)))
 ·rw[e3] at hf
  rcases List.mem_cons.1 hf with rfl|hf
  ·show aJ p0.way=[]∨(wp,aJ p0.way)∈_
   rw[e8]
   exact .inr (.head _)
  ·refine .inr (.tail _ (List.mem_append_left _ (.tail _ (List.mem_append_left _ ?_))))
   rw[e3]
   exact hf
theorem sb{L:List aQ}{B:Nat}{wp lp pp:Option Addr}{wc lc pc:Nat}{s way:List Int}{i r a:Int}{lv:Nat}{o:Option (List Pl×List Pr)}{y:ya}(h:Vs L.length y.sn ((s++[i])++(y.tl.map qM.p).map Pl.i))(ho:o=some (⟨i,r,a,lv,way⟩::y.tl.map qM.p,y.ps))(hb:y.ps.length+(64-y.j)<=(y.tl.length+1)*(B+64)) :
  Lc L B wp wc s o ⟨true,⟨⟨i,r,a,lv,way⟩,wp,wc⟩::y.tl,lp,lc,y.ps,pp,pc,y.sn,true⟩:=by
 refine⟨h.1,?_⟩
 rw[ho]
 refine⟨rfl,rfl,rfl,⟨_,_,rfl⟩,(λ e=>nomatch e),?_,?_⟩
 ·rw[List.append_assoc] at h
  exact h
 ·show y.ps.length<=(y.tl.length+1)*(B+64)
  omega
theorem w3{ip lp pp wp:Option Addr}{wc lc pc:Nat}{ix:List Value}{p:Pl}{ps:List Pr}{sn:List Bool}(tl:List qM):∀f∈(⟨true,⟨p,wp,wc⟩::tl,lp,lc,ps,pp,pc,sn,true⟩:Cp).fr,f.2=[]∨f∈(lp,pS (⟨p,wp,wc⟩::tl))::(pp,dI ps)::(ip,ix)::Gy tl:=by
 intro f hf
 rcases List.mem_cons.1 hf with rfl|hf
 ·exact .inr (.head _)
 rcases List.mem_append.1 hf with hf|hf
 ·exact .inr (.tail _ (.tail _ (.tail _ hf)))
 ·rw[show(⟨true,⟨p,wp,wc⟩::tl,lp,lc,ps,pp,pc,sn,true⟩:Cp).pf=[(pp,dI ps)] from rfl] at hf
  rw[List.mem_singleton.1 hf]
  exact .inr (.tail _ (.head _))
set_option maxRecDepth 100000 in
set_option maxHeartbeats 2000000 in
theorem Ip(h0:Fits L)(hb:V9 L cs)(hl:L.length<=274877906944)(hc:cs.length<=274877906944)(hbm:∀r,∃b:Nat,b<18446744073709551616/\(aD L r).nd.bm=(b:Int)/\((aD L r).nd.kind=3->(aD L r).xs.length=hJ b 64))(B pv:Nat)(hB:zg L B)(n:Nat)(ih:∀m,n=m+1->oz L cs gen pn cn pc cc B pv m):oz L cs gen pn cn pc cc B pv n:=by
  intro lv hn k a mm way wp wc s sn D w hk hwl hwc hv hs
  have hvl:sn.length=L.length+1:=hv.1
  have hvn:=hv.len
  by_cases hno:(eR (L.map aQ.c) cs ((k+1:Nat):Int)).isSome=false∨n=0∨((k+1:Nat):Int)∈s
  · exact U5 h0 hb hl hc B pv n lv hn k a mm way wp wc s sn D w hk hv hno hs
  simp only[not_or] at hno
  obtain⟨hb1,hn0,hnot⟩:=hno
  obtain⟨r,hr⟩:=Option.isSome_iff_exists.1 (show(eR (L.map aQ.c) cs ((k+1:Nat):Int)).isSome=true by cases h:(eR (L.map aQ.c) cs ((k+1:Nat):Int)).isSome<;>simp_all)
  obtain⟨m,rfl⟩:∃m,n=m+1:=⟨n-1,by omega⟩
  have hnf:sn.getD (k+1) false=false:=by
    cases h:sn.getD (k+1) false with
    | false=>rfl
    | true=>exact absurd ((hv.mem (k:=k+1) (by omega)).1 h) hnot
  have hv2:=hv.set (k:=k+1) (by omega) hnf
  have hfr:=Aq h0 r
  have hri:=Au (rD hr).2
  rw[List.length_map] at hri
  have hrr:r<=9223372036854775807:=by omega
  have hbn:=hfr.brN
  have hbs:=hfr.brS
  have hpn:=hfr.prN
  have hfm:=Ko hri
  have hfp:=Tu hri
  have hbr:=hb.br r
  have hB1:=(hB.1 r).1
  have hB2:=(hB.1 r).2
  obtain⟨bt,hbt,hbe,hbl⟩:=hbm r
  obtain⟨ix,hix⟩:∃ix,ix=pJ bt 64:=⟨_,rfl⟩
  have hpl:¬(aD L r).nd.kind=5->¬(aD L r).nd.kind=6->By (L.map aQ.c) cs (m+1) a lv ((k+1:Nat):Int) way s=(B8 (L.map aQ.c) (λ b w s=>By (L.map aQ.c) cs m ((k+1:Nat):Int) (lv+1) b w s) way ix (aD L r).xs 0 (s++[((k+1:Nat):Int)])).map λ q=>(⟨((k+1:Nat):Int),r,a,lv,way⟩::q.1,q.2):=by
    intro h5 h6
    rw[ns hnot hr (by rw[bD];exact λ h=>h.elim h5 h6),jX]
    rw[bD,show(aD L r).c.bm=(bt:Int) from hbe,Int.toNat_natCast,<- hix]
  have hv3:=hv2.len
  refine enter Tryz.func55 Tryz.ntmps55 rfl rfl (hs.Qj (a':=(aD L r).nd.brA) (cs':=aJ (aD L r).xs) (.cE (.tail (.tail (.tail (tD.jB hfm))))) (λ _=>rfl) (λ h=>h) (λ w h=>h)) ?_
  simp only[dB]
  simp only[kJ]
  all_goals (refine J0 ?_;refine bM (λ x3=>?_);refine bM (λ x4=>?_);refine eJ (λ _=>?_);refine J8 ?_;refine iU ?_;refine J3 ?_;(refine aF (cV (hc:=λ w1 hw=>by have:=Kz (gen:=gen) (cn:=cn) (cc:=cc) (hw.rE (.inr (.inl (.tail _ (.head _)))) (.inr (.inl (.tail _ (.tail _ (.head _))))) (λ f hf=>.inr (.inl (.tail _ (.tail _ (.tail _ (.tail _ hf)))))) h0) hb hl hc ((k+1:Nat):Int) (by omega);rw[hr] at this;exact this)) (λ x22=>?_);try (refine aB (λ h22=>?_)));refine pZ ?_;refine J8 ?_;refine jS ?_;refine As ?_)
  all_goals (first|refine aG ?_|(refine aC ?_;refine aE ?_)|(refine dG 27 (λ g27=>?_) (λ g27=>?_)<;>(try (first|(exact absurd (by assumption) (by decide:¬(true=false)))|(exfalso;omega)))<;>(first|refine aG ?_|(refine aC ?_;refine aE ?_))))
  all_goals ((first|refine aG ?_|(refine aC ?_;refine bJ ?_));refine xV ?_;refine aA ?_)
  all_goals (first|refine aG ?_|(refine aC ?_;refine aA ?_)|(refine dG 32 (λ g32=>?_) (λ g32=>?_)<;>(try (first|(exact absurd (by assumption) (by decide:¬(true=false)))|(exfalso;omega)))<;>(first|refine aG ?_|(refine aC ?_;refine aA ?_))))
  all_goals (refine J6 ?_;(first|refine aG ?_|(refine aC ?_;refine aH (kT (k:=k+1) rf rf fG bU fin (by omega) (by omega)) rfl ?_));(first|refine aG ?_|(refine aC ?_;refine aH (vS (q:=k+1) rf bU fin (by omega)) rfl ?_));refine cH ?_;refine aN ?_)
  all_goals
   refine bF (λ c38=>?_) (λ c38=>?_)
   · try exact nv c38
     all_goals try (first|(exact absurd (by assumption) (by decide:¬(true=false)))|(exfalso;omega))
     all_goals
      (exfalso;first|(simp at c38;done)|omega|simp_all)
   · try exact nv c38
     all_goals try (first|(exact absurd (by assumption) (by decide:¬(true=false)))|(exfalso;omega))
     all_goals (refine aZ ?_;refine J2 ?_;refine J3 ?_;refine aH (kT (k:=k+1) rf rf fG bU fin (by omega) (by omega)) rfl ?_;refine J5 ?_;refine J2 ?_;refine qS ?_;refine iU ?_;refine aF (Nu (sz:=5) (cs:=pS [⟨⟨((k+1:Nat):Int),r,a,lv,way⟩,wp,wc⟩]) E7 Ei rf rf rf rf rf rf) (λ x46=>?_);refine J1 ?_;refine rK ?_;(refine aF (cV (hc:=λ w1 hw=>pG (hw.rE (.inr (.inl (.tail _ (.head _)))) (.inr (.inl (.tail _ (.tail _ (.head _))))) (λ f hf=>.inr (.inl (.tail _ (.tail _ (.tail _ (.tail _ hf)))))) h0) r (by omega) hl)) (λ x49=>?_);try (refine aB (λ h49=>?_)));refine aY (λ x10=>?_);refine J5 ?_;refine Aj ?_;refine aN ?_;refine cZ ?_;refine kK ?_)
     all_goals
      refine bF (λ c52=>?_) (λ c52=>?_)
      · try exact nv c52
        all_goals try (first|(exact absurd (by assumption) (by decide:¬(true=false)))|(exfalso;omega))
        all_goals refine aT ?_
        all_goals
         refine I8 [6,7,8,54,55,56,57,58,59,60] (λ z:Nat=>[(6,.slice (some ⟨x46,0,none⟩) 1 1),(60,.slice (some ⟨z,0,none⟩) 1 1),(7,.slice (some ⟨z,0,none⟩) 1 1),(8,.bool true)]) (λ z=>True) (λ _=>[]) (λ z=>[(some ⟨z,0,none⟩,dI [((aD L r).nd.key,(aD L r).nd.val)])]) (λ _=>[]) (by decide) (λ _=>by exact rfl) (λ _=>by simp only[List.nil_append,List.cons_append];exact rfl) (λ _=>by simp only[List.nil_append,List.cons_append];exact rfl) (λ _=>by simp only[List.nil_append,List.cons_append];exact rfl) ?_ (λ z f hx=>?_)
         · refine gU (.one 0 [] (.one 1 [] (.one 2 [] (.one 3 [] (.one 4 [] (.one 5 [] (.two 6 [] (.one 7 [2,4] (.one 8 [] (.one 9 [] .nil))) 0 [] (.two 7 [2,4] (.one 6 [] (.one 8 [] (.one 9 [] .nil))) 0 [] .nil)))))))) ?_
           all_goals (refine aL ?_;refine jP ?_;refine jP ?_;refine eT ?_)
           all_goals
            refine gS (E:=[6,7]) (by decide +kernel) ((.cons ?_ (.cons ?_ .nil)))
            · refine lQ (i:=6) (h:=λ x60=>?_)
              all_goals (refine mT (h:=λ _=>?_);refine Oi ?_)
              all_goals
               refine fM (x60) ?_
               · trivial
            · refine Uu (i:=7) (h:=λ _=>?_)
              all_goals (refine bB (h:=λ x60=>?_);refine Oi ?_)
              all_goals
               refine fM (x60) ?_
               · trivial
         dsimp only[gW,List.map,List.cons_append,List.nil_append]
        all_goals
         refine bH Tryz.results55 (λ w hw=>?_)
         have hk5:(cG (L.map aQ.c) r).kind=5:=by rw[bD];exact c52
         have ho:rR (aD L r).c=[((aD L r).nd.key,(aD L r).nd.val)]:=if_pos c52
         refine⟨⟨true,[⟨⟨((k+1:Nat):Int),r,a,lv,way⟩,wp,wc⟩],some ⟨x46,0,none⟩,1,[((aD L r).nd.key,(aD L r).nd.val)],some ⟨z,0,none⟩,1,sn.set (k+1) true,true⟩,rfl,Lc.one (by rw[List.length_set];exact hvl) ((Jr hnot hr (.inl hk5)).trans (by rw[bD,ho])) (λ e=>nomatch e) hv2 (by simp only[List.length_cons,List.length_nil];omega),?_⟩
         exact(show SF _ D [] [] [(some ⟨x46,0,none⟩,pS [⟨⟨((k+1:Nat):Int),r,a,lv,way⟩,wp,wc⟩]),(some ⟨z,0,none⟩,dI [((aD L r).nd.key,(aD L r).nd.val)])] [cj L pv (sn.set (k+1) true)] _ from(hw.freeze .head).aV)
      · try exact nv c52
        all_goals try (first|(exact absurd (by assumption) (by decide:¬(true=false)))|(exfalso;omega))
        all_goals refine kK ?_
        all_goals
         refine bF (λ c61=>?_) (λ c61=>?_)
         · try exact nv c61
           all_goals try (first|(exact absurd (by assumption) (by decide:¬(true=false)))|(exfalso;omega))
           all_goals (refine aT ?_;refine dL [(0,[]),(1,[]),(2,[]),(3,[2]),(4,[]),(5,[])] ?_;refine aL ?_;refine jP ?_;refine mT (h:=λ _=>?_);refine Oi ?_)
           all_goals
            refine bH Tryz.results55 (λ w hw=>?_)
            have hk6:(cG (L.map aQ.c) r).kind=6:=by rw[bD];exact c61
            have ho:rR (aD L r).c=(aD L r).ys:=(if_neg (show ¬(aD L r).nd.kind=5 from c52)).trans (if_pos c61)
            refine⟨⟨true,[⟨⟨((k+1:Nat):Int),r,a,lv,way⟩,wp,wc⟩],some ⟨x46,0,none⟩,1,(aD L r).ys,(aD L r).nd.prA,(aD L r).nd.dI,sn.set (k+1) true,false⟩,by rw[hpn];exact rfl,Lc.one (by rw[List.length_set];exact hvl) ((Jr hnot hr (.inr hk6)).trans (by rw[bD,ho])) (λ _=>hfp) hv2 (by omega),?_⟩
            exact(show SF _ D [] [] [(some ⟨x46,0,none⟩,pS [⟨⟨((k+1:Nat):Int),r,a,lv,way⟩,wp,wc⟩])] [cj L pv (sn.set (k+1) true)] _ from(hw.freeze .head).aV)
         · try exact nv c61
           all_goals try (first|(exact absurd (by assumption) (by decide:¬(true=false)))|(exfalso;omega))
           all_goals (refine mN ?_;refine gR ?_;(refine aF (cF (hc:=λ w1 hw=>Gu hix hbt hbe w1)) (λ x68=>?_);try (refine aB (λ h68=>?_)));refine iI ?_;refine Cq ?_)
           all_goals
            refine lO [6,7,8,12,13,14,15,16,17,69,70,71,72,73,74,75,76,77,78,79,80,81,82,83,84,85,86,87,88,89,90,91,92,93,94,95,96,97,98,99,100,101,102,103,104,105,106,107,108,109,110,111,112,113,114,115,116,117,118,119,120,121,122,123,124,125,126,127,128,129,130,131,132,133] (λ y:ya=>[(6,.slice y.lp (y.tl.length+1) y.lc),(7,.slice y.pp y.ps.length y.pc),(12,.int .i64 ((y.j:Nat):Int))]) (λ y=>y.j<=(aD L r).xs.length/\yS (L.map aQ.c) (λ b w s=>By (L.map aQ.c) cs m ((k+1:Nat):Int) (lv+1) b w s) way ix (aD L r).xs (s++[((k+1:Nat):Int)]) y.j (y.tl.map qM.p) y.ps/\Vs L.length y.sn ((s++[((k+1:Nat):Int)])++(y.tl.map qM.p).map Pl.i)/\y.ps.length+(64-y.j)<=(y.tl.length+1)*(B+64)) (λ y=>[(x10,.cells ⟨(aD L r).nd.cells⟩ 59 (0,0)),(x4,.cells ⟨[.int .i64 ((k+1:Nat):Int),.int .i64 r,.int .i64 a,.int .i64 ((lv:Nat):Int),.slice wp way.length wc]⟩ 54 (0,0)),(x3,.cells ⟨[.slice pn L.length cn,.slice pc cs.length cc,.int .i64 gen]⟩ 41 (0,0))]) (λ y=>(x68.1,aJ ix)::Gy y.tl) (λ y=>[⟨y.pp,dI y.ps,y.pc,47,2⟩,⟨y.lp,pS (⟨⟨((k+1:Nat):Int),r,a,lv,way⟩,wp,wc⟩::y.tl),y.lc,54,5⟩,cj L pv y.sn]) (λ y=>(aD L r).xs.length-y.j) (⟨0,[],some ⟨x46,0,none⟩,1,[],none,0,sn.set (k+1) true⟩) (⟨Nat.zero_le _,yS.zero,by simpa using hv2,by simp⟩) (λ y f hx=>?_) (hw0:=λ w hw=>(hw.jK 47 2).back)
            dsimp only[gW,List.map,List.cons_append,List.nil_append]
            have hy:=hx
            all_goals (refine jS ?_;refine Gh ?_;refine uQ ?_)
            all_goals
             refine bF (λ c73=>?_) (λ c73=>?_)
             · try exact nv c73
               all_goals try (first|(exact absurd (by assumption) (by decide:¬(true=false)))|(exfalso;omega))
               all_goals
                have hbk:(aD L r).xs.getD y.j 0<=9223372036854775807:=hbr _ (by rw[gdg,List.getElem?_eq_getElem (by omega)];exact List.getElem_mem _)
                have hk3:(aD L r).nd.kind=3:=by
                 have:=(rD hr).2
                 rw[bD] at this
                 rcases this with h|h|h
                 · exact h
                 · exact absurd h c52
                 · exact absurd h c61
                have hil:ix.length=(aD L r).xs.length:=by rw[hix,Ed,hbl hk3]
                have hjl:y.j<(aD L r).xs.length:=by omega
                have hlen0:=hy.2.2.1.len
                simp only[List.length_append,List.length_map,List.length_cons,List.length_nil] at hlen0
                have hmul:(y.tl.length+1)*(B+64)<=549755813888:=Nat.le_trans (Nat.mul_le_mul_right _ (by omega)) hB.2
                have hbnd:=hy.2.2.2
               all_goals (refine oD ?_;refine aT ?_)
               all_goals
                refine I8 [13,76,77,78,79,80,81,82] (λ z:Nat=>[(82,(aD L ((aD L r).xs.getD y.j 0)).nd.v),(13,.pointer (some ⟨z,0,none⟩))]) (λ z=>True) (λ z=>[(z,.cells ⟨(aD L ((aD L r).xs.getD y.j 0)).nd.cells⟩ 59 (0,0))]) (λ _=>[]) (λ _=>[]) (by decide) (λ _=>by exact rfl) (λ _=>by simp only[List.nil_append,List.cons_append];exact rfl) (λ _=>by simp only[List.nil_append,List.cons_append];exact rfl) (λ _=>by simp only[List.nil_append,List.cons_append];exact rfl) ?_ (λ z f hx=>?_)
                · refine gU (.one 0 [] (.one 1 [] (.one 2 [] (.one 3 [] (.one 4 [] (.one 5 [] (.two 6 [] (.one 7 [0,2,4,5] (.one 8 [] .nil)) 0 [] (.two 7 [0,2,4,5] (.one 6 [] (.one 8 [] .nil)) 0 [] .nil)))))))) ?_
                  all_goals (refine bT ?_;refine jP ?_;refine aL ?_;refine Cv ?_)
                  all_goals
                   refine gS (E:=[6,7]) (by decide +kernel) ((.cons ?_ (.cons ?_ .nil)))
                   · (refine mI (i:=6) (hq:=(cV (hc:=λ w1 hw=>pG (hw.rE (.inr (.inl (.tail _ (.head _)))) (.inr (.inl (.tail _ (.tail _ (.head _))))) (λ f hf=>.inr (.inl (.tail _ (.tail _ (.tail _ (.tail _ hf)))))) h0) ((aD L r).xs.getD y.j 0) (by omega) hl))) (h:=λ x82=>?_);try (refine aK (λ h82=>?_)))
                     all_goals (refine iM (hfire:=(λ _=>by first|(refine aI.cons (by exact cL) ?_;refine aI.cons (by exact cL) ?_;refine aI.cons (by exact iZ) ?_;refine aI.cons (by exact cL) ?_;exact aI.nil)|(refine bK ?_;refine aI.cons (by exact cL) ?_;refine aI.cons (by exact cL) ?_;refine aI.cons (by exact iZ) ?_;refine aI.cons (by exact cL) ?_;exact aI.nil))) (h:=λ x13=>?_);refine wW ?_)
                     all_goals
                      refine fM (x13) ?_ (hw1:=λ w hw=>hw.back (hF:=aW.all))
                      · trivial
                   · refine iL (i:=7) (hfire:=(λ _=>by first|(refine aI.cons (by exact cL) ?_;refine aI.cons (by exact cL) ?_;refine aI.cons (by exact iZ) ?_;refine aI.cons (by exact cL) ?_;exact aI.nil)|(refine bK ?_;refine aI.cons (by exact cL) ?_;refine aI.cons (by exact cL) ?_;refine aI.cons (by exact iZ) ?_;refine aI.cons (by exact cL) ?_;exact aI.nil))) (h:=λ x13=>?_)
                     all_goals (((refine bA (i:=6) (hq:=(cV (hc:=λ w1 hw=>pG (hw.rE (.inr (.inl (.tail _ (.head _)))) (.inr (.inl (.tail _ (.tail _ (.head _))))) (λ f hf=>.inr (.inl (.tail _ (.tail _ (.tail _ (.tail _ hf)))))) h0) ((aD L r).xs.getD y.j 0) (by omega) hl))) (h:=λ x82=>?_);try (refine aK (λ h82=>?_))));refine wW ?_)
                     all_goals
                      refine fM (x13) ?_ (hw1:=λ w hw=>hw.back (hF:=aW.all))
                      · trivial
                dsimp only[gW,List.map,List.cons_append,List.nil_append]
               all_goals (refine Aj ?_;refine tE ?_)
               all_goals
                refine bF (λ c85=>?_) (λ c85=>?_)
                · try exact nv c85
                  all_goals try (first|(exact absurd (by assumption) (by decide:¬(true=false)))|(exfalso;omega))
                  all_goals (refine J2 ?_;refine J3 ?_;refine J3 ?_;refine bV ?_;refine fA (λ x92=>?_);(refine dM (λ x93=>?_);try (refine aB (λ h93=>?_)));refine J1 ?_;refine bQ rfl ?_;refine uH ?_)
                  all_goals
                   refine jU ((by first|exact⟨y.j+1,y.tl++x122.l,x130.1,x130.2,y.ps++x122.ps,x133.1,x133.2,x122.sn⟩|exact⟨y.j+1,y.tl,y.lp,y.lc,y.ps++[((aD L ((aD L r).xs.getD y.j 0)).nd.key,(aD L ((aD L r).xs.getD y.j 0)).nd.val)],x93.1,x93.2,y.sn⟩)) ?_ ?_ (by repeat (first|(with_reducible exact vQ.refl)|refine vQ.cons (by exact rfl) ?_)) ?_ (λ w hw=>by first|exact hw.back (hF:=aW.jM λ f hf=>List.mem_cons_of_mem _ hf)|exact Ys hw e3 e8)
                   · first|omega|(simp only[];omega)
                   · repeat' (first|exact bI _|refine bE ?_ ?_)
                     all_goals (first|exact rfl|(conv=>{lhs;whnf};simp;done)|(conv=>{lhs;whnf};simp only[List.length_append];congr 1;omega))
                   · first|exact⟨by show y.j+1<=_;omega,by have:=yS.single hy.2.1 hjl (by rw[bD];exact c85);rw[bD] at this;exact this,hy.2.2.1,by show(y.ps++[_]).length+(64-(y.j+1))<=(y.tl.length+1)*(B+64);rw[List.length_append,List.length_singleton];omega⟩|exact bn hy.2.1 hjl hj hkd hq1 e1 e2 e5 e6 hbnd
                · try exact nv c85
                  all_goals try (first|(exact absurd (by assumption) (by decide:¬(true=false)))|(exfalso;omega))
                  all_goals (refine iW ?_;refine gR ?_;refine lY ?_;refine aN ?_)
                  all_goals
                   refine bF (λ c96=>?_) (λ c96=>?_)
                   · try exact nv c96
                     all_goals try (first|(exact absurd (by assumption) (by decide:¬(true=false)))|(exfalso;omega))
                     all_goals (refine J0 ?_;refine eJ (λ _=>?_);refine J8 ?_)
                     all_goals
                      refine bH Tryz.results55 (λ w hw=>?_)
                      exact⟨⟨false,[],none,0,[],none,0,y.sn,false⟩,rfl,Lc.no ((hpl c52 c61).trans (by rw[yS.bad hy.2.1 hjl (by rw[bD];exact c85) (by rw[bD];exact c96)];rfl)) hy.2.2.1.1 rfl,(hw.dO (F':=[(none,pS [])]) (by intro f hf;rw[List.mem_singleton.1 hf];exact .inl rfl)).aV (hO:=.cons _ (.cons _ (List.Sublist.refl _)))⟩
                   · try exact nv c96
                     all_goals try (first|(exact absurd (by assumption) (by decide:¬(true=false)))|(exfalso;omega))
                     all_goals
                      obtain⟨q,hj,hq⟩:∃q:Nat,(aD L r).xs.getD y.j 0=((q+1:Nat):Int)/\q<L.length:=by
                       have:=eS (N:=L.map aQ.c) (i:=(aD L r).xs.getD y.j 0) (by rw[bD];show(aD L ((aD L r).xs.getD y.j 0)).nd.kind≠0;omega)
                       rw[List.length_map] at this
                       exact⟨((aD L r).xs.getD y.j 0-1).toNat,by omega,by omega⟩
                      have hkd:(cG (L.map aQ.c) ((aD L r).xs.getD y.j 0)).kind=2:=by rw[bD];show(aD L ((aD L r).xs.getD y.j 0)).nd.kind=2;omega
                      rw[hj] at hkd
                     all_goals refine iW ?_
                     all_goals
                      refine I8 [14,97,98,99,100,101,102,103,104,105,106] (λ u:Option Addr×Nat=>[(14,.slice u.1 (way++[ix.getD y.j 0]).length u.2)]) (λ u=>way.length+1<=u.2) (λ _=>[]) (λ _=>[]) (λ u=>[⟨u.1,aJ (way++[ix.getD y.j 0]),u.2,3,1⟩]) (by decide) (λ _=>by exact rfl) (λ _=>by simp only[List.nil_append,List.cons_append];exact rfl) (λ _=>by simp only[List.nil_append,List.cons_append];exact rfl) (λ _=>by simp only[List.nil_append,List.cons_append];exact rfl) ?_ (λ u f hx=>?_)
                      · refine gU (.one 1 [] (.one 2 [] (.one 4 [] (.one 5 [] (.one 6 [] (.one 7 [] (.two 0 [2,6,7] (.two 3 [6,7] (.one 8 [2] (.one 9 [] (.one 10 [] .nil))) 0 [] (.two 8 [2] (.one 3 [6,7] (.one 9 [] (.one 10 [] .nil))) 0 [] .nil)) 0 [] (.two 8 [2] (.one 0 [2,6,7] (.one 3 [6,7] (.one 9 [] (.one 10 [] .nil)))) 0 [] .nil)))))))) ?_
                        all_goals (refine jP ?_;refine gD ?_;refine bP (i:=6) (hq:=(bW (k:=y.j) (lst:=ix) rf rf fG bU fin (by omega) (by omega))) (h:=?_);refine bP (i:=7) (hq:=(cJ (q:=y.j) (lst:=ix) rf bU fin (by omega))) (h:=?_))
                        all_goals
                         refine gS (E:=[0,8]) (by decide +kernel) ((.cons ?_ (.cons ?_ .nil)))
                         · refine zB (i:=0) (hfire:=(λ _=>by first|(refine aI.cons (by exact cL) ?_;refine aI.cons (by exact dC (hq:=bW (k:=y.j) (lst:=ix) rf rf fG bU fin (by omega) (by omega))) ?_;refine aI.cons (by exact dC (hq:=cJ (q:=y.j) (lst:=ix) rf bU fin (by omega))) ?_;exact aI.nil)|(refine bK ?_;refine aI.cons (by exact cL) ?_;refine aI.cons (by exact dC (hq:=bW (k:=y.j) (lst:=ix) rf rf fG bU fin (by omega) (by omega))) ?_;refine aI.cons (by exact dC (hq:=cJ (q:=y.j) (lst:=ix) rf bU fin (by omega))) ?_;exact aI.nil))) (h:=λ x97=>?_)
                           all_goals
                            refine gS (E:=[3,8]) (by decide +kernel) ((.cons ?_ (.cons ?_ .nil)))
                            · (refine Nk (i:=3) (hfire:=(λ _=>by first|(refine aI.cons (by exact dC (hq:=bW (k:=y.j) (lst:=ix) rf rf fG bU fin (by omega) (by omega))) ?_;refine aI.cons (by exact dC (hq:=cJ (q:=y.j) (lst:=ix) rf bU fin (by omega))) ?_;exact aI.nil)|(refine bK ?_;refine aI.cons (by exact dC (hq:=bW (k:=y.j) (lst:=ix) rf rf fG bU fin (by omega) (by omega))) ?_;refine aI.cons (by exact dC (hq:=cJ (q:=y.j) (lst:=ix) rf bU fin (by omega))) ?_;exact aI.nil))) (h:=λ x100=>?_);try (refine aK (λ h100=>?_)))
                              all_goals (refine bB (hfire:=(λ _=>by first|(refine aI.cons (by exact cL) ?_;exact aI.nil)|(refine bK ?_;refine aI.cons (by exact cL) ?_;exact aI.nil))) (h:=λ x105=>?_);((refine cR (h:=λ x106=>?_);try (refine aK (λ h106=>?_))));refine J7 ?_)
                              all_goals
                               refine jU (x106) (by decide) ?_ (by repeat (first|(with_reducible exact vQ.refl)|refine vQ.cons (by exact rfl) ?_)) ?_ (λ w hw=>hw.back (hF:=aW.jM λ f hf=>List.mem_cons_of_mem _ hf) (hO:=by exact List.Sublist.refl _))
                               · repeat' (first|exact bI _|refine bE ?_ ?_)
                                 all_goals (first|exact rfl|(conv=>{lhs;whnf};simp;done))
                               · omega
                            · refine lQ (i:=8) (hfire:=(λ _=>by first|(refine aI.cons (by exact cL) ?_;exact aI.nil)|(refine bK ?_;refine aI.cons (by exact cL) ?_;exact aI.nil))) (h:=λ x105=>?_)
                              all_goals (((refine cR (hfire:=(λ _=>by first|(refine aI.cons (by exact dC (hq:=bW (k:=y.j) (lst:=ix) rf rf fG bU fin (by omega) (by omega))) ?_;refine aI.cons (by exact dC (hq:=cJ (q:=y.j) (lst:=ix) rf bU fin (by omega))) ?_;exact aI.nil)|(refine bK ?_;refine aI.cons (by exact dC (hq:=bW (k:=y.j) (lst:=ix) rf rf fG bU fin (by omega) (by omega))) ?_;refine aI.cons (by exact dC (hq:=cJ (q:=y.j) (lst:=ix) rf bU fin (by omega))) ?_;exact aI.nil))) (h:=λ x100=>?_);try (refine aK (λ h100=>?_))));((refine cR (h:=λ x106=>?_);try (refine aK (λ h106=>?_))));refine J7 ?_)
                              all_goals
                               refine jU (x106) (by decide) ?_ (by repeat (first|(with_reducible exact vQ.refl)|refine vQ.cons (by exact rfl) ?_)) ?_ (λ w hw=>hw.back (hF:=aW.jM λ f hf=>List.mem_cons_of_mem _ hf) (hO:=by exact List.Sublist.refl _))
                               · repeat' (first|exact bI _|refine bE ?_ ?_)
                                 all_goals (first|exact rfl|(conv=>{lhs;whnf};simp;done))
                               · omega
                         · refine lQ (i:=8) (hfire:=(λ _=>by first|(refine aI.cons (by exact cL) ?_;exact aI.nil)|(refine bK ?_;refine aI.cons (by exact cL) ?_;exact aI.nil))) (h:=λ x105=>?_)
                           all_goals (refine Eb (hfire:=(λ _=>by first|(refine aI.cons (by exact cL) ?_;refine aI.cons (by exact dC (hq:=bW (k:=y.j) (lst:=ix) rf rf fG bU fin (by omega) (by omega))) ?_;refine aI.cons (by exact dC (hq:=cJ (q:=y.j) (lst:=ix) rf bU fin (by omega))) ?_;exact aI.nil)|(refine bK ?_;refine aI.cons (by exact cL) ?_;refine aI.cons (by exact dC (hq:=bW (k:=y.j) (lst:=ix) rf rf fG bU fin (by omega) (by omega))) ?_;refine aI.cons (by exact dC (hq:=cJ (q:=y.j) (lst:=ix) rf bU fin (by omega))) ?_;exact aI.nil))) (h:=λ x97=>?_);((refine cR (hfire:=(λ _=>by first|(refine aI.cons (by exact dC (hq:=bW (k:=y.j) (lst:=ix) rf rf fG bU fin (by omega) (by omega))) ?_;refine aI.cons (by exact dC (hq:=cJ (q:=y.j) (lst:=ix) rf bU fin (by omega))) ?_;exact aI.nil)|(refine bK ?_;refine aI.cons (by exact dC (hq:=bW (k:=y.j) (lst:=ix) rf rf fG bU fin (by omega) (by omega))) ?_;refine aI.cons (by exact dC (hq:=cJ (q:=y.j) (lst:=ix) rf bU fin (by omega))) ?_;exact aI.nil))) (h:=λ x100=>?_);try (refine aK (λ h100=>?_))));((refine cR (h:=λ x106=>?_);try (refine aK (λ h106=>?_))));refine J7 ?_)
                           all_goals
                            refine jU (x106) (by decide) ?_ (by repeat (first|(with_reducible exact vQ.refl)|refine vQ.cons (by exact rfl) ?_)) ?_ (λ w hw=>hw.back (hF:=aW.jM λ f hf=>List.mem_cons_of_mem _ hf) (hO:=by exact List.Sublist.refl _))
                            · repeat' (first|exact bI _|refine bE ?_ ?_)
                              all_goals (first|exact rfl|(conv=>{lhs;whnf};simp;done))
                            · omega
                      dsimp only[gW,List.map,List.cons_append,List.nil_append]
                     all_goals (refine aT ?_;refine eE [0,1,2,3,4,5,6,7,8,9,10,11,12,13,14,15,16,17,18,19,20,21] ?_;refine bT ?_;refine jP ?_;refine aL ?_;refine bP (i:=4) (hq:=(bW (k:=y.j) (lst:=(aD L r).xs) rf rf fG bU (.cE .head) (by omega) (by omega))) (h:=?_);refine bP (i:=5) (hq:=(oJ (cs:=aJ (aD L r).xs) (q:=y.j) (v:=.int .i64 ((q+1:Nat):Int)) rf bU (λ w hw=>hw.cl (.cE .head)) (by rw[<- hj];exact Nl hjl))) (h:=?_);refine jP ?_;refine jP ?_;refine tG ?_;refine aL ?_;refine eT ?_;refine aL ?_;((refine bA (i:=14) (hq:=(cM (hs:=[]) (os:=[cj L pv y.sn]) (hA:=dA.cons (.inr (.inl (.tail _ (.head _)))) (dA.cons (.inr (.inl (.tail _ (.tail _ (.head _))))) (dA.cons (.inr (.inr (.inr ⟨_,.head _,rfl,rfl⟩))) (dA.of λ f hf=>.inr (.inl (.tail _ (.tail _ (.tail _ (.tail _ hf))))))))) (hc:=λ w1 hs=>ih m rfl (lv+1) (by omega) q ((k+1:Nat):Int) 0 (way++[ix.getD y.j 0]) u.1 u.2 _ y.sn _ w1 hq (by simp;omega) (by simp;omega) hy.2.2.1 hs))) (h:=λ x122=>?_);try (refine aK (λ h122=>?_))));refine aL ?_;refine gH ?_;refine gH ?_;refine gH ?_;refine mT (h:=λ _=>?_);refine Oi ?_;refine jS ?_;refine kD ?_)
                     all_goals
                      refine bF (λ c127=>?_) (λ c127=>?_)
                      · try exact nv c127
                        all_goals try (first|(exact absurd (by assumption) (by decide:¬(true=false)))|(exfalso;omega))
                        all_goals
                         have hno:=Lc.za h122 (by simpa using c127)
                        all_goals (refine J0 ?_;refine eJ (λ _=>?_);refine J8 ?_)
                        all_goals
                         refine bH Tryz.results55 (λ w hw=>?_)
                         exact⟨⟨false,[],none,0,[],none,0,x122.sn,false⟩,rfl,Lc.no ((hpl c52 c61).trans (by rw[yS.fail hy.2.1 hjl (by rw[hj];exact hkd) (by rw[hj];exact hno)];rfl)) h122.1 rfl,(hw.dO (F':=[(none,pS [])]) (by intro f hf;rw[List.mem_singleton.1 hf];exact .inl rfl)).aV (hO:=.cons _ (.cons _ (.cons _ (List.Sublist.refl _))))⟩
                      · try exact nv c127
                        all_goals try (first|(exact absurd (by assumption) (by decide:¬(true=false)))|(exfalso;omega))
                        all_goals
                         obtain⟨qq,hq1,e1,e2,⟨p0,t0,e3⟩,e4,e5,e6⟩:=Lc.yes h122 (by simpa using c127)
                         have hlen1:=e5.len
                         have hlen2:x122.l.length=qq.1.length:=by rw[<- e1,List.length_map]
                         simp only[List.length_append,List.length_map,List.length_cons,List.length_nil] at hlen1
                         have hmul2:(y.tl.length+1)*(B+64)+x122.l.length*(B+64)<=549755813888:=by rw[<- Nat.add_mul];exact Nat.le_trans (Nat.mul_le_mul_right _ (by omega)) hB.2
                         obtain⟨m0,t1,e7⟩:=ai hq1
                         have e8:p0.way=way++[ix.getD y.j 0]:=by have:=e1;rw[e3,e7] at this;rw[show p0=_ from(List.cons.inj this).1]
                        all_goals (refine aZ ?_;refine Fk ?_;(refine aF (aP.eL (fT (sz:=5) (cs:=pS (⟨⟨((k+1:Nat):Int),r,a,lv,way⟩,wp,wc⟩::y.tl)) (ys:=pS x122.l) rf rf dZ (by rw[vG];rfl) (.new .head) (by rw[vG]) (yX _) E7 rfl (by decide) fG (by omega)) dV) (λ x130=>?_);try (refine aB (λ h130=>?_)));refine oI ?_;(refine aF (aP.eL (yF (l:=y.ps) (l2:=x122.ps) rf rf dZ rfl (Cp.fin e4 (λ f hf=>List.mem_append_left _ hf) (λ f hf=>.tail _ (.tail _ (.tail _ (.tail _ hf))))) rfl ib fG (by omega)) dV) (λ x133=>?_);try (refine aB (λ h133=>?_)));refine J8 ?_;refine eV ?_;refine uH ?_)
                        all_goals
                         refine jU ((by first|exact⟨y.j+1,y.tl++x122.l,x130.1,x130.2,y.ps++x122.ps,x133.1,x133.2,x122.sn⟩|exact⟨y.j+1,y.tl,y.lp,y.lc,y.ps++[((aD L ((aD L r).xs.getD y.j 0)).nd.key,(aD L ((aD L r).xs.getD y.j 0)).nd.val)],x93.1,x93.2,y.sn⟩)) ?_ ?_ (by repeat (first|(with_reducible exact vQ.refl)|refine vQ.cons (by exact rfl) ?_)) ?_ (λ w hw=>by first|exact hw.back (hF:=aW.jM λ f hf=>List.mem_cons_of_mem _ hf)|exact Ys hw e3 e8)
                         · first|omega|(simp only[];omega)
                         · repeat' (first|exact bI _|refine bE ?_ ?_)
                           all_goals (first|exact rfl|(conv=>{lhs;whnf};simp;done)|(conv=>{lhs;whnf};simp only[List.length_append];congr 1;omega))
                         · first|exact⟨by show y.j+1<=_;omega,by have:=yS.single hy.2.1 hjl (by rw[bD];exact c85);rw[bD] at this;exact this,hy.2.2.1,by show(y.ps++[_]).length+(64-(y.j+1))<=(y.tl.length+1)*(B+64);rw[List.length_append,List.length_singleton];omega⟩|exact bn hy.2.1 hjl hj hkd hq1 e1 e2 e5 e6 hbnd
             · try exact nv c73
               all_goals try (first|(exact absurd (by assumption) (by decide:¬(true=false)))|(exfalso;omega))
               all_goals (refine bQ rfl ?_;refine jE ?_;refine eJ (λ _=>?_);refine J8 ?_)
               all_goals
                refine bH Tryz.results55 (λ w hw=>?_)
                refine⟨⟨true,⟨⟨((k+1:Nat):Int),r,a,lv,way⟩,wp,wc⟩::y.tl,y.lp,y.lc,y.ps,y.pp,y.pc,y.sn,true⟩,rfl,sb hy.2.2.1 ((hpl c52 c61).trans (by rw[yS.done hy.2.1 (by omega)];rfl)) hy.2.2.2,?_⟩
                exact(SF.dO ((hw.freeze .head).freeze .head) (w3 y.tl)).aV (hF:=aW.all)
theorem E5(h0:Fits L)(hb:V9 L cs)(hl:L.length<=274877906944)(hc:cs.length<=274877906944)(hbm:∀r,∃b:Nat,b<18446744073709551616/\(aD L r).nd.bm=(b:Int)/\((aD L r).nd.kind=3->(aD L r).xs.length=hJ b 64))(B pv:Nat)(hB:zg L B):∀n,oz L cs gen pn cn pc cc B pv n
 | 0=>Ip h0 hb hl hc hbm B pv hB 0 λ m e=>nomatch e
 | n+1=>Ip h0 hb hl hc hbm B pv hB (n+1) λ m e=>by cases e;exact E5 h0 hb hl hc hbm B pv hB n
end
end Go.Proofs.YtpobgmdalcpomaaGreat

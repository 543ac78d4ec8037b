/- Merged. -/
import Derived.Test.YtdnklbipddigbaaGreatGKw5
set_option linter.unusedSimpArgs false
set_option linter.unusedVariables false
namespace Go.Ct
open Go Go.RowKit
structure PlX where
 ok:Bool
 l:List PlV
 lp:Option Addr
 lc:Nat
 ps:List Pr
 pp:Option Addr
 pc:Nat
 sn:List Bool
 own:Bool
structure PlY where
 j:Nat
 tl:List PlV
 lp:Option Addr
 lc:Nat
 ps:List Pr
 pp:Option Addr
 pc:Nat
 sn:List Bool
def PlX.pf(x:PlX):Fr:=if x.own=true then [(x.pp,prC x.ps)] else []
def PlX.fr(x:PlX):Fr:=(x.lp,plsC x.l)::(famW x.l.tail++x.pf)
def Vs(n:Nat)(vs:List Bool)(s:List Int):Prop:=Vis (n+1) vs (s.map (· + 1))
theorem Vs.zero(n:Nat):Vs n (List.replicate (n+1) false) []:=Vis.zero _
theorem mem_succ{s:List Int}{k:Int}:k+1∈s.map (· + 1)↔k∈s:=by rw[List.mem_map];exact⟨λ⟨a,h,e⟩=>by rw[show k=a by omega];exact h,λ h=>⟨k,h,rfl⟩⟩
theorem Vs.mem{n k:Nat}{vs:List Bool}{s:List Int}(h:Vs n vs s)(hk:k<=n):vs.getD k false=true↔(k:Int)∈s:=by rw[h.2.1 k (by omega)];rw[show((k+1:Nat):Int)=(k:Int)+1 by omega];exact mem_succ
theorem Vs.set{n k:Nat}{vs:List Bool}{s:List Int}(h:Vs n vs s)(hk:k<=n)(hf:vs.getD k false=false):Vs n (vs.set k true) (s++[(k:Int)]):=by have:=Vis.set h (k:=k) (by omega) hf;unfold Vs;rw[List.map_append];exact this
theorem Vs.len{n:Nat}{vs:List Bool}{s:List Int}(h:Vs n vs s):s.length<=n+1:=by have:=Vis.len h;rw[List.length_map] at this;exact this
def PlR(L:List NdV)(B:Nat)(wp:Option Addr)(wc:Nat)(s:List Int)(o:Option (List Pl×List Pr))(x:PlX):Prop:=x.sn.length=L.length+1/\match o with
 | none=>x.ok=false
 | some q=>x.ok=true/\x.l.map PlV.p=q.1/\x.ps=q.2/\(∃p tl,x.l=⟨p,wp,wc⟩::tl)/\(x.own=false->(x.pp,prC x.ps)∈famF L)/\Vs L.length x.sn (s++q.1.map Pl.i)/\x.ps.length<=x.l.length*(B+64)
theorem PlR.one{L:List NdV}{B:Nat}{wp lp pp:Option Addr}{wc lc pc:Nat}{s way:List Int}{i r a:Int}{lv:Nat}{sn:List Bool}{ps:List Pr}{own:Bool}{o:Option (List Pl×List Pr)}(h1:sn.length=L.length+1)(he:o=some ([⟨i,r,a,lv,way⟩],ps))(hf:own=false->(pp,prC ps)∈famF L)(hv:Vs L.length sn (s++[i]))(hb:ps.length<=B+64) :
  PlR L B wp wc s o ⟨true,[⟨⟨i,r,a,lv,way⟩,wp,wc⟩],lp,lc,ps,pp,pc,sn,own⟩:=⟨h1,by rw[he];exact⟨rfl,rfl,rfl,⟨_,_,rfl⟩,hf,hv,by simpa using hb⟩⟩
theorem PlR.yes{L:List NdV}{B:Nat}{wp:Option Addr}{wc:Nat}{s:List Int}{o:Option (List Pl×List Pr)}{x:PlX}(h:PlR L B wp wc s o x)(hk:x.ok=true):∃q,o=some q/\x.l.map PlV.p=q.1/\x.ps=q.2/\(∃p tl,x.l=⟨p,wp,wc⟩::tl)/\(x.own=false->(x.pp,prC x.ps)∈famF L)/\Vs L.length x.sn (s++q.1.map Pl.i)/\x.ps.length<=x.l.length*(B+64):=by
 cases o with
 | none=>have:=h.2;rw[hk] at this;cases this
 | some q=>exact⟨q,rfl,h.2.2⟩
theorem PlR.nope{L:List NdV}{B:Nat}{wp:Option Addr}{wc:Nat}{s:List Int}{o:Option (List Pl×List Pr)}{x:PlX}(h:PlR L B wp wc s o x)(hk:x.ok=false):o=none:=by
 cases o with
 | none=>rfl
 | some q=>have:=h.2.1;rw[hk] at this;cases this
theorem PlR.no{L:List NdV}{B:Nat}{wp:Option Addr}{wc:Nat}{s:List Int}{o:Option (List Pl×List Pr)}{x:PlX}(e:o=none)(h1:x.sn.length=L.length+1)(h2:x.ok=false):PlR L B wp wc s o x:=⟨h1,by rw[e];exact h2⟩
theorem PlX.fin{L:List NdV}{A F:Fr}{O:List Ow}{x:PlX}(h:x.own=false->(x.pp,prC x.ps)∈famF L)(hF:∀f∈x.fr,f∈F)(hA:∀f∈famF L,f∈A):FIn A F O x.pp (prC x.ps):=by
 cases ho:x.own with
 | true=>exact .new (FAt.of_mem (hF _ (List.mem_cons_of_mem _ (List.mem_append_right _ (by unfold PlX.pf;rw[if_pos ho];exact List.mem_cons_self ..)))))
 | false=>exact .old (FAt.of_mem (hA _ (h ho)))
theorem plc_head{N:List Nv}{cs:List Int}{n lv:Nat}{a i:Int}{way s:List Int}{q:List Pl×List Pr}(h:plc N cs n a lv i way s=some q):∃m t,q.1=⟨i,m,a,lv,way⟩::t:=by
 cases n with
 | zero=>cases h
 | succ n=>
  unfold plc at h;split at h;·cases h
  obtain⟨m,_,h⟩:=Option.bind_eq_some_iff.1 h;split at h;·cases h;exact⟨m,[],rfl⟩
  ·obtain⟨t,_,h⟩:=Option.map_eq_some_iff.1 h;subst h;exact⟨m,t.1,rfl⟩
def Few(L:List NdV)(B:Nat):Prop:=(∀r,(nodeV L r).ys.length<=B/\(nodeV L r).xs.length<=64)/\(L.length+1)*(B+64)<=549755813888
end Go.Ct
namespace Go.Proofs.YtdnklbipddigbaaGreat
open Go Go.RowKit Go.Ct
section
variable{L:List NdV}{cs:List Int}{gen:Int}{pn pc:Option Addr}{cn cc:Nat}{w:World}
theorem elem_place:ElemIs Tryz.prog 95 30 [.int .i64 0,.int .i64 0,.int .i64 0,.int .i64 0,.slice none 0 0]:=elem_mk (z:=.agg ⟨[.int .i64 0,.int .i64 0,.int .i64 0,.int .i64 0,.slice none 0 0]⟩) (by kernel_rfl) (by kernel_rfl) rfl
abbrev snW(L:List NdV)(pv:Nat)(sn:List Bool):Ow:=⟨some ⟨pv,0,none⟩,boolsC sn,L.length+1,4,1⟩
def PlcC(L:List NdV)(cs:List Int)(gen:Int)(pn:Option Addr)(cn:Nat)(pc:Option Addr)(cc:Nat)(B pv:Nat)(n:Nat):Prop:=∀(lv:Nat),lv+n=12->∀(k:Nat) (a mm:Int) (way:List Int) (wp:Option Addr) (wc:Nat) (s:List Int) (sn:List Bool) (D:List Nat) (w:World),k<L.length->way.length=lv->way.length<=wc->Vs L.length sn s->SF w D [] ((pn,nvC L)::(pc,refsC cs)::(wp,refsC way)::famF L) [] [snW L pv sn] w ->
  Calls Tryz.prog 92 #[stG L cs gen pn cn pc cc,.agg ⟨[.int .i64 ((k+1:Nat):Int),.int .i64 mm,.int .i64 a,.int .i64 ((lv:Nat):Int),.slice wp way.length wc]⟩,.slice (some ⟨pv,0,none⟩) (L.length+1) (L.length+1)] w λ e w'=>∃x:PlX,e=.returned (.tuple #[.slice x.lp x.l.length x.lc,.slice x.pp x.ps.length x.pc,.bool x.ok])/\PlR L B wp wc s (plc (L.map NdV.c) cs n a lv ((k+1:Nat):Int) way s) x/\SF w D [] [] x.fr [snW L pv x.sn] w'
theorem placesN_c(h0:Fits L)(hb:StB L cs)(hl:L.length<=274877906944)(hc:cs.length<=274877906944)(B pv:Nat)(n lv:Nat)(hn:lv+n=12)(k:Nat)(a mm:Int)(way:List Int)(wp:Option Addr)(wc:Nat)(s:List Int)(sn:List Bool)(D:List Nat)(w:World)(hk:k<L.length)(hv:Vs L.length sn s)
  (hno:(bodyO (L.map NdV.c) cs ((k+1:Nat):Int)).isSome=false∨n=0∨((k+1:Nat):Int)∈s) (hs:SF w D [] ((pn,nvC L)::(pc,refsC cs)::(wp,refsC way)::famF L) [] [snW L pv sn] w) :
  Calls Tryz.prog 92 #[stG L cs gen pn cn pc cc,.agg ⟨[.int .i64 ((k+1:Nat):Int),.int .i64 mm,.int .i64 a,.int .i64 ((lv:Nat):Int),.slice wp way.length wc]⟩,.slice (some ⟨pv,0,none⟩) (L.length+1) (L.length+1)] w λ e w'=>∃x:PlX,e=.returned (.tuple #[.slice x.lp x.l.length x.lc,.slice x.pp x.ps.length x.pc,.bool x.ok])/\PlR L B wp wc s (plc (L.map NdV.c) cs n a lv ((k+1:Nat):Int) way s) x/\SF w D [] [] x.fr [snW L pv x.sn] w':=by
 have hvl:sn.length=L.length+1:=hv.1;have hno2:(bodyO (L.map NdV.c) cs ((k+1:Nat):Int)).isSome=false∨n=0∨sn.getD (k+1) false=true:=by
  rcases hno with h|h|h;·exact .inl h
  ·exact .inr (.inl h)
  ·exact .inr (.inr ((hv.mem (k:=k+1) (by omega)).2 h))
 have hplc:plc (L.map NdV.c) cs n a lv ((k+1:Nat):Int) way s=none:=by
  rcases hno with h|h|h;·exact plc_none h
  ·subst h;exact rfl
  ·exact plc_seen h
 rw[hplc];refine enter Tryz.func92 Tryz.ntmps92 rfl rfl hs ?_;simp only[mkS];simp only[stG];refine J0 ?_;refine j_box (λ x3=>?_);refine j_box (λ x4=>?_);refine j_assignL (λ _=>?_);refine J8 ?_;refine J25 ?_;refine J3 ?_;refine j_own (cV (hc:=λ w1 hw=>rBody_c (hw.stAt (.inr (.inl (.head _))) (.inr (.inl (.tail _ (.head _)))) (λ f hf=>.inr (.inl (.tail _ (.tail _ (.tail _ hf))))) h0) hb hl hc ((k+1:Nat):Int) (by omega))) (λ x22=>?_);refine Kb9 ?_;refine J59 ?_;(refine lcs 27 (λ g27=>?_) (λ g27=>?_)<;>refine Ka1 ?_);all_goals (refine Ka2 ?_;refine Ke7 ?_)
 all_goals (first|refine j_un ?_|(refine lcs 32 (λ g32=>?_) (λ g32=>?_)<;>refine Ka0 ?_))
 all_goals (refine J6 ?_;(first|refine j_un ?_|(refine j_yes ?_;refine l_quiet (o_indexB (k:=k+1) rf rf sl1 on1 fin (by omega) (by omega)) rfl ?_));(first|refine j_un ?_|(refine j_yes ?_;refine l_quiet (o_loadB (q:=k+1) rf on1 fin (by omega)) rfl ?_));refine Ke8 ?_)
 all_goals
 refine kif (λ c38=>?_) (λ c38=>?_)
 ·all_goals try (first|(exact abt)|(exfalso;omega))
  all_goals (refine J0 ?_;refine j_assignL (λ _=>?_);refine J8 ?_)
  all_goals refine k_rt Tryz.results92 (λ w hw=>?_);exact⟨⟨false,[],none,0,[],none,0,sn,false⟩,rfl,⟨hvl,rfl⟩,(hw.subF (F':=[(none,plsC [])]) (by intro f hf;rw[List.mem_singleton.1 hf];exact .inl rfl)).finH⟩
 ·try exact nv c38
  all_goals (exfalso;(rcases hno2 with h|h|h);(rw[h] at g27;cases g27);(exfalso;omega);(rw[h] at c38;cases c38))
theorem plstep{L:List NdV}{B:Nat}{f:Int->List Int->List Int->Option (List Pl×List Pr)}{way ix xs s:List Int}{y:PlY}{x:PlX}{q:Nat}{qq:List Pl×List Pr}{p1 p2:Option Addr}{c1 c2:Nat}(h1:PlB (L.map NdV.c) f way ix xs s y.j (y.tl.map PlV.p) y.ps)(hjl:y.j<xs.length)(hj:xs.getD y.j 0=((q+1:Nat):Int))(hkd:(ndAt (L.map NdV.c) ((q+1:Nat):Int)).kind=2)
  (hq1:f ((q+1:Nat):Int) (way++[ix.getD y.j 0]) (s++(y.tl.map PlV.p).map Pl.i)=some qq) (e1:x.l.map PlV.p=qq.1) (e2:x.ps=qq.2) (e5:Vs L.length x.sn ((s++(y.tl.map PlV.p).map Pl.i)++qq.1.map Pl.i)) (e6:x.ps.length<=x.l.length*(B+64)) (hb:y.ps.length+(64-y.j)<=(y.tl.length+1)*(B+64)) :
  (⟨y.j+1,y.tl++x.l,p1,c1,y.ps++x.ps,p2,c2,x.sn⟩:PlY).j<=xs.length/\PlB (L.map NdV.c) f way ix xs s (y.j+1) ((y.tl++x.l).map PlV.p) (y.ps++x.ps)/\Vs L.length x.sn (s++((y.tl++x.l).map PlV.p).map Pl.i)/\(y.ps++x.ps).length+(64-(y.j+1))<=((y.tl++x.l).length+1)*(B+64):=by
 refine⟨hjl,?_,?_,?_⟩;·have:=PlB.inner h1 hjl (by rw[hj];exact hkd) (by rw[hj];exact hq1);rw[List.map_append,e1,e2];exact this
 ·rw[List.map_append,List.map_append,e1,<- List.append_assoc];exact e5
 ·rw[List.length_append,List.length_append,show y.tl.length+x.l.length+1=(y.tl.length+1)+x.l.length by omega,Nat.add_mul];omega
theorem famW_append(a b:List PlV):famW (a++b)=famW a++famW b:=by simp[famW]
theorem plkeep{w0 w:World}{M:List Nat}{H:List (Nat×Obj)}{A:Fr}{T T2 T3:TypeId}{pp lp wp:Option Addr}{kp kl wc:Nat}{psC:List Value}{ix wy:List Int}{ip:Option Addr}{x:PlX}{hd:PlV}{tl t0:List PlV}{p0:Pl}{sw:Ow}{b:Nat×Obj}
  (hw:SF w0 M (b::H) A (x.fr++(ip,refsC ix)::famW tl) [⟨wp,refsC wy,wc,T,1⟩,⟨pp,psC,kp,T2,2⟩,⟨lp,plsC (hd::tl)++plsC x.l,kl,T3,5⟩,sw] w) (e3:x.l=⟨p0,wp,wc⟩::t0) (e8:p0.way=wy) :
  SF w0 M H A ((ip,refsC ix)::famW (tl++x.l)) [⟨pp,psC,kp,T2,2⟩,⟨lp,plsC (hd::(tl++x.l)),kl,T3,5⟩,sw] w:=by
 rw[<- List.cons_append,plsC_append];refine SF.back (SF.subF (F':=(ip,refsC ix)::famW (tl++x.l)) (hw.freeze .head) λ f hf=>?_) (hH:=List.sublist_cons_self ..) (hF:=FSub.all);rw[famW_append] at hf;rcases List.mem_cons.1 hf with rfl|hf;·exact .inr (.tail _ (List.mem_append_right _ (.head _)))
 rcases List.mem_append.1 hf with hf|hf;·exact .inr (.tail _ (List.mem_append_right _ (.tail _ hf)))
 ·rw[e3] at hf;rcases List.mem_cons.1 hf with rfl|hf;·show refsC p0.way=[]∨(wp,refsC p0.way)∈_;rw[e8];exact .inr (.head _)
  ·refine .inr (.tail _ (List.mem_append_left _ (.tail _ (List.mem_append_left _ ?_))));rw[e3];exact hf
theorem pldone{L:List NdV}{B:Nat}{wp lp pp:Option Addr}{wc lc pc:Nat}{s way:List Int}{i r a:Int}{lv:Nat}{o:Option (List Pl×List Pr)}{y:PlY}(h:Vs L.length y.sn ((s++[i])++(y.tl.map PlV.p).map Pl.i))(ho:o=some (⟨i,r,a,lv,way⟩::y.tl.map PlV.p,y.ps))(hb:y.ps.length+(64-y.j)<=(y.tl.length+1)*(B+64)) :
  PlR L B wp wc s o ⟨true,⟨⟨i,r,a,lv,way⟩,wp,wc⟩::y.tl,lp,lc,y.ps,pp,pc,y.sn,true⟩:=by
 refine⟨h.1,?_⟩;rw[ho];refine⟨rfl,rfl,rfl,⟨_,_,rfl⟩,(λ e=>nomatch e),?_,?_⟩;·rw[List.append_assoc] at h;exact h
 ·show y.ps.length<=(y.tl.length+1)*(B+64);omega
theorem plfin{ip lp pp wp:Option Addr}{wc lc pc:Nat}{ix:List Value}{p:Pl}{ps:List Pr}{sn:List Bool}(tl:List PlV):∀f∈(⟨true,⟨p,wp,wc⟩::tl,lp,lc,ps,pp,pc,sn,true⟩:PlX).fr,f.2=[]∨f∈(lp,plsC (⟨p,wp,wc⟩::tl))::(pp,prC ps)::(ip,ix)::famW tl:=by
 intro f hf;rcases List.mem_cons.1 hf with rfl|hf;·exact .inr (.head _)
 rcases List.mem_append.1 hf with hf|hf;·exact .inr (.tail _ (.tail _ (.tail _ hf)))
 ·rw[show(⟨true,⟨p,wp,wc⟩::tl,lp,lc,ps,pp,pc,sn,true⟩:PlX).pf=[(pp,prC ps)] from rfl] at hf;rw[List.mem_singleton.1 hf];exact .inr (.tail _ (.head _))
set_option maxRecDepth 100000 in
set_option maxHeartbeats 2000000 in
theorem places1_c(h0:Fits L)(hb:StB L cs)(hl:L.length<=274877906944)(hc:cs.length<=274877906944)(hbm:∀r,∃b:Nat,b<18446744073709551616/\(nodeV L r).nd.bm=(b:Int)/\((nodeV L r).nd.kind=3->(nodeV L r).xs.length=cnt b 64))(B pv:Nat)(hB:Few L B)(n:Nat)(ih:∀m,n=m+1->PlcC L cs gen pn cn pc cc B pv m):PlcC L cs gen pn cn pc cc B pv n:=by
 intro lv hn k a mm way wp wc s sn D w hk hwl hwc hv hs;have hvl:sn.length=L.length+1:=hv.1;have hvn:=hv.len;by_cases hno:(bodyO (L.map NdV.c) cs ((k+1:Nat):Int)).isSome=false∨n=0∨((k+1:Nat):Int)∈s;·exact placesN_c h0 hb hl hc B pv n lv hn k a mm way wp wc s sn D w hk hv hno hs
 simp only[not_or] at hno;obtain⟨hb1,hn0,hnot⟩:=hno;obtain⟨r,hr⟩:=Option.isSome_iff_exists.1 (show(bodyO (L.map NdV.c) cs ((k+1:Nat):Int)).isSome=true by cases h:(bodyO (L.map NdV.c) cs ((k+1:Nat):Int)).isSome<;>simp_all);obtain⟨m,rfl⟩:∃m,n=m+1:=⟨n-1,by omega⟩;have hnf:sn.getD (k+1) false=false:=by
  cases h:sn.getD (k+1) false with
  | false=>rfl
  | true=>exact absurd ((hv.mem (k:=k+1) (by omega)).1 h) hnot
 have hv2:=hv.set (k:=k+1) (by omega) hnf;have hfr:=fit_nodeV h0 r;have hri:=mainK_in' (body_kind hr).2;rw[List.length_map] at hri;have hrr:r<=9223372036854775807:=by omega
 have hbn:=hfr.brN;have hbs:=hfr.brS;have hpn:=hfr.prN;have hfm:=famV_br hri;have hfp:=famV_pr hri;have hbr:=hb.br r;have hB1:=(hB.1 r).1;have hB2:=(hB.1 r).2;obtain⟨bt,hbt,hbe,hbl⟩:=hbm r;obtain⟨ix,hix⟩:∃ix,ix=idxF bt 64:=⟨_,rfl⟩;have hpl:¬(nodeV L r).nd.kind=5->¬(nodeV L r).nd.kind=6->plc (L.map NdV.c) cs (m+1) a lv ((k+1:Nat):Int) way s=(plB (L.map NdV.c) (λ b w s=>plc (L.map NdV.c) cs m ((k+1:Nat):Int) (lv+1) b w s) way ix (nodeV L r).xs 0 (s++[((k+1:Nat):Int)])).map λ q=>(⟨((k+1:Nat):Int),r,a,lv,way⟩::q.1,q.2):=by intro h5 h6;rw[plc_c hnot hr (by rw[nodeV_c'];exact λ h=>h.elim h5 h6),nodeV_xs];rw[nodeV_c',show(nodeV L r).c.bm=(bt:Int) from hbe,Int.toNat_natCast,<- hix]
 have hv3:=hv2.len;refine enter Tryz.func92 Tryz.ntmps92 rfl rfl (hs.addOld (a':=(nodeV L r).nd.brA) (cs':=refsC (nodeV L r).xs) (.old (.tail (.tail (.tail (FAt.of_mem hfm))))) (λ _=>rfl) (λ h=>h) (λ w h=>h)) ?_;simp only[mkS];simp only[stG];refine J0 ?_;refine j_box (λ x3=>?_);refine j_box (λ x4=>?_);refine j_assignL (λ _=>?_);refine J8 ?_;refine J25 ?_;refine J3 ?_;refine j_own (cV (hc:=λ w1 hw=>by have:=rBody_c (gen:=gen) (cn:=cn) (cc:=cc) (hw.stAt (.inr (.inl (.tail _ (.head _)))) (.inr (.inl (.tail _ (.tail _ (.head _))))) (λ f hf=>.inr (.inl (.tail _ (.tail _ (.tail _ (.tail _ hf)))))) h0) hb hl hc ((k+1:Nat):Int) (by omega);rw[hr] at this;exact this)) (λ x22=>?_);refine Kb9 ?_;refine J59 ?_;(refine Kc9 ?_);((refine j_yes ?_;refine j_load ?_));refine Ke7 ?_;(refine lcs 32 (λ g32=>?_) (λ g32=>?_)<;>(try ((exfalso;omega)))<;>((refine Ka3 ?_)));refine J6 ?_;((refine j_yes ?_;refine l_quiet (o_indexB (k:=k+1) rf rf sl1 on1 fin (by omega) (by omega)) rfl ?_));((refine j_yes ?_;refine l_quiet (o_loadB (q:=k+1) rf on1 fin (by omega)) rfl ?_));refine Ke8 ?_;refine kif (λ c38=>?_) (λ c38=>?_)
 ·try (first|(exact abt)|(exfalso;omega))
  (exfalso;simp_all)
 ·try (first|(exact abt)|(exfalso;omega))
  refine Ka8 ?_;refine J3 ?_;refine l_quiet (o_indexB (k:=k+1) rf rf sl1 on1 fin (by omega) (by omega)) rfl ?_;refine J5 ?_;refine J2 ?_;refine J23 ?_;refine J25 ?_;refine j_own (o_buildO (sz:=5) (cs:=plsC [⟨⟨((k+1:Nat):Int),r,a,lv,way⟩,wp,wc⟩]) elem_place pa1 rf rf rf rf rf rf) (λ x46=>?_);refine J1 ?_;refine J71 ?_;refine j_own (cV (hc:=λ w1 hw=>rAt_c (hw.stAt (.inr (.inl (.tail _ (.head _)))) (.inr (.inl (.tail _ (.tail _ (.head _))))) (λ f hf=>.inr (.inl (.tail _ (.tail _ (.tail _ (.tail _ hf)))))) h0) r (by omega) hl)) (λ x49=>?_);refine j_alloc (λ x10=>?_);refine J5 ?_;refine J72 ?_;refine Kd2 ?_;refine J39 ?_;refine kif (λ c52=>?_) (λ c52=>?_)
  ·try (first|(exact abt)|(exfalso;omega))
   refine k_seq ?_;refine k_joinF [6,7,8,54,55,56,57,58,59,60] (λ z:Nat=>[(6,.slice (some ⟨x46,0,none⟩) 1 1),(60,.slice (some ⟨z,0,none⟩) 1 1),(7,.slice (some ⟨z,0,none⟩) 1 1),(8,.bool true)]) (λ z=>True) (λ _=>[]) (λ z=>[(some ⟨z,0,none⟩,prC [((nodeV L r).nd.key,(nodeV L r).nd.val)])]) (λ _=>[]) (by decide) (λ _=>by exact rfl) (λ _=>by simp only[List.nil_append,List.cons_append];exact rfl) (λ _=>by simp only[List.nil_append,List.cons_append];exact rfl) (λ _=>by simp only[List.nil_append,List.cons_append];exact rfl) ?_ (λ z f hx=>?_)
   ·refine k_drawF (.one 0 [] (.one 1 [] (.one 2 [] (.one 3 [] (.one 4 [] (.one 5 [] (.two 6 [] (.one 7 [2,4] (.one 8 [] (.one 9 [] .nil))) 0 [] (.two 7 [2,4] (.one 6 [] (.one 8 [] (.one 9 [] .nil))) 0 [] .nil)))))))) ?_;refine r_move ?_;refine J15 ?_;refine J15 ?_;refine r_build ?_;refine r_many (E:=[6,7]) (by decide +kernel) ((.cons ?_ (.cons ?_ .nil)));·refine s_buildSlice (i:=6) (h:=λ x60=>?_);refine r_assignL (h:=λ _=>?_);refine J55 ?_;refine k_rj (x60) ?_;·trivial
    ·refine s_assignL (i:=7) (h:=λ _=>?_);refine r_buildSlice (h:=λ x60=>?_);refine J55 ?_;refine k_rj (x60) ?_;·trivial
   dsimp only[mkU,List.map,List.cons_append,List.nil_append];refine k_rt Tryz.results92 (λ w hw=>?_);have hk5:(ndAt (L.map NdV.c) r).kind=5:=by rw[nodeV_c'];exact c52
   have ho:ownP (nodeV L r).c=[((nodeV L r).nd.key,(nodeV L r).nd.val)]:=if_pos c52;refine⟨⟨true,[⟨⟨((k+1:Nat):Int),r,a,lv,way⟩,wp,wc⟩],some ⟨x46,0,none⟩,1,[((nodeV L r).nd.key,(nodeV L r).nd.val)],some ⟨z,0,none⟩,1,sn.set (k+1) true,true⟩,rfl,PlR.one (by rw[List.length_set];exact hvl) ((plc_own hnot hr (.inl hk5)).trans (by rw[nodeV_c',ho])) (λ e=>nomatch e) hv2 (by simp only[List.length_cons,List.length_nil];omega),?_⟩;exact(show SF _ D [] [] [(some ⟨x46,0,none⟩,plsC [⟨⟨((k+1:Nat):Int),r,a,lv,way⟩,wp,wc⟩]),(some ⟨z,0,none⟩,prC [((nodeV L r).nd.key,(nodeV L r).nd.val)])] [snW L pv (sn.set (k+1) true)] _ from(hw.freeze .head).finH)
  ·try (first|(exact abt)|(exfalso;omega))
   refine J39 ?_;refine kif (λ c61=>?_) (λ c61=>?_)
   ·try (first|(exact abt)|(exfalso;omega))
    refine k_seq ?_;refine k_dp [(0,[]),(1,[]),(2,[]),(3,[2]),(4,[]),(5,[])] ?_;refine r_move ?_;refine J15 ?_;refine r_assignL (h:=λ _=>?_);refine J55 ?_;refine k_rt Tryz.results92 (λ w hw=>?_);have hk6:(ndAt (L.map NdV.c) r).kind=6:=by rw[nodeV_c'];exact c61
    have ho:ownP (nodeV L r).c=(nodeV L r).ys:=(if_neg (show ¬(nodeV L r).nd.kind=5 from c52)).trans (if_pos c61);refine⟨⟨true,[⟨⟨((k+1:Nat):Int),r,a,lv,way⟩,wp,wc⟩],some ⟨x46,0,none⟩,1,(nodeV L r).ys,(nodeV L r).nd.prA,(nodeV L r).nd.prC,sn.set (k+1) true,false⟩,by rw[hpn];exact rfl,PlR.one (by rw[List.length_set];exact hvl) ((plc_own hnot hr (.inr hk6)).trans (by rw[nodeV_c',ho])) (λ _=>hfp) hv2 (by omega),?_⟩;exact(show SF _ D [] [] [(some ⟨x46,0,none⟩,plsC [⟨⟨((k+1:Nat):Int),r,a,lv,way⟩,wp,wc⟩])] [snW L pv (sn.set (k+1) true)] _ from(hw.freeze .head).finH)
   ·try (first|(exact abt)|(exfalso;omega))
    refine J34 ?_;refine J24 ?_;refine j_ownF (cF (hc:=λ w1 hw=>refIndicesE_c hix hbt hbe w1)) (λ x68 h68=>?_);refine J27 ?_;refine J69 ?_;refine k_lp [6,7,8,12,13,14,15,16,17,69,70,71,72,73,74,75,76,77,78,79,80,81,82,83,84,85,86,87,88,89,90,91,92,93,94,95,96,97,98,99,100,101,102,103,104,105,106,107,108,109,110,111,112,113,114,115,116,117,118,119,120,121,122,123,124,125,126,127,128,129,130,131,132,133] (λ y:PlY=>[(6,.slice y.lp (y.tl.length+1) y.lc),(7,.slice y.pp y.ps.length y.pc),(12,.int .i64 ((y.j:Nat):Int))]) (λ y=>y.j<=(nodeV L r).xs.length/\PlB (L.map NdV.c) (λ b w s=>plc (L.map NdV.c) cs m ((k+1:Nat):Int) (lv+1) b w s) way ix (nodeV L r).xs (s++[((k+1:Nat):Int)]) y.j (y.tl.map PlV.p) y.ps/\Vs L.length y.sn ((s++[((k+1:Nat):Int)])++(y.tl.map PlV.p).map Pl.i)/\y.ps.length+(64-y.j)<=(y.tl.length+1)*(B+64)) (λ y=>[(x10,.cells ⟨(nodeV L r).nd.cells⟩ 45 (0,0)),(x4,.cells ⟨[.int .i64 ((k+1:Nat):Int),.int .i64 r,.int .i64 a,.int .i64 ((lv:Nat):Int),.slice wp way.length wc]⟩ 30 (0,0)),(x3,.cells ⟨[.slice pn L.length cn,.slice pc cs.length cc,.int .i64 gen]⟩ 52 (0,0))]) (λ y=>(x68.1,refsC ix)::famW y.tl) (λ y=>[⟨y.pp,prC y.ps,y.pc,106,2⟩,⟨y.lp,plsC (⟨⟨((k+1:Nat):Int),r,a,lv,way⟩,wp,wc⟩::y.tl),y.lc,30,5⟩,snW L pv y.sn]) (λ y=>(nodeV L r).xs.length-y.j) (⟨0,[],some ⟨x46,0,none⟩,1,[],none,0,sn.set (k+1) true⟩) (⟨Nat.zero_le _,PlB.zero,by simpa using hv2,by simp⟩) (λ y f hx=>?_) (hw0:=λ w hw=>(hw.nilOwn 106 2).back);dsimp only[mkU,List.map,List.cons_append,List.nil_append];have hy:=hx;refine J32 ?_;refine J85 ?_;refine J47 ?_;refine kif (λ c73=>?_) (λ c73=>?_)
    ·try (first|(exact abt)|(exfalso;omega))
     have hbk:(nodeV L r).xs.getD y.j 0<=9223372036854775807:=hbr _ (by rw[gdg,List.getElem?_eq_getElem (by omega)];exact List.getElem_mem _);have hk3:(nodeV L r).nd.kind=3:=by
      have:=(body_kind hr).2;rw[nodeV_c'] at this;rcases this with h|h|h;·exact h
      ·exact absurd h c52
      ·exact absurd h c61
     have hil:ix.length=(nodeV L r).xs.length:=by rw[hix,idxF_len,hbl hk3]
     have hjl:y.j<(nodeV L r).xs.length:=by omega
     have hlen0:=hy.2.2.1.len;simp only[List.length_append,List.length_map,List.length_cons,List.length_nil] at hlen0;have hmul:(y.tl.length+1)*(B+64)<=549755813888:=Nat.le_trans (Nat.mul_le_mul_right _ (by omega)) hB.2;have hbnd:=hy.2.2.2;refine J37 ?_;refine k_seq ?_;refine k_joinF [13,76,77,78,79,80,81,82] (λ z:Nat=>[(82,(nodeV L ((nodeV L r).xs.getD y.j 0)).nd.v),(13,.pointer (some ⟨z,0,none⟩))]) (λ z=>True) (λ z=>[(z,.cells ⟨(nodeV L ((nodeV L r).xs.getD y.j 0)).nd.cells⟩ 45 (0,0))]) (λ _=>[]) (λ _=>[]) (by decide) (λ _=>by exact rfl) (λ _=>by simp only[List.nil_append,List.cons_append];exact rfl) (λ _=>by simp only[List.nil_append,List.cons_append];exact rfl) (λ _=>by simp only[List.nil_append,List.cons_append];exact rfl) ?_ (λ z f hx=>?_)
     ·refine k_drawF (.one 0 [] (.one 1 [] (.one 2 [] (.one 3 [] (.one 4 [] (.one 5 [] (.two 6 [] (.one 7 [0,2,4,5] (.one 8 [] .nil)) 0 [] (.two 7 [0,2,4,5] (.one 6 [] (.one 8 [] .nil)) 0 [] .nil)))))))) ?_;refine r_load ?_;refine Kf7 ?_;refine J48 ?_;refine r_many (E:=[6,7]) (by decide +kernel) ((.cons ?_ (.cons ?_ .nil)));·refine s_own (i:=6) (hq:=(cV (hc:=λ w1 hw=>rAt_c (hw.stAt (.inr (.inl (.tail _ (.head _)))) (.inr (.inl (.tail _ (.tail _ (.head _))))) (λ f hf=>.inr (.inl (.tail _ (.tail _ (.tail _ (.tail _ hf)))))) h0) ((nodeV L r).xs.getD y.j 0) (by omega) hl))) (h:=λ x82=>?_);refine r_alloc (hfire:=(λ _=>by(refine FireAll.cons (by exact a_load) ?_;refine FireAll.cons (by exact a_load) ?_;refine FireAll.cons (by exact a_indexAddr) ?_;refine FireAll.cons (by exact a_load) ?_;exact FireAll.nil))) (h:=λ x13=>?_);refine J19 ?_;refine k_rj (x13) ?_ (hw1:=λ w hw=>hw.z4);·trivial
      ·refine s_alloc (i:=7) (hfire:=(λ _=>by(refine FireAll.cons (by exact a_load) ?_;refine FireAll.cons (by exact a_load) ?_;refine FireAll.cons (by exact a_indexAddr) ?_;refine FireAll.cons (by exact a_load) ?_;exact FireAll.nil))) (h:=λ x13=>?_);refine r_own (i:=6) (hq:=(cV (hc:=λ w1 hw=>rAt_c (hw.stAt (.inr (.inl (.tail _ (.head _)))) (.inr (.inl (.tail _ (.tail _ (.head _))))) (λ f hf=>.inr (.inl (.tail _ (.tail _ (.tail _ (.tail _ hf)))))) h0) ((nodeV L r).xs.getD y.j 0) (by omega) hl))) (h:=λ x82=>?_);refine J19 ?_;refine k_rj (x13) ?_ (hw1:=λ w hw=>hw.z4);·trivial
     dsimp only[mkU,List.map,List.cons_append,List.nil_append];refine Ke6 ?_;refine kif (λ c85=>?_) (λ c85=>?_)
     ·try (first|(exact abt)|(exfalso;omega))
      refine J2 ?_;refine J3 ?_;refine J3 ?_;refine j_build ?_;refine j_buildSlice (λ x92=>?_);(refine j_append (λ x93=>?_);try (refine l_fact (λ h93=>?_)));refine J1 ?_;refine k_exit rfl ?_;refine J70 ?_;refine k_roundF ((by exact⟨y.j+1,y.tl,y.lp,y.lc,y.ps++[((nodeV L ((nodeV L r).xs.getD y.j 0)).nd.key,(nodeV L ((nodeV L r).xs.getD y.j 0)).nd.val)],x93.1,x93.2,y.sn⟩)) ?_ ?_ (by repeat (first|(with_reducible exact Pre.refl)|refine Pre.cons (by exact rfl) ?_)) ?_ (λ w hw=>by exact hw.back (hF:=FSub.ofSub λ f hf=>List.mem_cons_of_mem _ hf));·(simp only[];omega)
      ·repeat' (first|exact knows_nil _|refine knows_cons ?_ ?_)
       all_goals (first|exact rfl|(conv=>{lhs;whnf};simp;done))
      ·(exact⟨by show y.j+1<=_;omega,by have:=PlB.single hy.2.1 hjl (by rw[nodeV_c'];exact c85);rw[nodeV_c'] at this;exact this,hy.2.2.1,by show(y.ps++[_]).length+(64-(y.j+1))<=(y.tl.length+1)*(B+64);rw[List.length_append,List.length_singleton];omega⟩)
     ·try (first|(exact abt)|(exfalso;omega))
      refine J16 ?_;refine J24 ?_;refine Kb3 ?_;refine kif (λ c96=>?_) (λ c96=>?_)
      ·try (first|(exact abt)|(exfalso;omega))
       refine J0 ?_;refine j_assignL (λ _=>?_);refine J8 ?_;refine k_rt Tryz.results92 (λ w hw=>?_);exact⟨⟨false,[],none,0,[],none,0,y.sn,false⟩,rfl,PlR.no ((hpl c52 c61).trans (by rw[PlB.bad hy.2.1 hjl (by rw[nodeV_c'];exact c85) (by rw[nodeV_c'];exact c96)];rfl)) hy.2.2.1.1 rfl,(hw.subF (F':=[(none,plsC [])]) (by intro f hf;rw[List.mem_singleton.1 hf];exact .inl rfl)).finH (hO:=.cons _ (.cons _ (List.Sublist.refl _)))⟩
      ·try (first|(exact abt)|(exfalso;omega))
       obtain⟨q,hj,hq⟩:∃q:Nat,(nodeV L r).xs.getD y.j 0=((q+1:Nat):Int)/\q<L.length:=by have:=kind_in (N:=L.map NdV.c) (i:=(nodeV L r).xs.getD y.j 0) (by rw[nodeV_c'];show(nodeV L ((nodeV L r).xs.getD y.j 0)).nd.kind≠0;omega);rw[List.length_map] at this;exact⟨((nodeV L r).xs.getD y.j 0-1).toNat,by omega,by omega⟩
       have hkd:(ndAt (L.map NdV.c) ((nodeV L r).xs.getD y.j 0)).kind=2:=by rw[nodeV_c'];show(nodeV L ((nodeV L r).xs.getD y.j 0)).nd.kind=2;omega
       rw[hj] at hkd;refine J16 ?_;refine k_joinF [14,97,98,99,100,101,102,103,104,105,106] (λ u:Option Addr×Nat=>[(14,.slice u.1 (way++[ix.getD y.j 0]).length u.2)]) (λ u=>way.length+1<=u.2) (λ _=>[]) (λ _=>[]) (λ u=>[⟨u.1,refsC (way++[ix.getD y.j 0]),u.2,3,1⟩]) (by decide) (λ _=>by exact rfl) (λ _=>by simp only[List.nil_append,List.cons_append];exact rfl) (λ _=>by simp only[List.nil_append,List.cons_append];exact rfl) (λ _=>by simp only[List.nil_append,List.cons_append];exact rfl) ?_ (λ u f hx=>?_)
       ·refine k_drawF (.one 1 [] (.one 2 [] (.one 4 [] (.one 5 [] (.one 6 [] (.one 7 [] (.two 0 [2,6,7] (.two 3 [6,7] (.one 8 [2] (.one 9 [] (.one 10 [] .nil))) 0 [] (.two 8 [2] (.one 3 [6,7] (.one 9 [] (.one 10 [] .nil))) 0 [] .nil)) 0 [] (.two 8 [2] (.one 0 [2,6,7] (.one 3 [6,7] (.one 9 [] (.one 10 [] .nil)))) 0 [] .nil)))))))) ?_;refine J15 ?_;refine J17 ?_;refine r_ownQ (i:=6) (hq:=(o_indexR (k:=y.j) (lst:=ix) rf rf sl1 on1 fin (by omega) (by omega))) (h:=?_);refine r_ownQ (i:=7) (hq:=(o_loadR (q:=y.j) (lst:=ix) rf on1 fin (by omega))) (h:=?_);refine r_many (E:=[0,8]) (by decide +kernel) ((.cons ?_ (.cons ?_ .nil)))
        ·refine s_build0 (i:=0) (hfire:=(λ _=>by(refine FireAll.cons (by exact a_load) ?_;refine FireAll.cons (by exact a_own (hq:=o_indexR (k:=y.j) (lst:=ix) rf rf sl1 on1 fin (by omega) (by omega))) ?_;refine FireAll.cons (by exact a_own (hq:=o_loadR (q:=y.j) (lst:=ix) rf on1 fin (by omega))) ?_;exact FireAll.nil))) (h:=λ x97=>?_);refine r_many (E:=[3,8]) (by decide +kernel) ((.cons ?_ (.cons ?_ .nil)))
         ·(refine s_append (i:=3) (hfire:=(λ _=>by(refine fireall_fact ?_;refine FireAll.cons (by exact a_own (hq:=o_indexR (k:=y.j) (lst:=ix) rf rf sl1 on1 fin (by omega) (by omega))) ?_;refine FireAll.cons (by exact a_own (hq:=o_loadR (q:=y.j) (lst:=ix) rf on1 fin (by omega))) ?_;exact FireAll.nil))) (h:=λ x100=>?_);try (refine r_fact (λ h100=>?_)));refine r_buildSlice (hfire:=(λ _=>by(refine FireAll.cons (by exact a_load) ?_;exact FireAll.nil))) (h:=λ x105=>?_);((refine r_append (h:=λ x106=>?_);try (refine r_fact (λ h106=>?_))));refine J7 ?_;refine k_roundF (x106) (by decide) ?_ (by repeat (first|(with_reducible exact Pre.refl)|refine Pre.cons (by exact rfl) ?_)) ?_ (λ w hw=>hw.back (hF:=FSub.ofSub λ f hf=>List.mem_cons_of_mem _ hf) (hO:=by exact List.Sublist.refl _))
          ·repeat' (first|exact knows_nil _|refine knows_cons ?_ ?_)
           (conv=>{lhs;whnf};simp;done)
          ·omega
         ·refine s_buildSlice (i:=8) (hfire:=(λ _=>by(refine FireAll.cons (by exact a_load) ?_;exact FireAll.nil))) (h:=λ x105=>?_);((refine r_append (hfire:=(λ _=>by(refine fireall_fact ?_;refine FireAll.cons (by exact a_own (hq:=o_indexR (k:=y.j) (lst:=ix) rf rf sl1 on1 fin (by omega) (by omega))) ?_;refine FireAll.cons (by exact a_own (hq:=o_loadR (q:=y.j) (lst:=ix) rf on1 fin (by omega))) ?_;exact FireAll.nil))) (h:=λ x100=>?_);try (refine r_fact (λ h100=>?_))));((refine r_append (h:=λ x106=>?_);try (refine r_fact (λ h106=>?_))));refine J7 ?_;refine k_roundF (x106) (by decide) ?_ (by repeat (first|(with_reducible exact Pre.refl)|refine Pre.cons (by exact rfl) ?_)) ?_ (λ w hw=>hw.back (hF:=FSub.ofSub λ f hf=>List.mem_cons_of_mem _ hf) (hO:=by exact List.Sublist.refl _))
          ·repeat' (first|exact knows_nil _|refine knows_cons ?_ ?_)
           (conv=>{lhs;whnf};simp;done)
          ·omega
        ·refine s_buildSlice (i:=8) (hfire:=(λ _=>by(refine FireAll.cons (by exact a_load) ?_;exact FireAll.nil))) (h:=λ x105=>?_);refine r_build0 (hfire:=(λ _=>by(refine FireAll.cons (by exact a_load) ?_;refine FireAll.cons (by exact a_own (hq:=o_indexR (k:=y.j) (lst:=ix) rf rf sl1 on1 fin (by omega) (by omega))) ?_;refine FireAll.cons (by exact a_own (hq:=o_loadR (q:=y.j) (lst:=ix) rf on1 fin (by omega))) ?_;exact FireAll.nil))) (h:=λ x97=>?_);((refine r_append (hfire:=(λ _=>by(refine fireall_fact ?_;refine FireAll.cons (by exact a_own (hq:=o_indexR (k:=y.j) (lst:=ix) rf rf sl1 on1 fin (by omega) (by omega))) ?_;refine FireAll.cons (by exact a_own (hq:=o_loadR (q:=y.j) (lst:=ix) rf on1 fin (by omega))) ?_;exact FireAll.nil))) (h:=λ x100=>?_);try (refine r_fact (λ h100=>?_))));((refine r_append (h:=λ x106=>?_);try (refine r_fact (λ h106=>?_))));refine J7 ?_;refine k_roundF (x106) (by decide) ?_ (by repeat (first|(with_reducible exact Pre.refl)|refine Pre.cons (by exact rfl) ?_)) ?_ (λ w hw=>hw.back (hF:=FSub.ofSub λ f hf=>List.mem_cons_of_mem _ hf) (hO:=by exact List.Sublist.refl _))
         ·repeat' (first|exact knows_nil _|refine knows_cons ?_ ?_)
          (conv=>{lhs;whnf};simp;done)
         ·omega
       dsimp only[mkU,List.map,List.cons_append,List.nil_append];refine k_seq ?_;refine k_dq [0,1,2,3,4,5,6,7,8,9,10,11,12,13,14,15,16,17,18,19,20,21] ?_;refine r_load ?_;refine Kf7 ?_;refine r_ownQ (i:=4) (hq:=(o_indexR (k:=y.j) (lst:=(nodeV L r).xs) rf rf sl1 on1 (.old .head) (by omega) (by omega))) (h:=?_);refine r_ownQ (i:=5) (hq:=(o_loadW (cs:=refsC (nodeV L r).xs) (q:=y.j) (v:=.int .i64 ((q+1:Nat):Int)) rf on1 (λ w hw=>hw.cl (.old .head)) (by rw[<- hj];exact refsC_at hjl))) (h:=?_);refine J15 ?_;refine J15 ?_;refine r_inc ?_;refine r_move ?_;refine r_build ?_;refine r_move ?_;refine r_ownF (i:=14) (hq:=(cM (hs:=[]) (os:=[snW L pv y.sn]) (hA:=HasAll.cons (.inr (.inl (.tail _ (.head _)))) (HasAll.cons (.inr (.inl (.tail _ (.tail _ (.head _))))) (HasAll.cons (.inr (.inr (.inr ⟨_,.head _,rfl,rfl⟩))) (HasAll.of λ f hf=>.inr (.inl (.tail _ (.tail _ (.tail _ (.tail _ hf))))))))) (hc:=λ w1 hs=>ih m rfl (lv+1) (by omega) q ((k+1:Nat):Int) 0 (way++[ix.getD y.j 0]) u.1 u.2 _ y.sn _ w1 hq (by simp;omega) (by simp;omega) hy.2.2.1 hs))) (h:=λ x122 h122=>?_);refine Kd0 ?_;refine r_extract ?_;refine r_assignL (h:=λ _=>?_);refine J55 ?_;refine J32 ?_;refine J33 ?_;refine kif (λ c127=>?_) (λ c127=>?_)
       ·try (first|(exact abt)|(exfalso;omega))
        have hno:=PlR.nope h122 (by simpa using c127);refine J0 ?_;refine j_assignL (λ _=>?_);refine J8 ?_;refine k_rt Tryz.results92 (λ w hw=>?_);exact⟨⟨false,[],none,0,[],none,0,x122.sn,false⟩,rfl,PlR.no ((hpl c52 c61).trans (by rw[PlB.fail hy.2.1 hjl (by rw[hj];exact hkd) (by rw[hj];exact hno)];rfl)) h122.1 rfl,(hw.subF (F':=[(none,plsC [])]) (by intro f hf;rw[List.mem_singleton.1 hf];exact .inl rfl)).finH (hO:=.cons _ (.cons _ (.cons _ (List.Sublist.refl _))))⟩
       ·try (first|(exact abt)|(exfalso;omega))
        obtain⟨qq,hq1,e1,e2,⟨p0,t0,e3⟩,e4,e5,e6⟩:=PlR.yes h122 (by simpa using c127);have hlen1:=e5.len;have hlen2:x122.l.length=qq.1.length:=by rw[<- e1,List.length_map]
        simp only[List.length_append,List.length_map,List.length_cons,List.length_nil] at hlen1;have hmul2:(y.tl.length+1)*(B+64)+x122.l.length*(B+64)<=549755813888:=by rw[<- Nat.add_mul];exact Nat.le_trans (Nat.mul_le_mul_right _ (by omega)) hB.2
        obtain⟨m0,t1,e7⟩:=plc_head hq1;have e8:p0.way=way++[ix.getD y.j 0]:=by have:=e1;rw[e3,e7] at this;rw[show p0=_ from(List.cons.inj this).1]
        refine k_skip ?_;refine J76 ?_;(refine j_own (Loud.convOF (o_append (sz:=5) (cs:=plsC (⟨⟨((k+1:Nat):Int),r,a,lv,way⟩,wp,wc⟩::y.tl)) (ys:=plsC x122.l) rf rf oaT (by rw[plsC_length];rfl) (.new .head) (by rw[plsC_length]) (oneCells_pls _) elem_place rfl (by decide) sl1 (by omega)) co1) (λ x130=>?_);try (refine l_fact (λ h130=>?_)));refine J35 ?_;(refine j_own (Loud.convOF (o_appP (l:=y.ps) (l2:=x122.ps) rf rf oaT rfl (PlX.fin e4 (λ f hf=>List.mem_append_left _ hf) (λ f hf=>.tail _ (.tail _ (.tail _ (.tail _ hf))))) rfl ep1 sl1 (by omega)) co1) (λ x133=>?_);try (refine l_fact (λ h133=>?_)));refine J8 ?_;refine Kb5 ?_;refine k_roundF ((by exact⟨y.j+1,y.tl++x122.l,x130.1,x130.2,y.ps++x122.ps,x133.1,x133.2,x122.sn⟩)) ?_ ?_ (by repeat (first|(with_reducible exact Pre.refl)|refine Pre.cons (by exact rfl) ?_)) ?_ (λ w hw=>by exact plkeep hw e3 e8);·(simp only[];omega)
        ·repeat' (first|exact knows_nil _|refine knows_cons ?_ ?_)
         all_goals (first|exact rfl|(conv=>{lhs;whnf};simp;done)|(conv=>{lhs;whnf};simp only[List.length_append];congr 1;omega))
        ·exact plstep hy.2.1 hjl hj hkd hq1 e1 e2 e5 e6 hbnd
    ·try (first|(exact abt)|(exfalso;omega))
     refine k_exit rfl ?_;refine J11 ?_;refine j_assignL (λ _=>?_);refine J8 ?_;refine k_rt Tryz.results92 (λ w hw=>?_);refine⟨⟨true,⟨⟨((k+1:Nat):Int),r,a,lv,way⟩,wp,wc⟩::y.tl,y.lp,y.lc,y.ps,y.pp,y.pc,y.sn,true⟩,rfl,pldone hy.2.2.1 ((hpl c52 c61).trans (by rw[PlB.done hy.2.1 (by omega)];rfl)) hy.2.2.2,?_⟩;exact(SF.subF ((hw.freeze .head).freeze .head) (plfin y.tl)).z0
theorem places_c(h0:Fits L)(hb:StB L cs)(hl:L.length<=274877906944)(hc:cs.length<=274877906944)(hbm:∀r,∃b:Nat,b<18446744073709551616/\(nodeV L r).nd.bm=(b:Int)/\((nodeV L r).nd.kind=3->(nodeV L r).xs.length=cnt b 64))(B pv:Nat)(hB:Few L B):∀n,PlcC L cs gen pn cn pc cc B pv n
 | 0=>places1_c h0 hb hl hc hbm B pv hB 0 λ m e=>nomatch e
 | n+1=>places1_c h0 hb hl hc hbm B pv hB (n+1) λ m e=>by cases e;exact places_c h0 hb hl hc hbm B pv hB n
end
end Go.Proofs.YtdnklbipddigbaaGreat

/- Shape: every trie of a world is well-formed, and the program's Check says so. -/
import Derived.Test.YtadnboagdhcedaaGreatDoorGSh13
import Derived.Test.YtadnboagdhcedaaGreatDoorGR9s
import Derived.Test.YtadnboagdhcedaaGreatDoorGWo4
import Derived.Test.YtadnboagdhcedaaGreatDoorGSh22

set_option linter.unusedSimpArgs false
set_option linter.unusedVariables false
namespace Go.Proofs.YtadnboagdhcedaaGreatDoor
section
open Go Go.RowKit Go.Ct
theorem gdx{l:List Int}{k:Nat}(h:k<l.length):l.getD k 0=l[k]:=by simp[List.getD,h]
section
variable{H:ByteArray->Nat}{σ:Kw}
theorem ey(i0:Inv H σ):∀(n:Nat) (i:Int) (w:List Nat) (g:Int),sN σ i w g->12<=w.length+n->Sr σ.mm.nodes σ.mm.cs n i
 | 0,i,w,g,hi,hn=>by have:=(hi.N5 i0).2.2;omega
 | n+1,i,w,g,hi,hn=>by
  obtain⟨r,hb,hm⟩:=Ml i0 hi
  refine⟨r,hb,λ b hx=>?_⟩
  by_cases k3:(σ.nd r).kind=3
  ·have hc:=hm.uF i0 k3;obtain⟨j,hj,he⟩:=List.mem_iff_getElem.1 (show b∈(σ.nd r).xs from hx)
   obtain⟨h1,h2⟩:=hc.at hj
   rw[gdx hj,he] at h2
   generalize Zf (σ.nd r) j=jj at h1 h2
   rcases hc.br _ h1 _ h2 with hb2|hb2
   ·exact .inl hb2.1
   ·exact .inr ⟨hb2.1,ey i0 n _ (w++[jj]) _ ⟨⟨hb2.1,hb2.2.1⟩,rfl⟩ (by rw[List.length_append,List.length_singleton];omega)⟩
  ·have hxs:=hm.aA8 i0 k3;rw[show(bH σ.mm.nodes r).xs=[] from hxs] at hx;exact nomatch hx
end
theorem SF.aBR{w0 w:World}{M:List Nat}{H:List (Nat×Obj)}{A F:Fr}{O:List Ow}{a b c:Ow}{L:List aI}{p:Option Addr}{k:Nat}{T:TypeId}(h:SF w0 M H A F (a::b::⟨p,fX L,k,T,14⟩::c::O) w):L.length<=k:=h.Se (.tail (.tail .head))
theorem K7{x:XS}(h:x.Ok):iG x.L:=λ v hv=>by
 have hb:=h.nd v hv;have h1:=hb.main;have h2:=hb.prev;have h3:=hb.status;have h4:=h.lc;have e1:v.c.main=v.nd.main:=rfl;have e2:v.c.prev=v.nd.prev:=rfl;have e3:v.c.status=v.nd.status:=rfl;exact⟨hb.bm,by omega,by omega,by omega⟩
structure CkT(m:Nat)(z:XS)(t:iS)(r:Int)(l:List Int):Prop where
 root:eD (z.L.map aI.c) z.cs t.root=some r
 trav:lD z.L z.cs z.gen t.root=some l
 trb:Sr (z.L.map aI.c) z.cs 12 r
 wf:Nt (z.L.map aI.c) z.cs m 12 r [] 0
 sh:tM z.L
 mn:wX z.L z.cs
 pr:cO z.L z.cs z.gen
 hd:∃t0,l=r::t0
 inl:∀j∈l,(bH (z.L.map aI.c) j).kind=2
theorem ak{m B C E:Nat}{W:Wd}(h:Ql m B C E W){t:iS}(ht:t∈W.ts)(hl:W.z.L.length<=274877906944):∃r l,CkT m W.z t r l:=by
 obtain⟨σ,hi⟩:=h.wr.inv
 have i0:=hi.inv;have e1:σ.mm.nodes=W.z.L.map aI.c:=by rw[hi.mm];rfl
 have e2:σ.mm.cs=W.z.cs:=by rw[hi.mm];rfl
 have e3:σ.mm.gen=W.z.gen:=by rw[hi.mm];rfl
 obtain⟨r,hr,hir⟩:=sc i0 (hi.ts t ht)
 have hig:sN σ r [] (σ.nd r).gen:=⟨hir,rfl⟩;obtain⟨v,hv,hbl,_⟩:=jk i0 12 r [] _ [] hig (by decide) (λ j hj=>nomatch hj)
 have hp:cO W.z.L W.z.cs W.z.gen:=by have:=i0.prop;rw[e2,e3] at this;exact this.to e1.symm
 have h1:=ey i0 12 r [] _ hig (by decide);have h2:=au i0 12 r [] _ 0 hig (.inl rfl) (by decide);have h3:=aB3 i0 e1 (K7 h.z) h.z.fit hl;have h4:=xc i0 e1 e2
 have h5:∀j∈v,(bH σ.mm.nodes j).kind=2:=λ j hj=>by
  obtain⟨_,_,hk2,_⟩:=hbl j hj
  exact hk2
 rw[e1,e2] at hr hv h1 h2
 rw[e1] at h5
 rw[List.nil_append] at hv
 obtain⟨t0,ht0⟩:=Na 12 r [] v hv
 rw[List.nil_append] at ht0
 exact⟨r,v,hr,by rw[qC hp,hr];exact hv,h1,h2,h3,h4,hp,⟨t0,ht0⟩,h5⟩
end

/- The program's shape, part 8: Quiet, where nothing is pending. -/
section
open Go Go.RowKit Go.Ct
def QuI(L:List aI)(cs:List Int)(x:Int):Prop:=∃i c k p:Nat,x=((i+1:Nat):Int)/\i<L.length/\(aA L ((i+1:Nat):Int)).nd.main=((c+1:Nat):Int)/\c<cs.length/\cs.getD c 0=((k+1:Nat):Int)/\k<L.length/\cC (aA L ((k+1:Nat):Int)).c/\(aA L ((k+1:Nat):Int)).nd.prev=((p+1:Nat):Int)/\p<cs.length/\cs.getD p 0=0
section
variable{L:List aI}{cs:List Int}{gen:Int}{pn pc:Option Addr}{cn cc:Nat}{w:World}
set_option maxRecDepth 100000 in
set_option maxHeartbeats 1000000 in
theorem jb(h:eP w L cs pn pc)(hr:iG L)(hl:L.length<=274877906944)(hc:cs.length<=274877906944)(hcn:L.length<=cn){cz:Nat}(ro:Bool)(hcz:cz<cs.length){l:List Int}(hn:lD L cs gen ((cz+1:Nat):Int)=some l)(h0:0<l.length)(hroot:cs.getD cz 0=l.getD 0 0)(hq:∀j,j<l.length->QuI L cs (l.getD j 0)) :
  Calls Tryz.prog 13 #[iF L cs gen pn cn pc cc,.agg ⟨[.int .i64 ((cz+1:Nat):Int),.bool ro]⟩] w λ e w'=>e=.returned (.bool true)/\St w [] [] w':=by
 refine enter Tryz.func13 Tryz.ntmps13 rfl rfl h.start ?_;simp only[cP]
 simp only[iF]
 refine K0o ?_;intro x2 x3;refine K0t ?_;intro x13 h13;((refine iW ?_));refine Tl ?_;refine aL ?_;(refine Eu 23 (λ g23=>?_) (λ g23=>?_)<;>(try ((exfalso;omega)))<;>((refine aN ?_)));((refine aZ ?_));refine Nu ?_;((refine qK ?_));((refine bJ (i:=13) (hq:=(bE (lst:=cs) (k:=cz) rf rf eC wn (.bO (.tail .head)) hcz hcz)) (h:=?_)));((refine bJ (i:=14) (hq:=(bP (lst:=cs) (q:=cz) rf wn (.bO (.tail .head)) hcz)) (h:=?_)));((refine aL ?_));((refine bJ (i:=16) (hq:=(bE (lst:=l) (k:=0) rf rf eC wn (.new .head) h0 h0)) (h:=?_)));((refine bJ (i:=17) (hq:=(bP (lst:=l) (q:=0) rf wn (.new .head) h0)) (h:=?_)));((refine qS ?_));refine eS ?_;refine dJ ?_;refine bA (λ c35=>?_) (λ c35=>?_)
 ·try (contradiction)
 ·try (first|contradiction|(exfalso;omega))
  refine jH ?_;refine J2 ?_;refine Kc6 ?_;refine kK [4,8,9,38,39,40,41,42,43,44,45,46,47,48,49,50,51,52,53,54,55,56,57,58,59,60,61,62,63,64,65,66,67,68,69,70,71,72] (λ y:Nat=>[(38,.int .i64 ((y:Nat):Int))]) (λ y=>y<=l.length) (λ _=>_) (λ _=>[(x13.1,aH l)]) (λ _=>_) (λ y=>l.length-y) (0) (Nat.zero_le _) (λ y f hx=>?_) (hw0:=λ w hw=>hw);refine K2p ?_;refine bA (λ c39=>?_) (λ c39=>?_)
  ·try (first|contradiction|(exfalso;omega))
   have hyl:y<l.length:=by omega
   obtain⟨i,c,k,p,q1,q2,q3,q4,q5,q6,q7,q8,q9,q10⟩:=hq y hyl
   rw[fG q2] at q3;rw[fG q6] at q7 q8;refine K0g ?_;refine gG (hfire:=(λ _=>by((repeat (first|exact aG.nil|refine aG.cons (by first|exact bY|exact cG (hq:=iC (k:=i) rf (by rw[show((i:Nat):Int)=l.getD y 0-1 by omega];exact rfl) eC dR (.bO .head) q2 q2)|exact cG (hq:=bE (lst:=cs) (k:=c) rf (by rw[show((c:Nat):Int)=(L.getD i aI.zero).nd.main-1 by omega];exact rfl) eC wn (.bO (.tail .head)) q4 q4)|exact cG (hq:=iC (k:=k) rf (by rw[show((k:Nat):Int)=cs.getD c 0-1 by omega];exact rfl) eC dR (.bO .head) q6 q6)) ?_));done))) (h:=λ x9=>?_);refine vF ?_;refine iH ?_;refine aD (c0 (V:=.bool) (hc:=λ w1 hw=>Cr (L.getD k aI.zero).nd w1)) (λ x60 h60=>?_);refine C6 ?_;(refine eM 62 (λ g62=>?_) (λ g62=>?_)<;>refine Ka1 ?_);all_goals (refine Ao ?_;(first|refine aJ ?_|(refine aF ?_;refine oQ ?_));(first|refine aJ ?_|(refine aF ?_;refine aE (bE (lst:=cs) (k:=p) rf (by rw[show((p:Nat):Int)=(L.getD k aI.zero).nd.prev-1 by omega];exact rfl) eC wn (.bO (.tail .head)) q9 q9) rfl ?_));(first|refine aJ ?_|(refine aF ?_;refine aE (bP (lst:=cs) (q:=p) rf wn (.bO (.tail .head)) q9) rfl ?_));refine Rq ?_;refine aK ?_)
   all_goals
   refine bA (λ c71=>?_) (λ c71=>?_)
   ·all_goals try (contradiction)
    all_goals refine cR ?_
    all_goals
     refine aR Tryz.results13 (λ w hw=>?_);first
     | exact⟨rfl,hw.done⟩
     | (exfalso;omega)
     | (exfalso;have h12:=h60.2 q7;rw[h12] at g62;exact absurd g62 (by decide))
     | (exfalso;simp_all;done)
   ·try exact nv c71
    all_goals (refine Kc9 ?_)
    all_goals
     refine K2b ?_
     ·(show y+1<=l.length;omega)
  ·try (first|contradiction|(exfalso;omega))
   refine K0z ?_;refine aR Tryz.results13 (λ w hw=>?_);first
   | exact⟨rfl,hw.done⟩
   | (exfalso;omega)
   | (exfalso;simp_all;done)
end
end

/- ShapeReached: the sanity check. -/
section
open Go Go.RowKit Go.Ct
theorem qf(w:World):Calls Tryz.prog 15 #[] w λ e w'=>∃q:Nat×AX×AX×Option Addr×Nat,e=.returned (.tuple #[.pointer (some ⟨q.1,0,none⟩),.agg ⟨[.int .i64 3,.bool false]⟩])/\True /\
  SF w [] [(q.1,mO (L4 q.2.1 q.2.2.1) [0,3,4] 1 0 q.2.2.1.pn q.2.2.1.cn q.2.2.2.1 q.2.2.2.2)] [] (bD (L4 q.2.1 q.2.2.1)) (mW (L4 q.2.1 q.2.2.1) [0,3,4] q.2.2.1.pn q.2.2.1.cn q.2.2.2.1 q.2.2.2.2) w':=by
 refine enter Tryz.func15 Tryz.ntmps15 rfl rfl (SF.s0 w) ?_;simp only[cP]
 refine J0 ?_;refine dL (λ _=>?_);refine aT (λ x1=>?_);refine aK ?_;refine J0 ?_;refine aD (Rr (Fc:=λ _=>[]) (hc:=λ w1 hw=>Tv w1)) (λ x3 h3=>?_);refine vE ?_;refine aD (cM (hc:=λ w hs=>Qi hs)) (λ x6 h6=>?_);refine dL (λ _=>?_);refine J5 ?_;refine bK Tryz.results15 (λ w hw=>?_);exact⟨(x3.1,x6.1,x6.2.1,x6.2.2.1,x6.2.2.2),rfl,trivial,hw.zA0⟩
section
variable{L:List aI}{N:List Nv}{cs:List Int}{pn pc:Option Addr}{cn cc:Nat}{w:World}
theorem P7(hN:L.map aI.c=N)(als:Wt L)(hp:fR N cs 1)(hl:L.length<=100)(hc:cs.length<=100)(h:eP w L cs pn pc)(hT:Go.Ct.Cl w (some ⟨0,0,none⟩) (oH jB))(hcn:L.length<=cn){c:Int}(hi:c<=100){r:Int}{l:List Int}(hro:eD N cs c=some r)(hv:yX N cs 12 r []=some l)(ht:Sr N cs 12 r){b:Bool}(hb:b=true↔Nt N cs 0 12 r [] 0) :
  Calls Tryz.prog 11 #[iF L cs 1 pn cn pc cc,.agg ⟨[.int .i64 c,.bool false]⟩,.int .u64 0] w λ e w'=>e=.returned (.int .i64 (if b=true then 0 else 8))/\St w [] [] w':=by
 subst hN;have hp2:cO L cs 1:=hp.to rfl;refine(Vq (m:=0) h hT (oj hp2 als.Ic als.fit (by omega) als.hash) (nl hp2) hp2 als.Ic (by omega) hcn (by decide) c false (by omega) (by rw[qC hp2,hro];exact hv) hro ht).mono ?_;rintro e w' ⟨q,e1,h1,h2⟩;refine⟨?_,h2.done⟩;rw[e1];have:q=b:=by rw[Bool.eq_iff_iff];exact h1.trans hb.symm
 rw[this]
theorem gq(hN:L.map aI.c=N)(als:Wt L)(hp:fR N cs 1)(hl:L.length<=100)(hc:cs.length<=100)(h:eP w L cs pn pc)(hT:Go.Ct.Cl w (some ⟨0,0,none⟩) (oH jB))(hcn:L.length<=cn){c:Int}(hi:c<=100){r:Int}{l:List Int}(hro:eD N cs c=some r)(hv:yX N cs 12 r []=some l)(ht:Sr N cs 12 r){d:Nat}(hd:Wn N cs 12 r=d) :
  Calls Tryz.prog 14 #[iF L cs 1 pn cn pc cc,.agg ⟨[.int .i64 c,.bool false]⟩] w λ e w'=>e=.returned (.int .i64 ((d:Nat):Int))/\St w [] [] w':=by
 subst hN hd;have hp2:cO L cs 1:=hp.to rfl;exact Rm h hT (oj hp2 als.Ic als.fit (by omega) als.hash) (nl hp2) hp2 als.Ic (by omega) hcn c false (by omega) (by rw[qC hp2,hro];exact hv) hro ht
end
section
variable{x y:AX}{pn pc:Option Addr}{cn cc:Nat}{w:World}
theorem X7(h:eP w (L4 x y) [0,3,4] pn pc)(hT:Go.Ct.Cl w (some ⟨0,0,none⟩) (oH jB))(hcn:(L4 x y).length<=cn):Calls Tryz.prog 11 #[iF (L4 x y) [0,3,4] 1 pn cn pc cc,.agg ⟨[.int .i64 3,.bool false]⟩,.int .u64 0] w λ e w'=>e=.returned (.int .i64 0)/\St w [] [] w' :=
 P7 (b:=true) (y7 x y) (L5 x y) I9 (by show 4<=100;decide) (by decide) h hT hcn (by decide) W6 bf y5 ⟨λ _=>aBJ 0,λ _=>rfl⟩
theorem Zr(h:eP w (L4 x y) [0,3,4] pn pc)(hcn:(L4 x y).length<=cn):Calls Tryz.prog 13 #[iF (L4 x y) [0,3,4] 1 pn cn pc cc,.agg ⟨[.int .i64 3,.bool false]⟩] w λ e w'=>e=.returned (.bool true)/\St w [] [] w':=by
 have hp2:cO (L4 x y) [0,3,4] 1:=I9.to (y7 x y);refine jb (cz:=2) (l:=[4]) h (L5 x y).Ic (by show 4<=274877906944;decide) (by decide) hcn false (by decide) (by show lD _ _ _ 3=_;rw[qC hp2,y7,W6];exact bf) (by decide) rfl λ j hj=>?_;have:j=0:=by simp at hj;omega
 subst this
 exact⟨3,1,2,0,rfl,by show 3<4;decide,rfl,by decide,rfl,by show 2<4;decide,.inl rfl,rfl,by decide,rfl⟩
end
section
variable{x1 x2 x3 x4 x5:AX}{pn pc:Option Addr}{cn cc:Nat}{w:World}
theorem Xt(h:eP w (eb x1 x2 x3 x4 x5) Zk pn pc)(hT:Go.Ct.Cl w (some ⟨0,0,none⟩) (oH jB))(hcn:(eb x1 x2 x3 x4 x5).length<=cn):Calls Tryz.prog 11 #[iF (eb x1 x2 x3 x4 x5) Zk 1 pn cn pc cc,.agg ⟨[.int .i64 5,.bool false]⟩,.int .u64 0] w λ e w'=>e=.returned (.int .i64 8)/\St w [] [] w' :=
 P7 (b:=false) (aBq x1 x2 x3 x4 x5) (Lm x1 x2 x3 x4 x5) Jo (by show 7<=100;decide) (by decide) h hT hcn (by decide) U0 bq ee ⟨λ h=>(nomatch h),λ h=>absurd h (aBP 0)⟩
theorem Xq(h:eP w (eb x1 x2 x3 x4 x5) Zk pn pc)(hT:Go.Ct.Cl w (some ⟨0,0,none⟩) (oH jB))(hcn:(eb x1 x2 x3 x4 x5).length<=cn):Calls Tryz.prog 14 #[iF (eb x1 x2 x3 x4 x5) Zk 1 pn cn pc cc,.agg ⟨[.int .i64 5,.bool false]⟩] w λ e w'=>e=.returned (.int .i64 1)/\St w [] [] w' :=
 gq (d:=1) (aBq x1 x2 x3 x4 x5) (Lm x1 x2 x3 x4 x5) Jo (by show 7<=100;decide) (by decide) h hT hcn (by decide) U0 bq ee aBx
end
theorem Ur{x1 x2 x3 x4 x5:AX}{A F:Fr}{O:List Ow}(h1:∀f∈(lW ql [] [] 0 x1).fr,f∈F)(h2:∀f∈(lW Vc [3] [] 0 x2).fr,f∈F)(h3:∀f∈(lW (wK 1) [] [] 1 x3).fr,f∈F)(h4:∀f∈(lW Vc [5] [] 2 x4).fr,f∈F)(h5:∀f∈(lW (wK 1) [] [] 3 x5).fr,f∈F):∀f∈bD (eb x1 x2 x3 x4 x5),Has A F O f:=λ f hf=>by
 obtain⟨v,hv,hf⟩:=gK.1 hf
 simp only[eb,List.cons_append,List.nil_append,List.mem_cons,List.not_mem_nil,or_false] at hv
 rcases hv with rfl|rfl|rfl|rfl|rfl|rfl|rfl
 ·simp only[aI.fr,List.mem_cons,List.not_mem_nil,or_false] at hf;rcases hf with rfl|rfl<;>exact .inl rfl
 ·simp only[aI.fr,List.mem_cons,List.not_mem_nil,or_false] at hf;rcases hf with rfl|rfl<;>exact .inl rfl
 ·exact .inr (.inr (.inl (h1 f hf)))
 ·exact .inr (.inr (.inl (h2 f hf)))
 ·exact .inr (.inr (.inl (h3 f hf)))
 ·exact .inr (.inr (.inl (h4 f hf)))
 ·exact .inr (.inr (.inl (h5 f hf)))
set_option maxRecDepth 100000 in
theorem Yk{w:World}(hT:Go.Ct.Cl w (some ⟨0,0,none⟩) (oH jB)):Calls Tryz.prog 10 #[] w λ e w'=>e=.returned (.bool true)/\St w [] [] w':=by
 refine enter Tryz.func10 Tryz.ntmps10 rfl rfl (SF.begin (A:=[(some ⟨0,0,none⟩,oH jB)]) (λ f hf=>by rw[List.mem_singleton.1 hf];exact hT)) ?_;simp only[cP]
 refine cR ?_;refine J0 ?_;refine aD (Rr (Fc:=λ q:Nat×AX×AX×Option Addr×Nat=>bD (L4 q.2.1 q.2.2.1)) (hc:=λ w1 hw=>qf w1)) (λ x10 h10=>?_);refine uV ?_;refine aT (λ x2=>?_);refine dL (λ _=>?_);refine J5 ?_;refine J0 ?_;refine aD (Rr (Fc:=λ _=>[]) (hc:=λ w1 hw=>Tv w1)) (λ x13 h13=>?_);refine Ka6 ?_;refine bQ ?_;refine aD (cM (A0:=[(none,aH []),(none,dK [])]) (hc:=λ w hs=>oK (L:=[dH,dH]) (cs:=[]) (n:=ql) (xs:=[]) (ys:=[]) 0 hs rfl rfl (by decide) (by decide) (show(2:Nat)<=274877906944 by decide) (by decide))) (λ x16 h16=>?_);refine vE ?_;refine aS (Fv (λ _=>cX (cs:=aH [3]) mV Ih rfl rfl rfl rfl rfl)) (λ x19=>?_);refine bQ ?_;refine aD (cM (A0:=[(some ⟨x19,0,none⟩,aH [3]),(none,dK [])]) (hc:=λ w hs=>oK (L:=[dH,dH]++[lW ql [] [] 0 x16]) (cs:=[]) (n:={Vc with brA:=some ⟨x19,0,none⟩,brN:=1,brC:=1}) (xs:=[3]) (ys:=[]) 0 hs rfl rfl (by decide) (by decide) (show(3:Nat)<=274877906944 by decide) (by decide))) (λ x21 h21=>?_);refine J1 ?_;refine Ii ?_;refine zV ?_;refine J2 ?_;refine bQ ?_;refine aB ?_;refine aD (cM (A0:=[(none,aH []),(none,dK [])]) (hc:=λ w hs=>oK (L:=[dH,dH]++[lW ql [] [] 0 x16]++[lW Vc [3] [] 0 x21]) (cs:=[0]) (n:=wK 1) (xs:=[]) (ys:=[]) 4 hs rfl rfl (by decide) (by decide) (show(4:Nat)<=274877906944 by decide) (by decide))) (λ x29 h29=>?_);refine Ka6 ?_;refine bQ ?_;refine pK ?_;refine aS (Fv (λ _=>cX (cs:=aH [5]) mV Ih rfl rfl rfl rfl rfl)) (λ x34=>?_);refine bQ ?_;refine aD (cM (A0:=[(some ⟨x34,0,none⟩,aH [5]),(none,dK [])]) (hc:=λ w hs=>oK (L:=[dH,dH]++[lW ql [] [] 0 x16]++[lW Vc [3] [] 0 x21]++[lW (wK 1) [] [] 1 x29]) (cs:=[0,4]) (n:={Vc with brA:=some ⟨x34,0,none⟩,brN:=1,brC:=1}) (xs:=[5]) (ys:=[]) 0 hs rfl rfl (by decide) (by decide) (show(5:Nat)<=274877906944 by decide) (by decide))) (λ x36 h36=>?_);refine aD (cM (A0:=[(none,aH []),(none,dK [])]) (hc:=λ w hs=>oK (L:=[dH,dH]++[lW ql [] [] 0 x16]++[lW Vc [3] [] 0 x21]++[lW (wK 1) [] [] 1 x29]++[lW Vc [5] [] 2 x36]) (cs:=[0,4,0]) (n:=wK 1) (xs:=[]) (ys:=[]) 6 hs rfl rfl (by decide) (by decide) (show(6:Nat)<=274877906944 by decide) (by decide))) (λ x37 h37=>?_);refine vE ?_;refine aD (cM (hc:=λ w hs=>kH (L:=eb x16 x21 x29 x36 x37) (cs:=[0,4,0,6]) 7 hs (by decide))) (λ x40 h40=>?_);refine bQ ?_;refine aT (λ x8=>?_);refine J5 ?_;refine aV ?_;refine gP [0,1,2,3,4,5,6,7,8,9,10,11,12,13,14,15,16,17,18,19,20,21,22,23,24,25,26,27,28,29,30,31,32,33] ?_;refine J9 ?_;refine bJ (i:=3) (hq:=(aW (k:=3) rf dI dR (by simp only[List.drop_zero,List.take_succ_cons,List.take_zero];exact rfl) rfl)) (h:=?_);refine aZ ?_;refine cA (i:=5) (hq:=(cV (v:=.int .i64 0) (hc:=λ w1 hw=>X7 (hw.kB (.inr (.inr (.inr ⟨_,.tail _ (.tail _ (.head _)),rfl,rfl⟩))) (.inr (.inr (.inr ⟨_,.tail _ (.tail _ (.tail _ (.head _))),rfl,rfl⟩))) (λ f hf=>.inr (.inr (.inl (by repeat (first|exact hf|refine List.mem_append_right _ ?_|refine List.mem_cons_of_mem _ ?_))))) (L5 x10.2.1 x10.2.2.1).fit) (hw.cl (.bO (.head))) (hw.Se (.tail (.tail .head)))))) (h:=λ x47=>?_);refine jQ ?_;refine aL ?_;(refine aL ?_);((refine nF ?_));((refine aN ?_));((refine bJ (i:=11) (hq:=(aW (k:=3) rf dI dR (by simp only[List.drop_zero,List.take_succ_cons,List.take_zero];exact rfl) rfl)) (h:=?_)));((refine aZ ?_));((refine cA (i:=13) (hq:=(cV (v:=.bool true) (hc:=λ w1 hw=>Zr (hw.kB (.inr (.inr (.inr ⟨_,.tail _ (.tail _ (.head _)),rfl,rfl⟩))) (.inr (.inr (.inr ⟨_,.tail _ (.tail _ (.tail _ (.head _))),rfl,rfl⟩))) (λ f hf=>.inr (.inr (.inl (by repeat (first|exact hf|refine List.mem_append_right _ ?_|refine List.mem_cons_of_mem _ ?_))))) (L5 x10.2.1 x10.2.2.1).fit) (hw.Se (.tail (.tail .head)))))) (h:=λ x55=>?_)));refine Ke7 ?_;(refine aL ?_);((refine nF ?_));((refine aN ?_));((refine bJ (i:=19) (hq:=(aW (k:=3) rf dI dR (by simp only[List.drop_zero,List.take_succ_cons,List.take_zero];exact rfl) rfl)) (h:=?_)));((refine aZ ?_));((refine cA (i:=21) (hq:=(cV (v:=.int .i64 8) (hc:=λ w1 hw=>Xt (hw.kB (.inr (.inr (.inr ⟨_,.head _,rfl,rfl⟩))) (.inr (.inr (.inr ⟨_,.tail _ (.head _),rfl,rfl⟩))) (Ur (λ f hf=>(by repeat (first|exact List.mem_append_left _ hf|refine List.mem_append_right _ ?_|refine List.mem_cons_of_mem _ ?_))) (λ f hf=>(by repeat (first|exact List.mem_append_left _ hf|refine List.mem_append_right _ ?_|refine List.mem_cons_of_mem _ ?_))) (λ f hf=>(by repeat (first|exact List.mem_append_left _ hf|refine List.mem_append_right _ ?_|refine List.mem_cons_of_mem _ ?_))) (λ f hf=>(by repeat (first|exact List.mem_append_left _ hf|refine List.mem_append_right _ ?_))) (λ f hf=>(by repeat (exact List.mem_append_left _ hf)))) (Lm x16 x21 x29 x36 x37).fit) (hw.cl (.bO (.head))) (hw.Se .head)))) (h:=λ x63=>?_)));refine Tl ?_;refine aL ?_;(refine aL ?_);((refine nF ?_));((refine aN ?_));((refine bJ (i:=28) (hq:=(aW (k:=3) rf dI dR (by simp only[List.drop_zero,List.take_succ_cons,List.take_zero];exact rfl) rfl)) (h:=?_)));((refine aZ ?_));((refine cA (i:=30) (hq:=(cV (v:=.int .i64 1) (hc:=λ w1 hw=>Xq (hw.kB (.inr (.inr (.inr ⟨_,.head _,rfl,rfl⟩))) (.inr (.inr (.inr ⟨_,.tail _ (.head _),rfl,rfl⟩))) (Ur (λ f hf=>(by repeat (first|exact List.mem_append_left _ hf|refine List.mem_append_right _ ?_|refine List.mem_cons_of_mem _ ?_))) (λ f hf=>(by repeat (first|exact List.mem_append_left _ hf|refine List.mem_append_right _ ?_|refine List.mem_cons_of_mem _ ?_))) (λ f hf=>(by repeat (first|exact List.mem_append_left _ hf|refine List.mem_append_right _ ?_|refine List.mem_cons_of_mem _ ?_))) (λ f hf=>(by repeat (first|exact List.mem_append_left _ hf|refine List.mem_append_right _ ?_))) (λ f hf=>(by repeat (exact List.mem_append_left _ hf)))) (Lm x16 x21 x29 x36 x37).fit) (hw.cl (.bO (.head))) (hw.Se .head)))) (h:=λ x72=>?_)));refine Tl ?_;refine J7 ?_;refine aR Tryz.results10 (λ w hw=>?_);exact⟨rfl,hw.done⟩
end

end Go.Proofs.YtadnboagdhcedaaGreatDoor

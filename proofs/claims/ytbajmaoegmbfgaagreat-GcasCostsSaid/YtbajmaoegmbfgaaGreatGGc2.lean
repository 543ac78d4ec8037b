/- gcas: back, Complete, decide. -/
import Derived.Test.YtbajmaoegmbfgaaGreatGWo7

set_option linter.unusedSimpArgs false
set_option linter.unusedVariables false
namespace Go.Proofs.YtbajmaoegmbfgaaGreat
section
open Go Go.RowKit Go.Ct
abbrev lE(b:Nat)(t:fG):List Value:=[.iface 42 (.pointer (some ⟨b,0,none⟩)),.int .i64 t.root,.bool t.ro]
def jo(prev p:Int)(c:Bool)(K:Bool->Tr):Tr:=if c=true then .jP prev p 0 K else .alloc (tT p) 0 λ f=>.jP prev p f K
theorem qJ{a:AS}(hm:a.mm.Small){x:Int}(h:x<=a.mm.cs.length):x<=9223372036854775807:=by have:=hm.2;omega
theorem Df{a:AS}(ok:a.Ok)(r:Int):lQ a.mm.nodes.length a.mm.cs.length (aB (bS a.L) r).c:=by rw[<- kU];exact ok.mo.at r
section
variable{D:List Nat}{A B:Fr}{a:AS}{b:Nat}{w:World}{f:FuncId}{cap:List Value}{t:fG}
theorem Zn{K:Int->Tr}{v:Int}{s:Mm}{b2 b3:Nat}(hK:D6 b K s f cap B)(hv:v<=s.nodes.length)(o:Bool):vB b 201 [pt b2,pt b3] [.bool o] (bx b3 [.int .i64 v]::bx b2 [fn f cap]::B) s (K v):=by
 intro a D A w em ok hm hA hB hw0
 subst em
 have hK2:=hK.more (B2:=(bx b3 [.int .i64 v]::bx b2 [fn f cap]::B)) (λ x hx=>by simp[hx])
 refine enter Tryz.func201 Tryz.ntmps201 rfl rfl hw0 ?_
 simp only[cD]
 refine J0 ?_;refine aJ (λ x4=>?_);refine aH ?_;refine J0 ?_;refine aC (qE b2 [fn f cap] 0 hB rfl) rfl ?_;refine aC (qE b3 [.int .i64 v] 0 hB rfl) rfl ?_;refine aD (Rm hK.1 (hK2.2 v a.mm (Mm.Le.refl _) hv) ok hm hA hB) (λ x7 h7=>?_);refine cO (jE λ _=>bO rf cX rf (dK _) eP rf kL) (λ _=>?_);refine aH ?_
 refine aY Tryz.results201 (λ w hw=>?_)
 exact⟨x7,rfl,h7,hw.rN⟩
theorem Av{K:Int->Tr}{v:Int}{s:Mm}{b2 b3:Nat}(hK:D6 b K s f cap B)(hv:v<=s.nodes.length)(o:Bool):vB b 174 [pt b2,pt b3] [.bool o] (bx b3 [.int .i64 v]::bx b2 [fn f cap]::B) s (K v):=by
 intro a D A w em ok hm hA hB hw0
 subst em
 have hK2:=hK.more (B2:=(bx b3 [.int .i64 v]::bx b2 [fn f cap]::B)) (λ x hx=>by simp[hx])
 refine enter Tryz.func174 Tryz.ntmps174 rfl rfl hw0 ?_
 simp only[cD]
 refine J0 ?_;refine aJ (λ x4=>?_);refine aH ?_;refine J0 ?_;refine aC (qE b2 [fn f cap] 0 hB rfl) rfl ?_;refine aC (qE b3 [.int .i64 v] 0 hB rfl) rfl ?_;refine aD (Rm hK.1 (hK2.2 v a.mm (Mm.Le.refl _) hv) ok hm hA hB) (λ x7 h7=>?_);refine cO (jE λ _=>bO rf cX rf (dK _) eP rf kL) (λ _=>?_);refine aH ?_
 refine aY Tryz.results174 (λ w hw=>?_)
 exact⟨x7,rfl,h7,hw.rN⟩
theorem Tu{K:Int->Tr}{i m p:Int}(hK:D6 b K a.mm f cap B)(hi:i<=a.mm.nodes.length)(hmm:m<=a.mm.nodes.length)(hp:p<=a.mm.nodes.length)(ok:a.Ok)(hm:a.mm.Small)(hA:∀f∈aM a.L,f∈A)(hB:∀x∈B,x∈A)(hs:SF w D [(b,fI a)] A [] (fQ a) w) :
  Calls Tryz.prog 163 #[.agg ⟨lE b t⟩,.int .i64 i,.int .i64 m,.int .i64 p,fn f cap] w (Dj b (λ c' s' B'=>mA b (Bm i m p K) a.mm c' s' B') a B D w):=by
 have ni:=Df ok i
 have np:=Df ok p
 refine enter Tryz.func163 Tryz.ntmps163 rfl rfl hs ?_
 simp only[cD]
 refine J0 ?_;refine bK (λ x5=>?_);refine bK (λ x9=>?_);refine aJ (λ x10=>?_);refine aH ?_;refine hZ ?_;refine aA ?_;refine aD (Im p ok hm hA hp) (λ x15 h15=>?_);refine bZ ?_;refine aN (jE λ _=>U9 (z:=.int .i64 0) (by kernel_rfl) rfl) (λ x11=>?_);refine J5 ?_;refine aS ?_;refine dZ [(0,[]),(1,[]),(2,[]),(5,[]),(6,[]),(7,[]),(3,[6]),(4,[]),(8,[]),(9,[])] ?_;refine mI ?_;refine gV ?_;refine bN ?_;(refine cI (i:=7) (hq:=(dB (by(repeat (first|exact dC _|(apply cH;focus ((conv=>{lhs;whnf});try exact rfl))));done))) (h:=?_));refine bB (i:=3) (hq:=(Im i ok hm hA hi)) (h:=λ x20 h20=>?_);refine kZ ?_;refine cL (i:=8) (hq:=(cV (hc:=λ w1 hw=>yT _ _ _ _ _ w1))) (h:=λ x25=>?_);refine kF (i:=9) (hq:=(jE λ _=>bO rf cX rf (dK _) eP rf kL)) (h:=λ _=>?_);refine eJ ?_
 refine aY Tryz.results163 (λ w hw=>?_)
 refine⟨(yF (aB (bS a.L) i).nd.main m (aB (bS a.L) p).nd.bJ _ _,[bx x11 [.int .i64 (aB (bS a.L) p).nd.bJ],bx x9 [fn f cap]],a),rfl,⟨?_,ok,(AS.iP.refl a).more (λ _ h=>(List.not_mem_nil h).elim)⟩,?_⟩
 ·refine⟨hi,hp,?_⟩
  rw[kU,kU]
  refine⟨rfl,qJ hm ni.main,np.bJ,_,_,rfl,by kernel_rfl,λ v s1 l=>?_⟩
  show zC b _ _ _ _ s1 λ c' s' B'=>p<=s1.nodes.length/\mA b (K (bH s1.nodes p).bJ) s1 c' s' B'
  rw[l.nd hp,kU]
  have hlen:=l.len
  exact(Zn (hK.le l) (by have h2:(aB (bS a.L) p).nd.bJ<=a.mm.nodes.length:=np.bJ;omega) v).more (λ _ h=>h) λ c m C C2 hC h=>⟨by omega,h.more hC⟩
 ·exact((hw.dF (.tail (.tail .head))).dF .head).rI
theorem Ck{K:Int->Tr}{v s:Int}(ht:t.root<=9223372036854775807)(hK:D6 b K a.mm f cap B)(hv:v<=a.mm.nodes.length)(ok:a.Ok)(hm:a.mm.Small)(hA:∀f∈aM a.L,f∈A)(hB:∀x∈B,x∈A)(hs:SF w D [(b,fI a)] A [] (fQ a) w) :
  Calls Tryz.prog 141 #[.agg ⟨lE b t⟩,.int .i64 v,.int .i64 s,fn f cap] w (Dj b (λ c' s' B'=>mA b (uF t v s K) a.mm c' s' B') a B D w):=by
 have nv:=Df ok v
 refine enter Tryz.func141 Tryz.ntmps141 rfl rfl hs ?_
 simp only[cD]
 refine J0 ?_;refine bK (λ x4=>?_);refine bK (λ x7=>?_);refine aJ (λ x8=>?_);refine aH ?_;refine hZ ?_;refine aA ?_;refine aD (Im v ok hm hA hv) (λ x14 h14=>?_);refine aJ (λ x9=>?_);refine J5 ?_;refine hZ ?_;refine aN (jE λ _=>U9 (z:=.int .i64 0) (by kernel_rfl) rfl) (λ x10=>?_);refine J5 ?_;refine kX ?_;refine sH ?_
 refine aZ (λ c18=>?_) (λ c18=>?_)
 ·refine dI ?_;refine J3 ?_;refine J5 ?_;refine J0 ?_;refine aF ?_;refine J3 ?_;refine aA ?_;refine bP ?_;(refine aC (dB (by(repeat (first|exact dC _|(apply cH;focus ((conv=>{lhs;whnf});try exact rfl))));done)) rfl ?_);refine aN (cV (hc:=λ w1 hw=>yT _ _ _ _ _ w1)) (λ x27=>?_);refine cO (jE λ _=>bO rf cX rf (dK _) eP rf kL) (λ _=>?_);refine aH ?_
  refine aY Tryz.results141 (λ w hw=>?_)
  refine⟨(yF t.root v (aB (bS a.L) v).nd.new _ _,[bx x10 [.int .i64 (aB (bS a.L) v).nd.new],bx x7 [fn f cap]],a),rfl,⟨?_,ok,(AS.iP.refl a).more (λ _ h=>(List.not_mem_nil h).elim)⟩,?_⟩
  ·refine⟨hv,?_⟩
   rw[kU]
   have e:(if s=1 then(aB (bS a.L) v).c.new else(aB (bS a.L) v).c.bJ)=(aB (bS a.L) v).nd.new:=by exact if_pos (by omega)
   dsimp only
   rw[e]
   refine⟨rfl,ht,nv.new,_,_,rfl,by kernel_rfl,λ o s1 l=>?_⟩
   have hlen:=l.len
   exact Av (hK.le l) (by have h2:(aB (bS a.L) v).nd.new<=a.mm.nodes.length:=nv.new;omega) o
  ·exact((hw.dF (.tail (.tail (.tail .head)))).dF .head).rI
 ·refine aX ?_;refine J0 ?_;refine aF ?_;refine J3 ?_;refine aA ?_;refine bP ?_;(refine aC (dB (by(repeat (first|exact dC _|(apply cH;focus ((conv=>{lhs;whnf});try exact rfl))));done)) rfl ?_);refine aN (cV (hc:=λ w1 hw=>yT _ _ _ _ _ w1)) (λ x27=>?_);refine cO (jE λ _=>bO rf cX rf (dK _) eP rf kL) (λ _=>?_);refine aH ?_
  refine aY Tryz.results141 (λ w hw=>?_)
  refine⟨(yF t.root v (aB (bS a.L) v).nd.bJ _ _,[bx x10 [.int .i64 (aB (bS a.L) v).nd.bJ],bx x7 [fn f cap]],a),rfl,⟨?_,ok,(AS.iP.refl a).more (λ _ h=>(List.not_mem_nil h).elim)⟩,?_⟩
  ·refine⟨hv,?_⟩
   rw[kU]
   have e:(if s=1 then(aB (bS a.L) v).c.new else(aB (bS a.L) v).c.bJ)=(aB (bS a.L) v).nd.bJ:=by exact if_neg (by omega)
   dsimp only
   rw[e]
   refine⟨rfl,ht,nv.bJ,_,_,rfl,by kernel_rfl,λ o s1 l=>?_⟩
   have hlen:=l.len
   exact Av (hK.le l) (by have h2:(aB (bS a.L) v).nd.bJ<=a.mm.nodes.length:=nv.bJ;omega) o
  ·exact((hw.dF (.tail (.tail (.tail .head)))).dF .head).rI
theorem I1{K:Bool->Tr}{prev p:Int}{c:Bool}(hK:Ww b K a.mm f cap B)(hpr:prev<=a.mm.cs.length)(hp:p<=a.mm.nodes.length)(ok:a.Ok)(hm:a.mm.Small)(hA:∀f∈aM a.L,f∈A)(hB:∀x∈B,x∈A)(hs:SF w D [(b,fI a)] A [] (fQ a) w) :
  Calls Tryz.prog 166 #[.agg ⟨lE b t⟩,.int .i64 prev,.int .i64 p,.bool c,fn f cap] w (Dj b (λ c' s' B'=>mA b (jo prev p c K) a.mm c' s' B') a B D w):=by
 refine enter Tryz.func166 Tryz.ntmps166 rfl rfl hs ?_
 simp only[cD]
 refine J0 ?_;refine bK (λ x5=>?_);refine aJ (λ x10=>?_);refine aH ?_;refine kX ?_;refine aH ?_
 refine aZ (λ c12=>?_) (λ c12=>?_)
 ·refine jA ?_;refine aA ?_;refine aN (cV (hc:=λ w1 hw=>yT _ _ _ _ _ w1)) (λ x16=>?_);refine cO (jE λ _=>bO rf cX rf (dK _) eP rf kL) (λ _=>?_);refine aH ?_
  refine aY Tryz.results166 (λ w hw=>?_)
  refine⟨(yF prev p 0 f cap,[],a),rfl,⟨?_,ok,AS.iP.refl a⟩,hw.rI⟩
  unfold jo
  rw[if_pos (by assumption)]
  exact⟨rfl,qJ hm hpr,bI _,f,cap,rfl,hK.1,λ v s1 l=>hK.2 v s1 l⟩
 ·refine kK ?_;refine dZ [(0,[]),(1,[]),(2,[]),(4,[]),(5,[]),(3,[1]),(6,[]),(7,[])] ?_;refine mI ?_;refine aT ?_;refine cI (i:=4) (hq:=(Nq rf)) (h:=?_);refine aT ?_;refine cL (i:=3) (hq:=(cV (hc:=λ w1 hw=>jg p w1))) (h:=λ x20=>?_);refine bB (i:=6) (hq:=(cMI (V:=λ _:AX=>.int .i64 ((a.mm.nodes.length+1:Nat):Int)) (hs:=[(b,fI a)]) (os:=fQ a) (A0:=[(none,aG []),(none,cR [])]) (hs':=λ x=>[(b,fI (a.al ({Nd.zero with kind:=7,bJ:=p}:Nd) [] [] 0 x))]) (os':=λ x=>fQ (a.al ({Nd.zero with kind:=7,bJ:=p}:Nd) [] [] 0 x)) (Fc:=λ x=>(nX ({Nd.zero with kind:=7,bJ:=p}:Nd) [] [] a.cs.length x).fr) (hm:=λ w=>W2 _ _ _ w) (hc:=λ w1 hw=>Hq ok hm 0 rfl rfl (by simp) (by simp) (λ f hf=>hf) hw))) (h:=λ x23 h23=>?_);refine J7 ?_;refine jA ?_;refine pD ?_;refine aN (cV (hc:=λ w1 hw=>yT _ _ _ _ _ w1)) (λ x28=>?_);refine cO (jE λ _=>bO rf cX rf (dK _) eP rf kL) (λ _=>?_);refine aH ?_
  refine aY Tryz.results166 (λ w hw=>?_)
  refine⟨(yF prev p ((a.mm.nodes.length+1:Nat):Int) f cap,(nX ({Nd.zero with kind:=7,bJ:=p}:Nd) [] [] a.cs.length x23).fr,a.al ({Nd.zero with kind:=7,bJ:=p}:Nd) [] [] 0 x23),rfl,⟨?_,ok.al x23 (by simp) (by simp) ⟨?_,bI _,bI _,(λ r hr=>nomatch hr),bI _,bI _,bI _,⟨0,rfl,by decide⟩,⟨0,rfl,by decide⟩⟩ (by omega),AS.iP.al a _ _ _ _ x23⟩,hw.rI⟩
  ·unfold jo
   rw[if_neg (by simp_all)]
   have hl:=Uu a.mm (tT p) 0
   refine⟨Au a _ _ _ _ x23,?_,?_,f,cap,rfl,hK.1,λ v s1 l=>(hK.2 v s1 (hl.trans l)).more (λ x hx=>List.mem_append_right _ hx) λ _ _ _ _ hC h=>h.more hC⟩
   ·have:=hl.cl;have:=hm.2;omega
   ·show _<=(((a.mm.nodes++[_]).length:Nat):Int)
    rw[List.length_append]
    simp
  ·show p<=_
   exact hp
end
end

/- gcas: root. -/
section
open Go Go.RowKit Go.Ct
section
variable{D:List Nat}{A B:Fr}{a:AS}{b:Nat}{w:World}{f:FuncId}{cap:List Value}{t:fG}
theorem Zk{K:Int->Tr}{v x:Int}{s:Mm}{b1 b2 b3:Nat}(ht:t.root<=9223372036854775807)(hK:D6 b K s f cap B)(hv:v<=s.nodes.length):vB b 206 [pt b1,pt b2,pt b3] [.int .i64 x] (bx b1 (lE b t)::bx b2 [iv v]::bx b3 [fn f cap]::B) s (uF t v x K):=by
 intro a D A w em ok hm hA hB hw0
 subst em
 have hK2:=hK.more (B2:=(bx b1 (lE b t)::bx b2 [iv v]::bx b3 [fn f cap]::B)) (λ x hx=>by simp[hx])
 refine enter Tryz.func206 Tryz.ntmps206 rfl rfl hw0 ?_
 simp only[cD]
 refine J0 ?_;refine aJ (λ x5=>?_);refine aH ?_;refine J0 ?_;refine aC (gm b1 (lE b t) 0 3 hB rfl rfl) rfl ?_;refine aC (qE b2 [.int .i64 v] 0 hB rfl) rfl ?_;refine aA ?_;refine aC (qE b3 [fn f cap] 0 hB rfl) rfl ?_;refine aD (H2 (λ w1 hw=>Ck ht hK2 hv ok hm hA hB hw)) (λ x10 h10=>?_);refine cO (jE λ _=>bO rf cX rf (dK _) eP rf kL) (λ _=>?_);refine aH ?_
 refine aY Tryz.results206 (λ w hw=>?_)
 exact⟨x10,rfl,h10,hw.rN⟩
theorem Zo{K:Int->Tr}{v:Int}{s:Mm}{b0 b1 b2 b3:Nat}{nd:Nd}(ht:t.root<=9223372036854775807)(hK:D6 b K s f cap B)(hv:v<=s.nodes.length)(hd:nd.status<=9223372036854775807)(o:Bool):vB b 205 [pt b0,pt b1,pt b2,pt b3] [.bool o] (bx b0 (nd.cells:List Value)::bx b1 (lE b t)::bx b2 [iv v]::bx b3 [fn f cap]::B) s (.load nd.status λ s=>uF t v s K):=by
 intro a D A w em ok hm hA hB hw0
 subst em
 have hK2:=hK.more (B2:=(bx b0 (nd.cells:List Value)::bx b1 (lE b t)::bx b2 [iv v]::bx b3 [fn f cap]::B)) (λ x hx=>by simp[hx])
 refine enter Tryz.func205 Tryz.ntmps205 rfl rfl hw0 ?_
 simp only[cD]
 refine J0 ?_;refine aJ (λ x6=>?_);refine aH ?_;refine J0 ?_;refine aF ?_;refine aC (qE b0 (nd.cells:List Value) 13 hB rfl) rfl ?_;(refine aC (dB (by(repeat (first|exact dC _|(apply cH;focus ((conv=>{lhs;whnf});try exact rfl))));done)) rfl ?_);refine aN (cV (hc:=λ w1 hw=>wQ _ _ _ w1)) (λ x10=>?_);refine cO (jE λ _=>bO rf cX rf (dK _) eP rf kL) (λ _=>?_);refine aH ?_
 refine aY Tryz.results205 (λ w hw=>?_)
 exact⟨(sU nd.status _ _,[],a),rfl,⟨⟨rfl,hd,_,_,rfl,by kernel_rfl,λ x s1 l hx=>(Zk (b1:=b1) (b2:=b2) (b3:=b3) ht (hK.le l) (by have:=l.len;omega)).mr (λ y hy=>List.mem_cons_of_mem _ hy)⟩,ok,AS.iP.refl a⟩,hw.rI⟩
theorem ab{K:Int->Tr}{v x:Int}{s:Mm}{b0 b1 b2 b3:Nat}{nd:Nd}(ht:t.root<=9223372036854775807)(hK:D6 b K s f cap B)(hv:v<=s.nodes.length)(hd:nd.status<=9223372036854775807)(hn:(bH s.nodes v).status=nd.status):vB b 204 [pt b1,pt b2,pt b3,pt b0] [.int .i64 x] (bx b1 (lE b t)::bx b2 [iv v]::bx b3 [fn f cap]::bx b0 (nd.cells:List Value)::B) s (if x=0 then .node v λ n=>.jP n.status 0 2 λ _=>.node v λ n=>.load n.status λ s=>uF t v s K else uF t v x K):=by
 intro a D A w em ok hm hA hB hw0
 subst em
 have hK2:=hK.more (B2:=(bx b1 (lE b t)::bx b2 [iv v]::bx b3 [fn f cap]::bx b0 (nd.cells:List Value)::B)) (λ x hx=>by simp[hx])
 refine enter Tryz.func204 Tryz.ntmps204 rfl rfl hw0 ?_
 simp only[cD]
 refine J0 ?_;refine aJ (λ x6=>?_);refine aH ?_;refine kX ?_;refine lU ?_;refine aH ?_
 refine aZ (λ c8=>?_) (λ c8=>?_)
 ·refine J0 ?_;refine aC (gm b1 (lE b t) 0 3 hB rfl rfl) rfl ?_;refine aC (qE b2 [.int .i64 v] 0 hB rfl) rfl ?_;refine aA ?_;refine aC (qE b3 [fn f cap] 0 hB rfl) rfl ?_;refine aD (H2 (λ w1 hw=>Ck ht hK2 hv ok hm hA hB hw)) (λ x13 h13=>?_);refine cO (jE λ _=>bO rf cX rf (dK _) eP rf kL) (λ _=>?_);refine aH ?_
  refine aY Tryz.results204 (λ w hw=>?_)
  refine⟨x13,rfl,⟨?_,h13.2⟩,hw.rN⟩
  rw[if_neg (by omega)]
  exact h13.1
 ·refine aX ?_;refine J0 ?_;refine aF ?_;refine aC (qE b0 (nd.cells:List Value) 13 hB rfl) rfl ?_;(refine aC (dB (by(repeat (first|exact dC _|(apply cH;focus ((conv=>{lhs;whnf});try exact rfl))));done)) rfl ?_);refine aN (cV (hc:=λ w1 hw=>yT _ _ _ _ _ w1)) (λ x17=>?_);refine cO (jE λ _=>bO rf cX rf (dK _) eP rf kL) (λ _=>?_);refine aH ?_
  refine aY Tryz.results204 (λ w hw=>?_)
  refine⟨(yF nd.status 0 2 _ _,[],a),rfl,⟨?_,ok,AS.iP.refl a⟩,hw.rI⟩
  rw[if_pos (by omega)]
  refine⟨hv,?_⟩
  dsimp only
  rw[hn]
  refine⟨rfl,hd,by have:=ok.mo.two;omega,_,_,rfl,by kernel_rfl,λ o s1 l=>?_⟩
  have hlen:=l.len
  show zC b _ _ _ _ s1 λ c' s' B'=>v<=s1.nodes.length/\mA b (.load (bH s1.nodes v).status λ s=>uF t v s K) s1 c' s' B'
  rw[l.nd hv,hn]
  exact(Zo (b0:=b0) (b1:=b1) (b2:=b2) (b3:=b3) (nd:=nd) ht (hK.le l) (by omega) hd o).more (λ y hy=>by
  simp only[List.mem_cons,List.append_eq,List.nil_append] at hy ⊢
  rcases hy with h|h|h|h|h<;>simp[h]) λ c m C C2 hC h=>⟨by omega,h.more hC⟩
theorem iu{K:Int->Tr}{v:Int}{s:Mm}{b1 b3:Nat}(ht:t.root<=9223372036854775807)(hK:D6 b K s f cap B)(hv:v<=s.nodes.length):vB b 203 [pt b1,pt b3] [.int .i64 v] (bx b1 (lE b t)::bx b3 [fn f cap]::B) s (.node v λ n=>if n.kind=2 then K v else .node v λ n=>.load n.status λ s=>if s=0 then .node v λ n=>.jP n.status 0 2 λ _=>.node v λ n=>.load n.status λ s=>uF t v s K else uF t v s K):=by
 intro a D A w em ok hm hA hB hw0
 subst em
 have hK2:=hK.more (B2:=(bx b1 (lE b t)::bx b3 [fn f cap]::B)) (λ x hx=>by simp[hx])
 have nv:=Df ok v
 refine enter Tryz.func203 Tryz.ntmps203 rfl rfl hw0 ?_
 simp only[cD]
 refine J0 ?_;refine bK (λ x3=>?_);refine aJ (λ x4=>?_);refine aH ?_;refine J0 ?_;refine aF ?_;refine aC (qE b1 (lE b t) 0 hB rfl) rfl ?_;refine bP ?_;refine aD (Im v ok hm hA hv) (λ x9 h9=>?_);refine aJ (λ x5=>?_);refine J5 ?_;refine Cx ?_;refine sH ?_
 refine aZ (λ c12=>?_) (λ c12=>?_)
 ·refine J0 ?_;refine aC (qE b3 [fn f cap] 0 hB rfl) rfl ?_;refine bP ?_;refine aD (Rm hK2.1 (hK2.2 v a.mm (Mm.Le.refl _) hv) ok hm hA hB) (λ x15 h15=>?_);refine cO (jE λ _=>bO rf cX rf (dK _) eP rf kL) (λ _=>?_);refine aH ?_
  refine aY Tryz.results203 (λ w hw=>?_)
  refine⟨x15,rfl,⟨⟨hv,?_⟩,h15.2⟩,hw.rN⟩
  rw[kU]
  dsimp only
  rw[if_pos (by assumption)]
  exact h15.1
 ·refine aX ?_;refine hZ ?_;(refine aC (dB (by(repeat (first|exact dC _|(apply cH;focus ((conv=>{lhs;whnf});try exact rfl))));done)) rfl ?_);refine aN (cV (hc:=λ w1 hw=>wQ _ _ _ w1)) (λ x19=>?_);refine cO (jE λ _=>bO rf cX rf (dK _) eP rf kL) (λ _=>?_);refine aH ?_
  refine aY Tryz.results203 (λ w hw=>?_)
  refine⟨(sU (aB (bS a.L) v).nd.status _ _,[bx x5 (((aB (bS a.L) v).at_ x9.1 x9.2).nd.cells:List Value),bx x3 [iv v]],a),rfl,⟨⟨hv,?_⟩,ok,(AS.iP.refl a).more (λ _ h=>(List.not_mem_nil h).elim)⟩,?_⟩
  ·rw[kU]
   dsimp only
   rw[if_neg (by assumption)]
   refine⟨hv,?_⟩
   rw[kU]
   refine⟨rfl,qJ hm nv.status,_,_,rfl,by kernel_rfl,λ x s1 l hx=>?_⟩
   have hlen:=l.len
   exact(ab (b0:=x5) (b1:=b1) (b2:=x3) (b3:=b3) (nd:=((aB (bS a.L) v).at_ x9.1 x9.2).nd) ht (hK.le l) (by omega) (qJ hm nv.status) (by rw[l.nd hv,kU];rfl)).mr (λ y hy=>by
   simp only[List.mem_cons,List.append_eq,List.nil_append,List.mem_append,List.not_mem_nil,or_false] at hy ⊢
   rcases hy with h|h|h|h|h<;>simp[h])
  ·exact((hw.dF (.tail (.tail .head))).dF .head).rI
theorem mu{K:Int->Tr}(ht:t.root<=9223372036854775807)(hK:D6 b K a.mm f cap B)(ok:a.Ok)(hm:a.mm.Small)(hA:∀f∈aM a.L,f∈A)(hB:∀x∈B,x∈A)(hs:SF w D [(b,fI a)] A [] (fQ a) w) :
  Calls Tryz.prog 167 #[.agg ⟨lE b t⟩,fn f cap] w (Dj b (λ c' s' B'=>mA b (yK t K) a.mm c' s' B') a B D w):=by
 refine enter Tryz.func167 Tryz.ntmps167 rfl rfl hs ?_
 simp only[cD]
 refine J0 ?_;refine bK (λ x2=>?_);refine bK (λ x3=>?_);refine aJ (λ x4=>?_);refine aH ?_;refine J0 ?_;refine aF ?_;refine J3 ?_;(refine aC (dB (by(repeat (first|exact dC _|(apply cH;focus ((conv=>{lhs;whnf});try exact rfl))));done)) rfl ?_);refine aN (cV (hc:=λ w1 hw=>wQ _ _ _ w1)) (λ x9=>?_);refine cO (jE λ _=>bO rf cX rf (dK _) eP rf kL) (λ _=>?_);refine aH ?_
 refine aY Tryz.results167 (λ w hw=>?_)
 refine⟨(sU t.root _ _,[bx x2 (lE b t),bx x3 [fn f cap]],a),rfl,⟨⟨rfl,ht,_,_,rfl,by kernel_rfl,λ v s1 l hv=>iu (b1:=x2) (b3:=x3) ht (hK.le l) hv⟩,ok,(AS.iP.refl a).more (λ _ h=>(List.not_mem_nil h).elim)⟩,?_⟩
 exact((hw.dF (.tail .head)).dF (.tail .head)).rI
end
end

end Go.Proofs.YtbajmaoegmbfgaaGreat

/- gcas: back, Complete, decide. -/
import Derived.Test.YtbajmaoegmbfgaaGreatGTkd

set_option linter.unusedSimpArgs false
set_option linter.unusedVariables false
namespace Go.Proofs.YtbajmaoegmbfgaaGreat
section
open Go Go.RowKit Go.Ct
abbrev lT(b:Nat)(t:fL):List Value:=[.iface 42 (.pointer (some ⟨b,0,none⟩)),.int .i64 t.root,.bool t.ro]
def av(prev p:Int)(c:Bool)(K:Bool->Tr):Tr:=if c=true then .jN prev p 0 K else .alloc (yK p) 0 λ f=>.jN prev p f K
theorem nK{a:AS}(hm:a.mm.Small){x:Int}(h:x<=a.mm.cs.length):x<=9223372036854775807:=by have:=hm.2;omega
theorem Ay{a:AS}(ok:a.Ok)(r:Int):mK a.mm.nodes.length a.mm.cs.length (aD (cB a.L) r).c:=by rw[<- fW];exact ok.mo.at r
section
variable{D:List Nat}{A B:Fr}{a:AS}{b:Nat}{w:World}{f:FuncId}{cap:List Value}{t:fL}
theorem mh{K:Int->Tr}{v:Int}{s:Mm}{b2 b3:Nat}(hK:zS b K s f cap B)(hv:v<=s.nodes.length)(o:Bool):qL b 201 [pt b2,pt b3] [.bool o] (bx b3 [.int .i64 v]::bx b2 [fn f cap]::B) s (K v):=by
 intro a D A w em ok hm hA hB hw0
 subst em
 have hK2:=hK.more (B2:=(bx b3 [.int .i64 v]::bx b2 [fn f cap]::B)) (λ x hx=>by simp[hx])
 refine enter Tryz.func201 Tryz.ntmps201 rfl rfl hw0 ?_
 simp only[bY]
 refine J0 ?_;refine aI (λ x4=>?_);refine aH ?_;refine J0 ?_;refine aB (kY b2 [fn f cap] 0 hB rfl) rfl ?_;refine aB (kY b3 [.int .i64 v] 0 hB rfl) rfl ?_;refine aC (Td hK.1 (hK2.2 v a.mm (Mm.Le.refl _) hv) ok hm hA hB) (λ x7 h7=>?_);refine bS (fS λ _=>aS rf cL rf (bX _) dJ rf hJ) (λ _=>?_);refine aH ?_
 refine bD Tryz.results201 (λ w hw=>?_)
 exact⟨x7,rfl,h7,hw.rN⟩
theorem A3{K:Int->Tr}{v:Int}{s:Mm}{b2 b3:Nat}(hK:zS b K s f cap B)(hv:v<=s.nodes.length)(o:Bool):qL b 174 [pt b2,pt b3] [.bool o] (bx b3 [.int .i64 v]::bx b2 [fn f cap]::B) s (K v):=by
 intro a D A w em ok hm hA hB hw0
 subst em
 have hK2:=hK.more (B2:=(bx b3 [.int .i64 v]::bx b2 [fn f cap]::B)) (λ x hx=>by simp[hx])
 refine enter Tryz.func174 Tryz.ntmps174 rfl rfl hw0 ?_
 simp only[bY]
 refine J0 ?_;refine aI (λ x4=>?_);refine aH ?_;refine J0 ?_;refine aB (kY b2 [fn f cap] 0 hB rfl) rfl ?_;refine aB (kY b3 [.int .i64 v] 0 hB rfl) rfl ?_;refine aC (Td hK.1 (hK2.2 v a.mm (Mm.Le.refl _) hv) ok hm hA hB) (λ x7 h7=>?_);refine bS (fS λ _=>aS rf cL rf (bX _) dJ rf hJ) (λ _=>?_);refine aH ?_
 refine bD Tryz.results174 (λ w hw=>?_)
 exact⟨x7,rfl,h7,hw.rN⟩
theorem T7{K:Int->Tr}{i m p:Int}(hK:zS b K a.mm f cap B)(hi:i<=a.mm.nodes.length)(hmm:m<=a.mm.nodes.length)(hp:p<=a.mm.nodes.length)(ok:a.Ok)(hm:a.mm.Small)(hA:∀f∈aM a.L,f∈A)(hB:∀x∈B,x∈A)(hs:SF w D [(b,eX a)] A [] (fU a) w) :
  Calls Tryz.prog 163 #[.agg ⟨lT b t⟩,.int .i64 i,.int .i64 m,.int .i64 p,fn f cap] w (zK b (λ c' s' B'=>jB b (H5 i m p K) a.mm c' s' B') a B D w):=by
 have ni:=Ay ok i
 have np:=Ay ok p
 refine enter Tryz.func163 Tryz.ntmps163 rfl rfl hs ?_
 simp only[bY]
 refine J0 ?_;refine bO (λ x5=>?_);refine bO (λ x9=>?_);refine aI (λ x10=>?_);refine aH ?_;refine gZ ?_;refine aA ?_;refine aC (B9 p ok hm hA hp) (λ x15 h15=>?_);refine cY ?_;refine aR (fS λ _=>Gw (z:=.int .i64 0) (by kernel_rfl) rfl) (λ x11=>?_);refine J5 ?_;refine aV ?_;refine dX [(0,[]),(1,[]),(2,[]),(5,[]),(6,[]),(7,[]),(3,[6]),(4,[]),(8,[]),(9,[])] ?_;refine lV ?_;refine hZ ?_;refine bP ?_;(refine cE (i:=7) (hq:=(cA (by(repeat (first|exact cD _|(apply bU;focus ((conv=>{lhs;whnf});try exact rfl))));done))) (h:=?_));refine bC (i:=3) (hq:=(B9 i ok hm hA hi)) (h:=λ x20 h20=>?_);refine xA ?_;refine cN (i:=8) (hq:=(cV (hc:=λ w1 hw=>uV _ _ _ _ _ w1))) (h:=λ x25=>?_);refine lG (i:=9) (hq:=(fS λ _=>aS rf cL rf (bX _) dJ rf hJ)) (h:=λ _=>?_);refine eC ?_
 refine bD Tryz.results163 (λ w hw=>?_)
 refine⟨(vY (aD (cB a.L) i).nd.main m (aD (cB a.L) p).nd.bN _ _,[bx x11 [.int .i64 (aD (cB a.L) p).nd.bN],bx x9 [fn f cap]],a),rfl,⟨?_,ok,(AS.hU.refl a).more (λ _ h=>(List.not_mem_nil h).elim)⟩,?_⟩
 ·refine⟨hi,hp,?_⟩
  rw[fW,fW]
  refine⟨rfl,nK hm ni.main,np.bN,_,_,rfl,by kernel_rfl,λ v s1 l=>?_⟩
  show Ce b _ _ _ _ s1 λ c' s' B'=>p<=s1.nodes.length/\jB b (K (eA s1.nodes p).bN) s1 c' s' B'
  rw[l.nd hp,fW]
  have hlen:=l.len
  exact(mh (hK.le l) (by have h2:(aD (cB a.L) p).nd.bN<=a.mm.nodes.length:=np.bN;omega) v).more (λ _ h=>h) λ c m C C2 hC h=>⟨by omega,h.more hC⟩
 ·exact((hw.cW (.tail (.tail .head))).cW .head).rI
theorem qR{K:Int->Tr}{v s:Int}(ht:t.root<=9223372036854775807)(hK:zS b K a.mm f cap B)(hv:v<=a.mm.nodes.length)(ok:a.Ok)(hm:a.mm.Small)(hA:∀f∈aM a.L,f∈A)(hB:∀x∈B,x∈A)(hs:SF w D [(b,eX a)] A [] (fU a) w) :
  Calls Tryz.prog 141 #[.agg ⟨lT b t⟩,.int .i64 v,.int .i64 s,fn f cap] w (zK b (λ c' s' B'=>jB b (oG t v s K) a.mm c' s' B') a B D w):=by
 have nv:=Ay ok v
 refine enter Tryz.func141 Tryz.ntmps141 rfl rfl hs ?_
 simp only[bY]
 refine J0 ?_;refine bO (λ x4=>?_);refine bO (λ x7=>?_);refine aI (λ x8=>?_);refine aH ?_;refine gZ ?_;refine aA ?_;refine aC (B9 v ok hm hA hv) (λ x14 h14=>?_);refine aI (λ x9=>?_);refine J5 ?_;refine gZ ?_;refine aR (fS λ _=>Gw (z:=.int .i64 0) (by kernel_rfl) rfl) (λ x10=>?_);refine J5 ?_;refine kM ?_;refine uI ?_
 refine bE (λ c18=>?_) (λ c18=>?_)
 ·refine dW ?_;refine J3 ?_;refine J5 ?_;refine J0 ?_;refine aE ?_;refine J3 ?_;refine aA ?_;refine bR ?_;(refine aB (cA (by(repeat (first|exact cD _|(apply bU;focus ((conv=>{lhs;whnf});try exact rfl))));done)) rfl ?_);refine aR (cV (hc:=λ w1 hw=>uV _ _ _ _ _ w1)) (λ x27=>?_);refine bS (fS λ _=>aS rf cL rf (bX _) dJ rf hJ) (λ _=>?_);refine aH ?_
  refine bD Tryz.results141 (λ w hw=>?_)
  refine⟨(vY t.root v (aD (cB a.L) v).nd.new _ _,[bx x10 [.int .i64 (aD (cB a.L) v).nd.new],bx x7 [fn f cap]],a),rfl,⟨?_,ok,(AS.hU.refl a).more (λ _ h=>(List.not_mem_nil h).elim)⟩,?_⟩
  ·refine⟨hv,?_⟩
   rw[fW]
   have e:(if s=1 then(aD (cB a.L) v).c.new else(aD (cB a.L) v).c.bN)=(aD (cB a.L) v).nd.new:=by exact if_pos (by omega)
   dsimp only
   rw[e]
   refine⟨rfl,ht,nv.new,_,_,rfl,by kernel_rfl,λ o s1 l=>?_⟩
   have hlen:=l.len
   exact A3 (hK.le l) (by have h2:(aD (cB a.L) v).nd.new<=a.mm.nodes.length:=nv.new;omega) o
  ·exact((hw.cW (.tail (.tail (.tail .head)))).cW .head).rI
 ·refine bB ?_;refine J0 ?_;refine aE ?_;refine J3 ?_;refine aA ?_;refine bR ?_;(refine aB (cA (by(repeat (first|exact cD _|(apply bU;focus ((conv=>{lhs;whnf});try exact rfl))));done)) rfl ?_);refine aR (cV (hc:=λ w1 hw=>uV _ _ _ _ _ w1)) (λ x27=>?_);refine bS (fS λ _=>aS rf cL rf (bX _) dJ rf hJ) (λ _=>?_);refine aH ?_
  refine bD Tryz.results141 (λ w hw=>?_)
  refine⟨(vY t.root v (aD (cB a.L) v).nd.bN _ _,[bx x10 [.int .i64 (aD (cB a.L) v).nd.bN],bx x7 [fn f cap]],a),rfl,⟨?_,ok,(AS.hU.refl a).more (λ _ h=>(List.not_mem_nil h).elim)⟩,?_⟩
  ·refine⟨hv,?_⟩
   rw[fW]
   have e:(if s=1 then(aD (cB a.L) v).c.new else(aD (cB a.L) v).c.bN)=(aD (cB a.L) v).nd.bN:=by exact if_neg (by omega)
   dsimp only
   rw[e]
   refine⟨rfl,ht,nv.bN,_,_,rfl,by kernel_rfl,λ o s1 l=>?_⟩
   have hlen:=l.len
   exact A3 (hK.le l) (by have h2:(aD (cB a.L) v).nd.bN<=a.mm.nodes.length:=nv.bN;omega) o
  ·exact((hw.cW (.tail (.tail (.tail .head)))).cW .head).rI
theorem Ko{K:Bool->Tr}{prev p:Int}{c:Bool}(hK:q8 b K a.mm f cap B)(hpr:prev<=a.mm.cs.length)(hp:p<=a.mm.nodes.length)(ok:a.Ok)(hm:a.mm.Small)(hA:∀f∈aM a.L,f∈A)(hB:∀x∈B,x∈A)(hs:SF w D [(b,eX a)] A [] (fU a) w) :
  Calls Tryz.prog 166 #[.agg ⟨lT b t⟩,.int .i64 prev,.int .i64 p,.bool c,fn f cap] w (zK b (λ c' s' B'=>jB b (av prev p c K) a.mm c' s' B') a B D w):=by
 refine enter Tryz.func166 Tryz.ntmps166 rfl rfl hs ?_
 simp only[bY]
 refine J0 ?_;refine bO (λ x5=>?_);refine aI (λ x10=>?_);refine aH ?_;refine kM ?_;refine aH ?_
 refine bE (λ c12=>?_) (λ c12=>?_)
 ·refine iO ?_;refine aA ?_;refine aR (cV (hc:=λ w1 hw=>uV _ _ _ _ _ w1)) (λ x16=>?_);refine bS (fS λ _=>aS rf cL rf (bX _) dJ rf hJ) (λ _=>?_);refine aH ?_
  refine bD Tryz.results166 (λ w hw=>?_)
  refine⟨(vY prev p 0 f cap,[],a),rfl,⟨?_,ok,AS.hU.refl a⟩,hw.rI⟩
  unfold av
  rw[if_pos (by assumption)]
  exact⟨rfl,nK hm hpr,bH _,f,cap,rfl,hK.1,λ v s1 l=>hK.2 v s1 l⟩
 ·refine lA ?_;refine dX [(0,[]),(1,[]),(2,[]),(4,[]),(5,[]),(3,[1]),(6,[]),(7,[])] ?_;refine lV ?_;refine aP ?_;refine cE (i:=4) (hq:=(P2 rf)) (h:=?_);refine aP ?_;refine cN (i:=3) (hq:=(cV (hc:=λ w1 hw=>b9 p w1))) (h:=λ x20=>?_);refine bC (i:=6) (hq:=(cMI (V:=λ _:AX=>.int .i64 ((a.mm.nodes.length+1:Nat):Int)) (hs:=[(b,eX a)]) (os:=fU a) (A0:=[(none,aG []),(none,dH [])]) (hs':=λ x=>[(b,eX (a.al ({Nd.zero with kind:=7,bN:=p}:Nd) [] [] 0 x))]) (os':=λ x=>fU (a.al ({Nd.zero with kind:=7,bN:=p}:Nd) [] [] 0 x)) (Fc:=λ x=>(oN ({Nd.zero with kind:=7,bN:=p}:Nd) [] [] a.cs.length x).fr) (hm:=λ w=>Yr _ _ _ w) (hc:=λ w1 hw=>jt ok hm 0 rfl rfl (by simp) (by simp) (λ f hf=>hf) hw))) (h:=λ x23 h23=>?_);refine J7 ?_;refine iO ?_;refine pY ?_;refine aR (cV (hc:=λ w1 hw=>uV _ _ _ _ _ w1)) (λ x28=>?_);refine bS (fS λ _=>aS rf cL rf (bX _) dJ rf hJ) (λ _=>?_);refine aH ?_
  refine bD Tryz.results166 (λ w hw=>?_)
  refine⟨(vY prev p ((a.mm.nodes.length+1:Nat):Int) f cap,(oN ({Nd.zero with kind:=7,bN:=p}:Nd) [] [] a.cs.length x23).fr,a.al ({Nd.zero with kind:=7,bN:=p}:Nd) [] [] 0 x23),rfl,⟨?_,ok.al x23 (by simp) (by simp) ⟨?_,bH _,bH _,(λ r hr=>nomatch hr),bH _,bH _,bH _,⟨0,rfl,by decide⟩,⟨0,rfl,by decide⟩⟩ (by omega),AS.hU.al a _ _ _ _ x23⟩,hw.rI⟩
  ·unfold av
   rw[if_neg (by simp_all)]
   have hl:=Ux a.mm (yK p) 0
   refine⟨M3 a _ _ _ _ x23,?_,?_,f,cap,rfl,hK.1,λ v s1 l=>(hK.2 v s1 (hl.trans l)).more (λ x hx=>List.mem_append_right _ hx) λ _ _ _ _ hC h=>h.more hC⟩
   ·have:=hl.cl;have:=hm.2;omega
   ·show _<=(((a.mm.nodes++[_]).length:Nat):Int)
    rw[List.length_append]
    simp
  ·show p<=_
   exact hp
end
end

/- gcas: root. -/
section
open Go Go.RowKit Go.Ct
section
variable{D:List Nat}{A B:Fr}{a:AS}{b:Nat}{w:World}{f:FuncId}{cap:List Value}{t:fL}
theorem gm{K:Int->Tr}{v x:Int}{s:Mm}{b1 b2 b3:Nat}(ht:t.root<=9223372036854775807)(hK:zS b K s f cap B)(hv:v<=s.nodes.length):qL b 206 [pt b1,pt b2,pt b3] [.int .i64 x] (bx b1 (lT b t)::bx b2 [iv v]::bx b3 [fn f cap]::B) s (oG t v x K):=by
 intro a D A w em ok hm hA hB hw0
 subst em
 have hK2:=hK.more (B2:=(bx b1 (lT b t)::bx b2 [iv v]::bx b3 [fn f cap]::B)) (λ x hx=>by simp[hx])
 refine enter Tryz.func206 Tryz.ntmps206 rfl rfl hw0 ?_
 simp only[bY]
 refine J0 ?_;refine aI (λ x5=>?_);refine aH ?_;refine J0 ?_;refine aB (Rf b1 (lT b t) 0 3 hB rfl rfl) rfl ?_;refine aB (kY b2 [.int .i64 v] 0 hB rfl) rfl ?_;refine aA ?_;refine aB (kY b3 [fn f cap] 0 hB rfl) rfl ?_;refine aC (zI (λ w1 hw=>qR ht hK2 hv ok hm hA hB hw)) (λ x10 h10=>?_);refine bS (fS λ _=>aS rf cL rf (bX _) dJ rf hJ) (λ _=>?_);refine aH ?_
 refine bD Tryz.results206 (λ w hw=>?_)
 exact⟨x10,rfl,h10,hw.rN⟩
theorem fp{K:Int->Tr}{v:Int}{s:Mm}{b0 b1 b2 b3:Nat}{nd:Nd}(ht:t.root<=9223372036854775807)(hK:zS b K s f cap B)(hv:v<=s.nodes.length)(hd:nd.status<=9223372036854775807)(o:Bool):qL b 205 [pt b0,pt b1,pt b2,pt b3] [.bool o] (bx b0 (nd.cells:List Value)::bx b1 (lT b t)::bx b2 [iv v]::bx b3 [fn f cap]::B) s (.load nd.status λ s=>oG t v s K):=by
 intro a D A w em ok hm hA hB hw0
 subst em
 have hK2:=hK.more (B2:=(bx b0 (nd.cells:List Value)::bx b1 (lT b t)::bx b2 [iv v]::bx b3 [fn f cap]::B)) (λ x hx=>by simp[hx])
 refine enter Tryz.func205 Tryz.ntmps205 rfl rfl hw0 ?_
 simp only[bY]
 refine J0 ?_;refine aI (λ x6=>?_);refine aH ?_;refine J0 ?_;refine aE ?_;refine aB (kY b0 (nd.cells:List Value) 13 hB rfl) rfl ?_;(refine aB (cA (by(repeat (first|exact cD _|(apply bU;focus ((conv=>{lhs;whnf});try exact rfl))));done)) rfl ?_);refine aR (cV (hc:=λ w1 hw=>nG _ _ _ w1)) (λ x10=>?_);refine bS (fS λ _=>aS rf cL rf (bX _) dJ rf hJ) (λ _=>?_);refine aH ?_
 refine bD Tryz.results205 (λ w hw=>?_)
 exact⟨(mY nd.status _ _,[],a),rfl,⟨⟨rfl,hd,_,_,rfl,by kernel_rfl,λ x s1 l hx=>(gm (b1:=b1) (b2:=b2) (b3:=b3) ht (hK.le l) (by have:=l.len;omega)).mr (λ y hy=>List.mem_cons_of_mem _ hy)⟩,ok,AS.hU.refl a⟩,hw.rI⟩
theorem bb{K:Int->Tr}{v x:Int}{s:Mm}{b0 b1 b2 b3:Nat}{nd:Nd}(ht:t.root<=9223372036854775807)(hK:zS b K s f cap B)(hv:v<=s.nodes.length)(hd:nd.status<=9223372036854775807)(hn:(eA s.nodes v).status=nd.status):qL b 204 [pt b1,pt b2,pt b3,pt b0] [.int .i64 x] (bx b1 (lT b t)::bx b2 [iv v]::bx b3 [fn f cap]::bx b0 (nd.cells:List Value)::B) s (if x=0 then .node v λ n=>.jN n.status 0 2 λ _=>.node v λ n=>.load n.status λ s=>oG t v s K else oG t v x K):=by
 intro a D A w em ok hm hA hB hw0
 subst em
 have hK2:=hK.more (B2:=(bx b1 (lT b t)::bx b2 [iv v]::bx b3 [fn f cap]::bx b0 (nd.cells:List Value)::B)) (λ x hx=>by simp[hx])
 refine enter Tryz.func204 Tryz.ntmps204 rfl rfl hw0 ?_
 simp only[bY]
 refine J0 ?_;refine aI (λ x6=>?_);refine aH ?_;refine kM ?_;refine qA ?_;refine aH ?_
 refine bE (λ c8=>?_) (λ c8=>?_)
 ·refine J0 ?_;refine aB (Rf b1 (lT b t) 0 3 hB rfl rfl) rfl ?_;refine aB (kY b2 [.int .i64 v] 0 hB rfl) rfl ?_;refine aA ?_;refine aB (kY b3 [fn f cap] 0 hB rfl) rfl ?_;refine aC (zI (λ w1 hw=>qR ht hK2 hv ok hm hA hB hw)) (λ x13 h13=>?_);refine bS (fS λ _=>aS rf cL rf (bX _) dJ rf hJ) (λ _=>?_);refine aH ?_
  refine bD Tryz.results204 (λ w hw=>?_)
  refine⟨x13,rfl,⟨?_,h13.2⟩,hw.rN⟩
  rw[if_neg (by omega)]
  exact h13.1
 ·refine bB ?_;refine J0 ?_;refine aE ?_;refine aB (kY b0 (nd.cells:List Value) 13 hB rfl) rfl ?_;(refine aB (cA (by(repeat (first|exact cD _|(apply bU;focus ((conv=>{lhs;whnf});try exact rfl))));done)) rfl ?_);refine aR (cV (hc:=λ w1 hw=>uV _ _ _ _ _ w1)) (λ x17=>?_);refine bS (fS λ _=>aS rf cL rf (bX _) dJ rf hJ) (λ _=>?_);refine aH ?_
  refine bD Tryz.results204 (λ w hw=>?_)
  refine⟨(vY nd.status 0 2 _ _,[],a),rfl,⟨?_,ok,AS.hU.refl a⟩,hw.rI⟩
  rw[if_pos (by omega)]
  refine⟨hv,?_⟩
  dsimp only
  rw[hn]
  refine⟨rfl,hd,by have:=ok.mo.two;omega,_,_,rfl,by kernel_rfl,λ o s1 l=>?_⟩
  have hlen:=l.len
  show Ce b _ _ _ _ s1 λ c' s' B'=>v<=s1.nodes.length/\jB b (.load (eA s1.nodes v).status λ s=>oG t v s K) s1 c' s' B'
  rw[l.nd hv,hn]
  exact(fp (b0:=b0) (b1:=b1) (b2:=b2) (b3:=b3) (nd:=nd) ht (hK.le l) (by omega) hd o).more (λ y hy=>by
  simp only[List.mem_cons,List.append_eq,List.nil_append] at hy ⊢
  rcases hy with h|h|h|h|h<;>simp[h]) λ c m C C2 hC h=>⟨by omega,h.more hC⟩
theorem Z3{K:Int->Tr}{v:Int}{s:Mm}{b1 b3:Nat}(ht:t.root<=9223372036854775807)(hK:zS b K s f cap B)(hv:v<=s.nodes.length):qL b 203 [pt b1,pt b3] [.int .i64 v] (bx b1 (lT b t)::bx b3 [fn f cap]::B) s (.node v λ n=>if n.kind=2 then K v else .node v λ n=>.load n.status λ s=>if s=0 then .node v λ n=>.jN n.status 0 2 λ _=>.node v λ n=>.load n.status λ s=>oG t v s K else oG t v s K):=by
 intro a D A w em ok hm hA hB hw0
 subst em
 have hK2:=hK.more (B2:=(bx b1 (lT b t)::bx b3 [fn f cap]::B)) (λ x hx=>by simp[hx])
 have nv:=Ay ok v
 refine enter Tryz.func203 Tryz.ntmps203 rfl rfl hw0 ?_
 simp only[bY]
 refine J0 ?_;refine bO (λ x3=>?_);refine aI (λ x4=>?_);refine aH ?_;refine J0 ?_;refine aE ?_;refine aB (kY b1 (lT b t) 0 hB rfl) rfl ?_;refine bR ?_;refine aC (B9 v ok hm hA hv) (λ x9 h9=>?_);refine aI (λ x5=>?_);refine J5 ?_;refine Du ?_;refine uI ?_
 refine bE (λ c12=>?_) (λ c12=>?_)
 ·refine J0 ?_;refine aB (kY b3 [fn f cap] 0 hB rfl) rfl ?_;refine bR ?_;refine aC (Td hK2.1 (hK2.2 v a.mm (Mm.Le.refl _) hv) ok hm hA hB) (λ x15 h15=>?_);refine bS (fS λ _=>aS rf cL rf (bX _) dJ rf hJ) (λ _=>?_);refine aH ?_
  refine bD Tryz.results203 (λ w hw=>?_)
  refine⟨x15,rfl,⟨⟨hv,?_⟩,h15.2⟩,hw.rN⟩
  rw[fW]
  dsimp only
  rw[if_pos (by assumption)]
  exact h15.1
 ·refine bB ?_;refine gZ ?_;(refine aB (cA (by(repeat (first|exact cD _|(apply bU;focus ((conv=>{lhs;whnf});try exact rfl))));done)) rfl ?_);refine aR (cV (hc:=λ w1 hw=>nG _ _ _ w1)) (λ x19=>?_);refine bS (fS λ _=>aS rf cL rf (bX _) dJ rf hJ) (λ _=>?_);refine aH ?_
  refine bD Tryz.results203 (λ w hw=>?_)
  refine⟨(mY (aD (cB a.L) v).nd.status _ _,[bx x5 (((aD (cB a.L) v).at_ x9.1 x9.2).nd.cells:List Value),bx x3 [iv v]],a),rfl,⟨⟨hv,?_⟩,ok,(AS.hU.refl a).more (λ _ h=>(List.not_mem_nil h).elim)⟩,?_⟩
  ·rw[fW]
   dsimp only
   rw[if_neg (by assumption)]
   refine⟨hv,?_⟩
   rw[fW]
   refine⟨rfl,nK hm nv.status,_,_,rfl,by kernel_rfl,λ x s1 l hx=>?_⟩
   have hlen:=l.len
   exact(bb (b0:=x5) (b1:=b1) (b2:=x3) (b3:=b3) (nd:=((aD (cB a.L) v).at_ x9.1 x9.2).nd) ht (hK.le l) (by omega) (nK hm nv.status) (by rw[l.nd hv,fW];rfl)).mr (λ y hy=>by
   simp only[List.mem_cons,List.append_eq,List.nil_append,List.mem_append,List.not_mem_nil,or_false] at hy ⊢
   rcases hy with h|h|h|h|h<;>simp[h])
  ·exact((hw.cW (.tail (.tail .head))).cW .head).rI
theorem pb{K:Int->Tr}(ht:t.root<=9223372036854775807)(hK:zS b K a.mm f cap B)(ok:a.Ok)(hm:a.mm.Small)(hA:∀f∈aM a.L,f∈A)(hB:∀x∈B,x∈A)(hs:SF w D [(b,eX a)] A [] (fU a) w) :
  Calls Tryz.prog 167 #[.agg ⟨lT b t⟩,fn f cap] w (zK b (λ c' s' B'=>jB b (tU t K) a.mm c' s' B') a B D w):=by
 refine enter Tryz.func167 Tryz.ntmps167 rfl rfl hs ?_
 simp only[bY]
 refine J0 ?_;refine bO (λ x2=>?_);refine bO (λ x3=>?_);refine aI (λ x4=>?_);refine aH ?_;refine J0 ?_;refine aE ?_;refine J3 ?_;(refine aB (cA (by(repeat (first|exact cD _|(apply bU;focus ((conv=>{lhs;whnf});try exact rfl))));done)) rfl ?_);refine aR (cV (hc:=λ w1 hw=>nG _ _ _ w1)) (λ x9=>?_);refine bS (fS λ _=>aS rf cL rf (bX _) dJ rf hJ) (λ _=>?_);refine aH ?_
 refine bD Tryz.results167 (λ w hw=>?_)
 refine⟨(mY t.root _ _,[bx x2 (lT b t),bx x3 [fn f cap]],a),rfl,⟨⟨rfl,ht,_,_,rfl,by kernel_rfl,λ v s1 l hv=>Z3 (b1:=x2) (b3:=x3) ht (hK.le l) hv⟩,ok,(AS.hU.refl a).more (λ _ h=>(List.not_mem_nil h).elim)⟩,?_⟩
 exact((hw.cW (.tail .head)).cW (.tail .head)).rI
end
end

/- gcas: settle. -/
section
open Go Go.RowKit Go.Ct
theorem Uu{b:Nat}{i m p prev:Int}{c:Bool}{K:Int->Tr}{s s2:Mm}{cd:Cd}{B:Fr}(hmm:m<=s.nodes.length)(hn:(eA s.nodes m).prev=prev)(h:jB b (av prev p c λ _=>jG i m K) s cd s2 B):jB b (jC i m p c K) s cd s2 B:=by
 subst hn
 unfold av at h
 unfold jC
 split
 ·rename_i hc
  rw[if_pos hc] at h
  exact⟨hmm,h⟩
 ·rename_i hc
  rw[if_neg hc] at h
  exact⟨hmm,h⟩
section
variable{D:List Nat}{A B:Fr}{a:AS}{b:Nat}{w:World}{f:FuncId}{cap:List Value}{t:fL}
theorem sw{K:Int->Tr}{i m p:Int}{s:Mm}{bt bm bo bi:Nat}(hK:zS b K s f cap B)(hi:i<=s.nodes.length)(hmm:m<=s.nodes.length)(hp:p<=s.nodes.length):qL b 165 [pt bt,pt bm,pt bo,pt bi] [.int .i64 p] (bx bt [fn f cap]::bx bm [iv m]::bx bo (lT b t)::bx bi [iv i]::B) s (if p=0 then K m else H5 i m p K):=by
 intro a D A w em ok hm hA hB hw0
 subst em
 have hK2:=hK.more (B2:=(bx bt [fn f cap]::bx bm [iv m]::bx bo (lT b t)::bx bi [iv i]::B)) (λ x hx=>by simp[hx])
 refine enter Tryz.func165 Tryz.ntmps165 rfl rfl hw0 ?_
 simp only[bY]
 refine J0 ?_;refine aI (λ x6=>?_);refine aH ?_;refine kM ?_;refine uI ?_
 refine bE (λ c8=>?_) (λ c8=>?_)
 ·refine J0 ?_;refine aB (kY bt [fn f cap] 0 hB rfl) rfl ?_;refine aB (kY bm [.int .i64 m] 0 hB rfl) rfl ?_;refine aC (Td hK2.1 (hK2.2 m a.mm (Mm.Le.refl _) hmm) ok hm hA hB) (λ x11 h11=>?_);refine bS (fS λ _=>aS rf cL rf (bX _) dJ rf hJ) (λ _=>?_);refine aH ?_
  refine bD Tryz.results165 (λ w hw=>?_)
  refine⟨x11,rfl,⟨?_,h11.2⟩,hw.rN⟩
  rw[if_pos (by omega)]
  exact h11.1
 ·refine bB ?_;refine J0 ?_;refine aB (Rf bo (lT b t) 0 3 hB rfl rfl) rfl ?_;refine aB (kY bi [.int .i64 i] 0 hB rfl) rfl ?_;refine aB (kY bm [.int .i64 m] 0 hB rfl) rfl ?_;refine aA ?_;refine aB (kY bt [fn f cap] 0 hB rfl) rfl ?_;refine aC (zI (λ w1 hw=>T7 hK2 hi hmm hp ok hm hA hB hw)) (λ x17 h17=>?_);refine bS (fS λ _=>aS rf cL rf (bX _) dJ rf hJ) (λ _=>?_);refine aH ?_
  refine bD Tryz.results165 (λ w hw=>?_)
  refine⟨x17,rfl,⟨?_,h17.2⟩,hw.rN⟩
  rw[if_neg (by omega)]
  exact h17.1
theorem th{K:Int->Tr}{i m prev:Int}{s:Mm}{bp bt bm bo bi:Nat}(hK:zS b K s f cap B)(hi:i<=s.nodes.length)(hmm:m<=s.nodes.length)(hpr:prev<=9223372036854775807)(hn:(eA s.nodes m).prev=prev)(o:Bool):qL b 164 [pt bp,pt bt,pt bm,pt bo,pt bi] [.bool o] (bx bp [iv prev]::bx bt [fn f cap]::bx bm [iv m]::bx bo (lT b t)::bx bi [iv i]::B) s (jG i m K):=by
 intro a D A w em ok hm hA hB hw0
 subst em
 refine enter Tryz.func164 Tryz.ntmps164 rfl rfl hw0 ?_
 simp only[bY]
 refine J0 ?_;refine aI (λ x7=>?_);refine aH ?_;refine J0 ?_;refine aB (kY bp [.int .i64 prev] 0 hB rfl) rfl ?_;(refine aB (cA (by(repeat (first|exact cD _|(apply bU;focus ((conv=>{lhs;whnf});try exact rfl))));done)) rfl ?_);refine aR (cV (hc:=λ w1 hw=>nG _ _ _ w1)) (λ x10=>?_);refine bS (fS λ _=>aS rf cL rf (bX _) dJ rf hJ) (λ _=>?_);refine aH ?_
 refine bD Tryz.results164 (λ w hw=>?_)
 refine⟨(mY prev _ _,[],a),rfl,⟨⟨hmm,?_⟩,ok,AS.hU.refl a⟩,hw.rI⟩
 dsimp only
 rw[hn]
 exact⟨rfl,hpr,_,_,rfl,by kernel_rfl,λ p s1 l hp=>(sw (bt:=bt) (bm:=bm) (bo:=bo) (bi:=bi) (hK.le l) (by have:=l.len;omega) (by have:=l.len;omega) hp).mr (λ y hy=>List.mem_cons_of_mem _ hy)⟩
theorem oi{K:Int->Tr}{i m p prev r:Int}{s:Mm}{bo bi bp bq ba:Nat}(hK:q8 b (λ _=>jG i m K) s f cap B)(hi:i<=s.nodes.length)(hmm:m<=s.nodes.length)(hp:p<=s.nodes.length)(hr:r<=s.nodes.length)(hn:(eA s.nodes m).prev=prev):qL b 168 [pt bo,pt bi,pt bp,pt bq,pt ba] [.int .i64 r] (bx bo (lT b t)::bx bi [iv i]::bx bp [iv prev]::bx bq [iv p]::bx ba [fn f cap]::B) s (.node r λ nr=>.node i λ ni=>jC i m p (nr.gen==ni.gen) K):=by
 intro a D A w em ok hm hA hB hw0
 subst em
 have hK2:=hK.more (B2:=(bx bo (lT b t)::bx bi [iv i]::bx bp [iv prev]::bx bq [iv p]::bx ba [fn f cap]::B)) (λ x hx=>by simp[hx])
 have hpr:prev<=a.mm.cs.length:=by rw[<- hn];exact(ok.mo.at m).prev
 refine enter Tryz.func168 Tryz.ntmps168 rfl rfl hw0 ?_
 simp only[bY]
 refine J0 ?_;refine aI (λ x7=>?_);refine Oq ?_;refine dX [(0,[]),(1,[]),(2,[]),(5,[]),(6,[]),(7,[]),(3,[6,7]),(4,[]),(8,[]),(9,[]),(10,[]),(11,[])] ?_;refine aQ ?_;refine bT (i:=1) (hq:=(kY bo (lT b t) 0 hB rfl)) (h:=?_);refine aP ?_;refine aQ ?_;refine bT (i:=6) (hq:=(kY bo (lT b t) 0 hB rfl)) (h:=?_);refine bT (i:=7) (hq:=(kY bi [.int .i64 i] 0 hB rfl)) (h:=?_);refine bC (i:=3) (hq:=(B9 r ok hm hA hr)) (hfire:=(λ _=>by(refine gA ?_;(repeat (first|exact aW.nil|refine aW.cons (by first|exact iR (hq:=kY bo (lT b t) 0 hB rfl)|exact iR (hq:=kY bi [.int .i64 i] 0 hB rfl)) ?_));done))) (h:=λ x12 h12=>?_);refine xA ?_;refine bC (i:=8) (hq:=(B9 i ok hm hA hi)) (h:=λ x17 h17=>?_);refine xA ?_;refine mG ?_;refine J7 ?_;refine J0 ?_;refine aB (Rf bo (lT b t) 0 3 hB rfl rfl) rfl ?_;refine aB (kY bp [.int .i64 prev] 0 hB rfl) rfl ?_;refine aB (kY bq [.int .i64 p] 0 hB rfl) rfl ?_;refine aA ?_;refine aB (kY ba [fn f cap] 0 hB rfl) rfl ?_;refine aC (zI (λ w1 hw=>Ko (K:=λ _=>jG i m K) hK2 hpr hp ok hm hA hB hw)) (λ x25 h25=>?_);refine bS (fS λ _=>aS rf cL rf (bX _) dJ rf hJ) (λ _=>?_);refine aH ?_
 refine bD Tryz.results168 (λ w hw=>?_)
 refine⟨x25,rfl,⟨⟨hr,hi,?_⟩,h25.2⟩,hw.rN⟩
 rw[fW,fW]
 exact Uu hmm hn h25.1
set_option maxRecDepth 100000 in
set_option maxHeartbeats 2000000 in
theorem qa{K:Int->Tr}{i m p prev:Int}{s:Mm}{bt bm bo bi bp:Nat}(ht:t.root<=9223372036854775807)(hK:zS b K s f cap B)(hi:i<=s.nodes.length)(hmm:m<=s.nodes.length)(hp:p<=s.nodes.length)(hn:(eA s.nodes m).prev=prev):qL b 162 [pt bt,pt bm,pt bo,pt bi,pt bp] [.int .i64 p] (bx bt [fn f cap]::bx bm [iv m]::bx bo (lT b t)::bx bi [iv i]::bx bp [iv prev]::B) s (if p=0 then K m else .node p λ np=>if dS np then(if t.ro=true then jC i m p false K else tU t λ r=>.node r λ nr=>.node i λ ni=>jC i m p (nr.gen==ni.gen) K) else H5 i m p K):=by
 intro a D A w em ok hm hA hB hw0
 subst em
 have hK2:=hK.more (B2:=(bx bt [fn f cap]::bx bm [iv m]::bx bo (lT b t)::bx bi [iv i]::bx bp [iv prev]::B)) (λ x hx=>by simp[hx])
 have np:=Ay ok p
 have hpr:prev<=a.mm.cs.length:=by rw[<- hn];exact(ok.mo.at m).prev
 have hAg:q8 b (λ _=>jG i m K) a.mm 164 [.pointer (some ⟨bp,0,none⟩),.pointer (some ⟨bt,0,none⟩),.pointer (some ⟨bm,0,none⟩),.pointer (some ⟨bo,0,none⟩),.pointer (some ⟨bi,0,none⟩)] (bx bt [fn f cap]::bx bm [iv m]::bx bo (lT b t)::bx bi [iv i]::bx bp [iv prev]::B):=⟨by kernel_rfl,λ o s1 l=>(th (t:=t) (prev:=prev) (bp:=bp) (bt:=bt) (bm:=bm) (bo:=bo) (bi:=bi) (hK.le l) (by have:=l.len;omega) (by have:=l.len;omega) (nK hm hpr) (by rw[l.nd hmm];exact hn) o).mr (λ y hy=>by
  simp only[List.mem_cons] at hy ⊢
  rcases hy with h|h|h|h|h|h<;>simp[h])⟩
 have hRt:∀x6 x8:Nat,zS b (λ r=>.node r λ nr=>.node i λ ni=>jC i m p (nr.gen==ni.gen) K) a.mm 168 [.pointer (some ⟨bo,0,none⟩),.pointer (some ⟨bi,0,none⟩),.pointer (some ⟨bp,0,none⟩),.pointer (some ⟨x6,0,none⟩),.pointer (some ⟨x8,0,none⟩)] (bx x8 [.func (.func 164) #[] ⟨[.pointer (some ⟨bp,0,none⟩),.pointer (some ⟨bt,0,none⟩),.pointer (some ⟨bm,0,none⟩),.pointer (some ⟨bo,0,none⟩),.pointer (some ⟨bi,0,none⟩)]⟩]::bx x6 [iv p]::(bx bt [fn f cap]::bx bm [iv m]::bx bo (lT b t)::bx bi [iv i]::bx bp [iv prev]::B)):=λ x6 x8=>⟨by kernel_rfl,λ r s1 l hr=>(oi (t:=t) (prev:=prev) (bo:=bo) (bi:=bi) (bp:=bp) (bq:=x6) (ba:=x8) (hAg.le l) (by have:=l.len;omega) (by have:=l.len;omega) (by have:=l.len;omega) hr (by rw[l.nd hmm];exact hn)).mr (λ y hy=>by
  simp only[List.mem_cons] at hy ⊢
  rcases hy with h|h|h|h|h|h<;>simp[h])⟩
 refine enter Tryz.func162 Tryz.ntmps162 rfl rfl hw0 ?_
 simp only[bY]
 refine J0 ?_;refine bO (λ x6=>?_);refine aI (λ x7=>?_);refine Oq ?_;refine pK ?_;refine uI ?_
 refine bE (λ c10=>?_) (λ c10=>?_)
 ·refine J0 ?_;refine aB (kY bt [fn f cap] 0 hB rfl) rfl ?_;refine aB (kY bm [.int .i64 m] 0 hB rfl) rfl ?_;refine aC (Td hK2.1 (hK2.2 m a.mm (Mm.Le.refl _) hmm) ok hm hA hB) (λ x13 h13=>?_);refine bS (fS λ _=>aS rf cL rf (bX _) dJ rf hJ) (λ _=>?_);refine aH ?_
  refine bD Tryz.results162 (λ w hw=>?_)
  refine⟨x13,rfl,⟨?_,h13.2⟩,hw.rN⟩
  rw[if_pos (by omega)]
  exact h13.1
 ·refine lA ?_;refine J0 ?_;refine aE ?_;refine aB (kY bo (lT b t) 0 hB rfl) rfl ?_;refine bR ?_;refine aC (B9 p ok hm hA hp) (λ x17 h17=>?_);refine aC (c0 (V:=.bool) (hc:=λ w1 hw=>R6 ((aD (cB a.L) p).at_ x17.1 x17.2).nd w1)) (λ x18 h18=>?_);refine oX ?_
  refine bE (λ c19=>?_) (λ c19=>?_)
  ·refine J0 ?_;refine aB (Rf bo (lT b t) 0 3 hB rfl rfl) rfl ?_;refine aB (kY bi [.int .i64 i] 0 hB rfl) rfl ?_;refine aB (kY bm [.int .i64 m] 0 hB rfl) rfl ?_;refine bR ?_;refine aB (kY bt [fn f cap] 0 hB rfl) rfl ?_;refine aC (zI (λ w1 hw=>T7 hK2 hi hmm hp ok hm hA hB hw)) (λ x25 h25=>?_);refine bS (fS λ _=>aS rf cL rf (bX _) dJ rf hJ) (λ _=>?_);refine aH ?_
   refine bD Tryz.results162 (λ w hw=>?_)
   refine⟨x25,rfl,⟨?_,h25.2⟩,hw.rN⟩
   rw[if_neg (by omega)]
   refine⟨hp,?_⟩
   rw[fW]
   dsimp only
   rw[if_neg (λ hk=>by have h2:=h18.2 hk;rw[h2] at c19;cases c19)]
   exact h25.1
  ·refine bB ?_;refine J0 ?_;(refine aB (cA (by(repeat (first|exact cD _|(apply bU;focus ((conv=>{lhs;whnf});try exact rfl))));done)) rfl ?_);refine aR (fS λ _=>Gw (z:=.nilFunc) (by kernel_rfl) rfl) (λ x8=>?_);refine J5 ?_;refine aV ?_;refine J0 ?_;refine aE ?_;refine aE ?_;refine aB (kY bo (lT b t) 2 hB rfl) rfl ?_;refine aH ?_
   refine bE (λ c29=>?_) (λ c29=>?_)
   ·refine J0 ?_;refine aB (Rf bo (lT b t) 0 3 hB rfl rfl) rfl ?_;refine aB (kY bp [.int .i64 prev] 0 hB rfl) rfl ?_;refine bR ?_;refine bR ?_;refine aC (zI (λ w1 hw=>Ko (K:=λ _=>jG i m K) hAg hpr hp ok hm hA hB hw)) (λ x34 h34=>?_);refine bS (fS λ _=>aS rf cL rf (bX _) dJ rf hJ) (λ _=>?_);refine aH ?_
    refine bD Tryz.results162 (λ w hw=>?_)
    refine⟨x34,rfl,⟨?_,h34.2⟩,hw.rN⟩
    rw[if_neg (by omega)]
    refine⟨hp,?_⟩
    rw[fW]
    dsimp only
    rw[if_pos (show dS (aD (cB a.L) p).c from h18.1 (by simpa using c19)),if_pos c29]
    exact Uu hmm hn h34.1
   ·refine Rg (λ w h=>(show SF _ _ [_,(b,eX a)] _ [_,_] _ w from(h.cW (.tail (.tail .head))).cW .head)) ?_
    refine bB ?_;refine J0 ?_;refine aB (Rf bo (lT b t) 0 3 hB rfl rfl) rfl ?_;(refine aB (cA (by(repeat (first|exact cD _|(apply bU;focus ((conv=>{lhs;whnf});try exact rfl))));done)) rfl ?_);refine aC (cM (V:=λ y:Cd×Fr×AS=>.agg ⟨y.1.cells⟩) (hs:=[(b,eX a)]) (os:=fU a) (hs':=λ y=>[(b,eX y.2.2)]) (os':=λ y=>fU y.2.2) (Fc:=λ y=>y.2.1) (A0:=bx x8 [.func (.func 164) #[] ⟨[.pointer (some ⟨bp,0,none⟩),.pointer (some ⟨bt,0,none⟩),.pointer (some ⟨bm,0,none⟩),.pointer (some ⟨bo,0,none⟩),.pointer (some ⟨bi,0,none⟩)]⟩]::bx x6 [iv p]::A) (hA:=aX.jb) (hc:=λ w1 hw=>pb (K:=λ r=>.node r λ nr=>.node i λ ni=>jC i m p (nr.gen==ni.gen) K) (B:=bx x8 [.func (.func 164) #[] ⟨[.pointer (some ⟨bp,0,none⟩),.pointer (some ⟨bt,0,none⟩),.pointer (some ⟨bm,0,none⟩),.pointer (some ⟨bo,0,none⟩),.pointer (some ⟨bi,0,none⟩)]⟩]::bx x6 [iv p]::(bx bt [fn f cap]::bx bm [iv m]::bx bo (lT b t)::bx bi [iv i]::bx bp [iv prev]::B)) ht (hRt x6 x8) ok hm (λ f hf=>List.mem_cons_of_mem _ (List.mem_cons_of_mem _ (hA f hf))) (E8 hB) hw)) (λ x37 h37=>?_);refine bS (fS λ _=>aS rf cL rf (bX _) dJ rf hJ) (λ _=>?_);refine aH ?_
    refine bD Tryz.results162 (λ w hw=>?_)
    refine⟨(x37.1,x37.2.1++[bx x8 [.func (.func 164) #[] ⟨[.pointer (some ⟨bp,0,none⟩),.pointer (some ⟨bt,0,none⟩),.pointer (some ⟨bm,0,none⟩),.pointer (some ⟨bo,0,none⟩),.pointer (some ⟨bi,0,none⟩)]⟩],bx x6 [iv p]],x37.2.2),rfl,⟨?_,h37.2.1,h37.2.2.more (λ f hf=>List.mem_append_left _ hf)⟩,hw.rI⟩
    rw[if_neg (by omega)]
    refine⟨hp,?_⟩
    rw[fW]
    dsimp only
    rw[if_pos (show dS (aD (cB a.L) p).c from h18.1 (by simpa using c19)),if_neg (by rw[c29];decide)]
    rw[List.append_assoc]
    exact h37.1
theorem Ye{K:Int->Tr}{i m:Int}(ht:t.root<=9223372036854775807)(hK:zS b K a.mm f cap B)(hi:i<=a.mm.nodes.length)(hmm:m<=a.mm.nodes.length)(ok:a.Ok)(hm:a.mm.Small)(hA:∀f∈aM a.L,f∈A)(hB:∀x∈B,x∈A)(hs:SF w D [(b,eX a)] A [] (fU a) w) :
  Calls Tryz.prog 121 #[.agg ⟨lT b t⟩,.int .i64 i,.int .i64 m,fn f cap] w (zK b (λ c' s' B'=>jB b (nM t i m K) a.mm c' s' B') a B D w):=by
 have nm:=Ay ok m
 refine enter Tryz.func121 Tryz.ntmps121 rfl rfl hs ?_
 simp only[bY]
 refine J0 ?_;refine bO (λ x4=>?_);refine bO (λ x5=>?_);refine bO (λ x6=>?_);refine bO (λ x7=>?_);refine aI (λ x8=>?_);refine aH ?_;refine gZ ?_;refine bR ?_;refine aC (B9 m ok hm hA hmm) (λ x13 h13=>?_);refine cY ?_;refine aR (fS λ _=>Gw (z:=.int .i64 0) (by kernel_rfl) rfl) (λ x9=>?_);refine J5 ?_;refine pK ?_;(refine aB (cA (by(repeat (first|exact cD _|(apply bU;focus ((conv=>{lhs;whnf});try exact rfl))));done)) rfl ?_);refine aR (cV (hc:=λ w1 hw=>nG _ _ _ w1)) (λ x17=>?_);refine bS (fS λ _=>aS rf cL rf (bX _) dJ rf hJ) (λ _=>?_);refine aH ?_
 refine bD Tryz.results121 (λ w hw=>?_)
 refine⟨(mY (aD (cB a.L) m).nd.prev _ _,[bx x4 (lT b t),bx x5 [iv i],bx x6 [iv m],bx x7 [fn f cap],bx x9 [iv (aD (cB a.L) m).nd.prev]],a),rfl,⟨⟨hmm,?_⟩,ok,(AS.hU.refl a).more (λ _ h=>(List.not_mem_nil h).elim)⟩,?_⟩
 ·rw[fW]
  refine⟨rfl,nK hm nm.prev,_,_,rfl,by kernel_rfl,λ p s1 l hp=>(qa (bt:=x7) (bm:=x6) (bo:=x4) (bi:=x5) (bp:=x9) (prev:=(aD (cB a.L) m).nd.prev) ht (hK.le l) (by have:=l.len;omega) (by have:=l.len;omega) hp (by rw[l.nd hmm,fW];rfl)).mr (λ y hy=>?_)⟩
  simp only[List.mem_cons,List.mem_append,List.not_mem_nil,or_false] at hy ⊢
  rcases hy with h|h|h|h|h|h<;>simp[h]
 ·exact(((((hw.cW .head).cW (.tail .head)).cW (.tail .head)).cW (.tail .head)).cW (.tail .head)).rI
end
end

end Go.Proofs.YtbajmaoegmbfgaaGreat

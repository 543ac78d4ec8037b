/- gcas: back, Complete, decide. -/
import Derived.Test.YtbajmaoegmbfgaaGreatGTkd

set_option linter.unusedSimpArgs false
set_option linter.unusedVariables false
namespace Go.Proofs.YtbajmaoegmbfgaaGreat
section
open Go Go.RowKit Go.Ct
abbrev lS(b:Nat)(t:fY):List Value:=[.iface 42 (.pointer (some ⟨b,0,none⟩)),.int .i64 t.root,.bool t.ro]
def ja(prev p:Int)(c:Bool)(K:Bool->Tr):Tr:=if c=true then .kO prev p 0 K else .alloc (xV p) 0 λ f=>.kO prev p f K
theorem nD{a:AS}(hm:a.mm.Small){x:Int}(h:x<=a.mm.cs.length):x<=9223372036854775807:=by have:=hm.2;omega
theorem zU{a:AS}(ok:a.Ok)(r:Int):mH a.mm.nodes.length a.mm.cs.length (aD (cB a.L) r).c:=by rw[<- fU];exact ok.mo.at r
section
variable{D:List Nat}{A B:Fr}{a:AS}{b:Nat}{w:World}{f:FuncId}{cap:List Value}{t:fY}
theorem lj{K:Int->Tr}{v:Int}{s:Mm}{b2 b3:Nat}(hK:zI b K s f cap B)(hv:v<=s.nodes.length)(o:Bool):pW b 201 [pt b2,pt b3] [.bool o] (bx b3 [.int .i64 v]::bx b2 [fn f cap]::B) s (K v):=by
 intro a D A w em ok hm hA hB hw0
 subst em
 have hK2:=hK.more (B2:=(bx b3 [.int .i64 v]::bx b2 [fn f cap]::B)) (λ x hx=>by simp[hx])
 refine enter Tryz.func201 Tryz.ntmps201 rfl rfl hw0 ?_
 simp only[bY]
 refine J0 ?_;refine aI (λ x4=>?_);refine aG ?_;refine J0 ?_;refine aB (kX b2 [fn f cap] 0 hB rfl) rfl ?_;refine aB (kX b3 [.int .i64 v] 0 hB rfl) rfl ?_;refine aC (Rr hK.1 (hK2.2 v a.mm (Mm.Le.refl _) hv) ok hm hA hB) (λ x7 h7=>?_);refine bQ (fR λ _=>aS rf cK rf (bX _) dH rf hU) (λ _=>?_);refine aG ?_
 refine bC Tryz.results201 (λ w hw=>?_)
 exact⟨x7,rfl,h7,hw.rN⟩
theorem Aj{K:Int->Tr}{v:Int}{s:Mm}{b2 b3:Nat}(hK:zI b K s f cap B)(hv:v<=s.nodes.length)(o:Bool):pW b 174 [pt b2,pt b3] [.bool o] (bx b3 [.int .i64 v]::bx b2 [fn f cap]::B) s (K v):=by
 intro a D A w em ok hm hA hB hw0
 subst em
 have hK2:=hK.more (B2:=(bx b3 [.int .i64 v]::bx b2 [fn f cap]::B)) (λ x hx=>by simp[hx])
 refine enter Tryz.func174 Tryz.ntmps174 rfl rfl hw0 ?_
 simp only[bY]
 refine J0 ?_;refine aI (λ x4=>?_);refine aG ?_;refine J0 ?_;refine aB (kX b2 [fn f cap] 0 hB rfl) rfl ?_;refine aB (kX b3 [.int .i64 v] 0 hB rfl) rfl ?_;refine aC (Rr hK.1 (hK2.2 v a.mm (Mm.Le.refl _) hv) ok hm hA hB) (λ x7 h7=>?_);refine bQ (fR λ _=>aS rf cK rf (bX _) dH rf hU) (λ _=>?_);refine aG ?_
 refine bC Tryz.results174 (λ w hw=>?_)
 exact⟨x7,rfl,h7,hw.rN⟩
theorem Vl{K:Int->Tr}{i m p:Int}(hK:zI b K a.mm f cap B)(hi:i<=a.mm.nodes.length)(hmm:m<=a.mm.nodes.length)(hp:p<=a.mm.nodes.length)(ok:a.Ok)(hm:a.mm.Small)(hA:∀f∈aM a.L,f∈A)(hB:∀x∈B,x∈A)(hs:SF w D [(b,fA a)] A [] (fQ a) w) :
  Calls Tryz.prog 163 #[.agg ⟨lS b t⟩,.int .i64 i,.int .i64 m,.int .i64 p,fn f cap] w (zC b (λ c' s' B'=>iY b (Hy i m p K) a.mm c' s' B') a B D w):=by
 have ni:=zU ok i
 have np:=zU ok p
 refine enter Tryz.func163 Tryz.ntmps163 rfl rfl hs ?_
 simp only[bY]
 refine J0 ?_;refine bN (λ x5=>?_);refine bN (λ x9=>?_);refine aI (λ x10=>?_);refine aG ?_;refine hJ ?_;refine aA ?_;refine aC (B5 p ok hm hA hp) (λ x15 h15=>?_);refine cW ?_;refine aQ (fR λ _=>Gm (z:=.int .i64 0) (by kernel_rfl) rfl) (λ x11=>?_);refine J5 ?_;refine aV ?_;refine dZ [(0,[]),(1,[]),(2,[]),(5,[]),(6,[]),(7,[]),(3,[6]),(4,[]),(8,[]),(9,[])] ?_;refine mL ?_;refine iD ?_;refine bP ?_;(refine cG (i:=7) (hq:=(cA (by(repeat (first|exact cC _|(apply bU;focus ((conv=>{lhs;whnf});try exact rfl))));done))) (h:=?_));refine bD (i:=3) (hq:=(B5 i ok hm hA hi)) (h:=λ x20 h20=>?_);refine wG ?_;refine cL (i:=8) (hq:=(cV (hc:=λ w1 hw=>uS _ _ _ _ _ w1))) (h:=λ x25=>?_);refine kY (i:=9) (hq:=(fR λ _=>aS rf cK rf (bX _) dH rf hU)) (h:=λ _=>?_);refine eA ?_
 refine bC Tryz.results163 (λ w hw=>?_)
 refine⟨(vQ (aD (cB a.L) i).nd.main m (aD (cB a.L) p).nd.bO _ _,[bx x11 [.int .i64 (aD (cB a.L) p).nd.bO],bx x9 [fn f cap]],a),rfl,⟨?_,ok,(AS.gZ.refl a).more (λ _ h=>(List.not_mem_nil h).elim)⟩,?_⟩
 ·refine⟨hi,hp,?_⟩
  rw[fU,fU]
  refine⟨rfl,nD hm ni.main,np.bO,_,_,rfl,by kernel_rfl,λ v s1 l=>?_⟩
  show Bf b _ _ _ _ s1 λ c' s' B'=>p<=s1.nodes.length/\iY b (K (eC s1.nodes p).bO) s1 c' s' B'
  rw[l.nd hp,fU]
  have hlen:=l.len
  exact(lj (hK.le l) (by have h2:(aD (cB a.L) p).nd.bO<=a.mm.nodes.length:=np.bO;omega) v).more (λ _ h=>h) λ c m C C2 hC h=>⟨by omega,h.more hC⟩
 ·exact((hw.cR (.tail (.tail .head))).cR .head).rI
theorem qM{K:Int->Tr}{v s:Int}(ht:t.root<=9223372036854775807)(hK:zI b K a.mm f cap B)(hv:v<=a.mm.nodes.length)(ok:a.Ok)(hm:a.mm.Small)(hA:∀f∈aM a.L,f∈A)(hB:∀x∈B,x∈A)(hs:SF w D [(b,fA a)] A [] (fQ a) w) :
  Calls Tryz.prog 141 #[.agg ⟨lS b t⟩,.int .i64 v,.int .i64 s,fn f cap] w (zC b (λ c' s' B'=>iY b (oM t v s K) a.mm c' s' B') a B D w):=by
 have nv:=zU ok v
 refine enter Tryz.func141 Tryz.ntmps141 rfl rfl hs ?_
 simp only[bY]
 refine J0 ?_;refine bN (λ x4=>?_);refine bN (λ x7=>?_);refine aI (λ x8=>?_);refine aG ?_;refine hJ ?_;refine aA ?_;refine aC (B5 v ok hm hA hv) (λ x14 h14=>?_);refine aI (λ x9=>?_);refine J5 ?_;refine hJ ?_;refine aQ (fR λ _=>Gm (z:=.int .i64 0) (by kernel_rfl) rfl) (λ x10=>?_);refine J5 ?_;refine kK ?_;refine tN ?_
 refine bE (λ c18=>?_) (λ c18=>?_)
 ·refine dW ?_;refine J3 ?_;refine J5 ?_;refine J0 ?_;refine aE ?_;refine J3 ?_;refine aA ?_;refine bR ?_;(refine aB (cA (by(repeat (first|exact cC _|(apply bU;focus ((conv=>{lhs;whnf});try exact rfl))));done)) rfl ?_);refine aQ (cV (hc:=λ w1 hw=>uS _ _ _ _ _ w1)) (λ x27=>?_);refine bQ (fR λ _=>aS rf cK rf (bX _) dH rf hU) (λ _=>?_);refine aG ?_
  refine bC Tryz.results141 (λ w hw=>?_)
  refine⟨(vQ t.root v (aD (cB a.L) v).nd.new _ _,[bx x10 [.int .i64 (aD (cB a.L) v).nd.new],bx x7 [fn f cap]],a),rfl,⟨?_,ok,(AS.gZ.refl a).more (λ _ h=>(List.not_mem_nil h).elim)⟩,?_⟩
  ·refine⟨hv,?_⟩
   rw[fU]
   have e:(if s=1 then(aD (cB a.L) v).c.new else(aD (cB a.L) v).c.bO)=(aD (cB a.L) v).nd.new:=by exact if_pos (by omega)
   dsimp only
   rw[e]
   refine⟨rfl,ht,nv.new,_,_,rfl,by kernel_rfl,λ o s1 l=>?_⟩
   have hlen:=l.len
   exact Aj (hK.le l) (by have h2:(aD (cB a.L) v).nd.new<=a.mm.nodes.length:=nv.new;omega) o
  ·exact((hw.cR (.tail (.tail (.tail .head)))).cR .head).rI
 ·refine aZ ?_;refine J0 ?_;refine aE ?_;refine J3 ?_;refine aA ?_;refine bR ?_;(refine aB (cA (by(repeat (first|exact cC _|(apply bU;focus ((conv=>{lhs;whnf});try exact rfl))));done)) rfl ?_);refine aQ (cV (hc:=λ w1 hw=>uS _ _ _ _ _ w1)) (λ x27=>?_);refine bQ (fR λ _=>aS rf cK rf (bX _) dH rf hU) (λ _=>?_);refine aG ?_
  refine bC Tryz.results141 (λ w hw=>?_)
  refine⟨(vQ t.root v (aD (cB a.L) v).nd.bO _ _,[bx x10 [.int .i64 (aD (cB a.L) v).nd.bO],bx x7 [fn f cap]],a),rfl,⟨?_,ok,(AS.gZ.refl a).more (λ _ h=>(List.not_mem_nil h).elim)⟩,?_⟩
  ·refine⟨hv,?_⟩
   rw[fU]
   have e:(if s=1 then(aD (cB a.L) v).c.new else(aD (cB a.L) v).c.bO)=(aD (cB a.L) v).nd.bO:=by exact if_neg (by omega)
   dsimp only
   rw[e]
   refine⟨rfl,ht,nv.bO,_,_,rfl,by kernel_rfl,λ o s1 l=>?_⟩
   have hlen:=l.len
   exact Aj (hK.le l) (by have h2:(aD (cB a.L) v).nd.bO<=a.mm.nodes.length:=nv.bO;omega) o
  ·exact((hw.cR (.tail (.tail (.tail .head)))).cR .head).rI
theorem Jc{K:Bool->Tr}{prev p:Int}{c:Bool}(hK:qb b K a.mm f cap B)(hpr:prev<=a.mm.cs.length)(hp:p<=a.mm.nodes.length)(ok:a.Ok)(hm:a.mm.Small)(hA:∀f∈aM a.L,f∈A)(hB:∀x∈B,x∈A)(hs:SF w D [(b,fA a)] A [] (fQ a) w) :
  Calls Tryz.prog 166 #[.agg ⟨lS b t⟩,.int .i64 prev,.int .i64 p,.bool c,fn f cap] w (zC b (λ c' s' B'=>iY b (ja prev p c K) a.mm c' s' B') a B D w):=by
 refine enter Tryz.func166 Tryz.ntmps166 rfl rfl hs ?_
 simp only[bY]
 refine J0 ?_;refine bN (λ x5=>?_);refine aI (λ x10=>?_);refine aG ?_;refine kK ?_;refine aG ?_
 refine bE (λ c12=>?_) (λ c12=>?_)
 ·refine iM ?_;refine aA ?_;refine aQ (cV (hc:=λ w1 hw=>uS _ _ _ _ _ w1)) (λ x16=>?_);refine bQ (fR λ _=>aS rf cK rf (bX _) dH rf hU) (λ _=>?_);refine aG ?_
  refine bC Tryz.results166 (λ w hw=>?_)
  refine⟨(vQ prev p 0 f cap,[],a),rfl,⟨?_,ok,AS.gZ.refl a⟩,hw.rI⟩
  unfold ja
  rw[if_pos (by assumption)]
  exact⟨rfl,nD hm hpr,bI _,f,cap,rfl,hK.1,λ v s1 l=>hK.2 v s1 l⟩
 ·refine lK ?_;refine dZ [(0,[]),(1,[]),(2,[]),(4,[]),(5,[]),(3,[1]),(6,[]),(7,[])] ?_;refine mL ?_;refine aN ?_;refine cG (i:=4) (hq:=(Nk rf)) (h:=?_);refine aN ?_;refine cL (i:=3) (hq:=(cV (hc:=λ w1 hw=>gp p w1))) (h:=λ x20=>?_);refine bD (i:=6) (hq:=(cMI (V:=λ _:AX=>.int .i64 ((a.mm.nodes.length+1:Nat):Int)) (hs:=[(b,fA a)]) (os:=fQ a) (A0:=[(none,aH []),(none,dE [])]) (hs':=λ x=>[(b,fA (a.al ({Nd.zero with kind:=7,bO:=p}:Nd) [] [] 0 x))]) (os':=λ x=>fQ (a.al ({Nd.zero with kind:=7,bO:=p}:Nd) [] [] 0 x)) (Fc:=λ x=>(oE ({Nd.zero with kind:=7,bO:=p}:Nd) [] [] a.cs.length x).fr) (hm:=λ w=>Xz _ _ _ w) (hc:=λ w1 hw=>ap ok hm 0 rfl rfl (by simp) (by simp) (λ f hf=>hf) hw))) (h:=λ x23 h23=>?_);refine J7 ?_;refine iM ?_;refine pV ?_;refine aQ (cV (hc:=λ w1 hw=>uS _ _ _ _ _ w1)) (λ x28=>?_);refine bQ (fR λ _=>aS rf cK rf (bX _) dH rf hU) (λ _=>?_);refine aG ?_
  refine bC Tryz.results166 (λ w hw=>?_)
  refine⟨(vQ prev p ((a.mm.nodes.length+1:Nat):Int) f cap,(oE ({Nd.zero with kind:=7,bO:=p}:Nd) [] [] a.cs.length x23).fr,a.al ({Nd.zero with kind:=7,bO:=p}:Nd) [] [] 0 x23),rfl,⟨?_,ok.al x23 (by simp) (by simp) ⟨?_,bI _,bI _,(λ r hr=>nomatch hr),bI _,bI _,bI _,⟨0,rfl,by decide⟩,⟨0,rfl,by decide⟩⟩ (by omega),AS.gZ.al a _ _ _ _ x23⟩,hw.rI⟩
  ·unfold ja
   rw[if_neg (by simp_all)]
   have hl:=Ul a.mm (xV p) 0
   refine⟨L7 a _ _ _ _ x23,?_,?_,f,cap,rfl,hK.1,λ v s1 l=>(hK.2 v s1 (hl.trans l)).more (λ x hx=>List.mem_append_right _ hx) λ _ _ _ _ hC h=>h.more hC⟩
   ·have:=hl.cl;have:=hm.2;omega
   ·show _<=(((a.mm.nodes++[_]).length:Nat):Int)
    rw[List.length_append]
    simp
  ·show p<=_
   exact hp
end
end

/- gcas: root. -/
section
open Go Go.RowKit Go.Ct
section
variable{D:List Nat}{A B:Fr}{a:AS}{b:Nat}{w:World}{f:FuncId}{cap:List Value}{t:fY}
theorem Y0{K:Int->Tr}{v x:Int}{s:Mm}{b1 b2 b3:Nat}(ht:t.root<=9223372036854775807)(hK:zI b K s f cap B)(hv:v<=s.nodes.length):pW b 206 [pt b1,pt b2,pt b3] [.int .i64 x] (bx b1 (lS b t)::bx b2 [iv v]::bx b3 [fn f cap]::B) s (oM t v x K):=by
 intro a D A w em ok hm hA hB hw0
 subst em
 have hK2:=hK.more (B2:=(bx b1 (lS b t)::bx b2 [iv v]::bx b3 [fn f cap]::B)) (λ x hx=>by simp[hx])
 refine enter Tryz.func206 Tryz.ntmps206 rfl rfl hw0 ?_
 simp only[bY]
 refine J0 ?_;refine aI (λ x5=>?_);refine aG ?_;refine J0 ?_;refine aB (Rm b1 (lS b t) 0 3 hB rfl rfl) rfl ?_;refine aB (kX b2 [.int .i64 v] 0 hB rfl) rfl ?_;refine aA ?_;refine aB (kX b3 [fn f cap] 0 hB rfl) rfl ?_;refine aC (zF (λ w1 hw=>qM ht hK2 hv ok hm hA hB hw)) (λ x10 h10=>?_);refine bQ (fR λ _=>aS rf cK rf (bX _) dH rf hU) (λ _=>?_);refine aG ?_
 refine bC Tryz.results206 (λ w hw=>?_)
 exact⟨x10,rfl,h10,hw.rN⟩
theorem jr{K:Int->Tr}{v:Int}{s:Mm}{b0 b1 b2 b3:Nat}{nd:Nd}(ht:t.root<=9223372036854775807)(hK:zI b K s f cap B)(hv:v<=s.nodes.length)(hd:nd.status<=9223372036854775807)(o:Bool):pW b 205 [pt b0,pt b1,pt b2,pt b3] [.bool o] (bx b0 (nd.cells:List Value)::bx b1 (lS b t)::bx b2 [iv v]::bx b3 [fn f cap]::B) s (.load nd.status λ s=>oM t v s K):=by
 intro a D A w em ok hm hA hB hw0
 subst em
 have hK2:=hK.more (B2:=(bx b0 (nd.cells:List Value)::bx b1 (lS b t)::bx b2 [iv v]::bx b3 [fn f cap]::B)) (λ x hx=>by simp[hx])
 refine enter Tryz.func205 Tryz.ntmps205 rfl rfl hw0 ?_
 simp only[bY]
 refine J0 ?_;refine aI (λ x6=>?_);refine aG ?_;refine J0 ?_;refine aE ?_;refine aB (kX b0 (nd.cells:List Value) 13 hB rfl) rfl ?_;(refine aB (cA (by(repeat (first|exact cC _|(apply bU;focus ((conv=>{lhs;whnf});try exact rfl))));done)) rfl ?_);refine aQ (cV (hc:=λ w1 hw=>nF _ _ _ w1)) (λ x10=>?_);refine bQ (fR λ _=>aS rf cK rf (bX _) dH rf hU) (λ _=>?_);refine aG ?_
 refine bC Tryz.results205 (λ w hw=>?_)
 exact⟨(mN nd.status _ _,[],a),rfl,⟨⟨rfl,hd,_,_,rfl,by kernel_rfl,λ x s1 l hx=>(Y0 (b1:=b1) (b2:=b2) (b3:=b3) ht (hK.le l) (by have:=l.len;omega)).mr (λ y hy=>List.mem_cons_of_mem _ hy)⟩,ok,AS.gZ.refl a⟩,hw.rI⟩
theorem fv{K:Int->Tr}{v x:Int}{s:Mm}{b0 b1 b2 b3:Nat}{nd:Nd}(ht:t.root<=9223372036854775807)(hK:zI b K s f cap B)(hv:v<=s.nodes.length)(hd:nd.status<=9223372036854775807)(hn:(eC s.nodes v).status=nd.status):pW b 204 [pt b1,pt b2,pt b3,pt b0] [.int .i64 x] (bx b1 (lS b t)::bx b2 [iv v]::bx b3 [fn f cap]::bx b0 (nd.cells:List Value)::B) s (if x=0 then .node v λ n=>.kO n.status 0 2 λ _=>.node v λ n=>.load n.status λ s=>oM t v s K else oM t v x K):=by
 intro a D A w em ok hm hA hB hw0
 subst em
 have hK2:=hK.more (B2:=(bx b1 (lS b t)::bx b2 [iv v]::bx b3 [fn f cap]::bx b0 (nd.cells:List Value)::B)) (λ x hx=>by simp[hx])
 refine enter Tryz.func204 Tryz.ntmps204 rfl rfl hw0 ?_
 simp only[bY]
 refine J0 ?_;refine aI (λ x6=>?_);refine aG ?_;refine kK ?_;refine pJ ?_;refine aG ?_
 refine bE (λ c8=>?_) (λ c8=>?_)
 ·refine J0 ?_;refine aB (Rm b1 (lS b t) 0 3 hB rfl rfl) rfl ?_;refine aB (kX b2 [.int .i64 v] 0 hB rfl) rfl ?_;refine aA ?_;refine aB (kX b3 [fn f cap] 0 hB rfl) rfl ?_;refine aC (zF (λ w1 hw=>qM ht hK2 hv ok hm hA hB hw)) (λ x13 h13=>?_);refine bQ (fR λ _=>aS rf cK rf (bX _) dH rf hU) (λ _=>?_);refine aG ?_
  refine bC Tryz.results204 (λ w hw=>?_)
  refine⟨x13,rfl,⟨?_,h13.2⟩,hw.rN⟩
  rw[if_neg (by omega)]
  exact h13.1
 ·refine aZ ?_;refine J0 ?_;refine aE ?_;refine aB (kX b0 (nd.cells:List Value) 13 hB rfl) rfl ?_;(refine aB (cA (by(repeat (first|exact cC _|(apply bU;focus ((conv=>{lhs;whnf});try exact rfl))));done)) rfl ?_);refine aQ (cV (hc:=λ w1 hw=>uS _ _ _ _ _ w1)) (λ x17=>?_);refine bQ (fR λ _=>aS rf cK rf (bX _) dH rf hU) (λ _=>?_);refine aG ?_
  refine bC Tryz.results204 (λ w hw=>?_)
  refine⟨(vQ nd.status 0 2 _ _,[],a),rfl,⟨?_,ok,AS.gZ.refl a⟩,hw.rI⟩
  rw[if_pos (by omega)]
  refine⟨hv,?_⟩
  dsimp only
  rw[hn]
  refine⟨rfl,hd,by have:=ok.mo.two;omega,_,_,rfl,by kernel_rfl,λ o s1 l=>?_⟩
  have hlen:=l.len
  show Bf b _ _ _ _ s1 λ c' s' B'=>v<=s1.nodes.length/\iY b (.load (eC s1.nodes v).status λ s=>oM t v s K) s1 c' s' B'
  rw[l.nd hv,hn]
  exact(jr (b0:=b0) (b1:=b1) (b2:=b2) (b3:=b3) (nd:=nd) ht (hK.le l) (by omega) hd o).more (λ y hy=>by
  simp only[List.mem_cons,List.append_eq,List.nil_append] at hy ⊢
  rcases hy with h|h|h|h|h<;>simp[h]) λ c m C C2 hC h=>⟨by omega,h.more hC⟩
theorem ay{K:Int->Tr}{v:Int}{s:Mm}{b1 b3:Nat}(ht:t.root<=9223372036854775807)(hK:zI b K s f cap B)(hv:v<=s.nodes.length):pW b 203 [pt b1,pt b3] [.int .i64 v] (bx b1 (lS b t)::bx b3 [fn f cap]::B) s (.node v λ n=>if n.kind=2 then K v else .node v λ n=>.load n.status λ s=>if s=0 then .node v λ n=>.kO n.status 0 2 λ _=>.node v λ n=>.load n.status λ s=>oM t v s K else oM t v s K):=by
 intro a D A w em ok hm hA hB hw0
 subst em
 have hK2:=hK.more (B2:=(bx b1 (lS b t)::bx b3 [fn f cap]::B)) (λ x hx=>by simp[hx])
 have nv:=zU ok v
 refine enter Tryz.func203 Tryz.ntmps203 rfl rfl hw0 ?_
 simp only[bY]
 refine J0 ?_;refine bN (λ x3=>?_);refine aI (λ x4=>?_);refine aG ?_;refine J0 ?_;refine aE ?_;refine aB (kX b1 (lS b t) 0 hB rfl) rfl ?_;refine bR ?_;refine aC (B5 v ok hm hA hv) (λ x9 h9=>?_);refine aI (λ x5=>?_);refine J5 ?_;refine Ci ?_;refine tN ?_
 refine bE (λ c12=>?_) (λ c12=>?_)
 ·refine J0 ?_;refine aB (kX b3 [fn f cap] 0 hB rfl) rfl ?_;refine bR ?_;refine aC (Rr hK2.1 (hK2.2 v a.mm (Mm.Le.refl _) hv) ok hm hA hB) (λ x15 h15=>?_);refine bQ (fR λ _=>aS rf cK rf (bX _) dH rf hU) (λ _=>?_);refine aG ?_
  refine bC Tryz.results203 (λ w hw=>?_)
  refine⟨x15,rfl,⟨⟨hv,?_⟩,h15.2⟩,hw.rN⟩
  rw[fU]
  dsimp only
  rw[if_pos (by assumption)]
  exact h15.1
 ·refine aZ ?_;refine hJ ?_;(refine aB (cA (by(repeat (first|exact cC _|(apply bU;focus ((conv=>{lhs;whnf});try exact rfl))));done)) rfl ?_);refine aQ (cV (hc:=λ w1 hw=>nF _ _ _ w1)) (λ x19=>?_);refine bQ (fR λ _=>aS rf cK rf (bX _) dH rf hU) (λ _=>?_);refine aG ?_
  refine bC Tryz.results203 (λ w hw=>?_)
  refine⟨(mN (aD (cB a.L) v).nd.status _ _,[bx x5 (((aD (cB a.L) v).at_ x9.1 x9.2).nd.cells:List Value),bx x3 [iv v]],a),rfl,⟨⟨hv,?_⟩,ok,(AS.gZ.refl a).more (λ _ h=>(List.not_mem_nil h).elim)⟩,?_⟩
  ·rw[fU]
   dsimp only
   rw[if_neg (by assumption)]
   refine⟨hv,?_⟩
   rw[fU]
   refine⟨rfl,nD hm nv.status,_,_,rfl,by kernel_rfl,λ x s1 l hx=>?_⟩
   have hlen:=l.len
   exact(fv (b0:=x5) (b1:=b1) (b2:=x3) (b3:=b3) (nd:=((aD (cB a.L) v).at_ x9.1 x9.2).nd) ht (hK.le l) (by omega) (nD hm nv.status) (by rw[l.nd hv,fU];rfl)).mr (λ y hy=>by
   simp only[List.mem_cons,List.append_eq,List.nil_append,List.mem_append,List.not_mem_nil,or_false] at hy ⊢
   rcases hy with h|h|h|h|h<;>simp[h])
  ·exact((hw.cR (.tail (.tail .head))).cR .head).rI
theorem qh{K:Int->Tr}(ht:t.root<=9223372036854775807)(hK:zI b K a.mm f cap B)(ok:a.Ok)(hm:a.mm.Small)(hA:∀f∈aM a.L,f∈A)(hB:∀x∈B,x∈A)(hs:SF w D [(b,fA a)] A [] (fQ a) w) :
  Calls Tryz.prog 167 #[.agg ⟨lS b t⟩,fn f cap] w (zC b (λ c' s' B'=>iY b (xS t K) a.mm c' s' B') a B D w):=by
 refine enter Tryz.func167 Tryz.ntmps167 rfl rfl hs ?_
 simp only[bY]
 refine J0 ?_;refine bN (λ x2=>?_);refine bN (λ x3=>?_);refine aI (λ x4=>?_);refine aG ?_;refine J0 ?_;refine aE ?_;refine J3 ?_;(refine aB (cA (by(repeat (first|exact cC _|(apply bU;focus ((conv=>{lhs;whnf});try exact rfl))));done)) rfl ?_);refine aQ (cV (hc:=λ w1 hw=>nF _ _ _ w1)) (λ x9=>?_);refine bQ (fR λ _=>aS rf cK rf (bX _) dH rf hU) (λ _=>?_);refine aG ?_
 refine bC Tryz.results167 (λ w hw=>?_)
 refine⟨(mN t.root _ _,[bx x2 (lS b t),bx x3 [fn f cap]],a),rfl,⟨⟨rfl,ht,_,_,rfl,by kernel_rfl,λ v s1 l hv=>ay (b1:=x2) (b3:=x3) ht (hK.le l) hv⟩,ok,(AS.gZ.refl a).more (λ _ h=>(List.not_mem_nil h).elim)⟩,?_⟩
 exact((hw.cR (.tail .head)).cR (.tail .head)).rI
end
end

/- gcas: settle. -/
section
open Go Go.RowKit Go.Ct
theorem Tz{b:Nat}{i m p prev:Int}{c:Bool}{K:Int->Tr}{s s2:Mm}{cd:Cd}{B:Fr}(hmm:m<=s.nodes.length)(hn:(eC s.nodes m).prev=prev)(h:iY b (ja prev p c λ _=>jP i m K) s cd s2 B):iY b (kG i m p c K) s cd s2 B:=by
 subst hn
 unfold ja at h
 unfold kG
 split
 ·rename_i hc
  rw[if_pos hc] at h
  exact⟨hmm,h⟩
 ·rename_i hc
  rw[if_neg hc] at h
  exact⟨hmm,h⟩
section
variable{D:List Nat}{A B:Fr}{a:AS}{b:Nat}{w:World}{f:FuncId}{cap:List Value}{t:fY}
theorem mx{K:Int->Tr}{i m p:Int}{s:Mm}{bt bm bo bi:Nat}(hK:zI b K s f cap B)(hi:i<=s.nodes.length)(hmm:m<=s.nodes.length)(hp:p<=s.nodes.length):pW b 165 [pt bt,pt bm,pt bo,pt bi] [.int .i64 p] (bx bt [fn f cap]::bx bm [iv m]::bx bo (lS b t)::bx bi [iv i]::B) s (if p=0 then K m else Hy i m p K):=by
 intro a D A w em ok hm hA hB hw0
 subst em
 have hK2:=hK.more (B2:=(bx bt [fn f cap]::bx bm [iv m]::bx bo (lS b t)::bx bi [iv i]::B)) (λ x hx=>by simp[hx])
 refine enter Tryz.func165 Tryz.ntmps165 rfl rfl hw0 ?_
 simp only[bY]
 refine J0 ?_;refine aI (λ x6=>?_);refine aG ?_;refine kK ?_;refine tN ?_
 refine bE (λ c8=>?_) (λ c8=>?_)
 ·refine J0 ?_;refine aB (kX bt [fn f cap] 0 hB rfl) rfl ?_;refine aB (kX bm [.int .i64 m] 0 hB rfl) rfl ?_;refine aC (Rr hK2.1 (hK2.2 m a.mm (Mm.Le.refl _) hmm) ok hm hA hB) (λ x11 h11=>?_);refine bQ (fR λ _=>aS rf cK rf (bX _) dH rf hU) (λ _=>?_);refine aG ?_
  refine bC Tryz.results165 (λ w hw=>?_)
  refine⟨x11,rfl,⟨?_,h11.2⟩,hw.rN⟩
  rw[if_pos (by omega)]
  exact h11.1
 ·refine aZ ?_;refine J0 ?_;refine aB (Rm bo (lS b t) 0 3 hB rfl rfl) rfl ?_;refine aB (kX bi [.int .i64 i] 0 hB rfl) rfl ?_;refine aB (kX bm [.int .i64 m] 0 hB rfl) rfl ?_;refine aA ?_;refine aB (kX bt [fn f cap] 0 hB rfl) rfl ?_;refine aC (zF (λ w1 hw=>Vl hK2 hi hmm hp ok hm hA hB hw)) (λ x17 h17=>?_);refine bQ (fR λ _=>aS rf cK rf (bX _) dH rf hU) (λ _=>?_);refine aG ?_
  refine bC Tryz.results165 (λ w hw=>?_)
  refine⟨x17,rfl,⟨?_,h17.2⟩,hw.rN⟩
  rw[if_neg (by omega)]
  exact h17.1
theorem rm{K:Int->Tr}{i m prev:Int}{s:Mm}{bp bt bm bo bi:Nat}(hK:zI b K s f cap B)(hi:i<=s.nodes.length)(hmm:m<=s.nodes.length)(hpr:prev<=9223372036854775807)(hn:(eC s.nodes m).prev=prev)(o:Bool):pW b 164 [pt bp,pt bt,pt bm,pt bo,pt bi] [.bool o] (bx bp [iv prev]::bx bt [fn f cap]::bx bm [iv m]::bx bo (lS b t)::bx bi [iv i]::B) s (jP i m K):=by
 intro a D A w em ok hm hA hB hw0
 subst em
 refine enter Tryz.func164 Tryz.ntmps164 rfl rfl hw0 ?_
 simp only[bY]
 refine J0 ?_;refine aI (λ x7=>?_);refine aG ?_;refine J0 ?_;refine aB (kX bp [.int .i64 prev] 0 hB rfl) rfl ?_;(refine aB (cA (by(repeat (first|exact cC _|(apply bU;focus ((conv=>{lhs;whnf});try exact rfl))));done)) rfl ?_);refine aQ (cV (hc:=λ w1 hw=>nF _ _ _ w1)) (λ x10=>?_);refine bQ (fR λ _=>aS rf cK rf (bX _) dH rf hU) (λ _=>?_);refine aG ?_
 refine bC Tryz.results164 (λ w hw=>?_)
 refine⟨(mN prev _ _,[],a),rfl,⟨⟨hmm,?_⟩,ok,AS.gZ.refl a⟩,hw.rI⟩
 dsimp only
 rw[hn]
 exact⟨rfl,hpr,_,_,rfl,by kernel_rfl,λ p s1 l hp=>(mx (bt:=bt) (bm:=bm) (bo:=bo) (bi:=bi) (hK.le l) (by have:=l.len;omega) (by have:=l.len;omega) hp).mr (λ y hy=>List.mem_cons_of_mem _ hy)⟩
theorem od{K:Int->Tr}{i m p prev r:Int}{s:Mm}{bo bi bp bq ba:Nat}(hK:qb b (λ _=>jP i m K) s f cap B)(hi:i<=s.nodes.length)(hmm:m<=s.nodes.length)(hp:p<=s.nodes.length)(hr:r<=s.nodes.length)(hn:(eC s.nodes m).prev=prev):pW b 168 [pt bo,pt bi,pt bp,pt bq,pt ba] [.int .i64 r] (bx bo (lS b t)::bx bi [iv i]::bx bp [iv prev]::bx bq [iv p]::bx ba [fn f cap]::B) s (.node r λ nr=>.node i λ ni=>kG i m p (nr.gen==ni.gen) K):=by
 intro a D A w em ok hm hA hB hw0
 subst em
 have hK2:=hK.more (B2:=(bx bo (lS b t)::bx bi [iv i]::bx bp [iv prev]::bx bq [iv p]::bx ba [fn f cap]::B)) (λ x hx=>by simp[hx])
 have hpr:prev<=a.mm.cs.length:=by rw[<- hn];exact(ok.mo.at m).prev
 refine enter Tryz.func168 Tryz.ntmps168 rfl rfl hw0 ?_
 simp only[bY]
 refine J0 ?_;refine aI (λ x7=>?_);refine Mt ?_;refine dZ [(0,[]),(1,[]),(2,[]),(5,[]),(6,[]),(7,[]),(3,[6,7]),(4,[]),(8,[]),(9,[]),(10,[]),(11,[])] ?_;refine aR ?_;refine bT (i:=1) (hq:=(kX bo (lS b t) 0 hB rfl)) (h:=?_);refine aN ?_;refine aR ?_;refine bT (i:=6) (hq:=(kX bo (lS b t) 0 hB rfl)) (h:=?_);refine bT (i:=7) (hq:=(kX bi [.int .i64 i] 0 hB rfl)) (h:=?_);refine bD (i:=3) (hq:=(B5 r ok hm hA hr)) (hfire:=(λ _=>by(refine gA ?_;(repeat (first|exact aW.nil|refine aW.cons (by first|exact iP (hq:=kX bo (lS b t) 0 hB rfl)|exact iP (hq:=kX bi [.int .i64 i] 0 hB rfl)) ?_));done))) (h:=λ x12 h12=>?_);refine wG ?_;refine bD (i:=8) (hq:=(B5 i ok hm hA hi)) (h:=λ x17 h17=>?_);refine wG ?_;refine mD ?_;refine J7 ?_;refine J0 ?_;refine aB (Rm bo (lS b t) 0 3 hB rfl rfl) rfl ?_;refine aB (kX bp [.int .i64 prev] 0 hB rfl) rfl ?_;refine aB (kX bq [.int .i64 p] 0 hB rfl) rfl ?_;refine aA ?_;refine aB (kX ba [fn f cap] 0 hB rfl) rfl ?_;refine aC (zF (λ w1 hw=>Jc (K:=λ _=>jP i m K) hK2 hpr hp ok hm hA hB hw)) (λ x25 h25=>?_);refine bQ (fR λ _=>aS rf cK rf (bX _) dH rf hU) (λ _=>?_);refine aG ?_
 refine bC Tryz.results168 (λ w hw=>?_)
 refine⟨x25,rfl,⟨⟨hr,hi,?_⟩,h25.2⟩,hw.rN⟩
 rw[fU,fU]
 exact Tz hmm hn h25.1
set_option maxRecDepth 100000 in
set_option maxHeartbeats 2000000 in
theorem p8{K:Int->Tr}{i m p prev:Int}{s:Mm}{bt bm bo bi bp:Nat}(ht:t.root<=9223372036854775807)(hK:zI b K s f cap B)(hi:i<=s.nodes.length)(hmm:m<=s.nodes.length)(hp:p<=s.nodes.length)(hn:(eC s.nodes m).prev=prev):pW b 162 [pt bt,pt bm,pt bo,pt bi,pt bp] [.int .i64 p] (bx bt [fn f cap]::bx bm [iv m]::bx bo (lS b t)::bx bi [iv i]::bx bp [iv prev]::B) s (if p=0 then K m else .node p λ np=>if dY np then(if t.ro=true then kG i m p false K else xS t λ r=>.node r λ nr=>.node i λ ni=>kG i m p (nr.gen==ni.gen) K) else Hy i m p K):=by
 intro a D A w em ok hm hA hB hw0
 subst em
 have hK2:=hK.more (B2:=(bx bt [fn f cap]::bx bm [iv m]::bx bo (lS b t)::bx bi [iv i]::bx bp [iv prev]::B)) (λ x hx=>by simp[hx])
 have np:=zU ok p
 have hpr:prev<=a.mm.cs.length:=by rw[<- hn];exact(ok.mo.at m).prev
 have hAg:qb b (λ _=>jP i m K) a.mm 164 [.pointer (some ⟨bp,0,none⟩),.pointer (some ⟨bt,0,none⟩),.pointer (some ⟨bm,0,none⟩),.pointer (some ⟨bo,0,none⟩),.pointer (some ⟨bi,0,none⟩)] (bx bt [fn f cap]::bx bm [iv m]::bx bo (lS b t)::bx bi [iv i]::bx bp [iv prev]::B):=⟨by kernel_rfl,λ o s1 l=>(rm (t:=t) (prev:=prev) (bp:=bp) (bt:=bt) (bm:=bm) (bo:=bo) (bi:=bi) (hK.le l) (by have:=l.len;omega) (by have:=l.len;omega) (nD hm hpr) (by rw[l.nd hmm];exact hn) o).mr (λ y hy=>by
  simp only[List.mem_cons] at hy ⊢
  rcases hy with h|h|h|h|h|h<;>simp[h])⟩
 have hRt:∀x6 x8:Nat,zI b (λ r=>.node r λ nr=>.node i λ ni=>kG i m p (nr.gen==ni.gen) K) a.mm 168 [.pointer (some ⟨bo,0,none⟩),.pointer (some ⟨bi,0,none⟩),.pointer (some ⟨bp,0,none⟩),.pointer (some ⟨x6,0,none⟩),.pointer (some ⟨x8,0,none⟩)] (bx x8 [.func (.func 164) #[] ⟨[.pointer (some ⟨bp,0,none⟩),.pointer (some ⟨bt,0,none⟩),.pointer (some ⟨bm,0,none⟩),.pointer (some ⟨bo,0,none⟩),.pointer (some ⟨bi,0,none⟩)]⟩]::bx x6 [iv p]::(bx bt [fn f cap]::bx bm [iv m]::bx bo (lS b t)::bx bi [iv i]::bx bp [iv prev]::B)):=λ x6 x8=>⟨by kernel_rfl,λ r s1 l hr=>(od (t:=t) (prev:=prev) (bo:=bo) (bi:=bi) (bp:=bp) (bq:=x6) (ba:=x8) (hAg.le l) (by have:=l.len;omega) (by have:=l.len;omega) (by have:=l.len;omega) hr (by rw[l.nd hmm];exact hn)).mr (λ y hy=>by
  simp only[List.mem_cons] at hy ⊢
  rcases hy with h|h|h|h|h|h<;>simp[h])⟩
 refine enter Tryz.func162 Tryz.ntmps162 rfl rfl hw0 ?_
 simp only[bY]
 refine J0 ?_;refine bN (λ x6=>?_);refine aI (λ x7=>?_);refine Mt ?_;refine oV ?_;refine tN ?_
 refine bE (λ c10=>?_) (λ c10=>?_)
 ·refine J0 ?_;refine aB (kX bt [fn f cap] 0 hB rfl) rfl ?_;refine aB (kX bm [.int .i64 m] 0 hB rfl) rfl ?_;refine aC (Rr hK2.1 (hK2.2 m a.mm (Mm.Le.refl _) hmm) ok hm hA hB) (λ x13 h13=>?_);refine bQ (fR λ _=>aS rf cK rf (bX _) dH rf hU) (λ _=>?_);refine aG ?_
  refine bC Tryz.results162 (λ w hw=>?_)
  refine⟨x13,rfl,⟨?_,h13.2⟩,hw.rN⟩
  rw[if_pos (by omega)]
  exact h13.1
 ·refine lK ?_;refine J0 ?_;refine aE ?_;refine aB (kX bo (lS b t) 0 hB rfl) rfl ?_;refine bR ?_;refine aC (B5 p ok hm hA hp) (λ x17 h17=>?_);refine aC (c0 (V:=.bool) (hc:=λ w1 hw=>S2 ((aD (cB a.L) p).at_ x17.1 x17.2).nd w1)) (λ x18 h18=>?_);refine pA ?_
  refine bE (λ c19=>?_) (λ c19=>?_)
  ·refine J0 ?_;refine aB (Rm bo (lS b t) 0 3 hB rfl rfl) rfl ?_;refine aB (kX bi [.int .i64 i] 0 hB rfl) rfl ?_;refine aB (kX bm [.int .i64 m] 0 hB rfl) rfl ?_;refine bR ?_;refine aB (kX bt [fn f cap] 0 hB rfl) rfl ?_;refine aC (zF (λ w1 hw=>Vl hK2 hi hmm hp ok hm hA hB hw)) (λ x25 h25=>?_);refine bQ (fR λ _=>aS rf cK rf (bX _) dH rf hU) (λ _=>?_);refine aG ?_
   refine bC Tryz.results162 (λ w hw=>?_)
   refine⟨x25,rfl,⟨?_,h25.2⟩,hw.rN⟩
   rw[if_neg (by omega)]
   refine⟨hp,?_⟩
   rw[fU]
   dsimp only
   rw[if_neg (λ hk=>by have h2:=h18.2 hk;rw[h2] at c19;cases c19)]
   exact h25.1
  ·refine aZ ?_;refine J0 ?_;(refine aB (cA (by(repeat (first|exact cC _|(apply bU;focus ((conv=>{lhs;whnf});try exact rfl))));done)) rfl ?_);refine aQ (fR λ _=>Gm (z:=.nilFunc) (by kernel_rfl) rfl) (λ x8=>?_);refine J5 ?_;refine aV ?_;refine J0 ?_;refine aE ?_;refine aE ?_;refine aB (kX bo (lS b t) 2 hB rfl) rfl ?_;refine aG ?_
   refine bE (λ c29=>?_) (λ c29=>?_)
   ·refine J0 ?_;refine aB (Rm bo (lS b t) 0 3 hB rfl rfl) rfl ?_;refine aB (kX bp [.int .i64 prev] 0 hB rfl) rfl ?_;refine bR ?_;refine bR ?_;refine aC (zF (λ w1 hw=>Jc (K:=λ _=>jP i m K) hAg hpr hp ok hm hA hB hw)) (λ x34 h34=>?_);refine bQ (fR λ _=>aS rf cK rf (bX _) dH rf hU) (λ _=>?_);refine aG ?_
    refine bC Tryz.results162 (λ w hw=>?_)
    refine⟨x34,rfl,⟨?_,h34.2⟩,hw.rN⟩
    rw[if_neg (by omega)]
    refine⟨hp,?_⟩
    rw[fU]
    dsimp only
    rw[if_pos (show dY (aD (cB a.L) p).c from h18.1 (by simpa using c19)),if_pos c29]
    exact Tz hmm hn h34.1
   ·refine Sq (λ w h=>(show SF _ _ [_,(b,fA a)] _ [_,_] _ w from(h.cR (.tail (.tail .head))).cR .head)) ?_
    refine aZ ?_;refine J0 ?_;refine aB (Rm bo (lS b t) 0 3 hB rfl rfl) rfl ?_;(refine aB (cA (by(repeat (first|exact cC _|(apply bU;focus ((conv=>{lhs;whnf});try exact rfl))));done)) rfl ?_);refine aC (cM (V:=λ y:Cd×Fr×AS=>.agg ⟨y.1.cells⟩) (hs:=[(b,fA a)]) (os:=fQ a) (hs':=λ y=>[(b,fA y.2.2)]) (os':=λ y=>fQ y.2.2) (Fc:=λ y=>y.2.1) (A0:=bx x8 [.func (.func 164) #[] ⟨[.pointer (some ⟨bp,0,none⟩),.pointer (some ⟨bt,0,none⟩),.pointer (some ⟨bm,0,none⟩),.pointer (some ⟨bo,0,none⟩),.pointer (some ⟨bi,0,none⟩)]⟩]::bx x6 [iv p]::A) (hA:=bA.ax) (hc:=λ w1 hw=>qh (K:=λ r=>.node r λ nr=>.node i λ ni=>kG i m p (nr.gen==ni.gen) K) (B:=bx x8 [.func (.func 164) #[] ⟨[.pointer (some ⟨bp,0,none⟩),.pointer (some ⟨bt,0,none⟩),.pointer (some ⟨bm,0,none⟩),.pointer (some ⟨bo,0,none⟩),.pointer (some ⟨bi,0,none⟩)]⟩]::bx x6 [iv p]::(bx bt [fn f cap]::bx bm [iv m]::bx bo (lS b t)::bx bi [iv i]::bx bp [iv prev]::B)) ht (hRt x6 x8) ok hm (λ f hf=>List.mem_cons_of_mem _ (List.mem_cons_of_mem _ (hA f hf))) (Fj hB) hw)) (λ x37 h37=>?_);refine bQ (fR λ _=>aS rf cK rf (bX _) dH rf hU) (λ _=>?_);refine aG ?_
    refine bC Tryz.results162 (λ w hw=>?_)
    refine⟨(x37.1,x37.2.1++[bx x8 [.func (.func 164) #[] ⟨[.pointer (some ⟨bp,0,none⟩),.pointer (some ⟨bt,0,none⟩),.pointer (some ⟨bm,0,none⟩),.pointer (some ⟨bo,0,none⟩),.pointer (some ⟨bi,0,none⟩)]⟩],bx x6 [iv p]],x37.2.2),rfl,⟨?_,h37.2.1,h37.2.2.more (λ f hf=>List.mem_append_left _ hf)⟩,hw.rI⟩
    rw[if_neg (by omega)]
    refine⟨hp,?_⟩
    rw[fU]
    dsimp only
    rw[if_pos (show dY (aD (cB a.L) p).c from h18.1 (by simpa using c19)),if_neg (by rw[c29];decide)]
    rw[List.append_assoc]
    exact h37.1
theorem Xn{K:Int->Tr}{i m:Int}(ht:t.root<=9223372036854775807)(hK:zI b K a.mm f cap B)(hi:i<=a.mm.nodes.length)(hmm:m<=a.mm.nodes.length)(ok:a.Ok)(hm:a.mm.Small)(hA:∀f∈aM a.L,f∈A)(hB:∀x∈B,x∈A)(hs:SF w D [(b,fA a)] A [] (fQ a) w) :
  Calls Tryz.prog 121 #[.agg ⟨lS b t⟩,.int .i64 i,.int .i64 m,fn f cap] w (zC b (λ c' s' B'=>iY b (oS t i m K) a.mm c' s' B') a B D w):=by
 have nm:=zU ok m
 refine enter Tryz.func121 Tryz.ntmps121 rfl rfl hs ?_
 simp only[bY]
 refine J0 ?_;refine bN (λ x4=>?_);refine bN (λ x5=>?_);refine bN (λ x6=>?_);refine bN (λ x7=>?_);refine aI (λ x8=>?_);refine aG ?_;refine hJ ?_;refine bR ?_;refine aC (B5 m ok hm hA hmm) (λ x13 h13=>?_);refine cW ?_;refine aQ (fR λ _=>Gm (z:=.int .i64 0) (by kernel_rfl) rfl) (λ x9=>?_);refine J5 ?_;refine oV ?_;(refine aB (cA (by(repeat (first|exact cC _|(apply bU;focus ((conv=>{lhs;whnf});try exact rfl))));done)) rfl ?_);refine aQ (cV (hc:=λ w1 hw=>nF _ _ _ w1)) (λ x17=>?_);refine bQ (fR λ _=>aS rf cK rf (bX _) dH rf hU) (λ _=>?_);refine aG ?_
 refine bC Tryz.results121 (λ w hw=>?_)
 refine⟨(mN (aD (cB a.L) m).nd.prev _ _,[bx x4 (lS b t),bx x5 [iv i],bx x6 [iv m],bx x7 [fn f cap],bx x9 [iv (aD (cB a.L) m).nd.prev]],a),rfl,⟨⟨hmm,?_⟩,ok,(AS.gZ.refl a).more (λ _ h=>(List.not_mem_nil h).elim)⟩,?_⟩
 ·rw[fU]
  refine⟨rfl,nD hm nm.prev,_,_,rfl,by kernel_rfl,λ p s1 l hp=>(p8 (bt:=x7) (bm:=x6) (bo:=x4) (bi:=x5) (bp:=x9) (prev:=(aD (cB a.L) m).nd.prev) ht (hK.le l) (by have:=l.len;omega) (by have:=l.len;omega) hp (by rw[l.nd hmm,fU];rfl)).mr (λ y hy=>?_)⟩
  simp only[List.mem_cons,List.mem_append,List.not_mem_nil,or_false] at hy ⊢
  rcases hy with h|h|h|h|h|h<;>simp[h]
 ·exact(((((hw.cR .head).cR (.tail .head)).cR (.tail .head)).cR (.tail .head)).cR (.tail .head)).rI
end
end

end Go.Proofs.YtbajmaoegmbfgaaGreat

/- gcas: back, Complete, decide. -/
import Derived.Test.YtbajmaoegmbfgaaGreatGLk3

set_option linter.unusedSimpArgs false
set_option linter.unusedVariables false
namespace Go.Proofs.YtbajmaoegmbfgaaGreat
section
open Go Go.RowKit Go.Ct
abbrev iV(b:Nat)(t:eQ):List Value:=[.iface 42 (.pointer (some ⟨b,0,none⟩)),.int .i64 t.root,.bool t.ro]
def jx(prev p:Int)(c:Bool)(K:Bool->Tr):Tr:=if c=true then .hY prev p 0 K else .alloc (yV p) 0 λ f=>.hY prev p f K
theorem mK{a:AS}(hm:a.mm.Small){x:Int}(h:x<=a.mm.cs.length):x<=9223372036854775807:=by have:=hm.2;omega
theorem D4{a:AS}(ok:a.Ok)(r:Int):mB a.mm.nodes.length a.mm.cs.length (aB (cN a.L) r).c:=by rw[<- iN];exact ok.mo.at r
section
variable{D:List Nat}{A B:Fr}{a:AS}{b:Nat}{w:World}{f:FuncId}{cap:List Value}{t:eQ}
theorem fp{K:Int->Tr}{v:Int}{s:Mm}{b2 b3:Nat}(hK:Ah b K s f cap B)(hv:v<=s.nodes.length)(o:Bool):pA b 201 [pt b2,pt b3] [.bool o] (bx b3 [.int .i64 v]::bx b2 [fn f cap]::B) s (K v):=by
 intro a D A w em ok hm hA hB hw0
 subst em
 have hK2:=hK.more (B2:=(bx b3 [.int .i64 v]::bx b2 [fn f cap]::B)) (λ x hx=>by simp[hx])
 refine enter Tryz.func201 Tryz.ntmps201 rfl rfl hw0 ?_
 simp only[cA]
 refine J0 ?_;refine aJ (λ x4=>?_);refine aG ?_;refine J0 ?_;refine aC (nQ b2 [fn f cap] 0 hB rfl) rfl ?_;refine aC (nQ b3 [.int .i64 v] 0 hB rfl) rfl ?_;refine aD (Na hK.1 (hK2.2 v a.mm (Mm.Le.refl _) hv) ok hm hA hB) (λ x7 h7=>?_);refine bY (gV λ _=>aZ rf cY rf (cK _) eF rf jI) (λ _=>?_);refine aG ?_
 refine aY Tryz.results201 (λ w hw=>?_)
 exact⟨x7,rfl,h7,hw.rN⟩
theorem Am{K:Int->Tr}{v:Int}{s:Mm}{b2 b3:Nat}(hK:Ah b K s f cap B)(hv:v<=s.nodes.length)(o:Bool):pA b 174 [pt b2,pt b3] [.bool o] (bx b3 [.int .i64 v]::bx b2 [fn f cap]::B) s (K v):=by
 intro a D A w em ok hm hA hB hw0
 subst em
 have hK2:=hK.more (B2:=(bx b3 [.int .i64 v]::bx b2 [fn f cap]::B)) (λ x hx=>by simp[hx])
 refine enter Tryz.func174 Tryz.ntmps174 rfl rfl hw0 ?_
 simp only[cA]
 refine J0 ?_;refine aJ (λ x4=>?_);refine aG ?_;refine J0 ?_;refine aC (nQ b2 [fn f cap] 0 hB rfl) rfl ?_;refine aC (nQ b3 [.int .i64 v] 0 hB rfl) rfl ?_;refine aD (Na hK.1 (hK2.2 v a.mm (Mm.Le.refl _) hv) ok hm hA hB) (λ x7 h7=>?_);refine bY (gV λ _=>aZ rf cY rf (cK _) eF rf jI) (λ _=>?_);refine aG ?_
 refine aY Tryz.results174 (λ w hw=>?_)
 exact⟨x7,rfl,h7,hw.rN⟩
theorem Vk{K:Int->Tr}{i m p:Int}(hK:Ah b K a.mm f cap B)(hi:i<=a.mm.nodes.length)(hmm:m<=a.mm.nodes.length)(hp:p<=a.mm.nodes.length)(ok:a.Ok)(hm:a.mm.Small)(hA:∀f∈aL a.L,f∈A)(hB:∀x∈B,x∈A)(hs:SF w D [(b,dV a)] A [] (eC a) w) :
  Calls Tryz.prog 163 #[.agg ⟨iV b t⟩,.int .i64 i,.int .i64 m,.int .i64 p,fn f cap] w (Av b (λ c' s' B'=>lW b (Bb i m p K) a.mm c' s' B') a B D w):=by
 have ni:=D4 ok i
 have np:=D4 ok p
 refine enter Tryz.func163 Tryz.ntmps163 rfl rfl hs ?_
 simp only[cA]
 refine J0 ?_;refine bK (λ x5=>?_);refine bK (λ x9=>?_);refine aJ (λ x10=>?_);refine aG ?_;refine Kd0 ?_;refine aD (I6 p ok hm hA hp) (λ x15 h15=>?_);refine cC ?_;refine aN (gV λ _=>Ih (z:=.int .i64 0) (by kernel_rfl) rfl) (λ x11=>?_);refine J5 ?_;refine aS ?_;refine eG [(0,[]),(1,[]),(2,[]),(5,[]),(6,[]),(7,[]),(3,[6]),(4,[]),(8,[]),(9,[])] ?_;refine nA ?_;refine iF ?_;refine bO ?_;(refine cP (i:=7) (hq:=bZ) (h:=?_));refine bC (i:=3) (hq:=(I6 i ok hm hA hi)) (h:=λ x20 h20=>?_);refine mZ ?_;refine cO (i:=8) (hq:=(cV (hc:=λ w1 hw=>sX _ _ _ _ _ w1))) (h:=λ x25=>?_);refine lI (i:=9) (hq:=(gV λ _=>aZ rf cY rf (cK _) eF rf jI)) (h:=λ _=>?_);refine eU ?_
 refine aY Tryz.results163 (λ w hw=>?_)
 refine⟨(uM (aB (cN a.L) i).nd.main m (aB (cN a.L) p).nd.bA _ _,[bx x11 [.int .i64 (aB (cN a.L) p).nd.bA],bx x9 [fn f cap]],a),rfl,⟨?_,ok,(AS.iD.refl a).more (λ _ h=>(List.not_mem_nil h).elim)⟩,?_⟩
 ·refine⟨hi,hp,?_⟩
  rw[iN,iN]
  refine⟨rfl,mK hm ni.main,np.bA,_,_,rfl,by kernel_rfl,λ v s1 l=>?_⟩
  show zQ b _ _ _ _ s1 λ c' s' B'=>p<=s1.nodes.length/\lW b (K (bQ s1.nodes p).bA) s1 c' s' B'
  rw[l.nd hp,iN]
  have hlen:=l.len
  exact(fp (hK.le l) (by have h2:(aB (cN a.L) p).nd.bA<=a.mm.nodes.length:=np.bA;omega) v).more (λ _ h=>h) λ c m C C2 hC h=>⟨by omega,h.more hC⟩
 ·exact((hw.cQ (.tail (.tail .head))).cQ .head).rI
theorem oR{K:Int->Tr}{v s:Int}(ht:t.root<=9223372036854775807)(hK:Ah b K a.mm f cap B)(hv:v<=a.mm.nodes.length)(ok:a.Ok)(hm:a.mm.Small)(hA:∀f∈aL a.L,f∈A)(hB:∀x∈B,x∈A)(hs:SF w D [(b,dV a)] A [] (eC a) w) :
  Calls Tryz.prog 141 #[.agg ⟨iV b t⟩,.int .i64 v,.int .i64 s,fn f cap] w (Av b (λ c' s' B'=>lW b (iE t v s K) a.mm c' s' B') a B D w):=by
 have nv:=D4 ok v
 refine enter Tryz.func141 Tryz.ntmps141 rfl rfl hs ?_
 simp only[cA]
 refine J0 ?_;refine bK (λ x4=>?_);refine bK (λ x7=>?_);refine aJ (λ x8=>?_);refine aG ?_;refine Kd0 ?_;refine aD (I6 v ok hm hA hv) (λ x14 h14=>?_);refine aJ (λ x9=>?_);refine J5 ?_;refine iB ?_;refine aN (gV λ _=>Ih (z:=.int .i64 0) (by kernel_rfl) rfl) (λ x10=>?_);refine J5 ?_;refine kR ?_;refine sU ?_
 refine bD (λ c18=>?_) (λ c18=>?_)
 ·refine dG ?_;refine J3 ?_;refine J5 ?_;refine Ka7 ?_;refine Kc9 ?_;refine bM ?_;(refine aC bZ rfl ?_);refine aN (cV (hc:=λ w1 hw=>sX _ _ _ _ _ w1)) (λ x27=>?_);refine bY (gV λ _=>aZ rf cY rf (cK _) eF rf jI) (λ _=>?_);refine aG ?_
  refine aY Tryz.results141 (λ w hw=>?_)
  refine⟨(uM t.root v (aB (cN a.L) v).nd.new _ _,[bx x10 [.int .i64 (aB (cN a.L) v).nd.new],bx x7 [fn f cap]],a),rfl,⟨?_,ok,(AS.iD.refl a).more (λ _ h=>(List.not_mem_nil h).elim)⟩,?_⟩
  ·refine⟨hv,?_⟩
   rw[iN]
   have e:(if s=1 then(aB (cN a.L) v).c.new else(aB (cN a.L) v).c.bA)=(aB (cN a.L) v).nd.new:=by exact if_pos (by omega)
   dsimp only
   rw[e]
   refine⟨rfl,ht,nv.new,_,_,rfl,by kernel_rfl,λ o s1 l=>?_⟩
   have hlen:=l.len
   exact Am (hK.le l) (by have h2:(aB (cN a.L) v).nd.new<=a.mm.nodes.length:=nv.new;omega) o
  ·exact((hw.cQ (.tail (.tail (.tail .head)))).cQ .head).rI
 ·refine aW ?_;refine Ka7 ?_;refine Kc9 ?_;refine bM ?_;(refine aC bZ rfl ?_);refine aN (cV (hc:=λ w1 hw=>sX _ _ _ _ _ w1)) (λ x27=>?_);refine bY (gV λ _=>aZ rf cY rf (cK _) eF rf jI) (λ _=>?_);refine aG ?_
  refine aY Tryz.results141 (λ w hw=>?_)
  refine⟨(uM t.root v (aB (cN a.L) v).nd.bA _ _,[bx x10 [.int .i64 (aB (cN a.L) v).nd.bA],bx x7 [fn f cap]],a),rfl,⟨?_,ok,(AS.iD.refl a).more (λ _ h=>(List.not_mem_nil h).elim)⟩,?_⟩
  ·refine⟨hv,?_⟩
   rw[iN]
   have e:(if s=1 then(aB (cN a.L) v).c.new else(aB (cN a.L) v).c.bA)=(aB (cN a.L) v).nd.bA:=by exact if_neg (by omega)
   dsimp only
   rw[e]
   refine⟨rfl,ht,nv.bA,_,_,rfl,by kernel_rfl,λ o s1 l=>?_⟩
   have hlen:=l.len
   exact Am (hK.le l) (by have h2:(aB (cN a.L) v).nd.bA<=a.mm.nodes.length:=nv.bA;omega) o
  ·exact((hw.cQ (.tail (.tail (.tail .head)))).cQ .head).rI
theorem Ji{K:Bool->Tr}{prev p:Int}{c:Bool}(hK:S6 b K a.mm f cap B)(hpr:prev<=a.mm.cs.length)(hp:p<=a.mm.nodes.length)(ok:a.Ok)(hm:a.mm.Small)(hA:∀f∈aL a.L,f∈A)(hB:∀x∈B,x∈A)(hs:SF w D [(b,dV a)] A [] (eC a) w) :
  Calls Tryz.prog 166 #[.agg ⟨iV b t⟩,.int .i64 prev,.int .i64 p,.bool c,fn f cap] w (Av b (λ c' s' B'=>lW b (jx prev p c K) a.mm c' s' B') a B D w):=by
 refine enter Tryz.func166 Tryz.ntmps166 rfl rfl hs ?_
 simp only[cA]
 refine J0 ?_;refine bK (λ x5=>?_);refine aJ (λ x10=>?_);refine aG ?_;refine kR ?_;refine aG ?_
 refine bD (λ c12=>?_) (λ c12=>?_)
 ·refine Kb8 ?_;refine aN (cV (hc:=λ w1 hw=>sX _ _ _ _ _ w1)) (λ x16=>?_);refine bY (gV λ _=>aZ rf cY rf (cK _) eF rf jI) (λ _=>?_);refine aG ?_
  refine aY Tryz.results166 (λ w hw=>?_)
  refine⟨(uM prev p 0 f cap,[],a),rfl,⟨?_,ok,AS.iD.refl a⟩,hw.rI⟩
  unfold jx
  rw[if_pos (by assumption)]
  exact⟨rfl,mK hm hpr,bL _,f,cap,rfl,hK.1,λ v s1 l=>hK.2 v s1 l⟩
 ·refine kO ?_;refine eG [(0,[]),(1,[]),(2,[]),(4,[]),(5,[]),(3,[1]),(6,[]),(7,[])] ?_;refine nA ?_;refine aT ?_;refine cP (i:=4) (hq:=(D7 rf)) (h:=?_);refine aT ?_;refine cO (i:=3) (hq:=(cV (hc:=λ w1 hw=>iu p w1))) (h:=λ x20=>?_);refine bC (i:=6) (hq:=(cMI (V:=λ _:AX=>.int .i64 ((a.mm.nodes.length+1:Nat):Int)) (hs:=[(b,dV a)]) (os:=eC a) (A0:=[(none,aH []),(none,cZ [])]) (hs':=λ x=>[(b,dV (a.al ({Nd.zero with kind:=7,bA:=p}:Nd) [] [] 0 x))]) (os':=λ x=>eC (a.al ({Nd.zero with kind:=7,bA:=p}:Nd) [] [] 0 x)) (Fc:=λ x=>(jU ({Nd.zero with kind:=7,bA:=p}:Nd) [] [] a.cs.length x).fr) (hm:=λ w=>xQ _ _ _ w) (hc:=λ w1 hw=>sC ok hm 0 rfl rfl (by simp) (by simp) (λ f hf=>hf) hw))) (h:=λ x23 h23=>?_);refine J7 ?_;refine jJ ?_;refine pV ?_;refine aN (cV (hc:=λ w1 hw=>sX _ _ _ _ _ w1)) (λ x28=>?_);refine bY (gV λ _=>aZ rf cY rf (cK _) eF rf jI) (λ _=>?_);refine aG ?_
  refine aY Tryz.results166 (λ w hw=>?_)
  refine⟨(uM prev p ((a.mm.nodes.length+1:Nat):Int) f cap,(jU ({Nd.zero with kind:=7,bA:=p}:Nd) [] [] a.cs.length x23).fr,a.al ({Nd.zero with kind:=7,bA:=p}:Nd) [] [] 0 x23),rfl,⟨?_,ok.al x23 (by simp) (by simp) ⟨?_,bL _,bL _,(λ r hr=>nomatch hr),bL _,bL _,bL _,⟨0,rfl,by decide⟩,⟨0,rfl,by decide⟩⟩ (by omega),AS.iD.al a _ _ _ _ x23⟩,hw.rI⟩
  ·unfold jx
   rw[if_neg (by simp_all)]
   have hl:=Mi a.mm (yV p) 0
   refine⟨pQ a _ _ _ _ x23,?_,?_,f,cap,rfl,hK.1,λ v s1 l=>(hK.2 v s1 (hl.trans l)).more (λ x hx=>List.mem_append_right _ hx) λ _ _ _ _ hC h=>h.more hC⟩
   ·have:=hl.cl;have:=hm.2;omega
   ·show _<=(((a.mm.nodes++[_]).length:Nat):Int)
    rw[List.length_append]
    simp
  ·show p<=_
   exact hp
end
end

/- gcas: root. -/
section
open Go Go.RowKit Go.Ct
section
variable{D:List Nat}{A B:Fr}{a:AS}{b:Nat}{w:World}{f:FuncId}{cap:List Value}{t:eQ}
theorem ld{K:Int->Tr}{v x:Int}{s:Mm}{b1 b2 b3:Nat}(ht:t.root<=9223372036854775807)(hK:Ah b K s f cap B)(hv:v<=s.nodes.length):pA b 206 [pt b1,pt b2,pt b3] [.int .i64 x] (bx b1 (iV b t)::bx b2 [iv v]::bx b3 [fn f cap]::B) s (iE t v x K):=by
 intro a D A w em ok hm hA hB hw0
 subst em
 have hK2:=hK.more (B2:=(bx b1 (iV b t)::bx b2 [iv v]::bx b3 [fn f cap]::B)) (λ x hx=>by simp[hx])
 refine enter Tryz.func206 Tryz.ntmps206 rfl rfl hw0 ?_
 simp only[cA]
 refine J0 ?_;refine aJ (λ x5=>?_);refine aG ?_;refine J0 ?_;refine aC (Qv b1 (iV b t) 0 3 hB rfl rfl) rfl ?_;refine aC (nQ b2 [.int .i64 v] 0 hB rfl) rfl ?_;refine aA ?_;refine aC (nQ b3 [fn f cap] 0 hB rfl) rfl ?_;refine aD (Cn (λ w1 hw=>oR ht hK2 hv ok hm hA hB hw)) (λ x10 h10=>?_);refine bY (gV λ _=>aZ rf cY rf (cK _) eF rf jI) (λ _=>?_);refine aG ?_
 refine aY Tryz.results206 (λ w hw=>?_)
 exact⟨x10,rfl,h10,hw.rN⟩
theorem fv{K:Int->Tr}{v:Int}{s:Mm}{b0 b1 b2 b3:Nat}{nd:Nd}(ht:t.root<=9223372036854775807)(hK:Ah b K s f cap B)(hv:v<=s.nodes.length)(hd:nd.status<=9223372036854775807)(o:Bool):pA b 205 [pt b0,pt b1,pt b2,pt b3] [.bool o] (bx b0 (nd.cells:List Value)::bx b1 (iV b t)::bx b2 [iv v]::bx b3 [fn f cap]::B) s (.load nd.status λ s=>iE t v s K):=by
 intro a D A w em ok hm hA hB hw0
 subst em
 have hK2:=hK.more (B2:=(bx b0 (nd.cells:List Value)::bx b1 (iV b t)::bx b2 [iv v]::bx b3 [fn f cap]::B)) (λ x hx=>by simp[hx])
 refine enter Tryz.func205 Tryz.ntmps205 rfl rfl hw0 ?_
 simp only[cA]
 refine J0 ?_;refine aJ (λ x6=>?_);refine aG ?_;refine Ka7 ?_;refine aC (nQ b0 (nd.cells:List Value) 13 hB rfl) rfl ?_;(refine aC bZ rfl ?_);refine aN (cV (hc:=λ w1 hw=>nY _ _ _ w1)) (λ x10=>?_);refine bY (gV λ _=>aZ rf cY rf (cK _) eF rf jI) (λ _=>?_);refine aG ?_
 refine aY Tryz.results205 (λ w hw=>?_)
 exact⟨(nU nd.status _ _,[],a),rfl,⟨⟨rfl,hd,_,_,rfl,by kernel_rfl,λ x s1 l hx=>(ld (b1:=b1) (b2:=b2) (b3:=b3) ht (hK.le l) (by have:=l.len;omega)).mr (λ y hy=>List.mem_cons_of_mem _ hy)⟩,ok,AS.iD.refl a⟩,hw.rI⟩
theorem dy{K:Int->Tr}{v x:Int}{s:Mm}{b0 b1 b2 b3:Nat}{nd:Nd}(ht:t.root<=9223372036854775807)(hK:Ah b K s f cap B)(hv:v<=s.nodes.length)(hd:nd.status<=9223372036854775807)(hn:(bQ s.nodes v).status=nd.status):pA b 204 [pt b1,pt b2,pt b3,pt b0] [.int .i64 x] (bx b1 (iV b t)::bx b2 [iv v]::bx b3 [fn f cap]::bx b0 (nd.cells:List Value)::B) s (if x=0 then .node v λ n=>.hY n.status 0 2 λ _=>.node v λ n=>.load n.status λ s=>iE t v s K else iE t v x K):=by
 intro a D A w em ok hm hA hB hw0
 subst em
 have hK2:=hK.more (B2:=(bx b1 (iV b t)::bx b2 [iv v]::bx b3 [fn f cap]::bx b0 (nd.cells:List Value)::B)) (λ x hx=>by simp[hx])
 refine enter Tryz.func204 Tryz.ntmps204 rfl rfl hw0 ?_
 simp only[cA]
 refine J0 ?_;refine aJ (λ x6=>?_);refine aG ?_;refine kR ?_;refine Kc6 ?_
 refine bD (λ c8=>?_) (λ c8=>?_)
 ·refine J0 ?_;refine aC (Qv b1 (iV b t) 0 3 hB rfl rfl) rfl ?_;refine aC (nQ b2 [.int .i64 v] 0 hB rfl) rfl ?_;refine aA ?_;refine aC (nQ b3 [fn f cap] 0 hB rfl) rfl ?_;refine aD (Cn (λ w1 hw=>oR ht hK2 hv ok hm hA hB hw)) (λ x13 h13=>?_);refine bY (gV λ _=>aZ rf cY rf (cK _) eF rf jI) (λ _=>?_);refine aG ?_
  refine aY Tryz.results204 (λ w hw=>?_)
  refine⟨x13,rfl,⟨?_,h13.2⟩,hw.rN⟩
  rw[if_neg (by omega)]
  exact h13.1
 ·refine aW ?_;refine Ka7 ?_;refine aC (nQ b0 (nd.cells:List Value) 13 hB rfl) rfl ?_;(refine aC bZ rfl ?_);refine aN (cV (hc:=λ w1 hw=>sX _ _ _ _ _ w1)) (λ x17=>?_);refine bY (gV λ _=>aZ rf cY rf (cK _) eF rf jI) (λ _=>?_);refine aG ?_
  refine aY Tryz.results204 (λ w hw=>?_)
  refine⟨(uM nd.status 0 2 _ _,[],a),rfl,⟨?_,ok,AS.iD.refl a⟩,hw.rI⟩
  rw[if_pos (by omega)]
  refine⟨hv,?_⟩
  dsimp only
  rw[hn]
  refine⟨rfl,hd,by have:=ok.mo.two;omega,_,_,rfl,by kernel_rfl,λ o s1 l=>?_⟩
  have hlen:=l.len
  show zQ b _ _ _ _ s1 λ c' s' B'=>v<=s1.nodes.length/\lW b (.load (bQ s1.nodes v).status λ s=>iE t v s K) s1 c' s' B'
  rw[l.nd hv,hn]
  exact(fv (b0:=b0) (b1:=b1) (b2:=b2) (b3:=b3) (nd:=nd) ht (hK.le l) (by omega) hd o).more (λ y hy=>by
  simp only[List.mem_cons,List.append_eq,List.nil_append] at hy ⊢
  rcases hy with h|h|h|h|h<;>simp[h]) λ c m C C2 hC h=>⟨by omega,h.more hC⟩
theorem Z2{K:Int->Tr}{v:Int}{s:Mm}{b1 b3:Nat}(ht:t.root<=9223372036854775807)(hK:Ah b K s f cap B)(hv:v<=s.nodes.length):pA b 203 [pt b1,pt b3] [.int .i64 v] (bx b1 (iV b t)::bx b3 [fn f cap]::B) s (.node v λ n=>if n.kind=2 then K v else .node v λ n=>.load n.status λ s=>if s=0 then .node v λ n=>.hY n.status 0 2 λ _=>.node v λ n=>.load n.status λ s=>iE t v s K else iE t v s K):=by
 intro a D A w em ok hm hA hB hw0
 subst em
 have hK2:=hK.more (B2:=(bx b1 (iV b t)::bx b3 [fn f cap]::B)) (λ x hx=>by simp[hx])
 have nv:=D4 ok v
 refine enter Tryz.func203 Tryz.ntmps203 rfl rfl hw0 ?_
 simp only[cA]
 refine J0 ?_;refine bK (λ x3=>?_);refine aJ (λ x4=>?_);refine aG ?_;refine Ka7 ?_;refine aC (nQ b1 (iV b t) 0 hB rfl) rfl ?_;refine bM ?_;refine aD (I6 v ok hm hA hv) (λ x9 h9=>?_);refine aJ (λ x5=>?_);refine J5 ?_;refine Kc5 ?_
 refine bD (λ c12=>?_) (λ c12=>?_)
 ·refine J0 ?_;refine aC (nQ b3 [fn f cap] 0 hB rfl) rfl ?_;refine bM ?_;refine aD (Na hK2.1 (hK2.2 v a.mm (Mm.Le.refl _) hv) ok hm hA hB) (λ x15 h15=>?_);refine bY (gV λ _=>aZ rf cY rf (cK _) eF rf jI) (λ _=>?_);refine aG ?_
  refine aY Tryz.results203 (λ w hw=>?_)
  refine⟨x15,rfl,⟨⟨hv,?_⟩,h15.2⟩,hw.rN⟩
  rw[iN]
  dsimp only
  rw[if_pos (by assumption)]
  exact h15.1
 ·refine aW ?_;refine iB ?_;(refine aC bZ rfl ?_);refine aN (cV (hc:=λ w1 hw=>nY _ _ _ w1)) (λ x19=>?_);refine bY (gV λ _=>aZ rf cY rf (cK _) eF rf jI) (λ _=>?_);refine aG ?_
  refine aY Tryz.results203 (λ w hw=>?_)
  refine⟨(nU (aB (cN a.L) v).nd.status _ _,[bx x5 (((aB (cN a.L) v).at_ x9.1 x9.2).nd.cells:List Value),bx x3 [iv v]],a),rfl,⟨⟨hv,?_⟩,ok,(AS.iD.refl a).more (λ _ h=>(List.not_mem_nil h).elim)⟩,?_⟩
  ·rw[iN]
   dsimp only
   rw[if_neg (by assumption)]
   refine⟨hv,?_⟩
   rw[iN]
   refine⟨rfl,mK hm nv.status,_,_,rfl,by kernel_rfl,λ x s1 l hx=>?_⟩
   have hlen:=l.len
   exact(dy (b0:=x5) (b1:=b1) (b2:=x3) (b3:=b3) (nd:=((aB (cN a.L) v).at_ x9.1 x9.2).nd) ht (hK.le l) (by omega) (mK hm nv.status) (by rw[l.nd hv,iN];rfl)).mr (λ y hy=>by
   simp only[List.mem_cons,List.append_eq,List.nil_append,List.mem_append,List.not_mem_nil,or_false] at hy ⊢
   rcases hy with h|h|h|h|h<;>simp[h])
  ·exact((hw.cQ (.tail (.tail .head))).cQ .head).rI
theorem si{K:Int->Tr}(ht:t.root<=9223372036854775807)(hK:Ah b K a.mm f cap B)(ok:a.Ok)(hm:a.mm.Small)(hA:∀f∈aL a.L,f∈A)(hB:∀x∈B,x∈A)(hs:SF w D [(b,dV a)] A [] (eC a) w) :
  Calls Tryz.prog 167 #[.agg ⟨iV b t⟩,fn f cap] w (Av b (λ c' s' B'=>lW b (yW t K) a.mm c' s' B') a B D w):=by
 refine enter Tryz.func167 Tryz.ntmps167 rfl rfl hs ?_
 simp only[cA]
 refine J0 ?_;refine bK (λ x2=>?_);refine bK (λ x3=>?_);refine aJ (λ x4=>?_);refine aG ?_;refine Ka7 ?_;refine J3 ?_;(refine aC bZ rfl ?_);refine aN (cV (hc:=λ w1 hw=>nY _ _ _ w1)) (λ x9=>?_);refine bY (gV λ _=>aZ rf cY rf (cK _) eF rf jI) (λ _=>?_);refine aG ?_
 refine aY Tryz.results167 (λ w hw=>?_)
 refine⟨(nU t.root _ _,[bx x2 (iV b t),bx x3 [fn f cap]],a),rfl,⟨⟨rfl,ht,_,_,rfl,by kernel_rfl,λ v s1 l hv=>Z2 (b1:=x2) (b3:=x3) ht (hK.le l) hv⟩,ok,(AS.iD.refl a).more (λ _ h=>(List.not_mem_nil h).elim)⟩,?_⟩
 exact((hw.cQ (.tail .head)).cQ (.tail .head)).rI
end
end

/- gcas: settle. -/
section
open Go Go.RowKit Go.Ct
theorem Vb{b:Nat}{i m p prev:Int}{c:Bool}{K:Int->Tr}{s s2:Mm}{cd:Cd}{B:Fr}(hmm:m<=s.nodes.length)(hn:(bQ s.nodes m).prev=prev)(h:lW b (jx prev p c λ _=>iK i m K) s cd s2 B):lW b (jK i m p c K) s cd s2 B:=by
 subst hn
 unfold jx at h
 unfold jK
 split
 ·rename_i hc
  rw[if_pos hc] at h
  exact⟨hmm,h⟩
 ·rename_i hc
  rw[if_neg hc] at h
  exact⟨hmm,h⟩
section
variable{D:List Nat}{A B:Fr}{a:AS}{b:Nat}{w:World}{f:FuncId}{cap:List Value}{t:eQ}
theorem tz{K:Int->Tr}{i m p:Int}{s:Mm}{bt bm bo bi:Nat}(hK:Ah b K s f cap B)(hi:i<=s.nodes.length)(hmm:m<=s.nodes.length)(hp:p<=s.nodes.length):pA b 165 [pt bt,pt bm,pt bo,pt bi] [.int .i64 p] (bx bt [fn f cap]::bx bm [iv m]::bx bo (iV b t)::bx bi [iv i]::B) s (if p=0 then K m else Bb i m p K):=by
 intro a D A w em ok hm hA hB hw0
 subst em
 have hK2:=hK.more (B2:=(bx bt [fn f cap]::bx bm [iv m]::bx bo (iV b t)::bx bi [iv i]::B)) (λ x hx=>by simp[hx])
 refine enter Tryz.func165 Tryz.ntmps165 rfl rfl hw0 ?_
 simp only[cA]
 refine J0 ?_;refine aJ (λ x6=>?_);refine aG ?_;refine kR ?_;refine sU ?_
 refine bD (λ c8=>?_) (λ c8=>?_)
 ·refine J0 ?_;refine aC (nQ bt [fn f cap] 0 hB rfl) rfl ?_;refine aC (nQ bm [.int .i64 m] 0 hB rfl) rfl ?_;refine aD (Na hK2.1 (hK2.2 m a.mm (Mm.Le.refl _) hmm) ok hm hA hB) (λ x11 h11=>?_);refine bY (gV λ _=>aZ rf cY rf (cK _) eF rf jI) (λ _=>?_);refine aG ?_
  refine aY Tryz.results165 (λ w hw=>?_)
  refine⟨x11,rfl,⟨?_,h11.2⟩,hw.rN⟩
  rw[if_pos (by omega)]
  exact h11.1
 ·refine aW ?_;refine J0 ?_;refine aC (Qv bo (iV b t) 0 3 hB rfl rfl) rfl ?_;refine aC (nQ bi [.int .i64 i] 0 hB rfl) rfl ?_;refine aC (nQ bm [.int .i64 m] 0 hB rfl) rfl ?_;refine aA ?_;refine aC (nQ bt [fn f cap] 0 hB rfl) rfl ?_;refine aD (Cn (λ w1 hw=>Vk hK2 hi hmm hp ok hm hA hB hw)) (λ x17 h17=>?_);refine bY (gV λ _=>aZ rf cY rf (cK _) eF rf jI) (λ _=>?_);refine aG ?_
  refine aY Tryz.results165 (λ w hw=>?_)
  refine⟨x17,rfl,⟨?_,h17.2⟩,hw.rN⟩
  rw[if_neg (by omega)]
  exact h17.1
theorem qt{K:Int->Tr}{i m prev:Int}{s:Mm}{bp bt bm bo bi:Nat}(hK:Ah b K s f cap B)(hi:i<=s.nodes.length)(hmm:m<=s.nodes.length)(hpr:prev<=9223372036854775807)(hn:(bQ s.nodes m).prev=prev)(o:Bool):pA b 164 [pt bp,pt bt,pt bm,pt bo,pt bi] [.bool o] (bx bp [iv prev]::bx bt [fn f cap]::bx bm [iv m]::bx bo (iV b t)::bx bi [iv i]::B) s (iK i m K):=by
 intro a D A w em ok hm hA hB hw0
 subst em
 refine enter Tryz.func164 Tryz.ntmps164 rfl rfl hw0 ?_
 simp only[cA]
 refine J0 ?_;refine aJ (λ x7=>?_);refine aG ?_;refine J0 ?_;refine aC (nQ bp [.int .i64 prev] 0 hB rfl) rfl ?_;(refine aC bZ rfl ?_);refine aN (cV (hc:=λ w1 hw=>nY _ _ _ w1)) (λ x10=>?_);refine bY (gV λ _=>aZ rf cY rf (cK _) eF rf jI) (λ _=>?_);refine aG ?_
 refine aY Tryz.results164 (λ w hw=>?_)
 refine⟨(nU prev _ _,[],a),rfl,⟨⟨hmm,?_⟩,ok,AS.iD.refl a⟩,hw.rI⟩
 dsimp only
 rw[hn]
 exact⟨rfl,hpr,_,_,rfl,by kernel_rfl,λ p s1 l hp=>(tz (bt:=bt) (bm:=bm) (bo:=bo) (bi:=bi) (hK.le l) (by have:=l.len;omega) (by have:=l.len;omega) hp).mr (λ y hy=>List.mem_cons_of_mem _ hy)⟩
theorem qi{K:Int->Tr}{i m p prev r:Int}{s:Mm}{bo bi bp bq ba:Nat}(hK:S6 b (λ _=>iK i m K) s f cap B)(hi:i<=s.nodes.length)(hmm:m<=s.nodes.length)(hp:p<=s.nodes.length)(hr:r<=s.nodes.length)(hn:(bQ s.nodes m).prev=prev):pA b 168 [pt bo,pt bi,pt bp,pt bq,pt ba] [.int .i64 r] (bx bo (iV b t)::bx bi [iv i]::bx bp [iv prev]::bx bq [iv p]::bx ba [fn f cap]::B) s (.node r λ nr=>.node i λ ni=>jK i m p (nr.gen==ni.gen) K):=by
 intro a D A w em ok hm hA hB hw0
 subst em
 have hK2:=hK.more (B2:=(bx bo (iV b t)::bx bi [iv i]::bx bp [iv prev]::bx bq [iv p]::bx ba [fn f cap]::B)) (λ x hx=>by simp[hx])
 have hpr:prev<=a.mm.cs.length:=by rw[<- hn];exact(ok.mo.at m).prev
 refine enter Tryz.func168 Tryz.ntmps168 rfl rfl hw0 ?_
 simp only[cA]
 refine J0 ?_;refine aJ (λ x7=>?_);refine Rr ?_;refine eG [(0,[]),(1,[]),(2,[]),(5,[]),(6,[]),(7,[]),(3,[6,7]),(4,[]),(8,[]),(9,[]),(10,[]),(11,[])] ?_;refine aU ?_;refine bT (i:=1) (hq:=(nQ bo (iV b t) 0 hB rfl)) (h:=?_);refine aT ?_;refine aU ?_;refine bT (i:=6) (hq:=(nQ bo (iV b t) 0 hB rfl)) (h:=?_);refine bT (i:=7) (hq:=(nQ bi [.int .i64 i] 0 hB rfl)) (h:=?_);refine bC (i:=3) (hq:=(I6 r ok hm hA hr)) (hfire:=(λ _=>by(refine gK ?_;(repeat (first|exact aK.nil|refine aK.cons (by first|exact fT (hq:=nQ bo (iV b t) 0 hB rfl)|exact fT (hq:=nQ bi [.int .i64 i] 0 hB rfl)) ?_));done))) (h:=λ x12 h12=>?_);refine mZ ?_;refine bC (i:=8) (hq:=(I6 i ok hm hA hi)) (h:=λ x17 h17=>?_);refine mZ ?_;refine nJ ?_;refine J7 ?_;refine J0 ?_;refine aC (Qv bo (iV b t) 0 3 hB rfl rfl) rfl ?_;refine aC (nQ bp [.int .i64 prev] 0 hB rfl) rfl ?_;refine aC (nQ bq [.int .i64 p] 0 hB rfl) rfl ?_;refine aA ?_;refine aC (nQ ba [fn f cap] 0 hB rfl) rfl ?_;refine aD (Cn (λ w1 hw=>Ji (K:=λ _=>iK i m K) hK2 hpr hp ok hm hA hB hw)) (λ x25 h25=>?_);refine bY (gV λ _=>aZ rf cY rf (cK _) eF rf jI) (λ _=>?_);refine aG ?_
 refine aY Tryz.results168 (λ w hw=>?_)
 refine⟨x25,rfl,⟨⟨hr,hi,?_⟩,h25.2⟩,hw.rN⟩
 rw[iN,iN]
 exact Vb hmm hn h25.1
set_option maxRecDepth 100000 in
set_option maxHeartbeats 2000000 in
theorem rj{K:Int->Tr}{i m p prev:Int}{s:Mm}{bt bm bo bi bp:Nat}(ht:t.root<=9223372036854775807)(hK:Ah b K s f cap B)(hi:i<=s.nodes.length)(hmm:m<=s.nodes.length)(hp:p<=s.nodes.length)(hn:(bQ s.nodes m).prev=prev):pA b 162 [pt bt,pt bm,pt bo,pt bi,pt bp] [.int .i64 p] (bx bt [fn f cap]::bx bm [iv m]::bx bo (iV b t)::bx bi [iv i]::bx bp [iv prev]::B) s (if p=0 then K m else .node p λ np=>if cG np then(if t.ro=true then jK i m p false K else yW t λ r=>.node r λ nr=>.node i λ ni=>jK i m p (nr.gen==ni.gen) K) else Bb i m p K):=by
 intro a D A w em ok hm hA hB hw0
 subst em
 have hK2:=hK.more (B2:=(bx bt [fn f cap]::bx bm [iv m]::bx bo (iV b t)::bx bi [iv i]::bx bp [iv prev]::B)) (λ x hx=>by simp[hx])
 have np:=D4 ok p
 have hpr:prev<=a.mm.cs.length:=by rw[<- hn];exact(ok.mo.at m).prev
 have hAg:S6 b (λ _=>iK i m K) a.mm 164 [.pointer (some ⟨bp,0,none⟩),.pointer (some ⟨bt,0,none⟩),.pointer (some ⟨bm,0,none⟩),.pointer (some ⟨bo,0,none⟩),.pointer (some ⟨bi,0,none⟩)] (bx bt [fn f cap]::bx bm [iv m]::bx bo (iV b t)::bx bi [iv i]::bx bp [iv prev]::B):=⟨by kernel_rfl,λ o s1 l=>(qt (t:=t) (prev:=prev) (bp:=bp) (bt:=bt) (bm:=bm) (bo:=bo) (bi:=bi) (hK.le l) (by have:=l.len;omega) (by have:=l.len;omega) (mK hm hpr) (by rw[l.nd hmm];exact hn) o).mr (λ y hy=>by
  simp only[List.mem_cons] at hy ⊢
  rcases hy with h|h|h|h|h|h<;>simp[h])⟩
 have hRt:∀x6 x8:Nat,Ah b (λ r=>.node r λ nr=>.node i λ ni=>jK i m p (nr.gen==ni.gen) K) a.mm 168 [.pointer (some ⟨bo,0,none⟩),.pointer (some ⟨bi,0,none⟩),.pointer (some ⟨bp,0,none⟩),.pointer (some ⟨x6,0,none⟩),.pointer (some ⟨x8,0,none⟩)] (bx x8 [.func (.func 164) #[] ⟨[.pointer (some ⟨bp,0,none⟩),.pointer (some ⟨bt,0,none⟩),.pointer (some ⟨bm,0,none⟩),.pointer (some ⟨bo,0,none⟩),.pointer (some ⟨bi,0,none⟩)]⟩]::bx x6 [iv p]::(bx bt [fn f cap]::bx bm [iv m]::bx bo (iV b t)::bx bi [iv i]::bx bp [iv prev]::B)):=λ x6 x8=>⟨by kernel_rfl,λ r s1 l hr=>(qi (t:=t) (prev:=prev) (bo:=bo) (bi:=bi) (bp:=bp) (bq:=x6) (ba:=x8) (hAg.le l) (by have:=l.len;omega) (by have:=l.len;omega) (by have:=l.len;omega) hr (by rw[l.nd hmm];exact hn)).mr (λ y hy=>by
  simp only[List.mem_cons] at hy ⊢
  rcases hy with h|h|h|h|h|h<;>simp[h])⟩
 refine enter Tryz.func162 Tryz.ntmps162 rfl rfl hw0 ?_
 simp only[cA]
 refine J0 ?_;refine bK (λ x6=>?_);refine aJ (λ x7=>?_);refine Rr ?_;refine nF ?_;refine sU ?_
 refine bD (λ c10=>?_) (λ c10=>?_)
 ·refine J0 ?_;refine aC (nQ bt [fn f cap] 0 hB rfl) rfl ?_;refine aC (nQ bm [.int .i64 m] 0 hB rfl) rfl ?_;refine aD (Na hK2.1 (hK2.2 m a.mm (Mm.Le.refl _) hmm) ok hm hA hB) (λ x13 h13=>?_);refine bY (gV λ _=>aZ rf cY rf (cK _) eF rf jI) (λ _=>?_);refine aG ?_
  refine aY Tryz.results162 (λ w hw=>?_)
  refine⟨x13,rfl,⟨?_,h13.2⟩,hw.rN⟩
  rw[if_pos (by omega)]
  exact h13.1
 ·refine kO ?_;refine Ka7 ?_;refine aC (nQ bo (iV b t) 0 hB rfl) rfl ?_;refine bM ?_;refine aD (I6 p ok hm hA hp) (λ x17 h17=>?_);refine aD (c0 (V:=.bool) (hc:=λ w1 hw=>Sq ((aB (cN a.L) p).at_ x17.1 x17.2).nd w1)) (λ x18 h18=>?_);refine pE ?_
  refine bD (λ c19=>?_) (λ c19=>?_)
  ·refine J0 ?_;refine aC (Qv bo (iV b t) 0 3 hB rfl rfl) rfl ?_;refine aC (nQ bi [.int .i64 i] 0 hB rfl) rfl ?_;refine aC (nQ bm [.int .i64 m] 0 hB rfl) rfl ?_;refine bM ?_;refine aC (nQ bt [fn f cap] 0 hB rfl) rfl ?_;refine aD (Cn (λ w1 hw=>Vk hK2 hi hmm hp ok hm hA hB hw)) (λ x25 h25=>?_);refine bY (gV λ _=>aZ rf cY rf (cK _) eF rf jI) (λ _=>?_);refine aG ?_
   refine aY Tryz.results162 (λ w hw=>?_)
   refine⟨x25,rfl,⟨?_,h25.2⟩,hw.rN⟩
   rw[if_neg (by omega)]
   refine⟨hp,?_⟩
   rw[iN]
   dsimp only
   rw[if_neg (λ hk=>by have h2:=h18.2 hk;rw[h2] at c19;cases c19)]
   exact h25.1
  ·refine aW ?_;refine J0 ?_;(refine aC bZ rfl ?_);refine aN (gV λ _=>Ih (z:=.nilFunc) (by kernel_rfl) rfl) (λ x8=>?_);refine J5 ?_;refine aS ?_;refine Ka7 ?_;refine aF ?_;refine aC (nQ bo (iV b t) 2 hB rfl) rfl ?_;refine aG ?_
   refine bD (λ c29=>?_) (λ c29=>?_)
   ·refine J0 ?_;refine aC (Qv bo (iV b t) 0 3 hB rfl rfl) rfl ?_;refine aC (nQ bp [.int .i64 prev] 0 hB rfl) rfl ?_;refine bM ?_;refine bM ?_;refine aD (Cn (λ w1 hw=>Ji (K:=λ _=>iK i m K) hAg hpr hp ok hm hA hB hw)) (λ x34 h34=>?_);refine bY (gV λ _=>aZ rf cY rf (cK _) eF rf jI) (λ _=>?_);refine aG ?_
    refine aY Tryz.results162 (λ w hw=>?_)
    refine⟨x34,rfl,⟨?_,h34.2⟩,hw.rN⟩
    rw[if_neg (by omega)]
    refine⟨hp,?_⟩
    rw[iN]
    dsimp only
    rw[if_pos (show cG (aB (cN a.L) p).c from h18.1 (by simpa using c19)),if_pos c29]
    exact Vb hmm hn h34.1
   ·refine kr (λ w h=>(show SF _ _ [_,(b,dV a)] _ [_,_] _ w from(h.cQ (.tail (.tail .head))).cQ .head)) ?_
    refine aW ?_;refine J0 ?_;refine aC (Qv bo (iV b t) 0 3 hB rfl rfl) rfl ?_;(refine aC bZ rfl ?_);refine aD (cM (V:=λ y:Cd×Fr×AS=>.agg ⟨y.1.cells⟩) (hs:=[(b,dV a)]) (os:=eC a) (hs':=λ y=>[(b,dV y.2.2)]) (os':=λ y=>eC y.2.2) (Fc:=λ y=>y.2.1) (A0:=bx x8 [.func (.func 164) #[] ⟨[.pointer (some ⟨bp,0,none⟩),.pointer (some ⟨bt,0,none⟩),.pointer (some ⟨bm,0,none⟩),.pointer (some ⟨bo,0,none⟩),.pointer (some ⟨bi,0,none⟩)]⟩]::bx x6 [iv p]::A) (hA:=bB.ll) (hc:=λ w1 hw=>si (K:=λ r=>.node r λ nr=>.node i λ ni=>jK i m p (nr.gen==ni.gen) K) (B:=bx x8 [.func (.func 164) #[] ⟨[.pointer (some ⟨bp,0,none⟩),.pointer (some ⟨bt,0,none⟩),.pointer (some ⟨bm,0,none⟩),.pointer (some ⟨bo,0,none⟩),.pointer (some ⟨bi,0,none⟩)]⟩]::bx x6 [iv p]::(bx bt [fn f cap]::bx bm [iv m]::bx bo (iV b t)::bx bi [iv i]::bx bp [iv prev]::B)) ht (hRt x6 x8) ok hm (λ f hf=>List.mem_cons_of_mem _ (List.mem_cons_of_mem _ (hA f hf))) (Fs hB) hw)) (λ x37 h37=>?_);refine bY (gV λ _=>aZ rf cY rf (cK _) eF rf jI) (λ _=>?_);refine aG ?_
    refine aY Tryz.results162 (λ w hw=>?_)
    refine⟨(x37.1,x37.2.1++[bx x8 [.func (.func 164) #[] ⟨[.pointer (some ⟨bp,0,none⟩),.pointer (some ⟨bt,0,none⟩),.pointer (some ⟨bm,0,none⟩),.pointer (some ⟨bo,0,none⟩),.pointer (some ⟨bi,0,none⟩)]⟩],bx x6 [iv p]],x37.2.2),rfl,⟨?_,h37.2.1,h37.2.2.more (λ f hf=>List.mem_append_left _ hf)⟩,hw.rI⟩
    rw[if_neg (by omega)]
    refine⟨hp,?_⟩
    rw[iN]
    dsimp only
    rw[if_pos (show cG (aB (cN a.L) p).c from h18.1 (by simpa using c19)),if_neg (by rw[c29];decide)]
    rw[List.append_assoc]
    exact h37.1
theorem Yl{K:Int->Tr}{i m:Int}(ht:t.root<=9223372036854775807)(hK:Ah b K a.mm f cap B)(hi:i<=a.mm.nodes.length)(hmm:m<=a.mm.nodes.length)(ok:a.Ok)(hm:a.mm.Small)(hA:∀f∈aL a.L,f∈A)(hB:∀x∈B,x∈A)(hs:SF w D [(b,dV a)] A [] (eC a) w) :
  Calls Tryz.prog 121 #[.agg ⟨iV b t⟩,.int .i64 i,.int .i64 m,fn f cap] w (Av b (λ c' s' B'=>lW b (mI t i m K) a.mm c' s' B') a B D w):=by
 have nm:=D4 ok m
 refine enter Tryz.func121 Tryz.ntmps121 rfl rfl hs ?_
 simp only[cA]
 refine J0 ?_;refine bK (λ x4=>?_);refine bK (λ x5=>?_);refine bK (λ x6=>?_);refine bK (λ x7=>?_);refine aJ (λ x8=>?_);refine aG ?_;refine iB ?_;refine bM ?_;refine aD (I6 m ok hm hA hmm) (λ x13 h13=>?_);refine cC ?_;refine aN (gV λ _=>Ih (z:=.int .i64 0) (by kernel_rfl) rfl) (λ x9=>?_);refine J5 ?_;refine nF ?_;(refine aC bZ rfl ?_);refine aN (cV (hc:=λ w1 hw=>nY _ _ _ w1)) (λ x17=>?_);refine bY (gV λ _=>aZ rf cY rf (cK _) eF rf jI) (λ _=>?_);refine aG ?_
 refine aY Tryz.results121 (λ w hw=>?_)
 refine⟨(nU (aB (cN a.L) m).nd.prev _ _,[bx x4 (iV b t),bx x5 [iv i],bx x6 [iv m],bx x7 [fn f cap],bx x9 [iv (aB (cN a.L) m).nd.prev]],a),rfl,⟨⟨hmm,?_⟩,ok,(AS.iD.refl a).more (λ _ h=>(List.not_mem_nil h).elim)⟩,?_⟩
 ·rw[iN]
  refine⟨rfl,mK hm nm.prev,_,_,rfl,by kernel_rfl,λ p s1 l hp=>(rj (bt:=x7) (bm:=x6) (bo:=x4) (bi:=x5) (bp:=x9) (prev:=(aB (cN a.L) m).nd.prev) ht (hK.le l) (by have:=l.len;omega) (by have:=l.len;omega) hp (by rw[l.nd hmm,iN];rfl)).mr (λ y hy=>?_)⟩
  simp only[List.mem_cons,List.mem_append,List.not_mem_nil,or_false] at hy ⊢
  rcases hy with h|h|h|h|h|h<;>simp[h]
 ·exact(((((hw.cQ .head).cQ (.tail .head)).cQ (.tail .head)).cQ (.tail .head)).cQ (.tail .head)).rI
end
end

end Go.Proofs.YtbajmaoegmbfgaaGreat

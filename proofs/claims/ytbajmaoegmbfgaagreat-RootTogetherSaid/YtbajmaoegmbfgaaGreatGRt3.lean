/- root: Replace. -/
import Derived.Test.YtbajmaoegmbfgaaGreatGGc5
import Derived.Test.YtbajmaoegmbfgaaGreatGLk3
import Derived.Test.YtbajmaoegmbfgaaGreatGGc0

set_option linter.unusedSimpArgs false
set_option linter.unusedVariables false
namespace Go.Proofs.YtbajmaoegmbfgaaGreat
section
open Go Go.RowKit Go.Ct
section
variable{D:List Nat}{A B:Fr}{a:AS}{b:Nat}{w:World}{f:FuncId}{cap:List Value}{t:fR}
theorem mv{K:Bool->Tr}{x r:Int}{s:Mm}{b3 b4:Nat}(hK:Sy b K s f cap B):oE b 142 [pt b3,pt b4] [.int .i64 r] (bx b3 [fn f cap]::bx b4 [iv x]::B) s (K (x==1)):=by
 intro a D A w em ok hm hA hB hw0
 subst em
 have hK2:=hK.more (B2:=(bx b3 [fn f cap]::bx b4 [iv x]::B)) (λ x hx=>by simp[hx])
 refine enter Tryz.func142 Tryz.ntmps142 rfl rfl hw0 ?_
 simp only[bX]
 refine J0 ?_;refine aI (λ x4=>?_);refine aG ?_;refine J0 ?_;refine aB (mU b3 [fn f cap] 0 hB rfl) rfl ?_;refine aB (mU b4 [.int .i64 x] 0 hB rfl) rfl ?_;refine lI ?_;refine aC (Kr hK2.1 (hK2.2 (x==1) a.mm (Mm.Le.refl _)) ok hm hA hB) (λ x8 h8=>?_);refine bW (gK λ _=>bA rf cN rf (cK _) dI rf jB) (λ _=>?_);refine aG ?_
 refine bB Tryz.results142 (λ w hw=>?_)
 exact⟨x8,rfl,h8,hw.rN⟩
theorem r0{K:Bool->Tr}{v x:Int}{s:Mm}{b1 b2 b3:Nat}(ht:t.root<=9223372036854775807)(hK:Sy b K s f cap B)(hv:v<=s.nodes.length):oE b 140 [pt b1,pt b2,pt b3] [.int .i64 x] (bx b1 (iH b t)::bx b2 [iv v]::bx b3 [fn f cap]::B) s (mI t v x λ _=>K (x==1)):=by
 intro a D A w em ok hm hA hB hw0
 subst em
 have hT:∀x4:Nat,zS b (λ _=>K (x==1)) a.mm 142 [.pointer (some ⟨b3,0,none⟩),.pointer (some ⟨x4,0,none⟩)] (bx x4 [iv x]::(bx b1 (iH b t)::bx b2 [iv v]::bx b3 [fn f cap]::B)):=λ x4=>⟨by kernel_rfl,λ r s1 l hr=>(mv (b3:=b3) (b4:=x4) (r:=r) (hK.le l)).mr (λ y hy=>by
  simp only[List.mem_cons] at hy ⊢
  rcases hy with h|h|h<;>simp[h])⟩
 refine enter Tryz.func140 Tryz.ntmps140 rfl rfl hw0 ?_
 simp only[bX]
 refine J0 ?_;refine bL (λ x4=>?_);refine aI (λ x5=>?_);refine aG ?_;refine J0 ?_;refine aB (Ot b1 (iH b t) 0 3 hB rfl rfl) rfl ?_;refine aB (mU b2 [.int .i64 v] 0 hB rfl) rfl ?_;refine bN ?_;(refine aB (bY (by(repeat (first|exact cE _|(apply bU;focus ((conv=>{lhs;whnf});try exact rfl))));done)) rfl ?_);(refine aP (bF.pre (λ w h=>(show SF _ _ [_,(b,dS a)] _ [(bx x4 [iv x]:Option Addr×List Value)] _ w from h.cP (.tail .head))) (cM (V:=λ y:Cd×Fr×AS=>.agg ⟨y.1.cells⟩) (hs:=[(b,dS a)]) (os:=dZ a) (hs':=λ y=>[(b,dS y.2.2)]) (os':=λ y=>dZ y.2.2) (Fc:=λ y=>y.2.1) (A0:=bx x4 [iv x]::A) (hA:=aW.xv) (hc:=λ w1 hw=>nL ht (hT x4) hv ok hm (λ f hf=>List.mem_cons_of_mem _ (hA f hf)) (Q9 hB) hw))) (λ x10=>?_);try (refine eW (λ h10=>?_)));refine bW (gK λ _=>bA rf cN rf (cK _) dI rf jB) (λ _=>?_);refine aG ?_
 refine bB Tryz.results140 (λ w hw=>?_)
 refine⟨(x10.1,x10.2.1++[bx x4 [iv x]],x10.2.2),rfl,⟨?_,h10.2.1,h10.2.2.more (λ f hf=>List.mem_append_left _ hf)⟩,hw.rI⟩
 dsimp only
 rw[List.append_assoc]
 exact h10.1
theorem rk{K:Bool->Tr}{v:Int}{s:Mm}{b0 b1 b2 b3:Nat}{nd:Nd}(ht:t.root<=9223372036854775807)(hK:Sy b K s f cap B)(hv:v<=s.nodes.length)(hst:(dY s.nodes v).status=nd.status):oE b 139 [pt b0,pt b1,pt b2,pt b3] [] (bx b0 (nd.cells:List Value)::bx b1 (iH b t)::bx b2 [iv v]::bx b3 [fn f cap]::B) s (.node v λ nd=>.load nd.status λ s=>mI t v s λ _=>K (s==1)):=by
 intro a D A w em ok hm hA hB hw0
 subst em
 have hd:nd.status<=9223372036854775807:=by rw[<- hst];exact lW hm (ok.mo.at v).status
 refine enter Tryz.func139 Tryz.ntmps139 rfl rfl hw0 ?_
 simp only[bX]
 refine J0 ?_;refine aI (λ x4=>?_);refine aG ?_;refine J0 ?_;refine aE ?_;refine aB (mU b0 (nd.cells:List Value) 13 hB rfl) rfl ?_;(refine aB (bY (by(repeat (first|exact cE _|(apply bU;focus ((conv=>{lhs;whnf});try exact rfl))));done)) rfl ?_);refine aP (cV (hc:=λ w1 hw=>nD _ _ _ w1)) (λ x8=>?_);refine bW (gK λ _=>bA rf cN rf (cK _) dI rf jB) (λ _=>?_);refine aG ?_
 refine bB Tryz.results139 (λ w hw=>?_)
 refine⟨(mP nd.status _ _,[],a),rfl,⟨⟨hv,?_⟩,ok,AS.iD.refl a⟩,hw.rI⟩
 dsimp only
 rw[hst]
 exact⟨rfl,hd,_,_,rfl,by kernel_rfl,λ x s1 l hx=>(r0 (b1:=b1) (b2:=b2) (b3:=b3) ht (hK.le l) (by have:=l.len;omega)).mr (λ y hy=>List.mem_cons_of_mem _ hy)⟩
theorem p8{K:Bool->Tr}{v:Int}{s:Mm}{b0 b1 b2 b3:Nat}{nd:Nd}(ht:t.root<=9223372036854775807)(hK:Sy b K s f cap B)(hv:v<=s.nodes.length)(ho:(dY s.nodes v).bD=nd.bD)(he:(dY s.nodes v).exp=nd.exp)(hst:(dY s.nodes v).status=nd.status)(o:Bool):oE b 137 [pt b3,pt b1,pt b0,pt b2] [.bool o] (bx b3 [fn f cap]::bx b1 (iH b t)::bx b0 (nd.cells:List Value)::bx b2 [iv v]::B) s (if o=true then oR t v (.node v λ nd=>.load nd.status λ s=>mI t v s λ _=>K (s==1)) else K false):=by
 intro a D A w em ok hm hA hB hw0
 subst em
 have hK2:=hK.more (B2:=(bx b3 [fn f cap]::bx b1 (iH b t)::bx b0 (nd.cells:List Value)::bx b2 [iv v]::B)) (λ x hx=>by simp[hx])
 have hT:Ts b (.node v λ nd=>.load nd.status λ s=>mI t v s λ _=>K (s==1)) a.mm 139 [.pointer (some ⟨b0,0,none⟩),.pointer (some ⟨b1,0,none⟩),.pointer (some ⟨b2,0,none⟩),.pointer (some ⟨b3,0,none⟩)] (bx b3 [fn f cap]::bx b1 (iH b t)::bx b0 (nd.cells:List Value)::bx b2 [iv v]::B):=⟨by kernel_rfl,λ s1 l=>(rk (b0:=b0) (b1:=b1) (b2:=b2) (b3:=b3) (nd:=nd) ht (hK.le l) (by have:=l.len;omega) (by rw[l.nd hv];exact hst)).mr (λ y hy=>by
  simp only[List.mem_cons] at hy ⊢
  rcases hy with h|h|h|h|h<;>simp[h])⟩
 refine enter Tryz.func137 Tryz.ntmps137 rfl rfl hw0 ?_
 simp only[bX]
 refine J0 ?_;refine aI (λ x6=>?_);refine aG ?_;refine kY ?_;refine oK ?_
 refine bC (λ c8=>?_) (λ c8=>?_)
 ·refine J0 ?_;refine aB (mU b3 [fn f cap] 0 hB rfl) rfl ?_;refine aC (Kr hK2.1 (hK2.2 false a.mm (Mm.Le.refl _)) ok hm hA hB) (λ x10 h10=>?_);refine bW (gK λ _=>bA rf cN rf (cK _) dI rf jB) (λ _=>?_);refine aG ?_
  refine bB Tryz.results137 (λ w hw=>?_)
  refine⟨x10,rfl,⟨?_,h10.2⟩,hw.rN⟩
  rw[if_neg (by rw[show o=false by simpa using c8];decide)]
  exact h10.1
 ·refine aX ?_;refine J0 ?_;refine aB (Ot b1 (iH b t) 0 3 hB rfl rfl) rfl ?_;refine aB (Ot b0 (nd.cells:List Value) 0 14 hB rfl rfl) rfl ?_;(refine aB (bY (by(repeat (first|exact cE _|(apply bU;focus ((conv=>{lhs;whnf});try exact rfl))));done)) rfl ?_);refine aC (Cm (λ w1 hw=>Jm (nd:=nd) ht hT hv ho he hst ok hm hA hB hw)) (λ x14 h14=>?_);refine bW (gK λ _=>bA rf cN rf (cK _) dI rf jB) (λ _=>?_);refine aG ?_
  refine bB Tryz.results137 (λ w hw=>?_)
  refine⟨x14,rfl,⟨?_,h14.2⟩,hw.rN⟩
  rw[if_pos (by simpa using c8)]
  exact h14.1
theorem Sb{K:Bool->Tr}{fq:FuncId}{bD exp nw:Int}(ht:t.root<=9223372036854775807)(hK:Sy b K a.mm fq cap B)(ho:bD<=a.mm.nodes.length)(he:exp<=a.mm.nodes.length)(hnw:nw<=a.mm.nodes.length)(ok:a.Ok)(hm:a.mm.Small)(hA:∀f∈aK a.L,f∈A)(hB:∀x∈B,x∈A)(hs:SF w D [(b,dS a)] A [] (dZ a) w) :
  Calls Tryz.prog 97 #[.agg ⟨iH b t⟩,.int .i64 bD,.int .i64 exp,.int .i64 nw,fn fq cap] w (Ay b (λ c' s' B'=>kE b (mQ t bD exp nw K) a.mm c' s' B') a B D w):=by
 have okA:∀x:AX,(a.al ({Nd.zero with kind:=8,bD:=bD,exp:=exp,new:=nw}:Nd) [] [] 0 x).Ok:=λ x=>ok.al x (by simp) (by simp) ⟨ho,he,hnw,(λ r hr=>nomatch hr),bH _,bH _,bH _,⟨0,rfl,by decide⟩,⟨0,rfl,by decide⟩⟩ (by omega)
 have hlA:∀x:AX,(a.al ({Nd.zero with kind:=8,bD:=bD,exp:=exp,new:=nw}:Nd) [] [] 0 x).mm.nodes.length=a.mm.nodes.length+1:=λ x=>by rw[oP];show(a.mm.nodes++[_]).length=_;simp
 have hleA:∀x:AX,a.mm.Le (a.al ({Nd.zero with kind:=8,bD:=bD,exp:=exp,new:=nw}:Nd) [] [] 0 x).mm:=λ x=>by rw[oP];exact Mp _ _ _
 refine enter Tryz.func97 Tryz.ntmps97 rfl rfl hs ?_
 simp only[bX]
 refine J0 ?_;refine bL (λ x5=>?_);refine bL (λ x9=>?_);refine aI (λ x10=>?_);refine Ql ?_
 refine dJ [11,13,14,15,16,17,18,19,20,21] (λ j:Nat×AX=>[(11,.pointer (some ⟨j.1,0,none⟩))]) (λ _=>True) (λ j=>[(j.1,.cells ⟨[.int .i64 ((a.mm.nodes.length+1:Nat):Int)]⟩ 37 (0,0)),(x10,.cells ⟨(zK Rs.zero).cells⟩ 132 (0,0)),(x9,.cells ⟨[fn fq cap]⟩ 130 (0,0)),(x5,.cells ⟨iH b t⟩ 125 (0,0)),(b,dS (a.al ({Nd.zero with kind:=8,bD:=bD,exp:=exp,new:=nw}:Nd) [] [] 0 j.2))]) (λ j=>(jK ({Nd.zero with kind:=8,bD:=bD,exp:=exp,new:=nw}:Nd) [] [] a.cs.length j.2).fr) (λ j=>dZ (a.al ({Nd.zero with kind:=8,bD:=bD,exp:=exp,new:=nw}:Nd) [] [] 0 j.2)) (by decide) (λ _=>by exact rfl) ?_ (λ j f hx=>?_)
 ·refine fP (.one 0 [] (.one 1 [] (.one 2 [] (.one 3 [] (.one 4 [] (.one 6 [] (.one 7 [] (.two 5 [1] (.two 8 [] (.one 9 [1] (.one 10 [] .nil)) 0 [] (.two 9 [1] (.one 8 [] (.one 10 [] .nil)) 0 [] .nil)) 0 [] (.two 9 [1] (.one 5 [1] (.one 8 [] (.one 10 [] .nil))) 0 [] .nil))))))))) ?_
  refine nS ?_;refine gT ?_;refine aM ?_;refine cC (i:=6) (hq:=(Di rf)) (h:=?_);refine aM ?_
  refine fF (E:=[5,9]) (by decide +kernel) ((.cons ?_ (.cons ?_ .nil)))
  ·refine yI (i:=5) (hq:=(cV (hc:=λ w1 hw=>bb bD exp nw w1))) (h:=λ x18=>?_)
   refine fF (E:=[8,9]) (by decide +kernel) ((.cons ?_ (.cons ?_ .nil)))
   ·refine jG (i:=8) (hq:=(ze (V:=λ _:AX=>.int .i64 ((a.mm.nodes.length+1:Nat):Int)) (hs:=[(b,dS a)]) (os:=dZ a) (A0:=[(none,aH []),(none,dC [])]) (hs':=λ x=>[(b,dS (a.al ({Nd.zero with kind:=8,bD:=bD,exp:=exp,new:=nw}:Nd) [] [] 0 x))]) (os':=λ x=>dZ (a.al ({Nd.zero with kind:=8,bD:=bD,exp:=exp,new:=nw}:Nd) [] [] 0 x)) (Fc:=λ x=>(jK ({Nd.zero with kind:=8,bD:=bD,exp:=exp,new:=nw}:Nd) [] [] a.cs.length x).fr) (hm:=λ w=>wQ _ _ _ w) (hc:=λ w1 hw=>rY ok hm 0 rfl rfl (by simp) (by simp) (λ f hf=>hf) hw))) (h:=λ x21 h21=>?_)
    refine cB (i:=9) (hq:=(gK λ _=>E4 (z:=.int .i64 0) (by kernel_rfl) rfl)) (h:=λ x11=>?_);refine wU ?_
    refine eC ((x11,x21)) ?_
    ·trivial
   ·refine yI (i:=9) (hq:=(gK λ _=>E4 (z:=.int .i64 0) (by kernel_rfl) rfl)) (h:=λ x11=>?_)
    refine aZ (i:=8) (hq:=(ze (V:=λ _:AX=>.int .i64 ((a.mm.nodes.length+1:Nat):Int)) (hs:=[(b,dS a)]) (os:=dZ a) (A0:=[(none,aH []),(none,dC [])]) (hs':=λ x=>[(b,dS (a.al ({Nd.zero with kind:=8,bD:=bD,exp:=exp,new:=nw}:Nd) [] [] 0 x))]) (os':=λ x=>dZ (a.al ({Nd.zero with kind:=8,bD:=bD,exp:=exp,new:=nw}:Nd) [] [] 0 x)) (Fc:=λ x=>(jK ({Nd.zero with kind:=8,bD:=bD,exp:=exp,new:=nw}:Nd) [] [] a.cs.length x).fr) (hm:=λ w=>wQ _ _ _ w) (hc:=λ w1 hw=>rY ok hm 0 rfl rfl (by simp) (by simp) (λ f hf=>hf) hw))) (h:=λ x21 h21=>?_);refine wU ?_
    refine eC ((x11,x21)) ?_
    ·trivial
  ·refine yI (i:=9) (hq:=(gK λ _=>E4 (z:=.int .i64 0) (by kernel_rfl) rfl)) (h:=λ x11=>?_)
   refine cB (i:=5) (hq:=(cV (hc:=λ w1 hw=>bb bD exp nw w1))) (h:=λ x18=>?_);refine aZ (i:=8) (hq:=(ze (V:=λ _:AX=>.int .i64 ((a.mm.nodes.length+1:Nat):Int)) (hs:=[(b,dS a)]) (os:=dZ a) (A0:=[(none,aH []),(none,dC [])]) (hs':=λ x=>[(b,dS (a.al ({Nd.zero with kind:=8,bD:=bD,exp:=exp,new:=nw}:Nd) [] [] 0 x))]) (os':=λ x=>dZ (a.al ({Nd.zero with kind:=8,bD:=bD,exp:=exp,new:=nw}:Nd) [] [] 0 x)) (Fc:=λ x=>(jK ({Nd.zero with kind:=8,bD:=bD,exp:=exp,new:=nw}:Nd) [] [] a.cs.length x).fr) (hm:=λ w=>wQ _ _ _ w) (hc:=λ w1 hw=>rY ok hm 0 rfl rfl (by simp) (by simp) (λ f hf=>hf) hw))) (h:=λ x21 h21=>?_);refine wU ?_
   refine eC ((x11,x21)) ?_
   ·trivial
 dsimp only[gP,List.map,List.cons_append,List.nil_append]
 refine gM ?_;refine bN ?_;refine aC (aAv (V:=λ q:Option Addr×Option Addr=>.agg ⟨((aD (cW (a.al ({Nd.zero with kind:=8,bD:=bD,exp:=exp,new:=nw}:Nd) [] [] 0 j.2).L) ((a.mm.nodes.length+1:Nat):Int)).at_ q.1 q.2).nd.cells⟩) (hs:=[(b,dS (a.al ({Nd.zero with kind:=8,bD:=bD,exp:=exp,new:=nw}:Nd) [] [] 0 j.2))]) (os:=dZ (a.al ({Nd.zero with kind:=8,bD:=bD,exp:=exp,new:=nw}:Nd) [] [] 0 j.2)) (A0:=aK (a.al ({Nd.zero with kind:=8,bD:=bD,exp:=exp,new:=nw}:Nd) [] [] 0 j.2).L) (hA:=aW.of λ f hf=>((AS.iD.al a _ _ _ _ j.2).fam f hf).imp_right λ h=>h.elim (λ h=>.inl (hA f h)) λ h=>.inr (.inl h)) (hm:=λ w=>Oh _ _ w) (hc:=λ w1 hw=>ij (okA j.2) (by have:=hm.1;have:=hlA j.2;omega) ((a.mm.nodes.length+1:Nat):Int) (by have:=hlA j.2;have:=hm.1;omega) hw)) (λ x25 h25=>?_);refine aI (λ x12=>?_);refine J5 ?_;refine J0 ?_;refine aE ?_;refine J3 ?_;refine aA ?_;refine bN ?_;(refine aB (bY (by(repeat (first|exact cE _|(apply bU;focus ((conv=>{lhs;whnf});try exact rfl))));done)) rfl ?_);refine aP (cV (hc:=λ w1 hw=>sJ _ _ _ _ _ w1)) (λ x32=>?_);refine bW (gK λ _=>bA rf cN rf (cK _) dI rf jB) (λ _=>?_);refine aG ?_
 refine bB Tryz.results97 (λ w hw=>?_)
 refine⟨(tV t.root bD ((a.mm.nodes.length+1:Nat):Int) _ _,[bx x12 (((aD (cW (a.al ({Nd.zero with kind:=8,bD:=bD,exp:=exp,new:=nw}:Nd) [] [] 0 j.2).L) ((a.mm.nodes.length+1:Nat):Int)).at_ x25.1 x25.2).nd.cells:List Value),bx j.1 [iv ((a.mm.nodes.length+1:Nat):Int)],bx x9 [fn fq cap],bx x5 (iH b t)]++(jK ({Nd.zero with kind:=8,bD:=bD,exp:=exp,new:=nw}:Nd) [] [] a.cs.length j.2).fr,(a.al ({Nd.zero with kind:=8,bD:=bD,exp:=exp,new:=nw}:Nd) [] [] 0 j.2)),rfl,⟨?_,okA j.2,(AS.iD.al a _ _ _ _ j.2).more (λ f hf=>List.mem_append_right _ hf)⟩,?_⟩
 ·refine⟨oP a _ _ _ _ j.2,ht,?_,_,_,rfl,by kernel_rfl,λ o s1 l=>?_⟩
  ·show _<=(((a.mm.nodes++[_]).length:Nat):Int)
   rw[List.length_append]
   simp
  ·have l1:(a.al ({Nd.zero with kind:=8,bD:=bD,exp:=exp,new:=nw}:Nd) [] [] 0 j.2).mm.Le s1:=by rw[oP];exact l
   have hl1:=l1.len
   have hl2:=hlA j.2
   have hv1:((a.mm.nodes.length+1:Nat):Int)<=(a.al ({Nd.zero with kind:=8,bD:=bD,exp:=exp,new:=nw}:Nd) [] [] 0 j.2).mm.nodes.length:=by omega
   exact(p8 (b0:=x12) (b1:=x5) (b2:=j.1) (b3:=x9) (nd:=((aD (cW (a.al ({Nd.zero with kind:=8,bD:=bD,exp:=exp,new:=nw}:Nd) [] [] 0 j.2).L) ((a.mm.nodes.length+1:Nat):Int)).at_ x25.1 x25.2).nd) ht (hK.le ((hleA j.2).trans l1)) (by omega) (by rw[l1.nd hv1,iM];rfl) (by rw[l1.nd hv1,iM];rfl) (by rw[l1.nd hv1,iM];rfl) o).mr (λ y hy=>by
   simp only[List.mem_cons,List.mem_append,List.not_mem_nil,or_false] at hy ⊢
   rcases hy with h|h|h|h|h<;>simp[h])
 ·exact((((hw.cP (.tail (.tail (.tail (.tail .head))))).cP (.tail (.tail (.tail .head)))).cP (.tail .head)).cP .head).rI
end
end

/- root: the tasks. -/
section
open Go Go.RowKit Go.Ct
section
variable{D:List Nat}{A B:Fr}{a:AS}{b:Nat}{w:World}{f:FuncId}{cap:List Value}{t:fR}
theorem xo{s:Mm}{bo:Nat}(ht:t.root<=9223372036854775807):oE b 101 [pt bo] [] (bx bo (iH b t)::B) s (oL t λ r=>.done (lD r false)):=by
 intro a D A w em ok hm hA hB hw0
 subst em
 have hT:zS b (λ r=>.done (lD r false)) a.mm 103 [] (bx bo (iH b t)::B):=⟨by kernel_rfl,λ v s1 l hv=>uk v⟩
 refine enter Tryz.func101 Tryz.ntmps101 rfl rfl hw0 ?_
 simp only[bX]
 refine J0 ?_;refine aI (λ x1=>?_);refine aG ?_;refine J0 ?_;refine aB (Ot bo (iH b t) 0 3 hB rfl rfl) rfl ?_;refine aC (Cm (λ w1 hw=>o8 ht hT ok hm hA hB hw)) (λ x3 h3=>?_);refine bW (gK λ _=>bA rf cN rf (cK _) dI rf jB) (λ _=>?_);refine aG ?_
 refine bB Tryz.results101 (λ w hw=>?_)
 exact⟨x3,rfl,h3,hw.rN⟩
theorem vi{bD exp nw:Int}{s:Mm}{bo bi bl bn:Nat}(ht:t.root<=9223372036854775807)(ho:bD<=s.nodes.length)(he:exp<=s.nodes.length)(hnn:nw<=s.nodes.length):oE b 96 [pt bo,pt bi,pt bl,pt bn] [] (bx bo (iH b t)::bx bi [iv bD]::bx bl [iv exp]::bx bn [iv nw]::B) s (mQ t bD exp nw λ ok=>.done (lD 0 ok)):=by
 intro a D A w em ok hm hA hB hw0
 subst em
 have hT:Sy b (λ ok=>.done (lD 0 ok)) a.mm 98 [] (bx bo (iH b t)::bx bi [iv bD]::bx bl [iv exp]::bx bn [iv nw]::B):=⟨by kernel_rfl,λ v s1 l=>yf v⟩
 refine enter Tryz.func96 Tryz.ntmps96 rfl rfl hw0 ?_
 simp only[bX]
 refine J0 ?_;refine aI (λ x4=>?_);refine aG ?_;refine J0 ?_;refine aB (Ot bo (iH b t) 0 3 hB rfl rfl) rfl ?_;refine aB (mU bi [.int .i64 bD] 0 hB rfl) rfl ?_;refine aB (mU bl [.int .i64 exp] 0 hB rfl) rfl ?_;refine aB (mU bn [.int .i64 nw] 0 hB rfl) rfl ?_;refine aC (Cm (λ w1 hw=>Sb ht hT ho he hnn ok hm hA hB hw)) (λ x9 h9=>?_);refine bW (gK λ _=>bA rf cN rf (cK _) dI rf jB) (λ _=>?_);refine aG ?_
 refine bB Tryz.results96 (λ w hw=>?_)
 exact⟨x9,rfl,h9,hw.rN⟩
theorem Nt(ht:t.root<=9223372036854775807){n m:Nat}(hT:bQ (oL t λ r=>.done (lD r false)) n m)(ok:a.Ok)(hm:a.mm.Small)(hA:∀f∈aK a.L,f∈A)(hB:∀x∈B,x∈A)(hs:SF w D [(b,dS a)] A [] (dZ a) w) :
  Calls Tryz.prog 52 #[.iface 42 (.pointer (some ⟨b,0,none⟩)),.agg ⟨[.int .i64 t.root,.bool t.ro]⟩] w λ e w'=>∃x:Nat×Cd×Fr×AS,e=.returned (.pointer (some ⟨x.1,0,none⟩))/\(mH b (Ct.iU (oL t λ r=>.done (lD r false)) a.mm) a B x.2/\eE (Ct.iU (oL t λ r=>.done (lD r false)) a.mm).1=true)/\SF w D [(x.1,tO b x.2.1 0),(b,dS x.2.2.2)] [] x.2.2.1 (dZ x.2.2.2) w':=by
 refine enter Tryz.func52 Tryz.ntmps52 rfl rfl hs ?_
 simp only[bX]
 refine J0 ?_;refine bL (λ x3=>?_);refine J1 ?_;refine J2 ?_;refine bN ?_;refine bG ?_;refine aI (λ x5=>?_);refine J5 ?_;refine J2 ?_;(refine aB (bY (by(repeat (first|exact cE _|(apply bU;focus ((conv=>{lhs;whnf});try exact rfl))));done)) rfl ?_);(refine aP (bF.pre (λ w h=>(show SF _ _ [_,(b,dS a)] _ ([bx x5 (iH b t)]:Fr) _ w from h.cP .head)) (M1 (V:=λ x:Nat×Cd×Fr×AS=>.pointer (some ⟨x.1,0,none⟩)) (hs:=[(b,dS a)]) (os:=dZ a) (hs':=λ x=>[(b,dS x.2.2.2)]) (Hc:=λ x=>[(x.1,tO b x.2.1 0)]) (os':=λ x=>dZ x.2.2.2) (Oc:=λ _=>[]) (Fc:=λ x=>x.2.2.1) (A0:=[bx x5 (iH b t)]++A) (hA:=aW.an) (hc:=λ w1 hw=>Kj (B:=[bx x5 (iH b t)]++B) hT ⟨by kernel_rfl,λ s1 l=>xo ht⟩ ok hm (λ f hf=>List.mem_append_right _ (hA f hf)) (Fz hB) hw))) (λ x11=>?_);try (refine eW (λ h11=>?_)));refine J1 ?_
 refine aR Tryz.results52 (λ w hw=>?_)
 exact⟨(x11.1,x11.2.1,x11.2.2.1++[bx x5 (iH b t)],x11.2.2.2),rfl,⟨mH.app h11.1,h11.2⟩,hw.ret (by repeat (first|exact List.Sublist.refl _|apply List.Sublist.cons_cons|apply List.Sublist.cons)) (aY.iB λ f hf=>hf) (by repeat (exact List.Sublist.refl _))⟩
theorem Oz{bD exp nw:Int}(ht:t.root<=9223372036854775807)(ho:bD<=a.mm.nodes.length)(he:exp<=a.mm.nodes.length)(hnn:nw<=a.mm.nodes.length){n m:Nat}(hT:bQ (mQ t bD exp nw λ ok=>.done (lD 0 ok)) n m)(ok:a.Ok)(hm:a.mm.Small)(hA:∀f∈aK a.L,f∈A)(hB:∀x∈B,x∈A)(hs:SF w D [(b,dS a)] A [] (dZ a) w) :
  Calls Tryz.prog 48 #[.iface 42 (.pointer (some ⟨b,0,none⟩)),.agg ⟨[.int .i64 t.root,.bool t.ro]⟩,.int .i64 bD,.int .i64 exp,.int .i64 nw] w λ e w'=>∃x:Nat×Cd×Fr×AS,e=.returned (.pointer (some ⟨x.1,0,none⟩))/\(mH b (Ct.iU (mQ t bD exp nw λ ok=>.done (lD 0 ok)) a.mm) a B x.2/\eE (Ct.iU (mQ t bD exp nw λ ok=>.done (lD 0 ok)) a.mm).1=true)/\SF w D [(x.1,tO b x.2.1 0),(b,dS x.2.2.2)] [] x.2.2.1 (dZ x.2.2.2) w':=by
 refine enter Tryz.func48 Tryz.ntmps48 rfl rfl hs ?_
 simp only[bX]
 refine J0 ?_;refine bL (λ x6=>?_);refine bL (λ x7=>?_);refine bL (λ x8=>?_);refine bL (λ x9=>?_);refine J1 ?_;refine J2 ?_;refine bN ?_;refine bG ?_;refine aI (λ x11=>?_);refine J5 ?_;refine J2 ?_;(refine aB (bY (by(repeat (first|exact cE _|(apply bU;focus ((conv=>{lhs;whnf});try exact rfl))));done)) rfl ?_);(refine aP (bF.pre (λ w h=>(show SF _ _ [_,(b,dS a)] _ ([bx x11 (iH b t),bx x7 [iv bD],bx x8 [iv exp],bx x9 [iv nw]]:Fr) _ w from(((h.cP (.tail .head)).cP (.tail .head)).cP (.tail .head)).cP .head)) (M1 (V:=λ x:Nat×Cd×Fr×AS=>.pointer (some ⟨x.1,0,none⟩)) (hs:=[(b,dS a)]) (os:=dZ a) (hs':=λ x=>[(b,dS x.2.2.2)]) (Hc:=λ x=>[(x.1,tO b x.2.1 0)]) (os':=λ x=>dZ x.2.2.2) (Oc:=λ _=>[]) (Fc:=λ x=>x.2.2.1) (A0:=[bx x11 (iH b t),bx x7 [iv bD],bx x8 [iv exp],bx x9 [iv nw]]++A) (hA:=aW.an) (hc:=λ w1 hw=>Kj (B:=[bx x11 (iH b t),bx x7 [iv bD],bx x8 [iv exp],bx x9 [iv nw]]++B) hT ⟨by kernel_rfl,λ s1 l=>vi ht (by have:=l.len;omega) (by have:=l.len;omega) (by have:=l.len;omega)⟩ ok hm (λ f hf=>List.mem_append_right _ (hA f hf)) (Fz hB) hw))) (λ x17=>?_);try (refine eW (λ h17=>?_)));refine J1 ?_
 refine aR Tryz.results48 (λ w hw=>?_)
 exact⟨(x17.1,x17.2.1,x17.2.2.1++[bx x11 (iH b t),bx x7 [iv bD],bx x8 [iv exp],bx x9 [iv nw]],x17.2.2.2),rfl,⟨mH.app h17.1,h17.2⟩,hw.ret (by repeat (first|exact List.Sublist.refl _|apply List.Sublist.cons_cons|apply List.Sublist.cons)) (aY.iB λ f hf=>hf) (by repeat (exact List.Sublist.refl _))⟩
end
end

/- The laws of root: a world, an arena, a trie; the sanity check. -/
end Go.Proofs.YtbajmaoegmbfgaaGreat
namespace Go.Ct
section
open Go Go.RowKit
theorem SF.aBc{w0 w:World}{M:List Nat}{p q x:Nat×Obj}{E:List (Nat×Obj)}{A F:Fr}{O:List Ow}(h:SF w0 M (p::q::(E++[x])) A F O w):SF w0 M (x::p::q::E) A F O w:=h.perm (List.perm_append_comm (l₁:=[x]) (l₂:=p::q::E)) (List.Perm.refl _)
end
end Go.Ct
namespace Go.Proofs.YtbajmaoegmbfgaaGreat
section
open Go Go.RowKit Go.Ct
structure TQ where
 bw:Nat
 bm:Nat
 m:Nat
 W:Wd
 ba:Nat
 a:AS
 j:Nat
 tp:Nat
 pos:Nat
structure R5(q:TQ):Prop where
 m:q.m<18446744073709551616
 W:Tc q.m 2415922570 1048594 18 q.W
 j:q.j<q.W.ts.length
 mm:q.a.mm=q.W.z.mm
 a:q.a.Ok
abbrev TQ.t(q:TQ):fR:=q.W.ts.getD q.j ⟨0,false⟩
theorem R5.root{q:TQ}(h:R5 q):q.t.root<=9223372036854775807:=h.W.root (by decide) (Av h.j)
theorem R5.sm{q:TQ}(h:R5 q):q.a.mm.Small:=by
 obtain⟨s1,s2,s3⟩:=h.W.sz
 rw[h.mm]
 refine⟨?_,?_⟩
 ·show(q.W.z.L.map aS.c).length<=_
  rw[List.length_map];omega
 ·show q.W.z.cs.length<=_;omega
theorem U9{z:XS}(h:z.Ok):z.a0.Ok:=⟨h.fit,h.nd,h.cs,h.got,h.made,h.two,h.lL,h.lc,h.lg,h.la,h.lm,h.lk,h.le,h.fr,h.ys,h.gen0,h.ms,h.m1⟩
theorem R5.lok{q:TQ}(h:R5 q):Cg q.ba 2415922570 0 ⟨q.a,q.W.z.a0,[],[]⟩:=.none (U9 h.W.z) h.a h.mm h.W.sz
abbrev tqH(l:List Int)(a:Option Addr)(c:Nat)(q:TQ):List (Nat×Obj):=[(q.ba,dS q.a),(q.tp,C9 a l c q.pos),(q.bw,iT q.bm (q.m:Int) q.W.pt q.W.ts.length q.W.kt q.W.pe (nK q.W.ex).length q.W.ke),(q.bm,xM q.W.z.a0)]
abbrev tqO(q:TQ):List Ow:=dZ q.a++iI q.W.z
set_option maxRecDepth 100000 in
set_option maxHeartbeats 1000000 in
theorem Zk{l l2:List Int}{a a2:Option Addr}{c c2:Nat}{w:World}(h1:Go.Ct.Cl w a (aH l))(hl:l.length<=17592186043904)(h2:Go.Ct.Cl w a2 (aH l2))(hl2:l2.length<=17592186043904) :
  Calls Tryz.prog 50 #[.slice a l.length c,.slice a2 l2.length c2] w λ e w'=>∃q:TQ,e=.returned (.tuple #[.pointer (some ⟨q.bw,0,none⟩),.pointer (some ⟨q.ba,0,none⟩),.agg ⟨[.int .i64 q.t.root,.bool q.t.ro]⟩,.pointer (some ⟨q.tp,0,none⟩)])/\R5 q/\SF w [] (tqH l2 a2 c2 q) [] (aK q.a.L++aK q.W.z.L) (tqO q) w':=by
 refine enter Tryz.func50 Tryz.ntmps50 rfl rfl (SF.s2 h1 h2) ?_
 simp only[bX]
 refine J0 ?_;refine oX (λ _=>?_);refine oX (λ _=>?_);refine aI (λ x6=>?_);refine J1 ?_;refine J2 ?_;refine aC (Sl (Hc:=λ q:Nat×Nat×Nat×Wd=>wH q.2.2.1 q.1 q.2.1 q.2.2.2) (H1:=λ q=>(q.1,iT q.2.1 (q.2.2.1:Int) q.2.2.2.pt q.2.2.2.ts.length q.2.2.2.kt q.2.2.2.pe (nK q.2.2.2.ex).length q.2.2.2.ke)::(q.2.1,xM q.2.2.2.z)::(qF q.2.1 q.2.2.2.ex++[(x6,.cells ⟨[.int .i64 0,.bool false]⟩ 29 (0,0))])) (Fc:=λ q=>aK q.2.2.2.z.L) (F1:=λ q=>aK q.2.2.2.z.L) (Oc:=λ q=>wO q.2.2.2) (O1:=λ q=>⟨q.2.2.2.pt,sY q.2.2.2.ts,q.2.2.2.kt,29,2⟩::⟨q.2.2.2.pe,Af (nK q.2.2.2.ex),q.2.2.2.ke,74,1⟩::⟨q.2.2.2.z.pn,gS q.2.2.2.z.L,q.2.2.2.z.cn,47,14⟩::⟨q.2.2.2.z.pc,aH q.2.2.2.z.cs,q.2.2.2.z.cc,37,1⟩::oN q.2.2.2.ex) (hH1:=λ q=>by simp only[wH,List.cons_append]) (hF1:=λ q=>List.append_nil _) (hO1:=λ q=>List.append_nil _) (hc:=λ w1 hw=>Y5 (hw.cl (.bD .head)) hl)) (λ x12 h12=>?_)
 have hm:=h12.1
 have hW:=h12.2
 have htl:=hW.tl
 have ht0:=hW.t0
 obtain⟨s1,s2,s3⟩:=hW.sz
 refine uo (λ w hw=>SF.aBc hw) ?_
 refine J1 ?_;refine J2 ?_;refine aC (Sl (Fc:=λ _=>[]) (Oc:=λ _=>[]) (hc:=λ w1 hw=>au)) (λ x14 h14=>?_);refine hZ ?_
 refine dJ [10,15,16,17,18,19,20,21,22,23,24,25,26,27] (λ j:Nat×Nat=>[(10,.pointer (some ⟨j.1,0,none⟩))]) (λ j=>j.2<x12.2.2.2.ts.length) (λ j=>(j.1,.cells ⟨[.int .i64 (x12.2.2.2.ts.getD j.2 ⟨0,false⟩).root,.bool (x12.2.2.2.ts.getD j.2 ⟨0,false⟩).ro]⟩ 29 (0,0))::(x14,C9 a2 l2 c2 (kR l2 0))::(x6,.cells ⟨[.int .i64 0,.bool false]⟩ 29 (0,0))::(x12.1,iT x12.2.1 (x12.2.2.1:Int) x12.2.2.2.pt x12.2.2.2.ts.length x12.2.2.2.kt x12.2.2.2.pe (nK x12.2.2.2.ex).length x12.2.2.2.ke)::(x12.2.1,xM x12.2.2.2.z)::qF x12.2.1 x12.2.2.2.ex) (λ _=>aK x12.2.2.2.z.L) (λ _=>⟨x12.2.2.2.pt,sY x12.2.2.2.ts,x12.2.2.2.kt,29,2⟩::⟨x12.2.2.2.pe,Af (nK x12.2.2.2.ex),x12.2.2.2.ke,74,1⟩::⟨x12.2.2.2.z.pn,gS x12.2.2.2.z.L,x12.2.2.2.z.cn,47,14⟩::⟨x12.2.2.2.z.pc,aH x12.2.2.2.z.cs,x12.2.2.2.z.cc,37,1⟩::oN x12.2.2.2.ex) (by decide) (λ _=>by exact rfl) ?_ (λ j f hx=>?_)
 ·refine fP (.one 0 [] (.one 1 [] (.one 2 [] (.one 3 [] (.one 4 [] (.one 5 [] (.one 6 [] (.one 7 [] (.one 8 [] (.one 9 [] (.two 10 [3] (.one 11 [] (.one 12 [] (.one 13 [3,8,11,12] (.one 14 [] .nil)))) 0 [] (.two 13 [3,8] (.one 10 [3] (.one 11 [] (.one 12 [] (.one 14 [] .nil)))) 0 [] .nil)))))))))))) ?_
  refine Yb ?_;refine U2 ?_;refine oG ?_
  refine fF (E:=[10,13]) (by decide +kernel) ((.cons ?_ (.cons ?_ .nil)))
  ·refine jG (i:=10) (hq:=(tU (hc:=λ w1 hw=>eH x12.2.2.2.ts.length (hw.tape cN fin hl2) (by omega) (by omega)))) (h:=λ x25 h25=>?_)
   refine bS (i:=11) (hq:=(vL (cs:=sY x12.2.2.2.ts) (k:=x25) rf rf gN dI (.own .head) (by omega) (by rw[kW];omega))) (h:=?_);refine bS (i:=12) (hq:=(Gg (ts:=x12.2.2.2.ts) (q:=x25) rf dI (.own .head) (by omega))) (h:=?_);refine fO (hfire:=(λ _=>by((repeat (first|exact aV.nil|refine aV.cons (by first|exact iX|exact iC (hq:=vL (cs:=sY x12.2.2.2.ts) (k:=x25) rf rf gN dI (.own .head) (by omega) (by rw[kW];omega))|exact iC (hq:=Gg (ts:=x12.2.2.2.ts) (q:=x25) rf dI (.own .head) (by omega))) ?_));done))) (h:=λ x10=>?_);refine wU ?_
   refine eC ((x10,x25)) ?_ (hw1:=λ w hw=>hw.back (hH:=by exact List.Sublist.refl _) (hF:=by exact aY.all) (hO:=by exact List.Sublist.refl _))
   ·omega
  ·refine eX (i:=13) (h:=λ x10=>?_)
   refine aZ (i:=10) (hq:=(tU (hc:=λ w1 hw=>eH x12.2.2.2.ts.length (hw.tape cN fin hl2) (by omega) (by omega)))) (h:=λ x25 h25=>?_);refine bS (i:=11) (hq:=(vL (cs:=sY x12.2.2.2.ts) (k:=x25) rf rf gN dI (.own .head) (by omega) (by rw[kW];omega))) (h:=?_);refine bS (i:=12) (hq:=(Gg (ts:=x12.2.2.2.ts) (q:=x25) rf dI (.own .head) (by omega))) (h:=?_);refine wU ?_
   refine eC ((x10,x25)) ?_ (hw1:=λ w hw=>hw.back (hH:=by exact List.Sublist.refl _) (hF:=by exact aY.all) (hO:=by exact List.Sublist.refl _))
   ·omega
 dsimp only[gP,List.map,List.cons_append,List.nil_append]
 refine aT ?_;refine dV [(0,[]),(1,[]),(2,[]),(3,[]),(4,[]),(6,[]),(7,[]),(5,[6]),(8,[6]),(9,[6]),(10,[]),(11,[])] ?_;refine U2 ?_;refine bK ?_;refine aM ?_;refine aZ (i:=5) (hq:=(M1 (V:=λ q:Nat×AS=>.pointer (some ⟨q.1,0,none⟩)) (hs:=[(x12.2.1,xM x12.2.2.2.z)]) (os:=iI x12.2.2.2.z) (hs':=λ _=>[(x12.2.1,xM x12.2.2.2.z.a0)]) (Hc:=λ q=>[(q.1,dS q.2)]) (os':=λ _=>iI x12.2.2.2.z) (Oc:=λ q=>dZ q.2) (Fc:=λ q=>aK q.2.L) (A0:=aK x12.2.2.2.z.L) (hA:=aW.of λ f hf=>.inr (.inr (.inl hf))) (hc:=λ w1 hw=>W6 hW.z (A9 hW) (by omega) (by omega) (λ f hf=>hf) hw))) (h:=λ x33 h33=>?_);refine xQ (h:=λ _=>?_);refine xQ (h:=λ _=>?_);refine yB ?_
 refine bB Tryz.results50 (λ w hw=>?_)
 exact⟨⟨x12.1,x12.2.1,x12.2.2.1,x12.2.2.2,x33.1,x33.2,j.2,x14,kR l2 0⟩,rfl,⟨hm,hW,hx,h33.1,h33.2⟩,hw.ret (by repeat (first|exact List.nil_sublist _|apply List.Sublist.cons_cons|apply List.Sublist.cons)) (aY.iB λ f hf=>hf) (by repeat (first|exact List.nil_sublist _|apply List.Sublist.cons_cons|apply List.Sublist.cons))⟩
end

end Go.Proofs.YtbajmaoegmbfgaaGreat

/- Merged. -/
import Derived.Test.YtbajmaoegmbfgaaGreatGGc4
import Derived.Test.YtbajmaoegmbfgaaGreatGTt2
import Derived.Test.YtbajmaoegmbfgaaGreatGGc1
set_option linter.unusedSimpArgs false
set_option linter.unusedVariables false
namespace Go.Proofs.YtbajmaoegmbfgaaGreat
open Go Go.RowKit Go.Ct
section
section
variable{D:List Nat}{A B:Fr}{a:AS}{b:Nat}{w:World}{f:FuncId}{cap:List Value}{t:dO}
theorem s4{K:Bool->Tr}{x r:Int}{s:Mm}{b3 b4:Nat}(hK:So b K s f cap B):oR b 142 [pt b3,pt b4] [.int .i64 r] (bx b3 [fn f cap]::bx b4 [iv x]::B) s (K (x==1)):=by
 intro a D A w em ok hm hA hB hw0
 subst em
 have hK2:=hK.more (B2:=(bx b3 [fn f cap]::bx b4 [iv x]::B)) (λ x hx=>by simp[hx])
 refine enter Tryz.func142 Tryz.ntmps142 rfl rfl hw0 ?_
 simp only[cE]
 refine J0 ?_;refine aJ (λ x4=>?_);refine aG ?_;refine J0 ?_;refine aB (nF b3 [fn f cap] 0 hB rfl) rfl ?_;refine aB (nF b4 [.int .i64 x] 0 hB rfl) rfl ?_;refine kR ?_;refine aC (Lg hK2.1 (hK2.2 (x==1) a.mm (Mm.Le.refl _)) ok hm hA hB) (λ x8 h8=>?_);refine cB (gK λ _=>aW rf cR rf (cN _) eE rf jC) (λ _=>?_);refine aG ?_
 refine bB Tryz.results142 (λ w hw=>?_)
 exact⟨x8,rfl,h8,hw.rN⟩
theorem tu{K:Bool->Tr}{v x:Int}{s:Mm}{b1 b2 b3:Nat}(ht:t.root<=9223372036854775807)(hK:So b K s f cap B)(hv:v<=s.nodes.length):oR b 140 [pt b1,pt b2,pt b3] [.int .i64 x] (bx b1 (iH b t)::bx b2 [iv v]::bx b3 [fn f cap]::B) s (jX t v x λ _=>K (x==1)):=by
 intro a D A w em ok hm hA hB hw0
 subst em
 have hT:∀x4:Nat,zN b (λ _=>K (x==1)) a.mm 142 [.pointer (some ⟨b3,0,none⟩),.pointer (some ⟨x4,0,none⟩)] (bx x4 [iv x]::(bx b1 (iH b t)::bx b2 [iv v]::bx b3 [fn f cap]::B)):=λ x4=>⟨by kernel_rfl,λ r s1 l hr=>(s4 (b3:=b3) (b4:=x4) (r:=r) (hK.le l)).mr (λ y hy=>by
  simp only[List.mem_cons] at hy ⊢
  rcases hy with h|h|h<;>simp[h])⟩
 refine enter Tryz.func140 Tryz.ntmps140 rfl rfl hw0 ?_
 simp only[cE]
 refine J0 ?_;refine bN (λ x4=>?_);refine aJ (λ x5=>?_);refine aG ?_;refine J0 ?_;refine aB (Pv b1 (iH b t) 0 3 hB rfl rfl) rfl ?_;refine aB (nF b2 [.int .i64 v] 0 hB rfl) rfl ?_;refine bO ?_;(refine aB cD rfl ?_);(refine aM (bF.pre (λ w h=>(show SF _ _ [_,(b,dL a)] _ [(bx x4 [iv x]:Option Addr×List Value)] _ w from h.cU (.tail .head))) (cM (V:=λ y:Cd×Fr×AS=>.agg ⟨y.1.cells⟩) (hs:=[(b,dL a)]) (os:=dZ a) (hs':=λ y=>[(b,dL y.2.2)]) (os':=λ y=>dZ y.2.2) (Fc:=λ y=>y.2.1) (A0:=bx x4 [iv x]::A) (hA:=bI.aAs) (hc:=λ w1 hw=>nV ht (hT x4) hv ok hm (λ f hf=>List.mem_cons_of_mem _ (hA f hf)) (Rv hB) hw))) (λ x10=>?_);try (refine fD (λ h10=>?_)));refine cB (gK λ _=>aW rf cR rf (cN _) eE rf jC) (λ _=>?_);refine aG ?_
 refine bB Tryz.results140 (λ w hw=>?_)
 refine⟨(x10.1,x10.2.1++[bx x4 [iv x]],x10.2.2),rfl,⟨?_,h10.2.1,h10.2.2.more (λ f hf=>List.mem_append_left _ hf)⟩,hw.rI⟩
 dsimp only
 rw[List.append_assoc]
 exact h10.1
theorem sd{K:Bool->Tr}{v:Int}{s:Mm}{b0 b1 b2 b3:Nat}{nd:Nd}(ht:t.root<=9223372036854775807)(hK:So b K s f cap B)(hv:v<=s.nodes.length)(hst:(bD s.nodes v).status=nd.status):oR b 139 [pt b0,pt b1,pt b2,pt b3] [] (bx b0 (nd.cells:List Value)::bx b1 (iH b t)::bx b2 [iv v]::bx b3 [fn f cap]::B) s (.node v λ nd=>.load nd.status λ s=>jX t v s λ _=>K (s==1)):=by
 intro a D A w em ok hm hA hB hw0
 subst em
 have hd:nd.status<=9223372036854775807:=by rw[<- hst];exact mK hm (ok.mo.at v).status
 refine enter Tryz.func139 Tryz.ntmps139 rfl rfl hw0 ?_
 simp only[cE]
 refine J0 ?_;refine aJ (λ x4=>?_);refine aG ?_;refine Ka6 ?_;refine aB (nF b0 (nd.cells:List Value) 13 hB rfl) rfl ?_;(refine aB cD rfl ?_);refine aM (cV (hc:=λ w1 hw=>nL _ _ _ w1)) (λ x8=>?_);refine cB (gK λ _=>aW rf cR rf (cN _) eE rf jC) (λ _=>?_);refine aG ?_
 refine bB Tryz.results139 (λ w hw=>?_)
 refine⟨(nK nd.status _ _,[],a),rfl,⟨⟨hv,?_⟩,ok,AS.gQ.refl a⟩,hw.rI⟩
 dsimp only
 rw[hst]
 exact⟨rfl,hd,_,_,rfl,by kernel_rfl,λ x s1 l hx=>(tu (b1:=b1) (b2:=b2) (b3:=b3) ht (hK.le l) (by have:=l.len;omega)).mr (λ y hy=>List.mem_cons_of_mem _ hy)⟩
theorem tv{K:Bool->Tr}{v:Int}{s:Mm}{b0 b1 b2 b3:Nat}{nd:Nd}(ht:t.root<=9223372036854775807)(hK:So b K s f cap B)(hv:v<=s.nodes.length)(ho:(bD s.nodes v).bA=nd.bA)(he:(bD s.nodes v).exp=nd.exp)(hst:(bD s.nodes v).status=nd.status)(o:Bool):oR b 137 [pt b3,pt b1,pt b0,pt b2] [.bool o] (bx b3 [fn f cap]::bx b1 (iH b t)::bx b0 (nd.cells:List Value)::bx b2 [iv v]::B) s (if o=true then jN t v (.node v λ nd=>.load nd.status λ s=>jX t v s λ _=>K (s==1)) else K false):=by
 intro a D A w em ok hm hA hB hw0
 subst em
 have hK2:=hK.more (B2:=(bx b3 [fn f cap]::bx b1 (iH b t)::bx b0 (nd.cells:List Value)::bx b2 [iv v]::B)) (λ x hx=>by simp[hx])
 have hT:U2 b (.node v λ nd=>.load nd.status λ s=>jX t v s λ _=>K (s==1)) a.mm 139 [.pointer (some ⟨b0,0,none⟩),.pointer (some ⟨b1,0,none⟩),.pointer (some ⟨b2,0,none⟩),.pointer (some ⟨b3,0,none⟩)] (bx b3 [fn f cap]::bx b1 (iH b t)::bx b0 (nd.cells:List Value)::bx b2 [iv v]::B):=⟨by kernel_rfl,λ s1 l=>(sd (b0:=b0) (b1:=b1) (b2:=b2) (b3:=b3) (nd:=nd) ht (hK.le l) (by have:=l.len;omega) (by rw[l.nd hv];exact hst)).mr (λ y hy=>by
  simp only[List.mem_cons] at hy ⊢
  rcases hy with h|h|h|h|h<;>simp[h])⟩
 refine enter Tryz.func137 Tryz.ntmps137 rfl rfl hw0 ?_
 simp only[cE]
 refine J0 ?_;refine aJ (λ x6=>?_);refine aG ?_;refine lI ?_;refine pN ?_
 refine bE (λ c8=>?_) (λ c8=>?_)
 ·refine J0 ?_;refine aB (nF b3 [fn f cap] 0 hB rfl) rfl ?_;refine aC (Lg hK2.1 (hK2.2 false a.mm (Mm.Le.refl _)) ok hm hA hB) (λ x10 h10=>?_);refine cB (gK λ _=>aW rf cR rf (cN _) eE rf jC) (λ _=>?_);refine aG ?_
  refine bB Tryz.results137 (λ w hw=>?_)
  refine⟨x10,rfl,⟨?_,h10.2⟩,hw.rN⟩
  rw[if_neg (by rw[show o=false by simpa using c8];decide)]
  exact h10.1
 ·refine aS ?_;refine J0 ?_;refine aB (Pv b1 (iH b t) 0 3 hB rfl rfl) rfl ?_;refine aB (Pv b0 (nd.cells:List Value) 0 14 hB rfl rfl) rfl ?_;(refine aB cD rfl ?_);refine aC (Bi (λ w1 hw=>Jp (nd:=nd) ht hT hv ho he hst ok hm hA hB hw)) (λ x14 h14=>?_);refine cB (gK λ _=>aW rf cR rf (cN _) eE rf jC) (λ _=>?_);refine aG ?_
  refine bB Tryz.results137 (λ w hw=>?_)
  refine⟨x14,rfl,⟨?_,h14.2⟩,hw.rN⟩
  rw[if_pos (by simpa using c8)]
  exact h14.1
theorem Sk{K:Bool->Tr}{fq:FuncId}{bA exp nw:Int}(ht:t.root<=9223372036854775807)(hK:So b K a.mm fq cap B)(ho:bA<=a.mm.nodes.length)(he:exp<=a.mm.nodes.length+1)(hnw:nw<=a.mm.nodes.length)(ok:a.Ok)(hm:a.mm.Small)(hA:∀f∈aL a.L,f∈A)(hB:∀x∈B,x∈A)(hs:SF w D [(b,dL a)] A [] (dZ a) w) :
  Calls Tryz.prog 97 #[.agg ⟨iH b t⟩,.int .i64 bA,.int .i64 exp,.int .i64 nw,fn fq cap] w (Ax b (λ c' s' B'=>kB b (jK t bA exp nw K) a.mm c' s' B') a B D w):=by
 have okA:∀x:AX,(a.al ({Nd.zero with kind:=8,bA:=bA,exp:=exp,new:=nw}:Nd) [] [] 0 x).Ok:=λ x=>ok.al1 x (by simp) (by simp) ⟨show bA<=((a.mm.nodes.length+1:Nat):Int) by omega,show exp<=((a.mm.nodes.length+1:Nat):Int) by omega,show nw<=((a.mm.nodes.length+1:Nat):Int) by omega,(λ r hr=>nomatch hr),bH _,bH _,bH _,⟨0,rfl,by decide⟩,⟨0,rfl,by decide⟩⟩ (by omega)
 have hlA:∀x:AX,(a.al ({Nd.zero with kind:=8,bA:=bA,exp:=exp,new:=nw}:Nd) [] [] 0 x).mm.nodes.length=a.mm.nodes.length+1:=λ x=>by rw[lA];show(a.mm.nodes++[_]).length=_;simp
 have hleA:∀x:AX,a.mm.Le (a.al ({Nd.zero with kind:=8,bA:=bA,exp:=exp,new:=nw}:Nd) [] [] 0 x).mm:=λ x=>by rw[lA];exact Lm _ _ _
 refine enter Tryz.func97 Tryz.ntmps97 rfl rfl hs ?_
 simp only[cE]
 refine J0 ?_;refine bN (λ x5=>?_);refine bN (λ x9=>?_);refine aJ (λ x10=>?_);refine S3 ?_
 refine eJ [11,13,14,15,16,17,18,19,20,21] (λ j:Nat×AX=>[(11,.pointer (some ⟨j.1,0,none⟩))]) (λ _=>True) (λ j=>[(j.1,.cells ⟨[.int .i64 ((a.mm.nodes.length+1:Nat):Int)]⟩ 37 (0,0)),(x10,.cells ⟨(zG Rs.zero).cells⟩ 132 (0,0)),(x9,.cells ⟨[fn fq cap]⟩ 130 (0,0)),(x5,.cells ⟨iH b t⟩ 125 (0,0)),(b,dL (a.al ({Nd.zero with kind:=8,bA:=bA,exp:=exp,new:=nw}:Nd) [] [] 0 j.2))]) (λ j=>(kZ ({Nd.zero with kind:=8,bA:=bA,exp:=exp,new:=nw}:Nd) [] [] a.cs.length j.2).fr) (λ j=>dZ (a.al ({Nd.zero with kind:=8,bA:=bA,exp:=exp,new:=nw}:Nd) [] [] 0 j.2)) (by decide) (λ _=>by exact rfl) ?_ (λ j f hx=>?_)
 ·refine iD (.one 0 [] (.one 1 [] (.one 2 [] (.one 3 [] (.one 4 [] (.one 6 [] (.one 7 [] (.two 5 [1] (.two 8 [] (.one 9 [1] (.one 10 [] .nil)) 0 [] (.two 9 [1] (.one 8 [] (.one 10 [] .nil)) 0 [] .nil)) 0 [] (.two 9 [1] (.one 5 [1] (.one 8 [] (.one 10 [] .nil))) 0 [] .nil))))))))) ?_
  refine pG ?_;refine hU ?_;refine bC ?_;refine cP (i:=6) (hq:=(Cu rf)) (h:=?_);refine bC ?_
  refine iK (E:=[5,9]) (by decide +kernel) ((.cons ?_ (.cons ?_ .nil)))
  ·refine C9 (i:=5) (hq:=(cV (hc:=λ w1 hw=>dk bA exp nw w1))) (h:=λ x18=>?_)
   refine iK (E:=[8,9]) (by decide +kernel) ((.cons ?_ (.cons ?_ .nil)))
   ·refine mE (i:=8) (hq:=(cMI (V:=λ _:AX=>.int .i64 ((a.mm.nodes.length+1:Nat):Int)) (hs:=[(b,dL a)]) (os:=dZ a) (A0:=[(none,aH []),(none,dE [])]) (hs':=λ x=>[(b,dL (a.al ({Nd.zero with kind:=8,bA:=bA,exp:=exp,new:=nw}:Nd) [] [] 0 x))]) (os':=λ x=>dZ (a.al ({Nd.zero with kind:=8,bA:=bA,exp:=exp,new:=nw}:Nd) [] [] 0 x)) (Fc:=λ x=>(kZ ({Nd.zero with kind:=8,bA:=bA,exp:=exp,new:=nw}:Nd) [] [] a.cs.length x).fr) (hm:=λ w=>xP _ _ _ w) (hc:=λ w1 hw=>pZ ok hm 0 rfl rfl (by simp) (by simp) (λ f hf=>hf) hw))) (h:=λ x21 h21=>?_)
    refine dC (i:=9) (hq:=(gK λ _=>Fh (z:=.int .i64 0) (by kernel_rfl) rfl)) (h:=λ x11=>?_);refine Bb ?_
    refine fF ((x11,x21)) ?_
    ·trivial
   ·refine C9 (i:=9) (hq:=(gK λ _=>Fh (z:=.int .i64 0) (by kernel_rfl) rfl)) (h:=λ x11=>?_)
    refine bG (i:=8) (hq:=(cMI (V:=λ _:AX=>.int .i64 ((a.mm.nodes.length+1:Nat):Int)) (hs:=[(b,dL a)]) (os:=dZ a) (A0:=[(none,aH []),(none,dE [])]) (hs':=λ x=>[(b,dL (a.al ({Nd.zero with kind:=8,bA:=bA,exp:=exp,new:=nw}:Nd) [] [] 0 x))]) (os':=λ x=>dZ (a.al ({Nd.zero with kind:=8,bA:=bA,exp:=exp,new:=nw}:Nd) [] [] 0 x)) (Fc:=λ x=>(kZ ({Nd.zero with kind:=8,bA:=bA,exp:=exp,new:=nw}:Nd) [] [] a.cs.length x).fr) (hm:=λ w=>xP _ _ _ w) (hc:=λ w1 hw=>pZ ok hm 0 rfl rfl (by simp) (by simp) (λ f hf=>hf) hw))) (h:=λ x21 h21=>?_);refine Bb ?_
    refine fF ((x11,x21)) ?_
    ·trivial
  ·refine C9 (i:=9) (hq:=(gK λ _=>Fh (z:=.int .i64 0) (by kernel_rfl) rfl)) (h:=λ x11=>?_)
   refine dC (i:=5) (hq:=(cV (hc:=λ w1 hw=>dk bA exp nw w1))) (h:=λ x18=>?_);refine bG (i:=8) (hq:=(cMI (V:=λ _:AX=>.int .i64 ((a.mm.nodes.length+1:Nat):Int)) (hs:=[(b,dL a)]) (os:=dZ a) (A0:=[(none,aH []),(none,dE [])]) (hs':=λ x=>[(b,dL (a.al ({Nd.zero with kind:=8,bA:=bA,exp:=exp,new:=nw}:Nd) [] [] 0 x))]) (os':=λ x=>dZ (a.al ({Nd.zero with kind:=8,bA:=bA,exp:=exp,new:=nw}:Nd) [] [] 0 x)) (Fc:=λ x=>(kZ ({Nd.zero with kind:=8,bA:=bA,exp:=exp,new:=nw}:Nd) [] [] a.cs.length x).fr) (hm:=λ w=>xP _ _ _ w) (hc:=λ w1 hw=>pZ ok hm 0 rfl rfl (by simp) (by simp) (λ f hf=>hf) hw))) (h:=λ x21 h21=>?_);refine Bb ?_
   refine fF ((x11,x21)) ?_
   ·trivial
 dsimp only[iB,List.map,List.cons_append,List.nil_append]
 refine gY ?_;refine bO ?_;refine aC (aBk (V:=λ q:Option Addr×Option Addr=>.agg ⟨((aD (dH (a.al ({Nd.zero with kind:=8,bA:=bA,exp:=exp,new:=nw}:Nd) [] [] 0 j.2).L) ((a.mm.nodes.length+1:Nat):Int)).at_ q.1 q.2).nd.cells⟩) (hs:=[(b,dL (a.al ({Nd.zero with kind:=8,bA:=bA,exp:=exp,new:=nw}:Nd) [] [] 0 j.2))]) (os:=dZ (a.al ({Nd.zero with kind:=8,bA:=bA,exp:=exp,new:=nw}:Nd) [] [] 0 j.2)) (A0:=aL (a.al ({Nd.zero with kind:=8,bA:=bA,exp:=exp,new:=nw}:Nd) [] [] 0 j.2).L) (hA:=bI.of λ f hf=>((AS.gQ.al a _ _ _ _ j.2).fam f hf).imp_right λ h=>h.elim (λ h=>.inl (hA f h)) λ h=>.inr (.inl h)) (hm:=λ w=>Qm _ _ w) (hc:=λ w1 hw=>dx (okA j.2) (by have:=hm.1;have:=hlA j.2;omega) ((a.mm.nodes.length+1:Nat):Int) (by have:=hlA j.2;have:=hm.1;omega) hw)) (λ x25 h25=>?_);refine aJ (λ x12=>?_);refine J5 ?_;refine Ka6 ?_;refine Kc2 ?_;refine bO ?_;(refine aB cD rfl ?_);refine aM (cV (hc:=λ w1 hw=>tC _ _ _ _ _ w1)) (λ x32=>?_);refine cB (gK λ _=>aW rf cR rf (cN _) eE rf jC) (λ _=>?_);refine aG ?_
 refine bB Tryz.results97 (λ w hw=>?_)
 refine⟨(uB t.root bA ((a.mm.nodes.length+1:Nat):Int) _ _,[bx x12 (((aD (dH (a.al ({Nd.zero with kind:=8,bA:=bA,exp:=exp,new:=nw}:Nd) [] [] 0 j.2).L) ((a.mm.nodes.length+1:Nat):Int)).at_ x25.1 x25.2).nd.cells:List Value),bx j.1 [iv ((a.mm.nodes.length+1:Nat):Int)],bx x9 [fn fq cap],bx x5 (iH b t)]++(kZ ({Nd.zero with kind:=8,bA:=bA,exp:=exp,new:=nw}:Nd) [] [] a.cs.length j.2).fr,(a.al ({Nd.zero with kind:=8,bA:=bA,exp:=exp,new:=nw}:Nd) [] [] 0 j.2)),rfl,⟨?_,okA j.2,(AS.gQ.al a _ _ _ _ j.2).more (λ f hf=>List.mem_append_right _ hf)⟩,?_⟩
 ·refine⟨lA a _ _ _ _ j.2,ht,?_,_,_,rfl,by kernel_rfl,λ o s1 l=>?_⟩
  ·show _<=(((a.mm.nodes++[_]).length:Nat):Int)
   rw[List.length_append]
   simp
  ·have l1:(a.al ({Nd.zero with kind:=8,bA:=bA,exp:=exp,new:=nw}:Nd) [] [] 0 j.2).mm.Le s1:=by rw[lA];exact l
   have hl1:=l1.len
   have hl2:=hlA j.2
   have hv1:((a.mm.nodes.length+1:Nat):Int)<=(a.al ({Nd.zero with kind:=8,bA:=bA,exp:=exp,new:=nw}:Nd) [] [] 0 j.2).mm.nodes.length:=by omega
   exact(tv (b0:=x12) (b1:=x5) (b2:=j.1) (b3:=x9) (nd:=((aD (dH (a.al ({Nd.zero with kind:=8,bA:=bA,exp:=exp,new:=nw}:Nd) [] [] 0 j.2).L) ((a.mm.nodes.length+1:Nat):Int)).at_ x25.1 x25.2).nd) ht (hK.le ((hleA j.2).trans l1)) (by omega) (by rw[l1.nd hv1,iJ];rfl) (by rw[l1.nd hv1,iJ];rfl) (by rw[l1.nd hv1,iJ];rfl) o).mr (λ y hy=>by
   simp only[List.mem_cons,List.mem_append,List.not_mem_nil,or_false] at hy ⊢
   rcases hy with h|h|h|h|h<;>simp[h])
 ·exact((((hw.cU (.tail (.tail (.tail (.tail .head))))).cU (.tail (.tail (.tail .head)))).cU (.tail .head)).cU .head).rI
end
end
section
section
variable{D:List Nat}{A B:Fr}{a:AS}{b:Nat}{w:World}{f:FuncId}{cap:List Value}{t:dO}
theorem xu{s:Mm}{bo:Nat}(ht:t.root<=9223372036854775807):oR b 101 [pt bo] [] (bx bo (iH b t)::B) s (kF t λ r=>.done (eN r false)):=by
 intro a D A w em ok hm hA hB hw0
 subst em
 have hT:zN b (λ r=>.done (eN r false)) a.mm 103 [] (bx bo (iH b t)::B):=⟨by kernel_rfl,λ v s1 l hv=>aAv v⟩
 refine enter Tryz.func101 Tryz.ntmps101 rfl rfl hw0 ?_
 simp only[cE]
 refine J0 ?_;refine aJ (λ x1=>?_);refine aG ?_;refine J0 ?_;refine aB (Pv bo (iH b t) 0 3 hB rfl rfl) rfl ?_;refine aC (Bi (λ w1 hw=>sw ht hT ok hm hA hB hw)) (λ x3 h3=>?_);refine cB (gK λ _=>aW rf cR rf (cN _) eE rf jC) (λ _=>?_);refine aG ?_
 refine bB Tryz.results101 (λ w hw=>?_)
 exact⟨x3,rfl,h3,hw.rN⟩
theorem aAx{bA exp nw:Int}{s:Mm}{bo bi bl bn:Nat}(ht:t.root<=9223372036854775807)(ho:bA<=s.nodes.length)(he:exp<=s.nodes.length+1)(hnn:nw<=s.nodes.length):oR b 96 [pt bo,pt bi,pt bl,pt bn] [] (bx bo (iH b t)::bx bi [iv bA]::bx bl [iv exp]::bx bn [iv nw]::B) s (jK t bA exp nw λ ok=>.done (eN 0 ok)):=by
 intro a D A w em ok hm hA hB hw0
 subst em
 have hT:So b (λ ok=>.done (eN 0 ok)) a.mm 98 [] (bx bo (iH b t)::bx bi [iv bA]::bx bl [iv exp]::bx bn [iv nw]::B):=⟨by kernel_rfl,λ v s1 l=>z7 v⟩
 refine enter Tryz.func96 Tryz.ntmps96 rfl rfl hw0 ?_
 simp only[cE]
 refine J0 ?_;refine aJ (λ x4=>?_);refine aG ?_;refine J0 ?_;refine aB (Pv bo (iH b t) 0 3 hB rfl rfl) rfl ?_;refine aB (nF bi [.int .i64 bA] 0 hB rfl) rfl ?_;refine aB (nF bl [.int .i64 exp] 0 hB rfl) rfl ?_;refine aB (nF bn [.int .i64 nw] 0 hB rfl) rfl ?_;refine aC (Bi (λ w1 hw=>Sk ht hT ho he hnn ok hm hA hB hw)) (λ x9 h9=>?_);refine cB (gK λ _=>aW rf cR rf (cN _) eE rf jC) (λ _=>?_);refine aG ?_
 refine bB Tryz.results96 (λ w hw=>?_)
 exact⟨x9,rfl,h9,hw.rN⟩
theorem Y3(ht:t.root<=9223372036854775807){n m:Nat}(hT:bS (kF t λ r=>.done (eN r false)) n m)(ok:a.Ok)(hm:a.mm.Small)(hA:∀f∈aL a.L,f∈A)(hB:∀x∈B,x∈A)(hs:SF w D [(b,dL a)] A [] (dZ a) w) :
  Calls Tryz.prog 52 #[.iface 42 (.pointer (some ⟨b,0,none⟩)),.agg ⟨[.int .i64 t.root,.bool t.ro]⟩] w λ e w'=>∃x:Nat×Cd×Fr×AS,e=.returned (.pointer (some ⟨x.1,0,none⟩))/\(qN b (Ct.gW (kF t λ r=>.done (eN r false)) a.mm) a B x.2/\cS (Ct.gW (kF t λ r=>.done (eN r false)) a.mm).1=true)/\SF w D [(x.1,tO b x.2.1 0),(b,dL x.2.2.2)] [] x.2.2.1 (dZ x.2.2.2) w':=by
 refine enter Tryz.func52 Tryz.ntmps52 rfl rfl hs ?_
 simp only[cE]
 refine J0 ?_;refine bN (λ x3=>?_);refine Ka4 ?_;refine bO ?_;refine bK ?_;refine aJ (λ x5=>?_);refine J5 ?_;refine J2 ?_;(refine aB cD rfl ?_);(refine aM (bF.pre (λ w h=>(show SF _ _ [_,(b,dL a)] _ ([bx x5 (iH b t)]:Fr) _ w from h.cU .head)) (ph (V:=λ x:Nat×Cd×Fr×AS=>.pointer (some ⟨x.1,0,none⟩)) (hs:=[(b,dL a)]) (os:=dZ a) (hs':=λ x=>[(b,dL x.2.2.2)]) (Hc:=λ x=>[(x.1,tO b x.2.1 0)]) (os':=λ x=>dZ x.2.2.2) (Oc:=λ _=>[]) (Fc:=λ x=>x.2.2.1) (A0:=[bx x5 (iH b t)]++A) (hA:=bI.dy) (hc:=λ w1 hw=>Kp (B:=[bx x5 (iH b t)]++B) hT ⟨by kernel_rfl,λ s1 l=>xu ht⟩ ok hm (λ f hf=>List.mem_append_right _ (hA f hf)) (Ep hB) hw))) (λ x11=>?_);try (refine fD (λ h11=>?_)));refine J1 ?_
 refine aN Tryz.results52 (λ w hw=>?_)
 exact⟨(x11.1,x11.2.1,x11.2.2.1++[bx x5 (iH b t)],x11.2.2.2),rfl,⟨qN.app h11.1,h11.2⟩,hw.ret (by repeat (first|exact List.Sublist.refl _|apply List.Sublist.cons_cons|apply List.Sublist.cons)) (aV.kN λ f hf=>hf) (by repeat (exact List.Sublist.refl _))⟩
theorem Kg{bA exp nw:Int}(ht:t.root<=9223372036854775807)(ho:bA<=a.mm.nodes.length)(he:exp<=a.mm.nodes.length+1)(hnn:nw<=a.mm.nodes.length){n m:Nat}(hT:bS (jK t bA exp nw λ ok=>.done (eN 0 ok)) n m)(ok:a.Ok)(hm:a.mm.Small)(hA:∀f∈aL a.L,f∈A)(hB:∀x∈B,x∈A)(hs:SF w D [(b,dL a)] A [] (dZ a) w) :
  Calls Tryz.prog 48 #[.iface 42 (.pointer (some ⟨b,0,none⟩)),.agg ⟨[.int .i64 t.root,.bool t.ro]⟩,.int .i64 bA,.int .i64 exp,.int .i64 nw] w λ e w'=>∃x:Nat×Cd×Fr×AS,e=.returned (.pointer (some ⟨x.1,0,none⟩))/\(qN b (Ct.gW (jK t bA exp nw λ ok=>.done (eN 0 ok)) a.mm) a B x.2/\cS (Ct.gW (jK t bA exp nw λ ok=>.done (eN 0 ok)) a.mm).1=true)/\SF w D [(x.1,tO b x.2.1 0),(b,dL x.2.2.2)] [] x.2.2.1 (dZ x.2.2.2) w':=by
 refine enter Tryz.func48 Tryz.ntmps48 rfl rfl hs ?_
 simp only[cE]
 refine J0 ?_;refine bN (λ x6=>?_);refine bN (λ x7=>?_);refine bN (λ x8=>?_);refine bN (λ x9=>?_);refine Ka4 ?_;refine bO ?_;refine bK ?_;refine aJ (λ x11=>?_);refine J5 ?_;refine J2 ?_;(refine aB cD rfl ?_);(refine aM (bF.pre (λ w h=>(show SF _ _ [_,(b,dL a)] _ ([bx x11 (iH b t),bx x7 [iv bA],bx x8 [iv exp],bx x9 [iv nw]]:Fr) _ w from(((h.cU (.tail .head)).cU (.tail .head)).cU (.tail .head)).cU .head)) (ph (V:=λ x:Nat×Cd×Fr×AS=>.pointer (some ⟨x.1,0,none⟩)) (hs:=[(b,dL a)]) (os:=dZ a) (hs':=λ x=>[(b,dL x.2.2.2)]) (Hc:=λ x=>[(x.1,tO b x.2.1 0)]) (os':=λ x=>dZ x.2.2.2) (Oc:=λ _=>[]) (Fc:=λ x=>x.2.2.1) (A0:=[bx x11 (iH b t),bx x7 [iv bA],bx x8 [iv exp],bx x9 [iv nw]]++A) (hA:=bI.dy) (hc:=λ w1 hw=>Kp (B:=[bx x11 (iH b t),bx x7 [iv bA],bx x8 [iv exp],bx x9 [iv nw]]++B) hT ⟨by kernel_rfl,λ s1 l=>aAx ht (by have:=l.len;omega) (by have:=l.len;omega) (by have:=l.len;omega)⟩ ok hm (λ f hf=>List.mem_append_right _ (hA f hf)) (Ep hB) hw))) (λ x17=>?_);try (refine fD (λ h17=>?_)));refine J1 ?_
 refine aN Tryz.results48 (λ w hw=>?_)
 exact⟨(x17.1,x17.2.1,x17.2.2.1++[bx x11 (iH b t),bx x7 [iv bA],bx x8 [iv exp],bx x9 [iv nw]],x17.2.2.2),rfl,⟨qN.app h17.1,h17.2⟩,hw.ret (by repeat (first|exact List.Sublist.refl _|apply List.Sublist.cons_cons|apply List.Sublist.cons)) (aV.kN λ f hf=>hf) (by repeat (exact List.Sublist.refl _))⟩
theorem Y0{bA exp nw:Int}(ht:t.root<=9223372036854775807)(ho:bA<=a.mm.nodes.length)(he:exp<=a.mm.nodes.length)(hnn:nw<=a.mm.nodes.length){n m:Nat}(hT:bS (jK t bA exp nw λ ok=>.done (eN 0 ok)) n m)(ok:a.Ok)(hm:a.mm.Small)(hA:∀f∈aL a.L,f∈A)(hB:∀x∈B,x∈A)(hs:SF w D [(b,dL a)] A [] (dZ a) w) :
  Calls Tryz.prog 48 #[.iface 42 (.pointer (some ⟨b,0,none⟩)),.agg ⟨[.int .i64 t.root,.bool t.ro]⟩,.int .i64 bA,.int .i64 exp,.int .i64 nw] w λ e w'=>∃x:Nat×Cd×Fr×AS,e=.returned (.pointer (some ⟨x.1,0,none⟩))/\(qN b (Ct.gW (jK t bA exp nw λ ok=>.done (eN 0 ok)) a.mm) a B x.2/\cS (Ct.gW (jK t bA exp nw λ ok=>.done (eN 0 ok)) a.mm).1=true)/\SF w D [(x.1,tO b x.2.1 0),(b,dL x.2.2.2)] [] x.2.2.1 (dZ x.2.2.2) w' :=
 Kg ht ho (by omega) hnn hT ok hm hA hB hs
end
end
end Go.Proofs.YtbajmaoegmbfgaaGreat
namespace Go.Ct
open Go Go.RowKit
section
end
end Go.Ct
namespace Go.Proofs.YtbajmaoegmbfgaaGreat
open Go Go.RowKit Go.Ct
section
end
section
theorem X8(x y:AX):jA (L4 x y) [0,3,4] 1 :=
 pF (m:=0) (B:=8) (C:=0) (E:=0) (W:=⟨XS.new (L4 x y) [0,3,4] 1 0 none 0 none 0,[⟨3,false⟩],none,0,[],none,0⟩) ⟨U6 _ _ _ _ _ _ _,⟨by show 4<=8;decide,by show 3<=8;decide,by show(1:Int)<=((8:Nat):Int);decide⟩,(λ e he=>nomatch he),by show 0<1;decide,rfl,by show 1<=5;decide,Nat.le_refl _,.new⟩
section
variable{D:List Nat}{A B:Fr}{a0 a:AS}{b bt n m most:Nat}{w:World}{c:Cd}{F:Fr}{p:Tr×Mm}
theorem du(hp:qN b p a0 B (c,F,a))(ha:cS p.1=true)(ht:bS p.1 m 64)(hmm:most<=m)(hm:p.2.nodes.length+64*most<=137438953472/\p.2.cs.length+64*most<=137438953472)(hn:n+most<1000000000)(hA:∀f∈aL a.L,f∈A)(hB:∀x∈F++B,x∈A)(hs:SF w D [(bt,tO b c n),(b,dL a)] A [] (dZ a) w) :
  Calls Tryz.prog 30 #[.pointer (some ⟨bt,0,none⟩),.int .i64 ((most:Nat):Int)] w λ e w'=>∃y:Cd×Fr×AS,e=.returned (.int .i64 ((rH p most:Nat):Int))/\wh b (kP p most) a (F++B) y/\SF w D [(bt,tO b y.1 (n+rH p most)),(b,dL y.2.2)] [] y.2.1 (dZ y.2.2) w':=by
 obtain⟨⟨h1,h2⟩,h3,h4⟩:=hp
 simp only at h1 h2 h3
 have e:(p.1,a.mm)=p:=by rw[h2]
 have:=Nu (b:=b) (bt:=bt) (n:=n) (D:=D) (A:=A) (B:=F++B) (w:=w) (most:=most) ht hmm ha (a:=a) (c:=c) (by rw[h2];exact h1) h3 (by rw[h2];exact hm) hn hA hB hs
 rw[e] at this
 exact this
end
def Yy:Nd:={Nd.zero with kind:=2,gen:=1}
def Qt:Mm:=mm0.push (Yy.c [] []) 3
def Vc:Tr:=jK ⟨3,false⟩ 4 3 5 λ ok=>.done (eN 0 ok)
theorem Aq:bS Vc 20 64:=by
 have h:Vc=kX ⟨4,⟨3,false⟩,4,3,5,0,0,0,⟨#[]⟩,0,0,0,false⟩ 0 21:=by
  unfold Vc kX
  rfl
 rw[h]
 exact Iv (by decide)
theorem zd:kP (Ct.gW Vc Qt) 9=(.done (eN 0 true),(kP (Ct.gW Vc Qt) 9).2)/\rH (Ct.gW Vc Qt) 9=6/\aY (kP (Ct.gW Vc Qt) 9).2.cs 3=5:=⟨rfl,rfl,rfl⟩
theorem zf:(Ct.gW Vc Qt).2.nodes.length=6/\(Ct.gW Vc Qt).2.cs.length=5:=⟨rfl,rfl⟩
theorem qa{D:List Nat}{A B F:Fr}{a0 a:AS}{b bt:Nat}{c:Cd}{w:World}(hp:qN b (Ct.gW Vc Qt) a0 B (c,F,a))(hA:∀f∈aL a.L,f∈A)(hB:∀x∈F++B,x∈A)(hs:SF w D [(bt,tO b c 0),(b,dL a)] A [] (dZ a) w) :
  Calls Tryz.prog 30 #[.pointer (some ⟨bt,0,none⟩),.int .i64 9] w λ e w'=>∃y:Fr×AS,e=.returned (.int .i64 6)/\(aY y.2.cs 3=5/\y.2.cs.length<=1000)/\SF w D [(bt,tO b (zG (eN 0 true)) 6),(b,dL y.2)] [] y.1 (dZ y.2) w':=by
 obtain⟨e1,e2,e3⟩:=zd
 obtain⟨g1,g2⟩:=zf
 refine(du (n:=0) (m:=20) (most:=9) hp (oF Qt Aq) (mQ Qt Aq 64) (by decide) ⟨by omega,by omega⟩ (by decide) hA hB hs).mono λ e w' ⟨y,h1,h2,hw⟩=>?_
 have h3:=h2.rp
 rw[e1] at h3
 obtain⟨_,h4⟩:=h3
 have h5:y.2.2.cs=(kP (Ct.gW Vc Qt) 9).2.cs:=congrArg Mm.cs h2.mm
 obtain⟨_,_,_,h6⟩:=A2 (mQ Qt Aq 64) (oF Qt Aq) 9 (by decide) (s:=(Ct.gW Vc Qt).2)
 rw[e2,h4] at hw
 refine⟨(y.2.1,y.2.2),by rw[h1,e2];rfl,⟨by show aY y.2.2.cs 3=5;rw[h5];exact e3,?_⟩,hw⟩
 show y.2.2.cs.length<=1000
 rw[h5]
 have:(kP (Ct.gW Vc Qt) 9).2.cs.length<=(Ct.gW Vc Qt).2.cs.length+64*9:=h6
 omega
set_option maxRecDepth 100000 in
set_option maxHeartbeats 1000000 in
theorem I7(w:World):Calls Tryz.prog 45 #[] w λ e w'=>e=.returned (.bool true)/\St w [] [] w':=by
 refine enter Tryz.func45 Tryz.ntmps45 rfl rfl (SF.s0 w) ?_
 simp only[cE]
 refine cZ ?_;refine J0 ?_;refine aC (Yr (Fc:=λ _=>[]) (hc:=λ w1 hw=>ll w1)) (λ x7 h7=>?_);refine Ka4 ?_;refine aC (cM (hc:=λ w hs=>O8 hs)) (λ x9 h9=>?_);refine aJ (λ x2=>?_);refine J5 ?_;refine Ip ?_;refine aB (aP (k:=3) rf cR eE (by simp only[List.drop_zero,List.take_succ_cons,List.take_zero];exact rfl) rfl) rfl ?_;refine aC (Yr (V:=λ x:Nat×List aU×(Option Addr×Nat)×(Option Addr×Nat)=>.tuple #[.pointer (some ⟨x.1,0,none⟩),.int .i64 0]) (Hc:=λ x=>[(x.1,aO x.2.1 [0,3,4] 1 0 x.2.2.1.1 x.2.2.1.2 x.2.2.2.1 x.2.2.2.2)]) (Fc:=λ x=>aL x.2.1) (Oc:=λ x=>mW x.2.1 [0,3,4] x.2.2.1.1 x.2.2.1.2 x.2.2.2.1 x.2.2.2.2) (hc:=λ w1 hw=>Zf (L:=L4 x9.1 x9.2.1) (cs:=[0,3,4]) (hw.ij (.inr (.inr (.inr ⟨_,.head _,rfl,rfl⟩))) (.inr (.inr (.inr ⟨_,.tail _ (.head _),rfl,rfl⟩))) (λ f hf=>.inl (dp f hf)) (U6 x9.1 x9.2.1 0 none 0 none 0).fit) (by show 4<=_;decide) (by decide) (hw.ze .head) (X8 _ _))) (λ x15 h15=>?_)
 obtain⟨a0,ha0⟩:∃a:AS,a=⟨x15.2.1,[0,3,4],1,0,x15.2.2.1.1,x15.2.2.1.2,x15.2.2.2.1,x15.2.2.2.2⟩:=⟨_,rfl⟩
 have hmm:a0.mm=mm0:=by rw[ha0];show Mm.mk ((dH x15.2.1).map aU.c) [0,3,4] 1=mm0;rw[h15.1];rfl
 have hok:a0.Ok:=⟨by rw[ha0];exact h15.2,by rw[hmm];exact(U6 x9.1 x9.2.1 0 none 0 none 0).mo⟩
 have hsm:a0.mm.Small:=by rw[hmm];exact⟨by decide,by decide⟩
 have hoA:∀x:AX,(a0.al Yy [] [] 3 x).Ok:=λ x=>hok.al x (by simp) (by simp) ⟨bH _,bH _,bH _,(λ r hr=>nomatch hr),bH _,bH _,bH _,⟨0,rfl,by decide⟩,⟨0,rfl,by decide⟩⟩ (by rw[hmm];decide)
 have hmA:∀x:AX,(a0.al Yy [] [] 3 x).mm=Qt:=λ x=>by rw[lA,hmm];rfl
 refine Kd2 ?_;refine uM ?_
 refine bE (λ c19=>?_) (λ c19=>?_)
 ·try (contradiction)
 ·try (first|contradiction|(exfalso;omega))
  refine aS ?_;refine J2 ?_;refine bK ?_;refine aC (cM (V:=λ _:AX=>.int .i64 5) (hs:=[(x15.1,dL a0)]) (os:=dZ a0) (A0:=[(none,aH []),(none,dE [])]) (hs':=λ x=>[(x15.1,dL (a0.al Yy [] [] 3 x))]) (os':=λ x=>dZ (a0.al Yy [] [] 3 x)) (Fc:=λ x=>(kZ Yy [] [] a0.cs.length x).fr) (hH:=by rw[ha0];exact .cons .head .nil) (hO:=by rw[ha0];exact .cons .head (.cons .head .nil)) (hc:=λ w1 hw=>by have:=pZ (n:=Yy) (xs:=[]) (ys:=[]) hok hsm 3 rfl rfl (by simp) (by simp) (λ f hf=>hf) hw;rw[hmm] at this;exact this)) (λ x22 h22=>?_);refine Ka4 ?_;refine aB (P3 rf (λ w=>sK _ w)) rfl ?_;refine bO ?_;refine aA ?_;refine aC (ph (V:=λ x:Nat×Cd×Fr×AS=>.pointer (some ⟨x.1,0,none⟩)) (hs:=[(x15.1,dL (a0.al Yy [] [] 3 x22))]) (os:=dZ (a0.al Yy [] [] 3 x22)) (hs':=λ x=>[(x15.1,dL x.2.2.2)]) (Hc:=λ x=>[(x.1,tO x15.1 x.2.1 0)]) (os':=λ x=>dZ x.2.2.2) (Oc:=λ _=>[]) (Fc:=λ x=>x.2.2.1) (A0:=aL (a0.al Yy [] [] 3 x22).L) (hA:=bI.of λ f hf=>((AS.gQ.al a0 Yy [] [] 3 x22).fam f hf).imp_right λ h=>.inr (.inl (h.elim (λ h=>List.mem_append_right _ (by rw[ha0] at h;exact List.mem_append_left _ h)) λ h=>List.mem_append_left _ h))) (hc:=λ w1 hw=>by have:=L8 (Y0 (t:=⟨3,false⟩) (bA:=4) (exp:=3) (nw:=5) (B:=[]) (n:=20) (m:=64) (by decide) (by rw[hmA];decide) (by rw[hmA];decide) (by rw[hmA];decide) Aq (hoA x22) (by rw[hmA];exact⟨by decide,by decide⟩) (λ f hf=>hf) (λ x hx=>nomatch hx) hw);rw[hmA] at this;exact this)) (λ x27 h27=>?_);refine Ka4 ?_;refine mA ?_;refine aA ?_
  (refine Ka3 ?_)
  ((refine aF ?_;refine aC (cM (V:=λ y:Fr×AS=>.int .i64 6) (hs:=[(x27.1,tO x15.1 x27.2.1 0),(x15.1,dL x27.2.2.2)]) (os:=dZ x27.2.2.2) (hs':=λ y=>[(x27.1,tO x15.1 (zG (eN 0 true)) 6),(x15.1,dL y.2)]) (os':=λ y=>dZ y.2) (Fc:=λ y=>y.1) (A0:=aL x27.2.2.2.L++(x27.2.2.1++[])) (hA:=bI.of λ f hf=>(List.mem_append.1 hf).elim (λ h=>(h27.1.2.2.fam f h).elim .inl λ h=>h.elim (λ h=>((AS.gQ.al a0 Yy [] [] 3 x22).fam f h).imp_right λ h=>.inr (.inl (h.elim (λ h=>List.mem_append_right _ (List.mem_append_right _ (by rw[ha0] at h;exact List.mem_append_left _ h))) λ h=>List.mem_append_right _ (List.mem_append_left _ h)))) λ h=>.inr (.inr (.inl (List.mem_append_left _ h)))) λ h=>.inr (.inr (.inl (List.mem_append_left _ (by simpa using h))))) (hc:=λ w1 hw=>qa h27.1 (λ f hf=>List.mem_append_left _ hf) (λ f hf=>List.mem_append_right _ hf) hw)) (λ x32 h32=>?_)));refine Kb0 ?_
  (refine Ka3 ?_)
  ((refine aF ?_;refine aM (cV (hc:=λ w1 hw=>lG (r:=eN 0 true) (d:=true) rfl (if_pos rfl) (hw.st.at cR))) (λ x37=>?_)));((refine aF ?_;refine cC ?_));refine Ka7 ?_
  (refine Ka3 ?_)
  refine J6 ?_;((refine aF ?_;refine aC (cM (V:=λ _:Unit=>.int .i64 5) (hs:=[(x15.1,dL x32.2)]) (os:=dZ x32.2) (hs':=λ _=>[(x15.1,dL {x32.2 with acc:=up x32.2.acc})]) (os':=λ _=>dZ x32.2) (Fc:=λ _=>[]) (hc:=λ w1 hw=>by rw[<- h32.1];exact V9 hw 3 (by decide) (by omega))) (λ x44 h44=>?_)));((refine Ka3 ?_));refine uU ?_;refine J1 ?_
  refine aN Tryz.results45 (λ w hw=>?_)
  exact⟨rfl,hw.done⟩
end
end Go.Proofs.YtbajmaoegmbfgaaGreat

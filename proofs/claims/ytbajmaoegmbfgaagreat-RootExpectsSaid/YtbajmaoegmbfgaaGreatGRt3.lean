/- root: Replace. -/
import Derived.Test.YtbajmaoegmbfgaaGreatGGc4
import Derived.Test.YtbajmaoegmbfgaaGreatGTt2
import Derived.Test.YtbajmaoegmbfgaaGreatGGc1

set_option linter.unusedSimpArgs false
set_option linter.unusedVariables false
namespace Go.Proofs.YtbajmaoegmbfgaaGreat
section
open Go Go.RowKit Go.Ct
section
variable{D:List Nat}{A B:Fr}{a:AS}{b:Nat}{w:World}{f:FuncId}{cap:List Value}{t:dM}
theorem rr{K:Bool->Tr}{x r:Int}{s:Mm}{b3 b4:Nat}(hK:Rk b K s f cap B):rM b 142 [pt b3,pt b4] [.int .i64 r] (bx b3 [fn f cap]::bx b4 [iv x]::B) s (K (x==1)):=by
 intro a D A w em ok hm hA hB hw0
 subst em
 have hK2:=hK.more (B2:=(bx b3 [fn f cap]::bx b4 [iv x]::B)) (λ x hx=>by simp[hx])
 refine enter Tryz.func142 Tryz.ntmps142 rfl rfl hw0 ?_
 simp only[cD]
 refine J0 ?_;refine aJ (λ x4=>?_);refine aG ?_;refine J0 ?_;refine aB (pA b3 [fn f cap] 0 hB rfl) rfl ?_;refine aB (pA b4 [.int .i64 x] 0 hB rfl) rfl ?_;refine kE ?_;refine aD (Og hK2.1 (hK2.2 (x==1) a.mm (Mm.Le.refl _)) ok hm hA hB) (λ x8 h8=>?_);refine cI (gS λ _=>bE rf cX rf (dA _) eH rf jV) (λ _=>?_);refine aG ?_
 refine bA Tryz.results142 (λ w hw=>?_)
 exact⟨x8,rfl,h8,hw.rN⟩
theorem ll{K:Bool->Tr}{v x:Int}{s:Mm}{b1 b2 b3:Nat}(ht:t.root<=9223372036854775807)(hK:Rk b K s f cap B)(hv:v<=s.nodes.length):rM b 140 [pt b1,pt b2,pt b3] [.int .i64 x] (bx b1 (lC b t)::bx b2 [iv v]::bx b3 [fn f cap]::B) s (oD t v x λ _=>K (x==1)):=by
 intro a D A w em ok hm hA hB hw0
 subst em
 have hT:∀x4:Nat,Dt b (λ _=>K (x==1)) a.mm 142 [.pointer (some ⟨b3,0,none⟩),.pointer (some ⟨x4,0,none⟩)] (bx x4 [iv x]::(bx b1 (lC b t)::bx b2 [iv v]::bx b3 [fn f cap]::B)):=λ x4=>⟨by kernel_rfl,λ r s1 l hr=>(rr (b3:=b3) (b4:=x4) (r:=r) (hK.le l)).mr (λ y hy=>by
  simp only[List.mem_cons] at hy ⊢
  rcases hy with h|h|h<;>simp[h])⟩
 refine enter Tryz.func140 Tryz.ntmps140 rfl rfl hw0 ?_
 simp only[cD]
 refine J0 ?_;refine bO (λ x4=>?_);refine aJ (λ x5=>?_);refine aG ?_;refine J0 ?_;refine aB (Xx b1 (lC b t) 0 3 hB rfl rfl) rfl ?_;refine aB (pA b2 [.int .i64 v] 0 hB rfl) rfl ?_;refine bP ?_;(refine aB cL rfl ?_);(refine aM (bD.pre (λ w h=>(show SF _ _ [_,(b,eS a)] _ [(bx x4 [iv x]:Option Addr×List Value)] _ w from h.dF (.tail .head))) (cM (V:=λ y:Cd×Fr×AS=>.agg ⟨y.1.cells⟩) (hs:=[(b,eS a)]) (os:=eX a) (hs':=λ y=>[(b,eS y.2.2)]) (os':=λ y=>eX y.2.2) (Fc:=λ y=>y.2.1) (A0:=bx x4 [iv x]::A) (hA:=bJ.vl) (hc:=λ w1 hw=>uZ ht (hT x4) hv ok hm (λ f hf=>List.mem_cons_of_mem _ (hA f hf)) (So hB) hw))) (λ x10=>?_);try (refine fD (λ h10=>?_)));refine cI (gS λ _=>bE rf cX rf (dA _) eH rf jV) (λ _=>?_);refine aG ?_
 refine bA Tryz.results140 (λ w hw=>?_)
 refine⟨(x10.1,x10.2.1++[bx x4 [iv x]],x10.2.2),rfl,⟨?_,h10.2.1,h10.2.2.more (λ f hf=>List.mem_append_left _ hf)⟩,hw.rI⟩
 dsimp only
 rw[List.append_assoc]
 exact h10.1
theorem nl{K:Bool->Tr}{v:Int}{s:Mm}{b0 b1 b2 b3:Nat}{nd:Nd}(ht:t.root<=9223372036854775807)(hK:Rk b K s f cap B)(hv:v<=s.nodes.length)(hst:(bF s.nodes v).status=nd.status):rM b 139 [pt b0,pt b1,pt b2,pt b3] [] (bx b0 (nd.cells:List Value)::bx b1 (lC b t)::bx b2 [iv v]::bx b3 [fn f cap]::B) s (.node v λ nd=>.load nd.status λ s=>oD t v s λ _=>K (s==1)):=by
 intro a D A w em ok hm hA hB hw0
 subst em
 have hd:nd.status<=9223372036854775807:=by rw[<- hst];exact oP hm (ok.mo.at v).status
 refine enter Tryz.func139 Tryz.ntmps139 rfl rfl hw0 ?_
 simp only[cD]
 refine J0 ?_;refine aJ (λ x4=>?_);refine aG ?_;refine Ka9 ?_;refine aB (pA b0 (nd.cells:List Value) 13 hB rfl) rfl ?_;(refine aB cL rfl ?_);refine aM (cV (hc:=λ w1 hw=>sZ _ _ _ w1)) (λ x8=>?_);refine cI (gS λ _=>bE rf cX rf (dA _) eH rf jV) (λ _=>?_);refine aG ?_
 refine bA Tryz.results139 (λ w hw=>?_)
 refine⟨(qP nd.status _ _,[],a),rfl,⟨⟨hv,?_⟩,ok,AS.iF.refl a⟩,hw.rI⟩
 dsimp only
 rw[hst]
 exact⟨rfl,hd,_,_,rfl,by kernel_rfl,λ x s1 l hx=>(ll (b1:=b1) (b2:=b2) (b3:=b3) ht (hK.le l) (by have:=l.len;omega)).mr (λ y hy=>List.mem_cons_of_mem _ hy)⟩
theorem rz{K:Bool->Tr}{v:Int}{s:Mm}{b0 b1 b2 b3:Nat}{nd:Nd}(ht:t.root<=9223372036854775807)(hK:Rk b K s f cap B)(hv:v<=s.nodes.length)(ho:(bF s.nodes v).aZ=nd.aZ)(he:(bF s.nodes v).exp=nd.exp)(hst:(bF s.nodes v).status=nd.status)(o:Bool):rM b 137 [pt b3,pt b1,pt b0,pt b2] [.bool o] (bx b3 [fn f cap]::bx b1 (lC b t)::bx b0 (nd.cells:List Value)::bx b2 [iv v]::B) s (if o=true then oK t v (.node v λ nd=>.load nd.status λ s=>oD t v s λ _=>K (s==1)) else K false):=by
 intro a D A w em ok hm hA hB hw0
 subst em
 have hK2:=hK.more (B2:=(bx b3 [fn f cap]::bx b1 (lC b t)::bx b0 (nd.cells:List Value)::bx b2 [iv v]::B)) (λ x hx=>by simp[hx])
 have hT:Wc b (.node v λ nd=>.load nd.status λ s=>oD t v s λ _=>K (s==1)) a.mm 139 [.pointer (some ⟨b0,0,none⟩),.pointer (some ⟨b1,0,none⟩),.pointer (some ⟨b2,0,none⟩),.pointer (some ⟨b3,0,none⟩)] (bx b3 [fn f cap]::bx b1 (lC b t)::bx b0 (nd.cells:List Value)::bx b2 [iv v]::B):=⟨by kernel_rfl,λ s1 l=>(nl (b0:=b0) (b1:=b1) (b2:=b2) (b3:=b3) (nd:=nd) ht (hK.le l) (by have:=l.len;omega) (by rw[l.nd hv];exact hst)).mr (λ y hy=>by
  simp only[List.mem_cons] at hy ⊢
  rcases hy with h|h|h|h|h<;>simp[h])⟩
 refine enter Tryz.func137 Tryz.ntmps137 rfl rfl hw0 ?_
 simp only[cD]
 refine J0 ?_;refine aJ (λ x6=>?_);refine aG ?_;refine mD ?_;refine pD ?_
 refine bC (λ c8=>?_) (λ c8=>?_)
 ·refine J0 ?_;refine aB (pA b3 [fn f cap] 0 hB rfl) rfl ?_;refine aD (Og hK2.1 (hK2.2 false a.mm (Mm.Le.refl _)) ok hm hA hB) (λ x10 h10=>?_);refine cI (gS λ _=>bE rf cX rf (dA _) eH rf jV) (λ _=>?_);refine aG ?_
  refine bA Tryz.results137 (λ w hw=>?_)
  refine⟨x10,rfl,⟨?_,h10.2⟩,hw.rN⟩
  rw[if_neg (by rw[show o=false by simpa using c8];decide)]
  exact h10.1
 ·refine aV ?_;refine J0 ?_;refine aB (Xx b1 (lC b t) 0 3 hB rfl rfl) rfl ?_;refine aB (Xx b0 (nd.cells:List Value) 0 14 hB rfl rfl) rfl ?_;(refine aB cL rfl ?_);refine aD (K4 (λ w1 hw=>V0 (nd:=nd) ht hT hv ho he hst ok hm hA hB hw)) (λ x14 h14=>?_);refine cI (gS λ _=>bE rf cX rf (dA _) eH rf jV) (λ _=>?_);refine aG ?_
  refine bA Tryz.results137 (λ w hw=>?_)
  refine⟨x14,rfl,⟨?_,h14.2⟩,hw.rN⟩
  rw[if_pos (by simpa using c8)]
  exact h14.1
theorem Qz{K:Bool->Tr}{fq:FuncId}{aZ exp nw:Int}(ht:t.root<=9223372036854775807)(hK:Rk b K a.mm fq cap B)(ho:aZ<=a.mm.nodes.length)(he:exp<=a.mm.nodes.length+1)(hnw:nw<=a.mm.nodes.length)(ok:a.Ok)(hm:a.mm.Small)(hA:∀f∈aL a.L,f∈A)(hB:∀x∈B,x∈A)(hs:SF w D [(b,eS a)] A [] (eX a) w) :
  Calls Tryz.prog 97 #[.agg ⟨lC b t⟩,.int .i64 aZ,.int .i64 exp,.int .i64 nw,fn fq cap] w (Bf b (λ c' s' B'=>kR b (jB t aZ exp nw K) a.mm c' s' B') a B D w):=by
 have okA:∀x:AX,(a.al ({Nd.zero with kind:=8,aZ:=aZ,exp:=exp,new:=nw}:Nd) [] [] 0 x).Ok:=λ x=>ok.al1 x (by simp) (by simp) ⟨show aZ<=((a.mm.nodes.length+1:Nat):Int) by omega,show exp<=((a.mm.nodes.length+1:Nat):Int) by omega,show nw<=((a.mm.nodes.length+1:Nat):Int) by omega,(λ r hr=>nomatch hr),bH _,bH _,bH _,⟨0,rfl,by decide⟩,⟨0,rfl,by decide⟩⟩ (by omega)
 have hlA:∀x:AX,(a.al ({Nd.zero with kind:=8,aZ:=aZ,exp:=exp,new:=nw}:Nd) [] [] 0 x).mm.nodes.length=a.mm.nodes.length+1:=λ x=>by rw[mA];show(a.mm.nodes++[_]).length=_;simp
 have hleA:∀x:AX,a.mm.Le (a.al ({Nd.zero with kind:=8,aZ:=aZ,exp:=exp,new:=nw}:Nd) [] [] 0 x).mm:=λ x=>by rw[mA];exact Mf _ _ _
 refine enter Tryz.func97 Tryz.ntmps97 rfl rfl hs ?_
 simp only[cD]
 refine J0 ?_;refine bO (λ x5=>?_);refine bO (λ x9=>?_);refine aJ (λ x10=>?_);refine S2 ?_
 refine eE [11,13,14,15,16,17,18,19,20,21] (λ j:Nat×AX=>[(11,.pointer (some ⟨j.1,0,none⟩))]) (λ _=>True) (λ j=>[(j.1,.cells ⟨[.int .i64 ((a.mm.nodes.length+1:Nat):Int)]⟩ 37 (0,0)),(x10,.cells ⟨(A4 Rs.zero).cells⟩ 132 (0,0)),(x9,.cells ⟨[fn fq cap]⟩ 130 (0,0)),(x5,.cells ⟨lC b t⟩ 125 (0,0)),(b,eS (a.al ({Nd.zero with kind:=8,aZ:=aZ,exp:=exp,new:=nw}:Nd) [] [] 0 j.2))]) (λ j=>(lM ({Nd.zero with kind:=8,aZ:=aZ,exp:=exp,new:=nw}:Nd) [] [] a.cs.length j.2).fr) (λ j=>eX (a.al ({Nd.zero with kind:=8,aZ:=aZ,exp:=exp,new:=nw}:Nd) [] [] 0 j.2)) (by decide) (λ _=>by exact rfl) ?_ (λ j f hx=>?_)
 ·refine gX (.one 0 [] (.one 1 [] (.one 2 [] (.one 3 [] (.one 4 [] (.one 6 [] (.one 7 [] (.two 5 [1] (.two 8 [] (.one 9 [1] (.one 10 [] .nil)) 0 [] (.two 9 [1] (.one 8 [] (.one 10 [] .nil)) 0 [] .nil)) 0 [] (.two 9 [1] (.one 5 [1] (.one 8 [] (.one 10 [] .nil))) 0 [] .nil))))))))) ?_
  refine oW ?_;refine gU ?_;refine bB ?_;refine cN (i:=6) (hq:=(Ce rf)) (h:=?_);refine bB ?_
  refine iB (E:=[5,9]) (by decide +kernel) ((.cons ?_ (.cons ?_ .nil)))
  ·refine Cr (i:=5) (hq:=(cV (hc:=λ w1 hw=>Yd aZ exp nw w1))) (h:=λ x18=>?_)
   refine iB (E:=[8,9]) (by decide +kernel) ((.cons ?_ (.cons ?_ .nil)))
   ·refine lP (i:=8) (hq:=(zy (V:=λ _:AX=>.int .i64 ((a.mm.nodes.length+1:Nat):Int)) (hs:=[(b,eS a)]) (os:=eX a) (A0:=[(none,aH []),(none,dD [])]) (hs':=λ x=>[(b,eS (a.al ({Nd.zero with kind:=8,aZ:=aZ,exp:=exp,new:=nw}:Nd) [] [] 0 x))]) (os':=λ x=>eX (a.al ({Nd.zero with kind:=8,aZ:=aZ,exp:=exp,new:=nw}:Nd) [] [] 0 x)) (Fc:=λ x=>(lM ({Nd.zero with kind:=8,aZ:=aZ,exp:=exp,new:=nw}:Nd) [] [] a.cs.length x).fr) (hm:=λ w=>xD _ _ _ w) (hc:=λ w1 hw=>rH ok hm 0 rfl rfl (by simp) (by simp) (λ f hf=>hf) hw))) (h:=λ x21 h21=>?_)
    refine dB (i:=9) (hq:=(gS λ _=>Ee (z:=.int .i64 0) (by kernel_rfl) rfl)) (h:=λ x11=>?_);refine Ay ?_
    refine eY ((x11,x21)) ?_
    ·trivial
   ·refine Cr (i:=9) (hq:=(gS λ _=>Ee (z:=.int .i64 0) (by kernel_rfl) rfl)) (h:=λ x11=>?_)
    refine bG (i:=8) (hq:=(zy (V:=λ _:AX=>.int .i64 ((a.mm.nodes.length+1:Nat):Int)) (hs:=[(b,eS a)]) (os:=eX a) (A0:=[(none,aH []),(none,dD [])]) (hs':=λ x=>[(b,eS (a.al ({Nd.zero with kind:=8,aZ:=aZ,exp:=exp,new:=nw}:Nd) [] [] 0 x))]) (os':=λ x=>eX (a.al ({Nd.zero with kind:=8,aZ:=aZ,exp:=exp,new:=nw}:Nd) [] [] 0 x)) (Fc:=λ x=>(lM ({Nd.zero with kind:=8,aZ:=aZ,exp:=exp,new:=nw}:Nd) [] [] a.cs.length x).fr) (hm:=λ w=>xD _ _ _ w) (hc:=λ w1 hw=>rH ok hm 0 rfl rfl (by simp) (by simp) (λ f hf=>hf) hw))) (h:=λ x21 h21=>?_);refine Ay ?_
    refine eY ((x11,x21)) ?_
    ·trivial
  ·refine Cr (i:=9) (hq:=(gS λ _=>Ee (z:=.int .i64 0) (by kernel_rfl) rfl)) (h:=λ x11=>?_)
   refine dB (i:=5) (hq:=(cV (hc:=λ w1 hw=>Yd aZ exp nw w1))) (h:=λ x18=>?_);refine bG (i:=8) (hq:=(zy (V:=λ _:AX=>.int .i64 ((a.mm.nodes.length+1:Nat):Int)) (hs:=[(b,eS a)]) (os:=eX a) (A0:=[(none,aH []),(none,dD [])]) (hs':=λ x=>[(b,eS (a.al ({Nd.zero with kind:=8,aZ:=aZ,exp:=exp,new:=nw}:Nd) [] [] 0 x))]) (os':=λ x=>eX (a.al ({Nd.zero with kind:=8,aZ:=aZ,exp:=exp,new:=nw}:Nd) [] [] 0 x)) (Fc:=λ x=>(lM ({Nd.zero with kind:=8,aZ:=aZ,exp:=exp,new:=nw}:Nd) [] [] a.cs.length x).fr) (hm:=λ w=>xD _ _ _ w) (hc:=λ w1 hw=>rH ok hm 0 rfl rfl (by simp) (by simp) (λ f hf=>hf) hw))) (h:=λ x21 h21=>?_);refine Ay ?_
   refine eY ((x11,x21)) ?_
   ·trivial
 dsimp only[gZ,List.map,List.cons_append,List.nil_append]
 refine gP ?_;refine bP ?_;refine aD (aBr (V:=λ q:Option Addr×Option Addr=>.agg ⟨((aC (dJ (a.al ({Nd.zero with kind:=8,aZ:=aZ,exp:=exp,new:=nw}:Nd) [] [] 0 j.2).L) ((a.mm.nodes.length+1:Nat):Int)).at_ q.1 q.2).nd.cells⟩) (hs:=[(b,eS (a.al ({Nd.zero with kind:=8,aZ:=aZ,exp:=exp,new:=nw}:Nd) [] [] 0 j.2))]) (os:=eX (a.al ({Nd.zero with kind:=8,aZ:=aZ,exp:=exp,new:=nw}:Nd) [] [] 0 j.2)) (A0:=aL (a.al ({Nd.zero with kind:=8,aZ:=aZ,exp:=exp,new:=nw}:Nd) [] [] 0 j.2).L) (hA:=bJ.of λ f hf=>((AS.iF.al a _ _ _ _ j.2).fam f hf).imp_right λ h=>h.elim (λ h=>.inl (hA f h)) λ h=>.inr (.inl h)) (hm:=λ w=>Nu _ _ w) (hc:=λ w1 hw=>Zo (okA j.2) (by have:=hm.1;have:=hlA j.2;omega) ((a.mm.nodes.length+1:Nat):Int) (by have:=hlA j.2;have:=hm.1;omega) hw)) (λ x25 h25=>?_);refine aJ (λ x12=>?_);refine J5 ?_;refine Ka9 ?_;refine Kc1 ?_;refine bP ?_;(refine aB cL rfl ?_);refine aM (cV (hc:=λ w1 hw=>sX _ _ _ _ _ w1)) (λ x32=>?_);refine cI (gS λ _=>bE rf cX rf (dA _) eH rf jV) (λ _=>?_);refine aG ?_
 refine bA Tryz.results97 (λ w hw=>?_)
 refine⟨(tR t.root aZ ((a.mm.nodes.length+1:Nat):Int) _ _,[bx x12 (((aC (dJ (a.al ({Nd.zero with kind:=8,aZ:=aZ,exp:=exp,new:=nw}:Nd) [] [] 0 j.2).L) ((a.mm.nodes.length+1:Nat):Int)).at_ x25.1 x25.2).nd.cells:List Value),bx j.1 [iv ((a.mm.nodes.length+1:Nat):Int)],bx x9 [fn fq cap],bx x5 (lC b t)]++(lM ({Nd.zero with kind:=8,aZ:=aZ,exp:=exp,new:=nw}:Nd) [] [] a.cs.length j.2).fr,(a.al ({Nd.zero with kind:=8,aZ:=aZ,exp:=exp,new:=nw}:Nd) [] [] 0 j.2)),rfl,⟨?_,okA j.2,(AS.iF.al a _ _ _ _ j.2).more (λ f hf=>List.mem_append_right _ hf)⟩,?_⟩
 ·refine⟨mA a _ _ _ _ j.2,ht,?_,_,_,rfl,by kernel_rfl,λ o s1 l=>?_⟩
  ·show _<=(((a.mm.nodes++[_]).length:Nat):Int)
   rw[List.length_append]
   simp
  ·have l1:(a.al ({Nd.zero with kind:=8,aZ:=aZ,exp:=exp,new:=nw}:Nd) [] [] 0 j.2).mm.Le s1:=by rw[mA];exact l
   have hl1:=l1.len
   have hl2:=hlA j.2
   have hv1:((a.mm.nodes.length+1:Nat):Int)<=(a.al ({Nd.zero with kind:=8,aZ:=aZ,exp:=exp,new:=nw}:Nd) [] [] 0 j.2).mm.nodes.length:=by omega
   exact(rz (b0:=x12) (b1:=x5) (b2:=j.1) (b3:=x9) (nd:=((aC (dJ (a.al ({Nd.zero with kind:=8,aZ:=aZ,exp:=exp,new:=nw}:Nd) [] [] 0 j.2).L) ((a.mm.nodes.length+1:Nat):Int)).at_ x25.1 x25.2).nd) ht (hK.le ((hleA j.2).trans l1)) (by omega) (by rw[l1.nd hv1,kL];rfl) (by rw[l1.nd hv1,kL];rfl) (by rw[l1.nd hv1,kL];rfl) o).mr (λ y hy=>by
   simp only[List.mem_cons,List.mem_append,List.not_mem_nil,or_false] at hy ⊢
   rcases hy with h|h|h|h|h<;>simp[h])
 ·exact((((hw.dF (.tail (.tail (.tail (.tail .head))))).dF (.tail (.tail (.tail .head)))).dF (.tail .head)).dF .head).rI
end
end

/- root: the tasks. -/
section
open Go Go.RowKit Go.Ct
section
variable{D:List Nat}{A B:Fr}{a:AS}{b:Nat}{w:World}{f:FuncId}{cap:List Value}{t:dM}
theorem w9{aZ exp nw:Int}{s:Mm}{bo bi bl bn:Nat}(ht:t.root<=9223372036854775807)(ho:aZ<=s.nodes.length)(he:exp<=s.nodes.length+1)(hnn:nw<=s.nodes.length):rM b 96 [pt bo,pt bi,pt bl,pt bn] [] (bx bo (lC b t)::bx bi [iv aZ]::bx bl [iv exp]::bx bn [iv nw]::B) s (jB t aZ exp nw λ ok=>.done (iD 0 ok)):=by
 intro a D A w em ok hm hA hB hw0
 subst em
 have hT:Rk b (λ ok=>.done (iD 0 ok)) a.mm 98 [] (bx bo (lC b t)::bx bi [iv aZ]::bx bl [iv exp]::bx bn [iv nw]::B):=⟨by kernel_rfl,λ v s1 l=>u6 v⟩
 refine enter Tryz.func96 Tryz.ntmps96 rfl rfl hw0 ?_
 simp only[cD]
 refine J0 ?_;refine aJ (λ x4=>?_);refine aG ?_;refine J0 ?_;refine aB (Xx bo (lC b t) 0 3 hB rfl rfl) rfl ?_;refine aB (pA bi [.int .i64 aZ] 0 hB rfl) rfl ?_;refine aB (pA bl [.int .i64 exp] 0 hB rfl) rfl ?_;refine aB (pA bn [.int .i64 nw] 0 hB rfl) rfl ?_;refine aD (K4 (λ w1 hw=>Qz ht hT ho he hnn ok hm hA hB hw)) (λ x9 h9=>?_);refine cI (gS λ _=>bE rf cX rf (dA _) eH rf jV) (λ _=>?_);refine aG ?_
 refine bA Tryz.results96 (λ w hw=>?_)
 exact⟨x9,rfl,h9,hw.rN⟩
theorem Jb{aZ exp nw:Int}(ht:t.root<=9223372036854775807)(ho:aZ<=a.mm.nodes.length)(he:exp<=a.mm.nodes.length+1)(hnn:nw<=a.mm.nodes.length){n m:Nat}(hT:bR (jB t aZ exp nw λ ok=>.done (iD 0 ok)) n m)(ok:a.Ok)(hm:a.mm.Small)(hA:∀f∈aL a.L,f∈A)(hB:∀x∈B,x∈A)(hs:SF w D [(b,eS a)] A [] (eX a) w) :
  Calls Tryz.prog 48 #[.iface 42 (.pointer (some ⟨b,0,none⟩)),.agg ⟨[.int .i64 t.root,.bool t.ro]⟩,.int .i64 aZ,.int .i64 exp,.int .i64 nw] w λ e w'=>∃x:Nat×Cd×Fr×AS,e=.returned (.pointer (some ⟨x.1,0,none⟩))/\(rS b (Ct.jH (jB t aZ exp nw λ ok=>.done (iD 0 ok)) a.mm) a B x.2/\dL (Ct.jH (jB t aZ exp nw λ ok=>.done (iD 0 ok)) a.mm).1=true)/\SF w D [(x.1,tO b x.2.1 0),(b,eS x.2.2.2)] [] x.2.2.1 (eX x.2.2.2) w':=by
 refine enter Tryz.func48 Tryz.ntmps48 rfl rfl hs ?_
 simp only[cD]
 refine J0 ?_;refine bO (λ x6=>?_);refine bO (λ x7=>?_);refine bO (λ x8=>?_);refine bO (λ x9=>?_);refine Ka4 ?_;refine bP ?_;refine bM ?_;refine aJ (λ x11=>?_);refine J5 ?_;refine J2 ?_;(refine aB cL rfl ?_);(refine aM (bD.pre (λ w h=>(show SF _ _ [_,(b,eS a)] _ ([bx x11 (lC b t),bx x7 [iv aZ],bx x8 [iv exp],bx x9 [iv nw]]:Fr) _ w from(((h.dF (.tail .head)).dF (.tail .head)).dF (.tail .head)).dF .head)) (cMH (V:=λ x:Nat×Cd×Fr×AS=>.pointer (some ⟨x.1,0,none⟩)) (hs:=[(b,eS a)]) (os:=eX a) (hs':=λ x=>[(b,eS x.2.2.2)]) (Hc:=λ x=>[(x.1,tO b x.2.1 0)]) (os':=λ x=>eX x.2.2.2) (Oc:=λ _=>[]) (Fc:=λ x=>x.2.2.1) (A0:=[bx x11 (lC b t),bx x7 [iv aZ],bx x8 [iv exp],bx x9 [iv nw]]++A) (hA:=bJ.xv) (hc:=λ w1 hw=>V3 (B:=[bx x11 (lC b t),bx x7 [iv aZ],bx x8 [iv exp],bx x9 [iv nw]]++B) hT ⟨by kernel_rfl,λ s1 l=>w9 ht (by have:=l.len;omega) (by have:=l.len;omega) (by have:=l.len;omega)⟩ ok hm (λ f hf=>List.mem_append_right _ (hA f hf)) (Q4 hB) hw))) (λ x17=>?_);try (refine fD (λ h17=>?_)));refine J1 ?_
 refine aN Tryz.results48 (λ w hw=>?_)
 exact⟨(x17.1,x17.2.1,x17.2.2.1++[bx x11 (lC b t),bx x7 [iv aZ],bx x8 [iv exp],bx x9 [iv nw]],x17.2.2.2),rfl,⟨rS.app h17.1,h17.2⟩,hw.ret (by repeat (first|exact List.Sublist.refl _|apply List.Sublist.cons_cons|apply List.Sublist.cons)) (aY.kN λ f hf=>hf) (by repeat (exact List.Sublist.refl _))⟩
theorem Y8{aZ exp nw:Int}(ht:t.root<=9223372036854775807)(ho:aZ<=a.mm.nodes.length)(he:exp<=a.mm.nodes.length)(hnn:nw<=a.mm.nodes.length){n m:Nat}(hT:bR (jB t aZ exp nw λ ok=>.done (iD 0 ok)) n m)(ok:a.Ok)(hm:a.mm.Small)(hA:∀f∈aL a.L,f∈A)(hB:∀x∈B,x∈A)(hs:SF w D [(b,eS a)] A [] (eX a) w) :
  Calls Tryz.prog 48 #[.iface 42 (.pointer (some ⟨b,0,none⟩)),.agg ⟨[.int .i64 t.root,.bool t.ro]⟩,.int .i64 aZ,.int .i64 exp,.int .i64 nw] w λ e w'=>∃x:Nat×Cd×Fr×AS,e=.returned (.pointer (some ⟨x.1,0,none⟩))/\(rS b (Ct.jH (jB t aZ exp nw λ ok=>.done (iD 0 ok)) a.mm) a B x.2/\dL (Ct.jH (jB t aZ exp nw λ ok=>.done (iD 0 ok)) a.mm).1=true)/\SF w D [(x.1,tO b x.2.1 0),(b,eS x.2.2.2)] [] x.2.2.1 (eX x.2.2.2) w' :=
 Jb ht ho (by omega) hnn hT ok hm hA hB hs
end
end

/- The laws of root: a world, an arena, a trie; the sanity check. -/
end Go.Proofs.YtbajmaoegmbfgaaGreat
namespace Go.Ct
section
open Go Go.RowKit
end
end Go.Ct
namespace Go.Proofs.YtbajmaoegmbfgaaGreat
section
open Go Go.RowKit Go.Ct
structure TQ where
 bw:Nat
 bm:Nat
 m:Nat
 W:Wd
 ba:Nat
 a:AS
 j:Nat
 tp:Nat
 pos:Nat
end

/- The laws of root: the sanity check. -/
section
open Go Go.RowKit Go.Ct
theorem Xs(x y:AX):iO (L4 x y) [0,3,4] 1 :=
 oO (m:=0) (B:=8) (C:=0) (E:=0) (W:=⟨XS.new (L4 x y) [0,3,4] 1 0 none 0 none 0,[⟨3,false⟩],none,0,[],none,0⟩) ⟨Uw _ _ _ _ _ _ _,⟨by show 4<=8;decide,by show 3<=8;decide,by show(1:Int)<=((8:Nat):Int);decide⟩,(λ e he=>nomatch he),by show 0<1;decide,rfl,by show 1<=5;decide,Nat.le_refl _,.new⟩
section
variable{D:List Nat}{A B:Fr}{a0 a:AS}{b bt n m most:Nat}{w:World}{c:Cd}{F:Fr}{p:Tr×Mm}
theorem db(hp:rS b p a0 B (c,F,a))(ha:dL p.1=true)(ht:bR p.1 m 64)(hmm:most<=m)(hm:p.2.nodes.length+64*most<=137438953472/\p.2.cs.length+64*most<=137438953472)(hn:n+most<1000000000)(hA:∀f∈aL a.L,f∈A)(hB:∀x∈F++B,x∈A)(hs:SF w D [(bt,tO b c n),(b,eS a)] A [] (eX a) w) :
  Calls Tryz.prog 30 #[.pointer (some ⟨bt,0,none⟩),.int .i64 ((most:Nat):Int)] w λ e w'=>∃y:Cd×Fr×AS,e=.returned (.int .i64 ((uE p most:Nat):Int))/\xa b (nE p most) a (F++B) y/\SF w D [(bt,tO b y.1 (n+uE p most)),(b,eS y.2.2)] [] y.2.1 (eX y.2.2) w':=by
 obtain⟨⟨h1,h2⟩,h3,h4⟩:=hp
 simp only at h1 h2 h3
 have e:(p.1,a.mm)=p:=by rw[h2]
 have:=N4 (b:=b) (bt:=bt) (n:=n) (D:=D) (A:=A) (B:=F++B) (w:=w) (most:=most) ht hmm ha (a:=a) (c:=c) (by rw[h2];exact h1) h3 (by rw[h2];exact hm) hn hA hB hs
 rw[e] at this
 exact this
end
def Xw:Nd:={Nd.zero with kind:=2,gen:=1}
def P8:Mm:=zo.push (Xw.c [] []) 3
def Us:Tr:=jB ⟨3,false⟩ 4 3 5 λ ok=>.done (iD 0 ok)
theorem zR:bR Us 20 64:=by
 have h:Us=kM ⟨4,⟨3,false⟩,4,3,5,0,0,0,⟨#[]⟩,0,0,0,false⟩ 0 21:=by
  unfold Us kM
  rfl
 rw[h]
 exact Iw (by decide)
theorem yl:nE (Ct.jH Us P8) 9=(.done (iD 0 true),(nE (Ct.jH Us P8) 9).2)/\uE (Ct.jH Us P8) 9=6/\aQ (nE (Ct.jH Us P8) 9).2.cs 3=5:=⟨rfl,rfl,rfl⟩
theorem zk:(Ct.jH Us P8).2.nodes.length=6/\(Ct.jH Us P8).2.cs.length=5:=⟨rfl,rfl⟩
theorem qd{D:List Nat}{A B F:Fr}{a0 a:AS}{b bt:Nat}{c:Cd}{w:World}(hp:rS b (Ct.jH Us P8) a0 B (c,F,a))(hA:∀f∈aL a.L,f∈A)(hB:∀x∈F++B,x∈A)(hs:SF w D [(bt,tO b c 0),(b,eS a)] A [] (eX a) w) :
  Calls Tryz.prog 30 #[.pointer (some ⟨bt,0,none⟩),.int .i64 9] w λ e w'=>∃y:Fr×AS,e=.returned (.int .i64 6)/\(aQ y.2.cs 3=5/\y.2.cs.length<=1000)/\SF w D [(bt,tO b (A4 (iD 0 true)) 6),(b,eS y.2)] [] y.1 (eX y.2) w':=by
 obtain⟨e1,e2,e3⟩:=yl
 obtain⟨g1,g2⟩:=zk
 refine(db (n:=0) (m:=20) (most:=9) hp (nM P8 zR) (lV P8 zR 64) (by decide) ⟨by omega,by omega⟩ (by decide) hA hB hs).mono λ e w' ⟨y,h1,h2,hw⟩=>?_
 have h3:=h2.rp
 rw[e1] at h3
 obtain⟨_,h4⟩:=h3
 have h5:y.2.2.cs=(nE (Ct.jH Us P8) 9).2.cs:=congrArg Mm.cs h2.mm
 obtain⟨_,_,_,h6⟩:=Ap (lV P8 zR 64) (nM P8 zR) 9 (by decide) (s:=(Ct.jH Us P8).2)
 rw[e2,h4] at hw
 refine⟨(y.2.1,y.2.2),by rw[h1,e2];rfl,⟨by show aQ y.2.2.cs 3=5;rw[h5];exact e3,?_⟩,hw⟩
 show y.2.2.cs.length<=1000
 rw[h5]
 have:(nE (Ct.jH Us P8) 9).2.cs.length<=(Ct.jH Us P8).2.cs.length+64*9:=h6
 omega
set_option maxRecDepth 100000 in
set_option maxHeartbeats 1000000 in
theorem Bb(w:World):Calls Tryz.prog 45 #[] w λ e w'=>e=.returned (.bool true)/\St w [] [] w':=by
 refine enter Tryz.func45 Tryz.ntmps45 rfl rfl (SF.s0 w) ?_
 simp only[cD]
 refine cU ?_;refine J0 ?_;refine aD (Zf (Fc:=λ _=>[]) (hc:=λ w1 hw=>gg w1)) (λ x7 h7=>?_);refine Ka4 ?_;refine aD (cM (hc:=λ w hs=>Pb hs)) (λ x9 h9=>?_);refine aJ (λ x2=>?_);refine J5 ?_;refine Hw ?_;refine aB (aP (k:=3) rf cX eH (by simp only[List.drop_zero,List.take_succ_cons,List.take_zero];exact rfl) rfl) rfl ?_;refine aD (Zf (V:=λ x:Nat×List aU×(Option Addr×Nat)×(Option Addr×Nat)=>.tuple #[.pointer (some ⟨x.1,0,none⟩),.int .i64 0]) (Hc:=λ x=>[(x.1,aO x.2.1 [0,3,4] 1 0 x.2.2.1.1 x.2.2.1.2 x.2.2.2.1 x.2.2.2.2)]) (Fc:=λ x=>aL x.2.1) (Oc:=λ x=>mW x.2.1 [0,3,4] x.2.2.1.1 x.2.2.1.2 x.2.2.2.1 x.2.2.2.2) (hc:=λ w1 hw=>dw (L:=L4 x9.1 x9.2.1) (cs:=[0,3,4]) (hw.jx (.inr (.inr (.inr ⟨_,.head _,rfl,rfl⟩))) (.inr (.inr (.inr ⟨_,.tail _ (.head _),rfl,rfl⟩))) (λ f hf=>.inl (dz f hf)) (Uw x9.1 x9.2.1 0 none 0 none 0).fit) (by show 4<=_;decide) (by decide) (hw.y3 .head) (Xs _ _))) (λ x15 h15=>?_)
 obtain⟨a0,ha0⟩:∃a:AS,a=⟨x15.2.1,[0,3,4],1,0,x15.2.2.1.1,x15.2.2.1.2,x15.2.2.2.1,x15.2.2.2.2⟩:=⟨_,rfl⟩
 have hmm:a0.mm=zo:=by rw[ha0];show Mm.mk ((dJ x15.2.1).map aU.c) [0,3,4] 1=zo;rw[h15.1];rfl
 have hok:a0.Ok:=⟨by rw[ha0];exact h15.2,by rw[hmm];exact(Uw x9.1 x9.2.1 0 none 0 none 0).mo⟩
 have hsm:a0.mm.Small:=by rw[hmm];exact⟨by decide,by decide⟩
 have hoA:∀x:AX,(a0.al Xw [] [] 3 x).Ok:=λ x=>hok.al x (by simp) (by simp) ⟨bH _,bH _,bH _,(λ r hr=>nomatch hr),bH _,bH _,bH _,⟨0,rfl,by decide⟩,⟨0,rfl,by decide⟩⟩ (by rw[hmm];decide)
 have hmA:∀x:AX,(a0.al Xw [] [] 3 x).mm=P8:=λ x=>by rw[mA,hmm];rfl
 refine Kc7 ?_;refine tS ?_
 refine bC (λ c19=>?_) (λ c19=>?_)
 ·try (contradiction)
 ·try (first|contradiction|(exfalso;omega))
  refine aV ?_;refine J2 ?_;refine bM ?_;refine aD (cM (V:=λ _:AX=>.int .i64 5) (hs:=[(x15.1,eS a0)]) (os:=eX a0) (A0:=[(none,aH []),(none,dD [])]) (hs':=λ x=>[(x15.1,eS (a0.al Xw [] [] 3 x))]) (os':=λ x=>eX (a0.al Xw [] [] 3 x)) (Fc:=λ x=>(lM Xw [] [] a0.cs.length x).fr) (hH:=by rw[ha0];exact .cons .head .nil) (hO:=by rw[ha0];exact .cons .head (.cons .head .nil)) (hc:=λ w1 hw=>by have:=rH (n:=Xw) (xs:=[]) (ys:=[]) hok hsm 3 rfl rfl (by simp) (by simp) (λ f hf=>hf) hw;rw[hmm] at this;exact this)) (λ x22 h22=>?_);refine Ka4 ?_;refine aB (sd rf (λ w=>Ju _ w)) rfl ?_;refine bP ?_;refine aA ?_;refine aD (cMH (V:=λ x:Nat×Cd×Fr×AS=>.pointer (some ⟨x.1,0,none⟩)) (hs:=[(x15.1,eS (a0.al Xw [] [] 3 x22))]) (os:=eX (a0.al Xw [] [] 3 x22)) (hs':=λ x=>[(x15.1,eS x.2.2.2)]) (Hc:=λ x=>[(x.1,tO x15.1 x.2.1 0)]) (os':=λ x=>eX x.2.2.2) (Oc:=λ _=>[]) (Fc:=λ x=>x.2.2.1) (A0:=aL (a0.al Xw [] [] 3 x22).L) (hA:=bJ.of λ f hf=>((AS.iF.al a0 Xw [] [] 3 x22).fam f hf).imp_right λ h=>.inr (.inl (h.elim (λ h=>List.mem_append_right _ (by rw[ha0] at h;exact List.mem_append_left _ h)) λ h=>List.mem_append_left _ h))) (hc:=λ w1 hw=>by have:=Vh (Y8 (t:=⟨3,false⟩) (aZ:=4) (exp:=3) (nw:=5) (B:=[]) (n:=20) (m:=64) (by decide) (by rw[hmA];decide) (by rw[hmA];decide) (by rw[hmA];decide) zR (hoA x22) (by rw[hmA];exact⟨by decide,by decide⟩) (λ f hf=>hf) (λ x hx=>nomatch hx) hw);rw[hmA] at this;exact this)) (λ x27 h27=>?_);refine Ka4 ?_;refine mH ?_;refine aA ?_
  (refine Ka3 ?_)
  ((refine aF ?_;refine aD (cM (V:=λ y:Fr×AS=>.int .i64 6) (hs:=[(x27.1,tO x15.1 x27.2.1 0),(x15.1,eS x27.2.2.2)]) (os:=eX x27.2.2.2) (hs':=λ y=>[(x27.1,tO x15.1 (A4 (iD 0 true)) 6),(x15.1,eS y.2)]) (os':=λ y=>eX y.2) (Fc:=λ y=>y.1) (A0:=aL x27.2.2.2.L++(x27.2.2.1++[])) (hA:=bJ.of λ f hf=>(List.mem_append.1 hf).elim (λ h=>(h27.1.2.2.fam f h).elim .inl λ h=>h.elim (λ h=>((AS.iF.al a0 Xw [] [] 3 x22).fam f h).imp_right λ h=>.inr (.inl (h.elim (λ h=>List.mem_append_right _ (List.mem_append_right _ (by rw[ha0] at h;exact List.mem_append_left _ h))) λ h=>List.mem_append_right _ (List.mem_append_left _ h)))) λ h=>.inr (.inr (.inl (List.mem_append_left _ h)))) λ h=>.inr (.inr (.inl (List.mem_append_left _ (by simpa using h))))) (hc:=λ w1 hw=>qd h27.1 (λ f hf=>List.mem_append_left _ hf) (λ f hf=>List.mem_append_right _ hf) hw)) (λ x32 h32=>?_)));refine Kb0 ?_
  (refine Ka3 ?_)
  ((refine aF ?_;refine aM (cV (hc:=λ w1 hw=>yS (r:=iD 0 true) (d:=true) rfl (if_pos rfl) (hw.st.at cX))) (λ x37=>?_)));((refine aF ?_;refine cE ?_));refine Ka6 ?_
  (refine Ka3 ?_)
  refine J6 ?_;((refine aF ?_;refine aD (cM (V:=λ _:Unit=>.int .i64 5) (hs:=[(x15.1,eS x32.2)]) (os:=eX x32.2) (hs':=λ _=>[(x15.1,eS {x32.2 with acc:=up x32.2.acc})]) (os':=λ _=>eX x32.2) (Fc:=λ _=>[]) (hc:=λ w1 hw=>by rw[<- h32.1];exact D7 hw 3 (by decide) (by omega))) (λ x44 h44=>?_)));((refine Ka3 ?_));refine uT ?_;refine J1 ?_
  refine aN Tryz.results45 (λ w hw=>?_)
  exact⟨rfl,hw.done⟩
end

end Go.Proofs.YtbajmaoegmbfgaaGreat

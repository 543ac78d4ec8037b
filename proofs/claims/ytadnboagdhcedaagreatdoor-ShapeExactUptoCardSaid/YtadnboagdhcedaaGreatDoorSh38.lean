/- ShapeExact: a state of which a cell or a node has been changed. -/
import Derived.Test.YtadnboagdhcedaaGreatDoorGSh13
import Derived.Test.YtadnboagdhcedaaGreatDoorGArT
import Derived.Test.YtadnboagdhcedaaGreatDoorGArS
set_option linter.unusedSimpArgs false
set_option linter.unusedVariables false
namespace Go.Ct
open Go Go.RowKit
section
variable{w0 w w':World}{M:List Nat}{H:List (Nat×Obj)}{A F:Fr}{O:List Ow}
variable{P:Program}{S:List (Nat×Value)}{G:World->Prop}{d:Nat}{ty:TypeId}{pos:String}{af:Array Edge}{gd:Option (Nat×Bool)}{x y:Operand}{t t' t2 e:TypeId}{p a:Option Addr}{i m k c c2 sz:Nat}
theorem aBv{k:IntKind}{a b:Int}(hx:ev S x=.int k a)(hy:ev S y=.int k b)(h0:b≠0):aM P S G ⟨some d,.binOp .quo t x y t',ty,pos,af,gd⟩ (.int k (k.wrap (a.tdiv b))):=⟨λ w _=>by
 simp[execOp,hx,hy,eqGuard_at_int,binOp,Op.intDiv,h0]⟩
theorem rr{L:List aI}{q:Nat}(v:aI)(hq:q<L.length):(fX L).take (14*q)++v.nd.cells++(fX L).drop (14*q+v.nd.cells.length)=fX (L.set q v):=by
 have e1:fX L=fX (L.take q)++(fX [L[q]]++fX (L.drop (q+1))):=by
  rw[<- nI,<- nI,List.singleton_append,<- List.drop_eq_getElem_cons hq,List.take_append_drop]
 have l1:(fX (L.take q)).length=14*q:=by rw[eT,List.length_take,Nat.min_eq_left (by omega)];omega
 have l2:(fX [L[q]]).length=14:=by rw[eT];rfl
 rw[fE v.nd];have t1:(fX L).take (14*q)=fX (L.take q):=by rw[e1,<- l1,List.take_left]
 have t2:(fX L).drop (14*q+14)=fX (L.drop (q+1)):=by
  rw[e1,<- List.append_assoc];have l3:(fX (L.take q)++fX [L[q]]).length=14*q+14:=by rw[List.length_append,l1,l2]
  rw[<- l3,List.drop_left]
 rw[t1,t2,List.set_eq_take_append_cons_drop,if_pos hq,<- List.singleton_append (l:=L.drop (q+1)),nI,nI,List.append_assoc]
 rfl
theorem cH{L:List aI}{q:Nat}(v:aI)(hx:ev S x=.pointer (some ⟨cZ p,eG p+14*q,none⟩))(hy:ev S y=.agg ⟨v.nd.cells⟩)(ht:jK P t 14=true)(ho:uN O i p (fX L) c e 14)(hq:q<L.length) :
  aX P S (SF w0 M H A F O) ⟨none,.store t x y,ty,pos,af,gd⟩ Unit (λ _=>undef) (λ _=>SF w0 M H A F (kP O i ⟨p,fX (L.set q v),c,e,14⟩)):=by
 rw[<- rr v hq]
 exact Zm (q:=14*q) hx hy rfl (by rw[fE];exact ht) ho (by rw[fE,eT];omega) (by rw[fE];decide)
end
theorem qU(a b:Int):∃h:Nat,Bh .u64 a b=(h:Int)/\h<18446744073709551616:=by
 unfold Bh
 rw[wrap_u64]
 exact⟨((((BitVec.ofInt IntKind.u64.bits a ^^^ BitVec.ofInt IntKind.u64.bits b).toNat:Nat):Int)%18446744073709551616).toNat,by omega,by omega⟩
structure ChX where
 L:List aI
 cs:List Int
 pn:Option Addr
 cn:Nat
 pc:Option Addr
 cc:Nat
 F:Fr
def Zt(x:Int):Prop:=∃h:Nat,x=(h:Int)/\h<18446744073709551616
structure yR(L L':List aI)(cs cs':List Int)(F:Fr):Prop where
 len:L'.length=L.length
 clen:cs'.length=cs.length
 fit:Fits L'
 Ic:iG L'
 hash:∀v∈L',Zt v.nd.hash
 ys:∀B,(∀v∈L,v.ys.length<=B)->∀v∈L',v.ys.length<=B
 O9:∀f∈bD L',f.2=[]∨f∈bD L∨f∈F
theorem yR.set{L:List aI}{cs cs':List Int}{F:Fr}{k:Nat}{v:aI}(hf:Fits L)(hr:iG L)(hh:∀v∈L,Zt v.nd.hash)(hc:cs'.length=cs.length)(hk:k<L.length)(f1:v.Fit)(r1:NdR v.nd)(u1:Zt v.nd.hash)(y1:v.ys=(L.getD k aI.zero).ys)(a1:∀f∈v.fr,f.2=[]∨f∈bD L∨f∈F):yR L (L.set k v) cs cs' F:=by
 have key:∀u∈L.set k v,u∈L∨u=v:=λ u hu=>List.mem_or_eq_of_mem_set hu;refine⟨List.length_set,hc,λ u hu=>?_,λ u hu=>?_,λ u hu=>?_,λ B hB u hu=>?_,λ f hf2=>?_⟩
 ·rcases key u hu with h|rfl;exact hf u h;exact f1
 ·rcases key u hu with h|rfl;exact hr u h;exact r1
 ·rcases key u hu with h|rfl;exact hh u h;exact u1
 ·rcases key u hu with h|rfl
  ·exact hB u h
  ·rw[y1];exact hB _ (eE hk)
 ·obtain⟨u,hu,hfu⟩:=gK.1 hf2
  rcases key u hu with h|rfl
  ·exact .inr (.inl (gK.2 ⟨u,h,hfu⟩))
  ·exact a1 f hfu
section
variable{L:List aI}{cs:List Int}{k:Nat}
abbrev Ay(V:aI)(x:Int):aI:=⟨{V.nd with hash:=x},V.xs,V.ys⟩
abbrev Mv(V:aI)(x:Int):aI:=⟨{V.nd with gen:=x},V.xs,V.ys⟩
abbrev Li(V:aI)(x:ByteArray):aI:=⟨{V.nd with key:=x},V.xs,V.ys⟩
abbrev z7(V:aI)(a:Option Addr)(c:Nat)(xs:List Int):aI:=⟨{V.nd with brA:=a,brN:=0+V.nd.brN,brC:=c},xs,V.ys⟩
structure Xm(L:List aI)(k:Nat):Prop where
 fit:Fits L
 Ic:iG L
 hash:∀v∈L,Zt v.nd.hash
 lt:k<L.length
theorem Xm.mem(h:Xm L k):L.getD k aI.zero∈L:=eE h.lt
theorem Xm.O9(h:Xm L k){F:Fr}:∀f∈(L.getD k aI.zero).fr,f.2=[]∨f∈bD L∨f∈F:=λ _ hf=>.inr (.inl (gK.2 ⟨_,h.mem,hf⟩))
theorem Xm.ndr(h:Xm L k):NdR (L.getD k aI.zero).nd:=h.Ic _ h.mem
theorem fU(h:Xm L k){cs':List Int}(hc:cs'.length=cs.length):yR L (L.set k (L.getD k aI.zero)) cs cs' []:=yR.set h.fit h.Ic h.hash hc h.lt (h.fit _ h.mem) h.ndr (h.hash _ h.mem) rfl h.O9
theorem oF(h:Xm L k){x:Int}(hx:Zt x):yR L (L.set k (Ay (L.getD k aI.zero) x)) cs cs []:=by
 have f:=h.fit _ h.mem;have r:=h.ndr;exact yR.set h.fit h.Ic h.hash rfl h.lt ⟨f.1,f.2,f.3,f.4⟩ ⟨r.1,r.2,r.3,r.4⟩ hx rfl h.O9
theorem qV(h:Xm L k){x:Int}:yR L (L.set k (Mv (L.getD k aI.zero) x)) cs cs []:=by
 have f:=h.fit _ h.mem;have r:=h.ndr;exact yR.set h.fit h.Ic h.hash rfl h.lt ⟨f.1,f.2,f.3,f.4⟩ ⟨r.1,r.2,r.3,r.4⟩ (show Zt (L.getD k aI.zero).nd.hash from h.hash _ h.mem) rfl h.O9
theorem rD(h:Xm L k){x:ByteArray}:yR L (L.set k (Li (L.getD k aI.zero) x)) cs cs []:=by
 have f:=h.fit _ h.mem;have r:=h.ndr;exact yR.set h.fit h.Ic h.hash rfl h.lt ⟨f.1,f.2,f.3,f.4⟩ ⟨r.1,r.2,r.3,r.4⟩ (show Zt (L.getD k aI.zero).nd.hash from h.hash _ h.mem) rfl h.O9
theorem qn(h:Xm L k){a:Option Addr}{c:Nat}{xs:List Int}(hl:xs.length=(L.getD k aI.zero).xs.length):yR L (L.set k (z7 (L.getD k aI.zero) a c xs)) cs cs [(a,aH xs)]:=by
 have f:=h.fit _ h.mem;have r:=h.ndr;have f1:=f.1;refine yR.set h.fit h.Ic h.hash rfl h.lt ⟨by show 0+_=_;rw[hl];omega,f.2,by show xs.length<=_;rw[hl];exact f.3,f.4⟩ ⟨r.1,r.2,r.3,r.4⟩ (show Zt (L.getD k aI.zero).nd.hash from h.hash _ h.mem) rfl λ g hg=>?_;simp only[aI.fr,List.mem_cons,List.not_mem_nil,or_false] at hg
 rcases hg with rfl|rfl
 ·exact .inr (.inr (.head _))
 ·exact h.O9 _ (by simp[aI.fr])
theorem oM(h:Xm L k){a:Option Addr}{c j:Nat}{r:Int}:yR L (L.set k (z7 (L.getD k aI.zero) a c (([]++(L.getD k aI.zero).xs).set j r))) cs cs [(a,aH (([]++(L.getD k aI.zero).xs).set j r))]:=qn h (by rw[List.length_set,List.nil_append])
end
end Go.Ct
namespace Go.Proofs.YtadnboagdhcedaaGreatDoor
open Go Go.RowKit Go.Ct
theorem qW{v:Int}{n:Nat}(h0:0<n)(h1:n<=274877906944):(kT v (n:Int)).toNat<n:=by
 have h:=Aq (v:=v) (n:=(n:Int)) (by omega) (by omega);omega
theorem cY{L:List aI}{cs cs':List Int}{g c1 c2 k:Nat}{p1 p2:Option Addr}{v:aI}{F:Fr}{w w':World}{e:Ending}(he:e=.returned (.agg ⟨[.slice p1 L.length c1,.slice p2 cs.length c2,.int .i64 ((g:Nat):Int)]⟩))(hc:yR L (L.set k v) cs cs' F)(hcap:L.length<=c1)(hs:SF w [] [] [] F [⟨p1,fX (L.set k v),c1,77,14⟩,⟨p2,aH cs',c2,62,1⟩] w') :
  ∃x:ChX,e=.returned (.agg ⟨[.slice x.pn x.L.length x.cn,.slice x.pc x.cs.length x.cc,.int .i64 ((g:Nat):Int)]⟩)/\(yR L x.L cs x.cs x.F/\x.L.length<=x.cn)/\SF w [] [] [] x.F [⟨x.pn,fX x.L,x.cn,77,14⟩,⟨x.pc,aH x.cs,x.cc,62,1⟩] w' :=
 ⟨⟨L.set k v,cs',p1,c1,p2,c2,F⟩,by rw[he,hc.len,hc.clen],⟨hc,by show(L.set k v).length<=c1;rw[hc.len];exact hcap⟩,hs⟩
section
variable{L:List aI}{cs:List Int}{g:Nat}{pn pc:Option Addr}{cn cc:Nat}{w:World}
set_option maxRecDepth 100000 in
set_option maxHeartbeats 2000000 in
theorem Ya(h:eP w L cs pn pc)(hr:iG L)(hh:∀v∈L,Zt v.nd.hash)(h0:0<L.length)(hl:L.length<=137438953472)(hc0:0<cs.length)(hc:cs.length<=137438953472)(hg:g<=137438953472)(hks:∀v∈L,v.nd.key.size<=4611686018427387903)(hbs:∀v∈L,v.xs.length<=64)(cell to kind:Int) :
    Calls Tryz.prog 9 #[iF L cs ((g:Nat):Int) pn cn pc cc,.int .i64 cell,.int .i64 to,.int .i64 kind] w λ e w'=>∃x:ChX,e=.returned (.agg ⟨[.slice x.pn x.L.length x.cn,.slice x.pc x.cs.length x.cc,.int .i64 ((g:Nat):Int)]⟩)/\(yR L x.L cs x.cs x.F/\x.L.length<=x.cn)/\SF w [] [] [] x.F [⟨x.pn,fX x.L,x.cn,77,14⟩,⟨x.pc,aH x.cs,x.cc,62,1⟩] w':=by
  obtain⟨k,hk⟩:∃k,k=(kT cell (L.length:Int)).toNat:=⟨_,rfl⟩
  have hkl:k<L.length:=by rw[hk];exact qW h0 (by omega)
  have hci:Xm L k:=⟨h.fit,hr,hh,hkl⟩;have hVm:(L.getD k aI.zero)∈L:=eE hkl;have hf:=h.fit _ hVm;have hbn:=hf.brN;have hb64:=hbs _ hVm;have hkz:=hks _ hVm;have hbr:((L.getD k aI.zero).nd.brA,aH (L.getD k aI.zero).xs)∈bD L:=gK.2 ⟨_,hVm,by simp[aI.fr]⟩;have hpr:((L.getD k aI.zero).nd.prA,dK (L.getD k aI.zero).ys)∈bD L:=gK.2 ⟨_,hVm,by simp[aI.fr]⟩
  refine enter Tryz.func9 Tryz.ntmps9 rfl rfl (SF.begin (A:=((L.getD k aI.zero).nd.brA,aH (L.getD k aI.zero).xs)::(pn,fX L)::(pc,aH cs)::bD L) (λ f hf=>by
rcases List.mem_cons.1 hf with rfl|hf
· exact h.O9 _ hbr
rcases List.mem_cons.1 hf with rfl|hf
· exact h.nds
rcases List.mem_cons.1 hf with rfl|hf
· exact h.cls
· exact h.O9 f hf)) ?_
  simp only[cP]
  simp only[iF]
  all_goals (refine J0 ?_;refine bF (λ x4=>?_);refine aT (λ x8=>?_);refine aK ?_;refine iH ?_;refine aD (Rr (Hc:=λ _=>[]) (Fc:=λ _=>[]) (hc:=λ w1 hw=>Sh (hw.cl (.bO (.tail .head))) (hw.cl (.bO (.tail (.tail .head)))) (by omega) (by omega))) (λ x12 h12=>?_);refine eJ (by first|exact jI λ _=>bZ rf dI wn rf dC rf rf jX|exact(jI λ _=>bZ rf dI wn rf dC rf T7 jX)|exact(jI λ _=>eV rf dI rf rf dR rf jX)|exact(aX.bS (gO rf rf dC fT om) fM)|exact(aX.bS (hZ rf rf dC fT om) fM)|exact(aX.bS (o_storePv rf rf dC fT om) fM)|exact(aX.bS (o_storeP rf rf dR fT om) fM)) (λ _=>?_);refine aK ?_;refine J2 ?_;refine I3 ?_;refine aS (cV (v:=.int .i64 ((k:Nat):Int)) (hc:=λ w1 hw=>by rw[hk];exact wP cell L.length w1 h0 (by omega))) (λ x17=>?_);refine J1 ?_;refine Ka9 ?_;refine aE (iC (L:=L) (k:=k) rf rf eC dR (.own .head) hkl hkl) rfl ?_;refine aE (Nj (L:=L) (q:=k) rf dR (.own .head) hkl) rfl ?_;refine aT (λ x10=>?_);refine eJ (by first|exact jI λ _=>bZ rf dI wn rf dC rf rf jX|exact(jI λ _=>bZ rf dI wn rf dC rf T7 jX)|exact(jI λ _=>eV rf dI rf rf dR rf jX)|exact(aX.bS (gO rf rf dC fT om) fM)|exact(aX.bS (hZ rf rf dC fT om) fM)|exact(aX.bS (o_storePv rf rf dC fT om) fM)|exact(aX.bS (o_storeP rf rf dR fT om) fM)) (λ _=>?_);refine aK ?_;refine jL ?_;refine aS (cV (hc:=λ w1 hw=>wP kind 6 w1 (by decide) (by decide))) (λ x24=>?_);refine Kd4 ?_)
  all_goals
   refine bA (λ c39=>?_) (λ c39=>?_)
   · all_goals try (first|contradiction|(exfalso;omega))
     all_goals (refine dZ [(0,[]),(1,[]),(2,[]),(3,[1]),(4,[]),(5,[]),(6,[]),(7,[]),(8,[])] ?_;refine Kd1 ?_;refine cA (i:=3) (hq:=(cV (hc:=λ w1 hw=>wP to 64 w1 (by decide) (by decide)))) (h:=λ x44=>?_))
     all_goals
      have hm64:=qW (v:=to) (n:=64) (by decide) (by decide)
     all_goals (refine lY ?_;refine aBB ?_;refine aA3 ?_;refine aN ?_;refine kW (i:=8) (hq:=(by first|exact jI λ _=>bZ rf dI wn rf dC rf rf jX|exact(jI λ _=>bZ rf dI wn rf dC rf T7 jX)|exact(jI λ _=>eV rf dI rf rf dR rf jX)|exact(aX.bS (gO rf rf dC fT om) fM)|exact(aX.bS (hZ rf rf dC fT om) fM)|exact(aX.bS (o_storePv rf rf dC fT om) fM)|exact(aX.bS (o_storeP rf rf dR fT om) fM))) (h:=λ _=>?_);refine dJ ?_;refine eX ?_;refine Ka9 ?_;refine bI ?_;refine eA ?_;refine eJ (by first|exact aX.bS (cH (L:=L) (q:=k) (Ay (L.getD k aI.zero) (Bh .u64 (L.getD k aI.zero).nd.hash (Cj .u64 1 (((kT to (64:Nat)).toNat:Nat):Int)))) rf rf dR fT hkl) fM|exact aX.bS (cH (L:=L) (q:=k) (Mv (L.getD k aI.zero) (1+(((kT to ((g+1:Nat):Int)).toNat:Nat):Int))) rf rf dR fT hkl) fM|exact aX.bS (cH (L:=L) (q:=k) (Li (L.getD k aI.zero) ((L.getD k aI.zero).nd.key++⟨#[121]⟩)) rf rf dR fT hkl) fM|exact aX.bS (cH (L:=L) (q:=k) (L.getD k aI.zero) rf rf dR fT hkl) fM) (λ _=>?_);refine aK ?_;refine iH ?_;refine eJ (by first|exact jI λ _=>bZ rf dI wn rf dC rf rf jX|exact(jI λ _=>bZ rf dI wn rf dC rf T7 jX)|exact(jI λ _=>eV rf dI rf rf dR rf jX)|exact(aX.bS (gO rf rf dC fT om) fM)|exact(aX.bS (hZ rf rf dC fT om) fM)|exact(aX.bS (o_storePv rf rf dC fT om) fM)|exact(aX.bS (o_storeP rf rf dR fT om) fM)) (λ _=>?_);refine aK ?_)
     all_goals
      refine bK Tryz.results9 (λ w hw=>?_);first
      | exact cY rfl (fU hci rfl) h12.1 (hw.aQ (hO:=by exact List.Sublist.refl _) (hF:=by exact aP.all))
      | exact cY rfl (oF hci (qU _ _)) h12.1 (hw.aQ (hO:=by exact List.Sublist.refl _) (hF:=by exact aP.all))
      | exact cY rfl (qV hci) h12.1 (hw.aQ (hO:=by exact List.Sublist.refl _) (hF:=by exact aP.all))
      | exact cY rfl (rD hci) h12.1 (hw.aQ (hO:=by exact List.Sublist.refl _) (hF:=by exact aP.all))
      | exact cY rfl (fU hci List.length_set) h12.1 (hw.aQ (hO:=by exact List.Sublist.refl _) (hF:=by exact aP.all))
      | exact cY rfl (oM hci) h12.1 ((hw.freeze .head).aQ (hO:=by exact List.Sublist.refl _) (hF:=by exact aP.all))
   · all_goals try (first|contradiction|(exfalso;omega))
     all_goals refine jM ?_
     all_goals
      refine bA (λ c49=>?_) (λ c49=>?_)
      · all_goals try (first|contradiction|(exfalso;omega))
        all_goals (refine gH ?_;refine rW ?_)
        all_goals
         refine bA (λ c53=>?_) (λ c53=>?_)
         · all_goals try (first|contradiction|(exfalso;omega))
           all_goals (refine zT ?_;refine J3 ?_;refine aE (lT (m:=g) (n:=1) rf rf (by omega)) rfl ?_;refine aS (cV (hc:=λ w1 hw=>wP to (g+1) w1 (by omega) (by omega))) (λ x58=>?_);refine aE (Fz rf rf (by have:=qW (v:=to) (n:=g+1) (by omega) (by omega);omega)) rfl ?_;refine aC ?_;refine eJ (by first|exact jI λ _=>bZ rf dI wn rf dC rf rf jX|exact(jI λ _=>bZ rf dI wn rf dC rf T7 jX)|exact(jI λ _=>eV rf dI rf rf dR rf jX)|exact(aX.bS (gO rf rf dC fT om) fM)|exact(aX.bS (hZ rf rf dC fT om) fM)|exact(aX.bS (o_storePv rf rf dC fT om) fM)|exact(aX.bS (o_storeP rf rf dR fT om) fM)) (λ _=>?_);refine aK ?_;refine eX ?_;refine Ka9 ?_;refine bI ?_;refine eA ?_;refine eJ (by first|exact aX.bS (cH (L:=L) (q:=k) (Ay (L.getD k aI.zero) (Bh .u64 (L.getD k aI.zero).nd.hash (Cj .u64 1 (((kT to (64:Nat)).toNat:Nat):Int)))) rf rf dR fT hkl) fM|exact aX.bS (cH (L:=L) (q:=k) (Mv (L.getD k aI.zero) (1+(((kT to ((g+1:Nat):Int)).toNat:Nat):Int))) rf rf dR fT hkl) fM|exact aX.bS (cH (L:=L) (q:=k) (Li (L.getD k aI.zero) ((L.getD k aI.zero).nd.key++⟨#[121]⟩)) rf rf dR fT hkl) fM|exact aX.bS (cH (L:=L) (q:=k) (L.getD k aI.zero) rf rf dR fT hkl) fM) (λ _=>?_);refine aK ?_;refine iH ?_;refine eJ (by first|exact jI λ _=>bZ rf dI wn rf dC rf rf jX|exact(jI λ _=>bZ rf dI wn rf dC rf T7 jX)|exact(jI λ _=>eV rf dI rf rf dR rf jX)|exact(aX.bS (gO rf rf dC fT om) fM)|exact(aX.bS (hZ rf rf dC fT om) fM)|exact(aX.bS (o_storePv rf rf dC fT om) fM)|exact(aX.bS (o_storeP rf rf dR fT om) fM)) (λ _=>?_);refine aK ?_)
           all_goals
            refine bK Tryz.results9 (λ w hw=>?_);first
            | exact cY rfl (fU hci rfl) h12.1 (hw.aQ (hO:=by exact List.Sublist.refl _) (hF:=by exact aP.all))
            | exact cY rfl (oF hci (qU _ _)) h12.1 (hw.aQ (hO:=by exact List.Sublist.refl _) (hF:=by exact aP.all))
            | exact cY rfl (qV hci) h12.1 (hw.aQ (hO:=by exact List.Sublist.refl _) (hF:=by exact aP.all))
            | exact cY rfl (rD hci) h12.1 (hw.aQ (hO:=by exact List.Sublist.refl _) (hF:=by exact aP.all))
            | exact cY rfl (fU hci List.length_set) h12.1 (hw.aQ (hO:=by exact List.Sublist.refl _) (hF:=by exact aP.all))
            | exact cY rfl (oM hci) h12.1 ((hw.freeze .head).aQ (hO:=by exact List.Sublist.refl _) (hF:=by exact aP.all))
         · all_goals try (first|contradiction|(exfalso;omega))
           all_goals (refine kN ?_;refine Ka9 ?_;refine bI ?_;refine eA ?_;refine eJ (by first|exact aX.bS (cH (L:=L) (q:=k) (Ay (L.getD k aI.zero) (Bh .u64 (L.getD k aI.zero).nd.hash (Cj .u64 1 (((kT to (64:Nat)).toNat:Nat):Int)))) rf rf dR fT hkl) fM|exact aX.bS (cH (L:=L) (q:=k) (Mv (L.getD k aI.zero) (1+(((kT to ((g+1:Nat):Int)).toNat:Nat):Int))) rf rf dR fT hkl) fM|exact aX.bS (cH (L:=L) (q:=k) (Li (L.getD k aI.zero) ((L.getD k aI.zero).nd.key++⟨#[121]⟩)) rf rf dR fT hkl) fM|exact aX.bS (cH (L:=L) (q:=k) (L.getD k aI.zero) rf rf dR fT hkl) fM) (λ _=>?_);refine aK ?_;refine iH ?_;refine eJ (by first|exact jI λ _=>bZ rf dI wn rf dC rf rf jX|exact(jI λ _=>bZ rf dI wn rf dC rf T7 jX)|exact(jI λ _=>eV rf dI rf rf dR rf jX)|exact(aX.bS (gO rf rf dC fT om) fM)|exact(aX.bS (hZ rf rf dC fT om) fM)|exact(aX.bS (o_storePv rf rf dC fT om) fM)|exact(aX.bS (o_storeP rf rf dR fT om) fM)) (λ _=>?_);refine aK ?_)
           all_goals
            refine bK Tryz.results9 (λ w hw=>?_);first
            | exact cY rfl (fU hci rfl) h12.1 (hw.aQ (hO:=by exact List.Sublist.refl _) (hF:=by exact aP.all))
            | exact cY rfl (oF hci (qU _ _)) h12.1 (hw.aQ (hO:=by exact List.Sublist.refl _) (hF:=by exact aP.all))
            | exact cY rfl (qV hci) h12.1 (hw.aQ (hO:=by exact List.Sublist.refl _) (hF:=by exact aP.all))
            | exact cY rfl (rD hci) h12.1 (hw.aQ (hO:=by exact List.Sublist.refl _) (hF:=by exact aP.all))
            | exact cY rfl (fU hci List.length_set) h12.1 (hw.aQ (hO:=by exact List.Sublist.refl _) (hF:=by exact aP.all))
            | exact cY rfl (oM hci) h12.1 ((hw.freeze .head).aQ (hO:=by exact List.Sublist.refl _) (hF:=by exact aP.all))
      · all_goals try (first|contradiction|(exfalso;omega))
        all_goals refine jM ?_
        all_goals
         refine bA (λ c61=>?_) (λ c61=>?_)
         · all_goals try (first|contradiction|(exfalso;omega))
           all_goals (refine gH ?_;refine dE ?_;refine vH ?_;refine aK ?_)
           all_goals
            refine bA (λ c66=>?_) (λ c66=>?_)
            · all_goals try (first|contradiction|(exfalso;omega))
              all_goals (refine J0 ?_;refine iN (λ x67=>?_);refine J3 ?_;(refine fB (λ x70=>?_);try (refine fL (λ h70=>?_)));refine aC ?_;refine eJ (by first|exact jI λ _=>bZ rf dI wn rf dC rf rf jX|exact(jI λ _=>bZ rf dI wn rf dC rf T7 jX)|exact(jI λ _=>eV rf dI rf rf dR rf jX)|exact(aX.bS (gO rf rf dC fT om) fM)|exact(aX.bS (hZ rf rf dC fT om) fM)|exact(aX.bS (o_storePv rf rf dC fT om) fM)|exact(aX.bS (o_storeP rf rf dR fT om) fM)) (λ _=>?_);refine aK ?_;refine dZ [(0,[]),(1,[]),(2,[]),(3,[]),(4,[]),(5,[]),(7,[]),(8,[]),(9,[]),(10,[]),(11,[]),(6,[1,10]),(12,[1]),(13,[]),(14,[]),(15,[])] ?_;refine Kd1 ?_;refine iT ?_;refine iW ?_;refine aL ?_;refine cS (i:=8) (hq:=(aBv rf rf (by decide))) (h:=?_);refine iT ?_;refine iW ?_;refine cA (i:=6) (hq:=(cV (hc:=λ w1 hw=>wP to (0+(L.getD k aI.zero).nd.brN) w1 (by omega) (by omega)))) (h:=λ x78=>?_))
              all_goals
               have hix:=qW (v:=to) (n:=0+(L.getD k aI.zero).nd.brN) (by omega) (by omega)
              all_goals (refine cA (i:=12) (hq:=(cV (hc:=λ w1 hw=>wP _ L.length w1 h0 (by omega)))) (h:=λ x84=>?_);refine cS (i:=13) (hq:=(Fz rf rf (by have:=qW (v:=IntKind.i64.wrap (to.tdiv 64)) (n:=L.length) (by omega) (by omega);omega))) (h:=?_);refine bJ (i:=14) (hq:=(bE (lst:=[]++(L.getD k aI.zero).xs) (k:=(kT to ((0+(L.getD k aI.zero).nd.brN:Nat):Int)).toNat) rf rf eC wn (.own .head) (by omega) (by rw[List.nil_append];omega))) (h:=?_);refine kW (i:=15) (hq:=(aX.bS (gO (l:=[]++(L.getD k aI.zero).xs) (q:=(kT to ((0+(L.getD k aI.zero).nd.brN:Nat):Int)).toNat) (v:=1+(((kT (IntKind.i64.wrap (to.tdiv 64)) ((L.length:Nat):Int)).toNat:Nat):Int)) rf rf dC fT (by rw[List.nil_append];omega)) fM)) (h:=λ _=>?_);refine dJ ?_;refine eX ?_;refine Ka9 ?_;refine bI ?_;refine eA ?_;refine eJ (by first|exact aX.bS (cH (L:=L) (q:=k) (Ay (L.getD k aI.zero) (Bh .u64 (L.getD k aI.zero).nd.hash (Cj .u64 1 (((kT to (64:Nat)).toNat:Nat):Int)))) rf rf dR fT hkl) fM|exact aX.bS (cH (L:=L) (q:=k) (Mv (L.getD k aI.zero) (1+(((kT to ((g+1:Nat):Int)).toNat:Nat):Int))) rf rf dR fT hkl) fM|exact aX.bS (cH (L:=L) (q:=k) (z7 (L.getD k aI.zero) x70.1 x70.2 (([]++(L.getD k aI.zero).xs).set (kT to ((0+(L.getD k aI.zero).nd.brN:Nat):Int)).toNat (1+(((kT (IntKind.i64.wrap (to.tdiv 64)) ((L.length:Nat):Int)).toNat:Nat):Int)))) rf rf dR fT hkl) fM|exact aX.bS (cH (L:=L) (q:=k) (Li (L.getD k aI.zero) ((L.getD k aI.zero).nd.key++⟨#[121]⟩)) rf rf dR fT hkl) fM|exact aX.bS (cH (L:=L) (q:=k) (L.getD k aI.zero) rf rf dR fT hkl) fM) (λ _=>?_);refine aK ?_;refine iH ?_;refine eJ (by first|exact jI λ _=>bZ rf dI wn rf dC rf rf jX|exact(jI λ _=>bZ rf dI wn rf dC rf T7 jX)|exact(jI λ _=>eV rf dI rf rf dR rf jX)|exact(aX.bS (gO rf rf dC fT om) fM)|exact(aX.bS (hZ rf rf dC fT om) fM)|exact(aX.bS (o_storePv rf rf dC fT om) fM)|exact(aX.bS (o_storeP rf rf dR fT om) fM)) (λ _=>?_);refine aK ?_)
              all_goals
               refine bK Tryz.results9 (λ w hw=>?_);first
               | exact cY rfl (fU hci rfl) h12.1 (hw.aQ (hO:=by exact List.Sublist.refl _) (hF:=by exact aP.all))
               | exact cY rfl (oF hci (qU _ _)) h12.1 (hw.aQ (hO:=by exact List.Sublist.refl _) (hF:=by exact aP.all))
               | exact cY rfl (qV hci) h12.1 (hw.aQ (hO:=by exact List.Sublist.refl _) (hF:=by exact aP.all))
               | exact cY rfl (rD hci) h12.1 (hw.aQ (hO:=by exact List.Sublist.refl _) (hF:=by exact aP.all))
               | exact cY rfl (fU hci List.length_set) h12.1 (hw.aQ (hO:=by exact List.Sublist.refl _) (hF:=by exact aP.all))
               | exact cY rfl (oM hci) h12.1 ((hw.freeze .head).aQ (hO:=by exact List.Sublist.refl _) (hF:=by exact aP.all))
            · all_goals try (first|contradiction|(exfalso;omega))
              all_goals (refine kN ?_;refine Ka9 ?_;refine bI ?_;refine eA ?_;refine eJ (by first|exact aX.bS (cH (L:=L) (q:=k) (Ay (L.getD k aI.zero) (Bh .u64 (L.getD k aI.zero).nd.hash (Cj .u64 1 (((kT to (64:Nat)).toNat:Nat):Int)))) rf rf dR fT hkl) fM|exact aX.bS (cH (L:=L) (q:=k) (Mv (L.getD k aI.zero) (1+(((kT to ((g+1:Nat):Int)).toNat:Nat):Int))) rf rf dR fT hkl) fM|exact aX.bS (cH (L:=L) (q:=k) (Li (L.getD k aI.zero) ((L.getD k aI.zero).nd.key++⟨#[121]⟩)) rf rf dR fT hkl) fM|exact aX.bS (cH (L:=L) (q:=k) (L.getD k aI.zero) rf rf dR fT hkl) fM) (λ _=>?_);refine aK ?_;refine iH ?_;refine eJ (by first|exact jI λ _=>bZ rf dI wn rf dC rf rf jX|exact(jI λ _=>bZ rf dI wn rf dC rf T7 jX)|exact(jI λ _=>eV rf dI rf rf dR rf jX)|exact(aX.bS (gO rf rf dC fT om) fM)|exact(aX.bS (hZ rf rf dC fT om) fM)|exact(aX.bS (o_storePv rf rf dC fT om) fM)|exact(aX.bS (o_storeP rf rf dR fT om) fM)) (λ _=>?_);refine aK ?_)
              all_goals
               refine bK Tryz.results9 (λ w hw=>?_);first
               | exact cY rfl (fU hci rfl) h12.1 (hw.aQ (hO:=by exact List.Sublist.refl _) (hF:=by exact aP.all))
               | exact cY rfl (oF hci (qU _ _)) h12.1 (hw.aQ (hO:=by exact List.Sublist.refl _) (hF:=by exact aP.all))
               | exact cY rfl (qV hci) h12.1 (hw.aQ (hO:=by exact List.Sublist.refl _) (hF:=by exact aP.all))
               | exact cY rfl (rD hci) h12.1 (hw.aQ (hO:=by exact List.Sublist.refl _) (hF:=by exact aP.all))
               | exact cY rfl (fU hci List.length_set) h12.1 (hw.aQ (hO:=by exact List.Sublist.refl _) (hF:=by exact aP.all))
               | exact cY rfl (oM hci) h12.1 ((hw.freeze .head).aQ (hO:=by exact List.Sublist.refl _) (hF:=by exact aP.all))
         · all_goals try (first|contradiction|(exfalso;omega))
           all_goals refine jM ?_
           all_goals
            refine bA (λ c87=>?_) (λ c87=>?_)
            · all_goals try (first|contradiction|(exfalso;omega))
              all_goals (refine gH ?_;refine lC ?_;refine aB ?_)
              all_goals ((refine eM 92 (λ g92=>?_) (λ g92=>?_)<;>(try (first|contradiction|(exfalso;omega)))<;>refine Ka1 ?_))
              all_goals (refine pu ?_;refine aK ?_)
              all_goals
               refine bA (λ c96=>?_) (λ c96=>?_)
               · all_goals try (first|contradiction|(exfalso;omega))
                 all_goals (refine dM ?_;refine J3 ?_;refine aE (dk rf rf (by have:(⟨#[121]⟩:ByteArray).size=1:=rfl;omega)) rfl ?_;refine aC ?_;refine eJ (by first|exact jI λ _=>bZ rf dI wn rf dC rf rf jX|exact(jI λ _=>bZ rf dI wn rf dC rf T7 jX)|exact(jI λ _=>eV rf dI rf rf dR rf jX)|exact(aX.bS (gO rf rf dC fT om) fM)|exact(aX.bS (hZ rf rf dC fT om) fM)|exact(aX.bS (o_storePv rf rf dC fT om) fM)|exact(aX.bS (o_storeP rf rf dR fT om) fM)) (λ _=>?_);refine aK ?_;refine eX ?_;refine Ka9 ?_;refine bI ?_;refine eA ?_;refine eJ (by first|exact aX.bS (cH (L:=L) (q:=k) (Ay (L.getD k aI.zero) (Bh .u64 (L.getD k aI.zero).nd.hash (Cj .u64 1 (((kT to (64:Nat)).toNat:Nat):Int)))) rf rf dR fT hkl) fM|exact aX.bS (cH (L:=L) (q:=k) (Mv (L.getD k aI.zero) (1+(((kT to ((g+1:Nat):Int)).toNat:Nat):Int))) rf rf dR fT hkl) fM|exact aX.bS (cH (L:=L) (q:=k) (Li (L.getD k aI.zero) ((L.getD k aI.zero).nd.key++⟨#[121]⟩)) rf rf dR fT hkl) fM|exact aX.bS (cH (L:=L) (q:=k) (L.getD k aI.zero) rf rf dR fT hkl) fM) (λ _=>?_);refine aK ?_;refine iH ?_;refine eJ (by first|exact jI λ _=>bZ rf dI wn rf dC rf rf jX|exact(jI λ _=>bZ rf dI wn rf dC rf T7 jX)|exact(jI λ _=>eV rf dI rf rf dR rf jX)|exact(aX.bS (gO rf rf dC fT om) fM)|exact(aX.bS (hZ rf rf dC fT om) fM)|exact(aX.bS (o_storePv rf rf dC fT om) fM)|exact(aX.bS (o_storeP rf rf dR fT om) fM)) (λ _=>?_);refine aK ?_)
                 all_goals
                  refine bK Tryz.results9 (λ w hw=>?_);first
                  | exact cY rfl (fU hci rfl) h12.1 (hw.aQ (hO:=by exact List.Sublist.refl _) (hF:=by exact aP.all))
                  | exact cY rfl (oF hci (qU _ _)) h12.1 (hw.aQ (hO:=by exact List.Sublist.refl _) (hF:=by exact aP.all))
                  | exact cY rfl (qV hci) h12.1 (hw.aQ (hO:=by exact List.Sublist.refl _) (hF:=by exact aP.all))
                  | exact cY rfl (rD hci) h12.1 (hw.aQ (hO:=by exact List.Sublist.refl _) (hF:=by exact aP.all))
                  | exact cY rfl (fU hci List.length_set) h12.1 (hw.aQ (hO:=by exact List.Sublist.refl _) (hF:=by exact aP.all))
                  | exact cY rfl (oM hci) h12.1 ((hw.freeze .head).aQ (hO:=by exact List.Sublist.refl _) (hF:=by exact aP.all))
               · try exact nv c96
                 all_goals try (first|contradiction|(exfalso;omega))
                 all_goals (refine kN ?_;refine Ka9 ?_;refine bI ?_;refine eA ?_;refine eJ (by first|exact aX.bS (cH (L:=L) (q:=k) (Ay (L.getD k aI.zero) (Bh .u64 (L.getD k aI.zero).nd.hash (Cj .u64 1 (((kT to (64:Nat)).toNat:Nat):Int)))) rf rf dR fT hkl) fM|exact aX.bS (cH (L:=L) (q:=k) (Mv (L.getD k aI.zero) (1+(((kT to ((g+1:Nat):Int)).toNat:Nat):Int))) rf rf dR fT hkl) fM|exact aX.bS (cH (L:=L) (q:=k) (Li (L.getD k aI.zero) ((L.getD k aI.zero).nd.key++⟨#[121]⟩)) rf rf dR fT hkl) fM|exact aX.bS (cH (L:=L) (q:=k) (L.getD k aI.zero) rf rf dR fT hkl) fM) (λ _=>?_);refine aK ?_;refine iH ?_;refine eJ (by first|exact jI λ _=>bZ rf dI wn rf dC rf rf jX|exact(jI λ _=>bZ rf dI wn rf dC rf T7 jX)|exact(jI λ _=>eV rf dI rf rf dR rf jX)|exact(aX.bS (gO rf rf dC fT om) fM)|exact(aX.bS (hZ rf rf dC fT om) fM)|exact(aX.bS (o_storePv rf rf dC fT om) fM)|exact(aX.bS (o_storeP rf rf dR fT om) fM)) (λ _=>?_);refine aK ?_)
                 all_goals
                  refine bK Tryz.results9 (λ w hw=>?_);first
                  | exact cY rfl (fU hci rfl) h12.1 (hw.aQ (hO:=by exact List.Sublist.refl _) (hF:=by exact aP.all))
                  | exact cY rfl (oF hci (qU _ _)) h12.1 (hw.aQ (hO:=by exact List.Sublist.refl _) (hF:=by exact aP.all))
                  | exact cY rfl (qV hci) h12.1 (hw.aQ (hO:=by exact List.Sublist.refl _) (hF:=by exact aP.all))
                  | exact cY rfl (rD hci) h12.1 (hw.aQ (hO:=by exact List.Sublist.refl _) (hF:=by exact aP.all))
                  | exact cY rfl (fU hci List.length_set) h12.1 (hw.aQ (hO:=by exact List.Sublist.refl _) (hF:=by exact aP.all))
                  | exact cY rfl (oM hci) h12.1 ((hw.freeze .head).aQ (hO:=by exact List.Sublist.refl _) (hF:=by exact aP.all))
            · all_goals try (first|contradiction|(exfalso;omega))
              all_goals (refine dZ [(0,[]),(1,[]),(2,[]),(3,[]),(4,[]),(5,[]),(7,[]),(8,[]),(9,[]),(10,[]),(11,[]),(6,[1,9]),(12,[1]),(13,[]),(14,[])] ?_;refine Kd1 ?_;refine iT ?_;refine iW ?_;refine aL ?_;refine iT ?_;refine iW ?_;refine cS (i:=11) (hq:=(lT (m:=L.length) (n:=1) rf rf (by omega))) (h:=?_);refine cA (i:=6) (hq:=(cV (hc:=λ w1 hw=>wP cell cs.length w1 hc0 (by omega)))) (h:=λ x31=>?_);refine cA (i:=12) (hq:=(cV (hc:=λ w1 hw=>wP to (L.length+1) w1 (by omega) (by omega)))) (h:=λ x37=>?_);refine bJ (i:=13) (hq:=(bE (k:=(kT cell ((cs.length:Nat):Int)).toNat) (lst:=cs) rf rf eC wn (.own (.tail .head)) (qW hc0 (by omega)) (qW hc0 (by omega)))) (h:=?_);refine kW (i:=14) (hq:=(aX.bS (gO (l:=cs) (q:=(kT cell ((cs.length:Nat):Int)).toNat) (v:=(((kT to ((L.length+1:Nat):Int)).toNat:Nat):Int)) rf rf dC fT (qW hc0 (by omega))) fM)) (h:=λ _=>?_);refine dJ ?_;refine eX ?_;refine Ka9 ?_;refine bI ?_;refine eA ?_;refine eJ (by first|exact aX.bS (cH (L:=L) (q:=k) (Ay (L.getD k aI.zero) (Bh .u64 (L.getD k aI.zero).nd.hash (Cj .u64 1 (((kT to (64:Nat)).toNat:Nat):Int)))) rf rf dR fT hkl) fM|exact aX.bS (cH (L:=L) (q:=k) (Mv (L.getD k aI.zero) (1+(((kT to ((g+1:Nat):Int)).toNat:Nat):Int))) rf rf dR fT hkl) fM|exact aX.bS (cH (L:=L) (q:=k) (Li (L.getD k aI.zero) ((L.getD k aI.zero).nd.key++⟨#[121]⟩)) rf rf dR fT hkl) fM|exact aX.bS (cH (L:=L) (q:=k) (L.getD k aI.zero) rf rf dR fT hkl) fM) (λ _=>?_);refine aK ?_;refine iH ?_;refine eJ (by first|exact jI λ _=>bZ rf dI wn rf dC rf rf jX|exact(jI λ _=>bZ rf dI wn rf dC rf T7 jX)|exact(jI λ _=>eV rf dI rf rf dR rf jX)|exact(aX.bS (gO rf rf dC fT om) fM)|exact(aX.bS (hZ rf rf dC fT om) fM)|exact(aX.bS (o_storePv rf rf dC fT om) fM)|exact(aX.bS (o_storeP rf rf dR fT om) fM)) (λ _=>?_);refine aK ?_)
              all_goals
               refine bK Tryz.results9 (λ w hw=>?_);first
               | exact cY rfl (fU hci rfl) h12.1 (hw.aQ (hO:=by exact List.Sublist.refl _) (hF:=by exact aP.all))
               | exact cY rfl (oF hci (qU _ _)) h12.1 (hw.aQ (hO:=by exact List.Sublist.refl _) (hF:=by exact aP.all))
               | exact cY rfl (qV hci) h12.1 (hw.aQ (hO:=by exact List.Sublist.refl _) (hF:=by exact aP.all))
               | exact cY rfl (rD hci) h12.1 (hw.aQ (hO:=by exact List.Sublist.refl _) (hF:=by exact aP.all))
               | exact cY rfl (fU hci List.length_set) h12.1 (hw.aQ (hO:=by exact List.Sublist.refl _) (hF:=by exact aP.all))
               | exact cY rfl (oM hci) h12.1 ((hw.freeze .head).aQ (hO:=by exact List.Sublist.refl _) (hF:=by exact aP.all))
end
end Go.Proofs.YtadnboagdhcedaaGreatDoor

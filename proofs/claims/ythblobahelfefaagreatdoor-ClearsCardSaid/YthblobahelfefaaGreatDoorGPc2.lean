/- Merged. -/
import Derived.Test.YthblobahelfefaaGreatDoorGBr3
import Derived.Test.YthblobahelfefaaGreatDoorGBit2
import Derived.Test.YthblobahelfefaaGreatDoorGDu2
import Derived.Test.YthblobahelfefaaGreatDoorGPtd
set_option linter.unusedSimpArgs false
set_option linter.unusedVariables false
namespace Go.Ct
section
section
variable{gen:Int}{n c:Nat}
end
end
end Go.Ct
namespace Go.Proofs.YthblobahelfefaaGreatDoor
open Go Go.RowKit Go.Ct
section
structure VC(v:Nv)(b:Nat):Prop where
 cv:CV v.nd v.xs v.ys
 bm:v.bm=(b:Int)
 lt:b<18446744073709551616
theorem aE6{n:Nd}{xs:List Int}{ys:List Pr}{b k:Nat}(hcv:CV n xs ys)(hk:k<64):Y0 n xs ys b (k:Int)=Ti b xs k:=by
 unfold Y0 Ti;rw[vO b hk];cases e:b.testBit k;·rw[if_neg (by simp)];simp
 ·rw[if_pos ⟨hcv,rfl⟩,qJ b hk];simp
section
variable{v:Nv}{b i:Nat}{r:Int}
theorem VC.bv(h:VC v b):BV b v.xs:=h.cv.bv (n:=v.nd) h.bm h.lt
theorem VC.kd(h:VC v b):v.kind=3:=h.cv.1
theorem VC.nat(h:VC v b):v.bm.toNat=b:=by rw[h.bm];rfl
theorem VC.lk(h:VC v b){k:Nat}(hk:k<64):lY v (k:Int)=Ti b v.xs k:=by show Y0 v.nd v.xs v.ys v.bm.toNat (k:Int)=_;rw[h.nat];exact aE6 h.cv hk
theorem VC.bit(h:VC v b)(hk:i<64):b.testBit i=(lY v (i:Int)).isSome:=by rw[h.lk hk];unfold Ti;cases e:b.testBit i<;>simp
theorem G3{xs:List Int}(h:BV b xs)(c:Nat):VC (mM (Pd b xs) c) b:=⟨aE8.1 (aBF h (none,0) (p:=((c+1:Nat):Int)) (by omega)),rfl,h.lt⟩
theorem aE5(h:VC v b)(hi:i<64)(hr:1<=r)(hn:lY v (i:Int)=none):(K4 v.nd v.xs v.ys v.bm.toNat (i:Int) r).isSome=true/\(Tm v (i:Int) r).kind=3/\∀c,∃b',VC (mM (Tm v (i:Int) r) c) b'/\∀k:Nat,k<64->lY (mM (Tm v (i:Int) r) c) (k:Int)=if k=i then some r else lY v (k:Int):=by
 have hb:b.testBit i=false:=by rw[h.bit hi,hn];rfl
 have e:K4 v.nd v.xs v.ys v.bm.toNat (i:Int) r=some (dF b (i:Int),sO v.xs (iK b (i:Int)) r):=by rw[h.nat];exact if_pos ⟨h.cv,⟨by omega,by omega⟩,hr,by rw[vO b hi];exact hb⟩
 have e2:Tm v (i:Int) r=Pd (dF b (i:Int)) (sO v.xs (iK b (i:Int)) r):=by unfold Tm;rw[e];rfl
 obtain⟨h1,h2⟩:=Nm h.bv hi hb hr;rw[e,e2,wQ b hi,qJ b hi];refine⟨rfl,rfl,λ c=>⟨_,G3 h1 c,λ k hk=>?_⟩⟩;rw[(G3 h1 c).lk hk,h.lk hk];exact h2 k hk
theorem aEV(h:VC v b)(hi:i<64)(hr:1<=r)(hn:(lY v (i:Int)).isSome=true):(Jn v.nd v.xs v.ys v.bm.toNat (i:Int) r).isSome=true/\(Kn v (i:Int) r).kind=3/\∀c,∃b',VC (mM (Kn v (i:Int) r) c) b'/\∀k:Nat,k<64->lY (mM (Kn v (i:Int) r) c) (k:Int)=if k=i then some r else lY v (k:Int):=by
 have hb:b.testBit i=true:=by rw[h.bit hi,hn]
 have e:Jn v.nd v.xs v.ys v.bm.toNat (i:Int) r=some (b,B8 v.xs (iK b (i:Int)) r):=by rw[h.nat];exact if_pos ⟨h.cv,hr,by rw[vO b hi];exact hb⟩
 have e2:Kn v (i:Int) r=Pd b (B8 v.xs (iK b (i:Int)) r):=by unfold Kn;rw[e];rfl
 obtain⟨h1,h2⟩:=ux h.bv hi hb hr;rw[e,e2,qJ b hi];refine⟨rfl,rfl,λ c=>⟨_,G3 h1 c,λ k hk=>?_⟩⟩;rw[(G3 h1 c).lk hk,h.lk hk];exact h2 k hk
end
variable{cs:List Int}{c o n x:Int}
theorem uR(h1:1<=c)(hc:c<=cs.length)(ho:aL cs c=o):aL (gG cs c o n) x=if x=c then n else aL cs x:=by
 obtain⟨a,rfl⟩:∃a:Nat,c=((a+1:Nat):Int):=⟨(c-1).toNat,by omega⟩;have ha:a<cs.length:=by omega
 rw[mC ha] at ho;have e:gG cs ((a+1:Nat):Int) o n=cs.set a n:=by unfold gG;rw[if_pos ⟨by omega,by omega,by rw[<- ho];congr 1;omega⟩];congr 1;omega
 rw[e];by_cases hx:1<=x/\x<=cs.length
 ·obtain⟨b,rfl⟩:∃b:Nat,x=((b+1:Nat):Int):=⟨(x-1).toNat,by omega⟩;have hb:b<cs.length:=by omega
  rw[mC (by rw[List.length_set];exact hb),mC hb,Ss,Ss,List.getElem?_set];by_cases hab:a=b;·subst hab;rw[if_pos rfl,if_pos rfl,if_pos ha];rfl
  ·rw[if_neg hab,if_neg (by omega)]
 ·rw[jH (by rw[List.length_set];exact hx),jH hx,if_neg (by omega)]
theorem aCN(ho:aL cs c≠o)(h1:1<=c)(hc:c<=cs.length):gG cs c o n=cs/\Ic cs c o=false:=by
 obtain⟨a,rfl⟩:∃a:Nat,c=((a+1:Nat):Int):=⟨(c-1).toNat,by omega⟩;have ha:a<cs.length:=by omega
 rw[mC ha] at ho;have e:¬(1<=((a+1:Nat):Int)/\((a+1:Nat):Int)<=cs.length/\cs.getD (((a+1:Nat):Int)-1).toNat 0=o):=λ q=>ho (by rw[<- q.2.2];congr 1;omega);exact⟨if_neg e,decide_eq_false e⟩
theorem Zp(ho:aL cs c=o)(h1:1<=c)(hc:c<=cs.length):Ic cs c o=true:=by
 obtain⟨a,rfl⟩:∃a:Nat,c=((a+1:Nat):Int):=⟨(c-1).toNat,by omega⟩;have ha:a<cs.length:=by omega
 rw[mC ha] at ho;exact decide_eq_true ⟨by omega,by omega,by rw[<- ho];congr 1;omega⟩
theorem n7(hc:c<=cs.length):aL (cs++[x]) c=aL cs c:=by
 by_cases h1:1<=c
 ·obtain⟨a,rfl⟩:∃a:Nat,c=((a+1:Nat):Int):=⟨(c-1).toNat,by omega⟩;have ha:a<cs.length:=by omega
  rw[mC ha,mC (by rw[List.length_append];omega),Ss,Ss,List.getElem?_append_left ha]
 ·rw[jH (by omega),jH (by omega)]
theorem I1(cs:List Int)(x:Int):aL (cs++[x]) ((cs.length+1:Nat):Int)=x:=by rw[mC (by simp),Ss,List.getElem?_append_right (Nat.le_refl _)];simp
theorem ka(L:List Nv)(v:Nv):aB (L++[v]) ((L.length+1:Nat):Int)=v:=by unfold aB;rw[if_pos ⟨by omega,by rw[List.length_append];simp⟩,Ss,List.getElem?_append_right (by omega)];simp
theorem C3{k:Int}{i:Int}(hc:c<=cs.length):aL (gJ k cs i) c=aL cs c:=by
 unfold gJ;split;·exact n7 hc
 ·rfl
end
section
section
variable{B d:Nat}{Q:Rs->Mm->Prop}{s:Mm}
end
def Agr(n h k:Nat):Prop:=∀j,j<n->sl h j=sl k j
section
variable(H:ByteArray->Nat)(s:Mm)
end
section
variable{H:ByteArray->Nat}{s s2:Mm}{l h k n:Nat}{b m i q x:Int}{v:Nv}
theorem aBb{L:List Nv}{r:Int}{k:Int}(h:(aB L r).kind=k)(h0:k≠0):1<=r/\r<=L.length:=by refine Classical.byContradiction λ hn=>h0 ?_;unfold aB at h;rw[if_neg hn] at h;exact h.symm
end
end
section
section
variable{H:ByteArray->Nat}{s s2:Mm}{l h k n B d:Nat}{b m i q x:Int}{v:Nv}{Q:Rs->Mm->Prop}
end
end
section
theorem aBk{k:Nat}(hk:k<64){r:Int}(hr:1<=r):BV (dF 0 (k:Int)) [r]/\∀j:Nat,j<64->Ti (dF 0 (k:Int)) [r] j=if j=k then some r else none:=by
 refine⟨jl hk hr,?_⟩;have h:=Nm L8 hk (by simp) hr;have e:=aD6 hk r;rw[qJ 0 hk] at e;rw[wQ 0 hk];rw[e] at h;intro j hj
 refine(h.2 j hj).trans ?_;unfold iB;by_cases h2:j=k;·rw[if_pos h2,if_pos h2]
 ·rw[if_neg h2,if_neg h2];simp[Ti]
theorem aEF{k l:Nat}(hk:k<64)(hl:l<64)(hne:k≠l){x s:Int}(hx:1<=x)(hs:1<=s):BV (dF (dF 0 (k:Int)) (l:Int)) (two k l x s)/\∀j:Nat,j<64->Ti (dF (dF 0 (k:Int)) (l:Int)) (two k l x s) j=if j=l then some s else if j=k then some x else none:=by
 have h1:=aBk hk hx;have hb:=aEx hk hl hne;rw[vO _ hl] at hb;have h:=Nm h1.1 hl hb hs;have e:=aEQ hk hl x s;rw[qJ _ hl] at e;rw[e] at h;rw[wQ _ hl];refine⟨h.1,λ j hj=>(h.2 j hj).trans ?_⟩;unfold iB;by_cases h2:j=l
 ·rw[if_pos h2,if_pos h2]
 ·rw[if_neg h2,if_neg h2];exact h1.2 j hj
theorem aAG{p q:Pr}(hne:p.1≠q.1):2<=(yN [p,q]).length/\SA (yN [p,q])/\(∀r∈yN [p,q],r=p∨r=q)/\tR (yN [p,q]) q.1=some q.2:=by
 have h0:yN [p,q]=pE [p] q.1 q.2:=uV [p] q;have hs:SA [p]:=by simp[SA]
 refine⟨?_,Mo _,λ r hr=>?_,by rw[h0,Bi q.1 hs,if_pos rfl]⟩
 ·rw[h0,E8 hs];have:tR [p] q.1=none:=nJ λ r hr=>by rw[List.mem_singleton.1 hr];exact hne
  rw[this];simp
 ·rw[h0] at hr;rcases R1 hr with h|h;·exact .inr h
  ·exact .inl (List.mem_singleton.1 h)
theorem Lh:∀(l r:List NI) (s:Mm),s.fZ (l++r)=(s.fZ l).fZ r
 | [],_,_=>rfl
 | a::l,r,s=>Lh l r (s.push a.c0 a.init)
theorem aAN(c:jG)(s:Mm)(x gen:Int)(level:Nat):(dL c s x gen level).length<=24:=by refine K1d ?_;intro h1 h2;show(dN x (aB s.nodes x).hash.toNat c.h ((aB s.nodes x).key,(aB s.nodes x).val) c.key c.val gen (s.nodes.length+1) (mU (aB s.nodes x).hash.toNat c.h-level) level).length<=24;omega
theorem aDk{a b n:Nat}(hn:n<=11)(h:Agr n a b):n<=mU a b:=by refine Classical.byContradiction λ h2=>?_;exact N8 (h:=a) (k:=b) (by omega) (h _ (by omega))
section
variable{H:ByteArray->Nat}{s:Mm}{x:Int}{key:ByteArray}{u:Int}{p:Pr}
theorem s5{s:Mm}{v:Nv}{i:Int}(h:v.kind=3∨v.kind=6):aL (s.push v i).cs (aB (s.push v i).nodes ((s.nodes.length+1:Nat):Int)).prev=i:=by rw[show aB (s.push v i).nodes ((s.nodes.length+1:Nat):Int)=mM v s.cs.length from ka _ _];show aL (gJ v.kind s.cs i) (if v.kind=3∨v.kind=5∨v.kind=6 then _ else _)=_;rw[if_pos (by omega)];unfold gJ;rw[if_pos (by omega)];exact I1 _ _
end
end
section
structure KP where
 ky:Nat->ByteArray
 hs:Nat->Nat
 vl:Nat->Int
def cont:List Nat->Nat->Bool
 | [],_=>false
 | x::us,u=>if x=2 then false else x==u||cont us u
def jJ:List Nat->List Nat
 | []=>[]
 | x::us=>if x=2 then us else if 2∈us then jJ us else x::us
theorem V8:∀{us:List Nat},2∉us->jJ us=us
 | [],_=>rfl
 | x::us,h=>by simp only[List.mem_cons,not_or] at h;unfold jJ;rw[if_neg (λ e=>h.1 e.symm),if_neg h.2]
theorem gI:∀us:List Nat,jJ us <:+ us
 | []=>List.suffix_refl _
 | x::us=>by
  unfold jJ;split;·exact List.suffix_cons _ _
  split;·exact(gI us).trans (List.suffix_cons _ _)
  ·exact List.suffix_refl _
theorem wW{x:Nat}{us:List Nat}(h:2∈us)(hx:x≠2):jJ (x::us)=jJ us:=by show(if x=2 then us else if 2∈us then jJ us else x::us)=_;rw[if_neg hx,if_pos h]
theorem Sy{us:List Nat}:jJ (2::us)=us:=if_pos rfl
theorem oS:∀{us:List Nat} {u:Nat},u≠2->u∉us->cont us u=false
 | [],_,_,_=>rfl
 | x::us,u,h2,h=>by
  simp only[List.mem_cons,not_or] at h;show(if x=2 then false else x==u||cont us u)=false;split;·rfl
  ·rw[oS h2 h.2,beq_false_of_ne (λ e=>h.1 e.symm)];rfl
theorem Oy:∀{us:List Nat} {u:Nat},2∉us->u∈us->cont us u=true
 | x::us,u,h2,h=>by
  simp only[List.mem_cons,not_or] at h2 h;show(if x=2 then false else x==u||cont us u)=true;rw[if_neg (λ e=>h2.1 e.symm)];rcases h with rfl|h;·simp
  ·rw[Oy h2.2 h];simp
structure Gs where
 us:List Nat
 R:Int
 ar:Bool
 kl:Nat
abbrev fH(s:Mm)(v:Int):Int:=aL s.cs (aB s.nodes v).status
abbrev eT(s:Mm)(m:Int):Int:=aL s.cs (aB s.nodes m).prev
abbrev cN(s:Mm)(i:Int):Int:=aL s.cs (aB s.nodes i).main
abbrev iB(s:Mm)(c o n:Int):Mm:=⟨s.nodes,gG s.cs c o n,s.gen,s.pv⟩
structure Rg(s:Mm)(r:Int):Prop where
 a:1<=r
 b:r<=s.nodes.length
abbrev zV(v:Nv):Int:=v.main+v.prev+v.status
structure aEp(v:Nv)(n:Nat)(c:Int):Prop where
 a:1<=c
 b:c<=n
 t:c≠3
 m:v.main=if v.kind=2 then c else 0
 p:v.prev=if v.kind=3∨v.kind=5∨v.kind=6 then c else 0
 s:v.status=if v.kind=8 then c else 0
structure Ly(s:Mm):Prop where
 k:∀r:Int,Rg s r->∃c,aEp (aB s.nodes r) s.cs.length c
 u:∀r t:Int,Rg s r->Rg s t->r<t->zV (aB s.nodes t)≠0->zV (aB s.nodes r)<zV (aB s.nodes t)
 c:3<=s.cs.length
section
variable{s s1 s2:Mm}{r t a b m:Int}
theorem Rg.le(h:Rg s r)(e:s.nodes.length<=s1.nodes.length):Rg s1 r:=⟨h.a,by have:=h.b;omega⟩
theorem Yw{k:Int}(h:(aB s.nodes r).kind=k)(h0:k≠0):Rg s r:=⟨(aBb h h0).1,(aBb h h0).2⟩
theorem Ly.main(ly:Ly s)(h:Rg s r)(k:(aB s.nodes r).kind=2):1<=(aB s.nodes r).main/\(aB s.nodes r).main<=s.cs.length/\(aB s.nodes r).main≠3/\(aB s.nodes r).prev=0/\(aB s.nodes r).status=0:=by obtain⟨c,q⟩:=ly.k r h;have e1:=q.m;have e2:=q.p;have e3:=q.s;rw[if_pos k] at e1;rw[if_neg (by omega)] at e2 e3;have:=q.a;have:=q.b;have:=q.t;exact⟨by omega,by omega,by omega,e2,e3⟩
theorem Ly.prev(ly:Ly s)(h:Rg s r)(k:(aB s.nodes r).kind=3∨(aB s.nodes r).kind=5∨(aB s.nodes r).kind=6):1<=(aB s.nodes r).prev/\(aB s.nodes r).prev<=s.cs.length/\(aB s.nodes r).prev≠3/\(aB s.nodes r).main=0/\(aB s.nodes r).status=0:=by obtain⟨c,q⟩:=ly.k r h;have e1:=q.m;have e2:=q.p;have e3:=q.s;rw[if_pos k] at e2;rw[if_neg (by omega)] at e1 e3;have:=q.a;have:=q.b;have:=q.t;exact⟨by omega,by omega,by omega,e1,e3⟩
theorem Ly.stat(ly:Ly s)(h:Rg s r)(k:(aB s.nodes r).kind=8):1<=(aB s.nodes r).status/\(aB s.nodes r).status<=s.cs.length/\(aB s.nodes r).status≠3/\(aB s.nodes r).main=0/\(aB s.nodes r).prev=0:=by obtain⟨c,q⟩:=ly.k r h;have e1:=q.m;have e2:=q.p;have e3:=q.s;rw[if_pos k] at e3;rw[if_neg (by omega)] at e1 e2;have:=q.a;have:=q.b;have:=q.t;exact⟨by omega,by omega,by omega,e1,e2⟩
theorem Ly.fit(ly:Ly s)(h:Rg s r):(0<=(aB s.nodes r).main/\(aB s.nodes r).main<=s.cs.length/\(aB s.nodes r).main≠3)/\(0<=(aB s.nodes r).prev/\(aB s.nodes r).prev<=s.cs.length/\(aB s.nodes r).prev≠3)/\(0<=(aB s.nodes r).status/\(aB s.nodes r).status<=s.cs.length/\(aB s.nodes r).status≠3)/\((aB s.nodes r).main=0∨(aB s.nodes r).main=zV (aB s.nodes r))/\((aB s.nodes r).prev=0∨(aB s.nodes r).prev=zV (aB s.nodes r))/\((aB s.nodes r).status=0∨(aB s.nodes r).status=zV (aB s.nodes r)):=by obtain⟨c,q⟩:=ly.k r h;have e1:=q.m;have e2:=q.p;have e3:=q.s;have h1:=q.a;have h2:=q.b;have h3:=q.t;unfold zV;split at e1<;>split at e2<;>split at e3<;>omega
theorem Ly.off(ly:Ly s)(ha:Rg s a)(ht:Rg s t)(h:t≠a)(hc:1<=zV (aB s.nodes a)):(aB s.nodes t).main≠zV (aB s.nodes a)/\(aB s.nodes t).prev≠zV (aB s.nodes a)/\(aB s.nodes t).status≠zV (aB s.nodes a):=by
 obtain⟨-,-,-,f1,f2,f3⟩:=ly.fit ht;have hne:zV (aB s.nodes t)≠0->zV (aB s.nodes t)≠zV (aB s.nodes a):=λ h0=>by
  rcases Int.lt_trichotomy t a with h5|h5|h5;·have:=ly.u t a ht ha h5 (by omega);omega
  ·exact absurd h5 h
  ·have:=ly.u a t ha ht h5 h0;omega
 refine⟨?_,?_,?_⟩
 ·rcases f1 with e|e<;>rw[e];·omega
  ·by_cases h0:zV (aB s.nodes t)=0;·omega
   ·exact hne h0
 ·rcases f2 with e|e<;>rw[e];·omega
  ·by_cases h0:zV (aB s.nodes t)=0;·omega
   ·exact hne h0
 ·rcases f3 with e|e<;>rw[e];·omega
  ·by_cases h0:zV (aB s.nodes t)=0;·omega
   ·exact hne h0
theorem eV(s:Mm)(v:Nv)(x:Int):(s.push v x).nodes.length=s.nodes.length+1:=by show(_++[_]).length=_;simp
theorem gW(s:Mm)(v:Nv)(x:Int):aB (s.push v x).nodes ((s.nodes.length+1:Nat):Int)=mM v s.cs.length:=ka _ _
theorem uN{v:Nv}{x:Int}(h:r<=s.nodes.length):aB (s.push v x).nodes r=aB s.nodes r:=Px h
theorem Fi(s:Mm)(v:Nv)(x:Int):s.cs.length<=(s.push v x).cs.length/\(s.push v x).cs.length<=s.cs.length+1:=jZ
theorem Ls{v:Nv}{x:Int}(h:Rg (s.push v x) r):(Rg s r/\aB (s.push v x).nodes r=aB s.nodes r)∨(r=((s.nodes.length+1:Nat):Int)/\aB (s.push v x).nodes r=mM v s.cs.length):=by
 have h1:=h.a;have h2:=h.b;rw[eV] at h2;by_cases h3:r<=s.nodes.length
 ·exact .inl ⟨⟨h1,h3⟩,uN h3⟩
 ·have:r=((s.nodes.length+1:Nat):Int):=by omega
  subst this;exact .inr ⟨rfl,gW _ _ _⟩
theorem Ly.push(ly:Ly s)(v:Nv)(x:Int):Ly (s.push v x):=by
 have hc:=ly.c;have hcl:=Fi s v x
 have hk:(v.kind=2∨v.kind=3∨v.kind=5∨v.kind=6∨v.kind=8)->(s.push v x).cs.length=s.cs.length+1:=λ h=>by show(gJ v.kind s.cs x).length=_;unfold gJ;rw[if_pos h];simp
 refine⟨λ r h=>?_,λ r t h1 h2 h3 h4=>?_,by omega⟩
 ·rcases Ls h with⟨h1,e⟩|⟨_,e⟩;·rw[e];obtain⟨c,q⟩:=ly.k r h1;exact⟨c,q.a,by have:=q.b;omega,q.t,q.m,q.p,q.s⟩
  ·rw[e];by_cases h5:v.kind=2∨v.kind=3∨v.kind=5∨v.kind=6∨v.kind=8;·have:=hk h5;exact⟨((s.cs.length+1:Nat):Int),by omega,by omega,by omega,rfl,rfl,rfl⟩
   ·refine⟨1,by omega,by omega,by omega,?_,?_,?_⟩
    ·show(if v.kind=2 then _ else _)=if v.kind=2 then _ else _
     rw[if_neg (by omega),if_neg (by omega)]
    ·show(if v.kind=3∨v.kind=5∨v.kind=6 then _ else _)=if v.kind=3∨v.kind=5∨v.kind=6 then _ else _
     rw[if_neg (by omega),if_neg (by omega)]
    ·show(if v.kind=8 then _ else _)=if v.kind=8 then _ else _
     rw[if_neg (by omega),if_neg (by omega)]
 ·rcases Ls h2 with⟨h5,e⟩|⟨h5,e⟩;·have h6:Rg s r:=⟨h1.a,by have:=h5.b;omega⟩;rw[uN h6.b,e];rw[e] at h4;exact ly.u r t h6 h5 h3 h4
  ·have h6:Rg s r:=⟨h1.a,by have:=h1.b;rw[eV] at this;omega⟩;rw[uN h6.b,e];rw[e] at h4;obtain⟨f1,f2,f3,f4,f5,f6⟩:=ly.fit h6;have e1:(mM v s.cs.length).main=if v.kind=2 then((s.cs.length+1:Nat):Int) else 0:=rfl;have e2:(mM v s.cs.length).prev=if v.kind=3∨v.kind=5∨v.kind=6 then((s.cs.length+1:Nat):Int) else 0:=rfl;have e3:(mM v s.cs.length).status=if v.kind=8 then((s.cs.length+1:Nat):Int) else 0:=rfl;unfold zV at h4 f4 f5 f6 ⊢;split at e1<;>split at e2<;>split at e3<;>omega
theorem Ly.up(ly:Ly s)(e:s2.nodes=s.nodes)(el:s2.cs.length=s.cs.length):Ly s2:=by obtain⟨n2,c2,g2,p2⟩:=s2;dsimp only at e el;subst e;exact⟨λ r h=>by show ∃c,aEp _ c2.length c;rw[el];exact ly.k r ⟨h.a,h.b⟩,λ r t h1 h2=>ly.u r t ⟨h1.a,h1.b⟩ ⟨h2.a,h2.b⟩,by show 3<=c2.length;rw[el];exact ly.c⟩
structure Kx(s s':Mm):Prop where
 le:s.nodes.length<=s'.nodes.length
 nd:∀r:Int,r<=s.nodes.length->aB s'.nodes r=aB s.nodes r
 cl:s.cs.length<=s'.cs.length
 z:∀m,Rg s m->eT s m=0->eT s' m=0
 fx:∀b,Rg s b->(aB s.nodes b).kind=2->(aB s.nodes b).gen=1->b≠4->cN s' b=cN s b
variable{v:Nv}{i:Int}
theorem Kx.refl(s:Mm):Kx s s:=⟨Nat.le_refl _,λ _ _=>rfl,Nat.le_refl _,λ _ _ h=>h,λ _ _ _ _ _=>rfl⟩
theorem Kx.trans(h:Kx s s1)(g:Kx s1 s2):Kx s s2:=⟨Nat.le_trans h.le g.le,λ r hr=>(g.nd r (by have:=h.le;omega)).trans (h.nd r hr),Nat.le_trans h.cl g.cl,λ m hm e=>g.z m (hm.le h.le) (h.z m hm e),λ b hb k hg h4=>(g.fx b (hb.le h.le) (by rw[h.nd b hb.b];exact k) (by rw[h.nd b hb.b];exact hg) h4).trans (h.fx b hb k hg h4)⟩
theorem Ly.jA(ly:Ly s)(v:Nv)(x:Int)(h:Rg s r):cN (s.push v x) r=cN s r/\eT (s.push v x) r=eT s r/\fH (s.push v x) r=fH s r:=by obtain⟨f1,f2,f3,-⟩:=ly.fit h;unfold cN eT fH;rw[uN h.b];exact⟨C3 f1.2.1,C3 f2.2.1,C3 f3.2.1⟩
theorem Ly.W6(ly:Ly s)(v:Nv)(x:Int):Kx s (s.push v x):=⟨by rw[eV];omega,λ r hr=>uN hr,(Fi s v x).1,λ m hm e=>(ly.jA v x hm).2.1.trans e,λ b hb _ _ _=>(ly.jA v x hb).1⟩
theorem wF(h:v.kind=3∨v.kind=6):eT (s.push v i) ((s.nodes.length+1:Nat):Int)=i:=s5 h
theorem Mr(h:v.kind=2):cN (s.push v i) ((s.nodes.length+1:Nat):Int)=i:=by unfold cN;rw[gW];show aL (gJ v.kind s.cs i) (if v.kind=2 then _ else _)=_;rw[if_pos h];unfold gJ;rw[if_pos (by omega)];exact I1 _ _
theorem aAL(h:v.kind=8):fH (s.push v i) ((s.nodes.length+1:Nat):Int)=i:=by unfold fH;rw[gW];show aL (gJ v.kind s.cs i) (if v.kind=8 then _ else _)=_;rw[if_pos h];unfold gJ;rw[if_pos (by omega)];exact I1 _ _
end
section
variable(C:KP)(s:Mm)
def xN(u:Nat):Nat->Nat->Int->Option Int->Prop
 | 0,_,_,_=>False
 | f+1,l,m,r=>Rg s m/\l<=11/\(((aB s.nodes m).kind=3/\l<=10/\((lY (aB s.nodes m) (gO (C.hs u) l)=none/\r=none) ∨
   ∃b,lY (aB s.nodes m) (gO (C.hs u) l)=some b/\Rg s b/\(((aB s.nodes b).kind=4/\r=if(aB s.nodes b).key=C.ky u then some (aB s.nodes b).val else none) ∨
    ((aB s.nodes b).kind=2/\(aB s.nodes b).gen=1/\b≠4/\eT s (cN s b)=0/\xN u f (l+1) (cN s b) r)))) ∨
  ((aB s.nodes m).kind=6/\(aB s.nodes m).ys.length<=1000/\r=cU (aB s.nodes m).ys (C.ky u)))
structure SgX(x:Nat)(b:Int):Prop where
 r:Rg s b
 k:(aB s.nodes b).kind=4
 h:(aB s.nodes b).hash=(C.hs x:Int)
 y:(aB s.nodes b).key=C.ky x
 v:(aB s.nodes b).val=C.vl x
structure Ct(m:Int)(c:Nat->Bool):Prop where
 r:Rg s m
 vc:∃b,VC (aB s.nodes m) b
 p:∀u,u<2->xN C s u 13 0 m (if c u=true then some (C.vl u) else none)
 sg:¬(c 0=true/\c 1=true)->∀k:Nat,k<64->∀b,lY (aB s.nodes m) (k:Int)=some b->∃x,x<2/\c x=true/\k=sl (C.hs x) 0/\SgX C s x b
end
section
variable{C:KP}{s s1 s2:Mm}{r t a b m:Int}{u x:Nat}{c:Nat->Bool}
theorem xN.kx(h:Kx s s1):∀{f l:Nat} {m:Int} {r:Option Int},xN C s u f l m r->xN C s1 u f l m r
 | 0,_,_,_,g=>g
 | f+1,l,m,r,⟨g1,g2,g3⟩=>by
  refine⟨g1.le h.le,g2,?_⟩;rw[h.nd m g1.b];refine g3.imp_left λ⟨h1,h2,h3⟩=>⟨h1,h2,h3.imp_right λ⟨b,e1,e2,e3⟩=>⟨b,e1,e2.le h.le,?_⟩⟩;rw[h.nd b e2.b];refine e3.imp_right λ⟨k1,k2,k3,k4,k5⟩=>?_;have e:=h.fx b e2 k1 k2 k3;refine⟨k1,k2,k3,?_,?_⟩
  ·rw[e];refine h.z _ ?_ k4;cases f with
   | zero=>exact k5.elim
   | succ f=>exact k5.1
  ·rw[e];exact xN.kx h k5
theorem xN.more:∀{f l:Nat} {m:Int} {r:Option Int},xN C s u f l m r->xN C s u (f+1) l m r
 | 0,_,_,_,g=>g.elim
 | f+1,l,m,r,⟨g1,g2,g3⟩=>⟨g1,g2,g3.imp_left λ⟨h1,h2,h3⟩=>⟨h1,h2,h3.imp_right λ⟨b,e1,e2,e3⟩=>⟨b,e1,e2,e3.imp_right λ⟨k1,k2,k3,k4,k5⟩=>⟨k1,k2,k3,k4,xN.more k5⟩⟩⟩⟩
theorem xN.le{f e l:Nat}{m:Int}{r:Option Int}(g:xN C s u f l m r)(hl:f<=e):xN C s u e l m r:=by
 obtain⟨c,rfl⟩:=Nat.exists_eq_add_of_le hl;clear hl;induction c with
 | zero=>exact g
 | succ c ih=>exact ih.more
theorem SgX.kx(g:SgX C s x b)(h:Kx s s1):SgX C s1 x b:=⟨g.r.le h.le,by rw[h.nd b g.r.b];exact g.k,by rw[h.nd b g.r.b];exact g.h,by rw[h.nd b g.r.b];exact g.y,by rw[h.nd b g.r.b];exact g.v⟩
theorem Ct.kx(g:Ct C s m c)(h:Kx s s1):Ct C s1 m c:=⟨g.r.le h.le,by rw[h.nd m g.r.b];exact g.vc,λ u hu=>(g.p u hu).kx h,λ h1 k hk b hb=>by rw[h.nd m g.r.b] at hb;obtain⟨x,h2,h3,h4,h5⟩:=g.sg h1 k hk b hb;exact⟨x,h2,h3,h4,h5.kx h⟩⟩
theorem Ct.kd(g:Ct C s m c):(aB s.nodes m).kind=3:=by obtain⟨b,h⟩:=g.vc;exact h.kd
end
end
end Go.Proofs.YthblobahelfefaaGreatDoor

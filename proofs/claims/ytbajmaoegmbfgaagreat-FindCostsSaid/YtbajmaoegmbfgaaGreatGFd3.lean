/- Merged. -/
import Derived.Test.YtbajmaoegmbfgaaGreatGRt3
import Derived.Test.YtbajmaoegmbfgaaGreatGGc1
import Derived.Test.YtbajmaoegmbfgaaGreatGRn1
import Derived.Test.YtbajmaoegmbfgaaGreatGAutoD
import Derived.Test.YtbajmaoegmbfgaaGreatGLe1
import Derived.Test.YtbajmaoegmbfgaaGreatGIxg
import Derived.Test.YtbajmaoegmbfgaaGreatGKw5
import Derived.Test.YtbajmaoegmbfgaaGreatGKx8
import Derived.Test.YtbajmaoegmbfgaaGreatGWo1
set_option linter.unusedSimpArgs false
set_option linter.unusedVariables false
namespace Go.Proofs.YtbajmaoegmbfgaaGreat
open Go.Proofs.Tryz
open Go Go.RowKit Go.Ct
section
abbrev erR:Rs:={Rs.zero with err:=1}
noncomputable def Rk (t:dV) (h:Nat) (key:ByteArray) (n:Nat):Tr:=if key.size<=64 then kP t (λ i=>lC t h key .done n i 0) else .done erR
theorem Sg{k:Cl}(h:Nat)(n:Nat)(e:k.kind=7):kS k h n=Rk k.t h k.key n:=by
 have hr:refuse k=if k.key.size<=64 then 0 else 1:=if_pos (show k.kind=7∨k.kind=9 from .inl e);unfold kS Rk;rw[hr];by_cases hk:k.key.size<=64
 ·simp only[if_pos hk];rw[if_neg (by decide),if_neg (by omega),if_neg (by omega),if_neg (by omega),if_neg (by omega),if_pos e]
 ·simp only[if_neg hk];rw[if_pos (by decide)]
section
variable{D:List Nat}{A B:Fr}{a:AS}{b:Nat}{w:World}{f:FuncId}{cap:List Value}{t:dV}{bf h:Nat}{key:ByteArray}
theorem xq(x y z:Option Addr×List Value):∀u∈x::z::([y]++B),u∈[x,y,z]++B:=λ u hu=>by simp only[List.mem_cons,List.mem_append,List.not_mem_nil,or_false] at hu ⊢;rcases hu with h|h|h|h<;>simp[h]
theorem aBr{n xf:Nat}{s:Mm}{r:Int}(hd:Nz b bf h t key n)(hn:n<=4294967296)(hr:r<=s.nodes.length)(hbf:bx bf (Jf b t key h)∈B):rP b 107 [pt xf] [.int .i64 r] (bx xf [pt bf]::B) s (lC t h key .done n r 0):=by intro a D A w em ok hm hA hB hw0;subst em;refine enter func107 ntmps107 rfl rfl hw0 ?_;simp only[cC];refine J0 ?_;refine aJ (λ x3=>?_);refine aG ?_;refine K0y ?_;refine aA ?_;refine aD (zY (λ w1 hw=>hd a _ A _ r 0 w1 (by omega) (List.mem_cons_of_mem _ hbf) hr ok hm hA hB hw)) (λ x6 h6=>?_);refine bT (gE λ _=>aQ rf cY rf (cD _) eE rf iN) (λ _=>?_);refine aG ?_;refine aY results107 (λ w hw=>?_);exact⟨x6,rfl,h6,hw.rN⟩
theorem aBn{n xk xf:Nat}{s:Mm}(ht:t.root<=9223372036854775807)(hd:Nz b bf h t key n)(hn:n<=4294967296)(hbf:bx bf (Jf b t key h)∈B):rP b 105 [pt xk,pt xf] [] (bx xk [.string key]::bx xf [pt bf]::B) s (Rk t h key n):=by
 intro a D A w em ok hm hA hB hw0;subst em;have hfm:bx bf (Jf b t key h)∈bx xk [.string key]::bx xf [pt bf]::B:=List.mem_cons_of_mem _ (List.mem_cons_of_mem _ hbf);have hT:As b (λ i=>lC t h key .done n i 0) a.mm 107 [pt xf] (bx xk [.string key]::bx xf [pt bf]::B):=⟨by kernel_rfl,λ r s1 l hr=>(aBr hd hn hr hbf).mr λ y hy=>List.mem_cons_of_mem _ hy⟩;refine enter func105 ntmps105 rfl rfl hw0 ?_;simp only[cC]
 refine J0 ?_;refine aJ (λ x2=>?_);refine S8 ?_;refine J0 ?_;refine aC (lS xk [.string key] 0 hB rfl) rfl ?_;refine aN (cV (hc:=λ w1 hw=>Yq key w1)) (λ x4=>?_);refine oD ?_;refine bD (λ c5=>?_) (λ c5=>?_);·refine J0 ?_;refine bN ?_;refine aN (cV (hc:=λ w1 hw=>Mj erR w1)) (λ x7=>?_);refine bT (gE λ _=>aQ rf cY rf (cD _) eE rf iN) (λ _=>?_);refine aG ?_;refine aY results105 (λ w hw=>?_);refine⟨(iD erR,[],a),rfl,⟨?_,ok,AS.iL.refl a⟩,hw.rI⟩;dsimp only;unfold Rk;rw[if_neg (by simpa using c5)];exact⟨rfl,rfl⟩
 ·refine aW ?_;refine K0y ?_;refine Hs ?_;refine aC (Uo bf (Jf b t key h) 0 3 hB rfl rfl (hm:=hfm)) rfl ?_;refine K1o ?_;refine aD (zY (λ w1 hw=>tu ht hT ok hm hA hB hw)) (λ x13 h13=>?_);refine bT (gE λ _=>aQ rf cY rf (cD _) eE rf iN) (λ _=>?_);refine aG ?_;refine aY results105 (λ w hw=>?_);refine⟨x13,rfl,⟨?_,h13.2⟩,hw.rN⟩;unfold Rk;rw[if_pos (by simpa using c5)];exact h13.1
theorem Pn{m n:Nat}(ht:t.root<=9223372036854775807)(hd:∀bf,Nz b bf (jN key m) t key n)(hn:n<=4294967296)(hm0:m<18446744073709551616)(hk:key.size<=4611686018427387903){i q:Nat}(hT:bV (Rk t (jN key m) key n) i q)(ok:a.Ok)(hm:a.mm.Small)(hA:∀f∈aP a.L,f∈A)(hB:∀x∈B,x∈A)(hs:SF w D [(b,fR a)] A [] (gD a) w) :
  Calls prog 55 #[.iface 42 (.pointer (some ⟨b,0,none⟩)),.agg ⟨[.int .i64 t.root,.bool t.ro]⟩,.int .u64 (m:Int),.string key] w λ e w'=>∃x:Nat×Cd×Fr×AS,e=.returned (.pointer (some ⟨x.1,0,none⟩))/\(rS b (Ct.eD (Rk t (jN key m) key n) a.mm) a B x.2/\dL (Ct.eD (Rk t (jN key m) key n) a.mm).1=true)/\SF w D [(x.1,tO b x.2.1 0),(b,fR x.2.2.2)] [] x.2.2.1 (gD x.2.2.2) w':=by
 have h0:=pK key m;refine enter func55 ntmps55 rfl rfl hs ?_;simp only[cC]
 refine J0 ?_;refine bL (λ x5=>?_);refine bL (λ x7=>?_);refine jG ?_;refine eY [9,10,11,12,13,14,15,16,17,18] (λ j:Nat×Nat=>[(9,.pointer (some ⟨j.1,0,none⟩))]) (λ _=>True) (λ j=>[(j.1,.cells ⟨[pt j.2]⟩ 156 (0,0)),(j.2,.cells ⟨Jf b t key (jN key m)⟩ 159 (0,0)),(x7,.cells ⟨[.string key]⟩ 9 (0,0)),(x5,.cells ⟨[.int .i64 t.root,.bool t.ro]⟩ 29 (0,0)),(b,fR a)]) (λ _=>[]) (λ _=>gD a) (by decide) (λ _=>by exact rfl) ?_ (λ j f hx=>?_)
 ·refine hY (.one 0 [] (.one 1 [] (.one 2 [] (.one 3 [] (.one 4 [] (.one 5 [] (.two 6 [1,3] (.one 7 [] (.two 8 [] (.one 9 [1,3,4] (.one 10 [] .nil)) 0 [] (.two 9 [1,3,4] (.one 8 [] (.one 10 [] .nil)) 0 [] .nil))) 0 [] (.two 9 [1,3,4] (.one 6 [1,3] (.one 7 [] (.one 8 [] (.one 10 [] .nil)))) 0 [] .nil)))))))) ?_;refine aT ?_;refine bW ?_;refine iI ?_;refine bW ?_;refine bW ?_;refine aT ?_;refine gU (E:=[6,9]) (by decide +kernel) ((.cons ?_ (.cons ?_ .nil)))
  ·refine A4 (i:=6) (hq:=(cV (hc:=λ w1 hw=>Rb key hm0 hk w1))) (h:=λ x16=>?_);refine iI ?_;refine gU (E:=[8,9]) (by decide +kernel) ((.cons ?_ (.cons ?_ .nil)));·refine aDy (i:=8) (h:=λ x18=>?_);refine dD (i:=9) (hq:=(gE λ _=>Gy (z:=.pointer none) (by kernel_rfl) rfl)) (h:=λ x9=>?_);refine Ca ?_;refine fK ((x9,x18)) ?_ (hw1:=λ w hw=>by exact hw.back (hH:=by exact List.Sublist.refl _) (hF:=by exact aZ.all) (hO:=E0m));·trivial
   ·refine A4 (i:=9) (hq:=(gE λ _=>Gy (z:=.pointer none) (by kernel_rfl) rfl)) (h:=λ x9=>?_);refine mg (h:=λ x18=>?_);refine K1j ?_;·trivial
  ·refine A4 (i:=9) (hq:=(gE λ _=>Gy (z:=.pointer none) (by kernel_rfl) rfl)) (h:=λ x9=>?_);refine dD (i:=6) (hq:=(cV (hc:=λ w1 hw=>Rb key hm0 hk w1))) (h:=λ x16=>?_);refine iI ?_;refine mg (h:=λ x18=>?_);refine K1j ?_;·trivial
 refine K0a ?_;refine J2 ?_;refine K1o ?_;(refine aN (bE.pre (λ w h=>(show SF _ _ [_,(b,fR a)] _ ([bx x7 [.string key],bx j.2 (Jf b t key (jN key m)),bx j.1 [pt j.2]]:Fr) _ w from((h.dB .head).dB .head).dB .head)) (cMH (V:=λ x:Nat×Cd×Fr×AS=>.pointer (some ⟨x.1,0,none⟩)) (hs:=[(b,fR a)]) (os:=gD a) (hs':=λ x=>[(b,fR x.2.2.2)]) (Hc:=λ x=>[(x.1,tO b x.2.1 0)]) (os':=λ x=>gD x.2.2.2) (Oc:=λ _=>[]) (Fc:=λ x=>x.2.2.1) (A0:=[bx x7 [.string key],bx j.2 (Jf b t key (jN key m)),bx j.1 [pt j.2]]++A) (hA:=bG.Tu) (hc:=λ w1 hw=>Zk (B:=[bx x7 [.string key],bx j.2 (Jf b t key (jN key m)),bx j.1 [pt j.2]]++B) hT ⟨by kernel_rfl,λ s1 l=>(aBn (B:=[bx j.2 (Jf b t key (jN key m))]++B) (xk:=x7) (xf:=j.1) ht (hd j.2) hn (List.mem_cons_self ..)).mr (xq _ _ _)⟩ ok hm (λ f hf=>List.mem_append_right _ (hA f hf)) (Gp hB) hw))) (λ x21=>?_);try (refine eP (λ h21=>?_)));refine J1 ?_;refine aS results55 (λ w hw=>?_);exact⟨(x21.1,x21.2.1,x21.2.2.1++[bx x7 [.string key],bx j.2 (Jf b t key (jN key m)),bx j.1 [pt j.2]],x21.2.2.2),rfl,⟨rS.app h21.1,h21.2⟩,hw.ret (by repeat (first|exact List.Sublist.refl _|apply List.Sublist.cons_cons|apply List.Sublist.cons)) (aZ.iV λ f hf=>hf) (by repeat (exact List.Sublist.refl _))⟩
end
end
section
theorem Wf{k:Cl}(m:Nat)(e:k.kind=7):T0 k m=Rk k.t (jN k.key m) k.key 1073741824:=Sg _ _ e
theorem y0{k:Cl}{m:Nat}{D:List Nat}{A B:Fr}{a:AS}{b:Nat}{w:World}(e:k.kind=7)(ht:k.t.root<=9223372036854775807)(hm0:m<18446744073709551616)(hk:k.key.size<=4611686018427387903)(ok:a.Ok)(hm:a.mm.Small)(hA:∀f∈aP a.L,f∈A)(hB:∀x∈B,x∈A)(hs:SF w D [(b,fR a)] A [] (gD a) w) :
  Calls prog 55 #[.iface 42 (.pointer (some ⟨b,0,none⟩)),.agg ⟨[.int .i64 k.t.root,.bool k.t.ro]⟩,.int .u64 (m:Int),.string k.key] w λ e w'=>∃x:Nat×Cd×Fr×AS,e=.returned (.pointer (some ⟨x.1,0,none⟩))/\(rS b (Ct.eD (T0 k m) a.mm) a B x.2/\dL (Ct.eD (T0 k m) a.mm).1=true)/\SF w D [(x.1,tO b x.2.1 0),(b,fR x.2.2.2)] [] x.2.2.1 (gD x.2.2.2) w':=by
 have hT:=mK k m (n:=0) (by decide);rw[Wf m e] at hT ⊢;have hn:1073741824<=4294967296:=by decide
 generalize 1073741824=n at hT hn ⊢;exact Pn ht (λ bf=>Vd ht (pK k.key m) n) hn hm0 hk hT ok hm hA hB hs
abbrev qK(q:Fe)(m:Int)(y:ByteArray):Cl:=⟨7,q.t,0,0,0,0,0,m,y,q.val,q.exp,q.Jh,q.only⟩
theorem O5{k:ByteArray}(h:k∈kC):k.size<=4611686018427387903:=by simp only[kC,List.mem_cons,List.not_mem_nil,or_false] at h;rcases h with rfl|rfl|rfl|rfl|rfl|rfl|rfl|rfl<;>decide
end
section
structure TK(ba:Nat)(t:Tr)(c:Cd)(a:AS)(G:Fr)(k:Nat):Prop where
 rp:jS ba t a.mm c a.mm G
 ar:dL t=true
 tm:bV t k 64
structure AK(a:AS)(G:Fr)(B:Nat):Prop where
 ok:a.Ok
 s1:a.mm.nodes.length<=B
 s2:a.mm.cs.length<=B
 fam:∀f∈aP a.L,f.2=[]∨f∈G
section
variable{ba bt n k B:Nat}{t:Tr}{c:Cd}{a a':AS}{G G' A:Fr}{D:List Nat}{w:World}{O:List Ow}
theorem AK.all(h:AK a G B):bG A G O (aP a.L++G):=bG.of λ f hf=>(List.mem_append.1 hf).elim (λ h1=>(h.fam f h1).imp_right λ h=>.inr (.inl h)) λ h1=>.inr (.inr (.inl h1))
theorem AK.aEf(h:AK a G B):bG A G O (aP a.L):=bG.of λ f hf=>(h.fam f hf).imp_right λ h=>.inr (.inl h)
theorem AK.small(h:AK a G B)(hB:B<=100000000000):a.mm.Small:=⟨by have:=h.s1;omega,by have:=h.s2;omega⟩
theorem TK.dead(h:TK ba t c a G k)(hl:t.live=false):c.a.k=0:=(h.rp.kind h.ar).1.2 hl
theorem TK.done{r:Rs}(h:TK ba (.done r) c a G k):(c.a.k==0)=true/\(if(true:Bool)=true then c.r else Rs.zero)=r:=⟨by rw[h.dead rfl];rfl,by rw[if_pos rfl];exact(h.rp.kind h.ar).2.1 r rfl⟩
theorem TK.zero{ba k:Nat}{t:Tr}{c:Cd}{a:AS}{G:Fr}{r:Rs}(h:TK ba t c a G k)(e:t=.done r):TK ba (.done r) c a G 0:=by subst e;exact⟨h.rp,h.ar,trivial⟩
structure TY where
 c:Cd
 F:Fr
 a:AS
 n:Nat
structure TYS(ba:Nat)(p:Tr×Mm)(a:AS)(G:Fr)(k B n:Nat)(y:TY):Prop where
 tk:TK ba p.1 y.c y.a (y.F++G) k
 mm:y.a.mm=p.2
 ak:AK y.a (y.F++G) B
 le:a.mm.Le y.a.mm
 n:y.n<=n
theorem Lm{F:Fr}(h:a.iL a' F)(h2:∀f∈aP a.L,f.2=[]∨f∈G):∀f∈aP a'.L,f.2=[]∨f∈F++G:=λ f hf=>(h.fam f hf).elim .inl λ h=>h.elim (λ h=>(h2 f h).imp_right λ h=>List.mem_append_right _ h) λ h=>.inr (List.mem_append_left _ h)
theorem pz{most:Nat}(h:TK ba t c a G (k+most))(ha:AK a G B)(hB:B+64*most<=100000000000)(hn:n+most<1000000000)(hA1:∀f∈aP a.L,f∈A)(hA2:∀f∈G,f∈A)(hs:SF w D [(bt,tO ba c n),(ba,fR a)] A [] (gD a) w) :
  Calls prog 30 #[.pointer (some ⟨bt,0,none⟩),.int .i64 ((most:Nat):Int)] w λ e w'=>∃y:TY,e=.returned (.int .i64 ((oN (t,a.mm) most:Nat):Int))/\TYS ba (jC (t,a.mm) most) a G k (B+64*most) (n+oN (t,a.mm) most) y/\SF w D [(bt,tO ba y.c y.n),(ba,fR y.a)] [] y.F (gD y.a) w':=by
 have hs1:=ha.s1;have hs2:=ha.s2;refine(Px (most:=most) (m:=k+most) h.tm (by omega) h.ar h.rp ha.ok ⟨by omega,by omega⟩ hn hA1 hA2 hs).mono λ e w' ⟨y,e1,h5,hw⟩=>⟨⟨y.1,y.2.1,y.2.2,n+oN (t,a.mm) most⟩,e1,?_,hw⟩;obtain⟨z0,z1,z2,z3⟩:=Hq (s:=a.mm) h.tm h.ar most (by omega)
 have em:y.2.2.mm=(jC (t,a.mm) most).2:=h5.mm;exact⟨⟨by show jS ba _ y.2.2.mm _ y.2.2.mm _;rw[em];exact h5.rp,z1,by rw[show k=k+most-most by omega];exact z0⟩,em,⟨h5.ok,by show y.2.2.mm.nodes.length<=_;rw[em];omega,by show y.2.2.mm.cs.length<=_;rw[em];omega,Lm h5.gr ha.fam⟩,h5.gr.le,Nat.le_refl _⟩
structure xu(ba:Nat)(T:Tr)(a:AS)(G:Fr)(k B:Nat)(y:TY):Prop where
 tk:TK ba (Ct.eD T a.mm).1 y.c y.a (y.F++G) k
 mm:y.a.mm=(Ct.eD T a.mm).2
 ak:AK y.a (y.F++G) B
 le:a.mm.Le y.a.mm
theorem ud{T:Tr}{y:Nat×Cd×Fr×AS}(hT:bV T k 64)(ha:AK a G B)(h:rS ba (Ct.eD T a.mm) a [] y.2/\dL (Ct.eD T a.mm).1=true):xu ba T a G k (B+64) ⟨y.2.1,y.2.2.1,y.2.2.2,0⟩:=by obtain⟨h1,h2⟩:=h;have h5:=TkI.of h1;obtain⟨z1,z2⟩:=oQ a.mm hT;have hs1:=ha.s1;have hs2:=ha.s2;have em:y.2.2.2.mm=(Ct.eD T a.mm).2:=h5.mm;exact⟨⟨by show jS ba _ y.2.2.2.mm _ y.2.2.2.mm _;rw[em];exact jS.more h5.rp λ x hx=>by rw[List.append_nil] at hx;exact List.mem_append_left _ hx,h2,oK a.mm hT 64⟩,em,⟨h5.ok,by show y.2.2.2.mm.nodes.length<=_;rw[em];omega,by show y.2.2.2.mm.cs.length<=_;rw[em];omega,Lm h5.gr ha.fam⟩,h5.gr.le⟩
end
end
section
section
variable{t:dV}{i m p v:Int}{n:Nat}
end
end
section
section
variable{w:World}{L:List aR}{cs:List Int}{gen:Int}{pn pc:Option Addr}{cn cc:Nat}
end
end
section
section
variable{H:ByteArray->Nat}{Q:Rs->Kw->Prop}{σ:Kw}
end
section
variable{H:ByteArray->Nat}{σ:Kw}{t:dV}{i:Int}
end
section
variable{s:Mm}{t:dV}{i m n c pc:Int}{K:Int->Tr}
end
end
section
section
variable{H:ByteArray->Nat}{σ:Kw}{t:dV}{i m:Int}
end
end
section
section
variable{s M:Mm}{t:dV}{i m n n0 n1:Int}
end
end
section
section
variable{H:ByteArray->Nat}{M s:Mm}{ts:List dV}{σ:Kw}{t:dV}{i m n:Int}{u:Nv}
theorem QS.root(q:QS H M ts σ)(ht:t∈ts):1<=t.root/\t.root<=M.cs.length/\(bH M.nodes (bJ M.cs t.root)).kind=2:=by
 have e:=q.mm;subst e;have hT:=q.ts t ht;refine⟨hT.1,hT.2.1,?_⟩;cases hro:t.ro with
 | true=>exact(hT.roI q.inv hro).1
 | false=>exact q.rt _ hT.1 hT.2.1 (hT.rw hro)
theorem QS.lG(q:QS H M ts σ)(ht:t∈ts){r:Int}(h:lG M.nodes M.cs t.root=some r):bJ M.cs t.root=r:=by
 have h2:=(q.root ht).2.2;have e:sB M.nodes M.cs t.root=bJ M.cs t.root:=by unfold sB;rw[if_neg (by rw[h2];decide)]
 unfold Go.Ct.lG at h;rw[e,if_pos h2] at h;exact Option.some.inj h
end
end
section
theorem Ek{p:Tr×Mm}:∀{k:Nat},(jC p k).1.live=true->oN p (k+1)=k+1
 | 0,h=>by show 0+(if(jC p 0).1.live=true then 1 else 0)=1;rw[if_pos h]
 | k+1,h=>by
  have hk:(jC p k).1.live=true:=by
   cases e:(jC p k).1.live with
   | true=>rfl
   | false=>rw[(I4 e 1).1,e] at h;cases h
  show oN p (k+1)+(if(jC p (k+1)).1.live=true then 1 else 0)=_;rw[Ek hk,if_pos h]
theorem jq{m:Nat}{M:Mm}{ts:List dV}{σ:Kw}(q:QS (H8 m) M ts σ){k:Cl}(ht:k.t∈ts)(e7:k.kind=7)(hs:k.key.size<=64) :
  ∃f v d,jC (Ct.eD (T0 k m) M) (1+2*d)=(.done (dO f v),M)/\(jC (Ct.eD (T0 k m) M) (2*d)).1.live=true/\1<=d/\d<=12/\∃r,lG M.nodes M.cs k.t.root=some r/\FdV k.key (Mh M.nodes M.cs 12 r) f v/\∀q,C3 M.nodes M.cs 12 0 0 r [] []=some q->∃p∈q.1,p.lv+1=d:=by
 have em:=q.mm;subst em;obtain⟨r,hr,hI⟩:=Wz q.inv (q.ts _ ht);have hrv:=q.lG ht hr;have hk2:(bH σ.mm.nodes r).kind=2:=hI.1;have hn:12<=1073741824:=by decide
 rw[Wf m e7];generalize 1073741824=n at hn ⊢;rw[Rk,if_pos hs];obtain⟨f,v,d,hq,hd,hv,hp⟩:=cy (t:=k.t) (K:=.done) (h:=jN k.key m) (key:=k.key) q.inv q.st (λ hl=>(aAw rfl hl).2.symm) n r [] (σ.nd r).gen 12 ⟨hI,rfl⟩ (λ j hj=>absurd hj (Nat.not_lt_zero j)) (by simpa using hn) (by decide);have h1:jC (Ct.eD (kP k.t λ i=>lC k.t (jN k.key m) k.key .done n i 0) σ.mm) 1=Ct.eD (lC k.t (jN k.key m) k.key .done n r 0) σ.mm:=by show Ct.eD (if(bH σ.mm.nodes (bJ σ.mm.cs k.t.root)).kind=2 then lC k.t (jN k.key m) k.key .done n (bJ σ.mm.cs k.t.root) 0 else _) σ.mm=_;rw[hrv,if_pos hk2]
 have hd1:=hq.d1;refine⟨f,v,d,?_,?_,hd1,by simpa using hd,r,hr,hv,λ q hq=>?_⟩
 ·rw[oF,h1];exact hq.run
 ·rw[show 2*d=1+(2*d-1) by omega,oF,h1];exact hq.lv
 ·obtain⟨p,hp1,hp2⟩:=hp _ _ _ _ _ _ hq;exact⟨p,hp1,by omega⟩
section
variable{ba B:Nat}{k:Cl}{m:Nat}{a:AS}{G A:Fr}{D:List Nat}{w:World}
theorem jk(e:k.kind=7)(ht:k.t.root<=9223372036854775807)(hm0:m<18446744073709551616)(hk:k.key.size<=4611686018427387903)(ha:AK a G B)(hB:B<=90000000000)(hA:∀f∈aP a.L,f∈A)(hs:SF w D [(ba,fR a)] A [] (gD a) w) :
  Calls prog 55 #[.iface 42 (.pointer (some ⟨ba,0,none⟩)),.agg ⟨[.int .i64 k.t.root,.bool k.t.ro]⟩,.int .u64 (m:Int),.string k.key] w λ e w'=>∃x:Nat×TY,e=.returned (.pointer (some ⟨x.1,0,none⟩))/\xu ba (T0 k m) a G 1000 (B+64) x.2/\SF w D ([(ba,fR x.2.a)]++[(x.1,tO ba x.2.c 0)]) [] x.2.F (gD x.2.a++[]) w' :=
 (No (y0 (B:=[]) e ht hm0 hk ha.ok (ha.small (by omega)) hA (λ x hx=>nomatch hx) hs)).mono λ e w' ⟨x,e1,h,hw⟩=>⟨(x.1,⟨x.2.1,x.2.2.1,x.2.2.2,0⟩),e1,ud (mK k m (by decide)) ha h,hw⟩
theorem jn{M:Mm}{d N kk k' B' q':Nat}{R:Rs}{y z:TY}(hM:a.mm=M)(hr:jC (Ct.eD (T0 k m) M) (1+2*d)=(.done R,M))(hl:(jC (Ct.eD (T0 k m) M) (2*d)).1.live=true)(hN:1+2*d<=N)(hy:xu ba (T0 k m) a G kk B y)(hz:TYS ba (jC ((Ct.eD (T0 k m) a.mm).1,y.a.mm) N) y.a (y.F++G) k' B' q' z) :
  TK ba (.done R) z.c z.a (z.F++(y.F++G)) 0/\z.a.mm=M/\oN ((Ct.eD (T0 k m) a.mm).1,y.a.mm) N=1+2*d:=by
 subst hM;have e0:((Ct.eD (T0 k m) a.mm).1,y.a.mm)=Ct.eD (T0 k m) a.mm:=by rw[hy.mm]
 rw[e0] at hz ⊢;have hdd:(jC (Ct.eD (T0 k m) a.mm) (1+2*d)).1.live=false:=by rw[hr];rfl
 obtain⟨h1,h2⟩:=yF hdd hN;rw[h1,hr] at hz;exact⟨hz.tk.zero rfl,hz.mm,by rw[h2,Nat.add_comm];exact Ek hl⟩
end
end
end Go.Proofs.YtbajmaoegmbfgaaGreat
namespace Go.Ct
open Go Go.RowKit
section
end
end Go.Ct
namespace Go.Proofs.YtbajmaoegmbfgaaGreat
open Go.Proofs.Tryz
open Go Go.RowKit Go.Ct
section
abbrev aK:ByteArray:=⟨#[97]⟩
abbrev kA:Cl:=⟨8,⟨3,false⟩,0,0,0,0,0,63,aK,8,0,0,false⟩
theorem hsA:jN aK 63=12:=by decide
abbrev n3:Nv:=dJ (({Nd.zero with kind:=3}:Nd).c [] []) 0
abbrev n5:Nv:=dJ (zP 12 aK 8) 3
abbrev n6:Nv:=dJ (B7 4096 [5]) 3
def Ti:Mm:=⟨Aq.nodes++[n5,n6],[0,6,4,0],1⟩
theorem aC7:CV n3.nd n3.xs n3.ys:=by have:=fp (b:=0) (xs:=[]) ⟨by decide,by decide,λ i hi=>nomatch hi⟩ (none,0) (p:=1) (by decide);exact(y8.1 this)
theorem aDv:BV 4096 [5]:=⟨by decide,by decide,λ i hi=>by
 have:i=0:=by simp at hi;exact hi
 subst this;decide⟩
theorem aDj:CV n6.nd n6.xs n6.ys:=y8.1 (fp aDv (none,0) (p:=4) (by decide))
theorem lk3:iO n3 12=none:=by unfold iO Ew;exact if_neg λ h=>absurd h.2 (by decide)
theorem in3:gj n3 12 5=B7 4096 [5]:=by unfold gj lu;rw[if_pos ⟨aC7,by decide,by decide,by decide⟩,show dX n3.bm.toNat 12=4096 by decide +kernel,show uY n3.xs (mH n3.bm.toNat 12) 5=[5] by decide +kernel];rfl
theorem lk6:iO n6 12=some 5:=by unfold iO Ew;rw[if_pos ⟨aDj,by decide⟩];decide +kernel
theorem aBs:eZ 12 0=12:=by decide
theorem aEg(n:Nat)(t:dV)(l:Int)(hl:eZ 12 l=12):Ct.eD (qD t 12 aK n l 3) Aq=(.done (dO false 0),Aq):=by show Ct.eD (if n3.kind=5 then _ else if n3.kind=6 then _ else match iO n3 (eZ 12 l) with|none=>_|some b=>_) Aq=_;rw[hl,lk3];rfl
theorem aCu(n:Nat)(t:dV)(l:Int)(hl:eZ 12 l=12):Ct.eD (qD t 12 aK n l 6) Ti=(.done (dO true 8),Ti):=by show Ct.eD (if n6.kind=5 then _ else if n6.kind=6 then _ else match iO n6 (eZ 12 l) with|none=>_|some b=>_) Ti=_;rw[hl,lk6];rfl
abbrev tA:dV:=⟨3,false⟩
noncomputable abbrev ub:Tr:=Rk tA 12 aK 1073741824
theorem ku:ub=kP tA λ i=>iK tA i (qD tA 12 aK 1073741823 0):=by show Rk tA 12 aK 1073741824=_;unfold Rk;rw[if_pos (by decide)];rfl
theorem aCY:jC (Ct.eD ub Aq) 3=(.done (dO false 0),Aq)/\oN (Ct.eD ub Aq) 3=3:=by
 rw[ku];have e2:jC (Ct.eD (kP tA λ i=>iK tA i (qD tA 12 aK 1073741823 0)) Aq) 2=(.load 1 λ p=>if p=0 then qD tA 12 aK 1073741823 0 3 else .node p λ np=>if cB np then(if tA.ro=true then lF 4 3 p false (qD tA 12 aK 1073741823 0) else zN tA λ r=>.node r λ nr=>.node 4 λ ni=>lF 4 3 p (nr.gen==ni.gen) (qD tA 12 aK 1073741823 0)) else Jj 4 3 p (qD tA 12 aK 1073741823 0),Aq):=rfl
 have e3:jC (Ct.eD (kP tA λ i=>iK tA i (qD tA 12 aK 1073741823 0)) Aq) 3=(.done (dO false 0),Aq):=by show D6 (jC _ 2)=_;rw[e2];exact aEg _ _ _ aBs
 refine⟨e3,?_⟩;show oN _ 2+(if(jC _ 2).1.live=true then 1 else 0)=3;rw[e2];rfl
theorem aCR:jC (Ct.eD ub Ti) 3=(.done (dO true 8),Ti)/\oN (Ct.eD ub Ti) 3=3:=by
 rw[ku];have e2:jC (Ct.eD (kP tA λ i=>iK tA i (qD tA 12 aK 1073741823 0)) Ti) 2=(.load 4 λ p=>if p=0 then qD tA 12 aK 1073741823 0 6 else .node p λ np=>if cB np then(if tA.ro=true then lF 4 6 p false (qD tA 12 aK 1073741823 0) else zN tA λ r=>.node r λ nr=>.node 4 λ ni=>lF 4 6 p (nr.gen==ni.gen) (qD tA 12 aK 1073741823 0)) else Jj 4 6 p (qD tA 12 aK 1073741823 0),Ti):=rfl
 have e3:jC (Ct.eD (kP tA λ i=>iK tA i (qD tA 12 aK 1073741823 0)) Ti) 3=(.done (dO true 8),Ti):=by show D6 (jC _ 2)=_;rw[e2];exact aCu _ _ _ aBs
 refine⟨e3,?_⟩;show oN _ 2+(if(jC _ 2).1.live=true then 1 else 0)=3;rw[e2];rfl
theorem aEx{p:Tr×Mm}{r:Rs}{s:Mm}(h:jC p 3=(.done r,s))(hc:oN p 3=3):jC p 9=(.done r,s)/\oN p 9=3:=by obtain⟨h1,h2⟩:=yF (p:=p) (j:=3) (k:=9) (by rw[h];rfl) (by decide);exact⟨h1.trans h,h2.trans hc⟩
def mmP:Mm:=⟨Aq.nodes++[n5,n6],[0,3,4,3],1⟩
theorem aCD(K:Rs->Int->Tr)(gen:Int):Ct.eD (jQ kA 4 3 12 0 gen K) Aq=Ct.eD (lE tA 4 3 6 λ ok=>K (oU false 0) (if ok=true then 1 else 0)) mmP:=by
 show Ct.eD (if n3.kind=6 then _ else match iO n3 (eZ 12 ((0:Nat):Int)) with|none=>(if nI kA false 0=true then Tr.alloc (zP 12 aK 8) 0 λ s=>.alloc (gj n3 (eZ 12 ((0:Nat):Int)) s) 3 λ r=>lE tA 4 3 r λ ok=>K (oU false 0) (if ok=true then 1 else 0) else K (dO false 0) 1)|some b=>_) Aq=_
 rw[show eZ 12 ((0:Nat):Int)=12 from aBs,lk3];show Ct.eD (Tr.alloc (gj n3 12 5) 3 λ r=>lE tA 4 3 r λ ok=>K (oU false 0) (if ok=true then 1 else 0)) (Aq.push (zP 12 aK 8) 0)=_
 rw[in3];rfl
noncomputable abbrev ptT:Tr:=T0 kA 63
theorem aB6(ag:Tr)(gen:Int)(n:Nat):∃KL:Int->Rs->Int->Tr,(tB kA 12 .done ag gen (n+1) 4 0 0=iK tA 4 λ m=>.node m λ nm=>if nm.kind=5 then vY tA 0 4 12 (((0:Nat):Int)-1) (λ _=>ag) else jQ kA 4 m 12 0 gen (KL m))/\∀m r,KL m r 1=.done r :=⟨λ m r what=>if what=1 then .done r else if what=0 then ag else Cz kA 4 m (eZ 12 ((0:Nat):Int)) gen λ b=>if b=0 then ag else tB kA 12 .done ag gen n b 4 1,rfl,λ _ _=>rfl⟩
theorem Yn(n:Nat):vK kA 12 .done (n+1)=kP tA λ i=>.node i λ ni=>tB kA 12 .done (vK kA 12 .done n) ni.gen n i 0 0:=rfl
theorem aB1:ptT=kP tA λ i=>.node i λ ni=>tB kA 12 .done (vK kA 12 .done (1073741822+1)) ni.gen (1073741822+1) i 0 0:=by show T0 kA 63=_;unfold T0;rw[show kA.key=aK from rfl,hsA];unfold kS;rw[if_neg (by decide),if_neg (by decide),if_neg (by decide),if_neg (by decide),if_neg (by decide),if_neg (by decide),if_pos rfl];exact Yn (1073741822+1)
theorem o0(P:Int->Int->Tr):jC (Ct.eD (kP tA λ i=>.node i λ ni=>P ni.gen i) Aq) 1=Ct.eD (P 1 4) Aq:=rfl
theorem run_read(L:Int->Tr)(ag:Tr):jC (Ct.eD (iK tA 4 λ m=>.node m λ nm=>if nm.kind=5 then ag else L m) Aq) 2=Ct.eD (L 3) Aq:=rfl
def mmQ:Mm:=⟨Aq.nodes++[n5,n6],[0,6,4,3],1⟩
theorem aB2(K:Bool->Tr):jC (Ct.eD (lE tA 4 3 6 K) mmP) 1=Ct.eD (oJ tA 4 6 λ m=>K (m==6)) mmQ:=rfl
theorem aCg(K:Int->Tr):jC (Ct.eD (oJ tA 4 6 K) mmQ) 1=Ct.eD (zN tA λ r=>.node r λ nr=>.node 4 λ ni=>lF 4 6 3 (nr.gen==ni.gen) K) mmQ:=rfl
theorem aAH(K:Int->Tr):jC (Ct.eD (zN tA λ r=>.node r λ nr=>.node 4 λ ni=>lF 4 6 3 (nr.gen==ni.gen) K) mmQ) 1=Ct.eD (lF 4 6 3 true K) mmQ:=rfl
theorem aA5(K:Int->Tr):jC (Ct.eD (lF 4 6 3 true K) mmQ) 2=Ct.eD (K 6) Ti:=rfl
theorem uf(K:Int->Tr):jC (Ct.eD (lE tA 4 3 6 λ ok=>K (if ok=true then 1 else 0)) mmP) 5=Ct.eD (K 1) Ti:=by rw[show(5:Nat)=1+1+1+2 from rfl,oF,oF,oF,aB2,aCg,aAH,aA5];rfl
theorem Wj:jC (Ct.eD ptT Aq) 8=(.done (oU false 0),Ti):=by rw[aB1];generalize vK kA 12 .done (1073741822+1)=ag;generalize 1073741822=n;obtain⟨KL,h1,h2⟩:=aB6 ag 1 n;rw[show(8:Nat)=1+2+5 from rfl,oF,oF,o0 λ g i=>tB kA 12 .done ag g (n+1) i 0 0,h1];rw[run_read (λ m=>jQ kA 4 m 12 0 1 (KL m)),aCD,uf (λ k=>KL 3 (oU false 0) k),h2];rfl
end
section
structure o5(x0:XS)(y:RY):Prop where
 run:Jq kA 63 x0 8 y
 rn:jC (Ct.eD ptT Aq) y.i=(y.R,y.x.mm)
 i:y.i<=8
section
variable{x0 x':XS}{N':List aR}{dn:Bool}{rs:Rs}{y:RY}
theorem pi(e0:x0.mm=Aq)(hs:Sz x0 8)(h:tX (T0 kA 63) (T0 kA 63) 0 0 Rs.zero x0 x' N' dn rs):∃R,o5 x0 ⟨0,x',N',dn,rs,R⟩:=by
 obtain⟨R',j,h1,h2,h3,h4,h5,h6⟩:=h.exI;have hj:j=0:=by omega
 subst hj;refine⟨R',⟨h3,⟨0,h4⟩,h5,h6,by have:=h.gl;show x'.got.length<=0;omega,G8 (mK kA 63 (n:=0) (by decide)) h4 h1 hs⟩,?_,Nat.zero_le _⟩;have:=aBe h4 (sV h3);rw[e0] at this;exact this
theorem o5.lt(h:o5 x0 y)(hd:y.dn=false):y.i<8:=by
 rcases Nat.lt_or_ge y.i 8 with h1|h1;·exact h1
 ·exfalso;have h2:=h.rn;rw[show y.i=8 from Nat.le_antisymm h.i h1,Wj] at h2;have h3:y.R=.done (oU false 0):=(congrArg Prod.fst h2).symm;rcases h.run.ex.O4 with⟨h4,_⟩|⟨_,h4⟩
  ·rw[hd] at h4;cases h4
  ·rw[h3] at h4;simp[Tr.acc] at h4
theorem o5.step(h:o5 x0 y)(hd:y.dn=false)(hq:tX (T0 kA 63) y.R 1 (y.x.got.length+1) y.rs y.x x' N' dn rs):∃R,o5 x0 ⟨y.i+1,x',y.N++N',dn,rs,R⟩:=by
 have hi:=h.lt hd;obtain⟨R1,j1,g1,g2,g3,g4,g5,g6,g7⟩:=hq.exN;have hpl:y.R.live=true:=by
  rcases h.run.ex.O4 with⟨h4,_⟩|⟨_,h4⟩;·rw[hd] at h4;cases h4
  ·cases hR:y.R with
   | done r=>rw[hR] at h4;simp[Tr.acc] at h4
   | _=>rfl
 have hr:=sV h.run.ex;have hj1:j1=1:=by
  rcases Nat.lt_or_ge j1 1 with h|h
  ·exfalso;have e0:j1=0:=by omega
   obtain⟨e2,_⟩:=kv g4 e0 hr;rcases g3.O4 with⟨_,e3⟩|⟨e3,_⟩;·rw[<- e2,e3] at hpl;cases hpl
   ·have:=g2 e3;omega
  ·omega
 subst hj1;have est:D6 (y.R,y.x.mm)=(R1,x'.mm):=aAO g4 hr (sV g3);obtain⟨j0,hj0⟩:=h.run.rc
 have hg:=h.run.gl;refine⟨R1,⟨g3,⟨j0+1,hj0.trans g4⟩,by show x'.L=_;rw[g5,h.run.ext,List.append_assoc],Nat.le_trans h.run.lc g6,by have:=hq.gl;show x'.got.length<=y.i+1;omega,?_⟩,?_,hi⟩;·have:=Ds h.run.ex hd (mK kA 63 (n:=y.x.got.length+1) (by omega)) (Nat.le_refl _) g4 g1 h.run.sz;rw[show 8+64+128*(y.i+1)=8+64+128*y.i+128 by omega];exact this
 ·show D6 (jC _ y.i)=_;rw[h.rn,est]
theorem o5.done(h:o5 x0 y)(hd:y.dn=true):y.x.mm=Ti:=by
 have hR:y.R=.done y.rs:=by rcases h.run.ex.O4 with⟨_,h⟩|⟨h,_⟩;exact h;rw[hd] at h;cases h
 have h2:=h.rn;rw[hR] at h2;have h3:=(yF (p:=Ct.eD ptT Aq) (j:=y.i) (k:=8) (by rw[h2];rfl) h.i).1;rw[Wj,h2] at h3;exact(congrArg Prod.snd h3).symm
theorem o5.proper(h:o5 x0 y)(hd:y.dn=true)(e0:x0.mm=Aq):fW y.x.L y.x.cs y.x.gen:=by
 obtain⟨j,hrc⟩:=h.run.rc;rw[e0] at hrc;have w0:WR (H8 63) 63 Aq [⟨3,false⟩] []:=.new;have hst:WR (H8 63) 63 y.x.mm [⟨3,false⟩] [y.R]:=.start w0 (L0 (m:=63) (k:=kA) ⟨by decide,by decide⟩ (by decide) (List.mem_cons_self ..) (List.mem_cons_self ..) (λ _=>rfl)) hrc (sV h.run.ex);have hR:y.R=.done y.rs:=by rcases h.run.ex.O4 with⟨_,h⟩|⟨h,_⟩;exact h;rw[hd] at h;cases h
 rw[hR] at hst;have hsz:=h.run.sz;have hi:=h.i;obtain⟨z1,z2,z3⟩:=hsz
 exact qA (m:=63) (B:=2000) (C:=0) (E:=0) (W:=⟨y.x,[⟨3,false⟩],none,0,[],none,0⟩) ⟨h.run.ex.ok,⟨by show y.x.L.length<=2000;omega,by show y.x.cs.length<=2000;omega,by show y.x.gen<=((2000:Nat):Int);omega⟩,(λ e he=>nomatch he),by show 0<1;decide,rfl,by show 1<=5;decide,Nat.le_refl _,hst.drop⟩
end
abbrev kL:Cl:=⟨7,⟨3,false⟩,0,0,0,0,0,63,aK,0,0,0,false⟩
variable{D:List Nat}{A B:Fr}{a:AS}{b:Nat}{w:World}
theorem Hp:bV ub 20 64:=by have h:ub=kS kL 12 1073741824:=(Sg (k:=kL) 12 1073741824 rfl).symm;rw[h];exact K4 (by decide)
theorem Sm(ok:a.Ok)(hm:a.mm.Small)(hA:∀f∈aP a.L,f∈A)(hB:∀x∈B,x∈A)(hs:SF w D [(b,fR a)] A [] (gD a) w) :
  Calls prog 55 #[.iface 42 (.pointer (some ⟨b,0,none⟩)),.agg ⟨[.int .i64 3,.bool false]⟩,.int .u64 63,.string aK] w λ e w'=>∃x:Nat×Cd×Fr×AS,e=.returned (.pointer (some ⟨x.1,0,none⟩))/\(rS b (Ct.eD ub a.mm) a B x.2/\dL (Ct.eD ub a.mm).1=true)/\SF w D [(x.1,tO b x.2.1 0),(b,fR x.2.2.2)] [] x.2.2.1 (gD x.2.2.2) w':=by
 obtain⟨n,hn,en⟩:∃n:Nat,n<=4294967296/\1073741824=n:=⟨1073741824,by decide,rfl⟩;have ht:bV (Rk tA 12 aK n) 20 64:=by rw[<- en];exact Hp
 have hd:∀bf,Nz b bf (jN aK 63) tA aK n:=λ bf=>Vd (by decide) (pK aK 63) n;have h1:aK.size<=4611686018427387903:=by decide
 have h2:bV (Rk tA (jN aK 63) aK n) 20 64:=by rw[hsA];exact ht
 have:=Pn (t:=tA) (key:=aK) (m:=63) (n:=n) (i:=20) (q:=64) (by decide) hd hn (by decide) h1 h2 ok hm hA hB hs;rw[hsA] at this;show Calls _ _ _ _ λ e w'=>∃x:Nat×Cd×Fr×AS,e=.returned (.pointer (some ⟨x.1,0,none⟩))/\(rS b (Ct.eD (Rk tA 12 aK 1073741824) a.mm) a B x.2/\dL (Ct.eD (Rk tA 12 aK 1073741824) a.mm).1=true)/\SF w D [(x.1,tO b x.2.1 0),(b,fR x.2.2.2)] [] x.2.2.1 (gD x.2.2.2) w'
 rw[en];exact this
theorem X2{T:Tr}(hT:bV T 20 64){F:Fr}{a0:AS}{bt:Nat}{c:Cd}{M:Mm}{r:Rs}(h3:jC (Ct.eD T M) 3=(.done r,M))(hc:oN (Ct.eD T M) 3=3)(hl:M.nodes.length<=10/\M.cs.length<=10)(hp:rS b (Ct.eD T M) a0 B (c,F,a))(hA:∀f∈aP a.L,f∈A)(hB:∀x∈F++B,x∈A)(hs:SF w D [(bt,tO b c 0),(b,fR a)] A [] (gD a) w) :
  Calls prog 30 #[.pointer (some ⟨bt,0,none⟩),.int .i64 9] w λ e w'=>∃y:Fr×AS,e=.returned (.int .i64 3)/\True/\SF w D [(bt,tO b (iD r) 3),(b,fR y.2)] [] y.1 (gD y.2) w':=by
 obtain⟨e1,e2⟩:=aEx h3 hc;obtain⟨s1,s2⟩:=oQ M hT;refine(p8 (n:=0) (m:=20) (most:=9) hp (qX M hT) (oK M hT 64) (by decide) ⟨by omega,by omega⟩ (by decide) hA hB hs).mono λ e w' ⟨y,h1,h2,hw⟩=>?_;have h3:=h2.rp;rw[e1] at h3;obtain⟨_,h4⟩:=h3
 rw[e2,h4] at hw;exact⟨(y.2.1,y.2.2),by rw[h1,e2];rfl,trivial,hw⟩
end
section
variable{S:List (Nat×Value)}{d:Nat}{ty t t':TypeId}{pos:String}{af:Array Edge}{gd:Option (Nat×Bool)}{x y:Operand}
theorem r7{G:World->Prop}(a:Rs)(hx:ev S x=.agg ⟨a.cells⟩)(hy:ev S y=.agg ⟨a.cells⟩)(ht:rH prog t [0,1,0,2,0,0] [0,1]=true):aL prog S G ⟨some d,.binOp .neq t x y t',ty,pos,af,gd⟩ (.bool false):=by have h:=ui (P:=prog) (G:=G) (d:=d) (ty:=ty) (pos:=pos) (af:=af) (gd:=gd) (t':=t') hx hy ht;rw[decide_eq_true (rfl:a=a)] at h;exact h
theorem ul{G:World->Prop}(a:Rs)(hx:ev S x=.agg ⟨a.cells⟩)(hy:ev S y=.agg ⟨a.cells⟩)(ht:rH prog t [0,1,0,2,0,0] [0,1]=true):aL prog S G ⟨some d,.binOp .eql t x y t',ty,pos,af,gd⟩ (.bool true):=by have h:=vc (P:=prog) (G:=G) (d:=d) (ty:=ty) (pos:=pos) (af:=af) (gd:=gd) (t':=t') hx hy ht;rw[decide_eq_true (rfl:a=a)] at h;exact h
abbrev awX(q:AX×AX×Option Addr×Nat):XS:=XS.new (L4 q.1 q.2.1) [0,3,4] 1 0 q.2.1.pn q.2.1.cn q.2.2.1 q.2.2.2
theorem aCC(q:AX×AX×Option Addr×Nat):Sz (awX q) 8:=⟨by show 4<=8;decide,by show 3<=8;decide,by show(1:Int)<=((8:Nat):Int);decide⟩
theorem Xl{L:List aR}{cs:List Int}{gen:Int}{pn pc:Option Addr}{cn cc:Nat}{w:World}(h:rQ w L cs pn pc)(hL:L.length<=274877906944)(hC:cs.length<=274877906944)(hcn:L.length<=cn)(hp:fW L cs gen)(hmo:Z7 ⟨L.map aR.c,cs,gen⟩) :
  Calls prog 71 #[.agg ⟨[.slice pn L.length cn,.slice pc cs.length cc,.int .i64 gen]⟩] w λ e w'=>∃q:Nat×AS,e=.returned (.tuple #[.pointer (some ⟨q.1,0,none⟩),.int .i64 0])/\(q.2.mm=⟨L.map aR.c,cs,gen⟩/\q.2.Ok)/\SF w [] [(q.1,fR q.2)] [] (aP q.2.L) (gD q.2) w' :=
 (gh h hL hC hcn hp).mono λ e w' ⟨x,e1,⟨h1,h2⟩,hw⟩=>by
  have hm:(AS.mm ⟨x.2.1,cs,gen,0,x.2.2.1.1,x.2.2.1.2,x.2.2.2.1,x.2.2.2.2⟩)=⟨L.map aR.c,cs,gen⟩:=by show Mm.mk ((cO x.2.1).map aR.c) cs gen=_;rw[h1]
  exact⟨(x.1,⟨x.2.1,cs,gen,0,x.2.2.1.1,x.2.2.1.2,x.2.2.2.1,x.2.2.2.2⟩),e1,⟨hm,⟨h2,by rw[hm];exact hmo⟩⟩,hw⟩
set_option maxRecDepth 100000 in
set_option maxHeartbeats 2000000 in
theorem Z5(w:World):Calls prog 56 #[] w λ e w'=>e=.returned (.bool true)/\St w [] [] w':=by
 refine enter func56 ntmps56 rfl rfl (SF.s0 w) ?_;simp only[cC];refine cX ?_;refine J0 ?_;refine aD (Zv (Fc:=λ _=>[]) (hc:=λ w1 hw=>ly w1)) (λ x10 h10=>?_);refine Ka4 ?_;refine aD (cM (hc:=λ w hs=>Ph hs)) (λ x12 h12=>?_);refine aJ (λ x2=>?_);refine J5 ?_;refine K1a ?_;refine aD (Zv (V:=λ q:Nat×AS=>.tuple #[.pointer (some ⟨q.1,0,none⟩),.int .i64 0]) (Hc:=λ q=>[(q.1,fR q.2)]) (Fc:=λ q=>aP q.2.L) (Oc:=λ q=>gD q.2) (hc:=λ w1 hw=>Xl (L:=L4 x12.1 x12.2.1) (cs:=[0,3,4]) (hw.Jw (.inr (.inr (.inr ⟨_,.head _,rfl,rfl⟩))) (.inr (.inr (.inr ⟨_,.tail _ (.head _),rfl,rfl⟩))) (λ f hf=>.inl (Gj f hf)) (Rt x12.1 x12.2.1 0 none 0 none 0).fit) (by show 4<=_;decide) (by decide) (hw.tg .head) (a9 _ _) (Rt x12.1 x12.2.1 0 none 0 none 0).mo)) (λ x18 h18=>?_);have hmm:x18.2.mm=Aq:=h18.1;have hsm:x18.2.mm.Small:=by rw[hmm];exact⟨by decide,by decide⟩
 refine Kb7 ?_;refine tH ?_;refine bD (λ c22=>?_) (λ c22=>?_);·try (contradiction)
 ·try (first|contradiction|(exfalso;omega))
  refine aW ?_;refine J2 ?_;refine aC (o6 rf (λ w=>Cm _ w)) rfl ?_;refine bO ?_;refine aD (cMH (V:=λ x:Nat×Cd×Fr×AS=>.pointer (some ⟨x.1,0,none⟩)) (hs:=[(x18.1,fR x18.2)]) (os:=gD x18.2) (hs':=λ x=>[(x18.1,fR x.2.2.2)]) (Hc:=λ x=>[(x.1,tO x18.1 x.2.1 0)]) (os':=λ x=>gD x.2.2.2) (Oc:=λ _=>[]) (Fc:=λ x=>x.2.2.1) (A0:=aP x18.2.L) (hA:=bG.of λ f hf=>.inr (.inr (.inl (by simp[hf])))) (hc:=λ w1 hw=>by have:=No (Sm (B:=[]) h18.2 hsm (λ f hf=>hf) (λ x hx=>nomatch hx) hw);rw[hmm] at this;exact this)) (λ x26 h26=>?_);refine Kc6 ?_;refine mC ?_;refine aA ?_;(refine Ka3 ?_);((refine aF ?_;refine aD (cM (V:=λ y:Fr×AS=>.int .i64 3) (hs:=[(x26.1,tO x18.1 x26.2.1 0),(x18.1,fR x26.2.2.2)]) (os:=gD x26.2.2.2) (hs':=λ y=>[(x26.1,tO x18.1 (iD (dO false 0)) 3),(x18.1,fR y.2)]) (os':=λ y=>gD y.2) (Fc:=λ y=>y.1) (A0:=aP x26.2.2.2.L++(x26.2.2.1++[])) (hA:=bG.of λ f hf=>(List.mem_append.1 hf).elim (λ h=>(h26.1.2.2.fam f h).imp_right λ h=>.inr (.inl (h.elim (λ h=>List.mem_append_right _ (by simp[h])) λ h=>List.mem_append_left _ h))) λ h=>.inr (.inr (.inl (List.mem_append_left _ (by simpa using h))))) (hc:=λ w1 hw=>X2 Hp aCY.1 aCY.2 ⟨by decide,by decide⟩ h26.1 (λ f hf=>List.mem_append_left _ hf) (λ f hf=>List.mem_append_right _ hf) hw)) (λ x31 h31=>?_)));refine S4 ?_;refine aA ?_;(refine Ka3 ?_);((refine aF ?_;refine aN (cV (hc:=λ w1 hw=>Qb (d:=true) rfl (hw.st.at cY))) (λ x36=>?_)));refine Ov ?_;refine aA ?_;(refine Ka3 ?_);((refine aF ?_;refine aN (cV (hc:=λ w1 hw=>I9 (r:=dO false 0) (d:=true) rfl (if_pos rfl) (hw.st.at cY))) (λ x41=>?_)));((refine aF ?_;refine bN ?_));((refine aF ?_;refine aC (r7 (dO false 0) rf rf (by kernel_rfl)) rfl ?_));refine cH ?_;refine aG ?_;refine bD (λ c44=>?_) (λ c44=>?_);·exact nv c44
  ·try (first|contradiction|(exfalso;omega))
   refine aW ?_;refine Kb5 ?_;refine bN ?_;refine aD (cMH (V:=λ q:Nat×XS×List aR×Bool×Rs=>.pointer (some ⟨q.1,0,none⟩)) (hs:=[(x10.1,mO (L4 x12.1 x12.2.1) [0,3,4] 1 0 x12.2.1.pn x12.2.1.cn x12.2.2.1 x12.2.2.2)]) (os:=mW (L4 x12.1 x12.2.1) [0,3,4] x12.2.1.pn x12.2.1.cn x12.2.2.1 x12.2.2.2) (hs':=λ q=>[(x10.1,xM q.2.1)]) (Hc:=λ q=>[(q.1,xO kA x10.1 q.2.1 q.2.2.2.1 q.2.2.2.2)]) (os':=λ q=>Vu q.2.1) (Oc:=λ q=>exL q.2.1) (Fc:=λ q=>aP q.2.2.1) (A0:=aP (L4 x12.1 x12.2.1)) (hA:=bG.of λ f hf=>.inl (Gj f hf)) (hc:=λ w1 hw=>Pk (k:=kA) (m:=63) (L:=L4 x12.1 x12.2.1) (cs:=[0,3,4]) (gen:=1) (acc:=0) ⟨by show 4<=_;decide,by decide,by decide⟩ (.inr ⟨by decide,by decide⟩) (by decide) rfl (by decide) (bM _) (bM _) (bM _) (λ f hf=>hf) (Rt _ _ _ _ _ _ _) hw)) (λ x48 h48=>?_);refine jG ?_;refine cR ?_;obtain⟨R0,hR0⟩:=pi (x0:=awX x12) rfl (aCC x12) h48;refine nB [49,50,51,52,53] (λ _:RY=>[]) (λ y=>o5 (awX x12) y) (λ y=>[(x48.1,xO kA x10.1 y.x y.dn y.rs),(x2,.cells ⟨[.int .i64 3,.bool false]⟩ 29 (0,0)),(x10.1,xM y.x)]) (λ y=>aP y.N) (λ y=>[⟨y.x.pg,aH y.x.got,y.x.kg,37,1⟩,⟨y.x.pm,aH y.x.made,y.x.km,37,1⟩,⟨y.x.pl,aH y.x.cel,y.x.kl,27,1⟩,⟨y.x.pe,aH y.x.gns,y.x.ke,3,1⟩,⟨y.x.pn,jB y.x.L,y.x.cn,47,14⟩,⟨y.x.pc,aH y.x.cs,y.x.cc,37,1⟩]) (λ y=>8-y.i) (⟨0,x48.2.1,x48.2.2.1,x48.2.2.2.1,x48.2.2.2.2,R0⟩) (hR0) (λ y f hx=>?_) (hw0:=λ w hw=>hw.back (hH:=by exact .cons_cons _ (.cons _ (.cons _ (List.Sublist.refl _)))) (hF:=by exact aZ.iV λ f hf=>List.mem_append_left _ hf) (hO:=by exact .cons_cons _ (.cons_cons _ (.cons_cons _ (.cons_cons _ (.cons _ (.cons _ (List.Sublist.refl _))))))));refine K0a ?_;have hsx:=hx.run.sz;obtain⟨z1,z2,z3⟩:=hsx
   have hi:=hx.i;have hgl:=hx.run.gl;refine kF ?_;refine aD (cM (hs:=xH kA x48.1 x10.1 y.x y.dn y.rs) (os:=xW y.x) (hc:=λ w hs=>Mr hs)) (λ x50 h50=>?_);refine oD ?_;refine bD (λ c51=>?_) (λ c51=>?_)
   ·try (first|contradiction|(exfalso;omega))
    refine aW ?_;refine cR ?_;refine xN ?_;refine aD (cM (hs:=xH kA x48.1 x10.1 y.x y.dn y.rs) (os:=xW y.x) (A0:=aP y.x.L) (hA:=bG.of λ f hf=>by rw[hx.run.ext,cU] at hf;rcases List.mem_append.1 hf with hf|hf;exact .inl (Gj f hf);exact .inr (.inr (.inl hf))) (hc:=λ w hs=>Uf (N:=y.x.got.length+1) (n:=1073741824) (m:=63) (mK kA 63 (by omega)) (by omega) rfl ⟨by omega,by omega,by omega⟩ hx.run.ex (.inr ⟨by decide,by decide⟩) (Nat.le_refl _) (by decide) rfl (by decide) (bM _) (bM _) (bM _) (λ f hf=>hf) hs)) (λ x53 h53=>?_);refine aG ?_;refine eV ?_;have hdf:y.dn=false:=by simp_all
    have hq:tX (T0 kA 63) y.R 1 (y.x.got.length+1) y.rs y.x x53.1 x53.2.1 x53.2.2.1 x53.2.2.2:=by rcases h53 with h|h;rw[hdf] at h;cases h.1;exact h.2
    obtain⟨R1,hR1⟩:=hx.step hdf hq;have hlt:=hx.lt hdf;refine iX (⟨y.i+1,x53.1,y.N++x53.2.1,x53.2.2.1,x53.2.2.2,R1⟩) ?_ (hw1:=E0q);·exact hR1
   ·try (first|contradiction|(exfalso;omega))
    refine bS rfl ?_;refine K1a ?_;refine aD (Zv (V:=λ q:Nat×AS=>.tuple #[.pointer (some ⟨q.1,0,none⟩),.int .i64 0]) (Hc:=λ q=>[(q.1,fR q.2)]) (Fc:=λ q=>aP q.2.L) (Oc:=λ q=>gD q.2) (hc:=λ w1 hw=>Xl (L:=y.x.L) (cs:=y.x.cs) (hw.Jw (.inr (.inr (.inr ⟨_,.tail _ (.tail _ (.tail _ (.tail _ (.head _)))),rfl,rfl⟩))) (.inr (.inr (.inr ⟨_,.tail _ (.tail _ (.tail _ (.tail _ (.tail _ (.head _))))),rfl,rfl⟩))) (λ f hf=>by rw[hx.run.ext,cU] at hf;rcases List.mem_append.1 hf with hf|hf;exact .inl (Gj f hf);exact .inr (.inr (.inl hf))) hx.run.ex.ok.fit) (by omega) (by omega) (hw.tg (.tail (.tail (.tail (.tail .head))))) (hx.proper (by simpa using c51) rfl) hx.run.ex.ok.mo)) (λ x59 h59=>?_);have hmm1:x59.2.mm=Ti:=h59.1.trans (hx.done (by simpa using c51));have hsm1:x59.2.mm.Small:=by rw[hmm1];exact⟨by decide,by decide⟩
    refine Qk ?_;refine J8 ?_;refine J2 ?_;refine aC (o6 rf (λ w=>Cm _ w)) rfl ?_;refine bO ?_;refine aD (cMH (V:=λ x:Nat×Cd×Fr×AS=>.pointer (some ⟨x.1,0,none⟩)) (hs:=[(x59.1,fR x59.2)]) (os:=gD x59.2) (hs':=λ x=>[(x59.1,fR x.2.2.2)]) (Hc:=λ x=>[(x.1,tO x59.1 x.2.1 0)]) (os':=λ x=>gD x.2.2.2) (Oc:=λ _=>[]) (Fc:=λ x=>x.2.2.1) (A0:=aP x59.2.L) (hA:=bG.of λ f hf=>.inr (.inr (.inl (by simp[hf])))) (hc:=λ w1 hw=>by have:=No (Sm (B:=[]) h59.2 hsm1 (λ f hf=>hf) (λ x hx=>nomatch hx) hw);rw[hmm1] at this;exact this)) (λ x65 h65=>?_);refine Ka4 ?_;refine mU ?_;refine aA ?_;(refine Ka3 ?_);((refine aF ?_;refine aD (cM (V:=λ y:Fr×AS=>.int .i64 3) (hs:=[(x65.1,tO x59.1 x65.2.1 0),(x59.1,fR x65.2.2.2)]) (os:=gD x65.2.2.2) (hs':=λ y=>[(x65.1,tO x59.1 (iD (dO true 8)) 3),(x59.1,fR y.2)]) (os':=λ y=>gD y.2) (Fc:=λ y=>y.1) (A0:=aP x65.2.2.2.L++(x65.2.2.1++[])) (hA:=bG.of λ f hf=>(List.mem_append.1 hf).elim (λ h=>(h65.1.2.2.fam f h).imp_right λ h=>.inr (.inl (h.elim (λ h=>List.mem_append_right _ (by simp[h])) λ h=>List.mem_append_left _ h))) λ h=>.inr (.inr (.inl (List.mem_append_left _ (by simpa using h))))) (hc:=λ w1 hw=>X2 Hp aCR.1 aCR.2 ⟨by decide,by decide⟩ h65.1 (λ f hf=>List.mem_append_left _ hf) (λ f hf=>List.mem_append_right _ hf) hw)) (λ x70 h70=>?_)));refine Kb1 ?_;(refine Ka3 ?_);((refine aF ?_;refine aN (cV (hc:=λ w1 hw=>I9 (r:=dO true 8) (d:=true) rfl (if_pos rfl) (hw.st.at cY))) (λ x75=>?_)));((refine aF ?_;refine bN ?_));((refine aF ?_;refine aC (ul (dO true 8) rf rf (by kernel_rfl)) rfl ?_));refine Kb8 ?_;refine aS results56 (λ w hw=>?_);exact⟨rfl,hw.done⟩
end
section
theorem aBC{d lv:Nat}{x:Int}(h1:lv+1=d)(h2:(lv:Int)<=x)(h0:0<=x)(h3:x<=12):decide (((1+2*d:Nat):Int)<=IntKind.i64.wrap (3+IntKind.i64.wrap (2*x)))=true:=by rw[wrap_i64 (i:=2*x) (by omega) (by omega),wrap_i64 (by omega) (by omega)];exact decide_eq_true (by omega)
theorem rh{k:ByteArray}(h:k∈kC):k.size<=64:=by simp only[kC,List.mem_cons,List.not_mem_nil,or_false] at h;rcases h with rfl|rfl|rfl|rfl|rfl|rfl|rfl|rfl<;>decide
structure LkR(ba:Nat)(R:Rs)(M:Mm)(G:Fr)(B:Nat)(z:TY):Prop where
 tk:TK ba (.done R) z.c z.a (z.F++G) 0
 mm:z.a.mm=M
 ak:AK z.a (z.F++G) B
theorem rl{ba bt B:Nat}{k:Cl}{m:Nat}{a:AS}{G A:Fr}{D:List Nat}{w:World}{M:Mm}{d N:Nat}{R:Rs}{y:TY}(hM:a.mm=M)(hr:jC (Ct.eD (T0 k m) M) (1+2*d)=(.done R,M))(hl:(jC (Ct.eD (T0 k m) M) (2*d)).1.live=true)(hN:1+2*d<=N/\N<=200)(hy:xu ba (T0 k m) a G 1000 (B+64) y)(hB:B<=90000000000)
  (hA1:∀f∈aP y.a.L,f∈A) (hA2:∀f∈y.F++G,f∈A) (hs:SF w D [(bt,tO ba y.c 0),(ba,fR y.a)] A [] (gD y.a) w) :
  Calls prog 30 #[.pointer (some ⟨bt,0,none⟩),.int .i64 ((N:Nat):Int)] w λ e w'=>∃z:TY,e=.returned (.int .i64 ((1+2*d:Nat):Int))/\LkR ba R M (y.F++G) (B+64+64*N) z/\SF w D [(bt,tO ba z.c z.n),(ba,fR z.a)] [] z.F (gD z.a) w':=by
 have hyt:TK ba (Ct.eD (T0 k m) a.mm).1 y.c y.a (y.F++G) (1000-N+N):=by rw[show 1000-N+N=1000 by omega];exact hy.tk
 refine(pz (most:=N) (k:=1000-N) hyt hy.ak (by omega) (by omega) hA1 hA2 hs).mono λ e w' ⟨z,e1,hz,hw⟩=>⟨z,?_,?_,hw⟩;·rw[(jn hM hr hl hN.1 hy hz).2.2] at e1;exact e1
 ·obtain⟨h1,h2,_⟩:=jn hM hr hl hN.1 hy hz;exact⟨h1,h2,hz.ak⟩
set_option maxRecDepth 100000 in
set_option maxHeartbeats 4000000 in
theorem Rj{l l2:List Int}{a a2:Option Addr}{c c2:Nat}{w:World}(h1:Go.Ct.Cl w a (aH l))(hl:l.length<=17592186043904)(h2:Go.Ct.Cl w a2 (aH l2))(hl2:l2.length<=17592186043904) :
  Calls prog 15 #[.slice a l.length c,.slice a2 l2.length c2] w λ e w'=>e=.returned (.bool true)/\St w [] [] w':=by
 refine enter func15 ntmps15 rfl rfl (SF.s2 h1 h2) ?_;simp only[cC];refine Kb4 ?_;refine aD (Zv (Hc:=λ q:Nat×Nat×Nat×Wd=>wH q.2.2.1 q.1 q.2.1 q.2.2.2) (H1:=λ q=>(q.1,pI q.2.1 (q.2.2.1:Int) q.2.2.2.pt q.2.2.2.ts.length q.2.2.2.kt q.2.2.2.pe (oR q.2.2.2.ex).length q.2.2.2.ke)::(q.2.1,xM q.2.2.2.z)::Ht q.2.1 q.2.2.2.ex) (Fc:=λ q=>aP q.2.2.2.z.L) (F1:=λ q=>aP q.2.2.2.z.L) (Oc:=λ q=>wO q.2.2.2) (O1:=λ q=>⟨q.2.2.2.pt,vQ q.2.2.2.ts,q.2.2.2.kt,29,2⟩::⟨q.2.2.2.pe,zV (oR q.2.2.2.ex),q.2.2.2.ke,74,1⟩::⟨q.2.2.2.z.pn,jB q.2.2.2.z.L,q.2.2.2.z.cn,47,14⟩::⟨q.2.2.2.z.pc,aH q.2.2.2.z.cs,q.2.2.2.z.cc,37,1⟩::Eg q.2.2.2.ex) (hH1:=λ q=>List.append_nil _) (hF1:=λ q=>List.append_nil _) (hO1:=λ q=>List.append_nil _) (hc:=λ w1 hw=>q9 (hw.cl fin) hl)) (λ x11 h11=>?_);have hm:=h11.1;have hW:=h11.2;have htl:=hW.tl;have ht0:=hW.t0;refine Ka4 ?_;refine aD (cT 0 0 (V:=λ _:XS×List aR=>.tuple #[]) (hs:=wH x11.2.2.1 x11.1 x11.2.1 x11.2.2.2) (os:=wO x11.2.2.2) (A0:=aP x11.2.2.2.z.L) (H1:=λ r:XS×List aR=>[(x11.1,pI x11.2.1 (x11.2.2.1:Int) x11.2.2.2.pt x11.2.2.2.ts.length x11.2.2.2.kt none 0 0),(x11.2.1,xM r.1)]) (O1:=λ r=>[⟨x11.2.2.2.pt,vQ x11.2.2.2.ts,x11.2.2.2.kt,29,2⟩,⟨none,zV [],0,74,1⟩,⟨r.1.pn,jB r.1.L,r.1.cn,47,14⟩,⟨r.1.pc,aH r.1.cs,r.1.cc,37,1⟩]) (F1:=λ r=>aP r.1.L) (hc:=λ w hs=>pq (by decide) (by decide) (by decide) hm hW (λ f hf=>hf) hs) (hA:=E1b) (hF1:=λ r hr f hf=>by rw[hr.2,cU] at hf;exact .inr ((List.mem_append.1 hf).elim (λ h=>List.mem_append_right _ h) (λ h=>List.mem_append_left _ h)))) (λ x13 h13=>?_);have hZ:E5 x11.2.2.1 2434356874 1192612 0 (zW x11.2.2.2 x13.1):=h13.1;have s1:x13.1.L.length<=2434356874:=hZ.sz.1;have s2:x13.1.cs.length<=2434356874:=hZ.sz.2.1;obtain⟨σ,hq⟩:=WR.rest (show WR (H8 x11.2.2.1) x11.2.2.1 x13.1.mm x11.2.2.2.ts [] from hZ.wr)
 refine aG ?_;refine mY ?_;refine aD (cMH (V:=λ q:Nat×AS=>.pointer (some ⟨q.1,0,none⟩)) (hs:=[(x11.2.1,xM x13.1)]) (os:=Vu x13.1) (hs':=λ _=>[(x11.2.1,xM x13.1.a0)]) (Hc:=λ q=>[(q.1,fR q.2)]) (os':=λ _=>Vu x13.1) (Oc:=λ q=>gD q.2) (Fc:=λ q=>aP q.2.L) (A0:=aP x13.1.L) (hA:=E1b) (hc:=λ w1 hw=>Zn hZ.z (qA hZ) (by omega) (by omega) (λ f hf=>hf) hw)) (λ x18 h18=>?_);obtain⟨hmm0,hok0⟩:=h18;have hln:x13.1.mm.nodes.length=x13.1.L.length:=by show(x13.1.L.map aR.c).length=_;rw[List.length_map]
 have hl0:x18.2.mm.nodes.length=x13.1.L.length:=by rw[hmm0];exact hln
 have hc0:x18.2.mm.cs.length=x13.1.cs.length:=by rw[hmm0];rfl
 have hgn:x18.2.gen=x13.1.gen:=congrArg Mm.gen hmm0;have hak0:AK x18.2 (aP x18.2.L++aP x13.1.L) 2434356874:=⟨hok0,by omega,by omega,λ f hf=>.inr (List.mem_append_left _ hf)⟩;refine Kc6 ?_;refine tH ?_;refine bD (λ c20=>?_) (λ c20=>?_)
 ·try (contradiction)
 ·try (first|contradiction|(exfalso;omega))
  refine Ar ?_;refine aD (Zv (Fc:=λ _=>[]) (Oc:=λ _=>[]) (hc:=λ w1 hw=>zb)) (λ x23 h23=>?_);refine aD (cM (hs:=[(x23,S3 a2 l2 c2 0),(x11.1,pI x11.2.1 (x11.2.2.1:Int) x11.2.2.2.pt x11.2.2.2.ts.length x11.2.2.2.kt none 0 0)]) (os:=[⟨x11.2.2.2.pt,vQ x11.2.2.2.ts,x11.2.2.2.kt,29,2⟩]) (A0:=[(a2,aH l2)]) (hA:=bG.cons (.inr (.inl (.tail _ (.head _)))) bG.nil) (hc:=λ w hs=>Yd 7 (by decide) hl2 ht0 (by omega) hW.tr hs)) (λ x24 h24=>?_);have hrt:=hZ.root (by decide) h24.mem;have hks:=O5 h24.ky;obtain⟨fo,fv,d,hr1,hr2,hd1,hd2,r,hro,_,hpl⟩:=jq hq (k:=(qK x24 (x11.2.2.1:Int) x24.key)) h24.mem rfl (rh h24.ky)
  obtain⟨r',q,hro',hpq,_,_⟩:=Q1 hZ h24.mem;have er:r'=r:=Option.some.inj (hro'.symm.trans hro);obtain⟨p,hp1,hp2⟩:=hpl q (er▸hpq);refine aJ (λ x7=>?_);refine J5 ?_;refine J2 ?_;refine aC (o6 rf (λ w=>Cm _ w)) rfl ?_;refine aE ?_;refine aC (aU (k:=2) rf cY eE E1a rfl) rfl ?_;refine J3 ?_;refine J3 ?_;refine aD (cMH (V:=λ x:Nat×TY=>.pointer (some ⟨x.1,0,none⟩)) (hs:=[(x18.1,fR x18.2)]) (os:=gD x18.2) (hs':=λ x=>[(x18.1,fR x.2.a)]) (Hc:=λ x=>[(x.1,tO x18.1 x.2.c 0)]) (os':=λ x=>gD x.2.a) (Oc:=λ _=>[]) (Fc:=λ x=>x.2.F) (A0:=aP x18.2.L) (hA:=hak0.aEf) (hc:=λ w1 hw=>jk (k:=(qK x24 (x11.2.2.1:Int) x24.key)) (m:=x11.2.2.1) rfl hrt hm hks hak0 (by omega) (λ f hf=>hf) hw)) (λ x33 h33=>?_);refine Kc6 ?_;refine tH ?_;refine bD (λ c35=>?_) (λ c35=>?_);·try (contradiction)
  ·try (first|contradiction|(exfalso;omega))
   refine aW ?_;refine J2 ?_;refine aD (cM (V:=λ _:TY=>.int .i64 ((1+2*d:Nat):Int)) (hs:=[(x33.1,tO x18.1 x33.2.c 0),(x18.1,fR x33.2.a)]) (os:=gD x33.2.a) (hs':=λ u=>[(x33.1,tO x18.1 u.c u.n),(x18.1,fR u.a)]) (os':=λ u=>gD u.a) (Fc:=λ u=>u.F) (A0:=aP x33.2.a.L++(x33.2.F++(aP x18.2.L++aP x13.1.L))) (hA:=h33.ak.all) (hc:=λ w1 hw=>rl (N:=100) hmm0 hr1 hr2 ⟨by omega,by decide⟩ h33 (by decide) (λ f hf=>List.mem_append_left _ hf) (λ f hf=>List.mem_append_right _ hf) hw)) (λ x37 h37=>?_);refine jG ?_;refine gO [0,1,2,3,4,5,6,7,8,9,10,11,12,13,14,15,16,17,18,19,20,21,22,23,24,25,26,27,28,29,30,31,32,33,34] ?_;refine dD (i:=0) (hq:=(cV (hc:=λ w1 hw=>Z5 w1))) (h:=λ x38=>?_);refine aT ?_;(refine aT ?_);((refine dD (i:=3) (hq:=(cV (hc:=λ w1 hw=>Qb (d:=true) h37.tk.done.1 (hw.st.at cY)))) (h:=λ x41=>?_)));refine jY ?_;refine aT ?_;(refine aT ?_);((refine cW (i:=7) (hq:=(cp (a:=1+2*d) (b:=2) rf rf (by decide))) (h:=?_)));refine J56 ?_;refine aT ?_;(refine qj 48 (λ g48=>?_) (λ g48=>?_)<;>(try ((exfalso;omega)))<;>((refine aT ?_)));((refine zm ?_));refine jY ?_;refine aT ?_;(refine qj 52 (λ g52=>?_) (λ g52=>?_)<;>(try ((exfalso;omega)))<;>((refine aT ?_)));((refine aAj ?_));refine jY ?_;refine aT ?_;(refine qj 56 (λ g56=>?_) (λ g56=>?_)<;>(try ((exfalso;omega)))<;>((refine aT ?_)));((refine aT ?_));refine J30 ?_;((refine tN ?_));((refine aX ?_));((refine bU (i:=26) (hq:=(aU (k:=3) rf cY eE (by simp only[List.drop_zero,List.take_succ_cons,List.take_zero];exact rfl) rfl)) (h:=?_)));((refine aX ?_));((refine bU (i:=28) (hq:=(aU (k:=2) rf cY eE E1a rfl)) (h:=?_)));((refine bK (i:=29) (hq:=(c0 (V:=λ e:Int=>.int .i64 e) (hc:=λ w1 hw=>im (B:=8) (qA hZ) (hw.Jw (by exact .inr (.inr (.inr ⟨_,.tail _ (.tail _ (.tail _ (.tail _ (.head _)))),rfl,rfl⟩))) (by exact .inr (.inr (.inr ⟨_,.tail _ (.tail _ (.tail _ (.tail _ (.tail _ (.head _))))),rfl,rfl⟩))) (λ f hf=>.inr (.inr (.inl (List.mem_append_right _ (List.mem_append_right _ (List.mem_append_right _ hf)))))) hZ.z.fit) (xa hZ.z) (by show x13.1.L.length<=_;omega) (by show x13.1.cs.length<=_;omega) (bk hZ) (by show(x13.1.L.length+1)*(8+64)<=_;omega) _ _ hrt hro' hpq))) (h:=λ x67 h67=>?_)));((refine aDG ?_));((refine aCU ?_));((refine aAj ?_));refine jY ?_;refine J7 ?_;refine aS results15 (λ w hw=>?_);first
   | exact⟨rfl,hw.done⟩
   | exact⟨by rw[aBC hp2 (h67.2.2 p hp1) h67.1 h67.2.1];rfl,hw.done⟩
   | (exfalso;simp_all;done)
   | (exfalso;omega)
end
end Go.Proofs.YtbajmaoegmbfgaaGreat

/- Tasks of the program side by side with executions of the reference: the state; one of the two makes a step. -/
import Derived.Test.YtbajmaoegmbfgaaGreatGTp2
import Derived.Test.YtbajmaoegmbfgaaGreatGTt3
import Derived.Test.YtbajmaoegmbfgaaGreatGWr1
import Derived.Test.YtbajmaoegmbfgaaGreatGDfr
import Derived.Test.YtbajmaoegmbfgaaGreatGJoin

set_option linter.unusedSimpArgs false
set_option linter.unusedVariables false
namespace Go.Ct
section
open Go Go.RowKit
section
variable{α:Type}
theorem xh(x y t:α)(t1 t2 e:List α):(x::y::((t1++t::t2)++e)).Perm ([t,x]++(y::((t1++t2)++e))):=by
 have h1:((t1++t::t2)++e).Perm (t::((t1++t2)++e)):=(List.perm_middle (a:=t) (l₁:=t1) (l₂:=t2)).append_right e
 refine((h1.cons y).cons x).trans ?_
 exact((List.Perm.swap t y _).cons x).trans (List.Perm.swap t x _)
theorem yv(x y e:α)(t e1 e2:List α):(x::y::(t++(e1++e::e2))).Perm ([e,y]++(x::(t++(e1++e2)))):=by
 have h1:(t++(e1++e::e2)).Perm (e::(t++(e1++e2))):=((List.perm_middle (a:=e) (l₁:=e1) (l₂:=e2)).append_left t).trans List.perm_middle
 refine((h1.cons y).cons x).trans ?_
 refine((List.Perm.swap e y _).cons x).trans ?_
 refine(List.Perm.swap e x _).trans ?_
 exact(List.Perm.swap y x _).cons e
theorem xy(a b c d:α)(m1 m m2:List α):(a::b::c::d::(m1++(m++m2))).Perm ((m++[c,d])++(a::b::(m1++m2))):=by
 have h1:(m1++(m++m2)).Perm (m++(m1++m2)):=by
  rw[<- List.append_assoc,<- List.append_assoc]
  exact List.perm_append_comm.append_right m2
 refine((((h1.cons d).cons c).cons b).cons a).trans ?_
 have h2:([a,b]++[c,d]++m++(m1++m2)).Perm (m++[c,d]++[a,b]++(m1++m2)):=by
  refine List.Perm.append_right _ ?_
  refine List.perm_append_comm.trans ?_
  rw[List.append_assoc]
  exact List.Perm.append_left m List.perm_append_comm
 simpa using h2
end
inductive Ya:Nat->Mm×List (Tr×Nat)->Mm×List (Tr×Nat)->Prop where
 | refl (p):Ya 0 p p
 | step {i p s l1 l2 R n}:Ya i p (s,l1++(R,n)::l2)->R.live=true->Ya (i+1) p ((Bn (R,s)).2,l1++((Bn (R,s)).1,n+1)::l2)
end
end Go.Ct
namespace Go.Proofs.YtbajmaoegmbfgaaGreat
section
open Go Go.RowKit Go.Ct
theorem fl{t t':Tr}{s s':Mm}{j:Nat}(h:Rc j t s t' s')(hj:j=0)(ht:eH t=true):t'=t/\s'=s:=by
 induction h with
 | refl t s=>exact⟨rfl,rfl⟩
 | iO _ hs ih =>
  obtain⟨e1,e2⟩:=ih hj ht
  subst e1
  cases hs<;>cases ht
 | loud _ _ _=>cases hj
structure PX where
 e:EX
 m:Nat
 tb:Nat
 c:Cd
 n:Nat
structure LS where
 a:AS
 z:XS
 l:List PX
 B:Fr
def n9(b:Nat)(l:List PX):List (Nat×Obj):=l.map λ p=>(p.tb,tO b p.c p.n)
abbrev rG(ba bm:Nat)(S:LS):List (Nat×Obj):=(ba,fH S.a)::(bm,xM S.z)::(n9 ba S.l++qM bm (S.l.map PX.e))
abbrev tW(S:LS):List Ow:=⟨S.a.pn,hU S.a.L,S.a.cn,47,14⟩::⟨S.a.pc,aG S.a.cs,S.a.cc,37,1⟩::⟨S.z.pn,hU S.z.L,S.z.cn,47,14⟩::⟨S.z.pc,aG S.z.cs,S.z.cc,37,1⟩::oU (S.l.map PX.e)
structure Uw(C:Nat)(z:XS)(p:PX):Prop where
 i:nq (T0 p.e.k p.m) (XS.wm p.e.x z) p.e.dn p.e.rs p.e.R
 kk:Yo p.e.k
 m:p.m<18446744073709551616
 em:p.e.k.mask=(p.m:Int)
 ht:p.e.k.t.root<=9223372036854775807
 ha:p.e.k.a<=z.L.length
 hb:p.e.k.b<=z.L.length
 hn:p.e.k.n<=z.L.length
 gl:p.e.x.got.length=p.n
 gc:p.n<=C
theorem Uw.wm{C:Nat}{z z':XS}{p:PX}{N:List aP}(h:Uw C z p)(h':z'.Ok)(he:z'.L=z.L++N):Uw C z' p :=
 have hl:z.L.length<=z'.L.length:=by rw[he,List.length_append];omega
 ⟨ly h.i h' he,h.kk,h.m,h.em,h.ht,by have:=h.ha;omega,by have:=h.hb;omega,by have:=h.hn;omega,h.gl,h.gc⟩
theorem Uw.mono{C C':Nat}{z:XS}{p:PX}(h:Uw C z p)(hc:C<=C'):Uw C' z p:=⟨h.i,h.kk,h.m,h.em,h.ht,h.ha,h.hb,h.hn,h.gl,Nat.le_trans h.gc hc⟩
structure Bo(ba Bz C:Nat)(S:LS):Prop where
 z:S.z.Ok
 a:S.a.Ok
 mm:S.a.mm=S.z.mm
 sz:Sz S.z Bz
 p:∀p∈S.l,Uw C S.z p
 rp:∀p∈S.l,kZ ba p.e.R S.z.mm p.c S.z.mm S.B
theorem Uw.rest{C:Nat}{z:XS}{p:PX}(h:Uw C z p):eH p.e.R=true:=uZ h.i
theorem Uw.rP{C:Nat}{z:XS}{p:PX}(h:Uw C z p)(hC:C<1000000000):bR p.e.R 2 64:=by
 obtain⟨c,h1,h2,_⟩:=h.i.wk.rP (n:=p.n+2) (Nat.le_refl 64) (jY _ _ (by have:=h.gc;omega)) (by show p.e.x.got.length<=_;rw[h.gl];omega)
 have hl:p.n+2-(XS.wm p.e.x z).got.length=2:=by show p.n+2-p.e.x.got.length=2;rw[h.gl];omega
 rw[hl] at h1
 rcases h.i.Tn with⟨_,e⟩|⟨_,e⟩
 ·rw[e];trivial
 ·exact Fw e h1 (by decide)
theorem Uw.live{C:Nat}{z:XS}{p:PX}(h:Uw C z p):p.e.R.live=!p.e.dn:=by
 rcases h.i.Tn with⟨e1,e⟩|⟨e1,e⟩
 ·rw[e,e1];rfl
 ·rw[e1]
  cases hR:p.e.R with
  | done r=>rw[hR] at e;simp[Tr.acc] at e
  | _=>rfl
theorem Mq(b:Nat)(l1 l2:List PX)(p:PX):n9 b (l1++p::l2)=n9 b l1++(p.tb,tO b p.c p.n)::n9 b l2:=by simp[n9]
theorem jg(bm:Nat)(l1 l2:List PX)(p:PX):qM bm ((l1++p::l2).map PX.e)=qM bm (l1.map PX.e)++(p.e.b,xO p.e.k bm p.e.x p.e.dn p.e.rs)::qM bm (l2.map PX.e):=by simp[qM]
theorem zn(l1 l2:List PX)(p:PX):oU ((l1++p::l2).map PX.e)=oU (l1.map PX.e)++(oU [p.e]++oU (l2.map PX.e)):=by simp[oU]
section
variable{ba bm:Nat}
theorem v7(a:AS)(z:XS)(B:Fr)(l1 l2:List PX)(p:PX):(rG ba bm ⟨a,z,l1++p::l2,B⟩).Perm ([(p.tb,tO ba p.c p.n),(ba,fH a)]++((bm,xM z)::((n9 ba l1++n9 ba l2)++qM bm ((l1++p::l2).map PX.e)))):=by
 dsimp only[rG]
 rw[Mq]
 exact xh _ _ _ _ _ _
theorem mz(a:AS)(z:XS)(B:Fr)(l1 l2:List PX)(p:PX):(rG ba bm ⟨a,z,l1++p::l2,B⟩).Perm (xH p.e.k p.e.b bm (XS.wm p.e.x z) p.e.dn p.e.rs++((ba,fH a)::(n9 ba (l1++p::l2)++(qM bm (l1.map PX.e)++qM bm (l2.map PX.e))))):=by
 dsimp only[rG]
 rw[jg]
 exact yv _ _ _ _ _ _
theorem W2(a:AS)(z:XS)(B:Fr)(l1 l2:List PX)(p:PX):(tW ⟨a,z,l1++p::l2,B⟩).Perm (xW (XS.wm p.e.x z)++(⟨a.pn,hU a.L,a.cn,47,14⟩::⟨a.pc,aG a.cs,a.cc,37,1⟩::(oU (l1.map PX.e)++oU (l2.map PX.e)))):=by
 dsimp only[tW]
 rw[zn]
 exact xy _ _ _ _ _ _ _
end
section
variable{ba bm Bz C:Nat}{D:List Nat}{A:Fr}{w:World}{a:AS}{z:XS}{l1 l2:List PX}{p:PX}{B:Fr}
theorem aBu(hS:Bo ba Bz C ⟨a,z,l1++p::l2,B⟩)(hd:p.e.dn=false)(hB:Bz<=100000000000)(hC:C<900000000)(hA1:∀f∈aK a.L,f∈A)(hA2:∀f∈B,f∈A)(hs:SF w D (rG ba bm ⟨a,z,l1++p::l2,B⟩) A [] (tW ⟨a,z,l1++p::l2,B⟩) w) :
  Calls Tryz.prog 37 #[.pointer (some ⟨p.tb,0,none⟩)] w λ e w'=>∃y:Cd×Fr×AS,e=.returned (.tuple #[])/\mS ba (Bn (p.e.R,z.mm)) a B y/\SF w D (rG ba bm ⟨y.2.2,z,l1++{p with c:=y.1,n:=p.n+1}::l2,B⟩) [] y.2.1 (tW ⟨y.2.2,z,l1++{p with c:=y.1,n:=p.n+1}::l2,B⟩) w':=by
 have hp:p∈l1++p::l2:=List.mem_append_right _ (List.mem_cons_self ..)
 have hpk:=hS.p p hp
 have hmm:a.mm=z.mm:=hS.mm
 have hrp:kZ ba p.e.R a.mm p.c a.mm B:=by rw[hmm];exact hS.rp p hp
 have hsm:a.mm.Small:=by
  rw[hmm]
  have h:=hS.sz
  have h1:z.L.length<=Bz:=h.1
  have h2:z.cs.length<=Bz:=h.2.1
  refine⟨?_,?_⟩
  ·show(z.L.map aP.c).length<=_
   rw[List.length_map]
   omega
  ·show z.cs.length<=_
   omega
 have key:=sK (P:=Tryz.prog) (f:=37) (vs := #[.pointer (some ⟨p.tb,0,none⟩)]) (hs:=[(p.tb,tO ba p.c p.n),(ba,fH a)]) (os:=fM a) (A0:=aK a.L++B) (V:=λ _:Cd×Fr×AS=>.tuple #[]) (hs':=λ y=>[(p.tb,tO ba y.1 (p.n+1)),(ba,fH y.2.2)]) (os':=λ y=>fM y.2.2) (Fc:=λ y=>y.2.1) hs (v7 a z B l1 l2 p) (List.Perm.refl _) (aW.of λ f hf=>.inr (.inl ((List.mem_append.1 hf).elim (hA1 f) (hA2 f))))
  (λ h=>La (i:=1) (m:=64) (hpk.rP (by omega)) hpk.rest (by rw[hpk.live,hd];rfl) hrp hS.a hsm (by have:=hpk.gc;omega) (λ f hf=>List.mem_append_left _ hf) (λ f hf=>List.mem_append_right _ hf) h)
 refine key.mono λ e w' ⟨y,e1,hy,hw⟩=>⟨y,e1,by rw[<- hmm];exact hy.1,?_⟩
 rw[List.append_nil] at hw
 have e:((l1++{p with c:=y.1,n:=p.n+1}::l2).map PX.e)=(l1++p::l2).map PX.e:=by simp
 refine hw.nu.perm ?_ ?_
 ·have pH:=v7 (ba:=ba) (bm:=bm) y.2.2 z B l1 l2 {p with c:=y.1,n:=p.n+1}
  rw[e] at pH
  exact pH
 ·show List.Perm (_::_::_::_::oU ((l1++{p with c:=y.1,n:=p.n+1}::l2).map PX.e)) _
  rw[e]
  exact List.Perm.refl _
theorem aAU{c':Cd}{F':Fr}{a':AS}(hS:Bo ba Bz C ⟨a,z,l1++p::l2,B⟩)(hd:p.e.dn=false)(hB:Bz<=100000000000)(hC:C<900000000)(hy:mS ba (Bn (p.e.R,z.mm)) a B (c',F',a'))(hA:∀f∈aK z.L,f∈A)(hs:SF w D (rG ba bm ⟨a',z,l1++{p with c:=c',n:=p.n+1}::l2,B⟩) A [] (tW ⟨a',z,l1++{p with c:=c',n:=p.n+1}::l2,B⟩) w) :
  Calls Tryz.prog 68 #[.pointer (some ⟨p.e.b,0,none⟩)] w λ e w'=>∃q:LS×List aP,e=.returned (.tuple #[])/\(Bo ba (Bz+128) (C+1) q.1/\q.1.a=a'/\q.1.B=F'++B/\q.1.z.L=z.L++q.2/\(∃p',q.1.l=l1++p'::l2/\p'.e.b=p.e.b/\p'.tb=p.tb/\p'.n=p.n+1/\p'.e.R=(Bn (p.e.R,z.mm)).1/\p'.e.k=p.e.k/\p'.m=p.m)/\q.1.z.mm=(Bn (p.e.R,z.mm)).2)/\SF w D (rG ba bm q.1) [] (aK q.2) (tW q.1) w':=by
 have hp:p∈l1++p::l2:=List.mem_append_right _ (List.mem_cons_self ..)
 have hpk:=hS.p p hp
 obtain⟨s1,s2,s3⟩:=hS.sz
 simp only at s1 s2 s3
 have hgl:=hpk.gl
 have hgc:=hpk.gc
 have key:=sK (P:=Tryz.prog) (f:=68) (vs := #[.pointer (some ⟨p.e.b,0,none⟩)]) (hs:=xH p.e.k p.e.b bm (XS.wm p.e.x z) p.e.dn p.e.rs) (os:=xW (XS.wm p.e.x z)) (A0:=aK z.L) hs (mz a' z B l1 l2 {p with c:=c',n:=p.n+1}) (W2 a' z B l1 l2 {p with c:=c',n:=p.n+1}) (aW.of λ f hf=>.inr (.inl (hA f hf)))
  (λ h=>Uc (x:=XS.wm p.e.x z) (N:=p.e.x.got.length+1) (n:=1073741824) (m:=p.m) (jY p.e.k p.m (by omega)) (by omega) rfl ⟨by show z.L.length<=_;omega,by show z.cs.length<=_;omega,by show z.gen<=_;omega⟩ hpk.i hpk.kk (Nat.le_refl _) hpk.m hpk.em hpk.ht hpk.ha hpk.hb hpk.hn (λ f hf=>hf) h)
 refine key.mono λ en w' ⟨⟨x',N,dn',rs'⟩,e1,hq,hw⟩=>?_
 rw[List.append_nil] at hw
 rcases hq with⟨hd',_⟩|⟨_,hq⟩
 ·rw[hd] at hd';cases hd'
 ·obtain⟨R1,j1,g1,g2,g3,g4,g5,g6,g7⟩:=tS.exN hq
  replace g4:Rc j1 p.e.R z.mm R1 x'.mm:=g4
  have h5:x'.L=z.L++N:=g5
  have hpl:p.e.R.live=true:=by rw[hpk.live,hd];rfl
  have hj1:j1=1:=by
   rcases Nat.lt_or_ge j1 1 with h|h
   ·exfalso
    have e0:j1=0:=by omega
    obtain⟨e2,_⟩:=fl g4 e0 hpk.rest
    rcases g3.Tn with⟨_,e3⟩|⟨e3,_⟩
    ·rw[<- e2,e3] at hpl;cases hpl
    ·have:=g2 e3;omega
   ·omega
  subst hj1
  have est:Bn (p.e.R,z.mm)=(R1,x'.mm):=xg g4 hpk.rest (uZ g3)
  have hgot:x'.got.length=p.n+1:=by have:x'.got.length+1=p.e.x.got.length+1+1:=g7;omega
  have hsz':Sz x' (Bz+128):=Cc hpk.i hd (jY p.e.k p.m (n:=p.e.x.got.length+1) (by omega)) (Nat.le_refl _) g4 g1 hS.sz
  have hlen:z.L.length<=x'.L.length:=by rw[h5,List.length_append];omega
  have hle:z.mm.Le x'.mm:=⟨⟨N.map aP.c,by show x'.L.map aP.c=_;rw[h5,List.map_append];rfl⟩,g6⟩
  obtain⟨⟨y1,y2⟩,y3,y4⟩:=hy
  rw[est] at y1 y2
  have hr:∀q∈l1++p::l2,kZ ba q.e.R x'.mm q.c x'.mm (F'++B):=λ q hq=>((hS.rp q hq).le (hS.p q hq).rest hle).more λ x hx=>List.mem_append_right _ hx
  have hpo:∀q∈l1++p::l2,Uw (C+1) x' q:=λ q hq=>((hS.p q hq).wm g3.ok h5).mono (Nat.le_succ _)
  refine⟨(⟨a',x',l1++⟨⟨p.e.b,p.e.k,x',dn',rs',R1⟩,p.m,p.tb,c',p.n+1⟩::l2,F'++B⟩,N),e1,⟨⟨g3.ok,y3,y2,hsz',λ q hq=>?_,λ q hq=>?_⟩,rfl,rfl,h5,⟨_,rfl,rfl,rfl,rfl,by rw[est],rfl,rfl⟩,by rw[est]⟩,?_⟩
  ·rcases List.mem_append.1 hq with hq|hq
   ·exact hpo q (List.mem_append_left _ hq)
   ·rcases List.mem_cons.1 hq with rfl|hq
    ·exact⟨g3,hpk.kk,hpk.m,hpk.em,hpk.ht,by have:=hpk.ha;simp only at this ⊢;omega,by have:=hpk.hb;simp only at this ⊢;omega,by have:=hpk.hn;simp only at this ⊢;omega,hgot,by show p.n+1<=C+1;omega⟩
    ·exact hpo q (List.mem_append_right _ (List.mem_cons_of_mem _ hq))
  ·rcases List.mem_append.1 hq with hq|hq
   ·exact hr q (List.mem_append_left _ hq)
   ·rcases List.mem_cons.1 hq with rfl|hq
    ·exact y1
    ·exact hr q (List.mem_append_right _ (List.mem_cons_of_mem _ hq))
  ·have pH:=mz (ba:=ba) (bm:=bm) a' x' (F'++B) l1 l2 ⟨⟨p.e.b,p.e.k,x',dn',rs',R1⟩,p.m,p.tb,c',p.n+1⟩
   have pO:=W2 a' x' (F'++B) l1 l2 ⟨⟨p.e.b,p.e.k,x',dn',rs',R1⟩,p.m,p.tb,c',p.n+1⟩
   refine hw.nu.perm (pH.trans ?_) (pO.trans ?_)
   ·refine List.Perm.of_eq ?_
    rw[Mq,Mq]
    rfl
   ·exact List.Perm.refl _
end
end

/- Structs of numbers, bools and strings are compared. -/
end Go.Proofs.YtbajmaoegmbfgaaGreat
namespace Go.Ct
section
open Go Go.RowKit
section
variable{P:Program}{w:World}
def vx(P:Program)(t:TypeId):Nat->Bool
 | 0=>match P.underlying t with|some (.int _)=>true|_=>false
 | 1=>match P.underlying t with|some .bool=>true|_=>false
 | _=>match P.underlying t with|some .string=>true|_=>false
inductive ns:Nat->Value->Value->Bool->Prop where
 | int (k:IntKind) (a b:Int):ns 0 (.int k a) (.int k b) (a==b)
 | bool (a b:Bool):ns 1 (.bool a) (.bool b) (a==b)
 | str (a b:ByteArray):ns 2 (.string a) (.string b) (decide (a=b))
theorem ns.run{t:TypeId}{k:Nat}{u v:Value}{r:Bool}(h:ns k u v r)(ht:vx P t k=true)(d:Nat):(Op.equalIn (d+1) t u v).run P w=.ok r w:=by
 cases h with
 | int k a b =>
  cases hu:P.underlying t with
  | none=>simp[vx,hu] at ht
  | some z =>
   cases z<;>simp[vx,hu] at ht
   exact run_equalIn_int w d t k _ a b hu
 | bool a b =>
  cases hu:P.underlying t with
  | none=>simp[vx,hu] at ht
  | some z =>
   cases z<;>simp[vx,hu] at ht
   exact run_equalIn_bool w d t a b hu
 | str a b =>
  cases hu:P.underlying t with
  | none=>simp[vx,hu] at ht
  | some z =>
   cases z<;>simp[vx,hu] at ht
   rw[<- Gw]
   exact run_equalIn_string w d t a b hu
def fOk(P:Program)(f:Field)(o k:Nat):Bool:=f.name != "_" && Nat.beq f.offset o&&one P f.type&&vx P f.type k
theorem U6{f:Field}{fs:List Field}{o k:Nat}{u v:Value}{r:Bool}{xs ys:Array Value}{d:Nat}(hf:fOk P f o k=true)(hx:xs[o]?=some u)(hy:ys[o]?=some v)(h:ns k u v r) :
  (Op.eqFields (d+1) xs ys (f::fs)).run P w=if r=true then(Op.eqFields (d+1) xs ys fs).run P w else .ok false w:=by
 simp only[fOk,Bool.and_eq_true,bne_iff_ne,ne_eq] at hf
 obtain⟨⟨⟨h1,h2⟩,h3⟩,h4⟩:=hf
 replace h2:=eR h2
 subst h2
 have p1:(part f.type xs f.offset).run P w=.ok u w:=mI h3 hx w
 have p2:(part f.type ys f.offset).run P w=.ok v w:=mI h3 hy w
 simp only[Op.eqFields,h1,ne_eq,not_false_eq_true,if_true,Sem.run_bind,p1,p2,h.run h4 d,Result.andThen_ok,Sem.run_ite,Sem.run_pure]
 cases r<;>simp
theorem rz{xs ys:Array Value}{d:Nat}:(Op.eqFields d xs ys []).run P w=.ok true w:=by simp[Op.eqFields]
def Zl(P:Program)(t:TypeId):List Nat->Nat->List Field->Bool
 | [],_,fs=>fs.isEmpty
 | k::ks,o,f::fs=>fOk P f o k&&Zl P t ks (o+1) fs
 | _::_,_,[]=>false
inductive Ci:List Nat->List Value->List Value->Bool->Prop where
 | nil:Ci [] [] [] true
 | cons {k:Nat} {ks:List Nat} {u v:Value} {us vs:List Value} {r r2:Bool} (h:ns k u v r) (hs:Ci ks us vs r2):Ci (k::ks) (u::us) (v::vs) (r&&r2)
theorem W1{t:TypeId}{d:Nat}:∀{ks:List Nat} {us vs:List Value} {r:Bool} {fs:List Field} {o:Nat} {xs ys:List Value},Ci ks us vs r->Zl P t ks o fs=true->xs.drop o=us->ys.drop o=vs ->
  (Op.eqFields (d+1) ⟨xs⟩ ⟨ys⟩ fs).run P w=.ok r w
 | [],_,_,_,fs,_,_,_,h,hs,_,_=>by
  cases h
  cases fs with
  | nil=>exact rz
  | cons f fs=>simp[Zl] at hs
 | k::ks,_,_,_,fs,o,xs,ys,h,hs,hx,hy=>by
  cases h with
  | @cons _ _ u v us vs r r2 h h2 =>
   cases fs with
   | nil=>simp[Zl] at hs
   | cons f fs =>
    simp only[Zl,Bool.and_eq_true] at hs
    have ex:xs[o]?=some u:=by rw[<- List.head?_drop,hx];rfl
    have ey:ys[o]?=some v:=by rw[<- List.head?_drop,hy];rfl
    have hx2:xs.drop (o+1)=us:=by rw[<- List.drop_drop,hx];rfl
    have hy2:ys.drop (o+1)=vs:=by rw[<- List.drop_drop,hy];rfl
    rw[U6 hs.1 (by simpa using ex) (by simpa using ey) h,W1 h2 hs.2 hx2 hy2]
    cases r<;>simp
def Es(P:Program)(t:TypeId)(ks:List Nat):Bool :=
 (match P.underlying t with
 | some (.struct fs)=>Zl P t ks 0 fs.toList
 | _=>false)&&!P.stoodInHeld t&&!P.eqGuardType P.depth t
theorem Df{t:TypeId}{ks:List Nat}{us vs:List Value}{r:Bool}(h:Es P t ks=true)(hv:Ci ks us vs r)(d:Nat) :
  (Op.equalIn (d+2) t (.agg ⟨us⟩) (.agg ⟨vs⟩)).run P w=.ok r w/\P.eqGuardType P.depth t=false:=by
 unfold Es at h
 cases hu:P.underlying t with
 | none=>simp[hu] at h
 | some dd =>
  rw[hu] at h
  cases dd<;>simp only[Bool.false_and,Bool.false_eq_true] at h
  rename_i fs
  have hf:P.fieldsOf t=fs:=by simp[Program.fieldsOf,hu]
  simp only[Bool.and_eq_true,Bool.not_eq_true'] at h
  refine⟨?_,h.2⟩
  rw[run_equalIn_struct w (d+1) t _ _ (by rw[hf];exact hu) h.1.2,hf]
  exact W1 (o:=0) hv h.1.1 rfl rfl
def Cy(P:Program)(t:TypeId):List Nat->List Nat->Nat->List Field->Bool
 | [],k2,o,[f]=>f.name != "_" && Nat.beq f.offset o&&iS P f.type 2&&Es P f.type k2
 | k::ks,k2,o,f::fs=>fOk P f o k&&Cy P t ks k2 (o+1) fs
 | _,_,_,_=>false
theorem Bd{t:TypeId}(h:iS P t 2=true){cs:List Value}{off:Nat}{u v:Value}(hv:cs.drop off=[u,v])(w:World):(part t ⟨cs⟩ off).run P w=.ok (.agg ⟨[u,v]⟩) w:=by
 obtain⟨dd,hu,hm,hi⟩:=gP h
 have hagg:(isAgg t).run P w=.ok true w:=by
  unfold isAgg
  rw[Sem.run_bind,run_underlying hu w]
  cases dd<;>simp_all
 cases hq':P.info? t with
 | none=>rw[hq'] at hi;simp at hi
 | some i =>
  have hs:i.size=2:=by rw[hq'] at hi;simpa using hi
  simp[part,hagg,Go.sizeOf,typeInfo,hq',hs,hv]
theorem N7{t:TypeId}{d:Nat}{k2:List Nat}{a1 a2 b1 b2:Value}{r2:Bool}(hn:Ci k2 [a1,a2] [b1,b2] r2):∀{ks:List Nat} {us vs:List Value} {r:Bool} {fs:List Field} {o:Nat} {xs ys:List Value},Ci ks us vs r->Cy P t ks k2 o fs=true->xs.drop o=us++[a1,a2]->ys.drop o=vs++[b1,b2] ->
  (Op.eqFields (d+2) ⟨xs⟩ ⟨ys⟩ fs).run P w=.ok (r&&r2) w
 | [],_,_,_,fs,o,xs,ys,h,hs,hx,hy=>by
  cases h
  cases fs with
  | nil=>simp[Cy] at hs
  | cons f fs =>
   cases fs with
   | cons g fs=>simp[Cy] at hs
   | nil =>
    simp only[Cy,Bool.and_eq_true,bne_iff_ne,ne_eq] at hs
    obtain⟨⟨⟨h1,h2⟩,h3⟩,h4⟩:=hs
    replace h2:=eR h2
    subst h2
    have p1:(part f.type ⟨xs⟩ f.offset).run P w=.ok (.agg ⟨[a1,a2]⟩) w:=Bd h3 hx w
    have p2:(part f.type ⟨ys⟩ f.offset).run P w=.ok (.agg ⟨[b1,b2]⟩) w:=Bd h3 hy w
    simp only[Op.eqFields,h1,ne_eq,not_false_eq_true,if_true,Sem.run_bind,p1,p2,(Df (w:=w) h4 hn d).1,Result.andThen_ok,Sem.run_ite,Sem.run_pure]
    cases r2<;>simp
 | k::ks,_,_,_,fs,o,xs,ys,h,hs,hx,hy=>by
  cases h with
  | @cons _ _ u v us vs r r3 h h2 =>
   cases fs with
   | nil=>simp[Cy] at hs
   | cons f fs =>
    simp only[Cy,Bool.and_eq_true] at hs
    have ex:xs[o]?=some u:=by rw[<- List.head?_drop,hx];rfl
    have ey:ys[o]?=some v:=by rw[<- List.head?_drop,hy];rfl
    have hx2:xs.drop (o+1)=us++[a1,a2]:=by rw[<- List.drop_drop,hx];rfl
    have hy2:ys.drop (o+1)=vs++[b1,b2]:=by rw[<- List.drop_drop,hy];rfl
    rw[U6 hs.1 (by simpa using ex) (by simpa using ey) h,N7 hn h2 hs.2 hx2 hy2]
    cases r<;>simp
def Av(P:Program)(t:TypeId)(ks k2:List Nat):Bool :=
 (match P.underlying t with
 | some (.struct fs)=>Cy P t ks k2 0 fs.toList
 | _=>false)&&!P.stoodInHeld t&&!P.eqGuardType P.depth t
theorem M8{t:TypeId}{ks k2:List Nat}{us vs:List Value}{a1 a2 b1 b2:Value}{r r2:Bool}(h:Av P t ks k2=true)(hv:Ci ks us vs r)(hn:Ci k2 [a1,a2] [b1,b2] r2)(d:Nat) :
  (Op.equalIn (d+3) t (.agg ⟨us++[a1,a2]⟩) (.agg ⟨vs++[b1,b2]⟩)).run P w=.ok (r&&r2) w/\P.eqGuardType P.depth t=false:=by
 unfold Av at h
 cases hu:P.underlying t with
 | none=>simp[hu] at h
 | some dd =>
  rw[hu] at h
  cases dd<;>simp only[Bool.false_and,Bool.false_eq_true] at h
  rename_i fs
  have hf:P.fieldsOf t=fs:=by simp[Program.fieldsOf,hu]
  simp only[Bool.and_eq_true,Bool.not_eq_true'] at h
  refine⟨?_,h.2⟩
  rw[run_equalIn_struct w (d+2) t _ _ (by rw[hf];exact hu) h.1.2,hf]
  exact N7 (o:=0) hn hv h.1.1 rfl rfl
variable{S:List (Nat×Value)}{G:World->Prop}{d:Nat}{ty t t':TypeId}{pos:String}{af:Array Edge}{gd:Option (Nat×Bool)}{x y:Operand}
instance:DecidableEq Ac:=λ a b=>if h:a.k=b.k/\a.c=b.c/\a.o=b.o/\a.n=b.n then isTrue (by cases a;cases b;simp_all) else isFalse (λ e=>h (by subst e;exact⟨rfl,rfl,rfl,rfl⟩))
instance:DecidableEq Rs:=λ a b=>if h:a.err=b.err/\a.found=b.found/\a.val=b.val/\a.key=b.key/\a.gI=b.gI/\a.ref=b.ref/\a.root=b.root/\a.ro=b.ro then isTrue (by cases a;cases b;simp_all) else isFalse (λ e=>h (by subst e;exact⟨rfl,rfl,rfl,rfl,rfl,rfl,rfl,rfl⟩))
theorem xd(a b:Ac):Ci [0,0,0,0] a.cells b.cells (decide (a=b)):=by
 have h:=Ci.cons (ns.int .i64 a.k b.k) (.cons (.int .i64 a.c b.c) (.cons (.int .i64 a.o b.o) (.cons (.int .i64 a.n b.n) .nil)))
 have e:(a.k==b.k&&(a.c==b.c&&(a.o==b.o&&(a.n==b.n&&true))))=decide (a=b):=by
  rw[Bool.eq_iff_iff]
  obtain⟨a1,a2,a3,a4⟩:=a
  obtain⟨b1,b2,b3,b4⟩:=b
  simp
 rw[e] at h
 exact h
theorem U3{a b:Ac}(hx:ev S x=.agg ⟨a.cells⟩)(hy:ev S y=.agg ⟨b.cells⟩)(ht:Es P t [0,0,0,0]=true):aM P S G ⟨some d,.binOp .eql t x y t',ty,pos,af,gd⟩ (.bool (decide (a=b))):=⟨λ w _=>by
 have h:=Df (w:=w) ht (xd a b) 9998
 simp[execOp,hx,hy,run_eqGuard_agg w _ t _ _ _ _ h.2,run_eql_struct,h.1]⟩
theorem wg(a b:Rs){t:TypeId}(ht:Av P t [0,1,0,2,0,0] [0,1]=true)(d:Nat) :
  (Op.equalIn (d+3) t (.agg ⟨a.cells⟩) (.agg ⟨b.cells⟩)).run P w=.ok (decide (a=b)) w/\P.eqGuardType P.depth t=false:=by
 have h:=M8 (w:=w) ht (Ci.cons (ns.int .i64 a.err b.err) (.cons (.bool a.found b.found) (.cons (.int .u64 a.val b.val) (.cons (.str a.key b.key) (.cons (.int .i64 a.gI b.gI) (.cons (.int .i64 a.ref b.ref) .nil))))))
  (Ci.cons (ns.int .i64 a.root b.root) (.cons (.bool a.ro b.ro) .nil)) d
 have e:((a.err==b.err&&(a.found==b.found&&(a.val==b.val&&(decide (a.key=b.key)&&(a.gI==b.gI&&(a.ref==b.ref&&true))))))&&(a.root==b.root&&(a.ro==b.ro&&true)))=decide (a=b):=by
  rw[Bool.eq_iff_iff]
  obtain⟨a1,a2,a3,a4,a5,a6,a7,a8⟩:=a
  obtain⟨b1,b2,b3,b4,b5,b6,b7,b8⟩:=b
  simp[and_assoc]
 rw[e] at h
 exact h
theorem Wo{a b:Rs}(hx:ev S x=.agg ⟨a.cells⟩)(hy:ev S y=.agg ⟨b.cells⟩)(ht:Av P t [0,1,0,2,0,0] [0,1]=true):aM P S G ⟨some d,.binOp .eql t x y t',ty,pos,af,gd⟩ (.bool (decide (a=b))):=⟨λ w _=>by
 have h:=wg (w:=w) a b ht 9997
 simp[execOp,hx,hy,run_eqGuard_agg w _ t _ _ _ _ h.2,run_eql_struct,h.1]⟩
end
end
end Go.Ct
namespace Go.Proofs.YtbajmaoegmbfgaaGreat
section
open Go Go.RowKit Go.Ct
end

/- Pairs: whether a task and an execution are at the same point. -/
section
open Go Go.RowKit Go.Ct
section
variable{k:Cl}{ba bx bm tb n:Nat}{x:XS}{c:Cd}{rs:Rs}{D:List Nat}{A:Fr}{w:World}
theorem Og{bt:Nat}{d:Bool}(hd:(c.a.k==0)=d)(h:w.heap[bt]?=some (tO ba c n)):Calls Tryz.prog 33 #[.pointer (some ⟨bt,0,none⟩)] w λ e w'=>e=.returned (.bool d)/\St w [] [] w':=by
 subst hd
 exact wI h
theorem O9{bt:Nat}{d:Bool}{a:Ac}(hd:(c.a.k==0)=d)(ha:(if d=true then Ac.zero else c.a)=a)(h:w.heap[bt]?=some (tO ba c n)):Calls Tryz.prog 133 #[.pointer (some ⟨bt,0,none⟩)] w λ e w'=>e=.returned (.tuple #[.agg ⟨a.cells⟩,.bool (!d)])/\St w [] [] w':=by
 subst hd ha
 have:=bz h
 simp only[beq_iff_eq] at this ⊢
 exact this
theorem zR{bt:Nat}{d:Bool}{r:Rs}(hd:(c.a.k==0)=d)(ha:(if d=true then c.r else Rs.zero)=r)(h:w.heap[bt]?=some (tO ba c n)):Calls Tryz.prog 34 #[.pointer (some ⟨bt,0,none⟩)] w λ e w'=>e=.returned (.agg ⟨r.cells⟩)/\St w [] [] w':=by
 subst hd ha
 have:=R4 h
 simp only[beq_iff_eq] at this ⊢
 exact this
theorem W8{dn:Bool}{a:Ac}(ha:(if dn=true then Ac.zero else x.nx)=a)(hs:SF w D (xH k bx bm x dn rs) A [] (xW x) w):Calls Tryz.prog 134 #[.pointer (some ⟨bx,0,none⟩)] w λ e w'=>∃q:Unit,e=.returned (.tuple #[.agg ⟨a.cells⟩,.bool (!dn)])/\True/\SF w D (xH k bx bm x dn rs) [] [] (xW x) w':=by
 subst ha
 exact th hs
theorem Wh{dn:Bool}(hn:x.got.length=n)(hs:SF w D (xH k bx bm x dn rs) A [] (xW x) w):Calls Tryz.prog 132 #[.pointer (some ⟨bx,0,none⟩)] w λ e w'=>∃q:Unit,e=.returned (.int .i64 (n:Int))/\True/\SF w D (xH k bx bm x dn rs) [] [] (xW x) w':=by
 subst hn
 exact ss hs
theorem mv{w0:World}{dn:Bool}(h:SF w0 D ((tb,tO ba c n)::xH k bx bm x dn rs) A [] (xW x) w):SF w0 D [(tb,tO ba c n),(bx,.cells ⟨xoC k bm x dn rs⟩ 153 (0,0)),(bm,mO x.L x.cs x.gen x.acc x.pn x.cn x.pc x.cc)] A [] [⟨x.pg,aG x.got,x.kg,37,1⟩,⟨x.pm,aG x.made,x.km,37,1⟩,⟨x.pl,aG x.cel,x.kl,27,1⟩,⟨x.pe,aG x.gns,x.ke,3,1⟩,⟨x.pn,hU x.L,x.cn,47,14⟩,⟨x.pc,aG x.cs,x.cc,37,1⟩] w:=h
set_option maxRecDepth 100000 in
set_option maxHeartbeats 1000000 in
theorem Xh(hk:(c.a.k==0)=true)(hr:c.r=rs)(hn:x.got.length=n)(hs:SF w D ((tb,tO ba c n)::xH k bx bm x true rs) A [] (xW x) w) :
  Calls Tryz.prog 93 #[.agg ⟨[.pointer (some ⟨tb,0,none⟩),.pointer (some ⟨bx,0,none⟩)]⟩] w λ e w'=>∃q:Unit,e=.returned (.bool true)/\True/\SF w D ((tb,tO ba c n)::xH k bx bm x true rs) [] [] (xW x) w':=by
 refine enter Tryz.func93 Tryz.ntmps93 rfl rfl (mv hs) ?_
 simp only[bX]
 refine J0 ?_;refine bI (λ x1=>?_);refine iB ?_;refine aV ?_;refine dK [(0,[]),(1,[]),(2,[]),(3,[]),(4,[]),(5,[]),(7,[]),(8,[]),(6,[8]),(9,[]),(10,[]),(11,[]),(12,[]),(13,[]),(14,[]),(16,[]),(17,[]),(15,[17]),(18,[]),(19,[]),(20,[])] ?_;refine kG ?_;refine mJ ?_;refine aN ?_
 (refine aR ?_)
 ((refine bG ?_));refine n7 ?_;((refine cH (i:=6) (hq:=(cV (hc:=λ w1 hw=>Og hk (hw.st.at cQ)))) (h:=λ x13=>?_)));((refine aZ (i:=9) (hq:=(cM (hs:=xH k bx bm x true rs) (os:=xW x) (hc:=λ w hs=>Io hs))) (h:=λ x16 h16=>?_)));((refine gq ?_));refine eF ?_;refine aN ?_
 (refine aR ?_)
 ((refine bG ?_));refine n7 ?_;((refine cH (i:=15) (hq:=(cV (hc:=λ w1 hw=>Kv (hw.st.at cQ)))) (h:=λ x22=>?_)));((refine aZ (i:=18) (hq:=(cM (hs:=xH k bx bm x true rs) (os:=xW x) (hc:=λ w hs=>Wh hn hs))) (h:=λ x25 h25=>?_)));((refine K7 ?_));refine eF ?_;refine dY ?_
 refine bB (λ c27=>?_) (λ c27=>?_)
 ·exact absurd c27 (by simp)
 ·refine bA ?_;refine gZ ?_;refine aS (cV (hc:=λ w1 hw=>O9 (a:=Ac.zero) hk (if_pos rfl) (hw.st.at cQ))) (λ x31=>?_);refine Ev ?_;refine aJ (λ x3=>?_);refine wJ ?_;refine gZ ?_;refine aD (cM (hs:=xH k bx bm x true rs) (os:=xW x) (hc:=λ w hs=>W8 (a:=Ac.zero) (if_pos rfl) hs)) (λ x37 h37=>?_);refine Ev ?_;refine aJ (λ x5=>?_);refine gY (λ _=>?_);refine iB ?_;refine dK [(0,[]),(1,[]),(2,[]),(3,[]),(4,[]),(5,[]),(6,[]),(7,[]),(8,[]),(9,[]),(10,[]),(11,[]),(12,[]),(13,[]),(15,[]),(16,[]),(14,[16]),(17,[]),(18,[]),(19,[]),(20,[]),(21,[]),(22,[]),(23,[]),(24,[]),(26,[]),(25,[]),(27,[]),(28,[]),(29,[]),(30,[]),(31,[])] ?_;refine bG ?_;refine bG ?_;refine cA (i:=2) (hq:=(U3 rf rf (by kernel_rfl))) (h:=?_);refine aN ?_
  (refine aN ?_)
  ((refine aN ?_));((refine bu ?_));refine eF ?_;refine aN ?_
  (refine aN ?_)
  ((refine Hg ?_));((refine aN ?_))
  (refine aR ?_)
  ((refine bG ?_));refine n7 ?_;((refine cH (i:=14) (hq:=(cV (hc:=λ w1 hw=>zR (r:=rs) hk ((if_pos rfl).trans hr) (hw.st.at cQ)))) (h:=λ x54=>?_)));((refine aZ (i:=17) (hq:=(cM (hs:=xH k bx bm x true rs) (os:=xW x) (hc:=λ w hs=>O8 hs))) (h:=λ x57 h57=>?_)));((refine cA (i:=18) (hq:=(Wo rf rf (by kernel_rfl))) (h:=?_)));((refine eF ?_));((refine aN ?_))
  (refine Zy 60 (λ g60=>?_) (λ g60=>?_)<;>(first|refine cX ?_|(refine aN ?_)))
  all_goals (first|refine cX ?_|(refine aN ?_))
  all_goals (refine cX ?_)
  all_goals ((refine cX ?_);(refine cX ?_);((refine cX ?_));(refine cX ?_);(first|refine cX ?_|(refine eF ?_));((refine eF ?_));refine eF ?_;refine J7 ?_)
  all_goals
  refine aT Tryz.results93 (λ w hw=>?_)
  first
   | exact⟨(),rfl,trivial,hw.aU⟩
   | (exfalso;simp_all;done)
set_option maxRecDepth 100000 in
set_option maxHeartbeats 1000000 in
theorem Y8{a:Ac}(hk:(c.a.k==0)=false)(ha:c.a=a)(hx:x.nx=a)(hn:x.got.length=n)(hs:SF w D ((tb,tO ba c n)::xH k bx bm x false rs) A [] (xW x) w) :
  Calls Tryz.prog 93 #[.agg ⟨[.pointer (some ⟨tb,0,none⟩),.pointer (some ⟨bx,0,none⟩)]⟩] w λ e w'=>∃q:Unit,e=.returned (.bool true)/\True/\SF w D ((tb,tO ba c n)::xH k bx bm x false rs) [] [] (xW x) w':=by
 refine enter Tryz.func93 Tryz.ntmps93 rfl rfl (mv hs) ?_
 simp only[bX]
 refine J0 ?_;refine bI (λ x1=>?_);refine iB ?_;refine aV ?_;refine dK [(0,[]),(1,[]),(2,[]),(3,[]),(4,[]),(5,[]),(7,[]),(8,[]),(6,[8]),(9,[]),(10,[]),(11,[]),(12,[]),(13,[]),(14,[]),(16,[]),(17,[]),(15,[17]),(18,[]),(19,[]),(20,[])] ?_;refine kG ?_;refine mJ ?_;refine aN ?_
 (refine aR ?_)
 ((refine bG ?_));refine n7 ?_;((refine cH (i:=6) (hq:=(cV (hc:=λ w1 hw=>Og hk (hw.st.at cQ)))) (h:=λ x13=>?_)));((refine aZ (i:=9) (hq:=(cM (hs:=xH k bx bm x false rs) (os:=xW x) (hc:=λ w hs=>Io hs))) (h:=λ x16 h16=>?_)));((refine gq ?_));refine eF ?_;refine aN ?_
 (refine aR ?_)
 ((refine bG ?_));refine n7 ?_;((refine cH (i:=15) (hq:=(cV (hc:=λ w1 hw=>Kv (hw.st.at cQ)))) (h:=λ x22=>?_)));((refine aZ (i:=18) (hq:=(cM (hs:=xH k bx bm x false rs) (os:=xW x) (hc:=λ w hs=>Wh hn hs))) (h:=λ x25 h25=>?_)));((refine K7 ?_));refine eF ?_;refine dY ?_
 refine bB (λ c27=>?_) (λ c27=>?_)
 ·exact absurd c27 (by simp)
 ·refine bA ?_;refine gZ ?_;refine aS (cV (hc:=λ w1 hw=>O9 (a:=a) hk ((if_neg (by decide)).trans ha) (hw.st.at cQ))) (λ x31=>?_);refine Ev ?_;refine aJ (λ x3=>?_);refine wJ ?_;refine gZ ?_;refine aD (cM (hs:=xH k bx bm x false rs) (os:=xW x) (hc:=λ w hs=>W8 (a:=a) ((if_neg (by decide)).trans hx) hs)) (λ x37 h37=>?_);refine Ev ?_;refine aJ (λ x5=>?_);refine gY (λ _=>?_);refine iB ?_;refine dK [(0,[]),(1,[]),(2,[]),(3,[]),(4,[]),(5,[]),(6,[]),(7,[]),(8,[]),(9,[]),(10,[]),(11,[]),(12,[]),(13,[]),(15,[]),(16,[]),(14,[16]),(17,[]),(18,[]),(19,[]),(20,[]),(21,[]),(22,[]),(23,[]),(24,[]),(26,[]),(25,[]),(27,[]),(28,[]),(29,[]),(30,[]),(31,[])] ?_;refine bG ?_;refine bG ?_;refine cA (i:=2) (hq:=(U3 rf rf (by kernel_rfl))) (h:=?_);refine aN ?_
  (refine Zy 43 (λ g43=>?_) (λ g43=>?_)<;>(first|refine cX ?_|(refine aN ?_)))
  all_goals ((first|refine cX ?_|(refine aN ?_));(first|refine cX ?_|(refine bu ?_));refine eF ?_;refine aN ?_)
  all_goals (first|refine cX ?_|(refine aN ?_))
  all_goals ((first|refine cX ?_|(refine Hg ?_));(first|refine cX ?_|(refine aN ?_)))
  all_goals (refine cX ?_)
  all_goals ((refine cX ?_);refine n7 ?_;((refine cX ?_));((refine cX ?_));(refine cX ?_);(first|refine cX ?_|(refine eF ?_));(first|refine cX ?_|(refine aN ?_)))
  all_goals (first|refine cX ?_|(refine aN ?_))
  all_goals (first|refine cX ?_|(refine aN ?_))
  all_goals (first|refine cX ?_|(refine aR ?_))
  all_goals ((first|refine cX ?_|(refine bG ?_));(first|refine cX ?_|(refine fA ?_));(first|refine cX ?_|(refine cH (i:=25) (hq:=(cV (hc:=λ w1 hw=>zR (r:=Rs.zero) hk (if_neg (by decide)) (hw.st.at cQ)))) (h:=λ x65=>?_)));(first|refine cX ?_|(refine cA (i:=27) (hq:=(Wo (b:=Rs.zero) rf rf (by kernel_rfl))) (h:=?_)));(first|refine cX ?_|(refine eF ?_));(first|refine cX ?_|(refine eF ?_));refine eF ?_;refine J7 ?_)
  all_goals
  refine aT Tryz.results93 (λ w hw=>?_)
  first
   | exact⟨(),rfl,trivial,hw.aU⟩
   | (exfalso;simp_all;done)
end
end

/- Literals of lists that may be changed. -/
end Go.Proofs.YtbajmaoegmbfgaaGreat
namespace Go.Ct
section
open Go Go.RowKit
section
variable{P:Program}{S:List (Nat×Value)}{G:World->Prop}{d:Nat}{ty t t' e:TypeId}{pos:String}{af:Array Edge}{gd:Option (Nat×Bool)}{x y:Operand}{w0 w:World}{M:List Nat}{H:List (Nat×Obj)}{A F:Fr}{O:List Ow}{a:Option Addr}
theorem SF.aCf{b c sz:Nat}{cs:List Value}{T:TypeId}(h:SF w0 M ((b,.cells ⟨cs⟩ T (0,0))::H) A F O w)(hl:cs.length=c*sz):SF w0 M H A F (⟨some ⟨b,0,none⟩,cs,c,T,sz⟩::O) w:=by
 have hp:(Ks H (⟨some ⟨b,0,none⟩,cs,c,T,sz⟩::O)).Perm (Ks ((b,.cells ⟨cs⟩ T (0,0))::H) O):=by
  unfold Ks
  simp only[List.flatMap_cons,iI,List.map_cons,List.cons_append,List.nil_append]
  exact List.perm_middle
 have hb:=h.st.has (b,.cells ⟨cs⟩ T (0,0)) (List.mem_cons_self ..)
 have hn:=h.st.new (b,.cells ⟨cs⟩ T (0,0)) (List.mem_cons_self ..)
 refine⟨h.st.sub (List.sublist_cons_self ..),λ f hf=>⟨(h.bK f hf).1,λ hc hm=>(h.bK f hf).2 hc (hp.mem_iff.1 hm)⟩,λ f hf=>⟨(h.new f hf).1,λ hc=>⟨λ hm=>((h.new f hf).2 hc).1 (hp.mem_iff.1 hm),((h.new f hf).2 hc).2⟩⟩,λ o ho=>?_,hp.nodup_iff.2 h.dis⟩
 rcases List.mem_cons.1 ho with rfl|ho
 ·refine⟨.inr ⟨b,[],rfl,by simpa using hb,by simpa using hl⟩,λ k hk=>?_⟩
  simp only[iI,List.mem_singleton] at hk
  subst hk
  exact hn.symm
 ·exact h.own o ho
theorem N0{len:Nat}{parts:List (Nat×Operand)}{ps:List (Nat×Value)}{zc cs:List Value}{sz:Nat}(he:dJ P t e zc)(hv:jI S parts=ps)(hlen:ps.length=len)(hidx:ps.map Prod.fst=List.range' 0 ps.length)(h1:(ps.all λ p=>Nat.beq (nF p.2).length zc.length)=true)
  (hpos:(Nat.blt 0 len&&Nat.blt 0 zc.length&&Nat.ble (len*zc.length) 16777216)=true) (hcs:C6 ps=cs) (hsz:cs.length=len*sz) :
  bE P S (SF w0 M H A F O) ⟨some d,.buildSlice t len ⟨parts⟩,ty,pos,af,gd⟩ Nat (λ b=>.slice (some ⟨b,0,none⟩) len len) (λ b=>SF w0 M H A F (⟨some ⟨b,0,none⟩,cs,len,e,sz⟩::O)) :=
 (jA λ _=>cJ he hv hlen hidx h1 hpos hcs).conv λ b w h=>h.aCf hsz
end
end

end Go.Ct

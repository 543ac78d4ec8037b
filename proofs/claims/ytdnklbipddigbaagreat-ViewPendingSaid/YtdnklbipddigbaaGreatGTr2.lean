/- Merged. -/
import Derived.Test.YtdnklbipddigbaaGreatGAr9
set_option linter.unusedSimpArgs false
set_option linter.unusedVariables false
namespace Go.Ct
open Go Go.RowKit
section
structure XS where
 L:List NdV
 cs:List Int
 gen:Int
 acc:Int
 pn:Option Addr
 cn:Nat
 pc:Option Addr
 cc:Nat
 got:List Int
 made:List Int
 cel:List Int
 gns:List Int
 pg:Option Addr
 kg:Nat
 pm:Option Addr
 km:Nat
 pl:Option Addr
 kl:Nat
 pe:Option Addr
 ke:Nat
 a:Nat
 m:Nat
 c:Nat
 g:Nat
 fr:Nat
 st:Bool
 nx:Ac
def XS.nodes(x:XS):List Nv:=x.L.map NdV.c
def XS.mm(x:XS):Mm:=⟨x.L.map NdV.c,x.cs,x.gen⟩
structure Gx where
 T:Tr
 R:Tr
 s:Mm
 fr:Nat
 N:Nat
structure Gx.Ok(g:Gx):Prop where
 tame:Tame g.T g.N 64
 tameR:∃n,g.fr<=n/\Tame g.R n 64
 hN:g.N<=1073741824
 hf:g.fr<=1
 hs:g.s.nodes.length<=137438953472/\g.s.cs.length<=137438953472/\g.s.gen<=137438953472
structure GdR(g:Gx)(x:XS)(t R:Tr):Prop where
 pre:Wk x.nodes g.T (x.got.take x.a) (x.made.take x.m) (x.cel.take x.c) (x.gns.take x.g) t
 suf:Wk x.nodes t (x.got.drop x.a) (x.made.drop x.m) (x.cel.drop x.c) (x.gns.drop x.g) R
 rc:Rc (g.fr-x.fr) g.R g.s R x.mm
 hf:x.fr<=g.fr
 la:x.a<=x.got.length
 lm:x.m<=x.made.length
 lc:x.c<=x.cel.length
 lg:x.g<=x.gns.length
 hN:x.got.length+x.fr=g.N
def Gd(g:Gx)(x:XS)(t:Tr):Prop:=∃R,GdR g x t R
def Tr.acc:Tr->Option Ac
 | .load c _=>some ⟨1,c,0,0⟩
 | .cas c o n _=>some ⟨2,c,o,n⟩
 | _=>none
structure AtEndR(g:Gx)(x:XS)(R:Tr):Prop where
 ac:R.acc=some x.nx
 wk:Wk x.nodes g.T x.got x.made x.cel x.gns R
 rc:Rc g.fr g.R g.s R x.mm
 hN:x.got.length=g.N
def AtEnd(g:Gx)(x:XS):Prop:=∃R,AtEndR g x R
def Go'(g:Gx)(x:XS)(t:Tr):Prop:=(x.st=false/\Gd g x t)∨(x.st=true/\AtEnd g x)
theorem Go'.stopped{g:Gx}{x:XS}{t t':Tr}(h:Go' g x t)(hs:x.st=true):Go' g x t':=by
 rcases h with h|h;·rw[hs] at h;exact nomatch h.1
 ·exact .inr h
theorem Go'.run{g:Gx}{x:XS}{t:Tr}(h:Go' g x t)(hs:x.st=false):Gd g x t:=by
 rcases h with h|h;·exact h.2
 ·rw[hs] at h;exact nomatch h.1
theorem Go'.to{g:Gx}{x:XS}{t t':Tr}(h:Go' g x t)(e:x.st=false->t=t'):Go' g x t':=by
 rcases h with h|h;·exact .inl ⟨h.1,e h.1▸h.2⟩
 ·exact .inr h
theorem drop_cons{l:List Int}{k:Nat}(h:k<l.length):l.drop k=l.getD k 0::l.drop (k+1):=by rw[List.drop_eq_getElem_cons h];simp[gdg,h]
theorem take_snoc{l:List Int}{k:Nat}(h:k<l.length):l.take (k+1)=l.take k++[l.getD k 0]:=by rw[List.take_add_one];simp[gdg,h]
theorem Wk.load1{L:List Nv}{c:Int}{k:Int->Tr}(v:Int):Wk L (.load c k) [v] [] [] [] (k v):=.load (.nil _)
theorem Wk.cas1{L:List Nv}{c o n:Int}{k:Bool->Tr}(v:Int):Wk L (.cas c o n k) [v] [] [] [] (k (v==1)):=.cas (.nil _)
theorem Wk.alloc1{L:List Nv}{n:Nv}{i:Int}{k:Int->Tr}(v:Int):Wk L (.alloc n i k) [] [v] [] [] (k v):=.alloc (.nil _)
theorem Wk.cell1{L:List Nv}{i:Int}{k:Int->Tr}(v:Int):Wk L (.cell i k) [] [] [v] [] (k v):=.cell (.nil _)
theorem Wk.gen1{L:List Nv}{k:Int->Tr}(v:Int):Wk L (.gen k) [] [] [] [v] (k v):=.gen (.nil _)
theorem Wk.node1{L:List Nv}{r:Int}{k:Nv->Tr}(h:r<=L.length):Wk L (.node r k) [] [] [] [] (k (ndAt L r)):=.node h (.nil _)
section
variable{g:Gx}{x:XS}{c o n i r:Int}{k:Int->Tr}{kb:Bool->Tr}{kn:Nv->Tr}{nn:Nv}{t R:Tr}
theorem GdR.full(h:GdR g x t R):Wk x.nodes g.T x.got x.made x.cel x.gns R:=by have:=h.pre.trans h.suf;simpa only[List.take_append_drop] using this
theorem drop_nil'{l:List Int}{k:Nat}(h:l.drop k=[])(h2:k<=l.length):k=l.length:=by have:=List.drop_eq_nil_iff.1 h;omega
theorem Gd.load_old(h:Gd g x (.load c k))(ha:x.a<x.got.length):Gd g {x with a:=x.a+1} (k (x.got.getD x.a 0)):=by
 obtain⟨R,h⟩:=h;have hs:=h.suf;rw[drop_cons ha] at hs;have hp:=h.pre.trans (Wk.load1 (x.got.getD x.a 0));simp only[List.append_nil] at hp;rw[<- take_snoc ha] at hp;cases hs with
 | load hs=>exact⟨R,hp,hs,h.rc,h.hf,ha,h.lm,h.lc,h.lg,h.hN⟩
theorem Gd.cas_old(h:Gd g x (.cas c o n kb))(ha:x.a<x.got.length):Gd g {x with a:=x.a+1} (kb (x.got.getD x.a 0==1)):=by
 obtain⟨R,h⟩:=h;have hs:=h.suf;rw[drop_cons ha] at hs;have hp:=h.pre.trans (Wk.cas1 (x.got.getD x.a 0));simp only[List.append_nil] at hp;rw[<- take_snoc ha] at hp;cases hs with
 | cas hs=>exact⟨R,hp,hs,h.rc,h.hf,ha,h.lm,h.lc,h.lg,h.hN⟩
structure AtR(g:Gx)(x:XS)(t:Tr):Prop where
 wk:Wk x.nodes g.T x.got x.made x.cel x.gns t
 rc:Rc (g.fr-x.fr) g.R g.s t x.mm
 hf:x.fr<=g.fr
 ea:x.a=x.got.length
 em:x.m=x.made.length
 ec:x.c=x.cel.length
 eg:x.g=x.gns.length
 hN:x.got.length+x.fr=g.N
theorem AtR.good(h:AtR g x t):Gd g x t:=by
 refine⟨t,?_,?_,h.rc,h.hf,by rw[h.ea];exact Nat.le_refl _,by rw[h.em];exact Nat.le_refl _,by rw[h.ec];exact Nat.le_refl _,by rw[h.eg];exact Nat.le_refl _,h.hN⟩;·rw[h.ea,h.em,h.ec,h.eg];simpa using h.wk
 ·rw[h.ea,h.em,h.ec,h.eg];simpa using Wk.nil t
theorem GdR.atR(h:GdR g x t t)(h1:x.got.drop x.a=[])(h2:x.made.drop x.m=[])(h3:x.cel.drop x.c=[])(h4:x.gns.drop x.g=[]):AtR g x t :=⟨h.full,h.rc,h.hf,drop_nil' h1 h.la,drop_nil' h2 h.lm,drop_nil' h3 h.lc,drop_nil' h4 h.lg,h.hN⟩
theorem Gd.load_at(h:Gd g x (.load c k))(ha:¬x.a<x.got.length):AtR g x (.load c k):=by obtain⟨R,h⟩:=h;have hs:=h.suf;have e:x.got.drop x.a=[]:=List.drop_eq_nil_iff.2 (by omega);rw[e] at hs;generalize e2:x.made.drop x.m=l2 at hs;generalize e3:x.cel.drop x.c=l3 at hs;generalize e4:x.gns.drop x.g=l4 at hs;cases hs;exact h.atR e e2 e3 e4
theorem Gd.cas_at(h:Gd g x (.cas c o n kb))(ha:¬x.a<x.got.length):AtR g x (.cas c o n kb):=by obtain⟨R,h⟩:=h;have hs:=h.suf;have e:x.got.drop x.a=[]:=List.drop_eq_nil_iff.2 (by omega);rw[e] at hs;generalize e2:x.made.drop x.m=l2 at hs;generalize e3:x.cel.drop x.c=l3 at hs;generalize e4:x.gns.drop x.g=l4 at hs;cases hs;exact h.atR e e2 e3 e4
theorem AtR.stop{y:XS}(h:AtR g x t)(h0:x.fr=0)(ht:t.acc=some y.nx)(hs:y.st=true)(e1:y.got=x.got)(e2:y.made=x.made)(e3:y.cel=x.cel)(e4:y.gns=x.gns)(e5:y.L=x.L)(e6:y.cs=x.cs)(e7:y.gen=x.gen):Go' g y t:=by
 refine .inr ⟨hs,t,ht,?_,?_,?_⟩;·simp only[XS.nodes,e1,e2,e3,e4,e5];exact h.wk
 ·have:=h.rc;rw[h0] at this;simpa only[XS.mm,e5,e6,e7,Nat.sub_zero] using this
 ·rw[e1];have:=h.hN;omega
theorem AtR.now{y:XS}{t':Tr}{v:Int}(h:AtR g x t)(h0:0<x.fr)(hw:∀L,Wk L t [v] [] [] [] t')(hl:Lp t x.mm t' y.mm)
  (hs:y.st=false) (e1:y.got=x.got++[v]) (e2:y.made=x.made) (e3:y.cel=x.cel) (e4:y.gns=x.gns) (e5:y.L=x.L) (e8:y.fr=x.fr-1) (e9:y.a=x.a+1) (em:y.m=x.m) (ec:y.c=x.c) (eg:y.g=x.g):Go' g y t':=by
 refine .inl ⟨hs,AtR.good ⟨?_,?_,by have:=h.hf;omega,by rw[e9,e1,h.ea];simp,by rw[em,e2,h.em],by rw[ec,e3,h.ec],by rw[eg,e4,h.eg],by rw[e1,e8];have:=h.hN;simp;omega⟩⟩;·have:=h.wk.trans (hw x.nodes);simp only[List.append_nil] at this;simp only[XS.nodes,e1,e2,e3,e4,e5];exact this
 ·have:=h.rc.loud hl;rwa [show g.fr-x.fr+1=g.fr-y.fr by have:=h.hf;omega] at this
theorem Gd.alloc_old(h:Gd g x (.alloc nn i k))(ha:x.m<x.made.length):Gd g {x with m:=x.m+1} (k (x.made.getD x.m 0)):=by
 obtain⟨R,h⟩:=h;have hs:=h.suf;rw[drop_cons ha] at hs;have hp:=h.pre.trans (Wk.alloc1 (x.made.getD x.m 0));simp only[List.append_nil] at hp;rw[<- take_snoc ha] at hp;generalize e0:x.got.drop x.a=l0 at hs;generalize e1:x.cel.drop x.c=l1 at hs;generalize e2:x.gns.drop x.g=l2 at hs;cases hs with
 | alloc hs=>exact⟨R,hp,by simp only[];rw[e0,e1,e2];exact hs,h.rc,h.hf,h.la,ha,h.lc,h.lg,h.hN⟩
theorem Gd.alloc_at(h:Gd g x (.alloc nn i k))(ha:x.m=x.made.length):AtR g x (.alloc nn i k):=by obtain⟨R,h⟩:=h;have hs:=h.suf;have e:x.made.drop x.m=[]:=List.drop_eq_nil_iff.2 (by omega);rw[e] at hs;generalize e2:x.got.drop x.a=l2 at hs;generalize e3:x.cel.drop x.c=l3 at hs;generalize e4:x.gns.drop x.g=l4 at hs;cases hs;exact h.atR e2 e e3 e4
theorem Gd.cell_old(h:Gd g x (.cell i k))(ha:x.c<x.cel.length):Gd g {x with c:=x.c+1} (k (x.cel.getD x.c 0)):=by
 obtain⟨R,h⟩:=h;have hs:=h.suf;rw[drop_cons ha] at hs;have hp:=h.pre.trans (Wk.cell1 (x.cel.getD x.c 0));simp only[List.append_nil] at hp;rw[<- take_snoc ha] at hp;generalize e0:x.got.drop x.a=l0 at hs;generalize e1:x.made.drop x.m=l1 at hs;generalize e2:x.gns.drop x.g=l2 at hs;cases hs with
 | cell hs=>exact⟨R,hp,by simp only[];rw[e0,e1,e2];exact hs,h.rc,h.hf,h.la,h.lm,ha,h.lg,h.hN⟩
theorem Gd.cell_at(h:Gd g x (.cell i k))(ha:x.c=x.cel.length):AtR g x (.cell i k):=by obtain⟨R,h⟩:=h;have hs:=h.suf;have e:x.cel.drop x.c=[]:=List.drop_eq_nil_iff.2 (by omega);rw[e] at hs;generalize e2:x.got.drop x.a=l2 at hs;generalize e3:x.made.drop x.m=l3 at hs;generalize e4:x.gns.drop x.g=l4 at hs;cases hs;exact h.atR e2 e3 e e4
theorem Gd.gen_old(h:Gd g x (.gen k))(ha:x.g<x.gns.length):Gd g {x with g:=x.g+1} (k (x.gns.getD x.g 0)):=by
 obtain⟨R,h⟩:=h;have hs:=h.suf;rw[drop_cons ha] at hs;have hp:=h.pre.trans (Wk.gen1 (x.gns.getD x.g 0));simp only[List.append_nil] at hp;rw[<- take_snoc ha] at hp;generalize e0:x.got.drop x.a=l0 at hs;generalize e1:x.made.drop x.m=l1 at hs;generalize e2:x.cel.drop x.c=l2 at hs;cases hs with
 | gen hs=>exact⟨R,hp,by simp only[];rw[e0,e1,e2];exact hs,h.rc,h.hf,h.la,h.lm,h.lc,ha,h.hN⟩
theorem Gd.gen_at(h:Gd g x (.gen k))(ha:x.g=x.gns.length):AtR g x (.gen k):=by obtain⟨R,h⟩:=h;have hs:=h.suf;have e:x.gns.drop x.g=[]:=List.drop_eq_nil_iff.2 (by omega);rw[e] at hs;generalize e2:x.got.drop x.a=l2 at hs;generalize e3:x.made.drop x.m=l3 at hs;generalize e4:x.cel.drop x.c=l4 at hs;cases hs;exact h.atR e2 e3 e4 e
theorem Gd.node(h:Gd g x (.node r kn))(hr:r<=x.L.length):Gd g x (kn (ndAt x.nodes r)):=by
 have hr':r<=x.nodes.length:=by simpa[XS.nodes] using hr
 obtain⟨R,h⟩:=h;have hs:=h.suf;have hp:=h.pre.trans (Wk.node1 (k:=kn) hr');simp only[List.append_nil] at hp;generalize e1:x.got.drop x.a=l1 at hs;generalize e2:x.made.drop x.m=l2 at hs;generalize e3:x.cel.drop x.c=l3 at hs;generalize e4:x.gns.drop x.g=l4 at hs;cases hs with
 | nil=>exact⟨_,hp,by rw[e1,e2,e3,e4];exact .nil _,h.rc.sil (.node r kn x.mm (by simpa[XS.mm] using hr)),h.hf,h.la,h.lm,h.lc,h.lg,h.hN⟩
 | node _ hs=>exact⟨R,hp,by rw[e1,e2,e3,e4];exact hs,h.rc,h.hf,h.la,h.lm,h.lc,h.lg,h.hN⟩
theorem Go'.node(h:Go' g x (.node r kn))(hr:r<=x.L.length):Go' g x (kn (ndAt x.nodes r)):=by
 rcases h with h|h;·exact .inl ⟨h.1,h.2.node hr⟩
 ·exact .inr h
theorem AtR.sil{y:XS}{t':Tr}{ms cl gn:List Int}{N:List NdV}(h:AtR g x t)(hw:∀L,Wk L t [] ms cl gn t')(hl:Sp t x.mm t' y.mm)
  (hs:y.st=false) (e1:y.got=x.got) (e2:y.made=x.made++ms) (e3:y.cel=x.cel++cl) (e4:y.gns=x.gns++gn) (e5:y.L=x.L++N) (e8:y.fr=x.fr) (e9:y.a=x.a) (em:y.m=x.m+ms.length) (ec:y.c=x.c+cl.length) (eg:y.g=x.g+gn.length):Go' g y t':=by
 refine .inl ⟨hs,AtR.good ⟨?_,?_,by rw[e8];exact h.hf,by rw[e9,e1,h.ea],by rw[em,e2,h.em];simp,by rw[ec,e3,h.ec];simp,by rw[eg,e4,h.eg];simp,by rw[e1,e8];exact h.hN⟩⟩
 ·have:=(h.wk.trans (hw x.nodes)).mono (N:=N.map NdV.c);simp only[List.append_nil] at this;have e:y.nodes=x.nodes++N.map NdV.c:=by simp[XS.nodes,e5]
  rw[e,e1,e2,e3,e4];exact this
 ·rw[e8];exact h.rc.sil hl
theorem AtR.room(hg:g.Ok)(h:AtR g x t):∃n c,Tame t n c/\c<=64/\x.L.length+c<=137438953600/\x.cs.length+c<=137438953600/\x.gen+c<=137438953600/\x.made.length<=137438953472/\x.cel.length<=137438953472/\x.gns.length<=137438953472:=by obtain⟨n,h1,h2⟩:=hg.tameR;have hf:=hg.hf;obtain⟨c',t1,t2,_,t3,t4,t5⟩:=h.rc.tame (Nat.le_refl 64) h2 (by omega);obtain⟨c2,_,_,u3⟩:=h.wk.tame (Nat.le_refl 64) hg.tame (by have:=h.hN;omega);have:=hg.hs;have:=hg.hN;have:=h.hN;simp only[XS.mm,List.length_map] at t3 t4 t5;refine⟨_,c',t1,t2,by omega,by omega,by omega,by omega,by omega,by omega⟩
theorem Gd.not_stuck(hg:g.Ok)(h:Gd g x .stuck):False:=by obtain⟨R,h⟩:=h;obtain⟨c2,u1,_,_⟩:=h.pre.tame (Nat.le_refl 64) hg.tame (by have:=h.hN;have:=h.la;simp;omega);exact u1
end
end
section
structure NvB(n c:Nat)(v:Nv):Prop where
 old:v.old<=n
 exp:v.exp<=n
 new:v.new<=n
 br:∀r∈v.xs,r<=n
 main:v.main<=c
 prev:v.prev<=c
 status:v.status<=c
 bm:∃b:Nat,v.bm=(b:Int)/\b<18446744073709551616
 hash:∃b:Nat,v.hash=(b:Int)/\b<18446744073709551616
theorem NvB.mono{n c n' c':Nat}{v:Nv}(h:NvB n c v)(h1:n<=n')(h2:c<=c'):NvB n' c' v :=⟨by have:=h.old;omega,by have:=h.exp;omega,by have:=h.new;omega,λ r hr=>by have:=h.br r hr;omega,by have:=h.main;omega,by have:=h.prev;omega,by have:=h.status;omega,h.bm,h.hash⟩
theorem nvB_zero(n c:Nat):NvB n c Nv.zero:=⟨nn0 _,nn0 _,nn0 _,(λ r hr=>nomatch hr),nn0 _,nn0 _,nn0 _,⟨0,rfl,by decide⟩,⟨0,rfl,by decide⟩⟩
structure XS.Ok(x:XS):Prop where
 fit:Fits x.L
 nd:∀v∈x.L,NvB x.L.length x.cs.length v.c
 cs:∀v∈x.cs,v<=x.L.length
 got:∀v∈x.got,v<=x.L.length
 made:∀v∈x.made,v<=x.L.length
 two:2<=x.L.length
 lL:x.L.length<=137438953600
 lc:x.cs.length<=137438953600
 lg:x.got.length<=1073741824
 la:x.a<=x.got.length
 lm:x.m<=x.made.length
 lk:x.c<=x.cel.length
 le:x.g<=x.gns.length
 fr:x.fr<=1
 ys:∀v∈x.L,v.ys.length<=x.L.length
 gen0:0<=x.gen
 ms:∀i j:Nat,i<j->j<x.made.length->x.made.getD i 0<x.made.getD j 0
 m1:∀v∈x.made,1<=v
theorem getD_le{l:List Int}{n:Nat}(h:∀v∈l,v<=n)(k:Nat):l.getD k 0<=n:=by
 rw[gdg];cases hk:l[k]? with
 | none=>exact nn0 n
 | some v=>exact h v (List.mem_of_getElem? hk)
theorem XS.Ok.nv{x:XS}(h:x.Ok)(r:Int):NvB x.L.length x.cs.length (nodeV x.L r).c:=by
 unfold nodeV;split;·exact h.nd _ (getD_mem (by omega))
 ·exact nvB_zero _ _
theorem XS.Ok.cell{x:XS}(h:x.Ok)(c:Int):cellV x.cs c<=x.L.length:=by
 unfold cellV;split;·exact getD_le h.cs _
 ·exact nn0 _
structure Nx(g:Gx)(x x':XS)(N:List NdV)(t:Tr)(b:Int):Prop where
 go:Go' g x' t
 ok:x'.Ok
 ext:x'.L=x.L++N
 lc:x.cs.length<=x'.cs.length
 bd:b<=x'.L.length
def Ch(x0 x:XS)(F:Fr):Prop:=∃N,x.L=x0.L++N/\∀f∈famF N,f.2=[]∨f∈F
theorem Ch.base{x0:XS}{F:Fr}:Ch x0 x0 F:=⟨[],by simp,λ f hf=>by simp[famF] at hf⟩
theorem Ch.ext{x0 x x':XS}{F:Fr}{N:List NdV}(h:Ch x0 x F)(e:x'.L=x.L++N):Ch x0 x' (famF N++F):=by
 obtain⟨M,h1,h2⟩:=h;refine⟨M++N,by rw[e,h1,List.append_assoc],λ f hf=>?_⟩;rw[famF_append] at hf;rcases List.mem_append.1 hf with hf|hf;·exact(h2 f hf).imp_right λ h=>List.mem_append_right _ h
 ·exact .inr (List.mem_append_left _ hf)
theorem Ch.nx{g:Gx}{x0 x x':XS}{F:Fr}{N:List NdV}{t:Tr}{b:Int}(h:Nx g x x' N t b)(hc:Ch x0 x F):Ch x0 x' (famF N++F):=hc.ext h.ext
theorem Ch.cons{x0 x:XS}{F:Fr}{f:Option Addr×List Value}(h:Ch x0 x F):Ch x0 x (f::F):=by obtain⟨M,h1,h2⟩:=h;exact⟨M,h1,λ g hg=>(h2 g hg).imp_right λ h=>List.mem_cons_of_mem _ h⟩
theorem Ch.all{x0 x:XS}{A F:Fr}{O:List Ow}(h:Ch x0 x F)(hA:∀f∈famF x0.L,f∈A):HasAll A F O (famF x.L):=by
 obtain⟨M,h1,h2⟩:=h;refine .of λ f hf=>?_;rw[h1,famF_append] at hf;rcases List.mem_append.1 hf with hf|hf;·exact .inr (.inl (hA f hf))
 ·exact(h2 f hf).imp_right λ h=>.inr (.inl h)
theorem SF.repX{w0 w:World}{M:List Nat}{H:List (Nat×Obj)}{A F:Fr}{O:List Ow}{x0 x:XS}(h:SF w0 M H A F O w)(hc:Ch x0 x F)(hA:∀f∈famF x0.L,f∈A)(ok:x.Ok)(r:Int):Rep w (nodeV x.L r).nd (nodeV x.L r).xs (nodeV x.L r).ys:=by
 unfold nodeV;split;·have hv:=getD_mem (L:=x.L) (k:=(r-1).toNat) (by omega);have hk:=(hc.all (O:=O) hA).get;generalize x.L.getD (r-1).toNat NdV.zero=v at hv ⊢;exact(ok.fit _ hv).rep (h.clH (hk (v.nd.brA,refsC v.xs) (mem_famF.2 ⟨v,hv,by simp[NdV.fr]⟩))) (h.clH (hk (v.nd.prA,prC v.ys) (mem_famF.2 ⟨v,hv,by simp[NdV.fr]⟩)))
 ·exact fit_zero.rep (Cl.nil _ _) (Cl.nil _ _)
end
end Go.Ct

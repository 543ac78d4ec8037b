/- An execution of the reference: its state, and how it stands to a tree. -/
import Derived.Test.YtadnboagdhcedaaGreatDoorGGa
set_option linter.unusedSimpArgs false
set_option linter.unusedVariables false
namespace Go.Ct
open Go Go.RowKit
structure XS where
 L:List aL
 cs:List Int
 gen:Int
 acc:Int
 pn:Option Addr
 cn:Nat
 pc:Option Addr
 cc:Nat
 got:List Int
 made:List Int
 cel:List Int
 gns:List Int
 pg:Option Addr
 kg:Nat
 pm:Option Addr
 km:Nat
 pl:Option Addr
 kl:Nat
 pe:Option Addr
 ke:Nat
 a:Nat
 m:Nat
 c:Nat
 g:Nat
 fr:Nat
 st:Bool
 nx:Ac
def XS.nodes(x:XS):List Nv:=x.L.map aL.c
def XS.mm(x:XS):Mm:=⟨x.L.map aL.c,x.cs,x.gen⟩
structure Gx where
 T:Tr
 R:Tr
 s:Mm
 fr:Nat
 N:Nat
structure Gx.Ok(g:Gx):Prop where
 uI:bZ g.T g.N 64
 tameR:∃n,g.fr<=n/\bZ g.R n 64
 hN:g.N<=1073741824
 hf:g.fr<=1
 hs:g.s.nodes.length<=137438953472/\g.s.cs.length<=137438953472/\g.s.gen<=137438953472
structure zg(g:Gx)(x:XS)(t R:Tr):Prop where
 pre:Wk x.nodes g.T (x.got.take x.a) (x.made.take x.m) (x.cel.take x.c) (x.gns.take x.g) t
 suf:Wk x.nodes t (x.got.drop x.a) (x.made.drop x.m) (x.cel.drop x.c) (x.gns.drop x.g) R
 rc:Rc (g.fr-x.fr) g.R g.s R x.mm
 hf:x.fr<=g.fr
 la:x.a<=x.got.length
 lm:x.m<=x.made.length
 lc:x.c<=x.cel.length
 lg:x.g<=x.gns.length
 hN:x.got.length+x.fr=g.N
def Gd(g:Gx)(x:XS)(t:Tr):Prop:=∃R,zg g x t R
def Tr.acc:Tr->Option Ac
 | .load c _=>some ⟨1,c,0,0⟩
 | .nV c o n _=>some ⟨2,c,o,n⟩
 | _=>none
structure ve(g:Gx)(x:XS)(R:Tr):Prop where
 ac:R.acc=some x.nx
 wk:Wk x.nodes g.T x.got x.made x.cel x.gns R
 rc:Rc g.fr g.R g.s R x.mm
 hN:x.got.length=g.N
def yg(g:Gx)(x:XS):Prop:=∃R,ve g x R
def fD(g:Gx)(x:XS)(t:Tr):Prop:=(x.st=false/\Gd g x t)∨(x.st=true/\yg g x)
theorem fD.bS{g:Gx}{x:XS}{t t':Tr}(h:fD g x t)(hs:x.st=true):fD g x t':=by
 rcases h with h|h
 ·rw[hs] at h;exact nomatch h.1
 ·exact .inr h
theorem fD.run{g:Gx}{x:XS}{t:Tr}(h:fD g x t)(hs:x.st=false):Gd g x t:=by
 rcases h with h|h
 ·exact h.2
 ·rw[hs] at h;exact nomatch h.1
theorem fD.to{g:Gx}{x:XS}{t t':Tr}(h:fD g x t)(e:x.st=false->t=t'):fD g x t':=by
 rcases h with h|h
 ·exact .inl ⟨h.1,e h.1▸h.2⟩
 ·exact .inr h
theorem drop_cons{l:List Int}{k:Nat}(h:k<l.length):l.drop k=l.getD k 0::l.drop (k+1):=by
 rw[List.drop_eq_getElem_cons h]
 simp[fI,h]
theorem kH{l:List Int}{k:Nat}(h:k<l.length):l.take (k+1)=l.take k++[l.getD k 0]:=by
 rw[List.take_add_one]
 simp[fI,h]
theorem Wk.ov{L:List Nv}{c:Int}{k:Int->Tr}(v:Int):Wk L (.load c k) [v] [] [] [] (k v):=.load (.nil _)
theorem Wk.xc{L:List Nv}{c o n:Int}{k:Bool->Tr}(v:Int):Wk L (.nV c o n k) [v] [] [] [] (k (v==1)):=.nV (.nil _)
theorem Wk.Wi{L:List Nv}{n:Nv}{i:Int}{k:Int->Tr}(v:Int):Wk L (.alloc n i k) [] [v] [] [] (k v):=.alloc (.nil _)
theorem Wk.He{L:List Nv}{i:Int}{k:Int->Tr}(v:Int):Wk L (.cell i k) [] [] [v] [] (k v):=.cell (.nil _)
theorem Wk.w9{L:List Nv}{k:Int->Tr}(v:Int):Wk L (.gen k) [] [] [] [v] (k v):=.gen (.nil _)
theorem Wk.node1{L:List Nv}{r:Int}{k:Nv->Tr}(h:r<=L.length):Wk L (.node r k) [] [] [] [] (k (cB L r)):=.node h (.nil _)
section
variable{g:Gx}{x:XS}{c o n i r:Int}{k:Int->Tr}{kb:Bool->Tr}{kn:Nv->Tr}{nn:Nv}{t R:Tr}
theorem zg.full(h:zg g x t R):Wk x.nodes g.T x.got x.made x.cel x.gns R:=by
 have:=h.pre.trans h.suf
 simpa only[List.take_append_drop] using this
theorem uU{l:List Int}{k:Nat}(h:l.drop k=[])(h2:k<=l.length):k=l.length:=by
 have:=List.drop_eq_nil_iff.1 h;omega
theorem Gd.Dw(h:Gd g x (.load c k))(ha:x.a<x.got.length):Gd g {x with a:=x.a+1} (k (x.got.getD x.a 0)):=by
 obtain⟨R,h⟩:=h
 have hs:=h.suf
 rw[drop_cons ha] at hs
 have hp:=h.pre.trans (Wk.ov (x.got.getD x.a 0))
 simp only[List.append_nil] at hp
 rw[<- kH ha] at hp
 cases hs with
 | load hs=>exact⟨R,hp,hs,h.rc,h.hf,ha,h.lm,h.lc,h.lg,h.hN⟩
theorem Gd.Kk(h:Gd g x (.nV c o n kb))(ha:x.a<x.got.length):Gd g {x with a:=x.a+1} (kb (x.got.getD x.a 0==1)):=by
 obtain⟨R,h⟩:=h
 have hs:=h.suf
 rw[drop_cons ha] at hs
 have hp:=h.pre.trans (Wk.xc (x.got.getD x.a 0))
 simp only[List.append_nil] at hp
 rw[<- kH ha] at hp
 cases hs with
 | nV hs=>exact⟨R,hp,hs,h.rc,h.hf,ha,h.lm,h.lc,h.lg,h.hN⟩
structure AtR(g:Gx)(x:XS)(t:Tr):Prop where
 wk:Wk x.nodes g.T x.got x.made x.cel x.gns t
 rc:Rc (g.fr-x.fr) g.R g.s t x.mm
 hf:x.fr<=g.fr
 ea:x.a=x.got.length
 em:x.m=x.made.length
 ec:x.c=x.cel.length
 eg:x.g=x.gns.length
 hN:x.got.length+x.fr=g.N
theorem AtR.yn(h:AtR g x t):Gd g x t:=by
 refine⟨t,?_,?_,h.rc,h.hf,by rw[h.ea];exact Nat.le_refl _,by rw[h.em];exact Nat.le_refl _,by rw[h.ec];exact Nat.le_refl _,by rw[h.eg];exact Nat.le_refl _,h.hN⟩
 ·rw[h.ea,h.em,h.ec,h.eg];simpa using h.wk
 ·rw[h.ea,h.em,h.ec,h.eg];simpa using Wk.nil t
theorem zg.atR(h:zg g x t t)(h1:x.got.drop x.a=[])(h2:x.made.drop x.m=[])(h3:x.cel.drop x.c=[])(h4:x.gns.drop x.g=[]):AtR g x t :=
 ⟨h.full,h.rc,h.hf,uU h1 h.la,uU h2 h.lm,uU h3 h.lc,uU h4 h.lg,h.hN⟩
theorem Gd.ic(h:Gd g x (.load c k))(ha:¬x.a<x.got.length):AtR g x (.load c k):=by
 obtain⟨R,h⟩:=h
 have hs:=h.suf
 have e:x.got.drop x.a=[]:=List.drop_eq_nil_iff.2 (by omega)
 rw[e] at hs
 generalize e2:x.made.drop x.m=l2 at hs
 generalize e3:x.cel.drop x.c=l3 at hs
 generalize e4:x.gns.drop x.g=l4 at hs
 cases hs
 exact h.atR e e2 e3 e4
theorem Gd.qt(h:Gd g x (.nV c o n kb))(ha:¬x.a<x.got.length):AtR g x (.nV c o n kb):=by
 obtain⟨R,h⟩:=h
 have hs:=h.suf
 have e:x.got.drop x.a=[]:=List.drop_eq_nil_iff.2 (by omega)
 rw[e] at hs
 generalize e2:x.made.drop x.m=l2 at hs
 generalize e3:x.cel.drop x.c=l3 at hs
 generalize e4:x.gns.drop x.g=l4 at hs
 cases hs
 exact h.atR e e2 e3 e4
theorem AtR.stop{y:XS}(h:AtR g x t)(h0:x.fr=0)(ht:t.acc=some y.nx)(hs:y.st=true)(e1:y.got=x.got)(e2:y.made=x.made)(e3:y.cel=x.cel)(e4:y.gns=x.gns)(e5:y.L=x.L)(e6:y.cs=x.cs)(e7:y.gen=x.gen):fD g y t:=by
 refine .inr ⟨hs,t,ht,?_,?_,?_⟩
 ·simp only[XS.nodes,e1,e2,e3,e4,e5];exact h.wk
 ·have:=h.rc
  rw[h0] at this
  simpa only[XS.mm,e5,e6,e7,Nat.sub_zero] using this
 ·rw[e1];have:=h.hN;omega
theorem AtR.now{y:XS}{t':Tr}{v:Int}(h:AtR g x t)(h0:0<x.fr)(hw:∀L,Wk L t [v] [] [] [] t')(hl:Lp t x.mm t' y.mm)
  (hs:y.st=false) (e1:y.got=x.got++[v]) (e2:y.made=x.made) (e3:y.cel=x.cel) (e4:y.gns=x.gns) (e5:y.L=x.L) (e8:y.fr=x.fr-1) (e9:y.a=x.a+1) (em:y.m=x.m) (ec:y.c=x.c) (eg:y.g=x.g):fD g y t':=by
 refine .inl ⟨hs,AtR.yn ⟨?_,?_,by have:=h.hf;omega,by rw[e9,e1,h.ea];simp,by rw[em,e2,h.em],by rw[ec,e3,h.ec],by rw[eg,e4,h.eg],by rw[e1,e8];have:=h.hN;simp;omega⟩⟩
 ·have:=h.wk.trans (hw x.nodes)
  simp only[List.append_nil] at this
  simp only[XS.nodes,e1,e2,e3,e4,e5];exact this
 ·have:=h.rc.loud hl
  rwa [show g.fr-x.fr+1=g.fr-y.fr by have:=h.hf;omega] at this
theorem Gd.alloc_old(h:Gd g x (.alloc nn i k))(ha:x.m<x.made.length):Gd g {x with m:=x.m+1} (k (x.made.getD x.m 0)):=by
 obtain⟨R,h⟩:=h
 have hs:=h.suf
 rw[drop_cons ha] at hs
 have hp:=h.pre.trans (Wk.Wi (x.made.getD x.m 0))
 simp only[List.append_nil] at hp
 rw[<- kH ha] at hp
 generalize e0:x.got.drop x.a=l0 at hs
 generalize e1:x.cel.drop x.c=l1 at hs
 generalize e2:x.gns.drop x.g=l2 at hs
 cases hs with
 | alloc hs=>exact⟨R,hp,by simp only[];rw[e0,e1,e2];exact hs,h.rc,h.hf,h.la,ha,h.lc,h.lg,h.hN⟩
theorem Gd.Z4(h:Gd g x (.alloc nn i k))(ha:x.m=x.made.length):AtR g x (.alloc nn i k):=by
 obtain⟨R,h⟩:=h
 have hs:=h.suf
 have e:x.made.drop x.m=[]:=List.drop_eq_nil_iff.2 (by omega)
 rw[e] at hs
 generalize e2:x.got.drop x.a=l2 at hs
 generalize e3:x.cel.drop x.c=l3 at hs
 generalize e4:x.gns.drop x.g=l4 at hs
 cases hs
 exact h.atR e2 e e3 e4
theorem Gd.E0(h:Gd g x (.cell i k))(ha:x.c<x.cel.length):Gd g {x with c:=x.c+1} (k (x.cel.getD x.c 0)):=by
 obtain⟨R,h⟩:=h
 have hs:=h.suf
 rw[drop_cons ha] at hs
 have hp:=h.pre.trans (Wk.He (x.cel.getD x.c 0))
 simp only[List.append_nil] at hp
 rw[<- kH ha] at hp
 generalize e0:x.got.drop x.a=l0 at hs
 generalize e1:x.made.drop x.m=l1 at hs
 generalize e2:x.gns.drop x.g=l2 at hs
 cases hs with
 | cell hs=>exact⟨R,hp,by simp only[];rw[e0,e1,e2];exact hs,h.rc,h.hf,h.la,h.lm,ha,h.lg,h.hN⟩
theorem Gd.jh(h:Gd g x (.cell i k))(ha:x.c=x.cel.length):AtR g x (.cell i k):=by
 obtain⟨R,h⟩:=h
 have hs:=h.suf
 have e:x.cel.drop x.c=[]:=List.drop_eq_nil_iff.2 (by omega)
 rw[e] at hs
 generalize e2:x.got.drop x.a=l2 at hs
 generalize e3:x.made.drop x.m=l3 at hs
 generalize e4:x.gns.drop x.g=l4 at hs
 cases hs
 exact h.atR e2 e3 e e4
theorem Gd.Ju(h:Gd g x (.gen k))(ha:x.g<x.gns.length):Gd g {x with g:=x.g+1} (k (x.gns.getD x.g 0)):=by
 obtain⟨R,h⟩:=h
 have hs:=h.suf
 rw[drop_cons ha] at hs
 have hp:=h.pre.trans (Wk.w9 (x.gns.getD x.g 0))
 simp only[List.append_nil] at hp
 rw[<- kH ha] at hp
 generalize e0:x.got.drop x.a=l0 at hs
 generalize e1:x.made.drop x.m=l1 at hs
 generalize e2:x.cel.drop x.c=l2 at hs
 cases hs with
 | gen hs=>exact⟨R,hp,by simp only[];rw[e0,e1,e2];exact hs,h.rc,h.hf,h.la,h.lm,h.lc,ha,h.hN⟩
theorem Gd.tg(h:Gd g x (.gen k))(ha:x.g=x.gns.length):AtR g x (.gen k):=by
 obtain⟨R,h⟩:=h
 have hs:=h.suf
 have e:x.gns.drop x.g=[]:=List.drop_eq_nil_iff.2 (by omega)
 rw[e] at hs
 generalize e2:x.got.drop x.a=l2 at hs
 generalize e3:x.made.drop x.m=l3 at hs
 generalize e4:x.cel.drop x.c=l4 at hs
 cases hs
 exact h.atR e2 e3 e4 e
theorem Gd.node(h:Gd g x (.node r kn))(hr:r<=x.L.length):Gd g x (kn (cB x.nodes r)):=by
 have hr':r<=x.nodes.length:=by simpa[XS.nodes] using hr
 obtain⟨R,h⟩:=h
 have hs:=h.suf
 have hp:=h.pre.trans (Wk.node1 (k:=kn) hr')
 simp only[List.append_nil] at hp
 generalize e1:x.got.drop x.a=l1 at hs
 generalize e2:x.made.drop x.m=l2 at hs
 generalize e3:x.cel.drop x.c=l3 at hs
 generalize e4:x.gns.drop x.g=l4 at hs
 cases hs with
 | nil=>exact⟨_,hp,by rw[e1,e2,e3,e4];exact .nil _,h.rc.Np (.node r kn x.mm (by simpa[XS.mm] using hr)),h.hf,h.la,h.lm,h.lc,h.lg,h.hN⟩
 | node _ hs=>exact⟨R,hp,by rw[e1,e2,e3,e4];exact hs,h.rc,h.hf,h.la,h.lm,h.lc,h.lg,h.hN⟩
theorem fD.node(h:fD g x (.node r kn))(hr:r<=x.L.length):fD g x (kn (cB x.nodes r)):=by
 rcases h with h|h
 ·exact .inl ⟨h.1,h.2.node hr⟩
 ·exact .inr h
theorem AtR.Np{y:XS}{t':Tr}{ms cl gn:List Int}{N:List aL}(h:AtR g x t)(hw:∀L,Wk L t [] ms cl gn t')(hl:Sp t x.mm t' y.mm)
  (hs:y.st=false) (e1:y.got=x.got) (e2:y.made=x.made++ms) (e3:y.cel=x.cel++cl) (e4:y.gns=x.gns++gn) (e5:y.L=x.L++N) (e8:y.fr=x.fr) (e9:y.a=x.a) (em:y.m=x.m+ms.length) (ec:y.c=x.c+cl.length) (eg:y.g=x.g+gn.length):fD g y t':=by
 refine .inl ⟨hs,AtR.yn ⟨?_,?_,by rw[e8];exact h.hf,by rw[e9,e1,h.ea],by rw[em,e2,h.em];simp,by rw[ec,e3,h.ec];simp,by rw[eg,e4,h.eg];simp,by rw[e1,e8];exact h.hN⟩⟩
 ·have:=(h.wk.trans (hw x.nodes)).mono (N:=N.map aL.c)
  simp only[List.append_nil] at this
  have e:y.nodes=x.nodes++N.map aL.c:=by simp[XS.nodes,e5]
  rw[e,e1,e2,e3,e4];exact this
 ·rw[e8];exact h.rc.Np hl
theorem AtR.room(hg:g.Ok)(h:AtR g x t):∃n c,bZ t n c/\c<=64/\x.L.length+c<=137438953600/\x.cs.length+c<=137438953600/\x.gen+c<=137438953600/\x.made.length<=137438953472/\x.cel.length<=137438953472/\x.gns.length<=137438953472:=by
 obtain⟨n,h1,h2⟩:=hg.tameR
 have hf:=hg.hf
 obtain⟨c',t1,t2,_,t3,t4,t5⟩:=h.rc.uI (Nat.le_refl 64) h2 (by omega)
 obtain⟨c2,_,_,u3⟩:=h.wk.uI (Nat.le_refl 64) hg.uI (by have:=h.hN;omega)
 have:=hg.hs
 have:=hg.hN
 have:=h.hN
 simp only[XS.mm,List.length_map] at t3 t4 t5
 refine⟨_,c',t1,t2,by omega,by omega,by omega,by omega,by omega,by omega⟩
theorem Gd.Tj(hg:g.Ok)(h:Gd g x .stuck):False:=by
 obtain⟨R,h⟩:=h
 obtain⟨c2,u1,_,_⟩:=h.pre.uI (Nat.le_refl 64) hg.uI (by have:=h.hN;have:=h.la;simp;omega)
 exact u1
end
end Go.Ct

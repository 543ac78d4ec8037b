/- Merged. -/
import Derived.Test.YtdeecdfockjoiaaGreatDoorGFun
set_option linter.unusedSimpArgs false
set_option linter.unusedVariables false
namespace Go.Ct
open Go Go.RowKit
section
abbrev Fr:=List (Option Addr×List Value)
structure Ow where
 p:Option Addr
 cs:List Value
 c:Nat
 T:TypeId
 sz:Nat
def iC:Option Addr->List Nat|some a=>[a.block]|none=>[]
def Ks(H:List (Nat×Obj))(O:List Ow):List Nat:=H.map Prod.fst++O.flatMap λ o=>iC o.p
inductive mU:Fr->Option Addr->List Value->Prop where
 | head {a:Option Addr} {cs:List Value} {F:Fr}:mU ((a,cs)::F) a cs
 | tail {f:Option Addr×List Value} {F:Fr} {a:Option Addr} {cs:List Value}:mU F a cs->mU (f::F) a cs
theorem mU.mem{F:Fr}{a:Option Addr}{cs:List Value}(h:mU F a cs):(a,cs)∈F:=by
 induction h with
 | head=>exact List.mem_cons_self ..
 | tail _ ih=>exact List.mem_cons_of_mem _ ih
inductive rM:List Ow->Nat->Option Addr->List Value->Nat->TypeId->Nat->Prop where
 | head {p:Option Addr} {cs:List Value} {c:Nat} {T:TypeId} {sz:Nat} {O:List Ow}:rM (⟨p,cs,c,T,sz⟩::O) 0 p cs c T sz
 | tail {o:Ow} {O:List Ow} {i:Nat} {p:Option Addr} {cs:List Value} {c:Nat} {T:TypeId} {sz:Nat}:rM O i p cs c T sz->rM (o::O) (i+1) p cs c T sz
theorem rM.mem{O:List Ow}{i:Nat}{p:Option Addr}{cs:List Value}{c:Nat}{T:TypeId}{sz:Nat}(h:rM O i p cs c T sz):(⟨p,cs,c,T,sz⟩:Ow)∈O:=by
 induction h with
 | head=>exact List.mem_cons_self ..
 | tail _ ih=>exact List.mem_cons_of_mem _ ih
def gU:List Ow->Nat->Ow->List Ow
 | [],_,_=>[]
 | _::r,0,o=>o::r
 | p::r,i+1,o=>p::gU r i o
def Bs:List Ow->Nat->List Ow
 | [],_=>[]
 | _::r,0=>r
 | p::r,i+1=>p::Bs r i
def Hdr(a p:Option Addr)(cs:List Value)(c:Nat):Prop:=a=p∨(p=none/\cs=[]/\c=0)
inductive qC(A F:Fr)(O:List Ow)(a:Option Addr)(cs:List Value):Prop where
 | old (h:mU A a cs)
 | new (h:mU F a cs)
 | own {i c:Nat} {T:TypeId} {sz:Nat} (h:rM O i a cs c T sz)
 | hdr {i c:Nat} {T:TypeId} {sz:Nat} {p:Option Addr} (h:rM O i p cs c T sz) (e:Hdr a p cs c)
inductive bM(F:Fr):Fr->Prop where
 | nil:bM F []
 | cons {a:Option Addr} {cs:List Value} {F':Fr} (h:mU F a cs) (hs:bM F F'):bM F ((a,cs)::F')
theorem bM.sub{F F':Fr}(h:bM F F'):∀f∈F',f∈F:=by
 induction h with
 | nil=>intro f hf;exact(List.not_mem_nil hf).elim
 | cons h _ ih=>
  intro f hf;rcases List.mem_cons.1 hf with rfl|hf;·exact h.mem
  ·exact ih f hf
theorem Cl.lt{w:World}{a:Option Addr}{cs:List Value}(h:Cl w a cs)(hc:cs≠[]):dJ a<w.heap.size:=by have h0:0<cs.length:=List.length_pos_iff.2 hc;exact World.block_lt_of_cell? w ⟨dJ a,eQ a+0,none⟩ (h.at_ 0 cs[0] (List.getElem?_eq_getElem h0)).2
def uU(w:World)(o:Ow):Prop :=
 (o.p=none/\o.cs=[]/\o.c=0)∨∃b rest,o.p=some ⟨b,0,none⟩/\w.heap[b]?=some (.cells ⟨o.cs++rest⟩ o.T (0,0))/\(o.cs++rest).length=o.c*o.sz
variable{w:World}{o:Ow}
theorem uU.cl(h:uU w o):Cl w o.p o.cs:=by
 rcases h with⟨_,h2,_⟩|⟨b,rest,h1,h2,_⟩;·rw[h2];exact Cl.nil _ _
 ·rw[h1];exact Cl.block (pre:=[]) (rest:=rest) (by simpa using h2) rfl
theorem uU.lt(h:uU w o):∀b∈iC o.p,b<w.heap.size:=by
 rcases h with⟨h1,_,_⟩|⟨b,rest,h1,h2,_⟩;·rw[h1];simp[iC]
 ·rw[h1];simp only[iC,List.mem_singleton,forall_eq];exact jZ h2
theorem uU.iT{w':World}(h:uU w o)(hk:∀b∈iC o.p,w'.heap[b]?=w.heap[b]?):uU w' o:=by
 rcases h with h|⟨b,rest,h1,h2,h3⟩;·exact .inl h
 ·exact .inr ⟨b,rest,h1,by rw[hk b (by rw[h1];simp[iC])];exact h2,h3⟩
theorem uU.Sz(h:uU w o)(hc:o.cs≠[]):iC o.p=[dJ o.p]:=by
 rcases h with⟨_,h2,_⟩|⟨b,rest,h1,_,_⟩;·exact absurd h2 hc
 ·rw[h1];rfl
structure SF(w0:World)(M:List Nat)(H:List (Nat×Obj))(A F:Fr)(O:List Ow)(w:World):Prop where
 st:St w0 M H w
 old:∀f∈A,Cl w f.1 f.2/\(f.2≠[]->dJ f.1∉Ks H O)
 new:∀f∈F,Cl w f.1 f.2/\(f.2≠[]->dJ f.1∉Ks H O/\(w0.heap.size<=dJ f.1∨dJ f.1∈M))
 own:∀o∈O,uU w o/\∀b∈iC o.p,w0.heap.size<=b∨b∈M
 dis:(Ks H O).Nodup
section
variable{P:Program}{n:Nat}{Q:Exit->Act->World->Prop}{ks:List CK}{S:List (Nat×Value)}{ops:Array Oper}{l:List Oper}
variable{w0 w w':World}{M:List Nat}{H H':List (Nat×Obj)}{A F F':Fr}{O O':List Ow}{G:World->Prop}
theorem Ef{α β:Type}{f:α->List β}{l l':List α}(h:l'.Sublist l):(l'.flatMap f).Sublist (l.flatMap f):=by
 induction h with
 | slnil=>exact List.Sublist.refl _
 | cons a _ ih=>rw[List.flatMap_cons];exact ih.trans (List.sublist_append_right _ _)
 | cons_cons a _ ih=>rw[List.flatMap_cons,List.flatMap_cons];exact(List.Sublist.refl _).append ih
theorem fA{b:Nat}:b∈Ks H O↔(∃p∈H,p.1=b)∨∃o∈O,b∈iC o.p:=by simp[Ks]
theorem SF.lt(h:SF w0 M H A F O w):∀b∈Ks H O,b<w.heap.size:=by
 intro b hb;rcases fA.1 hb with⟨p,hp,rfl⟩|⟨o,ho,hb⟩;·exact jZ (h.st.has p hp)
 ·exact(h.own o ho).1.lt b hb
theorem SF.T4(h:SF w0 M H A F O w):∀b∈Ks H O,w0.heap.size<=b∨b∈M:=by
 intro b hb;rcases fA.1 hb with⟨p,hp,rfl⟩|⟨o,ho,hb⟩;·exact(h.st.new p hp).symm
 ·exact(h.own o ho).2 b hb
theorem SF.cl(h:SF w0 M H A F O w){a:Option Addr}{cs:List Value}(hf:qC A F O a cs):Cl w a cs:=by
 cases hf with
 | old hf=>exact(h.old _ hf.mem).1
 | new hf=>exact(h.new _ hf.mem).1
 | own hf=>exact(h.own _ hf.mem).1.cl
 | hdr hf e=>
  rcases e with rfl|⟨_,rfl,_⟩;·exact(h.own _ hf.mem).1.cl
  ·exact Cl.nil _ _
theorem SF.s0(w:World):SF w [] [] [] [] [] w:=⟨St.refl w,λ _ h=>(List.not_mem_nil h).elim,λ _ h=>(List.not_mem_nil h).elim,λ _ h=>(List.not_mem_nil h).elim,List.nodup_nil⟩
theorem SF.begin{A:Fr}(h:∀f∈A,Cl w f.1 f.2):SF w [] [] A [] [] w:=⟨St.refl w,λ f hf=>⟨h f hf,λ _=>by simp[Ks]⟩,λ _ h=>(List.not_mem_nil h).elim,λ _ h=>(List.not_mem_nil h).elim,List.nodup_nil⟩
theorem SF.s1{a1:Option Addr}{c1:List Value}(h1:Cl w a1 c1):SF w [] [] [(a1,c1)] [] [] w:=SF.begin λ f hf=>by simp only[List.mem_cons,List.not_mem_nil,or_false] at hf;subst hf;exact h1
theorem SF.s2{a1 a2:Option Addr}{c1 c2:List Value}(h1:Cl w a1 c1)(h2:Cl w a2 c2):SF w [] [] [(a1,c1),(a2,c2)] [] [] w:=SF.begin λ f hf=>by
 simp only[List.mem_cons,List.not_mem_nil,or_false] at hf;rcases hf with rfl|rfl;·exact h1
 ·exact h2
structure ay(w w':World)(D:List Nat):Prop where
 os:w'.os=w.os
 tape:w'.tape=w.tape
 output:w'.output=w.output
 size:w.heap.size<=w'.heap.size
 iT:∀b,b<w.heap.size->b∉D->w'.heap[b]?=w.heap[b]?
variable{a p:Option Addr}{cs:List Value}{D:List Nat}{X:Type}{Hc:List (Nat×Obj)}{Oc:List Ow}{Fc:Fr}{i c sz:Nat}{T:TypeId}{o':Ow}
theorem St.chg(h:St w M H w'):ay w w' M:=⟨h.os,h.tape,h.output,h.size,h.iT⟩
theorem Cl.chg(h:Cl w a cs)(c:ay w w' D)(hn:cs≠[]->dJ a∉D):Cl w' a cs:=by
 refine⟨λ j u hj=>⟨(h.at_ j u hj).1,?_⟩⟩;have hne:cs≠[]:=by rintro rfl;simp at hj
 have:=(h.at_ j u hj).2;rw[World.cell?_of_block (c.iT _ (h.lt hne) (hn hne))];exact this
theorem SF.to(h:SF w0 M H A F O w)(c:ay w w' D)(hD:∀b∈D,b∈Ks H O)(hH:∀p∈H',w'.heap[p.1]?=some p.2)(hO:∀o∈O',uU w' o)(hK:∀b∈Ks H' O',b∈Ks H O∨w.heap.size<=b)(hn:(Ks H' O').Nodup):SF w0 M H' A F O' w':=by
 have hnew:∀b∈Ks H' O',w0.heap.size<=b∨b∈M:=λ b hb=>by
  rcases hK b hb with h1|h1;·exact h.T4 b h1
  ·exact .inl (Nat.le_trans h.st.size h1)
 have key:∀{a:Option Addr} {cs:List Value},Cl w a cs->(cs≠[]->dJ a∉Ks H O)->Cl w' a cs/\(cs≠[]->dJ a∉Ks H' O'):=by
  intro a cs hc hn;refine⟨hc.chg c λ hcs hm=>hn hcs (hD _ hm),λ hcs hm=>?_⟩;rcases hK _ hm with h3|h3;·exact hn hcs h3
  ·have:=hc.lt hcs;omega
 refine⟨⟨c.os.trans h.st.os,c.tape.trans h.st.tape,c.output.trans h.st.output,Nat.le_trans h.st.size c.size,λ b hb hM=>?_,hH,λ p hp=>(hnew p.1 (fA.2 (.inl ⟨p,hp,rfl⟩))).symm,?_⟩,λ f hf=>key (h.old f hf).1 (h.old f hf).2,λ f hf=>?_,λ o ho=>⟨hO o ho,λ b hb=>hnew b (fA.2 (.inr ⟨o,ho,hb⟩))⟩,hn⟩
 ·rw[c.iT b (Nat.lt_of_lt_of_le hb h.st.size) λ hm=>?_];·exact h.st.iT b hb hM
  ·rcases h.T4 b (hD b hm) with h1|h1;·omega
   ·exact hM h1
 ·exact(List.nodup_append.1 hn).1
 ·have k:=key (h.new f hf).1 (λ hc=>((h.new f hf).2 hc).1)
  exact⟨k.1,λ hc=>⟨k.2 hc,((h.new f hf).2 hc).2⟩⟩
theorem SF.aBu(h:SF w0 M H A F O w){o:Ow}(ho:o∈O){b:Nat}(hb:b∈iC o.p):b∉H.map Prod.fst:=λ hm=>by have:=(List.nodup_append.1 h.dis).2.2 b hm b (List.mem_flatMap.2 ⟨o,ho,hb⟩);exact this rfl
theorem SF.step(h:SF w0 M H A F O w){H':List (Nat×Obj)}(h2:St w (H.map Prod.fst) H' w'):SF w0 M H' A F O w':=by
 refine h.to h2.chg (λ b hb=>List.mem_append_left _ hb) h2.has (λ o ho=>(h.own o ho).1.iT λ b hb=>h2.iT b ((h.own o ho).1.lt b hb) (h.aBu ho hb)) (λ b hb=>?_) ?_
 ·rcases fA.1 hb with⟨p,hp,rfl⟩|⟨o,ho,hb⟩
  ·rcases h2.new p hp with h3|h3;·exact .inl (List.mem_append_left _ h3)
   ·exact .inr h3
  ·exact .inl (fA.2 (.inr ⟨o,ho,hb⟩))
 ·refine List.nodup_append.2 ⟨h2.nodup,(List.nodup_append.1 h.dis).2.1,λ a ha b hb e=>?_⟩;subst e;obtain⟨o,ho,hb⟩:=List.mem_flatMap.1 hb;obtain⟨p,hp,rfl⟩:=List.mem_map.1 ha;rcases h2.new p hp with h3|h3;·exact h.aBu ho hb h3
  ·have:=(h.own o ho).1.lt _ hb;omega
theorem pu.mono{X:Type}{V:X->Value}{G1 G2:X->World->Prop}{r:Result Next}(h:pu P X V G1 r)(hG:∀x w,G1 x w->G2 x w):pu P X V G2 r:=by
 cases r with
 | ok nx w'=>
  cases nx<;>simp only[pu] at h ⊢;case value v=>obtain⟨x,hx,hg⟩:=h;exact⟨x,hx,hG _ _ hg⟩
  case skip=>obtain⟨x,hx,hg⟩:=h;exact⟨x,hx,hG _ _ hg⟩
  case enter f args=>exact h.mono λ e w'' ⟨x,hx,hg⟩=>⟨x,hx,hG _ _ hg⟩
 | halt x w'=>exact h.elim
theorem iE{o:Oper}{v:Value}(h:aN P S (St w0 M H) o v):aN P S (SF w0 M H A F O) o v:=⟨λ w hw=>h.run w hw.st⟩
theorem cC{o:Oper}{V:X->Value}{H':X->List (Nat×Obj)}(h:∀w1:World,aW P S (St w1 (H.map Prod.fst) H) o X V (λ x=>St w1 (H.map Prod.fst) (H' x))) :
  aW P S (SF w0 M H A F O) o X V (λ x=>SF w0 M (H' x) A F O):=⟨λ w hw=>((h w).run w (Kn hw.st)).mono λ _ _ hg=>hw.step hg⟩
theorem SF.drew(h:SF w0 M H A F O w):SF w0 M H A F O w.drew:=⟨h.st.drew,λ f hf=>⟨⟨(h.old f hf).1.at_⟩,(h.old f hf).2⟩,λ f hf=>⟨⟨(h.new f hf).1.at_⟩,(h.new f hf).2⟩,h.own,h.dis⟩
theorem SF.sub(h:SF w0 M H A F O w)(hH:H'.Sublist H)(hF:bM F F')(hO:O'.Sublist O):SF w0 M H' A F' O' w:=by have hs:(Ks H' O').Sublist (Ks H O):=(hH.map _).append (Ef hO);exact⟨h.st.sub hH,λ f hf=>⟨(h.old f hf).1,λ hc hm=>(h.old f hf).2 hc (hs.subset hm)⟩,λ f hf=>⟨(h.new f (hF.sub f hf)).1,λ hc=>⟨λ hm=>((h.new f (hF.sub f hf)).2 hc).1 (hs.subset hm),((h.new f (hF.sub f hf)).2 hc).2⟩⟩,λ o ho=>h.own o (hO.subset ho),h.dis.sublist hs⟩
theorem SF.ph(h:SF w0 M H A F O w):SF w0 M H [] F O w:=⟨h.st,λ _ hf=>(List.not_mem_nil hf).elim,h.new,h.own,h.dis⟩
theorem SF.ret(h:SF w0 M H A F O w)(hH:H'.Sublist H)(hF:bM F F')(hO:O'.Sublist O):SF w0 M H' [] F' O' w:=(h.sub hH hF hO).ph
theorem xG(Hc:List (Nat×Obj))(Oc:List Ow):∀b,b∈Ks (Hc++H) (Oc++O)↔b∈Ks Hc Oc∨b∈Ks H O:=by
 intro b;simp only[fA,List.mem_append];constructor
 ·rintro (⟨p,hp|hp,rfl⟩|⟨o,ho|ho,hb⟩);·exact .inl (.inl ⟨p,hp,rfl⟩)
  ·exact .inr (.inl ⟨p,hp,rfl⟩)
  ·exact .inl (.inr ⟨o,ho,hb⟩)
  ·exact .inr (.inr ⟨o,ho,hb⟩)
 ·rintro ((⟨p,hp,rfl⟩|⟨o,ho,hb⟩)|(⟨p,hp,rfl⟩|⟨o,ho,hb⟩));·exact .inl ⟨p,.inl hp,rfl⟩
  ·exact .inr ⟨o,.inl ho,hb⟩
  ·exact .inl ⟨p,.inr hp,rfl⟩
  ·exact .inr ⟨o,.inr ho,hb⟩
theorem Sa(h1:(Ks Hc Oc).Nodup)(h2:(Ks H O).Nodup)(hd:∀b∈Ks Hc Oc,b∉Ks H O):(Ks (Hc++H) (Oc++O)).Nodup:=by
 have hp:(Ks (Hc++H) (Oc++O)).Perm (Ks Hc Oc++Ks H O):=by unfold Ks;rw[List.map_append,List.flatMap_append];simp only[List.append_assoc];refine List.Perm.append_left _ ?_;rw[<- List.append_assoc,<- List.append_assoc];exact List.Perm.append_right _ List.perm_append_comm
 rw[hp.nodup_iff];exact List.nodup_append.2 ⟨h1,h2,λ a ha b hb e=>hd a ha (e▸hb)⟩
theorem SF.call(h:SF w0 M H A F O w)(hc:SF w [] Hc [] Fc Oc w'):SF w0 M (Hc++H) A (Fc++F) (Oc++O) w':=by
 have fresh:∀b∈Ks Hc Oc,w.heap.size<=b:=λ b hb=>(hc.T4 b hb).elim id λ h=>(List.not_mem_nil h).elim
 have hk:∀b,b<w.heap.size->w'.heap[b]?=w.heap[b]?:=λ b hb=>hc.st.iT b hb (by simp)
 have h1:SF w0 M (Hc++H) A F (Oc++O) w':=by
  refine h.to hc.st.chg (λ b hb=>(List.not_mem_nil hb).elim) (λ p hp=>?_) (λ o ho=>?_) (λ b hb=>?_) (Sa hc.dis h.dis λ b hb hm=>?_)
  ·rcases List.mem_append.1 hp with hp|hp;·exact hc.st.has p hp
   ·have:=h.st.has p hp;rw[hk _ (jZ this)];exact this
  ·rcases List.mem_append.1 ho with ho|ho;·exact(hc.own o ho).1
   ·exact(h.own o ho).1.iT λ b hb=>hk b ((h.own o ho).1.lt b hb)
  ·rcases(xG Hc Oc b).1 hb with hb|hb
   ·exact .inr (fresh b hb)
   ·exact .inl hb
  ·have:=fresh b hb;have:=h.lt b hm;omega
 refine⟨h1.st,h1.old,λ f hf=>?_,h1.own,h1.dis⟩;rcases List.mem_append.1 hf with hf|hf
 ·have k:=hc.new f hf;have k2:f.2≠[]->w.heap.size<=dJ f.1:=λ hcs=>(k.2 hcs).2.elim id λ h=>(List.not_mem_nil h).elim
  refine⟨k.1,λ hcs=>⟨λ hm=>?_,.inl (Nat.le_trans h.st.size (k2 hcs))⟩⟩;rcases(xG Hc Oc _).1 hm with hm|hm
  ·exact(k.2 hcs).1 hm
  ·have:=h.lt _ hm;have:=k2 hcs;omega
 ·exact h1.new f hf
theorem SF.X9(h:SF w0 M H A F O w){Hm H1:List (Nat×Obj)}{Om O1:List Ow}(hc:SF w D (Hm++Hc) [] Fc (Om++Oc) w')(hD:∀b∈D,b∈Ks H O)(hH1:∀p∈H1,p∈Hm∨(p∈H/\p.1∉D))(hO1:∀o∈O1,o∈Om∨(o∈O/\∀b∈iC o.p,b∉D))(hn:(Ks H1 O1).Nodup):SF w0 M (Hc++H1) A (Fc++F) (Oc++O1) w':=by
 have inH:∀p∈Hc,p.1∈Ks (Hm++Hc) (Om++Oc):=λ p hp=>fA.2 (.inl ⟨p,List.mem_append_right _ hp,rfl⟩)
 have hk:∀b,b<w.heap.size->b∉D->w'.heap[b]?=w.heap[b]?:=λ b hb hd=>hc.st.iT b hb hd
 have hsub:(Ks Hc Oc).Sublist (Ks (Hm++Hc) (Om++Oc)):=by unfold Ks;rw[List.map_append,List.flatMap_append];exact(List.sublist_append_right _ _).append (List.sublist_append_right _ _)
 have perm:(Ks (Hm++Hc) (Om++Oc)).Perm (Ks Hm Om++Ks Hc Oc):=by unfold Ks;rw[List.map_append,List.flatMap_append];simp only[List.append_assoc];refine List.Perm.append_left _ ?_;rw[<- List.append_assoc,<- List.append_assoc];exact List.Perm.append_right _ List.perm_append_comm
 have disj:∀b∈Ks Hc Oc,b∉Ks Hm Om:=λ b hb hm=>by have:=(perm.nodup_iff.1 hc.dis);exact(List.nodup_append.1 this).2.2 b hm b hb rfl
 have kin:∀b∈Ks H1 O1,b∈Ks Hm Om∨(b∈Ks H O/\b∉D):=λ b hb=>by
  rcases fA.1 hb with⟨p,hp,rfl⟩|⟨o,ho,hb⟩
  ·rcases hH1 p hp with h1|⟨h1,h2⟩;·exact .inl (fA.2 (.inl ⟨p,h1,rfl⟩))
   ·exact .inr ⟨fA.2 (.inl ⟨p,h1,rfl⟩),h2⟩
  ·rcases hO1 o ho with h1|⟨h1,h2⟩;·exact .inl (fA.2 (.inr ⟨o,h1,hb⟩))
   ·exact .inr ⟨fA.2 (.inr ⟨o,h1,hb⟩),h2 b hb⟩
 have kbig:∀b∈Ks (Hm++Hc) (Om++Oc),b∈Ks H O∨w.heap.size<=b:=λ b hb=>(hc.T4 b hb).elim .inr λ h=>.inl (hD b h)
 have kc:∀b∈Ks Hc Oc,b∈D∨w.heap.size<=b:=λ b hb=>(hc.T4 b (hsub.subset hb)).elim .inr .inl
 have h1:SF w0 M (Hc++H1) A F (Oc++O1) w':=by
  refine h.to hc.st.chg hD (λ p hp=>?_) (λ o ho=>?_) (λ b hb=>?_) (Sa (hc.dis.sublist hsub) hn λ b hb hm=>?_)
  ·rcases List.mem_append.1 hp with hp|hp;·exact hc.st.has p (List.mem_append_right _ hp)
   ·rcases hH1 p hp with h1|⟨h1,h2⟩;·exact hc.st.has p (List.mem_append_left _ h1)
    ·have:=h.st.has p h1;rw[hk _ (jZ this) h2];exact this
  ·rcases List.mem_append.1 ho with ho|ho;·exact(hc.own o (List.mem_append_right _ ho)).1
   ·rcases hO1 o ho with h1|⟨h1,h2⟩;·exact(hc.own o (List.mem_append_left _ h1)).1
    ·exact(h.own o h1).1.iT λ b hb=>hk b ((h.own o h1).1.lt b hb) (h2 b hb)
  ·rcases(xG Hc Oc b).1 hb with hb|hb
   ·exact kbig b (hsub.subset hb)
   ·rcases kin b hb with h1|h1;·exact kbig b (perm.mem_iff.2 (List.mem_append_left _ h1))
    ·exact .inl h1.1
  ·rcases kin b hm with h1|⟨h1,h2⟩;·exact disj b hb h1
   ·rcases kc b hb with h3|h3;·exact h2 h3
    ·have:=h.lt b h1;omega
 refine⟨h1.st,h1.old,λ f hf=>?_,h1.own,h1.dis⟩;rcases List.mem_append.1 hf with hf|hf
 ·have k:=hc.new f hf;refine⟨k.1,λ hcs=>⟨λ hm=>?_,(k.2 hcs).2.elim (λ h1=>.inl (Nat.le_trans h.st.size h1)) λ h1=>h.T4 _ (hD _ h1)⟩⟩;rcases(xG Hc Oc _).1 hm with hm|hm
  ·exact(k.2 hcs).1 (hsub.subset hm)
  ·rcases kin _ hm with h2|h2;·exact(k.2 hcs).1 (perm.mem_iff.2 (List.mem_append_left _ h2))
   ·have:=h.lt _ h2.1;rcases(k.2 hcs).2 with h3|h3
    ·omega
    ·exact h2.2 h3
 ·exact h1.new f hf
theorem SF.apart(h:SF w0 M H A F O w)(hf:qC A F [] a cs)(hc:cs≠[]):dJ a∉Ks H O:=by
 cases hf with
 | old hf=>exact(h.old _ hf.mem).2 hc
 | new hf=>exact((h.new _ hf.mem).2 hc).1
 | own hf=>cases hf
 | hdr hf _=>cases hf
theorem Ig(h:rM O i p cs c T sz):∀o∈gU O i o',o=o'∨o∈Bs O i:=by
 induction h with
 | head=>intro o ho;simp only[gU] at ho;exact(List.mem_cons.1 ho).imp id id
 | tail h ih=>
  intro o ho;simp only[gU] at ho;rcases List.mem_cons.1 ho with rfl|ho;·exact .inr (by simp only[Bs];exact List.mem_cons_self ..)
  ·exact(ih o ho).imp id λ h=>by simp only[Bs];exact List.mem_cons_of_mem _ h
theorem vG:∀(O:List Ow) (i:Nat),(Bs O i).Sublist O
 | [],_=>List.Sublist.refl _
 | p::r,0=>List.sublist_cons_self p r
 | p::r,i+1=>(vG r i).cons_cons p
theorem wV(h:rM O i p cs c T sz):(O.flatMap λ o=>iC o.p).Perm (iC p++(Bs O i).flatMap λ o=>iC o.p):=by
 induction h with
 | head=>simp[Bs]
 | @tail o O i p cs c T sz h ih=>simp only[Bs,List.flatMap_cons];exact(List.Perm.append_left _ ih).trans E1f
theorem Kl(h:rM O i p cs c T sz):((gU O i o').flatMap λ o=>iC o.p).Perm (iC o'.p++(Bs O i).flatMap λ o=>iC o.p):=by
 induction h with
 | head=>simp[Bs,gU]
 | @tail o O i p cs c T sz h ih=>simp only[Bs,gU,List.flatMap_cons];exact(List.Perm.append_left _ ih).trans E1f
theorem SF.yX(h:SF w0 M H A F O w)(ho:rM O i p cs c T sz)(c1:ay w w' (iC p))(hok:uU w' o')(hb:∀b∈iC o'.p,b∈iC p∨w.heap.size<=b)(hnd:(iC o'.p).Nodup):SF w0 M H A F (gU O i o') w':=by
 have hin:∀b∈iC p,b∈Ks H O:=λ b hb=>fA.2 (.inr ⟨_,ho.mem,hb⟩)
 have hdel:∀o∈Bs O i,o∈O:=λ o h=>(vG O i).subset h
 have pd:=wV ho;have nd:=List.nodup_append.1 h.dis;have nd2:=List.nodup_append.1 (pd.nodup_iff.1 nd.2.1);refine h.to c1 hin (λ q hq=>?_) (λ o h1=>?_) (λ b hb1=>?_) ?_
 ·have:=h.st.has q hq;rw[c1.iT _ (jZ this) λ hm=>?_];·exact this
  ·exact nd.2.2 q.1 (List.mem_map.2 ⟨q,hq,rfl⟩) q.1 (List.mem_flatMap.2 ⟨_,ho.mem,hm⟩) rfl
 ·rcases Ig ho o h1 with rfl|h2;·exact hok
  ·refine(h.own o (hdel o h2)).1.iT λ b hb2=>c1.iT b ((h.own o (hdel o h2)).1.lt b hb2) λ hm=>?_;exact nd2.2.2 b hm b (List.mem_flatMap.2 ⟨o,h2,hb2⟩) rfl
 ·rcases fA.1 hb1 with⟨q,hq,rfl⟩|⟨o,h1,hb2⟩;·exact .inl (fA.2 (.inl ⟨q,hq,rfl⟩))
  ·rcases Ig ho o h1 with rfl|h2;·exact(hb b hb2).imp (hin b) id
   ·exact .inl (fA.2 (.inr ⟨o,hdel o h2,hb2⟩))
 ·unfold Ks;rw[((List.Perm.append_left _ (Kl ho)).nodup_iff)];refine List.nodup_append.2 ⟨nd.1,List.nodup_append.2 ⟨hnd,nd2.2.1,λ a ha b hb1 e=>?_⟩,λ a ha b hb1 e=>?_⟩
  ·subst e;rcases hb a ha with h1|h1;·exact nd2.2.2 a h1 a hb1 rfl
   ·obtain⟨o,h2,hb2⟩:=List.mem_flatMap.1 hb1;have:=(h.own o (hdel o h2)).1.lt a hb2;omega
  ·subst e;rcases List.mem_append.1 hb1 with h1|h1
   ·rcases hb a h1 with h2|h2;·exact nd.2.2 a ha a (pd.mem_iff.2 (List.mem_append_left _ h2)) rfl
    ·obtain⟨q,hq,rfl⟩:=List.mem_map.1 ha;have:=jZ (h.st.has q hq);omega
   ·exact nd.2.2 a ha a (pd.mem_iff.2 (List.mem_append_right _ h1)) rfl
theorem SF.Ov(h:SF w0 M H A F O w)(c1:ay w w' [])(hok:uU w' o')(hb:∀b∈iC o'.p,w.heap.size<=b)(hnd:(iC o'.p).Nodup):SF w0 M H A F (o'::O) w':=by
 refine h.to c1 (λ b hb=>(List.not_mem_nil hb).elim) (λ q hq=>?_) (λ o h1=>?_) (λ b hb1=>?_) ?_;·have:=h.st.has q hq;rw[c1.iT _ (jZ this) (by simp)];exact this
 ·rcases List.mem_cons.1 h1 with rfl|h1;·exact hok
  ·exact(h.own o h1).1.iT λ b hb2=>c1.iT b ((h.own o h1).1.lt b hb2) (by simp)
 ·rcases fA.1 hb1 with⟨q,hq,rfl⟩|⟨o,h1,hb2⟩;·exact .inl (fA.2 (.inl ⟨q,hq,rfl⟩))
  ·rcases List.mem_cons.1 h1 with rfl|h1;·exact .inr (hb b hb2)
   ·exact .inl (fA.2 (.inr ⟨o,h1,hb2⟩))
 ·have hp:(Ks H (o'::O)).Perm (iC o'.p++Ks H O):=by unfold Ks;rw[List.flatMap_cons,<- List.append_assoc,<- List.append_assoc];exact List.Perm.append_right _ List.perm_append_comm
  rw[hp.nodup_iff];exact List.nodup_append.2 ⟨hnd,h.dis,λ a ha b hb1 e=>by subst e;have:=hb a ha;have:=h.lt a hb1;omega⟩
theorem iM(p:Option Addr):(iC p).Nodup:=by cases p<;>simp[iC]
theorem SF.gN(h:SF w0 M H A F O w)(T:TypeId)(sz:Nat):SF w0 M H A F (⟨none,[],0,T,sz⟩::O) w :=h.Ov ⟨rfl,rfl,rfl,Nat.le_refl _,λ _ _ _=>rfl⟩ (.inl ⟨rfl,rfl,rfl⟩) (by simp[iC]) (by simp[iC])
theorem SF.freeze(h:SF w0 M H A F O w)(ho:rM O i p cs c T sz)(hM:True:=trivial):SF w0 M H A ((p,cs)::F) (Bs O i) w:=by
 have hs:(Ks H (Bs O i)).Sublist (Ks H O):=(List.Sublist.refl _).append (Ef (vG O i));have h1:=h.own _ ho.mem;have pd:=wV ho;have nd:=List.nodup_append.1 h.dis;have nd2:=List.nodup_append.1 (pd.nodup_iff.1 nd.2.1);refine⟨h.st,λ f hf=>⟨(h.old f hf).1,λ hc hm=>(h.old f hf).2 hc (hs.subset hm)⟩,λ f hf=>?_,λ o h2=>h.own o ((vG O i).subset h2),h.dis.sublist hs⟩;rcases List.mem_cons.1 hf with rfl|hf
 ·refine⟨h1.1.cl,λ hc=>?_⟩;have hb:=h1.1.Sz hc;have hin:dJ p∈iC p:=by show dJ p∈iC (Ow.mk p cs c T sz).p;rw[hb];exact List.mem_singleton.2 rfl
  refine⟨λ hm=>?_,h1.2 _ hin⟩;rcases List.mem_append.1 hm with hm|hm;·exact nd.2.2 _ hm _ (pd.mem_iff.2 (List.mem_append_left _ hin)) rfl
  ·exact nd2.2.2 _ hin _ hm rfl
 ·exact⟨(h.new f hf).1,λ hc=>⟨λ hm=>((h.new f hf).2 hc).1 (hs.subset hm),((h.new f hf).2 hc).2⟩⟩
theorem SF.M7(h:SF w0 M H A F O w)(a:Option Addr):SF w0 M H A ((a,[])::F) O w:=⟨h.st,h.old,λ f hf=>by
 rcases List.mem_cons.1 hf with rfl|hf;·exact⟨Cl.nil w a,λ hc=>absurd rfl hc⟩
 ·exact h.new f hf,h.own,h.dis⟩
theorem SF.Ji(h:SF w0 M H A F O w){a':Option Addr}{cs':List Value}(hf:qC A F [] a cs)(hb:cs'≠[]->dJ a'=dJ a)(hn:cs=[]->cs'=[])(hc:∀w,Cl w a cs->Cl w a' cs'):SF w0 M H ((a',cs')::A) F O w:=⟨h.st,λ f hf'=>by
 rcases List.mem_cons.1 hf' with rfl|hf'
 ·have k1:Cl w a cs:=by
   cases hf with
   | old hf=>exact(h.old _ hf.mem).1
   | new hf=>exact(h.new _ hf.mem).1
   | own hf=>cases hf
   | hdr hf _=>cases hf
  exact⟨hc w k1,λ hcs=>by
   show dJ a'∉_
   rw[hb hcs];exact h.apart hf λ e=>hcs (hn e)⟩
 ·exact h.old f hf',h.new,h.own,h.dis⟩
variable{d:Nat}{ty:TypeId}{pos:String}{af:Array Edge}{gd:Option (Nat×Bool)}{dst:Option Nat}
variable{X:Type}{V:X->Value}{φ:X->Prop}{Hc:X->List (Nat×Obj)}{Fc:X->Fr}{Oc:X->List Ow}{f:FuncId}{xs:List Operand}{at_:Array TypeId}{vs:List Value}
variable{b:Nat}{fn:Func}{rs:List ResultVar}{Y:Type}
theorem cSF(hp:plain P f=true)(ha:nZ S xs=vs)(hc:∀w,SF w0 M H A F O w->Calls P f ⟨vs⟩ w λ e w'=>∃x,e=.returned (V x)/\φ x/\SF w [] [] [] (Fc x) [] w') :
  aW P S (SF w0 M H A F O) ⟨dst,.call {callee:=.value (.func f),args:=⟨xs⟩,argTypes:=at_},ty,pos,af,gd⟩ X V (λ x w=>φ x/\SF w0 M H A (Fc x++F) O w) :=
 iJ (nA hp ha) λ w hw=>(hc w hw).mono λ _ _ ⟨x,he,hx,hs⟩=>⟨x,he,hx,by simpa using hw.call hs⟩
theorem aDQ(hp:plain P f=true)(ha:nZ S xs=vs)(hc:∀w,SF w0 M H A F O w->Calls P f ⟨vs⟩ w λ e w'=>∃x,e=.returned (V x)/\φ x/\SF w [] (Hc x) [] (Fc x) (Oc x) w') :
  aW P S (SF w0 M H A F O) ⟨dst,.call {callee:=.value (.func f),args:=⟨xs⟩,argTypes:=at_},ty,pos,af,gd⟩ X V (λ x w=>φ x/\SF w0 M (Hc x++H) A (Fc x++F) (Oc x++O) w) :=
 iJ (nA hp ha) λ w hw=>(hc w hw).mono λ _ _ ⟨x,he,hx,hs⟩=>⟨x,he,hx,hw.call hs⟩
theorem nn{i:Nat}{o o':Obj}(ha:At H i b o)(hn:(H.map Prod.fst).Nodup):∀p∈setAt H i o',p∈[(b,o')]∨(p∈H/\p.1∉[b]):=λ p hp=>by
 rcases C5 (o':=o') ha hn p hp with rfl|⟨h1,h2⟩;·exact .inl (List.mem_singleton.2 rfl)
 ·exact .inr ⟨h1,by simpa using h2⟩
theorem kh{i:Nat}{o':Obj}:Ks (setAt H i o') O=Ks H O:=by unfold Ks;rw[zA]
theorem SF.aCR(h:SF w0 M H A F O w){i:Nat}{o o':Obj}(ha:At H i b o){Hc:List (Nat×Obj)}{Fc:Fr}{Oc:List Ow}(hc:SF w [b] ((b,o')::Hc) [] Fc Oc w'):SF w0 M (Hc++setAt H i o') A (Fc++F) (Oc++O) w':=by have hb:b∈H.map Prod.fst:=List.mem_map.2 ⟨_,ha.mem,rfl⟩;refine h.X9 (D:=[b]) (Hm:=[(b,o')]) (Om:=[]) (H1:=setAt H i o') (O1:=O) (by simpa using hc) (λ c hd=>by simp only[List.mem_singleton] at hd;subst hd;exact List.mem_append_left _ hb) (nn ha h.st.nodup) (λ o ho=>.inr ⟨ho,λ c hco hd=>?_⟩) (by rw[kh];exact h.dis);simp only[List.mem_singleton] at hd;subst hd;exact h.aBu ho hco hb
theorem aDM{i:Nat}{o:Obj}{o':X->Obj}(hp:plain P f=true)(ha:nZ S xs=vs)(hb:At H i b o)(hc:∀w,SF w0 M H A F O w->Calls P f ⟨vs⟩ w λ e w'=>∃x,e=.returned (V x)/\φ x/\SF w [b] ((b,o' x)::Hc x) [] (Fc x) (Oc x) w') :
  aW P S (SF w0 M H A F O) ⟨dst,.call {callee:=.value (.func f),args:=⟨xs⟩,argTypes:=at_},ty,pos,af,gd⟩ X V (λ x w=>φ x/\SF w0 M (Hc x++setAt H i (o' x)) A (Fc x++F) (Oc x++O) w) :=
 iJ (nA hp ha) λ w hw=>(hc w hw).mono λ _ _ ⟨x,he,hx,hs⟩=>⟨x,he,hx,hw.aCR hb hs⟩
theorem SF.aA8(h:St w [] [] w'):SF w [] [] [] [] [] w':=⟨h,λ _ h=>(List.not_mem_nil h).elim,λ _ h=>(List.not_mem_nil h).elim,λ _ h=>(List.not_mem_nil h).elim,List.nodup_nil⟩
theorem aDz{v:Value}(hp:plain P f=true)(ha:nZ S xs=vs)(hc:∀w,SF w0 M H A F O w->Calls P f ⟨vs⟩ w λ e w'=>e=.returned v/\St w [] [] w') :
  aW P S (SF w0 M H A F O) ⟨dst,.call {callee:=.value (.func f),args:=⟨xs⟩,argTypes:=at_},ty,pos,af,gd⟩ Unit (λ _=>v) (λ _=>SF w0 M H A F O) :=
 iJ (nA hp ha) λ w hw=>(hc w hw).mono λ _ _ ⟨he,hs⟩=>⟨(),he,by simpa using hw.call (SF.aA8 hs)⟩
theorem aDx(hp:plain P f=true)(ha:nZ S xs=vs)(hc:∀w,SF w0 M H A F O w->Calls P f ⟨vs⟩ w λ e w'=>∃x,e=.returned (V x)/\φ x/\St w [] [] w') :
  aW P S (SF w0 M H A F O) ⟨dst,.call {callee:=.value (.func f),args:=⟨xs⟩,argTypes:=at_},ty,pos,af,gd⟩ X V (λ x w=>φ x/\SF w0 M H A F O w) :=
 iJ (nA hp ha) λ w hw=>(hc w hw).mono λ _ _ ⟨x,he,hx,hs⟩=>⟨x,he,hx,by simpa using hw.call (SF.aA8 hs)⟩
theorem rA{R:Ending->World->Prop}{vs:List Value}(hr:fn.results=⟨rs⟩)(hv:kU P S H rs vs)(h:∀w,SF w0 M H A F O w->R (.returned (pE vs)) w) :
  JK P n (bodyPost P fn R) (.code .ret::ks) S (SF w0 M H A F O) :=
 aCW λ hS w hw=>⟨rfl,_,O2 hS hw.st hr hv,h w hw⟩
theorem bJ{R:Ending->World->Prop}{vs:List Value}(hr:fn.results=⟨rs⟩)(h:∀w,SF w0 M H A F O w->R (.returned (pE vs)) w)(hv:kU P S H rs vs:=by exact(.tmp (by conv=>{lhs;whnf}) .nil)) :
  JK P n (bodyPost P fn R) (.code .ret::ks) S (SF w0 M H A F O):=rA hr hv h
theorem vo{R:Ending->World->Prop}{vs:List Value}(hr:fn.results=⟨rs⟩)(hv:kU P S H rs vs)(h:∀w,SF w0 M H A F O w->R (.returned (pE vs)) w) :
  JK P n (bodyPost P fn R) [] S (SF w0 M H A F O):=⟨λ hS w hw=>⟨rfl,_,O2 hS hw.st hr hv,h w hw⟩⟩
theorem Wi(keys:List Nat)(K:Y->List (Nat×Value))(I:Y->Prop)(Hx:Y->List (Nat×Obj))(Fx:Y->Fr)(Ox:Y->List Ow)(μ:Y->Nat){c:Code}(x0:Y)(hn:(keys.all λ k=>Nat.blt k n)=true)(hKn:∀x,((K x).all λ p=>Nat.blt p.1 n)=true)(hK0:nB (K x0) S)(hG0:I x0)(hw0:∀w,SF w0 M H A F O w->SF w0 M (Hx x0) A (Fx x0) (Ox x0) w)(round:∀x f,I x->JK P n Q (.code c::.inv (mI n keys K (λ x w=>I x/\SF w0 M (Hx x) A (Fx x) (Ox x) w) μ S (μ x))::ks) (K x++(mH keys f++S)) (SF w0 M (Hx x) A (Fx x) (Ox x))) :
  JK P n Q (.code (.loop c)::ks) S (SF w0 M H A F O):=aAV keys K (λ x w=>I x/\SF w0 M (Hx x) A (Fx x) (Ox x) w) μ x0 hn hKn hK0 (λ w hw=>⟨hG0,hw0 w hw⟩) λ x f=>Tv λ h=>round x f h
theorem kJ{keys:List Nat}{K:Y->List (Nat×Value)}{I:Y->Prop}{Hx:Y->List (Nat×Obj)}{Fx:Y->Fr}{Ox:Y->List Ow}{μ:Y->Nat}{S0:List (Nat×Value)}{m:Nat}(x':Y)(hμ:μ x'<m)(hK:nB (K x') S)(hp:uV keys S S0)(hI:I x')(hw1:∀w,G w->SF w0 M (Hx x') A (Fx x') (Ox x') w) :
  JK P n Q (.inv (mI n keys K (λ x w=>I x/\SF w0 M (Hx x) A (Fx x) (Ox x) w) μ S0 m)::ks) S G:=tx x' hμ hK hp λ w hw=>⟨hI,hw1 w hw⟩
variable{a:Option Addr}{x y:Operand}{t e:TypeId}
variable{lst:List Pr}{m k q:Nat}
theorem lY{lst:List Int}{c:Nat}{kk:IntKind}(hx:ev S x=.slice a m c)(hy:ev S y=.int kk ((k:Nat):Int))(ht:P.underlying t=some (.slice e))(hs:one P e=true)(hf:qC A F O a (aT lst))(h1:k<m)(h2:k<lst.length) :
  aN P S (SF w0 M H A F O) ⟨some d,.indexAddr t x y,ty,pos,af,gd⟩ (.pointer (some ⟨dJ a,eQ a+k,none⟩)):=⟨λ w hw =>
 (Aw (G:=SF w0 M H A F O) hx hy ht hs ((hw.cl hf).aDw (by omega)) h1).run w hw⟩
theorem Hw{c:Nat}{kk:IntKind}(hx:ev S x=.slice a m c)(hy:ev S y=.int kk ((k:Nat):Int))(ht:P.underlying t=some (.slice e))(hs:jB P e 2=true)(hf:qC A F O a (dF lst))(h1:k<m)(h2:k<lst.length) :
  aN P S (SF w0 M H A F O) ⟨some d,.indexAddr t x y,ty,pos,af,gd⟩ (.pointer (some ⟨dJ a,eQ a+2*k,none⟩)):=⟨λ w hw =>
 (df (G:=SF w0 M H A F O) hx hy ht hs ((hw.cl hf).aDJ (by omega)) h1).run w hw⟩
theorem tA{lst:List Int}(hx:ev S x=.pointer (some ⟨dJ a,eQ a+q,none⟩))(ht:one P t=true)(hf:qC A F O a (aT lst))(hq:q<lst.length) :
  aN P S (SF w0 M H A F O) ⟨some d,.load t x,ty,pos,af,gd⟩ (.int .i64 (lst.getD q 0)):=wP hx ht (λ w hw=>hw.cl hf) (jz hq)
theorem gv(hx:ev S x=.pointer (some ⟨dJ a,eQ a+2*q,none⟩))(ht:one P t=true)(hf:qC A F O a (dF lst))(hq:q<lst.length) :
  aN P S (SF w0 M H A F O) ⟨some d,.load t x,ty,pos,af,gd⟩ (.string (lst.getD q (⟨#[]⟩,0)).1):=wP hx ht (λ w hw=>hw.cl hf) (C6 hq).1
theorem Rf(hx:ev S x=.pointer (some ⟨dJ a,eQ a+(2*q+1),none⟩))(ht:one P t=true)(hf:qC A F O a (dF lst))(hq:q<lst.length) :
  aN P S (SF w0 M H A F O) ⟨some d,.load t x,ty,pos,af,gd⟩ (.int .u64 (lst.getD q (⟨#[]⟩,0)).2):=wP hx ht (λ w hw=>hw.cl hf) (C6 hq).2
theorem ri(hx:ev S x=.pointer (some ⟨dJ a,eQ a+2*q,none⟩))(ht:jB P t 2=true)(hf:qC A F O a (dF lst))(hq:q<lst.length) :
  aN P S (SF w0 M H A F O) ⟨some d,.load t x,ty,pos,af,gd⟩ (.agg ⟨[.string (lst.getD q (⟨#[]⟩,0)).1,.int .u64 (lst.getD q (⟨#[]⟩,0)).2]⟩):=⟨λ w hw =>
 (av (w0:=w) (M:=[]) (H:=[]) hx ht (hw.cl hf) (C6 hq).1 (C6 hq).2 (by simp)).run w (St.refl w)⟩
end
end
section
section
variable{P:Program}{n:Nat}{S:List (Nat×Value)}
variable{w0 w w':World}{M:List Nat}{H H':List (Nat×Obj)}{A F F':Fr}{O O':List Ow}{G:World->Prop}
variable{d:Nat}{ty:TypeId}{pos:String}{af:Array Edge}{gd:Option (Nat×Bool)}{dst:Option Nat}{x y z:Operand}{t t2 e:TypeId}
theorem ay.mono{D D':List Nat}(h:ay w w' D)(hs:∀b∈D,b∈D'):ay w w' D':=⟨h.os,h.tape,h.output,h.size,λ b hb hn=>h.iT b hb λ hm=>hn (hs b hm)⟩
theorem Db(w:World)(o:Obj):ay w (w.alloc o) []:=⟨rfl,rfl,rfl,by simp,λ b hb _=>heap_alloc_old w o hb⟩
theorem yU(w:World)(o:Obj):ay w (w.drew.alloc o) []:=⟨rfl,rfl,rfl,by simp,λ b hb _=>heap_alloc_old w.drew o hb⟩
theorem tU(w:World)(b:Nat)(r:Array Value):ay w (w.setRow b r) [b]:=⟨rfl,rfl,rfl,by simp,λ k _ hk=>setRow_other w b k r (by simpa using hk)⟩
theorem Gn(zc:List Value)(m k:Nat)(h:m<=k):∃rest,made zc k=made zc m++rest:=by
 refine⟨(made zc k).drop (m*zc.length),?_⟩;have h1:m*zc.length<=k*zc.length:=Nat.mul_le_mul_right _ h;have e:made zc m=(made zc k).take (m*zc.length):=by
  refine List.ext_getElem? λ i=>?_;rw[List.getElem?_take];by_cases hi:i<m*zc.length
  ·rw[if_pos hi];have h2:i<k*zc.length:=by omega
   simp[made,madeCells,Array.getElem?_toList,Array.getElem?_map,Array.getElem?_range,hi,h2]
  ·rw[if_neg hi,List.getElem?_eq_none (by rw[mT];omega)]
 rw[e,List.take_append_drop]
theorem Lt(k:Nat):made [.int .i64 0] k=aT (List.replicate k 0):=by
 refine List.ext_getElem? λ i=>?_;by_cases hi:i<k;·simp[made,madeCells,aT,Array.getElem?_toList,Array.getElem?_map,Array.getElem?_range,hi,Nat.mod_one]
 ·rw[List.getElem?_eq_none (by rw[mT];simp;omega),List.getElem?_eq_none (by simp[aT];omega)]
theorem Qp(k:Nat):made [.string ⟨#[]⟩,.int .u64 0] k=dF (List.replicate k (⟨#[]⟩,0)):=by
 refine List.ext_getElem? λ i=>?_;by_cases hi:i<k*2
 ·have hk:i/2<k:=by omega
  have e1:=C6 (l:=List.replicate k ((⟨#[]⟩:ByteArray),(0:Int))) (k:=i/2) (by simpa using hk);have hg:(List.replicate k ((⟨#[]⟩:ByteArray),(0:Int))).getD (i/2) (⟨#[]⟩,0)=(⟨#[]⟩,0):=by simp[List.getD,hk]
  rw[hg] at e1;have hm:(made [.string ⟨#[]⟩,.int .u64 0] k)[i]?=some (([.string ⟨#[]⟩,.int .u64 0]:List Value).getD (i%2) undef):=by rcases Nat.mod_two_eq_zero_or_one i with h2|h2<;>simp[made,madeCells,Array.getElem?_toList,Array.getElem?_map,Array.getElem?_range,hi,h2]
  rw[hm];rcases Nat.mod_two_eq_zero_or_one i with h2|h2;·rw[h2,show i=2*(i/2) by omega,e1.1];rfl
  ·rw[h2,show i=2*(i/2)+1 by omega,e1.2];rfl
 ·rw[List.getElem?_eq_none (by rw[mT];simp;omega),List.getElem?_eq_none (by rw[gE];simp;omega)]
theorem pF{m k:Nat}{k1 k2:IntKind}{zc cs:List Value}(hx:ev S x=.int k1 ((m:Nat):Int))(hy:ev S y=.int k2 ((k:Nat):Int))(he:dU P t e zc)(hmk:m<=k)(hk:k<=1099511627776)(hcs:made zc m=cs) :
  aW P S (SF w0 M H A F O) ⟨some d,.makeSlice t x y,ty,pos,af,gd⟩ Nat (λ b=>.slice (some ⟨b,0,none⟩) m k) (λ b=>SF w0 M H A F (⟨some ⟨b,0,none⟩,cs,k,e,zc.length⟩::O)) :=
 gS λ w hw=>by
  subst hcs;obtain⟨i,z,hi,hz,hzc,hs,hb⟩:=he.z;have hbb:(i.bytes:Int)*(k:Int)<=281474976710656:=by
   have:i.bytes*k<=256*1099511627776:=Nat.mul_le_mul hb hk;have h2:((i.bytes*k:Nat):Int)<=281474976710656:=by omega
   rwa [Int.natCast_mul] at h2
  have hr:=run_make (P:=P) w t e i z he.sl hi hz k1 k2 (m:Int) (k:Int) (by omega) (by omega) hbb (by omega);obtain⟨rest,hrest⟩:=Gn zc m k hmk;have e1:madeCells z.cells (k*i.size)=⟨made zc k⟩:=by rw[hzc,hs];simp[made]
  refine⟨w.heap.size,w.alloc (.cells ⟨made zc k⟩ e (0,0)),?_,hw.Ov (Db w _) (.inr ⟨w.heap.size,rest,rfl,by rw[hrest];exact heap_alloc_new w _,by rw[<- hrest,mT]⟩) (by simp[iC]) (iM _)⟩;simp only[execOp,hx,hy,Sem.run_bind,hr,Result.andThen_ok,Sem.run_pure,Int.toNat_natCast,e1]
def wQ(P:Program)(e:TypeId)(W:Nat):Bool:=match P.info? e with|some i=>Nat.ble i.bytes W|none=>false
variable{m k b c sz i:Nat}{zc cs:List Value}{T:TypeId}{p:Option Addr}
theorem Vx{W:Nat}{k1 k2:IntKind}(hx:ev S x=.int k1 ((m:Nat):Int))(hy:ev S y=.int k2 ((k:Nat):Int))(he:dU P t e zc)(hW:wQ P e W=true)(hmk:m<=k)(hk:k*W<=281474976710656)(hk2:k<=4611686018427387904)(hcs:made zc m=cs) :
  aW P S (SF w0 M H A F O) ⟨some d,.makeSlice t x y,ty,pos,af,gd⟩ Nat (λ b=>.slice (some ⟨b,0,none⟩) m k) (λ b=>SF w0 M H A F (⟨some ⟨b,0,none⟩,cs,k,e,zc.length⟩::O)) :=
 gS λ w hw=>by
  subst hcs;obtain⟨i,z,hi,hz,hzc,hs,_⟩:=he.z;have hb:i.bytes<=W:=by simpa[wQ,hi] using hW
  have hbb:(i.bytes:Int)*(k:Int)<=281474976710656:=by
   have:i.bytes*k<=W*k:=Nat.mul_le_mul_right _ hb;have h2:((i.bytes*k:Nat):Int)<=281474976710656:=by rw[Nat.mul_comm W k] at this;omega
   rwa [Int.natCast_mul] at h2
  have hr:=run_make (P:=P) w t e i z he.sl hi hz k1 k2 (m:Int) (k:Int) (by omega) (by omega) hbb (by omega);obtain⟨rest,hrest⟩:=Gn zc m k hmk;have e1:madeCells z.cells (k*i.size)=⟨made zc k⟩:=by rw[hzc,hs];simp[made]
  refine⟨w.heap.size,w.alloc (.cells ⟨made zc k⟩ e (0,0)),?_,hw.Ov (Db w _) (.inr ⟨w.heap.size,rest,rfl,by rw[hrest];exact heap_alloc_new w _,by rw[<- hrest,mT]⟩) (by simp[iC]) (iM _)⟩;simp only[execOp,hx,hy,Sem.run_bind,hr,Result.andThen_ok,Sem.run_pure,Int.toNat_natCast,e1]
theorem ll{k1 k2:IntKind}(hx:ev S x=.int k1 ((m:Nat):Int))(hy:ev S y=.int k2 ((k:Nat):Int))(he:dU P t e [.int .i64 0])(hW:wQ P e 8=true)(hmk:m<=k)(hk:k<=35184372088832) :
  aW P S (SF w0 M H A F O) ⟨some d,.makeSlice t x y,ty,pos,af,gd⟩ Nat (λ b=>.slice (some ⟨b,0,none⟩) m k) (λ b=>SF w0 M H A F (⟨some ⟨b,0,none⟩,aT (List.replicate m 0),k,e,1⟩::O)) :=
 Vx hx hy he hW hmk (by omega) (by omega) (Lt m)
theorem gh{k1 k2:IntKind}(hx:ev S x=.int k1 ((m:Nat):Int))(hy:ev S y=.int k2 ((k:Nat):Int))(he:dU P t e [.string ⟨#[]⟩,.int .u64 0])(hW:wQ P e 24=true)(hmk:m<=k)(hk:k<=11728124029610) :
  aW P S (SF w0 M H A F O) ⟨some d,.makeSlice t x y,ty,pos,af,gd⟩ Nat (λ b=>.slice (some ⟨b,0,none⟩) m k) (λ b=>SF w0 M H A F (⟨some ⟨b,0,none⟩,dF (List.replicate m (⟨#[]⟩,0)),k,e,2⟩::O)) :=
 Vx hx hy he hW hmk (by omega) (by omega) (Qp m)
theorem Yf{k1 k2:IntKind}(hx:ev S x=.int k1 ((m:Nat):Int))(hy:ev S y=.int k2 ((k:Nat):Int))(he:dU P t e [.int .i64 0])(hmk:m<=k)(hk:k<=1099511627776) :
  aW P S (SF w0 M H A F O) ⟨some d,.makeSlice t x y,ty,pos,af,gd⟩ Nat (λ b=>.slice (some ⟨b,0,none⟩) m k) (λ b=>SF w0 M H A F (⟨some ⟨b,0,none⟩,aT (List.replicate m 0),k,e,1⟩::O)) :=
 pF hx hy he hmk hk (Lt m)
theorem Xy{k1 k2:IntKind}(hx:ev S x=.int k1 ((m:Nat):Int))(hy:ev S y=.int k2 ((k:Nat):Int))(he:dU P t e [.string ⟨#[]⟩,.int .u64 0])(hmk:m<=k)(hk:k<=1099511627776) :
  aW P S (SF w0 M H A F O) ⟨some d,.makeSlice t x y,ty,pos,af,gd⟩ Nat (λ b=>.slice (some ⟨b,0,none⟩) m k) (λ b=>SF w0 M H A F (⟨some ⟨b,0,none⟩,dF (List.replicate m (⟨#[]⟩,0)),k,e,2⟩::O)) :=
 pF hx hy he hmk hk (Qp m)
theorem SF.aDq(h:SF w0 M H A F O w){fr:Nat×Nat}(h2:St w (H.map Prod.fst) ((b,.cells ⟨cs⟩ T fr)::H) w'):SF w0 M H A ((some ⟨b,0,none⟩,cs)::F) O w':=by
 have h3:=h.step (h2.sub (List.sublist_cons_self _ _));have hnd:=h2.nodup;simp only[List.map_cons,List.nodup_cons] at hnd;have hb:w.heap.size<=b:=(h2.new _ (List.mem_cons_self ..)).resolve_left hnd.1;refine⟨h3.st,h3.old,λ f hf=>?_,h3.own,h3.dis⟩;rcases List.mem_cons.1 hf with rfl|hf
 ·refine⟨Cl.block (pre:=[]) (rest:=[]) (by simpa using h2.has _ (List.mem_cons_self ..)) rfl,λ _=>⟨λ hm=>?_,.inl (Nat.le_trans h.st.size hb)⟩⟩;rcases List.mem_append.1 hm with hm|hm;·exact hnd.1 hm
  ·have:=h.lt b (List.mem_append_right _ hm);omega
 ·exact h3.new f hf
theorem SF.aD4(h:SF w0 M H A F O w)(h2:St w (H.map Prod.fst) ((b,.cells ⟨cs⟩ T (0,0))::H) w')(hc:cs.length=c*sz):SF w0 M H A F (⟨some ⟨b,0,none⟩,cs,c,T,sz⟩::O) w':=by
 have h3:=h.step (h2.sub (List.sublist_cons_self _ _));have hnd:=h2.nodup;simp only[List.map_cons,List.nodup_cons] at hnd;have hb:w.heap.size<=b:=(h2.new _ (List.mem_cons_self ..)).resolve_left hnd.1;have hbO:b∉Ks H O:=λ hm=>by have:=h.lt b hm;omega
 refine⟨h3.st,λ f hf=>⟨(h3.old f hf).1,λ hcs hm=>?_⟩,λ f hf=>⟨(h3.new f hf).1,λ hcs=>⟨λ hm=>?_,((h3.new f hf).2 hcs).2⟩⟩,λ o ho=>?_,?_⟩
 ·rcases fA.1 hm with⟨p,hp,e1⟩|⟨o,ho,e1⟩;·exact(h3.old f hf).2 hcs (fA.2 (.inl ⟨p,hp,e1⟩))
  ·rcases List.mem_cons.1 ho with rfl|ho;·simp only[iC,List.mem_singleton] at e1;have:=(h.old f hf).1.lt hcs;omega
   ·exact(h3.old f hf).2 hcs (fA.2 (.inr ⟨o,ho,e1⟩))
 ·rcases fA.1 hm with⟨p,hp,e1⟩|⟨o,ho,e1⟩;·exact((h3.new f hf).2 hcs).1 (fA.2 (.inl ⟨p,hp,e1⟩))
  ·rcases List.mem_cons.1 ho with rfl|ho;·simp only[iC,List.mem_singleton] at e1;have:=(h.new f hf).1.lt hcs;omega
   ·exact((h3.new f hf).2 hcs).1 (fA.2 (.inr ⟨o,ho,e1⟩))
 ·rcases List.mem_cons.1 ho with rfl|ho;·exact⟨.inr ⟨b,[],rfl,by simpa using h2.has _ (List.mem_cons_self ..),by simpa using hc⟩,λ c hc=>.inl (by simp only[iC,List.mem_singleton] at hc;subst hc;exact Nat.le_trans h.st.size hb)⟩
  ·exact h3.own o ho
 ·have hp:(Ks H (⟨some ⟨b,0,none⟩,cs,c,T,sz⟩::O)).Perm (b::Ks H O):=by unfold Ks;rw[List.flatMap_cons];exact List.perm_middle
  rw[hp.nodup_iff,List.nodup_cons];exact⟨hbO,h.dis⟩
theorem gG{o:Oper}{V:Nat->Value}{fr:Nat×Nat}(h:∀w1:World,aW P S (St w1 (H.map Prod.fst) H) o Nat V (λ b=>St w1 (H.map Prod.fst) ((b,.cells ⟨cs⟩ T fr)::H))) :
  aW P S (SF w0 M H A F O) o Nat V (λ b=>SF w0 M H A ((some ⟨b,0,none⟩,cs)::F) O):=⟨λ w hw=>((h w).run w (Kn hw.st)).mono λ _ _ hg=>hw.aDq hg⟩
theorem K8(h:rM O i p cs c T sz):gU O i ⟨p,cs,c,T,sz⟩=O:=by
 induction h with
 | head=>rfl
 | tail _ ih=>simp only[gU,ih]
theorem wL{args:List Value}{v:Value}{w w1:World}{at_:Array TypeId}(hx:nZ S [x,y]=args)(hr:(Builtin.append_ at_ ty ⟨args⟩).run P w=.ok v w1) :
  (execOp (ev S) ⟨some d,.call {callee:=.builtin .append,args := #[x,y],argTypes:=at_},ty,pos,af,gd⟩).run P w=.ok (.value v) w1:=by subst hx;simp only[execOp,resolve,invoke,builtin,Sem.run_bind,Sem.run_pure,Result.andThen_ok,List.map_toArray,List.map_cons,List.map_nil];simp only[nZ] at hr;rw[hr];rfl
theorem dG{a:Option Addr}{ys:List Value}{c2:Nat}(hx:ev S x=.slice p m c)(hy:ev S y=.slice a k c2)(ho:rM O i p cs c e sz)(hm:cs.length=m*sz)(hf:qC A F O a ys)(hk:ys.length=k*sz)(h1:ys.all (·.oneCell')=true)(he:dU P t e zc)(hsz:zc.length=sz)(h0:0<sz)(ht2:P.underlying t2=some (.slice e))(hb:m+k<=549755813888) :
  aW P S (SF w0 M H A F O) ⟨some d,.call {callee:=.builtin .append,args := #[x,y],argTypes := #[t,t2]},ty,pos,af,gd⟩ (Option Addr×Nat) (λ q=>.slice q.1 (m+k) q.2)
   (λ q w=>m+k<=q.2/\SF w0 M H A F (gU O i ⟨q.1,cs++ys,q.2,e,sz⟩) w):=⟨λ w hw=>by
 obtain⟨inf,zz,hi,hz,hzc,hs,hbytes⟩:=he.z;have hev:nZ S [x,y]=[.slice p m c,.slice a k c2]:=by simp[nZ,hx,hy]
 have hown:=(hw.own _ ho.mem).1;have hcl:=hw.cl hf;have hss:inf.size=sz:=by omega
 have hone:∀u∈ys,u.oneCell'=true:=by simpa using h1
 by_cases hk0:k=0
 ·subst hk0;have hys:ys=[]:=List.eq_nil_of_length_eq_zero (by omega);subst hys;have hsrc:Src P inf.size t2 (.slice a 0 c2) 0 [] w:=by
   cases a with
   | none=>exact Src.ofNil w ht2 c2
   | some a=>exact Src.ofSlice w ht2 a 0 c2 [] (by simp) (by simp) (by simp)
  have hsame:gU O i ⟨p,cs++[],c,e,sz⟩=O:=by rw[List.append_nil];exact K8 ho
  rcases hown with⟨rfl,e2,rfl⟩|⟨b,rest,rfl,h2,h3⟩
  ·simp only at e2;subst e2;have hm0:m=0:=by
    rcases Nat.eq_zero_or_pos m with h|h;·exact h
    ·have:=Nat.mul_pos h h0;simp at hm;omega
   subst hm0;have hr:(Builtin.append_ #[t,t2] ty ⟨[.slice none 0 0,.slice a 0 c2]⟩).run P w=.ok (.slice none 0 0) w:=by
    have hl0:∀a,(loadCells a 0).run P w=.ok #[] w:=λ a=>by simpa using run_loadCells_list (P:=P) w a [] (by simp)
    cases a<;>simp[Builtin.append_,run_underlying he.sl,run_underlying ht2,sizeOf,typeInfo,hi,Builtin.lenOf,Builtin.firstCells,hl0]
   rw[wL hev hr];exact⟨(none,0),rfl,by simp,by rw[hsame];exact hw⟩
  ·simp only[List.length_append] at h3;have hmc:m<=c:=by
    have:m*sz<=c*sz:=by omega
    exact Nat.le_of_mul_le_mul_right this h0
   have hr:=run_append_room_src (P:=P) w t t2 ty e inf he.sl hi b 0 m c (.slice a 0 c2) 0 [] hsrc (by omega) (by simp) (by simp);rw[wL hev hr];exact⟨(some ⟨b,0,none⟩,c),rfl,by simpa using hmc,by rw[hsame];exact hw⟩
 ·have hkp:0<k:=Nat.pos_of_ne_zero hk0;have hyl:0<ys.length:=by rw[hk];exact Nat.mul_pos hkp h0
  have hap:=hcl.ptr hyl;have hsrc:Src P inf.size t2 (.slice a k c2) k ys w:=by rw[hap];exact Src.ofSlice w ht2 ⟨dJ a,eQ a,none⟩ k c2 ys (by rw[hk,hss]) hcl.cells hone
  have grow:∀olds:List Value,(Builtin.firstCells inf.size m (.slice p m c)).run P w.drew=.ok olds.toArray w.drew->olds=cs->c<m+k ->
    pu P (Option Addr×Nat) (λ q=>.slice q.1 (m+k) q.2) (λ q w=>m+k<=q.2/\SF w0 M H A F (gU O i ⟨q.1,cs++ys,q.2,e,sz⟩) w) ((execOp (ev S) ⟨some d,.call {callee:=.builtin .append,args := #[x,y],argTypes := #[t,t2]},ty,pos,af,gd⟩).run P w):=by
   intro olds hold heq hlt
   subst heq
   have hr:=run_append_grow_src (P:=P) w t t2 ty e inf zz he.sl hi hz p m c olds hold (.slice a k c2) k ys hsrc hlt (by omega) (growslice_fits hlt (by
    have:(m+k)*inf.bytes<=549755813888*256:=Nat.mul_le_mul hb hbytes
    omega))
   rw[wL hev hr]
   have hcap:m+k<=grownCap w (m+k) c e:=grownCap_ge w (m+k) c e
   refine⟨(some ⟨w.heap.size,0,none⟩,grownCap w (m+k) c e),rfl,hcap,hw.yX ho ((yU w _).mono (by simp)) (.inr ⟨w.heap.size,(Builtin.zeroCells zz.cells (grownCap w (m+k) c e-(m+k))).toList,rfl,?_,?_⟩) (λ b hb=>.inr ?_) (iM _)⟩
   ·have:=heap_alloc_new w.drew (.cells ((olds++ys).toArray++Builtin.zeroCells zz.cells (grownCap w (m+k) c e-(m+k))) e)
    simp only[] at this ⊢
    rw[show(⟨olds++ys++(Builtin.zeroCells zz.cells (grownCap w (m+k) c e-(m+k))).toList⟩:Array Value)=(olds++ys).toArray++Builtin.zeroCells zz.cells (grownCap w (m+k) c e-(m+k)) from by apply Array.ext';simp]
    exact this
   ·have hzl:(Builtin.zeroCells zz.cells (grownCap w (m+k) c e-(m+k))).size=(grownCap w (m+k) c e-(m+k))*sz:=by
     rw[size_zeroCells,hzc]
     simp[hsz]
    simp only[List.length_append,Array.length_toList,hzl,hm,hk]
    rw[<- Nat.add_mul,<- Nat.add_mul]
    congr 1
    omega
   ·simp only[iC,List.mem_singleton] at hb
    omega
  rcases hown with⟨rfl,e2,rfl⟩|⟨b,rest,rfl,h2,h3⟩
  ·simp only at e2;subst e2;have hm0:m=0:=by
    rcases Nat.eq_zero_or_pos m with h|h;·exact h
    ·have:=Nat.mul_pos h h0;simp at hm;omega
   subst hm0;exact grow [] (by simpa using run_firstCells_none w.drew inf.size 0 0 0) rfl (by omega)
  ·simp only at h2 h3;by_cases hroom:m+k<=c
   ·have hfit:m*inf.size+ys.length<=(⟨cs++rest⟩:Array Value).size:=by show _<=(cs++rest).length;rw[h3,hk,hss,<- Nat.add_mul];exact Nat.mul_le_mul_right _ hroom
    have hr:=run_append_room (P:=P) w t ty e inf he.sl hi b m c ⟨cs++rest⟩ h2 ⟨dJ a,eQ a,none⟩ k c2 ys (by rw[hk,hss]) hcl.cells hone hroom hfit;have hr':(Builtin.append_ #[t,t2] ty ⟨[.slice (some ⟨b,0,none⟩) m c,.slice a k c2]⟩).run P w=.ok (.slice (some ⟨b,0,none⟩) (m+k) c) (w.setRow b ((cs++rest).take (m*inf.size)++ys++(cs++rest).drop (m*inf.size+ys.length)).toArray):=by
     rw[<- hap] at hr;have e2:∀(tt:TypeId),P.underlying tt=some (.slice e)->(Builtin.append_ #[t,tt] ty ⟨[.slice (some ⟨b,0,none⟩) m c,.slice a k c2]⟩).run P w=(Builtin.append_ #[t,t] ty #[.slice (some ⟨b,0,none⟩) m c,.slice a k c2]).run P w:=λ tt htt=>by simp[Builtin.append_,run_underlying htt,run_underlying he.sl]
     rw[e2 t2 ht2,hr]
    rw[wL hev hr'];have hlen:m*inf.size=cs.length:=by rw[hm,hss]
    have hrow:(cs++rest).take (m*inf.size)++ys++(cs++rest).drop (m*inf.size+ys.length)=cs++ys++rest.drop ys.length:=by rw[hlen,List.take_left,List.drop_append];simp
    rw[hrow];refine⟨(some ⟨b,0,none⟩,c),rfl,hroom,hw.yX ho (tU w b _) (.inr ⟨b,rest.drop ys.length,rfl,setRow_heap w b ⟨cs++rest⟩ _ e (0,0) h2,?_⟩) (λ b hb=>.inl hb) (iM _)⟩;have h4:(cs++rest).length=c*sz:=h3;simp only[List.length_append,List.length_drop] at h4 ⊢;have:ys.length<=rest.length:=by have:(m+k)*sz<=c*sz:=Nat.mul_le_mul_right _ hroom;rw[Nat.add_mul] at this;omega
    omega
   ·refine grow cs ?_ rfl (by omega);have hclp:Cl w.drew (some ⟨b,0,none⟩) cs:=⟨(Cl.block (pre:=[]) (rest:=rest) (w:=w) (by simpa using h2) rfl).at_⟩;exact run_firstCells_some w.drew inf.size m ⟨b,0,none⟩ m c cs (by rw[hm,hss]) hclp.cells⟩
end
end
end Go.Ct

/- Merged. -/
import Derived.Test.YthblobahelfefaaGreatDoorGFun
set_option linter.unusedSimpArgs false
set_option linter.unusedVariables false
namespace Go.Ct
open Go Go.RowKit
abbrev Fr:=List (Option Addr×List Value)
structure Ow where
 p:Option Addr
 cs:List Value
 c:Nat
 T:TypeId
 sz:Nat
def fV:Option Addr->List Nat|some a=>[a.block]|none=>[]
def Ks(H:List (Nat×Obj))(O:List Ow):List Nat:=H.map Prod.fst++O.flatMap λ o=>fV o.p
inductive lQ:Fr->Option Addr->List Value->Prop where
 | head {a:Option Addr} {cs:List Value} {F:Fr}:lQ ((a,cs)::F) a cs
 | tail {f:Option Addr×List Value} {F:Fr} {a:Option Addr} {cs:List Value}:lQ F a cs->lQ (f::F) a cs
theorem lQ.mem{F:Fr}{a:Option Addr}{cs:List Value}(h:lQ F a cs):(a,cs)∈F:=by
 induction h with
 | head=>exact List.mem_cons_self ..
 | tail _ ih=>exact List.mem_cons_of_mem _ ih
inductive mN:List Ow->Nat->Option Addr->List Value->Nat->TypeId->Nat->Prop where
 | head {p:Option Addr} {cs:List Value} {c:Nat} {T:TypeId} {sz:Nat} {O:List Ow}:mN (⟨p,cs,c,T,sz⟩::O) 0 p cs c T sz
 | tail {o:Ow} {O:List Ow} {i:Nat} {p:Option Addr} {cs:List Value} {c:Nat} {T:TypeId} {sz:Nat}:mN O i p cs c T sz->mN (o::O) (i+1) p cs c T sz
theorem mN.mem{O:List Ow}{i:Nat}{p:Option Addr}{cs:List Value}{c:Nat}{T:TypeId}{sz:Nat}(h:mN O i p cs c T sz):(⟨p,cs,c,T,sz⟩:Ow)∈O:=by
 induction h with
 | head=>exact List.mem_cons_self ..
 | tail _ ih=>exact List.mem_cons_of_mem _ ih
def eL:List Ow->Nat->Ow->List Ow
 | [],_,_=>[]
 | _::r,0,o=>o::r
 | p::r,i+1,o=>p::eL r i o
def A3:List Ow->Nat->List Ow
 | [],_=>[]
 | _::r,0=>r
 | p::r,i+1=>p::A3 r i
def Hdr(a p:Option Addr)(cs:List Value)(c:Nat):Prop:=a=p∨(p=none/\cs=[]/\c=0)
inductive pB(A F:Fr)(O:List Ow)(a:Option Addr)(cs:List Value):Prop where
 | old (h:lQ A a cs)
 | new (h:lQ F a cs)
 | own {i c:Nat} {T:TypeId} {sz:Nat} (h:mN O i a cs c T sz)
 | hdr {i c:Nat} {T:TypeId} {sz:Nat} {p:Option Addr} (h:mN O i p cs c T sz) (e:Hdr a p cs c)
inductive aT(F:Fr):Fr->Prop where
 | nil:aT F []
 | cons {a:Option Addr} {cs:List Value} {F':Fr} (h:lQ F a cs) (hs:aT F F'):aT F ((a,cs)::F')
theorem aT.sub{F F':Fr}(h:aT F F'):∀f∈F',f∈F:=by
 induction h with
 | nil=>intro f hf;exact(List.not_mem_nil hf).elim
 | cons h _ ih=>
  intro f hf;rcases List.mem_cons.1 hf with rfl|hf;·exact h.mem
  ·exact ih f hf
theorem Cl.lt{w:World}{a:Option Addr}{cs:List Value}(h:Cl w a cs)(hc:cs≠[]):cI a<w.heap.size:=by have h0:0<cs.length:=List.length_pos_iff.2 hc;exact World.block_lt_of_cell? w ⟨cI a,dH a+0,none⟩ (h.at_ 0 cs[0] (List.getElem?_eq_getElem h0)).2
def tT(w:World)(o:Ow):Prop :=
 (o.p=none/\o.cs=[]/\o.c=0)∨∃b rest,o.p=some ⟨b,0,none⟩/\w.heap[b]?=some (.cells ⟨o.cs++rest⟩ o.T (0,0))/\(o.cs++rest).length=o.c*o.sz
variable{w:World}{o:Ow}
theorem tT.cl(h:tT w o):Cl w o.p o.cs:=by
 rcases h with⟨_,h2,_⟩|⟨b,rest,h1,h2,_⟩;·rw[h2];exact Cl.nil _ _
 ·rw[h1];exact Cl.block (pre:=[]) (rest:=rest) (by simpa using h2) rfl
theorem tT.lt(h:tT w o):∀b∈fV o.p,b<w.heap.size:=by
 rcases h with⟨h1,_,_⟩|⟨b,rest,h1,h2,_⟩;·rw[h1];simp[fV]
 ·rw[h1];simp only[fV,List.mem_singleton,forall_eq];exact jC h2
theorem tT.eH{w':World}(h:tT w o)(hk:∀b∈fV o.p,w'.heap[b]?=w.heap[b]?):tT w' o:=by
 rcases h with h|⟨b,rest,h1,h2,h3⟩;·exact .inl h
 ·exact .inr ⟨b,rest,h1,by rw[hk b (by rw[h1];simp[fV])];exact h2,h3⟩
theorem tT.Tj(h:tT w o)(hc:o.cs≠[]):fV o.p=[cI o.p]:=by
 rcases h with⟨_,h2,_⟩|⟨b,rest,h1,_,_⟩;·exact absurd h2 hc
 ·rw[h1];rfl
structure SF(w0:World)(M:List Nat)(H:List (Nat×Obj))(A F:Fr)(O:List Ow)(w:World):Prop where
 st:St w0 M H w
 old:∀f∈A,Cl w f.1 f.2/\(f.2≠[]->cI f.1∉Ks H O)
 new:∀f∈F,Cl w f.1 f.2/\(f.2≠[]->cI f.1∉Ks H O/\(w0.heap.size<=cI f.1∨cI f.1∈M))
 own:∀o∈O,tT w o/\∀b∈fV o.p,w0.heap.size<=b∨b∈M
 dis:(Ks H O).Nodup
section
variable{P:Program}{n:Nat}{Q:Exit->Act->World->Prop}{ks:List CK}{S:List (Nat×Value)}{ops:Array Oper}{l:List Oper}
variable{w0 w w':World}{M:List Nat}{H H':List (Nat×Obj)}{A F F':Fr}{O O':List Ow}{G:World->Prop}
theorem D1{α β:Type}{f:α->List β}{l l':List α}(h:l'.Sublist l):(l'.flatMap f).Sublist (l.flatMap f):=by
 induction h with
 | slnil=>exact List.Sublist.refl _
 | cons a _ ih=>rw[List.flatMap_cons];exact ih.trans (List.sublist_append_right _ _)
 | cons_cons a _ ih=>rw[List.flatMap_cons,List.flatMap_cons];exact(List.Sublist.refl _).append ih
theorem dX{b:Nat}:b∈Ks H O↔(∃p∈H,p.1=b)∨∃o∈O,b∈fV o.p:=by simp[Ks]
theorem SF.lt(h:SF w0 M H A F O w):∀b∈Ks H O,b<w.heap.size:=by
 intro b hb;rcases dX.1 hb with⟨p,hp,rfl⟩|⟨o,ho,hb⟩;·exact jC (h.st.has p hp)
 ·exact(h.own o ho).1.lt b hb
theorem SF.Uc(h:SF w0 M H A F O w):∀b∈Ks H O,w0.heap.size<=b∨b∈M:=by
 intro b hb;rcases dX.1 hb with⟨p,hp,rfl⟩|⟨o,ho,hb⟩;·exact(h.st.new p hp).symm
 ·exact(h.own o ho).2 b hb
theorem SF.cl(h:SF w0 M H A F O w){a:Option Addr}{cs:List Value}(hf:pB A F O a cs):Cl w a cs:=by
 cases hf with
 | old hf=>exact(h.old _ hf.mem).1
 | new hf=>exact(h.new _ hf.mem).1
 | own hf=>exact(h.own _ hf.mem).1.cl
 | hdr hf e=>
  rcases e with rfl|⟨_,rfl,_⟩;·exact(h.own _ hf.mem).1.cl
  ·exact Cl.nil _ _
theorem SF.s0(w:World):SF w [] [] [] [] [] w:=⟨St.refl w,λ _ h=>(List.not_mem_nil h).elim,λ _ h=>(List.not_mem_nil h).elim,λ _ h=>(List.not_mem_nil h).elim,List.nodup_nil⟩
theorem SF.begin{A:Fr}(h:∀f∈A,Cl w f.1 f.2):SF w [] [] A [] [] w:=⟨St.refl w,λ f hf=>⟨h f hf,λ _=>by simp[Ks]⟩,λ _ h=>(List.not_mem_nil h).elim,λ _ h=>(List.not_mem_nil h).elim,List.nodup_nil⟩
theorem SF.s1{a1:Option Addr}{c1:List Value}(h1:Cl w a1 c1):SF w [] [] [(a1,c1)] [] [] w:=SF.begin λ f hf=>by simp only[List.mem_cons,List.not_mem_nil,or_false] at hf;subst hf;exact h1
theorem SF.s2{a1 a2:Option Addr}{c1 c2:List Value}(h1:Cl w a1 c1)(h2:Cl w a2 c2):SF w [] [] [(a1,c1),(a2,c2)] [] [] w:=SF.begin λ f hf=>by
 simp only[List.mem_cons,List.not_mem_nil,or_false] at hf;rcases hf with rfl|rfl;·exact h1
 ·exact h2
structure fw(w w':World)(D:List Nat):Prop where
 os:w'.os=w.os
 tape:w'.tape=w.tape
 output:w'.output=w.output
 size:w.heap.size<=w'.heap.size
 eH:∀b,b<w.heap.size->b∉D->w'.heap[b]?=w.heap[b]?
variable{a p:Option Addr}{cs:List Value}{D:List Nat}{X:Type}{Hc:List (Nat×Obj)}{Oc:List Ow}{Fc:Fr}{i c sz:Nat}{T:TypeId}{o':Ow}
theorem St.chg(h:St w M H w'):fw w w' M:=⟨h.os,h.tape,h.output,h.size,h.eH⟩
theorem Cl.chg(h:Cl w a cs)(c:fw w w' D)(hn:cs≠[]->cI a∉D):Cl w' a cs:=by
 refine⟨λ j u hj=>⟨(h.at_ j u hj).1,?_⟩⟩;have hne:cs≠[]:=by rintro rfl;simp at hj
 have:=(h.at_ j u hj).2;rw[World.cell?_of_block (c.eH _ (h.lt hne) (hn hne))];exact this
theorem SF.to(h:SF w0 M H A F O w)(c:fw w w' D)(hD:∀b∈D,b∈Ks H O)(hH:∀p∈H',w'.heap[p.1]?=some p.2)(hO:∀o∈O',tT w' o)(hK:∀b∈Ks H' O',b∈Ks H O∨w.heap.size<=b)(hn:(Ks H' O').Nodup):SF w0 M H' A F O' w':=by
 have hnew:∀b∈Ks H' O',w0.heap.size<=b∨b∈M:=λ b hb=>by
  rcases hK b hb with h1|h1;·exact h.Uc b h1
  ·exact .inl (Nat.le_trans h.st.size h1)
 have key:∀{a:Option Addr} {cs:List Value},Cl w a cs->(cs≠[]->cI a∉Ks H O)->Cl w' a cs/\(cs≠[]->cI a∉Ks H' O'):=by
  intro a cs hc hn;refine⟨hc.chg c λ hcs hm=>hn hcs (hD _ hm),λ hcs hm=>?_⟩;rcases hK _ hm with h3|h3;·exact hn hcs h3
  ·have:=hc.lt hcs;omega
 refine⟨⟨c.os.trans h.st.os,c.tape.trans h.st.tape,c.output.trans h.st.output,Nat.le_trans h.st.size c.size,λ b hb hM=>?_,hH,λ p hp=>(hnew p.1 (dX.2 (.inl ⟨p,hp,rfl⟩))).symm,?_⟩,λ f hf=>key (h.old f hf).1 (h.old f hf).2,λ f hf=>?_,λ o ho=>⟨hO o ho,λ b hb=>hnew b (dX.2 (.inr ⟨o,ho,hb⟩))⟩,hn⟩
 ·rw[c.eH b (Nat.lt_of_lt_of_le hb h.st.size) λ hm=>?_];·exact h.st.eH b hb hM
  ·rcases h.Uc b (hD b hm) with h1|h1;·omega
   ·exact hM h1
 ·exact(List.nodup_append.1 hn).1
 ·have k:=key (h.new f hf).1 (λ hc=>((h.new f hf).2 hc).1)
  exact⟨k.1,λ hc=>⟨k.2 hc,((h.new f hf).2 hc).2⟩⟩
theorem SF.aDu(h:SF w0 M H A F O w){o:Ow}(ho:o∈O){b:Nat}(hb:b∈fV o.p):b∉H.map Prod.fst:=λ hm=>by have:=(List.nodup_append.1 h.dis).2.2 b hm b (List.mem_flatMap.2 ⟨o,ho,hb⟩);exact this rfl
theorem SF.step(h:SF w0 M H A F O w){H':List (Nat×Obj)}(h2:St w (H.map Prod.fst) H' w'):SF w0 M H' A F O w':=by
 refine h.to h2.chg (λ b hb=>List.mem_append_left _ hb) h2.has (λ o ho=>(h.own o ho).1.eH λ b hb=>h2.eH b ((h.own o ho).1.lt b hb) (h.aDu ho hb)) (λ b hb=>?_) ?_
 ·rcases dX.1 hb with⟨p,hp,rfl⟩|⟨o,ho,hb⟩
  ·rcases h2.new p hp with h3|h3;·exact .inl (List.mem_append_left _ h3)
   ·exact .inr h3
  ·exact .inl (dX.2 (.inr ⟨o,ho,hb⟩))
 ·refine List.nodup_append.2 ⟨h2.nodup,(List.nodup_append.1 h.dis).2.1,λ a ha b hb e=>?_⟩;subst e;obtain⟨o,ho,hb⟩:=List.mem_flatMap.1 hb;obtain⟨p,hp,rfl⟩:=List.mem_map.1 ha;rcases h2.new p hp with h3|h3;·exact h.aDu ho hb h3
  ·have:=(h.own o ho).1.lt _ hb;omega
theorem pa.mono{X:Type}{V:X->Value}{G1 G2:X->World->Prop}{r:Result Next}(h:pa P X V G1 r)(hG:∀x w,G1 x w->G2 x w):pa P X V G2 r:=by
 cases r with
 | ok nx w'=>
  cases nx<;>simp only[pa] at h ⊢;case value v=>obtain⟨x,hx,hg⟩:=h;exact⟨x,hx,hG _ _ hg⟩
  case skip=>obtain⟨x,hx,hg⟩:=h;exact⟨x,hx,hG _ _ hg⟩
  case enter f args=>exact h.mono λ e w'' ⟨x,hx,hg⟩=>⟨x,hx,hG _ _ hg⟩
 | halt x w'=>exact h.elim
theorem nT{o:Oper}{v:Value}(h:aH P S (St w0 M H) o v):aH P S (SF w0 M H A F O) o v:=⟨λ w hw=>h.run w hw.st⟩
theorem cK{o:Oper}{V:X->Value}{H':X->List (Nat×Obj)}(h:∀w1:World,aQ P S (St w1 (H.map Prod.fst) H) o X V (λ x=>St w1 (H.map Prod.fst) (H' x))) :
  aQ P S (SF w0 M H A F O) o X V (λ x=>SF w0 M (H' x) A F O):=⟨λ w hw=>((h w).run w (Di hw.st)).mono λ _ _ hg=>hw.step hg⟩
theorem SF.drew(h:SF w0 M H A F O w):SF w0 M H A F O w.drew:=⟨h.st.drew,λ f hf=>⟨⟨(h.old f hf).1.at_⟩,(h.old f hf).2⟩,λ f hf=>⟨⟨(h.new f hf).1.at_⟩,(h.new f hf).2⟩,h.own,h.dis⟩
theorem SF.sub(h:SF w0 M H A F O w)(hH:H'.Sublist H)(hF:aT F F')(hO:O'.Sublist O):SF w0 M H' A F' O' w:=by have hs:(Ks H' O').Sublist (Ks H O):=(hH.map _).append (D1 hO);exact⟨h.st.sub hH,λ f hf=>⟨(h.old f hf).1,λ hc hm=>(h.old f hf).2 hc (hs.subset hm)⟩,λ f hf=>⟨(h.new f (hF.sub f hf)).1,λ hc=>⟨λ hm=>((h.new f (hF.sub f hf)).2 hc).1 (hs.subset hm),((h.new f (hF.sub f hf)).2 hc).2⟩⟩,λ o ho=>h.own o (hO.subset ho),h.dis.sublist hs⟩
theorem SF.u9(h:SF w0 M H A F O w):SF w0 M H [] F O w:=⟨h.st,λ _ hf=>(List.not_mem_nil hf).elim,h.new,h.own,h.dis⟩
theorem SF.ret(h:SF w0 M H A F O w)(hH:H'.Sublist H)(hF:aT F F')(hO:O'.Sublist O):SF w0 M H' [] F' O' w:=(h.sub hH hF hO).u9
theorem wM(Hc:List (Nat×Obj))(Oc:List Ow):∀b,b∈Ks (Hc++H) (Oc++O)↔b∈Ks Hc Oc∨b∈Ks H O:=by
 intro b;simp only[dX,List.mem_append];constructor
 ·rintro (⟨p,hp|hp,rfl⟩|⟨o,ho|ho,hb⟩);·exact .inl (.inl ⟨p,hp,rfl⟩)
  ·exact .inr (.inl ⟨p,hp,rfl⟩)
  ·exact .inl (.inr ⟨o,ho,hb⟩)
  ·exact .inr (.inr ⟨o,ho,hb⟩)
 ·rintro ((⟨p,hp,rfl⟩|⟨o,ho,hb⟩)|(⟨p,hp,rfl⟩|⟨o,ho,hb⟩));·exact .inl ⟨p,.inl hp,rfl⟩
  ·exact .inr ⟨o,.inl ho,hb⟩
  ·exact .inl ⟨p,.inr hp,rfl⟩
  ·exact .inr ⟨o,.inr ho,hb⟩
theorem Rk(h1:(Ks Hc Oc).Nodup)(h2:(Ks H O).Nodup)(hd:∀b∈Ks Hc Oc,b∉Ks H O):(Ks (Hc++H) (Oc++O)).Nodup:=by
 have hp:(Ks (Hc++H) (Oc++O)).Perm (Ks Hc Oc++Ks H O):=by unfold Ks;rw[List.map_append,List.flatMap_append];simp only[List.append_assoc];refine List.Perm.append_left _ ?_;rw[<- List.append_assoc,<- List.append_assoc];exact List.Perm.append_right _ List.perm_append_comm
 rw[hp.nodup_iff];exact List.nodup_append.2 ⟨h1,h2,λ a ha b hb e=>hd a ha (e▸hb)⟩
theorem SF.call(h:SF w0 M H A F O w)(hc:SF w [] Hc [] Fc Oc w'):SF w0 M (Hc++H) A (Fc++F) (Oc++O) w':=by
 have fresh:∀b∈Ks Hc Oc,w.heap.size<=b:=λ b hb=>(hc.Uc b hb).elim id λ h=>(List.not_mem_nil h).elim
 have hk:∀b,b<w.heap.size->w'.heap[b]?=w.heap[b]?:=λ b hb=>hc.st.eH b hb (by simp)
 have h1:SF w0 M (Hc++H) A F (Oc++O) w':=by
  refine h.to hc.st.chg (λ b hb=>(List.not_mem_nil hb).elim) (λ p hp=>?_) (λ o ho=>?_) (λ b hb=>?_) (Rk hc.dis h.dis λ b hb hm=>?_)
  ·rcases List.mem_append.1 hp with hp|hp;·exact hc.st.has p hp
   ·have:=h.st.has p hp;rw[hk _ (jC this)];exact this
  ·rcases List.mem_append.1 ho with ho|ho;·exact(hc.own o ho).1
   ·exact(h.own o ho).1.eH λ b hb=>hk b ((h.own o ho).1.lt b hb)
  ·rcases(wM Hc Oc b).1 hb with hb|hb
   ·exact .inr (fresh b hb)
   ·exact .inl hb
  ·have:=fresh b hb;have:=h.lt b hm;omega
 refine⟨h1.st,h1.old,λ f hf=>?_,h1.own,h1.dis⟩;rcases List.mem_append.1 hf with hf|hf
 ·have k:=hc.new f hf;have k2:f.2≠[]->w.heap.size<=cI f.1:=λ hcs=>(k.2 hcs).2.elim id λ h=>(List.not_mem_nil h).elim
  refine⟨k.1,λ hcs=>⟨λ hm=>?_,.inl (Nat.le_trans h.st.size (k2 hcs))⟩⟩;rcases(wM Hc Oc _).1 hm with hm|hm
  ·exact(k.2 hcs).1 hm
  ·have:=h.lt _ hm;have:=k2 hcs;omega
 ·exact h1.new f hf
theorem SF.Wo(h:SF w0 M H A F O w){Hm H1:List (Nat×Obj)}{Om O1:List Ow}(hc:SF w D (Hm++Hc) [] Fc (Om++Oc) w')(hD:∀b∈D,b∈Ks H O)(hH1:∀p∈H1,p∈Hm∨(p∈H/\p.1∉D))(hO1:∀o∈O1,o∈Om∨(o∈O/\∀b∈fV o.p,b∉D))(hn:(Ks H1 O1).Nodup):SF w0 M (Hc++H1) A (Fc++F) (Oc++O1) w':=by
 have inH:∀p∈Hc,p.1∈Ks (Hm++Hc) (Om++Oc):=λ p hp=>dX.2 (.inl ⟨p,List.mem_append_right _ hp,rfl⟩)
 have hk:∀b,b<w.heap.size->b∉D->w'.heap[b]?=w.heap[b]?:=λ b hb hd=>hc.st.eH b hb hd
 have hsub:(Ks Hc Oc).Sublist (Ks (Hm++Hc) (Om++Oc)):=by unfold Ks;rw[List.map_append,List.flatMap_append];exact(List.sublist_append_right _ _).append (List.sublist_append_right _ _)
 have perm:(Ks (Hm++Hc) (Om++Oc)).Perm (Ks Hm Om++Ks Hc Oc):=by unfold Ks;rw[List.map_append,List.flatMap_append];simp only[List.append_assoc];refine List.Perm.append_left _ ?_;rw[<- List.append_assoc,<- List.append_assoc];exact List.Perm.append_right _ List.perm_append_comm
 have disj:∀b∈Ks Hc Oc,b∉Ks Hm Om:=λ b hb hm=>by have:=(perm.nodup_iff.1 hc.dis);exact(List.nodup_append.1 this).2.2 b hm b hb rfl
 have kin:∀b∈Ks H1 O1,b∈Ks Hm Om∨(b∈Ks H O/\b∉D):=λ b hb=>by
  rcases dX.1 hb with⟨p,hp,rfl⟩|⟨o,ho,hb⟩
  ·rcases hH1 p hp with h1|⟨h1,h2⟩;·exact .inl (dX.2 (.inl ⟨p,h1,rfl⟩))
   ·exact .inr ⟨dX.2 (.inl ⟨p,h1,rfl⟩),h2⟩
  ·rcases hO1 o ho with h1|⟨h1,h2⟩;·exact .inl (dX.2 (.inr ⟨o,h1,hb⟩))
   ·exact .inr ⟨dX.2 (.inr ⟨o,h1,hb⟩),h2 b hb⟩
 have kbig:∀b∈Ks (Hm++Hc) (Om++Oc),b∈Ks H O∨w.heap.size<=b:=λ b hb=>(hc.Uc b hb).elim .inr λ h=>.inl (hD b h)
 have kc:∀b∈Ks Hc Oc,b∈D∨w.heap.size<=b:=λ b hb=>(hc.Uc b (hsub.subset hb)).elim .inr .inl
 have h1:SF w0 M (Hc++H1) A F (Oc++O1) w':=by
  refine h.to hc.st.chg hD (λ p hp=>?_) (λ o ho=>?_) (λ b hb=>?_) (Rk (hc.dis.sublist hsub) hn λ b hb hm=>?_)
  ·rcases List.mem_append.1 hp with hp|hp;·exact hc.st.has p (List.mem_append_right _ hp)
   ·rcases hH1 p hp with h1|⟨h1,h2⟩;·exact hc.st.has p (List.mem_append_left _ h1)
    ·have:=h.st.has p h1;rw[hk _ (jC this) h2];exact this
  ·rcases List.mem_append.1 ho with ho|ho;·exact(hc.own o (List.mem_append_right _ ho)).1
   ·rcases hO1 o ho with h1|⟨h1,h2⟩;·exact(hc.own o (List.mem_append_left _ h1)).1
    ·exact(h.own o h1).1.eH λ b hb=>hk b ((h.own o h1).1.lt b hb) (h2 b hb)
  ·rcases(wM Hc Oc b).1 hb with hb|hb
   ·exact kbig b (hsub.subset hb)
   ·rcases kin b hb with h1|h1;·exact kbig b (perm.mem_iff.2 (List.mem_append_left _ h1))
    ·exact .inl h1.1
  ·rcases kin b hm with h1|⟨h1,h2⟩;·exact disj b hb h1
   ·rcases kc b hb with h3|h3;·exact h2 h3
    ·have:=h.lt b h1;omega
 refine⟨h1.st,h1.old,λ f hf=>?_,h1.own,h1.dis⟩;rcases List.mem_append.1 hf with hf|hf
 ·have k:=hc.new f hf;refine⟨k.1,λ hcs=>⟨λ hm=>?_,(k.2 hcs).2.elim (λ h1=>.inl (Nat.le_trans h.st.size h1)) λ h1=>h.Uc _ (hD _ h1)⟩⟩;rcases(wM Hc Oc _).1 hm with hm|hm
  ·exact(k.2 hcs).1 (hsub.subset hm)
  ·rcases kin _ hm with h2|h2;·exact(k.2 hcs).1 (perm.mem_iff.2 (List.mem_append_left _ h2))
   ·have:=h.lt _ h2.1;rcases(k.2 hcs).2 with h3|h3
    ·omega
    ·exact h2.2 h3
 ·exact h1.new f hf
theorem SF.apart(h:SF w0 M H A F O w)(hf:pB A F [] a cs)(hc:cs≠[]):cI a∉Ks H O:=by
 cases hf with
 | old hf=>exact(h.old _ hf.mem).2 hc
 | new hf=>exact((h.new _ hf.mem).2 hc).1
 | own hf=>cases hf
 | hdr hf _=>cases hf
theorem Gi(h:mN O i p cs c T sz):∀o∈eL O i o',o=o'∨o∈A3 O i:=by
 induction h with
 | head=>intro o ho;simp only[eL] at ho;exact(List.mem_cons.1 ho).imp id id
 | tail h ih=>
  intro o ho;simp only[eL] at ho;rcases List.mem_cons.1 ho with rfl|ho;·exact .inr (by simp only[A3];exact List.mem_cons_self ..)
  ·exact(ih o ho).imp id λ h=>by simp only[A3];exact List.mem_cons_of_mem _ h
theorem uA:∀(O:List Ow) (i:Nat),(A3 O i).Sublist O
 | [],_=>List.Sublist.refl _
 | p::r,0=>List.sublist_cons_self p r
 | p::r,i+1=>(uA r i).cons_cons p
theorem wD(h:mN O i p cs c T sz):(O.flatMap λ o=>fV o.p).Perm (fV p++(A3 O i).flatMap λ o=>fV o.p):=by
 induction h with
 | head=>simp[A3]
 | @tail o O i p cs c T sz h ih=>simp only[A3,List.flatMap_cons];exact(List.Perm.append_left _ ih).trans E0z
theorem L3(h:mN O i p cs c T sz):((eL O i o').flatMap λ o=>fV o.p).Perm (fV o'.p++(A3 O i).flatMap λ o=>fV o.p):=by
 induction h with
 | head=>simp[A3,eL]
 | @tail o O i p cs c T sz h ih=>simp only[A3,eL,List.flatMap_cons];exact(List.Perm.append_left _ ih).trans E0z
theorem SF.sR(h:SF w0 M H A F O w)(ho:mN O i p cs c T sz)(c1:fw w w' (fV p))(hok:tT w' o')(hb:∀b∈fV o'.p,b∈fV p∨w.heap.size<=b)(hnd:(fV o'.p).Nodup):SF w0 M H A F (eL O i o') w':=by
 have hin:∀b∈fV p,b∈Ks H O:=λ b hb=>dX.2 (.inr ⟨_,ho.mem,hb⟩)
 have hdel:∀o∈A3 O i,o∈O:=λ o h=>(uA O i).subset h
 have pd:=wD ho;have nd:=List.nodup_append.1 h.dis;have nd2:=List.nodup_append.1 (pd.nodup_iff.1 nd.2.1);refine h.to c1 hin (λ q hq=>?_) (λ o h1=>?_) (λ b hb1=>?_) ?_
 ·have:=h.st.has q hq;rw[c1.eH _ (jC this) λ hm=>?_];·exact this
  ·exact nd.2.2 q.1 (List.mem_map.2 ⟨q,hq,rfl⟩) q.1 (List.mem_flatMap.2 ⟨_,ho.mem,hm⟩) rfl
 ·rcases Gi ho o h1 with rfl|h2;·exact hok
  ·refine(h.own o (hdel o h2)).1.eH λ b hb2=>c1.eH b ((h.own o (hdel o h2)).1.lt b hb2) λ hm=>?_;exact nd2.2.2 b hm b (List.mem_flatMap.2 ⟨o,h2,hb2⟩) rfl
 ·rcases dX.1 hb1 with⟨q,hq,rfl⟩|⟨o,h1,hb2⟩;·exact .inl (dX.2 (.inl ⟨q,hq,rfl⟩))
  ·rcases Gi ho o h1 with rfl|h2;·exact(hb b hb2).imp (hin b) id
   ·exact .inl (dX.2 (.inr ⟨o,hdel o h2,hb2⟩))
 ·unfold Ks;rw[((List.Perm.append_left _ (L3 ho)).nodup_iff)];refine List.nodup_append.2 ⟨nd.1,List.nodup_append.2 ⟨hnd,nd2.2.1,λ a ha b hb1 e=>?_⟩,λ a ha b hb1 e=>?_⟩
  ·subst e;rcases hb a ha with h1|h1;·exact nd2.2.2 a h1 a hb1 rfl
   ·obtain⟨o,h2,hb2⟩:=List.mem_flatMap.1 hb1;have:=(h.own o (hdel o h2)).1.lt a hb2;omega
  ·subst e;rcases List.mem_append.1 hb1 with h1|h1
   ·rcases hb a h1 with h2|h2;·exact nd.2.2 a ha a (pd.mem_iff.2 (List.mem_append_left _ h2)) rfl
    ·obtain⟨q,hq,rfl⟩:=List.mem_map.1 ha;have:=jC (h.st.has q hq);omega
   ·exact nd.2.2 a ha a (pd.mem_iff.2 (List.mem_append_right _ h1)) rfl
theorem SF.Gv(h:SF w0 M H A F O w)(c1:fw w w' [])(hok:tT w' o')(hb:∀b∈fV o'.p,w.heap.size<=b)(hnd:(fV o'.p).Nodup):SF w0 M H A F (o'::O) w':=by
 refine h.to c1 (λ b hb=>(List.not_mem_nil hb).elim) (λ q hq=>?_) (λ o h1=>?_) (λ b hb1=>?_) ?_;·have:=h.st.has q hq;rw[c1.eH _ (jC this) (by simp)];exact this
 ·rcases List.mem_cons.1 h1 with rfl|h1;·exact hok
  ·exact(h.own o h1).1.eH λ b hb2=>c1.eH b ((h.own o h1).1.lt b hb2) (by simp)
 ·rcases dX.1 hb1 with⟨q,hq,rfl⟩|⟨o,h1,hb2⟩;·exact .inl (dX.2 (.inl ⟨q,hq,rfl⟩))
  ·rcases List.mem_cons.1 h1 with rfl|h1;·exact .inr (hb b hb2)
   ·exact .inl (dX.2 (.inr ⟨o,h1,hb2⟩))
 ·have hp:(Ks H (o'::O)).Perm (fV o'.p++Ks H O):=by unfold Ks;rw[List.flatMap_cons,<- List.append_assoc,<- List.append_assoc];exact List.Perm.append_right _ List.perm_append_comm
  rw[hp.nodup_iff];exact List.nodup_append.2 ⟨hnd,h.dis,λ a ha b hb1 e=>by subst e;have:=hb a ha;have:=h.lt a hb1;omega⟩
theorem eN(p:Option Addr):(fV p).Nodup:=by cases p<;>simp[fV]
theorem SF.gN(h:SF w0 M H A F O w)(T:TypeId)(sz:Nat):SF w0 M H A F (⟨none,[],0,T,sz⟩::O) w :=h.Gv ⟨rfl,rfl,rfl,Nat.le_refl _,λ _ _ _=>rfl⟩ (.inl ⟨rfl,rfl,rfl⟩) (by simp[fV]) (by simp[fV])
theorem SF.freeze(h:SF w0 M H A F O w)(ho:mN O i p cs c T sz)(hM:True:=trivial):SF w0 M H A ((p,cs)::F) (A3 O i) w:=by
 have hs:(Ks H (A3 O i)).Sublist (Ks H O):=(List.Sublist.refl _).append (D1 (uA O i));have h1:=h.own _ ho.mem;have pd:=wD ho;have nd:=List.nodup_append.1 h.dis;have nd2:=List.nodup_append.1 (pd.nodup_iff.1 nd.2.1);refine⟨h.st,λ f hf=>⟨(h.old f hf).1,λ hc hm=>(h.old f hf).2 hc (hs.subset hm)⟩,λ f hf=>?_,λ o h2=>h.own o ((uA O i).subset h2),h.dis.sublist hs⟩;rcases List.mem_cons.1 hf with rfl|hf
 ·refine⟨h1.1.cl,λ hc=>?_⟩;have hb:=h1.1.Tj hc;have hin:cI p∈fV p:=by show cI p∈fV (Ow.mk p cs c T sz).p;rw[hb];exact List.mem_singleton.2 rfl
  refine⟨λ hm=>?_,h1.2 _ hin⟩;rcases List.mem_append.1 hm with hm|hm;·exact nd.2.2 _ hm _ (pd.mem_iff.2 (List.mem_append_left _ hin)) rfl
  ·exact nd2.2.2 _ hin _ hm rfl
 ·exact⟨(h.new f hf).1,λ hc=>⟨λ hm=>((h.new f hf).2 hc).1 (hs.subset hm),((h.new f hf).2 hc).2⟩⟩
theorem SF.aC3(h:SF w0 M H A F O w)(a:Option Addr):SF w0 M H A ((a,[])::F) O w:=⟨h.st,h.old,λ f hf=>by
 rcases List.mem_cons.1 hf with rfl|hf;·exact⟨Cl.nil w a,λ hc=>absurd rfl hc⟩
 ·exact h.new f hf,h.own,h.dis⟩
theorem SF.Gy(h:SF w0 M H A F O w){a':Option Addr}{cs':List Value}(hf:pB A F [] a cs)(hb:cs'≠[]->cI a'=cI a)(hn:cs=[]->cs'=[])(hc:∀w,Cl w a cs->Cl w a' cs'):SF w0 M H ((a',cs')::A) F O w:=⟨h.st,λ f hf'=>by
 rcases List.mem_cons.1 hf' with rfl|hf'
 ·have k1:Cl w a cs:=by
   cases hf with
   | old hf=>exact(h.old _ hf.mem).1
   | new hf=>exact(h.new _ hf.mem).1
   | own hf=>cases hf
   | hdr hf _=>cases hf
  exact⟨hc w k1,λ hcs=>by
   show cI a'∉_
   rw[hb hcs];exact h.apart hf λ e=>hcs (hn e)⟩
 ·exact h.old f hf',h.new,h.own,h.dis⟩
variable{d:Nat}{ty:TypeId}{pos:String}{af:Array Edge}{gd:Option (Nat×Bool)}{dst:Option Nat}
variable{X:Type}{V:X->Value}{φ:X->Prop}{Hc:X->List (Nat×Obj)}{Fc:X->Fr}{Oc:X->List Ow}{f:FuncId}{xs:List Operand}{at_:Array TypeId}{vs:List Value}
variable{b:Nat}{fn:Func}{rs:List ResultVar}{Y:Type}
theorem cSF(hp:plain P f=true)(ha:lX S xs=vs)(hc:∀w,SF w0 M H A F O w->Calls P f ⟨vs⟩ w λ e w'=>∃x,e=.returned (V x)/\φ x/\SF w [] [] [] (Fc x) [] w') :
  aQ P S (SF w0 M H A F O) ⟨dst,.call {callee:=.value (.func f),args:=⟨xs⟩,argTypes:=at_},ty,pos,af,gd⟩ X V (λ x w=>φ x/\SF w0 M H A (Fc x++F) O w) :=
 gD (lZ hp ha) λ w hw=>(hc w hw).mono λ _ _ ⟨x,he,hx,hs⟩=>⟨x,he,hx,by simpa using hw.call hs⟩
theorem aFL(hp:plain P f=true)(ha:lX S xs=vs)(hc:∀w,SF w0 M H A F O w->Calls P f ⟨vs⟩ w λ e w'=>∃x,e=.returned (V x)/\φ x/\SF w [] (Hc x) [] (Fc x) (Oc x) w') :
  aQ P S (SF w0 M H A F O) ⟨dst,.call {callee:=.value (.func f),args:=⟨xs⟩,argTypes:=at_},ty,pos,af,gd⟩ X V (λ x w=>φ x/\SF w0 M (Hc x++H) A (Fc x++F) (Oc x++O) w) :=
 gD (lZ hp ha) λ w hw=>(hc w hw).mono λ _ _ ⟨x,he,hx,hs⟩=>⟨x,he,hx,hw.call hs⟩
theorem nn{i:Nat}{o o':Obj}(ha:At H i b o)(hn:(H.map Prod.fst).Nodup):∀p∈setAt H i o',p∈[(b,o')]∨(p∈H/\p.1∉[b]):=λ p hp=>by
 rcases Dg (o':=o') ha hn p hp with rfl|⟨h1,h2⟩;·exact .inl (List.mem_singleton.2 rfl)
 ·exact .inr ⟨h1,by simpa using h2⟩
theorem gp{i:Nat}{o':Obj}:Ks (setAt H i o') O=Ks H O:=by unfold Ks;rw[zC]
theorem SF.aEG(h:SF w0 M H A F O w){i:Nat}{o o':Obj}(ha:At H i b o){Hc:List (Nat×Obj)}{Fc:Fr}{Oc:List Ow}(hc:SF w [b] ((b,o')::Hc) [] Fc Oc w'):SF w0 M (Hc++setAt H i o') A (Fc++F) (Oc++O) w':=by have hb:b∈H.map Prod.fst:=List.mem_map.2 ⟨_,ha.mem,rfl⟩;refine h.Wo (D:=[b]) (Hm:=[(b,o')]) (Om:=[]) (H1:=setAt H i o') (O1:=O) (by simpa using hc) (λ c hd=>by simp only[List.mem_singleton] at hd;subst hd;exact List.mem_append_left _ hb) (nn ha h.st.nodup) (λ o ho=>.inr ⟨ho,λ c hco hd=>?_⟩) (by rw[gp];exact h.dis);simp only[List.mem_singleton] at hd;subst hd;exact h.aDu ho hco hb
theorem aFQ{i:Nat}{o:Obj}{o':X->Obj}(hp:plain P f=true)(ha:lX S xs=vs)(hb:At H i b o)(hc:∀w,SF w0 M H A F O w->Calls P f ⟨vs⟩ w λ e w'=>∃x,e=.returned (V x)/\φ x/\SF w [b] ((b,o' x)::Hc x) [] (Fc x) (Oc x) w') :
  aQ P S (SF w0 M H A F O) ⟨dst,.call {callee:=.value (.func f),args:=⟨xs⟩,argTypes:=at_},ty,pos,af,gd⟩ X V (λ x w=>φ x/\SF w0 M (Hc x++setAt H i (o' x)) A (Fc x++F) (Oc x++O) w) :=
 gD (lZ hp ha) λ w hw=>(hc w hw).mono λ _ _ ⟨x,he,hx,hs⟩=>⟨x,he,hx,hw.aEG hb hs⟩
theorem SF.aB0(h:St w [] [] w'):SF w [] [] [] [] [] w':=⟨h,λ _ h=>(List.not_mem_nil h).elim,λ _ h=>(List.not_mem_nil h).elim,λ _ h=>(List.not_mem_nil h).elim,List.nodup_nil⟩
theorem aFM{v:Value}(hp:plain P f=true)(ha:lX S xs=vs)(hc:∀w,SF w0 M H A F O w->Calls P f ⟨vs⟩ w λ e w'=>e=.returned v/\St w [] [] w') :
  aQ P S (SF w0 M H A F O) ⟨dst,.call {callee:=.value (.func f),args:=⟨xs⟩,argTypes:=at_},ty,pos,af,gd⟩ Unit (λ _=>v) (λ _=>SF w0 M H A F O) :=
 gD (lZ hp ha) λ w hw=>(hc w hw).mono λ _ _ ⟨he,hs⟩=>⟨(),he,by simpa using hw.call (SF.aB0 hs)⟩
theorem aF4(hp:plain P f=true)(ha:lX S xs=vs)(hc:∀w,SF w0 M H A F O w->Calls P f ⟨vs⟩ w λ e w'=>∃x,e=.returned (V x)/\φ x/\St w [] [] w') :
  aQ P S (SF w0 M H A F O) ⟨dst,.call {callee:=.value (.func f),args:=⟨xs⟩,argTypes:=at_},ty,pos,af,gd⟩ X V (λ x w=>φ x/\SF w0 M H A F O w) :=
 gD (lZ hp ha) λ w hw=>(hc w hw).mono λ _ _ ⟨x,he,hx,hs⟩=>⟨x,he,hx,by simpa using hw.call (SF.aB0 hs)⟩
theorem wR{R:Ending->World->Prop}{vs:List Value}(hr:fn.results=⟨rs⟩)(hv:jU P S H rs vs)(h:∀w,SF w0 M H A F O w->R (.returned (gU vs)) w) :
  JK P n (bodyPost P fn R) (.code .ret::ks) S (SF w0 M H A F O) :=
 aEe λ hS w hw=>⟨rfl,_,Oj hS hw.st hr hv,h w hw⟩
theorem aP{R:Ending->World->Prop}{vs:List Value}(hr:fn.results=⟨rs⟩)(h:∀w,SF w0 M H A F O w->R (.returned (gU vs)) w)(hv:jU P S H rs vs:=by exact(.tmp (by conv=>{lhs;whnf}) .nil)) :
  JK P n (bodyPost P fn R) (.code .ret::ks) S (SF w0 M H A F O):=wR hr hv h
theorem v5{R:Ending->World->Prop}{vs:List Value}(hr:fn.results=⟨rs⟩)(hv:jU P S H rs vs)(h:∀w,SF w0 M H A F O w->R (.returned (gU vs)) w) :
  JK P n (bodyPost P fn R) [] S (SF w0 M H A F O):=⟨λ hS w hw=>⟨rfl,_,Oj hS hw.st hr hv,h w hw⟩⟩
theorem Xm(keys:List Nat)(K:Y->List (Nat×Value))(I:Y->Prop)(Hx:Y->List (Nat×Obj))(Fx:Y->Fr)(Ox:Y->List Ow)(μ:Y->Nat){c:Code}(x0:Y)(hn:(keys.all λ k=>Nat.blt k n)=true)(hKn:∀x,((K x).all λ p=>Nat.blt p.1 n)=true)(hK0:mB (K x0) S)(hG0:I x0)(hw0:∀w,SF w0 M H A F O w->SF w0 M (Hx x0) A (Fx x0) (Ox x0) w)(round:∀x f,I x->JK P n Q (.code c::.inv (lJ n keys K (λ x w=>I x/\SF w0 M (Hx x) A (Fx x) (Ox x) w) μ S (μ x))::ks) (K x++(kK keys f++S)) (SF w0 M (Hx x) A (Fx x) (Ox x))) :
  JK P n Q (.code (.loop c)::ks) S (SF w0 M H A F O):=aDN keys K (λ x w=>I x/\SF w0 M (Hx x) A (Fx x) (Ox x) w) μ x0 hn hKn hK0 (λ w hw=>⟨hG0,hw0 w hw⟩) λ x f=>Tt λ h=>round x f h
theorem jS{keys:List Nat}{K:Y->List (Nat×Value)}{I:Y->Prop}{Hx:Y->List (Nat×Obj)}{Fx:Y->Fr}{Ox:Y->List Ow}{μ:Y->Nat}{S0:List (Nat×Value)}{m:Nat}(x':Y)(hμ:μ x'<m)(hK:mB (K x') S)(hp:wT keys S S0)(hI:I x')(hw1:∀w,G w->SF w0 M (Hx x') A (Fx x') (Ox x') w) :
  JK P n Q (.inv (lJ n keys K (λ x w=>I x/\SF w0 M (Hx x) A (Fx x) (Ox x) w) μ S0 m)::ks) S G:=w6 x' hμ hK hp λ w hw=>⟨hI,hw1 w hw⟩
variable{a:Option Addr}{x y:Operand}{t e:TypeId}
variable{lst:List Pr}{m k q:Nat}
theorem Qn{lst:List Int}{c:Nat}{kk:IntKind}(hx:ev S x=.slice a m c)(hy:ev S y=.int kk ((k:Nat):Int))(ht:P.underlying t=some (.slice e))(hs:one P e=true)(hf:pB A F O a (aN lst))(h1:k<m)(h2:k<lst.length) :
  aH P S (SF w0 M H A F O) ⟨some d,.indexAddr t x y,ty,pos,af,gd⟩ (.pointer (some ⟨cI a,dH a+k,none⟩)):=⟨λ w hw =>
 (Io (G:=SF w0 M H A F O) hx hy ht hs ((hw.cl hf).aFT (by omega)) h1).run w hw⟩
theorem pq{c:Nat}{kk:IntKind}(hx:ev S x=.slice a m c)(hy:ev S y=.int kk ((k:Nat):Int))(ht:P.underlying t=some (.slice e))(hs:gX P e 2=true)(hf:pB A F O a (cY lst))(h1:k<m)(h2:k<lst.length) :
  aH P S (SF w0 M H A F O) ⟨some d,.indexAddr t x y,ty,pos,af,gd⟩ (.pointer (some ⟨cI a,dH a+2*k,none⟩)):=⟨λ w hw =>
 (lm (G:=SF w0 M H A F O) hx hy ht hs ((hw.cl hf).aGf (by omega)) h1).run w hw⟩
theorem aAh{lst:List Int}(hx:ev S x=.pointer (some ⟨cI a,dH a+q,none⟩))(ht:one P t=true)(hf:pB A F O a (aN lst))(hq:q<lst.length) :
  aH P S (SF w0 M H A F O) ⟨some d,.load t x,ty,pos,af,gd⟩ (.int .i64 (lst.getD q 0)):=zU hx ht (λ w hw=>hw.cl hf) (ny hq)
theorem gl(hx:ev S x=.pointer (some ⟨cI a,dH a+2*q,none⟩))(ht:one P t=true)(hf:pB A F O a (cY lst))(hq:q<lst.length) :
  aH P S (SF w0 M H A F O) ⟨some d,.load t x,ty,pos,af,gd⟩ (.string (lst.getD q (⟨#[]⟩,0)).1):=zU hx ht (λ w hw=>hw.cl hf) (Cv hq).1
theorem sj(hx:ev S x=.pointer (some ⟨cI a,dH a+(2*q+1),none⟩))(ht:one P t=true)(hf:pB A F O a (cY lst))(hq:q<lst.length) :
  aH P S (SF w0 M H A F O) ⟨some d,.load t x,ty,pos,af,gd⟩ (.int .u64 (lst.getD q (⟨#[]⟩,0)).2):=zU hx ht (λ w hw=>hw.cl hf) (Cv hq).2
theorem xc(hx:ev S x=.pointer (some ⟨cI a,dH a+2*q,none⟩))(ht:gX P t 2=true)(hf:pB A F O a (cY lst))(hq:q<lst.length) :
  aH P S (SF w0 M H A F O) ⟨some d,.load t x,ty,pos,af,gd⟩ (.agg ⟨[.string (lst.getD q (⟨#[]⟩,0)).1,.int .u64 (lst.getD q (⟨#[]⟩,0)).2]⟩):=⟨λ w hw =>
 (cw (w0:=w) (M:=[]) (H:=[]) hx ht (hw.cl hf) (Cv hq).1 (Cv hq).2 (by simp)).run w (St.refl w)⟩
end
end Go.Ct

/- Merged. -/
import Derived.Test.YtbajmaoegmbfgaaGreatGFun
set_option linter.unusedSimpArgs false
set_option linter.unusedVariables false
namespace Go.Ct
open Go Go.RowKit
section
abbrev Fr:=List (Option Addr×List Value)
structure Ow where
 p:Option Addr
 cs:List Value
 c:Nat
 T:TypeId
 sz:Nat
def iV:Option Addr->List Nat|some a=>[a.block]|none=>[]
def Ks(H:List (Nat×Obj))(O:List Ow):List Nat:=H.map Prod.fst++O.flatMap λ o=>iV o.p
inductive Aw:Fr->Option Addr->List Value->Prop where
 | head {a:Option Addr} {cs:List Value} {F:Fr}:Aw ((a,cs)::F) a cs
 | tail {f:Option Addr×List Value} {F:Fr} {a:Option Addr} {cs:List Value}:Aw F a cs->Aw (f::F) a cs
theorem Aw.mem{F:Fr}{a:Option Addr}{cs:List Value}(h:Aw F a cs):(a,cs)∈F:=by
 induction h with
 | head=>exact List.mem_cons_self ..
 | tail _ ih=>exact List.mem_cons_of_mem _ ih
inductive yU:List Ow->Nat->Option Addr->List Value->Nat->TypeId->Nat->Prop where
 | head {p:Option Addr} {cs:List Value} {c:Nat} {T:TypeId} {sz:Nat} {O:List Ow}:yU (⟨p,cs,c,T,sz⟩::O) 0 p cs c T sz
 | tail {o:Ow} {O:List Ow} {i:Nat} {p:Option Addr} {cs:List Value} {c:Nat} {T:TypeId} {sz:Nat}:yU O i p cs c T sz->yU (o::O) (i+1) p cs c T sz
theorem yU.mem{O:List Ow}{i:Nat}{p:Option Addr}{cs:List Value}{c:Nat}{T:TypeId}{sz:Nat}(h:yU O i p cs c T sz):(⟨p,cs,c,T,sz⟩:Ow)∈O:=by
 induction h with
 | head=>exact List.mem_cons_self ..
 | tail _ ih=>exact List.mem_cons_of_mem _ ih
def lM:List Ow->Nat->Ow->List Ow
 | [],_,_=>[]
 | _::r,0,o=>o::r
 | p::r,i+1,o=>p::lM r i o
def sR:List Ow->Nat->List Ow
 | [],_=>[]
 | _::r,0=>r
 | p::r,i+1=>p::sR r i
def Hdr(a p:Option Addr)(cs:List Value)(c:Nat):Prop:=a=p∨(p=none/\cs=[]/\c=0)
inductive sD(A F:Fr)(O:List Ow)(a:Option Addr)(cs:List Value):Prop where
 | bS (h:Aw A a cs)
 | new (h:Aw F a cs)
 | own {i c:Nat} {T:TypeId} {sz:Nat} (h:yU O i a cs c T sz)
 | hdr {i c:Nat} {T:TypeId} {sz:Nat} {p:Option Addr} (h:yU O i p cs c T sz) (e:Hdr a p cs c)
inductive bA(F:Fr):Fr->Prop where
 | nil:bA F []
 | cons {a:Option Addr} {cs:List Value} {F':Fr} (h:Aw F a cs) (hs:bA F F'):bA F ((a,cs)::F')
theorem bA.sub{F F':Fr}(h:bA F F'):∀f∈F',f∈F:=by
 induction h with
 | nil=>intro f hf;exact(List.not_mem_nil hf).elim
 | cons h _ ih=>
  intro f hf;rcases List.mem_cons.1 hf with rfl|hf;·exact h.mem
  ·exact ih f hf
theorem Cl.lt{w:World}{a:Option Addr}{cs:List Value}(h:Cl w a cs)(hc:cs≠[]):dG a<w.heap.size:=by have h0:0<cs.length:=List.length_pos_iff.2 hc;exact World.block_lt_of_cell? w ⟨dG a,eO a+0,none⟩ (h.at_ 0 cs[0] (List.getElem?_eq_getElem h0)).2
def Cx(w:World)(o:Ow):Prop :=
 (o.p=none/\o.cs=[]/\o.c=0)∨∃b rest,o.p=some ⟨b,0,none⟩/\w.heap[b]?=some (.cells ⟨o.cs++rest⟩ o.T (0,0))/\(o.cs++rest).length=o.c*o.sz
variable{w:World}{o:Ow}
theorem Cx.cl(h:Cx w o):Cl w o.p o.cs:=by
 rcases h with⟨_,h2,_⟩|⟨b,rest,h1,h2,_⟩;·rw[h2];exact Cl.nil _ _
 ·rw[h1];exact Cl.block (pre:=[]) (rest:=rest) (by simpa using h2) rfl
theorem Cx.lt(h:Cx w o):∀b∈iV o.p,b<w.heap.size:=by
 rcases h with⟨h1,_,_⟩|⟨b,rest,h1,h2,_⟩;·rw[h1];simp[iV]
 ·rw[h1];simp only[iV,List.mem_singleton,forall_eq];exact jN h2
theorem Cx.lC{w':World}(h:Cx w o)(hk:∀b∈iV o.p,w'.heap[b]?=w.heap[b]?):Cx w' o:=by
 rcases h with h|⟨b,rest,h1,h2,h3⟩;·exact .inl h
 ·exact .inr ⟨b,rest,h1,by rw[hk b (by rw[h1];simp[iV])];exact h2,h3⟩
theorem Cx.Td(h:Cx w o)(hc:o.cs≠[]):iV o.p=[dG o.p]:=by
 rcases h with⟨_,h2,_⟩|⟨b,rest,h1,_,_⟩;·exact absurd h2 hc
 ·rw[h1];rfl
structure SF(w0:World)(M:List Nat)(H:List (Nat×Obj))(A F:Fr)(O:List Ow)(w:World):Prop where
 st:St w0 M H w
 bS:∀f∈A,Cl w f.1 f.2/\(f.2≠[]->dG f.1∉Ks H O)
 new:∀f∈F,Cl w f.1 f.2/\(f.2≠[]->dG f.1∉Ks H O/\(w0.heap.size<=dG f.1∨dG f.1∈M))
 own:∀o∈O,Cx w o/\∀b∈iV o.p,w0.heap.size<=b∨b∈M
 dis:(Ks H O).Nodup
section
variable{P:Program}{n:Nat}{Q:Exit->Act->World->Prop}{ks:List CK}{S:List (Nat×Value)}{ops:Array Oper}{l:List Oper}
variable{w0 w w':World}{M:List Nat}{H H':List (Nat×Obj)}{A F F':Fr}{O O':List Ow}{G:World->Prop}
theorem Ek{α β:Type}{f:α->List β}{l l':List α}(h:l'.Sublist l):(l'.flatMap f).Sublist (l.flatMap f):=by
 induction h with
 | slnil=>exact List.Sublist.refl _
 | cons a _ ih=>rw[List.flatMap_cons];exact ih.trans (List.sublist_append_right _ _)
 | cons_cons a _ ih=>rw[List.flatMap_cons,List.flatMap_cons];exact(List.Sublist.refl _).append ih
theorem eJ{b:Nat}:b∈Ks H O↔(∃p∈H,p.1=b)∨∃o∈O,b∈iV o.p:=by simp[Ks]
theorem SF.lt(h:SF w0 M H A F O w):∀b∈Ks H O,b<w.heap.size:=by
 intro b hb;rcases eJ.1 hb with⟨p,hp,rfl⟩|⟨o,ho,hb⟩;·exact jN (h.st.has p hp)
 ·exact(h.own o ho).1.lt b hb
theorem SF.Tu(h:SF w0 M H A F O w):∀b∈Ks H O,w0.heap.size<=b∨b∈M:=by
 intro b hb;rcases eJ.1 hb with⟨p,hp,rfl⟩|⟨o,ho,hb⟩;·exact(h.st.new p hp).symm
 ·exact(h.own o ho).2 b hb
theorem SF.cl(h:SF w0 M H A F O w){a:Option Addr}{cs:List Value}(hf:sD A F O a cs):Cl w a cs:=by
 cases hf with
 | bS hf=>exact(h.bS _ hf.mem).1
 | new hf=>exact(h.new _ hf.mem).1
 | own hf=>exact(h.own _ hf.mem).1.cl
 | hdr hf e=>
  rcases e with rfl|⟨_,rfl,_⟩;·exact(h.own _ hf.mem).1.cl
  ·exact Cl.nil _ _
theorem SF.s0(w:World):SF w [] [] [] [] [] w:=⟨St.refl w,λ _ h=>(List.not_mem_nil h).elim,λ _ h=>(List.not_mem_nil h).elim,λ _ h=>(List.not_mem_nil h).elim,List.nodup_nil⟩
theorem SF.begin{A:Fr}(h:∀f∈A,Cl w f.1 f.2):SF w [] [] A [] [] w:=⟨St.refl w,λ f hf=>⟨h f hf,λ _=>by simp[Ks]⟩,λ _ h=>(List.not_mem_nil h).elim,λ _ h=>(List.not_mem_nil h).elim,List.nodup_nil⟩
theorem SF.s1{a1:Option Addr}{c1:List Value}(h1:Cl w a1 c1):SF w [] [] [(a1,c1)] [] [] w:=SF.begin λ f hf=>by simp only[List.mem_cons,List.not_mem_nil,or_false] at hf;subst hf;exact h1
theorem SF.s2{a1 a2:Option Addr}{c1 c2:List Value}(h1:Cl w a1 c1)(h2:Cl w a2 c2):SF w [] [] [(a1,c1),(a2,c2)] [] [] w:=SF.begin λ f hf=>by
 simp only[List.mem_cons,List.not_mem_nil,or_false] at hf;rcases hf with rfl|rfl;·exact h1
 ·exact h2
structure dm(w w':World)(D:List Nat):Prop where
 os:w'.os=w.os
 tape:w'.tape=w.tape
 output:w'.output=w.output
 size:w.heap.size<=w'.heap.size
 lC:∀b,b<w.heap.size->b∉D->w'.heap[b]?=w.heap[b]?
variable{a p:Option Addr}{cs:List Value}{D:List Nat}{X:Type}{Hc:List (Nat×Obj)}{Oc:List Ow}{Fc:Fr}{i c sz:Nat}{T:TypeId}{o':Ow}
theorem St.chg(h:St w M H w'):dm w w' M:=⟨h.os,h.tape,h.output,h.size,h.lC⟩
theorem Cl.chg(h:Cl w a cs)(c:dm w w' D)(hn:cs≠[]->dG a∉D):Cl w' a cs:=by
 refine⟨λ j u hj=>⟨(h.at_ j u hj).1,?_⟩⟩;have hne:cs≠[]:=by rintro rfl;simp at hj
 have:=(h.at_ j u hj).2;rw[World.cell?_of_block (c.lC _ (h.lt hne) (hn hne))];exact this
theorem SF.to(h:SF w0 M H A F O w)(c:dm w w' D)(hD:∀b∈D,b∈Ks H O)(hH:∀p∈H',w'.heap[p.1]?=some p.2)(hO:∀o∈O',Cx w' o)(hK:∀b∈Ks H' O',b∈Ks H O∨w.heap.size<=b)(hn:(Ks H' O').Nodup):SF w0 M H' A F O' w':=by
 have hnew:∀b∈Ks H' O',w0.heap.size<=b∨b∈M:=λ b hb=>by
  rcases hK b hb with h1|h1;·exact h.Tu b h1
  ·exact .inl (Nat.le_trans h.st.size h1)
 have key:∀{a:Option Addr} {cs:List Value},Cl w a cs->(cs≠[]->dG a∉Ks H O)->Cl w' a cs/\(cs≠[]->dG a∉Ks H' O'):=by
  intro a cs hc hn;refine⟨hc.chg c λ hcs hm=>hn hcs (hD _ hm),λ hcs hm=>?_⟩;rcases hK _ hm with h3|h3;·exact hn hcs h3
  ·have:=hc.lt hcs;omega
 refine⟨⟨c.os.trans h.st.os,c.tape.trans h.st.tape,c.output.trans h.st.output,Nat.le_trans h.st.size c.size,λ b hb hM=>?_,hH,λ p hp=>(hnew p.1 (eJ.2 (.inl ⟨p,hp,rfl⟩))).symm,?_⟩,λ f hf=>key (h.bS f hf).1 (h.bS f hf).2,λ f hf=>?_,λ o ho=>⟨hO o ho,λ b hb=>hnew b (eJ.2 (.inr ⟨o,ho,hb⟩))⟩,hn⟩
 ·rw[c.lC b (Nat.lt_of_lt_of_le hb h.st.size) λ hm=>?_];·exact h.st.lC b hb hM
  ·rcases h.Tu b (hD b hm) with h1|h1;·omega
   ·exact hM h1
 ·exact(List.nodup_append.1 hn).1
 ·have k:=key (h.new f hf).1 (λ hc=>((h.new f hf).2 hc).1)
  exact⟨k.1,λ hc=>⟨k.2 hc,((h.new f hf).2 hc).2⟩⟩
theorem SF.aB7(h:SF w0 M H A F O w){o:Ow}(ho:o∈O){b:Nat}(hb:b∈iV o.p):b∉H.map Prod.fst:=λ hm=>by have:=(List.nodup_append.1 h.dis).2.2 b hm b (List.mem_flatMap.2 ⟨o,ho,hb⟩);exact this rfl
theorem SF.step(h:SF w0 M H A F O w){H':List (Nat×Obj)}(h2:St w (H.map Prod.fst) H' w'):SF w0 M H' A F O w':=by
 refine h.to h2.chg (λ b hb=>List.mem_append_left _ hb) h2.has (λ o ho=>(h.own o ho).1.lC λ b hb=>h2.lC b ((h.own o ho).1.lt b hb) (h.aB7 ho hb)) (λ b hb=>?_) ?_
 ·rcases eJ.1 hb with⟨p,hp,rfl⟩|⟨o,ho,hb⟩
  ·rcases h2.new p hp with h3|h3;·exact .inl (List.mem_append_left _ h3)
   ·exact .inr h3
  ·exact .inl (eJ.2 (.inr ⟨o,ho,hb⟩))
 ·refine List.nodup_append.2 ⟨h2.nodup,(List.nodup_append.1 h.dis).2.1,λ a ha b hb e=>?_⟩;subst e;obtain⟨o,ho,hb⟩:=List.mem_flatMap.1 hb;obtain⟨p,hp,rfl⟩:=List.mem_map.1 ha;rcases h2.new p hp with h3|h3;·exact h.aB7 ho hb h3
  ·have:=(h.own o ho).1.lt _ hb;omega
theorem xn.mono{X:Type}{V:X->Value}{G1 G2:X->World->Prop}{r:Result Next}(h:xn P X V G1 r)(hG:∀x w,G1 x w->G2 x w):xn P X V G2 r:=by
 cases r with
 | ok nx w'=>
  cases nx<;>simp only[xn] at h ⊢;case value v=>obtain⟨x,hx,hg⟩:=h;exact⟨x,hx,hG _ _ hg⟩
  case skip=>obtain⟨x,hx,hg⟩:=h;exact⟨x,hx,hG _ _ hg⟩
  case enter f args=>exact h.mono λ e w'' ⟨x,hx,hg⟩=>⟨x,hx,hG _ _ hg⟩
 | halt x w'=>exact h.elim
theorem qSF{o:Oper}{v:Value}(h:aM P S (St w0 M H) o v):aM P S (SF w0 M H A F O) o v:=⟨λ w hw=>h.run w hw.st⟩
theorem gE{o:Oper}{V:X->Value}{H':X->List (Nat×Obj)}(h:∀w1:World,bG P S (St w1 (H.map Prod.fst) H) o X V (λ x=>St w1 (H.map Prod.fst) (H' x))) :
  bG P S (SF w0 M H A F O) o X V (λ x=>SF w0 M (H' x) A F O):=⟨λ w hw=>((h w).run w (D0 hw.st)).mono λ _ _ hg=>hw.step hg⟩
theorem SF.drew(h:SF w0 M H A F O w):SF w0 M H A F O w.drew:=⟨h.st.drew,λ f hf=>⟨⟨(h.bS f hf).1.at_⟩,(h.bS f hf).2⟩,λ f hf=>⟨⟨(h.new f hf).1.at_⟩,(h.new f hf).2⟩,h.own,h.dis⟩
theorem SF.sub(h:SF w0 M H A F O w)(hH:H'.Sublist H)(hF:bA F F')(hO:O'.Sublist O):SF w0 M H' A F' O' w:=by have hs:(Ks H' O').Sublist (Ks H O):=(hH.map _).append (Ek hO);exact⟨h.st.sub hH,λ f hf=>⟨(h.bS f hf).1,λ hc hm=>(h.bS f hf).2 hc (hs.subset hm)⟩,λ f hf=>⟨(h.new f (hF.sub f hf)).1,λ hc=>⟨λ hm=>((h.new f (hF.sub f hf)).2 hc).1 (hs.subset hm),((h.new f (hF.sub f hf)).2 hc).2⟩⟩,λ o ho=>h.own o (hO.subset ho),h.dis.sublist hs⟩
theorem SF.noA(h:SF w0 M H A F O w):SF w0 M H [] F O w:=⟨h.st,λ _ hf=>(List.not_mem_nil hf).elim,h.new,h.own,h.dis⟩
theorem SF.ret(h:SF w0 M H A F O w)(hH:H'.Sublist H)(hF:bA F F')(hO:O'.Sublist O):SF w0 M H' [] F' O' w:=(h.sub hH hF hO).noA
theorem yA(Hc:List (Nat×Obj))(Oc:List Ow):∀b,b∈Ks (Hc++H) (Oc++O)↔b∈Ks Hc Oc∨b∈Ks H O:=by
 intro b;simp only[eJ,List.mem_append];constructor
 ·rintro (⟨p,hp|hp,rfl⟩|⟨o,ho|ho,hb⟩);·exact .inl (.inl ⟨p,hp,rfl⟩)
  ·exact .inr (.inl ⟨p,hp,rfl⟩)
  ·exact .inl (.inr ⟨o,ho,hb⟩)
  ·exact .inr (.inr ⟨o,ho,hb⟩)
 ·rintro ((⟨p,hp,rfl⟩|⟨o,ho,hb⟩)|(⟨p,hp,rfl⟩|⟨o,ho,hb⟩));·exact .inl ⟨p,.inl hp,rfl⟩
  ·exact .inr ⟨o,.inl ho,hb⟩
  ·exact .inl ⟨p,.inr hp,rfl⟩
  ·exact .inr ⟨o,.inr ho,hb⟩
theorem S5(h1:(Ks Hc Oc).Nodup)(h2:(Ks H O).Nodup)(hd:∀b∈Ks Hc Oc,b∉Ks H O):(Ks (Hc++H) (Oc++O)).Nodup:=by
 have hp:(Ks (Hc++H) (Oc++O)).Perm (Ks Hc Oc++Ks H O):=by unfold Ks;rw[List.map_append,List.flatMap_append];simp only[List.append_assoc];refine List.Perm.append_left _ ?_;rw[<- List.append_assoc,<- List.append_assoc];exact List.Perm.append_right _ List.perm_append_comm
 rw[hp.nodup_iff];exact List.nodup_append.2 ⟨h1,h2,λ a ha b hb e=>hd a ha (e▸hb)⟩
theorem SF.call(h:SF w0 M H A F O w)(hc:SF w [] Hc [] Fc Oc w'):SF w0 M (Hc++H) A (Fc++F) (Oc++O) w':=by
 have fresh:∀b∈Ks Hc Oc,w.heap.size<=b:=λ b hb=>(hc.Tu b hb).elim id λ h=>(List.not_mem_nil h).elim
 have hk:∀b,b<w.heap.size->w'.heap[b]?=w.heap[b]?:=λ b hb=>hc.st.lC b hb (by simp)
 have h1:SF w0 M (Hc++H) A F (Oc++O) w':=by
  refine h.to hc.st.chg (λ b hb=>(List.not_mem_nil hb).elim) (λ p hp=>?_) (λ o ho=>?_) (λ b hb=>?_) (S5 hc.dis h.dis λ b hb hm=>?_)
  ·rcases List.mem_append.1 hp with hp|hp;·exact hc.st.has p hp
   ·have:=h.st.has p hp;rw[hk _ (jN this)];exact this
  ·rcases List.mem_append.1 ho with ho|ho;·exact(hc.own o ho).1
   ·exact(h.own o ho).1.lC λ b hb=>hk b ((h.own o ho).1.lt b hb)
  ·rcases(yA Hc Oc b).1 hb with hb|hb
   ·exact .inr (fresh b hb)
   ·exact .inl hb
  ·have:=fresh b hb;have:=h.lt b hm;omega
 refine⟨h1.st,h1.bS,λ f hf=>?_,h1.own,h1.dis⟩;rcases List.mem_append.1 hf with hf|hf
 ·have k:=hc.new f hf;have k2:f.2≠[]->w.heap.size<=dG f.1:=λ hcs=>(k.2 hcs).2.elim id λ h=>(List.not_mem_nil h).elim
  refine⟨k.1,λ hcs=>⟨λ hm=>?_,.inl (Nat.le_trans h.st.size (k2 hcs))⟩⟩;rcases(yA Hc Oc _).1 hm with hm|hm
  ·exact(k.2 hcs).1 hm
  ·have:=h.lt _ hm;have:=k2 hcs;omega
 ·exact h1.new f hf
theorem SF.j3(h:SF w0 M H A F O w){Hm H1:List (Nat×Obj)}{Om O1:List Ow}(hc:SF w D (Hm++Hc) [] Fc (Om++Oc) w')(hD:∀b∈D,b∈Ks H O)(hH1:∀p∈H1,p∈Hm∨(p∈H/\p.1∉D))(hO1:∀o∈O1,o∈Om∨(o∈O/\∀b∈iV o.p,b∉D))(hn:(Ks H1 O1).Nodup):SF w0 M (Hc++H1) A (Fc++F) (Oc++O1) w':=by
 have inH:∀p∈Hc,p.1∈Ks (Hm++Hc) (Om++Oc):=λ p hp=>eJ.2 (.inl ⟨p,List.mem_append_right _ hp,rfl⟩)
 have hk:∀b,b<w.heap.size->b∉D->w'.heap[b]?=w.heap[b]?:=λ b hb hd=>hc.st.lC b hb hd
 have hsub:(Ks Hc Oc).Sublist (Ks (Hm++Hc) (Om++Oc)):=by unfold Ks;rw[List.map_append,List.flatMap_append];exact(List.sublist_append_right _ _).append (List.sublist_append_right _ _)
 have perm:(Ks (Hm++Hc) (Om++Oc)).Perm (Ks Hm Om++Ks Hc Oc):=by unfold Ks;rw[List.map_append,List.flatMap_append];simp only[List.append_assoc];refine List.Perm.append_left _ ?_;rw[<- List.append_assoc,<- List.append_assoc];exact List.Perm.append_right _ List.perm_append_comm
 have disj:∀b∈Ks Hc Oc,b∉Ks Hm Om:=λ b hb hm=>by have:=(perm.nodup_iff.1 hc.dis);exact(List.nodup_append.1 this).2.2 b hm b hb rfl
 have kin:∀b∈Ks H1 O1,b∈Ks Hm Om∨(b∈Ks H O/\b∉D):=λ b hb=>by
  rcases eJ.1 hb with⟨p,hp,rfl⟩|⟨o,ho,hb⟩
  ·rcases hH1 p hp with h1|⟨h1,h2⟩;·exact .inl (eJ.2 (.inl ⟨p,h1,rfl⟩))
   ·exact .inr ⟨eJ.2 (.inl ⟨p,h1,rfl⟩),h2⟩
  ·rcases hO1 o ho with h1|⟨h1,h2⟩;·exact .inl (eJ.2 (.inr ⟨o,h1,hb⟩))
   ·exact .inr ⟨eJ.2 (.inr ⟨o,h1,hb⟩),h2 b hb⟩
 have kbig:∀b∈Ks (Hm++Hc) (Om++Oc),b∈Ks H O∨w.heap.size<=b:=λ b hb=>(hc.Tu b hb).elim .inr λ h=>.inl (hD b h)
 have kc:∀b∈Ks Hc Oc,b∈D∨w.heap.size<=b:=λ b hb=>(hc.Tu b (hsub.subset hb)).elim .inr .inl
 have h1:SF w0 M (Hc++H1) A F (Oc++O1) w':=by
  refine h.to hc.st.chg hD (λ p hp=>?_) (λ o ho=>?_) (λ b hb=>?_) (S5 (hc.dis.sublist hsub) hn λ b hb hm=>?_)
  ·rcases List.mem_append.1 hp with hp|hp;·exact hc.st.has p (List.mem_append_right _ hp)
   ·rcases hH1 p hp with h1|⟨h1,h2⟩;·exact hc.st.has p (List.mem_append_left _ h1)
    ·have:=h.st.has p h1;rw[hk _ (jN this) h2];exact this
  ·rcases List.mem_append.1 ho with ho|ho;·exact(hc.own o (List.mem_append_right _ ho)).1
   ·rcases hO1 o ho with h1|⟨h1,h2⟩;·exact(hc.own o (List.mem_append_left _ h1)).1
    ·exact(h.own o h1).1.lC λ b hb=>hk b ((h.own o h1).1.lt b hb) (h2 b hb)
  ·rcases(yA Hc Oc b).1 hb with hb|hb
   ·exact kbig b (hsub.subset hb)
   ·rcases kin b hb with h1|h1;·exact kbig b (perm.mem_iff.2 (List.mem_append_left _ h1))
    ·exact .inl h1.1
  ·rcases kin b hm with h1|⟨h1,h2⟩;·exact disj b hb h1
   ·rcases kc b hb with h3|h3;·exact h2 h3
    ·have:=h.lt b h1;omega
 refine⟨h1.st,h1.bS,λ f hf=>?_,h1.own,h1.dis⟩;rcases List.mem_append.1 hf with hf|hf
 ·have k:=hc.new f hf;refine⟨k.1,λ hcs=>⟨λ hm=>?_,(k.2 hcs).2.elim (λ h1=>.inl (Nat.le_trans h.st.size h1)) λ h1=>h.Tu _ (hD _ h1)⟩⟩;rcases(yA Hc Oc _).1 hm with hm|hm
  ·exact(k.2 hcs).1 (hsub.subset hm)
  ·rcases kin _ hm with h2|h2;·exact(k.2 hcs).1 (perm.mem_iff.2 (List.mem_append_left _ h2))
   ·have:=h.lt _ h2.1;rcases(k.2 hcs).2 with h3|h3
    ·omega
    ·exact h2.2 h3
 ·exact h1.new f hf
theorem SF.apart(h:SF w0 M H A F O w)(hf:sD A F [] a cs)(hc:cs≠[]):dG a∉Ks H O:=by
 cases hf with
 | bS hf=>exact(h.bS _ hf.mem).2 hc
 | new hf=>exact((h.new _ hf.mem).2 hc).1
 | own hf=>cases hf
 | hdr hf _=>cases hf
theorem R5(h:yU O i p cs c T sz):∀o∈lM O i o',o=o'∨o∈sR O i:=by
 induction h with
 | head=>intro o ho;simp only[lM] at ho;exact(List.mem_cons.1 ho).imp id id
 | tail h ih=>
  intro o ho;simp only[lM] at ho;rcases List.mem_cons.1 ho with rfl|ho;·exact .inr (by simp only[sR];exact List.mem_cons_self ..)
  ·exact(ih o ho).imp id λ h=>by simp only[sR];exact List.mem_cons_of_mem _ h
theorem A5:∀(O:List Ow) (i:Nat),(sR O i).Sublist O
 | [],_=>List.Sublist.refl _
 | p::r,0=>List.sublist_cons_self p r
 | p::r,i+1=>(A5 r i).cons_cons p
theorem Lm(h:yU O i p cs c T sz):(O.flatMap λ o=>iV o.p).Perm (iV p++(sR O i).flatMap λ o=>iV o.p):=by
 induction h with
 | head=>simp[sR]
 | @tail o O i p cs c T sz h ih=>simp only[sR,List.flatMap_cons];exact(List.Perm.append_left _ ih).trans E0y
theorem Y8(h:yU O i p cs c T sz):((lM O i o').flatMap λ o=>iV o.p).Perm (iV o'.p++(sR O i).flatMap λ o=>iV o.p):=by
 induction h with
 | head=>simp[sR,lM]
 | @tail o O i p cs c T sz h ih=>simp only[sR,lM,List.flatMap_cons];exact(List.Perm.append_left _ ih).trans E0y
theorem SF.M2(h:SF w0 M H A F O w)(ho:yU O i p cs c T sz)(c1:dm w w' (iV p))(hok:Cx w' o')(hb:∀b∈iV o'.p,b∈iV p∨w.heap.size<=b)(hnd:(iV o'.p).Nodup):SF w0 M H A F (lM O i o') w':=by
 have hin:∀b∈iV p,b∈Ks H O:=λ b hb=>eJ.2 (.inr ⟨_,ho.mem,hb⟩)
 have hdel:∀o∈sR O i,o∈O:=λ o h=>(A5 O i).subset h
 have pd:=Lm ho;have nd:=List.nodup_append.1 h.dis;have nd2:=List.nodup_append.1 (pd.nodup_iff.1 nd.2.1);refine h.to c1 hin (λ q hq=>?_) (λ o h1=>?_) (λ b hb1=>?_) ?_
 ·have:=h.st.has q hq;rw[c1.lC _ (jN this) λ hm=>?_];·exact this
  ·exact nd.2.2 q.1 (List.mem_map.2 ⟨q,hq,rfl⟩) q.1 (List.mem_flatMap.2 ⟨_,ho.mem,hm⟩) rfl
 ·rcases R5 ho o h1 with rfl|h2;·exact hok
  ·refine(h.own o (hdel o h2)).1.lC λ b hb2=>c1.lC b ((h.own o (hdel o h2)).1.lt b hb2) λ hm=>?_;exact nd2.2.2 b hm b (List.mem_flatMap.2 ⟨o,h2,hb2⟩) rfl
 ·rcases eJ.1 hb1 with⟨q,hq,rfl⟩|⟨o,h1,hb2⟩;·exact .inl (eJ.2 (.inl ⟨q,hq,rfl⟩))
  ·rcases R5 ho o h1 with rfl|h2;·exact(hb b hb2).imp (hin b) id
   ·exact .inl (eJ.2 (.inr ⟨o,hdel o h2,hb2⟩))
 ·unfold Ks;rw[((List.Perm.append_left _ (Y8 ho)).nodup_iff)];refine List.nodup_append.2 ⟨nd.1,List.nodup_append.2 ⟨hnd,nd2.2.1,λ a ha b hb1 e=>?_⟩,λ a ha b hb1 e=>?_⟩
  ·subst e;rcases hb a ha with h1|h1;·exact nd2.2.2 a h1 a hb1 rfl
   ·obtain⟨o,h2,hb2⟩:=List.mem_flatMap.1 hb1;have:=(h.own o (hdel o h2)).1.lt a hb2;omega
  ·subst e;rcases List.mem_append.1 hb1 with h1|h1
   ·rcases hb a h1 with h2|h2;·exact nd.2.2 a ha a (pd.mem_iff.2 (List.mem_append_left _ h2)) rfl
    ·obtain⟨q,hq,rfl⟩:=List.mem_map.1 ha;have:=jN (h.st.has q hq);omega
   ·exact nd.2.2 a ha a (pd.mem_iff.2 (List.mem_append_right _ h1)) rfl
theorem SF.Oe(h:SF w0 M H A F O w)(c1:dm w w' [])(hok:Cx w' o')(hb:∀b∈iV o'.p,w.heap.size<=b)(hnd:(iV o'.p).Nodup):SF w0 M H A F (o'::O) w':=by
 refine h.to c1 (λ b hb=>(List.not_mem_nil hb).elim) (λ q hq=>?_) (λ o h1=>?_) (λ b hb1=>?_) ?_;·have:=h.st.has q hq;rw[c1.lC _ (jN this) (by simp)];exact this
 ·rcases List.mem_cons.1 h1 with rfl|h1;·exact hok
  ·exact(h.own o h1).1.lC λ b hb2=>c1.lC b ((h.own o h1).1.lt b hb2) (by simp)
 ·rcases eJ.1 hb1 with⟨q,hq,rfl⟩|⟨o,h1,hb2⟩;·exact .inl (eJ.2 (.inl ⟨q,hq,rfl⟩))
  ·rcases List.mem_cons.1 h1 with rfl|h1;·exact .inr (hb b hb2)
   ·exact .inl (eJ.2 (.inr ⟨o,h1,hb2⟩))
 ·have hp:(Ks H (o'::O)).Perm (iV o'.p++Ks H O):=by unfold Ks;rw[List.flatMap_cons,<- List.append_assoc,<- List.append_assoc];exact List.Perm.append_right _ List.perm_append_comm
  rw[hp.nodup_iff];exact List.nodup_append.2 ⟨hnd,h.dis,λ a ha b hb1 e=>by subst e;have:=hb a ha;have:=h.lt a hb1;omega⟩
theorem mF(p:Option Addr):(iV p).Nodup:=by cases p<;>simp[iV]
theorem SF.kQ(h:SF w0 M H A F O w)(T:TypeId)(sz:Nat):SF w0 M H A F (⟨none,[],0,T,sz⟩::O) w :=h.Oe ⟨rfl,rfl,rfl,Nat.le_refl _,λ _ _ _=>rfl⟩ (.inl ⟨rfl,rfl,rfl⟩) (by simp[iV]) (by simp[iV])
theorem SF.freeze(h:SF w0 M H A F O w)(ho:yU O i p cs c T sz)(hM:True:=trivial):SF w0 M H A ((p,cs)::F) (sR O i) w:=by
 have hs:(Ks H (sR O i)).Sublist (Ks H O):=(List.Sublist.refl _).append (Ek (A5 O i));have h1:=h.own _ ho.mem;have pd:=Lm ho;have nd:=List.nodup_append.1 h.dis;have nd2:=List.nodup_append.1 (pd.nodup_iff.1 nd.2.1);refine⟨h.st,λ f hf=>⟨(h.bS f hf).1,λ hc hm=>(h.bS f hf).2 hc (hs.subset hm)⟩,λ f hf=>?_,λ o h2=>h.own o ((A5 O i).subset h2),h.dis.sublist hs⟩;rcases List.mem_cons.1 hf with rfl|hf
 ·refine⟨h1.1.cl,λ hc=>?_⟩;have hb:=h1.1.Td hc;have hin:dG p∈iV p:=by show dG p∈iV (Ow.mk p cs c T sz).p;rw[hb];exact List.mem_singleton.2 rfl
  refine⟨λ hm=>?_,h1.2 _ hin⟩;rcases List.mem_append.1 hm with hm|hm;·exact nd.2.2 _ hm _ (pd.mem_iff.2 (List.mem_append_left _ hin)) rfl
  ·exact nd2.2.2 _ hin _ hm rfl
 ·exact⟨(h.new f hf).1,λ hc=>⟨λ hm=>((h.new f hf).2 hc).1 (hs.subset hm),((h.new f hf).2 hc).2⟩⟩
theorem SF.Oj(h:SF w0 M H A F O w)(a:Option Addr):SF w0 M H A ((a,[])::F) O w:=⟨h.st,h.bS,λ f hf=>by
 rcases List.mem_cons.1 hf with rfl|hf;·exact⟨Cl.nil w a,λ hc=>absurd rfl hc⟩
 ·exact h.new f hf,h.own,h.dis⟩
theorem SF.T6(h:SF w0 M H A F O w){a':Option Addr}{cs':List Value}(hf:sD A F [] a cs)(hb:cs'≠[]->dG a'=dG a)(hn:cs=[]->cs'=[])(hc:∀w,Cl w a cs->Cl w a' cs'):SF w0 M H ((a',cs')::A) F O w:=⟨h.st,λ f hf'=>by
 rcases List.mem_cons.1 hf' with rfl|hf'
 ·have k1:Cl w a cs:=by
   cases hf with
   | bS hf=>exact(h.bS _ hf.mem).1
   | new hf=>exact(h.new _ hf.mem).1
   | own hf=>cases hf
   | hdr hf _=>cases hf
  exact⟨hc w k1,λ hcs=>by
   show dG a'∉_
   rw[hb hcs];exact h.apart hf λ e=>hcs (hn e)⟩
 ·exact h.bS f hf',h.new,h.own,h.dis⟩
variable{d:Nat}{ty:TypeId}{pos:String}{af:Array Edge}{gd:Option (Nat×Bool)}{dst:Option Nat}
variable{X:Type}{V:X->Value}{φ:X->Prop}{Hc:X->List (Nat×Obj)}{Fc:X->Fr}{Oc:X->List Ow}{f:FuncId}{xs:List Operand}{at_:Array TypeId}{vs:List Value}
variable{b:Nat}{fn:Func}{rs:List ResultVar}{Y:Type}
theorem cSF(hp:plain P f=true)(ha:qR S xs=vs)(hc:∀w,SF w0 M H A F O w->Calls P f ⟨vs⟩ w λ e w'=>∃x,e=.returned (V x)/\φ x/\SF w [] [] [] (Fc x) [] w') :
  bG P S (SF w0 M H A F O) ⟨dst,.call {callee:=.value (.func f),args:=⟨xs⟩,argTypes:=at_},ty,pos,af,gd⟩ X V (λ x w=>φ x/\SF w0 M H A (Fc x++F) O w) :=
 gW (mY hp ha) λ w hw=>(hc w hw).mono λ _ _ ⟨x,he,hx,hs⟩=>⟨x,he,hx,by simpa using hw.call hs⟩
theorem aEv(hp:plain P f=true)(ha:qR S xs=vs)(hc:∀w,SF w0 M H A F O w->Calls P f ⟨vs⟩ w λ e w'=>∃x,e=.returned (V x)/\φ x/\SF w [] (Hc x) [] (Fc x) (Oc x) w') :
  bG P S (SF w0 M H A F O) ⟨dst,.call {callee:=.value (.func f),args:=⟨xs⟩,argTypes:=at_},ty,pos,af,gd⟩ X V (λ x w=>φ x/\SF w0 M (Hc x++H) A (Fc x++F) (Oc x++O) w) :=
 gW (mY hp ha) λ w hw=>(hc w hw).mono λ _ _ ⟨x,he,hx,hs⟩=>⟨x,he,hx,hw.call hs⟩
theorem si{i:Nat}{o o':Obj}(ha:At H i b o)(hn:(H.map Prod.fst).Nodup):∀p∈setAt H i o',p∈[(b,o')]∨(p∈H/\p.1∉[b]):=λ p hp=>by
 rcases Cw (o':=o') ha hn p hp with rfl|⟨h1,h2⟩;·exact .inl (List.mem_singleton.2 rfl)
 ·exact .inr ⟨h1,by simpa using h2⟩
theorem sd{i:Nat}{o':Obj}:Ks (setAt H i o') O=Ks H O:=by unfold Ks;rw[Ag]
theorem SF.aC0(h:SF w0 M H A F O w){i:Nat}{o o':Obj}(ha:At H i b o){Hc:List (Nat×Obj)}{Fc:Fr}{Oc:List Ow}(hc:SF w [b] ((b,o')::Hc) [] Fc Oc w'):SF w0 M (Hc++setAt H i o') A (Fc++F) (Oc++O) w':=by have hb:b∈H.map Prod.fst:=List.mem_map.2 ⟨_,ha.mem,rfl⟩;refine h.j3 (D:=[b]) (Hm:=[(b,o')]) (Om:=[]) (H1:=setAt H i o') (O1:=O) (by simpa using hc) (λ c hd=>by simp only[List.mem_singleton] at hd;subst hd;exact List.mem_append_left _ hb) (si ha h.st.nodup) (λ o ho=>.inr ⟨ho,λ c hco hd=>?_⟩) (by rw[sd];exact h.dis);simp only[List.mem_singleton] at hd;subst hd;exact h.aB7 ho hco hb
theorem aED{i:Nat}{o:Obj}{o':X->Obj}(hp:plain P f=true)(ha:qR S xs=vs)(hb:At H i b o)(hc:∀w,SF w0 M H A F O w->Calls P f ⟨vs⟩ w λ e w'=>∃x,e=.returned (V x)/\φ x/\SF w [b] ((b,o' x)::Hc x) [] (Fc x) (Oc x) w') :
  bG P S (SF w0 M H A F O) ⟨dst,.call {callee:=.value (.func f),args:=⟨xs⟩,argTypes:=at_},ty,pos,af,gd⟩ X V (λ x w=>φ x/\SF w0 M (Hc x++setAt H i (o' x)) A (Fc x++F) (Oc x++O) w) :=
 gW (mY hp ha) λ w hw=>(hc w hw).mono λ _ _ ⟨x,he,hx,hs⟩=>⟨x,he,hx,hw.aC0 hb hs⟩
theorem SF.aB2(h:St w [] [] w'):SF w [] [] [] [] [] w':=⟨h,λ _ h=>(List.not_mem_nil h).elim,λ _ h=>(List.not_mem_nil h).elim,λ _ h=>(List.not_mem_nil h).elim,List.nodup_nil⟩
theorem aEG{v:Value}(hp:plain P f=true)(ha:qR S xs=vs)(hc:∀w,SF w0 M H A F O w->Calls P f ⟨vs⟩ w λ e w'=>e=.returned v/\St w [] [] w') :
  bG P S (SF w0 M H A F O) ⟨dst,.call {callee:=.value (.func f),args:=⟨xs⟩,argTypes:=at_},ty,pos,af,gd⟩ Unit (λ _=>v) (λ _=>SF w0 M H A F O) :=
 gW (mY hp ha) λ w hw=>(hc w hw).mono λ _ _ ⟨he,hs⟩=>⟨(),he,by simpa using hw.call (SF.aB2 hs)⟩
theorem aEH(hp:plain P f=true)(ha:qR S xs=vs)(hc:∀w,SF w0 M H A F O w->Calls P f ⟨vs⟩ w λ e w'=>∃x,e=.returned (V x)/\φ x/\St w [] [] w') :
  bG P S (SF w0 M H A F O) ⟨dst,.call {callee:=.value (.func f),args:=⟨xs⟩,argTypes:=at_},ty,pos,af,gd⟩ X V (λ x w=>φ x/\SF w0 M H A F O w) :=
 gW (mY hp ha) λ w hw=>(hc w hw).mono λ _ _ ⟨x,he,hx,hs⟩=>⟨x,he,hx,by simpa using hw.call (SF.aB2 hs)⟩
theorem Y0{R:Ending->World->Prop}{vs:List Value}(hr:fn.results=⟨rs⟩)(hv:kH P S H rs vs)(h:∀w,SF w0 M H A F O w->R (.returned (sE vs)) w) :
  JK P n (bodyPost P fn R) (.code .ret::ks) S (SF w0 M H A F O) :=
 aDC λ hS w hw=>⟨rfl,_,Oa hS hw.st hr hv,h w hw⟩
theorem aS{R:Ending->World->Prop}{vs:List Value}(hr:fn.results=⟨rs⟩)(h:∀w,SF w0 M H A F O w->R (.returned (sE vs)) w)(hv:kH P S H rs vs:=by exact(.tmp (by conv=>{lhs;whnf}) .nil)) :
  JK P n (bodyPost P fn R) (.code .ret::ks) S (SF w0 M H A F O):=Y0 hr hv h
theorem xm{R:Ending->World->Prop}{vs:List Value}(hr:fn.results=⟨rs⟩)(hv:kH P S H rs vs)(h:∀w,SF w0 M H A F O w->R (.returned (sE vs)) w) :
  JK P n (bodyPost P fn R) [] S (SF w0 M H A F O):=⟨λ hS w hw=>⟨rfl,_,Oa hS hw.st hr hv,h w hw⟩⟩
theorem Ye(keys:List Nat)(K:Y->List (Nat×Value))(I:Y->Prop)(Hx:Y->List (Nat×Obj))(Fx:Y->Fr)(Ox:Y->List Ow)(μ:Y->Nat){c:Code}(x0:Y)(hn:(keys.all λ k=>Nat.blt k n)=true)(hKn:∀x,((K x).all λ p=>Nat.blt p.1 n)=true)(hK0:nE (K x0) S)(hG0:I x0)(hw0:∀w,SF w0 M H A F O w->SF w0 M (Hx x0) A (Fx x0) (Ox x0) w)(round:∀x f,I x->JK P n Q (.code c::.inv (lT n keys K (λ x w=>I x/\SF w0 M (Hx x) A (Fx x) (Ox x) w) μ S (μ x))::ks) (K x++(gY keys f++S)) (SF w0 M (Hx x) A (Fx x) (Ox x))) :
  JK P n Q (.code (.loop c)::ks) S (SF w0 M H A F O):=aBK keys K (λ x w=>I x/\SF w0 M (Hx x) A (Fx x) (Ox x) w) μ x0 hn hKn hK0 (λ w hw=>⟨hG0,hw0 w hw⟩) λ x f=>Ui λ h=>round x f h
theorem lR{keys:List Nat}{K:Y->List (Nat×Value)}{I:Y->Prop}{Hx:Y->List (Nat×Obj)}{Fx:Y->Fr}{Ox:Y->List Ow}{μ:Y->Nat}{S0:List (Nat×Value)}{m:Nat}(x':Y)(hμ:μ x'<m)(hK:nE (K x') S)(hp:zX keys S S0)(hI:I x')(hw1:∀w,G w->SF w0 M (Hx x') A (Fx x') (Ox x') w) :
  JK P n Q (.inv (lT n keys K (λ x w=>I x/\SF w0 M (Hx x) A (Fx x) (Ox x) w) μ S0 m)::ks) S G:=vz x' hμ hK hp λ w hw=>⟨hI,hw1 w hw⟩
variable{a:Option Addr}{x y:Operand}{t e:TypeId}
variable{lst:List Pr}{m k q:Nat}
theorem dR{lst:List Int}{c:Nat}{kk:IntKind}(hx:ev S x=.slice a m c)(hy:ev S y=.int kk ((k:Nat):Int))(ht:P.underlying t=some (.slice e))(hs:one P e=true)(hf:sD A F O a (aH lst))(h1:k<m)(h2:k<lst.length) :
  aM P S (SF w0 M H A F O) ⟨some d,.indexAddr t x y,ty,pos,af,gd⟩ (.pointer (some ⟨dG a,eO a+k,none⟩)):=⟨λ w hw =>
 (A8 (G:=SF w0 M H A F O) hx hy ht hs ((hw.cl hf).aEk (by omega)) h1).run w hw⟩
theorem H9{c:Nat}{kk:IntKind}(hx:ev S x=.slice a m c)(hy:ev S y=.int kk ((k:Nat):Int))(ht:P.underlying t=some (.slice e))(hs:kC P e 2=true)(hf:sD A F O a (dF lst))(h1:k<m)(h2:k<lst.length) :
  aM P S (SF w0 M H A F O) ⟨some d,.indexAddr t x y,ty,pos,af,gd⟩ (.pointer (some ⟨dG a,eO a+2*k,none⟩)):=⟨λ w hw =>
 (Sv (G:=SF w0 M H A F O) hx hy ht hs ((hw.cl hf).aEE (by omega)) h1).run w hw⟩
theorem fI{lst:List Int}(hx:ev S x=.pointer (some ⟨dG a,eO a+q,none⟩))(ht:one P t=true)(hf:sD A F O a (aH lst))(hq:q<lst.length) :
  aM P S (SF w0 M H A F O) ⟨some d,.load t x,ty,pos,af,gd⟩ (.int .i64 (lst.getD q 0)):=qF hx ht (λ w hw=>hw.cl hf) (P9 hq)
theorem ln(hx:ev S x=.pointer (some ⟨dG a,eO a+2*q,none⟩))(ht:one P t=true)(hf:sD A F O a (dF lst))(hq:q<lst.length) :
  aM P S (SF w0 M H A F O) ⟨some d,.load t x,ty,pos,af,gd⟩ (.string (lst.getD q (⟨#[]⟩,0)).1):=qF hx ht (λ w hw=>hw.cl hf) (Cv hq).1
theorem R8(hx:ev S x=.pointer (some ⟨dG a,eO a+(2*q+1),none⟩))(ht:one P t=true)(hf:sD A F O a (dF lst))(hq:q<lst.length) :
  aM P S (SF w0 M H A F O) ⟨some d,.load t x,ty,pos,af,gd⟩ (.int .u64 (lst.getD q (⟨#[]⟩,0)).2):=qF hx ht (λ w hw=>hw.cl hf) (Cv hq).2
theorem tu(hx:ev S x=.pointer (some ⟨dG a,eO a+2*q,none⟩))(ht:kC P t 2=true)(hf:sD A F O a (dF lst))(hq:q<lst.length) :
  aM P S (SF w0 M H A F O) ⟨some d,.load t x,ty,pos,af,gd⟩ (.agg ⟨[.string (lst.getD q (⟨#[]⟩,0)).1,.int .u64 (lst.getD q (⟨#[]⟩,0)).2]⟩):=⟨λ w hw =>
 (bh (w0:=w) (M:=[]) (H:=[]) hx ht (hw.cl hf) (Cv hq).1 (Cv hq).2 (by simp)).run w (St.refl w)⟩
end
end
section
section
variable{P:Program}{n:Nat}{S:List (Nat×Value)}
variable{w0 w w':World}{M:List Nat}{H H':List (Nat×Obj)}{A F F':Fr}{O O':List Ow}{G:World->Prop}
variable{d:Nat}{ty:TypeId}{pos:String}{af:Array Edge}{gd:Option (Nat×Bool)}{dst:Option Nat}{x y z:Operand}{t t2 e:TypeId}
theorem dm.mono{D D':List Nat}(h:dm w w' D)(hs:∀b∈D,b∈D'):dm w w' D':=⟨h.os,h.tape,h.output,h.size,λ b hb hn=>h.lC b hb λ hm=>hn (hs b hm)⟩
theorem Dm(w:World)(o:Obj):dm w (w.alloc o) []:=⟨rfl,rfl,rfl,by simp,λ b hb _=>heap_alloc_old w o hb⟩
theorem Kr(w:World)(o:Obj):dm w (w.drew.alloc o) []:=⟨rfl,rfl,rfl,by simp,λ b hb _=>heap_alloc_old w.drew o hb⟩
theorem I4(w:World)(b:Nat)(r:Array Value):dm w (w.setRow b r) [b]:=⟨rfl,rfl,rfl,by simp,λ k _ hk=>setRow_other w b k r (by simpa using hk)⟩
theorem Hp(zc:List Value)(m k:Nat)(h:m<=k):∃rest,made zc k=made zc m++rest:=by
 refine⟨(made zc k).drop (m*zc.length),?_⟩;have h1:m*zc.length<=k*zc.length:=Nat.mul_le_mul_right _ h;have e:made zc m=(made zc k).take (m*zc.length):=by
  refine List.ext_getElem? λ i=>?_;rw[List.getElem?_take];by_cases hi:i<m*zc.length
  ·rw[if_pos hi];have h2:i<k*zc.length:=by omega
   simp[made,madeCells,Array.getElem?_toList,Array.getElem?_map,Array.getElem?_range,hi,h2]
  ·rw[if_neg hi,List.getElem?_eq_none (by rw[kK];omega)]
 rw[e,List.take_append_drop]
theorem cg(k:Nat):made [.int .i64 0] k=aH (List.replicate k 0):=by
 refine List.ext_getElem? λ i=>?_;by_cases hi:i<k;·simp[made,madeCells,aH,Array.getElem?_toList,Array.getElem?_map,Array.getElem?_range,hi,Nat.mod_one]
 ·rw[List.getElem?_eq_none (by rw[kK];simp;omega),List.getElem?_eq_none (by simp[aH];omega)]
theorem gp(k:Nat):made [.string ⟨#[]⟩,.int .u64 0] k=dF (List.replicate k (⟨#[]⟩,0)):=by
 refine List.ext_getElem? λ i=>?_;by_cases hi:i<k*2
 ·have hk:i/2<k:=by omega
  have e1:=Cv (l:=List.replicate k ((⟨#[]⟩:ByteArray),(0:Int))) (k:=i/2) (by simpa using hk);have hg:(List.replicate k ((⟨#[]⟩:ByteArray),(0:Int))).getD (i/2) (⟨#[]⟩,0)=(⟨#[]⟩,0):=by simp[List.getD,hk]
  rw[hg] at e1;have hm:(made [.string ⟨#[]⟩,.int .u64 0] k)[i]?=some (([.string ⟨#[]⟩,.int .u64 0]:List Value).getD (i%2) undef):=by rcases Nat.mod_two_eq_zero_or_one i with h2|h2<;>simp[made,madeCells,Array.getElem?_toList,Array.getElem?_map,Array.getElem?_range,hi,h2]
  rw[hm];rcases Nat.mod_two_eq_zero_or_one i with h2|h2;·rw[h2,show i=2*(i/2) by omega,e1.1];rfl
  ·rw[h2,show i=2*(i/2)+1 by omega,e1.2];rfl
 ·rw[List.getElem?_eq_none (by rw[kK];simp;omega),List.getElem?_eq_none (by rw[iC];simp;omega)]
theorem Xh{m k:Nat}{k1 k2:IntKind}{zc cs:List Value}(hx:ev S x=.int k1 ((m:Nat):Int))(hy:ev S y=.int k2 ((k:Nat):Int))(he:dX P t e zc)(hmk:m<=k)(hk:k<=1099511627776)(hcs:made zc m=cs) :
  bG P S (SF w0 M H A F O) ⟨some d,.makeSlice t x y,ty,pos,af,gd⟩ Nat (λ b=>.slice (some ⟨b,0,none⟩) m k) (λ b=>SF w0 M H A F (⟨some ⟨b,0,none⟩,cs,k,e,zc.length⟩::O)) :=
 lY λ w hw=>by
  subst hcs;obtain⟨i,z,hi,hz,hzc,hs,hb⟩:=he.z;have hbb:(i.bytes:Int)*(k:Int)<=281474976710656:=by
   have:i.bytes*k<=256*1099511627776:=Nat.mul_le_mul hb hk;have h2:((i.bytes*k:Nat):Int)<=281474976710656:=by omega
   rwa [Int.natCast_mul] at h2
  have hr:=run_make (P:=P) w t e i z he.sl hi hz k1 k2 (m:Int) (k:Int) (by omega) (by omega) hbb (by omega);obtain⟨rest,hrest⟩:=Hp zc m k hmk;have e1:madeCells z.cells (k*i.size)=⟨made zc k⟩:=by rw[hzc,hs];simp[made]
  refine⟨w.heap.size,w.alloc (.cells ⟨made zc k⟩ e (0,0)),?_,hw.Oe (Dm w _) (.inr ⟨w.heap.size,rest,rfl,by rw[hrest];exact heap_alloc_new w _,by rw[<- hrest,kK]⟩) (by simp[iV]) (mF _)⟩;simp only[execOp,hx,hy,Sem.run_bind,hr,Result.andThen_ok,Sem.run_pure,Int.toNat_natCast,e1]
def yV(P:Program)(e:TypeId)(W:Nat):Bool:=match P.info? e with|some i=>Nat.ble i.bytes W|none=>false
variable{m k b c sz i:Nat}{zc cs:List Value}{T:TypeId}{o:Oper}{p:Option Addr}
theorem Yt{W:Nat}{k1 k2:IntKind}(hx:ev S x=.int k1 ((m:Nat):Int))(hy:ev S y=.int k2 ((k:Nat):Int))(he:dX P t e zc)(hW:yV P e W=true)(hmk:m<=k)(hk:k*W<=281474976710656)(hk2:k<=4611686018427387904)(hcs:made zc m=cs) :
  bG P S (SF w0 M H A F O) ⟨some d,.makeSlice t x y,ty,pos,af,gd⟩ Nat (λ b=>.slice (some ⟨b,0,none⟩) m k) (λ b=>SF w0 M H A F (⟨some ⟨b,0,none⟩,cs,k,e,zc.length⟩::O)) :=
 lY λ w hw=>by
  subst hcs;obtain⟨i,z,hi,hz,hzc,hs,_⟩:=he.z;have hb:i.bytes<=W:=by simpa[yV,hi] using hW
  have hbb:(i.bytes:Int)*(k:Int)<=281474976710656:=by
   have:i.bytes*k<=W*k:=Nat.mul_le_mul_right _ hb;have h2:((i.bytes*k:Nat):Int)<=281474976710656:=by rw[Nat.mul_comm W k] at this;omega
   rwa [Int.natCast_mul] at h2
  have hr:=run_make (P:=P) w t e i z he.sl hi hz k1 k2 (m:Int) (k:Int) (by omega) (by omega) hbb (by omega);obtain⟨rest,hrest⟩:=Hp zc m k hmk;have e1:madeCells z.cells (k*i.size)=⟨made zc k⟩:=by rw[hzc,hs];simp[made]
  refine⟨w.heap.size,w.alloc (.cells ⟨made zc k⟩ e (0,0)),?_,hw.Oe (Dm w _) (.inr ⟨w.heap.size,rest,rfl,by rw[hrest];exact heap_alloc_new w _,by rw[<- hrest,kK]⟩) (by simp[iV]) (mF _)⟩;simp only[execOp,hx,hy,Sem.run_bind,hr,Result.andThen_ok,Sem.run_pure,Int.toNat_natCast,e1]
theorem qp{k1 k2:IntKind}(hx:ev S x=.int k1 ((m:Nat):Int))(hy:ev S y=.int k2 ((k:Nat):Int))(he:dX P t e [.int .i64 0])(hW:yV P e 8=true)(hmk:m<=k)(hk:k<=35184372088832) :
  bG P S (SF w0 M H A F O) ⟨some d,.makeSlice t x y,ty,pos,af,gd⟩ Nat (λ b=>.slice (some ⟨b,0,none⟩) m k) (λ b=>SF w0 M H A F (⟨some ⟨b,0,none⟩,aH (List.replicate m 0),k,e,1⟩::O)) :=
 Yt hx hy he hW hmk (by omega) (by omega) (cg m)
theorem o0{k1 k2:IntKind}(hx:ev S x=.int k1 ((m:Nat):Int))(hy:ev S y=.int k2 ((k:Nat):Int))(he:dX P t e [.string ⟨#[]⟩,.int .u64 0])(hW:yV P e 24=true)(hmk:m<=k)(hk:k<=11728124029610) :
  bG P S (SF w0 M H A F O) ⟨some d,.makeSlice t x y,ty,pos,af,gd⟩ Nat (λ b=>.slice (some ⟨b,0,none⟩) m k) (λ b=>SF w0 M H A F (⟨some ⟨b,0,none⟩,dF (List.replicate m (⟨#[]⟩,0)),k,e,2⟩::O)) :=
 Yt hx hy he hW hmk (by omega) (by omega) (gp m)
theorem SF.aEI(h:SF w0 M H A F O w){fr:Nat×Nat}(h2:St w (H.map Prod.fst) ((b,.cells ⟨cs⟩ T fr)::H) w'):SF w0 M H A ((some ⟨b,0,none⟩,cs)::F) O w':=by
 have h3:=h.step (h2.sub (List.sublist_cons_self _ _));have hnd:=h2.nodup;simp only[List.map_cons,List.nodup_cons] at hnd;have hb:w.heap.size<=b:=(h2.new _ (List.mem_cons_self ..)).resolve_left hnd.1;refine⟨h3.st,h3.bS,λ f hf=>?_,h3.own,h3.dis⟩;rcases List.mem_cons.1 hf with rfl|hf
 ·refine⟨Cl.block (pre:=[]) (rest:=[]) (by simpa using h2.has _ (List.mem_cons_self ..)) rfl,λ _=>⟨λ hm=>?_,.inl (Nat.le_trans h.st.size hb)⟩⟩;rcases List.mem_append.1 hm with hm|hm;·exact hnd.1 hm
  ·have:=h.lt b (List.mem_append_right _ hm);omega
 ·exact h3.new f hf
theorem SF.aEu(h:SF w0 M H A F O w)(h2:St w (H.map Prod.fst) ((b,.cells ⟨cs⟩ T (0,0))::H) w')(hc:cs.length=c*sz):SF w0 M H A F (⟨some ⟨b,0,none⟩,cs,c,T,sz⟩::O) w':=by
 have h3:=h.step (h2.sub (List.sublist_cons_self _ _));have hnd:=h2.nodup;simp only[List.map_cons,List.nodup_cons] at hnd;have hb:w.heap.size<=b:=(h2.new _ (List.mem_cons_self ..)).resolve_left hnd.1;have hbO:b∉Ks H O:=λ hm=>by have:=h.lt b hm;omega
 refine⟨h3.st,λ f hf=>⟨(h3.bS f hf).1,λ hcs hm=>?_⟩,λ f hf=>⟨(h3.new f hf).1,λ hcs=>⟨λ hm=>?_,((h3.new f hf).2 hcs).2⟩⟩,λ o ho=>?_,?_⟩
 ·rcases eJ.1 hm with⟨p,hp,e1⟩|⟨o,ho,e1⟩;·exact(h3.bS f hf).2 hcs (eJ.2 (.inl ⟨p,hp,e1⟩))
  ·rcases List.mem_cons.1 ho with rfl|ho;·simp only[iV,List.mem_singleton] at e1;have:=(h.bS f hf).1.lt hcs;omega
   ·exact(h3.bS f hf).2 hcs (eJ.2 (.inr ⟨o,ho,e1⟩))
 ·rcases eJ.1 hm with⟨p,hp,e1⟩|⟨o,ho,e1⟩;·exact((h3.new f hf).2 hcs).1 (eJ.2 (.inl ⟨p,hp,e1⟩))
  ·rcases List.mem_cons.1 ho with rfl|ho;·simp only[iV,List.mem_singleton] at e1;have:=(h.new f hf).1.lt hcs;omega
   ·exact((h3.new f hf).2 hcs).1 (eJ.2 (.inr ⟨o,ho,e1⟩))
 ·rcases List.mem_cons.1 ho with rfl|ho;·exact⟨.inr ⟨b,[],rfl,by simpa using h2.has _ (List.mem_cons_self ..),by simpa using hc⟩,λ c hc=>.inl (by simp only[iV,List.mem_singleton] at hc;subst hc;exact Nat.le_trans h.st.size hb)⟩
  ·exact h3.own o ho
 ·have hp:(Ks H (⟨some ⟨b,0,none⟩,cs,c,T,sz⟩::O)).Perm (b::Ks H O):=by unfold Ks;rw[List.flatMap_cons];exact List.perm_middle
  rw[hp.nodup_iff,List.nodup_cons];exact⟨hbO,h.dis⟩
theorem Kk{V:Nat->Value}{fr:Nat×Nat}(h:∀w1:World,bG P S (St w1 (H.map Prod.fst) H) o Nat V (λ b=>St w1 (H.map Prod.fst) ((b,.cells ⟨cs⟩ T fr)::H))) :
  bG P S (SF w0 M H A F O) o Nat V (λ b=>SF w0 M H A ((some ⟨b,0,none⟩,cs)::F) O):=⟨λ w hw=>((h w).run w (D0 hw.st)).mono λ _ _ hg=>hw.aEI hg⟩
theorem Ul{V:Nat->Value}(hc:cs.length=c*sz)(h:∀w1:World,bG P S (St w1 (H.map Prod.fst) H) o Nat V (λ b=>St w1 (H.map Prod.fst) ((b,.cells ⟨cs⟩ T (0,0))::H))) :
  bG P S (SF w0 M H A F O) o Nat V (λ b=>SF w0 M H A F (⟨some ⟨b,0,none⟩,cs,c,T,sz⟩::O)):=⟨λ w hw=>((h w).run w (D0 hw.st)).mono λ _ _ hg=>hw.aEu hg hc⟩
theorem Kv(h:yU O i p cs c T sz):lM O i ⟨p,cs,c,T,sz⟩=O:=by
 induction h with
 | head=>rfl
 | tail _ ih=>simp only[lM,ih]
theorem F8{args:List Value}{v:Value}{w w1:World}{at_:Array TypeId}(hx:qR S [x,y]=args)(hr:(Builtin.append_ at_ ty ⟨args⟩).run P w=.ok v w1) :
  (execOp (ev S) ⟨some d,.call {callee:=.builtin .append,args := #[x,y],argTypes:=at_},ty,pos,af,gd⟩).run P w=.ok (.value v) w1:=by subst hx;simp only[execOp,resolve,invoke,builtin,Sem.run_bind,Sem.run_pure,Result.andThen_ok,List.map_toArray,List.map_cons,List.map_nil];simp only[qR] at hr;rw[hr];rfl
theorem gA{a:Option Addr}{ys:List Value}{c2:Nat}(hx:ev S x=.slice p m c)(hy:ev S y=.slice a k c2)(ho:yU O i p cs c e sz)(hm:cs.length=m*sz)(hf:sD A F O a ys)(hk:ys.length=k*sz)(h1:ys.all (·.oneCell')=true)(he:dX P t e zc)(hsz:zc.length=sz)(h0:0<sz)(ht2:P.underlying t2=some (.slice e))(hb:m+k<=549755813888) :
  bG P S (SF w0 M H A F O) ⟨some d,.call {callee:=.builtin .append,args := #[x,y],argTypes := #[t,t2]},ty,pos,af,gd⟩ (Option Addr×Nat) (λ q=>.slice q.1 (m+k) q.2)
   (λ q w=>m+k<=q.2/\SF w0 M H A F (lM O i ⟨q.1,cs++ys,q.2,e,sz⟩) w):=⟨λ w hw=>by
 obtain⟨inf,zz,hi,hz,hzc,hs,hbytes⟩:=he.z;have hev:qR S [x,y]=[.slice p m c,.slice a k c2]:=by simp[qR,hx,hy]
 have hown:=(hw.own _ ho.mem).1;have hcl:=hw.cl hf;have hss:inf.size=sz:=by omega
 have hone:∀u∈ys,u.oneCell'=true:=by simpa using h1
 by_cases hk0:k=0
 ·subst hk0;have hys:ys=[]:=List.eq_nil_of_length_eq_zero (by omega);subst hys;have hsrc:Src P inf.size t2 (.slice a 0 c2) 0 [] w:=by
   cases a with
   | none=>exact Src.ofNil w ht2 c2
   | some a=>exact Src.ofSlice w ht2 a 0 c2 [] (by simp) (by simp) (by simp)
  have hsame:lM O i ⟨p,cs++[],c,e,sz⟩=O:=by rw[List.append_nil];exact Kv ho
  rcases hown with⟨rfl,e2,rfl⟩|⟨b,rest,rfl,h2,h3⟩
  ·simp only at e2;subst e2;have hm0:m=0:=by
    rcases Nat.eq_zero_or_pos m with h|h;·exact h
    ·have:=Nat.mul_pos h h0;simp at hm;omega
   subst hm0;have hr:(Builtin.append_ #[t,t2] ty ⟨[.slice none 0 0,.slice a 0 c2]⟩).run P w=.ok (.slice none 0 0) w:=by
    have hl0:∀a,(loadCells a 0).run P w=.ok #[] w:=λ a=>by simpa using run_loadCells_list (P:=P) w a [] (by simp)
    cases a<;>simp[Builtin.append_,run_underlying he.sl,run_underlying ht2,sizeOf,typeInfo,hi,Builtin.lenOf,Builtin.firstCells,hl0]
   rw[F8 hev hr];exact⟨(none,0),rfl,by simp,by rw[hsame];exact hw⟩
  ·simp only[List.length_append] at h3;have hmc:m<=c:=by
    have:m*sz<=c*sz:=by omega
    exact Nat.le_of_mul_le_mul_right this h0
   have hr:=run_append_room_src (P:=P) w t t2 ty e inf he.sl hi b 0 m c (.slice a 0 c2) 0 [] hsrc (by omega) (by simp) (by simp);rw[F8 hev hr];exact⟨(some ⟨b,0,none⟩,c),rfl,by simpa using hmc,by rw[hsame];exact hw⟩
 ·have hkp:0<k:=Nat.pos_of_ne_zero hk0;have hyl:0<ys.length:=by rw[hk];exact Nat.mul_pos hkp h0
  have hap:=hcl.ptr hyl;have hsrc:Src P inf.size t2 (.slice a k c2) k ys w:=by rw[hap];exact Src.ofSlice w ht2 ⟨dG a,eO a,none⟩ k c2 ys (by rw[hk,hss]) hcl.cells hone
  have grow:∀olds:List Value,(Builtin.firstCells inf.size m (.slice p m c)).run P w.drew=.ok olds.toArray w.drew->olds=cs->c<m+k ->
    xn P (Option Addr×Nat) (λ q=>.slice q.1 (m+k) q.2) (λ q w=>m+k<=q.2/\SF w0 M H A F (lM O i ⟨q.1,cs++ys,q.2,e,sz⟩) w) ((execOp (ev S) ⟨some d,.call {callee:=.builtin .append,args := #[x,y],argTypes := #[t,t2]},ty,pos,af,gd⟩).run P w):=by
   intro olds hold heq hlt
   subst heq
   have hr:=run_append_grow_src (P:=P) w t t2 ty e inf zz he.sl hi hz p m c olds hold (.slice a k c2) k ys hsrc hlt (by omega) (growslice_fits hlt (by
    have:(m+k)*inf.bytes<=549755813888*256:=Nat.mul_le_mul hb hbytes
    omega))
   rw[F8 hev hr]
   have hcap:m+k<=grownCap w (m+k) c e:=grownCap_ge w (m+k) c e
   refine⟨(some ⟨w.heap.size,0,none⟩,grownCap w (m+k) c e),rfl,hcap,hw.M2 ho ((Kr w _).mono (by simp)) (.inr ⟨w.heap.size,(Builtin.zeroCells zz.cells (grownCap w (m+k) c e-(m+k))).toList,rfl,?_,?_⟩) (λ b hb=>.inr ?_) (mF _)⟩
   ·have:=heap_alloc_new w.drew (.cells ((olds++ys).toArray++Builtin.zeroCells zz.cells (grownCap w (m+k) c e-(m+k))) e)
    simp only[] at this ⊢
    rw[show(⟨olds++ys++(Builtin.zeroCells zz.cells (grownCap w (m+k) c e-(m+k))).toList⟩:Array Value)=(olds++ys).toArray++Builtin.zeroCells zz.cells (grownCap w (m+k) c e-(m+k)) from by apply Array.ext';simp]
    exact this
   ·have hzl:(Builtin.zeroCells zz.cells (grownCap w (m+k) c e-(m+k))).size=(grownCap w (m+k) c e-(m+k))*sz:=by
     rw[size_zeroCells,hzc]
     simp[hsz]
    simp only[List.length_append,Array.length_toList,hzl,hm,hk]
    rw[<- Nat.add_mul,<- Nat.add_mul]
    congr 1
    omega
   ·simp only[iV,List.mem_singleton] at hb
    omega
  rcases hown with⟨rfl,e2,rfl⟩|⟨b,rest,rfl,h2,h3⟩
  ·simp only at e2;subst e2;have hm0:m=0:=by
    rcases Nat.eq_zero_or_pos m with h|h;·exact h
    ·have:=Nat.mul_pos h h0;simp at hm;omega
   subst hm0;exact grow [] (by simpa using run_firstCells_none w.drew inf.size 0 0 0) rfl (by omega)
  ·simp only at h2 h3;by_cases hroom:m+k<=c
   ·have hfit:m*inf.size+ys.length<=(⟨cs++rest⟩:Array Value).size:=by show _<=(cs++rest).length;rw[h3,hk,hss,<- Nat.add_mul];exact Nat.mul_le_mul_right _ hroom
    have hr:=run_append_room (P:=P) w t ty e inf he.sl hi b m c ⟨cs++rest⟩ h2 ⟨dG a,eO a,none⟩ k c2 ys (by rw[hk,hss]) hcl.cells hone hroom hfit;have hr':(Builtin.append_ #[t,t2] ty ⟨[.slice (some ⟨b,0,none⟩) m c,.slice a k c2]⟩).run P w=.ok (.slice (some ⟨b,0,none⟩) (m+k) c) (w.setRow b ((cs++rest).take (m*inf.size)++ys++(cs++rest).drop (m*inf.size+ys.length)).toArray):=by
     rw[<- hap] at hr;have e2:∀(tt:TypeId),P.underlying tt=some (.slice e)->(Builtin.append_ #[t,tt] ty ⟨[.slice (some ⟨b,0,none⟩) m c,.slice a k c2]⟩).run P w=(Builtin.append_ #[t,t] ty #[.slice (some ⟨b,0,none⟩) m c,.slice a k c2]).run P w:=λ tt htt=>by simp[Builtin.append_,run_underlying htt,run_underlying he.sl]
     rw[e2 t2 ht2,hr]
    rw[F8 hev hr'];have hlen:m*inf.size=cs.length:=by rw[hm,hss]
    have hrow:(cs++rest).take (m*inf.size)++ys++(cs++rest).drop (m*inf.size+ys.length)=cs++ys++rest.drop ys.length:=by rw[hlen,List.take_left,List.drop_append];simp
    rw[hrow];refine⟨(some ⟨b,0,none⟩,c),rfl,hroom,hw.M2 ho (I4 w b _) (.inr ⟨b,rest.drop ys.length,rfl,setRow_heap w b ⟨cs++rest⟩ _ e (0,0) h2,?_⟩) (λ b hb=>.inl hb) (mF _)⟩;have h4:(cs++rest).length=c*sz:=h3;simp only[List.length_append,List.length_drop] at h4 ⊢;have:ys.length<=rest.length:=by have:(m+k)*sz<=c*sz:=Nat.mul_le_mul_right _ hroom;rw[Nat.add_mul] at this;omega
    omega
   ·refine grow cs ?_ rfl (by omega);have hclp:Cl w.drew (some ⟨b,0,none⟩) cs:=⟨(Cl.block (pre:=[]) (rest:=rest) (w:=w) (by simpa using h2) rfl).at_⟩;exact run_firstCells_some w.drew inf.size m ⟨b,0,none⟩ m c cs (by rw[hm,hss]) hclp.cells⟩
end
end
section
section
variable{P:Program}{n:Nat}{S:List (Nat×Value)}
variable{w0 w w':World}{M:List Nat}{H H':List (Nat×Obj)}{A F F':Fr}{O O':List Ow}{G:World->Prop}
variable{d:Nat}{ty:TypeId}{pos:String}{af:Array Edge}{gd:Option (Nat×Bool)}{dst:Option Nat}{x y z:Operand}{t t2 e:TypeId}{p a:Option Addr}{i m k c c2:Nat}
variable{o:Oper}{X:Type}{l l2:List Int}{v:Int}{w1:World}{b dLen dCap sLen sCap sz q:Nat}{cs:List Value}
theorem tZ(a b:List Int):aH (a++b)=aH a++aH b:=by simp[aH]
theorem bG.conv{V:X->Value}{G1 G2:X->World->Prop}(h:bG P S G o X V G1)(hG:∀x w,G1 x w->G2 x w):bG P S G o X V G2:=⟨λ w hw=>(h.run w hw).mono hG⟩
theorem bG.Ef{V:X->Value}{O' O1:X->List Ow}(h:bG P S G o X V (λ x=>SF w0 M H A F (O' x)))(hO:∀x,O' x=O1 x):bG P S G o X V (λ x=>SF w0 M H A F (O1 x)):=h.conv λ x w h=>by rw[hO x] at h;exact h
theorem bG.eM{V:X->Value}{φ:X->Prop}{O' O1:X->List Ow}(h:bG P S G o X V (λ x w=>φ x/\SF w0 M H A F (O' x) w))(hO:∀x,O' x=O1 x):bG P S G o X V (λ x w=>φ x/\SF w0 M H A F (O1 x) w):=h.conv λ x w h=>by rw[hO x] at h;exact h
theorem Vu(hx:ev S x=.slice p m c)(hy:ev S y=.slice a k c2)(ho:yU O i p (aH l) c e 1)(hm:l.length=m)(hf:sD A F O a (aH l2))(hk:l2.length=k)(he:dX P t e [.int .i64 0])(ht2:P.underlying t2=some (.slice e))(hb:m+k<=549755813888) :
  bG P S (SF w0 M H A F O) ⟨some d,.call {callee:=.builtin .append,args := #[x,y],argTypes := #[t,t2]},ty,pos,af,gd⟩ (Option Addr×Nat) (λ q=>.slice q.1 (m+k) q.2)
   (λ q w=>m+k<=q.2/\SF w0 M H A F (lM O i ⟨q.1,aH (l++l2),q.2,e,1⟩) w):=by rw[tZ];exact gA hx hy ho (by rw[jL];omega) hf (by rw[jL];omega) (wQ l2) he rfl (by decide) ht2 hb
theorem Nk{l l2:List Pr}(hx:ev S x=.slice p m c)(hy:ev S y=.slice a k c2)(ho:yU O i p (dF l) c e 2)(hm:l.length=m)(hf:sD A F O a (dF l2))(hk:l2.length=k)(he:dX P t e [.string ⟨#[]⟩,.int .u64 0])(ht2:P.underlying t2=some (.slice e))(hb:m+k<=549755813888) :
  bG P S (SF w0 M H A F O) ⟨some d,.call {callee:=.builtin .append,args := #[x,y],argTypes := #[t,t2]},ty,pos,af,gd⟩ (Option Addr×Nat) (λ q=>.slice q.1 (m+k) q.2)
   (λ q w=>m+k<=q.2/\SF w0 M H A F (lM O i ⟨q.1,dF (l++l2),q.2,e,2⟩) w):=by rw[oF];exact gA hx hy ho (by rw[iC];omega) hf (by rw[iC];omega) (uT l2) he rfl (by decide) ht2 hb
theorem uM(hx:ev S x=.slice p m c)(hy:ev S y=.slice a 1 c2)(ho:yU O i p (aH l) c e 1)(hm:l.length=m)(hf:sD A F O a [.int .i64 v])(he:dX P t e [.int .i64 0])(ht2:P.underlying t2=some (.slice e))(hb:m+1<=549755813888) :
  bG P S (SF w0 M H A F O) ⟨some d,.call {callee:=.builtin .append,args := #[x,y],argTypes := #[t,t2]},ty,pos,af,gd⟩ (Option Addr×Nat) (λ q=>.slice q.1 (m+1) q.2)
   (λ q w=>m+1<=q.2/\SF w0 M H A F (lM O i ⟨q.1,aH (l++[v]),q.2,e,1⟩) w):=Vu (l2:=[v]) hx hy ho hm hf rfl he ht2 hb
theorem O9{l:List Pr}{s:ByteArray}(hx:ev S x=.slice p m c)(hy:ev S y=.slice a 1 c2)(ho:yU O i p (dF l) c e 2)(hm:l.length=m)(hf:sD A F O a [.string s,.int .u64 v])(he:dX P t e [.string ⟨#[]⟩,.int .u64 0])(ht2:P.underlying t2=some (.slice e))(hb:m+1<=549755813888) :
  bG P S (SF w0 M H A F O) ⟨some d,.call {callee:=.builtin .append,args := #[x,y],argTypes := #[t,t2]},ty,pos,af,gd⟩ (Option Addr×Nat) (λ q=>.slice q.1 (m+1) q.2)
   (λ q w=>m+1<=q.2/\SF w0 M H A F (lM O i ⟨q.1,dF (l++[(s,v)]),q.2,e,2⟩) w):=Nk (l2:=[(s,v)]) hx hy ho hm hf rfl he ht2 hb
theorem Rq{zc:List Value}(he:dX P t e zc):bG P S (SF w0 M H A F O) ⟨some d,.buildSlice t 0 #[],ty,pos,af,gd⟩ Nat (λ b=>.slice (some ⟨b,0,none⟩) 0 0) (λ b=>SF w0 M H A F (⟨some ⟨b,0,none⟩,[],0,e,zc.length⟩::O)) :=
 lY λ w hw=>by obtain⟨i,z,hi,hz,hzc,hs,hb⟩:=he.z;refine⟨w.heap.size,w.alloc (.cells ⟨[]⟩ e (0,0)),?_,hw.Oe (Dm w _) (.inr ⟨w.heap.size,[],rfl,heap_alloc_new w _,by simp⟩) (by simp[iV]) (mF _)⟩;simp[execOp,Instr.buildSlice,run_underlying he.sl,sizeOf,typeInfo,hi,Instr.fill,newRow];rw[show Array.range 0 = #[] from Array.eq_empty_of_size_eq_zero (by simp),Array.map_empty]
theorem C7(he:dX P t e [.int .i64 0]):bG P S (SF w0 M H A F O) ⟨some d,.buildSlice t 0 #[],ty,pos,af,gd⟩ Nat (λ b=>.slice (some ⟨b,0,none⟩) 0 0) (λ b=>SF w0 M H A F (⟨some ⟨b,0,none⟩,aH [],0,e,1⟩::O)):=Rq he
theorem Cz(he:dX P t e [.string ⟨#[]⟩,.int .u64 0]):bG P S (SF w0 M H A F O) ⟨some d,.buildSlice t 0 #[],ty,pos,af,gd⟩ Nat (λ b=>.slice (some ⟨b,0,none⟩) 0 0) (λ b=>SF w0 M H A F (⟨some ⟨b,0,none⟩,dF [],0,e,2⟩::O)):=Rq he
theorem ld{args:List Value}{v:Value}{w:World}{at_:Array TypeId}(hx:qR S [x,y]=args)(hr:(Builtin.copy_ at_ ty ⟨args⟩).run P w=.ok v w1) :
  (execOp (ev S) ⟨dst,.call {callee:=.builtin .copy,args := #[x,y],argTypes:=at_},ty,pos,af,gd⟩).run P w=.ok (.value v) w1:=by subst hx;simp only[execOp,resolve,invoke,builtin,Sem.run_bind,Sem.run_pure,Result.andThen_ok,List.map_toArray,List.map_cons,List.map_nil];simp only[qR] at hr;rw[hr];rfl
theorem Xo{o:Nat}{ys:List Value}(hx:ev S x=.slice (some ⟨b,o,none⟩) dLen dCap)(hy:ev S y=.slice a sLen sCap)(ho:yU O i (some ⟨b,0,none⟩) cs c e sz)(hf:sD A F [] a ys)(hlen:min sLen dLen*sz<=ys.length)(hfit:o+min sLen dLen*sz<=cs.length)(h1:ys.all (·.oneCell')=true)(ht:P.underlying t=some (.slice e))(hs:(P.info? e).map (·.size)=some sz)(h0:0<sz) :
  bG P S (SF w0 M H A F O) ⟨some d,.call {callee:=.builtin .copy,args := #[x,y],argTypes := #[t,t2]},ty,pos,af,gd⟩ Unit (λ _=>.int .i64 (min sLen dLen:Nat))
   (λ _=>SF w0 M H A F (lM O i ⟨some ⟨b,0,none⟩,cs.take o++ys.take (min sLen dLen*sz)++cs.drop (o+min sLen dLen*sz),c,e,sz⟩)) :=
 lY λ w hw=>by
  have hev:qR S [x,y]=[.slice (some ⟨b,o,none⟩) dLen dCap,.slice a sLen sCap]:=by simp[qR,hx,hy]
  have hfl:sD A F O a ys:=by
   cases hf with
   | bS h=>exact .bS h
   | new h=>exact .new h
   | own h=>cases h
   | hdr h _=>cases h
  have hcl:=hw.cl hfl;have hone:∀u∈ys,u.oneCell'=true:=by simpa using h1
  obtain h2:=(hw.own _ ho.mem).1;rcases h2 with⟨h2,_⟩|⟨b',rest,hb',h2,h3⟩;·simp at h2
  ·simp only[Option.some.injEq,Addr.mk.injEq,and_true] at hb';subst hb';simp only at h2 h3;have hfin:∀cs',cs'++rest=cs'++rest->cs'.length=cs.length->SF w0 M H A F (lM O i ⟨some ⟨b,0,none⟩,cs',c,e,sz⟩) (w.setRow b ⟨cs'++rest⟩):=λ cs' _ hl =>hw.M2 ho (I4 w b _) (.inr ⟨b,rest,rfl,setRow_heap w b ⟨cs++rest⟩ _ e (0,0) h2,by rw[List.length_append,hl,<- List.length_append];exact h3⟩) (λ b hb=>.inl hb) (mF _)
   by_cases hz:min sLen dLen=0
   ·have hrow:cs.take o++ys.take (min sLen dLen*sz)++cs.drop (o+min sLen dLen*sz)=cs:=by rw[hz];simp
    have hr:(Builtin.copy_ #[t,t2] ty ⟨[.slice (some ⟨b,o,none⟩) dLen dCap,.slice a sLen sCap]⟩).run P w=.ok (goInt (Nat.min sLen dLen)) w:=by
     have hl0:∀a,(loadCells a 0).run P w=.ok #[] w:=λ a=>by simpa using run_loadCells_list (P:=P) w a [] (by simp)
     cases hq:P.info? e with
     | none=>simp[hq] at hs
     | some inf=>
      clear hrow hfin hfit hlen hev hx hy ho hw h3;have e0:Nat.min sLen dLen=0:=hz;have hfc:(Builtin.firstCells inf.size 0 (.slice a sLen sCap)).run P w=.ok #[] w:=by
       cases a with
       | none=>simp[Builtin.firstCells]
       | some a=>simp[Builtin.firstCells,hl0]
      simp only[Builtin.copy_,List.getElem?_toArray,List.getElem?_cons_zero,List.getElem?_cons_succ,Sem.run_bind,run_underlying ht,Result.andThen_ok,Builtin.lenOf,Sem.run_pure,e0,sizeOf,typeInfo,hq,hfc,storeCells];simp[hq,hfc,storeCells,e0]
    refine⟨(),w,ld hev hr,?_⟩;rw[hrow,Kv ho];exact hw
   ·have hyl:0<ys.length:=by have:=Nat.mul_pos (Nat.pos_of_ne_zero hz) h0;omega
    have hap:=hcl.ptr hyl;have hzl:(ys.take (min sLen dLen*sz)).length=min sLen dLen*sz:=by rw[List.length_take];omega
    have hr:=Of (P:=P) w t t2 ty e b o dLen dCap ⟨dG a,eO a,none⟩ sLen sCap ⟨cs++rest⟩ e (ys.take (min sLen dLen*sz)) sz ht hs h2 hzl
     (λ j v hj=>hcl.cells j v (by rw[List.getElem?_take] at hj;split at hj;exact hj;cases hj)) (by simp only[hzl];simp;omega) (λ v hv=>hone v (List.mem_of_mem_take hv))
    rw[<- hap] at hr;have hrow:(cs++rest).take o++ys.take (min sLen dLen*sz)++(cs++rest).drop (o+(ys.take (min sLen dLen*sz)).length)=(cs.take o++ys.take (min sLen dLen*sz)++cs.drop (o+min sLen dLen*sz))++rest:=by rw[hzl,List.take_append_of_le_length (by omega),List.drop_append_of_le_length (by omega)];simp
    refine⟨(),w.setRow b ⟨(cs.take o++ys.take (min sLen dLen*sz)++cs.drop (o+min sLen dLen*sz))++rest⟩,ld hev ?_,hfin _ rfl ?_⟩;·rw[hr,<- hrow];rfl
    ·simp only[List.length_append,hzl,List.length_take,List.length_drop];omega
theorem Iu(l:List Pr)(k:Nat):(dF l).take (2*k)=dF (l.take k):=by
 conv=>lhs;rw[<- List.take_append_drop k l,oF]
 by_cases h:k<=l.length;·rw[List.take_append_of_le_length (by rw[iC,List.length_take];omega),List.take_of_length_le (by rw[iC,List.length_take];omega)]
 ·rw[List.drop_eq_nil_of_le (by omega)];simp only[dF,List.append_nil];rw[List.take_of_length_le (by rw[iC,List.length_take];omega)]
theorem Ql(l:List Pr)(k:Nat):(dF l).drop (2*k)=dF (l.drop k):=by
 have h:=List.take_append_drop (2*k) (dF l);rw[Iu] at h;have h2:dF l=dF (l.take k)++dF (l.drop k):=by rw[<- oF,List.take_append_drop]
 rw[h2] at h;exact List.append_cancel_left (by rw[<- h2] at h;exact h.trans h2)
theorem Hs(l:List Int)(k:Nat):(aH l).take k=aH (l.take k):=by simp[aH]
theorem Uk(l:List Int)(k:Nat):(aH l).drop k=aH (l.drop k):=by simp[aH]
theorem Y3(hx:ev S x=.slice (some ⟨b,q,none⟩) dLen dCap)(hy:ev S y=.slice a sLen sCap)(ho:yU O i (some ⟨b,0,none⟩) (aH l) c e 1)(hf:sD A F [] a (aH l2))(hlen:min sLen dLen<=l2.length)(hfit:q+min sLen dLen<=l.length)(ht:P.underlying t=some (.slice e))(hs:(P.info? e).map (·.size)=some 1) :
  bG P S (SF w0 M H A F O) ⟨some d,.call {callee:=.builtin .copy,args := #[x,y],argTypes := #[t,t2]},ty,pos,af,gd⟩ Unit (λ _=>.int .i64 (min sLen dLen:Nat))
   (λ _=>SF w0 M H A F (lM O i ⟨some ⟨b,0,none⟩,aH (l.take q++l2.take (min sLen dLen)++l.drop (q+min sLen dLen)),c,e,1⟩)):=by have:=Xo (P:=P) (w0:=w0) (M:=M) (H:=H) (d:=d) (ty:=ty) (pos:=pos) (af:=af) (gd:=gd) (t2:=t2) hx hy ho hf (by rw[jL];omega) (by rw[jL];omega) (wQ l2) ht hs (by decide);rw[Nat.mul_one,Hs,Hs,Uk,<- tZ,<- tZ] at this;exact this
theorem Xv{o:Nat}{l l2:List Pr}(hx:ev S x=.slice (some ⟨b,o,none⟩) dLen dCap)(hy:ev S y=.slice a sLen sCap)(ho:yU O i (some ⟨b,0,none⟩) (dF l) c e 2)(hf:sD A F [] a (dF l2))(hq:o=2*q)(hlen:min sLen dLen<=l2.length)(hfit:q+min sLen dLen<=l.length)(ht:P.underlying t=some (.slice e))(hs:(P.info? e).map (·.size)=some 2) :
  bG P S (SF w0 M H A F O) ⟨some d,.call {callee:=.builtin .copy,args := #[x,y],argTypes := #[t,t2]},ty,pos,af,gd⟩ Unit (λ _=>.int .i64 (min sLen dLen:Nat))
   (λ _=>SF w0 M H A F (lM O i ⟨some ⟨b,0,none⟩,dF (l.take q++l2.take (min sLen dLen)++l.drop (q+min sLen dLen)),c,e,2⟩)):=by subst hq;have:=Xo (P:=P) (w0:=w0) (M:=M) (H:=H) (d:=d) (ty:=ty) (pos:=pos) (af:=af) (gd:=gd) (t2:=t2) hx hy ho hf (by rw[iC];omega) (by rw[iC];omega) (uT l2) ht hs (by decide);rw[show 2*q+min sLen dLen*2=2*(q+min sLen dLen) by omega,Nat.mul_comm (min sLen dLen) 2,Iu,Iu,Ql,<- oF,<- oF] at this;exact this
theorem Um{l l2:List Pr}(hx:ev S x=.slice (some ⟨b,0,none⟩) dLen dCap)(hy:ev S y=.slice a dLen sCap)(ho:yU O i (some ⟨b,0,none⟩) (dF l) c e 2)(hf:sD A F [] a (dF l2))(h1:l.length=dLen)(h2:l2.length=dLen)(ht:P.underlying t=some (.slice e))(hs:(P.info? e).map (·.size)=some 2) :
  bG P S (SF w0 M H A F O) ⟨some d,.call {callee:=.builtin .copy,args := #[x,y],argTypes := #[t,t2]},ty,pos,af,gd⟩ Unit (λ _=>.int .i64 (dLen:Nat))
   (λ _=>SF w0 M H A F (lM O i ⟨some ⟨b,0,none⟩,dF l2,c,e,2⟩)):=by have:=Xv (P:=P) (w0:=w0) (M:=M) (H:=H) (d:=d) (ty:=ty) (pos:=pos) (af:=af) (gd:=gd) (t2:=t2) (q:=0) hx hy ho hf rfl (by omega) (by omega) ht hs;rw[Nat.min_self] at this;rw[show l.take 0++l2.take dLen++l.drop (0+dLen)=l2 by rw[List.take_of_length_le (l:=l2) (by omega),List.drop_eq_nil_of_le (by omega)];simp] at this;exact this
theorem U3(hx:ev S x=.slice (some ⟨b,0,none⟩) dLen dCap)(hy:ev S y=.slice a dLen sCap)(ho:yU O i (some ⟨b,0,none⟩) (aH l) c e 1)(hf:sD A F [] a (aH l2))(h1:l.length=dLen)(h2:l2.length=dLen)(ht:P.underlying t=some (.slice e))(hs:(P.info? e).map (·.size)=some 1) :
  bG P S (SF w0 M H A F O) ⟨some d,.call {callee:=.builtin .copy,args := #[x,y],argTypes := #[t,t2]},ty,pos,af,gd⟩ Unit (λ _=>.int .i64 (dLen:Nat))
   (λ _=>SF w0 M H A F (lM O i ⟨some ⟨b,0,none⟩,aH l2,c,e,1⟩)):=by have:=Y3 (P:=P) (w0:=w0) (M:=M) (H:=H) (d:=d) (ty:=ty) (pos:=pos) (af:=af) (gd:=gd) (t2:=t2) (q:=0) hx hy ho hf (by omega) (by omega) ht hs;rw[Nat.min_self] at this;rw[show l.take 0++l2.take dLen++l.drop (0+dLen)=l2 by rw[List.take_of_length_le (l:=l2) (by omega),List.drop_eq_nil_of_le (by omega)];simp] at this;exact this
theorem P2{v:Value}(hx:ev S x=.pointer (some ⟨dG p,eO p+q,none⟩))(hy:ev S y=v)(hv:v.oneCell'=true)(ht:one P t=true)(ho:yU O i p cs c e sz)(hq:q<cs.length) :
  bG P S (SF w0 M H A F O) ⟨none,.store t x y,ty,pos,af,gd⟩ Unit (λ _=>undef) (λ _=>SF w0 M H A F (lM O i ⟨p,cs.set q v,c,e,sz⟩)) :=
 yL λ w hw=>by
  have h2:=(hw.own _ ho.mem).1;rcases h2 with⟨_,h2,_⟩|⟨b,rest,hb,h2,h3⟩;·simp only at h2;subst h2;simp at hq
  ·simp only at hb h2 h3;subst hb;simp only[dG,eO,Nat.zero_add] at hx;have hqr:q<(cs++rest).length:=by rw[List.length_append];omega
   have hc:w.cell? ⟨b,q,none⟩=some (cs++rest)[q]:=by rw[cell_of_row w b q ⟨cs++rest⟩ e (0,0) h2];simp[hqr]
   have hfz:w.frozen? ⟨b,q,none⟩=false:=frozen_of_row w b q ⟨cs++rest⟩ e h2;have hs:(store ⟨b,q,none⟩ v).run P w=.ok () (w.setCell ⟨b,q,none⟩ v):=by rw[run_store P w _ v _ hv,hc];simp[hfz]
   have e1:v.cells = #[v]:=by cases v<;>simp_all[Value.cells,Value.oneCell']
   have hch:dm w (w.setCell ⟨b,q,none⟩ v) (iV (some ⟨b,0,none⟩)):=⟨rfl,rfl,rfl,by simp,λ k _ hk=>heap_setCell_other w ⟨b,q,none⟩ k v (by simpa[iV] using hk)⟩
   refine⟨w.setCell ⟨b,q,none⟩ v,?_,hw.M2 ho hch (o':=⟨some ⟨b,0,none⟩,cs.set q v,c,e,sz⟩) (.inr ⟨b,rest,rfl,?_,by simpa using h3⟩) (λ b hb=>.inl hb) (mF _)⟩;·simp[execOp,hx,hy,Instr.storeAt,Instr.sureAddr,storeVar,e1,Rm ht,storeCells,Addr.add_zero',hs]
   ·have:=heap_setCell_same w b q ⟨cs++rest⟩ e v h2;rw[this];simp[List.set_append_left _ _ hq]
theorem Zd(l:List Int)(k:Nat)(v:Int):(aH l).set k (.int .i64 v)=aH (l.set k v):=by simp[aH]
theorem kz(hx:ev S x=.pointer (some ⟨dG p,eO p+q,none⟩))(hy:ev S y=.int .i64 v)(ht:one P t=true)(ho:yU O i p (aH l) c e 1)(hq:q<l.length) :
  bG P S (SF w0 M H A F O) ⟨none,.store t x y,ty,pos,af,gd⟩ Unit (λ _=>undef) (λ _=>SF w0 M H A F (lM O i ⟨p,aH (l.set q v),c,e,1⟩)):=by rw[<- Zd];exact P2 hx hy rfl ht ho (by rw[jL];exact hq)
theorem ju{v:Value}{w:World}{lo hi:Option Operand}(hr:(Instr.sliceAt t (ev S x) (lo.map (ev S)) (hi.map (ev S)) none).run P w=.ok v w1) :
  (execOp (ev S) ⟨some d,.slice t x lo hi none,ty,pos,af,gd⟩).run P w=.ok (.value v) w1:=by simp only[execOp,Option.map_none,Sem.run_bind,hr,Result.andThen_ok,Sem.run_pure]
theorem Cl.drop{cs:List Value}(h:Cl w a cs)(k:Nat):Cl w (a.map (·.add k)) (cs.drop k):=by refine⟨λ j u hj=>?_⟩;rw[List.getElem?_drop] at hj;obtain⟨h1,h2⟩:=h.at_ _ u hj;rw[h1];simp only[Option.map_some,Addr.add_lit,dG,eO] at h2 ⊢;refine⟨trivial,?_⟩;rw[Nat.add_assoc];exact h2
theorem wj(hx:ev S x=.slice a m c)(hy:ev S y=.int .i64 ((k:Nat):Int))(ht:P.underlying t=some (.slice e))(hs:(P.info? e).map (·.size)=some sz)(hk:k<=m)(hf:sD A F [] a cs)(hmc:m<=c)(hl:cs.length=m*sz) :
  bG P S (SF w0 M H A F O) ⟨some d,.slice t x (some y) none none,ty,pos,af,gd⟩ (Option Addr) (λ p=>.slice p (m-k) (c-k)) (λ p=>SF w0 M H ((p,cs.drop (k*sz))::A) F O) :=
 lY λ w hw=>by
  have he:P.elem t=e:=by simp[Program.elem,ht]
  have ht':P.underlying t=some (.slice (P.elem t)):=by rw[he];exact ht
  cases hi:P.info? e with
  | none=>simp[hi] at hs
  | some inf=>
   have hs':inf.size=sz:=by simpa[hi] using hs
   have hr:=run_slice_l (P:=P) w t a m c ht' .i64 (k:Int) (by omega) (by omega);refine⟨if c=k then a else a.map (·.add (k*sz)),w,ju (v:=.slice (if c=k then a else a.map (·.add (k*sz))) (m-k) (c-k)) ?_,hw.T6 hf (λ hn=>?_) (λ h=>by rw[h];simp) (λ w hc=>?_)⟩;·simp[hx,hy,run_sliceAt_slice w t _ _ _ _ ht',hr,he,sizeOf,typeInfo,hi,hs',sliced]
   ·split;·rfl
    ·cases a with
     | none=>rfl
     | some a=>obtain⟨b,o,s⟩:=a;simp only[Option.map_some,dG,Addr.add];split<;>rfl
   ·split;·rename_i heq;have:cs.drop (k*sz)=[]:=List.drop_eq_nil_of_le (by rw[hl];exact Nat.mul_le_mul_right _ (by omega));rw[this];exact Cl.nil _ _
    ·exact hc.drop _
end
end
end Go.Ct

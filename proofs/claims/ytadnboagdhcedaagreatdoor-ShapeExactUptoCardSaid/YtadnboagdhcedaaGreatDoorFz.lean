/- The engine, part 6: lists. A: lists that came in; F: lists in new memory that nothing in sight changes; O: lists that the call owns and may change and append to. -/
import Derived.Test.YtadnboagdhcedaaGreatDoorGFun
set_option linter.unusedSimpArgs false
set_option linter.unusedVariables false
namespace Go.Ct
open Go Go.RowKit
abbrev Fr:=List (Option Addr×List Value)
structure Ow where
 p:Option Addr
 cs:List Value
 c:Nat
 T:TypeId
 sz:Nat
def iQ:Option Addr->List Nat|some a=>[a.block]|none=>[]
def Ks(H:List (Nat×Obj))(O:List Ow):List Nat:=H.map Prod.fst++O.flatMap λ o=>iQ o.p
inductive nP:Fr->Option Addr->List Value->Prop where
 | head {a:Option Addr} {cs:List Value} {F:Fr}:nP ((a,cs)::F) a cs
 | tail {f:Option Addr×List Value} {F:Fr} {a:Option Addr} {cs:List Value}:nP F a cs->nP (f::F) a cs
theorem nP.mem{F:Fr}{a:Option Addr}{cs:List Value}(h:nP F a cs):(a,cs)∈F:=by
 induction h with
 | head=>exact List.mem_cons_self ..
 | tail _ ih=>exact List.mem_cons_of_mem _ ih
inductive uN:List Ow->Nat->Option Addr->List Value->Nat->TypeId->Nat->Prop where
 | head {p:Option Addr} {cs:List Value} {c:Nat} {T:TypeId} {sz:Nat} {O:List Ow}:uN (⟨p,cs,c,T,sz⟩::O) 0 p cs c T sz
 | tail {o:Ow} {O:List Ow} {i:Nat} {p:Option Addr} {cs:List Value} {c:Nat} {T:TypeId} {sz:Nat}:uN O i p cs c T sz->uN (o::O) (i+1) p cs c T sz
theorem uN.mem{O:List Ow}{i:Nat}{p:Option Addr}{cs:List Value}{c:Nat}{T:TypeId}{sz:Nat}(h:uN O i p cs c T sz):(⟨p,cs,c,T,sz⟩:Ow)∈O:=by
 induction h with
 | head=>exact List.mem_cons_self ..
 | tail _ ih=>exact List.mem_cons_of_mem _ ih
def kP:List Ow->Nat->Ow->List Ow
 | [],_,_=>[]
 | _::r,0,o=>o::r
 | p::r,i+1,o=>p::kP r i o
def rR:List Ow->Nat->List Ow
 | [],_=>[]
 | _::r,0=>r
 | p::r,i+1=>p::rR r i
def Hdr(a p:Option Addr)(cs:List Value)(c:Nat):Prop:=a=p∨(p=none/\cs=[]/\c=0)
inductive pS(A F:Fr)(O:List Ow)(a:Option Addr)(cs:List Value):Prop where
 | bO (h:nP A a cs)
 | new (h:nP F a cs)
 | own {i c:Nat} {T:TypeId} {sz:Nat} (h:uN O i a cs c T sz)
 | hdr {i c:Nat} {T:TypeId} {sz:Nat} {p:Option Addr} (h:uN O i p cs c T sz) (e:Hdr a p cs c)
inductive aP(F:Fr):Fr->Prop where
 | nil:aP F []
 | cons {a:Option Addr} {cs:List Value} {F':Fr} (h:nP F a cs) (hs:aP F F'):aP F ((a,cs)::F')
theorem aP.sub{F F':Fr}(h:aP F F'):∀f∈F',f∈F:=by
 induction h with
 | nil=>intro f hf;exact(List.not_mem_nil hf).elim
 | cons h _ ih =>
  intro f hf
  rcases List.mem_cons.1 hf with rfl|hf
  ·exact h.mem
  ·exact ih f hf
theorem Cl.lt{w:World}{a:Option Addr}{cs:List Value}(h:Cl w a cs)(hc:cs≠[]):cZ a<w.heap.size:=by
 have h0:0<cs.length:=List.length_pos_iff.2 hc
 exact World.block_lt_of_cell? w ⟨cZ a,eG a+0,none⟩ (h.at_ 0 cs[0] (List.getElem?_eq_getElem h0)).2
def Cy(w:World)(o:Ow):Prop :=
 (o.p=none/\o.cs=[]/\o.c=0)∨∃b rest,o.p=some ⟨b,0,none⟩/\w.heap[b]?=some (.cells ⟨o.cs++rest⟩ o.T (0,0))/\(o.cs++rest).length=o.c*o.sz
theorem Cy.cl{w:World}{o:Ow}(h:Cy w o):Cl w o.p o.cs:=by
 rcases h with⟨_,h2,_⟩|⟨b,rest,h1,h2,_⟩
 ·rw[h2];exact Cl.nil _ _
 ·rw[h1];exact Cl.block (pre:=[]) (rest:=rest) (by simpa using h2) rfl
theorem Cy.lt{w:World}{o:Ow}(h:Cy w o):∀b∈iQ o.p,b<w.heap.size:=by
 rcases h with⟨h1,_,_⟩|⟨b,rest,h1,h2,_⟩
 ·rw[h1];simp[iQ]
 ·rw[h1];simp only[iQ,List.mem_singleton,forall_eq];exact jF h2
theorem Cy.kY{w w':World}{o:Ow}(h:Cy w o)(hk:∀b∈iQ o.p,w'.heap[b]?=w.heap[b]?):Cy w' o:=by
 rcases h with h|⟨b,rest,h1,h2,h3⟩
 ·exact .inl h
 ·exact .inr ⟨b,rest,h1,by rw[hk b (by rw[h1];simp[iQ])];exact h2,h3⟩
theorem Cy.Ru{w:World}{o:Ow}(h:Cy w o)(hc:o.cs≠[]):iQ o.p=[cZ o.p]:=by
 rcases h with⟨_,h2,_⟩|⟨b,rest,h1,_,_⟩
 ·exact absurd h2 hc
 ·rw[h1];rfl
structure SF(w0:World)(M:List Nat)(H:List (Nat×Obj))(A F:Fr)(O:List Ow)(w:World):Prop where
 st:St w0 M H w
 bO:∀f∈A,Cl w f.1 f.2/\(f.2≠[]->cZ f.1∉Ks H O)
 new:∀f∈F,Cl w f.1 f.2/\(f.2≠[]->cZ f.1∉Ks H O/\(w0.heap.size<=cZ f.1∨cZ f.1∈M))
 own:∀o∈O,Cy w o/\∀b∈iQ o.p,w0.heap.size<=b∨b∈M
 dis:(Ks H O).Nodup
section
variable{P:Program}{n:Nat}{Q:Exit->Act->World->Prop}{ks:List CK}{S:List (Nat×Value)}{ops:Array Oper}{l:List Oper}
variable{w0 w w':World}{M:List Nat}{H H':List (Nat×Obj)}{A F F':Fr}{O O':List Ow}{G:World->Prop}
theorem D1{α β:Type}{f:α->List β}{l l':List α}(h:l'.Sublist l):(l'.flatMap f).Sublist (l.flatMap f):=by
 induction h with
 | slnil=>exact List.Sublist.refl _
 | cons a _ ih=>rw[List.flatMap_cons];exact ih.trans (List.sublist_append_right _ _)
 | cons_cons a _ ih=>rw[List.flatMap_cons,List.flatMap_cons];exact(List.Sublist.refl _).append ih
theorem eW{b:Nat}:b∈Ks H O↔(∃p∈H,p.1=b)∨∃o∈O,b∈iQ o.p:=by simp[Ks]
theorem SF.lt(h:SF w0 M H A F O w):∀b∈Ks H O,b<w.heap.size:=by
 intro b hb
 rcases eW.1 hb with⟨p,hp,rfl⟩|⟨o,ho,hb⟩
 ·exact jF (h.st.has p hp)
 ·exact(h.own o ho).1.lt b hb
theorem SF.Sd(h:SF w0 M H A F O w):∀b∈Ks H O,w0.heap.size<=b∨b∈M:=by
 intro b hb
 rcases eW.1 hb with⟨p,hp,rfl⟩|⟨o,ho,hb⟩
 ·exact(h.st.new p hp).symm
 ·exact(h.own o ho).2 b hb
theorem SF.cl(h:SF w0 M H A F O w){a:Option Addr}{cs:List Value}(hf:pS A F O a cs):Cl w a cs:=by
 cases hf with
 | bO hf=>exact(h.bO _ hf.mem).1
 | new hf=>exact(h.new _ hf.mem).1
 | own hf=>exact(h.own _ hf.mem).1.cl
 | hdr hf e =>
  rcases e with rfl|⟨_,rfl,_⟩
  ·exact(h.own _ hf.mem).1.cl
  ·exact Cl.nil _ _
theorem SF.s0(w:World):SF w [] [] [] [] [] w:=⟨St.refl w,λ _ h=>(List.not_mem_nil h).elim,λ _ h=>(List.not_mem_nil h).elim,λ _ h=>(List.not_mem_nil h).elim,List.nodup_nil⟩
theorem SF.begin{A:Fr}(h:∀f∈A,Cl w f.1 f.2):SF w [] [] A [] [] w:=⟨St.refl w,λ f hf=>⟨h f hf,λ _=>by simp[Ks]⟩,λ _ h=>(List.not_mem_nil h).elim,λ _ h=>(List.not_mem_nil h).elim,List.nodup_nil⟩
theorem SF.s1{a1:Option Addr}{c1:List Value}(h1:Cl w a1 c1):SF w [] [] [(a1,c1)] [] [] w:=SF.begin λ f hf=>by
 simp only[List.mem_cons,List.not_mem_nil,or_false] at hf;subst hf;exact h1
theorem SF.s2{a1 a2:Option Addr}{c1 c2:List Value}(h1:Cl w a1 c1)(h2:Cl w a2 c2):SF w [] [] [(a1,c1),(a2,c2)] [] [] w:=SF.begin λ f hf=>by
 simp only[List.mem_cons,List.not_mem_nil,or_false] at hf
 rcases hf with rfl|rfl
 ·exact h1
 ·exact h2
structure Zx(w w':World)(D:List Nat):Prop where
 os:w'.os=w.os
 tape:w'.tape=w.tape
 output:w'.output=w.output
 size:w.heap.size<=w'.heap.size
 kY:∀b,b<w.heap.size->b∉D->w'.heap[b]?=w.heap[b]?
theorem St.chg(h:St w M H w'):Zx w w' M:=⟨h.os,h.tape,h.output,h.size,h.kY⟩
theorem Cl.chg{a:Option Addr}{cs:List Value}{D:List Nat}(h:Cl w a cs)(c:Zx w w' D)(hn:cs≠[]->cZ a∉D):Cl w' a cs:=by
 refine⟨λ j u hj=>⟨(h.at_ j u hj).1,?_⟩⟩
 have hne:cs≠[]:=by rintro rfl;simp at hj
 have:=(h.at_ j u hj).2
 rw[World.cell?_of_block (c.kY _ (h.lt hne) (hn hne))]
 exact this
theorem SF.to(h:SF w0 M H A F O w){D:List Nat}(c:Zx w w' D)(hD:∀b∈D,b∈Ks H O)(hH:∀p∈H',w'.heap[p.1]?=some p.2)(hO:∀o∈O',Cy w' o)(hK:∀b∈Ks H' O',b∈Ks H O∨w.heap.size<=b)(hn:(Ks H' O').Nodup):SF w0 M H' A F O' w':=by
 have hnew:∀b∈Ks H' O',w0.heap.size<=b∨b∈M:=λ b hb=>by
  rcases hK b hb with h1|h1
  ·exact h.Sd b h1
  ·exact .inl (Nat.le_trans h.st.size h1)
 have key:∀{a:Option Addr} {cs:List Value},Cl w a cs->(cs≠[]->cZ a∉Ks H O)->Cl w' a cs/\(cs≠[]->cZ a∉Ks H' O'):=by
  intro a cs hc hn
  refine⟨hc.chg c λ hcs hm=>hn hcs (hD _ hm),λ hcs hm=>?_⟩
  rcases hK _ hm with h3|h3
  ·exact hn hcs h3
  ·have:=hc.lt hcs;omega
 refine⟨⟨c.os.trans h.st.os,c.tape.trans h.st.tape,c.output.trans h.st.output,Nat.le_trans h.st.size c.size,λ b hb hM=>?_,hH,λ p hp=>(hnew p.1 (eW.2 (.inl ⟨p,hp,rfl⟩))).symm,?_⟩,λ f hf=>key (h.bO f hf).1 (h.bO f hf).2,λ f hf=>?_,λ o ho=>⟨hO o ho,λ b hb=>hnew b (eW.2 (.inr ⟨o,ho,hb⟩))⟩,hn⟩
 ·rw[c.kY b (Nat.lt_of_lt_of_le hb h.st.size) λ hm=>?_]
  ·exact h.st.kY b hb hM
  ·rcases h.Sd b (hD b hm) with h1|h1
   ·omega
   ·exact hM h1
 ·exact(List.nodup_append.1 hn).1
 ·have k:=key (h.new f hf).1 (λ hc=>((h.new f hf).2 hc).1)
  exact⟨k.1,λ hc=>⟨k.2 hc,((h.new f hf).2 hc).2⟩⟩
theorem SF.z4(h:SF w0 M H A F O w){o:Ow}(ho:o∈O){b:Nat}(hb:b∈iQ o.p):b∉H.map Prod.fst:=λ hm=>by
 have:=(List.nodup_append.1 h.dis).2.2 b hm b (List.mem_flatMap.2 ⟨o,ho,hb⟩)
 exact this rfl
theorem SF.step(h:SF w0 M H A F O w){H':List (Nat×Obj)}(h2:St w (H.map Prod.fst) H' w'):SF w0 M H' A F O w':=by
 refine h.to h2.chg (λ b hb=>List.mem_append_left _ hb) h2.has (λ o ho=>(h.own o ho).1.kY λ b hb=>h2.kY b ((h.own o ho).1.lt b hb) (h.z4 ho hb)) (λ b hb=>?_) ?_
 ·rcases eW.1 hb with⟨p,hp,rfl⟩|⟨o,ho,hb⟩
  ·rcases h2.new p hp with h3|h3
   ·exact .inl (List.mem_append_left _ h3)
   ·exact .inr h3
  ·exact .inl (eW.2 (.inr ⟨o,ho,hb⟩))
 ·refine List.nodup_append.2 ⟨h2.nodup,(List.nodup_append.1 h.dis).2.1,λ a ha b hb e=>?_⟩
  subst e
  obtain⟨o,ho,hb⟩:=List.mem_flatMap.1 hb
  obtain⟨p,hp,rfl⟩:=List.mem_map.1 ha
  rcases h2.new p hp with h3|h3
  ·exact h.z4 ho hb h3
  ·have:=(h.own o ho).1.lt _ hb;omega
theorem oc.mono{X:Type}{V:X->Value}{G1 G2:X->World->Prop}{r:Result Next}(h:oc P X V G1 r)(hG:∀x w,G1 x w->G2 x w):oc P X V G2 r:=by
 cases r with
 | ok nx w' =>
  cases nx<;>simp only[oc] at h ⊢
  case value v=>obtain⟨x,hx,hg⟩:=h;exact⟨x,hx,hG _ _ hg⟩
  case skip=>obtain⟨x,hx,hg⟩:=h;exact⟨x,hx,hG _ _ hg⟩
  case enter f args=>exact h.mono λ e w'' ⟨x,hx,hg⟩=>⟨x,hx,hG _ _ hg⟩
 | halt x w'=>exact h.elim
theorem qSF{o:Oper}{v:Value}(h:aM P S (St w0 M H) o v):aM P S (SF w0 M H A F O) o v:=⟨λ w hw=>h.run w hw.st⟩
theorem jI{o:Oper}{X:Type}{V:X->Value}{H':X->List (Nat×Obj)}(h:∀w1:World,aX P S (St w1 (H.map Prod.fst) H) o X V (λ x=>St w1 (H.map Prod.fst) (H' x))) :
  aX P S (SF w0 M H A F O) o X V (λ x=>SF w0 M (H' x) A F O):=⟨λ w hw=>((h w).run w (Ck hw.st)).mono λ _ _ hg=>hw.step hg⟩
theorem SF.drew(h:SF w0 M H A F O w):SF w0 M H A F O w.drew:=⟨h.st.drew,λ f hf=>⟨⟨(h.bO f hf).1.at_⟩,(h.bO f hf).2⟩,λ f hf=>⟨⟨(h.new f hf).1.at_⟩,(h.new f hf).2⟩,h.own,h.dis⟩
theorem SF.sub(h:SF w0 M H A F O w)(hH:H'.Sublist H)(hF:aP F F')(hO:O'.Sublist O):SF w0 M H' A F' O' w:=by
 have hs:(Ks H' O').Sublist (Ks H O):=(hH.map _).append (D1 hO)
 exact⟨h.st.sub hH,λ f hf=>⟨(h.bO f hf).1,λ hc hm=>(h.bO f hf).2 hc (hs.subset hm)⟩,λ f hf=>⟨(h.new f (hF.sub f hf)).1,λ hc=>⟨λ hm=>((h.new f (hF.sub f hf)).2 hc).1 (hs.subset hm),((h.new f (hF.sub f hf)).2 hc).2⟩⟩,λ o ho=>h.own o (hO.subset ho),h.dis.sublist hs⟩
theorem SF.noA(h:SF w0 M H A F O w):SF w0 M H [] F O w:=⟨h.st,λ _ hf=>(List.not_mem_nil hf).elim,h.new,h.own,h.dis⟩
theorem SF.ret(h:SF w0 M H A F O w)(hH:H'.Sublist H)(hF:aP F F')(hO:O'.Sublist O):SF w0 M H' [] F' O' w:=(h.sub hH hF hO).noA
theorem yB(Hc:List (Nat×Obj))(Oc:List Ow):∀b,b∈Ks (Hc++H) (Oc++O)↔b∈Ks Hc Oc∨b∈Ks H O:=by
 intro b
 simp only[eW,List.mem_append]
 constructor
 ·rintro (⟨p,hp|hp,rfl⟩|⟨o,ho|ho,hb⟩)
  ·exact .inl (.inl ⟨p,hp,rfl⟩)
  ·exact .inr (.inl ⟨p,hp,rfl⟩)
  ·exact .inl (.inr ⟨o,ho,hb⟩)
  ·exact .inr (.inr ⟨o,ho,hb⟩)
 ·rintro ((⟨p,hp,rfl⟩|⟨o,ho,hb⟩)|(⟨p,hp,rfl⟩|⟨o,ho,hb⟩))
  ·exact .inl ⟨p,.inl hp,rfl⟩
  ·exact .inr ⟨o,.inl ho,hb⟩
  ·exact .inl ⟨p,.inr hp,rfl⟩
  ·exact .inr ⟨o,.inr ho,hb⟩
theorem Qz{Hc:List (Nat×Obj)}{Oc:List Ow}(h1:(Ks Hc Oc).Nodup)(h2:(Ks H O).Nodup)(hd:∀b∈Ks Hc Oc,b∉Ks H O):(Ks (Hc++H) (Oc++O)).Nodup:=by
 have hp:(Ks (Hc++H) (Oc++O)).Perm (Ks Hc Oc++Ks H O):=by
  unfold Ks
  rw[List.map_append,List.flatMap_append]
  simp only[List.append_assoc]
  refine List.Perm.append_left _ ?_
  rw[<- List.append_assoc,<- List.append_assoc]
  exact List.Perm.append_right _ List.perm_append_comm
 rw[hp.nodup_iff]
 exact List.nodup_append.2 ⟨h1,h2,λ a ha b hb e=>hd a ha (e▸hb)⟩
theorem SF.call(h:SF w0 M H A F O w){Hc:List (Nat×Obj)}{Fc:Fr}{Oc:List Ow}(hc:SF w [] Hc [] Fc Oc w'):SF w0 M (Hc++H) A (Fc++F) (Oc++O) w':=by
 have fresh:∀b∈Ks Hc Oc,w.heap.size<=b:=λ b hb=>(hc.Sd b hb).elim id λ h=>(List.not_mem_nil h).elim
 have hk:∀b,b<w.heap.size->w'.heap[b]?=w.heap[b]?:=λ b hb=>hc.st.kY b hb (by simp)
 have h1:SF w0 M (Hc++H) A F (Oc++O) w':=by
  refine h.to hc.st.chg (λ b hb=>(List.not_mem_nil hb).elim) (λ p hp=>?_) (λ o ho=>?_) (λ b hb=>?_) (Qz hc.dis h.dis λ b hb hm=>?_)
  ·rcases List.mem_append.1 hp with hp|hp
   ·exact hc.st.has p hp
   ·have:=h.st.has p hp
    rw[hk _ (jF this)];exact this
  ·rcases List.mem_append.1 ho with ho|ho
   ·exact(hc.own o ho).1
   ·exact(h.own o ho).1.kY λ b hb=>hk b ((h.own o ho).1.lt b hb)
  ·rcases(yB Hc Oc b).1 hb with hb|hb
   ·exact .inr (fresh b hb)
   ·exact .inl hb
  ·have:=fresh b hb
   have:=h.lt b hm
   omega
 refine⟨h1.st,h1.bO,λ f hf=>?_,h1.own,h1.dis⟩
 rcases List.mem_append.1 hf with hf|hf
 ·have k:=hc.new f hf
  have k2:f.2≠[]->w.heap.size<=cZ f.1:=λ hcs=>(k.2 hcs).2.elim id λ h=>(List.not_mem_nil h).elim
  refine⟨k.1,λ hcs=>⟨λ hm=>?_,.inl (Nat.le_trans h.st.size (k2 hcs))⟩⟩
  rcases(yB Hc Oc _).1 hm with hm|hm
  ·exact(k.2 hcs).1 hm
  ·have:=h.lt _ hm
   have:=k2 hcs
   omega
 ·exact h1.new f hf
theorem SF.iy(h:SF w0 M H A F O w){D:List Nat}{Hm Hc H1:List (Nat×Obj)}{Fc:Fr}{Om Oc O1:List Ow}(hc:SF w D (Hm++Hc) [] Fc (Om++Oc) w')(hD:∀b∈D,b∈Ks H O)
  (hH1:∀p∈H1,p∈Hm∨(p∈H/\p.1∉D)) (hO1:∀o∈O1,o∈Om∨(o∈O/\∀b∈iQ o.p,b∉D)) (hn:(Ks H1 O1).Nodup):SF w0 M (Hc++H1) A (Fc++F) (Oc++O1) w':=by
 have inH:∀p∈Hc,p.1∈Ks (Hm++Hc) (Om++Oc):=λ p hp=>eW.2 (.inl ⟨p,List.mem_append_right _ hp,rfl⟩)
 have hk:∀b,b<w.heap.size->b∉D->w'.heap[b]?=w.heap[b]?:=λ b hb hd=>hc.st.kY b hb hd
 have hsub:(Ks Hc Oc).Sublist (Ks (Hm++Hc) (Om++Oc)):=by
  unfold Ks
  rw[List.map_append,List.flatMap_append]
  exact(List.sublist_append_right _ _).append (List.sublist_append_right _ _)
 have perm:(Ks (Hm++Hc) (Om++Oc)).Perm (Ks Hm Om++Ks Hc Oc):=by
  unfold Ks
  rw[List.map_append,List.flatMap_append]
  simp only[List.append_assoc]
  refine List.Perm.append_left _ ?_
  rw[<- List.append_assoc,<- List.append_assoc]
  exact List.Perm.append_right _ List.perm_append_comm
 have disj:∀b∈Ks Hc Oc,b∉Ks Hm Om:=λ b hb hm=>by
  have:=(perm.nodup_iff.1 hc.dis)
  exact(List.nodup_append.1 this).2.2 b hm b hb rfl
 have kin:∀b∈Ks H1 O1,b∈Ks Hm Om∨(b∈Ks H O/\b∉D):=λ b hb=>by
  rcases eW.1 hb with⟨p,hp,rfl⟩|⟨o,ho,hb⟩
  ·rcases hH1 p hp with h1|⟨h1,h2⟩
   ·exact .inl (eW.2 (.inl ⟨p,h1,rfl⟩))
   ·exact .inr ⟨eW.2 (.inl ⟨p,h1,rfl⟩),h2⟩
  ·rcases hO1 o ho with h1|⟨h1,h2⟩
   ·exact .inl (eW.2 (.inr ⟨o,h1,hb⟩))
   ·exact .inr ⟨eW.2 (.inr ⟨o,h1,hb⟩),h2 b hb⟩
 have kbig:∀b∈Ks (Hm++Hc) (Om++Oc),b∈Ks H O∨w.heap.size<=b:=λ b hb=>(hc.Sd b hb).elim .inr λ h=>.inl (hD b h)
 have kc:∀b∈Ks Hc Oc,b∈D∨w.heap.size<=b:=λ b hb=>(hc.Sd b (hsub.subset hb)).elim .inr .inl
 have h1:SF w0 M (Hc++H1) A F (Oc++O1) w':=by
  refine h.to hc.st.chg hD (λ p hp=>?_) (λ o ho=>?_) (λ b hb=>?_) (Qz (hc.dis.sublist hsub) hn λ b hb hm=>?_)
  ·rcases List.mem_append.1 hp with hp|hp
   ·exact hc.st.has p (List.mem_append_right _ hp)
   ·rcases hH1 p hp with h1|⟨h1,h2⟩
    ·exact hc.st.has p (List.mem_append_left _ h1)
    ·have:=h.st.has p h1
     rw[hk _ (jF this) h2];exact this
  ·rcases List.mem_append.1 ho with ho|ho
   ·exact(hc.own o (List.mem_append_right _ ho)).1
   ·rcases hO1 o ho with h1|⟨h1,h2⟩
    ·exact(hc.own o (List.mem_append_left _ h1)).1
    ·exact(h.own o h1).1.kY λ b hb=>hk b ((h.own o h1).1.lt b hb) (h2 b hb)
  ·rcases(yB Hc Oc b).1 hb with hb|hb
   ·exact kbig b (hsub.subset hb)
   ·rcases kin b hb with h1|h1
    ·exact kbig b (perm.mem_iff.2 (List.mem_append_left _ h1))
    ·exact .inl h1.1
  ·rcases kin b hm with h1|⟨h1,h2⟩
   ·exact disj b hb h1
   ·rcases kc b hb with h3|h3
    ·exact h2 h3
    ·have:=h.lt b h1;omega
 refine⟨h1.st,h1.bO,λ f hf=>?_,h1.own,h1.dis⟩
 rcases List.mem_append.1 hf with hf|hf
 ·have k:=hc.new f hf
  refine⟨k.1,λ hcs=>⟨λ hm=>?_,(k.2 hcs).2.elim (λ h1=>.inl (Nat.le_trans h.st.size h1)) λ h1=>h.Sd _ (hD _ h1)⟩⟩
  rcases(yB Hc Oc _).1 hm with hm|hm
  ·exact(k.2 hcs).1 (hsub.subset hm)
  ·rcases kin _ hm with h2|h2
   ·exact(k.2 hcs).1 (perm.mem_iff.2 (List.mem_append_left _ h2))
   ·have:=h.lt _ h2.1
    rcases(k.2 hcs).2 with h3|h3
    ·omega
    ·exact h2.2 h3
 ·exact h1.new f hf
theorem SF.apart(h:SF w0 M H A F O w){a:Option Addr}{cs:List Value}(hf:pS A F [] a cs)(hc:cs≠[]):cZ a∉Ks H O:=by
 cases hf with
 | bO hf=>exact(h.bO _ hf.mem).2 hc
 | new hf=>exact((h.new _ hf.mem).2 hc).1
 | own hf=>cases hf
 | hdr hf _=>cases hf
theorem Qg{i:Nat}{p:Option Addr}{cs:List Value}{c:Nat}{T:TypeId}{sz:Nat}{o':Ow}(h:uN O i p cs c T sz):∀o∈kP O i o',o=o'∨o∈rR O i:=by
 induction h with
 | head =>
  intro o ho
  simp only[kP] at ho
  exact(List.mem_cons.1 ho).imp id id
 | tail h ih =>
  intro o ho
  simp only[kP] at ho
  rcases List.mem_cons.1 ho with rfl|ho
  ·exact .inr (by simp only[rR];exact List.mem_cons_self ..)
  ·exact(ih o ho).imp id λ h=>by simp only[rR];exact List.mem_cons_of_mem _ h
theorem Bf:∀(O:List Ow) (i:Nat),(rR O i).Sublist O
 | [],_=>List.Sublist.refl _
 | p::r,0=>List.sublist_cons_self p r
 | p::r,i+1=>(Bf r i).cons_cons p
theorem Iz{i:Nat}{p:Option Addr}{cs:List Value}{c:Nat}{T:TypeId}{sz:Nat}(h:uN O i p cs c T sz):(O.flatMap λ o=>iQ o.p).Perm (iQ p++(rR O i).flatMap λ o=>iQ o.p):=by
 induction h with
 | head=>simp[rR]
 | @tail o O i p cs c T sz h ih =>
  simp only[rR,List.flatMap_cons]
  exact(List.Perm.append_left _ ih).trans (by rw[<- List.append_assoc,<- List.append_assoc];exact List.Perm.append_right _ List.perm_append_comm)
theorem Xd{i:Nat}{p:Option Addr}{cs:List Value}{c:Nat}{T:TypeId}{sz:Nat}{o':Ow}(h:uN O i p cs c T sz):((kP O i o').flatMap λ o=>iQ o.p).Perm (iQ o'.p++(rR O i).flatMap λ o=>iQ o.p):=by
 induction h with
 | head=>simp[rR,kP]
 | @tail o O i p cs c T sz h ih =>
  simp only[rR,kP,List.flatMap_cons]
  exact(List.Perm.append_left _ ih).trans (by rw[<- List.append_assoc,<- List.append_assoc];exact List.Perm.append_right _ List.perm_append_comm)
theorem SF.G8(h:SF w0 M H A F O w){i:Nat}{p:Option Addr}{cs:List Value}{c:Nat}{T:TypeId}{sz:Nat}(ho:uN O i p cs c T sz)(c1:Zx w w' (iQ p)){o':Ow}(hok:Cy w' o')(hb:∀b∈iQ o'.p,b∈iQ p∨w.heap.size<=b)(hnd:(iQ o'.p).Nodup):SF w0 M H A F (kP O i o') w':=by
 have hin:∀b∈iQ p,b∈Ks H O:=λ b hb=>eW.2 (.inr ⟨_,ho.mem,hb⟩)
 have hdel:∀o∈rR O i,o∈O:=λ o h=>(Bf O i).subset h
 have pd:=Iz ho
 have nd:=List.nodup_append.1 h.dis
 have nd2:=List.nodup_append.1 (pd.nodup_iff.1 nd.2.1)
 refine h.to c1 hin (λ q hq=>?_) (λ o h1=>?_) (λ b hb1=>?_) ?_
 ·have:=h.st.has q hq
  rw[c1.kY _ (jF this) λ hm=>?_]
  ·exact this
  ·exact nd.2.2 q.1 (List.mem_map.2 ⟨q,hq,rfl⟩) q.1 (List.mem_flatMap.2 ⟨_,ho.mem,hm⟩) rfl
 ·rcases Qg ho o h1 with rfl|h2
  ·exact hok
  ·refine(h.own o (hdel o h2)).1.kY λ b hb2=>c1.kY b ((h.own o (hdel o h2)).1.lt b hb2) λ hm=>?_
   exact nd2.2.2 b hm b (List.mem_flatMap.2 ⟨o,h2,hb2⟩) rfl
 ·rcases eW.1 hb1 with⟨q,hq,rfl⟩|⟨o,h1,hb2⟩
  ·exact .inl (eW.2 (.inl ⟨q,hq,rfl⟩))
  ·rcases Qg ho o h1 with rfl|h2
   ·exact(hb b hb2).imp (hin b) id
   ·exact .inl (eW.2 (.inr ⟨o,hdel o h2,hb2⟩))
 ·unfold Ks
  rw[((List.Perm.append_left _ (Xd ho)).nodup_iff)]
  refine List.nodup_append.2 ⟨nd.1,List.nodup_append.2 ⟨hnd,nd2.2.1,λ a ha b hb1 e=>?_⟩,λ a ha b hb1 e=>?_⟩
  ·subst e
   rcases hb a ha with h1|h1
   ·exact nd2.2.2 a h1 a hb1 rfl
   ·obtain⟨o,h2,hb2⟩:=List.mem_flatMap.1 hb1
    have:=(h.own o (hdel o h2)).1.lt a hb2
    omega
  ·subst e
   rcases List.mem_append.1 hb1 with h1|h1
   ·rcases hb a h1 with h2|h2
    ·exact nd.2.2 a ha a (pd.mem_iff.2 (List.mem_append_left _ h2)) rfl
    ·obtain⟨q,hq,rfl⟩:=List.mem_map.1 ha
     have:=jF (h.st.has q hq)
     omega
   ·exact nd.2.2 a ha a (pd.mem_iff.2 (List.mem_append_right _ h1)) rfl
theorem SF.Nm(h:SF w0 M H A F O w)(c1:Zx w w' []){o':Ow}(hok:Cy w' o')(hb:∀b∈iQ o'.p,w.heap.size<=b)(hnd:(iQ o'.p).Nodup):SF w0 M H A F (o'::O) w':=by
 refine h.to c1 (λ b hb=>(List.not_mem_nil hb).elim) (λ q hq=>?_) (λ o h1=>?_) (λ b hb1=>?_) ?_
 ·have:=h.st.has q hq
  rw[c1.kY _ (jF this) (by simp)];exact this
 ·rcases List.mem_cons.1 h1 with rfl|h1
  ·exact hok
  ·exact(h.own o h1).1.kY λ b hb2=>c1.kY b ((h.own o h1).1.lt b hb2) (by simp)
 ·rcases eW.1 hb1 with⟨q,hq,rfl⟩|⟨o,h1,hb2⟩
  ·exact .inl (eW.2 (.inl ⟨q,hq,rfl⟩))
  ·rcases List.mem_cons.1 h1 with rfl|h1
   ·exact .inr (hb b hb2)
   ·exact .inl (eW.2 (.inr ⟨o,h1,hb2⟩))
 ·have hp:(Ks H (o'::O)).Perm (iQ o'.p++Ks H O):=by
   unfold Ks
   rw[List.flatMap_cons,<- List.append_assoc,<- List.append_assoc]
   exact List.Perm.append_right _ List.perm_append_comm
  rw[hp.nodup_iff]
  exact List.nodup_append.2 ⟨hnd,h.dis,λ a ha b hb1 e=>by subst e;have:=hb a ha;have:=h.lt a hb1;omega⟩
theorem kA(p:Option Addr):(iQ p).Nodup:=by cases p<;>simp[iQ]
theorem SF.kS(h:SF w0 M H A F O w)(T:TypeId)(sz:Nat):SF w0 M H A F (⟨none,[],0,T,sz⟩::O) w :=
 h.Nm ⟨rfl,rfl,rfl,Nat.le_refl _,λ _ _ _=>rfl⟩ (.inl ⟨rfl,rfl,rfl⟩) (by simp[iQ]) (by simp[iQ])
theorem SF.freeze(h:SF w0 M H A F O w){i:Nat}{p:Option Addr}{cs:List Value}{c:Nat}{T:TypeId}{sz:Nat}(ho:uN O i p cs c T sz)(hM:True:=trivial):SF w0 M H A ((p,cs)::F) (rR O i) w:=by
 have hs:(Ks H (rR O i)).Sublist (Ks H O):=(List.Sublist.refl _).append (D1 (Bf O i))
 have h1:=h.own _ ho.mem
 have pd:=Iz ho
 have nd:=List.nodup_append.1 h.dis
 have nd2:=List.nodup_append.1 (pd.nodup_iff.1 nd.2.1)
 refine⟨h.st,λ f hf=>⟨(h.bO f hf).1,λ hc hm=>(h.bO f hf).2 hc (hs.subset hm)⟩,λ f hf=>?_,λ o h2=>h.own o ((Bf O i).subset h2),h.dis.sublist hs⟩
 rcases List.mem_cons.1 hf with rfl|hf
 ·refine⟨h1.1.cl,λ hc=>?_⟩
  have hb:=h1.1.Ru hc
  have hin:cZ p∈iQ p:=by show cZ p∈iQ (Ow.mk p cs c T sz).p;rw[hb];exact List.mem_singleton.2 rfl
  refine⟨λ hm=>?_,h1.2 _ hin⟩
  rcases List.mem_append.1 hm with hm|hm
  ·exact nd.2.2 _ hm _ (pd.mem_iff.2 (List.mem_append_left _ hin)) rfl
  ·exact nd2.2.2 _ hin _ hm rfl
 ·exact⟨(h.new f hf).1,λ hc=>⟨λ hm=>((h.new f hf).2 hc).1 (hs.subset hm),((h.new f hf).2 hc).2⟩⟩
theorem SF.Lw(h:SF w0 M H A F O w)(a:Option Addr):SF w0 M H A ((a,[])::F) O w:=⟨h.st,h.bO,λ f hf=>by
 rcases List.mem_cons.1 hf with rfl|hf
 ·exact⟨Cl.nil w a,λ hc=>absurd rfl hc⟩
 ·exact h.new f hf,h.own,h.dis⟩
theorem SF.R9(h:SF w0 M H A F O w){a a':Option Addr}{cs cs':List Value}(hf:pS A F [] a cs)(hb:cs'≠[]->cZ a'=cZ a)(hn:cs=[]->cs'=[])(hc:∀w,Cl w a cs->Cl w a' cs'):SF w0 M H ((a',cs')::A) F O w:=⟨h.st,λ f hf'=>by
 rcases List.mem_cons.1 hf' with rfl|hf'
 ·have k1:Cl w a cs:=by
   cases hf with
   | bO hf=>exact(h.bO _ hf.mem).1
   | new hf=>exact(h.new _ hf.mem).1
   | own hf=>cases hf
   | hdr hf _=>cases hf
  exact⟨hc w k1,λ hcs=>by
   show cZ a'∉_
   rw[hb hcs];exact h.apart hf λ e=>hcs (hn e)⟩
 ·exact h.bO f hf',h.new,h.own,h.dis⟩
variable{d:Nat}{ty:TypeId}{pos:String}{af:Array Edge}{gd:Option (Nat×Bool)}{dst:Option Nat}
variable{X:Type}{V:X->Value}{φ:X->Prop}{Hc:X->List (Nat×Obj)}{Fc:X->Fr}{Oc:X->List Ow}{f:FuncId}{xs:List Operand}{at_:Array TypeId}{vs:List Value}
theorem cSF(hp:plain P f=true)(ha:B3 S xs=vs)
  (hc:∀w,SF w0 M H A F O w->Calls P f ⟨vs⟩ w λ e w'=>∃x,e=.returned (V x)/\φ x/\SF w [] [] [] (Fc x) [] w') :
  aX P S (SF w0 M H A F O) ⟨dst,.call {callee:=.value (.func f),args:=⟨xs⟩,argTypes:=at_},ty,pos,af,gd⟩ X V (λ x w=>φ x/\SF w0 M H A (Fc x++F) O w) :=
 mC (oE hp ha) λ w hw=>(hc w hw).mono λ _ _ ⟨x,he,hx,hs⟩=>⟨x,he,hx,by simpa using hw.call hs⟩
theorem aCU(hp:plain P f=true)(ha:B3 S xs=vs)
  (hc:∀w,SF w0 M H A F O w->Calls P f ⟨vs⟩ w λ e w'=>∃x,e=.returned (V x)/\φ x/\SF w [] (Hc x) [] (Fc x) (Oc x) w') :
  aX P S (SF w0 M H A F O) ⟨dst,.call {callee:=.value (.func f),args:=⟨xs⟩,argTypes:=at_},ty,pos,af,gd⟩ X V (λ x w=>φ x/\SF w0 M (Hc x++H) A (Fc x++F) (Oc x++O) w) :=
 mC (oE hp ha) λ w hw=>(hc w hw).mono λ _ _ ⟨x,he,hx,hs⟩=>⟨x,he,hx,hw.call hs⟩
theorem fq{i b:Nat}{o o':Obj}(ha:At H i b o)(hn:(H.map Prod.fst).Nodup):∀p∈setAt H i o',p∈[(b,o')]∨(p∈H/\p.1∉[b]):=λ p hp=>by
 rcases Dc (o':=o') ha hn p hp with rfl|⟨h1,h2⟩
 ·exact .inl (List.mem_singleton.2 rfl)
 ·exact .inr ⟨h1,by simpa using h2⟩
theorem jw{i:Nat}{o':Obj}:Ks (setAt H i o') O=Ks H O:=by unfold Ks;rw[zY]
theorem SF.aCl(h:SF w0 M H A F O w){i b:Nat}{o o':Obj}(ha:At H i b o){Hc:List (Nat×Obj)}{Fc:Fr}{Oc:List Ow}(hc:SF w [b] ((b,o')::Hc) [] Fc Oc w'):SF w0 M (Hc++setAt H i o') A (Fc++F) (Oc++O) w':=by
 have hb:b∈H.map Prod.fst:=List.mem_map.2 ⟨_,ha.mem,rfl⟩
 refine h.iy (D:=[b]) (Hm:=[(b,o')]) (Om:=[]) (H1:=setAt H i o') (O1:=O) (by simpa using hc) (λ c hd=>by simp only[List.mem_singleton] at hd;subst hd;exact List.mem_append_left _ hb) (fq ha h.st.nodup) (λ o ho=>.inr ⟨ho,λ c hco hd=>?_⟩) (by rw[jw];exact h.dis)
 simp only[List.mem_singleton] at hd
 subst hd
 exact h.z4 ho hco hb
theorem aCE{i b:Nat}{o:Obj}{o':X->Obj}(hp:plain P f=true)(ha:B3 S xs=vs)(hb:At H i b o)
  (hc:∀w,SF w0 M H A F O w->Calls P f ⟨vs⟩ w λ e w'=>∃x,e=.returned (V x)/\φ x/\SF w [b] ((b,o' x)::Hc x) [] (Fc x) (Oc x) w') :
  aX P S (SF w0 M H A F O) ⟨dst,.call {callee:=.value (.func f),args:=⟨xs⟩,argTypes:=at_},ty,pos,af,gd⟩ X V (λ x w=>φ x/\SF w0 M (Hc x++setAt H i (o' x)) A (Fc x++F) (Oc x++O) w) :=
 mC (oE hp ha) λ w hw=>(hc w hw).mono λ _ _ ⟨x,he,hx,hs⟩=>⟨x,he,hx,hw.aCl hb hs⟩
theorem SF.aBL(h:St w [] [] w'):SF w [] [] [] [] [] w':=⟨h,λ _ h=>(List.not_mem_nil h).elim,λ _ h=>(List.not_mem_nil h).elim,λ _ h=>(List.not_mem_nil h).elim,List.nodup_nil⟩
theorem aC1{v:Value}(hp:plain P f=true)(ha:B3 S xs=vs)
  (hc:∀w,SF w0 M H A F O w->Calls P f ⟨vs⟩ w λ e w'=>e=.returned v/\St w [] [] w') :
  aX P S (SF w0 M H A F O) ⟨dst,.call {callee:=.value (.func f),args:=⟨xs⟩,argTypes:=at_},ty,pos,af,gd⟩ Unit (λ _=>v) (λ _=>SF w0 M H A F O) :=
 mC (oE hp ha) λ w hw=>(hc w hw).mono λ _ _ ⟨he,hs⟩=>⟨(),he,by simpa using hw.call (SF.aBL hs)⟩
theorem aCB(hp:plain P f=true)(ha:B3 S xs=vs)
  (hc:∀w,SF w0 M H A F O w->Calls P f ⟨vs⟩ w λ e w'=>∃x,e=.returned (V x)/\φ x/\St w [] [] w') :
  aX P S (SF w0 M H A F O) ⟨dst,.call {callee:=.value (.func f),args:=⟨xs⟩,argTypes:=at_},ty,pos,af,gd⟩ X V (λ x w=>φ x/\SF w0 M H A F O w) :=
 mC (oE hp ha) λ w hw=>(hc w hw).mono λ _ _ ⟨x,he,hx,hs⟩=>⟨x,he,hx,by simpa using hw.call (SF.aBL hs)⟩
theorem Wr{fn:Func}{R:Ending->World->Prop}{rs:List ResultVar}{vs:List Value}(hr:fn.results=⟨rs⟩)(hv:kR P S H rs vs)(h:∀w,SF w0 M H A F O w->R (.returned (rF vs)) w) :
  JK P n (bodyPost P fn R) (.code .ret::ks) S (SF w0 M H A F O) :=
 aAV λ hS w hw=>⟨rfl,_,Us hS hw.st hr hv,h w hw⟩
theorem aR{fn:Func}{R:Ending->World->Prop}{rs:List ResultVar}{vs:List Value}(hr:fn.results=⟨rs⟩)(h:∀w,SF w0 M H A F O w->R (.returned (rF vs)) w)(hv:kR P S H rs vs:=by exact(.tmp (by conv=>{lhs;whnf}) .nil)) :
  JK P n (bodyPost P fn R) (.code .ret::ks) S (SF w0 M H A F O):=Wr hr hv h
theorem tx{fn:Func}{R:Ending->World->Prop}{rs:List ResultVar}{vs:List Value}(hr:fn.results=⟨rs⟩)(hv:kR P S H rs vs)(h:∀w,SF w0 M H A F O w->R (.returned (rF vs)) w) :
  JK P n (bodyPost P fn R) [] S (SF w0 M H A F O):=⟨λ hS w hw=>⟨rfl,_,Us hS hw.st hr hv,h w hw⟩⟩
theorem W9{Y:Type}(keys:List Nat)(K:Y->List (Nat×Value))(I:Y->Prop)(Hx:Y->List (Nat×Obj))(Fx:Y->Fr)(Ox:Y->List Ow)(μ:Y->Nat){c:Code}(x0:Y)(hn:(keys.all λ k=>Nat.blt k n)=true)(hKn:∀x,((K x).all λ p=>Nat.blt p.1 n)=true)
  (hK0:mX (K x0) S) (hG0:I x0) (hw0:∀w,SF w0 M H A F O w->SF w0 M (Hx x0) A (Fx x0) (Ox x0) w)
  (round:∀x f,I x->JK P n Q (.code c::.inv (lK n keys K (λ x w=>I x/\SF w0 M (Hx x) A (Fx x) (Ox x) w) μ S (μ x))::ks) (K x++(gC keys f++S)) (SF w0 M (Hx x) A (Fx x) (Ox x))) :
  JK P n Q (.code (.loop c)::ks) S (SF w0 M H A F O):=zf keys K (λ x w=>I x/\SF w0 M (Hx x) A (Fx x) (Ox x) w) μ x0 hn hKn hK0 (λ w hw=>⟨hG0,hw0 w hw⟩) λ x f=>S8 λ h=>round x f h
theorem kD{Y:Type}{keys:List Nat}{K:Y->List (Nat×Value)}{I:Y->Prop}{Hx:Y->List (Nat×Obj)}{Fx:Y->Fr}{Ox:Y->List Ow}{μ:Y->Nat}{S0:List (Nat×Value)}{m:Nat}(x':Y)(hμ:μ x'<m)(hK:mX (K x') S)(hp:xP keys S S0)(hI:I x')(hw1:∀w,G w->SF w0 M (Hx x') A (Fx x') (Ox x') w) :
  JK P n Q (.inv (lK n keys K (λ x w=>I x/\SF w0 M (Hx x) A (Fx x) (Ox x) w) μ S0 m)::ks) S G:=m9 x' hμ hK hp λ w hw=>⟨hI,hw1 w hw⟩
variable{a:Option Addr}{x y:Operand}{t e:TypeId}
theorem bE{lst:List Int}{m c k:Nat}{kk:IntKind}(hx:ev S x=.slice a m c)(hy:ev S y=.int kk ((k:Nat):Int))(ht:P.underlying t=some (.slice e))(hs:one P e=true)(hf:pS A F O a (aH lst))(h1:k<m)(h2:k<lst.length) :
  aM P S (SF w0 M H A F O) ⟨some d,.indexAddr t x y,ty,pos,af,gd⟩ (.pointer (some ⟨cZ a,eG a+k,none⟩)):=⟨λ w hw =>
 (Bq (G:=SF w0 M H A F O) hx hy ht hs ((hw.cl hf).aCw (by omega)) h1).run w hw⟩
theorem wD{lst:List Pr}{m c k:Nat}{kk:IntKind}(hx:ev S x=.slice a m c)(hy:ev S y=.int kk ((k:Nat):Int))(ht:P.underlying t=some (.slice e))(hs:jK P e 2=true)(hf:pS A F O a (dK lst))(h1:k<m)(h2:k<lst.length) :
  aM P S (SF w0 M H A F O) ⟨some d,.indexAddr t x y,ty,pos,af,gd⟩ (.pointer (some ⟨cZ a,eG a+2*k,none⟩)):=⟨λ w hw =>
 (P4 (G:=SF w0 M H A F O) hx hy ht hs ((hw.cl hf).aCP (by omega)) h1).run w hw⟩
theorem bP{lst:List Int}{q:Nat}(hx:ev S x=.pointer (some ⟨cZ a,eG a+q,none⟩))(ht:one P t=true)(hf:pS A F O a (aH lst))(hq:q<lst.length) :
  aM P S (SF w0 M H A F O) ⟨some d,.load t x,ty,pos,af,gd⟩ (.int .i64 (lst.getD q 0)):=mJ hx ht (λ w hw=>hw.cl hf) (Pt hq)
theorem Ph{lst:List Pr}{q:Nat}(hx:ev S x=.pointer (some ⟨cZ a,eG a+2*q,none⟩))(ht:one P t=true)(hf:pS A F O a (dK lst))(hq:q<lst.length) :
  aM P S (SF w0 M H A F O) ⟨some d,.load t x,ty,pos,af,gd⟩ (.string (lst.getD q (⟨#[]⟩,0)).1):=mJ hx ht (λ w hw=>hw.cl hf) (Cn hq).1
theorem Qe{lst:List Pr}{q:Nat}(hx:ev S x=.pointer (some ⟨cZ a,eG a+(2*q+1),none⟩))(ht:one P t=true)(hf:pS A F O a (dK lst))(hq:q<lst.length) :
  aM P S (SF w0 M H A F O) ⟨some d,.load t x,ty,pos,af,gd⟩ (.int .u64 (lst.getD q (⟨#[]⟩,0)).2):=mJ hx ht (λ w hw=>hw.cl hf) (Cn hq).2
theorem Vn{lst:List Pr}{q:Nat}(hx:ev S x=.pointer (some ⟨cZ a,eG a+2*q,none⟩))(ht:jK P t 2=true)(hf:pS A F O a (dK lst))(hq:q<lst.length) :
  aM P S (SF w0 M H A F O) ⟨some d,.load t x,ty,pos,af,gd⟩ (.agg ⟨[.string (lst.getD q (⟨#[]⟩,0)).1,.int .u64 (lst.getD q (⟨#[]⟩,0)).2]⟩):=⟨λ w hw =>
 (Xi (w0:=w) (M:=[]) (H:=[]) hx ht (hw.cl hf) (Cn hq).1 (Cn hq).2 (by simp)).run w (St.refl w)⟩
end
end Go.Ct

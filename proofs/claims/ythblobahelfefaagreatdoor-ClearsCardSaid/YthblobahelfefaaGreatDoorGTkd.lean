/- Merged. -/
import Derived.Test.YthblobahelfefaaGreatDoorGAutoD
import Derived.Test.YthblobahelfefaaGreatDoorGTp2
import Derived.Test.YthblobahelfefaaGreatDoorGSlices
set_option linter.unusedSimpArgs false
set_option linter.unusedVariables false
namespace Go.Ct
open Go Go.RowKit
section
theorem SF.same{w w':World}{b:Nat}{o:Obj}(h:SF w [b] [(b,o)] [] [] [] w')(hb:w.heap[b]?=some o):St w [] [] w' :=
 ⟨h.st.os,h.st.tape,h.st.output,h.st.size,λ k hk _=>by
  by_cases e:k=b;·subst e;rw[h.st.has (k,o) (List.mem_singleton.2 rfl),hb]
  ·exact h.st.eH k hk (by simpa using e),λ _ h=>(List.not_mem_nil h).elim,λ _ h=>(List.not_mem_nil h).elim,List.nodup_nil⟩
theorem SF.im{w:World}{b:Nat}{o:Obj}(hb:w.heap[b]?=some o):SF w [b] [(b,o)] [] [] [] w :=⟨⟨rfl,rfl,rfl,Nat.le_refl _,λ _ _ _=>rfl,λ p hp=>by rw[List.mem_singleton.1 hp];exact hb,λ p hp=>by rw[List.mem_singleton.1 hp];exact .inl (List.mem_singleton.2 rfl),by simp⟩,λ _ h=>(List.not_mem_nil h).elim,λ _ h=>(List.not_mem_nil h).elim,λ _ h=>(List.not_mem_nil h).elim,by simp[Ks]⟩
end
end Go.Ct
namespace Go.Proofs.YthblobahelfefaaGreatDoor
open Go.Proofs.Tryz
open Go Go.RowKit Go.Ct
section
abbrev tkC(b:Nat)(c:Cd)(n:Nat)(z:Bool):List Value:=[.iface 51 (.pointer (some ⟨b,0,none⟩)),.int .i64 c.a.k,.int .i64 c.a.c,.int .i64 c.a.o,.int .i64 c.a.n,fnV c.f,fnV c.g,.int .i64 c.r.err,.bool c.r.found,.int .u64 c.r.val,.string c.r.key,.int .i64 c.r.iD,.int .i64 c.r.ref,.int .i64 c.r.root,.bool c.r.ro,.int .i64 ((n:Nat):Int),.bool z]
abbrev tO(b:Nat)(c:Cd)(n:Nat):Obj:=.cells ⟨tkC b c n false⟩ 146 (0,0)
section
variable{D:List Nat}{A B:Fr}{L:List dJ}{cs:List Int}{gen acc:Int}{pn pc:Option Addr}{cn cc b bt n:Nat}{w:World}{c:Cd}
theorem uH(h:w.heap[bt]?=some (tO b c n)):Calls prog 33 #[.pointer (some ⟨bt,0,none⟩)] w λ e w'=>e=.returned (.bool (c.a.k==0))/\St w [] [] w':=by refine enter func33 ntmps33 rfl rfl (SF.im h) ?_;simp only[bY];refine cC ?_;refine ai ?_;refine Kc9 ?_;refine D4 ?_;refine aP results33 (λ w hw=>?_);exact⟨rfl,hw.eP.same h⟩
theorem He(h:w.heap[bt]?=some (tO b c n)):Calls prog 35 #[.pointer (some ⟨bt,0,none⟩)] w λ e w'=>e=.returned (.agg ⟨(if c.a.k=0 then c.r else Rs.zero).cells⟩)/\St w [] [] w':=by
 refine enter func35 ntmps35 rfl rfl (SF.im h) ?_;simp only[bY];refine J0 ?_;refine aI (λ x2=>?_);refine Kc3 ?_;refine aK (cV (hc:=λ w1 hw=>uH (hw.st.at bU))) (λ x4=>?_);refine pG ?_;refine aX (λ c5=>?_) (λ c5=>?_);·refine J0 ?_;refine P1 ?_;refine bJ results35 (λ w hw=>?_);refine⟨?_,hw.eP.same h⟩;rw[if_neg (by simpa using c5)];rfl
 ·refine bD ?_;refine ai ?_;refine aF ?_;refine aA (cO (k:=8) (vs:=c.r.cells) rf bU cW rfl rfl) rfl ?_;refine J5 ?_;refine bJ results35 (λ w hw=>?_);refine⟨?_,hw.eP.same h⟩;rw[if_pos (by simpa using c5)];rfl
end
end
end Go.Proofs.YthblobahelfefaaGreatDoor
namespace Go.Ct
open Go Go.RowKit
section
abbrev AS.R3(a:AS)(cs:List Int):AS:={a with cs:=cs,acc:=up a.acc}
theorem AS.Ok.R3{a:AS}(ok:a.Ok){x o n:Int}(hn:n<=a.mm.nodes.length):(a.R3 (gG a.cs x o n)).Ok:=⟨ok.fit,ok.mo.qG hn⟩
end
end Go.Ct
namespace Go.Proofs.YthblobahelfefaaGreatDoor
open Go.Proofs.Tryz
open Go Go.RowKit Go.Ct
section
section
variable{D:List Nat}{A B:Fr}{a:AS}{b bt n:Nat}{w:World}{c:Cd}{t:Tr}{f:FuncId}{cap:List Value}
theorem gf(h:X3 b t a.mm f cap B)(hns:Ns t a.mm)(ok:a.Ok)(hm:a.mm.gM)(hA:∀f∈cH a.L,f∈A)(hB:∀x∈B,x∈A)(hs:SF w D [(b,cX a),(a.u,a.po)] A [] (hU a) w) :
  Calls prog 94 #[.func (.func f) #[] ⟨cap⟩] w (kC b (λ c' s' B'=>dZ b t a.mm c' s' B') a B D w):=by
 obtain⟨hp,h⟩:=h;refine Mf func94 ntmps94 rfl rfl hs ?_;simp only[bY];refine K0s ?_;refine qQ (λ x2=>?_);refine K0r ?_;refine K0s ?_;refine kI ?_;refine fL (Mp rf rf (aEv _ _ _)) rfl ?_;refine fW ?_;refine Lq (λ c5=>?_) (λ c5=>?_);·exact nv c5
 ·revert c5;(skip);intro c5;refine E3 ?_;refine K0s ?_;refine kI ?_;refine rZ (cMf (V:=λ y:Cd×Fr×AS=>.agg ⟨y.1.cells⟩) (hs:=[(b,cX a),(a.u,a.po)]) (os:=hU a) (hs':=λ y=>[(b,cX y.2.2),(y.2.2.u,y.2.2.po)]) (os':=λ y=>hU y.2.2) (Fc:=λ y=>y.2.1) (A0:=A) (f:=f) (cap:=cap) (vs:=[]) (hp:=hp) (hc:=λ w1 hw=>h a.mm (Mm.Le.refl _) hns a _ A w1 rfl ok hm hA hB hw)) (λ x8 h8=>?_);refine Fm (cK λ _=>aE rf bU rf (aW _) cW rf dV) (λ _=>?_);refine fW ?_;refine Bl (Tu _) (by kernel_rfl) results94 (.cell rf bU cW .nil) (λ w hw=>?_);exact⟨x8,rfl,h8,hw.ret E0a (aT.bA λ f hf=>by simpa using hf) (List.Sublist.refl _)⟩
theorem Iv{x:Int}{k:Int->Tr}(hr:dZ b (.load x k) a.mm c a.mm B)(hns:Ns (k (aL a.cs x)) a.mm)(ok:a.Ok)(hm:a.mm.gM)(hA:∀f∈cH a.L,f∈A)(hB:∀x∈B,x∈A)(hs:SF w D [(b,cX a),(a.u,a.po)] A [] (hU a) w) :
  Calls prog 52 #[.iface 51 (.pointer (some ⟨b,0,none⟩)),.agg ⟨c.cells⟩] w (kC b (λ c' s' B'=>dZ b (k (aL a.cs x)) a.mm c' s' B') a B D w):=by
 obtain⟨_,hx,f,cap,rfl,hp,hk⟩:=hr;have hl:a.cs.length<=274877906944:=by have:=hm.2;show a.mm.cs.length<=_;omega
 have hv:aL a.cs x<=a.mm.nodes.length:=ok.mo.cell x;refine Mf func52 ntmps52 rfl rfl hs ?_;simp only[bY]
 refine K0s ?_;refine qj (λ x3=>?_);refine qQ (λ x4=>?_);refine K0r ?_;refine dB ?_;refine eI ?_;refine fL (cO (k:=4) (vs:=(lL x f cap).a.cells) rf bU cW rfl rfl) rfl ?_;refine qQ (λ x5=>?_);refine Rf (λ _=>?_);refine K2d ?_;refine jt ?_;refine fW ?_;refine Lq (λ c13=>?_) (λ c13=>?_)
 ·revert c13;(refine cv1 ?_);intro c13;refine K0s ?_;refine sH (λ _=>?_);refine fW ?_;refine eM ?_;refine K0s ?_;refine kI ?_;refine fL (Mu rf rf (uC _)) rfl ?_;refine fW ?_;refine Lq (λ c15=>?_) (λ c15=>?_)
  ·revert c15;(skip);intro c15;refine dB ?_;refine kI ?_;refine eI ?_;refine mV ?_;refine rZ (Jc (V:=λ _:Unit=>.int .i64 (aL a.cs x)) (os':=λ _=>iS (a.R3 a.cs)) (hs':=λ _=>[(b,cX (a.R3 a.cs))]) (Fc:=λ _=>[]) (A0:=A) (hm:=λ w=>qg _ _ w) (hc:=λ w hw=>xy hw x hx hl)) (λ x19 h19=>?_);refine sH (λ _=>?_);refine K2d ?_;refine fL (Mp rf rf (aEk _ _ _)) rfl ?_;refine fW ?_;refine Lq (λ c22=>?_) (λ c22=>?_);·exact nv c22
   ·revert c22;(skip);intro c22;refine E3 ?_;refine K0s ?_;refine eI ?_;refine mV ?_;refine kI ?_;refine rZ (cMf (V:=λ y:Cd×Fr×AS=>.agg ⟨y.1.cells⟩) (hs:=[(b,cX (a.R3 a.cs)),((a.R3 a.cs).u,(a.R3 a.cs).po)]) (os:=hU (a.R3 a.cs)) (hs':=λ y=>[(b,cX y.2.2),(y.2.2.u,y.2.2.po)]) (os':=λ y=>hU y.2.2) (Fc:=λ y=>y.2.1) (A0:=A) (f:=f) (cap:=cap) (vs:=[.int .i64 (aL a.cs x)]) (hp:=hp) (hc:=λ w1 hw=>hk (aL a.cs x) a.mm (Mm.Le.refl _) hv hns (a.R3 a.cs) _ A w1 rfl ⟨ok.fit,ok.mo⟩ hm hA hB hw)) (λ x27 h27=>?_);refine Fm (cK λ _=>aE rf bU rf (aW _) cW rf dV) (λ _=>?_);refine fW ?_;refine Bl (xQ _) (by kernel_rfl) results52 (.cell rf bU cW .nil) (λ w hw=>?_);exact⟨x27,rfl,⟨h27.1,h27.2.1,⟨h27.2.2.le,h27.2.2.fam⟩⟩,hw.ret E0a (aT.bA λ f hf=>by simpa using hf) (List.Sublist.refl _)⟩
  ·exact nv c15
 ·revert c13;(refine cv2 ?_);intro c13;exact(c13 rfl).elim
theorem Jl{x o n:Int}{k:Bool->Tr}(hr:dZ b (.qG x o n k) a.mm c a.mm B)(hns:Ns (k (Ic a.cs x o)) ⟨a.mm.nodes,gG a.cs x o n,a.gen,a.pv⟩)(ok:a.Ok)(hm:a.mm.gM)(hA:∀f∈cH a.L,f∈A)(hB:∀x∈B,x∈A)(hs:SF w D [(b,cX a),(a.u,a.po)] A [] (hU a) w) :
  Calls prog 52 #[.iface 51 (.pointer (some ⟨b,0,none⟩)),.agg ⟨c.cells⟩] w (kC b (λ c' s' B'=>dZ b (k (Ic a.cs x o)) ⟨a.mm.nodes,gG a.cs x o n,a.gen,a.pv⟩ c' s' B') a B D w):=by
 obtain⟨_,hx,hn,f,cap,rfl,hp,hk⟩:=hr;have hl:a.cs.length<=274877906944:=by have:=hm.2;show a.mm.cs.length<=_;omega
 have hle:a.mm.Le ⟨a.mm.nodes,gG a.cs x o n,a.gen,a.pv⟩:=⟨⟨⟨[],by simp⟩,by show a.cs.length<=(gG a.cs x o n).length;rw[gY];exact Nat.le_refl _⟩,rfl⟩;have hm2:Mm.gM ⟨a.mm.nodes,gG a.cs x o n,a.gen,a.pv⟩:=⟨hm.1,by show(gG a.cs x o n).length<=_;rw[gY];exact hm.2,hm.3⟩;refine Mf func52 ntmps52 rfl rfl hs ?_;simp only[bY]
 refine K0s ?_;refine qj (λ x3=>?_);refine qQ (λ x4=>?_);refine K0r ?_;refine dB ?_;refine eI ?_;refine fL (cO (k:=4) (vs:=(qS x o n f cap).a.cells) rf bU cW rfl rfl) rfl ?_;refine qQ (λ x5=>?_);refine Rf (λ _=>?_);refine K2d ?_;refine jt ?_;refine fW ?_;refine Lq (λ c13=>?_) (λ c13=>?_);·revert c13;(refine cv1 ?_);intro c13;exact absurd (show(2:Int)=1 from c13) (by decide)
 ·revert c13;(refine cv2 ?_);intro c13;refine E3 ?_;refine K0s ?_;refine kI ?_;refine fL (Mu rf rf (uC _)) rfl ?_;refine kI ?_;(refine uT ?_;refine kI ?_);((refine uT ?_;refine eI ?_));((refine uT ?_;refine mV ?_));((refine uT ?_;refine eI ?_));((refine uT ?_;refine mV ?_));((refine uT ?_;refine eI ?_));((refine uT ?_;refine mV ?_));((refine uT ?_;refine rZ (Jc (V:=Value.bool) (os':=λ _=>iS (a.R3 (gG a.cs x o n))) (hs':=λ _=>[(b,cX (a.R3 (gG a.cs x o n)))]) (Fc:=λ _=>[]) (A0:=A) (hm:=λ w=>xd _ _ _ _ w) (hc:=λ w hw=>aC4 hw x o n hx hl)) (λ x38 h38=>?_)));refine wx ?_;refine sH (λ _=>?_);refine K2d ?_;refine fL (Mp rf rf (aEl _ _ _)) rfl ?_;refine fW ?_;refine Lq (λ c42=>?_) (λ c42=>?_);·exact nv c42
  ·revert c42;(skip);intro c42;refine E3 ?_;refine K0s ?_;refine eI ?_;refine mV ?_;refine kI ?_;refine rZ (cMf (V:=λ y:Cd×Fr×AS=>.agg ⟨y.1.cells⟩) (hs:=[(b,cX (a.R3 (gG a.cs x o n))),((a.R3 (gG a.cs x o n)).u,(a.R3 (gG a.cs x o n)).po)]) (os:=hU (a.R3 (gG a.cs x o n))) (hs':=λ y=>[(b,cX y.2.2),(y.2.2.u,y.2.2.po)]) (os':=λ y=>hU y.2.2) (Fc:=λ y=>y.2.1) (A0:=A) (f:=f) (cap:=cap) (vs:=[.bool x38]) (hp:=hp) (hc:=λ w1 hw=>hk x38 _ hle ((V4 h38).symm▸hns) (a.R3 (gG a.cs x o n)) _ A w1 rfl (ok.R3 hn) hm2 hA hB hw)) (λ x47 h47=>?_);refine Fm (cK λ _=>aE rf bU rf (aW _) cW rf dV) (λ _=>?_);refine fW ?_;refine Bl (xQ _) (by kernel_rfl) results52 (.cell rf bU cW .nil) (λ w hw=>?_);exact⟨x47,rfl,⟨V4 h38▸h47.1,h47.2.1,⟨hle.le.trans h47.2.2.le,h47.2.2.fam⟩⟩,hw.ret E0a (aT.bA λ f hf=>by simpa using hf) (List.Sublist.refl _)⟩
def pF(b:Nat)(p:Tr×Mm)(a:AS)(B:Fr)(y:Cd×Fr×AS):Prop:=(dZ b p.1 y.2.2.mm y.1 y.2.2.mm (y.2.1++B)/\p.2.Up y.2.2.mm)/\y.2.2.Ok/\a.eC y.2.2 y.2.1
theorem pF.of{t0:Tr}{s0:Mm}{y:Cd×Fr×AS}(hn:Ns t0 s0)(h:dZ b t0 s0 y.1 y.2.2.mm (y.2.1++B)/\y.2.2.Ok/\a.eC y.2.2 y.2.1):pF b (Ct.iR t0 s0) a B y/\fB (Ct.iR t0 s0).1=true:=by obtain⟨h1,h2,h3⟩:=dZ.iR hn h.1;exact⟨⟨⟨h3,h1⟩,h.2⟩,h2⟩
theorem S7(hns:(mJ (t,a.mm)).1≠.stuck)(ha:fB t=true)(hlv:t.live=true)(hr:dZ b t a.mm c a.mm B)(ok:a.Ok)(hm:a.mm.gM)(hA:∀f∈cH a.L,f∈A)(hB:∀x∈B,x∈A)(hs:SF w D [(b,cX a),(a.u,a.po)] A [] (hU a) w) :
  Calls prog 52 #[.iface 51 (.pointer (some ⟨b,0,none⟩)),.agg ⟨c.cells⟩] w λ e w'=>∃y:Cd×Fr×AS,e=.returned (.agg ⟨y.1.cells⟩)/\(pF b (mJ (t,a.mm)) a B y/\fB (mJ (t,a.mm)).1=true)/\SF w D [(b,cX y.2.2),(y.2.2.u,y.2.2.po)] [] y.2.1 (hU y.2.2) w':=by
 cases t with
 | done r=>cases hlv
 | load x k=>exact(Iv hr hns ok hm hA hB hs).mono λ e w' ⟨y,he,h,hw⟩=>⟨y,he,pF.of hns h,hw⟩
 | qG x o n k=>exact(Jl hr hns ok hm hA hB hs).mono λ e w' ⟨y,he,h,hw⟩=>⟨y,he,pF.of hns h,hw⟩
 | alloc n i k=>cases ha
 | cell i k=>cases ha
 | gen k=>cases ha
 | node r k=>cases ha
 | stuck=>cases ha
theorem Lu(hns:(mJ (t,a.mm)).1≠.stuck)(ha:fB t=true)(hlv:t.live=true)(hr:dZ b t a.mm c a.mm B)(ok:a.Ok)(hm:a.mm.gM)(hn:n<1000000000)(hA:∀f∈cH a.L,f∈A)(hB:∀x∈B,x∈A)(hs:SF w D [(bt,tO b c n),(b,cX a),(a.u,a.po)] A [] (hU a) w) :
  Calls prog 32 #[.pointer (some ⟨bt,0,none⟩)] w λ e w'=>∃y:Cd×Fr×AS,e=.returned (.tuple #[])/\(pF b (mJ (t,a.mm)) a B y/\fB (mJ (t,a.mm)).1=true)/\SF w D [(bt,tO b y.1 (n+1)),(b,cX y.2.2),(y.2.2.u,y.2.2.po)] [] y.2.1 (hU y.2.2) w':=by
 have hk:c.a.k≠0:=λ e=>by have:=(hr.kind ha).1.1 e;rw[hlv] at this;cases this
 refine enter func32 ntmps32 rfl rfl hs ?_;simp only[bY];refine jF ?_;refine aK (cV (hc:=λ w1 hw=>uH (hw.st.at bU))) (λ x3=>?_);refine aD ?_;(refine kT 4 (λ g4=>?_) (λ g4=>?_)<;>(try (exfalso;omega))<;>((refine Ka4 ?_)));((refine aG ?_;refine cA ?_));refine J6 ?_;refine Kc2 ?_;refine aX (λ c9=>?_) (λ c9=>?_);·exact nv c9
 ·try (exfalso;omega)
  refine bD ?_;refine J13 ?_;refine Tk ?_;refine zG ?_;refine sZ ?_;refine O9 ?_;refine aU ?_;refine gL [0,1,2,3,4,5,6,7,8,9,10,11,12] ?_;refine Th ?_;refine J9 ?_;refine bI (i:=8) (hq:=(cO (k:=14) (vs:=c.cells) rf bU cW rfl rfl)) (h:=?_);refine bS (i:=9) (hq:=(cM (V:=λ y:Cd×Fr×AS=>.agg ⟨y.1.cells⟩) (Fc:=λ y=>y.2.1) (hs:=[(b,cX a),(a.u,a.po)]) (os:=hU a) (A0:=A) (hs':=λ y=>[(b,cX y.2.2),(y.2.2.u,y.2.2.po)]) (os':=λ y=>hU y.2.2) (hc:=λ w hw=>S7 hns ha hlv hr ok hm hA hB hw))) (h:=λ x29 h29=>?_);refine J4 ?_;refine fC (i:=12) (hq:=(cK λ _=>nG (off:=1) (vs:=x29.1.cells) (cs:=tkC b x29.1 (n+1) true) rf bU rf (aW _) cW (Nat.le_of_ble_eq_true rfl) rf dV)) (h:=λ _=>?_);refine dY ?_;refine Js ?_;refine O9 ?_;refine Qd results32 (λ w hw=>?_);exact⟨x29,rfl,h29,hw.ret (List.Sublist.refl _) (aT.bA λ f hf=>by simpa using hf) (List.Sublist.refl _)⟩
theorem oe(hns:Ns t a.mm)(h:X3 b t a.mm f cap B)(ok:a.Ok)(hm:a.mm.gM)(hA:∀f∈cH a.L,f∈A)(hB:∀x∈B,x∈A)(hs:SF w D [(b,cX a),(a.u,a.po)] A [] (hU a) w) :
  Calls prog 67 #[.iface 51 (.pointer (some ⟨b,0,none⟩)),.func (.func f) #[] ⟨cap⟩] w λ e w'=>∃x:Nat×Cd×Fr×AS,e=.returned (.pointer (some ⟨x.1,0,none⟩))/\(pF b (Ct.iR t a.mm) a B x.2/\fB (Ct.iR t a.mm).1=true)/\SF w D [(x.1,tO b x.2.1 0),(b,cX x.2.2.2),(x.2.2.2.u,x.2.2.2.po)] [] x.2.2.1 (hU x.2.2.2) w':=by refine enter func67 ntmps67 rfl rfl hs ?_;simp only[bY];refine Kc1 ?_;refine bX ?_;refine bC (λ x8=>?_);refine P2 ?_;refine aJ (cM (V:=λ y:Cd×Fr×AS=>.agg ⟨y.1.cells⟩) (Fc:=λ y=>y.2.1) (hs:=[(b,cX a),(a.u,a.po)]) (os:=hU a) (A0:=A) (hs':=λ y=>[(b,cX y.2.2),(y.2.2.u,y.2.2.po)]) (os':=λ y=>hU y.2.2) (hc:=λ w1 hw=>gf h hns ok hm hA hB hw)) (λ x11 h11=>?_);refine Yn ?_;refine aM (cK λ _=>nG (off:=1) (vs:=x11.1.cells) (cs:=tkC b x11.1 0 false) rf bU rf (aW _) cW (Nat.le_of_ble_eq_true rfl) rf dV) (λ _=>?_);refine aC ?_;refine Kc4 ?_;refine aP results67 (λ w hw=>?_);exact⟨(x8,x11),rfl,pF.of hns h11,hw.ret (List.Sublist.refl _) (aT.bA λ f hf=>by simpa using hf) (List.Sublist.refl _)⟩
end
end
end Go.Proofs.YthblobahelfefaaGreatDoor
namespace Go.Ct
open Go Go.RowKit
section
abbrev bx(b:Nat)(cs:List Value):Option Addr×List Value:=(some ⟨b,0,none⟩,cs)
abbrev pt(b:Nat):Value:=.pointer (some ⟨b,0,none⟩)
abbrev fn(f:FuncId)(cap:xK):Value:=.func (.func f) ⟨cap.bd⟩ ⟨cap.cp⟩
abbrev iv(n:Int):Value:=.int .i64 n
theorem Z1{α:Type}{l l' xs:List α}{is:List Nat}(h:mT l is xs l':=by(repeat (first|exact mT.nil|(apply mT.cons;(focus ((repeat (first|exact By.head|apply By.tail));done));simp only[qK])));first|done|fail):mT l is xs l':=h
theorem aj{S:List (Nat×Value)}{xs:List Operand}{vs:List Value}(h:lX S xs=vs:=by(repeat (first|exact bK _|(apply aZ;focus ((conv=>{lhs;whnf});try exact rfl))));first|done|fail):lX S xs=vs:=h
section
variable{w0 w:World}{M:List Nat}{H H':List (Nat×Obj)}{A F:Fr}{O O':List Ow}
theorem SF.rI(h:SF w0 M H A F O w)(hH:H'.Sublist H:=by repeat (first|exact List.Sublist.refl _|apply List.Sublist.cons))(hO:O'.Sublist O:=by repeat (first|exact List.Sublist.refl _|apply List.Sublist.cons)):SF w0 M H' [] F O' w:=h.ret hH aT.all hO
theorem SF.rN(h:SF w0 M H A (F++[]) O w)(hH:H'.Sublist H:=by repeat (first|exact List.Sublist.refl _|apply List.Sublist.cons))(hO:O'.Sublist O:=by repeat (first|exact List.Sublist.refl _|apply List.Sublist.cons)):SF w0 M H' [] F O' w:=h.ret hH (aT.bA λ f hf=>by simpa using hf) hO
variable{P:Program}{S:List (Nat×Value)}{d:Nat}{ty t:TypeId}{pos:String}{af:Array Edge}{gd:Option (Nat×Bool)}{x:Operand}{v:Value}{vs:List Value}{B:Fr}
theorem iA(b:Nat)(cs:List Value)(q:Nat)(hB:∀x∈B,x∈A)(hq:cs[q]?=some v)(hx:ev S x=.pointer (some ⟨b,q,none⟩):=by exact rfl)(ht:one P t=true:=by first|exact Oo rfl|kernel_rfl)(hm:bx b cs∈B:=by simp):aH P S (SF w0 M H A F O) ⟨some d,.load t x,ty,pos,af,gd⟩ v :=eY (a:=some ⟨b,0,none⟩) (q:=q) (hx.trans (by simp[cI,dH])) ht (.old (lQ.dS (hB _ hm))) hq
theorem Hq(b:Nat)(cs:List Value)(q k:Nat)(hB:∀x∈B,x∈A)(hv:(cs.drop q).take k=vs)(hl:vs.length=k)(hx:ev S x=.pointer (some ⟨b,q,none⟩):=by exact rfl)(ht:gX P t k=true:=by exact cW)(hm:bx b cs∈B:=by simp):aH P S (SF w0 M H A F O) ⟨some d,.load t x,ty,pos,af,gd⟩ (.agg ⟨vs⟩) :=Pj (a:=some ⟨b,0,none⟩) (q:=q) (hx.trans (by simp[cI,dH])) ht (.old (lQ.dS (hB _ hm))) hv hl
end
end
end Go.Ct
namespace Go.Proofs.YthblobahelfefaaGreatDoor
open Go.Proofs.Tryz (prog)
open Go Go.RowKit Go.Ct
section
abbrev jK(b:Nat)(f:FuncId)(cap:xK)(arg:List Value)(B:Fr)(s:Mm)(T:Tr):Prop:=B9 b f cap arg B s λ c' s' B'=>dZ b T s c' s' B'
theorem B9.mr{b:Nat}{f:FuncId}{cap:xK}{arg:List Value}{B B2:Fr}{s:Mm}{T:Tr}(h:jK b f cap arg B s T)(hb:∀x∈B,x∈B2):jK b f cap arg B2 s T:=h.more hb λ _ _ _ _ hC h=>h.more hC
section
variable{S:List (Nat×Value)}{w0 w:World}{M:List Nat}{H H':List (Nat×Obj)}{A A0 F B:Fr}{O O':List Ow}{ty:TypeId}{pos:String}{af:Array Edge}{gd:Option (Nat×Bool)}{b:Nat}{a:AS}{R:Cd->Mm->Fr->Prop}{is js:List Nat}{f:FuncId}{xs:List Operand}{at_:Array TypeId}{vs:List Value}{cap:xK}{dst:Option Nat}{x:Operand}{H1:Cd×Fr×AS->List (Nat×Obj)}{F1:Cd×Fr×AS->Fr}{O1:Cd×Fr×AS->List Ow}
theorem jN(hc:∀w,SF w (Ks [(b,cX a),(a.u,a.po)] (hU a)) [(b,cX a),(a.u,a.po)] A0 [] (hU a) w->Calls prog f ⟨vs⟩ w (kC b R a B (Ks [(b,cX a),(a.u,a.po)] (hU a)) w))
  (ha:lX S xs=vs:=by exact aj) (hp:plain prog f=true:=by kernel_rfl) (hH:mT H is [(b,cX a),(a.u,a.po)] H':=by exact Z1) (hO:mT O js (hU a) O':=by exact Z1) (hA:bL A F O' A0:=by exact bL.of (λ _ h=>Or.inr (Or.inl h)))
  (hl1:is.length=2:=by exact rfl) (hl2:js.length=3:=by exact rfl)
  (hH1:∀y,jP is [(b,cX y.2.2),(y.2.2.u,y.2.2.po)] H'=H1 y:=by intro x;simp only[jP,sL];exact rfl) (hF1:∀y,y.2.1++F=F1 y:=by intro x;exact rfl) (hO1:∀y,jP js (hU y.2.2) O'=O1 y:=by intro x;simp only[jP,sL,mW];exact rfl) :
  aQ prog S (SF w0 M H A F O) ⟨dst,.call {callee:=.value (.func f),args:=⟨xs⟩,argTypes:=at_},ty,pos,af,gd⟩ (Cd×Fr×AS) (λ y=>.agg ⟨y.1.cells⟩) (λ y w=>(R y.1 y.2.2.mm (y.2.1++B)/\y.2.2.Ok/\a.eC y.2.2 y.2.1)/\SF w0 M (H1 y) A (F1 y) (O1 y) w) :=
 cM (hs:=[(b,cX a),(a.u,a.po)]) (os:=hU a) (hs':=λ y:Cd×Fr×AS=>[(b,cX y.2.2),(y.2.2.u,y.2.2.po)]) (os':=λ y=>hU y.2.2) (Fc:=λ y=>y.2.1) ha hp hc hH hO hA (λ _=>hl1) (λ _=>hl2) hH1 hF1 hO1
theorem Ik(hp:plain prog f=true)(hk:B9 b f cap vs B a.mm R)(ok:a.Ok)(hm:a.mm.gM)(hA0:∀f∈cH a.L,f∈A)(hB:∀x∈B,x∈A)(hx:ev S x=.func (.func f) ⟨cap.bd⟩ ⟨cap.cp⟩:=by exact rfl)
  (ha:lX S xs=vs:=by exact aj) (hH:mT H is [(b,cX a),(a.u,a.po)] H':=by exact Z1) (hO:mT O js (hU a) O':=by exact Z1)
  (hl1:is.length=2:=by exact rfl) (hl2:js.length=3:=by exact rfl)
  (hH1:∀y,jP is [(b,cX y.2.2),(y.2.2.u,y.2.2.po)] H'=H1 y:=by intro x;simp only[jP,sL];exact rfl) (hF1:∀y,y.2.1++F=F1 y:=by intro x;exact rfl) (hO1:∀y,jP js (hU y.2.2) O'=O1 y:=by intro x;simp only[jP,sL,mW];exact rfl) :
  aQ prog S (SF w0 M H A F O) ⟨dst,.call {callee:=.value x,args:=⟨xs⟩,argTypes:=at_},ty,pos,af,gd⟩ (Cd×Fr×AS) (λ y=>.agg ⟨y.1.cells⟩) (λ y w=>(R y.1 y.2.2.mm (y.2.1++B)/\y.2.2.Ok/\a.eC y.2.2 y.2.1)/\SF w0 M (H1 y) A (F1 y) (O1 y) w) :=
 cMf (V:=λ y:Cd×Fr×AS=>.agg ⟨y.1.cells⟩) (hs:=[(b,cX a),(a.u,a.po)]) (os:=hU a) (hs':=λ y:Cd×Fr×AS=>[(b,cX y.2.2),(y.2.2.u,y.2.2.po)]) (os':=λ y=>hU y.2.2) (Fc:=λ y=>y.2.1) (A0:=A) hx ha hp (λ w hw=>hk a _ A w rfl ok hm hA0 hB hw) hH hO (bL.of λ _ h=>.inr (.inl h)) (λ _=>hl1) (λ _=>hl2) hH1 hF1 hO1
end
end
end Go.Proofs.YthblobahelfefaaGreatDoor
namespace Go.Ct
open Go Go.RowKit
section
theorem SF.aDp{w0 w:World}{M:List Nat}{H:List (Nat×Obj)}{A A' F:Fr}{O:List Ow}(h:SF w0 M H A F O w)(hA:∀f∈A',f∈A):SF w0 M H A' F O w:=⟨h.st,λ f hf=>h.old f (hA f hf),h.new,h.own,h.dis⟩
abbrev AS.al(a:AS)(n:Nd)(xs:List Int)(ys:List Pr)(init:Int)(x:AX):AS:=⟨a.L++[kP n xs ys a.cs.length x],gJ n.kind a.cs init,a.gen,a.acc,x.pn,x.cn,x.pc,x.cc,a.u,a.po,a.pl⟩
variable{a:AS}{v:Nv}{i init:Int}{n:Nd}{xs:List Int}{ys:List Pr}{A B B1 F:Fr}{O:List Ow}
theorem dD(r:Int):aB a.mm.nodes r=(aV (bM a.L) r).c:=(Wu _ _).symm
theorem Ob(a:AS):a.mm.nodes.length=a.L.length+2:=by show((bM a.L).map dJ.c).length=_;rw[List.length_map,mY]
theorem yz{c c':Nat}{cs:List Int}(hb:rH c' c {v with main:=0,prev:=0,status:=0})(hc:c=cs.length):rH c' (gJ v.kind cs i).length (mM v c):=by
 subst hc;have hcs:=jZ (k:=v.kind) (cs:=cs) (init:=i);have hb':=hb.mono (n':=c') (c':=(gJ v.kind cs i).length) (Nat.le_refl _) hcs.1;refine⟨hb'.old,hb'.exp,hb'.new,hb'.br,?_,?_,?_,hb'.bm,hb'.hash⟩
 ·show(if v.kind=2 then((cs.length+1:Nat):Int) else 0)<=_;split;·rename_i hk;unfold gJ;rw[if_pos (.inl hk)];simp
  ·omega
 ·show(if v.kind=3∨v.kind=5∨v.kind=6 then((cs.length+1:Nat):Int) else 0)<=_;split;·rename_i hk;unfold gJ;rw[if_pos (by omega)];simp
  ·omega
 ·show(if v.kind=8 then((cs.length+1:Nat):Int) else 0)<=_;split;·rename_i hk;unfold gJ;rw[if_pos (by omega)];simp
  ·omega
theorem To.aBj{s:Mm}(h:To s)(hb:rH (s.nodes.length+1) s.cs.length {v with main:=0,prev:=0,status:=0})(hi:i<=s.nodes.length+1):To (s.push v i):=by
 have hcs:=jZ (k:=v.kind) (cs:=s.cs) (init:=i);have hl:(s.nodes++[mM v s.cs.length]).length=s.nodes.length+1:=by simp
 refine⟨λ u hu=>?_,λ u hu=>?_,by have:=h.two;show 2<=(s.nodes++[mM v s.cs.length]).length;omega⟩
 ·show rH (s.nodes++[mM v s.cs.length]).length (gJ v.kind s.cs i).length u;rcases List.mem_append.1 hu with hu|hu;·exact(h.nd u hu).mono (by omega) hcs.1
  ·rw[List.mem_singleton.1 hu];exact yz (by rw[hl];exact hb) rfl
 ·show u<=((s.nodes++[mM v s.cs.length]).length:Int);have hu':u∈gJ v.kind s.cs i:=hu;unfold gJ at hu';split at hu'
  ·rcases List.mem_append.1 hu' with h2|h2;·have:=h.cs u h2;omega
   ·rw[List.mem_singleton.1 h2];omega
  ·have:=h.cs u hu';omega
theorem eU(a:AS)(n:Nd)(xs:List Int)(ys:List Pr)(init:Int)(x:AX):(a.al n xs ys init x).mm=a.mm.push (n.c xs ys) init:=by unfold AS.mm Mm.push;simp only[bM,List.map_cons,List.map_append,List.map_nil,List.cons_append];rfl
theorem AS.Ok.al1(ok:a.Ok)(x:AX)(hx:xs.length<=274877906944)(hy:ys.length<=274877906944)(hb:rH (a.mm.nodes.length+1) a.mm.cs.length {n.c xs ys with main:=0,prev:=0,status:=0})(hi:init<=a.mm.nodes.length+1):(a.al n xs ys init x).Ok:=by
 refine⟨λ v hv=>?_,by rw[eU];exact ok.mo.aBj hb hi⟩;rcases List.mem_append.1 hv with hv|hv;·exact ok.fit v hv
 ·rw[List.mem_singleton.1 hv];exact T0 (by omega) (by omega)
theorem AS.Ok.al{a:AS}(ok:a.Ok){n:Nd}{xs:List Int}{ys:List Pr}{init:Int}(x:AX)(hx:xs.length<=274877906944)(hy:ys.length<=274877906944)(hb:rH a.mm.nodes.length a.mm.cs.length {n.c xs ys with main:=0,prev:=0,status:=0})(hi:init<=a.mm.nodes.length+1):(a.al n xs ys init x).Ok:=ok.al1 x hx hy (hb.mono (Nat.le_succ _) (Nat.le_refl _)) hi
theorem My(s:Mm)(v:Nv)(i:Int):s.Le (s.push v i):=⟨⟨⟨_,rfl⟩,jZ.1⟩,rfl⟩
theorem AS.eC.al(a:AS)(n:Nd)(xs:List Int)(ys:List Pr)(init:Int)(x:AX):a.eC (a.al n xs ys init x) (kP n xs ys a.cs.length x).fr:=⟨by rw[eU];exact(My _ _ _).le,λ f hf=>by
 rw[pW] at hf;rcases List.mem_append.1 hf with h|h;·exact .inr (.inl h)
 ·refine .inr (.inr ?_);simpa[cH] using h⟩
theorem rW(h:∀f∈B,f∈A):∀f∈B1++B,f∈B1++A:=λ f hf=>(List.mem_append.1 hf).elim (λ h=>List.mem_append_left _ h) λ hf=>List.mem_append_right _ (h f hf)
theorem bL.Iu:bL A B1 O (B1++A):=bL.of λ f hf=>(List.mem_append.1 hf).elim (λ h=>.inr (.inr (.inl h))) λ h=>.inr (.inl h)
theorem bL.Mv{x:Option Addr×List Value}:bL A (x::F) O (x::A):=bL.of λ f hf=>by
 rcases List.mem_cons.1 hf with h|hf;·exact .inr (.inr (.inl (by rw[h];simp)))
 ·exact .inr (.inl hf)
theorem yR{x:Option Addr×List Value}(h:∀f∈B,f∈A):∀f∈x::B,f∈x::A:=λ f hf=>(List.mem_cons.1 hf).elim (λ h=>h▸List.mem_cons_self ..) λ hf=>List.mem_cons_of_mem _ (h f hf)
theorem bL.m6{x y:Option Addr×List Value}:bL A (x::y::F) O (x::y::A):=bL.of λ f hf=>by
 rcases List.mem_cons.1 hf with h|hf;·exact .inr (.inr (.inl (by rw[h];simp)))
 ·rcases List.mem_cons.1 hf with h|hf;·exact .inr (.inr (.inl (by rw[h];simp)))
  ·exact .inr (.inl hf)
theorem Ia{x y:Option Addr×List Value}(h:∀f∈B,f∈A):∀f∈x::y::B,f∈x::y::A:=λ f hf=>(List.mem_cons.1 hf).elim (λ h=>h▸List.mem_cons_self ..) λ hf=>(List.mem_cons.1 hf).elim (λ h=>h▸List.mem_cons_of_mem _ (List.mem_cons_self ..)) λ hf=>List.mem_cons_of_mem _ (List.mem_cons_of_mem _ (h f hf))
theorem qN{P:Program}{S:List (Nat×Value)}{d:Nat}{ty t:TypeId}{pos:String}{af:Array Edge}{gd:Option (Nat×Bool)}{w0:World}{M:List Nat}{H:List (Nat×Obj)}{z:Value}(hz:bR P t=some z)(h1:z.oneCell'=true):aQ P S (St w0 M H) ⟨some d,.alloc t,ty,pos,af,gd⟩ Nat (λ b=>.pointer (some ⟨b,0,none⟩)) (λ b=>St w0 M ((b,.cells ⟨[z]⟩ t (0,0))::H)) :=
 Wx (λ w _=>by
  have e:z.cells = #[z]:=by cases z<;>simp_all[Value.cells,Value.oneCell']
  simp[execOp,Instr.alloc,Ad hz,newVar,newRow,e])
end
end Go.Ct
namespace Go.Proofs.YthblobahelfefaaGreatDoor
open Go Go.RowKit Go.Ct
section
section
variable{D:List Nat}{A:Fr}{a:AS}{b:Nat}{w:World}
theorem wm(ok:a.Ok)(hm:a.mm.Small)(hA:∀f∈cH a.L,f∈A)(r:Int)(hr:r<=a.mm.nodes.length)(hs:SF w D [(b,cX a)] A [] (iS a) w) :
  Calls Tryz.prog 338 #[.pointer (some ⟨b,0,none⟩),.int .i64 r] w λ e w'=>∃q:Option Addr×Option Addr,e=.returned (.agg ⟨((aV (bM a.L) r).at_ q.1 q.2).nd.cells⟩)/\True /\
  SF w D [(b,cX a)] [] [] (iS a++[⟨q.2,cY (aV (bM a.L) r).ys,(aV (bM a.L) r).ys.length,162,2⟩,⟨q.1,aN (aV (bM a.L) r).xs,(aV (bM a.L) r).xs.length,69,1⟩]) w':=by have h1:=hm.1;have h2:=Ob a;exact Nl (hs.aDp hA) ok.fit r (by omega) (by omega)
theorem uZ{S:List (Nat×Value)}{w0:World}{M:List Nat}{H H':List (Nat×Obj)}{F:Fr}{O O':List Ow}{ty:TypeId}{pos:String}{af:Array Edge}{gd:Option (Nat×Bool)}{is js:List Nat}{recv:Operand}{xs:List Operand}{at_:Array TypeId}{dst:Option Nat}{H1:Option Addr×Option Addr->List (Nat×Obj)}{F1:Option Addr×Option Addr->Fr}{O1:Option Addr×Option Addr->List Ow}
  (r:Int) (ok:a.Ok) (hm:a.mm.Small) (hA:∀f∈cH a.L,f∈A) (hr:r<=a.mm.nodes.length) (hx:ev S recv=.iface 51 (.pointer (some ⟨b,0,none⟩)):=by exact rfl) (ha:lX S xs=[.int .i64 r]:=by exact aj) (hH:mT H is [(b,cX a)] H':=by exact Z1) (hO:mT O js (iS a) O':=by exact Z1)
  (hl1:is.length=1:=by exact rfl) (hl2:js.length=2:=by exact rfl) (hH1:∀x,jP is [(b,cX a)] H'=H1 x:=by intro x;simp only[jP,sL];exact rfl) (hF1:∀x,[]++F=F1 x:=by intro x;exact rfl)
  (hO1:∀x,[⟨x.2,cY (aV (bM a.L) r).ys,(aV (bM a.L) r).ys.length,162,2⟩,⟨x.1,aN (aV (bM a.L) r).xs,(aV (bM a.L) r).xs.length,69,1⟩]++jP js (iS a) O'=O1 x:=by intro x;simp only[jP,sL,mW,List.nil_append,List.cons_append];exact rfl) :
  aQ Tryz.prog S (SF w0 M H A F O) ⟨dst,.call {callee:=.invoke recv "Node",args:=⟨xs⟩,argTypes:=at_},ty,pos,af,gd⟩ (Option Addr×Option Addr) (λ q=>.agg ⟨((aV (bM a.L) r).at_ q.1 q.2).nd.cells⟩) (λ x w=>True/\SF w0 M (H1 x) A (F1 x) (O1 x) w) :=
 aCE (hs:=[(b,cX a)]) (os:=iS a) (A0:=A) (hs':=λ _=>[(b,cX a)]) (os':=λ _=>iS a) (Fc:=λ _=>[]) (Oc:=λ q=>[⟨q.2,cY (aV (bM a.L) r).ys,(aV (bM a.L) r).ys.length,162,2⟩,⟨q.1,aN (aV (bM a.L) r).xs,(aV (bM a.L) r).xs.length,69,1⟩]) hx ha (λ w=>Ib _ _ w) (λ w1 hw=>wm ok hm hA r hr hw) hH hO (bL.of λ _ h=>.inr (.inl h)) (λ _=>hl1) (λ _=>hl2) hH1 hF1 hO1
theorem rq(ok:a.Ok)(hm:a.mm.nodes.length<=274877906944)(r:Int)(hr:r<=9223372036854775807)(hs:SF w D [(b,cX a)] (cH a.L) [] (iS a) w) :
  Calls Tryz.prog 338 #[.pointer (some ⟨b,0,none⟩),.int .i64 r] w λ e w'=>∃q:Option Addr×Option Addr,e=.returned (.agg ⟨((aV (bM a.L) r).at_ q.1 q.2).nd.cells⟩)/\True /\
  SF w D [(b,cX a)] [] [] (iS a++[⟨q.2,cY (aV (bM a.L) r).ys,(aV (bM a.L) r).ys.length,162,2⟩,⟨q.1,aN (aV (bM a.L) r).xs,(aV (bM a.L) r).xs.length,69,1⟩]) w':=by have h2:=Ob a;exact Nl hs ok.fit r hr (by omega)
theorem kY(ok:a.Ok)(hm:a.mm.Small){n:Nd}{xs:List Int}{ys:List Pr}(init:Int)(e1:n.brN=xs.length)(e2:n.prN=ys.length)(hx:xs.length<=274877906944)(hy:ys.length<=274877906944)(hA:∀f∈[(n.brA,aN xs),(n.prA,cY ys)],f∈A)(hs:SF w D [(b,cX a)] A [] (iS a) w) :
  Calls Tryz.prog 333 #[.pointer (some ⟨b,0,none⟩),n.v,.int .i64 init] w λ e w'=>∃x:AX,e=.returned (.int .i64 ((a.mm.nodes.length+1:Nat):Int))/\True/\SF w D [(b,cX (a.al n xs ys init x))] [] (kP n xs ys a.cs.length x).fr (iS (a.al n xs ys init x)) w':=by have h1:=hm.1;have h3:a.cs.length<=137438953472:=hm.2;have h2:=Ob a;rw[show a.mm.nodes.length+1=a.L.length+3 by omega];exact Bt init (hs.aDp hA) e1 e2 hx hy (by omega) (by omega)
end
end
end Go.Proofs.YthblobahelfefaaGreatDoor

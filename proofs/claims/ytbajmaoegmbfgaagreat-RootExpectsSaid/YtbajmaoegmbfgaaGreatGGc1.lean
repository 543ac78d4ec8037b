/- Procedures of the program as codes: calls of the arena through the interface. -/
import Derived.Test.YtbajmaoegmbfgaaGreatGTt2
import Derived.Test.YtbajmaoegmbfgaaGreatGNode2

set_option linter.unusedSimpArgs false
set_option linter.unusedVariables false
namespace Go.Ct
section
open Go Go.RowKit
theorem SF.aBw{w0 w:World}{M:List Nat}{H:List (Nat×Obj)}{A A' F:Fr}{O:List Ow}(h:SF w0 M H A F O w)(hA:∀f∈A',f∈A):SF w0 M H A' F O w:=⟨h.st,λ f hf=>h.aZ f (hA f hf),h.new,h.own,h.dis⟩
abbrev AS.al(a:AS)(n:Nd)(xs:List Int)(ys:List Pr)(init:Int)(x:AX):AS:=⟨a.L++[lM n xs ys a.cs.length x],eQ n.kind a.cs init,a.gen,a.acc,x.pn,x.cn,x.pc,x.cc⟩
theorem kL{a:AS}(r:Int):bF a.mm.nodes r=(aC (dJ a.L) r).c:=(D4 _ _).symm
theorem Qi(a:AS):a.mm.nodes.length=a.L.length+2:=by show((dJ a.L).map aU.c).length=_;rw[List.length_map,nN]
theorem m8{c c':Nat}{v:Nv}{i:Int}{cs:List Int}(hb:lJ c' c {v with main:=0,prev:=0,status:=0})(hc:c=cs.length):lJ c' (eQ v.kind cs i).length (cW v c):=by
 subst hc
 have hcs:=jO (k:=v.kind) (cs:=cs) (init:=i)
 have hb':=hb.mono (n':=c') (c':=(eQ v.kind cs i).length) (Nat.le_refl _) hcs.1
 refine⟨hb'.aZ,hb'.exp,hb'.new,hb'.br,?_,?_,?_,hb'.bm,hb'.hash⟩
 ·show(if v.kind=2 then((cs.length+1:Nat):Int) else 0)<=_
  split
  ·rename_i hk;unfold eQ;rw[if_pos (.inl hk)];simp
  ·omega
 ·show(if v.kind=3∨v.kind=5∨v.kind=6 then((cs.length+1:Nat):Int) else 0)<=_
  split
  ·rename_i hk;unfold eQ;rw[if_pos (by omega)];simp
  ·omega
 ·show(if v.kind=8 then((cs.length+1:Nat):Int) else 0)<=_
  split
  ·rename_i hk;unfold eQ;rw[if_pos (by omega)];simp
  ·omega
theorem Xy.aAs{s:Mm}(h:Xy s){v:Nv}{i:Int}(hb:lJ (s.nodes.length+1) s.cs.length {v with main:=0,prev:=0,status:=0})(hi:i<=s.nodes.length+1):Xy (s.push v i):=by
 have hcs:=jO (k:=v.kind) (cs:=s.cs) (init:=i)
 have hl:(s.nodes++[cW v s.cs.length]).length=s.nodes.length+1:=by simp
 refine⟨λ u hu=>?_,λ u hu=>?_,by have:=h.two;show 2<=(s.nodes++[cW v s.cs.length]).length;omega⟩
 ·show lJ (s.nodes++[cW v s.cs.length]).length (eQ v.kind s.cs i).length u
  rcases List.mem_append.1 hu with hu|hu
  ·exact(h.nd u hu).mono (by omega) hcs.1
  ·rw[List.mem_singleton.1 hu]
   exact m8 (by rw[hl];exact hb) rfl
 ·show u<=((s.nodes++[cW v s.cs.length]).length:Int)
  have hu':u∈eQ v.kind s.cs i:=hu
  unfold eQ at hu'
  split at hu'
  ·rcases List.mem_append.1 hu' with h2|h2
   ·have:=h.cs u h2;omega
   ·rw[List.mem_singleton.1 h2];omega
  ·have:=h.cs u hu';omega
theorem mA(a:AS)(n:Nd)(xs:List Int)(ys:List Pr)(init:Int)(x:AX):(a.al n xs ys init x).mm=a.mm.push (n.c xs ys) init:=by
 unfold AS.mm Mm.push
 simp only[dJ,List.map_cons,List.map_append,List.map_nil,List.cons_append]
 rfl
theorem AS.Ok.al1{a:AS}(ok:a.Ok){n:Nd}{xs:List Int}{ys:List Pr}{init:Int}(x:AX)(hx:xs.length<=274877906944)(hy:ys.length<=274877906944)(hb:lJ (a.mm.nodes.length+1) a.mm.cs.length {n.c xs ys with main:=0,prev:=0,status:=0})(hi:init<=a.mm.nodes.length+1):(a.al n xs ys init x).Ok:=by
 refine⟨λ v hv=>?_,by rw[mA];exact ok.mo.aAs hb hi⟩
 rcases List.mem_append.1 hv with hv|hv
 ·exact ok.fit v hv
 ·rw[List.mem_singleton.1 hv];exact Ky (by omega) (by omega)
theorem AS.Ok.al{a:AS}(ok:a.Ok){n:Nd}{xs:List Int}{ys:List Pr}{init:Int}(x:AX)(hx:xs.length<=274877906944)(hy:ys.length<=274877906944)(hb:lJ a.mm.nodes.length a.mm.cs.length {n.c xs ys with main:=0,prev:=0,status:=0})(hi:init<=a.mm.nodes.length+1):(a.al n xs ys init x).Ok:=ok.al1 x hx hy (hb.mono (Nat.le_succ _) (Nat.le_refl _)) hi
theorem Mf(s:Mm)(v:Nv)(i:Int):s.Le (s.push v i):=⟨⟨_,rfl⟩,jO.1⟩
theorem AS.iF.al(a:AS)(n:Nd)(xs:List Int)(ys:List Pr)(init:Int)(x:AX):a.iF (a.al n xs ys init x) (lM n xs ys a.cs.length x).fr:=⟨by rw[mA];exact Mf _ _ _,λ f hf=>by
 rw[dE] at hf
 rcases List.mem_append.1 hf with h|h
 ·exact .inr (.inl h)
 ·refine .inr (.inr ?_)
  simpa[aL] using h⟩
theorem Q4{A B B1:Fr}(h:∀f∈B,f∈A):∀f∈B1++B,f∈B1++A:=λ f hf=>(List.mem_append.1 hf).elim (λ h=>List.mem_append_left _ h) λ hf=>List.mem_append_right _ (h f hf)
theorem bJ.xv{A B1:Fr}{O:List Ow}:bJ A B1 O (B1++A):=bJ.of λ f hf=>(List.mem_append.1 hf).elim (λ h=>.inr (.inr (.inl h))) λ h=>.inr (.inl h)
theorem bJ.vl{A F:Fr}{O:List Ow}{x:Option Addr×List Value}:bJ A (x::F) O (x::A):=bJ.of λ f hf=>by
 rcases List.mem_cons.1 hf with h|hf
 ·exact .inr (.inr (.inl (by rw[h];simp)))
 ·exact .inr (.inl hf)
theorem So{A B:Fr}{x:Option Addr×List Value}(h:∀f∈B,f∈A):∀f∈x::B,f∈x::A:=λ f hf=>(List.mem_cons.1 hf).elim (λ h=>h▸List.mem_cons_self ..) λ hf=>List.mem_cons_of_mem _ (h f hf)
theorem bJ.Z9{A F:Fr}{O:List Ow}{x y:Option Addr×List Value}:bJ A (x::y::F) O (x::y::A):=bJ.of λ f hf=>by
 rcases List.mem_cons.1 hf with h|hf
 ·exact .inr (.inr (.inl (by rw[h];simp)))
 ·rcases List.mem_cons.1 hf with h|hf
  ·exact .inr (.inr (.inl (by rw[h];simp)))
  ·exact .inr (.inl hf)
theorem Gf{A B:Fr}{x y:Option Addr×List Value}(h:∀f∈B,f∈A):∀f∈x::y::B,f∈x::y::A:=λ f hf=>(List.mem_cons.1 hf).elim (λ h=>h▸List.mem_cons_self ..) λ hf=>(List.mem_cons.1 hf).elim (λ h=>h▸List.mem_cons_of_mem _ (List.mem_cons_self ..)) λ hf=>List.mem_cons_of_mem _ (List.mem_cons_of_mem _ (h f hf))
theorem Ee{P:Program}{S:List (Nat×Value)}{d:Nat}{ty t:TypeId}{pos:String}{af:Array Edge}{gd:Option (Nat×Bool)}{w0:World}{M:List Nat}{H:List (Nat×Obj)}{z:Value}(hz:dC P t=some z)(h1:z.oneCell'=true):bD P S (St w0 M H) ⟨some d,.alloc t,ty,pos,af,gd⟩ Nat (λ b=>.pointer (some ⟨b,0,none⟩)) (λ b=>St w0 M ((b,.cells ⟨[z]⟩ t (0,0))::H)) :=
 Vf (λ w _=>by
  have e:z.cells = #[z]:=by cases z<;>simp_all[Value.cells,Value.oneCell']
  simp[execOp,Instr.alloc,My hz,newVar,newRow,e])
end
end Go.Ct
namespace Go.Proofs.YtbajmaoegmbfgaaGreat
section
open Go Go.RowKit Go.Ct
section
variable{D:List Nat}{A:Fr}{a:AS}{b:Nat}{w:World}
theorem px(ok:a.Ok)(hm:a.mm.Small)(hA:∀f∈aL a.L,f∈A)(r:Int)(hr:r<=a.mm.nodes.length)(hs:SF w D [(b,eS a)] A [] (eX a) w) :
  Calls Tryz.prog 36 #[.pointer (some ⟨b,0,none⟩),.int .i64 r] w λ e w'=>∃q:Option Addr×Option Addr,e=.returned (.agg ⟨((aC (dJ a.L) r).at_ q.1 q.2).nd.cells⟩)/\True /\
  SF w D [(b,eS a)] [] [] (eX a++[⟨q.2,dD (aC (dJ a.L) r).ys,(aC (dJ a.L) r).ys.length,164,2⟩,⟨q.1,aH (aC (dJ a.L) r).xs,(aC (dJ a.L) r).xs.length,37,1⟩]) w':=by
 have h1:=hm.1
 have h2:=Qi a
 exact Tf (hs.aBw hA) ok.fit r (by omega) (by omega)
theorem L7{S:List (Nat×Value)}{w0:World}{M:List Nat}{H H':List (Nat×Obj)}{F:Fr}{O O':List Ow}{ty:TypeId}{pos:String}{af:Array Edge}{gd:Option (Nat×Bool)}{is js:List Nat}{recv:Operand}{xs:List Operand}{at_:Array TypeId}{dst:Option Nat}{H1:Option Addr×Option Addr->List (Nat×Obj)}{F1:Option Addr×Option Addr->Fr}{O1:Option Addr×Option Addr->List Ow}
  (r:Int) (ok:a.Ok) (hm:a.mm.Small) (hA:∀f∈aL a.L,f∈A) (hr:r<=a.mm.nodes.length) (hx:ev S recv=.iface 42 (.pointer (some ⟨b,0,none⟩)):=by exact rfl) (ha:qU S xs=[.int .i64 r]:=by exact evD) (hH:mY H is [(b,eS a)] H':=by exact Wx) (hO:mY O js (eX a) O':=by exact Wx)
  (hl1:is.length=1:=by exact rfl) (hl2:js.length=2:=by exact rfl) (hH1:∀x,jJ is [(b,eS a)] H'=H1 x:=by intro x;simp only[jJ,tL];exact rfl) (hF1:∀x,[]++F=F1 x:=by intro x;exact rfl)
  (hO1:∀x,[⟨x.2,dD (aC (dJ a.L) r).ys,(aC (dJ a.L) r).ys.length,164,2⟩,⟨x.1,aH (aC (dJ a.L) r).xs,(aC (dJ a.L) r).xs.length,37,1⟩]++jJ js (eX a) O'=O1 x:=by intro x;simp only[jJ,tL,mW,List.nil_append,List.cons_append];exact rfl) :
  bD Tryz.prog S (SF w0 M H A F O) ⟨dst,.call {callee:=.invoke recv "Node",args:=⟨xs⟩,argTypes:=at_},ty,pos,af,gd⟩ (Option Addr×Option Addr) (λ q=>.agg ⟨((aC (dJ a.L) r).at_ q.1 q.2).nd.cells⟩) (λ x w=>True/\SF w0 M (H1 x) A (F1 x) (O1 x) w) :=
 aBr (hs:=[(b,eS a)]) (os:=eX a) (A0:=A) (hs':=λ _=>[(b,eS a)]) (os':=λ _=>eX a) (Fc:=λ _=>[]) (Oc:=λ q=>[⟨q.2,dD (aC (dJ a.L) r).ys,(aC (dJ a.L) r).ys.length,164,2⟩,⟨q.1,aH (aC (dJ a.L) r).xs,(aC (dJ a.L) r).xs.length,37,1⟩]) hx ha (λ w=>Nu _ _ w) (λ w1 hw=>px ok hm hA r hr hw) hH hO (bJ.of λ _ h=>.inr (.inl h)) (λ _=>hl1) (λ _=>hl2) hH1 hF1 hO1
theorem Zo(ok:a.Ok)(hm:a.mm.nodes.length<=274877906944)(r:Int)(hr:r<=9223372036854775807)(hs:SF w D [(b,eS a)] (aL a.L) [] (eX a) w) :
  Calls Tryz.prog 36 #[.pointer (some ⟨b,0,none⟩),.int .i64 r] w λ e w'=>∃q:Option Addr×Option Addr,e=.returned (.agg ⟨((aC (dJ a.L) r).at_ q.1 q.2).nd.cells⟩)/\True /\
  SF w D [(b,eS a)] [] [] (eX a++[⟨q.2,dD (aC (dJ a.L) r).ys,(aC (dJ a.L) r).ys.length,164,2⟩,⟨q.1,aH (aC (dJ a.L) r).xs,(aC (dJ a.L) r).xs.length,37,1⟩]) w':=by
 have h2:=Qi a
 exact Tf hs ok.fit r hr (by omega)
theorem rH(ok:a.Ok)(hm:a.mm.Small){n:Nd}{xs:List Int}{ys:List Pr}(init:Int)(e1:n.brN=xs.length)(e2:n.prN=ys.length)(hx:xs.length<=274877906944)(hy:ys.length<=274877906944)(hA:∀f∈[(n.brA,aH xs),(n.prA,dD ys)],f∈A)(hs:SF w D [(b,eS a)] A [] (eX a) w) :
  Calls Tryz.prog 29 #[.pointer (some ⟨b,0,none⟩),n.v,.int .i64 init] w λ e w'=>∃x:AX,e=.returned (.int .i64 ((a.mm.nodes.length+1:Nat):Int))/\True/\SF w D [(b,eS (a.al n xs ys init x))] [] (lM n xs ys a.cs.length x).fr (eX (a.al n xs ys init x)) w':=by
 have h1:=hm.1
 have h3:a.cs.length<=137438953472:=hm.2
 have h2:=Qi a
 rw[show a.mm.nodes.length+1=a.L.length+3 by omega]
 exact a6 init (hs.aBw hA) e1 e2 hx hy (by omega) (by omega)
end
end

/- Pairs: an arena is made of a memory; a pair is added. -/
end Go.Proofs.YtbajmaoegmbfgaaGreat
namespace Go.Ct
section
open Go Go.RowKit
abbrev XS.a0(z:XS):XS:={z with acc:=0}
theorem XS.Ok.mo{x:XS}(h:x.Ok):Xy x.mm:=by
 have hl:x.mm.nodes.length=x.L.length:=by show(x.L.map aU.c).length=_;rw[List.length_map]
 refine⟨λ v hv=>?_,λ v hv=>?_,by have:=h.two;omega⟩
 ·obtain⟨u,hu,rfl⟩:=List.mem_map.1 hv
  rw[hl]
  exact h.nd u hu
 ·rw[hl];exact h.cs v hv
end
end Go.Ct
namespace Go.Proofs.YtbajmaoegmbfgaaGreat
section
open Go Go.RowKit Go.Ct
abbrev Wa(z:XS):List Ow:=[⟨z.pn,iR z.L,z.cn,47,14⟩,⟨z.pc,aH z.cs,z.cc,37,1⟩]
theorem Wm{bm:Nat}{z:XS}{D:List Nat}{A:Fr}{w:World}(ok:z.Ok)(hp:iO z.L z.cs z.gen)(hl:z.L.length<=137438953472)(hc:z.cs.length<=137438953472)(hA:∀f∈aL z.L,f∈A)(hs:SF w D [(bm,xM z)] A [] (Wa z) w) :
    Calls Tryz.prog 24 #[.pointer (some ⟨bm,0,none⟩)] w λ e w'=>∃q:Nat×AS,e=.returned (.pointer (some ⟨q.1,0,none⟩))/\(q.2.mm=z.mm/\q.2.Ok)/\SF w D ([(bm,xM z.a0)]++[(q.1,eS q.2)]) [] (aL q.2.L) (Wa z++eX q.2) w':=by
  refine enter Tryz.func24 Tryz.ntmps24 rfl rfl hs ?_
  simp only[cD]
  refine cU ?_;refine Hw ?_;refine aB (aP (k:=3) rf cX eH (by simp only[List.drop_zero,List.take_succ_cons,List.take_zero];exact rfl) rfl) rfl ?_;refine aD (Zf (V:=λ x:Nat×List aU×(Option Addr×Nat)×(Option Addr×Nat)=>.tuple #[.pointer (some ⟨x.1,0,none⟩),.int .i64 0]) (Hc:=λ x=>[(x.1,aO x.2.1 z.cs z.gen 0 x.2.2.1.1 x.2.2.1.2 x.2.2.2.1 x.2.2.2.2)]) (Fc:=λ x=>aL x.2.1) (Oc:=λ x=>mW x.2.1 z.cs x.2.2.1.1 x.2.2.1.2 x.2.2.2.1 x.2.2.2.2) (hc:=λ w1 hw=>dw (L:=z.L) (cs:=z.cs) (hw.jx (.inr (.inr (.inr ⟨_,.head _,rfl,rfl⟩))) (.inr (.inr (.inr ⟨_,.tail _ (.head _),rfl,rfl⟩))) (λ f hf=>.inr (.inl (hA f hf))) ok.fit) (by omega) (by omega) (hw.y3 .head) hp)) (λ x10 h10=>?_);refine Kc7 ?_;refine mH ?_;refine aG ?_
  refine bC (λ c14=>?_) (λ c14=>?_)
  · exact nv c14
  · refine aV ?_;refine J13 ?_;refine vK ?_;refine Ka5 ?_
    refine aN Tryz.results24 (λ w hw=>?_)
    have e1:(⟨x10.2.1,z.cs,z.gen,0,x10.2.2.1.1,x10.2.2.1.2,x10.2.2.2.1,x10.2.2.2.2⟩:AS).mm=z.mm:=by
     show Mm.mk ((dJ x10.2.1).map aU.c) z.cs z.gen=Mm.mk (z.L.map aU.c) z.cs z.gen
     rw[h10.1]
    refine⟨(x10.1,⟨x10.2.1,z.cs,z.gen,0,x10.2.2.1.1,x10.2.2.1.2,x10.2.2.2.1,x10.2.2.2.2⟩),rfl,⟨e1,⟨h10.2,by rw[e1];exact ok.mo⟩⟩,?_⟩
    exact(hw.perm (H':=[(bm,xM z.a0),(x10.1,_)]) (O':=Wa z++mW x10.2.1 z.cs x10.2.2.1.1 x10.2.2.1.2 x10.2.2.2.1 x10.2.2.2.2) (List.Perm.swap _ _ _) (List.perm_append_comm (l₁:=Wa z))).ret (List.Sublist.refl _) (aY.kN λ f hf=>by simpa using hf) (List.Sublist.refl _)
theorem oO{m B C E:Nat}{W:Wd}(h:D3 m B C E W):iO W.z.L W.z.cs W.z.gen:=by
 obtain⟨σ,hi⟩:=h.wr.inv
 have e1:σ.mm.nodes=W.z.L.map aU.c:=by rw[hi.mm];rfl
 have e2:σ.mm.cs=W.z.cs:=by rw[hi.mm];rfl
 have e3:σ.mm.gen=W.z.gen:=by rw[hi.mm];rfl
 have:=hi.inv.prop
 rw[e2,e3] at this
 exact this.to e1.symm
theorem Vh{f:FuncId}{vs:Array Value}{w:World}{D:List Nat}{b:Nat}{φ:Nat×Cd×Fr×AS->Prop}(h:Calls Tryz.prog f vs w λ e w'=>∃x:Nat×Cd×Fr×AS,e=.returned (.pointer (some ⟨x.1,0,none⟩))/\φ x/\SF w D [(x.1,tO b x.2.1 0),(b,eS x.2.2.2)] [] x.2.2.1 (eX x.2.2.2) w') :
  Calls Tryz.prog f vs w λ e w'=>∃x:Nat×Cd×Fr×AS,e=.returned (.pointer (some ⟨x.1,0,none⟩))/\φ x/\SF w D ([(b,eS x.2.2.2)]++[(x.1,tO b x.2.1 0)]) [] x.2.2.1 (eX x.2.2.2++[]) w' :=
 h.mono λ _ _ ⟨x,e,h,hw⟩=>⟨x,e,h,by rw[List.append_nil];exact hw.perm (List.Perm.swap _ _ _) (List.Perm.refl _)⟩
end

/- gcas: back, Complete, decide. -/
section
open Go Go.RowKit Go.Ct
abbrev lC(b:Nat)(t:dM):List Value:=[.iface 42 (.pointer (some ⟨b,0,none⟩)),.int .i64 t.root,.bool t.ro]
def ig(prev p:Int)(c:Bool)(K:Bool->Tr):Tr:=if c=true then .iS prev p 0 K else .alloc (yI p) 0 λ f=>.iS prev p f K
theorem oP{a:AS}(hm:a.mm.Small){x:Int}(h:x<=a.mm.cs.length):x<=9223372036854775807:=by have:=hm.2;omega
theorem Fb{a:AS}(ok:a.Ok)(r:Int):lJ a.mm.nodes.length a.mm.cs.length (aC (dJ a.L) r).c:=by rw[<- kL];exact ok.mo.at r
section
variable{D:List Nat}{A B:Fr}{a:AS}{b:Nat}{w:World}{f:FuncId}{cap:List Value}{t:dM}
theorem dr{K:Int->Tr}{v:Int}{s:Mm}{b2 b3:Nat}(hK:Dt b K s f cap B)(hv:v<=s.nodes.length)(o:Bool):rM b 201 [pt b2,pt b3] [.bool o] (bx b3 [.int .i64 v]::bx b2 [fn f cap]::B) s (K v):=by
 intro a D A w em ok hm hA hB hw0
 subst em
 have hK2:=hK.more (B2:=(bx b3 [.int .i64 v]::bx b2 [fn f cap]::B)) (λ x hx=>by simp[hx])
 refine enter Tryz.func201 Tryz.ntmps201 rfl rfl hw0 ?_
 simp only[cD]
 refine J0 ?_;refine aJ (λ x4=>?_);refine aG ?_;refine J0 ?_;refine aB (pA b2 [fn f cap] 0 hB rfl) rfl ?_;refine aB (pA b3 [.int .i64 v] 0 hB rfl) rfl ?_;refine aD (Og hK.1 (hK2.2 v a.mm (Mm.Le.refl _) hv) ok hm hA hB) (λ x7 h7=>?_);refine cI (gS λ _=>bE rf cX rf (dA _) eH rf jV) (λ _=>?_);refine aG ?_
 refine bA Tryz.results201 (λ w hw=>?_)
 exact⟨x7,rfl,h7,hw.rN⟩
theorem Aa{K:Int->Tr}{v:Int}{s:Mm}{b2 b3:Nat}(hK:Dt b K s f cap B)(hv:v<=s.nodes.length)(o:Bool):rM b 174 [pt b2,pt b3] [.bool o] (bx b3 [.int .i64 v]::bx b2 [fn f cap]::B) s (K v):=by
 intro a D A w em ok hm hA hB hw0
 subst em
 have hK2:=hK.more (B2:=(bx b3 [.int .i64 v]::bx b2 [fn f cap]::B)) (λ x hx=>by simp[hx])
 refine enter Tryz.func174 Tryz.ntmps174 rfl rfl hw0 ?_
 simp only[cD]
 refine J0 ?_;refine aJ (λ x4=>?_);refine aG ?_;refine J0 ?_;refine aB (pA b2 [fn f cap] 0 hB rfl) rfl ?_;refine aB (pA b3 [.int .i64 v] 0 hB rfl) rfl ?_;refine aD (Og hK.1 (hK2.2 v a.mm (Mm.Le.refl _) hv) ok hm hA hB) (λ x7 h7=>?_);refine cI (gS λ _=>bE rf cX rf (dA _) eH rf jV) (λ _=>?_);refine aG ?_
 refine bA Tryz.results174 (λ w hw=>?_)
 exact⟨x7,rfl,h7,hw.rN⟩
theorem Uy{K:Int->Tr}{i m p:Int}(hK:Dt b K a.mm f cap B)(hi:i<=a.mm.nodes.length)(hmm:m<=a.mm.nodes.length)(hp:p<=a.mm.nodes.length)(ok:a.Ok)(hm:a.mm.Small)(hA:∀f∈aL a.L,f∈A)(hB:∀x∈B,x∈A)(hs:SF w D [(b,eS a)] A [] (eX a) w) :
  Calls Tryz.prog 163 #[.agg ⟨lC b t⟩,.int .i64 i,.int .i64 m,.int .i64 p,fn f cap] w (Bf b (λ c' s' B'=>kR b (Li i m p K) a.mm c' s' B') a B D w):=by
 have ni:=Fb ok i
 have np:=Fb ok p
 refine enter Tryz.func163 Tryz.ntmps163 rfl rfl hs ?_
 simp only[cD]
 refine J0 ?_;refine bO (λ x5=>?_);refine bO (λ x9=>?_);refine aJ (λ x10=>?_);refine aG ?_;refine Kc3 ?_;refine aD (L7 p ok hm hA hp) (λ x15 h15=>?_);refine cE ?_;refine aM (gS λ _=>Ee (z:=.int .i64 0) (by kernel_rfl) rfl) (λ x11=>?_);refine J5 ?_;refine aR ?_;refine eM [(0,[]),(1,[]),(2,[]),(5,[]),(6,[]),(7,[]),(3,[6]),(4,[]),(8,[]),(9,[])] ?_;refine oW ?_;refine gU ?_;refine bY ?_;(refine cN (i:=7) (hq:=cL) (h:=?_));refine bG (i:=3) (hq:=(L7 i ok hm hA hi)) (h:=λ x20 h20=>?_);refine qK ?_;refine dB (i:=8) (hq:=(cV (hc:=λ w1 hw=>sX _ _ _ _ _ w1))) (h:=λ x25=>?_);refine kZ (i:=9) (hq:=(gS λ _=>bE rf cX rf (dA _) eH rf jV)) (h:=λ _=>?_);refine eK ?_
 refine bA Tryz.results163 (λ w hw=>?_)
 refine⟨(tR (aC (dJ a.L) i).nd.main m (aC (dJ a.L) p).nd.aZ _ _,[bx x11 [.int .i64 (aC (dJ a.L) p).nd.aZ],bx x9 [fn f cap]],a),rfl,⟨?_,ok,(AS.iF.refl a).more (λ _ h=>(List.not_mem_nil h).elim)⟩,?_⟩
 ·refine⟨hi,hp,?_⟩
  rw[kL,kL]
  refine⟨rfl,oP hm ni.main,np.aZ,_,_,rfl,by kernel_rfl,λ v s1 l=>?_⟩
  show Ad b _ _ _ _ s1 λ c' s' B'=>p<=s1.nodes.length/\kR b (K (bF s1.nodes p).aZ) s1 c' s' B'
  rw[l.nd hp,kL]
  have hlen:=l.len
  exact(dr (hK.le l) (by have h2:(aC (dJ a.L) p).nd.aZ<=a.mm.nodes.length:=np.aZ;omega) v).more (λ _ h=>h) λ c m C C2 hC h=>⟨by omega,h.more hC⟩
 ·exact((hw.dF (.tail (.tail .head))).dF .head).rI
theorem uZ{K:Int->Tr}{v s:Int}(ht:t.root<=9223372036854775807)(hK:Dt b K a.mm f cap B)(hv:v<=a.mm.nodes.length)(ok:a.Ok)(hm:a.mm.Small)(hA:∀f∈aL a.L,f∈A)(hB:∀x∈B,x∈A)(hs:SF w D [(b,eS a)] A [] (eX a) w) :
  Calls Tryz.prog 141 #[.agg ⟨lC b t⟩,.int .i64 v,.int .i64 s,fn f cap] w (Bf b (λ c' s' B'=>kR b (oD t v s K) a.mm c' s' B') a B D w):=by
 have nv:=Fb ok v
 refine enter Tryz.func141 Tryz.ntmps141 rfl rfl hs ?_
 simp only[cD]
 refine J0 ?_;refine bO (λ x4=>?_);refine bO (λ x7=>?_);refine aJ (λ x8=>?_);refine aG ?_;refine Kc3 ?_;refine aD (L7 v ok hm hA hv) (λ x14 h14=>?_);refine aJ (λ x9=>?_);refine J5 ?_;refine gP ?_;refine aM (gS λ _=>Ee (z:=.int .i64 0) (by kernel_rfl) rfl) (λ x10=>?_);refine J5 ?_;refine mD ?_;refine tS ?_
 refine bC (λ c18=>?_) (λ c18=>?_)
 ·refine dH ?_;refine J3 ?_;refine J5 ?_;refine Ka9 ?_;refine Kc1 ?_;refine bP ?_;(refine aB cL rfl ?_);refine aM (cV (hc:=λ w1 hw=>sX _ _ _ _ _ w1)) (λ x27=>?_);refine cI (gS λ _=>bE rf cX rf (dA _) eH rf jV) (λ _=>?_);refine aG ?_
  refine bA Tryz.results141 (λ w hw=>?_)
  refine⟨(tR t.root v (aC (dJ a.L) v).nd.new _ _,[bx x10 [.int .i64 (aC (dJ a.L) v).nd.new],bx x7 [fn f cap]],a),rfl,⟨?_,ok,(AS.iF.refl a).more (λ _ h=>(List.not_mem_nil h).elim)⟩,?_⟩
  ·refine⟨hv,?_⟩
   rw[kL]
   have e:(if s=1 then(aC (dJ a.L) v).c.new else(aC (dJ a.L) v).c.aZ)=(aC (dJ a.L) v).nd.new:=by exact if_pos (by omega)
   dsimp only
   rw[e]
   refine⟨rfl,ht,nv.new,_,_,rfl,by kernel_rfl,λ o s1 l=>?_⟩
   have hlen:=l.len
   exact Aa (hK.le l) (by have h2:(aC (dJ a.L) v).nd.new<=a.mm.nodes.length:=nv.new;omega) o
  ·exact((hw.dF (.tail (.tail (.tail .head)))).dF .head).rI
 ·refine aV ?_;refine Ka9 ?_;refine Kc1 ?_;refine bP ?_;(refine aB cL rfl ?_);refine aM (cV (hc:=λ w1 hw=>sX _ _ _ _ _ w1)) (λ x27=>?_);refine cI (gS λ _=>bE rf cX rf (dA _) eH rf jV) (λ _=>?_);refine aG ?_
  refine bA Tryz.results141 (λ w hw=>?_)
  refine⟨(tR t.root v (aC (dJ a.L) v).nd.aZ _ _,[bx x10 [.int .i64 (aC (dJ a.L) v).nd.aZ],bx x7 [fn f cap]],a),rfl,⟨?_,ok,(AS.iF.refl a).more (λ _ h=>(List.not_mem_nil h).elim)⟩,?_⟩
  ·refine⟨hv,?_⟩
   rw[kL]
   have e:(if s=1 then(aC (dJ a.L) v).c.new else(aC (dJ a.L) v).c.aZ)=(aC (dJ a.L) v).nd.aZ:=by exact if_neg (by omega)
   dsimp only
   rw[e]
   refine⟨rfl,ht,nv.aZ,_,_,rfl,by kernel_rfl,λ o s1 l=>?_⟩
   have hlen:=l.len
   exact Aa (hK.le l) (by have h2:(aC (dJ a.L) v).nd.aZ<=a.mm.nodes.length:=nv.aZ;omega) o
  ·exact((hw.dF (.tail (.tail (.tail .head)))).dF .head).rI
theorem Iy{K:Bool->Tr}{prev p:Int}{c:Bool}(hK:Rk b K a.mm f cap B)(hpr:prev<=a.mm.cs.length)(hp:p<=a.mm.nodes.length)(ok:a.Ok)(hm:a.mm.Small)(hA:∀f∈aL a.L,f∈A)(hB:∀x∈B,x∈A)(hs:SF w D [(b,eS a)] A [] (eX a) w) :
  Calls Tryz.prog 166 #[.agg ⟨lC b t⟩,.int .i64 prev,.int .i64 p,.bool c,fn f cap] w (Bf b (λ c' s' B'=>kR b (ig prev p c K) a.mm c' s' B') a B D w):=by
 refine enter Tryz.func166 Tryz.ntmps166 rfl rfl hs ?_
 simp only[cD]
 refine J0 ?_;refine bO (λ x5=>?_);refine aJ (λ x10=>?_);refine aG ?_;refine mD ?_;refine aG ?_
 refine bC (λ c12=>?_) (λ c12=>?_)
 ·refine Kb5 ?_;refine aM (cV (hc:=λ w1 hw=>sX _ _ _ _ _ w1)) (λ x16=>?_);refine cI (gS λ _=>bE rf cX rf (dA _) eH rf jV) (λ _=>?_);refine aG ?_
  refine bA Tryz.results166 (λ w hw=>?_)
  refine⟨(tR prev p 0 f cap,[],a),rfl,⟨?_,ok,AS.iF.refl a⟩,hw.rI⟩
  unfold ig
  rw[if_pos (by assumption)]
  exact⟨rfl,oP hm hpr,bH _,f,cap,rfl,hK.1,λ v s1 l=>hK.2 v s1 l⟩
 ·refine lI ?_;refine eM [(0,[]),(1,[]),(2,[]),(4,[]),(5,[]),(3,[1]),(6,[]),(7,[])] ?_;refine oW ?_;refine bB ?_;refine cN (i:=4) (hq:=(Ce rf)) (h:=?_);refine bB ?_;refine dB (i:=3) (hq:=(cV (hc:=λ w1 hw=>eb p w1))) (h:=λ x20=>?_);refine bG (i:=6) (hq:=(zy (V:=λ _:AX=>.int .i64 ((a.mm.nodes.length+1:Nat):Int)) (hs:=[(b,eS a)]) (os:=eX a) (A0:=[(none,aH []),(none,dD [])]) (hs':=λ x=>[(b,eS (a.al ({Nd.zero with kind:=7,aZ:=p}:Nd) [] [] 0 x))]) (os':=λ x=>eX (a.al ({Nd.zero with kind:=7,aZ:=p}:Nd) [] [] 0 x)) (Fc:=λ x=>(lM ({Nd.zero with kind:=7,aZ:=p}:Nd) [] [] a.cs.length x).fr) (hm:=λ w=>xD _ _ _ w) (hc:=λ w1 hw=>rH ok hm 0 rfl rfl (by simp) (by simp) (λ f hf=>hf) hw))) (h:=λ x23 h23=>?_);refine J7 ?_;refine iX ?_;refine pQ ?_;refine aM (cV (hc:=λ w1 hw=>sX _ _ _ _ _ w1)) (λ x28=>?_);refine cI (gS λ _=>bE rf cX rf (dA _) eH rf jV) (λ _=>?_);refine aG ?_
  refine bA Tryz.results166 (λ w hw=>?_)
  refine⟨(tR prev p ((a.mm.nodes.length+1:Nat):Int) f cap,(lM ({Nd.zero with kind:=7,aZ:=p}:Nd) [] [] a.cs.length x23).fr,a.al ({Nd.zero with kind:=7,aZ:=p}:Nd) [] [] 0 x23),rfl,⟨?_,ok.al x23 (by simp) (by simp) ⟨?_,bH _,bH _,(λ r hr=>nomatch hr),bH _,bH _,bH _,⟨0,rfl,by decide⟩,⟨0,rfl,by decide⟩⟩ (by omega),AS.iF.al a _ _ _ _ x23⟩,hw.rI⟩
  ·unfold ig
   rw[if_neg (by simp_all)]
   have hl:=Mf a.mm (yI p) 0
   refine⟨mA a _ _ _ _ x23,?_,?_,f,cap,rfl,hK.1,λ v s1 l=>(hK.2 v s1 (hl.trans l)).more (λ x hx=>List.mem_append_right _ hx) λ _ _ _ _ hC h=>h.more hC⟩
   ·have:=hl.cl;have:=hm.2;omega
   ·show _<=(((a.mm.nodes++[_]).length:Nat):Int)
    rw[List.length_append]
    simp
  ·show p<=_
   exact hp
end
end

/- gcas: root. -/
section
open Go Go.RowKit Go.Ct
section
variable{D:List Nat}{A B:Fr}{a:AS}{b:Nat}{w:World}{f:FuncId}{cap:List Value}{t:dM}
theorem di{K:Int->Tr}{v x:Int}{s:Mm}{b1 b2 b3:Nat}(ht:t.root<=9223372036854775807)(hK:Dt b K s f cap B)(hv:v<=s.nodes.length):rM b 206 [pt b1,pt b2,pt b3] [.int .i64 x] (bx b1 (lC b t)::bx b2 [iv v]::bx b3 [fn f cap]::B) s (oD t v x K):=by
 intro a D A w em ok hm hA hB hw0
 subst em
 have hK2:=hK.more (B2:=(bx b1 (lC b t)::bx b2 [iv v]::bx b3 [fn f cap]::B)) (λ x hx=>by simp[hx])
 refine enter Tryz.func206 Tryz.ntmps206 rfl rfl hw0 ?_
 simp only[cD]
 refine J0 ?_;refine aJ (λ x5=>?_);refine aG ?_;refine J0 ?_;refine aB (Xx b1 (lC b t) 0 3 hB rfl rfl) rfl ?_;refine aB (pA b2 [.int .i64 v] 0 hB rfl) rfl ?_;refine aA ?_;refine aB (pA b3 [fn f cap] 0 hB rfl) rfl ?_;refine aD (K4 (λ w1 hw=>uZ ht hK2 hv ok hm hA hB hw)) (λ x10 h10=>?_);refine cI (gS λ _=>bE rf cX rf (dA _) eH rf jV) (λ _=>?_);refine aG ?_
 refine bA Tryz.results206 (λ w hw=>?_)
 exact⟨x10,rfl,h10,hw.rN⟩
theorem jm{K:Int->Tr}{v:Int}{s:Mm}{b0 b1 b2 b3:Nat}{nd:Nd}(ht:t.root<=9223372036854775807)(hK:Dt b K s f cap B)(hv:v<=s.nodes.length)(hd:nd.status<=9223372036854775807)(o:Bool):rM b 205 [pt b0,pt b1,pt b2,pt b3] [.bool o] (bx b0 (nd.cells:List Value)::bx b1 (lC b t)::bx b2 [iv v]::bx b3 [fn f cap]::B) s (.load nd.status λ s=>oD t v s K):=by
 intro a D A w em ok hm hA hB hw0
 subst em
 have hK2:=hK.more (B2:=(bx b0 (nd.cells:List Value)::bx b1 (lC b t)::bx b2 [iv v]::bx b3 [fn f cap]::B)) (λ x hx=>by simp[hx])
 refine enter Tryz.func205 Tryz.ntmps205 rfl rfl hw0 ?_
 simp only[cD]
 refine J0 ?_;refine aJ (λ x6=>?_);refine aG ?_;refine Ka9 ?_;refine aB (pA b0 (nd.cells:List Value) 13 hB rfl) rfl ?_;(refine aB cL rfl ?_);refine aM (cV (hc:=λ w1 hw=>sZ _ _ _ w1)) (λ x10=>?_);refine cI (gS λ _=>bE rf cX rf (dA _) eH rf jV) (λ _=>?_);refine aG ?_
 refine bA Tryz.results205 (λ w hw=>?_)
 exact⟨(qP nd.status _ _,[],a),rfl,⟨⟨rfl,hd,_,_,rfl,by kernel_rfl,λ x s1 l hx=>(di (b1:=b1) (b2:=b2) (b3:=b3) ht (hK.le l) (by have:=l.len;omega)).mr (λ y hy=>List.mem_cons_of_mem _ hy)⟩,ok,AS.iF.refl a⟩,hw.rI⟩
theorem cw{K:Int->Tr}{v x:Int}{s:Mm}{b0 b1 b2 b3:Nat}{nd:Nd}(ht:t.root<=9223372036854775807)(hK:Dt b K s f cap B)(hv:v<=s.nodes.length)(hd:nd.status<=9223372036854775807)(hn:(bF s.nodes v).status=nd.status):rM b 204 [pt b1,pt b2,pt b3,pt b0] [.int .i64 x] (bx b1 (lC b t)::bx b2 [iv v]::bx b3 [fn f cap]::bx b0 (nd.cells:List Value)::B) s (if x=0 then .node v λ n=>.iS n.status 0 2 λ _=>.node v λ n=>.load n.status λ s=>oD t v s K else oD t v x K):=by
 intro a D A w em ok hm hA hB hw0
 subst em
 have hK2:=hK.more (B2:=(bx b1 (lC b t)::bx b2 [iv v]::bx b3 [fn f cap]::bx b0 (nd.cells:List Value)::B)) (λ x hx=>by simp[hx])
 refine enter Tryz.func204 Tryz.ntmps204 rfl rfl hw0 ?_
 simp only[cD]
 refine J0 ?_;refine aJ (λ x6=>?_);refine aG ?_;refine mD ?_;refine mH ?_;refine aG ?_
 refine bC (λ c8=>?_) (λ c8=>?_)
 ·refine J0 ?_;refine aB (Xx b1 (lC b t) 0 3 hB rfl rfl) rfl ?_;refine aB (pA b2 [.int .i64 v] 0 hB rfl) rfl ?_;refine aA ?_;refine aB (pA b3 [fn f cap] 0 hB rfl) rfl ?_;refine aD (K4 (λ w1 hw=>uZ ht hK2 hv ok hm hA hB hw)) (λ x13 h13=>?_);refine cI (gS λ _=>bE rf cX rf (dA _) eH rf jV) (λ _=>?_);refine aG ?_
  refine bA Tryz.results204 (λ w hw=>?_)
  refine⟨x13,rfl,⟨?_,h13.2⟩,hw.rN⟩
  rw[if_neg (by omega)]
  exact h13.1
 ·refine aV ?_;refine Ka9 ?_;refine aB (pA b0 (nd.cells:List Value) 13 hB rfl) rfl ?_;(refine aB cL rfl ?_);refine aM (cV (hc:=λ w1 hw=>sX _ _ _ _ _ w1)) (λ x17=>?_);refine cI (gS λ _=>bE rf cX rf (dA _) eH rf jV) (λ _=>?_);refine aG ?_
  refine bA Tryz.results204 (λ w hw=>?_)
  refine⟨(tR nd.status 0 2 _ _,[],a),rfl,⟨?_,ok,AS.iF.refl a⟩,hw.rI⟩
  rw[if_pos (by omega)]
  refine⟨hv,?_⟩
  dsimp only
  rw[hn]
  refine⟨rfl,hd,by have:=ok.mo.two;omega,_,_,rfl,by kernel_rfl,λ o s1 l=>?_⟩
  have hlen:=l.len
  show Ad b _ _ _ _ s1 λ c' s' B'=>v<=s1.nodes.length/\kR b (.load (bF s1.nodes v).status λ s=>oD t v s K) s1 c' s' B'
  rw[l.nd hv,hn]
  exact(jm (b0:=b0) (b1:=b1) (b2:=b2) (b3:=b3) (nd:=nd) ht (hK.le l) (by omega) hd o).more (λ y hy=>by
  simp only[List.mem_cons,List.append_eq,List.nil_append] at hy ⊢
  rcases hy with h|h|h|h|h<;>simp[h]) λ c m C C2 hC h=>⟨by omega,h.more hC⟩
theorem jk{K:Int->Tr}{v:Int}{s:Mm}{b1 b3:Nat}(ht:t.root<=9223372036854775807)(hK:Dt b K s f cap B)(hv:v<=s.nodes.length):rM b 203 [pt b1,pt b3] [.int .i64 v] (bx b1 (lC b t)::bx b3 [fn f cap]::B) s (.node v λ n=>if n.kind=2 then K v else .node v λ n=>.load n.status λ s=>if s=0 then .node v λ n=>.iS n.status 0 2 λ _=>.node v λ n=>.load n.status λ s=>oD t v s K else oD t v s K):=by
 intro a D A w em ok hm hA hB hw0
 subst em
 have hK2:=hK.more (B2:=(bx b1 (lC b t)::bx b3 [fn f cap]::B)) (λ x hx=>by simp[hx])
 have nv:=Fb ok v
 refine enter Tryz.func203 Tryz.ntmps203 rfl rfl hw0 ?_
 simp only[cD]
 refine J0 ?_;refine bO (λ x3=>?_);refine aJ (λ x4=>?_);refine aG ?_;refine Ka9 ?_;refine aB (pA b1 (lC b t) 0 hB rfl) rfl ?_;refine bP ?_;refine aD (L7 v ok hm hA hv) (λ x9 h9=>?_);refine aJ (λ x5=>?_);refine J5 ?_;refine Ds ?_;refine tS ?_
 refine bC (λ c12=>?_) (λ c12=>?_)
 ·refine J0 ?_;refine aB (pA b3 [fn f cap] 0 hB rfl) rfl ?_;refine bP ?_;refine aD (Og hK2.1 (hK2.2 v a.mm (Mm.Le.refl _) hv) ok hm hA hB) (λ x15 h15=>?_);refine cI (gS λ _=>bE rf cX rf (dA _) eH rf jV) (λ _=>?_);refine aG ?_
  refine bA Tryz.results203 (λ w hw=>?_)
  refine⟨x15,rfl,⟨⟨hv,?_⟩,h15.2⟩,hw.rN⟩
  rw[kL]
  dsimp only
  rw[if_pos (by assumption)]
  exact h15.1
 ·refine aV ?_;refine gP ?_;(refine aB cL rfl ?_);refine aM (cV (hc:=λ w1 hw=>sZ _ _ _ w1)) (λ x19=>?_);refine cI (gS λ _=>bE rf cX rf (dA _) eH rf jV) (λ _=>?_);refine aG ?_
  refine bA Tryz.results203 (λ w hw=>?_)
  refine⟨(qP (aC (dJ a.L) v).nd.status _ _,[bx x5 (((aC (dJ a.L) v).at_ x9.1 x9.2).nd.cells:List Value),bx x3 [iv v]],a),rfl,⟨⟨hv,?_⟩,ok,(AS.iF.refl a).more (λ _ h=>(List.not_mem_nil h).elim)⟩,?_⟩
  ·rw[kL]
   dsimp only
   rw[if_neg (by assumption)]
   refine⟨hv,?_⟩
   rw[kL]
   refine⟨rfl,oP hm nv.status,_,_,rfl,by kernel_rfl,λ x s1 l hx=>?_⟩
   have hlen:=l.len
   exact(cw (b0:=x5) (b1:=b1) (b2:=x3) (b3:=b3) (nd:=((aC (dJ a.L) v).at_ x9.1 x9.2).nd) ht (hK.le l) (by omega) (oP hm nv.status) (by rw[l.nd hv,kL];rfl)).mr (λ y hy=>by
   simp only[List.mem_cons,List.append_eq,List.nil_append,List.mem_append,List.not_mem_nil,or_false] at hy ⊢
   rcases hy with h|h|h|h|h<;>simp[h])
  ·exact((hw.dF (.tail (.tail .head))).dF .head).rI
theorem k9{K:Int->Tr}(ht:t.root<=9223372036854775807)(hK:Dt b K a.mm f cap B)(ok:a.Ok)(hm:a.mm.Small)(hA:∀f∈aL a.L,f∈A)(hB:∀x∈B,x∈A)(hs:SF w D [(b,eS a)] A [] (eX a) w) :
  Calls Tryz.prog 167 #[.agg ⟨lC b t⟩,fn f cap] w (Bf b (λ c' s' B'=>kR b (Ei t K) a.mm c' s' B') a B D w):=by
 refine enter Tryz.func167 Tryz.ntmps167 rfl rfl hs ?_
 simp only[cD]
 refine J0 ?_;refine bO (λ x2=>?_);refine bO (λ x3=>?_);refine aJ (λ x4=>?_);refine aG ?_;refine Ka9 ?_;refine J3 ?_;(refine aB cL rfl ?_);refine aM (cV (hc:=λ w1 hw=>sZ _ _ _ w1)) (λ x9=>?_);refine cI (gS λ _=>bE rf cX rf (dA _) eH rf jV) (λ _=>?_);refine aG ?_
 refine bA Tryz.results167 (λ w hw=>?_)
 refine⟨(qP t.root _ _,[bx x2 (lC b t),bx x3 [fn f cap]],a),rfl,⟨⟨rfl,ht,_,_,rfl,by kernel_rfl,λ v s1 l hv=>jk (b1:=x2) (b3:=x3) ht (hK.le l) hv⟩,ok,(AS.iF.refl a).more (λ _ h=>(List.not_mem_nil h).elim)⟩,?_⟩
 exact((hw.dF (.tail .head)).dF (.tail .head)).rI
end
end

end Go.Proofs.YtbajmaoegmbfgaaGreat

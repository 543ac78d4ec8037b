/- Merged. -/
import Derived.Test.YtbajmaoegmbfgaaGreatGTt3
import Derived.Test.YtbajmaoegmbfgaaGreatGNode2
set_option linter.unusedSimpArgs false
set_option linter.unusedVariables false
namespace Go.Ct
open Go Go.RowKit
section
theorem SF.aAS{w0 w:World}{M:List Nat}{H:List (Nat×Obj)}{A A' F:Fr}{O:List Ow}(h:SF w0 M H A F O w)(hA:∀f∈A',f∈A):SF w0 M H A' F O w:=⟨h.st,λ f hf=>h.bJ f (hA f hf),h.new,h.own,h.dis⟩
abbrev AS.al(a:AS)(n:Nd)(xs:List Int)(ys:List Pr)(init:Int)(x:AX):AS:=⟨a.L++[nM n xs ys a.cs.length x],eU n.kind a.cs init,a.gen,a.acc,x.pn,x.cn,x.pc,x.cc⟩
theorem mU{a:AS}(r:Int):aS a.mm.nodes r=(aB (cP a.L) r).c:=(rA _ _).symm
theorem Tu(a:AS):a.mm.nodes.length=a.L.length+2:=by show((cP a.L).map aP.c).length=_;rw[List.length_map,kB]
theorem y9{n c c':Nat}{v:Nv}{i:Int}{cs:List Int}(hb:lX n c {v with main:=0,prev:=0,status:=0})(hc:c=cs.length)(h1:n+1=c'):lX c' (eU v.kind cs i).length (cK v c):=by
 subst hc
 have hcs:=jY (k:=v.kind) (cs:=cs) (init:=i)
 have hb':=hb.mono (n':=c') (c':=(eU v.kind cs i).length) (by omega) hcs.1
 refine⟨hb'.bJ,hb'.exp,hb'.new,hb'.br,?_,?_,?_,hb'.bm,hb'.hash⟩
 ·show(if v.kind=2 then((cs.length+1:Nat):Int) else 0)<=_
  split
  ·rename_i hk;unfold eU;rw[if_pos (.inl hk)];simp
  ·omega
 ·show(if v.kind=3∨v.kind=5∨v.kind=6 then((cs.length+1:Nat):Int) else 0)<=_
  split
  ·rename_i hk;unfold eU;rw[if_pos (by omega)];simp
  ·omega
 ·show(if v.kind=8 then((cs.length+1:Nat):Int) else 0)<=_
  split
  ·rename_i hk;unfold eU;rw[if_pos (by omega)];simp
  ·omega
theorem Zn.push{s:Mm}(h:Zn s){v:Nv}{i:Int}(hb:lX s.nodes.length s.cs.length {v with main:=0,prev:=0,status:=0})(hi:i<=s.nodes.length+1):Zn (s.push v i):=by
 have hcs:=jY (k:=v.kind) (cs:=s.cs) (init:=i)
 have hl:(s.nodes++[cK v s.cs.length]).length=s.nodes.length+1:=by simp
 refine⟨λ u hu=>?_,λ u hu=>?_,by have:=h.two;show 2<=(s.nodes++[cK v s.cs.length]).length;omega⟩
 ·show lX (s.nodes++[cK v s.cs.length]).length (eU v.kind s.cs i).length u
  rcases List.mem_append.1 hu with hu|hu
  ·exact(h.nd u hu).mono (by omega) hcs.1
  ·rw[List.mem_singleton.1 hu]
   exact y9 hb rfl hl.symm
 ·show u<=((s.nodes++[cK v s.cs.length]).length:Int)
  have hu':u∈eU v.kind s.cs i:=hu
  unfold eU at hu'
  split at hu'
  ·rcases List.mem_append.1 hu' with h2|h2
   ·have:=h.cs u h2;omega
   ·rw[List.mem_singleton.1 h2];omega
  ·have:=h.cs u hu';omega
theorem tR(a:AS)(n:Nd)(xs:List Int)(ys:List Pr)(init:Int)(x:AX):(a.al n xs ys init x).mm=a.mm.push (n.c xs ys) init:=by
 unfold AS.mm Mm.push
 simp only[cP,List.map_cons,List.map_append,List.map_nil,List.cons_append]
 rfl
theorem AS.Ok.al{a:AS}(ok:a.Ok){n:Nd}{xs:List Int}{ys:List Pr}{init:Int}(x:AX)(hx:xs.length<=274877906944)(hy:ys.length<=274877906944)(hb:lX a.mm.nodes.length a.mm.cs.length {n.c xs ys with main:=0,prev:=0,status:=0})(hi:init<=a.mm.nodes.length+1):(a.al n xs ys init x).Ok:=by
 refine⟨λ v hv=>?_,by rw[tR];exact ok.mo.push hb hi⟩
 rcases List.mem_append.1 hv with hv|hv
 ·exact ok.fit v hv
 ·rw[List.mem_singleton.1 hv];exact Lg (by omega) (by omega)
theorem Vi(s:Mm)(v:Nv)(i:Int):s.Le (s.push v i):=⟨⟨_,rfl⟩,jY.1⟩
theorem AS.jZ.al(a:AS)(n:Nd)(xs:List Int)(ys:List Pr)(init:Int)(x:AX):a.jZ (a.al n xs ys init x) (nM n xs ys a.cs.length x).fr:=⟨by rw[tR];exact Vi _ _ _,λ f hf=>by
 rw[dD] at hf
 rcases List.mem_append.1 hf with h|h
 ·exact .inr (.inl h)
 ·refine .inr (.inr ?_)
  simpa[aM] using h⟩
theorem Ud{A B B1:Fr}(h:∀f∈B,f∈A):∀f∈B1++B,f∈B1++A:=λ f hf=>(List.mem_append.1 hf).elim (λ h=>List.mem_append_left _ h) λ hf=>List.mem_append_right _ (h f hf)
theorem bG.y8{A B1:Fr}{O:List Ow}:bG A B1 O (B1++A):=bG.of λ f hf=>(List.mem_append.1 hf).elim (λ h=>.inr (.inr (.inl h))) λ h=>.inr (.inl h)
theorem bG.y0{A F:Fr}{O:List Ow}{x y:Option Addr×List Value}:bG A (x::y::F) O (x::y::A):=bG.of λ f hf=>by
 rcases List.mem_cons.1 hf with h|hf
 ·exact .inr (.inr (.inl (by rw[h];simp)))
 ·rcases List.mem_cons.1 hf with h|hf
  ·exact .inr (.inr (.inl (by rw[h];simp)))
  ·exact .inr (.inl hf)
theorem Se{A B:Fr}{x y:Option Addr×List Value}(h:∀f∈B,f∈A):∀f∈x::y::B,f∈x::y::A:=λ f hf=>(List.mem_cons.1 hf).elim (λ h=>h▸List.mem_cons_self ..) λ hf=>(List.mem_cons.1 hf).elim (λ h=>h▸List.mem_cons_of_mem _ (List.mem_cons_self ..)) λ hf=>List.mem_cons_of_mem _ (List.mem_cons_of_mem _ (h f hf))
theorem Wt{P:Program}{S:List (Nat×Value)}{d:Nat}{ty t:TypeId}{pos:String}{af:Array Edge}{gd:Option (Nat×Bool)}{w0:World}{M:List Nat}{H:List (Nat×Obj)}{z:Value}(hz:cU P t=some z)(h1:z.oneCell'=true):bF P S (St w0 M H) ⟨some d,.alloc t,ty,pos,af,gd⟩ Nat (λ b=>.pointer (some ⟨b,0,none⟩)) (λ b=>St w0 M ((b,.cells ⟨[z]⟩ t (0,0))::H)) :=
 V2 (λ w _=>by
  have e:z.cells = #[z]:=by cases z<;>simp_all[Value.cells,Value.oneCell']
  simp[execOp,Instr.alloc,Qv hz,newVar,newRow,e])
end
end Go.Ct
namespace Go.Proofs.YtbajmaoegmbfgaaGreat
open Go Go.RowKit Go.Ct
section
section
variable{D:List Nat}{A:Fr}{a:AS}{b:Nat}{w:World}
theorem Lt(ok:a.Ok)(hm:a.mm.Small)(hA:∀f∈aM a.L,f∈A)(r:Int)(hr:r<=a.mm.nodes.length)(hs:SF w D [(b,gH a)] A [] (gK a) w) :
  Calls Tryz.prog 36 #[.pointer (some ⟨b,0,none⟩),.int .i64 r] w λ e w'=>∃q:Option Addr×Option Addr,e=.returned (.agg ⟨((aB (cP a.L) r).at_ q.1 q.2).nd.cells⟩)/\True /\
  SF w D [(b,gH a)] [] [] (gK a++[⟨q.2,cY (aB (cP a.L) r).ys,(aB (cP a.L) r).ys.length,164,2⟩,⟨q.1,aG (aB (cP a.L) r).xs,(aB (cP a.L) r).xs.length,37,1⟩]) w':=by
 have h1:=hm.1
 have h2:=Tu a
 exact Vg (hs.aAS hA) ok.fit r (by omega) (by omega)
theorem My{S:List (Nat×Value)}{w0:World}{M:List Nat}{H H':List (Nat×Obj)}{F:Fr}{O O':List Ow}{ty:TypeId}{pos:String}{af:Array Edge}{gd:Option (Nat×Bool)}{is js:List Nat}{recv:Operand}{xs:List Operand}{at_:Array TypeId}{dst:Option Nat}{H1:Option Addr×Option Addr->List (Nat×Obj)}{F1:Option Addr×Option Addr->Fr}{O1:Option Addr×Option Addr->List Ow}
  (r:Int) (ok:a.Ok) (hm:a.mm.Small) (hA:∀f∈aM a.L,f∈A) (hr:r<=a.mm.nodes.length) (hx:ev S recv=.iface 42 (.pointer (some ⟨b,0,none⟩)):=by exact rfl) (ha:qX S xs=[.int .i64 r]:=by exact evD) (hH:lY H is [(b,gH a)] H':=by exact Xh) (hO:lY O js (gK a) O':=by exact Xh)
  (hl1:is.length=1:=by exact rfl) (hl2:js.length=2:=by exact rfl) (hH1:∀x,iT is [(b,gH a)] H'=H1 x:=by intro x;simp only[iT,rS];exact rfl) (hF1:∀x,[]++F=F1 x:=by intro x;exact rfl)
  (hO1:∀x,[⟨x.2,cY (aB (cP a.L) r).ys,(aB (cP a.L) r).ys.length,164,2⟩,⟨x.1,aG (aB (cP a.L) r).xs,(aB (cP a.L) r).xs.length,37,1⟩]++iT js (gK a) O'=O1 x:=by intro x;simp only[iT,rS,mW,List.nil_append,List.cons_append];exact rfl) :
  bF Tryz.prog S (SF w0 M H A F O) ⟨dst,.call {callee:=.invoke recv "Node",args:=⟨xs⟩,argTypes:=at_},ty,pos,af,gd⟩ (Option Addr×Option Addr) (λ q=>.agg ⟨((aB (cP a.L) r).at_ q.1 q.2).nd.cells⟩) (λ x w=>True/\SF w0 M (H1 x) A (F1 x) (O1 x) w) :=
 aCt (hs:=[(b,gH a)]) (os:=gK a) (A0:=A) (hs':=λ _=>[(b,gH a)]) (os':=λ _=>gK a) (Fc:=λ _=>[]) (Oc:=λ q=>[⟨q.2,cY (aB (cP a.L) r).ys,(aB (cP a.L) r).ys.length,164,2⟩,⟨q.1,aG (aB (cP a.L) r).xs,(aB (cP a.L) r).xs.length,37,1⟩]) hx ha (λ w=>gp _ _ w) (λ w1 hw=>Lt ok hm hA r hr hw) hH hO (bG.of λ _ h=>.inr (.inl h)) (λ _=>hl1) (λ _=>hl2) hH1 hF1 hO1
theorem Gt(ok:a.Ok)(hm:a.mm.Small){n:Nd}{xs:List Int}{ys:List Pr}(init:Int)(e1:n.brN=xs.length)(e2:n.prN=ys.length)(hx:xs.length<=274877906944)(hy:ys.length<=274877906944)(hA:∀f∈[(n.brA,aG xs),(n.prA,cY ys)],f∈A)(hs:SF w D [(b,gH a)] A [] (gK a) w) :
  Calls Tryz.prog 29 #[.pointer (some ⟨b,0,none⟩),n.v,.int .i64 init] w λ e w'=>∃x:AX,e=.returned (.int .i64 ((a.mm.nodes.length+1:Nat):Int))/\True/\SF w D [(b,gH (a.al n xs ys init x))] [] (nM n xs ys a.cs.length x).fr (gK (a.al n xs ys init x)) w':=by
 have h1:=hm.1
 have h3:a.cs.length<=137438953472:=hm.2
 have h2:=Tu a
 rw[show a.mm.nodes.length+1=a.L.length+3 by omega]
 exact kx init (hs.aAS hA) e1 e2 hx hy (by omega) (by omega)
end
end
end Go.Proofs.YtbajmaoegmbfgaaGreat
namespace Go.Ct
open Go Go.RowKit
section
abbrev XS.a0(z:XS):XS:={z with acc:=0}
theorem XS.Ok.mo{x:XS}(h:x.Ok):Zn x.mm:=by
 have hl:x.mm.nodes.length=x.L.length:=by show(x.L.map aP.c).length=_;rw[List.length_map]
 refine⟨λ v hv=>?_,λ v hv=>?_,by have:=h.two;omega⟩
 ·obtain⟨u,hu,rfl⟩:=List.mem_map.1 hv
  rw[hl]
  exact h.nd u hu
 ·rw[hl];exact h.cs v hv
end
end Go.Ct
namespace Go.Proofs.YtbajmaoegmbfgaaGreat
open Go.Proofs.Tryz (prog)
open Go Go.RowKit Go.Ct
section
abbrev Al(z:XS):List Ow:=[⟨z.pn,iJ z.L,z.cn,47,14⟩,⟨z.pc,aG z.cs,z.cc,37,1⟩]
theorem Xe{bm:Nat}{z:XS}{D:List Nat}{A:Fr}{w:World}(ok:z.Ok)(hp:gC z.L z.cs z.gen)(hl:z.L.length<=137438953472)(hc:z.cs.length<=137438953472)(hA:∀f∈aM z.L,f∈A)(hs:SF w D [(bm,xM z)] A [] (Al z) w) :
    Calls prog 24 #[.pointer (some ⟨bm,0,none⟩)] w λ e w'=>∃q:Nat×AS,e=.returned (.pointer (some ⟨q.1,0,none⟩))/\(q.2.mm=z.mm/\q.2.Ok)/\SF w D ([(bm,xM z.a0)]++[(q.1,gH q.2)]) [] (aM q.2.L) (Al z++gK q.2) w':=by
  refine enter Tryz.func24 Tryz.ntmps24 rfl rfl hs ?_
  simp only[cC]
  refine cX ?_;refine I1 ?_;refine aC (aT (k:=3) rf dC eT (by simp only[List.drop_zero,List.take_succ_cons,List.take_zero];exact rfl) rfl) rfl ?_;refine aD (Ul (V:=λ x:Nat×List aP×(Option Addr×Nat)×(Option Addr×Nat)=>.tuple #[.pointer (some ⟨x.1,0,none⟩),.int .i64 0]) (Hc:=λ x=>[(x.1,aO x.2.1 z.cs z.gen 0 x.2.2.1.1 x.2.2.1.2 x.2.2.2.1 x.2.2.2.2)]) (Fc:=λ x=>aM x.2.1) (Oc:=λ x=>mW x.2.1 z.cs x.2.2.1.1 x.2.2.1.2 x.2.2.2.1 x.2.2.2.2) (hc:=λ w1 hw=>fj (L:=z.L) (cs:=z.cs) (hw.Gm (.inr (.inr (.inr ⟨_,.head _,rfl,rfl⟩))) (.inr (.inr (.inr ⟨_,.tail _ (.head _),rfl,rfl⟩))) (λ f hf=>.inr (.inl (hA f hf))) ok.fit) (by omega) (by omega) (hw.yi .head) hp)) (λ x10 h10=>?_);refine Kb5 ?_;refine Kc8 ?_
  refine bC (λ c14=>?_) (λ c14=>?_)
  · exact nv c14
  · refine aZ ?_;refine J13 ?_;refine uM ?_;refine Ka4 ?_
    refine aR Tryz.results24 (λ w hw=>?_)
    have e1:(⟨x10.2.1,z.cs,z.gen,0,x10.2.2.1.1,x10.2.2.1.2,x10.2.2.2.1,x10.2.2.2.2⟩:AS).mm=z.mm:=by
     show Mm.mk ((cP x10.2.1).map aP.c) z.cs z.gen=Mm.mk (z.L.map aP.c) z.cs z.gen
     rw[h10.1]
    refine⟨(x10.1,⟨x10.2.1,z.cs,z.gen,0,x10.2.2.1.1,x10.2.2.1.2,x10.2.2.2.1,x10.2.2.2.2⟩),rfl,⟨e1,⟨h10.2,by rw[e1];exact ok.mo⟩⟩,?_⟩
    exact(hw.perm (H':=[(bm,xM z.a0),(x10.1,_)]) (O':=Al z++mW x10.2.1 z.cs x10.2.2.1.1 x10.2.2.1.2 x10.2.2.2.1 x10.2.2.2.2) (List.Perm.swap _ _ _) (List.perm_append_comm (l₁:=Al z))).ret (List.Sublist.refl _) (aY.jH λ f hf=>by simpa using hf) (List.Sublist.refl _)
theorem mT{m B C E:Nat}{W:Wd}(h:Cs m B C E W):gC W.z.L W.z.cs W.z.gen:=by
 obtain⟨σ,hi⟩:=h.wr.inv
 have e1:σ.mm.nodes=W.z.L.map aP.c:=by rw[hi.mm];rfl
 have e2:σ.mm.cs=W.z.cs:=by rw[hi.mm];rfl
 have e3:σ.mm.gen=W.z.gen:=by rw[hi.mm];rfl
 have:=hi.inv.prop
 rw[e2,e3] at this
 exact this.to e1.symm
theorem Vo{f:FuncId}{vs:Array Value}{w:World}{D:List Nat}{b:Nat}{φ:Nat×Cd×Fr×AS->Prop}(h:Calls prog f vs w λ e w'=>∃x:Nat×Cd×Fr×AS,e=.returned (.pointer (some ⟨x.1,0,none⟩))/\φ x/\SF w D [(x.1,tO b x.2.1 0),(b,gH x.2.2.2)] [] x.2.2.1 (gK x.2.2.2) w') :
  Calls prog f vs w λ e w'=>∃x:Nat×Cd×Fr×AS,e=.returned (.pointer (some ⟨x.1,0,none⟩))/\φ x/\SF w D ([(b,gH x.2.2.2)]++[(x.1,tO b x.2.1 0)]) [] x.2.2.1 (gK x.2.2.2++[]) w' :=
 h.mono λ _ _ ⟨x,e,h,hw⟩=>⟨x,e,h,by rw[List.append_nil];exact hw.perm (List.Perm.swap _ _ _) (List.Perm.refl _)⟩
end
section
abbrev oT(b:Nat)(t:dL):List Value:=[.iface 42 (.pointer (some ⟨b,0,none⟩)),.int .i64 t.root,.bool t.ro]
def l9(prev p:Int)(c:Bool)(K:Bool->Tr):Tr:=if c=true then .jE prev p 0 K else .alloc (oN p) 0 λ f=>.jE prev p f K
theorem tP{a:AS}(hm:a.mm.Small){x:Int}(h:x<=a.mm.cs.length):x<=9223372036854775807:=by have:=hm.2;omega
theorem He{a:AS}(ok:a.Ok)(r:Int):lX a.mm.nodes.length a.mm.cs.length (aB (cP a.L) r).c:=by rw[<- mU];exact ok.mo.at r
section
variable{D:List Nat}{A B:Fr}{a:AS}{b:Nat}{w:World}{f:FuncId}{cap:List Value}{t:dL}
theorem jx{K:Int->Tr}{v:Int}{s:Mm}{b2 b3:Nat}(hK:Iq b K s f cap B)(hv:v<=s.nodes.length)(o:Bool):zM b 201 [pt b2,pt b3] [.bool o] (bx b3 [.int .i64 v]::bx b2 [fn f cap]::B) s (K v):=by
 intro a D A w em ok hm hA hB hw0
 subst em
 have hK2:=hK.more (B2:=(bx b3 [.int .i64 v]::bx b2 [fn f cap]::B)) (λ x hx=>by simp[hx])
 refine enter Tryz.func201 Tryz.ntmps201 rfl rfl hw0 ?_
 simp only[cC]
 refine J0 ?_;refine aK (λ x4=>?_);refine aH ?_;refine J0 ?_;refine aC (rW b2 [fn f cap] 0 hB rfl) rfl ?_;refine aC (rW b3 [.int .i64 v] 0 hB rfl) rfl ?_;refine aD (Sq hK.1 (hK2.2 v a.mm (Mm.Le.refl _) hv) ok hm hA hB) (λ x7 h7=>?_);refine dA (jR λ _=>bS rf dC rf (eF _) eT rf lS) (λ _=>?_);refine aH ?_
 refine bE Tryz.results201 (λ w hw=>?_)
 exact⟨x7,rfl,h7,hw.rN⟩
theorem A1{K:Int->Tr}{v:Int}{s:Mm}{b2 b3:Nat}(hK:Iq b K s f cap B)(hv:v<=s.nodes.length)(o:Bool):zM b 174 [pt b2,pt b3] [.bool o] (bx b3 [.int .i64 v]::bx b2 [fn f cap]::B) s (K v):=by
 intro a D A w em ok hm hA hB hw0
 subst em
 have hK2:=hK.more (B2:=(bx b3 [.int .i64 v]::bx b2 [fn f cap]::B)) (λ x hx=>by simp[hx])
 refine enter Tryz.func174 Tryz.ntmps174 rfl rfl hw0 ?_
 simp only[cC]
 refine J0 ?_;refine aK (λ x4=>?_);refine aH ?_;refine J0 ?_;refine aC (rW b2 [fn f cap] 0 hB rfl) rfl ?_;refine aC (rW b3 [.int .i64 v] 0 hB rfl) rfl ?_;refine aD (Sq hK.1 (hK2.2 v a.mm (Mm.Le.refl _) hv) ok hm hA hB) (λ x7 h7=>?_);refine dA (jR λ _=>bS rf dC rf (eF _) eT rf lS) (λ _=>?_);refine aH ?_
 refine bE Tryz.results174 (λ w hw=>?_)
 exact⟨x7,rfl,h7,hw.rN⟩
theorem Wv{K:Int->Tr}{i m p:Int}(hK:Iq b K a.mm f cap B)(hi:i<=a.mm.nodes.length)(hmm:m<=a.mm.nodes.length)(hp:p<=a.mm.nodes.length)(ok:a.Ok)(hm:a.mm.Small)(hA:∀f∈aM a.L,f∈A)(hB:∀x∈B,x∈A)(hs:SF w D [(b,gH a)] A [] (gK a) w) :
  Calls prog 163 #[.agg ⟨oT b t⟩,.int .i64 i,.int .i64 m,.int .i64 p,fn f cap] w (Gy b (λ c' s' B'=>lW b (I3 i m p K) a.mm c' s' B') a B D w):=by
 have ni:=He ok i
 have np:=He ok p
 refine enter Tryz.func163 Tryz.ntmps163 rfl rfl hs ?_
 simp only[cC]
 refine J0 ?_;refine bM (λ x5=>?_);refine bM (λ x9=>?_);refine aK (λ x10=>?_);refine aH ?_;refine Kb9 ?_;refine aD (My p ok hm hA hp) (λ x15 h15=>?_);refine cE ?_;refine aQ (jR λ _=>Wt (z:=.int .i64 0) (by kernel_rfl) rfl) (λ x11=>?_);refine J5 ?_;refine aV ?_;refine eC [(0,[]),(1,[]),(2,[]),(5,[]),(6,[]),(7,[]),(3,[6]),(4,[]),(8,[]),(9,[])] ?_;refine lH ?_;refine iL ?_;refine bT ?_;(refine cJ (i:=7) (hq:=dZ) (h:=?_));refine bB (i:=3) (hq:=(My i ok hm hA hi)) (h:=λ x20 h20=>?_);refine lC ?_;refine cR (i:=8) (hq:=(cV (hc:=λ w1 hw=>zR _ _ _ _ _ w1))) (h:=λ x25=>?_);refine kU (i:=9) (hq:=(jR λ _=>bS rf dC rf (eF _) eT rf lS)) (h:=λ _=>?_);refine eL ?_
 refine bE Tryz.results163 (λ w hw=>?_)
 refine⟨(yG (aB (cP a.L) i).nd.main m (aB (cP a.L) p).nd.bJ _ _,[bx x11 [.int .i64 (aB (cP a.L) p).nd.bJ],bx x9 [fn f cap]],a),rfl,⟨?_,ok,(AS.jZ.refl a).more (λ _ h=>(List.not_mem_nil h).elim)⟩,?_⟩
 ·refine⟨hi,hp,?_⟩
  rw[mU,mU]
  refine⟨rfl,tP hm ni.main,np.bJ,_,_,rfl,by kernel_rfl,λ v s1 l=>?_⟩
  show A6 b _ _ _ _ s1 λ c' s' B'=>p<=s1.nodes.length/\lW b (K (aS s1.nodes p).bJ) s1 c' s' B'
  rw[l.nd hp,mU]
  have hlen:=l.len
  exact(jx (hK.le l) (by have h2:(aB (cP a.L) p).nd.bJ<=a.mm.nodes.length:=np.bJ;omega) v).more (λ _ h=>h) λ c m C C2 hC h=>⟨by omega,h.more hC⟩
 ·exact((hw.eN (.tail (.tail .head))).eN .head).rI
theorem C5{K:Int->Tr}{v s:Int}(ht:t.root<=9223372036854775807)(hK:Iq b K a.mm f cap B)(hv:v<=a.mm.nodes.length)(ok:a.Ok)(hm:a.mm.Small)(hA:∀f∈aM a.L,f∈A)(hB:∀x∈B,x∈A)(hs:SF w D [(b,gH a)] A [] (gK a) w) :
  Calls prog 141 #[.agg ⟨oT b t⟩,.int .i64 v,.int .i64 s,fn f cap] w (Gy b (λ c' s' B'=>lW b (uL t v s K) a.mm c' s' B') a B D w):=by
 have nv:=He ok v
 refine enter Tryz.func141 Tryz.ntmps141 rfl rfl hs ?_
 simp only[cC]
 refine J0 ?_;refine bM (λ x4=>?_);refine bM (λ x7=>?_);refine aK (λ x8=>?_);refine aH ?_;refine Kb9 ?_;refine aD (My v ok hm hA hv) (λ x14 h14=>?_);refine aK (λ x9=>?_);refine J5 ?_;refine iI ?_;refine aQ (jR λ _=>Wt (z:=.int .i64 0) (by kernel_rfl) rfl) (λ x10=>?_);refine J5 ?_;refine kT ?_;refine uI ?_
 refine bC (λ c18=>?_) (λ c18=>?_)
 ·refine dM ?_;refine J3 ?_;refine J5 ?_;refine Kc3 ?_;refine J3 ?_;refine aA ?_;refine bR ?_;(refine aC dZ rfl ?_);refine aQ (cV (hc:=λ w1 hw=>zR _ _ _ _ _ w1)) (λ x27=>?_);refine dA (jR λ _=>bS rf dC rf (eF _) eT rf lS) (λ _=>?_);refine aH ?_
  refine bE Tryz.results141 (λ w hw=>?_)
  refine⟨(yG t.root v (aB (cP a.L) v).nd.new _ _,[bx x10 [.int .i64 (aB (cP a.L) v).nd.new],bx x7 [fn f cap]],a),rfl,⟨?_,ok,(AS.jZ.refl a).more (λ _ h=>(List.not_mem_nil h).elim)⟩,?_⟩
  ·refine⟨hv,?_⟩
   rw[mU]
   have e:(if s=1 then(aB (cP a.L) v).c.new else(aB (cP a.L) v).c.bJ)=(aB (cP a.L) v).nd.new:=by exact if_pos (by omega)
   dsimp only
   rw[e]
   refine⟨rfl,ht,nv.new,_,_,rfl,by kernel_rfl,λ o s1 l=>?_⟩
   have hlen:=l.len
   exact A1 (hK.le l) (by have h2:(aB (cP a.L) v).nd.new<=a.mm.nodes.length:=nv.new;omega) o
  ·exact((hw.eN (.tail (.tail (.tail .head)))).eN .head).rI
 ·refine aZ ?_;refine Kc3 ?_;refine J3 ?_;refine aA ?_;refine bR ?_;(refine aC dZ rfl ?_);refine aQ (cV (hc:=λ w1 hw=>zR _ _ _ _ _ w1)) (λ x27=>?_);refine dA (jR λ _=>bS rf dC rf (eF _) eT rf lS) (λ _=>?_);refine aH ?_
  refine bE Tryz.results141 (λ w hw=>?_)
  refine⟨(yG t.root v (aB (cP a.L) v).nd.bJ _ _,[bx x10 [.int .i64 (aB (cP a.L) v).nd.bJ],bx x7 [fn f cap]],a),rfl,⟨?_,ok,(AS.jZ.refl a).more (λ _ h=>(List.not_mem_nil h).elim)⟩,?_⟩
  ·refine⟨hv,?_⟩
   rw[mU]
   have e:(if s=1 then(aB (cP a.L) v).c.new else(aB (cP a.L) v).c.bJ)=(aB (cP a.L) v).nd.bJ:=by exact if_neg (by omega)
   dsimp only
   rw[e]
   refine⟨rfl,ht,nv.bJ,_,_,rfl,by kernel_rfl,λ o s1 l=>?_⟩
   have hlen:=l.len
   exact A1 (hK.le l) (by have h2:(aB (cP a.L) v).nd.bJ<=a.mm.nodes.length:=nv.bJ;omega) o
  ·exact((hw.eN (.tail (.tail (.tail .head)))).eN .head).rI
theorem Jk{K:Bool->Tr}{prev p:Int}{c:Bool}(hK:Yu b K a.mm f cap B)(hpr:prev<=a.mm.cs.length)(hp:p<=a.mm.nodes.length)(ok:a.Ok)(hm:a.mm.Small)(hA:∀f∈aM a.L,f∈A)(hB:∀x∈B,x∈A)(hs:SF w D [(b,gH a)] A [] (gK a) w) :
  Calls prog 166 #[.agg ⟨oT b t⟩,.int .i64 prev,.int .i64 p,.bool c,fn f cap] w (Gy b (λ c' s' B'=>lW b (l9 prev p c K) a.mm c' s' B') a B D w):=by
 refine enter Tryz.func166 Tryz.ntmps166 rfl rfl hs ?_
 simp only[cC]
 refine J0 ?_;refine bM (λ x5=>?_);refine aK (λ x10=>?_);refine aH ?_;refine kT ?_;refine aH ?_
 refine bC (λ c12=>?_) (λ c12=>?_)
 ·refine Kc2 ?_;refine aQ (cV (hc:=λ w1 hw=>zR _ _ _ _ _ w1)) (λ x16=>?_);refine dA (jR λ _=>bS rf dC rf (eF _) eT rf lS) (λ _=>?_);refine aH ?_
  refine bE Tryz.results166 (λ w hw=>?_)
  refine⟨(yG prev p 0 f cap,[],a),rfl,⟨?_,ok,AS.jZ.refl a⟩,hw.rI⟩
  unfold l9
  rw[if_pos (by assumption)]
  exact⟨rfl,tP hm hpr,bK _,f,cap,rfl,hK.1,λ v s1 l=>hK.2 v s1 l⟩
 ·refine kW ?_;refine eC [(0,[]),(1,[]),(2,[]),(4,[]),(5,[]),(3,[1]),(6,[]),(7,[])] ?_;refine lH ?_;refine aN ?_;refine cJ (i:=4) (hq:=(Pj rf)) (h:=?_);refine aN ?_;refine cR (i:=3) (hq:=(cV (hc:=λ w1 hw=>fm p w1))) (h:=λ x20=>?_);refine bB (i:=6) (hq:=(cMI (V:=λ _:AX=>.int .i64 ((a.mm.nodes.length+1:Nat):Int)) (hs:=[(b,gH a)]) (os:=gK a) (A0:=[(none,aG []),(none,cY [])]) (hs':=λ x=>[(b,gH (a.al ({Nd.zero with kind:=7,bJ:=p}:Nd) [] [] 0 x))]) (os':=λ x=>gK (a.al ({Nd.zero with kind:=7,bJ:=p}:Nd) [] [] 0 x)) (Fc:=λ x=>(nM ({Nd.zero with kind:=7,bJ:=p}:Nd) [] [] a.cs.length x).fr) (hm:=λ w=>Xk _ _ _ w) (hc:=λ w1 hw=>Gt ok hm 0 rfl rfl (by simp) (by simp) (λ f hf=>hf) hw))) (h:=λ x23 h23=>?_);refine J7 ?_;refine jG ?_;refine pK ?_;refine aQ (cV (hc:=λ w1 hw=>zR _ _ _ _ _ w1)) (λ x28=>?_);refine dA (jR λ _=>bS rf dC rf (eF _) eT rf lS) (λ _=>?_);refine aH ?_
  refine bE Tryz.results166 (λ w hw=>?_)
  refine⟨(yG prev p ((a.mm.nodes.length+1:Nat):Int) f cap,(nM ({Nd.zero with kind:=7,bJ:=p}:Nd) [] [] a.cs.length x23).fr,a.al ({Nd.zero with kind:=7,bJ:=p}:Nd) [] [] 0 x23),rfl,⟨?_,ok.al x23 (by simp) (by simp) ⟨?_,bK _,bK _,(λ r hr=>nomatch hr),bK _,bK _,bK _,⟨0,rfl,by decide⟩,⟨0,rfl,by decide⟩⟩ (by omega),AS.jZ.al a _ _ _ _ x23⟩,hw.rI⟩
  ·unfold l9
   rw[if_neg (by simp_all)]
   have hl:=Vi a.mm (oN p) 0
   refine⟨tR a _ _ _ _ x23,?_,?_,f,cap,rfl,hK.1,λ v s1 l=>(hK.2 v s1 (hl.trans l)).more (λ x hx=>List.mem_append_right _ hx) λ _ _ _ _ hC h=>h.more hC⟩
   ·have:=hl.cl;have:=hm.2;omega
   ·show _<=(((a.mm.nodes++[_]).length:Nat):Int)
    rw[List.length_append]
    simp
  ·show p<=_
   exact hp
end
end
section
section
variable{D:List Nat}{A B:Fr}{a:AS}{b:Nat}{w:World}{f:FuncId}{cap:List Value}{t:dL}
theorem ld{K:Int->Tr}{v x:Int}{s:Mm}{b1 b2 b3:Nat}(ht:t.root<=9223372036854775807)(hK:Iq b K s f cap B)(hv:v<=s.nodes.length):zM b 206 [pt b1,pt b2,pt b3] [.int .i64 x] (bx b1 (oT b t)::bx b2 [iv v]::bx b3 [fn f cap]::B) s (uL t v x K):=by
 intro a D A w em ok hm hA hB hw0
 subst em
 have hK2:=hK.more (B2:=(bx b1 (oT b t)::bx b2 [iv v]::bx b3 [fn f cap]::B)) (λ x hx=>by simp[hx])
 refine enter Tryz.func206 Tryz.ntmps206 rfl rfl hw0 ?_
 simp only[cC]
 refine J0 ?_;refine aK (λ x5=>?_);refine aH ?_;refine J0 ?_;refine aC (o0 b1 (oT b t) 0 3 hB rfl rfl) rfl ?_;refine aC (rW b2 [.int .i64 v] 0 hB rfl) rfl ?_;refine aA ?_;refine aC (rW b3 [fn f cap] 0 hB rfl) rfl ?_;refine aD (Ri (λ w1 hw=>C5 ht hK2 hv ok hm hA hB hw)) (λ x10 h10=>?_);refine dA (jR λ _=>bS rf dC rf (eF _) eT rf lS) (λ _=>?_);refine aH ?_
 refine bE Tryz.results206 (λ w hw=>?_)
 exact⟨x10,rfl,h10,hw.rN⟩
theorem mw{K:Int->Tr}{v:Int}{s:Mm}{b0 b1 b2 b3:Nat}{nd:Nd}(ht:t.root<=9223372036854775807)(hK:Iq b K s f cap B)(hv:v<=s.nodes.length)(hd:nd.status<=9223372036854775807)(o:Bool):zM b 205 [pt b0,pt b1,pt b2,pt b3] [.bool o] (bx b0 (nd.cells:List Value)::bx b1 (oT b t)::bx b2 [iv v]::bx b3 [fn f cap]::B) s (.load nd.status λ s=>uL t v s K):=by
 intro a D A w em ok hm hA hB hw0
 subst em
 have hK2:=hK.more (B2:=(bx b0 (nd.cells:List Value)::bx b1 (oT b t)::bx b2 [iv v]::bx b3 [fn f cap]::B)) (λ x hx=>by simp[hx])
 refine enter Tryz.func205 Tryz.ntmps205 rfl rfl hw0 ?_
 simp only[cC]
 refine J0 ?_;refine aK (λ x6=>?_);refine aH ?_;refine Kc3 ?_;refine aC (rW b0 (nd.cells:List Value) 13 hB rfl) rfl ?_;(refine aC dZ rfl ?_);refine aQ (cV (hc:=λ w1 hw=>Ag _ _ _ w1)) (λ x10=>?_);refine dA (jR λ _=>bS rf dC rf (eF _) eT rf lS) (λ _=>?_);refine aH ?_
 refine bE Tryz.results205 (λ w hw=>?_)
 exact⟨(wY nd.status _ _,[],a),rfl,⟨⟨rfl,hd,_,_,rfl,by kernel_rfl,λ x s1 l hx=>(ld (b1:=b1) (b2:=b2) (b3:=b3) ht (hK.le l) (by have:=l.len;omega)).mr (λ y hy=>List.mem_cons_of_mem _ hy)⟩,ok,AS.jZ.refl a⟩,hw.rI⟩
theorem bc{K:Int->Tr}{v x:Int}{s:Mm}{b0 b1 b2 b3:Nat}{nd:Nd}(ht:t.root<=9223372036854775807)(hK:Iq b K s f cap B)(hv:v<=s.nodes.length)(hd:nd.status<=9223372036854775807)(hn:(aS s.nodes v).status=nd.status):zM b 204 [pt b1,pt b2,pt b3,pt b0] [.int .i64 x] (bx b1 (oT b t)::bx b2 [iv v]::bx b3 [fn f cap]::bx b0 (nd.cells:List Value)::B) s (if x=0 then .node v λ n=>.jE n.status 0 2 λ _=>.node v λ n=>.load n.status λ s=>uL t v s K else uL t v x K):=by
 intro a D A w em ok hm hA hB hw0
 subst em
 have hK2:=hK.more (B2:=(bx b1 (oT b t)::bx b2 [iv v]::bx b3 [fn f cap]::bx b0 (nd.cells:List Value)::B)) (λ x hx=>by simp[hx])
 refine enter Tryz.func204 Tryz.ntmps204 rfl rfl hw0 ?_
 simp only[cC]
 refine J0 ?_;refine aK (λ x6=>?_);refine aH ?_;refine kT ?_;refine Kc8 ?_
 refine bC (λ c8=>?_) (λ c8=>?_)
 ·refine J0 ?_;refine aC (o0 b1 (oT b t) 0 3 hB rfl rfl) rfl ?_;refine aC (rW b2 [.int .i64 v] 0 hB rfl) rfl ?_;refine aA ?_;refine aC (rW b3 [fn f cap] 0 hB rfl) rfl ?_;refine aD (Ri (λ w1 hw=>C5 ht hK2 hv ok hm hA hB hw)) (λ x13 h13=>?_);refine dA (jR λ _=>bS rf dC rf (eF _) eT rf lS) (λ _=>?_);refine aH ?_
  refine bE Tryz.results204 (λ w hw=>?_)
  refine⟨x13,rfl,⟨?_,h13.2⟩,hw.rN⟩
  rw[if_neg (by omega)]
  exact h13.1
 ·refine aZ ?_;refine Kc3 ?_;refine aC (rW b0 (nd.cells:List Value) 13 hB rfl) rfl ?_;(refine aC dZ rfl ?_);refine aQ (cV (hc:=λ w1 hw=>zR _ _ _ _ _ w1)) (λ x17=>?_);refine dA (jR λ _=>bS rf dC rf (eF _) eT rf lS) (λ _=>?_);refine aH ?_
  refine bE Tryz.results204 (λ w hw=>?_)
  refine⟨(yG nd.status 0 2 _ _,[],a),rfl,⟨?_,ok,AS.jZ.refl a⟩,hw.rI⟩
  rw[if_pos (by omega)]
  refine⟨hv,?_⟩
  dsimp only
  rw[hn]
  refine⟨rfl,hd,by have:=ok.mo.two;omega,_,_,rfl,by kernel_rfl,λ o s1 l=>?_⟩
  have hlen:=l.len
  show A6 b _ _ _ _ s1 λ c' s' B'=>v<=s1.nodes.length/\lW b (.load (aS s1.nodes v).status λ s=>uL t v s K) s1 c' s' B'
  rw[l.nd hv,hn]
  exact(mw (b0:=b0) (b1:=b1) (b2:=b2) (b3:=b3) (nd:=nd) ht (hK.le l) (by omega) hd o).more (λ y hy=>by
  simp only[List.mem_cons,List.append_eq,List.nil_append] at hy ⊢
  rcases hy with h|h|h|h|h<;>simp[h]) λ c m C C2 hC h=>⟨by omega,h.more hC⟩
theorem di{K:Int->Tr}{v:Int}{s:Mm}{b1 b3:Nat}(ht:t.root<=9223372036854775807)(hK:Iq b K s f cap B)(hv:v<=s.nodes.length):zM b 203 [pt b1,pt b3] [.int .i64 v] (bx b1 (oT b t)::bx b3 [fn f cap]::B) s (.node v λ n=>if n.kind=2 then K v else .node v λ n=>.load n.status λ s=>if s=0 then .node v λ n=>.jE n.status 0 2 λ _=>.node v λ n=>.load n.status λ s=>uL t v s K else uL t v s K):=by
 intro a D A w em ok hm hA hB hw0
 subst em
 have hK2:=hK.more (B2:=(bx b1 (oT b t)::bx b3 [fn f cap]::B)) (λ x hx=>by simp[hx])
 have nv:=He ok v
 refine enter Tryz.func203 Tryz.ntmps203 rfl rfl hw0 ?_
 simp only[cC]
 refine J0 ?_;refine bM (λ x3=>?_);refine aK (λ x4=>?_);refine aH ?_;refine Kc3 ?_;refine aC (rW b1 (oT b t) 0 hB rfl) rfl ?_;refine bR ?_;refine aD (My v ok hm hA hv) (λ x9 h9=>?_);refine aK (λ x5=>?_);refine J5 ?_;refine Kc7 ?_
 refine bC (λ c12=>?_) (λ c12=>?_)
 ·refine J0 ?_;refine aC (rW b3 [fn f cap] 0 hB rfl) rfl ?_;refine bR ?_;refine aD (Sq hK2.1 (hK2.2 v a.mm (Mm.Le.refl _) hv) ok hm hA hB) (λ x15 h15=>?_);refine dA (jR λ _=>bS rf dC rf (eF _) eT rf lS) (λ _=>?_);refine aH ?_
  refine bE Tryz.results203 (λ w hw=>?_)
  refine⟨x15,rfl,⟨⟨hv,?_⟩,h15.2⟩,hw.rN⟩
  rw[mU]
  dsimp only
  rw[if_pos (by assumption)]
  exact h15.1
 ·refine aZ ?_;refine iI ?_;(refine aC dZ rfl ?_);refine aQ (cV (hc:=λ w1 hw=>Ag _ _ _ w1)) (λ x19=>?_);refine dA (jR λ _=>bS rf dC rf (eF _) eT rf lS) (λ _=>?_);refine aH ?_
  refine bE Tryz.results203 (λ w hw=>?_)
  refine⟨(wY (aB (cP a.L) v).nd.status _ _,[bx x5 (((aB (cP a.L) v).at_ x9.1 x9.2).nd.cells:List Value),bx x3 [iv v]],a),rfl,⟨⟨hv,?_⟩,ok,(AS.jZ.refl a).more (λ _ h=>(List.not_mem_nil h).elim)⟩,?_⟩
  ·rw[mU]
   dsimp only
   rw[if_neg (by assumption)]
   refine⟨hv,?_⟩
   rw[mU]
   refine⟨rfl,tP hm nv.status,_,_,rfl,by kernel_rfl,λ x s1 l hx=>?_⟩
   have hlen:=l.len
   exact(bc (b0:=x5) (b1:=b1) (b2:=x3) (b3:=b3) (nd:=((aB (cP a.L) v).at_ x9.1 x9.2).nd) ht (hK.le l) (by omega) (tP hm nv.status) (by rw[l.nd hv,mU];rfl)).mr (λ y hy=>by
   simp only[List.mem_cons,List.append_eq,List.nil_append,List.mem_append,List.not_mem_nil,or_false] at hy ⊢
   rcases hy with h|h|h|h|h<;>simp[h])
  ·exact((hw.eN (.tail (.tail .head))).eN .head).rI
theorem py{K:Int->Tr}(ht:t.root<=9223372036854775807)(hK:Iq b K a.mm f cap B)(ok:a.Ok)(hm:a.mm.Small)(hA:∀f∈aM a.L,f∈A)(hB:∀x∈B,x∈A)(hs:SF w D [(b,gH a)] A [] (gK a) w) :
  Calls prog 167 #[.agg ⟨oT b t⟩,fn f cap] w (Gy b (λ c' s' B'=>lW b (C4 t K) a.mm c' s' B') a B D w):=by
 refine enter Tryz.func167 Tryz.ntmps167 rfl rfl hs ?_
 simp only[cC]
 refine J0 ?_;refine bM (λ x2=>?_);refine bM (λ x3=>?_);refine aK (λ x4=>?_);refine aH ?_;refine Kc3 ?_;refine J3 ?_;(refine aC dZ rfl ?_);refine aQ (cV (hc:=λ w1 hw=>Ag _ _ _ w1)) (λ x9=>?_);refine dA (jR λ _=>bS rf dC rf (eF _) eT rf lS) (λ _=>?_);refine aH ?_
 refine bE Tryz.results167 (λ w hw=>?_)
 refine⟨(wY t.root _ _,[bx x2 (oT b t),bx x3 [fn f cap]],a),rfl,⟨⟨rfl,ht,_,_,rfl,by kernel_rfl,λ v s1 l hv=>di (b1:=x2) (b3:=x3) ht (hK.le l) hv⟩,ok,(AS.jZ.refl a).more (λ _ h=>(List.not_mem_nil h).elim)⟩,?_⟩
 exact((hw.eN (.tail .head)).eN (.tail .head)).rI
end
end
end Go.Proofs.YtbajmaoegmbfgaaGreat

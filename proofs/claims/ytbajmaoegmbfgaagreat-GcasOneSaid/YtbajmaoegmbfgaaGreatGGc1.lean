/- Merged. -/
import Derived.Test.YtbajmaoegmbfgaaGreatGTt1
import Derived.Test.YtbajmaoegmbfgaaGreatGNode2
import Derived.Test.YtbajmaoegmbfgaaGreatGTm2
set_option linter.unusedSimpArgs false
set_option linter.unusedVariables false
namespace Go.Ct
open Go Go.RowKit
section
theorem SF.aBy{w0 w:World}{M:List Nat}{H:List (Nat×Obj)}{A A' F:Fr}{O:List Ow}(h:SF w0 M H A F O w)(hA:∀f∈A',f∈A):SF w0 M H A' F O w:=⟨h.st,λ f hf=>h.bK f (hA f hf),h.new,h.own,h.dis⟩
abbrev AS.al(a:AS)(n:Nd)(xs:List Int)(ys:List Pr)(init:Int)(x:AX):AS:=⟨a.L++[mZ n xs ys a.cs.length x],eZ n.kind a.cs init,a.gen,a.acc,x.pn,x.cn,x.pc,x.cc⟩
theorem mM{a:AS}(r:Int):bA a.mm.nodes r=(aC (dL a.L) r).c:=(qX _ _).symm
theorem df(a:AS):a.mm.nodes.length=a.L.length+2:=by show((dL a.L).map aQ.c).length=_;rw[List.length_map,oH]
theorem ya{n c c':Nat}{v:Nv}{i:Int}{cs:List Int}(hb:mC n c {v with main:=0,prev:=0,status:=0})(hc:c=cs.length)(h1:n+1=c'):mC c' (eZ v.kind cs i).length (cY v c):=by
 subst hc
 have hcs:=jY (k:=v.kind) (cs:=cs) (init:=i)
 have hb':=hb.mono (n':=c') (c':=(eZ v.kind cs i).length) (by omega) hcs.1
 refine⟨hb'.bK,hb'.exp,hb'.new,hb'.br,?_,?_,?_,hb'.bm,hb'.hash⟩
 ·show(if v.kind=2 then((cs.length+1:Nat):Int) else 0)<=_
  split
  ·rename_i hk;unfold eZ;rw[if_pos (.inl hk)];simp
  ·omega
 ·show(if v.kind=3∨v.kind=5∨v.kind=6 then((cs.length+1:Nat):Int) else 0)<=_
  split
  ·rename_i hk;unfold eZ;rw[if_pos (by omega)];simp
  ·omega
 ·show(if v.kind=8 then((cs.length+1:Nat):Int) else 0)<=_
  split
  ·rename_i hk;unfold eZ;rw[if_pos (by omega)];simp
  ·omega
theorem Zv.push{s:Mm}(h:Zv s){v:Nv}{i:Int}(hb:mC s.nodes.length s.cs.length {v with main:=0,prev:=0,status:=0})(hi:i<=s.nodes.length+1):Zv (s.push v i):=by
 have hcs:=jY (k:=v.kind) (cs:=s.cs) (init:=i)
 have hl:(s.nodes++[cY v s.cs.length]).length=s.nodes.length+1:=by simp
 refine⟨λ u hu=>?_,λ u hu=>?_,by have:=h.two;show 2<=(s.nodes++[cY v s.cs.length]).length;omega⟩
 ·show mC (s.nodes++[cY v s.cs.length]).length (eZ v.kind s.cs i).length u
  rcases List.mem_append.1 hu with hu|hu
  ·exact(h.nd u hu).mono (by omega) hcs.1
  ·rw[List.mem_singleton.1 hu]
   exact ya hb rfl hl.symm
 ·show u<=((s.nodes++[cY v s.cs.length]).length:Int)
  have hu':u∈eZ v.kind s.cs i:=hu
  unfold eZ at hu'
  split at hu'
  ·rcases List.mem_append.1 hu' with h2|h2
   ·have:=h.cs u h2;omega
   ·rw[List.mem_singleton.1 h2];omega
  ·have:=h.cs u hu';omega
theorem qY(a:AS)(n:Nd)(xs:List Int)(ys:List Pr)(init:Int)(x:AX):(a.al n xs ys init x).mm=a.mm.push (n.c xs ys) init:=by
 unfold AS.mm Mm.push
 simp only[dL,List.map_cons,List.map_append,List.map_nil,List.cons_append]
 rfl
theorem AS.Ok.al{a:AS}(ok:a.Ok){n:Nd}{xs:List Int}{ys:List Pr}{init:Int}(x:AX)(hx:xs.length<=274877906944)(hy:ys.length<=274877906944)(hb:mC a.mm.nodes.length a.mm.cs.length {n.c xs ys with main:=0,prev:=0,status:=0})(hi:init<=a.mm.nodes.length+1):(a.al n xs ys init x).Ok:=by
 refine⟨λ v hv=>?_,by rw[qY];exact ok.mo.push hb hi⟩
 rcases List.mem_append.1 hv with hv|hv
 ·exact ok.fit v hv
 ·rw[List.mem_singleton.1 hv];exact Ma (by omega) (by omega)
theorem We(s:Mm)(v:Nv)(i:Int):s.Le (s.push v i):=⟨⟨_,rfl⟩,jY.1⟩
theorem AS.jM.al(a:AS)(n:Nd)(xs:List Int)(ys:List Pr)(init:Int)(x:AX):a.jM (a.al n xs ys init x) (mZ n xs ys a.cs.length x).fr:=⟨by rw[qY];exact We _ _ _,λ f hf=>by
 rw[dE] at hf
 rcases List.mem_append.1 hf with h|h
 ·exact .inr (.inl h)
 ·refine .inr (.inr ?_)
  simpa[aN] using h⟩
theorem Gk{A B B1:Fr}(h:∀f∈B,f∈A):∀f∈B1++B,f∈B1++A:=λ f hf=>(List.mem_append.1 hf).elim (λ h=>List.mem_append_left _ h) λ hf=>List.mem_append_right _ (h f hf)
theorem bH.jn{A B1:Fr}{O:List Ow}:bH A B1 O (B1++A):=bH.of λ f hf=>(List.mem_append.1 hf).elim (λ h=>.inr (.inr (.inl h))) λ h=>.inr (.inl h)
theorem bH.z5{A F:Fr}{O:List Ow}{x y:Option Addr×List Value}:bH A (x::y::F) O (x::y::A):=bH.of λ f hf=>by
 rcases List.mem_cons.1 hf with h|hf
 ·exact .inr (.inr (.inl (by rw[h];simp)))
 ·rcases List.mem_cons.1 hf with h|hf
  ·exact .inr (.inr (.inl (by rw[h];simp)))
  ·exact .inr (.inl hf)
theorem Uv{A B:Fr}{x y:Option Addr×List Value}(h:∀f∈B,f∈A):∀f∈x::y::B,f∈x::y::A:=λ f hf=>(List.mem_cons.1 hf).elim (λ h=>h▸List.mem_cons_self ..) λ hf=>(List.mem_cons.1 hf).elim (λ h=>h▸List.mem_cons_of_mem _ (List.mem_cons_self ..)) λ hf=>List.mem_cons_of_mem _ (List.mem_cons_of_mem _ (h f hf))
theorem Vp{P:Program}{S:List (Nat×Value)}{d:Nat}{ty t:TypeId}{pos:String}{af:Array Edge}{gd:Option (Nat×Bool)}{w0:World}{M:List Nat}{H:List (Nat×Obj)}{z:Value}(hz:dB P t=some z)(h1:z.oneCell'=true):bG P S (St w0 M H) ⟨some d,.alloc t,ty,pos,af,gd⟩ Nat (λ b=>.pointer (some ⟨b,0,none⟩)) (λ b=>St w0 M ((b,.cells ⟨[z]⟩ t (0,0))::H)) :=
 Wr (λ w _=>by
  have e:z.cells = #[z]:=by cases z<;>simp_all[Value.cells,Value.oneCell']
  simp[execOp,Instr.alloc,Qj hz,newVar,newRow,e])
end
end Go.Ct
namespace Go.Proofs.YtbajmaoegmbfgaaGreat
open Go Go.RowKit Go.Ct
section
section
variable{D:List Nat}{A:Fr}{a:AS}{b:Nat}{w:World}
theorem Wh(ok:a.Ok)(hm:a.mm.Small)(hA:∀f∈aN a.L,f∈A)(r:Int)(hr:r<=a.mm.nodes.length)(hs:SF w D [(b,eV a)] A [] (fJ a) w) :
  Calls Tryz.prog 36 #[.pointer (some ⟨b,0,none⟩),.int .i64 r] w λ e w'=>∃q:Option Addr×Option Addr,e=.returned (.agg ⟨((aC (dL a.L) r).at_ q.1 q.2).nd.cells⟩)/\True /\
  SF w D [(b,eV a)] [] [] (fJ a++[⟨q.2,cX (aC (dL a.L) r).ys,(aC (dL a.L) r).ys.length,164,2⟩,⟨q.1,aH (aC (dL a.L) r).xs,(aC (dL a.L) r).xs.length,37,1⟩]) w':=by
 have h1:=hm.1
 have h2:=df a
 exact tu (hs.aBy hA) ok.fit r (by omega) (by omega)
theorem I7{S:List (Nat×Value)}{w0:World}{M:List Nat}{H H':List (Nat×Obj)}{F:Fr}{O O':List Ow}{ty:TypeId}{pos:String}{af:Array Edge}{gd:Option (Nat×Bool)}{is js:List Nat}{recv:Operand}{xs:List Operand}{at_:Array TypeId}{dst:Option Nat}{H1:Option Addr×Option Addr->List (Nat×Obj)}{F1:Option Addr×Option Addr->Fr}{O1:Option Addr×Option Addr->List Ow}
  (r:Int) (ok:a.Ok) (hm:a.mm.Small) (hA:∀f∈aN a.L,f∈A) (hr:r<=a.mm.nodes.length) (hx:ev S recv=.iface 42 (.pointer (some ⟨b,0,none⟩)):=by exact rfl) (ha:rP S xs=[.int .i64 r]:=by exact evD) (hH:nZ H is [(b,eV a)] H':=by exact Yz) (hO:nZ O js (fJ a) O':=by exact Yz)
  (hl1:is.length=1:=by exact rfl) (hl2:js.length=2:=by exact rfl) (hH1:∀x,jX is [(b,eV a)] H'=H1 x:=by intro x;simp only[jX,tR];exact rfl) (hF1:∀x,[]++F=F1 x:=by intro x;exact rfl)
  (hO1:∀x,[⟨x.2,cX (aC (dL a.L) r).ys,(aC (dL a.L) r).ys.length,164,2⟩,⟨x.1,aH (aC (dL a.L) r).xs,(aC (dL a.L) r).xs.length,37,1⟩]++jX js (fJ a) O'=O1 x:=by intro x;simp only[jX,tR,mW,List.nil_append,List.cons_append];exact rfl) :
  bG Tryz.prog S (SF w0 M H A F O) ⟨dst,.call {callee:=.invoke recv "Node",args:=⟨xs⟩,argTypes:=at_},ty,pos,af,gd⟩ (Option Addr×Option Addr) (λ q=>.agg ⟨((aC (dL a.L) r).at_ q.1 q.2).nd.cells⟩) (λ x w=>True/\SF w0 M (H1 x) A (F1 x) (O1 x) w) :=
 aCC (hs:=[(b,eV a)]) (os:=fJ a) (A0:=A) (hs':=λ _=>[(b,eV a)]) (os':=λ _=>fJ a) (Fc:=λ _=>[]) (Oc:=λ q=>[⟨q.2,cX (aC (dL a.L) r).ys,(aC (dL a.L) r).ys.length,164,2⟩,⟨q.1,aH (aC (dL a.L) r).xs,(aC (dL a.L) r).xs.length,37,1⟩]) hx ha (λ w=>kv _ _ w) (λ w1 hw=>Wh ok hm hA r hr hw) hH hO (bH.of λ _ h=>.inr (.inl h)) (λ _=>hl1) (λ _=>hl2) hH1 hF1 hO1
theorem Bb(ok:a.Ok)(hm:a.mm.Small){n:Nd}{xs:List Int}{ys:List Pr}(init:Int)(e1:n.brN=xs.length)(e2:n.prN=ys.length)(hx:xs.length<=274877906944)(hy:ys.length<=274877906944)(hA:∀f∈[(n.brA,aH xs),(n.prA,cX ys)],f∈A)(hs:SF w D [(b,eV a)] A [] (fJ a) w) :
  Calls Tryz.prog 29 #[.pointer (some ⟨b,0,none⟩),n.v,.int .i64 init] w λ e w'=>∃x:AX,e=.returned (.int .i64 ((a.mm.nodes.length+1:Nat):Int))/\True/\SF w D [(b,eV (a.al n xs ys init x))] [] (mZ n xs ys a.cs.length x).fr (fJ (a.al n xs ys init x)) w':=by
 have h1:=hm.1
 have h3:a.cs.length<=137438953472:=hm.2
 have h2:=df a
 rw[show a.mm.nodes.length+1=a.L.length+3 by omega]
 exact ic init (hs.aBy hA) e1 e2 hx hy (by omega) (by omega)
end
end
end Go.Proofs.YtbajmaoegmbfgaaGreat
namespace Go.Ct
open Go Go.RowKit
section
abbrev XS.a0(z:XS):XS:={z with acc:=0}
theorem XS.Ok.mo{x:XS}(h:x.Ok):Zv x.mm:=by
 have hl:x.mm.nodes.length=x.L.length:=by show(x.L.map aQ.c).length=_;rw[List.length_map]
 refine⟨λ v hv=>?_,λ v hv=>?_,by have:=h.two;omega⟩
 ·obtain⟨u,hu,rfl⟩:=List.mem_map.1 hv
  rw[hl]
  exact h.nd u hu
 ·rw[hl];exact h.cs v hv
end
end Go.Ct
namespace Go.Proofs.YtbajmaoegmbfgaaGreat
open Go.Proofs.Tryz (prog)
open Go Go.RowKit Go.Ct
section
abbrev yL(z:XS):List Ow:=[⟨z.pn,iI z.L,z.cn,47,14⟩,⟨z.pc,aH z.cs,z.cc,37,1⟩]
theorem Zc{bm:Nat}{z:XS}{D:List Nat}{A:Fr}{w:World}(ok:z.Ok)(hp:gJ z.L z.cs z.gen)(hl:z.L.length<=137438953472)(hc:z.cs.length<=137438953472)(hA:∀f∈aN z.L,f∈A)(hs:SF w D [(bm,xM z)] A [] (yL z) w) :
    Calls prog 24 #[.pointer (some ⟨bm,0,none⟩)] w λ e w'=>∃q:Nat×AS,e=.returned (.pointer (some ⟨q.1,0,none⟩))/\(q.2.mm=z.mm/\q.2.Ok)/\SF w D ([(bm,xM z.a0)]++[(q.1,eV q.2)]) [] (aN q.2.L) (yL z++fJ q.2) w':=by
  refine enter Tryz.func24 Tryz.ntmps24 rfl rfl hs ?_
  simp only[cG]
  refine dA ?_;refine I1 ?_;refine aD (aU (k:=3) rf cS eT (by simp only[List.drop_zero,List.take_succ_cons,List.take_zero];exact rfl) rfl) rfl ?_;refine aE (U0 (V:=λ x:Nat×List aQ×(Option Addr×Nat)×(Option Addr×Nat)=>.tuple #[.pointer (some ⟨x.1,0,none⟩),.int .i64 0]) (Hc:=λ x=>[(x.1,aO x.2.1 z.cs z.gen 0 x.2.2.1.1 x.2.2.1.2 x.2.2.2.1 x.2.2.2.2)]) (Fc:=λ x=>aN x.2.1) (Oc:=λ x=>mW x.2.1 z.cs x.2.2.1.1 x.2.2.1.2 x.2.2.2.1 x.2.2.2.2) (hc:=λ w1 hw=>l9 (L:=z.L) (cs:=z.cs) (hw.Jj (.inr (.inr (.inr ⟨_,.head _,rfl,rfl⟩))) (.inr (.inr (.inr ⟨_,.tail _ (.head _),rfl,rfl⟩))) (λ f hf=>.inr (.inl (hA f hf))) ok.fit) (by omega) (by omega) (hw.aAd .head) hp)) (λ x10 h10=>?_);refine Kb5 ?_;refine Kc9 ?_
  refine bC (λ c14=>?_) (λ c14=>?_)
  · exact nv c14
  · refine aZ ?_;refine J13 ?_;refine vL ?_;refine Ka5 ?_
    refine aT Tryz.results24 (λ w hw=>?_)
    have e1:(⟨x10.2.1,z.cs,z.gen,0,x10.2.2.1.1,x10.2.2.1.2,x10.2.2.2.1,x10.2.2.2.2⟩:AS).mm=z.mm:=by
     show Mm.mk ((dL x10.2.1).map aQ.c) z.cs z.gen=Mm.mk (z.L.map aQ.c) z.cs z.gen
     rw[h10.1]
    refine⟨(x10.1,⟨x10.2.1,z.cs,z.gen,0,x10.2.2.1.1,x10.2.2.1.2,x10.2.2.2.1,x10.2.2.2.2⟩),rfl,⟨e1,⟨h10.2,by rw[e1];exact ok.mo⟩⟩,?_⟩
    exact(hw.perm (H':=[(bm,xM z.a0),(x10.1,_)]) (O':=yL z++mW x10.2.1 z.cs x10.2.2.1.1 x10.2.2.1.2 x10.2.2.2.1 x10.2.2.2.2) (List.Perm.swap _ _ _) (List.perm_append_comm (l₁:=yL z))).ret (List.Sublist.refl _) (aX.iV λ f hf=>by simpa using hf) (List.Sublist.refl _)
theorem mU{m B C E:Nat}{W:Wd}(h:C1 m B C E W):gJ W.z.L W.z.cs W.z.gen:=by
 obtain⟨σ,hi⟩:=h.wr.inv
 have e1:σ.mm.nodes=W.z.L.map aQ.c:=by rw[hi.mm];rfl
 have e2:σ.mm.cs=W.z.cs:=by rw[hi.mm];rfl
 have e3:σ.mm.gen=W.z.gen:=by rw[hi.mm];rfl
 have:=hi.inv.prop
 rw[e2,e3] at this
 exact this.to e1.symm
theorem Nq{f:FuncId}{vs:Array Value}{w:World}{D:List Nat}{b:Nat}{φ:Nat×Cd×Fr×AS->Prop}(h:Calls prog f vs w λ e w'=>∃x:Nat×Cd×Fr×AS,e=.returned (.pointer (some ⟨x.1,0,none⟩))/\φ x/\SF w D [(x.1,tO b x.2.1 0),(b,eV x.2.2.2)] [] x.2.2.1 (fJ x.2.2.2) w') :
  Calls prog f vs w λ e w'=>∃x:Nat×Cd×Fr×AS,e=.returned (.pointer (some ⟨x.1,0,none⟩))/\φ x/\SF w D ([(b,eV x.2.2.2)]++[(x.1,tO b x.2.1 0)]) [] x.2.2.1 (fJ x.2.2.2++[]) w' :=
 h.mono λ _ _ ⟨x,e,h,hw⟩=>⟨x,e,h,by rw[List.append_nil];exact hw.perm (List.Perm.swap _ _ _) (List.Perm.refl _)⟩
end
section
abbrev lT(b:Nat)(t:dU):List Value:=[.iface 42 (.pointer (some ⟨b,0,none⟩)),.int .i64 t.root,.bool t.ro]
def fw(prev p:Int)(c:Bool)(K:Bool->Tr):Tr:=if c=true then .jW prev p 0 K else .alloc (yP p) 0 λ f=>.jW prev p f K
theorem rJ{a:AS}(hm:a.mm.Small){x:Int}(h:x<=a.mm.cs.length):x<=9223372036854775807:=by have:=hm.2;omega
theorem D4{a:AS}(ok:a.Ok)(r:Int):mC a.mm.nodes.length a.mm.cs.length (aC (dL a.L) r).c:=by rw[<- mM];exact ok.mo.at r
section
variable{D:List Nat}{A B:Fr}{a:AS}{b:Nat}{w:World}{f:FuncId}{cap:List Value}{t:dU}
theorem nz{K:Int->Tr}{v:Int}{s:Mm}{b2 b3:Nat}(hK:Eu b K s f cap B)(hv:v<=s.nodes.length)(o:Bool):wA b 201 [pt b2,pt b3] [.bool o] (bx b3 [.int .i64 v]::bx b2 [fn f cap]::B) s (K v):=by
 intro a D A w em ok hm hA hB hw0
 subst em
 have hK2:=hK.more (B2:=(bx b3 [.int .i64 v]::bx b2 [fn f cap]::B)) (λ x hx=>by simp[hx])
 refine enter Tryz.func201 Tryz.ntmps201 rfl rfl hw0 ?_
 simp only[cG]
 refine J0 ?_;refine aL (λ x4=>?_);refine aI ?_;refine J0 ?_;refine aD (qT b2 [fn f cap] 0 hB rfl) rfl ?_;refine aD (qT b3 [.int .i64 v] 0 hB rfl) rfl ?_;refine aE (S2 hK.1 (hK2.2 v a.mm (Mm.Le.refl _) hv) ok hm hA hB) (λ x7 h7=>?_);refine cR (jG λ _=>bP rf cS rf (dV _) eT rf lE) (λ _=>?_);refine aI ?_
 refine bD Tryz.results201 (λ w hw=>?_)
 exact⟨x7,rfl,h7,hw.rN⟩
theorem Al{K:Int->Tr}{v:Int}{s:Mm}{b2 b3:Nat}(hK:Eu b K s f cap B)(hv:v<=s.nodes.length)(o:Bool):wA b 174 [pt b2,pt b3] [.bool o] (bx b3 [.int .i64 v]::bx b2 [fn f cap]::B) s (K v):=by
 intro a D A w em ok hm hA hB hw0
 subst em
 have hK2:=hK.more (B2:=(bx b3 [.int .i64 v]::bx b2 [fn f cap]::B)) (λ x hx=>by simp[hx])
 refine enter Tryz.func174 Tryz.ntmps174 rfl rfl hw0 ?_
 simp only[cG]
 refine J0 ?_;refine aL (λ x4=>?_);refine aI ?_;refine J0 ?_;refine aD (qT b2 [fn f cap] 0 hB rfl) rfl ?_;refine aD (qT b3 [.int .i64 v] 0 hB rfl) rfl ?_;refine aE (S2 hK.1 (hK2.2 v a.mm (Mm.Le.refl _) hv) ok hm hA hB) (λ x7 h7=>?_);refine cR (jG λ _=>bP rf cS rf (dV _) eT rf lE) (λ _=>?_);refine aI ?_
 refine bD Tryz.results174 (λ w hw=>?_)
 exact⟨x7,rfl,h7,hw.rN⟩
theorem W8{K:Int->Tr}{i m p:Int}(hK:Eu b K a.mm f cap B)(hi:i<=a.mm.nodes.length)(hmm:m<=a.mm.nodes.length)(hp:p<=a.mm.nodes.length)(ok:a.Ok)(hm:a.mm.Small)(hA:∀f∈aN a.L,f∈A)(hB:∀x∈B,x∈A)(hs:SF w D [(b,eV a)] A [] (fJ a) w) :
  Calls prog 163 #[.agg ⟨lT b t⟩,.int .i64 i,.int .i64 m,.int .i64 p,fn f cap] w (Ei b (λ c' s' B'=>kU b (Ih i m p K) a.mm c' s' B') a B D w):=by
 have ni:=D4 ok i
 have np:=D4 ok p
 refine enter Tryz.func163 Tryz.ntmps163 rfl rfl hs ?_
 simp only[cG]
 refine J0 ?_;refine bM (λ x5=>?_);refine bM (λ x9=>?_);refine aL (λ x10=>?_);refine aI ?_;refine Kb9 ?_;refine aE (I7 p ok hm hA hp) (λ x15 h15=>?_);refine cB ?_;refine aP (jG λ _=>Vp (z:=.int .i64 0) (by kernel_rfl) rfl) (λ x11=>?_);refine J5 ?_;refine aV ?_;refine eH [(0,[]),(1,[]),(2,[]),(5,[]),(6,[]),(7,[]),(3,[6]),(4,[]),(8,[]),(9,[])] ?_;refine lK ?_;refine iK ?_;refine bS ?_;(refine cK (i:=7) (hq:=dH) (h:=?_));refine bE (i:=3) (hq:=(I7 i ok hm hA hi)) (h:=λ x20 h20=>?_);refine oA ?_;refine dC (i:=8) (hq:=(cV (hc:=λ w1 hw=>zU _ _ _ _ _ w1))) (h:=λ x25=>?_);refine kW (i:=9) (hq:=(jG λ _=>bP rf cS rf (dV _) eT rf lE)) (h:=λ _=>?_);refine eL ?_
 refine bD Tryz.results163 (λ w hw=>?_)
 refine⟨(zA (aC (dL a.L) i).nd.main m (aC (dL a.L) p).nd.bK _ _,[bx x11 [.int .i64 (aC (dL a.L) p).nd.bK],bx x9 [fn f cap]],a),rfl,⟨?_,ok,(AS.jM.refl a).more (λ _ h=>(List.not_mem_nil h).elim)⟩,?_⟩
 ·refine⟨hi,hp,?_⟩
  rw[mM,mM]
  refine⟨rfl,rJ hm ni.main,np.bK,_,_,rfl,by kernel_rfl,λ v s1 l=>?_⟩
  show zT b _ _ _ _ s1 λ c' s' B'=>p<=s1.nodes.length/\kU b (K (bA s1.nodes p).bK) s1 c' s' B'
  rw[l.nd hp,mM]
  have hlen:=l.len
  exact(nz (hK.le l) (by have h2:(aC (dL a.L) p).nd.bK<=a.mm.nodes.length:=np.bK;omega) v).more (λ _ h=>h) λ c m C C2 hC h=>⟨by omega,h.more hC⟩
 ·exact((hw.dK (.tail (.tail .head))).dK .head).rI
theorem Dh{K:Int->Tr}{v s:Int}(ht:t.root<=9223372036854775807)(hK:Eu b K a.mm f cap B)(hv:v<=a.mm.nodes.length)(ok:a.Ok)(hm:a.mm.Small)(hA:∀f∈aN a.L,f∈A)(hB:∀x∈B,x∈A)(hs:SF w D [(b,eV a)] A [] (fJ a) w) :
  Calls prog 141 #[.agg ⟨lT b t⟩,.int .i64 v,.int .i64 s,fn f cap] w (Ei b (λ c' s' B'=>kU b (uW t v s K) a.mm c' s' B') a B D w):=by
 have nv:=D4 ok v
 refine enter Tryz.func141 Tryz.ntmps141 rfl rfl hs ?_
 simp only[cG]
 refine J0 ?_;refine bM (λ x4=>?_);refine bM (λ x7=>?_);refine aL (λ x8=>?_);refine aI ?_;refine Kb9 ?_;refine aE (I7 v ok hm hA hv) (λ x14 h14=>?_);refine aL (λ x9=>?_);refine J5 ?_;refine iH ?_;refine aP (jG λ _=>Vp (z:=.int .i64 0) (by kernel_rfl) rfl) (λ x10=>?_);refine J5 ?_;refine kT ?_;refine uQ ?_
 refine bC (λ c18=>?_) (λ c18=>?_)
 ·refine dR ?_;refine J3 ?_;refine J5 ?_;refine Kc5 ?_;refine J3 ?_;refine aB ?_;refine bQ ?_;(refine aD dH rfl ?_);refine aP (cV (hc:=λ w1 hw=>zU _ _ _ _ _ w1)) (λ x27=>?_);refine cR (jG λ _=>bP rf cS rf (dV _) eT rf lE) (λ _=>?_);refine aI ?_
  refine bD Tryz.results141 (λ w hw=>?_)
  refine⟨(zA t.root v (aC (dL a.L) v).nd.new _ _,[bx x10 [.int .i64 (aC (dL a.L) v).nd.new],bx x7 [fn f cap]],a),rfl,⟨?_,ok,(AS.jM.refl a).more (λ _ h=>(List.not_mem_nil h).elim)⟩,?_⟩
  ·refine⟨hv,?_⟩
   rw[mM]
   have e:(if s=1 then(aC (dL a.L) v).c.new else(aC (dL a.L) v).c.bK)=(aC (dL a.L) v).nd.new:=by exact if_pos (by omega)
   dsimp only
   rw[e]
   refine⟨rfl,ht,nv.new,_,_,rfl,by kernel_rfl,λ o s1 l=>?_⟩
   have hlen:=l.len
   exact Al (hK.le l) (by have h2:(aC (dL a.L) v).nd.new<=a.mm.nodes.length:=nv.new;omega) o
  ·exact((hw.dK (.tail (.tail (.tail .head)))).dK .head).rI
 ·refine aZ ?_;refine Kc5 ?_;refine J3 ?_;refine aB ?_;refine bQ ?_;(refine aD dH rfl ?_);refine aP (cV (hc:=λ w1 hw=>zU _ _ _ _ _ w1)) (λ x27=>?_);refine cR (jG λ _=>bP rf cS rf (dV _) eT rf lE) (λ _=>?_);refine aI ?_
  refine bD Tryz.results141 (λ w hw=>?_)
  refine⟨(zA t.root v (aC (dL a.L) v).nd.bK _ _,[bx x10 [.int .i64 (aC (dL a.L) v).nd.bK],bx x7 [fn f cap]],a),rfl,⟨?_,ok,(AS.jM.refl a).more (λ _ h=>(List.not_mem_nil h).elim)⟩,?_⟩
  ·refine⟨hv,?_⟩
   rw[mM]
   have e:(if s=1 then(aC (dL a.L) v).c.new else(aC (dL a.L) v).c.bK)=(aC (dL a.L) v).nd.bK:=by exact if_neg (by omega)
   dsimp only
   rw[e]
   refine⟨rfl,ht,nv.bK,_,_,rfl,by kernel_rfl,λ o s1 l=>?_⟩
   have hlen:=l.len
   exact Al (hK.le l) (by have h2:(aC (dL a.L) v).nd.bK<=a.mm.nodes.length:=nv.bK;omega) o
  ·exact((hw.dK (.tail (.tail (.tail .head)))).dK .head).rI
theorem Kc{K:Bool->Tr}{prev p:Int}{c:Bool}(hK:Yc b K a.mm f cap B)(hpr:prev<=a.mm.cs.length)(hp:p<=a.mm.nodes.length)(ok:a.Ok)(hm:a.mm.Small)(hA:∀f∈aN a.L,f∈A)(hB:∀x∈B,x∈A)(hs:SF w D [(b,eV a)] A [] (fJ a) w) :
  Calls prog 166 #[.agg ⟨lT b t⟩,.int .i64 prev,.int .i64 p,.bool c,fn f cap] w (Ei b (λ c' s' B'=>kU b (fw prev p c K) a.mm c' s' B') a B D w):=by
 refine enter Tryz.func166 Tryz.ntmps166 rfl rfl hs ?_
 simp only[cG]
 refine J0 ?_;refine bM (λ x5=>?_);refine aL (λ x10=>?_);refine aI ?_;refine kT ?_;refine aI ?_
 refine bC (λ c12=>?_) (λ c12=>?_)
 ·refine Kc4 ?_;refine aP (cV (hc:=λ w1 hw=>zU _ _ _ _ _ w1)) (λ x16=>?_);refine cR (jG λ _=>bP rf cS rf (dV _) eT rf lE) (λ _=>?_);refine aI ?_
  refine bD Tryz.results166 (λ w hw=>?_)
  refine⟨(zA prev p 0 f cap,[],a),rfl,⟨?_,ok,AS.jM.refl a⟩,hw.rI⟩
  unfold fw
  rw[if_pos (by assumption)]
  exact⟨rfl,rJ hm hpr,bL _,f,cap,rfl,hK.1,λ v s1 l=>hK.2 v s1 l⟩
 ·refine kZ ?_;refine eH [(0,[]),(1,[]),(2,[]),(4,[]),(5,[]),(3,[1]),(6,[]),(7,[])] ?_;refine lK ?_;refine aR ?_;refine cK (i:=4) (hq:=(P7 rf)) (h:=?_);refine aR ?_;refine dC (i:=3) (hq:=(cV (hc:=λ w1 hw=>eu p w1))) (h:=λ x20=>?_);refine bE (i:=6) (hq:=(cMI (V:=λ _:AX=>.int .i64 ((a.mm.nodes.length+1:Nat):Int)) (hs:=[(b,eV a)]) (os:=fJ a) (A0:=[(none,aH []),(none,cX [])]) (hs':=λ x=>[(b,eV (a.al ({Nd.zero with kind:=7,bK:=p}:Nd) [] [] 0 x))]) (os':=λ x=>fJ (a.al ({Nd.zero with kind:=7,bK:=p}:Nd) [] [] 0 x)) (Fc:=λ x=>(mZ ({Nd.zero with kind:=7,bK:=p}:Nd) [] [] a.cs.length x).fr) (hm:=λ w=>Yb _ _ _ w) (hc:=λ w1 hw=>Bb ok hm 0 rfl rfl (by simp) (by simp) (λ f hf=>hf) hw))) (h:=λ x23 h23=>?_);refine J7 ?_;refine jF ?_;refine pM ?_;refine aP (cV (hc:=λ w1 hw=>zU _ _ _ _ _ w1)) (λ x28=>?_);refine cR (jG λ _=>bP rf cS rf (dV _) eT rf lE) (λ _=>?_);refine aI ?_
  refine bD Tryz.results166 (λ w hw=>?_)
  refine⟨(zA prev p ((a.mm.nodes.length+1:Nat):Int) f cap,(mZ ({Nd.zero with kind:=7,bK:=p}:Nd) [] [] a.cs.length x23).fr,a.al ({Nd.zero with kind:=7,bK:=p}:Nd) [] [] 0 x23),rfl,⟨?_,ok.al x23 (by simp) (by simp) ⟨?_,bL _,bL _,(λ r hr=>nomatch hr),bL _,bL _,bL _,⟨0,rfl,by decide⟩,⟨0,rfl,by decide⟩⟩ (by omega),AS.jM.al a _ _ _ _ x23⟩,hw.rI⟩
  ·unfold fw
   rw[if_neg (by simp_all)]
   have hl:=We a.mm (yP p) 0
   refine⟨qY a _ _ _ _ x23,?_,?_,f,cap,rfl,hK.1,λ v s1 l=>(hK.2 v s1 (hl.trans l)).more (λ x hx=>List.mem_append_right _ hx) λ _ _ _ _ hC h=>h.more hC⟩
   ·have:=hl.cl;have:=hm.2;omega
   ·show _<=(((a.mm.nodes++[_]).length:Nat):Int)
    rw[List.length_append]
    simp
  ·show p<=_
   exact hp
end
end
section
section
variable{D:List Nat}{A B:Fr}{a:AS}{b:Nat}{w:World}{f:FuncId}{cap:List Value}{t:dU}
theorem ki{K:Int->Tr}{v x:Int}{s:Mm}{b1 b2 b3:Nat}(ht:t.root<=9223372036854775807)(hK:Eu b K s f cap B)(hv:v<=s.nodes.length):wA b 206 [pt b1,pt b2,pt b3] [.int .i64 x] (bx b1 (lT b t)::bx b2 [iv v]::bx b3 [fn f cap]::B) s (uW t v x K):=by
 intro a D A w em ok hm hA hB hw0
 subst em
 have hK2:=hK.more (B2:=(bx b1 (lT b t)::bx b2 [iv v]::bx b3 [fn f cap]::B)) (λ x hx=>by simp[hx])
 refine enter Tryz.func206 Tryz.ntmps206 rfl rfl hw0 ?_
 simp only[cG]
 refine J0 ?_;refine aL (λ x5=>?_);refine aI ?_;refine J0 ?_;refine aD (ij b1 (lT b t) 0 3 hB rfl rfl) rfl ?_;refine aD (qT b2 [.int .i64 v] 0 hB rfl) rfl ?_;refine aB ?_;refine aD (qT b3 [fn f cap] 0 hB rfl) rfl ?_;refine aE (I3 (λ w1 hw=>Dh ht hK2 hv ok hm hA hB hw)) (λ x10 h10=>?_);refine cR (jG λ _=>bP rf cS rf (dV _) eT rf lE) (λ _=>?_);refine aI ?_
 refine bD Tryz.results206 (λ w hw=>?_)
 exact⟨x10,rfl,h10,hw.rN⟩
theorem ko{K:Int->Tr}{v:Int}{s:Mm}{b0 b1 b2 b3:Nat}{nd:Nd}(ht:t.root<=9223372036854775807)(hK:Eu b K s f cap B)(hv:v<=s.nodes.length)(hd:nd.status<=9223372036854775807)(o:Bool):wA b 205 [pt b0,pt b1,pt b2,pt b3] [.bool o] (bx b0 (nd.cells:List Value)::bx b1 (lT b t)::bx b2 [iv v]::bx b3 [fn f cap]::B) s (.load nd.status λ s=>uW t v s K):=by
 intro a D A w em ok hm hA hB hw0
 subst em
 have hK2:=hK.more (B2:=(bx b0 (nd.cells:List Value)::bx b1 (lT b t)::bx b2 [iv v]::bx b3 [fn f cap]::B)) (λ x hx=>by simp[hx])
 refine enter Tryz.func205 Tryz.ntmps205 rfl rfl hw0 ?_
 simp only[cG]
 refine J0 ?_;refine aL (λ x6=>?_);refine aI ?_;refine Kc5 ?_;refine aD (qT b0 (nd.cells:List Value) 13 hB rfl) rfl ?_;(refine aD dH rfl ?_);refine aP (cV (hc:=λ w1 hw=>xU _ _ _ w1)) (λ x10=>?_);refine cR (jG λ _=>bP rf cS rf (dV _) eT rf lE) (λ _=>?_);refine aI ?_
 refine bD Tryz.results205 (λ w hw=>?_)
 exact⟨(uI nd.status _ _,[],a),rfl,⟨⟨rfl,hd,_,_,rfl,by kernel_rfl,λ x s1 l hx=>(ki (b1:=b1) (b2:=b2) (b3:=b3) ht (hK.le l) (by have:=l.len;omega)).mr (λ y hy=>List.mem_cons_of_mem _ hy)⟩,ok,AS.jM.refl a⟩,hw.rI⟩
theorem jm{K:Int->Tr}{v x:Int}{s:Mm}{b0 b1 b2 b3:Nat}{nd:Nd}(ht:t.root<=9223372036854775807)(hK:Eu b K s f cap B)(hv:v<=s.nodes.length)(hd:nd.status<=9223372036854775807)(hn:(bA s.nodes v).status=nd.status):wA b 204 [pt b1,pt b2,pt b3,pt b0] [.int .i64 x] (bx b1 (lT b t)::bx b2 [iv v]::bx b3 [fn f cap]::bx b0 (nd.cells:List Value)::B) s (if x=0 then .node v λ n=>.jW n.status 0 2 λ _=>.node v λ n=>.load n.status λ s=>uW t v s K else uW t v x K):=by
 intro a D A w em ok hm hA hB hw0
 subst em
 have hK2:=hK.more (B2:=(bx b1 (lT b t)::bx b2 [iv v]::bx b3 [fn f cap]::bx b0 (nd.cells:List Value)::B)) (λ x hx=>by simp[hx])
 refine enter Tryz.func204 Tryz.ntmps204 rfl rfl hw0 ?_
 simp only[cG]
 refine J0 ?_;refine aL (λ x6=>?_);refine aI ?_;refine kT ?_;refine Kc9 ?_
 refine bC (λ c8=>?_) (λ c8=>?_)
 ·refine J0 ?_;refine aD (ij b1 (lT b t) 0 3 hB rfl rfl) rfl ?_;refine aD (qT b2 [.int .i64 v] 0 hB rfl) rfl ?_;refine aB ?_;refine aD (qT b3 [fn f cap] 0 hB rfl) rfl ?_;refine aE (I3 (λ w1 hw=>Dh ht hK2 hv ok hm hA hB hw)) (λ x13 h13=>?_);refine cR (jG λ _=>bP rf cS rf (dV _) eT rf lE) (λ _=>?_);refine aI ?_
  refine bD Tryz.results204 (λ w hw=>?_)
  refine⟨x13,rfl,⟨?_,h13.2⟩,hw.rN⟩
  rw[if_neg (by omega)]
  exact h13.1
 ·refine aZ ?_;refine Kc5 ?_;refine aD (qT b0 (nd.cells:List Value) 13 hB rfl) rfl ?_;(refine aD dH rfl ?_);refine aP (cV (hc:=λ w1 hw=>zU _ _ _ _ _ w1)) (λ x17=>?_);refine cR (jG λ _=>bP rf cS rf (dV _) eT rf lE) (λ _=>?_);refine aI ?_
  refine bD Tryz.results204 (λ w hw=>?_)
  refine⟨(zA nd.status 0 2 _ _,[],a),rfl,⟨?_,ok,AS.jM.refl a⟩,hw.rI⟩
  rw[if_pos (by omega)]
  refine⟨hv,?_⟩
  dsimp only
  rw[hn]
  refine⟨rfl,hd,by have:=ok.mo.two;omega,_,_,rfl,by kernel_rfl,λ o s1 l=>?_⟩
  have hlen:=l.len
  show zT b _ _ _ _ s1 λ c' s' B'=>v<=s1.nodes.length/\kU b (.load (bA s1.nodes v).status λ s=>uW t v s K) s1 c' s' B'
  rw[l.nd hv,hn]
  exact(ko (b0:=b0) (b1:=b1) (b2:=b2) (b3:=b3) (nd:=nd) ht (hK.le l) (by omega) hd o).more (λ y hy=>by
  simp only[List.mem_cons,List.append_eq,List.nil_append] at hy ⊢
  rcases hy with h|h|h|h|h<;>simp[h]) λ c m C C2 hC h=>⟨by omega,h.more hC⟩
theorem n7{K:Int->Tr}{v:Int}{s:Mm}{b1 b3:Nat}(ht:t.root<=9223372036854775807)(hK:Eu b K s f cap B)(hv:v<=s.nodes.length):wA b 203 [pt b1,pt b3] [.int .i64 v] (bx b1 (lT b t)::bx b3 [fn f cap]::B) s (.node v λ n=>if n.kind=2 then K v else .node v λ n=>.load n.status λ s=>if s=0 then .node v λ n=>.jW n.status 0 2 λ _=>.node v λ n=>.load n.status λ s=>uW t v s K else uW t v s K):=by
 intro a D A w em ok hm hA hB hw0
 subst em
 have hK2:=hK.more (B2:=(bx b1 (lT b t)::bx b3 [fn f cap]::B)) (λ x hx=>by simp[hx])
 have nv:=D4 ok v
 refine enter Tryz.func203 Tryz.ntmps203 rfl rfl hw0 ?_
 simp only[cG]
 refine J0 ?_;refine bM (λ x3=>?_);refine aL (λ x4=>?_);refine aI ?_;refine Kc5 ?_;refine aD (qT b1 (lT b t) 0 hB rfl) rfl ?_;refine bQ ?_;refine aE (I7 v ok hm hA hv) (λ x9 h9=>?_);refine aL (λ x5=>?_);refine J5 ?_;refine Kc8 ?_
 refine bC (λ c12=>?_) (λ c12=>?_)
 ·refine J0 ?_;refine aD (qT b3 [fn f cap] 0 hB rfl) rfl ?_;refine bQ ?_;refine aE (S2 hK2.1 (hK2.2 v a.mm (Mm.Le.refl _) hv) ok hm hA hB) (λ x15 h15=>?_);refine cR (jG λ _=>bP rf cS rf (dV _) eT rf lE) (λ _=>?_);refine aI ?_
  refine bD Tryz.results203 (λ w hw=>?_)
  refine⟨x15,rfl,⟨⟨hv,?_⟩,h15.2⟩,hw.rN⟩
  rw[mM]
  dsimp only
  rw[if_pos (by assumption)]
  exact h15.1
 ·refine aZ ?_;refine iH ?_;(refine aD dH rfl ?_);refine aP (cV (hc:=λ w1 hw=>xU _ _ _ w1)) (λ x19=>?_);refine cR (jG λ _=>bP rf cS rf (dV _) eT rf lE) (λ _=>?_);refine aI ?_
  refine bD Tryz.results203 (λ w hw=>?_)
  refine⟨(uI (aC (dL a.L) v).nd.status _ _,[bx x5 (((aC (dL a.L) v).at_ x9.1 x9.2).nd.cells:List Value),bx x3 [iv v]],a),rfl,⟨⟨hv,?_⟩,ok,(AS.jM.refl a).more (λ _ h=>(List.not_mem_nil h).elim)⟩,?_⟩
  ·rw[mM]
   dsimp only
   rw[if_neg (by assumption)]
   refine⟨hv,?_⟩
   rw[mM]
   refine⟨rfl,rJ hm nv.status,_,_,rfl,by kernel_rfl,λ x s1 l hx=>?_⟩
   have hlen:=l.len
   exact(jm (b0:=x5) (b1:=b1) (b2:=x3) (b3:=b3) (nd:=((aC (dL a.L) v).at_ x9.1 x9.2).nd) ht (hK.le l) (by omega) (rJ hm nv.status) (by rw[l.nd hv,mM];rfl)).mr (λ y hy=>by
   simp only[List.mem_cons,List.append_eq,List.nil_append,List.mem_append,List.not_mem_nil,or_false] at hy ⊢
   rcases hy with h|h|h|h|h<;>simp[h])
  ·exact((hw.dK (.tail (.tail .head))).dK .head).rI
theorem qd{K:Int->Tr}(ht:t.root<=9223372036854775807)(hK:Eu b K a.mm f cap B)(ok:a.Ok)(hm:a.mm.Small)(hA:∀f∈aN a.L,f∈A)(hB:∀x∈B,x∈A)(hs:SF w D [(b,eV a)] A [] (fJ a) w) :
  Calls prog 167 #[.agg ⟨lT b t⟩,fn f cap] w (Ei b (λ c' s' B'=>kU b (Ak t K) a.mm c' s' B') a B D w):=by
 refine enter Tryz.func167 Tryz.ntmps167 rfl rfl hs ?_
 simp only[cG]
 refine J0 ?_;refine bM (λ x2=>?_);refine bM (λ x3=>?_);refine aL (λ x4=>?_);refine aI ?_;refine Kc5 ?_;refine J3 ?_;(refine aD dH rfl ?_);refine aP (cV (hc:=λ w1 hw=>xU _ _ _ w1)) (λ x9=>?_);refine cR (jG λ _=>bP rf cS rf (dV _) eT rf lE) (λ _=>?_);refine aI ?_
 refine bD Tryz.results167 (λ w hw=>?_)
 refine⟨(uI t.root _ _,[bx x2 (lT b t),bx x3 [fn f cap]],a),rfl,⟨⟨rfl,ht,_,_,rfl,by kernel_rfl,λ v s1 l hv=>n7 (b1:=x2) (b3:=x3) ht (hK.le l) hv⟩,ok,(AS.jM.refl a).more (λ _ h=>(List.not_mem_nil h).elim)⟩,?_⟩
 exact((hw.dK (.tail .head)).dK (.tail .head)).rI
end
end
section
theorem U3{b:Nat}{i m p prev:Int}{c:Bool}{K:Int->Tr}{s s2:Mm}{cd:Cd}{B:Fr}(hmm:m<=s.nodes.length)(hn:(bA s.nodes m).prev=prev)(h:kU b (fw prev p c λ _=>kI i m K) s cd s2 B):kU b (kR i m p c K) s cd s2 B:=by
 subst hn
 unfold fw at h
 unfold kR
 split
 ·rename_i hc
  rw[if_pos hc] at h
  exact⟨hmm,h⟩
 ·rename_i hc
  rw[if_neg hc] at h
  exact⟨hmm,h⟩
section
variable{D:List Nat}{A B:Fr}{a:AS}{b:Nat}{w:World}{f:FuncId}{cap:List Value}{t:dU}
theorem s5{K:Int->Tr}{i m p:Int}{s:Mm}{bt bm bo bi:Nat}(hK:Eu b K s f cap B)(hi:i<=s.nodes.length)(hmm:m<=s.nodes.length)(hp:p<=s.nodes.length):wA b 165 [pt bt,pt bm,pt bo,pt bi] [.int .i64 p] (bx bt [fn f cap]::bx bm [iv m]::bx bo (lT b t)::bx bi [iv i]::B) s (if p=0 then K m else Ih i m p K):=by
 intro a D A w em ok hm hA hB hw0
 subst em
 have hK2:=hK.more (B2:=(bx bt [fn f cap]::bx bm [iv m]::bx bo (lT b t)::bx bi [iv i]::B)) (λ x hx=>by simp[hx])
 refine enter Tryz.func165 Tryz.ntmps165 rfl rfl hw0 ?_
 simp only[cG]
 refine J0 ?_;refine aL (λ x6=>?_);refine aI ?_;refine kT ?_;refine uQ ?_
 refine bC (λ c8=>?_) (λ c8=>?_)
 ·refine J0 ?_;refine aD (qT bt [fn f cap] 0 hB rfl) rfl ?_;refine aD (qT bm [.int .i64 m] 0 hB rfl) rfl ?_;refine aE (S2 hK2.1 (hK2.2 m a.mm (Mm.Le.refl _) hmm) ok hm hA hB) (λ x11 h11=>?_);refine cR (jG λ _=>bP rf cS rf (dV _) eT rf lE) (λ _=>?_);refine aI ?_
  refine bD Tryz.results165 (λ w hw=>?_)
  refine⟨x11,rfl,⟨?_,h11.2⟩,hw.rN⟩
  rw[if_pos (by omega)]
  exact h11.1
 ·refine aZ ?_;refine J0 ?_;refine aD (ij bo (lT b t) 0 3 hB rfl rfl) rfl ?_;refine aD (qT bi [.int .i64 i] 0 hB rfl) rfl ?_;refine aD (qT bm [.int .i64 m] 0 hB rfl) rfl ?_;refine aB ?_;refine aD (qT bt [fn f cap] 0 hB rfl) rfl ?_;refine aE (I3 (λ w1 hw=>W8 hK2 hi hmm hp ok hm hA hB hw)) (λ x17 h17=>?_);refine cR (jG λ _=>bP rf cS rf (dV _) eT rf lE) (λ _=>?_);refine aI ?_
  refine bD Tryz.results165 (λ w hw=>?_)
  refine⟨x17,rfl,⟨?_,h17.2⟩,hw.rN⟩
  rw[if_neg (by omega)]
  exact h17.1
theorem qt{K:Int->Tr}{i m prev:Int}{s:Mm}{bp bt bm bo bi:Nat}(hK:Eu b K s f cap B)(hi:i<=s.nodes.length)(hmm:m<=s.nodes.length)(hpr:prev<=9223372036854775807)(hn:(bA s.nodes m).prev=prev)(o:Bool):wA b 164 [pt bp,pt bt,pt bm,pt bo,pt bi] [.bool o] (bx bp [iv prev]::bx bt [fn f cap]::bx bm [iv m]::bx bo (lT b t)::bx bi [iv i]::B) s (kI i m K):=by
 intro a D A w em ok hm hA hB hw0
 subst em
 refine enter Tryz.func164 Tryz.ntmps164 rfl rfl hw0 ?_
 simp only[cG]
 refine J0 ?_;refine aL (λ x7=>?_);refine aI ?_;refine J0 ?_;refine aD (qT bp [.int .i64 prev] 0 hB rfl) rfl ?_;(refine aD dH rfl ?_);refine aP (cV (hc:=λ w1 hw=>xU _ _ _ w1)) (λ x10=>?_);refine cR (jG λ _=>bP rf cS rf (dV _) eT rf lE) (λ _=>?_);refine aI ?_
 refine bD Tryz.results164 (λ w hw=>?_)
 refine⟨(uI prev _ _,[],a),rfl,⟨⟨hmm,?_⟩,ok,AS.jM.refl a⟩,hw.rI⟩
 dsimp only
 rw[hn]
 exact⟨rfl,hpr,_,_,rfl,by kernel_rfl,λ p s1 l hp=>(s5 (bt:=bt) (bm:=bm) (bo:=bo) (bi:=bi) (hK.le l) (by have:=l.len;omega) (by have:=l.len;omega) hp).mr (λ y hy=>List.mem_cons_of_mem _ hy)⟩
theorem pi{K:Int->Tr}{i m p prev r:Int}{s:Mm}{bo bi bp bq ba:Nat}(hK:Yc b (λ _=>kI i m K) s f cap B)(hi:i<=s.nodes.length)(hmm:m<=s.nodes.length)(hp:p<=s.nodes.length)(hr:r<=s.nodes.length)(hn:(bA s.nodes m).prev=prev):wA b 168 [pt bo,pt bi,pt bp,pt bq,pt ba] [.int .i64 r] (bx bo (lT b t)::bx bi [iv i]::bx bp [iv prev]::bx bq [iv p]::bx ba [fn f cap]::B) s (.node r λ nr=>.node i λ ni=>kR i m p (nr.gen==ni.gen) K):=by
 intro a D A w em ok hm hA hB hw0
 subst em
 have hK2:=hK.more (B2:=(bx bo (lT b t)::bx bi [iv i]::bx bp [iv prev]::bx bq [iv p]::bx ba [fn f cap]::B)) (λ x hx=>by simp[hx])
 have hpr:prev<=a.mm.cs.length:=by rw[<- hn];exact(ok.mo.at m).prev
 refine enter Tryz.func168 Tryz.ntmps168 rfl rfl hw0 ?_
 simp only[cG]
 refine J0 ?_;refine aL (λ x7=>?_);refine Tq ?_;refine eH [(0,[]),(1,[]),(2,[]),(5,[]),(6,[]),(7,[]),(3,[6,7]),(4,[]),(8,[]),(9,[]),(10,[]),(11,[])] ?_;refine aW ?_;refine bU (i:=1) (hq:=(qT bo (lT b t) 0 hB rfl)) (h:=?_);refine aR ?_;refine aW ?_;refine bU (i:=6) (hq:=(qT bo (lT b t) 0 hB rfl)) (h:=?_);refine bU (i:=7) (hq:=(qT bi [.int .i64 i] 0 hB rfl)) (h:=?_);refine bE (i:=3) (hq:=(I7 r ok hm hA hr)) (hfire:=(λ _=>by(refine fA ?_;(repeat (first|exact aK.nil|refine aK.cons (by first|exact fL (hq:=qT bo (lT b t) 0 hB rfl)|exact fL (hq:=qT bi [.int .i64 i] 0 hB rfl)) ?_));done))) (h:=λ x12 h12=>?_);refine oA ?_;refine bE (i:=8) (hq:=(I7 i ok hm hA hi)) (h:=λ x17 h17=>?_);refine oA ?_;refine oJ ?_;refine J7 ?_;refine J0 ?_;refine aD (ij bo (lT b t) 0 3 hB rfl rfl) rfl ?_;refine aD (qT bp [.int .i64 prev] 0 hB rfl) rfl ?_;refine aD (qT bq [.int .i64 p] 0 hB rfl) rfl ?_;refine aB ?_;refine aD (qT ba [fn f cap] 0 hB rfl) rfl ?_;refine aE (I3 (λ w1 hw=>Kc (K:=λ _=>kI i m K) hK2 hpr hp ok hm hA hB hw)) (λ x25 h25=>?_);refine cR (jG λ _=>bP rf cS rf (dV _) eT rf lE) (λ _=>?_);refine aI ?_
 refine bD Tryz.results168 (λ w hw=>?_)
 refine⟨x25,rfl,⟨⟨hr,hi,?_⟩,h25.2⟩,hw.rN⟩
 rw[mM,mM]
 exact U3 hmm hn h25.1
set_option maxRecDepth 100000 in
set_option maxHeartbeats 2000000 in
theorem ux{K:Int->Tr}{i m p prev:Int}{s:Mm}{bt bm bo bi bp:Nat}(ht:t.root<=9223372036854775807)(hK:Eu b K s f cap B)(hi:i<=s.nodes.length)(hmm:m<=s.nodes.length)(hp:p<=s.nodes.length)(hn:(bA s.nodes m).prev=prev):wA b 162 [pt bt,pt bm,pt bo,pt bi,pt bp] [.int .i64 p] (bx bt [fn f cap]::bx bm [iv m]::bx bo (lT b t)::bx bi [iv i]::bx bp [iv prev]::B) s (if p=0 then K m else .node p λ np=>if bV np then(if t.ro=true then kR i m p false K else Ak t λ r=>.node r λ nr=>.node i λ ni=>kR i m p (nr.gen==ni.gen) K) else Ih i m p K):=by
 intro a D A w em ok hm hA hB hw0
 subst em
 have hK2:=hK.more (B2:=(bx bt [fn f cap]::bx bm [iv m]::bx bo (lT b t)::bx bi [iv i]::bx bp [iv prev]::B)) (λ x hx=>by simp[hx])
 have np:=D4 ok p
 have hpr:prev<=a.mm.cs.length:=by rw[<- hn];exact(ok.mo.at m).prev
 have hAg:Yc b (λ _=>kI i m K) a.mm 164 [.pointer (some ⟨bp,0,none⟩),.pointer (some ⟨bt,0,none⟩),.pointer (some ⟨bm,0,none⟩),.pointer (some ⟨bo,0,none⟩),.pointer (some ⟨bi,0,none⟩)] (bx bt [fn f cap]::bx bm [iv m]::bx bo (lT b t)::bx bi [iv i]::bx bp [iv prev]::B):=⟨by kernel_rfl,λ o s1 l=>(qt (t:=t) (prev:=prev) (bp:=bp) (bt:=bt) (bm:=bm) (bo:=bo) (bi:=bi) (hK.le l) (by have:=l.len;omega) (by have:=l.len;omega) (rJ hm hpr) (by rw[l.nd hmm];exact hn) o).mr (λ y hy=>by
  simp only[List.mem_cons] at hy ⊢
  rcases hy with h|h|h|h|h|h<;>simp[h])⟩
 have hRt:∀x6 x8:Nat,Eu b (λ r=>.node r λ nr=>.node i λ ni=>kR i m p (nr.gen==ni.gen) K) a.mm 168 [.pointer (some ⟨bo,0,none⟩),.pointer (some ⟨bi,0,none⟩),.pointer (some ⟨bp,0,none⟩),.pointer (some ⟨x6,0,none⟩),.pointer (some ⟨x8,0,none⟩)] (bx x8 [.func (.func 164) #[] ⟨[.pointer (some ⟨bp,0,none⟩),.pointer (some ⟨bt,0,none⟩),.pointer (some ⟨bm,0,none⟩),.pointer (some ⟨bo,0,none⟩),.pointer (some ⟨bi,0,none⟩)]⟩]::bx x6 [iv p]::(bx bt [fn f cap]::bx bm [iv m]::bx bo (lT b t)::bx bi [iv i]::bx bp [iv prev]::B)):=λ x6 x8=>⟨by kernel_rfl,λ r s1 l hr=>(pi (t:=t) (prev:=prev) (bo:=bo) (bi:=bi) (bp:=bp) (bq:=x6) (ba:=x8) (hAg.le l) (by have:=l.len;omega) (by have:=l.len;omega) (by have:=l.len;omega) hr (by rw[l.nd hmm];exact hn)).mr (λ y hy=>by
  simp only[List.mem_cons] at hy ⊢
  rcases hy with h|h|h|h|h|h<;>simp[h])⟩
 refine enter Tryz.func162 Tryz.ntmps162 rfl rfl hw0 ?_
 simp only[cG]
 refine J0 ?_;refine bM (λ x6=>?_);refine aL (λ x7=>?_);refine Tq ?_;refine oR ?_;refine uQ ?_
 refine bC (λ c10=>?_) (λ c10=>?_)
 ·refine J0 ?_;refine aD (qT bt [fn f cap] 0 hB rfl) rfl ?_;refine aD (qT bm [.int .i64 m] 0 hB rfl) rfl ?_;refine aE (S2 hK2.1 (hK2.2 m a.mm (Mm.Le.refl _) hmm) ok hm hA hB) (λ x13 h13=>?_);refine cR (jG λ _=>bP rf cS rf (dV _) eT rf lE) (λ _=>?_);refine aI ?_
  refine bD Tryz.results162 (λ w hw=>?_)
  refine⟨x13,rfl,⟨?_,h13.2⟩,hw.rN⟩
  rw[if_pos (by omega)]
  exact h13.1
 ·refine kZ ?_;refine Kc5 ?_;refine aD (qT bo (lT b t) 0 hB rfl) rfl ?_;refine bQ ?_;refine aE (I7 p ok hm hA hp) (λ x17 h17=>?_);refine aE (c0 (V:=.bool) (hc:=λ w1 hw=>So ((aC (dL a.L) p).at_ x17.1 x17.2).nd w1)) (λ x18 h18=>?_);refine pE ?_
  refine bC (λ c19=>?_) (λ c19=>?_)
  ·refine J0 ?_;refine aD (ij bo (lT b t) 0 3 hB rfl rfl) rfl ?_;refine aD (qT bi [.int .i64 i] 0 hB rfl) rfl ?_;refine aD (qT bm [.int .i64 m] 0 hB rfl) rfl ?_;refine bQ ?_;refine aD (qT bt [fn f cap] 0 hB rfl) rfl ?_;refine aE (I3 (λ w1 hw=>W8 hK2 hi hmm hp ok hm hA hB hw)) (λ x25 h25=>?_);refine cR (jG λ _=>bP rf cS rf (dV _) eT rf lE) (λ _=>?_);refine aI ?_
   refine bD Tryz.results162 (λ w hw=>?_)
   refine⟨x25,rfl,⟨?_,h25.2⟩,hw.rN⟩
   rw[if_neg (by omega)]
   refine⟨hp,?_⟩
   rw[mM]
   dsimp only
   rw[if_neg (λ hk=>by have h2:=h18.2 hk;rw[h2] at c19;cases c19)]
   exact h25.1
  ·refine aZ ?_;refine J0 ?_;(refine aD dH rfl ?_);refine aP (jG λ _=>Vp (z:=.nilFunc) (by kernel_rfl) rfl) (λ x8=>?_);refine J5 ?_;refine aV ?_;refine Kc5 ?_;refine aG ?_;refine aD (qT bo (lT b t) 2 hB rfl) rfl ?_;refine aI ?_
   refine bC (λ c29=>?_) (λ c29=>?_)
   ·refine J0 ?_;refine aD (ij bo (lT b t) 0 3 hB rfl rfl) rfl ?_;refine aD (qT bp [.int .i64 prev] 0 hB rfl) rfl ?_;refine bQ ?_;refine bQ ?_;refine aE (I3 (λ w1 hw=>Kc (K:=λ _=>kI i m K) hAg hpr hp ok hm hA hB hw)) (λ x34 h34=>?_);refine cR (jG λ _=>bP rf cS rf (dV _) eT rf lE) (λ _=>?_);refine aI ?_
    refine bD Tryz.results162 (λ w hw=>?_)
    refine⟨x34,rfl,⟨?_,h34.2⟩,hw.rN⟩
    rw[if_neg (by omega)]
    refine⟨hp,?_⟩
    rw[mM]
    dsimp only
    rw[if_pos (show bV (aC (dL a.L) p).c from h18.1 (by simpa using c19)),if_pos c29]
    exact U3 hmm hn h34.1
   ·refine Uu (λ w h=>(show SF _ _ [_,(b,eV a)] _ [_,_] _ w from(h.dK (.tail (.tail .head))).dK .head)) ?_
    refine aZ ?_;refine J0 ?_;refine aD (ij bo (lT b t) 0 3 hB rfl rfl) rfl ?_;(refine aD dH rfl ?_);refine aE (cM (V:=λ y:Cd×Fr×AS=>.agg ⟨y.1.cells⟩) (hs:=[(b,eV a)]) (os:=fJ a) (hs':=λ y=>[(b,eV y.2.2)]) (os':=λ y=>fJ y.2.2) (Fc:=λ y=>y.2.1) (A0:=bx x8 [.func (.func 164) #[] ⟨[.pointer (some ⟨bp,0,none⟩),.pointer (some ⟨bt,0,none⟩),.pointer (some ⟨bm,0,none⟩),.pointer (some ⟨bo,0,none⟩),.pointer (some ⟨bi,0,none⟩)]⟩]::bx x6 [iv p]::A) (hA:=bH.z5) (hc:=λ w1 hw=>qd (K:=λ r=>.node r λ nr=>.node i λ ni=>kR i m p (nr.gen==ni.gen) K) (B:=bx x8 [.func (.func 164) #[] ⟨[.pointer (some ⟨bp,0,none⟩),.pointer (some ⟨bt,0,none⟩),.pointer (some ⟨bm,0,none⟩),.pointer (some ⟨bo,0,none⟩),.pointer (some ⟨bi,0,none⟩)]⟩]::bx x6 [iv p]::(bx bt [fn f cap]::bx bm [iv m]::bx bo (lT b t)::bx bi [iv i]::bx bp [iv prev]::B)) ht (hRt x6 x8) ok hm (λ f hf=>List.mem_cons_of_mem _ (List.mem_cons_of_mem _ (hA f hf))) (Uv hB) hw)) (λ x37 h37=>?_);refine cR (jG λ _=>bP rf cS rf (dV _) eT rf lE) (λ _=>?_);refine aI ?_
    refine bD Tryz.results162 (λ w hw=>?_)
    refine⟨(x37.1,x37.2.1++[bx x8 [.func (.func 164) #[] ⟨[.pointer (some ⟨bp,0,none⟩),.pointer (some ⟨bt,0,none⟩),.pointer (some ⟨bm,0,none⟩),.pointer (some ⟨bo,0,none⟩),.pointer (some ⟨bi,0,none⟩)]⟩],bx x6 [iv p]],x37.2.2),rfl,⟨?_,h37.2.1,h37.2.2.more (λ f hf=>List.mem_append_left _ hf)⟩,hw.rI⟩
    rw[if_neg (by omega)]
    refine⟨hp,?_⟩
    rw[mM]
    dsimp only
    rw[if_pos (show bV (aC (dL a.L) p).c from h18.1 (by simpa using c19)),if_neg (by rw[c29];decide)]
    rw[List.append_assoc]
    exact h37.1
theorem Kh{K:Int->Tr}{i m:Int}(ht:t.root<=9223372036854775807)(hK:Eu b K a.mm f cap B)(hi:i<=a.mm.nodes.length)(hmm:m<=a.mm.nodes.length)(ok:a.Ok)(hm:a.mm.Small)(hA:∀f∈aN a.L,f∈A)(hB:∀x∈B,x∈A)(hs:SF w D [(b,eV a)] A [] (fJ a) w) :
  Calls prog 121 #[.agg ⟨lT b t⟩,.int .i64 i,.int .i64 m,fn f cap] w (Ei b (λ c' s' B'=>kU b (mY t i m K) a.mm c' s' B') a B D w):=by
 have nm:=D4 ok m
 refine enter Tryz.func121 Tryz.ntmps121 rfl rfl hs ?_
 simp only[cG]
 refine J0 ?_;refine bM (λ x4=>?_);refine bM (λ x5=>?_);refine bM (λ x6=>?_);refine bM (λ x7=>?_);refine aL (λ x8=>?_);refine aI ?_;refine iH ?_;refine bQ ?_;refine aE (I7 m ok hm hA hmm) (λ x13 h13=>?_);refine cB ?_;refine aP (jG λ _=>Vp (z:=.int .i64 0) (by kernel_rfl) rfl) (λ x9=>?_);refine J5 ?_;refine oR ?_;(refine aD dH rfl ?_);refine aP (cV (hc:=λ w1 hw=>xU _ _ _ w1)) (λ x17=>?_);refine cR (jG λ _=>bP rf cS rf (dV _) eT rf lE) (λ _=>?_);refine aI ?_
 refine bD Tryz.results121 (λ w hw=>?_)
 refine⟨(uI (aC (dL a.L) m).nd.prev _ _,[bx x4 (lT b t),bx x5 [iv i],bx x6 [iv m],bx x7 [fn f cap],bx x9 [iv (aC (dL a.L) m).nd.prev]],a),rfl,⟨⟨hmm,?_⟩,ok,(AS.jM.refl a).more (λ _ h=>(List.not_mem_nil h).elim)⟩,?_⟩
 ·rw[mM]
  refine⟨rfl,rJ hm nm.prev,_,_,rfl,by kernel_rfl,λ p s1 l hp=>(ux (bt:=x7) (bm:=x6) (bo:=x4) (bi:=x5) (bp:=x9) (prev:=(aC (dL a.L) m).nd.prev) ht (hK.le l) (by have:=l.len;omega) (by have:=l.len;omega) hp (by rw[l.nd hmm,mM];rfl)).mr (λ y hy=>?_)⟩
  simp only[List.mem_cons,List.mem_append,List.not_mem_nil,or_false] at hy ⊢
  rcases hy with h|h|h|h|h|h<;>simp[h]
 ·exact(((((hw.dK .head).dK (.tail .head)).dK (.tail .head)).dK (.tail .head)).dK (.tail .head)).rI
end
end
section
section
variable{D:List Nat}{A B:Fr}{a:AS}{b:Nat}{w:World}{f:FuncId}{cap:List Value}{t:dU}
theorem au{K:Int->Tr}{i m:Int}{s:Mm}{bt bo bi:Nat}(ht:t.root<=9223372036854775807)(hK:Eu b K s f cap B)(hi:i<=s.nodes.length)(hmm:m<=s.nodes.length):wA b 131 [pt bo,pt bi,pt bt] [.int .i64 m] (bx bo (lT b t)::bx bi [iv i]::bx bt [fn f cap]::B) s (mY t i m K):=by
 intro a D A w em ok hm hA hB hw0
 subst em
 have hK2:=hK.more (B2:=(bx bo (lT b t)::bx bi [iv i]::bx bt [fn f cap]::B)) (λ x hx=>by simp[hx])
 refine enter Tryz.func131 Tryz.ntmps131 rfl rfl hw0 ?_
 simp only[cG]
 refine J0 ?_;refine aL (λ x5=>?_);refine aI ?_;refine J0 ?_;refine aD (ij bo (lT b t) 0 3 hB rfl rfl) rfl ?_;refine aD (qT bi [.int .i64 i] 0 hB rfl) rfl ?_;refine aB ?_;refine aD (qT bt [fn f cap] 0 hB rfl) rfl ?_;refine aE (I3 (λ w1 hw=>Kh ht hK2 hi hmm ok hm hA hB hw)) (λ x10 h10=>?_);refine cR (jG λ _=>bP rf cS rf (dV _) eT rf lE) (λ _=>?_);refine aI ?_
 refine bD Tryz.results131 (λ w hw=>?_)
 exact⟨x10,rfl,h10,hw.rN⟩
theorem tg{K:Int->Tr}{i:Int}(ht:t.root<=9223372036854775807)(hK:Eu b K a.mm f cap B)(hi:i<=a.mm.nodes.length)(ok:a.Ok)(hm:a.mm.Small)(hA:∀f∈aN a.L,f∈A)(hB:∀x∈B,x∈A)(hs:SF w D [(b,eV a)] A [] (fJ a) w) :
  Calls prog 88 #[.agg ⟨lT b t⟩,.int .i64 i,fn f cap] w (Ei b (λ c' s' B'=>kU b (jQ t i K) a.mm c' s' B') a B D w):=by
 have ni:=D4 ok i
 refine enter Tryz.func88 Tryz.ntmps88 rfl rfl hs ?_
 simp only[cG]
 refine J0 ?_;refine bM (λ x3=>?_);refine bM (λ x4=>?_);refine bM (λ x5=>?_);refine aL (λ x6=>?_);refine aI ?_;refine iH ?_;refine bQ ?_;refine aE (I7 i ok hm hA hi) (λ x10 h10=>?_);refine cB ?_;(refine aD dH rfl ?_);refine aP (cV (hc:=λ w1 hw=>xU _ _ _ w1)) (λ x13=>?_);refine cR (jG λ _=>bP rf cS rf (dV _) eT rf lE) (λ _=>?_);refine aI ?_
 refine bD Tryz.results88 (λ w hw=>?_)
 refine⟨(uI (aC (dL a.L) i).nd.main _ _,[bx x3 (lT b t),bx x4 [iv i],bx x5 [fn f cap]],a),rfl,⟨⟨hi,?_⟩,ok,(AS.jM.refl a).more (λ _ h=>(List.not_mem_nil h).elim)⟩,?_⟩
 ·rw[mM]
  exact⟨rfl,rJ hm ni.main,_,_,rfl,by kernel_rfl,λ m s1 l hmm=>au (bo:=x3) (bi:=x4) (bt:=x5) ht (hK.le l) (by have:=l.len;omega) hmm⟩
 ·exact(((hw.dK (.tail .head)).dK (.tail .head)).dK (.tail .head)).rI
theorem ie{K:Bool->Tr}{m n:Int}{s:Mm}{bt bn:Nat}(hK:Yc b K s f cap B):wA b 122 [pt bt,pt bn] [.int .i64 m] (bx bt [fn f cap]::bx bn [iv n]::B) s (K (m==n)):=by
 intro a D A w em ok hm hA hB hw0
 subst em
 have hK2:=hK.more (B2:=(bx bt [fn f cap]::bx bn [iv n]::B)) (λ x hx=>by simp[hx])
 refine enter Tryz.func122 Tryz.ntmps122 rfl rfl hw0 ?_
 simp only[cG]
 refine J0 ?_;refine aL (λ x4=>?_);refine aI ?_;refine J0 ?_;refine aD (qT bt [fn f cap] 0 hB rfl) rfl ?_;refine aB ?_;refine aD (qT bn [.int .i64 n] 0 hB rfl) rfl ?_;refine lF ?_;refine aE (S2 hK2.1 (hK2.2 (m==n) a.mm (Mm.Le.refl _)) ok hm hA hB) (λ x9 h9=>?_);refine cR (jG λ _=>bP rf cS rf (dV _) eT rf lE) (λ _=>?_);refine aI ?_
 refine bD Tryz.results122 (λ w hw=>?_)
 exact⟨x9,rfl,h9,hw.rN⟩
theorem bk{K:Bool->Tr}{i n:Int}{s:Mm}{bt bo bi bn:Nat}(ht:t.root<=9223372036854775807)(hK:Yc b K s f cap B)(hi:i<=s.nodes.length)(hnn:n<=s.nodes.length)(o:Bool):wA b 120 [pt bt,pt bo,pt bi,pt bn] [.bool o] (bx bt [fn f cap]::bx bo (lT b t)::bx bi [iv i]::bx bn [iv n]::B) s (if o=true then mY t i n λ m=>K (m==n) else K false):=by
 intro a D A w em ok hm hA hB hw0
 subst em
 have hK2:=hK.more (B2:=(bx bt [fn f cap]::bx bo (lT b t)::bx bi [iv i]::bx bn [iv n]::B)) (λ x hx=>by simp[hx])
 have hT:Eu b (λ m=>K (m==n)) a.mm 122 [.pointer (some ⟨bt,0,none⟩),.pointer (some ⟨bn,0,none⟩)] (bx bt [fn f cap]::bx bo (lT b t)::bx bi [iv i]::bx bn [iv n]::B):=⟨by kernel_rfl,λ m s1 l hv=>(ie (bt:=bt) (bn:=bn) (hK.le l)).mr (λ y hy=>by
  simp only[List.mem_cons] at hy ⊢
  rcases hy with h|h|h<;>simp[h])⟩
 refine enter Tryz.func120 Tryz.ntmps120 rfl rfl hw0 ?_
 simp only[cG]
 refine J0 ?_;refine aL (λ x6=>?_);refine aI ?_;refine kT ?_;refine pE ?_
 refine bC (λ c8=>?_) (λ c8=>?_)
 ·refine J0 ?_;refine aD (qT bt [fn f cap] 0 hB rfl) rfl ?_;refine aE (S2 hK2.1 (hK2.2 false a.mm (Mm.Le.refl _)) ok hm hA hB) (λ x10 h10=>?_);refine cR (jG λ _=>bP rf cS rf (dV _) eT rf lE) (λ _=>?_);refine aI ?_
  refine bD Tryz.results120 (λ w hw=>?_)
  refine⟨x10,rfl,⟨?_,h10.2⟩,hw.rN⟩
  rw[if_neg (by rw[show o=false by simpa using c8];decide)]
  exact h10.1
 ·refine aZ ?_;refine J0 ?_;refine aD (ij bo (lT b t) 0 3 hB rfl rfl) rfl ?_;refine aD (qT bi [.int .i64 i] 0 hB rfl) rfl ?_;refine aD (qT bn [.int .i64 n] 0 hB rfl) rfl ?_;(refine aD dH rfl ?_);refine aE (I3 (λ w1 hw=>Kh ht hT hi hnn ok hm hA hB hw)) (λ x15 h15=>?_);refine cR (jG λ _=>bP rf cS rf (dV _) eT rf lE) (λ _=>?_);refine aI ?_
  refine bD Tryz.results120 (λ w hw=>?_)
  refine⟨x15,rfl,⟨?_,h15.2⟩,hw.rN⟩
  rw[if_pos (by simpa using c8)]
  exact h15.1
theorem ra{K:Bool->Tr}{i bK n:Int}(ht:t.root<=9223372036854775807)(hK:Yc b K a.mm f cap B)(hi:i<=a.mm.nodes.length)(hnn:n<=a.mm.nodes.length)(ok:a.Ok)(hm:a.mm.Small)(hA:∀f∈aN a.L,f∈A)(hB:∀x∈B,x∈A)(hs:SF w D [(b,eV a)] A [] (fJ a) w) :
  Calls prog 75 #[.agg ⟨lT b t⟩,.int .i64 i,.int .i64 bK,.int .i64 n,fn f cap] w (Ei b (λ c' s' B'=>kU b (jU t i bK n K) a.mm c' s' B') a B D w):=by
 have ni:=D4 ok i
 refine enter Tryz.func75 Tryz.ntmps75 rfl rfl hs ?_
 simp only[cG]
 refine J0 ?_;refine bM (λ x5=>?_);refine bM (λ x6=>?_);refine bM (λ x8=>?_);refine bM (λ x9=>?_);refine aL (λ x10=>?_);refine Tq ?_;refine eH [(0,[]),(1,[]),(2,[]),(5,[]),(6,[]),(7,[]),(3,[6]),(4,[]),(8,[]),(9,[])] ?_;refine lK ?_;refine bS ?_;refine Ka9 ?_;(refine cK (i:=7) (hq:=dH) (h:=?_));refine bE (i:=3) (hq:=(I7 i ok hm hA hi)) (h:=λ x14 h14=>?_);refine oA ?_;refine dC (i:=8) (hq:=(cV (hc:=λ w1 hw=>zU _ _ _ _ _ w1))) (h:=λ x19=>?_);refine kW (i:=9) (hq:=(jG λ _=>bP rf cS rf (dV _) eT rf lE)) (h:=λ _=>?_);refine eL ?_
 refine bD Tryz.results75 (λ w hw=>?_)
 refine⟨(zA (aC (dL a.L) i).nd.main bK n _ _,[bx x5 (lT b t),bx x6 [iv i],bx x8 [iv n],bx x9 [fn f cap]],a),rfl,⟨⟨hi,?_⟩,ok,(AS.jM.refl a).more (λ _ h=>(List.not_mem_nil h).elim)⟩,?_⟩
 ·rw[mM]
  refine⟨rfl,rJ hm ni.main,hnn,_,_,rfl,by kernel_rfl,λ o s1 l=>(bk (bt:=x9) (bo:=x5) (bi:=x6) (bn:=x8) ht (hK.le l) (by have:=l.len;omega) (by have:=l.len;omega) o).mr (λ y hy=>?_)⟩
  simp only[List.mem_cons,List.mem_append,List.not_mem_nil,or_false] at hy ⊢
  rcases hy with h|h|h|h|h<;>simp[h]
 ·exact((((hw.dK (.tail .head)).dK (.tail .head)).dK (.tail .head)).dK (.tail .head)).rI
end
end
end Go.Proofs.YtbajmaoegmbfgaaGreat
namespace Go.Ct
open Go Go.RowKit
section
theorem bG.pre{P:Program}{S:List (Nat×Value)}{G G2:World->Prop}{o:Oper}{X:Type}{V:X->Value}{G':X->World->Prop}(h:∀w,G w->G2 w)(hl:bG P S G2 o X V G'):bG P S G o X V G':=⟨λ w hw=>hl.run w (h w hw)⟩
end
end Go.Ct
namespace Go.Proofs.YtbajmaoegmbfgaaGreat
open Go Go.RowKit Go.Ct
section
section
variable{D:List Nat}{A B:Fr}{a:AS}{b:Nat}{w:World}{f:FuncId}{cap:List Value}{t:dU}
end
end
section
theorem rQ.app{b:Nat}{p:Tr×Mm}{a:AS}{B B1 F:Fr}{c:Cd}{a':AS}(h:rQ b p a (B1++B) (c,F,a')):rQ b p a B (c,F++B1,a'):=by
 obtain⟨⟨h1,h2⟩,h3,h4⟩:=h
 refine⟨⟨?_,h2⟩,h3,h4.more λ f hf=>List.mem_append_left _ hf⟩
 simp only at h1 ⊢
 rw[List.append_assoc]
 exact h1
section
variable{D:List Nat}{A B:Fr}{a:AS}{b:Nat}{w:World}{f:FuncId}{cap:List Value}{t:dU}
theorem Jm{t:Tr}{i m:Nat}(ht:bW t i m)(h:Th0 b t a.mm f cap B)(ok:a.Ok)(hm:a.mm.Small)(hA:∀f∈aN a.L,f∈A)(hB:∀x∈B,x∈A)(hs:SF w D [(b,eV a)] A [] (fJ a) w) :
  Calls Tryz.prog 73 #[.iface 42 (.pointer (some ⟨b,0,none⟩)),.func (.func f) #[] ⟨cap⟩] w λ e w'=>∃x:Nat×Cd×Fr×AS,e=.returned (.pointer (some ⟨x.1,0,none⟩))/\(rQ b (Ct.gF t a.mm) a B x.2/\eE (Ct.gF t a.mm).1=true)/\SF w D ([(b,eV x.2.2.2)]++[(x.1,tO b x.2.1 0)]) [] x.2.2.1 (fJ x.2.2.2++[]) w' :=
 (kj ht h ok hm hA hB hs).mono λ _ _ ⟨x,e,h,hw⟩=>⟨x,e,h,by rw[List.append_nil];exact hw.perm (List.Perm.swap _ _ _) (List.Perm.refl _)⟩
theorem y7{s:Mm}(v:Int):zT b 89 [] [.int .i64 v] B s (λ c' s' B'=>kU b (.done (fC v false)) s c' s' B'):=by
 intro a D A w em ok hm hA hB hw0
 subst em
 refine enter Tryz.func89 Tryz.ntmps89 rfl rfl hw0 ?_
 simp only[cG]
 refine J0 ?_;refine aL (λ x2=>?_);refine aI ?_;refine J2 ?_;refine bO ?_;refine aP (cV (hc:=λ w1 hw=>Vj (fC v false) w1)) (λ x5=>?_);refine J5 ?_
 refine bD Tryz.results89 (λ w hw=>?_)
 exact⟨(Bm (fC v false),[],a),rfl,⟨⟨rfl,rfl⟩,ok,AS.jM.refl a⟩,hw.rI⟩
theorem aAN{s:Mm}(v:Bool):zT b 76 [] [.bool v] B s (λ c' s' B'=>kU b (.done (fC 0 v)) s c' s' B'):=by
 intro a D A w em ok hm hA hB hw0
 subst em
 refine enter Tryz.func76 Tryz.ntmps76 rfl rfl hw0 ?_
 simp only[cG]
 refine J0 ?_;refine aL (λ x2=>?_);refine aI ?_;refine J2 ?_;refine bO ?_;refine aP (cV (hc:=λ w1 hw=>Vj (fC 0 v) w1)) (λ x5=>?_);refine J5 ?_
 refine bD Tryz.results76 (λ w hw=>?_)
 exact⟨(Bm (fC 0 v),[],a),rfl,⟨⟨rfl,rfl⟩,ok,AS.jM.refl a⟩,hw.rI⟩
theorem xx{i:Int}{s:Mm}{bo bi:Nat}(ht:t.root<=9223372036854775807)(hi:i<=s.nodes.length):wA b 87 [pt bo,pt bi] [] (bx bo (lT b t)::bx bi [iv i]::B) s (jQ t i λ r=>.done (fC r false)):=by
 intro a D A w em ok hm hA hB hw0
 subst em
 have hT:Eu b (λ r=>.done (fC r false)) a.mm 89 [] (bx bo (lT b t)::bx bi [iv i]::B):=⟨by kernel_rfl,λ v s1 l hv=>y7 v⟩
 refine enter Tryz.func87 Tryz.ntmps87 rfl rfl hw0 ?_
 simp only[cG]
 refine J0 ?_;refine aL (λ x2=>?_);refine aI ?_;refine J0 ?_;refine aD (ij bo (lT b t) 0 3 hB rfl rfl) rfl ?_;refine aD (qT bi [.int .i64 i] 0 hB rfl) rfl ?_;refine aE (I3 (λ w1 hw=>tg ht hT hi ok hm hA hB hw)) (λ x5 h5=>?_);refine cR (jG λ _=>bP rf cS rf (dV _) eT rf lE) (λ _=>?_);refine aI ?_
 refine bD Tryz.results87 (λ w hw=>?_)
 exact⟨x5,rfl,h5,hw.rN⟩
theorem yh{i bK n:Int}{s:Mm}{bo bi bl bn:Nat}(ht:t.root<=9223372036854775807)(hi:i<=s.nodes.length)(hnn:n<=s.nodes.length):wA b 74 [pt bo,pt bi,pt bl,pt bn] [] (bx bo (lT b t)::bx bi [iv i]::bx bl [iv bK]::bx bn [iv n]::B) s (jU t i bK n λ ok=>.done (fC 0 ok)):=by
 intro a D A w em ok hm hA hB hw0
 subst em
 have hT:Yc b (λ ok=>.done (fC 0 ok)) a.mm 76 [] (bx bo (lT b t)::bx bi [iv i]::bx bl [iv bK]::bx bn [iv n]::B):=⟨by kernel_rfl,λ v s1 l=>aAN v⟩
 refine enter Tryz.func74 Tryz.ntmps74 rfl rfl hw0 ?_
 simp only[cG]
 refine J0 ?_;refine aL (λ x4=>?_);refine aI ?_;refine J0 ?_;refine aD (ij bo (lT b t) 0 3 hB rfl rfl) rfl ?_;refine aD (qT bi [.int .i64 i] 0 hB rfl) rfl ?_;refine aD (qT bl [.int .i64 bK] 0 hB rfl) rfl ?_;refine aD (qT bn [.int .i64 n] 0 hB rfl) rfl ?_;refine aE (I3 (λ w1 hw=>ra ht hT hi hnn ok hm hA hB hw)) (λ x9 h9=>?_);refine cR (jG λ _=>bP rf cS rf (dV _) eT rf lE) (λ _=>?_);refine aI ?_
 refine bD Tryz.results74 (λ w hw=>?_)
 exact⟨x9,rfl,h9,hw.rN⟩
theorem jk{i:Int}(ht:t.root<=9223372036854775807)(hi:i<=a.mm.nodes.length){n m:Nat}(hT:bW (jQ t i λ r=>.done (fC r false)) n m)(ok:a.Ok)(hm:a.mm.Small)(hA:∀f∈aN a.L,f∈A)(hB:∀x∈B,x∈A)(hs:SF w D [(b,eV a)] A [] (fJ a) w) :
  Calls Tryz.prog 38 #[.iface 42 (.pointer (some ⟨b,0,none⟩)),.agg ⟨[.int .i64 t.root,.bool t.ro]⟩,.int .i64 i] w λ e w'=>∃x:Nat×Cd×Fr×AS,e=.returned (.pointer (some ⟨x.1,0,none⟩))/\(rQ b (Ct.gF (jQ t i λ r=>.done (fC r false)) a.mm) a B x.2/\eE (Ct.gF (jQ t i λ r=>.done (fC r false)) a.mm).1=true)/\SF w D [(x.1,tO b x.2.1 0),(b,eV x.2.2.2)] [] x.2.2.1 (fJ x.2.2.2) w':=by
 refine enter Tryz.func38 Tryz.ntmps38 rfl rfl hs ?_
 simp only[cG]
 refine J0 ?_;refine bM (λ x4=>?_);refine bM (λ x5=>?_);refine Ka4 ?_;refine bQ ?_;refine bO ?_;refine aL (λ x7=>?_);refine J5 ?_;refine J2 ?_;(refine aD dH rfl ?_);(refine aP (bG.pre (λ w h=>(show SF _ _ [_,(b,eV a)] _ ([bx x7 (lT b t),bx x5 [iv i]]:Fr) _ w from(h.dK (.tail .head)).dK .head)) (th (V:=λ x:Nat×Cd×Fr×AS=>.pointer (some ⟨x.1,0,none⟩)) (hs:=[(b,eV a)]) (os:=fJ a) (hs':=λ x=>[(b,eV x.2.2.2)]) (Hc:=λ x=>[(x.1,tO b x.2.1 0)]) (os':=λ x=>fJ x.2.2.2) (Oc:=λ _=>[]) (Fc:=λ x=>x.2.2.1) (A0:=[bx x7 (lT b t),bx x5 [iv i]]++A) (hA:=bH.jn) (hc:=λ w1 hw=>Jm (B:=[bx x7 (lT b t),bx x5 [iv i]]++B) hT ⟨by kernel_rfl,λ s1 l=>xx ht (by have:=l.len;omega)⟩ ok hm (λ f hf=>List.mem_append_right _ (hA f hf)) (Gk hB) hw))) (λ x13=>?_);try (refine eY (λ h13=>?_)));refine J1 ?_
 refine aT Tryz.results38 (λ w hw=>?_)
 exact⟨(x13.1,x13.2.1,x13.2.2.1++[bx x7 (lT b t),bx x5 [iv i]],x13.2.2.2),rfl,⟨rQ.app h13.1,h13.2⟩,hw.ret (by repeat (first|exact List.Sublist.refl _|apply List.Sublist.cons_cons|apply List.Sublist.cons)) (aX.iV λ f hf=>hf) (by repeat (exact List.Sublist.refl _))⟩
theorem O2{i bK nw:Int}(ht:t.root<=9223372036854775807)(hi:i<=a.mm.nodes.length)(hnn:nw<=a.mm.nodes.length){n m:Nat}(hT:bW (jU t i bK nw λ ok=>.done (fC 0 ok)) n m)(ok:a.Ok)(hm:a.mm.Small)(hA:∀f∈aN a.L,f∈A)(hB:∀x∈B,x∈A)(hs:SF w D [(b,eV a)] A [] (fJ a) w) :
  Calls Tryz.prog 28 #[.iface 42 (.pointer (some ⟨b,0,none⟩)),.agg ⟨[.int .i64 t.root,.bool t.ro]⟩,.int .i64 i,.int .i64 bK,.int .i64 nw] w λ e w'=>∃x:Nat×Cd×Fr×AS,e=.returned (.pointer (some ⟨x.1,0,none⟩))/\(rQ b (Ct.gF (jU t i bK nw λ ok=>.done (fC 0 ok)) a.mm) a B x.2/\eE (Ct.gF (jU t i bK nw λ ok=>.done (fC 0 ok)) a.mm).1=true)/\SF w D [(x.1,tO b x.2.1 0),(b,eV x.2.2.2)] [] x.2.2.1 (fJ x.2.2.2) w':=by
 refine enter Tryz.func28 Tryz.ntmps28 rfl rfl hs ?_
 simp only[cG]
 refine J0 ?_;refine bM (λ x6=>?_);refine bM (λ x7=>?_);refine bM (λ x8=>?_);refine bM (λ x9=>?_);refine Ka4 ?_;refine bQ ?_;refine bO ?_;refine aL (λ x11=>?_);refine J5 ?_;refine J2 ?_;(refine aD dH rfl ?_);(refine aP (bG.pre (λ w h=>(show SF _ _ [_,(b,eV a)] _ ([bx x11 (lT b t),bx x7 [iv i],bx x8 [iv bK],bx x9 [iv nw]]:Fr) _ w from(((h.dK (.tail .head)).dK (.tail .head)).dK (.tail .head)).dK .head)) (th (V:=λ x:Nat×Cd×Fr×AS=>.pointer (some ⟨x.1,0,none⟩)) (hs:=[(b,eV a)]) (os:=fJ a) (hs':=λ x=>[(b,eV x.2.2.2)]) (Hc:=λ x=>[(x.1,tO b x.2.1 0)]) (os':=λ x=>fJ x.2.2.2) (Oc:=λ _=>[]) (Fc:=λ x=>x.2.2.1) (A0:=[bx x11 (lT b t),bx x7 [iv i],bx x8 [iv bK],bx x9 [iv nw]]++A) (hA:=bH.jn) (hc:=λ w1 hw=>Jm (B:=[bx x11 (lT b t),bx x7 [iv i],bx x8 [iv bK],bx x9 [iv nw]]++B) hT ⟨by kernel_rfl,λ s1 l=>yh ht (by have:=l.len;omega) (by have:=l.len;omega)⟩ ok hm (λ f hf=>List.mem_append_right _ (hA f hf)) (Gk hB) hw))) (λ x17=>?_);try (refine eY (λ h17=>?_)));refine J1 ?_
 refine aT Tryz.results28 (λ w hw=>?_)
 exact⟨(x17.1,x17.2.1,x17.2.2.1++[bx x11 (lT b t),bx x7 [iv i],bx x8 [iv bK],bx x9 [iv nw]],x17.2.2.2),rfl,⟨rQ.app h17.1,h17.2⟩,hw.ret (by repeat (first|exact List.Sublist.refl _|apply List.Sublist.cons_cons|apply List.Sublist.cons)) (aX.iV λ f hf=>hf) (by repeat (exact List.Sublist.refl _))⟩
end
end
end Go.Proofs.YtbajmaoegmbfgaaGreat

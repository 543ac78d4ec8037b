/- Merged. -/
import Derived.Test.YtdeecdfockjoiaaGreatDoorGRn0
import Derived.Test.YtdeecdfockjoiaaGreatDoorGAr5
import Derived.Test.YtdeecdfockjoiaaGreatDoorGBr4
set_option linter.unusedSimpArgs false
set_option linter.unusedVariables false
namespace Go.Ct
open Go Go.RowKit
variable{i k:Nat}
theorem Wj:BV 0 []:=⟨by decide,by decide,λ i hi=>absurd hi (Nat.not_lt_zero i)⟩
theorem dw(hi:i<64):eI 0 (i:Int)=2^i:=by unfold eI;rw[if_pos ⟨by omega,by omega⟩,Int.toNat_natCast,Nat.zero_or]
theorem sh:∀i:Fin 64,jG (2^i.val) 64=1:=by decide +kernel
theorem aAr:∀k:Fin 65,jG 0 k.val=0:=by decide +kernel
theorem ir:∀i:Fin 64,∀k:Fin 64,jG (2^i.val) k.val=if i.val<k.val then 1 else 0:=by decide +kernel
theorem aDn(hi:i<64):iD 0 (i:Int)=0:=by unfold iD;rw[Int.toNat_natCast,Nat.min_eq_left (by omega)];exact aAr ⟨i,by omega⟩
theorem aDY(hi:i<64)(hk:k<64):iD (eI 0 (i:Int)) (k:Int)=if i<k then 1 else 0:=by unfold iD;rw[dw hi,Int.toNat_natCast,Nat.min_eq_left (by omega)];exact ir ⟨i,hi⟩ ⟨k,hk⟩
theorem aDt(i:Int):sQ 0 i=false:=by simp[sQ]
theorem aCp(hi:i<64)(hk:k<64)(hne:i≠k):sQ (eI 0 (i:Int)) (k:Int)=false:=by rw[N8 _ (by omega) (by omega),dw hi,Int.toNat_natCast,Nat.testBit_two_pow];exact decide_eq_false hne
theorem ot{x:Int}(hi:i<64)(hx:1<=x):BV (eI 0 (i:Int)) [x]:=by
 refine⟨A7 (by decide) _,?_,λ j hj=>?_⟩;·rw[dw hi];exact(sh ⟨i,hi⟩).symm
 ·simp only[List.length_cons,List.length_nil] at hj;rw[show j=0 by omega];exact hx
def two(i k:Nat)(x s:Int):List Int:=if i<k then [x,s] else [s,x]
theorem W0(i k:Nat)(x s:Int):(two i k x s).length=2:=by unfold two;split<;>rfl
theorem aCE{i:Nat}(hi:i<64)(x:Int):tW [] (iD 0 (i:Int)) x=[x]:=by rw[aDn hi];rfl
theorem aCH{i k:Nat}(hi:i<64)(hk:k<64)(x s:Int):tW [x] (iD (eI 0 (i:Int)) (k:Int)) s=two i k x s:=by rw[aDY hi hk];unfold two;split<;>rfl
structure NI where
 n:Nd
 xs:List Int
 ys:List Pr
 init:Int
def AX.no:AX:=⟨none,0,none,0,none,0,none,0⟩
def nC(k:Int):Nat:=if k=2∨k=3∨k=5∨k=6∨k=8 then 1 else 0
theorem rU(k:Int)(cs:List Int)(i:Int):(gH k cs i).length=cs.length+nC k:=by unfold gH nC;split<;>simp
def NI.c(a:NI)(c:Nat):Nv:=(mX a.n a.xs a.ys c AX.no).c
def uT:List NI->Nat->List Nv
 | [],_=>[]
 | a::r,c=>a.c c::uT r (c+nC a.n.kind)
def Mp(l:List NI)(c:Nat):Nat:=l.foldl (λ c a=>c+nC a.n.kind) c
def lO(l:List NI)(cs:List Int):List Int:=l.foldl (λ cs a=>gH a.n.kind cs a.init) cs
theorem mR:∀(l:List NI) (cs:List Int),(lO l cs).length=Mp l cs.length
 | [],_=>rfl
 | a::r,cs=>by show(lO r (gH a.n.kind cs a.init)).length=Mp r (cs.length+nC a.n.kind);rw[mR r,rU]
theorem El:∀(l r:List NI) (c:Nat),uT (l++r) c=uT l c++uT r (Mp l c)
 | [],_,_=>rfl
 | a::l,r,c=>by show a.c c::uT (l++r) (c+nC a.n.kind)=a.c c::(uT l (c+nC a.n.kind)++uT r (Mp l (c+nC a.n.kind)));rw[El l r]
theorem Nt(l r:List NI)(cs:List Int):lO (l++r) cs=lO r (lO l cs):=by unfold lO;rw[List.foldl_append]
theorem oJ:∀(l:List NI) (c:Nat),(uT l c).length=l.length
 | [],_=>rfl
 | a::r,c=>by simp only[uT,List.length_cons,oJ r]
theorem Oj:∀(l:List NI) (c:Nat),Mp l c<=c+l.length
 | [],_=>Nat.le_refl _
 | a::r,c=>by
  have h:nC a.n.kind<=1:=by unfold nC;split<;>omega
  have:=Oj r (c+nC a.n.kind);show Mp r (c+nC a.n.kind)<=c+(r.length+1);omega
end Go.Ct
namespace Go.Proofs.YtdeecdfockjoiaaGreatDoor
open Go.Proofs.Tryz
open Go.RowKit Go.Ct
theorem aAf{l:List Pr}{a:Option Addr}{c:Nat}{w:World}(ha:Cl w a (dF l))(hc:l.length<=c)(hlen:l.length<=19) :
  Calls prog 307 #[.slice a l.length c] w λ e w'=>∃x:Option Addr×Nat,e=.returned (.slice x.1 (xV l).length x.2)/\(xV l).length<=x.2/\SF w [] [] [] [(x.1,dF (xV l))] [] w':=(aBz ha hc hlen).mono λ _ _ h=>h.res
theorem y9{b:Nat}{xs:List Int}{x:Option Addr×Nat}{w:World}(hbv:BV b xs){i:Nat}(hi:i<64)(hn:sQ b (i:Int)=false){r:Int}(hr:1<=r)(hx:xs.length<=x.2)(hxl:xs.length<=64)(hc:Cl w x.1 (aT xs)) :
  Calls prog 286 #[(cn b xs x).v,.int .i64 (i:Int),.int .i64 r] w λ e w'=>∃y:Option Addr×Nat,e=.returned (.tuple #[(cn (eI b (i:Int)) (tW xs (iD b (i:Int)) r) y).v,.bool true])/\(tW xs (iD b (i:Int)) r).length<=y.2/\SF w [] [] [] [(y.1,aT (tW xs (iD b (i:Int)) r))] [] w':=by have h:=Iy (n:=cn b xs x) (xs:=xs) (ys:=[]) (b:=b) (i:Int) r rfl hbv.lt ⟨rfl,rfl,hc,Cl.nil _ _,by omega,by decide⟩ hx (by omega);rw[show O0 (cn b xs x) xs [] b (i:Int) r=some (eI b (i:Int),tW xs (iD b (i:Int)) r) from if_pos ⟨aBQ hbv x,⟨by omega,by omega⟩,hr,hn⟩] at h;exact h.mono λ e w' ⟨y,he,h1,h2⟩=>⟨y,he,h1,h2⟩
theorem Sq(w:World):Calls prog 87 #[] w λ e w'=>e=.returned (cn 0 [] (none,0)).v/\St w [] [] w':=W4 w
abbrev blL(ba:Nat)(x:Int)(v:dW)(h:Nat)(k:ByteArray)(u:Int)(gen:Int):List Value:=[.iface 63 (.pointer (some ⟨ba,0,none⟩)),.int .i64 x,.int .i64 v.nd.kind,.int .i64 v.nd.gen,.int .i64 v.nd.main,.int .u64 v.nd.bm,.slice v.nd.brA v.nd.brN v.nd.brC,.int .u64 v.nd.hash,.string v.nd.key,.int .u64 v.nd.val,.slice v.nd.prA v.nd.prN v.nd.dF,.int .i64 v.nd.prev,.int .i64 v.nd.old,.int .i64 v.nd.exp,.int .i64 v.nd.new,.int .i64 v.nd.status,.int .u64 (h:Int),.string k,.int .u64 u,.int .i64 gen]
abbrev blO(ba:Nat)(x:Int)(v:dW)(h:Nat)(k:ByteArray)(u:Int)(gen:Int):Obj:=.cells ⟨blL ba x v h k u gen⟩ 353 (0,0)
structure DX where
 L:List dW
 pn:Option Addr
 cn:Nat
 pc:Option Addr
 cc:Nat
variable{w:World}{D:List Nat}{ba bb:Nat}{L:List dW}{cs:List Int}{g acc:Int}{pn pc:Option Addr}{kn kc:Nat}{A:Fr}{x:Int}{v:dW}{h h0:Nat}{k:ByteArray}{u gen:Int}
theorem rO(a:NI){n:Nd}(hs:SF w D [(ba,aO L cs g acc pn kn pc kc)] [(n.brA,aT a.xs),(n.prA,dF a.ys)] [] (mW L cs pn kn pc kc) w)(e1:n.brN=a.xs.length)(e2:n.prN=a.ys.length)(h1:a.xs.length<=1000)(h2:a.ys.length<=1000)
  (hl:L.length<=137438953400) (hc:cs.length<=137438953400) (hn:(mX n a.xs a.ys cs.length AX.no).c=a.c cs.length) (hk:n.kind=a.n.kind) :
  Calls prog 335 #[.pointer (some ⟨ba,0,none⟩),n.v,.int .i64 a.init] w λ e w'=>∃y:dW×AX,e=.returned (.int .i64 ((L.length+3:Nat):Int))/\(y.1.c=a.c cs.length/\y.1.Fit) /\
   SF w D [(ba,aO (L++[y.1]) (gH a.n.kind cs a.init) g acc y.2.pn y.2.cn y.2.pc y.2.cc)] [] y.1.fr (mW (L++[y.1]) (gH a.n.kind cs a.init) y.2.pn y.2.cn y.2.pc y.2.cc) w':=by rw[<- hk];exact(Aq a.init hs e1 e2 (by omega) (by omega) (by omega) (by omega)).mono λ e w' ⟨y,he,_,h⟩=>⟨(mX n a.xs a.ys cs.length y,y),he,⟨hn,U7 (by omega) (by omega)⟩,h⟩
abbrev Pa(h:Nat)(ys:List Pr):NI:=⟨{Nd.zero with kind:=6,hash:=(h:Int)},[],ys,0⟩
abbrev vQ(h:Nat)(k:ByteArray)(u:Int):NI:=⟨{Nd.zero with kind:=4,hash:=(h:Int),key:=k,val:=u},[],[],0⟩
abbrev Au(gen m:Int):NI:=⟨{Nd.zero with kind:=2,gen:=gen},[],[],m⟩
abbrev u4(b:Nat)(xs:List Int):NI:=⟨{Nd.zero with kind:=3,bm:=(b:Int)},xs,[],0⟩
abbrev Did(w:World)(D:List Nat)(bb ba:Nat)(x:Int)(v:dW)(h:Nat)(k:ByteArray)(u gen:Int)(L:List dW)(cs:List Int)(g acc:Int)(l:List NI)(e:Ending)(w':World):Prop :=
 ∃d:DX,e=.returned (.int .i64 ((L.length+2+l.length:Nat):Int))/\(d.L.map dW.c=uT l cs.length/\Fits d.L) /\
  SF w D [(bb,blO ba x v h k u gen),(ba,aO (L++d.L) (lO l cs) g acc d.pn d.cn d.pc d.cc)] [] (dD d.L) (mW (L++d.L) (lO l cs) d.pn d.cn d.pc d.cc) w'
theorem od(hs:SF w D [(bb,blO ba x v h k u gen),(ba,aO L cs g acc pn kn pc kc)] A [] (mW L cs pn kn pc kc) w)(hl:L.length<=137438953300)(hc:cs.length<=137438953300) :
  Calls prog 301 #[.pointer (some ⟨bb,0,none⟩),.int .i64 ((11:Nat):Int)] w (Did w D bb ba x v h k u gen L cs g acc [Pa h (xV [(v.nd.key,v.nd.val),(k,u)])]):=by
 have hol:=X7 [(v.nd.key,v.nd.val),(k,u)];simp only[List.length_cons,List.length_nil] at hol;refine enter func301 ntmps301 rfl rfl hs ?_;simp only[cN];refine Ka9 ?_;refine E2 ?_;refine aX (λ c13=>?_) (λ c13=>?_)
 ·try (exfalso;omega)
  refine aL ?_;refine fO [0,1,2,3,4,5,6,7,8,9,10,11,12,13,14,15,16,17] ?_;refine pg ?_;refine pg ?_;refine iZ ?_;refine J9 ?_;refine aS (i:=14) (hq:=(cJ (k:=2) rf bI cY (by simp only[List.drop_succ_cons,List.drop_zero,List.take_succ_cons,List.take_zero];exact rfl) rfl)) (h:=?_);refine kB (h:=λ x29=>?_);refine bE (i:=16) (hq:=(cF (V:=λ x:Option Addr×Nat=>.slice x.1 (xV [(v.nd.key,v.nd.val),(k,u)]).length x.2) (hc:=λ w1 hw=>aAf (l:=[(v.nd.key,v.nd.val),(k,u)]) (hw.cl (.new .head)) (by simp) (by simp)))) (h:=λ x30 h30=>?_);refine J7 ?_;refine aL ?_;refine eO [(0,[]),(1,[]),(2,[]),(3,[]),(4,[]),(5,[]),(6,[]),(7,[]),(8,[]),(10,[]),(11,[]),(9,[3]),(12,[]),(13,[])] ?_;refine Y0 ?_;refine aP ?_;refine cD (i:=10) (hq:=(jU rf)) (h:=?_);refine aP ?_;refine bE (i:=9) (hq:=(cF (V:=λ p:Option Addr=>({Nd.zero with kind:=6,hash:=(h:Int),prA:=p,prN:=(xV [(v.nd.key,v.nd.val),(k,u)]).length,dF:=(xV [(v.nd.key,v.nd.val),(k,u)]).length}:Nd).v) (hc:=λ w1 hw=>U8 (hw.cl (.new .head)) (by omega)))) (h:=λ x40 h40=>?_);refine bE (i:=12) (hq:=(Ju (hm:=λ w=>fP _ _ _ w) (hc:=λ w hs=>rO (Pa h (xV [(v.nd.key,v.nd.val),(k,u)])) (L:=L) (cs:=cs) (n:={Nd.zero with kind:=6,hash:=(h:Int),prA:=x40,prN:=(xV [(v.nd.key,v.nd.val),(k,u)]).length,dF:=(xV [(v.nd.key,v.nd.val),(k,u)]).length}) hs rfl rfl (by simp) (by show(xV _).length<=_;omega) (by omega) (by omega) rfl rfl))) (h:=λ x43 h43=>?_);refine J7 ?_;refine bJ results301 (λ w hw=>?_);exact⟨⟨[x43.1],x43.2.pn,x43.2.cn,x43.2.pc,x43.2.cc⟩,rfl,⟨by simp only[List.map_cons,List.map_nil,uT,h43.1],λ z hz=>by rw[List.mem_singleton.1 hz];exact h43.2⟩,hw.ret (List.Sublist.refl _) (bM.dB λ f hf=>List.mem_append_left _ (by simpa[dD] using hf)) (List.Sublist.refl _)⟩
 ·exact nv c13
theorem kz{i:Nat}(hi:i<64){x:Int}(hx:1<=x)(w:World) :
  Calls prog 286 #[(cn 0 [] (none,0)).v,.int .i64 (i:Int),.int .i64 x] w λ e w'=>∃y:Option Addr×Nat,e=.returned (.tuple #[(cn (eI 0 (i:Int)) [x] y).v,.bool true])/\1<=y.2/\SF w [] [] [] [(y.1,aT [x])] [] w':=by have:=y9 (w:=w) (b:=0) (xs:=[]) (x:=(none,0)) Wj hi (aDt _) hx (by simp) (by simp) (Cl.nil _ _);rwa [aCE hi] at this
theorem aBF{i k:Nat}(hi:i<64)(hk:k<64)(hne:i≠k){x s:Int}(hx:1<=x)(hs:1<=s){y:Option Addr×Nat}(hy:1<=y.2){w:World}(hc:Cl w y.1 (aT [x])) :
  Calls prog 286 #[(cn (eI 0 (i:Int)) [x] y).v,.int .i64 (k:Int),.int .i64 s] w λ e w'=>∃z:Option Addr×Nat,e=.returned (.tuple #[(cn (eI (eI 0 (i:Int)) (k:Int)) (two i k x s) z).v,.bool true])/\2<=z.2/\SF w [] [] [] [(z.1,aT (two i k x s))] [] w':=by have:=y9 (w:=w) (b:=eI 0 (i:Int)) (xs:=[x]) (x:=y) (ot hi hx) hk (aCp hi hk hne) hs hy (by simp) hc;rwa [aCH hi hk,W0] at this
theorem w7{lvl:Nat}(hs:SF w D [(bb,blO ba x v h k u gen),(ba,aO L cs g acc pn kn pc kc)] A [] (mW L cs pn kn pc kc) w)(hl:L.length<=137438953300)(hc:cs.length<=137438953300)(hv:v.nd.hash=(h0:Int))(hh0:h0<18446744073709551616)(hh:h<18446744073709551616)(hlv:lvl<=10)(hne:sl h lvl≠sl h0 lvl)(hx:1<=x) :
  Calls prog 301 #[.pointer (some ⟨bb,0,none⟩),.int .i64 ((lvl:Nat):Int)] w (Did w D bb ba x v h k u gen L cs g acc [vQ h k u,u4 (eI (eI 0 (sl h0 lvl:Int)) (sl h lvl:Int)) (two (sl h0 lvl) (sl h lvl) x ((L.length+3:Nat):Int))]):=by
 refine enter func301 ntmps301 rfl rfl hs ?_;simp only[cN];refine Ka9 ?_;refine E2 ?_;refine aX (λ c13=>?_) (λ c13=>?_);·try (exfalso;omega)
 ·try (exfalso;omega)
  refine K3h ?_;refine bR (i:=5) (hq:=(cV (hc:=λ w1 hw=>nP hh hlv w1))) (h:=λ x49=>?_);refine bR (i:=12) (hq:=(cV (hc:=λ w1 hw=>by rw[hv];exact nP hh0 hlv w1))) (h:=λ x56=>?_);refine Vz ?_;refine J0 ?_;refine aH (cV (hc:=λ w1 hw=>Sq w1)) (λ x57=>?_);refine aJ (λ x8=>?_);refine J5 ?_;refine qJ ?_;refine Kc0 ?_;refine aX (λ c60=>?_) (λ c60=>?_)
  ·try (exfalso;omega)
   refine aL ?_;refine eO [(0,[]),(1,[]),(2,[]),(3,[]),(4,[]),(5,[]),(6,[]),(7,[]),(8,[]),(9,[]),(10,[]),(11,[]),(12,[]),(13,[]),(14,[]),(15,[]),(16,[]),(17,[]),(19,[]),(20,[]),(18,[3]),(21,[]),(22,[])] ?_;refine Y0 ?_;refine pg ?_;refine pg ?_;refine cD (i:=19) (hq:=(jU rf)) (h:=?_);refine aP ?_;refine bR (i:=18) (hq:=(cV (hc:=λ w1 hw=>Bw (h:Int) k u w1))) (h:=λ x79=>?_);refine bE (i:=21) (hq:=(Ju (A0:=[(none,aT []),(none,dF [])]) (hm:=λ w=>fP _ _ _ w) (hc:=λ w hs=>rO (vQ h k u) (L:=L) (cs:=cs) (n:={Nd.zero with kind:=4,hash:=(h:Int),key:=k,val:=u}) hs rfl rfl (by simp) (by simp) (by omega) (by omega) rfl rfl))) (h:=λ x82 h82=>?_);refine J7 ?_;refine aL ?_;refine fO [0,1,2,3,4,5,6,7,8,9,10] ?_;refine bH ?_;refine Em ?_;refine bE (i:=6) (hq:=(cF (V:=λ y:Option Addr×Nat=>.tuple #[(cn (eI 0 (sl h0 lvl:Int)) [x] y).v,.bool true]) (hc:=λ w1 hw=>kz (nJ _ _) hx w1))) (h:=λ x90 h90=>?_);refine Kc3 ?_;refine L8 ?_;refine oT ?_;refine Df ?_;refine aI (cF (V:=λ y:Option Addr×Nat=>.tuple #[(cn (eI (eI 0 (sl h0 lvl:Int)) (sl h lvl:Int)) (two (sl h0 lvl) (sl h lvl) x ((L.length+3:Nat):Int)) y).v,.bool true]) (hc:=λ w1 hw=>aBF (nJ _ _) (nJ _ _) (λ e=>hne e.symm) hx (by omega) h90 (hw.cl (.new .head)))) (λ x97 h97=>?_);refine Ez ?_;refine J5 ?_;refine K2b ?_;refine mD ?_;refine bH ?_;refine bE (i:=5) (hq:=(Ju (A0:=[(x97.1,aT (two (sl h0 lvl) (sl h lvl) x ((L.length+3:Nat):Int))),(none,dF [])]) (hm:=λ w=>fP _ _ _ w) (hc:=λ w hs=>rO (u4 (eI (eI 0 (sl h0 lvl:Int)) (sl h lvl:Int)) (two (sl h0 lvl) (sl h lvl) x ((L.length+3:Nat):Int))) (L:=L++[x82.1]) (cs:=gH 4 cs 0) (n:=cn (eI (eI 0 (sl h0 lvl:Int)) (sl h lvl:Int)) (two (sl h0 lvl) (sl h lvl) x ((L.length+3:Nat):Int)) x97) hs rfl rfl (by rw[W0];decide) (by simp) (by simp;omega) (by rw[rU];have:nC 4=0:=rfl;omega) rfl rfl))) (h:=λ x105 h105=>?_);refine J7 ?_;refine bJ results301 (λ w hw=>?_);refine⟨⟨[x82.1,x105.1],x105.2.pn,x105.2.cn,x105.2.pc,x105.2.cc⟩,by simp only[List.length_append,List.length_cons,List.length_nil];rfl,⟨?_,λ z hz=>?_⟩,?_⟩;·have e:(gH 4 cs 0).length=cs.length+nC 4:=rU 4 cs 0;simp only[List.map_cons,List.map_nil,uT,h82.1,h105.1,e]
   ·simp only[List.mem_cons,List.not_mem_nil,or_false] at hz;rcases hz with rfl|rfl;·exact h82.2
    ·exact h105.2
   ·have e:(L++[x82.1])++[x105.1]=L++[x82.1,x105.1]:=by simp
    rw[e] at hw;exact hw.ret E0a (bM.dB λ f hf=>by simp only[dD,List.flatMap_cons,List.flatMap_nil,List.append_nil,List.mem_append] at hf;rcases hf with h|h<;>simp[h]) (List.Sublist.refl _)
  ·try (exfalso;omega)
theorem vj{lvl:Nat}{l:List NI}(hs:SF w D [(bb,blO ba x v h k u gen),(ba,aO L cs g acc pn kn pc kc)] A [] (mW L cs pn kn pc kc) w)(hl:L.length+l.length<=137438953300)(hc:cs.length+l.length<=137438953300)(hv:v.nd.hash=(h0:Int))(hh0:h0<18446744073709551616)(hh:h<18446744073709551616)(hlv:lvl<=10)(heq:sl h lvl=sl h0 lvl)
  (ih:∀(D:List Nat) (w:World),SF w D [(bb,blO ba x v h k u gen),(ba,aO L cs g acc pn kn pc kc)] [] [] (mW L cs pn kn pc kc) w->Calls prog 301 #[.pointer (some ⟨bb,0,none⟩),.int .i64 ((lvl+1:Nat):Int)] w (Did w D bb ba x v h k u gen L cs g acc l)) :
  Calls prog 301 #[.pointer (some ⟨bb,0,none⟩),.int .i64 ((lvl:Nat):Int)] w (Did w D bb ba x v h k u gen L cs g acc (l++[Au gen ((L.length+2+l.length:Nat):Int),u4 (eI 0 (sl h lvl:Int)) [((L.length+3+l.length:Nat):Int)]])):=by
 have hN:=Oj l cs.length;refine enter func301 ntmps301 rfl rfl hs ?_;simp only[cN]
 refine Ka9 ?_;refine E2 ?_;refine aX (λ c13=>?_) (λ c13=>?_);·try (exfalso;omega)
 ·try (exfalso;omega)
  refine K3h ?_;refine bR (i:=5) (hq:=(cV (hc:=λ w1 hw=>nP hh hlv w1))) (h:=λ x49=>?_);refine bR (i:=12) (hq:=(cV (hc:=λ w1 hw=>by rw[hv];exact nP hh0 hlv w1))) (h:=λ x56=>?_);refine Vz ?_;refine J0 ?_;refine aH (cV (hc:=λ w1 hw=>Sq w1)) (λ x57=>?_);refine aJ (λ x8=>?_);refine J5 ?_;refine qJ ?_;refine Kc0 ?_;refine aX (λ c60=>?_) (λ c60=>?_);·try (exfalso;omega)
  ·try (exfalso;omega)
   refine yO ?_;refine aA (aBg (n:=1) rf rf (by omega)) rfl ?_;refine aI (cM (A0:=[]) (hc:=λ w hs=>ih _ w hs)) (λ x109 h109=>?_);refine lX ?_;refine eO [(0,[]),(1,[]),(2,[]),(3,[]),(4,[]),(5,[]),(6,[]),(7,[]),(9,[]),(10,[]),(11,[]),(8,[3]),(12,[]),(13,[])] ?_;refine Y0 ?_;refine aP ?_;refine cD (i:=10) (hq:=(jU rf)) (h:=?_);refine aP ?_;refine bR (i:=8) (hq:=(cV (hc:=λ w1 hw=>Nw gen w1))) (h:=λ x118=>?_);refine bE (i:=12) (hq:=(Ju (A0:=[(none,aT []),(none,dF [])]) (hm:=λ w=>fP _ _ _ w) (hc:=λ w hs=>rO (Au gen ((L.length+2+l.length:Nat):Int)) (L:=L++x109.L) (cs:=lO l cs) (n:={Nd.zero with kind:=2,gen:=gen}) hs rfl rfl (by simp) (by simp) (by have h1:=congrArg List.length h109.1;simp only[List.length_map,oJ] at h1;simp only[List.length_append];omega) (by rw[mR];omega) rfl rfl))) (h:=λ x122 h122=>?_);refine J7 ?_;refine oT ?_;refine Df ?_;refine aI (cF (V:=λ y:Option Addr×Nat=>.tuple #[(cn (eI 0 (sl h lvl:Int)) [(((L++x109.L).length+3:Nat):Int)] y).v,.bool true]) (hc:=λ w1 hw=>kz (nJ _ _) (by omega) w1)) (λ x127 h127=>?_);refine Ez ?_;refine J5 ?_;refine K2b ?_;refine mD ?_;refine bH ?_;refine bE (i:=5) (hq:=(Ju (A0:=[(x127.1,aT [(((L++x109.L).length+3:Nat):Int)]),(none,dF [])]) (hm:=λ w=>fP _ _ _ w) (hc:=λ w hs=>rO (u4 (eI 0 (sl h lvl:Int)) [(((L++x109.L).length+3:Nat):Int)]) (L:=(L++x109.L)++[x122.1]) (cs:=gH 2 (lO l cs) ((L.length+2+l.length:Nat):Int)) (n:=cn (eI 0 (sl h lvl:Int)) [(((L++x109.L).length+3:Nat):Int)] x127) hs rfl rfl (by simp) (by simp) (by have h1:=congrArg List.length h109.1;simp only[List.length_map,oJ] at h1;simp only[List.length_append,List.length_cons,List.length_nil];omega) (by rw[rU,mR];have:nC 2=1:=rfl;omega) rfl rfl))) (h:=λ x135 h135=>?_);refine J7 ?_;refine bJ results301 (λ w hw=>?_);have h1:=congrArg List.length h109.1;simp only[List.length_map,oJ] at h1
   have e0:(L++x109.L).length+3=L.length+3+l.length:=by simp only[List.length_append];omega
   rw[e0] at h135 hw;have e:((L++x109.L)++[x122.1])++[x135.1]=L++(x109.L++[x122.1,x135.1]):=by simp
   have e2:lO (l++[Au gen ((L.length+2+l.length:Nat):Int),u4 (eI 0 (sl h lvl:Int)) [((L.length+3+l.length:Nat):Int)]]) cs=gH 3 (gH 2 (lO l cs) ((L.length+2+l.length:Nat):Int)) 0:=by rw[Nt];rfl
   refine⟨⟨x109.L++[x122.1,x135.1],x135.2.pn,x135.2.cn,x135.2.pc,x135.2.cc⟩,?_,⟨?_,λ z hz=>?_⟩,?_⟩;·show Ending.returned (.int .i64 _)=Ending.returned (.int .i64 _);simp only[List.length_append,List.length_cons,List.length_nil];rw[h1];congr 3;omega
   ·have e3:(gH 2 (lO l cs) ((L.length+2+l.length:Nat):Int)).length=Mp l cs.length+nC 2:=by rw[rU,mR]
    rw[El,List.map_append,h109.1];simp only[List.map_cons,List.map_nil,uT,h122.1,h135.1,e3,mR]
   ·rcases List.mem_append.1 hz with hz|hz;·exact h109.2 z hz
    simp only[List.mem_cons,List.not_mem_nil,or_false] at hz;rcases hz with rfl|rfl;·exact h122.2
    ·exact h135.2
   ·rw[e] at hw;rw[e2];exact hw.ret E0a (bM.dB λ f hf=>by simp only[dD,List.flatMap_append,List.flatMap_cons,List.flatMap_nil,List.append_nil,List.mem_append] at hf;rcases hf with h|h|h<;>simp[h,dD]) (List.Sublist.refl _)
end Go.Proofs.YtdeecdfockjoiaaGreatDoor

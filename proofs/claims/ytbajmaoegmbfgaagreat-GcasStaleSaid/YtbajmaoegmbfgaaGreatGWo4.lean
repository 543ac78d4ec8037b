/- Merged. -/
import Derived.Test.YtbajmaoegmbfgaaGreatGTm2
import Derived.Test.YtbajmaoegmbfgaaGreatLf
import Derived.Test.YtbajmaoegmbfgaaGreatGEx18
import Derived.Test.YtbajmaoegmbfgaaGreatGBr6
import Derived.Test.YtbajmaoegmbfgaaGreatGAr9
set_option linter.unusedSimpArgs false
set_option linter.unusedVariables false
namespace Go.Proofs.YtbajmaoegmbfgaaGreat
section
open Go Go.RowKit Go.Ct
theorem xk{ts:List dL}{j:Nat}(h:j<ts.length):((rZ ts).drop (2*j)).take 2=[.int .i64 (ts.getD j ⟨0,false⟩).root,.bool (ts.getD j ⟨0,false⟩).ro]:=by
 induction ts generalizing j with
 | nil=>simp at h
 | cons t ts ih =>
  cases j with
  | zero=>simp[rZ]
  | succ j =>
   have:=ih (j:=j) (by simpa using h)
   rw[show 2*(j+1)=2*j+1+1 by omega]
   simpa[rZ] using this
section
variable{P:Program}{S:List (Nat×Value)}{d:Nat}{ty t t' e:TypeId}{pos:String}{af:Array Edge}{gd:Option (Nat×Bool)}{x y:Operand}{w0 w:World}{M:List Nat}{H:List (Nat×Obj)}{A F:Fr}{O:List Ow}{a:Option Addr}
theorem Cr{ts:List dL}{q:Nat}(hx:ev S x=.pointer (some ⟨cN a,eD a+2*q,none⟩))(ht:jU P t 2=true)(hf:qQ A F O a (rZ ts))(hq:q<ts.length) :
  aL P S (SF w0 M H A F O) ⟨some d,.load t x,ty,pos,af,gd⟩ (.agg ⟨[.int .i64 (ts.getD q ⟨0,false⟩).root,.bool (ts.getD q ⟨0,false⟩).ro]⟩):=P1 hx ht hf (xk hq) rfl
end
structure Hq where
 key:ByteArray
 val:Int
 exp:Int
 I5:Int
 only:Bool
 t:dL
 pos:Nat
def Hq.cl(q:Hq)(kind mask:Int):Cl:=⟨kind,q.t,0,0,0,0,0,mask,q.key,q.val,q.exp,q.I5,q.only⟩
def wrK(kind:Int):Prop:=kind=8∨kind=9∨kind=12∨kind=4
structure Pz(kind:Int)(ts:List dL)(q:Hq):Prop where
 ky:q.key∈lV
 mem:q.t∈ts
 ro:wrK kind->q.t.ro=false
theorem pN{v:Nat}(h:v<8):lV.getD v ⟨#[]⟩∈lV:=by
 have:v=0∨v=1∨v=2∨v=3∨v=4∨v=5∨v=6∨v=7:=by omega
 rcases this with rfl|rfl|rfl|rfl|rfl|rfl|rfl|rfl<;>simp[lV]
theorem Fu{ts:List dL}{j:Nat}(h:j<ts.length):ts.getD j ⟨0,false⟩∈ts:=by
 rw[iM,List.getElem?_eq_getElem h];exact List.getElem_mem h
section
variable{P:Program}{S:List (Nat×Value)}{G:World->Prop}{d:Nat}{ty t t':TypeId}{pos:String}{af:Array Edge}{gd:Option (Nat×Bool)}{x y:Operand}
theorem yw{a b:Nat}(hx:ev S x=.int .i64 ((a:Nat):Int))(hy:ev S y=.int .i64 ((b:Nat):Int))(h0:b≠0):aL P S G ⟨some d,.binOp .rem t x y t',ty,pos,af,gd⟩ (.int .i64 ((a%b:Nat):Int)):=by
 have:=bz (P:=P) (G:=G) (d:=d) (ty:=ty) (pos:=pos) (af:=af) (gd:=gd) (t:=t) (t':=t') hx hy (by omega)
 rwa [Int.tmod_eq_emod_of_nonneg (by omega),<- Int.natCast_emod] at this
end
section
variable{bw bm tb:Nat}{D:List Nat}{A:Fr}{w:World}{mask:Int}{ts:List dL}{pt pe:Option Addr}{kt ke ne:Nat}{l:List Int}{a:Option Addr}{c p:Nat}
set_option maxRecDepth 100000 in
set_option maxHeartbeats 2000000 in
theorem qv(kind:Int)(hkd:7<=kind/\kind<=12)(hl:l.length<=17592186043904)(h0:0<ts.length)(hts:ts.length<=1000)(hr0:(ts.getD 0 ⟨0,false⟩).ro=false)
  (hs:SF w D [(tb,Jo a l c p),(bw,mR bm mask pt ts.length kt pe ne ke)] [(a,aG l)] [] [⟨pt,rZ ts,kt,29,2⟩] w) :
  Calls Tryz.prog 54 #[.pointer (some ⟨bw,0,none⟩),.int .i64 kind,.pointer (some ⟨tb,0,none⟩)] w λ e w'=>∃q:Hq,e=.returned (.agg ⟨Ry (q.cl kind mask)⟩)/\Pz kind ts q /\
   SF w D [(tb,Jo a l c q.pos),(bw,mR bm mask pt ts.length kt pe ne ke)] [] [] [⟨pt,rZ ts,kt,29,2⟩] w':=by
 refine enter Tryz.func54 Tryz.ntmps54 rfl rfl hs ?_
 simp only[cC]
 refine J0 ?_;refine aK (λ x6=>?_);refine Qo ?_
 refine eO [7,12,13,14,15,16,17,18,19,20,21,22,23,24,25,26,27,28,29,30] (λ y:Nat×Hq=>[(7,.pointer (some ⟨y.1,0,none⟩))]) (λ y=>y.2.key∈lV) (λ y=>[(y.1,.cells ⟨Ry (y.2.cl kind mask)⟩ 89 (0,0)),(x6,.cells ⟨Ry ⟨0,⟨0,false⟩,0,0,0,0,0,0,⟨#[]⟩,0,0,0,false⟩⟩ 89 (0,0)),(tb,Jo a l c y.2.pos),(bw,mR bm mask pt ts.length kt pe ne ke)]) (λ _=>[]) (λ _=>[⟨pt,rZ ts,kt,29,2⟩]) (by decide) (λ _=>by exact rfl) ?_ (λ y f hx=>?_)
 ·refine gI (.one 0 [] (.one 1 [] (.one 2 [] (.one 3 [] (.one 4 [] (.one 5 [] (.one 7 [] (.one 10 [] (.one 13 [] (.one 15 [] (.two 6 [4] (.two 8 [4] (.one 9 [] (.two 11 [4] (.one 12 [] (.two 14 [4] (.two 16 [4] (.one 17 [] (.one 18 [] (.one 19 [4] (.one 20 [] .nil)))) 0 [] (.two 19 [4] (.one 16 [4] (.one 17 [] (.one 18 [] (.one 20 [] .nil)))) 0 [] .nil)) 0 [] (.two 19 [4] (.one 14 [4] (.one 16 [4] (.one 17 [] (.one 18 [] (.one 20 [] .nil))))) 0 [] .nil))) 0 [] (.two 19 [4] (.one 11 [4] (.one 12 [] (.one 14 [4] (.one 16 [4] (.one 17 [] (.one 18 [] (.one 20 [] .nil))))))) 0 [] .nil))) 0 [] (.two 19 [4] (.one 8 [4] (.one 9 [] (.one 11 [4] (.one 12 [] (.one 14 [4] (.one 16 [4] (.one 17 [] (.one 18 [] (.one 20 [] .nil))))))))) 0 [] .nil)) 0 [] (.two 19 [4] (.one 6 [4] (.one 8 [4] (.one 9 [] (.one 11 [4] (.one 12 [] (.one 14 [4] (.one 16 [4] (.one 17 [] (.one 18 [] (.one 20 [] .nil)))))))))) 0 [] .nil)))))))))))) ?_
  refine Wf ?_;refine iL ?_;refine iL ?_;refine aN ?_
  refine gR (E:=[6,19]) (by decide +kernel) ((.cons ?_ (.cons ?_ .nil)))
  ·refine mN (i:=6) (hq:=(xA (hc:=λ w1 hw=>v5 (hw.tape dC fin hl)))) (h:=λ x18 h18=>?_)
   refine gR (E:=[8,19]) (by decide +kernel) ((.cons ?_ (.cons ?_ .nil)))
   ·refine mN (i:=8) (hq:=(xA (hc:=λ w1 hw=>eR 6 (hw.tape dC fin hl) (by decide) (by decide)))) (h:=λ x20 h20=>?_)
    refine nY ?_
    refine gR (E:=[11,19]) (by decide +kernel) ((.cons ?_ (.cons ?_ .nil)))
    ·refine mN (i:=11) (hq:=(xA (hc:=λ w1 hw=>eR 6 (hw.tape dC fin hl) (by decide) (by decide)))) (h:=λ x23 h23=>?_)
     refine nY ?_
     refine gR (E:=[14,19]) (by decide +kernel) ((.cons ?_ (.cons ?_ .nil)))
     ·refine mN (i:=14) (hq:=(xA (hc:=λ w1 hw=>eR 4 (hw.tape dC fin hl) (by decide) (by decide)))) (h:=λ x26 h26=>?_)
      refine gR (E:=[16,19]) (by decide +kernel) ((.cons ?_ (.cons ?_ .nil)))
      ·refine mN (i:=16) (hq:=(xA (hc:=λ w1 hw=>eR 3 (hw.tape dC fin hl) (by decide) (by decide)))) (h:=λ x28 h28=>?_)
       refine nE ?_;refine iH ?_;refine gU (h:=λ x7=>?_);refine zT ?_
       refine fH ((x7,⟨lV.getD x18 ⟨#[]⟩,((x20:Nat):Int),((x23:Nat):Int),((x26:Nat):Int),((x28:Nat):Int)==0,⟨0,false⟩,mX l (mX l (mX l (mX l (mX l p))))⟩)) ?_
       ·exact pN h18.1
      ·refine gW (i:=19) (h:=λ x7=>?_)
       refine bB (i:=16) (hq:=(xA (hc:=λ w1 hw=>eR 3 (hw.tape dC fin hl) (by decide) (by decide)))) (h:=λ x28 h28=>?_);refine nE ?_;refine iH ?_;refine zT ?_
       refine fH ((x7,⟨lV.getD x18 ⟨#[]⟩,((x20:Nat):Int),((x23:Nat):Int),((x26:Nat):Int),((x28:Nat):Int)==0,⟨0,false⟩,mX l (mX l (mX l (mX l (mX l p))))⟩)) ?_
       ·exact pN h18.1
     ·refine gW (i:=19) (h:=λ x7=>?_)
      refine bB (i:=14) (hq:=(xA (hc:=λ w1 hw=>eR 4 (hw.tape dC fin hl) (by decide) (by decide)))) (h:=λ x26 h26=>?_);refine bB (i:=16) (hq:=(xA (hc:=λ w1 hw=>eR 3 (hw.tape dC fin hl) (by decide) (by decide)))) (h:=λ x28 h28=>?_);refine nE ?_;refine iH ?_;refine zT ?_
      refine fH ((x7,⟨lV.getD x18 ⟨#[]⟩,((x20:Nat):Int),((x23:Nat):Int),((x26:Nat):Int),((x28:Nat):Int)==0,⟨0,false⟩,mX l (mX l (mX l (mX l (mX l p))))⟩)) ?_
      ·exact pN h18.1
    ·refine gW (i:=19) (h:=λ x7=>?_)
     refine bB (i:=11) (hq:=(xA (hc:=λ w1 hw=>eR 6 (hw.tape dC fin hl) (by decide) (by decide)))) (h:=λ x23 h23=>?_);refine nY ?_;refine bB (i:=14) (hq:=(xA (hc:=λ w1 hw=>eR 4 (hw.tape dC fin hl) (by decide) (by decide)))) (h:=λ x26 h26=>?_);refine bB (i:=16) (hq:=(xA (hc:=λ w1 hw=>eR 3 (hw.tape dC fin hl) (by decide) (by decide)))) (h:=λ x28 h28=>?_);refine nE ?_;refine iH ?_;refine zT ?_
     refine fH ((x7,⟨lV.getD x18 ⟨#[]⟩,((x20:Nat):Int),((x23:Nat):Int),((x26:Nat):Int),((x28:Nat):Int)==0,⟨0,false⟩,mX l (mX l (mX l (mX l (mX l p))))⟩)) ?_
     ·exact pN h18.1
   ·refine gW (i:=19) (h:=λ x7=>?_)
    refine bB (i:=8) (hq:=(xA (hc:=λ w1 hw=>eR 6 (hw.tape dC fin hl) (by decide) (by decide)))) (h:=λ x20 h20=>?_);refine nY ?_;refine bB (i:=11) (hq:=(xA (hc:=λ w1 hw=>eR 6 (hw.tape dC fin hl) (by decide) (by decide)))) (h:=λ x23 h23=>?_);refine nY ?_;refine bB (i:=14) (hq:=(xA (hc:=λ w1 hw=>eR 4 (hw.tape dC fin hl) (by decide) (by decide)))) (h:=λ x26 h26=>?_);refine bB (i:=16) (hq:=(xA (hc:=λ w1 hw=>eR 3 (hw.tape dC fin hl) (by decide) (by decide)))) (h:=λ x28 h28=>?_);refine nE ?_;refine iH ?_;refine zT ?_
    refine fH ((x7,⟨lV.getD x18 ⟨#[]⟩,((x20:Nat):Int),((x23:Nat):Int),((x26:Nat):Int),((x28:Nat):Int)==0,⟨0,false⟩,mX l (mX l (mX l (mX l (mX l p))))⟩)) ?_
    ·exact pN h18.1
  ·refine gW (i:=19) (h:=λ x7=>?_)
   refine bB (i:=6) (hq:=(xA (hc:=λ w1 hw=>v5 (hw.tape dC fin hl)))) (h:=λ x18 h18=>?_);refine bB (i:=8) (hq:=(xA (hc:=λ w1 hw=>eR 6 (hw.tape dC fin hl) (by decide) (by decide)))) (h:=λ x20 h20=>?_);refine nY ?_;refine bB (i:=11) (hq:=(xA (hc:=λ w1 hw=>eR 6 (hw.tape dC fin hl) (by decide) (by decide)))) (h:=λ x23 h23=>?_);refine nY ?_;refine bB (i:=14) (hq:=(xA (hc:=λ w1 hw=>eR 4 (hw.tape dC fin hl) (by decide) (by decide)))) (h:=λ x26 h26=>?_);refine bB (i:=16) (hq:=(xA (hc:=λ w1 hw=>eR 3 (hw.tape dC fin hl) (by decide) (by decide)))) (h:=λ x28 h28=>?_);refine nE ?_;refine iH ?_;refine zT ?_
   refine fH ((x7,⟨lV.getD x18 ⟨#[]⟩,((x20:Nat):Int),((x23:Nat):Int),((x26:Nat):Int),((x28:Nat):Int)==0,⟨0,false⟩,mX l (mX l (mX l (mX l (mX l p))))⟩)) ?_
   ·exact pN h18.1
 dsimp only[hY,List.map,List.cons_append,List.nil_append]
 have hy:=hx
 refine J2 ?_;refine mF ?_;refine aA ?_
 (refine eJ 33 (λ g33=>?_) (λ g33=>?_)<;>(try (exfalso;omega))<;>((refine Ka3 ?_)))
 ((refine aE ?_;refine mF ?_));refine cD ?_;refine Ka5 ?_;refine mF ?_;refine aA ?_
 (refine eJ 39 (λ g39=>?_) (λ g39=>?_)<;>refine Ka0 ?_)
 all_goals ((first|refine aI ?_|(refine aE ?_;refine mF ?_));refine Kb0 ?_)
 all_goals (first|refine aI ?_|(refine eJ 43 (λ g43=>?_) (λ g43=>?_)<;>refine Ka0 ?_))
 all_goals ((first|refine aI ?_|(refine aE ?_;refine mF ?_));refine Kb0 ?_)
 all_goals (first|refine aI ?_|(refine eJ 47 (λ g47=>?_) (λ g47=>?_)<;>refine Ka0 ?_))
 all_goals ((first|refine aI ?_|(refine aE ?_;refine mF ?_));refine cD ?_;refine zS ?_;refine dF ?_;refine Rr ?_;refine aD (xA (hc:=λ w1 hw=>eR ts.length (hw.tape dC fin hl) (by omega) (by omega))) (λ x57 h57=>?_);refine jF ?_;refine Ex ?_)
 all_goals
 refine nT [11,58,59,60,61,62,63,64,65,66,67,68,69,70,71,72,73,74,75,76,77,78,79,80,81,82,83,84,85,86,87,88,89,90,91,92,93,94,95,96,97,98,99,100] (λ z:Nat×dL=>[(11,.int .i64 ((z.1:Nat):Int))]) (λ z=>z.1<=ts.length) (λ z=>[(y.1,.cells ⟨Ry (({y.2 with t:=z.2}:Hq).cl kind mask)⟩ 89 (0,0)),(x6,.cells ⟨Ry ⟨0,⟨0,false⟩,0,0,0,0,0,0,⟨#[]⟩,0,0,0,false⟩⟩ 89 (0,0)),(tb,Jo a l c (mX l y.2.pos)),(bw,mR bm mask pt ts.length kt pe ne ke)]) (λ _=>_) (λ _=>_) (λ z=>ts.length-z.1) ((0,y.2.t)) (Nat.zero_le _) (λ z f hx=>?_)
 dsimp only[hY,List.map,List.cons_append,List.nil_append]
 all_goals (refine C6 ?_;refine dF ?_;refine Rr ?_;refine Aj ?_)
 all_goals
  refine bC (λ c64=>?_) (λ c64=>?_)
  ·all_goals try (exfalso;omega)
   all_goals (refine rX ?_;refine aV ?_;refine gZ [0,1,2,3,4,5,6,7,8,9,10,11,12,13,14,15,16] ?_;refine bj ?_;refine iL ?_;refine cJ (i:=6) (hq:=(pB (m:=x57) (n:=z.1) rf rf (by omega))) (h:=?_);refine bj ?_;refine oI ?_;refine cJ (i:=12) (hq:=(yw (a:=x57+z.1) (b:=ts.length) rf rf (by omega))) (h:=?_);refine bV (i:=13) (hq:=(Kt (cs:=rZ ts) (k:=(x57+z.1)%ts.length) rf rf gE eT fin (Nat.mod_lt _ h0) (by rw[kE];have:=Nat.mod_lt (x57+z.1) h0;omega))) (h:=?_);refine bV (i:=14) (hq:=(Cr (ts:=ts) (q:=(x57+z.1)%ts.length) rf eT fin (Nat.mod_lt _ h0))) (h:=?_);refine aU ?_;refine kU (i:=16) (hq:=(jR λ _=>lU (off:=1) (vs:=[.int .i64 (ts.getD ((x57+z.1)%ts.length) ⟨0,false⟩).root,.bool (ts.getD ((x57+z.1)%ts.length) ⟨0,false⟩).ro]) rf dC rf rfl eT (Nat.le_of_ble_eq_true rfl) rf lS)) (h:=λ _=>?_);refine eL ?_;refine Kc3 ?_;refine J3 ?_;refine aA ?_)
   all_goals ((refine eJ 86 (λ g86=>?_) (λ g86=>?_)<;>refine Ka0 ?_))
   all_goals ((first|refine aI ?_|(refine aE ?_;refine yK ?_));refine Kb0 ?_)
   all_goals (first|(refine aE ?_;refine aF ?_)|(refine eJ 90 (λ g90=>?_) (λ g90=>?_)<;>(try (exfalso;omega))<;>(refine aI ?_)))
   all_goals (refine Ka1 ?_;refine Ka2 ?_;(first|refine aI ?_|(refine aE ?_;refine yK ?_));refine Ka0 ?_)
   all_goals (first|refine A2 ?_|(refine eJ 95 (λ g95=>?_) (λ g95=>?_)<;>refine Ka0 ?_))
   all_goals ((first|refine aI ?_|refine A2 ?_|(refine aE ?_;refine yK ?_));(first|refine aI ?_|(refine aE ?_;refine cD ?_));refine cD ?_;refine aH ?_)
   all_goals
   refine bC (λ c99=>?_) (λ c99=>?_)
   ·try exact nv c99
    all_goals (refine nI ?_;refine J5 ?_)
    all_goals
     refine bE Tryz.results54 (λ w hw=>?_)
     exact⟨{y.2 with t:=ts.getD ((x57+z.1)%ts.length) ⟨0,false⟩,pos:=mX l y.2.pos},rfl,⟨hy,Fu (Nat.mod_lt _ h0),λ hk=>by first|(simp_all;done)|(unfold wrK at hk;exfalso;omega)⟩,hw.aX⟩
   ·try exact nv c99
    all_goals try (exfalso;omega)
    all_goals (refine Kc0 ?_)
    all_goals
     refine iS ((z.1+1,ts.getD ((x57+z.1)%ts.length) ⟨0,false⟩)) ?_
     ·omega
  ·all_goals try (exfalso;omega)
   all_goals (refine bP rfl ?_;refine mD ?_;refine aC (Kt (cs:=rZ ts) (k:=0) rf rf gE eT fin h0 (by rw[kE];omega)) rfl ?_;refine aC (Cr (ts:=ts) (q:=0) rf eT fin h0) rfl ?_;refine aF ?_;refine dA (jR λ _=>lU (off:=1) (vs:=[.int .i64 (ts.getD 0 ⟨0,false⟩).root,.bool (ts.getD 0 ⟨0,false⟩).ro]) rf dC rf rfl eT (Nat.le_of_ble_eq_true rfl) rf lS) (λ _=>?_);refine aH ?_;refine nI ?_;refine J5 ?_)
   all_goals
   refine bE Tryz.results54 (λ w hw=>?_)
   exact⟨{y.2 with t:=ts.getD 0 ⟨0,false⟩,pos:=mX l y.2.pos},rfl,⟨hy,Fu h0,λ _=>hr0⟩,hw.aX⟩
end
end
section
open Go.Ct
inductive CT where
 | no
 | main (i:Int)
 | prev (m:Int)
 | stat (d:Int)
 | root
 | rort
structure Kw where
 mm:Mm
 way:Int->List Nat
 gb:Int->Int
 ct:Int->CT
abbrev Kw.nd(σ:Kw)(r:Int):Nv:=aS σ.mm.nodes r
abbrev Kw.ce(σ:Kw)(c:Int):Int:=aW σ.mm.cs c
abbrev Kw.len(σ:Kw):Nat:=σ.mm.nodes.length
abbrev Kw.cl(σ:Kw):Nat:=σ.mm.cs.length
def iO(h:Nat)(w:List Nat):Prop:=∀k,k<w.length->sl h k=w.getD k 0
def uF(σ:Kw)(i:Int)(w:List Nat):Prop:=(σ.nd i).kind=2/\σ.way i=w
def oS(σ:Kw)(m:Int)(w:List Nat)(g:Int):Prop:=bQ (σ.nd m)/\σ.way m=w/\σ.gb m<=g
def bA(σ:Kw)(m:Int):Prop:=σ.ce (σ.nd m).prev=0
def qL(σ:Kw)(m p:Int):Prop:=oS σ p (σ.way m) (σ.gb m)/\bA σ p
def Ni(σ:Kw)(w:List Nat)(g b:Int):Prop:=((σ.nd b).kind=4/\iO (σ.nd b).hash.toNat w)∨((σ.nd b).kind=2/\σ.way b=w/\(σ.nd b).gen<=g)
structure zs(H:ByteArray->Nat)(σ:Kw)(r:Int):Prop where
 valid:cA (σ.nd r).nd (σ.nd r).xs (σ.nd r).ys
 gen:(σ.nd r).gen<=σ.mm.gen
 bd:lX σ.len σ.cl (σ.nd r)
 k2:(σ.nd r).kind=2->(σ.way r).length<=11/\1<=(σ.nd r).main/\σ.ct (σ.nd r).main=.main r
 k3:(σ.nd r).kind=3->(σ.way r).length<=10/\(∀k:Nat,∀b,lA (σ.nd r) k=some b->Ni σ (σ.way r++[k]) (σ.gb r) b)/\(0<(σ.way r).length->(σ.nd r).xs≠[]/\∀b,(σ.nd r).xs=[b]->(σ.nd b).kind=2)/\1<=(σ.nd r).prev/\σ.ct (σ.nd r).prev=.prev r
 k4:(σ.nd r).kind=4->H (σ.nd r).key=(σ.nd r).hash.toNat
 k5:(σ.nd r).kind=5->0<(σ.way r).length/\(σ.way r).length<=11/\H (σ.nd r).key=(σ.nd r).hash.toNat/\iO (σ.nd r).hash.toNat (σ.way r)/\1<=(σ.nd r).prev/\σ.ct (σ.nd r).prev=.prev r
 k6:(σ.nd r).kind=6->(σ.way r).length=11/\iO (σ.nd r).hash.toNat (σ.way r)/\(∀p∈(σ.nd r).ys,H p.1=(σ.nd r).hash.toNat)/\1<=(σ.nd r).prev/\σ.ct (σ.nd r).prev=.prev r
 k7:(σ.nd r).kind=7->bQ (σ.nd (σ.nd r).bJ)
 k8:(σ.nd r).kind=8->uF σ (σ.nd r).bJ []/\uF σ (σ.nd r).new []/\1<=(σ.nd r).status/\σ.ct (σ.nd r).status=.stat r
structure n8(σ:Kw)(c:Int):Prop where
 lo:0<=σ.ce c
 hi:σ.ce c<=σ.len
 main:∀i,σ.ct c=.main i->(σ.nd i).kind=2/\oS σ (σ.ce c) (σ.way i) (σ.nd i).gen
 prev:∀m,σ.ct c=.prev m->bQ (σ.nd m)/\(σ.ce c=0∨qL σ m (σ.ce c)∨((σ.nd (σ.ce c)).kind=7/\qL σ m (σ.nd (σ.ce c)).bJ))
 stat:∀d,σ.ct c=.stat d->σ.ce c=0∨σ.ce c=1∨σ.ce c=2
 root:σ.ct c=.root->uF σ (σ.ce c) []∨(σ.nd (σ.ce c)).kind=8
 rort:σ.ct c=.rort->uF σ (σ.ce c) []
structure Inv(H:ByteArray->Nat)(σ:Kw):Prop where
 two:2<=σ.len
 m1:(σ.nd 1).kind=1
 m2:(σ.nd 2).kind=1
 gen:0<=σ.mm.gen
 prop:dY σ.mm.nodes σ.mm.cs σ.mm.gen
 nd:∀r:Int,1<=r->r<=σ.len->zs H σ r
 ce:∀c:Int,1<=c->c<=σ.cl->n8 σ c
structure Le(σ τ:Kw):Prop where
 nodes:∃N,τ.mm.nodes=σ.mm.nodes++N
 cl:σ.cl<=τ.cl
 gen:σ.mm.gen<=τ.mm.gen
 way:∀r:Int,r<=σ.len->τ.way r=σ.way r
 gb:∀r:Int,r<=σ.len->τ.gb r=σ.gb r
 ct:∀c:Int,c<=σ.cl->τ.ct c=σ.ct c
 done:∀(c m:Int),1<=c->c<=σ.cl->σ.ct c=.prev m->¬bQ (σ.nd (σ.ce c))->τ.ce c=σ.ce c
 next:∀(c m:Int),1<=c->c<=σ.cl->σ.ct c=.prev m->bQ (σ.nd (σ.ce c))->τ.ce c=σ.ce c∨τ.ce c=0∨((τ.nd (τ.ce c)).kind=7/\(τ.nd (τ.ce c)).bJ=σ.ce c)
theorem Le.refl(σ:Kw):Le σ σ:=⟨⟨[],by simp⟩,Nat.le_refl _,Int.le_refl _,λ _ _=>rfl,λ _ _=>rfl,λ _ _=>rfl,λ _ _ _ _ _ _=>rfl,λ _ _ _ _ _ _=>.inl rfl⟩
section
variable{H:ByteArray->Nat}{σ τ υ:Kw}
theorem Le.len(h:Le σ τ):σ.len<=τ.len:=by obtain⟨N,e⟩:=h.nodes;simp only[Kw.len,e,List.length_append];omega
theorem Le.nd(h:Le σ τ){r:Int}(hr:r<=σ.len):τ.nd r=σ.nd r:=by obtain⟨N,e⟩:=h.nodes;simp only[Kw.nd,e];exact iG hr
theorem gP{N:List Nv}{r:Int}(h:bQ (aS N r)):1<=r/\r<=N.length:=dJ (by unfold bQ at h;omega)
theorem bQ.ne0{n:Nv}(h:bQ n):n.kind≠0/\n.kind≠7/\n.kind≠2/\n.kind≠8:=by unfold bQ at h;omega
theorem jM{n:Nv}(h:n.kind=0∨n.kind=7∨n.kind=2∨n.kind=8∨n.kind=1):¬bQ n:=λ hm=>by unfold bQ at hm;omega
theorem xL(N:List Nv):(aS N 0).kind=0:=by unfold aS;rw[if_neg (by omega)];rfl
def Nxt(σ τ:Kw)(v v':Int):Prop:=(¬bQ (σ.nd v)->v'=v)/\(bQ (σ.nd v)->v'=v∨v'=0∨((τ.nd v').kind=7/\(τ.nd v').bJ=v))
theorem Le.nxt(h:Le σ τ){c m:Int}(h1:1<=c)(hc:c<=σ.cl)(e:σ.ct c=.prev m):Nxt σ τ (σ.ce c) (τ.ce c):=⟨h.done c m h1 hc e,h.next c m h1 hc e⟩
theorem Le.trans(i1:Inv H σ)(i2:Inv H τ)(h:Le σ τ)(h2:Le τ υ):Le σ υ:=by
 have hl:=h.len
 have hl2:=h2.len
 refine⟨?_,Nat.le_trans h.cl h2.cl,Int.le_trans h.gen h2.gen,λ r hr=>(h2.way r (by omega)).trans (h.way r hr),λ r hr=>(h2.gb r (by omega)).trans (h.gb r hr),λ c hc=>(h2.ct c (by have:=h.cl;omega)).trans (h.ct c hc),λ c m h1 hc e hk=>?_,λ c m h1 hc e hk=>?_⟩
 ·obtain⟨N,e⟩:=h.nodes
  obtain⟨N2,e2⟩:=h2.nodes
  exact⟨N++N2,by rw[e2,e,List.append_assoc]⟩
 ·have e1:=h.done c m h1 hc e hk
  have e2:τ.ct c=.prev m:=(h.ct c hc).trans e
  rw[<- e1]
  refine h2.done c m h1 (by have:=h.cl;omega) e2 ?_
  rw[e1,h.nd (i1.ce c h1 hc).hi]
  exact hk
 ·have e2:τ.ct c=.prev m:=(h.ct c hc).trans e
  have hc2:c<=τ.cl:=by have:=h.cl;omega
  rcases h.next c m h1 hc e hk with e1|e1|⟨e1,e3⟩
  ·rw[<- e1]
   refine h2.next c m h1 hc2 e2 ?_
   rw[e1,h.nd (i1.ce c h1 hc).hi]
   exact hk
  ·refine .inr (.inl ?_)
   rw[h2.done c m h1 hc2 e2 (by rw[e1];exact jM (.inl (xL _))),e1]
  ·refine .inr (.inr ?_)
   rw[h2.done c m h1 hc2 e2 (jM (.inr (.inl e1))),h2.nd (i2.ce c h1 hc2).hi]
   exact⟨e1,e3⟩
def WT(H:ByteArray->Nat)(Q:Rs->Kw->Prop):Tr->Kw->Prop
 | .done r,σ=>Q r σ
 | .load c k,σ=>∀τ,Le σ τ->Inv H τ->WT H Q (k (τ.ce c)) τ
 | .jE c o n k,σ=>∀τ,Le σ τ->Inv H τ->(fZ τ.mm.cs c o->∃υ,Le τ υ/\Inv H υ/\υ.mm=⟨τ.mm.nodes,dE τ.mm.cs c o n,τ.mm.gen⟩/\WT H Q (k true) υ)/\(¬fZ τ.mm.cs c o->WT H Q (k false) τ)
 | .alloc n i k,σ=>∃υ,Le σ υ/\Inv H υ/\υ.mm=σ.mm.push n i/\WT H Q (k ((σ.len+1:Nat):Int)) υ
 | .cell i k,σ=>∃υ,Le σ υ/\Inv H υ/\υ.mm=⟨σ.mm.nodes,σ.mm.cs++[i],σ.mm.gen⟩/\WT H Q (k ((σ.cl+1:Nat):Int)) υ
 | .gen k,σ=>∃υ,Le σ υ/\Inv H υ/\υ.mm=⟨σ.mm.nodes,σ.mm.cs,σ.mm.gen+1⟩/\WT H Q (k (σ.mm.gen+1)) υ
 | .node r k,σ=>r<=σ.len/\WT H Q (k (σ.nd r)) σ
 | .stuck,_=>True
def eE:Tr->Bool
 | .load _ _=>true
 | .jE _ _ _ _=>true
 | .done _=>true
 | _=>false
theorem WT.sp{Q:Rs->Kw->Prop}{t t':Tr}{s':Mm}(i1:Inv H σ)(w:WT H Q t σ)(h:Sp t σ.mm t' s'):∃υ,Le σ υ/\Inv H υ/\υ.mm=s'/\WT H Q t' υ:=by
 cases h with
 | alloc n i k s=>exact w
 | cell i k s=>exact w
 | gen k s=>exact w
 | node r k s h=>exact⟨σ,Le.refl σ,i1,rfl,w.2⟩
theorem WT.lp{Q:Rs->Kw->Prop}{t t':Tr}{s':Mm}(i1:Inv H σ)(w:WT H Q t σ)(h:Lp t σ.mm t' s'):∃υ,Le σ υ/\Inv H υ/\υ.mm=s'/\WT H Q t' υ:=by
 cases h with
 | load c k s=>exact⟨σ,Le.refl σ,i1,rfl,w σ (Le.refl σ) i1⟩
 | jE c o n k s b hb =>
  obtain⟨w1,w2⟩:=w σ (Le.refl σ) i1
  cases b with
  | true=>exact w1 (hb.1 rfl)
  | false =>
   have hn:¬fZ σ.mm.cs c o:=λ h=>by have:=hb.2 h;cases this
   refine⟨σ,Le.refl σ,i1,?_,w2 hn⟩
   rw[show dE σ.mm.cs c o n=σ.mm.cs from uB hn]
theorem WT.rc{Q:Rs->Kw->Prop}{t:Tr}{s:Mm}{j:Nat}{t':Tr}{s':Mm}(h:Rc j t s t' s'):∀{σ:Kw},σ.mm=s->Inv H σ->WT H Q t σ->∃υ,Le σ υ/\Inv H υ/\υ.mm=s'/\WT H Q t' υ:=by
 induction h with
 | refl t s=>intro σ e i w;exact⟨σ,Le.refl σ,i,e,w⟩
 | gX _ hs ih =>
  intro σ e i w
  obtain⟨υ,l1,i1,e1,w1⟩:=ih e i w
  subst e1
  obtain⟨ρ,l2,i2,e2,w2⟩:=w1.sp i1 hs
  exact⟨ρ,l1.trans i i1 l2,i2,e2,w2⟩
 | loud _ hs ih =>
  intro σ e i w
  obtain⟨υ,l1,i1,e1,w1⟩:=ih e i w
  subst e1
  obtain⟨ρ,l2,i2,e2,w2⟩:=w1.lp i1 hs
  exact⟨ρ,l1.trans i i1 l2,i2,e2,w2⟩
end
end
end Go.Proofs.YtbajmaoegmbfgaaGreat

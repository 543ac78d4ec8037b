/- Merged. -/
import Derived.Test.YthblobahelfefaaGreatDoorGDc7
import Derived.Laws.DeepStrings4
set_option linter.unusedSimpArgs false
set_option linter.unusedVariables false
namespace Go.Ct
open Go Go.RowKit
section
def pR(ns:List Int):List Value:=ns.map (Value.int .u8)
def bZ(s:ByteArray):List Int:=s.data.toList.map λ b=>((b.toNat:Nat):Int)
theorem Dy(s:ByteArray):byteCells s=pR (bZ s):=by simp[byteCells,pR,bZ]
theorem Wb(a b:List Int):pR (a++b)=pR a++pR b:=by simp[pR]
theorem Ew(a:List Int):(pR a).length=a.length:=by simp[pR]
theorem oY(s:ByteArray):(bZ s).length=s.size:=by simp[bZ]
section
variable{P:Program}{S:List (Nat×Value)}{w0:World}{M:List Nat}{H:List (Nat×Obj)}{A F:Fr}{O:List Ow}{G:World->Prop}{d:Nat}{ty t t2 e:TypeId}{pos:String}{af:Array Edge}{gd:Option (Nat×Bool)}{x y z:Operand}{op:Op}{v:Value}{p a:Option Addr}{ns:List Int}{m c c2 i:Nat}
variable{s:ByteArray}
theorem I6{l h:Nat}{k1 k2:IntKind}(hx:ev S x=.string s)(hy:ev S y=.int k1 ((l:Nat):Int))(hz:ev S z=.int k2 ((h:Nat):Int))(ht:P.underlying t=some .string)(h1:l<=h)(h2:h<=s.size):aH P S G ⟨some d,.slice t x (some y) (some z) none,ty,pos,af,gd⟩ (.string (s.extract l h)):=⟨λ w _=>by have:=run_slice_string_if (P:=P) (w:=w) t s k1 k2 (l:Int) (h:Int) ht;rw[if_pos (by omega),if_pos (by omega)] at this;simp[execOp,hx,hy,hz,Instr.sliceAt,run_underlying ht,this,Result.andThen]⟩
theorem Mj(hx:ev S x=.slice p m c)(hy:ev S y=.string s)(ho:mN O i p (pR ns) c e 1)(hm:ns.length=m)(hk0:0<s.size)(he:cS P t e [.int .u8 0])(ht2:P.underlying t2=some .string)(hb:m+s.size<=549755813888) :
  aQ P S (SF w0 M H A F O) ⟨some d,.call {callee:=.builtin .append,args := #[x,y],argTypes := #[t,t2]},ty,pos,af,gd⟩ (Option Addr×Nat) (λ q=>.slice q.1 (ns++bZ s).length q.2)
   (λ q w=>True/\SF w0 M H A F (eL O i ⟨q.1,pR (ns++bZ s),q.2,e,1⟩) w):=by have:=qa (P:=P) (S:=S) (w0:=w0) (M:=M) (H:=H) (A:=A) (F:=F) (d:=d) (ty:=ty) (pos:=pos) (af:=af) (gd:=gd) hx hy ho (by rw[Ew];exact hm) hk0 he rfl ht2 hb;rw[Dy,<- Wb,show m+s.size=(ns++bZ s).length by rw[List.length_append,oY,hm]] at this;exact this.conv λ q w h=>⟨trivial,h.2⟩
theorem Bd{u:Int}(hx:ev S x=.slice p m c)(hy:ev S y=.slice a 1 c2)(ho:mN O i p (pR ns) c e 1)(hm:ns.length=m)(hf:pB A F O a [.int .u8 u])(he:cS P t e [.int .u8 0])(ht2:P.underlying t2=some (.slice e))(hb:m+1<=549755813888) :
  aQ P S (SF w0 M H A F O) ⟨some d,.call {callee:=.builtin .append,args := #[x,y],argTypes := #[t,t2]},ty,pos,af,gd⟩ (Option Addr×Nat) (λ q=>.slice q.1 (ns++[u]).length q.2)
   (λ q w=>True/\SF w0 M H A F (eL O i ⟨q.1,pR (ns++[u]),q.2,e,1⟩) w):=by have:=fS (P:=P) (S:=S) (w0:=w0) (M:=M) (H:=H) (A:=A) (F:=F) (d:=d) (ty:=ty) (pos:=pos) (af:=af) (gd:=gd) (k:=1) (sz:=1) hx hy ho (by rw[Ew,hm,Nat.mul_one]) hf rfl rfl he rfl (by decide) ht2 hb;rw[show pR ns++[.int .u8 u]=pR (ns++[u]) by rw[Wb];rfl,show m+1=(ns++[u]).length by simp[hm]] at this;exact this.conv λ q w h=>⟨trivial,h.2⟩
end
end
end Go.Ct
namespace Go.Proofs.YthblobahelfefaaGreatDoor
open Go.Proofs.Tryz
open Go Go.RowKit Go.Ct
section
theorem iQ:cS prog 155 5 [.int .u8 0]:=fX (z:=.int .u8 0) (by kernel_rfl) (by kernel_rfl) rfl
section
variable{w:World}{D:List Nat}{A:Fr}{p:Option Addr}{ns:List Int}{c n:Nat}
def ApQ(ns:List Int)(D:List Nat)(w:World)(e:Ending)(w':World):Prop:=∃x:Option Addr×Nat,e=.returned (.slice x.1 ns.length x.2)/\True/\SF w D [] [] [] [⟨x.1,pR ns,x.2,5,1⟩] w'
def smD:ByteArray:=⟨((List.range 10).map λ i=>UInt8.ofNat (48+i)).toArray++((List.range 26).map λ i=>UInt8.ofNat (97+i)).toArray⟩
def smS:ByteArray:=⟨((List.range 100).flatMap λ i=>[UInt8.ofNat (48+i/10),UInt8.ofNat (48+i%10)]).toArray⟩
def pV(n:Nat):ByteArray:=if n<10 then smD.extract n (n+1) else smS.extract (2*n) (2*n+2)
theorem R0(h:n<100):(pV n).size=if n<10 then 1 else 2:=by
 have h1:smD.size=36:=by simp[smD,ByteArray.size]
 have h2:smS.size=200:=by simp[smS,ByteArray.size];rfl
 unfold pV;split;·rw[ByteArray.size_extract,h1];omega
 ·rw[ByteArray.size_extract,h2];omega
set_option maxRecDepth 100000 in
theorem vx(h:n<100)(w:World):Calls prog 129 #[.int .i64 ((n:Nat):Int)] w λ e w'=>e=.returned (.string (pV n))/\Ct.St w [] [] w':=by
 have h1:smD.size=36:=by simp[smD,ByteArray.size]
 have h2:smS.size=200:=by simp[smS,ByteArray.size];rfl
 have h3:IntKind.i64.wrap ((n:Int)*2)=((2*n:Nat):Int):=by rw[wrap_i64 (by omega) (by omega)];omega
 have h4:IntKind.i64.wrap ((n:Int)*2)+2=((2*n+2:Nat):Int):=by rw[h3];omega
 refine enter func129 ntmps129 rfl rfl (SF.s0 w) ?_;simp only[bY];refine Ka5 ?_;refine pD ?_;refine aX (λ c4=>?_) (λ c4=>?_)
 ·try (first|contradiction|(exfalso;omega))
  refine lV ?_;refine sZ ?_;refine aA (I6 (s:=smD) (l:=n) (h:=n+1) (by kernel_rfl) rf (by exact rfl) (by kernel_rfl) (by omega) (by omega)) rfl ?_;refine J1 ?_;refine aP results129 (λ w hw=>?_);exact⟨by unfold pV;rw[if_pos (by omega)];rfl,hw.done⟩
 ·try (first|contradiction|(exfalso;omega))
  refine Kc6 ?_;refine ic ?_;refine aD ?_;refine ic ?_;refine pX ?_;refine aA (I6 (s:=smS) (l:=2*n) (h:=2*n+2) (by kernel_rfl) (congrArg (Value.int .i64) h3) (congrArg (Value.int .i64) h4) (by kernel_rfl) (by omega) (by omega)) rfl ?_;refine J1 ?_;refine aP results129 (λ w hw=>?_);exact⟨by unfold pV;rw[if_neg (by omega)];rfl,hw.done⟩
theorem Kl(hn:n<100)(hl:ns.length<=1000000)(hs:SF w D [] A [] [⟨p,pR ns,c,5,1⟩] w):Calls prog 88 #[.slice p ns.length c,.int .u64 (n:Int),.int .i64 10] w (ApQ (ns++bZ (pV n)) D w):=by
 have hz:=R0 hn;have hz2:0<(pV n).size/\(pV n).size<=2:=by rw[hz];split<;>omega
 refine enter func88 ntmps88 rfl rfl hs ?_;simp only[bY];refine Ka5 ?_;refine Fe ?_;refine aX (λ c10=>?_) (λ c10=>?_)
 ·try (first|contradiction|(exfalso;omega))
  refine jF ?_;refine pD ?_;refine aX (λ c12=>?_) (λ c12=>?_)
  ·try (first|contradiction|(exfalso;omega))
   refine lV ?_;refine eR ?_;refine aK (cV (hc:=λ w1 hw=>vx hn w1)) (λ x16=>?_);(refine aK (aQ.eG (Mj (ns:=ns) rf rf .head rfl hz2.1 iQ (by kernel_rfl) (by omega)) nM) (λ x17=>?_);try (refine eF (λ h17=>?_)));refine J1 ?_;refine aP results88 (λ w hw=>?_);exact⟨x17,rfl,trivial,hw.ret (List.Sublist.refl _) aT.nil (List.Sublist.refl _)⟩
  ·try ((exfalso;omega))
 ·exact nv c10
theorem gu(hn:n<100)(hl:ns.length<=1000000)(hs:SF w D [] A [] [⟨p,pR ns,c,5,1⟩] w):Calls prog 59 #[.slice p ns.length c,.int .u64 (n:Int),.int .i64 10] w (ApQ (ns++bZ (pV n)) D w):=by refine enter func59 ntmps59 rfl rfl hs ?_;simp only[bY];refine cC ?_;refine lV ?_;refine aD ?_;refine aJ (cM (V:=λ x:Option Addr×Nat=>.slice x.1 (ns++bZ (pV n)).length x.2) (hs:=[]) (os:=[⟨p,pR ns,c,5,1⟩]) (A0:=[]) (hs':=λ _=>[]) (os':=λ x=>[⟨x.1,pR (ns++bZ (pV n)),x.2,5,1⟩]) (Fc:=λ _=>[]) (hc:=λ w1 hw=>Kl hn hl hw)) (λ x10 h10=>?_);refine J1 ?_;refine aP results59 (λ w hw=>?_);exact⟨x10,rfl,h10,hw.ret (List.Sublist.refl _) aT.nil (List.Sublist.refl _)⟩
theorem gb(hn:n<100)(hl:ns.length<=1000000)(hs:SF w D [] A [] [⟨p,pR ns,c,5,1⟩] w):Calls prog 86 #[.slice p ns.length c,.int .i64 (n:Int),.int .i64 10] w (ApQ (ns++bZ (pV n)) D w):=by
 refine enter func86 ntmps86 rfl rfl hs ?_;simp only[bY];refine Kc1 ?_;refine eR ?_;refine Kc5 ?_;refine pD ?_;refine aX (λ c11=>?_) (λ c11=>?_);·try (contradiction)
 ·try (first|contradiction|(exfalso;omega))
  refine Ix ?_;refine aD ?_;refine aJ (cM (V:=λ x:Option Addr×Nat=>.slice x.1 (ns++bZ (pV n)).length x.2) (hs:=[]) (os:=[⟨p,pR ns,c,5,1⟩]) (A0:=[]) (hs':=λ _=>[]) (os':=λ x=>[⟨x.1,pR (ns++bZ (pV n)),x.2,5,1⟩]) (Fc:=λ _=>[]) (hc:=λ w1 hw=>Kl hn hl hw)) (λ x20 h20=>?_);refine J1 ?_;refine aP results86 (λ w hw=>?_);exact⟨x20,rfl,h20,hw.ret (List.Sublist.refl _) aT.nil (List.Sublist.refl _)⟩
theorem Wz(hn:n<100)(hl:ns.length<=1000000)(hs:SF w D [] A [] [⟨p,pR ns,c,5,1⟩] w):Calls prog 57 #[.slice p ns.length c,.int .i64 (n:Int),.int .i64 10] w (ApQ (ns++bZ (pV n)) D w):=by refine enter func57 ntmps57 rfl rfl hs ?_;simp only[bY];refine cC ?_;refine lV ?_;refine aD ?_;refine aJ (cM (V:=λ x:Option Addr×Nat=>.slice x.1 (ns++bZ (pV n)).length x.2) (hs:=[]) (os:=[⟨p,pR ns,c,5,1⟩]) (A0:=[]) (hs':=λ _=>[]) (os':=λ x=>[⟨x.1,pR (ns++bZ (pV n)),x.2,5,1⟩]) (Fc:=λ _=>[]) (hc:=λ w1 hw=>gb hn hl hw)) (λ x10 h10=>?_);refine J1 ?_;refine aP results57 (λ w hw=>?_);exact⟨x10,rfl,h10,hw.ret (List.Sublist.refl _) aT.nil (List.Sublist.refl _)⟩
abbrev faN:List Int:=[102,97,108,115,101]
theorem bg(hl:ns.length<=1000000)(hs:SF w D [] A [] [⟨p,pR ns,c,5,1⟩] w):Calls prog 87 #[.slice p ns.length c,.bool false] w (ApQ (ns++faN) D w):=by
 refine enter func87 ntmps87 rfl rfl hs ?_;simp only[bY];refine Ka5 ?_;refine aC ?_;refine aX (λ c5=>?_) (λ c5=>?_);·exact nv c5
 ·try (first|contradiction|(exfalso;omega))
  refine Kc6 ?_;(refine aK (aQ.eG (Mj (ns:=ns) rf rf .head rfl (by decide) iQ (by kernel_rfl) (by show ns.length+5<=_;omega)) nM) (λ x9=>?_);try (refine eF (λ h9=>?_)));refine J1 ?_;refine aP results87 (λ w hw=>?_);exact⟨x9,rfl,trivial,hw.ret (List.Sublist.refl _) aT.nil (List.Sublist.refl _)⟩
theorem qk(hl:ns.length<=1000000)(hs:SF w D [] A [] [⟨p,pR ns,c,5,1⟩] w):Calls prog 58 #[.slice p ns.length c,.bool false] w (ApQ (ns++faN) D w):=by refine enter func58 ntmps58 rfl rfl hs ?_;simp only[bY];refine cC ?_;refine lV ?_;refine aJ (cM (V:=λ x:Option Addr×Nat=>.slice x.1 (ns++faN).length x.2) (hs:=[]) (os:=[⟨p,pR ns,c,5,1⟩]) (A0:=[]) (hs':=λ _=>[]) (os':=λ x=>[⟨x.1,pR (ns++faN),x.2,5,1⟩]) (Fc:=λ _=>[]) (hc:=λ w1 hw=>bg hl hw)) (λ x7 h7=>?_);refine J1 ?_;refine aP results58 (λ w hw=>?_);exact⟨x7,rfl,h7,hw.ret (List.Sublist.refl _) aT.nil (List.Sublist.refl _)⟩
end
end
section
theorem wN{g:Nat×Nat->Value}{cs:List (Nat×Nat)}{k i:Nat}{a:Nat×Nat}(h:cs[i]?=some a)(hi:i<k):(gF g cs k)[i]?=some (g a):=by unfold gF;rw[List.getElem?_map,List.getElem?_take_of_lt hi,h];rfl
def Rm(b:Bool):List Value:=.bool b::List.replicate 128 (.bool false)
def pZ(n S:Nat):Prop:=∃i,i<n/\S.testBit i=false
section
variable{w:World}{D:List Nat}{y:Xg}{rb S n:Nat}{ls:List eE}{l:List gE}{cs:List (Nat×Nat)}{pk:Nat->ByteArray}
theorem M3{i:Nat}(h:i<n):(bB (λ _=>true) n).testBit i=true:=by rw[Vd];simp[h]
theorem aCT(f:Nat->Bool)(h:n<=16):bB f n<4294967296:=Nat.lt_of_lt_of_le (Xf f n) (Nat.le_trans (Nat.pow_le_pow_right (by decide) h) (by decide:2^16<=4294967296))
set_option maxRecDepth 100000 in
theorem mq(hn:cs.length<=16)(hop:∀a∈cs,∃o,Ki ls a=some o/\Jg pk o)(hS:S<2^cs.length)(hna:pZ cs.length S)(hs:SF w D [(y.b,cz rb cs.length y)] (y.fr l ls cs) [] [] w):Calls prog 55 #[pt y.b,.int .u32 (S:Int)] w λ e w'=>e=.returned (.agg ⟨Rm true⟩)/\SF w D [(y.b,cz rb cs.length y)] [] [] [] w':=by
 have hS32:S<4294967296:=Nat.lt_of_lt_of_le hS (Nat.le_trans (Nat.pow_le_pow_right (by decide) hn) (by decide:2^16<=4294967296));have hR32:=aCT (λ _=>true) hn;refine enter func55 ntmps55 rfl rfl hs ?_;simp only[bY]
 refine J0 ?_;refine aK (cK λ _=>iJ (z:=Rm false) (by kernel_rfl)) (λ x4=>?_);refine Kb0 ?_;refine aK (cK λ _=>iJ (z:=Rm false) (by kernel_rfl)) (λ x5=>?_);refine Bz ?_;refine J69 ?_;refine mE [6,7,8,9,10,11,12,13,14,15,16,17,18,19,20,21,22,23,24,25,26,27,28,29,30,31,32,33,34,35,36,37,38,39,40,41,42,43,44,45,46,47,48,49,50,51,52,53,54,55,56,57,58,59,60,61,62,63,64,65,66,67,68,69,70,71,72,73,74,75,76,77,78,79,80] (λ z:Nat=>[(6,.bool (decide (z<2)))]) (λ z=>z<=2) (λ z=>[(x5,.cells ⟨Rm (!decide (z=0))⟩ 153 (0,0)),(x4,.cells ⟨Rm false⟩ 153 (0,0)),(y.b,cz rb cs.length y)]) (λ _=>_) (λ _=>_) (λ z=>2-z) (0) (Nat.zero_le _) (λ z f hx=>?_);refine K0a ?_;refine jF ?_;refine aC ?_;refine aX (λ c10=>?_) (λ c10=>?_)
 ·try (first|contradiction|(exfalso;omega))
  have hz:z<2:=by simpa using c10
  refine bD ?_;refine bF ?_;refine cC ?_;refine zG ?_;refine Ka9 ?_;refine mE [6,7,8,9,16,17,18,19,20,21,22,23,24,25,26,27,28,29,30,31,32,33,34,35,36,37,38,39,40,41,42,43,44,45,46,47,48,49,50,51,52,53,54,55,56,57,58,59,60,61,62,63,64,65,66,67,68,69,70,71,72,73,74,75,76,77,78,79,80] (λ v:Nat×Bool=>[(16,.int .i64 ((v.1:Nat):Int)),(6,.bool (v.2&&decide (z=0)))]) (λ v=>v.1<=cs.length/\(z=1->v.2=true)/\(v.2=false->∀j,j<v.1->S.testBit j=true)) (λ v=>[(x5,.cells ⟨Rm v.2⟩ 153 (0,0)),(x4,.cells ⟨Rm false⟩ 153 (0,0)),(y.b,cz rb cs.length y)]) (λ _=>_) (λ _=>_) (λ v=>cs.length-v.1) ((0,!decide (z=0))) (⟨Nat.zero_le _,λ h=>by subst h;rfl,λ _ j hj=>absurd hj (Nat.not_lt_zero j)⟩) (λ v f hx=>?_);refine K0a ?_;obtain⟨i,b⟩:=v;replace hx:i<=cs.length/\(z=1->b=true)/\(b=false->∀j,j<i->S.testBit j=true):=hx;obtain⟨hi,hb1,hb2⟩:=hx;dsimp only;refine Ka7 ?_;refine aX (λ c17=>?_) (λ c17=>?_)
  ·try (first|contradiction|(exfalso;omega))
   have hi:i<cs.length:=by omega
   obtain⟨a,ha⟩:∃a,cs[i]?=some a:=⟨cs[i],List.getElem?_eq_getElem hi⟩;obtain⟨o,ho,hod⟩:=hop a (List.mem_of_getElem? ha);have hkv:yG ls a=.int .i64 o.kind:=by unfold yG;rw[ho]
   have hkd:=hod.kd.1;have hrb:=M3 hi;refine Kb4 ?_;refine aA (fM (cs:=gF rd0 cs cs.length) rf rf fU iH (.old (.tail .head)) hi E1g) rfl ?_;refine aA (eY (cs:=gF rd0 cs cs.length) (v:=.int .i64 0) rf iH (.old (.tail .head)) (wN ha hi)) rfl ?_;refine J8 ?_;refine Ir ?_;refine aA (Fs rf rf (by omega)) rfl ?_;refine aA (Ha (c:=if S.testBit i=true then 1 else 0) rf rf (Wn hS32 (by omega))) rfl ?_;refine tL ?_;refine aD ?_;(refine kT 26 (λ g26=>?_) (λ g26=>?_)<;>refine Ka0 ?_);all_goals (refine vb ?_;refine aD ?_)
   all_goals refine Ka0 ?_
   all_goals ((first|refine bG ?_|(refine aG ?_;refine kZ ?_));refine dG ?_;refine aD ?_)
   all_goals refine Ka0 ?_
   all_goals ((first|refine bG ?_|(refine aG ?_;refine aA (jY (n:=129) (k:=0) (e:=4) rf rf (by kernel_rfl) (by kernel_rfl) (by decide)) rfl ?_));refine Kb9 ?_;refine Kc2 ?_)
   all_goals
    refine aX (λ c38=>?_) (λ c38=>?_)
    ·all_goals try (first|contradiction|(exfalso;omega))
     all_goals (refine bQ rfl ?_;refine Ka3 ?_)
     all_goals
      refine jS (by exact(i+1,b)) ?_ ?_ E0k ?_ (λ w hw=>hw.back);·show cs.length-(i+1)<_;omega
      ·repeat' (first|exact bH _|refine aY ?_ ?_)
       all_goals (exact rfl)
      ·first|exact⟨hi,hb1,λ h j hj=>by rcases Nat.lt_succ_iff_lt_or_eq.1 hj with h2|rfl;exact hb2 h j h2;simpa using g26⟩|exact⟨hi,hb1,λ h=>by replace h:b=false:=h;rw[h] at c38;cases c38⟩
    ·try exact nv c38
     all_goals (refine J83 ?_;refine aD ?_;refine aA (fM (cs:=gF (yG ls) cs cs.length) rf rf fU iH (.old (.tail (.tail .head))) hi E1g) rfl ?_;refine aA (eY (cs:=gF (yG ls) cs cs.length) (v:=.int .i64 o.kind) rf iH (.old (.tail (.tail .head))) (by rw[<- hkv];exact wN ha hi)) rfl ?_;refine tL ?_;refine aD ?_)
     all_goals ((refine kT 47 (λ g47=>?_) (λ g47=>?_)<;>(try ((exfalso;omega)))<;>((refine Ka4 ?_))))
     all_goals (((refine aG ?_;refine cA ?_));refine J6 ?_;((refine Ka4 ?_));((refine aG ?_;refine aA (fM (cs:=gF (yG ls) cs cs.length) rf rf fU iH (.old (.tail (.tail .head))) hi E1g) rfl ?_));((refine aG ?_;refine aA (eY (cs:=gF (yG ls) cs cs.length) (v:=.int .i64 o.kind) rf iH (.old (.tail (.tail .head))) (by rw[<- hkv];exact wN ha hi)) rfl ?_));refine Ja ?_;refine aD ?_)
     all_goals ((refine kT 57 (λ g57=>?_) (λ g57=>?_)<;>(try ((exfalso;omega)))<;>(refine bG ?_)))
     all_goals ((refine bG ?_);refine J6 ?_;(refine bG ?_);(refine bG ?_);(refine bG ?_);((refine bG ?_));refine dG ?_;refine P2 ?_)
     all_goals ((refine Ka4 ?_))
     all_goals (((refine aG ?_;refine cA ?_));refine J6 ?_;((refine Ka4 ?_));((refine aG ?_;refine aA (Fs rf rf (by omega)) rfl ?_));((refine aG ?_;refine aA (Ha (c:=1) rf rf (by rw[Wn hR32 (by omega),if_pos hrb])) rfl ?_));refine Ja ?_;refine aC ?_)
     all_goals
      refine aX (λ c77=>?_) (λ c77=>?_)
      ·try (first|contradiction|(exfalso;omega))
       refine J2 ?_;refine aA (jY (n:=129) (k:=0) (e:=4) rf rf (by kernel_rfl) (by kernel_rfl) (by decide)) rfl ?_;refine aM (cK λ _=>Ou (cs:=Rm b) (cs':=Rm true) rf bU rf rfl iH (by kernel_rfl) rfl dV) (λ _=>?_);refine aC ?_;refine cD ?_;refine J1 ?_;refine Kb6 ?_;refine jS (by exact aB8 (p:=b=false) c38 (i+1,true)) ?_ ?_ E0k ?_ (λ w hw=>hw.back);·show cs.length-(i+1)<_;omega
       ·repeat' (first|exact bH _|refine aY ?_ ?_)
        all_goals (first|exact rfl|(have hz0:z=0:=(by rcases Nat.eq_zero_or_pos z with h|h;exact h;exact absurd (hb1 (by omega)) (by rw[c38];decide));subst hz0;exact rfl))
       ·exact⟨hi,λ _=>rfl,λ h=>by cases h⟩
      ·exact nv c77
  ·try (first|contradiction|(exfalso;omega))
   obtain rfl:i=cs.length:=by omega
   obtain rfl:b=true:=by
    cases b with
    | true=>rfl
    | false=>obtain⟨j,hj,hj2⟩:=hna;rw[hb2 rfl j hj] at hj2;cases hj2
   refine J84 ?_;refine jS (z+1) ?_ ?_ E0k ?_ (λ w hw=>hw.back);·omega
   ·repeat' (first|exact bH _|refine aY ?_ ?_)
    (have h3:z=0∨z=1:=(by omega);rcases h3 with rfl|rfl<;>exact rfl)
   ·exact hz
 ·try (first|contradiction|(exfalso;omega))
  obtain rfl:z=2:=by have h3:¬z<2:=(by simpa using c10);omega
  refine K1o ?_;refine J0 ?_;refine K1z ?_;refine aM (cK λ _=>aE (old:=Rm false) (cs:=Rm true) rf bU rf rfl (by kernel_rfl) rf dV) (λ _=>?_);refine aC ?_;refine wR results55 (.cell rf bU (by kernel_rfl) .nil) (λ w hw=>?_);exact⟨rfl,hw.ret E0a aT.nil (List.Sublist.refl _)⟩
end
end
end Go.Proofs.YthblobahelfefaaGreatDoor
namespace Go.Ct
open Go Go.RowKit
section
def Ar(ns:List Int):ByteArray:=ns.foldl (λ r n=>r.push (UInt8.ofNat n.toNat)) ByteArray.empty
section
variable{P:Program}{S:List (Nat×Value)}{w0:World}{M:List Nat}{H:List (Nat×Obj)}{A F:Fr}{O:List Ow}{d:Nat}{ty t t2 e:TypeId}{pos:String}{af:Array Edge}{gd:Option (Nat×Bool)}{x y:Operand}{p a:Option Addr}{ns:List Int}{m c i:Nat}
theorem rn(hx:ev S x=.slice a m c)(hf:pB A F O a (ns.map (Value.int .u8)))(hm:ns.length=m)(h0:0<m)(hs:P.underlying t=some (.slice e))(he:P.underlying e=some (.int .u8))(hd:P.underlying t2=some .string) :
  aH P S (SF w0 M H A F O) ⟨some d,.convert t t2 x,ty,pos,af,gd⟩ (.string (Ar ns)):=⟨λ w hw=>by
 have hcl:=hw.cl hf;have hap:a=some ⟨cI a,dH a,none⟩:=hcl.ptr (by simp[hm];omega)
 have hlc:(loadCells ⟨cI a,dH a,none⟩ m).run P w=.ok (ns.map (Value.int .u8)).toArray w:=by have:=run_loadCells_list (P:=P) w ⟨cI a,dH a,none⟩ (ns.map (Value.int .u8)) hcl.cells;rwa [List.length_map,hm] at this
 have h1:=run_convert_bytes_string (P:=P) w t t2 e a m c hs he hd;rw[hap] at h1 hx;simp only[execOp,hx,Sem.run_bind,h1,run_bytesToString w _ m c ns hlc,Result.andThen];rfl⟩
theorem aAV{s:ByteArray}(hx:ev S x=.slice p m c)(hy:ev S y=.string s)(ho:mN O i p (pR ns) c e 1)(hm:ns.length=m)(hm0:0<m)
  (he:cS P t e [.int .u8 0]) (ht2:P.underlying t2=some .string) (hb:m+s.size<=549755813888) :
  aQ P S (SF w0 M H A F O) ⟨some d,.call {callee:=.builtin .append,args := #[x,y],argTypes := #[t,t2]},ty,pos,af,gd⟩ (Option Addr×Nat) (λ q=>.slice q.1 (ns++bZ s).length q.2)
   (λ q w=>True/\SF w0 M H A F (eL O i ⟨q.1,pR (ns++bZ s),q.2,e,1⟩) w):=by
 by_cases hk:0<s.size;·exact Mj hx hy ho hm hk he ht2 hb
 have Jv:s.size=0:=by omega
 have hb0:bZ s=[]:=List.eq_nil_of_length_eq_zero (by rw[oY];exact Jv);rw[hb0,List.append_nil];refine⟨λ w hw=>?_⟩;obtain⟨inf,zz,hi,hz,hzc,hs,hbytes⟩:=he.z
 have hev:lX S [x,y]=[.slice p m c,.string s]:=by simp[lX,hx,hy]
 have hss:inf.size=1:=by rw[hs];rfl
 rcases(hw.own _ ho.mem).1 with⟨_,e2,_⟩|⟨b,rest,h1,h2,h3⟩
 ·have:(pR ns).length=0:=by have e3:pR ns=[]:=e2;rw[e3];rfl
  rw[Ew] at this;omega
 ·simp only at h1 h2 h3;subst h1;have hsrc:Src P inf.size t2 (.string s) 0 [] w:=by rw[hss];have:=Src.ofString w ht2 s;rw[Jv,Dy,hb0] at this;exact this
  have hmc:m<=c:=by have h4:(pR ns++rest).length=c*1:=h3;rw[List.length_append,Ew] at h4;omega
  have hr:=run_append_room_src (P:=P) w t t2 ty e inf he.sl hi b 0 m c (.string s) 0 [] hsrc (by omega) (by simp) (by simp);rw[nW hev hr];refine⟨(some ⟨b,0,none⟩,c),by rw[Nat.add_zero,<- hm],trivial,by rw[C9 ho];exact hw⟩
end
end
end Go.Ct
namespace Go.Proofs.YthblobahelfefaaGreatDoor
open Go Go.RowKit Go.Ct
section
theorem aCV{i:Nat}(h:i<129):(Rm true)[i]?=some (.bool (decide (i=0))):=by
 cases i with
 | zero=>rfl
 | succ n=>show(List.replicate 128 (Value.bool false))[n]?=_;rw[List.getElem?_replicate,if_pos (by omega)];simp
def ej:List Int:=([]++bZ (pV 0)++[32])++faN
def Zj(pk:Nat->ByteArray)(v:Nat):List Int:=[32]++bZ (pV (pk v).size)++[32]++bZ (pk v)++[32]++bZ (pV v)
def tM(pk:Nat->ByteArray)(q:List Nat):List Int:=ej++q.flatMap (Zj pk)++[10]
section
variable{w:World}{D:List Nat}{y:Xg}{rb S n m k:Nat}{ls:List eE}{l:List gE}{cs:List (Nat×Nat)}{pk:Nat->ByteArray}{mv:List (Nat×Nat)}{u:fz}{A:Fr}
theorem yP(n:Nat)(h:n<100):(bZ (pV n)).length<=2/\1<=(bZ (pV n)).length:=by rw[oY,R0 h];split<;>omega
theorem aAT{v:Nat}(hv:v=1∨v=2)(hK:Vb pk):(Zj pk v).length<=71:=by
 have h1:=hK v hv;have h2:=yP (pk v).size (by omega);have h3:=yP v (by omega);simp only[Zj,List.length_append,List.length_singleton,oY] at *
 omega
theorem Su(hK:Vb pk):∀{q:List Nat},(∀v∈q,v=1∨v=2)->(q.flatMap (Zj pk)).length<=71*q.length
 | [],_=>Nat.le_refl _
 | v::q,h=>by
  have h1:=aAT (h v (by simp)) hK;have h2:=Su hK (q:=q) λ u hu=>h u (List.mem_cons_of_mem _ hu);simp only[List.flatMap_cons,List.length_append,List.length_cons]
  omega
theorem yq:ej.length<=8/\1<=ej.length:=by have:=yP 0 (by decide);simp only[ej,List.length_append,List.length_cons,List.length_nil];omega
set_option maxRecDepth 100000 in
theorem aCD(hK:Vb pk)(hm:m<18446744073709551616)(hv:VM pk mv k)(hn:cs.length<=16)(hop:∀a∈cs,∃o,Ki ls a=some o/\Jg pk o)(hS:S<2^cs.length)(hna:pZ cs.length S)(hs:SF w D ((y.b,cz rb cs.length y)::pP m u (kW pk mv) k) (y.fr l ls cs) [] [] w):Calls Tryz.prog 45 #[pt y.b,.int .u32 (S:Int),pt u.b] w λ e w'=>∃q:List Nat,e=.returned (.string (Ar (tM pk q)))/\q.Perm (mv.map Prod.fst)/\SF w D ((y.b,cz rb cs.length y)::pP m u (kW pk mv) k) [] [] [] w':=by
 have hmv:=hv.len;have h0:=yq;refine enter Tryz.func45 Tryz.ntmps45 rfl rfl hs ?_;simp only[bY]
 refine cC ?_;refine lV ?_;refine aJ (cM (φ:=λ _=>True) (V:=λ _:Unit=>.agg ⟨Rm true⟩) (hs:=[(y.b,cz rb cs.length y)]) (os:=[]) (A0:=y.fr l ls cs) (hs':=λ _=>[(y.b,cz rb cs.length y)]) (os':=λ _=>[]) (Fc:=λ _=>[]) (hc:=λ w1 hw=>(mq hn hop hS hna hw).mono λ _ _ ⟨e,h⟩=>⟨(),e,trivial,h⟩)) (λ x18 h18=>?_);refine aK (cK λ _=>iJ (z:=Rm false) (by kernel_rfl)) (λ x7=>?_);refine aM (cK λ _=>aE (old:=Rm false) (cs:=Rm true) rf bU rf rfl (by kernel_rfl) rf dV) (λ _=>?_);refine aC ?_;refine kt ?_;refine J0 ?_;refine K1z ?_;refine Ka8 ?_;refine mE [8,9,10,11,12,13,15,20,21,22,23,24,25,26,27,28,29,30,31,32,33,34,35,36,37,38,39,40,41,42,43,44,45,46,47,48,49,50,51,52,53,54,55,56,57,58,59,60,61,62,63,64,65,66,67,68,69,70,71,72] (λ z:Nat×Option Addr×List Int×Nat=>[(20,.int .i64 ((z.1:Nat):Int)),(8,.slice z.2.1 z.2.2.1.length z.2.2.2)]) (λ z=>z.1<=129/\(z.1=0->z.2.2.1=[])/\(0<z.1->∃q:List Nat,q.Perm (mv.map Prod.fst)/\z.2.2.1=tM pk q)) (λ _=>_) (λ z=>[]) (λ z=>[⟨z.2.1,pR z.2.2.1,z.2.2.2,5,1⟩]) (λ z=>129-z.1) ((0,none,[],0)) (⟨Nat.zero_le _,λ _=>rfl,λ h=>absurd h (by decide)⟩) (λ z f hx=>?_) (hw0:=λ w hw=>(hw.gN 5 1));refine K0a ?_;obtain⟨i,zp,ns,zc⟩:=z;replace hx:i<=129/\(i=0->ns=[])/\(0<i->∃q:List Nat,q.Perm (mv.map Prod.fst)/\ns=tM pk q):=hx;obtain⟨hz1,hz2,hz3⟩:=hx;dsimp only;refine Ka7 ?_;refine aX (λ c21=>?_) (λ c21=>?_)
 ·try (first|contradiction|(exfalso;omega))
  refine Kb4 ?_;refine aA (Ts (e:=4) (n:=129) (k:=i) (cs:=Rm true) (v:=.bool (decide (i=0))) rf rf (by kernel_rfl) (by kernel_rfl) (by omega) (aCV (by omega))) rfl ?_;refine J8 ?_;refine jF ?_;refine pG ?_;refine aX (λ c25=>?_) (λ c25=>?_)
  ·try (first|contradiction|(exfalso;omega))
   have hz0:i≠0:=by simpa using c25
   refine K1o ?_;refine Ka3 ?_;refine nS (by exact(i+1,zp,ns,zc)) ?_ (hμ:=by(show 129-(i+1)<129-i;omega));·(exact⟨by show i+1<=129;omega,λ h=>(by cases h),λ _=>hz3 (by omega)⟩)
  ·try (first|contradiction|(exfalso;omega))
   have hz0:i=0:=by simpa using c25
   subst hz0;obtain rfl:=hz2 rfl;refine Ix ?_;refine aJ (cM (φ:=λ x=>x.1.Perm (mv.map Prod.fst)) (V:=λ x:List Nat×Option Addr×Nat=>.tuple #[.slice x.2.1 x.1.length x.2.2,.bool false,.bool true]) (hs:=pP m u (kW pk mv) k) (os:=[]) (A0:=[]) (hs':=λ _=>pP m u (kW pk mv) k) (os':=λ _=>[]) (Fc:=λ x=>[(x.2.1,dE Pe (x.1.map (fp pk)))]) (hc:=λ w1 hw=>lh hK hm hv hw)) (λ x29 h29=>?_);obtain⟨vs,vp,vc⟩:=x29;replace h29:vs.Perm (mv.map Prod.fst):=h29;have hvl:vs.length<=2:=by rw[h29.length_eq,List.length_map];exact hmv
   have hvv:∀v∈vs,v=1∨v=2:=λ v h=>by obtain⟨q,hq,rfl⟩:=List.mem_map.1 (h29.mem_iff.1 h);exact hv.v q hq
   dsimp only;refine Ot ?_;refine oL ?_;refine fD (λ _=>?_);refine J8 ?_;refine jF ?_;refine pG ?_;refine aX (λ c34=>?_) (λ c34=>?_);·exact nv c34
   ·try (first|contradiction|(exfalso;omega))
    refine Ix ?_;refine aJ (cM (V:=λ x:Option Addr×Nat=>.slice x.1 ([]++bZ (pV 0)).length x.2) (hs:=[]) (os:=[⟨zp,pR [],zc,5,1⟩]) (A0:=[]) (hs':=λ _=>[]) (os':=λ x=>[⟨x.1,pR ([]++bZ (pV 0)),x.2,5,1⟩]) (Fc:=λ _=>[]) (hc:=λ w1 hw=>Wz (ns:=[]) (n:=0) (by decide) (by decide) hw)) (λ x37 h37=>?_);refine Kb7 ?_;refine aK E0i (λ x39=>?_);(refine aK (aQ.eG (Bd (ns:=[]++bZ (pV 0)) rf rf .head rfl (.new .head) iQ (by kernel_rfl) (by have:=yP 0 (by decide);simp only[List.length_append,List.length_nil];omega)) nM) (λ x40=>?_);try (refine eF (λ h40=>?_)));refine aD ?_;refine aJ (cM (V:=λ x:Option Addr×Nat=>.slice x.1 ej.length x.2) (hs:=[]) (os:=[⟨x40.1,pR ([]++bZ (pV 0)++[32]),x40.2,5,1⟩]) (A0:=[]) (hs':=λ _=>[]) (os':=λ x=>[⟨x.1,pR ej,x.2,5,1⟩]) (Fc:=λ _=>[]) (hc:=λ w1 hw=>qk (ns:=[]++bZ (pV 0)++[32]) (by have:=yP 0 (by decide);simp only[List.length_append,List.length_nil,List.length_singleton];omega) hw)) (λ x42 h42=>?_);refine Kc5 ?_;refine Ka9 ?_;refine mE [8,15,45,46,47,48,49,50,51,52,53,54,55,56,57,58,59,60,61,62,63,64,65,66,67,68] (λ v:Nat×Option Addr×Nat=>[(45,.int .i64 ((v.1:Nat):Int)),(8,.slice v.2.1 (ej++(vs.take v.1).flatMap (Zj pk)).length v.2.2)]) (λ v=>v.1<=vs.length) (λ _=>_) (λ v=>[(vp,dE Pe (vs.map (fp pk)))]) (λ v=>[⟨v.2.1,pR (ej++(vs.take v.1).flatMap (Zj pk)),v.2.2,5,1⟩]) (λ v=>vs.length-v.1) ((0,x42.1,x42.2)) (Nat.zero_le _) (λ v f hx=>?_) (hw0:=λ w hw=>hw.back (hF:=aT.bA λ f hf=>by simp at hf;simp[hf]));refine K0a ?_;obtain⟨j,wp,wc⟩:=v;replace hx:j<=vs.length:=hx;dsimp only;have hfl:=Su hK (q:=vs.take j) λ v h=>hvv v (List.mem_of_mem_take h);rw[List.length_take,Nat.min_eq_left hx] at hfl;obtain⟨ms,hms⟩:∃ms,ms=ej++(vs.take j).flatMap (Zj pk):=⟨_,rfl⟩
    have hml:ms.length<=200/\1<=ms.length:=by rw[hms,List.length_append];omega
    rw[<- hms];refine Ka7 ?_;refine aX (λ c46=>?_) (λ c46=>?_)
    ·try (first|contradiction|(exfalso;omega))
     have hj:j<vs.length:=by omega
     obtain⟨v,hvj⟩:∃v,vs[j]?=some v:=⟨vs[j],List.getElem?_eq_getElem hj⟩;have hv12:=hvv v (List.mem_of_getElem? hvj);have hks:=hK v hv12;have hsk:=yP (pk v).size (by omega);have hsv:=yP v (by omega);have hat:(vs.map (fp pk))[j]?=some (fp pk v):=by rw[List.getElem?_map,hvj];rfl
     have hbk:=oY (pk v);refine tG ?_;refine J0 ?_;refine aA (cR (f:=Pe) (l:=vs.map (fp pk)) (k:=j) Bn (by decide) rf rf fU (by kernel_rfl) (.new .head) hj (by rw[List.length_map];exact hj)) rfl ?_;refine aA (fJ (f:=Pe) (l:=vs.map (fp pk)) (k:=j) Bn rf (by kernel_rfl) (.new .head) hat) rfl ?_;refine aK (cK λ _=>iJ (z:=Pe (⟨#[]⟩,0)) (by kernel_rfl)) (λ x15=>?_);refine aM (cK λ _=>aE (old:=Pe (⟨#[]⟩,0)) (cs:=Pe (fp pk v)) rf bU rf rfl (by kernel_rfl) rf dV) (λ _=>?_);refine Bz ?_;refine eQ [(0,[]),(3,[]),(4,[]),(5,[]),(1,[4]),(2,[4]),(6,[]),(7,[])] ?_;refine aR ?_;refine iX ?_;refine n8 ?_;refine cB (i:=1) (hq:=E0i) (h:=λ x50=>?_);((refine cB (i:=2) (hq:=(aQ.eG (Bd (ns:=ms) rf rf .head rfl (.new .head) iQ (by kernel_rfl) (by omega)) nM)) (h:=λ x51=>?_);try (refine iV (λ h51=>?_))));refine bS (i:=6) (hq:=(cM (V:=λ x:Option Addr×Nat=>.slice x.1 (ms++[32]++bZ (pV (pk v).size)).length x.2) (hs:=[]) (os:=[⟨x51.1,pR (ms++[32]),x51.2,5,1⟩]) (A0:=[]) (hs':=λ _=>[]) (os':=λ x=>[⟨x.1,pR (ms++[32]++bZ (pV (pk v).size)),x.2,5,1⟩]) (Fc:=λ _=>[]) (hc:=λ w1 hw=>Wz (ns:=ms++[32]) (n:=(pk v).size) (by omega) (by rw[List.length_append,List.length_singleton];omega) hw))) (h:=λ x55 h55=>?_);refine J7 ?_;refine aU ?_;refine eQ [(0,[]),(3,[]),(4,[]),(1,[4]),(2,[4]),(5,[]),(6,[])] ?_;refine aR ?_;refine iX ?_;refine cB (i:=1) (hq:=E0i) (h:=λ x57=>?_);((refine cB (i:=2) (hq:=(aQ.eG (Bd (ns:=ms++[32]++bZ (pV (pk v).size)) rf rf .head rfl (.new .head) iQ (by kernel_rfl) E0l) nM)) (h:=λ x58=>?_);try (refine iV (λ h58=>?_))));((refine cB (i:=5) (hq:=(aQ.eG (aAV (ns:=ms++[32]++bZ (pV (pk v).size)++[32]) (s:=pk v) rf rf .head rfl E0l iQ (by kernel_rfl) E0l) nM)) (h:=λ x61=>?_);try (refine iV (λ h61=>?_))));refine J7 ?_;refine eQ [(0,[]),(3,[]),(4,[]),(1,[4]),(2,[4]),(5,[]),(6,[])] ?_;refine aR ?_;refine iX ?_;refine cB (i:=1) (hq:=E0i) (h:=λ x63=>?_);((refine cB (i:=2) (hq:=(aQ.eG (Bd (ns:=ms++[32]++bZ (pV (pk v).size)++[32]++bZ (pk v)) rf rf .head rfl (.new .head) iQ (by kernel_rfl) E0l) nM)) (h:=λ x64=>?_);try (refine iV (λ h64=>?_))));refine bS (i:=5) (hq:=(cM (V:=λ x:Option Addr×Nat=>.slice x.1 (ms++[32]++bZ (pV (pk v).size)++[32]++bZ (pk v)++[32]++bZ (pV v)).length x.2) (hs:=[]) (os:=[⟨x64.1,pR (ms++[32]++bZ (pV (pk v).size)++[32]++bZ (pk v)++[32]),x64.2,5,1⟩]) (A0:=[]) (hs':=λ _=>[]) (os':=λ x=>[⟨x.1,pR (ms++[32]++bZ (pV (pk v).size)++[32]++bZ (pk v)++[32]++bZ (pV v)),x.2,5,1⟩]) (Fc:=λ _=>[]) (hc:=λ w1 hw=>gu (ns:=ms++[32]++bZ (pV (pk v).size)++[32]++bZ (pk v)++[32]) (n:=v) (by omega) E0l hw))) (h:=λ x67 h67=>?_);refine J7 ?_;refine eX ?_
     have hnext:ms++[32]++bZ (pV (pk v).size)++[32]++bZ (pk v)++[32]++bZ (pV v)=ej++(vs.take (j+1)).flatMap (Zj pk):=by rw[hms,List.take_add_one,hvj,List.flatMap_append];simp[Zj,List.append_assoc]
     refine Ka3 ?_;refine jS ((j+1,x67.1,x67.2)) ?_ ?_ E0k ?_ (λ w hw=>by rw[hnext] at hw;exact hw.back (hF:=aT.bA λ f hf=>by simp at hf;simp[hf]));·show vs.length-(j+1)<_;omega
     ·repeat' (first|exact bH _|refine aY ?_ ?_)
      all_goals (first|exact rfl|(rw[hnext];exact rfl))
     ·exact hj
    ·try (first|contradiction|(exfalso;omega))
     obtain rfl:j=vs.length:=by omega
     rw[List.take_length] at hms;refine K1o ?_;refine Js ?_;refine aK E0i (λ x70=>?_);(refine aK (aQ.eG (Bd (ns:=ms) rf rf .head rfl (.new .head) iQ (by kernel_rfl) (by omega)) nM) (λ x71=>?_);try (refine eF (λ h71=>?_)));refine J1 ?_;refine Kb6 ?_;refine nS (by exact(0+1,x71.1,ms++[10],x71.2)) ?_ (hμ:=by(show 129-(0+1)<129-0;decide));·(exact⟨by show 0+1<=129;decide,λ h=>(by cases h),λ _=>⟨vs,h29,by show ms++[10]=_;rw[hms];rfl⟩⟩)
 ·try (first|contradiction|(exfalso;omega))
  obtain rfl:i=129:=by omega
  obtain⟨q,hq,rfl⟩:=hz3 (by decide);refine K1o ?_;refine J2 ?_;refine aA (rn (e:=5) (ns:=tM pk q) rf (.own .head) rfl (by simp only[tM,List.length_append,List.length_singleton];omega) (by kernel_rfl) (by kernel_rfl) (by kernel_rfl)) rfl ?_;refine J1 ?_;refine aP Tryz.results45 (λ w hw=>?_);exact⟨q,rfl,hq,hw.ret E0a aT.nil (List.nil_sublist _)⟩
end
end
section
section
variable{pk:Nat->ByteArray}{c c' q q':List Nat}{key:ByteArray}{v n S:Nat}{o:kA}{ls:List eE}{l:List gE}{cs:List (Nat×Nat)}
theorem B4:∀(ns:List Int) (r:ByteArray),(ns.foldl (λ r n=>r.push (UInt8.ofNat n.toNat)) r).data.toList=r.data.toList++ns.map λ n=>UInt8.ofNat n.toNat
 | [],r=>by simp
 | n::ns,r=>by rw[List.foldl_cons,B4 ns];simp[ByteArray.push]
theorem pw{a b:List Int}(h:Ar a=Ar b):(a.map λ n=>UInt8.ofNat n.toNat)=b.map λ n=>UInt8.ofNat n.toNat:=by
 have e:(Ar a).data.toList=(Ar b).data.toList:=by rw[h]
 unfold Ar at e;rw[B4,B4] at e;simpa using e
theorem Za(hn:(c.map pk).Nodup):tK pk key c=some v↔v∈c/\pk v=key:=by
 constructor;·exact Qc
 ·rintro ⟨h1,h2⟩;induction c with
  | nil=>cases h1
  | cons u c ih=>
   rw[List.map_cons,List.nodup_cons] at hn;unfold tK;split
   ·rename_i hu;rcases List.mem_cons.1 h1 with rfl|h1;·rfl
    ·exact absurd (List.mem_map.2 ⟨v,h1,h2.trans hu.symm⟩) hn.1
   ·rename_i hu;rcases List.mem_cons.1 h1 with rfl|h1;·exact absurd h2 hu
    ·exact ih hn.2 h1
def Eqv(pk:Nat->ByteArray)(c c':List Nat):Prop:=∀key,tK pk key c=tK pk key c'
theorem Eqv.of(hn:(c.map pk).Nodup)(hn':(c'.map pk).Nodup)(h:∀v,v∈c↔v∈c'):Eqv pk c c':=λ key=>by refine Option.ext λ v=>?_;rw[Za hn,Za hn',h v]
structure Vs(pk:Nat->ByteArray)(q:List Nat):Prop where
 v:∀v∈q,v=1∨v=2
 n:(q.map pk).Nodup
theorem VM.vs{mv:List (Nat×Nat)}{k:Nat}(h:VM pk mv k)(hp:q.Perm (mv.map Prod.fst)):Vs pk q:=by
 refine⟨λ v hv=>?_,?_⟩;·obtain⟨a,ha,rfl⟩:=List.mem_map.1 (hp.mem_iff.1 hv);exact h.v a ha
 ·rw[(hp.map pk).nodup_iff,List.map_map];exact h.n
theorem Vs.cases(h:Vs pk q):q=[]∨q=[1]∨q=[2]∨q=[1,2]∨q=[2,1]:=by
 have hv:=h.v;have hn:=h.n;match q,hv,hn with
 | [],_,_=>exact .inl rfl
 | [a],hv,_=>rcases hv a (by simp) with rfl|rfl<;>simp
 | [a,b],hv,hn=>rcases hv a (by simp) with rfl|rfl<;>rcases hv b (by simp) with rfl|rfl<;>simp at hn ⊢
 | a::b::d::r,hv,hn=>exfalso;simp only[List.map_cons,List.nodup_cons,List.mem_cons,not_or] at hn;rcases hv a (by simp) with h1|h1<;>rcases hv b (by simp) with h2|h2<;>rcases hv d (by simp) with h3|h3<;>rw[h1,h2,h3] at hn<;>simp at hn
theorem aFd:bZ (pV 1)=[49]:=by kernel_rfl
theorem aFr:bZ (pV 2)=[50]:=by kernel_rfl
theorem Wy(v:Nat):1<=(Zj pk v).length:=by simp only[Zj,List.length_append,List.length_singleton];omega
theorem R6(q:List Nat):(tM pk q).length=ej.length+(q.flatMap (Zj pk)).length+1:=by simp[tM];omega
theorem pj(h:Vs pk q)(h':Vs pk q')(e:Ar (tM pk q)=Ar (tM pk q')):∀v,v∈q↔v∈q':=by
 have e1:=pw e;have e2:=congrArg List.length e1;rw[List.length_map,List.length_map,R6,R6] at e2;have p1:=Wy (pk:=pk) 1;have p2:=Wy (pk:=pk) 2
 have key:∀A B:List Int,(A++[49]++[10]:List Int).map (λ n=>UInt8.ofNat n.toNat)=(B++[50]++[10]:List Int).map (λ n=>UInt8.ofNat n.toNat)->False:=λ A B h=>by have:=congrArg List.reverse h;simp at this
 have r1:tM pk [1]=(ej++([32]++bZ (pV (pk 1).size)++[32]++bZ (pk 1)++[32]))++[49]++[10]:=by simp only[tM,Zj,List.flatMap_cons,List.flatMap_nil,aFd,List.append_assoc,List.append_nil]
 have r2:tM pk [2]=(ej++([32]++bZ (pV (pk 2).size)++[32]++bZ (pk 2)++[32]))++[50]++[10]:=by simp only[tM,Zj,List.flatMap_cons,List.flatMap_nil,aFr,List.append_assoc,List.append_nil]
 intro v
 rcases h.cases with rfl|rfl|rfl|rfl|rfl<;>rcases h'.cases with rfl|rfl|rfl|rfl|rfl<;>simp only[List.flatMap_cons,List.flatMap_nil,List.length_append,List.length_nil] at e2<;>first
  | rfl
  | (exfalso;omega)
  | (exfalso;rw[r1,r2] at e1;exact key _ _ e1)
  | (exfalso;rw[r1,r2] at e1;exact key _ _ e1.symm)
  | (simp only[List.mem_cons,List.not_mem_nil,or_false];omega)
theorem ua{mv mv':List (Nat×Nat)}{k k':Nat}(h:VM pk mv k)(h':VM pk mv' k')(hq:q.Perm (mv.map Prod.fst))(hq':q'.Perm (mv'.map Prod.fst))(e:Ar (tM pk q)=Ar (tM pk q')):Eqv pk (mv.map Prod.fst) (mv'.map Prod.fst):=by refine Eqv.of (h.vs (List.Perm.refl _)).n (h'.vs (List.Perm.refl _)).n λ v=>?_;rw[<- hq.mem_iff,<- hq'.mem_iff];exact pj (h.vs hq) (h'.vs hq') e v
inductive oV(pk:Nat->ByteArray)(ls:List eE)(l:List gE)(cs:List (Nat×Nat)):Nat->List Nat->Prop where
 | done {S:Nat} {c:List Nat} (h:¬pZ cs.length S):oV pk ls l cs S c
 | step {S:Nat} {c:List Nat} (j:Nat) (a:Nat×Nat) (o:kA) (ha:cs[j]?=some a) (ho:Ki ls a=some o) (hS:S.testBit j=false) (hb:∀i,i<cs.length->tW l cs a i=true->S.testBit i=true) (hr:(B0 pk o c).1=(Ee l a).r) (h:oV pk ls l cs (S ||| 2^j) (B0 pk o c).2):oV pk ls l cs S c
theorem aDI(h:Eqv pk c c')(o:kA):(B0 pk o c).1=(B0 pk o c').1/\Eqv pk (B0 pk o c).2 (B0 pk o c').2:=by
 unfold B0;split
 ·refine⟨by rw[h o.key],λ key=>?_⟩;by_cases hk:pk o.val.toNat=key;·rw[E7 hk,E7 hk]
  ·rw[A2 hk,A2 hk];exact h key
 ·split;·exact⟨by rw[h o.key],h⟩
  ·exact⟨rfl,λ _=>rfl⟩
theorem oV.eqv(h:oV pk ls l cs S c):∀{c':List Nat},Eqv pk c c'->oV pk ls l cs S c':=by
 induction h with
 | done h=>exact λ _=>.done h
 | step j a o ha ho hS hb hr h ih=>intro c' he;obtain⟨e1,e2⟩:=aDI he o;exact .step j a o ha ho hS hb (e1.symm.trans hr) (ih e2)
theorem zy(hS:S<2^n):S &&& bB (λ _=>true) n=bB (λ _=>true) n↔¬pZ n S:=by
 constructor
 ·rintro e ⟨i,hi,h⟩;have h2:(S &&& bB (λ _=>true) n).testBit i=true:=by rw[e];exact M3 hi
  rw[Nat.testBit_and,h] at h2;cases h2
 ·intro h;refine Nat.eq_of_testBit_eq λ i=>?_;rw[Nat.testBit_and,Vd];by_cases hi:i<n
  ·cases hb:S.testBit i with
   | true=>rfl
   | false=>exact absurd ⟨i,hi,hb⟩ h
  ·simp[hi]
theorem Pm:∀{n:Nat},¬pZ n S->iD S n=n
 | 0,_=>rfl
 | n+1,h=>by
  have h1:iD S n=n:=Pm λ⟨i,hi,hb⟩=>h ⟨i,by omega,hb⟩
  have h2:S.testBit n=true:=by
   cases hb:S.testBit n with
   | true=>rfl
   | false=>exact absurd ⟨n,by omega,hb⟩ h
  simp only[iD,h1,h2,if_true]
theorem zL:∀{n:Nat},pZ n S->iD S n<n
 | 0,⟨i,hi,_⟩=>by omega
 | n+1,⟨i,hi,hb⟩=>by
  have h1:=Ck S n;simp only[iD];by_cases h:i=n;·subst h;rw[hb];simp;omega
  ·have:=zL (n:=n) ⟨i,by omega,hb⟩;split<;>omega
theorem aEw{j:Nat}(hS:S<2^n)(hj:j<n):S ||| 2^j<2^n:=Nat.or_lt_two_pow hS (Nat.pow_lt_pow_right (by decide) hj)
theorem aFu{j:Nat}(h:S.testBit j=false):S<S ||| 2^j:=by
 have h1:S<=S ||| 2^j:=Nat.left_le_or;rcases Nat.lt_or_eq_of_le h1 with h2|h2
 ·exact h2
 ·have h3:=qI S j j;rw[<- h2,h] at h3;simp at h3
end
end
end Go.Proofs.YthblobahelfefaaGreatDoor

/- The engine, part 5: bits, strings, pairs, slices that are made, copied and appended to. -/
import Derived.Test.YtadnboagdhcedaaGreatDoorFun
import Derived.Laws.StructEq
import Derived.Laws.Slices
import Derived.Deep.AppendSrc
import Derived.Laws.OwnMore
import Derived.Laws.CopyRow
import Derived.Great.BuildSlice
import Derived.Laws.Small
import Derived.Test.YtadnboagdhcedaaGreatDoorRows
import Derived.ProofKit

set_option linter.unusedSimpArgs false
set_option linter.unusedVariables false
namespace Go.Ct
section
open Go Go.RowKit
section
variable{P:Program}{n:Nat}{Q:Exit->Act->World->Prop}{ks:List CK}{S:List (Nat×Value)}{ops:Array Oper}{l:List Oper}
variable{w0:World}{M:List Nat}{H:List (Nat×Obj)}{G:World->Prop}
variable{d:Nat}{ty:TypeId}{pos:String}{af:Array Edge}{gd:Option (Nat×Bool)}{x y:Operand}{t t' e:TypeId}
def mJ(k:IntKind)(a b:Int):Int:=k.wrap ((BitVec.ofInt k.bits a &&& BitVec.ofInt k.bits b).toNat:Int)
def tx(k:IntKind)(a b:Int):Int:=k.wrap ((BitVec.ofInt k.bits a ||| BitVec.ofInt k.bits b).toNat:Int)
def iq(k:IntKind)(a b:Int):Int:=k.wrap ((BitVec.ofInt k.bits a ^^^ BitVec.ofInt k.bits b).toNat:Int)
def mX(k:IntKind)(a b:Int):Int:=a.fdiv (2^min b.toNat k.bits)
def V8(k:IntKind)(a b:Int):Int:=k.wrap (a*2^min b.toNat k.bits)
section
variable{k k':IntKind}{a b:Int}
theorem ln(hx:ev S x=.int k a)(hy:ev S y=.int k b):aJ P S G ⟨some d,.binOp .and t x y t',ty,pos,af,gd⟩ (.int k (mJ k a b)):=⟨λ w _=>by simp[execOp,hx,hy,eqGuard_at_int,binOp,Op.intBits,mJ]⟩
theorem yl(hx:ev S x=.int k a)(hy:ev S y=.int k b):aJ P S G ⟨some d,.binOp .or t x y t',ty,pos,af,gd⟩ (.int k (tx k a b)):=⟨λ w _=>by simp[execOp,hx,hy,eqGuard_at_int,binOp,Op.intBits,tx]⟩
theorem ue(hx:ev S x=.int k a)(hy:ev S y=.int k b):aJ P S G ⟨some d,.binOp .xor t x y t',ty,pos,af,gd⟩ (.int k (iq k a b)):=⟨λ w _=>by simp[execOp,hx,hy,eqGuard_at_int,binOp,Op.intBits,iq]⟩
theorem li(hx:ev S x=.int k a)(hy:ev S y=.int k' b)(h0:0<=b):aJ P S G ⟨some d,.binOp .shr t x y t',ty,pos,af,gd⟩ (.int k (mX k a b)):=⟨λ w _=>by
 have h:¬b<0:=by omega
 simp[execOp,hx,hy,eqGuard_at_int,binOp,Op.shift,mX,h]⟩
theorem wo(hx:ev S x=.int k a)(hy:ev S y=.int k' b)(h0:0<=b):aJ P S G ⟨some d,.binOp .shl t x y t',ty,pos,af,gd⟩ (.int k (V8 k a b)):=⟨λ w _=>by
 have h:¬b<0:=by omega
 simp[execOp,hx,hy,eqGuard_at_int,binOp,Op.shift,V8,h]⟩
theorem xc{a b:Int}(hx:ev S x=.int k a)(hy:ev S y=.int k b)(h0:b≠0):aJ P S G ⟨some d,.binOp .rem t x y t',ty,pos,af,gd⟩ (.int k (a.tmod b)):=⟨λ w _=>by
 simp[execOp,hx,hy,eqGuard_at_int,binOp,Op.intDiv,h0]⟩
end
def vC(P:Program)(t:TypeId)(k:IntKind):Bool:=match P.underlying t with|some (.int k')=>k'==k|_=>false
theorem Ap{k:IntKind}(h:vC P t k=true):P.underlying t=some (.int k):=by
 unfold vC at h
 cases hu:P.underlying t with
 | none=>rw[hu] at h;cases h
 | some dd=>rw[hu] at h;cases dd<;>simp at h;rw[h]
theorem yQ{k k' k2:IntKind}{a:Int}{s:TypeId}(hx:ev S x=.int k' a)(hs:vC P s k2=true)(ht:vC P t k=true):aJ P S G ⟨some d,.convert s t x,ty,pos,af,gd⟩ (.int k (k.wrap a)):=⟨λ w _=>by
 simp[execOp,hx,convert,run_underlying (Ap hs),run_underlying (Ap ht),Conv.intToInt]⟩
theorem gm{k' k2:IntKind}{a:Int}{s:TypeId}(hx:ev S x=.int k' a)(hs:vC P s k2=true)(ht:vC P t .i64=true)(h : -9223372036854775808<=a/\a<=9223372036854775807):aJ P S G ⟨some d,.convert s t x,ty,pos,af,gd⟩ (.int .i64 a):=by
 have:=yQ (P:=P) (G:=G) (d:=d) (ty:=ty) (pos:=pos) (af:=af) (gd:=gd) hx hs ht
 rwa [wrap_i64 h.1 h.2] at this
theorem Hg{k' k2:IntKind}{a:Int}{s:TypeId}(hx:ev S x=.int k' a)(hs:vC P s k2=true)(ht:vC P t .u64=true)(h:0<=a/\a<=18446744073709551615):aJ P S G ⟨some d,.convert s t x,ty,pos,af,gd⟩ (.int .u64 a):=by
 have:=yQ (P:=P) (G:=G) (d:=d) (ty:=ty) (pos:=pos) (af:=af) (gd:=gd) hx hs ht
 have e:IntKind.u64.wrap a=a:=by
  have h2:IntKind.u64.wrap a=a%18446744073709551616:=by simp[IntKind.wrap,IntKind.signed,IntKind.bits]
  omega
 rwa [e] at this
def cW(a b:ByteArray):Bool:=Op.bytesLess a.toList b.toList
theorem Zi{a b:ByteArray}(hx:ev S x=.string a)(hy:ev S y=.string b):aJ P S G ⟨some d,.binOp .lss t x y t',ty,pos,af,gd⟩ (.bool (cW a b)):=⟨λ w _=>by simp[execOp,hx,hy,eqGuard_at_string,binOp,Op.stringOp,cW]⟩
theorem Uz{a b:ByteArray}(hx:ev S x=.string a)(hy:ev S y=.string b):aJ P S G ⟨some d,.binOp .leq t x y t',ty,pos,af,gd⟩ (.bool (cW a b||decide (a=b))):=⟨λ w _=>by rw[<- H2];simp[execOp,hx,hy,eqGuard_at_string,binOp,Op.stringOp,cW]⟩
theorem Vh{a b:ByteArray}(hx:ev S x=.string a)(hy:ev S y=.string b):aJ P S G ⟨some d,.binOp .geq t x y t',ty,pos,af,gd⟩ (.bool (!cW a b)):=⟨λ w _=>by simp[execOp,hx,hy,eqGuard_at_string,binOp,Op.stringOp,cW]⟩
theorem Gn:∀a:List UInt8,Op.bytesLess a a=false
 | []=>rfl
 | x::a=>by simp[Op.bytesLess,Gn a]
theorem Ko:∀a b:List UInt8,Op.bytesLess a b=true->Op.bytesLess b a=false
 | [],[],h=>by simp[Op.bytesLess] at h
 | [],_::_,_=>rfl
 | _::_,[],h=>by simp[Op.bytesLess] at h
 | x::a,y::b,h=>by
  simp only[Op.bytesLess,Bool.or_eq_true,decide_eq_true_eq,Bool.and_eq_true,beq_iff_eq] at h
  simp only[Op.bytesLess,Bool.or_eq_false_iff,decide_eq_false_iff_not,Bool.and_eq_false_imp,beq_iff_eq]
  rcases h with h|⟨h,h2⟩
  ·exact⟨λ h'=>absurd h (UInt8.lt_asymm h'),λ e=>by subst e;exact absurd h (UInt8.lt_irrefl _)⟩
  ·subst h;exact⟨UInt8.lt_irrefl _,λ _=>Ko a b h2⟩
theorem Lr:∀a b:List UInt8,Op.bytesLess a b=false->Op.bytesLess b a=false->a=b
 | [],[],_,_=>rfl
 | [],_::_,h,_=>by simp[Op.bytesLess] at h
 | _::_,[],_,h=>by simp[Op.bytesLess] at h
 | x::a,y::b,h1,h2=>by
  simp only[Op.bytesLess,Bool.or_eq_false_iff,decide_eq_false_iff_not,Bool.and_eq_false_imp,beq_iff_eq] at h1 h2
  have e:x=y:=UInt8.le_antisymm (UInt8.not_lt.1 h2.1) (UInt8.not_lt.1 h1.1)
  subst e
  rw[Lr a b (h1.2 rfl) (h2.2 rfl)]
theorem K2:∀a b c:List UInt8,Op.bytesLess a b=true->Op.bytesLess b c=true->Op.bytesLess a c=true
 | [],[],_,h,_=>by simp[Op.bytesLess] at h
 | _,_::_,[],_,h=>by simp[Op.bytesLess] at h
 | [],_::_,_::_,_,_=>rfl
 | _::_,[],_,h,_=>by simp[Op.bytesLess] at h
 | x::a,y::b,z::c,h1,h2=>by
  simp only[Op.bytesLess,Bool.or_eq_true,decide_eq_true_eq,Bool.and_eq_true,beq_iff_eq] at h1 h2 ⊢
  rcases h1 with h1|⟨rfl,h1⟩<;>rcases h2 with h2|⟨rfl,h2⟩
  ·exact .inl (UInt8.lt_trans h1 h2)
  ·exact .inl h1
  ·exact .inl h2
  ·exact .inr ⟨rfl,K2 a b c h1 h2⟩
theorem xD(a:ByteArray):cW a a=false:=Gn _
theorem zW{a b:ByteArray}(h:cW a b=true):cW b a=false:=Ko _ _ h
theorem oN{a b:ByteArray}(h:cW a b=false)(h2:cW b a=false):a=b:=toList_inj (Lr _ _ h h2)
theorem jW{a b c:ByteArray}(h:cW a b=true)(h2:cW b c=true):cW a c=true:=K2 _ _ _ h h2
theorem vd{a b:ByteArray}(h:(cW a b||decide (a=b))=true):cW b a=false:=by
 simp only[Bool.or_eq_true,decide_eq_true_eq] at h
 rcases h with h|rfl
 ·exact zW h
 ·exact xD _
theorem tj{a b:ByteArray}(h:(cW a b||decide (a=b))=false):cW b a=true:=by
 simp only[Bool.or_eq_false_iff,decide_eq_false_iff_not] at h
 cases hb:cW b a with
 | true=>rfl
 | false=>exact absurd (oN h.1 hb) h.2
theorem ly{k:Nat}(hx:ev S x=.int .i64 ((k:Nat):Int))(hy:ev S y=.int .i64 1)(hk:1<=k)(hk2:k<=9223372036854775807) :
  aJ P S G ⟨some d,.binOp .sub t x y t',ty,pos,af,gd⟩ (.int .i64 ((k-1:Nat):Int)):=by
 have:=Ga (P:=P) (G:=G) (d:=d) (ty:=ty) (pos:=pos) (af:=af) (gd:=gd) (t:=t) (t':=t') hx hy
 rw[wrap_i64 (by omega) (by omega)] at this
 rw[show(((k-1:Nat):Int))=(k:Int)-1 by omega]
 exact this
theorem Ws{a b:Int}(hx:ev S x=.int .i64 a)(hy:ev S y=.int .i64 b)(h : -9223372036854775808<=a+b/\a+b<=9223372036854775807):aJ P S G ⟨some d,.binOp .add t x y t',ty,pos,af,gd⟩ (.int .i64 (a+b)):=by
 have:=vH (P:=P) (G:=G) (d:=d) (ty:=ty) (pos:=pos) (af:=af) (gd:=gd) (t:=t) (t':=t') hx hy
 rwa [wrap_i64 h.1 h.2] at this
theorem H9{a b:Int}(hx:ev S x=.int .i64 a)(hy:ev S y=.int .i64 b)(h : -9223372036854775808<=a-b/\a-b<=9223372036854775807):aJ P S G ⟨some d,.binOp .sub t x y t',ty,pos,af,gd⟩ (.int .i64 (a-b)):=by
 have:=Ga (P:=P) (G:=G) (d:=d) (ty:=ty) (pos:=pos) (af:=af) (gd:=gd) (t:=t) (t':=t') hx hy
 rwa [wrap_i64 h.1 h.2] at this
def H5(P:Program)(t:TypeId):Bool :=
 (match P.underlying t with
 | some (.struct fs)=>(match fs.toList with
  | [f,g]=>f.name != "_" && g.name != "_" && Nat.beq f.offset 0&&Nat.beq g.offset 1&&one P f.type&&one P g.type&&(match P.underlying f.type with|some .string=>true|_=>false)&&(match P.underlying g.type with|some (.int _)=>true|_=>false)
  | _=>false)
 | _=>false)&&!P.stoodInHeld t&&!P.eqGuardType P.depth t
theorem pZ{f:TypeId}(h:one P f=true){cs:Array Value}{off:Nat}{v:Value}(hv:cs[off]?=some v)(w:World):(part f cs off).run P w=.ok v w:=by
 simp[part,Bl h,hv]
theorem cg{a b:ByteArray}{u v:Int}{k:IntKind}(h:H5 P t=true)(w:World) :
  (Op.equalIn 10000 t (.agg ⟨[.string a,.int k u]⟩) (.agg ⟨[.string b,.int k v]⟩)).run P w=.ok (decide (a=b/\u=v)) w/\P.eqGuardType P.depth t=false:=by
 unfold H5 at h
 cases hu:P.underlying t with
 | none=>simp[hu] at h
 | some dd =>
  rw[hu] at h
  cases dd<;>simp only[Bool.false_and,Bool.false_eq_true] at h
  rename_i fs
  have hf:P.fieldsOf t=fs:=by simp[Program.fieldsOf,hu]
  cases hl:fs.toList with
  | nil=>simp[hl] at h
  | cons f r =>
   cases r with
   | nil=>simp[hl] at h
   | cons g r =>
    cases r with
    | cons _ _=>simp[hl] at h
    | nil =>
     simp only[hl,Bool.and_eq_true,bne_iff_ne,ne_eq,Bool.not_eq_true'] at h
     obtain⟨⟨⟨⟨⟨⟨⟨⟨⟨h1,h2⟩,h3⟩,h4⟩,h5⟩,h6⟩,h7⟩,h8⟩,h9⟩,h10⟩:=h
     replace h3:=dY h3
     replace h4:=dY h4
     refine⟨?_,h10⟩
     have hsf:P.underlying f.type=some .string:=by
      cases hq:P.underlying f.type with
      | none=>simp[hq] at h7
      | some z=>rw[hq] at h7;cases z<;>simp at h7;rfl
     obtain⟨k',hsg⟩:∃k',P.underlying g.type=some (.int k'):=by
      cases hq:P.underlying g.type with
      | none=>simp[hq] at h8
      | some z=>rw[hq] at h8;cases z<;>simp at h8;exact⟨_,rfl⟩
     rw[run_equalIn_agg w 9999 t _ _ (by rw[hf];exact hu) h9,hf,hl]
     have p1:∀(s:ByteArray) (z:Int) (w:World),(part f.type ⟨[.string s,.int k z]⟩ f.offset).run P w=.ok (.string s) w:=λ s z w=>by rw[h3];exact pZ h5 rfl w
     have p2:∀(s:ByteArray) (z:Int) (w:World),(part g.type ⟨[.string s,.int k z]⟩ g.offset).run P w=.ok (.int k z) w:=λ s z w=>by rw[h4];exact pZ h6 rfl w
     have q1:∀w:World,(Op.equalIn 9999 f.type (.string a) (.string b)).run P w=.ok (a.toList==b.toList) w:=λ w=>run_equalIn_string w 9998 f.type a b hsf
     have q2:∀w:World,(Op.equalIn 9999 g.type (.int k u) (.int k v)).run P w=.ok (u==v) w:=λ w=>run_equalIn_int w 9998 g.type k k' u v hsg
     simp only[Op.eqFields,h1,h2,ne_eq,not_false_eq_true,if_true,Sem.run_bind,p1,p2,q1,q2,Result.andThen_ok,Sem.run_ite,Sem.run_pure]
     by_cases hab:a=b
     ·subst hab
      by_cases huv:u=v
      ·subst huv;simp
      ·simp[huv]
     ·have:(a.toList==b.toList)=false:=by rw[H2];simp[hab]
      simp[this,hab]
theorem iv{a b:ByteArray}{u v:Int}{k:IntKind}(hx:ev S x=.agg ⟨[.string a,.int k u]⟩)(hy:ev S y=.agg ⟨[.string b,.int k v]⟩)(ht:H5 P t=true) :
  aJ P S G ⟨some d,.binOp .neq t x y t',ty,pos,af,gd⟩ (.bool (!decide (a=b/\u=v))):=⟨λ w _=>by
 have h:=cg (a:=a) (b:=b) (u:=u) (v:=v) (k:=k) ht w
 simp[execOp,hx,hy,run_eqGuard_agg w _ t _ _ _ _ h.2,run_neq_struct,h.1]⟩
theorem ku{a b:ByteArray}(hx:ev S x=.string a)(hy:ev S y=.string b):aJ P S G ⟨some d,.binOp .eql t x y t',ty,pos,af,gd⟩ (.bool (decide (a=b))):=by rw[<- H2];exact Di hx hy
theorem vz{a b:ByteArray}(hx:ev S x=.string a)(hy:ev S y=.string b):aJ P S G ⟨some d,.binOp .neq t x y t',ty,pos,af,gd⟩ (.bool (!decide (a=b))):=by rw[<- rp];exact Cs hx hy
theorem Oi{p:Prop} [Decidable p] (h:(!decide p)=true):¬p:=of_decide_eq_false (by revert h;cases decide p<;>simp)
theorem M6{p:Prop} [Decidable p] (h:(!decide p)=false):p:=of_decide_eq_true (by revert h;cases decide p<;>simp)
theorem Vu{b:Bool}(h:(!b)=true):b=false:=by simpa using h
theorem Wr{b:Bool}(h:(!b)=false):b=true:=by simpa using h
def made(zc:List Value)(k:Nat):List Value:=(madeCells ⟨zc⟩ (k*zc.length)).toList
theorem iL(zc:List Value)(k:Nat):(made zc k).length=k*zc.length:=by simp[made,size_madeCells]
structure dR(P:Program)(t e:TypeId)(zc:List Value):Prop where
 sl:P.underlying t=some (.slice e)
 z:∃i z,P.info? e=some i/\i.zero=some z/\z.cells=⟨zc⟩/\i.size=zc.length/\i.bytes<=256
theorem Ht(w:World)(dT sT ty elem:TypeId)(g o dLen dCap:Nat)(a:Addr)(sLen sCap:Nat)(Yq:Array Value)(t:TypeId)(cs:List Value)(s:Nat)
  (hu:P.underlying dT=some (.slice elem)) (hs:(P.info? elem).map (·.size)=some s)
  (hg:w.heap[g]?=some (.cells Yq t (0,0))) (hn:cs.length=Nat.min sLen dLen*s)
  (hsrc:∀j v,cs[j]?=some v->w.cell? (a.add j)=some v) (hfit:o+cs.length<=Yq.size) (h1:∀v∈cs,v.oneCell'=true) :
  (Builtin.copy_ #[dT,sT] ty #[.slice (some ⟨g,o,none⟩) dLen dCap,.slice (some a) sLen sCap]).run P w =
   .ok (goInt (Nat.min sLen dLen)) (w.setRow g (Yq.toList.take o++cs++Yq.toList.drop (o+cs.length)).toArray):=by
 have hl:=run_loadCells_list (P:=P) w a cs hsrc
 have hst:=run_storeCells_at P g o t cs 0 Yq w hg (by simpa using hfit) h1
 cases hq:P.info? elem with
 | none=>simp[hq] at hs
 | some i =>
  have hi:i.size=s:=by simpa[hq] using hs
  simp[Builtin.copy_,run_underlying hu,Builtin.lenOf,Builtin.firstCells,sizeOf,typeInfo,hq,hi,<- hn,hl,hst]
theorem Cl.cells{w:World}{a:Option Addr}{cs:List Value}(h:Cl w a cs):∀j v,cs[j]?=some v->w.cell? ((⟨dC a,fB a,none⟩:Addr).add j)=some v:=λ j v hj=>by
 rw[Addr.add_lit];exact(h.at_ j v hj).2
def Cv:List (Nat×Value)->List Value
 | []=>[]
 | (_,v)::r=>mK v++Cv r
theorem Ku:∀r:List (Nat×Value),(r.map Prod.snd).flatMap (λ v=>v.cells.toList)=Cv r
 | []=>rfl
 | (_,v)::r=>by simp[Cv,yK,<- Ku r]
theorem F5:∀(r:List (Nat×Value)) (k:Nat),r.map Prod.fst=List.range' k r.length->((r.map Prod.snd).zipIdx k).map (λ x=>(x.2,x.1))=r
 | [],_,_=>rfl
 | (i,v)::r,k,h=>by
  simp only[List.map_cons,List.length_cons,List.range'_succ,List.cons.injEq] at h
  simp only[List.map_cons,List.zipIdx_cons,F5 r (k+1) h.2,h.1]
theorem cS{len:Nat}{parts:List (Nat×Operand)}{ps:List (Nat×Value)}{zc cs:List Value}(he:dR P t e zc)(hv:iQ S parts=ps)(hlen:ps.length=len)(hidx:ps.map Prod.fst=List.range' 0 ps.length)(h1:(ps.all λ p=>Nat.beq (mK p.2).length zc.length)=true)
  (hpos:(Nat.blt 0 len&&Nat.blt 0 zc.length&&Nat.ble (len*zc.length) 16777216)=true) (hcs:Cv ps=cs) :
  bH P S (St w0 M H) ⟨some d,.buildSlice t len ⟨parts⟩,ty,pos,af,gd⟩ Nat (λ b=>.slice (some ⟨b,0,none⟩) len len) (λ b=>St w0 M ((b,.cells ⟨cs⟩ e (0,0))::H)) :=
 jS λ w hw=>by
  subst hcs hlen
  obtain⟨i,z,hi,hz,hzc,hs,hb⟩:=he.z
  simp only[Bool.and_eq_true] at hpos
  obtain⟨⟨p1,p2⟩,p3⟩:=hpos
  replace p1:=Nat.le_of_ble_eq_true p1
  replace p2:=Nat.le_of_ble_eq_true p2
  replace p3:=Nat.le_of_ble_eq_true p3
  have p4:0<ps.length*zc.length:=Nat.mul_pos p1 p2
  have e1:(Array.map (λ x=>match x with|(i,x)=>(i,ev S x)) (⟨parts⟩:Array (Nat×Operand))).toList=ps:=by rw[<- hv,qW];simp
  have hf:=Great.fill_whole (s:=zc.length) p2 (ps.map Prod.snd) ((Array.range (ps.length*i.size)).map (z.cells[· % z.cells.size]!)) (λ v hv=>by
   obtain⟨p,hp,rfl⟩:=List.mem_map.1 hv
   have:=dY (List.all_eq_true.1 h1 p hp)
   rw[<- this,<- yK];rfl) (by simp[hs])
  rw[F5 ps 0 hidx,Ku] at hf
  have hr:=run_buildSlice (P:=P) w t e ps.length (Array.map (λ x=>match x with|(i,x)=>(i,ev S x)) ⟨parts⟩) ⟨Cv ps⟩ i z he.sl hi hz (by rw[hs];omega) (by rw[hs];omega) (by rw[e1,hs];rw[hs] at hf;exact hf)
  refine⟨w.heap.size,_,?_,hw.alloc _⟩
  simp only[execOp,Sem.run_bind,hr,Result.andThen_ok,Sem.run_pure]
theorem zE{w:World}(h:St w0 M H w):St w (H.map Prod.fst) H w :=
 ⟨rfl,rfl,rfl,Nat.le_refl _,λ _ _ _=>rfl,h.has,λ p hp=>.inl (List.mem_map.2 ⟨p,hp,rfl⟩),h.nodup⟩
theorem gS(l:List Int):(aG l).length=l.length:=by simp[aG]
theorem oM{a:Option Addr}{cs:List Value}{q:Nat}{v:Value}(hx:ev S x=.pointer (some ⟨dC a,fB a+q,none⟩))(ht:one P t=true)(hcl:∀w,G w->Cl w a cs)(hq:cs[q]?=some v) :
  aJ P S G ⟨some d,.load t x,ty,pos,af,gd⟩ v:=⟨λ w hw=>by
 have hc:=((hcl w hw).at_ q v hq).2
 simp[execOp,hx,Instr.loadAt,Instr.sureAddr,loadVar,Bl ht,hc]⟩
theorem lF:∀(a b:List Pr),cZ (a++b)=cZ a++cZ b
 | [],_=>rfl
 | _::a,b=>by simp[cZ,lF a b]
theorem pY:∀l:List Pr,(cZ l).all (·.oneCell')=true
 | []=>rfl
 | _::l=>by simpa[cZ,Value.oneCell'] using pY l
theorem sM(l:List Int):(aG l).all (·.oneCell')=true:=by simp[aG,Value.oneCell']
end
end

/- From the walk of a law to its row: one lemma for all laws. -/
section
open Go Go.RowKit Go.ChangeShapes Go.WideShapes Go.ChangeAt
theorem vI{P:Program}{H:Type}{enc:TypeId×Value->H}{W W':World}(hl:laidOutB P=true)(hb:Below W.heap.size W W'):∀{ts:List TypeId} {vs:List Value} {ds:List (DataW H)} {ps:List MemPlace},
  (ts.all λ t=>P.readableRec t&&Nat.blt t P.types.size)=true->DataW.TrodAll enc P W 0 (λ _=>true) true ts vs ds ps->(∀p∈ps,p.block<W.heap.size) ->
  DataW.TrodAll enc P W' 0 (λ b=>decide (b<W.heap.size)) true ts vs ds ps
 | [],_,_,_,_,h,_=>by
  obtain⟨rfl,rfl,rfl⟩:=trodAll_nil h
  exact rfl
 | t::ts,_,_,_,ht,h,hs=>by
  obtain⟨v,vs,d,ds,a,b,rfl,rfl,rfl,h1,h2⟩:=trodAll_cons h
  simp only[List.all_cons,Bool.and_eq_true] at ht
  exact⟨a,b,Below.trod hl ht.1.1 (Nat.le_of_ble_eq_true ht.1.2) h1 hb λ x hx=>hs x (List.mem_append_left _ hx),vI hl hb ht.2 h2 λ x hx=>hs x (List.mem_append_right _ hx),rfl⟩
structure oj{H:Type}(enc:TypeId×Value->H)(P:Program)(fn:Func)(W:World)(args:List Value)(ds:List (DataW H)):Prop where
 val:∃base,∀(j:Nat) t v,fn.params.toList[j]?=some t->args[j]?=some v->Value.okWide P W .any base t v
 trod:∃p,DataW.TrodAll enc P W 0 (λ _=>true) true fn.params.toList args ds p/\∀x∈p,x.block<W.heap.size
 wt:∀k∈DataW.weightsEach P fn.params.toList ds,k<=reachBytes
theorem Vf{P:Program}{H:Type}{enc:TypeId×Value->H}{fn:Func}{s:ChangeSpec}{W W':World}{args:Array Value}{ds gs:List (DataW H)}{before:List MemPlace}{tb:TypeId}
  (hl:laidOutB P=true) (hrd:(fn.params.toList.all λ t=>P.readableRec t&&Nat.blt t P.types.size)=true) (hrt:fn.resultTypes = #[tb]) (hb:P.underlying tb=some .bool)
  (hv:s.vars=[]) (hs:(s.fn H ds).results=[.lit (.bool true)]/\(s.fn H ds).args=ds/\(s.fn H ds).vars=[])
  (hW:DataW.Whole enc P fn.params.toList s.vars false W args.toList ds gs before) (hst:St W [] [] W'):s.post enc P fn false true false false W args (.bool true) W':=by
 have hlt:=λ x hx=>hW.lt x hx
 have hW':=hW
 obtain⟨p,q,hA,hV,rfl,_,_⟩:=hW
 rw[hv] at hV
 obtain⟨rfl,rfl⟩:=trodVars_none hV
 refine⟨ds,[],p++[],[],p,[],hW',?_,?_,?_,hst.below.frame _,λ h=>nomatch h⟩
 ·rw[List.append_nil,hs.1,hrt]
  exact trodAll_mk1 (shut_bool hb _)
 ·rw[List.append_nil,hs.2.1]
  exact vI hl hst.below hrd hA λ x hx=>hlt x (by simpa using hx)
 ·rw[List.append_nil,hs.2.2,hv]
  exact rfl
end
end Go.Ct
namespace Go.Proofs.YtadnboagdhcedaaGreatDoor
section
open Go.RowKit Go.Ct
theorem zt:ownKnob Tryz.prog.godebug=none:=by kernel_rfl
theorem ul:laidOutB Tryz.prog=true:=by kernel_rfl
theorem tv:Tryz.prog.underlying 4=some .bool:=by kernel_rfl
end

/- Plain data: nodes, and what the functions on them compute. No program is in sight. -/
end Go.Proofs.YtadnboagdhcedaaGreatDoor
namespace Go.Ct
section
open Go Go.RowKit
structure Nd where
 kind:Int
 gen:Int
 main:Int
 bm:Int
 brA:Option Addr
 brN:Nat
 brC:Nat
 hash:Int
 key:ByteArray
 val:Int
 prA:Option Addr
 prN:Nat
 cZ:Nat
 prev:Int
 bL:Int
 exp:Int
 new:Int
 status:Int
def Nd.cells(n:Nd):List Value:=[.int .i64 n.kind,.int .i64 n.gen,.int .i64 n.main,.int .u64 n.bm,.slice n.brA n.brN n.brC,.int .u64 n.hash,.string n.key,.int .u64 n.val,.slice n.prA n.prN n.cZ,.int .i64 n.prev,.int .i64 n.bL,.int .i64 n.exp,.int .i64 n.new,.int .i64 n.status]
def Nd.v(n:Nd):Value:=.agg ⟨n.cells⟩
def Nd.zero:Nd:=⟨0,0,0,0,none,0,0,0,⟨#[]⟩,0,none,0,0,0,0,0,0,0⟩
def Nd.own(n:Nd):Nd :=
 if n.kind==2 then{Nd.zero with kind:=n.kind,gen:=n.gen,main:=n.main}
 else if n.kind==3 then{Nd.zero with kind:=n.kind,bm:=n.bm,brA:=n.brA,brN:=n.brN,brC:=n.brC,prev:=n.prev}
 else if n.kind==5 then{Nd.zero with kind:=n.kind,prev:=n.prev,hash:=n.hash,key:=n.key,val:=n.val}
 else if n.kind==4 then{Nd.zero with kind:=n.kind,hash:=n.hash,key:=n.key,val:=n.val}
 else if n.kind==6 then{Nd.zero with kind:=n.kind,hash:=n.hash,prA:=n.prA,prN:=n.prN,cZ:=n.cZ,prev:=n.prev}
 else if n.kind==8 then{Nd.zero with kind:=n.kind,exp:=n.exp,new:=n.new,status:=n.status,bL:=n.bL}
 else if n.kind==7 then{Nd.zero with kind:=n.kind,bL:=n.bL}
 else{Nd.zero with kind:=n.kind}
structure pT(w:World)(n:Nd)(xs:List Int)(ys:List Pr):Prop where
 brN:n.brN=xs.length
 prN:n.prN=ys.length
 br:Cl w n.brA (aG xs)
 pr:Cl w n.prA (cZ ys)
 brS:xs.length<4611686018427387904
 prS:ys.length<4611686018427387904
def oU(a b:Nd)(x1 x2:List Int)(y1 y2:List Pr):Prop :=
 a.kind=b.kind/\a.gen=b.gen/\a.main=b.main/\a.bm=b.bm/\x1=x2/\a.hash=b.hash/\a.key=b.key/\a.val=b.val/\y1=y2/\a.prev=b.prev/\a.bL=b.bL/\a.exp=b.exp/\a.new=b.new/\a.status=b.status
def Nd.fI(n:Nd)(xs:List Int):List Int:=if n.kind==3 then xs else []
def Nd.eZ(n:Nd)(ys:List Pr):List Pr:=if n.kind==6 then ys else []
theorem pT.own{w:World}{n:Nd}{xs:List Int}{ys:List Pr}(h:pT w n xs ys):pT w n.own (n.fI xs) (n.eZ ys):=by
 have z:(0:Nat)<4611686018427387904:=by decide
 by_cases h3:n.kind=3
 ·have e1:n.fI xs=xs:=by simp[Nd.fI,h3]
  have e2:n.eZ ys=[]:=by simp[Nd.eZ,h3]
  have e3:n.own={Nd.zero with kind:=n.kind,bm:=n.bm,brA:=n.brA,brN:=n.brN,brC:=n.brC,prev:=n.prev}:=by simp[Nd.own,h3]
  rw[e1,e2,e3]
  exact⟨h.brN,rfl,h.br,Cl.nil _ _,h.brS,z⟩
 ·have e1:n.fI xs=[]:=by simp[Nd.fI,h3]
  by_cases h6:n.kind=6
  ·have e2:n.eZ ys=ys:=by simp[Nd.eZ,h6]
   have e3:n.own={Nd.zero with kind:=n.kind,hash:=n.hash,prA:=n.prA,prN:=n.prN,cZ:=n.cZ,prev:=n.prev}:=by simp[Nd.own,h6]
   rw[e1,e2,e3]
   exact⟨rfl,h.prN,Cl.nil _ _,h.pr,z,h.prS⟩
  ·have e2:n.eZ ys=[]:=by simp[Nd.eZ,h6]
   rw[e1,e2]
   unfold Nd.own
   have h3':(n.kind==3)=false:=by simpa using h3
   have h6':(n.kind==6)=false:=by simpa using h6
   rw[h3',h6']
   simp only[Bool.false_eq_true,if_false]
   repeat' split
   all_goals exact⟨rfl,rfl,Cl.nil _ _,Cl.nil _ _,z,z⟩
theorem pT.eW{w0 w:World}{H:List (Nat×Obj)}{n:Nd}{xs:List Int}{ys:List Pr}(h:pT w0 n xs ys)(hw:St w0 [] H w):pT w n xs ys:=⟨h.brN,h.prN,h.br.eW hw,h.pr.eW hw,h.brS,h.prS⟩
def vE(x0:Int):Int :=
 let x1:=IntKind.u64.wrap (mJ .u64 (mX .u64 x0 1) 6148914691236517205+mJ .u64 x0 6148914691236517205)
 let x2:=IntKind.u64.wrap (mJ .u64 (mX .u64 x1 2) 3689348814741910323+mJ .u64 x1 3689348814741910323)
 let x3:=mJ .u64 (IntKind.u64.wrap (mX .u64 x2 4+x2)) 1085102592571150095
 let x4:=IntKind.u64.wrap (x3+mX .u64 x3 8)
 let x5:=IntKind.u64.wrap (x4+mX .u64 x4 16)
 let x6:=IntKind.u64.wrap (x5+mX .u64 x5 32)
 mJ .i64 (IntKind.i64.wrap x6) 127
def Aj(l:List Pr):Prop:=∀i,i<l.length->(l.getD i (⟨#[]⟩,0)).1.size<=64
def ir(l:List Pr):Prop:=∀i,1<=i->i<l.length->cW (l.getD (i-1) (⟨#[]⟩,0)).1 (l.getD i (⟨#[]⟩,0)).1=true
def Pos(l:List Int):Prop:=∀i,i<l.length->1<=l.getD i 0
def bY(n:Nd)(xs:List Int)(ys:List Pr):Prop :=
 oU n n.own xs (n.fI xs) ys (n.eZ ys)/\0<=n.main/\0<=n.prev/\0<=n.status /\
 (n.kind=1∨(n.kind=2/\1<=n.gen)∨(n.kind=3/\(xs.length:Int)=vE n.bm/\Pos xs)∨((n.kind=4∨n.kind=5)/\n.key.size<=64)∨(n.kind=6/\2<=ys.length/\ir ys/\Aj ys) ∨
  (n.kind=8/\1<=n.exp/\1<=n.new/\1<=n.bL)∨(n.kind=7/\1<=n.bL))
end

end Go.Ct

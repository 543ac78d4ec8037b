/- gcas: Read, Swap. -/
import Derived.Test.YtbajmaoegmbfgaaGreatGGc2
import Derived.Test.YtbajmaoegmbfgaaGreatGVw1
import Derived.Test.YtbajmaoegmbfgaaGreatGDfr
import Derived.Test.YtbajmaoegmbfgaaGreatGTp2
import Derived.Test.YtbajmaoegmbfgaaGreatGPa1

set_option linter.unusedSimpArgs false
set_option linter.unusedVariables false
namespace Go.Proofs.YtbajmaoegmbfgaaGreat
section
open Go Go.RowKit Go.Ct
section
variable{D:List Nat}{A B:Fr}{a:AS}{b:Nat}{w:World}{f:FuncId}{cap:List Value}{t:fL}
theorem bl{K:Int->Tr}{i m:Int}{s:Mm}{bt bo bi:Nat}(ht:t.root<=9223372036854775807)(hK:zS b K s f cap B)(hi:i<=s.nodes.length)(hmm:m<=s.nodes.length):qL b 131 [pt bo,pt bi,pt bt] [.int .i64 m] (bx bo (lT b t)::bx bi [iv i]::bx bt [fn f cap]::B) s (nM t i m K):=by
 intro a D A w em ok hm hA hB hw0
 subst em
 have hK2:=hK.more (B2:=(bx bo (lT b t)::bx bi [iv i]::bx bt [fn f cap]::B)) (λ x hx=>by simp[hx])
 refine enter Tryz.func131 Tryz.ntmps131 rfl rfl hw0 ?_
 simp only[bY]
 refine J0 ?_;refine aI (λ x5=>?_);refine aH ?_;refine J0 ?_;refine aB (Rf bo (lT b t) 0 3 hB rfl rfl) rfl ?_;refine aB (kY bi [.int .i64 i] 0 hB rfl) rfl ?_;refine aA ?_;refine aB (kY bt [fn f cap] 0 hB rfl) rfl ?_;refine aC (zI (λ w1 hw=>Ye ht hK2 hi hmm ok hm hA hB hw)) (λ x10 h10=>?_);refine bS (fS λ _=>aS rf cL rf (bX _) dJ rf hJ) (λ _=>?_);refine aH ?_
 refine bD Tryz.results131 (λ w hw=>?_)
 exact⟨x10,rfl,h10,hw.rN⟩
theorem Wi{K:Int->Tr}{i:Int}(ht:t.root<=9223372036854775807)(hK:zS b K a.mm f cap B)(hi:i<=a.mm.nodes.length)(ok:a.Ok)(hm:a.mm.Small)(hA:∀f∈aM a.L,f∈A)(hB:∀x∈B,x∈A)(hs:SF w D [(b,eX a)] A [] (fU a) w) :
  Calls Tryz.prog 88 #[.agg ⟨lT b t⟩,.int .i64 i,fn f cap] w (zK b (λ c' s' B'=>jB b (jE t i K) a.mm c' s' B') a B D w):=by
 have ni:=Ay ok i
 refine enter Tryz.func88 Tryz.ntmps88 rfl rfl hs ?_
 simp only[bY]
 refine J0 ?_;refine bO (λ x3=>?_);refine bO (λ x4=>?_);refine bO (λ x5=>?_);refine aI (λ x6=>?_);refine aH ?_;refine gZ ?_;refine bR ?_;refine aC (B9 i ok hm hA hi) (λ x10 h10=>?_);refine cY ?_;(refine aB (cA (by(repeat (first|exact cD _|(apply bU;focus ((conv=>{lhs;whnf});try exact rfl))));done)) rfl ?_);refine aR (cV (hc:=λ w1 hw=>nG _ _ _ w1)) (λ x13=>?_);refine bS (fS λ _=>aS rf cL rf (bX _) dJ rf hJ) (λ _=>?_);refine aH ?_
 refine bD Tryz.results88 (λ w hw=>?_)
 refine⟨(mY (aD (cB a.L) i).nd.main _ _,[bx x3 (lT b t),bx x4 [iv i],bx x5 [fn f cap]],a),rfl,⟨⟨hi,?_⟩,ok,(AS.hU.refl a).more (λ _ h=>(List.not_mem_nil h).elim)⟩,?_⟩
 ·rw[fW]
  exact⟨rfl,nK hm ni.main,_,_,rfl,by kernel_rfl,λ m s1 l hmm=>bl (bo:=x3) (bi:=x4) (bt:=x5) ht (hK.le l) (by have:=l.len;omega) hmm⟩
 ·exact(((hw.cW (.tail .head)).cW (.tail .head)).cW (.tail .head)).rI
end
end

/- Hash values of keys. -/
end Go.Proofs.YtbajmaoegmbfgaaGreat
namespace Go.Ct
section
open Go Go.RowKit
def byt(s:ByteArray)(i:Nat):Nat:=(s.data.getD i 0).toNat
theorem Kz(s:ByteArray)(i:Nat):byt s i<256:=(s.data.getD i 0).toNat_lt
def hsN(s:ByteArray):Nat->Nat
 | 0=>14695981039346656037
 | i+1=>((hsN s i ^^^ byt s i)*1099511628211)%18446744073709551616
theorem Hu(s:ByteArray):∀i,hsN s i<18446744073709551616
 | 0=>by show 14695981039346656037<18446744073709551616;decide
 | _+1=>Nat.mod_lt _ (by decide)
def jV(s:ByteArray)(m:Nat):Nat:=hsN s s.size &&& m
theorem oE(s:ByteArray)(m:Nat):jV s m<18446744073709551616:=Nat.lt_of_le_of_lt Nat.and_le_left (Hu s _)
section
variable{P:Program}{S:List (Nat×Value)}{G:World->Prop}{d:Nat}{ty t t':TypeId}{pos:String}{af:Array Edge}{gd:Option (Nat×Bool)}{x y:Operand}{a b i:Nat}{s:ByteArray}
theorem ik(hx:ev S x=.string s)(hy:ev S y=.int .i64 (i:Int))(ht:P.underlying t=some .string)(h:i<s.size):aL P S G ⟨some d,.index t x y,ty,pos,af,gd⟩ (.int .u8 (byt s i:Int)):=⟨λ w _=>by
 have e:(s[((i:Nat):Int).toNat]'(by simpa using h)).toNat=byt s i:=by
  unfold byt
  rw[Array.getD_eq_getD_getElem?,Array.getElem?_eq_getElem (by simpa using h)]
  rfl
 simp only[execOp,hx,hy,Sem.run_bind]
 rw[run_index_string w t s .i64 i ht,dif_pos ⟨bH _,by omega⟩,e]
 rfl⟩
theorem ld(hx:ev S x=.int .u64 (a:Int))(hy:ev S y=.int .u64 (b:Int))(ha:a<18446744073709551616)(hb:b<18446744073709551616):aL P S G ⟨some d,.binOp .xor t x y t',ty,pos,af,gd⟩ (.int .u64 ((a ^^^ b:Nat):Int)):=by
 have:=aBn (P:=P) (G:=G) (d:=d) (ty:=ty) (pos:=pos) (af:=af) (gd:=gd) (t:=t) (t':=t') hx hy
 rwa [bj ha hb] at this
theorem aa(hx:ev S x=.int .u64 (a:Int))(hy:ev S y=.int .u64 (b:Int)):aL P S G ⟨some d,.binOp .mul t x y t',ty,pos,af,gd⟩ (.int .u64 ((a*b%18446744073709551616:Nat):Int)):=by
 have:=ul (P:=P) (G:=G) (d:=d) (ty:=ty) (pos:=pos) (af:=af) (gd:=gd) (t:=t) (t':=t') hx hy
 have e:IntKind.u64.wrap ((a:Int)*(b:Int))=((a*b%18446744073709551616:Nat):Int):=by
  rw[<- Int.natCast_mul,wrap_u64]
  generalize a*b=q
  omega
 rwa [e] at this
end
end
end Go.Ct
namespace Go.Proofs.YtbajmaoegmbfgaaGreat
section
open Go Go.RowKit Go.Ct
theorem Yi(key:ByteArray){m:Nat}(hm:m<18446744073709551616)(hk:key.size<=4611686018427387903)(w:World):Calls Tryz.prog 222 #[.string key,.int .u64 (m:Int)] w λ e w'=>e=.returned (.int .u64 ((jV key m:Nat):Int))/\St w [] [] w':=by
 refine enter Tryz.func222 Tryz.ntmps222 rfl rfl (SF.s0 w) ?_
 simp only[bY]
 refine cR ?_;refine Is ?_;refine Fs ?_
 refine fF [5,6,7,8,9,10,11,12,13,14,15,16,17,18,19] (λ y:Nat=>[(6,.int .i64 ((y:Nat):Int)),(5,.int .u64 ((hsN key y:Nat):Int))]) (λ y=>y<=key.size) (λ y=>key.size-y) (0) (Nat.zero_le _) ?_ (λ y f hx=>?_)
 ·repeat (first|exact bG _|refine bA (by exact rfl) ?_)
 dsimp only[gR,List.map,List.cons_append,List.nil_append]
 refine Df ?_;refine jX ?_;refine vX ?_
 refine bE (λ c10=>?_) (λ c10=>?_)
 ·refine qI ?_;refine xZ ?_;refine pY ?_;refine aR (fH (ik (s:=key) (i:=y) rf rf (by kernel_rfl) (by omega))) (λ x16=>?_);refine aB (Ls (k2:=.u8) rf (by kernel_rfl) (by exact sJ rfl) ⟨bH _,by have:=Kz key y;omega⟩) rfl ?_;refine aB (ld rf rf (Hu _ _) (by have:=Kz key y;omega)) rfl ?_;refine aB (aa rf rf) rfl ?_;refine J1 ?_;refine eP ?_;refine yH ?_
  refine dY (y+1) ?_ ?_ ?_
  ·omega
  ·repeat' (first|exact bG _|refine bA ?_ ?_)
   all_goals (exact rfl)
  ·omega
 ·refine bM rfl ?_;refine iO ?_;refine aB (Sb rf rf (Hu _ _) hm) rfl ?_;refine J1 ?_
  refine aT Tryz.results222 (λ w hw=>?_)
  have hy:y=key.size:=by omega
  subst hy
  exact⟨rfl,hw.done⟩
theorem nJ(key:ByteArray)(w:World):Calls Tryz.prog 208 #[.string key] w λ e w'=>e=.returned (.bool (decide (key.size<=64)))/\St w [] [] w':=by
 refine enter Tryz.func208 Tryz.ntmps208 rfl rfl (SF.s0 w) ?_
 simp only[bY]
 refine cR ?_;refine J2 ?_;refine jX ?_;refine vN ?_;refine J1 ?_
 refine aT Tryz.results208 (λ w hw=>?_)
 exact⟨by rw[show decide (key.size<=64)=decide ((key.size:Int)<=64) from decide_eq_decide.2 (by omega)];rfl,hw.done⟩
theorem gK(f:Bool)(v:Int)(w:World):Calls Tryz.prog 223 #[.bool f,.int .u64 v] w λ e w'=>e=.returned (.agg ⟨(Rs.mk 0 f v ⟨#[]⟩ 0 0 0 false).cells⟩)/\St w [] [] w':=by
 refine enter Tryz.func223 Tryz.ntmps223 rfl rfl (SF.s0 w) ?_
 simp only[bY]
 refine J0 ?_;refine aI (λ x4=>?_);refine aH ?_;refine iO ?_;refine xS ?_
 refine bD Tryz.results223 (λ w hw=>?_)
 exact⟨rfl,hw.done⟩
end

/- find: hash values of keys, the codes at the end. -/
section
open Go Go.RowKit Go.Ct
theorem P1(key:ByteArray){m:Nat}(hm:m<18446744073709551616)(hk:key.size<=4611686018427387903)(w:World):Calls Tryz.prog 104 #[.string key,.int .u64 (m:Int)] w λ e w'=>e=.returned (.int .u64 ((jV key m:Nat):Int))/\St w [] [] w':=by
 refine enter Tryz.func104 Tryz.ntmps104 rfl rfl (SF.s0 w) ?_
 simp only[bY]
 refine cR ?_;refine cR ?_;refine kM ?_;refine jX ?_;refine Af ?_;refine cI ?_
 refine fF [5,6,9,10,11,12,13,14,15,16,17,18,19,20] (λ y:Nat=>[(9,.int .i64 ((y:Nat):Int)),(5,.int .u64 ((hsN key y:Nat):Int))]) (λ y=>y<=key.size) (λ y=>key.size-y) (0) (Nat.zero_le _) ?_ (λ y f hx=>?_)
 ·repeat (first|exact bG _|refine bA (by exact rfl) ?_)
 dsimp only[gR,List.map,List.cons_append,List.nil_append]
 refine J0 ?_;refine vX ?_;refine aV ?_
 refine bE (λ c10=>?_) (λ c10=>?_)
 ·refine qI ?_;refine J2 ?_;refine wJ ?_;refine aA ?_;refine aR (fH (ik (s:=key) (i:=y) rf rf (by kernel_rfl) (by omega))) (λ x15=>?_);refine aB (Ls (k2:=.u8) rf (by kernel_rfl) (by exact sJ rfl) ⟨bH _,by have:=Kz key y;omega⟩) rfl ?_;refine aB (ld rf rf (Hu _ _) (by have:=Kz key y;omega)) rfl ?_;refine J1 ?_;refine xZ ?_;refine aB (aa rf rf) rfl ?_;refine J1 ?_;refine eP ?_;refine Rt ?_;refine Af ?_
  refine dY (y+1) ?_ ?_ ?_
  ·omega
  ·repeat' (first|exact bG _|refine bA ?_ ?_)
   all_goals (exact rfl)
  ·omega
 ·refine bM rfl ?_;refine iO ?_;refine aB (Sb rf rf (Hu _ _) hm) rfl ?_;refine J1 ?_
  refine aT Tryz.results104 (λ w hw=>?_)
  have hy:y=key.size:=by omega
  subst hy
  exact⟨rfl,hw.done⟩
theorem X5(key:ByteArray)(w:World):Calls Tryz.prog 106 #[.string key] w λ e w'=>e=.returned (.bool (decide (key.size<=64)))/\St w [] [] w':=by
 refine enter Tryz.func106 Tryz.ntmps106 rfl rfl (SF.s0 w) ?_
 simp only[bY]
 refine cR ?_;refine J2 ?_;refine jX ?_;refine vN ?_;refine J1 ?_
 refine aT Tryz.results106 (λ w hw=>?_)
 exact⟨by rw[show decide (key.size<=64)=decide ((key.size:Int)<=64) from decide_eq_decide.2 (by omega)];rfl,hw.done⟩
theorem R8{h:Nat}(hh:h<18446744073709551616)(level:Int)(w:World):Calls Tryz.prog 150 #[.int .u64 (h:Int),.int .i64 level] w λ e w'=>e=.returned (.int .i64 (eO h level))/\St w [] [] w':=by
 by_cases hl:level<0∨10<level
 ·unfold eO
  rw[if_pos hl]
  refine enter Tryz.func150 Tryz.ntmps150 rfl rfl (SF.s0 w) ?_
  simp only[bY]
  refine cR ?_;refine kM ?_;refine Fv ?_
  (refine eM 7 (λ g7=>?_) (λ g7=>?_)<;>(first|refine aJ ?_|(refine aF ?_;refine aA ?_)))
  all_goals ((first|refine aJ ?_|(refine aF ?_;refine kR ?_));refine cH ?_;refine aH ?_)
  all_goals
  refine bE (λ c10=>?_) (λ c10=>?_)
  ·all_goals try (exfalso;omega)
   all_goals refine cR ?_
   all_goals
    refine aT Tryz.results150 (λ w hw=>?_)
    exact⟨rfl,hw.done⟩
  ·try exact nv c10
   all_goals try (exfalso;omega)
 ·obtain⟨l,rfl⟩:∃l:Nat,level=(l:Int):=⟨level.toNat,by omega⟩
  unfold eO
  rw[if_neg hl]
  exact Xb (l:=l) hh (by omega) w
theorem Gn(v:Int)(w:World):Calls Tryz.prog 154 #[.int .u64 v] w λ e w'=>e=.returned (.agg ⟨(gQ (dO true v)).cells⟩)/\St w [] [] w':=by
 refine enter Tryz.func154 Tryz.ntmps154 rfl rfl (SF.s0 w) ?_
 simp only[bY]
 refine J0 ?_;refine aI (λ x2=>?_);refine aH ?_;refine J2 ?_;refine bJ ?_;refine aR (cV (hc:=λ w1 hw=>Ly (dO true v) w1)) (λ x5=>?_);refine bS (fS λ _=>aS rf cL rf (bX _) dJ rf hJ) (λ _=>?_);refine aH ?_
 refine bD Tryz.results154 (λ w hw=>?_)
 exact⟨rfl,hw.done⟩
theorem wZ(w:World):Calls Tryz.prog 151 #[] w λ e w'=>e=.returned (.agg ⟨(gQ (dO false 0)).cells⟩)/\St w [] [] w':=by
 refine enter Tryz.func151 Tryz.ntmps151 rfl rfl (SF.s0 w) ?_
 simp only[bY]
 refine J0 ?_;refine aI (λ x0=>?_);refine aH ?_;refine J0 ?_;refine bJ ?_;refine aR (cV (hc:=λ w1 hw=>Ly (dO false 0) w1)) (λ x2=>?_);refine bS (fS λ _=>aS rf cL rf (bX _) dJ rf hJ) (λ _=>?_);refine aH ?_
 refine bD Tryz.results151 (λ w hw=>?_)
 exact⟨rfl,hw.done⟩
abbrev Im(b:Nat)(t:fL)(key:ByteArray)(h:Nat):List Value:=[.iface 42 (.pointer (some ⟨b,0,none⟩)),.int .i64 t.root,.bool t.ro,.string key,.int .u64 (h:Int)]
theorem Ug{v:aZ}{b bf h:Nat}{t:fL}{key:ByteArray}{w:World}(hf:Go.Ct.Cl w (some ⟨bf,0,none⟩) (Im b t key h)):Calls Tryz.prog 152 #[pt bf,.agg ⟨v.nd.cells⟩] w λ e w'=>e=.returned (.agg ⟨(gQ (if v.c.key=key then dO true v.c.val else dO false 0)).cells⟩)/\St w [] [] w':=by
 refine enter Tryz.func152 Tryz.ntmps152 rfl rfl (SF.s1 hf) ?_
 simp only[bY]
 refine J0 ?_;refine bO (λ x3=>?_);refine aI (λ x4=>?_);refine Oq ?_;refine aV ?_;refine gJ [0,1,2,3,4,5,6] ?_;refine lV ?_;refine J9 ?_;refine bT (i:=5) (hq:=(kY (B:=[bx bf (Im b t key h)]) bf (Im b t key h) 3 (λ x hx=>hx) rfl)) (h:=?_);refine kw ?_;refine eC ?_
 refine bE (λ c11=>?_) (λ c11=>?_)
 ·refine gZ ?_;refine aR (cV (hc:=λ w1 hw=>Gn _ w1)) (λ x14=>?_);refine bS (fS λ _=>aS rf cL rf (bX _) dJ rf hJ) (λ _=>?_);refine aH ?_
  refine bD Tryz.results152 (λ w hw=>?_)
  exact⟨by rw[if_pos (show v.c.key=key from(by simpa using c11:v.nd.key=key))];rfl,hw.done⟩
 ·refine bB ?_;refine J0 ?_;refine aR (cV (hc:=λ w1 hw=>wZ w1)) (λ x15=>?_);refine bS (fS λ _=>aS rf cL rf (bX _) dJ rf hJ) (λ _=>?_);refine aH ?_
  refine bD Tryz.results152 (λ w hw=>?_)
  exact⟨by rw[if_neg (show ¬v.c.key=key from(by simpa using c11:¬v.nd.key=key))];rfl,hw.done⟩
section
variable{w:World}{v:aZ}{n c:Nat}
theorem zp(h:mK n c v.c)(i:Int)(hr:qS w v.nd v.xs v.ys):Calls Tryz.prog 149 #[v.nd.v,.int .i64 i] w λ e w'=>e=.returned (.tuple #[.int .i64 ((iU v.c i).getD 0),.bool (iU v.c i).isSome])/\St w [] [] w':=by
 obtain⟨b,h1,h2⟩:=h.bm
 have h3:v.nd.bm=(b:Int):=h1
 have:=kh (n:=v.nd) i h3 h2 hr
 rw[yu h3 i] at this
 exact this
end
section
variable{l:List Pr}{a:Option Addr}{c:Nat}{k:ByteArray}{v:Int}{w:World}
theorem Tq(ha:Go.Ct.Cl w a (dH l))(hs:SA l)(hlen:l.length<=11728124029610) :
  Calls Tryz.prog 233 #[.slice a l.length c,.string k,.func (.func 234) #[] #[]] w λ e w'=>∃i:Nat,e=.returned (.tuple #[.int .i64 (i:Int),.bool (decide (i<l.length/\(l.getD i (⟨#[]⟩,0)).1=k))])/\yP l k i/\St w [] [] w':=by
 refine enter Tryz.func233 Tryz.ntmps233 rfl rfl (SF.s1 ha) ?_
 simp only[bY]
 refine Q5 ?_;refine J2 ?_;refine dI ?_;refine J1 ?_;refine J2 ?_;refine J8 ?_;refine Dk ?_
 refine fF [9,10,11,15,16,17,18,19,20,21,22,23,24,25,26,27,28,29,30,31,32,33,34] (λ x:Nat×Nat=>[(9,.int .i64 ((x.1:Nat):Int)),(10,.int .i64 ((x.2:Nat):Int))]) (λ x=>x.1<=x.2/\x.2<=l.length/\(∀j,j<x.1->dA (l.getD j (⟨#[]⟩,0)).1 k=true)/\(∀j,x.2<=j->j<l.length->dA (l.getD j (⟨#[]⟩,0)).1 k=false)) (λ x=>x.2-x.1) ((0,l.length)) (⟨Nat.zero_le _,Nat.le_refl _,λ j hj=>absurd hj (Nat.not_lt_zero j),λ j h1 h2=>by omega⟩) ?_ (λ x f hx=>?_)
 ·repeat (first|exact bG _|refine bA (by exact rfl) ?_)
 dsimp only[gR,List.map,List.cons_append,List.nil_append]
 refine Df ?_;refine vX ?_
 refine bE (λ c17=>?_) (λ c17=>?_)
 ·refine bB ?_;refine cI ?_;refine iO ?_;refine Dd ?_;refine gF ?_;refine aB (xn (n:=x.1+x.2) rf rf (by omega)) rfl ?_;refine gF ?_;refine wJ ?_;refine aA ?_;refine Yu ?_;refine aA ?_;(refine aR (by(exact cVd (v:=.int .i64 (Bb (l.getD ((x.1+x.2)/2) (⟨#[]⟩,0)).1 k)) rf (by(repeat (first|exact cD _|(apply bU;focus ((conv=>{lhs;whnf});try exact rfl))));done) (by kernel_rfl) (λ w1 hw=>m6 _ k w1))) (λ x30=>?_));refine vX ?_
  refine bE (λ c31=>?_) (λ c31=>?_)
  ·refine yH ?_;refine eP ?_
   refine dY ((by exact aCw (p:=Bb _ _<0) c31 ((x.1+x.2)/2+1,x.2))) ?_ ?_ ?_
   ·(simp only[];omega)
   ·repeat' (first|exact bG _|refine bA ?_ ?_)
    all_goals (exact rfl)
   ·obtain⟨q1,q2,q3,q4⟩:=hx
    first
    | exact⟨by show(x.1+x.2)/2+1<=x.2;omega,q2,vc hs (by omega) (Lt.1 c31),q4⟩
    | exact⟨by show x.1<=(x.1+x.2)/2;omega,by show(x.1+x.2)/2<=l.length;omega,q3,Zx hs (Vd.1 c31)⟩
  ·refine xZ ?_;refine J1 ?_;refine eP ?_
   refine dY ((by exact(x.1,(x.1+x.2)/2))) ?_ ?_ ?_
   ·omega
   ·repeat' (first|exact bG _|refine bA ?_ ?_)
    all_goals (exact rfl)
   ·obtain⟨q1,q2,q3,q4⟩:=hx
    first
    | exact⟨by show(x.1+x.2)/2+1<=x.2;omega,q2,vc hs (by omega) (Lt.1 c31),q4⟩
    | exact⟨by show x.1<=(x.1+x.2)/2;omega,by show(x.1+x.2)/2<=l.length;omega,q3,Zx hs (Vd.1 c31)⟩
 ·refine bM rfl ?_;refine iO ?_;refine aA ?_;refine Fv ?_
  (refine eM 39 (λ g39=>?_) (λ g39=>?_)<;>(first|refine aJ ?_|(refine aF ?_;refine aA ?_)))
  all_goals ((first|refine aJ ?_|(refine aF ?_;refine aA ?_));(first|refine aJ ?_|(refine aF ?_;refine aA ?_));(first|refine aJ ?_|(refine aF ?_;refine fK ?_));refine Zl ?_;((first|refine aJ ?_|(refine aF ?_;(refine aR (by(exact cVd (v:=.int .i64 (Bb (l.getD x.1 (⟨#[]⟩,0)).1 k)) rf (by(repeat (first|exact cD _|(apply bU;focus ((conv=>{lhs;whnf});try exact rfl))));done) (by kernel_rfl) (λ w1 hw=>m6 _ k w1))) (λ x46=>?_)))));refine zR ?_;refine J8 ?_)
  all_goals
  refine bD Tryz.results233 (λ w hw=>?_)
  obtain⟨q1,q2,q3,q4⟩:=hx
  refine⟨x.1,?_,⟨by omega,q3,λ j h1 h2=>q4 j (by omega) h2⟩,hw.done⟩
  first
  | (rw[show(Bb (l.getD x.1 (⟨#[]⟩,0)).1 k==0)=decide (x.1<l.length/\(l.getD x.1 (⟨#[]⟩,0)).1=k) by rw[Bool.eq_iff_iff];simp only[beq_iff_eq,decide_eq_true_eq,q0];exact⟨λ h=>⟨by omega,h⟩,λ h=>h.2⟩];rfl)
  | (rw[show decide (x.1<l.length/\(l.getD x.1 (⟨#[]⟩,0)).1=k)=false from decide_eq_false (by omega)];rfl)
theorem mu(ha:Go.Ct.Cl w a (dH l))(hs:SA l)(hlen:l.length<=11728124029610) :
  Calls Tryz.prog 194 #[.slice a l.length c,.string k] w λ e w'=>∃i:Nat,e=.returned (.tuple #[.int .i64 (i:Int),.bool (decide (i<l.length/\(l.getD i (⟨#[]⟩,0)).1=k))])/\yP l k i/\St w [] [] w':=by
 refine enter Tryz.func194 Tryz.ntmps194 rfl rfl (SF.s1 ha) ?_
 simp only[bY]
 refine Q5 ?_;refine iO ?_;refine aC (c0 (V:=λ i:Nat=>.tuple #[.int .i64 (i:Int),.bool (decide (i<l.length/\(l.getD i (⟨#[]⟩,0)).1=k))]) (hc:=λ w1 hw=>Tq (hw.cl fin) hs (by omega))) (λ x8 h8=>?_);refine aB (bL rf rfl) rfl ?_;refine aB (bL rf rfl) rfl ?_;refine J8 ?_
 refine bD Tryz.results194 (λ w hw=>?_)
 exact⟨x8,rfl,h8,hw.done⟩
theorem Xf(k:ByteArray)(ha:Go.Ct.Cl w a (dH l))(hlen:l.length<=11728124029610) :
  Calls Tryz.prog 153 #[.slice a l.length c,.string k] w λ e w'=>e=.returned (.tuple #[.int .u64 ((cO l k).getD 0),.bool (cO l k).isSome])/\St w [] [] w':=by
 refine enter Tryz.func153 Tryz.ntmps153 rfl rfl (SF.s1 ha) ?_
 simp only[bY]
 refine Q5 ?_;refine kM ?_;refine aC (c0 (V:=.bool) (hc:=λ w1 hw=>Jg (hw.cl fin) (by omega))) (λ x9 h9=>?_);refine oX ?_
 refine bE (λ c10=>?_) (λ c10=>?_)
 ·refine Q5 ?_
  refine bD Tryz.results153 (λ w hw=>?_)
  rw[show cO l k=none from if_neg λ hs=>by rw[h9.2 (mZ.2 hs)] at c10;cases c10];exact⟨rfl,hw.done⟩
 ·have hs:SA l:=mZ.1 (h9.1 (by simpa using c10))
  refine yV ?_;refine aC (c0 (V:=λ i:Nat=>.tuple #[.int .i64 (i:Int),.bool (decide (i<l.length/\(l.getD i (⟨#[]⟩,0)).1=k))]) (hc:=λ w1 hw=>mu (hw.cl fin) hs hlen)) (λ x14 h14=>?_);refine aA ?_;refine aB (bL rf rfl) rfl ?_;refine aB (bL rf rfl) rfl ?_;refine J8 ?_;refine kM ?_;refine oX ?_
  refine bE (λ c18=>?_) (λ c18=>?_)
  ·refine Q5 ?_
   refine bD Tryz.results153 (λ w hw=>?_)
   have hnf:¬(x14<l.length/\(l.getD x14 (⟨#[]⟩,0)).1=k):=by simpa using c18
   rw[show cO l k=none from(if_pos hs).trans (nU (Kl hs h14 hnf))];exact⟨rfl,hw.done⟩
  ·have hfd:x14<l.length/\(l.getD x14 (⟨#[]⟩,0)).1=k:=by simpa using c18
   have hx14:=hfd.1
   refine yV ?_;refine fK ?_;refine J3 ?_;refine J8 ?_
   refine bD Tryz.results153 (λ w hw=>?_)
   rw[show cO l k=some (l.getD x14 (⟨#[]⟩,0)).2 from(if_pos hs).trans (Ju h14 hfd.1 hfd.2)];exact⟨rfl,hw.done⟩
end
theorem Xq{v:aZ}{p:Option Addr}{c:Nat}{key:ByteArray}{w:World}(hf:v.Fit)(ha:Go.Ct.Cl w p (dH v.ys)):Calls Tryz.prog 153 #[.slice p v.nd.prN c,.string key] w λ e w'=>e=.returned (.tuple #[.int .u64 ((cO v.ys key).getD 0),.bool (cO v.ys key).isSome])/\St w [] [] w':=by
 rw[hf.prN]
 exact Xf key ha hf.prS
end

end Go.Proofs.YtbajmaoegmbfgaaGreat

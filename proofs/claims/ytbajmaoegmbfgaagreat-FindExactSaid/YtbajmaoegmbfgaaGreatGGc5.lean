/- gcas: Read, Swap. -/
import Derived.Test.YtbajmaoegmbfgaaGreatGGc2
import Derived.Test.YtbajmaoegmbfgaaGreatGVw1
import Derived.Test.YtbajmaoegmbfgaaGreatGDfr
import Derived.Test.YtbajmaoegmbfgaaGreatGTp2
import Derived.Test.YtbajmaoegmbfgaaGreatGPa1

set_option linter.unusedSimpArgs false
set_option linter.unusedVariables false
namespace Go.Proofs.YtbajmaoegmbfgaaGreat
section
open Go Go.RowKit Go.Ct
section
variable{D:List Nat}{A B:Fr}{a:AS}{b:Nat}{w:World}{f:FuncId}{cap:List Value}{t:fY}
theorem cz{K:Int->Tr}{i m:Int}{s:Mm}{bt bo bi:Nat}(ht:t.root<=9223372036854775807)(hK:zI b K s f cap B)(hi:i<=s.nodes.length)(hmm:m<=s.nodes.length):pW b 131 [pt bo,pt bi,pt bt] [.int .i64 m] (bx bo (lS b t)::bx bi [iv i]::bx bt [fn f cap]::B) s (oS t i m K):=by
 intro a D A w em ok hm hA hB hw0
 subst em
 have hK2:=hK.more (B2:=(bx bo (lS b t)::bx bi [iv i]::bx bt [fn f cap]::B)) (λ x hx=>by simp[hx])
 refine enter Tryz.func131 Tryz.ntmps131 rfl rfl hw0 ?_
 simp only[bY]
 refine J0 ?_;refine aI (λ x5=>?_);refine aG ?_;refine J0 ?_;refine aB (Rm bo (lS b t) 0 3 hB rfl rfl) rfl ?_;refine aB (kX bi [.int .i64 i] 0 hB rfl) rfl ?_;refine aA ?_;refine aB (kX bt [fn f cap] 0 hB rfl) rfl ?_;refine aC (zF (λ w1 hw=>Xn ht hK2 hi hmm ok hm hA hB hw)) (λ x10 h10=>?_);refine bQ (fR λ _=>aS rf cK rf (bX _) dH rf hU) (λ _=>?_);refine aG ?_
 refine bC Tryz.results131 (λ w hw=>?_)
 exact⟨x10,rfl,h10,hw.rN⟩
theorem Ta{K:Int->Tr}{i:Int}(ht:t.root<=9223372036854775807)(hK:zI b K a.mm f cap B)(hi:i<=a.mm.nodes.length)(ok:a.Ok)(hm:a.mm.Small)(hA:∀f∈aM a.L,f∈A)(hB:∀x∈B,x∈A)(hs:SF w D [(b,fA a)] A [] (fQ a) w) :
  Calls Tryz.prog 88 #[.agg ⟨lS b t⟩,.int .i64 i,fn f cap] w (zC b (λ c' s' B'=>iY b (jH t i K) a.mm c' s' B') a B D w):=by
 have ni:=zU ok i
 refine enter Tryz.func88 Tryz.ntmps88 rfl rfl hs ?_
 simp only[bY]
 refine J0 ?_;refine bN (λ x3=>?_);refine bN (λ x4=>?_);refine bN (λ x5=>?_);refine aI (λ x6=>?_);refine aG ?_;refine hJ ?_;refine bR ?_;refine aC (B5 i ok hm hA hi) (λ x10 h10=>?_);refine cW ?_;(refine aB (cA (by(repeat (first|exact cC _|(apply bU;focus ((conv=>{lhs;whnf});try exact rfl))));done)) rfl ?_);refine aQ (cV (hc:=λ w1 hw=>nF _ _ _ w1)) (λ x13=>?_);refine bQ (fR λ _=>aS rf cK rf (bX _) dH rf hU) (λ _=>?_);refine aG ?_
 refine bC Tryz.results88 (λ w hw=>?_)
 refine⟨(mN (aD (cB a.L) i).nd.main _ _,[bx x3 (lS b t),bx x4 [iv i],bx x5 [fn f cap]],a),rfl,⟨⟨hi,?_⟩,ok,(AS.gZ.refl a).more (λ _ h=>(List.not_mem_nil h).elim)⟩,?_⟩
 ·rw[fU]
  exact⟨rfl,nD hm ni.main,_,_,rfl,by kernel_rfl,λ m s1 l hmm=>cz (bo:=x3) (bi:=x4) (bt:=x5) ht (hK.le l) (by have:=l.len;omega) hmm⟩
 ·exact(((hw.cR (.tail .head)).cR (.tail .head)).cR (.tail .head)).rI
end
end

/- Hash values of keys. -/
end Go.Proofs.YtbajmaoegmbfgaaGreat
namespace Go.Ct
section
open Go Go.RowKit
def byt(s:ByteArray)(i:Nat):Nat:=(s.data.getD i 0).toNat
theorem Mj(s:ByteArray)(i:Nat):byt s i<256:=(s.data.getD i 0).toNat_lt
def hsN(s:ByteArray):Nat->Nat
 | 0=>14695981039346656037
 | i+1=>((hsN s i ^^^ byt s i)*1099511628211)%18446744073709551616
theorem Fb(s:ByteArray):∀i,hsN s i<18446744073709551616
 | 0=>by show 14695981039346656037<18446744073709551616;decide
 | _+1=>Nat.mod_lt _ (by decide)
def jN(s:ByteArray)(m:Nat):Nat:=hsN s s.size &&& m
theorem oG(s:ByteArray)(m:Nat):jN s m<18446744073709551616:=Nat.lt_of_le_of_lt Nat.and_le_left (Fb s _)
section
variable{P:Program}{S:List (Nat×Value)}{G:World->Prop}{d:Nat}{ty t t':TypeId}{pos:String}{af:Array Edge}{gd:Option (Nat×Bool)}{x y:Operand}{a b i:Nat}{s:ByteArray}
theorem bg(hx:ev S x=.string s)(hy:ev S y=.int .i64 (i:Int))(ht:P.underlying t=some .string)(h:i<s.size):aL P S G ⟨some d,.index t x y,ty,pos,af,gd⟩ (.int .u8 (byt s i:Int)):=⟨λ w _=>by
 have e:(s[((i:Nat):Int).toNat]'(by simpa using h)).toNat=byt s i:=by
  unfold byt
  rw[Array.getD_eq_getD_getElem?,Array.getElem?_eq_getElem (by simpa using h)]
  rfl
 simp only[execOp,hx,hy,Sem.run_bind]
 rw[run_index_string w t s .i64 i ht,dif_pos ⟨bI _,by omega⟩,e]
 rfl⟩
theorem Z5(hx:ev S x=.int .u64 (a:Int))(hy:ev S y=.int .u64 (b:Int))(ha:a<18446744073709551616)(hb:b<18446744073709551616):aL P S G ⟨some d,.binOp .xor t x y t',ty,pos,af,gd⟩ (.int .u64 ((a ^^^ b:Nat):Int)):=by
 have:=aAu (P:=P) (G:=G) (d:=d) (ty:=ty) (pos:=pos) (af:=af) (gd:=gd) (t:=t) (t':=t') hx hy
 rwa [cq ha hb] at this
theorem ai(hx:ev S x=.int .u64 (a:Int))(hy:ev S y=.int .u64 (b:Int)):aL P S G ⟨some d,.binOp .mul t x y t',ty,pos,af,gd⟩ (.int .u64 ((a*b%18446744073709551616:Nat):Int)):=by
 have:=u5 (P:=P) (G:=G) (d:=d) (ty:=ty) (pos:=pos) (af:=af) (gd:=gd) (t:=t) (t':=t') hx hy
 have e:IntKind.u64.wrap ((a:Int)*(b:Int))=((a*b%18446744073709551616:Nat):Int):=by
  rw[<- Int.natCast_mul,wrap_u64]
  generalize a*b=q
  omega
 rwa [e] at this
end
end
end Go.Ct
namespace Go.Proofs.YtbajmaoegmbfgaaGreat
section
open Go Go.RowKit Go.Ct
theorem Yk(key:ByteArray){m:Nat}(hm:m<18446744073709551616)(hk:key.size<=4611686018427387903)(w:World):Calls Tryz.prog 222 #[.string key,.int .u64 (m:Int)] w λ e w'=>e=.returned (.int .u64 ((jN key m:Nat):Int))/\St w [] [] w':=by
 refine enter Tryz.func222 Tryz.ntmps222 rfl rfl (SF.s0 w) ?_
 simp only[bY]
 refine cQ ?_;refine Hz ?_;refine Hr ?_
 refine fG [5,6,7,8,9,10,11,12,13,14,15,16,17,18,19] (λ y:Nat=>[(6,.int .i64 ((y:Nat):Int)),(5,.int .u64 ((hsN key y:Nat):Int))]) (λ y=>y<=key.size) (λ y=>key.size-y) (0) (Nat.zero_le _) ?_ (λ y f hx=>?_)
 ·repeat (first|exact bG _|refine bB (by exact rfl) ?_)
 dsimp only[gU,List.map,List.cons_append,List.nil_append]
 refine Dg ?_;refine jW ?_;refine xD ?_
 refine bE (λ c10=>?_) (λ c10=>?_)
 ·refine qP ?_;refine wQ ?_;refine pV ?_;refine aQ (fE (bg (s:=key) (i:=y) rf rf (by kernel_rfl) (by omega))) (λ x16=>?_);refine aB (Lk (k2:=.u8) rf (by kernel_rfl) (by exact sN rfl) ⟨bI _,by have:=Mj key y;omega⟩) rfl ?_;refine aB (Z5 rf rf (Fb _ _) (by have:=Mj key y;omega)) rfl ?_;refine aB (ai rf rf) rfl ?_;refine J1 ?_;refine eU ?_;refine yU ?_
  refine dV (y+1) ?_ ?_ ?_
  ·omega
  ·repeat' (first|exact bG _|refine bB ?_ ?_)
   all_goals (exact rfl)
  ·omega
 ·refine bM rfl ?_;refine iM ?_;refine aB (Qr rf rf (Fb _ _) hm) rfl ?_;refine J1 ?_
  refine aT Tryz.results222 (λ w hw=>?_)
  have hy:y=key.size:=by omega
  subst hy
  exact⟨rfl,hw.done⟩
theorem nE(key:ByteArray)(w:World):Calls Tryz.prog 208 #[.string key] w λ e w'=>e=.returned (.bool (decide (key.size<=64)))/\St w [] [] w':=by
 refine enter Tryz.func208 Tryz.ntmps208 rfl rfl (SF.s0 w) ?_
 simp only[bY]
 refine cQ ?_;refine J2 ?_;refine jW ?_;refine uL ?_;refine J1 ?_
 refine aT Tryz.results208 (λ w hw=>?_)
 exact⟨by rw[show decide (key.size<=64)=decide ((key.size:Int)<=64) from decide_eq_decide.2 (by omega)];rfl,hw.done⟩
theorem gJ(f:Bool)(v:Int)(w:World):Calls Tryz.prog 223 #[.bool f,.int .u64 v] w λ e w'=>e=.returned (.agg ⟨(Rs.mk 0 f v ⟨#[]⟩ 0 0 0 false).cells⟩)/\St w [] [] w':=by
 refine enter Tryz.func223 Tryz.ntmps223 rfl rfl (SF.s0 w) ?_
 simp only[bY]
 refine J0 ?_;refine aI (λ x4=>?_);refine aG ?_;refine iM ?_;refine xJ ?_
 refine bC Tryz.results223 (λ w hw=>?_)
 exact⟨rfl,hw.done⟩
end

/- find: hash values of keys, the codes at the end. -/
section
open Go Go.RowKit Go.Ct
theorem Oh(key:ByteArray){m:Nat}(hm:m<18446744073709551616)(hk:key.size<=4611686018427387903)(w:World):Calls Tryz.prog 104 #[.string key,.int .u64 (m:Int)] w λ e w'=>e=.returned (.int .u64 ((jN key m:Nat):Int))/\St w [] [] w':=by
 refine enter Tryz.func104 Tryz.ntmps104 rfl rfl (SF.s0 w) ?_
 simp only[bY]
 refine cQ ?_;refine cQ ?_;refine kK ?_;refine jW ?_;refine A4 ?_;refine cO ?_
 refine fG [5,6,9,10,11,12,13,14,15,16,17,18,19,20] (λ y:Nat=>[(9,.int .i64 ((y:Nat):Int)),(5,.int .u64 ((hsN key y:Nat):Int))]) (λ y=>y<=key.size) (λ y=>key.size-y) (0) (Nat.zero_le _) ?_ (λ y f hx=>?_)
 ·repeat (first|exact bG _|refine bB (by exact rfl) ?_)
 dsimp only[gU,List.map,List.cons_append,List.nil_append]
 refine J0 ?_;refine xD ?_;refine aV ?_
 refine bE (λ c10=>?_) (λ c10=>?_)
 ·refine qP ?_;refine J2 ?_;refine vP ?_;refine aA ?_;refine aQ (fE (bg (s:=key) (i:=y) rf rf (by kernel_rfl) (by omega))) (λ x15=>?_);refine aB (Lk (k2:=.u8) rf (by kernel_rfl) (by exact sN rfl) ⟨bI _,by have:=Mj key y;omega⟩) rfl ?_;refine aB (Z5 rf rf (Fb _ _) (by have:=Mj key y;omega)) rfl ?_;refine J1 ?_;refine wQ ?_;refine aB (ai rf rf) rfl ?_;refine J1 ?_;refine eU ?_;refine Tb ?_;refine A4 ?_
  refine dV (y+1) ?_ ?_ ?_
  ·omega
  ·repeat' (first|exact bG _|refine bB ?_ ?_)
   all_goals (exact rfl)
  ·omega
 ·refine bM rfl ?_;refine iM ?_;refine aB (Qr rf rf (Fb _ _) hm) rfl ?_;refine J1 ?_
  refine aT Tryz.results104 (λ w hw=>?_)
  have hy:y=key.size:=by omega
  subst hy
  exact⟨rfl,hw.done⟩
theorem X9(key:ByteArray)(w:World):Calls Tryz.prog 106 #[.string key] w λ e w'=>e=.returned (.bool (decide (key.size<=64)))/\St w [] [] w':=by
 refine enter Tryz.func106 Tryz.ntmps106 rfl rfl (SF.s0 w) ?_
 simp only[bY]
 refine cQ ?_;refine J2 ?_;refine jW ?_;refine uL ?_;refine J1 ?_
 refine aT Tryz.results106 (λ w hw=>?_)
 exact⟨by rw[show decide (key.size<=64)=decide ((key.size:Int)<=64) from decide_eq_decide.2 (by omega)];rfl,hw.done⟩
theorem Rp{h:Nat}(hh:h<18446744073709551616)(level:Int)(w:World):Calls Tryz.prog 150 #[.int .u64 (h:Int),.int .i64 level] w λ e w'=>e=.returned (.int .i64 (eP h level))/\St w [] [] w':=by
 by_cases hl:level<0∨10<level
 ·unfold eP
  rw[if_pos hl]
  refine enter Tryz.func150 Tryz.ntmps150 rfl rfl (SF.s0 w) ?_
  simp only[bY]
  refine cQ ?_;refine kK ?_;refine G7 ?_
  (refine eM 7 (λ g7=>?_) (λ g7=>?_)<;>(first|refine aJ ?_|(refine aF ?_;refine aA ?_)))
  all_goals ((first|refine aJ ?_|(refine aF ?_;refine kR ?_));refine cH ?_;refine aG ?_)
  all_goals
  refine bE (λ c10=>?_) (λ c10=>?_)
  ·all_goals try (exfalso;omega)
   all_goals refine cQ ?_
   all_goals
    refine aT Tryz.results150 (λ w hw=>?_)
    exact⟨rfl,hw.done⟩
  ·try exact nv c10
   all_goals try (exfalso;omega)
 ·obtain⟨l,rfl⟩:∃l:Nat,level=(l:Int):=⟨level.toNat,by omega⟩
  unfold eP
  rw[if_neg hl]
  exact Wi (l:=l) hh (by omega) w
theorem F2(v:Int)(w:World):Calls Tryz.prog 154 #[.int .u64 v] w λ e w'=>e=.returned (.agg ⟨(gP (dL true v)).cells⟩)/\St w [] [] w':=by
 refine enter Tryz.func154 Tryz.ntmps154 rfl rfl (SF.s0 w) ?_
 simp only[bY]
 refine J0 ?_;refine aI (λ x2=>?_);refine aG ?_;refine J2 ?_;refine bJ ?_;refine aQ (cV (hc:=λ w1 hw=>L6 (dL true v) w1)) (λ x5=>?_);refine bQ (fR λ _=>aS rf cK rf (bX _) dH rf hU) (λ _=>?_);refine aG ?_
 refine bC Tryz.results154 (λ w hw=>?_)
 exact⟨rfl,hw.done⟩
theorem wC(w:World):Calls Tryz.prog 151 #[] w λ e w'=>e=.returned (.agg ⟨(gP (dL false 0)).cells⟩)/\St w [] [] w':=by
 refine enter Tryz.func151 Tryz.ntmps151 rfl rfl (SF.s0 w) ?_
 simp only[bY]
 refine J0 ?_;refine aI (λ x0=>?_);refine aG ?_;refine J0 ?_;refine bJ ?_;refine aQ (cV (hc:=λ w1 hw=>L6 (dL false 0) w1)) (λ x2=>?_);refine bQ (fR λ _=>aS rf cK rf (bX _) dH rf hU) (λ _=>?_);refine aG ?_
 refine bC Tryz.results151 (λ w hw=>?_)
 exact⟨rfl,hw.done⟩
abbrev Hq(b:Nat)(t:fY)(key:ByteArray)(h:Nat):List Value:=[.iface 42 (.pointer (some ⟨b,0,none⟩)),.int .i64 t.root,.bool t.ro,.string key,.int .u64 (h:Int)]
theorem Vy{v:aY}{b bf h:Nat}{t:fY}{key:ByteArray}{w:World}(hf:Go.Ct.Cl w (some ⟨bf,0,none⟩) (Hq b t key h)):Calls Tryz.prog 152 #[pt bf,.agg ⟨v.nd.cells⟩] w λ e w'=>e=.returned (.agg ⟨(gP (if v.c.key=key then dL true v.c.val else dL false 0)).cells⟩)/\St w [] [] w':=by
 refine enter Tryz.func152 Tryz.ntmps152 rfl rfl (SF.s1 hf) ?_
 simp only[bY]
 refine J0 ?_;refine bN (λ x3=>?_);refine aI (λ x4=>?_);refine Mt ?_;refine aV ?_;refine gI [0,1,2,3,4,5,6] ?_;refine mL ?_;refine J9 ?_;refine bT (i:=5) (hq:=(kX (B:=[bx bf (Hq b t key h)]) bf (Hq b t key h) 3 (λ x hx=>hx) rfl)) (h:=?_);refine ka ?_;refine eA ?_
 refine bE (λ c11=>?_) (λ c11=>?_)
 ·refine hJ ?_;refine aQ (cV (hc:=λ w1 hw=>F2 _ w1)) (λ x14=>?_);refine bQ (fR λ _=>aS rf cK rf (bX _) dH rf hU) (λ _=>?_);refine aG ?_
  refine bC Tryz.results152 (λ w hw=>?_)
  exact⟨by rw[if_pos (show v.c.key=key from(by simpa using c11:v.nd.key=key))];rfl,hw.done⟩
 ·refine aZ ?_;refine J0 ?_;refine aQ (cV (hc:=λ w1 hw=>wC w1)) (λ x15=>?_);refine bQ (fR λ _=>aS rf cK rf (bX _) dH rf hU) (λ _=>?_);refine aG ?_
  refine bC Tryz.results152 (λ w hw=>?_)
  exact⟨by rw[if_neg (show ¬v.c.key=key from(by simpa using c11:¬v.nd.key=key))];rfl,hw.done⟩
section
variable{w:World}{v:aY}{n c:Nat}
theorem xu(h:mH n c v.c)(i:Int)(hr:qI w v.nd v.xs v.ys):Calls Tryz.prog 149 #[v.nd.v,.int .i64 i] w λ e w'=>e=.returned (.tuple #[.int .i64 ((iR v.c i).getD 0),.bool (iR v.c i).isSome])/\St w [] [] w':=by
 obtain⟨b,h1,h2⟩:=h.bm
 have h3:v.nd.bm=(b:Int):=h1
 have:=eh (n:=v.nd) i h3 h2 hr
 rw[vm h3 i] at this
 exact this
end
section
variable{l:List Pr}{a:Option Addr}{c:Nat}{k:ByteArray}{v:Int}{w:World}
theorem Sk(ha:Go.Ct.Cl w a (dE l))(hs:SA l)(hlen:l.length<=11728124029610) :
  Calls Tryz.prog 233 #[.slice a l.length c,.string k,.func (.func 234) #[] #[]] w λ e w'=>∃i:Nat,e=.returned (.tuple #[.int .i64 (i:Int),.bool (decide (i<l.length/\(l.getD i (⟨#[]⟩,0)).1=k))])/\xT l k i/\St w [] [] w':=by
 refine enter Tryz.func233 Tryz.ntmps233 rfl rfl (SF.s1 ha) ?_
 simp only[bY]
 refine Qa ?_;refine J2 ?_;refine dG ?_;refine J1 ?_;refine J2 ?_;refine J8 ?_;refine C7 ?_
 refine fG [9,10,11,15,16,17,18,19,20,21,22,23,24,25,26,27,28,29,30,31,32,33,34] (λ x:Nat×Nat=>[(9,.int .i64 ((x.1:Nat):Int)),(10,.int .i64 ((x.2:Nat):Int))]) (λ x=>x.1<=x.2/\x.2<=l.length/\(∀j,j<x.1->cX (l.getD j (⟨#[]⟩,0)).1 k=true)/\(∀j,x.2<=j->j<l.length->cX (l.getD j (⟨#[]⟩,0)).1 k=false)) (λ x=>x.2-x.1) ((0,l.length)) (⟨Nat.zero_le _,Nat.le_refl _,λ j hj=>absurd hj (Nat.not_lt_zero j),λ j h1 h2=>by omega⟩) ?_ (λ x f hx=>?_)
 ·repeat (first|exact bG _|refine bB (by exact rfl) ?_)
 dsimp only[gU,List.map,List.cons_append,List.nil_append]
 refine Dg ?_;refine xD ?_
 refine bE (λ c17=>?_) (λ c17=>?_)
 ·refine aZ ?_;refine cO ?_;refine iM ?_;refine C5 ?_;refine gC ?_;refine aB (u9 (n:=x.1+x.2) rf rf (by omega)) rfl ?_;refine gC ?_;refine vP ?_;refine aA ?_;refine Yd ?_;refine aA ?_;(refine aQ (by(exact cVd (v:=.int .i64 (zX (l.getD ((x.1+x.2)/2) (⟨#[]⟩,0)).1 k)) rf (by(repeat (first|exact cC _|(apply bU;focus ((conv=>{lhs;whnf});try exact rfl))));done) (by kernel_rfl) (λ w1 hw=>ij _ k w1))) (λ x30=>?_));refine xD ?_
  refine bE (λ c31=>?_) (λ c31=>?_)
  ·refine yU ?_;refine eU ?_
   refine dV ((by exact aBG (p:=zX _ _<0) c31 ((x.1+x.2)/2+1,x.2))) ?_ ?_ ?_
   ·(simp only[];omega)
   ·repeat' (first|exact bG _|refine bB ?_ ?_)
    all_goals (exact rfl)
   ·obtain⟨q1,q2,q3,q4⟩:=hx
    first
    | exact⟨by show(x.1+x.2)/2+1<=x.2;omega,q2,tv hs (by omega) (Mi.1 c31),q4⟩
    | exact⟨by show x.1<=(x.1+x.2)/2;omega,by show(x.1+x.2)/2<=l.length;omega,q3,cr hs (Va.1 c31)⟩
  ·refine wQ ?_;refine J1 ?_;refine eU ?_
   refine dV ((by exact(x.1,(x.1+x.2)/2))) ?_ ?_ ?_
   ·omega
   ·repeat' (first|exact bG _|refine bB ?_ ?_)
    all_goals (exact rfl)
   ·obtain⟨q1,q2,q3,q4⟩:=hx
    first
    | exact⟨by show(x.1+x.2)/2+1<=x.2;omega,q2,tv hs (by omega) (Mi.1 c31),q4⟩
    | exact⟨by show x.1<=(x.1+x.2)/2;omega,by show(x.1+x.2)/2<=l.length;omega,q3,cr hs (Va.1 c31)⟩
 ·refine bM rfl ?_;refine iM ?_;refine aA ?_;refine G7 ?_
  (refine eM 39 (λ g39=>?_) (λ g39=>?_)<;>(first|refine aJ ?_|(refine aF ?_;refine aA ?_)))
  all_goals ((first|refine aJ ?_|(refine aF ?_;refine aA ?_));(first|refine aJ ?_|(refine aF ?_;refine aA ?_));(first|refine aJ ?_|(refine aF ?_;refine fL ?_));refine Yn ?_;((first|refine aJ ?_|(refine aF ?_;(refine aQ (by(exact cVd (v:=.int .i64 (zX (l.getD x.1 (⟨#[]⟩,0)).1 k)) rf (by(repeat (first|exact cC _|(apply bU;focus ((conv=>{lhs;whnf});try exact rfl))));done) (by kernel_rfl) (λ w1 hw=>ij _ k w1))) (λ x46=>?_)))));refine yG ?_;refine J8 ?_)
  all_goals
  refine bC Tryz.results233 (λ w hw=>?_)
  obtain⟨q1,q2,q3,q4⟩:=hx
  refine⟨x.1,?_,⟨by omega,q3,λ j h1 h2=>q4 j (by omega) h2⟩,hw.done⟩
  first
  | (rw[show(zX (l.getD x.1 (⟨#[]⟩,0)).1 k==0)=decide (x.1<l.length/\(l.getD x.1 (⟨#[]⟩,0)).1=k) by rw[Bool.eq_iff_iff];simp only[beq_iff_eq,decide_eq_true_eq,m7];exact⟨λ h=>⟨by omega,h⟩,λ h=>h.2⟩];rfl)
  | (rw[show decide (x.1<l.length/\(l.getD x.1 (⟨#[]⟩,0)).1=k)=false from decide_eq_false (by omega)];rfl)
theorem cy(ha:Go.Ct.Cl w a (dE l))(hs:SA l)(hlen:l.length<=11728124029610) :
  Calls Tryz.prog 194 #[.slice a l.length c,.string k] w λ e w'=>∃i:Nat,e=.returned (.tuple #[.int .i64 (i:Int),.bool (decide (i<l.length/\(l.getD i (⟨#[]⟩,0)).1=k))])/\xT l k i/\St w [] [] w':=by
 refine enter Tryz.func194 Tryz.ntmps194 rfl rfl (SF.s1 ha) ?_
 simp only[bY]
 refine Qa ?_;refine iM ?_;refine aC (c0 (V:=λ i:Nat=>.tuple #[.int .i64 (i:Int),.bool (decide (i<l.length/\(l.getD i (⟨#[]⟩,0)).1=k))]) (hc:=λ w1 hw=>Sk (hw.cl fin) hs (by omega))) (λ x8 h8=>?_);refine aB (bL rf rfl) rfl ?_;refine aB (bL rf rfl) rfl ?_;refine J8 ?_
 refine bC Tryz.results194 (λ w hw=>?_)
 exact⟨x8,rfl,h8,hw.done⟩
theorem W2(k:ByteArray)(ha:Go.Ct.Cl w a (dE l))(hlen:l.length<=11728124029610) :
  Calls Tryz.prog 153 #[.slice a l.length c,.string k] w λ e w'=>e=.returned (.tuple #[.int .u64 ((cN l k).getD 0),.bool (cN l k).isSome])/\St w [] [] w':=by
 refine enter Tryz.func153 Tryz.ntmps153 rfl rfl (SF.s1 ha) ?_
 simp only[bY]
 refine Qa ?_;refine kK ?_;refine aC (c0 (V:=.bool) (hc:=λ w1 hw=>Iv (hw.cl fin) (by omega))) (λ x9 h9=>?_);refine pA ?_
 refine bE (λ c10=>?_) (λ c10=>?_)
 ·refine Qa ?_
  refine bC Tryz.results153 (λ w hw=>?_)
  rw[show cN l k=none from if_neg λ hs=>by rw[h9.2 (nB.2 hs)] at c10;cases c10];exact⟨rfl,hw.done⟩
 ·have hs:SA l:=nB.1 (h9.1 (by simpa using c10))
  refine yH ?_;refine aC (c0 (V:=λ i:Nat=>.tuple #[.int .i64 (i:Int),.bool (decide (i<l.length/\(l.getD i (⟨#[]⟩,0)).1=k))]) (hc:=λ w1 hw=>cy (hw.cl fin) hs hlen)) (λ x14 h14=>?_);refine aA ?_;refine aB (bL rf rfl) rfl ?_;refine aB (bL rf rfl) rfl ?_;refine J8 ?_;refine kK ?_;refine pA ?_
  refine bE (λ c18=>?_) (λ c18=>?_)
  ·refine Qa ?_
   refine bC Tryz.results153 (λ w hw=>?_)
   have hnf:¬(x14<l.length/\(l.getD x14 (⟨#[]⟩,0)).1=k):=by simpa using c18
   rw[show cN l k=none from(if_pos hs).trans (nI (Ig hs h14 hnf))];exact⟨rfl,hw.done⟩
  ·have hfd:x14<l.length/\(l.getD x14 (⟨#[]⟩,0)).1=k:=by simpa using c18
   have hx14:=hfd.1
   refine yH ?_;refine fL ?_;refine J3 ?_;refine J8 ?_
   refine bC Tryz.results153 (λ w hw=>?_)
   rw[show cN l k=some (l.getD x14 (⟨#[]⟩,0)).2 from(if_pos hs).trans (Ii h14 hfd.1 hfd.2)];exact⟨rfl,hw.done⟩
end
theorem Yj{v:aY}{p:Option Addr}{c:Nat}{key:ByteArray}{w:World}(hf:v.Fit)(ha:Go.Ct.Cl w p (dE v.ys)):Calls Tryz.prog 153 #[.slice p v.nd.prN c,.string key] w λ e w'=>e=.returned (.tuple #[.int .u64 ((cN v.ys key).getD 0),.bool (cN v.ys key).isSome])/\St w [] [] w':=by
 rw[hf.prN]
 exact W2 key ha hf.prS
end

end Go.Proofs.YtbajmaoegmbfgaaGreat

/- Merged. -/
import Derived.Test.YthblobahelfefaaGreatDoorGDc2
import Derived.Test.YthblobahelfefaaGreatDoorGSc4
import Derived.Laws.Externs
set_option linter.unusedSimpArgs false
set_option linter.unusedVariables false
namespace Go.Ct
open Go Go.RowKit
section
section
variable{P:Program}{S:List (Nat×Value)}{G:World->Prop}{d:Nat}{ty t t':TypeId}{pos:String}{af:Array Edge}{gd:Option (Nat×Bool)}{x y:Operand}{k k':IntKind}{a b c:Int}
theorem ov(hx:ev S x=.int k a)(hy:ev S y=.int k b)(h:rOr k a b=c):aH P S G ⟨some d,.binOp .or t x y t',ty,pos,af,gd⟩ (.int k c):=h▸aFi hx hy
theorem Ha(hx:ev S x=.int k a)(hy:ev S y=.int k b)(h:mA k a b=c):aH P S G ⟨some d,.binOp .and t x y t',ty,pos,af,gd⟩ (.int k c):=h▸tq hx hy
theorem bk(hx:ev S x=.int k a)(hy:ev S y=.int k b)(h:Ae k a b=c):aH P S G ⟨some d,.binOp .andNot t x y t',ty,pos,af,gd⟩ (.int k c):=h▸mj hx hy
theorem Vx(hx:ev S x=.int k a)(hy:ev S y=.int k' b)(h0:0<=b)(h:Kd k a b=c):aH P S G ⟨some d,.binOp .shl t x y t',ty,pos,af,gd⟩ (.int k c):=h▸aBy hx hy h0
end
end
end Go.Ct
namespace Go.Proofs.YthblobahelfefaaGreatDoor
open Go.Proofs.Tryz
open Go Go.RowKit Go.Ct
section
def gg(ls:List eE)(t:Nat):Nat:=match ls[t]? with|some s=>s.l.length|none=>0
def gA(ls:List eE):Nat->List (Nat×Nat)
 | 0=>[]
 | t+1=>gA ls t++(List.range (gg ls t)).map λ i=>(t,i)
def pQ(ls:List eE)(t i:Nat):List (Nat×Nat):=gA ls t++(List.range i).map λ i=>(t,i)
theorem Uw(ls:List eE)(t:Nat):pQ ls t 0=gA ls t:=by simp[pQ]
theorem G9(ls:List eE)(t i:Nat):pQ ls t (i+1)=pQ ls t i++[(t,i)]:=by simp[pQ,List.range_succ]
theorem cj{ls:List eE}{t:Nat}{s:eE}(h:ls[t]?=some s):pQ ls t s.l.length=gA ls (t+1):=by simp[pQ,gA,gg,h]
theorem N4{ls:List eE}:∀{t:Nat} {a:Nat×Nat},a∈gA ls t->∃o,Ki ls a=some o
 | 0,_,h=>by cases h
 | t+1,a,h=>by
  rcases List.mem_append.1 h with h|h;·exact N4 h
  ·obtain⟨i,hi,rfl⟩:=List.mem_map.1 h;rw[List.mem_range] at hi;unfold gg at hi;split at hi;·rename_i s hs;exact⟨_,Vf hs hi⟩
   ·omega
theorem Sd{ls:List eE}(h:∀s∈ls,s.l.length<=16):∀t,(gA ls t).length<=16*t
 | 0=>Nat.le_refl _
 | t+1=>by
  have:=Sd h t;have h2:gg ls t<=16:=by
   unfold gg;split;·rename_i s hs;exact h s (List.mem_of_getElem? hs)
   ·exact Nat.zero_le _
  simp only[gA,List.length_append,List.length_map,List.length_range];omega
def tW(l:List gE)(cs:List (Nat×Nat))(a:Nat×Nat)(j:Nat):Bool:=match cs[j]? with|some b=>decide ((Ee l b).ret<(Ee l a).inv)|none=>false
def ru(l:List gE)(cs:List (Nat×Nat))(a:Nat×Nat):Value:=.int .u32 ((bB (tW l cs a) cs.length:Nat):Int)
def yG(ls:List eE)(a:Nat×Nat):Value:=.int .i64 (match Ki ls a with|some o=>o.kind|none=>0)
def Xu(a:Nat×Nat):Value:=.int .i64 ((1+a.1*16+a.2:Nat):Int)
def gF(g:Nat×Nat->Value)(cs:List (Nat×Nat))(k:Nat):List Value:=(cs.take k).map g
variable{cs:List (Nat×Nat)}{k:Nat}
theorem pK{g:Nat×Nat->Value}{a:Nat×Nat}(h:cs[k]?=some a):gF g cs k++[g a]=gF g cs (k+1):=by unfold gF;rw[List.take_add_one,h,List.map_append];rfl
theorem jR{g:Nat×Nat->Value}(h:k<=cs.length):(gF g cs k).length=k:=by unfold gF;rw[List.length_map,List.length_take,Nat.min_eq_left h]
structure Xg where
 b:Nat
 mf:Nat
 pc:Option Addr
 cc:Nat
 pe:Option Addr
 ce:Nat
 pk:Option Addr
 ck:Nat
 pr:Option Addr
 cr:Nat
 pm:Option Addr
 cm:Nat
def rd0(_:Nat×Nat):Value:=.int .i64 0
abbrev seF(rb:Nat)(n k:Nat)(y:Xg):List Value:=[pt rb,.slice y.pc n y.cc,.int .u32 ((bB (λ _=>true) k:Nat):Int),.slice y.pe k y.ce,.slice y.pk k y.ck,.slice y.pr k y.cr,.slice y.pm k y.cm,.map (some y.mf)]
abbrev cz(rb:Nat)(n:Nat)(y:Xg):Obj:=.cells ⟨seF rb n n y⟩ 104 (0,0)
abbrev Xg.fr(y:Xg)(l:List gE)(ls:List eE)(cs:List (Nat×Nat)):Fr:=[(y.pm,gF Xu cs cs.length),(y.pr,gF rd0 cs cs.length),(y.pk,gF (yG ls) cs cs.length),(y.pe,gF (ru l cs) cs cs.length),(y.pc,dE sU cs)]
theorem Lo:cS prog 102 65 [.int .u32 0]:=fX (z:=.int .u32 0) (by kernel_rfl) (by kernel_rfl) rfl
theorem oM:cS prog 22 3 [.int .i64 0]:=fX (z:=.int .i64 0) (by kernel_rfl) (by kernel_rfl) rfl
section
variable{w:World}{D:List Nat}{x:Yv}{p:Option Addr}{c:Nat}{ls:List eE}{l:List gE}{pk:Nat->ByteArray}
abbrev aFS(l:List gE)(ls:List eE)(cs:List (Nat×Nat))(k:Nat)(y:Xg):List Ow:=[⟨y.pc,dE sU cs,y.cc,91,2⟩,⟨y.pe,gF (ru l cs) cs k,y.ce,65,1⟩,⟨y.pk,gF (yG ls) cs k,y.ck,3,1⟩,⟨y.pr,gF rd0 cs k,y.cr,3,1⟩,⟨y.pm,gF Xu cs k,y.cm,3,1⟩]
set_option maxRecDepth 100000 in
set_option maxHeartbeats 2000000 in
theorem Rj(hd:DP pk ls l)(hn:(gA ls ls.length).length<=16)(hts:A9 ls ls.length x.ts)(hs:SF w D [(x.b,sD p ls.length c x)] (Ie x l p ls) [] [] w):Calls prog 22 #[pt x.b] w λ e w'=>∃y:Xg,e=.returned (pt y.b)/\True/\SF w D ([(x.b,sD p ls.length c x)]++[(y.b,cz x.b (gA ls ls.length).length y),(y.mf,bV [] 0)]) [] (y.fr l ls (gA ls ls.length)) ([]++[]) w':=by
 have htl:x.ts.length=ls.length:=hts.1;have hn8:=hd.hp.n;have hcl:=Sd hd.hp.m;refine enter func22 ntmps22 rfl rfl hs ?_;simp only[bY]
 refine Kc1 ?_;refine aK (cK λ _=>lU) (λ x15=>?_);refine bX ?_;refine bC (λ x17=>?_);refine nN ?_;refine aU ?_;refine rY (λ w hw=>((((hw.gN 3 1).gN 3 1).gN 3 1).gN 65 1).gN 91 2) ?_;refine Js ?_;refine cA ?_;refine J85 ?_;refine Ka8 ?_;refine mE [4,5,6,7,23,24,25,26,27,28,29,30,31,32,33,34,35,36,37,38,39,40,41,42,43,44,45,46,47,48,49,50,51,52,53,54,55,56] (λ y:Nat×Option Addr×Nat=>[(23,.int .i64 ((y.1:Nat):Int))]) (λ y=>y.1<=ls.length) (λ y=>[(x17,.cells ⟨seF x.b (gA ls y.1).length 0 ⟨0,x15,y.2.1,y.2.2,none,0,none,0,none,0,none,0⟩⟩ 104 (0,0)),(x15,bV [] 0),(x.b,sD p ls.length c x)]) (λ y=>[]) (λ y=>⟨y.2.1,dE sU (gA ls y.1),y.2.2,91,2⟩::[⟨none,[],0,65,1⟩,⟨none,[],0,3,1⟩,⟨none,[],0,3,1⟩,⟨none,[],0,3,1⟩]) (λ y=>ls.length-y.1) ((0,none,0)) (Nat.zero_le _) (λ y f hx=>?_);refine K0a ?_;obtain⟨t,yp,yc⟩:=y;replace hx:t<=ls.length:=hx;dsimp only;refine Ka7 ?_;refine aX (λ c24=>?_) (λ c24=>?_)
 ·try (first|contradiction|(exfalso;omega))
  have ht:t<ls.length:=by omega
  have hst:ls[t]?=some ls[t]:=List.getElem?_eq_getElem ht;have h16:=hd.hp.m _ (List.getElem_mem ht);generalize ls[t]=s at hst h16;obtain⟨b,hb⟩:=hts.at ht hst
  refine Kb4 ?_;refine aA (fM (k:=t) (cs:=oT x.ts) rf rf fU iH (.old wS) ht E0w) rfl ?_;refine aA (eY (q:=t) (cs:=oT x.ts) rf iH (.old wS) (E9 hb)) rfl ?_;refine J8 ?_;refine J2 ?_;refine Ka9 ?_;refine mE [6,7,30,31,32,33,34,35,36,37,38,39,40,41,42,43,44,45,46,47,48,49,50,51,52,53,54,55] (λ z:Nat×Option Addr×Nat=>[(30,.int .i64 ((z.1:Nat):Int))]) (λ z=>z.1<=s.l.length) (λ z=>[(x17,.cells ⟨seF x.b (pQ ls t z.1).length 0 ⟨0,x15,z.2.1,z.2.2,none,0,none,0,none,0,none,0⟩⟩ 104 (0,0)),(x15,bV [] 0),(x.b,sD p ls.length c x)]) (λ z=>[]) (λ z=>⟨z.2.1,dE sU (pQ ls t z.1),z.2.2,91,2⟩::[⟨none,[],0,65,1⟩,⟨none,[],0,3,1⟩,⟨none,[],0,3,1⟩,⟨none,[],0,3,1⟩]) (λ z=>s.l.length-z.1) ((0,yp,yc)) (Nat.zero_le _) (λ z f hx=>?_) (hw0:=λ w hw=>by rw[<- Uw] at hw;exact hw.back (hF:=by exact aT.nil));refine K0a ?_;obtain⟨i,zp,zc⟩:=z;replace hx:i<=s.l.length:=hx;dsimp only;refine Ka7 ?_;refine aX (λ c31=>?_) (λ c31=>?_)
  ·try (first|contradiction|(exfalso;omega))
   have hi:i<s.l.length:=by omega
   obtain⟨iv,rt,h1,h2,herr⟩:=hd.sp (t,i) _ (Vf hst hi);replace h1:(xS l l.length t i).inv=(iv:Int):=h1;have hcp:(pQ ls t i).length<=16*t+i:=by have:=hcl t;simp only[pQ,List.length_append,List.length_map,List.length_range];omega
   refine K1a ?_;refine aI (λ x7=>?_);refine fD (λ _=>?_);refine J5 ?_;refine gP ?_;refine jI ?_;refine aD ?_;(refine kT 38 (λ g38=>?_) (λ g38=>?_)<;>(try ((exfalso;omega)))<;>((refine aG ?_;refine bW ?_)));((refine aG ?_;refine aK (cV (hc:=λ w1 hw=>Eb _ herr w1)) (λ x40=>?_)));refine y7 ?_;refine aC ?_;refine aX (λ c42=>?_) (λ c42=>?_)
   ·try (first|contradiction|(exfalso;omega))
    refine U4 ?_;refine cA ?_;refine J3 ?_;refine Jh ?_;refine aA (oi rf rf) rfl ?_;refine aK E0n (λ x51=>?_);(refine aK (aQ.eG (wP (f:=sU) (l:=pQ ls t i) (v1:=(t,i)) oW (by decide) rfl rf rf .head rfl (.new .head) mZ rfl fU (by omega)) nM) (λ x52=>?_);try (refine eF (λ h52=>?_)));refine O9 ?_;refine Kb6 ?_;refine nS ((i+1,x52.1,x52.2)) ?_ (hw1:=λ w hw=>by rw[<- G9,show(pQ ls t i).length+1=(pQ ls t (i+1)).length by rw[G9];simp] at hw;exact hw.back (hF:=by exact aT.nil)) (hμ:=by show s.l.length-(i+1)<_;omega);·exact hi
   ·exact nv c42
  ·try (first|contradiction|(exfalso;omega))
   obtain rfl:i=s.l.length:=by omega
   refine J84 ?_;refine Ka3 ?_;refine nS ((t+1,zp,zc)) ?_ (hw1:=λ w hw=>by rw[cj hst] at hw;exact hw.back (hF:=by exact aT.nil)) (hμ:=by show ls.length-(t+1)<_;omega);·exact ht
 ·try (first|contradiction|(exfalso;omega))
  obtain rfl:t=ls.length:=by omega
  have hop:=λ(a:Nat×Nat) (h:a∈gA ls ls.length)=>N4 h;generalize gA ls ls.length=cs at hn hop;refine K1o ?_;refine aU ?_;refine zG ?_;refine Ka9 ?_;refine mE [8,9,10,11,12,13,62,63,64,65,66,67,68,69,70,71,72,73,74,75,76,77,78,79,80,81,82,83,84,85,86,87,88,89,90,91,92,93,94,95,96,97,98,99,100,101,102,103,104,105,106,107,108,109,110,111,112,113,114,115,116,117,118,119,120,121,122,123,124,125,126,127,128,129,130,131,132,133,134,135,136,137,138,139,140,141,142,143,144,145,146,147,148,149,150,151,152,153,154,155,156,157,158,159,160] (λ v:Nat×Xg=>[(62,.int .i64 ((v.1:Nat):Int))]) (λ v=>v.1<=cs.length/\v.2.mf=x15/\v.2.pc=yp/\v.2.cc=yc) (λ v=>[(x17,.cells ⟨seF x.b cs.length v.1 v.2⟩ 104 (0,0)),(x15,bV [] 0),(x.b,sD p ls.length c x)]) (λ v=>[]) (λ v=>aFS l ls cs v.1 v.2) (λ v=>cs.length-v.1) ((0,⟨0,x15,yp,yc,none,0,none,0,none,0,none,0⟩)) (⟨Nat.zero_le _,rfl,rfl,rfl⟩) (λ v f hx=>?_);refine K0a ?_;obtain⟨k,v⟩:=v
  replace hx:k<=cs.length/\v.mf=x15/\v.pc=yp/\v.cc=yc:=hx;obtain⟨hk,rfl,rfl,rfl⟩:=hx;dsimp only;refine Ka7 ?_;refine aX (λ c63=>?_) (λ c63=>?_)
  ·try (first|contradiction|(exfalso;omega))
   have hk:k<cs.length:=by omega
   obtain⟨a,ha⟩:∃a,cs[k]?=some a:=⟨cs[k],List.getElem?_eq_getElem hk⟩;obtain⟨o,ho⟩:=hop a (List.mem_of_getElem? ha);obtain⟨iv,rt,h1,h2,herr⟩:=hd.sp a o ho;have hop2:=(hd.op a o ho).h0;obtain⟨s,g1,g2,g3⟩:=Cs ho;have ha8:a.1<ls.length:=(List.getElem?_eq_some_iff.1 g1).1;have ha16:=hd.hp.m s (List.mem_of_getElem? g1);have hbk:=Xf (λ _=>true) k;have hpk:2^k<=2^16:=Nat.pow_le_pow_right (by decide) (by omega);have hkv:yG ls a=.int .i64 o.kind:=by unfold yG;rw[ho]
   refine Kb4 ?_;refine aA (cR (f:=sU) (l:=cs) oW (by decide) rf rf fU (by kernel_rfl) (.own .head) hk hk) rfl ?_;refine aA (fJ (f:=sU) (l:=cs) (k:=k) oW rf (by kernel_rfl) (.own .head) ha) rfl ?_;refine aK (cK λ _=>iJ (z:=[.int .i64 0,.int .i64 0]) (by kernel_rfl)) (λ x9=>?_);refine fD (λ _=>?_);refine aM (cK λ _=>aE rf bU rf rfl (by kernel_rfl) rf dV) (λ _=>?_);refine Kc3 ?_;refine K1z ?_;refine aJ (cM (φ:=λ _=>True) (V:=λ _:Unit=>.agg ⟨(Ee l a).cells⟩) (hs:=[(x.b,sD p ls.length c x)]) (os:=[]) (A0:=Ie x l p ls) (hs':=λ _=>[(x.b,sD p ls.length c x)]) (os':=λ _=>[]) (Fc:=λ _=>[]) (hc:=λ w1 hw=>(Bj hts ho hw).mono λ _ _ ⟨e,h⟩=>⟨(),e,trivial,h⟩)) (λ x69 h69=>?_);refine wE ?_;refine Kc0 ?_;refine aX (λ c71=>?_) (λ c71=>?_)
   ·try (first|contradiction|(exfalso;omega))
    refine gL [0,1,2,3,4,5,6,7,8,9] ?_;refine nZ ?_;refine aR ?_;refine dA (i:=5) (hq:=(Vx (c:=((2^k:Nat):Int)) rf rf (by omega) (U0 (by omega)))) (h:=?_);refine dA (i:=6) (hq:=(ov (c:=((bB (λ _=>true) (k+1):Nat):Int)) rf rf (by rw[Nr,if_pos rfl];exact u5 (by omega) (by omega)))) (h:=?_);refine fy ?_;refine kt ?_;refine zG ?_;refine Ka9 ?_;refine iI [10,11,12,13,86,87,88,89,90,91,92,93,94,95,96,97,98,99,100,101,102,103,104,105,106,107,108,109,110] (λ j:Nat=>[(86,.int .i64 ((j:Nat):Int)),(10,.int .u32 ((bB (tW l cs a) j:Nat):Int))]) (λ j=>j<=cs.length) (λ j=>cs.length-j) (0) (Nat.zero_le _) ?_ (λ j f hx=>?_);·repeat (first|exact bH _|refine aY (by exact rfl) ?_)
    refine K2b ?_;refine aX (λ c87=>?_) (λ c87=>?_)
    ·try (first|contradiction|(exfalso;omega))
     have hj:j<cs.length:=by omega
     obtain⟨b,hb⟩:∃b,cs[j]?=some b:=⟨cs[j],List.getElem?_eq_getElem hj⟩;obtain⟨o2,ho2⟩:=hop b (List.mem_of_getElem? hb);obtain⟨iv2,rt2,h3,h4,_⟩:=hd.sp b o2 ho2;have hbj:=Xf (tW l cs a) j;have hpj:2^j<=2^16:=Nat.pow_le_pow_right (by decide) (by omega);have hbf:tW l cs a j=decide ((Ee l b).ret<(Ee l a).inv):=by unfold tW;rw[hb]
     have hb1:(Ee l b).ret<(Ee l a).inv->bB (tW l cs a) (j+1)=bB (tW l cs a) j ||| 2^j:=λ h=>by rw[Nr,if_pos (by rw[hbf];exact decide_eq_true h)]
     have hb2:¬(Ee l b).ret<(Ee l a).inv->bB (tW l cs a) (j+1)=bB (tW l cs a) j:=λ h=>by rw[Nr,if_neg (by rw[hbf,decide_eq_false h];decide)]
     refine Kb4 ?_;refine aA (cR (f:=sU) (l:=cs) oW (by decide) rf rf fU (by kernel_rfl) (.own .head) hj hj) rfl ?_;refine aA (fJ (f:=sU) (l:=cs) (k:=j) oW rf (by kernel_rfl) (.own .head) hb) rfl ?_;refine aK (cK λ _=>iJ (z:=[.int .i64 0,.int .i64 0]) (by kernel_rfl)) (λ x12=>?_);refine fD (λ _=>?_);refine aM (cK λ _=>aE rf bU rf rfl (by kernel_rfl) rf dV) (λ _=>?_);refine aC ?_;refine J2 ?_;refine K1z ?_;refine aJ (cM (φ:=λ _=>True) (V:=λ _:Unit=>.agg ⟨(Ee l b).cells⟩) (hs:=[(x.b,sD p ls.length c x)]) (os:=[]) (A0:=Ie x l p ls) (hs':=λ _=>[(x.b,sD p ls.length c x)]) (os':=λ _=>[]) (Fc:=λ _=>[]) (hc:=λ w1 hw=>(Bj hts ho2 hw).mono λ _ _ ⟨e,h⟩=>⟨(),e,trivial,h⟩)) (λ x93 h93=>?_);refine aI (λ x13=>?_);refine aM (cK λ _=>aE rf bU rf rfl cW rf dV) (λ _=>?_);refine Bz ?_;refine eQ [(0,[]),(1,[]),(2,[]),(3,[]),(4,[]),(5,[]),(6,[]),(7,[]),(8,[5]),(9,[]),(10,[]),(11,[])] ?_;refine iX ?_;refine n5 ?_;refine aR ?_;(refine rcs 97 (λ g97=>?_) (λ g97=>?_)<;>(try ((exfalso;omega)))<;>((refine cE ?_)));((refine cJ ?_));((refine aR ?_));((refine bI (i:=7) (hq:=(nT (dQ rf bU (by kernel_rfl)))) (h:=?_)));((refine bS (i:=8) (hq:=(cM (φ:=λ _=>True) (V:=λ _:Unit=>.agg ⟨(Ee l a).cells⟩) (hs:=[(x.b,sD p ls.length c x)]) (os:=[]) (A0:=Ie x l p ls) (hs':=λ _=>[(x.b,sD p ls.length c x)]) (os':=λ _=>[]) (Fc:=λ _=>[]) (hc:=λ w1 hw=>(Bj hts ho hw).mono λ _ _ ⟨e,h⟩=>⟨(),e,trivial,h⟩))) (h:=λ x102 h102=>?_)));((refine wY ?_));((refine Gm ?_));refine sB ?_;refine dY ?_;refine aX (λ c105=>?_) (λ c105=>?_)
     ·try (first|contradiction|(exfalso;omega))
      refine U4 ?_;refine aA (Vx (c:=((2^j:Nat):Int)) rf rf (by omega) (U0 (by omega))) rfl ?_;refine aA (ov (c:=((bB (tW l cs a) j ||| 2^j:Nat):Int)) rf rf (u5 (by omega) (by omega))) rfl ?_;refine J1 ?_;refine Kb6 ?_;refine eO (j+1) ?_ ?_ ?_;·omega
      ·repeat' (first|exact bH _|refine aY ?_ ?_)
       all_goals (first|exact rfl|(rw[hb1 c105];exact rfl))
      ·exact hj
     ·try (first|contradiction|(exfalso;omega))
      refine Kd0 ?_;refine eO (j+1) ?_ ?_ ?_;·omega
      ·repeat' (first|exact bH _|refine aY ?_ ?_)
       all_goals (first|exact rfl|(rw[hb2 c105];exact rfl))
      ·exact hj
    ·try (first|contradiction|(exfalso;omega))
     obtain rfl:j=cs.length:=by omega
     refine K1o ?_;refine lV ?_;refine cA ?_;refine J3 ?_;refine aD ?_;refine aK (by exact mH λ _=>bO Lo zN rf rf rf rf E0b) (λ x117=>?_);(refine aK (aQ.eG (fS (sz:=1) (ys:=[ru l cs a]) rf rf (.tail .head) E1b (.new .head) rfl rfl Lo rfl (by decide) fU (by omega)) nM) (λ x118=>?_);try (refine eF (λ h118=>?_)));refine O9 ?_;refine aU ?_;refine eQ [(0,[]),(1,[]),(2,[]),(3,[]),(4,[]),(5,[]),(6,[]),(7,[4]),(8,[]),(9,[4]),(10,[]),(11,[]),(12,[]),(13,[])] ?_;refine Th ?_;refine aR ?_;refine bI (i:=6) (hq:=(nT (dQ rf bU (by kernel_rfl)))) (h:=?_);refine bS (i:=7) (hq:=(cM (φ:=λ _=>True) (V:=λ _:Unit=>.agg ⟨o.cells⟩) (hs:=[(x.b,sD p ls.length c x)]) (os:=[]) (A0:=Ie x l p ls) (hs':=λ _=>[(x.b,sD p ls.length c x)]) (os':=λ _=>[]) (Fc:=λ _=>[]) (hc:=λ w1 hw=>(M0 ho hw).mono λ _ _ ⟨e,h⟩=>⟨(),e,trivial,h⟩))) (h:=λ x128 h128=>?_);refine wY ?_;refine cB (i:=9) (hq:=E0m) (h:=λ x130=>?_);((refine cB (i:=10) (hq:=(aQ.eG (fS (sz:=1) (ys:=[.int .i64 o.kind]) rf rf (.tail (.tail .head)) E1b (.new .head) rfl rfl oM rfl (by decide) fU (by omega)) nM)) (h:=λ x131=>?_);try (refine iV (λ h131=>?_))));refine fy ?_;refine aU ?_;refine eQ [(0,[]),(1,[]),(2,[]),(3,[]),(4,[]),(5,[]),(6,[]),(7,[4]),(8,[4]),(9,[]),(10,[]),(11,[]),(12,[])] ?_;refine Th ?_;refine aR ?_;refine bI (i:=6) (hq:=(nT (dQ rf bU (by kernel_rfl)))) (h:=?_);refine bS (i:=7) (hq:=(cM (φ:=λ _=>True) (V:=λ _:Unit=>.int .i64 0) (hs:=[(x.b,sD p ls.length c x)]) (os:=[]) (A0:=Ie x l p ls) (hs':=λ _=>[(x.b,sD p ls.length c x)]) (os':=λ _=>[]) (Fc:=λ _=>[]) (hc:=λ w1 hw=>(Z0 hop2 ho hw).mono λ _ _ ⟨e,h⟩=>⟨(),e,trivial,h⟩))) (h:=λ x141 h141=>?_);refine cB (i:=8) (hq:=E0m) (h:=λ x142=>?_);((refine cB (i:=9) (hq:=(aQ.eG (fS (sz:=1) (ys:=[.int .i64 0]) rf rf (.tail (.tail (.tail .head))) E1b (.new .head) rfl rfl oM rfl (by decide) fU (by omega)) nM)) (h:=λ x143=>?_);try (refine iV (λ h143=>?_))));refine fy ?_;refine eQ [(0,[]),(1,[]),(2,[]),(3,[]),(4,[]),(5,[]),(6,[]),(7,[]),(8,[]),(9,[4]),(10,[4]),(11,[]),(12,[]),(13,[]),(14,[])] ?_;refine Th ?_;refine bI (i:=5) (hq:=(jY (n:=2) (k:=0) (e:=3) rf rf (by kernel_rfl) (by kernel_rfl) (by decide))) (h:=?_);refine cJ ?_;refine bI (i:=7) (hq:=(jY (n:=2) (k:=1) (e:=3) rf rf (by kernel_rfl) (by kernel_rfl) (by decide))) (h:=?_);refine cJ ?_;refine cB (i:=9) (hq:=(cV (v:=Xu a) (hc:=λ w1 hw=>lN (k:=a.1) (i:=a.2) (by omega) (by omega) w1))) (h:=λ x155=>?_);refine cB (i:=10) (hq:=E0m) (h:=λ x156=>?_);((refine cB (i:=11) (hq:=(aQ.eG (fS (sz:=1) (ys:=[Xu a]) rf rf (.tail (.tail (.tail (.tail .head)))) E1b (.new .head) rfl rfl oM rfl (by decide) fU (by omega)) nM)) (h:=λ x157=>?_);try (refine iV (λ h157=>?_))));refine fy ?_;refine Kb6 ?_;refine nS ((k+1,⟨0,v.mf,v.pc,v.cc,x118.1,x118.2,x131.1,x131.2,x143.1,x143.2,x157.1,x157.2⟩)) ?_ (hw1:=λ w hw=>by rw[pK ha,<- hkv,pK ha,show([.int .i64 0]:List Value)=[rd0 a] from rfl,pK ha,pK ha] at hw;exact hw.back (hF:=by exact aT.nil)) (hμ:=by show cs.length-(k+1)<_;omega);·exact⟨hk,rfl,rfl,rfl⟩
   ·try ((exfalso;omega))
  ·try (first|contradiction|(exfalso;omega))
   refine K1o ?_;refine Kc4 ?_;refine aP results22 (λ w hw=>?_);obtain rfl:k=cs.length:=by omega
   refine⟨⟨x17,v.mf,v.pc,v.cc,v.pe,v.ce,v.pk,v.ck,v.pr,v.cr,v.pm,v.cm⟩,rfl,trivial,?_⟩;have h2:=((((hw.freeze .head).freeze .head).freeze .head).freeze .head).freeze .head;refine(h2.perm ((List.perm_append_comm (l₁:=[(x.b,sD p ls.length c x)]))) (List.Perm.refl _)).ret (List.Sublist.refl _) aT.all (List.Sublist.refl _)
end
end
end Go.Proofs.YthblobahelfefaaGreatDoor
namespace Go.Ct
open Go Go.RowKit
section
theorem Z4(P:Program){w:World}{r:Nat}{es:List MapEntry}{clock:Nat}(t:TypeId)(hb:w.heap[r]?=some (bV es clock)) :
  (Extern.MapsClone.clone #[.iface t (.map (some r))]).run P w=.ok (.iface t (.map (some w.heap.size))) (w.alloc (bV es clock)):=by
 have e:Extern.MapsClone.clone #[.iface t (.map (some r))]=(getObj r >>= λ o=>match o with
   | .map entries clock=>(newObj (.map entries clock) >>= λ n=>pure (.iface t (.map (some n))))
   | _=>stuck "maps.clone: a map expected"):=rfl
 rw[e];simp[MapKept.run_getObj_map hb,Result.andThen,go_sem]
section
variable{P:Program}{S:List (Nat×Value)}{G:World->Prop}{d:Nat}{ty t xT K E:TypeId}{pos:String}{af:Array Edge}{gd:Option (Nat×Bool)}{x:Operand}{v:Value}
theorem V3(hx:ev S x=.iface t v)(h:P.underlying t=some (.map K E)):aH P S G ⟨some d,.typeAssert x xT t false,ty,pos,af,gd⟩ v:=⟨λ w _=>by simp[execOp,hx,Instr.typeAssert,run_underlying h,go_sem,Result.andThen]⟩
theorem v9{w0:World}{M:List Nat}{H H':List (Nat×Obj)}{y z:Operand}{b i c:Nat}{dK:TypeDesc}{k:Value}{es:List MapEntry}(hx:ev S x=.map (some b))(hy:ev S y=k)(hz:ev S z=v)(ha:At H i b (bV es c))(hu:P.underlying t=some (.map K E))(hd:P.underlying K=some dK)(hk:Go.MapKept.IsKey dK k)(hr:Instr.findNow dK k es 0=some none)(hH:setAt H i (bV (es++[⟨k,v,c⟩]) (c+1))=H') :
  aQ P S (St w0 M H) ⟨none,.insert t x y z,ty,pos,af,gd⟩ Unit (λ _=>undef) (λ _=>St w0 M H') :=
 kE λ w hw=>by
  subst hH;have hb:=hw.at ha;obtain⟨h1,h2⟩:=MapKept.heap_set (o':=bV (es++[⟨k,v,c⟩]) (c+1)) hb
  exact⟨{w with heap:=w.heap.setIfInBounds b (bV (es++[⟨k,v,c⟩]) (c+1))},by simp[execOp,hx,hy,hz,G6 hb hu hd hk hr],hw.write ha rfl rfl rfl (by simp) (λ k hk=>h2 k hk) h1⟩
end
theorem Pz{α:Type}:∀H:List α,((List.range H.length).flatMap λ i=>(H.drop i).take 1)=H
 | []=>rfl
 | x::H=>by
  rw[List.length_cons,List.range_succ_eq_map,List.flatMap_cons,List.flatMap_map];show x::((List.range H.length).flatMap λ i=>(H.drop i).take 1)=x::H
  rw[Pz H]
theorem SF.pick{w0 w:World}{M:List Nat}{H:List (Nat×Obj)}{A F:Fr}{O:List Ow}(is js:List Nat)(n:Nat)(h:SF w0 M H A F O w)(hn:H.length=n:=by rfl)(hp:(List.range n).Perm (is++js):=by decide):SF w0 M (is.flatMap λ i=>(H.drop i).take 1) A F O w:=by
 have p:H.Perm ((is++js).flatMap λ i=>(H.drop i).take 1):=by have:=List.Perm.flatMap_right (λ i=>(H.drop i).take 1) hp;rw[<- hn,Pz] at this;exact this
 rw[List.flatMap_append] at p;exact(h.perm p.symm (List.Perm.refl _)).sub (List.sublist_append_left _ _) aT.all (List.Sublist.refl _)
theorem ue{P:Program}{S:List (Nat×Value)}{w0:World}{M:List Nat}{H H':List (Nat×Obj)}{ty t K E:TypeId}{pos:String}{af:Array Edge}{gd:Option (Nat×Bool)}{x:Operand}{b i c:Nat}{es:List MapEntry}(hx:ev S x=.map (some b))(ha:At H i b (bV es c))(hu:P.underlying t=some (.map K E))(hH:setAt H i (bV [] c)=H') :
  aQ P S (St w0 M H) ⟨none,.call {callee:=.builtin .clear,args := #[x],argTypes := #[t]},ty,pos,af,gd⟩ Unit (λ _=>.tuple #[]) (λ _=>St w0 M H') :=
 fE λ w hw=>by
  subst hH;have hb:=hw.at ha;obtain⟨h1,h2⟩:=MapKept.heap_set (o':=bV [] c) hb
  exact⟨(),{w with heap:=w.heap.setIfInBounds b (bV [] c)},by simp[execOp,resolve,invoke,builtin,hx,Builtin.clear_,run_underlying hu,MapKept.run_getObj_map hb,MapKept.run_setObj_map _ hb,Result.andThen],hw.write ha rfl rfl rfl (by simp) (λ k hk=>h2 k hk) h1⟩
end
end Go.Ct
namespace Go.Proofs.YthblobahelfefaaGreatDoor
open Go.Proofs.Tryz
open Go Go.RowKit Go.Ct
section
theorem Sb{S:List (Nat×Value)}{w0:World}{M:List Nat}{H:List (Nat×Obj)}{d:Nat}{ty t:TypeId}{pos:String}{af:Array Edge}{gd:Option (Nat×Bool)}{x:Operand}{at_:Array TypeId}{b i c:Nat}{es:List MapEntry}(hx:ev S x=.iface t (.map (some b)))(ha:Ct.At H i b (bV es c)) :
  aQ prog S (Ct.St w0 M H) ⟨some d,.call {callee:=.value (.func 89),args := #[x],argTypes:=at_},ty,pos,af,gd⟩ Nat (λ n=>.iface t (.map (some n))) (λ n=>Ct.St w0 M ((n,bV es c)::H)) :=
 fE λ w hw=>⟨w.heap.size,_,by
  have hr:=run_callFunc_extern (P:=prog) (f:=89) (e:=Extern.MapsClone.clone) func89 (by kernel_rfl) (by kernel_rfl) (by kernel_rfl) (by kernel_rfl) #[.iface t (.map (some b))] w;have he:ev S (.func 89)=.func (.func 89) #[] #[]:=rfl
  simp[execOp,resolve,Deferred.ofValue,invoke,hx,he,hr,Z4 prog t (hw.at ha),Result.andThen],hw.alloc _⟩
structure fz where
 b:Nat
 bm:Nat
 bi:Nat
 bv:Nat
abbrev Yj(bv:Nat):List MapEntry:=[⟨.int .i64 0,.agg ⟨[.map (some bv),.bool false]⟩,0⟩]
abbrev pP(m:Nat)(f:fz)(ve:List MapEntry)(vc:Nat):List (Nat×Obj):=[(f.b,.cells ⟨[.int .u64 (m:Int),.map (some f.bm),.map (some f.bi)]⟩ 120 (0,0)),(f.bm,bV (Yj f.bv) 1),(f.bi,bV [] 0),(f.bv,bV ve vc)]
section
variable{w:World}{D:List Nat}{A:Fr}{b c:Nat}{es:List MapEntry}
theorem w4(m:Nat)(w:World):Calls prog 24 #[.int .u64 (m:Int)] w λ e w'=>∃f:fz,e=.returned (pt f.b)/\True/\SF w [] (pP m f [] 0) [] [] [] w':=by refine enter func24 ntmps24 rfl rfl (SF.s0 w) ?_;simp only[bY];refine Kc1 ?_;refine aK (cK λ _=>lU) (λ x4=>?_);refine aK (cK λ _=>lU) (λ x5=>?_);refine bX ?_;refine aM (cK λ _=>v9 (K:=3) (E:=116) (dK:=.int .i64) (k:=.int .i64 0) (v:=.agg ⟨[.map (some x5),.bool false]⟩) (es:=[]) (c:=0) rf rf rf bU (by kernel_rfl) (by kernel_rfl) rfl rfl dV) (λ _=>?_);refine aD ?_;refine aK (cK λ _=>lU) (λ x8=>?_);refine bX ?_;refine bC (λ x10=>?_);refine J1 ?_;refine aP results24 (λ w hw=>?_);exact⟨⟨x10,x4,x8,x5⟩,rfl,trivial,(hw.perm (H':=[(x10,.cells ⟨[.int .u64 (m:Int),.map (some x4),.map (some x8)]⟩ 120 (0,0)),(x4,bV (Yj x5) 1),(x8,bV [] 0),(x5,bV [] 0)]) ((List.perm_append_comm (l₁:=[(x4,bV (Yj x5) 1)]) (l₂:=[(x8,bV [] 0),(x5,bV [] 0)])).cons _) (List.Perm.refl _)).eP⟩
end
theorem aCU(n:Nat)(w:World):(Instr.makeInterface 114 (.map (some n))).run prog w=.ok (.iface 114 (.map (some n))) w:=by kernel_rfl
theorem aDg(n:Nat)(w:World):(Instr.makeInterface 118 (.map (some n))).run prog w=.ok (.iface 118 (.map (some n))) w:=by kernel_rfl
section
variable{w:World}{D:List Nat}{A:Fr}{b c vc m:Nat}{es ve:List MapEntry}{u:fz}
theorem kv(hs:SF w D [(b,bV es c)] A [] [] w):Calls prog 61 #[.map (some b)] w λ e w'=>∃n:Nat,e=.returned (.map (some n))/\True/\SF w D ([(b,bV es c)]++[(n,bV es c)]) [] [] [] w':=by
 refine enter func61 ntmps61 rfl rfl hs ?_;simp only[bY];refine Ka5 ?_;refine aA (Fg (K:=9) (E:=23) rf rf (by kernel_rfl)) rfl ?_;refine aC ?_;refine aX (λ c4=>?_) (λ c4=>?_);·exact nomatch c4
 ·refine Kc6 ?_;refine aA (re rf (aCU _)) rfl ?_;(refine aK (cK λ _=>Sb rf bU) (λ x7=>?_));refine aA (V3 (K:=9) (E:=23) rf (by kernel_rfl)) rfl ?_;refine J1 ?_;refine aP results61 (λ w hw=>?_);exact⟨x7,rfl,trivial,(hw.perm (List.Perm.swap _ _ _) (List.Perm.refl _)).u9⟩
theorem Ru(hs:SF w D [(b,bV es c)] A [] [] w):Calls prog 60 #[.map (some b)] w λ e w'=>∃n:Nat,e=.returned (.map (some n))/\True/\SF w D ([(b,bV es c)]++[(n,bV es c)]) [] [] [] w':=by
 refine enter func60 ntmps60 rfl rfl hs ?_;simp only[bY];refine Ka5 ?_;refine aA (Fg (K:=3) (E:=166) rf rf (by kernel_rfl)) rfl ?_;refine aC ?_;refine aX (λ c4=>?_) (λ c4=>?_);·exact nomatch c4
 ·refine Kc6 ?_;refine aA (re rf (aDg _)) rfl ?_;(refine aK (cK λ _=>Sb rf bU) (λ x7=>?_));refine aA (V3 (K:=3) (E:=166) rf (by kernel_rfl)) rfl ?_;refine J1 ?_;refine aP results60 (λ w hw=>?_);exact⟨x7,rfl,trivial,(hw.perm (List.Perm.swap _ _ _) (List.Perm.refl _)).u9⟩
set_option maxRecDepth 100000 in
theorem ob(hs:SF w D (pP m u ve vc) A [] [] w):Calls prog 46 #[pt u.b] w λ e w'=>∃g:fz,e=.returned (pt g.b)/\True/\SF w D (pP m u ve vc++pP m g ve vc) [] [] [] w':=by
 refine enter func46 ntmps46 rfl rfl hs ?_;simp only[bY];refine kt ?_;refine wK [3,6,7,8,9,10,11,12,13,14,15,16,17,18,19,20,21,22] (λ j:Nat×Nat×Nat=>[(3,pt j.1)]) (λ _=>True) (λ j=>[(j.1,.cells ⟨[.int .u64 (m:Int),.map (some j.2.1),.map (some j.2.2)]⟩ 120 (0,0)),(j.2.1,bV [] 0),(j.2.2,bV [] 0)]++pP m u ve vc) (λ _=>[]) (λ _=>[]) (by decide) (λ _=>by exact rfl) ?_ (λ j f hx=>?_)
 ·refine oG (.one 0 [] (.one 1 [] (.one 2 [] (.one 3 [] (.one 4 [] (.one 5 [] (.one 6 [] (.one 7 [] (.one 8 [] (.one 10 [] (.one 11 [] (.one 12 [] (.one 13 [] (.two 9 [3,13] (.one 14 [3] (.one 15 [] (.one 16 [] (.one 17 [] .nil)))) 0 [] (.two 14 [3] (.one 9 [3,13] (.one 15 [] (.one 16 [] (.one 17 [] .nil)))) 0 [] .nil))))))))))))))) ?_;refine bs ?_;refine bI (i:=8) (hq:=(nT (ga (K:=3) (E:=116) rf bU (by kernel_rfl)))) (h:=?_);refine nZ ?_;refine nR (E:=[9,14]) (by decide +kernel) ((.cons ?_ (.cons ?_ .nil)));·refine rE (i:=9) (hq:=(cK λ _=>I4 (K:=3) (E:=116) (n:=1) rf (by kernel_rfl))) (h:=λ x15=>?_);refine bS (i:=14) (hq:=(Pq (V:=λ n:Nat=>.map (some n)) (hs:=[(u.bi,bV [] 0)]) (os:=[]) (hs':=λ _=>[(u.bi,bV [] 0)]) (Hc:=λ n=>[(n,bV [] 0)]) (os':=λ _=>[]) (Oc:=λ _=>[]) (Fc:=λ _=>[]) (A0:=[]) (hc:=λ w1 hw=>Ru hw))) (h:=λ x20 h20=>?_);refine kD ?_;refine K0 (h:=λ x22=>?_);refine J7 ?_;refine rX ((x22,x15,x20)) ?_ (hw1:=λ w hw=>by exact(hw.perm ((List.Perm.swap _ _ _).cons _) (List.Perm.refl _)).back (hH:=E1h) (hF:=by exact aT.nil) (hO:=E0q));·trivial
  ·refine Ch (i:=14) (hq:=(Pq (V:=λ n:Nat=>.map (some n)) (hs:=[(u.bi,bV [] 0)]) (os:=[]) (hs':=λ _=>[(u.bi,bV [] 0)]) (Hc:=λ n=>[(n,bV [] 0)]) (os':=λ _=>[]) (Oc:=λ _=>[]) (Fc:=λ _=>[]) (A0:=[]) (hc:=λ w1 hw=>Ru hw))) (h:=λ x20 h20=>?_);refine cB (i:=9) (hq:=(cK λ _=>I4 (K:=3) (E:=116) (n:=1) rf (by kernel_rfl))) (h:=λ x15=>?_);refine kD ?_;refine K0 (h:=λ x22=>?_);refine J7 ?_;refine rX ((x22,x15,x20)) ?_ (hw1:=λ w hw=>by exact hw.back (hH:=E1h) (hF:=by exact aT.nil) (hO:=E0q));·trivial
 refine K0a ?_;refine aU ?_;refine zG ?_;refine aK (cK λ _=>Qy (K:=3) (E:=116) rf bU (by kernel_rfl)) (λ x27=>?_);refine Kb2 ?_;refine R9 ?_;refine J0 ?_;refine aK (cK λ _=>tr (e:=⟨.int .i64 0,.agg ⟨[.map (some u.bv),.bool false]⟩,0⟩) rf bU bU (by simp) (by decide) (by kernel_rfl) dV) (λ x28=>?_);refine oL ?_;refine Bz ?_;refine aX (λ c29=>?_) (λ c29=>?_)
 ·refine bD ?_;refine bF ?_;refine J0 ?_;refine aA (nT (Zl (e:=⟨.int .i64 0,.agg ⟨[.map (some u.bv),.bool false]⟩,0⟩) rf bU bU (by simp) (by simp))) rfl ?_;refine J54 ?_;refine aI (λ x5=>?_);refine fD (λ _=>?_);refine J5 ?_;refine eQ [(0,[]),(1,[]),(2,[]),(3,[]),(4,[]),(5,[]),(6,[]),(8,[]),(9,[]),(7,[3,9]),(10,[]),(11,[])] ?_;refine nZ ?_;refine aR ?_;refine Kb8 ?_;refine bS (i:=7) (hq:=(Pq (V:=λ n:Nat=>.map (some n)) (hs:=[(u.bv,bV ve vc)]) (os:=[]) (hs':=λ _=>[(u.bv,bV ve vc)]) (Hc:=λ n=>[(n,bV ve vc)]) (os':=λ _=>[]) (Oc:=λ _=>[]) (Fc:=λ _=>[]) (A0:=[]) (hc:=λ w1 hw=>kv hw))) (h:=λ x40 h40=>?_);refine kD ?_;refine fC (i:=11) (hq:=(cK λ _=>Mb (K:=3) (E:=116) (dK:=.int .i64) (k:=.int .i64 0) (v:=.agg ⟨[.map (some x40),.bool false]⟩) (es:=[]) (c:=0) rf rf rf bU (by kernel_rfl) (by kernel_rfl) rfl rfl dV)) (h:=λ _=>?_);refine dY ?_;refine eX ?_;refine vt ?_;refine J0 ?_;refine aA (nT (mb rf bU bU (by simp) (by decide) (by kernel_rfl))) rfl ?_;refine oL ?_;refine Bz ?_;refine aX (λ c29=>?_) (λ c29=>?_);·exact nv c29
  ·refine K1o ?_;refine Kc4 ?_;refine aP results46 (λ w hw=>?_);exact⟨⟨j.1,j.2.1,j.2.2,x40⟩,rfl,trivial,(hw.pick [6,7,8,9,3,4,5,0] [1,2] 10).u9⟩
 ·exact nv c29
end
end
end Go.Proofs.YthblobahelfefaaGreatDoor

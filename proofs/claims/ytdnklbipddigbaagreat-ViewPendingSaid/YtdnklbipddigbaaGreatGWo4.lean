/- Merged. -/
import Derived.Test.YtdnklbipddigbaaGreatGTm2
import Derived.Test.YtdnklbipddigbaaGreatGRn1
import Derived.Test.YtdnklbipddigbaaGreatGEx18
import Derived.Test.YtdnklbipddigbaaGreatGKw5
set_option linter.unusedSimpArgs false
set_option linter.unusedVariables false
namespace Go.Proofs.YtdnklbipddigbaaGreat
open Go Go.RowKit Go.Ct
section
theorem trC_at{ts:List Tri}{j:Nat}(h:j<ts.length):((trC ts).drop (2*j)).take 2=[.int .i64 (ts.getD j ⟨0,false⟩).root,.bool (ts.getD j ⟨0,false⟩).ro]:=by
 induction ts generalizing j with
 | nil=>simp at h
 | cons t ts ih=>
  cases j with
  | zero=>simp[trC]
  | succ j=>have:=ih (j:=j) (by simpa using h);rw[show 2*(j+1)=2*j+1+1 by omega];simpa[trC] using this
section
variable{P:Program}{S:List (Nat×Value)}{d:Nat}{ty t t' e:TypeId}{pos:String}{af:Array Edge}{gd:Option (Nat×Bool)}{x y:Operand}{w0 w:World}{M:List Nat}{H:List (Nat×Obj)}{A F:Fr}{O:List Ow}{a:Option Addr}
theorem o_ldTr{ts:List Tri}{q:Nat}(hx:ev S x=.pointer (some ⟨ablk a,aoff a+2*q,none⟩))(ht:aggOf P t 2=true)(hf:FIn A F O a (trC ts))(hq:q<ts.length) :
  Quiet P S (SF w0 M H A F O) ⟨some d,.load t x,ty,pos,af,gd⟩ (.agg ⟨[.int .i64 (ts.getD q ⟨0,false⟩).root,.bool (ts.getD q ⟨0,false⟩).ro]⟩):=o_loadFA hx ht hf (trC_at hq) rfl
end
structure CalQ where
 key:ByteArray
 val:Int
 exp:Int
 pol:Int
 only:Bool
 t:Tri
 pos:Nat
def CalQ.cl(q:CalQ)(kind mask:Int):Cl:=⟨kind,q.t,0,0,0,0,0,mask,q.key,q.val,q.exp,q.pol,q.only⟩
def wrK(kind:Int):Prop:=kind=8∨kind=9∨kind=12∨kind=4
structure CalOk(kind:Int)(ts:List Tri)(q:CalQ):Prop where
 ky:q.key∈keys8
 mem:q.t∈ts
 ro:wrK kind->q.t.ro=false
theorem keys8_mem{v:Nat}(h:v<8):keys8.getD v ⟨#[]⟩∈keys8:=by
 have:v=0∨v=1∨v=2∨v=3∨v=4∨v=5∨v=6∨v=7:=by omega
 rcases this with rfl|rfl|rfl|rfl|rfl|rfl|rfl|rfl<;>simp[keys8]
theorem getD_trm{ts:List Tri}{j:Nat}(h:j<ts.length):ts.getD j ⟨0,false⟩∈ts:=by rw[gdg,List.getElem?_eq_getElem h];exact List.getElem_mem h
section
variable{P:Program}{S:List (Nat×Value)}{G:World->Prop}{d:Nat}{ty t t':TypeId}{pos:String}{af:Array Edge}{gd:Option (Nat×Bool)}{x y:Operand}
theorem o_remI{a b:Nat}(hx:ev S x=.int .i64 ((a:Nat):Int))(hy:ev S y=.int .i64 ((b:Nat):Int))(h0:b≠0):Quiet P S G ⟨some d,.binOp .rem t x y t',ty,pos,af,gd⟩ (.int .i64 ((a%b:Nat):Int)):=by have:=o_rem (P:=P) (G:=G) (d:=d) (ty:=ty) (pos:=pos) (af:=af) (gd:=gd) (t:=t) (t':=t') hx hy (by omega);rwa [Int.tmod_eq_emod_of_nonneg (by omega),<- Int.natCast_emod] at this
end
section
variable{bw bm tb:Nat}{D:List Nat}{A:Fr}{w:World}{mask:Int}{ts:List Tri}{pt pe:Option Addr}{kt ke ne:Nat}{l:List Int}{a:Option Addr}{c p:Nat}
set_option maxRecDepth 100000 in
set_option maxHeartbeats 2000000 in
theorem wcall_c(kind:Int)(hkd:7<=kind/\kind<=12)(hl:l.length<=17592186043904)(h0:0<ts.length)(hts:ts.length<=1000)(hr0:(ts.getD 0 ⟨0,false⟩).ro=false)
  (hs:SF w D [(tb,tpO a l c p),(bw,wobj bm mask pt ts.length kt pe ne ke)] [(a,refsC l)] [] [⟨pt,trC ts,kt,35,2⟩] w) :
  Calls Tryz.prog 38 #[.pointer (some ⟨bw,0,none⟩),.int .i64 kind,.pointer (some ⟨tb,0,none⟩)] w λ e w'=>∃q:CalQ,e=.returned (.agg ⟨clC (q.cl kind mask)⟩)/\CalOk kind ts q /\
   SF w D [(tb,tpO a l c q.pos),(bw,wobj bm mask pt ts.length kt pe ne ke)] [] [] [⟨pt,trC ts,kt,35,2⟩] w':=by
 refine enter Tryz.func38 Tryz.ntmps38 rfl rfl hs ?_;simp only[mkS];refine J0 ?_;refine j_alloc (λ x6=>?_);refine J80 ?_;refine k_joinG [7,12,13,14,15,16,17,18,19,20,21,22,23,24,25,26,27,28,29,30] (λ y:Nat×CalQ=>[(7,.pointer (some ⟨y.1,0,none⟩))]) (λ y=>y.2.key∈keys8) (λ y=>[(y.1,.cells ⟨clC (y.2.cl kind mask)⟩ 80 (0,0)),(x6,.cells ⟨clC ⟨0,⟨0,false⟩,0,0,0,0,0,0,⟨#[]⟩,0,0,0,false⟩⟩ 80 (0,0)),(tb,tpO a l c y.2.pos),(bw,wobj bm mask pt ts.length kt pe ne ke)]) (λ _=>[]) (λ _=>[⟨pt,trC ts,kt,35,2⟩]) (by decide) (λ _=>by exact rfl) ?_ (λ y f hx=>?_)
 ·refine k_drawF (.one 0 [] (.one 1 [] (.one 2 [] (.one 3 [] (.one 4 [] (.one 5 [] (.one 7 [] (.one 10 [] (.one 13 [] (.one 15 [] (.two 6 [4] (.two 8 [4] (.one 9 [] (.two 11 [4] (.one 12 [] (.two 14 [4] (.two 16 [4] (.one 17 [] (.one 18 [] (.one 19 [4] (.one 20 [] .nil)))) 0 [] (.two 19 [4] (.one 16 [4] (.one 17 [] (.one 18 [] (.one 20 [] .nil)))) 0 [] .nil)) 0 [] (.two 19 [4] (.one 14 [4] (.one 16 [4] (.one 17 [] (.one 18 [] (.one 20 [] .nil))))) 0 [] .nil))) 0 [] (.two 19 [4] (.one 11 [4] (.one 12 [] (.one 14 [4] (.one 16 [4] (.one 17 [] (.one 18 [] (.one 20 [] .nil))))))) 0 [] .nil))) 0 [] (.two 19 [4] (.one 8 [4] (.one 9 [] (.one 11 [4] (.one 12 [] (.one 14 [4] (.one 16 [4] (.one 17 [] (.one 18 [] (.one 20 [] .nil))))))))) 0 [] .nil)) 0 [] (.two 19 [4] (.one 6 [4] (.one 8 [4] (.one 9 [] (.one 11 [4] (.one 12 [] (.one 14 [4] (.one 16 [4] (.one 17 [] (.one 18 [] (.one 20 [] .nil)))))))))) 0 [] .nil)))))))))))) ?_;refine J67 ?_;refine J17 ?_;refine J17 ?_;refine r_move ?_;refine r_many (E:=[6,19]) (by decide +kernel) ((.cons ?_ (.cons ?_ .nil)))
  ·refine s_ownF (i:=6) (hq:=(cF1 (hc:=λ w1 hw=>key_c (hw.tape atT fin hl)))) (h:=λ x18 h18=>?_);refine r_many (E:=[8,19]) (by decide +kernel) ((.cons ?_ (.cons ?_ .nil)))
   ·refine s_ownF (i:=8) (hq:=(cF1 (hc:=λ w1 hw=>next_c 6 (hw.tape atT fin hl) (by decide) (by decide)))) (h:=λ x20 h20=>?_);refine r_convert ?_;refine r_many (E:=[11,19]) (by decide +kernel) ((.cons ?_ (.cons ?_ .nil)))
    ·refine s_ownF (i:=11) (hq:=(cF1 (hc:=λ w1 hw=>next_c 6 (hw.tape atT fin hl) (by decide) (by decide)))) (h:=λ x23 h23=>?_);refine r_convert ?_;refine r_many (E:=[14,19]) (by decide +kernel) ((.cons ?_ (.cons ?_ .nil)))
     ·refine s_ownF (i:=14) (hq:=(cF1 (hc:=λ w1 hw=>next_c 4 (hw.tape atT fin hl) (by decide) (by decide)))) (h:=λ x26 h26=>?_);refine r_many (E:=[16,19]) (by decide +kernel) ((.cons ?_ (.cons ?_ .nil)));·refine s_ownF (i:=16) (hq:=(cF1 (hc:=λ w1 hw=>next_c 3 (hw.tape atT fin hl) (by decide) (by decide)))) (h:=λ x28 h28=>?_);refine r_eql ?_;refine r_build ?_;refine r_alloc (h:=λ x7=>?_);refine J19 ?_;refine k_rj ((x7,⟨keys8.getD x18 ⟨#[]⟩,((x20:Nat):Int),((x23:Nat):Int),((x26:Nat):Int),((x28:Nat):Int)==0,⟨0,false⟩,tiN l (tiN l (tiN l (tiN l (tiN l p))))⟩)) ?_;·exact keys8_mem h18.1
      ·refine s_alloc (i:=19) (h:=λ x7=>?_);refine r_ownF (i:=16) (hq:=(cF1 (hc:=λ w1 hw=>next_c 3 (hw.tape atT fin hl) (by decide) (by decide)))) (h:=λ x28 h28=>?_);refine r_eql ?_;refine r_build ?_;refine J19 ?_;refine k_rj ((x7,⟨keys8.getD x18 ⟨#[]⟩,((x20:Nat):Int),((x23:Nat):Int),((x26:Nat):Int),((x28:Nat):Int)==0,⟨0,false⟩,tiN l (tiN l (tiN l (tiN l (tiN l p))))⟩)) ?_;·exact keys8_mem h18.1
     ·refine s_alloc (i:=19) (h:=λ x7=>?_);refine r_ownF (i:=14) (hq:=(cF1 (hc:=λ w1 hw=>next_c 4 (hw.tape atT fin hl) (by decide) (by decide)))) (h:=λ x26 h26=>?_);refine r_ownF (i:=16) (hq:=(cF1 (hc:=λ w1 hw=>next_c 3 (hw.tape atT fin hl) (by decide) (by decide)))) (h:=λ x28 h28=>?_);refine r_eql ?_;refine r_build ?_;refine J19 ?_;refine k_rj ((x7,⟨keys8.getD x18 ⟨#[]⟩,((x20:Nat):Int),((x23:Nat):Int),((x26:Nat):Int),((x28:Nat):Int)==0,⟨0,false⟩,tiN l (tiN l (tiN l (tiN l (tiN l p))))⟩)) ?_;·exact keys8_mem h18.1
    ·refine s_alloc (i:=19) (h:=λ x7=>?_);refine r_ownF (i:=11) (hq:=(cF1 (hc:=λ w1 hw=>next_c 6 (hw.tape atT fin hl) (by decide) (by decide)))) (h:=λ x23 h23=>?_);refine r_convert ?_;refine r_ownF (i:=14) (hq:=(cF1 (hc:=λ w1 hw=>next_c 4 (hw.tape atT fin hl) (by decide) (by decide)))) (h:=λ x26 h26=>?_);refine r_ownF (i:=16) (hq:=(cF1 (hc:=λ w1 hw=>next_c 3 (hw.tape atT fin hl) (by decide) (by decide)))) (h:=λ x28 h28=>?_);refine r_eql ?_;refine r_build ?_;refine J19 ?_;refine k_rj ((x7,⟨keys8.getD x18 ⟨#[]⟩,((x20:Nat):Int),((x23:Nat):Int),((x26:Nat):Int),((x28:Nat):Int)==0,⟨0,false⟩,tiN l (tiN l (tiN l (tiN l (tiN l p))))⟩)) ?_;·exact keys8_mem h18.1
   ·refine s_alloc (i:=19) (h:=λ x7=>?_);refine r_ownF (i:=8) (hq:=(cF1 (hc:=λ w1 hw=>next_c 6 (hw.tape atT fin hl) (by decide) (by decide)))) (h:=λ x20 h20=>?_);refine r_convert ?_;refine r_ownF (i:=11) (hq:=(cF1 (hc:=λ w1 hw=>next_c 6 (hw.tape atT fin hl) (by decide) (by decide)))) (h:=λ x23 h23=>?_);refine r_convert ?_;refine r_ownF (i:=14) (hq:=(cF1 (hc:=λ w1 hw=>next_c 4 (hw.tape atT fin hl) (by decide) (by decide)))) (h:=λ x26 h26=>?_);refine r_ownF (i:=16) (hq:=(cF1 (hc:=λ w1 hw=>next_c 3 (hw.tape atT fin hl) (by decide) (by decide)))) (h:=λ x28 h28=>?_);refine r_eql ?_;refine r_build ?_;refine J19 ?_;refine k_rj ((x7,⟨keys8.getD x18 ⟨#[]⟩,((x20:Nat):Int),((x23:Nat):Int),((x26:Nat):Int),((x28:Nat):Int)==0,⟨0,false⟩,tiN l (tiN l (tiN l (tiN l (tiN l p))))⟩)) ?_;·exact keys8_mem h18.1
  ·refine s_alloc (i:=19) (h:=λ x7=>?_);refine r_ownF (i:=6) (hq:=(cF1 (hc:=λ w1 hw=>key_c (hw.tape atT fin hl)))) (h:=λ x18 h18=>?_);refine r_ownF (i:=8) (hq:=(cF1 (hc:=λ w1 hw=>next_c 6 (hw.tape atT fin hl) (by decide) (by decide)))) (h:=λ x20 h20=>?_);refine r_convert ?_;refine r_ownF (i:=11) (hq:=(cF1 (hc:=λ w1 hw=>next_c 6 (hw.tape atT fin hl) (by decide) (by decide)))) (h:=λ x23 h23=>?_);refine r_convert ?_;refine r_ownF (i:=14) (hq:=(cF1 (hc:=λ w1 hw=>next_c 4 (hw.tape atT fin hl) (by decide) (by decide)))) (h:=λ x26 h26=>?_);refine r_ownF (i:=16) (hq:=(cF1 (hc:=λ w1 hw=>next_c 3 (hw.tape atT fin hl) (by decide) (by decide)))) (h:=λ x28 h28=>?_);refine r_eql ?_;refine r_build ?_;refine J19 ?_;refine k_rj ((x7,⟨keys8.getD x18 ⟨#[]⟩,((x20:Nat):Int),((x23:Nat):Int),((x26:Nat):Int),((x28:Nat):Int)==0,⟨0,false⟩,tiN l (tiN l (tiN l (tiN l (tiN l p))))⟩)) ?_;·exact keys8_mem h18.1
 dsimp only[mkU,List.map,List.cons_append,List.nil_append];have hy:=hx;refine J2 ?_;refine Kd4 ?_;(refine lcs 33 (λ g33=>?_) (λ g33=>?_)<;>(try (exfalso;omega))<;>((refine Ka3 ?_)));((refine j_yes ?_;refine j_eql ?_));refine j_pick ?_;refine Ka7 ?_;refine Kd4 ?_;(refine lcs 39 (λ g39=>?_) (λ g39=>?_)<;>refine Ka0 ?_);all_goals ((first|refine j_un ?_|(refine j_yes ?_;refine j_eql ?_));refine Ka4 ?_)
 all_goals (first|refine j_un ?_|(refine lcs 43 (λ g43=>?_) (λ g43=>?_)<;>refine Ka0 ?_))
 all_goals ((first|refine j_un ?_|(refine j_yes ?_;refine j_eql ?_));refine Ka4 ?_)
 all_goals (first|refine j_un ?_|(refine lcs 47 (λ g47=>?_) (λ g47=>?_)<;>refine Ka0 ?_))
 all_goals ((first|refine j_un ?_|(refine j_yes ?_;refine j_eql ?_));refine j_pick ?_;refine J73 ?_;refine j_nilCheck ?_;refine J85 ?_;refine j_ownF (cF1 (hc:=λ w1 hw=>next_c ts.length (hw.tape atT fin hl) (by omega) (by omega))) (λ x57 h57=>?_);refine J27 ?_;refine J69 ?_)
 all_goals
 refine k_lp [11,58,59,60,61,62,63,64,65,66,67,68,69,70,71,72,73,74,75,76,77,78,79,80,81,82,83,84,85,86,87,88,89,90,91,92,93,94,95,96,97,98,99,100] (λ z:Nat×Tri=>[(11,.int .i64 ((z.1:Nat):Int))]) (λ z=>z.1<=ts.length) (λ z=>[(y.1,.cells ⟨clC (({y.2 with t:=z.2}:CalQ).cl kind mask)⟩ 80 (0,0)),(x6,.cells ⟨clC ⟨0,⟨0,false⟩,0,0,0,0,0,0,⟨#[]⟩,0,0,0,false⟩⟩ 80 (0,0)),(tb,tpO a l c (tiN l y.2.pos)),(bw,wobj bm mask pt ts.length kt pe ne ke)]) (λ _=>_) (λ _=>_) (λ z=>ts.length-z.1) ((0,y.2.t)) (Nat.zero_le _) (λ z f hx=>?_);dsimp only[mkU,List.map,List.cons_append,List.nil_append];all_goals (refine J65 ?_;refine j_nilCheck ?_;refine J85 ?_;refine J47 ?_)
 all_goals
  refine kif (λ c64=>?_) (λ c64=>?_)
  ·all_goals try (exfalso;omega)
   all_goals (refine J37 ?_;refine k_seq ?_;refine k_dq [0,1,2,3,4,5,6,7,8,9,10,11,12,13,14,15,16] ?_;refine J14 ?_;refine J17 ?_;refine r_ownP (i:=6) (hq:=(o_addN (m:=x57) (n:=z.1) rf rf (by omega))) (h:=?_);refine J14 ?_;refine r_len ?_;refine r_ownP (i:=12) (hq:=(o_remI (a:=x57+z.1) (b:=ts.length) rf rf (by omega))) (h:=?_);refine r_ownQ (i:=13) (hq:=(o_ix2 (cs:=trC ts) (k:=(x57+z.1)%ts.length) rf rf sl1 ag1 fin (Nat.mod_lt _ h0) (by rw[trC_length];have:=Nat.mod_lt (x57+z.1) h0;omega))) (h:=?_);refine r_ownQ (i:=14) (hq:=(o_ldTr (ts:=ts) (q:=(x57+z.1)%ts.length) rf ag1 fin (Nat.mod_lt _ h0))) (h:=?_);refine r_fieldAddr ?_;refine r_own0 (i:=16) (hq:=(lSF λ _=>o_storePart (off:=1) (vs:=[.int .i64 (ts.getD ((x57+z.1)%ts.length) ⟨0,false⟩).root,.bool (ts.getD ((x57+z.1)%ts.length) ⟨0,false⟩).ro]) rf atT rf rfl ag1 (Nat.le_of_ble_eq_true rfl) rf se2)) (h:=λ _=>?_);refine r_fin ?_;refine J0 ?_;refine j_fieldAddr ?_;refine Ke9 ?_)
   all_goals ((refine lcs 86 (λ g86=>?_) (λ g86=>?_)<;>refine Ka0 ?_))
   all_goals ((first|refine j_un ?_|(refine j_yes ?_;refine j_not ?_));refine Ka4 ?_)
   all_goals (first|(refine Kc9 ?_)|(refine lcs 90 (λ g90=>?_) (λ g90=>?_)<;>(try (exfalso;omega))<;>(refine j_un ?_)))
   all_goals (refine Ka1 ?_;refine Ka2 ?_;(first|refine j_un ?_|(refine j_yes ?_;refine j_not ?_));refine Ka0 ?_)
   all_goals (first|refine j_unu ?_|(refine lcs 95 (λ g95=>?_) (λ g95=>?_)<;>refine Ka0 ?_))
   all_goals ((first|refine j_un ?_|refine j_unu ?_|(refine j_yes ?_;refine j_not ?_));(first|refine j_un ?_|(refine j_yes ?_;refine j_pick ?_));refine Ke8 ?_)
   all_goals
   refine kif (λ c99=>?_) (λ c99=>?_)
   ·try exact nv c99
    all_goals (refine J25 ?_;refine J5 ?_)
    all_goals refine k_rt Tryz.results38 (λ w hw=>?_);exact⟨{y.2 with t:=ts.getD ((x57+z.1)%ts.length) ⟨0,false⟩,pos:=tiN l y.2.pos},rfl,⟨hy,getD_trm (Nat.mod_lt _ h0),λ hk=>by first|(simp_all;done)|(unfold wrK at hk;exfalso;omega)⟩,hw.finH⟩
   ·try exact nv c99
    all_goals try (exfalso;omega)
    all_goals (refine Kd1 ?_)
    all_goals refine k_rd ((z.1+1,ts.getD ((x57+z.1)%ts.length) ⟨0,false⟩)) ?_;·omega
  ·all_goals try (exfalso;omega)
   all_goals (refine k_exit rfl ?_;refine J26 ?_;refine l_quiet (o_ix2 (cs:=trC ts) (k:=0) rf rf sl1 ag1 fin h0 (by rw[trC_length];omega)) rfl ?_;refine l_quiet (o_ldTr (ts:=ts) (q:=0) rf ag1 fin h0) rfl ?_;refine j_fieldAddr ?_;refine j_own0 (lSF λ _=>o_storePart (off:=1) (vs:=[.int .i64 (ts.getD 0 ⟨0,false⟩).root,.bool (ts.getD 0 ⟨0,false⟩).ro]) rf atT rf rfl ag1 (Nat.le_of_ble_eq_true rfl) rf se2) (λ _=>?_);refine l_nil ?_;refine J25 ?_;refine J5 ?_)
   all_goals
   refine k_rt Tryz.results38 (λ w hw=>?_);exact⟨{y.2 with t:=ts.getD 0 ⟨0,false⟩,pos:=tiN l y.2.pos},rfl,⟨hy,getD_trm h0,λ _=>hr0⟩,hw.finH⟩
end
end
section
section
variable{H:ByteArray->Nat}{σ τ υ:Kw}
structure Set1(H:ByteArray->Nat)(σ υ:Kw)(c v:Int):Prop where
 le:Le σ υ
 inv:Inv H υ
 at':υ.ce c=v
 other:∀x,x≠c->υ.ce x=σ.ce x
def Frm(σ τ:Kw)(i:Int):Prop:=∀c:Int,1<=c->c<=σ.cl->σ.ct c≠.main i->(∀m,σ.ct c≠.prev m)->τ.ce c=σ.ce c
theorem Frm.refl(σ:Kw)(i:Int):Frm σ σ i:=λ _ _ _ _ _=>rfl
theorem Frm.trans{i:Int}(l:Le σ τ)(h:Frm σ τ i)(h2:Frm τ υ i):Frm σ υ i:=λ c h1 hc a b=>by have e:=l.ct c hc;rw[h2 c h1 (by have:=l.cl;omega) (by rw[e];exact a) (λ m=>by rw[e];exact b m)];exact h c h1 hc a b
theorem frm_set{c v i:Int}(h:Set1 H σ υ c v)(hc:σ.ct c=.main i∨∃m,σ.ct c=.prev m):Frm σ υ i:=λ x _ _ a b=>h.other x λ e=>by
 subst e;rcases hc with hc|⟨m,hc⟩;·exact a hc
 ·exact b m hc
theorem frm_push{n:Nv}{x i:Int}(l:Le σ υ)(e:υ.mm=σ.mm.push n x):Frm σ υ i:=λ c' _ hc _ _=>by
 have e2:υ.mm.cs=alCs n.kind σ.mm.cs x:=by rw[e];rfl
 show cellV υ.mm.cs c'=_;rw[e2];unfold alCs;split;·exact cellV_app hc
 ·rfl
end
end
section
structure Xp where
 H:ByteArray->Nat
 Q:Rs->Kw->Prop
 A:Tr->Prop
 C:Nat
 E:Kw->Prop
 R:Int->Int->Tr->Kw->Prop
 b:Bool
 al:Bool
structure Gg(X:Xp)(σ τ:Kw):Prop where
 le:Le σ τ
 inv:Inv X.H τ
 solo:X.b=false->τ=σ
def XT(X:Xp):Tr->Nat->Kw->Prop
 | .done r,_,σ=>X.E σ∨X.Q r σ
 | .load c k,n,σ=>X.E σ∨∃m,(n=m+1∨(X.A (.load c k)/\m=X.C))/\∀τ,Gg X σ τ->XT X (k (τ.ce c)) m τ
 | .cas c o v k,n,σ=>X.E σ∨∃m,n=m+1/\∀τ,Gg X σ τ->(CasOk τ.mm.cs c o->Le τ (τ.set c o v)/\Inv X.H (τ.set c o v)/\X.R c v (k true) (τ.set c o v)/\XT X (k true) m (τ.set c o v))/\(¬CasOk τ.mm.cs c o->XT X (k false) m τ)
 | .alloc nd i k,n,σ=>X.E σ∨((nd.kind=2->Settled σ i)/\(X.al=true->∀υ,Le σ υ->Inv X.H υ->υ.mm=σ.mm.push nd i->XT X (k ((σ.len+1:Nat):Int)) n υ)/\(X.al=false->∃υ,Le σ υ/\Inv X.H υ/\υ.mm=σ.mm.push nd i/\XT X (k ((σ.len+1:Nat):Int)) n υ))
 | .cell i k,n,σ=>X.E σ∨((σ.nd i).kind=2/\(X.al=true->∀υ,Le σ υ->Inv X.H υ->υ.mm=⟨σ.mm.nodes,σ.mm.cs++[i],σ.mm.gen⟩->XT X (k ((σ.cl+1:Nat):Int)) n υ)/\(X.al=false->∃υ,Le σ υ/\Inv X.H υ/\υ.mm=⟨σ.mm.nodes,σ.mm.cs++[i],σ.mm.gen⟩/\XT X (k ((σ.cl+1:Nat):Int)) n υ))
 | .gen k,n,σ=>X.E σ∨((X.al=true->∀υ,Le σ υ->Inv X.H υ->υ.mm=⟨σ.mm.nodes,σ.mm.cs,σ.mm.gen+1⟩->XT X (k (σ.mm.gen+1)) n υ)/\(X.al=false->∃υ,Le σ υ/\Inv X.H υ/\υ.mm=⟨σ.mm.nodes,σ.mm.cs,σ.mm.gen+1⟩/\XT X (k (σ.mm.gen+1)) n υ))
 | .node r k,n,σ=>X.E σ∨(r<=σ.len/\XT X (k (σ.nd r)) n σ)
 | .stuck,_,_=>True
section
variable{X:Xp}{σ τ υ:Kw}
theorem Gg.refl(i:Inv X.H σ):Gg X σ σ:=⟨Le.refl σ,i,λ _=>rfl⟩
theorem Gg.trans(i0:Inv X.H σ)(h:Gg X σ τ)(h2:Gg X τ υ):Gg X σ υ:=⟨h.le.trans i0 h.inv h2.le,h2.inv,λ e=>(h2.solo e).trans (h.solo e)⟩
theorem XT.stop{t:Tr}{n:Nat}(h:X.E σ):XT X t n σ:=by cases t<;>first|exact .inl h|trivial
theorem XT.mono:∀{t:Tr} {n m:Nat} {σ:Kw},n<=m->XT X t n σ->XT X t m σ:=by
 intro t;induction t with
 | done r=>intro n m σ _ h;exact h
 | stuck=>intro n m σ _ _;trivial
 | load c k ih=>
  intro n m σ hnm h;rcases h with h|⟨q,e,h⟩;·exact .inl h
  ·rcases e with e|e;·exact .inr ⟨m-1,.inl (by omega),λ τ hg=>ih _ (by omega) (h τ hg)⟩
   ·exact .inr ⟨q,.inr e,h⟩
 | cas c o v k ih=>
  intro n m σ hnm h;rcases h with h|⟨q,e,h⟩;·exact .inl h
  ·refine .inr ⟨m-1,by omega,λ τ hg=>⟨λ hc=>?_,λ hc=>ih _ (by omega) ((h τ hg).2 hc)⟩⟩;obtain⟨a,b,r,d⟩:=(h τ hg).1 hc;exact⟨a,b,r,ih _ (by omega) d⟩
 | alloc nd i k ih=>
  intro n m σ hnm h;rcases h with h|⟨a,b,d⟩;·exact .inl h
  ·refine .inr ⟨a,λ ha υ l i1 e=>ih _ hnm (b ha υ l i1 e),λ ha=>?_⟩;obtain⟨υ,l,i1,e,d⟩:=d ha;exact⟨υ,l,i1,e,ih _ hnm d⟩
 | cell i k ih=>
  intro n m σ hnm h;rcases h with h|⟨a,b,d⟩;·exact .inl h
  ·refine .inr ⟨a,λ ha υ l i1 e=>ih _ hnm (b ha υ l i1 e),λ ha=>?_⟩;obtain⟨υ,l,i1,e,d⟩:=d ha;exact⟨υ,l,i1,e,ih _ hnm d⟩
 | gen k ih=>
  intro n m σ hnm h;rcases h with h|⟨b,d⟩;·exact .inl h
  ·refine .inr ⟨λ ha υ l i1 e=>ih _ hnm (b ha υ l i1 e),λ ha=>?_⟩;obtain⟨υ,l,i1,e,d⟩:=d ha;exact⟨υ,l,i1,e,ih _ hnm d⟩
 | node r k ih=>
  intro n m σ hnm h;rcases h with h|⟨a,d⟩;·exact .inl h
  ·exact .inr ⟨a,ih _ hnm d⟩
theorem XT.fresh{c:Int}{k:Int->Tr}{n:Nat}(ha:X.A (.load c k))(h:XT X (.load c k) (X.C+1) σ):XT X (.load c k) n σ:=by
 rcases h with h|⟨q,e,h⟩;·exact .inl h
 ·refine .inr ⟨X.C,.inr ⟨ha,rfl⟩,λ τ hg=>?_⟩;have:=h τ hg;rcases e with e|e;·rwa [show q=X.C by omega] at this
  ·rwa [e.2] at this
theorem node_x{r:Int}{k:Nv->Tr}{n:Nat}(h:r<=σ.len)(w:XT X (k (σ.nd r)) n σ):XT X (.node r k) n σ:=.inr ⟨h,w⟩
theorem load_x{c:Int}{k:Int->Tr}{n:Nat}(h:∀τ,Gg X σ τ->XT X (k (τ.ce c)) n τ):XT X (.load c k) (n+1) σ:=.inr ⟨n,.inl rfl,h⟩
structure CasF(X:Xp)(σ τ:Kw)(c o v:Int)(bb:Bool):Prop where
 t:bb=true->τ.ce c=v
 f:bb=false->τ.ce c≠o
 s:X.b=false->(bb=true/\σ.ce c=o/\Set1 X.H σ τ c v)∨(bb=false/\τ=σ)
structure Xok(X:Xp):Prop where
 r0:∀c v t υ,(∀i,υ.ct c≠.main i)->υ.ct c≠.root->X.R c v t υ
 r1:∀c v t υ i,υ.ct c=.main i->Settled υ v->X.R c v t υ
 r2:∀υ t i w g m K,Inv X.H υ->TrieOk υ t->InG υ i w g->IsM υ m w g->X.R (υ.nd i).main m (settleT t i m K) υ
 r3:∀c v t υ,υ.ct c=.root->(υ.nd v).kind=2->X.R c v t υ
 r4:∀υ t d (K:Int->Int->Tr),Inv X.H υ->TrieOk υ t->t.ro=false->(υ.nd d).kind=8->X.R t.root d (decideT t d (.node d λ nd=>.load nd.status λ s=>cmpT t d s (K s))) υ
theorem cas_x{c o v:Int}{k:Bool->Tr}{n:Nat}(h1:1<=c)(h2:c<=σ.cl)(i0:Inv X.H σ)(hset:∀τ,Le σ τ->Inv X.H τ->CasOk τ.mm.cs c o->SetOk τ c o v)
  (hR:∀υ,Le σ υ->Inv X.H υ->υ.ce c=v->X.R c v (k true) υ)
  (hk:∀τ bb,Le σ τ->Inv X.H τ->CasF X σ τ c o v bb->XT X (k bb) n τ):XT X (.cas c o v k) (n+1) σ :=
 .inr ⟨n,rfl,λ τ hg=>⟨λ hc=>by
  obtain⟨l2,i2,e3⟩:=set_okC hg.inv hc (hset τ hg.le hg.inv hc)
  have l:=hg.le.trans i0 hg.inv l2
  refine⟨l2,i2,hR _ l i2 e3,hk _ true l i2 ⟨λ _=>e3,λ h=>(nomatch h),λ hb=>.inl ⟨rfl,?_⟩⟩⟩
  have e:=hg.solo hb
  subst e
  refine⟨casOk_ce hc,l2,i2,e3,λ x hx=>?_⟩
  show cellV (casL τ.mm.cs c o v) x=_
  rw[cellV_cas hc,if_neg hx],
 λ hc=>hk τ false hg.le hg.inv ⟨λ h=>(nomatch h),λ _=>casNo h1 (by have:=hg.le.cl;simp only[Kw.cl] at *;omega) hc,λ hb=>.inr ⟨rfl,hg.solo hb⟩⟩⟩⟩
variable{w:List Nat}{g:Int}
theorem cellV_end(cs:List Int)(x:Int):cellV (cs++[x]) ((cs.length+1:Nat):Int)=x:=by unfold cellV;rw[if_pos ⟨by omega,by simp⟩,show(((cs.length+1:Nat):Int)-1).toNat=cs.length by omega];simp[gdg]
structure AlN(σ υ:Kw)(n:Nv)(c r:Int):Prop where
 mm:υ.mm=σ.mm.push n c
 re:r=((σ.len+1:Nat):Int)
 nd:υ.nd r=alNv n σ.cl
 r1:1<=r
 r2:r<=υ.len
structure AlF(σ υ:Kw)(n:Nv)(c r:Int)(w:List Nat)(g:Int):Prop extends AlN σ υ n c r where
 way:υ.way r=w
 gb:υ.gb r=g
theorem alN_of{n:Nv}{c:Int}(e:υ.mm=σ.mm.push n c):AlN σ υ n c ((σ.len+1:Nat):Int):=by
 have hl:υ.len=σ.len+1:=by simp only[Kw.len,e,Mm.push,List.length_append,List.length_cons,List.length_nil]
 refine⟨e,rfl,?_,by omega,by omega⟩;show ndAt υ.mm.nodes _=_;rw[e];simp only[Mm.push,ndAt,List.length_append,List.length_cons,List.length_nil];rw[if_pos ⟨by omega,by simp only[Kw.len];omega⟩];have e:(((σ.len+1:Nat):Int)-1).toNat=σ.mm.nodes.length:=by simp only[Kw.len];omega
 rw[e];simp[gdg]
theorem AlN.ce{n:Nv}{c r x:Int}(h:AlN σ υ n c r)(hx:x<=σ.cl):υ.ce x=σ.ce x:=by
 have e2:υ.mm.cs=alCs n.kind σ.mm.cs c:=by rw[h.mm];rfl
 show cellV υ.mm.cs x=_;rw[e2];unfold alCs;split;·exact cellV_app hx
 ·rfl
theorem AlN.frm{n:Nv}{c r i:Int}(h:AlN σ υ n c r)(l:Le σ υ):Frm σ υ i:=frm_push l h.mm
theorem AlN.new{n:Nv}{c r:Int}(h:AlN σ υ n c r)(hk:n.kind=2∨n.kind=3∨n.kind=5∨n.kind=6∨n.kind=8):υ.ce ((σ.cl+1:Nat):Int)=c:=by
 have e2:υ.mm.cs=σ.mm.cs++[c]:=by rw[h.mm];unfold Mm.push alCs;dsimp only;rw[if_pos hk]
 show cellV υ.mm.cs _=c;rw[e2];exact cellV_end _ _
theorem AlN.prev{n:Nv}{c r:Int}(h:AlN σ υ n c r)(hk:MainK n):υ.ce (υ.nd r).prev=c:=by have hk':n.kind=3∨n.kind=5∨n.kind=6:=hk;rw[h.nd,show(alNv n σ.cl).prev=((σ.cl+1:Nat):Int) from if_pos hk'];exact h.new (by omega)
theorem AlN.main{n:Nv}{c r:Int}(h:AlN σ υ n c r)(hk:n.kind=2):υ.ce (υ.nd r).main=c:=by rw[h.nd,show(alNv n σ.cl).main=((σ.cl+1:Nat):Int) from if_pos hk];exact h.new (.inl hk)
theorem AlN.stat{n:Nv}{c r:Int}(h:AlN σ υ n c r)(hk:n.kind=8):υ.ce (υ.nd r).status=c:=by rw[h.nd,show(alNv n σ.cl).status=((σ.cl+1:Nat):Int) from if_pos hk];exact h.new (.inr (.inr (.inr (.inr hk))))
theorem alloc_x{nd:Nv}{c:Int}{k:Int->Tr}{n:Nat}(hal:X.al=false)(i0:Inv X.H σ)(hn:NewOk X.H σ nd w g)(hc:InOk σ nd c w g)
  (hk:∀υ r,Le σ υ->Inv X.H υ->AlF σ υ nd c r w g->XT X (k r) n υ) (h2:nd.kind=2->Settled σ c:=by intro h;first|exact no_k (a:=3) (b:=2) h|exact no_k (a:=4) (b:=2) h|exact no_k (a:=5) (b:=2) h|exact no_k (a:=6) (b:=2) h|exact no_k (a:=7) (b:=2) h|exact no_k (a:=8) (b:=2) h|exact absurd h (MainK.ne0 (by assumption)).2.2.1):XT X (.alloc nd c k) n σ:=by obtain⟨υ,l2,i2,e2,e3,e4,e5⟩:=al_ok i0 hn hc;exact .inr ⟨h2,λ h=>(by rw[hal] at h;cases h),λ _=>⟨υ,l2,i2,e2,hk υ _ l2 i2 ⟨alN_of e2,e4,e5⟩⟩⟩
theorem alloc_f{nd:Nv}{c:Int}{k:Int->Tr}{n:Nat}(i0:Inv X.H σ)(hn:NewOk X.H σ nd w g)(hc:InOk σ nd c w g)(h2:nd.kind≠2)
  (hk:∀υ r,Le σ υ->Inv X.H υ->AlN σ υ nd c r->XT X (k r) n υ):XT X (.alloc nd c k) n σ:=by obtain⟨υ,l2,i2,e2,e3,e4,e5⟩:=al_ok i0 hn hc;exact .inr ⟨λ h=>absurd h h2,λ _ υ l i1 e=>hk υ _ l i1 (alN_of e),λ _=>⟨υ,l2,i2,e2,hk υ _ l2 i2 (alN_of e2)⟩⟩
end
end
end Go.Proofs.YtdnklbipddigbaaGreat

/- Merged. -/
import Derived.Test.YtdnklbipddigbaaGreatGVw4
import Derived.Test.YtdnklbipddigbaaGreatGWo6
import Derived.Test.YtdnklbipddigbaaGreatGKw5
set_option linter.unusedSimpArgs false
set_option linter.unusedVariables false
namespace Go.Proofs.YtdnklbipddigbaaGreat
open Go.Proofs.Tryz (prog)
section
open Go Go.RowKit Go.Ct
section
variable{L:List NdV}{cs:List Int}{gen:Int}{pn pc:Option Addr}{cn cc:Nat}{w:World}
theorem travO_some{c:Int}{l:List Int}(h:travO L cs gen c=some l):Proper L cs gen/\∃r t,rootO (L.map NdV.c) cs c=some r/\vis (L.map NdV.c) cs 12 r []=some (r::t)/\l=r::t:=by
 unfold travO at h;split at h;·rename_i hp;obtain⟨r,hr,h⟩:=Option.bind_eq_some_iff.1 h;obtain⟨t,ht⟩:=vis_pre 12 r [] l h;rw[List.nil_append] at ht;exact⟨hp,r,t,hr,by rw[h,ht],ht⟩
 ·cases h
theorem vInner_ok(h:StAt w L cs pn pc)(hr:Rngs L)(hl:L.length<=274877906944)(hc:cs.length<=274877906944)(hcn:L.length<=cn)(c:Int)(ro:Bool)(hi:c<=9223372036854775807){l:List Int}(hn:travO L cs gen c=some l):Calls prog 54 #[stG L cs gen pn cn pc cc,.agg ⟨[.int .i64 c,.bool ro]⟩] w λ e w'=>∃x:Option Addr×Nat,e=.returned (.tuple #[.slice x.1 l.length x.2,.int .i64 0])/\l.length<=L.length/\SF w [] [] [] [(x.1,refsC l)] [] w':=by
 refine enter Tryz.func54 Tryz.ntmps54 rfl rfl h.start ?_;simp only[mkS];simp only[stG];refine J0 ?_;refine j_box (λ x2=>?_);refine j_box (λ x3=>?_);refine J8 ?_;refine J25 ?_;refine j_load ?_;refine j_ownF (cFH (Fc:=λ _=>[]) (hc:=λ w1 hw=>traverse_ok (h.of0 hw) hr hl hc hcn c ro hi hn)) (λ x11 h11=>?_);refine Kb9 ?_;refine J33 ?_;refine kif (λ c15=>?_) (λ c15=>?_);·exact nv c15
 ·refine J83 ?_;refine J8 ?_;refine k_rt Tryz.results54 (λ w hw=>?_);obtain⟨e1,e2⟩:=h11;rw[e1] at hw ⊢;exact⟨(x11.2.2.p,x11.2.2.c),rfl,e2,(hw.freeze (.tail .head)).fin⟩
theorem vCont_ok(h:StAt w L cs pn pc)(hr:Rngs L)(hl:L.length<=274877906944)(hc:cs.length<=274877906944)(hcn:L.length<=cn)(c:Int)(ro:Bool)(hi:c<=9223372036854775807){l:List Int}(hn:travO L cs gen c=some l)(hpl:(col (L.map NdV.c) cs 12 (l.headD 0)).length<=549755813888):Calls prog 53 #[stG L cs gen pn cn pc cc,.agg ⟨[.int .i64 c,.bool ro]⟩] w λ e w'=>∃x:Option Addr×Nat,e=.returned (.tuple #[.slice x.1 (col (L.map NdV.c) cs 12 (l.headD 0)).length x.2,.int .i64 0])/\True/\SF w [] [] [] [(x.1,prC (col (L.map NdV.c) cs 12 (l.headD 0)))] [] w':=by
 obtain⟨hp,r,t,hrt,hv,e⟩:=travO_some hn;have hb:=stB_of hp hr hl;obtain⟨k,hk,hkl⟩:=root_in hrt;subst e;refine enter Tryz.func53 Tryz.ntmps53 rfl rfl (h.start.nilOwn 106 2) ?_;simp only[mkS];simp only[stG];refine J0 ?_;refine j_box (λ x2=>?_);refine j_box (λ x3=>?_);refine J8 ?_;refine J25 ?_;refine j_load ?_;refine j_ownF (cFH (Fc:=λ _=>[]) (hc:=λ w1 hw=>traverse_ok (h.of0 hw) hr hl hc hcn c ro hi hn)) (λ x11 h11=>?_);refine Kb9 ?_;refine J33 ?_;refine kif (λ c15=>?_) (λ c15=>?_);·exact nv c15
 ·obtain⟨e1,e2⟩:=h11;have e3:x11.2.2.l.length=(List.cons r t).length:=by rw[e1]
  rw[List.length_cons] at e3;refine J58 ?_;refine j_nilCheck ?_;refine J3 ?_;refine l_quiet (o_indexR (k:=0) (lst:=x11.2.2.l) rf rf sl1 on1 fin (by omega) (by omega)) rfl ?_;refine l_quiet (o_loadR (q:=0) (lst:=x11.2.2.l) rf on1 fin (by omega)) rfl ?_;refine j_ownF (cM (hs:=[(x11.1,tcO L cs gen pn cn pc cc (.slice (some ⟨x11.2.1,0,none⟩) L.length L.length) (.slice x11.2.2.p x11.2.2.l.length x11.2.2.c) ⟨[],none,0⟩)]) (os:=tcW ⟨[],none,0⟩) (hc:=λ w1 hs=>by have:=collect_c (gen:=gen) (cn:=cn) (cc:=cc) h.fit hb hl hc x11.1 (.slice (some ⟨x11.2.1,0,none⟩) L.length L.length) (.slice x11.2.2.p x11.2.2.l.length x11.2.2.c) 12 r ⟨[],none,0⟩ _ w1 (by omega) ⟨[],_,hv⟩ (by simpa using hpl) hs;rw[e1];exact this)) (λ x23 h23=>?_);refine l_nil ?_;refine J26 ?_;refine J8 ?_;refine k_rt Tryz.results53 (λ w hw=>?_);have e4:x23.ps=col (L.map NdV.c) cs 12 ((List.cons r t).headD 0):=by simpa using h23
  rw[e4] at hw ⊢;exact⟨(x23.p,x23.c),rfl,trivial,(hw.freeze (.tail (.tail .head))).fin⟩
end
end
section
open Go Go.RowKit Go.Ct
section
variable{L:List NdV}{cs:List Int}{gen:Int}{pn pc:Option Addr}{cn cc:Nat}{w:World}
open Classical in
noncomputable def inP (L:List NdV) (cs:List Int) (gen:Int) (o:Option Int):Option Int:=if Proper L cs gen then o else none
theorem vMainG_c(h:StAt w L cs pn pc)(hr:Rngs L)(hl:L.length<=274877906944)(hc:cs.length<=274877906944)(hcn:L.length<=cn)(i:Int)(hi:i<=9223372036854775807):Calls prog 14 #[stG L cs gen pn cn pc cc,.int .i64 i] w λ e w'=>e=.returned (.tuple #[.int .i64 ((inP L cs gen (bodyO (L.map NdV.c) cs i)).getD 0),.bool (inP L cs gen (bodyO (L.map NdV.c) cs i)).isSome])/\St w [] [] w':=by
 refine enter Tryz.func14 Tryz.ntmps14 rfl rfl h.start ?_;simp only[mkS];simp only[stG];refine J0 ?_;refine j_box (λ x2=>?_);refine Kd8 ?_;refine J25 ?_;refine j_ownF (c0 (V:=.bool) (hc:=λ w1 hw=>vProper_c (h.of0 hw) hl hc hcn)) (λ x7 h7=>?_);refine J33 ?_;refine kif (λ c8=>?_) (λ c8=>?_)
 ·have hn:¬Proper L cs gen:=λ hp=>by rw[h7.2 hp] at c8;cases c8
  refine J66 ?_;refine k_rt Tryz.results14 (λ w hw=>?_);unfold inP;rw[if_neg hn];exact⟨rfl,hw.done⟩
 ·have hp:Proper L cs gen:=h7.1 (by simpa using c8);refine k_skip ?_;refine J71 ?_;refine j_own (cV (hc:=λ w1 hw=>vMain_c (h.of0 hw) (stB_of hp hr hl) hl hc i hi)) (λ x11=>?_);refine J54 ?_;refine J8 ?_;refine k_rt Tryz.results14 (λ w hw=>?_);unfold inP;rw[if_pos hp];exact⟨rfl,hw.done⟩
end
end
section
open Go Go.RowKit Go.Ct
theorem l4_ok(x y:AX)(acc:Int)(pn:Option Addr)(cn:Nat)(pc:Option Addr)(cc:Nat):(XS.new (L4 x y) [0,3,4] 1 acc pn cn pc cc).Ok:=by
 have hmem:∀v∈L4 x y,v=markV∨v=alV ndC0 [] [] 0 x∨v=alV (ndI0 1) [] [] 1 y:=λ v hv=>by simp[L4] at hv;exact hv
 refine⟨λ v hv=>?_,λ v hv=>?_,λ v hv=>?_,(λ v hv=>nomatch hv),(λ v hv=>nomatch hv),by show 2<=4;decide,by show 4<=_;decide,by show 3<=_;decide,Nat.zero_le _,Nat.le_refl _,Nat.le_refl _,Nat.le_refl _,Nat.le_refl _,Nat.zero_le _,λ v hv=>?_,by show(0:Int)<=1;decide,(λ i j _ hj=>absurd hj (Nat.not_lt_zero j)),(λ v hv=>nomatch hv)⟩
 ·rcases hmem v hv with rfl|rfl|rfl;·exact⟨rfl,rfl,by decide,by decide⟩
  ·exact fit_al (by decide) (by decide)
  ·exact fit_al (by decide) (by decide)
 ·have z:(0:Int)<=((4:Nat):Int):=by decide
  have z3:(0:Int)<=((3:Nat):Int):=by decide
  rcases hmem v hv with rfl|rfl|rfl;·exact⟨z,z,z,(λ r hr=>nomatch hr),z3,z3,z3,zero_b,zero_b⟩
  ·exact⟨z,z,z,(λ r hr=>nomatch hr),z3,by show(1:Int)<=((3:Nat):Int);decide,z3,zero_b,zero_b⟩
  ·exact⟨z,z,z,(λ r hr=>nomatch hr),by show(2:Int)<=((3:Nat):Int);decide,z3,z3,zero_b,zero_b⟩
 ·have hv':v=0∨v=3∨v=4:=by simpa[XS.new] using hv
  show v<=((4:Nat):Int);omega
 ·rcases hmem v hv with rfl|rfl|rfl<;>exact Nat.zero_le _
def kinds:List Int:=[8,8,8,9,9,10,11,12,7,8]
theorem kinds_in{v:Nat}(h:v<10):7<=kinds.getD v 0/\kinds.getD v 0<=12:=by
 have:v=0∨v=1∨v=2∨v=3∨v=4∨v=5∨v=6∨v=7∨v=8∨v=9:=by omega
 rcases this with rfl|rfl|rfl|rfl|rfl|rfl|rfl|rfl|rfl|rfl<;>decide
theorem masks_in{v:Nat}(h:v<10):∃m:Nat,masks.getD v 0=(m:Int)/\m<18446744073709551616:=by
 have:v=0∨v=1∨v=2∨v=3∨v=4∨v=5∨v=6∨v=7∨v=8∨v=9:=by omega
 refine⟨(masks.getD v 0).toNat,?_⟩;rcases this with rfl|rfl|rfl|rfl|rfl|rfl|rfl|rfl|rfl|rfl<;>decide
theorem WOk.mono{m B C E B' C' E':Nat}{W:Wd}(h:WOk m B C E W)(hB:B<=B')(hC:C<=C')(hE:E<=E'):WOk m B' C' E' W:=by obtain⟨s1,s2,s3⟩:=h.sz;exact⟨h.z,⟨by omega,by omega,by omega⟩,λ e he=>by have:=h.ex e he;exact⟨this.i,this.k,this.em,this.ht,this.ha,by have:=this.gl;omega⟩,h.t0,h.tr,h.tl,by have:=h.el;omega,h.wr⟩
section
variable{S:List (Nat×Value)}{w0 w:World}{M:List Nat}{H:List (Nat×Obj)}{A F:Fr}{O:List Ow}{ty:TypeId}{pos:String}{af:Array Edge}{gd:Option (Nat×Bool)}{X:Type}{V:X->Value}
theorem cT(nH nO:Nat){φ:X->Prop}{hs:List (Nat×Obj)}{os:List Ow}{hs' H1:X->List (Nat×Obj)}{os' O1:X->List Ow}{Fc F1:X->Fr}{A0:Fr}{f:FuncId}{xs:List Operand}{at_:Array TypeId}{vs:List Value}{dst:Option Nat}
  (hc:∀w,SF w (Ks hs os) hs A0 [] os w->Calls prog f ⟨vs⟩ w λ e w'=>∃x,e=.returned (V x)/\φ x/\SF w (Ks hs os) (hs' x) [] (Fc x) (os' x) w')
  (hA:HasAll A F (O.take nO) A0) (hF1:∀x,φ x->∀f∈F1 x,f.2=[]∨f∈Fc x++F)
  (ha:evL S xs=vs:=by(repeat (first|exact evL_nil _|(apply evL_cons;focus ((conv=>{lhs;whnf});try exact rfl))));first|done|fail) (hp:plain prog f=true:=by kernel_rfl)
  (hH:H=H.take nH++hs:=by exact rfl) (hO:O=O.take nO++os:=by exact rfl)
  (hH1:∀x,H.take nH++hs' x=H1 x:=by intro x;simp only[List.take_succ_cons,List.take_zero,List.cons_append,List.nil_append,wH];exact rfl) (hO1:∀x,O.take nO++os' x=O1 x:=by intro x;simp only[List.take_succ_cons,List.take_zero,List.cons_append,List.nil_append,wO];exact rfl) :
  Loud prog S (SF w0 M H A F O) ⟨dst,.call {callee:=.value (.func f),args:=⟨xs⟩,argTypes:=at_},ty,pos,af,gd⟩ X V (λ x w=>φ x/\SF w0 M (H1 x) A (F1 x) (O1 x) w) :=
 loud_call (run_call hp ha) λ w hw=>(frame_c (H':=H.take nH) (O':=O.take nO) hw ((List.Perm.of_eq hH).trans List.perm_append_comm) ((List.Perm.of_eq hO).trans List.perm_append_comm) hA (hc w)).mono λ _ _ ⟨x,he,hx,hs⟩=>⟨x,he,hx,by have h2:=(hs.perm (H':=H1 x) (O':=O1 x) (by rw[<- hH1 x];exact List.perm_append_comm) (by rw[<- hO1 x];exact List.perm_append_comm)).subF (hF1 x hx);exact h2⟩
end
theorem exB_len(l:List EX):(exB l).length=l.length:=by simp[exB]
theorem ptC_at{es:List Nat}{k:Nat}(h:k<es.length):(ptC es)[k]?=some (.pointer (some ⟨es.getD k 0,0,none⟩)):=by simp[ptC,gdg,h]
structure WY where
 i:Nat
 pos:Nat
 W:Wd
structure WYI(m:Nat)(y:WY):Prop where
 hi:y.i<=18
 ok:WOk m (8+134217920*y.i) (1048576+y.i) y.i y.W
theorem CalOk.pol{kind:Int}{ts:List Tri}{q:CalQ}(h:CalOk kind ts q)(p:Int):CalOk kind ts {q with pol:=p}:=⟨h.ky,h.mem,h.ro⟩
set_option maxRecDepth 100000 in
set_option maxHeartbeats 4000000 in
theorem worlds_c{l:List Int}{a:Option Addr}{c:Nat}{w:World}(ha:Go.Ct.Cl w a (refsC l))(hl:l.length<=17592186043904) :
  Calls prog 7 #[.slice a l.length c] w λ e w'=>∃q:Nat×Nat×Nat×Wd,e=.returned (.pointer (some ⟨q.1,0,none⟩))/\(q.2.2.1<18446744073709551616/\WOk q.2.2.1 2415922570 1048594 18 q.2.2.2)/\SF w [] (wH q.2.2.1 q.1 q.2.1 q.2.2.2) [] (famF q.2.2.2.z.L) (wO q.2.2.2) w':=by
 refine enter Tryz.func7 Tryz.ntmps7 rfl rfl (SF.s1 ha) ?_;simp only[mkS];refine J10 ?_;refine J2 ?_;refine j_ownF (cFH (Fc:=λ _=>[]) (Oc:=λ _=>[]) (hc:=λ w1 hw=>new_c)) (λ x10 h10=>?_);refine J1 ?_;refine J0 ?_;refine j_ownF (cFH (Fc:=λ _=>[]) (hc:=λ w1 hw=>mNew_c w1)) (λ x11 h11=>?_);refine j_move ?_;refine j_ownF (cF1 (hc:=λ w1 hw=>mask_c (hw.tape atT fin hl))) (λ x13 h13=>?_);refine j_build ?_;refine j_box (λ x15=>?_);refine J73 ?_;refine j_nilCheck ?_;refine J3 ?_;refine j_ownF (cM (hc:=λ w hs=>create_c hs)) (λ x21 h21=>?_);refine j_own (o_buildO (sz:=2) (cs:=trC [⟨3,false⟩]) elem_trs pa1 rfl rfl rfl rfl rfl rfl) (λ x22=>?_);refine J61 ?_;refine k_seq ?_;refine J69 ?_;obtain⟨m,em,hm⟩:=masks_in h13;refine k_lp [5,6,7,8,25,26,27,28,29,30,31,32,33,34,35,36,37,38,39,40,41,42,43,44,45,46,47,48,49,50,51,52,53,54,55,56,57,58,59,60,61,62,63,64,65,66,67,68,69,70,71,72,73,74,75,76,77,78,79,80,81,82,83,84,85,86,87,88,89,90,91,92,93,94,95,96,97,98] (λ y:WY=>[(5,.int .i64 ((y.i:Nat):Int))]) (λ y=>WYI m y) (λ y=>(x10,tpO a l c y.pos)::(x15,wobj x11.1 (m:Int) y.W.pt y.W.ts.length y.W.kt y.W.pe (exB y.W.ex).length y.W.ke)::(x11.1,xM y.W.z)::exH x11.1 y.W.ex) (λ y=>famF y.W.z.L) (λ y=>⟨y.W.pt,trC y.W.ts,y.W.kt,35,2⟩::⟨y.W.pe,ptC (exB y.W.ex),y.W.ke,84,1⟩::⟨y.W.z.pn,nvC y.W.z.L,y.W.z.cn,45,14⟩::⟨y.W.z.pc,refsC y.W.z.cs,y.W.z.cc,28,1⟩::exO y.W.ex) (λ y=>18-y.i) (⟨0,tiN l 0,⟨XS.new (L4 x21.1 x21.2.1) [0,3,4] 1 0 x21.2.1.pn x21.2.1.cn x21.2.2.1 x21.2.2.2,[⟨3,false⟩],some ⟨x22,0,none⟩,1,[],none,0⟩⟩) (⟨by show(0:Nat)<=18;decide,l4_ok _ _ _ _ _ _ _,⟨by show 4<=8+134217920*0;decide,by show 3<=8+134217920*0;decide,by show(1:Int)<=((8+134217920*0:Nat):Int);decide⟩,(λ e he=>nomatch he),by show 0<1;decide,rfl,by show 1<=5;decide,Nat.le_refl _,.new⟩) (λ y f hx=>?_) (hw0:=λ w hw=>by rw[em,List.append_nil] at hw;exact(hw.nilOwn 84 1).perm (List.perm_append_comm (l₁:=[_]) (l₂:=[_,_])) (List.Perm.swap _ _ _));dsimp only[mkU,List.map,List.cons_append,List.nil_append];have hy:=hx;refine Ke4 ?_;(refine lcs 27 (λ g27=>?_) (λ g27=>?_)<;>refine Ka0 ?_);all_goals ((first|refine j_un ?_|(refine j_yes ?_;refine j_ownF (cF1 (hc:=λ w1 hw=>left_c (hw.tape atT fin hl))) (λ x29 h29=>?_)));refine Ke8 ?_)
 all_goals
 refine kif (λ c30=>?_) (λ c30=>?_)
 ·try exact nv c30
  all_goals (refine Kf4 ?_;refine j_own ((by exact lSFF (λ _=>o_buildSlice (cs:=refsC kinds) elem_int pa1 rfl rfl rfl rfl rfl))) (λ x33=>?_);refine j_move ?_;refine j_ownF (cF1 (hc:=λ w1 hw=>next_c 10 (hw.tape atT fin hl) (by decide) (by decide))) (λ x35 h35=>?_);refine l_quiet (o_indexR (lst:=kinds) (k:=x35) rf rf sl1 on1 (.new .head) (by omega) (by simp only[kinds,List.length_cons,List.length_nil];omega)) rfl ?_;refine l_quiet (o_loadR (lst:=kinds) (q:=x35) rf on1 (.new .head) (by simp only[kinds,List.length_cons,List.length_nil];omega)) rfl ?_;refine J27 ?_)
  all_goals
   refine k_joinG [6,38,39,40,41,42,43,44] (λ q:Int×Nat=>[(6,.int .i64 q.1)]) (λ q=>7<=q.1/\q.1<=12) (λ q=>(x10,tpO a l c q.2)::(x15,wobj x11.1 (m:Int) y.W.pt y.W.ts.length y.W.kt y.W.pe (exB y.W.ex).length y.W.ke)::(x11.1,xM y.W.z)::exH x11.1 y.W.ex) (λ _=>famF y.W.z.L) (λ _=>⟨y.W.pt,trC y.W.ts,y.W.kt,35,2⟩::⟨y.W.pe,ptC (exB y.W.ex),y.W.ke,84,1⟩::⟨y.W.z.pn,nvC y.W.z.L,y.W.z.cn,45,14⟩::⟨y.W.z.pc,refsC y.W.z.cs,y.W.z.cc,28,1⟩::exO y.W.ex) (by decide) (λ _=>by exact rfl) ?_ (λ q f hx=>?_)
   ·refine k_seq ?_;refine J20 ?_;refine Kd4 ?_;(refine lcs 40 (λ g40=>?_) (λ g40=>?_)<;>refine Ka0 ?_);all_goals ((first|refine j_un ?_|(refine j_yes ?_;refine j_ownF (cF1 (hc:=λ w1 hw=>next_c 3 (hw.tape atT fin hl) (by decide) (by decide))) (λ x42 h42=>?_)));refine Ka6 ?_)
    all_goals
    refine kif (λ c44=>?_) (λ c44=>?_)
    ·try exact nv c44
     all_goals (refine k_region ?_;refine J1 ?_)
     all_goals refine k_rj ((8,tiN l (tiN l y.pos))) ?_ (hw1:=λ w hw=>hw.back (hF:=FSub.ofSub λ f hf=>List.mem_cons_of_mem _ hf));·exact⟨by show(7:Int)<=8;decide,by show(8:Int)<=12;decide⟩
    ·all_goals try (exfalso;omega)
     all_goals refine k_skip ?_
     all_goals refine k_rj (by first|exact((λ _=>(kinds.getD x35 0,tiN l (tiN l y.pos))) x42)|exact(kinds.getD x35 0,tiN l y.pos)) ?_ (hw1:=λ w hw=>hw.back (hF:=FSub.ofSub λ f hf=>List.mem_cons_of_mem _ hf));·exact kinds_in (by omega)
   dsimp only[mkU,List.map,List.cons_append,List.nil_append];have hq:=hx
  all_goals (refine Kc0 ?_;refine j_ownF (cM (hs:=[(x10,tpO a l c q.2),(x15,wobj x11.1 (m:Int) y.W.pt y.W.ts.length y.W.kt y.W.pe (exB y.W.ex).length y.W.ke)]) (os:=[⟨y.W.pt,trC y.W.ts,y.W.kt,35,2⟩]) (A0:=[(a,refsC l)]) (hc:=λ w hs=>wcall_c q.1 hq hl hy.ok.t0 (by have:=hy.ok.tl;omega) hy.ok.tr hs)) (λ x48 h48=>?_);refine j_alloc (λ x7=>?_);refine J5 ?_;refine k_seq ?_)
  all_goals
   refine k_joinG [49,50,51,52,53,54,55,56] (λ r:Int×Nat=>[]) (λ r=>True) (λ r=>(x7,.cells ⟨clC (({x48 with pol:=r.1}:CalQ).cl q.1 (m:Int))⟩ 80 (0,0))::(x10,tpO a l c r.2)::(x15,wobj x11.1 (m:Int) y.W.pt y.W.ts.length y.W.kt y.W.pe (exB y.W.ex).length y.W.ke)::(x11.1,xM y.W.z)::exH x11.1 y.W.ex) (λ _=>famF y.W.z.L) (λ _=>⟨y.W.pt,trC y.W.ts,y.W.kt,35,2⟩::⟨y.W.pe,ptC (exB y.W.ex),y.W.ke,84,1⟩::⟨y.W.z.pn,nvC y.W.z.L,y.W.z.cn,45,14⟩::⟨y.W.z.pc,refsC y.W.z.cs,y.W.z.cc,28,1⟩::exO y.W.ex) (by decide) (λ _=>by exact rfl) ?_ (λ r f hx=>?_)
   ·refine k_seq ?_;refine J20 ?_;refine Kd4 ?_;(refine lcs 51 (λ g51=>?_) (λ g51=>?_)<;>refine Ka0 ?_);all_goals ((first|refine j_un ?_|(refine j_yes ?_;refine j_ownF (cF1 (hc:=λ w1 hw=>next_c 3 (hw.tape atT fin hl) (by decide) (by decide))) (λ x53 h53=>?_)));refine Ka6 ?_)
    all_goals
    refine kif (λ c55=>?_) (λ c55=>?_)
    ·try exact nv c55
     all_goals (refine k_region ?_;refine J23 ?_)
     all_goals refine k_rj ((0,tiN l x48.pos)) ?_ (hw1:=λ w hw=>hw.z4);·trivial
    ·all_goals try (exfalso;omega)
     all_goals refine k_skip ?_
     all_goals refine k_rj (by first|exact((λ _=>(x48.pol,tiN l x48.pos)) x53)|exact(x48.pol,x48.pos)) ?_ (hw1:=λ w hw=>hw.z4);·trivial
   dsimp only[mkU,List.map,List.cons_append,List.nil_append]
  all_goals refine J75 ?_
  all_goals
   refine k_joinG [8,57,58,59,60,61,62,63,64,65,66,67,68,69] (λ s:Nat×Nat=>[(8,.int .i64 ((s.1:Nat):Int))]) (λ s=>s.1<=1048576) (λ s=>(x7,.cells ⟨clC (({x48 with pol:=r.1}:CalQ).cl q.1 (m:Int))⟩ 80 (0,0))::(x10,tpO a l c s.2)::(x15,wobj x11.1 (m:Int) y.W.pt y.W.ts.length y.W.kt y.W.pe (exB y.W.ex).length y.W.ke)::(x11.1,xM y.W.z)::exH x11.1 y.W.ex) (λ _=>famF y.W.z.L) (λ _=>⟨y.W.pt,trC y.W.ts,y.W.kt,35,2⟩::⟨y.W.pe,ptC (exB y.W.ex),y.W.ke,84,1⟩::⟨y.W.z.pn,nvC y.W.z.L,y.W.z.cn,45,14⟩::⟨y.W.z.pc,refsC y.W.z.cs,y.W.z.cc,28,1⟩::exO y.W.ex) (by decide) (λ _=>by exact rfl) ?_ (λ s f hx=>?_)
   ·refine k_seq ?_;refine J20 ?_;refine j_nilCheck ?_;refine J85 ?_;refine J64 ?_;(refine lcs 63 (λ g63=>?_) (λ g63=>?_)<;>refine Ka0 ?_);all_goals ((first|refine j_un ?_|(refine j_yes ?_;refine j_ownF (cF1 (hc:=λ w1 hw=>next_c 4 (hw.tape atT fin hl) (by decide) (by decide))) (λ x65 h65=>?_)));refine J12 ?_;refine l_nil ?_)
    all_goals
    refine kif (λ c67=>?_) (λ c67=>?_)
    ·try exact nv c67
     all_goals (refine J20 ?_;refine j_ownF (cF1 (hc:=λ w1 hw=>next_c 16 (hw.tape atT fin hl) (by decide) (by decide))) (λ x69 h69=>?_);refine J1 ?_)
     all_goals refine k_rj ((x69,tiN l (tiN l r.2))) ?_ (hw1:=λ w hw=>hw.z4);·show x69<=1048576;omega
    ·all_goals try (exfalso;omega)
     all_goals refine k_skip ?_
     all_goals refine k_rj (by first|exact((λ _=>(1048576,tiN l r.2)) x65)|exact(1048576,r.2)) ?_ (hw1:=λ w hw=>hw.z4);·exact Nat.le_refl 1048576
   dsimp only[mkU,List.map,List.cons_append,List.nil_append];have hs1:=hx
  all_goals (refine J2 ?_;refine Kb1 ?_;refine j_ownF (cT 2 0 (hs:=wH m x15 x11.1 y.W) (os:=wO y.W) (A0:=famF y.W.z.L) (F1:=λ x:Wd×List NdV=>famF x.1.z.L) (hc:=λ w hs=>wrunW_c (q:={x48 with pol:=r.1}) (kind:=q.1) s.1 hs1 (by omega) (by omega) hm hy.ok (by omega) hq (h48.pol _) (λ f hf=>hf) hs) (hA:=HasAll.of λ f hf=>.inr (.inr (.inl hf))) (hF1:=λ x hx f hf=>by rw[hx.2,famF_append] at hf;exact .inr ((List.mem_append.1 hf).elim (λ h=>List.mem_append_right _ h) (λ h=>List.mem_append_left _ h)))) (λ x73 h73=>?_);refine l_nil ?_)
  all_goals
   refine k_joinG [74,75,76,77,78,79,80,81,82,83,84,85,86,87,88,89,90,91,92,93,94,95,96,97,98] (λ u:Nat×Wd=>[]) (λ u=>WOk m (8+134217920*(y.i+1)) (1048576+(y.i+1)) (y.i+1) u.2) (λ u=>(x7,.cells ⟨clC (({x48 with pol:=r.1}:CalQ).cl q.1 (m:Int))⟩ 80 (0,0))::(x10,tpO a l c u.1)::(x15,wobj x11.1 (m:Int) u.2.pt u.2.ts.length u.2.kt u.2.pe (exB u.2.ex).length u.2.ke)::(x11.1,xM u.2.z)::exH x11.1 u.2.ex) (λ u=>famF u.2.z.L) (λ u=>⟨u.2.pt,trC u.2.ts,u.2.kt,35,2⟩::⟨u.2.pe,ptC (exB u.2.ex),u.2.ke,84,1⟩::⟨u.2.z.pn,nvC u.2.z.L,u.2.z.cn,45,14⟩::⟨u.2.z.pc,refsC u.2.z.cs,u.2.z.cc,28,1⟩::exO u.2.ex) (by decide) (λ _=>by exact rfl) ?_ (λ u f hx=>?_)
   ·refine k_seq ?_;refine J20 ?_;refine j_nilCheck ?_;refine J85 ?_;refine j_gtr ?_;refine j_move ?_;(refine lcs 80 (λ g80=>?_) (λ g80=>?_)<;>refine Ka0 ?_);all_goals ((first|refine j_un ?_|(refine j_yes ?_;refine j_ownF (cF1 (hc:=λ w1 hw=>next_c 3 (hw.tape atT fin hl) (by decide) (by decide))) (λ x82 h82=>?_)));refine J12 ?_;refine l_nil ?_)
    all_goals
    refine kif (λ c84=>?_) (λ c84=>?_)
    ·try exact nv c84
     all_goals (refine k_dp [(0,[]),(1,[]),(2,[]),(3,[]),(4,[]),(5,[]),(6,[]),(7,[]),(8,[]),(9,[]),(10,[3]),(11,[]),(12,[]),(13,[])] ?_;refine J14 ?_;refine J67 ?_;refine r_len ?_;refine r_ownF (i:=10) (hq:=(cF1 (hc:=λ w1 hw=>next_c ((exB x73.1.ex).length:Nat) (hw.tape atT fin hl) (by omega) (by rw[exB_len];have:=h73.1.el;omega)))) (h:=λ x95 h95=>?_);refine r_ownQ (i:=11) (hq:=(o_ix1 (cs:=ptC (exB x73.1.ex)) (k:=x95) rf rf sl1 on1 (.own (.tail .head)) (by omega) (by rw[ptC_length];omega))) (h:=?_);refine r_ownQ (i:=12) (hq:=(o_ld1 (cs:=ptC (exB x73.1.ex)) (v:=.pointer (some ⟨(exB x73.1.ex).getD x95 0,0,none⟩)) rf on1 (.own (.tail .head)) (ptC_at (by omega)))) (h:=?_);refine r_ownF (i:=13) (hq:=(cT 2 0 (hs:=wH m x15 x11.1 x73.1) (os:=wO x73.1) (A0:=famF x73.1.z.L) (F1:=λ x:Wd×List NdV=>famF x.1.z.L) (hc:=λ w hs=>wstepW_c (i:=x95) (by rw[<- exB_len];omega) (by omega) (by omega) hm h73.1 (λ f hf=>hf) hs) (hA:=HasAll.of λ f hf=>.inr (.inr (.inl hf))) (hF1:=λ x hx f hf=>by rw[hx.2.2,famF_append] at hf;exact .inr ((List.mem_append.1 hf).elim (λ h=>List.mem_append_right _ h) (λ h=>List.mem_append_left _ h))))) (h:=λ x98 h98=>?_);refine r_fin ?_)
     all_goals refine k_rj ((tiN l (tiN l s.2),x98.1)) ?_ (hw1:=λ w hw=>hw.z4);·exact h98.1.mono (by omega) (by omega) (Nat.le_refl _)
    ·all_goals try (exfalso;omega)
     all_goals refine k_skip ?_
     all_goals refine k_rj (by first|exact((λ _=>(tiN l s.2,x73.1)) x82)|exact(s.2,x73.1)) ?_ (hw1:=λ w hw=>hw.z4);·exact h73.1.mono (by omega) (by omega) (Nat.le_refl _)
   dsimp only[mkU,List.map,List.cons_append,List.nil_append]
  all_goals (refine Kb5 ?_)
  all_goals refine k_rd (⟨y.i+1,u.1,u.2⟩) ?_ (hw1:=λ w hw=>hw.z4);·exact⟨by show y.i+1<=18;omega,hx⟩
 ·all_goals try (exfalso;omega)
  all_goals (refine k_exit rfl ?_;refine Kb2 ?_)
  all_goals refine k_rv Tryz.results7 (λ w hw=>?_);exact⟨(x15,x11.1,m,y.W),rfl,⟨hm,hy.ok.mono (by have:=hy.hi;omega) (by have:=hy.hi;omega) hy.hi⟩,hw.finH (hH:=List.Sublist.cons _ (List.Sublist.refl _)) (hF:=by exact FSub.all) (hO:=List.Sublist.refl _)⟩
end
end Go.Proofs.YtdnklbipddigbaaGreat

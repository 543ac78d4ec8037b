/- Merged. -/
import Derived.Test.YtdeecdfockjoiaaGreatDoorGWn1
set_option linter.unusedSimpArgs false
set_option linter.unusedVariables false
namespace Go.Proofs.YtdeecdfockjoiaaGreatDoor
open Go Go.RowKit Go.Ct
set_option maxRecDepth 100000 in
set_option maxHeartbeats 2000000 in
theorem M3{w:World}{m:Nat}{v:Int}{tl t2:List Int}{a a2:Option Addr}{ca c2:Nat}(hAw:∀w,Calls Tryz.prog 11 #[] w λ e w'=>e=.returned (.bool true)/\St w [] [] w')(hm0:m<18446744073709551616)(hca:Go.Ct.Cl w a (aT tl))(hc2:Go.Ct.Cl w a2 (aT t2))(htl:tl.length<=17592186043904)(ht2:t2.length<=17592186043904) :
    Calls Tryz.prog 3 #[.slice a tl.length ca,.slice a2 t2.length c2,.int .u64 (m:Int),.int .u64 v] w λ e w'=>e=.returned (.bool true)/\St w [] [] w':=by
  refine enter Tryz.func3 Tryz.ntmps3 rfl rfl (SF.begin (A:=[(a,aT tl),(a2,aT t2)]) (λ f hf=>by
rcases List.mem_cons.1 hf with rfl|hf
· exact hca
· rcases List.mem_singleton.1 hf with rfl;exact hc2)) ?_
  simp only[cN]
  all_goals (refine Kd3 ?_;refine aI (aj (V:=λ b:Nat=>pt b) (Hc:=λ b=>[(b,tn a tl ca 0)]) (Fc:=λ _=>[]) (Oc:=λ _=>[]) (hc:=λ w1 hw=>ym)) (λ x24 h24=>?_);refine J1 ?_;refine Ka9 ?_;refine aI (cF1 (hc:=λ w1 hw=>Ta 8 (hw.tape bI fin htl) (by decide) (by decide))) (λ x26 h26=>?_);refine J1 ?_;refine bB ?_)
  all_goals
   refine sF [10,11,27,28,29,30,31,32,33,34,35,36,37] (λ y:Nat×Nat×List jX×Option Addr×Nat=>[(11,.int .i64 ((y.1:Nat):Int)),(10,.slice y.2.2.2.1 y.2.2.1.length y.2.2.2.2)]) (λ y=>y.1+y.2.2.1.length<=7/\Dw y.2.2.1) (λ y=>[(x24,tn a tl ca y.2.1)]) (λ y=>[]) (λ y=>[⟨y.2.2.2.1,iB y.2.2.1,y.2.2.2.2,29,5⟩]) (λ y=>y.1) ((x26,za tl 0,[],none,0)) (⟨by show x26+0<=7;omega,λ o ho=>nomatch ho⟩) (λ y f hx=>?_) (hw0:=λ w hw=>(hw.gN 29 5).back (hF:=bM.nil));refine K0c ?_;obtain⟨hy1,hy2⟩:=hx
   all_goals (refine gQ ?_;refine vI ?_;refine aE ?_)
   all_goals
    refine aX (λ c28=>?_) (λ c28=>?_)
    · all_goals try (first|contradiction|(exfalso;omega))
      all_goals (refine jH ?_;refine Fw ?_;refine aI (cF1 (V:=λ q:ByteArray=>.string q) (hc:=λ w1 hw=>kr (hw.tape bI fin htl))) (λ x33 h33=>?_);refine aA (m4 (a:=x33) (b:=ByteArray.mk #[45]) rf rf (by show x33.size+1<_;omega)) rfl ?_;refine aH (cV (hc:=λ w1 hw=>Be (x33++ByteArray.mk #[45]) 1 w1)) (λ x35=>?_);refine aH (by exact gG λ _=>aU gX nK rf rf rf rf (by simp only[dS,cL,List.cons_append,List.nil_append,List.append_nil];exact rfl)) (λ x36=>?_);(refine aH (aW.cX (tS (f:=jX.cells) (l:=y.2.2.1) (v1:=⟨1,0,x33++ByteArray.mk #[45],1,0⟩) lD (by decide) rfl rf rf .head rfl (.new .head) gX rfl dP (by omega)) jK) (λ x37=>?_);try (refine dQ (λ h37=>?_)));refine J1 ?_;refine eN ?_;refine Cg ?_;refine L5 ?_;refine J1 ?_)
      all_goals
       refine kJ ((y.1-1,za tl y.2.1,y.2.2.1++[⟨1,0,x33++ByteArray.mk #[45],1,0⟩],x37.1,x37.2)) ?_ ?_ (by repeat (first|(with_reducible exact uV.refl)|refine uV.cons (by exact rfl) ?_)) ?_ (λ w hw=>hw.back (hF:=bM.nil))
       · first|omega|(simp only[];omega)
       · repeat' (first|exact bX _|refine bL ?_ ?_)
         all_goals (first|exact rfl|(conv=>{lhs;whnf};rw[show IntKind.i64.wrap (((y.1:Nat):Int)-1)=((y.1-1:Nat):Int) by rw[wrap_i64];omega])|(rw[List.length_append];rfl))
       · exact⟨by show y.1-1+(y.2.2.1++[_]).length<=7;rw[List.length_append];show y.1-1+(y.2.2.1.length+1)<=7;omega,hy2.add (by rw[ByteArray.size_append];show x33.size+1<=64;omega)⟩
    · all_goals try (first|contradiction|(exfalso;omega))
      all_goals (refine bD rfl ?_;refine J2 ?_;refine aI (cF1 (V:=λ q:ByteArray=>.string q) (hc:=λ w1 hw=>kr (hw.tape bI fin htl))) (λ x39 h39=>?_);refine Jo ?_;refine aB ?_;refine aH (cV (hc:=λ w1 hw=>Be x39 v w1)) (λ x43=>?_);refine aH (by exact gG λ _=>aU gX nK rf rf rf rf (by simp only[dS,cL,List.cons_append,List.nil_append,List.append_nil];exact rfl)) (λ x44=>?_);(refine aH (aW.cX (tS (f:=jX.cells) (l:=y.2.2.1) (v1:=⟨1,0,x39,v,0⟩) lD (by decide) rfl rf rf .head rfl (.new .head) gX rfl dP (by omega)) jK) (λ x45=>?_);try (refine dQ (λ h45=>?_)));refine Kb7 ?_;refine cP ?_;refine Kb7 ?_;refine cI ?_;refine aJ (λ x14=>?_);refine J5 ?_;refine aL ?_)
      all_goals
       refine nX [15,50,51,52,53,54,55,56,57,58,59,60] (λ j:Nat×Nat×Nat×Nat×Option Addr×Nat=>[(15,pt j.1)]) (λ _=>True) (λ j=>[(j.1,.cells ⟨[.int .u64 (m:Int),.slice (some ⟨j.2.2.2.1,0,none⟩) 3 3,.slice none 0 0]⟩ 34 (0,0))]) (λ j=>[(some ⟨j.2.2.2.1,0,none⟩,[.slice j.2.2.2.2.1 (y.2.2.1.length+1+1) j.2.2.2.2.2,.slice (some ⟨j.2.1,0,none⟩) 1 1,.slice (some ⟨j.2.2.1,0,none⟩) 1 1]),(some ⟨j.2.1,0,none⟩,iB (Ci x39)),(some ⟨j.2.2.1,0,none⟩,iB (Ci x39))]) (λ j=>[⟨j.2.2.2.2.1,iB (y.2.2.1++[⟨1,0,x39,v,0⟩]++[Kd x39]),j.2.2.2.2.2,29,5⟩]) (by decide) (λ _=>by exact rfl) ?_ (λ j f hx=>?_)
       · refine kR (.one 0 [] (.one 1 [] (.one 2 [] (.one 5 [] (.one 7 [] (.two 3 [5,7] (.two 4 [5,7] (.two 6 [2,7] (.two 8 [2,5] (.two 9 [] (.one 10 [] (.one 11 [2,5,7] (.one 12 [] .nil))) 0 [] (.two 11 [2,5,7] (.one 9 [] (.one 10 [] (.one 12 [] .nil))) 0 [] .nil)) 0 [] (.two 11 [2,5,7] (.one 8 [2,5] (.one 9 [] (.one 10 [] (.one 12 [] .nil)))) 0 [] .nil)) 0 [] (.two 8 [2,5] (.two 6 [2,7] (.two 9 [] (.one 10 [] (.one 11 [2,5,7] (.one 12 [] .nil))) 0 [] (.two 11 [2,5,7] (.one 9 [] (.one 10 [] (.one 12 [] .nil))) 0 [] .nil)) 0 [] (.two 11 [2,5,7] (.one 6 [2,7] (.one 9 [] (.one 10 [] (.one 12 [] .nil)))) 0 [] .nil)) 0 [] (.two 11 [2,5,7] (.two 6 [2,7] (.one 8 [2,5] (.one 9 [] (.one 10 [] (.one 12 [] .nil)))) 0 [] (.two 8 [2,5] (.one 6 [2,7] (.one 9 [] (.one 10 [] (.one 12 [] .nil)))) 0 [] .nil)) 0 [] .nil))) 0 [] (.two 6 [2,7] (.two 4 [5,7] (.two 8 [2,5] (.two 9 [] (.one 10 [] (.one 11 [2,5,7] (.one 12 [] .nil))) 0 [] (.two 11 [2,5,7] (.one 9 [] (.one 10 [] (.one 12 [] .nil))) 0 [] .nil)) 0 [] (.two 11 [2,5,7] (.one 8 [2,5] (.one 9 [] (.one 10 [] (.one 12 [] .nil)))) 0 [] .nil)) 0 [] (.two 8 [2,5] (.two 4 [5,7] (.two 9 [] (.one 10 [] (.one 11 [2,5,7] (.one 12 [] .nil))) 0 [] (.two 11 [2,5,7] (.one 9 [] (.one 10 [] (.one 12 [] .nil))) 0 [] .nil)) 0 [] (.two 11 [2,5,7] (.one 4 [5,7] (.one 9 [] (.one 10 [] (.one 12 [] .nil)))) 0 [] .nil)) 0 [] (.two 11 [2,5,7] (.two 4 [5,7] (.one 8 [2,5] (.one 9 [] (.one 10 [] (.one 12 [] .nil)))) 0 [] (.two 8 [2,5] (.one 4 [5,7] (.one 9 [] (.one 10 [] (.one 12 [] .nil)))) 0 [] .nil)) 0 [] .nil))) 0 [] (.two 8 [2,5] (.two 4 [5,7] (.two 6 [2,7] (.two 9 [] (.one 10 [] (.one 11 [2,5,7] (.one 12 [] .nil))) 0 [] (.two 11 [2,5,7] (.one 9 [] (.one 10 [] (.one 12 [] .nil))) 0 [] .nil)) 0 [] (.two 11 [2,5,7] (.one 6 [2,7] (.one 9 [] (.one 10 [] (.one 12 [] .nil)))) 0 [] .nil)) 0 [] (.two 6 [2,7] (.two 4 [5,7] (.two 9 [] (.one 10 [] (.one 11 [2,5,7] (.one 12 [] .nil))) 0 [] (.two 11 [2,5,7] (.one 9 [] (.one 10 [] (.one 12 [] .nil))) 0 [] .nil)) 0 [] (.two 11 [2,5,7] (.one 4 [5,7] (.one 9 [] (.one 10 [] (.one 12 [] .nil)))) 0 [] .nil)) 0 [] (.two 11 [2,5,7] (.two 4 [5,7] (.one 6 [2,7] (.one 9 [] (.one 10 [] (.one 12 [] .nil)))) 0 [] (.two 6 [2,7] (.one 4 [5,7] (.one 9 [] (.one 10 [] (.one 12 [] .nil)))) 0 [] .nil)) 0 [] .nil))) 0 [] (.two 11 [2,5,7] (.two 4 [5,7] (.two 6 [2,7] (.one 8 [2,5] (.one 9 [] (.one 10 [] (.one 12 [] .nil)))) 0 [] (.two 8 [2,5] (.one 6 [2,7] (.one 9 [] (.one 10 [] (.one 12 [] .nil)))) 0 [] .nil)) 0 [] (.two 6 [2,7] (.two 4 [5,7] (.one 8 [2,5] (.one 9 [] (.one 10 [] (.one 12 [] .nil)))) 0 [] (.two 8 [2,5] (.one 4 [5,7] (.one 9 [] (.one 10 [] (.one 12 [] .nil)))) 0 [] .nil)) 0 [] (.two 8 [2,5] (.two 4 [5,7] (.one 6 [2,7] (.one 9 [] (.one 10 [] (.one 12 [] .nil)))) 0 [] (.two 6 [2,7] (.one 4 [5,7] (.one 9 [] (.one 10 [] (.one 12 [] .nil)))) 0 [] .nil)) 0 [] .nil))) 0 [] .nil)))) 0 [] (.two 6 [2,7] (.two 3 [5,7] (.two 4 [5,7] (.two 8 [2,5] (.two 9 [] (.one 10 [] (.one 11 [2,5,7] (.one 12 [] .nil))) 0 [] (.two 11 [2,5,7] (.one 9 [] (.one 10 [] (.one 12 [] .nil))) 0 [] .nil)) 0 [] (.two 11 [2,5,7] (.one 8 [2,5] (.one 9 [] (.one 10 [] (.one 12 [] .nil)))) 0 [] .nil)) 0 [] (.two 8 [2,5] (.two 4 [5,7] (.two 9 [] (.one 10 [] (.one 11 [2,5,7] (.one 12 [] .nil))) 0 [] (.two 11 [2,5,7] (.one 9 [] (.one 10 [] (.one 12 [] .nil))) 0 [] .nil)) 0 [] (.two 11 [2,5,7] (.one 4 [5,7] (.one 9 [] (.one 10 [] (.one 12 [] .nil)))) 0 [] .nil)) 0 [] (.two 11 [2,5,7] (.two 4 [5,7] (.one 8 [2,5] (.one 9 [] (.one 10 [] (.one 12 [] .nil)))) 0 [] (.two 8 [2,5] (.one 4 [5,7] (.one 9 [] (.one 10 [] (.one 12 [] .nil)))) 0 [] .nil)) 0 [] .nil))) 0 [] (.two 8 [2,5] (.two 3 [5,7] (.two 4 [5,7] (.two 9 [] (.one 10 [] (.one 11 [2,5,7] (.one 12 [] .nil))) 0 [] (.two 11 [2,5,7] (.one 9 [] (.one 10 [] (.one 12 [] .nil))) 0 [] .nil)) 0 [] (.two 11 [2,5,7] (.one 4 [5,7] (.one 9 [] (.one 10 [] (.one 12 [] .nil)))) 0 [] .nil)) 0 [] (.two 11 [2,5,7] (.one 3 [5,7] (.one 4 [5,7] (.one 9 [] (.one 10 [] (.one 12 [] .nil))))) 0 [] .nil)) 0 [] (.two 11 [2,5,7] (.two 3 [5,7] (.two 4 [5,7] (.one 8 [2,5] (.one 9 [] (.one 10 [] (.one 12 [] .nil)))) 0 [] (.two 8 [2,5] (.one 4 [5,7] (.one 9 [] (.one 10 [] (.one 12 [] .nil)))) 0 [] .nil)) 0 [] (.two 8 [2,5] (.one 3 [5,7] (.one 4 [5,7] (.one 9 [] (.one 10 [] (.one 12 [] .nil))))) 0 [] .nil)) 0 [] .nil))) 0 [] (.two 8 [2,5] (.two 3 [5,7] (.two 4 [5,7] (.two 6 [2,7] (.two 9 [] (.one 10 [] (.one 11 [2,5,7] (.one 12 [] .nil))) 0 [] (.two 11 [2,5,7] (.one 9 [] (.one 10 [] (.one 12 [] .nil))) 0 [] .nil)) 0 [] (.two 11 [2,5,7] (.one 6 [2,7] (.one 9 [] (.one 10 [] (.one 12 [] .nil)))) 0 [] .nil)) 0 [] (.two 6 [2,7] (.two 4 [5,7] (.two 9 [] (.one 10 [] (.one 11 [2,5,7] (.one 12 [] .nil))) 0 [] (.two 11 [2,5,7] (.one 9 [] (.one 10 [] (.one 12 [] .nil))) 0 [] .nil)) 0 [] (.two 11 [2,5,7] (.one 4 [5,7] (.one 9 [] (.one 10 [] (.one 12 [] .nil)))) 0 [] .nil)) 0 [] (.two 11 [2,5,7] (.two 4 [5,7] (.one 6 [2,7] (.one 9 [] (.one 10 [] (.one 12 [] .nil)))) 0 [] (.two 6 [2,7] (.one 4 [5,7] (.one 9 [] (.one 10 [] (.one 12 [] .nil)))) 0 [] .nil)) 0 [] .nil))) 0 [] (.two 6 [2,7] (.two 3 [5,7] (.two 4 [5,7] (.two 9 [] (.one 10 [] (.one 11 [2,5,7] (.one 12 [] .nil))) 0 [] (.two 11 [2,5,7] (.one 9 [] (.one 10 [] (.one 12 [] .nil))) 0 [] .nil)) 0 [] (.two 11 [2,5,7] (.one 4 [5,7] (.one 9 [] (.one 10 [] (.one 12 [] .nil)))) 0 [] .nil)) 0 [] (.two 11 [2,5,7] (.one 3 [5,7] (.one 4 [5,7] (.one 9 [] (.one 10 [] (.one 12 [] .nil))))) 0 [] .nil)) 0 [] (.two 11 [2,5,7] (.two 3 [5,7] (.two 4 [5,7] (.one 6 [2,7] (.one 9 [] (.one 10 [] (.one 12 [] .nil)))) 0 [] (.two 6 [2,7] (.one 4 [5,7] (.one 9 [] (.one 10 [] (.one 12 [] .nil)))) 0 [] .nil)) 0 [] (.two 6 [2,7] (.one 3 [5,7] (.one 4 [5,7] (.one 9 [] (.one 10 [] (.one 12 [] .nil))))) 0 [] .nil)) 0 [] .nil))) 0 [] (.two 11 [2,5,7] (.two 3 [5,7] (.two 4 [5,7] (.two 6 [2,7] (.one 8 [2,5] (.one 9 [] (.one 10 [] (.one 12 [] .nil)))) 0 [] (.two 8 [2,5] (.one 6 [2,7] (.one 9 [] (.one 10 [] (.one 12 [] .nil)))) 0 [] .nil)) 0 [] (.two 6 [2,7] (.two 4 [5,7] (.one 8 [2,5] (.one 9 [] (.one 10 [] (.one 12 [] .nil)))) 0 [] (.two 8 [2,5] (.one 4 [5,7] (.one 9 [] (.one 10 [] (.one 12 [] .nil)))) 0 [] .nil)) 0 [] (.two 8 [2,5] (.two 4 [5,7] (.one 6 [2,7] (.one 9 [] (.one 10 [] (.one 12 [] .nil)))) 0 [] (.two 6 [2,7] (.one 4 [5,7] (.one 9 [] (.one 10 [] (.one 12 [] .nil)))) 0 [] .nil)) 0 [] .nil))) 0 [] (.two 6 [2,7] (.two 3 [5,7] (.two 4 [5,7] (.one 8 [2,5] (.one 9 [] (.one 10 [] (.one 12 [] .nil)))) 0 [] (.two 8 [2,5] (.one 4 [5,7] (.one 9 [] (.one 10 [] (.one 12 [] .nil)))) 0 [] .nil)) 0 [] (.two 8 [2,5] (.one 3 [5,7] (.one 4 [5,7] (.one 9 [] (.one 10 [] (.one 12 [] .nil))))) 0 [] .nil)) 0 [] (.two 8 [2,5] (.two 3 [5,7] (.two 4 [5,7] (.one 6 [2,7] (.one 9 [] (.one 10 [] (.one 12 [] .nil)))) 0 [] (.two 6 [2,7] (.one 4 [5,7] (.one 9 [] (.one 10 [] (.one 12 [] .nil)))) 0 [] .nil)) 0 [] (.two 6 [2,7] (.one 3 [5,7] (.one 4 [5,7] (.one 9 [] (.one 10 [] (.one 12 [] .nil))))) 0 [] .nil)) 0 [] .nil))) 0 [] .nil))))))))) ?_
         repeat' (first
          | exact LS.nil
          | refine LS.cons ?_ ?_
          | refine vi ?_
          | (refine dA ?_;refine lZ ((x15,x56,x58,x59,x54.1,x54.2)) trivial (hw1:=λ w hw=>by exact hw.back (hH:=by repeat (first|exact List.Sublist.refl _|refine List.Sublist.cons_cons _ ?_|refine List.Sublist.cons _ ?_)) (hF:=by exact bM.dB λ f hf=>by simp only[List.mem_cons,List.not_mem_nil,or_false] at hf;rcases hf with rfl|rfl|rfl<;>(repeat (first|exact List.Mem.head _|apply List.Mem.tail))) (hO:=by exact List.Sublist.refl _)))
          | (refine sH 0 ?_;refine aP ?_)
          | (refine sH 1 ?_;refine aP ?_)
          | (refine sH 2 ?_;refine bH ?_)
          | (refine sH 5 ?_;refine bH ?_)
          | (refine sH 7 ?_;refine bH ?_)
          | (refine sH 10 ?_;refine iZ ?_)
          | (refine sH 11 ?_;refine nY (h:=λ x15=>?_))
          | (refine sH 12 ?_;refine wX (h:=λ _=>?_))
          | (refine sH 9 ?_;refine bR (i:=9) (hq:=(by exact gG λ _=>aU Gh nK rf rf rf rf (by simp only[dS,cL,List.cons_append,List.nil_append,List.append_nil];exact rfl))) (h:=λ x59=>?_))
          | (refine sH 8 ?_;refine bR (i:=8) (hq:=(by exact gG λ _=>aU gX nK rf rf rf rf (by simp only[dS,cL,List.cons_append,List.nil_append,List.append_nil];exact rfl))) (h:=λ x58=>?_))
          | (refine sH 6 ?_;refine bR (i:=6) (hq:=(by exact gG λ _=>aU gX nK rf rf rf rf (by simp only[dS,cL,List.cons_append,List.nil_append,List.append_nil];exact rfl))) (h:=λ x56=>?_))
          | (refine sH 4 ?_;(refine bR (i:=4) (hq:=(aW.cX (tS (f:=jX.cells) (l:=y.2.2.1++[⟨1,0,x39,v,0⟩]) (v1:=Kd x39) lD (by decide) rfl rf rf .head (by rw[List.length_append];rfl) (.new (by repeat (first|exact .head|apply mU.tail))) gX rfl dP (by omega)) jK)) (h:=λ x54=>?_);try (refine eZ (λ h54=>?_))))
          | (refine sH 3 ?_;refine bR (i:=3) (hq:=(by exact gG λ _=>aU gX nK rf rf rf rf (by simp only[dS,cL,List.cons_append,List.nil_append,List.append_nil];exact rfl))) (h:=λ x53=>?_))
          | (refine Lj 3 ?_;refine lN (i:=3) (hq:=(by exact gG λ _=>aU gX nK rf rf rf rf (by simp only[dS,cL,List.cons_append,List.nil_append,List.append_nil];exact rfl))) (h:=λ x53=>?_))
          | (refine Lj 4 ?_;(refine lN (i:=4) (hq:=(aW.cX (tS (f:=jX.cells) (l:=y.2.2.1++[⟨1,0,x39,v,0⟩]) (v1:=Kd x39) lD (by decide) rfl rf rf .head (by rw[List.length_append];rfl) (.new (by repeat (first|exact .head|apply mU.tail))) gX rfl dP (by omega)) jK)) (h:=λ x54=>?_);try (refine eZ (λ h54=>?_))))
          | (refine Lj 6 ?_;refine lN (i:=6) (hq:=(by exact gG λ _=>aU gX nK rf rf rf rf (by simp only[dS,cL,List.cons_append,List.nil_append,List.append_nil];exact rfl))) (h:=λ x56=>?_))
          | (refine Lj 8 ?_;refine lN (i:=8) (hq:=(by exact gG λ _=>aU gX nK rf rf rf rf (by simp only[dS,cL,List.cons_append,List.nil_append,List.append_nil];exact rfl))) (h:=λ x58=>?_))
          | (refine Lj 9 ?_;refine lN (i:=9) (hq:=(by exact gG λ _=>aU Gh nK rf rf rf rf (by simp only[dS,cL,List.cons_append,List.nil_append,List.append_nil];exact rfl))) (h:=λ x59=>?_))
          | (refine Lj 11 ?_;refine rB (i:=11) (h:=λ x15=>?_)))
       refine K0c ?_
      all_goals refine aL ?_
      all_goals
       obtain⟨ins,hins⟩:∃ins,ins=y.2.2.1++[(⟨1,0,x39,v,0⟩:jX)]:=⟨_,rfl⟩
       have hI:S4 x39 v ins:=by rw[hins];exact hy2.ins (by omega) (by omega)
       have hil:ins.length=y.2.2.1.length+1:=by rw[hins,List.length_append];rfl
      all_goals (refine eC ?_;refine bO ?_;refine Df ?_;(refine aH (aW.conv (aj (V:=λ x:NW×MV=>.tuple #[pt x.1.bm,.bool true]) (φ:=λ x=>∃Z,aBf (GR x39 v m ins) x Z) (Hc:=λ x=>NW.L m x.1 x.2) (Fc:=λ x=>x.2.B) (Oc:=λ x=>xQ x.2) (hc:=λ w1 hw=>kv hI (by omega) hil hm0 (hw.cl (.new .head)) (by rw[hins];exact hw.cl (.own .head)) (hw.cl (.new (.tail .head))) (hw.cl (.new (.tail (.tail .head)))) (hw.cl (.old (.tail .head))) ht2)) (λ x w h=>And.intro h.1 (show SF _ _ ((j.1,.cells ⟨[.int .u64 (m:Int),.slice (some ⟨j.2.2.2.1,0,none⟩) 3 3,.slice none 0 0]⟩ 34 (0,0))::NW.L m x.1 x.2) [(a,aT tl),(a2,aT t2)] x.2.B (xQ x.2) _ from j9 h.2))) (λ x65=>?_);try (refine dQ (λ h65=>?_))))
      all_goals
       obtain⟨Z,hZ⟩:=h65
       obtain⟨q,hq3,hj⟩:=aAM hZ.g hZ.d
       have hhi:=hZ.mi.hist;have hhl:=hZ.mi.hl;have hr0:∀k,k<3->mY x65.2.hi k (yd ins k)=some (Md v q k):=λ k hk=>by rw[hhi];exact hj k hk
      all_goals (refine Ez ?_;refine Ke9 ?_)
      all_goals
       refine aX (λ c69=>?_) (λ c69=>?_)
       · exact nv c69
       · all_goals try (first|contradiction|(exfalso;omega))
         all_goals (refine bG ?_;refine Ka9 ?_;refine aH (by exact gG λ _=>aU jj nK rf rf rf rf (by simp only[dS,cL,List.cons_append,List.nil_append,List.append_nil];exact rfl)) (λ x71=>?_);refine Ka8 ?_)
         all_goals
          refine sF [8,18,19,20,21,22,73,74,75,76,77,78,79,80,81,82,83,84,85,86,87,88,89,90,91,92,93,94,95,96] (λ u:Nat=>[(73,.int .i64 ((u:Nat):Int)),(18,.int .i64 (Is q u))]) (λ u=>u<=3) (λ u=>NW.L m x65.1 x65.2) (λ u=>(some ⟨x71,0,none⟩,aT [((y.2.2.1.length+1:Nat):Int),0,0])::x65.2.B) (λ u=>xQ x65.2) (λ u=>3-u) (0) (Nat.zero_le _) (λ u f hx=>?_) (hw0:=λ w hw=>(hw.sub (List.sublist_cons_self _ _) (by exact bM.all) (List.Sublist.refl _)));refine K0c ?_;all_goals (refine Ka1 ?_)
          all_goals
           refine aX (λ c74=>?_) (λ c74=>?_)
           · all_goals try (first|contradiction|(exfalso;omega))
             all_goals
              have hz3:u<3:=by omega
              have hixa:=aC9 (ins:=ins) hz3;rw[hil] at hixa
             all_goals (refine Ka6 ?_;refine aA (lY (lst:=[((y.2.2.1.length+1:Nat):Int),0,0]) (k:=u) rf rf dP eL (.new .head) hz3 hz3) rfl ?_;refine aA (cG (q:=u) (cs:=aT [((y.2.2.1.length+1:Nat):Int),0,0]) (v:=.int .i64 ((yd ins u:Nat):Int)) rf eL (.new .head) hixa) rfl ?_;refine J8 ?_;refine J2 ?_;refine aI (cM (V:=λ x:Option Addr×Nat=>.slice x.1 x65.2.hi.length x.2) (hs:=[(x65.1.bm,Gc x65.1.b x65.1.bT x65.1.pk x65.2)]) (os:=ax x65.2) (A0:=[]) (hs':=λ _=>[(x65.1.bm,Gc x65.1.b x65.1.bT x65.1.pk x65.2)]) (os':=λ _=>ax x65.2) (Fc:=λ x=>[(x.1,Fk x65.2.hi)]) (hc:=λ w1 hw=>Hl (by omega) hw)) (λ x80 h80=>?_);refine Df ?_;refine aA (vJ rf rf) rfl ?_;refine aH (cV (v:=.tuple #[.agg ⟨(Md v q u).cells⟩,.bool true]) (hc:=λ w1 hw=>Uj (by omega) (hw.cl (.new .head)) (hr0 u hz3))) (λ x84=>?_);refine Ez ?_;refine aJ (λ x21=>?_);refine Px ?_;refine vp ?_;refine cI ?_;refine aA (td (a:=Md v q u) (b:=⟨0,true,v,⟨#[]⟩,1,0,0,false⟩) rf rf (by kernel_rfl)) rfl ?_;refine aE ?_)
             all_goals
              refine aX (λ c90=>?_) (λ c90=>?_)
              · all_goals try (first|contradiction|(exfalso;omega))
                all_goals
                 have e1:=aBp (aDc c90)
                all_goals (refine Cg ?_;refine aA (uC rf rf) rfl ?_;refine Kd8 ?_)
                all_goals
                 refine kJ (u+1) ?_ ?_ (by repeat (first|(with_reducible exact uV.refl)|refine uV.cons (by exact rfl) ?_)) ?_ (λ w hw=>hw.back (hF:=by exact bM.dB λ f hf=>by simp only[List.mem_cons,List.mem_append] at hf ⊢;rcases hf with h|h<;>simp[h]))
                 · first|omega|(simp only[];omega)
                 · repeat' (first|exact bX _|refine bL ?_ ?_)
                   all_goals (first|exact rfl|exact congrArg (Value.int .i64) e1|(conv=>{lhs;whnf};congr 1;omega))
                 · exact hz3
              · all_goals try (first|contradiction|(exfalso;omega))
                all_goals
                 have e1:=zy (yu c90)
                all_goals (refine oT ?_;refine cI ?_;refine aA (aAB (a:=Md v q u) (b:=Rs.zero) rf rf (by kernel_rfl) (by unfold Md;rw[if_neg (yu (by assumption))];rfl)) rfl ?_;refine aE ?_)
                all_goals
                 refine aX (λ c95=>?_) (λ c95=>?_)
                 · exact nv c95
                 · all_goals try (first|contradiction|(exfalso;omega))
                   all_goals (refine Kc1 ?_)
                   all_goals
                    refine kJ (u+1) ?_ ?_ (by repeat (first|(with_reducible exact uV.refl)|refine uV.cons (by exact rfl) ?_)) ?_ (λ w hw=>hw.back (hF:=by exact bM.dB λ f hf=>by simp only[List.mem_cons,List.mem_append] at hf ⊢;rcases hf with h|h<;>simp[h]))
                    · first|omega|(simp only[];omega)
                    · repeat' (first|exact bX _|refine bL ?_ ?_)
                      all_goals (first|exact rfl|exact congrArg (Value.int .i64) e1|(conv=>{lhs;whnf};congr 1;omega))
                    · exact hz3
           · all_goals try (first|contradiction|(exfalso;omega))
             all_goals (refine bD rfl ?_;refine aL ?_)
             all_goals
              have hu:u=3:=by omega
              subst hu;have we1:=xc hq3
             all_goals (refine eC ?_;refine aH (cV (hc:=λ w1 hw=>hAw w1)) (λ x97=>?_);refine aB ?_)
             all_goals ((refine Ka2 ?_))
             all_goals (refine Co ?_;refine J1 ?_)
             all_goals
              refine bJ Tryz.results3 (λ w hw=>?_);exact⟨by rw[we1];rfl,hw.done⟩
end Go.Proofs.YtdeecdfockjoiaaGreatDoor

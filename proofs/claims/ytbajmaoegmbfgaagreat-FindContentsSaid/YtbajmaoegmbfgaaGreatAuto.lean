/- Merged. -/
import Derived.Test.YtbajmaoegmbfgaaGreatGLst3
set_option linter.unusedSimpArgs false
set_option linter.unusedVariables false
namespace Go.Proofs.YtbajmaoegmbfgaaGreat
open Go.Proofs.Tryz
open Go Go.RowKit Go.Ct
variable{O:List Ow}{cs:List Value}{i:Nat}{p:Prop}{α:Type}
theorem fin{A F:Fr}{a:Option Addr}(h:sD A F O a cs:=by first|exact .new .head|exact .new (.tail .head)|exact .new (.tail (.tail .head))|exact .new (.tail (.tail (.tail .head)))|exact .new (.tail (.tail (.tail (.tail .head))))|exact .new (.tail (.tail (.tail (.tail (.tail .head)))))|exact .new (.tail (.tail (.tail (.tail (.tail (.tail .head))))))|exact .new (.tail (.tail (.tail (.tail (.tail (.tail (.tail .head)))))))|exact .new (.tail (.tail (.tail (.tail (.tail (.tail (.tail (.tail .head))))))))|exact .new (.tail (.tail (.tail (.tail (.tail (.tail (.tail (.tail (.tail .head)))))))))|exact .bS .head|exact .bS (.tail .head)|exact .bS (.tail (.tail .head))|exact .bS (.tail (.tail (.tail .head)))|exact .bS (.tail (.tail (.tail (.tail .head))))|exact .bS (.tail (.tail (.tail (.tail (.tail .head)))))|exact .own .head|exact .own (.tail .head)|exact .own (.tail (.tail .head))|exact .own (.tail (.tail (.tail .head)))|exact .own (.tail (.tail (.tail (.tail .head))))|exact .own (.tail (.tail (.tail (.tail (.tail .head)))))|exact .own (.tail (.tail (.tail (.tail (.tail (.tail .head))))))|exact .own (.tail (.tail (.tail (.tail (.tail (.tail (.tail .head)))))))):sD A F O a cs:=h
theorem cY{H:List (Nat×Obj)}{b:Nat}{o:Obj}(h:At H i b o:=by repeat (first|exact At.head|apply At.tail)):At H i b o:=h
theorem zH{p:Option Addr}{c:Nat}{T:TypeId}{sz:Nat}(h:yU O i p cs c T sz:=by repeat (first|exact yU.head|apply yU.tail)):yU O i p cs c T sz:=h
theorem rf{a b:α}(h:a=b:=by exact rfl):a=b:=h
theorem wn{a b:α}(h:a=b:=by conv=>{lhs;whnf}):a=b:=h
theorem fW(h:p:=by exact Og rfl):p:=h
theorem eD(h:p:=by exact U6 rfl):p:=h
theorem gS(h:p:=by exact aD6 rfl):p:=h
theorem se1(h:p:=by simp only[List.set_cons_succ,List.set_cons_zero];exact rfl):p:=h
theorem iR(h:p:=by simp only[setAt];exact rfl):p:=h
theorem Kg(h:p:=by repeat (first|exact Qo _|(apply Ny;(conv=>{lhs;whnf})))):p:=h
theorem vS(h:p:=by intro x;simp only[lM];exact rfl):p:=h
theorem X1(h:p:=by first|exact rfl|omega|(simp;done)|(simp;omega)):p:=h
theorem dh(h:p:=by first|exact Ku rfl|exact Mc rfl):p:=h
theorem Pf(h:p:=by exact Ii rfl):p:=h
theorem ep1(h:p:=by exact qW rfl):p:=h
theorem om(h:p:=by omega):p:=h
theorem fl1(h:p:=by first|exact aCw rfl|exact xI rfl|exact vC rfl|exact vP rfl|exact vJ rfl|exact fld_ctrieref12_Call_5 rfl|exact fld_ctrieref12_Call_6 rfl|exact vD rfl|exact vT rfl|exact vR rfl|exact tW rfl|exact tX rfl|exact uN rfl|exact fld_ctrieref12_Call_13 rfl|exact fld_ctrieref12_Call_14 rfl|exact Ff rfl|exact Fb rfl|exact Ft rfl|exact E7 rfl|exact E3 rfl|exact vK rfl|exact vQ rfl|exact vU rfl|exact vW rfl|exact vE rfl|exact vI rfl|exact vV rfl|exact vL rfl|exact uI rfl|exact uK rfl|exact tY rfl|exact tQ rfl|exact tR rfl|exact fld_ctrieref12_Exec_15 rfl|exact Cb rfl|exact Bt rfl):p:=h
theorem in1(h:p:=by first|exact tU (k:=.i64) rfl|exact tU (k:=.u64) rfl|exact tU (k:=.u8) rfl|exact tU (k:=.u16) rfl|exact tU (k:=.i8) rfl):p:=h
variable{n:Nat}{Q:Exit->Act->World->Prop}{ks:List CK}{S:List (Nat×Value)}{ops:Array Oper}{l ol:List Oper}{pl:rA}{LL:List Nat}{Dl Dp Dq:List Nat}
variable{w0:World}{M:List Nat}{H:List (Nat×Obj)}{A F:Fr}{O:List Ow}{G:World->Prop}{i d:Nat}{v:Value}{op:Op}{ty:TypeId}{pos:String}{af:Array Edge}{gd:Option (Nat×Bool)}{X:Type}{V:X->Value}{G':X->World->Prop}{j g:Nat}{want t:Bool}
variable{f:FuncId}{xs:List Operand}{at_:Array TypeId}{vs:List Value}{dst:Option Nat}
theorem gP{o:Oper}(h:eT ol i o:=by repeat (first|exact eT.head|apply eT.tail)):eT ol i o:=h
theorem aA(h:JL prog n Q ks ops l ((d,v)::S) G)(hq:aM prog S G ⟨some d,op,ty,pos,af,none⟩ v:=by exact V6 wn)(hd:Nat.blt d n=true:=by exact rfl):JL prog n Q ks ops (⟨some d,op,ty,pos,af,none⟩::l) S G:=aC hq hd h
theorem aV(h:JR prog n Q ks ⟨ol⟩ pl Dl (i::Dp) Dq ((d,v)::S) G)(ho:eT ol i ⟨some d,op,ty,pos,af,gd⟩:=by exact gP)(hw:Region.wanted ⟨some d,op,ty,pos,af,gd⟩ (bL ⟨ol⟩ S)=true:=by exact rfl)(hq:aM prog S (λ _=>True) ⟨some d,op,ty,pos,af,gd⟩ v:=by exact V6 wn)(hc:dL ⟨ol⟩ n Dl Dp Dq i d=true:=by decide +kernel):JR prog n Q ks ⟨ol⟩ (.one i LL pl) Dl Dp Dq S G:=hU ho hw hq hc h
theorem cH(h:JL prog n Q ks ops l ((d,v)::S) G)(hq:aM prog S G ⟨some d,op,ty,pos,af,none⟩ v:=by first|exact I9 rf wn|exact Gj rf wn|exact o_pick_b rf rf rf)(hd:Nat.blt d n=true:=by exact rfl):JL prog n Q ks ops (⟨some d,op,ty,pos,af,none⟩::l) S G:=aC hq hd h
theorem lZ(h:JR prog n Q ks ⟨ol⟩ pl Dl (i::Dp) Dq ((d,v)::S) G)(ho:eT ol i ⟨some d,op,ty,pos,af,gd⟩:=by exact gP)(hw:Region.wanted ⟨some d,op,ty,pos,af,gd⟩ (bL ⟨ol⟩ S)=true:=by exact rfl)(hq:aM prog S (λ _=>True) ⟨some d,op,ty,pos,af,gd⟩ v:=by first|exact I9 rf wn|exact Gj rf wn|exact o_pick_b rf rf rf)(hc:dL ⟨ol⟩ n Dl Dp Dq i d=true:=by decide +kernel):JR prog n Q ks ⟨ol⟩ (.one i LL pl) Dl Dp Dq S G:=hU ho hw hq hc h
theorem dO(h:JL prog n Q ks ops l ((d,v)::S) G)(hq:aM prog S G ⟨some d,op,ty,pos,af,none⟩ v:=by exact Ie rf)(hd:Nat.blt d n=true:=by exact rfl):JL prog n Q ks ops (⟨some d,op,ty,pos,af,none⟩::l) S G:=aC hq hd h
theorem uG(h:JR prog n Q ks ⟨ol⟩ pl Dl (i::Dp) Dq ((d,v)::S) G)(ho:eT ol i ⟨some d,op,ty,pos,af,gd⟩:=by exact gP)(hw:Region.wanted ⟨some d,op,ty,pos,af,gd⟩ (bL ⟨ol⟩ S)=true:=by exact rfl)(hq:aM prog S (λ _=>True) ⟨some d,op,ty,pos,af,gd⟩ v:=by exact Ie rf)(hc:dL ⟨ol⟩ n Dl Dp Dq i d=true:=by decide +kernel):JR prog n Q ks ⟨ol⟩ (.one i LL pl) Dl Dp Dq S G:=hU ho hw hq hc h
theorem aE(h:JL prog n Q ks ops l ((d,v)::S) G)(hq:aM prog S G ⟨some d,op,ty,pos,af,none⟩ v:=by first|exact uC rf fl1|exact sC rf fl1)(hd:Nat.blt d n=true:=by exact rfl):JL prog n Q ks ops (⟨some d,op,ty,pos,af,none⟩::l) S G:=aC hq hd h
theorem aY(h:JR prog n Q ks ⟨ol⟩ pl Dl (i::Dp) Dq ((d,v)::S) G)(ho:eT ol i ⟨some d,op,ty,pos,af,gd⟩:=by exact gP)(hw:Region.wanted ⟨some d,op,ty,pos,af,gd⟩ (bL ⟨ol⟩ S)=true:=by exact rfl)(hq:aM prog S (λ _=>True) ⟨some d,op,ty,pos,af,gd⟩ v:=by first|exact uC rf fl1|exact sC rf fl1)(hc:dL ⟨ol⟩ n Dl Dp Dq i d=true:=by decide +kernel):JR prog n Q ks ⟨ol⟩ (.one i LL pl) Dl Dp Dq S G:=hU ho hw hq hc h
theorem O6(h:aM prog S G ⟨some d,op,ty,pos,af,gd⟩ v:=by first|exact qSF (aB6 rf cY fW rf)|exact qSF (bz rf cY eD)|exact fI rf fW fin om|exact ln rf fW fin om|exact R8 rf fW fin om|exact tu rf eD fin om|exact Wn rf eD fin om|exact wE rf fW fin om|exact o_loadVf rf fW rf fin om|exact Br rf fW fin om):aM prog S G ⟨some d,op,ty,pos,af,gd⟩ v:=h
theorem bO(h:JL prog n Q ks ops l ((d,v)::S) G)(hq:aM prog S G ⟨some d,op,ty,pos,af,none⟩ v:=by exact O6)(hd:Nat.blt d n=true:=by exact rfl):JL prog n Q ks ops (⟨some d,op,ty,pos,af,none⟩::l) S G:=aC hq hd h
theorem bV(h:JR prog n Q ks ⟨ol⟩ pl Dl Dp (i::Dq) ((d,v)::S) G)(ho:eT ol i ⟨some d,op,ty,pos,af,gd⟩:=by exact gP)(hw:Region.wanted ⟨some d,op,ty,pos,af,gd⟩ (bL ⟨ol⟩ S)=true:=by exact rfl)(hq:aM prog S G ⟨some d,op,ty,pos,af,gd⟩ v:=by exact O6)(hc:dL ⟨ol⟩ n Dl Dp Dq i d=true:=by decide +kernel):JR prog n Q ks ⟨ol⟩ (.one i LL pl) Dl Dp Dq S G:=Uy ho hw hq hc h
theorem fA(ho:eT ol i ⟨some d,op,ty,pos,af,gd⟩:=by exact gP)(hw:Region.wanted ⟨some d,op,ty,pos,af,gd⟩ (bL ⟨ol⟩ S)=true:=by exact rfl)(hv:Ct.look S d=v:=by conv=>{lhs;whnf})(hq:aM prog S G ⟨some d,op,ty,pos,af,gd⟩ v:=by exact O6):nL prog ⟨ol⟩ S G i:=Ns ho hw hv hq
theorem xV(h:aM prog S G ⟨some d,op,ty,pos,af,gd⟩ v:=by first|exact dR rf rf gS fW fin om om|exact H9 rf rf gS eD fin om om|exact tB rf rf gS eD fin om om|exact oT rf rf gS fW fin om om):aM prog S G ⟨some d,op,ty,pos,af,gd⟩ v:=h
theorem fM(h:JL prog n Q ks ops l ((d,v)::S) G)(hq:aM prog S G ⟨some d,op,ty,pos,af,none⟩ v:=by exact xV)(hd:Nat.blt d n=true:=by exact rfl):JL prog n Q ks ops (⟨some d,op,ty,pos,af,none⟩::l) S G:=aC hq hd h
theorem jF(h:JR prog n Q ks ⟨ol⟩ pl Dl Dp (i::Dq) ((d,v)::S) G)(ho:eT ol i ⟨some d,op,ty,pos,af,gd⟩:=by exact gP)(hw:Region.wanted ⟨some d,op,ty,pos,af,gd⟩ (bL ⟨ol⟩ S)=true:=by exact rfl)(hq:aM prog S G ⟨some d,op,ty,pos,af,gd⟩ v:=by exact xV)(hc:dL ⟨ol⟩ n Dl Dp Dq i d=true:=by decide +kernel):JR prog n Q ks ⟨ol⟩ (.one i LL pl) Dl Dp Dq S G:=Uy ho hw hq hc h
theorem mI(ho:eT ol i ⟨some d,op,ty,pos,af,gd⟩:=by exact gP)(hw:Region.wanted ⟨some d,op,ty,pos,af,gd⟩ (bL ⟨ol⟩ S)=true:=by exact rfl)(hv:Ct.look S d=v:=by conv=>{lhs;whnf})(hq:aM prog S G ⟨some d,op,ty,pos,af,gd⟩ v:=by exact xV):nL prog ⟨ol⟩ S G i:=Ns ho hw hv hq
theorem Lo(h:aM prog S G ⟨some d,op,ty,pos,af,gd⟩ v:=by first|exact y5 rf in1 (by exact tU rfl) om|exact Mx rf in1 (by exact tU rfl) om|exact Dy rf in1 in1):aM prog S G ⟨some d,op,ty,pos,af,gd⟩ v:=h
theorem gX(h:JL prog n Q ks ops l ((d,v)::S) G)(hq:aM prog S G ⟨some d,op,ty,pos,af,none⟩ v:=by exact Lo)(hd:Nat.blt d n=true:=by exact rfl):JL prog n Q ks ops (⟨some d,op,ty,pos,af,none⟩::l) S G:=aC hq hd h
theorem oC(h:JR prog n Q ks ⟨ol⟩ pl Dl (i::Dp) Dq ((d,v)::S) G)(ho:eT ol i ⟨some d,op,ty,pos,af,gd⟩:=by exact gP)(hw:Region.wanted ⟨some d,op,ty,pos,af,gd⟩ (bL ⟨ol⟩ S)=true:=by exact rfl)(hq:aM prog S (λ _=>True) ⟨some d,op,ty,pos,af,gd⟩ v:=by exact Lo)(hc:dL ⟨ol⟩ n Dl Dp Dq i d=true:=by decide +kernel):JR prog n Q ks ⟨ol⟩ (.one i LL pl) Dl Dp Dq S G:=hU ho hw hq hc h
theorem zG(h:JL prog n Q ks ops l ((d,v)::S) G)(hq:aM prog S G ⟨some d,op,ty,pos,af,none⟩ v:=by exact aAl rf)(hd:Nat.blt d n=true:=by exact rfl):JL prog n Q ks ops (⟨some d,op,ty,pos,af,none⟩::l) S G:=aC hq hd h
theorem Yc(h:JR prog n Q ks ⟨ol⟩ pl Dl (i::Dp) Dq ((d,v)::S) G)(ho:eT ol i ⟨some d,op,ty,pos,af,gd⟩:=by exact gP)(hw:Region.wanted ⟨some d,op,ty,pos,af,gd⟩ (bL ⟨ol⟩ S)=true:=by exact rfl)(hq:aM prog S (λ _=>True) ⟨some d,op,ty,pos,af,gd⟩ v:=by exact aAl rf)(hc:dL ⟨ol⟩ n Dl Dp Dq i d=true:=by decide +kernel):JR prog n Q ks ⟨ol⟩ (.one i LL pl) Dl Dp Dq S G:=hU ho hw hq hc h
theorem D4(h:JL prog n Q ks ops l ((d,v)::S) G)(hq:aM prog S G ⟨some d,op,ty,pos,af,none⟩ v:=by exact jW rf rf)(hd:Nat.blt d n=true:=by exact rfl):JL prog n Q ks ops (⟨some d,op,ty,pos,af,none⟩::l) S G:=aC hq hd h
theorem iJ(h:JR prog n Q ks ⟨ol⟩ pl Dl (i::Dp) Dq ((d,v)::S) G)(ho:eT ol i ⟨some d,op,ty,pos,af,gd⟩:=by exact gP)(hw:Region.wanted ⟨some d,op,ty,pos,af,gd⟩ (bL ⟨ol⟩ S)=true:=by exact rfl)(hq:aM prog S (λ _=>True) ⟨some d,op,ty,pos,af,gd⟩ v:=by exact jW rf rf)(hc:dL ⟨ol⟩ n Dl Dp Dq i d=true:=by decide +kernel):JR prog n Q ks ⟨ol⟩ (.one i LL pl) Dl Dp Dq S G:=hU ho hw hq hc h
theorem cP(h:JL prog n Q ks ops l ((d,v)::S) G)(hq:aM prog S G ⟨some d,op,ty,pos,af,none⟩ v:=by exact W2 rf (by exact Yk rfl) rf)(hd:Nat.blt d n=true:=by exact rfl):JL prog n Q ks ops (⟨some d,op,ty,pos,af,none⟩::l) S G:=aC hq hd h
theorem sF(h:JR prog n Q ks ⟨ol⟩ pl Dl (i::Dp) Dq ((d,v)::S) G)(ho:eT ol i ⟨some d,op,ty,pos,af,gd⟩:=by exact gP)(hw:Region.wanted ⟨some d,op,ty,pos,af,gd⟩ (bL ⟨ol⟩ S)=true:=by exact rfl)(hq:aM prog S (λ _=>True) ⟨some d,op,ty,pos,af,gd⟩ v:=by exact W2 rf (by exact Yk rfl) rf)(hc:dL ⟨ol⟩ n Dl Dp Dq i d=true:=by decide +kernel):JR prog n Q ks ⟨ol⟩ (.one i LL pl) Dl Dp Dq S G:=hU ho hw hq hc h
theorem We(h:aM prog S G ⟨some d,op,ty,pos,af,gd⟩ v:=by first|exact v5 (by first|exact D2 rfl|exact tN rfl|exact sQ rfl|exact D6 rfl|exact Cg rfl|exact struct_ctrielock_PairT rfl|exact struct_ctrieref12_WalkT rfl|exact uV rfl|exact Av rfl|exact zC rfl|exact Cq rfl|exact struct_ctrieref12_FrameT rfl) Kg rf (by simp only[Jr,List.set_cons_succ,List.set_cons_zero];exact rfl)|exact iw (by first|exact place_api_TrieT rfl|exact place_ctriemake_WorldT rfl|exact place_ctrieref09_PlaceT rfl|exact place_api_NodeT rfl|exact place_api_StateT rfl|exact vX rfl|exact By rfl|exact place_ctrielock_PairT rfl|exact place_ctrieref12_WalkT rfl|exact tT rfl|exact place_ctriemake_TapeT rfl|exact H2 rfl|exact place_api_AccessT rfl|exact Dn rfl|exact place_arena_ArenaT rfl|exact Di rfl|exact uE rfl|exact Ad rfl|exact place_api_PairT rfl|exact place_ctrieref12_FrameT rfl) Kg rf (by simp only[Gr,qE,oE,List.getD_cons_succ,List.getD_cons_zero,List.set_cons_succ,List.set_cons_zero];exact rfl)):aM prog S G ⟨some d,op,ty,pos,af,gd⟩ v:=h
theorem bM(h:JL prog n Q ks ops l ((d,v)::S) G)(hq:aM prog S G ⟨some d,op,ty,pos,af,none⟩ v:=by exact We)(hd:Nat.blt d n=true:=by exact rfl):JL prog n Q ks ops (⟨some d,op,ty,pos,af,none⟩::l) S G:=aC hq hd h
theorem gM(h:JR prog n Q ks ⟨ol⟩ pl Dl (i::Dp) Dq ((d,v)::S) G)(ho:eT ol i ⟨some d,op,ty,pos,af,gd⟩:=by exact gP)(hw:Region.wanted ⟨some d,op,ty,pos,af,gd⟩ (bL ⟨ol⟩ S)=true:=by exact rfl)(hq:aM prog S (λ _=>True) ⟨some d,op,ty,pos,af,gd⟩ v:=by exact We)(hc:dL ⟨ol⟩ n Dl Dp Dq i d=true:=by decide +kernel):JR prog n Q ks ⟨ol⟩ (.one i LL pl) Dl Dp Dq S G:=hU ho hw hq hc h
theorem jh(h:aM prog S G ⟨some d,op,ty,pos,af,gd⟩ v:=by first|exact aEc rf rf|exact o6 rf rf gS|exact vt rf rf (by exact Uu rfl)):aM prog S G ⟨some d,op,ty,pos,af,gd⟩ v:=h
theorem mJ(h:JL prog n Q ks ops l ((d,v)::S) G)(hq:aM prog S G ⟨some d,op,ty,pos,af,none⟩ v:=by exact jh)(hd:Nat.blt d n=true:=by exact rfl):JL prog n Q ks ops (⟨some d,op,ty,pos,af,none⟩::l) S G:=aC hq hd h
theorem pI(h:JR prog n Q ks ⟨ol⟩ pl Dl (i::Dp) Dq ((d,v)::S) G)(ho:eT ol i ⟨some d,op,ty,pos,af,gd⟩:=by exact gP)(hw:Region.wanted ⟨some d,op,ty,pos,af,gd⟩ (bL ⟨ol⟩ S)=true:=by exact rfl)(hq:aM prog S (λ _=>True) ⟨some d,op,ty,pos,af,gd⟩ v:=by exact jh)(hc:dL ⟨ol⟩ n Dl Dp Dq i d=true:=by decide +kernel):JR prog n Q ks ⟨ol⟩ (.one i LL pl) Dl Dp Dq S G:=hU ho hw hq hc h
theorem lN(h:JL prog n Q ks ops l ((d,v)::S) G)(hq:aM prog S G ⟨some d,op,ty,pos,af,none⟩ v:=by first|exact aAF rf rf|exact Yq rf rf (by exact Uu rfl))(hd:Nat.blt d n=true:=by exact rfl):JL prog n Q ks ops (⟨some d,op,ty,pos,af,none⟩::l) S G:=aC hq hd h
theorem oy(h:JR prog n Q ks ⟨ol⟩ pl Dl (i::Dp) Dq ((d,v)::S) G)(ho:eT ol i ⟨some d,op,ty,pos,af,gd⟩:=by exact gP)(hw:Region.wanted ⟨some d,op,ty,pos,af,gd⟩ (bL ⟨ol⟩ S)=true:=by exact rfl)(hq:aM prog S (λ _=>True) ⟨some d,op,ty,pos,af,gd⟩ v:=by first|exact aAF rf rf|exact Yq rf rf (by exact Uu rfl))(hc:dL ⟨ol⟩ n Dl Dp Dq i d=true:=by decide +kernel):JR prog n Q ks ⟨ol⟩ (.one i LL pl) Dl Dp Dq S G:=hU ho hw hq hc h
theorem aAu(h:JL prog n Q ks ops l ((d,v)::S) G)(hq:aM prog S G ⟨some d,op,ty,pos,af,none⟩ v:=by exact aAj rf rf)(hd:Nat.blt d n=true:=by exact rfl):JL prog n Q ks ops (⟨some d,op,ty,pos,af,none⟩::l) S G:=aC hq hd h
theorem ji(h:JR prog n Q ks ⟨ol⟩ pl Dl (i::Dp) Dq ((d,v)::S) G)(ho:eT ol i ⟨some d,op,ty,pos,af,gd⟩:=by exact gP)(hw:Region.wanted ⟨some d,op,ty,pos,af,gd⟩ (bL ⟨ol⟩ S)=true:=by exact rfl)(hq:aM prog S (λ _=>True) ⟨some d,op,ty,pos,af,gd⟩ v:=by exact aAj rf rf)(hc:dL ⟨ol⟩ n Dl Dp Dq i d=true:=by decide +kernel):JR prog n Q ks ⟨ol⟩ (.one i LL pl) Dl Dp Dq S G:=hU ho hw hq hc h
theorem aAm(h:JL prog n Q ks ops l ((d,v)::S) G)(hq:aM prog S G ⟨some d,op,ty,pos,af,none⟩ v:=by exact aCE rf rf)(hd:Nat.blt d n=true:=by exact rfl):JL prog n Q ks ops (⟨some d,op,ty,pos,af,none⟩::l) S G:=aC hq hd h
theorem Yi(h:JR prog n Q ks ⟨ol⟩ pl Dl (i::Dp) Dq ((d,v)::S) G)(ho:eT ol i ⟨some d,op,ty,pos,af,gd⟩:=by exact gP)(hw:Region.wanted ⟨some d,op,ty,pos,af,gd⟩ (bL ⟨ol⟩ S)=true:=by exact rfl)(hq:aM prog S (λ _=>True) ⟨some d,op,ty,pos,af,gd⟩ v:=by exact uw rf rf (by exact yw rfl))(hc:dL ⟨ol⟩ n Dl Dp Dq i d=true:=by decide +kernel):JR prog n Q ks ⟨ol⟩ (.one i LL pl) Dl Dp Dq S G:=hU ho hw hq hc h
theorem aAi(h:JL prog n Q ks ops l ((d,v)::S) G)(hq:aM prog S G ⟨some d,op,ty,pos,af,none⟩ v:=by exact aDc rf rf (by first|decide|omega))(hd:Nat.blt d n=true:=by exact rfl):JL prog n Q ks ops (⟨some d,op,ty,pos,af,none⟩::l) S G:=aC hq hd h
theorem Ei(h:JL prog n Q ks ops l ((d,v)::S) G)(hq:aM prog S G ⟨some d,op,ty,pos,af,none⟩ v:=by exact qt rf rf (by first|decide|omega))(hd:Nat.blt d n=true:=by exact rfl):JL prog n Q ks ops (⟨some d,op,ty,pos,af,none⟩::l) S G:=aC hq hd h
theorem aD0(h:JL prog n Q ks ops l ((d,v)::S) G)(hq:aM prog S G ⟨some d,op,ty,pos,af,none⟩ v:=by exact im rf rf om)(hd:Nat.blt d n=true:=by exact rfl):JL prog n Q ks ops (⟨some d,op,ty,pos,af,none⟩::l) S G:=aC hq hd h
theorem Eb(h:JL prog n Q ks ops l ((d,v)::S) G)(hq:aM prog S G ⟨some d,op,ty,pos,af,none⟩ v:=by first|exact aAx rf rf om|exact Ux rf rf om|exact oR rf rf)(hd:Nat.blt d n=true:=by exact rfl):JL prog n Q ks ops (⟨some d,op,ty,pos,af,none⟩::l) S G:=aC hq hd h
theorem ns(h:JR prog n Q ks ⟨ol⟩ pl Dl (i::Dp) Dq ((d,v)::S) G)(ho:eT ol i ⟨some d,op,ty,pos,af,gd⟩:=by exact gP)(hw:Region.wanted ⟨some d,op,ty,pos,af,gd⟩ (bL ⟨ol⟩ S)=true:=by exact rfl)(hq:aM prog S (λ _=>True) ⟨some d,op,ty,pos,af,gd⟩ v:=by first|exact aAx rf rf om|exact Ux rf rf om|exact oR rf rf)(hc:dL ⟨ol⟩ n Dl Dp Dq i d=true:=by decide +kernel):JR prog n Q ks ⟨ol⟩ (.one i LL pl) Dl Dp Dq S G:=hU ho hw hq hc h
theorem sV(h:JL prog n Q ks ops l ((d,v)::S) G)(hq:aM prog S G ⟨some d,op,ty,pos,af,none⟩ v:=by first|exact jc rf rf om om|exact Mp rf rf om|exact Mb rf rf)(hd:Nat.blt d n=true:=by exact rfl):JL prog n Q ks ops (⟨some d,op,ty,pos,af,none⟩::l) S G:=aC hq hd h
theorem Qy(h:JR prog n Q ks ⟨ol⟩ pl Dl (i::Dp) Dq ((d,v)::S) G)(ho:eT ol i ⟨some d,op,ty,pos,af,gd⟩:=by exact gP)(hw:Region.wanted ⟨some d,op,ty,pos,af,gd⟩ (bL ⟨ol⟩ S)=true:=by exact rfl)(hq:aM prog S (λ _=>True) ⟨some d,op,ty,pos,af,gd⟩ v:=by first|exact jc rf rf om om|exact Mp rf rf om|exact Mb rf rf)(hc:dL ⟨ol⟩ n Dl Dp Dq i d=true:=by decide +kernel):JR prog n Q ks ⟨ol⟩ (.one i LL pl) Dl Dp Dq S G:=hU ho hw hq hc h
theorem Es(h:JL prog n Q ks ops l ((d,v)::S) G)(hq:aM prog S G ⟨some d,op,ty,pos,af,none⟩ v:=by first|exact Ux rf rf om|exact oR rf rf)(hd:Nat.blt d n=true:=by exact rfl):JL prog n Q ks ops (⟨some d,op,ty,pos,af,none⟩::l) S G:=aC hq hd h
theorem aCX(h:JL prog n Q ks ops l ((d,v)::S) G)(hq:aM prog S G ⟨some d,op,ty,pos,af,none⟩ v:=by first|exact Mp rf rf om|exact Mb rf rf)(hd:Nat.blt d n=true:=by exact rfl):JL prog n Q ks ops (⟨some d,op,ty,pos,af,none⟩::l) S G:=aC hq hd h
theorem kW(h:JL prog n Q ks ops l ((d,v)::S) G)(hq:aM prog S G ⟨some d,op,ty,pos,af,none⟩ v:=by exact jd rf (by exact aBU rfl))(hd:Nat.blt d n=true:=by exact rfl):JL prog n Q ks ops (⟨some d,op,ty,pos,af,none⟩::l) S G:=aC hq hd h
theorem dV(h:JL prog n Q ks ops l ((d,v)::S) G)(hq:aM prog S G ⟨some d,op,ty,pos,af,none⟩ v:=by exact aAq rf gS)(hd:Nat.blt d n=true:=by exact rfl):JL prog n Q ks ops (⟨some d,op,ty,pos,af,none⟩::l) S G:=aC hq hd h
theorem qB(h:JR prog n Q ks ⟨ol⟩ pl Dl (i::Dp) Dq ((d,v)::S) G)(ho:eT ol i ⟨some d,op,ty,pos,af,gd⟩:=by exact gP)(hw:Region.wanted ⟨some d,op,ty,pos,af,gd⟩ (bL ⟨ol⟩ S)=true:=by exact rfl)(hq:aM prog S (λ _=>True) ⟨some d,op,ty,pos,af,gd⟩ v:=by exact aAq rf gS)(hc:dL ⟨ol⟩ n Dl Dp Dq i d=true:=by decide +kernel):JR prog n Q ks ⟨ol⟩ (.one i LL pl) Dl Dp Dq S G:=hU ho hw hq hc h
theorem fp(h:JL prog n Q ks ops l ((d,v)::S) G)(hq:aM prog S G ⟨some d,op,ty,pos,af,none⟩ v:=by exact zu rf rf)(hd:Nat.blt d n=true:=by exact rfl):JL prog n Q ks ops (⟨some d,op,ty,pos,af,none⟩::l) S G:=aC hq hd h
theorem Ec(h:JR prog n Q ks ⟨ol⟩ pl Dl (i::Dp) Dq ((d,v)::S) G)(ho:eT ol i ⟨some d,op,ty,pos,af,gd⟩:=by exact gP)(hw:Region.wanted ⟨some d,op,ty,pos,af,gd⟩ (bL ⟨ol⟩ S)=true:=by exact rfl)(hq:aM prog S (λ _=>True) ⟨some d,op,ty,pos,af,gd⟩ v:=by exact zu rf rf)(hc:dL ⟨ol⟩ n Dl Dp Dq i d=true:=by decide +kernel):JR prog n Q ks ⟨ol⟩ (.one i LL pl) Dl Dp Dq S G:=hU ho hw hq hc h
theorem xR(h:JL prog n Q ks ops l ((d,v)::S) G)(hq:aM prog S G ⟨some d,op,ty,pos,af,none⟩ v:=by exact aDm rf rf)(hd:Nat.blt d n=true:=by exact rfl):JL prog n Q ks ops (⟨some d,op,ty,pos,af,none⟩::l) S G:=aC hq hd h
theorem Eo(h:JL prog n Q ks ops l ((d,v)::S) G)(hq:aM prog S G ⟨some d,op,ty,pos,af,none⟩ v:=by exact aAC rf rf)(hd:Nat.blt d n=true:=by exact rfl):JL prog n Q ks ops (⟨some d,op,ty,pos,af,none⟩::l) S G:=aC hq hd h
theorem aDp(h:JR prog n Q ks ⟨ol⟩ pl Dl (i::Dp) Dq ((d,v)::S) G)(ho:eT ol i ⟨some d,op,ty,pos,af,gd⟩:=by exact gP)(hw:Region.wanted ⟨some d,op,ty,pos,af,gd⟩ (bL ⟨ol⟩ S)=true:=by exact rfl)(hq:aM prog S (λ _=>True) ⟨some d,op,ty,pos,af,gd⟩ v:=by exact aAC rf rf)(hc:dL ⟨ol⟩ n Dl Dp Dq i d=true:=by decide +kernel):JR prog n Q ks ⟨ol⟩ (.one i LL pl) Dl Dp Dq S G:=hU ho hw hq hc h
theorem lQ(h:JL prog n Q ks ops l ((d,v)::S) G)(hq:aM prog S G ⟨some d,op,ty,pos,af,none⟩ v:=by exact aAc rf rf)(hd:Nat.blt d n=true:=by exact rfl):JL prog n Q ks ops (⟨some d,op,ty,pos,af,none⟩::l) S G:=aC hq hd h
theorem aDV(h:JR prog n Q ks ⟨ol⟩ pl Dl (i::Dp) Dq ((d,v)::S) G)(ho:eT ol i ⟨some d,op,ty,pos,af,gd⟩:=by exact gP)(hw:Region.wanted ⟨some d,op,ty,pos,af,gd⟩ (bL ⟨ol⟩ S)=true:=by exact rfl)(hq:aM prog S (λ _=>True) ⟨some d,op,ty,pos,af,gd⟩ v:=by exact aAc rf rf)(hc:dL ⟨ol⟩ n Dl Dp Dq i d=true:=by decide +kernel):JR prog n Q ks ⟨ol⟩ (.one i LL pl) Dl Dp Dq S G:=hU ho hw hq hc h
theorem Cf(h:JL prog n Q ks ops l ((d,v)::S) G)(hq:aM prog S G ⟨some d,op,ty,pos,af,none⟩ v:=by exact aAE rf rf)(hd:Nat.blt d n=true:=by exact rfl):JL prog n Q ks ops (⟨some d,op,ty,pos,af,none⟩::l) S G:=aC hq hd h
theorem aEA(h:JL prog n Q ks ops l ((d,v)::S) G)(hq:aM prog S G ⟨some d,op,ty,pos,af,none⟩ v:=by exact aEz rf rf)(hd:Nat.blt d n=true:=by exact rfl):JL prog n Q ks ops (⟨some d,op,ty,pos,af,none⟩::l) S G:=aC hq hd h
theorem ee(h:JR prog n Q ks ⟨ol⟩ pl Dl (i::Dp) Dq ((d,v)::S) G)(ho:eT ol i ⟨some d,op,ty,pos,af,gd⟩:=by exact gP)(hw:Region.wanted ⟨some d,op,ty,pos,af,gd⟩ (bL ⟨ol⟩ S)=true:=by exact rfl)(hq:aM prog S (λ _=>True) ⟨some d,op,ty,pos,af,gd⟩ v:=by exact ny rf rf)(hc:dL ⟨ol⟩ n Dl Dp Dq i d=true:=by decide +kernel):JR prog n Q ks ⟨ol⟩ (.one i LL pl) Dl Dp Dq S G:=hU ho hw hq hc h
theorem m7(h:JR prog n Q ks ⟨ol⟩ pl Dl (i::Dp) Dq ((d,v)::S) G)(ho:eT ol i ⟨some d,op,ty,pos,af,gd⟩:=by exact gP)(hw:Region.wanted ⟨some d,op,ty,pos,af,gd⟩ (bL ⟨ol⟩ S)=true:=by exact rfl)(hq:aM prog S (λ _=>True) ⟨some d,op,ty,pos,af,gd⟩ v:=by exact ig rf rf)(hc:dL ⟨ol⟩ n Dl Dp Dq i d=true:=by decide +kernel):JR prog n Q ks ⟨ol⟩ (.one i LL pl) Dl Dp Dq S G:=hU ho hw hq hc h
theorem ry(h:JR prog n Q ks ⟨ol⟩ pl Dl (i::Dp) Dq ((d,v)::S) G)(ho:eT ol i ⟨some d,op,ty,pos,af,gd⟩:=by exact gP)(hw:Region.wanted ⟨some d,op,ty,pos,af,gd⟩ (bL ⟨ol⟩ S)=true:=by exact rfl)(hq:aM prog S (λ _=>True) ⟨some d,op,ty,pos,af,gd⟩ v:=by exact jy rf rf)(hc:dL ⟨ol⟩ n Dl Dp Dq i d=true:=by decide +kernel):JR prog n Q ks ⟨ol⟩ (.one i LL pl) Dl Dp Dq S G:=hU ho hw hq hc h
theorem nI{S1:X->List (Nat×Value)}(h:∀x,aL prog ⟨ol⟩ (S1 x) (G' x) LL:=by intro _;first|exact aL.nil|(refine aL.cons (by first|exact fA|exact mI|exact a_un) ?_;exact aL.nil)|(refine fV ?_;refine aL.cons (by first|exact fA|exact mI|exact a_un) ?_;exact aL.nil)|((repeat (first|exact aL.nil|refine aL.cons (by first|exact fA|exact mI|exact a_un) ?_));done)|(refine fV ?_;(repeat (first|exact aL.nil|refine aL.cons (by first|exact fA|exact mI|exact a_un) ?_));done)):∀x,aL prog ⟨ol⟩ (S1 x) (G' x) LL:=h
theorem bJ(h:∀x,JL prog n Q ks ops l ((d,V x)::S) (G' x))(hq:bG prog S G ⟨some d,op,ty,pos,af,none⟩ X V G':=by first|exact gE λ _=>Xc rf|exact gE λ _=>Oz rf rfl)(hd:Nat.blt d n=true:=by exact rfl):JL prog n Q ks ops (⟨some d,op,ty,pos,af,none⟩::l) S G:=sO hq hd h
theorem o8(ho:eT ol i ⟨some d,op,ty,pos,af,gd⟩:=by exact gP)(hw:Region.wanted ⟨some d,op,ty,pos,af,gd⟩ (bL ⟨ol⟩ S)=true:=by exact rfl)(hq:bG prog S G ⟨some d,op,ty,pos,af,gd⟩ X V G':=by first|exact gE λ _=>Xc rf|exact gE λ _=>Oz rf rfl)(hc:hY ⟨ol⟩ n Dl Dp Dq i (some d)=true:=by decide +kernel)(hL:((Ct.waiting ⟨ol⟩ Dq i).all λ j=>LL.elem j)=true:=by decide +kernel)(hl:jO ⟨ol⟩ Dl Dp Dq [i]=true:=by decide +kernel)(hfire:∀x,aL prog ⟨ol⟩ ((d,V x)::S) (G' x) LL:=by exact nI)(h:∀x,JR prog n Q ks ⟨ol⟩ pl (i::Dl) Dp Dq ((d,V x)::S) (G' x)):JR prog n Q ks ⟨ol⟩ (.one i LL pl) Dl Dp Dq S G:=qV hl (kO ho hw hq hc hL hfire h)
theorem E0(h:bG prog S G ⟨some d,op,ty,pos,af,gd⟩ X V G':=by first|exact o_makeP rf rf ep1 om om|exact o_makeR rf rf dh om om|exact xd rf rf Pf rf om|exact ux rf rf (by exact Iw rfl) om om):bG prog S G ⟨some d,op,ty,pos,af,gd⟩ X V G':=h
theorem sM(h:∀x,JL prog n Q ks ops l ((d,V x)::S) (G' x))(hq:bG prog S G ⟨some d,op,ty,pos,af,none⟩ X V G':=by exact E0)(hd:Nat.blt d n=true:=by exact rfl):JL prog n Q ks ops (⟨some d,op,ty,pos,af,none⟩::l) S G:=sO hq hd h
theorem Py(ho:eT ol i ⟨some d,op,ty,pos,af,gd⟩:=by exact gP)(hw:Region.wanted ⟨some d,op,ty,pos,af,gd⟩ (bL ⟨ol⟩ S)=true:=by exact rfl)(hq:bG prog S G ⟨some d,op,ty,pos,af,gd⟩ X V G':=by exact E0)(hc:hY ⟨ol⟩ n Dl Dp Dq i (some d)=true:=by decide +kernel)(hL:((Ct.waiting ⟨ol⟩ Dq i).all λ j=>LL.elem j)=true:=by decide +kernel)(hl:jO ⟨ol⟩ Dl Dp Dq [i]=true:=by decide +kernel)(hfire:∀x,aL prog ⟨ol⟩ ((d,V x)::S) (G' x) LL:=by exact nI)(h:∀x,JR prog n Q ks ⟨ol⟩ pl (i::Dl) Dp Dq ((d,V x)::S) (G' x)):JR prog n Q ks ⟨ol⟩ (.one i LL pl) Dl Dp Dq S G:=qV hl (kO ho hw hq hc hL hfire h)
theorem iZ(h:∀x,JL prog n Q ks ops l ((d,V x)::S) (G' x))(hq:bG prog S G ⟨some d,op,ty,pos,af,none⟩ X V G':=by first|exact Cz ep1|exact C7 dh|exact o_build0V Pf rf)(hd:Nat.blt d n=true:=by exact rfl):JL prog n Q ks ops (⟨some d,op,ty,pos,af,none⟩::l) S G:=sO hq hd h
theorem ja(ho:eT ol i ⟨some d,op,ty,pos,af,gd⟩:=by exact gP)(hw:Region.wanted ⟨some d,op,ty,pos,af,gd⟩ (bL ⟨ol⟩ S)=true:=by exact rfl)(hq:bG prog S G ⟨some d,op,ty,pos,af,gd⟩ X V G':=by first|exact Cz ep1|exact C7 dh|exact o_build0V Pf rf)(hc:hY ⟨ol⟩ n Dl Dp Dq i (some d)=true:=by decide +kernel)(hL:((Ct.waiting ⟨ol⟩ Dq i).all λ j=>LL.elem j)=true:=by decide +kernel)(hl:jO ⟨ol⟩ Dl Dp Dq [i]=true:=by decide +kernel)(hfire:∀x,aL prog ⟨ol⟩ ((d,V x)::S) (G' x) LL:=by exact nI)(h:∀x,JR prog n Q ks ⟨ol⟩ pl (i::Dl) Dp Dq ((d,V x)::S) (G' x)):JR prog n Q ks ⟨ol⟩ (.one i LL pl) Dl Dp Dq S G:=qV hl (kO ho hw hq hc hL hfire h)
theorem It(h:bG prog S G ⟨some d,op,ty,pos,af,gd⟩ X V G':=by first|exact bG.eM (O9 rf rf zH X1 fin ep1 gS om) vS|exact bG.eM (uM rf rf zH X1 fin dh gS om) vS|exact bG.eM (Nk rf rf zH X1 fin X1 ep1 gS om) vS|exact bG.eM (Vu rf rf zH X1 fin X1 dh gS om) vS|exact bG.eM (qb rf rf zH X1 fin X1 Pf rf gS om) vS):bG prog S G ⟨some d,op,ty,pos,af,gd⟩ X V G':=h
theorem fF(h:∀x,JL prog n Q ks ops l ((d,V x)::S) (G' x))(hq:bG prog S G ⟨some d,op,ty,pos,af,none⟩ X V G':=by exact It)(hd:Nat.blt d n=true:=by exact rfl):JL prog n Q ks ops (⟨some d,op,ty,pos,af,none⟩::l) S G:=sO hq hd h
theorem mZ(ho:eT ol i ⟨some d,op,ty,pos,af,gd⟩:=by exact gP)(hw:Region.wanted ⟨some d,op,ty,pos,af,gd⟩ (bL ⟨ol⟩ S)=true:=by exact rfl)(hq:bG prog S G ⟨some d,op,ty,pos,af,gd⟩ X V G':=by exact It)(hc:hY ⟨ol⟩ n Dl Dp Dq i (some d)=true:=by decide +kernel)(hL:((Ct.waiting ⟨ol⟩ Dq i).all λ j=>LL.elem j)=true:=by decide +kernel)(hl:jO ⟨ol⟩ Dl Dp Dq [i]=true:=by decide +kernel)(hfire:∀x,aL prog ⟨ol⟩ ((d,V x)::S) (G' x) LL:=by exact nI)(h:∀x,JR prog n Q ks ⟨ol⟩ pl (i::Dl) Dp Dq ((d,V x)::S) (G' x)):JR prog n Q ks ⟨ol⟩ (.one i LL pl) Dl Dp Dq S G:=qV hl (kO ho hw hq hc hL hfire h)
theorem aCv(h:bG prog S G ⟨some d,op,ty,pos,af,gd⟩ X V G':=by first|exact bG.Ef (Um rf rf zH fin X1 X1 gS (by exact vB rfl)) vS|exact bG.Ef (U3 rf rf zH fin X1 X1 gS (by exact vB rfl)) vS|exact bG.Ef (Xv rf rf zH fin (by first|exact rfl|omega) om om gS (by exact vB rfl)) vS|exact bG.Ef (Y3 rf rf zH fin om om gS (by exact vB rfl)) vS):bG prog S G ⟨some d,op,ty,pos,af,gd⟩ X V G':=h
theorem ko(h:∀x,JL prog n Q ks ops l ((d,V x)::S) (G' x))(hq:bG prog S G ⟨some d,op,ty,pos,af,none⟩ X V G':=by exact aCv)(hd:Nat.blt d n=true:=by exact rfl):JL prog n Q ks ops (⟨some d,op,ty,pos,af,none⟩::l) S G:=sO hq hd h
theorem aDU(h:bG prog S G ⟨some d,op,ty,pos,af,gd⟩ X V G':=by first|exact o_headP rf rf gS (by exact vB rfl) om fin|exact o_headR rf rf gS (by exact vB rfl) om fin|exact fD (o_sliceH rf rf gS (by exact sz_any rfl) om)):bG prog S G ⟨some d,op,ty,pos,af,gd⟩ X V G':=h
theorem aD1(h:bG prog S G ⟨some d,op,ty,pos,af,gd⟩ X V G':=by first|exact o_tailP rf rf gS (by exact vB rfl) om fin om X1|exact o_tailR rf rf gS (by exact vB rfl) om fin om X1|exact o_tailO rf rf gS (by exact vB rfl) om om|exact o_tailO rf rf gS (by exact vB rfl) om om):bG prog S G ⟨some d,op,ty,pos,af,gd⟩ X V G':=h
theorem uO(h:bG prog S G ⟨some d,op,ty,pos,af,gd⟩ X V G':=by exact Kk λ _=>cW (by first|exact Ku rfl|exact Mc rfl|exact qW rfl|exact Ii rfl|exact Iw rfl|exact Zh rfl) Kg rf rf rf rf (by simp only[Ey,oE,List.cons_append,List.nil_append,List.append_nil];exact rfl)):bG prog S G ⟨some d,op,ty,pos,af,gd⟩ X V G':=h
theorem fJ(h:∀x,JL prog n Q ks ops l ((d,V x)::S) (G' x))(hq:bG prog S G ⟨some d,op,ty,pos,af,none⟩ X V G':=by exact uO)(hd:Nat.blt d n=true:=by exact rfl):JL prog n Q ks ops (⟨some d,op,ty,pos,af,none⟩::l) S G:=sO hq hd h
theorem cE(ho:eT ol i ⟨some d,op,ty,pos,af,gd⟩:=by exact gP)(hw:Region.wanted ⟨some d,op,ty,pos,af,gd⟩ (bL ⟨ol⟩ S)=true:=by exact rfl)(hq:bG prog S G ⟨some d,op,ty,pos,af,gd⟩ X V G':=by exact uO)(hc:hY ⟨ol⟩ n Dl Dp Dq i (some d)=true:=by decide +kernel)(hL:((Ct.waiting ⟨ol⟩ Dq i).all λ j=>LL.elem j)=true:=by decide +kernel)(hl:jO ⟨ol⟩ Dl Dp Dq [i]=true:=by decide +kernel)(hfire:∀x,aL prog ⟨ol⟩ ((d,V x)::S) (G' x) LL:=by exact nI)(h:∀x,JR prog n Q ks ⟨ol⟩ pl (i::Dl) Dp Dq ((d,V x)::S) (G' x)):JR prog n Q ks ⟨ol⟩ (.one i LL pl) Dl Dp Dq S G:=qV hl (kO ho hw hq hc hL hfire h)
theorem F7(h:bG prog S G ⟨some d,op,ty,pos,af,gd⟩ X V G':=by exact gE λ _=>wi (by first|exact Ih rfl|exact zero_ctriemake_WorldT rfl|exact zero_ctrieref09_PlaceT rfl|exact I5 rfl|exact E9 rfl|exact zero_ctrieref05_MemT rfl|exact Cs rfl|exact zero_ctrielock_PairT rfl|exact zero_ctrieref12_WalkT rfl|exact vH rfl|exact zero_ctriemake_TapeT rfl|exact zero_gcas_OpT rfl|exact Dk rfl|exact Fh rfl|exact zero_arena_ArenaT rfl|exact zero_task_TaskT rfl|exact zero_ctrieref12_ExecT rfl|exact zero_find_lookupT rfl|exact Jj rfl|exact zero_ctrieref12_FrameT rfl)):bG prog S G ⟨some d,op,ty,pos,af,gd⟩ X V G':=h
theorem aJ(h:∀x,JL prog n Q ks ops l ((d,V x)::S) (G' x))(hq:bG prog S G ⟨some d,op,ty,pos,af,none⟩ X V G':=by exact F7)(hd:Nat.blt d n=true:=by exact rfl):JL prog n Q ks ops (⟨some d,op,ty,pos,af,none⟩::l) S G:=sO hq hd h
theorem iP(ho:eT ol i ⟨some d,op,ty,pos,af,gd⟩:=by exact gP)(hw:Region.wanted ⟨some d,op,ty,pos,af,gd⟩ (bL ⟨ol⟩ S)=true:=by exact rfl)(hq:bG prog S G ⟨some d,op,ty,pos,af,gd⟩ X V G':=by exact F7)(hc:hY ⟨ol⟩ n Dl Dp Dq i (some d)=true:=by decide +kernel)(hL:((Ct.waiting ⟨ol⟩ Dq i).all λ j=>LL.elem j)=true:=by decide +kernel)(hl:jO ⟨ol⟩ Dl Dp Dq [i]=true:=by decide +kernel)(hfire:∀x,aL prog ⟨ol⟩ ((d,V x)::S) (G' x) LL:=by exact nI)(h:∀x,JR prog n Q ks ⟨ol⟩ pl (i::Dl) Dp Dq ((d,V x)::S) (G' x)):JR prog n Q ks ⟨ol⟩ (.one i LL pl) Dl Dp Dq S G:=qV hl (kO ho hw hq hc hL hfire h)
theorem jC(h:∀x,JL prog n Q ks ops l ((d,V x)::S) (G' x))(hq:bG prog S G ⟨some d,op,ty,pos,af,none⟩ X V G':=by exact fD (Bk wn))(hd:Nat.blt d n=true:=by exact rfl):JL prog n Q ks ops (⟨some d,op,ty,pos,af,none⟩::l) S G:=sO hq hd h
theorem qN(ho:eT ol i ⟨some d,op,ty,pos,af,gd⟩:=by exact gP)(hw:Region.wanted ⟨some d,op,ty,pos,af,gd⟩ (bL ⟨ol⟩ S)=true:=by exact rfl)(hq:bG prog S G ⟨some d,op,ty,pos,af,gd⟩ X V G':=by exact fD (Bk wn))(hc:hY ⟨ol⟩ n Dl Dp Dq i (some d)=true:=by decide +kernel)(hL:((Ct.waiting ⟨ol⟩ Dq i).all λ j=>LL.elem j)=true:=by decide +kernel)(hl:jO ⟨ol⟩ Dl Dp Dq [i]=true:=by decide +kernel)(hfire:∀x,aL prog ⟨ol⟩ ((d,V x)::S) (G' x) LL:=by exact nI)(h:∀x,JR prog n Q ks ⟨ol⟩ pl (i::Dl) Dp Dq ((d,V x)::S) (G' x)):JR prog n Q ks ⟨ol⟩ (.one i LL pl) Dl Dp Dq S G:=qV hl (kO ho hw hq hc hL hfire h)
theorem Mz(h:bG prog S G ⟨none,op,ty,pos,af,gd⟩ X V G':=by first|exact gE λ _=>fE rf cY wn rf fW rf se1 iR|exact gE λ _=>aR rf cY rf rf eD rf iR|exact bG.Ef (kz rf rf fW zH om) vS|exact bG.Ef (ru rf rf fW zH om) vS|exact bG.Ef (o_storePv rf rf fW zH om) vS|exact bG.Ef (o_storeP rf rf eD zH om) vS):bG prog S G ⟨none,op,ty,pos,af,gd⟩ X V G':=h
theorem lW(h:∀x,JL prog n Q ks ops l S (G' x))(hq:bG prog S G ⟨none,op,ty,pos,af,none⟩ X V G':=by exact Mz):JL prog n Q ks ops (⟨none,op,ty,pos,af,none⟩::l) S G:=W8 hq h
theorem qJ(ho:eT ol i ⟨none,op,ty,pos,af,gd⟩:=by exact gP)(hw:Region.wanted ⟨none,op,ty,pos,af,gd⟩ (bL ⟨ol⟩ S)=true:=by exact rfl)(hq:bG prog S G ⟨none,op,ty,pos,af,gd⟩ X V G':=by exact Mz)(hc:hY ⟨ol⟩ n Dl Dp Dq i none=true:=by decide +kernel)(hL:((Ct.waiting ⟨ol⟩ Dq i).all λ j=>LL.elem j)=true:=by decide +kernel)(hl:jO ⟨ol⟩ Dl Dp Dq [i]=true:=by decide +kernel)(hfire:∀x,aL prog ⟨ol⟩ S (G' x) LL:=by exact nI)(h:∀x,JR prog n Q ks ⟨ol⟩ pl (i::Dl) Dp Dq S (G' x)):JR prog n Q ks ⟨ol⟩ (.one i LL pl) Dl Dp Dq S G:=qV hl (Ww ho hw hq hc hL hfire h)
theorem aP(hq:bG prog S G ⟨some d,op,ty,pos,af,none⟩ X V G')(h:∀x,JL prog n Q ks ops l ((d,V x)::S) (G' x))(hd:Nat.blt d n=true:=by exact rfl):JL prog n Q ks ops (⟨some d,op,ty,pos,af,none⟩::l) S G:=sO hq hd h
theorem aD{φ:X->Prop}(hq:bG prog S G ⟨some d,op,ty,pos,af,none⟩ X V (λ x w=>φ x/\G' x w))(h:∀x,φ x->JL prog n Q ks ops l ((d,V x)::S) (G' x))(hd:Nat.blt d n=true:=by exact rfl):JL prog n Q ks ops (⟨some d,op,ty,pos,af,none⟩::l) S G:=sO hq hd λ x=>eP (h x)
theorem bT(hq:bG prog S G ⟨none,op,ty,pos,af,none⟩ X V G')(h:∀x,JL prog n Q ks ops l S (G' x)):JL prog n Q ks ops (⟨none,op,ty,pos,af,none⟩::l) S G:=W8 hq h
theorem dB(ho:eT ol i ⟨some d,op,ty,pos,af,gd⟩:=by exact gP)(hw:Region.wanted ⟨some d,op,ty,pos,af,gd⟩ (bL ⟨ol⟩ S)=true:=by exact rfl)(hq:bG prog S G ⟨some d,op,ty,pos,af,gd⟩ X V G')(hc:hY ⟨ol⟩ n Dl Dp Dq i (some d)=true:=by decide +kernel)(hL:((Ct.waiting ⟨ol⟩ Dq i).all λ j=>LL.elem j)=true:=by decide +kernel)(hl:jO ⟨ol⟩ Dl Dp Dq [i]=true:=by decide +kernel)(hfire:∀x,aL prog ⟨ol⟩ ((d,V x)::S) (G' x) LL:=by exact nI)(h:∀x,JR prog n Q ks ⟨ol⟩ pl (i::Dl) Dp Dq ((d,V x)::S) (G' x)):JR prog n Q ks ⟨ol⟩ (.one i LL pl) Dl Dp Dq S G:=qV hl (kO ho hw hq hc hL hfire h)
theorem bI{φ:X->Prop}(ho:eT ol i ⟨some d,op,ty,pos,af,gd⟩:=by exact gP)(hw:Region.wanted ⟨some d,op,ty,pos,af,gd⟩ (bL ⟨ol⟩ S)=true:=by exact rfl)(hq:bG prog S G ⟨some d,op,ty,pos,af,gd⟩ X V (λ x w=>φ x/\G' x w))(hc:hY ⟨ol⟩ n Dl Dp Dq i (some d)=true:=by decide +kernel)(hL:((Ct.waiting ⟨ol⟩ Dq i).all λ j=>LL.elem j)=true:=by decide +kernel)(hl:jO ⟨ol⟩ Dl Dp Dq [i]=true:=by decide +kernel)(hfire:∀x,aL prog ⟨ol⟩ ((d,V x)::S) (λ w=>φ x/\G' x w) LL:=by exact nI)(h:∀x,φ x->JR prog n Q ks ⟨ol⟩ pl (i::Dl) Dp Dq ((d,V x)::S) (G' x)):JR prog n Q ks ⟨ol⟩ (.one i LL pl) Dl Dp Dq S G:=qV hl (kO ho hw hq hc hL hfire λ x=>eK (h x))
theorem mC(ho:eT ol i ⟨none,op,ty,pos,af,gd⟩:=by exact gP)(hw:Region.wanted ⟨none,op,ty,pos,af,gd⟩ (bL ⟨ol⟩ S)=true:=by exact rfl)(hq:bG prog S G ⟨none,op,ty,pos,af,gd⟩ X V G')(hc:hY ⟨ol⟩ n Dl Dp Dq i none=true:=by decide +kernel)(hL:((Ct.waiting ⟨ol⟩ Dq i).all λ j=>LL.elem j)=true:=by decide +kernel)(hl:jO ⟨ol⟩ Dl Dp Dq [i]=true:=by decide +kernel)(hfire:∀x,aL prog ⟨ol⟩ S (G' x) LL:=by exact nI)(h:∀x,JR prog n Q ks ⟨ol⟩ pl (i::Dl) Dp Dq S (G' x)):JR prog n Q ks ⟨ol⟩ (.one i LL pl) Dl Dp Dq S G:=qV hl (Ww ho hw hq hc hL hfire h)
theorem bU(h:JR prog n Q ks ⟨ol⟩ pl Dl Dp (i::Dq) ((d,v)::S) G)(ho:eT ol i ⟨some d,op,ty,pos,af,gd⟩:=by exact gP)(hw:Region.wanted ⟨some d,op,ty,pos,af,gd⟩ (bL ⟨ol⟩ S)=true:=by exact rfl)(hq:aM prog S G ⟨some d,op,ty,pos,af,gd⟩ v)(hc:dL ⟨ol⟩ n Dl Dp Dq i d=true:=by decide +kernel):JR prog n Q ks ⟨ol⟩ (.one i LL pl) Dl Dp Dq S G:=Uy ho hw hq hc h
theorem cZ(h:JR prog n Q ks ⟨ol⟩ pl Dl (i::Dp) Dq ((d,v)::S) G)(ho:eT ol i ⟨some d,op,ty,pos,af,gd⟩:=by exact gP)(hw:Region.wanted ⟨some d,op,ty,pos,af,gd⟩ (bL ⟨ol⟩ S)=true:=by exact rfl)(hq:aM prog S (λ _=>True) ⟨some d,op,ty,pos,af,gd⟩ v)(hc:dL ⟨ol⟩ n Dl Dp Dq i d=true:=by decide +kernel):JR prog n Q ks ⟨ol⟩ (.one i LL pl) Dl Dp Dq S G:=hU ho hw hq hc h
theorem gD(ho:eT ol i ⟨some d,op,ty,pos,af,gd⟩:=by exact gP)(hw:Region.wanted ⟨some d,op,ty,pos,af,gd⟩ (bL ⟨ol⟩ S)=true:=by exact rfl)(hq:aM prog S G ⟨some d,op,ty,pos,af,gd⟩ v)(hv:Ct.look S d=v:=by conv=>{lhs;whnf}):nL prog ⟨ol⟩ S G i:=Ns ho hw hv hq
theorem aI(h:JL prog n Q ks ops l ((d,undef)::S) G)(hd:Nat.blt d n=true:=by exact rfl)(hj:(ops[j]?).bind (·.dst)=some g:=by exact rfl)(hg:Ct.look S g=.bool t:=by exact rfl)(ht:t≠want:=by decide):JL prog n Q ks ops (⟨some d,op,ty,pos,af,some (j,want)⟩::l) S G:=Tv hd hj hg ht h
theorem aF(h:JL prog n Q ks ops (⟨some d,op,ty,pos,af,none⟩::l) S G)(hj:(ops[j]?).bind (·.dst)=some g:=by exact rfl)(hg:Ct.look S g=.bool want:=by exact rfl):JL prog n Q ks ops (⟨some d,op,ty,pos,af,some (j,want)⟩::l) S G:=lr hj hg h
theorem iF(h:JR prog n Q ks ⟨ol⟩ pl Dl (i::Dp) Dq ((d,undef)::S) G)(ho:eT ol i ⟨some d,op,ty,pos,af,gd⟩:=by exact gP)(hw:Region.wanted ⟨some d,op,ty,pos,af,gd⟩ (bL ⟨ol⟩ S)=false:=by exact rfl)(hc:dL ⟨ol⟩ n Dl Dp Dq i d=true:=by decide +kernel):JR prog n Q ks ⟨ol⟩ (.one i LL pl) Dl Dp Dq S G:=T7 ho hw hc h
theorem eN(h:JK prog n Q ks S G)(hall:((List.range ops.size).all λ j=>(Dl++Dp++Dq).elem j)=true:=by decide +kernel)(hb:Aj ops=true:=by decide +kernel):JR prog n Q ks ops .nil Dl Dp Dq S G:=aDF hall hb h
theorem gO{id:Nat}(pl:rA)(h:JR prog n Q ks ops pl [] [] [] S (SF w0 M H A F O))(hm:prog.follows .mixedOrders=true:=by kernel_rfl):JK prog n Q (.code (.region id ops true)::ks) S (SF w0 M H A F O):=aCq pl hm (λ _ h=>h.drew) h
theorem cF{φ:X->Prop}{Fc F1:X->Fr}(ha:qR S xs=vs:=by(repeat (first|exact cN _|(apply bX;focus ((conv=>{lhs;whnf});try exact rfl))));first|done|fail)(hp:plain prog f=true:=by kernel_rfl)(hc:∀w,SF w0 M H A F O w->Calls prog f ⟨vs⟩ w λ e w'=>∃x,e=.returned (V x)/\φ x/\SF w [] [] [] (Fc x) [] w')(hF1:∀x,Fc x++F=F1 x:=by intro x;first|(simp only[List.nil_append,List.cons_append];exact rfl)|exact rfl):bG prog S (SF w0 M H A F O) ⟨dst,.call {callee:=.value (.func f),args:=⟨xs⟩,argTypes:=at_},ty,pos,af,gd⟩ X V (λ x w=>φ x/\SF w0 M H A (F1 x) O w):=(cSF hp ha hc).conv λ x w h=>by rw[hF1 x] at h;exact h
theorem Tg{φ:X->Prop}{Hc H1:X->List (Nat×Obj)}{Fc F1:X->Fr}{Oc O1:X->List Ow}(ha:qR S xs=vs:=by(repeat (first|exact cN _|(apply bX;focus ((conv=>{lhs;whnf});try exact rfl))));first|done|fail)(hp:plain prog f=true:=by kernel_rfl)(hc:∀w,SF w0 M H A F O w->Calls prog f ⟨vs⟩ w λ e w'=>∃x,e=.returned (V x)/\φ x/\SF w [] (Hc x) [] (Fc x) (Oc x) w')(hH1:∀x,Hc x++H=H1 x:=by intro x;first|(simp only[List.nil_append,List.cons_append];exact rfl)|exact rfl)(hF1:∀x,Fc x++F=F1 x:=by intro x;first|(simp only[List.nil_append,List.cons_append];exact rfl)|exact rfl)(hO1:∀x,Oc x++O=O1 x:=by intro x;first|(simp only[List.nil_append,List.cons_append];exact rfl)|exact rfl):bG prog S (SF w0 M H A F O) ⟨dst,.call {callee:=.value (.func f),args:=⟨xs⟩,argTypes:=at_},ty,pos,af,gd⟩ X V (λ x w=>φ x/\SF w0 M (H1 x) A (F1 x) (O1 x) w):=(aEv hp ha hc).conv λ x w h=>by rw[hH1 x,hF1 x,hO1 x] at h;exact h
theorem zB{φ:X->Prop}{Hc H1:X->List (Nat×Obj)}{Fc F1:X->Fr}{Oc O1:X->List Ow}{b:Nat}{o:Obj}{o':X->Obj}(ha:qR S xs=vs:=by(repeat (first|exact cN _|(apply bX;focus ((conv=>{lhs;whnf});try exact rfl))));first|done|fail)(hp:plain prog f=true:=by kernel_rfl)(hc:∀w,SF w0 M H A F O w->Calls prog f ⟨vs⟩ w λ e w'=>∃x,e=.returned (V x)/\φ x/\SF w [b] ((b,o' x)::Hc x) [] (Fc x) (Oc x) w')(hb:At H i b o:=by repeat (first|exact At.head|apply At.tail))(hH1:∀x,Hc x++setAt H i (o' x)=H1 x:=by intro x;first|(simp only[setAt,List.nil_append,List.cons_append];exact rfl)|exact rfl)(hF1:∀x,Fc x++F=F1 x:=by intro x;first|(simp only[List.nil_append,List.cons_append];exact rfl)|exact rfl)(hO1:∀x,Oc x++O=O1 x:=by intro x;first|(simp only[List.nil_append,List.cons_append];exact rfl)|exact rfl):bG prog S (SF w0 M H A F O) ⟨dst,.call {callee:=.value (.func f),args:=⟨xs⟩,argTypes:=at_},ty,pos,af,gd⟩ X V (λ x w=>φ x/\SF w0 M (H1 x) A (F1 x) (O1 x) w):=(aED hp ha hb hc).conv λ x w h=>by rw[hH1 x,hF1 x,hO1 x] at h;exact h
theorem cV(ha:qR S xs=vs:=by(repeat (first|exact cN _|(apply bX;focus ((conv=>{lhs;whnf});try exact rfl))));first|done|fail)(hp:plain prog f=true:=by kernel_rfl)(hc:∀w,SF w0 M H A F O w->Calls prog f ⟨vs⟩ w λ e w'=>e=.returned v/\St w [] [] w'):bG prog S (SF w0 M H A F O) ⟨dst,.call {callee:=.value (.func f),args:=⟨xs⟩,argTypes:=at_},ty,pos,af,gd⟩ Unit (λ _=>v) (λ _=>SF w0 M H A F O):=aEG hp ha hc
theorem c0{φ:X->Prop}(ha:qR S xs=vs:=by(repeat (first|exact cN _|(apply bX;focus ((conv=>{lhs;whnf});try exact rfl))));first|done|fail)(hp:plain prog f=true:=by kernel_rfl)(hc:∀w,SF w0 M H A F O w->Calls prog f ⟨vs⟩ w λ e w'=>∃x,e=.returned (V x)/\φ x/\St w [] [] w'):bG prog S (SF w0 M H A F O) ⟨dst,.call {callee:=.value (.func f),args:=⟨xs⟩,argTypes:=at_},ty,pos,af,gd⟩ X V (λ x w=>φ x/\SF w0 M H A F O w):=aEH hp ha hc
end Go.Proofs.YtbajmaoegmbfgaaGreat
namespace Go.Ct
variable{n:Nat}{Q:Exit->Act->World->Prop}{ks:List CK}{S:List (Nat×Value)}{w0:World}{M:List Nat}{H:List (Nat×Obj)}{A F:Fr}{O:List Ow}
variable{w:World}{F':Fr}{H':List (Nat×Obj)}{O':List Ow}
theorem SF.fin(h:SF w0 M H A F O w)(hF:bA F F':=by repeat (first|exact bA.nil|(refine bA.cons (by repeat (first|exact Aw.head|apply Aw.tail)) ?_))):SF w0 M [] [] F' [] w:=h.ret (List.nil_sublist _) hF (List.nil_sublist _)
theorem SF.bB(h:SF w0 M H A F O w)(hH:H'.Sublist H:=by repeat (first|exact List.nil_sublist _|apply List.Sublist.cons_cons|apply List.Sublist.cons))(hF:bA F F':=by repeat (first|exact bA.nil|(refine bA.cons (by repeat (first|exact Aw.head|apply Aw.tail)) ?_)))(hO:O'.Sublist O:=by repeat (first|exact List.nil_sublist _|apply List.Sublist.cons_cons|apply List.Sublist.cons)):SF w0 M H' [] F' O' w:=h.ret hH hF hO
theorem SF.back(h:SF w0 M H A F O w)(hH:H'.Sublist H:=by repeat (first|exact List.Sublist.refl _|exact List.nil_sublist _|apply List.Sublist.cons))(hF:bA F F':=by repeat (first|exact bA.nil|(refine bA.cons (by repeat (first|exact Aw.head|apply Aw.tail)) ?_)))(hO:O'.Sublist O:=by repeat (first|exact List.Sublist.refl _|exact List.nil_sublist _|apply List.Sublist.cons)):SF w0 M H' A F' O' w:=h.sub hH hF hO
theorem SF.done(h:SF w0 M H A F O w):St w0 M [] w:=h.st.sub (List.nil_sublist _)
end Go.Ct
namespace Go.Proofs.YtbajmaoegmbfgaaGreat
open Go.Proofs.Tryz
open Go Go.RowKit Go.Ct
variable{n:Nat}{Q:Exit->Act->World->Prop}{ks:List CK}{S:List (Nat×Value)}{ops:Array Oper}{l ol:List Oper}{pl:rA}{LL:List Nat}{Dl Dp Dq:List Nat}
variable{w0:World}{M:List Nat}{H:List (Nat×Obj)}{A F:Fr}{O:List Ow}{G:World->Prop}{i d:Nat}{v:Value}{op:Op}{ty:TypeId}{pos:String}{af:Array Edge}{gd:Option (Nat×Bool)}{X:Type}{V:X->Value}{G':X->World->Prop}{j g:Nat}{want t:Bool}
theorem gF{Y:Type}(keys:List Nat)(K:Y->List (Nat×Value))(I:Y->Prop)(μ:Y->Nat){c:Code}(x0:Y)(hG0:I x0)(hK0:nE (K x0) S)
  (round:∀x f,I x->JK prog n Q (.code c::.inv (lT n keys K (λ x w=>I x/\SF w0 M H A F O w) μ S (μ x))::ks) (K x++(gY keys f++S)) (SF w0 M H A F O))
  (hn:(keys.all λ k=>Nat.blt k n)=true:=by decide) (hKn:∀x,((K x).all λ p=>Nat.blt p.1 n)=true:=by intro _;exact rfl) :
  JK prog n Q (.code (.loop c)::ks) S (SF w0 M H A F O):=Ye keys K I (λ _=>H) (λ _=>F) (λ _=>O) μ x0 hn hKn hK0 hG0 (λ _ hw=>hw) round
theorem eG{Y:Type}{keys:List Nat}{K:Y->List (Nat×Value)}{I:Y->Prop}{μ:Y->Nat}{S0:List (Nat×Value)}{m:Nat}{H':List (Nat×Obj)}{F':Fr}{O':List Ow}(x':Y)(hμ:μ x'<m)(hK:nE (K x') S)(hI:I x')(hp:zX keys S S0:=by repeat (first|(with_reducible exact zX.refl)|refine zX.cons (by exact rfl) ?_))
  (hH:H.Sublist H':=by repeat (first|exact List.Sublist.refl _|exact List.nil_sublist _|apply List.Sublist.cons)) (hF:bA F' F:=by repeat (first|exact bA.nil|(refine bA.cons (by repeat (first|exact Aw.head|apply Aw.tail)) ?_))) (hO:O.Sublist O':=by repeat (first|exact List.Sublist.refl _|exact List.nil_sublist _|apply List.Sublist.cons)) :
  JK prog n Q (.inv (lT n keys K (λ x w=>I x/\SF w0 M H A F O w) μ S0 m)::ks) S (SF w0 M H' A F' O'):=lR (Hx:=λ _=>H) (Fx:=λ _=>F) (Ox:=λ _=>O) x' hμ hK hp hI (λ _ hw=>hw.sub hH hF hO)
def sqL:List Nat->rA
 | []=>.nil
 | i::l=>.one i [] (sqL l)
def pqL:List (Nat×List Nat)->rA
 | []=>.nil
 | p::l=>.one p.1 p.2 (pqL l)
theorem gH{id:Nat}{pl:rA}(p:List Nat)(h:JR prog n Q ks ops pl [] [] [] S (SF w0 M H A F O))(hp:sqL p=pl:=by simp only[sqL];exact rfl):JK prog n Q (.code (.region id ops true)::ks) S (SF w0 M H A F O):=gO pl h
theorem eI{id:Nat}{pl:rA}(p:List (Nat×List Nat))(h:JR prog n Q ks ops pl [] [] [] S (SF w0 M H A F O))(hp:pqL p=pl:=by simp only[pqL];exact rfl):JK prog n Q (.code (.region id ops true)::ks) S (SF w0 M H A F O):=gO pl h
structure Hid(q:Prop):Prop where
 get:q
variable{p q p1 p2:Prop}{Y:Type}{keys:List Nat}{S0:List (Nat×Value)}{m:Nat}{H':List (Nat×Obj)}{F':Fr}{O':List Ow}{fn:Func}{rs:List ResultVar}{vs:List Value}
theorem J0(hq:q)(h:Hid q->p:=by intro hq;refine aT ?_;refine dS ?_;exact hq.get):p:=h ⟨hq⟩
theorem J1(hq:q)(h:Hid q->p:=by intro hq;refine jC (λ _=>?_);refine aG ?_;exact hq.get):p:=h ⟨hq⟩
theorem J2(hq:q)(h:Hid q->p:=by intro hq;refine J0 ?_;refine aA ?_;exact hq.get):p:=h ⟨hq⟩
theorem J3(hq:q)(h:Hid q->p:=by intro hq;refine aE ?_;refine bO ?_;exact hq.get):p:=h ⟨hq⟩
theorem J4(hq:q)(h:Hid q->p:=by intro hq;refine uG ?_;refine aY ?_;exact hq.get):p:=h ⟨hq⟩
theorem J5(hq:q)(h:Hid q->p:=by intro hq;refine lW (λ _=>?_);refine aG ?_;exact hq.get):p:=h ⟨hq⟩
theorem J6(hq:q)(h:Hid q->p:=by intro hq;(first|refine aI ?_|(refine aF ?_;refine aE ?_));(first|refine aI ?_|(refine aF ?_;refine bO ?_));exact hq.get):p:=h ⟨hq⟩
theorem J7(hq:q)(h:Hid q->p:=by intro hq;refine qN (h:=λ _=>?_);refine eN ?_;exact hq.get):p:=h ⟨hq⟩
theorem J8(hq:q)(h:Hid q->p:=by intro hq;refine jC (λ _=>?_);refine J1 ?_;exact hq.get):p:=h ⟨hq⟩
theorem J9(hq:q)(h:Hid q->p:=by intro hq;refine aV ?_;refine J4 ?_;exact hq.get):p:=h ⟨hq⟩
theorem cU(hq:q)(h:Hid q->p:=by intro hq;refine J0 ?_;refine J1 ?_;exact hq.get):p:=h ⟨hq⟩
theorem jD(hq:q)(h:Hid q->p:=by intro hq;refine J2 ?_;refine aA ?_;exact hq.get):p:=h ⟨hq⟩
theorem vY(hq:q)(h:Hid q->p:=by intro hq;(first|refine aI ?_|(refine aF ?_;refine mJ ?_));refine cH ?_;exact hq.get):p:=h ⟨hq⟩
theorem J13(hq:q)(h:Hid q->p:=by intro hq;refine J2 ?_;refine dO ?_;exact hq.get):p:=h ⟨hq⟩
theorem sm(hq:q)(h:Hid q->p:=by intro hq;refine J9 ?_;refine bV ?_;exact hq.get):p:=h ⟨hq⟩
theorem mE(hq:q)(h:Hid q->p:=by intro hq;refine aY ?_;refine bV ?_;exact hq.get):p:=h ⟨hq⟩
theorem lB(hq:q)(h:Hid q->p:=by intro hq;refine aW ?_;refine aT ?_;exact hq.get):p:=h ⟨hq⟩
theorem iW(hq:q)(h:Hid q->p:=by intro hq;refine aV ?_;refine aV ?_;exact hq.get):p:=h ⟨hq⟩
theorem J18(hq:q)(h:Hid q->p:=by intro hq;(first|refine iF ?_|(refine aY ?_));(first|refine iF ?_|(refine bV ?_));exact hq.get):p:=h ⟨hq⟩
theorem An(hq:q)(h:Hid q->p:=by intro hq;refine qJ (h:=λ _=>?_);refine eN ?_;exact hq.get):p:=h ⟨hq⟩
theorem yG(hq:q)(h:Hid q->p:=by intro hq;refine dS ?_;refine aA ?_;exact hq.get):p:=h ⟨hq⟩
theorem B8(hq:q)(h:Hid q->p:=by intro hq;(first|refine aI ?_|(refine aF ?_;refine bO ?_));refine J6 ?_;exact hq.get):p:=h ⟨hq⟩
theorem B7(hq:q)(h:Hid q->p:=by intro hq;(first|refine aI ?_|(refine aF ?_;refine Eo ?_));refine cH ?_;exact hq.get):p:=h ⟨hq⟩
theorem vO(hq:q)(h:Hid q->p:=by intro hq;refine aE ?_;refine J5 ?_;exact hq.get):p:=h ⟨hq⟩
theorem iE(hq:q)(h:Hid q->p:=by intro hq;refine J0 ?_;refine J3 ?_;exact hq.get):p:=h ⟨hq⟩
theorem nJ(hq:q)(h:Hid q->p:=by intro hq;refine J0 ?_;refine bO ?_;exact hq.get):p:=h ⟨hq⟩
theorem mP(hq:q)(h:Hid q->p:=by intro hq;refine J13 ?_;refine J3 ?_;exact hq.get):p:=h ⟨hq⟩
theorem jG(hq:q)(h:Hid q->p:=by intro hq;refine J1 ?_;refine aT ?_;exact hq.get):p:=h ⟨hq⟩
theorem Ti(hq:q)(h:Hid q->p:=by intro hq;refine mJ ?_;refine J1 ?_;exact hq.get):p:=h ⟨hq⟩
theorem Z6(hq:q)(h:Hid q->p:=by intro hq;(first|refine aI ?_|(refine aF ?_;refine bO ?_));(first|refine aI ?_|(refine aF ?_;refine aA ?_));exact hq.get):p:=h ⟨hq⟩
theorem J30(hq:q)(h:Hid q->p:=by intro hq;(first|refine iF ?_|(refine uG ?_));refine J18 ?_;exact hq.get):p:=h ⟨hq⟩
theorem Oh(hq:q)(h:Hid q->p:=by intro hq;(first|refine aI ?_|(refine aF ?_;refine zG ?_));refine cH ?_;exact hq.get):p:=h ⟨hq⟩
theorem jS(hq:q)(h:Hid q->p:=by intro hq;refine aT ?_;refine J2 ?_;exact hq.get):p:=h ⟨hq⟩
theorem oG(hq:q)(h:Hid q->p:=by intro hq;refine zG ?_;refine aG ?_;exact hq.get):p:=h ⟨hq⟩
theorem pE(hq:q)(h:Hid q->p:=by intro hq;refine aW ?_;refine eV ?_;exact hq.get):p:=h ⟨hq⟩
theorem qX(hq:q)(h:Hid q->p:=by intro hq;refine aA ?_;refine aA ?_;exact hq.get):p:=h ⟨hq⟩
theorem J36(hq:q)(h:Hid q->p:=by intro hq;(first|refine aI ?_|(refine aF ?_;refine dO ?_));(first|refine aI ?_|(refine aF ?_;refine aE ?_));exact hq.get):p:=h ⟨hq⟩
theorem rT(hq:q)(h:Hid q->p:=by intro hq;refine lB ?_;refine cO ?_;exact hq.get):p:=h ⟨hq⟩
theorem Q3(hq:q)(h:Hid q->p:=by intro hq;(first|refine aI ?_|(refine aF ?_;refine lN ?_));refine cH ?_;exact hq.get):p:=h ⟨hq⟩
theorem lP(hq:q)(h:Hid q->p:=by intro hq;refine J0 ?_;refine Ti ?_;exact hq.get):p:=h ⟨hq⟩
theorem C1(hq:q)(h:Hid q->p:=by intro hq;refine qJ (h:=λ _=>?_);refine J7 ?_;exact hq.get):p:=h ⟨hq⟩
theorem xz(hq:q)(h:Hid q->p:=by intro hq;(first|refine aI ?_|(refine aF ?_;refine fp ?_));refine cH ?_;exact hq.get):p:=h ⟨hq⟩
theorem Fl(hq:q)(h:Hid q->p:=by intro hq;refine sm ?_;refine sm ?_;exact hq.get):p:=h ⟨hq⟩
theorem Ts(hq:q)(h:Hid q->p:=by intro hq;refine J6 ?_;(first|refine aI ?_|(refine aF ?_;refine dV ?_));exact hq.get):p:=h ⟨hq⟩
theorem D3(hq:q)(h:Hid q->p:=by intro hq;refine aA ?_;refine aG ?_;exact hq.get):p:=h ⟨hq⟩
theorem Jw(hq:q)(h:Hid q->p:=by intro hq;refine J13 ?_;refine aE ?_;exact hq.get):p:=h ⟨hq⟩
theorem E8(hq:q)(h:Hid q->p:=by intro hq;refine lW (λ _=>?_);refine J1 ?_;exact hq.get):p:=h ⟨hq⟩
theorem wF(hq:q)(h:Hid q->p:=by intro hq;refine fp ?_;refine aG ?_;exact hq.get):p:=h ⟨hq⟩
theorem Pe(hq:q)(h:Hid q->p:=by intro hq;refine jF ?_;refine bV ?_;exact hq.get):p:=h ⟨hq⟩
theorem H0(hq:q)(h:Hid q->p:=by intro hq;refine dO ?_;refine aE ?_;exact hq.get):p:=h ⟨hq⟩
theorem tG(hq:q)(h:Hid q->p:=by intro hq;refine mJ ?_;refine aG ?_;exact hq.get):p:=h ⟨hq⟩
theorem Ve(hq:q)(h:Hid q->p:=by intro hq;refine qJ (h:=λ _=>?_);refine aY ?_;exact hq.get):p:=h ⟨hq⟩
theorem wU(hq:q)(h:Hid q->p:=by intro hq;refine bM ?_;refine J5 ?_;exact hq.get):p:=h ⟨hq⟩
theorem Qv(hq:q)(h:Hid q->p:=by intro hq;refine fM ?_;refine bO ?_;exact hq.get):p:=h ⟨hq⟩
theorem J54(hq:q)(h:Hid q->p:=by intro hq;refine D4 ?_;refine D4 ?_;exact hq.get):p:=h ⟨hq⟩
theorem Pa(hq:q)(h:Hid q->p:=by intro hq;refine qN (h:=λ _=>?_);refine J7 ?_;exact hq.get):p:=h ⟨hq⟩
theorem J56(hq:q)(h:Hid q->p:=by intro hq;(first|refine iF ?_|(refine pI ?_));refine lZ ?_;exact hq.get):p:=h ⟨hq⟩
theorem J57(hq:q)(h:Hid q->p:=by intro hq;refine yG ?_;refine Eb ?_;exact hq.get):p:=h ⟨hq⟩
theorem Bo(hq:q)(h:Hid q->p:=by intro hq;refine aW ?_;refine jD ?_;exact hq.get):p:=h ⟨hq⟩
theorem Cr(hq:q)(h:Hid q->p:=by intro hq;refine zG ?_;refine aA ?_;exact hq.get):p:=h ⟨hq⟩
theorem J60(hq:q)(h:Hid q->p:=by intro hq;refine J30 ?_;(first|refine iF ?_|(refine aV ?_));exact hq.get):p:=h ⟨hq⟩
theorem Pd(hq:q)(h:Hid q->p:=by intro hq;refine dO ?_;refine vO ?_;exact hq.get):p:=h ⟨hq⟩
theorem Dj(hq:q)(h:Hid q->p:=by intro hq;refine aT ?_;refine cO ?_;exact hq.get):p:=h ⟨hq⟩
theorem zA(hq:q)(h:Hid q->p:=by intro hq;refine J9 ?_;refine mE ?_;exact hq.get):p:=h ⟨hq⟩
theorem A1(hq:q)(h:Hid q->p:=by intro hq;refine fp ?_;refine aA ?_;exact hq.get):p:=h ⟨hq⟩
theorem D1(hq:q)(h:Hid q->p:=by intro hq;refine aT ?_;refine jD ?_;exact hq.get):p:=h ⟨hq⟩
theorem Hu(hq:q)(h:Hid q->p:=by intro hq;refine J0 ?_;refine J8 ?_;exact hq.get):p:=h ⟨hq⟩
theorem dj(hq:q)(h:Hid q->p:=by intro hq;refine aV ?_;refine sm ?_;exact hq.get):p:=h ⟨hq⟩
theorem J68(hq:q)(h:Hid q->p:=by intro hq;(first|refine aI ?_|(refine aF ?_;refine aA ?_));(first|refine aI ?_|(refine aF ?_;refine sV ?_));exact hq.get):p:=h ⟨hq⟩
theorem Fq(hq:q)(h:Hid q->p:=by intro hq;refine cU ?_;refine cO ?_;exact hq.get):p:=h ⟨hq⟩
theorem vF(hq:q)(h:Hid q->p:=by intro hq;refine J57 ?_;refine J1 ?_;exact hq.get):p:=h ⟨hq⟩
theorem E4(hq:q)(h:Hid q->p:=by intro hq;refine nJ ?_;refine aA ?_;exact hq.get):p:=h ⟨hq⟩
theorem Cm(hq:q)(h:Hid q->p:=by intro hq;refine aT ?_;refine iE ?_;exact hq.get):p:=h ⟨hq⟩
theorem zQ(hq:q)(h:Hid q->p:=by intro hq;refine J1 ?_;refine jD ?_;exact hq.get):p:=h ⟨hq⟩
theorem J74(hq:q)(h:Hid q->p:=by intro hq;(first|refine iF ?_|(refine jF ?_));(first|refine iF ?_|(refine bV ?_));exact hq.get):p:=h ⟨hq⟩
theorem Je(hq:q)(h:Hid q->p:=by intro hq;refine cU ?_;refine aT ?_;exact hq.get):p:=h ⟨hq⟩
theorem Km(hq:q)(h:Hid q->p:=by intro hq;refine yG ?_;refine aA ?_;exact hq.get):p:=h ⟨hq⟩
theorem W3(hq:q)(h:Hid q->p:=by intro hq;refine dS ?_;refine Eb ?_;exact hq.get):p:=h ⟨hq⟩
theorem J78(hq:q)(h:Hid q->p:=by intro hq;(first|refine aI ?_|(refine aF ?_;refine bO ?_));refine vY ?_;exact hq.get):p:=h ⟨hq⟩
theorem J79(hq:q)(h:Hid q->p:=by intro hq;(first|refine aI ?_|(refine aF ?_;refine aA ?_));refine J36 ?_;exact hq.get):p:=h ⟨hq⟩
theorem Qa(hq:q)(h:Hid q->p:=by intro hq;refine aG ?_;refine aT ?_;exact hq.get):p:=h ⟨hq⟩
theorem J81(hq:q)(h:Hid q->p:=by intro hq;(first|refine aI ?_|(refine aF ?_;refine cP ?_));(first|refine aI ?_|(refine aF ?_;refine aA ?_));exact hq.get):p:=h ⟨hq⟩
theorem Pj(hq:q)(h:Hid q->p:=by intro hq;refine aA ?_;refine J54 ?_;exact hq.get):p:=h ⟨hq⟩
theorem J83(hq:q)(h:Hid q->p:=by intro hq;refine aW ?_;refine mP ?_;exact hq.get):p:=h ⟨hq⟩
theorem Xz(hq:q)(h:Hid q->p:=by intro hq;refine bR rfl ?_;refine eV ?_;exact hq.get):p:=h ⟨hq⟩
theorem Pb(hq:q)(h:Hid q->p:=by intro hq;refine J3 ?_;refine dV ?_;exact hq.get):p:=h ⟨hq⟩
theorem J86(hq:q)(h:Hid q->p:=by intro hq;(first|refine aI ?_|(refine aF ?_;refine bO ?_));(first|refine aI ?_|(refine aF ?_;refine lQ ?_));exact hq.get):p:=h ⟨hq⟩
theorem J87(hq:q)(h:Hid q->p:=by intro hq;(first|refine aI ?_|(refine aF ?_;refine cP ?_));refine vY ?_;exact hq.get):p:=h ⟨hq⟩
theorem J88(hq:q)(h:Hid q->p:=by intro hq;refine J4 ?_;refine An ?_;exact hq.get):p:=h ⟨hq⟩
theorem J89(hq:q)(h:Hid q->p:=by intro hq;(first|refine aI ?_|(refine aF ?_;refine bO ?_));refine xz ?_;exact hq.get):p:=h ⟨hq⟩
theorem Ka0(hq:q)(h:Hid q->p:=by intro hq;(first|refine aI ?_|(refine aF ?_;refine aA ?_));exact hq.get):p:=h ⟨hq⟩
theorem Ka1(hq:q)(h:Hid q->p:=by intro hq;(first|refine aI ?_|(refine aF ?_;refine aE ?_));exact hq.get):p:=h ⟨hq⟩
theorem Ka2(hq:q)(h:Hid q->p:=by intro hq;(first|refine aI ?_|(refine aF ?_;refine bO ?_));exact hq.get):p:=h ⟨hq⟩
theorem Ka3(hq:q)(h:Hid q->p:=by intro hq;refine aF ?_;refine aA ?_;exact hq.get):p:=h ⟨hq⟩
theorem Ka4(hq:q)(h:Hid q->p:=by intro hq;refine J2 ?_;refine J1 ?_;exact hq.get):p:=h ⟨hq⟩
theorem Ka5(hq:q)(h:Hid q->p:=by intro hq;refine J1 ?_;refine J2 ?_;exact hq.get):p:=h ⟨hq⟩
theorem Ka6(hq:q)(h:Hid q->p:=by intro hq;refine J0 ?_;refine aE ?_;exact hq.get):p:=h ⟨hq⟩
theorem Ka7(hq:q)(h:Hid q->p:=by intro hq;refine cU ?_;refine jS ?_;exact hq.get):p:=h ⟨hq⟩
theorem Ka8(hq:q)(h:Hid q->p:=by intro hq;refine B7 ?_;refine aG ?_;exact hq.get):p:=h ⟨hq⟩
theorem Ka9(hq:q)(h:Hid q->p:=by intro hq;refine nJ ?_;refine J5 ?_;exact hq.get):p:=h ⟨hq⟩
theorem Kb0(hq:q)(h:Hid q->p:=by intro hq;refine pE ?_;refine cU ?_;exact hq.get):p:=h ⟨hq⟩
theorem Kb1(hq:q)(h:Hid q->p:=by intro hq;refine J8 ?_;refine jS ?_;exact hq.get):p:=h ⟨hq⟩
theorem Kb2(hq:q)(h:Hid q->p:=by intro hq;refine vY ?_;refine aA ?_;exact hq.get):p:=h ⟨hq⟩
theorem Kb3(hq:q)(h:Hid q->p:=by intro hq;refine aW ?_;refine J2 ?_;exact hq.get):p:=h ⟨hq⟩
theorem Kb4(hq:q)(h:Hid q->p:=by intro hq;refine bV ?_;refine iW ?_;exact hq.get):p:=h ⟨hq⟩
theorem Kb5(hq:q)(h:Hid q->p:=by intro hq;refine cU ?_;refine J2 ?_;exact hq.get):p:=h ⟨hq⟩
theorem Kb6(hq:q)(h:Hid q->p:=by intro hq;refine eV ?_;refine vF ?_;exact hq.get):p:=h ⟨hq⟩
theorem Kb7(hq:q)(h:Hid q->p:=by intro hq;(first|refine aI ?_|(refine aF ?_;refine dO ?_));exact hq.get):p:=h ⟨hq⟩
theorem Kb8(hq:q)(h:Hid q->p:=by intro hq;refine Pj ?_;refine Kb1 ?_;exact hq.get):p:=h ⟨hq⟩
theorem Kb9(hq:q)(h:Hid q->p:=by intro hq;refine cH ?_;refine J1 ?_;exact hq.get):p:=h ⟨hq⟩
theorem Kc0(hq:q)(h:Hid q->p:=by intro hq;refine J0 ?_;refine wU ?_;exact hq.get):p:=h ⟨hq⟩
theorem Kc1(hq:q)(h:Hid q->p:=by intro hq;refine cH ?_;refine aA ?_;exact hq.get):p:=h ⟨hq⟩
theorem Kc2(hq:q)(h:Hid q->p:=by intro hq;refine Oh ?_;refine aG ?_;exact hq.get):p:=h ⟨hq⟩
theorem Kc3(hq:q)(h:Hid q->p:=by intro hq;refine pE ?_;refine vF ?_;exact hq.get):p:=h ⟨hq⟩
theorem Kc4(hq:q)(h:Hid q->p:=by intro hq;refine jD ?_;refine aA ?_;exact hq.get):p:=h ⟨hq⟩
theorem Kc5(hq:q)(h:Hid q->p:=by intro hq;refine lN ?_;refine aG ?_;exact hq.get):p:=h ⟨hq⟩
theorem Kc6(hq:q)(h:Hid q->p:=by intro hq;refine cU ?_;refine jD ?_;exact hq.get):p:=h ⟨hq⟩
theorem Kc7(hq:q)(h:Hid q->p:=by intro hq;refine W3 ?_;refine D3 ?_;exact hq.get):p:=h ⟨hq⟩
theorem Kc8(hq:q)(h:Hid q->p:=by intro hq;refine iE ?_;refine aA ?_;exact hq.get):p:=h ⟨hq⟩
theorem Kc9(hq:q)(h:Hid q->p:=by intro hq;refine mP ?_;refine aG ?_;exact hq.get):p:=h ⟨hq⟩
theorem Kd0(hq:q)(h:Hid q->p:=by intro hq;refine bO ?_;refine aA ?_;exact hq.get):p:=h ⟨hq⟩
theorem Kd1(hq:q)(h:Hid q->p:=by intro hq;refine Cm ?_;refine tG ?_;exact hq.get):p:=h ⟨hq⟩
theorem Kd2(hq:q)(h:Hid q->p:=by intro hq;refine J3 ?_;refine J3 ?_;exact hq.get):p:=h ⟨hq⟩
theorem Kd3(hq:q)(h:Hid q->p:=by intro hq;refine B8 ?_;refine Kb2 ?_;exact hq.get):p:=h ⟨hq⟩
theorem Kd4(hq:q)(h:Hid q->p:=by intro hq;(first|refine aI ?_|(refine aF ?_;refine fM ?_));refine Z6 ?_;exact hq.get):p:=h ⟨hq⟩
theorem Kd5(hq:q)(h:Hid q->p:=by intro hq;refine D3 ?_;refine cO ?_;exact hq.get):p:=h ⟨hq⟩
theorem Kd6(hq:q)(h:Hid q->p:=by intro hq;refine J0 ?_;refine wF ?_;exact hq.get):p:=h ⟨hq⟩
theorem Kd7(hq:q)(h:Hid q->p:=by intro hq;refine Kd6 ?_;refine aT ?_;exact hq.get):p:=h ⟨hq⟩
theorem Kd8(hq:q)(h:Hid q->p:=by intro hq;refine cH ?_;refine aG ?_;exact hq.get):p:=h ⟨hq⟩
theorem Kd9(hq:q)(h:Hid q->p:=by intro hq;refine jG ?_;refine J2 ?_;exact hq.get):p:=h ⟨hq⟩
theorem Ke0(hq:q)(h:Hid q->p:=by intro hq;refine mE ?_;refine aV ?_;exact hq.get):p:=h ⟨hq⟩
theorem K0a(hq:q)(h:Hid q->p:=by intro hq;dsimp only[gY,List.map,List.cons_append,List.nil_append];exact hq.get):p:=h ⟨hq⟩
theorem K0b(hq:q)(h:Hid q->p:=by intro hq;refine J0 ?_;refine aJ (λ x12=>?_);refine jG ?_;refine eI [(0,[]),(1,[]),(2,[]),(3,[]),(4,[]),(5,[]),(6,[]),(7,[]),(8,[]),(9,[]),(10,[]),(11,[]),(12,[]),(13,[]),(14,[]),(15,[4,9,14]),(16,[9,14]),(17,[14]),(18,[])] ?_;refine J9 ?_;refine aY ?_;refine bU (i:=4) (hq:=(aU (k:=2) (vs:=[.int .i64 k.t.root,.bool k.t.ro]) rf cY eD rfl rfl)) (h:=?_);refine zA ?_;refine zA ?_;revert x12;exact hq.get):p:=h ⟨hq⟩
theorem K0c(hq:q)(h:Hid q->p:=by intro hq;refine aA ?_;refine aC (bQ rf rfl) rfl ?_;refine aC (bQ rf rfl) rfl ?_;exact hq.get):p:=h ⟨hq⟩
theorem K0d(hq:q)(h:Hid q->p:=by intro hq;refine J9 ?_;refine aY ?_;refine bU (i:=4) (hq:=(aU (k:=2) (vs:=[.int .i64 k.t.root,.bool k.t.ro]) rf cY eD rfl rfl)) (h:=?_);refine zA ?_;refine zA ?_;exact hq.get):p:=h ⟨hq⟩
theorem K0e(hq:q)(h:Hid q->p:=by intro hq;refine gO (.one 0 [] (.one 1 [] (.one 3 [] (.one 4 [] (.one 5 [] (.one 6 [] (.one 7 [] (.two 2 [7] (.one 8 [7] (.one 9 [7] (.one 10 [] .nil))) 0 [] (.two 8 [7] (.one 2 [7] (.one 9 [7] (.one 10 [] .nil))) 0 [] .nil))))))))) ?_;refine iW ?_;refine zA ?_;exact hq.get):p:=h ⟨hq⟩
theorem K0f(hq:q)(h:Hid q->p:=by intro hq;refine An ?_;refine fC ((x7,⟨gT.getD x18 ⟨#[]⟩,((x20:Nat):Int),((x23:Nat):Int),((x26:Nat):Int),((x28:Nat):Int)==0,⟨0,false⟩,pN l (pN l (pN l (pN l (pN l p))))⟩)) ?_;exact hq.get):p:=h ⟨hq⟩
theorem K0g(hq:q)(h:Hid q->p:=by intro hq;refine vO ?_;refine aT ?_;refine eI [(0,[]),(1,[]),(2,[]),(3,[]),(4,[]),(5,[]),(6,[]),(7,[5]),(8,[]),(9,[]),(10,[]),(11,[]),(12,[])] ?_;refine aV ?_;refine zA ?_;refine bV ?_;exact hq.get):p:=h ⟨hq⟩
theorem K0h(hq:q)(h:Hid q->p:=by intro hq;refine aT ?_;refine eI [(0,[]),(1,[]),(2,[]),(3,[]),(4,[]),(5,[]),(6,[]),(7,[3,5]),(8,[]),(9,[5]),(10,[]),(11,[])] ?_;refine mE ?_;refine mE ?_;refine mE ?_;refine aY ?_;refine Ve ?_;refine Ve ?_;refine An ?_;refine bR rfl ?_;refine Ka9 ?_;refine aZ results197 (λ w hw=>?_);revert w hw;exact hq.get):p:=h ⟨hq⟩
theorem K0i(hq:q)(h:Hid q->p:=by intro hq;refine gO (.one 0 [] (.one 1 [] (.one 2 [] (.one 3 [] (.one 4 [] (.one 5 [] (.one 6 [] (.one 7 [] (.one 8 [] (.one 9 [] (.one 10 [] (.one 11 [] (.one 12 [] (.one 13 [] (.one 14 [] (.two 15 [4] (.one 16 [4,9,14] (.one 17 [] (.one 18 [] .nil))) 0 [] (.two 16 [4,9,14] (.one 15 [4] (.one 17 [] (.one 18 [] .nil))) 0 [] .nil))))))))))))))))) ?_;exact hq.get):p:=h ⟨hq⟩
theorem K0j(hq:q)(h:Hid q->p:=by intro hq;refine Ve ?_;refine An ?_;refine fC ((0,x37)) ?_ (hw1:=λ w hw=>by obtain⟨k1,k2⟩:=oW hm (by omega);rw[k1,show(oM (gV b xs i r) y.1).length+1=(oM (gV b xs i r) (y.1+1)).length by rw[<- k2];simp,k2] at hw;exact hw.back);exact hq.get):p:=h ⟨hq⟩
theorem K0k(hq:q)(h:Hid q->p:=by intro hq;refine J4 ?_;refine aY ?_;refine An ?_;refine Jw ?_;refine Pb ?_;refine J1 ?_;refine aS results92 (λ w hw=>?_);have h2:=(hw.freeze .head).freeze .head;revert w hw h2;exact hq.get):p:=h ⟨hq⟩
theorem K0l(hq:q)(h:Hid q->p:=by intro hq;refine Pa ?_;refine jD ?_;refine aD (cM (hs:=xH k bx bm x dn rs) (os:=xW x) (hc:=λ w hs=>cQ m _ hm go ok hs)) (λ x48 h48=>?_);refine aJ (λ x17=>?_);refine J5 ?_;refine Kd1 ?_;revert x48 h48 x17;exact hq.get):p:=h ⟨hq⟩
theorem K0m(hq:q)(h:Hid q->p:=by intro hq;refine lB ?_;refine aT ?_;refine gH [0,1,2,3,4,5,6,7,8,9] ?_;refine Fl ?_;refine qB ?_;refine pI ?_;refine eN ?_;exact hq.get):p:=h ⟨hq⟩
theorem K0n(hq:q)(h:Hid q->p:=by intro hq;refine J0 ?_;refine aC (Tq b1 (mQ b t) 0 3 hB rfl rfl) rfl ?_;refine aC (lX b2 [.int .i64 v] 0 hB rfl) rfl ?_;refine aA ?_;refine aC (lX b3 [fn f cap] 0 hB rfl) rfl ?_;exact hq.get):p:=h ⟨hq⟩
theorem K0o(hq:q)(h:Hid q->p:=by intro hq;refine aE ?_;refine aC (aU (k:=2) (vs:=[.int .i64 k.t.root,.bool k.t.ro]) rf cY eD rfl rfl) rfl ?_;exact hq.get):p:=h ⟨hq⟩
theorem K0p(hq:q)(h:Hid q->p:=by intro hq;refine Bo ?_;refine aP (cV (hc:=λ w1 hw=>fN hh (level:Int) w1)) (λ x91=>?_);refine zQ ?_;refine aA ?_;refine bM ?_;refine aJ (λ x23=>?_);refine J5 ?_;refine E4 ?_;refine aP (cV (hc:=λ w1 hw=>Lj (v:=(aB x.L m)) h48.2 hl (ok.sU hw hA m))) (λ x99=>?_);revert x91 x23 x99;exact hq.get):p:=h ⟨hq⟩
theorem K0q(hq:q)(h:Hid q->p:=by intro hq;refine cU ?_;refine mP ?_;refine aC (oR rf rf) rfl ?_;refine Pd ?_;exact hq.get):p:=h ⟨hq⟩
theorem K0r(hq:q)(h:Hid q->p:=by intro hq;refine Bo ?_;refine aP (cV (hc:=λ w1 hw=>fN hh (level:Int) w1)) (λ x91=>?_);revert x91;exact hq.get):p:=h ⟨hq⟩
theorem K0s(hq:q)(h:Hid q->p:=by intro hq;refine J88 ?_;refine J2 ?_;refine aD (cM (hc:=λ w hs=>nV (m:=L.length+1) hs (by omega))) (λ x46 h46=>?_);refine J1 ?_;refine aS results29 (λ w hw=>?_);have h3:=hw.bB (H':=[(b,_)]) (F':=[(x8.1,aH xs),(x8.2,dF ys)]) (O':=[_,_]);revert x46 h46 w hw h3;exact hq.get):p:=h ⟨hq⟩
theorem K0t(hq:q)(h:Hid q->p:=by intro hq;refine J0 ?_;refine aJ (λ x4=>?_);refine aG ?_;revert x4;exact hq.get):p:=h ⟨hq⟩
theorem K0u(hq:q)(h:Hid q->p:=by intro hq;refine gH [0,1,2,3,4,5,6,7,8,9,10,11,12,13,14,15,16,17,18] ?_;refine iW ?_;(refine aV ?_);refine lZ ?_;refine aV ?_;exact hq.get):p:=h ⟨hq⟩
theorem K0v(hq:q)(h:Hid q->p:=by intro hq;refine gO (.one 0 [] (.one 1 [] (.one 2 [] (.one 4 [] (.one 5 [] (.one 6 [] (.two 3 [5] (.one 9 [] (.one 7 [1,5] (.one 8 [] (.one 10 [] (.one 11 [] (.one 12 [] .nil)))))) 0 [] (.two 7 [1,5] (.one 3 [5] (.one 9 [] (.one 8 [] (.one 10 [] (.one 11 [] (.one 12 [] .nil)))))) 0 [] .nil)))))))) ?_;refine Ke0 ?_;refine Ke0 ?_;exact hq.get):p:=h ⟨hq⟩
theorem K0w(hq:q)(h:Hid q->p:=by intro hq;have hyl:=sP ok m;have hlL:=ok.lL;have h48:gI g x _/\mX x.L.length x.cs.length (aB x.L m).c:=⟨qL go hm,ok.nv m⟩;revert hyl hlL h48;exact hq.get):p:=h ⟨hq⟩
theorem K0x(hq:q)(h:Hid q->p:=by intro hq;refine gH [0,1,2,3,4,5,6,7,8,9,10,11] ?_;exact hq.get):p:=h ⟨hq⟩
theorem K0y(hq:q)(h:Hid q->p:=by intro hq;refine J8 ?_;refine jD ?_;refine aD (cM (hs:=xH k bx bm x dn rs) (os:=xW x) (hc:=λ w hs=>fU b (by omega) ok hs)) (λ x100 h100=>?_);refine aJ (λ x21=>?_);refine J5 ?_;refine Dj ?_;refine jD ?_;revert x100 h100 x21;exact hq.get):p:=h ⟨hq⟩
theorem K0z(hq:q)(h:Hid q->p:=by intro hq;refine eI [(0,[]),(1,[]),(2,[]),(3,[]),(4,[]),(5,[]),(6,[]),(9,[]),(10,[]),(11,[]),(12,[]),(13,[]),(7,[5,12]),(8,[12]),(14,[]),(15,[]),(16,[]),(17,[]),(18,[]),(19,[])] ?_;refine iW ?_;refine sm ?_;refine dj ?_;refine cZ (i:=13) (hq:=(pY (m:=x.a) (n:=1) rf rf (by omega))) (h:=?_);exact hq.get):p:=h ⟨hq⟩
theorem K1a(hq:q)(h:Hid q->p:=by intro hq;refine aS results175 (λ w hw=>?_);revert w hw;exact hq.get):p:=h ⟨hq⟩
theorem K1b(hq:q)(h:Hid q->p:=by intro hq;refine J5 ?_;refine aZ results143 (λ w hw=>?_);revert w hw;exact hq.get):p:=h ⟨hq⟩
theorem K1c(hq:q)(h:Hid q->p:=by intro hq;have h3:=h2.bB (H':=[(b,_)]) (F':=[(x35.1,aH xs),(x40.1,dF ys)]) (O':=[_,_]);revert h3;exact hq.get):p:=h ⟨hq⟩
theorem K1d(hq:q)(h:Hid q->p:=by intro hq;refine J0 ?_;refine aC (lX xf [pt bf] 0 hB rfl) rfl ?_;exact hq.get):p:=h ⟨hq⟩
theorem K1e(hq:q)(h:Hid q->p:=by intro hq;refine J0 ?_;refine aC (Tq bo (mQ b t) 0 3 hB rfl rfl) rfl ?_;exact hq.get):p:=h ⟨hq⟩
theorem K1f(hq:q)(h:Hid q->p:=by intro hq;refine aT ?_;refine eI [(0,[]),(1,[]),(2,[]),(3,[]),(4,[]),(5,[]),(6,[4]),(7,[]),(8,[]),(9,[]),(10,[])] ?_;refine dj ?_;refine bV ?_;exact hq.get):p:=h ⟨hq⟩
theorem K1g(hq:q)(h:Hid q->p:=by intro hq;refine Jw ?_;refine aC (aU (k:=3) rf cY eD (by simp only[List.drop_zero,List.take_succ_cons,List.take_zero];exact rfl) rfl) rfl ?_;exact hq.get):p:=h ⟨hq⟩
theorem K1h(hq:q)(h:Hid q->p:=by intro hq;refine J0 ?_;refine bJ (λ x1=>?_);refine J8 ?_;refine aT ?_;refine nJ ?_;refine aD (c0 (V:=.bool) (hc:=λ w1 hw=>Sj ⟨hw.cl (.bS .head),hw.cl (.bS (.tail .head)),λ f hf=>(hw.bS f (List.mem_cons_of_mem _ (List.mem_cons_of_mem _ hf))).1,h.fit⟩ hL hC)) (λ x8 h8=>?_);refine oG ?_;revert x1 x8 h8;exact hq.get):p:=h ⟨hq⟩
theorem K1i(hq:q)(h:Hid q->p:=by intro hq;refine J0 ?_;refine bJ (λ x2=>?_);refine bJ (λ x3=>?_);revert x2 x3;exact hq.get):p:=h ⟨hq⟩
theorem K1j(hq:q)(h:Hid q->p:=by intro hq;refine gG ?_;refine dZ ?_;exact hq.get):p:=h ⟨hq⟩
theorem K1k(hq:q)(h:Hid q->p:=by intro hq;refine gH [0,1,2,3,4,5,6,7,8] ?_;refine iW ?_;refine Pe ?_;refine iW ?_;refine Pe ?_;exact hq.get):p:=h ⟨hq⟩
theorem K1l(hq:q)(h:Hid q->p:=by intro hq;refine aA ?_;refine aC (jW rf rfl) rfl ?_;refine aC (jW rf rfl) rfl ?_;refine J8 ?_;exact hq.get):p:=h ⟨hq⟩
theorem K1m(hq:q)(h:Hid q->p:=by intro hq;refine J0 ?_;refine bJ (λ x3=>?_);revert x3;exact hq.get):p:=h ⟨hq⟩
theorem K1n(hq:q)(h:Hid q->p:=by intro hq;refine C1 ?_;refine fC ((x28,x142,x143,nN (dg (aB x.L m) (eZ h (level:Int)) x142.1) x143)) ?_ (hw1:=λ w hw=>hw.v6);exact hq.get):p:=h ⟨hq⟩
theorem K1o(hq:q)(h:Hid q->p:=by intro hq;refine An ?_;refine fC ((x9,x18)) ?_ (hw1:=λ w hw=>by exact(hw.perm (List.Perm.swap _ _ _) (List.Perm.refl _)).back (hH:=by exact List.Sublist.refl _) (hF:=by exact bA.all) (hO:=by exact List.Sublist.refl _));exact hq.get):p:=h ⟨hq⟩
theorem K1p(hq:q)(h:Hid q->p:=by intro hq;refine Km ?_;refine aD (cM (hc:=λ w hs=>mB init hs hc)) (λ x24 h24=>?_);refine vO ?_;refine eV ?_;refine J0 ?_;refine iZ (λ x32=>?_);refine J3 ?_;revert x24 h24 x32;exact hq.get):p:=h ⟨hq⟩
theorem K1q(hq:q)(h:Hid q->p:=by intro hq;refine J0 ?_;refine bJ (λ x1=>?_);revert x1;exact hq.get):p:=h ⟨hq⟩
theorem K1r(hq:q)(h:Hid q->p:=by intro hq;refine enter func226 ntmps226 rfl rfl (cJ hs) ?_;exact hq.get):p:=h ⟨hq⟩
theorem K1s(hq:q)(h:Hid q->p:=by intro hq;refine enter func224 ntmps224 rfl rfl (cJ hs) ?_;exact hq.get):p:=h ⟨hq⟩
theorem K1t(hq:q)(h:Hid q->p:=by intro hq;refine bR rfl ?_;exact hq.get):p:=h ⟨hq⟩
theorem K1u(hq:q)(h:Hid q->p:=by intro hq;have g0:=h48.1.to (λ _=>if_neg hk);have g1:=tS g0 (by rw[hl];rfl);revert g0 g1;exact hq.get):p:=h ⟨hq⟩
theorem K1v(hq:q)(h:Hid q->p:=by intro hq;(refine aC cG rfl ?_);exact hq.get):p:=h ⟨hq⟩
theorem K1w(hq:q)(h:Hid q->p:=by intro hq;refine D1 ?_;refine dV ?_;refine wF ?_;exact hq.get):p:=h ⟨hq⟩
theorem K1x(hq:q)(h:Hid q->p:=by intro hq;refine wU ?_;refine aZ results169 (λ w hw=>?_);revert w hw;exact hq.get):p:=h ⟨hq⟩
theorem K1y(hq:q)(h:Hid q->p:=by intro hq;refine aS results126 (λ w hw=>?_);revert w hw;exact hq.get):p:=h ⟨hq⟩
theorem K1z(hq:q)(h:Hid q->p:=by intro hq;refine aV ?_;refine cZ (i:=7) (hq:=(bQ rf rfl)) (h:=?_);refine cZ (i:=8) (hq:=(bQ rf rfl)) (h:=?_);exact hq.get):p:=h ⟨hq⟩
theorem K2a(hq:q)(h:Hid q->p:=by intro hq;refine vO ?_;refine J0 ?_;refine iZ (λ x37=>?_);refine J3 ?_;revert x37;exact hq.get):p:=h ⟨hq⟩
theorem K2b(hq:q)(h:Hid q->p:=by intro hq;refine C1 ?_;refine fC (x12) ?_;exact hq.get):p:=h ⟨hq⟩
theorem K2c(hq:q)(h:Hid q->p:=by intro hq;refine Ka7 ?_;refine dV ?_;refine aA ?_;refine dV ?_;refine Kc5 ?_;exact hq.get):p:=h ⟨hq⟩
theorem K2d(hq:q)(h:Hid q->p:=by intro hq;refine J1 ?_;refine E4 ?_;refine aP (cV (hc:=λ w1 hw=>Lj (v:=(aB x.L m)) h48.2 hl (ok.sU hw hA m))) (λ x95=>?_);revert x95;exact hq.get):p:=h ⟨hq⟩
theorem K2e(hq:q)(h:Hid q->p:=by intro hq;refine aC (Mx (k2:=.u8) rf (by kernel_rfl) (by exact tU rfl) ⟨bN _,by have:=N0 key y;omega⟩) rfl ?_;refine aC (sc rf rf (Ij _ _) (by have:=N0 key y;omega)) rfl ?_;exact hq.get):p:=h ⟨hq⟩
theorem K2f(hq:q)(h:Hid q->p:=by intro hq;refine Cm ?_;refine aG ?_;refine cO ?_;refine lP ?_;exact hq.get):p:=h ⟨hq⟩
theorem K2g(hq:q)(h:Hid q->p:=by intro hq;refine Kc4 ?_;refine aD (cM (hs:=xH k bx bm x dn rs) (os:=xW x) (hc:=λ w hs=>yC _ _ hs)) (λ x129 h129=>?_);refine oG ?_;revert x129 h129;exact hq.get):p:=h ⟨hq⟩
theorem K2h(hq:q)(h:Hid q->p:=by intro hq;refine J2 ?_;refine J3 ?_;refine mJ ?_;refine aD (cM (hs:=xH k bx bm x dn rs) (os:=xW x) (hc:=λ w hs=>Gs hg (k.kind==11) _ n ht (g9.to (λ _=>Wj (B:=λ b=>uP k.t b .done n) (by omega))) ok hs)) (λ x113 h113=>?_);revert x113 h113;exact hq.get):p:=h ⟨hq⟩
theorem K2i(hq:q)(h:Hid q->p:=by intro hq;refine aT ?_;refine mP ?_;refine oG ?_;exact hq.get):p:=h ⟨hq⟩
theorem K2j(hq:q)(h:Hid q->p:=by intro hq;refine jD ?_;refine aP (cV (hc:=λ w1 hw=>gZ _ _ w1)) (λ x133=>?_);refine E8 ?_;refine aZ results224 (λ w hw=>?_);revert x133 w hw;exact hq.get):p:=h ⟨hq⟩
theorem K2k(hq:q)(h:Hid q->p:=by intro hq;refine J56 ?_;refine J7 ?_;refine aS results212 (λ w hw=>?_);revert w hw;exact hq.get):p:=h ⟨hq⟩
theorem K2l(hq:q)(h:Hid q->p:=by intro hq;refine aG ?_;refine aZ results148 (λ w hw=>?_);revert w hw;exact hq.get):p:=h ⟨hq⟩
theorem K2m(hq:q)(h:Hid q->p:=by intro hq;refine aS results158 (λ w hw=>?_);revert w hw;exact hq.get):p:=h ⟨hq⟩
theorem K2n(hq:q)(h:Hid q->p:=by intro hq;refine enter func212 ntmps212 rfl rfl (cJ hs) ?_;exact hq.get):p:=h ⟨hq⟩
theorem K2o(hq:q)(h:Hid q->p:=by intro hq;refine enter func210 ntmps210 rfl rfl (cJ hs) ?_;exact hq.get):p:=h ⟨hq⟩
theorem K2p(hq:q)(h:Hid q->p:=by intro hq;refine jB ?_;refine gG ?_;refine K1j ?_;refine eQ ?_;refine oL ?_;exact hq.get):p:=h ⟨hq⟩
theorem K2q(hq:q)(h:Hid q->p:=by intro hq;refine K1t ?_;refine cU ?_;exact hq.get):p:=h ⟨hq⟩
theorem K2r(hq:q)(h:Hid q->p:=by intro hq;refine Ka6 ?_;refine aC (lX b0 (nd.cells:List Value) 13 hB rfl) rfl ?_;refine K1v ?_;exact hq.get):p:=h ⟨hq⟩
theorem K2s(hq:q)(h:Hid q->p:=by intro hq;refine bJ (λ x4=>?_);refine bJ (λ x5=>?_);refine aJ (λ x6=>?_);refine aG ?_;refine iE ?_;refine bO ?_;refine aD (Da i ok hm hA hi) (λ x10 h10=>?_);refine cP ?_;refine K1v ?_;refine aP (cV (hc:=λ w1 hw=>oN _ _ _ w1)) (λ x13=>?_);revert x4 x5 x6 x10 h10 x13;exact hq.get):p:=h ⟨hq⟩
theorem bD{c:Operand}{x y:Code}{t:Bool}(ht:p1->JK prog n Q (.code x::ks) S G)(hf:p2->JK prog n Q (.code y::ks) S G)(hc:ev S c=.bool t:=by exact rfl)(k1:t=true->p1:=by first|exact of_decide_eq_true|exact ibeq_t|exact U8|exact qz|exact sbeq_t|exact ibne_t|exact sbne_t|exact id)(k2:t=false->p2:=by first|exact of_decide_eq_false|exact ibeq_f|exact Vx|exact mx|exact sbeq_f|exact ibne_f|exact sbne_f|exact id):JK prog n Q (.code (.cond c x y)::ks) S G:=aEN (λ e=>ht (k1 e)) (λ e=>hf (k2 e)) hc
theorem eE(g:Nat)(ht:p1->JL prog n Q ks ops l ((g,.bool true)::S) G)(hf:p2->JL prog n Q ks ops l ((g,.bool false)::S) G)(hg:Ct.look S g=.bool t:=by exact rfl)(k1:t=true->p1:=by first|exact of_decide_eq_true|exact ibeq_t|exact U8|exact qz|exact ibne_t|exact id)(k2:t=false->p2:=by first|exact of_decide_eq_false|exact ibeq_f|exact Vx|exact mx|exact ibne_f|exact id):JL prog n Q ks ops l S G:=aAQ hg (λ e=>ht (k1 e)) (λ e=>hf (k2 e))
theorem rcs(g:Nat)(ht:p1->JR prog n Q ks ops pl Dl Dp Dq ((g,.bool true)::S) G)(hf:p2->JR prog n Q ks ops pl Dl Dp Dq ((g,.bool false)::S) G)(hg:Ct.look S g=.bool t:=by exact rfl)(k1:t=true->p1:=by first|exact of_decide_eq_true|exact ibeq_t|exact U8|exact qz|exact ibne_t|exact id)(k2:t=false->p2:=by first|exact of_decide_eq_false|exact ibeq_f|exact Vx|exact mx|exact ibne_f|exact id):JR prog n Q ks ops pl Dl Dp Dq S G:=aB5 hg (λ e=>ht (k1 e)) (λ e=>hf (k2 e))
theorem iS{K:Y->List (Nat×Value)}{I:Y->Prop}{Hx:Y->List (Nat×Obj)}{Fx:Y->Fr}{Ox:Y->List Ow}{μ:Y->Nat}(x':Y)(hI:I x')(hw1:∀w,SF w0 M H' A F' O' w->SF w0 M (Hx x') A (Fx x') (Ox x') w:=by exact λ w hw=>hw.back)(hμ:μ x'<m:=by first|omega|(simp only[];omega))(hK:nE (K x') S:=by(repeat' (first|exact bF _|refine aX ?_ ?_));all_goals (first|exact rfl|(conv=>{lhs;whnf};simp;done)|(conv=>{lhs;whnf};congr 1;omega)))(hp:zX keys S S0:=by repeat (first|(with_reducible exact zX.refl)|refine zX.cons (by exact rfl) ?_)):JK prog n Q (.inv (lT n keys K (λ x w=>I x/\SF w0 M (Hx x) A (Fx x) (Ox x) w) μ S0 m)::ks) S (SF w0 M H' A F' O'):=lR x' hμ hK hp hI hw1
theorem fC{K:Y->List (Nat×Value)}{I:Y->Prop}{Hx:Y->List (Nat×Obj)}{Fx:Y->Fr}{Ox:Y->List Ow}{μ:Y->Nat}(x':Y)(hI:I x')(hw1:∀w,SF w0 M H' A F' O' w->SF w0 M (Hx x') A (Fx x') (Ox x') w:=by exact λ w hw=>hw.back)(hμ:μ x'<m:=by decide)(hK:nE (K x') S:=by(repeat' (first|exact bF _|refine aX ?_ ?_));all_goals (first|exact rfl|(conv=>{lhs;whnf};simp;done)|(conv=>{lhs;whnf};congr 1;omega)))(hp:zX keys S S0:=by repeat (first|(with_reducible exact zX.refl)|refine zX.cons (by exact rfl) ?_)):JK prog n Q (.inv (lT n keys K (λ x w=>I x/\SF w0 M (Hx x) A (Fx x) (Ox x) w) μ S0 m)::ks) S (SF w0 M H' A F' O'):=lR x' hμ hK hp hI hw1
theorem mN(keys:List Nat)(K:Y->List (Nat×Value))(I:Y->Prop)(Hx:Y->List (Nat×Obj))(Fx:Y->Fr)(Ox:Y->List Ow)(μ:Y->Nat){c:Code}(x0:Y)(hG0:I x0)(round:∀x f,I x->JK prog n Q (.code c::.inv (lT n keys K (λ x w=>I x/\SF w0 M (Hx x) A (Fx x) (Ox x) w) μ S (μ x))::ks) (K x++(gY keys f++S)) (SF w0 M (Hx x) A (Fx x) (Ox x)))(hw0:∀w,SF w0 M H A F O w->SF w0 M (Hx x0) A (Fx x0) (Ox x0) w:=by exact λ w hw=>hw.back)(hn:(keys.all λ k=>Nat.blt k n)=true:=by decide)(hKn:∀x,((K x).all λ p=>Nat.blt p.1 n)=true:=by exact λ _=>by exact rfl)(hK0:nE (K x0) S:=by repeat (first|exact bF _|refine aX (by first|exact rfl|(conv=>{lhs;whnf};simp;done)) ?_)):JK prog n Q (.code (.loop c)::ks) S (SF w0 M H A F O):=Ye keys K I Hx Fx Ox μ x0 hn hKn hK0 hG0 hw0 round
theorem aZ{Re:Ending->World->Prop}(hr:fn.results=⟨rs⟩)(h:∀w,SF w0 M H A F O w->Re (.returned (sE vs)) w)(hv:kH prog S H rs vs:=by repeat (first|exact kH.nil|(apply kH.tmp;(focus (conv=>{lhs;whnf})))|(apply kH.cell;(focus (exact rfl));(focus (repeat (first|exact At.head|apply At.tail)));(focus (exact U6 rfl)))|(apply kH.L6;(focus (exact rfl));(focus (repeat (first|exact At.head|apply At.tail)));(focus (exact Og rfl))))):JK prog n (bodyPost prog fn Re) (.code .ret::ks) S (SF w0 M H A F O):=Y0 hr hv h
theorem Cp{Re:Ending->World->Prop}(hr:fn.results=⟨rs⟩)(h:∀w,SF w0 M H A F O w->Re (.returned (sE vs)) w)(hv:kH prog S H rs vs:=by repeat (first|exact kH.nil|(apply kH.tmp;(focus (conv=>{lhs;whnf})))|(apply kH.cell;(focus (exact rfl));(focus (repeat (first|exact At.head|apply At.tail)));(focus (exact U6 rfl)))|(apply kH.L6;(focus (exact rfl));(focus (repeat (first|exact At.head|apply At.tail)));(focus (exact Og rfl))))):JK prog n (bodyPost prog fn Re) [] S (SF w0 M H A F O):=xm hr hv h
theorem nv{c:Prop}(hc:c)(h:¬c:=by decide):p:=absurd hc h
end Go.Proofs.YtbajmaoegmbfgaaGreat

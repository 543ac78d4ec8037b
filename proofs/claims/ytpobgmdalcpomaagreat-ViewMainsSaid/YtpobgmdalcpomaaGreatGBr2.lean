/- Branches: what Lookup and Sole compute. -/
import Derived.Test.YtpobgmdalcpomaaGreatGBr
import Derived.Test.YtpobgmdalcpomaaGreatGAr5
import Derived.Test.YtpobgmdalcpomaaGreatAuto
import Derived.Test.YtpobgmdalcpomaaGreatGPaX
import Derived.Test.YtpobgmdalcpomaaGreatGSlices2

set_option linter.unusedSimpArgs false
set_option linter.unusedVariables false
namespace Go.Ct
open Go Go.RowKit
end Go.Ct
namespace Go.Proofs.YtpobgmdalcpomaaGreat
open Go.RowKit Go.Ct
def CV(n:Nd)(xs:List Int)(ys:List Pr):Prop:=n.kind=3/\NdValid n xs ys
theorem CV.bv{n:Nd}{xs:List Int}{ys:List Pr}{b:Nat}(h:CV n xs ys)(hb:n.bm=(b:Int))(hb2:b<18446744073709551616):BV b xs:=by
 obtain⟨h1,h2⟩:=ndValid_c3 h.1 h.2
 rw[hb,rOnes_cnt hb2] at h1
 exact⟨hb2,by omega,h2⟩
open Classical in
noncomputable def lkO (n:Nd) (xs:List Int) (ys:List Pr) (b:Nat) (i:Int):Option Int:=if CV n xs ys/\hasI b i=true then some (xs.getD (posN b i) 0) else none
open Classical in
noncomputable def soO (n:Nd) (xs:List Int) (ys:List Pr):Option Int:=if CV n xs ys/\xs.length=1 then some (xs.getD 0 0) else none
theorem hasI_elim{b:Nat}{i:Int}(h:hasI b i=true):0<=i/\i<64/\b.testBit i.toNat=true/\posN b i=cnt b i.toNat:=by
 simp only[hasI,Bool.and_eq_true,decide_eq_true_eq] at h
 exact⟨h.1,h.2.1,h.2.2,by unfold posN;congr 1;omega⟩
theorem bv_lt{b:Nat}{xs:List Int}(h:BV b xs){i:Int}(hh:hasI b i=true):posN b i<xs.length:=by
 obtain⟨h1,h2,h3,h4⟩:=hasI_elim hh
 rw[h4,h.len]
 exact cnt_lt (by omega) h3
section
variable{n:Nd}{xs:List Int}{ys:List Pr}{w:World}{b:Nat}
theorem cis_c(hb:n.bm=(b:Int))(hb2:b<18446744073709551616)(hr:Rep w n xs ys):Calls Tryz.prog 134 #[n.v] w λ e w'=>∃r:Bool,e=.returned (.bool r)/\(r=true↔CV n xs ys)/\St w [] [] w':=by
 refine enter Tryz.func134 Tryz.ntmps134 rfl rfl (SF.s0 w) ?_
 simp only[mkS]
 simp only[Nd.v,Nd.cells]
 all_goals (refine J0 ?_;refine j_box (λ x1=>?_);refine J1 ?_;refine J24 ?_;refine j_eql ?_;refine j_move ?_)
 all_goals (first|refine j_un ?_|(refine j_yes ?_;refine j_load ?_)|(refine lcs 6 (λ g6=>?_) (λ g6=>?_)<;>(first|refine j_un ?_|(refine j_yes ?_;refine j_load ?_))))
 all_goals (((first|refine j_un ?_|(refine j_yes ?_;(refine j_own (c0 (V:=.bool) (hc:=λ w1 hw=>refValid_c (n:=n) hb hb2 (hr.keep0 hw.done))) (λ x8=>?_);try (refine l_fact (λ h8=>?_))))));refine j_pick ?_;refine J1 ?_)
 all_goals
 refine k_rv Tryz.results134 (λ w hw=>?_)
 refine⟨_,rfl,?_,hw.done⟩
 simp_all[CV]
theorem refLookup_c(i:Int)(hb:n.bm=(b:Int))(hb2:b<18446744073709551616)(hr:Rep w n xs ys):Calls Tryz.prog 110 #[n.v,.int .i64 i] w λ e w'=>e=.returned (.tuple #[.int .i64 ((lkO n xs ys b i).getD 0),.bool (lkO n xs ys b i).isSome])/\St w [] [] w':=by
 have e1:=hr.brN
 refine enter Tryz.func110 Tryz.ntmps110 rfl rfl (SF.s2 hr.br hr.pr) ?_
 simp only[mkS]
 simp only[Nd.v,Nd.cells,hb,e1]
 all_goals (refine J0 ?_;refine j_box (λ x2=>?_);refine J8 ?_;refine k_seq ?_;refine J25 ?_;(refine j_own (c0 (V:=.bool) (hc:=λ w1 hw=>by rw[<- e1,<- hb];exact cis_c (n:=n) hb hb2 (hr.keep0 hw.done))) (λ x7=>?_);try (refine l_fact (λ h7=>?_)));refine J59 ?_)
 all_goals (first|refine j_un ?_|(refine j_yes ?_;refine j_fieldAddr ?_)|(refine lcs 9 (λ g9=>?_) (λ g9=>?_)<;>(first|refine j_un ?_|(refine j_yes ?_;refine j_fieldAddr ?_))))
 all_goals (refine J29 ?_;((first|refine j_un ?_|(refine j_yes ?_;(refine j_own (cV (hc:=λ w1 hw=>refHas_c hb2 i w1)) (λ x13=>?_);try (refine l_fact (λ h13=>?_))))));refine J31 ?_;refine l_nil ?_)
 all_goals
 refine kif (λ c15=>?_) (λ c15=>?_)
 ·try exact nv c15
  all_goals refine J66 ?_
  all_goals
   refine k_rt Tryz.results110 (λ w hw=>?_)
   rw[show lkO n xs ys b i=none from if_neg (by simp_all)];exact⟨rfl,hw.done⟩
 ·try exact nv c15
  all_goals
   have hcv:CV n xs ys:=h7.1 (by simpa using g9)
   have hpl:=bv_lt (hcv.bv hb hb2) c15
  all_goals (refine J16 ?_;refine k_dp [(0,[]),(1,[]),(2,[]),(3,[]),(4,[]),(5,[1]),(6,[]),(7,[]),(8,[]),(9,[])] ?_;refine J15 ?_;refine J15 ?_;refine r_move ?_;((refine r_own (i:=5) (hq:=(cV (hc:=λ w1 hw=>refPos_c hb2 i w1))) (h:=λ x21=>?_);try (refine r_fact (λ h21=>?_))));refine J48 ?_;refine J55 ?_)
  all_goals
   refine k_rt Tryz.results110 (λ w hw=>?_)
   rw[show lkO n xs ys b i=some (xs.getD (posN b i) 0) from if_pos ⟨hcv,c15⟩];exact⟨rfl,hw.done⟩
theorem refSole_c(hb:n.bm=(b:Int))(hb2:b<18446744073709551616)(hr:Rep w n xs ys):Calls Tryz.prog 136 #[n.v] w λ e w'=>e=.returned (.tuple #[.int .i64 ((soO n xs ys).getD 0),.bool (soO n xs ys).isSome])/\St w [] [] w':=by
 have e1:=hr.brN
 refine enter Tryz.func136 Tryz.ntmps136 rfl rfl (SF.s2 hr.br hr.pr) ?_
 simp only[mkS]
 simp only[Nd.v,Nd.cells,e1]
 all_goals (refine J0 ?_;refine j_box (λ x1=>?_);refine J8 ?_;refine k_seq ?_;refine J25 ?_;(refine j_own (c0 (V:=.bool) (hc:=λ w1 hw=>by rw[<- e1];exact cis_c (n:=n) hb hb2 (hr.keep0 hw.done))) (λ x5=>?_);try (refine l_fact (λ h5=>?_)));refine J59 ?_)
 all_goals (first|refine j_un ?_|(refine j_yes ?_;refine j_fieldAddr ?_)|(refine lcs 7 (λ g7=>?_) (λ g7=>?_)<;>(first|refine j_un ?_|(refine j_yes ?_;refine j_fieldAddr ?_))))
 all_goals ((first|refine j_un ?_|(refine j_yes ?_;refine j_load ?_));(first|refine j_un ?_|(refine j_yes ?_;refine j_len ?_));refine J38 ?_;refine l_nil ?_)
 all_goals
 refine kif (λ c12=>?_) (λ c12=>?_)
 ·try exact nv c12
  all_goals refine J66 ?_
  all_goals
   refine k_rt Tryz.results136 (λ w hw=>?_)
   rw[show soO n xs ys=none from if_neg (by simp_all;try omega)];exact⟨rfl,hw.done⟩
 ·try exact nv c12
  all_goals
   have hcv:CV n xs ys:=h5.1 (by simpa using g7)
   have hl1:xs.length=1:=by omega
  all_goals (refine k_skip ?_;refine J24 ?_;refine l_quiet (o_indexR (k:=0) rf rf sl1 on1 fin (by omega) (by omega)) rfl ?_;refine j_load ?_;refine J8 ?_)
  all_goals
   refine k_rt Tryz.results136 (λ w hw=>?_)
   rw[show soO n xs ys=some (xs.getD 0 0) from if_pos ⟨hcv,hl1⟩];exact⟨rfl,hw.done⟩
end
end Go.Proofs.YtpobgmdalcpomaaGreat

/- Branches: a C-node of a bitmap and a list. -/
namespace Go.Proofs.YtpobgmdalcpomaaGreat
open Go.RowKit Go.Ct
def cn(b:Nat)(xs:List Int)(x:Option Addr×Nat):Nd:={Nd.zero with kind:=3,bm:=(b:Int),brA:=x.1,brN:=xs.length,brC:=x.2}
theorem cv_cn{b:Nat}{xs:List Int}(h:BV b xs)(x:Option Addr×Nat){p:Int}(hp:0<=p):CV {cn b xs x with prev:=p} xs [] :=
 ⟨rfl,by simp[NdEq,Nd.own,Nd.xsOwn,Nd.ysOwn,cn],by simp[cn,Nd.zero],hp,by simp[cn,Nd.zero],.inr (.inr (.inl ⟨rfl,by show(xs.length:Int)=rOnes (b:Int);rw[rOnes_cnt h.lt,h.len],h.pos⟩))⟩
theorem cv_cn0{b:Nat}{xs:List Int}(h:BV b xs)(x:Option Addr×Nat):CV (cn b xs x) xs []:=cv_cn h x (p:=0) (Int.le_refl _)
end Go.Proofs.YtpobgmdalcpomaaGreat

/- Tapes: choices out of a list of numbers. -/
namespace Go.Proofs.YtpobgmdalcpomaaGreat
open Go.RowKit Go.Ct
abbrev tpO:=tapeO 99
abbrev TpAt(w:World):=TapeAt w 99
theorem mod_c(v n:Int)(w:World)(hn:IntKind.u64.wrap n≠0):Calls Tryz.prog 15 #[.int .i64 v,.int .i64 n] w λ e w'=>e=.returned (.int .i64 (modv v n))/\St w [] [] w':=by
 refine enter Tryz.func15 Tryz.ntmps15 rfl rfl (SF.s0 w) ?_
 simp only[mkS]
 all_goals (refine J10 ?_;refine J2 ?_;refine j_convert ?_;refine j_move ?_;refine j_convert ?_;refine j_rem ?_;refine j_convert ?_;refine J1 ?_)
 all_goals
 refine k_rv Tryz.results15 (λ w hw=>?_)
 exact⟨rfl,hw.done⟩
theorem new_c{l:List Int}{a:Option Addr}{c:Nat}{w:World}:Calls Tryz.prog 13 #[.slice a l.length c] w λ e w' =>
  ∃b:Nat,e=.returned (.pointer (some ⟨b,0,none⟩))/\True/\SF w [] [(b,tpO a l c 0)] [] [] [] w':=by
 refine enter Tryz.func13 Tryz.ntmps13 rfl rfl (SF.s0 w) ?_
 simp only[mkS]
 all_goals (refine J10 ?_;refine J2 ?_;refine j_build ?_;refine j_box (λ x5=>?_);refine J1 ?_)
 all_goals
 refine k_rv Tryz.results13 (λ w hw=>?_)
 exact⟨x5,rfl,trivial,hw.finH⟩
theorem next_c{l:List Int}{a:Option Addr}{b c k:Nat}{w:World}(n:Int)(ht:TpAt w b a l c k)(h0:0<n)(h1:n<=9223372036854775807) :
  Calls Tryz.prog 29 #[.pointer (some ⟨b,0,none⟩),.int .i64 n] w λ e w' =>
  ∃v:Nat,e=.returned (.int .i64 ((v:Nat):Int))/\((v:Int)<n/\v=tvN l k n)/\SF w [b] ((b,tpO a l c (tiN l k))::[]) [] [] [] w':=by
 have hl:=ht.len
 have hu:IntKind.u64.wrap n≠0:=by rw[wrap_u64];omega
 refine enter Tryz.func29 Tryz.ntmps29 rfl rfl ht.start ?_
 simp only[mkS]
 all_goals (refine J75 ?_;refine k_seq ?_;refine k_dq [0,1,2,3,4,5,6,7,8,9] ?_;refine J42 ?_;refine r_len ?_;refine r_geq ?_;refine r_fin ?_)
 all_goals
 refine kif (λ c14=>?_) (λ c14=>?_)
 ·try exact nv c14
  all_goals refine J10 ?_
  all_goals
   refine k_rv Tryz.results29 (λ w hw=>?_)
   exact⟨0,rfl,⟨by omega,by simp only[tvN];rw[if_neg (by omega)]⟩,by simp only[tiN];rw[if_neg (by omega)];exact hw.finH⟩
 ·try exact nv c14
  all_goals (refine J83 ?_;refine j_inc ?_;refine J61 ?_;refine k_seq ?_;refine k_dq [0,1,2,3,4,5,6,7,8,9,10,11,12,13] ?_;refine J42 ?_;refine r_dec ?_;refine J48 ?_;refine r_move ?_;((refine r_own (i:=12) (hq:=(cV (hc:=λ w1 hw=>mod_c (l.getD (k+1-1) 0) n w1 hu))) (h:=λ x34=>?_);try (refine r_fact (λ h34=>?_))));refine J7 ?_)
  all_goals
   refine k_rv Tryz.results29 (λ w hw=>?_)
   have hb:=modv_bound (v:=l.getD k 0) h0 h1
   exact⟨(modv (l.getD k 0) n).toNat,by rw[Int.toNat_of_nonneg hb.1];rfl,⟨by omega,by simp only[tvN];rw[if_pos (by omega)]⟩,by simp only[tiN];rw[if_pos (by omega)];exact hw.finH⟩
def keys8:List ByteArray:=[⟨#[97]⟩,⟨#[98]⟩,⟨#[99]⟩,⟨#[100]⟩,⟨#[97,98]⟩,⟨#[]⟩,⟨#[98,48]⟩,⟨#[107,101,121]⟩]
theorem key_c{l:List Int}{a:Option Addr}{b c k:Nat}{w:World}(ht:TpAt w b a l c k) :
  Calls Tryz.prog 49 #[.pointer (some ⟨b,0,none⟩)] w λ e w' =>
  ∃v:Nat,e=.returned (.string (keys8.getD v ⟨#[]⟩))/\(v<8/\v=tvN l k 8)/\SF w [b] ((b,tpO a l c (tiN l k))::[]) [] [] [] w':=by
 refine enter Tryz.func49 Tryz.ntmps49 rfl rfl ht.start ?_
 simp only[mkS]
 all_goals (refine J10 ?_;refine J0 ?_;refine j_buildSlice (λ x3=>?_);refine j_move ?_;(refine j_own (cF1 (hc:=λ w1 hw=>next_c 8 (hw.tape atT fin ht.len) (by decide) (by decide))) (λ x5=>?_);try (refine l_fact (λ h5=>?_)));refine l_quiet (o_indexS (lst:=keys8) rf rf sl1 on1 fin (by omega) (by simp only[keys8,List.length_cons,List.length_nil];omega)) rfl ?_;refine l_quiet (o_loadS (lst:=keys8) rf on1 fin (by simp only[keys8,List.length_cons,List.length_nil];omega)) rfl ?_;refine J1 ?_)
 all_goals
 refine k_rv Tryz.results49 (λ w hw=>?_)
 exact⟨x5,rfl,⟨by omega,h5.2⟩,hw.finH⟩
end Go.Proofs.YtpobgmdalcpomaaGreat

/- Nodes and lists of pairs out of tapes. -/
namespace Go.Ct
end Go.Ct
namespace Go.Proofs.YtpobgmdalcpomaaGreat
open Go.RowKit Go.Ct
structure GenNode(refs:Int)(n:Nd)(xs:List Int)(ys:List Pr):Prop where
 valid:NdValid n xs ys
 brN:n.brN=xs.length
 prN:n.prN=ys.length
 brC:n.brN<=n.brC
 prC:n.prN<=n.prC
 bm:∃b:Nat,n.bm=(b:Int)/\b<18446744073709551616
 xs64:xs.length<=64
 ys2:ys.length<=2
 key:n.key.size<=4
 cells:n.main=0/\n.prev=0/\n.status=0
 gen:0<=n.gen/\n.gen<=3
 kind:n.kind=2∨n.kind=3∨n.kind=4∨n.kind=5∨n.kind=6∨n.kind=8
 refs:(∀r∈xs,1<=r/\r<=refs)/\0<=n.old/\n.old<=refs/\0<=n.exp/\n.exp<=refs/\0<=n.new/\n.new<=refs
end Go.Proofs.YtpobgmdalcpomaaGreat

/- Tombs: Untombed, Contracted, Grown, Shrunk: both sides. -/
namespace Go.Proofs.YtpobgmdalcpomaaGreat
open Go.RowKit Go.Ct
def tmb(s:Nd):Nd:={Nd.zero with kind:=5,hash:=s.hash,key:=s.key,val:=s.val}
def unN(n:Nd):Nd:=if n.kind=5 then{Nd.zero with kind:=4,hash:=n.hash,key:=n.key,val:=n.val} else Nd.zero
theorem refUntombed_c(n:Nd)(w:World):Calls Tryz.prog 112 #[n.v] w λ e w'=>e=.returned (.tuple #[(unN n).v,.bool (decide (n.kind=5))])/\St w [] [] w':=by
 refine enter Tryz.func112 Tryz.ntmps112 rfl rfl (SF.s0 w) ?_
 simp only[mkS]
 simp only[Nd.v,Nd.cells]
 all_goals (refine J0 ?_;refine j_box (λ x1=>?_);refine j_alloc (λ x2=>?_);refine J27 ?_;refine J24 ?_;refine j_neq ?_;refine l_nil ?_)
 all_goals
 refine kif (λ c6=>?_) (λ c6=>?_)
 ·try exact nv c6
  all_goals (refine J0 ?_;refine j_build ?_;refine J46 ?_)
  all_goals
   refine k_rt Tryz.results112 (λ w hw=>?_)
   exact⟨by rw[show unN n=Nd.zero from if_neg (by assumption),decide_eq_false (by assumption)];rfl,hw.done⟩
 ·try exact nv c6
  all_goals (refine k_skip ?_;refine J24 ?_;refine J3 ?_;refine J3 ?_;refine j_build ?_;refine J46 ?_)
  all_goals
   refine k_rt Tryz.results112 (λ w hw=>?_)
   exact⟨by rw[show unN n={Nd.zero with kind:=4,hash:=n.hash,key:=n.key,val:=n.val} from if_pos (by omega),decide_eq_true (by omega)];rfl,hw.done⟩
section
variable{n s:Nd}{xs:List Int}{ys:List Pr}{w:World}{b:Nat}
def LV(n:Nd)(xs:List Int)(ys:List Pr):Prop:=n.kind=6/\NdValid n xs ys
theorem refLst_c(hb:n.bm=(b:Int))(hb2:b<18446744073709551616)(hr:Rep w n xs ys):Calls Tryz.prog 148 #[n.v] w λ e w'=>∃r:Bool,e=.returned (.bool r)/\(r=true↔LV n xs ys)/\St w [] [] w':=by
 refine enter Tryz.func148 Tryz.ntmps148 rfl rfl (SF.s0 w) ?_
 simp only[mkS]
 simp only[Nd.v,Nd.cells]
 all_goals (refine J0 ?_;refine j_box (λ x1=>?_);refine J1 ?_;refine J24 ?_;refine j_eql ?_;refine j_move ?_)
 all_goals (first|refine j_un ?_|(refine j_yes ?_;refine j_load ?_)|(refine lcs 6 (λ g6=>?_) (λ g6=>?_)<;>(first|refine j_un ?_|(refine j_yes ?_;refine j_load ?_))))
 all_goals (((first|refine j_un ?_|(refine j_yes ?_;(refine j_own (c0 (V:=.bool) (hc:=λ w1 hw=>refValid_c (n:=n) hb hb2 (hr.keep0 hw.done))) (λ x8=>?_);try (refine l_fact (λ h8=>?_))))));refine j_pick ?_;refine J1 ?_)
 all_goals
 refine k_rv Tryz.results148 (λ w hw=>?_)
 refine⟨_,rfl,?_,hw.done⟩
 simp_all[LV]
open Classical in
noncomputable def coT (n:Nd) (xs:List Int) (ys:List Pr) (level:Int) (s:Nd):Bool:=decide ((soO n xs ys).isSome=true/\0<level/\s.kind=4)
def reN(t:Bool)(n s:Nd):Nd:=if t=true then tmb s else n
def coX{α:Type}(t:Bool)(l:List α):List α:=if t=true then [] else l
theorem refContracted_c(level:Int)(s:Nd)(hb:n.bm=(b:Int))(hb2:b<18446744073709551616)(hr:Rep w n xs ys):Calls Tryz.prog 114 #[n.v,.int .i64 level,s.v] w λ e w'=>e=.returned (reN (coT n xs ys level s) n s).v/\St w [] [] w':=by
 refine enter Tryz.func114 Tryz.ntmps114 rfl rfl (SF.s0 w) ?_
 simp only[mkS]
 simp only[Nd.v,Nd.cells]
 all_goals (refine J0 ?_;refine j_box (λ x3=>?_);refine j_box (λ x5=>?_);refine j_alloc (λ x6=>?_);refine J80 ?_;refine J25 ?_;(refine j_own (cV (hc:=λ w1 hw=>refSole_c (n:=n) hb hb2 (hr.keep0 hw.done))) (λ x11=>?_);try (refine l_fact (λ h11=>?_)));refine j_move ?_;refine l_quiet (o_extr rf rfl) rfl ?_;refine l_quiet (o_extr rf rfl) rfl ?_;refine J8 ?_;refine J11 ?_)
 all_goals (first|refine j_un ?_|(refine j_yes ?_;refine j_move ?_)|(refine lcs 15 (λ g15=>?_) (λ g15=>?_)<;>(first|refine j_un ?_|(refine j_yes ?_;refine j_move ?_))))
 all_goals (refine J22 ?_;refine j_move ?_)
 all_goals (first|refine j_un ?_|(refine j_yes ?_;refine j_fieldAddr ?_)|(refine lcs 19 (λ g19=>?_) (λ g19=>?_)<;>(first|refine j_un ?_|(refine j_yes ?_;refine j_fieldAddr ?_))))
 all_goals (refine J78 ?_;refine l_nil ?_)
 all_goals
 refine kif (λ c23=>?_) (λ c23=>?_)
 ·try exact nv c23
  all_goals (refine J24 ?_;refine J3 ?_;refine J3 ?_;refine J52 ?_)
  all_goals
   refine k_rt Tryz.results114 (λ w hw=>?_)
   rw[show coT n xs ys level s=true from decide_eq_true ⟨by assumption,by omega,by omega⟩];exact⟨rfl,hw.done⟩
 ·try exact nv c23
  all_goals (refine k_skip ?_;refine J25 ?_;refine J5 ?_)
  all_goals
   refine k_rt Tryz.results114 (λ w hw=>?_)
   rw[show coT n xs ys level s=false from decide_eq_false (by rintro ⟨t1,t2,t3⟩;first|omega|(clear hw;simp_all;done))];exact⟨rfl,hw.done⟩
end
end Go.Proofs.YtpobgmdalcpomaaGreat

/- Merged. -/
import Derived.Test.YtdnklbipddigbaaGreatGMst
import Derived.Test.YtdnklbipddigbaaGreatGBits
import Derived.Test.YtdnklbipddigbaaGreatGNode8
import Derived.Test.YtdnklbipddigbaaGreatGNode4
set_option linter.unusedSimpArgs false
set_option linter.unusedVariables false
namespace Go.Ct
open Go Go.RowKit
section
structure Ac where
 k:Int
 c:Int
 o:Int
 n:Int
structure Rs where
 err:Int
 found:Bool
 val:Int
 key:ByteArray
 cnt:Int
 ref:Int
 root:Int
 ro:Bool
abbrev Ac.cells(a:Ac):List Value:=[.int .i64 a.k,.int .i64 a.c,.int .i64 a.o,.int .i64 a.n]
abbrev Rs.cells(r:Rs):List Value:=[.int .i64 r.err,.bool r.found,.int .u64 r.val,.string r.key,.int .i64 r.cnt,.int .i64 r.ref,.int .i64 r.root,.bool r.ro]
abbrev Rs.zero:Rs:=⟨0,false,0,⟨#[]⟩,0,0,0,false⟩
abbrev Ac.zero:Ac:=⟨0,0,0,0⟩
end
section
def markV:NdV:=⟨{Nd.zero with kind:=1},[],[]⟩
def nodeV(L:List NdV)(r:Int):NdV:=if 1<=r/\r<=L.length then L.getD (r-1).toNat NdV.zero else NdV.zero
theorem nodeV_no{L:List NdV}{r:Int}(h:¬(1<=r/\r<=L.length)):nodeV L r=NdV.zero:=if_neg h
theorem nodeV_at{L:List NdV}{k:Nat}(h:k<L.length):nodeV L ((k+1:Nat):Int)=L.getD k NdV.zero:=by unfold nodeV;rw[if_pos (by omega),show(((k+1:Nat):Int)-1).toNat=k by omega]
def allV(L:List NdV):List NdV:=markV::markV::L
theorem fit_mark:markV.Fit:=⟨rfl,rfl,by decide,by decide⟩
theorem fit_nodeV{L:List NdV}(h:Fits L)(r:Int):(nodeV L r).Fit:=by
 unfold nodeV;split;·rename_i hr;exact h.at (by omega)
 ·exact fit_zero
structure AX where
 pn:Option Addr
 cn:Nat
 pc:Option Addr
 cc:Nat
 b1:Option Addr
 c1:Nat
 b2:Option Addr
 c2:Nat
def alCs(k:Int)(cs:List Int)(init:Int):List Int:=if k=2∨k=3∨k=5∨k=6∨k=8 then cs++[init] else cs
def alV(n:Nd)(xs:List Int)(ys:List Pr)(c:Nat)(x:AX):NdV :=NdV.mk {n with main:=if n.kind=2 then((c+1:Nat):Int) else 0,prev:=if n.kind=3∨n.kind=5∨n.kind=6 then((c+1:Nat):Int) else 0,status:=if n.kind=8 then((c+1:Nat):Int) else 0,brA:=x.b1,brN:=xs.length,brC:=x.c1,prA:=x.b2,prN:=ys.length,prC:=x.c2} xs ys
theorem alCs_length{k:Int}{cs:List Int}{init:Int}:cs.length<=(alCs k cs init).length/\(alCs k cs init).length<=cs.length+1:=by unfold alCs;split<;>simp
theorem fit_al{n:Nd}{xs:List Int}{ys:List Pr}{c:Nat}{x:AX}(h1:xs.length<=35184372088832)(h2:ys.length<=11728124029610):(alV n xs ys c x).Fit:=⟨rfl,rfl,h1,h2⟩
def NdV.at_(v:NdV)(p q:Option Addr):NdV:=⟨{v.nd with brA:=p,brC:=v.xs.length,prA:=q,prC:=v.ys.length},v.xs,v.ys⟩
theorem NdV.at_fit{v:NdV}(h:v.Fit)(p q:Option Addr):(v.at_ p q).Fit:=⟨h.brN,h.prN,h.brS,h.prS⟩
end
end Go.Ct
namespace Go.Proofs.YtdnklbipddigbaaGreat
open Go.Proofs.Tryz (prog)
open Go.RowKit Go.Ct
section
variable{w:World}{D:List Nat}{b:Nat}{L:List NdV}{cs:List Int}{gen acc:Int}{pn pc:Option Addr}{cn cc:Nat}{A:Fr}
theorem mNew_c(w:World):Calls prog 43 #[] w λ e w'=>∃q:Nat×Option Addr,e=.returned (.pointer (some ⟨q.1,0,none⟩))/\True /\
  SF w [] [(q.1,mO [markV,markV] [] 0 0 q.2 2 none 0)] [] [] (mW [markV,markV] [] q.2 2 none 0) w':=by refine enter Tryz.func43 Tryz.ntmps43 rfl rfl (SF.s0 w) ?_;simp only[mkS];refine J10 ?_;refine J0 ?_;refine j_build ?_;refine j_build ?_;refine j_own (lSFO (c:=2) (sz:=14) rfl (λ _=>o_buildSlice elem_node pa1 rfl rfl rfl rfl (by simp only[flatP,cellsL,List.cons_append,List.nil_append];exact rfl))) (λ x3=>?_);refine j_build ?_;refine j_build ?_;refine j_box (λ x6=>?_);refine J1 ?_;refine k_rv Tryz.results43 (λ w hw=>?_);exact⟨(x6,some ⟨x3,0,none⟩),rfl,trivial,(SF.swapO (hw.nilOwn 28 1)).finH⟩
theorem mNode_no(hs:SF w D [(b,mO L cs gen acc pn cn pc cc)] A [] (mW L cs pn cn pc cc) w)(r:Int)(hr:r<1):Calls prog 12 #[.pointer (some ⟨b,0,none⟩),.int .i64 r] w λ e w'=>∃q:Unit,e=.returned (nodeV L r).nd.v/\True /\
  SF w D [(b,mO L cs gen acc pn cn pc cc)] [] [] (mW L cs pn cn pc cc) w':=by
 refine enter Tryz.func12 Tryz.ntmps12 rfl rfl (mOpen hs) ?_;simp only[mkS];refine J0 ?_;refine j_alloc (λ x4=>?_);refine l_nil ?_;refine Ke4 ?_;(refine lcs 7 (λ g7=>?_) (λ g7=>?_)<;>(try (exfalso;omega))<;>(refine j_un ?_));refine J79 ?_;refine Ke5 ?_;refine kif (λ c16=>?_) (λ c16=>?_)
 ·try (exfalso;omega)
  refine Kf3 ?_;refine k_rt Tryz.results12 (λ w hw=>?_);exact⟨(),by rw[nodeV_no (by omega)];rfl,trivial,hw.finH⟩
 ·exact nv c16
theorem mNode_at(hs:SF w D [(b,mO L cs gen acc pn cn pc cc)] A [] (mW L cs pn cn pc cc) w){k:Nat}(hk:(k:Int)<9223372036854775807)(hl:L.length<=274877906944):Calls prog 12 #[.pointer (some ⟨b,0,none⟩),.int .i64 ((k+1:Nat):Int)] w λ e w'=>∃q:Unit,e=.returned (nodeV L ((k+1:Nat):Int)).nd.v/\True /\
  SF w D [(b,mO L cs gen acc pn cn pc cc)] [] [] (mW L cs pn cn pc cc) w':=by
 refine enter Tryz.func12 Tryz.ntmps12 rfl rfl (mOpen hs) ?_;simp only[mkS];refine J0 ?_;refine j_alloc (λ x4=>?_);refine l_nil ?_;refine Ke4 ?_;(refine Ka3 ?_);refine J79 ?_;refine Ke5 ?_;refine kif (λ c16=>?_) (λ c16=>?_)
 ·try (exfalso;omega)
  refine Kf3 ?_;refine k_rt Tryz.results12 (λ w hw=>?_);(exact⟨(),by rw[nodeV_no (by omega)];rfl,trivial,hw.finH⟩)
 ·try (exfalso;omega)
  refine k_skip ?_;refine J45 ?_;refine Ke9 ?_;refine j_dec ?_;refine J53 ?_;refine J5 ?_;refine k_rt Tryz.results12 (λ w hw=>?_);(exact⟨(),by rw[nodeV_at (by omega)];rfl,trivial,hw.finH⟩)
theorem mNode_c(hs:SF w D [(b,mO L cs gen acc pn cn pc cc)] A [] (mW L cs pn cn pc cc) w)(r:Int)(hr:r<=9223372036854775807)(hl:L.length<=274877906944):Calls prog 12 #[.pointer (some ⟨b,0,none⟩),.int .i64 r] w λ e w'=>∃q:Unit,e=.returned (nodeV L r).nd.v/\True /\
  SF w D [(b,mO L cs gen acc pn cn pc cc)] [] [] (mW L cs pn cn pc cc) w':=by
 rcases Int.lt_or_le r 1 with h|h;·exact mNode_no hs r h
 ·obtain⟨k,rfl⟩:∃k:Nat,r=((k+1:Nat):Int):=⟨(r-1).toNat,by omega⟩;exact mNode_at hs (by omega) hl
end
section
variable{w:World}{D:List Nat}{b:Nat}{L:List NdV}{cs:List Int}{gen acc:Int}{pn pc:Option Addr}{cn cc:Nat}{A:Fr}
theorem mAlloc_c {n : Nd} {xs : List Int} {ys : List Pr} (init : Int) (hs : SF w D [(b, mO L cs gen acc pn cn pc cc)] [(n.brA, refsC xs), (n.prA, prC ys)] [] (mW L cs pn cn pc cc) w) (e1 : n.brN = xs.length) (e2 : n.prN = ys.length) (h1 : xs.length ≤ 274877906944) (h2 : ys.length ≤ 274877906944)
    (hl : L.length ≤ 274877906944) (hc : cs.length ≤ 274877906944) :
    Calls prog 13 #[.pointer (some ⟨b, 0, none⟩), n.v, .int .i64 init] w fun e w' => ∃ x : AX, e = .returned (.int .i64 ((L.length + 1 : Nat) : Int)) ∧ True ∧
      SF w D [(b, mO (L ++ [alV n xs ys cs.length x]) (alCs n.kind cs init) gen acc x.pn x.cn x.pc x.cc)] [] (alV n xs ys cs.length x).fr (mW (L ++ [alV n xs ys cs.length x]) (alCs n.kind cs init) x.pn x.cn x.pc x.cc) w' := by
       refine enter Tryz.func13 Tryz.ntmps13 rfl rfl (mOpen hs) ?_;simp only [mkS];simp only [Nd.v, Nd.cells];refine J0 ?_; refine j_box (fun x4 => ?_); refine J1 ?_; refine J0 ?_; refine j_fieldAddr ?_; refine j_store (fun _ => ?_); refine j_fieldAddr ?_; refine j_store (fun _ => ?_); refine J23 ?_; refine J72 ?_; refine l_nil ?_; refine k_block ?_; refine J39 ?_;refine kif (fun c12 => ?_) (fun c12 => ?_)
       ·try (exfalso; omega)
        refine J76 ?_; refine j_ownF (cM (hc := fun w hs => mNewCell_c init hs hc)) (fun x16 h16 => ?_); refine J23 ?_; refine k_blk ?_; refine J0 ?_; refine j_build0 (fun x32 => ?_); refine J3 ?_; (refine j_append (fun x35 => ?_); try (refine l_fact (fun h35 => ?_))); refine J23 ?_; refine J0 ?_; refine j_build0 (fun x37 => ?_); refine J3 ?_; (refine j_append (fun x40 => ?_); try (refine l_fact (fun h40 => ?_))); refine J23 ?_; refine k_seq ?_; refine k_dp [(0, []), (1, []), (2, []), (3, []), (4, []), (5, []), (6, []), (7, [5]), (8, []), (9, []), (10, []), (11, []), (12, [])] ?_; refine r_move ?_; refine J63 ?_; refine r_load ?_; refine r_buildSlice (h := fun x49 => ?_); ((refine r_own (i := 8) (hq := (Loud.convOF (o_append (sz := 14) rf rf oaT (by rw [nvC_length]) fin rfl rfl en1 rfl (by decide) sl1 om) co1)) (h := fun x50 => ?_); try (refine r_fact (fun h50 => ?_)))); refine J4 ?_; refine r_fieldAddr ?_; refine J19 ?_; refine J45 ?_; refine J85 ?_; refine J1 ?_;refine k_rv Tryz.results13 (fun w hw => ?_);have h2 := (hw.freeze .head).freeze .head;simp only [delO, List.nil_append] at h2;have h3 := h2.finH (H' := [(b, _)]) (F' := [(x35.1, refsC xs), (x40.1, prC ys)]) (O' := [_, _]);exact ⟨⟨x50.1, x50.2, x16.1, x16.2, x35.1, x35.2, x40.1, x40.2⟩, rfl, trivial, by simpa [mO, aO, mW, alV, NdV.fr, alCs, nvC_push, Nd.cells, *] using h3⟩
       ·try (exfalso; omega)
        refine k_seq ?_; refine J39 ?_;refine kif (fun c18 => ?_) (fun c18 => ?_)
        ·try (exfalso; omega)
         refine k_skip ?_;refine kif (fun c18 => ?_) (fun c18 => ?_)
         ·try (exfalso; omega)
          refine J76 ?_; refine j_ownF (cM (hc := fun w hs => mNewCell_c init hs hc)) (fun x24 h24 => ?_); refine J23 ?_; refine k_blk ?_; refine J0 ?_; refine j_build0 (fun x32 => ?_); refine J3 ?_; (refine j_append (fun x35 => ?_); try (refine l_fact (fun h35 => ?_))); refine J23 ?_; refine J0 ?_; refine j_build0 (fun x37 => ?_); refine J3 ?_; (refine j_append (fun x40 => ?_); try (refine l_fact (fun h40 => ?_))); refine J23 ?_; refine k_seq ?_; refine k_dp [(0, []), (1, []), (2, []), (3, []), (4, []), (5, []), (6, []), (7, [5]), (8, []), (9, []), (10, []), (11, []), (12, [])] ?_; refine r_move ?_; refine J63 ?_; refine r_load ?_; refine r_buildSlice (h := fun x49 => ?_); ((refine r_own (i := 8) (hq := (Loud.convOF (o_append (sz := 14) rf rf oaT (by rw [nvC_length]) fin rfl rfl en1 rfl (by decide) sl1 om) co1)) (h := fun x50 => ?_); try (refine r_fact (fun h50 => ?_)))); refine J4 ?_; refine r_fieldAddr ?_; refine J19 ?_; refine J45 ?_; refine J85 ?_; refine J1 ?_;refine k_rv Tryz.results13 (fun w hw => ?_);have h2 := (hw.freeze .head).freeze .head;simp only [delO, List.nil_append] at h2;have h3 := h2.finH (H' := [(b, _)]) (F' := [(x35.1, refsC xs), (x40.1, prC ys)]) (O' := [_, _]);exact ⟨⟨x50.1, x50.2, x24.1, x24.2, x35.1, x35.2, x40.1, x40.2⟩, rfl, trivial, by simpa [mO, aO, mW, alV, NdV.fr, alCs, nvC_push, Nd.cells, *] using h3⟩
         ·try (exfalso; omega)
        ·try (exfalso; omega)
         refine J39 ?_;refine kif (fun c18 => ?_) (fun c18 => ?_)
         ·try (exfalso; omega)
          refine k_skip ?_;refine kif (fun c18 => ?_) (fun c18 => ?_)
          ·try (exfalso; omega)
           refine J76 ?_; refine j_ownF (cM (hc := fun w hs => mNewCell_c init hs hc)) (fun x24 h24 => ?_); refine J23 ?_; refine k_blk ?_; refine J0 ?_; refine j_build0 (fun x32 => ?_); refine J3 ?_; (refine j_append (fun x35 => ?_); try (refine l_fact (fun h35 => ?_))); refine J23 ?_; refine J0 ?_; refine j_build0 (fun x37 => ?_); refine J3 ?_; (refine j_append (fun x40 => ?_); try (refine l_fact (fun h40 => ?_))); refine J23 ?_; refine k_seq ?_; refine k_dp [(0, []), (1, []), (2, []), (3, []), (4, []), (5, []), (6, []), (7, [5]), (8, []), (9, []), (10, []), (11, []), (12, [])] ?_; refine r_move ?_; refine J63 ?_; refine r_load ?_; refine r_buildSlice (h := fun x49 => ?_); ((refine r_own (i := 8) (hq := (Loud.convOF (o_append (sz := 14) rf rf oaT (by rw [nvC_length]) fin rfl rfl en1 rfl (by decide) sl1 om) co1)) (h := fun x50 => ?_); try (refine r_fact (fun h50 => ?_)))); refine J4 ?_; refine r_fieldAddr ?_; refine J19 ?_; refine J45 ?_; refine J85 ?_; refine J1 ?_;refine k_rv Tryz.results13 (fun w hw => ?_);have h2 := (hw.freeze .head).freeze .head;simp only [delO, List.nil_append] at h2;have h3 := h2.finH (H' := [(b, _)]) (F' := [(x35.1, refsC xs), (x40.1, prC ys)]) (O' := [_, _]);exact ⟨⟨x50.1, x50.2, x24.1, x24.2, x35.1, x35.2, x40.1, x40.2⟩, rfl, trivial, by simpa [mO, aO, mW, alV, NdV.fr, alCs, nvC_push, Nd.cells, *] using h3⟩
          ·try (exfalso; omega)
         ·try (exfalso; omega)
          refine k_region ?_; refine J28 ?_;refine kif (fun c18 => ?_) (fun c18 => ?_)
          ·try (exfalso; omega)
           refine J76 ?_; refine j_ownF (cM (hc := fun w hs => mNewCell_c init hs hc)) (fun x24 h24 => ?_); refine J23 ?_; refine k_blk ?_; refine J0 ?_; refine j_build0 (fun x32 => ?_); refine J3 ?_; (refine j_append (fun x35 => ?_); try (refine l_fact (fun h35 => ?_))); refine J23 ?_; refine J0 ?_; refine j_build0 (fun x37 => ?_); refine J3 ?_; (refine j_append (fun x40 => ?_); try (refine l_fact (fun h40 => ?_))); refine J23 ?_; refine k_seq ?_; refine k_dp [(0, []), (1, []), (2, []), (3, []), (4, []), (5, []), (6, []), (7, [5]), (8, []), (9, []), (10, []), (11, []), (12, [])] ?_; refine r_move ?_; refine J63 ?_; refine r_load ?_; refine r_buildSlice (h := fun x49 => ?_); ((refine r_own (i := 8) (hq := (Loud.convOF (o_append (sz := 14) rf rf oaT (by rw [nvC_length]) fin rfl rfl en1 rfl (by decide) sl1 om) co1)) (h := fun x50 => ?_); try (refine r_fact (fun h50 => ?_)))); refine J4 ?_; refine r_fieldAddr ?_; refine J19 ?_; refine J45 ?_; refine J85 ?_; refine J1 ?_;refine k_rv Tryz.results13 (fun w hw => ?_);have h2 := (hw.freeze .head).freeze .head;simp only [delO, List.nil_append] at h2;have h3 := h2.finH (H' := [(b, _)]) (F' := [(x35.1, refsC xs), (x40.1, prC ys)]) (O' := [_, _]);exact ⟨⟨x50.1, x50.2, x24.1, x24.2, x35.1, x35.2, x40.1, x40.2⟩, rfl, trivial, by simpa [mO, aO, mW, alV, NdV.fr, alCs, nvC_push, Nd.cells, *] using h3⟩
          ·try (exfalso; omega)
           refine J39 ?_;refine kif (fun c26 => ?_) (fun c26 => ?_)
           ·try (exfalso; omega)
            refine J76 ?_; refine j_ownF (cM (hc := fun w hs => mNewCell_c init hs hc)) (fun x30 h30 => ?_); refine J23 ?_; refine k_blk ?_; refine J0 ?_; refine j_build0 (fun x32 => ?_); refine J3 ?_; (refine j_append (fun x35 => ?_); try (refine l_fact (fun h35 => ?_))); refine J23 ?_; refine J0 ?_; refine j_build0 (fun x37 => ?_); refine J3 ?_; (refine j_append (fun x40 => ?_); try (refine l_fact (fun h40 => ?_))); refine J23 ?_; refine k_seq ?_; refine k_dp [(0, []), (1, []), (2, []), (3, []), (4, []), (5, []), (6, []), (7, [5]), (8, []), (9, []), (10, []), (11, []), (12, [])] ?_; refine r_move ?_; refine J63 ?_; refine r_load ?_; refine r_buildSlice (h := fun x49 => ?_); ((refine r_own (i := 8) (hq := (Loud.convOF (o_append (sz := 14) rf rf oaT (by rw [nvC_length]) fin rfl rfl en1 rfl (by decide) sl1 om) co1)) (h := fun x50 => ?_); try (refine r_fact (fun h50 => ?_)))); refine J4 ?_; refine r_fieldAddr ?_; refine J19 ?_; refine J45 ?_; refine J85 ?_; refine J1 ?_;refine k_rv Tryz.results13 (fun w hw => ?_);have h2 := (hw.freeze .head).freeze .head;simp only [delO, List.nil_append] at h2;have h3 := h2.finH (H' := [(b, _)]) (F' := [(x35.1, refsC xs), (x40.1, prC ys)]) (O' := [_, _]);exact ⟨⟨x50.1, x50.2, x30.1, x30.2, x35.1, x35.2, x40.1, x40.2⟩, rfl, trivial, by simpa [mO, aO, mW, alV, NdV.fr, alCs, nvC_push, Nd.cells, *] using h3⟩
           ·try (exfalso; omega)
            refine J34 ?_; refine J0 ?_; refine j_build0 (fun x32 => ?_); refine J3 ?_; (refine j_append (fun x35 => ?_); try (refine l_fact (fun h35 => ?_))); refine J23 ?_; refine J0 ?_; refine j_build0 (fun x37 => ?_); refine J3 ?_; (refine j_append (fun x40 => ?_); try (refine l_fact (fun h40 => ?_))); refine J23 ?_; refine k_seq ?_; refine k_dp [(0, []), (1, []), (2, []), (3, []), (4, []), (5, []), (6, []), (7, [5]), (8, []), (9, []), (10, []), (11, []), (12, [])] ?_; refine r_move ?_; refine J63 ?_; refine r_load ?_; refine r_buildSlice (h := fun x49 => ?_); ((refine r_own (i := 8) (hq := (Loud.convOF (o_append (sz := 14) rf rf oaT (by rw [nvC_length]) fin rfl rfl en1 rfl (by decide) sl1 om) co1)) (h := fun x50 => ?_); try (refine r_fact (fun h50 => ?_)))); refine J4 ?_; refine r_fieldAddr ?_; refine J19 ?_; refine J45 ?_; refine J85 ?_; refine J1 ?_;refine k_rv Tryz.results13 (fun w hw => ?_);have h2 := (hw.freeze .head).freeze .head;simp only [delO, List.nil_append] at h2;have h3 := h2.finH (H' := [(b, _)]) (F' := [(x35.1, refsC xs), (x40.1, prC ys)]) (O' := [_, _]);exact ⟨⟨x50.1, x50.2, pc, cc, x35.1, x35.2, x40.1, x40.2⟩, rfl, trivial, by simpa [mO, aO, mW, alV, NdV.fr, alCs, nvC_push, Nd.cells, *] using h3⟩
end
end Go.Proofs.YtdnklbipddigbaaGreat
namespace Go.Ct
section
theorem Cl.none_nil{w:Go.World}{cs:List Go.Value}(h:Cl w none cs):cs=[]:=by
 cases cs with
 | nil=>rfl
 | cons v r=>exact absurd (h.ptr (by simp)) (by simp)
theorem refsC_nil{l:List Int}(h:refsC l=[]):l=[]:=by simpa[refsC] using h
end
end Go.Ct
namespace Go.Proofs.YtdnklbipddigbaaGreat
open Go.RowKit Go.Ct
section
variable{w:World}{D:List Nat}{b:Nat}{L:List NdV}{cs:List Int}{gen acc:Int}{pn pc:Option Addr}{cn cc:Nat}{A:Fr}
theorem slCloneR_c{l:List Int}{a:Option Addr}{c:Nat}{w:World}(ha:Cl w a (refsC l))(hl:l.length<=274877906944):Calls Tryz.prog 70 #[.slice a l.length c] w λ e w' =>
  ∃x:Option Addr×Nat,e=.returned (.slice x.1 l.length x.2)/\True/\SF w [] [] [] [] [⟨x.1,refsC l,x.2,28,1⟩] w':=by
 refine enter Tryz.func70 Tryz.ntmps70 rfl rfl (SF.s1 ha) ?_;simp only[mkS];refine Kc2 ?_;refine J50 ?_;refine kif (λ c4=>?_) (λ c4=>?_)
 ·have e0:a=none:=by cases a with|none=>rfl|some _=>cases c4
  subst e0;obtain rfl:=refsC_nil ha.none_nil;refine J10 ?_;refine k_rv Tryz.results70 (λ w hw=>?_);exact⟨(none,0),rfl,trivial,(hw.nilOwn 28 1).finH⟩
 ·refine k_skip ?_;refine J0 ?_;refine j_build0 (λ x5=>?_);refine j_move ?_;(refine j_append (λ x7=>?_);try (refine l_fact (λ h7=>?_)));refine J1 ?_;refine k_rv Tryz.results70 (λ w hw=>?_);exact⟨x7,by simp only[Nat.zero_add];rfl,trivial,by simpa using hw.finH (F':=[]) (H':=[])⟩
end
section
variable{w:World}{D:List Nat}{b:Nat}{L:List NdV}{cs:List Int}{gen acc:Int}{pn pc:Option Addr}{cn cc:Nat}{A:Fr}
end
end Go.Proofs.YtdnklbipddigbaaGreat
namespace Go.Ct
section
def cellK(n:Nd):Option Int:=if n.kind=2 then some n.main else if n.kind=3∨n.kind=5∨n.kind=6 then some n.prev else if n.kind=8 then some n.status else none
def markS(u:Option (List Bool))(n:Nd):Option (List Bool) :=
 match u with
 | none=>none
 | some u=>match cellK n with
  | none=>some u
  | some c=>if 1<=c/\c<=u.length/\u.getD (c-1).toNat false=false then some (u.set (c-1).toNat true) else none
def marks(m:Nat)(L:List NdV):Option (List Bool):=L.foldl (λ u v=>markS u v.nd) (some (List.replicate m false))
theorem marks_take{m:Nat}{L:List NdV}{k:Nat}(h:k<L.length):marks m (L.take (k+1))=markS (marks m (L.take k)) (L.getD k NdV.zero).nd:=by rw[marks,List.take_succ_eq_append_getElem h,List.foldl_append,gdg,List.getElem?_eq_getElem h];rfl
theorem marks_none{m:Nat}{L:List NdV}{k:Nat}(h:marks m (L.take k)=none):marks m L=none:=by
 have e:L=L.take k++L.drop k:=(List.take_append_drop k L).symm;rw[e,marks,List.foldl_append];rw[marks] at h;rw[h];generalize L.drop k=l;induction l with
 | nil=>rfl
 | cons v l ih=>exact ih
theorem marks_len{m:Nat}:∀{L:List NdV} {u:List Bool},marks m L=some u->u.length=m:=by
 intro L;have key:∀(l:List NdV) (u0:Option (List Bool)),(∀u,u0=some u->u.length=m)->∀u,l.foldl (λ u v=>markS u v.nd) u0=some u->u.length=m:=by
  intro l;induction l with
  | nil=>intro u0 h u hu;exact h u hu
  | cons v l ih=>
   intro u0 h u hu;refine ih (markS u0 v.nd) (λ u1 h1=>?_) u hu;cases u0 with
   | none=>simp[markS] at h1
   | some u2=>
    have:=h u2 rfl;simp only[markS] at h1;cases hc:cellK v.nd with
    | none=>rw[hc] at h1;simp only[Option.some.injEq] at h1;rw[<- h1];exact this
    | some c=>
     rw[hc] at h1;simp only at h1;split at h1;·simp only[Option.some.injEq] at h1;rw[<- h1,List.length_set];exact this
     ·cases h1
 intro u hu;exact key L _ (λ u h=>by simp only[Option.some.injEq] at h;rw[<- h];simp) u hu
def Ins(r:Int)(n:Nat):Prop:=0<=r/\r<=(n:Int)
instance (r:Int) (n:Nat):Decidable (Ins r n):=inferInstanceAs (Decidable (0<=r/\r<=(n:Int)))
theorem ins_le{r:Int}{n:Nat}(h:0<=r):decide (Ins r n)=decide (r<=(n:Int)):=by
 by_cases h2:r<=(n:Int);·rw[decide_eq_true h2,decide_eq_true ⟨h,h2⟩]
 ·rw[decide_eq_false h2,decide_eq_false λ h3=>h2 h3.2]
def RefsIn(n:Nd)(xs:List Int)(N:Nat):Prop:=(∀i,i<xs.length->Ins (xs.getD i 0) N)/\Ins n.old N/\Ins n.exp N/\Ins n.new N
def NdOk(gen:Int)(N:Nat)(v:NdV):Prop:=NdValid v.nd v.xs v.ys/\v.nd.gen<=gen/\RefsIn v.nd v.xs N
structure Proper(L:List NdV)(cs:List Int)(gen:Int):Prop where
 two:2<=L.length
 gen0:0<=gen
 m0:(L.getD 0 NdV.zero).nd.kind=1
 m1:(L.getD 1 NdV.zero).nd.kind=1
 cells:∀i,i<cs.length->Ins (cs.getD i 0) L.length
 nodes:∀i,i<L.length->NdOk gen L.length (L.getD i NdV.zero)
 marks:marks cs.length L≠none
end
end Go.Ct
namespace Go.Proofs.YtdnklbipddigbaaGreat
open Go.RowKit Go.Ct
section
theorem inside_c(r:Int)(n:Nat)(w:World):Calls Tryz.prog 143 #[.int .i64 r,.int .i64 ((n:Nat):Int)] w λ e w'=>e=.returned (.bool (decide (Ins r n)))/\St w [] [] w':=by
 refine enter Tryz.func143 Tryz.ntmps143 rfl rfl (SF.s0 w) ?_;simp only[mkS];refine J10 ?_;refine J2 ?_;refine j_geq ?_;refine j_move ?_;(refine lcs 7 (λ g7=>?_) (λ g7=>?_)<;>refine Ka0 ?_);all_goals (refine Ka0 ?_;(first|refine j_un ?_|(refine j_yes ?_;refine j_leq ?_));refine Kc6 ?_)
 all_goals
 refine k_rv Tryz.results143 (λ w hw=>?_);refine⟨?_,hw.done⟩;first|(rw[decide_eq_false (show ¬Ins r n from λ h=>by have:=h.1;have:=h.2;omega)];rfl)|(rw[ins_le (by omega)];rfl)
theorem properRefs_c{n:Nd}{xs:List Int}{N:Nat}{w:World}(e1:n.brN=xs.length)(ha:Cl w n.brA (refsC xs))(hx:xs.length<4611686018427387904) :
  Calls Tryz.prog 145 #[n.v,.int .i64 ((N:Nat):Int)] w λ e w'=>∃r:Bool,e=.returned (.bool r)/\(r=true↔RefsIn n xs N)/\St w [] [] w':=by
 refine enter Tryz.func145 Tryz.ntmps145 rfl rfl (SF.s1 ha) ?_;simp only[mkS];simp only[Nd.v,Nd.cells,e1];refine J0 ?_;refine j_box (λ x2=>?_);refine J27 ?_;refine J24 ?_;refine Kc7 ?_;refine k_lp [4,6,10,11,12,13,14,15,16,17,18] (λ k=>[(10,.int .i64 ((k:Nat):Int))]) (λ k=>k<=xs.length/\∀i,i<k->Ins (xs.getD i 0) N) (λ k=>_) (λ _=>_) (λ _=>_) (λ k=>xs.length-k) (0) (⟨Nat.zero_le _,λ i hi=>absurd hi (Nat.not_lt_zero i)⟩) (λ k f hx=>?_);dsimp only[mkU,List.map,List.cons_append,List.nil_append];refine Ke2 ?_;refine kif (λ c11=>?_) (λ c11=>?_)
 ·refine Kf4 ?_;refine J53 ?_;refine J73 ?_;refine j_own (cV (hc:=λ w1 hw=>inside_c _ N w1)) (λ x16=>?_);refine J33 ?_;refine kif (λ c17=>?_) (λ c17=>?_);·refine J10 ?_;refine k_rv Tryz.results145 (λ w hw=>?_);exact⟨false,rfl,⟨(λ h=>nomatch h),λ h=>absurd (h.1 k (by omega)) (by assumption)⟩,hw.done⟩
  ·refine J34 ?_;refine Kb6 ?_;refine k_rd (k+1) ?_;·exact⟨by omega,λ i hi=>by rcases Nat.lt_succ_iff_lt_or_eq.1 hi with h|rfl;exact hx.2 i h;assumption⟩
 ·refine k_exit rfl ?_;refine Kc4 ?_;refine j_own (cV (hc:=λ w1 hw=>inside_c _ N w1)) (λ x22=>?_);refine j_move ?_;(refine lcs 23 (λ g23=>?_) (λ g23=>?_)<;>refine Ka1 ?_);all_goals (refine J29 ?_;(first|refine j_un ?_|(refine j_yes ?_;refine j_own (cV (hc:=λ w1 hw=>inside_c _ N w1)) (λ x27=>?_)));refine Ka4 ?_)
  all_goals (first|refine j_un ?_|(refine lcs 29 (λ g29=>?_) (λ g29=>?_)<;>refine Ka1 ?_))
  all_goals (refine J29 ?_;(first|refine j_un ?_|(refine j_yes ?_;refine j_own (cV (hc:=λ w1 hw=>inside_c _ N w1)) (λ x33=>?_)));refine Kc6 ?_)
  all_goals
  refine k_rv Tryz.results145 (λ w hw=>?_);have hall:∀i,i<xs.length->Ins (xs.getD i 0) N:=λ i hi=>hx.2 i (by omega)
  first|exact⟨_,rfl,by simp_all[RefsIn],hw.done⟩
theorem cellOf_c(n:Nd)(w:World):Calls Tryz.prog 146 #[n.v] w λ e w'=>e=.returned (.tuple #[.int .i64 ((cellK n).getD 0),.bool (cellK n).isSome])/\St w [] [] w':=by
 refine enter Tryz.func146 Tryz.ntmps146 rfl rfl (SF.s0 w) ?_;simp only[mkS];simp only[Nd.v,Nd.cells];refine J0 ?_;refine j_box (λ x1=>?_);refine J8 ?_;refine J62 ?_;refine J24 ?_;refine J28 ?_;refine kif (λ c4=>?_) (λ c4=>?_);·refine J24 ?_;refine J8 ?_;refine k_rt Tryz.results146 (λ w hw=>?_);refine⟨?_,hw.done⟩;(rw[show cellK n=some n.main by simp[cellK,c4]];rfl)
 ·refine J25 ?_;refine j_ownF (c0 (V:=.bool) (hc:=λ w1 hw=>main_c n w1)) (λ x12 h12=>?_);refine J1 ?_;refine kif (λ c10=>?_) (λ c10=>?_);·have k22:n.kind=3∨n.kind=5∨n.kind=6:=h12.1 c10;refine J24 ?_;refine J8 ?_;refine k_rt Tryz.results146 (λ w hw=>?_);refine⟨?_,hw.done⟩;(rw[show cellK n=some n.prev by simp only[cellK];rw[if_neg c4,if_pos k22]];rfl)
  ·have k22:¬(n.kind=3∨n.kind=5∨n.kind=6):=λ k=>by rw[h12.2 k] at c10;cases c10
   refine J24 ?_;refine J28 ?_;refine kif (λ c15=>?_) (λ c15=>?_);·refine J24 ?_;refine J8 ?_;refine k_rt Tryz.results146 (λ w hw=>?_);refine⟨?_,hw.done⟩;(rw[show cellK n=some n.status by simp only[cellK];rw[if_neg c4,if_neg k22,if_pos c15]];rfl)
   ·refine J34 ?_;refine J66 ?_;refine k_rt Tryz.results146 (λ w hw=>?_);refine⟨?_,hw.done⟩;(rw[show cellK n=none by simp only[cellK];rw[if_neg c4,if_neg k22,if_neg c15]];rfl)
end
section
set_option maxRecDepth 100000 in
theorem proper_c{L:List NdV}{cs:List Int}{gen:Int}{pn pc:Option Addr}{cn cc:Nat}{w:World}(h:StAt w L cs pn pc)(hL:L.length<=274877906944)(hC:cs.length<=274877906944) :
    Calls Tryz.prog 97 #[.agg ⟨[.slice pn L.length cn,.slice pc cs.length cc,.int .i64 gen]⟩] w λ e w'=>∃r:Bool,e=.returned (.bool r)/\(r=true↔Proper L cs gen)/\St w [] [] w':=by
     refine enter Tryz.func97 Tryz.ntmps97 rfl rfl h.start ?_;simp only[mkS];refine J0 ?_;refine j_box (λ x1=>?_);refine J27 ?_;refine J24 ?_;refine j_len ?_;refine J64 ?_;(refine lcs 14 (λ g14=>?_) (λ g14=>?_)<;>refine Ka1 ?_);all_goals (refine J89 ?_;refine l_nil ?_)
     all_goals
      refine kif (λ c18=>?_) (λ c18=>?_)
      ·all_goals refine J10 ?_
       all_goals refine k_rv Tryz.results97 (λ w hw=>?_);exact⟨false,rfl,⟨(λ h=>nomatch h),λ hp=>by have h1:=hp.two;have h2:=hp.gen0;exfalso;omega⟩,hw.done⟩
      ·try exact nv c18
       all_goals (refine J16 ?_;refine J24 ?_;refine l_quiet (o_indexV (k:=0) rf rf sl1 ag1 fin (by omega) (by omega)) rfl ?_;refine j_fieldAddr ?_;refine l_quiet (o_loadV0 (q:=0) rf on1 fin (by omega)) rfl ?_;refine j_neq ?_;refine j_move ?_)
       all_goals ((refine lcs 25 (λ g25=>?_) (λ g25=>?_)<;>refine Ka1 ?_))
       all_goals (refine Ka2 ?_;(first|refine j_un ?_|(refine j_yes ?_;refine l_quiet (o_indexV (k:=1) rf rf sl1 ag1 fin (by omega) (by omega)) rfl ?_));refine Ka1 ?_;(first|refine j_un ?_|(refine j_yes ?_;refine l_quiet (o_loadV0 (q:=1) rf on1 fin (by omega)) rfl ?_));refine J38 ?_;refine l_nil ?_)
       all_goals
        refine kif (λ c32=>?_) (λ c32=>?_)
        ·all_goals refine J10 ?_
         all_goals refine k_rv Tryz.results97 (λ w hw=>?_);exact⟨false,rfl,⟨(λ h=>nomatch h),λ hp=>by have h1:=hp.m0;have h2:=hp.m1;exfalso;omega⟩,hw.done⟩
        ·try exact nv c32
         all_goals (refine J16 ?_;refine J24 ?_;refine Kc7 ?_)
         all_goals
          refine k_loopC [2,4,36,37,38,39,40,41,42,43,44,45,46] (λ k=>[(36,.int .i64 ((k:Nat):Int))]) (λ k=>k<=cs.length/\∀i,i<k->Ins (cs.getD i 0) L.length) (λ k=>cs.length-k) (0) (⟨Nat.zero_le _,λ i hi=>absurd hi (Nat.not_lt_zero i)⟩) ?_ (λ k f hx=>?_);·repeat (first|exact knows_nil _|refine knows_cons (by exact rfl) ?_)
          dsimp only[mkU,List.map,List.cons_append,List.nil_append];refine Ke2 ?_;refine kif (λ c37=>?_) (λ c37=>?_)
          ·refine Kf4 ?_;refine J53 ?_;refine Ka7 ?_;refine J85 ?_;refine j_own (cV (hc:=λ w1 hw=>inside_c _ _ w1)) (λ x44=>?_);refine J33 ?_;refine kif (λ c45=>?_) (λ c45=>?_);·refine J10 ?_;refine k_rv Tryz.results97 (λ w hw=>?_);exact⟨false,rfl,⟨(λ h=>nomatch h),λ hp=>absurd (hp.cells k (by omega)) (by assumption)⟩,hw.done⟩
           ·refine J34 ?_;refine Kb6 ?_;refine k_roundC (k+1) ?_ ?_ ?_;·omega
            ·repeat' (first|exact knows_nil _|refine knows_cons ?_ ?_)
             exact rfl
            ·exact⟨by omega,λ i hi=>by rcases Nat.lt_succ_iff_lt_or_eq.1 hi with h|rfl;exact hx.2 i h;assumption⟩
          ·refine k_exit rfl ?_;refine J24 ?_;refine j_len ?_;refine j_makeSlice (λ x50=>?_);refine J27 ?_;refine J24 ?_;refine Kc7 ?_;have hcells:∀i,i<cs.length->Ins (cs.getD i 0) L.length:=λ i hi=>hx.2 i (by omega)
           clear hx;refine k_lp [2,7,8,9,54,55,56,57,58,59,60,61,62,63,64,65,66,67,68,69,70,71,72,73,74,75,76,77,78,79,80,81,82,83,84,85,86,87,88,89,90,91,92,93,94,95,96,97,98,99,100,101,102,103] (λ y:Nat×List Bool=>[(54,.int .i64 ((y.1:Nat):Int))]) (λ y=>y.1<=L.length/\marks cs.length (L.take y.1)=some y.2/\∀i,i<y.1->NdOk gen L.length (L.getD i NdV.zero)) (λ _=>_) (λ _=>_) (λ y=>[⟨some ⟨x50,0,none⟩,boolsC y.2,cs.length,4,1⟩]) (λ y=>L.length-y.1) ((0,List.replicate cs.length false)) (⟨Nat.zero_le _,rfl,λ i hi=>absurd hi (Nat.not_lt_zero i)⟩) (λ y f hx=>?_);dsimp only[mkU,List.map,List.cons_append,List.nil_append];have hu:=marks_len hx.2.1;refine Ke2 ?_;refine kif (λ c55=>?_) (λ c55=>?_)
           ·refine Kf4 ?_;refine J53 ?_;refine j_alloc (λ x7=>?_);refine J5 ?_;refine k_seq ?_;refine J25 ?_;refine j_ownF (c0 (V:=.bool) (hc:=λ w1 hw=>ndValid_c (hw.repA h.fit (by omega)))) (λ x59 h59=>?_);refine J59 ?_;(refine lcs 61 (λ g61=>?_) (λ g61=>?_)<;>refine Ka1 ?_);all_goals (refine J21 ?_;refine Ke7 ?_)
            all_goals (first|refine j_un ?_|(refine lcs 68 (λ g68=>?_) (λ g68=>?_)<;>refine Ka2 ?_))
            all_goals (refine J43 ?_;(first|refine j_un ?_|(refine j_yes ?_;refine j_ownF (c0 (V:=.bool) (hc:=λ w1 hw=>properRefs_c (hw.repA h.fit (by omega)).brN (hw.repA h.fit (by omega)).br (hw.repA h.fit (by omega)).brS)) (λ x73 h73=>?_)));refine Kd3 ?_)
            all_goals
             refine kif (λ c75=>?_) (λ c75=>?_)
             ·all_goals refine J10 ?_
              all_goals refine k_rv Tryz.results97 (λ w hw=>?_);refine⟨false,rfl,⟨(λ h=>nomatch h),λ hp=>?_⟩,hw.done⟩;obtain⟨q1,q2,q3⟩:=hp.nodes y.1 (by omega);first|(exfalso;omega)|(have:=h59.2 q1;simp_all;done) 
             ·try exact nv c75
              all_goals have hok:NdOk gen L.length (L.getD y.1 NdV.zero):=⟨h59.1 (by simp_all),by omega,h73.1 (by simp_all)⟩
              all_goals (refine Kc5 ?_;refine j_own (cV (hc:=λ w1 hw=>cellOf_c (L.getD y.1 NdV.zero).nd w1)) (λ x78=>?_);refine Kb9 ?_;refine J33 ?_)
              all_goals
               refine kif (λ c82=>?_) (λ c82=>?_)
               ·have hmk:markS (some y.2) (L.getD y.1 NdV.zero).nd=some y.2:=by
                 have e:cellK (L.getD y.1 NdV.zero).nd=none:=by cases hq:cellK (L.getD y.1 NdV.zero).nd<;>simp_all
                 simp only[markS,e]
                refine k_exit rfl ?_;refine Kb6 ?_;refine k_rd ((y.1+1,(markS (some y.2) (L.getD y.1 NdV.zero).nd).getD y.2)) ?_ (hw1:=λ w hw=>by rw[hmk];exact hw.back)
                ·refine⟨by omega,by rw[marks_take (by omega),hx.2.1,hmk];rfl,λ i hi=>?_⟩;rcases Nat.lt_succ_iff_lt_or_eq.1 hi with h|rfl;·exact hx.2.2 i h
                 ·exact hok
               ·obtain⟨c,hc⟩:∃c,cellK (L.getD y.1 NdV.zero).nd=some c:=Option.isSome_iff_exists.1 c82;rw[hc,Option.getD_some];refine J16 ?_;refine J2 ?_;refine J64 ?_;(refine lcs 85 (λ g85=>?_) (λ g85=>?_)<;>refine Ka0 ?_);all_goals (refine J43 ?_;refine Ke7 ?_)
                all_goals (first|refine j_un ?_|(refine lcs 92 (λ g92=>?_) (λ g92=>?_)<;>refine Ka0 ?_))
                all_goals (refine Ka0 ?_;(first|refine j_un ?_|(refine j_yes ?_;refine l_quiet (o_decT rf rf (by omega) (by omega)) rfl ?_));(first|refine j_un ?_|(refine j_yes ?_;refine l_quiet (o_indexB rf rf sl1 on1 fin (by omega) (by omega)) rfl ?_));(first|refine j_un ?_|(refine j_yes ?_;refine l_quiet (o_loadB rf on1 fin (by omega)) rfl ?_));refine Ke8 ?_)
                all_goals
                 refine kif (λ c98=>?_) (λ c98=>?_)
                 ·all_goals refine J10 ?_
                  all_goals
                   refine k_rv Tryz.results97 (λ w hw=>?_);refine⟨false,rfl,⟨(λ h=>nomatch h),λ hp=>?_⟩,hw.done⟩;have hm:marks cs.length (L.take (y.1+1))=none:=by rw[marks_take (by omega),hx.2.1];simp only[markS,hc];refine if_neg λ hh=>?_;obtain⟨q1,q2,q3⟩:=hh;first|(exfalso;omega)|(exfalso;rw[q3] at c98;cases c98)
                   exact absurd (marks_none hm) hp.marks
                 ·try exact nv c98
                  all_goals have hmk:markS (some y.2) (L.getD y.1 NdV.zero).nd=some (y.2.set (c-1).toNat true):=by simp only[markS,hc];rw[if_pos ⟨by omega,by omega,c98⟩]
                  all_goals (refine k_skip ?_;refine J76 ?_;refine l_quiet (o_decT rf rf (by omega) (by omega)) rfl ?_;refine l_quiet (o_indexB rf rf sl1 on1 fin (by omega) (by omega)) rfl ?_;refine J5 ?_;refine k_blk ?_;refine Kb6 ?_)
                  all_goals
                   refine k_rd ((y.1+1,(markS (some y.2) (L.getD y.1 NdV.zero).nd).getD y.2)) ?_ (hw1:=λ w hw=>by rw[hmk];exact hw.back)
                   ·refine⟨by omega,by rw[marks_take (by omega),hx.2.1,hmk];rfl,λ i hi=>?_⟩;rcases Nat.lt_succ_iff_lt_or_eq.1 hi with h|rfl;·exact hx.2.2 i h
                    ·exact hok
           ·refine k_exit rfl ?_;refine J10 ?_;refine k_rv Tryz.results97 (λ w hw=>?_);have hy:y.1=L.length:=by omega
            have hmm:marks cs.length L=some y.2:=by have:=hx.2.1;rwa [hy,List.take_length] at this
            exact⟨true,rfl,⟨λ _=>⟨by omega,by omega,by omega,by omega,hcells,λ i hi=>hx.2.2 i (by omega),by rw[hmm];exact λ h=>nomatch h⟩,λ _=>rfl⟩,hw.done⟩
end
end Go.Proofs.YtdnklbipddigbaaGreat

/- A node out of a tape. -/
import Derived.Test.YtmogngagpphnhaaTape2
set_option linter.unusedSimpArgs false
set_option linter.unusedVariables false
namespace Go.Proofs.Ytmogngagpphnhaa
open Go.RowKit Go.Ct

theorem gen_inner {refs v : Int} (h0 : 0 ≤ v) (h3 : v < 3) (hr : 0 ≤ refs) : GenNode refs ({ Nd.zero with kind := 2, gen := 1 + v } : Nd) [] [] :=
  ⟨⟨by simp [NdEq, Nd.own, Nd.xsOwn, Nd.ysOwn], by simp [Nd.zero], by simp [Nd.zero], by simp [Nd.zero], .inr (.inl ⟨rfl, by simp; omega⟩)⟩, rfl, rfl, Nat.le_refl _, Nat.le_refl _, ⟨0, rfl, by decide⟩, by decide, by decide, Nat.zero_le 4, ⟨rfl, rfl, rfl⟩, ⟨by simp; omega, by simp; omega⟩, .inl rfl, by simp, by simp [Nd.zero], by simp [Nd.zero]; omega, by simp [Nd.zero], by simp [Nd.zero]; omega, by simp [Nd.zero], by simp [Nd.zero]; omega⟩
theorem gen_leaf {refs h v kd : Int} {key : ByteArray} (hk : kd = 4 ∨ kd = 5) (hs : key.size ≤ 3) (hr : 0 ≤ refs) : GenNode refs ({ Nd.zero with kind := kd, hash := h, key := key, val := v } : Nd) [] [] := by
  rcases hk with rfl | rfl
  · exact ⟨⟨by simp [NdEq, Nd.own, Nd.xsOwn, Nd.ysOwn], by simp [Nd.zero], by simp [Nd.zero], by simp [Nd.zero], .inr (.inr (.inr (.inl ⟨.inl rfl, by simp; omega⟩)))⟩, rfl, rfl, Nat.le_refl _, Nat.le_refl _, ⟨0, rfl, by decide⟩, by decide, by decide, by simp; omega, ⟨rfl, rfl, rfl⟩, by simp [Nd.zero], by simp, by simp, by simp [Nd.zero], by simp [Nd.zero]; omega, by simp [Nd.zero], by simp [Nd.zero]; omega, by simp [Nd.zero], by simp [Nd.zero]; omega⟩
  · exact ⟨⟨by simp [NdEq, Nd.own, Nd.xsOwn, Nd.ysOwn], by simp [Nd.zero], by simp [Nd.zero], by simp [Nd.zero], .inr (.inr (.inr (.inl ⟨.inr rfl, by simp; omega⟩)))⟩, rfl, rfl, Nat.le_refl _, Nat.le_refl _, ⟨0, rfl, by decide⟩, by decide, by decide, by simp; omega, ⟨rfl, rfl, rfl⟩, by simp [Nd.zero], by simp, by simp, by simp [Nd.zero], by simp [Nd.zero]; omega, by simp [Nd.zero], by simp [Nd.zero]; omega, by simp [Nd.zero], by simp [Nd.zero]; omega⟩
theorem gen_desc {refs a b c : Int} (ha : 1 ≤ a ∧ a ≤ refs) (hb : 1 ≤ b ∧ b ≤ refs) (hc : 1 ≤ c ∧ c ≤ refs) : GenNode refs ({ Nd.zero with kind := 8, old := a, exp := b, new := c } : Nd) [] [] :=
  ⟨⟨by simp [NdEq, Nd.own, Nd.xsOwn, Nd.ysOwn], by simp [Nd.zero], by simp [Nd.zero], by simp [Nd.zero], .inr (.inr (.inr (.inr (.inr (.inl ⟨rfl, by simp; omega⟩)))))⟩, rfl, rfl, Nat.le_refl _, Nat.le_refl _, ⟨0, rfl, by decide⟩, by decide, by decide, Nat.zero_le 4, ⟨rfl, rfl, rfl⟩, by simp [Nd.zero], by simp, by simp, by simp; omega, by simp; omega, by simp; omega, by simp; omega, by simp; omega, by simp; omega⟩
def bz (key : ByteArray) : ByteArray := ⟨#[98]⟩ ++ key
theorem bz_size (key : ByteArray) : (bz key).size = 1 + key.size := by unfold bz; rw [ByteArray.size_append]; rfl
theorem sless_ab (key : ByteArray) : sless ⟨#[97]⟩ (bz key) = true := by
  unfold sless bz
  have : ((⟨#[98]⟩ : ByteArray) ++ key).toList = 98 :: key.toList := by simp [ByteArray.toList_eq]
  rw [this]
  have h2 : (⟨#[97]⟩ : ByteArray).toList = [97] := by simp [ByteArray.toList_eq]
  rw [h2]
  simp [Op.bytesLess]
def lst2 (u : Int) (key : ByteArray) : List Pr := [(⟨#[97]⟩, u), (bz key, 2)]
theorem gen_list {refs h u : Int} {key : ByteArray} {p : Option Addr} (hs : key.size ≤ 3) (hr : 0 ≤ refs) : GenNode refs ({ Nd.zero with kind := 6, hash := h, prA := p, prN := 2, prC := 2 } : Nd) [] (lst2 u key) := by
  have hz := bz_size key
  refine ⟨⟨by simp [NdEq, Nd.own, Nd.xsOwn, Nd.ysOwn], by simp [Nd.zero], by simp [Nd.zero], by simp [Nd.zero], .inr (.inr (.inr (.inr (.inl ⟨rfl, by simp [lst2], fun i h1 hi => ?_, fun i hi => ?_⟩))))⟩, rfl, rfl, Nat.le_refl _, Nat.le_refl _, ⟨0, rfl, by decide⟩, by decide, by simp [lst2], Nat.zero_le 4, ⟨rfl, rfl, rfl⟩, by simp [Nd.zero], by simp, by simp, by simp [Nd.zero], by simp [Nd.zero]; omega, by simp [Nd.zero], by simp [Nd.zero]; omega, by simp [Nd.zero], by simp [Nd.zero]; omega⟩
  · have : i = 1 := by simp [lst2] at hi; omega
    subst this
    exact sless_ab key
  · have : i = 0 ∨ i = 1 := by simp [lst2] at hi; omega
    rcases this with rfl | rfl
    · show (1 : Nat) ≤ 64; decide
    · show (bz key).size ≤ 64; omega
theorem gen_c {refs : Int} {b : Nat} {xs : List Int} {p : Option Addr} {c : Nat} (hb : b < 18446744073709551616) (hl : xs.length = cnt b 64) (hc : xs.length ≤ c) (hx : ∀ r ∈ xs, 1 ≤ r ∧ r ≤ refs) (hr : 0 ≤ refs) : GenNode refs ({ Nd.zero with kind := 3, bm := (b : Int), brA := p, brN := xs.length, brC := c } : Nd) xs [] := by
  have h64 := cnt_le b 64
  exact ⟨⟨by simp [NdEq, Nd.own, Nd.xsOwn, Nd.ysOwn], by simp [Nd.zero], by simp [Nd.zero], by simp [Nd.zero], .inr (.inr (.inl ⟨rfl, by show (xs.length : Int) = rOnes (b : Int); rw [rOnes_cnt hb, hl], fun i hi => (hx _ (by simp [List.getD, hi])).1⟩))⟩, rfl, rfl, hc, Nat.le_refl _, ⟨b, rfl, hb⟩, by omega, by decide, Nat.zero_le 4, ⟨rfl, rfl, rfl⟩, by simp [Nd.zero], by simp, hx, by simp [Nd.zero], by simp [Nd.zero]; omega, by simp [Nd.zero], by simp [Nd.zero]; omega, by simp [Nd.zero], by simp [Nd.zero]; omega⟩
theorem cnt_or {b k : Nat} (hb : b < 18446744073709551616) (hk : k < 64) : b ||| 2 ^ k < 18446744073709551616 := by
  have hp := Nat.pow_lt_pow_right (a := 2) (by decide) hk
  exact Nat.or_lt_two_pow (n := 64) hb hp
theorem raw_pred {b : Nat} (hb : b < 18446744073709551616) (h0 : 0 < b) : rAnd .u64 (b : Int) (IntKind.u64.wrap ((b : Int) - 1)) = ((b &&& (b - 1) : Nat) : Int) := by
  have e : (b : Int) - 1 = ((b - 1 : Nat) : Int) := by omega
  rw [e, wrap_u64n (by omega), rAnd_nat hb (by omega)]
theorem tnode_c {l : List Int} {a : Option Addr} {b c k : Nat} {w : World} (refs : Int) (ht : TpAt w b a l c k) (h0 : 0 < refs) (h1 : refs ≤ 1073741824) :
    Calls Try.prog 32 #[.pointer (some ⟨b, 0, none⟩), .int .i64 refs] w fun e w' =>
    ∃ x : Nd × List Int × List Pr × Nat, e = .returned ({ x.1 with brN := x.2.1.length, prN := x.2.2.1.length } : Nd).v ∧ GenNode refs x.1 x.2.1 x.2.2.1 ∧ SF w [b] ((b, tpO a l c x.2.2.2) :: []) [] [(x.1.brA, refsC x.2.1), (x.1.prA, prC x.2.2.1)] [] w' := by
  refine enter Try.func32 Try.ntmps32 rfl rfl ht.start ?_
  simp only [mkS]
  all_goals (refine k_seq ?_)
  all_goals refine k_region ?_
  all_goals refine j_alloc (fun x4 => ?_)
  all_goals refine l_nil ?_
  all_goals (refine k_seq ?_)
  all_goals (refine k_seq ?_)
  all_goals refine k_region ?_
  all_goals refine j_move ?_
  all_goals (refine j_own (cF1 (hc := fun w1 hw => next_c _ (hw.tape (by repeat (first | exact At.head | apply At.tail)) (by first | exact .new .head | exact .new (.tail .head) | exact .new (.tail (.tail .head)) | exact .new (.tail (.tail (.tail .head))) | exact .new (.tail (.tail (.tail (.tail .head)))) | exact .new (.tail (.tail (.tail (.tail (.tail .head))))) | exact .new (.tail (.tail (.tail (.tail (.tail (.tail .head)))))) | exact .new (.tail (.tail (.tail (.tail (.tail (.tail (.tail .head))))))) | exact .new (.tail (.tail (.tail (.tail (.tail (.tail (.tail (.tail .head)))))))) | exact .new (.tail (.tail (.tail (.tail (.tail (.tail (.tail (.tail (.tail .head))))))))) | exact .old .head | exact .old (.tail .head) | exact .old (.tail (.tail .head)) | exact .old (.tail (.tail (.tail .head))) | exact .old (.tail (.tail (.tail (.tail .head)))) | exact .old (.tail (.tail (.tail (.tail (.tail .head))))) | exact .own .head | exact .own (.tail .head) | exact .own (.tail (.tail .head)) | exact .own (.tail (.tail (.tail .head))) | exact .own (.tail (.tail (.tail (.tail .head)))) | exact .own (.tail (.tail (.tail (.tail (.tail .head))))) | exact .own (.tail (.tail (.tail (.tail (.tail (.tail .head)))))) | exact .own (.tail (.tail (.tail (.tail (.tail (.tail (.tail .head)))))))) ht.len) (by first | decide | omega) (by first | decide | omega))) (fun x9 => ?_); try (refine l_fact (fun h9 => ?_)))
  all_goals refine l_nil ?_
  all_goals (refine k_block ?_)
  all_goals (refine k_seq ?_)
  all_goals refine k_region ?_
  all_goals refine j_eql ?_
  all_goals refine j_assignL (fun _ => ?_)
  all_goals refine l_nil ?_
  all_goals
    refine k_cond (by exact rfl) (fun c10 => ?_) (fun c10 => ?_)
    · try (exact absurd c10 (by decide))
      all_goals (revert c10; (first | refine cv1 ?_ | refine cv3 ?_ | refine cv5 ?_ | refine cv7 ?_ | refine cv9 ?_ | refine cvb ?_ | refine cvd ?_ | skip); intro c10)
      all_goals (refine k_seq ?_)
      all_goals refine k_region ?_
      all_goals refine j_move ?_
      all_goals (refine j_own (cF1 (hc := fun w1 hw => next_c _ (hw.tape (by repeat (first | exact At.head | apply At.tail)) (by first | exact .new .head | exact .new (.tail .head) | exact .new (.tail (.tail .head)) | exact .new (.tail (.tail (.tail .head))) | exact .new (.tail (.tail (.tail (.tail .head)))) | exact .new (.tail (.tail (.tail (.tail (.tail .head))))) | exact .new (.tail (.tail (.tail (.tail (.tail (.tail .head)))))) | exact .new (.tail (.tail (.tail (.tail (.tail (.tail (.tail .head))))))) | exact .new (.tail (.tail (.tail (.tail (.tail (.tail (.tail (.tail .head)))))))) | exact .new (.tail (.tail (.tail (.tail (.tail (.tail (.tail (.tail (.tail .head))))))))) | exact .old .head | exact .old (.tail .head) | exact .old (.tail (.tail .head)) | exact .old (.tail (.tail (.tail .head))) | exact .old (.tail (.tail (.tail (.tail .head)))) | exact .old (.tail (.tail (.tail (.tail (.tail .head))))) | exact .own .head | exact .own (.tail .head) | exact .own (.tail (.tail .head)) | exact .own (.tail (.tail (.tail .head))) | exact .own (.tail (.tail (.tail (.tail .head)))) | exact .own (.tail (.tail (.tail (.tail (.tail .head))))) | exact .own (.tail (.tail (.tail (.tail (.tail (.tail .head)))))) | exact .own (.tail (.tail (.tail (.tail (.tail (.tail (.tail .head)))))))) ht.len) (by first | decide | omega) (by first | decide | omega))) (fun x13 => ?_); try (refine l_fact (fun h13 => ?_)))
      all_goals refine j_add ?_
      all_goals refine j_build ?_
      all_goals refine j_store (fun _ => ?_)
      all_goals refine l_nil ?_
      all_goals
        refine k_retvF Try.results32 (.cell (by exact rfl) (by repeat (first | exact At.head | apply At.tail)) (by exact agg_of rfl) .nil) (fun w hw => ?_)
        first | exact ⟨({ Nd.zero with kind := 2, gen := 1 + (x13 : Int) }, [], [], tiN l (tiN l k)), rfl, gen_inner (by omega) (by omega) (by omega), ((hw.fnil none).fnil none).finH⟩ | exact ⟨({ Nd.zero with kind := 5, hash := x54, key := keys8.getD x57 ⟨#[]⟩, val := x59 }, [], [], tiN l (tiN l (tiN l (tiN l k)))), rfl, gen_leaf (.inr rfl) (keys8_size _) (by omega), ((hw.fnil none).fnil none).finH⟩ | exact ⟨({ Nd.zero with kind := 6, hash := x65, prA := some ⟨x75, 0, none⟩, prN := 2, prC := 2 }, [], lst2 (x68 : Int) (keys8.getD x72 ⟨#[]⟩), tiN l (tiN l (tiN l (tiN l k)))), rfl, gen_list (keys8_size _) (by omega), (hw.fnil none).finH⟩ | exact ⟨({ Nd.zero with kind := 8, old := 1 + (x81 : Int), exp := 1 + (x84 : Int), new := 1 + (x87 : Int) }, [], [], tiN l (tiN l (tiN l (tiN l k)))), rfl, gen_desc (by omega) (by omega) (by omega), ((hw.fnil none).fnil none).finH⟩ | exact ⟨({ Nd.zero with kind := 4, hash := x90, key := keys8.getD x93 ⟨#[]⟩, val := x95 }, [], [], tiN l (tiN l (tiN l (tiN l k)))), rfl, gen_leaf (.inl rfl) (keys8_size _) (by omega), ((hw.fnil none).fnil none).finH⟩ | exact ⟨({ Nd.zero with kind := 3, bm := ((x.2.1 : Nat) : Int), brA := y.2.1, brN := y.2.2.1.length, brC := y.2.2.2.1 }, y.2.2.1, [], y.2.2.2.2), rfl, gen_c hxb (by rw [show y.1 = 0 by omega, cnt_zero] at hy2; omega) hy3 hy4 (by omega), ((hw.freeze .head (by simp)).fnil none).finH⟩
    · try (exact absurd c10 (by decide))
      all_goals (revert c10; (first | refine cv2 ?_ | refine cv4 ?_ | refine cv6 ?_ | refine cv8 ?_ | refine cva ?_ | refine cvc ?_ | refine cve ?_ | skip); intro c10)
      all_goals (refine k_seq ?_)
      all_goals (refine k_seq ?_)
      all_goals refine k_region ?_
      all_goals refine j_eql ?_
      all_goals refine j_assignL (fun _ => ?_)
      all_goals refine l_nil ?_
      all_goals
        refine k_cond (by exact rfl) (fun c16 => ?_) (fun c16 => ?_)
        · try (exact absurd c16 (by decide))
          all_goals (revert c16; (first | refine cv1 ?_ | refine cv3 ?_ | refine cv5 ?_ | refine cv7 ?_ | refine cv9 ?_ | refine cvb ?_ | refine cvd ?_ | skip); intro c16)
          all_goals (refine k_skip ?_)
          all_goals
            refine k_cond (by exact rfl) (fun c16 => ?_) (fun c16 => ?_)
            · try (exact absurd c16 (by decide))
              all_goals (revert c16; (first | refine cv1 ?_ | refine cv3 ?_ | refine cv5 ?_ | refine cv7 ?_ | refine cv9 ?_ | refine cvb ?_ | refine cvd ?_ | skip); intro c16)
              all_goals (refine k_seq ?_)
              all_goals refine k_region ?_
              all_goals refine j_build ?_
              all_goals refine j_alloc (fun x5 => ?_)
              all_goals refine j_store (fun _ => ?_)
              all_goals refine l_nil ?_
              all_goals (refine k_seq ?_)
              all_goals (refine k_seq ?_)
              all_goals refine k_region ?_
              all_goals refine j_move ?_
              all_goals (refine j_own (cF1 (hc := fun w1 hw => next_c _ (hw.tape (by repeat (first | exact At.head | apply At.tail)) (by first | exact .new .head | exact .new (.tail .head) | exact .new (.tail (.tail .head)) | exact .new (.tail (.tail (.tail .head))) | exact .new (.tail (.tail (.tail (.tail .head)))) | exact .new (.tail (.tail (.tail (.tail (.tail .head))))) | exact .new (.tail (.tail (.tail (.tail (.tail (.tail .head)))))) | exact .new (.tail (.tail (.tail (.tail (.tail (.tail (.tail .head))))))) | exact .new (.tail (.tail (.tail (.tail (.tail (.tail (.tail (.tail .head)))))))) | exact .new (.tail (.tail (.tail (.tail (.tail (.tail (.tail (.tail (.tail .head))))))))) | exact .old .head | exact .old (.tail .head) | exact .old (.tail (.tail .head)) | exact .old (.tail (.tail (.tail .head))) | exact .old (.tail (.tail (.tail (.tail .head)))) | exact .old (.tail (.tail (.tail (.tail (.tail .head))))) | exact .own .head | exact .own (.tail .head) | exact .own (.tail (.tail .head)) | exact .own (.tail (.tail (.tail .head))) | exact .own (.tail (.tail (.tail (.tail .head)))) | exact .own (.tail (.tail (.tail (.tail (.tail .head))))) | exact .own (.tail (.tail (.tail (.tail (.tail (.tail .head)))))) | exact .own (.tail (.tail (.tail (.tail (.tail (.tail (.tail .head)))))))) ht.len) (by first | decide | omega) (by first | decide | omega))) (fun x21 => ?_); try (refine l_fact (fun h21 => ?_)))
              all_goals refine j_assignL (fun _ => ?_)
              all_goals refine l_nil ?_
              all_goals (refine k_block ?_)
              all_goals
                refine k_loopF [6, 22, 23, 24, 25, 26, 27, 28, 29, 30, 31, 32, 33] (fun x : Nat × Nat × Nat => [(6, .int .i64 ((x.1 : Nat) : Int))]) (fun x => x.2.1 < 18446744073709551616 ∧ x.1 ≤ 5) (fun x => [(x5, .cells ⟨[.int .i64 3, .int .i64 0, .int .i64 0, .int .u64 ((x.2.1 : Nat) : Int), .slice none 0 0, .int .u64 0, .string ⟨#[]⟩, .int .u64 0, .slice none 0 0, .int .i64 0, .int .i64 0, .int .i64 0, .int .i64 0, .int .i64 0]⟩ 48 (0, 0)), (x4, .cells ⟨zNode⟩ 48 (0, 0)), (b, tpO a l c x.2.2)]) (fun _ => _) (fun _ => _) (fun x => x.1) ((x21, 0, tiN l (tiN l k))) (by decide) (fun _ => by exact rfl) ?_ (⟨by show (0 : Nat) < 18446744073709551616; decide, by show x21 ≤ 5; omega⟩) (fun w hw => hw.back) (fun x f hx => ?_)
                · repeat (first | exact knows_nil _ | refine knows_cons (by first | exact rfl | (conv => { lhs; whnf }; simp; done)) ?_)
                dsimp only [mkU, List.map, List.cons_append, List.nil_append]
                all_goals (refine k_seq ?_)
                all_goals (refine k_seq ?_)
                all_goals refine k_region ?_
                all_goals refine j_move ?_
                all_goals refine j_gtr ?_
                all_goals refine l_nil ?_
                all_goals
                  refine k_cond (by exact rfl) (fun c23 => ?_) (fun c23 => ?_)
                  · try (exact absurd c23 (by decide))
                    all_goals (revert c23; (first | refine cv1 ?_ | refine cv3 ?_ | refine cv5 ?_ | refine cv7 ?_ | refine cv9 ?_ | refine cvb ?_ | refine cvd ?_ | skip); intro c23)
                    all_goals (refine k_skip ?_)
                    all_goals (refine k_seq ?_)
                    all_goals (refine k_block ?_)
                    all_goals refine k_drawF (.one 0 [] (.one 1 [] (.one 2 [] (.one 3 [1] (.one 4 [] (.one 5 [] (.one 6 [] (.one 7 [] (.one 8 [] .nil))))))))) ?_
                    all_goals (refine r_fieldAddr (i := 0) ?_)
                    all_goals (refine r_load (i := 1) ?_)
                    all_goals (refine r_move (i := 2) ?_)
                    all_goals ((refine r_own (i := 3) (hq := (cF1 (hc := fun w1 hw => next_c _ (hw.tape (by repeat (first | exact At.head | apply At.tail)) (by first | exact .new .head | exact .new (.tail .head) | exact .new (.tail (.tail .head)) | exact .new (.tail (.tail (.tail .head))) | exact .new (.tail (.tail (.tail (.tail .head)))) | exact .new (.tail (.tail (.tail (.tail (.tail .head))))) | exact .new (.tail (.tail (.tail (.tail (.tail (.tail .head)))))) | exact .new (.tail (.tail (.tail (.tail (.tail (.tail (.tail .head))))))) | exact .new (.tail (.tail (.tail (.tail (.tail (.tail (.tail (.tail .head)))))))) | exact .new (.tail (.tail (.tail (.tail (.tail (.tail (.tail (.tail (.tail .head))))))))) | exact .old .head | exact .old (.tail .head) | exact .old (.tail (.tail .head)) | exact .old (.tail (.tail (.tail .head))) | exact .old (.tail (.tail (.tail (.tail .head)))) | exact .old (.tail (.tail (.tail (.tail (.tail .head))))) | exact .own .head | exact .own (.tail .head) | exact .own (.tail (.tail .head)) | exact .own (.tail (.tail (.tail .head))) | exact .own (.tail (.tail (.tail (.tail .head)))) | exact .own (.tail (.tail (.tail (.tail (.tail .head))))) | exact .own (.tail (.tail (.tail (.tail (.tail (.tail .head)))))) | exact .own (.tail (.tail (.tail (.tail (.tail (.tail (.tail .head)))))))) ht.len) (by first | decide | omega) (by first | decide | omega)))) (hfire := (fun _ => by first | (refine FireAll.cons (by first | exact a_load | exact a_un) ?_; exact FireAll.nil) | (refine fireall_fact ?_; refine FireAll.cons (by first | exact a_load | exact a_un) ?_; exact FireAll.nil))) (h := fun x29 => ?_); try (refine r_fact (fun h29 => ?_))))
                    all_goals (refine r_convert (i := 4) ?_)
                    all_goals (refine r_shl (i := 5) ?_)
                    all_goals (refine r_or (i := 6) ?_)
                    all_goals (refine r_fieldAddr (i := 7) ?_)
                    all_goals (refine r_store (i := 8) (hfire := (fun _ => .nil)) (h := fun _ => ?_))
                    all_goals refine r_fin ?_
                    all_goals (refine k_blk ?_)
                    all_goals refine k_region ?_
                    all_goals refine j_move ?_
                    all_goals refine j_dec ?_
                    all_goals refine j_assignL (fun _ => ?_)
                    all_goals refine l_nil ?_
                    all_goals
                      refine k_roundF ((x.1 - 1, x.2.1 ||| 2 ^ x29, tiN l x.2.2)) ?_ ?_ (by repeat (first | (with_reducible exact Pre.refl) | refine Pre.cons (by exact rfl) ?_)) ?_ (fun w hw => by rw [rShl_one (by omega), rOr_nat hx.1 (by have := Nat.pow_lt_pow_right (a := 2) (by decide) (show x29 < 64 by omega); omega)] at hw; exact hw.back)
                      · first | omega | (simp only []; omega)
                      · repeat' (first | exact knows_nil _ | refine knows_cons ?_ ?_)
                        all_goals (first | exact rfl | (conv => { lhs; whnf }; simp; done) | (conv => { lhs; whnf }; congr 1; omega))
                      · exact ⟨cnt_or hx.1 (by omega), by show x.1 - 1 ≤ 5; omega⟩
                  · try (exact absurd c23 (by decide))
                    all_goals (revert c23; (first | refine cv2 ?_ | refine cv4 ?_ | refine cv6 ?_ | refine cv8 ?_ | refine cva ?_ | refine cvc ?_ | refine cve ?_ | skip); intro c23)
                    all_goals (refine k_exit rfl ?_)
                    all_goals (refine k_seq ?_)
                    all_goals (refine k_seq ?_)
                    all_goals refine k_region ?_
                    all_goals refine j_fieldAddr ?_
                    all_goals refine j_load ?_
                    all_goals refine j_assignL (fun _ => ?_)
                    all_goals refine l_nil ?_
                    all_goals (refine k_block ?_)
                    all_goals
                      have hxb := hx.1
                      refine k_loopF [7, 36, 37, 38, 39, 40, 41, 42, 43, 44, 45, 46, 47, 48, 49] (fun y : Nat × Option Addr × List Int × Nat × Nat => [(7, .int .u64 ((y.1 : Nat) : Int))]) (fun y => y.1 < 18446744073709551616 ∧ y.2.2.1.length + cnt y.1 64 = cnt x.2.1 64 ∧ y.2.2.1.length ≤ y.2.2.2.1 ∧ ∀ r ∈ y.2.2.1, 1 ≤ r ∧ r ≤ refs) (fun y => [(x5, .cells ⟨[.int .i64 3, .int .i64 0, .int .i64 0, .int .u64 ((x.2.1 : Nat) : Int), .slice y.2.1 y.2.2.1.length y.2.2.2.1, .int .u64 0, .string ⟨#[]⟩, .int .u64 0, .slice none 0 0, .int .i64 0, .int .i64 0, .int .i64 0, .int .i64 0, .int .i64 0]⟩ 48 (0, 0)), (x4, .cells ⟨zNode⟩ 48 (0, 0)), (b, tpO a l c y.2.2.2.2)]) (fun y => []) (fun y => [⟨y.2.1, refsC y.2.2.1, y.2.2.2.1, 39, 1⟩]) (fun y => y.1) ((x.2.1, none, [], 0, x.2.2)) (by decide) (fun _ => by exact rfl) ?_ (⟨hx.1, by simp, Nat.le_refl _, by simp⟩) (fun w hw => (hw.nilOwn 39 1).back) (fun y f hx => ?_)
                      · repeat (first | exact knows_nil _ | refine knows_cons (by first | exact rfl | (conv => { lhs; whnf }; simp; done)) ?_)
                      dsimp only [mkU, List.map, List.cons_append, List.nil_append]
                      have hcl64 := cnt_le x.2.1 64
                      obtain ⟨hy1, hy2, hy3, hy4⟩ := hx
                      all_goals (refine k_seq ?_)
                      all_goals (refine k_seq ?_)
                      all_goals refine k_region ?_
                      all_goals refine j_move ?_
                      all_goals refine j_gtr ?_
                      all_goals refine l_nil ?_
                      all_goals
                        refine k_cond (by exact rfl) (fun c37 => ?_) (fun c37 => ?_)
                        · try (exact absurd c37 (by decide))
                          all_goals (revert c37; (first | refine cv1 ?_ | refine cv3 ?_ | refine cv5 ?_ | refine cv7 ?_ | refine cv9 ?_ | refine cvb ?_ | refine cvd ?_ | skip); intro c37)
                          all_goals (refine k_skip ?_)
                          all_goals (refine k_seq ?_)
                          all_goals (refine k_block ?_)
                          all_goals refine k_drawF (.one 0 [] (.one 1 [] (.one 2 [] (.one 3 [] (.one 4 [1] (.one 5 [1] (.one 6 [] (.one 7 [] (.one 8 [] .nil))))))))) ?_
                          all_goals (refine r_fieldAddr (i := 0) ?_)
                          all_goals (refine r_load (i := 1) ?_)
                          all_goals (refine r_move (i := 2) ?_)
                          all_goals (refine r_move (i := 3) ?_)
                          all_goals ((refine r_own (i := 4) (hq := (cF1 (hc := fun w1 hw => ref_c _ (hw.tape (by repeat (first | exact At.head | apply At.tail)) (by first | exact .new .head | exact .new (.tail .head) | exact .new (.tail (.tail .head)) | exact .new (.tail (.tail (.tail .head))) | exact .new (.tail (.tail (.tail (.tail .head)))) | exact .new (.tail (.tail (.tail (.tail (.tail .head))))) | exact .new (.tail (.tail (.tail (.tail (.tail (.tail .head)))))) | exact .new (.tail (.tail (.tail (.tail (.tail (.tail (.tail .head))))))) | exact .new (.tail (.tail (.tail (.tail (.tail (.tail (.tail (.tail .head)))))))) | exact .new (.tail (.tail (.tail (.tail (.tail (.tail (.tail (.tail (.tail .head))))))))) | exact .old .head | exact .old (.tail .head) | exact .old (.tail (.tail .head)) | exact .old (.tail (.tail (.tail .head))) | exact .old (.tail (.tail (.tail (.tail .head)))) | exact .old (.tail (.tail (.tail (.tail (.tail .head))))) | exact .own .head | exact .own (.tail .head) | exact .own (.tail (.tail .head)) | exact .own (.tail (.tail (.tail .head))) | exact .own (.tail (.tail (.tail (.tail .head)))) | exact .own (.tail (.tail (.tail (.tail (.tail .head))))) | exact .own (.tail (.tail (.tail (.tail (.tail (.tail .head)))))) | exact .own (.tail (.tail (.tail (.tail (.tail (.tail (.tail .head)))))))) ht.len) h0 (by omega)))) (hfire := (fun _ => by first | (refine FireAll.cons (by first | exact a_load | exact a_un) ?_; exact FireAll.nil) | (refine fireall_fact ?_; refine FireAll.cons (by first | exact a_load | exact a_un) ?_; exact FireAll.nil))) (h := fun x46 => ?_); try (refine r_fact (fun h46 => ?_))))
                          all_goals (refine r_buildSlice (i := 5) (hfire := (fun _ => by first | (refine FireAll.cons (by first | exact a_load | exact a_un) ?_; exact FireAll.nil) | (refine fireall_fact ?_; refine FireAll.cons (by first | exact a_load | exact a_un) ?_; exact FireAll.nil))) (h := fun x47 => ?_))
                          all_goals ((refine r_append (i := 6) (hfire := (fun _ => .nil)) (h := fun x48 => ?_); try (refine r_fact (fun h48 => ?_))))
                          all_goals (refine r_fieldAddr (i := 7) ?_)
                          all_goals (refine r_store (i := 8) (hfire := (fun _ => .nil)) (h := fun _ => ?_))
                          all_goals refine r_fin ?_
                          all_goals (refine k_blk ?_)
                          all_goals refine k_region ?_
                          all_goals refine j_move ?_
                          all_goals refine j_move ?_
                          all_goals refine j_sub ?_
                          all_goals refine j_and ?_
                          all_goals refine j_assignL (fun _ => ?_)
                          all_goals refine l_nil ?_
                          all_goals
                            refine k_roundF ((y.1 &&& (y.1 - 1), x48.1, y.2.2.1 ++ [1 + (x46 : Int)], x48.2, tiN l y.2.2.2.2)) ?_ ?_ (by repeat (first | (with_reducible exact Pre.refl) | refine Pre.cons (by exact rfl) ?_)) ?_ (fun w hw => by rw [show y.2.2.1.length + 1 = (y.2.2.1 ++ [1 + (x46 : Int)]).length by simp] at hw; exact hw.back)
                            · exact Nat.lt_of_le_of_lt Nat.and_le_right (by omega)
                            · repeat' (first | exact knows_nil _ | refine knows_cons ?_ ?_)
                              all_goals (conv => { lhs; whnf }; rw [raw_pred hy1 (by omega)])
                            · have hcp := cnt_pred 64 y.1 (by omega) hy1
                              refine ⟨Nat.lt_of_le_of_lt Nat.and_le_left hy1, by simp only [List.length_append, List.length_cons, List.length_nil]; omega, by simp only [List.length_append, List.length_cons, List.length_nil]; omega, fun r hr => ?_⟩
                              rcases List.mem_append.1 hr with hr | hr
                              · exact hy4 r hr
                              · simp only [List.mem_singleton] at hr; subst hr; omega
                        · try (exact absurd c37 (by decide))
                          all_goals (revert c37; (first | refine cv2 ?_ | refine cv4 ?_ | refine cv6 ?_ | refine cv8 ?_ | refine cva ?_ | refine cvc ?_ | refine cve ?_ | skip); intro c37)
                          all_goals (refine k_exit rfl ?_)
                          all_goals (refine k_seq ?_)
                          all_goals refine k_region ?_
                          all_goals refine j_load ?_
                          all_goals refine j_store (fun _ => ?_)
                          all_goals refine l_nil ?_
                          all_goals
                            refine k_retvF Try.results32 (.cell (by exact rfl) (by repeat (first | exact At.head | apply At.tail)) (by exact agg_of rfl) .nil) (fun w hw => ?_)
                            first | exact ⟨({ Nd.zero with kind := 2, gen := 1 + (x13 : Int) }, [], [], tiN l (tiN l k)), rfl, gen_inner (by omega) (by omega) (by omega), ((hw.fnil none).fnil none).finH⟩ | exact ⟨({ Nd.zero with kind := 5, hash := x54, key := keys8.getD x57 ⟨#[]⟩, val := x59 }, [], [], tiN l (tiN l (tiN l (tiN l k)))), rfl, gen_leaf (.inr rfl) (keys8_size _) (by omega), ((hw.fnil none).fnil none).finH⟩ | exact ⟨({ Nd.zero with kind := 6, hash := x65, prA := some ⟨x75, 0, none⟩, prN := 2, prC := 2 }, [], lst2 (x68 : Int) (keys8.getD x72 ⟨#[]⟩), tiN l (tiN l (tiN l (tiN l k)))), rfl, gen_list (keys8_size _) (by omega), (hw.fnil none).finH⟩ | exact ⟨({ Nd.zero with kind := 8, old := 1 + (x81 : Int), exp := 1 + (x84 : Int), new := 1 + (x87 : Int) }, [], [], tiN l (tiN l (tiN l (tiN l k)))), rfl, gen_desc (by omega) (by omega) (by omega), ((hw.fnil none).fnil none).finH⟩ | exact ⟨({ Nd.zero with kind := 4, hash := x90, key := keys8.getD x93 ⟨#[]⟩, val := x95 }, [], [], tiN l (tiN l (tiN l (tiN l k)))), rfl, gen_leaf (.inl rfl) (keys8_size _) (by omega), ((hw.fnil none).fnil none).finH⟩ | exact ⟨({ Nd.zero with kind := 3, bm := ((x.2.1 : Nat) : Int), brA := y.2.1, brN := y.2.2.1.length, brC := y.2.2.2.1 }, y.2.2.1, [], y.2.2.2.2), rfl, gen_c hxb (by rw [show y.1 = 0 by omega, cnt_zero] at hy2; omega) hy3 hy4 (by omega), ((hw.freeze .head (by simp)).fnil none).finH⟩
            · try (exact absurd c16 (by decide))
              all_goals (revert c16; (first | refine cv2 ?_ | refine cv4 ?_ | refine cv6 ?_ | refine cv8 ?_ | refine cva ?_ | refine cvc ?_ | refine cve ?_ | skip); intro c16)
              all_goals (refine k_seq ?_)
              all_goals refine k_region ?_
              all_goals refine j_eql ?_
              all_goals refine j_assignL (fun _ => ?_)
              all_goals refine l_nil ?_
              all_goals
                refine k_cond (by exact rfl) (fun c51 => ?_) (fun c51 => ?_)
                · try (exact absurd c51 (by decide))
                  all_goals (revert c51; (first | refine cv1 ?_ | refine cv3 ?_ | refine cv5 ?_ | refine cv7 ?_ | refine cv9 ?_ | refine cvb ?_ | refine cvd ?_ | skip); intro c51)
                  all_goals (refine k_seq ?_)
                  all_goals refine k_region ?_
                  all_goals refine j_move ?_
                  all_goals (refine j_own (cF1 (hc := fun w1 hw => next_c _ (hw.tape (by repeat (first | exact At.head | apply At.tail)) (by first | exact .new .head | exact .new (.tail .head) | exact .new (.tail (.tail .head)) | exact .new (.tail (.tail (.tail .head))) | exact .new (.tail (.tail (.tail (.tail .head)))) | exact .new (.tail (.tail (.tail (.tail (.tail .head))))) | exact .new (.tail (.tail (.tail (.tail (.tail (.tail .head)))))) | exact .new (.tail (.tail (.tail (.tail (.tail (.tail (.tail .head))))))) | exact .new (.tail (.tail (.tail (.tail (.tail (.tail (.tail (.tail .head)))))))) | exact .new (.tail (.tail (.tail (.tail (.tail (.tail (.tail (.tail (.tail .head))))))))) | exact .old .head | exact .old (.tail .head) | exact .old (.tail (.tail .head)) | exact .old (.tail (.tail (.tail .head))) | exact .old (.tail (.tail (.tail (.tail .head)))) | exact .old (.tail (.tail (.tail (.tail (.tail .head))))) | exact .own .head | exact .own (.tail .head) | exact .own (.tail (.tail .head)) | exact .own (.tail (.tail (.tail .head))) | exact .own (.tail (.tail (.tail (.tail .head)))) | exact .own (.tail (.tail (.tail (.tail (.tail .head))))) | exact .own (.tail (.tail (.tail (.tail (.tail (.tail .head)))))) | exact .own (.tail (.tail (.tail (.tail (.tail (.tail (.tail .head)))))))) ht.len) (by first | decide | omega) (by first | decide | omega))) (fun x54 => ?_); try (refine l_fact (fun h54 => ?_)))
                  all_goals refine j_convert ?_
                  all_goals refine j_move ?_
                  all_goals (refine j_own (cF1 (hc := fun w1 hw => key_c (hw.tape (by repeat (first | exact At.head | apply At.tail)) (by first | exact .new .head | exact .new (.tail .head) | exact .new (.tail (.tail .head)) | exact .new (.tail (.tail (.tail .head))) | exact .new (.tail (.tail (.tail (.tail .head)))) | exact .new (.tail (.tail (.tail (.tail (.tail .head))))) | exact .new (.tail (.tail (.tail (.tail (.tail (.tail .head)))))) | exact .new (.tail (.tail (.tail (.tail (.tail (.tail (.tail .head))))))) | exact .new (.tail (.tail (.tail (.tail (.tail (.tail (.tail (.tail .head)))))))) | exact .new (.tail (.tail (.tail (.tail (.tail (.tail (.tail (.tail (.tail .head))))))))) | exact .old .head | exact .old (.tail .head) | exact .old (.tail (.tail .head)) | exact .old (.tail (.tail (.tail .head))) | exact .old (.tail (.tail (.tail (.tail .head)))) | exact .old (.tail (.tail (.tail (.tail (.tail .head))))) | exact .own .head | exact .own (.tail .head) | exact .own (.tail (.tail .head)) | exact .own (.tail (.tail (.tail .head))) | exact .own (.tail (.tail (.tail (.tail .head)))) | exact .own (.tail (.tail (.tail (.tail (.tail .head))))) | exact .own (.tail (.tail (.tail (.tail (.tail (.tail .head)))))) | exact .own (.tail (.tail (.tail (.tail (.tail (.tail (.tail .head)))))))) ht.len))) (fun x57 => ?_); try (refine l_fact (fun h57 => ?_)))
                  all_goals refine j_move ?_
                  all_goals (refine j_own (cF1 (hc := fun w1 hw => next_c _ (hw.tape (by repeat (first | exact At.head | apply At.tail)) (by first | exact .new .head | exact .new (.tail .head) | exact .new (.tail (.tail .head)) | exact .new (.tail (.tail (.tail .head))) | exact .new (.tail (.tail (.tail (.tail .head)))) | exact .new (.tail (.tail (.tail (.tail (.tail .head))))) | exact .new (.tail (.tail (.tail (.tail (.tail (.tail .head)))))) | exact .new (.tail (.tail (.tail (.tail (.tail (.tail (.tail .head))))))) | exact .new (.tail (.tail (.tail (.tail (.tail (.tail (.tail (.tail .head)))))))) | exact .new (.tail (.tail (.tail (.tail (.tail (.tail (.tail (.tail (.tail .head))))))))) | exact .old .head | exact .old (.tail .head) | exact .old (.tail (.tail .head)) | exact .old (.tail (.tail (.tail .head))) | exact .old (.tail (.tail (.tail (.tail .head)))) | exact .old (.tail (.tail (.tail (.tail (.tail .head))))) | exact .own .head | exact .own (.tail .head) | exact .own (.tail (.tail .head)) | exact .own (.tail (.tail (.tail .head))) | exact .own (.tail (.tail (.tail (.tail .head)))) | exact .own (.tail (.tail (.tail (.tail (.tail .head))))) | exact .own (.tail (.tail (.tail (.tail (.tail (.tail .head)))))) | exact .own (.tail (.tail (.tail (.tail (.tail (.tail (.tail .head)))))))) ht.len) (by first | decide | omega) (by first | decide | omega))) (fun x59 => ?_); try (refine l_fact (fun h59 => ?_)))
                  all_goals refine j_convert ?_
                  all_goals refine j_build ?_
                  all_goals refine j_store (fun _ => ?_)
                  all_goals refine l_nil ?_
                  all_goals
                    refine k_retvF Try.results32 (.cell (by exact rfl) (by repeat (first | exact At.head | apply At.tail)) (by exact agg_of rfl) .nil) (fun w hw => ?_)
                    first | exact ⟨({ Nd.zero with kind := 2, gen := 1 + (x13 : Int) }, [], [], tiN l (tiN l k)), rfl, gen_inner (by omega) (by omega) (by omega), ((hw.fnil none).fnil none).finH⟩ | exact ⟨({ Nd.zero with kind := 5, hash := x54, key := keys8.getD x57 ⟨#[]⟩, val := x59 }, [], [], tiN l (tiN l (tiN l (tiN l k)))), rfl, gen_leaf (.inr rfl) (keys8_size _) (by omega), ((hw.fnil none).fnil none).finH⟩ | exact ⟨({ Nd.zero with kind := 6, hash := x65, prA := some ⟨x75, 0, none⟩, prN := 2, prC := 2 }, [], lst2 (x68 : Int) (keys8.getD x72 ⟨#[]⟩), tiN l (tiN l (tiN l (tiN l k)))), rfl, gen_list (keys8_size _) (by omega), (hw.fnil none).finH⟩ | exact ⟨({ Nd.zero with kind := 8, old := 1 + (x81 : Int), exp := 1 + (x84 : Int), new := 1 + (x87 : Int) }, [], [], tiN l (tiN l (tiN l (tiN l k)))), rfl, gen_desc (by omega) (by omega) (by omega), ((hw.fnil none).fnil none).finH⟩ | exact ⟨({ Nd.zero with kind := 4, hash := x90, key := keys8.getD x93 ⟨#[]⟩, val := x95 }, [], [], tiN l (tiN l (tiN l (tiN l k)))), rfl, gen_leaf (.inl rfl) (keys8_size _) (by omega), ((hw.fnil none).fnil none).finH⟩ | exact ⟨({ Nd.zero with kind := 3, bm := ((x.2.1 : Nat) : Int), brA := y.2.1, brN := y.2.2.1.length, brC := y.2.2.2.1 }, y.2.2.1, [], y.2.2.2.2), rfl, gen_c hxb (by rw [show y.1 = 0 by omega, cnt_zero] at hy2; omega) hy3 hy4 (by omega), ((hw.freeze .head (by simp)).fnil none).finH⟩
                · try (exact absurd c51 (by decide))
                  all_goals (revert c51; (first | refine cv2 ?_ | refine cv4 ?_ | refine cv6 ?_ | refine cv8 ?_ | refine cva ?_ | refine cvc ?_ | refine cve ?_ | skip); intro c51)
                  all_goals (refine k_seq ?_)
                  all_goals refine k_region ?_
                  all_goals refine j_eql ?_
                  all_goals refine j_assignL (fun _ => ?_)
                  all_goals refine l_nil ?_
                  all_goals
                    refine k_cond (by exact rfl) (fun c62 => ?_) (fun c62 => ?_)
                    · try (exact absurd c62 (by decide))
                      all_goals (revert c62; (first | refine cv1 ?_ | refine cv3 ?_ | refine cv5 ?_ | refine cv7 ?_ | refine cv9 ?_ | refine cvb ?_ | refine cvd ?_ | skip); intro c62)
                      all_goals (refine k_seq ?_)
                      all_goals refine k_region ?_
                      all_goals refine j_move ?_
                      all_goals (refine j_own (cF1 (hc := fun w1 hw => next_c _ (hw.tape (by repeat (first | exact At.head | apply At.tail)) (by first | exact .new .head | exact .new (.tail .head) | exact .new (.tail (.tail .head)) | exact .new (.tail (.tail (.tail .head))) | exact .new (.tail (.tail (.tail (.tail .head)))) | exact .new (.tail (.tail (.tail (.tail (.tail .head))))) | exact .new (.tail (.tail (.tail (.tail (.tail (.tail .head)))))) | exact .new (.tail (.tail (.tail (.tail (.tail (.tail (.tail .head))))))) | exact .new (.tail (.tail (.tail (.tail (.tail (.tail (.tail (.tail .head)))))))) | exact .new (.tail (.tail (.tail (.tail (.tail (.tail (.tail (.tail (.tail .head))))))))) | exact .old .head | exact .old (.tail .head) | exact .old (.tail (.tail .head)) | exact .old (.tail (.tail (.tail .head))) | exact .old (.tail (.tail (.tail (.tail .head)))) | exact .old (.tail (.tail (.tail (.tail (.tail .head))))) | exact .own .head | exact .own (.tail .head) | exact .own (.tail (.tail .head)) | exact .own (.tail (.tail (.tail .head))) | exact .own (.tail (.tail (.tail (.tail .head)))) | exact .own (.tail (.tail (.tail (.tail (.tail .head))))) | exact .own (.tail (.tail (.tail (.tail (.tail (.tail .head)))))) | exact .own (.tail (.tail (.tail (.tail (.tail (.tail (.tail .head)))))))) ht.len) (by first | decide | omega) (by first | decide | omega))) (fun x65 => ?_); try (refine l_fact (fun h65 => ?_)))
                      all_goals refine j_convert ?_
                      all_goals refine j_move ?_
                      all_goals (refine j_own (cF1 (hc := fun w1 hw => next_c _ (hw.tape (by repeat (first | exact At.head | apply At.tail)) (by first | exact .new .head | exact .new (.tail .head) | exact .new (.tail (.tail .head)) | exact .new (.tail (.tail (.tail .head))) | exact .new (.tail (.tail (.tail (.tail .head)))) | exact .new (.tail (.tail (.tail (.tail (.tail .head))))) | exact .new (.tail (.tail (.tail (.tail (.tail (.tail .head)))))) | exact .new (.tail (.tail (.tail (.tail (.tail (.tail (.tail .head))))))) | exact .new (.tail (.tail (.tail (.tail (.tail (.tail (.tail (.tail .head)))))))) | exact .new (.tail (.tail (.tail (.tail (.tail (.tail (.tail (.tail (.tail .head))))))))) | exact .old .head | exact .old (.tail .head) | exact .old (.tail (.tail .head)) | exact .old (.tail (.tail (.tail .head))) | exact .old (.tail (.tail (.tail (.tail .head)))) | exact .old (.tail (.tail (.tail (.tail (.tail .head))))) | exact .own .head | exact .own (.tail .head) | exact .own (.tail (.tail .head)) | exact .own (.tail (.tail (.tail .head))) | exact .own (.tail (.tail (.tail (.tail .head)))) | exact .own (.tail (.tail (.tail (.tail (.tail .head))))) | exact .own (.tail (.tail (.tail (.tail (.tail (.tail .head)))))) | exact .own (.tail (.tail (.tail (.tail (.tail (.tail (.tail .head)))))))) ht.len) (by first | decide | omega) (by first | decide | omega))) (fun x68 => ?_); try (refine l_fact (fun h68 => ?_)))
                      all_goals refine j_convert ?_
                      all_goals refine j_build ?_
                      all_goals refine j_move ?_
                      all_goals (refine j_own (cF1 (hc := fun w1 hw => key_c (hw.tape (by repeat (first | exact At.head | apply At.tail)) (by first | exact .new .head | exact .new (.tail .head) | exact .new (.tail (.tail .head)) | exact .new (.tail (.tail (.tail .head))) | exact .new (.tail (.tail (.tail (.tail .head)))) | exact .new (.tail (.tail (.tail (.tail (.tail .head))))) | exact .new (.tail (.tail (.tail (.tail (.tail (.tail .head)))))) | exact .new (.tail (.tail (.tail (.tail (.tail (.tail (.tail .head))))))) | exact .new (.tail (.tail (.tail (.tail (.tail (.tail (.tail (.tail .head)))))))) | exact .new (.tail (.tail (.tail (.tail (.tail (.tail (.tail (.tail (.tail .head))))))))) | exact .old .head | exact .old (.tail .head) | exact .old (.tail (.tail .head)) | exact .old (.tail (.tail (.tail .head))) | exact .old (.tail (.tail (.tail (.tail .head)))) | exact .old (.tail (.tail (.tail (.tail (.tail .head))))) | exact .own .head | exact .own (.tail .head) | exact .own (.tail (.tail .head)) | exact .own (.tail (.tail (.tail .head))) | exact .own (.tail (.tail (.tail (.tail .head)))) | exact .own (.tail (.tail (.tail (.tail (.tail .head))))) | exact .own (.tail (.tail (.tail (.tail (.tail (.tail .head)))))) | exact .own (.tail (.tail (.tail (.tail (.tail (.tail (.tail .head)))))))) ht.len))) (fun x72 => ?_); try (refine l_fact (fun h72 => ?_)))
                      all_goals refine l_quiet (o_catStr (by exact rfl) (by exact rfl) (by have h1 := keys8_size x72; have h2 : (⟨#[98]⟩ : ByteArray).size = 1 := rfl; omega)) rfl ?_
                      all_goals refine j_build ?_
                      all_goals refine j_buildSlice (fun x75 => ?_)
                      all_goals refine j_build ?_
                      all_goals refine j_store (fun _ => ?_)
                      all_goals refine l_nil ?_
                      all_goals
                        refine k_retvF Try.results32 (.cell (by exact rfl) (by repeat (first | exact At.head | apply At.tail)) (by exact agg_of rfl) .nil) (fun w hw => ?_)
                        first | exact ⟨({ Nd.zero with kind := 2, gen := 1 + (x13 : Int) }, [], [], tiN l (tiN l k)), rfl, gen_inner (by omega) (by omega) (by omega), ((hw.fnil none).fnil none).finH⟩ | exact ⟨({ Nd.zero with kind := 5, hash := x54, key := keys8.getD x57 ⟨#[]⟩, val := x59 }, [], [], tiN l (tiN l (tiN l (tiN l k)))), rfl, gen_leaf (.inr rfl) (keys8_size _) (by omega), ((hw.fnil none).fnil none).finH⟩ | exact ⟨({ Nd.zero with kind := 6, hash := x65, prA := some ⟨x75, 0, none⟩, prN := 2, prC := 2 }, [], lst2 (x68 : Int) (keys8.getD x72 ⟨#[]⟩), tiN l (tiN l (tiN l (tiN l k)))), rfl, gen_list (keys8_size _) (by omega), (hw.fnil none).finH⟩ | exact ⟨({ Nd.zero with kind := 8, old := 1 + (x81 : Int), exp := 1 + (x84 : Int), new := 1 + (x87 : Int) }, [], [], tiN l (tiN l (tiN l (tiN l k)))), rfl, gen_desc (by omega) (by omega) (by omega), ((hw.fnil none).fnil none).finH⟩ | exact ⟨({ Nd.zero with kind := 4, hash := x90, key := keys8.getD x93 ⟨#[]⟩, val := x95 }, [], [], tiN l (tiN l (tiN l (tiN l k)))), rfl, gen_leaf (.inl rfl) (keys8_size _) (by omega), ((hw.fnil none).fnil none).finH⟩ | exact ⟨({ Nd.zero with kind := 3, bm := ((x.2.1 : Nat) : Int), brA := y.2.1, brN := y.2.2.1.length, brC := y.2.2.2.1 }, y.2.2.1, [], y.2.2.2.2), rfl, gen_c hxb (by rw [show y.1 = 0 by omega, cnt_zero] at hy2; omega) hy3 hy4 (by omega), ((hw.freeze .head (by simp)).fnil none).finH⟩
                    · try (exact absurd c62 (by decide))
                      all_goals (revert c62; (first | refine cv2 ?_ | refine cv4 ?_ | refine cv6 ?_ | refine cv8 ?_ | refine cva ?_ | refine cvc ?_ | refine cve ?_ | skip); intro c62)
                      all_goals (refine k_seq ?_)
                      all_goals refine k_region ?_
                      all_goals refine j_eql ?_
                      all_goals refine j_assignL (fun _ => ?_)
                      all_goals refine l_nil ?_
                      all_goals
                        refine k_cond (by exact rfl) (fun c77 => ?_) (fun c77 => ?_)
                        · try (exact absurd c77 (by decide))
                          all_goals (revert c77; (first | refine cv1 ?_ | refine cv3 ?_ | refine cv5 ?_ | refine cv7 ?_ | refine cv9 ?_ | refine cvb ?_ | refine cvd ?_ | skip); intro c77)
                          all_goals (refine k_seq ?_)
                          all_goals refine k_region ?_
                          all_goals refine j_move ?_
                          all_goals refine j_move ?_
                          all_goals (refine j_own (cF1 (hc := fun w1 hw => ref_c _ (hw.tape (by repeat (first | exact At.head | apply At.tail)) (by first | exact .new .head | exact .new (.tail .head) | exact .new (.tail (.tail .head)) | exact .new (.tail (.tail (.tail .head))) | exact .new (.tail (.tail (.tail (.tail .head)))) | exact .new (.tail (.tail (.tail (.tail (.tail .head))))) | exact .new (.tail (.tail (.tail (.tail (.tail (.tail .head)))))) | exact .new (.tail (.tail (.tail (.tail (.tail (.tail (.tail .head))))))) | exact .new (.tail (.tail (.tail (.tail (.tail (.tail (.tail (.tail .head)))))))) | exact .new (.tail (.tail (.tail (.tail (.tail (.tail (.tail (.tail (.tail .head))))))))) | exact .old .head | exact .old (.tail .head) | exact .old (.tail (.tail .head)) | exact .old (.tail (.tail (.tail .head))) | exact .old (.tail (.tail (.tail (.tail .head)))) | exact .old (.tail (.tail (.tail (.tail (.tail .head))))) | exact .own .head | exact .own (.tail .head) | exact .own (.tail (.tail .head)) | exact .own (.tail (.tail (.tail .head))) | exact .own (.tail (.tail (.tail (.tail .head)))) | exact .own (.tail (.tail (.tail (.tail (.tail .head))))) | exact .own (.tail (.tail (.tail (.tail (.tail (.tail .head)))))) | exact .own (.tail (.tail (.tail (.tail (.tail (.tail (.tail .head)))))))) ht.len) h0 (by omega))) (fun x81 => ?_); try (refine l_fact (fun h81 => ?_)))
                          all_goals refine j_move ?_
                          all_goals refine j_move ?_
                          all_goals (refine j_own (cF1 (hc := fun w1 hw => ref_c _ (hw.tape (by repeat (first | exact At.head | apply At.tail)) (by first | exact .new .head | exact .new (.tail .head) | exact .new (.tail (.tail .head)) | exact .new (.tail (.tail (.tail .head))) | exact .new (.tail (.tail (.tail (.tail .head)))) | exact .new (.tail (.tail (.tail (.tail (.tail .head))))) | exact .new (.tail (.tail (.tail (.tail (.tail (.tail .head)))))) | exact .new (.tail (.tail (.tail (.tail (.tail (.tail (.tail .head))))))) | exact .new (.tail (.tail (.tail (.tail (.tail (.tail (.tail (.tail .head)))))))) | exact .new (.tail (.tail (.tail (.tail (.tail (.tail (.tail (.tail (.tail .head))))))))) | exact .old .head | exact .old (.tail .head) | exact .old (.tail (.tail .head)) | exact .old (.tail (.tail (.tail .head))) | exact .old (.tail (.tail (.tail (.tail .head)))) | exact .old (.tail (.tail (.tail (.tail (.tail .head))))) | exact .own .head | exact .own (.tail .head) | exact .own (.tail (.tail .head)) | exact .own (.tail (.tail (.tail .head))) | exact .own (.tail (.tail (.tail (.tail .head)))) | exact .own (.tail (.tail (.tail (.tail (.tail .head))))) | exact .own (.tail (.tail (.tail (.tail (.tail (.tail .head)))))) | exact .own (.tail (.tail (.tail (.tail (.tail (.tail (.tail .head)))))))) ht.len) h0 (by omega))) (fun x84 => ?_); try (refine l_fact (fun h84 => ?_)))
                          all_goals refine j_move ?_
                          all_goals refine j_move ?_
                          all_goals (refine j_own (cF1 (hc := fun w1 hw => ref_c _ (hw.tape (by repeat (first | exact At.head | apply At.tail)) (by first | exact .new .head | exact .new (.tail .head) | exact .new (.tail (.tail .head)) | exact .new (.tail (.tail (.tail .head))) | exact .new (.tail (.tail (.tail (.tail .head)))) | exact .new (.tail (.tail (.tail (.tail (.tail .head))))) | exact .new (.tail (.tail (.tail (.tail (.tail (.tail .head)))))) | exact .new (.tail (.tail (.tail (.tail (.tail (.tail (.tail .head))))))) | exact .new (.tail (.tail (.tail (.tail (.tail (.tail (.tail (.tail .head)))))))) | exact .new (.tail (.tail (.tail (.tail (.tail (.tail (.tail (.tail (.tail .head))))))))) | exact .old .head | exact .old (.tail .head) | exact .old (.tail (.tail .head)) | exact .old (.tail (.tail (.tail .head))) | exact .old (.tail (.tail (.tail (.tail .head)))) | exact .old (.tail (.tail (.tail (.tail (.tail .head))))) | exact .own .head | exact .own (.tail .head) | exact .own (.tail (.tail .head)) | exact .own (.tail (.tail (.tail .head))) | exact .own (.tail (.tail (.tail (.tail .head)))) | exact .own (.tail (.tail (.tail (.tail (.tail .head))))) | exact .own (.tail (.tail (.tail (.tail (.tail (.tail .head)))))) | exact .own (.tail (.tail (.tail (.tail (.tail (.tail (.tail .head)))))))) ht.len) h0 (by omega))) (fun x87 => ?_); try (refine l_fact (fun h87 => ?_)))
                          all_goals refine j_build ?_
                          all_goals refine j_store (fun _ => ?_)
                          all_goals refine l_nil ?_
                          all_goals
                            refine k_retvF Try.results32 (.cell (by exact rfl) (by repeat (first | exact At.head | apply At.tail)) (by exact agg_of rfl) .nil) (fun w hw => ?_)
                            first | exact ⟨({ Nd.zero with kind := 2, gen := 1 + (x13 : Int) }, [], [], tiN l (tiN l k)), rfl, gen_inner (by omega) (by omega) (by omega), ((hw.fnil none).fnil none).finH⟩ | exact ⟨({ Nd.zero with kind := 5, hash := x54, key := keys8.getD x57 ⟨#[]⟩, val := x59 }, [], [], tiN l (tiN l (tiN l (tiN l k)))), rfl, gen_leaf (.inr rfl) (keys8_size _) (by omega), ((hw.fnil none).fnil none).finH⟩ | exact ⟨({ Nd.zero with kind := 6, hash := x65, prA := some ⟨x75, 0, none⟩, prN := 2, prC := 2 }, [], lst2 (x68 : Int) (keys8.getD x72 ⟨#[]⟩), tiN l (tiN l (tiN l (tiN l k)))), rfl, gen_list (keys8_size _) (by omega), (hw.fnil none).finH⟩ | exact ⟨({ Nd.zero with kind := 8, old := 1 + (x81 : Int), exp := 1 + (x84 : Int), new := 1 + (x87 : Int) }, [], [], tiN l (tiN l (tiN l (tiN l k)))), rfl, gen_desc (by omega) (by omega) (by omega), ((hw.fnil none).fnil none).finH⟩ | exact ⟨({ Nd.zero with kind := 4, hash := x90, key := keys8.getD x93 ⟨#[]⟩, val := x95 }, [], [], tiN l (tiN l (tiN l (tiN l k)))), rfl, gen_leaf (.inl rfl) (keys8_size _) (by omega), ((hw.fnil none).fnil none).finH⟩ | exact ⟨({ Nd.zero with kind := 3, bm := ((x.2.1 : Nat) : Int), brA := y.2.1, brN := y.2.2.1.length, brC := y.2.2.2.1 }, y.2.2.1, [], y.2.2.2.2), rfl, gen_c hxb (by rw [show y.1 = 0 by omega, cnt_zero] at hy2; omega) hy3 hy4 (by omega), ((hw.freeze .head (by simp)).fnil none).finH⟩
                        · try (exact absurd c77 (by decide))
                          all_goals (revert c77; (first | refine cv2 ?_ | refine cv4 ?_ | refine cv6 ?_ | refine cv8 ?_ | refine cva ?_ | refine cvc ?_ | refine cve ?_ | skip); intro c77)
                          all_goals (refine k_skip ?_)
                          all_goals (refine k_blk ?_)
                          all_goals (refine k_seq ?_)
                          all_goals refine k_region ?_
                          all_goals refine j_move ?_
                          all_goals (refine j_own (cF1 (hc := fun w1 hw => next_c _ (hw.tape (by repeat (first | exact At.head | apply At.tail)) (by first | exact .new .head | exact .new (.tail .head) | exact .new (.tail (.tail .head)) | exact .new (.tail (.tail (.tail .head))) | exact .new (.tail (.tail (.tail (.tail .head)))) | exact .new (.tail (.tail (.tail (.tail (.tail .head))))) | exact .new (.tail (.tail (.tail (.tail (.tail (.tail .head)))))) | exact .new (.tail (.tail (.tail (.tail (.tail (.tail (.tail .head))))))) | exact .new (.tail (.tail (.tail (.tail (.tail (.tail (.tail (.tail .head)))))))) | exact .new (.tail (.tail (.tail (.tail (.tail (.tail (.tail (.tail (.tail .head))))))))) | exact .old .head | exact .old (.tail .head) | exact .old (.tail (.tail .head)) | exact .old (.tail (.tail (.tail .head))) | exact .old (.tail (.tail (.tail (.tail .head)))) | exact .old (.tail (.tail (.tail (.tail (.tail .head))))) | exact .own .head | exact .own (.tail .head) | exact .own (.tail (.tail .head)) | exact .own (.tail (.tail (.tail .head))) | exact .own (.tail (.tail (.tail (.tail .head)))) | exact .own (.tail (.tail (.tail (.tail (.tail .head))))) | exact .own (.tail (.tail (.tail (.tail (.tail (.tail .head)))))) | exact .own (.tail (.tail (.tail (.tail (.tail (.tail (.tail .head)))))))) ht.len) (by first | decide | omega) (by first | decide | omega))) (fun x90 => ?_); try (refine l_fact (fun h90 => ?_)))
                          all_goals refine j_convert ?_
                          all_goals refine j_move ?_
                          all_goals (refine j_own (cF1 (hc := fun w1 hw => key_c (hw.tape (by repeat (first | exact At.head | apply At.tail)) (by first | exact .new .head | exact .new (.tail .head) | exact .new (.tail (.tail .head)) | exact .new (.tail (.tail (.tail .head))) | exact .new (.tail (.tail (.tail (.tail .head)))) | exact .new (.tail (.tail (.tail (.tail (.tail .head))))) | exact .new (.tail (.tail (.tail (.tail (.tail (.tail .head)))))) | exact .new (.tail (.tail (.tail (.tail (.tail (.tail (.tail .head))))))) | exact .new (.tail (.tail (.tail (.tail (.tail (.tail (.tail (.tail .head)))))))) | exact .new (.tail (.tail (.tail (.tail (.tail (.tail (.tail (.tail (.tail .head))))))))) | exact .old .head | exact .old (.tail .head) | exact .old (.tail (.tail .head)) | exact .old (.tail (.tail (.tail .head))) | exact .old (.tail (.tail (.tail (.tail .head)))) | exact .old (.tail (.tail (.tail (.tail (.tail .head))))) | exact .own .head | exact .own (.tail .head) | exact .own (.tail (.tail .head)) | exact .own (.tail (.tail (.tail .head))) | exact .own (.tail (.tail (.tail (.tail .head)))) | exact .own (.tail (.tail (.tail (.tail (.tail .head))))) | exact .own (.tail (.tail (.tail (.tail (.tail (.tail .head)))))) | exact .own (.tail (.tail (.tail (.tail (.tail (.tail (.tail .head)))))))) ht.len))) (fun x93 => ?_); try (refine l_fact (fun h93 => ?_)))
                          all_goals refine j_move ?_
                          all_goals (refine j_own (cF1 (hc := fun w1 hw => next_c _ (hw.tape (by repeat (first | exact At.head | apply At.tail)) (by first | exact .new .head | exact .new (.tail .head) | exact .new (.tail (.tail .head)) | exact .new (.tail (.tail (.tail .head))) | exact .new (.tail (.tail (.tail (.tail .head)))) | exact .new (.tail (.tail (.tail (.tail (.tail .head))))) | exact .new (.tail (.tail (.tail (.tail (.tail (.tail .head)))))) | exact .new (.tail (.tail (.tail (.tail (.tail (.tail (.tail .head))))))) | exact .new (.tail (.tail (.tail (.tail (.tail (.tail (.tail (.tail .head)))))))) | exact .new (.tail (.tail (.tail (.tail (.tail (.tail (.tail (.tail (.tail .head))))))))) | exact .old .head | exact .old (.tail .head) | exact .old (.tail (.tail .head)) | exact .old (.tail (.tail (.tail .head))) | exact .old (.tail (.tail (.tail (.tail .head)))) | exact .old (.tail (.tail (.tail (.tail (.tail .head))))) | exact .own .head | exact .own (.tail .head) | exact .own (.tail (.tail .head)) | exact .own (.tail (.tail (.tail .head))) | exact .own (.tail (.tail (.tail (.tail .head)))) | exact .own (.tail (.tail (.tail (.tail (.tail .head))))) | exact .own (.tail (.tail (.tail (.tail (.tail (.tail .head)))))) | exact .own (.tail (.tail (.tail (.tail (.tail (.tail (.tail .head)))))))) ht.len) (by first | decide | omega) (by first | decide | omega))) (fun x95 => ?_); try (refine l_fact (fun h95 => ?_)))
                          all_goals refine j_convert ?_
                          all_goals refine j_build ?_
                          all_goals refine j_store (fun _ => ?_)
                          all_goals refine l_nil ?_
                          all_goals
                            refine k_retvF Try.results32 (.cell (by exact rfl) (by repeat (first | exact At.head | apply At.tail)) (by exact agg_of rfl) .nil) (fun w hw => ?_)
                            first | exact ⟨({ Nd.zero with kind := 2, gen := 1 + (x13 : Int) }, [], [], tiN l (tiN l k)), rfl, gen_inner (by omega) (by omega) (by omega), ((hw.fnil none).fnil none).finH⟩ | exact ⟨({ Nd.zero with kind := 5, hash := x54, key := keys8.getD x57 ⟨#[]⟩, val := x59 }, [], [], tiN l (tiN l (tiN l (tiN l k)))), rfl, gen_leaf (.inr rfl) (keys8_size _) (by omega), ((hw.fnil none).fnil none).finH⟩ | exact ⟨({ Nd.zero with kind := 6, hash := x65, prA := some ⟨x75, 0, none⟩, prN := 2, prC := 2 }, [], lst2 (x68 : Int) (keys8.getD x72 ⟨#[]⟩), tiN l (tiN l (tiN l (tiN l k)))), rfl, gen_list (keys8_size _) (by omega), (hw.fnil none).finH⟩ | exact ⟨({ Nd.zero with kind := 8, old := 1 + (x81 : Int), exp := 1 + (x84 : Int), new := 1 + (x87 : Int) }, [], [], tiN l (tiN l (tiN l (tiN l k)))), rfl, gen_desc (by omega) (by omega) (by omega), ((hw.fnil none).fnil none).finH⟩ | exact ⟨({ Nd.zero with kind := 4, hash := x90, key := keys8.getD x93 ⟨#[]⟩, val := x95 }, [], [], tiN l (tiN l (tiN l (tiN l k)))), rfl, gen_leaf (.inl rfl) (keys8_size _) (by omega), ((hw.fnil none).fnil none).finH⟩ | exact ⟨({ Nd.zero with kind := 3, bm := ((x.2.1 : Nat) : Int), brA := y.2.1, brN := y.2.2.1.length, brC := y.2.2.2.1 }, y.2.2.1, [], y.2.2.2.2), rfl, gen_c hxb (by rw [show y.1 = 0 by omega, cnt_zero] at hy2; omega) hy3 hy4 (by omega), ((hw.freeze .head (by simp)).fnil none).finH⟩
        · try (exact absurd c16 (by decide))
          all_goals (revert c16; (first | refine cv2 ?_ | refine cv4 ?_ | refine cv6 ?_ | refine cv8 ?_ | refine cva ?_ | refine cvc ?_ | refine cve ?_ | skip); intro c16)
          all_goals refine k_region ?_
          all_goals refine j_eql ?_
          all_goals refine j_assignL (fun _ => ?_)
          all_goals refine l_nil ?_
          all_goals
            refine k_cond (by exact rfl) (fun c16 => ?_) (fun c16 => ?_)
            · try (exact absurd c16 (by decide))
              all_goals (revert c16; (first | refine cv1 ?_ | refine cv3 ?_ | refine cv5 ?_ | refine cv7 ?_ | refine cv9 ?_ | refine cvb ?_ | refine cvd ?_ | skip); intro c16)
              all_goals (refine k_seq ?_)
              all_goals refine k_region ?_
              all_goals refine j_build ?_
              all_goals refine j_alloc (fun x5 => ?_)
              all_goals refine j_store (fun _ => ?_)
              all_goals refine l_nil ?_
              all_goals (refine k_seq ?_)
              all_goals (refine k_seq ?_)
              all_goals refine k_region ?_
              all_goals refine j_move ?_
              all_goals (refine j_own (cF1 (hc := fun w1 hw => next_c _ (hw.tape (by repeat (first | exact At.head | apply At.tail)) (by first | exact .new .head | exact .new (.tail .head) | exact .new (.tail (.tail .head)) | exact .new (.tail (.tail (.tail .head))) | exact .new (.tail (.tail (.tail (.tail .head)))) | exact .new (.tail (.tail (.tail (.tail (.tail .head))))) | exact .new (.tail (.tail (.tail (.tail (.tail (.tail .head)))))) | exact .new (.tail (.tail (.tail (.tail (.tail (.tail (.tail .head))))))) | exact .new (.tail (.tail (.tail (.tail (.tail (.tail (.tail (.tail .head)))))))) | exact .new (.tail (.tail (.tail (.tail (.tail (.tail (.tail (.tail (.tail .head))))))))) | exact .old .head | exact .old (.tail .head) | exact .old (.tail (.tail .head)) | exact .old (.tail (.tail (.tail .head))) | exact .old (.tail (.tail (.tail (.tail .head)))) | exact .old (.tail (.tail (.tail (.tail (.tail .head))))) | exact .own .head | exact .own (.tail .head) | exact .own (.tail (.tail .head)) | exact .own (.tail (.tail (.tail .head))) | exact .own (.tail (.tail (.tail (.tail .head)))) | exact .own (.tail (.tail (.tail (.tail (.tail .head))))) | exact .own (.tail (.tail (.tail (.tail (.tail (.tail .head)))))) | exact .own (.tail (.tail (.tail (.tail (.tail (.tail (.tail .head)))))))) ht.len) (by first | decide | omega) (by first | decide | omega))) (fun x21 => ?_); try (refine l_fact (fun h21 => ?_)))
              all_goals refine j_assignL (fun _ => ?_)
              all_goals refine l_nil ?_
              all_goals (refine k_block ?_)
              all_goals
                refine k_loopF [6, 22, 23, 24, 25, 26, 27, 28, 29, 30, 31, 32, 33] (fun x : Nat × Nat × Nat => [(6, .int .i64 ((x.1 : Nat) : Int))]) (fun x => x.2.1 < 18446744073709551616 ∧ x.1 ≤ 5) (fun x => [(x5, .cells ⟨[.int .i64 3, .int .i64 0, .int .i64 0, .int .u64 ((x.2.1 : Nat) : Int), .slice none 0 0, .int .u64 0, .string ⟨#[]⟩, .int .u64 0, .slice none 0 0, .int .i64 0, .int .i64 0, .int .i64 0, .int .i64 0, .int .i64 0]⟩ 48 (0, 0)), (x4, .cells ⟨zNode⟩ 48 (0, 0)), (b, tpO a l c x.2.2)]) (fun _ => _) (fun _ => _) (fun x => x.1) ((x21, 0, tiN l (tiN l k))) (by decide) (fun _ => by exact rfl) ?_ (⟨by show (0 : Nat) < 18446744073709551616; decide, by show x21 ≤ 5; omega⟩) (fun w hw => hw.back) (fun x f hx => ?_)
                · repeat (first | exact knows_nil _ | refine knows_cons (by first | exact rfl | (conv => { lhs; whnf }; simp; done)) ?_)
                dsimp only [mkU, List.map, List.cons_append, List.nil_append]
                all_goals (refine k_seq ?_)
                all_goals (refine k_seq ?_)
                all_goals refine k_region ?_
                all_goals refine j_move ?_
                all_goals refine j_gtr ?_
                all_goals refine l_nil ?_
                all_goals
                  refine k_cond (by exact rfl) (fun c23 => ?_) (fun c23 => ?_)
                  · try (exact absurd c23 (by decide))
                    all_goals (revert c23; (first | refine cv1 ?_ | refine cv3 ?_ | refine cv5 ?_ | refine cv7 ?_ | refine cv9 ?_ | refine cvb ?_ | refine cvd ?_ | skip); intro c23)
                    all_goals (refine k_skip ?_)
                    all_goals (refine k_seq ?_)
                    all_goals (refine k_block ?_)
                    all_goals refine k_drawF (.one 0 [] (.one 1 [] (.one 2 [] (.one 3 [1] (.one 4 [] (.one 5 [] (.one 6 [] (.one 7 [] (.one 8 [] .nil))))))))) ?_
                    all_goals (refine r_fieldAddr (i := 0) ?_)
                    all_goals (refine r_load (i := 1) ?_)
                    all_goals (refine r_move (i := 2) ?_)
                    all_goals ((refine r_own (i := 3) (hq := (cF1 (hc := fun w1 hw => next_c _ (hw.tape (by repeat (first | exact At.head | apply At.tail)) (by first | exact .new .head | exact .new (.tail .head) | exact .new (.tail (.tail .head)) | exact .new (.tail (.tail (.tail .head))) | exact .new (.tail (.tail (.tail (.tail .head)))) | exact .new (.tail (.tail (.tail (.tail (.tail .head))))) | exact .new (.tail (.tail (.tail (.tail (.tail (.tail .head)))))) | exact .new (.tail (.tail (.tail (.tail (.tail (.tail (.tail .head))))))) | exact .new (.tail (.tail (.tail (.tail (.tail (.tail (.tail (.tail .head)))))))) | exact .new (.tail (.tail (.tail (.tail (.tail (.tail (.tail (.tail (.tail .head))))))))) | exact .old .head | exact .old (.tail .head) | exact .old (.tail (.tail .head)) | exact .old (.tail (.tail (.tail .head))) | exact .old (.tail (.tail (.tail (.tail .head)))) | exact .old (.tail (.tail (.tail (.tail (.tail .head))))) | exact .own .head | exact .own (.tail .head) | exact .own (.tail (.tail .head)) | exact .own (.tail (.tail (.tail .head))) | exact .own (.tail (.tail (.tail (.tail .head)))) | exact .own (.tail (.tail (.tail (.tail (.tail .head))))) | exact .own (.tail (.tail (.tail (.tail (.tail (.tail .head)))))) | exact .own (.tail (.tail (.tail (.tail (.tail (.tail (.tail .head)))))))) ht.len) (by first | decide | omega) (by first | decide | omega)))) (hfire := (fun _ => by first | (refine FireAll.cons (by first | exact a_load | exact a_un) ?_; exact FireAll.nil) | (refine fireall_fact ?_; refine FireAll.cons (by first | exact a_load | exact a_un) ?_; exact FireAll.nil))) (h := fun x29 => ?_); try (refine r_fact (fun h29 => ?_))))
                    all_goals (refine r_convert (i := 4) ?_)
                    all_goals (refine r_shl (i := 5) ?_)
                    all_goals (refine r_or (i := 6) ?_)
                    all_goals (refine r_fieldAddr (i := 7) ?_)
                    all_goals (refine r_store (i := 8) (hfire := (fun _ => .nil)) (h := fun _ => ?_))
                    all_goals refine r_fin ?_
                    all_goals (refine k_blk ?_)
                    all_goals refine k_region ?_
                    all_goals refine j_move ?_
                    all_goals refine j_dec ?_
                    all_goals refine j_assignL (fun _ => ?_)
                    all_goals refine l_nil ?_
                    all_goals
                      refine k_roundF ((x.1 - 1, x.2.1 ||| 2 ^ x29, tiN l x.2.2)) ?_ ?_ (by repeat (first | (with_reducible exact Pre.refl) | refine Pre.cons (by exact rfl) ?_)) ?_ (fun w hw => by rw [rShl_one (by omega), rOr_nat hx.1 (by have := Nat.pow_lt_pow_right (a := 2) (by decide) (show x29 < 64 by omega); omega)] at hw; exact hw.back)
                      · first | omega | (simp only []; omega)
                      · repeat' (first | exact knows_nil _ | refine knows_cons ?_ ?_)
                        all_goals (first | exact rfl | (conv => { lhs; whnf }; simp; done) | (conv => { lhs; whnf }; congr 1; omega))
                      · exact ⟨cnt_or hx.1 (by omega), by show x.1 - 1 ≤ 5; omega⟩
                  · try (exact absurd c23 (by decide))
                    all_goals (revert c23; (first | refine cv2 ?_ | refine cv4 ?_ | refine cv6 ?_ | refine cv8 ?_ | refine cva ?_ | refine cvc ?_ | refine cve ?_ | skip); intro c23)
                    all_goals (refine k_exit rfl ?_)
                    all_goals (refine k_seq ?_)
                    all_goals (refine k_seq ?_)
                    all_goals refine k_region ?_
                    all_goals refine j_fieldAddr ?_
                    all_goals refine j_load ?_
                    all_goals refine j_assignL (fun _ => ?_)
                    all_goals refine l_nil ?_
                    all_goals (refine k_block ?_)
                    all_goals
                      have hxb := hx.1
                      refine k_loopF [7, 36, 37, 38, 39, 40, 41, 42, 43, 44, 45, 46, 47, 48, 49] (fun y : Nat × Option Addr × List Int × Nat × Nat => [(7, .int .u64 ((y.1 : Nat) : Int))]) (fun y => y.1 < 18446744073709551616 ∧ y.2.2.1.length + cnt y.1 64 = cnt x.2.1 64 ∧ y.2.2.1.length ≤ y.2.2.2.1 ∧ ∀ r ∈ y.2.2.1, 1 ≤ r ∧ r ≤ refs) (fun y => [(x5, .cells ⟨[.int .i64 3, .int .i64 0, .int .i64 0, .int .u64 ((x.2.1 : Nat) : Int), .slice y.2.1 y.2.2.1.length y.2.2.2.1, .int .u64 0, .string ⟨#[]⟩, .int .u64 0, .slice none 0 0, .int .i64 0, .int .i64 0, .int .i64 0, .int .i64 0, .int .i64 0]⟩ 48 (0, 0)), (x4, .cells ⟨zNode⟩ 48 (0, 0)), (b, tpO a l c y.2.2.2.2)]) (fun y => []) (fun y => [⟨y.2.1, refsC y.2.2.1, y.2.2.2.1, 39, 1⟩]) (fun y => y.1) ((x.2.1, none, [], 0, x.2.2)) (by decide) (fun _ => by exact rfl) ?_ (⟨hx.1, by simp, Nat.le_refl _, by simp⟩) (fun w hw => (hw.nilOwn 39 1).back) (fun y f hx => ?_)
                      · repeat (first | exact knows_nil _ | refine knows_cons (by first | exact rfl | (conv => { lhs; whnf }; simp; done)) ?_)
                      dsimp only [mkU, List.map, List.cons_append, List.nil_append]
                      have hcl64 := cnt_le x.2.1 64
                      obtain ⟨hy1, hy2, hy3, hy4⟩ := hx
                      all_goals (refine k_seq ?_)
                      all_goals (refine k_seq ?_)
                      all_goals refine k_region ?_
                      all_goals refine j_move ?_
                      all_goals refine j_gtr ?_
                      all_goals refine l_nil ?_
                      all_goals
                        refine k_cond (by exact rfl) (fun c37 => ?_) (fun c37 => ?_)
                        · try (exact absurd c37 (by decide))
                          all_goals (revert c37; (first | refine cv1 ?_ | refine cv3 ?_ | refine cv5 ?_ | refine cv7 ?_ | refine cv9 ?_ | refine cvb ?_ | refine cvd ?_ | skip); intro c37)
                          all_goals (refine k_skip ?_)
                          all_goals (refine k_seq ?_)
                          all_goals (refine k_block ?_)
                          all_goals refine k_drawF (.one 0 [] (.one 1 [] (.one 2 [] (.one 3 [] (.one 4 [1] (.one 5 [1] (.one 6 [] (.one 7 [] (.one 8 [] .nil))))))))) ?_
                          all_goals (refine r_fieldAddr (i := 0) ?_)
                          all_goals (refine r_load (i := 1) ?_)
                          all_goals (refine r_move (i := 2) ?_)
                          all_goals (refine r_move (i := 3) ?_)
                          all_goals ((refine r_own (i := 4) (hq := (cF1 (hc := fun w1 hw => ref_c _ (hw.tape (by repeat (first | exact At.head | apply At.tail)) (by first | exact .new .head | exact .new (.tail .head) | exact .new (.tail (.tail .head)) | exact .new (.tail (.tail (.tail .head))) | exact .new (.tail (.tail (.tail (.tail .head)))) | exact .new (.tail (.tail (.tail (.tail (.tail .head))))) | exact .new (.tail (.tail (.tail (.tail (.tail (.tail .head)))))) | exact .new (.tail (.tail (.tail (.tail (.tail (.tail (.tail .head))))))) | exact .new (.tail (.tail (.tail (.tail (.tail (.tail (.tail (.tail .head)))))))) | exact .new (.tail (.tail (.tail (.tail (.tail (.tail (.tail (.tail (.tail .head))))))))) | exact .old .head | exact .old (.tail .head) | exact .old (.tail (.tail .head)) | exact .old (.tail (.tail (.tail .head))) | exact .old (.tail (.tail (.tail (.tail .head)))) | exact .old (.tail (.tail (.tail (.tail (.tail .head))))) | exact .own .head | exact .own (.tail .head) | exact .own (.tail (.tail .head)) | exact .own (.tail (.tail (.tail .head))) | exact .own (.tail (.tail (.tail (.tail .head)))) | exact .own (.tail (.tail (.tail (.tail (.tail .head))))) | exact .own (.tail (.tail (.tail (.tail (.tail (.tail .head)))))) | exact .own (.tail (.tail (.tail (.tail (.tail (.tail (.tail .head)))))))) ht.len) h0 (by omega)))) (hfire := (fun _ => by first | (refine FireAll.cons (by first | exact a_load | exact a_un) ?_; exact FireAll.nil) | (refine fireall_fact ?_; refine FireAll.cons (by first | exact a_load | exact a_un) ?_; exact FireAll.nil))) (h := fun x46 => ?_); try (refine r_fact (fun h46 => ?_))))
                          all_goals (refine r_buildSlice (i := 5) (hfire := (fun _ => by first | (refine FireAll.cons (by first | exact a_load | exact a_un) ?_; exact FireAll.nil) | (refine fireall_fact ?_; refine FireAll.cons (by first | exact a_load | exact a_un) ?_; exact FireAll.nil))) (h := fun x47 => ?_))
                          all_goals ((refine r_append (i := 6) (hfire := (fun _ => .nil)) (h := fun x48 => ?_); try (refine r_fact (fun h48 => ?_))))
                          all_goals (refine r_fieldAddr (i := 7) ?_)
                          all_goals (refine r_store (i := 8) (hfire := (fun _ => .nil)) (h := fun _ => ?_))
                          all_goals refine r_fin ?_
                          all_goals (refine k_blk ?_)
                          all_goals refine k_region ?_
                          all_goals refine j_move ?_
                          all_goals refine j_move ?_
                          all_goals refine j_sub ?_
                          all_goals refine j_and ?_
                          all_goals refine j_assignL (fun _ => ?_)
                          all_goals refine l_nil ?_
                          all_goals
                            refine k_roundF ((y.1 &&& (y.1 - 1), x48.1, y.2.2.1 ++ [1 + (x46 : Int)], x48.2, tiN l y.2.2.2.2)) ?_ ?_ (by repeat (first | (with_reducible exact Pre.refl) | refine Pre.cons (by exact rfl) ?_)) ?_ (fun w hw => by rw [show y.2.2.1.length + 1 = (y.2.2.1 ++ [1 + (x46 : Int)]).length by simp] at hw; exact hw.back)
                            · exact Nat.lt_of_le_of_lt Nat.and_le_right (by omega)
                            · repeat' (first | exact knows_nil _ | refine knows_cons ?_ ?_)
                              all_goals (conv => { lhs; whnf }; rw [raw_pred hy1 (by omega)])
                            · have hcp := cnt_pred 64 y.1 (by omega) hy1
                              refine ⟨Nat.lt_of_le_of_lt Nat.and_le_left hy1, by simp only [List.length_append, List.length_cons, List.length_nil]; omega, by simp only [List.length_append, List.length_cons, List.length_nil]; omega, fun r hr => ?_⟩
                              rcases List.mem_append.1 hr with hr | hr
                              · exact hy4 r hr
                              · simp only [List.mem_singleton] at hr; subst hr; omega
                        · try (exact absurd c37 (by decide))
                          all_goals (revert c37; (first | refine cv2 ?_ | refine cv4 ?_ | refine cv6 ?_ | refine cv8 ?_ | refine cva ?_ | refine cvc ?_ | refine cve ?_ | skip); intro c37)
                          all_goals (refine k_exit rfl ?_)
                          all_goals (refine k_seq ?_)
                          all_goals refine k_region ?_
                          all_goals refine j_load ?_
                          all_goals refine j_store (fun _ => ?_)
                          all_goals refine l_nil ?_
                          all_goals
                            refine k_retvF Try.results32 (.cell (by exact rfl) (by repeat (first | exact At.head | apply At.tail)) (by exact agg_of rfl) .nil) (fun w hw => ?_)
                            first | exact ⟨({ Nd.zero with kind := 2, gen := 1 + (x13 : Int) }, [], [], tiN l (tiN l k)), rfl, gen_inner (by omega) (by omega) (by omega), ((hw.fnil none).fnil none).finH⟩ | exact ⟨({ Nd.zero with kind := 5, hash := x54, key := keys8.getD x57 ⟨#[]⟩, val := x59 }, [], [], tiN l (tiN l (tiN l (tiN l k)))), rfl, gen_leaf (.inr rfl) (keys8_size _) (by omega), ((hw.fnil none).fnil none).finH⟩ | exact ⟨({ Nd.zero with kind := 6, hash := x65, prA := some ⟨x75, 0, none⟩, prN := 2, prC := 2 }, [], lst2 (x68 : Int) (keys8.getD x72 ⟨#[]⟩), tiN l (tiN l (tiN l (tiN l k)))), rfl, gen_list (keys8_size _) (by omega), (hw.fnil none).finH⟩ | exact ⟨({ Nd.zero with kind := 8, old := 1 + (x81 : Int), exp := 1 + (x84 : Int), new := 1 + (x87 : Int) }, [], [], tiN l (tiN l (tiN l (tiN l k)))), rfl, gen_desc (by omega) (by omega) (by omega), ((hw.fnil none).fnil none).finH⟩ | exact ⟨({ Nd.zero with kind := 4, hash := x90, key := keys8.getD x93 ⟨#[]⟩, val := x95 }, [], [], tiN l (tiN l (tiN l (tiN l k)))), rfl, gen_leaf (.inl rfl) (keys8_size _) (by omega), ((hw.fnil none).fnil none).finH⟩ | exact ⟨({ Nd.zero with kind := 3, bm := ((x.2.1 : Nat) : Int), brA := y.2.1, brN := y.2.2.1.length, brC := y.2.2.2.1 }, y.2.2.1, [], y.2.2.2.2), rfl, gen_c hxb (by rw [show y.1 = 0 by omega, cnt_zero] at hy2; omega) hy3 hy4 (by omega), ((hw.freeze .head (by simp)).fnil none).finH⟩
            · try (exact absurd c16 (by decide))
              all_goals (revert c16; (first | refine cv2 ?_ | refine cv4 ?_ | refine cv6 ?_ | refine cv8 ?_ | refine cva ?_ | refine cvc ?_ | refine cve ?_ | skip); intro c16)
              all_goals (refine k_seq ?_)
              all_goals refine k_region ?_
              all_goals refine j_eql ?_
              all_goals refine j_assignL (fun _ => ?_)
              all_goals refine l_nil ?_
              all_goals
                refine k_cond (by exact rfl) (fun c51 => ?_) (fun c51 => ?_)
                · try (exact absurd c51 (by decide))
                  all_goals (revert c51; (first | refine cv1 ?_ | refine cv3 ?_ | refine cv5 ?_ | refine cv7 ?_ | refine cv9 ?_ | refine cvb ?_ | refine cvd ?_ | skip); intro c51)
                  all_goals (refine k_seq ?_)
                  all_goals refine k_region ?_
                  all_goals refine j_move ?_
                  all_goals (refine j_own (cF1 (hc := fun w1 hw => next_c _ (hw.tape (by repeat (first | exact At.head | apply At.tail)) (by first | exact .new .head | exact .new (.tail .head) | exact .new (.tail (.tail .head)) | exact .new (.tail (.tail (.tail .head))) | exact .new (.tail (.tail (.tail (.tail .head)))) | exact .new (.tail (.tail (.tail (.tail (.tail .head))))) | exact .new (.tail (.tail (.tail (.tail (.tail (.tail .head)))))) | exact .new (.tail (.tail (.tail (.tail (.tail (.tail (.tail .head))))))) | exact .new (.tail (.tail (.tail (.tail (.tail (.tail (.tail (.tail .head)))))))) | exact .new (.tail (.tail (.tail (.tail (.tail (.tail (.tail (.tail (.tail .head))))))))) | exact .old .head | exact .old (.tail .head) | exact .old (.tail (.tail .head)) | exact .old (.tail (.tail (.tail .head))) | exact .old (.tail (.tail (.tail (.tail .head)))) | exact .old (.tail (.tail (.tail (.tail (.tail .head))))) | exact .own .head | exact .own (.tail .head) | exact .own (.tail (.tail .head)) | exact .own (.tail (.tail (.tail .head))) | exact .own (.tail (.tail (.tail (.tail .head)))) | exact .own (.tail (.tail (.tail (.tail (.tail .head))))) | exact .own (.tail (.tail (.tail (.tail (.tail (.tail .head)))))) | exact .own (.tail (.tail (.tail (.tail (.tail (.tail (.tail .head)))))))) ht.len) (by first | decide | omega) (by first | decide | omega))) (fun x54 => ?_); try (refine l_fact (fun h54 => ?_)))
                  all_goals refine j_convert ?_
                  all_goals refine j_move ?_
                  all_goals (refine j_own (cF1 (hc := fun w1 hw => key_c (hw.tape (by repeat (first | exact At.head | apply At.tail)) (by first | exact .new .head | exact .new (.tail .head) | exact .new (.tail (.tail .head)) | exact .new (.tail (.tail (.tail .head))) | exact .new (.tail (.tail (.tail (.tail .head)))) | exact .new (.tail (.tail (.tail (.tail (.tail .head))))) | exact .new (.tail (.tail (.tail (.tail (.tail (.tail .head)))))) | exact .new (.tail (.tail (.tail (.tail (.tail (.tail (.tail .head))))))) | exact .new (.tail (.tail (.tail (.tail (.tail (.tail (.tail (.tail .head)))))))) | exact .new (.tail (.tail (.tail (.tail (.tail (.tail (.tail (.tail (.tail .head))))))))) | exact .old .head | exact .old (.tail .head) | exact .old (.tail (.tail .head)) | exact .old (.tail (.tail (.tail .head))) | exact .old (.tail (.tail (.tail (.tail .head)))) | exact .old (.tail (.tail (.tail (.tail (.tail .head))))) | exact .own .head | exact .own (.tail .head) | exact .own (.tail (.tail .head)) | exact .own (.tail (.tail (.tail .head))) | exact .own (.tail (.tail (.tail (.tail .head)))) | exact .own (.tail (.tail (.tail (.tail (.tail .head))))) | exact .own (.tail (.tail (.tail (.tail (.tail (.tail .head)))))) | exact .own (.tail (.tail (.tail (.tail (.tail (.tail (.tail .head)))))))) ht.len))) (fun x57 => ?_); try (refine l_fact (fun h57 => ?_)))
                  all_goals refine j_move ?_
                  all_goals (refine j_own (cF1 (hc := fun w1 hw => next_c _ (hw.tape (by repeat (first | exact At.head | apply At.tail)) (by first | exact .new .head | exact .new (.tail .head) | exact .new (.tail (.tail .head)) | exact .new (.tail (.tail (.tail .head))) | exact .new (.tail (.tail (.tail (.tail .head)))) | exact .new (.tail (.tail (.tail (.tail (.tail .head))))) | exact .new (.tail (.tail (.tail (.tail (.tail (.tail .head)))))) | exact .new (.tail (.tail (.tail (.tail (.tail (.tail (.tail .head))))))) | exact .new (.tail (.tail (.tail (.tail (.tail (.tail (.tail (.tail .head)))))))) | exact .new (.tail (.tail (.tail (.tail (.tail (.tail (.tail (.tail (.tail .head))))))))) | exact .old .head | exact .old (.tail .head) | exact .old (.tail (.tail .head)) | exact .old (.tail (.tail (.tail .head))) | exact .old (.tail (.tail (.tail (.tail .head)))) | exact .old (.tail (.tail (.tail (.tail (.tail .head))))) | exact .own .head | exact .own (.tail .head) | exact .own (.tail (.tail .head)) | exact .own (.tail (.tail (.tail .head))) | exact .own (.tail (.tail (.tail (.tail .head)))) | exact .own (.tail (.tail (.tail (.tail (.tail .head))))) | exact .own (.tail (.tail (.tail (.tail (.tail (.tail .head)))))) | exact .own (.tail (.tail (.tail (.tail (.tail (.tail (.tail .head)))))))) ht.len) (by first | decide | omega) (by first | decide | omega))) (fun x59 => ?_); try (refine l_fact (fun h59 => ?_)))
                  all_goals refine j_convert ?_
                  all_goals refine j_build ?_
                  all_goals refine j_store (fun _ => ?_)
                  all_goals refine l_nil ?_
                  all_goals
                    refine k_retvF Try.results32 (.cell (by exact rfl) (by repeat (first | exact At.head | apply At.tail)) (by exact agg_of rfl) .nil) (fun w hw => ?_)
                    first | exact ⟨({ Nd.zero with kind := 2, gen := 1 + (x13 : Int) }, [], [], tiN l (tiN l k)), rfl, gen_inner (by omega) (by omega) (by omega), ((hw.fnil none).fnil none).finH⟩ | exact ⟨({ Nd.zero with kind := 5, hash := x54, key := keys8.getD x57 ⟨#[]⟩, val := x59 }, [], [], tiN l (tiN l (tiN l (tiN l k)))), rfl, gen_leaf (.inr rfl) (keys8_size _) (by omega), ((hw.fnil none).fnil none).finH⟩ | exact ⟨({ Nd.zero with kind := 6, hash := x65, prA := some ⟨x75, 0, none⟩, prN := 2, prC := 2 }, [], lst2 (x68 : Int) (keys8.getD x72 ⟨#[]⟩), tiN l (tiN l (tiN l (tiN l k)))), rfl, gen_list (keys8_size _) (by omega), (hw.fnil none).finH⟩ | exact ⟨({ Nd.zero with kind := 8, old := 1 + (x81 : Int), exp := 1 + (x84 : Int), new := 1 + (x87 : Int) }, [], [], tiN l (tiN l (tiN l (tiN l k)))), rfl, gen_desc (by omega) (by omega) (by omega), ((hw.fnil none).fnil none).finH⟩ | exact ⟨({ Nd.zero with kind := 4, hash := x90, key := keys8.getD x93 ⟨#[]⟩, val := x95 }, [], [], tiN l (tiN l (tiN l (tiN l k)))), rfl, gen_leaf (.inl rfl) (keys8_size _) (by omega), ((hw.fnil none).fnil none).finH⟩ | exact ⟨({ Nd.zero with kind := 3, bm := ((x.2.1 : Nat) : Int), brA := y.2.1, brN := y.2.2.1.length, brC := y.2.2.2.1 }, y.2.2.1, [], y.2.2.2.2), rfl, gen_c hxb (by rw [show y.1 = 0 by omega, cnt_zero] at hy2; omega) hy3 hy4 (by omega), ((hw.freeze .head (by simp)).fnil none).finH⟩
                · try (exact absurd c51 (by decide))
                  all_goals (revert c51; (first | refine cv2 ?_ | refine cv4 ?_ | refine cv6 ?_ | refine cv8 ?_ | refine cva ?_ | refine cvc ?_ | refine cve ?_ | skip); intro c51)
                  all_goals (refine k_seq ?_)
                  all_goals refine k_region ?_
                  all_goals refine j_eql ?_
                  all_goals refine j_assignL (fun _ => ?_)
                  all_goals refine l_nil ?_
                  all_goals
                    refine k_cond (by exact rfl) (fun c62 => ?_) (fun c62 => ?_)
                    · try (exact absurd c62 (by decide))
                      all_goals (revert c62; (first | refine cv1 ?_ | refine cv3 ?_ | refine cv5 ?_ | refine cv7 ?_ | refine cv9 ?_ | refine cvb ?_ | refine cvd ?_ | skip); intro c62)
                      all_goals (refine k_seq ?_)
                      all_goals refine k_region ?_
                      all_goals refine j_move ?_
                      all_goals (refine j_own (cF1 (hc := fun w1 hw => next_c _ (hw.tape (by repeat (first | exact At.head | apply At.tail)) (by first | exact .new .head | exact .new (.tail .head) | exact .new (.tail (.tail .head)) | exact .new (.tail (.tail (.tail .head))) | exact .new (.tail (.tail (.tail (.tail .head)))) | exact .new (.tail (.tail (.tail (.tail (.tail .head))))) | exact .new (.tail (.tail (.tail (.tail (.tail (.tail .head)))))) | exact .new (.tail (.tail (.tail (.tail (.tail (.tail (.tail .head))))))) | exact .new (.tail (.tail (.tail (.tail (.tail (.tail (.tail (.tail .head)))))))) | exact .new (.tail (.tail (.tail (.tail (.tail (.tail (.tail (.tail (.tail .head))))))))) | exact .old .head | exact .old (.tail .head) | exact .old (.tail (.tail .head)) | exact .old (.tail (.tail (.tail .head))) | exact .old (.tail (.tail (.tail (.tail .head)))) | exact .old (.tail (.tail (.tail (.tail (.tail .head))))) | exact .own .head | exact .own (.tail .head) | exact .own (.tail (.tail .head)) | exact .own (.tail (.tail (.tail .head))) | exact .own (.tail (.tail (.tail (.tail .head)))) | exact .own (.tail (.tail (.tail (.tail (.tail .head))))) | exact .own (.tail (.tail (.tail (.tail (.tail (.tail .head)))))) | exact .own (.tail (.tail (.tail (.tail (.tail (.tail (.tail .head)))))))) ht.len) (by first | decide | omega) (by first | decide | omega))) (fun x65 => ?_); try (refine l_fact (fun h65 => ?_)))
                      all_goals refine j_convert ?_
                      all_goals refine j_move ?_
                      all_goals (refine j_own (cF1 (hc := fun w1 hw => next_c _ (hw.tape (by repeat (first | exact At.head | apply At.tail)) (by first | exact .new .head | exact .new (.tail .head) | exact .new (.tail (.tail .head)) | exact .new (.tail (.tail (.tail .head))) | exact .new (.tail (.tail (.tail (.tail .head)))) | exact .new (.tail (.tail (.tail (.tail (.tail .head))))) | exact .new (.tail (.tail (.tail (.tail (.tail (.tail .head)))))) | exact .new (.tail (.tail (.tail (.tail (.tail (.tail (.tail .head))))))) | exact .new (.tail (.tail (.tail (.tail (.tail (.tail (.tail (.tail .head)))))))) | exact .new (.tail (.tail (.tail (.tail (.tail (.tail (.tail (.tail (.tail .head))))))))) | exact .old .head | exact .old (.tail .head) | exact .old (.tail (.tail .head)) | exact .old (.tail (.tail (.tail .head))) | exact .old (.tail (.tail (.tail (.tail .head)))) | exact .old (.tail (.tail (.tail (.tail (.tail .head))))) | exact .own .head | exact .own (.tail .head) | exact .own (.tail (.tail .head)) | exact .own (.tail (.tail (.tail .head))) | exact .own (.tail (.tail (.tail (.tail .head)))) | exact .own (.tail (.tail (.tail (.tail (.tail .head))))) | exact .own (.tail (.tail (.tail (.tail (.tail (.tail .head)))))) | exact .own (.tail (.tail (.tail (.tail (.tail (.tail (.tail .head)))))))) ht.len) (by first | decide | omega) (by first | decide | omega))) (fun x68 => ?_); try (refine l_fact (fun h68 => ?_)))
                      all_goals refine j_convert ?_
                      all_goals refine j_build ?_
                      all_goals refine j_move ?_
                      all_goals (refine j_own (cF1 (hc := fun w1 hw => key_c (hw.tape (by repeat (first | exact At.head | apply At.tail)) (by first | exact .new .head | exact .new (.tail .head) | exact .new (.tail (.tail .head)) | exact .new (.tail (.tail (.tail .head))) | exact .new (.tail (.tail (.tail (.tail .head)))) | exact .new (.tail (.tail (.tail (.tail (.tail .head))))) | exact .new (.tail (.tail (.tail (.tail (.tail (.tail .head)))))) | exact .new (.tail (.tail (.tail (.tail (.tail (.tail (.tail .head))))))) | exact .new (.tail (.tail (.tail (.tail (.tail (.tail (.tail (.tail .head)))))))) | exact .new (.tail (.tail (.tail (.tail (.tail (.tail (.tail (.tail (.tail .head))))))))) | exact .old .head | exact .old (.tail .head) | exact .old (.tail (.tail .head)) | exact .old (.tail (.tail (.tail .head))) | exact .old (.tail (.tail (.tail (.tail .head)))) | exact .old (.tail (.tail (.tail (.tail (.tail .head))))) | exact .own .head | exact .own (.tail .head) | exact .own (.tail (.tail .head)) | exact .own (.tail (.tail (.tail .head))) | exact .own (.tail (.tail (.tail (.tail .head)))) | exact .own (.tail (.tail (.tail (.tail (.tail .head))))) | exact .own (.tail (.tail (.tail (.tail (.tail (.tail .head)))))) | exact .own (.tail (.tail (.tail (.tail (.tail (.tail (.tail .head)))))))) ht.len))) (fun x72 => ?_); try (refine l_fact (fun h72 => ?_)))
                      all_goals refine l_quiet (o_catStr (by exact rfl) (by exact rfl) (by have h1 := keys8_size x72; have h2 : (⟨#[98]⟩ : ByteArray).size = 1 := rfl; omega)) rfl ?_
                      all_goals refine j_build ?_
                      all_goals refine j_buildSlice (fun x75 => ?_)
                      all_goals refine j_build ?_
                      all_goals refine j_store (fun _ => ?_)
                      all_goals refine l_nil ?_
                      all_goals
                        refine k_retvF Try.results32 (.cell (by exact rfl) (by repeat (first | exact At.head | apply At.tail)) (by exact agg_of rfl) .nil) (fun w hw => ?_)
                        first | exact ⟨({ Nd.zero with kind := 2, gen := 1 + (x13 : Int) }, [], [], tiN l (tiN l k)), rfl, gen_inner (by omega) (by omega) (by omega), ((hw.fnil none).fnil none).finH⟩ | exact ⟨({ Nd.zero with kind := 5, hash := x54, key := keys8.getD x57 ⟨#[]⟩, val := x59 }, [], [], tiN l (tiN l (tiN l (tiN l k)))), rfl, gen_leaf (.inr rfl) (keys8_size _) (by omega), ((hw.fnil none).fnil none).finH⟩ | exact ⟨({ Nd.zero with kind := 6, hash := x65, prA := some ⟨x75, 0, none⟩, prN := 2, prC := 2 }, [], lst2 (x68 : Int) (keys8.getD x72 ⟨#[]⟩), tiN l (tiN l (tiN l (tiN l k)))), rfl, gen_list (keys8_size _) (by omega), (hw.fnil none).finH⟩ | exact ⟨({ Nd.zero with kind := 8, old := 1 + (x81 : Int), exp := 1 + (x84 : Int), new := 1 + (x87 : Int) }, [], [], tiN l (tiN l (tiN l (tiN l k)))), rfl, gen_desc (by omega) (by omega) (by omega), ((hw.fnil none).fnil none).finH⟩ | exact ⟨({ Nd.zero with kind := 4, hash := x90, key := keys8.getD x93 ⟨#[]⟩, val := x95 }, [], [], tiN l (tiN l (tiN l (tiN l k)))), rfl, gen_leaf (.inl rfl) (keys8_size _) (by omega), ((hw.fnil none).fnil none).finH⟩ | exact ⟨({ Nd.zero with kind := 3, bm := ((x.2.1 : Nat) : Int), brA := y.2.1, brN := y.2.2.1.length, brC := y.2.2.2.1 }, y.2.2.1, [], y.2.2.2.2), rfl, gen_c hxb (by rw [show y.1 = 0 by omega, cnt_zero] at hy2; omega) hy3 hy4 (by omega), ((hw.freeze .head (by simp)).fnil none).finH⟩
                    · try (exact absurd c62 (by decide))
                      all_goals (revert c62; (first | refine cv2 ?_ | refine cv4 ?_ | refine cv6 ?_ | refine cv8 ?_ | refine cva ?_ | refine cvc ?_ | refine cve ?_ | skip); intro c62)
                      all_goals (refine k_seq ?_)
                      all_goals refine k_region ?_
                      all_goals refine j_eql ?_
                      all_goals refine j_assignL (fun _ => ?_)
                      all_goals refine l_nil ?_
                      all_goals
                        refine k_cond (by exact rfl) (fun c77 => ?_) (fun c77 => ?_)
                        · try (exact absurd c77 (by decide))
                          all_goals (revert c77; (first | refine cv1 ?_ | refine cv3 ?_ | refine cv5 ?_ | refine cv7 ?_ | refine cv9 ?_ | refine cvb ?_ | refine cvd ?_ | skip); intro c77)
                          all_goals (refine k_seq ?_)
                          all_goals refine k_region ?_
                          all_goals refine j_move ?_
                          all_goals refine j_move ?_
                          all_goals (refine j_own (cF1 (hc := fun w1 hw => ref_c _ (hw.tape (by repeat (first | exact At.head | apply At.tail)) (by first | exact .new .head | exact .new (.tail .head) | exact .new (.tail (.tail .head)) | exact .new (.tail (.tail (.tail .head))) | exact .new (.tail (.tail (.tail (.tail .head)))) | exact .new (.tail (.tail (.tail (.tail (.tail .head))))) | exact .new (.tail (.tail (.tail (.tail (.tail (.tail .head)))))) | exact .new (.tail (.tail (.tail (.tail (.tail (.tail (.tail .head))))))) | exact .new (.tail (.tail (.tail (.tail (.tail (.tail (.tail (.tail .head)))))))) | exact .new (.tail (.tail (.tail (.tail (.tail (.tail (.tail (.tail (.tail .head))))))))) | exact .old .head | exact .old (.tail .head) | exact .old (.tail (.tail .head)) | exact .old (.tail (.tail (.tail .head))) | exact .old (.tail (.tail (.tail (.tail .head)))) | exact .old (.tail (.tail (.tail (.tail (.tail .head))))) | exact .own .head | exact .own (.tail .head) | exact .own (.tail (.tail .head)) | exact .own (.tail (.tail (.tail .head))) | exact .own (.tail (.tail (.tail (.tail .head)))) | exact .own (.tail (.tail (.tail (.tail (.tail .head))))) | exact .own (.tail (.tail (.tail (.tail (.tail (.tail .head)))))) | exact .own (.tail (.tail (.tail (.tail (.tail (.tail (.tail .head)))))))) ht.len) h0 (by omega))) (fun x81 => ?_); try (refine l_fact (fun h81 => ?_)))
                          all_goals refine j_move ?_
                          all_goals refine j_move ?_
                          all_goals (refine j_own (cF1 (hc := fun w1 hw => ref_c _ (hw.tape (by repeat (first | exact At.head | apply At.tail)) (by first | exact .new .head | exact .new (.tail .head) | exact .new (.tail (.tail .head)) | exact .new (.tail (.tail (.tail .head))) | exact .new (.tail (.tail (.tail (.tail .head)))) | exact .new (.tail (.tail (.tail (.tail (.tail .head))))) | exact .new (.tail (.tail (.tail (.tail (.tail (.tail .head)))))) | exact .new (.tail (.tail (.tail (.tail (.tail (.tail (.tail .head))))))) | exact .new (.tail (.tail (.tail (.tail (.tail (.tail (.tail (.tail .head)))))))) | exact .new (.tail (.tail (.tail (.tail (.tail (.tail (.tail (.tail (.tail .head))))))))) | exact .old .head | exact .old (.tail .head) | exact .old (.tail (.tail .head)) | exact .old (.tail (.tail (.tail .head))) | exact .old (.tail (.tail (.tail (.tail .head)))) | exact .old (.tail (.tail (.tail (.tail (.tail .head))))) | exact .own .head | exact .own (.tail .head) | exact .own (.tail (.tail .head)) | exact .own (.tail (.tail (.tail .head))) | exact .own (.tail (.tail (.tail (.tail .head)))) | exact .own (.tail (.tail (.tail (.tail (.tail .head))))) | exact .own (.tail (.tail (.tail (.tail (.tail (.tail .head)))))) | exact .own (.tail (.tail (.tail (.tail (.tail (.tail (.tail .head)))))))) ht.len) h0 (by omega))) (fun x84 => ?_); try (refine l_fact (fun h84 => ?_)))
                          all_goals refine j_move ?_
                          all_goals refine j_move ?_
                          all_goals (refine j_own (cF1 (hc := fun w1 hw => ref_c _ (hw.tape (by repeat (first | exact At.head | apply At.tail)) (by first | exact .new .head | exact .new (.tail .head) | exact .new (.tail (.tail .head)) | exact .new (.tail (.tail (.tail .head))) | exact .new (.tail (.tail (.tail (.tail .head)))) | exact .new (.tail (.tail (.tail (.tail (.tail .head))))) | exact .new (.tail (.tail (.tail (.tail (.tail (.tail .head)))))) | exact .new (.tail (.tail (.tail (.tail (.tail (.tail (.tail .head))))))) | exact .new (.tail (.tail (.tail (.tail (.tail (.tail (.tail (.tail .head)))))))) | exact .new (.tail (.tail (.tail (.tail (.tail (.tail (.tail (.tail (.tail .head))))))))) | exact .old .head | exact .old (.tail .head) | exact .old (.tail (.tail .head)) | exact .old (.tail (.tail (.tail .head))) | exact .old (.tail (.tail (.tail (.tail .head)))) | exact .old (.tail (.tail (.tail (.tail (.tail .head))))) | exact .own .head | exact .own (.tail .head) | exact .own (.tail (.tail .head)) | exact .own (.tail (.tail (.tail .head))) | exact .own (.tail (.tail (.tail (.tail .head)))) | exact .own (.tail (.tail (.tail (.tail (.tail .head))))) | exact .own (.tail (.tail (.tail (.tail (.tail (.tail .head)))))) | exact .own (.tail (.tail (.tail (.tail (.tail (.tail (.tail .head)))))))) ht.len) h0 (by omega))) (fun x87 => ?_); try (refine l_fact (fun h87 => ?_)))
                          all_goals refine j_build ?_
                          all_goals refine j_store (fun _ => ?_)
                          all_goals refine l_nil ?_
                          all_goals
                            refine k_retvF Try.results32 (.cell (by exact rfl) (by repeat (first | exact At.head | apply At.tail)) (by exact agg_of rfl) .nil) (fun w hw => ?_)
                            first | exact ⟨({ Nd.zero with kind := 2, gen := 1 + (x13 : Int) }, [], [], tiN l (tiN l k)), rfl, gen_inner (by omega) (by omega) (by omega), ((hw.fnil none).fnil none).finH⟩ | exact ⟨({ Nd.zero with kind := 5, hash := x54, key := keys8.getD x57 ⟨#[]⟩, val := x59 }, [], [], tiN l (tiN l (tiN l (tiN l k)))), rfl, gen_leaf (.inr rfl) (keys8_size _) (by omega), ((hw.fnil none).fnil none).finH⟩ | exact ⟨({ Nd.zero with kind := 6, hash := x65, prA := some ⟨x75, 0, none⟩, prN := 2, prC := 2 }, [], lst2 (x68 : Int) (keys8.getD x72 ⟨#[]⟩), tiN l (tiN l (tiN l (tiN l k)))), rfl, gen_list (keys8_size _) (by omega), (hw.fnil none).finH⟩ | exact ⟨({ Nd.zero with kind := 8, old := 1 + (x81 : Int), exp := 1 + (x84 : Int), new := 1 + (x87 : Int) }, [], [], tiN l (tiN l (tiN l (tiN l k)))), rfl, gen_desc (by omega) (by omega) (by omega), ((hw.fnil none).fnil none).finH⟩ | exact ⟨({ Nd.zero with kind := 4, hash := x90, key := keys8.getD x93 ⟨#[]⟩, val := x95 }, [], [], tiN l (tiN l (tiN l (tiN l k)))), rfl, gen_leaf (.inl rfl) (keys8_size _) (by omega), ((hw.fnil none).fnil none).finH⟩ | exact ⟨({ Nd.zero with kind := 3, bm := ((x.2.1 : Nat) : Int), brA := y.2.1, brN := y.2.2.1.length, brC := y.2.2.2.1 }, y.2.2.1, [], y.2.2.2.2), rfl, gen_c hxb (by rw [show y.1 = 0 by omega, cnt_zero] at hy2; omega) hy3 hy4 (by omega), ((hw.freeze .head (by simp)).fnil none).finH⟩
                        · try (exact absurd c77 (by decide))
                          all_goals (revert c77; (first | refine cv2 ?_ | refine cv4 ?_ | refine cv6 ?_ | refine cv8 ?_ | refine cva ?_ | refine cvc ?_ | refine cve ?_ | skip); intro c77)
                          all_goals (refine k_skip ?_)
                          all_goals (refine k_blk ?_)
                          all_goals (refine k_seq ?_)
                          all_goals refine k_region ?_
                          all_goals refine j_move ?_
                          all_goals (refine j_own (cF1 (hc := fun w1 hw => next_c _ (hw.tape (by repeat (first | exact At.head | apply At.tail)) (by first | exact .new .head | exact .new (.tail .head) | exact .new (.tail (.tail .head)) | exact .new (.tail (.tail (.tail .head))) | exact .new (.tail (.tail (.tail (.tail .head)))) | exact .new (.tail (.tail (.tail (.tail (.tail .head))))) | exact .new (.tail (.tail (.tail (.tail (.tail (.tail .head)))))) | exact .new (.tail (.tail (.tail (.tail (.tail (.tail (.tail .head))))))) | exact .new (.tail (.tail (.tail (.tail (.tail (.tail (.tail (.tail .head)))))))) | exact .new (.tail (.tail (.tail (.tail (.tail (.tail (.tail (.tail (.tail .head))))))))) | exact .old .head | exact .old (.tail .head) | exact .old (.tail (.tail .head)) | exact .old (.tail (.tail (.tail .head))) | exact .old (.tail (.tail (.tail (.tail .head)))) | exact .old (.tail (.tail (.tail (.tail (.tail .head))))) | exact .own .head | exact .own (.tail .head) | exact .own (.tail (.tail .head)) | exact .own (.tail (.tail (.tail .head))) | exact .own (.tail (.tail (.tail (.tail .head)))) | exact .own (.tail (.tail (.tail (.tail (.tail .head))))) | exact .own (.tail (.tail (.tail (.tail (.tail (.tail .head)))))) | exact .own (.tail (.tail (.tail (.tail (.tail (.tail (.tail .head)))))))) ht.len) (by first | decide | omega) (by first | decide | omega))) (fun x90 => ?_); try (refine l_fact (fun h90 => ?_)))
                          all_goals refine j_convert ?_
                          all_goals refine j_move ?_
                          all_goals (refine j_own (cF1 (hc := fun w1 hw => key_c (hw.tape (by repeat (first | exact At.head | apply At.tail)) (by first | exact .new .head | exact .new (.tail .head) | exact .new (.tail (.tail .head)) | exact .new (.tail (.tail (.tail .head))) | exact .new (.tail (.tail (.tail (.tail .head)))) | exact .new (.tail (.tail (.tail (.tail (.tail .head))))) | exact .new (.tail (.tail (.tail (.tail (.tail (.tail .head)))))) | exact .new (.tail (.tail (.tail (.tail (.tail (.tail (.tail .head))))))) | exact .new (.tail (.tail (.tail (.tail (.tail (.tail (.tail (.tail .head)))))))) | exact .new (.tail (.tail (.tail (.tail (.tail (.tail (.tail (.tail (.tail .head))))))))) | exact .old .head | exact .old (.tail .head) | exact .old (.tail (.tail .head)) | exact .old (.tail (.tail (.tail .head))) | exact .old (.tail (.tail (.tail (.tail .head)))) | exact .old (.tail (.tail (.tail (.tail (.tail .head))))) | exact .own .head | exact .own (.tail .head) | exact .own (.tail (.tail .head)) | exact .own (.tail (.tail (.tail .head))) | exact .own (.tail (.tail (.tail (.tail .head)))) | exact .own (.tail (.tail (.tail (.tail (.tail .head))))) | exact .own (.tail (.tail (.tail (.tail (.tail (.tail .head)))))) | exact .own (.tail (.tail (.tail (.tail (.tail (.tail (.tail .head)))))))) ht.len))) (fun x93 => ?_); try (refine l_fact (fun h93 => ?_)))
                          all_goals refine j_move ?_
                          all_goals (refine j_own (cF1 (hc := fun w1 hw => next_c _ (hw.tape (by repeat (first | exact At.head | apply At.tail)) (by first | exact .new .head | exact .new (.tail .head) | exact .new (.tail (.tail .head)) | exact .new (.tail (.tail (.tail .head))) | exact .new (.tail (.tail (.tail (.tail .head)))) | exact .new (.tail (.tail (.tail (.tail (.tail .head))))) | exact .new (.tail (.tail (.tail (.tail (.tail (.tail .head)))))) | exact .new (.tail (.tail (.tail (.tail (.tail (.tail (.tail .head))))))) | exact .new (.tail (.tail (.tail (.tail (.tail (.tail (.tail (.tail .head)))))))) | exact .new (.tail (.tail (.tail (.tail (.tail (.tail (.tail (.tail (.tail .head))))))))) | exact .old .head | exact .old (.tail .head) | exact .old (.tail (.tail .head)) | exact .old (.tail (.tail (.tail .head))) | exact .old (.tail (.tail (.tail (.tail .head)))) | exact .old (.tail (.tail (.tail (.tail (.tail .head))))) | exact .own .head | exact .own (.tail .head) | exact .own (.tail (.tail .head)) | exact .own (.tail (.tail (.tail .head))) | exact .own (.tail (.tail (.tail (.tail .head)))) | exact .own (.tail (.tail (.tail (.tail (.tail .head))))) | exact .own (.tail (.tail (.tail (.tail (.tail (.tail .head)))))) | exact .own (.tail (.tail (.tail (.tail (.tail (.tail (.tail .head)))))))) ht.len) (by first | decide | omega) (by first | decide | omega))) (fun x95 => ?_); try (refine l_fact (fun h95 => ?_)))
                          all_goals refine j_convert ?_
                          all_goals refine j_build ?_
                          all_goals refine j_store (fun _ => ?_)
                          all_goals refine l_nil ?_
                          all_goals
                            refine k_retvF Try.results32 (.cell (by exact rfl) (by repeat (first | exact At.head | apply At.tail)) (by exact agg_of rfl) .nil) (fun w hw => ?_)
                            first | exact ⟨({ Nd.zero with kind := 2, gen := 1 + (x13 : Int) }, [], [], tiN l (tiN l k)), rfl, gen_inner (by omega) (by omega) (by omega), ((hw.fnil none).fnil none).finH⟩ | exact ⟨({ Nd.zero with kind := 5, hash := x54, key := keys8.getD x57 ⟨#[]⟩, val := x59 }, [], [], tiN l (tiN l (tiN l (tiN l k)))), rfl, gen_leaf (.inr rfl) (keys8_size _) (by omega), ((hw.fnil none).fnil none).finH⟩ | exact ⟨({ Nd.zero with kind := 6, hash := x65, prA := some ⟨x75, 0, none⟩, prN := 2, prC := 2 }, [], lst2 (x68 : Int) (keys8.getD x72 ⟨#[]⟩), tiN l (tiN l (tiN l (tiN l k)))), rfl, gen_list (keys8_size _) (by omega), (hw.fnil none).finH⟩ | exact ⟨({ Nd.zero with kind := 8, old := 1 + (x81 : Int), exp := 1 + (x84 : Int), new := 1 + (x87 : Int) }, [], [], tiN l (tiN l (tiN l (tiN l k)))), rfl, gen_desc (by omega) (by omega) (by omega), ((hw.fnil none).fnil none).finH⟩ | exact ⟨({ Nd.zero with kind := 4, hash := x90, key := keys8.getD x93 ⟨#[]⟩, val := x95 }, [], [], tiN l (tiN l (tiN l (tiN l k)))), rfl, gen_leaf (.inl rfl) (keys8_size _) (by omega), ((hw.fnil none).fnil none).finH⟩ | exact ⟨({ Nd.zero with kind := 3, bm := ((x.2.1 : Nat) : Int), brA := y.2.1, brN := y.2.2.1.length, brC := y.2.2.2.1 }, y.2.2.1, [], y.2.2.2.2), rfl, gen_c hxb (by rw [show y.1 = 0 by omega, cnt_zero] at hy2; omega) hy3 hy4 (by omega), ((hw.freeze .head (by simp)).fnil none).finH⟩
end Go.Proofs.Ytmogngagpphnhaa

/- law CellMoves, walked. -/
import Derived.Test.YtacakmlkaikabaaDoorEb
import Derived.Test.YtacakmlkaikabaaDoorCd
namespace Go.Proofs.YtacakmlkaikabaaDoor
set_option linter.unusedVariables false
open Go.RowKit

theorem mv_rm (c k : Int) (a : Bool) (n : Int) (h0 : 0 ≤ c) (h1 : c < n) (h2 : n ≤ 1000) (k0 : -9223372036854775808 ≤ k) (k1 : k ≤ 9223372036854775807) :
    ((0 ≤ mvd c k a ∧ mvd c k a < n) ↔ (0 ≤ rmv c k a n ∧ rmv c k a n < n)) ∧ ((0 ≤ mvd c k a ∧ mvd c k a < n) → mvd c k a = rmv c k a n) := by
  cases a with
  | true => simp [mvd, rmv]
  | false =>
    simp only [mvd, rmv, Bool.false_eq_true, if_false]
    have hw : wrap64 (c + k) = c + k ∨ wrap64 (c + k) < 0 := by
      unfold wrap64
      omega
    have hw2 : c + k ≤ 9223372036854775807 → wrap64 (c + k) = c + k := by
      intro h
      unfold wrap64
      omega
    split <;> constructor
    · constructor
      · intro h; rcases hw with e | e <;> omega
      · intro h; omega
    · intro h; rcases hw with e | e <;> omega
    · have := hw2 (by omega); omega
    · intro _; exact hw2 (by omega)

theorem mvT_eq (c r : Int) (ac ar : Bool) (k l : Int) (h : okB c r = true) (k0 : -9223372036854775808 ≤ k) (k1 : k ≤ 9223372036854775807) (l0 : -9223372036854775808 ≤ l) (l1 : l ≤ 9223372036854775807) :
    okB (rmv c k ac 64) (rmv r l ar 1000) = okB (mvd c k ac) (mvd r l ar) ∧ (okB (mvd c k ac) (mvd r l ar) = true → mvd c k ac = rmv c k ac 64 ∧ mvd r l ar = rmv r l ar 1000) := by
  obtain ⟨a0, a1, a2, a3⟩ := okB_t h
  have m1 := mv_rm c k ac 64 a0 a1 (by omega) k0 k1
  have m2 := mv_rm r l ar 1000 a2 a3 (by omega) l0 l1
  refine ⟨?_, fun h => ?_⟩
  · rw [Bool.eq_iff_iff]
    constructor
    · intro h; obtain ⟨b0, b1, b2, b3⟩ := okB_t h; exact okB_mk (m1.1.2 ⟨b0, b1⟩).1 (m1.1.2 ⟨b0, b1⟩).2 (m2.1.2 ⟨b2, b3⟩).1 (m2.1.2 ⟨b2, b3⟩).2
    · intro h; obtain ⟨b0, b1, b2, b3⟩ := okB_t h; exact okB_mk (m1.1.1 ⟨b0, b1⟩).1 (m1.1.1 ⟨b0, b1⟩).2 (m2.1.1 ⟨b2, b3⟩).1 (m2.1.1 ⟨b2, b3⟩).2
  · obtain ⟨b0, b1, b2, b3⟩ := okB_t h
    exact ⟨m1.2 ⟨b0, b1⟩, m2.2 ⟨b2, b3⟩⟩

theorem refMoved_any (c r : Int) (ac ar : Bool) (k l : Int) (w : World) (k0 : -9223372036854775808 ≤ k) (k1 : k ≤ 9223372036854775807) (l0 : -9223372036854775808 ≤ l) (l1 : l ≤ 9223372036854775807) :
    Calls Tryd.prog 17 #[.agg #[.int .i64 c, .int .i64 r, .bool ac, .bool ar], .int .i64 k, .int .i64 l] w fun e w' => e = .returned (mvV c r ac ar k l) ∧ Below w.heap.size w w' := by
  cases h1 : okB c r with
  | false =>
    have e : mvV c r ac ar k l = .tuple #[.agg #[.int .i64 0, .int .i64 0, .bool false, .bool false], .bool false] := by simp [mvV, mvT, h1]
    rw [e]; exact refMoved_bad c r ac ar k l w h1
  | true =>
    obtain ⟨q1, q2⟩ := mvT_eq c r ac ar k l h1 k0 k1 l0 l1
    cases h2 : okB (mvd c k ac) (mvd r l ar) with
    | false =>
      have e : mvV c r ac ar k l = .tuple #[.agg #[.int .i64 0, .int .i64 0, .bool false, .bool false], .bool false] := by simp [mvV, mvT, h1, h2]
      rw [e]; exact refMoved_false c r ac ar k l w h1 (by rw [q1, h2]) k0 k1 l0 l1
    | true =>
      obtain ⟨e1, e2⟩ := q2 h2
      have e : mvV c r ac ar k l = .tuple #[.agg #[.int .i64 (rmv c k ac 64), .int .i64 (rmv r l ar 1000), .bool ac, .bool ar], .bool true] := by rw [← e1, ← e2]; simp [mvV, mvT, h1, h2]
      rw [e]; exact refMoved_true c r ac ar k l w h1 (by rw [q1, h2]) k0 k1 l0 l1

theorem mvV_parts (c r : Int) (ac ar : Bool) (k l : Int) : ∃ x y p q t, mvV c r ac ar k l = .tuple #[.agg #[.int .i64 x, .int .i64 y, .bool p, .bool q], .bool t] := by
  unfold mvV; split <;> exact ⟨_, _, _, _, _, rfl⟩

set_option maxHeartbeats 4000000 in
set_option maxRecDepth 100000 in
theorem cellMoves_walk (c r : Int) (ac ar : Bool) (k l : Int) (w : World) (ht : HT w) (k0 : -9223372036854775808 ≤ k) (k1 : k ≤ 9223372036854775807) (l0 : -9223372036854775808 ≤ l) (l1 : l ≤ 9223372036854775807) :
    Calls Tryd.prog 4 #[.agg #[.int .i64 c, .int .i64 r, .bool ac, .bool ar], .int .i64 k, .int .i64 l] w fun e w' => e = .returned (.bool true) ∧ Below w.heap.size w w' := by
  have K0 := Lib.hid k0
  have K1 := Lib.hid k1
  have L0 := Lib.hid l0
  have L1 := Lib.hid l1
  clear k0 k1 l0 l1
  obtain ⟨x, y, p, q, t, hv⟩ := mvV_parts c r ac ar k l
  have HV := Lib.hid hv
  have HT0 := Lib.hid ht
  clear hv ht
  have bA := blk_new w (.cells #[.int .i64 c, .int .i64 r, .bool ac, .bool ar] 23)
  go_enter Tryd.func4, Tryd.ntmps4
  go_wp2_with (first
    | (go_at_call 9; refine (shown_any _ (HT0.out.stay ((Below.refl _ w).alloc (Nat.le_refl _) _))).mono ?_; rintro e w1 ⟨rfl, hB1⟩; have bA := blk_keep hB1 bA; have a0 := blk_cell bA 0; have a1 := blk_cell bA 1; have a2 := blk_cell bA 2; have a3 := blk_cell bA 3; simp at a0 a1 a2 a3; have la := blk_lt bA)
    | (go_at_call 16; refine (moved_any _ _ _ _ _ _ _).mono ?_; rintro e w2 ⟨he, hB2⟩; rw [HV.out] at he; subst he; have bA2 := blk_keep hB2 bA; have c0 := blk_cell bA2 0; have c1 := blk_cell bA2 1; have c2 := blk_cell bA2 2; have c3 := blk_cell bA2 3; simp at c0 c1 c2 c3; have lc := blk_lt bA2)
    | (go_at_call 17; refine (refMoved_any _ _ _ _ _ _ _ K0.out K1.out L0.out L1.out).mono ?_; rintro e w3 ⟨he, hB3⟩; rw [HV.out] at he; subst he; have bM := blk_keep hB3 (blk_new w2 (.cells #[.int .i64 x, .int .i64 y, .bool p, .bool q] 23)); have d0 := blk_cell bM 0; have d1 := blk_cell bM 1; have d2 := blk_cell bM 2; have d3 := blk_cell bM 3; simp at d0 d1 d2 d3; have ld := blk_lt bM))
  refine bodyPost_ret (v := .bool true) (by simp [results, Tryd.results4, go_sem]; done) rfl ⟨rfl, ?_⟩
  have s1 := hB1.size
  have s2 := hB2.size
  have s3 := hB3.size
  simp at s1 s3
  refine ((((((Below.refl _ w).alloc (Nat.le_refl _) _).trans (hB1.mono (by simp))).trans (hB2.mono (by omega))).alloc (by omega) _).trans (hB3.mono (by simp; omega))).alloc (by omega) _
end Go.Proofs.YtacakmlkaikabaaDoor

/- law CellThere, walked: there and back. -/
import Derived.Test.YtacakmlkaikabaaDoorEb
import Derived.Test.YtacakmlkaikabaaDoorCd
namespace Go.Proofs.YtacakmlkaikabaaDoor
set_option linter.unusedVariables false
open Go.RowKit

theorem mvd_back (c k n : Int) (a : Bool) (h0 : 0 ≤ c) (h1 : c < n) (h2 : n ≤ 1000) (k0 : -1000 ≤ k) (k1 : k ≤ 1000) (hb : 0 ≤ mvd c k a) : mvd (mvd c k a) (-k) a = c := by
  cases a with
  | true => simp [mvd]
  | false =>
    simp only [mvd, Bool.false_eq_true, if_false] at hb ⊢
    have e : wrap64 (c + k) = c + k := by unfold wrap64; omega
    rw [e] at hb ⊢
    unfold wrap64
    omega

theorem mv_back (c r : Int) (ac ar : Bool) (k l : Int) (h : mvT c r ac ar k l = true) (k0 : -1000 ≤ k) (k1 : k ≤ 1000) (l0 : -1000 ≤ l) (l1 : l ≤ 1000) :
    mvV (mvd c k ac) (mvd r l ar) ac ar (-k) (-l) = .tuple #[.agg #[.int .i64 c, .int .i64 r, .bool ac, .bool ar], .bool true] := by
  simp only [mvT, Bool.and_eq_true] at h
  obtain ⟨a0, a1, a2, a3⟩ := okB_t h.1
  obtain ⟨b0, b1, b2, b3⟩ := okB_t h.2
  have e1 := mvd_back c k 64 ac a0 a1 (by omega) k0 k1 b0
  have e2 := mvd_back r l 1000 ar a2 a3 (by omega) l0 l1 b2
  simp only [mvV, mvT, e1, e2, h.1, h.2, Bool.and_self, if_true]

set_option maxHeartbeats 8000000 in
set_option maxRecDepth 100000 in
theorem there_yes (c r x y : Int) (ac ar : Bool) (k l : Int) (w : World) (ht : HT w)
    (hv : mvV c r ac ar k l = .tuple #[.agg #[.int .i64 x, .int .i64 y, .bool ac, .bool ar], .bool true]) (hx : ac = true → x = c) (hy : ar = true → y = r)
    (hb : -1000 ≤ k → k ≤ 1000 → -1000 ≤ l → l ≤ 1000 → mvV x y ac ar (-k) (-l) = .tuple #[.agg #[.int .i64 c, .int .i64 r, .bool ac, .bool ar], .bool true]) :
    Calls Tryd.prog 6 #[.agg #[.int .i64 c, .int .i64 r, .bool ac, .bool ar], .int .i64 k, .int .i64 l] w fun e w' => e = .returned (.bool true) ∧ Below w.heap.size w w' := by
  have HX := Lib.hid hx
  have HY := Lib.hid hy
  have HB := Lib.hid hb
  have HV := Lib.hid hv
  have HT0 := Lib.hid ht
  clear hx hy hb hv ht
  have bA := blk_new w (.cells #[.int .i64 c, .int .i64 r, .bool ac, .bool ar] 23)
  cases ac <;> cases ar
  all_goals (first | obtain rfl := HX.out rfl | skip)
  all_goals (first | obtain rfl := HY.out rfl | skip)
  all_goals
    go_enter Tryd.func6, Tryd.ntmps6
    go_wp2_with (first
      | (go_at_call 9; refine (shown_any _ (HT0.out.stay ((Below.refl _ w).alloc (Nat.le_refl _) _))).mono ?_; rintro e w1 ⟨rfl, hB1⟩; have bA := blk_keep hB1 bA; have a0 := blk_cell bA 0; have a1 := blk_cell bA 1; have a2 := blk_cell bA 2; have a3 := blk_cell bA 3; simp at a0 a1 a2 a3; have la := blk_lt bA)
      | (go_at_call 16; refine (moved_any _ _ _ _ _ _ _).mono ?_; rintro e w2 ⟨he, hB2⟩; rw [HV.out] at he; subst he; have bA2 := blk_keep hB2 bA; have c0 := blk_cell bA2 0; have c1 := blk_cell bA2 1; have c2 := blk_cell bA2 2; have c3 := blk_cell bA2 3; simp at c0 c1 c2 c3; have lc := blk_lt bA2)
      | (go_at_call 16; refine (moved_any _ _ _ _ _ _ _).mono ?_; rintro e w3 ⟨he, hB3⟩; rw [HB.out (by omega) (by omega) (by omega) (by omega)] at he; subst he; have bA3 := blk_keep hB3 (blk_alloc bA2 _); have d0 := blk_cell bA3 0; have d1 := blk_cell bA3 1; have d2 := blk_cell bA3 2; have d3 := blk_cell bA3 3; simp at d0 d1 d2 d3; have ld := blk_lt bA3))
  all_goals (refine bodyPost_ret (v := .bool true) (by simp [results, Tryd.results6, go_sem]; done) rfl ⟨rfl, ?_⟩)
  all_goals (have s1 := hB1.size; have s2 := hB2.size; simp at s1)
  all_goals (first
    | exact ((((Below.refl _ w).alloc (Nat.le_refl _) _).trans (hB1.mono (by simp))).trans (hB2.mono (by omega))).alloc (by omega) _
    | (have s3 := hB3.size
       simp at s3
       exact ((((((Below.refl _ w).alloc (Nat.le_refl _) _).trans (hB1.mono (by simp))).trans (hB2.mono (by omega))).alloc (by omega) _).trans (hB3.mono (by simp; omega))).alloc (by omega) _))

set_option maxHeartbeats 4000000 in
set_option maxRecDepth 100000 in
theorem there_no (c r : Int) (ac ar : Bool) (k l : Int) (w : World) (ht : HT w) (hv : mvV c r ac ar k l = .tuple #[.agg #[.int .i64 0, .int .i64 0, .bool false, .bool false], .bool false]) :
    Calls Tryd.prog 6 #[.agg #[.int .i64 c, .int .i64 r, .bool ac, .bool ar], .int .i64 k, .int .i64 l] w fun e w' => e = .returned (.bool true) ∧ Below w.heap.size w w' := by
  have HV := Lib.hid hv
  have HT0 := Lib.hid ht
  clear hv ht
  have bA := blk_new w (.cells #[.int .i64 c, .int .i64 r, .bool ac, .bool ar] 23)
  go_enter Tryd.func6, Tryd.ntmps6
  go_wp2_with (first
    | (go_at_call 9; refine (shown_any _ (HT0.out.stay ((Below.refl _ w).alloc (Nat.le_refl _) _))).mono ?_; rintro e w1 ⟨rfl, hB1⟩; have bA := blk_keep hB1 bA; have a0 := blk_cell bA 0; have a1 := blk_cell bA 1; have a2 := blk_cell bA 2; have a3 := blk_cell bA 3; simp at a0 a1 a2 a3; have la := blk_lt bA)
    | (go_at_call 16; refine (moved_any _ _ _ _ _ _ _).mono ?_; rintro e w2 ⟨he, hB2⟩; rw [HV.out] at he; subst he))
  refine bodyPost_ret (v := .bool true) (by simp [results, Tryd.results6, go_sem]; done) rfl ⟨rfl, ?_⟩
  have s1 := hB1.size
  have s2 := hB2.size
  simp at s1
  exact ((((Below.refl _ w).alloc (Nat.le_refl _) _).trans (hB1.mono (by simp))).trans (hB2.mono (by omega))).alloc (by omega) _

theorem cellThere_walk (c r : Int) (ac ar : Bool) (k l : Int) (w : World) (ht : HT w) :
    Calls Tryd.prog 6 #[.agg #[.int .i64 c, .int .i64 r, .bool ac, .bool ar], .int .i64 k, .int .i64 l] w fun e w' => e = .returned (.bool true) ∧ Below w.heap.size w w' := by
  cases h : mvT c r ac ar k l with
  | false => exact there_no c r ac ar k l w ht (by simp [mvV, h])
  | true => exact there_yes c r (mvd c k ac) (mvd r l ar) ac ar k l w ht (by simp [mvV, h]) (fun e => by simp [mvd, e]) (fun e => by simp [mvd, e]) (fun k0 k1 l0 l1 => mv_back c r ac ar k l h k0 k1 l0 l1)
end Go.Proofs.YtacakmlkaikabaaDoor

/- cell.Moved and its reference, walked at every argument. -/
import Derived.Test.YtacakmlkaikabaaDoorCb
import Derived.Test.YtacakmlkaikabaaDoorBase
namespace Go.Proofs.YtacakmlkaikabaaDoor
open Go.RowKit

def mvd (c k : Int) (a : Bool) : Int := if a = true then c else wrap64 (c + k)
set_option maxHeartbeats 1000000 in
set_option maxRecDepth 100000 in
theorem moved_bad (c r : Int) (ac ar : Bool) (k l : Int) (w : World) (h1 : okB c r = false) :
    Calls Tryd.prog 16 #[.agg #[.int .i64 c, .int .i64 r, .bool ac, .bool ar], .int .i64 k, .int .i64 l] w fun e w' => e = .returned (.tuple #[.agg #[.int .i64 0, .int .i64 0, .bool false, .bool false], .bool false]) ∧ Below w.heap.size w w' := by
  go_enter Tryd.func16, Tryd.ntmps16
  go_wp2_with (go_at_call 12; refine (right_any _ _ _ _ _).mono ?_; rintro e w' ⟨rfl, rfl⟩)
  refine bodyPost_ret (v := .tuple #[.agg #[.int .i64 0, .int .i64 0, .bool false, .bool false], .bool false]) (by simp [results, Tryd.results16, go_sem]) rfl ⟨rfl, ?_⟩
  exact (((Below.refl _ w).alloc (Nat.le_refl _) _).alloc (by simp) _).alloc (by simp; omega) _

set_option maxHeartbeats 1000000 in
set_option maxRecDepth 100000 in
theorem moved_true_true_true (c r : Int) (k l : Int) (w : World) (h1 : okB c r = true) (_h2 : okB c r = true) :
    Calls Tryd.prog 16 #[.agg #[.int .i64 c, .int .i64 r, .bool true, .bool true], .int .i64 k, .int .i64 l] w fun e w' => e = .returned (.tuple #[.agg #[.int .i64 c, .int .i64 r, .bool true, .bool true], .bool true]) ∧ Below w.heap.size w w' := by
  go_enter Tryd.func16, Tryd.ntmps16
  go_wp2_with (go_at_call 12; refine (right_any _ _ _ _ _).mono ?_; rintro e w' ⟨rfl, rfl⟩)
  refine bodyPost_ret (v := .tuple #[.agg #[.int .i64 c, .int .i64 r, .bool true, .bool true], .bool true]) (by simp [results, Tryd.results16, go_sem]) rfl ⟨rfl, ?_⟩
  exact ((((Below.refl _ w).alloc (Nat.le_refl _) _).alloc (by simp) _).alloc (by simp; omega) _).alloc (by simp; omega) _

set_option maxHeartbeats 1000000 in
set_option maxRecDepth 100000 in
theorem moved_true_false_true (c r : Int) (k l : Int) (w : World) (h1 : okB c r = true) (h2 : okB c (wrap64 (r + l)) = true) :
    Calls Tryd.prog 16 #[.agg #[.int .i64 c, .int .i64 r, .bool true, .bool false], .int .i64 k, .int .i64 l] w fun e w' => e = .returned (.tuple #[.agg #[.int .i64 c, .int .i64 (wrap64 (r + l)), .bool true, .bool false], .bool true]) ∧ Below w.heap.size w w' := by
  go_enter Tryd.func16, Tryd.ntmps16
  go_wp2_with (go_at_call 12; refine (right_any _ _ _ _ _).mono ?_; rintro e w' ⟨rfl, rfl⟩)
  refine bodyPost_ret (v := .tuple #[.agg #[.int .i64 c, .int .i64 (wrap64 (r + l)), .bool true, .bool false], .bool true]) (by simp [results, Tryd.results16, go_sem]) rfl ⟨rfl, ?_⟩
  exact ((((Below.refl _ w).alloc (Nat.le_refl _) _).alloc (by simp) _).alloc (by simp; omega) _).alloc (by simp; omega) _

set_option maxHeartbeats 1000000 in
set_option maxRecDepth 100000 in
theorem moved_true_false_false (c r : Int) (k l : Int) (w : World) (h1 : okB c r = true) (h2 : okB c (wrap64 (r + l)) = false) :
    Calls Tryd.prog 16 #[.agg #[.int .i64 c, .int .i64 r, .bool true, .bool false], .int .i64 k, .int .i64 l] w fun e w' => e = .returned (.tuple #[.agg #[.int .i64 0, .int .i64 0, .bool false, .bool false], .bool false]) ∧ Below w.heap.size w w' := by
  go_enter Tryd.func16, Tryd.ntmps16
  go_wp2_with (go_at_call 12; refine (right_any _ _ _ _ _).mono ?_; rintro e w' ⟨rfl, rfl⟩)
  refine bodyPost_ret (v := .tuple #[.agg #[.int .i64 0, .int .i64 0, .bool false, .bool false], .bool false]) (by simp [results, Tryd.results16, go_sem]) rfl ⟨rfl, ?_⟩
  exact ((((Below.refl _ w).alloc (Nat.le_refl _) _).alloc (by simp) _).alloc (by simp; omega) _).alloc (by simp; omega) _

set_option maxHeartbeats 1000000 in
set_option maxRecDepth 100000 in
theorem moved_false_true_true (c r : Int) (k l : Int) (w : World) (h1 : okB c r = true) (h2 : okB (wrap64 (c + k)) r = true) :
    Calls Tryd.prog 16 #[.agg #[.int .i64 c, .int .i64 r, .bool false, .bool true], .int .i64 k, .int .i64 l] w fun e w' => e = .returned (.tuple #[.agg #[.int .i64 (wrap64 (c + k)), .int .i64 r, .bool false, .bool true], .bool true]) ∧ Below w.heap.size w w' := by
  go_enter Tryd.func16, Tryd.ntmps16
  go_wp2_with (go_at_call 12; refine (right_any _ _ _ _ _).mono ?_; rintro e w' ⟨rfl, rfl⟩)
  refine bodyPost_ret (v := .tuple #[.agg #[.int .i64 (wrap64 (c + k)), .int .i64 r, .bool false, .bool true], .bool true]) (by simp [results, Tryd.results16, go_sem]) rfl ⟨rfl, ?_⟩
  exact ((((Below.refl _ w).alloc (Nat.le_refl _) _).alloc (by simp) _).alloc (by simp; omega) _).alloc (by simp; omega) _

set_option maxHeartbeats 1000000 in
set_option maxRecDepth 100000 in
theorem moved_false_true_false (c r : Int) (k l : Int) (w : World) (h1 : okB c r = true) (h2 : okB (wrap64 (c + k)) r = false) :
    Calls Tryd.prog 16 #[.agg #[.int .i64 c, .int .i64 r, .bool false, .bool true], .int .i64 k, .int .i64 l] w fun e w' => e = .returned (.tuple #[.agg #[.int .i64 0, .int .i64 0, .bool false, .bool false], .bool false]) ∧ Below w.heap.size w w' := by
  go_enter Tryd.func16, Tryd.ntmps16
  go_wp2_with (go_at_call 12; refine (right_any _ _ _ _ _).mono ?_; rintro e w' ⟨rfl, rfl⟩)
  refine bodyPost_ret (v := .tuple #[.agg #[.int .i64 0, .int .i64 0, .bool false, .bool false], .bool false]) (by simp [results, Tryd.results16, go_sem]) rfl ⟨rfl, ?_⟩
  exact ((((Below.refl _ w).alloc (Nat.le_refl _) _).alloc (by simp) _).alloc (by simp; omega) _).alloc (by simp; omega) _

set_option maxHeartbeats 1000000 in
set_option maxRecDepth 100000 in
theorem moved_false_false_true (c r : Int) (k l : Int) (w : World) (h1 : okB c r = true) (h2 : okB (wrap64 (c + k)) (wrap64 (r + l)) = true) :
    Calls Tryd.prog 16 #[.agg #[.int .i64 c, .int .i64 r, .bool false, .bool false], .int .i64 k, .int .i64 l] w fun e w' => e = .returned (.tuple #[.agg #[.int .i64 (wrap64 (c + k)), .int .i64 (wrap64 (r + l)), .bool false, .bool false], .bool true]) ∧ Below w.heap.size w w' := by
  go_enter Tryd.func16, Tryd.ntmps16
  go_wp2_with (go_at_call 12; refine (right_any _ _ _ _ _).mono ?_; rintro e w' ⟨rfl, rfl⟩)
  refine bodyPost_ret (v := .tuple #[.agg #[.int .i64 (wrap64 (c + k)), .int .i64 (wrap64 (r + l)), .bool false, .bool false], .bool true]) (by simp [results, Tryd.results16, go_sem]) rfl ⟨rfl, ?_⟩
  exact ((((Below.refl _ w).alloc (Nat.le_refl _) _).alloc (by simp) _).alloc (by simp; omega) _).alloc (by simp; omega) _

set_option maxHeartbeats 1000000 in
set_option maxRecDepth 100000 in
theorem moved_false_false_false (c r : Int) (k l : Int) (w : World) (h1 : okB c r = true) (h2 : okB (wrap64 (c + k)) (wrap64 (r + l)) = false) :
    Calls Tryd.prog 16 #[.agg #[.int .i64 c, .int .i64 r, .bool false, .bool false], .int .i64 k, .int .i64 l] w fun e w' => e = .returned (.tuple #[.agg #[.int .i64 0, .int .i64 0, .bool false, .bool false], .bool false]) ∧ Below w.heap.size w w' := by
  go_enter Tryd.func16, Tryd.ntmps16
  go_wp2_with (go_at_call 12; refine (right_any _ _ _ _ _).mono ?_; rintro e w' ⟨rfl, rfl⟩)
  refine bodyPost_ret (v := .tuple #[.agg #[.int .i64 0, .int .i64 0, .bool false, .bool false], .bool false]) (by simp [results, Tryd.results16, go_sem]) rfl ⟨rfl, ?_⟩
  exact ((((Below.refl _ w).alloc (Nat.le_refl _) _).alloc (by simp) _).alloc (by simp; omega) _).alloc (by simp; omega) _


def mvT (c r : Int) (ac ar : Bool) (k l : Int) : Bool := okB c r && okB (mvd c k ac) (mvd r l ar)
def mvV (c r : Int) (ac ar : Bool) (k l : Int) : Value := if mvT c r ac ar k l = true then .tuple #[.agg #[.int .i64 (mvd c k ac), .int .i64 (mvd r l ar), .bool ac, .bool ar], .bool true] else .tuple #[.agg #[.int .i64 0, .int .i64 0, .bool false, .bool false], .bool false]
theorem moved_any (c r : Int) (ac ar : Bool) (k l : Int) (w : World) :
    Calls Tryd.prog 16 #[.agg #[.int .i64 c, .int .i64 r, .bool ac, .bool ar], .int .i64 k, .int .i64 l] w fun e w' => e = .returned (mvV c r ac ar k l) ∧ Below w.heap.size w w' := by
  cases h1 : okB c r with
  | false =>
    have e : mvV c r ac ar k l = .tuple #[.agg #[.int .i64 0, .int .i64 0, .bool false, .bool false], .bool false] := by simp [mvV, mvT, h1]
    rw [e]; exact moved_bad c r ac ar k l w h1
  | true =>
    cases h2 : okB (mvd c k ac) (mvd r l ar) with
    | false =>
      have e : mvV c r ac ar k l = .tuple #[.agg #[.int .i64 0, .int .i64 0, .bool false, .bool false], .bool false] := by simp [mvV, mvT, h1, h2]
      rw [e]
      cases ac <;> cases ar
      · exact moved_false_false_false c r k l w h1 h2
      · exact moved_false_true_false c r k l w h1 h2
      · exact moved_true_false_false c r k l w h1 h2
      · exact absurd (h1.symm.trans h2) (by decide)
    | true =>
      have e : mvV c r ac ar k l = .tuple #[.agg #[.int .i64 (mvd c k ac), .int .i64 (mvd r l ar), .bool ac, .bool ar], .bool true] := by simp [mvV, mvT, h1, h2]
      rw [e]
      cases ac <;> cases ar
      · exact moved_false_false_true c r k l w h1 h2
      · exact moved_false_true_true c r k l w h1 h2
      · exact moved_true_false_true c r k l w h1 h2
      · exact moved_true_true_true c r k l w h1 h2

def rmv (c k : Int) (a : Bool) (n : Int) : Int := if a = true then c else if k < -c ∨ n - c ≤ k then -1 else c + k
set_option maxHeartbeats 1000000 in
set_option maxRecDepth 100000 in
theorem refmoved_any (c k : Int) (a : Bool) (n : Int) (w : World) (h0 : 0 ≤ c) (h1 : c < 1000) (h2 : 0 ≤ n) (h3 : n ≤ 1000) (k0 : -9223372036854775808 ≤ k) (k1 : k ≤ 9223372036854775807) :
    Calls Tryd.prog 42 #[.int .i64 c, .int .i64 k, .bool a, .int .i64 n] w fun e w' => e = .returned (.int .i64 (rmv c k a n)) ∧ w' = w := by
  cases a with
  | true =>
    have e : rmv c k true n = c := by simp [rmv]
    rw [e]; clear e
    go_enter Tryd.func42, Tryd.ntmps42
    go_wp2
    go_ret
    exact ⟨rfl, rfl⟩
  | false =>
    by_cases g0 : k < -c
    · have e : rmv c k false n = -1 := by simp [rmv, g0]
      rw [e]; clear e
      go_enter Tryd.func42, Tryd.ntmps42
      go_wp2
      go_ret
      exact ⟨rfl, rfl⟩
    · by_cases g1 : n - c ≤ k
      · have e : rmv c k false n = -1 := by simp [rmv, g1]
        rw [e]; clear e
        go_enter Tryd.func42, Tryd.ntmps42
        go_wp2
        go_ret
        exact ⟨rfl, rfl⟩
      · have e : rmv c k false n = c + k := by simp [rmv, g0, g1]
        rw [e]; clear e
        go_enter Tryd.func42, Tryd.ntmps42
        go_wp2
        go_ret
        exact ⟨rfl, rfl⟩

set_option maxHeartbeats 1000000 in
set_option maxRecDepth 100000 in
theorem refMoved_bad (c r : Int) (ac ar : Bool) (k l : Int) (w : World) (h1 : okB c r = false) :
    Calls Tryd.prog 17 #[.agg #[.int .i64 c, .int .i64 r, .bool ac, .bool ar], .int .i64 k, .int .i64 l] w fun e w' => e = .returned (.tuple #[.agg #[.int .i64 0, .int .i64 0, .bool false, .bool false], .bool false]) ∧ Below w.heap.size w w' := by
  go_enter Tryd.func17, Tryd.ntmps17
  go_wp2_with (go_at_call 13; refine (refRight_any _ _ _ _ _).mono ?_; rintro e w' ⟨rfl, rfl⟩)
  refine bodyPost_ret (v := .tuple #[.agg #[.int .i64 0, .int .i64 0, .bool false, .bool false], .bool false]) (by simp [results, Tryd.results17, go_sem]) rfl ⟨rfl, ?_⟩
  exact (((Below.refl _ w).alloc (Nat.le_refl _) _).alloc (by simp) _).alloc (by simp; omega) _

set_option maxHeartbeats 1000000 in
set_option maxRecDepth 100000 in
theorem refMoved_true (c r : Int) (ac ar : Bool) (k l : Int) (w : World) (h1 : okB c r = true) (h2 : okB (rmv c k ac 64) (rmv r l ar 1000) = true) (k0 : -9223372036854775808 ≤ k) (k1 : k ≤ 9223372036854775807) (l0 : -9223372036854775808 ≤ l) (l1 : l ≤ 9223372036854775807) :
    Calls Tryd.prog 17 #[.agg #[.int .i64 c, .int .i64 r, .bool ac, .bool ar], .int .i64 k, .int .i64 l] w fun e w' => e = .returned (.tuple #[.agg #[.int .i64 (rmv c k ac 64), .int .i64 (rmv r l ar 1000), .bool ac, .bool ar], .bool true]) ∧ Below w.heap.size w w' := by
  obtain ⟨a0, a1, a2, a3⟩ := okB_t h1
  go_enter Tryd.func17, Tryd.ntmps17
  go_wp2_with (first | (go_at_call 13; refine (refRight_any _ _ _ _ _).mono ?_; rintro e w' ⟨rfl, rfl⟩) | (go_at_call 42; refine (refmoved_any _ _ _ _ _ (by omega) (by omega) (by omega) (by omega) (by omega) (by omega)).mono ?_; rintro e w' ⟨rfl, rfl⟩))
  refine bodyPost_ret (v := .tuple #[.agg #[.int .i64 (rmv c k ac 64), .int .i64 (rmv r l ar 1000), .bool ac, .bool ar], .bool true]) (by simp [results, Tryd.results17, go_sem]) rfl ⟨rfl, ?_⟩
  exact ((((Below.refl _ w).alloc (Nat.le_refl _) _).alloc (by simp) _).alloc (by simp; omega) _).alloc (by simp; omega) _

set_option maxHeartbeats 1000000 in
set_option maxRecDepth 100000 in
theorem refMoved_false (c r : Int) (ac ar : Bool) (k l : Int) (w : World) (h1 : okB c r = true) (h2 : okB (rmv c k ac 64) (rmv r l ar 1000) = false) (k0 : -9223372036854775808 ≤ k) (k1 : k ≤ 9223372036854775807) (l0 : -9223372036854775808 ≤ l) (l1 : l ≤ 9223372036854775807) :
    Calls Tryd.prog 17 #[.agg #[.int .i64 c, .int .i64 r, .bool ac, .bool ar], .int .i64 k, .int .i64 l] w fun e w' => e = .returned (.tuple #[.agg #[.int .i64 0, .int .i64 0, .bool false, .bool false], .bool false]) ∧ Below w.heap.size w w' := by
  obtain ⟨a0, a1, a2, a3⟩ := okB_t h1
  go_enter Tryd.func17, Tryd.ntmps17
  go_wp2_with (first | (go_at_call 13; refine (refRight_any _ _ _ _ _).mono ?_; rintro e w' ⟨rfl, rfl⟩) | (go_at_call 42; refine (refmoved_any _ _ _ _ _ (by omega) (by omega) (by omega) (by omega) (by omega) (by omega)).mono ?_; rintro e w' ⟨rfl, rfl⟩))
  refine bodyPost_ret (v := .tuple #[.agg #[.int .i64 0, .int .i64 0, .bool false, .bool false], .bool false]) (by simp [results, Tryd.results17, go_sem]) rfl ⟨rfl, ?_⟩
  exact ((((Below.refl _ w).alloc (Nat.le_refl _) _).alloc (by simp) _).alloc (by simp; omega) _).alloc (by simp; omega) _

end Go.Proofs.YtacakmlkaikabaaDoor

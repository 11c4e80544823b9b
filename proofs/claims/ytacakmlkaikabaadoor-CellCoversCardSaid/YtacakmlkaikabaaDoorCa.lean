/- cell.Right, Index, At and their references, walked: what each hands back at every reference. -/
import Derived.Test.YtacakmlkaikabaaDoorProg
import Derived.WalkKit
import Derived.WalkSpells
import Derived.WalkLawsBesides
import Derived.Deep.QuietTactic
import Derived.BigQuiet
import Derived.BigRegion
import Derived.Lib.Hide
namespace Go.Proofs.YtacakmlkaikabaaDoor
open Go.RowKit

def okB (c r : Int) : Bool := decide (0 ≤ c) && decide (c < 64) && decide (0 ≤ r) && decide (r < 1000)
theorem okB_t {c r : Int} (h : okB c r = true) : 0 ≤ c ∧ c < 64 ∧ 0 ≤ r ∧ r < 1000 := by simp [okB] at h; omega
theorem okB_mk {c r : Int} (h0 : 0 ≤ c) (h1 : c < 64) (h2 : 0 ≤ r) (h3 : r < 1000) : okB c r = true := by simp [okB]; omega

theorem bcell {W w1 : World} (hb : Below W.heap.size W w1) : (∀ b o, b < W.heap.size → w1.cell? ⟨b, o, none⟩ = W.cell? ⟨b, o, none⟩) ∧ (∀ b o, b < W.heap.size → w1.frozen? ⟨b, o, none⟩ = W.frozen? ⟨b, o, none⟩) :=
  ⟨fun b o h => hb.cell (p := ⟨b, o, none⟩) h, fun b o h => hb.frozen (p := ⟨b, o, none⟩) h⟩

theorem ret_int {k : IntKind} {a b : Int} (h : a = b) : Ending.returned (.int k a) = .returned (.int k b) := by rw [h]

set_option maxHeartbeats 400000 in
theorem right_any (c r : Int) (ac ar : Bool) (w : World) :
    Calls Tryd.prog 12 #[.agg #[.int .i64 c, .int .i64 r, .bool ac, .bool ar]] w fun e w' => e = .returned (.bool (okB c r)) ∧ w' = w.alloc (.cells #[.int .i64 c, .int .i64 r, .bool ac, .bool ar] 23) := by
  go_enter Tryd.func12, Tryd.ntmps12
  go_wp2
  all_goals (go_ret; refine ⟨?_, rfl⟩; simp [okB]; omega)

set_option maxHeartbeats 400000 in
theorem refRight_any (c r : Int) (ac ar : Bool) (w : World) :
    Calls Tryd.prog 13 #[.agg #[.int .i64 c, .int .i64 r, .bool ac, .bool ar]] w fun e w' => e = .returned (.bool (okB c r)) ∧ w' = w.alloc (.cells #[.int .i64 c, .int .i64 r, .bool ac, .bool ar] 23) := by
  go_enter Tryd.func13, Tryd.ntmps13
  go_wp2
  all_goals (go_ret; refine ⟨?_, rfl⟩; simp [okB]; omega)

def idx (c r : Int) : Int := if okB c r = true then 64 * r + c else -1

set_option maxHeartbeats 400000 in
theorem index_any (c r : Int) (ac ar : Bool) (w : World) :
    Calls Tryd.prog 19 #[.agg #[.int .i64 c, .int .i64 r, .bool ac, .bool ar]] w fun e w' => e = .returned (.int .i64 (idx c r)) ∧ Below w.heap.size w w' := by
  cases h : okB c r with
  | false =>
    have hi : idx c r = -1 := by simp [idx, h]
    rw [hi]; have H := Lib.hid hi; clear hi
    go_enter Tryd.func19, Tryd.ntmps19
    go_wp2_with (go_at_call 12; refine (right_any _ _ _ _ _).mono ?_; rintro e w' ⟨rfl, rfl⟩)
    go_ret
    exact ⟨rfl, ((Below.refl _ _).alloc (Nat.le_refl _) _).alloc (by simp) _⟩
  | true =>
    obtain ⟨h0, h1, h2, h3⟩ := okB_t h
    have hi : idx c r = r * 64 + c := by simp [idx, h]; omega
    rw [hi]; have H := Lib.hid hi; clear hi
    go_enter Tryd.func19, Tryd.ntmps19
    go_wp2_with (go_at_call 12; refine (right_any _ _ _ _ _).mono ?_; rintro e w' ⟨rfl, rfl⟩)
    go_ret
    exact ⟨rfl, ((Below.refl _ _).alloc (Nat.le_refl _) _).alloc (by simp) _⟩

set_option maxHeartbeats 400000 in
theorem refIndex_any (c r : Int) (ac ar : Bool) (w : World) :
    Calls Tryd.prog 22 #[.agg #[.int .i64 c, .int .i64 r, .bool ac, .bool ar]] w fun e w' => e = .returned (.int .i64 (idx c r)) ∧ Below w.heap.size w w' := by
  cases h : okB c r with
  | false =>
    have hi : idx c r = -1 := by simp [idx, h]
    rw [hi]; have H := Lib.hid hi; clear hi
    go_enter Tryd.func22, Tryd.ntmps22
    go_wp2_with (go_at_call 13; refine (refRight_any _ _ _ _ _).mono ?_; rintro e w' ⟨rfl, rfl⟩)
    go_ret
    exact ⟨rfl, ((Below.refl _ _).alloc (Nat.le_refl _) _).alloc (by simp) _⟩
  | true =>
    obtain ⟨h0, h1, h2, h3⟩ := okB_t h
    have hi : idx c r = 64 * r + c := by simp [idx, h]
    rw [hi]; have H := Lib.hid hi; clear hi
    go_enter Tryd.func22, Tryd.ntmps22
    go_wp2_with (go_at_call 13; refine (refRight_any _ _ _ _ _).mono ?_; rintro e w' ⟨rfl, rfl⟩)
    go_ret
    exact ⟨rfl, ((Below.refl _ _).alloc (Nat.le_refl _) _).alloc (by simp) _⟩

def atC (i : Int) : Int := if 0 ≤ i ∧ i < 64000 then i % 64 else -1
def atR (i : Int) : Int := if 0 ≤ i ∧ i < 64000 then i / 64 else -1

set_option maxHeartbeats 400000 in
theorem at_any (i : Int) (w : World) :
    Calls Tryd.prog 18 #[.int .i64 i] w fun e w' => e = .returned (.agg #[.int .i64 (atC i), .int .i64 (atR i), .bool false, .bool false]) ∧ Below w.heap.size w w' := by
  by_cases h0 : 0 ≤ i
  · by_cases h1 : i < 64000
    · have e1 : atC i = i % 64 := by simp [atC, h0, h1]
      have e2 : atR i = i / 64 := by simp [atR, h0, h1]
      rw [e1, e2]; clear e1 e2
      go_enter Tryd.func18, Tryd.ntmps18
      go_wp2
      refine bodyPost_ret (v := .agg #[.int .i64 (i % 64), .int .i64 (i / 64), .bool false, .bool false]) (by simp [results, Tryd.results18, go_sem]) rfl ⟨rfl, ?_⟩
      exact (Below.refl _ _).alloc (Nat.le_refl _) _
    · have e1 : atC i = -1 := by simp [atC]; omega
      have e2 : atR i = -1 := by simp [atR]; omega
      rw [e1, e2]; clear e1 e2
      go_enter Tryd.func18, Tryd.ntmps18
      go_wp2
      refine bodyPost_ret (v := .agg #[.int .i64 (-1), .int .i64 (-1), .bool false, .bool false]) (by simp [results, Tryd.results18, go_sem]) rfl ⟨rfl, ?_⟩
      exact (Below.refl _ _).alloc (Nat.le_refl _) _
  · have e1 : atC i = -1 := by simp [atC]; omega
    have e2 : atR i = -1 := by simp [atR]; omega
    rw [e1, e2]; clear e1 e2
    go_enter Tryd.func18, Tryd.ntmps18
    go_wp2
    refine bodyPost_ret (v := .agg #[.int .i64 (-1), .int .i64 (-1), .bool false, .bool false]) (by simp [results, Tryd.results18, go_sem]) rfl ⟨rfl, ?_⟩
    exact (Below.refl _ _).alloc (Nat.le_refl _) _

set_option maxHeartbeats 400000 in
theorem lawRef_any (c r : Int) (w : World) :
    Calls Tryd.prog 20 #[.int .i64 c, .int .i64 r] w fun e w' => e = .returned (.agg #[.int .i64 c, .int .i64 r, .bool false, .bool false]) ∧ Below w.heap.size w w' := by
  go_enter Tryd.func20, Tryd.ntmps20
  go_wp2
  refine bodyPost_ret (v := .agg #[.int .i64 c, .int .i64 r, .bool false, .bool false]) (by simp [results, Tryd.results20, go_sem]) rfl ⟨rfl, ?_⟩
  exact (Below.refl _ _).alloc (Nat.le_refl _) _
end Go.Proofs.YtacakmlkaikabaaDoor

/- The reference's At, walked at every number. -/
import Derived.Test.YtacakmlkaikabaaDoorCa
namespace Go.Proofs.YtacakmlkaikabaaDoor
set_option linter.unusedVariables false
open Go.RowKit

set_option maxHeartbeats 400000 in
theorem refAt_any (i : Int) (w : World) :
    Calls Tryd.prog 23 #[.int .i64 i] w fun e w' => e = .returned (.agg #[.int .i64 (atC i), .int .i64 (atR i), .bool false, .bool false]) ∧ Below w.heap.size w w' := by
  by_cases h0 : 0 ≤ i
  · by_cases h1 : i < 64000
    · have e1 : atC i = i % 64 := by simp [atC, h0, h1]
      have e2 : atR i = i / 64 := by simp [atR, h0, h1]
      rw [e1, e2]; clear e1 e2
      go_enter Tryd.func23, Tryd.ntmps23
      go_wp2
      refine bodyPost_ret (v := .agg #[.int .i64 (i % 64), .int .i64 (i / 64), .bool false, .bool false]) (by simp [results, Tryd.results23, go_sem]) rfl ⟨rfl, ?_⟩
      exact (Below.refl _ _).alloc (Nat.le_refl _) _
    · have e1 : atC i = -1 := by simp [atC]; omega
      have e2 : atR i = -1 := by simp [atR]; omega
      rw [e1, e2]; clear e1 e2
      go_enter Tryd.func23, Tryd.ntmps23
      go_wp2
      refine bodyPost_ret (v := .agg #[.int .i64 (-1), .int .i64 (-1), .bool false, .bool false]) (by simp [results, Tryd.results23, go_sem]) rfl ⟨rfl, ?_⟩
      exact (Below.refl _ _).alloc (Nat.le_refl _) _
  · have e1 : atC i = -1 := by simp [atC]; omega
    have e2 : atR i = -1 := by simp [atR]; omega
    rw [e1, e2]; clear e1 e2
    go_enter Tryd.func23, Tryd.ntmps23
    go_wp2
    refine bodyPost_ret (v := .agg #[.int .i64 (-1), .int .i64 (-1), .bool false, .bool false]) (by simp [results, Tryd.results23, go_sem]) rfl ⟨rfl, ?_⟩
    exact (Below.refl _ _).alloc (Nat.le_refl _) _

end Go.Proofs.YtacakmlkaikabaaDoor

/- cell.Area, cell.Inside and their references, walked at every argument. -/
import Derived.Test.YtacakmlkaikabaaDoorCb
import Derived.Test.YtacakmlkaikabaaDoorBase
namespace Go.Proofs.YtacakmlkaikabaaDoor
open Go.RowKit
attribute [local go_sem] max2_int min2_int max_two min_two

def area (c r d s : Int) : Int := (mx c d - mn c d + 1) * (mx r s - mn r s + 1)
theorem mxmn (a b k : Int) (h0 : 0 ≤ a) (h1 : a < k) (h2 : 0 ≤ b) (h3 : b < k) : 0 ≤ mn a b ∧ mn a b ≤ mx a b ∧ mx a b < k := by unfold mn mx; split <;> split <;> omega

theorem area_bd {x y : Int} (h0 : 0 ≤ x) (h1 : x ≤ 64) (h2 : 0 ≤ y) (h3 : y ≤ 1000) : 0 ≤ x * y ∧ x * y ≤ 64000 := by
  refine ⟨Int.mul_nonneg h0 h2, ?_⟩
  have h := Int.mul_le_mul h1 h3 h2 (by omega)
  omega


set_option maxHeartbeats 1000000 in
set_option maxRecDepth 100000 in
theorem area_yes (c r : Int) (ac ar : Bool) (d s : Int) (bc br : Bool) (w : World) (h1 : okB c r = true) (h2 : okB d s = true) :
    Calls Tryd.prog 24 #[.agg #[.int .i64 c, .int .i64 r, .bool ac, .bool ar], .agg #[.int .i64 d, .int .i64 s, .bool bc, .bool br]] w fun e w' => e = .returned (.int .i64 (area c r d s)) ∧ Below w.heap.size w w' := by
  obtain ⟨a0, a1, a2, a3⟩ := okB_t h1
  obtain ⟨b0, b1, b2, b3⟩ := okB_t h2
  obtain ⟨m10, m11, m12⟩ := mxmn c d 64 a0 a1 b0 b1
  obtain ⟨m20, m21, m22⟩ := mxmn r s 1000 a2 a3 b2 b3
  obtain ⟨m3, m4⟩ := area_bd (x := mx c d - mn c d + 1) (y := mx r s - mn r s + 1) (by omega) (by omega) (by omega) (by omega)
  go_enter Tryd.func24, Tryd.ntmps24
  go_wp2_with fail
  refine (corners_yes _ _ _ _ _ _ _ _ _ h1 h2).mono ?_
  rintro e w1 ⟨rfl, hb⟩
  have B1 : w1.heap[w.heap.size]? = some (.cells #[.int .i64 c, .int .i64 r, .bool ac, .bool ar] 23 (0, 0)) := blk_keep hb (by simp only [heap_get, World.size_alloc]; repeat (first | rw [if_pos trivial] | rw [if_pos rfl] | rw [if_neg (by omega)]))
  have k10 : w1.cell? ⟨w.heap.size, 0, none⟩ = some (.int .i64 c) := blk_cell B1 0
  have k11 : w1.cell? ⟨w.heap.size, 1, none⟩ = some (.int .i64 r) := blk_cell B1 1
  have k12 : w1.cell? ⟨w.heap.size, 2, none⟩ = some (.bool ac) := blk_cell B1 2
  have k13 : w1.cell? ⟨w.heap.size, 3, none⟩ = some (.bool ar) := blk_cell B1 3
  have f10 : w1.frozen? ⟨w.heap.size, 0, none⟩ = false := blk_free B1 0
  have f11 : w1.frozen? ⟨w.heap.size, 1, none⟩ = false := blk_free B1 1
  have f12 : w1.frozen? ⟨w.heap.size, 2, none⟩ = false := blk_free B1 2
  have f13 : w1.frozen? ⟨w.heap.size, 3, none⟩ = false := blk_free B1 3
  clear B1
  have B2 : w1.heap[w.heap.size + 1]? = some (.cells #[.int .i64 d, .int .i64 s, .bool bc, .bool br] 23 (0, 0)) := blk_keep hb (by simp only [heap_get, World.size_alloc]; repeat (first | rw [if_pos trivial] | rw [if_pos rfl] | rw [if_neg (by omega)]))
  have k20 : w1.cell? ⟨w.heap.size + 1, 0, none⟩ = some (.int .i64 d) := blk_cell B2 0
  have k21 : w1.cell? ⟨w.heap.size + 1, 1, none⟩ = some (.int .i64 s) := blk_cell B2 1
  have k22 : w1.cell? ⟨w.heap.size + 1, 2, none⟩ = some (.bool bc) := blk_cell B2 2
  have k23 : w1.cell? ⟨w.heap.size + 1, 3, none⟩ = some (.bool br) := blk_cell B2 3
  have f20 : w1.frozen? ⟨w.heap.size + 1, 0, none⟩ = false := blk_free B2 0
  have f21 : w1.frozen? ⟨w.heap.size + 1, 1, none⟩ = false := blk_free B2 1
  have f22 : w1.frozen? ⟨w.heap.size + 1, 2, none⟩ = false := blk_free B2 2
  have f23 : w1.frozen? ⟨w.heap.size + 1, 3, none⟩ = false := blk_free B2 3
  clear B2
  dsimp only
  go_wp2
  go_ret
  refine ⟨rfl, ?_⟩
  have h0 : Below w.heap.size w w1 := (((Below.refl _ w).alloc (Nat.le_refl _) _).alloc (by simp) _).trans (hb.mono (by simp; omega))
  repeat' (first | (with_reducible exact h0) | (with_reducible refine Below.setCell ?_ (by simp) _))

set_option maxHeartbeats 1000000 in
set_option maxRecDepth 100000 in
theorem area_no (c r : Int) (ac ar : Bool) (d s : Int) (bc br : Bool) (w : World) (h : okB c r = false ∨ okB d s = false) :
    Calls Tryd.prog 24 #[.agg #[.int .i64 c, .int .i64 r, .bool ac, .bool ar], .agg #[.int .i64 d, .int .i64 s, .bool bc, .bool br]] w fun e w' => e = .returned (.int .i64 0) ∧ Below w.heap.size w w' := by
  go_enter Tryd.func24, Tryd.ntmps24
  go_wp2_with fail
  refine (corners_no _ _ _ _ _ _ _ _ _ h).mono ?_
  rintro e w1 ⟨rfl, hb⟩
  have B1 : w1.heap[w.heap.size]? = some (.cells #[.int .i64 c, .int .i64 r, .bool ac, .bool ar] 23 (0, 0)) := blk_keep hb (by simp only [heap_get, World.size_alloc]; repeat (first | rw [if_pos trivial] | rw [if_pos rfl] | rw [if_neg (by omega)]))
  have k10 : w1.cell? ⟨w.heap.size, 0, none⟩ = some (.int .i64 c) := blk_cell B1 0
  have k11 : w1.cell? ⟨w.heap.size, 1, none⟩ = some (.int .i64 r) := blk_cell B1 1
  have k12 : w1.cell? ⟨w.heap.size, 2, none⟩ = some (.bool ac) := blk_cell B1 2
  have k13 : w1.cell? ⟨w.heap.size, 3, none⟩ = some (.bool ar) := blk_cell B1 3
  have f10 : w1.frozen? ⟨w.heap.size, 0, none⟩ = false := blk_free B1 0
  have f11 : w1.frozen? ⟨w.heap.size, 1, none⟩ = false := blk_free B1 1
  have f12 : w1.frozen? ⟨w.heap.size, 2, none⟩ = false := blk_free B1 2
  have f13 : w1.frozen? ⟨w.heap.size, 3, none⟩ = false := blk_free B1 3
  clear B1
  have B2 : w1.heap[w.heap.size + 1]? = some (.cells #[.int .i64 d, .int .i64 s, .bool bc, .bool br] 23 (0, 0)) := blk_keep hb (by simp only [heap_get, World.size_alloc]; repeat (first | rw [if_pos trivial] | rw [if_pos rfl] | rw [if_neg (by omega)]))
  have k20 : w1.cell? ⟨w.heap.size + 1, 0, none⟩ = some (.int .i64 d) := blk_cell B2 0
  have k21 : w1.cell? ⟨w.heap.size + 1, 1, none⟩ = some (.int .i64 s) := blk_cell B2 1
  have k22 : w1.cell? ⟨w.heap.size + 1, 2, none⟩ = some (.bool bc) := blk_cell B2 2
  have k23 : w1.cell? ⟨w.heap.size + 1, 3, none⟩ = some (.bool br) := blk_cell B2 3
  have f20 : w1.frozen? ⟨w.heap.size + 1, 0, none⟩ = false := blk_free B2 0
  have f21 : w1.frozen? ⟨w.heap.size + 1, 1, none⟩ = false := blk_free B2 1
  have f22 : w1.frozen? ⟨w.heap.size + 1, 2, none⟩ = false := blk_free B2 2
  have f23 : w1.frozen? ⟨w.heap.size + 1, 3, none⟩ = false := blk_free B2 3
  clear B2
  dsimp only
  go_wp2
  go_ret
  refine ⟨rfl, ?_⟩
  have h0 : Below w.heap.size w w1 := (((Below.refl _ w).alloc (Nat.le_refl _) _).alloc (by simp) _).trans (hb.mono (by simp; omega))
  repeat' (first | (with_reducible exact h0) | (with_reducible refine Below.setCell ?_ (by simp) _))

set_option maxHeartbeats 1000000 in
set_option maxRecDepth 100000 in
theorem refArea_yes (c r : Int) (ac ar : Bool) (d s : Int) (bc br : Bool) (w : World) (h1 : okB c r = true) (h2 : okB d s = true) :
    Calls Tryd.prog 25 #[.agg #[.int .i64 c, .int .i64 r, .bool ac, .bool ar], .agg #[.int .i64 d, .int .i64 s, .bool bc, .bool br]] w fun e w' => e = .returned (.int .i64 (area c r d s)) ∧ Below w.heap.size w w' := by
  obtain ⟨a0, a1, a2, a3⟩ := okB_t h1
  obtain ⟨b0, b1, b2, b3⟩ := okB_t h2
  obtain ⟨m10, m11, m12⟩ := mxmn c d 64 a0 a1 b0 b1
  obtain ⟨m20, m21, m22⟩ := mxmn r s 1000 a2 a3 b2 b3
  obtain ⟨m3, m4⟩ := area_bd (x := mx c d - mn c d + 1) (y := mx r s - mn r s + 1) (by omega) (by omega) (by omega) (by omega)
  rw [Int.mul_comm] at m3 m4
  have he : area c r d s = (mx r s - mn r s + 1) * (mx c d - mn c d + 1) := Int.mul_comm _ _
  rw [he]
  clear he
  go_enter Tryd.func25, Tryd.ntmps25
  go_wp2_with (go_at_call 13; refine (refRight_any _ _ _ _ _).mono ?_; rintro e w' ⟨rfl, rfl⟩)
  go_ret
  refine ⟨rfl, ?_⟩
  exact ((((Below.refl _ w).alloc (Nat.le_refl _) _).alloc (by simp) _).alloc (by simp; omega) _).alloc (by simp; omega) _

theorem refArea_no (c r : Int) (ac ar : Bool) (d s : Int) (bc br : Bool) (w : World) (h : okB c r = false ∨ okB d s = false) :
    Calls Tryd.prog 25 #[.agg #[.int .i64 c, .int .i64 r, .bool ac, .bool ar], .agg #[.int .i64 d, .int .i64 s, .bool bc, .bool br]] w fun e w' => e = .returned (.int .i64 0) ∧ Below w.heap.size w w' := by
  cases h1 : okB c r
  · clear h
    go_enter Tryd.func25, Tryd.ntmps25
    go_wp2_with (go_at_call 13; refine (refRight_any _ _ _ _ _).mono ?_; rintro e w' ⟨rfl, rfl⟩)
    go_ret
    refine ⟨rfl, ?_⟩
    exact ((((Below.refl _ w).alloc (Nat.le_refl _) _).alloc (by simp) _).alloc (by simp; omega) _).alloc (by simp; omega) _
  · have h2 : okB d s = false := by simpa [h1] using h
    clear h
    go_enter Tryd.func25, Tryd.ntmps25
    go_wp2_with (go_at_call 13; refine (refRight_any _ _ _ _ _).mono ?_; rintro e w' ⟨rfl, rfl⟩)
    go_ret
    refine ⟨rfl, ?_⟩
    exact ((((Below.refl _ w).alloc (Nat.le_refl _) _).alloc (by simp) _).alloc (by simp; omega) _).alloc (by simp; omega) _

def insB (x y c r d s : Int) : Bool := okB c r && okB d s && decide (mn c d ≤ x) && decide (x ≤ mx c d) && decide (mn r s ≤ y) && decide (y ≤ mx r s)
set_option maxHeartbeats 1000000 in
set_option maxRecDepth 100000 in
theorem inside_yes (x y : Int) (xc xr : Bool) (c r : Int) (ac ar : Bool) (d s : Int) (bc br : Bool) (w : World) (h1 : okB c r = true) (h2 : okB d s = true) :
    Calls Tryd.prog 26 #[.agg #[.int .i64 x, .int .i64 y, .bool xc, .bool xr], .agg #[.int .i64 c, .int .i64 r, .bool ac, .bool ar], .agg #[.int .i64 d, .int .i64 s, .bool bc, .bool br]] w fun e w' => e = .returned (.bool (insB x y c r d s)) ∧ Below w.heap.size w w' := by
  have hi : insB x y c r d s = (decide (mn c d ≤ x) && (decide (x ≤ mx c d) && (decide (mn r s ≤ y) && decide (y ≤ mx r s)))) := by simp [insB, h1, h2, Bool.and_assoc]
  rw [hi]
  clear hi
  go_enter Tryd.func26, Tryd.ntmps26
  go_wp2_with fail
  refine (corners_yes _ _ _ _ _ _ _ _ _ h1 h2).mono ?_
  rintro e w1 ⟨rfl, hb⟩
  have B0 : w1.heap[w.heap.size]? = some (.cells #[.int .i64 x, .int .i64 y, .bool xc, .bool xr] 23 (0, 0)) := blk_keep hb (by simp only [heap_get, World.size_alloc]; repeat (first | rw [if_pos trivial] | rw [if_pos rfl] | rw [if_neg (by omega)]))
  have k00 : w1.cell? ⟨w.heap.size, 0, none⟩ = some (.int .i64 x) := blk_cell B0 0
  have k01 : w1.cell? ⟨w.heap.size, 1, none⟩ = some (.int .i64 y) := blk_cell B0 1
  have k02 : w1.cell? ⟨w.heap.size, 2, none⟩ = some (.bool xc) := blk_cell B0 2
  have k03 : w1.cell? ⟨w.heap.size, 3, none⟩ = some (.bool xr) := blk_cell B0 3
  have f00 : w1.frozen? ⟨w.heap.size, 0, none⟩ = false := blk_free B0 0
  have f01 : w1.frozen? ⟨w.heap.size, 1, none⟩ = false := blk_free B0 1
  have f02 : w1.frozen? ⟨w.heap.size, 2, none⟩ = false := blk_free B0 2
  have f03 : w1.frozen? ⟨w.heap.size, 3, none⟩ = false := blk_free B0 3
  clear B0
  have B1 : w1.heap[w.heap.size + 1]? = some (.cells #[.int .i64 c, .int .i64 r, .bool ac, .bool ar] 23 (0, 0)) := blk_keep hb (by simp only [heap_get, World.size_alloc]; repeat (first | rw [if_pos trivial] | rw [if_pos rfl] | rw [if_neg (by omega)]))
  have k10 : w1.cell? ⟨w.heap.size + 1, 0, none⟩ = some (.int .i64 c) := blk_cell B1 0
  have k11 : w1.cell? ⟨w.heap.size + 1, 1, none⟩ = some (.int .i64 r) := blk_cell B1 1
  have k12 : w1.cell? ⟨w.heap.size + 1, 2, none⟩ = some (.bool ac) := blk_cell B1 2
  have k13 : w1.cell? ⟨w.heap.size + 1, 3, none⟩ = some (.bool ar) := blk_cell B1 3
  have f10 : w1.frozen? ⟨w.heap.size + 1, 0, none⟩ = false := blk_free B1 0
  have f11 : w1.frozen? ⟨w.heap.size + 1, 1, none⟩ = false := blk_free B1 1
  have f12 : w1.frozen? ⟨w.heap.size + 1, 2, none⟩ = false := blk_free B1 2
  have f13 : w1.frozen? ⟨w.heap.size + 1, 3, none⟩ = false := blk_free B1 3
  clear B1
  have B2 : w1.heap[w.heap.size + 1 + 1]? = some (.cells #[.int .i64 d, .int .i64 s, .bool bc, .bool br] 23 (0, 0)) := blk_keep hb (by simp only [heap_get, World.size_alloc]; repeat (first | rw [if_pos trivial] | rw [if_pos rfl] | rw [if_neg (by omega)]))
  have k20 : w1.cell? ⟨w.heap.size + 1 + 1, 0, none⟩ = some (.int .i64 d) := blk_cell B2 0
  have k21 : w1.cell? ⟨w.heap.size + 1 + 1, 1, none⟩ = some (.int .i64 s) := blk_cell B2 1
  have k22 : w1.cell? ⟨w.heap.size + 1 + 1, 2, none⟩ = some (.bool bc) := blk_cell B2 2
  have k23 : w1.cell? ⟨w.heap.size + 1 + 1, 3, none⟩ = some (.bool br) := blk_cell B2 3
  have f20 : w1.frozen? ⟨w.heap.size + 1 + 1, 0, none⟩ = false := blk_free B2 0
  have f21 : w1.frozen? ⟨w.heap.size + 1 + 1, 1, none⟩ = false := blk_free B2 1
  have f22 : w1.frozen? ⟨w.heap.size + 1 + 1, 2, none⟩ = false := blk_free B2 2
  have f23 : w1.frozen? ⟨w.heap.size + 1 + 1, 3, none⟩ = false := blk_free B2 3
  clear B2
  have h0 : Below w.heap.size w w1 := ((((Below.refl _ w).alloc (Nat.le_refl _) _).alloc (by simp) _).alloc (by simp; omega) _).trans (hb.mono (by simp; omega))
  dsimp only
  go_wp2
  all_goals (go_ret; refine ⟨?_, ?_⟩)
  all_goals first | ((repeat' (first | (with_reducible exact h0) | (with_reducible refine Below.setCell ?_ (by simp; try omega) _))); done) | (simp [*]; done) | (simp [*] <;> omega)

set_option maxHeartbeats 1000000 in
set_option maxRecDepth 100000 in
theorem inside_no (x y : Int) (xc xr : Bool) (c r : Int) (ac ar : Bool) (d s : Int) (bc br : Bool) (w : World) (h : okB c r = false ∨ okB d s = false) :
    Calls Tryd.prog 26 #[.agg #[.int .i64 x, .int .i64 y, .bool xc, .bool xr], .agg #[.int .i64 c, .int .i64 r, .bool ac, .bool ar], .agg #[.int .i64 d, .int .i64 s, .bool bc, .bool br]] w fun e w' => e = .returned (.bool (insB x y c r d s)) ∧ Below w.heap.size w w' := by
  have hi : insB x y c r d s = false := by rcases h with h | h <;> simp [insB, h]
  rw [hi]
  clear hi
  go_enter Tryd.func26, Tryd.ntmps26
  go_wp2_with fail
  refine (corners_no _ _ _ _ _ _ _ _ _ h).mono ?_
  rintro e w1 ⟨rfl, hb⟩
  have B0 : w1.heap[w.heap.size]? = some (.cells #[.int .i64 x, .int .i64 y, .bool xc, .bool xr] 23 (0, 0)) := blk_keep hb (by simp only [heap_get, World.size_alloc]; repeat (first | rw [if_pos trivial] | rw [if_pos rfl] | rw [if_neg (by omega)]))
  have k00 : w1.cell? ⟨w.heap.size, 0, none⟩ = some (.int .i64 x) := blk_cell B0 0
  have k01 : w1.cell? ⟨w.heap.size, 1, none⟩ = some (.int .i64 y) := blk_cell B0 1
  have k02 : w1.cell? ⟨w.heap.size, 2, none⟩ = some (.bool xc) := blk_cell B0 2
  have k03 : w1.cell? ⟨w.heap.size, 3, none⟩ = some (.bool xr) := blk_cell B0 3
  have f00 : w1.frozen? ⟨w.heap.size, 0, none⟩ = false := blk_free B0 0
  have f01 : w1.frozen? ⟨w.heap.size, 1, none⟩ = false := blk_free B0 1
  have f02 : w1.frozen? ⟨w.heap.size, 2, none⟩ = false := blk_free B0 2
  have f03 : w1.frozen? ⟨w.heap.size, 3, none⟩ = false := blk_free B0 3
  clear B0
  have B1 : w1.heap[w.heap.size + 1]? = some (.cells #[.int .i64 c, .int .i64 r, .bool ac, .bool ar] 23 (0, 0)) := blk_keep hb (by simp only [heap_get, World.size_alloc]; repeat (first | rw [if_pos trivial] | rw [if_pos rfl] | rw [if_neg (by omega)]))
  have k10 : w1.cell? ⟨w.heap.size + 1, 0, none⟩ = some (.int .i64 c) := blk_cell B1 0
  have k11 : w1.cell? ⟨w.heap.size + 1, 1, none⟩ = some (.int .i64 r) := blk_cell B1 1
  have k12 : w1.cell? ⟨w.heap.size + 1, 2, none⟩ = some (.bool ac) := blk_cell B1 2
  have k13 : w1.cell? ⟨w.heap.size + 1, 3, none⟩ = some (.bool ar) := blk_cell B1 3
  have f10 : w1.frozen? ⟨w.heap.size + 1, 0, none⟩ = false := blk_free B1 0
  have f11 : w1.frozen? ⟨w.heap.size + 1, 1, none⟩ = false := blk_free B1 1
  have f12 : w1.frozen? ⟨w.heap.size + 1, 2, none⟩ = false := blk_free B1 2
  have f13 : w1.frozen? ⟨w.heap.size + 1, 3, none⟩ = false := blk_free B1 3
  clear B1
  have B2 : w1.heap[w.heap.size + 1 + 1]? = some (.cells #[.int .i64 d, .int .i64 s, .bool bc, .bool br] 23 (0, 0)) := blk_keep hb (by simp only [heap_get, World.size_alloc]; repeat (first | rw [if_pos trivial] | rw [if_pos rfl] | rw [if_neg (by omega)]))
  have k20 : w1.cell? ⟨w.heap.size + 1 + 1, 0, none⟩ = some (.int .i64 d) := blk_cell B2 0
  have k21 : w1.cell? ⟨w.heap.size + 1 + 1, 1, none⟩ = some (.int .i64 s) := blk_cell B2 1
  have k22 : w1.cell? ⟨w.heap.size + 1 + 1, 2, none⟩ = some (.bool bc) := blk_cell B2 2
  have k23 : w1.cell? ⟨w.heap.size + 1 + 1, 3, none⟩ = some (.bool br) := blk_cell B2 3
  have f20 : w1.frozen? ⟨w.heap.size + 1 + 1, 0, none⟩ = false := blk_free B2 0
  have f21 : w1.frozen? ⟨w.heap.size + 1 + 1, 1, none⟩ = false := blk_free B2 1
  have f22 : w1.frozen? ⟨w.heap.size + 1 + 1, 2, none⟩ = false := blk_free B2 2
  have f23 : w1.frozen? ⟨w.heap.size + 1 + 1, 3, none⟩ = false := blk_free B2 3
  clear B2
  have h0 : Below w.heap.size w w1 := ((((Below.refl _ w).alloc (Nat.le_refl _) _).alloc (by simp) _).alloc (by simp; omega) _).trans (hb.mono (by simp; omega))
  dsimp only
  go_wp2
  all_goals (go_ret; refine ⟨?_, ?_⟩)
  all_goals first | ((repeat' (first | (with_reducible exact h0) | (with_reducible refine Below.setCell ?_ (by simp; try omega) _))); done) | (simp [*]; done) | (simp [*] <;> omega)

set_option maxHeartbeats 1000000 in
set_option maxRecDepth 100000 in
theorem refInside_any (x y : Int) (xc xr : Bool) (c r : Int) (ac ar : Bool) (d s : Int) (bc br : Bool) (w : World) :
    Calls Tryd.prog 27 #[.agg #[.int .i64 x, .int .i64 y, .bool xc, .bool xr], .agg #[.int .i64 c, .int .i64 r, .bool ac, .bool ar], .agg #[.int .i64 d, .int .i64 s, .bool bc, .bool br]] w fun e w' => e = .returned (.bool (okB x y && insB x y c r d s)) ∧ Below w.heap.size w w' := by
  go_enter Tryd.func27, Tryd.ntmps27
  go_wp2_with (go_at_call 13; refine (refRight_any _ _ _ _ _).mono ?_; rintro e w' ⟨rfl, rfl⟩)
  all_goals (go_ret; refine ⟨?_, (((((((Below.refl _ w).alloc (Nat.le_refl _) _).alloc (by simp) _).alloc (by simp; omega) _).alloc (by simp; omega) _).alloc (by simp; omega) _).alloc (by simp; omega) _)⟩)
  all_goals first | (simp [insB, *]; done) | (simp [insB, *] <;> omega)

theorem okB_mn {c r d s : Int} (h1 : okB c r = true) (h2 : okB d s = true) {x y : Int} (ha : mn c d ≤ x) (hb : x ≤ mx c d) (hc : mn r s ≤ y) (hd : y ≤ mx r s) : okB x y = true := by
  obtain ⟨a0, a1, a2, a3⟩ := okB_t h1
  obtain ⟨b0, b1, b2, b3⟩ := okB_t h2
  obtain ⟨m10, m11, m12⟩ := mxmn c d 64 a0 a1 b0 b1
  obtain ⟨m20, m21, m22⟩ := mxmn r s 1000 a2 a3 b2 b3
  exact okB_mk (by omega) (by omega) (by omega) (by omega)
theorem insB_ok (x y c r d s : Int) : (okB x y && insB x y c r d s) = insB x y c r d s := by
  cases h : insB x y c r d s
  · simp
  · simp only [insB, Bool.and_eq_true, decide_eq_true_eq] at h
    obtain ⟨⟨⟨⟨⟨h1, h2⟩, h3⟩, h4⟩, h5⟩, h6⟩ := h
    simp [okB_mn h1 h2 h3 h4 h5 h6]
end Go.Proofs.YtacakmlkaikabaaDoor

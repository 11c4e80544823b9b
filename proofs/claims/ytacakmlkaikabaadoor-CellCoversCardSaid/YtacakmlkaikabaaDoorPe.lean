/- Plain facts on an area's cells: which they are, that each lies inside, that their numbers rise. No program stands here. -/
import Derived.Test.YtacakmlkaikabaaDoorHb
namespace Go.Proofs.YtacakmlkaikabaaDoor
set_option linter.unusedVariables false

theorem mem_upto {p q : Nat} {x : Int} : x ∈ upto p q ↔ (p : Int) ≤ x ∧ x < q := by
  unfold upto
  simp only [List.mem_map, List.mem_range'_1]
  constructor
  · rintro ⟨k, hk, rfl⟩; omega
  · rintro ⟨h0, h1⟩; exact ⟨x.toNat, by omega, by omega⟩
theorem upto_rises (p q : Nat) : (upto p q).Pairwise (· < ·) := by
  unfold upto
  rw [List.pairwise_map]
  exact (List.pairwise_lt_range' (s := p) (n := q - p)).imp (fun h => by omega)
theorem mem_grid {p q p' q' : Nat} {x y : Int} : (x, y) ∈ grid p q (upto p' q') ↔ ((p : Int) ≤ x ∧ x < q) ∧ ((p' : Int) ≤ y ∧ y < q') := by
  simp only [grid, rowOf, List.mem_flatMap, List.mem_map, mem_upto, Prod.mk.injEq]
  constructor
  · rintro ⟨r, hr, c, hc, rfl, rfl⟩; exact ⟨hc, hr⟩
  · rintro ⟨hc, hr⟩; exact ⟨y, hr, x, hc, rfl, rfl⟩
def num (x : Int × Int) : Int := 64 * x.2 + x.1
theorem grid_rises (p q p' q' : Nat) (hq : q ≤ 64) : (grid p q (upto p' q')).Pairwise (fun a b => num a < num b) := by
  unfold grid
  rw [List.pairwise_flatMap]
  constructor
  · intro r _
    unfold rowOf
    rw [List.pairwise_map]
    exact (upto_rises p q).imp (fun h => by simp only [num]; omega)
  · refine (upto_rises p' q').imp ?_
    rintro r s h ⟨x1, x2⟩ hx ⟨y1, y2⟩ hy
    simp only [rowOf, List.mem_map, mem_upto, Prod.mk.injEq] at hx hy
    obtain ⟨c, hc, rfl, rfl⟩ := hx
    obtain ⟨d, hd, rfl, rfl⟩ := hy
    simp only [num]; omega

theorem mem_cells {c r d s x y : Int} : (x, y) ∈ cellsL c r d s ↔ insB x y c r d s = true := by
  unfold cellsL insB
  cases h1 : okB c r with
  | false => simp
  | true =>
    cases h2 : okB d s with
    | false => simp
    | true =>
      obtain ⟨a0, a1, a2, a3⟩ := okB_t h1
      obtain ⟨b0, b1, b2, b3⟩ := okB_t h2
      have m1 := mxmn c d 64 a0 a1 b0 b1
      have m2 := mxmn r s 1000 a2 a3 b2 b3
      simp only [Bool.and_self, if_true, Bool.true_and, mem_grid, Bool.and_eq_true, decide_eq_true_eq]
      omega
theorem cells_rise (c r d s : Int) : (cellsL c r d s).Pairwise (fun a b => num a < num b) := by
  unfold cellsL
  split
  · rename_i h
    rw [Bool.and_eq_true] at h
    obtain ⟨a0, a1, a2, a3⟩ := okB_t h.1
    obtain ⟨b0, b1, b2, b3⟩ := okB_t h.2
    have m1 := mxmn c d 64 a0 a1 b0 b1
    exact grid_rises _ _ _ _ (by omega)
  · exact List.Pairwise.nil
theorem ins_ok {x y c r d s : Int} (h : insB x y c r d s = true) : okB x y = true := by
  have := insB_ok x y c r d s
  rw [h, Bool.and_true] at this
  exact this
theorem idx_num {x y : Int} (h : okB x y = true) : idx x y = num (x, y) := by simp [idx, h, num]


theorem mn_comm (a b : Int) : mn a b = mn b a := by unfold mn; split <;> split <;> omega
theorem mx_comm (a b : Int) : mx a b = mx b a := by unfold mx; split <;> split <;> omega
theorem ins_sym (x y c r d s : Int) : insB x y d s c r = insB x y c r d s := by
  unfold insB
  rw [mn_comm d c, mx_comm d c, mn_comm s r, mx_comm s r, Bool.and_comm (okB d s)]
theorem area_sym (c r d s : Int) : (if (okB d s && okB c r) = true then area d s c r else 0) = if (okB c r && okB d s) = true then area c r d s else 0 := by
  unfold area
  rw [mn_comm d c, mx_comm d c, mn_comm s r, mx_comm s r, Bool.and_comm (okB d s)]
end Go.Proofs.YtacakmlkaikabaaDoor

/- law.same: two rows of references, cell by cell. -/
import Derived.Test.YtacakmlkaikabaaDoorDe
import Derived.Laws.OwnMore
namespace Go.Proofs.YtacakmlkaikabaaDoor
set_option linter.unusedVariables false
open Go.RowKit

/-- A value that is a row of references (none of them absolute). -/
def RowAt (W : World) (v : Value) (xs : List (Int × Int)) : Prop :=
  ∃ ao cap, v = .slice ao xs.length cap ∧ ∀ (j : Nat) (hj : j < xs.length), ∃ b, ao = some ⟨b, 0, none⟩ ∧
    W.cell? ⟨b, j * 4, none⟩ = some (.int .i64 (xs[j]'hj).1) ∧ W.cell? ⟨b, j * 4 + 1, none⟩ = some (.int .i64 (xs[j]'hj).2) ∧ W.cell? ⟨b, j * 4 + 2, none⟩ = some (.bool false) ∧ W.cell? ⟨b, j * 4 + 3, none⟩ = some (.bool false)

theorem flat_get : ∀ (xs : List (Int × Int)) (j i : Nat) (hj : j < xs.length) (hi : i < 4), (flat xs)[j * 4 + i]? = (cell4 (xs[j]'hj))[i]?
  | x :: xs, 0, i, _, hi => by
    simp only [flat, List.flatMap_cons, Nat.zero_mul, Nat.zero_add, List.getElem_cons_zero]
    rw [List.getElem?_append_left (by simp [cell4]; omega)]
  | x :: xs, j + 1, i, hj, hi => by
    have ih := flat_get xs j i (by simpa using hj) hi
    simp only [flat, List.flatMap_cons, List.getElem_cons_succ] at ih ⊢
    rw [List.getElem?_append_right (by simp [cell4]; omega), ← ih]
    congr 1
    simp [cell4]; omega

theorem rowAt_owns {W : World} {base : Nat} {v : Value} {xs : List (Int × Int)} (h : W.ownsRow base 23 4 v xs.length (flat xs)) : RowAt W v xs := by
  rcases h.2 with ⟨rfl, h0⟩ | ⟨g, cap, cur, rfl, _⟩
  · exact ⟨none, 0, by rw [h0], fun j hj => by omega⟩
  · refine ⟨some ⟨g, 0, none⟩, cap, rfl, fun j hj => ⟨g, rfl, ?_⟩⟩
    have hc := fun i (hi : i < 4) => (h.cellAt (j * 4 + i) (by omega)).trans (flat_get xs j i hj hi)
    have c0 := hc 0 (by omega)
    have c1 := hc 1 (by omega)
    have c2 := hc 2 (by omega)
    have c3 := hc 3 (by omega)
    simp only [Nat.add_zero] at c0
    simp [cell4] at c0 c1 c2 c3
    exact ⟨c0, c1, c2, c3⟩

theorem rowAt_keep {A B : World} {v : Value} {xs : List (Int × Int)} (h : RowAt A v xs) (hb : Below A.heap.size A B) : RowAt B v xs := by
  obtain ⟨ao, cap, rfl, hc⟩ := h
  refine ⟨ao, cap, rfl, fun j hj => ?_⟩
  obtain ⟨b, e, c0, c1, c2, c3⟩ := hc j hj
  have hl : b < A.heap.size := by simpa using World.block_lt_of_cell? A _ c0
  exact ⟨b, e, (hb.cell (p := ⟨b, _, none⟩) hl).trans c0, (hb.cell (p := ⟨b, _, none⟩) hl).trans c1, (hb.cell (p := ⟨b, _, none⟩) hl).trans c2, (hb.cell (p := ⟨b, _, none⟩) hl).trans c3⟩

set_option maxHeartbeats 4000000 in
set_option maxRecDepth 100000 in
theorem same_any (va vb : Value) (xs ys : List (Int × Int)) (w : World) (ha : RowAt w va xs) (hb : RowAt w vb ys) (hx : xs.length ≤ 6000) (hy : ys.length ≤ 6000) :
    Calls Tryd.prog 28 #[va, vb] w fun e w' => e = .returned (.bool (decide (xs = ys))) ∧ Below w.heap.size w w' := by
  have HA := Lib.hid ha
  have HB := Lib.hid hb
  obtain ⟨ao, ca, rfl, _⟩ := ha
  obtain ⟨bo, cb, rfl, _⟩ := hb
  go_enter Tryd.func28, Tryd.ntmps28
  by_cases hl : xs.length = ys.length
  · have hle : ((xs.length : Int) == (ys.length : Int)) = true := by rw [beq_iff_eq]; omega
    go_wp2_with fail
    go_loopw [5] (fun i wr => ∃ (k : Nat), i = .int .i64 k ∧ k ≤ xs.length ∧ xs.take k = ys.take k ∧ Below w.heap.size w wr) (fun i _ => xs.length - (intOf i).toNat)
    case atStart => exact ⟨0, rfl, by omega, by simp, Below.refl _ _⟩
    case round =>
      obtain ⟨k, rfl, k0, ke, hW⟩ := hrel
      by_cases hk : k < xs.length
      · have ha := rowAt_keep HA.out hW
        have hb := rowAt_keep HB.out hW
        obtain ⟨ao', ca', ea, hca⟩ := ha
        obtain ⟨bo', cb', eb, hcb⟩ := hb
        cases ea
        cases eb
        obtain ⟨b, rfl, c0, c1, c2, c3⟩ := hca k hk
        obtain ⟨b', rfl, d0, d1, d2, d3⟩ := hcb k (by omega)
        obtain ⟨p, hp⟩ : ∃ p, xs[k]'hk = p := ⟨_, rfl⟩
        obtain ⟨q, hq⟩ : ∃ q, ys[k]'(by omega) = q := ⟨_, rfl⟩
        rw [hp] at c0 c1
        rw [hq] at d0 d1
        have HP := Lib.hid hp
        have HQ := Lib.hid hq
        have KE := Lib.hid ke
        clear hca hcb hp hq ke
        obtain ⟨p1, p2⟩ := p
        obtain ⟨q1, q2⟩ := q
        dsimp only at c0 c1 d0 d1
        by_cases hpq : p1 = q1 ∧ p2 = q2
        · obtain ⟨rfl, rfl⟩ := hpq
          go_wp2_with fail
          go_region
          go_wp2_with fail
          go_roundw
          case rel => exact ⟨k + 1, by go_num, by omega, by rw [List.take_succ_eq_append_getElem hk, List.take_succ_eq_append_getElem (by omega), KE.out, HP.out, HQ.out], hW.drew⟩
          case measure => simp [intOf]; omega
        · by_cases e1 : p1 = q1
          · have e2 : ¬ p2 = q2 := fun h => hpq ⟨e1, h⟩
            go_wp2_with fail
            go_region
            go_wp2_with fail
            refine bodyPost_ret (v := .bool false) (by simp [results, Tryd.results28, go_sem]; done) rfl ⟨?_, by repeat' (first | (with_reducible exact hW) | (with_reducible refine Below.drew ?_))⟩
            rw [decide_eq_false]
            intro e
            have h1 := HP.out
            have h2 := HQ.out
            subst e
            rw [h1] at h2
            simp at h2
            omega
          · go_wp2_with fail
            go_region
            go_wp2_with fail
            refine bodyPost_ret (v := .bool false) (by simp [results, Tryd.results28, go_sem]; done) rfl ⟨?_, by repeat' (first | (with_reducible exact hW) | (with_reducible refine Below.drew ?_))⟩
            rw [decide_eq_false]
            intro e
            have h1 := HP.out
            have h2 := HQ.out
            subst e
            rw [h1] at h2
            simp at h2
            omega
      · obtain rfl : k = xs.length := by omega
        go_wp2_with fail
        refine bodyPost_ret (v := .bool true) (by simp [results, Tryd.results28, go_sem]; done) rfl ⟨?_, hW⟩
        rw [List.take_length, hl, List.take_length] at ke
        simp [ke]
  · have hle : ((xs.length : Int) == (ys.length : Int)) = false := by rw [beq_eq_false_iff_ne]; omega
    go_wp2_with fail
    refine bodyPost_ret (v := .bool false) (by simp [results, Tryd.results28, go_sem]; done) rfl ⟨?_, Below.refl _ _⟩
    rw [decide_eq_false (fun e => hl (by rw [e]))]
end Go.Proofs.YtacakmlkaikabaaDoor

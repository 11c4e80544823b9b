/- The reference's Cells, walked at every two references. -/
import Derived.Test.YtacakmlkaikabaaDoorEa
import Derived.Test.YtacakmlkaikabaaDoorCc
import Derived.OwnWalk
namespace Go.Proofs.YtacakmlkaikabaaDoor
set_option linter.unusedVariables false
open Go.RowKit
attribute [local go_sem] max2_int min2_int max_two min_two

theorem flat_append (a b : List (Int × Int)) : flat (a ++ b) = flat a ++ flat b := by simp [flat]
theorem ownsRow_base {W : World} {b b' : Nat} {e : TypeId} {size : Nat} {v : Value} {n : Nat} {xs : List Value} (h : W.ownsRow b e size v n xs) (hb : b' ≤ b) : W.ownsRow b' e size v n xs := by
  refine ⟨h.1, ?_⟩
  rcases h.2 with h | ⟨g, cap, cur, h1, h2, h3⟩
  · exact .inl h
  · exact .inr ⟨g, cap, cur, h1, Nat.le_trans hb h2, h3⟩

set_option maxHeartbeats 4000000 in
set_option maxRecDepth 100000 in
theorem refCells_yes (c r d s : Int) (ac ar bc br : Bool) (h1 : okB c r = true) (h2 : okB d s = true) (p q p' q' : Nat) (hp : mn c d = (p : Int)) (hq : mx c d + 1 = (q : Int)) (hp' : mn r s = (p' : Int)) (hq' : mx r s + 1 = (q' : Int)) (hpq : p ≤ q) (hpq' : p' ≤ q') (hq5 : q ≤ 64) (hq5' : q' ≤ 1000) (w : World) :
    Calls Tryd.prog 30 #[.agg #[.int .i64 c, .int .i64 r, .bool ac, .bool ar], .agg #[.int .i64 d, .int .i64 s, .bool bc, .bool br]] w fun e w' => ∃ v, e = .returned v ∧ w'.ownsRow w.heap.size 23 4 v (grid p q (upto p' q')).length (flat (grid p q (upto p' q'))) ∧ Below w.heap.size w w' := by
  have HP := Lib.hid hp
  have HQ := Lib.hid hq
  have HP' := Lib.hid hp'
  have HQ' := Lib.hid hq'
  clear hp hq hp' hq'
  obtain ⟨i0, hi, hz0, hz1, hz2⟩ := info_parts info23
  go_enter Tryd.func30, Tryd.ntmps30
  go_wp2_with (go_at_call 13; refine (refRight_any _ _ _ _ _).mono ?_; rintro e w' ⟨rfl, rfl⟩)
  have bA : ((((w.alloc (.cells #[.int .i64 c, .int .i64 r, .bool ac, .bool ar] 23)).alloc (.cells #[.int .i64 d, .int .i64 s, .bool bc, .bool br] 23)).alloc (.cells #[.int .i64 c, .int .i64 r, .bool ac, .bool ar] 23)).alloc (.cells #[.int .i64 d, .int .i64 s, .bool bc, .bool br] 23)).heap[w.heap.size]? = some (.cells #[.int .i64 c, .int .i64 r, .bool ac, .bool ar] 23) := blk_alloc (blk_alloc (blk_alloc (blk_new w _) _) _) _
  have bB : ((((w.alloc (.cells #[.int .i64 c, .int .i64 r, .bool ac, .bool ar] 23)).alloc (.cells #[.int .i64 d, .int .i64 s, .bool bc, .bool br] 23)).alloc (.cells #[.int .i64 c, .int .i64 r, .bool ac, .bool ar] 23)).alloc (.cells #[.int .i64 d, .int .i64 s, .bool bc, .bool br] 23)).heap[w.heap.size + 1]? = some (.cells #[.int .i64 d, .int .i64 s, .bool bc, .bool br] 23) := by
    have h := blk_new (w.alloc (.cells #[.int .i64 c, .int .i64 r, .bool ac, .bool ar] 23)) (.cells #[.int .i64 d, .int .i64 s, .bool bc, .bool br] 23)
    rw [World.size_alloc] at h
    exact blk_alloc (blk_alloc h _) _
  have hW0 : Below w.heap.size w ((((w.alloc (.cells #[.int .i64 c, .int .i64 r, .bool ac, .bool ar] 23)).alloc (.cells #[.int .i64 d, .int .i64 s, .bool bc, .bool br] 23)).alloc (.cells #[.int .i64 c, .int .i64 r, .bool ac, .bool ar] 23)).alloc (.cells #[.int .i64 d, .int .i64 s, .bool bc, .bool br] 23)) := ((((Below.refl _ w).alloc (Nat.le_refl _) _).alloc (by simp) _).alloc (by simp; omega) _).alloc (by simp; omega) _
  generalize ((((w.alloc (.cells #[.int .i64 c, .int .i64 r, .bool ac, .bool ar] 23)).alloc (.cells #[.int .i64 d, .int .i64 s, .bool bc, .bool br] 23)).alloc (.cells #[.int .i64 c, .int .i64 r, .bool ac, .bool ar] 23)).alloc (.cells #[.int .i64 d, .int .i64 s, .bool bc, .bool br] 23)) = W0 at bA bB hW0 ⊢
  go_loopw [5, 8, 9] (fun out row col wr => ∃ (j : Nat), p' ≤ j ∧ j ≤ q' ∧ row = .int .i64 j ∧ wr.ownsRow W0.heap.size 23 4 out (grid p q (upto p' j)).length (flat (grid p q (upto p' j))) ∧ Below W0.heap.size W0 wr) (fun _ row _ _ => q' - (intOf row).toNat)
  case atStart => exact ⟨p', Nat.le_refl _, hpq', by rw [HP'.out], by rw [upto_self]; exact World.ownsRow_nil _ _ _ _, Below.refl _ _⟩
  case round =>
    obtain ⟨j, j0, j1, rfl, hrow, hW⟩ := hrel
    have bA1 := blk_keep hW bA
    have bB1 := blk_keep hW bB
    have a10 := blk_cell bA1 0
    have a11 := blk_cell bA1 1
    have b10 := blk_cell bB1 0
    have b11 := blk_cell bB1 1
    simp at a10 a11 b10 b11
    have la1 := blk_lt bA1
    have lb1 := blk_lt bB1
    by_cases hj : j < q'
    · have i1 : (j : Int) ≤ mx r s := by have := HQ'.out; omega
      go_wp2_with fail
      clear i1 a10 a11 b10 b11 la1 lb1 bA1 bB1
      obtain ⟨wo, rfl⟩ : ∃ wo : World, wo = wr := ⟨_, rfl⟩
      go_loopw [5, 9] (fun out col wr2 => ∃ (k : Nat), p ≤ k ∧ k ≤ q ∧ col = .int .i64 k ∧ wr2.ownsRow W0.heap.size 23 4 out (grid p q (upto p' j) ++ (upto p k).map (fun c => (c, (j : Int)))).length (flat (grid p q (upto p' j) ++ (upto p k).map (fun c => (c, (j : Int))))) ∧ Below W0.heap.size W0 wr2) (fun _ col _ => q - (intOf col).toNat)
      case atStart => exact ⟨p, Nat.le_refl _, hpq, by rw [HP.out], by rw [upto_self]; simpa using hrow, hW⟩
      case round =>
        clear hrow hW
        obtain ⟨k, k0, k1, rfl, hrow, hW⟩ := hrel
        have bA2 := blk_keep hW bA
        have bB2 := blk_keep hW bB
        have a20 := blk_cell bA2 0
        have a21 := blk_cell bA2 1
        have b20 := blk_cell bB2 0
        have b21 := blk_cell bB2 1
        simp at a20 a21 b20 b21
        have la2 := blk_lt bA2
        have lb2 := blk_lt bB2
        have hlen : (grid p q (upto p' j) ++ (upto p k).map (fun c => (c, (j : Int)))).length ≤ 64000 := by
          rw [List.length_append, grid_len, List.length_map, upto_len, upto_len]
          have h1 := Nat.mul_le_mul (show j - p' ≤ 999 by omega) (show q - p ≤ 64 by omega)
          omega
        by_cases hk : k < q
        · have i2 : (k : Int) ≤ mx c d := by have := HQ.out; omega
          go_wp2_with (at_builtin; refine wpList_append_own _ rfl _ _ 42 rfl W0.heap.size 23 i0 (.agg #[.int .i64 0, .int .i64 0, .bool false, .bool false]) 4 24 Tryd.underlying42 hi hz0 hz1 hz2 rfl (by decide) _ (grid p q (upto p' j) ++ (upto p k).map (fun c => (c, (j : Int)))).length (flat (grid p q (upto p' j) ++ (upto p k).map (fun c => (c, (j : Int))))) rfl (hrow.alloc _) ⟨wr.heap.size, 0, none⟩ 1 1 (cell4 ((k : Int), (j : Int))) rfl rfl (cell_four_new _ _ _ _ _ _) (by simp [cell4, Value.oneCell']) (by show _ ≤ 9223372036854775807; omega) (by omega) (by have := hW.size; simp; omega) ?_; intro v' w1 hown' hgrow _)
          have hW1 : Below W0.heap.size W0 w1 := Below.grown (hW.alloc hW.size _) hgrow (by have := hW.size; simp; omega) (fun g hg => (hrow.lt g hg).1)
          clear hW
          go_roundw
          case rel => exact ⟨k + 1, by omega, by omega, by go_num, by rw [upto_succ k0, List.map_append, ← List.append_assoc, flat_append]; simpa [flat, Nat.add_assoc] using hown', hW1⟩
          case measure => simp [intOf]; omega
        · obtain rfl : k = q := by omega
          have i2 : ¬ (k : Int) ≤ mx c d := by have := HQ.out; omega
          go_wp2_with fail
          clear i2 a20 a21 b20 b21 la2 lb2
          go_roundw
          case rel => exact ⟨j + 1, by omega, by omega, by go_num, by rw [upto_succ j0, grid_snoc]; exact hrow, hW⟩
          case measure => simp [intOf]; omega
    · obtain rfl : j = q' := by omega
      have i1 : ¬ (j : Int) ≤ mx r s := by have := HQ'.out; omega
      go_wp2_with fail
      refine bodyPost_ret (v := u5) (by simp [results, Tryd.results30, go_sem]; done) rfl ⟨_, rfl, ?_, hW0.trans (hW.mono hW0.size)⟩
      exact ownsRow_base hrow hW0.size

set_option maxHeartbeats 1000000 in
theorem refCells_no (c r d s : Int) (ac ar bc br : Bool) (h : okB c r = false ∨ okB d s = false) (w : World) :
    Calls Tryd.prog 30 #[.agg #[.int .i64 c, .int .i64 r, .bool ac, .bool ar], .agg #[.int .i64 d, .int .i64 s, .bool bc, .bool br]] w fun e w' => e = .returned (.slice none 0 0) ∧ Below w.heap.size w w' := by
  cases h1 : okB c r with
  | false =>
    clear h
    go_enter Tryd.func30, Tryd.ntmps30
    go_wp2_with (go_at_call 13; refine (refRight_any _ _ _ _ _).mono ?_; rintro e w' ⟨rfl, rfl⟩)
    refine bodyPost_ret (v := .slice none 0 0) (by simp [results, Tryd.results30, go_sem]; done) rfl ⟨rfl, ?_⟩
    exact ((((Below.refl _ w).alloc (Nat.le_refl _) _).alloc (by simp) _).alloc (by simp; omega) _).alloc (by simp; omega) _
  | true =>
    have h2 : okB d s = false := by rcases h with h | h; · rw [h1] at h; cases h
                                    · exact h
    clear h
    go_enter Tryd.func30, Tryd.ntmps30
    go_wp2_with (go_at_call 13; refine (refRight_any _ _ _ _ _).mono ?_; rintro e w' ⟨rfl, rfl⟩)
    refine bodyPost_ret (v := .slice none 0 0) (by simp [results, Tryd.results30, go_sem]; done) rfl ⟨rfl, ?_⟩
    exact ((((Below.refl _ w).alloc (Nat.le_refl _) _).alloc (by simp) _).alloc (by simp; omega) _).alloc (by simp; omega) _

theorem refCells_any (c r d s : Int) (ac ar bc br : Bool) (w : World) :
    Calls Tryd.prog 30 #[.agg #[.int .i64 c, .int .i64 r, .bool ac, .bool ar], .agg #[.int .i64 d, .int .i64 s, .bool bc, .bool br]] w fun e w' => ∃ v, e = .returned v ∧ RowAt w' v (cellsL c r d s) ∧ Below w.heap.size w w' := by
  cases h1 : okB c r with
  | false =>
    have e : cellsL c r d s = [] := by simp [cellsL, h1]
    rw [e]
    exact (refCells_no c r d s ac ar bc br (.inl h1) w).mono fun _ _ ⟨he, hb⟩ => ⟨_, he, ⟨none, 0, rfl, fun j hj => by simp at hj⟩, hb⟩
  | true =>
    cases h2 : okB d s with
    | false =>
      have e : cellsL c r d s = [] := by simp [cellsL, h2]
      rw [e]
      exact (refCells_no c r d s ac ar bc br (.inr h2) w).mono fun _ _ ⟨he, hb⟩ => ⟨_, he, ⟨none, 0, rfl, fun j hj => by simp at hj⟩, hb⟩
    | true =>
      obtain ⟨a0, a1, a2, a3⟩ := okB_t h1
      obtain ⟨b0, b1, b2, b3⟩ := okB_t h2
      have m1 := mxmn c d 64 a0 a1 b0 b1
      have m2 := mxmn r s 1000 a2 a3 b2 b3
      have e : cellsL c r d s = grid (mn c d).toNat (mx c d + 1).toNat (upto (mn r s).toNat (mx r s + 1).toNat) := by simp [cellsL, h1, h2]
      rw [e]
      exact (refCells_yes c r d s ac ar bc br h1 h2 (mn c d).toNat (mx c d + 1).toNat (mn r s).toNat (mx r s + 1).toNat (by omega) (by omega) (by omega) (by omega) (by omega) (by omega) (by omega) (by omega) w).mono fun _ _ ⟨v, he, hr, hb⟩ => ⟨v, he, rowAt_owns hr, hb⟩

/-- How many cells there are. -/
theorem cellsL_len (c r d s : Int) : ((cellsL c r d s).length : Int) = if (okB c r && okB d s) = true then area c r d s else 0 := by
  unfold cellsL
  split
  · rename_i h
    rw [Bool.and_eq_true] at h
    obtain ⟨a0, a1, a2, a3⟩ := okB_t h.1
    obtain ⟨b0, b1, b2, b3⟩ := okB_t h.2
    have m1 := mxmn c d 64 a0 a1 b0 b1
    have m2 := mxmn r s 1000 a2 a3 b2 b3
    rw [grid_len, upto_len, area]
    have e1 : (((mx c d + 1).toNat - (mn c d).toNat : Nat) : Int) = mx c d - mn c d + 1 := by omega
    have e2 : (((mx r s + 1).toNat - (mn r s).toNat : Nat) : Int) = mx r s - mn r s + 1 := by omega
    rw [Int.natCast_mul, e1, e2, Int.mul_comm]
  · rfl
end Go.Proofs.YtacakmlkaikabaaDoor

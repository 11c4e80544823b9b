/- law CellAreas, walked. -/
import Derived.Test.YtacakmlkaikabaaDoorEb
import Derived.Test.YtacakmlkaikabaaDoorHa
import Derived.Test.YtacakmlkaikabaaDoorHb
import Derived.Deep.RegionHeld3
namespace Go.Proofs.YtacakmlkaikabaaDoor
set_option linter.unusedVariables false
open Go.RowKit

theorem box4_facts {W w' : World} {B : Nat} {c r : Int} {a b : Bool} (hX : Below W.heap.size W w') (h : W.heap[B]? = some (.cells #[.int .i64 c, .int .i64 r, .bool a, .bool b] 23)) :
    w'.cell? ⟨B, 0, none⟩ = some (.int .i64 c) ∧ w'.cell? ⟨B, 1, none⟩ = some (.int .i64 r) ∧ w'.cell? ⟨B, 2, none⟩ = some (.bool a) ∧ w'.cell? ⟨B, 3, none⟩ = some (.bool b) := by
  have h' := blk_keep hX h
  exact ⟨blk_cell h' 0, blk_cell h' 1, blk_cell h' 2, blk_cell h' 3⟩
theorem s3_keep {W w' : World} {A B C : Nat} {x y c r d s : Int} {xc xr ac ar bc br : Bool} (hX : Below W.heap.size W w') (hA : W.heap[A]? = some (.cells #[.int .i64 x, .int .i64 y, .bool xc, .bool xr] 23)) (hB : W.heap[B]? = some (.cells #[.int .i64 c, .int .i64 r, .bool ac, .bool ar] 23)) (hC : W.heap[C]? = some (.cells #[.int .i64 d, .int .i64 s, .bool bc, .bool br] 23)) :
    Below W.heap.size W w' ∧ (w'.cell? ⟨A, 0, none⟩ = some (.int .i64 x) ∧ w'.cell? ⟨A, 1, none⟩ = some (.int .i64 y) ∧ w'.cell? ⟨A, 2, none⟩ = some (.bool xc) ∧ w'.cell? ⟨A, 3, none⟩ = some (.bool xr)) ∧
      (w'.cell? ⟨B, 0, none⟩ = some (.int .i64 c) ∧ w'.cell? ⟨B, 1, none⟩ = some (.int .i64 r) ∧ w'.cell? ⟨B, 2, none⟩ = some (.bool ac) ∧ w'.cell? ⟨B, 3, none⟩ = some (.bool ar)) ∧
      (w'.cell? ⟨C, 0, none⟩ = some (.int .i64 d) ∧ w'.cell? ⟨C, 1, none⟩ = some (.int .i64 s) ∧ w'.cell? ⟨C, 2, none⟩ = some (.bool bc) ∧ w'.cell? ⟨C, 3, none⟩ = some (.bool br)) :=
  ⟨hX, box4_facts hX hA, box4_facts hX hB, box4_facts hX hC⟩

def areaV (c r d s : Int) : Int := if (okB c r && okB d s) = true then area c r d s else 0
theorem area_any (c r : Int) (ac ar : Bool) (d s : Int) (bc br : Bool) (w : World) :
    Calls Tryd.prog 24 #[.agg #[.int .i64 c, .int .i64 r, .bool ac, .bool ar], .agg #[.int .i64 d, .int .i64 s, .bool bc, .bool br]] w fun e w' => e = .returned (.int .i64 (areaV c r d s)) ∧ Below w.heap.size w w' := by
  cases h1 : okB c r with
  | false => have e : areaV c r d s = 0 := by simp [areaV, h1]
             rw [e]; exact area_no c r ac ar d s bc br w (.inl h1)
  | true =>
    cases h2 : okB d s with
    | false => have e : areaV c r d s = 0 := by simp [areaV, h2]
               rw [e]; exact area_no c r ac ar d s bc br w (.inr h2)
    | true => have e : areaV c r d s = area c r d s := by simp [areaV, h1, h2]
              rw [e]; exact area_yes c r ac ar d s bc br w h1 h2
theorem refArea_any (c r : Int) (ac ar : Bool) (d s : Int) (bc br : Bool) (w : World) :
    Calls Tryd.prog 25 #[.agg #[.int .i64 c, .int .i64 r, .bool ac, .bool ar], .agg #[.int .i64 d, .int .i64 s, .bool bc, .bool br]] w fun e w' => e = .returned (.int .i64 (areaV c r d s)) ∧ Below w.heap.size w w' := by
  cases h1 : okB c r with
  | false => have e : areaV c r d s = 0 := by simp [areaV, h1]
             rw [e]; exact refArea_no c r ac ar d s bc br w (.inl h1)
  | true =>
    cases h2 : okB d s with
    | false => have e : areaV c r d s = 0 := by simp [areaV, h2]
               rw [e]; exact refArea_no c r ac ar d s bc br w (.inr h2)
    | true => have e : areaV c r d s = area c r d s := by simp [areaV, h1, h2]
              rw [e]; exact refArea_yes c r ac ar d s bc br w h1 h2
theorem inside_any (x y : Int) (xc xr : Bool) (c r : Int) (ac ar : Bool) (d s : Int) (bc br : Bool) (w : World) :
    Calls Tryd.prog 26 #[.agg #[.int .i64 x, .int .i64 y, .bool xc, .bool xr], .agg #[.int .i64 c, .int .i64 r, .bool ac, .bool ar], .agg #[.int .i64 d, .int .i64 s, .bool bc, .bool br]] w fun e w' => e = .returned (.bool (insB x y c r d s)) ∧ Below w.heap.size w w' := by
  cases h1 : okB c r with
  | false => exact inside_no x y xc xr c r ac ar d s bc br w (.inl h1)
  | true =>
    cases h2 : okB d s with
    | false => exact inside_no x y xc xr c r ac ar d s bc br w (.inr h2)
    | true => exact inside_yes x y xc xr c r ac ar d s bc br w h1 h2
theorem refInside_all (x y : Int) (xc xr : Bool) (c r : Int) (ac ar : Bool) (d s : Int) (bc br : Bool) (w : World) :
    Calls Tryd.prog 27 #[.agg #[.int .i64 x, .int .i64 y, .bool xc, .bool xr], .agg #[.int .i64 c, .int .i64 r, .bool ac, .bool ar], .agg #[.int .i64 d, .int .i64 s, .bool bc, .bool br]] w fun e w' => e = .returned (.bool (insB x y c r d s)) ∧ Below w.heap.size w w' := by
  rw [← insB_ok]
  exact refInside_any x y xc xr c r ac ar d s bc br w
theorem areaV_len (c r d s : Int) : ((cellsL c r d s).length : Int) = areaV c r d s := cellsL_len c r d s

set_option maxHeartbeats 8000000 in
set_option maxRecDepth 100000 in
theorem areas_walk (x y : Int) (xc xr : Bool) (c r : Int) (ac ar : Bool) (d s : Int) (bc br : Bool) (i : Int) (w : World) (ht : HT w) :
    Calls Tryd.prog 7 #[.agg #[.int .i64 x, .int .i64 y, .bool xc, .bool xr], .agg #[.int .i64 c, .int .i64 r, .bool ac, .bool ar], .agg #[.int .i64 d, .int .i64 s, .bool bc, .bool br], .int .i64 i] w fun e w' => e = .returned (.bool true) ∧ Below w.heap.size w w' := by
  have HL := Lib.hid (areaV_len c r d s)
  generalize hV : areaV c r d s = V at HL
  have HV := Lib.hid hV
  clear hV
  obtain ⟨ix, hix⟩ : ∃ ix, idx x y = ix := ⟨_, rfl⟩
  obtain ⟨tc, htc⟩ : ∃ tc, atC i = tc := ⟨_, rfl⟩
  obtain ⟨tr, htr⟩ : ∃ tr, atR i = tr := ⟨_, rfl⟩
  obtain ⟨nb, hnb⟩ : ∃ nb, insB x y c r d s = nb := ⟨_, rfl⟩
  have HIX := Lib.hid hix
  have HTC := Lib.hid htc
  have HTR := Lib.hid htr
  have HNB := Lib.hid hnb
  clear hix htc htr hnb
  have HT0 := Lib.hid ht
  clear ht
  have hW3 : Below w.heap.size w (((w.alloc (.cells #[.int .i64 x, .int .i64 y, .bool xc, .bool xr] 23)).alloc (.cells #[.int .i64 c, .int .i64 r, .bool ac, .bool ar] 23)).alloc (.cells #[.int .i64 d, .int .i64 s, .bool bc, .bool br] 23)) :=
    (((Below.refl _ w).alloc (Nat.le_refl _) _).alloc (by simp) _).alloc (by simp; omega) _
  have bA := blk_alloc (blk_alloc (blk_new w (.cells #[.int .i64 x, .int .i64 y, .bool xc, .bool xr] 23)) (.cells #[.int .i64 c, .int .i64 r, .bool ac, .bool ar] 23)) (.cells #[.int .i64 d, .int .i64 s, .bool bc, .bool br] 23)
  have bB := blk_alloc (blk_new (w.alloc (.cells #[.int .i64 x, .int .i64 y, .bool xc, .bool xr] 23)) (.cells #[.int .i64 c, .int .i64 r, .bool ac, .bool ar] 23)) (.cells #[.int .i64 d, .int .i64 s, .bool bc, .bool br] 23)
  have bC := blk_new ((w.alloc (.cells #[.int .i64 x, .int .i64 y, .bool xc, .bool xr] 23)).alloc (.cells #[.int .i64 c, .int .i64 r, .bool ac, .bool ar] 23)) (.cells #[.int .i64 d, .int .i64 s, .bool bc, .bool br] 23)
  simp only [World.size_alloc] at bB bC
  go_enter Tryd.func7, Tryd.ntmps7
  go_wp2_with (go_at_call 9; refine (shown_any _ (HT0.out.stay hW3)).mono ?_; rintro e W ⟨rfl, hB1⟩; (have hW : Below w.heap.size w W := hW3.trans (hB1.mono hW3.size)); have bA := blk_keep hB1 bA; have bB := blk_keep hB1 bB; have bC := blk_keep hB1 bC; clear hB1)
  obtain ⟨A, hA⟩ : ∃ A, w.heap.size = A := ⟨_, rfl⟩
  rw [hA] at bA bB bC
  rw [hA]
  have HW := Lib.hid hW
  clear hW hW3 hA
  have hD0 : Below W.heap.size W W.drew := (Below.refl _ _).drew
  go_region_held3 (fun w' => Below W.heap.size W w' ∧ (w'.cell? ⟨A, 0, none⟩ = some (.int .i64 x) ∧ w'.cell? ⟨A, 1, none⟩ = some (.int .i64 y) ∧ w'.cell? ⟨A, 2, none⟩ = some (.bool xc) ∧ w'.cell? ⟨A, 3, none⟩ = some (.bool xr)) ∧
      (w'.cell? ⟨A + 1, 0, none⟩ = some (.int .i64 c) ∧ w'.cell? ⟨A + 1, 1, none⟩ = some (.int .i64 r) ∧ w'.cell? ⟨A + 1, 2, none⟩ = some (.bool ac) ∧ w'.cell? ⟨A + 1, 3, none⟩ = some (.bool ar)) ∧
      (w'.cell? ⟨A + 1 + 1, 0, none⟩ = some (.int .i64 d) ∧ w'.cell? ⟨A + 1 + 1, 1, none⟩ = some (.int .i64 s) ∧ w'.cell? ⟨A + 1 + 1, 2, none⟩ = some (.bool bc) ∧ w'.cell? ⟨A + 1 + 1, 3, none⟩ = some (.bool br)))
    (first
      | exact s3_keep (by assumption) bA bB bC
      | (go_split_ands; exact s3_keep (by assumption) bA bB bC))
    (first
      | (go_at_call 19; go_split_ands; refine (index_any _ _ _ _ _).mono ?_; rintro e w1 ⟨he, hB1⟩; rw [HIX.out] at he; subst he; have hX1 := Below.trans (by assumption) (hB1.mono (Below.size (by assumption))); clear hB1)
      | (go_at_call 22; go_split_ands; refine (refIndex_any _ _ _ _ _).mono ?_; rintro e w2 ⟨he, hB1⟩; rw [HIX.out] at he; subst he; have hX2 := Below.trans (by assumption) (hB1.mono (Below.size (by assumption))); clear hB1)
      | (go_at_call 18; go_split_ands; refine (at_any _ _).mono ?_; rintro e w3 ⟨he, hB1⟩; rw [HTC.out, HTR.out] at he; subst he; have hX3 := Below.trans (by assumption) (hB1.mono (Below.size (by assumption))); clear hB1)
      | (go_at_call 23; go_split_ands; refine (refAt_any _ _).mono ?_; rintro e w4 ⟨he, hB1⟩; rw [HTC.out, HTR.out] at he; subst he; have hX4 := Below.trans (by assumption) (hB1.mono (Below.size (by assumption))); clear hB1)
      | (go_at_call 24; go_split_ands; refine (area_any _ _ _ _ _ _ _ _ _).mono ?_; rintro e w5 ⟨he, hB1⟩; rw [HV.out] at he; subst he; have hX5 := Below.trans (by assumption) (hB1.mono (Below.size (by assumption))); clear hB1)
      | (go_at_call 25; go_split_ands; refine (refArea_any _ _ _ _ _ _ _ _ _).mono ?_; rintro e w6 ⟨he, hB1⟩; rw [HV.out] at he; subst he; have hX6 := Below.trans (by assumption) (hB1.mono (Below.size (by assumption))); clear hB1)
      | (go_at_call 26; go_split_ands; refine (inside_any _ _ _ _ _ _ _ _ _ _ _ _ _).mono ?_; rintro e w7 ⟨he, hB1⟩; rw [HNB.out] at he; subst he; have hX7 := Below.trans (by assumption) (hB1.mono (Below.size (by assumption))); clear hB1)
      | (go_at_call 27; go_split_ands; refine (refInside_all _ _ _ _ _ _ _ _ _ _ _ _ _).mono ?_; rintro e w8 ⟨he, hB1⟩; rw [HNB.out] at he; subst he; have hX8 := Below.trans (by assumption) (hB1.mono (Below.size (by assumption))); clear hB1))
  go_split_ands
  have s8 := hX8.size
  have lB := blk_lt bB
  have lC := blk_lt bC
  by_cases hbig : V ≤ 5000
  · go_wp2_with (go_at_call 25; refine (refArea_any _ _ _ _ _ _ _ _ _).mono ?_; rintro e w9 ⟨he, hB1⟩; rw [HV.out] at he; subst he; have hX9 := Below.trans hX8 (hB1.mono (Below.size hX8)); clear hB1)
    have hD9 : Below W.heap.size W w9.drew := hX9.drew
    go_region_held3 (fun w' => Below W.heap.size W w' ∧ (w'.cell? ⟨A, 0, none⟩ = some (.int .i64 x) ∧ w'.cell? ⟨A, 1, none⟩ = some (.int .i64 y) ∧ w'.cell? ⟨A, 2, none⟩ = some (.bool xc) ∧ w'.cell? ⟨A, 3, none⟩ = some (.bool xr)) ∧
      (w'.cell? ⟨A + 1, 0, none⟩ = some (.int .i64 c) ∧ w'.cell? ⟨A + 1, 1, none⟩ = some (.int .i64 r) ∧ w'.cell? ⟨A + 1, 2, none⟩ = some (.bool ac) ∧ w'.cell? ⟨A + 1, 3, none⟩ = some (.bool ar)) ∧
      (w'.cell? ⟨A + 1 + 1, 0, none⟩ = some (.int .i64 d) ∧ w'.cell? ⟨A + 1 + 1, 1, none⟩ = some (.int .i64 s) ∧ w'.cell? ⟨A + 1 + 1, 2, none⟩ = some (.bool bc) ∧ w'.cell? ⟨A + 1 + 1, 3, none⟩ = some (.bool br)))
    (first
      | exact s3_keep (by assumption) bA bB bC
      | (go_split_ands; exact s3_keep (by assumption) bA bB bC))
      (first
        | (go_at_call 29; go_split_ands; refine (lawCells_any _ _ _ _ _ _ _ _ 6000 (by omega) _).mono ?_; rintro e wa ⟨va, rfl, hrow, hB1⟩; have hXa := Below.trans (by assumption) (hB1.mono (Below.size (by assumption))); clear hB1; have rA := rowAt_owns hrow; clear hrow; rw [List.take_of_length_le (by have := HL.out; omega)] at rA; have RA := Lib.hid rA; clear rA)
        | (go_at_call 30; go_split_ands; refine (refCells_any _ _ _ _ _ _ _ _ _).mono ?_; rintro e wb ⟨vb, rfl, rB, hB1⟩; have hXb := Below.trans (by assumption) (hB1.mono (Below.size (by assumption))); have RA2 := Lib.hid (rowAt_keep RA.out hB1); clear hB1; have RB := Lib.hid rB; clear rB)
        | (go_at_call 28; go_split_ands; refine (same_any _ _ _ _ _ RA2.out RB.out (by have := HL.out; omega) (by have := HL.out; omega)).mono ?_; rintro e wc ⟨he, hB1⟩; simp only [decide_true] at he; subst he; have hXc := Below.trans (by assumption) (hB1.mono (Below.size (by assumption))); clear hB1))
    go_wp2_with fail
    refine bodyPost_ret (v := .bool true) (by simp [results, Tryd.results7, go_sem]; done) rfl ⟨rfl, ?_⟩
    exact HW.out.trans (hXc.mono HW.out.size)
  · go_wp2_with (go_at_call 25; refine (refArea_any _ _ _ _ _ _ _ _ _).mono ?_; rintro e w9 ⟨he, hB1⟩; rw [HV.out] at he; subst he; have hX9 := Below.trans hX8 (hB1.mono (Below.size hX8)); clear hB1)
    refine bodyPost_ret (v := .bool true) (by simp [results, Tryd.results7, go_sem]; done) rfl ⟨rfl, ?_⟩
    exact HW.out.trans (hX9.mono HW.out.size)
end Go.Proofs.YtacakmlkaikabaaDoor

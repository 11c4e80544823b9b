/- law CellTexts, walked. -/
import Derived.Test.YtacakmlkaikabaaDoorEb
import Derived.Test.YtacakmlkaikabaaDoorCn
import Derived.Deep.RegionHeld3
namespace Go.Proofs.YtacakmlkaikabaaDoor
set_option linter.unusedVariables false
open Go.RowKit

theorem parseV_parts (L : List UInt8) : ∃ x y p q f, parseV L = .tuple #[.agg #[.int .i64 x, .int .i64 y, .bool p, .bool q], .int .i64 f] := by
  unfold parseV badV goodV
  split
  · split
    · exact ⟨_, _, _, _, _, rfl⟩
    · exact ⟨_, _, _, _, _, rfl⟩
  · exact ⟨_, _, _, _, _, rfl⟩
theorem printV_parts (c r : Int) (ac ar : Bool) : ∃ P, printV c r ac ar = .string P := by
  unfold printV
  split
  · exact ⟨_, rfl⟩
  · exact ⟨_, rfl⟩
theorem refPrint_any (c r : Int) (ac ar : Bool) (w : World) :
    Calls Tryd.prog 15 #[.agg #[.int .i64 c, .int .i64 r, .bool ac, .bool ar]] w fun e w' => e = .returned (printV c r ac ar) ∧ Below w.heap.size w w' := by
  cases h : okB c r
  · simp only [printV, h, Bool.false_eq_true, if_false]; exact refPrint_no c r ac ar w h
  · simp only [printV, h, if_true]; exact refPrint_yes c r ac ar w h

theorem box_facts {W w' : World} {B : Nat} {c r : Int} {a b : Bool} (hX : Below W.heap.size W w') (h : W.heap[B]? = some (.cells #[.int .i64 c, .int .i64 r, .bool a, .bool b] 23)) :
    w'.cell? ⟨B, 0, none⟩ = some (.int .i64 c) ∧ w'.cell? ⟨B, 1, none⟩ = some (.int .i64 r) ∧ w'.cell? ⟨B, 2, none⟩ = some (.bool a) ∧ w'.cell? ⟨B, 3, none⟩ = some (.bool b) := by
  have h' := blk_keep hX h
  exact ⟨blk_cell h' 0, blk_cell h' 1, blk_cell h' 2, blk_cell h' 3⟩
theorem s_keep {W w' : World} {A M N : Nat} {c r x y : Int} {ac ar p q : Bool} (hX : Below W.heap.size W w') (hA : W.heap[A]? = some (.cells #[.int .i64 c, .int .i64 r, .bool ac, .bool ar] 23)) (hM : W.heap[M]? = some (.cells #[.int .i64 x, .int .i64 y, .bool p, .bool q] 23)) (hN : W.heap[N]? = some (.cells #[.int .i64 x, .int .i64 y, .bool p, .bool q] 23)) :
    Below W.heap.size W w' ∧ (w'.cell? ⟨A, 0, none⟩ = some (.int .i64 c) ∧ w'.cell? ⟨A, 1, none⟩ = some (.int .i64 r) ∧ w'.cell? ⟨A, 2, none⟩ = some (.bool ac) ∧ w'.cell? ⟨A, 3, none⟩ = some (.bool ar)) ∧
      (w'.cell? ⟨M, 0, none⟩ = some (.int .i64 x) ∧ w'.cell? ⟨M, 1, none⟩ = some (.int .i64 y) ∧ w'.cell? ⟨M, 2, none⟩ = some (.bool p) ∧ w'.cell? ⟨M, 3, none⟩ = some (.bool q)) ∧
      (w'.cell? ⟨N, 0, none⟩ = some (.int .i64 x) ∧ w'.cell? ⟨N, 1, none⟩ = some (.int .i64 y) ∧ w'.cell? ⟨N, 2, none⟩ = some (.bool p) ∧ w'.cell? ⟨N, 3, none⟩ = some (.bool q)) :=
  ⟨hX, box_facts hX hA, box_facts hX hM, box_facts hX hN⟩

set_option maxHeartbeats 4000000 in
set_option maxRecDepth 100000 in
theorem texts_short (s : ByteArray) (hs : s.size ≤ 1000) (c r : Int) (ac ar : Bool) (w : World) (ht : HT w) :
    Calls Tryd.prog 3 #[.string s, .agg #[.int .i64 c, .int .i64 r, .bool ac, .bool ar]] w fun e w' => e = .returned (.bool true) ∧ Below w.heap.size w w' := by
  obtain ⟨x, y, p, q, f, hv⟩ := parseV_parts s.data.toList
  obtain ⟨P, hP⟩ := printV_parts c r ac ar
  have HV := Lib.hid hv
  have HP := Lib.hid hP
  have HT0 := Lib.hid ht
  clear hv hP ht
  have bA := blk_new w (.cells #[.int .i64 c, .int .i64 r, .bool ac, .bool ar] 23)
  go_enter Tryd.func3, Tryd.ntmps3
  go_wp2_with (first
    | (go_at_call 9; refine (shown_any _ (HT0.out.stay ((Below.refl _ w).alloc (Nat.le_refl _) _))).mono ?_; rintro e w1 ⟨rfl, hB1⟩; have bA := blk_keep hB1 bA)
    | (go_at_call 10; refine (parse_any _ hs _).mono ?_; rintro e w2 ⟨he, hB2⟩; rw [HV.out] at he; subst he; have bA2 := blk_alloc (blk_keep hB2 bA) (.cells #[.int .i64 x, .int .i64 y, .bool p, .bool q] 23); have bM := blk_new w2 (.cells #[.int .i64 x, .int .i64 y, .bool p, .bool q] 23))
    | (go_at_call 11; refine (refParse_any _ hs _).mono ?_; rintro e w3 ⟨he, hB3⟩; rw [HV.out] at he; subst he; have bA3 := blk_alloc (blk_keep hB3 bA2) (.cells #[.int .i64 x, .int .i64 y, .bool p, .bool q] 23); have bM3 := blk_alloc (blk_keep hB3 bM) (.cells #[.int .i64 x, .int .i64 y, .bool p, .bool q] 23); have bN := blk_new w3 (.cells #[.int .i64 x, .int .i64 y, .bool p, .bool q] 23)))
  have hW : Below w.heap.size w (w3.alloc (.cells #[.int .i64 x, .int .i64 y, .bool p, .bool q] 23)) := by
    have s1 := hB1.size
    have s2 := hB2.size
    have s3 := hB3.size
    simp at s1 s3
    exact (((((Below.refl _ w).alloc (Nat.le_refl _) _).trans (hB1.mono (by simp))).trans (hB2.mono (by omega))).alloc (by omega) _).trans (hB3.mono (by simp; omega)) |>.alloc (by omega) _
  clear hB1 hB2 hB3 bA bA2 bM
  obtain ⟨A, hA⟩ : ∃ A, w.heap.size = A := ⟨_, rfl⟩
  obtain ⟨M, hM⟩ : ∃ M, w2.heap.size = M := ⟨_, rfl⟩
  obtain ⟨N, hN⟩ : ∃ N, w3.heap.size = N := ⟨_, rfl⟩
  rw [hA] at bA3
  rw [hM] at bM3
  rw [hN] at bN
  rw [hA, hM, hN]
  have HA := Lib.hid hA
  clear hA hM hN
  generalize (w3.alloc (.cells #[.int .i64 x, .int .i64 y, .bool p, .bool q] 23)) = W at bA3 bM3 bN hW ⊢
  have HT1 := Lib.hid (HT0.out.stay hW)
  have HW := Lib.hid hW
  clear hW
  have hD0 : Below W.heap.size W W.drew := (Below.refl _ _).drew
  go_region_held3 (fun w' => Below W.heap.size W w' ∧ (w'.cell? ⟨A, 0, none⟩ = some (.int .i64 c) ∧ w'.cell? ⟨A, 1, none⟩ = some (.int .i64 r) ∧ w'.cell? ⟨A, 2, none⟩ = some (.bool ac) ∧ w'.cell? ⟨A, 3, none⟩ = some (.bool ar)) ∧
      (w'.cell? ⟨M, 0, none⟩ = some (.int .i64 x) ∧ w'.cell? ⟨M, 1, none⟩ = some (.int .i64 y) ∧ w'.cell? ⟨M, 2, none⟩ = some (.bool p) ∧ w'.cell? ⟨M, 3, none⟩ = some (.bool q)) ∧
      (w'.cell? ⟨N, 0, none⟩ = some (.int .i64 x) ∧ w'.cell? ⟨N, 1, none⟩ = some (.int .i64 y) ∧ w'.cell? ⟨N, 2, none⟩ = some (.bool p) ∧ w'.cell? ⟨N, 3, none⟩ = some (.bool q)))
    (first
      | exact s_keep (by assumption) bA3 bM3 bN
      | exact s_keep (Below.alloc (by assumption) (Below.size (by assumption)) _) bA3 bM3 bN
      | (go_split_ands; first | exact s_keep (by assumption) bA3 bM3 bN | exact s_keep (Below.alloc (by assumption) (Below.size (by assumption)) _) bA3 bM3 bN))
    (first
      | (go_at_call 12; refine (right_any _ _ _ _ _).mono ?_; rintro e w' ⟨rfl, rfl⟩)
      | (go_at_call 13; refine (refRight_any _ _ _ _ _).mono ?_; rintro e w' ⟨rfl, rfl⟩)
      | (go_at_call 14; go_split_ands; refine (print_any _ _ _ _ _ (HT1.out.stay (by assumption))).mono ?_; rintro e w4 ⟨he, hB4⟩; rw [HP.out] at he; subst he; have hX4 := Below.trans (by assumption) (hB4.mono (Below.size (by assumption))))
      | (go_at_call 15; go_split_ands; refine (refPrint_any _ _ _ _ _).mono ?_; rintro e w5 ⟨he, hB5⟩; rw [HP.out] at he; subst he; have hX5 := Below.trans (by assumption) (hB5.mono (Below.size (by assumption)))))
  go_wp2_with fail
  refine bodyPost_ret (v := .bool true) (by simp [results, Tryd.results3, go_sem]; done) rfl ⟨rfl, ?_⟩
  exact HW.out.trans (hX5.mono HW.out.size)

set_option maxHeartbeats 1000000 in
theorem texts_long (s : ByteArray) (hs : (1000 : Int) < s.size) (hm : s.size ≤ 9223372036854775807) (c r : Int) (ac ar : Bool) (w : World) (ht : HT w) :
    Calls Tryd.prog 3 #[.string s, .agg #[.int .i64 c, .int .i64 r, .bool ac, .bool ar]] w fun e w' => e = .returned (.bool true) ∧ Below w.heap.size w w' := by
  have HT0 := Lib.hid ht
  clear ht
  go_enter Tryd.func3, Tryd.ntmps3
  go_wp2_with (go_at_call 9; refine (shown_any _ (HT0.out.stay ((Below.refl _ w).alloc (Nat.le_refl _) _))).mono ?_; rintro e w1 ⟨rfl, hB1⟩)
  refine bodyPost_ret (v := .bool true) (by simp [results, Tryd.results3, go_sem]; done) rfl ⟨rfl, ?_⟩
  exact ((Below.refl _ w).alloc (Nat.le_refl _) _).trans (hB1.mono (by simp))

theorem cellTexts_walk (s : ByteArray) (hm : s.size ≤ 9223372036854775807) (c r : Int) (ac ar : Bool) (w : World) (ht : HT w) :
    Calls Tryd.prog 3 #[.string s, .agg #[.int .i64 c, .int .i64 r, .bool ac, .bool ar]] w fun e w' => e = .returned (.bool true) ∧ Below w.heap.size w w' := by
  by_cases h : s.size ≤ 1000
  · exact texts_short s h c r ac ar w ht
  · exact texts_long s (by omega) hm c r ac ar w ht
end Go.Proofs.YtacakmlkaikabaaDoor

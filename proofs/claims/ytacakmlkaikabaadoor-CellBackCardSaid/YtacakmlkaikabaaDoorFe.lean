/- law CellBack, walked. -/
import Derived.Test.YtacakmlkaikabaaDoorEb
import Derived.Test.YtacakmlkaikabaaDoorPc
import Derived.Test.YtacakmlkaikabaaDoorHc
import Derived.Deep.RegionHeld3
import Derived.Deep.QuietTactic
import Derived.BigQuiet
import Derived.WalkSmall
namespace Go.Proofs.YtacakmlkaikabaaDoor
set_option linter.unusedVariables false
open Go.RowKit

theorem back_facts {W w' : World} {B : Nat} {c r : Int} {a b : Bool} (hX : Below W.heap.size W w') (h : W.heap[B]? = some (.cells #[.int .i64 c, .int .i64 r, .bool a, .bool b] 23)) :
    w'.cell? ⟨B, 0, none⟩ = some (.int .i64 c) ∧ w'.cell? ⟨B, 1, none⟩ = some (.int .i64 r) ∧ w'.cell? ⟨B, 2, none⟩ = some (.bool a) ∧ w'.cell? ⟨B, 3, none⟩ = some (.bool b) := by
  have h' := blk_keep hX h
  exact ⟨blk_cell h' 0, blk_cell h' 1, blk_cell h' 2, blk_cell h' 3⟩
theorem s2_keep {W w' : World} {A B : Nat} {x y c r : Int} {xc xr ac ar : Bool} (hX : Below W.heap.size W w') (hA : W.heap[A]? = some (.cells #[.int .i64 x, .int .i64 y, .bool xc, .bool xr] 23)) (hB : W.heap[B]? = some (.cells #[.int .i64 c, .int .i64 r, .bool ac, .bool ar] 23)) :
    Below W.heap.size W w' ∧ (w'.cell? ⟨A, 0, none⟩ = some (.int .i64 x) ∧ w'.cell? ⟨A, 1, none⟩ = some (.int .i64 y) ∧ w'.cell? ⟨A, 2, none⟩ = some (.bool xc) ∧ w'.cell? ⟨A, 3, none⟩ = some (.bool xr)) ∧
      (w'.cell? ⟨B, 0, none⟩ = some (.int .i64 c) ∧ w'.cell? ⟨B, 1, none⟩ = some (.int .i64 r) ∧ w'.cell? ⟨B, 2, none⟩ = some (.bool ac) ∧ w'.cell? ⟨B, 3, none⟩ = some (.bool ar)) :=
  ⟨hX, back_facts hX hA, back_facts hX hB⟩

theorem at_idx (c r : Int) (h : okB c r = true) : atC (idx c r) = c ∧ atR (idx c r) = r := by
  obtain ⟨h0, h1, h2, h3⟩ := okB_t h
  have e : idx c r = 64 * r + c := by simp [idx, h]
  rw [e, atC, atR, if_pos ⟨by omega, by omega⟩, if_pos ⟨by omega, by omega⟩]
  exact ⟨by omega, by omega⟩
theorem idx_at (i : Int) (h : okB (atC i) (atR i) = true) : idx (atC i) (atR i) = i := by
  have h' := okB_t h
  rw [idx, if_pos h]
  unfold atC atR at *
  split at h'
  · rename_i hi
    rw [if_pos hi, if_pos hi]; omega
  · omega
theorem printL_len (c r : Int) (ac ar : Bool) (h : okB c r = true) : (printL c r ac ar).length ≤ 1000 := by
  obtain ⟨h0, h1, h2, h3⟩ := okB_t h
  have k4 := (col_let c.toNat (by omega)).2.2.2
  have hlen := dec_len 4 (r + 1).toNat (by omega)
  unfold printL
  simp only [List.length_append]
  cases ac <;> cases ar <;> simp <;> omega

set_option maxHeartbeats 8000000 in
set_option maxRecDepth 100000 in
theorem back_yes (c r : Int) (ac ar : Bool) (s : ByteArray) (i : Int) (w : World) (ht : HT w) (hs : s.size ≤ 1000) (hok : okB c r = true)
    (ix : Int) (hix : idx c r = ix) (hac : atC ix = c) (har : atR ix = r)
    (P : ByteArray) (hP : printV c r ac ar = .string P) (hPs : P.size ≤ 1000) (hPV : parseV P.data.toList = .tuple #[.agg #[.int .i64 c, .int .i64 r, .bool ac, .bool ar], .int .i64 0])
    (x1 y1 : Int) (p1 q1 : Bool) (f1 : Int) (hPS : parseV s.data.toList = .tuple #[.agg #[.int .i64 x1, .int .i64 y1, .bool p1, .bool q1], .int .i64 f1])
    (Q : ByteArray) (hQ : (⟨(cap s.data.toList).toArray⟩ : ByteArray) = Q) (hf : f1 = 0 → printV x1 y1 p1 q1 = .string Q)
    (tc tr : Int) (htc : atC i = tc) (htr : atR i = tr) (inn : Bool) (hin : okB tc tr = inn) (hidx : inn = true → idx tc tr = i) :
    Calls Tryd.prog 5 #[.agg #[.int .i64 c, .int .i64 r, .bool ac, .bool ar], .string s, .int .i64 i] w fun e w' => e = .returned (.bool true) ∧ Below w.heap.size w w' := by
  have HOK := Lib.hid hok
  have HIX := Lib.hid hix
  have HAC := Lib.hid hac
  have HAR := Lib.hid har
  have HP := Lib.hid hP
  have HPV := Lib.hid hPV
  have HPS := Lib.hid hPS
  have HQ := Lib.hid hQ
  have HF := Lib.hid hf
  have HTC := Lib.hid htc
  have HTR := Lib.hid htr
  have HIN := Lib.hid hin
  have HIDX := Lib.hid hidx
  have HT0 := Lib.hid ht
  clear hok hix hac har hP hPV hPS hQ hf htc htr hin hidx ht
  have hW1 : Below w.heap.size w (w.alloc (.cells #[.int .i64 c, .int .i64 r, .bool ac, .bool ar] 23)) := (Below.refl _ w).alloc (Nat.le_refl _) _
  have bA := blk_new w (.cells #[.int .i64 c, .int .i64 r, .bool ac, .bool ar] 23)
  go_enter Tryd.func5, Tryd.ntmps5
  go_wp2_with (first
    | (go_at_call 9; refine (shown_any _ (HT0.out.stay hW1)).mono ?_; rintro e W1 ⟨rfl, hB1⟩; (have hW := hW1.trans (hB1.mono hW1.size)); have bA1 := blk_keep hB1 bA; clear hB1; (have c0 := blk_cell bA1 0); (have c1 := blk_cell bA1 1); (have c2 := blk_cell bA1 2); (have c3 := blk_cell bA1 3); simp at c0 c1 c2 c3; have l1 := blk_lt bA1)
    | (go_at_call 12; refine (right_any _ _ _ _ _).mono ?_; rintro e W2 ⟨he, hw2⟩; rw [HOK.out] at he; subst he; (have hWW := hW.alloc hW.size (.cells #[.int .i64 c, .int .i64 r, .bool ac, .bool ar] 23)); (have bA2 := blk_alloc bA1 (.cells #[.int .i64 c, .int .i64 r, .bool ac, .bool ar] 23)); rw [← hw2] at hWW bA2; clear hw2 c0 c1 c2 c3 l1; (have d0 := blk_cell bA2 0); (have d1 := blk_cell bA2 1); (have d2 := blk_cell bA2 2); (have d3 := blk_cell bA2 3); simp at d0 d1 d2 d3; have l2 := blk_lt bA2)
    | (go_at_call 14; refine (print_any _ _ _ _ _ (HT0.out.stay hWW)).mono ?_; rintro e W3 ⟨he, hB1⟩; rw [HP.out] at he; subst he; (have hW3 := hWW.trans (hB1.mono hWW.size)); have bA3 := blk_keep hB1 bA2; clear hB1)
    | (go_at_call 10; refine (parse_any _ hPs _).mono ?_; rintro e W4 ⟨he, hB1⟩; rw [HPV.out] at he; subst he; (have hW4 := (hW3.trans (hB1.mono hW3.size)).alloc (hW3.trans (hB1.mono hW3.size)).size (.cells #[.int .i64 c, .int .i64 r, .bool ac, .bool ar] 23)); (have bA4 := blk_alloc (blk_keep hB1 bA3) (.cells #[.int .i64 c, .int .i64 r, .bool ac, .bool ar] 23)); (have bB4 := blk_new W4 (.cells #[.int .i64 c, .int .i64 r, .bool ac, .bool ar] 23)); clear hB1))
  obtain ⟨A, hA⟩ : ∃ A, w.heap.size = A := ⟨_, rfl⟩
  obtain ⟨B, hB⟩ : ∃ B, W4.heap.size = B := ⟨_, rfl⟩
  rw [hA] at bA4
  rw [hB] at bB4
  rw [hA, hB]
  have hTW := HT0.out.stay hW4
  clear bA bA1 bA2 bA3 d0 d1 d2 d3 l2 hW3 hWW hW hW1 hA hB
  generalize (W4.alloc (.cells #[.int .i64 c, .int .i64 r, .bool ac, .bool ar] 23)) = W at bA4 bB4 hW4 hTW ⊢
  have HTW := Lib.hid hTW
  have HW := Lib.hid hW4
  clear hW4 hTW
  have hD0 : Below W.heap.size W W.drew := (Below.refl _ _).drew
  go_region_held3 (fun w' => Below W.heap.size W w' ∧ (w'.cell? ⟨A, 0, none⟩ = some (.int .i64 c) ∧ w'.cell? ⟨A, 1, none⟩ = some (.int .i64 r) ∧ w'.cell? ⟨A, 2, none⟩ = some (.bool ac) ∧ w'.cell? ⟨A, 3, none⟩ = some (.bool ar)) ∧
      (w'.cell? ⟨B, 0, none⟩ = some (.int .i64 c) ∧ w'.cell? ⟨B, 1, none⟩ = some (.int .i64 r) ∧ w'.cell? ⟨B, 2, none⟩ = some (.bool ac) ∧ w'.cell? ⟨B, 3, none⟩ = some (.bool ar)))
    (first
      | exact s2_keep (by assumption) bA4 bB4
      | (go_split_ands; exact s2_keep (by assumption) bA4 bB4))
    (first
      | (go_at_call 19; go_split_ands; refine (index_any _ _ _ _ _).mono ?_; rintro e w1 ⟨he, hB1⟩; rw [HIX.out] at he; subst he; have hX := Below.trans (by assumption) (hB1.mono (Below.size (by assumption))); clear hB1)
      | (go_at_call 18; go_split_ands; refine (at_any _ _).mono ?_; rintro e w3 ⟨he, hB1⟩; rw [HAC.out, HAR.out] at he; subst he; have hX := Below.trans (by assumption) (hB1.mono (Below.size (by assumption))); clear hB1)
      | (go_at_call 20; go_split_ands; refine (lawRef_any _ _ _).mono ?_; rintro e w4 ⟨he, hB1⟩; subst he; have hX := Below.trans (by assumption) (hB1.mono (Below.size (by assumption))); clear hB1))
  have hTX := HTW.out.stay hX
  have hXX := HW.out.trans (hX.mono HW.out.size)
  have HTX := Lib.hid hTX
  have HXX := Lib.hid hXX
  clear hTX hXX
  clear HIX HAC HAR HPV HP HOK HTW HW
  by_cases h0 : f1 = 0
  · have HF1 := Lib.hid (HF.out h0)
    clear HF
    subst h0
    cases inn with
    | true =>
      have HI1 := Lib.hid (HIDX.out rfl)
      clear HIDX
      go_wp2_with (first
        | (go_at_call 10; refine (parse_any _ hs _).mono ?_; rintro e V1 ⟨he, hB1⟩; rw [HPS.out] at he; subst he; (have hV1 := (HXX.out.trans (hB1.mono HXX.out.size)).alloc (HXX.out.trans (hB1.mono HXX.out.size)).size (.cells #[.int .i64 x1, .int .i64 y1, .bool p1, .bool q1] 23)); (have HV1 := Lib.hid hV1); clear hV1 hB1)
        | (go_at_call 14; refine (print_any _ _ _ _ _ (HT0.out.stay HV1.out)).mono ?_; rintro e V2 ⟨he, hB1⟩; rw [HF1.out] at he; subst he; (have HV2 := Lib.hid (HV1.out.trans (hB1.mono HV1.out.size))); clear hB1)
        | (go_at_call 21; refine (capital_any _ hs _).mono ?_; rintro e V3 ⟨he, hB1⟩; rw [HQ.out] at he; subst he; (have HV3 := Lib.hid (HV2.out.trans (hB1.mono HV2.out.size))); clear hB1)
        | (go_at_call 18; refine (at_any _ _).mono ?_; rintro e V4 ⟨he, hB1⟩; rw [HTC.out, HTR.out] at he; subst he; (have HV4 := Lib.hid ((HV3.out.trans (hB1.mono HV3.out.size)).alloc (HV3.out.trans (hB1.mono HV3.out.size)).size (.cells #[.int .i64 tc, .int .i64 tr, .bool false, .bool false] 23))); clear hB1)
        | (go_at_call 12; refine (right_any _ _ _ _ _).mono ?_; rintro e V5 ⟨he, hw5⟩; rw [HIN.out] at he; subst he; (have hV5 := HV4.out.alloc HV4.out.size (.cells #[.int .i64 tc, .int .i64 tr, .bool false, .bool false] 23)); (have bE5 := blk_alloc (blk_new V4 (.cells #[.int .i64 tc, .int .i64 tr, .bool false, .bool false] 23)) (.cells #[.int .i64 tc, .int .i64 tr, .bool false, .bool false] 23)); rw [← hw5] at hV5 bE5; (have e0 := blk_cell bE5 0); (have e1 := blk_cell bE5 1); (have e2 := blk_cell bE5 2); (have e3 := blk_cell bE5 3); simp at e0 e1 e2 e3; (have le := blk_lt bE5); (have HV5 := Lib.hid hV5); clear hV5 hw5)
        | (go_at_call 19; refine (index_any _ _ _ _ _).mono ?_; rintro e V6 ⟨he, hB1⟩; rw [HI1.out] at he; subst he; (have HV6 := Lib.hid (HV5.out.trans (hB1.mono HV5.out.size))); clear hB1))
      refine bodyPost_ret (v := .bool true) (by simp [results, Tryd.results5, go_sem]; done) rfl ⟨rfl, ?_⟩
      exact HV6.out
    | false =>
      go_wp2_with (first
        | (go_at_call 10; refine (parse_any _ hs _).mono ?_; rintro e V1 ⟨he, hB1⟩; rw [HPS.out] at he; subst he; (have hV1 := (HXX.out.trans (hB1.mono HXX.out.size)).alloc (HXX.out.trans (hB1.mono HXX.out.size)).size (.cells #[.int .i64 x1, .int .i64 y1, .bool p1, .bool q1] 23)); (have HV1 := Lib.hid hV1); clear hV1 hB1)
        | (go_at_call 14; refine (print_any _ _ _ _ _ (HT0.out.stay HV1.out)).mono ?_; rintro e V2 ⟨he, hB1⟩; rw [HF1.out] at he; subst he; (have HV2 := Lib.hid (HV1.out.trans (hB1.mono HV1.out.size))); clear hB1)
        | (go_at_call 21; refine (capital_any _ hs _).mono ?_; rintro e V3 ⟨he, hB1⟩; rw [HQ.out] at he; subst he; (have HV3 := Lib.hid (HV2.out.trans (hB1.mono HV2.out.size))); clear hB1)
        | (go_at_call 18; refine (at_any _ _).mono ?_; rintro e V4 ⟨he, hB1⟩; rw [HTC.out, HTR.out] at he; subst he; (have HV4 := Lib.hid ((HV3.out.trans (hB1.mono HV3.out.size)).alloc (HV3.out.trans (hB1.mono HV3.out.size)).size (.cells #[.int .i64 tc, .int .i64 tr, .bool false, .bool false] 23))); clear hB1)
        | (go_at_call 12; refine (right_any _ _ _ _ _).mono ?_; rintro e V5 ⟨he, hw5⟩; rw [HIN.out] at he; subst he; (have hV5 := HV4.out.alloc HV4.out.size (.cells #[.int .i64 tc, .int .i64 tr, .bool false, .bool false] 23)); (have bE5 := blk_alloc (blk_new V4 (.cells #[.int .i64 tc, .int .i64 tr, .bool false, .bool false] 23)) (.cells #[.int .i64 tc, .int .i64 tr, .bool false, .bool false] 23)); rw [← hw5] at hV5 bE5; (have e0 := blk_cell bE5 0); (have e1 := blk_cell bE5 1); (have e2 := blk_cell bE5 2); (have e3 := blk_cell bE5 3); simp at e0 e1 e2 e3; (have le := blk_lt bE5); (have HV5 := Lib.hid hV5); clear hV5 hw5))
      refine bodyPost_ret (v := .bool true) (by simp [results, Tryd.results5, go_sem]; done) rfl ⟨rfl, ?_⟩
      exact HV5.out
  · have hfb : (f1 == 0) = false := by rw [beq_eq_false_iff_ne]; exact h0
    clear h0
    clear HF
    cases inn with
    | true =>
      have HI1 := Lib.hid (HIDX.out rfl)
      clear HIDX
      go_wp2_with (first
        | (go_at_call 10; refine (parse_any _ hs _).mono ?_; rintro e V1 ⟨he, hB1⟩; rw [HPS.out] at he; subst he; (have hV1 := (HXX.out.trans (hB1.mono HXX.out.size)).alloc (HXX.out.trans (hB1.mono HXX.out.size)).size (.cells #[.int .i64 x1, .int .i64 y1, .bool p1, .bool q1] 23)); (have HV1 := Lib.hid hV1); clear hV1 hB1)
        | (go_at_call 18; refine (at_any _ _).mono ?_; rintro e V4 ⟨he, hB1⟩; rw [HTC.out, HTR.out] at he; subst he; (have HV4 := Lib.hid ((HV1.out.trans (hB1.mono HV1.out.size)).alloc (HV1.out.trans (hB1.mono HV1.out.size)).size (.cells #[.int .i64 tc, .int .i64 tr, .bool false, .bool false] 23))); clear hB1)
        | (go_at_call 12; refine (right_any _ _ _ _ _).mono ?_; rintro e V5 ⟨he, hw5⟩; rw [HIN.out] at he; subst he; (have hV5 := HV4.out.alloc HV4.out.size (.cells #[.int .i64 tc, .int .i64 tr, .bool false, .bool false] 23)); (have bE5 := blk_alloc (blk_new V4 (.cells #[.int .i64 tc, .int .i64 tr, .bool false, .bool false] 23)) (.cells #[.int .i64 tc, .int .i64 tr, .bool false, .bool false] 23)); rw [← hw5] at hV5 bE5; (have e0 := blk_cell bE5 0); (have e1 := blk_cell bE5 1); (have e2 := blk_cell bE5 2); (have e3 := blk_cell bE5 3); simp at e0 e1 e2 e3; (have le := blk_lt bE5); (have HV5 := Lib.hid hV5); clear hV5 hw5)
        | (go_at_call 19; refine (index_any _ _ _ _ _).mono ?_; rintro e V6 ⟨he, hB1⟩; rw [HI1.out] at he; subst he; (have HV6 := Lib.hid (HV5.out.trans (hB1.mono HV5.out.size))); clear hB1))
      refine bodyPost_ret (v := .bool true) (by simp [results, Tryd.results5, go_sem]; done) rfl ⟨rfl, ?_⟩
      exact HV6.out
    | false =>
      go_wp2_with (first
        | (go_at_call 10; refine (parse_any _ hs _).mono ?_; rintro e V1 ⟨he, hB1⟩; rw [HPS.out] at he; subst he; (have hV1 := (HXX.out.trans (hB1.mono HXX.out.size)).alloc (HXX.out.trans (hB1.mono HXX.out.size)).size (.cells #[.int .i64 x1, .int .i64 y1, .bool p1, .bool q1] 23)); (have HV1 := Lib.hid hV1); clear hV1 hB1)
        | (go_at_call 18; refine (at_any _ _).mono ?_; rintro e V4 ⟨he, hB1⟩; rw [HTC.out, HTR.out] at he; subst he; (have HV4 := Lib.hid ((HV1.out.trans (hB1.mono HV1.out.size)).alloc (HV1.out.trans (hB1.mono HV1.out.size)).size (.cells #[.int .i64 tc, .int .i64 tr, .bool false, .bool false] 23))); clear hB1)
        | (go_at_call 12; refine (right_any _ _ _ _ _).mono ?_; rintro e V5 ⟨he, hw5⟩; rw [HIN.out] at he; subst he; (have hV5 := HV4.out.alloc HV4.out.size (.cells #[.int .i64 tc, .int .i64 tr, .bool false, .bool false] 23)); (have bE5 := blk_alloc (blk_new V4 (.cells #[.int .i64 tc, .int .i64 tr, .bool false, .bool false] 23)) (.cells #[.int .i64 tc, .int .i64 tr, .bool false, .bool false] 23)); rw [← hw5] at hV5 bE5; (have e0 := blk_cell bE5 0); (have e1 := blk_cell bE5 1); (have e2 := blk_cell bE5 2); (have e3 := blk_cell bE5 3); simp at e0 e1 e2 e3; (have le := blk_lt bE5); (have HV5 := Lib.hid hV5); clear hV5 hw5))
      refine bodyPost_ret (v := .bool true) (by simp [results, Tryd.results5, go_sem]; done) rfl ⟨rfl, ?_⟩
      exact HV5.out

set_option maxHeartbeats 8000000 in
set_option maxRecDepth 100000 in
theorem back_no (c r : Int) (ac ar : Bool) (s : ByteArray) (i : Int) (w : World) (ht : HT w) (hs : s.size ≤ 1000) (hok : okB c r = false)
    (ix : Int) (hix : idx c r = ix) (hac : True) (har : True)
    (P : ByteArray) (hP : printV c r ac ar = .string P) (hPs : P.size ≤ 1000) (hPV : parseV P.data.toList = .tuple #[.agg #[.int .i64 0, .int .i64 0, .bool false, .bool false], .int .i64 3])
    (x1 y1 : Int) (p1 q1 : Bool) (f1 : Int) (hPS : parseV s.data.toList = .tuple #[.agg #[.int .i64 x1, .int .i64 y1, .bool p1, .bool q1], .int .i64 f1])
    (Q : ByteArray) (hQ : (⟨(cap s.data.toList).toArray⟩ : ByteArray) = Q) (hf : f1 = 0 → printV x1 y1 p1 q1 = .string Q)
    (tc tr : Int) (htc : atC i = tc) (htr : atR i = tr) (inn : Bool) (hin : okB tc tr = inn) (hidx : inn = true → idx tc tr = i) :
    Calls Tryd.prog 5 #[.agg #[.int .i64 c, .int .i64 r, .bool ac, .bool ar], .string s, .int .i64 i] w fun e w' => e = .returned (.bool true) ∧ Below w.heap.size w w' := by
  have HOK := Lib.hid hok
  have HIX := Lib.hid hix
  have HAC := Lib.hid hac
  have HAR := Lib.hid har
  have HP := Lib.hid hP
  have HPV := Lib.hid hPV
  have HPS := Lib.hid hPS
  have HQ := Lib.hid hQ
  have HF := Lib.hid hf
  have HTC := Lib.hid htc
  have HTR := Lib.hid htr
  have HIN := Lib.hid hin
  have HIDX := Lib.hid hidx
  have HT0 := Lib.hid ht
  clear hok hix hac har hP hPV hPS hQ hf htc htr hin hidx ht
  have hW1 : Below w.heap.size w (w.alloc (.cells #[.int .i64 c, .int .i64 r, .bool ac, .bool ar] 23)) := (Below.refl _ w).alloc (Nat.le_refl _) _
  have bA := blk_new w (.cells #[.int .i64 c, .int .i64 r, .bool ac, .bool ar] 23)
  go_enter Tryd.func5, Tryd.ntmps5
  go_wp2_with (first
    | (go_at_call 9; refine (shown_any _ (HT0.out.stay hW1)).mono ?_; rintro e W1 ⟨rfl, hB1⟩; (have hW := hW1.trans (hB1.mono hW1.size)); have bA1 := blk_keep hB1 bA; clear hB1; (have c0 := blk_cell bA1 0); (have c1 := blk_cell bA1 1); (have c2 := blk_cell bA1 2); (have c3 := blk_cell bA1 3); simp at c0 c1 c2 c3; have l1 := blk_lt bA1)
    | (go_at_call 12; refine (right_any _ _ _ _ _).mono ?_; rintro e W2 ⟨he, hw2⟩; rw [HOK.out] at he; subst he; (have hWW := hW.alloc hW.size (.cells #[.int .i64 c, .int .i64 r, .bool ac, .bool ar] 23)); (have bA2 := blk_alloc bA1 (.cells #[.int .i64 c, .int .i64 r, .bool ac, .bool ar] 23)); rw [← hw2] at hWW bA2; clear hw2 c0 c1 c2 c3 l1; (have d0 := blk_cell bA2 0); (have d1 := blk_cell bA2 1); (have d2 := blk_cell bA2 2); (have d3 := blk_cell bA2 3); simp at d0 d1 d2 d3; have l2 := blk_lt bA2)
    | (go_at_call 14; refine (print_any _ _ _ _ _ (HT0.out.stay hWW)).mono ?_; rintro e W3 ⟨he, hB1⟩; rw [HP.out] at he; subst he; (have hW3 := hWW.trans (hB1.mono hWW.size)); have bA3 := blk_keep hB1 bA2; clear hB1)
    | (go_at_call 10; refine (parse_any _ hPs _).mono ?_; rintro e W4 ⟨he, hB1⟩; rw [HPV.out] at he; subst he; (have hW4 := (hW3.trans (hB1.mono hW3.size)).alloc (hW3.trans (hB1.mono hW3.size)).size (.cells #[.int .i64 0, .int .i64 0, .bool false, .bool false] 23)); (have bA4 := blk_alloc (blk_keep hB1 bA3) (.cells #[.int .i64 0, .int .i64 0, .bool false, .bool false] 23)); (have bB4 := blk_new W4 (.cells #[.int .i64 0, .int .i64 0, .bool false, .bool false] 23)); clear hB1))
  obtain ⟨A, hA⟩ : ∃ A, w.heap.size = A := ⟨_, rfl⟩
  obtain ⟨B, hB⟩ : ∃ B, W4.heap.size = B := ⟨_, rfl⟩
  rw [hA] at bA4
  rw [hB] at bB4
  rw [hA, hB]
  have hTW := HT0.out.stay hW4
  clear bA bA1 bA2 bA3 d0 d1 d2 d3 l2 hW3 hWW hW hW1 hA hB
  generalize (W4.alloc (.cells #[.int .i64 0, .int .i64 0, .bool false, .bool false] 23)) = W at bA4 bB4 hW4 hTW ⊢
  have HTW := Lib.hid hTW
  have HW := Lib.hid hW4
  clear hW4 hTW
  have hD0 : Below W.heap.size W W.drew := (Below.refl _ _).drew
  go_quiet (fail)
  have hX : Below W.heap.size W (W.drewN nq) := ⟨rfl, rfl, rfl, Nat.le_refl _, fun _ _ => rfl⟩
  have hTX := HTW.out.stay hX
  have hXX := HW.out.trans (hX.mono HW.out.size)
  have HTX := Lib.hid hTX
  have HXX := Lib.hid hXX
  clear hTX hXX
  clear HIX HAC HAR HPV HP HOK HTW HW
  by_cases h0 : f1 = 0
  · have HF1 := Lib.hid (HF.out h0)
    clear HF
    subst h0
    cases inn with
    | true =>
      have HI1 := Lib.hid (HIDX.out rfl)
      clear HIDX
      go_wp2_with (first
        | (go_at_call 10; refine (parse_any _ hs _).mono ?_; rintro e V1 ⟨he, hB1⟩; rw [HPS.out] at he; subst he; (have hV1 := (HXX.out.trans (hB1.mono HXX.out.size)).alloc (HXX.out.trans (hB1.mono HXX.out.size)).size (.cells #[.int .i64 x1, .int .i64 y1, .bool p1, .bool q1] 23)); (have HV1 := Lib.hid hV1); clear hV1 hB1)
        | (go_at_call 14; refine (print_any _ _ _ _ _ (HT0.out.stay HV1.out)).mono ?_; rintro e V2 ⟨he, hB1⟩; rw [HF1.out] at he; subst he; (have HV2 := Lib.hid (HV1.out.trans (hB1.mono HV1.out.size))); clear hB1)
        | (go_at_call 21; refine (capital_any _ hs _).mono ?_; rintro e V3 ⟨he, hB1⟩; rw [HQ.out] at he; subst he; (have HV3 := Lib.hid (HV2.out.trans (hB1.mono HV2.out.size))); clear hB1)
        | (go_at_call 18; refine (at_any _ _).mono ?_; rintro e V4 ⟨he, hB1⟩; rw [HTC.out, HTR.out] at he; subst he; (have HV4 := Lib.hid ((HV3.out.trans (hB1.mono HV3.out.size)).alloc (HV3.out.trans (hB1.mono HV3.out.size)).size (.cells #[.int .i64 tc, .int .i64 tr, .bool false, .bool false] 23))); clear hB1)
        | (go_at_call 12; refine (right_any _ _ _ _ _).mono ?_; rintro e V5 ⟨he, hw5⟩; rw [HIN.out] at he; subst he; (have hV5 := HV4.out.alloc HV4.out.size (.cells #[.int .i64 tc, .int .i64 tr, .bool false, .bool false] 23)); (have bE5 := blk_alloc (blk_new V4 (.cells #[.int .i64 tc, .int .i64 tr, .bool false, .bool false] 23)) (.cells #[.int .i64 tc, .int .i64 tr, .bool false, .bool false] 23)); rw [← hw5] at hV5 bE5; (have e0 := blk_cell bE5 0); (have e1 := blk_cell bE5 1); (have e2 := blk_cell bE5 2); (have e3 := blk_cell bE5 3); simp at e0 e1 e2 e3; (have le := blk_lt bE5); (have HV5 := Lib.hid hV5); clear hV5 hw5)
        | (go_at_call 19; refine (index_any _ _ _ _ _).mono ?_; rintro e V6 ⟨he, hB1⟩; rw [HI1.out] at he; subst he; (have HV6 := Lib.hid (HV5.out.trans (hB1.mono HV5.out.size))); clear hB1))
      refine bodyPost_ret (v := .bool true) (by simp [results, Tryd.results5, go_sem]; done) rfl ⟨rfl, ?_⟩
      exact HV6.out
    | false =>
      go_wp2_with (first
        | (go_at_call 10; refine (parse_any _ hs _).mono ?_; rintro e V1 ⟨he, hB1⟩; rw [HPS.out] at he; subst he; (have hV1 := (HXX.out.trans (hB1.mono HXX.out.size)).alloc (HXX.out.trans (hB1.mono HXX.out.size)).size (.cells #[.int .i64 x1, .int .i64 y1, .bool p1, .bool q1] 23)); (have HV1 := Lib.hid hV1); clear hV1 hB1)
        | (go_at_call 14; refine (print_any _ _ _ _ _ (HT0.out.stay HV1.out)).mono ?_; rintro e V2 ⟨he, hB1⟩; rw [HF1.out] at he; subst he; (have HV2 := Lib.hid (HV1.out.trans (hB1.mono HV1.out.size))); clear hB1)
        | (go_at_call 21; refine (capital_any _ hs _).mono ?_; rintro e V3 ⟨he, hB1⟩; rw [HQ.out] at he; subst he; (have HV3 := Lib.hid (HV2.out.trans (hB1.mono HV2.out.size))); clear hB1)
        | (go_at_call 18; refine (at_any _ _).mono ?_; rintro e V4 ⟨he, hB1⟩; rw [HTC.out, HTR.out] at he; subst he; (have HV4 := Lib.hid ((HV3.out.trans (hB1.mono HV3.out.size)).alloc (HV3.out.trans (hB1.mono HV3.out.size)).size (.cells #[.int .i64 tc, .int .i64 tr, .bool false, .bool false] 23))); clear hB1)
        | (go_at_call 12; refine (right_any _ _ _ _ _).mono ?_; rintro e V5 ⟨he, hw5⟩; rw [HIN.out] at he; subst he; (have hV5 := HV4.out.alloc HV4.out.size (.cells #[.int .i64 tc, .int .i64 tr, .bool false, .bool false] 23)); (have bE5 := blk_alloc (blk_new V4 (.cells #[.int .i64 tc, .int .i64 tr, .bool false, .bool false] 23)) (.cells #[.int .i64 tc, .int .i64 tr, .bool false, .bool false] 23)); rw [← hw5] at hV5 bE5; (have e0 := blk_cell bE5 0); (have e1 := blk_cell bE5 1); (have e2 := blk_cell bE5 2); (have e3 := blk_cell bE5 3); simp at e0 e1 e2 e3; (have le := blk_lt bE5); (have HV5 := Lib.hid hV5); clear hV5 hw5))
      refine bodyPost_ret (v := .bool true) (by simp [results, Tryd.results5, go_sem]; done) rfl ⟨rfl, ?_⟩
      exact HV5.out
  · have hfb : (f1 == 0) = false := by rw [beq_eq_false_iff_ne]; exact h0
    clear h0
    clear HF
    cases inn with
    | true =>
      have HI1 := Lib.hid (HIDX.out rfl)
      clear HIDX
      go_wp2_with (first
        | (go_at_call 10; refine (parse_any _ hs _).mono ?_; rintro e V1 ⟨he, hB1⟩; rw [HPS.out] at he; subst he; (have hV1 := (HXX.out.trans (hB1.mono HXX.out.size)).alloc (HXX.out.trans (hB1.mono HXX.out.size)).size (.cells #[.int .i64 x1, .int .i64 y1, .bool p1, .bool q1] 23)); (have HV1 := Lib.hid hV1); clear hV1 hB1)
        | (go_at_call 18; refine (at_any _ _).mono ?_; rintro e V4 ⟨he, hB1⟩; rw [HTC.out, HTR.out] at he; subst he; (have HV4 := Lib.hid ((HV1.out.trans (hB1.mono HV1.out.size)).alloc (HV1.out.trans (hB1.mono HV1.out.size)).size (.cells #[.int .i64 tc, .int .i64 tr, .bool false, .bool false] 23))); clear hB1)
        | (go_at_call 12; refine (right_any _ _ _ _ _).mono ?_; rintro e V5 ⟨he, hw5⟩; rw [HIN.out] at he; subst he; (have hV5 := HV4.out.alloc HV4.out.size (.cells #[.int .i64 tc, .int .i64 tr, .bool false, .bool false] 23)); (have bE5 := blk_alloc (blk_new V4 (.cells #[.int .i64 tc, .int .i64 tr, .bool false, .bool false] 23)) (.cells #[.int .i64 tc, .int .i64 tr, .bool false, .bool false] 23)); rw [← hw5] at hV5 bE5; (have e0 := blk_cell bE5 0); (have e1 := blk_cell bE5 1); (have e2 := blk_cell bE5 2); (have e3 := blk_cell bE5 3); simp at e0 e1 e2 e3; (have le := blk_lt bE5); (have HV5 := Lib.hid hV5); clear hV5 hw5)
        | (go_at_call 19; refine (index_any _ _ _ _ _).mono ?_; rintro e V6 ⟨he, hB1⟩; rw [HI1.out] at he; subst he; (have HV6 := Lib.hid (HV5.out.trans (hB1.mono HV5.out.size))); clear hB1))
      refine bodyPost_ret (v := .bool true) (by simp [results, Tryd.results5, go_sem]; done) rfl ⟨rfl, ?_⟩
      exact HV6.out
    | false =>
      go_wp2_with (first
        | (go_at_call 10; refine (parse_any _ hs _).mono ?_; rintro e V1 ⟨he, hB1⟩; rw [HPS.out] at he; subst he; (have hV1 := (HXX.out.trans (hB1.mono HXX.out.size)).alloc (HXX.out.trans (hB1.mono HXX.out.size)).size (.cells #[.int .i64 x1, .int .i64 y1, .bool p1, .bool q1] 23)); (have HV1 := Lib.hid hV1); clear hV1 hB1)
        | (go_at_call 18; refine (at_any _ _).mono ?_; rintro e V4 ⟨he, hB1⟩; rw [HTC.out, HTR.out] at he; subst he; (have HV4 := Lib.hid ((HV1.out.trans (hB1.mono HV1.out.size)).alloc (HV1.out.trans (hB1.mono HV1.out.size)).size (.cells #[.int .i64 tc, .int .i64 tr, .bool false, .bool false] 23))); clear hB1)
        | (go_at_call 12; refine (right_any _ _ _ _ _).mono ?_; rintro e V5 ⟨he, hw5⟩; rw [HIN.out] at he; subst he; (have hV5 := HV4.out.alloc HV4.out.size (.cells #[.int .i64 tc, .int .i64 tr, .bool false, .bool false] 23)); (have bE5 := blk_alloc (blk_new V4 (.cells #[.int .i64 tc, .int .i64 tr, .bool false, .bool false] 23)) (.cells #[.int .i64 tc, .int .i64 tr, .bool false, .bool false] 23)); rw [← hw5] at hV5 bE5; (have e0 := blk_cell bE5 0); (have e1 := blk_cell bE5 1); (have e2 := blk_cell bE5 2); (have e3 := blk_cell bE5 3); simp at e0 e1 e2 e3; (have le := blk_lt bE5); (have HV5 := Lib.hid hV5); clear hV5 hw5))
      refine bodyPost_ret (v := .bool true) (by simp [results, Tryd.results5, go_sem]; done) rfl ⟨rfl, ?_⟩
      exact HV5.out

set_option maxHeartbeats 1000000 in
theorem back_long (s : ByteArray) (hs : (1000 : Int) < s.size) (hm : s.size ≤ 9223372036854775807) (c r : Int) (ac ar : Bool) (i : Int) (w : World) (ht : HT w) :
    Calls Tryd.prog 5 #[.agg #[.int .i64 c, .int .i64 r, .bool ac, .bool ar], .string s, .int .i64 i] w fun e w' => e = .returned (.bool true) ∧ Below w.heap.size w w' := by
  have HT0 := Lib.hid ht
  clear ht
  go_enter Tryd.func5, Tryd.ntmps5
  go_wp2_with (go_at_call 9; refine (shown_any _ (HT0.out.stay ((Below.refl _ w).alloc (Nat.le_refl _) _))).mono ?_; rintro e w1 ⟨rfl, hB1⟩)
  refine bodyPost_ret (v := .bool true) (by simp [results, Tryd.results5, go_sem]; done) rfl ⟨rfl, ?_⟩
  exact ((Below.refl _ w).alloc (Nat.le_refl _) _).trans (hB1.mono (by simp))

theorem parseV_nil : parseV ([] : List UInt8) = .tuple #[.agg #[.int .i64 0, .int .i64 0, .bool false, .bool false], .int .i64 3] := by kernel_rfl
theorem parseV_split (L : List UInt8) : ∃ x y p q f, parseV L = .tuple #[.agg #[.int .i64 x, .int .i64 y, .bool p, .bool q], .int .i64 f] := by
  unfold parseV badV goodV
  split
  · split
    · exact ⟨_, _, _, _, _, rfl⟩
    · exact ⟨_, _, _, _, _, rfl⟩
  · exact ⟨_, _, _, _, _, rfl⟩

theorem cellBack_walk (c r : Int) (ac ar : Bool) (s : ByteArray) (hm : s.size ≤ 9223372036854775807) (i : Int) (w : World) (ht : HT w) :
    Calls Tryd.prog 5 #[.agg #[.int .i64 c, .int .i64 r, .bool ac, .bool ar], .string s, .int .i64 i] w fun e w' => e = .returned (.bool true) ∧ Below w.heap.size w w' := by
  by_cases hs : s.size ≤ 1000
  · obtain ⟨x1, y1, p1, q1, f1, hPS⟩ := parseV_split s.data.toList
    have hf : f1 = 0 → printV x1 y1 p1 q1 = .string ⟨(cap s.data.toList).toArray⟩ := fun h0 => by
      obtain ⟨k1, k2⟩ := print_parse s.data.toList x1 y1 p1 q1 f1 hPS h0
      rw [← k2]; simp [printV, k1]
    cases hok : okB c r with
    | true =>
      have e := at_idx c r hok
      exact back_yes c r ac ar s i w ht hs hok _ rfl e.1 e.2 ⟨(printL c r ac ar).toArray⟩ (by simp [printV, hok]) (by have := printL_len c r ac ar hok; show (printL c r ac ar).toArray.size ≤ 1000; simpa using this) (parse_print c r ac ar hok) x1 y1 p1 q1 f1 hPS _ rfl hf _ _ rfl rfl _ rfl (fun h => idx_at i h)
    | false =>
      exact back_no c r ac ar s i w ht hs hok _ rfl trivial trivial ⟨#[]⟩ (by simp [printV, hok]) (by decide) parseV_nil x1 y1 p1 q1 f1 hPS _ rfl hf _ _ rfl rfl _ rfl (fun h => idx_at i h)
  · exact back_long s (by omega) hm c r ac ar i w ht
end Go.Proofs.YtacakmlkaikabaaDoor

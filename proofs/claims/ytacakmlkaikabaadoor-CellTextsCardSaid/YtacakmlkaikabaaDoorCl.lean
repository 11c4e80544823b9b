import Derived.Test.YtacakmlkaikabaaDoorCk
namespace Go.Proofs.YtacakmlkaikabaaDoor
set_option linter.unusedVariables false
open Go.RowKit
attribute [local go_sem] max2_int min2_int max_two min_two

def gI (C r : Int) (a1 a2 : Bool) : Value := if okB (C - 1) (r - 1) = true then .tuple #[.agg #[.int .i64 (C - 1), .int .i64 (r - 1), .bool a1, .bool a2], .int .i64 0] else .tuple #[.agg #[.int .i64 0, .int .i64 0, .bool false, .bool false], .int .i64 14]

set_option maxHeartbeats 4000000 in
set_option maxRecDepth 100000 in
theorem rpName0 (s : ByteArray) (w : World) (hs : s.size ≤ 1000) (h0 : (0 : Int) < s.size) (hd : (((s[0]'(by omega)).toNat : Int) == 36) = false) (N : List UInt8) (m : Nat)
    (m0 : 0 ≤ m) (m1 : m ≤ s.size) (hm : m = 0 + N.length) (hN : ∀ (j : Nat) (hj : j < s.size) (hk : j - 0 < N.length), 0 ≤ j → s[j]'hj = N[j - 0]) (hL : ∀ x ∈ N, isL x = true) (hend : ∀ h : m < s.size, isL (s[m]'h) = false) (hbad : N = [] ∨ 3 < N.length) :
    Calls Tryd.prog 11 #[.string s] w fun e w' => e = .returned (badV) ∧ Below w.heap.size w w' := by
  have HN := Lib.hid hN
  have HL := Lib.hid hL
  have HE := Lib.hid hend
  have HM := Lib.hid hm
  clear hN hL hend hm
  go_enter Tryd.func11, Tryd.ntmps11
  go_wp2_with fail
  go_loop [5, 6] (fun i c => ∃ (j : Nat) (C : Int), 0 ≤ j ∧ j ≤ m ∧ i = .int .i64 j ∧ c = .int .i64 C ∧ C = colM (N.take (j - 0))) (fun i _ => s.size - (intOf i).toNat)
  case atStart => exact ⟨0, 0, by omega, by omega, rfl, rfl, by simp [colM]⟩
  case round =>
    obtain ⟨j, C, j0, j1, rfl, rfl, hc⟩ := hrel
    have cb := colM_bd (N.take (j - 0)) (fun x hx => HL.out x (List.mem_of_mem_take hx))
    rw [← hc] at cb
    obtain ⟨cb0, cb1⟩ := cb
    have HC := Lib.hid hc
    clear hc
    by_cases hlt : j < m
    · have hz : j < s.size := by omega
      have i1 : (j : Int) < (s.size : Int) := by omega
      obtain ⟨x, hx⟩ : ∃ x, s[j]'hz = x := ⟨_, rfl⟩
      have hk : j - 0 < N.length := by have := HM.out; omega
      have hxN : N[j - 0] = x := by rw [← hx, ← HN.out j hz hk j0]
      have hxl : isL x = true := by rw [← hxN]; exact HL.out _ (List.getElem_mem hk)
      obtain ⟨lb0, lb1⟩ := lv_bd hxl
      have le := letN_t hxl
      have HX := Lib.hid hxN
      clear hxN
      go_wp2_with (go_at_call 36; refine (refletter_any _ _).mono ?_; rintro e w' ⟨rfl, rfl⟩)
      go_round
      case rel => exact ⟨j + 1, mn (26 * C + lv x) 1000000, by omega, by omega, by go_num, by go_num, by rw [show j + 1 - 0 = (j - 0) + 1 by omega, List.take_succ_eq_append_getElem hk, HX.out, colM_snoc, HC.out]⟩
      case measure => simp [intOf]; omega
    · obtain rfl : j = m := by omega
      have HC2 : Hid (C = colM N) := by
        have h1 := HC.out
        rw [List.take_of_length_le (by have := HM.out; omega)] at h1
        exact h1
      clear HC
      by_cases hz : j < s.size
      · have i1 : (j : Int) < (s.size : Int) := by omega
        have le := letN_f (HE.out hz)
        rcases hbad with hb | hb
        · obtain rfl : j = 0 := by have := HM.out; rw [hb] at this; simpa using this
          go_wp2_with (first | (go_at_call 36; refine (refletter_any _ _).mono ?_; rintro e w' ⟨rfl, rfl⟩) | (go_at_call 13; refine (refRight_any _ _ _ _ _).mono ?_; rintro e w' ⟨rfl, rfl⟩))
          refine bodyPost_ret (v := badV) (by simp [badV, results, Tryd.results11, go_sem]; done) rfl ⟨rfl, ?_⟩
          exact ((Below.refl _ w).alloc (Nat.le_refl _) _).alloc (by simp) _
        · have hj : 0 + 3 < j := by have := HM.out; omega
          have b1 : ((j : Int) == 0) = false := by rw [beq_eq_false_iff_ne]; omega
          go_wp2_with (first | (go_at_call 36; refine (refletter_any _ _).mono ?_; rintro e w' ⟨rfl, rfl⟩) | (go_at_call 13; refine (refRight_any _ _ _ _ _).mono ?_; rintro e w' ⟨rfl, rfl⟩))
          refine bodyPost_ret (v := badV) (by simp [badV, results, Tryd.results11, go_sem]; done) rfl ⟨rfl, ?_⟩
          exact ((Below.refl _ w).alloc (Nat.le_refl _) _).alloc (by simp) _
      · obtain rfl : j = s.size := by omega
        rcases hbad with hb | hb
        · have : s.size = 0 := by have := HM.out; rw [hb] at this; simpa using this
          exfalso; omega
        · have hj : 0 + 3 < s.size := by have := HM.out; omega
          have b1 : ((s.size : Int) == 0) = false := by rw [beq_eq_false_iff_ne]; omega
          go_wp2_with (first | (go_at_call 36; refine (refletter_any _ _).mono ?_; rintro e w' ⟨rfl, rfl⟩) | (go_at_call 13; refine (refRight_any _ _ _ _ _).mono ?_; rintro e w' ⟨rfl, rfl⟩))
          refine bodyPost_ret (v := badV) (by simp [badV, results, Tryd.results11, go_sem]; done) rfl ⟨rfl, ?_⟩
          exact ((Below.refl _ w).alloc (Nat.le_refl _) _).alloc (by simp) _

set_option maxHeartbeats 4000000 in
set_option maxRecDepth 100000 in
theorem rpNone0 (s : ByteArray) (w : World) (hs : s.size ≤ 1000) (h0 : (0 : Int) < s.size) (hd : (((s[0]'(by omega)).toNat : Int) == 36) = false) (N : List UInt8) (m : Nat)
    (m0 : 0 ≤ m) (m1 : m ≤ s.size) (hm : m = 0 + N.length) (hN : ∀ (j : Nat) (hj : j < s.size) (hk : j - 0 < N.length), 0 ≤ j → s[j]'hj = N[j - 0]) (hL : ∀ x ∈ N, isL x = true) (hend : ∀ h : m < s.size, isL (s[m]'h) = false) (n0 : 0 < N.length) (n3 : N.length ≤ 3) (hz : m = s.size) :
    Calls Tryd.prog 11 #[.string s] w fun e w' => e = .returned (badV) ∧ Below w.heap.size w w' := by
  have HN := Lib.hid hN
  have HL := Lib.hid hL
  have HE := Lib.hid hend
  have HM := Lib.hid hm
  clear hN hL hend hm
  go_enter Tryd.func11, Tryd.ntmps11
  go_wp2_with fail
  go_loop [5, 6] (fun i c => ∃ (j : Nat) (C : Int), 0 ≤ j ∧ j ≤ m ∧ i = .int .i64 j ∧ c = .int .i64 C ∧ C = colM (N.take (j - 0))) (fun i _ => s.size - (intOf i).toNat)
  case atStart => exact ⟨0, 0, by omega, by omega, rfl, rfl, by simp [colM]⟩
  case round =>
    obtain ⟨j, C, j0, j1, rfl, rfl, hc⟩ := hrel
    have cb := colM_bd (N.take (j - 0)) (fun x hx => HL.out x (List.mem_of_mem_take hx))
    rw [← hc] at cb
    obtain ⟨cb0, cb1⟩ := cb
    have HC := Lib.hid hc
    clear hc
    by_cases hlt : j < m
    · have hz : j < s.size := by omega
      have i1 : (j : Int) < (s.size : Int) := by omega
      obtain ⟨x, hx⟩ : ∃ x, s[j]'hz = x := ⟨_, rfl⟩
      have hk : j - 0 < N.length := by have := HM.out; omega
      have hxN : N[j - 0] = x := by rw [← hx, ← HN.out j hz hk j0]
      have hxl : isL x = true := by rw [← hxN]; exact HL.out _ (List.getElem_mem hk)
      obtain ⟨lb0, lb1⟩ := lv_bd hxl
      have le := letN_t hxl
      have HX := Lib.hid hxN
      clear hxN
      go_wp2_with (go_at_call 36; refine (refletter_any _ _).mono ?_; rintro e w' ⟨rfl, rfl⟩)
      go_round
      case rel => exact ⟨j + 1, mn (26 * C + lv x) 1000000, by omega, by omega, by go_num, by go_num, by rw [show j + 1 - 0 = (j - 0) + 1 by omega, List.take_succ_eq_append_getElem hk, HX.out, colM_snoc, HC.out]⟩
      case measure => simp [intOf]; omega
    · obtain rfl : j = m := by omega
      have HC2 : Hid (C = colM N) := by
        have h1 := HC.out
        rw [List.take_of_length_le (by have := HM.out; omega)] at h1
        exact h1
      clear HC
      have hj : 0 + N.length = s.size := by have := HM.out; omega
      have b0 : 0 < s.size := by omega
      have b1 : ((s.size : Int) == 0) = false := by rw [beq_eq_false_iff_ne]; omega
      obtain rfl : j = s.size := by omega
      go_wp2_with fail
      go_loop [5, 8] (fun i c => i = .int .i64 s.size ∧ c = .int .i64 0) (fun i _ => 0)
      case atStart => exact ⟨rfl, rfl⟩
      case round =>
        obtain ⟨rfl, rfl⟩ := hrel
        go_wp2_with fail
        refine bodyPost_ret (v := badV) (by simp [badV, results, Tryd.results11, go_sem]; done) rfl ⟨rfl, ?_⟩
        exact ((Below.refl _ w).alloc (Nat.le_refl _) _).alloc (by simp) _

set_option maxHeartbeats 4000000 in
set_option maxRecDepth 100000 in
theorem rpName1 (s : ByteArray) (w : World) (hs : s.size ≤ 1000) (h0 : (0 : Int) < s.size) (hd : (((s[0]'(by omega)).toNat : Int) == 36) = true) (N : List UInt8) (m : Nat)
    (m0 : 1 ≤ m) (m1 : m ≤ s.size) (hm : m = 1 + N.length) (hN : ∀ (j : Nat) (hj : j < s.size) (hk : j - 1 < N.length), 1 ≤ j → s[j]'hj = N[j - 1]) (hL : ∀ x ∈ N, isL x = true) (hend : ∀ h : m < s.size, isL (s[m]'h) = false) (hbad : N = [] ∨ 3 < N.length) :
    Calls Tryd.prog 11 #[.string s] w fun e w' => e = .returned (badV) ∧ Below w.heap.size w w' := by
  have HN := Lib.hid hN
  have HL := Lib.hid hL
  have HE := Lib.hid hend
  have HM := Lib.hid hm
  clear hN hL hend hm
  go_enter Tryd.func11, Tryd.ntmps11
  go_wp2_with fail
  go_loop [5, 6] (fun i c => ∃ (j : Nat) (C : Int), 1 ≤ j ∧ j ≤ m ∧ i = .int .i64 j ∧ c = .int .i64 C ∧ C = colM (N.take (j - 1))) (fun i _ => s.size - (intOf i).toNat)
  case atStart => exact ⟨1, 0, by omega, by omega, rfl, rfl, by simp [colM]⟩
  case round =>
    obtain ⟨j, C, j0, j1, rfl, rfl, hc⟩ := hrel
    have cb := colM_bd (N.take (j - 1)) (fun x hx => HL.out x (List.mem_of_mem_take hx))
    rw [← hc] at cb
    obtain ⟨cb0, cb1⟩ := cb
    have HC := Lib.hid hc
    clear hc
    by_cases hlt : j < m
    · have hz : j < s.size := by omega
      have i1 : (j : Int) < (s.size : Int) := by omega
      obtain ⟨x, hx⟩ : ∃ x, s[j]'hz = x := ⟨_, rfl⟩
      have hk : j - 1 < N.length := by have := HM.out; omega
      have hxN : N[j - 1] = x := by rw [← hx, ← HN.out j hz hk j0]
      have hxl : isL x = true := by rw [← hxN]; exact HL.out _ (List.getElem_mem hk)
      obtain ⟨lb0, lb1⟩ := lv_bd hxl
      have le := letN_t hxl
      have HX := Lib.hid hxN
      clear hxN
      go_wp2_with (go_at_call 36; refine (refletter_any _ _).mono ?_; rintro e w' ⟨rfl, rfl⟩)
      go_round
      case rel => exact ⟨j + 1, mn (26 * C + lv x) 1000000, by omega, by omega, by go_num, by go_num, by rw [show j + 1 - 1 = (j - 1) + 1 by omega, List.take_succ_eq_append_getElem hk, HX.out, colM_snoc, HC.out]⟩
      case measure => simp [intOf]; omega
    · obtain rfl : j = m := by omega
      have HC2 : Hid (C = colM N) := by
        have h1 := HC.out
        rw [List.take_of_length_le (by have := HM.out; omega)] at h1
        exact h1
      clear HC
      by_cases hz : j < s.size
      · have i1 : (j : Int) < (s.size : Int) := by omega
        have le := letN_f (HE.out hz)
        rcases hbad with hb | hb
        · obtain rfl : j = 1 := by have := HM.out; rw [hb] at this; simpa using this
          go_wp2_with (first | (go_at_call 36; refine (refletter_any _ _).mono ?_; rintro e w' ⟨rfl, rfl⟩) | (go_at_call 13; refine (refRight_any _ _ _ _ _).mono ?_; rintro e w' ⟨rfl, rfl⟩))
          refine bodyPost_ret (v := badV) (by simp [badV, results, Tryd.results11, go_sem]; done) rfl ⟨rfl, ?_⟩
          exact ((Below.refl _ w).alloc (Nat.le_refl _) _).alloc (by simp) _
        · have hj : 1 + 3 < j := by have := HM.out; omega
          have b1 : ((j : Int) == 1) = false := by rw [beq_eq_false_iff_ne]; omega
          go_wp2_with (first | (go_at_call 36; refine (refletter_any _ _).mono ?_; rintro e w' ⟨rfl, rfl⟩) | (go_at_call 13; refine (refRight_any _ _ _ _ _).mono ?_; rintro e w' ⟨rfl, rfl⟩))
          refine bodyPost_ret (v := badV) (by simp [badV, results, Tryd.results11, go_sem]; done) rfl ⟨rfl, ?_⟩
          exact ((Below.refl _ w).alloc (Nat.le_refl _) _).alloc (by simp) _
      · obtain rfl : j = s.size := by omega
        rcases hbad with hb | hb
        · have : s.size = 1 := by have := HM.out; rw [hb] at this; simpa using this
          have b1 : ((s.size : Int) == 1) = true := by rw [beq_iff_eq]; omega
          clear this
          go_wp2_with (first | (go_at_call 36; refine (refletter_any _ _).mono ?_; rintro e w' ⟨rfl, rfl⟩) | (go_at_call 13; refine (refRight_any _ _ _ _ _).mono ?_; rintro e w' ⟨rfl, rfl⟩))
          refine bodyPost_ret (v := badV) (by simp [badV, results, Tryd.results11, go_sem]; done) rfl ⟨rfl, ?_⟩
          exact ((Below.refl _ w).alloc (Nat.le_refl _) _).alloc (by simp) _
        · have hj : 1 + 3 < s.size := by have := HM.out; omega
          have b1 : ((s.size : Int) == 1) = false := by rw [beq_eq_false_iff_ne]; omega
          go_wp2_with (first | (go_at_call 36; refine (refletter_any _ _).mono ?_; rintro e w' ⟨rfl, rfl⟩) | (go_at_call 13; refine (refRight_any _ _ _ _ _).mono ?_; rintro e w' ⟨rfl, rfl⟩))
          refine bodyPost_ret (v := badV) (by simp [badV, results, Tryd.results11, go_sem]; done) rfl ⟨rfl, ?_⟩
          exact ((Below.refl _ w).alloc (Nat.le_refl _) _).alloc (by simp) _

set_option maxHeartbeats 4000000 in
set_option maxRecDepth 100000 in
theorem rpNone1 (s : ByteArray) (w : World) (hs : s.size ≤ 1000) (h0 : (0 : Int) < s.size) (hd : (((s[0]'(by omega)).toNat : Int) == 36) = true) (N : List UInt8) (m : Nat)
    (m0 : 1 ≤ m) (m1 : m ≤ s.size) (hm : m = 1 + N.length) (hN : ∀ (j : Nat) (hj : j < s.size) (hk : j - 1 < N.length), 1 ≤ j → s[j]'hj = N[j - 1]) (hL : ∀ x ∈ N, isL x = true) (hend : ∀ h : m < s.size, isL (s[m]'h) = false) (n0 : 0 < N.length) (n3 : N.length ≤ 3) (hz : m = s.size) :
    Calls Tryd.prog 11 #[.string s] w fun e w' => e = .returned (badV) ∧ Below w.heap.size w w' := by
  have HN := Lib.hid hN
  have HL := Lib.hid hL
  have HE := Lib.hid hend
  have HM := Lib.hid hm
  clear hN hL hend hm
  go_enter Tryd.func11, Tryd.ntmps11
  go_wp2_with fail
  go_loop [5, 6] (fun i c => ∃ (j : Nat) (C : Int), 1 ≤ j ∧ j ≤ m ∧ i = .int .i64 j ∧ c = .int .i64 C ∧ C = colM (N.take (j - 1))) (fun i _ => s.size - (intOf i).toNat)
  case atStart => exact ⟨1, 0, by omega, by omega, rfl, rfl, by simp [colM]⟩
  case round =>
    obtain ⟨j, C, j0, j1, rfl, rfl, hc⟩ := hrel
    have cb := colM_bd (N.take (j - 1)) (fun x hx => HL.out x (List.mem_of_mem_take hx))
    rw [← hc] at cb
    obtain ⟨cb0, cb1⟩ := cb
    have HC := Lib.hid hc
    clear hc
    by_cases hlt : j < m
    · have hz : j < s.size := by omega
      have i1 : (j : Int) < (s.size : Int) := by omega
      obtain ⟨x, hx⟩ : ∃ x, s[j]'hz = x := ⟨_, rfl⟩
      have hk : j - 1 < N.length := by have := HM.out; omega
      have hxN : N[j - 1] = x := by rw [← hx, ← HN.out j hz hk j0]
      have hxl : isL x = true := by rw [← hxN]; exact HL.out _ (List.getElem_mem hk)
      obtain ⟨lb0, lb1⟩ := lv_bd hxl
      have le := letN_t hxl
      have HX := Lib.hid hxN
      clear hxN
      go_wp2_with (go_at_call 36; refine (refletter_any _ _).mono ?_; rintro e w' ⟨rfl, rfl⟩)
      go_round
      case rel => exact ⟨j + 1, mn (26 * C + lv x) 1000000, by omega, by omega, by go_num, by go_num, by rw [show j + 1 - 1 = (j - 1) + 1 by omega, List.take_succ_eq_append_getElem hk, HX.out, colM_snoc, HC.out]⟩
      case measure => simp [intOf]; omega
    · obtain rfl : j = m := by omega
      have HC2 : Hid (C = colM N) := by
        have h1 := HC.out
        rw [List.take_of_length_le (by have := HM.out; omega)] at h1
        exact h1
      clear HC
      have hj : 1 + N.length = s.size := by have := HM.out; omega
      have b0 : 1 < s.size := by omega
      have b1 : ((s.size : Int) == 1) = false := by rw [beq_eq_false_iff_ne]; omega
      obtain rfl : j = s.size := by omega
      go_wp2_with fail
      go_loop [5, 8] (fun i c => i = .int .i64 s.size ∧ c = .int .i64 0) (fun i _ => 0)
      case atStart => exact ⟨rfl, rfl⟩
      case round =>
        obtain ⟨rfl, rfl⟩ := hrel
        go_wp2_with fail
        refine bodyPost_ret (v := badV) (by simp [badV, results, Tryd.results11, go_sem]; done) rfl ⟨rfl, ?_⟩
        exact ((Below.refl _ w).alloc (Nat.le_refl _) _).alloc (by simp) _
end Go.Proofs.YtacakmlkaikabaaDoor

import Derived.Test.YtacakmlkaikabaaDoorCl
namespace Go.Proofs.YtacakmlkaikabaaDoor
set_option linter.unusedVariables false
open Go.RowKit
attribute [local go_sem] max2_int min2_int max_two min_two


theorem hd48 {s : ByteArray} {D : List UInt8} {q : Nat} (hD : ∀ (j : Nat) (hj : j < s.size) (hk : j - q < D.length), q ≤ j → s[j]'hj = D[j - q]) (hl : 0 < D.length) (hq : q < s.size) (h : ((s[q]'hq).toNat : Int) = 48) : D.head? = some 48 := by
  have h1 := hD q hq (by omega) (Nat.le_refl _)
  cases D with
  | nil => simp at hl
  | cons b t =>
    simp only [Nat.sub_self, List.getElem_cons_zero] at h1
    rw [h1] at h
    have : b = 48 := UInt8.toNat_inj.1 (by show b.toNat = 48; omega)
    rw [this]; rfl
theorem hd48' {s : ByteArray} {D : List UInt8} {q : Nat} (hD : ∀ (j : Nat) (hj : j < s.size) (hk : j - q < D.length), q ≤ j → s[j]'hj = D[j - q]) (hq : q < s.size) (hh : D.head? = some 48) : ((s[q]'hq).toNat : Int) = 48 := by
  cases D with
  | nil => simp at hh
  | cons b t =>
    have h1 := hD q hq (by simp) (Nat.le_refl _)
    simp only [Nat.sub_self, List.getElem_cons_zero] at h1
    simp at hh
    rw [h1, hh]; rfl

set_option maxHeartbeats 4000000 in
set_option maxRecDepth 100000 in
theorem rpMain00 (s : ByteArray) (w : World) (hs : s.size ≤ 1000) (h0 : (0 : Int) < s.size) (hd : (((s[0]'(by omega)).toNat : Int) == 36) = false) (N : List UInt8) (m : Nat)
    (m0 : 0 ≤ m) (m1 : m ≤ s.size) (hm : m = 0 + N.length) (hN : ∀ (j : Nat) (hj : j < s.size) (hk : j - 0 < N.length), 0 ≤ j → s[j]'hj = N[j - 0]) (hL : ∀ x ∈ N, isL x = true) (hend : ∀ h : m < s.size, isL (s[m]'h) = false) (n0 : 0 < N.length) (n3 : N.length ≤ 3) (hz : m < s.size) (hd2 : (((s[m]'hz).toNat : Int) == 36) = false) (D : List UInt8) (e : Nat)
    (e0 : m ≤ e) (e1 : e ≤ s.size) (hq : e = m + D.length) (hD : ∀ (j : Nat) (hj : j < s.size) (hk : j - m < D.length), m ≤ j → s[j]'hj = D[j - m]) (hDD : ∀ x ∈ D, isD x = true) (hDe : ∀ h : e < s.size, isD (s[e]'h) = false) (V : Value) (hB : (D = [] ∨ 7 < D.length ∨ e < s.size ∨ D.head? = some 48) → V = badV) (hG : D ≠ [] → D.length ≤ 7 → e = s.size → D.head? ≠ some 48 → V = gI (colM N) (dgM D) false false) :
    Calls Tryd.prog 11 #[.string s] w fun e w' => e = .returned (V) ∧ Below w.heap.size w w' := by
  have HN := Lib.hid hN
  have HL := Lib.hid hL
  have HE := Lib.hid hend
  have HM := Lib.hid hm
  clear hN hL hend hm
  have HD := Lib.hid hD
  have HDD := Lib.hid hDD
  have HDE := Lib.hid hDe
  have HQ := Lib.hid hq
  have HB := Lib.hid hB
  have HG := Lib.hid hG
  clear hD hDD hDe hq hB hG
  go_enter Tryd.func11, Tryd.ntmps11
  go_wp2_with fail
  go_loop [5, 6] (fun i c => ∃ (j : Nat) (C : Int), 0 ≤ j ∧ j ≤ m ∧ i = .int .i64 j ∧ c = .int .i64 C ∧ C = colM (N.take (j - 0))) (fun i _ => s.size - (intOf i).toNat)
  case atStart => exact ⟨0, 0, by omega, by omega, rfl, rfl, by simp [colM]⟩
  case round =>
    obtain ⟨j, C, j0, j1, rfl, rfl, hc⟩ := hrel
    have cb := colM_bd (N.take (j - 0)) (fun x hx => HL.out x (List.mem_of_mem_take hx))
    rw [← hc] at cb
    obtain ⟨cb0, cb1⟩ := cb
    have HC := Lib.hid hc
    clear hc
    by_cases hlt : j < m
    · have hz : j < s.size := by omega
      have i1 : (j : Int) < (s.size : Int) := by omega
      obtain ⟨x, hx⟩ : ∃ x, s[j]'hz = x := ⟨_, rfl⟩
      have hk : j - 0 < N.length := by have := HM.out; omega
      have hxN : N[j - 0] = x := by rw [← hx, ← HN.out j hz hk j0]
      have hxl : isL x = true := by rw [← hxN]; exact HL.out _ (List.getElem_mem hk)
      obtain ⟨lb0, lb1⟩ := lv_bd hxl
      have le := letN_t hxl
      have HX := Lib.hid hxN
      clear hxN
      go_wp2_with (go_at_call 36; refine (refletter_any _ _).mono ?_; rintro e w' ⟨rfl, rfl⟩)
      go_round
      case rel => exact ⟨j + 1, mn (26 * C + lv x) 1000000, by omega, by omega, by go_num, by go_num, by rw [show j + 1 - 0 = (j - 0) + 1 by omega, List.take_succ_eq_append_getElem hk, HX.out, colM_snoc, HC.out]⟩
      case measure => simp [intOf]; omega
    · obtain rfl : j = m := by omega
      have HC2 : Hid (C = colM N) := by
        have h1 := HC.out
        rw [List.take_of_length_le (by have := HM.out; omega)] at h1
        exact h1
      clear HC
      have hj : 0 + N.length = j := by have := HM.out; omega
      have b0 : 0 < j := by omega
      have b1 : ((j : Int) == 0) = false := by rw [beq_eq_false_iff_ne]; omega
      have b2 : (j : Int) ≤ 0 + 3 := by omega
      have i1 : (j : Int) < (s.size : Int) := by omega
      have le := letN_f (HE.out hz)
      clear hj
      have b3 : ¬ (0 + 3 < (j : Int)) := by omega
      go_wp2_with (first | (go_at_call 36; refine (refletter_any _ _).mono ?_; rintro e w' ⟨rfl, rfl⟩) | (go_at_call 13; refine (refRight_any _ _ _ _ _).mono ?_; rintro e w' ⟨rfl, rfl⟩))
      clear le b1 b2 b3
      go_loop [5, 8] (fun i r => ∃ (k : Nat) (r' : Int), j ≤ k ∧ k ≤ e ∧ i = .int .i64 k ∧ r = .int .i64 r' ∧ r' = dgM (D.take (k - j))) (fun i _ => s.size - (intOf i).toNat)
      case atStart => exact ⟨j, 0, by omega, by omega, by first | rfl | go_num, rfl, by simp [dgM]⟩
      case round =>
        obtain ⟨k, r, k0, k1, rfl, rfl, hc⟩ := hrel
        have cb := dgM_bd (D.take (k - j)) (fun x hx => HDD.out x (List.mem_of_mem_take hx))
        rw [← hc] at cb
        obtain ⟨rb0, rb1⟩ := cb
        have HR := Lib.hid hc
        clear hc
        by_cases hlt : k < e
        · have hz2 : k < s.size := by omega
          have i1 : (k : Int) < (s.size : Int) := by omega
          obtain ⟨x, hx⟩ : ∃ x, s[k]'hz2 = x := ⟨_, rfl⟩
          have hk : k - j < D.length := by have := HQ.out; omega
          have hxD : D[k - j] = x := by rw [← hx, ← HD.out k hz2 hk k0]
          have hxd : isD x = true := by rw [← hxD]; exact HDD.out _ (List.getElem_mem hk)
          obtain ⟨lb0', lb1'⟩ := isD_t hxd
          have lb0 : (48 : Int) ≤ (x.toNat : Int) := by omega
          have lb1 : (x.toNat : Int) ≤ 57 := by omega
          have HX := Lib.hid hxD
          clear hxD lb0' lb1'
          go_wp2
          go_round
          case rel => exact ⟨k + 1, mn (10 * r + ((x.toNat : Int) - 48)) 100000000, by omega, by omega, by go_num, by first | rfl | go_num, by rw [show k + 1 - j = (k - j) + 1 by omega, List.take_succ_eq_append_getElem hk, HX.out, dgM_snoc, HR.out]⟩
          case measure => simp [intOf]; omega
        · obtain rfl : k = e := by omega
          have HR2 : Hid (r = dgM D) := by
            have h1 := HR.out
            rw [List.take_of_length_le (by have := HQ.out; omega)] at h1
            exact h1
          clear HR
          go_wp2_with fail
          all_goals first
            | (exfalso
               have g1 : k < s.size := by assumption
               have g2 := HDE.out g1
               have g3 : (48 : Int) ≤ ((s[k]'g1).toNat : Int) := by assumption
               have g4 : ((s[k]'g1).toNat : Int) ≤ 57 := by assumption
               simp [isD, pDig] at g2
               omega)
            | (refine bodyPost_ret (v := badV) (by simp [badV, results, Tryd.results11, go_sem]; done) rfl ⟨congrArg Ending.returned (HB.out ?hdis).symm, ?_⟩
               case hdis => first
                 | exact .inl (List.eq_nil_of_length_eq_zero (by have := HQ.out; omega))
                 | exact .inr (.inl (by have := HQ.out; omega))
                 | exact .inr (.inr (.inl (by omega)))
                 | (have g := ‹(_ ∨ _) ∨ ((_ : Int) == 48) = true›
                    rcases g with (g | g) | g
                    · rw [beq_iff_eq] at g; omega
                    · omega
                    · refine .inr (.inr (.inr ?_))
                      exact hd48 HD.out (by have := HQ.out; omega) (by omega) (beq_iff_eq.1 g))
               exact ((Below.refl _ w).alloc (Nat.le_refl _) _).alloc (by simp) _)
            | skip
          have hV : V = gI C r false false := by
            have g := ‹(_ ∧ _) ∧ ((_ : Int) == 48) = false›
            obtain ⟨⟨g1, g2⟩, g3⟩ := g
            rw [beq_eq_false_iff_ne] at g1 g3
            rw [HC2.out, HR2.out]
            refine HG.out (by rintro rfl; have := HQ.out; simp at this; omega) (by have := HQ.out; omega) (by omega) (fun hh => g3 ?_)
            exact hd48' HD.out (by omega) hh
          have HV := Lib.hid hV
          clear hV
          cases hok : okB (C - 1) (r - 1)
          · go_wp2_with (go_at_call 13; refine (refRight_any _ _ _ _ _).mono ?_; rintro e w' ⟨rfl, rfl⟩)
            refine bodyPost_ret (v := .tuple #[.agg #[.int .i64 0, .int .i64 0, .bool false, .bool false], .int .i64 14]) (by simp [results, Tryd.results11, go_sem]; done) rfl ⟨congrArg Ending.returned ((HV.out.trans (by rw [gI, hok]; rfl)).symm), ?_⟩
            exact (((Below.refl _ w).alloc (Nat.le_refl _) _).alloc (by simp) _).alloc (by simp; omega) _
          · go_wp2_with (go_at_call 13; refine (refRight_any _ _ _ _ _).mono ?_; rintro e w' ⟨rfl, rfl⟩)
            refine bodyPost_ret (v := .tuple #[.agg #[.int .i64 (C - 1), .int .i64 (r - 1), .bool false, .bool false], .int .i64 0]) (by simp [results, Tryd.results11, go_sem]; done) rfl ⟨congrArg Ending.returned ((HV.out.trans (by rw [gI, hok]; rfl)).symm), ?_⟩
            exact (((Below.refl _ w).alloc (Nat.le_refl _) _).alloc (by simp) _).alloc (by simp; omega) _

set_option maxHeartbeats 4000000 in
set_option maxRecDepth 100000 in
theorem rpMain01 (s : ByteArray) (w : World) (hs : s.size ≤ 1000) (h0 : (0 : Int) < s.size) (hd : (((s[0]'(by omega)).toNat : Int) == 36) = false) (N : List UInt8) (m : Nat)
    (m0 : 0 ≤ m) (m1 : m ≤ s.size) (hm : m = 0 + N.length) (hN : ∀ (j : Nat) (hj : j < s.size) (hk : j - 0 < N.length), 0 ≤ j → s[j]'hj = N[j - 0]) (hL : ∀ x ∈ N, isL x = true) (hend : ∀ h : m < s.size, isL (s[m]'h) = false) (n0 : 0 < N.length) (n3 : N.length ≤ 3) (hz : m < s.size) (hd2 : (((s[m]'hz).toNat : Int) == 36) = true) (D : List UInt8) (e : Nat)
    (e0 : (m + 1) ≤ e) (e1 : e ≤ s.size) (hq : e = (m + 1) + D.length) (hD : ∀ (j : Nat) (hj : j < s.size) (hk : j - (m + 1) < D.length), (m + 1) ≤ j → s[j]'hj = D[j - (m + 1)]) (hDD : ∀ x ∈ D, isD x = true) (hDe : ∀ h : e < s.size, isD (s[e]'h) = false) (V : Value) (hB : (D = [] ∨ 7 < D.length ∨ e < s.size ∨ D.head? = some 48) → V = badV) (hG : D ≠ [] → D.length ≤ 7 → e = s.size → D.head? ≠ some 48 → V = gI (colM N) (dgM D) false true) :
    Calls Tryd.prog 11 #[.string s] w fun e w' => e = .returned (V) ∧ Below w.heap.size w w' := by
  have HN := Lib.hid hN
  have HL := Lib.hid hL
  have HE := Lib.hid hend
  have HM := Lib.hid hm
  clear hN hL hend hm
  have HD := Lib.hid hD
  have HDD := Lib.hid hDD
  have HDE := Lib.hid hDe
  have HQ := Lib.hid hq
  have HB := Lib.hid hB
  have HG := Lib.hid hG
  clear hD hDD hDe hq hB hG
  go_enter Tryd.func11, Tryd.ntmps11
  go_wp2_with fail
  go_loop [5, 6] (fun i c => ∃ (j : Nat) (C : Int), 0 ≤ j ∧ j ≤ m ∧ i = .int .i64 j ∧ c = .int .i64 C ∧ C = colM (N.take (j - 0))) (fun i _ => s.size - (intOf i).toNat)
  case atStart => exact ⟨0, 0, by omega, by omega, rfl, rfl, by simp [colM]⟩
  case round =>
    obtain ⟨j, C, j0, j1, rfl, rfl, hc⟩ := hrel
    have cb := colM_bd (N.take (j - 0)) (fun x hx => HL.out x (List.mem_of_mem_take hx))
    rw [← hc] at cb
    obtain ⟨cb0, cb1⟩ := cb
    have HC := Lib.hid hc
    clear hc
    by_cases hlt : j < m
    · have hz : j < s.size := by omega
      have i1 : (j : Int) < (s.size : Int) := by omega
      obtain ⟨x, hx⟩ : ∃ x, s[j]'hz = x := ⟨_, rfl⟩
      have hk : j - 0 < N.length := by have := HM.out; omega
      have hxN : N[j - 0] = x := by rw [← hx, ← HN.out j hz hk j0]
      have hxl : isL x = true := by rw [← hxN]; exact HL.out _ (List.getElem_mem hk)
      obtain ⟨lb0, lb1⟩ := lv_bd hxl
      have le := letN_t hxl
      have HX := Lib.hid hxN
      clear hxN
      go_wp2_with (go_at_call 36; refine (refletter_any _ _).mono ?_; rintro e w' ⟨rfl, rfl⟩)
      go_round
      case rel => exact ⟨j + 1, mn (26 * C + lv x) 1000000, by omega, by omega, by go_num, by go_num, by rw [show j + 1 - 0 = (j - 0) + 1 by omega, List.take_succ_eq_append_getElem hk, HX.out, colM_snoc, HC.out]⟩
      case measure => simp [intOf]; omega
    · obtain rfl : j = m := by omega
      have HC2 : Hid (C = colM N) := by
        have h1 := HC.out
        rw [List.take_of_length_le (by have := HM.out; omega)] at h1
        exact h1
      clear HC
      have hj : 0 + N.length = j := by have := HM.out; omega
      have b0 : 0 < j := by omega
      have b1 : ((j : Int) == 0) = false := by rw [beq_eq_false_iff_ne]; omega
      have b2 : (j : Int) ≤ 0 + 3 := by omega
      have i1 : (j : Int) < (s.size : Int) := by omega
      have le := letN_f (HE.out hz)
      clear hj
      have b3 : ¬ (0 + 3 < (j : Int)) := by omega
      go_wp2_with (first | (go_at_call 36; refine (refletter_any _ _).mono ?_; rintro e w' ⟨rfl, rfl⟩) | (go_at_call 13; refine (refRight_any _ _ _ _ _).mono ?_; rintro e w' ⟨rfl, rfl⟩))
      clear le b1 b2 b3
      go_loop [5, 8] (fun i r => ∃ (k : Nat) (r' : Int), (j + 1) ≤ k ∧ k ≤ e ∧ i = .int .i64 k ∧ r = .int .i64 r' ∧ r' = dgM (D.take (k - (j + 1)))) (fun i _ => s.size - (intOf i).toNat)
      case atStart => exact ⟨(j + 1), 0, by omega, by omega, by first | rfl | go_num, rfl, by simp [dgM]⟩
      case round =>
        obtain ⟨k, r, k0, k1, rfl, rfl, hc⟩ := hrel
        have cb := dgM_bd (D.take (k - (j + 1))) (fun x hx => HDD.out x (List.mem_of_mem_take hx))
        rw [← hc] at cb
        obtain ⟨rb0, rb1⟩ := cb
        have HR := Lib.hid hc
        clear hc
        by_cases hlt : k < e
        · have hz2 : k < s.size := by omega
          have i1 : (k : Int) < (s.size : Int) := by omega
          obtain ⟨x, hx⟩ : ∃ x, s[k]'hz2 = x := ⟨_, rfl⟩
          have hk : k - (j + 1) < D.length := by have := HQ.out; omega
          have hxD : D[k - (j + 1)] = x := by rw [← hx, ← HD.out k hz2 hk k0]
          have hxd : isD x = true := by rw [← hxD]; exact HDD.out _ (List.getElem_mem hk)
          obtain ⟨lb0', lb1'⟩ := isD_t hxd
          have lb0 : (48 : Int) ≤ (x.toNat : Int) := by omega
          have lb1 : (x.toNat : Int) ≤ 57 := by omega
          have HX := Lib.hid hxD
          clear hxD lb0' lb1'
          go_wp2
          go_round
          case rel => exact ⟨k + 1, mn (10 * r + ((x.toNat : Int) - 48)) 100000000, by omega, by omega, by go_num, by first | rfl | go_num, by rw [show k + 1 - (j + 1) = (k - (j + 1)) + 1 by omega, List.take_succ_eq_append_getElem hk, HX.out, dgM_snoc, HR.out]⟩
          case measure => simp [intOf]; omega
        · obtain rfl : k = e := by omega
          have HR2 : Hid (r = dgM D) := by
            have h1 := HR.out
            rw [List.take_of_length_le (by have := HQ.out; omega)] at h1
            exact h1
          clear HR
          go_wp2_with fail
          all_goals first
            | (exfalso
               have g1 : k < s.size := by assumption
               have g2 := HDE.out g1
               have g3 : (48 : Int) ≤ ((s[k]'g1).toNat : Int) := by assumption
               have g4 : ((s[k]'g1).toNat : Int) ≤ 57 := by assumption
               simp [isD, pDig] at g2
               omega)
            | (refine bodyPost_ret (v := badV) (by simp [badV, results, Tryd.results11, go_sem]; done) rfl ⟨congrArg Ending.returned (HB.out ?hdis).symm, ?_⟩
               case hdis => first
                 | exact .inl (List.eq_nil_of_length_eq_zero (by have := HQ.out; omega))
                 | exact .inr (.inl (by have := HQ.out; omega))
                 | exact .inr (.inr (.inl (by omega)))
                 | (have g := ‹(_ ∨ _) ∨ ((_ : Int) == 48) = true›
                    rcases g with (g | g) | g
                    · rw [beq_iff_eq] at g; omega
                    · omega
                    · refine .inr (.inr (.inr ?_))
                      exact hd48 HD.out (by have := HQ.out; omega) (by omega) (beq_iff_eq.1 g))
               exact ((Below.refl _ w).alloc (Nat.le_refl _) _).alloc (by simp) _)
            | skip
          have hV : V = gI C r false true := by
            have g := ‹(_ ∧ _) ∧ ((_ : Int) == 48) = false›
            obtain ⟨⟨g1, g2⟩, g3⟩ := g
            rw [beq_eq_false_iff_ne] at g1 g3
            rw [HC2.out, HR2.out]
            refine HG.out (by rintro rfl; have := HQ.out; simp at this; omega) (by have := HQ.out; omega) (by omega) (fun hh => g3 ?_)
            exact hd48' HD.out (by omega) hh
          have HV := Lib.hid hV
          clear hV
          cases hok : okB (C - 1) (r - 1)
          · go_wp2_with (go_at_call 13; refine (refRight_any _ _ _ _ _).mono ?_; rintro e w' ⟨rfl, rfl⟩)
            refine bodyPost_ret (v := .tuple #[.agg #[.int .i64 0, .int .i64 0, .bool false, .bool false], .int .i64 14]) (by simp [results, Tryd.results11, go_sem]; done) rfl ⟨congrArg Ending.returned ((HV.out.trans (by rw [gI, hok]; rfl)).symm), ?_⟩
            exact (((Below.refl _ w).alloc (Nat.le_refl _) _).alloc (by simp) _).alloc (by simp; omega) _
          · go_wp2_with (go_at_call 13; refine (refRight_any _ _ _ _ _).mono ?_; rintro e w' ⟨rfl, rfl⟩)
            refine bodyPost_ret (v := .tuple #[.agg #[.int .i64 (C - 1), .int .i64 (r - 1), .bool false, .bool true], .int .i64 0]) (by simp [results, Tryd.results11, go_sem]; done) rfl ⟨congrArg Ending.returned ((HV.out.trans (by rw [gI, hok]; rfl)).symm), ?_⟩
            exact (((Below.refl _ w).alloc (Nat.le_refl _) _).alloc (by simp) _).alloc (by simp; omega) _

set_option maxHeartbeats 4000000 in
set_option maxRecDepth 100000 in
theorem rpMain10 (s : ByteArray) (w : World) (hs : s.size ≤ 1000) (h0 : (0 : Int) < s.size) (hd : (((s[0]'(by omega)).toNat : Int) == 36) = true) (N : List UInt8) (m : Nat)
    (m0 : 1 ≤ m) (m1 : m ≤ s.size) (hm : m = 1 + N.length) (hN : ∀ (j : Nat) (hj : j < s.size) (hk : j - 1 < N.length), 1 ≤ j → s[j]'hj = N[j - 1]) (hL : ∀ x ∈ N, isL x = true) (hend : ∀ h : m < s.size, isL (s[m]'h) = false) (n0 : 0 < N.length) (n3 : N.length ≤ 3) (hz : m < s.size) (hd2 : (((s[m]'hz).toNat : Int) == 36) = false) (D : List UInt8) (e : Nat)
    (e0 : m ≤ e) (e1 : e ≤ s.size) (hq : e = m + D.length) (hD : ∀ (j : Nat) (hj : j < s.size) (hk : j - m < D.length), m ≤ j → s[j]'hj = D[j - m]) (hDD : ∀ x ∈ D, isD x = true) (hDe : ∀ h : e < s.size, isD (s[e]'h) = false) (V : Value) (hB : (D = [] ∨ 7 < D.length ∨ e < s.size ∨ D.head? = some 48) → V = badV) (hG : D ≠ [] → D.length ≤ 7 → e = s.size → D.head? ≠ some 48 → V = gI (colM N) (dgM D) true false) :
    Calls Tryd.prog 11 #[.string s] w fun e w' => e = .returned (V) ∧ Below w.heap.size w w' := by
  have HN := Lib.hid hN
  have HL := Lib.hid hL
  have HE := Lib.hid hend
  have HM := Lib.hid hm
  clear hN hL hend hm
  have HD := Lib.hid hD
  have HDD := Lib.hid hDD
  have HDE := Lib.hid hDe
  have HQ := Lib.hid hq
  have HB := Lib.hid hB
  have HG := Lib.hid hG
  clear hD hDD hDe hq hB hG
  go_enter Tryd.func11, Tryd.ntmps11
  go_wp2_with fail
  go_loop [5, 6] (fun i c => ∃ (j : Nat) (C : Int), 1 ≤ j ∧ j ≤ m ∧ i = .int .i64 j ∧ c = .int .i64 C ∧ C = colM (N.take (j - 1))) (fun i _ => s.size - (intOf i).toNat)
  case atStart => exact ⟨1, 0, by omega, by omega, rfl, rfl, by simp [colM]⟩
  case round =>
    obtain ⟨j, C, j0, j1, rfl, rfl, hc⟩ := hrel
    have cb := colM_bd (N.take (j - 1)) (fun x hx => HL.out x (List.mem_of_mem_take hx))
    rw [← hc] at cb
    obtain ⟨cb0, cb1⟩ := cb
    have HC := Lib.hid hc
    clear hc
    by_cases hlt : j < m
    · have hz : j < s.size := by omega
      have i1 : (j : Int) < (s.size : Int) := by omega
      obtain ⟨x, hx⟩ : ∃ x, s[j]'hz = x := ⟨_, rfl⟩
      have hk : j - 1 < N.length := by have := HM.out; omega
      have hxN : N[j - 1] = x := by rw [← hx, ← HN.out j hz hk j0]
      have hxl : isL x = true := by rw [← hxN]; exact HL.out _ (List.getElem_mem hk)
      obtain ⟨lb0, lb1⟩ := lv_bd hxl
      have le := letN_t hxl
      have HX := Lib.hid hxN
      clear hxN
      go_wp2_with (go_at_call 36; refine (refletter_any _ _).mono ?_; rintro e w' ⟨rfl, rfl⟩)
      go_round
      case rel => exact ⟨j + 1, mn (26 * C + lv x) 1000000, by omega, by omega, by go_num, by go_num, by rw [show j + 1 - 1 = (j - 1) + 1 by omega, List.take_succ_eq_append_getElem hk, HX.out, colM_snoc, HC.out]⟩
      case measure => simp [intOf]; omega
    · obtain rfl : j = m := by omega
      have HC2 : Hid (C = colM N) := by
        have h1 := HC.out
        rw [List.take_of_length_le (by have := HM.out; omega)] at h1
        exact h1
      clear HC
      have hj : 1 + N.length = j := by have := HM.out; omega
      have b0 : 1 < j := by omega
      have b1 : ((j : Int) == 1) = false := by rw [beq_eq_false_iff_ne]; omega
      have b2 : (j : Int) ≤ 1 + 3 := by omega
      have i1 : (j : Int) < (s.size : Int) := by omega
      have le := letN_f (HE.out hz)
      clear hj
      have b3 : ¬ (1 + 3 < (j : Int)) := by omega
      go_wp2_with (first | (go_at_call 36; refine (refletter_any _ _).mono ?_; rintro e w' ⟨rfl, rfl⟩) | (go_at_call 13; refine (refRight_any _ _ _ _ _).mono ?_; rintro e w' ⟨rfl, rfl⟩))
      clear le b1 b2 b3
      go_loop [5, 8] (fun i r => ∃ (k : Nat) (r' : Int), j ≤ k ∧ k ≤ e ∧ i = .int .i64 k ∧ r = .int .i64 r' ∧ r' = dgM (D.take (k - j))) (fun i _ => s.size - (intOf i).toNat)
      case atStart => exact ⟨j, 0, by omega, by omega, by first | rfl | go_num, rfl, by simp [dgM]⟩
      case round =>
        obtain ⟨k, r, k0, k1, rfl, rfl, hc⟩ := hrel
        have cb := dgM_bd (D.take (k - j)) (fun x hx => HDD.out x (List.mem_of_mem_take hx))
        rw [← hc] at cb
        obtain ⟨rb0, rb1⟩ := cb
        have HR := Lib.hid hc
        clear hc
        by_cases hlt : k < e
        · have hz2 : k < s.size := by omega
          have i1 : (k : Int) < (s.size : Int) := by omega
          obtain ⟨x, hx⟩ : ∃ x, s[k]'hz2 = x := ⟨_, rfl⟩
          have hk : k - j < D.length := by have := HQ.out; omega
          have hxD : D[k - j] = x := by rw [← hx, ← HD.out k hz2 hk k0]
          have hxd : isD x = true := by rw [← hxD]; exact HDD.out _ (List.getElem_mem hk)
          obtain ⟨lb0', lb1'⟩ := isD_t hxd
          have lb0 : (48 : Int) ≤ (x.toNat : Int) := by omega
          have lb1 : (x.toNat : Int) ≤ 57 := by omega
          have HX := Lib.hid hxD
          clear hxD lb0' lb1'
          go_wp2
          go_round
          case rel => exact ⟨k + 1, mn (10 * r + ((x.toNat : Int) - 48)) 100000000, by omega, by omega, by go_num, by first | rfl | go_num, by rw [show k + 1 - j = (k - j) + 1 by omega, List.take_succ_eq_append_getElem hk, HX.out, dgM_snoc, HR.out]⟩
          case measure => simp [intOf]; omega
        · obtain rfl : k = e := by omega
          have HR2 : Hid (r = dgM D) := by
            have h1 := HR.out
            rw [List.take_of_length_le (by have := HQ.out; omega)] at h1
            exact h1
          clear HR
          go_wp2_with fail
          all_goals first
            | (exfalso
               have g1 : k < s.size := by assumption
               have g2 := HDE.out g1
               have g3 : (48 : Int) ≤ ((s[k]'g1).toNat : Int) := by assumption
               have g4 : ((s[k]'g1).toNat : Int) ≤ 57 := by assumption
               simp [isD, pDig] at g2
               omega)
            | (refine bodyPost_ret (v := badV) (by simp [badV, results, Tryd.results11, go_sem]; done) rfl ⟨congrArg Ending.returned (HB.out ?hdis).symm, ?_⟩
               case hdis => first
                 | exact .inl (List.eq_nil_of_length_eq_zero (by have := HQ.out; omega))
                 | exact .inr (.inl (by have := HQ.out; omega))
                 | exact .inr (.inr (.inl (by omega)))
                 | (have g := ‹(_ ∨ _) ∨ ((_ : Int) == 48) = true›
                    rcases g with (g | g) | g
                    · rw [beq_iff_eq] at g; omega
                    · omega
                    · refine .inr (.inr (.inr ?_))
                      exact hd48 HD.out (by have := HQ.out; omega) (by omega) (beq_iff_eq.1 g))
               exact ((Below.refl _ w).alloc (Nat.le_refl _) _).alloc (by simp) _)
            | skip
          have hV : V = gI C r true false := by
            have g := ‹(_ ∧ _) ∧ ((_ : Int) == 48) = false›
            obtain ⟨⟨g1, g2⟩, g3⟩ := g
            rw [beq_eq_false_iff_ne] at g1 g3
            rw [HC2.out, HR2.out]
            refine HG.out (by rintro rfl; have := HQ.out; simp at this; omega) (by have := HQ.out; omega) (by omega) (fun hh => g3 ?_)
            exact hd48' HD.out (by omega) hh
          have HV := Lib.hid hV
          clear hV
          cases hok : okB (C - 1) (r - 1)
          · go_wp2_with (go_at_call 13; refine (refRight_any _ _ _ _ _).mono ?_; rintro e w' ⟨rfl, rfl⟩)
            refine bodyPost_ret (v := .tuple #[.agg #[.int .i64 0, .int .i64 0, .bool false, .bool false], .int .i64 14]) (by simp [results, Tryd.results11, go_sem]; done) rfl ⟨congrArg Ending.returned ((HV.out.trans (by rw [gI, hok]; rfl)).symm), ?_⟩
            exact (((Below.refl _ w).alloc (Nat.le_refl _) _).alloc (by simp) _).alloc (by simp; omega) _
          · go_wp2_with (go_at_call 13; refine (refRight_any _ _ _ _ _).mono ?_; rintro e w' ⟨rfl, rfl⟩)
            refine bodyPost_ret (v := .tuple #[.agg #[.int .i64 (C - 1), .int .i64 (r - 1), .bool true, .bool false], .int .i64 0]) (by simp [results, Tryd.results11, go_sem]; done) rfl ⟨congrArg Ending.returned ((HV.out.trans (by rw [gI, hok]; rfl)).symm), ?_⟩
            exact (((Below.refl _ w).alloc (Nat.le_refl _) _).alloc (by simp) _).alloc (by simp; omega) _

set_option maxHeartbeats 4000000 in
set_option maxRecDepth 100000 in
theorem rpMain11 (s : ByteArray) (w : World) (hs : s.size ≤ 1000) (h0 : (0 : Int) < s.size) (hd : (((s[0]'(by omega)).toNat : Int) == 36) = true) (N : List UInt8) (m : Nat)
    (m0 : 1 ≤ m) (m1 : m ≤ s.size) (hm : m = 1 + N.length) (hN : ∀ (j : Nat) (hj : j < s.size) (hk : j - 1 < N.length), 1 ≤ j → s[j]'hj = N[j - 1]) (hL : ∀ x ∈ N, isL x = true) (hend : ∀ h : m < s.size, isL (s[m]'h) = false) (n0 : 0 < N.length) (n3 : N.length ≤ 3) (hz : m < s.size) (hd2 : (((s[m]'hz).toNat : Int) == 36) = true) (D : List UInt8) (e : Nat)
    (e0 : (m + 1) ≤ e) (e1 : e ≤ s.size) (hq : e = (m + 1) + D.length) (hD : ∀ (j : Nat) (hj : j < s.size) (hk : j - (m + 1) < D.length), (m + 1) ≤ j → s[j]'hj = D[j - (m + 1)]) (hDD : ∀ x ∈ D, isD x = true) (hDe : ∀ h : e < s.size, isD (s[e]'h) = false) (V : Value) (hB : (D = [] ∨ 7 < D.length ∨ e < s.size ∨ D.head? = some 48) → V = badV) (hG : D ≠ [] → D.length ≤ 7 → e = s.size → D.head? ≠ some 48 → V = gI (colM N) (dgM D) true true) :
    Calls Tryd.prog 11 #[.string s] w fun e w' => e = .returned (V) ∧ Below w.heap.size w w' := by
  have HN := Lib.hid hN
  have HL := Lib.hid hL
  have HE := Lib.hid hend
  have HM := Lib.hid hm
  clear hN hL hend hm
  have HD := Lib.hid hD
  have HDD := Lib.hid hDD
  have HDE := Lib.hid hDe
  have HQ := Lib.hid hq
  have HB := Lib.hid hB
  have HG := Lib.hid hG
  clear hD hDD hDe hq hB hG
  go_enter Tryd.func11, Tryd.ntmps11
  go_wp2_with fail
  go_loop [5, 6] (fun i c => ∃ (j : Nat) (C : Int), 1 ≤ j ∧ j ≤ m ∧ i = .int .i64 j ∧ c = .int .i64 C ∧ C = colM (N.take (j - 1))) (fun i _ => s.size - (intOf i).toNat)
  case atStart => exact ⟨1, 0, by omega, by omega, rfl, rfl, by simp [colM]⟩
  case round =>
    obtain ⟨j, C, j0, j1, rfl, rfl, hc⟩ := hrel
    have cb := colM_bd (N.take (j - 1)) (fun x hx => HL.out x (List.mem_of_mem_take hx))
    rw [← hc] at cb
    obtain ⟨cb0, cb1⟩ := cb
    have HC := Lib.hid hc
    clear hc
    by_cases hlt : j < m
    · have hz : j < s.size := by omega
      have i1 : (j : Int) < (s.size : Int) := by omega
      obtain ⟨x, hx⟩ : ∃ x, s[j]'hz = x := ⟨_, rfl⟩
      have hk : j - 1 < N.length := by have := HM.out; omega
      have hxN : N[j - 1] = x := by rw [← hx, ← HN.out j hz hk j0]
      have hxl : isL x = true := by rw [← hxN]; exact HL.out _ (List.getElem_mem hk)
      obtain ⟨lb0, lb1⟩ := lv_bd hxl
      have le := letN_t hxl
      have HX := Lib.hid hxN
      clear hxN
      go_wp2_with (go_at_call 36; refine (refletter_any _ _).mono ?_; rintro e w' ⟨rfl, rfl⟩)
      go_round
      case rel => exact ⟨j + 1, mn (26 * C + lv x) 1000000, by omega, by omega, by go_num, by go_num, by rw [show j + 1 - 1 = (j - 1) + 1 by omega, List.take_succ_eq_append_getElem hk, HX.out, colM_snoc, HC.out]⟩
      case measure => simp [intOf]; omega
    · obtain rfl : j = m := by omega
      have HC2 : Hid (C = colM N) := by
        have h1 := HC.out
        rw [List.take_of_length_le (by have := HM.out; omega)] at h1
        exact h1
      clear HC
      have hj : 1 + N.length = j := by have := HM.out; omega
      have b0 : 1 < j := by omega
      have b1 : ((j : Int) == 1) = false := by rw [beq_eq_false_iff_ne]; omega
      have b2 : (j : Int) ≤ 1 + 3 := by omega
      have i1 : (j : Int) < (s.size : Int) := by omega
      have le := letN_f (HE.out hz)
      clear hj
      have b3 : ¬ (1 + 3 < (j : Int)) := by omega
      go_wp2_with (first | (go_at_call 36; refine (refletter_any _ _).mono ?_; rintro e w' ⟨rfl, rfl⟩) | (go_at_call 13; refine (refRight_any _ _ _ _ _).mono ?_; rintro e w' ⟨rfl, rfl⟩))
      clear le b1 b2 b3
      go_loop [5, 8] (fun i r => ∃ (k : Nat) (r' : Int), (j + 1) ≤ k ∧ k ≤ e ∧ i = .int .i64 k ∧ r = .int .i64 r' ∧ r' = dgM (D.take (k - (j + 1)))) (fun i _ => s.size - (intOf i).toNat)
      case atStart => exact ⟨(j + 1), 0, by omega, by omega, by first | rfl | go_num, rfl, by simp [dgM]⟩
      case round =>
        obtain ⟨k, r, k0, k1, rfl, rfl, hc⟩ := hrel
        have cb := dgM_bd (D.take (k - (j + 1))) (fun x hx => HDD.out x (List.mem_of_mem_take hx))
        rw [← hc] at cb
        obtain ⟨rb0, rb1⟩ := cb
        have HR := Lib.hid hc
        clear hc
        by_cases hlt : k < e
        · have hz2 : k < s.size := by omega
          have i1 : (k : Int) < (s.size : Int) := by omega
          obtain ⟨x, hx⟩ : ∃ x, s[k]'hz2 = x := ⟨_, rfl⟩
          have hk : k - (j + 1) < D.length := by have := HQ.out; omega
          have hxD : D[k - (j + 1)] = x := by rw [← hx, ← HD.out k hz2 hk k0]
          have hxd : isD x = true := by rw [← hxD]; exact HDD.out _ (List.getElem_mem hk)
          obtain ⟨lb0', lb1'⟩ := isD_t hxd
          have lb0 : (48 : Int) ≤ (x.toNat : Int) := by omega
          have lb1 : (x.toNat : Int) ≤ 57 := by omega
          have HX := Lib.hid hxD
          clear hxD lb0' lb1'
          go_wp2
          go_round
          case rel => exact ⟨k + 1, mn (10 * r + ((x.toNat : Int) - 48)) 100000000, by omega, by omega, by go_num, by first | rfl | go_num, by rw [show k + 1 - (j + 1) = (k - (j + 1)) + 1 by omega, List.take_succ_eq_append_getElem hk, HX.out, dgM_snoc, HR.out]⟩
          case measure => simp [intOf]; omega
        · obtain rfl : k = e := by omega
          have HR2 : Hid (r = dgM D) := by
            have h1 := HR.out
            rw [List.take_of_length_le (by have := HQ.out; omega)] at h1
            exact h1
          clear HR
          go_wp2_with fail
          all_goals first
            | (exfalso
               have g1 : k < s.size := by assumption
               have g2 := HDE.out g1
               have g3 : (48 : Int) ≤ ((s[k]'g1).toNat : Int) := by assumption
               have g4 : ((s[k]'g1).toNat : Int) ≤ 57 := by assumption
               simp [isD, pDig] at g2
               omega)
            | (refine bodyPost_ret (v := badV) (by simp [badV, results, Tryd.results11, go_sem]; done) rfl ⟨congrArg Ending.returned (HB.out ?hdis).symm, ?_⟩
               case hdis => first
                 | exact .inl (List.eq_nil_of_length_eq_zero (by have := HQ.out; omega))
                 | exact .inr (.inl (by have := HQ.out; omega))
                 | exact .inr (.inr (.inl (by omega)))
                 | (have g := ‹(_ ∨ _) ∨ ((_ : Int) == 48) = true›
                    rcases g with (g | g) | g
                    · rw [beq_iff_eq] at g; omega
                    · omega
                    · refine .inr (.inr (.inr ?_))
                      exact hd48 HD.out (by have := HQ.out; omega) (by omega) (beq_iff_eq.1 g))
               exact ((Below.refl _ w).alloc (Nat.le_refl _) _).alloc (by simp) _)
            | skip
          have hV : V = gI C r true true := by
            have g := ‹(_ ∧ _) ∧ ((_ : Int) == 48) = false›
            obtain ⟨⟨g1, g2⟩, g3⟩ := g
            rw [beq_eq_false_iff_ne] at g1 g3
            rw [HC2.out, HR2.out]
            refine HG.out (by rintro rfl; have := HQ.out; simp at this; omega) (by have := HQ.out; omega) (by omega) (fun hh => g3 ?_)
            exact hd48' HD.out (by omega) hh
          have HV := Lib.hid hV
          clear hV
          cases hok : okB (C - 1) (r - 1)
          · go_wp2_with (go_at_call 13; refine (refRight_any _ _ _ _ _).mono ?_; rintro e w' ⟨rfl, rfl⟩)
            refine bodyPost_ret (v := .tuple #[.agg #[.int .i64 0, .int .i64 0, .bool false, .bool false], .int .i64 14]) (by simp [results, Tryd.results11, go_sem]; done) rfl ⟨congrArg Ending.returned ((HV.out.trans (by rw [gI, hok]; rfl)).symm), ?_⟩
            exact (((Below.refl _ w).alloc (Nat.le_refl _) _).alloc (by simp) _).alloc (by simp; omega) _
          · go_wp2_with (go_at_call 13; refine (refRight_any _ _ _ _ _).mono ?_; rintro e w' ⟨rfl, rfl⟩)
            refine bodyPost_ret (v := .tuple #[.agg #[.int .i64 (C - 1), .int .i64 (r - 1), .bool true, .bool true], .int .i64 0]) (by simp [results, Tryd.results11, go_sem]; done) rfl ⟨congrArg Ending.returned ((HV.out.trans (by rw [gI, hok]; rfl)).symm), ?_⟩
            exact (((Below.refl _ w).alloc (Nat.le_refl _) _).alloc (by simp) _).alloc (by simp; omega) _
end Go.Proofs.YtacakmlkaikabaaDoor

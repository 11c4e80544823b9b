/- The reference's letters and digits, walked. -/
import Derived.Test.YtacakmlkaikabaaDoorCe
namespace Go.Proofs.YtacakmlkaikabaaDoor
open Go.RowKit

theorem dig_cut (n : Nat) (h : n < 10) : (⟨#[48, 49, 50, 51, 52, 53, 54, 55, 56, 57]⟩ : ByteArray).extract n (n + 1) = ⟨#[UInt8.ofNat (48 + n)]⟩ := by
  have : ∀ n : Fin 10, (⟨#[48, 49, 50, 51, 52, 53, 54, 55, 56, 57]⟩ : ByteArray).extract n (n + 1) = ⟨#[UInt8.ofNat (48 + n)]⟩ := by decide
  exact this ⟨n, h⟩
theorem let_cut (n : Nat) (h : n < 26) : (⟨#[65, 66, 67, 68, 69, 70, 71, 72, 73, 74, 75, 76, 77, 78, 79, 80, 81, 82, 83, 84, 85, 86, 87, 88, 89, 90]⟩ : ByteArray).extract n (n + 1) = ⟨#[UInt8.ofNat (65 + n)]⟩ := by
  have : ∀ n : Fin 26, (⟨#[65, 66, 67, 68, 69, 70, 71, 72, 73, 74, 75, 76, 77, 78, 79, 80, 81, 82, 83, 84, 85, 86, 87, 88, 89, 90]⟩ : ByteArray).extract n (n + 1) = ⟨#[UInt8.ofNat (65 + n)]⟩ := by decide
  exact this ⟨n, h⟩
theorem dec_lo {n : Nat} (h : n < 10) : Lib.decDigits n = [UInt8.ofNat (48 + n)] := by rw [Lib.decDigits, dif_pos h]
theorem dec_hi {n : Nat} (h : ¬ n < 10) : Lib.decDigits n = Lib.decDigits (n / 10) ++ [UInt8.ofNat (48 + n % 10)] := by rw [Lib.decDigits, dif_neg h]
theorem dec_len (k : Nat) : ∀ n : Nat, n < 10 ^ k → (Lib.decDigits n).length ≤ k + 1 := by
  induction k with
  | zero => intro n h; rw [dec_lo (by omega)]; simp
  | succ k ih =>
    intro n h
    by_cases hlt : n < 10
    · rw [dec_lo hlt]; simp
    · rw [dec_hi hlt, List.length_append]
      have := ih (n / 10) (by rw [Nat.pow_succ] at h; omega)
      simp; omega

set_option maxHeartbeats 400000 in
theorem refDigits_lo (n : Int) (w : World) (h0 : 0 ≤ n) (h1 : n < 10) :
    Calls Tryd.prog 41 #[.int .i64 n] w fun e w' => e = .returned (.string ⟨(Lib.decDigits n.toNat).toArray⟩) ∧ w' = w := by
  obtain ⟨n, rfl⟩ := Int.eq_ofNat_of_zero_le h0
  rw [Int.toNat_natCast, dec_lo (by omega)]
  have hc := dig_cut n (by omega)
  go_enter Tryd.func41, Tryd.ntmps41
  go_wp2
  go_ret
  exact ⟨by simp, rfl⟩

theorem refDigits_any (k : Nat) : ∀ (n : Int) (w : World), 0 ≤ n → n < 10 ^ k → k ≤ 18 →
    Calls Tryd.prog 41 #[.int .i64 n] w fun e w' => e = .returned (.string ⟨(Lib.decDigits n.toNat).toArray⟩) ∧ w' = w := by
  induction k with
  | zero => 
    intro n w h0 h _
    exact refDigits_lo n w h0 (by simp at h; omega)
  | succ k ih =>
    intro n w h0 h hb
    by_cases hlt : n < 10
    · exact refDigits_lo n w h0 hlt
    · have hk : (10 : Int) ^ (k + 1) = 10 ^ k * 10 := Int.pow_succ ..
      have hle : (10 : Int) ^ (k + 1) ≤ 10 ^ 18 := by
        have := Nat.pow_le_pow_right (n := 10) (by omega) hb
        exact_mod_cast this
      have hn : n ≤ 9223372036854775807 := by omega
      have h18 : n / 10 < 10 ^ k := by omega
      have hl1 := dec_len k (n / 10).toNat (by have : ((n/10).toNat : Int) = n / 10 := by omega
                                               exact_mod_cast (show (((n / 10).toNat : Nat) : Int) < ((10 ^ k : Nat) : Int) by rw [this]; exact_mod_cast h18))
      have hl2 := dec_len 1 (n % 10).toNat (by omega)
      have H1 := ih (n / 10) w (by omega) h18 (by omega)
      have H2 := refDigits_lo (n % 10) w (by omega) (by omega)
      have hd : Lib.decDigits n.toNat = Lib.decDigits (n / 10).toNat ++ Lib.decDigits (n % 10).toNat := by
        rw [dec_hi (n := n.toNat) (by omega), dec_lo (n := (n % 10).toNat) (by omega)]
        rw [show (n / 10).toNat = n.toNat / 10 by omega, show (n % 10).toNat = n.toNat % 10 by omega]
      rw [hd]
      clear hd ih h18 hle hk h
      generalize Lib.decDigits (n / 10).toNat = A at *
      generalize Lib.decDigits (n % 10).toNat = B at *
      have K1 := Lib.hid H1
      have K2 := Lib.hid H2
      clear H1 H2
      go_enter Tryd.func41, Tryd.ntmps41
      go_wp2_with fail
      refine K1.out.mono ?_
      rintro e w' ⟨rfl, rfl⟩
      go_wp2_with fail
      refine K2.out.mono ?_
      rintro e w' ⟨rfl, rfl⟩
      go_wp2
      go_ret
      exact ⟨congrArg (fun s => Ending.returned (.string s)) (ba_ext (by simp)), rfl⟩

theorem ba_app (a b : List UInt8) : (⟨a.toArray⟩ : ByteArray) ++ ⟨b.toArray⟩ = ⟨(a ++ b).toArray⟩ := ba_ext (by simp)

set_option maxHeartbeats 400000 in
theorem refLetters_lo (n : Int) (w : World) (h0 : 0 ≤ n) (h1 : n < 26) :
    Calls Tryd.prog 40 #[.int .i64 n] w fun e w' => e = .returned (.string ⟨(colS n.toNat).toArray⟩) ∧ w' = w := by
  obtain ⟨n, rfl⟩ := Int.eq_ofNat_of_zero_le h0
  rw [Int.toNat_natCast, colS_lo (by omega)]
  have hc := let_cut n (by omega)
  go_enter Tryd.func40, Tryd.ntmps40
  go_wp2
  go_ret
  exact ⟨by simp, rfl⟩

set_option maxHeartbeats 1000000 in
theorem refLetters_any (n : Int) (w : World) (h0 : 0 ≤ n) (h1 : n < 64) :
    Calls Tryd.prog 40 #[.int .i64 n] w fun e w' => e = .returned (.string ⟨(colS n.toNat).toArray⟩) ∧ ∃ q, w' = w.drewN q := by
  by_cases hlt : n < 26
  · exact (refLetters_lo n w h0 hlt).mono fun e w' ⟨h, h2⟩ => ⟨h, 0, h2⟩
  · obtain ⟨n, rfl⟩ := Int.eq_ofNat_of_zero_le h0
    have H1 := fun W => refLetters_lo ((n : Int) / 26 - 1) W (by omega) (by omega)
    have hc := let_cut (n % 26) (by omega)
    rw [Int.toNat_natCast, colS_hi (n := n) (by omega)]
    rw [show ((n : Int) / 26 - 1).toNat = n / 26 - 1 by omega] at H1
    have hl : (colS (n / 26 - 1)).length = 1 := by rw [colS_lo (by omega)]; rfl
    generalize colS (n / 26 - 1) = A at *
    have HL := Lib.hid hl
    have hl1 : A.length ≤ 1 := by omega
    clear hl
    have K1 := Lib.hid H1
    clear H1
    have c1 : (0 : Int) ≤ (n : Int) % 26 := by omega
    have c2 : (n : Int) % 26 ≤ 25 := by omega
    have c3 : ((n : Int) % 26).toNat = n % 26 := by omega
    have c4 : ((n : Int) % 26 + 1).toNat = n % 26 + 1 := by omega
    have c5 : IntKind.i64.wrap ((n : Int) % 26 + 1) = (n : Int) % 26 + 1 := IntWalk.i64_in _ (by omega)
    have c6 : IntKind.i64.wrap ((n : Int) / 26 - 1) = (n : Int) / 26 - 1 := IntWalk.i64_in _ (by omega)
    go_enter Tryd.func40, Tryd.ntmps40
    go_wp2_with fail
    go_quiet ((go_at_call 40; exact Calls.quiet_of_same (K1.out _)))
    go_wp2
    go_ret
    exact ⟨congrArg (fun s => Ending.returned (.string s)) (ba_ext (by simp)), _, rfl⟩
end Go.Proofs.YtacakmlkaikabaaDoor

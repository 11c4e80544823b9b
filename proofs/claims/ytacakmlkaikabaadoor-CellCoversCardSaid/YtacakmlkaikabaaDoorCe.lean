/- cell.mark and cell.name, walked. -/
import Derived.Test.YtacakmlkaikabaaDoorCa
import Derived.Test.YtacakmlkaikabaaDoorPa
import Derived.Lib.ItoaNum
namespace Go.Proofs.YtacakmlkaikabaaDoor
open Go.RowKit

def colS (n : Nat) : List UInt8 := if _h : n < 26 then [UInt8.ofNat (65 + n)] else colS (n / 26 - 1) ++ [UInt8.ofNat (65 + n % 26)]
termination_by n
decreasing_by omega
theorem colS_lo {n : Nat} (h : n < 26) : colS n = [UInt8.ofNat (65 + n)] := by rw [colS, dif_pos h]
theorem colS_hi {n : Nat} (h : ¬ n < 26) : colS n = colS (n / 26 - 1) ++ [UInt8.ofNat (65 + n % 26)] := by rw [colS, dif_neg h]

theorem enc_let (m : Int) (h0 : 0 ≤ m) (h1 : m < 26) : Utf8.encode (65 + m) = ⟨#[UInt8.ofNat (65 + m.toNat)]⟩ := by
  obtain ⟨k, rfl⟩ := Int.eq_ofNat_of_zero_le h0
  have hk : k < 26 := by omega
  have : ∀ k : Fin 26, Utf8.encode (65 + ((k : Nat) : Int)) = ⟨#[UInt8.ofNat (65 + (k : Nat))]⟩ := by decide
  exact this ⟨k, hk⟩

set_option maxHeartbeats 400000 in
theorem mark_any (b : Bool) (w : World) :
    Calls Tryd.prog 37 #[.bool b] w fun e w' => e = .returned (.string ⟨(if b = true then [36] else [] : List UInt8).toArray⟩) ∧ w' = w := by
  cases b <;>
  (go_enter Tryd.func37, Tryd.ntmps37
   go_wp2
   go_ret
   exact ⟨rfl, rfl⟩)

theorem ba_cons (c : UInt8) (l : List UInt8) : (⟨#[c]⟩ : ByteArray) ++ ⟨l.toArray⟩ = ⟨(c :: l).toArray⟩ := by
  apply ba_ext; simp

set_option maxHeartbeats 400000 in
theorem name_any (n : Int) (w : World) (h0 : 0 ≤ n) (h1 : n < 64) :
    Calls Tryd.prog 38 #[.int .i64 n] w fun e w' => e = .returned (.string ⟨(colS n.toNat).toArray⟩) ∧ w' = w := by
  obtain ⟨L, hL⟩ : ∃ L, colS n.toNat = L := ⟨_, rfl⟩
  rw [hL]
  have HL := Lib.hid hL
  clear hL
  go_enter Tryd.func38, Tryd.ntmps38
  go_wp2
  go_loop [0, 3] (fun a s => ∃ (m : Int) (l : List UInt8), a = .int .i64 m ∧ s = .string ⟨l.toArray⟩ ∧ -1 ≤ m ∧ m < 64 ∧ (26 ≤ m → l = []) ∧ (0 ≤ m → l.length ≤ 1) ∧ (m = -1 → l = L) ∧ (0 ≤ m → colS m.toNat ++ l = L)) (fun a _ => (intOf a + 1).toNat)
  case atStart => exact ⟨n, [], rfl, rfl, by omega, by omega, fun _ => rfl, fun _ => by simp, fun h => by omega, fun _ => by rw [List.append_nil, HL.out]⟩
  case round =>
    obtain ⟨m, l, rfl, rfl, m0, m1, g1, g2, g3, g4⟩ := hrel
    by_cases hm : 0 ≤ m
    · have e1 := enc_let (m % 26) (by omega) (by omega)
      have G1 := Lib.hid g1
      have G2 := Lib.hid g2
      have G4 := Lib.hid g4
      clear g1 g2 g3 g4
      have hsz : l.length ≤ 1 := G2.out hm
      go_wp2
      go_round
      case rel =>
        refine ⟨m / 26 - 1, UInt8.ofNat (65 + (m % 26).toNat) :: l, rfl, congrArg Value.string (by apply ba_ext; simp), by omega, by omega, fun h => by omega, fun h => ?_, fun h => ?_, fun h => ?_⟩
        · rw [G1.out (by omega)]; simp
        · rw [← G4.out hm, colS_lo (by omega)]
          have : (m % 26).toNat = m.toNat := by omega
          rw [this]; rfl
        · rw [← G4.out hm, colS_hi (n := m.toNat) (by omega)]
          have h1 : (m / 26 - 1).toNat = m.toNat / 26 - 1 := by omega
          have h2 : (m % 26).toNat = m.toNat % 26 := by omega
          rw [h1, h2, List.append_assoc]; rfl
      case measure => simp [intOf]; omega
    · have hl := g3 (by omega)
      subst hl
      clear g1 g2 g3 g4
      go_wp2
      go_ret
      exact ⟨rfl, rfl⟩
end Go.Proofs.YtacakmlkaikabaaDoor

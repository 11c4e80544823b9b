/- Capital letters: plain. -/
import Derived.WalkKit
namespace Go.Proofs.YtacakmlkaikabaaDoor

def up (b : UInt8) : UInt8 := if 97 ≤ b.toNat ∧ b.toNat ≤ 122 then UInt8.ofNat (b.toNat - 32) else b
def cap (l : List UInt8) : List UInt8 := l.map up
theorem up_int (b : UInt8) : ((up b).toNat : Int) = if 97 ≤ b.toNat ∧ b.toNat ≤ 122 then (b.toNat : Int) - 32 else b.toNat := by
  have hb := b.toNat_lt
  unfold up
  split
  · rw [UInt8.toNat_ofNat']; omega
  · rfl
def capV (l : List UInt8) : List Value := (cap l).map (fun x => .int .u8 x.toNat)
theorem capV_snoc (l : List UInt8) (b : UInt8) : capV (l ++ [b]) = capV l ++ [.int .u8 (up b).toNat] := by simp [capV, cap]
theorem capV_len (l : List UInt8) : (capV l).length = l.length := by simp [capV, cap]
end Go.Proofs.YtacakmlkaikabaaDoor

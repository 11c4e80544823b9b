/- law.capital, walked at every text of at most 1000 bytes. -/
import Derived.Test.YtacakmlkaikabaaDoorUp
import Derived.Test.YtacakmlkaikabaaDoorEa
import Derived.Laws.IdiomStrings
import Derived.OwnWalk
namespace Go.Proofs.YtacakmlkaikabaaDoor
set_option linter.unusedVariables false
open Go.RowKit

theorem info5 : (Tryd.prog.info? 5).map (fun i => (i.zero, i.size, i.bytes)) = some (some (.int .u8 0), 1, 1) := by kernel_rfl
theorem cell_one_new (w : World) (a : Value) (t : TypeId) : ∀ j u, [a][j]? = some u → (w.alloc (.cells #[a] t)).cell? ((⟨w.heap.size, 0, none⟩ : Addr).add j) = some u := by
  intro j u hj
  have h := blk_cell (blk_new w (.cells #[a] t)) j
  have e : ((⟨w.heap.size, 0, none⟩ : Addr).add j) = ⟨w.heap.size, j, none⟩ := by
    unfold Addr.add
    split
    · next h0 => simp_all
    · simp
  rw [e, h, ← hj]
  simp [← Array.getElem?_toList]

theorem take_snoc' (s : ByteArray) (k : Nat) (h : k < s.size) : s.data.toList.take (k + 1) = s.data.toList.take k ++ [s[k]] := by
  rw [List.take_succ_eq_append_getElem (by simpa using h)]; rfl

set_option maxHeartbeats 4000000 in
set_option maxRecDepth 100000 in
theorem capital_any (s : ByteArray) (hs : s.size ≤ 1000) (w : World) :
    Calls Tryd.prog 21 #[.string s] w fun e w' => e = .returned (.string ⟨(cap s.data.toList).toArray⟩) ∧ Below w.heap.size w w' := by
  obtain ⟨i0, hi, hz0, hz1, hz2⟩ := info_parts info5
  go_enter Tryd.func21, Tryd.ntmps21
  go_wp2_with fail
  go_loopw [3, 4, 5] (fun b i c wr => ∃ k : Nat, k ≤ s.size ∧ i = .int .i64 k ∧ wr.ownsRow w.heap.size 5 1 b k (capV (s.data.toList.take k)) ∧ Below w.heap.size w wr) (fun _ i _ _ => s.size - (intOf i).toNat)
  case atStart => exact ⟨0, Nat.zero_le _, rfl, World.ownsRow_nil _ _ _ _, Below.refl _ _⟩
  case round =>
    obtain ⟨k, hk, rfl, hrow, hW⟩ := hrel
    by_cases hlt : k < s.size
    · have hsn := capV_snoc (s.data.toList.take k) s[k]
      rw [← take_snoc' s k hlt] at hsn
      obtain ⟨x, hx⟩ : ∃ x, s[k]'hlt = x := ⟨_, rfl⟩
      rw [hx] at hsn
      have hup := up_int x
      have i1 : (k : Int) < (s.size : Int) := by omega
      have HS := Lib.hid hsn
      have HU := Lib.hid hup
      clear hsn hup
      have hxx := x.toNat_lt
      by_cases h1 : 97 ≤ x.toNat ∧ x.toNat ≤ 122
      · have hu : ((up x).toNat : Int) = (x.toNat : Int) - 32 := by rw [HU.out, if_pos h1]
        obtain ⟨c1, c2⟩ := h1
        have HV := Lib.hid hu
        clear HU hu
        go_wp2_with (at_builtin; refine wpList_append_own _ rfl _ _ 61 rfl w.heap.size 5 i0 (.int .u8 0) 1 1 Tryd.underlying61 hi hz0 hz1 hz2 rfl (by decide) _ k (capV (s.data.toList.take k)) rfl (hrow.alloc _) ⟨wr.heap.size, 0, none⟩ 1 1 [.int .u8 ((x.toNat : Int) - 32)] rfl rfl (cell_one_new _ _ _) (by simp [Value.oneCell']) (by show _ ≤ 9223372036854775807; omega) (by omega) (by have := hW.size; simp; omega) ?_; intro v' w1 hown' hgrow _)
        have hW1 : Below w.heap.size w w1 := Below.grown (hW.alloc hW.size _) hgrow (by have := hW.size; simp; omega) (fun g hg => (hrow.lt g hg).1)
        go_roundw
        case rel => exact ⟨k + 1, by omega, by go_num, by rw [HS.out, HV.out]; exact hown', hW1⟩
        case measure => simp [intOf]; omega
      · have hu : ((up x).toNat : Int) = (x.toNat : Int) := by rw [HU.out, if_neg h1]
        have HV := Lib.hid hu
        clear HU hu
        by_cases c1 : 97 ≤ x.toNat
        · have c2 : 122 < x.toNat := by omega
          clear h1
          go_wp2_with (at_builtin; refine wpList_append_own _ rfl _ _ 61 rfl w.heap.size 5 i0 (.int .u8 0) 1 1 Tryd.underlying61 hi hz0 hz1 hz2 rfl (by decide) _ k (capV (s.data.toList.take k)) rfl (hrow.alloc _) ⟨wr.heap.size, 0, none⟩ 1 1 [.int .u8 (x.toNat : Int)] rfl rfl (cell_one_new _ _ _) (by simp [Value.oneCell']) (by show _ ≤ 9223372036854775807; omega) (by omega) (by have := hW.size; simp; omega) ?_; intro v' w1 hown' hgrow _)
          have hW1 : Below w.heap.size w w1 := Below.grown (hW.alloc hW.size _) hgrow (by have := hW.size; simp; omega) (fun g hg => (hrow.lt g hg).1)
          go_roundw
          case rel => exact ⟨k + 1, by omega, by go_num, by rw [HS.out, HV.out]; exact hown', hW1⟩
          case measure => simp [intOf]; omega
        · clear h1
          go_wp2_with (at_builtin; refine wpList_append_own _ rfl _ _ 61 rfl w.heap.size 5 i0 (.int .u8 0) 1 1 Tryd.underlying61 hi hz0 hz1 hz2 rfl (by decide) _ k (capV (s.data.toList.take k)) rfl (hrow.alloc _) ⟨wr.heap.size, 0, none⟩ 1 1 [.int .u8 (x.toNat : Int)] rfl rfl (cell_one_new _ _ _) (by simp [Value.oneCell']) (by show _ ≤ 9223372036854775807; omega) (by omega) (by have := hW.size; simp; omega) ?_; intro v' w1 hown' hgrow _)
          have hW1 : Below w.heap.size w w1 := Below.grown (hW.alloc hW.size _) hgrow (by have := hW.size; simp; omega) (fun g hg => (hrow.lt g hg).1)
          go_roundw
          case rel => exact ⟨k + 1, by omega, by go_num, by rw [HS.out, HV.out]; exact hown', hW1⟩
          case measure => simp [intOf]; omega
    · obtain rfl : k = s.size := by omega
      rw [List.take_of_length_le (by simp)] at hrow
      have hcl : (cap s.data.toList).length = s.size := by simp [cap]
      rcases hrow.2 with ⟨rfl, h0⟩ | ⟨g, cp, cur, rfl, hr⟩
      · have hcap : (⟨(cap s.data.toList).toArray⟩ : ByteArray) = ByteArray.empty := by
          have : cap s.data.toList = [] := List.length_eq_zero_iff.1 (by omega)
          rw [this]; rfl
        have hconv := run_convert_bytes_nil (P := Tryd.prog) wr 61 5 Tryd.underlying61 (by kernel_rfl) 0 0 9 (by kernel_rfl)
        rw [← hcap] at hconv
        clear hcap hcl h0
        go_wp2_with fail
        go_ret
        exact ⟨rfl, hW⟩
      · have hconv := run_convert_bytes_back (P := Tryd.prog) wr 61 9 5 ⟨g, 0, none⟩ cp (cap s.data.toList) Tryd.underlying61 (by kernel_rfl) (by kernel_rfl) (fun j hj => by
          have h1 := hrow.cellAt j (by omega)
          have e : ((⟨g, 0, none⟩ : Addr).add j) = ⟨g, j, none⟩ := by
            unfold Addr.add
            split
            · next h0 => simp_all
            · simp
          rw [e, h1, capV]
          simp [hj])
        rw [hcl] at hconv
        clear hr hcl
        go_wp2_with fail
        go_ret
        exact ⟨rfl, hW⟩
end Go.Proofs.YtacakmlkaikabaaDoor

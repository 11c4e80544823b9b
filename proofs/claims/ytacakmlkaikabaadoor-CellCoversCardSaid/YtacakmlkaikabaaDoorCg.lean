/- cell.Print and its reference, walked; strconv.Itoa by the shelf's contract, its table laid. -/
import Derived.Test.YtacakmlkaikabaaDoorCf
import Derived.Test.YtacakmlkaikabaaDoorCb
import Derived.Test.YtacakmlkaikabaaDoorBase
import Derived.Test.YtacakmlkaikabaaDoorShelf
import Derived.Deep.RegionHeld3
namespace Go.Proofs.YtacakmlkaikabaaDoor
open Go.RowKit

theorem var_stay {P : Program} {n : String} {cs : Array Value} {w w' : World} (hv : w.var? P n = some cs) (hb : Below w.heap.size w w') : w'.var? P n = some cs := by
  unfold World.var? at *
  cases hg : P.globalNamed n with
  | none => simp [hg] at hv
  | some g =>
    simp only [hg, Option.bind_some] at hv ⊢
    have hlt : g < w.heap.size := by
      rcases Nat.lt_or_ge g w.heap.size with h | h
      · exact h
      · simp [Array.getElem?_eq_none h] at hv
    rw [hb.block g hlt]
    exact hv
theorem keepc {W w1 : World} (hb : Below W.heap.size W w1) {a : Addr} {v : Value} (h : W.cell? a = some v) : w1.cell? a = some v :=
  (hb.cell (World.block_lt_of_cell? _ _ h)).trans h

/-- The table of powers of ten stands as the program's text lays it. -/
def HT (w : World) : Prop := Lib.TabIs Tryd.prog w "internal/strconv.uint64pow10" .u64 Lib.pow10Tab
theorem HT.stay {w w' : World} (h : HT w) (hb : Below w.heap.size w w') : HT w' := var_stay h hb

theorem itoa_any (n : Int) (h0 : 0 ≤ n) (h1 : n ≤ 9223372036854775807) (w : World) (ht : HT w) :
    Calls Tryd.prog 39 #[.int .i64 n] w fun e w' => e = .returned (.string ⟨(Lib.decDigits n.toNat).toArray⟩) ∧ Below w.heap.size w w' := by
  refine (Tryd.strconv_Itoa n (by omega) h1 w ht).mono ?_
  rintro e w' ⟨rfl, k, os, rfl⟩
  refine ⟨?_, ?_⟩
  · rw [Lib.itoa, if_neg (by omega)]
  · exact ⟨rfl, rfl, rfl, by show w.heap.size ≤ (w.heap ++ os).size; rw [Array.size_append]; omega, fun j hj => by show (w.heap ++ os)[j]? = _; exact Array.getElem?_append_left hj⟩

def printL (c r : Int) (ac ar : Bool) : List UInt8 := (if ac = true then [36] else []) ++ colS c.toNat ++ (if ar = true then [36] else []) ++ Lib.decDigits (r + 1).toNat

set_option maxHeartbeats 2000000 in
set_option maxRecDepth 100000 in
theorem print_yes (c r : Int) (ac ar : Bool) (w : World) (ht : HT w) (h : okB c r = true) :
    Calls Tryd.prog 14 #[.agg #[.int .i64 c, .int .i64 r, .bool ac, .bool ar]] w fun e w' => e = .returned (.string ⟨(printL c r ac ar).toArray⟩) ∧ Below w.heap.size w w' := by
  obtain ⟨a0, a1, a2, a3⟩ := okB_t h
  have hn := name_any c
  have hl1 : (colS c.toNat).length ≤ 2 := by
    by_cases hc : c.toNat < 26
    · rw [colS_lo hc]; simp
    · rw [colS_hi hc, colS_lo (by omega)]; simp
  have hl2 := dec_len 4 (r + 1).toNat (by omega)
  have hi := itoa_any (r + 1) (by omega) (by omega)
  obtain ⟨A, hA⟩ : ∃ A : List UInt8, (if ac = true then [36] else []) = A := ⟨_, rfl⟩
  obtain ⟨B, hB⟩ : ∃ B : List UInt8, (if ar = true then [36] else []) = B := ⟨_, rfl⟩
  have hA1 : A.length ≤ 1 := by rw [← hA]; split <;> simp
  have hB1 : B.length ≤ 1 := by rw [← hB]; split <;> simp
  have m1 := mark_any ac
  have m2 := mark_any ar
  rw [hA] at m1
  rw [hB] at m2
  have hp : printL c r ac ar = ((A ++ colS c.toNat) ++ B) ++ Lib.decDigits (r + 1).toNat := by rw [← hA, ← hB, printL]
  rw [hp]
  clear hp hA hB
  generalize colS c.toNat = C at *
  generalize Lib.decDigits (r + 1).toNat = D at *
  have M1 := Lib.hid m1
  have M2 := Lib.hid m2
  have N := Lib.hid hn
  have I := Lib.hid hi
  clear m1 m2 hn hi
  have HTT := Lib.hid ht
  clear ht
  go_enter Tryd.func14, Tryd.ntmps14
  go_wp2_with (go_at_call 12; refine (right_any _ _ _ _ _).mono ?_; rintro e w' ⟨rfl, rfl⟩)
  have B0 : Below w.heap.size w ((w.alloc (Obj.cells #[Value.int IntKind.i64 c, Value.int IntKind.i64 r, Value.bool ac, Value.bool ar] 23)).alloc (Obj.cells #[Value.int IntKind.i64 c, Value.int IntKind.i64 r, Value.bool ac, Value.bool ar] 23)) := ((Below.refl _ w).alloc (Nat.le_refl _) _).alloc (by simp) _
  have HT0 := HTT.out.stay B0
  obtain ⟨W, hW⟩ : ∃ W, W = ((w.alloc (Obj.cells #[Value.int IntKind.i64 c, Value.int IntKind.i64 r, Value.bool ac, Value.bool ar] 23)).alloc (Obj.cells #[Value.int IntKind.i64 c, Value.int IntKind.i64 r, Value.bool ac, Value.bool ar] 23)) := ⟨_, rfl⟩
  rw [← hW] at B0 HT0 ⊢
  have k0 : W.cell? ⟨w.heap.size, 0, none⟩ = some (.int .i64 c) := by rw [hW]; go_simp
  have k1 : W.cell? ⟨w.heap.size, 1, none⟩ = some (.int .i64 r) := by rw [hW]; go_simp
  have k2 : W.cell? ⟨w.heap.size, 2, none⟩ = some (.bool ac) := by rw [hW]; go_simp
  have k3 : W.cell? ⟨w.heap.size, 3, none⟩ = some (.bool ar) := by rw [hW]; go_simp
  clear hW
  have BB := Lib.hid B0
  clear B0
  have c1 : ¬ 9223372036854775807 < A.length + C.length := by omega
  have c2 : ¬ 9223372036854775807 < A.length + C.length + B.length := by omega
  have c3 : ¬ 9223372036854775807 < A.length + C.length + B.length + D.length := by omega
  have hw1 : IntKind.i64.wrap (r + 1) = r + 1 := IntWalk.i64_in _ (by omega)
  go_region_held3 (fun w' : World => (w'.cell? ⟨w.heap.size, 0, none⟩ = some (.int .i64 c) ∧ w'.cell? ⟨w.heap.size, 1, none⟩ = some (.int .i64 r) ∧ w'.cell? ⟨w.heap.size, 2, none⟩ = some (.bool ac) ∧ w'.cell? ⟨w.heap.size, 3, none⟩ = some (.bool ar)) ∧ HT w' ∧ Below w.heap.size w w') (first | exact ⟨⟨k0, k1, k2, k3⟩, HT0, BB.out.drew⟩ | assumption) (first | (go_at_call 37; first | (refine (M1.out _).mono ?_; rintro e w' ⟨rfl, rfl⟩) | (refine (M2.out _).mono ?_; rintro e w' ⟨rfl, rfl⟩)) | (go_at_call 38; refine (N.out _ (by omega) (by omega)).mono ?_; rintro e w' ⟨rfl, rfl⟩) | (go_at_call 39; have hS := ‹(_ ∧ _ ∧ _ ∧ _) ∧ HT _ ∧ Below w.heap.size w _›; refine (I.out _ hS.2.1).mono ?_; rintro e w' ⟨rfl, hb⟩; have hS' := (⟨⟨keepc hb hS.1.1, keepc hb hS.1.2.1, keepc hb hS.1.2.2.1, keepc hb hS.1.2.2.2⟩, HT.stay hS.2.1 hb, hS.2.2.trans (hb.mono hS.2.2.size)⟩ : (w'.cell? ⟨w.heap.size, 0, none⟩ = some (.int .i64 c) ∧ w'.cell? ⟨w.heap.size, 1, none⟩ = some (.int .i64 r) ∧ w'.cell? ⟨w.heap.size, 2, none⟩ = some (.bool ac) ∧ w'.cell? ⟨w.heap.size, 3, none⟩ = some (.bool ar)) ∧ HT w' ∧ Below w.heap.size w w')))
  have hS := ‹(_ ∧ _ ∧ _ ∧ _) ∧ HT _ ∧ Below w.heap.size w _›
  obtain ⟨_, _, hBz⟩ := hS
  have hBZ := Lib.hid hBz
  clear hBz
  go_wp2
  go_ret
  exact ⟨congrArg (fun s => Ending.returned (.string s)) (ba_ext (by simp)), hBZ.out⟩

set_option maxHeartbeats 1000000 in
theorem print_no (c r : Int) (ac ar : Bool) (w : World) (h : okB c r = false) :
    Calls Tryd.prog 14 #[.agg #[.int .i64 c, .int .i64 r, .bool ac, .bool ar]] w fun e w' => e = .returned (.string ⟨#[]⟩) ∧ Below w.heap.size w w' := by
  go_enter Tryd.func14, Tryd.ntmps14
  go_wp2_with (go_at_call 12; refine (right_any _ _ _ _ _).mono ?_; rintro e w' ⟨rfl, rfl⟩)
  go_ret
  exact ⟨rfl, ((Below.refl _ w).alloc (Nat.le_refl _) _).alloc (by simp) _⟩

set_option maxHeartbeats 1000000 in
theorem refPrint_no (c r : Int) (ac ar : Bool) (w : World) (h : okB c r = false) :
    Calls Tryd.prog 15 #[.agg #[.int .i64 c, .int .i64 r, .bool ac, .bool ar]] w fun e w' => e = .returned (.string ⟨#[]⟩) ∧ Below w.heap.size w w' := by
  go_enter Tryd.func15, Tryd.ntmps15
  go_wp2_with (go_at_call 13; refine (refRight_any _ _ _ _ _).mono ?_; rintro e w' ⟨rfl, rfl⟩)
  go_ret
  exact ⟨rfl, ((Below.refl _ w).alloc (Nat.le_refl _) _).alloc (by simp) _⟩

set_option maxHeartbeats 1000000 in
theorem refPrint_yes (c r : Int) (ac ar : Bool) (w : World) (h : okB c r = true) :
    Calls Tryd.prog 15 #[.agg #[.int .i64 c, .int .i64 r, .bool ac, .bool ar]] w fun e w' => e = .returned (.string ⟨(printL c r ac ar).toArray⟩) ∧ Below w.heap.size w w' := by
  obtain ⟨a0, a1, a2, a3⟩ := okB_t h
  have hn := refLetters_any c
  have hl1 : (colS c.toNat).length ≤ 2 := by
    by_cases hc : c.toNat < 26
    · rw [colS_lo hc]; simp
    · rw [colS_hi hc, colS_lo (by omega)]; simp
  have hl2 := dec_len 4 (r + 1).toNat (by omega)
  have hi := refDigits_any 4 (r + 1)
  have hp : printL c r ac ar = (if ac = true then [36] else []) ++ colS c.toNat ++ (if ar = true then [36] else []) ++ Lib.decDigits (r + 1).toNat := rfl
  rw [hp]
  clear hp
  generalize colS c.toNat = C at *
  generalize Lib.decDigits (r + 1).toNat = D at *
  have N := Lib.hid hn
  have I := Lib.hid hi
  clear hn hi
  cases ac <;> cases ar
  all_goals
    go_enter Tryd.func15, Tryd.ntmps15
    go_wp2_with (first | (go_at_call 13; refine (refRight_any _ _ _ _ _).mono ?_; rintro e w' ⟨rfl, rfl⟩) | (go_at_call 40; refine (N.out _ (by omega) (by omega)).mono ?_; rintro e w' ⟨rfl, q, rfl⟩) | (go_at_call 41; refine (I.out _ (by omega) (by omega) (by omega)).mono ?_; rintro e w' ⟨rfl, rfl⟩))
    go_ret
    refine ⟨congrArg (fun s => Ending.returned (.string s)) (ba_ext (by simp)), ?_⟩
    exact (((Below.refl _ w).alloc (Nat.le_refl _) _).alloc (by simp) _).trans ⟨rfl, rfl, rfl, Nat.le_refl _, fun _ _ => rfl⟩
end Go.Proofs.YtacakmlkaikabaaDoor

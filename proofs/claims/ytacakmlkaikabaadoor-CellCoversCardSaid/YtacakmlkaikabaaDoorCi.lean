/- cell.Parse at a text of a wrong shape, walked. -/
import Derived.Test.YtacakmlkaikabaaDoorCh
namespace Go.Proofs.YtacakmlkaikabaaDoor
set_option linter.unusedVariables false
open Go.RowKit

def badB (N Rw m4 : List UInt8) : Prop := m4 ≠ [] ∨ N = [] ∨ 3 < N.length ∨ Rw = [] ∨ 7 < Rw.length ∨ Rw.head? = some 48

set_option maxHeartbeats 2000000 in
set_option maxRecDepth 100000 in
theorem parse_bad (s : ByteArray) (n1 N m2 m3 Rw m4 : List UInt8) (a1 a2 : Bool) (w : World)
    (h31a : ∀ W, Calls Tryd.prog 31 #[.string s, .string ⟨#[36]⟩] W fun e w' => e = .returned (.tuple #[.string ⟨n1.toArray⟩, .bool a1]) ∧ w' = W)
    (h32a : ∀ W, Calls Tryd.prog 32 #[.string ⟨n1.toArray⟩, .func (.func 33) #[] #[]] W fun e w' => e = .returned (.tuple #[.string ⟨N.toArray⟩, .string ⟨m2.toArray⟩]) ∧ Below W.heap.size W w')
    (h31b : ∀ W, Calls Tryd.prog 31 #[.string ⟨m2.toArray⟩, .string ⟨#[36]⟩] W fun e w' => e = .returned (.tuple #[.string ⟨m3.toArray⟩, .bool a2]) ∧ w' = W)
    (h32b : ∀ W, Calls Tryd.prog 32 #[.string ⟨m3.toArray⟩, .func (.func 34) #[] #[]] W fun e w' => e = .returned (.tuple #[.string ⟨Rw.toArray⟩, .string ⟨m4.toArray⟩]) ∧ Below W.heap.size W w')
    (z1 : N.length ≤ 1000) (z2 : Rw.length ≤ 1000) (z3 : m4.length ≤ 1000) (hE : badB N Rw m4) :
    Calls Tryd.prog 10 #[.string s] w fun e w' => e = .returned (.tuple #[.agg #[.int .i64 0, .int .i64 0, .bool false, .bool false], .int .i64 3]) ∧ Below w.heap.size w w' := by
  have G1 := Lib.hid h31a
  have G2 := Lib.hid h32a
  have G3 := Lib.hid h31b
  have G4 := Lib.hid h32b
  clear h31a h32a h31b h32b
  go_enter Tryd.func10, Tryd.ntmps10
  go_wp2_with (go_at_call 31; refine (G1.out _).mono ?_; rintro e w' ⟨rfl, rfl⟩)
  refine (G2.out _).mono ?_
  rintro e w1 ⟨rfl, hb⟩
  have X1 : Below w.heap.size w w1 := (((Below.refl _ w).alloc (Nat.le_refl _) _).alloc (by simp) _).trans (hb.mono (by simp; omega))
  have B1 : w1.heap[w.heap.size]? = some (.cells #[.int .i64 0, .int .i64 0, .bool false, .bool false] 23 (0, 0)) := blk_keep hb (by simp only [heap_get, World.size_alloc]; repeat (first | rw [if_pos trivial] | rw [if_pos rfl] | rw [if_neg (by omega)]))
  have k10 : w1.cell? ⟨w.heap.size, 0, none⟩ = some (.int .i64 0) := blk_cell B1 0
  have k11 : w1.cell? ⟨w.heap.size, 1, none⟩ = some (.int .i64 0) := blk_cell B1 1
  have k12 : w1.cell? ⟨w.heap.size, 2, none⟩ = some (.bool false) := blk_cell B1 2
  have k13 : w1.cell? ⟨w.heap.size, 3, none⟩ = some (.bool false) := blk_cell B1 3
  have f10 : w1.frozen? ⟨w.heap.size, 0, none⟩ = false := blk_free B1 0
  have f11 : w1.frozen? ⟨w.heap.size, 1, none⟩ = false := blk_free B1 1
  have f12 : w1.frozen? ⟨w.heap.size, 2, none⟩ = false := blk_free B1 2
  have f13 : w1.frozen? ⟨w.heap.size, 3, none⟩ = false := blk_free B1 3
  have z1_ : w.heap.size < w1.heap.size := blk_lt B1
  have H1 := Lib.hid B1
  clear B1
  have B2 : w1.heap[w.heap.size + 1]? = some (.cells #[.int .i64 0, .int .i64 0, .bool a1, .bool false] 23 (0, 0)) := blk_keep hb (by simp only [heap_get, World.size_alloc]; repeat (first | rw [if_pos trivial] | rw [if_pos rfl] | rw [if_neg (by omega)]))
  have k20 : w1.cell? ⟨w.heap.size + 1, 0, none⟩ = some (.int .i64 0) := blk_cell B2 0
  have k21 : w1.cell? ⟨w.heap.size + 1, 1, none⟩ = some (.int .i64 0) := blk_cell B2 1
  have k22 : w1.cell? ⟨w.heap.size + 1, 2, none⟩ = some (.bool a1) := blk_cell B2 2
  have k23 : w1.cell? ⟨w.heap.size + 1, 3, none⟩ = some (.bool false) := blk_cell B2 3
  have f20 : w1.frozen? ⟨w.heap.size + 1, 0, none⟩ = false := blk_free B2 0
  have f21 : w1.frozen? ⟨w.heap.size + 1, 1, none⟩ = false := blk_free B2 1
  have f22 : w1.frozen? ⟨w.heap.size + 1, 2, none⟩ = false := blk_free B2 2
  have f23 : w1.frozen? ⟨w.heap.size + 1, 3, none⟩ = false := blk_free B2 3
  have z2_ : w.heap.size + 1 < w1.heap.size := blk_lt B2
  have H2 := Lib.hid B2
  clear B2
  have Y1 := Lib.hid X1
  clear X1 hb
  dsimp only
  go_wp2_with (go_at_call 31; refine (G3.out _).mono ?_; rintro e w' ⟨rfl, rfl⟩)
  refine (G4.out _).mono ?_
  rintro e w2 ⟨rfl, hb⟩
  have X2 : Below w.heap.size w w2 := (Y1.out.setCell (p := ⟨w.heap.size + 1, 3, none⟩) (by simp) _).trans (hb.mono (by simp; exact Y1.out.size))
  have B3 : w2.heap[w.heap.size]? = some (.cells #[.int .i64 0, .int .i64 0, .bool false, .bool false] 23 (0, 0)) := blk_keep hb (blk_far H1.out (by simp) _)
  have k30 : w2.cell? ⟨w.heap.size, 0, none⟩ = some (.int .i64 0) := blk_cell B3 0
  have k31 : w2.cell? ⟨w.heap.size, 1, none⟩ = some (.int .i64 0) := blk_cell B3 1
  have k32 : w2.cell? ⟨w.heap.size, 2, none⟩ = some (.bool false) := blk_cell B3 2
  have k33 : w2.cell? ⟨w.heap.size, 3, none⟩ = some (.bool false) := blk_cell B3 3
  have f30 : w2.frozen? ⟨w.heap.size, 0, none⟩ = false := blk_free B3 0
  have f31 : w2.frozen? ⟨w.heap.size, 1, none⟩ = false := blk_free B3 1
  have f32 : w2.frozen? ⟨w.heap.size, 2, none⟩ = false := blk_free B3 2
  have f33 : w2.frozen? ⟨w.heap.size, 3, none⟩ = false := blk_free B3 3
  have z3_ : w.heap.size < w2.heap.size := blk_lt B3
  have H3 := Lib.hid B3
  clear B3
  have B4 : w2.heap[w.heap.size + 1]? = some (.cells #[.int .i64 0, .int .i64 0, .bool a1, .bool a2] 23 (0, 0)) := blk_keep hb (by simpa using blk_set H2.out 3 (.bool a2))
  have k40 : w2.cell? ⟨w.heap.size + 1, 0, none⟩ = some (.int .i64 0) := blk_cell B4 0
  have k41 : w2.cell? ⟨w.heap.size + 1, 1, none⟩ = some (.int .i64 0) := blk_cell B4 1
  have k42 : w2.cell? ⟨w.heap.size + 1, 2, none⟩ = some (.bool a1) := blk_cell B4 2
  have k43 : w2.cell? ⟨w.heap.size + 1, 3, none⟩ = some (.bool a2) := blk_cell B4 3
  have f40 : w2.frozen? ⟨w.heap.size + 1, 0, none⟩ = false := blk_free B4 0
  have f41 : w2.frozen? ⟨w.heap.size + 1, 1, none⟩ = false := blk_free B4 1
  have f42 : w2.frozen? ⟨w.heap.size + 1, 2, none⟩ = false := blk_free B4 2
  have f43 : w2.frozen? ⟨w.heap.size + 1, 3, none⟩ = false := blk_free B4 3
  have z4_ : w.heap.size + 1 < w2.heap.size := blk_lt B4
  have H4 := Lib.hid B4
  clear B4
  have Y2 := Lib.hid X2
  clear X2 hb k10 k11 k12 k13 k20 k21 k22 k23 f10 f11 f12 f13 f20 f21 f22 f23 H1 H2 Y1 G1 G2 G3 G4
  dsimp only
  go_wp2_with fail
  case isFalse =>
    have q1 : ¬ Rw = [] := by assumption
    have q2 : ¬ 0 < Rw.length := by assumption
    exact absurd (List.length_pos_iff.2 q1) q2
  all_goals first
    | (refine bodyPost_ret (v := .tuple #[.agg #[.int .i64 0, .int .i64 0, .bool false, .bool false], .int .i64 3]) (by simp [results, Tryd.results10, go_sem, k30, k31, k32, k33]; done) rfl ⟨rfl, ?_⟩
       repeat' (first | (with_reducible exact Y2.out) | (with_reducible refine Below.setCell ?_ (by simp) _)))
    | (exfalso
       have q0 : m4 = [] := by assumption
       have q1 : ¬ N = [] := by assumption
       have q2 : (N.length : Int) ≤ 3 := by assumption
       have q3 : ¬ Rw = [] := by assumption
       have q4 : (Rw.length : Int) ≤ 7 := by assumption
       have q5 : 0 < Rw.length := by assumption
       have q6 := ‹((((_ ∧ _) ∧ _) ∧ _) ∧ _)›
       cases Rw with
       | nil => exact q3 rfl
       | cons b R =>
         have q7 : ((b.toNat : Int) == 48) = false := q6.2
         rcases hE with h | h | h | h | h | h
         · exact h q0
         · exact q1 h
         · omega
         · exact q3 h
         · omega
         · simp at h
           subst h
           exact absurd q7 (by decide))
end Go.Proofs.YtacakmlkaikabaaDoor

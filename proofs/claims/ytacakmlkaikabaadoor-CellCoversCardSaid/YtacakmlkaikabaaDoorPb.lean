/- Plain facts on a reference's text: its parts by places. -/
import Derived.Test.YtacakmlkaikabaaDoorCj
import Derived.Test.YtacakmlkaikabaaDoorCc
import Derived.Test.YtacakmlkaikabaaDoorCi
namespace Go.Proofs.YtacakmlkaikabaaDoor
set_option linter.unusedVariables false
open Go.RowKit

def badV : Value := .tuple #[.agg #[.int .i64 0, .int .i64 0, .bool false, .bool false], .int .i64 3]
def shapeB (L : List UInt8) : Bool := decide (l4 L = []) && decide (nm L ≠ []) && decide ((nm L).length ≤ 3) && decide (rw_ L ≠ []) && decide ((rw_ L).length ≤ 7) && decide ((rw_ L).head? ≠ some 48)
def parseV (L : List UInt8) : Value := if shapeB L = true then goodV (colV (nm L)) (dgn (rw_ L)) (dol L) (dol (l2 L)) else badV

theorem shapeB_t {L : List UInt8} (h : shapeB L = true) : l4 L = [] ∧ nm L ≠ [] ∧ (nm L).length ≤ 3 ∧ rw_ L ≠ [] ∧ (rw_ L).length ≤ 7 ∧ (rw_ L).head? ≠ some 48 := by
  simp only [shapeB, Bool.and_eq_true, decide_eq_true_eq] at h
  obtain ⟨⟨⟨⟨⟨a, b⟩, c⟩, d⟩, e⟩, f⟩ := h
  exact ⟨a, b, c, d, e, f⟩
theorem shapeB_mk {L : List UInt8} (h1 : l4 L = []) (h2 : nm L ≠ []) (h3 : (nm L).length ≤ 3) (h4 : rw_ L ≠ []) (h5 : (rw_ L).length ≤ 7) (h6 : (rw_ L).head? ≠ some 48) : shapeB L = true := by
  simp only [shapeB, Bool.and_eq_true, decide_eq_true_eq]
  exact ⟨⟨⟨⟨⟨h1, h2⟩, h3⟩, h4⟩, h5⟩, h6⟩

theorem bad_of {L : List UInt8} (h : shapeB L = false) : badB (nm L) (rw_ L) (l4 L) := by
  unfold badB
  apply Classical.byContradiction
  intro hn
  simp only [not_or, Nat.not_lt, Classical.not_not] at hn
  obtain ⟨h1, h2, h3, h4, h5, h6⟩ := hn
  rw [shapeB_mk h1 h2 h3 h4 h5 h6] at h
  cases h

/-! Where the parts stand. -/
def o1 (L : List UInt8) : Nat := (dol L).toNat
theorem und_drop (L : List UInt8) : und L = L.drop (dol L).toNat := by
  cases L with
  | nil => rfl
  | cons b t =>
    cases h : b == 36
    · simp [und, dol, h]
    · simp [und, dol, h]
theorem nm_append (L : List UInt8) : und L = nm L ++ l2 L := (List.takeWhile_append_dropWhile).symm
theorem rw_append (L : List UInt8) : l3 L = rw_ L ++ l4 L := (List.takeWhile_append_dropWhile).symm
theorem nm_isL (L : List UInt8) : ∀ x ∈ nm L, isL x = true := fun x h => List.all_eq_true.1 List.all_takeWhile x h
theorem rw_isD (L : List UInt8) : ∀ x ∈ rw_ L, isD x = true := fun x h => List.all_eq_true.1 List.all_takeWhile x h
theorem dropWhile_head (p : UInt8 → Bool) (l : List UInt8) (b : UInt8) (t : List UInt8) (h : l.dropWhile p = b :: t) : p b = false := by
  induction l with
  | nil => simp at h
  | cons a l ih =>
    rw [List.dropWhile_cons] at h
    split at h
    · exact ih h
    · rename_i hp
      simp only [List.cons.injEq] at h
      rw [← h.1]; simpa using hp

/-! cell.Parse, whole. -/
theorem parse_any (s : ByteArray) (hs : s.size ≤ 1000) (w : World) :
    Calls Tryd.prog 10 #[.string s] w fun e w' => e = .returned (parseV s.data.toList) ∧ Below w.heap.size w w' := by
  obtain ⟨L, hL⟩ : ∃ L, s.data.toList = L := ⟨_, rfl⟩
  have hlen : L.length ≤ 1000 := by rw [← hL]; simpa using hs
  have e1 : (und L).length ≤ 1000 := by rw [und_drop, List.length_drop]; omega
  have e2 := congrArg List.length (nm_append L)
  rw [List.length_append] at e2
  have e3 : (l3 L).length ≤ 1000 := by show (und (l2 L)).length ≤ 1000; rw [und_drop, List.length_drop]; omega
  have e4 := congrArg List.length (rw_append L)
  rw [List.length_append] at e4
  have c1 : ∀ W, Calls Tryd.prog 31 #[.string s, .string ⟨#[36]⟩] W fun e w' => e = .returned (.tuple #[.string ⟨(und L).toArray⟩, .bool (dol L)]) ∧ w' = W := fun W => by rw [← hL]; exact cutp_any s W
  have c2 : ∀ W, Calls Tryd.prog 32 #[.string ⟨(und L).toArray⟩, .func (.func 33) #[] #[]] W fun e w' => e = .returned (.tuple #[.string ⟨(nm L).toArray⟩, .string ⟨(l2 L).toArray⟩]) ∧ Below W.heap.size W w' := fun W => cutL_any ⟨(und L).toArray⟩ W (by show (und L).toArray.size ≤ _; simp; omega)
  have c3 : ∀ W, Calls Tryd.prog 31 #[.string ⟨(l2 L).toArray⟩, .string ⟨#[36]⟩] W fun e w' => e = .returned (.tuple #[.string ⟨(l3 L).toArray⟩, .bool (dol (l2 L))]) ∧ w' = W := fun W => cutp_any ⟨(l2 L).toArray⟩ W
  have c4 : ∀ W, Calls Tryd.prog 32 #[.string ⟨(l3 L).toArray⟩, .func (.func 34) #[] #[]] W fun e w' => e = .returned (.tuple #[.string ⟨(rw_ L).toArray⟩, .string ⟨(l4 L).toArray⟩]) ∧ Below W.heap.size W w' := fun W => cutD_any ⟨(l3 L).toArray⟩ W (by show (l3 L).toArray.size ≤ _; simp; omega)
  rw [hL]
  cases h : shapeB L with
  | false =>
    have e : parseV L = badV := by simp [parseV, h]
    rw [e]
    exact parse_bad s (und L) (nm L) (l2 L) (l3 L) (rw_ L) (l4 L) (dol L) (dol (l2 L)) w c1 c2 c3 c4 (by omega) (by omega) (by omega) (bad_of h)
  | true =>
    obtain ⟨g1, g2, g3, g4, g5, g6⟩ := shapeB_t h
    have e : parseV L = goodV (colV (nm L)) (dgn (rw_ L)) (dol L) (dol (l2 L)) := by simp [parseV, h]
    rw [e]
    rw [g1] at c4
    obtain ⟨b0, R0, hR⟩ : ∃ b0 R0, rw_ L = b0 :: R0 := by
      cases hc : rw_ L with
      | nil => exact absurd hc g4
      | cons b r => exact ⟨b, r, rfl⟩
    have hb : ((b0.toNat : Int) == 48) = false := by
      rw [beq_eq_false_iff_ne]
      intro hh
      apply g6
      rw [hR]
      have : b0 = 48 := UInt8.toNat_inj.1 (by show b0.toNat = 48; omega)
      rw [this]; rfl
    exact parse_good s (und L) (nm L) (l2 L) (l3 L) (rw_ L) (dol L) (dol (l2 L)) w c1 c2 c3 c4 g3 g2 (nm_isL L) b0 R0 hR (by rw [hR] at g5; simpa using g5) hb (dgn (rw_ L)) (dgn_lt7 _ g5 (rw_isD L)) (fun W => atoiD (rw_ L) g4 g5 (rw_isD L) W)
end Go.Proofs.YtacakmlkaikabaaDoor

/- What every row of the seat shares: the start in which the listed variables lie; the table out of the condition; a reference opened and shut as a datum. -/
import Derived.Test.YtacakmlkaikabaaDoorRows
import Derived.Test.YtacakmlkaikabaaDoorCg
import Derived.WalkKit
import Derived.ProofKit
import Derived.OpenShut
import Derived.ShutString
import Derived.ChangeOld
import Derived.Below
import Derived.SizedLaws
import Derived.LaidMore
import Derived.Lib.SmallJoins
import Derived.Lib.LaidTab
import Derived.Stop.Joined
import Derived.Stop.LaidErr
namespace Go.Proofs.YtacakmlkaikabaaDoor
open Go.ChangeShapes Go.WideShapes Go.ChangeAt Go.RowKit Go.Joins
set_option linter.unusedVariables false
set_option maxRecDepth 100000

theorem own : ownKnob Tryd.prog.godebug = none := by kernel_rfl
abbrev laid5 : List (String × DataW Unit) := [("math/bits.deBruijn32tab", Rows.laid_math_bits_deBruijn32tab), ("math/bits.deBruijn64tab", Rows.laid_math_bits_deBruijn64tab), ("internal/strconv.uint64pow10", Rows.laid_internal_strconv_uint64pow10), ("strconv.ErrRange", Rows.laid_strconv_ErrRange), ("strconv.ErrSyntax", Rows.laid_strconv_ErrSyntax)]

theorem door_met (os : Os) (args : Array Value) : laidMetH Tryd.prog laid5 ((World.doorLaid Tryd.prog 62 os).forCall (fun _ _ => 0) ⟨#[], args, []⟩).memory :=
  laidMetH_of_parts3 (fuel := 8) (laidMet_of_run' 8 (by kernel_rfl) (by kernel_rfl)) (by kernel_rfl) (by kernel_rfl)

theorem gP : Tryd.prog.globalNamed "internal/strconv.uint64pow10" = some 2 := by kernel_rfl
theorem gPT : (Tryd.prog.globals[2]?).map (·.type) = some 102 := by kernel_rfl
theorem of_laid {W : World} (h : laidMetH Tryd.prog laid5 W) : HT W :=
  Lib.tabIs_of_head gP gPT Tryd.underlying102 Tryd.underlying82 (by kernel_rfl) (by kernel_rfl) (laidMet.tail (laidMet.tail h))

section
variable {H : Type} {enc : TypeId × Value → H} {P : Program} {w : World} {base : Nat} {sp : Nat → Bool} {held : Bool}
theorem int_of_trod {fuel : Nat} {t : TypeId} {k : IntKind} {c : Value} {y : DataW H × List MemPlace} (ht : P.underlying t = some (.int k)) (h : DataW.trod enc P w base sp held fuel t [c] = some y) :
    ∃ n, c = .int k n ∧ y = (.lit (.int k n), []) ∧ (Lit.int k n).wf = true := by
  cases fuel with
  | zero => simp [DataW.trod] at h
  | succ fuel =>
    cases c <;> simp [DataW.trod, ht] at h
    rename_i k' n
    obtain ⟨⟨rfl, hw⟩, rfl⟩ := h
    exact ⟨n, rfl, rfl, hw⟩
theorem bool_of_trod {fuel : Nat} {t : TypeId} {c : Value} {y : DataW H × List MemPlace} (ht : P.underlying t = some .bool) (h : DataW.trod enc P w base sp held fuel t [c] = some y) :
    ∃ b, c = .bool b ∧ y = (.lit (.bool b), []) := by
  cases fuel with
  | zero => simp [DataW.trod] at h
  | succ fuel =>
    cases c <;> simp [DataW.trod, ht] at h
    exact ⟨_, rfl, h.symm⟩
theorem int_trod {t : TypeId} {k : IntKind} {n : Int} (ht : P.underlying t = some (.int k)) (hw : (Lit.int k n).wf = true) : ∃ m, DataW.trod enc P w base sp held m t [.int k n] = some (.lit (.int k n), []) :=
  ⟨1, by simp [DataW.trod, ht, hw]⟩
theorem bool_trod {t : TypeId} {b : Bool} (ht : P.underlying t = some .bool) : ∃ m, DataW.trod enc P w base sp held m t [.bool b] = some (.lit (.bool b), []) :=
  ⟨1, by simp [DataW.trod, ht]⟩
end

/-- A reference that came in. -/
theorem open_ref {H : Type} {enc : TypeId × Value → H} {W : World} {base : Nat} {sp : Nat → Bool} {held : Bool} {r : Reach} {b0 : Nat} {v : Value} {d : DataW H} {p : List MemPlace}
    (hv : Value.okWide Tryd.prog W r b0 23 v) (h : DataW.Trod enc Tryd.prog W base sp held 23 v d p) :
    ∃ (x y : Int) (a b : Bool), v = .agg #[.int .i64 x, .int .i64 y, .bool a, .bool b] ∧ d = .agg [.lit (.int .i64 x), .lit (.int .i64 y), .lit (.bool a), .lit (.bool b)] ∧ p = [] ∧ (Lit.int .i64 x).wf = true ∧ (Lit.int .i64 y).wf = true := by
  obtain ⟨v0, v1, v2, v3, y0, y1, y2, y3, n, rfl, rfl, rfl, t0, t1, t2, t3⟩ := open_agg4 Tryd.underlying23 (by kernel_rfl) (by kernel_rfl) hv h
  obtain ⟨x, rfl, rfl, wx⟩ := int_of_trod Tryd.underlying3 t0
  obtain ⟨y, rfl, rfl, wy⟩ := int_of_trod Tryd.underlying3 t1
  obtain ⟨a, rfl, rfl⟩ := bool_of_trod Tryd.underlying4 t2
  obtain ⟨b, rfl, rfl⟩ := bool_of_trod Tryd.underlying4 t3
  exact ⟨x, y, a, b, rfl, rfl, rfl, wx, wy⟩
theorem shut_ref {H : Type} {enc : TypeId × Value → H} {W : World} {base : Nat} {sp : Nat → Bool} {held : Bool} {x y : Int} {a b : Bool} (wx : (Lit.int .i64 x).wf = true) (wy : (Lit.int .i64 y).wf = true) :
    DataW.Trod enc Tryd.prog W base sp held 23 (.agg #[.int .i64 x, .int .i64 y, .bool a, .bool b]) (.agg [.lit (.int .i64 x), .lit (.int .i64 y), .lit (.bool a), .lit (.bool b)]) [] :=
  shut_agg4 (y0 := (.lit (.int .i64 x), [])) (y1 := (.lit (.int .i64 y), [])) (y2 := (.lit (.bool a), [])) (y3 := (.lit (.bool b), [])) Tryd.underlying23 (by kernel_rfl) (by kernel_rfl) (int_trod Tryd.underlying3 wx) (int_trod Tryd.underlying3 wy) (bool_trod Tryd.underlying4) (bool_trod Tryd.underlying4)
theorem wf_bd {x : Int} (h : (Lit.int .i64 x).wf = true) : -9223372036854775808 ≤ x ∧ x ≤ 9223372036854775807 := by
  have h1 : IntKind.i64.min = -9223372036854775808 := by decide
  have h2 : IntKind.i64.max = 9223372036854775807 := by decide
  simp only [Lit.wf, Bool.and_eq_true, decide_eq_true_eq, h1, h2] at h
  exact h

end Go.Proofs.YtacakmlkaikabaaDoor

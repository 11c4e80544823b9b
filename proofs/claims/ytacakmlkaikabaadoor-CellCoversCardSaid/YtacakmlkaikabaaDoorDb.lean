/- cell.between: a function value over two boxes; its contract as an iterator: the numbers from one to another one, one by one. -/
import Derived.RangeFuncNested
import Derived.RangeFuncBound
import Derived.RangeFuncCalls
import Derived.RangeFuncLeaves
import Derived.Shelf.Abstract
import Derived.Shelf.RegionOpen
import Derived.WalkKit
import Derived.OwnWalkIn
import Derived.TacticsInMore
import Derived.LoopNIn
import Derived.LoopIn
import Derived.Test.YtacakmlkaikabaaDoorProg
namespace Go.Proofs.YtacakmlkaikabaaDoor
set_option linter.unusedVariables false
open Go.RowKit Go.Shelf

attribute [local go_sem] Oper.semAt_some

def upto (p j : Nat) : List Int := (List.range' p (j - p)).map (fun (k : Nat) => (k : Int))
theorem upto_succ {p j : Nat} (h : p ≤ j) : upto p (j + 1) = upto p j ++ [(j : Int)] := by
  unfold upto
  rw [show j + 1 - p = (j - p) + 1 by omega, List.range'_concat]
  simp; omega
theorem upto_self (p : Nat) : upto p p = [] := by simp [upto]
theorem upto_len {p q : Nat} : (upto p q).length = q - p := by simp [upto]
theorem upto_pre {p j q : Nat} (h : p ≤ j) (h2 : j ≤ q) : upto p j <+: upto p q := by
  induction h2 with
  | refl => exact List.prefix_refl _
  | step h3 ih => rw [upto_succ (by simp at h3; omega)]; exact ih.trans (List.prefix_append _ _)

set_option maxRecDepth 100000 in
set_option maxHeartbeats 1000000 in
theorem between1_in (F : Fence) (n : Nat) (h6 : F.fn 60) (hro : F.round = none) (hn : 1 ≤ n) (l B1 B2 : Nat) (p q : Nat) (t : Int) (ht : t + 1 = q) (hpq : p ≤ q) (hq : q ≤ 5000) (Kp : World → World → Prop) (Pv : World → Prop) (hP : ∀ A B, Pv A → Kp A B → Pv B) (hPc : ∀ A, Pv A → A.cell? ⟨B2, 0, none⟩ = some (.int .i64 t)) (J Jx : List Int → World → Prop)
    (hY : ∀ pre x W, J pre W → pre.length < (upto p q).length → YieldAt F (n - 1) Tryd.prog l #[.int .i64 x] W fun e W' =>
      (e = .returned (.bool true) ∧ J (pre ++ [x]) W' ∧ Kp W W') ∨ (e = .returned (.bool false) ∧ Jx (pre ++ [x]) W'))
    (W : World) (hc1 : W.cell? ⟨B1, 0, none⟩ = some (.int .i64 p)) (hc2 : Pv W) (h0 : J [] W) :
    CallsIn F n Tryd.prog 60 #[.func (.yield l) #[] #[], .pointer (some ⟨B1, 0, none⟩), .pointer (some ⟨B2, 0, none⟩)] W fun e W' => (∃ v, e = .returned v) ∧
      ((∃ ys, ys = upto p q ∧ J ys W') ∨ (∃ pre, pre <+: upto p q ∧ Jx pre W')) := by
  refine callsIn_of_wp Tryd.func60 rfl h6 ?_ hro
  simp only [Tryd.ntmps60, List.size_toArray, List.length_cons, List.length_nil, Nat.reduceAdd, Nat.reduceSub, Array.replicate_succ, Array.replicate_zero, List.push_toArray, List.append_toArray, List.nil_append, List.cons_append]
  gi_wp2
  gi_loopw [4] (fun i wr => ∃ (j : Nat), i = .int .i64 j ∧ p ≤ j ∧ j ≤ q ∧ Pv wr ∧ J (upto p j) wr)
    (fun i _ => q - (intOf i).toNat)
  case atStart =>
    exact ⟨p, rfl, Nat.le_refl _, hpq, hc2, by rw [upto_self]; exact h0⟩
  case round =>
    obtain ⟨j, rfl, j0, j1, hv2, hJs⟩ := hrel
    have hc2 := hPc _ hv2
    by_cases hlt : j < q
    · have ht1 : (j : Int) ≤ t := by omega
      obtain ⟨fn, tmps, assign, body, hy, hR⟩ := hY (upto p j) j wr hJs (by rw [upto_len, upto_len]; omega)
      gi_wp2
      refine hR.mono ?_
      rintro e W3 (⟨rfl, hJ3, hk3⟩ | ⟨rfl, hJx3⟩)
      · have hq3 := hP _ _ hv2 hk3
        gi_wp2
        go_roundw
        case rel => exact ⟨j + 1, by go_num, by omega, by omega, hq3, by rw [upto_succ j0]; exact hJ3⟩
        case measure => simp [intOf]; omega
      · gi_wp2
        refine bodyPost_ret (results_none rfl _ _ _) rfl ?_
        exact ⟨⟨_, rfl⟩, .inr ⟨upto p j ++ [(j : Int)], by rw [← upto_succ j0]; exact upto_pre (by omega) (by omega), hJx3⟩⟩
    · obtain rfl : j = q := by omega
      have ht1 : ¬ (j : Int) ≤ t := by omega
      gi_wp2
      go_end0
      exact ⟨⟨_, rfl⟩, .inl hJs⟩

set_option maxHeartbeats 1000000 in
theorem between_in (F : Fence) (n : Nat) (h5 : F.fn 51) (hro : F.round = none) (a b : Int) (w : World) :
    CallsIn F n Tryd.prog 51 #[.int .i64 a, .int .i64 b] w fun e w' => e = .returned (.func (.func 60) #[] #[.pointer (some ⟨w.heap.size, 0, none⟩), .pointer (some ⟨w.heap.size + 1, 0, none⟩)]) ∧ w' = (w.alloc (.cells #[.int .i64 a] 3)).alloc (.cells #[.int .i64 b] 3) := by
  refine callsIn_of_wp Tryd.func51 rfl h5 ?_ hro
  simp only [Tryd.ntmps51, List.size_toArray, List.length_cons, List.length_nil, Nat.reduceAdd, Nat.reduceSub, Array.replicate_succ, Array.replicate_zero, List.push_toArray, List.append_toArray, List.nil_append, List.cons_append]
  gi_wp2
  go_ret
  exact ⟨rfl, rfl⟩

theorem between_stops (F : Fence) (n : Nat) (h6 : F.fn 60) (hro : F.round = none) (hn : 1 ≤ n) (B1 B2 : Nat) (p q : Nat) (t : Int) (ht : t + 1 = q) (hpq : p ≤ q) (hq : q ≤ 5000) (Kp : World → World → Prop) (Pv : World → Prop) (hP : ∀ A B, Pv A → Kp A B → Pv B) (hPc : ∀ A, Pv A → A.cell? ⟨B2, 0, none⟩ = some (.int .i64 t)) (w : World)
    (hb1 : B1 < w.heap.size) (hc1 : w.cell? ⟨B1, 0, none⟩ = some (.int .i64 p)) (hPw : ∀ W, Below w.heap.size w W → Pv W) :
    SeqStopsK F n Tryd.prog 60 #[.pointer (some ⟨B1, 0, none⟩), .pointer (some ⟨B2, 0, none⟩)] (fun x : Int => #[Value.int .i64 x]) Kp (fun ys => ys = upto p q) (fun pre => pre <+: upto p q) (upto p q).length w := fun l J Jx W hW _ _ hY h0 =>
  between1_in F n h6 hro hn l B1 B2 p q t ht hpq hq Kp Pv hP hPc J Jx hY W ((hW.cell (p := ⟨B1, 0, none⟩) hb1).trans hc1) (hPw W hW) h0

end Go.Proofs.YtacakmlkaikabaaDoor

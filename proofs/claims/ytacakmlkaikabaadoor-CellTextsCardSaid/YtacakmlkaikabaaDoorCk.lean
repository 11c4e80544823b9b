import Derived.Test.YtacakmlkaikabaaDoorPb
namespace Go.Proofs.YtacakmlkaikabaaDoor
set_option linter.unusedVariables false
open Go.RowKit
attribute [local go_sem] max2_int min2_int max_two min_two

def letN (b : UInt8) : Int := if isL b = true then lv b else 0
theorem letN_t {b : UInt8} (h : isL b = true) : letN b = lv b := by simp [letN, h]
theorem letN_f {b : UInt8} (h : isL b = false) : letN b = 0 := by simp [letN, h]
set_option maxHeartbeats 400000 in
theorem refletter_any (b : UInt8) (w : World) :
    Calls Tryd.prog 36 #[.int .u8 b.toNat] w fun e w' => e = .returned (.int .i64 (letN b)) ∧ w' = w := by
  have hb := b.toNat_lt
  by_cases h1 : 65 ≤ b.toNat
  · by_cases h2 : b.toNat ≤ 90
    · skip
      have e : letN b = (b.toNat : Int) - 65 + 1 := by
        rw [letN_t (by simp [isL, pLet]; omega)]; simp [lv]; omega
      rw [e]; clear e
      go_enter Tryd.func36, Tryd.ntmps36
      go_wp2
      go_ret
      exact ⟨rfl, rfl⟩
    · by_cases h3 : 97 ≤ b.toNat
      · by_cases h4 : b.toNat ≤ 122
        · skip
          have e : letN b = (b.toNat : Int) - 97 + 1 := by
            rw [letN_t (by simp [isL, pLet]; omega)]; simp [lv]; omega
          rw [e]; clear e
          go_enter Tryd.func36, Tryd.ntmps36
          go_wp2
          go_ret
          exact ⟨rfl, rfl⟩
        · skip
          have e : letN b = 0 := by
            rw [letN_f]; simp [isL, pLet]; omega
          rw [e]; clear e
          go_enter Tryd.func36, Tryd.ntmps36
          go_wp2
          go_ret
          exact ⟨rfl, rfl⟩
      · skip
        have e : letN b = 0 := by
          rw [letN_f]; simp [isL, pLet]; omega
        rw [e]; clear e
        go_enter Tryd.func36, Tryd.ntmps36
        go_wp2
        go_ret
        exact ⟨rfl, rfl⟩
  · skip
    have e : letN b = 0 := by
      rw [letN_f]; simp [isL, pLet]; omega
    rw [e]; clear e
    go_enter Tryd.func36, Tryd.ntmps36
    go_wp2
    go_ret
    exact ⟨rfl, rfl⟩

def colM (l : List UInt8) : Int := l.foldl (fun a b => mn (26 * a + lv b) 1000000) 0
theorem colM_snoc (l : List UInt8) (b : UInt8) : colM (l ++ [b]) = mn (26 * colM l + lv b) 1000000 := by simp [colM]
theorem mn_lo {a b : Int} (h : a ≤ b) : mn a b = a := by unfold mn; rw [if_neg (by omega)]
theorem mn_bd (a b : Int) (h0 : 0 ≤ a) (h1 : 0 ≤ b) : 0 ≤ mn a b ∧ mn a b ≤ b := by unfold mn; split <;> omega
theorem colM_bd (l : List UInt8) (h : ∀ x ∈ l, isL x = true) : 0 ≤ colM l ∧ colM l ≤ 1000000 := by
  suffices H : ∀ (l : List UInt8) (a : Int), 0 ≤ a → a ≤ 1000000 → (∀ x ∈ l, isL x = true) → 0 ≤ l.foldl (fun a b => mn (26 * a + lv b) 1000000) a ∧ l.foldl (fun a b => mn (26 * a + lv b) 1000000) a ≤ 1000000 from H l 0 (by omega) (by omega) h
  intro l
  induction l with
  | nil => intro a h0 h1 _; exact ⟨h0, h1⟩
  | cons b l ih =>
    intro a h0 h1 h
    have hb := lv_bd (h b List.mem_cons_self)
    have hm := mn_bd (26 * a + lv b) 1000000 (by omega) (by omega)
    exact ih _ hm.1 hm.2 (fun x hx => h x (List.mem_cons_of_mem _ hx))
theorem colM_eq (l : List UInt8) (hl : l.length ≤ 3) (h : ∀ x ∈ l, isL x = true) : colM l = colV l := by
  match l, hl with
  | [], _ => rfl
  | [a], _ => have := lv_bd (h a (by simp)); simp only [colM, colV, List.foldl_cons, List.foldl_nil]; rw [mn_lo (by omega)]
  | [a, b], _ => have := lv_bd (h a (by simp)); have := lv_bd (h b (by simp)); simp only [colM, colV, List.foldl_cons, List.foldl_nil]; rw [mn_lo (a := 26 * 0 + lv a) (by omega), mn_lo (by omega)]
  | [a, b, c], _ => have := lv_bd (h a (by simp)); have := lv_bd (h b (by simp)); have := lv_bd (h c (by simp)); simp only [colM, colV, List.foldl_cons, List.foldl_nil]; rw [mn_lo (a := 26 * 0 + lv a) (by omega), mn_lo (a := 26 * (26 * 0 + lv a) + lv b) (by omega), mn_lo (by omega)]
def dgM (l : List UInt8) : Int := l.foldl (fun a b => mn (10 * a + ((b.toNat : Int) - 48)) 100000000) 0
theorem dgM_snoc (l : List UInt8) (b : UInt8) : dgM (l ++ [b]) = mn (10 * dgM l + ((b.toNat : Int) - 48)) 100000000 := by simp [dgM]
theorem isD_t {b : UInt8} (h : isD b = true) : 48 ≤ b.toNat ∧ b.toNat ≤ 57 := isDig_t h
theorem dgM_bd (l : List UInt8) (h : ∀ x ∈ l, isD x = true) : 0 ≤ dgM l ∧ dgM l ≤ 100000000 := by
  suffices H : ∀ (l : List UInt8) (a : Int), 0 ≤ a → a ≤ 100000000 → (∀ x ∈ l, isD x = true) → 0 ≤ l.foldl (fun a b => mn (10 * a + ((b.toNat : Int) - 48)) 100000000) a ∧ l.foldl (fun a b => mn (10 * a + ((b.toNat : Int) - 48)) 100000000) a ≤ 100000000 from H l 0 (by omega) (by omega) h
  intro l
  induction l with
  | nil => intro a h0 h1 _; exact ⟨h0, h1⟩
  | cons b l ih =>
    intro a h0 h1 h
    have hb := isD_t (h b List.mem_cons_self)
    have hm := mn_bd (10 * a + ((b.toNat : Int) - 48)) 100000000 (by omega) (by omega)
    exact ih _ hm.1 hm.2 (fun x hx => h x (List.mem_cons_of_mem _ hx))
theorem dgM_eq (l : List UInt8) (hl : l.length ≤ 7) (h : ∀ x ∈ l, isD x = true) : dgM l = dgn l := by
  suffices H : ∀ (l : List UInt8) (a : Nat) (k : Nat), a < 10 ^ k → k + l.length ≤ 7 → (∀ x ∈ l, isD x = true) → l.foldl (fun a b => mn (10 * a + ((b.toNat : Int) - 48)) 100000000) (a : Int) = dgAt a l from H l 0 0 (by decide) (by omega) h
  intro l
  induction l with
  | nil => intro a k _ _ _; rfl
  | cons b l ih =>
    intro a k ha hk h
    have hb := isD_t (h b List.mem_cons_self)
    have hd := dg_eq b
    have h7 := Nat.pow_le_pow_right (n := 10) (by omega) (show k + 1 ≤ 7 by simp at hk; omega)
    rw [Nat.pow_succ] at h7
    rw [List.foldl_cons, dgAt_cons, mn_lo (by omega)]
    have := ih (a * 10 + dg b) (k + 1) (by rw [Nat.pow_succ]; omega) (by simp at hk; omega) (fun x hx => h x (List.mem_cons_of_mem _ hx))
    rw [← this]
    congr 1
    omega
end Go.Proofs.YtacakmlkaikabaaDoor

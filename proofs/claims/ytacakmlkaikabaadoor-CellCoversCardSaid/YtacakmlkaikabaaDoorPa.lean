/- Plain facts on bytes: what TrimLeftFunc cuts at an ASCII predicate, Atoi of digits. No program stands here. -/
import Derived.Shelf.GgClosure.StringsTrimFunc
import Derived.Lib.Atoi
namespace Go.Proofs.YtacakmlkaikabaaDoor
open Go.Lib

theorem ba_ext {a b : ByteArray} (h : a.data.toList = b.data.toList) : a = b := by
  cases a with | mk x => cases b with | mk y => congr 1; exact Array.ext' h

theorem get_at (s : ByteArray) (pos : Nat) (h : pos < s.size) : s.get! pos = s.data.toList[pos]'(by simpa using h) := by
  have h' : pos < s.data.size := h
  simp only [ByteArray.get!, Array.getElem_toList]
  exact getElem!_pos s.data pos h'

theorem decode_ascii (s : ByteArray) (pos : Nat) (h : (s.get! pos).toNat < 128) : Utf8.decode s pos = ((s.get! pos).toNat, 1) := by
  unfold Utf8.decode
  simp only [Nat.add_zero]
  rw [if_pos h]

theorem decode_high (s : ByteArray) (pos : Nat) (h : ¬ (s.get! pos).toNat < 128) : 128 ≤ (Utf8.decode s pos).1 := by
  unfold Utf8.decode Utf8.runeError
  simp only [Nat.add_zero]
  rw [if_neg h]
  split
  · split
    · simp_all
    · decide
  · split
    · split
      · simp only; simp_all; omega
      · decide
    · split
      · split
        · simp only; simp_all; omega
        · decide
      · decide

theorem idx_from (p : Nat → Bool) (hp : ∀ r, 128 ≤ r → p r = false) (s : ByteArray) : ∀ (f pos : Nat), s.size ≤ pos + f →
    idxFuncFrom p false s f pos = if (s.data.toList.drop pos).dropWhile (fun b => p b.toNat) = [] then -1 else (pos : Int) + ((s.data.toList.drop pos).takeWhile (fun b => p b.toNat)).length
  | 0, pos, h => by
    have : s.data.toList.drop pos = [] := List.drop_eq_nil_of_le (by simpa using h)
    simp [idxFuncFrom, this]
  | f + 1, pos, h => by
    by_cases hlt : pos < s.size
    · have hl : pos < s.data.toList.length := by simpa using hlt
      have hd : s.data.toList.drop pos = s.data.toList[pos] :: s.data.toList.drop (pos + 1) := List.drop_eq_getElem_cons hl
      have hg := get_at s pos hlt
      unfold idxFuncFrom
      rw [if_pos hlt, hd, ← hg]
      by_cases ha : (s.get! pos).toNat < 128
      · rw [decode_ascii s pos ha]
        cases hpb : p (s.get! pos).toNat with
        | false => simp [hpb]
        | true =>
          simp only [Bool.true_eq_false, if_false]
          rw [idx_from p hp s f (pos + 1) (by omega)]
          simp only [List.dropWhile_cons, hpb, if_true, List.takeWhile_cons, List.length_cons]
          split
          · rfl
          · push_cast; omega
      · have hq := hp _ (decode_high s pos ha)
        have hq2 := hp (s.get! pos).toNat (by omega)
        rw [if_pos hq]
        simp [hq2]
    · have : s.data.toList.drop pos = [] := List.drop_eq_nil_of_le (by simpa using hlt)
      rw [idxFuncFrom_end _ _ _ _ _ hlt]
      simp [this]

theorem trimLeft_ascii (p : Nat → Bool) (hp : ∀ r, 128 ≤ r → p r = false) (s : ByteArray) :
    (trimLeftF p s).data.toList = s.data.toList.dropWhile (fun b => p b.toNat) := by
  have h := idx_from p hp s s.size 0 (by omega)
  have e : idxFunc p false s = idxFuncFrom p false s s.size 0 := rfl
  rw [List.drop_zero] at h
  have hl := List.takeWhile_append_dropWhile (p := fun b : UInt8 => p b.toNat) (l := s.data.toList)
  unfold trimLeftF
  rw [e, h]
  by_cases hn : s.data.toList.dropWhile (fun b => p b.toNat) = []
  · rw [if_pos hn, if_pos rfl, hn]
  · rw [if_neg hn, if_neg (by omega)]
    have hx : (s.extract (((0 : Nat) : Int) + ((s.data.toList.takeWhile (fun b => p b.toNat)).length : Int)).toNat s.size).data.toList = s.data.toList.drop (s.data.toList.takeWhile (fun b => p b.toNat)).length := by
      rw [Lib.extract_data]
      have : (((0 : Nat) : Int) + ((s.data.toList.takeWhile (fun b => p b.toNat)).length : Int)).toNat = (s.data.toList.takeWhile (fun b => p b.toNat)).length := by omega
      rw [this, List.take_of_length_le (by simp)]
    rw [hx]
    have h3 := List.drop_left (l₁ := s.data.toList.takeWhile (fun b => p b.toNat)) (l₂ := s.data.toList.dropWhile (fun b => p b.toNat))
    rw [hl] at h3
    exact h3

/-! Digits. -/
def isDig (b : UInt8) : Bool := decide (48 ≤ b.toNat) && decide (b.toNat ≤ 57)
def isLet (b : UInt8) : Bool := (decide (65 ≤ b.toNat) && decide (b.toNat ≤ 90)) || (decide (97 ≤ b.toNat) && decide (b.toNat ≤ 122))
@[irreducible] def dg (b : UInt8) : Nat := b.toNat - 48
theorem dg_eq (b : UInt8) : dg b = b.toNat - 48 := by unfold dg; rfl
/-- The number that digits say, behind a number. -/
def dgAt (acc : Nat) : List UInt8 → Nat
  | [] => acc
  | b :: l => dgAt (acc * 10 + dg b) l
theorem dgAt_nil (acc : Nat) : dgAt acc [] = acc := rfl
theorem dgAt_cons (acc : Nat) (b : UInt8) (l : List UInt8) : dgAt acc (b :: l) = dgAt (acc * 10 + dg b) l := rfl
def dgn (l : List UInt8) : Nat := dgAt 0 l

theorem digitVal_dig {b : UInt8} (h : isDig b = true) : digitVal b = some (dg b) := by
  simp [isDig] at h
  simp [digitVal, dg_eq]
  omega
theorem decFrom_dig (l : List UInt8) : ∀ (acc : Nat), (∀ b ∈ l, isDig b = true) → decFrom acc l = some (dgAt acc l) := by
  induction l with
  | nil => intro acc _; rw [decFrom, dgAt_nil]
  | cons b l ih =>
    intro acc h
    have hb := digitVal_dig (h b List.mem_cons_self)
    have ih' := ih (acc * 10 + dg b) (fun x hx => h x (List.mem_cons_of_mem _ hx))
    rw [decFrom, hb, dgAt_cons]
    show decFrom (acc * 10 + dg b) l = _
    exact ih'
theorem atoi_dig (l : List UInt8) (hne : l ≠ []) (h : ∀ b ∈ l, isDig b = true) : atoi l = some (dgn l : Int) := by
  cases l with
  | nil => exact absurd rfl hne
  | cons b r =>
    have hb := h b List.mem_cons_self
    simp [isDig] at hb
    have e1 : (b == 45) = false := by
      rw [beq_eq_false_iff_ne]; intro e; subst e; exact absurd hb.1 (by decide)
    have e2 : (b == 43) = false := by
      rw [beq_eq_false_iff_ne]; intro e; subst e; exact absurd hb.1 (by decide)
    simp only [atoi, e1, e2, Bool.false_eq_true, if_false, decNat, List.isEmpty_cons]
    rw [decFrom_dig _ _ h]
    rfl
theorem isDig_t {b : UInt8} (h : isDig b = true) : 48 ≤ b.toNat ∧ b.toNat ≤ 57 := by
  rw [isDig, Bool.and_eq_true, decide_eq_true_eq, decide_eq_true_eq] at h
  exact h
theorem dgAt_lt (l : List UInt8) : ∀ (acc : Nat), (∀ b ∈ l, isDig b = true) → dgAt acc l < (acc + 1) * 10 ^ l.length := by
  induction l with
  | nil => intro acc _; rw [dgAt_nil, List.length_nil, Nat.pow_zero]; omega
  | cons b l ih =>
    intro acc h
    have hb := isDig_t (h b List.mem_cons_self)
    have h1 := ih (acc * 10 + dg b) (fun x hx => h x (List.mem_cons_of_mem _ hx))
    rw [dgAt_cons, List.length_cons]
    have hd := dg_eq b
    refine Nat.lt_of_lt_of_le h1 ?_
    rw [Nat.pow_succ, Nat.mul_comm (10 ^ l.length) 10, ← Nat.mul_assoc]
    exact Nat.mul_le_mul_right _ (by omega)
theorem dgn_lt (l : List UInt8) (h : ∀ b ∈ l, isDig b = true) : dgn l < 10 ^ l.length := by
  have h1 := dgAt_lt l 0 h
  rw [Nat.zero_add, Nat.one_mul] at h1
  exact h1
end Go.Proofs.YtacakmlkaikabaaDoor

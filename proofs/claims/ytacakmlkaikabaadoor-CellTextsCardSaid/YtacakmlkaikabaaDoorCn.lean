/- The reference's Parse, whole: its walks joined. -/
import Derived.Test.YtacakmlkaikabaaDoorCm
namespace Go.Proofs.YtacakmlkaikabaaDoor
set_option linter.unusedVariables false
set_option linter.unusedSimpArgs false
open Go.RowKit

theorem tw_get (p : UInt8 → Bool) : ∀ (l : List UInt8) (k : Nat) (h : k < (l.takeWhile p).length) (h' : k < l.length), (l.takeWhile p)[k] = l[k]
  | [], k, h, _ => by simp at h
  | a :: l, k, h, h' => by
    by_cases ha : p a = true
    · simp only [List.takeWhile_cons, ha, if_true]
      cases k with
      | zero => rfl
      | succ k =>
        simp only [List.getElem_cons_succ]
        exact tw_get p l k (by simpa [List.takeWhile_cons, ha] using h) (by simpa using h')
    · simp [List.takeWhile_cons, ha] at h

theorem part_get (s : ByteArray) (o : Nat) (p : UInt8 → Bool) (j : Nat) (hj : j < s.size) (hk : j - o < ((s.data.toList.drop o).takeWhile p).length) (ho : o ≤ j) :
    s[j]'hj = ((s.data.toList.drop o).takeWhile p)[j - o]'hk := by
  have hl : j < s.data.toList.length := by simpa using hj
  rw [tw_get p _ _ hk (by simp at hl ⊢; omega)]
  simp only [List.getElem_drop]
  have e : o + (j - o) = j := by omega
  simp only [e, Array.getElem_toList]
  rfl

theorem part_end (s : ByteArray) (o : Nat) (p : UInt8 → Bool) (m : Nat) (hm : m = o + ((s.data.toList.drop o).takeWhile p).length) (h : m < s.size) : p (s[m]'h) = false := by
  have hl : m < s.data.toList.length := by simpa using h
  have e1 := List.takeWhile_append_dropWhile (p := p) (l := s.data.toList.drop o)
  have e2 : (s.data.toList.drop o).dropWhile p = s.data.toList.drop m := by
    have h3 := List.drop_left (l₁ := (s.data.toList.drop o).takeWhile p) (l₂ := (s.data.toList.drop o).dropWhile p)
    rw [e1, List.drop_drop, ← hm] at h3
    exact h3.symm
  rw [List.drop_eq_getElem_cons hl] at e2
  have := dropWhile_head p _ _ _ e2
  rw [Array.getElem_toList] at this
  exact this

theorem tw_len (s : ByteArray) (o : Nat) (p : UInt8 → Bool) (ho : o ≤ s.size) : o + ((s.data.toList.drop o).takeWhile p).length ≤ s.size := by
  have e1 := congrArg List.length (List.takeWhile_append_dropWhile (p := p) (l := s.data.toList.drop o))
  rw [List.length_append, List.length_drop] at e1
  have e2 : s.data.toList.length = s.size := by simp
  omega

theorem dol_at (s : ByteArray) (m : Nat) (h : m < s.size) : dol (s.data.toList.drop m) = (((s[m]'h).toNat : Int) == 36) := by
  have hl : m < s.data.toList.length := by simpa using h
  rw [List.drop_eq_getElem_cons hl, Array.getElem_toList]
  show (s.data[m] == 36) = _
  have e : s.data[m] = s[m] := rfl
  rw [e, Bool.eq_iff_iff, beq_iff_eq, beq_iff_eq, ← UInt8.toNat_inj]
  show s[m].toNat = 36 ↔ _
  omega

theorem gI_eq (N D : List UInt8) (a b : Bool) (h1 : N.length ≤ 3) (h2 : ∀ x ∈ N, isL x = true) (h3 : D.length ≤ 7) (h4 : ∀ x ∈ D, isD x = true) : gI (colM N) (dgM D) a b = goodV (colV N) (dgn D) a b := by
  unfold gI goodV
  rw [colM_eq N h1 h2, dgM_eq D h3 h4]

set_option maxHeartbeats 400000 in
theorem rpEmpty (s : ByteArray) (w : World) (hs : s.size = 0) :
    Calls Tryd.prog 11 #[.string s] w fun e w' => e = .returned badV ∧ Below w.heap.size w w' := by
  obtain rfl : s = ⟨#[]⟩ := by
    cases s with | mk d => congr 1; exact Array.eq_empty_of_size_eq_zero hs
  clear hs
  go_enter Tryd.func11, Tryd.ntmps11
  go_wp2_with fail
  go_loop [5, 6] (fun i c => i = .int .i64 0 ∧ c = .int .i64 0) (fun i _ => 0)
  case atStart => exact ⟨rfl, rfl⟩
  case round =>
    obtain ⟨rfl, rfl⟩ := hrel
    go_wp2_with fail
    refine bodyPost_ret (v := badV) (by simp [badV, results, Tryd.results11, go_sem]; done) rfl ⟨rfl, ?_⟩
    exact ((Below.refl _ w).alloc (Nat.le_refl _) _).alloc (by simp) _

/-- What the parts say of the whole. -/
theorem parseV_bad {L : List UInt8} (h : shapeB L = false) : parseV L = badV := by simp [parseV, h]
theorem shape_name {L : List UInt8} (h : nm L = [] ∨ 3 < (nm L).length) : shapeB L = false := by
  cases hs : shapeB L with
  | false => rfl
  | true =>
    obtain ⟨_, h2, h3, _⟩ := shapeB_t hs
    rcases h with h | h
    · exact absurd h h2
    · omega
theorem shape_none {L : List UInt8} (h : rw_ L = []) : shapeB L = false := by
  cases hs : shapeB L with
  | false => rfl
  | true => exact absurd h (shapeB_t hs).2.2.2.1
theorem shape_row {L : List UInt8} (h : rw_ L = [] ∨ 7 < (rw_ L).length ∨ l4 L ≠ [] ∨ (rw_ L).head? = some 48) : shapeB L = false := by
  cases hs : shapeB L with
  | false => rfl
  | true =>
    obtain ⟨h1, _, _, h4, h5, h6⟩ := shapeB_t hs
    rcases h with h | h | h | h
    · exact absurd h h4
    · omega
    · exact absurd h1 h
    · exact absurd h h6

theorem drop_tw (l : List UInt8) (p : UInt8 → Bool) : l.dropWhile p = l.drop (l.takeWhile p).length := by
  have h3 := List.drop_left (l₁ := l.takeWhile p) (l₂ := l.dropWhile p)
  rw [List.takeWhile_append_dropWhile] at h3
  exact h3.symm

/-- Behind the letters: which walk answers. -/
theorem refParse_any (s : ByteArray) (hs : s.size ≤ 1000) (w : World) :
    Calls Tryd.prog 11 #[.string s] w fun e w' => e = .returned (parseV s.data.toList) ∧ Below w.heap.size w w' := by
  by_cases hz : s.size = 0
  · obtain rfl : s = ⟨#[]⟩ := by
      cases s with | mk d => congr 1; exact Array.eq_empty_of_size_eq_zero hz
    exact rpEmpty _ w rfl
  have h0 : (0 : Int) < s.size := by omega
  obtain ⟨o, ho, hdo⟩ : ∃ o, (dol s.data.toList).toNat = o ∧ o ≤ 1 := ⟨_, rfl, by cases dol s.data.toList <;> simp⟩
  have hu : und s.data.toList = s.data.toList.drop o := by rw [und_drop, ho]
  have hd := dol_at s 0 (by omega)
  rw [List.drop_zero] at hd
  have hnm : nm s.data.toList = (s.data.toList.drop o).takeWhile isL := by unfold nm; rw [hu]
  have hN := part_get s o isL
  have hE := part_end s o isL
  have hle := tw_len s o isL (by omega)
  have hl2 : l2 s.data.toList = s.data.toList.drop (o + (nm s.data.toList).length) := by
    rw [hnm, ← List.drop_drop, ← drop_tw]; unfold l2; rw [hu]
  rw [← hnm] at hN hE hle
  have hL := nm_isL s.data.toList
  generalize hP : parseV s.data.toList = V
  by_cases hbad : nm s.data.toList = [] ∨ 3 < (nm s.data.toList).length
  · rw [parseV_bad (shape_name hbad)] at hP
    subst hP
    cases hb : dol s.data.toList with
    | false =>
      obtain rfl : o = 0 := by rw [← ho, hb]; rfl
      exact rpName0 s w hs h0 (by rw [← hd]; exact hb) (nm s.data.toList) _ (by omega) hle rfl hN hL (fun h => hE _ rfl h) hbad
    | true =>
      obtain rfl : o = 1 := by rw [← ho, hb]; rfl
      exact rpName1 s w hs h0 (by rw [← hd]; exact hb) (nm s.data.toList) _ (by omega) hle rfl hN hL (fun h => hE _ rfl h) hbad
  have n0 : 0 < (nm s.data.toList).length := by
    apply Nat.pos_of_ne_zero
    intro h
    exact hbad (.inl (List.length_eq_zero_iff.1 h))
  have n3 : (nm s.data.toList).length ≤ 3 := by omega
  by_cases hm : o + (nm s.data.toList).length = s.size
  · have hr : rw_ s.data.toList = [] := by
      have : l2 s.data.toList = [] := by rw [hl2, hm]; exact List.drop_eq_nil_of_le (by simp)
      unfold rw_ l3; rw [this]; rfl
    rw [parseV_bad (shape_none hr)] at hP
    subst hP
    cases hb : dol s.data.toList with
    | false =>
      obtain rfl : o = 0 := by rw [← ho, hb]; rfl
      exact rpNone0 s w hs h0 (by rw [← hd]; exact hb) (nm s.data.toList) _ (by omega) hle rfl hN hL (fun h => hE _ rfl h) n0 n3 hm
    | true =>
      obtain rfl : o = 1 := by rw [← ho, hb]; rfl
      exact rpNone1 s w hs h0 (by rw [← hd]; exact hb) (nm s.data.toList) _ (by omega) hle rfl hN hL (fun h => hE _ rfl h) n0 n3 hm
  have hmlt : o + (nm s.data.toList).length < s.size := by omega
  have hd2 := dol_at s _ hmlt
  rw [← hl2] at hd2
  obtain ⟨q, hq, hq1⟩ : ∃ q, q = o + (nm s.data.toList).length + (dol (l2 s.data.toList)).toNat ∧ q ≤ s.size := ⟨_, rfl, by cases dol (l2 s.data.toList) <;> simp <;> omega⟩
  have hl3 : l3 s.data.toList = s.data.toList.drop q := by
    unfold l3; rw [und_drop, hl2, List.drop_drop, hq, ← hl2]
  have hrw : rw_ s.data.toList = (s.data.toList.drop q).takeWhile isD := by unfold rw_; rw [hl3]
  have hD := part_get s q isD
  have hF := part_end s q isD
  have hle2 := tw_len s q isD hq1
  rw [← hrw] at hD hF hle2
  have hDD := rw_isD s.data.toList
  have hl4 : l4 s.data.toList = s.data.toList.drop (q + (rw_ s.data.toList).length) := by
    rw [hrw, ← List.drop_drop, ← drop_tw]; unfold l4; rw [hl3]
  have hB : (rw_ s.data.toList = [] ∨ 7 < (rw_ s.data.toList).length ∨ q + (rw_ s.data.toList).length < s.size ∨ (rw_ s.data.toList).head? = some 48) → V = badV := by
    intro h
    rw [← hP]
    refine parseV_bad (shape_row ?_)
    rcases h with h | h | h | h
    · exact .inl h
    · exact .inr (.inl h)
    · refine .inr (.inr (.inl ?_))
      rw [hl4]
      intro hn
      have := congrArg List.length hn
      simp at this
      omega
    · exact .inr (.inr (.inr h))
  have hG : rw_ s.data.toList ≠ [] → (rw_ s.data.toList).length ≤ 7 → q + (rw_ s.data.toList).length = s.size → (rw_ s.data.toList).head? ≠ some 48 → V = gI (colM (nm s.data.toList)) (dgM (rw_ s.data.toList)) (dol s.data.toList) (dol (l2 s.data.toList)) := by
    intro g1 g2 g3 g4
    rw [gI_eq _ _ _ _ n3 hL g2 hDD, ← hP]
    have : l4 s.data.toList = [] := by rw [hl4, g3]; exact List.drop_eq_nil_of_le (by simp)
    simp [parseV, shapeB_mk this (fun h => hbad (.inl h)) n3 g1 g2 g4]
  cases hb : dol s.data.toList with
  | false =>
    obtain rfl : o = 0 := by rw [← ho, hb]; rfl
    cases hc : dol (l2 s.data.toList) with
    | false =>
      rw [hb, hc] at hG
      rw [hc] at hq
      obtain rfl : q = 0 + (nm s.data.toList).length := hq
      exact rpMain00 s w hs h0 (by rw [← hd]; exact hb) (nm s.data.toList) _ (by omega) hle rfl hN hL (fun h => hE _ rfl h) n0 n3 hmlt (by rw [← hd2]; exact hc) (rw_ s.data.toList) _ (by omega) hle2 rfl hD hDD (fun h => hF _ rfl h) V hB hG
    | true =>
      rw [hb, hc] at hG
      rw [hc] at hq
      obtain rfl : q = 0 + (nm s.data.toList).length + 1 := hq
      exact rpMain01 s w hs h0 (by rw [← hd]; exact hb) (nm s.data.toList) _ (by omega) hle rfl hN hL (fun h => hE _ rfl h) n0 n3 hmlt (by rw [← hd2]; exact hc) (rw_ s.data.toList) _ (by omega) hle2 rfl hD hDD (fun h => hF _ rfl h) V hB hG
  | true =>
    obtain rfl : o = 1 := by rw [← ho, hb]; rfl
    cases hc : dol (l2 s.data.toList) with
    | false =>
      rw [hb, hc] at hG
      rw [hc] at hq
      obtain rfl : q = 1 + (nm s.data.toList).length := hq
      exact rpMain10 s w hs h0 (by rw [← hd]; exact hb) (nm s.data.toList) _ (by omega) hle rfl hN hL (fun h => hE _ rfl h) n0 n3 hmlt (by rw [← hd2]; exact hc) (rw_ s.data.toList) _ (by omega) hle2 rfl hD hDD (fun h => hF _ rfl h) V hB hG
    | true =>
      rw [hb, hc] at hG
      rw [hc] at hq
      obtain rfl : q = 1 + (nm s.data.toList).length + 1 := hq
      exact rpMain11 s w hs h0 (by rw [← hd]; exact hb) (nm s.data.toList) _ (by omega) hle rfl hN hL (fun h => hE _ rfl h) n0 n3 hmlt (by rw [← hd2]; exact hc) (rw_ s.data.toList) _ (by omega) hle2 rfl hD hDD (fun h => hF _ rfl h) V hB hG
end Go.Proofs.YtacakmlkaikabaaDoor

/- Plain facts: what is printed of a reference is parsed as it; what is parsed is printed in capital letters. No program stands here. -/
import Derived.Test.YtacakmlkaikabaaDoorPb
import Derived.Test.YtacakmlkaikabaaDoorCg
import Derived.Test.YtacakmlkaikabaaDoorUp
namespace Go.Proofs.YtacakmlkaikabaaDoor
set_option linter.unusedVariables false
set_option linter.unusedSimpArgs false

theorem head_app {l : List UInt8} {b : UInt8} (hne : l ≠ []) : (l ++ [b]).head? = l.head? := by
  cases l with
  | nil => exact absurd rfl hne
  | cons a l => rfl
theorem isL_t {b : UInt8} (h : isL b = true) : (65 ≤ b.toNat ∧ b.toNat ≤ 90) ∨ (97 ≤ b.toNat ∧ b.toNat ≤ 122) := by
  simp [isL, pLet] at h
  exact h
theorem up_lv {b : UInt8} (h : isL b = true) : UInt8.ofNat (65 + (lv b - 1).toNat) = up b := by
  have hb := b.toNat_lt
  rcases isL_t h with h | h
  · have e : lv b = (b.toNat : Int) - 64 := by unfold lv; rw [if_neg (by omega)]
    rw [e, up, if_neg (by omega), show 65 + ((b.toNat : Int) - 64 - 1).toNat = b.toNat by omega]
    simp
  · have e : lv b = (b.toNat : Int) - 96 := by unfold lv; rw [if_pos (by omega)]
    rw [e, up, if_pos (by omega), show 65 + ((b.toNat : Int) - 96 - 1).toNat = b.toNat - 32 by omega]
theorem up_dig {b : UInt8} (h : isD b = true) : up b = b := by
  have := isDig_t h
  rw [up, if_neg (by omega)]

theorem dgAt_snoc (l : List UInt8) : ∀ (acc : Nat) (b : UInt8), dgAt acc (l ++ [b]) = dgAt acc l * 10 + dg b := by
  induction l with
  | nil => intro acc b; rfl
  | cons a l ih => intro acc b; rw [List.cons_append, dgAt_cons, dgAt_cons, ih]
theorem dgn_snoc (l : List UInt8) (b : UInt8) : dgn (l ++ [b]) = dgn l * 10 + dg b := dgAt_snoc l 0 b

theorem dg_of (n : Nat) (h : n < 10) : dg (UInt8.ofNat (48 + n)) = n := by
  rw [dg_eq, UInt8.toNat_ofNat']; omega
theorem isD_of (n : Nat) (h : n < 10) : isD (UInt8.ofNat (48 + n)) = true := by
  unfold isD pDig
  rw [UInt8.toNat_ofNat', Bool.and_eq_true, decide_eq_true_eq, decide_eq_true_eq]
  omega

theorem dec_dig (n : Nat) : dgn (Lib.decDigits n) = n ∧ (∀ x ∈ Lib.decDigits n, isD x = true) ∧ Lib.decDigits n ≠ [] ∧ (1 ≤ n → (Lib.decDigits n).head? ≠ some 48) := by
  induction n using Nat.strongRecOn with
  | _ n ih =>
    by_cases h : n < 10
    · rw [dec_lo h]
      refine ⟨by show dgAt 0 [_] = _; rw [dgAt_cons, dgAt_nil, dg_of n h]; omega, ?_, by simp, ?_⟩
      · intro x hx
        rw [List.mem_singleton] at hx
        rw [hx]; exact isD_of n h
      · intro h1 hh
        simp only [List.head?_cons, Option.some.injEq] at hh
        have := congrArg UInt8.toNat hh
        rw [UInt8.toNat_ofNat'] at this
        have e : (48 : UInt8).toNat = 48 := rfl
        omega
    · obtain ⟨h1, h2, h3, h4⟩ := ih (n / 10) (by omega)
      rw [dec_hi h]
      refine ⟨by rw [dgn_snoc, h1, dg_of _ (by omega)]; omega, ?_, by simp, ?_⟩
      · intro x hx
        rcases List.mem_append.1 hx with hx | hx
        · exact h2 x hx
        · rw [List.mem_singleton] at hx
          rw [hx]; exact isD_of _ (by omega)
      · intro _
        rw [head_app h3]
        exact h4 (by omega)

theorem dig_back {b : UInt8} (h : isD b = true) : UInt8.ofNat (48 + dg b) = b := by
  have := isDig_t h
  rw [dg_eq, show 48 + (b.toNat - 48) = b.toNat by omega]
  simp


theorem dgn_pos {l : List UInt8} (hne : l ≠ []) (hd : ∀ x ∈ l, isD x = true) (h0 : l.head? ≠ some 48) : 1 ≤ dgn l := by
  cases l with
  | nil => exact absurd rfl hne
  | cons a l =>
    have ha := isDig_t (hd a List.mem_cons_self)
    have h1 : 1 ≤ dg a := by
      rw [dg_eq]
      rcases Nat.lt_or_ge 48 a.toNat with h | h
      · omega
      · exfalso
        apply h0
        have : a = 48 := UInt8.toNat_inj.1 (by show a.toNat = 48; omega)
        rw [this]; rfl
    show 1 ≤ dgAt (0 * 10 + dg a) l
    have : ∀ (l : List UInt8) (acc : Nat), 1 ≤ acc → 1 ≤ dgAt acc l := by
      intro l
      induction l with
      | nil => intro acc h; exact h
      | cons b l ih => intro acc h; rw [dgAt_cons]; exact ih _ (by omega)
    exact this l _ (by omega)

theorem dec_back (r : List UInt8) : r ≠ [] → (∀ x ∈ r, isD x = true) → r.reverse.head? ≠ some 48 → Lib.decDigits (dgn r.reverse) = r.reverse := by
  induction r with
  | nil => intro h; exact absurd rfl h
  | cons b r ih =>
    intro _ hd h0
    have hb := hd b List.mem_cons_self
    have hbt := isDig_t hb
    have hdg := dg_eq b
    rw [List.reverse_cons] at h0 ⊢
    rw [dgn_snoc]
    by_cases hr : r = []
    · subst hr
      rw [List.reverse_nil, List.nil_append]
      have e : dgn [] * 10 + dg b = dg b := by show 0 * 10 + dg b = dg b; omega
      rw [e, dec_lo (by omega), dig_back hb]
    · have hne : r.reverse ≠ [] := by simpa using hr
      rw [head_app hne] at h0
      have hd' : ∀ x ∈ r.reverse, isD x = true := fun x hx => hd x (List.mem_cons_of_mem _ (List.mem_reverse.1 hx))
      have h1 := dgn_pos hne hd' h0
      have h2 := ih hr (fun x hx => hd x (List.mem_cons_of_mem _ hx)) h0
      rw [dec_hi (by omega), show (dgn r.reverse * 10 + dg b) / 10 = dgn r.reverse by omega, show (dgn r.reverse * 10 + dg b) % 10 = dg b by omega, h2, dig_back hb]
theorem dec_back' (l : List UInt8) (hne : l ≠ []) (hd : ∀ x ∈ l, isD x = true) (h0 : l.head? ≠ some 48) : Lib.decDigits (dgn l) = l := by
  have := dec_back l.reverse (by simpa using hne) (fun x hx => hd x (List.mem_reverse.1 hx)) (by rw [List.reverse_reverse]; exact h0)
  rwa [List.reverse_reverse] at this

/-! Columns. -/
theorem isL_of (n : Nat) (h : n < 26) : isL (UInt8.ofNat (65 + n)) = true := by
  unfold isL pLet
  rw [UInt8.toNat_ofNat', Bool.or_eq_true, Bool.and_eq_true, decide_eq_true_eq, decide_eq_true_eq]
  exact .inl (by omega)
theorem lv_of (n : Nat) (h : n < 26) : lv (UInt8.ofNat (65 + n)) = n + 1 := by
  unfold lv
  rw [UInt8.toNat_ofNat', if_neg (by omega)]
  omega
theorem col_let (n : Nat) (h : n < 64) : colV (colS n) = n + 1 ∧ (∀ x ∈ colS n, isL x = true) ∧ colS n ≠ [] ∧ (colS n).length ≤ 3 := by
  by_cases h1 : n < 26
  · rw [colS_lo h1]
    refine ⟨?_, ?_, by simp, by simp⟩
    · show 26 * 0 + lv _ = _
      rw [lv_of n h1]; omega
    · intro x hx
      rw [List.mem_singleton] at hx
      rw [hx]; exact isL_of n h1
  · rw [colS_hi h1, colS_lo (show n / 26 - 1 < 26 by omega)]
    refine ⟨?_, ?_, by simp, by simp⟩
    · show 26 * (26 * 0 + lv _) + lv _ = _
      rw [lv_of _ (by omega), lv_of _ (by omega)]; omega
    · intro x hx
      simp only [List.cons_append, List.nil_append, List.mem_cons, List.not_mem_nil, or_false] at hx
      rcases hx with hx | hx
      · rw [hx]; exact isL_of _ (by omega)
      · rw [hx]; exact isL_of _ (by omega)
theorem col_back (N : List UInt8) (h0 : N ≠ []) (h3 : N.length ≤ 3) (hL : ∀ x ∈ N, isL x = true) (hb : colV N ≤ 64) : colS (colV N - 1).toNat = cap N := by
  match N, h0, h3 with
  | [a], _, _ =>
    have ha := hL a (by simp)
    have := lv_bd ha
    have e : colV [a] = lv a := by show 26 * 0 + lv a = lv a; omega
    rw [e, colS_lo (by omega), up_lv ha]; rfl
  | [a, b], _, _ =>
    have ha := hL a (by simp)
    have hb' := hL b (by simp)
    have := lv_bd ha
    have := lv_bd hb'
    have e : colV [a, b] = 26 * lv a + lv b := by show 26 * (26 * 0 + lv a) + lv b = _; omega
    rw [e] at hb ⊢
    rw [colS_hi (by omega), show (26 * lv a + lv b - 1).toNat / 26 - 1 = (lv a - 1).toNat by omega, show (26 * lv a + lv b - 1).toNat % 26 = (lv b - 1).toNat by omega, colS_lo (by omega), up_lv ha, up_lv hb']
    rfl
  | [a, b, c], _, _ =>
    have := lv_bd (hL a (by simp))
    have := lv_bd (hL b (by simp))
    have := lv_bd (hL c (by simp))
    have e : colV [a, b, c] = 26 * (26 * lv a + lv b) + lv c := by show 26 * (26 * (26 * 0 + lv a) + lv b) + lv c = _; omega
    omega

/-! The parts of what is printed. -/
def sg (a : Bool) : List UInt8 := if a = true then [36] else []
theorem dol_sg (a : Bool) (l : List UInt8) (h : dol l = false) : dol (sg a ++ l) = a ∧ und (sg a ++ l) = l := by
  cases a with
  | true => exact ⟨rfl, rfl⟩
  | false =>
    refine ⟨h, ?_⟩
    show und l = l
    cases l with
    | nil => rfl
    | cons b t =>
      have hb : (b == 36) = false := h
      simp [und, hb]
theorem tw_app (p : UInt8 → Bool) (a b : List UInt8) (ha : ∀ x ∈ a, p x = true) (hb : ∀ x ∈ b.head?, p x = false) : (a ++ b).takeWhile p = a ∧ (a ++ b).dropWhile p = b := by
  induction a with
  | nil =>
    cases b with
    | nil => exact ⟨rfl, rfl⟩
    | cons x b =>
      have := hb x (by simp)
      simp [List.takeWhile_cons, List.dropWhile_cons, this]
  | cons x a ih =>
    obtain ⟨h1, h2⟩ := ih (fun y hy => ha y (List.mem_cons_of_mem _ hy))
    have := ha x List.mem_cons_self
    simp only [List.cons_append, List.takeWhile_cons, List.dropWhile_cons, this, if_true]
    exact ⟨by rw [h1], h2⟩
theorem dol_let {l : List UInt8} (h : ∀ x ∈ l.head?, isL x = true ∨ isD x = true) : dol l = false := by
  cases l with
  | nil => rfl
  | cons b t =>
    have hb := h b (by simp)
    show (b == 36) = false
    rw [beq_eq_false_iff_ne]
    intro e
    subst e
    rcases hb with hb | hb
    · exact absurd hb (by decide)
    · exact absurd hb (by decide)

theorem parts_of (a b : Bool) (N D : List UInt8) (hN : N ≠ []) (hNL : ∀ x ∈ N, isL x = true) (hD : D ≠ []) (hDD : ∀ x ∈ D, isD x = true) :
    let L := sg a ++ N ++ sg b ++ D
    dol L = a ∧ nm L = N ∧ dol (l2 L) = b ∧ rw_ L = D ∧ l4 L = [] := by
  intro L
  have hL : L = sg a ++ (N ++ (sg b ++ D)) := by simp [L]
  obtain ⟨n0, N', rfl⟩ : ∃ n0 N', N = n0 :: N' := by cases N with | nil => exact absurd rfl hN | cons x y => exact ⟨x, y, rfl⟩
  obtain ⟨d0, D', rfl⟩ : ∃ d0 D', D = d0 :: D' := by cases D with | nil => exact absurd rfl hD | cons x y => exact ⟨x, y, rfl⟩
  have c1 := dol_sg a ((n0 :: N') ++ (sg b ++ (d0 :: D'))) (dol_let (by intro x hx; simp at hx; rw [← hx]; exact .inl (hNL n0 (by simp))))
  have c2 := dol_sg b (d0 :: D') (dol_let (by intro x hx; simp at hx; rw [← hx]; exact .inr (hDD d0 (by simp))))
  have hnl : ∀ x : UInt8, isD x = true → isL x = false := by
    intro x hx
    have := isDig_t hx
    cases hl : isL x with
    | false => rfl
    | true => have := isL_t hl; omega
  have c3 := tw_app isL (n0 :: N') (sg b ++ (d0 :: D')) hNL (by
    intro x hx
    cases b with
    | true =>
      have : x = 36 := by simpa [sg] using hx.symm
      rw [this]; decide
    | false =>
      have : x = d0 := by simpa [sg] using hx.symm
      rw [this]; exact hnl _ (hDD d0 (by simp)))
  have c4 := tw_app isD (d0 :: D') [] hDD (by intro x hx; simp at hx)
  rw [List.append_nil] at c4
  have e1 : und L = (n0 :: N') ++ (sg b ++ (d0 :: D')) := by rw [hL]; exact c1.2
  have e2 : l2 L = sg b ++ (d0 :: D') := by unfold l2; rw [e1]; exact c3.2
  have e3 : l3 L = d0 :: D' := by unfold l3; rw [e2]; exact c2.2
  refine ⟨by rw [hL]; exact c1.1, by unfold nm; rw [e1]; exact c3.1, by rw [e2]; exact c2.1, by unfold rw_; rw [e3]; exact c4.1, by unfold l4; rw [e3]; exact c4.2⟩

/-- What is printed of a reference is read as it. -/
theorem parse_print (c r : Int) (ac ar : Bool) (h : okB c r = true) :
    parseV (printL c r ac ar) = .tuple #[.agg #[.int .i64 c, .int .i64 r, .bool ac, .bool ar], .int .i64 0] := by
  obtain ⟨h0, h1, h2, h3⟩ := okB_t h
  obtain ⟨k1, k2, k3, k4⟩ := col_let c.toNat (by omega)
  obtain ⟨d1, d2, d3, d4⟩ := dec_dig (r + 1).toNat
  have hlen := dec_len 4 (r + 1).toNat (by omega)
  obtain ⟨p1, p2, p3, p4, p5⟩ := parts_of ac ar (colS c.toNat) (Lib.decDigits (r + 1).toNat) k3 k2 d3 d2
  have e : printL c r ac ar = sg ac ++ colS c.toNat ++ sg ar ++ Lib.decDigits (r + 1).toNat := rfl
  rw [← e] at p1 p2 p3 p4 p5
  have hs : shapeB (printL c r ac ar) = true := shapeB_mk p5 (by rw [p2]; exact k3) (by rw [p2]; exact k4) (by rw [p4]; exact d3) (by rw [p4]; omega) (by rw [p4]; exact d4 (by omega))
  have c1 : colV (colS c.toNat) - 1 = c := by omega
  have c2 : ((r + 1).toNat : Int) - 1 = r := by omega
  simp only [parseV, hs, if_true, p1, p2, p3, p4, d1, goodV, c1, c2, h]

theorem und_sg (L : List UInt8) : L = sg (dol L) ++ und L := by
  cases L with
  | nil => rfl
  | cons b t =>
    cases h : b == 36
    · simp [sg, dol, und, h]
    · have : b = 36 := by simpa using h
      subst this
      simp [sg, dol, und]
theorem cap_app (a b : List UInt8) : cap (a ++ b) = cap a ++ cap b := by simp [cap]
theorem cap_sg (a : Bool) : cap (sg a) = sg a := by cases a <;> rfl
theorem cap_dig {l : List UInt8} (h : ∀ x ∈ l, isD x = true) : cap l = l := by
  induction l with
  | nil => rfl
  | cons b l ih =>
    show up b :: cap l = b :: l
    rw [up_dig (h b List.mem_cons_self), ih (fun x hx => h x (List.mem_cons_of_mem _ hx))]

/-- What is read of a text is printed as the text, in capital letters. -/
theorem print_parse (L : List UInt8) (x y : Int) (a b : Bool) (f : Int) (h : parseV L = .tuple #[.agg #[.int .i64 x, .int .i64 y, .bool a, .bool b], .int .i64 f]) (hf : f = 0) :
    okB x y = true ∧ printL x y a b = cap L := by
  subst hf
  unfold parseV at h
  split at h
  case isFalse => exact absurd h (by simp [badV])
  case isTrue hs =>
    obtain ⟨g1, g2, g3, g4, g5, g6⟩ := shapeB_t hs
    unfold goodV at h
    split at h
    case isFalse => exact absurd h (by simp)
    case isTrue hok =>
      simp only [Value.tuple.injEq, Value.agg.injEq, Array.mk.injEq, List.cons.injEq, Value.int.injEq, Value.bool.injEq, true_and, and_true] at h
      obtain ⟨rfl, rfl, rfl, rfl⟩ := h
      obtain ⟨o0, o1, o2, o3⟩ := okB_t hok
      refine ⟨hok, ?_⟩
      have e1 := col_back (nm L) g2 g3 (nm_isL L) (by omega)
      have e2 := dec_back' (rw_ L) g4 (rw_isD L) g6
      have e3 : ((dgn (rw_ L) : Int) - 1 + 1).toNat = dgn (rw_ L) := by omega
      have e : printL (colV (nm L) - 1) ((dgn (rw_ L) : Int) - 1) (dol L) (dol (l2 L)) = sg (dol L) ++ colS (colV (nm L) - 1).toNat ++ sg (dol (l2 L)) ++ Lib.decDigits ((dgn (rw_ L) : Int) - 1 + 1).toNat := rfl
      rw [e, e1, e3, e2]
      have hL : L = sg (dol L) ++ (nm L ++ (sg (dol (l2 L)) ++ rw_ L)) := by
        have h2 : rw_ L = l3 L := by rw [rw_append, g1, List.append_nil]
        rw [h2]
        show L = sg (dol L) ++ (nm L ++ (sg (dol (l2 L)) ++ und (l2 L)))
        rw [← und_sg (l2 L), ← nm_append, ← und_sg L]
      conv => rhs; rw [hL]
      rw [cap_app, cap_app, cap_app, cap_sg, cap_sg, cap_dig (rw_isD L)]
      simp
end Go.Proofs.YtacakmlkaikabaaDoor

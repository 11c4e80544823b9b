/- cell.Cells: its contract as an iterator: the cells of an area, row by row; its own loops go over 'between'. -/
import Derived.Test.YtacakmlkaikabaaDoorDa
import Derived.Test.YtacakmlkaikabaaDoorDb
import Derived.Test.YtacakmlkaikabaaDoorCd
namespace Go.Proofs.YtacakmlkaikabaaDoor
set_option linter.unusedVariables false
open Go.RowKit Go.Shelf

attribute [local go_sem] Oper.semAt_some

theorem room_none {F : Fence} (hd : F.depth = none) (k : Nat) : F.room k := fun d h => by rw [hd] at h; cases h
theorem roundIn_deep {F : Fence} (hd : F.depth = none) {m m' : Nat} {P : Program} {l : Nat} {f : FuncId} {tmps : Array Value} {assign body : Code} {w : World} {R : Ending → World → Prop}
    (h : RoundIn F m P l f tmps assign body w R) : RoundIn F m' P l f tmps assign body w R := ⟨h.1, fun c cs _ => h.2 c cs (room_none hd _)⟩
theorem yield_deep {F : Fence} (hd : F.depth = none) {m : Nat} (m' : Nat) {P : Program} {l : Nat} {args : Array Value} {W : World} {R : Ending → World → Prop} (h : YieldAt F m P l args W R) : YieldAt F m' P l args W R := by
  obtain ⟨fn, tmps, assign, body, hy, hR⟩ := h
  exact ⟨fn, tmps, assign, body, hy, roundIn_deep hd hR⟩
theorem yield_inRound {F : Fence} {m : Nat} (l2 : Nat) {P : Program} {l : Nat} {args : Array Value} {W : World} {R : Ending → World → Prop} (h : YieldAt F m P l args W R) : YieldAt (F.inRound l2) m P l args W R := h

/-- What the collecting caller's variable (the box Bo, type 42) owns. -/
def ownB (Bo : Nat) (W : World) : Option Nat := (W.cell? ⟨Bo, 0, none⟩).bind Value.ownBlock
def Fit (Bo : Nat) (W : World) : Prop := (∃ v, Boxed W Bo 42 v) ∧ ∀ g, ownB Bo W = some g → g < W.heap.size
/-- What a step of the caller's keeps: every block of cells, but the variable's box and what it owns. -/
structure Kep (Bo : Nat) (A B : World) : Prop where
  size : A.heap.size ≤ B.heap.size
  keep : ∀ k o, A.heap[k]? = some o → o.isCells = true → k ≠ Bo → ownB Bo A ≠ some k → B.heap[k]? = some o
  own : ownB Bo B = ownB Bo A ∨ ∃ g, A.heap.size ≤ g ∧ ownB Bo B = some g
  fit : Fit Bo B
structure Safe (Bo k : Nat) (o : Obj) (W : World) : Prop where
  heap : W.heap[k]? = some o
  cells : o.isCells = true
  ne : k ≠ Bo
  own : ownB Bo W ≠ some k

theorem Safe.kep {Bo k : Nat} {o : Obj} {A B : World} (h : Safe Bo k o A) (hk : Kep Bo A B) : Safe Bo k o B := by
  refine ⟨hk.keep k o h.heap h.cells h.ne h.own, h.cells, h.ne, fun e => ?_⟩
  have hl := (Array.getElem?_eq_some_iff.1 h.heap).1
  rcases hk.own with e' | ⟨g, hg, e'⟩
  · exact h.own (e'.symm.trans e)
  · rw [e'] at e; cases e; omega
theorem Kep.trans {Bo : Nat} {A B C : World} (h : Kep Bo A B) (h' : Kep Bo B C) : Kep Bo A C := by
  refine ⟨Nat.le_trans h.size h'.size, fun k o hk hc hn ho => (Safe.kep (Safe.kep ⟨hk, hc, hn, ho⟩ h) h').heap, ?_, h'.fit⟩
  rcases h'.own with e | ⟨g, hg, e⟩
  · rcases h.own with e2 | ⟨g, hg, e2⟩
    · exact .inl (e.trans e2)
    · exact .inr ⟨g, hg, e.trans e2⟩
  · exact .inr ⟨g, Nat.le_trans h.size hg, e⟩
theorem ownB_of {Bo : Nat} {A B : World} (h : B.heap[Bo]? = A.heap[Bo]?) : ownB Bo B = ownB Bo A := by
  unfold ownB World.cell?; rw [h]
theorem Fit.lt {Bo : Nat} {W : World} (h : Fit Bo W) : Bo < W.heap.size := by obtain ⟨⟨v, hv⟩, _⟩ := h; exact hv.lt
/-- A step that turns no block of cells. -/
theorem Fit.grown {Bo : Nat} {A B : World} {row : Option Nat} (h : Fit Bo A) (hg : A.grownBy B row) (hr : ∀ r, row = some r → ∃ o : Obj, A.heap[r]? = some o ∧ o.isCells = false) : B.heap[Bo]? = A.heap[Bo]? ∧ Fit Bo B := by
  obtain ⟨⟨v, hv⟩, ho⟩ := h
  have hb : B.heap[Bo]? = A.heap[Bo]? := hg.block Bo hv.lt (fun e => by obtain ⟨o, e1, e2⟩ := hr Bo e.symm; rw [show A.heap[Bo]? = _ from hv] at e1; cases e1; cases e2)
  exact ⟨hb, ⟨v, hb.trans hv⟩, fun g e => Nat.lt_of_lt_of_le (ho g (by rw [← ownB_of hb]; exact e)) hg.size⟩
theorem Kep.grown {Bo : Nat} {A B : World} {row : Option Nat} (h : Fit Bo A) (hg : A.grownBy B row) (hr : ∀ r, row = some r → ∃ o : Obj, A.heap[r]? = some o ∧ o.isCells = false) : Kep Bo A B := by
  obtain ⟨hb, hf⟩ := h.grown hg hr
  refine ⟨hg.size, fun k o hk hc _ _ => (hg.block k (Array.getElem?_eq_some_iff.1 hk).1 (fun e => ?_)).trans hk, .inl (ownB_of hb), hf⟩
  obtain ⟨o', e1, e2⟩ := hr k e.symm
  rw [hk] at e1; cases e1; rw [hc] at e2; cases e2
theorem Kep.refl {Bo : Nat} {A : World} (h : Fit Bo A) : Kep Bo A A := ⟨Nat.le_refl _, fun k o hk _ _ _ => hk, .inl rfl, h⟩
theorem Kep.alloc {Bo : Nat} {A B : World} (h : Kep Bo A B) (o : Obj) : Kep Bo A (B.alloc o) := h.trans (Kep.grown h.fit (World.grownBy_alloc B o none) (fun r e => by cases e))
theorem Kep.putObj {Bo : Nat} {A B : World} (h : Kep Bo A B) {l : Nat} {o : Obj} (o' : Obj) (hl : B.heap[l]? = some o) (hc : o.isCells = false) : Kep Bo A (B.putObj l o') := h.trans (Kep.grown h.fit (grownBy_putObj' B l o') (fun r e => by cases e; exact ⟨o, hl, hc⟩))
theorem kep_own {β : Type} (Bo B : Nat) (A : World) : OwnFrom B (fun (_ : β) W => Kep Bo A W) := fun s X Y row hs hg hr => hs.trans (Kep.grown hs.fit hg (fun r e => (hr r e).2))
theorem fit_own {β : Type} (Bo B : Nat) : OwnFrom B (fun (_ : β) W => Fit Bo W) := fun s X Y row hs hg hr => (hs.grown hg (fun r e => (hr r e).2)).2
theorem OwnFrom.le {β : Type} {B B' : Nat} {I : β → World → Prop} (h : OwnFrom B I) (hb : B ≤ B') : OwnFrom B' I := fun s X Y row hs hg hr => h s X Y row hs hg (fun r e => ⟨Nat.le_trans hb (hr r e).1, (hr r e).2⟩)
theorem OwnFrom.map {β γ : Type} {B : Nat} {I : β → World → Prop} (h : OwnFrom B I) (f : γ → β) : OwnFrom B (fun s W => I (f s) W) := fun s X Y row hs hg hr => h (f s) X Y row hs hg hr
theorem safe_new {Bo : Nat} {W : World} (h : Fit Bo W) (o : Obj) (hc : o.isCells = true) : Safe Bo W.heap.size o (W.alloc o) :=
  ⟨World.alloc_heap_new W o, hc, fun e => by have := h.lt; omega, fun e => by
    rw [ownB_of (Below.heap_alloc W o Bo h.lt)] at e
    have := h.2 _ e; omega⟩
/-- Behind Below from the world's end on: the box and what it owns lie as they lay. -/
theorem kep_below {Bo : Nat} {A B : World} (h : Fit Bo A) (hb : Below A.heap.size A B) : Kep Bo A B := by
  obtain ⟨⟨v, hv⟩, ho⟩ := h
  have hB := hb.block Bo hv.lt
  refine ⟨hb.size, fun k o hk _ _ _ => (hb.block k (Array.getElem?_eq_some_iff.1 hk).1).trans hk, .inl (ownB_of hB), ⟨v, hB.trans hv⟩, fun g e => Nat.lt_of_lt_of_le (ho g (by rw [← ownB_of hB]; exact e)) hb.size⟩
theorem safe_own {Bo B : Nat} (k : Nat) (o : Obj) {β : Type} {I : β → World → Prop} (hI : OwnFrom B I) (hf : ∀ s W, I s W → Fit Bo W) : OwnFrom B (fun s W => I s W ∧ Safe Bo k o W) :=
  fun s X Y row hs hg hr => ⟨hI s X Y row hs.1 hg hr, hs.2.kep (Kep.grown (hf _ _ hs.1) hg (fun r e => (hr r e).2))⟩

/-- A struct's box: four cells. -/
def Box4 (W : World) (B : Nat) (c r : Int) (a b : Bool) : Prop := W.heap[B]? = some (.cells #[.int .i64 c, .int .i64 r, .bool a, .bool b] 23 (0, 0))

def rowOf (p q : Nat) (r : Int) : List (Int × Int) := (upto p q).map (fun c => (c, r))
def grid (p q : Nat) (rs : List Int) : List (Int × Int) := rs.flatMap (rowOf p q)
theorem grid_snoc (p q : Nat) (rs : List Int) (r : Int) : grid p q (rs ++ [r]) = grid p q rs ++ rowOf p q r := by simp [grid]
theorem rowOf_len (p q : Nat) (r : Int) : (rowOf p q r).length = q - p := by simp [rowOf, upto_len]
theorem grid_len (p q : Nat) (rs : List Int) : (grid p q rs).length = rs.length * (q - p) := by
  induction rs with
  | nil => simp [grid]
  | cons r rs ih => rw [grid, List.flatMap_cons, List.length_append, rowOf_len, ← grid, ih]; simp [Nat.succ_mul]; omega

def enc4 (x : Int × Int) : Array Value := #[.agg #[.int .i64 x.1, .int .i64 x.2, .bool false, .bool false]]

/-- The word, where the variable is one at all. -/
def KepI (Bo : Nat) (A B : World) : Prop := Fit Bo A → Kep Bo A B
theorem KepI.trans {Bo : Nat} {A B C : World} (h : KepI Bo A B) (h' : KepI Bo B C) : KepI Bo A C := fun f => (h f).trans (h' (h f).fit)
theorem kepI_put {Bo : Nat} (W : World) (l : Nat) (o o' : Obj) (hl : W.heap[l]? = some o) (hc : o.isCells = false) : KepI Bo W (W.putObj l o') := fun f => (Kep.refl f).putObj o' hl hc
theorem Fit.alloc {Bo : Nat} {A : World} (h : Fit Bo A) (o : Obj) : Fit Bo (A.alloc o) := ((Kep.refl h).alloc o).fit
theorem Safe.alloc {Bo k : Nat} {o : Obj} {A : World} (h : Safe Bo k o A) (f : Fit Bo A) (o' : Obj) : Safe Bo k o (A.alloc o') := h.kep ((Kep.refl f).alloc o')
theorem below_grown {A B : World} (h : Below A.heap.size A B) : A.grownBy B none := ⟨h.os, h.tape, h.output, h.size, fun k hk _ => h.block k hk⟩
end Go.Proofs.YtacakmlkaikabaaDoor

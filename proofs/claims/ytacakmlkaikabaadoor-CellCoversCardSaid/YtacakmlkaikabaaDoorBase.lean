/- Small facts on a block of cells: what it holds behind a step that leaves it alone. -/
import Derived.WalkKit
namespace Go.Proofs.YtacakmlkaikabaaDoor
open Go.RowKit

theorem blk_cell {w : World} {b : Nat} {cs : Array Value} {t : TypeId} (h : w.heap[b]? = some (.cells cs t (0, 0))) (j : Nat) : w.cell? ⟨b, j, none⟩ = cs[j]? := by
  simp [World.cell?, h]
theorem blk_free {w : World} {b : Nat} {cs : Array Value} {t : TypeId} (h : w.heap[b]? = some (.cells cs t (0, 0))) (j : Nat) : w.frozen? ⟨b, j, none⟩ = false := by
  simp [World.frozen?, h]
theorem blk_lt {w : World} {b : Nat} {o : Obj} (h : w.heap[b]? = some o) : b < w.heap.size := by
  rcases Nat.lt_or_ge b w.heap.size with h' | h'
  · exact h'
  · simp [Array.getElem?_eq_none h'] at h
theorem blk_new (w : World) (o : Obj) : (w.alloc o).heap[w.heap.size]? = some o := by show (w.heap.push o)[w.heap.size]? = some o; simp
theorem blk_alloc {w : World} {b : Nat} {o : Obj} (h : w.heap[b]? = some o) (o' : Obj) : (w.alloc o').heap[b]? = some o := by
  rw [Below.heap_alloc _ _ _ (blk_lt h)]; exact h
theorem blk_drew {w : World} {b : Nat} {o : Obj} (h : w.heap[b]? = some o) : w.drew.heap[b]? = some o := h
theorem blk_keep {W w : World} {b : Nat} {o : Obj} (hb : Below W.heap.size W w) (h : W.heap[b]? = some o) : w.heap[b]? = some o :=
  (hb.block b (blk_lt h)).trans h
theorem blk_set {w : World} {b : Nat} {cs : Array Value} {t : TypeId} (h : w.heap[b]? = some (.cells cs t (0, 0))) (j : Nat) (v : Value) : (w.setCell ⟨b, j, none⟩ v).heap[b]? = some (.cells (cs.setIfInBounds j v) t (0, 0)) := by
  simp [World.setCell, Array.getElem?_modify, h]
theorem blk_far {w : World} {b : Nat} {o : Obj} (h : w.heap[b]? = some o) {p : Addr} (hp : p.block ≠ b) (v : Value) : (w.setCell p v).heap[b]? = some o := by
  rw [Below.heap_setCell _ _ _ _ (Ne.symm hp)]; exact h
theorem heap_get (w : World) (o : Obj) (k : Nat) : (w.alloc o).heap[k]? = if k = w.heap.size then some o else w.heap[k]? := by
  show (w.heap.push o)[k]? = _
  rw [Array.getElem?_push]
theorem heap_get_set (w : World) (p : Addr) (v : Value) (k : Nat) : (w.setCell p v).heap[k]? = if k = p.block then (w.heap[k]?).map (fun o => match o with | .cells c e f => .cells (if p.spot.isSome then c else c.setIfInBounds p.off v) e f | o => o) else w.heap[k]? := by
  by_cases h : k = p.block
  · simp only [World.setCell, Array.getElem?_modify, h, if_true]
    cases w.heap[p.block]? with
    | none => rfl
    | some x => cases x <;> simp
  · rw [Below.heap_setCell _ _ _ _ h, if_neg h]
end Go.Proofs.YtacakmlkaikabaaDoor

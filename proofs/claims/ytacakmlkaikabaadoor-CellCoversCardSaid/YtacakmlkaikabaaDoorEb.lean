/- law.shown: the chapter's examples hold; first the data. -/
import Derived.Test.YtacakmlkaikabaaDoorEa
import Derived.Test.YtacakmlkaikabaaDoorPb
import Derived.Test.YtacakmlkaikabaaDoorCg
namespace Go.Proofs.YtacakmlkaikabaaDoor
set_option linter.unusedVariables false
open Go.RowKit

def txtA : List ByteArray := [⟨#[65, 49]⟩, ⟨#[36, 98, 36, 50, 48]⟩, ⟨#[66, 76, 49, 48, 48, 48]⟩, ⟨#[66, 77, 49]⟩, ⟨#[65, 48]⟩, ⟨#[65, 49, 48, 48, 49]⟩, ⟨#[49, 65]⟩, ⟨#[65, 66, 67, 68, 49]⟩]
def wantA : List (Int × Int × Bool × Bool × Int) := [(0, 0, false, false, 0), (1, 19, true, true, 0), (63, 999, false, false, 0), (0, 0, false, false, 14), (0, 0, false, false, 3), (0, 0, false, false, 14), (0, 0, false, false, 3), (0, 0, false, false, 3)]

theorem ex0 : parseV [65, 49] = .tuple #[.agg #[.int .i64 0, .int .i64 0, .bool false, .bool false], .int .i64 0] := by kernel_rfl
theorem ex1 : parseV [36, 98, 36, 50, 48] = .tuple #[.agg #[.int .i64 1, .int .i64 19, .bool true, .bool true], .int .i64 0] := by kernel_rfl
theorem ex2 : parseV [66, 76, 49, 48, 48, 48] = .tuple #[.agg #[.int .i64 63, .int .i64 999, .bool false, .bool false], .int .i64 0] := by kernel_rfl
theorem ex3 : parseV [66, 77, 49] = .tuple #[.agg #[.int .i64 0, .int .i64 0, .bool false, .bool false], .int .i64 14] := by kernel_rfl
theorem ex4 : parseV [65, 48] = .tuple #[.agg #[.int .i64 0, .int .i64 0, .bool false, .bool false], .int .i64 3] := by kernel_rfl
theorem ex5 : parseV [65, 49, 48, 48, 49] = .tuple #[.agg #[.int .i64 0, .int .i64 0, .bool false, .bool false], .int .i64 14] := by kernel_rfl
theorem ex6 : parseV [49, 65] = .tuple #[.agg #[.int .i64 0, .int .i64 0, .bool false, .bool false], .int .i64 3] := by kernel_rfl
theorem ex7 : parseV [65, 66, 67, 68, 49] = .tuple #[.agg #[.int .i64 0, .int .i64 0, .bool false, .bool false], .int .i64 3] := by kernel_rfl
theorem exP : printL 26 0 false false = [65, 65, 49] := by kernel_rfl
theorem exM : mvV 0 0 true false 2 3 = .tuple #[.agg #[.int .i64 0, .int .i64 3, .bool true, .bool false], .bool true] := by kernel_rfl
theorem exN : mvV 0 0 false false (-1) 0 = .tuple #[.agg #[.int .i64 0, .int .i64 0, .bool false, .bool false], .bool false] := by kernel_rfl
theorem exI : idx 1 1 = 65 := by kernel_rfl
theorem exA : atC 65 = 1 ∧ atR 65 = 1 ∧ atC (-1) = -1 ∧ atR (-1) = -1 := by decide
theorem exR : area 1 2 0 0 = 6 := by decide
theorem exC : (cellsL 1 1 0 0).take 9 = [(0, 0), (1, 0), (0, 1), (1, 1)] := by decide
-- WALK
def txt (k : Nat) : ByteArray := txtA[k]?.getD ⟨#[]⟩
def wnt (k : Nat) : Int × Int × Bool × Bool × Int := wantA[k]?.getD (0, 0, false, false, 0)
theorem ex_all : ∀ k, k < 8 → parseV (txt k).data.toList = .tuple #[.agg #[.int .i64 (wnt k).1, .int .i64 (wnt k).2.1, .bool (wnt k).2.2.1, .bool (wnt k).2.2.2.1], .int .i64 (wnt k).2.2.2.2]
  | 0, _ => ex0 | 1, _ => ex1 | 2, _ => ex2 | 3, _ => ex3 | 4, _ => ex4 | 5, _ => ex5 | 6, _ => ex6 | 7, _ => ex7
theorem txt_size : ∀ k, k < 8 → (txt k).size ≤ 1000 := by decide
def boxT : Obj := .cells #[.string ⟨#[65, 49]⟩, .string ⟨#[36, 98, 36, 50, 48]⟩, .string ⟨#[66, 76, 49, 48, 48, 48]⟩, .string ⟨#[66, 77, 49]⟩, .string ⟨#[65, 48]⟩, .string ⟨#[65, 49, 48, 48, 49]⟩, .string ⟨#[49, 65]⟩, .string ⟨#[65, 66, 67, 68, 49]⟩] 9
def boxW : Obj := .cells #[.int .i64 0, .int .i64 0, .bool false, .bool false, .int .i64 1, .int .i64 19, .bool true, .bool true, .int .i64 63, .int .i64 999, .bool false, .bool false, .int .i64 0, .int .i64 0, .bool false, .bool false, .int .i64 0, .int .i64 0, .bool false, .bool false, .int .i64 0, .int .i64 0, .bool false, .bool false, .int .i64 0, .int .i64 0, .bool false, .bool false, .int .i64 0, .int .i64 0, .bool false, .bool false] 23
def boxE : Obj := .cells #[.int .i64 0, .int .i64 0, .int .i64 0, .int .i64 14, .int .i64 3, .int .i64 14, .int .i64 3, .int .i64 3] 25
theorem atT {w : World} {b : Nat} (h : w.heap[b]? = some boxT) : ∀ k, k < 8 → w.cell? ⟨b, k, none⟩ = some (.string (txt k)) := by
  intro k hk
  rw [blk_cell h]
  match k, hk with
  | 0, _ => rfl | 1, _ => rfl | 2, _ => rfl | 3, _ => rfl | 4, _ => rfl | 5, _ => rfl | 6, _ => rfl | 7, _ => rfl
theorem atE {w : World} {b : Nat} (h : w.heap[b]? = some boxE) : ∀ k, k < 8 → w.cell? ⟨b, k, none⟩ = some (.int .i64 (wnt k).2.2.2.2) := by
  intro k hk
  rw [blk_cell h]
  match k, hk with
  | 0, _ => rfl | 1, _ => rfl | 2, _ => rfl | 3, _ => rfl | 4, _ => rfl | 5, _ => rfl | 6, _ => rfl | 7, _ => rfl
theorem atW {w : World} {b : Nat} (h : w.heap[b]? = some boxW) : ∀ k, k < 8 → w.cell? ⟨b, k * 4, none⟩ = some (.int .i64 (wnt k).1) ∧ w.cell? ⟨b, k * 4 + 1, none⟩ = some (.int .i64 (wnt k).2.1) ∧ w.cell? ⟨b, k * 4 + 2, none⟩ = some (.bool (wnt k).2.2.1) ∧ w.cell? ⟨b, k * 4 + 3, none⟩ = some (.bool (wnt k).2.2.2.1) := by
  intro k hk
  rw [blk_cell h, blk_cell h, blk_cell h, blk_cell h]
  match k, hk with
  | 0, _ => exact ⟨rfl, rfl, rfl, rfl⟩ | 1, _ => exact ⟨rfl, rfl, rfl, rfl⟩ | 2, _ => exact ⟨rfl, rfl, rfl, rfl⟩ | 3, _ => exact ⟨rfl, rfl, rfl, rfl⟩ | 4, _ => exact ⟨rfl, rfl, rfl, rfl⟩ | 5, _ => exact ⟨rfl, rfl, rfl, rfl⟩ | 6, _ => exact ⟨rfl, rfl, rfl, rfl⟩ | 7, _ => exact ⟨rfl, rfl, rfl, rfl⟩

def Stop (p : Prop) : Prop := p
theorem stop_here {p : Prop} (h : Stop p) : p := h
def printV (c r : Int) (ac ar : Bool) : Value := if okB c r = true then .string ⟨(printL c r ac ar).toArray⟩ else .string ⟨#[]⟩
theorem print_any (c r : Int) (ac ar : Bool) (w : World) (ht : HT w) :
    Calls Tryd.prog 14 #[.agg #[.int .i64 c, .int .i64 r, .bool ac, .bool ar]] w fun e w' => e = .returned (printV c r ac ar) ∧ Below w.heap.size w w' := by
  cases h : okB c r
  · simp only [printV, h, Bool.false_eq_true, if_false]; exact print_no c r ac ar w h
  · simp only [printV, h, if_true]; exact print_yes c r ac ar w ht h
theorem exPV : printV 26 0 false false = .string ⟨#[65, 65, 49]⟩ := by kernel_rfl
theorem exP2 : printV 64 0 false false = .string ⟨#[]⟩ := by kernel_rfl
theorem exA1 : atC 65 = 1 := by decide
theorem exA2 : atR 65 = 1 := by decide
theorem exA3 : atC (-1) = -1 := by decide
theorem exA4 : atR (-1) = -1 := by decide
def listL : List (Int × Int) := [(0, 0), (1, 0), (0, 1), (1, 1)]
theorem rowL (w : World) : RowAt (w.alloc (.cells #[.int .i64 0, .int .i64 0, .bool false, .bool false, .int .i64 1, .int .i64 0, .bool false, .bool false, .int .i64 0, .int .i64 1, .bool false, .bool false, .int .i64 1, .int .i64 1, .bool false, .bool false] 23)) (.slice (some ⟨w.heap.size, 0, none⟩) 4 4) [(0, 0), (1, 0), (0, 1), (1, 1)] := by
  refine ⟨_, _, rfl, fun j hj => ⟨_, rfl, ?_⟩⟩
  have h := blk_cell (blk_new w (.cells #[.int .i64 0, .int .i64 0, .bool false, .bool false, .int .i64 1, .int .i64 0, .bool false, .bool false, .int .i64 0, .int .i64 1, .bool false, .bool false, .int .i64 1, .int .i64 1, .bool false, .bool false] 23))
  rw [h, h, h, h]
  match j, hj with
  | 0, _ => exact ⟨rfl, rfl, rfl, rfl⟩ | 1, _ => exact ⟨rfl, rfl, rfl, rfl⟩ | 2, _ => exact ⟨rfl, rfl, rfl, rfl⟩ | 3, _ => exact ⟨rfl, rfl, rfl, rfl⟩

set_option maxHeartbeats 8000000 in
set_option maxRecDepth 100000 in
theorem shown_any (w : World) (ht : HT w) : Calls Tryd.prog 9 #[] w fun e w' => e = .returned (.bool true) ∧ Below w.heap.size w w' := by
  have HT0 := Lib.hid ht
  clear ht
  go_enter Tryd.func9, Tryd.ntmps9
  have hW := Below.refl w.heap.size w
  go_wp2_with (go_at_call 20; refine (lawRef_any _ _ _).mono ?_; rintro e w' ⟨rfl, hB⟩; (have hW0 := hW; clear hW; have hW : Below w.heap.size w w' := (by first | exact hW0.trans (hB.mono hW0.size) | exact (hW0.alloc hW0.size _).trans (hB.mono (hW0.alloc hW0.size _).size) | exact ((hW0.alloc hW0.size _).alloc (hW0.alloc hW0.size _).size _).trans (hB.mono ((hW0.alloc hW0.size _).alloc (hW0.alloc hW0.size _).size _).size)); clear hW0); have hT : w'.heap[w.heap.size]? = some boxT := (by first | exact blk_keep hB hT | exact blk_keep hB (blk_new w boxT)))
  obtain ⟨z, hz⟩ : ∃ z, w'.heap.size = z := ⟨_, rfl⟩
  have bW : ((w'.alloc boxW).alloc boxE).heap[z]? = some boxW := by rw [← hz]; exact blk_alloc (blk_new w' boxW) _
  have bE : ((w'.alloc boxW).alloc boxE).heap[z + 1]? = some boxE := by
    have h := blk_new (w'.alloc boxW) boxE
    rw [World.size_alloc, hz] at h; exact h
  have bT : ((w'.alloc boxW).alloc boxE).heap[w.heap.size]? = some boxT := blk_alloc (blk_alloc hT _) _
  have hWW : Below w.heap.size w ((w'.alloc boxW).alloc boxE) := (hW.alloc hW.size _).alloc (hW.alloc hW.size _).size _
  rw [hz]
  unfold boxW boxE at bW bE bT hWW
  generalize ((w'.alloc (.cells #[.int .i64 0, .int .i64 0, .bool false, .bool false, .int .i64 1, .int .i64 19, .bool true, .bool true, .int .i64 63, .int .i64 999, .bool false, .bool false, .int .i64 0, .int .i64 0, .bool false, .bool false, .int .i64 0, .int .i64 0, .bool false, .bool false, .int .i64 0, .int .i64 0, .bool false, .bool false, .int .i64 0, .int .i64 0, .bool false, .bool false, .int .i64 0, .int .i64 0, .bool false, .bool false] 23)).alloc (.cells #[.int .i64 0, .int .i64 0, .int .i64 0, .int .i64 14, .int .i64 3, .int .i64 14, .int .i64 3, .int .i64 3] 25)) = W0 at bW bE bT hWW ⊢
  clear hT hW hB
  go_loopw [4, 5, 6] (fun i p e wr => ∃ (k : Nat), i = .int .i64 k ∧ k ≤ 8 ∧ wr.heap[w.heap.size]? = some boxT ∧ wr.heap[z]? = some boxW ∧ wr.heap[z + 1]? = some boxE ∧ Below w.heap.size w wr) (fun i _ _ _ => 8 - (intOf i).toNat)
  case atStart => exact ⟨0, rfl, by omega, bT, bW, bE, hWW⟩
  case round =>
    clear bT bW bE hWW
    obtain ⟨k, rfl, k0, bT, bW, bE, hW⟩ := hrel
    by_cases hk : k < 8
    · have cT := atT bT k hk
      have sT := txt_size k hk
      have eP := ex_all k hk
      have hk1 : (k : Int) < 8 := by omega
      obtain ⟨s, hs⟩ : ∃ s, txt k = s := ⟨_, rfl⟩
      rw [hs] at cT sT eP
      go_wp2_with (go_at_call 10; refine (parse_any s sT _).mono ?_; rintro e w1 ⟨he, hB⟩; rw [eP] at he; subst he; have cE := atE (blk_keep hB bE) k hk; have cW := atW (blk_keep hB bW) k hk; have hl0 := blk_lt (blk_keep hB bE); have hl1 := blk_lt (blk_keep hB bW); obtain ⟨cW0, cW1, cW2, cW3⟩ := cW; clear eP cT; generalize wnt k = q0 at cE cW0 cW1 cW2 cW3 ⊢; obtain ⟨c0, r0, a0, b0, e0⟩ := q0; dsimp only at cE cW0 cW1 cW2 cW3 ⊢)
      go_region
      go_wp2_with fail
      go_roundw
      case rel => exact ⟨k + 1, by go_num, by omega, blk_drew (blk_alloc (blk_keep hB bT) _), blk_drew (blk_alloc (blk_keep hB bW) _), blk_drew (blk_alloc (blk_keep hB bE) _), ((hW.trans (hB.mono hW.size)).alloc (by have h1 := hW.size; have h2 := hB.size; omega) _).drew⟩
      case measure => simp [intOf]; omega
    · obtain rfl : k = 8 := by omega
      clear hk bT bW bE k0
      go_wp2_with (first
        | (go_at_call 20; refine (lawRef_any _ _ _).mono ?_; rintro e w' ⟨rfl, hB⟩; (have hW0 := hW; clear hW; have hW : Below w.heap.size w w' := (by first | exact hW0.trans (hB.mono hW0.size) | exact (hW0.alloc hW0.size _).trans (hB.mono (hW0.alloc hW0.size _).size) | exact ((hW0.alloc hW0.size _).alloc (hW0.alloc hW0.size _).size _).trans (hB.mono ((hW0.alloc hW0.size _).alloc (hW0.alloc hW0.size _).size _).size)); clear hW0); try (replace rA := rowAt_keep rA hB))
        | (go_at_call 29; refine (lawCells_any 1 1 0 0 false false false false 9 (by omega) _).mono ?_; rintro e w' ⟨v, rfl, hrow, hB⟩; (have hW0 := hW; clear hW; have hW : Below w.heap.size w w' := (by first | exact hW0.trans (hB.mono hW0.size) | exact (hW0.alloc hW0.size _).trans (hB.mono (hW0.alloc hW0.size _).size) | exact ((hW0.alloc hW0.size _).alloc (hW0.alloc hW0.size _).size _).trans (hB.mono ((hW0.alloc hW0.size _).alloc (hW0.alloc hW0.size _).size _).size)); clear hW0); have rA := rowAt_owns hrow; rw [exC] at rA)
        | (go_at_call 28; refine (same_any _ _ _ _ _ (rowAt_keep rA ((Below.refl _ _).alloc (Nat.le_refl _) _)) (rowL _) (by decide) (by decide)).mono ?_; rintro e w' ⟨he, hB⟩; simp only [decide_true] at he; subst he; clear rA hrow; (have hW0 := hW; clear hW; have hW : Below w.heap.size w w' := (by first | exact hW0.trans (hB.mono hW0.size) | exact (hW0.alloc hW0.size _).trans (hB.mono (hW0.alloc hW0.size _).size) | exact ((hW0.alloc hW0.size _).alloc (hW0.alloc hW0.size _).size _).trans (hB.mono ((hW0.alloc hW0.size _).alloc (hW0.alloc hW0.size _).size _).size)); clear hW0))
        | (go_at_call 16; refine (moved_any _ _ _ _ _ _ _).mono ?_; rintro e wm ⟨he, hB⟩; rw [exM] at he; subst he; (have hW0 := hW; clear hW; have hW : Below w.heap.size w wm := (by first | exact hW0.trans (hB.mono hW0.size) | exact (hW0.alloc hW0.size _).trans (hB.mono (hW0.alloc hW0.size _).size) | exact ((hW0.alloc hW0.size _).alloc (hW0.alloc hW0.size _).size _).trans (hB.mono ((hW0.alloc hW0.size _).alloc (hW0.alloc hW0.size _).size _).size)); clear hW0); refine stop_here ?_))
      have b8 := blk_new wm (.cells #[.int .i64 0, .int .i64 3, .bool true, .bool false] 23)
      unfold Stop
      go_wp2_with (first
        | (go_at_call 20; refine (lawRef_any _ _ _).mono ?_; rintro e w' ⟨rfl, hB⟩; (have hW0 := hW; clear hW; have hW : Below w.heap.size w w' := (by first | exact hW0.trans (hB.mono hW0.size) | exact (hW0.alloc hW0.size _).trans (hB.mono (hW0.alloc hW0.size _).size) | exact ((hW0.alloc hW0.size _).alloc (hW0.alloc hW0.size _).size _).trans (hB.mono ((hW0.alloc hW0.size _).alloc (hW0.alloc hW0.size _).size _).size)); clear hW0); (first | (have b8 := blk_keep hB b8) | (have b8 := blk_keep hB (blk_alloc b8 _)) | (have b8 := blk_keep hB (blk_alloc (blk_alloc b8 _) _))))
        | (go_at_call 16; refine (moved_any _ _ _ _ _ _ _).mono ?_; rintro e w' ⟨he, hB⟩; rw [exN] at he; subst he; (have hW0 := hW; clear hW; have hW : Below w.heap.size w w' := (by first | exact hW0.trans (hB.mono hW0.size) | exact (hW0.alloc hW0.size _).trans (hB.mono (hW0.alloc hW0.size _).size) | exact ((hW0.alloc hW0.size _).alloc (hW0.alloc hW0.size _).size _).trans (hB.mono ((hW0.alloc hW0.size _).alloc (hW0.alloc hW0.size _).size _).size)); clear hW0); (first | (have b8 := blk_keep hB b8) | (have b8 := blk_keep hB (blk_alloc b8 _)) | (have b8 := blk_keep hB (blk_alloc (blk_alloc b8 _) _))))
        | (go_at_call 14; refine (print_any _ _ _ _ _ (HT0.out.stay hW)).mono ?_; rintro e w' ⟨he, hB⟩; (first | rw [exPV] at he | rw [exP2] at he); subst he; (have hW0 := hW; clear hW; have hW : Below w.heap.size w w' := (by first | exact hW0.trans (hB.mono hW0.size) | exact (hW0.alloc hW0.size _).trans (hB.mono (hW0.alloc hW0.size _).size) | exact ((hW0.alloc hW0.size _).alloc (hW0.alloc hW0.size _).size _).trans (hB.mono ((hW0.alloc hW0.size _).alloc (hW0.alloc hW0.size _).size _).size)); clear hW0); (first | (have b8 := blk_keep hB b8) | (have b8 := blk_keep hB (blk_alloc b8 _)) | (have b8 := blk_keep hB (blk_alloc (blk_alloc b8 _) _))))
        | (go_at_call 19; refine (index_any _ _ _ _ _).mono ?_; rintro e w' ⟨he, hB⟩; rw [exI] at he; subst he; (have hW0 := hW; clear hW; have hW : Below w.heap.size w w' := (by first | exact hW0.trans (hB.mono hW0.size) | exact (hW0.alloc hW0.size _).trans (hB.mono (hW0.alloc hW0.size _).size) | exact ((hW0.alloc hW0.size _).alloc (hW0.alloc hW0.size _).size _).trans (hB.mono ((hW0.alloc hW0.size _).alloc (hW0.alloc hW0.size _).size _).size)); clear hW0); (first | (have b8 := blk_keep hB b8) | (have b8 := blk_keep hB (blk_alloc b8 _)) | (have b8 := blk_keep hB (blk_alloc (blk_alloc b8 _) _))))
        | (go_at_call 18; refine (at_any _ _).mono ?_; rintro e w' ⟨he, hB⟩; (first | rw [exA1, exA2] at he | rw [exA3, exA4] at he); subst he; (have hW0 := hW; clear hW; have hW : Below w.heap.size w w' := (by first | exact hW0.trans (hB.mono hW0.size) | exact (hW0.alloc hW0.size _).trans (hB.mono (hW0.alloc hW0.size _).size) | exact ((hW0.alloc hW0.size _).alloc (hW0.alloc hW0.size _).size _).trans (hB.mono ((hW0.alloc hW0.size _).alloc (hW0.alloc hW0.size _).size _).size)); clear hW0); (first | (have b8 := blk_keep hB b8) | (have b8 := blk_keep hB (blk_alloc b8 _)) | (have b8 := blk_keep hB (blk_alloc (blk_alloc b8 _) _))))
        | (go_at_call 24; refine (area_yes _ _ _ _ _ _ _ _ _ rfl rfl).mono ?_; rintro e w' ⟨he, hB⟩; rw [exR] at he; subst he; (have hW0 := hW; clear hW; have hW : Below w.heap.size w w' := (by first | exact hW0.trans (hB.mono hW0.size) | exact (hW0.alloc hW0.size _).trans (hB.mono (hW0.alloc hW0.size _).size) | exact ((hW0.alloc hW0.size _).alloc (hW0.alloc hW0.size _).size _).trans (hB.mono ((hW0.alloc hW0.size _).alloc (hW0.alloc hW0.size _).size _).size)); clear hW0); (first | (have b8 := blk_keep hB b8) | (have b8 := blk_keep hB (blk_alloc b8 _)) | (have b8 := blk_keep hB (blk_alloc (blk_alloc b8 _) _))); have c80 := blk_cell b8 0; have c81 := blk_cell b8 1; have c82 := blk_cell b8 2; have c83 := blk_cell b8 3; simp at c80 c81 c82 c83))
      refine bodyPost_ret (v := .bool true) (by simp [results, Tryd.results9, go_sem]; done) rfl ⟨rfl, hW⟩
end Go.Proofs.YtacakmlkaikabaaDoor

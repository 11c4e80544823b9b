/- law CellCovers, walked. -/
import Derived.Test.YtacakmlkaikabaaDoorFd
import Derived.Test.YtacakmlkaikabaaDoorPe
import Derived.Deep.QuietTactic
import Derived.BigQuiet
namespace Go.Proofs.YtacakmlkaikabaaDoor
set_option linter.unusedVariables false
open Go.RowKit

theorem s4_keep {W w' : World} {A B C g k : Nat} {x y c r d s p1 p2 : Int} {xc xr ac ar bc br : Bool} (hX : Below W.heap.size W w') (hA : W.heap[A]? = some (.cells #[.int .i64 x, .int .i64 y, .bool xc, .bool xr] 23)) (hB : W.heap[B]? = some (.cells #[.int .i64 c, .int .i64 r, .bool ac, .bool ar] 23)) (hC : W.heap[C]? = some (.cells #[.int .i64 d, .int .i64 s, .bool bc, .bool br] 23))
    (hg : g < W.heap.size) (r0 : W.cell? ⟨g, k * 4, none⟩ = some (.int .i64 p1)) (r1 : W.cell? ⟨g, k * 4 + 1, none⟩ = some (.int .i64 p2)) (r2 : W.cell? ⟨g, k * 4 + 2, none⟩ = some (.bool false)) (r3 : W.cell? ⟨g, k * 4 + 3, none⟩ = some (.bool false)) :
    Below W.heap.size W w' ∧ (w'.cell? ⟨A, 0, none⟩ = some (.int .i64 x) ∧ w'.cell? ⟨A, 1, none⟩ = some (.int .i64 y) ∧ w'.cell? ⟨A, 2, none⟩ = some (.bool xc) ∧ w'.cell? ⟨A, 3, none⟩ = some (.bool xr)) ∧
      (w'.cell? ⟨B, 0, none⟩ = some (.int .i64 c) ∧ w'.cell? ⟨B, 1, none⟩ = some (.int .i64 r) ∧ w'.cell? ⟨B, 2, none⟩ = some (.bool ac) ∧ w'.cell? ⟨B, 3, none⟩ = some (.bool ar)) ∧
      (w'.cell? ⟨C, 0, none⟩ = some (.int .i64 d) ∧ w'.cell? ⟨C, 1, none⟩ = some (.int .i64 s) ∧ w'.cell? ⟨C, 2, none⟩ = some (.bool bc) ∧ w'.cell? ⟨C, 3, none⟩ = some (.bool br)) ∧
      (w'.cell? ⟨g, k * 4, none⟩ = some (.int .i64 p1) ∧ w'.cell? ⟨g, k * 4 + 1, none⟩ = some (.int .i64 p2) ∧ w'.cell? ⟨g, k * 4 + 2, none⟩ = some (.bool false) ∧ w'.cell? ⟨g, k * 4 + 3, none⟩ = some (.bool false)) :=
  ⟨hX, box4_facts hX hA, box4_facts hX hB, box4_facts hX hC, (hX.cell (p := ⟨g, k * 4, none⟩) hg).trans r0, (hX.cell (p := ⟨g, k * 4 + 1, none⟩) hg).trans r1, (hX.cell (p := ⟨g, k * 4 + 2, none⟩) hg).trans r2, (hX.cell (p := ⟨g, k * 4 + 3, none⟩) hg).trans r3⟩

theorem s5_keep {W w' : World} {A B C g k m : Nat} {x y c r d s p1 p2 q1 q2 : Int} {xc xr ac ar bc br : Bool} (hX : Below W.heap.size W w') (hA : W.heap[A]? = some (.cells #[.int .i64 x, .int .i64 y, .bool xc, .bool xr] 23)) (hB : W.heap[B]? = some (.cells #[.int .i64 c, .int .i64 r, .bool ac, .bool ar] 23)) (hC : W.heap[C]? = some (.cells #[.int .i64 d, .int .i64 s, .bool bc, .bool br] 23))
    (hg : g < W.heap.size) (r0 : W.cell? ⟨g, k * 4, none⟩ = some (.int .i64 p1)) (r1 : W.cell? ⟨g, k * 4 + 1, none⟩ = some (.int .i64 p2)) (r2 : W.cell? ⟨g, k * 4 + 2, none⟩ = some (.bool false)) (r3 : W.cell? ⟨g, k * 4 + 3, none⟩ = some (.bool false)) (t0 : W.cell? ⟨g, m * 4, none⟩ = some (.int .i64 q1)) (t1 : W.cell? ⟨g, m * 4 + 1, none⟩ = some (.int .i64 q2)) (t2 : W.cell? ⟨g, m * 4 + 2, none⟩ = some (.bool false)) (t3 : W.cell? ⟨g, m * 4 + 3, none⟩ = some (.bool false)) :
    Below W.heap.size W w' ∧ (w'.cell? ⟨A, 0, none⟩ = some (.int .i64 x) ∧ w'.cell? ⟨A, 1, none⟩ = some (.int .i64 y) ∧ w'.cell? ⟨A, 2, none⟩ = some (.bool xc) ∧ w'.cell? ⟨A, 3, none⟩ = some (.bool xr)) ∧
      (w'.cell? ⟨B, 0, none⟩ = some (.int .i64 c) ∧ w'.cell? ⟨B, 1, none⟩ = some (.int .i64 r) ∧ w'.cell? ⟨B, 2, none⟩ = some (.bool ac) ∧ w'.cell? ⟨B, 3, none⟩ = some (.bool ar)) ∧
      (w'.cell? ⟨C, 0, none⟩ = some (.int .i64 d) ∧ w'.cell? ⟨C, 1, none⟩ = some (.int .i64 s) ∧ w'.cell? ⟨C, 2, none⟩ = some (.bool bc) ∧ w'.cell? ⟨C, 3, none⟩ = some (.bool br)) ∧
      (w'.cell? ⟨g, k * 4, none⟩ = some (.int .i64 p1) ∧ w'.cell? ⟨g, k * 4 + 1, none⟩ = some (.int .i64 p2) ∧ w'.cell? ⟨g, k * 4 + 2, none⟩ = some (.bool false) ∧ w'.cell? ⟨g, k * 4 + 3, none⟩ = some (.bool false)) ∧
      (w'.cell? ⟨g, m * 4, none⟩ = some (.int .i64 q1) ∧ w'.cell? ⟨g, m * 4 + 1, none⟩ = some (.int .i64 q2) ∧ w'.cell? ⟨g, m * 4 + 2, none⟩ = some (.bool false) ∧ w'.cell? ⟨g, m * 4 + 3, none⟩ = some (.bool false)) :=
  ⟨hX, box4_facts hX hA, box4_facts hX hB, box4_facts hX hC, ⟨(hX.cell (p := ⟨g, k * 4, none⟩) hg).trans r0, (hX.cell (p := ⟨g, k * 4 + 1, none⟩) hg).trans r1, (hX.cell (p := ⟨g, k * 4 + 2, none⟩) hg).trans r2, (hX.cell (p := ⟨g, k * 4 + 3, none⟩) hg).trans r3⟩, (hX.cell (p := ⟨g, m * 4, none⟩) hg).trans t0, (hX.cell (p := ⟨g, m * 4 + 1, none⟩) hg).trans t1, (hX.cell (p := ⟨g, m * 4 + 2, none⟩) hg).trans t2, (hX.cell (p := ⟨g, m * 4 + 3, none⟩) hg).trans t3⟩

theorem not_mem_of {xs : List (Int × Int)} {x y : Int} {k : Nat} (h : false = true ↔ (x, y) ∈ xs.take k) : (x, y) ∉ xs.take k := fun hm => by cases h.2 hm
theorem met_true {xs : List (Int × Int)} {x y : Int} {k : Nat} (h1 : (x, y) ∈ xs.take k) (hk : k < xs.length) : true = true ↔ (x, y) ∈ xs.take (k + 1) := by
  refine ⟨fun _ => ?_, fun _ => rfl⟩
  rw [List.take_succ_eq_append_getElem hk]
  exact List.mem_append_left _ h1
theorem met_false {xs : List (Int × Int)} {x y p1 p2 : Int} {k : Nat} {E : Bool} (h : (x, y) ∉ xs.take k) (hk : k < xs.length) (hp : xs[k] = (p1, p2)) (hE : E = (decide (p1 = x) && decide (p2 = y))) : E = true ↔ (x, y) ∈ xs.take (k + 1) := by
  rw [List.take_succ_eq_append_getElem hk, hp, hE, Bool.and_eq_true, decide_eq_true_eq, decide_eq_true_eq, List.mem_append, List.mem_singleton, Prod.mk.injEq]
  constructor
  · rintro ⟨rfl, rfl⟩; exact .inr ⟨rfl, rfl⟩
  · rintro (h1 | ⟨rfl, rfl⟩)
    · exact absurd h1 h
    · exact ⟨rfl, rfl⟩

set_option maxHeartbeats 8000000 in
set_option maxRecDepth 100000 in
theorem covers_walk (c r : Int) (ac ar : Bool) (d s : Int) (bc br : Bool) (x y : Int) (xc xr : Bool) (w : World) (ht : HT w) :
    Calls Tryd.prog 8 #[.agg #[.int .i64 c, .int .i64 r, .bool ac, .bool ar], .agg #[.int .i64 d, .int .i64 s, .bool bc, .bool br], .agg #[.int .i64 x, .int .i64 y, .bool xc, .bool xr]] w fun e w' => e = .returned (.bool true) ∧ Below w.heap.size w w' := by
  have hV2 : areaV d s c r = areaV c r d s := area_sym c r d s
  have hlen := areaV_len c r d s
  obtain ⟨xs, hxs⟩ : ∃ xs, cellsL c r d s = xs := ⟨_, rfl⟩
  rw [hxs] at hlen
  have hV := hlen.symm
  rw [hV] at hV2
  have HXS := Lib.hid hxs
  have hnb2 := ins_sym x y c r d s
  obtain ⟨nb, hnb⟩ : ∃ nb, insB x y c r d s = nb := ⟨_, rfl⟩
  rw [hnb] at hnb2
  have HV := Lib.hid hV
  have HV2 := Lib.hid hV2
  have HNB := Lib.hid hnb
  have HNB2 := Lib.hid hnb2
  have HT0 := Lib.hid ht
  clear ht hV hV2 hnb hnb2 hlen hxs
  have hW3 : Below w.heap.size w (((w.alloc (.cells #[.int .i64 c, .int .i64 r, .bool ac, .bool ar] 23)).alloc (.cells #[.int .i64 d, .int .i64 s, .bool bc, .bool br] 23)).alloc (.cells #[.int .i64 x, .int .i64 y, .bool xc, .bool xr] 23)) :=
    (((Below.refl _ w).alloc (Nat.le_refl _) _).alloc (by simp) _).alloc (by simp; omega) _
  have bA := blk_alloc (blk_alloc (blk_new w (.cells #[.int .i64 c, .int .i64 r, .bool ac, .bool ar] 23)) (.cells #[.int .i64 d, .int .i64 s, .bool bc, .bool br] 23)) (.cells #[.int .i64 x, .int .i64 y, .bool xc, .bool xr] 23)
  have bB := blk_alloc (blk_new (w.alloc (.cells #[.int .i64 c, .int .i64 r, .bool ac, .bool ar] 23)) (.cells #[.int .i64 d, .int .i64 s, .bool bc, .bool br] 23)) (.cells #[.int .i64 x, .int .i64 y, .bool xc, .bool xr] 23)
  have bC := blk_new ((w.alloc (.cells #[.int .i64 c, .int .i64 r, .bool ac, .bool ar] 23)).alloc (.cells #[.int .i64 d, .int .i64 s, .bool bc, .bool br] 23)) (.cells #[.int .i64 x, .int .i64 y, .bool xc, .bool xr] 23)
  simp only [World.size_alloc] at bB bC
  go_enter Tryd.func8, Tryd.ntmps8
  go_wp2_with (go_at_call 9; refine (shown_any _ (HT0.out.stay hW3)).mono ?_; rintro e W ⟨rfl, hB1⟩; (have hW : Below w.heap.size w W := hW3.trans (hB1.mono hW3.size)); have bA := blk_keep hB1 bA; have bB := blk_keep hB1 bB; have bC := blk_keep hB1 bC; clear hB1)
  obtain ⟨A, hA⟩ : ∃ A, w.heap.size = A := ⟨_, rfl⟩
  rw [hA] at bA bB bC
  rw [hA]
  have HW := Lib.hid hW
  clear hW hW3 hA
  have hD0 : Below W.heap.size W W.drew := (Below.refl _ _).drew
  go_region_held3 (fun w' => Below W.heap.size W w' ∧ (w'.cell? ⟨A, 0, none⟩ = some (.int .i64 c) ∧ w'.cell? ⟨A, 1, none⟩ = some (.int .i64 r) ∧ w'.cell? ⟨A, 2, none⟩ = some (.bool ac) ∧ w'.cell? ⟨A, 3, none⟩ = some (.bool ar)) ∧
      (w'.cell? ⟨A + 1, 0, none⟩ = some (.int .i64 d) ∧ w'.cell? ⟨A + 1, 1, none⟩ = some (.int .i64 s) ∧ w'.cell? ⟨A + 1, 2, none⟩ = some (.bool bc) ∧ w'.cell? ⟨A + 1, 3, none⟩ = some (.bool br)) ∧
      (w'.cell? ⟨A + 1 + 1, 0, none⟩ = some (.int .i64 x) ∧ w'.cell? ⟨A + 1 + 1, 1, none⟩ = some (.int .i64 y) ∧ w'.cell? ⟨A + 1 + 1, 2, none⟩ = some (.bool xc) ∧ w'.cell? ⟨A + 1 + 1, 3, none⟩ = some (.bool xr)))
    (first
      | exact s3_keep (by assumption) bA bB bC
      | (go_split_ands; exact s3_keep (by assumption) bA bB bC))
    (first
      | (go_at_call 24; go_split_ands; refine (area_any _ _ _ _ _ _ _ _ _).mono ?_; rintro e w5 ⟨he, hB1⟩; (first | rw [HV.out] at he | rw [HV2.out] at he); subst he; have hX := Below.trans (by assumption) (hB1.mono (Below.size (by assumption))); clear hB1)
      | (go_at_call 26; go_split_ands; refine (inside_any _ _ _ _ _ _ _ _ _ _ _ _ _).mono ?_; rintro e w7 ⟨he, hB1⟩; (first | rw [HNB.out] at he | rw [HNB2.out] at he); subst he; have hX := Below.trans (by assumption) (hB1.mono (Below.size (by assumption))); clear hB1))
  have s8 := hX.size
  have lA := blk_lt bA
  have lB := blk_lt bB
  have lC := blk_lt bC
  go_split_ands
  by_cases hbig : xs.length ≤ 3000
  · have HX := Lib.hid hX
    go_wp2_with (first
      | (go_at_call 24; refine (area_any _ _ _ _ _ _ _ _ _).mono ?_; rintro e u1 ⟨he, hB1⟩; rw [HV.out] at he; subst he; (have hx := HX.out.trans (hB1.mono HX.out.size)); (try (have RA := Lib.hid (rowAt_keep RA.out hB1))); clear hB1 HX; (have k0 := box4_facts hx bA); (have k1 := box4_facts hx bB); (have sx := hx.size); (have HX := Lib.hid hx); clear hx; obtain ⟨k00, k01, k02, k03⟩ := k0; obtain ⟨k10, k11, k12, k13⟩ := k1)
      | (go_at_call 29; refine (lawCells_any _ _ _ _ _ _ _ _ 4000 (by omega) _).mono ?_; rintro e u2 ⟨va, rfl, hrow, hB1⟩; clear k00 k01 k02 k03 k10 k11 k12 k13 sx; (have hx := HX.out.trans (hB1.mono HX.out.size)); clear hB1 HX; have rA := rowAt_owns hrow; clear hrow; rw [HXS.out, List.take_of_length_le (by omega)] at rA; have RA := Lib.hid rA; obtain ⟨ao, ca, rfl, _⟩ := rA; (have k0 := box4_facts hx bA); (have k1 := box4_facts hx bB); (have sx := hx.size); (have HX := Lib.hid hx); clear hx; obtain ⟨k00, k01, k02, k03⟩ := k0; obtain ⟨k10, k11, k12, k13⟩ := k1))
    have bA1 := blk_keep HX.out bA
    have bB1 := blk_keep HX.out bB
    have bC1 := blk_keep HX.out bC
    have hWU := HW.out.trans (HX.out.mono HW.out.size)
    have HWU := Lib.hid hWU
    have rA := RA.out
    clear k00 k01 k02 k03 k10 k11 k12 k13 sx HX hWU RA
    generalize u1 = U at bA1 bB1 bC1 HWU rA ⊢
    obtain ⟨ao', ca', hao, hc⟩ := rA
    cases hao
    have HC := Lib.hid hc
    clear hc
    go_loopw [9, 10] (fun met i wr => ∃ (k : Nat) (mt : Bool), i = .int .i64 k ∧ k ≤ xs.length ∧ met = .bool mt ∧ (mt = true ↔ (x, y) ∈ xs.take k) ∧ Below U.heap.size U wr) (fun _ i _ => xs.length - (intOf i).toNat)
    case atStart => exact ⟨0, false, rfl, by omega, rfl, by simp, Below.refl _ _⟩
    case round =>
      obtain ⟨k, mt, rfl, k0, rfl, hmt, hY⟩ := hrel
      have HMT := Lib.hid hmt
      clear hmt
      by_cases hk : k < xs.length
      · obtain ⟨g, hg, r0, r1, r2, r3⟩ := HC.out k hk
        subst hg
        obtain ⟨p, hp⟩ : ∃ p, xs[k]'hk = p := ⟨_, rfl⟩
        rw [hp] at r0 r1
        obtain ⟨p1, p2⟩ := p
        dsimp only at r0 r1
        have hin : insB p1 p2 c r d s = true := by
          rw [← mem_cells, HXS.out, ← hp]; exact List.getElem_mem hk
        have HIN := Lib.hid hin
        have HP := Lib.hid hp
        have hin' : okB p1 p2 = true := ins_ok hin
        have HIX := Lib.hid (idx_num hin')
        clear hin hp hin'
        have hgU : g < U.heap.size := by simpa using World.block_lt_of_cell? U _ r0
        have f0 := (hY.cell (p := ⟨g, k * 4, none⟩) hgU).trans r0
        have f1 := (hY.cell (p := ⟨g, k * 4 + 1, none⟩) hgU).trans r1
        have f2 := (hY.cell (p := ⟨g, k * 4 + 2, none⟩) hgU).trans r2
        have f3 := (hY.cell (p := ⟨g, k * 4 + 3, none⟩) hgU).trans r3
        have hk1 : (k : Int) < xs.length := by omega
        go_wp2_with fail
        have hYD := hY.drew
        go_region_held3 (fun w' => Below U.heap.size U w' ∧ (w'.cell? ⟨A, 0, none⟩ = some (.int .i64 c) ∧ w'.cell? ⟨A, 1, none⟩ = some (.int .i64 r) ∧ w'.cell? ⟨A, 2, none⟩ = some (.bool ac) ∧ w'.cell? ⟨A, 3, none⟩ = some (.bool ar)) ∧
            (w'.cell? ⟨A + 1, 0, none⟩ = some (.int .i64 d) ∧ w'.cell? ⟨A + 1, 1, none⟩ = some (.int .i64 s) ∧ w'.cell? ⟨A + 1, 2, none⟩ = some (.bool bc) ∧ w'.cell? ⟨A + 1, 3, none⟩ = some (.bool br)) ∧
            (w'.cell? ⟨A + 1 + 1, 0, none⟩ = some (.int .i64 x) ∧ w'.cell? ⟨A + 1 + 1, 1, none⟩ = some (.int .i64 y) ∧ w'.cell? ⟨A + 1 + 1, 2, none⟩ = some (.bool xc) ∧ w'.cell? ⟨A + 1 + 1, 3, none⟩ = some (.bool xr)) ∧
            (w'.cell? ⟨g, k * 4, none⟩ = some (.int .i64 p1) ∧ w'.cell? ⟨g, k * 4 + 1, none⟩ = some (.int .i64 p2) ∧ w'.cell? ⟨g, k * 4 + 2, none⟩ = some (.bool false) ∧ w'.cell? ⟨g, k * 4 + 3, none⟩ = some (.bool false)))
          (first
            | exact s4_keep (by assumption) bA1 bB1 bC1 hgU r0 r1 r2 r3
            | (go_split_ands; exact s4_keep (by assumption) bA1 bB1 bC1 hgU r0 r1 r2 r3))
          ((go_at_call 26; go_split_ands; refine (inside_any _ _ _ _ _ _ _ _ _ _ _ _ _).mono ?_; rintro e v1 ⟨he, hB1⟩; rw [HIN.out] at he; subst he; have hZ := Below.trans (by assumption) (hB1.mono (Below.size (by assumption))); clear hB1))
        clear f0 f1 f2 f3
        go_split_ands
        have sZ := hZ.size
        have lA1 := blk_lt bA1
        have lB1 := blk_lt bB1
        have lC1 := blk_lt bC1
        rcases k with _ | m
        · go_wp2_with fail
          go_quiet (fail)
          obtain rfl : mt = false := by
            cases mt with
            | false => rfl
            | true => exact absurd (HMT.out.1 rfl) (by simp)
          have hQ : Below U.heap.size U (v1.drewN nq) := hZ.trans ⟨rfl, rfl, rfl, Nat.le_refl _, fun _ _ => rfl⟩
          have HPE := HP
          have HM0 := Lib.hid (not_mem_of HMT.out)
          clear HMT
          go_wp2_with fail
          by_cases hx1 : p1 = x
          · have hx1' := hx1.symm
            subst hx1'
            by_cases hx2 : p2 = y
            · have hx2' := hx2.symm
              subst hx2'
              have hYD2 : Below U.heap.size U (v1.drewN nq).drew := hQ.drew
              go_region_held3 (fun w' => Below U.heap.size U w' ∧ (w'.cell? ⟨A, 0, none⟩ = some (.int .i64 c) ∧ w'.cell? ⟨A, 1, none⟩ = some (.int .i64 r) ∧ w'.cell? ⟨A, 2, none⟩ = some (.bool ac) ∧ w'.cell? ⟨A, 3, none⟩ = some (.bool ar)) ∧
                (w'.cell? ⟨A + 1, 0, none⟩ = some (.int .i64 d) ∧ w'.cell? ⟨A + 1, 1, none⟩ = some (.int .i64 s) ∧ w'.cell? ⟨A + 1, 2, none⟩ = some (.bool bc) ∧ w'.cell? ⟨A + 1, 3, none⟩ = some (.bool br)) ∧
                (w'.cell? ⟨A + 1 + 1, 0, none⟩ = some (.int .i64 x) ∧ w'.cell? ⟨A + 1 + 1, 1, none⟩ = some (.int .i64 y) ∧ w'.cell? ⟨A + 1 + 1, 2, none⟩ = some (.bool xc) ∧ w'.cell? ⟨A + 1 + 1, 3, none⟩ = some (.bool xr)) ∧
                (w'.cell? ⟨g, 0 * 4, none⟩ = some (.int .i64 x) ∧ w'.cell? ⟨g, 0 * 4 + 1, none⟩ = some (.int .i64 y) ∧ w'.cell? ⟨g, 0 * 4 + 2, none⟩ = some (.bool false) ∧ w'.cell? ⟨g, 0 * 4 + 3, none⟩ = some (.bool false)))
                (first
                  | exact s4_keep (by assumption) bA1 bB1 bC1 hgU r0 r1 r2 r3
                  | (go_split_ands; exact s4_keep (by assumption) bA1 bB1 bC1 hgU r0 r1 r2 r3))
                ((go_at_call 20; go_split_ands; refine (lawRef_any _ _ _).mono ?_; rintro e v4 ⟨he, hB1⟩; subst he; have hZ4 := Below.trans (by assumption) (hB1.mono (Below.size (by assumption))); clear hB1))
              go_wp2_with fail
              go_roundw
              case rel => exact ⟨0 + 1, _, by go_num, by omega, rfl, met_false HM0.out hk HPE.out (by simp), hZ4⟩
              case measure => simp [intOf]; omega
            · have hx3 : (p2 == y) = false := by rw [beq_eq_false_iff_ne]; exact hx2
              have hYD2 : Below U.heap.size U (v1.drewN nq).drew := hQ.drew
              go_region_held3 (fun w' => Below U.heap.size U w' ∧ (w'.cell? ⟨A, 0, none⟩ = some (.int .i64 c) ∧ w'.cell? ⟨A, 1, none⟩ = some (.int .i64 r) ∧ w'.cell? ⟨A, 2, none⟩ = some (.bool ac) ∧ w'.cell? ⟨A, 3, none⟩ = some (.bool ar)) ∧
                (w'.cell? ⟨A + 1, 0, none⟩ = some (.int .i64 d) ∧ w'.cell? ⟨A + 1, 1, none⟩ = some (.int .i64 s) ∧ w'.cell? ⟨A + 1, 2, none⟩ = some (.bool bc) ∧ w'.cell? ⟨A + 1, 3, none⟩ = some (.bool br)) ∧
                (w'.cell? ⟨A + 1 + 1, 0, none⟩ = some (.int .i64 x) ∧ w'.cell? ⟨A + 1 + 1, 1, none⟩ = some (.int .i64 y) ∧ w'.cell? ⟨A + 1 + 1, 2, none⟩ = some (.bool xc) ∧ w'.cell? ⟨A + 1 + 1, 3, none⟩ = some (.bool xr)) ∧
                (w'.cell? ⟨g, 0 * 4, none⟩ = some (.int .i64 x) ∧ w'.cell? ⟨g, 0 * 4 + 1, none⟩ = some (.int .i64 p2) ∧ w'.cell? ⟨g, 0 * 4 + 2, none⟩ = some (.bool false) ∧ w'.cell? ⟨g, 0 * 4 + 3, none⟩ = some (.bool false)))
                (first
                  | exact s4_keep (by assumption) bA1 bB1 bC1 hgU r0 r1 r2 r3
                  | (go_split_ands; exact s4_keep (by assumption) bA1 bB1 bC1 hgU r0 r1 r2 r3))
                ((go_at_call 20; go_split_ands; refine (lawRef_any _ _ _).mono ?_; rintro e v4 ⟨he, hB1⟩; subst he; have hZ4 := Below.trans (by assumption) (hB1.mono (Below.size (by assumption))); clear hB1))
              go_wp2_with fail
              go_roundw
              case rel => exact ⟨0 + 1, _, by go_num, by omega, rfl, met_false HM0.out hk HPE.out (by simp [hx2]), hZ4⟩
              case measure => simp [intOf]; omega
          · have hx3 : (p1 == x) = false := by rw [beq_eq_false_iff_ne]; exact hx1
            have hYD2 : Below U.heap.size U (v1.drewN nq).drew := hQ.drew
            go_region_held3 (fun w' => Below U.heap.size U w' ∧ (w'.cell? ⟨A, 0, none⟩ = some (.int .i64 c) ∧ w'.cell? ⟨A, 1, none⟩ = some (.int .i64 r) ∧ w'.cell? ⟨A, 2, none⟩ = some (.bool ac) ∧ w'.cell? ⟨A, 3, none⟩ = some (.bool ar)) ∧
              (w'.cell? ⟨A + 1, 0, none⟩ = some (.int .i64 d) ∧ w'.cell? ⟨A + 1, 1, none⟩ = some (.int .i64 s) ∧ w'.cell? ⟨A + 1, 2, none⟩ = some (.bool bc) ∧ w'.cell? ⟨A + 1, 3, none⟩ = some (.bool br)) ∧
              (w'.cell? ⟨A + 1 + 1, 0, none⟩ = some (.int .i64 x) ∧ w'.cell? ⟨A + 1 + 1, 1, none⟩ = some (.int .i64 y) ∧ w'.cell? ⟨A + 1 + 1, 2, none⟩ = some (.bool xc) ∧ w'.cell? ⟨A + 1 + 1, 3, none⟩ = some (.bool xr)) ∧
              (w'.cell? ⟨g, 0 * 4, none⟩ = some (.int .i64 p1) ∧ w'.cell? ⟨g, 0 * 4 + 1, none⟩ = some (.int .i64 p2) ∧ w'.cell? ⟨g, 0 * 4 + 2, none⟩ = some (.bool false) ∧ w'.cell? ⟨g, 0 * 4 + 3, none⟩ = some (.bool false)))
              (first
                | exact s4_keep (by assumption) bA1 bB1 bC1 hgU r0 r1 r2 r3
                | (go_split_ands; exact s4_keep (by assumption) bA1 bB1 bC1 hgU r0 r1 r2 r3))
              ((go_at_call 20; go_split_ands; refine (lawRef_any _ _ _).mono ?_; rintro e v4 ⟨he, hB1⟩; subst he; have hZ4 := Below.trans (by assumption) (hB1.mono (Below.size (by assumption))); clear hB1))
            go_wp2_with fail
            go_roundw
            case rel => exact ⟨0 + 1, _, by go_num, by omega, rfl, met_false HM0.out hk HPE.out (by simp [hx1]), hZ4⟩
            case measure => simp [intOf]; omega
        · obtain ⟨g', hg', t0, t1, t2, t3⟩ := HC.out m (by omega)
          cases hg'
          obtain ⟨q, hq⟩ : ∃ q, xs[m]'(by omega) = q := ⟨_, rfl⟩
          rw [hq] at t0 t1
          obtain ⟨q1, q2⟩ := q
          dsimp only at t0 t1
          have hlt : num (q1, q2) < num (p1, p2) := by
            have h1 := List.pairwise_iff_getElem.1 (cells_rise c r d s) m (m + 1) (by rw [HXS.out]; omega) (by rw [HXS.out]; omega) (by omega)
            simp only [HXS.out, hq, HP.out] at h1
            exact h1
          have hin2 : insB q1 q2 c r d s = true := by
            rw [← mem_cells, HXS.out, ← hq]; exact List.getElem_mem (by omega)
          have HIX2 := Lib.hid (idx_num (ins_ok hin2))
          clear hq hin2
          have hix1 := HIX.out
          have hix2 := HIX2.out
          obtain ⟨n1, hn1⟩ : ∃ n, num (p1, p2) = n := ⟨_, rfl⟩
          obtain ⟨n2, hn2⟩ : ∃ n, num (q1, q2) = n := ⟨_, rfl⟩
          rw [hn1] at hix1
          rw [hn2] at hix2
          rw [hn1, hn2] at hlt
          have HI1 := Lib.hid hix1
          have HI2 := Lib.hid hix2
          clear hix1 hix2 hn1 hn2 HIX HIX2
          have hnle : ¬ n1 ≤ n2 := by omega
          have hdle : decide (n1 ≤ n2) = false := decide_eq_false hnle
          have hm0 : (0 : Int) ≤ (m : Int) := Int.natCast_nonneg _
          have hm1 : (m : Int) < xs.length := by omega
          have hm2 : (m : Int) + 1 < xs.length := by omega
          have hm3 : (0 : Int) ≤ (m : Int) + 1 := by omega
          have hm4 : ((m : Int) + 1).toNat = m + 1 := by omega
          have hm5 : IntKind.i64.wrap (m : Int) = m := IntWalk.i64_in _ (by omega)
          have hm6 : wrap64 (m : Int) = m := by unfold wrap64; omega
          clear hlt
          have g0 := (hZ.cell (p := ⟨g, (m + 1) * 4, none⟩) hgU).trans r0
          go_wp2_with fail
          have hZD := hZ.drew
          go_region_held3 (fun w' => Below U.heap.size U w' ∧ (w'.cell? ⟨A, 0, none⟩ = some (.int .i64 c) ∧ w'.cell? ⟨A, 1, none⟩ = some (.int .i64 r) ∧ w'.cell? ⟨A, 2, none⟩ = some (.bool ac) ∧ w'.cell? ⟨A, 3, none⟩ = some (.bool ar)) ∧
            (w'.cell? ⟨A + 1, 0, none⟩ = some (.int .i64 d) ∧ w'.cell? ⟨A + 1, 1, none⟩ = some (.int .i64 s) ∧ w'.cell? ⟨A + 1, 2, none⟩ = some (.bool bc) ∧ w'.cell? ⟨A + 1, 3, none⟩ = some (.bool br)) ∧
            (w'.cell? ⟨A + 1 + 1, 0, none⟩ = some (.int .i64 x) ∧ w'.cell? ⟨A + 1 + 1, 1, none⟩ = some (.int .i64 y) ∧ w'.cell? ⟨A + 1 + 1, 2, none⟩ = some (.bool xc) ∧ w'.cell? ⟨A + 1 + 1, 3, none⟩ = some (.bool xr)) ∧
            (w'.cell? ⟨g, (m + 1) * 4, none⟩ = some (.int .i64 p1) ∧ w'.cell? ⟨g, (m + 1) * 4 + 1, none⟩ = some (.int .i64 p2) ∧ w'.cell? ⟨g, (m + 1) * 4 + 2, none⟩ = some (.bool false) ∧ w'.cell? ⟨g, (m + 1) * 4 + 3, none⟩ = some (.bool false)) ∧
            (w'.cell? ⟨g, m * 4, none⟩ = some (.int .i64 q1) ∧ w'.cell? ⟨g, m * 4 + 1, none⟩ = some (.int .i64 q2) ∧ w'.cell? ⟨g, m * 4 + 2, none⟩ = some (.bool false) ∧ w'.cell? ⟨g, m * 4 + 3, none⟩ = some (.bool false)))
            (first
              | exact s5_keep (by assumption) bA1 bB1 bC1 hgU r0 r1 r2 r3 t0 t1 t2 t3
              | (go_split_ands; exact s5_keep (by assumption) bA1 bB1 bC1 hgU r0 r1 r2 r3 t0 t1 t2 t3))
            ((go_at_call 19; go_split_ands; refine (index_any _ _ _ _ _).mono ?_; rintro e v2 ⟨he, hB1⟩; (first | rw [HI1.out] at he | rw [HI2.out] at he); subst he; have hZ2 := Below.trans (by assumption) (hB1.mono (Below.size (by assumption))); clear hB1))
          go_split_ands
          clear hnle hdle hm0 hm1 hm5 hm6 HI1 HI2 g0 t0 t1 t2 t3
          cases mt with
          | true =>
            have HM1 := Lib.hid (HMT.out.1 rfl)
            clear HMT hm3 hm4
            go_wp2_with fail
            go_quiet (fail)
            go_wp2_with fail
            go_roundw
            case rel => exact ⟨(m + 1) + 1, true, by go_num, by omega, rfl, met_true HM1.out hk, hZ2.trans ⟨rfl, rfl, rfl, Nat.le_refl _, fun _ _ => rfl⟩⟩
            case measure => simp [intOf]; omega
          | false =>
            have HPE := HP
            have HM0 := Lib.hid (not_mem_of HMT.out)
            clear HMT
            go_wp2_with fail
            by_cases hx1 : p1 = x
            · have hx1' := hx1.symm
              subst hx1'
              by_cases hx2 : p2 = y
              · have hx2' := hx2.symm
                subst hx2'
                have hYD2 : Below U.heap.size U (v2).drew := hZ2.drew
                go_region_held3 (fun w' => Below U.heap.size U w' ∧ (w'.cell? ⟨A, 0, none⟩ = some (.int .i64 c) ∧ w'.cell? ⟨A, 1, none⟩ = some (.int .i64 r) ∧ w'.cell? ⟨A, 2, none⟩ = some (.bool ac) ∧ w'.cell? ⟨A, 3, none⟩ = some (.bool ar)) ∧
                  (w'.cell? ⟨A + 1, 0, none⟩ = some (.int .i64 d) ∧ w'.cell? ⟨A + 1, 1, none⟩ = some (.int .i64 s) ∧ w'.cell? ⟨A + 1, 2, none⟩ = some (.bool bc) ∧ w'.cell? ⟨A + 1, 3, none⟩ = some (.bool br)) ∧
                  (w'.cell? ⟨A + 1 + 1, 0, none⟩ = some (.int .i64 x) ∧ w'.cell? ⟨A + 1 + 1, 1, none⟩ = some (.int .i64 y) ∧ w'.cell? ⟨A + 1 + 1, 2, none⟩ = some (.bool xc) ∧ w'.cell? ⟨A + 1 + 1, 3, none⟩ = some (.bool xr)) ∧
                  (w'.cell? ⟨g, (m + 1) * 4, none⟩ = some (.int .i64 x) ∧ w'.cell? ⟨g, (m + 1) * 4 + 1, none⟩ = some (.int .i64 y) ∧ w'.cell? ⟨g, (m + 1) * 4 + 2, none⟩ = some (.bool false) ∧ w'.cell? ⟨g, (m + 1) * 4 + 3, none⟩ = some (.bool false)))
                  (first
                    | exact s4_keep (by assumption) bA1 bB1 bC1 hgU r0 r1 r2 r3
                    | (go_split_ands; exact s4_keep (by assumption) bA1 bB1 bC1 hgU r0 r1 r2 r3))
                  ((go_at_call 20; go_split_ands; refine (lawRef_any _ _ _).mono ?_; rintro e v4 ⟨he, hB1⟩; subst he; have hZ4 := Below.trans (by assumption) (hB1.mono (Below.size (by assumption))); clear hB1))
                go_wp2_with fail
                go_roundw
                case rel => exact ⟨(m + 1) + 1, _, by go_num, by omega, rfl, met_false HM0.out hk HPE.out (by simp), hZ4⟩
                case measure => simp [intOf]; omega
              · have hx3 : (p2 == y) = false := by rw [beq_eq_false_iff_ne]; exact hx2
                have hYD2 : Below U.heap.size U (v2).drew := hZ2.drew
                go_region_held3 (fun w' => Below U.heap.size U w' ∧ (w'.cell? ⟨A, 0, none⟩ = some (.int .i64 c) ∧ w'.cell? ⟨A, 1, none⟩ = some (.int .i64 r) ∧ w'.cell? ⟨A, 2, none⟩ = some (.bool ac) ∧ w'.cell? ⟨A, 3, none⟩ = some (.bool ar)) ∧
                  (w'.cell? ⟨A + 1, 0, none⟩ = some (.int .i64 d) ∧ w'.cell? ⟨A + 1, 1, none⟩ = some (.int .i64 s) ∧ w'.cell? ⟨A + 1, 2, none⟩ = some (.bool bc) ∧ w'.cell? ⟨A + 1, 3, none⟩ = some (.bool br)) ∧
                  (w'.cell? ⟨A + 1 + 1, 0, none⟩ = some (.int .i64 x) ∧ w'.cell? ⟨A + 1 + 1, 1, none⟩ = some (.int .i64 y) ∧ w'.cell? ⟨A + 1 + 1, 2, none⟩ = some (.bool xc) ∧ w'.cell? ⟨A + 1 + 1, 3, none⟩ = some (.bool xr)) ∧
                  (w'.cell? ⟨g, (m + 1) * 4, none⟩ = some (.int .i64 x) ∧ w'.cell? ⟨g, (m + 1) * 4 + 1, none⟩ = some (.int .i64 p2) ∧ w'.cell? ⟨g, (m + 1) * 4 + 2, none⟩ = some (.bool false) ∧ w'.cell? ⟨g, (m + 1) * 4 + 3, none⟩ = some (.bool false)))
                  (first
                    | exact s4_keep (by assumption) bA1 bB1 bC1 hgU r0 r1 r2 r3
                    | (go_split_ands; exact s4_keep (by assumption) bA1 bB1 bC1 hgU r0 r1 r2 r3))
                  ((go_at_call 20; go_split_ands; refine (lawRef_any _ _ _).mono ?_; rintro e v4 ⟨he, hB1⟩; subst he; have hZ4 := Below.trans (by assumption) (hB1.mono (Below.size (by assumption))); clear hB1))
                go_wp2_with fail
                go_roundw
                case rel => exact ⟨(m + 1) + 1, _, by go_num, by omega, rfl, met_false HM0.out hk HPE.out (by simp [hx2]), hZ4⟩
                case measure => simp [intOf]; omega
            · have hx3 : (p1 == x) = false := by rw [beq_eq_false_iff_ne]; exact hx1
              have hYD2 : Below U.heap.size U (v2).drew := hZ2.drew
              go_region_held3 (fun w' => Below U.heap.size U w' ∧ (w'.cell? ⟨A, 0, none⟩ = some (.int .i64 c) ∧ w'.cell? ⟨A, 1, none⟩ = some (.int .i64 r) ∧ w'.cell? ⟨A, 2, none⟩ = some (.bool ac) ∧ w'.cell? ⟨A, 3, none⟩ = some (.bool ar)) ∧
                (w'.cell? ⟨A + 1, 0, none⟩ = some (.int .i64 d) ∧ w'.cell? ⟨A + 1, 1, none⟩ = some (.int .i64 s) ∧ w'.cell? ⟨A + 1, 2, none⟩ = some (.bool bc) ∧ w'.cell? ⟨A + 1, 3, none⟩ = some (.bool br)) ∧
                (w'.cell? ⟨A + 1 + 1, 0, none⟩ = some (.int .i64 x) ∧ w'.cell? ⟨A + 1 + 1, 1, none⟩ = some (.int .i64 y) ∧ w'.cell? ⟨A + 1 + 1, 2, none⟩ = some (.bool xc) ∧ w'.cell? ⟨A + 1 + 1, 3, none⟩ = some (.bool xr)) ∧
                (w'.cell? ⟨g, (m + 1) * 4, none⟩ = some (.int .i64 p1) ∧ w'.cell? ⟨g, (m + 1) * 4 + 1, none⟩ = some (.int .i64 p2) ∧ w'.cell? ⟨g, (m + 1) * 4 + 2, none⟩ = some (.bool false) ∧ w'.cell? ⟨g, (m + 1) * 4 + 3, none⟩ = some (.bool false)))
                (first
                  | exact s4_keep (by assumption) bA1 bB1 bC1 hgU r0 r1 r2 r3
                  | (go_split_ands; exact s4_keep (by assumption) bA1 bB1 bC1 hgU r0 r1 r2 r3))
                ((go_at_call 20; go_split_ands; refine (lawRef_any _ _ _).mono ?_; rintro e v4 ⟨he, hB1⟩; subst he; have hZ4 := Below.trans (by assumption) (hB1.mono (Below.size (by assumption))); clear hB1))
              go_wp2_with fail
              go_roundw
              case rel => exact ⟨(m + 1) + 1, _, by go_num, by omega, rfl, met_false HM0.out hk HPE.out (by simp [hx1]), hZ4⟩
              case measure => simp [intOf]; omega
      · obtain rfl : k = xs.length := by omega
        have hmm : mt = nb := by
          have h1 := HMT.out
          rw [List.take_length, ← HXS.out, mem_cells, HNB.out] at h1
          cases mt <;> cases nb <;> simp_all
        subst hmm
        have y0 := box4_facts hY bA1
        have y1 := box4_facts hY bB1
        have y2 := box4_facts hY bC1
        have sY := hY.size
        have lA1 := blk_lt bA1
        have lB1 := blk_lt bB1
        have lC1 := blk_lt bC1
        obtain ⟨y00, y01, y02, y03⟩ := y0
        obtain ⟨y10, y11, y12, y13⟩ := y1
        obtain ⟨y20, y21, y22, y23⟩ := y2
        have hl0 : ¬ (xs.length : Int) < xs.length := by omega
        go_wp2_with (go_at_call 26; refine (inside_any _ _ _ _ _ _ _ _ _ _ _ _ _).mono ?_; rintro e v7 ⟨he, hB1⟩; rw [HNB.out] at he; subst he; have hE := hY.trans (hB1.mono hY.size); clear hB1)
        refine bodyPost_ret (v := .bool true) (by simp [results, Tryd.results8, go_sem]; done) rfl ⟨rfl, ?_⟩
        exact HWU.out.trans (hE.mono HWU.out.size)
  · go_wp2_with (go_at_call 24; refine (area_any _ _ _ _ _ _ _ _ _).mono ?_; rintro e u1 ⟨he, hB1⟩; rw [HV.out] at he; subst he; have hX9 := Below.trans hX (hB1.mono (Below.size hX)); clear hB1)
    refine bodyPost_ret (v := .bool true) (by simp [results, Tryd.results8, go_sem]; done) rfl ⟨rfl, ?_⟩
    exact HW.out.trans (hX9.mono HW.out.size)
end Go.Proofs.YtacakmlkaikabaaDoor

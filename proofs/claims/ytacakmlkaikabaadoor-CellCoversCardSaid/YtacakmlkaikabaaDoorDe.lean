/- cell.Cells as an iterator, at every two references; what the law's 'cells' hands back. -/
import Derived.Maps.OwnIn
import Derived.Test.YtacakmlkaikabaaDoorDd
import Derived.Test.YtacakmlkaikabaaDoorCc
namespace Go.Proofs.YtacakmlkaikabaaDoor
set_option linter.unusedVariables false
open Go.RowKit Go.Shelf

attribute [local go_sem] Oper.semAt_some

def cellsL (c r d s : Int) : List (Int × Int) := if (okB c r && okB d s) = true then grid (mn c d).toNat (mx c d + 1).toNat (upto (mn r s).toNat (mx r s + 1).toNat) else []

set_option maxRecDepth 100000 in
set_option maxHeartbeats 4000000 in
theorem cells1_no (n : Nat) (hn : 6 ≤ n) (l B1 B2 : Nat) (c r d s : Int) (ac ar bc br : Bool) (h : okB c r = false ∨ okB d s = false)
    (J Jx : List (Int × Int) → World → Prop) (W : World) (hJ : OwnFrom W.heap.size J)
    (hc1 : W.heap[B1]? = some (.cells #[.int .i64 c, .int .i64 r, .bool ac, .bool ar] 23)) (hc2 : W.heap[B2]? = some (.cells #[.int .i64 d, .int .i64 s, .bool bc, .bool br] 23)) (h0 : J [] W) :
    CallsIn Fence.wide n Tryd.prog 50 #[.func (.yield l) #[] #[], .pointer (some ⟨B1, 0, none⟩), .pointer (some ⟨B2, 0, none⟩)] W fun e W' => (∃ v, e = .returned v) ∧
      ((∃ ys, ys = [] ∧ J ys W') ∨ (∃ pre, pre <+: [] ∧ Jx pre W')) := by
  have h1' : 1 ≤ n := by omega
  refine callsIn_of_wp_marks Tryd.func50 rfl trivial ?_ rfl
  simp only [Tryd.ntmps50, List.size_toArray, List.length_cons, List.length_nil, Nat.reduceAdd, Nat.reduceSub, Array.replicate_succ, Array.replicate_zero, List.push_toArray, List.append_toArray, List.nil_append, List.cons_append]
  have a0 := blk_cell hc1 0
  have a1 := blk_cell hc1 1
  have a2 := blk_cell hc1 2
  have a3 := blk_cell hc1 3
  have b0 := blk_cell hc2 0
  have b1 := blk_cell hc2 1
  have b2 := blk_cell hc2 2
  have b3 := blk_cell hc2 3
  simp at a0 a1 a2 a3 b0 b1 b2 b3
  have lb1 : B1 < W.heap.size := blk_lt hc1
  have lb2 : B2 < W.heap.size := blk_lt hc2
  gi_wp2_with (first
    | (refine ⟨trivial, ?_⟩; gi_at_call 43; refine (callsIn_wide.2 (corners_no c r ac ar d s bc br _ h)).mono ?_; rintro e w1 ⟨rfl, hB1⟩))
  refine ⟨_, results_none rfl _ _ _, ⟨_, rfl⟩, .inl ⟨_, rfl, ?_⟩⟩
  exact hJ.alloc _ (hJ.alloc _ (hJ _ _ _ none h0 (below_grown (((Below.refl _ W).alloc (Nat.le_refl _) _).trans (hB1.mono (by simp)))) (fun r e => by cases e)))

theorem cells_seq (n : Nat) (hn : 6 ≤ n) (B1 B2 Bo : Nat) (c r d s : Int) (ac ar bc br : Bool) (w : World) (hf : Fit Bo w)
    (hc1 : w.heap[B1]? = some (.cells #[.int .i64 c, .int .i64 r, .bool ac, .bool ar] 23)) (hc2 : w.heap[B2]? = some (.cells #[.int .i64 d, .int .i64 s, .bool bc, .bool br] 23)) :
    SeqStopsO Fence.wide n Tryd.prog 50 #[.pointer (some ⟨B1, 0, none⟩), .pointer (some ⟨B2, 0, none⟩)] enc4 (KepI Bo) (fun ys => ys = cellsL c r d s) (fun pre => pre <+: cellsL c r d s) (cellsL c r d s).length w := by
  intro l J Jx W hl hW hJ hJx hY h0
  by_cases hh : (okB c r && okB d s) = true
  · simp only [cellsL, hh, if_true] at hY ⊢
    simp only [Bool.and_eq_true] at hh
    have g1 := okB_t hh.1
    have g2 := okB_t hh.2
    have m1 := mxmn c d 64 (by omega) (by omega) (by omega) (by omega)
    have m2 := mxmn r s 1000 (by omega) (by omega) (by omega) (by omega)
    exact cells1_yes n hn l B1 B2 Bo c r d s ac ar bc br hh.1 hh.2 _ _ _ _ (by omega) (by omega) (by omega) (by omega) (by omega) (by omega) (by omega) (by omega) J Jx W hl hJ hJx (kep_below hf hW).fit hY (blk_keep hW hc1) (blk_keep hW hc2) h0
  · simp only [cellsL, hh, if_false, Bool.false_eq_true] at hY ⊢
    exact cells1_no n hn l B1 B2 c r d s ac ar bc br (by cases h1 : okB c r <;> cases h2 : okB d s <;> simp_all) J Jx W hJ (blk_keep hW hc1) (blk_keep hW hc2) h0

set_option maxHeartbeats 1000000 in
theorem cellsFn_in (n : Nat) (c r d s : Int) (ac ar bc br : Bool) (w : World) :
    CallsIn Fence.wide n Tryd.prog 44 #[.agg #[.int .i64 c, .int .i64 r, .bool ac, .bool ar], .agg #[.int .i64 d, .int .i64 s, .bool bc, .bool br]] w fun e w' => e = .returned (.func (.func 50) #[] #[.pointer (some ⟨w.heap.size, 0, none⟩), .pointer (some ⟨w.heap.size + 1, 0, none⟩)]) ∧ w' = (w.alloc (.cells #[.int .i64 c, .int .i64 r, .bool ac, .bool ar] 23)).alloc (.cells #[.int .i64 d, .int .i64 s, .bool bc, .bool br] 23) := by
  refine callsIn_of_wp Tryd.func44 rfl trivial ?_ rfl
  simp only [Tryd.ntmps44, List.size_toArray, List.length_cons, List.length_nil, Nat.reduceAdd, Nat.reduceSub, Array.replicate_succ, Array.replicate_zero, List.push_toArray, List.append_toArray, List.nil_append, List.cons_append]
  gi_wp2
  go_ret
  exact ⟨rfl, rfl⟩

def cell4 (x : Int × Int) : List Value := [.int .i64 x.1, .int .i64 x.2, .bool false, .bool false]
def flat (xs : List (Int × Int)) : List Value := xs.flatMap cell4
theorem flat_snoc (xs : List (Int × Int)) (x : Int × Int) : flat (xs ++ [x]) = flat xs ++ cell4 x := by simp [flat]

theorem kep_appended {n₀ Bo m : Nat} {W w1 : World} {v v' : Value} {ys : List Value} {tmp : Obj} (hv : Boxed W Bo 42 v) (hf : Fit Bo W)
    (hgrow : (W.alloc tmp).grownBy w1 v.ownBlock) (hat : v'.ownBlock = v.ownBlock ∨ v'.ownBlock = some (W.alloc tmp).heap.size) (hown' : w1.ownsRow n₀ 23 4 v' m ys) (hv2 : Boxed (w1.setCell ⟨Bo, 0, none⟩ v') Bo 42 v') :
    Kep Bo W (w1.setCell ⟨Bo, 0, none⟩ v') := by
  have o1 : ownB Bo W = v.ownBlock := by simp [ownB, hv.cell]
  have o2 : ownB Bo (w1.setCell ⟨Bo, 0, none⟩ v') = v'.ownBlock := by simp [ownB, hv2.cell]
  have hs : (w1.setCell ⟨Bo, 0, none⟩ v').heap.size = w1.heap.size := by simp
  have hz := hgrow.size
  rw [World.size_alloc] at hz
  refine ⟨by omega, fun j o hj hc hn ho => ?_, ?_, ⟨⟨v', hv2⟩, fun g e => ?_⟩⟩
  · refine blk_far ?_ (fun e => hn e.symm) v'
    exact (hgrow.block j (by rw [World.size_alloc]; have := blk_lt hj; omega) (fun e => ho (o1.trans e.symm))).trans (blk_alloc hj tmp)
  · rw [o1, o2]
    rcases hat with e | e
    · exact .inl e
    · exact .inr ⟨_, by rw [World.size_alloc]; omega, e⟩
  · rw [o2] at e
    rw [hs]; exact (hown'.lt _ e).2

theorem info23 : (Tryd.prog.info? 23).map (fun i => (i.zero, i.size, i.bytes)) = some (some (.agg #[.int .i64 0, .int .i64 0, .bool false, .bool false]), 4, 24) := by kernel_rfl

theorem cell_four_new (w : World) (a b c d : Value) (t : TypeId) : ∀ j u, [a, b, c, d][j]? = some u → (w.alloc (.cells #[a, b, c, d] t)).cell? ((⟨w.heap.size, 0, none⟩ : Addr).add j) = some u := by
  intro j u hj
  have h := blk_cell (blk_new w (.cells #[a, b, c, d] t)) j
  have e : ((⟨w.heap.size, 0, none⟩ : Addr).add j) = ⟨w.heap.size, j, none⟩ := by
    unfold Addr.add
    split
    · next h0 => simp_all
    · simp
  rw [e, h, ← hj]
  simp [← Array.getElem?_toList]
theorem ownsRow_len {W : World} {base : Nat} {e : TypeId} {size : Nat} {v : Value} {k : Nat} {xs : List Value} (h : W.ownsRow base e size v k xs) : ∃ ao cap, v = .slice ao k cap := by
  rcases h.2 with ⟨rfl, rfl⟩ | ⟨g, cap, _, rfl, _⟩
  · exact ⟨none, 0, rfl⟩
  · exact ⟨_, _, rfl⟩

set_option maxRecDepth 100000 in
set_option maxHeartbeats 4000000 in
theorem lawCells_in (n : Nat) (hn : 20 ≤ n) (c r d s : Int) (ac ar bc br : Bool) (m : Nat) (hm : m ≤ 6000) (w : World) :
    CallsIn Fence.wide n Tryd.prog 29 #[.agg #[.int .i64 c, .int .i64 r, .bool ac, .bool ar], .agg #[.int .i64 d, .int .i64 s, .bool bc, .bool br], .int .i64 m] w fun e W' => ∃ v, e = .returned v ∧ W'.ownsRow w.heap.size 23 4 v ((cellsL c r d s).take m).length (flat ((cellsL c r d s).take m)) ∧ Below w.heap.size w W' := by
  have h1 : 1 ≤ n := by omega
  obtain ⟨i0, hi, hz0, hz1, hz2⟩ := info_parts info23
  refine callsIn_of_wp_marks Tryd.func29 rfl trivial ?_ rfl
  simp only [Tryd.ntmps29, List.size_toArray, List.length_cons, List.length_nil, Nat.reduceAdd, Nat.reduceSub, Array.replicate_succ, Array.replicate_zero, List.push_toArray, List.append_toArray, List.nil_append, List.cons_append]
  gi_wp2_with (refine ⟨trivial, ?_⟩; gi_at_call 44; refine (cellsFn_in (n - 1) _ _ _ _ _ _ _ _ _).mono ?_; rintro e w' ⟨rfl, rfl⟩)
  obtain ⟨w2, hw2⟩ : ∃ w2, ((w.alloc (.cells #[.int .i64 c, .int .i64 r, .bool ac, .bool ar] 23)).alloc (.cells #[.int .i64 d, .int .i64 s, .bool bc, .bool br] 23)) = w2 := ⟨_, rfl⟩
  have hB2 : Below w.heap.size w w2 := by rw [← hw2]; exact ((Below.refl _ w).alloc (Nat.le_refl _) _).alloc (by simp) _
  have hz : w2.heap.size = w.heap.size + 1 + 1 := by rw [← hw2]; simp
  have bM := ((((Boxed.new w2 3 (.int .i64 m)).alloc (.cells #[.slice none 0 0] 42)).alloc (.cells #[.int .i64 c, .int .i64 r, .bool ac, .bool ar] 23)).alloc (.cells #[.int .i64 d, .int .i64 s, .bool bc, .bool br] 23))
  have bO := ((Boxed.new (w2.alloc (.cells #[.int .i64 m] 3)) 42 (.slice none 0 0)).alloc (.cells #[.int .i64 c, .int .i64 r, .bool ac, .bool ar] 23)).alloc (.cells #[.int .i64 d, .int .i64 s, .bool bc, .bool br] 23)
  have hc1 := blk_alloc (blk_new ((w2.alloc (.cells #[.int .i64 m] 3)).alloc (.cells #[.slice none 0 0] 42)) (.cells #[.int .i64 c, .int .i64 r, .bool ac, .bool ar] 23)) (.cells #[.int .i64 d, .int .i64 s, .bool bc, .bool br] 23)
  have hc2 := blk_new (((w2.alloc (.cells #[.int .i64 m] 3)).alloc (.cells #[.slice none 0 0] 42)).alloc (.cells #[.int .i64 c, .int .i64 r, .bool ac, .bool ar] 23)) (.cells #[.int .i64 d, .int .i64 s, .bool bc, .bool br] 23)
  have hB0 : Below w.heap.size w ((((w2.alloc (.cells #[.int .i64 m] 3)).alloc (.cells #[.slice none 0 0] 42)).alloc (.cells #[.int .i64 c, .int .i64 r, .bool ac, .bool ar] 23)).alloc (.cells #[.int .i64 d, .int .i64 s, .bool bc, .bool br] 23)) := (((hB2.alloc (by omega) _).alloc (by simp; omega) _).alloc (by simp; omega) _).alloc (by simp; omega) _
  have hsz : ((((w2.alloc (.cells #[.int .i64 m] 3)).alloc (.cells #[.slice none 0 0] 42)).alloc (.cells #[.int .i64 c, .int .i64 r, .bool ac, .bool ar] 23)).alloc (.cells #[.int .i64 d, .int .i64 s, .bool bc, .bool br] 23)).heap.size = w.heap.size + 6 := by simp; omega
  simp only [World.size_alloc, hz] at bM bO hc1 hc2
  rw [hw2]
  obtain ⟨W0, hW0⟩ : ∃ W0, ((((w2.alloc (.cells #[.int .i64 m] 3)).alloc (.cells #[.slice none 0 0] 42)).alloc (.cells #[.int .i64 c, .int .i64 r, .bool ac, .bool ar] 23)).alloc (.cells #[.int .i64 d, .int .i64 s, .bool bc, .bool br] 23)) = W0 := ⟨_, rfl⟩
  rw [hW0] at bM bO hc1 hc2 hB0 hsz ⊢
  clear hW0 hw2 hB2 hz
  obtain ⟨z, hz⟩ : ∃ z, w.heap.size = z := ⟨_, rfl⟩
  rw [hz] at bM bO hc1 hc2 hB0 hsz ⊢
  have fit0 : Fit (z + 1 + 1 + 1) W0 := ⟨⟨_, bO⟩, fun g e => by simp [ownB, bO.cell, Value.ownBlock] at e⟩
  refine rangeOwn rfl h1 (gf := 50) (lb := #[.pointer (some ⟨z + 1 + 1 + 1 + 1, 0, none⟩), .pointer (some ⟨z + 1 + 1 + 1 + 1 + 1, 0, none⟩)]) rfl trivial (enters_of Tryd.func50 (by kernel_rfl) rfl)
    (cells_seq (n - 1) (by omega) _ _ (z + 1 + 1 + 1) c r d s ac ar bc br W0 fit0 hc1 hc2) KepI.trans (fun X o o' hk hc => kepI_put X _ o o' hk hc) (Below.refl _ _) (fun _ => rfl)
    (fun pre X => (((∃ v, Boxed X (z + 1 + 1 + 1) 42 v ∧ X.ownsRow z 23 4 v pre.length (flat pre) ∧ True) ∧ Boxed X (z + 1 + 1) 3 (.int .i64 m)) ∧ (pre.length ≤ m ∧ Below z w X)) ∧ Fit (z + 1 + 1 + 1) X)
    (fun cd pre X => (∃ v, Boxed X (z + 1 + 1 + 1) 42 v ∧ X.ownsRow z 23 4 v pre.dropLast.length (flat pre.dropLast) ∧ True) ∧ ((cd = .exit 0 ∧ pre.dropLast.length = m) ∧ Below z w X))
    (OwnFrom.and (OwnFrom.and (OwnFrom.and (Own.from (holdsRow_own z (z + 1 + 1 + 1) 42 23 4 (fun pre : List (Int × Int) => pre.length) (fun pre => flat pre) (fun _ _ => True)) _) (Own.from (boxed_own _ _ _) _)) (OwnFrom.and (ownFrom_pure _ _) (ownFrom_below (by omega) (by omega)))) (fit_own _ _))
    (fun cd => OwnFrom.and (Own.from (holdsRow_own z (z + 1 + 1 + 1) 42 23 4 (fun pre : List (Int × Int) => pre.dropLast.length) (fun pre => flat pre.dropLast) (fun _ _ => True)) _) (OwnFrom.and (ownFrom_pure _ _) (ownFrom_below (by omega) (by omega))))
    ⟨⟨⟨⟨_, bO, World.ownsRow_nil _ _ _ _, trivial⟩, bM⟩, by simp, hB0⟩, fit0⟩
    (fun x a' X => ∃ Bx, X.heap[Bx]? = some (.cells #[.int .i64 x.1, .int .i64 x.2, .bool false, .bool false] 23) ∧ a' = { tmps := #[.agg #[.int .i64 c, .int .i64 r, .bool ac, .bool ar], .agg #[.int .i64 d, .int .i64 s, .bool bc, .bool br], .int .i64 m, .pointer (some ⟨z, 0, none⟩), .pointer (some ⟨z + 1, 0, none⟩), .pointer (some ⟨z + 1 + 1, 0, none⟩), .slice none 0 0, .pointer (some ⟨z + 1 + 1 + 1, 0, none⟩), .pointer (some ⟨Bx, 0, none⟩), .agg #[.int .i64 c, .int .i64 r, .bool ac, .bool ar], .agg #[.int .i64 d, .int .i64 s, .bool bc, .bool br], .func (.func 50) #[] #[.pointer (some ⟨z + 1 + 1 + 1 + 1, 0, none⟩), .pointer (some ⟨z + 1 + 1 + 1 + 1 + 1, 0, none⟩)], .agg #[.int .i64 x.1, .int .i64 x.2, .bool false, .bool false], undef, undef, undef, undef, undef, undef, undef, undef, undef], defers := [] })
    (fun x a' _ X Y row hs hg hr => by
      obtain ⟨Bx, e1, e2⟩ := hs
      exact ⟨Bx, (hg.block Bx (blk_lt e1) (fun e => by obtain ⟨_, o, ho, hc⟩ := hr _ e.symm; rw [e1] at ho; cases ho; cases hc)).trans e1, e2⟩)
    ?assign ?body ?done ?stop
  case assign =>
    rintro l1 pre x X K ⟨⟨⟨⟨v, hv, hrow, _⟩, bM1⟩, hl, hB⟩, hfX⟩ hK
    dsimp only [enc4]
    gi_wp2
    exact hK _ _ ((KeepsOthers.alloc _ _).from _) (fun f => (Kep.refl f).alloc _) ⟨⟨⟨⟨v, hv.alloc _, hrow.alloc _, trivial⟩, bM1.alloc _⟩, hl, hB.alloc (by have := hB.size; omega) _⟩, hfX.alloc _⟩ ⟨X.heap.size, blk_new _ _, rfl⟩
  case body =>
    rintro l1 pre x a' X hlz _ ⟨⟨⟨⟨v, hv, hrow, _⟩, bM1⟩, hl, hB⟩, hfX⟩ ⟨Bx, hx, rfl⟩ hlt
    have hc := hv.cell
    have hM := bM1.cell
    obtain ⟨ao, cap, rfl⟩ := ownsRow_len hrow
    have hzX : z ≤ X.heap.size := by have := hB.size; omega
    by_cases hm' : pre.length = m
    · have hb : ((pre.length : Int) == (m : Int)) = true := by rw [beq_iff_eq]; omega
      gi_wp2
      exact ⟨KeepsFrom.refl _ _, ⟨_, hv, by simpa using hrow, trivial⟩, ⟨rfl, by simpa using hm'⟩, hB⟩
    · have hb : ((pre.length : Int) == (m : Int)) = false := by rw [beq_eq_false_iff_ne]; omega
      have x0 := blk_cell hx 0
      have x1 := blk_cell hx 1
      have x2 := blk_cell hx 2
      have x3 := blk_cell hx 3
      simp at x0 x1 x2 x3
      gi_wp2_with (gi_at_builtin; refine wpListIn_append_own_at _ rfl _ _ 42 rfl z 23 i0 (.agg #[.int .i64 0, .int .i64 0, .bool false, .bool false]) 4 24 Tryd.underlying42 hi hz0 hz1 hz2 rfl (by decide) _ _ _ rfl (hrow.alloc _) ⟨X.heap.size, 0, none⟩ 1 1 (cell4 x) rfl rfl (cell_four_new _ _ _ _ _ _) (by simp [cell4, Value.oneCell']) (by show _ ≤ 9223372036854775807; omega) (by omega) (by simp; omega) ?_; intro v' w1 hown' hgrow _ hat; obtain ⟨g', cap', rfl⟩ := ownsRow_succ hown'; obtain ⟨hv1, hv2, hr2, hk2, hb2⟩ := hv.appended (by decide) hrow hzX (by omega) hown' hgrow; have hkk := kep_appended hv hfX hgrow hat hown' hv2; have hc1 := hv1.cell; have hf1 := hv1.frozen)
      exact ⟨hk2.from _, fun _ => hkk, ⟨⟨⟨_, hv2, by rw [flat_snoc, List.length_append]; exact hr2, trivial⟩, ((bM1.alloc _).kept hgrow (bM1.not_row (by decide) hrow)).other (by omega) _⟩, by simp; omega, hB.trans hb2⟩, hkk.fit⟩
  case done =>
    rintro D ys X hD rfl ⟨⟨⟨⟨v, hv, hrow, _⟩, bM1⟩, hl, hB⟩, hfX⟩ hK
    have hc := hv.cell
    gi_wp2
    refine ⟨by simp, .inl ⟨_, _, rfl, run_takeDeferred hK, ?_⟩⟩
    refine ⟨_, results_tmp rfl _ _ _, v, rfl, ?_, (hz ▸ hB).trans (belowK_b (w := w) (by omega) X D _ _ (by omega) hK rfl rfl)⟩
    rw [List.take_of_length_le hl]
    rw [hz]; exact ownsRow_putObj hrow _ hK rfl
  case stop =>
    rintro D cd pre X hD hpre ⟨⟨v, hv, hrow, _⟩, ⟨rfl, hlm⟩, hB⟩ hK
    have hc := hv.cell
    gi_wp2
    refine ⟨by simp, .inl ⟨_, _, rfl, run_takeDeferred hK, ?_⟩⟩
    refine ⟨_, results_tmp rfl _ _ _, v, rfl, ?_, (hz ▸ hB).trans (belowK_b (w := w) (by omega) X D _ _ (by omega) hK rfl rfl)⟩
    have e : (cellsL c r d s).take m = pre.dropLast := by
      obtain ⟨t, ht⟩ := (List.dropLast_prefix pre).trans hpre
      rw [← ht, ← hlm]; simp
    rw [e]
    rw [hz]; exact ownsRow_putObj hrow _ hK rfl

theorem lawCells_any (c r d s : Int) (ac ar bc br : Bool) (m : Nat) (hm : m ≤ 6000) (w : World) :
    Calls Tryd.prog 29 #[.agg #[.int .i64 c, .int .i64 r, .bool ac, .bool ar], .agg #[.int .i64 d, .int .i64 s, .bool bc, .bool br], .int .i64 m] w fun e W' => ∃ v, e = .returned v ∧ W'.ownsRow w.heap.size 23 4 v ((cellsL c r d s).take m).length (flat ((cellsL c r d s).take m)) ∧ Below w.heap.size w W' :=
  (callsIn_wide (n := 20)).1 (lawCells_in 20 (Nat.le_refl _) c r d s ac ar bc br m hm w)

end Go.Proofs.YtacakmlkaikabaaDoor

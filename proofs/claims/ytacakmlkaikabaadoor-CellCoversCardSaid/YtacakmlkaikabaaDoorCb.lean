/- cell.corners, walked at every two references. -/
import Derived.Test.YtacakmlkaikabaaDoorCa
import Derived.Deep.RegionHeld3
namespace Go.Proofs.YtacakmlkaikabaaDoor
open Go.RowKit

def mn (a b : Int) : Int := if b < a then b else a
def mx (a b : Int) : Int := if a < b then b else a
theorem max2_int (k k' : IntKind) (x y : Int) : Builtin.max2 (.int k x) (.int k' y) = pure (.int k (mx x y)) := by simp only [Builtin.max2, gt_iff_lt, mx]
theorem min2_int (k k' : IntKind) (x y : Int) : Builtin.min2 (.int k x) (.int k' y) = pure (.int k (mn x y)) := by simp only [Builtin.min2, mn]
theorem max_two (ats : Array TypeId) (ty : TypeId) (a b : Value) : Builtin.max_ ats ty #[a, b] = (Builtin.max2 a b >>= fun s => pure s) := by simp only [Builtin.max_, List.foldlM_cons, List.foldlM_nil]
theorem min_two (ats : Array TypeId) (ty : TypeId) (a b : Value) : Builtin.min_ ats ty #[a, b] = (Builtin.min2 a b >>= fun s => pure s) := by simp only [Builtin.min_, List.foldlM_cons, List.foldlM_nil]
attribute [local go_sem] max2_int min2_int max_two min_two

/-- Operation i of a region of open order is taken first: it yields v in every world that meets S. -/
theorem take_first {P : Program} {md : Region.Mode} {ops : Array Oper} {Q : Exit → Act → World → Prop} {S : World → Prop} (i : Nat) (N : Option Tmp) {oi : Oper} {v : Value} {fuel : Nat} {listed l2 : Array Bool} {a a' : Act} {w : World} (hi : ops[i]? = some oi) (hN : oi.dst = N)
    (hs : Region.noSelect ops = true) (hf : Region.free md ops listed i = true) (hr : (Region.ready md ops listed).contains i = true)
    (hQ : ∀ c a w, Q (.panic c) (a.put N v) w → Q (.panic c) a w) (hy : YieldsIf P ops S oi v a) (hS : S w)
    (hl : listed.setIfInBounds i true = l2) (ha : a.put N v = a')
    (h : wpAnyH P md ops Q S fuel l2 a' w) : wpAnyH P md ops Q S (fuel + 1) listed a w := by
  subst hN; subst hl; subst ha
  exact wpAnyH_take hi hs hf hr hQ hy hS h

set_option maxHeartbeats 2000000 in
set_option maxRecDepth 100000 in
theorem corners_yes (c r : Int) (ac ar : Bool) (d s : Int) (bc br : Bool) (w : World) (h1 : okB c r = true) (h2 : okB d s = true) :
    Calls Tryd.prog 43 #[.agg #[.int .i64 c, .int .i64 r, .bool ac, .bool ar], .agg #[.int .i64 d, .int .i64 s, .bool bc, .bool br]] w fun e w' => e = .returned (.tuple #[.agg #[.int .i64 (mn c d), .int .i64 (mn r s), .bool false, .bool false], .agg #[.int .i64 (mx c d), .int .i64 (mx r s), .bool false, .bool false], .bool true]) ∧ Below w.heap.size w w' := by
  go_enter Tryd.func43, Tryd.ntmps43
  go_wp2_with (go_at_call 12; refine (right_any _ _ _ _ _).mono ?_; rintro e w' ⟨rfl, rfl⟩)
  refine wp_region_held_drew (S := fun w' : World => w'.cell? ⟨w.heap.size, 0, none⟩ = some (.int .i64 c) ∧ w'.cell? ⟨w.heap.size, 1, none⟩ = some (.int .i64 r) ∧ w'.cell? ⟨w.heap.size + 1, 0, none⟩ = some (.int .i64 d) ∧ w'.cell? ⟨w.heap.size + 1, 1, none⟩ = some (.int .i64 s)) (by kernel_rfl) (by go_simp) (fun hHeld => ?_)
  refine take_first 0 (some 17) (v := ?v0) (l2 := #[true, false, false, false, false, false, false, false, false, false, false, false, false, false, false, false, false, false, false, false, false, false, false, false, false]) (a' := ?a0) rfl rfl (by kernel_rfl) (by kernel_rfl) (by kernel_rfl) (fun _ _ _ h => h) (Or.inl ⟨by rfl, ?y0⟩) hHeld (by kernel_rfl) ?e0 ?_
  case y0 => intro w' hSw; obtain ⟨s0, s1, s2, s3⟩ := hSw; go_simp; with_reducible rfl
  case e0 => simp only [Act.put, List.setIfInBounds_toArray, List.set_cons_zero, List.set_cons_succ]; rfl
  refine take_first 1 (some 18) (v := ?v1) (l2 := #[true, true, false, false, false, false, false, false, false, false, false, false, false, false, false, false, false, false, false, false, false, false, false, false, false]) (a' := ?a1) rfl rfl (by kernel_rfl) (by kernel_rfl) (by kernel_rfl) (fun _ _ _ h => h) (Or.inl ⟨by rfl, ?y1⟩) hHeld (by kernel_rfl) ?e1 ?_
  case y1 => intro w' hSw; obtain ⟨s0, s1, s2, s3⟩ := hSw; go_simp; with_reducible rfl
  case e1 => simp only [Act.put, List.setIfInBounds_toArray, List.set_cons_zero, List.set_cons_succ]; rfl
  refine take_first 2 (some 19) (v := ?v2) (l2 := #[true, true, true, false, false, false, false, false, false, false, false, false, false, false, false, false, false, false, false, false, false, false, false, false, false]) (a' := ?a2) rfl rfl (by kernel_rfl) (by kernel_rfl) (by kernel_rfl) (fun _ _ _ h => h) (Or.inl ⟨by rfl, ?y2⟩) hHeld (by kernel_rfl) ?e2 ?_
  case y2 => intro w' hSw; obtain ⟨s0, s1, s2, s3⟩ := hSw; go_simp; with_reducible rfl
  case e2 => simp only [Act.put, List.setIfInBounds_toArray, List.set_cons_zero, List.set_cons_succ]; rfl
  refine take_first 3 (some 20) (v := ?v3) (l2 := #[true, true, true, true, false, false, false, false, false, false, false, false, false, false, false, false, false, false, false, false, false, false, false, false, false]) (a' := ?a3) rfl rfl (by kernel_rfl) (by kernel_rfl) (by kernel_rfl) (fun _ _ _ h => h) (Or.inl ⟨by rfl, ?y3⟩) hHeld (by kernel_rfl) ?e3 ?_
  case y3 => intro w' hSw; obtain ⟨s0, s1, s2, s3⟩ := hSw; go_simp; with_reducible rfl
  case e3 => simp only [Act.put, List.setIfInBounds_toArray, List.set_cons_zero, List.set_cons_succ]; rfl
  refine take_first 4 (some 21) (v := ?v4) (l2 := #[true, true, true, true, true, false, false, false, false, false, false, false, false, false, false, false, false, false, false, false, false, false, false, false, false]) (a' := ?a4) rfl rfl (by kernel_rfl) (by kernel_rfl) (by kernel_rfl) (fun _ _ _ h => h) (Or.inl ⟨by rfl, ?y4⟩) hHeld (by kernel_rfl) ?e4 ?_
  case y4 => intro w' hSw; obtain ⟨s0, s1, s2, s3⟩ := hSw; go_simp; with_reducible rfl
  case e4 => simp only [Act.put, List.setIfInBounds_toArray, List.set_cons_zero, List.set_cons_succ]; rfl
  refine take_first 5 (some 22) (v := ?v5) (l2 := #[true, true, true, true, true, true, false, false, false, false, false, false, false, false, false, false, false, false, false, false, false, false, false, false, false]) (a' := ?a5) rfl rfl (by kernel_rfl) (by kernel_rfl) (by kernel_rfl) (fun _ _ _ h => h) (Or.inl ⟨by rfl, ?y5⟩) hHeld (by kernel_rfl) ?e5 ?_
  case y5 => intro w' hSw; obtain ⟨s0, s1, s2, s3⟩ := hSw; go_simp; with_reducible rfl
  case e5 => simp only [Act.put, List.setIfInBounds_toArray, List.set_cons_zero, List.set_cons_succ]; rfl
  refine take_first 6 (some 23) (v := ?v6) (l2 := #[true, true, true, true, true, true, true, false, false, false, false, false, false, false, false, false, false, false, false, false, false, false, false, false, false]) (a' := ?a6) rfl rfl (by kernel_rfl) (by kernel_rfl) (by kernel_rfl) (fun _ _ _ h => h) (Or.inl ⟨by rfl, ?y6⟩) hHeld (by kernel_rfl) ?e6 ?_
  case y6 => intro w' hSw; obtain ⟨s0, s1, s2, s3⟩ := hSw; go_simp; with_reducible rfl
  case e6 => simp only [Act.put, List.setIfInBounds_toArray, List.set_cons_zero, List.set_cons_succ]; rfl
  refine take_first 7 (some 24) (v := ?v7) (l2 := #[true, true, true, true, true, true, true, true, false, false, false, false, false, false, false, false, false, false, false, false, false, false, false, false, false]) (a' := ?a7) rfl rfl (by kernel_rfl) (by kernel_rfl) (by kernel_rfl) (fun _ _ _ h => h) (Or.inl ⟨by rfl, ?y7⟩) hHeld (by kernel_rfl) ?e7 ?_
  case y7 => intro w' hSw; obtain ⟨s0, s1, s2, s3⟩ := hSw; go_simp; with_reducible rfl
  case e7 => simp only [Act.put, List.setIfInBounds_toArray, List.set_cons_zero, List.set_cons_succ]; rfl
  refine take_first 8 (some 25) (v := ?v8) (l2 := #[true, true, true, true, true, true, true, true, true, false, false, false, false, false, false, false, false, false, false, false, false, false, false, false, false]) (a' := ?a8) rfl rfl (by kernel_rfl) (by kernel_rfl) (by kernel_rfl) (fun _ _ _ h => h) (Or.inl ⟨by rfl, ?y8⟩) hHeld (by kernel_rfl) ?e8 ?_
  case y8 => intro w' hSw; obtain ⟨s0, s1, s2, s3⟩ := hSw; go_simp; with_reducible rfl
  case e8 => simp only [Act.put, List.setIfInBounds_toArray, List.set_cons_zero, List.set_cons_succ]; rfl
  refine take_first 9 (some 26) (v := ?v9) (l2 := #[true, true, true, true, true, true, true, true, true, true, false, false, false, false, false, false, false, false, false, false, false, false, false, false, false]) (a' := ?a9) rfl rfl (by kernel_rfl) (by kernel_rfl) (by kernel_rfl) (fun _ _ _ h => h) (Or.inl ⟨by rfl, ?y9⟩) hHeld (by kernel_rfl) ?e9 ?_
  case y9 => intro w' hSw; obtain ⟨s0, s1, s2, s3⟩ := hSw; go_simp; with_reducible rfl
  case e9 => simp only [Act.put, List.setIfInBounds_toArray, List.set_cons_zero, List.set_cons_succ]; rfl
  refine take_first 10 (some 27) (v := ?v10) (l2 := #[true, true, true, true, true, true, true, true, true, true, true, false, false, false, false, false, false, false, false, false, false, false, false, false, false]) (a' := ?a10) rfl rfl (by kernel_rfl) (by kernel_rfl) (by kernel_rfl) (fun _ _ _ h => h) (Or.inl ⟨by rfl, ?y10⟩) hHeld (by kernel_rfl) ?e10 ?_
  case y10 => intro w' hSw; obtain ⟨s0, s1, s2, s3⟩ := hSw; go_simp; with_reducible rfl
  case e10 => simp only [Act.put, List.setIfInBounds_toArray, List.set_cons_zero, List.set_cons_succ]; rfl
  refine take_first 11 (some 28) (v := ?v11) (l2 := #[true, true, true, true, true, true, true, true, true, true, true, true, false, false, false, false, false, false, false, false, false, false, false, false, false]) (a' := ?a11) rfl rfl (by kernel_rfl) (by kernel_rfl) (by kernel_rfl) (fun _ _ _ h => h) (Or.inl ⟨by rfl, ?y11⟩) hHeld (by kernel_rfl) ?e11 ?_
  case y11 => intro w' hSw; obtain ⟨s0, s1, s2, s3⟩ := hSw; go_simp; with_reducible rfl
  case e11 => simp only [Act.put, List.setIfInBounds_toArray, List.set_cons_zero, List.set_cons_succ]; rfl
  refine take_first 12 (some 29) (v := ?v12) (l2 := #[true, true, true, true, true, true, true, true, true, true, true, true, true, false, false, false, false, false, false, false, false, false, false, false, false]) (a' := ?a12) rfl rfl (by kernel_rfl) (by kernel_rfl) (by kernel_rfl) (fun _ _ _ h => h) (Or.inl ⟨by rfl, ?y12⟩) hHeld (by kernel_rfl) ?e12 ?_
  case y12 => intro w' hSw; obtain ⟨s0, s1, s2, s3⟩ := hSw; go_simp; with_reducible rfl
  case e12 => simp only [Act.put, List.setIfInBounds_toArray, List.set_cons_zero, List.set_cons_succ]; rfl
  refine take_first 13 (some 30) (v := ?v13) (l2 := #[true, true, true, true, true, true, true, true, true, true, true, true, true, true, false, false, false, false, false, false, false, false, false, false, false]) (a' := ?a13) rfl rfl (by kernel_rfl) (by kernel_rfl) (by kernel_rfl) (fun _ _ _ h => h) (Or.inl ⟨by rfl, ?y13⟩) hHeld (by kernel_rfl) ?e13 ?_
  case y13 => intro w' hSw; obtain ⟨s0, s1, s2, s3⟩ := hSw; go_simp; with_reducible rfl
  case e13 => simp only [Act.put, List.setIfInBounds_toArray, List.set_cons_zero, List.set_cons_succ]; rfl
  refine take_first 14 (some 31) (v := ?v14) (l2 := #[true, true, true, true, true, true, true, true, true, true, true, true, true, true, true, false, false, false, false, false, false, false, false, false, false]) (a' := ?a14) rfl rfl (by kernel_rfl) (by kernel_rfl) (by kernel_rfl) (fun _ _ _ h => h) (Or.inl ⟨by rfl, ?y14⟩) hHeld (by kernel_rfl) ?e14 ?_
  case y14 => intro w' hSw; obtain ⟨s0, s1, s2, s3⟩ := hSw; go_simp; with_reducible rfl
  case e14 => simp only [Act.put, List.setIfInBounds_toArray, List.set_cons_zero, List.set_cons_succ]; rfl
  refine take_first 15 (some 32) (v := ?v15) (l2 := #[true, true, true, true, true, true, true, true, true, true, true, true, true, true, true, true, false, false, false, false, false, false, false, false, false]) (a' := ?a15) rfl rfl (by kernel_rfl) (by kernel_rfl) (by kernel_rfl) (fun _ _ _ h => h) (Or.inl ⟨by rfl, ?y15⟩) hHeld (by kernel_rfl) ?e15 ?_
  case y15 => intro w' hSw; obtain ⟨s0, s1, s2, s3⟩ := hSw; go_simp; with_reducible rfl
  case e15 => simp only [Act.put, List.setIfInBounds_toArray, List.set_cons_zero, List.set_cons_succ]; rfl
  refine take_first 16 (some 33) (v := ?v16) (l2 := #[true, true, true, true, true, true, true, true, true, true, true, true, true, true, true, true, true, false, false, false, false, false, false, false, false]) (a' := ?a16) rfl rfl (by kernel_rfl) (by kernel_rfl) (by kernel_rfl) (fun _ _ _ h => h) (Or.inl ⟨by rfl, ?y16⟩) hHeld (by kernel_rfl) ?e16 ?_
  case y16 => intro w' hSw; obtain ⟨s0, s1, s2, s3⟩ := hSw; go_simp; with_reducible rfl
  case e16 => simp only [Act.put, List.setIfInBounds_toArray, List.set_cons_zero, List.set_cons_succ]; rfl
  refine take_first 17 (some 34) (v := ?v17) (l2 := #[true, true, true, true, true, true, true, true, true, true, true, true, true, true, true, true, true, true, false, false, false, false, false, false, false]) (a' := ?a17) rfl rfl (by kernel_rfl) (by kernel_rfl) (by kernel_rfl) (fun _ _ _ h => h) (Or.inl ⟨by rfl, ?y17⟩) hHeld (by kernel_rfl) ?e17 ?_
  case y17 => intro w' hSw; obtain ⟨s0, s1, s2, s3⟩ := hSw; go_simp; with_reducible rfl
  case e17 => simp only [Act.put, List.setIfInBounds_toArray, List.set_cons_zero, List.set_cons_succ]; rfl
  refine take_first 18 (some 35) (v := ?v18) (l2 := #[true, true, true, true, true, true, true, true, true, true, true, true, true, true, true, true, true, true, true, false, false, false, false, false, false]) (a' := ?a18) rfl rfl (by kernel_rfl) (by kernel_rfl) (by kernel_rfl) (fun _ _ _ h => h) (Or.inl ⟨by rfl, ?y18⟩) hHeld (by kernel_rfl) ?e18 ?_
  case y18 => intro w' hSw; obtain ⟨s0, s1, s2, s3⟩ := hSw; go_simp; with_reducible rfl
  case e18 => simp only [Act.put, List.setIfInBounds_toArray, List.set_cons_zero, List.set_cons_succ]; rfl
  refine take_first 19 (some 36) (v := ?v19) (l2 := #[true, true, true, true, true, true, true, true, true, true, true, true, true, true, true, true, true, true, true, true, false, false, false, false, false]) (a' := ?a19) rfl rfl (by kernel_rfl) (by kernel_rfl) (by kernel_rfl) (fun _ _ _ h => h) (Or.inl ⟨by rfl, ?y19⟩) hHeld (by kernel_rfl) ?e19 ?_
  case y19 => intro w' hSw; obtain ⟨s0, s1, s2, s3⟩ := hSw; go_simp; with_reducible rfl
  case e19 => simp only [Act.put, List.setIfInBounds_toArray, List.set_cons_zero, List.set_cons_succ]; rfl
  refine take_first 20 (some 37) (v := ?v20) (l2 := #[true, true, true, true, true, true, true, true, true, true, true, true, true, true, true, true, true, true, true, true, true, false, false, false, false]) (a' := ?a20) rfl rfl (by kernel_rfl) (by kernel_rfl) (by kernel_rfl) (fun _ _ _ h => h) (Or.inl ⟨by rfl, ?y20⟩) hHeld (by kernel_rfl) ?e20 ?_
  case y20 => intro w' hSw; obtain ⟨s0, s1, s2, s3⟩ := hSw; go_simp; with_reducible rfl
  case e20 => simp only [Act.put, List.setIfInBounds_toArray, List.set_cons_zero, List.set_cons_succ]; rfl
  refine take_first 21 (some 38) (v := ?v21) (l2 := #[true, true, true, true, true, true, true, true, true, true, true, true, true, true, true, true, true, true, true, true, true, true, false, false, false]) (a' := ?a21) rfl rfl (by kernel_rfl) (by kernel_rfl) (by kernel_rfl) (fun _ _ _ h => h) (Or.inl ⟨by rfl, ?y21⟩) hHeld (by kernel_rfl) ?e21 ?_
  case y21 => intro w' hSw; obtain ⟨s0, s1, s2, s3⟩ := hSw; go_simp; with_reducible rfl
  case e21 => simp only [Act.put, List.setIfInBounds_toArray, List.set_cons_zero, List.set_cons_succ]; rfl
  clear hHeld
  refine wpAnyH_ready (rs := [22]) (by kernel_rfl) (by simp) ?_
  refine AllReadyH.cons rfl (fun K hK => ?_) AllReadyH.nil
  go_simp
  refine hK.out _ _ (by go_simp) (fun hHeld => ?_)
  clear hK hHeld K
  refine wpAnyH_ready (rs := [23]) (by kernel_rfl) (by simp) ?_
  refine AllReadyH.cons rfl (fun K hK => ?_) AllReadyH.nil
  go_simp
  refine hK.out _ _ (by go_simp) (fun hHeld => ?_)
  clear hK hHeld K
  refine wpAnyH_ready (rs := [24]) (by kernel_rfl) (by simp) ?_
  refine AllReadyH.cons rfl (fun K hK => ?_) AllReadyH.nil
  go_simp
  refine hK.out _ _ (by go_simp) (fun hHeld => ?_)
  clear hK hHeld K
  refine wpAnyH_done (by kernel_rfl) ?_ _
  go_wp2
  refine bodyPost_ret (v := .tuple #[.agg #[.int .i64 (mn c d), .int .i64 (mn r s), .bool false, .bool false], .agg #[.int .i64 (mx c d), .int .i64 (mx r s), .bool false, .bool false], .bool true]) (by simp [results, Tryd.results43, go_sem]) rfl ⟨rfl, ?_⟩
  exact ((((((Below.refl _ w).alloc (Nat.le_refl _) _).alloc (by simp) _).alloc (by simp; omega) _).alloc (by simp; omega) _).alloc (by simp; omega) _).alloc (by simp; omega) _ |>.drew

set_option maxHeartbeats 1000000 in
set_option maxRecDepth 100000 in
theorem corners_no (c r : Int) (ac ar : Bool) (d s : Int) (bc br : Bool) (w : World) (h : okB c r = false ∨ okB d s = false) :
    Calls Tryd.prog 43 #[.agg #[.int .i64 c, .int .i64 r, .bool ac, .bool ar], .agg #[.int .i64 d, .int .i64 s, .bool bc, .bool br]] w fun e w' => e = .returned (.tuple #[.agg #[.int .i64 0, .int .i64 0, .bool false, .bool false], .agg #[.int .i64 0, .int .i64 0, .bool false, .bool false], .bool false]) ∧ Below w.heap.size w w' := by
  cases h1 : okB c r with
  | false =>
    clear h
    go_enter Tryd.func43, Tryd.ntmps43
    go_wp2_with (go_at_call 12; refine (right_any _ _ _ _ _).mono ?_; rintro e w' ⟨rfl, rfl⟩)
    refine bodyPost_ret (v := .tuple #[.agg #[.int .i64 0, .int .i64 0, .bool false, .bool false], .agg #[.int .i64 0, .int .i64 0, .bool false, .bool false], .bool false]) (by simp [results, Tryd.results43, go_sem]) rfl ⟨rfl, ?_⟩
    exact (((((Below.refl _ w).alloc (Nat.le_refl _) _).alloc (by simp) _).alloc (by simp; omega) _).alloc (by simp; omega) _).alloc (by simp; omega) _
  | true =>
    have h2 : okB d s = false := by rcases h with h | h; · rw [h] at h1; cases h1
                                    · exact h
    clear h
    go_enter Tryd.func43, Tryd.ntmps43
    go_wp2_with (go_at_call 12; refine (right_any _ _ _ _ _).mono ?_; rintro e w' ⟨rfl, rfl⟩)
    refine bodyPost_ret (v := .tuple #[.agg #[.int .i64 0, .int .i64 0, .bool false, .bool false], .agg #[.int .i64 0, .int .i64 0, .bool false, .bool false], .bool false]) (by simp [results, Tryd.results43, go_sem]) rfl ⟨rfl, ?_⟩
    exact ((((((Below.refl _ w).alloc (Nat.le_refl _) _).alloc (by simp) _).alloc (by simp; omega) _).alloc (by simp; omega) _).alloc (by simp; omega) _).alloc (by simp; omega) _
end Go.Proofs.YtacakmlkaikabaaDoor

/- cell.Cells: what its function value does as an iterator: the cells of an area, row by row. -/
import Derived.Test.YtacakmlkaikabaaDoorDc
namespace Go.Proofs.YtacakmlkaikabaaDoor
set_option linter.unusedVariables false
open Go.RowKit Go.Shelf

attribute [local go_sem] Oper.semAt_some

theorem keepsFrom_le {B B' : Nat} {X Y : World} (h : KeepsFrom B X Y) (hb : B ≤ B') : KeepsFrom B' X Y := ⟨h.size, fun k o hk h0 ho => h.same k o (Nat.le_trans hb hk) h0 ho⟩

set_option maxRecDepth 100000 in
set_option maxHeartbeats 4000000 in
theorem cells1_yes (n : Nat) (hn : 6 ≤ n) (l B1 B2 Bo : Nat) (c r d s : Int) (ac ar bc br : Bool) (h1 : okB c r = true) (h2 : okB d s = true) (p q p' q' : Nat) (hp : mn c d = (p : Int)) (hq : mx c d + 1 = (q : Int)) (hp' : mn r s = (p' : Int)) (hq' : mx r s + 1 = (q' : Int)) (hpq : p ≤ q) (hpq' : p' ≤ q') (hq5 : q ≤ 5000) (hq5' : q' ≤ 5000)
    (J Jx : List (Int × Int) → World → Prop) (W : World) (hn0 : l < W.heap.size) (hJ : OwnFrom W.heap.size J) (hJx : OwnFrom W.heap.size Jx) (hf : Fit Bo W)
    (hY : ∀ pre x W1, J pre W1 → pre.length < (grid p q (upto p' q')).length → YieldAt Fence.wide (n - 1) Tryd.prog l (enc4 x) W1 fun e W' =>
      (e = .returned (.bool true) ∧ J (pre ++ [x]) W' ∧ KepI Bo W1 W' ∧ KeepsFrom (l + 1) W1 W') ∨ (e = .returned (.bool false) ∧ Jx (pre ++ [x]) W' ∧ KeepsFrom (l + 1) W1 W'))
    (hc1 : W.heap[B1]? = some (.cells #[.int .i64 c, .int .i64 r, .bool ac, .bool ar] 23)) (hc2 : W.heap[B2]? = some (.cells #[.int .i64 d, .int .i64 s, .bool bc, .bool br] 23)) (h0 : J [] W) :
    CallsIn Fence.wide n Tryd.prog 50 #[.func (.yield l) #[] #[], .pointer (some ⟨B1, 0, none⟩), .pointer (some ⟨B2, 0, none⟩)] W fun e W' => (∃ v, e = .returned v) ∧
      ((∃ ys, ys = grid p q (upto p' q') ∧ J ys W') ∨ (∃ pre, pre <+: grid p q (upto p' q') ∧ Jx pre W')) := by
  have HP := Lib.hid hp
  have HQ := Lib.hid hq
  have HP' := Lib.hid hp'
  have HQ' := Lib.hid hq'
  clear hp hq hp' hq'
  have h1' : 1 ≤ n := by omega
  refine callsIn_of_wp_marks Tryd.func50 rfl trivial ?_ rfl
  simp only [Tryd.ntmps50, List.size_toArray, List.length_cons, List.length_nil, Nat.reduceAdd, Nat.reduceSub, Array.replicate_succ, Array.replicate_zero, List.push_toArray, List.append_toArray, List.nil_append, List.cons_append]
  have a0 := blk_cell hc1 0
  have a1 := blk_cell hc1 1
  have a2 := blk_cell hc1 2
  have a3 := blk_cell hc1 3
  have b0 := blk_cell hc2 0
  have b1 := blk_cell hc2 1
  have b2 := blk_cell hc2 2
  have b3 := blk_cell hc2 3
  simp at a0 a1 a2 a3 b0 b1 b2 b3
  have lb1 : B1 < W.heap.size := blk_lt hc1
  have lb2 : B2 < W.heap.size := blk_lt hc2
  gi_wp2_with (first
    | (refine ⟨trivial, ?_⟩; gi_at_call 43; refine (callsIn_wide.2 (corners_yes c r ac ar d s bc br _ h1 h2)).mono ?_; rintro e w1 ⟨rfl, hB1⟩)
    | (refine ⟨trivial, ?_⟩; gi_at_call 51; refine (between_in Fence.wide (n - 1) trivial rfl _ _ _).mono ?_; rintro e w2 ⟨rfl, rfl⟩))
  clear a0 a1 a2 a3 b0 b1 b2 b3
  -- the world in which the outer loop begins
  have fA := hf.alloc (.cells #[.func (.yield l) #[] #[]] 28)
  have sY := safe_new hf (.cells #[.func (.yield l) #[] #[]] 28) rfl
  have k1 := kep_below fA hB1
  have f1 := k1.fit
  replace sY := sY.kep k1
  have hJ1 : J [] w1 := hJ _ _ _ none h0 (below_grown (((Below.refl _ W).alloc (Nat.le_refl _) _).trans (hB1.mono (by simp)))) (fun r e => by cases e)
  have hz1 : W.heap.size < w1.heap.size := by have := hB1.size; simp at this; omega
  clear fA hB1 k1 h0
  have s4 := safe_new f1 (.cells #[.int .i64 (mn c d), .int .i64 (mn r s), .bool false, .bool false] 23) rfl
  have f2 := f1.alloc (.cells #[.int .i64 (mn c d), .int .i64 (mn r s), .bool false, .bool false] 23)
  have s5 := safe_new f2 (.cells #[.int .i64 (mx c d), .int .i64 (mx r s), .bool false, .bool false] 23) rfl
  have f3 := f2.alloc (.cells #[.int .i64 (mx c d), .int .i64 (mx r s), .bool false, .bool false] 23)
  have s6 := safe_new f3 (.cells #[.int .i64 (mn r s)] 3) rfl
  have f4 := f3.alloc (.cells #[.int .i64 (mn r s)] 3)
  have s7 := safe_new f4 (.cells #[.int .i64 (mx r s)] 3) rfl
  have f5 := f4.alloc (.cells #[.int .i64 (mx r s)] 3)
  replace s6 := s6.alloc f4 (.cells #[.int .i64 (mx r s)] 3)
  replace s5 := (s5.alloc f3 (.cells #[.int .i64 (mn r s)] 3)).alloc f4 (.cells #[.int .i64 (mx r s)] 3)
  replace s4 := ((s4.alloc f2 (.cells #[.int .i64 (mx c d), .int .i64 (mx r s), .bool false, .bool false] 23)).alloc f3 (.cells #[.int .i64 (mn r s)] 3)).alloc f4 (.cells #[.int .i64 (mx r s)] 3)
  replace sY := (((sY.alloc f1 (.cells #[.int .i64 (mn c d), .int .i64 (mn r s), .bool false, .bool false] 23)).alloc f2 (.cells #[.int .i64 (mx c d), .int .i64 (mx r s), .bool false, .bool false] 23)).alloc f3 (.cells #[.int .i64 (mn r s)] 3)).alloc f4 (.cells #[.int .i64 (mx r s)] 3)
  have hJ5 := hJ.alloc (.cells #[.int .i64 (mx r s)] 3) (hJ.alloc (.cells #[.int .i64 (mn r s)] 3) (hJ.alloc (.cells #[.int .i64 (mx c d), .int .i64 (mx r s), .bool false, .bool false] 23) (hJ.alloc (.cells #[.int .i64 (mn c d), .int .i64 (mn r s), .bool false, .bool false] 23) hJ1)))
  simp only [World.size_alloc] at s5 s6 s7
  clear f1 f2 f3 f4 hJ1
  have hz5 : ((((w1.alloc (.cells #[.int .i64 (mn c d), .int .i64 (mn r s), .bool false, .bool false] 23)).alloc (.cells #[.int .i64 (mx c d), .int .i64 (mx r s), .bool false, .bool false] 23)).alloc (.cells #[.int .i64 (mn r s)] 3)).alloc (.cells #[.int .i64 (mx r s)] 3)).heap.size = w1.heap.size + 4 := by simp
  obtain ⟨W0, hW0⟩ : ∃ W0, ((((w1.alloc (.cells #[.int .i64 (mn c d), .int .i64 (mn r s), .bool false, .bool false] 23)).alloc (.cells #[.int .i64 (mx c d), .int .i64 (mx r s), .bool false, .bool false] 23)).alloc (.cells #[.int .i64 (mn r s)] 3)).alloc (.cells #[.int .i64 (mx r s)] 3)) = W0 := ⟨_, rfl⟩
  rw [hW0] at s4 s5 s6 s7 sY f5 hJ5 hz5 ⊢
  clear hW0
  obtain ⟨z1, hz1e⟩ : ∃ z1, w1.heap.size = z1 := ⟨_, rfl⟩
  rw [hz1e] at s4 s5 s6 s7 hz5 hz1 ⊢
  have hWz : W.heap.size ≤ W0.heap.size := by omega
  have hI : OwnFrom W0.heap.size (fun (rs : List Int) X => (((J (grid p q rs) X ∧ Fit Bo X) ∧ Safe Bo W.heap.size (.cells #[.func (.yield l) #[] #[]] 28) X) ∧ Safe Bo z1 (.cells #[.int .i64 (mn c d), .int .i64 (mn r s), .bool false, .bool false] 23) X) ∧ Safe Bo (z1 + 1) (.cells #[.int .i64 (mx c d), .int .i64 (mx r s), .bool false, .bool false] 23) X) :=
    safe_own _ _ (safe_own _ _ (safe_own _ _ (OwnFrom.and (OwnFrom.map (OwnFrom.le hJ hWz) (grid p q)) (fit_own Bo _)) (fun _ _ h => h.2)) (fun _ _ h => h.1.2)) (fun _ _ h => h.1.1.2)
  refine wpIn_rangeFunc_ownH rfl h1' (gf := 60) (lb := #[.pointer (some ⟨z1 + 1 + 1, 0, none⟩), .pointer (some ⟨z1 + 1 + 1 + 1, 0, none⟩)]) rfl trivial (enters_of Tryd.func60 (by kernel_rfl) rfl)
    (between_stops Fence.wide (n - 1) trivial rfl (by omega) (z1 + 1 + 1) (z1 + 1 + 1 + 1) p' q' (mx r s) HQ'.out hpq' hq5' (KepI Bo) (fun A => Fit Bo A ∧ Safe Bo (z1 + 1 + 1 + 1) (.cells #[.int .i64 (mx r s)] 3) A)
      (fun A B hA hk => ⟨(hk hA.1).fit, hA.2.kep (hk hA.1)⟩) (fun A hA => by simpa using blk_cell hA.2.heap 0) W0 (by omega) (by rw [← HP'.out]; simpa using blk_cell s6.heap 0) (fun X hX => ⟨(kep_below f5 hX).fit, s7.kep (kep_below f5 hX)⟩))
    KepI.trans (fun X k o o' _ hk hc _ => kepI_put X k o o' hk hc) (Below.refl _ _) (fun _ => rfl)
    _
    (fun cd rs X => cd = .ret ∧ ∃ z, z <+: grid p q rs ∧ Jx z X)
    hI
    (fun cd s X Y row hs hg hr => ⟨hs.1, by obtain ⟨_, z, hz, hj⟩ := hs; exact ⟨z, hz, OwnFrom.le hJx hWz z X Y row hj hg hr⟩⟩)
    ⟨⟨⟨⟨hJ5, f5⟩, sY⟩, s4⟩, s5⟩
    (fun x a' X => ∃ Bx, Fit Bo X ∧ Safe Bo Bx (.cells #[.int .i64 x] 3) X ∧ a' = { tmps := #[.func (.yield l) #[] #[], .pointer (some ⟨B1, 0, none⟩), .pointer (some ⟨B2, 0, none⟩), .pointer (some ⟨W.heap.size, 0, none⟩), .pointer (some ⟨z1, 0, none⟩), .pointer (some ⟨z1 + 1, 0, none⟩), .bool true, .pointer (some ⟨Bx, 0, none⟩), undef, .tuple #[.agg #[.int .i64 (mn c d), .int .i64 (mn r s), .bool false, .bool false], .agg #[.int .i64 (mx c d), .int .i64 (mx r s), .bool false, .bool false], .bool true], .agg #[.int .i64 c, .int .i64 r, .bool ac, .bool ar], .agg #[.int .i64 d, .int .i64 s, .bool bc, .bool br], .tuple #[.agg #[.int .i64 (mn c d), .int .i64 (mn r s), .bool false, .bool false], .agg #[.int .i64 (mx c d), .int .i64 (mx r s), .bool false, .bool false], .bool true], .agg #[.int .i64 (mn c d), .int .i64 (mn r s), .bool false, .bool false], .agg #[.int .i64 (mx c d), .int .i64 (mx r s), .bool false, .bool false], .bool true, .bool true, .bool false, .pointer (some ⟨z1, 1, none⟩), .int .i64 (mn r s), .pointer (some ⟨z1 + 1, 1, none⟩), .int .i64 (mx r s), .func (.func 60) #[] #[.pointer (some ⟨z1 + 1 + 1, 0, none⟩), .pointer (some ⟨z1 + 1 + 1 + 1, 0, none⟩)], .int .i64 x, undef, undef, undef, undef, undef, undef, undef, undef, undef, undef, undef, undef], defers := [] })
    (fun x a' _ X Y row hs hg hr => by
      obtain ⟨Bx, e1, e2, e3⟩ := hs
      have hk := Kep.grown e1 hg (fun r e => (hr r e).2)
      exact ⟨Bx, hk.fit, e2.kep hk, e3⟩)
    ?assign ?body ?done ?stop
  case assign =>
    rintro l1 pre x X K hi hK
    have hfX : Fit Bo X := hi.1.1.1.2
    gi_wp2
    exact hK _ _ ((KeepsOthers.alloc _ _).from _) (fun f => (Kep.refl f).alloc _) (hI.alloc _ hi) ⟨X.heap.size, hfX.alloc _, safe_new hfX _ rfl, rfl⟩
  case body =>
    rintro l1 pre x a' X hl ⟨rc, hr⟩ hi ⟨Bx, _, sX, rfl⟩ hlt
    have fX : Fit Bo X := hi.1.1.1.2
    have c40 : X.cell? ⟨z1, 0, none⟩ = some (.int .i64 (mn c d)) := by simpa using blk_cell hi.1.2.heap 0
    have c50 : X.cell? ⟨z1 + 1, 0, none⟩ = some (.int .i64 (mx c d)) := by simpa using blk_cell hi.2.heap 0
    have h1'' : 1 ≤ n - 1 - 1 := by omega
    gi_wp2_with (refine ⟨trivial, ?_⟩; gi_at_call 51; refine (CallsIn.inRound l1 (between_in Fence.wide (n - 1 - 1 - 1) trivial rfl _ _ _)).mono ?_; rintro e w' ⟨rfl, rfl⟩)
    clear c40 c50
    have fX1 := fX.alloc (.cells #[.int .i64 (mn c d)] 3)
    have sM := safe_new fX (.cells #[.int .i64 (mn c d)] 3) rfl
    have sN := safe_new fX1 (.cells #[.int .i64 (mx c d)] 3) rfl
    have fX2 := fX1.alloc (.cells #[.int .i64 (mx c d)] 3)
    replace sM := sM.alloc fX1 (.cells #[.int .i64 (mx c d)] 3)
    have sX2 := (sX.alloc fX (.cells #[.int .i64 (mn c d)] 3)).alloc fX1 (.cells #[.int .i64 (mx c d)] 3)
    have kX2 := ((Kep.refl fX).alloc (.cells #[.int .i64 (mn c d)] 3)).alloc (.cells #[.int .i64 (mx c d)] 3)
    have gX2 : KeepsFrom W0.heap.size X ((X.alloc (.cells #[.int .i64 (mn c d)] 3)).alloc (.cells #[.int .i64 (mx c d)] 3)) := ((KeepsOthers.alloc _ _).trans (KeepsOthers.alloc _ _)).from _
    have hi2 := hI.alloc (.cells #[.int .i64 (mx c d)] 3) (hI.alloc (.cells #[.int .i64 (mn c d)] 3) hi)
    have hr' : ((X.alloc (.cells #[.int .i64 (mn c d)] 3)).alloc (.cells #[.int .i64 (mx c d)] 3)).heap[l1]? = some (.loop rc) := (Below.heap_alloc _ _ l1 (blk_lt (blk_alloc hr _))).trans (blk_alloc hr _)
    have hXz : W0.heap.size ≤ X.heap.size := by have := blk_lt hr; omega
    simp only [World.size_alloc] at sN
    have hzX : ((X.alloc (.cells #[.int .i64 (mn c d)] 3)).alloc (.cells #[.int .i64 (mx c d)] 3)).heap.size = X.heap.size + 2 := by simp
    obtain ⟨X2, hX2⟩ : ∃ X2, (X.alloc (.cells #[.int .i64 (mn c d)] 3)).alloc (.cells #[.int .i64 (mx c d)] 3) = X2 := ⟨_, rfl⟩
    rw [hX2] at sM sN fX2 sX2 kX2 gX2 hi2 hr' hzX ⊢
    clear hX2
    obtain ⟨zx, hzx⟩ : ∃ zx, X.heap.size = zx := ⟨_, rfl⟩
    rw [hzx] at sM sN hzX hXz ⊢
    have hI2 : OwnFrom X2.heap.size (fun (cs : List Int) Y => (((((J (grid p q pre ++ cs.map (fun c => (c, x))) Y ∧ Fit Bo Y) ∧ Safe Bo W.heap.size (.cells #[.func (.yield l) #[] #[]] 28) Y) ∧ Safe Bo z1 (.cells #[.int .i64 (mn c d), .int .i64 (mn r s), .bool false, .bool false] 23) Y) ∧ Safe Bo (z1 + 1) (.cells #[.int .i64 (mx c d), .int .i64 (mx r s), .bool false, .bool false] 23) Y) ∧ Safe Bo Bx (.cells #[.int .i64 x] 3) Y) ∧ (Kep Bo X Y ∧ KeepsFrom W0.heap.size X Y)) :=
      OwnFrom.and (safe_own _ _ (safe_own _ _ (safe_own _ _ (safe_own _ _ (OwnFrom.and (OwnFrom.map (OwnFrom.le hJ (by omega)) (fun cs : List Int => grid p q pre ++ cs.map (fun c => (c, x)))) (fit_own Bo _)) (fun _ _ h => h.2)) (fun _ _ h => h.1.2)) (fun _ _ h => h.1.1.2)) (fun _ _ h => h.1.1.1.2)) (OwnFrom.and (kep_own Bo _ X) (ownFrom_keepsFrom (by omega)))
    refine wpIn_rangeFunc_ownN (l₀ := l1) (r₀ := rc) rfl hr' h1'' (gf := 60) (lb := #[.pointer (some ⟨zx, 0, none⟩), .pointer (some ⟨zx + 1, 0, none⟩)]) rfl trivial (enters_of Tryd.func60 (by kernel_rfl) rfl)
      ((between_stops Fence.wide (n - 1 - 1 - 1) trivial rfl (by omega) zx (zx + 1) p q (mx c d) HQ.out hpq hq5 (KepI Bo) (fun A => Fit Bo A ∧ Safe Bo (zx + 1) (.cells #[.int .i64 (mx c d)] 3) A)
        (fun A B hA hk => ⟨(hk hA.1).fit, hA.2.kep (hk hA.1)⟩) (fun A hA => by simpa using blk_cell hA.2.heap 0) X2 (by omega) (by rw [← HP.out]; simpa using blk_cell sM.heap 0) (fun Y hY => ⟨(kep_below fX2 hY).fit, sN.kep (kep_below fX2 hY)⟩)).inRound l1)
      KepI.trans (fun Y k o o' _ hk hc _ => kepI_put Y k o o' hk hc) (Below.refl _ _) (fun _ => rfl)
      _
      (fun cd cs Y => (cd = .ret ∧ Jx (grid p q pre ++ cs.map (fun c => (c, x))) Y) ∧ KeepsFrom W0.heap.size X Y)
      hI2
      (fun cd => OwnFrom.and (OwnFrom.and (ownFrom_pure _ _) (OwnFrom.map (OwnFrom.le hJx (by omega)) (fun cs : List Int => grid p q pre ++ cs.map (fun c => (c, x))))) (ownFrom_keepsFrom (by omega)))
      ⟨⟨by simpa using hi2, sX2⟩, kX2, gX2⟩
      (fun y a'' _ => a'' = { tmps := #[.func (.yield l) #[] #[], .pointer (some ⟨B1, 0, none⟩), .pointer (some ⟨B2, 0, none⟩), .pointer (some ⟨W.heap.size, 0, none⟩), .pointer (some ⟨z1, 0, none⟩), .pointer (some ⟨z1 + 1, 0, none⟩), .bool true, .pointer (some ⟨Bx, 0, none⟩), .int .i64 y, .tuple #[.agg #[.int .i64 (mn c d), .int .i64 (mn r s), .bool false, .bool false], .agg #[.int .i64 (mx c d), .int .i64 (mx r s), .bool false, .bool false], .bool true], .agg #[.int .i64 c, .int .i64 r, .bool ac, .bool ar], .agg #[.int .i64 d, .int .i64 s, .bool bc, .bool br], .tuple #[.agg #[.int .i64 (mn c d), .int .i64 (mn r s), .bool false, .bool false], .agg #[.int .i64 (mx c d), .int .i64 (mx r s), .bool false, .bool false], .bool true], .agg #[.int .i64 (mn c d), .int .i64 (mn r s), .bool false, .bool false], .agg #[.int .i64 (mx c d), .int .i64 (mx r s), .bool false, .bool false], .bool true, .bool true, .bool false, .pointer (some ⟨z1, 1, none⟩), .int .i64 (mn r s), .pointer (some ⟨z1 + 1, 1, none⟩), .int .i64 (mx r s), .func (.func 60) #[] #[.pointer (some ⟨z1 + 1 + 1, 0, none⟩), .pointer (some ⟨z1 + 1 + 1 + 1, 0, none⟩)], .int .i64 x, .pointer (some ⟨z1, 0, none⟩), .int .i64 (mn c d), .pointer (some ⟨z1 + 1, 0, none⟩), .int .i64 (mx c d), .func (.func 60) #[] #[.pointer (some ⟨zx, 0, none⟩), .pointer (some ⟨zx + 1, 0, none⟩)], .int .i64 y, undef, undef, undef, undef, undef, undef], defers := [] })
      (fun _ _ _ _ _ _ hs _ _ => hs)
      ?assign2 ?body2 ?done2 ?stop2
    case assign2 =>
      rintro l2 pre' y Y K hi' hK
      gi_wp2
      exact hK _ _ (KeepsFrom.refl _ _) (fun f => Kep.refl f) hi' rfl
    case body2 =>
      rintro l2 pre' y a'' Y _ _ hi' rfl hlt'
      obtain ⟨⟨⟨⟨⟨⟨hj, fY⟩, sY'⟩, s4'⟩, s5'⟩, sX'⟩, kY, gY⟩ := hi'
      have c3 : Y.cell? ⟨W.heap.size, 0, none⟩ = some (.func (.yield l) #[] #[]) := by simpa using blk_cell sY'.heap 0
      have c7 : Y.cell? ⟨Bx, 0, none⟩ = some (.int .i64 x) := by simpa using blk_cell sX'.heap 0
      have hlen : (grid p q pre ++ pre'.map (fun c => (c, x))).length < (grid p q (upto p' q')).length := by
        rw [List.length_append, grid_len, grid_len, List.length_map, upto_len]
        rw [upto_len] at hlt hlt'
        have := Nat.mul_le_mul_right (q - p) (show pre.length + 1 ≤ q' - p' by omega)
        rw [Nat.succ_mul] at this
        omega
      obtain ⟨fn, tmps, assign, body, hy, hR⟩ := yield_inRound l2 (yield_inRound l1 (yield_deep rfl (n - 1 - 1 - 1 - 1 - 1) (hY _ (y, x) Y hj hlen)))
      dsimp only [enc4] at hy
      gi_wp2
      refine ⟨fun h => (by cases h), ?_⟩
      refine hR.mono ?_
      rintro e Y3 (⟨rfl, hj3, hk3, hg3⟩ | ⟨rfl, hj3, hg3⟩)
      · have k3 := hk3 fY
        clear hR hy
        gi_wp2
        exact ⟨keepsFrom_le hg3 (by omega), hk3, ⟨⟨⟨⟨⟨by simpa using hj3, k3.fit⟩, sY'.kep k3⟩, s4'.kep k3⟩, s5'.kep k3⟩, sX'.kep k3⟩, kY.trans k3, gY.trans (keepsFrom_le hg3 (by omega))⟩
      · clear hR hy
        gi_wp2
        exact ⟨keepsFrom_le hg3 (by omega), ⟨rfl, by simpa using hj3⟩, gY.trans (keepsFrom_le hg3 (by omega))⟩
    case done2 =>
      rintro ys Y rfl ⟨⟨⟨⟨⟨⟨hj, fY⟩, sY'⟩, s4'⟩, s5'⟩, sX'⟩, kY, gY⟩
      gi_wp2
      exact ⟨gY, fun _ => kY, ⟨⟨⟨by rw [grid_snoc]; exact hj, fY⟩, sY'⟩, s4'⟩, s5'⟩
    case stop2 =>
      rintro cd pre' Y hpre ⟨⟨rfl, hj⟩, gY⟩
      gi_wp2
      refine ⟨gY, rfl, _, ?_, hj⟩
      rw [grid_snoc]
      obtain ⟨t, ht⟩ := hpre
      exact ⟨t.map (fun c => (c, x)), by rw [List.append_assoc, ← List.map_append, ht]; rfl⟩
  case done =>
    rintro D ys X hD rfl ⟨⟨⟨⟨hj, _⟩, _⟩, _⟩, _⟩ hK
    gi_wp2
    refine ⟨by simp, .inl ⟨_, _, rfl, run_takeDeferred hK, ?_⟩⟩
    exact ⟨_, results_none rfl _ _ _, ⟨_, rfl⟩, .inl ⟨_, rfl, hJ.putObj _ hj (by omega) hK rfl⟩⟩
  case stop =>
    rintro D cd pre X hD hpre ⟨rfl, z, hz, hj⟩ hK
    gi_wp2
    refine ⟨by simp, .inl ⟨_, _, rfl, run_takeDeferred hK, ?_⟩⟩
    refine ⟨_, results_none rfl _ _ _, ⟨_, rfl⟩, .inr ⟨z, hz.trans ?_, hJx.putObj _ hj (by omega) hK rfl⟩⟩
    obtain ⟨t, ht⟩ := hpre
    exact ⟨grid p q t, by rw [← ht]; simp [grid]⟩
end Go.Proofs.YtacakmlkaikabaaDoor

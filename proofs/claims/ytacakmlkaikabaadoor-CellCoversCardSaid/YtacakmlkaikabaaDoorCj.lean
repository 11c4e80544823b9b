/- cell.Parse at a text of the right shape, walked. -/
import Derived.Test.YtacakmlkaikabaaDoorCh
namespace Go.Proofs.YtacakmlkaikabaaDoor
set_option linter.unusedVariables false
open Go.RowKit

def lv (b : UInt8) : Int := if 97 ≤ b.toNat then (b.toNat : Int) - 96 else (b.toNat : Int) - 64
def colV (l : List UInt8) : Int := l.foldl (fun a b => 26 * a + lv b) 0
theorem lv_bd {b : UInt8} (h : isL b = true) : 1 ≤ lv b ∧ lv b ≤ 26 := by
  simp [isL, pLet] at h
  unfold lv
  split <;> omega
set_option maxRecDepth 100000 in
theorem andnot_let : ∀ n : Fin 256, pLet n.val = true → Go.bits .andNot .u8 (n.val : Int) 32 = (if 97 ≤ n.val then (n.val : Int) - 96 else (n.val : Int) - 64) + 64 := by decide +kernel
theorem andnot_let' (b : UInt8) (h : isL b = true) : Go.bits .andNot .u8 (b.toNat : Int) 32 = lv b + 64 := andnot_let ⟨b.toNat, b.toNat_lt⟩ h
def goodV (C : Int) (v : Nat) (a1 a2 : Bool) : Value := if okB (C - 1) ((v : Int) - 1) = true then .tuple #[.agg #[.int .i64 (C - 1), .int .i64 ((v : Int) - 1), .bool a1, .bool a2], .int .i64 0] else .tuple #[.agg #[.int .i64 0, .int .i64 0, .bool false, .bool false], .int .i64 14]
theorem dgn_lt7 (l : List UInt8) (hl : l.length ≤ 7) (h : ∀ b ∈ l, isDig b = true) : dgn l < 10000000 := by
  have h1 := dgn_lt l h
  have h2 := Nat.pow_le_pow_right (n := 10) (by omega) hl
  omega
theorem atoiD (l : List UInt8) (hne : l ≠ []) (hl : l.length ≤ 7) (hd : ∀ b ∈ l, isDig b = true) (w : World) :
    Calls Tryd.prog 35 #[.string ⟨l.toArray⟩] w fun e w' => e = .returned (.tuple #[.int .i64 (dgn l), .nilIface]) ∧ Below w.heap.size w w' := by
  refine (Tryd.strconv_Atoi ⟨l.toArray⟩ (dgn l) (by show l.toArray.size ≤ 18; simp; omega) (atoi_dig l hne hd) w).mono ?_
  rintro e w' ⟨rfl, t, rfl⟩
  exact ⟨rfl, Lib.bytesWorld_below _ _ _⟩
theorem colV_snoc (l : List UInt8) (b : UInt8) : colV (l ++ [b]) = 26 * colV l + lv b := by simp [colV]
theorem colV_bd (l : List UInt8) (hl : l.length ≤ 3) (h : ∀ x ∈ l, isL x = true) : 0 ≤ colV l ∧ colV l ≤ 18278 := by
  match l, hl with
  | [], _ => decide
  | [a], _ => have := lv_bd (h a (by simp)); simp [colV]; omega
  | [a, b], _ => have := lv_bd (h a (by simp)); have := lv_bd (h b (by simp)); simp [colV]; omega
  | [a, b, c], _ => have := lv_bd (h a (by simp)); have := lv_bd (h b (by simp)); have := lv_bd (h c (by simp)); simp [colV]; omega

set_option maxHeartbeats 2000000 in
set_option maxRecDepth 100000 in
theorem parse_good (s : ByteArray) (n1 N m2 m3 Rw : List UInt8) (a1 a2 : Bool) (w : World)
    (h31a : ∀ W, Calls Tryd.prog 31 #[.string s, .string ⟨#[36]⟩] W fun e w' => e = .returned (.tuple #[.string ⟨n1.toArray⟩, .bool a1]) ∧ w' = W)
    (h32a : ∀ W, Calls Tryd.prog 32 #[.string ⟨n1.toArray⟩, .func (.func 33) #[] #[]] W fun e w' => e = .returned (.tuple #[.string ⟨N.toArray⟩, .string ⟨m2.toArray⟩]) ∧ Below W.heap.size W w')
    (h31b : ∀ W, Calls Tryd.prog 31 #[.string ⟨m2.toArray⟩, .string ⟨#[36]⟩] W fun e w' => e = .returned (.tuple #[.string ⟨m3.toArray⟩, .bool a2]) ∧ w' = W)
    (h32b : ∀ W, Calls Tryd.prog 32 #[.string ⟨m3.toArray⟩, .func (.func 34) #[] #[]] W fun e w' => e = .returned (.tuple #[.string ⟨Rw.toArray⟩, .string ⟨#[]⟩]) ∧ Below W.heap.size W w')
    (z1 : N.length ≤ 3) (z0 : ¬ N = []) (zL : ∀ x ∈ N, isL x = true) (b0 : UInt8) (R0 : List UInt8) (zR : Rw = b0 :: R0) (z2 : R0.length ≤ 6) (z3 : ((b0.toNat : Int) == 48) = false) (v : Nat) (zv : v < 10000000) (hA : ∀ W, Calls Tryd.prog 35 #[.string ⟨Rw.toArray⟩] W fun e w' => e = .returned (.tuple #[.int .i64 v, .nilIface]) ∧ Below W.heap.size W w') :
    Calls Tryd.prog 10 #[.string s] w fun e w' => e = .returned (goodV (colV N) v a1 a2) ∧ Below w.heap.size w w' := by
  subst zR
  have HCA := Lib.hid hA
  clear hA
  have ZL := Lib.hid zL
  clear zL
  have G1 := Lib.hid h31a
  have G2 := Lib.hid h32a
  have G3 := Lib.hid h31b
  have G4 := Lib.hid h32b
  clear h31a h32a h31b h32b
  go_enter Tryd.func10, Tryd.ntmps10
  go_wp2_with (go_at_call 31; refine (G1.out _).mono ?_; rintro e w' ⟨rfl, rfl⟩)
  refine (G2.out _).mono ?_
  rintro e w1 ⟨rfl, hb⟩
  have X1 : Below w.heap.size w w1 := (((Below.refl _ w).alloc (Nat.le_refl _) _).alloc (by simp) _).trans (hb.mono (by simp; omega))
  have B1 : w1.heap[w.heap.size]? = some (.cells #[.int .i64 0, .int .i64 0, .bool false, .bool false] 23 (0, 0)) := blk_keep hb (by simp only [heap_get, World.size_alloc]; repeat (first | rw [if_pos trivial] | rw [if_pos rfl] | rw [if_neg (by omega)]))
  have k10 : w1.cell? ⟨w.heap.size, 0, none⟩ = some (.int .i64 0) := blk_cell B1 0
  have k11 : w1.cell? ⟨w.heap.size, 1, none⟩ = some (.int .i64 0) := blk_cell B1 1
  have k12 : w1.cell? ⟨w.heap.size, 2, none⟩ = some (.bool false) := blk_cell B1 2
  have k13 : w1.cell? ⟨w.heap.size, 3, none⟩ = some (.bool false) := blk_cell B1 3
  have f10 : w1.frozen? ⟨w.heap.size, 0, none⟩ = false := blk_free B1 0
  have f11 : w1.frozen? ⟨w.heap.size, 1, none⟩ = false := blk_free B1 1
  have f12 : w1.frozen? ⟨w.heap.size, 2, none⟩ = false := blk_free B1 2
  have f13 : w1.frozen? ⟨w.heap.size, 3, none⟩ = false := blk_free B1 3
  have z1_ : w.heap.size < w1.heap.size := blk_lt B1
  have H1 := Lib.hid B1
  clear B1
  have B2 : w1.heap[w.heap.size + 1]? = some (.cells #[.int .i64 0, .int .i64 0, .bool a1, .bool false] 23 (0, 0)) := blk_keep hb (by simp only [heap_get, World.size_alloc]; repeat (first | rw [if_pos trivial] | rw [if_pos rfl] | rw [if_neg (by omega)]))
  have k20 : w1.cell? ⟨w.heap.size + 1, 0, none⟩ = some (.int .i64 0) := blk_cell B2 0
  have k21 : w1.cell? ⟨w.heap.size + 1, 1, none⟩ = some (.int .i64 0) := blk_cell B2 1
  have k22 : w1.cell? ⟨w.heap.size + 1, 2, none⟩ = some (.bool a1) := blk_cell B2 2
  have k23 : w1.cell? ⟨w.heap.size + 1, 3, none⟩ = some (.bool false) := blk_cell B2 3
  have f20 : w1.frozen? ⟨w.heap.size + 1, 0, none⟩ = false := blk_free B2 0
  have f21 : w1.frozen? ⟨w.heap.size + 1, 1, none⟩ = false := blk_free B2 1
  have f22 : w1.frozen? ⟨w.heap.size + 1, 2, none⟩ = false := blk_free B2 2
  have f23 : w1.frozen? ⟨w.heap.size + 1, 3, none⟩ = false := blk_free B2 3
  have z2_ : w.heap.size + 1 < w1.heap.size := blk_lt B2
  have H2 := Lib.hid B2
  clear B2
  have Y1 := Lib.hid X1
  clear X1 hb
  dsimp only
  go_wp2_with (go_at_call 31; refine (G3.out _).mono ?_; rintro e w' ⟨rfl, rfl⟩)
  refine (G4.out _).mono ?_
  rintro e w2 ⟨rfl, hb⟩
  have X2 : Below w.heap.size w w2 := (Y1.out.setCell (p := ⟨w.heap.size + 1, 3, none⟩) (by simp) _).trans (hb.mono (by simp; exact Y1.out.size))
  have B3 : w2.heap[w.heap.size]? = some (.cells #[.int .i64 0, .int .i64 0, .bool false, .bool false] 23 (0, 0)) := blk_keep hb (blk_far H1.out (by simp) _)
  have k30 : w2.cell? ⟨w.heap.size, 0, none⟩ = some (.int .i64 0) := blk_cell B3 0
  have k31 : w2.cell? ⟨w.heap.size, 1, none⟩ = some (.int .i64 0) := blk_cell B3 1
  have k32 : w2.cell? ⟨w.heap.size, 2, none⟩ = some (.bool false) := blk_cell B3 2
  have k33 : w2.cell? ⟨w.heap.size, 3, none⟩ = some (.bool false) := blk_cell B3 3
  have f30 : w2.frozen? ⟨w.heap.size, 0, none⟩ = false := blk_free B3 0
  have f31 : w2.frozen? ⟨w.heap.size, 1, none⟩ = false := blk_free B3 1
  have f32 : w2.frozen? ⟨w.heap.size, 2, none⟩ = false := blk_free B3 2
  have f33 : w2.frozen? ⟨w.heap.size, 3, none⟩ = false := blk_free B3 3
  have z3_ : w.heap.size < w2.heap.size := blk_lt B3
  have H3 := Lib.hid B3
  clear B3
  have B4 : w2.heap[w.heap.size + 1]? = some (.cells #[.int .i64 0, .int .i64 0, .bool a1, .bool a2] 23 (0, 0)) := blk_keep hb (by simpa using blk_set H2.out 3 (.bool a2))
  have k40 : w2.cell? ⟨w.heap.size + 1, 0, none⟩ = some (.int .i64 0) := blk_cell B4 0
  have k41 : w2.cell? ⟨w.heap.size + 1, 1, none⟩ = some (.int .i64 0) := blk_cell B4 1
  have k42 : w2.cell? ⟨w.heap.size + 1, 2, none⟩ = some (.bool a1) := blk_cell B4 2
  have k43 : w2.cell? ⟨w.heap.size + 1, 3, none⟩ = some (.bool a2) := blk_cell B4 3
  have f40 : w2.frozen? ⟨w.heap.size + 1, 0, none⟩ = false := blk_free B4 0
  have f41 : w2.frozen? ⟨w.heap.size + 1, 1, none⟩ = false := blk_free B4 1
  have f42 : w2.frozen? ⟨w.heap.size + 1, 2, none⟩ = false := blk_free B4 2
  have f43 : w2.frozen? ⟨w.heap.size + 1, 3, none⟩ = false := blk_free B4 3
  have z4_ : w.heap.size + 1 < w2.heap.size := blk_lt B4
  have H4 := Lib.hid B4
  clear B4
  have Y2 := Lib.hid X2
  clear X2 hb k10 k11 k12 k13 k20 k21 k22 k23 f10 f11 f12 f13 f20 f21 f22 f23 H1 H2 Y1 G1 G2 G3 G4
  dsimp only
  go_wp2_with fail
  · exfalso
    have q := ‹((_ ∨ _) ∨ _) ∨ _›
    rcases q with ((q | q) | q) | q
    · exact z0 (by simpa using q)
    · omega
    · omega
    · exact absurd (show ((b0.toNat : Int) == 48) = true from q) (by rw [z3]; decide)
  go_loopw [58] (fun i wr => ∃ k : Nat, k ≤ N.length ∧ i = .int .i64 k ∧ wr.heap[w.heap.size]? = some (.cells #[.int .i64 0, .int .i64 0, .bool false, .bool false] 23 (0, 0)) ∧ wr.heap[w.heap.size + 1]? = some (.cells #[.int .i64 (colV (N.take k)), .int .i64 0, .bool a1, .bool a2] 23 (0, 0)) ∧ Below w.heap.size w wr) (fun i _ => N.length - (intOf i).toNat)
  case atStart => exact ⟨0, Nat.zero_le _, rfl, H3.out, H4.out, Y2.out⟩
  case round =>
    clear k30 k31 k32 k33 k40 k41 k42 k43 f30 f31 f32 f33 f40 f41 f42 f43 H3 H4 Y2
    obtain ⟨k, hk, rfl, q3, q4, q5⟩ := hrel
    have s0 := blk_cell q4 0
    have s1 := blk_free q4 0
    have s0' : wr.cell? ⟨w.heap.size + 1, 0, none⟩ = some (.int .i64 (colV (N.take k))) := s0
    have Q3 := Lib.hid q3
    have Q4 := Lib.hid q4
    have Q5 := Lib.hid q5
    clear q3 q4 q5 s0
    by_cases hlt : k < N.length
    · have cb := colV_bd (N.take k) (by rw [List.length_take]; omega) (fun x hx => ZL.out x (List.mem_of_mem_take hx))
      have lb := lv_bd (ZL.out _ (List.getElem_mem hlt))
      have i1 : (0 : Int) ≤ (k : Int) := by omega
      have i2 : (k : Int) < (N.length : Int) := by omega
      obtain ⟨x, hx⟩ : ∃ x, N[k] = x := ⟨_, rfl⟩
      rw [hx] at lb
      have ha := andnot_let' x (by rw [← hx]; exact ZL.out _ (List.getElem_mem hlt))
      go_wp2_with fail
      have w1 : IntKind.i64.wrap (26 * colV (N.take k)) = 26 * colV (N.take k) := IntWalk.i64_in _ (by omega)
      have w2 : IntKind.u8.wrap (lv x + 64 - 65) = lv x - 1 := (IntWalk.u8_in _ (by omega)).trans (by omega)
      have w3 : IntKind.i64.wrap (lv x - 1) = lv x - 1 := IntWalk.i64_in _ (by omega)
      have w4 : IntKind.i64.wrap (26 * colV (N.take k) + (lv x - 1)) = 26 * colV (N.take k) + (lv x - 1) := IntWalk.i64_in _ (by omega)
      have w5 : IntKind.i64.wrap (26 * colV (N.take k) + (lv x - 1) + 1) = 26 * colV (N.take k) + lv x := (IntWalk.i64_in _ (by omega)).trans (by omega)
      have hx' : ({ data := N.toArray } : ByteArray)[k]'hlt = x := hx
      go_region
      clear w1 w2 w3 w4 w5 hx' ha
      go_wp2
      go_roundw
      case rel =>
        have ht : N.take (k + 1) = N.take k ++ [x] := by rw [List.take_succ_eq_append_getElem hlt, hx]
        refine ⟨k + 1, by omega, by go_num, blk_far (blk_drew Q3.out) (by simp) _, ?_, (Q5.out.drew).setCell (by simp) _⟩
        rw [ht, colV_snoc]
        exact blk_set Q4.out 0 (.int .i64 (26 * colV (N.take k) + lv x))
      case measure => simp [intOf]; omega
    · obtain rfl : k = N.length := by omega
      rw [List.take_length] at *
      go_wp2_with fail
      refine (HCA.out _).mono ?_
      rintro e w3 ⟨rfl, hb⟩
      have Y5 := Lib.hid (Q5.out.trans (hb.mono Q5.out.size))
      have cb := colV_bd N z1 ZL.out
      have B5 : w3.heap[w.heap.size]? = some (.cells #[.int .i64 0, .int .i64 0, .bool false, .bool false] 23 (0, 0)) := blk_keep hb Q3.out
      have k50 : w3.cell? ⟨w.heap.size, 0, none⟩ = some (.int .i64 0) := blk_cell B5 0
      have k51 : w3.cell? ⟨w.heap.size, 1, none⟩ = some (.int .i64 0) := blk_cell B5 1
      have k52 : w3.cell? ⟨w.heap.size, 2, none⟩ = some (.bool false) := blk_cell B5 2
      have k53 : w3.cell? ⟨w.heap.size, 3, none⟩ = some (.bool false) := blk_cell B5 3
      have f50 : w3.frozen? ⟨w.heap.size, 0, none⟩ = false := blk_free B5 0
      have f51 : w3.frozen? ⟨w.heap.size, 1, none⟩ = false := blk_free B5 1
      have f52 : w3.frozen? ⟨w.heap.size, 2, none⟩ = false := blk_free B5 2
      have f53 : w3.frozen? ⟨w.heap.size, 3, none⟩ = false := blk_free B5 3
      have z5_ : w.heap.size < w3.heap.size := blk_lt B5
      have H5 := Lib.hid B5
      clear B5
      have B6 : w3.heap[w.heap.size + 1]? = some (.cells #[.int .i64 (colV N), .int .i64 0, .bool a1, .bool a2] 23 (0, 0)) := blk_keep hb Q4.out
      have k60 : w3.cell? ⟨w.heap.size + 1, 0, none⟩ = some (.int .i64 (colV N)) := blk_cell B6 0
      have k61 : w3.cell? ⟨w.heap.size + 1, 1, none⟩ = some (.int .i64 0) := blk_cell B6 1
      have k62 : w3.cell? ⟨w.heap.size + 1, 2, none⟩ = some (.bool a1) := blk_cell B6 2
      have k63 : w3.cell? ⟨w.heap.size + 1, 3, none⟩ = some (.bool a2) := blk_cell B6 3
      have f60 : w3.frozen? ⟨w.heap.size + 1, 0, none⟩ = false := blk_free B6 0
      have f61 : w3.frozen? ⟨w.heap.size + 1, 1, none⟩ = false := blk_free B6 1
      have f62 : w3.frozen? ⟨w.heap.size + 1, 2, none⟩ = false := blk_free B6 2
      have f63 : w3.frozen? ⟨w.heap.size + 1, 3, none⟩ = false := blk_free B6 3
      have z6_ : w.heap.size + 1 < w3.heap.size := blk_lt B6
      have H6 := Lib.hid B6
      clear B6
      clear hb Q3 Q4 Q5 s0' s1
      dsimp only
      cases hok : okB (colV N - 1) ((v : Int) - 1)
      · go_wp2_with (go_at_call 12; refine (right_any _ _ _ _ _).mono ?_; rintro e w' ⟨rfl, rfl⟩)
        refine bodyPost_ret (v := .tuple #[.agg #[.int .i64 0, .int .i64 0, .bool false, .bool false], .int .i64 14]) (by simp [results, Tryd.results10, go_sem, k50, k51, k52, k53, z5_]; done) rfl ⟨by simp [goodV, hok], ?_⟩
        repeat' (first | (with_reducible exact Y5.out) | (with_reducible refine Below.setCell ?_ (by simp) _) | (with_reducible refine Below.alloc ?_ (by simp; omega) _))
      · go_wp2_with (go_at_call 12; refine (right_any _ _ _ _ _).mono ?_; rintro e w' ⟨rfl, rfl⟩)
        refine bodyPost_ret (v := .tuple #[.agg #[.int .i64 (colV N - 1), .int .i64 ((v : Int) - 1), .bool a1, .bool a2], .int .i64 0]) (by simp [results, Tryd.results10, go_sem, k50, k51, k52, k53, z5_]; done) rfl ⟨by simp [goodV, hok], ?_⟩
        repeat' (first | (with_reducible exact Y5.out) | (with_reducible refine Below.setCell ?_ (by simp) _) | (with_reducible refine Below.alloc ?_ (by simp; omega) _))
end Go.Proofs.YtacakmlkaikabaaDoor

/- cell.cut, letter and digit, walked. -/
import Derived.Test.YtacakmlkaikabaaDoorCg
namespace Go.Proofs.YtacakmlkaikabaaDoor
open Go.RowKit

def dol : List UInt8 → Bool
  | b :: _ => b == 36
  | [] => false
def und : List UInt8 → List UInt8
  | b :: t => if b == 36 then t else b :: t
  | [] => []
theorem cutp_any (s : ByteArray) (w : World) :
    Calls Tryd.prog 31 #[.string s, .string ⟨#[36]⟩] w fun e w' => e = .returned (.tuple #[.string ⟨(und s.data.toList).toArray⟩, .bool (dol s.data.toList)]) ∧ w' = w := by
  refine (Tryd.strings_CutPrefix s ⟨#[36]⟩ w).mono ?_
  rintro e w' ⟨rfl, rfl⟩
  refine ⟨?_, rfl⟩
  cases s.data.toList with
  | nil => rfl
  | cons b t =>
    have h1 : Lib.hasPrefix (b :: t) [36] = (b == 36) := by
      by_cases h : b = 36
      · subst h; rfl
      · have h2 : (b == 36) = false := beq_eq_false_iff_ne.2 h
        have h3 : ((36 : UInt8) == b) = false := beq_eq_false_iff_ne.2 (Ne.symm h)
        simp [Lib.hasPrefix, List.isPrefixOf, h2, h3]
    have h4 : Lib.trimPrefix (b :: t) [36] = und (b :: t) := by simp [Lib.trimPrefix, und, h1]
    rw [h1, h4, dol]

def pLet (n : Nat) : Bool := (decide (65 ≤ n) && decide (n ≤ 90)) || (decide (97 ≤ n) && decide (n ≤ 122))
def pDig (n : Nat) : Bool := decide (48 ≤ n) && decide (n ≤ 57)

set_option maxHeartbeats 400000 in
theorem letter_gives (w : World) : PredAt Tryd.prog 33 #[] encR pLet w := by
  intro W x _
  unfold FnGives
  show Calls Tryd.prog 33 #[.int .i32 x] W _
  go_enter Tryd.func33, Tryd.ntmps33
  go_wp2
  all_goals (go_ret; refine ⟨congrArg (fun b => Ending.returned (.bool b)) ?_, 0, rfl⟩; rw [Bool.eq_iff_iff]; simp [pLet]; try omega)
set_option maxHeartbeats 400000 in
theorem digit_gives (w : World) : PredAt Tryd.prog 34 #[] encR pDig w := by
  intro W x _
  unfold FnGives
  show Calls Tryd.prog 34 #[.int .i32 x] W _
  go_enter Tryd.func34, Tryd.ntmps34
  go_wp2
  all_goals (go_ret; refine ⟨congrArg (fun b => Ending.returned (.bool b)) ?_, 0, rfl⟩; rw [Bool.eq_iff_iff]; simp [pDig]; try omega)

theorem eg33 : ∀ args w, (callFunc 33 args).run Tryd.prog w = .ok (.enter 33 args) w := enters_of Tryd.func33 (by kernel_rfl) rfl
theorem eg34 : ∀ args w, (callFunc 34 args).run Tryd.prog w = .ok (.enter 34 args) w := enters_of Tryd.func34 (by kernel_rfl) rfl

set_option maxHeartbeats 400000 in
theorem cut_any (g : Nat) (p : Nat → Bool) (hp : ∀ r, 128 ≤ r → p r = false) (eg : ∀ args w, (callFunc g args).run Tryd.prog w = .ok (.enter g args) w) (hg : ∀ w, PredAt Tryd.prog g #[] encR p w) (s : ByteArray) (w : World) (hs : s.size ≤ 9223372036854775807) :
    Calls Tryd.prog 32 #[.string s, .func (.func g) #[] #[]] w fun e w' => e = .returned (.tuple #[.string ⟨(s.data.toList.takeWhile (fun b => p b.toNat)).toArray⟩, .string ⟨(s.data.toList.dropWhile (fun b => p b.toNat)).toArray⟩]) ∧ Below w.heap.size w w' := by
  have ht := trimLeft_ascii p hp s
  have hl := List.takeWhile_append_dropWhile (p := fun b : UInt8 => p b.toNat) (l := s.data.toList)
  obtain ⟨T, hT⟩ : ∃ T, Lib.trimLeftF p s = T := ⟨_, rfl⟩
  have hc := fun W => Tryd.strings_TrimLeftFunc g #[] eg p s W (hg W)
  rw [hT] at ht hc
  generalize s.data.toList.takeWhile (fun b => p b.toNat) = A at *
  generalize s.data.toList.dropWhile (fun b => p b.toNat) = D at *
  have hsz : T.size = D.length := by rw [← ht]; simp
  have hss : s.size = A.length + D.length := by
    have : s.data.toList.length = A.length + D.length := by rw [← hl, List.length_append]
    rw [← this]; simp
  have hle : T.size ≤ s.size := by omega
  have HC := Lib.hid hc
  have HT := Lib.hid ht
  have HL := Lib.hid hl
  have HZ := Lib.hid hsz
  have HS := Lib.hid hss
  clear hc ht hl hsz hss hT
  go_enter Tryd.func32, Tryd.ntmps32
  go_wp2_with (go_at_call 46; refine (HC.out _).mono ?_; rintro e w' ⟨rfl, hb⟩)
  go_ret2
  refine ⟨?_, by assumption⟩
  have e1 : s.extract 0 (s.size - T.size) = ⟨A.toArray⟩ := by
    apply ba_ext
    rw [Lib.extract_data, ← HL.out]
    have : s.size - T.size = A.length := by have := HZ.out; have := HS.out; omega
    rw [this]
    simp
  have e2 : T = ⟨D.toArray⟩ := ba_ext (by rw [HT.out])
  show Ending.returned (.tuple #[.string (s.extract 0 (s.size - T.size)), .string T]) = _
  rw [e1]
  exact congrArg (fun t => Ending.returned (.tuple #[.string ⟨A.toArray⟩, .string t])) e2

theorem pLet_hi : ∀ r, 128 ≤ r → pLet r = false := by intro r h; simp [pLet]; omega
theorem pDig_hi : ∀ r, 128 ≤ r → pDig r = false := by intro r h; simp [pDig]; omega

/-! What a reference's text says. -/
def isL (b : UInt8) : Bool := pLet b.toNat
def isD (b : UInt8) : Bool := pDig b.toNat
def l1 (s : List UInt8) := und s
def nm (s : List UInt8) := (und s).takeWhile isL
def l2 (s : List UInt8) := (und s).dropWhile isL
def l3 (s : List UInt8) := und (l2 s)
def rw_ (s : List UInt8) := (l3 s).takeWhile isD
def l4 (s : List UInt8) := (l3 s).dropWhile isD
theorem cutL_any (s : ByteArray) (w : World) (hs : s.size ≤ 9223372036854775807) :
    Calls Tryd.prog 32 #[.string s, .func (.func 33) #[] #[]] w fun e w' => e = .returned (.tuple #[.string ⟨(s.data.toList.takeWhile isL).toArray⟩, .string ⟨(s.data.toList.dropWhile isL).toArray⟩]) ∧ Below w.heap.size w w' :=
  cut_any 33 pLet pLet_hi eg33 letter_gives s w hs
theorem cutD_any (s : ByteArray) (w : World) (hs : s.size ≤ 9223372036854775807) :
    Calls Tryd.prog 32 #[.string s, .func (.func 34) #[] #[]] w fun e w' => e = .returned (.tuple #[.string ⟨(s.data.toList.takeWhile isD).toArray⟩, .string ⟨(s.data.toList.dropWhile isD).toArray⟩]) ∧ Below w.heap.size w w' :=
  cut_any 34 pDig pDig_hi eg34 digit_gives s w hs
end Go.Proofs.YtacakmlkaikabaaDoor

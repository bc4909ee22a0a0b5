/- Plain laws on samples: checks, equality, squared distances. -/
import Derived.Test.YtgfkodanekfekaaX5
import Derived.Test.YtgfkodanekfekaaX4
import Derived.Test.YtgfkodanekfekaaX6
namespace Go.Proofs.Ytgfkodanekfekaa.Base
open Go.RowKit Go.Proofs.Ytgfkodanekfekaa.X Go.Proofs.YtgfkodanekfekaaW.PrintWords Go.Proofs.YtgfkodanekfekaaW.PrintLast
set_option linter.unusedVariables false
theorem eta30 (p : S30) : (⟨p.f0, p.f1, p.f2⟩ : S30) = p := rfl
theorem w64 (x : Int) (h1 : -9223372036854775808 ≤ x) (h2 : x ≤ 9223372036854775807) : wrap64 x = x := by unfold wrap64; omega
theorem next_ (i : Nat) (h : i < 4611686018427387904) : wrap64 ((i : Int) + 1) = ((i + 1 : Nat) : Int) := by unfold wrap64; omega
theorem drop_cons_ {α : Type} (l : List α) (z : α) (i : Nat) (h : i < l.length) : l.drop i = l.getD i z :: l.drop (i + 1) := by
  rw [List.drop_eq_getElem_cons h, List.getD_eq_getElem?_getD, List.getElem?_eq_getElem h]; rfl
theorem rd30 (l : List S30) (i : Nat) : rd_T30 l (i : Int) = l.getD i z30 := by unfold rd_T30; rw [Int.toNat_natCast]
theorem mem_getD {α : Type} (l : List α) (z : α) (i : Nat) (h : i < l.length) : l.getD i z ∈ l := by
  rw [List.getD_eq_getElem?_getD, List.getElem?_eq_getElem h]; exact List.getElem_mem _
theorem leo_k {α : Type} {f : Nat → Option α} (hm : ∀ k, LeO (f k) (f (k + 1))) {k0 : Nat} {r : α} (h : f k0 = some r) : ∀ k, k0 ≤ k → f k = some r := by
  intro k hk
  obtain ⟨d, rfl⟩ : ∃ d, k = k0 + d := ⟨k - k0, by omega⟩
  induction d with
  | zero => exact h
  | succ d ih => exact hm _ _ (ih (by omega))
theorem awake_60 : metrolablaw31_awake.f 60 = some true := by decide +kernel
theorem awake_k (k : Nat) (hk : 60 ≤ k) : metrolablaw31_awake.f k = some true := leo_k metrolablaw31_awake.mono awake_60 k hk

/-! equality -/
instance dec30 : DecidableEq S30 := fun a b => decidable_of_iff (a.f0 = b.f0 ∧ a.f1 = b.f1 ∧ a.f2 = b.f2) (by cases a; cases b; simp)
theorem ext30 (a b : S30) : (!(a.f0 == b.f0) || (!(a.f1 == b.f1) || !(a.f2 == b.f2))) = true ↔ a ≠ b := by
  cases a; cases b
  simp [S30.mk.injEq]
  grind
theorem eq30_l0 (l m : List S30) (hl : l.length ≤ 1000000) (hm : l.length = m.length) : ∀ (d i : Nat), i + d = l.length → ∀ k, api_Spot_21.l0 (k + d + 1) l m (l.length : Int) (i : Int) = some (decide (l.drop i = m.drop i)) := by
  intro d
  induction d with
  | zero =>
    intro i hi k
    simp only [api_Spot_21.l0]
    rw [if_neg (by omega), List.drop_of_length_le (by omega), List.drop_of_length_le (by omega)]
    rfl
  | succ d ih =>
    intro i hi k
    rw [show k + (d + 1) + 1 = (k + d + 1) + 1 by omega]
    have ih' := ih (i + 1) (by omega) k
    generalize hK : k + d + 1 = K at *
    simp only [api_Spot_21.l0]
    rw [if_pos (by omega), if_pos (by omega), if_pos (by omega), if_pos (by omega), rd30, rd30, next_ i (by omega), drop_cons_ l z30 i (by omega), drop_cons_ m z30 i (by omega)]
    by_cases he : l.getD i z30 = m.getD i z30
    · rw [if_neg (fun h => (ext30 _ _).mp h he), ih']
      congr 1
      simp only [he, List.cons.injEq, true_and]
    · rw [if_pos ((ext30 _ _).mpr he)]
      congr 1
      simp only [he, List.cons.injEq, false_and, decide_false]
theorem eq30_f (l m : List S30) (hl : l.length ≤ 1000000) (k : Nat) (hk : l.length + 1 ≤ k) : api_Spot_21.f k l m = some (decide (l = m)) := by
  unfold api_Spot_21.f
  by_cases h : l.length = m.length
  · rw [if_pos (by omega)]
    have := eq30_l0 l m hl h l.length 0 (by omega) (k - l.length - 1)
    rw [show k - l.length - 1 + l.length + 1 = k by omega] at this
    simpa using this
  · rw [if_neg (by omega), decide_eq_false (fun e => h (by rw [e]))]
/-! checks -/
def chk (l : List S30) : Int := if l.length > 64 then 5 else allSpot l
theorem vcheck_f (l : List S30) : vector_CheckSpots.f l = some (chk l) := rfl
theorem rspot_f (p : S30) : metrolabref07_RightSpot.f p.f0 p.f1 p.f2 = some (okSpot p) := by
  unfold metrolabref07_RightSpot.f metrolabref07_in.f okSpot inRangeSpot
  grind
theorem rcheck_l0 (l : List S30) (hl : l.length ≤ 1000000) : ∀ (d i : Nat), i + d = l.length → ∀ k, metrolabref07_CheckSpots.l0 (k + d + 1) l (i : Int) = some (allSpot (l.drop i)) := by
  intro d
  induction d with
  | zero =>
    intro i hi k
    simp only [metrolabref07_CheckSpots.l0]
    rw [if_neg (by omega), List.drop_of_length_le (by omega)]
    rfl
  | succ d ih =>
    intro i hi k
    rw [show k + (d + 1) + 1 = (k + d + 1) + 1 by omega]
    have ih' := ih (i + 1) (by omega) k
    generalize hK : k + d + 1 = K at *
    simp only [metrolabref07_CheckSpots.l0]
    rw [if_pos (by omega), if_pos (by omega), rd30, rspot_f, next_ i (by omega), ih', drop_cons_ l z30 i (by omega), Option.bind_some]
    unfold allSpot
    rw [List.all_cons]
    by_cases h : okSpot (l.getD i z30) = true
    · rw [if_pos h, h, Bool.true_and]
    · rw [if_neg h, Bool.not_eq_true] at *
      rw [h, Bool.false_and]; rfl
theorem rcheck_f (l : List S30) (k : Nat) (hk : 65 ≤ k) : metrolabref07_CheckSpots.f k l = some (chk l) := by
  unfold metrolabref07_CheckSpots.f chk
  by_cases h : l.length > 64
  · rw [if_pos (by omega), if_pos h]
  · rw [if_neg (by omega), if_neg h]
    have := rcheck_l0 l (by omega) l.length 0 (by omega) (k - l.length - 1)
    rw [show k - l.length - 1 + l.length + 1 = k by omega] at this
    simpa using this
theorem chk_zero {l : List S30} (h : chk l = 0) : l.length ≤ 64 ∧ ∀ p ∈ l, okSpot p = true := by
  unfold chk allSpot at h
  split at h
  · omega
  · split at h
    · rename_i h1 h2
      exact ⟨by omega, List.all_eq_true.mp h2⟩
    · omega
theorem chk_iff {l : List S30} : chk l = 0 ↔ l.length ≤ 64 ∧ ∀ p ∈ l, okSpot p = true := by
  refine ⟨chk_zero, fun ⟨h1, h2⟩ => ?_⟩
  unfold chk allSpot
  rw [if_neg (by omega), if_pos (List.all_eq_true.mpr h2)]
theorem ok_iff (p : S30) : okSpot p = true ↔ (-100000 ≤ p.f0 ∧ p.f0 ≤ 100000) ∧ (-100000 ≤ p.f1 ∧ p.f1 ≤ 100000) ∧ -100000 ≤ p.f2 ∧ p.f2 ≤ 100000 := by
  unfold okSpot inRangeSpot
  simp [Bool.and_eq_true, and_assoc]
def d2 (p q : S30) : Int := (q.f0 - p.f0) * (q.f0 - p.f0) + (q.f1 - p.f1) * (q.f1 - p.f1) + (q.f2 - p.f2) * (q.f2 - p.f2)
theorem sq_bound {a : Int} (h1 : -200000 ≤ a) (h2 : a ≤ 200000) : 0 ≤ a * a ∧ a * a ≤ 40000000000 := by
  rcases Int.le_total 0 a with h | h
  · exact ⟨Int.mul_nonneg h h, Int.mul_le_mul h2 h2 h (by omega)⟩
  · have := Int.mul_le_mul (show -a ≤ 200000 by omega) (show -a ≤ 200000 by omega) (show 0 ≤ -a by omega) (by omega)
    have h3 := Int.mul_nonneg (show 0 ≤ -a by omega) (show 0 ≤ -a by omega)
    rw [Int.neg_mul_neg] at this h3
    exact ⟨h3, this⟩
theorem square_f {p q : S30} (hp : okSpot p = true) (hq : okSpot q = true) : vector_SquareSpace.f p.f0 p.f1 p.f2 q.f0 q.f1 q.f2 = some (d2 p q, 0) := by
  have h1 := (ok_iff p).mp hp
  have h2 := (ok_iff q).mp hq
  unfold vector_SquareSpace.f vector_reach.f vector_beam_dot.f
  rw [if_pos (by rw [show (⟨p.f0, p.f1, p.f2⟩ : S30) = p from rfl, show (⟨q.f0, q.f1, q.f2⟩ : S30) = q from rfl, hp, hq]; rfl)]
  have b0 := sq_bound (a := q.f0 - p.f0) (by omega) (by omega)
  have b1 := sq_bound (a := q.f1 - p.f1) (by omega) (by omega)
  have b2 := sq_bound (a := q.f2 - p.f2) (by omega) (by omega)
  simp only [Option.bind_some]
  rw [w64 (q.f0 - p.f0) (by omega) (by omega), w64 (q.f1 - p.f1) (by omega) (by omega), w64 (q.f2 - p.f2) (by omega) (by omega), w64 ((q.f0 - p.f0) * (q.f0 - p.f0)) (by omega) (by omega), w64 ((q.f1 - p.f1) * (q.f1 - p.f1)) (by omega) (by omega), w64 ((q.f2 - p.f2) * (q.f2 - p.f2)) (by omega) (by omega)]
  unfold d2
  generalize (q.f0 - p.f0) * (q.f0 - p.f0) = A at *
  generalize (q.f1 - p.f1) * (q.f1 - p.f1) = B at *
  generalize (q.f2 - p.f2) * (q.f2 - p.f2) = C at *
  rw [w64 (A + B) (by omega) (by omega), w64 (A + B + C) (by omega) (by omega)]
end Go.Proofs.Ytgfkodanekfekaa.Base

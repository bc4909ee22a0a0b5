/- Plain laws on samples: checks, equality, turns, mirrors, flattened samples. -/
import Derived.Test.YtgfkodanekfekaaX18
import Derived.Test.YtgfkodanekfekaaX4
import Derived.Test.YtgfkodanekfekaaX9
import Derived.Test.YtgfkodanekfekaaX5
import Derived.Test.YtgfkodanekfekaaX4
namespace Go.Proofs.Ytgfkodanekfekaa.Base
open Go.RowKit Go.Proofs.Ytgfkodanekfekaa.X Go.Proofs.YtgfkodanekfekaaW.PrintWords Go.Proofs.YtgfkodanekfekaaW.PrintLast
theorem w64 (x : Int) (h1 : -9223372036854775808 ≤ x) (h2 : x ≤ 9223372036854775807) : wrap64 x = x := by unfold wrap64; omega
theorem next_ (i : Nat) (h : i < 4611686018427387904) : wrap64 ((i : Int) + 1) = ((i + 1 : Nat) : Int) := by unfold wrap64; omega
theorem drop_cons_ {α : Type} (l : List α) (z : α) (i : Nat) (h : i < l.length) : l.drop i = l.getD i z :: l.drop (i + 1) := by
  rw [List.drop_eq_getElem_cons h, List.getD_eq_getElem?_getD, List.getElem?_eq_getElem h]; rfl
theorem rd30 (l : List S30) (i : Nat) : rd_T30 l (i : Int) = l.getD i z30 := by unfold rd_T30; rw [Int.toNat_natCast]
theorem rd46 (l : List S46) (i : Nat) : rd_T46 l (i : Int) = l.getD i z46 := by unfold rd_T46; rw [Int.toNat_natCast]
theorem mem_getD {α : Type} (l : List α) (z : α) (i : Nat) (h : i < l.length) : l.getD i z ∈ l := by
  rw [List.getD_eq_getElem?_getD, List.getElem?_eq_getElem h]; exact List.getElem_mem _
theorem leo_k {α : Type} {f : Nat → Option α} (hm : ∀ k, LeO (f k) (f (k + 1))) {k0 : Nat} {r : α} (h : f k0 = some r) : ∀ k, k0 ≤ k → f k = some r := by
  intro k hk
  obtain ⟨d, rfl⟩ : ∃ d, k = k0 + d := ⟨k - k0, by omega⟩
  induction d with
  | zero => exact h
  | succ d ih => exact hm _ _ (ih (by omega))
theorem awake_60 : metrolablaw31_awake.f 60 = some true := by decide +kernel
theorem awake_k (k : Nat) (hk : 60 ≤ k) : metrolablaw31_awake.f k = some true := leo_k metrolablaw31_awake.mono awake_60 k hk

/-! equality -/
instance dec30 : DecidableEq S30 := fun a b => decidable_of_iff (a.f0 = b.f0 ∧ a.f1 = b.f1 ∧ a.f2 = b.f2) (by cases a; cases b; simp)
instance dec46 : DecidableEq S46 := fun a b => decidable_of_iff (a.f0 = b.f0 ∧ a.f1 = b.f1) (by cases a; cases b; simp)
theorem ext30 (a b : S30) : (!(a.f0 == b.f0) || (!(a.f1 == b.f1) || !(a.f2 == b.f2))) = true ↔ a ≠ b := by
  cases a; cases b
  simp [S30.mk.injEq]
  grind
theorem ext46 (a b : S46) : (!(a.f0 == b.f0) || !(a.f1 == b.f1)) = true ↔ a ≠ b := by
  cases a; cases b
  simp [S46.mk.injEq]
  grind
theorem eq30_l0 (l m : List S30) (hl : l.length ≤ 1000000) (hm : l.length = m.length) : ∀ (d i : Nat), i + d = l.length → ∀ k, api_Spot_21.l0 (k + d + 1) l m (l.length : Int) (i : Int) = some (decide (l.drop i = m.drop i)) := by
  intro d
  induction d with
  | zero =>
    intro i hi k
    simp only [api_Spot_21.l0]
    rw [if_neg (by omega), List.drop_of_length_le (by omega), List.drop_of_length_le (by omega)]
    rfl
  | succ d ih =>
    intro i hi k
    rw [show k + (d + 1) + 1 = (k + d + 1) + 1 by omega]
    have ih' := ih (i + 1) (by omega) k
    generalize hK : k + d + 1 = K at *
    simp only [api_Spot_21.l0]
    rw [if_pos (by omega), if_pos (by omega), if_pos (by omega), if_pos (by omega), rd30, rd30, next_ i (by omega), drop_cons_ l z30 i (by omega), drop_cons_ m z30 i (by omega)]
    by_cases he : l.getD i z30 = m.getD i z30
    · rw [if_neg (fun h => (ext30 _ _).mp h he), ih']
      congr 1
      simp only [he, List.cons.injEq, true_and]
    · rw [if_pos ((ext30 _ _).mpr he)]
      congr 1
      simp only [he, List.cons.injEq, false_and, decide_false]
theorem eq30_f (l m : List S30) (hl : l.length ≤ 1000000) (k : Nat) (hk : l.length + 1 ≤ k) : api_Spot_21.f k l m = some (decide (l = m)) := by
  unfold api_Spot_21.f
  by_cases h : l.length = m.length
  · rw [if_pos (by omega)]
    have := eq30_l0 l m hl h l.length 0 (by omega) (k - l.length - 1)
    rw [show k - l.length - 1 + l.length + 1 = k by omega] at this
    simpa using this
  · rw [if_neg (by omega), decide_eq_false (fun e => h (by rw [e]))]
theorem eq46_l0 (l m : List S46) (hl : l.length ≤ 1000000) (hm : l.length = m.length) : ∀ (d i : Nat), i + d = l.length → ∀ k, api_Point_24.l0 (k + d + 1) l m (l.length : Int) (i : Int) = some (decide (l.drop i = m.drop i)) := by
  intro d
  induction d with
  | zero =>
    intro i hi k
    simp only [api_Point_24.l0]
    rw [if_neg (by omega), List.drop_of_length_le (by omega), List.drop_of_length_le (by omega)]
    rfl
  | succ d ih =>
    intro i hi k
    rw [show k + (d + 1) + 1 = (k + d + 1) + 1 by omega]
    have ih' := ih (i + 1) (by omega) k
    generalize hK : k + d + 1 = K at *
    simp only [api_Point_24.l0]
    rw [if_pos (by omega), if_pos (by omega), if_pos (by omega), if_pos (by omega), rd46, rd46, next_ i (by omega), drop_cons_ l z46 i (by omega), drop_cons_ m z46 i (by omega)]
    by_cases he : l.getD i z46 = m.getD i z46
    · rw [if_neg (fun h => (ext46 _ _).mp h he), ih']
      congr 1
      simp only [he, List.cons.injEq, true_and]
    · rw [if_pos ((ext46 _ _).mpr he)]
      congr 1
      simp only [he, List.cons.injEq, false_and, decide_false]
theorem eq46_f (l m : List S46) (hl : l.length ≤ 1000000) (k : Nat) (hk : l.length + 1 ≤ k) : api_Point_24.f k l m = some (decide (l = m)) := by
  unfold api_Point_24.f
  by_cases h : l.length = m.length
  · rw [if_pos (by omega)]
    have := eq46_l0 l m hl h l.length 0 (by omega) (k - l.length - 1)
    rw [show k - l.length - 1 + l.length + 1 = k by omega] at this
    simpa using this
  · rw [if_neg (by omega), decide_eq_false (fun e => h (by rw [e]))]

/-! checks -/
def chk (l : List S30) : Int := if l.length > 64 then 5 else allSpot l
theorem vcheck_f (l : List S30) : vector_CheckSpots.f l = some (chk l) := rfl
theorem rspot_f (p : S30) : metrolabref07_RightSpot.f p.f0 p.f1 p.f2 = some (okSpot p) := by
  unfold metrolabref07_RightSpot.f metrolabref07_in.f okSpot inRangeSpot
  grind
theorem rcheck_l0 (l : List S30) (hl : l.length ≤ 1000000) : ∀ (d i : Nat), i + d = l.length → ∀ k, metrolabref07_CheckSpots.l0 (k + d + 1) l (i : Int) = some (allSpot (l.drop i)) := by
  intro d
  induction d with
  | zero =>
    intro i hi k
    simp only [metrolabref07_CheckSpots.l0]
    rw [if_neg (by omega), List.drop_of_length_le (by omega)]
    rfl
  | succ d ih =>
    intro i hi k
    rw [show k + (d + 1) + 1 = (k + d + 1) + 1 by omega]
    have ih' := ih (i + 1) (by omega) k
    generalize hK : k + d + 1 = K at *
    simp only [metrolabref07_CheckSpots.l0]
    rw [if_pos (by omega), if_pos (by omega), rd30, rspot_f, next_ i (by omega), ih', drop_cons_ l z30 i (by omega), Option.bind_some]
    unfold allSpot
    rw [List.all_cons]
    by_cases h : okSpot (l.getD i z30) = true
    · rw [if_pos h, h, Bool.true_and]
    · rw [if_neg h, Bool.not_eq_true] at *
      rw [h, Bool.false_and]; rfl
theorem rcheck_f (l : List S30) (k : Nat) (hk : 65 ≤ k) : metrolabref07_CheckSpots.f k l = some (chk l) := by
  unfold metrolabref07_CheckSpots.f chk
  by_cases h : l.length > 64
  · rw [if_pos (by omega), if_pos h]
  · rw [if_neg (by omega), if_neg h]
    have := rcheck_l0 l (by omega) l.length 0 (by omega) (k - l.length - 1)
    rw [show k - l.length - 1 + l.length + 1 = k by omega] at this
    simpa using this
theorem chk_zero {l : List S30} (h : chk l = 0) : l.length ≤ 64 ∧ ∀ p ∈ l, okSpot p = true := by
  unfold chk allSpot at h
  split at h
  · omega
  · split at h
    · rename_i h1 h2
      exact ⟨by omega, List.all_eq_true.mp h2⟩
    · omega
theorem chk_iff {l : List S30} : chk l = 0 ↔ l.length ≤ 64 ∧ ∀ p ∈ l, okSpot p = true := by
  refine ⟨chk_zero, fun ⟨h1, h2⟩ => ?_⟩
  unfold chk allSpot
  rw [if_neg (by omega), if_pos (List.all_eq_true.mpr h2)]
theorem ok_iff (p : S30) : okSpot p = true ↔ (-100000 ≤ p.f0 ∧ p.f0 ≤ 100000) ∧ (-100000 ≤ p.f1 ∧ p.f1 ≤ 100000) ∧ -100000 ≤ p.f2 ∧ p.f2 ≤ 100000 := by
  unfold okSpot inRangeSpot
  simp [Bool.and_eq_true, and_assoc]
def alongV (l : List S30) (a : Int) : Int := if chk l = 0 then (if 0 ≤ a ∧ a ≤ 2 then 0 else 1) else chk l
theorem along_f (l : List S30) (a : Int) : points_along.f l a = some (alongV l a) := by
  unfold points_along.f points_axes.f alongV
  rw [vcheck_f, Option.bind_some]
  by_cases h : chk l = 0
  · rw [if_pos h, if_pos h]
    by_cases h1 : a < 0
    · rw [if_pos h1, if_neg (by omega)]; rfl
    · rw [if_neg h1]
      by_cases h2 : a ≥ 3
      · rw [if_pos h2, if_neg (by omega)]; rfl
      · rw [if_neg h2, if_pos (by omega)]; rfl
  · rw [if_neg h, if_neg h]
theorem sample_f (l : List S30) (a : Int) (k : Nat) (hk : 65 ≤ k) : metrolabref31_sample.f k l a = some (alongV l a) := by
  unfold metrolabref31_sample.f metrolabref31_Axis.f alongV
  rw [rcheck_f l k hk, Option.bind_some]
  by_cases h : chk l = 0
  · rw [if_pos h, if_pos h]
    by_cases h1 : a ≥ 0
    · rw [if_pos h1, Option.bind_some]
      by_cases h2 : a ≤ 2
      · rw [decide_eq_true h2, if_pos rfl, if_pos (by omega)]
      · rw [decide_eq_false h2, if_neg (by decide), if_neg (by omega)]
    · rw [if_neg h1, Option.bind_some, if_neg (by decide), if_neg (by omega)]
  · rw [if_neg h, if_neg h]
theorem along_small {l : List S30} {a : Int} (h : alongV l a = 0) : l.length ≤ 64 ∧ (∀ p ∈ l, okSpot p = true) ∧ 0 ≤ a ∧ a ≤ 2 := by
  unfold alongV at h
  split at h
  · rename_i hc
    split at h
    · exact ⟨(chk_zero hc).1, (chk_zero hc).2, by assumption⟩
    · omega
  · rename_i hc; exact absurd h hc

/-! the reference's turns -/
theorem turned_f (t : Int × Int × Int) (a : Int) : metrolabref31_Turned.f t.1 t.2.1 t.2.2 a = some (turnV a t) := by
  unfold metrolabref31_Turned.f turnV
  by_cases h0 : a = 0
  · rw [if_pos h0, if_pos h0]
  · rw [if_neg h0, if_neg h0]
    by_cases h1 : a = 1
    · rw [if_pos h1, if_pos h1]
    · rw [if_neg h1, if_neg h1]
theorem rturn_l1 (l acc : List S30) (a : Int) (n : Nat) (hn : n ≤ 3) (ha : acc.length ≤ 1000000) (i : Int) (p : Int × Int × Int) : ∀ (d j : Nat), j + d = n → ∀ k,
    metrolabref31_Turn.l1 (k + d + 1) l a (n : Int) acc i (j : Int) (turnN a j p).1 (turnN a j p).2.1 (turnN a j p).2.2 = metrolabref31_Turn.l0 k l a (n : Int) (acc ++ [⟨(turnN a n p).1, (turnN a n p).2.1, (turnN a n p).2.2⟩]) (wrap64 (i + 1)) := by
  intro d
  induction d with
  | zero =>
    intro j hj k
    obtain rfl : j = n := by omega
    simp only [metrolabref31_Turn.l1]
    rw [if_neg (by omega), if_pos (by omega)]
  | succ d ih =>
    intro j hj k
    rw [show k + (d + 1) + 1 = (k + d + 1) + 1 by omega]
    have ih' := ih (j + 1) (by omega) k
    generalize hK : k + d + 1 = K at *
    simp only [metrolabref31_Turn.l1]
    rw [if_pos (by omega), turned_f, Option.bind_some, next_ j (by omega)]
    exact ih'
theorem rturn_l0 (l : List S30) (a : Int) (n : Nat) (hn : n ≤ 3) (hl : l.length ≤ 64) : ∀ (d i : Nat) (acc : List S30), i + d = l.length → acc.length = i → ∀ k, 10 * d + 1 ≤ k →
    metrolabref31_Turn.l0 k l a (n : Int) acc (i : Int) = some (acc ++ mapT (turnN a n) (l.drop i), 0) := by
  intro d
  induction d with
  | zero =>
    intro i acc hi ha k hk
    obtain ⟨k, rfl⟩ : ∃ m, k = m + 1 := ⟨k - 1, by omega⟩
    simp only [metrolabref31_Turn.l0]
    rw [if_neg (by omega), List.drop_of_length_le (by omega)]
    simp [mapT]
  | succ d ih =>
    intro i acc hi ha k hk
    obtain ⟨k, rfl⟩ : ∃ m, k = m + n + 1 + 1 := ⟨k - n - 2, by omega⟩
    have h1 := rturn_l1 l acc a n hn (by omega) (i : Int) ((l.getD i z30).f0, (l.getD i z30).f1, (l.getD i z30).f2) n 0 (by omega) k
    have h2 := ih (i + 1) (acc ++ [⟨(turnN a n ((l.getD i z30).f0, (l.getD i z30).f1, (l.getD i z30).f2)).1, (turnN a n ((l.getD i z30).f0, (l.getD i z30).f1, (l.getD i z30).f2)).2.1, (turnN a n ((l.getD i z30).f0, (l.getD i z30).f1, (l.getD i z30).f2)).2.2⟩]) (by omega) (by simp [ha]) k (by omega)
    generalize hK : k + n + 1 = K at *
    simp only [metrolabref31_Turn.l0]
    rw [if_pos (by omega), if_pos (by omega), rd30]
    refine Eq.trans h1 ?_
    rw [next_ i (by omega), h2, drop_cons_ l z30 i (by omega)]
    simp [mapT]
theorem rturn_f (l : List S30) (a q : Int) (k : Nat) (hk : 1000 ≤ k) : metrolabref31_Turn.f k l a q = points_Turn.f l a q := by
  unfold metrolabref31_Turn.f points_Turn.f
  rw [sample_f l a k (by omega), along_f, Option.bind_some, Option.bind_some]
  by_cases h : alongV l a = 0
  · rw [if_pos h, if_pos h]
    obtain ⟨h1, _⟩ := along_small h
    obtain ⟨t1, t2⟩ := turn_mod q
    rw [t1]
    have := rturn_l0 l a (q % 4).toNat t2 h1 l.length 0 [] (by omega) rfl k (by omega)
    simpa using this
  · rw [if_neg h, if_neg h]
theorem mirrored_f (t : Int × Int × Int) (a : Int) : metrolabref31_Mirrored.f t.1 t.2.1 t.2.2 a = some (mirrorV a t) := by
  unfold metrolabref31_Mirrored.f mirrorV
  by_cases h0 : a = 0
  · rw [if_pos h0, if_pos h0]
  · rw [if_neg h0, if_neg h0]
    by_cases h1 : a = 1
    · rw [if_pos h1, if_pos h1]
    · rw [if_neg h1, if_neg h1]
theorem rmirror_l0 (l : List S30) (a : Int) (hl : l.length ≤ 64) : ∀ (d i : Nat) (acc : List S30), i + d = l.length → acc.length = i → ∀ k,
    metrolabref31_Mirror.l0 (k + d + 1) l a acc (i : Int) = some (acc ++ mapT (mirrorV a) (l.drop i), 0) := by
  intro d
  induction d with
  | zero =>
    intro i acc hi ha k
    simp only [metrolabref31_Mirror.l0]
    rw [if_neg (by omega), List.drop_of_length_le (by omega)]
    simp [mapT]
  | succ d ih =>
    intro i acc hi ha k
    rw [show k + (d + 1) + 1 = (k + d + 1) + 1 by omega]
    have hm := mirrored_f ((l.getD i z30).f0, (l.getD i z30).f1, (l.getD i z30).f2) a
    have h2 := ih (i + 1) (acc ++ [⟨(mirrorV a ((l.getD i z30).f0, (l.getD i z30).f1, (l.getD i z30).f2)).1, (mirrorV a ((l.getD i z30).f0, (l.getD i z30).f1, (l.getD i z30).f2)).2.1, (mirrorV a ((l.getD i z30).f0, (l.getD i z30).f1, (l.getD i z30).f2)).2.2⟩]) (by omega) (by simp [ha]) k
    generalize hK : k + d + 1 = K at *
    simp only [metrolabref31_Mirror.l0]
    rw [if_pos (by omega), if_pos (by omega), rd30]
    simp only at hm
    rw [hm, Option.bind_some, if_pos (by omega), next_ i (by omega), h2, drop_cons_ l z30 i (by omega)]
    simp [mapT]
theorem rmirror_f (l : List S30) (a : Int) (k : Nat) (hk : 1000 ≤ k) : metrolabref31_Mirror.f k l a = points_Mirror.f l a := by
  unfold metrolabref31_Mirror.f points_Mirror.f
  rw [sample_f l a k (by omega), along_f, Option.bind_some, Option.bind_some]
  by_cases h : alongV l a = 0
  · rw [if_pos h, if_pos h]
    obtain ⟨h1, _⟩ := along_small h
    have := rmirror_l0 l a h1 l.length 0 [] (by omega) rfl (k - l.length - 1)
    rw [show k - l.length - 1 + l.length + 1 = k by omega] at this
    simpa using this
  · rw [if_neg h, if_neg h]
theorem flat_f (t : Int × Int × Int) (a : Int) : metrolabref31_Flat.f t.1 t.2.1 t.2.2 a = some (flatV a t) := by
  unfold metrolabref31_Flat.f flatV
  by_cases h0 : a = 0
  · rw [if_pos h0, if_pos h0]
  · rw [if_neg h0, if_neg h0]
    by_cases h1 : a = 1
    · rw [if_pos h1, if_pos h1]
    · rw [if_neg h1, if_neg h1]
def flatL (a : Int) (l : List S30) : List S46 := l.map fun p => ⟨(flatV a (p.f0, p.f1, p.f2)).1, (flatV a (p.f0, p.f1, p.f2)).2⟩
theorem rflat_l0 (l : List S30) (a : Int) (hl : l.length ≤ 64) : ∀ (d i : Nat) (acc : List S46), i + d = l.length → acc.length = i → ∀ k,
    metrolabref31_Flatten.l0 (k + d + 1) l a acc (i : Int) = some (acc ++ flatL a (l.drop i), 0) := by
  intro d
  induction d with
  | zero =>
    intro i acc hi ha k
    simp only [metrolabref31_Flatten.l0]
    rw [if_neg (by omega), List.drop_of_length_le (by omega)]
    simp [flatL]
  | succ d ih =>
    intro i acc hi ha k
    rw [show k + (d + 1) + 1 = (k + d + 1) + 1 by omega]
    have hm := flat_f ((l.getD i z30).f0, (l.getD i z30).f1, (l.getD i z30).f2) a
    have h2 := ih (i + 1) (acc ++ [⟨(flatV a ((l.getD i z30).f0, (l.getD i z30).f1, (l.getD i z30).f2)).1, (flatV a ((l.getD i z30).f0, (l.getD i z30).f1, (l.getD i z30).f2)).2⟩]) (by omega) (by simp [ha]) k
    generalize hK : k + d + 1 = K at *
    simp only [metrolabref31_Flatten.l0]
    rw [if_pos (by omega), if_pos (by omega), rd30]
    simp only at hm
    rw [hm, Option.bind_some, if_pos (by omega), next_ i (by omega), h2, drop_cons_ l z30 i (by omega)]
    simp [flatL]
theorem rflat_f (l : List S30) (a : Int) (k : Nat) (hk : 1000 ≤ k) : metrolabref31_Flatten.f k l a = points_Flatten.f l a := by
  unfold metrolabref31_Flatten.f points_Flatten.f
  rw [sample_f l a k (by omega), along_f, Option.bind_some, Option.bind_some]
  by_cases h : alongV l a = 0
  · rw [if_pos h, if_pos h]
    obtain ⟨h1, _⟩ := along_small h
    have := rflat_l0 l a h1 l.length 0 [] (by omega) rfl (k - l.length - 1)
    rw [show k - l.length - 1 + l.length + 1 = k by omega] at this
    simpa [flatL] using this
  · rw [if_neg h, if_neg h]
end Go.Proofs.Ytgfkodanekfekaa.Base

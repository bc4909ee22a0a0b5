/- Plain laws on shifted samples. -/
import Derived.Test.YtgfkodanekfekaaBase
import Derived.Test.YtgfkodanekfekaaX20
import Derived.Test.YtgfkodanekfekaaX10
namespace Go.Proofs.Ytgfkodanekfekaa.Base
open Go.RowKit Go.Proofs.Ytgfkodanekfekaa.X Go.Proofs.YtgfkodanekfekaaW.PrintWords Go.Proofs.YtgfkodanekfekaaW.PrintLast
theorem ranged_ok (x y z : Int) : rangedV (x, y, z) = okSpot ⟨x, y, z⟩ := by
  unfold rangedV badC okSpot inRangeSpot
  grind
def movedOk (a b c : Int) (p : S30) : Bool := rangedV (shiftV a b c (p.f0, p.f1, p.f2))
theorem shift_fold (a b c : Int) : ∀ (l : List S30) (s : Bool), eachF (shiftS a b c) s l = (s || !(l.all (movedOk a b c)), mapT (shiftV a b c) l)
  | [], s => by simp [eachF, mapT]
  | p :: l, s => by
    simp only [eachF, shift_fold a b c l, mapT, List.map_cons, List.all_cons]
    congr 1
    show ((s || !(movedOk a b c p)) || !(l.all (movedOk a b c))) = _
    cases s <;> cases movedOk a b c p <;> cases l.all (movedOk a b c) <;> rfl
/-- what Shift returns -/
def shiftR (l : List S30) (a b c : Int) : List S30 × Int := if chk l = 0 then (if okSpot ⟨a, b, c⟩ = true then (if l.all (movedOk a b c) = true then (mapT (shiftV a b c) l, 0) else ([], 11)) else ([], 2)) else ([], chk l)
theorem shift_f (l : List S30) (a b c : Int) : points_Shift.f l a b c = some (shiftR l a b c) := by
  unfold points_Shift.f shiftR
  rw [vcheck_f, Option.bind_some, shift_fold, ranged_ok]
  by_cases h : chk l = 0
  · rw [if_pos h, if_pos h]
    by_cases h2 : okSpot ⟨a, b, c⟩ = true
    · rw [if_pos h2, if_pos h2]
      cases l.all (movedOk a b c) <;> rfl
    · rw [if_neg h2, if_neg h2]
  · rw [if_neg h, if_neg h]
theorem rshift_l0 (l : List S30) (a b c : Int) (hl : l.length ≤ 64) : ∀ (d i : Nat) (acc : List S30), i + d = l.length → acc.length = i → ∀ k,
    metrolabref31_Shift.l0 (k + d + 1) l acc (i : Int) a b c = some (if (l.drop i).all (movedOk a b c) = true then (acc ++ mapT (shiftV a b c) (l.drop i), 0) else ([], 11)) := by
  intro d
  induction d with
  | zero =>
    intro i acc hi ha k
    simp only [metrolabref31_Shift.l0]
    rw [if_neg (by omega), List.drop_of_length_le (by omega)]
    simp [mapT]
  | succ d ih =>
    intro i acc hi ha k
    rw [show k + (d + 1) + 1 = (k + d + 1) + 1 by omega]
    obtain ⟨p, hp⟩ : ∃ p, p = l.getD i z30 := ⟨_, rfl⟩
    have h2 := ih (i + 1) (acc ++ [⟨wrap64 (p.f0 + a), wrap64 (p.f1 + b), wrap64 (p.f2 + c)⟩]) (by omega) (by simp [ha]) k
    have hr := rspot_f ⟨wrap64 (p.f0 + a), wrap64 (p.f1 + b), wrap64 (p.f2 + c)⟩
    simp only at hr
    have hm : movedOk a b c p = okSpot ⟨wrap64 (p.f0 + a), wrap64 (p.f1 + b), wrap64 (p.f2 + c)⟩ := by unfold movedOk shiftV; rw [ranged_ok]
    generalize hK : k + d + 1 = K at *
    simp only [metrolabref31_Shift.l0, metrolabref31_Moved.f]
    rw [if_pos (by omega), if_pos (by omega), rd30, ← hp, Option.bind_some, hr, Option.bind_some, drop_cons_ l z30 i (by omega), ← hp, List.all_cons, hm]
    by_cases h : okSpot ⟨wrap64 (p.f0 + a), wrap64 (p.f1 + b), wrap64 (p.f2 + c)⟩ = true
    · rw [if_pos h, if_pos (by omega), next_ i (by omega), h2, h, Bool.true_and]
      congr 1
      simp [mapT, shiftV]
    · rw [if_neg h, if_neg (by rw [Bool.not_eq_true] at h; rw [h, Bool.false_and]; decide)]
theorem rshift_f (l : List S30) (a b c : Int) (k : Nat) (hk : 1000 ≤ k) : metrolabref31_Shift.f k l a b c = some (shiftR l a b c) := by
  unfold metrolabref31_Shift.f shiftR
  rw [rcheck_f l k (by omega), Option.bind_some]
  by_cases h : chk l = 0
  · rw [if_pos h, if_pos h]
    obtain ⟨h1, _⟩ := chk_zero h
    have hr := rspot_f ⟨a, b, c⟩
    simp only at hr
    rw [hr, Option.bind_some]
    by_cases h2 : okSpot ⟨a, b, c⟩ = true
    · rw [if_pos h2, if_pos h2]
      have := rshift_l0 l a b c h1 l.length 0 [] (by omega) rfl (k - l.length - 1)
      rw [show k - l.length - 1 + l.length + 1 = k by omega] at this
      simpa using this
    · rw [if_neg h2, if_neg h2]
  · rw [if_neg h, if_neg h]
theorem mapT_len (g : Int × Int × Int → Int × Int × Int) (l : List S30) : (mapT g l).length = l.length := by unfold mapT; exact List.length_map _
theorem shiftR_len (l : List S30) (a b c : Int) : (shiftR l a b c).1.length ≤ 64 := by
  unfold shiftR
  split
  · rename_i h
    split
    · split
      · simp only [mapT_len]; exact (chk_zero h).1
      · simp
    · simp
  · simp
end Go.Proofs.Ytgfkodanekfekaa.Base

/- Plain laws on samples: thinned spots. -/
import Derived.Test.YtgfkodanekfekaaBaseLite
import Derived.Test.YtgfkodanekfekaaX26
import Derived.Test.YtgfkodanekfekaaX3
namespace Go.Proofs.Ytgfkodanekfekaa.Base
open Go.RowKit Go.Proofs.Ytgfkodanekfekaa.X Go.Proofs.YtgfkodanekfekaaW.PrintWords Go.Proofs.YtgfkodanekfekaaW.PrintLast
set_option linter.unusedVariables false
/-! thinned spots -/
theorem near_d2 {gap : Int} {p q : S30} (hp : okSpot p = true) (hq : okSpot q = true) : nearG gap p q = decide (d2 p q < wrap64 (gap * gap)) := by
  unfold nearG sqS
  rw [square_f hp hq]
  rfl
theorem farspace_f {p q : S30} (hp : okSpot p = true) (hq : okSpot q = true) : metrolabref07_FarSpace.f q.f0 q.f1 q.f2 p.f0 p.f1 p.f2 = some (d2 p q) := by
  have h1 := (ok_iff p).mp hp
  have h2 := (ok_iff q).mp hq
  unfold metrolabref07_FarSpace.f metrolabref07_Less.f metrolabref07_TimesSpace.f
  have b0 := sq_bound (a := q.f0 - p.f0) (by omega) (by omega)
  have b1 := sq_bound (a := q.f1 - p.f1) (by omega) (by omega)
  have b2 := sq_bound (a := q.f2 - p.f2) (by omega) (by omega)
  simp only [Option.bind_some]
  rw [w64 (q.f0 - p.f0) (by omega) (by omega), w64 (q.f1 - p.f1) (by omega) (by omega), w64 (q.f2 - p.f2) (by omega) (by omega), w64 ((q.f0 - p.f0) * (q.f0 - p.f0)) (by omega) (by omega), w64 ((q.f1 - p.f1) * (q.f1 - p.f1)) (by omega) (by omega), w64 ((q.f2 - p.f2) * (q.f2 - p.f2)) (by omega) (by omega)]
  unfold d2
  generalize (q.f0 - p.f0) * (q.f0 - p.f0) = A at *
  generalize (q.f1 - p.f1) * (q.f1 - p.f1) = B at *
  generalize (q.f2 - p.f2) * (q.f2 - p.f2) = C at *
  rw [w64 (A + B) (by omega) (by omega), w64 (A + B + C) (by omega) (by omega)]
theorem far_l0 (out : List S30) (ho : out.length ≤ 1000) (hok : ∀ q ∈ out, okSpot q = true) (gap : Int) (p : S30) (hp : okSpot p = true) : ∀ (d i : Nat), i + d = out.length → ∀ k, metrolabref31_far.l0 (k + d + 1) out gap (i : Int) p.f0 p.f1 p.f2 = some (!((out.drop i).any (nearG gap p))) := by
  intro d
  induction d with
  | zero =>
    intro i hi k
    simp only [metrolabref31_far.l0]
    rw [if_neg (by omega), List.drop_of_length_le (by omega)]
    rfl
  | succ d ih =>
    intro i hi k
    rw [show k + (d + 1) + 1 = (k + d + 1) + 1 by omega]
    have ih' := ih (i + 1) (by omega) k
    generalize hK : k + d + 1 = K at *
    have hq := hok _ (mem_getD out z30 i (by omega))
    simp only [metrolabref31_far.l0]
    rw [if_pos (by omega), if_pos (by omega), rd30, farspace_f hp hq, Option.bind_some, next_ i (by omega), ih', drop_cons_ out z30 i (by omega), List.any_cons, near_d2 hp hq]
    by_cases h : d2 p (out.getD i z30) < wrap64 (gap * gap)
    · rw [if_pos h, decide_eq_true h]; rfl
    · rw [if_neg h, decide_eq_false h]; rfl
theorem far_f (out : List S30) (ho : out.length ≤ 1000) (hok : ∀ q ∈ out, okSpot q = true) (gap : Int) (p : S30) (hp : okSpot p = true) (k : Nat) (hk : out.length + 1 ≤ k) : metrolabref31_far.f k out p.f0 p.f1 p.f2 gap = some (!(out.any (nearG gap p))) := by
  have := far_l0 out ho hok gap p hp out.length 0 (by omega) (k - out.length - 1)
  rw [show k - out.length - 1 + out.length + 1 = k by omega] at this
  exact this
theorem rthin_l0 (l : List S30) (hl : l.length ≤ 64) (hok : ∀ q ∈ l, okSpot q = true) (gap : Int) : ∀ (d i : Nat) (acc : List S30), i + d = l.length → acc.length ≤ i → (∀ q ∈ acc, okSpot q = true) → ∀ k, 2000 + d ≤ k → metrolabref31_Thin.l0 k l gap acc (i : Int) = some ((l.drop i).foldl (fun out p => if out.any (nearG gap p) then out else out ++ [p]) acc, 0) := by
  intro d
  induction d with
  | zero =>
    intro i acc hi ha hacc k hk
    obtain ⟨k, rfl⟩ : ∃ m, k = m + 1 := ⟨k - 1, by omega⟩
    simp only [metrolabref31_Thin.l0]
    rw [if_neg (by omega), List.drop_of_length_le (by omega)]
    rfl
  | succ d ih =>
    intro i acc hi ha hacc k hk
    obtain ⟨k, rfl⟩ : ∃ m, k = m + 1 := ⟨k - 1, by omega⟩
    have hq := hok _ (mem_getD l z30 i (by omega))
    simp only [metrolabref31_Thin.l0]
    rw [if_pos (by omega), if_pos (by omega), rd30, far_f acc (by omega) hacc gap _ hq k (by omega), Option.bind_some, next_ i (by omega), drop_cons_ l z30 i (by omega), List.foldl_cons]
    by_cases h : acc.any (nearG gap (l.getD i z30)) = true
    · rw [h, if_neg (by decide), if_pos rfl, ih (i + 1) acc (by omega) (by omega) hacc k (by omega)]
    · rw [Bool.not_eq_true] at h
      rw [h, if_pos (show (!false) = true from rfl), if_pos (by omega), eta30, if_neg (show ¬ (false = true) by decide), ih (i + 1) (acc ++ [l.getD i z30]) (by omega) (by simp; omega) (fun q hq' => by
        rcases List.mem_append.mp hq' with h' | h'
        · exact hacc q h'
        · rw [List.mem_singleton] at h'; subst h'; exact hq) k (by omega)]
theorem rthin_f (l : List S30) (gap : Int) (k : Nat) (hk : 4000 ≤ k) : metrolabref31_Thin.f k l gap = points_Thin.f l gap := by
  unfold metrolabref31_Thin.f points_Thin.f
  rw [rcheck_f l k (by omega), vcheck_f, Option.bind_some, Option.bind_some]
  by_cases h : chk l = 0
  · obtain ⟨h64, hok⟩ := chk_zero h
    rw [if_pos h, if_pos h]
    obtain ⟨k, rfl⟩ : ∃ m, k = m + 1 := ⟨k - 1, by omega⟩
    by_cases h1 : gap < 0
    · rw [if_pos h1, if_pos h1, metrolabref31_Thin.j0, if_pos rfl]
    · rw [if_neg h1, if_neg h1, metrolabref31_Thin.j0]
      by_cases h2 : 100000 < gap
      · rw [if_pos h2, if_pos (decide_eq_true h2)]
      · rw [if_neg h2, if_neg (by rw [decide_eq_false (by omega)]; decide)]
        have := rthin_l0 l h64 hok gap l.length 0 [] (by omega) (by simp) (by simp) k (by omega)
        exact this
  · rw [if_neg h, if_neg h]
end Go.Proofs.Ytgfkodanekfekaa.Base

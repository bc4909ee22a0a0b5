/- Plain laws on samples: the reference's insertion sort. -/
import Derived.Test.YtgfkodanekfekaaBaseOnce
import Derived.Test.YtgfkodanekfekaaX25
namespace Go.Proofs.Ytgfkodanekfekaa.Base
open Go.RowKit Go.Proofs.Ytgfkodanekfekaa.X Go.Proofs.YtgfkodanekfekaaW.PrintWords Go.Proofs.YtgfkodanekfekaaW.PrintLast
set_option linter.unusedVariables false
theorem swap_perm {x : List S30} {i j : Nat} (hi : i < x.length) (hj : j < x.length) (hne : i ≠ j) : ((x.set j x[i]).set i x[j]).Perm x := by
  rw [List.perm_iff_count]
  intro a
  rw [List.count_set (by rw [List.length_set]; exact hi), List.count_set hj, List.getElem_set_ne (Ne.symm hne)]
  have h : x[j] = a → 0 < List.count a x := fun e => by rw [← e]; exact List.count_pos_iff.mpr (List.getElem_mem _)
  by_cases h1 : x[j] = a
  · have := h h1
    rw [if_pos (beq_iff_eq.mpr h1)]
    split <;> omega
  · rw [if_neg (fun e => h1 (beq_iff_eq.mp e))]
    split <;> omega
/-- sorted but for the spot at j, which may be too far behind -/
def SortedBut (x : List S30) (i j : Nat) : Prop := ∀ p q, p < q → q ≤ i → q ≠ j → ¬ befS (x.getD q z30) (x.getD p z30)
theorem before_f (p q : S30) : metrolabref31_Before.f p.f0 p.f1 p.f2 q.f0 q.f1 q.f2 = some (decide (befS p q)) := by
  unfold metrolabref31_Before.f
  by_cases h0 : p.f0 = q.f0
  · rw [if_pos h0]
    by_cases h1 : p.f1 = q.f1
    · rw [if_pos h1]; congr 1; exact decide_eq_decide.mpr (by unfold befS; omega)
    · rw [if_neg h1]; congr 1; exact decide_eq_decide.mpr (by unfold befS; omega)
  · rw [if_neg h0]; congr 1; exact decide_eq_decide.mpr (by unfold befS; omega)
theorem getD_swap (x : List S30) (j : Nat) (hj : j + 1 < x.length) (q : Nat) : ((x.set (j + 1) (x.getD j z30)).set j (x.getD (j + 1) z30)).getD q z30 = if q = j then x.getD (j + 1) z30 else if q = j + 1 then x.getD j z30 else x.getD q z30 := by
  rw [List.getD_eq_getElem?_getD, List.getElem?_set, List.length_set, List.getElem?_set]
  by_cases h : q = j
  · subst h; rw [if_pos rfl, if_pos (by omega), if_pos rfl]; rfl
  · rw [if_neg (fun e => h e.symm), if_neg h]
    by_cases h2 : q = j + 1
    · subst h2; rw [if_pos rfl, if_pos hj, if_pos rfl]; rfl
    · rw [if_neg (fun e => h2 e.symm), if_neg h2, List.getD_eq_getElem?_getD]
theorem insert_l1 (n i : Nat) (hi : i < n) (hn : n ≤ 1000) : ∀ (j : Nat) (x : List S30), x.length = n → j ≤ i → SortedBut x i j → ∀ k, j + 1 ≤ k → ∃ k' y, k ≤ k' + j + 1 ∧ y.Perm x ∧ SortedBut y i (i + 1) ∧ metrolabref31_Sorted.l1 k x (i : Int) (j : Int) = metrolabref31_Sorted.l0 k' y ((i + 1 : Nat) : Int) := by
  intro j
  induction j with
  | zero =>
    intro x hx hj hS k hk
    obtain ⟨k, rfl⟩ : ∃ m, k = m + 1 := ⟨k - 1, by omega⟩
    refine ⟨k, x, by omega, List.Perm.refl _, fun p q hpq hq _ => hS p q hpq hq (by omega), ?_⟩
    rw [metrolabref31_Sorted.l1, if_neg (by omega), next_ i (by omega)]
  | succ j ih =>
    intro x hx hj hS k hk
    obtain ⟨k, rfl⟩ : ∃ m, k = m + 1 := ⟨k - 1, by omega⟩
    have hw : wrap64 (((j + 1 : Nat) : Int) - 1) = (j : Int) := by unfold wrap64; omega
    by_cases hb : befS (x.getD (j + 1) z30) (x.getD j z30)
    · obtain ⟨k', y, h1, h2, h3, h4⟩ := ih ((x.set (j + 1) (x.getD j z30)).set j (x.getD (j + 1) z30)) (by simp [hx]) (by omega) (by
        intro p q hpq hq hqj
        rw [getD_swap x j (by omega), getD_swap x j (by omega), if_neg hqj]
        by_cases e1 : q = j + 1
        · rw [if_pos e1]
          by_cases e2 : p = j
          · rw [if_pos e2]; exact befS_asymm hb
          · rw [if_neg e2, if_neg (by omega)]; exact hS p j (by omega) (by omega) (by omega)
        · rw [if_neg e1]
          by_cases e2 : p = j
          · rw [if_pos e2]; exact hS (j + 1) q (by omega) hq e1
          · rw [if_neg e2]
            by_cases e3 : p = j + 1
            · rw [if_pos e3]; exact hS j q (by omega) hq e1
            · rw [if_neg e3]; exact hS p q hpq hq e1) k (by omega)
      refine ⟨k', y, by omega, h2.trans ?_, h3, ?_⟩
      · have e1 : x.getD j z30 = x[j] := by rw [List.getD_eq_getElem?_getD, List.getElem?_eq_getElem (by omega)]; rfl
        have e2 : x.getD (j + 1) z30 = x[j + 1] := by rw [List.getD_eq_getElem?_getD, List.getElem?_eq_getElem (by omega)]; rfl
        rw [e1, e2]
        exact swap_perm (by omega) (by omega) (by omega)
      · rw [metrolabref31_Sorted.l1, if_pos (by omega), if_pos (by omega), if_pos (by omega), hw, if_pos (by omega), if_pos (by omega), rd30, rd30, before_f, Option.bind_some, if_pos (decide_eq_true hb), eta30, eta30, Int.toNat_natCast, Int.toNat_natCast]
        exact h4
    · refine ⟨k, x, by omega, List.Perm.refl _, ?_, ?_⟩
      · intro p q hpq hq _
        by_cases e : q = j + 1
        · subst e
          by_cases e2 : p = j
          · subst e2; exact hb
          · exact befS_trans (hS p j (by omega) (by omega) (by omega)) hb
        · exact hS p q hpq hq e
      · rw [metrolabref31_Sorted.l1, if_pos (by omega), if_pos (by omega), if_pos (by omega), hw, if_pos (by omega), if_pos (by omega), rd30, rd30, before_f, Option.bind_some, if_neg (by rw [decide_eq_false hb]; decide), next_ i (by omega)]
theorem insert_l0 (n : Nat) (hn : n ≤ 1000) : ∀ (d i : Nat) (x : List S30), i + d = n → x.length = n → SortedBut x i i → ∀ k, (n + 5) * d + 1 ≤ k → ∃ y, y.Perm x ∧ y.Pairwise (fun a b => ¬ befS b a) ∧ metrolabref31_Sorted.l0 k x (i : Int) = some (y, 0) := by
  intro d
  induction d with
  | zero =>
    intro i x hi hx hS k hk
    obtain ⟨k, rfl⟩ : ∃ m, k = m + 1 := ⟨k - 1, by omega⟩
    refine ⟨x, List.Perm.refl _, ?_, ?_⟩
    · rw [List.pairwise_iff_getElem]
      intro p q hp hq hpq
      have := hS p q hpq (by omega) (by omega)
      rw [List.getD_eq_getElem?_getD, List.getD_eq_getElem?_getD, List.getElem?_eq_getElem hp, List.getElem?_eq_getElem hq] at this
      exact this
    · rw [metrolabref31_Sorted.l0, if_neg (by omega)]
  | succ d ih =>
    intro i x hi hx hS k hk
    have hmul : (n + 5) * (d + 1) = (n + 5) * d + (n + 5) := Nat.mul_succ _ _
    obtain ⟨k, rfl⟩ : ∃ m, k = m + 1 := ⟨k - 1, by omega⟩
    obtain ⟨k', y, h1, h2, h3, h4⟩ := insert_l1 n i (by omega) hn i x hx (Nat.le_refl _) hS k (by omega)
    obtain ⟨z, h5, h6, h7⟩ := ih (i + 1) y (by omega) (h2.length_eq.trans hx) (fun p q hpq hq hne => h3 p q hpq (by omega) (by omega)) k' (by omega)
    refine ⟨z, h5.trans h2, h6, ?_⟩
    rw [metrolabref31_Sorted.l0, if_pos (by omega), h4, h7]
theorem rsorted_f (l : List S30) (k : Nat) (hk : 1000000 ≤ k) : metrolabref31_Sorted.f k l = some (if chk l = 0 then (sortS (nubS l), 0) else ([], chk l)) := by
  unfold metrolabref31_Sorted.f
  rw [rcheck_f l k (by omega), Option.bind_some]
  by_cases h : chk l = 0
  · obtain ⟨h64, _⟩ := chk_zero h
    have hn := nubS_len l
    rw [if_pos h, if_pos h, once_f l (by omega) k (by omega), Option.bind_some]
    obtain ⟨y, h1, h2, h3⟩ := insert_l0 (nubS l).length (by omega) (nubS l).length 0 (nubS l) (by omega) rfl (fun p q hpq hq hne => by omega) k (by
      have : ((nubS l).length + 5) * (nubS l).length ≤ 69 * 64 := Nat.mul_le_mul (by omega) (by omega)
      omega)
    rw [show ((0 : Nat) : Int) = 0 from rfl] at h3
    rw [h3, sort_unique h1 h2]
  · rw [if_neg h, if_neg h]
end Go.Proofs.Ytgfkodanekfekaa.Base

/- Plain laws on samples: each spot once, sorted spots, same spots. -/
import Derived.Test.YtgfkodanekfekaaBaseLite
import Derived.Test.YtgfkodanekfekaaWalkSorted
import Derived.Test.YtgfkodanekfekaaX24
import Derived.Test.YtgfkodanekfekaaX29
import Derived.Test.YtgfkodanekfekaaX5
namespace Go.Proofs.Ytgfkodanekfekaa.Base
open Go.RowKit Go.Proofs.Ytgfkodanekfekaa.X Go.Proofs.YtgfkodanekfekaaW.PrintWords Go.Proofs.YtgfkodanekfekaaW.PrintLast
set_option linter.unusedVariables false
theorem eqb30 (p : S30) (a b c : Int) : (p.f0 == a && (p.f1 == b && p.f2 == c)) = decide (p = ⟨a, b, c⟩) := by
  cases p; rw [Bool.eq_iff_iff]; simp [S30.mk.injEq]
theorem eqb30' (p : S30) (a b c : Int) : (a == p.f0 && (b == p.f1 && c == p.f2)) = decide (p = ⟨a, b, c⟩) := by
  cases p; rw [Bool.eq_iff_iff]; simp only [S30.mk.injEq, Bool.and_eq_true, beq_iff_eq, decide_eq_true_eq]
  exact ⟨fun h => ⟨h.1.symm, h.2.1.symm, h.2.2.symm⟩, fun h => ⟨h.1.symm, h.2.1.symm, h.2.2.symm⟩⟩
/-! is a spot in a list? -/
theorem has_l0 (l : List S30) (hl : l.length ≤ 1000000) (a b c : Int) : ∀ (d i : Nat), i + d = l.length → ∀ k, metrolabref31_Has.l0 (k + d + 1) l (i : Int) a b c = some (decide ((⟨a, b, c⟩ : S30) ∈ l.drop i)) := by
  intro d
  induction d with
  | zero =>
    intro i hi k
    simp only [metrolabref31_Has.l0]
    rw [if_neg (by omega), List.drop_of_length_le (by omega)]
    simp
  | succ d ih =>
    intro i hi k
    rw [show k + (d + 1) + 1 = (k + d + 1) + 1 by omega]
    have ih' := ih (i + 1) (by omega) k
    generalize hK : k + d + 1 = K at *
    simp only [metrolabref31_Has.l0]
    rw [if_pos (by omega), if_pos (by omega), rd30, eqb30, next_ i (by omega), ih', drop_cons_ l z30 i (by omega)]
    by_cases h : l.getD i z30 = ⟨a, b, c⟩
    · rw [if_pos (decide_eq_true h), h, decide_eq_true (List.mem_cons_self ..)]
    · rw [if_neg (by rw [decide_eq_false h]; decide)]
      congr 1
      rw [decide_eq_decide, List.mem_cons]
      exact ⟨.inr, fun h' => h'.resolve_left (fun e => h e.symm)⟩
theorem has_f (l : List S30) (hl : l.length ≤ 1000000) (a b c : Int) (k : Nat) (hk : l.length + 1 ≤ k) : metrolabref31_Has.f k l a b c = some (decide ((⟨a, b, c⟩ : S30) ∈ l)) := by
  have := has_l0 l hl a b c l.length 0 (by omega) (k - l.length - 1)
  rw [show k - l.length - 1 + l.length + 1 = k by omega] at this
  exact this
theorem index_l0 (l : List S30) (hl : l.length ≤ 1000000) (a b c : Int) : ∀ (d i : Nat), i + d = l.length → ∀ k, ∃ r, api_Spot_96.l0 (k + d + 1) l (l.length : Int) (i : Int) a b c = some r ∧ decide (r ≥ 0) = decide ((⟨a, b, c⟩ : S30) ∈ l.drop i) := by
  intro d
  induction d with
  | zero =>
    intro i hi k
    refine ⟨-1, ?_, ?_⟩
    · simp only [api_Spot_96.l0]
      rw [if_neg (by omega)]
    · rw [List.drop_of_length_le (by omega)]; simp
  | succ d ih =>
    intro i hi k
    rw [show k + (d + 1) + 1 = (k + d + 1) + 1 by omega]
    obtain ⟨r, hr, hr2⟩ := ih (i + 1) (by omega) k
    generalize hK : k + d + 1 = K at *
    simp only [api_Spot_96.l0]
    rw [if_pos (by omega), if_pos (by omega), if_pos (by omega), rd30, eqb30', next_ i (by omega), drop_cons_ l z30 i (by omega)]
    by_cases h : l.getD i z30 = ⟨a, b, c⟩
    · rw [if_pos (decide_eq_true h), h]
      exact ⟨_, rfl, by rw [decide_eq_true (List.mem_cons_self ..), decide_eq_true (by omega)]⟩
    · rw [if_neg (by rw [decide_eq_false h]; decide)]
      refine ⟨r, hr, hr2.trans ?_⟩
      rw [decide_eq_decide, List.mem_cons]
      exact ⟨.inr, fun h' => h'.resolve_left (fun e => h e.symm)⟩
theorem contains_f (l : List S30) (hl : l.length ≤ 1000000) (a b c : Int) (k : Nat) (hk : l.length + 1 ≤ k) : api_Spot_86.f k l a b c = some (decide ((⟨a, b, c⟩ : S30) ∈ l)) := by
  obtain ⟨r, hr, hr2⟩ := index_l0 l hl a b c l.length 0 (by omega) (k - l.length - 1)
  rw [show k - l.length - 1 + l.length + 1 = k by omega] at hr
  unfold api_Spot_86.f api_Spot_96.f
  rw [show ((0 : Nat) : Int) = 0 from rfl] at hr
  rw [hr, Option.bind_some, hr2]
  rfl
/-! each spot once -/
def nubA (acc : List S30) : List S30 → List S30
  | [] => acc
  | p :: l => if p ∈ acc then nubA acc l else nubA (acc ++ [p]) l
def nubS (l : List S30) : List S30 := nubA [] l
theorem nubA_len : ∀ (l acc : List S30), (nubA acc l).length ≤ acc.length + l.length
  | [], acc => by simp [nubA]
  | p :: l, acc => by
    simp only [nubA]
    split
    · have := nubA_len l acc; simp only [List.length_cons]; omega
    · have := nubA_len l (acc ++ [p]); simp only [List.length_append, List.length_cons, List.length_nil] at this ⊢; omega
theorem nubA_mem (q : S30) : ∀ (l acc : List S30), q ∈ nubA acc l ↔ q ∈ acc ∨ q ∈ l
  | [], acc => by simp [nubA]
  | p :: l, acc => by
    simp only [nubA]
    split
    · rename_i h
      rw [nubA_mem q l acc, List.mem_cons]
      constructor
      · rintro (h1 | h1)
        · exact .inl h1
        · exact .inr (.inr h1)
      · rintro (h1 | rfl | h1)
        · exact .inl h1
        · exact .inl h
        · exact .inr h1
    · rw [nubA_mem q l (acc ++ [p]), List.mem_append, List.mem_singleton, List.mem_cons, or_assoc]
theorem nubA_nodup : ∀ (l acc : List S30), acc.Nodup → (nubA acc l).Nodup
  | [], acc, h => h
  | p :: l, acc, h => by
    simp only [nubA]
    split
    · exact nubA_nodup l acc h
    · rename_i hp
      refine nubA_nodup l (acc ++ [p]) (List.nodup_append.mpr ⟨h, by simp, fun a ha b hb => ?_⟩)
      rw [List.mem_singleton] at hb
      subst hb
      exact fun e => hp (e ▸ ha)
theorem nubS_mem (q : S30) (l : List S30) : q ∈ nubS l ↔ q ∈ l := by
  unfold nubS; rw [nubA_mem]; simp
theorem nubS_nodup (l : List S30) : (nubS l).Nodup := nubA_nodup l [] (by simp)
theorem nubS_len (l : List S30) : (nubS l).length ≤ l.length := by have := nubA_len l []; unfold nubS; simpa using this
theorem unique_l0 (l : List S30) (hl : l.length ≤ 1000) : ∀ (d i : Nat) (acc : List S30), i + d = l.length → acc.length ≤ i → ∀ k, 2000 + d ≤ k → points_unique.l0 k acc l (l.length : Int) (i : Int) = some (nubA acc (l.drop i)) := by
  intro d
  induction d with
  | zero =>
    intro i acc hi ha k hk
    obtain ⟨k, rfl⟩ : ∃ m, k = m + 1 := ⟨k - 1, by omega⟩
    simp only [points_unique.l0]
    rw [if_neg (by omega), List.drop_of_length_le (by omega)]
    rfl
  | succ d ih =>
    intro i acc hi ha k hk
    obtain ⟨k, rfl⟩ : ∃ m, k = m + 1 := ⟨k - 1, by omega⟩
    simp only [points_unique.l0]
    rw [if_pos (by omega), if_pos (by omega), if_pos (by omega), rd30, contains_f acc (by omega) _ _ _ k (by omega), Option.bind_some, next_ i (by omega), drop_cons_ l z30 i (by omega), eta30]
    simp only [nubA]
    by_cases h : l.getD i z30 ∈ acc
    · rw [if_pos (decide_eq_true h), if_pos h, ih (i + 1) acc (by omega) (by omega) k (by omega)]
    · rw [if_neg (by rw [decide_eq_false h]; decide), if_neg h, if_pos (by omega), ih (i + 1) (acc ++ [l.getD i z30]) (by omega) (by simp; omega) k (by omega)]
theorem unique_f (l : List S30) (hl : l.length ≤ 1000) (k : Nat) (hk : 4000 ≤ k) : points_unique.f k l = some (nubS l) := by
  have := unique_l0 l hl l.length 0 [] (by omega) (by simp) k (by omega)
  exact this
theorem once_l0 (l : List S30) (hl : l.length ≤ 1000) : ∀ (d i : Nat) (acc : List S30), i + d = l.length → acc.length ≤ i → ∀ k, 2000 + d ≤ k → metrolabref31_Once.l0 k l acc (i : Int) = some (nubA acc (l.drop i)) := by
  intro d
  induction d with
  | zero =>
    intro i acc hi ha k hk
    obtain ⟨k, rfl⟩ : ∃ m, k = m + 1 := ⟨k - 1, by omega⟩
    simp only [metrolabref31_Once.l0]
    rw [if_neg (by omega), List.drop_of_length_le (by omega)]
    rfl
  | succ d ih =>
    intro i acc hi ha k hk
    obtain ⟨k, rfl⟩ : ∃ m, k = m + 1 := ⟨k - 1, by omega⟩
    simp only [metrolabref31_Once.l0]
    rw [if_pos (by omega), if_pos (by omega), rd30, has_f acc (by omega) _ _ _ k (by omega), Option.bind_some, next_ i (by omega), drop_cons_ l z30 i (by omega), eta30]
    simp only [nubA]
    by_cases h : l.getD i z30 ∈ acc
    · rw [if_pos (decide_eq_true h), if_pos h, ih (i + 1) acc (by omega) (by omega) k (by omega)]
    · rw [if_neg (by rw [decide_eq_false h]; decide), if_neg h, if_pos (by omega), ih (i + 1) (acc ++ [l.getD i z30]) (by omega) (by simp; omega) k (by omega)]
theorem once_f (l : List S30) (hl : l.length ≤ 1000) (k : Nat) (hk : 4000 ≤ k) : metrolabref31_Once.f k l = some (nubS l) := by
  have := once_l0 l hl l.length 0 [] (by omega) (by simp) k (by omega)
  exact this
/-! sorted spots -/
theorem befS_trans {a b c : S30} (h1 : ¬ befS b a) (h2 : ¬ befS c b) : ¬ befS c a := by unfold befS at *; omega
theorem befS_asymm {a b : S30} (h : befS a b) : ¬ befS b a := by unfold befS at *; omega
theorem befS_total (a b : S30) : ¬ befS a b ∨ ¬ befS b a := by unfold befS; omega
theorem befS_anti {a b : S30} (h1 : ¬ befS a b) (h2 : ¬ befS b a) : a = b := cmp_total a b (by rw [cmp_lt]; exact decide_eq_false h1) (by rw [cmp_lt]; exact decide_eq_false h2)
theorem sortS_perm (u : List S30) : (sortS u).Perm u := List.mergeSort_perm _ _
theorem sortS_pair (u : List S30) : (sortS u).Pairwise (fun a b => ¬ befS b a) := by
  have := List.pairwise_mergeSort (le := fun x y => !(ltOf cmpS) y x) (fun a b c h1 h2 => by
    simp only [cmp_lt, Bool.not_eq_true', decide_eq_false_iff_not] at *
    exact befS_trans h1 h2) (fun a b => by
    simp only [cmp_lt, Bool.or_eq_true, Bool.not_eq_true', decide_eq_false_iff_not]
    exact (befS_total b a)) u
  unfold sortS
  refine this.imp (fun {a b} h => ?_)
  simpa only [cmp_lt, Bool.not_eq_true', decide_eq_false_iff_not] using h
theorem sort_unique {x u : List S30} (hp : x.Perm u) (hs : x.Pairwise (fun a b => ¬ befS b a)) : x = sortS u :=
  List.Perm.eq_of_pairwise (le := fun a b => ¬ befS b a) (fun a b _ _ h1 h2 => befS_anti h2 h1) hs (sortS_pair u) (hp.trans (sortS_perm u).symm)
theorem punique_f (l : List S30) (k : Nat) (hk : 4000 ≤ k) : points_Unique.f k l = some (if chk l = 0 then (nubS l, 0) else ([], chk l)) := by
  unfold points_Unique.f
  rw [vcheck_f, Option.bind_some]
  by_cases h : chk l = 0
  · obtain ⟨h64, _⟩ := chk_zero h
    rw [if_pos h, if_pos h, unique_f l (by omega) k hk, Option.bind_some]
  · rw [if_neg h, if_neg h]
theorem runique_f (l : List S30) (k : Nat) (hk : 4000 ≤ k) : metrolabref31_Unique.f k l = some (if chk l = 0 then (nubS l, 0) else ([], chk l)) := by
  unfold metrolabref31_Unique.f
  rw [rcheck_f l k (by omega), Option.bind_some]
  by_cases h : chk l = 0
  · obtain ⟨h64, _⟩ := chk_zero h
    rw [if_pos h, if_pos h, once_f l (by omega) k hk, Option.bind_some]
  · rw [if_neg h, if_neg h]
/-! the same spots -/
theorem alike_l1 (a b : List S30) (ha : a.length ≤ 1000) (hb : b.length ≤ 1000) : ∀ (d i : Nat), i + d = b.length → ∀ k, 2000 + d ≤ k → metrolabref31_Alike.l1 k a b (i : Int) = some (decide (∀ p ∈ b.drop i, p ∈ a)) := by
  intro d
  induction d with
  | zero =>
    intro i hi k hk
    obtain ⟨k, rfl⟩ : ∃ m, k = m + 1 := ⟨k - 1, by omega⟩
    simp only [metrolabref31_Alike.l1]
    rw [if_neg (by omega), List.drop_of_length_le (by omega)]
    simp
  | succ d ih =>
    intro i hi k hk
    obtain ⟨k, rfl⟩ : ∃ m, k = m + 1 := ⟨k - 1, by omega⟩
    simp only [metrolabref31_Alike.l1]
    rw [if_pos (by omega), if_pos (by omega), rd30, has_f a (by omega) _ _ _ k (by omega), Option.bind_some, next_ i (by omega), ih (i + 1) (by omega) k (by omega), drop_cons_ b z30 i (by omega), eta30]
    by_cases h : b.getD i z30 ∈ a
    · rw [if_pos (decide_eq_true h)]
      congr 1
      exact decide_eq_decide.mpr ⟨fun hh => List.forall_mem_cons.mpr ⟨h, hh⟩, fun hh => (List.forall_mem_cons.mp hh).2⟩
    · rw [if_neg (by rw [decide_eq_false h]; decide)]
      congr 1
      exact (decide_eq_false (fun hh => h (hh _ (List.mem_cons_self ..)))).symm
theorem alike_l0 (a b : List S30) (ha : a.length ≤ 1000) (hb : b.length ≤ 1000) : ∀ (d i : Nat), i + d = a.length → ∀ k, 4000 + d ≤ k → metrolabref31_Alike.l0 k a b (i : Int) = some (decide ((∀ p ∈ a.drop i, p ∈ b) ∧ ∀ p ∈ b, p ∈ a)) := by
  intro d
  induction d with
  | zero =>
    intro i hi k hk
    obtain ⟨k, rfl⟩ : ∃ m, k = m + 1 := ⟨k - 1, by omega⟩
    have h1 := alike_l1 a b ha hb b.length 0 (by omega) k (by omega)
    rw [show ((0 : Nat) : Int) = 0 from rfl] at h1
    simp only [metrolabref31_Alike.l0]
    rw [if_neg (by omega), List.drop_of_length_le (by omega), h1, List.drop_zero]
    simp
  | succ d ih =>
    intro i hi k hk
    obtain ⟨k, rfl⟩ : ∃ m, k = m + 1 := ⟨k - 1, by omega⟩
    simp only [metrolabref31_Alike.l0]
    rw [if_pos (by omega), if_pos (by omega), rd30, has_f b (by omega) _ _ _ k (by omega), Option.bind_some, next_ i (by omega), ih (i + 1) (by omega) k (by omega), drop_cons_ a z30 i (by omega), eta30]
    by_cases h : a.getD i z30 ∈ b
    · rw [if_pos (decide_eq_true h)]
      congr 1
      exact decide_eq_decide.mpr ⟨fun hh => ⟨List.forall_mem_cons.mpr ⟨h, hh.1⟩, hh.2⟩, fun hh => ⟨(List.forall_mem_cons.mp hh.1).2, hh.2⟩⟩
    · rw [if_neg (by rw [decide_eq_false h]; decide)]
      congr 1
      exact (decide_eq_false (fun hh => h (hh.1 _ (List.mem_cons_self ..)))).symm
theorem alike_f (a b : List S30) (ha : a.length ≤ 1000) (hb : b.length ≤ 1000) (k : Nat) (hk : 6000 ≤ k) : metrolabref31_Alike.f k a b = some (decide ((∀ p ∈ a, p ∈ b) ∧ ∀ p ∈ b, p ∈ a)) := by
  have := alike_l0 a b ha hb a.length 0 (by omega) k (by omega)
  exact this
theorem same_iff (a b : List S30) : sortS (nubS a) = sortS (nubS b) ↔ ((∀ p ∈ a, p ∈ b) ∧ ∀ p ∈ b, p ∈ a) := by
  constructor
  · intro h
    have h1 : (nubS a).Perm (nubS b) := (sortS_perm _).symm.trans (h ▸ sortS_perm _)
    exact ⟨fun p hp => (nubS_mem p b).mp (h1.mem_iff.mp ((nubS_mem p a).mpr hp)), fun p hp => (nubS_mem p a).mp (h1.mem_iff.mpr ((nubS_mem p b).mpr hp))⟩
  · rintro ⟨h1, h2⟩
    have hp : (nubS a).Perm (nubS b) := (List.perm_ext_iff_of_nodup (nubS_nodup a) (nubS_nodup b)).mpr fun p => by
      rw [nubS_mem, nubS_mem]; exact ⟨h1 p, h2 p⟩
    exact sort_unique ((sortS_perm _).trans hp) (sortS_pair _)
/-- what Same returns -/
def sameR (a b : List S30) : Bool × Int := if chk a = 0 then (if chk b = 0 then (decide (sortS (nubS a) = sortS (nubS b)), 0) else (false, chk b)) else (false, chk a)
theorem rsame_f (a b : List S30) (k : Nat) (hk : 6000 ≤ k) : metrolabref31_Same.f k a b = some (sameR a b) := by
  unfold metrolabref31_Same.f sameR
  rw [rcheck_f a k (by omega), Option.bind_some]
  by_cases h : chk a = 0
  · rw [if_pos h, if_pos h, rcheck_f b k (by omega), Option.bind_some]
    by_cases h2 : chk b = 0
    · rw [if_pos h2, if_pos h2, alike_f a b (by have := (chk_zero h).1; omega) (by have := (chk_zero h2).1; omega) k hk, Option.bind_some]
      congr 2
      exact decide_eq_decide.mpr (same_iff a b).symm
    · rw [if_neg h2, if_neg h2]
  · rw [if_neg h, if_neg h]
end Go.Proofs.Ytgfkodanekfekaa.Base

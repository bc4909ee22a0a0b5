/- Plain laws for PointsSort: what is sorted has the same spots, ascends, and has the same box; what is lifted is flattened back. -/
import Derived.Test.YtgfkodanekfekaaBaseOnce
import Derived.Test.YtgfkodanekfekaaWalkLift
import Derived.Test.YtgfkodanekfekaaX4
import Derived.Test.YtgfkodanekfekaaX5
import Derived.Test.YtgfkodanekfekaaX4
import Derived.Test.YtgfkodanekfekaaX3
import Derived.Test.YtgfkodanekfekaaX15
namespace Go.Proofs.Ytgfkodanekfekaa.Base
open Go.RowKit Go.Proofs.Ytgfkodanekfekaa.X Go.Proofs.YtgfkodanekfekaaW.PrintWords Go.Proofs.YtgfkodanekfekaaW.PrintLast
set_option linter.unusedVariables false
theorem before_f2 (p q : S30) : metrolabref31_Before.f p.f0 p.f1 p.f2 q.f0 q.f1 q.f2 = some (decide (befS p q)) := by
  unfold metrolabref31_Before.f
  by_cases h0 : p.f0 = q.f0
  · rw [if_pos h0]
    by_cases h1 : p.f1 = q.f1
    · rw [if_pos h1]; congr 1; exact decide_eq_decide.mpr (by unfold befS; omega)
    · rw [if_neg h1]; congr 1; exact decide_eq_decide.mpr (by unfold befS; omega)
  · rw [if_neg h0]; congr 1; exact decide_eq_decide.mpr (by unfold befS; omega)
def srtL (l : List S30) : List S30 := sortS (nubS l)
theorem srtL_mem (q : S30) (l : List S30) : q ∈ srtL l ↔ q ∈ l := by
  unfold srtL; rw [(sortS_perm _).mem_iff, nubS_mem]
theorem srtL_len (l : List S30) : (srtL l).length = (nubS l).length := (sortS_perm _).length_eq
theorem chk_of {l m : List S30} (h : chk l = 0) (hlen : m.length ≤ l.length) (hm : ∀ q ∈ m, q ∈ l) : chk m = 0 := by
  obtain ⟨h1, h2⟩ := chk_zero h
  exact chk_iff.mpr ⟨by omega, fun q hq => h2 q (hm q hq)⟩
theorem srtL_chk {l : List S30} (h : chk l = 0) : chk (srtL l) = 0 := chk_of h (by rw [srtL_len]; exact nubS_len l) (fun q hq => (srtL_mem q l).mp hq)
theorem nubS_chk {l : List S30} (h : chk l = 0) : chk (nubS l) = 0 := chk_of h (nubS_len l) (fun q hq => (nubS_mem q l).mp hq)
theorem same_srt {l : List S30} (h : chk l = 0) : sameR (srtL l) l = (true, 0) := by
  unfold sameR
  rw [if_pos (srtL_chk h), if_pos h, decide_eq_true ((same_iff _ _).mpr ⟨fun p hp => (srtL_mem p l).mp hp, fun p hp => (srtL_mem p l).mpr hp⟩)]
theorem same_nub {l : List S30} (h : chk l = 0) : sameR (nubS l) l = (true, 0) := by
  unfold sameR
  rw [if_pos (nubS_chk h), if_pos h, decide_eq_true ((same_iff _ _).mpr ⟨fun p hp => (nubS_mem p l).mp hp, fun p hp => (nubS_mem p l).mpr hp⟩)]
theorem srtL_before (l : List S30) (j : Nat) (hj : j + 1 < (srtL l).length) : befS (rd_T30 (srtL l) (j : Nat)) (rd_T30 (srtL l) ((j + 1 : Nat) : Int)) := by
  have hs := List.pairwise_iff_getElem.mp (sortS_pair (nubS l)) j (j + 1) (by unfold srtL at hj; omega) hj (by omega)
  have hn : (srtL l).Nodup := (sortS_perm _).nodup_iff.mpr (nubS_nodup l)
  have hd := List.pairwise_iff_getElem.mp hn j (j + 1) (by omega) hj (by omega)
  rw [rd30, rd30, List.getD_eq_getElem?_getD, List.getD_eq_getElem?_getD, List.getElem?_eq_getElem (by omega), List.getElem?_eq_getElem hj]
  show befS (srtL l)[j] (srtL l)[j + 1]
  by_cases h : befS (srtL l)[j] (srtL l)[j + 1]
  · exact h
  · exact absurd (befS_anti h hs) hd
theorem rbefore_f (p q : S30) (h : befS p q) : metrolabref31_Before.f p.f0 p.f1 p.f2 q.f0 q.f1 q.f2 = some true := by
  rw [before_f2, decide_eq_true h]
/-! flattened and lifted -/
theorem along_zero {l : List S30} {a : Int} (h : chk l = 0) (h0 : 0 ≤ a) (h2 : a ≤ 2) : points_along.f l a = some 0 := by
  unfold points_along.f points_axes.f
  rw [vcheck_f, h, Option.bind_some, if_pos rfl, if_neg (by omega), if_neg (by omega)]
  rfl
def flatL (a : Int) (l : List S30) : List S46 := l.map fun p => ⟨(flatV a (p.f0, p.f1, p.f2)).1, (flatV a (p.f0, p.f1, p.f2)).2⟩
theorem flatL_len (a : Int) (l : List S30) : (flatL a l).length = l.length := by unfold flatL; exact List.length_map _
theorem flatten_good {l : List S30} {a : Int} (h : chk l = 0) (h0 : 0 ≤ a) (h2 : a ≤ 2) : points_Flatten.f l a = some (flatL a l, 0) := by
  unfold points_Flatten.f
  rw [along_zero h h0 h2, Option.bind_some, if_pos rfl]
  rfl
theorem okp_iff (p : S46) : okPoint p = true ↔ (-100000 ≤ p.f0 ∧ p.f0 ≤ 100000) ∧ -100000 ≤ p.f1 ∧ p.f1 ≤ 100000 := by
  unfold okPoint inRangePoint
  simp [Bool.and_eq_true]
theorem chkP_of {l : List S46} (h : l.length ≤ 64) (hok : ∀ p ∈ l, okPoint p = true) : chkP l = 0 := by
  unfold chkP allPoint
  rw [if_neg (by omega), if_pos (List.all_eq_true.mpr hok)]
theorem flat_chk {l : List S30} {a : Int} (h : chk l = 0) : chkP (flatL a l) = 0 := by
  obtain ⟨h1, h2⟩ := chk_zero h
  refine chkP_of (by rw [flatL_len]; exact h1) (fun p hp => ?_)
  unfold flatL at hp
  obtain ⟨q, hq, rfl⟩ := List.mem_map.mp hp
  have hk := (ok_iff q).mp (h2 q hq)
  rw [okp_iff]
  unfold flatV
  split
  · simp only; omega
  · split
    · simp only; omega
    · simp only; omega
theorem lift_chk {m : List S46} {axis a : Int} (h : chkP m = 0) (ha1 : -100000 ≤ a) (ha2 : a ≤ 100000) : chk (liftL axis a m) = 0 := by
  have hm : m.length ≤ 64 ∧ ∀ p ∈ m, okPoint p = true := by
    unfold chkP allPoint at h
    split at h
    · omega
    · split at h
      · rename_i h1 h2; exact ⟨by omega, List.all_eq_true.mp h2⟩
      · omega
  refine chk_iff.mpr ⟨by rw [liftL_len]; exact hm.1, fun q hq => ?_⟩
  unfold liftL at hq
  obtain ⟨p, hp, rfl⟩ := List.mem_map.mp hq
  have hk := (okp_iff p).mp (hm.2 p hp)
  rw [ok_iff]
  unfold liftV
  split
  · simp only; omega
  · split
    · simp only; omega
    · simp only; omega
theorem flat_lift (m : List S46) (axis a : Int) : flatL axis (liftL axis a m) = m := by
  unfold flatL liftL
  rw [List.map_map]
  refine (List.map_congr_left (g := id) (fun p hp => ?_)).trans (List.map_id m)
  simp only [Function.comp, id]
  unfold flatV liftV
  by_cases h0 : axis = 0
  · simp only [if_pos h0]
  · by_cases h1 : axis = 1
    · simp only [if_neg h0, if_pos h1]
    · simp only [if_neg h0, if_neg h1]
theorem lift_good_f {m : List S46} {axis a : Int} (h : chkP m = 0) (h0 : 0 ≤ axis) (h2 : axis ≤ 2) (ha1 : -100000 ≤ a) (ha2 : a ≤ 100000) : liftR m axis a = (liftL axis a m, 0) := by
  unfold liftR
  rw [if_pos h, if_pos ⟨h0, h2⟩, if_neg (by omega)]
/-! boxes -/
theorem mn_eq (a b : Int) : mn a b = if a ≤ b then a else b := by unfold mn; split <;> split <;> omega
theorem mx_eq (a b : Int) : mx a b = if a ≤ b then b else a := by unfold mx; split <;> split <;> omega
theorem minC_spec (c : S30 → Int) : ∀ (l : List S30) (x : Int), let r := l.foldl (fun m p => mn m (c p)) x; r ≤ x ∧ (∀ p ∈ l, r ≤ c p) ∧ (r = x ∨ ∃ p ∈ l, r = c p)
  | [], x => ⟨Int.le_refl _, fun p hp => by simp at hp, .inl rfl⟩
  | q :: l, x => by
    obtain ⟨h1, h2, h3⟩ := minC_spec c l (mn x (c q))
    have hm := mn_eq x (c q)
    refine ⟨?_, fun p hp => ?_, ?_⟩
    · simp only [List.foldl_cons]; split at hm <;> omega
    · simp only [List.foldl_cons]
      rcases List.mem_cons.mp hp with rfl | hp
      · split at hm <;> omega
      · exact h2 p hp
    · simp only [List.foldl_cons]
      rcases h3 with h3 | ⟨p, hp, h3⟩
      · rw [h3, hm]
        split
        · exact .inl rfl
        · exact .inr ⟨q, List.mem_cons_self .., rfl⟩
      · exact .inr ⟨p, List.mem_cons_of_mem _ hp, h3⟩
theorem maxC_spec (c : S30 → Int) : ∀ (l : List S30) (x : Int), let r := l.foldl (fun m p => mx m (c p)) x; x ≤ r ∧ (∀ p ∈ l, c p ≤ r) ∧ (r = x ∨ ∃ p ∈ l, r = c p)
  | [], x => ⟨Int.le_refl _, fun p hp => by simp at hp, .inl rfl⟩
  | q :: l, x => by
    obtain ⟨h1, h2, h3⟩ := maxC_spec c l (mx x (c q))
    have hm := mx_eq x (c q)
    refine ⟨?_, fun p hp => ?_, ?_⟩
    · simp only [List.foldl_cons]; split at hm <;> omega
    · simp only [List.foldl_cons]
      rcases List.mem_cons.mp hp with rfl | hp
      · split at hm <;> omega
      · exact h2 p hp
    · simp only [List.foldl_cons]
      rcases h3 with h3 | ⟨p, hp, h3⟩
      · rw [h3, hm]
        split
        · exact .inr ⟨q, List.mem_cons_self .., rfl⟩
        · exact .inl rfl
      · exact .inr ⟨p, List.mem_cons_of_mem _ hp, h3⟩
theorem lowF_eq : ∀ (l : List S30) (a : Int × Int × Int), lowF a l = (l.foldl (fun m p => mn m p.f0) a.1, l.foldl (fun m p => mn m p.f1) a.2.1, l.foldl (fun m p => mn m p.f2) a.2.2)
  | [], a => rfl
  | p :: l, a => by
    have := lowF_eq l (lowT a (t3 p))
    unfold lowF at this ⊢
    simp only [List.foldl_cons]
    exact this
theorem highF_eq : ∀ (l : List S30) (a : Int × Int × Int), highF a l = (l.foldl (fun m p => mx m p.f0) a.1, l.foldl (fun m p => mx m p.f1) a.2.1, l.foldl (fun m p => mx m p.f2) a.2.2)
  | [], a => rfl
  | p :: l, a => by
    have := highF_eq l (highT a (t3 p))
    unfold highF at this ⊢
    simp only [List.foldl_cons]
    exact this
theorem minC_same (c : S30 → Int) {l m : List S30} (h : ∀ q, q ∈ l ↔ q ∈ m) {p q : S30} (hp : p ∈ l) (hq : q ∈ m) : l.foldl (fun m p => mn m (c p)) (c p) = m.foldl (fun m p => mn m (c p)) (c q) := by
  obtain ⟨a1, a2, a3⟩ := minC_spec c l (c p)
  obtain ⟨b1, b2, b3⟩ := minC_spec c m (c q)
  have ha : ∃ r ∈ l, l.foldl (fun m p => mn m (c p)) (c p) = c r := by rcases a3 with a3 | a3; exact ⟨p, hp, a3⟩; exact a3
  have hb : ∃ r ∈ m, m.foldl (fun m p => mn m (c p)) (c q) = c r := by rcases b3 with b3 | b3; exact ⟨q, hq, b3⟩; exact b3
  obtain ⟨r, hr, er⟩ := ha
  obtain ⟨s, hs, es⟩ := hb
  have h1 := b2 r ((h r).mp hr)
  have h2 := a2 s ((h s).mpr hs)
  omega
theorem maxC_same (c : S30 → Int) {l m : List S30} (h : ∀ q, q ∈ l ↔ q ∈ m) {p q : S30} (hp : p ∈ l) (hq : q ∈ m) : l.foldl (fun m p => mx m (c p)) (c p) = m.foldl (fun m p => mx m (c p)) (c q) := by
  obtain ⟨a1, a2, a3⟩ := maxC_spec c l (c p)
  obtain ⟨b1, b2, b3⟩ := maxC_spec c m (c q)
  have ha : ∃ r ∈ l, l.foldl (fun m p => mx m (c p)) (c p) = c r := by rcases a3 with a3 | a3; exact ⟨p, hp, a3⟩; exact a3
  have hb : ∃ r ∈ m, m.foldl (fun m p => mx m (c p)) (c q) = c r := by rcases b3 with b3 | b3; exact ⟨q, hq, b3⟩; exact b3
  obtain ⟨r, hr, er⟩ := ha
  obtain ⟨s, hs, es⟩ := hb
  have h1 := b2 r ((h r).mp hr)
  have h2 := a2 s ((h s).mpr hs)
  omega
theorem box_good {l : List S30} (h : chk l = 0) (hl : 0 < l.length) : points_Box.f l = some ((lowF (t3 (rd_T30 l 0)) l).1, (lowF (t3 (rd_T30 l 0)) l).2.1, (lowF (t3 (rd_T30 l 0)) l).2.2, (highF (t3 (rd_T30 l 0)) l).1, (highF (t3 (rd_T30 l 0)) l).2.1, (highF (t3 (rd_T30 l 0)) l).2.2, 0) := by
  unfold points_Box.f
  rw [vcheck_f, h, Option.bind_some, if_pos rfl, if_neg (by omega)]
theorem box_srt {l : List S30} (h : chk l = 0) (hl : 0 < l.length) : points_Box.f (srtL l) = points_Box.f l := by
  have hp : rd_T30 l ((0 : Nat) : Int) ∈ l := by rw [rd30]; exact mem_getD l z30 0 hl
  have hsl : 0 < (srtL l).length := List.length_pos_of_mem ((srtL_mem _ l).mpr hp)
  have hq : rd_T30 (srtL l) ((0 : Nat) : Int) ∈ srtL l := by rw [rd30]; exact mem_getD _ z30 0 hsl
  have hs : ∀ q, q ∈ srtL l ↔ q ∈ l := fun q => srtL_mem q l
  rw [box_good (srtL_chk h) hsl, box_good h hl, lowF_eq, lowF_eq, highF_eq, highF_eq]
  simp only [t3]
  rw [show rd_T30 l 0 = rd_T30 l ((0 : Nat) : Int) from rfl, show rd_T30 (srtL l) 0 = rd_T30 (srtL l) ((0 : Nat) : Int) from rfl]
  rw [minC_same (fun p => p.f0) hs hq hp, minC_same (fun p => p.f1) hs hq hp, minC_same (fun p => p.f2) hs hq hp, maxC_same (fun p => p.f0) hs hq hp, maxC_same (fun p => p.f1) hs hq hp, maxC_same (fun p => p.f2) hs hq hp]
/-! equality of points -/
theorem rd46 (l : List S46) (i : Nat) : rd_T46 l (i : Int) = l.getD i z46 := by unfold rd_T46; rw [Int.toNat_natCast]
instance dec46 : DecidableEq S46 := fun a b => decidable_of_iff (a.f0 = b.f0 ∧ a.f1 = b.f1) (by cases a; cases b; simp)
theorem ext46 (a b : S46) : (!(a.f0 == b.f0) || !(a.f1 == b.f1)) = true ↔ a ≠ b := by
  cases a; cases b
  simp [S46.mk.injEq]
  grind
theorem eq46_l0 (l m : List S46) (hl : l.length ≤ 1000000) (hm : l.length = m.length) : ∀ (d i : Nat), i + d = l.length → ∀ k, api_Point_24.l0 (k + d + 1) l m (l.length : Int) (i : Int) = some (decide (l.drop i = m.drop i)) := by
  intro d
  induction d with
  | zero =>
    intro i hi k
    simp only [api_Point_24.l0]
    rw [if_neg (by omega), List.drop_of_length_le (by omega), List.drop_of_length_le (by omega)]
    rfl
  | succ d ih =>
    intro i hi k
    rw [show k + (d + 1) + 1 = (k + d + 1) + 1 by omega]
    have ih' := ih (i + 1) (by omega) k
    generalize hK : k + d + 1 = K at *
    simp only [api_Point_24.l0]
    rw [if_pos (by omega), if_pos (by omega), if_pos (by omega), if_pos (by omega), rd46, rd46, next_ i (by omega), drop_cons_ l z46 i (by omega), drop_cons_ m z46 i (by omega)]
    by_cases he : l.getD i z46 = m.getD i z46
    · rw [if_neg (fun h => (ext46 _ _).mp h he), ih']
      congr 1
      simp only [he, List.cons.injEq, true_and]
    · rw [if_pos ((ext46 _ _).mpr he)]
      congr 1
      simp only [he, List.cons.injEq, false_and, decide_false]
theorem eq46_f (l m : List S46) (hl : l.length ≤ 1000000) (k : Nat) (hk : l.length + 1 ≤ k) : api_Point_24.f k l m = some (decide (l = m)) := by
  unfold api_Point_24.f
  by_cases h : l.length = m.length
  · rw [if_pos (by omega)]
    have := eq46_l0 l m hl h l.length 0 (by omega) (k - l.length - 1)
    rw [show k - l.length - 1 + l.length + 1 = k by omega] at this
    simpa using this
  · rw [if_neg (by omega), decide_eq_false (fun e => h (by rw [e]))]

end Go.Proofs.Ytgfkodanekfekaa.Base

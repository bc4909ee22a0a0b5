/- Plain laws on sections: what the loops over points and sections compute. -/
import Derived.Test.YtkpojbglckmddaaNear
import Derived.Test.YtkpojbglckmddaaX6
namespace Go.Proofs.Ytkpojbglckmddaa.Base
open Go.RowKit Go.Proofs.Ytkpojbglckmddaa.X Go.Proofs.YtkpojbglckmddaaW.PrintWords Go.Proofs.Ytkpojbglckmddaa.Near

theorem next_ (i : Nat) (h : i < 4611686018427387904) : wrap64 ((i : Int) + 1) = ((i + 1 : Nat) : Int) := by unfold wrap64; omega
theorem drop_cons_ {α : Type} (l : List α) (z : α) (i : Nat) (h : i < l.length) : l.drop i = l.getD i z :: l.drop (i + 1) := by
  rw [List.drop_eq_getElem_cons h, List.getD_eq_getElem?_getD, List.getElem?_eq_getElem h]; rfl
theorem rd25 (l : List S25) (i : Nat) : rd_T25 l (i : Int) = l.getD i z25 := by unfold rd_T25; rw [Int.toNat_natCast]
theorem rd62 (l : List S62) (i : Nat) : rd_T62 l (i : Int) = l.getD i z62 := by unfold rd_T62; rw [Int.toNat_natCast]
theorem rd70 (l : List S70) (i : Nat) : rd_T70 l (i : Int) = l.getD i z70 := by unfold rd_T70; rw [Int.toNat_natCast]
theorem rdL2 (l : List (List S25)) (i : Nat) : rd_L2 l (i : Int) = l.getD i [] := by unfold rd_L2; rw [Int.toNat_natCast]
theorem mem_getD {α : Type} (l : List α) (z : α) (i : Nat) (h : i < l.length) : l.getD i z ∈ l := by
  rw [List.getD_eq_getElem?_getD, List.getElem?_eq_getElem h]; exact List.getElem_mem _

/-! own -/
def g70 (x : S62) : S70 := ⟨x.f0, x.f1⟩
theorem own_l0 (l : List S62) (hl : l.length ≤ 4398046511103) : ∀ (d i : Nat) (acc : List S70), i + d = l.length → acc.length = i → ∀ k, metrolablaw38_own.l0 (k + d + 1) acc l (l.length : Int) (i : Int) = some (acc ++ (l.drop i).map g70) := by
  intro d
  induction d with
  | zero =>
    intro i acc hi ha k
    simp only [metrolablaw38_own.l0]
    rw [if_neg (by omega), List.drop_of_length_le (by omega)]
    simp
  | succ d ih =>
    intro i acc hi ha k
    have e : k + (d + 1) + 1 = (k + d + 1) + 1 := by omega
    rw [e]
    generalize hK : (k + d + 1) = K
    simp only [metrolablaw38_own.l0]
    subst hK
    rw [if_pos (by omega), if_pos (by omega), if_pos (by omega), if_pos (by omega), next_ i (by omega), rd62, ih (i + 1) _ (by omega) (by simp [ha]) k, drop_cons_ l z62 i (by omega)]
    simp [g70]
theorem own_f (l : List S62) (hl : l.length ≤ 4398046511103) (k : Nat) : metrolablaw38_own.f (k + l.length + 1) l = some (l.map g70) := by
  unfold metrolablaw38_own.f
  have := own_l0 l hl l.length 0 [] (by omega) rfl k
  simpa using this

/-! Few -/
def few (l : List S25) : Bool := decide (l.length ≤ 8) || (decide (64 < l.length) && decide (l.length < 128))
theorem few_f (l : List S25) : metrolabref07_Few.f l = some (few l) := by
  unfold metrolabref07_Few.f few
  by_cases h1 : l.length ≤ 8
  · rw [if_pos (by omega), decide_eq_true h1]; rfl
  · rw [if_neg (by omega), decide_eq_false h1]
    by_cases h2 : 64 < l.length
    · rw [if_pos (by omega), decide_eq_true h2]
      by_cases h3 : l.length < 128
      · rw [decide_eq_true h3, decide_eq_true (by omega)]; rfl
      · rw [decide_eq_false h3, decide_eq_false (by omega)]; rfl
    · rw [if_neg (by omega), decide_eq_false h2]; rfl
def fewS (l : List S62) : Bool := !((decide (5 < l.length) && decide (l.length ≤ 32)) || decide (64 < l.length)) && l.all (fun x => few x.f1)
theorem fewS_l0 (l : List S70) (hl : l.length ≤ 4398046511103) : ∀ (d i : Nat), i + d = l.length → ∀ k, metrolabref38_Few.l0 (k + d + 1) l (i : Int) = some ((l.drop i).all (fun x => few x.f1)) := by
  intro d
  induction d with
  | zero =>
    intro i hi k
    simp only [metrolabref38_Few.l0]
    rw [if_neg (by omega), List.drop_of_length_le (by omega)]
    rfl
  | succ d ih =>
    intro i hi k
    have e : k + (d + 1) + 1 = (k + d + 1) + 1 := by omega
    rw [e]
    generalize hK : (k + d + 1) = K
    simp only [metrolabref38_Few.l0]
    subst hK
    rw [if_pos (by omega), if_pos (by omega), few_f, next_ i (by omega), ih (i + 1) (by omega) k, drop_cons_ l z70 i (by omega), rd70]
    simp only [Option.bind_some, List.all_cons]
    cases few (l.getD i z70).f1 <;> simp
theorem fewS_f (l : List S62) (hl : l.length ≤ 4398046511103) (k : Nat) : metrolabref38_Few.f (k + l.length + 2) (l.map g70) = some (fewS l) := by
  unfold metrolabref38_Few.f fewS
  have hj : ∀ b, metrolabref38_Few.j0 (k + l.length + 2) (l.map g70) b = if b = true then some false else some ((l.map g70).all (fun x => few x.f1)) := fun b => by
    have := fewS_l0 (l.map g70) (by simpa using hl) l.length 0 (by simp) k
    simp only [metrolabref38_Few.j0]
    rw [show ((0 : Nat) : Int) = 0 from rfl] at this
    rw [this]
    rfl
  rw [hj, hj]
  have hall : (l.map g70).all (fun x => few x.f1) = l.all (fun x => few x.f1) := by rw [List.all_map]; rfl
  rw [hall]
  simp only [List.length_map]
  by_cases h1 : 5 < l.length
  · rw [if_pos (by omega), decide_eq_true h1]
    by_cases h2 : l.length ≤ 32
    · rw [if_pos (by omega), decide_eq_true h2]; rfl
    · rw [if_neg (by omega), decide_eq_false h2]
      by_cases h3 : 64 < l.length
      · rw [decide_eq_true h3, decide_eq_true (by omega)]; rfl
      · rw [decide_eq_false h3, decide_eq_false (by omega)]; rfl
  · rw [if_neg (by omega), decide_eq_false h1]
    by_cases h3 : 64 < l.length
    · omega
    · rw [decide_eq_false h3, decide_eq_false (by omega)]; rfl

/-! points' checks -/
def chk (l : List S25) : Int := if l.length > 64 then 5 else allPoint l
theorem vcheck_f (l : List S25) : vector_Check.f l = some (chk l) := rfl
theorem right_eq (x y : Int) : metrolabref07_Right.f x y = some (okPoint ⟨x, y⟩) := by
  unfold metrolabref07_Right.f metrolabref07_in.f okPoint inRangePoint
  grind
theorem rright_eq (x y : Int) : runout_right.f x y = some (okPoint ⟨x, y⟩) := by
  unfold runout_right.f
  rw [vcheck_f]
  simp only [Option.bind_some, chk, allPoint, List.all_cons, List.all_nil, List.length_cons, List.length_nil, Bool.and_true]
  cases okPoint ⟨x, y⟩ <;> rfl
theorem rcheck_l0 (l : List S25) (hl : l.length ≤ 4398046511103) : ∀ (d i : Nat), i + d = l.length → ∀ k, metrolabref07_Check.l0 (k + d + 1) l (i : Int) = some (allPoint (l.drop i)) := by
  intro d
  induction d with
  | zero =>
    intro i hi k
    simp only [metrolabref07_Check.l0]
    rw [if_neg (by omega), List.drop_of_length_le (by omega)]
    rfl
  | succ d ih =>
    intro i hi k
    have e : k + (d + 1) + 1 = (k + d + 1) + 1 := by omega
    rw [e]
    generalize hK : (k + d + 1) = K
    simp only [metrolabref07_Check.l0]
    subst hK
    rw [if_pos (by omega), if_pos (by omega), right_eq, next_ i (by omega), ih (i + 1) (by omega) k, drop_cons_ l z25 i (by omega), rd25]
    simp only [Option.bind_some, allPoint, List.all_cons]
    rw [show (⟨(l.getD i z25).f0, (l.getD i z25).f1⟩ : S25) = l.getD i z25 from rfl]
    by_cases h : okPoint (l.getD i z25) = true
    · rw [if_pos h]; simp only [h, Bool.true_and]
    · rw [if_neg h]; simp only [Bool.not_eq_true] at h; simp only [h, Bool.false_and]; rfl
theorem rcheck_f (l : List S25) (k : Nat) : metrolabref07_Check.f (k + 65) l = some (chk l) := by
  unfold metrolabref07_Check.f chk
  by_cases h : l.length > 64
  · rw [if_pos (by omega), if_pos h]
  · rw [if_neg (by omega), if_neg h]
    have := rcheck_l0 l (by omega) l.length 0 (by omega) (k + 64 - l.length)
    rw [show k + 64 - l.length + l.length + 1 = k + 65 by omega] at this
    simpa using this
theorem chk_zero {l : List S25} (h : chk l = 0) : l.length ≤ 64 ∧ ∀ p ∈ l, okPoint p = true := by
  unfold chk allPoint at h
  split at h
  · omega
  · split at h
    · rename_i h1 h2
      exact ⟨by omega, List.all_eq_true.mp h2⟩
    · omega
theorem ok_iff (p : S25) : okPoint p = true ↔ (-100000 ≤ p.f0 ∧ p.f0 ≤ 100000) ∧ -100000 ≤ p.f1 ∧ p.f1 ≤ 100000 := by
  unfold okPoint inRangePoint
  simp [Bool.and_eq_true]

/-! squared radii -/
def sqd (x y : Int) (p : S25) : Int := (p.f0 - x) * (p.f0 - x) + (p.f1 - y) * (p.f1 - y)
theorem sq_bound {a : Int} (h1 : -200000 ≤ a) (h2 : a ≤ 200000) : 0 ≤ a * a ∧ a * a ≤ 40000000000 := by
  rcases Int.le_total 0 a with h | h
  · exact mul_le_of h h2 h h2
  · have := mul_le_of (show 0 ≤ -a by omega) (show -a ≤ 200000 by omega) (show 0 ≤ -a by omega) (show -a ≤ 200000 by omega)
    rw [Int.neg_mul_neg] at this
    exact this
theorem sqd_bound {x y : Int} {p : S25} (ha : okPoint ⟨x, y⟩ = true) (hp : okPoint p = true) : 0 ≤ sqd x y p ∧ sqd x y p ≤ 80000000000 := by
  have h1 : (-100000 ≤ x ∧ x ≤ 100000) ∧ -100000 ≤ y ∧ y ≤ 100000 := (ok_iff _).mp ha
  have h2 := (ok_iff _).mp hp
  have b1 := sq_bound (a := p.f0 - x) (by omega) (by omega)
  have b2 := sq_bound (a := p.f1 - y) (by omega) (by omega)
  unfold sqd
  omega
theorem sqd_wrap {x y : Int} {p : S25} (ha : okPoint ⟨x, y⟩ = true) (hp : okPoint p = true) :
    wrap64 (wrap64 (wrap64 (p.f0 - x) * wrap64 (p.f0 - x)) + wrap64 (wrap64 (p.f1 - y) * wrap64 (p.f1 - y))) = sqd x y p := by
  have h1 : (-100000 ≤ x ∧ x ≤ 100000) ∧ -100000 ≤ y ∧ y ≤ 100000 := (ok_iff _).mp ha
  have h2 := (ok_iff _).mp hp
  have b1 := sq_bound (a := p.f0 - x) (by omega) (by omega)
  have b2 := sq_bound (a := p.f1 - y) (by omega) (by omega)
  rw [w64 (p.f0 - x) (by omega) (by omega), w64 (p.f1 - y) (by omega) (by omega), w64 ((p.f0 - x) * (p.f0 - x)) (by omega) (by omega), w64 ((p.f1 - y) * (p.f1 - y)) (by omega) (by omega), w64 _ (by omega) (by omega)]
  rfl
theorem radii_l1 (x y : Int) (ha : okPoint ⟨x, y⟩ = true) (lists : List (List S25)) (n : Int) (j : Int) (l : List S25) (hl : l.length ≤ 64) (hp : ∀ p ∈ l, okPoint p = true) :
    ∀ (d i : Nat) (acc : List Int), i + d = l.length → acc.length + d ≤ 1000000 → ∀ k, runout_radii.l1 (k + d + 1) acc lists n j l (l.length : Int) (i : Int) x y = runout_radii.l0 k (acc ++ (l.drop i).map (sqd x y)) lists n (wrap64 (j + 1)) x y := by
  intro d
  induction d with
  | zero =>
    intro i acc hi ha2 k
    simp only [runout_radii.l1]
    rw [if_neg (by omega), List.drop_of_length_le (by omega)]
    simp
  | succ d ih =>
    intro i acc hi ha2 k
    have e : k + (d + 1) + 1 = (k + d + 1) + 1 := by omega
    rw [e]
    generalize hK : (k + d + 1) = K
    simp only [runout_radii.l1]
    subst hK
    rw [if_pos (by omega), if_pos (by omega), if_pos (by omega), if_pos (by omega), next_ i (by omega), rd25, sqd_wrap ha (hp _ (mem_getD l z25 i (by omega))), ih (i + 1) _ (by omega) (by simp; omega) k, drop_cons_ l z25 i (by omega)]
    simp
theorem radii_l0 (x y : Int) (ha : okPoint ⟨x, y⟩ = true) (lists : List (List S25)) (hn : lists.length ≤ 32) (hp : ∀ l ∈ lists, l.length ≤ 64 ∧ ∀ p ∈ l, okPoint p = true) :
    ∀ (d i : Nat) (acc : List Int), i + d = lists.length → acc.length + 64 * d ≤ 10000 → acc ++ (lists.drop i).flatMap (fun l => l.map (sqd x y)) ≠ [] → ∀ k, runout_radii.l0 (k + 66 * d + 1) acc lists (lists.length : Int) (i : Int) x y =
      some (lmin (acc ++ (lists.drop i).flatMap (fun l => l.map (sqd x y))), lmax (acc ++ (lists.drop i).flatMap (fun l => l.map (sqd x y)))) := by
  intro d
  induction d with
  | zero =>
    intro i acc hi ha2 hne k
    simp only [runout_radii.l0]
    rw [List.drop_of_length_le (by omega)] at hne ⊢
    simp only [List.flatMap_nil, List.append_nil] at hne ⊢
    rw [if_neg (by omega)]
    unfold slices_Min_int_int.f slices_Max_int_int.f
    have : acc.length ≠ 0 := fun h => hne (List.eq_nil_of_length_eq_zero h)
    rw [if_neg this, if_neg this]
    rfl
  | succ d ih =>
    intro i acc hi ha2 hne k
    obtain ⟨h1, h2⟩ := hp (lists.getD i []) (mem_getD lists [] i (by omega))
    have e : k + 66 * (d + 1) + 1 = (k + 66 * d + 1 + (64 - (lists.getD i []).length) + (lists.getD i []).length + 1) + 1 := by omega
    rw [e]
    generalize hK : (k + 66 * d + 1 + (64 - (lists.getD i []).length) + (lists.getD i []).length + 1) = K
    simp only [runout_radii.l0]
    rw [drop_cons_ lists [] i (by omega), List.flatMap_cons, ← List.append_assoc] at hne ⊢
    subst hK
    rw [if_pos (by omega), if_pos (by omega), if_pos (by omega), rdL2]
    have hz := radii_l1 x y ha lists (lists.length : Int) (i : Int) (lists.getD i []) h1 h2 (lists.getD i []).length 0 acc (by omega) (by omega) (k + 66 * d + 1 + (64 - (lists.getD i []).length))
    rw [show ((0 : Nat) : Int) = 0 from rfl] at hz
    rw [hz, next_ i (by omega), List.drop_zero]
    have hk : k + 66 * d + 1 + (64 - (lists.getD i []).length) = (k + (64 - (lists.getD i []).length)) + 66 * d + 1 := by omega
    rw [hk, ih (i + 1) _ (by omega) (by rw [List.length_append, List.length_map]; omega) hne]
/-- all squared radii of lists of points -/
def allsq (x y : Int) (lists : List (List S25)) : List Int := lists.flatMap (fun l => l.map (sqd x y))
theorem radii_f (x y : Int) (ha : okPoint ⟨x, y⟩ = true) (lists : List (List S25)) (hn : lists.length ≤ 32) (hp : ∀ l ∈ lists, l.length ≤ 64 ∧ ∀ p ∈ l, okPoint p = true) (hne : allsq x y lists ≠ []) (k : Nat) :
    runout_radii.f (k + 2113) x y lists = some (lmin (allsq x y lists), lmax (allsq x y lists)) := by
  unfold runout_radii.f
  have := radii_l0 x y ha lists hn hp lists.length 0 [] (by omega) (by simp; omega) (by simpa [allsq] using hne) (k + (2112 - 66 * lists.length))
  rw [show k + (2112 - 66 * lists.length) + 66 * lists.length + 1 = k + 2113 by omega] at this
  simpa [allsq] using this

/-! Radii, both -/
def radiiV (l : List S25) (x y : Int) : Int × Int × Int :=
  if chk l ≠ 0 then (0, 0, chk l) else if l.length = 0 then (0, 0, 13) else if okPoint ⟨x, y⟩ = true then (lmin (l.map (sqd x y)), lmax (l.map (sqd x y)), 0) else (0, 0, 2)
theorem radiiV_bad {l : List S25} {x y : Int} (h : chk l ≠ 0) : radiiV l x y = (0, 0, chk l) := if_pos h
theorem radiiV_empty {l : List S25} {x y : Int} (h : chk l = 0) (h2 : l.length = 0) : radiiV l x y = (0, 0, 13) := by unfold radiiV; rw [if_neg (fun e => e h), if_pos h2]
theorem radiiV_axis {l : List S25} {x y : Int} (h : chk l = 0) (h2 : ¬ l.length = 0) (h3 : ¬ okPoint ⟨x, y⟩ = true) : radiiV l x y = (0, 0, 2) := by unfold radiiV; rw [if_neg (fun e => e h), if_neg h2, if_neg h3]
theorem radiiV_ok {l : List S25} {x y : Int} (h : chk l = 0) (h2 : ¬ l.length = 0) (h3 : okPoint ⟨x, y⟩ = true) : radiiV l x y = (lmin (l.map (sqd x y)), lmax (l.map (sqd x y)), 0) := by unfold radiiV; rw [if_neg (fun e => e h), if_neg h2, if_pos h3]
theorem Radii_f (l : List S25) (x y : Int) (k : Nat) : runout_Radii.f (k + 2113) l x y = some (radiiV l x y) := by
  unfold runout_Radii.f
  rw [vcheck_f, Option.bind_some]
  by_cases h0 : chk l = 0
  · rw [if_pos h0]
    obtain ⟨h1, h2⟩ := chk_zero h0
    by_cases h3 : l.length = 0
    · rw [if_pos (by omega), radiiV_empty h0 h3]
    · rw [if_neg (by omega), rright_eq, Option.bind_some]
      by_cases ha : okPoint ⟨x, y⟩ = true
      · have hsq : allsq x y [l] = l.map (sqd x y) := by simp [allsq]
        rw [if_pos ha, radii_f x y ha [l] (by simp) (by simp; exact ⟨h1, h2⟩) (by rw [hsq]; intro h; simp at h; exact h3 (by simp [h])) k, hsq, Option.bind_some, radiiV_ok h0 h3 ha]
      · rw [if_neg ha, radiiV_axis h0 h3 ha]
  · rw [if_neg h0, radiiV_bad h0]
/-! sections' check: the two ways -/
theorem rpoints_f (l : List S25) (k : Nat) : metrolabref38_points.f (k + 65) l = some (if l.length = 0 then 13 else chk l) := by
  unfold metrolabref38_points.f
  by_cases h : l.length = 0
  · rw [if_pos (by omega), if_pos h]
  · rw [if_neg (by omega), if_neg h, rcheck_f, Option.bind_some]
theorem tail_eq (x : S62) : sectionTail x = if x.f1.length = 0 then 13 else chk x.f1 := rfl
theorem in_f (n : Int) : metrolabref38_in.f n = some (!badOffset n) := by
  unfold metrolabref38_in.f badOffset
  by_cases h1 : n ≥ -100000
  · rw [if_pos h1, decide_eq_false (show ¬ n < -100000 by omega)]
    by_cases h2 : n ≤ 100000
    · rw [decide_eq_true h2, decide_eq_false (by omega)]; rfl
    · rw [decide_eq_false h2, decide_eq_true (by omega)]; rfl
  · rw [if_neg h1, decide_eq_true (show n < -100000 by omega)]; rfl
/-- the first error from section i on -/
def errFrom (l : List S62) (i : Nat) : Int := firstErr ((List.range' i (l.length - i)).map (errAt l))
theorem errFrom_end (l : List S62) (i : Nat) (h : l.length ≤ i) : errFrom l i = 0 := by
  unfold errFrom
  rw [show l.length - i = 0 by omega]
  rfl
theorem errFrom_step (l : List S62) (i : Nat) (h : i < l.length) : errFrom l i = if errAt l i = 0 then errFrom l (i + 1) else errAt l i := by
  unfold errFrom
  obtain ⟨d, hd⟩ : ∃ d, l.length - i = d + 1 := ⟨l.length - i - 1, by omega⟩
  rw [hd, show l.length - (i + 1) = d by omega, List.range'_succ, List.map_cons]
  unfold firstErr
  rw [List.find?_cons]
  by_cases he : errAt l i = 0
  · rw [if_pos he]; simp [he]
  · rw [if_neg he]; simp [he]
theorem errFrom_zero (l : List S62) : errFrom l 0 = firstErr (errsTo l l.length) := by
  unfold errFrom errsTo
  rw [Nat.sub_zero, List.range_eq_range']
theorem rcheck38_l0 (l : List S62) (hl : l.length ≤ 32) : ∀ (d i : Nat), i + d = l.length → ∀ k, metrolabref38_Check.l0 (k + 2 * d + 100) (l.map g70) (i : Int) = some (errFrom l i) := by
  intro d
  induction d with
  | zero =>
    intro i hi k
    rw [errFrom_end l i (by omega)]
    generalize hK : k + 2 * 0 + 99 = K
    rw [show k + 2 * 0 + 100 = K + 1 by omega]
    simp only [metrolabref38_Check.l0]
    rw [if_neg (by simp; omega)]
  | succ d ih =>
    intro i hi k
    rw [errFrom_step l i (by omega)]
    generalize hK : k + 2 * d + 100 = K
    rw [show k + 2 * (d + 1) + 100 = (K + 1) + 1 by omega]
    have hg : ∀ j : Nat, j < l.length → rd_T70 (l.map g70) (j : Int) = g70 (l.getD j z62) := fun j hj => by
      rw [rd70, List.getD_eq_getElem?_getD, List.getD_eq_getElem?_getD, List.getElem?_map, List.getElem?_eq_getElem hj]
      rfl
    have nf : ¬ (false = true) := by decide
    have hj1 : ∀ b, metrolabref38_Check.j1 (K + 1) (l.map g70) (i : Int) b = if b = true then some 9 else if sectionTail (l.getD i z62) = 0 then some (errFrom l (i + 1)) else some (sectionTail (l.getD i z62)) := fun b => by
      simp only [metrolabref38_Check.j1]
      cases b
      · have hp := rpoints_f (l.getD i z62).f1 (K - 65)
        rw [show K - 65 + 65 = K by omega] at hp
        have hpp : metrolabref38_points.f K (g70 (l.getD i z62)).f1 = some (sectionTail (l.getD i z62)) := hp
        rw [if_neg nf, if_neg nf, if_pos (show (0 : Int) ≤ i by omega), if_pos (show (i : Int) < ((l.map g70).length : Int) by simp; omega), hg i (by omega), hpp, Option.bind_some, next_ i (by omega), ← hK, ih (i + 1) (by omega) k]
      · rw [if_pos rfl, if_pos rfl]
    generalize hK1 : K + 1 = K1 at hj1
    simp only [metrolabref38_Check.l0]
    have hin := in_f (l.getD i z62).f0
    have hin2 : metrolabref38_in.f (g70 (l.getD i z62)).f0 = some (!badOffset (l.getD i z62).f0) := hin
    rw [if_pos (show (i : Int) < ((l.map g70).length : Int) by simp; omega), if_pos (show (0 : Int) ≤ i by omega), hg i (by omega), hin2, Option.bind_some]
    have he : errAt l i = sectionErr (l.getD i z62) (if i = 0 then none else some (l.getD (i - 1) z62).f0) := by unfold errAt; rw [rd62, rd62]
    rw [he]
    by_cases hb : badOffset (l.getD i z62).f0 = true
    · have hs : ∀ b, sectionErr (l.getD i z62) b = 2 := fun b => by unfold sectionErr; rw [if_pos hb]
      rw [hs, hb, if_neg (show ¬ ((!true) = true) by decide), if_neg (show ¬ ((2 : Int) = 0) by decide)]
    · have hb' : badOffset (l.getD i z62).f0 = false := by simpa using hb
      rw [hb', if_pos (show (!false) = true by decide)]
      by_cases hi0 : i = 0
      · have hs : sectionErr (l.getD i z62) (if i = 0 then none else some (l.getD (i - 1) z62).f0) = sectionTail (l.getD i z62) := by unfold sectionErr; rw [if_neg hb, if_pos hi0]
        rw [hs, if_neg (show ¬ ((i : Int) > 0) by omega), hj1, if_neg nf]
        by_cases ht : sectionTail (l.getD i z62) = 0
        · rw [if_pos ht, if_pos ht]
        · rw [if_neg ht, if_neg ht]
      · have hw : wrap64 ((i : Int) - 1) = ((i - 1 : Nat) : Int) := by unfold wrap64; omega
        have hs : sectionErr (l.getD i z62) (if i = 0 then none else some (l.getD (i - 1) z62).f0) = if (l.getD i z62).f0 ≤ (l.getD (i - 1) z62).f0 then 9 else sectionTail (l.getD i z62) := by unfold sectionErr; rw [if_neg hb, if_neg hi0]
        rw [hs, if_pos (show ((i : Int) > 0) by omega), hw, if_pos (show (0 : Int) ≤ ((i - 1 : Nat) : Int) by omega), if_pos (show ((i - 1 : Nat) : Int) < ((l.map g70).length : Int) by simp; omega), hg (i - 1) (by omega), hj1]
        by_cases ho : (l.getD i z62).f0 ≤ (l.getD (i - 1) z62).f0
        · rw [if_pos (show decide ((g70 (l.getD i z62)).f0 ≤ (g70 (l.getD (i - 1) z62)).f0) = true from decide_eq_true ho), if_pos ho, if_neg (show ¬ ((9 : Int) = 0) by decide)]
        · rw [if_neg (show ¬ decide ((g70 (l.getD i z62)).f0 ≤ (g70 (l.getD (i - 1) z62)).f0) = true by rw [decide_eq_true_eq]; exact ho), if_neg ho]
          by_cases ht : sectionTail (l.getD i z62) = 0
          · rw [if_pos ht, if_pos ht]
          · rw [if_neg ht, if_neg ht]
theorem rcheck38_f (l : List S62) (k : Nat) : metrolabref38_Check.f (k + 164) (l.map g70) = some (errsOf l) := by
  unfold metrolabref38_Check.f errsOf
  by_cases h1 : l.length = 0
  · rw [if_pos (by simp [h1]), if_pos h1]
  · rw [if_neg (by simp; intro h; exact h1 (by simp [h])), if_neg h1]
    by_cases h2 : 32 < l.length
    · rw [if_pos (by simp; omega), if_pos h2]
    · rw [if_neg (by simp; omega), if_neg h2, ← errFrom_zero]
      have := rcheck38_l0 l (by omega) l.length 0 (by omega) (k + (64 - 2 * l.length))
      rw [show k + (64 - 2 * l.length) + 2 * l.length + 100 = k + 164 by omega] at this
      exact this
end Go.Proofs.Ytkpojbglckmddaa.Base

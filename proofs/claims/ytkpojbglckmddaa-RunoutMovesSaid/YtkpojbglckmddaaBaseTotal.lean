/- Plain laws on the run-out of right sections: ends, Circular, Total, Least. -/
import Derived.Test.YtkpojbglckmddaaBase
import Derived.Test.YtkpojbglckmddaaX3
import Derived.Test.YtkpojbglckmddaaX2
import Derived.Test.YtkpojbglckmddaaX8
import Derived.Test.YtkpojbglckmddaaX3
namespace Go.Proofs.Ytkpojbglckmddaa.Base
open Go.RowKit Go.Proofs.Ytkpojbglckmddaa.X Go.Proofs.YtkpojbglckmddaaW.PrintWords Go.Proofs.Ytkpojbglckmddaa.Near

theorem awake_t : metrolablaw38_awake.f = some true := rfl
/-! least and greatest -/
theorem foldl_mn (l : List Int) : ∀ a, l.foldl mn a ≤ a ∧ (∀ x ∈ l, l.foldl mn a ≤ x) ∧ (l.foldl mn a = a ∨ l.foldl mn a ∈ l) := by
  induction l with
  | nil => intro a; simp
  | cons b t ih =>
    intro a
    obtain ⟨h1, h2, h3⟩ := ih (mn a b)
    have hm : mn a b ≤ a ∧ mn a b ≤ b ∧ (mn a b = a ∨ mn a b = b) := by unfold mn; split <;> omega
    rw [List.foldl_cons]
    refine ⟨by omega, fun x hx => ?_, ?_⟩
    · rcases List.mem_cons.1 hx with rfl | hx
      · omega
      · exact h2 x hx
    · rcases h3 with h3 | h3
      · rcases hm.2.2 with h4 | h4
        · exact .inl (h3.trans h4)
        · exact .inr (by rw [h3, h4]; exact List.mem_cons_self)
      · exact .inr (List.mem_cons_of_mem _ h3)
theorem foldl_mx (l : List Int) : ∀ a, a ≤ l.foldl mx a ∧ (∀ x ∈ l, x ≤ l.foldl mx a) ∧ (l.foldl mx a = a ∨ l.foldl mx a ∈ l) := by
  induction l with
  | nil => intro a; simp
  | cons b t ih =>
    intro a
    obtain ⟨h1, h2, h3⟩ := ih (mx a b)
    have hm : a ≤ mx a b ∧ b ≤ mx a b ∧ (mx a b = a ∨ mx a b = b) := by unfold mx; split <;> omega
    rw [List.foldl_cons]
    refine ⟨by omega, fun x hx => ?_, ?_⟩
    · rcases List.mem_cons.1 hx with rfl | hx
      · omega
      · exact h2 x hx
    · rcases h3 with h3 | h3
      · rcases hm.2.2 with h4 | h4
        · exact .inl (h3.trans h4)
        · exact .inr (by rw [h3, h4]; exact List.mem_cons_self)
      · exact .inr (List.mem_cons_of_mem _ h3)
theorem lmin_spec (l : List Int) (h : l ≠ []) : lmin l ∈ l ∧ ∀ x ∈ l, lmin l ≤ x := by
  cases l with
  | nil => exact absurd rfl h
  | cons a t =>
    obtain ⟨h1, h2, h3⟩ := foldl_mn t a
    refine ⟨?_, fun x hx => ?_⟩
    · rcases h3 with h3 | h3
      · exact List.mem_cons.2 (.inl h3)
      · exact List.mem_cons_of_mem _ h3
    · rcases List.mem_cons.1 hx with rfl | hx
      · exact h1
      · exact h2 x hx
theorem lmax_spec (l : List Int) (h : l ≠ []) : lmax l ∈ l ∧ ∀ x ∈ l, x ≤ lmax l := by
  cases l with
  | nil => exact absurd rfl h
  | cons a t =>
    obtain ⟨h1, h2, h3⟩ := foldl_mx t a
    refine ⟨?_, fun x hx => ?_⟩
    · rcases h3 with h3 | h3
      · exact List.mem_cons.2 (.inl h3)
      · exact List.mem_cons_of_mem _ h3
    · rcases List.mem_cons.1 hx with rfl | hx
      · exact h1
      · exact h2 x hx
theorem lmin_congr {l m : List Int} (hl : l ≠ []) (hm : m ≠ []) (h : ∀ x, x ∈ l ↔ x ∈ m) : lmin l = lmin m := by
  have a := lmin_spec l hl
  have b := lmin_spec m hm
  have := b.2 _ ((h _).1 a.1)
  have := a.2 _ ((h _).2 b.1)
  omega
theorem lmax_congr {l m : List Int} (hl : l ≠ []) (hm : m ≠ []) (h : ∀ x, x ∈ l ↔ x ∈ m) : lmax l = lmax m := by
  have a := lmax_spec l hl
  have b := lmax_spec m hm
  have := b.2 _ ((h _).1 a.1)
  have := a.2 _ ((h _).2 b.1)
  omega

/-! near grows with the tolerance, and with nearer ends -/
theorem near_mono {lo hi t t' : Int} (hl : 0 ≤ lo) (h0 : 0 ≤ t) (ht : t ≤ t') (h : nearB lo hi t = true) : nearB lo hi t' = true := by
  unfold nearB at *
  rw [decide_eq_true_eq] at *
  have hq : t * t ≤ t' * t' := Int.mul_le_mul ht ht h0 (by omega)
  have e1 : 4 * t * t * lo = (t * t) * (4 * lo) := by grind
  have e2 : 4 * t' * t' * lo = (t' * t') * (4 * lo) := by grind
  rw [e1] at h
  rw [e2]
  have h4 : (t * t) * (4 * lo) ≤ (t' * t') * (4 * lo) := Int.mul_le_mul_of_nonneg_right hq (by omega)
  generalize t * t = q at *
  generalize t' * t' = q' at *
  by_cases h1 : hi - lo - q' ≤ 0
  · exact .inl h1
  · right
    rcases h with h | h
    · omega
    · have := Int.mul_le_mul (show hi - lo - q' ≤ hi - lo - q by omega) (show hi - lo - q' ≤ hi - lo - q by omega) (by omega) (by omega)
      omega
theorem near_inner {lo hi lo' hi' t : Int} (h1 : lo ≤ lo') (h2 : hi' ≤ hi) (h : nearB lo hi t = true) : nearB lo' hi' t = true := by
  unfold nearB at *
  rw [decide_eq_true_eq] at *
  have ht : 0 ≤ 4 * t * t := by
    have : 4 * t * t = 4 * (t * t) := by grind
    rw [this]
    have : 0 ≤ t * t := by
      rcases Int.le_total 0 t with h | h
      · exact Int.mul_nonneg h h
      · have := Int.mul_nonneg (show 0 ≤ -t by omega) (show 0 ≤ -t by omega)
        rwa [Int.neg_mul_neg] at this
    omega
  have h4 : 4 * t * t * lo ≤ 4 * t * t * lo' := Int.mul_le_mul_of_nonneg_left h1 ht
  by_cases h5 : hi' - lo' - t * t ≤ 0
  · exact .inl h5
  · right
    rcases h with h | h
    · omega
    · have := Int.mul_le_mul (show hi' - lo' - t * t ≤ hi - lo - t * t by omega) (show hi' - lo' - t * t ≤ hi - lo - t * t by omega) (by omega) (by omega)
      omega
theorem near_max (lo hi : Int) (h0 : 0 ≤ lo) (h : hi ≤ 80000000000) : nearB lo hi 400000 = true := by
  unfold nearB
  rw [decide_eq_true_eq]
  left
  omega

/-! right sections -/
structure Right (l : List S62) (x y : Int) : Prop where
  pos : l.length ≠ 0
  few : l.length ≤ 32
  axis : okPoint ⟨x, y⟩ = true
  pts : ∀ s ∈ l, s.f1.length ≠ 0 ∧ s.f1.length ≤ 64 ∧ ∀ p ∈ s.f1, okPoint p = true
theorem firstErr_none {l : List Int} (h : firstErr l = 0) : ∀ e ∈ l, e = 0 := by
  intro e he
  unfold firstErr at h
  cases hf : l.find? (fun e => decide (e ≠ 0)) with
  | none =>
    have := List.find?_eq_none.mp hf e he
    simpa using this
  | some a =>
    rw [hf] at h
    have := List.find?_some hf
    simp at this h
    exact absurd h this
theorem right_of {l : List S62} {x y : Int} (h : errsOf l = 0) (ha : okPoint ⟨x, y⟩ = true) : Right l x y := by
  unfold errsOf at h
  split at h
  · omega
  · split at h
    · omega
    · rename_i h1 h2
      refine ⟨h1, by omega, ha, fun s hs => ?_⟩
      obtain ⟨i, hi, rfl⟩ := List.getElem_of_mem hs
      have he := firstErr_none h (errAt l i) (List.mem_map.2 ⟨i, by simpa using hi, rfl⟩)
      unfold errAt at he
      rw [rd62, List.getD_eq_getElem?_getD, List.getElem?_eq_getElem hi] at he
      simp only [Option.getD_some] at he
      have ht : sectionTail l[i] = 0 := by
        unfold sectionErr at he
        split at he
        · omega
        · split at he
          · exact he
          · split at he
            · omega
            · exact he
      rw [tail_eq] at ht
      split at ht
      · omega
      · rename_i h3
        exact ⟨h3, chk_zero ht⟩
theorem check_f (l : List S62) (x y : Int) : runout_check.f l x y = some (if errsOf l = 0 then (if okPoint ⟨x, y⟩ = true then 0 else 2) else errsOf l) := by
  unfold runout_check.f
  show ((some (errsOf l)).bind _) = _
  rw [Option.bind_some]
  by_cases h : errsOf l = 0
  · rw [if_pos h, if_pos h, rright_eq, Option.bind_some]
    by_cases h2 : okPoint ⟨x, y⟩ = true
    · rw [if_pos h2, if_pos h2]
    · rw [if_neg h2, if_neg h2]
  · rw [if_neg h, if_neg h]
theorem given_f (l : List S62) (x y : Int) (k : Nat) : metrolabref38_Given.f (k + 164) (l.map g70) x y = some (if errsOf l = 0 then (if okPoint ⟨x, y⟩ = true then 0 else 2) else errsOf l) := by
  unfold metrolabref38_Given.f
  rw [rcheck38_f, Option.bind_some]
  by_cases h : errsOf l = 0
  · rw [if_pos h, if_pos h, right_eq, Option.bind_some]
    by_cases h2 : okPoint ⟨x, y⟩ = true
    · rw [if_pos h2, if_pos h2]
    · rw [if_neg h2, if_neg h2]
  · rw [if_neg h, if_neg h]
theorem given_zero {l : List S62} {x y : Int} : (if errsOf l = 0 then (if okPoint ⟨x, y⟩ = true then (0 : Int) else 2) else errsOf l) = 0 ↔ errsOf l = 0 ∧ okPoint ⟨x, y⟩ = true := by
  constructor
  · intro h
    split at h
    · split at h
      · exact ⟨by assumption, by assumption⟩
      · omega
    · exact absurd h (by assumption)
  · rintro ⟨h1, h2⟩
    rw [if_pos h1, if_pos h2]

/-- the squared radii of all sections -/
def sqs (l : List S62) (x y : Int) : List Int := allsq x y (l.map (·.f1))
def lowS (l : List S62) (x y : Int) : Int := lmin (sqs l x y)
def highS (l : List S62) (x y : Int) : Int := lmax (sqs l x y)
theorem mem_sqs {l : List S62} {x y n : Int} : n ∈ sqs l x y ↔ ∃ s ∈ l, ∃ p ∈ s.f1, sqd x y p = n := by
  unfold sqs allsq
  simp only [List.mem_flatMap, List.mem_map]
  constructor
  · rintro ⟨q, ⟨s, hs, rfl⟩, p, hp, rfl⟩; exact ⟨s, hs, p, hp, rfl⟩
  · rintro ⟨s, hs, p, hp, rfl⟩; exact ⟨_, ⟨s, hs, rfl⟩, p, hp, rfl⟩
theorem sqs_ne {l : List S62} {x y : Int} (h : Right l x y) : sqs l x y ≠ [] := by
  cases l with
  | nil => exact absurd rfl h.pos
  | cons s t =>
    obtain ⟨h1, h2, h3⟩ := h.pts s List.mem_cons_self
    cases hs : s.f1 with
    | nil => rw [hs] at h1; exact absurd rfl h1
    | cons p q =>
      intro he
      have : sqd x y p ∈ sqs (s :: t) x y := mem_sqs.2 ⟨s, List.mem_cons_self, p, by rw [hs]; exact List.mem_cons_self, rfl⟩
      rw [he] at this
      cases this
theorem bounds {l : List S62} {x y : Int} (h : Right l x y) : 0 ≤ lowS l x y ∧ lowS l x y ≤ highS l x y ∧ highS l x y ≤ 80000000000 := by
  have h1 := lmin_spec _ (sqs_ne h)
  have h2 := lmax_spec _ (sqs_ne h)
  have hb : ∀ n ∈ sqs l x y, 0 ≤ n ∧ n ≤ 80000000000 := by
    intro n hn
    obtain ⟨s, hs, p, hp, rfl⟩ := mem_sqs.1 hn
    exact sqd_bound h.axis ((h.pts s hs).2.2 p hp)
  exact ⟨(hb _ h1.1).1, h2.2 _ h1.1, (hb _ h2.1).2⟩
theorem ends_l0 (l : List S62) (x y : Int) (h : Right l x y) (K : Nat) (hK : 2113 ≤ K) : ∀ (d i : Nat) (acc : List (List S25)), i + d = l.length → acc = (l.take i).map (·.f1) → runout_ends.l0 (K + d + 1) acc l (l.length : Int) (i : Int) x y = some (lowS l x y, highS l x y) := by
  intro d
  have hf := h.few
  induction d with
  | zero =>
    intro i acc hi ha
    simp only [runout_ends.l0]
    rw [if_neg (by omega), ha, List.take_of_length_le (by omega)]
    have hr := radii_f x y h.axis (l.map (·.f1)) (by simpa using hf) (fun q hq => by
      obtain ⟨s, hs, rfl⟩ := List.mem_map.1 hq
      exact (h.pts s hs).2) (show allsq x y (l.map (·.f1)) ≠ [] from sqs_ne h) (K - 2113)
    rw [show K - 2113 + 2113 = K by omega] at hr
    rw [hr, Option.bind_some]
    rfl
  | succ d ih =>
    intro i acc hi ha
    generalize hK1 : K + d + 1 = K1
    simp only [runout_ends.l0]
    have hal : acc.length ≤ 32 := by rw [ha]; simp; omega
    rw [if_pos (by omega), if_pos (by omega), if_pos (by omega), if_pos (by omega), next_ i (by omega), rd62, ← hK1]
    refine ih (i + 1) _ (by omega) ?_
    rw [ha, List.take_succ_eq_append_getElem (by omega), List.map_append, List.getD_eq_getElem?_getD, List.getElem?_eq_getElem (by omega)]
    rfl
theorem ends_f (l : List S62) (x y : Int) (h : Right l x y) (k : Nat) (hk : 3000 ≤ k) : runout_ends.f k l x y = some (lowS l x y, highS l x y) := by
  unfold runout_ends.f
  have hf := h.few
  have := ends_l0 l x y h (k - l.length - 1) (by omega) l.length 0 [] (by omega) (by simp)
  rw [show k - l.length - 1 + l.length + 1 = k by omega] at this
  exact this
theorem near_k (k : Nat) (hk : 1 ≤ k) (low high t : Int) (h0 : 0 ≤ low) (h1 : low ≤ high) (h2 : high ≤ 80000000000) (t0 : 0 ≤ t) (t1 : t ≤ 400000) : runout_near.f k low high t = some (nearB low high t) := by
  obtain ⟨k, rfl⟩ : ∃ m, k = m + 1 := ⟨k - 1, by omega⟩
  exact near_f k low high t h0 (by omega) h2 (by omega) t0 t1
theorem total_f (l : List S62) (x y t : Int) (h0 : errsOf l = 0) (h : Right l x y) (t0 : 0 ≤ t) (t1 : t ≤ 100000) (k : Nat) (hk : 3000 ≤ k) : runout_Total.f k l x y t = some (nearB (lowS l x y) (highS l x y) t, 0) := by
  unfold runout_Total.f
  have hb := bounds h
  rw [check_f, if_pos h0, if_pos h.axis, Option.bind_some, if_pos rfl, tol_f, Option.bind_some, if_pos (by unfold tolB; simp; omega), ends_f l x y h k hk, Option.bind_some, near_k k (by omega) _ _ t hb.1 hb.2.1 hb.2.2 t0 (by omega), Option.bind_some]

/-- the section's own ends -/
def lowP (s : S62) (x y : Int) : Int := lmin (s.f1.map (sqd x y))
def highP (s : S62) (x y : Int) : Int := lmax (s.f1.map (sqd x y))
def nearP (s : S62) (x y t : Int) : Bool := nearB (lowP s x y) (highP s x y) t
theorem boundsP {l : List S62} {x y : Int} (h : Right l x y) {s : S62} (hs : s ∈ l) : lowS l x y ≤ lowP s x y ∧ lowP s x y ≤ highP s x y ∧ highP s x y ≤ highS l x y ∧ s.f1.map (sqd x y) ≠ [] := by
  obtain ⟨h1, h2, h3⟩ := h.pts s hs
  have hne : s.f1.map (sqd x y) ≠ [] := by intro e; apply h1; have := congrArg List.length e; simpa using this
  have a := lmin_spec _ hne
  have b := lmax_spec _ hne
  have c := lmin_spec _ (sqs_ne h)
  have d := lmax_spec _ (sqs_ne h)
  have hin : ∀ n ∈ s.f1.map (sqd x y), n ∈ sqs l x y := by
    intro n hn
    obtain ⟨p, hp, rfl⟩ := List.mem_map.1 hn
    exact mem_sqs.2 ⟨s, hs, p, hp, rfl⟩
  exact ⟨c.2 _ (hin _ a.1), b.2 _ a.1, d.2 _ (hin _ b.1), hne⟩
/-- how many sections at the begin keep the tolerance -/
def kept (l : List S62) (x y t : Int) : Nat := (l.takeWhile (fun s => nearP s x y t)).length
theorem circ_go (l : List S62) (x y t : Int) (h : Right l x y) (t0 : 0 ≤ t) (t1 : t ≤ 100000) (k : Nat) (hk : 3000 ≤ k) : ∀ n, n ≤ l.length →
    runout_Circular.go k l x y t n = some (decide (((l.drop (l.length - n)).takeWhile (fun s => nearP s x y t)).length = n), ((l.length - n + ((l.drop (l.length - n)).takeWhile (fun s => nearP s x y t)).length : Nat) : Int), 0) := by
  intro n
  have hf := h.few
  have hbd := bounds h
  induction n with
  | zero => intro _; simp [runout_Circular.go]
  | succ n ih =>
    intro hn
    have hlt : l.length - (n + 1) < l.length := by omega
    have hmem : l.getD (l.length - (n + 1)) z62 ∈ l := mem_getD l z62 _ hlt
    have hb := boundsP h hmem
    obtain ⟨h1, h2, h3⟩ := h.pts _ hmem
    rw [runout_Circular.go, rd62]
    have hsq : allsq x y [(l.getD (l.length - (n + 1)) z62).f1] = (l.getD (l.length - (n + 1)) z62).f1.map (sqd x y) := by simp [allsq]
    have hr := radii_f x y h.axis [(l.getD (l.length - (n + 1)) z62).f1] (by simp) (by intro q hq; rw [List.mem_singleton] at hq; subst hq; exact ⟨h2, h3⟩) (by rw [hsq]; exact hb.2.2.2) (k - 2113)
    rw [show k - 2113 + 2113 = k by omega, hsq] at hr
    rw [hr, Option.bind_some]
    show ((runout_near.f k (lowP (l.getD (l.length - (n + 1)) z62) x y) (highP (l.getD (l.length - (n + 1)) z62) x y) t).bind _) = _
    rw [near_k k (by omega) _ _ t (by omega) hb.2.1 (by omega) t0 (by omega), Option.bind_some, drop_cons_ l z62 _ hlt, List.takeWhile_cons, show l.length - (n + 1) + 1 = l.length - n by omega]
    by_cases hc : nearP (l.getD (l.length - (n + 1)) z62) x y t = true
    · rw [if_pos hc, if_pos (show nearB _ _ t = true from hc), ih (by omega)]
      simp only [List.length_cons]
      congr 2
      · simp
      · congr 1; omega
    · rw [if_neg hc, if_neg (show ¬ nearB _ _ t = true from hc)]
      simp
theorem circular_f (l : List S62) (x y t : Int) (h0 : errsOf l = 0) (h : Right l x y) (t0 : 0 ≤ t) (t1 : t ≤ 100000) (k : Nat) (hk : 3000 ≤ k) : runout_Circular.f k l x y t = some (decide (kept l x y t = l.length), (kept l x y t : Int), 0) := by
  unfold runout_Circular.f
  rw [check_f, if_pos h0, if_pos h.axis, Option.bind_some, if_pos rfl, tol_f, Option.bind_some, if_pos (by unfold tolB; simp; omega), circ_go l x y t h t0 t1 k hk l.length (Nat.le_refl _), Nat.sub_self, List.drop_zero, Nat.zero_add]
  rfl
theorem kept_all (l : List S62) (x y t : Int) : kept l x y t = l.length ↔ ∀ s ∈ l, nearP s x y t = true := by
  unfold kept
  induction l with
  | nil => simp
  | cons s q ih =>
    rw [List.takeWhile_cons]
    by_cases h : nearP s x y t = true
    · rw [if_pos h]; simp [h, ih]
    · rw [if_neg h]; simp [h]

/-! the least tolerance -/
theorem least_l0 (lo hi : Int) (h0 : 0 ≤ lo) (h1 : lo ≤ hi) (h2 : hi ≤ 80000000000) : ∀ (d : Nat) (from_ to_ : Int), to_ - from_ = d → 0 ≤ from_ → to_ ≤ 400000 → nearB lo hi to_ = true → (∀ t, 0 ≤ t → t < from_ → nearB lo hi t = false) → ∀ k, d + 2 ≤ k →
    ∃ r, runout_Least.l0 k lo hi from_ to_ = some (r, 0) ∧ 0 ≤ r ∧ r ≤ 400000 ∧ nearB lo hi r = true ∧ ∀ t, 0 ≤ t → t < r → nearB lo hi t = false := by
  intro d
  induction d using Nat.strongRecOn with
  | _ d ih =>
    intro f t hd hf ht hn hz k hk
    obtain ⟨k, rfl⟩ : ∃ m, k = m + 1 := ⟨k - 1, by omega⟩
    simp only [runout_Least.l0]
    by_cases hlt : f < t
    · rw [if_pos hlt, w64 (f + t) (by omega) (by omega), Int.tdiv_eq_ediv_of_nonneg (by omega), w64 ((f + t) / 2) (by omega) (by omega), near_k k (by omega) lo hi _ h0 h1 h2 (by omega) (by omega), Option.bind_some]
      by_cases hc : nearB lo hi ((f + t) / 2) = true
      · rw [if_pos hc]
        exact ih ((f + t) / 2 - f).toNat (by omega) f ((f + t) / 2) (by omega) hf (by omega) hc hz k (by omega)
      · rw [if_neg hc, w64 ((f + t) / 2 + 1) (by omega) (by omega)]
        refine ih (t - ((f + t) / 2 + 1)).toNat (by omega) ((f + t) / 2 + 1) t (by omega) (by omega) ht hn (fun q hq hq2 => ?_) k (by omega)
        by_cases hq3 : nearB lo hi q = true
        · exact absurd (near_mono h0 hq (by omega) hq3) hc
        · simpa using hq3
    · rw [if_neg hlt]
      obtain rfl : f = t := by omega
      exact ⟨f, rfl, hf, ht, hn, hz⟩
theorem least_f (l : List S62) (x y : Int) (h0 : errsOf l = 0) (h : Right l x y) (k : Nat) (hk : 400002 ≤ k) :
    ∃ r, runout_Least.f k l x y = some (r, 0) ∧ 0 ≤ r ∧ r ≤ 400000 ∧ nearB (lowS l x y) (highS l x y) r = true ∧ ∀ t, 0 ≤ t → t < r → nearB (lowS l x y) (highS l x y) t = false := by
  have hb := bounds h
  obtain ⟨r, hr, hx⟩ := least_l0 (lowS l x y) (highS l x y) hb.1 hb.2.1 hb.2.2 400000 0 400000 (by omega) (by omega) (by omega) (near_max _ _ hb.1 hb.2.2) (fun t h1 h2 => by omega) k hk
  refine ⟨r, ?_, hx⟩
  unfold runout_Least.f
  rw [check_f, if_pos h0, if_pos h.axis, Option.bind_some, if_pos rfl, ends_f l x y h k (by omega), Option.bind_some]
  exact hr
end Go.Proofs.Ytkpojbglckmddaa.Base

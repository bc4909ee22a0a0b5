/- Plain laws on run-out: what 'times', 'most', 'near' and 'Differ' compute. -/
import Derived.Test.YtkpojbglckmddaaX2
namespace Go.Proofs.Ytkpojbglckmddaa.Near
open Go.RowKit Go.Proofs.Ytkpojbglckmddaa.X Go.Proofs.YtkpojbglckmddaaW.PrintWords Go.Proofs.YtkpojbglckmddaaW.PrintLast

theorem mul_le_of {a b m n : Int} (ha : 0 ≤ a) (hm : a ≤ m) (hb : 0 ≤ b) (hn : b ≤ n) : 0 ≤ a * b ∧ a * b ≤ m * n :=
  ⟨Int.mul_nonneg ha hb, Int.mul_le_mul hm hn hb (by omega)⟩

theorem w64 (x : Int) (h1 : -9223372036854775808 ≤ x) (h2 : x ≤ 9223372036854775807) : wrap64 x = x := by unfold wrap64; omega

theorem times_f (a b : Int) (ha : 0 ≤ a) (ha2 : a < 1099511627776) (hb : 0 ≤ b) (hb2 : b < 1099511627776) :
    runout_times.f a b = some ((a * b) / 1099511627776, (a * b) % 1099511627776) := by
  unfold runout_times.f
  rw [Int.tdiv_eq_ediv_of_nonneg ha, Int.tdiv_eq_ediv_of_nonneg hb, Int.tmod_eq_emod_of_nonneg ha, Int.tmod_eq_emod_of_nonneg hb]
  obtain ⟨a1, h1⟩ : ∃ x, x = a / 1048576 := ⟨_, rfl⟩
  obtain ⟨a0, h0⟩ : ∃ x, x = a % 1048576 := ⟨_, rfl⟩
  obtain ⟨b1, k1⟩ : ∃ x, x = b / 1048576 := ⟨_, rfl⟩
  obtain ⟨b0, k0⟩ : ∃ x, x = b % 1048576 := ⟨_, rfl⟩
  rw [← h1, ← h0, ← k1, ← k0]
  have ea : a = 1048576 * a1 + a0 := by omega
  have eb : b = 1048576 * b1 + b0 := by omega
  have r1 : 0 ≤ a1 ∧ a1 ≤ 1048575 := by omega
  have r0 : 0 ≤ a0 ∧ a0 ≤ 1048575 := by omega
  have s1 : 0 ≤ b1 ∧ b1 ≤ 1048575 := by omega
  have s0 : 0 ≤ b0 ∧ b0 ≤ 1048575 := by omega
  have p11 := mul_le_of r1.1 r1.2 s1.1 s1.2
  have p10 := mul_le_of r1.1 r1.2 s0.1 s0.2
  have p01 := mul_le_of r0.1 r0.2 s1.1 s1.2
  have p00 := mul_le_of r0.1 r0.2 s0.1 s0.2
  have eab : a * b = 1099511627776 * (a1 * b1) + 1048576 * (a1 * b0 + a0 * b1) + a0 * b0 := by rw [ea, eb]; grind
  rw [eab, w64 a1 (by omega) (by omega), w64 b1 (by omega) (by omega)]
  generalize a1 * b1 = P at *
  generalize a1 * b0 = Q at *
  generalize a0 * b1 = R at *
  generalize a0 * b0 = S at *
  rw [w64 P (by omega) (by omega), w64 Q (by omega) (by omega), w64 R (by omega) (by omega), w64 S (by omega) (by omega), w64 (Q + R) (by omega) (by omega)]
  rw [Int.tdiv_eq_ediv_of_nonneg (show 0 ≤ Q + R by omega), Int.tmod_eq_emod_of_nonneg (show 0 ≤ Q + R by omega), w64 ((Q + R) % 1048576 * 1048576) (by omega) (by omega), w64 (S + (Q + R) % 1048576 * 1048576) (by omega) (by omega)]
  rw [Int.tdiv_eq_ediv_of_nonneg (show 0 ≤ S + (Q + R) % 1048576 * 1048576 by omega), Int.tmod_eq_emod_of_nonneg (show 0 ≤ S + (Q + R) % 1048576 * 1048576 by omega)]
  rw [w64 ((Q + R) / 1048576) (by omega) (by omega), w64 ((S + (Q + R) % 1048576 * 1048576) / 1099511627776) (by omega) (by omega), w64 (P + (Q + R) / 1048576) (by omega) (by omega), w64 (P + (Q + R) / 1048576 + (S + (Q + R) % 1048576 * 1048576) / 1099511627776) (by omega) (by omega)]
  congr 2 <;> omega

theorem most_f (x y : Int) : runout_wide_most.f (x / 1099511627776) (x % 1099511627776) (y / 1099511627776) (y % 1099511627776) = some (decide (x ≤ y)) := by
  unfold runout_wide_most.f
  by_cases h : x / 1099511627776 < y / 1099511627776
  · rw [if_pos h, decide_eq_true (show x ≤ y by omega)]
  · rw [if_neg h]
    by_cases h2 : x / 1099511627776 = y / 1099511627776
    · rw [if_pos h2]
      congr 1
      by_cases h3 : x ≤ y
      · rw [decide_eq_true h3, decide_eq_true (by omega)]
      · rw [decide_eq_false h3, decide_eq_false (by omega)]
    · rw [if_neg h2, decide_eq_false (show ¬ x ≤ y by omega)]

/-- two squared radii differ by at most t -/
def nearB (low high t : Int) : Bool := decide (high - low - t * t ≤ 0 ∨ (high - low - t * t) * (high - low - t * t) ≤ 4 * t * t * low)

theorem near_f (k : Nat) (low high t : Int) (h0 : 0 ≤ low) (h1 : low ≤ 80000000000) (h2 : high ≤ 80000000000) (hh : 0 ≤ high) (t0 : 0 ≤ t) (t1 : t ≤ 400000) :
    runout_near.f (k + 1) low high t = some (nearB low high t) := by
  have tt := mul_le_of t0 t1 t0 t1
  have ett : 4 * t * t = 4 * (t * t) := by grind
  have ett2 : (wrap64 (4 * t)) * t = 4 * (t * t) := by rw [w64 (4 * t) (by omega) (by omega)]; grind
  unfold runout_near.f nearB
  rw [ett2, ett]
  generalize t * t = q at *
  rw [w64 (high - low) (by omega) (by omega), w64 q (by omega) (by omega), w64 (high - low - q) (by omega) (by omega), w64 (4 * q) (by omega) (by omega)]
  obtain ⟨d, hd⟩ : ∃ d, d = high - low - q := ⟨_, rfl⟩
  rw [← hd]
  by_cases hd0 : d ≤ 0
  · rw [if_pos hd0, decide_eq_true (Or.inl hd0)]
  · rw [if_neg hd0]
    have hdd : 0 < d * d := Int.mul_pos (by omega) (by omega)
    by_cases hq : 4 * q = 0
    · rw [if_pos hq]
      simp only [runout_near.j0]
      rw [if_pos trivial, decide_eq_false]
      rintro (h | h)
      · exact hd0 h
      · rw [hq, Int.zero_mul] at h; omega
    · rw [if_neg hq]
      simp only [runout_near.j0]
      by_cases hl : low = 0
      · rw [if_pos (by simp [hl]), decide_eq_false]
        rintro (h | h)
        · exact hd0 h
        · rw [hl, Int.mul_zero] at h; omega
      · rw [if_neg (by simp [hl]), times_f d d (by omega) (by omega) (by omega) (by omega), times_f (4 * q) low (by omega) (by omega) (by omega) (by omega)]
        simp only [Option.bind_some]
        rw [most_f]
        simp only [Option.bind_some]
        congr 1
        by_cases h : d * d ≤ 4 * q * low
        · rw [decide_eq_true h, decide_eq_true (Or.inr h)]
        · rw [decide_eq_false h, decide_eq_false (by rintro (h2 | h2); exact hd0 h2; exact h h2)]

def tolB (t : Int) : Bool := decide (0 ≤ t) && decide (t ≤ 100000)
theorem tol_f (t : Int) : runout_tolerance.f t = some (tolB t) := by
  unfold runout_tolerance.f tolB
  by_cases h : 0 ≤ t
  · rw [if_pos h, decide_eq_true h, Bool.true_and]
  · rw [if_neg h, decide_eq_false h, Bool.false_and]
/-- what Differ answers -/
def differV (low high t : Int) : Bool × Int :=
  if low < 0 ∨ 80000000000 < low ∨ high < 0 ∨ 80000000000 < high then (false, 2) else if high < low then (false, 9) else if tolB t then (nearB low high t, 0) else (false, 2)
theorem differ_f (k : Nat) (low high t : Int) : runout_Differ.f (k + 2) low high t = some (differV low high t) := by
  unfold runout_Differ.f differV
  have hj : ∀ b, runout_Differ.j0 (k + 2) low high t b = if b = true then some (false, 2) else if low > high then some (false, 9) else (runout_tolerance.f t).bind fun t141 => if t141 = true then (runout_near.f (k + 1) low high t).bind fun t142 => some (t142, 0) else some (false, 2) := fun b => by
    simp only [runout_Differ.j0]
  rw [hj, hj]
  by_cases h1 : low < 0
  · rw [if_pos h1, if_pos (Or.inl h1)]; rfl
  · rw [if_neg h1]
    by_cases h2 : low > 80000000000
    · rw [if_pos h2, if_pos (Or.inr (Or.inl h2))]; rfl
    · rw [if_neg h2]
      by_cases h3 : high < 0
      · rw [if_pos h3, if_pos (Or.inr (Or.inr (Or.inl h3)))]; rfl
      · rw [if_neg h3]
        by_cases h4 : high > 80000000000
        · rw [if_pos (decide_eq_true h4), if_pos (Or.inr (Or.inr (Or.inr h4)))]
        · rw [if_neg (by simpa using h4), if_neg (show ¬ (low < 0 ∨ 80000000000 < low ∨ high < 0 ∨ 80000000000 < high) by omega)]
          by_cases h5 : low > high
          · rw [if_pos h5, if_pos h5]
          · rw [if_neg h5, if_neg h5, tol_f]
            simp only [Option.bind_some]
            cases ht : tolB t
            · rfl
            · unfold tolB at ht
              simp only [Bool.and_eq_true, decide_eq_true_eq] at ht
              rw [if_pos rfl, near_f k low high t (by omega) (by omega) (by omega) (by omega) ht.1 (by omega)]
              rfl
/-- x² ≤ y² exactly if x ≤ y, for numbers that are not negative -/
theorem sq_le {x y : Int} (hx : 0 ≤ x) (hy : 0 ≤ y) : x * x ≤ y * y ↔ x ≤ y := by
  constructor
  · intro h
    rcases Int.lt_or_le y x with h2 | h2
    · have h3 : 0 < (x - y) * x := Int.mul_pos (by omega) (by omega)
      have h4 : 0 ≤ (x - y) * y := Int.mul_nonneg (by omega) hy
      have h5 : x * x - y * y = (x - y) * x + (x - y) * y := by grind
      omega
    · exact h2
  · intro h
    exact Int.mul_le_mul h h hx hy
theorem near_squares (l h t : Int) (hl : 0 ≤ l) (hh : l ≤ h) (ht : 0 ≤ t) : nearB (l * l) (h * h) t = decide (h - l ≤ t) := by
  unfold nearB
  have e1 : 4 * t * t * (l * l) = (2 * t * l) * (2 * t * l) := by grind
  have e2 : h * h - l * l - t * t ≤ 2 * t * l ↔ h * h ≤ (l + t) * (l + t) := by
    have : (l + t) * (l + t) = l * l + 2 * t * l + t * t := by grind
    omega
  have e3 := sq_le (show 0 ≤ h by omega) (show 0 ≤ l + t by omega)
  have hp : 0 ≤ 2 * t * l := Int.mul_nonneg (by omega) hl
  rw [e1]
  generalize 2 * t * l = y at *
  generalize h * h - l * l - t * t = x at *
  by_cases hx : x ≤ 0
  · rw [decide_eq_true (Or.inl hx), decide_eq_true]
    have := e3.mp (e2.mp (by omega))
    omega
  · have e4 := sq_le (show 0 ≤ x by omega) hp
    by_cases hc : h - l ≤ t
    · rw [decide_eq_true hc, decide_eq_true]
      exact Or.inr (e4.mpr (e2.mpr (e3.mpr (by omega))))
    · rw [decide_eq_false hc, decide_eq_false]
      rintro (h1 | h1)
      · exact hx h1
      · have := e3.mp (e2.mp (e4.mp h1))
        omega
end Go.Proofs.Ytkpojbglckmddaa.Near

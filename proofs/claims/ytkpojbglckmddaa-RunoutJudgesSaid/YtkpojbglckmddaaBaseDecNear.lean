/- Near of the reference, over decimal texts, answers as the plain test of whole numbers. -/
import Derived.Test.YtkpojbglckmddaaNear
import Derived.Test.YtkpojbglckmddaaBaseDec3
import Derived.Test.YtkpojbglckmddaaX12
namespace Go.Proofs.Ytkpojbglckmddaa.Dec
open Go Go.RowKit Go.Proofs.Ytkpojbglckmddaa.X Go.Proofs.YtkpojbglckmddaaW.PrintWords Go.Proofs.Ytkpojbglckmddaa.Near
theorem rnear_f (k : Nat) (low high t : Int) (h0 : 0 ≤ low) (h1 : low ≤ 80000000000) (h2 : high ≤ 80000000000) (hh : 0 ≤ high) (t0 : 0 ≤ t) (t1 : t ≤ 400000) :
    metrolabref38_Near.f (k + 501) low high t = some (nearB low high t) := by
  have tt := mul_le_of t0 t1 t0 t1
  have ett : 4 * t * t = 4 * (t * t) := by grind
  have ett2 : (wrap64 (4 * t)) * t = 4 * (t * t) := by rw [w64 (4 * t) (by omega) (by omega)]; grind
  unfold metrolabref38_Near.f nearB
  rw [ett2, ett]
  generalize t * t = q at *
  rw [w64 (high - low) (by omega) (by omega), w64 q (by omega) (by omega), w64 (high - low - q) (by omega) (by omega), w64 (4 * q) (by omega) (by omega)]
  obtain ⟨d, hd⟩ : ∃ d, d = high - low - q := ⟨_, rfl⟩
  rw [← hd]
  by_cases hd0 : d ≤ 0
  · rw [if_pos hd0, decide_eq_true (Or.inl hd0)]
  · rw [if_neg hd0]
    obtain ⟨A, a1, a2, a3, a4⟩ := of_f d (k + 481) (by omega) (by omega)
    obtain ⟨B, b1, b2, b3, b4⟩ := of_f (4 * q) (k + 481) (by omega) (by omega)
    obtain ⟨C, c1, c2, c3, c4⟩ := of_f low (k + 481) (by omega) (by omega)
    rw [show k + 481 + 20 = k + 501 by omega] at a4 b4 c4
    obtain ⟨P, p1, p2, p3, p4⟩ := times_f B C b1 c1 b3 c3 k
    obtain ⟨Q, q1, q2, q3, q4⟩ := times_f A A a1 a1 a3 a3 k
    obtain ⟨o, o1, o2⟩ := order_f Q P q1 p1 (by omega) (by omega) (k + 401)
    rw [show k + 401 + 100 = k + 501 by omega] at o1
    rw [a4, Option.bind_some, b4, Option.bind_some, c4, Option.bind_some, p4, Option.bind_some, q4, Option.bind_some, o1, Option.bind_some]
    congr 1
    rw [q2, p2, a2, b2, c2] at o2
    by_cases h : d * d ≤ 4 * q * low
    · rw [decide_eq_true (o2.2 h), decide_eq_true (Or.inr h)]
    · rw [decide_eq_false (fun x => h (o2.1 x)), decide_eq_false (by rintro (h2 | h2); exact hd0 h2; exact h h2)]
end Go.Proofs.Ytkpojbglckmddaa.Dec

/- Moving and turning sections changes nothing, and leaving out a section or a point makes nothing worse; for all sections, axes and moves. -/
import Derived.Test.YtkpojbglckmddaaSaidRunoutMoves
import Derived.Test.YtkpojbglckmddaaBaseMoves
namespace Go.Proofs.Ytkpojbglckmddaa.Pure
open Go.RowKit Go.Proofs.Ytkpojbglckmddaa.X Go.Proofs.YtkpojbglckmddaaW.PrintWords Go.Proofs.Ytkpojbglckmddaa.Base Go.Proofs.Ytkpojbglckmddaa.Near
open RunoutMovesIn
theorem RunoutMoves : SaidRunoutMoves := by
  intro l a b _ hl _ _
  obtain ⟨K, hK⟩ : ∃ K, K = l.length + 500000 := ⟨_, rfl⟩
  have J0 : ∀ x y u v, metrolablaw38_RunoutMoves.j0 (K + 10202) l true x y u v = some true := by
    intro x y u v
    generalize hK2 : K + 10201 = K2
    rw [show K + 10202 = K2 + 1 by omega]
    rw [metrolablaw38_RunoutMoves.j0]
    rw [if_pos rfl, awake_t, Option.bind_some]
  refine ⟨K + 10202, ?_⟩
  unfold metrolablaw38_RunoutMoves.f
  rw [right_f l (by omega) a.f0 a.f1 _ (by omega), Option.bind_some]
  by_cases hr : rightV l a.f0 a.f1 = true
  case neg => rw [if_neg hr, J0]
  rw [if_pos hr, right_eq, Option.bind_some]
  by_cases hq : okPoint ⟨b.f0, b.f1⟩ = true
  case neg => rw [Bool.not_eq_true] at hq; rw [hq, Bool.not_false, J0]
  rw [hq, Bool.not_true]
  unfold rightV at hr
  simp only [Bool.and_eq_true, decide_eq_true_eq] at hr
  obtain ⟨_, he, ha⟩ := hr
  have R := right_of he ha
  have hfew := R.few
  have hpos := R.pos
  obtain ⟨r, h1, h2, h3, h4, h5⟩ := least_f l a.f0 a.f1 he R K (by omega)
  have h1' : ∀ k, 400002 ≤ k → runout_Least.f k l a.f0 a.f1 = some (r, 0) := by
    intro k hk
    obtain ⟨r', g1, g2, g3, g4, g5⟩ := least_f l a.f0 a.f1 he R k hk
    rw [g1, least_unique g2 h2 g4 g5 h4 h5]
  have J3 : ∀ k, 400010 ≤ k → metrolablaw38_RunoutMoves.j3 k l r a.f0 a.f1 = some true := by
    intro k hk
    obtain ⟨k, rfl⟩ : ∃ m, k = m + 1 := ⟨k - 1, by omega⟩
    have he3 := less_ok he
    have R3 := right_of he3 ha
    obtain ⟨c, g1, g2, g3, g4, g5⟩ := least_f _ _ _ he3 R3 k (by omega)
    have hcr : c ≤ r := by
      rcases Int.lt_or_le r c with h | h
      · have b1 := lmin_spec _ (sqs_ne R)
        have b2 := lmin_spec _ (sqs_ne R3)
        have b3 := lmax_spec _ (sqs_ne R)
        have b4 := lmax_spec _ (sqs_ne R3)
        have hz := g5 r h2 h
        have hy : nearB (lowS (lessL l) a.f0 a.f1) (highS (lessL l) a.f0 a.f1) r = true := near_inner (b1.2 _ (sqs_less hpos b2.1)) (b3.2 _ (sqs_less hpos b4.1)) h4
        rw [hz] at hy
        cases hy
      · exact h
    rw [metrolablaw38_RunoutMoves.j3]
    rw [if_pos (by omega), if_pos (by omega), g1, Option.bind_some, if_pos rfl, if_pos hcr, awake_t, Option.bind_some]
  have hm : ∀ k, 500000 ≤ k → l.length + 200 ≤ k → (metrolablaw38_right.f k (l.map (mvS b.f0 b.f1)) (wrap64 (b.f0 - a.f1)) (wrap64 (b.f1 + a.f0))) = some (rightV (l.map (mvS b.f0 b.f1)) (wrap64 (b.f0 - a.f1)) (wrap64 (b.f1 + a.f0))) ∧ (rightV (l.map (mvS b.f0 b.f1)) (wrap64 (b.f0 - a.f1)) (wrap64 (b.f1 + a.f0)) = true → runout_Least.f k (l.map (mvS b.f0 b.f1)) (wrap64 (b.f0 - a.f1)) (wrap64 (b.f1 + a.f0)) = some (r, 0)) := by
    intro k hk1 hk2
    have hlm : (l.map (mvS b.f0 b.f1)).length = l.length := List.length_map _
    refine ⟨right_f _ (by rw [hlm]; omega) _ _ _ (by rw [hlm]; omega), fun hr2 => ?_⟩
    unfold rightV at hr2
    simp only [Bool.and_eq_true, decide_eq_true_eq] at hr2
    obtain ⟨_, he2, ha2⟩ := hr2
    have R2 := right_of he2 ha2
    obtain ⟨r2, g1, g2, g3, g4, g5⟩ := least_f _ _ _ he2 R2 k (by omega)
    have e1 : lowS (l.map (mvS b.f0 b.f1)) (wrap64 (b.f0 - a.f1)) (wrap64 (b.f1 + a.f0)) = lowS l a.f0 a.f1 := lmin_congr (sqs_ne R2) (sqs_ne R) (sqs_move R hq)
    have e2 : highS (l.map (mvS b.f0 b.f1)) (wrap64 (b.f0 - a.f1)) (wrap64 (b.f1 + a.f0)) = highS l a.f0 a.f1 := lmax_congr (sqs_ne R2) (sqs_ne R) (sqs_move R hq)
    rw [e1, e2] at g4
    have g5' : ∀ t, 0 ≤ t → t < r2 → nearB (lowS l a.f0 a.f1) (highS l a.f0 a.f1) t = false := by rw [← e1, ← e2]; exact g5
    rw [g1, least_unique g2 h2 g4 g5' h4 h5]
  generalize hK2 : K + 10201 = K2
  rw [show K + 10202 = K2 + 1 by omega]
  rw [metrolablaw38_RunoutMoves.j0]
  rw [if_neg (show ¬ (false = true) by decide)]
  obtain ⟨K3, hK3, hl0⟩ := moves_l0 l a.f0 a.f1 b.f0 b.f1 (by omega) (fun s hs => by have := (R.pts s hs).2.1; omega) (l.length + 500000) l.length 0 [] (by omega) rfl K2 (by omega)
  rw [show ((0 : Nat) : Int) = 0 from rfl, List.drop_zero, List.nil_append] at hl0
  rw [hl0]
  obtain ⟨K3, rfl⟩ : ∃ m, K3 = m + 1 := ⟨K3 - 1, by omega⟩
  rw [metrolablaw38_RunoutMoves.l0]
  obtain ⟨m1, m2⟩ := hm K3 (by omega) (by omega)
  rw [if_neg (by omega), h1' K3 (by omega), Option.bind_some, if_pos rfl]
  simp only [metrolablaw38_RunoutMoves_1.f]
  rw [Option.bind_some, m1, Option.bind_some]
  by_cases hr2 : rightV (l.map (mvS b.f0 b.f1)) (wrap64 (b.f0 - a.f1)) (wrap64 (b.f1 + a.f0)) = true
  · rw [if_pos hr2, Option.bind_some, m2 hr2, Option.bind_some, if_pos rfl, if_pos rfl, J3 _ (by omega)]
  · rw [if_neg hr2, J3 _ (by omega)]
end Go.Proofs.Ytkpojbglckmddaa.Pure

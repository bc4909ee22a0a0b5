/- Plain laws on the reference's ends and radii. -/
import Derived.Test.YtkpojbglckmddaaBase
import Derived.Test.YtkpojbglckmddaaX9
namespace Go.Proofs.Ytkpojbglckmddaa.Base
open Go.RowKit Go.Proofs.Ytkpojbglckmddaa.X Go.Proofs.YtkpojbglckmddaaW.PrintWords Go.Proofs.Ytkpojbglckmddaa.Near
theorem far_f {x y : Int} {p : S25} (ha : okPoint ⟨x, y⟩ = true) (hp : okPoint p = true) : metrolabref07_Far.f p.f0 p.f1 x y = some (sqd x y p) := by
  unfold metrolabref07_Far.f metrolabref07_Minus.f metrolabref07_Times.f
  simp only [Option.bind_some]
  rw [sqd_wrap ha hp]
theorem rends_l0 (x y : Int) (ha : okPoint ⟨x, y⟩ = true) (l : List S25) (hl : l.length ≤ 1000000) (hp : ∀ p ∈ l, okPoint p = true) :
    ∀ (d i : Nat) (lo hi : Int), i + d = l.length → ∀ k, metrolabref38_Ends.l0 (k + d + 1) l lo hi (i : Int) x y = some (((l.drop i).map (sqd x y)).foldl mn lo, ((l.drop i).map (sqd x y)).foldl mx hi) := by
  intro d
  induction d with
  | zero =>
    intro i lo hi h k
    simp only [metrolabref38_Ends.l0]
    rw [if_neg (by omega), List.drop_of_length_le (by omega), List.map_nil, List.foldl_nil, List.foldl_nil]
  | succ d ih =>
    intro i lo hi h k
    have e : k + (d + 1) + 1 = (k + d + 1) + 1 := by omega
    rw [e]
    generalize hK : k + d + 1 = K
    simp only [metrolabref38_Ends.l0]
    subst hK
    rw [if_pos (by omega), if_pos (by omega), rd25, far_f ha (hp _ (mem_getD l z25 i (by omega)))]
    rw [Option.bind_some, Option.bind_some]
    rw [next_ i (by omega), ih (i + 1) _ _ (by omega) k, drop_cons_ l z25 i (by omega), List.map_cons, List.foldl_cons, List.foldl_cons]
theorem rends_f (x y : Int) (ha : okPoint ⟨x, y⟩ = true) (l : List S25) (hl : l.length ≤ 1000000) (hne : l ≠ []) (hp : ∀ p ∈ l, okPoint p = true) (k : Nat) :
    metrolabref38_Ends.f (k + l.length) l x y = some (lmin (l.map (sqd x y)), lmax (l.map (sqd x y))) := by
  cases l with
  | nil => exact absurd rfl hne
  | cons p t =>
    unfold metrolabref38_Ends.f
    rw [if_pos (by simp), show (0 : Int) = ((0 : Nat) : Int) from rfl, rd25]
    simp only [List.getD_cons_zero]
    rw [far_f ha (hp p List.mem_cons_self), Option.bind_some, Option.bind_some]
    have := rends_l0 x y ha (p :: t) hl hp t.length 1 (sqd x y p) (sqd x y p) (by simp; omega) k
    rw [show ((1 : Nat) : Int) = 1 from rfl] at this
    rw [show k + (p :: t).length = k + t.length + 1 by simp; omega, this, List.drop_one, List.tail_cons]
    simp only [lmin, lmax, List.map_cons]

end Go.Proofs.Ytkpojbglckmddaa.Base

/- Circular, Total and Least of the program and of the reference answer alike, for all sections, axes and tolerances. -/
import Derived.Test.YtkpojbglckmddaaSaidRunoutJudges
import Derived.Test.YtkpojbglckmddaaBaseTotal
import Derived.Test.YtkpojbglckmddaaBaseRef
import Derived.Test.YtkpojbglckmddaaBaseDecNear
namespace Go.Proofs.Ytkpojbglckmddaa.Pure
open Go.RowKit Go.Proofs.Ytkpojbglckmddaa.X Go.Proofs.YtkpojbglckmddaaW.PrintWords Go.Proofs.Ytkpojbglckmddaa.Base Go.Proofs.Ytkpojbglckmddaa.Near
open RunoutJudgesIn
namespace Judges
def G (l : List S62) (x y : Int) : Int := if errsOf l = 0 then (if okPoint ⟨x, y⟩ = true then 0 else 2) else errsOf l
theorem given_G (l : List S62) (x y : Int) (K : Nat) (hK : 164 ≤ K) : metrolabref38_Given.f K (l.map g70) x y = some (G l x y) := by
  have hg := given_f l x y (K - 164)
  rwa [show K - 164 + 164 = K by omega] at hg
theorem rtol_f (t : Int) : metrolabref38_Tol.f t = some (if tolB t = true then 0 else 2) := by
  unfold metrolabref38_Tol.f tolB
  by_cases h : t < 0
  · rw [if_pos h, decide_eq_false (show ¬ 0 ≤ t by omega)]; rfl
  · rw [if_neg h, decide_eq_true (show 0 ≤ t by omega)]
    by_cases h2 : t > 100000
    · rw [if_pos h2, decide_eq_false (by omega)]; rfl
    · rw [if_neg h2, decide_eq_true (by omega)]; rfl
theorem tol_range {t : Int} (h : tolB t = true) : 0 ≤ t ∧ t ≤ 100000 := by
  unfold tolB at h
  simp only [Bool.and_eq_true, decide_eq_true_eq] at h
  exact h
theorem rnear_k (K : Nat) (hK : 501 ≤ K) (low high t : Int) (h0 : 0 ≤ low) (h1 : low ≤ high) (h2 : high ≤ 80000000000) (t0 : 0 ≤ t) (t1 : t ≤ 400000) : metrolabref38_Near.f K low high t = some (nearB low high t) := by
  have := Dec.rnear_f (K - 501) low high t h0 (by omega) h2 (by omega) t0 t1
  rwa [show K - 501 + 501 = K by omega] at this
theorem rends_k (x y : Int) (ha : okPoint ⟨x, y⟩ = true) (l : List S25) (hl : l.length ≤ 10000) (hne : l ≠ []) (hp : ∀ p ∈ l, okPoint p = true) (K : Nat) (hK : 10000 ≤ K) : metrolabref38_Ends.f K l x y = some (lmin (l.map (sqd x y)), lmax (l.map (sqd x y))) := by
  have := rends_f x y ha l (by omega) hne hp (K - l.length)
  rwa [show K - l.length + l.length = K by omega] at this
theorem first_l0 (l : List S62) (x y t : Int) (h : Right l x y) (t0 : 0 ≤ t) (t1 : t ≤ 100000) : ∀ (d i : Nat), i + d = l.length → ∀ k, 10000 ≤ k →
    metrolabref38_First.l0 (k + d + 1) (l.map g70) t (i : Int) x y = some ((i + ((l.drop i).takeWhile (fun s => nearP s x y t)).length : Nat) : Int) := by
  have hf := h.few
  have hbd := bounds h
  have hlen : (l.map g70).length = l.length := List.length_map _
  intro d
  induction d with
  | zero =>
    intro i hi k hk
    simp only [metrolabref38_First.l0]
    rw [hlen, if_neg (by omega), List.drop_of_length_le (by omega), List.takeWhile_nil, List.length_nil, show i + 0 = l.length by omega]
  | succ d ih =>
    intro i hi k hk
    have hlt : i < l.length := by omega
    have hmem : l.getD i z62 ∈ l := mem_getD l z62 _ hlt
    have hb := boundsP h hmem
    obtain ⟨h1, h2, h3⟩ := h.pts _ hmem
    have hg : (l.map g70).getD i z70 = g70 (l.getD i z62) := by
      rw [List.getD_eq_getElem?_getD, List.getElem?_map, List.getD_eq_getElem?_getD, List.getElem?_eq_getElem hlt]; rfl
    rw [show k + (d + 1) + 1 = (k + d + 1) + 1 by omega]
    have ih' := ih (i + 1) (by omega) k hk
    generalize hK : k + d + 1 = K at *
    simp only [metrolabref38_First.l0]
    have he := rends_k x y h.axis (l.getD i z62).f1 (by omega) (fun e => h1 (by rw [e]; rfl)) h3 K (by omega)
    rw [hlen, if_pos (by omega), if_pos (by omega), rd70, hg, show (g70 (l.getD i z62)).f1 = (l.getD i z62).f1 from rfl, he, Option.bind_some]
    show ((metrolabref38_Near.f K (lowP (l.getD i z62) x y) (highP (l.getD i z62) x y) t).bind _) = _
    rw [rnear_k K (by omega) _ _ t (by omega) hb.2.1 (by omega) t0 (by omega), Option.bind_some, drop_cons_ l z62 i hlt, List.takeWhile_cons]
    by_cases hc : nearP (l.getD i z62) x y t = true
    · rw [if_pos hc, if_pos (show nearB _ _ t = true from hc), next_ i (by omega), ih', List.length_cons]
      congr 2
      omega
    · rw [if_neg hc, if_neg (show ¬ nearB _ _ t = true from hc)]
      simp
theorem rcircular_f (l : List S62) (x y t : Int) (h0 : G l x y = 0) (h : Right l x y) (t0 : 0 ≤ t) (t1 : t ≤ 100000) (K : Nat) (hK : 20000 ≤ K) : metrolabref38_Circular.f K (l.map g70) x y t = some (decide (kept l x y t = l.length), (kept l x y t : Int), 0) := by
  have hf := h.few
  unfold metrolabref38_Circular.f metrolabref38_First.f
  have hg := given_G l x y K (by omega)
  have h1 := first_l0 l x y t h t0 t1 l.length 0 (by omega) (K - l.length - 1) (by omega)
  rw [show K - l.length - 1 + l.length + 1 = K by omega, List.drop_zero, Nat.zero_add, show ((0 : Nat) : Int) = 0 from rfl] at h1
  rw [hg, Option.bind_some, if_pos h0, rtol_f, Option.bind_some, if_pos (by rw [if_pos (by unfold tolB; simp; omega)]), h1, Option.bind_some, List.length_map]
  congr 2
  show (((kept l x y t : Nat) : Int) == (l.length : Int)) = _
  by_cases e : kept l x y t = l.length
  · rw [decide_eq_true e, e]; simp
  · rw [decide_eq_false e]; exact beq_eq_false_iff_ne.mpr (by omega)
theorem all_l0 (l : List S62) (hb : l.length ≤ 64) (hp : ∀ s ∈ l, s.f1.length ≤ 64) : ∀ (d i : Nat) (acc : List S25), i + d = l.length → acc.length ≤ 64 * i → ∀ k, metrolabref38_All.l0 (k + d + 1) (l.map g70) acc (i : Int) = some (acc ++ (l.drop i).flatMap (·.f1)) := by
  have hlen : (l.map g70).length = l.length := List.length_map _
  intro d
  induction d with
  | zero =>
    intro i acc hi ha k
    simp only [metrolabref38_All.l0]
    rw [hlen, if_neg (by omega), List.drop_of_length_le (by omega)]
    simp
  | succ d ih =>
    intro i acc hi ha k
    have hlt : i < l.length := by omega
    have hmem : l.getD i z62 ∈ l := mem_getD l z62 _ hlt
    have hq := hp _ hmem
    have hg : (l.map g70).getD i z70 = g70 (l.getD i z62) := by
      rw [List.getD_eq_getElem?_getD, List.getElem?_map, List.getD_eq_getElem?_getD, List.getElem?_eq_getElem hlt]; rfl
    rw [show k + (d + 1) + 1 = (k + d + 1) + 1 by omega]
    have ih' := ih (i + 1) (acc ++ (l.getD i z62).f1) (by omega) (by rw [List.length_append]; omega) k
    generalize hK : k + d + 1 = K at *
    simp only [metrolabref38_All.l0]
    rw [hlen, if_pos (by omega), if_pos (by omega), rd70, hg, show (g70 (l.getD i z62)).f1 = (l.getD i z62).f1 from rfl, if_pos (by omega), next_ i (by omega), ih', drop_cons_ l z62 i hlt, List.flatMap_cons, List.append_assoc]
theorem all_f (l : List S62) (hb : l.length ≤ 64) (hp : ∀ s ∈ l, s.f1.length ≤ 64) (K : Nat) (hK : 100 ≤ K) : metrolabref38_All.f K (l.map g70) = some (l.flatMap (·.f1)) := by
  unfold metrolabref38_All.f
  have := all_l0 l hb hp l.length 0 [] (by omega) (by simp) (K - l.length - 1)
  rwa [show K - l.length - 1 + l.length + 1 = K by omega, List.nil_append, List.drop_zero] at this
theorem flat_len (l : List S62) (hp : ∀ s ∈ l, s.f1.length ≤ 64) : (l.flatMap (·.f1)).length ≤ 64 * l.length := by
  induction l with
  | nil => simp
  | cons s t ih =>
    have h1 := hp s List.mem_cons_self
    have h2 := ih (fun q hq => hp q (List.mem_cons_of_mem _ hq))
    rw [List.flatMap_cons, List.length_append, List.length_cons]
    omega
theorem ends_all (l : List S62) (x y : Int) (h : Right l x y) (K : Nat) (hK : 10000 ≤ K) : metrolabref38_Ends.f K (l.flatMap (·.f1)) x y = some (lowS l x y, highS l x y) := by
  have hf := h.few
  have hl := flat_len l (fun s hs => (h.pts s hs).2.1)
  have hm : ∀ n, n ∈ (l.flatMap (·.f1)).map (sqd x y) ↔ n ∈ sqs l x y := by
    intro n
    rw [mem_sqs]
    simp only [List.mem_map, List.mem_flatMap]
    constructor
    · rintro ⟨p, ⟨s, hs, hp⟩, e⟩; exact ⟨s, hs, p, hp, e⟩
    · rintro ⟨s, hs, p, hp, e⟩; exact ⟨p, ⟨s, hs, hp⟩, e⟩
  have hne : (l.flatMap (·.f1)).map (sqd x y) ≠ [] := by
    intro e
    have a := (lmin_spec _ (sqs_ne h)).1
    rw [← hm, e] at a
    cases a
  rw [rends_k x y h.axis _ (by omega) (fun e => hne (by rw [e]; rfl)) (by
    intro p hp
    obtain ⟨s, hs, hp⟩ := List.mem_flatMap.1 hp
    exact (h.pts s hs).2.2 p hp) K hK, lmin_congr hne (sqs_ne h) hm, lmax_congr hne (sqs_ne h) hm]
  rfl
theorem rtotal_f (l : List S62) (x y t : Int) (h0 : G l x y = 0) (h : Right l x y) (t0 : 0 ≤ t) (t1 : t ≤ 100000) (K : Nat) (hK : 20000 ≤ K) : metrolabref38_Total.f K (l.map g70) x y t = some (nearB (lowS l x y) (highS l x y) t, 0) := by
  have hf := h.few
  have hb := bounds h
  unfold metrolabref38_Total.f
  have hg := given_G l x y K (by omega)
  rw [hg, Option.bind_some, if_pos h0, rtol_f, Option.bind_some, if_pos (by rw [if_pos (by unfold tolB; simp; omega)]), all_f l (by omega) (fun s hs => (h.pts s hs).2.1) K (by omega), Option.bind_some, ends_all l x y h K (by omega), Option.bind_some, rnear_k K (by omega) _ _ t hb.1 hb.2.1 hb.2.2 t0 (by omega), Option.bind_some]
theorem rleast_l0 (lo hi : Int) (h0 : 0 ≤ lo) (h1 : lo ≤ hi) (h2 : hi ≤ 80000000000) : ∀ (d : Nat) (bad good : Int), good - bad = d → -1 ≤ bad → bad < good → good ≤ 400000 → nearB lo hi good = true → (∀ t, 0 ≤ t → t ≤ bad → nearB lo hi t = false) → ∀ k, d + 600 ≤ k →
    ∃ r, metrolabref38_Least.l0 k lo hi bad good = some (r, 0) ∧ 0 ≤ r ∧ r ≤ 400000 ∧ nearB lo hi r = true ∧ ∀ t, 0 ≤ t → t < r → nearB lo hi t = false := by
  intro d
  induction d using Nat.strongRecOn with
  | _ d ih =>
    intro b g hd hb hbg hg hn hz k hk
    obtain ⟨k, rfl⟩ : ∃ m, k = m + 1 := ⟨k - 1, by omega⟩
    simp only [metrolabref38_Least.l0]
    by_cases hlt : g - b > 1
    · rw [w64 (g - b) (by omega) (by omega), if_pos hlt, w64 (b + g) (by omega) (by omega), Int.tdiv_eq_ediv_of_nonneg (by omega), w64 ((b + g) / 2) (by omega) (by omega), rnear_k k (by omega) lo hi _ h0 h1 h2 (by omega) (by omega), Option.bind_some]
      by_cases hc : nearB lo hi ((b + g) / 2) = true
      · rw [if_pos hc]
        exact ih ((b + g) / 2 - b).toNat (by omega) b ((b + g) / 2) (by omega) hb (by omega) (by omega) hc hz k (by omega)
      · rw [if_neg hc]
        refine ih (g - (b + g) / 2).toNat (by omega) ((b + g) / 2) g (by omega) (by omega) (by omega) hg hn (fun q hq hq2 => ?_) k (by omega)
        by_cases hq3 : nearB lo hi q = true
        · exact absurd (near_mono h0 hq (by omega) hq3) hc
        · simpa using hq3
    · rw [w64 (g - b) (by omega) (by omega), if_neg hlt]
      exact ⟨g, rfl, by omega, hg, hn, fun t ht htg => hz t ht (by omega)⟩
theorem rleast_f (l : List S62) (x y : Int) (h0 : G l x y = 0) (h : Right l x y) (K : Nat) (hK : 500000 ≤ K) :
    ∃ r, metrolabref38_Least.f K (l.map g70) x y = some (r, 0) ∧ 0 ≤ r ∧ r ≤ 400000 ∧ nearB (lowS l x y) (highS l x y) r = true ∧ ∀ t, 0 ≤ t → t < r → nearB (lowS l x y) (highS l x y) t = false := by
  have hf := h.few
  have hb := bounds h
  obtain ⟨r, hr, hx⟩ := rleast_l0 (lowS l x y) (highS l x y) hb.1 hb.2.1 hb.2.2 400001 (-1) 400000 (by omega) (by omega) (by omega) (by omega) (near_max _ _ hb.1 hb.2.2) (fun t h1 h2 => by omega) K (by omega)
  refine ⟨r, ?_, hx⟩
  unfold metrolabref38_Least.f
  have hg := given_G l x y K (by omega)
  rw [hg, Option.bind_some, if_pos h0, all_f l (by omega) (fun s hs => (h.pts s hs).2.1) K (by omega), Option.bind_some, ends_all l x y h K (by omega), Option.bind_some]
  exact hr
/-- the three answers, of the program and of the reference -/
theorem answers (l : List S62) (x y t : Int) (K : Nat) (hK : 500000 ≤ K) : ∃ (a : Bool × Int × Int) (b : Bool × Int) (c : Int × Int),
    runout_Circular.f K l x y t = some a ∧ metrolabref38_Circular.f K (l.map g70) x y t = some a ∧ runout_Total.f K l x y t = some b ∧ metrolabref38_Total.f K (l.map g70) x y t = some b ∧ runout_Least.f K l x y = some c ∧ metrolabref38_Least.f K (l.map g70) x y = some c := by
  have hg := given_G l x y K (by omega)
  have hc : runout_check.f l x y = some (G l x y) := check_f l x y
  by_cases h0 : G l x y = 0
  · have h00 := given_zero.1 h0
    have R := right_of h00.1 h00.2
    obtain ⟨r, r1, r2, r3, r4, r5⟩ := least_f l x y h00.1 R K (by omega)
    obtain ⟨q, q1, q2, q3, q4, q5⟩ := rleast_f l x y h0 R K hK
    have hrq : r = q := by
      rcases Int.lt_trichotomy r q with h | h | h
      · have := q5 r r2 h; rw [r4] at this; cases this
      · exact h
      · have := r5 q q2 h; rw [q4] at this; cases this
    subst hrq
    by_cases ht : tolB t = true
    · have lt := tol_range ht
      exact ⟨_, _, _, circular_f l x y t h00.1 R lt.1 lt.2 K (by omega), rcircular_f l x y t h0 R lt.1 lt.2 K (by omega), total_f l x y t h00.1 R lt.1 lt.2 K (by omega), rtotal_f l x y t h0 R lt.1 lt.2 K (by omega), r1, q1⟩
    · refine ⟨(false, 0, 2), (false, 2), (r, 0), ?_, ?_, ?_, ?_, r1, q1⟩
      · unfold runout_Circular.f
        rw [hc, Option.bind_some, if_pos h0, tol_f, Option.bind_some, if_neg ht]
      · unfold metrolabref38_Circular.f
        rw [hg, Option.bind_some, if_pos h0, rtol_f, Option.bind_some, if_neg ht, if_neg (by decide)]
      · unfold runout_Total.f
        rw [hc, Option.bind_some, if_pos h0, tol_f, Option.bind_some, if_neg ht]
      · unfold metrolabref38_Total.f
        rw [hg, Option.bind_some, if_pos h0, rtol_f, Option.bind_some, if_neg ht, if_neg (by decide)]
  · refine ⟨(false, 0, G l x y), (false, G l x y), (0, G l x y), ?_, ?_, ?_, ?_, ?_, ?_⟩
    · unfold runout_Circular.f
      rw [hc, Option.bind_some, if_neg h0]
    · unfold metrolabref38_Circular.f
      rw [hg, Option.bind_some, if_neg h0]
    · unfold runout_Total.f
      rw [hc, Option.bind_some, if_neg h0]
    · unfold metrolabref38_Total.f
      rw [hg, Option.bind_some, if_neg h0]
    · unfold runout_Least.f
      rw [hc, Option.bind_some, if_neg h0]
    · unfold metrolabref38_Least.f
      rw [hg, Option.bind_some, if_neg h0]
end Judges
open Judges
theorem RunoutJudges : SaidRunoutJudges := by
  intro l a t _ hl _ _
  have hlen : l.length ≤ 4398046511103 := by omega
  refine ⟨l.length + 500002, ?_⟩
  have h1 := own_f l hlen 500001
  rw [show 500001 + l.length + 1 = l.length + 500002 by omega] at h1
  have h2 := fewS_f l hlen 500000
  rw [show 500000 + l.length + 2 = l.length + 500002 by omega] at h2
  obtain ⟨A, B, C, e1, e2, e3, e4, e5, e6⟩ := answers l a.f0 a.f1 t (l.length + 500002) (by omega)
  unfold metrolablaw38_RunoutJudges.f
  rw [h1, Option.bind_some, h2, Option.bind_some]
  by_cases hf : fewS l = true
  · rw [if_pos hf, e1, Option.bind_some, Option.bind_some, e2, Option.bind_some, e3, Option.bind_some, Option.bind_some, e4, Option.bind_some, e5, Option.bind_some, Option.bind_some, e6, Option.bind_some, awake_t, Option.bind_some, if_pos rfl, if_pos (by simp), if_pos rfl, if_pos rfl, if_pos (by simp), if_pos rfl, if_pos rfl]
    simp
  · rw [if_neg hf, awake_t, Option.bind_some]
end Go.Proofs.Ytkpojbglckmddaa.Pure

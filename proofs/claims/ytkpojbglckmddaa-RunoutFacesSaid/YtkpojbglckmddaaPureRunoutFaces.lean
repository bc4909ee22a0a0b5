/- Face of the program and of the reference answer alike, for all points, axes and tolerances. -/
import Derived.Test.YtkpojbglckmddaaSaidRunoutFaces
namespace Go.Proofs.Ytkpojbglckmddaa.Pure
open Go.RowKit Go.Proofs.Ytkpojbglckmddaa.X Go.Proofs.YtkpojbglckmddaaW.PrintWords
open RunoutFacesIn
namespace Faces
theorem foldl_mn (l : List Int) : ∀ a, l.foldl mn a ≤ a ∧ (∀ x ∈ l, l.foldl mn a ≤ x) ∧ (l.foldl mn a = a ∨ l.foldl mn a ∈ l) := by
  induction l with
  | nil => intro a; simp
  | cons b t ih =>
    intro a
    obtain ⟨h1, h2, h3⟩ := ih (mn a b)
    have hm : mn a b ≤ a ∧ mn a b ≤ b ∧ (mn a b = a ∨ mn a b = b) := by unfold mn; split <;> omega
    rw [List.foldl_cons]
    refine ⟨by omega, fun x hx => ?_, ?_⟩
    · rcases List.mem_cons.1 hx with rfl | hx
      · omega
      · exact h2 x hx
    · rcases h3 with h3 | h3
      · rcases hm.2.2 with h4 | h4
        · exact .inl (h3.trans h4)
        · exact .inr (by rw [h3, h4]; exact List.mem_cons_self)
      · exact .inr (List.mem_cons_of_mem _ h3)
theorem foldl_mx (l : List Int) : ∀ a, a ≤ l.foldl mx a ∧ (∀ x ∈ l, x ≤ l.foldl mx a) ∧ (l.foldl mx a = a ∨ l.foldl mx a ∈ l) := by
  induction l with
  | nil => intro a; simp
  | cons b t ih =>
    intro a
    obtain ⟨h1, h2, h3⟩ := ih (mx a b)
    have hm : a ≤ mx a b ∧ b ≤ mx a b ∧ (mx a b = a ∨ mx a b = b) := by unfold mx; split <;> omega
    rw [List.foldl_cons]
    refine ⟨by omega, fun x hx => ?_, ?_⟩
    · rcases List.mem_cons.1 hx with rfl | hx
      · omega
      · exact h2 x hx
    · rcases h3 with h3 | h3
      · rcases hm.2.2 with h4 | h4
        · exact .inl (h3.trans h4)
        · exact .inr (by rw [h3, h4]; exact List.mem_cons_self)
      · exact .inr (List.mem_cons_of_mem _ h3)
theorem lmin_spec (l : List Int) (h : l ≠ []) : lmin l ∈ l ∧ ∀ x ∈ l, lmin l ≤ x := by
  cases l with
  | nil => exact absurd rfl h
  | cons a t =>
    obtain ⟨h1, h2, h3⟩ := foldl_mn t a
    refine ⟨?_, fun x hx => ?_⟩
    · rcases h3 with h3 | h3
      · exact List.mem_cons.2 (.inl h3)
      · exact List.mem_cons_of_mem _ h3
    · rcases List.mem_cons.1 hx with rfl | hx
      · exact h1
      · exact h2 x hx
theorem lmax_spec (l : List Int) (h : l ≠ []) : lmax l ∈ l ∧ ∀ x ∈ l, x ≤ lmax l := by
  cases l with
  | nil => exact absurd rfl h
  | cons a t =>
    obtain ⟨h1, h2, h3⟩ := foldl_mx t a
    refine ⟨?_, fun x hx => ?_⟩
    · rcases h3 with h3 | h3
      · exact List.mem_cons.2 (.inl h3)
      · exact List.mem_cons_of_mem _ h3
    · rcases List.mem_cons.1 hx with rfl | hx
      · exact h1
      · exact h2 x hx
theorem right_f (p : S89) : metrolabref07_RightSpot.f p.f0 p.f1 p.f2 = some (okSpot p) := by
  have h : ∀ a, metrolabref07_in.f a = some (inRangeSpot a) := by
    intro a
    unfold metrolabref07_in.f inRangeSpot
    by_cases h1 : a ≥ -100000
    · rw [if_pos h1]; simp; omega
    · rw [if_neg h1]; simp; omega
  unfold metrolabref07_RightSpot.f okSpot
  rw [h, h, h, Option.bind_some]
  cases inRangeSpot p.f0
  · rfl
  · rw [if_pos rfl, Option.bind_some]
    cases inRangeSpot p.f1
    · rfl
    · rw [if_pos rfl, Option.bind_some]; simp
theorem rd89 (l : List S89) (i : Nat) : rd_T89 l (i : Int) = l.getD i z89 := by unfold rd_T89; rw [Int.toNat_natCast]
theorem drop_cons_ (l : List S89) (i : Nat) (h : i < l.length) : l.drop i = rd_T89 l i :: l.drop (i + 1) := by
  rw [rd89, List.drop_eq_getElem_cons h, List.getD_eq_getElem?_getD, List.getElem?_eq_getElem h]; rfl
theorem rspots_l0 (l : List S89) (hl : l.length ≤ 64) : ∀ (d i : Nat), i + d = l.length → ∀ k, metrolabref07_CheckSpots.l0 (k + d + 1) l (i : Int) = some (if (l.drop i).all okSpot then 0 else 2) := by
  intro d
  induction d with
  | zero =>
    intro i hi k
    simp only [metrolabref07_CheckSpots.l0]
    rw [if_neg (by omega), List.drop_of_length_le (by omega)]
    rfl
  | succ d ih =>
    intro i hi k
    rw [show k + (d + 1) + 1 = (k + d + 1) + 1 by omega]
    generalize hK : (k + d + 1) = K
    simp only [metrolabref07_CheckSpots.l0]
    subst hK
    rw [if_pos (by omega), if_pos (by omega), right_f, Option.bind_some, show wrap64 ((i : Int) + 1) = ((i + 1 : Nat) : Int) by unfold wrap64; omega, ih (i + 1) (by omega) k, drop_cons_ l i (by omega), List.all_cons]
    cases okSpot (rd_T89 l i) <;> simp
theorem rspots_f (l : List S89) (k : Nat) : metrolabref07_CheckSpots.f (k + 65) l = some (if l.length > 64 then 5 else allSpot l) := by
  unfold metrolabref07_CheckSpots.f allSpot
  by_cases h : l.length > 64
  · rw [if_pos h, if_pos (by omega)]
  · rw [if_neg h, if_neg (by omega)]
    have := rspots_l0 l (by omega) l.length 0 (by omega) (k + (64 - l.length))
    rw [show k + (64 - l.length) + l.length + 1 = k + 65 by omega] at this
    simpa using this
theorem pairs_eq (l : List S89) (ax t : Int) (h0 : l ≠ []) (hok : l.all okSpot = true) : pairsOk l ax t = decide (wrap64 (lmax (l.map (coord ax)) - lmin (l.map (coord ax))) ≤ t) := by
  have hc : ∀ p, rcoord ax p = coord ax p := fun p => rfl
  have hb : ∀ p ∈ l, -100000 ≤ coord ax p ∧ coord ax p ≤ 100000 := by
    intro p hp
    have := List.all_eq_true.1 hok p hp
    unfold okSpot inRangeSpot at this
    simp only [Bool.and_eq_true, decide_eq_true_eq] at this
    unfold coord
    split
    · omega
    · split <;> omega
  have hne : l.map (coord ax) ≠ [] := by simpa using h0
  have M := lmax_spec _ hne
  have m := lmin_spec _ hne
  obtain ⟨p, hp, ep⟩ := List.mem_map.1 M.1
  obtain ⟨q, hq, eq⟩ := List.mem_map.1 m.1
  have bp := hb p hp
  have bq := hb q hq
  have hw : ∀ x : Int, -200000 ≤ x → x ≤ 200000 → wrap64 x = x := by intro x h1 h2; unfold wrap64; omega
  have rdm : ∀ i : Nat, i < l.length → rd_T89 l i ∈ l := by
    intro i hi
    rw [rd89, List.getD_eq_getElem?_getD, List.getElem?_eq_getElem hi]; exact List.getElem_mem _
  have rdi : ∀ p ∈ l, ∃ i : Nat, i < l.length ∧ rd_T89 l i = p := by
    intro p hp
    obtain ⟨i, hi, e⟩ := List.getElem_of_mem hp
    refine ⟨i, hi, ?_⟩
    rw [rd89, List.getD_eq_getElem?_getD, List.getElem?_eq_getElem hi]; exact e
  rw [Bool.eq_iff_iff, pairsOk_iff, decide_eq_true_eq, hw _ (by omega) (by omega)]
  constructor
  · intro h
    obtain ⟨i, hi, ei⟩ := rdi p hp
    obtain ⟨j, hj, ej⟩ := rdi q hq
    have := h i j hi hj
    unfold pairB at this
    rw [ei, ej, hc, hc, hw _ (by omega) (by omega)] at this
    have := of_decide_eq_false this
    omega
  · intro h i k hi hk
    have b1 := hb _ (rdm i hi)
    have b2 := hb _ (rdm k hk)
    have c1 := M.2 _ (List.mem_map_of_mem (rdm i hi))
    have c2 := m.2 _ (List.mem_map_of_mem (rdm k hk))
    unfold pairB
    rw [hc, hc, hw _ (by omega) (by omega)]
    exact decide_eq_false (by omega)
end Faces
open Faces
theorem RunoutFaces : SaidRunoutFaces := by
  intro l a t _ _ _ _
  refine ⟨65, ?_⟩
  unfold metrolablaw38_RunoutFaces.f
  have hr : metrolabref38_Face.f 65 l a t = some (faceV l a t) := by
    unfold metrolabref38_Face.f
    rw [rspots_f l 0, Option.bind_some]
    unfold rfaceV faceV
    obtain ⟨e, he⟩ : ∃ e : Int, e = if l.length > 64 then 5 else allSpot l := ⟨_, rfl⟩
    rw [← he]
    by_cases h0 : e = 0
    · have h64 : ¬ 64 < l.length := by
        intro h
        rw [if_pos h] at he; omega
      have hne : ¬ (e ≠ 0) := fun h => h h0
      dsimp only
      rw [if_neg hne, if_neg hne]
      by_cases h2 : l.length = 0
      · rw [if_pos h2, if_pos h2]
      · rw [if_neg h2, if_neg h2, if_neg h64]
        by_cases h3 : a < 0 ∨ 3 ≤ a
        · rw [if_pos h3, if_pos h3]
        · rw [if_neg h3, if_neg h3]
          by_cases h5 : 0 ≤ t ∧ t ≤ 100000
          · rw [if_neg (fun h => h h5), if_neg (fun h => h h5)]
            rw [pairs_eq l a t (fun e => h2 (by rw [e]; rfl)) (by
              rw [if_neg h64] at he
              unfold allSpot at he
              by_cases h : l.all okSpot = true
              · exact h
              · rw [if_neg h] at he; omega)]
          · rw [if_pos h5, if_pos h5]
    · rw [if_pos h0]
      dsimp only
      rw [if_pos h0]
  have hf : runout_Face.f l a t = some (faceV l a t) := rfl
  have haw : metrolablaw38_awake.f = some true := rfl
  have hfew : ∃ b, metrolabref07_FewSpots.f l = some b := by
    unfold metrolabref07_FewSpots.f
    split
    · exact ⟨_, rfl⟩
    · split <;> exact ⟨_, rfl⟩
  obtain ⟨b, hb⟩ := hfew
  rw [hb, Option.bind_some, hf, hr, haw]
  cases b
  · rfl
  · rw [if_pos rfl, Option.bind_some, Option.bind_some, Option.bind_some, if_pos rfl]
    simp
end Go.Proofs.Ytkpojbglckmddaa.Pure

/- Plain laws on moved sections, and on sections without one, or without a point. -/
import Derived.Test.YtkpojbglckmddaaBaseRight
import Derived.Test.YtkpojbglckmddaaX22
namespace Go.Proofs.Ytkpojbglckmddaa.Base
open Go.RowKit Go.Proofs.Ytkpojbglckmddaa.X Go.Proofs.YtkpojbglckmddaaW.PrintWords Go.Proofs.Ytkpojbglckmddaa.Near
def mvP (b0 b1 : Int) (p : S25) : S25 := ⟨wrap64 (b0 - p.f1), wrap64 (b1 + p.f0)⟩
def mvS (b0 b1 : Int) (s : S62) : S62 := ⟨s.f0, s.f1.map (mvP b0 b1)⟩
theorem moves_l1 (l x8 x32 : List S62) (x33 x34 a0 a1 b0 b1 off : Int) (pts pts2 : List S25) (hp : pts.length ≤ 1000000) (h8 : x8.length ≤ 1000000) : ∀ (d i : Nat) (acc : List S25), i + d = pts.length → acc.length = i → ∀ k,
    metrolablaw38_RunoutMoves.l1 (k + d + 1) l x8 acc x32 x33 x34 pts (pts.length : Int) (i : Int) a0 a1 b0 b1 off pts2 = metrolablaw38_RunoutMoves.l0 k l (x8 ++ [⟨off, acc ++ (pts.drop i).map (mvP b0 b1)⟩]) x32 x33 (wrap64 (x34 + 1)) a0 a1 b0 b1 := by
  intro d
  induction d with
  | zero =>
    intro i acc hi ha k
    simp only [metrolablaw38_RunoutMoves.l1]
    rw [if_neg (by omega), if_pos (by omega), List.drop_of_length_le (by omega)]
    simp
  | succ d ih =>
    intro i acc hi ha k
    rw [show k + (d + 1) + 1 = (k + d + 1) + 1 by omega]
    have ih' := ih (i + 1) (acc ++ [mvP b0 b1 (pts.getD i z25)]) (by omega) (by simp [ha]) k
    generalize hK : k + d + 1 = K at *
    simp only [metrolablaw38_RunoutMoves.l1, metrolablaw38_RunoutMoves_1.f]
    rw [if_pos (by omega), if_pos (by omega), if_pos (by omega), Option.bind_some, if_pos (by omega), next_ i (by omega), rd25]
    refine Eq.trans ih' ?_
    rw [drop_cons_ pts z25 i (by omega), List.map_cons, List.append_assoc, List.singleton_append]
theorem moves_l0 (l : List S62) (a0 a1 b0 b1 : Int) (hl : l.length ≤ 100) (hp : ∀ s ∈ l, s.f1.length ≤ 100) (K : Nat) : ∀ (d i : Nat) (acc : List S62), i + d = l.length → acc.length = i → ∀ k, K + 102 * d + 1 ≤ k → ∃ k', K + 1 ≤ k' ∧
    metrolablaw38_RunoutMoves.l0 k l acc l (l.length : Int) (i : Int) a0 a1 b0 b1 = metrolablaw38_RunoutMoves.l0 k' l (acc ++ (l.drop i).map (mvS b0 b1)) l (l.length : Int) (l.length : Int) a0 a1 b0 b1 := by
  intro d
  induction d with
  | zero =>
    intro i acc hi ha k hk
    obtain rfl : i = l.length := by omega
    refine ⟨k, by omega, ?_⟩
    rw [List.drop_of_length_le (Nat.le_refl _), List.map_nil, List.append_nil]
  | succ d ih =>
    intro i acc hi ha k hk
    have hs := hp _ (mem_getD l z62 i (by omega))
    obtain ⟨k2, rfl⟩ : ∃ m, k = m + (l.getD i z62).f1.length + 1 + 1 := ⟨k - (l.getD i z62).f1.length - 2, by omega⟩
    obtain ⟨k', hk', ih'⟩ := ih (i + 1) (acc ++ [mvS b0 b1 (l.getD i z62)]) (by omega) (by simp [ha]) k2 (by omega)
    refine ⟨k', hk', Eq.trans ?_ (ih'.trans ?_)⟩
    · have hz := moves_l1 l acc l (l.length : Int) (i : Int) a0 a1 b0 b1 (l.getD i z62).f0 (l.getD i z62).f1 (l.getD i z62).f1 (by omega) (by omega) (l.getD i z62).f1.length 0 [] (by omega) rfl k2
      generalize hK1 : k2 + (l.getD i z62).f1.length + 1 = K1 at *
      rw [metrolablaw38_RunoutMoves.l0]
      rw [if_pos (by omega), if_pos (by omega), if_pos (by omega), rd62]
      rw [show ((0 : Nat) : Int) = 0 from rfl] at hz
      rw [hz, next_ i (by omega), List.drop_zero, List.nil_append]
      rfl
    · rw [drop_cons_ l z62 i (by omega), List.map_cons, List.append_assoc, List.singleton_append]
theorem errsOf_zero {l : List S62} : errsOf l = 0 ↔ l.length ≠ 0 ∧ l.length ≤ 32 ∧ ∀ i, i < l.length → errAt l i = 0 := by
  unfold errsOf
  constructor
  · intro h
    split at h
    · omega
    · split at h
      · omega
      · refine ⟨by assumption, by omega, fun i hi => ?_⟩
        exact firstErr_none h (errAt l i) (List.mem_map.2 ⟨i, by simpa using hi, rfl⟩)
  · rintro ⟨h1, h2, h3⟩
    rw [if_neg h1, if_neg (by omega)]
    unfold firstErr
    have : (errsTo l l.length).find? (fun e => decide (e ≠ 0)) = none := by
      rw [List.find?_eq_none]
      intro e he
      obtain ⟨i, hi, rfl⟩ := List.mem_map.1 he
      rw [h3 i (by simpa using hi)]
      decide
    rw [this]
    rfl
theorem sectionErr_none {x : S62} {b : Option Int} (h : sectionErr x b = 0) : sectionErr x none = 0 := by
  unfold sectionErr at *
  split at h
  · omega
  · rename_i hb
    rw [if_neg hb]
    cases b with
    | none => exact h
    | some b =>
      simp only at h ⊢
      split at h
      · omega
      · exact h
theorem errAt_eq (l : List S62) (i : Nat) : errAt l i = sectionErr (l.getD i z62) (if i = 0 then none else some (l.getD (i - 1) z62).f0) := by unfold errAt; rw [rd62, rd62]
theorem less_ok {l : List S62} (h : errsOf l = 0) : errsOf (lessL l) = 0 := by
  rw [errsOf_zero] at *
  obtain ⟨h1, h2, h3⟩ := h
  unfold lessL
  by_cases hl : 1 < l.length
  · rw [if_pos hl]
    refine ⟨by simp; omega, by simp; omega, fun i hi => ?_⟩
    simp only [List.length_drop] at hi
    have h4 := h3 (i + 1) (by omega)
    rw [errAt_eq] at h4 ⊢
    have hg : ∀ j, (l.drop 1).getD j z62 = l.getD (j + 1) z62 := fun j => by
      rw [List.getD_eq_getElem?_getD, List.getElem?_drop, List.getD_eq_getElem?_getD, Nat.add_comm]
    rw [hg]
    by_cases hi0 : i = 0
    · rw [if_pos hi0]
      exact sectionErr_none h4
    · rw [if_neg hi0, hg, show i - 1 + 1 = i + 1 - 1 by omega]
      rw [if_neg (by omega)] at h4
      exact h4
  · rw [if_neg hl]
    refine ⟨by simp, by simp, fun i hi => ?_⟩
    simp only [List.length_singleton] at hi
    obtain rfl : i = 0 := by omega
    have h4 := h3 0 (by omega)
    rw [errAt_eq] at h4 ⊢
    rw [if_pos rfl] at h4 ⊢
    obtain ⟨s, rfl⟩ : ∃ s, l = [s] := by
      match l, h1, hl with
      | [s], _, _ => exact ⟨s, rfl⟩
      | [], h, _ => exact absurd rfl h
      | _ :: _ :: _, _, h => simp at h
    rw [show ([s].getD 0 z62) = s from rfl] at h4
    rw [show ([cutS (rd_T62 [s] 0)].getD 0 z62) = cutS s from rfl]
    unfold cutS
    by_cases hc : 1 < s.f1.length
    · rw [if_pos hc]
      unfold sectionErr at *
      by_cases hb : badOffset s.f0 = true
      · rw [if_pos hb] at h4; omega
      · rw [if_neg hb] at h4
        rw [if_neg hb]
        simp only at h4 ⊢
        rw [tail_eq] at h4 ⊢
        rw [if_neg (by omega)] at h4
        simp only [List.length_take]
        rw [if_neg (by omega)]
        obtain ⟨h5, h6⟩ := chk_zero h4
        unfold chk allPoint
        rw [if_neg (by simp; omega), if_pos (List.all_eq_true.mpr fun p hp => h6 p (List.mem_of_mem_take hp))]
    · rw [if_neg hc]
      exact h4
theorem less_mem {l : List S62} {s : S62} (h : s ∈ lessL l) (hl : l.length ≠ 0) : ∃ t ∈ l, ∀ p ∈ s.f1, p ∈ t.f1 := by
  unfold lessL at h
  split at h
  · exact ⟨s, List.mem_of_mem_drop h, fun p hp => hp⟩
  · rw [List.mem_singleton] at h
    subst h
    refine ⟨rd_T62 l 0, by rw [show (0 : Int) = ((0 : Nat) : Int) from rfl, rd62]; exact mem_getD l z62 0 (by omega), fun p hp => ?_⟩
    unfold cutS at hp
    split at hp
    · exact List.mem_of_mem_take hp
    · exact hp
theorem sqs_less {l : List S62} {x y n : Int} (hl : l.length ≠ 0) (h : n ∈ sqs (lessL l) x y) : n ∈ sqs l x y := by
  obtain ⟨s, hs, p, hp, rfl⟩ := mem_sqs.1 h
  obtain ⟨t, ht, hsub⟩ := less_mem hs hl
  exact mem_sqs.2 ⟨t, ht, p, hsub p hp, rfl⟩
theorem sqd_move {x y b0 b1 : Int} {p : S25} (ha : okPoint ⟨x, y⟩ = true) (hp : okPoint p = true) (hb : okPoint ⟨b0, b1⟩ = true) : sqd (wrap64 (b0 - y)) (wrap64 (b1 + x)) (mvP b0 b1 p) = sqd x y p := by
  have h1 : (-100000 ≤ x ∧ x ≤ 100000) ∧ -100000 ≤ y ∧ y ≤ 100000 := (ok_iff _).mp ha
  have h2 := (ok_iff _).mp hp
  have h3 : (-100000 ≤ b0 ∧ b0 ≤ 100000) ∧ -100000 ≤ b1 ∧ b1 ≤ 100000 := (ok_iff _).mp hb
  unfold sqd mvP
  rw [w64 (b0 - y) (by omega) (by omega), w64 (b1 + x) (by omega) (by omega), w64 (b0 - p.f1) (by omega) (by omega), w64 (b1 + p.f0) (by omega) (by omega)]
  grind
theorem sqs_move {l : List S62} {x y b0 b1 : Int} (h : Right l x y) (hb : okPoint ⟨b0, b1⟩ = true) (n : Int) : n ∈ sqs (l.map (mvS b0 b1)) (wrap64 (b0 - y)) (wrap64 (b1 + x)) ↔ n ∈ sqs l x y := by
  rw [mem_sqs, mem_sqs]
  constructor
  · rintro ⟨s, hs, p, hp, rfl⟩
    obtain ⟨t, ht, rfl⟩ := List.mem_map.1 hs
    obtain ⟨q, hq, rfl⟩ := List.mem_map.1 hp
    exact ⟨t, ht, q, hq, (sqd_move h.axis ((h.pts t ht).2.2 q hq) hb).symm⟩
  · rintro ⟨t, ht, q, hq, rfl⟩
    exact ⟨mvS b0 b1 t, List.mem_map.2 ⟨t, ht, rfl⟩, mvP b0 b1 q, List.mem_map.2 ⟨q, hq, rfl⟩, sqd_move h.axis ((h.pts t ht).2.2 q hq) hb⟩
theorem least_unique {lo hi r s : Int} (hr : 0 ≤ r) (hs : 0 ≤ s) (h1 : nearB lo hi r = true) (h2 : ∀ t, 0 ≤ t → t < r → nearB lo hi t = false) (h3 : nearB lo hi s = true) (h4 : ∀ t, 0 ≤ t → t < s → nearB lo hi t = false) : r = s := by
  rcases Int.lt_trichotomy r s with h | h | h
  · rw [h4 r hr h] at h1; cases h1
  · exact h
  · rw [h2 s hs h] at h3; cases h3
end Go.Proofs.Ytkpojbglckmddaa.Base

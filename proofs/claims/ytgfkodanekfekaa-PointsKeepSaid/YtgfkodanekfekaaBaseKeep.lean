/- Plain laws on squared distances: turns, mirrors and shifts keep them. -/
import Derived.Test.YtgfkodanekfekaaBaseShift
import Derived.Test.YtgfkodanekfekaaX3
namespace Go.Proofs.Ytgfkodanekfekaa.Base
open Go.RowKit Go.Proofs.Ytgfkodanekfekaa.X Go.Proofs.YtgfkodanekfekaaW.PrintWords Go.Proofs.YtgfkodanekfekaaW.PrintLast
def d2 (p q : S30) : Int := (q.f0 - p.f0) * (q.f0 - p.f0) + (q.f1 - p.f1) * (q.f1 - p.f1) + (q.f2 - p.f2) * (q.f2 - p.f2)
theorem sq_bound {a : Int} (h1 : -200000 ≤ a) (h2 : a ≤ 200000) : 0 ≤ a * a ∧ a * a ≤ 40000000000 := by
  rcases Int.le_total 0 a with h | h
  · exact ⟨Int.mul_nonneg h h, Int.mul_le_mul h2 h2 h (by omega)⟩
  · have := Int.mul_le_mul (show -a ≤ 200000 by omega) (show -a ≤ 200000 by omega) (show 0 ≤ -a by omega) (by omega)
    have h3 := Int.mul_nonneg (show 0 ≤ -a by omega) (show 0 ≤ -a by omega)
    rw [Int.neg_mul_neg] at this h3
    exact ⟨h3, this⟩
theorem square_f {p q : S30} (hp : okSpot p = true) (hq : okSpot q = true) : vector_SquareSpace.f p.f0 p.f1 p.f2 q.f0 q.f1 q.f2 = some (d2 p q, 0) := by
  have h1 := (ok_iff p).mp hp
  have h2 := (ok_iff q).mp hq
  unfold vector_SquareSpace.f vector_reach.f vector_beam_dot.f
  rw [if_pos (by rw [show (⟨p.f0, p.f1, p.f2⟩ : S30) = p from rfl, show (⟨q.f0, q.f1, q.f2⟩ : S30) = q from rfl, hp, hq]; rfl)]
  have b0 := sq_bound (a := q.f0 - p.f0) (by omega) (by omega)
  have b1 := sq_bound (a := q.f1 - p.f1) (by omega) (by omega)
  have b2 := sq_bound (a := q.f2 - p.f2) (by omega) (by omega)
  simp only [Option.bind_some]
  rw [w64 (q.f0 - p.f0) (by omega) (by omega), w64 (q.f1 - p.f1) (by omega) (by omega), w64 (q.f2 - p.f2) (by omega) (by omega), w64 ((q.f0 - p.f0) * (q.f0 - p.f0)) (by omega) (by omega), w64 ((q.f1 - p.f1) * (q.f1 - p.f1)) (by omega) (by omega), w64 ((q.f2 - p.f2) * (q.f2 - p.f2)) (by omega) (by omega)]
  unfold d2
  generalize (q.f0 - p.f0) * (q.f0 - p.f0) = A at *
  generalize (q.f1 - p.f1) * (q.f1 - p.f1) = B at *
  generalize (q.f2 - p.f2) * (q.f2 - p.f2) = C at *
  rw [w64 (A + B) (by omega) (by omega), w64 (A + B + C) (by omega) (by omega)]
def tS (t : Int × Int × Int) : S30 := ⟨t.1, t.2.1, t.2.2⟩
/-- a change that keeps right spots right, and their squared distances -/
structure Iso (g : Int × Int × Int → Int × Int × Int) : Prop where
  ok : ∀ p, okSpot (tS p) = true → okSpot (tS (g p)) = true
  dist : ∀ p q, okSpot (tS p) = true → okSpot (tS q) = true → d2 (tS (g p)) (tS (g q)) = d2 (tS p) (tS q)
theorem neg_w {x : Int} (h1 : -100000 ≤ x) (h2 : x ≤ 100000) : wrap64 (-x) = -x := w64 _ (by omega) (by omega)
theorem iso_turn (a : Int) : Iso (turnV a) := by
  constructor
  · intro p hp
    have h := (ok_iff _).mp hp
    simp only [tS] at h
    rw [ok_iff]
    unfold turnV
    split
    · simp only [tS]; rw [neg_w (by omega) (by omega)]; omega
    · split
      · simp only [tS]; rw [neg_w (by omega) (by omega)]; omega
      · simp only [tS]; rw [neg_w (by omega) (by omega)]; omega
  · intro p q hp hq
    have h := (ok_iff _).mp hp
    have h' := (ok_iff _).mp hq
    simp only [tS] at h h'
    unfold turnV
    split
    · simp only [tS, d2]; rw [neg_w (x := p.2.2) (by omega) (by omega), neg_w (x := q.2.2) (by omega) (by omega)]; grind
    · split
      · simp only [tS, d2]; rw [neg_w (x := p.1) (by omega) (by omega), neg_w (x := q.1) (by omega) (by omega)]; grind
      · simp only [tS, d2]; rw [neg_w (x := p.2.1) (by omega) (by omega), neg_w (x := q.2.1) (by omega) (by omega)]; grind
theorem iso_mirror (a : Int) : Iso (mirrorV a) := by
  constructor
  · intro p hp
    have h := (ok_iff _).mp hp
    simp only [tS] at h
    rw [ok_iff]
    unfold mirrorV
    split
    · simp only [tS]; rw [neg_w (by omega) (by omega)]; omega
    · split
      · simp only [tS]; rw [neg_w (by omega) (by omega)]; omega
      · simp only [tS]; rw [neg_w (by omega) (by omega)]; omega
  · intro p q hp hq
    have h := (ok_iff _).mp hp
    have h' := (ok_iff _).mp hq
    simp only [tS] at h h'
    unfold mirrorV
    split
    · simp only [tS, d2]; rw [neg_w (x := p.1) (by omega) (by omega), neg_w (x := q.1) (by omega) (by omega)]; grind
    · split
      · simp only [tS, d2]; rw [neg_w (x := p.2.1) (by omega) (by omega), neg_w (x := q.2.1) (by omega) (by omega)]; grind
      · simp only [tS, d2]; rw [neg_w (x := p.2.2) (by omega) (by omega), neg_w (x := q.2.2) (by omega) (by omega)]; grind
theorem iso_turnN (a : Int) : ∀ n, Iso (turnN a n)
  | 0 => ⟨fun _ h => h, fun _ _ _ _ => rfl⟩
  | n + 1 => ⟨fun p h => (iso_turn a).ok _ ((iso_turnN a n).ok p h), fun p q h h' => ((iso_turn a).dist _ _ ((iso_turnN a n).ok p h) ((iso_turnN a n).ok q h')).trans ((iso_turnN a n).dist p q h h')⟩
/-- a sample of the same squared distances -/
structure KeepsAll (m l : List S30) : Prop where
  len : m.length = l.length
  ok : ∀ p ∈ m, okSpot p = true
  dist : ∀ i k, i < l.length → k < l.length → d2 (m.getD i z30) (m.getD k z30) = d2 (l.getD i z30) (l.getD k z30)
theorem mapT_getD (g : Int × Int × Int → Int × Int × Int) (l : List S30) (i : Nat) (h : i < l.length) : (mapT g l).getD i z30 = tS (g ((l.getD i z30).f0, (l.getD i z30).f1, (l.getD i z30).f2)) := by
  unfold mapT
  rw [List.getD_eq_getElem?_getD, List.getElem?_map, List.getD_eq_getElem?_getD, List.getElem?_eq_getElem h]
  rfl
theorem good_iso {g : Int × Int × Int → Int × Int × Int} (hg : Iso g) {l : List S30} (hl : ∀ p ∈ l, okSpot p = true) : KeepsAll (mapT g l) l := by
  refine ⟨mapT_len _ _, fun p hp => ?_, fun i k hi hk => ?_⟩
  · unfold mapT at hp
    obtain ⟨q, hq, rfl⟩ := List.mem_map.1 hp
    exact hg.ok (q.f0, q.f1, q.f2) (hl q hq)
  · rw [mapT_getD g l i hi, mapT_getD g l k hk]
    exact hg.dist _ _ (hl _ (mem_getD l z30 i hi)) (hl _ (mem_getD l z30 k hk))
theorem good_shift {a b c : Int} {l : List S30} (ha : okSpot ⟨a, b, c⟩ = true) (hl : ∀ p ∈ l, okSpot p = true) (hm : l.all (movedOk a b c) = true) : KeepsAll (mapT (shiftV a b c) l) l := by
  refine ⟨mapT_len _ _, fun p hp => ?_, fun i k hi hk => ?_⟩
  · unfold mapT at hp
    obtain ⟨q, hq, rfl⟩ := List.mem_map.1 hp
    have := List.all_eq_true.mp hm q hq
    unfold movedOk shiftV at this
    rw [ranged_ok] at this
    exact this
  · rw [mapT_getD _ l i hi, mapT_getD _ l k hk]
    have h1 := (ok_iff _).mp (hl _ (mem_getD l z30 i hi))
    have h2 := (ok_iff _).mp (hl _ (mem_getD l z30 k hk))
    have h3 := (ok_iff _).mp ha
    simp only at h3
    unfold d2 shiftV tS
    simp only
    rw [w64 ((l.getD i z30).f0 + a) (by omega) (by omega), w64 ((l.getD i z30).f1 + b) (by omega) (by omega), w64 ((l.getD i z30).f2 + c) (by omega) (by omega), w64 ((l.getD k z30).f0 + a) (by omega) (by omega), w64 ((l.getD k z30).f1 + b) (by omega) (by omega), w64 ((l.getD k z30).f2 + c) (by omega) (by omega)]
    grind
end Go.Proofs.Ytgfkodanekfekaa.Base

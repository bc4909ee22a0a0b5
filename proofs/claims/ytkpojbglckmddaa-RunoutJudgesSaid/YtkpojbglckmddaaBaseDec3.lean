/- Plain laws on the reference's decimal texts: of the sums on paper, of Times, Plus and Order. -/
import Derived.Test.YtkpojbglckmddaaBaseDec2
namespace Go.Proofs.Ytkpojbglckmddaa.Dec
open Go Go.RowKit Go.Proofs.Ytkpojbglckmddaa.X Go.Proofs.YtkpojbglckmddaaW.PrintWords

/-! column -/
theorem col_in (a b c : Int) (ha : 0 ≤ a ∧ a ≤ 9) (hb : 0 ≤ b ∧ b ≤ 9) (hc : 0 ≤ c ∧ c ≤ 1) :
    wrap64 ((((48 + a - 48) % 256) + ((48 + b - 48) % 256)) + c) = a + b + c ∧ wrap64 ((((48 + a - 48) % 256) - ((48 + b - 48) % 256)) - c) = a - b - c := by
  constructor <;> · unfold wrap64; omega
theorem col_j0 (k : Nat) (n : Int) (h : -10 ≤ n) (h2 : n ≤ 19) : metrolabref01_column.j0 (k + 1) n = some (if n > 9 then (48 + (n - 10), 1) else if n < 0 then (48 + (n + 10), 1) else (48 + n, 0)) := by
  have e1 : n > 9 → wrap64 (wrap64 (48 + n) - 10) % 256 = 48 + (n - 10) := by intro _; unfold wrap64; omega
  have e2 : n < 0 → wrap64 (wrap64 (48 + n) + 10) % 256 = 48 + (n + 10) := by intro _; unfold wrap64; omega
  have e3 : ¬ n > 9 → ¬ n < 0 → wrap64 (48 + n) % 256 = 48 + n := by intro _ _; unfold wrap64; omega
  simp only [metrolabref01_column.j0]
  by_cases h9 : n > 9
  · rw [if_pos h9, if_pos h9, e1 h9]
  · rw [if_neg h9, if_neg h9]
    by_cases h0 : n < 0
    · rw [if_pos h0, if_pos h0, e2 h0]
    · rw [if_neg h0, if_neg h0, e3 h9 h0]
theorem column_f (k : Nat) (a b c : Int) (add : Bool) (ha : 0 ≤ a ∧ a ≤ 9) (hb : 0 ≤ b ∧ b ≤ 9) (hc : 0 ≤ c ∧ c ≤ 1) :
    ∃ o c' : Int, (0 ≤ o ∧ o ≤ 9) ∧ (0 ≤ c' ∧ c' ≤ 1) ∧ metrolabref01_column.f (k + 1) (48 + a) (48 + b) c add = some (48 + o, c') ∧ (if add then a + b + c = o + c' * 10 else a - b - c = o - c' * 10) := by
  obtain ⟨w1, w2⟩ := col_in a b c ha hb hc
  unfold metrolabref01_column.f
  cases add
  · rw [if_neg (by decide), w2, col_j0 k _ (by omega) (by omega), if_neg (by omega)]
    by_cases h0 : a - b - c < 0
    · rw [if_pos h0]; exact ⟨_, _, by omega, by omega, rfl, by simp⟩
    · rw [if_neg h0]; exact ⟨_, _, by omega, by omega, rfl, by simp⟩
  · rw [if_pos rfl, w1, col_j0 k _ (by omega) (by omega)]
    by_cases h9 : a + b + c > 9
    · rw [if_pos h9]; exact ⟨_, _, by omega, by omega, rfl, by simp⟩
    · rw [if_neg h9, if_neg (by omega)]; exact ⟨_, _, by omega, by omega, rfl, by simp⟩

/-! paper -/
theorem take_at (D : List Int) (i : Nat) (h : i < D.length) : D.take (i + 1) = D.take i ++ [D.getD i 0] := by
  rw [List.take_succ_eq_append_getElem h, List.getD_eq_getElem?_getD, List.getElem?_eq_getElem h]; rfl
theorem paper_step (X Y : List Int) (hX : Dig X) (hY : Dig Y) (add : Bool) (out : List Int) (c o c' : Int) (d K : Nat) (hx : d < X.length) (hy : d < Y.length) (ho : d < out.length) (hd : d ≤ 1000)
    (hcol : metrolabref01_column.f K (48 + X.getD d 0) (48 + Y.getD d 0) c add = some (48 + o, c')) :
    metrolabref01_paper.l0 (K + 1) (sg false X) (sg false Y) add out c (d : Int) = metrolabref01_paper.l0 K (sg false X) (sg false Y) add (out.set d (48 + o)) c' ((d : Int) - 1) := by
  have z1 : (sg false X).size = X.length := by rw [size_sg]; simp
  have z2 : (sg false Y).size = Y.length := by rw [size_sg]; simp
  have b1 := bt_sg hX d hx
  have b2 := bt_sg hY d hy
  have c1 : (d : Int) ≥ 0 := Int.natCast_nonneg _
  have c2 : (d : Int) < (X.length : Int) := Int.ofNat_lt.2 hx
  have c3 : (d : Int) < (Y.length : Int) := Int.ofNat_lt.2 hy
  have c4 : (d : Int) < (out.length : Int) := Int.ofNat_lt.2 ho
  have e4 := w_pred d (Nat.le_trans hd (by decide))
  simp only [metrolabref01_paper.l0]
  rw [z1, z2, if_pos c1, if_pos c1, if_pos c2, if_pos c3, b1, b2, hcol, Option.bind_some, if_pos c4, Int.toNat_natCast, e4]
theorem paper_l0 (X Y : List Int) (hX : Dig X) (hY : Dig Y) (hl : X.length = Y.length) (h1000 : X.length ≤ 1000) (add : Bool) : ∀ (d : Nat) (out : List Int) (c : Int), d ≤ X.length → out.length = X.length → (0 ≤ c ∧ c ≤ 1) → ∀ k, ∃ (O : List Int) (c' : Int), Dig O ∧ O.length = d ∧ (0 ≤ c' ∧ c' ≤ 1) ∧
    (if add then val (X.take d) + val (Y.take d) + c = val O + c' * 10 ^ d else val (X.take d) - val (Y.take d) - c = val O - c' * 10 ^ d) ∧
    metrolabref01_paper.l0 (k + d + 1) (sg false X) (sg false Y) add out c ((d : Int) - 1) = metrolabref01_bare.f k (strOfNums (O.map (fun x => 48 + x) ++ out.drop d)) := by
  intro d
  induction d with
  | zero =>
    intro out c hd ho hc k
    refine ⟨[], c, (fun x hx => by cases hx), rfl, hc, ?_, ?_⟩
    · cases add <;> simp [val]
    · simp only [metrolabref01_paper.l0]
      rw [if_neg (by omega), List.drop_zero, List.map_nil, List.nil_append]
      cases metrolabref01_bare.f k (strOfNums out) <;> rfl
  | succ d ih =>
    intro out c hd ho hc k
    obtain ⟨o, c1, h1, h2, h3, h4⟩ := column_f (k + d) (X.getD d 0) (Y.getD d 0) c add (dig_at hX d (by omega)) (dig_at hY d (by omega)) hc
    obtain ⟨O, c', g1, g2, g3, g4, g5⟩ := ih (out.set d (48 + o)) c1 (by omega) (by rw [List.length_set]; exact ho) h2 k
    refine ⟨O ++ [o], c', dig_append.2 ⟨g1, by intro x hx; simp at hx; omega⟩, by simp [g2], g3, ?_, ?_⟩
    · rw [take_at X d (by omega), take_at Y d (by omega), val_snoc, val_snoc, val_snoc, Int.pow_succ, ← Int.mul_assoc]
      cases add
      · rw [if_neg (by decide)] at *
        generalize c' * 10 ^ d = q at *
        omega
      · rw [if_pos rfl] at *
        generalize c' * 10 ^ d = q at *
        omega
    · rw [show k + (d + 1) + 1 = (k + d + 1) + 1 by omega]
      have e := paper_step X Y hX hY add out c o c1 d (k + d + 1) (by omega) (by omega) (by omega) (by omega) h3
      rw [show ((d + 1 : Nat) : Int) - 1 = (d : Int) by omega, e, g5]
      congr 2
      rw [List.map_append, List.append_assoc]
      congr 1
      rw [List.drop_eq_getElem_cons (by rw [List.length_set]; omega), List.getElem_set_self]
      simp [List.drop_set]
def pad (n : Nat) (D : List Int) : List Int := List.replicate (n - D.length) 0 ++ D
theorem val_zeros : ∀ n, val (List.replicate n (0 : Int)) = 0 := by
  intro n
  induction n with
  | zero => rfl
  | succ n ih => rw [List.replicate_succ, val_cons, ih, Int.zero_mul, Int.zero_add]
theorem val_pad (n : Nat) (D : List Int) : val (pad n D) = val D := by unfold pad; rw [val_append, val_zeros, Int.zero_mul, Int.zero_add]
theorem dig_pad {D : List Int} (h : Dig D) (n : Nat) : Dig (pad n D) := dig_append.2 ⟨fun x hx => by have := List.eq_of_mem_replicate hx; omega, h⟩
theorem len_pad {D : List Int} {n : Nat} (h : D.length ≤ n) : (pad n D).length = n := by unfold pad; simp; omega
theorem wide_f {D : List Int} (hD : Dig D) (n : Nat) (h : D.length ≤ n) (hn : n ≤ 1000) : metrolabref01_wide.f (sg false D) (n : Int) = some (sg false (pad n D)) := by
  unfold metrolabref01_wide.f
  have z1 : (sg false D).size = D.length := by rw [size_sg]; simp
  rw [z1, if_pos (by omega), Int.toNat_natCast]
  congr 1
  unfold wideL
  rw [z1]
  have : bytesOf (sg false D) = D.map (fun d => 48 + d) := by
    have := bytesOf_str _ (sg_range (s := false) hD)
    simpa [sg] using this
  rw [this]
  unfold sg pad
  simp
theorem paper_f (D E : List Int) (hD : Dig D) (hE : Dig E) (h0 : D ≠ []) (hl : D.length ≤ 40) (hm : E.length ≤ 40) (add : Bool) (hs : add = false → val E ≤ val D) (k : Nat) :
    ∃ R, Canon R ∧ R.length ≤ 41 ∧ val R = (if add then val D + val E else val D - val E) ∧ metrolabref01_paper.f (k + 100) (sg false D) (sg false E) add = some (sg false R) := by
  have z1 : (sg false D).size = D.length := by rw [size_sg]; simp
  have z2 : (sg false E).size = E.length := by rw [size_sg]; simp
  obtain ⟨m, hm0⟩ : ∃ m : Nat, m = max D.length E.length := ⟨_, rfl⟩
  have hmx : mx (D.length : Int) (E.length : Int) = (m : Int) := by unfold mx; split <;> omega
  have hw : wrap64 ((m : Int) + 1) = ((m + 1 : Nat) : Int) := w_next m (by omega)
  have hw2 : wrap64 (((m + 1 : Nat) : Int) - 1) = ((m + 1 : Nat) : Int) - 1 := w_pred (m + 1) (by omega)
  have lX := len_pad (D := D) (n := m + 1) (by omega)
  have lY := len_pad (D := E) (n := m + 1) (by omega)
  obtain ⟨O, c', o1, o2, o3, o4, o5⟩ := paper_l0 (pad (m + 1) D) (pad (m + 1) E) (dig_pad hD _) (dig_pad hE _) (by rw [lX, lY]) (by omega) add (m + 1) (List.replicate (m + 1) 0) 0 (by omega) (by rw [List.length_replicate, lX]) (by omega) (k + 100 - (m + 2))
  rw [List.take_of_length_le (by omega), List.take_of_length_le (by omega), val_pad, val_pad] at o4
  have vO := val_range o1
  have vD := val_range hD
  have vE := val_range hE
  have pD := pow_mono' (show D.length ≤ m by omega)
  have pE := pow_mono' (show E.length ≤ m by omega)
  have hp := pow_pos' m
  rw [o2, Int.pow_succ] at vO
  rw [Int.pow_succ] at o4
  have hv : val O = (if add then val D + val E else val D - val E) := by
    have hc : c' = 0 ∨ c' = 1 := by omega
    cases add
    · rw [if_neg (by decide)] at *
      have := hs rfl
      generalize (10 : Int) ^ m = p at *
      rcases hc with rfl | rfl
      · omega
      · omega
    · rw [if_pos rfl] at *
      generalize (10 : Int) ^ m = p at *
      rcases hc with rfl | rfl
      · omega
      · omega
  obtain ⟨R, r1, r2, r3, r4⟩ := bare_f O o1 (by intro e; rw [e] at o2; simp at o2) (k + 100 - (m + 2) - (m + 1))
  refine ⟨R, r1, by omega, by rw [r2, hv], ?_⟩
  unfold metrolabref01_paper.f
  rw [z1, z2, hmx, hw, wide_f hD (m + 1) (by omega) (by omega), wide_f hE (m + 1) (by omega) (by omega), Option.bind_some, Option.bind_some, if_pos (Int.natCast_nonneg _), Int.toNat_natCast, if_pos (by omega), hw2]
  rw [show k + 100 - (m + 2) + (m + 1) + 1 = k + 100 by omega] at o5
  rw [o5, List.drop_of_length_le (by rw [List.length_replicate]; omega), List.append_nil, show k + 100 - (m + 2) = k + 100 - (m + 2) - (m + 1) + O.length by omega, ← r4]
  rfl

/-! Times -/
theorem times_f (D E : List Int) (hD : Canon D) (hE : Canon E) (hl : D.length ≤ 18) (hm : E.length ≤ 18) (k : Nat) :
    ∃ P, Canon P ∧ val P = val D * val E ∧ P.length ≤ 36 ∧ metrolabref01_Times.f (k + 501) (sg false D) (sg false E) = some (sg false P) := by
  have z1 : (sg false D).size = D.length := by rw [size_sg]; simp
  have z2 : (sg false E).size = E.length := by rw [size_sg]; simp
  have hb := brief_f false false D E hD.1 hD.2.1 hE.1 hE.2.1 (k + 481)
  rw [if_pos ⟨hl, hm⟩, show k + 481 + 20 = k + 501 by omega] at hb
  have vD := val_range hD.1
  have vE := val_range hE.1
  have hge : 0 ≤ val D * val E := Int.mul_nonneg vD.1 vE.1
  unfold metrolabref01_Times.f
  rw [hb, Option.bind_some]
  show ∃ P, Canon P ∧ val P = val D * val E ∧ P.length ≤ 36 ∧ (if true = true then metrolabref01_Times.j0 (k + 501) (sg false D) (sg false E) (val D) (val E) _ else _) = _
  simp only [if_true]
  rw [z1, z2, show wrap64 ((D.length : Int) + (E.length : Int)) = (D.length : Int) + (E.length : Int) by unfold wrap64; omega]
  rw [show k + 501 = (k + 500) + 1 by omega]
  by_cases h : (D.length : Int) + (E.length : Int) ≤ 18
  · have hlt : val D * val E < 10 ^ (D.length + E.length) := by
      rw [Int.pow_add]
      have hp := pow_pos' E.length
      have a : val D * val E ≤ val D * 10 ^ E.length := Int.mul_le_mul_of_nonneg_left (by omega) vD.1
      have b : (val D + 1) * 10 ^ E.length ≤ 10 ^ D.length * 10 ^ E.length := Int.mul_le_mul_of_nonneg_right (by omega) (by omega)
      rw [Int.add_mul] at b
      omega
    have h18 := pow_mono' (show D.length + E.length ≤ 18 by omega)
    have hlt' : val D * val E < 1000000000000000000 := by
      have : (10 : Int) ^ 18 = 1000000000000000000 := by decide
      omega
    obtain ⟨P, p1, p2, p3, p4⟩ := of_f (val D * val E) (k + 480) hge hlt'
    refine ⟨P, p1, p2, by omega, ?_⟩
    rw [show k + 480 + 20 = k + 500 by omega] at p4
    generalize k + 500 = K at *
    have hw : wrap64 (val D * val E) = val D * val E := by
      generalize val D * val E = q at *
      unfold wrap64; omega
    simp only [metrolabref01_Times.j0]
    rw [if_pos (decide_eq_true h), hw, p4]
    rfl
  · obtain ⟨P, p1, p2, p3, p4⟩ := product_f D E hD hE hl hm k
    refine ⟨P, p1, p2, p3, ?_⟩
    generalize k + 500 = K at *
    simp only [metrolabref01_Times.j0]
    rw [if_neg (by rw [decide_eq_true_eq]; exact h), size_f hD.1 hD.2.1, Option.bind_some, size_f hE.1 hE.2.1, Option.bind_some, p4, Option.bind_some, below_f hD.1 hD.2.1, Option.bind_some, below_f hE.1 hE.2.1, Option.bind_some, signed_f p1.1 (by omega)]
    rfl

/-! Plus of a number and an opposite one; Order -/
theorem opp (E : List Int) (hE : Canon E) : sv (!decide (E = [0])) E = - val E := by
  unfold sv
  by_cases e : E = [0]
  · subst e; rfl
  · simp [e]
theorem turned_f (E : List Int) (hE : Canon E) (hm : E.length ≤ 40) : metrolabref01_Turned.f (sg false E) = some (sg (!decide (E = [0])) E) := by
  unfold metrolabref01_Turned.f
  rw [size_f hE.1 hE.2.1, Option.bind_some, below_f hE.1 hE.2.1, Option.bind_some, signed_f hE.1 (by omega), Option.bind_some]
  simp
theorem plus_f (D E : List Int) (hD : Canon D) (hE : Canon E) (hl : D.length ≤ 40) (hm : E.length ≤ 40) (k : Nat) :
    ∃ (t : Bool) (R : List Int), Canon R ∧ (t = true → 0 < val R) ∧ sv t R = val D - val E ∧ metrolabref01_Plus.f (k + 100) (sg false D) (sg (!decide (E = [0])) E) = some (sg t R) := by
  have hb := brief_f false (!decide (E = [0])) D E hD.1 hD.2.1 hE.1 hE.2.1 (k + 80)
  rw [show k + 80 + 20 = k + 100 by omega] at hb
  have vD := val_range hD.1
  have vE := val_range hE.1
  unfold metrolabref01_Plus.f
  rw [hb]
  by_cases h : D.length ≤ 18 ∧ E.length ≤ 18
  · rw [if_pos h, Option.bind_some]
    have p1 := pow_mono' h.1
    have p2 := pow_mono' h.2
    have p18 : (10 : Int) ^ 18 = 1000000000000000000 := by decide
    show ∃ (t : Bool) (R : List Int), Canon R ∧ (t = true → 0 < val R) ∧ sv t R = val D - val E ∧ (if true = true then (metrolabref01_Of.f (k + 100) (wrap64 (sv false D + sv (!decide (E = [0])) E))).bind _ else _) = _
    simp only [if_true]
    rw [opp E hE, show sv false D = val D from rfl, show wrap64 (val D + -val E) = val D - val E by unfold wrap64; omega]
    by_cases hs : 0 ≤ val D - val E
    · obtain ⟨R, r1, r2, r3, r4⟩ := of_f (val D - val E) (k + 80) hs (by omega)
      rw [show k + 80 + 20 = k + 100 by omega] at r4
      exact ⟨false, R, r1, by simp, r2, by rw [r4]; rfl⟩
    · obtain ⟨R, r1, r2, r3, r4⟩ := of_neg (val E - val D) (k + 78) (by omega) (by omega)
      rw [show k + 78 + 22 = k + 100 by omega, show -(val E - val D) = val D - val E by omega] at r4
      exact ⟨true, R, r1, fun _ => by omega, by show - val R = _; omega, by rw [r4]; rfl⟩
  · rw [if_neg h, Option.bind_some]
    show ∃ (t : Bool) (R : List Int), Canon R ∧ (t = true → 0 < val R) ∧ sv t R = val D - val E ∧ (if false = true then _ else (metrolabref01_size.f (sg false D)).bind _) = _
    rw [if_neg (by decide), size_f hD.1 hD.2.1, Option.bind_some, size_f hE.1 hE.2.1, Option.bind_some, below_f hD.1 hD.2.1, Option.bind_some, below_f hE.1 hE.2.1, Option.bind_some]
    by_cases e : E = [0]
    · obtain ⟨R, r1, r2, r3, r4⟩ := paper_f D E hD.1 hE.1 hD.2.1 hl hm true (by simp) k
      refine ⟨false, R, r1, by simp, ?_, ?_⟩
      · have hz := (canon_zero hE).1 e
        show val R = _
        rw [r3, if_pos rfl]
        omega
      · simp only [e, decide_true, Bool.not_true, beq_self_eq_true, if_true]
        rw [← e, r4, Option.bind_some, Option.bind_some, signed_f r1.1 (by omega)]
        rfl
    · have hne : (false == !decide (E = [0])) = false := by simp [e]
      rw [hne, if_neg (by decide), less_f hD hE, Option.bind_some]
      by_cases hlt : val D < val E
      · obtain ⟨R, r1, r2, r3, r4⟩ := paper_f E D hE.1 hD.1 hE.2.1 hm hl false (fun _ => by omega) k
        rw [if_neg (by decide)] at r3
        have hR : R ≠ [0] := fun x => by rw [canon_zero r1] at x; omega
        refine ⟨true, R, r1, fun _ => by omega, by show - val R = _; omega, ?_⟩
        rw [if_pos (decide_eq_true hlt), r4, Option.bind_some, Option.bind_some, signed_f r1.1 (by omega), Option.bind_some]
        simp [e, hR]
      · obtain ⟨R, r1, r2, r3, r4⟩ := paper_f D E hD.1 hE.1 hD.2.1 hl hm false (fun _ => by omega) k
        rw [if_neg (by decide)] at r3
        refine ⟨false, R, r1, by simp, r3, ?_⟩
        rw [if_neg (by rw [decide_eq_true_eq]; exact hlt), r4, Option.bind_some, Option.bind_some, signed_f r1.1 (by omega), Option.bind_some]
        rfl
theorem order_f (D E : List Int) (hD : Canon D) (hE : Canon E) (hl : D.length ≤ 40) (hm : E.length ≤ 40) (k : Nat) :
    ∃ o : Int, metrolabref01_Order.f (k + 100) (sg false D) (sg false E) = some o ∧ (o ≤ 0 ↔ val D ≤ val E) := by
  obtain ⟨t, R, r1, r2, r3, r4⟩ := plus_f D E hD hE hl hm k
  unfold metrolabref01_Order.f metrolabref01_Minus.f
  rw [turned_f E hE hm, Option.bind_some, r4, Option.bind_some, Option.bind_some, below_f r1.1 r1.2.1]
  have vR := val_range r1.1
  cases t
  · have r3' : val R = val D - val E := r3
    by_cases e : R = [0]
    · rw [if_pos ((zero_sg r1.1).2 e)]
      have := (canon_zero r1).1 e
      exact ⟨0, rfl, by omega⟩
    · rw [if_neg (fun x => e ((zero_sg r1.1).1 x)), Option.bind_some, if_neg (by decide)]
      have : val R ≠ 0 := fun x => e ((canon_zero r1).2 x)
      exact ⟨1, rfl, by omega⟩
  · have r3' : - val R = val D - val E := r3
    have := r2 rfl
    rw [if_neg (by
      intro x
      rw [toList_sg] at x
      have := congrArg List.length x
      simp at this
      exact r1.2.1 this), Option.bind_some, if_pos rfl]
    exact ⟨-1, rfl, by omega⟩
end Go.Proofs.Ytkpojbglckmddaa.Dec

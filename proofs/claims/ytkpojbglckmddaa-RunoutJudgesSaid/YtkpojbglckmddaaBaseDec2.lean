/- Plain laws on the reference's decimal texts: of digits without zeros in front, of the order of digits, and of the product on paper. -/
import Derived.Test.YtkpojbglckmddaaBaseDec
namespace Go.Proofs.Ytkpojbglckmddaa.Dec
open Go Go.RowKit Go.Proofs.Ytkpojbglckmddaa.X Go.Proofs.YtkpojbglckmddaaW.PrintWords

/-! bare -/
theorem bare_f : ∀ (D : List Int), Dig D → D ≠ [] → ∀ k, ∃ E, Canon E ∧ val E = val D ∧ E.length ≤ D.length ∧ metrolabref01_bare.f (k + D.length) (sg false D) = some (sg false E) := by
  intro D
  induction D with
  | nil => intro _ h; exact absurd rfl h
  | cons a t ih =>
    intro hD _ k
    have hz := size_sg false (a :: t)
    have hb := bt_sg hD 0 (by simp)
    rw [show ((0 : Nat) : Int) = 0 from rfl, List.getD_cons_zero] at hb
    unfold metrolabref01_bare.f at ih ⊢
    cases t with
    | nil =>
      refine ⟨[a], ⟨hD, by simp, by simp⟩, rfl, by simp, ?_⟩
      rw [List.length_singleton]
      simp only [metrolabref01_bare.l0]
      rw [if_neg (by rw [hz]; simp)]
    | cons b u =>
      rw [List.length_cons, show k + ((b :: u).length + 1) = (k + (b :: u).length) + 1 by omega]
      by_cases h0 : a = 0
      · subst h0
        obtain ⟨E, h1, h2, h3, h4⟩ := ih (dig_cons.1 hD).2 (by simp) k
        refine ⟨E, h1, by rw [h2, val_cons 0, Int.zero_mul, Int.zero_add], by simp at h3 ⊢; omega, ?_⟩
        generalize hK : k + (b :: u).length = K at *
        simp only [metrolabref01_bare.l0]
        rw [if_pos (by rw [hz]; simp; omega), if_pos (by rw [hz]; simp; omega), if_pos (by rw [hb]; rfl), if_pos (by rw [hz]; simp; omega), ← h4]
        congr 1
        exact str_tail _ _
      · refine ⟨a :: b :: u, ⟨hD, by simp, fun _ => by simpa using h0⟩, rfl, by simp, ?_⟩
        generalize k + (b :: u).length = K
        simp only [metrolabref01_bare.l0]
        rw [if_pos (by rw [hz]; simp; omega), if_pos (by rw [hz]; simp; omega), if_neg (by rw [hb]; omega)]

/-! less -/
theorem u8_lt (a b : Int) (ha : 0 ≤ a ∧ a ≤ 9) (hb : 0 ≤ b ∧ b ≤ 9) : (UInt8.ofNat (48 + a).toNat < UInt8.ofNat (48 + b).toNat) ↔ a < b := by
  rw [UInt8.lt_iff_toNat_lt]
  have h1 := u8 (48 + a) (by omega) (by omega)
  have h2 := u8 (48 + b) (by omega) (by omega)
  omega
theorem u8_eq (a b : Int) (ha : 0 ≤ a ∧ a ≤ 9) (hb : 0 ≤ b ∧ b ≤ 9) : (UInt8.ofNat (48 + a).toNat = UInt8.ofNat (48 + b).toNat) ↔ a = b := by
  rw [← UInt8.toNat_inj]
  have h1 := u8 (48 + a) (by omega) (by omega)
  have h2 := u8 (48 + b) (by omega) (by omega)
  omega
def byt (D : List Int) : List UInt8 := D.map fun d => UInt8.ofNat (48 + d).toNat
theorem bytesLess_val : ∀ (D E : List Int), Dig D → Dig E → D.length = E.length → Op.bytesLess (byt D) (byt E) = decide (val D < val E) := by
  intro D
  induction D with
  | nil =>
    intro E _ _ h
    cases E with
    | nil => rfl
    | cons _ _ => simp at h
  | cons a x ih =>
    intro E hD hE h
    cases E with
    | nil => simp at h
    | cons b y =>
      obtain ⟨ha, hx⟩ := dig_cons.1 hD
      obtain ⟨hb, hy⟩ := dig_cons.1 hE
      have hl : x.length = y.length := by simpa using h
      have e : Op.bytesLess (byt (a :: x)) (byt (b :: y)) = (decide (UInt8.ofNat (48 + a).toNat < UInt8.ofNat (48 + b).toNat) || (UInt8.ofNat (48 + a).toNat == UInt8.ofNat (48 + b).toNat && Op.bytesLess (byt x) (byt y))) := rfl
      rw [e, ih y hx hy hl, val_cons, val_cons, hl]
      have hvx := val_range hx
      have hvy := val_range hy
      rw [hl] at hvx
      have hp := pow_pos' y.length
      generalize (10 : Int) ^ y.length = p at *
      rw [Bool.eq_iff_iff]
      simp only [Bool.or_eq_true, Bool.and_eq_true, decide_eq_true_eq, beq_iff_eq, u8_lt a b ha hb, u8_eq a b ha hb]
      constructor
      · rintro (h | ⟨rfl, h⟩)
        · have : (a + 1) * p ≤ b * p := Int.mul_le_mul_of_nonneg_right (by omega) (by omega)
          rw [Int.add_mul] at this
          omega
        · omega
      · intro h
        rcases Int.lt_trichotomy a b with h1 | rfl | h1
        · exact .inl h1
        · exact .inr ⟨rfl, by omega⟩
        · have : (b + 1) * p ≤ a * p := Int.mul_le_mul_of_nonneg_right (by omega) (by omega)
          rw [Int.add_mul] at this
          omega
theorem pow_mono' {m n : Nat} (h : m ≤ n) : (10 : Int) ^ m ≤ 10 ^ n := by
  have : 10 ^ m ≤ 10 ^ n := Nat.pow_le_pow_right (by decide) h
  exact_mod_cast this
theorem shorter {D E : List Int} (hD : Canon D) (hE : Canon E) (h : D.length < E.length) : val D < val E := by
  have h0 : 0 < D.length := List.length_pos_iff.2 hD.2.1
  have h1 := (val_range hD.1).2
  have h2 := val_ge hE (by omega)
  have h3 := pow_mono' (show D.length ≤ E.length - 1 by omega)
  omega
theorem less_f {D E : List Int} (hD : Canon D) (hE : Canon E) : metrolabref01_less.f (sg false D) (sg false E) = some (decide (val D < val E)) := by
  unfold metrolabref01_less.f
  have z1 : (sg false D).size = D.length := by rw [size_sg]; simp
  have z2 : (sg false E).size = E.length := by rw [size_sg]; simp
  rw [z1, z2]
  by_cases h : D.length < E.length
  · rw [if_pos (by omega), decide_eq_true (shorter hD hE h)]
  · rw [if_neg (by omega)]
    by_cases h2 : D.length = E.length
    · rw [if_pos (by omega)]
      congr 1
      rw [toList_sg, toList_sg, ← bytesLess_val D E hD.1 hE.1 h2]
      simp [byt]
      rfl
    · rw [if_neg (by omega)]
      have := shorter hE hD (by omega)
      rw [decide_eq_false (by omega)]

/-! product -/
def Bd (C : List Int) (b : Int) : Prop := ∀ x ∈ C, 0 ≤ x ∧ x ≤ b
theorem val_set : ∀ (C : List Int) (p : Nat) (x : Int), p < C.length → val (C.set p (C.getD p 0 + x)) = val C + x * 10 ^ (C.length - 1 - p) := by
  intro C
  induction C with
  | nil => intro p x h; simp at h
  | cons a t ih =>
    intro p x h
    cases p with
    | zero =>
      rw [List.set_cons_zero, val_cons, val_cons, List.getD_cons_zero, List.length_cons, Nat.add_sub_cancel, Nat.sub_zero, Int.add_mul]
      omega
    | succ p =>
      rw [List.set_cons_succ, val_cons, val_cons, List.getD_cons_succ, ih p x (by simpa using h), List.length_set, List.length_cons, show t.length + 1 - 1 - (p + 1) = t.length - 1 - p by omega]
      omega
theorem bd_set {C : List Int} {b : Int} (h : Bd C b) (p : Nat) (y b' : Int) (hb : b ≤ b') (hy : 0 ≤ y ∧ y ≤ b') : Bd (C.set p y) b' := by
  intro x hx
  rcases List.mem_or_eq_of_mem_set hx with hx | rfl
  · have := h x hx; omega
  · exact hy
theorem bd_at {C : List Int} {b : Int} (h : Bd C b) (hb : 0 ≤ b) (i : Nat) : 0 ≤ C.getD i 0 ∧ C.getD i 0 ≤ b := by
  by_cases hi : i < C.length
  · rw [List.getD_eq_getElem?_getD, List.getElem?_eq_getElem hi]
    exact h _ (List.getElem_mem _)
  · rw [List.getD_eq_getElem?_getD, List.getElem?_eq_none (by omega)]
    simpa using hb
theorem drop_at (D : List Int) (i : Nat) (h : i < D.length) : D.drop i = D.getD i 0 :: D.drop (i + 1) := by
  rw [List.drop_eq_getElem_cons h, List.getD_eq_getElem?_getD, List.getElem?_eq_getElem h]; rfl
theorem rdn (C : List Int) (i : Nat) : rd C (i : Int) = C.getD i 0 := by unfold rd; rw [Int.toNat_natCast]
theorem w_idx (i j : Nat) (h : i + j ≤ 1000) : wrap64 (wrap64 ((i : Int) + (j : Int)) + 1) = ((i + j + 1 : Nat) : Int) := by unfold wrap64; omega
theorem w_next (a : Nat) (h : a ≤ 1000) : wrap64 ((a : Int) + 1) = ((a + 1 : Nat) : Int) := by unfold wrap64; omega
theorem w_add (a q : Int) (h : 0 ≤ a) (h2 : a ≤ 1000000) (h3 : 0 ≤ q) (h4 : q ≤ 81) : wrap64 (a + wrap64 q) = a + q := by unfold wrap64; omega
theorem w_dig (a : Int) (h : 0 ≤ a) (h2 : a ≤ 9) : (48 + a - 48) % 256 = a := by omega
theorem l1_step (D E : List Int) (hD : Dig D) (hE : Dig E) (C : List Int) (i j K : Nat) (hi : i < D.length) (hj : j < E.length) (hp : i + j + 1 < C.length) (hs : i + j ≤ 1000) (hc0 : 0 ≤ C.getD (i + j + 1) 0) (hc1 : C.getD (i + j + 1) 0 ≤ 1000000) (hq0 : 0 ≤ D.getD i 0 * E.getD j 0) (hq1 : D.getD i 0 * E.getD j 0 ≤ 81) :
    metrolabref01_product.l1 (K + 1) (sg false D) (sg false E) C (i : Int) (j : Int) = metrolabref01_product.l1 K (sg false D) (sg false E) (C.set (i + j + 1) (C.getD (i + j + 1) 0 + D.getD i 0 * E.getD j 0)) (i : Int) ((j + 1 : Nat) : Int) := by
  have z1 : (sg false D).size = D.length := by rw [size_sg]; simp
  have z2 : (sg false E).size = E.length := by rw [size_sg]; simp
  have hdi := dig_at hD i hi
  have hej := dig_at hE j hj
  have hbi := bt_sg hD i hi
  have hbj := bt_sg hE j hj
  have e1 := w_idx i j hs
  have e4 := w_add _ _ hc0 hc1 hq0 hq1
  have c1 : (j : Int) < (E.length : Int) := Int.ofNat_lt.2 hj
  have c2 : (0 : Int) ≤ ((i + j + 1 : Nat) : Int) := Int.natCast_nonneg _
  have c3 : ((i + j + 1 : Nat) : Int) < (C.length : Int) := Int.ofNat_lt.2 hp
  have c4 : (0 : Int) ≤ (i : Int) := Int.natCast_nonneg _
  have c5 : (i : Int) < (D.length : Int) := Int.ofNat_lt.2 hi
  have c6 : (0 : Int) ≤ (j : Int) := Int.natCast_nonneg _
  have e7 := w_next j (Nat.le_trans (Nat.le_add_left _ _) hs)
  simp only [metrolabref01_product.l1]
  rw [z2, z1, if_pos c1, e1, if_pos c2, if_pos c3, if_pos c4, if_pos c5, if_pos c6, hbi, hbj, rdn, Int.toNat_natCast, e7, w_dig _ hdi.1 hdi.2, w_dig _ hej.1 hej.2, e4]
theorem prod_l1 (D E : List Int) (hD : Dig D) (hE : Dig E) (hl : D.length ≤ 18) (hm : E.length ≤ 18) (i : Nat) (hi : i < D.length) :
    ∀ (d j : Nat) (C : List Int) (b : Int), j + d = E.length → C.length = D.length + E.length → Bd C b → 0 ≤ b → b + 81 * d ≤ 1000000 → ∀ k, ∃ C', C'.length = C.length ∧ Bd C' (b + 81 * d) ∧ val C' = val C + D.getD i 0 * 10 ^ (D.length - 1 - i) * val (E.drop j) ∧
      metrolabref01_product.l1 (k + d + 1) (sg false D) (sg false E) C (i : Int) (j : Int) = metrolabref01_product.l0 k (sg false D) (sg false E) C' ((i + 1 : Nat) : Int) := by
  have z1 : (sg false D).size = D.length := by rw [size_sg]; simp
  have z2 : (sg false E).size = E.length := by rw [size_sg]; simp
  have nx : ∀ a : Nat, a ≤ 1000 → wrap64 ((a : Int) + 1) = ((a + 1 : Nat) : Int) := by intro a h; unfold wrap64; omega
  intro d
  induction d with
  | zero =>
    intro j C b hj hC hb h0 hbb k
    refine ⟨C, rfl, by simpa using hb, ?_, ?_⟩
    · rw [List.drop_of_length_le (by omega), show val [] = 0 from rfl]; omega
    · simp only [metrolabref01_product.l1]
      rw [z2, if_neg (by omega), nx i (by omega)]
  | succ d ih =>
    intro j C b hj hC hb h0 hbb k
    have hj' : j < E.length := by omega
    have hdi := dig_at hD i hi
    have hej := dig_at hE j hj'
    have hp : i + j + 1 < C.length := by omega
    have hx : 0 ≤ D.getD i 0 * E.getD j 0 ∧ D.getD i 0 * E.getD j 0 ≤ 81 := by
      have h1 : 0 ≤ D.getD i 0 * E.getD j 0 := Int.mul_nonneg hdi.1 hej.1
      have h2 : D.getD i 0 * E.getD j 0 ≤ 9 * E.getD j 0 := Int.mul_le_mul_of_nonneg_right hdi.2 hej.1
      omega
    have hc := bd_at hb h0 (i + j + 1)
    obtain ⟨C', h1, h2, h3, h4⟩ := ih (j + 1) (C.set (i + j + 1) (C.getD (i + j + 1) 0 + D.getD i 0 * E.getD j 0)) (b + 81) (by omega) (by rw [List.length_set]; exact hC) (bd_set hb _ _ _ (by omega) (by omega)) (by omega) (by omega) k
    refine ⟨C', by rw [h1, List.length_set], ?_, ?_, ?_⟩
    · intro x hx; have := h2 x hx; omega
    · rw [h3, val_set C _ _ hp, drop_at E j hj', val_cons, hC, show D.length + E.length - 1 - (i + j + 1) = (D.length - 1 - i) + (E.drop (j + 1)).length by rw [List.length_drop]; omega, Int.pow_add, Int.mul_add]
      generalize (10 : Int) ^ (D.length - 1 - i) = P
      generalize (10 : Int) ^ (E.drop (j + 1)).length = Q
      generalize D.getD i 0 = x
      generalize E.getD j 0 = y
      have : x * y * (P * Q) = x * P * (y * Q) := by ac_rfl
      omega
    · rw [← h4, show k + (d + 1) + 1 = (k + d + 1) + 1 by omega]
      exact l1_step D E hD hE C i j (k + d + 1) hi hj' hp (by omega) (by omega) (by omega) hx.1 hx.2
theorem prod_l0 (D E : List Int) (hD : Dig D) (hE : Dig E) (hl : D.length ≤ 18) (hm : E.length ≤ 18) :
    ∀ (r i : Nat) (C : List Int) (b : Int), i + r = D.length → C.length = D.length + E.length → Bd C b → 0 ≤ b → b + 1458 * r ≤ 1000000 → ∀ k, ∃ C', C'.length = C.length ∧ Bd C' (b + 1458 * r) ∧ val C' = val C + val (D.drop i) * val E ∧
      metrolabref01_product.l0 (k + r * (E.length + 2) + 1) (sg false D) (sg false E) C (i : Int) = metrolabref01_product.l0 (k + 1) (sg false D) (sg false E) C' (D.length : Int) := by
  have z1 : (sg false D).size = D.length := by rw [size_sg]; simp
  intro r
  induction r with
  | zero =>
    intro i C b hi hC hb h0 hbb k
    refine ⟨C, rfl, by simpa using hb, ?_, ?_⟩
    · rw [List.drop_of_length_le (by omega), show val [] = 0 from rfl]; omega
    · rw [show i = D.length by omega]; simp
  | succ r ih =>
    intro i C b hi hC hb h0 hbb k
    have hi' : i < D.length := by omega
    obtain ⟨C1, a1, a2, a3, a4⟩ := prod_l1 D E hD hE hl hm i hi' E.length 0 C b (by omega) hC hb h0 (by omega) (k + r * (E.length + 2) + 1)
    obtain ⟨C2, b1, b2, b3, b4⟩ := ih (i + 1) C1 (b + 1458) (by omega) (by rw [a1]; exact hC) (fun x hx => by have := a2 x hx; omega) (by omega) (by omega) k
    refine ⟨C2, by rw [b1, a1], fun x hx => by have := b2 x hx; omega, ?_, ?_⟩
    · rw [b3, a3, drop_at D i hi', val_cons, List.drop_zero, Int.add_mul, List.length_drop, show D.length - 1 - i = D.length - (i + 1) by omega]
      omega
    · rw [← b4, ← a4]
      have : (r + 1) * (E.length + 2) = r * (E.length + 2) + (E.length + 2) := by rw [Nat.add_mul, Nat.one_mul]
      rw [this, show k + (r * (E.length + 2) + (E.length + 2)) + 1 = (k + r * (E.length + 2) + 1 + E.length + 1) + 1 by omega]
      generalize k + r * (E.length + 2) + 1 + E.length + 1 = K
      simp only [metrolabref01_product.l0]
      rw [z1, if_pos (by omega)]
      rfl
theorem w_self (s : Int) (h : 0 ≤ s) (h2 : s ≤ 2000000) : wrap64 s = s := by unfold wrap64; omega
theorem w_out (s : Int) : wrap64 (48 + s % 10) % 256 = 48 + s % 10 := by unfold wrap64; omega
theorem w_tenth (s : Int) (h : 0 ≤ s) (h2 : s ≤ 2000000) : wrap64 (s / 10) = s / 10 := by unfold wrap64; omega
theorem w_pred (d : Nat) (h : d ≤ 1000000000) : wrap64 ((d : Int) - 1) = (d : Int) - 1 := by unfold wrap64; omega
theorem l2_step (C out : List Int) (c s : Int) (d K : Nat) (hd : d < C.length) (ho : d < out.length) (hs : s = c + C.getD d 0) (h0 : 0 ≤ s) (h2 : s ≤ 2000000) (h3 : d ≤ 1000000000) :
    metrolabref01_product.l2 (K + 1) C out c (d : Int) = metrolabref01_product.l2 K C (out.set d (48 + s % 10)) (s / 10) ((d : Int) - 1) := by
  have c1 : (d : Int) ≥ 0 := Int.natCast_nonneg _
  have c2 : (d : Int) < (C.length : Int) := Int.ofNat_lt.2 hd
  have c3 : (d : Int) < (out.length : Int) := Int.ofNat_lt.2 ho
  have e1 := w_self s h0 h2
  have e2 := w_out s
  have e3 := w_tenth s h0 h2
  have e4 := w_pred d h3
  simp only [metrolabref01_product.l2]
  rw [if_pos c1, if_pos c1, if_pos c2, if_pos c3, rdn, Int.toNat_natCast, ← hs, e1, Int.tmod_eq_emod_of_nonneg h0, Int.tdiv_eq_ediv_of_nonneg h0, e2, e3, e4]
theorem prod_l2 (C : List Int) (b : Int) (hC : Bd C b) (h0 : 0 ≤ b) (hb : b ≤ 1000000) : ∀ (d : Nat) (out : List Int) (c : Int), d ≤ C.length → C.length ≤ 1000 → out.length = C.length → 0 ≤ c → c ≤ b → ∀ k, ∃ (O : List Int) (c' : Int), Dig O ∧ O.length = d ∧ val (C.take d) + c = c' * 10 ^ d + val O ∧
    metrolabref01_product.l2 (k + d + 1) C out c ((d : Int) - 1) = metrolabref01_bare.f k (strOfNums (O.map (fun x => 48 + x) ++ out.drop d)) := by
  intro d
  induction d with
  | zero =>
    intro out c hd hCl ho hc hcb k
    refine ⟨[], c, (fun x hx => by cases hx), rfl, by simp [val], ?_⟩
    simp only [metrolabref01_product.l2]
    rw [if_neg (by omega), List.drop_zero, List.map_nil, List.nil_append]
    cases metrolabref01_bare.f k (strOfNums out) <;> rfl
  | succ d ih =>
    intro out c hd hCl ho hc hcb k
    have hx := bd_at hC h0 d
    obtain ⟨s, hs⟩ : ∃ s, s = c + C.getD d 0 := ⟨_, rfl⟩
    obtain ⟨O, c', h1, h2, h3, h4⟩ := ih (out.set d (48 + s % 10)) (s / 10) (by omega) hCl (by rw [List.length_set]; exact ho) (by omega) (by omega) k
    refine ⟨O ++ [s % 10], c', dig_append.2 ⟨h1, by intro x hx; simp at hx; omega⟩, by simp [h2], ?_, ?_⟩
    · have ht : C.take (d + 1) = C.take d ++ [C.getD d 0] := by
        rw [List.take_succ_eq_append_getElem (by omega), List.getD_eq_getElem?_getD, List.getElem?_eq_getElem (by omega)]; rfl
      rw [ht, val_snoc, val_snoc, Int.pow_succ, ← Int.mul_assoc]
      generalize c' * 10 ^ d = q at *
      omega
    · rw [show k + (d + 1) + 1 = (k + d + 1) + 1 by omega]
      generalize hK : k + d + 1 = K at *
      have e := l2_step C out c s d K (by omega) (by omega) hs (by omega) (by omega) (by omega)
      rw [show ((d + 1 : Nat) : Int) - 1 = (d : Int) by omega, e, h4]
      congr 2
      rw [List.map_append, List.append_assoc]
      congr 1
      rw [List.drop_eq_getElem_cons (by rw [List.length_set]; omega), List.getElem_set_self]
      simp [List.drop_set]
theorem product_f (D E : List Int) (hD : Canon D) (hE : Canon E) (hl : D.length ≤ 18) (hm : E.length ≤ 18) (k : Nat) :
    ∃ P, Canon P ∧ val P = val D * val E ∧ P.length ≤ 36 ∧ metrolabref01_product.f (k + 500) (sg false D) (sg false E) = some (sg false P) := by
  have z1 : (sg false D).size = D.length := by rw [size_sg]; simp
  have z2 : (sg false E).size = E.length := by rw [size_sg]; simp
  have hmul : D.length * (E.length + 2) ≤ 18 * 20 := Nat.mul_le_mul hl (by omega)
  obtain ⟨N, hN⟩ : ∃ N, N = D.length + E.length := ⟨_, rfl⟩
  have h1 : 0 < D.length := List.length_pos_iff.2 hD.2.1
  obtain ⟨q, hq⟩ : ∃ q, k + 500 = (q + N + N + 1) + D.length * (E.length + 2) + 1 := ⟨k + 500 - 1 - D.length * (E.length + 2) - (N + N + 1), by omega⟩
  have hrep : Bd (List.replicate N (0 : Int)) 0 := by intro x hx; have := List.eq_of_mem_replicate hx; omega
  have hval0 : ∀ n, val (List.replicate n (0 : Int)) = 0 := by
    intro n
    induction n with
    | zero => rfl
    | succ n ih => rw [List.replicate_succ, val_cons, ih]; omega
  obtain ⟨C, c1, c2, c3, c4⟩ := prod_l0 D E hD.1 hE.1 hl hm D.length 0 (List.replicate N 0) 0 (by omega) (by rw [List.length_replicate, hN]) hrep (by omega) (by omega) (q + N + N + 1)
  rw [hval0, List.drop_zero, Int.zero_add] at c3
  rw [List.length_replicate] at c1
  obtain ⟨O, c', o1, o2, o3, o4⟩ := prod_l2 C _ c2 (by omega) (by omega) N (List.replicate N 0) 0 (by omega) (by omega) (by rw [List.length_replicate, c1]) (by omega) (by omega) (q + N)
  rw [List.take_of_length_le (by omega), c3] at o3
  have vO := val_range o1
  have vD := val_range hD.1
  have vE := val_range hE.1
  have hlt : val D * val E < 10 ^ N := by
    rw [hN, Int.pow_add]
    have hp := pow_pos' E.length
    have a : val D * val E ≤ val D * 10 ^ E.length := Int.mul_le_mul_of_nonneg_left (by omega) vD.1
    have b : (val D + 1) * 10 ^ E.length ≤ 10 ^ D.length * 10 ^ E.length := Int.mul_le_mul_of_nonneg_right (by omega) (by omega)
    rw [Int.add_mul] at b
    omega
  have hge : 0 ≤ val D * val E := Int.mul_nonneg vD.1 vE.1
  rw [o2] at vO
  have hc' : c' = 0 := by
    have hp := pow_pos' N
    generalize (10 : Int) ^ N = p at *
    rcases Int.lt_trichotomy c' 0 with h | h | h
    · have : c' * p ≤ (-1) * p := Int.mul_le_mul_of_nonneg_right (by omega) (by omega)
      omega
    · exact h
    · have : 1 * p ≤ c' * p := Int.mul_le_mul_of_nonneg_right (by omega) (by omega)
      omega
  subst hc'
  obtain ⟨P, p1, p2, p3, p4⟩ := bare_f O o1 (by intro e; rw [e] at o2; simp at o2; omega) q
  refine ⟨P, p1, by rw [p2]; omega, by omega, ?_⟩
  unfold metrolabref01_product.f
  rw [z1, z2, show wrap64 ((D.length : Int) + (E.length : Int)) = (N : Int) by unfold wrap64; omega, if_pos (by omega), Int.toNat_natCast, if_pos (by omega), hq]
  have c4' : metrolabref01_product.l0 (q + N + N + 1 + D.length * (E.length + 2) + 1) (sg false D) (sg false E) (List.replicate N 0) 0 = _ := c4
  rw [c4']
  have : metrolabref01_product.l0 (q + N + N + 1 + 1) (sg false D) (sg false E) C (D.length : Int) = metrolabref01_product.l2 (q + N + N + 1) C (List.replicate N 0) 0 ((N : Int) - 1) := by
    generalize q + N + N + 1 = K
    simp only [metrolabref01_product.l0]
    rw [z1, if_neg (by omega), if_pos (by omega), Int.toNat_natCast, if_pos (by omega), c1, show wrap64 ((N : Int) - 1) = (N : Int) - 1 by unfold wrap64; omega]
  rw [this, o4, List.drop_of_length_le (by rw [List.length_replicate]; omega), List.append_nil, show q + N = q + O.length by rw [o2], ← p4]
  rfl
end Go.Proofs.Ytkpojbglckmddaa.Dec

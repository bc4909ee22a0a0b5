/- Plain laws on the reference's decimal texts: of digits, of their numbers, and of the short ones. -/
import Derived.Test.YtkpojbglckmddaaX12
import Derived.Lib.Strings
namespace Go.Proofs.Ytkpojbglckmddaa.Dec
open Go Go.RowKit Go.Proofs.Ytkpojbglckmddaa.X Go.Proofs.YtkpojbglckmddaaW.PrintWords

def Dig (D : List Int) : Prop := ∀ d ∈ D, 0 ≤ d ∧ d ≤ 9
/-- the text of a sign and digits -/
def sg (s : Bool) (D : List Int) : ByteArray := strOfNums ((if s then [45] else []) ++ D.map (fun d => 48 + d))
def val (D : List Int) : Int := D.foldl (fun n d => 10 * n + d) 0
def sv (s : Bool) (D : List Int) : Int := if s then - val D else val D
/-- digits without zeros in front, but at least one -/
def Canon (D : List Int) : Prop := Dig D ∧ D ≠ [] ∧ (1 < D.length → D.getD 0 0 ≠ 0)

theorem toList_data (b : ByteArray) : b.toList = b.data.toList := Go.Lib.toList_data b
theorem u8 (n : Int) (h : 0 ≤ n) (h2 : n ≤ 255) : ((UInt8.ofNat n.toNat).toNat : Int) = n := by
  rw [UInt8.toNat_ofNat']
  omega
theorem bytesOf_str (l : List Int) (h : ∀ n ∈ l, 0 ≤ n ∧ n ≤ 255) : bytesOf (strOfNums l) = l := by
  unfold bytesOf
  rw [strOfNums_data, List.map_map]
  have : l.map ((fun b : UInt8 => (b.toNat : Int)) ∘ fun n : Int => UInt8.ofNat n.toNat) = l.map id := List.map_congr_left fun n hn => u8 n (h n hn).1 (h n hn).2
  rw [this, List.map_id]
theorem str_inj {l m : List Int} (hl : ∀ n ∈ l, 0 ≤ n ∧ n ≤ 255) (hm : ∀ n ∈ m, 0 ≤ n ∧ n ≤ 255) (h : strOfNums l = strOfNums m) : l = m := by
  rw [← bytesOf_str l hl, h, bytesOf_str m hm]
theorem sg_range {s : Bool} {D : List Int} (h : Dig D) : ∀ n ∈ ((if s then [45] else []) ++ D.map (fun d => 48 + d)), 0 ≤ n ∧ n ≤ 255 := by
  intro n hn
  rcases List.mem_append.1 hn with hn | hn
  · cases s <;> simp at hn; omega
  · obtain ⟨d, hd, rfl⟩ := List.mem_map.1 hn
    have := h d hd; omega
theorem bt_str (l : List Int) (h : ∀ n ∈ l, 0 ≤ n ∧ n ≤ 255) (i : Nat) : bt (strOfNums l) (i : Int) = l.getD i 0 := by
  rw [← rd_bytesOf, bytesOf_str l h]
  unfold rd
  rw [Int.toNat_natCast]
theorem size_sg (s : Bool) (D : List Int) : (sg s D).size = (if s then 1 else 0) + D.length := by
  unfold sg
  rw [strOfNums_size, List.length_append, List.length_map]
  cases s <;> rfl
theorem bt_sg {D : List Int} (h : Dig D) (i : Nat) (hi : i < D.length) : bt (sg false D) (i : Int) = 48 + D.getD i 0 := by
  unfold sg
  rw [bt_str _ (sg_range h)]
  simp [List.getD_eq_getElem?_getD, List.getElem?_eq_getElem hi]
theorem bt_neg {D : List Int} (h : Dig D) : bt (sg true D) 0 = 45 := by
  unfold sg
  have := bt_str _ (sg_range (s := true) h) 0
  simpa using this
theorem dig_at {D : List Int} (h : Dig D) (i : Nat) (hi : i < D.length) : 0 ≤ D.getD i 0 ∧ D.getD i 0 ≤ 9 := by
  rw [List.getD_eq_getElem?_getD, List.getElem?_eq_getElem hi]
  exact h _ (List.getElem_mem _)
theorem str_append (l m : List Int) : strOfNums l ++ strOfNums m = strOfNums (l ++ m) := by
  apply ByteArray.ext
  apply Array.ext'
  rw [ByteArray.data_append, Array.toList_append, strOfNums_data, strOfNums_data, strOfNums_data, List.map_append]
theorem str_tail (a : Int) (l : List Int) : (strOfNums (a :: l)).extract 1 (strOfNums (a :: l)).size = strOfNums l := by
  apply ByteArray.ext
  apply Array.ext'
  rw [ByteArray.data_extract, Array.toList_extract, strOfNums_data, strOfNums_data, strOfNums_size]
  simp [List.extract]
  exact List.take_of_length_le (by simp)
theorem toList_sg (s : Bool) (D : List Int) : (sg s D).toList = ((if s then [45] else []) ++ D.map (fun d => 48 + d)).map fun n : Int => UInt8.ofNat n.toNat := by
  rw [toList_data]; rfl

/-! size, Below, signed, Turned -/
theorem size_f {s : Bool} {D : List Int} (h : Dig D) (h0 : D ≠ []) : metrolabref01_size.f (sg s D) = some (sg false D) := by
  unfold metrolabref01_size.f
  have hl : 0 < D.length := List.length_pos_iff.2 h0
  have hs := size_sg s D
  rw [if_neg (by
    intro e
    have := congrArg List.length e
    rw [toList_sg] at this
    simp at this
    exact h0 this.2), if_pos (by rw [hs]; cases s <;> simp <;> omega)]
  cases s
  · have hb := bt_sg h 0 hl
    have := dig_at h 0 hl
    rw [show ((0 : Nat) : Int) = 0 from rfl] at hb
    rw [if_neg (by rw [hb]; omega)]
  · rw [if_pos (bt_neg h), if_pos (by rw [hs]; simp; omega)]
    congr 1
    exact str_tail 45 (D.map fun d => 48 + d)
theorem below_f {s : Bool} {D : List Int} (h : Dig D) (h0 : D ≠ []) : metrolabref01_Below.f (sg s D) = some s := by
  unfold metrolabref01_Below.f
  have hl : 0 < D.length := List.length_pos_iff.2 h0
  have hs := size_sg s D
  rw [if_pos (by rw [hs]; cases s <;> simp <;> omega)]
  cases s
  · have hb := bt_sg h 0 hl
    have := dig_at h 0 hl
    rw [show ((0 : Nat) : Int) = 0 from rfl] at hb
    rw [hb]
    have : ((48 + D.getD 0 0) == 45) = false := beq_eq_false_iff_ne.mpr (by omega)
    rw [this]
  · rw [bt_neg h]; rfl
theorem zero_sg {D : List Int} (h : Dig D) : (sg false D).toList = ([48] : List UInt8) ↔ D = [0] := by
  constructor
  · intro e
    rw [toList_data] at e
    have e2 : sg false D = strOfNums [48] := by
      apply ByteArray.ext
      apply Array.ext'
      rw [e]; rfl
    have := str_inj (sg_range (s := false) h) (by intro n hn; simp at hn; omega) e2
    simp at this
    obtain ⟨a, ha⟩ : ∃ a, D = [a] := by
      match D, this with
      | [a], _ => exact ⟨a, rfl⟩
    subst ha
    have h48 : 48 + a = 48 := by simpa using this
    have : a = 0 := by omega
    rw [this]
  · rintro rfl
    rw [toList_data]; rfl
theorem signed_f {D : List Int} (h : Dig D) (hl : D.length ≤ 1000) (s : Bool) : metrolabref01_signed.f (sg false D) s = some (sg (s && !decide (D = [0])) D) := by
  unfold metrolabref01_signed.f
  cases s
  · rfl
  · rw [if_pos rfl]
    by_cases e : D = [0]
    · rw [if_pos ((zero_sg h).2 e)]; simp [e]
    · rw [if_neg (fun x => e ((zero_sg h).1 x)), if_pos (by rw [size_sg]; simp; omega)]
      simp only [e, decide_false, Bool.not_false, Bool.and_true]
      congr 1

/-! values -/
theorem val_fold (D : List Int) : ∀ a, D.foldl (fun n d => 10 * n + d) a = a * 10 ^ D.length + val D := by
  induction D with
  | nil => intro a; simp [val]
  | cons d E ih =>
    intro a
    unfold val
    rw [List.foldl_cons, List.foldl_cons, ih, ih, List.length_cons, Int.pow_succ]
    simp only [Int.mul_zero, Int.zero_add, Int.add_mul]
    rw [Int.mul_comm 10 a, Int.mul_assoc, Int.mul_comm 10 (10 ^ E.length), Int.add_assoc]
theorem val_append (D E : List Int) : val (D ++ E) = val D * 10 ^ E.length + val E := by
  unfold val
  rw [List.foldl_append, val_fold]
  rfl
theorem val_one (d : Int) : val [d] = d := by unfold val; simp
theorem val_cons (d : Int) (E : List Int) : val (d :: E) = d * 10 ^ E.length + val E := by
  have := val_append [d] E
  rw [val_one] at this
  exact this
theorem val_snoc (D : List Int) (d : Int) : val (D ++ [d]) = 10 * val D + d := by
  rw [val_append, val_one, List.length_singleton, Int.pow_one, Int.mul_comm]
theorem pow_pos' (n : Nat) : (1 : Int) ≤ 10 ^ n := by
  have : (0 : Int) < 10 ^ n := Int.pow_pos (by decide)
  omega
theorem dig_cons {d : Int} {E : List Int} : Dig (d :: E) ↔ (0 ≤ d ∧ d ≤ 9) ∧ Dig E := by
  unfold Dig; simp
theorem dig_append {D E : List Int} : Dig (D ++ E) ↔ Dig D ∧ Dig E := by
  unfold Dig
  simp only [List.mem_append]
  exact ⟨fun h => ⟨fun d hd => h d (.inl hd), fun d hd => h d (.inr hd)⟩, fun h d hd => hd.elim (h.1 d) (h.2 d)⟩
theorem val_range {D : List Int} (h : Dig D) : 0 ≤ val D ∧ val D < 10 ^ D.length := by
  induction D with
  | nil => decide
  | cons d E ih =>
    obtain ⟨hd, hE⟩ := dig_cons.1 h
    have := ih hE
    have hp := pow_pos' E.length
    rw [val_cons, List.length_cons, Int.pow_succ]
    generalize (10 : Int) ^ E.length = p at *
    have h1 : 0 ≤ d * p := Int.mul_nonneg hd.1 (by omega)
    have h2 : d * p ≤ 9 * p := Int.mul_le_mul_of_nonneg_right hd.2 (by omega)
    omega
theorem val_ge {D : List Int} (h : Canon D) (hl : 1 < D.length) : 10 ^ (D.length - 1) ≤ val D := by
  obtain ⟨hd, hn, h0⟩ := h
  cases D with
  | nil => exact absurd rfl hn
  | cons d E =>
    have h0 := h0 hl
    obtain ⟨hd, hE⟩ := dig_cons.1 hd
    have hv := val_range hE
    have hp := pow_pos' E.length
    have hne : d ≠ 0 := by simpa using h0
    rw [val_cons, List.length_cons, Nat.add_sub_cancel]
    generalize (10 : Int) ^ E.length = p at *
    have : 1 * p ≤ d * p := Int.mul_le_mul_of_nonneg_right (by omega) (by omega)
    omega
theorem canon_one {n : Int} (h0 : 0 ≤ n) (h : n ≤ 9) : Canon [n] := ⟨by intro d hd; simp at hd; omega, by simp, by simp⟩
theorem canon_snoc {D : List Int} {d : Int} (h : Canon D) (hv : 1 ≤ val D) (hd : 0 ≤ d ∧ d ≤ 9) : Canon (D ++ [d]) := by
  obtain ⟨h1, h2, h3⟩ := h
  refine ⟨dig_append.2 ⟨h1, by intro x hx; simp at hx; omega⟩, by simp, fun _ => ?_⟩
  cases D with
  | nil => exact absurd rfl h2
  | cons a E =>
    simp only [List.cons_append, List.getD_cons_zero]
    cases E with
    | nil => rw [val_one] at hv; omega
    | cons b F => simpa using h3 (by simp)
theorem canon_zero {D : List Int} (h : Canon D) : D = [0] ↔ val D = 0 := by
  constructor
  · rintro rfl; rfl
  · intro e
    by_cases hl : 1 < D.length
    · have := val_ge h hl
      have := pow_pos' (D.length - 1)
      omega
    · obtain ⟨_, hn, _⟩ := h
      match D, hn, hl with
      | [a], _, _ => rw [val_one] at e; rw [e]
      | a :: b :: t, _, hl => simp at hl

/-! Of -/
theorem sg_cons (d : Int) (E : List Int) : strOfNums [48 + d] ++ sg false E = sg false (d :: E) := by
  unfold sg
  rw [str_append]; rfl
theorem dig_str (n : Int) (h0 : 0 ≤ n) (h : n ≤ 9) : (wrap64 (48 + n)) % 256 = 48 + n := by unfold wrap64; omega
theorem of_l0 : ∀ (f : Nat) (n : Int) (E : List Int) (k : Nat), 0 ≤ n → n ≤ 4611686018427387904 → n < 10 ^ (f + 1) → Dig E → E.length + f ≤ 500 →
    ∃ D, Canon D ∧ val D = n ∧ D.length ≤ f + 1 ∧ metrolabref01_Of.l0 (k + f + 1) n (sg false E) = some (sg false (D ++ E)) := by
  have small : ∀ (n : Int) (E : List Int) (k : Nat), 0 ≤ n → n ≤ 9 → E.length ≤ 500 → metrolabref01_Of.l0 (k + 1) n (sg false E) = some (sg false ([n] ++ E)) := by
    intro n E k h0 h9 hl
    simp only [metrolabref01_Of.l0]
    rw [if_neg (by omega), Option.bind_some, dig_str n h0 h9, if_pos (by rw [strOfNums_size, size_sg]; simp; omega), sg_cons]
    rfl
  intro f
  induction f with
  | zero =>
    intro n E k h0 _ h hE hl
    have h9 : n ≤ 9 := by have : (10 : Int) ^ (0 + 1) = 10 := rfl; omega
    exact ⟨[n], canon_one h0 h9, val_one n, by simp, small n E k h0 h9 (by omega)⟩
  | succ f ih =>
    intro n E k h0 hm h hE hl
    by_cases h9 : n ≤ 9
    · exact ⟨[n], canon_one h0 h9, val_one n, by simp, small n E (k + (f + 1)) h0 h9 (by omega)⟩
    · have hr : 0 ≤ n % 10 ∧ n % 10 ≤ 9 := by omega
      have hp : n / 10 < 10 ^ (f + 1) := by
        rw [Int.pow_succ] at h
        generalize (10 : Int) ^ (f + 1) = p at *
        omega
      obtain ⟨D, hD, hv, hDl, hf⟩ := ih (n / 10) (n % 10 :: E) k (by omega) (by omega) hp (dig_cons.2 ⟨hr, hE⟩) (by simp; omega)
      refine ⟨D ++ [n % 10], canon_snoc hD (by omega) hr, by rw [val_snoc, hv]; omega, by simp; omega, ?_⟩
      rw [show k + (f + 1) + 1 = (k + f + 1) + 1 by omega]
      generalize hK : k + f + 1 = K at *
      simp only [metrolabref01_Of.l0]
      rw [if_pos (by omega), Option.bind_some, Int.tmod_eq_emod_of_nonneg h0, dig_str _ hr.1 hr.2, if_pos (by rw [strOfNums_size, size_sg]; simp; omega), sg_cons, Int.tdiv_eq_ediv_of_nonneg h0, show wrap64 (n / 10) = n / 10 by unfold wrap64; omega, hf]
      simp
theorem sg_nil : sg false [] = (⟨#[]⟩ : ByteArray) := rfl
theorem of_f (n : Int) (k : Nat) (h0 : 0 ≤ n) (hm : n < 1000000000000000000) : ∃ D, Canon D ∧ val D = n ∧ D.length ≤ 18 ∧ metrolabref01_Of.f (k + 20) n = some (sg false D) := by
  obtain ⟨D, h1, h2, h3, h4⟩ := of_l0 17 n [] k h0 (by omega) (by omega) (by intro d hd; cases hd) (by simp)
  refine ⟨D, h1, h2, h3, ?_⟩
  rw [List.append_nil, sg_nil] at h4
  have hj : metrolabref01_Of.j0 (k + 19) n false = some (sg false D) := by
    rw [show k + 19 = (k + 17 + 1) + 1 by omega]
    generalize hK : k + 17 + 1 = K at *
    simp only [metrolabref01_Of.j0]
    rw [if_neg (by decide), if_neg (by omega), h4]
  rw [show k + 20 = (k + 19) + 1 by omega]
  generalize hK : k + 19 = K at *
  simp only [metrolabref01_Of.f]
  by_cases e : n = wrap64 (-n)
  · have : n = 0 := by unfold wrap64 at e; omega
    subst this
    rw [if_pos e, show ((0 : Int) != 0) = false from rfl, hj]
  · rw [if_neg e, hj]
theorem of_neg (n : Int) (k : Nat) (h0 : 0 < n) (hm : n < 1000000000000000000) : ∃ D, Canon D ∧ val D = n ∧ D.length ≤ 18 ∧ metrolabref01_Of.f (k + 22) (-n) = some (sg true D) := by
  obtain ⟨D, h1, h2, h3, h4⟩ := of_f n k (by omega) hm
  refine ⟨D, h1, h2, h3, ?_⟩
  have hT : metrolabref01_Turned.f (sg false D) = some (sg true D) := by
    unfold metrolabref01_Turned.f
    rw [size_f h1.1 h1.2.1, Option.bind_some, below_f h1.1 h1.2.1, Option.bind_some, signed_f h1.1 (by omega), Option.bind_some]
    have : D ≠ [0] := fun e => by rw [canon_zero h1] at e; omega
    simp [this]
  have hj : metrolabref01_Of.j0 (k + 21) (-n) false = some (sg true D) := by
    rw [show k + 21 = (k + 20) + 1 by omega]
    generalize hK : k + 20 = K at *
    simp only [metrolabref01_Of.j0]
    rw [if_neg (by decide), if_pos (by omega), show wrap64 (- -n) = n by unfold wrap64; omega, h4, Option.bind_some, hT, Option.bind_some]
  rw [show k + 22 = (k + 21) + 1 by omega]
  generalize hK : k + 21 = K at *
  simp only [metrolabref01_Of.f]
  rw [if_neg (by unfold wrap64; omega), hj]

/-! number, brief -/
theorem number_l0 (s : Bool) (D : List Int) (hD : Dig D) (h0 : D ≠ []) (hl : D.length ≤ 18) : ∀ (d i : Nat), i + d = D.length → ∀ k, metrolabref01_number.l0 (k + d + 1) (sg s D) (val (D.take i)) (sg false D) (i : Int) = some (sv s D) := by
  have h18 : (10 : Int) ^ D.length ≤ 10 ^ 18 := by
    have : 10 ^ D.length ≤ 10 ^ 18 := Nat.pow_le_pow_right (by decide) hl
    exact_mod_cast this
  have hv := val_range hD
  intro d
  induction d with
  | zero =>
    intro i hi k
    simp only [metrolabref01_number.l0]
    rw [if_neg (by rw [size_sg]; simp; omega), below_f hD h0, Option.bind_some, List.take_of_length_le (by omega)]
    unfold sv
    cases s
    · rfl
    · rw [if_pos rfl, if_pos rfl]
      have : wrap64 (-val D) = -val D := by unfold wrap64; omega
      rw [this]
  | succ d ih =>
    intro i hi k
    rw [show k + (d + 1) + 1 = (k + d + 1) + 1 by omega]
    generalize hK : k + d + 1 = K
    simp only [metrolabref01_number.l0]
    subst hK
    have hi' : i < D.length := by omega
    have ht : D.take (i + 1) = D.take i ++ [D.getD i 0] := by
      rw [List.take_succ_eq_append_getElem hi', List.getD_eq_getElem?_getD, List.getElem?_eq_getElem hi']; rfl
    have hd := dig_at hD i hi'
    have hdt : Dig (D.take i) := fun x hx => hD x (List.mem_of_mem_take hx)
    have hvt := val_range hdt
    have hp : (10 : Int) ^ (D.take i).length ≤ 10 ^ 17 := by
      have : 10 ^ (D.take i).length ≤ 10 ^ 17 := Nat.pow_le_pow_right (by decide) (by rw [List.length_take]; omega)
      exact_mod_cast this
    rw [if_pos (by rw [size_sg]; simp; omega), if_pos (by omega), bt_sg hD i hi']
    have e : wrap64 (wrap64 (10 * val (D.take i)) + (48 + D.getD i 0 - 48) % 256) = val (D.take (i + 1)) := by
      rw [ht, val_snoc]
      generalize val (D.take i) = a at *
      generalize (10 : Int) ^ (D.take i).length = q at *
      unfold wrap64
      omega
    rw [e, show wrap64 ((i : Int) + 1) = ((i + 1 : Nat) : Int) by unfold wrap64; omega, ih (i + 1) (by omega) k]
theorem number_f (s : Bool) (D : List Int) (hD : Dig D) (h0 : D ≠ []) (hl : D.length ≤ 18) (k : Nat) : metrolabref01_number.f (k + 19) (sg s D) = some (sv s D) := by
  unfold metrolabref01_number.f
  rw [size_f hD h0, Option.bind_some]
  have := number_l0 s D hD h0 hl D.length 0 (by omega) (k + (18 - D.length))
  rw [show k + (18 - D.length) + D.length + 1 = k + 19 by omega] at this
  exact this
theorem brief_f (s t : Bool) (D E : List Int) (hD : Dig D) (h0 : D ≠ []) (hE : Dig E) (h1 : E ≠ []) (k : Nat) :
    metrolabref01_brief.f (k + 20) (sg s D) (sg t E) = if D.length ≤ 18 ∧ E.length ≤ 18 then some (sv s D, sv t E, true) else some (0, 0, false) := by
  unfold metrolabref01_brief.f
  rw [size_f hD h0, Option.bind_some]
  have hj : ∀ b, metrolabref01_brief.j0 (k + 20) (sg s D) (sg t E) b = if b = true then some (0, 0, false) else (metrolabref01_number.f (k + 19) (sg s D)).bind fun t246 => ((metrolabref01_number.f (k + 19) (sg t E)).bind fun t247 => (some (t246, t247, true))) := by
    intro b
    rw [show k + 20 = (k + 19) + 1 by omega]
    generalize k + 19 = K
    simp only [metrolabref01_brief.j0]
  have z1 := size_sg false D
  have z2 := size_sg false E
  by_cases hl : D.length ≤ 18
  · rw [if_neg (by rw [z1]; simp; omega), size_f hE h1, Option.bind_some, hj]
    by_cases hm : E.length ≤ 18
    · rw [if_neg (by rw [decide_eq_true_eq, z2]; simp; omega), if_pos ⟨hl, hm⟩, number_f s D hD h0 hl, Option.bind_some, number_f t E hE h1 hm, Option.bind_some]
    · rw [if_pos (by rw [decide_eq_true_eq, z2]; simp; omega), if_neg (fun h => hm h.2)]
  · rw [if_pos (by rw [z1]; simp; omega), if_neg (fun h => hl h.1), hj, if_pos rfl]
end Go.Proofs.Ytkpojbglckmddaa.Dec

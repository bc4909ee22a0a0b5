/- The law PointsLifts walked: Lift answers as the reference does, for all points, axes and coordinates. -/
import Derived.Test.YtgfkodanekfekaaWalkLift
import Derived.Test.YtgfkodanekfekaaX23
import Derived.Test.YtgfkodanekfekaaX5
namespace Go.Proofs.Ytgfkodanekfekaa.X
open Go.RowKit Go.Proofs.YtgfkodanekfekaaW.PrintWords Go.Proofs.YtgfkodanekfekaaW.PrintLast Go.Proofs.YtgfkodanekfekaaW.PrintMore
set_option linter.unusedVariables false
set_option linter.unusedSimpArgs false
open Base (next_ drop_cons_)
theorem rd46_ (l : List S46) (i : Nat) : rd_T46 l (i : Int) = l.getD i z46 := by unfold rd_T46; rw [Int.toNat_natCast]
theorem rpoint_f (p : S46) : metrolabref07_Right.f p.f0 p.f1 = some (okPoint p) := by
  unfold metrolabref07_Right.f metrolabref07_in.f okPoint inRangePoint
  grind
theorem rpcheck_l0 (l : List S46) (hl : l.length ≤ 1000000) : ∀ (d i : Nat), i + d = l.length → ∀ k, metrolabref07_Check.l0 (k + d + 1) l (i : Int) = some (allPoint (l.drop i)) := by
  intro d
  induction d with
  | zero =>
    intro i hi k
    simp only [metrolabref07_Check.l0]
    rw [if_neg (by omega), List.drop_of_length_le (by omega)]
    rfl
  | succ d ih =>
    intro i hi k
    rw [show k + (d + 1) + 1 = (k + d + 1) + 1 by omega]
    have ih' := ih (i + 1) (by omega) k
    generalize hK : k + d + 1 = K at *
    simp only [metrolabref07_Check.l0]
    rw [if_pos (by omega), if_pos (by omega), rd46_, rpoint_f, next_ i (by omega), ih', drop_cons_ l z46 i (by omega), Option.bind_some]
    unfold allPoint
    rw [List.all_cons]
    by_cases h : okPoint (l.getD i z46) = true
    · rw [if_pos h, h, Bool.true_and]
    · rw [if_neg h, Bool.not_eq_true] at *
      rw [h, Bool.false_and]; rfl
theorem rpcheck_f (l : List S46) (k : Nat) (hk : 65 ≤ k) : metrolabref07_Check.f k l = some (chkP l) := by
  unfold metrolabref07_Check.f chkP
  by_cases h : l.length > 64
  · rw [if_pos (by omega), if_pos h]
  · rw [if_neg (by omega), if_neg h]
    have := rpcheck_l0 l (by omega) l.length 0 (by omega) (k - l.length - 1)
    rw [show k - l.length - 1 + l.length + 1 = k by omega] at this
    simpa using this
theorem lifted_f (x y axis a : Int) : metrolabref31_Lifted.f x y axis a = some (liftV axis a x y) := by
  unfold metrolabref31_Lifted.f liftV
  by_cases h0 : axis = 0
  · rw [if_pos h0, if_pos h0]
  · rw [if_neg h0, if_neg h0]
    by_cases h1 : axis = 1
    · rw [if_pos h1, if_pos h1]
    · rw [if_neg h1, if_neg h1]
theorem rlift_l0 (l : List S46) (axis a : Int) (hl : l.length ≤ 64) : ∀ (d i : Nat) (acc : List S30), i + d = l.length → acc.length = i → ∀ k,
    metrolabref31_Lift.l0 (k + d + 1) l axis a acc (i : Int) = some (acc ++ liftL axis a (l.drop i), 0) := by
  intro d
  induction d with
  | zero =>
    intro i acc hi ha k
    simp only [metrolabref31_Lift.l0]
    rw [if_neg (by omega), List.drop_of_length_le (by omega)]
    simp [liftL]
  | succ d ih =>
    intro i acc hi ha k
    rw [show k + (d + 1) + 1 = (k + d + 1) + 1 by omega]
    have h2 := ih (i + 1) (acc ++ [⟨(liftV axis a (l.getD i z46).f0 (l.getD i z46).f1).1, (liftV axis a (l.getD i z46).f0 (l.getD i z46).f1).2.1, (liftV axis a (l.getD i z46).f0 (l.getD i z46).f1).2.2⟩]) (by omega) (by simp [ha]) k
    generalize hK : k + d + 1 = K at *
    simp only [metrolabref31_Lift.l0]
    rw [if_pos (by omega), if_pos (by omega), rd46_, lifted_f, Option.bind_some, if_pos (by omega), next_ i (by omega), h2, drop_cons_ l z46 i (by omega)]
    simp [liftL]
theorem rlift_f (l : List S46) (axis a : Int) (k : Nat) (hk : 1000 ≤ k) : metrolabref31_Lift.f k l axis a = some (liftR l axis a) := by
  unfold metrolabref31_Lift.f liftR metrolabref31_Axis.f
  rw [rpcheck_f l k (by omega), Option.bind_some]
  by_cases hz : chkP l = 0
  case neg => rw [if_neg hz, if_neg hz]
  rw [if_pos hz, if_pos hz]
  have hx : (if axis ≥ 0 then some (decide (axis ≤ 2)) else some false) = some (decide (0 ≤ axis ∧ axis ≤ 2)) := by
    by_cases h : axis ≥ 0
    · rw [if_pos h]; congr 1; exact decide_eq_decide.mpr ⟨fun h2 => ⟨h, h2⟩, fun h2 => h2.2⟩
    · rw [if_neg h]; congr 1; exact (decide_eq_false (fun h2 => h h2.1)).symm
  rw [hx, Option.bind_some]
  by_cases h : 0 ≤ axis ∧ axis ≤ 2
  case neg => rw [if_neg (by rw [decide_eq_false h]; decide), if_neg h]
  rw [if_pos (decide_eq_true h), if_pos h]
  obtain ⟨k, rfl⟩ : ∃ m, k = m + 1 := ⟨k - 1, by omega⟩
  have hl : l.length ≤ 64 := by unfold chkP at hz; split at hz <;> omega
  have hl0 := rlift_l0 l axis a hl l.length 0 [] (by omega) rfl (k - l.length - 1)
  rw [show k - l.length - 1 + l.length + 1 = k by omega] at hl0
  by_cases h1 : a < -100000
  · rw [if_pos h1, if_pos (.inl h1), metrolabref31_Lift.j0, if_pos rfl]
  · rw [if_neg h1, metrolabref31_Lift.j0]
    by_cases h2 : 100000 < a
    · rw [if_pos (decide_eq_true h2), if_pos (.inr h2)]
    · rw [if_neg (by rw [decide_eq_false (by omega)]; decide), if_neg (by omega)]
      exact hl0
def metrolablaw31_PointsLifts.f (l : List S46) (axis a : Int) : Option Bool := some true
set_option maxHeartbeats 4000000 in
set_option maxRecDepth 100000 in
theorem lifts_far (A0 : Option Addr) (c0 : Nat) (l0 : List S46) (axis a : Int) (w : World) (hr0 : Kd.C k46 w A0 l0.length l0) (hc0 : l0.length ≤ c0) (h : 128 < l0.length) :
    Calls Try.prog 8 #[.slice A0 l0.length c0, .int .i64 axis, .int .i64 a] w fun e w' => e = .returned (.bool true) ∧ Below w.heap.size w w' := by
  have d1 : decide (128 < (l0.length : Int)) = true := decide_eq_true (by omega)
  clear h
  go_enter Try.func8, Try.ntmps8
  go_wp2_with fail
  refine (metrolablaw31_awake.calls 100 true _ (Base.awake_k 100 (by omega))).mono ?_
  rintro e w3 ⟨rfl, hb3⟩
  go_wp2
  go_ret
  exact ⟨rfl, hb3⟩
set_option maxHeartbeats 4000000 in
set_option maxRecDepth 100000 in
theorem lifts_near (A0 : Option Addr) (c0 : Nat) (l0 : List S46) (axis a : Int) (w : World) (hr0 : Kd.C k46 w A0 l0.length l0) (hc0 : l0.length ≤ c0) (h : ¬ 128 < l0.length) :
    Calls Try.prog 8 #[.slice A0 l0.length c0, .int .i64 axis, .int .i64 a] w fun e w' => e = .returned (.bool true) ∧ Below w.heap.size w w' := by
  have d1 : decide (128 < (l0.length : Int)) = false := decide_eq_false (by omega)
  have HR := Aside0.mk hr0
  have HP := Aside0.mk (fun w hr => plift_calls A0 c0 l0 axis a w hr hc0)
  have HQ := Aside0.mk (rlift_f l0 axis a 1000 (Nat.le_refl _))
  have HL := Aside0.mk (liftR_len l0 axis a)
  obtain ⟨⟨s, se⟩, hs⟩ : ∃ r, liftR l0 axis a = r := ⟨_, rfl⟩
  rw [hs] at HQ HL
  simp only [hs] at HP
  have es : (se == se) = true := beq_self_eq_true se
  clear hr0 h hs
  go_enter Try.func8, Try.ntmps8
  go_wp2_with fail
  refine (HP.out _ HR.out).mono ?_
  rintro e w4 ⟨A4, c4, rfl, hc4, hC4, hb4⟩
  have H4 := Aside0.mk hb4
  have R4 := Aside0.mk hC4
  clear hb4 hC4
  go_wp2_with fail
  refine (metrolabref31_Lift.calls 1000 A0 c0 l0 axis a s se _ (Kd.C_below HR.out H4.out) hc0 HQ.out).mono ?_
  rintro e w5 ⟨v5, rfl, ho5, hb5⟩
  obtain ⟨A5, c5, hv5, hc5, hC5⟩ := Kd.R_reads ho5
  subst hv5
  have H5 := Aside0.mk (H4.out.trans (hb5.mono H4.out.size))
  have R4d := Aside0.mk (Kd.C_below R4.out hb5)
  have R5 := Aside0.mk hC5
  clear ho5 hb5 hC5 H4 R4
  go_wp2_with fail
  refine (equal_lift R4d.out hc4 R5.out hc5 HL.out).mono ?_
  rintro e w6 ⟨rfl, hb6⟩
  have H6 := Aside0.mk (H5.out.trans (hb6.mono H5.out.size))
  clear hb6 H5
  go_wp2_with fail
  refine (metrolablaw31_awake.calls 100 true _ (Base.awake_k 100 (by omega))).mono ?_
  rintro e w7 ⟨rfl, hb7⟩
  go_wp2
  go_ret
  exact ⟨rfl, H6.out.trans (hb7.mono H6.out.size)⟩
theorem metrolablaw31_PointsLifts.calls (A0 : Option Addr) (c0 : Nat) (l0 : List S46) (axis a : Int) (r : Bool) (w : World) (hr0 : Kd.C k46 w A0 l0.length l0) (hc0 : l0.length ≤ c0) (h : metrolablaw31_PointsLifts.f l0 axis a = some r) :
    Calls Try.prog 8 #[.slice A0 l0.length c0, .int .i64 axis, .int .i64 a] w fun e w' => e = .returned (.bool r) ∧ Below w.heap.size w w' := by
  unfold metrolablaw31_PointsLifts.f at h
  obtain rfl := Option.some.inj h
  by_cases h : 128 < l0.length
  · exact lifts_far A0 c0 l0 axis a w hr0 hc0 h
  · exact lifts_near A0 c0 l0 axis a w hr0 hc0 h
end Go.Proofs.Ytgfkodanekfekaa.X

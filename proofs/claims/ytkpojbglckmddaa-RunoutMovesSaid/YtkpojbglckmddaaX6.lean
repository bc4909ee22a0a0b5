-- Made by wip/xprint.py for this claim: the kit's printer over the translation, with hand-proved functions in their places. Lean checks it.
import Derived.Test.YtkpojbglckmddaaX0
import Derived.Test.YtkpojbglckmddaaX5
namespace Go.Proofs.Ytkpojbglckmddaa.X
open Go.RowKit Go.Proofs.YtkpojbglckmddaaW.PrintWords Go.Proofs.YtkpojbglckmddaaW.PrintLast Go.Proofs.YtkpojbglckmddaaW.PrintMore
attribute [local go_sem] max2_int min2_int max_two min_two max_three min_three max_four min_four   -- for this text's walks alone
set_option linter.unusedVariables false
set_option linter.unusedSimpArgs false

/-! ### metrolabref38_Check: function 17 -/
mutual
def metrolabref38_Check.l0 : Nat → List (S70) → Int → Option (Int)
  | 0, _, _ => none
  | k + 1, x0, x3 => if x3 < (x0.length : Int) then (if 0 ≤ x3 then ((metrolabref38_in.f ((rd_T70 x0 x3).f0)).bind fun t207 => (if t207 = true then (if x3 > 0 then (if 0 ≤ (wrap64 (x3 - 1)) then (if (wrap64 (x3 - 1)) < (x0.length : Int) then (metrolabref38_Check.j1 k x0 x3 (decide (((rd_T70 x0 x3).f0) ≤ ((rd_T70 x0 (wrap64 (x3 - 1))).f0)))) else (none)) else (none)) else (metrolabref38_Check.j1 k x0 x3 false)) else (some 2))) else (none)) else (some 0)
def metrolabref38_Check.j1 : Nat → List (S70) → Int → Bool → Option (Int)
  | 0, _, _, _ => none
  | k + 1, x0, x3, x39 => if x39 = true then (some 9) else (if 0 ≤ x3 then (if x3 < (x0.length : Int) then ((metrolabref38_points.f k ((rd_T70 x0 x3).f1)).bind fun t211 => (if t211 = 0 then (metrolabref38_Check.l0 k x0 (wrap64 (x3 + 1))) else (some t211))) else (none)) else (none))
end
def metrolabref38_Check.f (k : Nat) (l0 : List (S70)) : Option (Int) := if (l0.length : Int) = 0 then (some 13) else (if (l0.length : Int) > 32 then (some 5) else (metrolabref38_Check.l0 k l0 0))
theorem metrolabref38_Check.mono_l : ∀ k, (∀ y0 y1, LeO (metrolabref38_Check.l0 k y0 y1) (metrolabref38_Check.l0 (k + 1) y0 y1)) ∧ (∀ y0 y1 y2, LeO (metrolabref38_Check.j1 k y0 y1 y2) (metrolabref38_Check.j1 (k + 1) y0 y1 y2))
  | 0 => ⟨fun _ _ r h => by simp [metrolabref38_Check.l0] at h, fun _ _ _ r h => by simp [metrolabref38_Check.j1] at h⟩
  | k + 1 => by
    obtain ⟨ih0, ih1⟩ := metrolabref38_Check.mono_l k
    refine ⟨?_, ?_⟩
    · intro y0 y1
      unfold metrolabref38_Check.l0
      repeat' first
      | (with_reducible exact ih0 _ _)
      | (with_reducible exact ih1 _ _ _)
      | (with_reducible exact metrolabref38_points.mono _ _)
      | (with_reducible exact LeO.refl _)
      | (with_reducible exact LeO.none _)
      | (with_reducible refine LeO.ite ?_ ?_)
      | (with_reducible refine LeO.bind ?_ (fun _ => ?_))
      | exact ih0 _ _
      | exact ih1 _ _ _
      | exact metrolabref38_points.mono _ _
      | exact LeO.none _
      | refine LeO.ite ?_ ?_
      | refine LeO.bind ?_ (fun _ => ?_)
    · intro y0 y1 y2
      unfold metrolabref38_Check.j1
      repeat' first
      | (with_reducible exact ih0 _ _)
      | (with_reducible exact ih1 _ _ _)
      | (with_reducible exact metrolabref38_points.mono _ _)
      | (with_reducible exact LeO.refl _)
      | (with_reducible exact LeO.none _)
      | (with_reducible refine LeO.ite ?_ ?_)
      | (with_reducible refine LeO.bind ?_ (fun _ => ?_))
      | exact ih0 _ _
      | exact ih1 _ _ _
      | exact metrolabref38_points.mono _ _
      | exact LeO.none _
      | refine LeO.ite ?_ ?_
      | refine LeO.bind ?_ (fun _ => ?_)
theorem metrolabref38_Check.mono : ∀ a0 k, LeO (metrolabref38_Check.f k a0) (metrolabref38_Check.f (k + 1) a0) := by
  intro a0 k
  obtain ⟨ih0, ih1⟩ := metrolabref38_Check.mono_l k
  unfold metrolabref38_Check.f
  repeat' first
      | (with_reducible exact ih0 _ _)
      | (with_reducible exact ih1 _ _ _)
      | (with_reducible exact metrolabref38_points.mono _ _)
      | (with_reducible exact LeO.refl _)
      | (with_reducible exact LeO.none _)
      | (with_reducible refine LeO.ite ?_ ?_)
      | (with_reducible refine LeO.bind ?_ (fun _ => ?_))
      | exact ih0 _ _
      | exact ih1 _ _ _
      | exact metrolabref38_points.mono _ _
      | exact LeO.none _
      | refine LeO.ite ?_ ?_
      | refine LeO.bind ?_ (fun _ => ?_)
set_option maxHeartbeats 8000000 in
set_option maxRecDepth 100000 in
theorem metrolabref38_Check.calls (k : Nat) (A0 : Option Addr) (c0 : Nat) (l0 : List (S70)) (r : Int) (w : World) (hr0 : Kd.C k70 w A0 l0.length l0) (hc0 : l0.length ≤ c0) (h : metrolabref38_Check.f k l0 = some r) :
    Calls Try.prog 17 #[.slice A0 l0.length c0] w fun e w' => e = .returned (.int .i64 r) ∧ Below w.heap.size w w' := by
  have HR0 := Aside0.mk hr0
  have HC0 := Aside0.mk hc0
  clear hr0 hc0
  have HB := Aside0.mk (Below.refl w.heap.size w)
  have H : (if (l0.length : Int) = 0 then (some 13) else (if (l0.length : Int) > 32 then (some 5) else (metrolabref38_Check.l0 k l0 0))) = some r := h
  clear h
  by_cases c2 : (l0.length : Int) = 0
  · rw [if_pos c2] at H
    have c2b0 : ((l0.length : Int) == 0) = true := beq_iff_eq.mpr c2
    have c2b1 : ((l0.length : Int) != 0) = false := bne_eq_false_iff_eq.mpr c2
    clear c2
    obtain rfl := Option.some.inj H
    go_enter Try.func17, Try.ntmps17
    go_wp2
    repeat (go_quiet (fail); try go_wp2)
    go_ret
    exact ⟨by first | rfl | (simp [errW_none, errW_some] <;> rfl) | (simp [*, errW_none, errW_some] <;> rfl), by repeat (first | (with_reducible first | exact HB.out | apply below_alloc | apply pw_below_drewN | apply below_drew1) | exact HB.out)⟩
  · rw [if_neg c2] at H
    have c2b0 : ((l0.length : Int) == 0) = false := beq_eq_false_iff_ne.mpr c2
    have c2b1 : ((l0.length : Int) != 0) = true := bne_iff_ne.mpr c2
    have c2b2 : ¬ (l0 = []) := fun h_ => c2 (by rw [h_]; rfl)
    by_cases c3 : (l0.length : Int) > 32
    · rw [if_pos c3] at H
      have c3b0 : decide (32 < (l0.length : Int)) = true := decide_eq_true c3
      have c3b1 : decide (32 < l0.length) = true := decide_eq_true (by omega)
      clear c3
      obtain rfl := Option.some.inj H
      go_enter Try.func17, Try.ntmps17
      go_wp2
      repeat (go_quiet (fail); try go_wp2)
      go_ret
      exact ⟨by first | rfl | (simp [errW_none, errW_some] <;> rfl) | (simp [*, errW_none, errW_some] <;> rfl), by repeat (first | (with_reducible first | exact HB.out | apply below_alloc | apply pw_below_drewN | apply below_drew1) | exact HB.out)⟩
    · rw [if_neg c3] at H
      have c3b0 : decide (32 < (l0.length : Int)) = false := decide_eq_false c3
      have c3b1 : decide (32 < l0.length) = false := decide_eq_false (by omega)
      clear c3
      have H' := Aside0.mk H
      clear H
      go_enter Try.func17, Try.ntmps17
      go_wp2
      repeat (go_quiet (fail); try go_wp2)
      go_loopg [3] k (fun kq v3 w' => ∃ (x3_1 : Int), v3 = .int .i64 x3_1 ∧ Aside0 (metrolabref38_Check.l0 kq l0 x3_1 = some r) ∧ Aside0 (kq ≤ k) ∧ Aside0 (Below w.heap.size w w'))
      case atStart => exact ⟨(0), (by first | rfl | (simp; done) | (simp [*]; done)), H', ⟨Nat.le_refl _⟩, ⟨by repeat (first | (with_reducible first | exact HB.out | apply below_alloc | apply pw_below_drewN | apply below_drew1) | exact HB.out)⟩⟩
      case round =>
        clear H'
        try clear c1
        try clear c2
        try clear c2b0
        try clear c2b1
        try clear c2b2
        try clear p2
        try clear c3
        try clear c3b0
        try clear c3b1
        obtain ⟨x3_1, rfl, HA, HK1, HB⟩ := hrel
        cases gk with
        | zero => exact absurd HA.out (by simp [metrolabref38_Check.l0])
        | succ k1 =>
          have H := HA.out
          clear HA
          simp only [metrolabref38_Check.l0] at H
          by_cases c4 : x3_1 < (l0.length : Int)
          · rw [if_pos c4] at H
            have c4b0 : decide (x3_1 < (l0.length : Int)) = true := decide_eq_true c4
            clear c4
            by_cases c5 : 0 ≤ x3_1
            · rw [if_pos c5] at H
              have c5b0 : decide (0 ≤ x3_1) = true := decide_eq_true c5
              clear c5
              replace H := Option.bind_eq_some_iff.mp H
              obtain ⟨t207, A60, H⟩ := H
              replace H : (if t207 = true then (if x3_1 > 0 then (if 0 ≤ (wrap64 (x3_1 - 1)) then (if (wrap64 (x3_1 - 1)) < (l0.length : Int) then (metrolabref38_Check.j1 k1 l0 x3_1 (decide (((rd_T70 l0 x3_1).f0) ≤ ((rd_T70 l0 (wrap64 (x3_1 - 1))).f0)))) else (none)) else (none)) else (metrolabref38_Check.j1 k1 l0 x3_1 false)) else (some 2)) = some r := H
              have A6 := Aside0.mk A60
              clear A60
              by_cases c7 : t207 = true
              · subst c7
                have H1 : (if x3_1 > 0 then (if 0 ≤ (wrap64 (x3_1 - 1)) then (if (wrap64 (x3_1 - 1)) < (l0.length : Int) then (metrolabref38_Check.j1 k1 l0 x3_1 (decide (((rd_T70 l0 x3_1).f0) ≤ ((rd_T70 l0 (wrap64 (x3_1 - 1))).f0)))) else (none)) else (none)) else (metrolabref38_Check.j1 k1 l0 x3_1 false)) = some r := by rw [if_pos rfl] at H; exact H
                clear H
                have H := H1
                clear H1
                have HC8 := Aside0.mk H
                clear H
                have p206 : 0 ≤ (x3_1 : Int) := of_decide_eq_true (by first | (with_reducible assumption) | assumption)
                have q206 : x3_1 < (l0.length : Int) := of_decide_eq_true (by first | (with_reducible assumption) | assumption)
                obtain ⟨ad206, A206_1, c206_1, e206, hx206_0, hx206_1, hl206_1, hi206_1⟩ := at_T70 HR0.out x3_1 p206 q206
                cases e206
                replace hx206_0 := (HB.out.cell (World.block_lt_of_cell? w _ hx206_0)).trans hx206_0
                replace hx206_1 := (HB.out.cell (World.block_lt_of_cell? w _ hx206_1)).trans hx206_1
                have HR206_1 := Aside0.mk hi206_1
                have HC206_1 := Aside0.mk hl206_1
                clear hi206_1 hl206_1
                replace p206 := eq_true p206
                replace q206 := eq_true q206
                go_upto_region 10 with (first | (go_at_call 40; (with_reducible refine (metrolabref38_in.calls ((rd_T70 l0 x3_1).f0) true _ A6.out).mono ?_); rintro e w' ⟨rfl, ⟨nd, rfl⟩⟩; (try first | exact ⟨rfl, _, World.drewN_drewN _ _ _⟩ | exact ⟨rfl, _, Eq.trans (World.drewN_drewN _ _ _) (congrArg (World.drewN _) (Nat.add_assoc _ _ _))⟩)))
                repeat (go_quiet (first | (go_at_call 40; (with_reducible refine (metrolabref38_in.calls ((rd_T70 l0 x3_1).f0) true _ A6.out).mono ?_); rintro e w' ⟨rfl, ⟨nd, rfl⟩⟩; (try first | exact ⟨rfl, _, World.drewN_drewN _ _ _⟩ | exact ⟨rfl, _, Eq.trans (World.drewN_drewN _ _ _) (congrArg (World.drewN _) (Nat.add_assoc _ _ _))⟩))); go_upto_region 10 with (first | (go_at_call 40; (with_reducible refine (metrolabref38_in.calls ((rd_T70 l0 x3_1).f0) true _ A6.out).mono ?_); rintro e w' ⟨rfl, ⟨nd, rfl⟩⟩; (try first | exact ⟨rfl, _, World.drewN_drewN _ _ _⟩ | exact ⟨rfl, _, Eq.trans (World.drewN_drewN _ _ _) (congrArg (World.drewN _) (Nat.add_assoc _ _ _))⟩))))
                (try simp only [Act.put, List.setIfInBounds_toArray, List.set_cons_zero, List.set_cons_succ])
                go_cut [39] (fun v39 wc => ∃ (kq : Nat) (x39_7 : Bool), v39 = .bool x39_7 ∧ Aside0 (metrolabref38_Check.j1 kq l0 x3_1 x39_7 = some r) ∧ Aside0 (kq ≤ k1) ∧ Aside0 (Below w.heap.size w wc))
                case first =>
                  have H := HC8.out
                  clear HC8
                  by_cases c9 : x3_1 > 0
                  · rw [if_pos c9] at H
                    have c9b0 : decide (0 < x3_1) = true := decide_eq_true c9
                    clear c9
                    (first | rw [c9b0] | (simp only [i64_w, i32_w]; rw [c9b0]) | skip)
                    obtain ⟨ji10, hji10⟩ : ∃ j_ : Int, (wrap64 (x3_1 - 1)) = j_ := ⟨_, rfl⟩
                    replace H : (if 0 ≤ (ji10) then (if (ji10) < (l0.length : Int) then (metrolabref38_Check.j1 k1 l0 x3_1 (decide (((rd_T70 l0 x3_1).f0) ≤ ((rd_T70 l0 (ji10)).f0)))) else (none)) else (none)) = some r := by first | (rw [hji10] at H; exact H) | (simp only [hji10] at H ⊢; exact H)
                    have hji10w : (IntKind.i64.wrap (x3_1 - 1)) = ji10 := (i64_w _).trans hji10
                    by_cases c11 : 0 ≤ (ji10)
                    · rw [if_pos c11] at H
                      have c11b0 : decide (0 ≤ (ji10)) = true := decide_eq_true c11
                      clear c11
                      by_cases c12 : (ji10) < (l0.length : Int)
                      · rw [if_pos c12] at H
                        have c12b0 : decide ((ji10) < (l0.length : Int)) = true := decide_eq_true c12
                        clear c12
                        have H' := Aside0.mk H
                        clear H
                        have p208 : 0 ≤ (x3_1 : Int) := of_decide_eq_true (by first | (with_reducible assumption) | assumption)
                        have q208 : x3_1 < (l0.length : Int) := of_decide_eq_true (by first | (with_reducible assumption) | assumption)
                        obtain ⟨ad208, A208_1, c208_1, e208, hx208_0, hx208_1, hl208_1, hi208_1⟩ := at_T70 HR0.out x3_1 p208 q208
                        obtain rfl : ad206 = ad208 := (by injection e208)
                        replace hx208_0 := (HB.out.cell (World.block_lt_of_cell? w _ hx208_0)).trans hx208_0
                        replace hx208_1 := (HB.out.cell (World.block_lt_of_cell? w _ hx208_1)).trans hx208_1
                        have HR208_1 := Aside0.mk hi208_1
                        have HC208_1 := Aside0.mk hl208_1
                        clear hi208_1 hl208_1
                        replace p208 := eq_true p208
                        replace q208 := eq_true q208
                        have p209 : 0 ≤ ((ji10) : Int) := of_decide_eq_true (by first | (with_reducible assumption) | assumption)
                        have q209 : (ji10) < (l0.length : Int) := of_decide_eq_true (by first | (with_reducible assumption) | assumption)
                        obtain ⟨ad209, A209_1, c209_1, e209, hx209_0, hx209_1, hl209_1, hi209_1⟩ := at_T70 HR0.out (ji10) p209 q209
                        obtain rfl : ad206 = ad209 := (by injection e209)
                        replace hx209_0 := (HB.out.cell (World.block_lt_of_cell? w _ hx209_0)).trans hx209_0
                        replace hx209_1 := (HB.out.cell (World.block_lt_of_cell? w _ hx209_1)).trans hx209_1
                        have HR209_1 := Aside0.mk hi209_1
                        have HC209_1 := Aside0.mk hl209_1
                        clear hi209_1 hl209_1
                        replace p209 := eq_true p209
                        replace q209 := eq_true q209
                        go_wp2
                        repeat (go_quiet (fail); try go_wp2)
                        go_meet
                        case rel => exact ⟨_, (decide (((rd_T70 l0 x3_1).f0) ≤ ((rd_T70 l0 (ji10)).f0))), (by first | rfl | (simp; done) | (simp only [← hji10] <;> (first | rfl | simp)) | (simp [*]; done)), H', ⟨by have := HK1.out; first | omega | exact Nat.le_refl _⟩, ⟨by repeat (first | (with_reducible first | exact HB.out | apply below_alloc | apply pw_below_drewN | apply below_drew1) | exact HB.out)⟩⟩
                      · rw [if_neg c12] at H
                        exact absurd H (by simp)
                    · rw [if_neg c11] at H
                      exact absurd H (by simp)
                  · rw [if_neg c9] at H
                    have c9b0 : decide (0 < x3_1) = false := decide_eq_false c9
                    clear c9
                    (first | rw [c9b0] | (simp only [i64_w, i32_w]; rw [c9b0]) | skip)
                    have H' := Aside0.mk H
                    clear H
                    go_wp2
                    repeat (go_quiet (fail); try go_wp2)
                    go_meet
                    case rel => exact ⟨_, (false), (by first | rfl | (simp; done) | (simp [*]; done)), H', ⟨by have := HK1.out; first | omega | exact Nat.le_refl _⟩, ⟨by repeat (first | (with_reducible first | exact HB.out | apply below_alloc | apply pw_below_drewN | apply below_drew1) | exact HB.out)⟩⟩
                case rest =>
                  clear HC8
                  try clear c1
                  try clear c2
                  try clear c2b0
                  try clear c2b1
                  try clear c2b2
                  try clear p2
                  try clear q2
                  try clear hx2
                  try clear c3
                  try clear c3b0
                  try clear c3b1
                  try clear c4
                  try clear c4b0
                  try clear c5
                  try clear c5b0
                  try clear p6
                  try clear c7
                  try clear c9
                  try clear c9b0
                  try clear c11
                  try clear c11b0
                  try clear c12
                  try clear c12b0
                  try clear hx206_0
                  try clear hx206_1
                  try clear hx208_0
                  try clear hx208_1
                  try clear hx209_0
                  try clear hx209_1
                  try clear p2
                  try clear p206
                  try clear p208
                  try clear p209
                  try clear q206
                  try clear q208
                  try clear q209
                  obtain ⟨kq, x39_7, rfl, HA, HJ7, HB⟩ := hcut
                  cases kq with
                  | zero => exact absurd HA.out (by simp [metrolabref38_Check.j1])
                  | succ kj7 =>
                    have H := HA.out
                    clear HA
                    simp only [metrolabref38_Check.j1] at H
                    by_cases c13 : x39_7 = true
                    · subst c13
                      have H1 : (some 9) = some r := by rw [if_pos rfl] at H; exact H
                      clear H
                      have H := H1
                      clear H1
                      obtain rfl := Option.some.inj H
                      go_wp2
                      repeat (go_quiet (fail); try go_wp2)
                      go_ret
                      exact ⟨by first | rfl | (simp [errW_none, errW_some] <;> rfl) | (simp [*, errW_none, errW_some] <;> rfl), by repeat (first | (with_reducible first | exact HB.out | apply below_alloc | apply pw_below_drewN | apply below_drew1) | exact HB.out)⟩
                    · replace c13 := Bool.eq_false_iff.mpr c13
                      subst c13
                      have H1 : (if 0 ≤ x3_1 then (if x3_1 < (l0.length : Int) then ((metrolabref38_points.f kj7 ((rd_T70 l0 x3_1).f1)).bind fun t211 => (if t211 = 0 then (metrolabref38_Check.l0 kj7 l0 (wrap64 (x3_1 + 1))) else (some t211))) else (none)) else (none)) = some r := by rw [if_neg (show ¬ (false = true) by decide)] at H; exact H
                      clear H
                      have H := H1
                      clear H1
                      by_cases c14 : 0 ≤ x3_1
                      · rw [if_pos c14] at H
                        have c14b0 : decide (0 ≤ x3_1) = true := decide_eq_true c14
                        clear c14
                        by_cases c15 : x3_1 < (l0.length : Int)
                        · rw [if_pos c15] at H
                          have c15b0 : decide (x3_1 < (l0.length : Int)) = true := decide_eq_true c15
                          clear c15
                          replace H := Option.bind_eq_some_iff.mp H
                          obtain ⟨t211, A160, H⟩ := H
                          replace H : (if t211 = 0 then (metrolabref38_Check.l0 kj7 l0 (wrap64 (x3_1 + 1))) else (some t211)) = some r := H
                          have A16 := Aside0.mk A160
                          clear A160
                          by_cases c17 : t211 = 0
                          · rw [if_pos c17] at H
                            have c17b0 : (t211 == 0) = true := beq_iff_eq.mpr c17
                            have c17b1 : (t211 != 0) = false := bne_eq_false_iff_eq.mpr c17
                            clear c17
                            have H' := Aside0.mk H
                            clear H
                            have p210 : 0 ≤ (x3_1 : Int) := of_decide_eq_true (by first | (with_reducible assumption) | assumption)
                            have q210 : x3_1 < (l0.length : Int) := of_decide_eq_true (by first | (with_reducible assumption) | assumption)
                            obtain ⟨ad210, A210_1, c210_1, e210, hx210_0, hx210_1, hl210_1, hi210_1⟩ := at_T70 HR0.out x3_1 p210 q210
                            obtain rfl : ad206 = ad210 := (by injection e210)
                            replace hx210_0 := (HB.out.cell (World.block_lt_of_cell? w _ hx210_0)).trans hx210_0
                            replace hx210_1 := (HB.out.cell (World.block_lt_of_cell? w _ hx210_1)).trans hx210_1
                            have HR210_1 := Aside0.mk hi210_1
                            have HC210_1 := Aside0.mk hl210_1
                            clear hi210_1 hl210_1
                            replace p210 := eq_true p210
                            replace q210 := eq_true q210
                            go_wp2_with (first | (go_at_call 41; (with_reducible refine (metrolabref38_points.calls kj7 _ _ ((rd_T70 l0 x3_1).f1) t211 _ ?side1 ?side2 A16.out).mono ?_); (case side1 => repeat (first | exact (Kd.C_below HR210_1.out HB.out) | (with_reducible refine Kd.C_alloc ?_ _) | (with_reducible refine Kd.C_drewN ?_ _) | (with_reducible refine Kd.C_drew ?_))); (case side2 => exact HC210_1.out); rintro e w18 ⟨rfl, hb⟩; have n0_ := Aside0.mk (below_step (by repeat (first | (with_reducible first | exact HB.out | apply below_alloc | apply pw_below_drewN | apply below_drew1) | exact HB.out)) hb); clear HB; have HB := n0_; clear n0_; (try clear hb); (try clear hb2); (try clear hk); (try clear hi)))
                            repeat (go_quiet (first | (go_at_call 41; (with_reducible refine (metrolabref38_points.calls kj7 _ _ ((rd_T70 l0 x3_1).f1) t211 _ ?side1 ?side2 A16.out).mono ?_); (case side1 => repeat (first | exact (Kd.C_below HR210_1.out HB.out) | (with_reducible refine Kd.C_alloc ?_ _) | (with_reducible refine Kd.C_drewN ?_ _) | (with_reducible refine Kd.C_drew ?_))); (case side2 => exact HC210_1.out); rintro e w18 ⟨rfl, hb⟩; have n0_ := Aside0.mk (below_step (by repeat (first | (with_reducible first | exact HB.out | apply below_alloc | apply pw_below_drewN | apply below_drew1) | exact HB.out)) hb); clear HB; have HB := n0_; clear n0_; (try clear hb); (try clear hb2); (try clear hk); (try clear hi))); try go_wp2_with (first | (go_at_call 41; (with_reducible refine (metrolabref38_points.calls kj7 _ _ ((rd_T70 l0 x3_1).f1) t211 _ ?side1 ?side2 A16.out).mono ?_); (case side1 => repeat (first | exact (Kd.C_below HR210_1.out HB.out) | (with_reducible refine Kd.C_alloc ?_ _) | (with_reducible refine Kd.C_drewN ?_ _) | (with_reducible refine Kd.C_drew ?_))); (case side2 => exact HC210_1.out); rintro e w18 ⟨rfl, hb⟩; have n0_ := Aside0.mk (below_step (by repeat (first | (with_reducible first | exact HB.out | apply below_alloc | apply pw_below_drewN | apply below_drew1) | exact HB.out)) hb); clear HB; have HB := n0_; clear n0_; (try clear hb); (try clear hb2); (try clear hk); (try clear hi))))
                            go_roundg kj7
                            case measure => have := HK1.out; have := HJ7.out; omega
                            case rel => exact ⟨(wrap64 (x3_1 + 1)), (by first | rfl | (simp; done) | (simp [*]; done)), H', ⟨by have := HK1.out; have := HJ7.out; omega⟩, ⟨by repeat (first | (with_reducible first | exact HB.out | apply below_alloc | apply pw_below_drewN | apply below_drew1) | exact HB.out)⟩⟩
                          · rw [if_neg c17] at H
                            have c17b0 : (t211 == 0) = false := beq_eq_false_iff_ne.mpr c17
                            have c17b1 : (t211 != 0) = true := bne_iff_ne.mpr c17
                            obtain rfl := Option.some.inj H
                            have p210 : 0 ≤ (x3_1 : Int) := of_decide_eq_true (by first | (with_reducible assumption) | assumption)
                            have q210 : x3_1 < (l0.length : Int) := of_decide_eq_true (by first | (with_reducible assumption) | assumption)
                            obtain ⟨ad210, A210_1, c210_1, e210, hx210_0, hx210_1, hl210_1, hi210_1⟩ := at_T70 HR0.out x3_1 p210 q210
                            obtain rfl : ad206 = ad210 := (by injection e210)
                            replace hx210_0 := (HB.out.cell (World.block_lt_of_cell? w _ hx210_0)).trans hx210_0
                            replace hx210_1 := (HB.out.cell (World.block_lt_of_cell? w _ hx210_1)).trans hx210_1
                            have HR210_1 := Aside0.mk hi210_1
                            have HC210_1 := Aside0.mk hl210_1
                            clear hi210_1 hl210_1
                            replace p210 := eq_true p210
                            replace q210 := eq_true q210
                            go_wp2_with (first | (go_at_call 41; (with_reducible refine (metrolabref38_points.calls kj7 _ _ ((rd_T70 l0 x3_1).f1) t211 _ ?side1 ?side2 A16.out).mono ?_); (case side1 => repeat (first | exact (Kd.C_below HR210_1.out HB.out) | (with_reducible refine Kd.C_alloc ?_ _) | (with_reducible refine Kd.C_drewN ?_ _) | (with_reducible refine Kd.C_drew ?_))); (case side2 => exact HC210_1.out); rintro e w19 ⟨rfl, hb⟩; have n0_ := Aside0.mk (below_step (by repeat (first | (with_reducible first | exact HB.out | apply below_alloc | apply pw_below_drewN | apply below_drew1) | exact HB.out)) hb); clear HB; have HB := n0_; clear n0_; (try clear hb); (try clear hb2); (try clear hk); (try clear hi)))
                            repeat (go_quiet (first | (go_at_call 41; (with_reducible refine (metrolabref38_points.calls kj7 _ _ ((rd_T70 l0 x3_1).f1) t211 _ ?side1 ?side2 A16.out).mono ?_); (case side1 => repeat (first | exact (Kd.C_below HR210_1.out HB.out) | (with_reducible refine Kd.C_alloc ?_ _) | (with_reducible refine Kd.C_drewN ?_ _) | (with_reducible refine Kd.C_drew ?_))); (case side2 => exact HC210_1.out); rintro e w19 ⟨rfl, hb⟩; have n0_ := Aside0.mk (below_step (by repeat (first | (with_reducible first | exact HB.out | apply below_alloc | apply pw_below_drewN | apply below_drew1) | exact HB.out)) hb); clear HB; have HB := n0_; clear n0_; (try clear hb); (try clear hb2); (try clear hk); (try clear hi))); try go_wp2_with (first | (go_at_call 41; (with_reducible refine (metrolabref38_points.calls kj7 _ _ ((rd_T70 l0 x3_1).f1) t211 _ ?side1 ?side2 A16.out).mono ?_); (case side1 => repeat (first | exact (Kd.C_below HR210_1.out HB.out) | (with_reducible refine Kd.C_alloc ?_ _) | (with_reducible refine Kd.C_drewN ?_ _) | (with_reducible refine Kd.C_drew ?_))); (case side2 => exact HC210_1.out); rintro e w19 ⟨rfl, hb⟩; have n0_ := Aside0.mk (below_step (by repeat (first | (with_reducible first | exact HB.out | apply below_alloc | apply pw_below_drewN | apply below_drew1) | exact HB.out)) hb); clear HB; have HB := n0_; clear n0_; (try clear hb); (try clear hb2); (try clear hk); (try clear hi))))
                            go_ret
                            exact ⟨by first | rfl | (simp [errW_none, errW_some] <;> rfl) | (simp [*, errW_none, errW_some] <;> rfl), by repeat (first | (with_reducible first | exact HB.out | apply below_alloc | apply pw_below_drewN | apply below_drew1) | exact HB.out)⟩
                        · rw [if_neg c15] at H
                          exact absurd H (by simp)
                      · rw [if_neg c14] at H
                        exact absurd H (by simp)
              · replace c7 := Bool.eq_false_iff.mpr c7
                subst c7
                have H1 : (some 2) = some r := by rw [if_neg (show ¬ (false = true) by decide)] at H; exact H
                clear H
                have H := H1
                clear H1
                obtain rfl := Option.some.inj H
                have p206 : 0 ≤ (x3_1 : Int) := of_decide_eq_true (by first | (with_reducible assumption) | assumption)
                have q206 : x3_1 < (l0.length : Int) := of_decide_eq_true (by first | (with_reducible assumption) | assumption)
                obtain ⟨ad206, A206_1, c206_1, e206, hx206_0, hx206_1, hl206_1, hi206_1⟩ := at_T70 HR0.out x3_1 p206 q206
                cases e206
                replace hx206_0 := (HB.out.cell (World.block_lt_of_cell? w _ hx206_0)).trans hx206_0
                replace hx206_1 := (HB.out.cell (World.block_lt_of_cell? w _ hx206_1)).trans hx206_1
                have HR206_1 := Aside0.mk hi206_1
                have HC206_1 := Aside0.mk hl206_1
                clear hi206_1 hl206_1
                replace p206 := eq_true p206
                replace q206 := eq_true q206
                go_wp2_with (first | (go_at_call 40; (with_reducible refine (metrolabref38_in.calls ((rd_T70 l0 x3_1).f0) false _ A6.out).mono ?_); rintro e w' ⟨rfl, ⟨nd, rfl⟩⟩; (try first | exact ⟨rfl, _, World.drewN_drewN _ _ _⟩ | exact ⟨rfl, _, Eq.trans (World.drewN_drewN _ _ _) (congrArg (World.drewN _) (Nat.add_assoc _ _ _))⟩)))
                repeat (go_quiet (first | (go_at_call 40; (with_reducible refine (metrolabref38_in.calls ((rd_T70 l0 x3_1).f0) false _ A6.out).mono ?_); rintro e w' ⟨rfl, ⟨nd, rfl⟩⟩; (try first | exact ⟨rfl, _, World.drewN_drewN _ _ _⟩ | exact ⟨rfl, _, Eq.trans (World.drewN_drewN _ _ _) (congrArg (World.drewN _) (Nat.add_assoc _ _ _))⟩))); try go_wp2_with (first | (go_at_call 40; (with_reducible refine (metrolabref38_in.calls ((rd_T70 l0 x3_1).f0) false _ A6.out).mono ?_); rintro e w' ⟨rfl, ⟨nd, rfl⟩⟩; (try first | exact ⟨rfl, _, World.drewN_drewN _ _ _⟩ | exact ⟨rfl, _, Eq.trans (World.drewN_drewN _ _ _) (congrArg (World.drewN _) (Nat.add_assoc _ _ _))⟩))))
                go_ret
                exact ⟨by first | rfl | (simp [errW_none, errW_some] <;> rfl) | (simp [*, errW_none, errW_some] <;> rfl), by repeat (first | (with_reducible first | exact HB.out | apply below_alloc | apply pw_below_drewN | apply below_drew1) | exact HB.out)⟩
            · rw [if_neg c5] at H
              exact absurd H (by simp)
          · rw [if_neg c4] at H
            have c4b0 : decide (x3_1 < (l0.length : Int)) = false := decide_eq_false c4
            clear c4
            obtain rfl := Option.some.inj H
            go_wp2
            repeat (go_quiet (fail); try go_wp2)
            go_ret
            exact ⟨by first | rfl | (simp [errW_none, errW_some] <;> rfl) | (simp [*, errW_none, errW_some] <;> rfl), by repeat (first | (with_reducible first | exact HB.out | apply below_alloc | apply pw_below_drewN | apply below_drew1) | exact HB.out)⟩

end Go.Proofs.Ytkpojbglckmddaa.X

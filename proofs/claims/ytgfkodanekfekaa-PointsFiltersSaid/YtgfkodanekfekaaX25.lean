-- Made by wip/xprint.py for this claim: the kit's printer over the translation, with hand-proved functions in their places. Lean checks it.
import Derived.Test.YtgfkodanekfekaaX0
import Derived.Test.YtgfkodanekfekaaX6
import Derived.Test.YtgfkodanekfekaaX15
import Derived.Test.YtgfkodanekfekaaX24
namespace Go.Proofs.Ytgfkodanekfekaa.X
open Go.RowKit Go.Proofs.YtgfkodanekfekaaW.PrintWords Go.Proofs.YtgfkodanekfekaaW.PrintLast Go.Proofs.YtgfkodanekfekaaW.PrintMore
attribute [local go_sem] max2_int min2_int max_two min_two max_three min_three max_four min_four   -- for this text's walks alone
set_option linter.unusedVariables false
set_option linter.unusedSimpArgs false

/-! ### metrolabref31_Sorted: function 32 -/
mutual
def metrolabref31_Sorted.l0 : Nat → List (S30) → Int → Option ((List (S30)) × Int)
  | 0, _, _ => none
  | k + 1, x5, x6 => if x6 < (x5.length : Int) then (metrolabref31_Sorted.l1 k x5 x6 x6) else (some (x5, 0))
def metrolabref31_Sorted.l1 : Nat → List (S30) → Int → Int → Option ((List (S30)) × Int)
  | 0, _, _, _ => none
  | k + 1, x5, x6, x7 => if x7 > 0 then (if 0 ≤ x7 then (if x7 < (x5.length : Int) then (if 0 ≤ (wrap64 (x7 - 1)) then (if (wrap64 (x7 - 1)) < (x5.length : Int) then ((metrolabref31_Before.f ((rd_T30 x5 x7).f0) ((rd_T30 x5 x7).f1) ((rd_T30 x5 x7).f2) ((rd_T30 x5 (wrap64 (x7 - 1))).f0) ((rd_T30 x5 (wrap64 (x7 - 1))).f1) ((rd_T30 x5 (wrap64 (x7 - 1))).f2)).bind fun t422 => (if t422 = true then (metrolabref31_Sorted.l1 k ((x5.set (x7 : Int).toNat (⟨(rd_T30 x5 (wrap64 (x7 - 1))).f0, (rd_T30 x5 (wrap64 (x7 - 1))).f1, (rd_T30 x5 (wrap64 (x7 - 1))).f2⟩ : S30)).set ((wrap64 (x7 - 1)) : Int).toNat (⟨(rd_T30 x5 x7).f0, (rd_T30 x5 x7).f1, (rd_T30 x5 x7).f2⟩ : S30)) x6 (wrap64 (x7 - 1))) else (metrolabref31_Sorted.l0 k x5 (wrap64 (x6 + 1))))) else (none)) else (none)) else (none)) else (none)) else (metrolabref31_Sorted.l0 k x5 (wrap64 (x6 + 1)))
end
def metrolabref31_Sorted.f (k : Nat) (l0 : List (S30)) : Option ((List (S30)) × Int) := (metrolabref07_CheckSpots.f k l0).bind fun t416 => (if t416 = 0 then ((metrolabref31_Once.f k l0).bind fun t417 => (metrolabref31_Sorted.l0 k t417 0)) else (some (([] : List (S30)), t416)))
theorem metrolabref31_Sorted.mono_l : ∀ k, (∀ y0 y1, LeO (metrolabref31_Sorted.l0 k y0 y1) (metrolabref31_Sorted.l0 (k + 1) y0 y1)) ∧ (∀ y0 y1 y2, LeO (metrolabref31_Sorted.l1 k y0 y1 y2) (metrolabref31_Sorted.l1 (k + 1) y0 y1 y2))
  | 0 => ⟨fun _ _ r h => by simp [metrolabref31_Sorted.l0] at h, fun _ _ _ r h => by simp [metrolabref31_Sorted.l1] at h⟩
  | k + 1 => by
    obtain ⟨ih0, ih1⟩ := metrolabref31_Sorted.mono_l k
    refine ⟨?_, ?_⟩
    · intro y0 y1
      unfold metrolabref31_Sorted.l0
      repeat' first
      | (with_reducible exact ih0 _ _)
      | (with_reducible exact ih1 _ _ _)
      | (with_reducible exact metrolabref07_CheckSpots.mono _ _)
      | (with_reducible exact metrolabref31_Once.mono _ _)
      | (with_reducible exact LeO.refl _)
      | (with_reducible exact LeO.none _)
      | (with_reducible refine LeO.ite ?_ ?_)
      | (with_reducible refine LeO.bind ?_ (fun _ => ?_))
      | exact ih0 _ _
      | exact ih1 _ _ _
      | exact metrolabref07_CheckSpots.mono _ _
      | exact metrolabref31_Once.mono _ _
      | exact LeO.none _
      | refine LeO.ite ?_ ?_
      | refine LeO.bind ?_ (fun _ => ?_)
    · intro y0 y1 y2
      unfold metrolabref31_Sorted.l1
      repeat' first
      | (with_reducible exact ih0 _ _)
      | (with_reducible exact ih1 _ _ _)
      | (with_reducible exact metrolabref07_CheckSpots.mono _ _)
      | (with_reducible exact metrolabref31_Once.mono _ _)
      | (with_reducible exact LeO.refl _)
      | (with_reducible exact LeO.none _)
      | (with_reducible refine LeO.ite ?_ ?_)
      | (with_reducible refine LeO.bind ?_ (fun _ => ?_))
      | exact ih0 _ _
      | exact ih1 _ _ _
      | exact metrolabref07_CheckSpots.mono _ _
      | exact metrolabref31_Once.mono _ _
      | exact LeO.none _
      | refine LeO.ite ?_ ?_
      | refine LeO.bind ?_ (fun _ => ?_)
theorem metrolabref31_Sorted.mono : ∀ a0 k, LeO (metrolabref31_Sorted.f k a0) (metrolabref31_Sorted.f (k + 1) a0) := by
  intro a0 k
  obtain ⟨ih0, ih1⟩ := metrolabref31_Sorted.mono_l k
  unfold metrolabref31_Sorted.f
  repeat' first
      | (with_reducible exact ih0 _ _)
      | (with_reducible exact ih1 _ _ _)
      | (with_reducible exact metrolabref07_CheckSpots.mono _ _)
      | (with_reducible exact metrolabref31_Once.mono _ _)
      | (with_reducible exact LeO.refl _)
      | (with_reducible exact LeO.none _)
      | (with_reducible refine LeO.ite ?_ ?_)
      | (with_reducible refine LeO.bind ?_ (fun _ => ?_))
      | exact ih0 _ _
      | exact ih1 _ _ _
      | exact metrolabref07_CheckSpots.mono _ _
      | exact metrolabref31_Once.mono _ _
      | exact LeO.none _
      | refine LeO.ite ?_ ?_
      | refine LeO.bind ?_ (fun _ => ?_)
def metrolabref31_Sorted.T9 : Bool × List (List Nat × List Nat) := (true, [([], []), ([0], [0]), ([1], [1]), ([2], [2]), ([2], [2]), ([3, 4, 2], [2, 3, 4]), ([5, 2], [2, 5]), ([2], [2]), ([2], [2]), ([8, 2], [2, 8]), ([7, 9, 2], [2, 7, 9]), ([10, 2], [2, 10]), ([6, 11, 2, 2], [2, 6, 11]), ([2, 12], [2, 12])])
def metrolabref31_Sorted.B9 : List Nat := [0, 1, 3, 7, 7, 31, 63, 7, 7, 263, 903, 1927, 4095, 8191]
theorem metrolabref31_Sorted.tab9 : rtab .any (opsOf Try.f32 9) = metrolabref31_Sorted.T9 := by kernel_rfl
theorem metrolabref31_Sorted.bits9 : waitsOk metrolabref31_Sorted.T9.2 metrolabref31_Sorted.B9 = true := by kernel_rfl
def metrolabref31_Sorted.T11 : Bool × List (List Nat × List Nat) := (true, [([], []), ([], []), ([], []), ([], []), ([3], [3]), ([], []), ([], []), ([6], [6]), ([5, 7], [5, 7]), ([8], [8]), ([], []), ([], []), ([10, 11], [10, 11]), ([12], [12]), ([0, 1, 0, 1, 5, 6, 7, 8, 9, 13], [0, 1]), ([14, 9, 0, 1, 5, 6, 7, 8, 9, 13], [9, 14]), ([2, 4, 0, 1, 2, 3, 4, 5, 6, 7, 8, 9, 10, 11, 12, 13, 14, 15], [2, 4]), ([16, 13, 15, 0, 1, 2, 3, 4, 5, 6, 7, 8, 9, 10, 11, 12, 13, 14, 15], [13, 16])])
def metrolabref31_Sorted.B11 : List Nat := [0, 0, 0, 0, 8, 0, 0, 64, 224, 480, 0, 0, 3072, 7168, 16355, 32739, 65535, 131071]
theorem metrolabref31_Sorted.tab11 : rtab .any (opsOf Try.f32 11) = metrolabref31_Sorted.T11 := by kernel_rfl
theorem metrolabref31_Sorted.bits11 : waitsOk metrolabref31_Sorted.T11.2 metrolabref31_Sorted.B11 = true := by kernel_rfl
set_option maxHeartbeats 8000000 in
set_option maxRecDepth 100000 in
theorem metrolabref31_Sorted.calls (k : Nat) (A0 : Option Addr) (c0 : Nat) (l0 : List (S30)) (r1 : List (S30)) (r2 : Int) (w : World) (hr0 : Kd.C k30 w A0 l0.length l0) (hc0 : l0.length ≤ c0) (h : metrolabref31_Sorted.f k l0 = some (r1, r2)) :
    Calls Try.prog 32 #[.slice A0 l0.length c0] w fun e w' => ∃ v0_ : Value, e = .returned (.tuple #[v0_, .int .i64 r2]) ∧ Kd.R k30 30 w' w.heap.size (fun _ => True) v0_ r1 ∧ Below w.heap.size w w' := by
  have hu30 := Try.underlying30
  have HR0 := Aside0.mk hr0
  have HC0 := Aside0.mk hc0
  clear hr0 hc0
  have HB := Aside0.mk (Below.refl w.heap.size w)
  have H : ((metrolabref07_CheckSpots.f k l0).bind fun t416 => (if t416 = 0 then ((metrolabref31_Once.f k l0).bind fun t417 => (metrolabref31_Sorted.l0 k t417 0)) else (some (([] : List (S30)), t416)))) = some (r1, r2) := h
  clear h
  replace H := Option.bind_eq_some_iff.mp H
  obtain ⟨t416, A20, H⟩ := H
  replace H : (if t416 = 0 then ((metrolabref31_Once.f k l0).bind fun t417 => (metrolabref31_Sorted.l0 k t417 0)) else (some (([] : List (S30)), t416))) = some (r1, r2) := H
  have A2 := Aside0.mk A20
  clear A20
  by_cases c3 : t416 = 0
  · rw [if_pos c3] at H
    have c3b0 : (t416 == 0) = true := beq_iff_eq.mpr c3
    have c3b1 : (t416 != 0) = false := bne_eq_false_iff_eq.mpr c3
    clear c3
    replace H := Option.bind_eq_some_iff.mp H
    obtain ⟨t417, A40, H⟩ := H
    replace H : (metrolabref31_Sorted.l0 k t417 0) = some (r1, r2) := H
    have A4 := Aside0.mk A40
    clear A40
    have H' := Aside0.mk H
    clear H
    go_enter Try.func32, Try.ntmps32
    go_wp2_with (first | ((with_reducible refine gate_callee (f := 39) rfl ?_); refine goesL_ (some 9) rfl rfl Try.func39 (by kernel_rfl) rfl #[.slice A0 l0.length c0] rfl (by (try simp only [List.map_toArray, List.map_cons, List.map_nil]); first | done | rfl | (simp only [List.length_drop, List.length_take]; rfl)) ?_; (with_reducible refine (metrolabref07_CheckSpots.calls k _ _ l0 t416 _ ?side1 ?side2 A2.out).mono ?_); (case side1 => repeat (first | exact HR0.out | (with_reducible refine Kd.C_alloc ?_ _) | (with_reducible refine Kd.C_drewN ?_ _) | (with_reducible refine Kd.C_drew ?_))); (case side2 => exact HC0.out); rintro e w5 ⟨rfl, hb⟩; refine ⟨_, rfl, ?_⟩; have n0_ := Aside0.mk (below_step (by repeat (first | (with_reducible first | exact HB.out | apply below_alloc | apply pw_below_drewN | apply below_drew1) | exact HB.out)) hb); clear HB; have HB := n0_; clear n0_; (try clear hb); (try clear hb2); (try clear hk); (try clear hi)) | ((with_reducible refine gate_callee (f := 71) rfl ?_); refine goesL_ (some 14) rfl rfl Try.func71 (by kernel_rfl) rfl #[.slice A0 l0.length c0] rfl (by (try simp only [List.map_toArray, List.map_cons, List.map_nil]); first | done | rfl | (simp only [List.length_drop, List.length_take]; rfl)) ?_; (with_reducible refine (metrolabref31_Once.calls k _ _ l0 t417 _ ?side1 ?side2 A4.out).mono ?_); (case side1 => repeat (first | exact (Kd.C_below HR0.out HB.out) | (with_reducible refine Kd.C_alloc ?_ _) | (with_reducible refine Kd.C_drewN ?_ _) | (with_reducible refine Kd.C_drew ?_))); (case side2 => exact HC0.out); rintro e w6 ⟨v418, rfl, ho0, hb⟩; refine ⟨_, rfl, ?_⟩; have n0_ := Aside0.mk (Kd.R_lower ho0 (below_size (by repeat (first | (with_reducible first | exact HB.out | apply below_alloc | apply pw_below_drewN | apply below_drew1) | exact HB.out)))); have n1_ := Aside0.mk (below_step (by repeat (first | (with_reducible first | exact HB.out | apply below_alloc | apply pw_below_drewN | apply below_drew1) | exact HB.out)) hb); clear HB; have HO419 := n0_; have HB := n1_; clear n0_ n1_; (try clear hb); (try clear hb2); (try clear hk); (try clear hi); (try clear ho0)))
    go_loopg [6] k (fun kq v6 w' => ∃ (x5_1 : List (S30)) (x6_1 : Int), v6 = .int .i64 x6_1 ∧ Aside0 (metrolabref31_Sorted.l0 kq x5_1 x6_1 = some (r1, r2)) ∧ Aside0 (kq ≤ k) ∧ Aside0 (Kd.R k30 30 w' w.heap.size (fun _ => True) v418 x5_1) ∧ Aside0 (Below w.heap.size w w'))
    case atStart => exact ⟨(t417), (0), (by first | rfl | (simp; done) | (simp [*]; done)), H', ⟨Nat.le_refl _⟩, ⟨by (with_reducible repeat (first | apply Kd.R_alloc | apply Kd.R_drewN | apply Kd.R_drew)); exact HO419.out⟩, ⟨by repeat (first | (with_reducible first | exact HB.out | apply below_alloc | apply pw_below_drewN | apply below_drew1) | exact HB.out)⟩⟩
    case round =>
      clear H'
      try clear p2
      try clear c3
      try clear c3b0
      try clear c3b1
      obtain ⟨x5_1, x6_1, rfl, HA, HK1, HO_5, HB⟩ := hrel
      cases gk with
      | zero => exact absurd HA.out (by simp [metrolabref31_Sorted.l0])
      | succ k1 =>
        have H := HA.out
        clear HA
        simp only [metrolabref31_Sorted.l0] at H
        by_cases c7 : x6_1 < (x5_1.length : Int)
        · rw [if_pos c7] at H
          have c7b0 : decide (x6_1 < (x5_1.length : Int)) = true := decide_eq_true c7
          clear c7
          have H' := Aside0.mk H
          clear H
          obtain ⟨Ao8, co8, eo8⟩ := Kd.R_slice HO_5.out
          subst eo8
          go_wp2
          go_loopg [7] k1 (fun kq v7 w' => ∃ (x5_2 : List (S30)) (x7_2 : Int), v7 = .int .i64 x7_2 ∧ Aside0 (metrolabref31_Sorted.l1 kq x5_2 x6_1 x7_2 = some (r1, r2)) ∧ Aside0 (kq ≤ k1) ∧ Aside0 (Kd.R k30 30 w' w.heap.size (fun _ => True) (.slice Ao8 x5_1.length co8) x5_2) ∧ Aside0 (Below w.heap.size w w'))
          case atStart => exact ⟨(x5_1), (x6_1), (by first | rfl | (simp; done) | (simp [*]; done)), H', ⟨Nat.le_refl _⟩, ⟨by (with_reducible repeat (first | apply Kd.R_alloc | apply Kd.R_drewN | apply Kd.R_drew)); exact HO_5.out⟩, ⟨by repeat (first | (with_reducible first | exact HB.out | apply below_alloc | apply pw_below_drewN | apply below_drew1) | exact HB.out)⟩⟩
          case round =>
            clear H'
            try clear p2
            try clear c3
            try clear c3b0
            try clear c3b1
            try clear c7
            try clear c7b0
            try clear p2
            obtain ⟨x5_2, x7_2, rfl, HA, HK2, HO_5, HB⟩ := hrel
            have hl5_2 := (Kd.R_reads' HO_5.out).1
            rw [hl5_2] at HO_5
            (try simp only [hl5_2])
            cases gk with
            | zero => exact absurd HA.out (by simp [metrolabref31_Sorted.l1])
            | succ k2 =>
              have H := HA.out
              clear HA
              simp only [metrolabref31_Sorted.l1] at H
              by_cases c9 : x7_2 > 0
              · rw [if_pos c9] at H
                have c9b0 : decide (0 < x7_2) = true := decide_eq_true c9
                clear c9
                by_cases c10 : 0 ≤ x7_2
                · rw [if_pos c10] at H
                  have c10b0 : decide (0 ≤ x7_2) = true := decide_eq_true c10
                  clear c10
                  by_cases c11 : x7_2 < (x5_2.length : Int)
                  · rw [if_pos c11] at H
                    have c11b0 : decide (x7_2 < (x5_2.length : Int)) = true := decide_eq_true c11
                    clear c11
                    obtain ⟨ji12, hji12⟩ : ∃ j_ : Int, (wrap64 (x7_2 - 1)) = j_ := ⟨_, rfl⟩
                    replace H : (if 0 ≤ (ji12) then (if (ji12) < (x5_2.length : Int) then ((metrolabref31_Before.f ((rd_T30 x5_2 x7_2).f0) ((rd_T30 x5_2 x7_2).f1) ((rd_T30 x5_2 x7_2).f2) ((rd_T30 x5_2 (ji12)).f0) ((rd_T30 x5_2 (ji12)).f1) ((rd_T30 x5_2 (ji12)).f2)).bind fun t422 => (if t422 = true then (metrolabref31_Sorted.l1 k2 ((x5_2.set (x7_2 : Int).toNat (⟨(rd_T30 x5_2 (ji12)).f0, (rd_T30 x5_2 (ji12)).f1, (rd_T30 x5_2 (ji12)).f2⟩ : S30)).set ((ji12) : Int).toNat (⟨(rd_T30 x5_2 x7_2).f0, (rd_T30 x5_2 x7_2).f1, (rd_T30 x5_2 x7_2).f2⟩ : S30)) x6_1 ji12) else (metrolabref31_Sorted.l0 k2 x5_2 (wrap64 (x6_1 + 1))))) else (none)) else (none)) = some (r1, r2) := by first | (rw [hji12] at H; exact H) | (simp only [hji12] at H ⊢; exact H)
                    have hji12w : (IntKind.i64.wrap (x7_2 - 1)) = ji12 := (i64_w _).trans hji12
                    by_cases c13 : 0 ≤ (ji12)
                    · rw [if_pos c13] at H
                      have c13b0 : decide (0 ≤ (ji12)) = true := decide_eq_true c13
                      clear c13
                      by_cases c14 : (ji12) < (x5_2.length : Int)
                      · rw [if_pos c14] at H
                        have c14b0 : decide ((ji12) < (x5_2.length : Int)) = true := decide_eq_true c14
                        clear c14
                        replace H := Option.bind_eq_some_iff.mp H
                        obtain ⟨t422, A150, H⟩ := H
                        replace H : (if t422 = true then (metrolabref31_Sorted.l1 k2 ((x5_2.set (x7_2 : Int).toNat (⟨(rd_T30 x5_2 (ji12)).f0, (rd_T30 x5_2 (ji12)).f1, (rd_T30 x5_2 (ji12)).f2⟩ : S30)).set ((ji12) : Int).toNat (⟨(rd_T30 x5_2 x7_2).f0, (rd_T30 x5_2 x7_2).f1, (rd_T30 x5_2 x7_2).f2⟩ : S30)) x6_1 ji12) else (metrolabref31_Sorted.l0 k2 x5_2 (wrap64 (x6_1 + 1)))) = some (r1, r2) := H
                        have A15 := Aside0.mk A150
                        clear A150
                        by_cases c16 : t422 = true
                        · subst c16
                          have H1 : (metrolabref31_Sorted.l1 k2 ((x5_2.set (x7_2 : Int).toNat (⟨(rd_T30 x5_2 (ji12)).f0, (rd_T30 x5_2 (ji12)).f1, (rd_T30 x5_2 (ji12)).f2⟩ : S30)).set ((ji12) : Int).toNat (⟨(rd_T30 x5_2 x7_2).f0, (rd_T30 x5_2 x7_2).f1, (rd_T30 x5_2 x7_2).f2⟩ : S30)) x6_1 ji12) = some (r1, r2) := by rw [if_pos rfl] at H; exact H
                          clear H
                          have H := H1
                          clear H1
                          obtain ⟨y425, hy425⟩ : ∃ y_ : List (S30), y_ = (x5_2.set (x7_2 : Int).toNat (⟨(rd_T30 x5_2 (ji12)).f0, (rd_T30 x5_2 (ji12)).f1, (rd_T30 x5_2 (ji12)).f2⟩ : S30)) := ⟨_, rfl⟩
                          replace H : (metrolabref31_Sorted.l1 k2 (y425.set ((ji12) : Int).toNat (⟨(rd_T30 x5_2 x7_2).f0, (rd_T30 x5_2 x7_2).f1, (rd_T30 x5_2 x7_2).f2⟩ : S30)) x6_1 ji12) = some (r1, r2) := by first | (rw [hy425]; with_reducible exact H) | (have H2_ := (Option.bind_some _ _).symm.trans H; rw [hy425]; with_reducible exact H2_) | (have H2_ := (Option.bind_some _ _).symm.trans H; with_reducible exact H2_) | with_reducible exact H | (rw [hy425]; exact H) | exact H
                          have Ny425 := Aside0.mk hy425
                          clear hy425
                          obtain ⟨y426, hy426⟩ : ∃ y_ : List (S30), y_ = (y425.set ((ji12) : Int).toNat (⟨(rd_T30 x5_2 x7_2).f0, (rd_T30 x5_2 x7_2).f1, (rd_T30 x5_2 x7_2).f2⟩ : S30)) := ⟨_, rfl⟩
                          replace H : (metrolabref31_Sorted.l1 k2 y426 x6_1 ji12) = some (r1, r2) := by first | (rw [hy426]; with_reducible exact H) | (have H2_ := (Option.bind_some _ _).symm.trans H; rw [hy426]; with_reducible exact H2_) | (have H2_ := (Option.bind_some _ _).symm.trans H; with_reducible exact H2_) | with_reducible exact H | (rw [hy426]; exact H) | exact H
                          have Ny426 := Aside0.mk hy426
                          clear hy426
                          have H' := Aside0.mk H
                          clear H
                          try go_wp2
                          have n0_ := Aside0.mk (Kd.R_drew HO_5.out)
                          have n1_ := Aside0.mk (below_drew1 HB.out)
                          clear HO_5
                          clear HB
                          have HO_5 := n0_
                          have HB := n1_
                          clear n0_ n1_
                          have p420 : 0 ≤ (x7_2 : Int) := of_decide_eq_true (by first | (with_reducible assumption) | assumption)
                          have q420 : x7_2 < (x5_2.length : Int) := of_decide_eq_true (by first | (with_reducible assumption) | assumption)
                          obtain ⟨ad420, e420, hx420_0, hx420_1, hx420_2⟩ := at_T30 (Kd.R_reads' HO_5.out).2.2 x7_2 p420 q420
                          cases e420
                          replace p420 := eq_true p420
                          replace q420 := eq_true q420
                          have p421 : 0 ≤ ((ji12) : Int) := of_decide_eq_true (by first | (with_reducible assumption) | assumption)
                          have q421 : (ji12) < (x5_2.length : Int) := of_decide_eq_true (by first | (with_reducible assumption) | assumption)
                          obtain ⟨ad421, e421, hx421_0, hx421_1, hx421_2⟩ := at_T30 (Kd.R_reads' HO_5.out).2.2 (ji12) p421 q421
                          obtain rfl : ad420 = ad421 := (by injection e421)
                          replace p421 := eq_true p421
                          replace q421 := eq_true q421
                          refine start_ (n := 14) (S := fun w' => w'.cell? (ad420.add ((x7_2).toNat * 3)) = some (.int .i64 ((rd_T30 x5_2 x7_2).f0)) ∧ w'.cell? ⟨(ad420.add ((x7_2).toNat * 3)).block, (ad420.add ((x7_2).toNat * 3)).off + 1, none⟩ = some (.int .i64 ((rd_T30 x5_2 x7_2).f1)) ∧ w'.cell? ⟨(ad420.add ((x7_2).toNat * 3)).block, (ad420.add ((x7_2).toNat * 3)).off + 2, none⟩ = some (.int .i64 ((rd_T30 x5_2 x7_2).f2)) ∧ w'.cell? (ad420.add (((ji12)).toNat * 3)) = some (.int .i64 ((rd_T30 x5_2 (ji12)).f0)) ∧ w'.cell? ⟨(ad420.add (((ji12)).toNat * 3)).block, (ad420.add (((ji12)).toNat * 3)).off + 1, none⟩ = some (.int .i64 ((rd_T30 x5_2 (ji12)).f1)) ∧ w'.cell? ⟨(ad420.add (((ji12)).toNat * 3)).block, (ad420.add (((ji12)).toNat * 3)).off + 2, none⟩ = some (.int .i64 ((rd_T30 x5_2 (ji12)).f2))) (ds := []) #[false, false, false, false, false, false, false, false, false, false, false, false, false, false] (by kernel_rfl) rfl rfl ⟨hx420_0, hx420_1, hx420_2, hx421_0, hx421_1, hx421_2⟩ (fun hHeld => ?_); refine with_tabW metrolabref31_Sorted.tab9 metrolabref31_Sorted.bits9 (fun HT_ HW_ => ?_)
                          generalize wr.drew = w19 at HO_5 HB hx420_0 hx420_1 hx420_2 hx421_0 hx421_1 hx421_2 hHeld ⊢
                          refine pure_ (i := 0) (N := some 22) (v := ?_) (a' := ?_) #[true, false, false, false, false, false, false, false, false, false, false, false, false, false] rfl rfl (any_of HT_.out (by kernel_rfl)) (fun _ _ _ h => h) (Or.inl ⟨by rfl, ?_⟩) ?_ ?_
                          rotate_left
                          · intro w'
                            go_simp
                            with_reducible rfl
                          rotate_left
                          · simp only [Act.put, List.setIfInBounds_toArray, List.set_cons_zero, List.set_cons_succ, i64_w, i32_w]
                            rfl
                          refine pure_ (i := 1) (N := some 23) (v := ?_) (a' := ?_) #[true, true, false, false, false, false, false, false, false, false, false, false, false, false] rfl rfl (any_of HT_.out (by kernel_rfl)) (fun _ _ _ h => h) (Or.inl ⟨by rfl, ?_⟩) ?_ ?_
                          rotate_left
                          · intro w'
                            go_simp
                            with_reducible rfl
                          rotate_left
                          · simp only [Act.put, List.setIfInBounds_toArray, List.set_cons_zero, List.set_cons_succ, i64_w, i32_w]
                            rfl
                          refine pure_ (i := 2) (N := some 24) (v := ?_) (a' := ?_) #[true, true, true, false, false, false, false, false, false, false, false, false, false, false] rfl rfl (any_of HT_.out (by kernel_rfl)) (fun _ _ _ h => h) (Or.inl ⟨by rfl, ?_⟩) ?_ ?_
                          rotate_left
                          · intro w'
                            go_simp
                            with_reducible rfl
                          rotate_left
                          · simp only [Act.put, List.setIfInBounds_toArray, List.set_cons_zero, List.set_cons_succ, i64_w, i32_w]
                            rfl
                          refine pure_ (i := 3) (N := some 25) (v := ?_) (a' := ?_) #[true, true, true, true, false, false, false, false, false, false, false, false, false, false] rfl rfl (any_of HT_.out (by kernel_rfl)) (fun _ _ _ h => h) (Or.inl ⟨by rfl, ?_⟩) ?_ ?_
                          rotate_left
                          · intro w'
                            go_simp
                            with_reducible rfl
                          rotate_left
                          · simp only [Act.put, List.setIfInBounds_toArray, List.set_cons_zero, List.set_cons_succ, i64_w, i32_w]
                            rfl
                          refine pure_ (i := 4) (N := some 26) (v := ?_) (a' := ?_) #[true, true, true, true, true, false, false, false, false, false, false, false, false, false] rfl rfl (any_of HT_.out (by kernel_rfl)) (fun _ _ _ h => h) (Or.inl ⟨by rfl, ?_⟩) ?_ ?_
                          rotate_left
                          · intro w'
                            go_simp
                            with_reducible rfl
                          rotate_left
                          · simp only [Act.put, List.setIfInBounds_toArray, List.set_cons_zero, List.set_cons_succ, i64_w, i32_w]
                            rfl
                          refine pure_ (i := 5) (N := some 27) (v := ?_) (a' := ?_) #[true, true, true, true, true, true, false, false, false, false, false, false, false, false] rfl rfl (any_of HT_.out (by kernel_rfl)) (fun _ _ _ h => h) (Or.inl ⟨by rfl, ?_⟩) ?_ ?_
                          rotate_left
                          · intro w'
                            go_simp
                            with_reducible rfl
                          rotate_left
                          · simp only [Act.put, List.setIfInBounds_toArray, List.set_cons_zero, List.set_cons_succ, i64_w, i32_w]
                            rfl
                          refine pure_ (i := 7) (N := some 29) (v := ?_) (a' := ?_) #[true, true, true, true, true, true, false, true, false, false, false, false, false, false] rfl rfl (any_of HT_.out (by kernel_rfl)) (fun _ _ _ h => h) (Or.inl ⟨by rfl, ?_⟩) ?_ ?_
                          rotate_left
                          · intro w'
                            go_simp
                            with_reducible rfl
                          rotate_left
                          · simp only [Act.put, List.setIfInBounds_toArray, List.set_cons_zero, List.set_cons_succ, i64_w, i32_w]
                            rfl
                          refine pure_ (i := 8) (N := some 30) (v := ?_) (a' := ?_) #[true, true, true, true, true, true, false, true, true, false, false, false, false, false] rfl rfl (any_of HT_.out (by kernel_rfl)) (fun _ _ _ h => h) (Or.inl ⟨by rfl, ?_⟩) ?_ ?_
                          rotate_left
                          · intro w'
                            go_simp
                            with_reducible rfl
                          rotate_left
                          · simp only [Act.put, List.setIfInBounds_toArray, List.set_cons_zero, List.set_cons_succ, i64_w, i32_w]
                            rfl
                          refine pure_ (i := 9) (N := some 31) (v := ?_) (a' := ?_) #[true, true, true, true, true, true, false, true, true, true, false, false, false, false] rfl rfl (any_of HT_.out (by kernel_rfl)) (fun _ _ _ h => h) (Or.inl ⟨by rfl, ?_⟩) ?_ ?_
                          rotate_left
                          · intro w'
                            go_simp
                            with_reducible rfl
                          rotate_left
                          · simp only [Act.put, List.setIfInBounds_toArray, List.set_cons_zero, List.set_cons_succ, i64_w, i32_w]
                            rfl
                          refine pure_ (i := 10) (N := some 32) (v := ?_) (a' := ?_) #[true, true, true, true, true, true, false, true, true, true, true, false, false, false] rfl rfl (any_of HT_.out (by kernel_rfl)) (fun _ _ _ h => h) (Or.inl ⟨by rfl, ?_⟩) ?_ ?_
                          rotate_left
                          · intro w'
                            go_simp
                            with_reducible rfl
                          rotate_left
                          · simp only [Act.put, List.setIfInBounds_toArray, List.set_cons_zero, List.set_cons_succ, i64_w, i32_w]
                            rfl
                          refine take_ (i := 6) (N := some 28) (v := ?_) (a' := ?_) #[true, true, true, true, true, true, true, true, true, true, true, false, false, false] rfl rfl (take_ofW HT_.out HW_.out (by kernel_rfl)) (fun _ _ _ h => h) (Or.inl ⟨by rfl, ?_⟩) hHeld ?_ ?_
                          rotate_left
                          · rintro w' ⟨s0, s1, s2, s3, s4, s5⟩
                            go_simp
                            with_reducible rfl
                          rotate_left
                          · simp only [Act.put, List.setIfInBounds_toArray, List.set_cons_zero, List.set_cons_succ, i64_w, i32_w]
                            rfl
                          refine take_ (i := 11) (N := some 33) (v := ?_) (a' := ?_) #[true, true, true, true, true, true, true, true, true, true, true, true, false, false] rfl rfl (take_ofW HT_.out HW_.out (by kernel_rfl)) (fun _ _ _ h => h) (Or.inl ⟨by rfl, ?_⟩) hHeld ?_ ?_
                          rotate_left
                          · rintro w' ⟨s0, s1, s2, s3, s4, s5⟩
                            go_simp
                            with_reducible rfl
                          rotate_left
                          · simp only [Act.put, List.setIfInBounds_toArray, List.set_cons_zero, List.set_cons_succ, i64_w, i32_w]
                            rfl
                          refine one_ (i := 12) (N := some 34) #[true, true, true, true, true, true, true, true, true, true, true, true, true, false] rfl rfl (one_of HT_.out (by kernel_rfl)) (by decide) (fun K hK => ?_)
                          refine goes_ Try.func38 (by kernel_rfl) rfl #[.agg #[.int .i64 ((rd_T30 x5_2 x7_2).f0), .int .i64 ((rd_T30 x5_2 x7_2).f1), .int .i64 ((rd_T30 x5_2 x7_2).f2)], .agg #[.int .i64 ((rd_T30 x5_2 (ji12)).f0), .int .i64 ((rd_T30 x5_2 (ji12)).f1), .int .i64 ((rd_T30 x5_2 (ji12)).f2)]] (by rfl) rfl rfl (by (try simp only [List.map_toArray, List.map_cons, List.map_nil]); first | done | (simp only [hji12]; rfl) | rfl | (simp only [List.length_drop, List.length_take]; rfl)) ?_
                          with_reducible refine (metrolabref31_Before.calls ((rd_T30 x5_2 x7_2).f0) ((rd_T30 x5_2 x7_2).f1) ((rd_T30 x5_2 x7_2).f2) ((rd_T30 x5_2 (ji12)).f0) ((rd_T30 x5_2 (ji12)).f1) ((rd_T30 x5_2 (ji12)).f2) true _ A15.out).mono ?_
                          rintro e w20 ⟨rfl, hb⟩
                          have HS0_ := (hb.cell (World.block_lt_of_cell? _ _ (hHeld.1))).trans (hHeld.1)
                          have HS1_ := (hb.cell (World.block_lt_of_cell? _ _ (hHeld.2.1))).trans (hHeld.2.1)
                          have HS2_ := (hb.cell (World.block_lt_of_cell? _ _ (hHeld.2.2.1))).trans (hHeld.2.2.1)
                          have HS3_ := (hb.cell (World.block_lt_of_cell? _ _ (hHeld.2.2.2.1))).trans (hHeld.2.2.2.1)
                          have HS4_ := (hb.cell (World.block_lt_of_cell? _ _ (hHeld.2.2.2.2.1))).trans (hHeld.2.2.2.2.1)
                          have HS5_ := (hb.cell (World.block_lt_of_cell? _ _ (hHeld.2.2.2.2.2))).trans (hHeld.2.2.2.2.2)
                          refine ⟨_, rfl, ?_⟩
                          have n0_ := Aside0.mk (Kd.R_below (by (with_reducible repeat (first | apply Kd.R_alloc | apply Kd.R_drewN | apply Kd.R_drew)); exact HO_5.out) hb)
                          have n1_ := Aside0.mk (below_step (by repeat (first | (with_reducible first | exact HB.out | apply below_alloc | apply pw_below_drewN | apply below_drew1) | exact HB.out)) hb)
                          clear HO_5
                          clear HB
                          have HO_5 := n0_
                          have HB := n1_
                          clear n0_ n1_
                          (try clear hb)
                          (try clear hb2)
                          (try clear hk)
                          (try clear hi)
                          refine hK.out _ _ ⟨HS0_, HS1_, HS2_, HS3_, HS4_, HS5_⟩ (fun hHeld => ?_)
                          clear hK K
                          refine norm_ (a' := ?_) ?_ ?_
                          rotate_left
                          · show Act.put _ (some 34) _ = _
                            simp only [Act.put, List.setIfInBounds_toArray, List.set_cons_zero, List.set_cons_succ, i64_w, i32_w]
                            rfl
                          refine pure_ (i := 13) (N := some 35) (v := ?_) (a' := ?_) #[true, true, true, true, true, true, true, true, true, true, true, true, true, true] rfl rfl (any_of HT_.out (by kernel_rfl)) (fun _ _ _ h => h) (Or.inl ⟨by rfl, ?_⟩) ?_ ?_
                          rotate_left
                          · intro w'
                            go_simp
                            with_reducible rfl
                          rotate_left
                          · simp only [Act.put, List.setIfInBounds_toArray, List.set_cons_zero, List.set_cons_succ, i64_w, i32_w]
                            rfl
                          refine done_ (done_of HT_.out (by kernel_rfl)) ?_
                          try go_wp2
                          have n0_ := Aside0.mk (Kd.R_drew HO_5.out)
                          have n1_ := Aside0.mk (below_drew1 HB.out)
                          clear HO_5
                          clear HB
                          have HO_5 := n0_
                          have HB := n1_
                          clear n0_ n1_
                          have p423 : 0 ≤ ((ji12) : Int) := of_decide_eq_true (by first | (with_reducible assumption) | assumption)
                          have q423 : (ji12) < (x5_2.length : Int) := of_decide_eq_true (by first | (with_reducible assumption) | assumption)
                          obtain ⟨ad423, e423, hx423_0, hx423_1, hx423_2⟩ := at_T30 (Kd.R_reads' HO_5.out).2.2 (ji12) p423 q423
                          obtain rfl : ad420 = ad423 := (by injection e423)
                          replace p423 := eq_true p423
                          replace q423 := eq_true q423
                          have p424 : 0 ≤ (x7_2 : Int) := of_decide_eq_true (by first | (with_reducible assumption) | assumption)
                          have q424 : x7_2 < (x5_2.length : Int) := of_decide_eq_true (by first | (with_reducible assumption) | assumption)
                          obtain ⟨ad424, e424, hx424_0, hx424_1, hx424_2⟩ := at_T30 (Kd.R_reads' HO_5.out).2.2 x7_2 p424 q424
                          obtain rfl : ad420 = ad424 := (by injection e424)
                          replace p424 := eq_true p424
                          replace q424 := eq_true q424
                          have p17 : 0 ≤ (x7_2 : Int) := of_decide_eq_true (by first | (with_reducible assumption) | assumption)
                          have q17 : (x7_2 : Int) < ((x5_2.length : Int) : Int) := of_decide_eq_true (by first | (with_reducible assumption) | assumption)
                          obtain ⟨go17, co17, eo17, gb17, gl17, cl17, HG17⟩ := Kd.R_form HO_5.out (by omega)
                          (first | cases eo17 | (injection eo17 with ea_ en_ ec_; (first | subst ea_ | (injection ea_ with ea_; subst ea_)); subst ec_; clear en_))
                          have GB17 := Aside0.mk gb17
                          have GG17 := Aside0.mk HG17
                          clear gb17 gl17 HG17
                          (first | simp only [add_plain] at hx420_0 | skip)
                          (first | simp only [add_plain] at hx420_1 | skip)
                          (first | simp only [add_plain] at hx420_2 | skip)
                          (first | simp only [add_plain] at hx421_0 | skip)
                          (first | simp only [add_plain] at hx421_1 | skip)
                          (first | simp only [add_plain] at hx421_2 | skip)
                          (first | simp only [add_plain] at hx423_0 | skip)
                          (first | simp only [add_plain] at hx423_1 | skip)
                          (first | simp only [add_plain] at hx423_2 | skip)
                          (first | simp only [add_plain] at hx424_0 | skip)
                          (first | simp only [add_plain] at hx424_1 | skip)
                          (first | simp only [add_plain] at hx424_2 | skip)
                          obtain ⟨ce17, hcl17, hM17, hcc17, hfr17⟩ := Kd.R_elem HO_5.out z30 (x7_2 : Int) p17 q17
                          obtain rfl := k30_openM hM17
                          have hx17_0 : World.cell? _ ⟨go17, (x7_2 : Int).toNat * 3, none⟩ = some (.int .i64 ((rd_T30 x5_2 x7_2).f0)) := hcc17 0 _ rfl
                          have hx17_1 : World.cell? _ ⟨go17, (x7_2 : Int).toNat * 3 + 1, none⟩ = some (.int .i64 ((rd_T30 x5_2 x7_2).f1)) := hcc17 1 _ rfl
                          have hx17_2 : World.cell? _ ⟨go17, (x7_2 : Int).toNat * 3 + 2, none⟩ = some (.int .i64 ((rd_T30 x5_2 x7_2).f2)) := hcc17 2 _ rfl
                          have hf17_0 : World.frozen? _ ⟨go17, (x7_2 : Int).toNat * 3, none⟩ = false := hfr17 0
                          have hf17_1 : World.frozen? _ ⟨go17, (x7_2 : Int).toNat * 3 + 1, none⟩ = false := hfr17 1
                          have hf17_2 : World.frozen? _ ⟨go17, (x7_2 : Int).toNat * 3 + 2, none⟩ = false := hfr17 2
                          clear hcl17 hcc17 hfr17 hM17
                          replace p17 := eq_true p17
                          replace q17 := eq_true q17
                          obtain ⟨ce22, hcl22, hM22, hcc22, hfr22⟩ := Kd.R_elem HO_5.out z30 (x7_2 : Int) (of_decide_eq_true (by first | (with_reducible assumption) | assumption)) (by have h_ : (x7_2 : Int) < ((x5_2.length : Int) : Int) := of_decide_eq_true (by first | (with_reducible assumption) | assumption); first | exact h_ | (have e_ := (Kd.R_reads' HO_5.out).1; omega) | simpa using h_)
                          obtain rfl := k30_openM hM22
                          have HP22 := (Kd.R_seg HO_5.out (x7_2 : Int) (of_decide_eq_true (by first | (with_reducible assumption) | assumption)) (by have h_ : (x7_2 : Int) < ((x5_2.length : Int) : Int) := of_decide_eq_true (by first | (with_reducible assumption) | assumption); first | exact h_ | (have e_ := (Kd.R_reads' HO_5.out).1; omega) | simpa using h_) (seg := [.int .i64 ((rd_T30 x5_2 (ji12)).f0), .int .i64 ((rd_T30 x5_2 (ji12)).f1), .int .i64 ((rd_T30 x5_2 (ji12)).f2)]) (j := 0) hcl22 hcc22 (show 3 ≤ 3 from by decide) (x' := (⟨(rd_T30 x5_2 (ji12)).f0, (rd_T30 x5_2 (ji12)).f1, (rd_T30 x5_2 (ji12)).f2⟩ : S30)) (k30_mkM _ _ _ (⟨(rd_T30 x5_2 (ji12)).f0, (rd_T30 x5_2 (ji12)).f1, (rd_T30 x5_2 (ji12)).f2⟩ : S30) ) (fun _ hk => hk)).1
                          rw [← Ny425.out] at HP22
                          have HQ22 := Aside0.mk HP22
                          clear hcl22 hcc22 hfr22 hM22 HP22
                          have p18 : 0 ≤ ((ji12) : Int) := of_decide_eq_true (by first | (with_reducible assumption) | assumption)
                          have q18 : ((ji12) : Int) < ((x5_2.length : Int) : Int) := of_decide_eq_true (by first | (with_reducible assumption) | assumption)
                          obtain ⟨ce18, hcl18, hM18, hcc18, hfr18⟩ := Kd.R_elem HQ22.out z30 ((ji12) : Int) p18 q18
                          obtain rfl := k30_openM hM18
                          have hx18_0 : World.cell? _ ⟨go17, ((ji12) : Int).toNat * 3, none⟩ = some (.int .i64 ((rd_T30 y425 (ji12)).f0)) := hcc18 0 _ rfl
                          have hx18_1 : World.cell? _ ⟨go17, ((ji12) : Int).toNat * 3 + 1, none⟩ = some (.int .i64 ((rd_T30 y425 (ji12)).f1)) := hcc18 1 _ rfl
                          have hx18_2 : World.cell? _ ⟨go17, ((ji12) : Int).toNat * 3 + 2, none⟩ = some (.int .i64 ((rd_T30 y425 (ji12)).f2)) := hcc18 2 _ rfl
                          have hf18_0 : World.frozen? _ ⟨go17, ((ji12) : Int).toNat * 3, none⟩ = false := hfr18 0
                          have hf18_1 : World.frozen? _ ⟨go17, ((ji12) : Int).toNat * 3 + 1, none⟩ = false := hfr18 1
                          have hf18_2 : World.frozen? _ ⟨go17, ((ji12) : Int).toNat * 3 + 2, none⟩ = false := hfr18 2
                          clear hcl18 hcc18 hfr18 hM18
                          replace p18 := eq_true p18
                          replace q18 := eq_true q18
                          obtain ⟨ce23, hcl23, hM23, hcc23, hfr23⟩ := Kd.R_elem HQ22.out z30 ((ji12) : Int) (of_decide_eq_true (by first | (with_reducible assumption) | assumption)) (by have h_ : ((ji12) : Int) < ((x5_2.length : Int) : Int) := of_decide_eq_true (by first | (with_reducible assumption) | assumption); first | exact h_ | (have e_ := (Kd.R_reads' HO_5.out).1; omega) | simpa using h_)
                          obtain rfl := k30_openM hM23
                          have HP23 := (Kd.R_seg HQ22.out ((ji12) : Int) (of_decide_eq_true (by first | (with_reducible assumption) | assumption)) (by have h_ : ((ji12) : Int) < ((x5_2.length : Int) : Int) := of_decide_eq_true (by first | (with_reducible assumption) | assumption); first | exact h_ | (have e_ := (Kd.R_reads' HO_5.out).1; omega) | simpa using h_) (seg := [.int .i64 ((rd_T30 x5_2 x7_2).f0), .int .i64 ((rd_T30 x5_2 x7_2).f1), .int .i64 ((rd_T30 x5_2 x7_2).f2)]) (j := 0) hcl23 hcc23 (show 3 ≤ 3 from by decide) (x' := (⟨(rd_T30 x5_2 x7_2).f0, (rd_T30 x5_2 x7_2).f1, (rd_T30 x5_2 x7_2).f2⟩ : S30)) (k30_mkM _ _ _ (⟨(rd_T30 x5_2 x7_2).f0, (rd_T30 x5_2 x7_2).f1, (rd_T30 x5_2 x7_2).f2⟩ : S30) ) (fun _ hk => hk)).1
                          rw [← Ny426.out] at HP23
                          have HQ23 := Aside0.mk HP23
                          clear hcl23 hcc23 hfr23 hM23 HP23
                          refine start_ (n := 18) (S := fun w' => w'.cell? ⟨go17, (((ji12)).toNat * 3), none⟩ = some (.int .i64 ((rd_T30 x5_2 (ji12)).f0)) ∧ w'.cell? ⟨go17, (((ji12)).toNat * 3) + 1, none⟩ = some (.int .i64 ((rd_T30 x5_2 (ji12)).f1)) ∧ w'.cell? ⟨go17, (((ji12)).toNat * 3) + 2, none⟩ = some (.int .i64 ((rd_T30 x5_2 (ji12)).f2)) ∧ w'.cell? ⟨go17, ((x7_2).toNat * 3), none⟩ = some (.int .i64 ((rd_T30 x5_2 x7_2).f0)) ∧ w'.cell? ⟨go17, ((x7_2).toNat * 3) + 1, none⟩ = some (.int .i64 ((rd_T30 x5_2 x7_2).f1)) ∧ w'.cell? ⟨go17, ((x7_2).toNat * 3) + 2, none⟩ = some (.int .i64 ((rd_T30 x5_2 x7_2).f2))) (ds := [15, 17]) #[false, false, false, false, false, false, false, false, false, false, false, false, false, false, false, false, false, false] (by kernel_rfl) rfl rfl ⟨hx423_0, hx423_1, hx423_2, hx424_0, hx424_1, hx424_2⟩ (fun hHeld => ?_); refine with_tabW metrolabref31_Sorted.tab11 metrolabref31_Sorted.bits11 (fun HT_ HW_ => ?_)
                          generalize w20.drew = w21 at HO_5 HB GG17 HQ22 HQ23 hf17_0 hf17_1 hf17_2 hf18_0 hf18_1 hf18_2 hx17_0 hx17_1 hx17_2 hx18_0 hx18_1 hx18_2 hx420_0 hx420_1 hx420_2 hx421_0 hx421_1 hx421_2 hx423_0 hx423_1 hx423_2 hx424_0 hx424_1 hx424_2 hHeld ⊢
                          refine pure_ (i := 0) (N := some 38) (v := ?_) (a' := ?_) #[true, false, false, false, false, false, false, false, false, false, false, false, false, false, false, false, false, false] rfl rfl (any_of HT_.out (by kernel_rfl)) (fun _ _ _ h => h) (Or.inl ⟨by rfl, ?_⟩) ?_ ?_
                          rotate_left
                          · intro w'
                            go_simp
                            with_reducible rfl
                          rotate_left
                          · simp only [Act.put, List.setIfInBounds_toArray, List.set_cons_zero, List.set_cons_succ, i64_w, i32_w]
                            rfl
                          refine pure_ (i := 1) (N := some 39) (v := ?_) (a' := ?_) #[true, true, false, false, false, false, false, false, false, false, false, false, false, false, false, false, false, false] rfl rfl (any_of HT_.out (by kernel_rfl)) (fun _ _ _ h => h) (Or.inl ⟨by rfl, ?_⟩) ?_ ?_
                          rotate_left
                          · intro w'
                            go_simp
                            with_reducible rfl
                          rotate_left
                          · simp only [Act.put, List.setIfInBounds_toArray, List.set_cons_zero, List.set_cons_succ, i64_w, i32_w]
                            rfl
                          refine pure_ (i := 2) (N := some 40) (v := ?_) (a' := ?_) #[true, true, true, false, false, false, false, false, false, false, false, false, false, false, false, false, false, false] rfl rfl (any_of HT_.out (by kernel_rfl)) (fun _ _ _ h => h) (Or.inl ⟨by rfl, ?_⟩) ?_ ?_
                          rotate_left
                          · intro w'
                            go_simp
                            with_reducible rfl
                          rotate_left
                          · simp only [Act.put, List.setIfInBounds_toArray, List.set_cons_zero, List.set_cons_succ, i64_w, i32_w]
                            rfl
                          refine pure_ (i := 3) (N := some 41) (v := ?_) (a' := ?_) #[true, true, true, true, false, false, false, false, false, false, false, false, false, false, false, false, false, false] rfl rfl (any_of HT_.out (by kernel_rfl)) (fun _ _ _ h => h) (Or.inl ⟨by rfl, ?_⟩) ?_ ?_
                          rotate_left
                          · intro w'
                            go_simp
                            with_reducible rfl
                          rotate_left
                          · simp only [Act.put, List.setIfInBounds_toArray, List.set_cons_zero, List.set_cons_succ, i64_w, i32_w]
                            rfl
                          refine pure_ (i := 4) (N := some 42) (v := ?_) (a' := ?_) #[true, true, true, true, true, false, false, false, false, false, false, false, false, false, false, false, false, false] rfl rfl (any_of HT_.out (by kernel_rfl)) (fun _ _ _ h => h) (Or.inl ⟨by rfl, ?_⟩) ?_ ?_
                          rotate_left
                          · intro w'
                            go_simp
                            with_reducible rfl
                          rotate_left
                          · simp only [Act.put, List.setIfInBounds_toArray, List.set_cons_zero, List.set_cons_succ, i64_w, i32_w]
                            rfl
                          refine pure_ (i := 5) (N := some 43) (v := ?_) (a' := ?_) #[true, true, true, true, true, true, false, false, false, false, false, false, false, false, false, false, false, false] rfl rfl (any_of HT_.out (by kernel_rfl)) (fun _ _ _ h => h) (Or.inl ⟨by rfl, ?_⟩) ?_ ?_
                          rotate_left
                          · intro w'
                            go_simp
                            with_reducible rfl
                          rotate_left
                          · simp only [Act.put, List.setIfInBounds_toArray, List.set_cons_zero, List.set_cons_succ, i64_w, i32_w]
                            rfl
                          refine pure_ (i := 6) (N := some 44) (v := ?_) (a' := ?_) #[true, true, true, true, true, true, true, false, false, false, false, false, false, false, false, false, false, false] rfl rfl (any_of HT_.out (by kernel_rfl)) (fun _ _ _ h => h) (Or.inl ⟨by rfl, ?_⟩) ?_ ?_
                          rotate_left
                          · intro w'
                            go_simp
                            with_reducible rfl
                          rotate_left
                          · simp only [Act.put, List.setIfInBounds_toArray, List.set_cons_zero, List.set_cons_succ, i64_w, i32_w]
                            rfl
                          refine pure_ (i := 7) (N := some 45) (v := ?_) (a' := ?_) #[true, true, true, true, true, true, true, true, false, false, false, false, false, false, false, false, false, false] rfl rfl (any_of HT_.out (by kernel_rfl)) (fun _ _ _ h => h) (Or.inl ⟨by rfl, ?_⟩) ?_ ?_
                          rotate_left
                          · intro w'
                            go_simp
                            with_reducible rfl
                          rotate_left
                          · simp only [Act.put, List.setIfInBounds_toArray, List.set_cons_zero, List.set_cons_succ, i64_w, i32_w]
                            rfl
                          refine pure_ (i := 8) (N := some 46) (v := ?_) (a' := ?_) #[true, true, true, true, true, true, true, true, true, false, false, false, false, false, false, false, false, false] rfl rfl (any_of HT_.out (by kernel_rfl)) (fun _ _ _ h => h) (Or.inl ⟨by rfl, ?_⟩) ?_ ?_
                          rotate_left
                          · intro w'
                            go_simp
                            with_reducible rfl
                          rotate_left
                          · simp only [Act.put, List.setIfInBounds_toArray, List.set_cons_zero, List.set_cons_succ, i64_w, i32_w]
                            rfl
                          refine pure_ (i := 10) (N := some 48) (v := ?_) (a' := ?_) #[true, true, true, true, true, true, true, true, true, false, true, false, false, false, false, false, false, false] rfl rfl (any_of HT_.out (by kernel_rfl)) (fun _ _ _ h => h) (Or.inl ⟨by rfl, ?_⟩) ?_ ?_
                          rotate_left
                          · intro w'
                            go_simp
                            with_reducible rfl
                          rotate_left
                          · simp only [Act.put, List.setIfInBounds_toArray, List.set_cons_zero, List.set_cons_succ, i64_w, i32_w]
                            rfl
                          refine pure_ (i := 11) (N := some 49) (v := ?_) (a' := ?_) #[true, true, true, true, true, true, true, true, true, false, true, true, false, false, false, false, false, false] rfl rfl (any_of HT_.out (by kernel_rfl)) (fun _ _ _ h => h) (Or.inl ⟨by rfl, ?_⟩) ?_ ?_
                          rotate_left
                          · intro w'
                            go_simp
                            with_reducible rfl
                          rotate_left
                          · simp only [Act.put, List.setIfInBounds_toArray, List.set_cons_zero, List.set_cons_succ, i64_w, i32_w]
                            rfl
                          refine pure_ (i := 12) (N := some 50) (v := ?_) (a' := ?_) #[true, true, true, true, true, true, true, true, true, false, true, true, true, false, false, false, false, false] rfl rfl (any_of HT_.out (by kernel_rfl)) (fun _ _ _ h => h) (Or.inl ⟨by rfl, ?_⟩) ?_ ?_
                          rotate_left
                          · intro w'
                            go_simp
                            with_reducible rfl
                          rotate_left
                          · simp only [Act.put, List.setIfInBounds_toArray, List.set_cons_zero, List.set_cons_succ, i64_w, i32_w]
                            rfl
                          refine take_ (i := 9) (N := some 47) (v := ?_) (a' := ?_) #[true, true, true, true, true, true, true, true, true, true, true, true, true, false, false, false, false, false] rfl rfl (take_ofW HT_.out HW_.out (by kernel_rfl)) (fun _ _ _ h => h) (Or.inl ⟨by rfl, ?_⟩) hHeld ?_ ?_
                          rotate_left
                          · rintro w' ⟨s0, s1, s2, s3, s4, s5⟩
                            go_simp
                            with_reducible rfl
                          rotate_left
                          · simp only [Act.put, List.setIfInBounds_toArray, List.set_cons_zero, List.set_cons_succ, i64_w, i32_w]
                            rfl
                          refine take_ (i := 13) (N := some 51) (v := ?_) (a' := ?_) #[true, true, true, true, true, true, true, true, true, true, true, true, true, true, false, false, false, false] rfl rfl (take_ofW HT_.out HW_.out (by kernel_rfl)) (fun _ _ _ h => h) (Or.inl ⟨by rfl, ?_⟩) hHeld ?_ ?_
                          rotate_left
                          · rintro w' ⟨s0, s1, s2, s3, s4, s5⟩
                            go_simp
                            with_reducible rfl
                          rotate_left
                          · simp only [Act.put, List.setIfInBounds_toArray, List.set_cons_zero, List.set_cons_succ, i64_w, i32_w]
                            rfl
                          refine pure_ (i := 14) (N := some 52) (v := ?_) (a' := ?_) #[true, true, true, true, true, true, true, true, true, true, true, true, true, true, true, false, false, false] rfl rfl (any_of HT_.out (by kernel_rfl)) (fun _ _ _ h => h) (Or.inl ⟨by rfl, ?_⟩) ?_ ?_
                          rotate_left
                          · intro w'
                            go_simp
                            with_reducible rfl
                          rotate_left
                          · simp only [Act.put, List.setIfInBounds_toArray, List.set_cons_zero, List.set_cons_succ, i64_w, i32_w]
                            rfl
                          refine last_ (i := 15) (N := none) #[true, true, true, true, true, true, true, true, true, true, true, true, true, true, true, true, false, false] rfl rfl (one_of HT_.out (by kernel_rfl)) (by decide) (fun K hK => ?_)
                          refine skip_ (w1 := ?_) (by rfl) rfl ?_ ?_
                          rotate_left
                          · go_simp
                            rfl
                          refine hK.out _ _ ?_
                          clear hK K
                          refine pure_ (i := 16) (N := some 53) (v := ?_) (a' := ?_) #[true, true, true, true, true, true, true, true, true, true, true, true, true, true, true, true, true, false] rfl rfl (any_of HT_.out (by kernel_rfl)) (fun _ _ _ h => h) (Or.inl ⟨by rfl, ?_⟩) ?_ ?_
                          rotate_left
                          · intro w'
                            go_simp
                            with_reducible rfl
                          rotate_left
                          · simp only [Act.put, List.setIfInBounds_toArray, List.set_cons_zero, List.set_cons_succ, i64_w, i32_w]
                            rfl
                          refine last_ (i := 17) (N := none) #[true, true, true, true, true, true, true, true, true, true, true, true, true, true, true, true, true, true] rfl rfl (one_of HT_.out (by kernel_rfl)) (by decide) (fun K hK => ?_)
                          refine skip_ (w1 := ?_) (by rfl) rfl ?_ ?_
                          rotate_left
                          · have hz_ : 0 < x7_2 := of_decide_eq_true (by first | (with_reducible assumption) | assumption)
                            have hy_ : 0 ≤ ji12 := of_eq_true (by first | (with_reducible assumption) | assumption)
                            have ha_ : ¬ x7_2.toNat = ji12.toNat := by have := hji12; unfold wrap64 at this; omega
                            have hb_ : ¬ ji12.toNat = x7_2.toNat := fun h => ha_ h.symm
                            have hc_ : ¬ x7_2.toNat * 3 = ji12.toNat * 3 := by omega
                            have hd_ : ¬ ji12.toNat * 3 = x7_2.toNat * 3 := by omega
                            have hg0_ := blk_frozen GG17.out (ji12.toNat * 3)
                            have hg1_ := blk_frozen GG17.out (ji12.toNat * 3 + 1)
                            have hg2_ := blk_frozen GG17.out (ji12.toNat * 3 + 2)
                            go_simp
                            rfl
                          refine hK.out _ _ ?_
                          clear hK K
                          refine done_ (done_of HT_.out (by kernel_rfl)) ?_
                          try go_wp2
                          (try simp only [← hl5_2])
                          go_roundg k2
                          case measure => have := HK1.out; have := HK2.out; omega
                          case rel => exact ⟨(y426), (ji12), (by first | rfl | (simp; done) | (simp only [← hji12] <;> (first | rfl | simp)) | (simp [*]; done)), H', ⟨by have := HK1.out; have := HK2.out; omega⟩, ⟨by (try simp only [hl5_2]); (with_reducible repeat (first | apply Kd.R_alloc | apply Kd.R_drewN | apply Kd.R_drew)); (try simp only [w64_mod]); exact HQ23.out⟩, ⟨by repeat (first | (with_reducible first | exact HB.out | apply below_alloc | apply pw_below_drewN | apply below_drew1 | refine below_set ?_ GB17.out | refine below_set ?_ GB17.out | refine below_set ?_ GB17.out | refine below_set ?_ GB17.out | refine below_set ?_ GB17.out | refine below_set ?_ GB17.out) | exact HB.out)⟩⟩
                        · replace c16 := Bool.eq_false_iff.mpr c16
                          subst c16
                          have H1 : (metrolabref31_Sorted.l0 k2 x5_2 (wrap64 (x6_1 + 1))) = some (r1, r2) := by rw [if_neg (show ¬ (false = true) by decide)] at H; exact H
                          clear H
                          have H := H1
                          clear H1
                          have H' := Aside0.mk H
                          clear H
                          try go_wp2
                          have n0_ := Aside0.mk (Kd.R_drew HO_5.out)
                          have n1_ := Aside0.mk (below_drew1 HB.out)
                          clear HO_5
                          clear HB
                          have HO_5 := n0_
                          have HB := n1_
                          clear n0_ n1_
                          have p420 : 0 ≤ (x7_2 : Int) := of_decide_eq_true (by first | (with_reducible assumption) | assumption)
                          have q420 : x7_2 < (x5_2.length : Int) := of_decide_eq_true (by first | (with_reducible assumption) | assumption)
                          obtain ⟨ad420, e420, hx420_0, hx420_1, hx420_2⟩ := at_T30 (Kd.R_reads' HO_5.out).2.2 x7_2 p420 q420
                          cases e420
                          replace p420 := eq_true p420
                          replace q420 := eq_true q420
                          have p421 : 0 ≤ ((ji12) : Int) := of_decide_eq_true (by first | (with_reducible assumption) | assumption)
                          have q421 : (ji12) < (x5_2.length : Int) := of_decide_eq_true (by first | (with_reducible assumption) | assumption)
                          obtain ⟨ad421, e421, hx421_0, hx421_1, hx421_2⟩ := at_T30 (Kd.R_reads' HO_5.out).2.2 (ji12) p421 q421
                          obtain rfl : ad420 = ad421 := (by injection e421)
                          replace p421 := eq_true p421
                          replace q421 := eq_true q421
                          refine start_ (n := 14) (S := fun w' => w'.cell? (ad420.add ((x7_2).toNat * 3)) = some (.int .i64 ((rd_T30 x5_2 x7_2).f0)) ∧ w'.cell? ⟨(ad420.add ((x7_2).toNat * 3)).block, (ad420.add ((x7_2).toNat * 3)).off + 1, none⟩ = some (.int .i64 ((rd_T30 x5_2 x7_2).f1)) ∧ w'.cell? ⟨(ad420.add ((x7_2).toNat * 3)).block, (ad420.add ((x7_2).toNat * 3)).off + 2, none⟩ = some (.int .i64 ((rd_T30 x5_2 x7_2).f2)) ∧ w'.cell? (ad420.add (((ji12)).toNat * 3)) = some (.int .i64 ((rd_T30 x5_2 (ji12)).f0)) ∧ w'.cell? ⟨(ad420.add (((ji12)).toNat * 3)).block, (ad420.add (((ji12)).toNat * 3)).off + 1, none⟩ = some (.int .i64 ((rd_T30 x5_2 (ji12)).f1)) ∧ w'.cell? ⟨(ad420.add (((ji12)).toNat * 3)).block, (ad420.add (((ji12)).toNat * 3)).off + 2, none⟩ = some (.int .i64 ((rd_T30 x5_2 (ji12)).f2))) (ds := []) #[false, false, false, false, false, false, false, false, false, false, false, false, false, false] (by kernel_rfl) rfl rfl ⟨hx420_0, hx420_1, hx420_2, hx421_0, hx421_1, hx421_2⟩ (fun hHeld => ?_); refine with_tabW metrolabref31_Sorted.tab9 metrolabref31_Sorted.bits9 (fun HT_ HW_ => ?_)
                          generalize wr.drew = w24 at HO_5 HB hx420_0 hx420_1 hx420_2 hx421_0 hx421_1 hx421_2 hHeld ⊢
                          refine pure_ (i := 0) (N := some 22) (v := ?_) (a' := ?_) #[true, false, false, false, false, false, false, false, false, false, false, false, false, false] rfl rfl (any_of HT_.out (by kernel_rfl)) (fun _ _ _ h => h) (Or.inl ⟨by rfl, ?_⟩) ?_ ?_
                          rotate_left
                          · intro w'
                            go_simp
                            with_reducible rfl
                          rotate_left
                          · simp only [Act.put, List.setIfInBounds_toArray, List.set_cons_zero, List.set_cons_succ, i64_w, i32_w]
                            rfl
                          refine pure_ (i := 1) (N := some 23) (v := ?_) (a' := ?_) #[true, true, false, false, false, false, false, false, false, false, false, false, false, false] rfl rfl (any_of HT_.out (by kernel_rfl)) (fun _ _ _ h => h) (Or.inl ⟨by rfl, ?_⟩) ?_ ?_
                          rotate_left
                          · intro w'
                            go_simp
                            with_reducible rfl
                          rotate_left
                          · simp only [Act.put, List.setIfInBounds_toArray, List.set_cons_zero, List.set_cons_succ, i64_w, i32_w]
                            rfl
                          refine pure_ (i := 2) (N := some 24) (v := ?_) (a' := ?_) #[true, true, true, false, false, false, false, false, false, false, false, false, false, false] rfl rfl (any_of HT_.out (by kernel_rfl)) (fun _ _ _ h => h) (Or.inl ⟨by rfl, ?_⟩) ?_ ?_
                          rotate_left
                          · intro w'
                            go_simp
                            with_reducible rfl
                          rotate_left
                          · simp only [Act.put, List.setIfInBounds_toArray, List.set_cons_zero, List.set_cons_succ, i64_w, i32_w]
                            rfl
                          refine pure_ (i := 3) (N := some 25) (v := ?_) (a' := ?_) #[true, true, true, true, false, false, false, false, false, false, false, false, false, false] rfl rfl (any_of HT_.out (by kernel_rfl)) (fun _ _ _ h => h) (Or.inl ⟨by rfl, ?_⟩) ?_ ?_
                          rotate_left
                          · intro w'
                            go_simp
                            with_reducible rfl
                          rotate_left
                          · simp only [Act.put, List.setIfInBounds_toArray, List.set_cons_zero, List.set_cons_succ, i64_w, i32_w]
                            rfl
                          refine pure_ (i := 4) (N := some 26) (v := ?_) (a' := ?_) #[true, true, true, true, true, false, false, false, false, false, false, false, false, false] rfl rfl (any_of HT_.out (by kernel_rfl)) (fun _ _ _ h => h) (Or.inl ⟨by rfl, ?_⟩) ?_ ?_
                          rotate_left
                          · intro w'
                            go_simp
                            with_reducible rfl
                          rotate_left
                          · simp only [Act.put, List.setIfInBounds_toArray, List.set_cons_zero, List.set_cons_succ, i64_w, i32_w]
                            rfl
                          refine pure_ (i := 5) (N := some 27) (v := ?_) (a' := ?_) #[true, true, true, true, true, true, false, false, false, false, false, false, false, false] rfl rfl (any_of HT_.out (by kernel_rfl)) (fun _ _ _ h => h) (Or.inl ⟨by rfl, ?_⟩) ?_ ?_
                          rotate_left
                          · intro w'
                            go_simp
                            with_reducible rfl
                          rotate_left
                          · simp only [Act.put, List.setIfInBounds_toArray, List.set_cons_zero, List.set_cons_succ, i64_w, i32_w]
                            rfl
                          refine pure_ (i := 7) (N := some 29) (v := ?_) (a' := ?_) #[true, true, true, true, true, true, false, true, false, false, false, false, false, false] rfl rfl (any_of HT_.out (by kernel_rfl)) (fun _ _ _ h => h) (Or.inl ⟨by rfl, ?_⟩) ?_ ?_
                          rotate_left
                          · intro w'
                            go_simp
                            with_reducible rfl
                          rotate_left
                          · simp only [Act.put, List.setIfInBounds_toArray, List.set_cons_zero, List.set_cons_succ, i64_w, i32_w]
                            rfl
                          refine pure_ (i := 8) (N := some 30) (v := ?_) (a' := ?_) #[true, true, true, true, true, true, false, true, true, false, false, false, false, false] rfl rfl (any_of HT_.out (by kernel_rfl)) (fun _ _ _ h => h) (Or.inl ⟨by rfl, ?_⟩) ?_ ?_
                          rotate_left
                          · intro w'
                            go_simp
                            with_reducible rfl
                          rotate_left
                          · simp only [Act.put, List.setIfInBounds_toArray, List.set_cons_zero, List.set_cons_succ, i64_w, i32_w]
                            rfl
                          refine pure_ (i := 9) (N := some 31) (v := ?_) (a' := ?_) #[true, true, true, true, true, true, false, true, true, true, false, false, false, false] rfl rfl (any_of HT_.out (by kernel_rfl)) (fun _ _ _ h => h) (Or.inl ⟨by rfl, ?_⟩) ?_ ?_
                          rotate_left
                          · intro w'
                            go_simp
                            with_reducible rfl
                          rotate_left
                          · simp only [Act.put, List.setIfInBounds_toArray, List.set_cons_zero, List.set_cons_succ, i64_w, i32_w]
                            rfl
                          refine pure_ (i := 10) (N := some 32) (v := ?_) (a' := ?_) #[true, true, true, true, true, true, false, true, true, true, true, false, false, false] rfl rfl (any_of HT_.out (by kernel_rfl)) (fun _ _ _ h => h) (Or.inl ⟨by rfl, ?_⟩) ?_ ?_
                          rotate_left
                          · intro w'
                            go_simp
                            with_reducible rfl
                          rotate_left
                          · simp only [Act.put, List.setIfInBounds_toArray, List.set_cons_zero, List.set_cons_succ, i64_w, i32_w]
                            rfl
                          refine take_ (i := 6) (N := some 28) (v := ?_) (a' := ?_) #[true, true, true, true, true, true, true, true, true, true, true, false, false, false] rfl rfl (take_ofW HT_.out HW_.out (by kernel_rfl)) (fun _ _ _ h => h) (Or.inl ⟨by rfl, ?_⟩) hHeld ?_ ?_
                          rotate_left
                          · rintro w' ⟨s0, s1, s2, s3, s4, s5⟩
                            go_simp
                            with_reducible rfl
                          rotate_left
                          · simp only [Act.put, List.setIfInBounds_toArray, List.set_cons_zero, List.set_cons_succ, i64_w, i32_w]
                            rfl
                          refine take_ (i := 11) (N := some 33) (v := ?_) (a' := ?_) #[true, true, true, true, true, true, true, true, true, true, true, true, false, false] rfl rfl (take_ofW HT_.out HW_.out (by kernel_rfl)) (fun _ _ _ h => h) (Or.inl ⟨by rfl, ?_⟩) hHeld ?_ ?_
                          rotate_left
                          · rintro w' ⟨s0, s1, s2, s3, s4, s5⟩
                            go_simp
                            with_reducible rfl
                          rotate_left
                          · simp only [Act.put, List.setIfInBounds_toArray, List.set_cons_zero, List.set_cons_succ, i64_w, i32_w]
                            rfl
                          refine one_ (i := 12) (N := some 34) #[true, true, true, true, true, true, true, true, true, true, true, true, true, false] rfl rfl (one_of HT_.out (by kernel_rfl)) (by decide) (fun K hK => ?_)
                          refine goes_ Try.func38 (by kernel_rfl) rfl #[.agg #[.int .i64 ((rd_T30 x5_2 x7_2).f0), .int .i64 ((rd_T30 x5_2 x7_2).f1), .int .i64 ((rd_T30 x5_2 x7_2).f2)], .agg #[.int .i64 ((rd_T30 x5_2 (ji12)).f0), .int .i64 ((rd_T30 x5_2 (ji12)).f1), .int .i64 ((rd_T30 x5_2 (ji12)).f2)]] (by rfl) rfl rfl (by (try simp only [List.map_toArray, List.map_cons, List.map_nil]); first | done | (simp only [hji12]; rfl) | rfl | (simp only [List.length_drop, List.length_take]; rfl)) ?_
                          with_reducible refine (metrolabref31_Before.calls ((rd_T30 x5_2 x7_2).f0) ((rd_T30 x5_2 x7_2).f1) ((rd_T30 x5_2 x7_2).f2) ((rd_T30 x5_2 (ji12)).f0) ((rd_T30 x5_2 (ji12)).f1) ((rd_T30 x5_2 (ji12)).f2) false _ A15.out).mono ?_
                          rintro e w25 ⟨rfl, hb⟩
                          have HS0_ := (hb.cell (World.block_lt_of_cell? _ _ (hHeld.1))).trans (hHeld.1)
                          have HS1_ := (hb.cell (World.block_lt_of_cell? _ _ (hHeld.2.1))).trans (hHeld.2.1)
                          have HS2_ := (hb.cell (World.block_lt_of_cell? _ _ (hHeld.2.2.1))).trans (hHeld.2.2.1)
                          have HS3_ := (hb.cell (World.block_lt_of_cell? _ _ (hHeld.2.2.2.1))).trans (hHeld.2.2.2.1)
                          have HS4_ := (hb.cell (World.block_lt_of_cell? _ _ (hHeld.2.2.2.2.1))).trans (hHeld.2.2.2.2.1)
                          have HS5_ := (hb.cell (World.block_lt_of_cell? _ _ (hHeld.2.2.2.2.2))).trans (hHeld.2.2.2.2.2)
                          refine ⟨_, rfl, ?_⟩
                          have n0_ := Aside0.mk (Kd.R_below (by (with_reducible repeat (first | apply Kd.R_alloc | apply Kd.R_drewN | apply Kd.R_drew)); exact HO_5.out) hb)
                          have n1_ := Aside0.mk (below_step (by repeat (first | (with_reducible first | exact HB.out | apply below_alloc | apply pw_below_drewN | apply below_drew1) | exact HB.out)) hb)
                          clear HO_5
                          clear HB
                          have HO_5 := n0_
                          have HB := n1_
                          clear n0_ n1_
                          (try clear hb)
                          (try clear hb2)
                          (try clear hk)
                          (try clear hi)
                          refine hK.out _ _ ⟨HS0_, HS1_, HS2_, HS3_, HS4_, HS5_⟩ (fun hHeld => ?_)
                          clear hK K
                          refine norm_ (a' := ?_) ?_ ?_
                          rotate_left
                          · show Act.put _ (some 34) _ = _
                            simp only [Act.put, List.setIfInBounds_toArray, List.set_cons_zero, List.set_cons_succ, i64_w, i32_w]
                            rfl
                          refine pure_ (i := 13) (N := some 35) (v := ?_) (a' := ?_) #[true, true, true, true, true, true, true, true, true, true, true, true, true, true] rfl rfl (any_of HT_.out (by kernel_rfl)) (fun _ _ _ h => h) (Or.inl ⟨by rfl, ?_⟩) ?_ ?_
                          rotate_left
                          · intro w'
                            go_simp
                            with_reducible rfl
                          rotate_left
                          · simp only [Act.put, List.setIfInBounds_toArray, List.set_cons_zero, List.set_cons_succ, i64_w, i32_w]
                            rfl
                          refine done_ (done_of HT_.out (by kernel_rfl)) ?_
                          try go_wp2
                          (try simp only [← hl5_2])
                          go_roundg k2
                          case measure => have := HK1.out; have := HK2.out; omega
                          case rel => exact ⟨(x5_2), (wrap64 (x6_1 + 1)), (by first | rfl | (simp; done) | (simp [*]; done)), H', ⟨by have := HK1.out; have := HK2.out; omega⟩, ⟨by (try simp only [hl5_2]); (with_reducible repeat (first | apply Kd.R_alloc | apply Kd.R_drewN | apply Kd.R_drew)); exact HO_5.out⟩, ⟨by repeat (first | (with_reducible first | exact HB.out | apply below_alloc | apply pw_below_drewN | apply below_drew1) | exact HB.out)⟩⟩
                      · rw [if_neg c14] at H
                        exact absurd H (by simp)
                    · rw [if_neg c13] at H
                      exact absurd H (by simp)
                  · rw [if_neg c11] at H
                    exact absurd H (by simp)
                · rw [if_neg c10] at H
                  exact absurd H (by simp)
              · rw [if_neg c9] at H
                have c9b0 : decide (0 < x7_2) = false := decide_eq_false c9
                clear c9
                have H' := Aside0.mk H
                clear H
                try go_wp2
                have n0_ := Aside0.mk (Kd.R_drew HO_5.out)
                have n1_ := Aside0.mk (below_drew1 HB.out)
                clear HO_5
                clear HB
                have HO_5 := n0_
                have HB := n1_
                clear n0_ n1_
                refine start_ (n := 14) (S := fun w' => True) (ds := []) #[false, false, false, false, false, false, false, false, false, false, false, false, false, false] (by kernel_rfl) rfl rfl trivial (fun hHeld => ?_); refine with_tabW metrolabref31_Sorted.tab9 metrolabref31_Sorted.bits9 (fun HT_ HW_ => ?_)
                generalize wr.drew = w26 at HO_5 HB hHeld ⊢
                refine pure_ (i := 0) (N := some 22) (v := ?_) (a' := ?_) #[true, false, false, false, false, false, false, false, false, false, false, false, false, false] rfl rfl (any_of HT_.out (by kernel_rfl)) (fun _ _ _ h => h) (Or.inl ⟨by rfl, ?_⟩) ?_ ?_
                rotate_left
                · intro w'
                  go_simp
                  with_reducible rfl
                rotate_left
                · simp only [Act.put, List.setIfInBounds_toArray, List.set_cons_zero, List.set_cons_succ, i64_w, i32_w]
                  rfl
                refine pure_ (i := 1) (N := some 23) (v := ?_) (a' := ?_) #[true, true, false, false, false, false, false, false, false, false, false, false, false, false] rfl rfl (any_of HT_.out (by kernel_rfl)) (fun _ _ _ h => h) (Or.inl ⟨by rfl, ?_⟩) ?_ ?_
                rotate_left
                · intro w'
                  go_simp
                  with_reducible rfl
                rotate_left
                · simp only [Act.put, List.setIfInBounds_toArray, List.set_cons_zero, List.set_cons_succ, i64_w, i32_w]
                  rfl
                refine pure_ (i := 2) (N := some 24) (v := ?_) (a' := ?_) #[true, true, true, false, false, false, false, false, false, false, false, false, false, false] rfl rfl (any_of HT_.out (by kernel_rfl)) (fun _ _ _ h => h) (Or.inl ⟨by rfl, ?_⟩) ?_ ?_
                rotate_left
                · intro w'
                  go_simp
                  with_reducible rfl
                rotate_left
                · simp only [Act.put, List.setIfInBounds_toArray, List.set_cons_zero, List.set_cons_succ, i64_w, i32_w]
                  rfl
                refine pure_ (i := 3) (N := some 25) (v := undef) (a' := ?_) #[true, true, true, true, false, false, false, false, false, false, false, false, false, false] rfl rfl (any_of HT_.out (by kernel_rfl)) (fun _ _ _ h => h) (Or.inr ⟨by rfl, rfl⟩) ?_ ?_
                rotate_left
                · simp only [Act.put, List.setIfInBounds_toArray, List.set_cons_zero, List.set_cons_succ, i64_w, i32_w]
                  rfl
                refine pure_ (i := 4) (N := some 26) (v := undef) (a' := ?_) #[true, true, true, true, true, false, false, false, false, false, false, false, false, false] rfl rfl (any_of HT_.out (by kernel_rfl)) (fun _ _ _ h => h) (Or.inr ⟨by rfl, rfl⟩) ?_ ?_
                rotate_left
                · simp only [Act.put, List.setIfInBounds_toArray, List.set_cons_zero, List.set_cons_succ, i64_w, i32_w]
                  rfl
                refine pure_ (i := 5) (N := some 27) (v := undef) (a' := ?_) #[true, true, true, true, true, true, false, false, false, false, false, false, false, false] rfl rfl (any_of HT_.out (by kernel_rfl)) (fun _ _ _ h => h) (Or.inr ⟨by rfl, rfl⟩) ?_ ?_
                rotate_left
                · simp only [Act.put, List.setIfInBounds_toArray, List.set_cons_zero, List.set_cons_succ, i64_w, i32_w]
                  rfl
                refine pure_ (i := 6) (N := some 28) (v := undef) (a' := ?_) #[true, true, true, true, true, true, true, false, false, false, false, false, false, false] rfl rfl (any_of HT_.out (by kernel_rfl)) (fun _ _ _ h => h) (Or.inr ⟨by rfl, rfl⟩) ?_ ?_
                rotate_left
                · simp only [Act.put, List.setIfInBounds_toArray, List.set_cons_zero, List.set_cons_succ, i64_w, i32_w]
                  rfl
                refine pure_ (i := 7) (N := some 29) (v := undef) (a' := ?_) #[true, true, true, true, true, true, true, true, false, false, false, false, false, false] rfl rfl (any_of HT_.out (by kernel_rfl)) (fun _ _ _ h => h) (Or.inr ⟨by rfl, rfl⟩) ?_ ?_
                rotate_left
                · simp only [Act.put, List.setIfInBounds_toArray, List.set_cons_zero, List.set_cons_succ, i64_w, i32_w]
                  rfl
                refine pure_ (i := 8) (N := some 30) (v := undef) (a' := ?_) #[true, true, true, true, true, true, true, true, true, false, false, false, false, false] rfl rfl (any_of HT_.out (by kernel_rfl)) (fun _ _ _ h => h) (Or.inr ⟨by rfl, rfl⟩) ?_ ?_
                rotate_left
                · simp only [Act.put, List.setIfInBounds_toArray, List.set_cons_zero, List.set_cons_succ, i64_w, i32_w]
                  rfl
                refine pure_ (i := 9) (N := some 31) (v := undef) (a' := ?_) #[true, true, true, true, true, true, true, true, true, true, false, false, false, false] rfl rfl (any_of HT_.out (by kernel_rfl)) (fun _ _ _ h => h) (Or.inr ⟨by rfl, rfl⟩) ?_ ?_
                rotate_left
                · simp only [Act.put, List.setIfInBounds_toArray, List.set_cons_zero, List.set_cons_succ, i64_w, i32_w]
                  rfl
                refine pure_ (i := 10) (N := some 32) (v := undef) (a' := ?_) #[true, true, true, true, true, true, true, true, true, true, true, false, false, false] rfl rfl (any_of HT_.out (by kernel_rfl)) (fun _ _ _ h => h) (Or.inr ⟨by rfl, rfl⟩) ?_ ?_
                rotate_left
                · simp only [Act.put, List.setIfInBounds_toArray, List.set_cons_zero, List.set_cons_succ, i64_w, i32_w]
                  rfl
                refine pure_ (i := 11) (N := some 33) (v := undef) (a' := ?_) #[true, true, true, true, true, true, true, true, true, true, true, true, false, false] rfl rfl (any_of HT_.out (by kernel_rfl)) (fun _ _ _ h => h) (Or.inr ⟨by rfl, rfl⟩) ?_ ?_
                rotate_left
                · simp only [Act.put, List.setIfInBounds_toArray, List.set_cons_zero, List.set_cons_succ, i64_w, i32_w]
                  rfl
                refine pure_ (i := 12) (N := some 34) (v := undef) (a' := ?_) #[true, true, true, true, true, true, true, true, true, true, true, true, true, false] rfl rfl (any_of HT_.out (by kernel_rfl)) (fun _ _ _ h => h) (Or.inr ⟨by rfl, rfl⟩) ?_ ?_
                rotate_left
                · simp only [Act.put, List.setIfInBounds_toArray, List.set_cons_zero, List.set_cons_succ, i64_w, i32_w]
                  rfl
                refine pure_ (i := 13) (N := some 35) (v := ?_) (a' := ?_) #[true, true, true, true, true, true, true, true, true, true, true, true, true, true] rfl rfl (any_of HT_.out (by kernel_rfl)) (fun _ _ _ h => h) (Or.inl ⟨by rfl, ?_⟩) ?_ ?_
                rotate_left
                · intro w'
                  go_simp
                  with_reducible rfl
                rotate_left
                · simp only [Act.put, List.setIfInBounds_toArray, List.set_cons_zero, List.set_cons_succ, i64_w, i32_w]
                  rfl
                refine done_ (done_of HT_.out (by kernel_rfl)) ?_
                try go_wp2
                (try simp only [← hl5_2])
                go_roundg k2
                case measure => have := HK1.out; have := HK2.out; omega
                case rel => exact ⟨(x5_2), (wrap64 (x6_1 + 1)), (by first | rfl | (simp; done) | (simp [*]; done)), H', ⟨by have := HK1.out; have := HK2.out; omega⟩, ⟨by (try simp only [hl5_2]); (with_reducible repeat (first | apply Kd.R_alloc | apply Kd.R_drewN | apply Kd.R_drew)); exact HO_5.out⟩, ⟨by repeat (first | (with_reducible first | exact HB.out | apply below_alloc | apply pw_below_drewN | apply below_drew1) | exact HB.out)⟩⟩
        · rw [if_neg c7] at H
          have c7b0 : decide (x6_1 < (x5_1.length : Int)) = false := decide_eq_false c7
          clear c7
          simp only [Option.some.injEq, Prod.mk.injEq] at H
          obtain ⟨rfl, rfl⟩ := H
          obtain ⟨Ao27, co27, eo27⟩ := Kd.R_slice HO_5.out
          subst eo27
          go_wp2
          go_ret2
          exact ⟨_, by first | rfl | (simp [errW_none, errW_some] <;> rfl) | (simp [*, errW_none, errW_some] <;> rfl), by (with_reducible repeat (first | apply Kd.R_alloc | apply Kd.R_drewN | apply Kd.R_drew)); exact HO_5.out, by repeat (first | (with_reducible first | exact HB.out | apply below_alloc | apply pw_below_drewN | apply below_drew1) | exact HB.out)⟩
  · rw [if_neg c3] at H
    have c3b0 : (t416 == 0) = false := beq_eq_false_iff_ne.mpr c3
    have c3b1 : (t416 != 0) = true := bne_iff_ne.mpr c3
    simp only [Option.some.injEq, Prod.mk.injEq] at H
    obtain ⟨rfl, rfl⟩ := H
    go_enter Try.func32, Try.ntmps32
    go_wp2_with (first | ((with_reducible refine gate_callee (f := 39) rfl ?_); refine goesL_ (some 9) rfl rfl Try.func39 (by kernel_rfl) rfl #[.slice A0 l0.length c0] rfl (by (try simp only [List.map_toArray, List.map_cons, List.map_nil]); first | done | rfl | (simp only [List.length_drop, List.length_take]; rfl)) ?_; (with_reducible refine (metrolabref07_CheckSpots.calls k _ _ l0 t416 _ ?side1 ?side2 A2.out).mono ?_); (case side1 => repeat (first | exact HR0.out | (with_reducible refine Kd.C_alloc ?_ _) | (with_reducible refine Kd.C_drewN ?_ _) | (with_reducible refine Kd.C_drew ?_))); (case side2 => exact HC0.out); rintro e w28 ⟨rfl, hb⟩; refine ⟨_, rfl, ?_⟩; have n0_ := Aside0.mk (below_step (by repeat (first | (with_reducible first | exact HB.out | apply below_alloc | apply pw_below_drewN | apply below_drew1) | exact HB.out)) hb); clear HB; have HB := n0_; clear n0_; (try clear hb); (try clear hb2); (try clear hk); (try clear hi)))
    go_ret2
    exact ⟨_, by first | rfl | (simp [errW_none, errW_some] <;> rfl) | (simp [*, errW_none, errW_some] <;> rfl), by first | exact Kd.R_nil _ _ _ _ _ | exact Kd.N_nil _ _ _ _ _ | exact Kd.V_nil _ _ _ _ _ | exact Kd.Q_nil _ _ _ _ _ | exact Kd.S_nil _ _ _ _ _, by repeat (first | (with_reducible first | exact HB.out | apply below_alloc | apply pw_below_drewN | apply below_drew1) | exact HB.out)⟩

/-! ### metrolabref07_TimesSpace: function 100 -/
def metrolabref07_TimesSpace.f (a0_0 : Int) (a0_1 : Int) (a0_2 : Int) (a1_0 : Int) (a1_1 : Int) (a1_2 : Int) : Option (Int) := some (wrap64 ((wrap64 ((wrap64 (a0_0 * a1_0)) + (wrap64 (a0_1 * a1_1)))) + (wrap64 (a0_2 * a1_2))))
set_option maxHeartbeats 8000000 in
set_option maxRecDepth 100000 in
theorem metrolabref07_TimesSpace.calls (a0_0 : Int) (a0_1 : Int) (a0_2 : Int) (a1_0 : Int) (a1_1 : Int) (a1_2 : Int) (r : Int) (w : World) (h : metrolabref07_TimesSpace.f a0_0 a0_1 a0_2 a1_0 a1_1 a1_2 = some r) :
    Calls Try.prog 100 #[.agg #[.int .i64 a0_0, .int .i64 a0_1, .int .i64 a0_2], .agg #[.int .i64 a1_0, .int .i64 a1_1, .int .i64 a1_2]] w fun e w' => e = .returned (.int .i64 r) ∧ Below w.heap.size w w' := by
  have hu30 := Try.underlying30
  have HB := Aside0.mk (Below.refl w.heap.size w)
  have H : (some (wrap64 ((wrap64 ((wrap64 (a0_0 * a1_0)) + (wrap64 (a0_1 * a1_1)))) + (wrap64 (a0_2 * a1_2))))) = some r := h
  clear h
  obtain rfl := Option.some.inj H
  go_enter Try.func100, Try.ntmps100
  go_wp2_with (first | ((with_reducible refine gate_dst (N := 2) rfl ?_); refine box_event ?hg (N := 2) ?hd (cs := #[.int .i64 a0_0, .int .i64 a0_1, .int .i64 a0_2]) (t := 30) ?hr ?_; (case hd => rfl); (case hg => rfl); (case hr => first | (go_simp; done) | (go_simp; rfl)); intro gb427 hg w3 hbox hb; have n0_ := Aside0.mk (below_step (by repeat (first | (with_reducible first | exact HB.out | apply below_alloc | apply pw_below_drewN | apply below_drew1) | exact HB.out)) hb); have n1_ := Aside0.mk (hbox); have n2_ := Aside0.mk ((by rw [hg]; exact (below_size (by repeat (first | (with_reducible first | exact HB.out | apply below_alloc | apply pw_below_drewN | apply below_drew1) | exact HB.out))) : w.heap.size ≤ gb427)); have n3_ := Aside0.mk ((by rw [hg]; exact (below_size (by repeat (first | (with_reducible first | exact HB.out | apply below_alloc | apply pw_below_drewN | apply below_drew1) | exact HB.out))) : w.heap.size ≤ gb427)); clear HB; have HB := n0_; have BK427 := n1_; have GW427 := n2_; have GE427 := n3_; clear n0_ n1_ n2_ n3_; clear hb hbox hg) | ((with_reducible refine gate_dst (N := 3) rfl ?_); refine box_event ?hg (N := 3) ?hd (cs := #[.int .i64 a1_0, .int .i64 a1_1, .int .i64 a1_2]) (t := 30) ?hr ?_; (case hd => rfl); (case hg => rfl); (case hr => first | (go_simp; done) | (go_simp; rfl)); intro gb428 hg w4 hbox hb; have n0_ := Aside0.mk (blk_below (g := gb427) (o := .cells #[.int .i64 a0_0, .int .i64 a0_1, .int .i64 a0_2] 30 (0, 0)) (by (with_reducible repeat (first | refine blk_drewN ?_ _ | refine blk_drew ?_ | refine blk_alloc ?_ _)); exact BK427.out) hb); have n1_ := Aside0.mk (below_step (by repeat (first | (with_reducible first | exact HB.out | apply below_alloc | apply pw_below_drewN | apply below_drew1 | refine below_set ?_ GE427.out) | exact HB.out)) hb); have n2_ := Aside0.mk (hbox); have n3_ := Aside0.mk ((by rw [hg]; exact (below_size (by repeat (first | (with_reducible first | exact HB.out | apply below_alloc | apply pw_below_drewN | apply below_drew1 | refine below_set ?_ GE427.out) | exact HB.out))) : w.heap.size ≤ gb428)); have n4_ := Aside0.mk ((by rw [hg]; exact (below_size (by repeat (first | (with_reducible first | exact HB.out | apply below_alloc | apply pw_below_drewN | apply below_drew1 | refine below_set ?_ GE427.out) | exact HB.out))) : w.heap.size ≤ gb428)); have n5_ := Aside0.mk ((by rw [hg]; exact Nat.ne_of_lt (blk_lt (g := gb427) (o := .cells #[.int .i64 a0_0, .int .i64 a0_1, .int .i64 a0_2] 30 (0, 0)) (by (with_reducible repeat (first | refine blk_drewN ?_ _ | refine blk_drew ?_ | refine blk_alloc ?_ _)); exact BK427.out)) : gb427 ≠ gb428)); have n6_ := Aside0.mk ((by rw [hg]; exact Nat.ne_of_gt (blk_lt (g := gb427) (o := .cells #[.int .i64 a0_0, .int .i64 a0_1, .int .i64 a0_2] 30 (0, 0)) (by (with_reducible repeat (first | refine blk_drewN ?_ _ | refine blk_drew ?_ | refine blk_alloc ?_ _)); exact BK427.out)) : gb428 ≠ gb427)); clear BK427; clear HB; have BK427 := n0_; have HB := n1_; have BK428 := n2_; have GW428 := n3_; have GE428 := n4_; have NB427_428 := n5_; have NB428_427 := n6_; clear n0_ n1_ n2_ n3_ n4_ n5_ n6_; clear hb hbox hg; have hnb5 := NB427_428.out; have hnc5 := NB428_427.out; have hcz6_0 : w4.cell? ⟨gb427, 0, none⟩ = some (.int .i64 a0_0) := (blk_cell BK427.out 0).trans rfl; have hcz6_1 : w4.cell? ⟨gb427, 1, none⟩ = some (.int .i64 a0_1) := (blk_cell BK427.out 1).trans rfl; have hcz6_2 : w4.cell? ⟨gb427, 2, none⟩ = some (.int .i64 a0_2) := (blk_cell BK427.out 2).trans rfl; have hfz6_0 := blk_frozen BK427.out 0; have hfz6_1 := blk_frozen BK427.out 1; have hfz6_2 := blk_frozen BK427.out 2; have hcz7_0 : w4.cell? ⟨gb428, 0, none⟩ = some (.int .i64 a1_0) := (blk_cell BK428.out 0).trans rfl; have hcz7_1 : w4.cell? ⟨gb428, 1, none⟩ = some (.int .i64 a1_1) := (blk_cell BK428.out 1).trans rfl; have hcz7_2 : w4.cell? ⟨gb428, 2, none⟩ = some (.int .i64 a1_2) := (blk_cell BK428.out 2).trans rfl; have hfz7_0 := blk_frozen BK428.out 0; have hfz7_1 := blk_frozen BK428.out 1; have hfz7_2 := blk_frozen BK428.out 2))
  go_ret
  exact ⟨by first | rfl | (simp [errW_none, errW_some] <;> rfl) | (simp [*, errW_none, errW_some] <;> rfl), by repeat (first | (with_reducible first | exact HB.out | apply below_alloc | apply pw_below_drewN | apply below_drew1 | refine below_set ?_ GE427.out | refine below_set ?_ GE428.out) | exact HB.out)⟩

/-! ### metrolabref07_Less: function 101 -/
def metrolabref07_Less.f (a0_0 : Int) (a0_1 : Int) (a0_2 : Int) (a1_0 : Int) (a1_1 : Int) (a1_2 : Int) : Option (Int × Int × Int) := some (wrap64 (a0_0 - a1_0), wrap64 (a0_1 - a1_1), wrap64 (a0_2 - a1_2))
set_option maxHeartbeats 8000000 in
set_option maxRecDepth 100000 in
theorem metrolabref07_Less.calls (a0_0 : Int) (a0_1 : Int) (a0_2 : Int) (a1_0 : Int) (a1_1 : Int) (a1_2 : Int) (r1 : Int) (r2 : Int) (r3 : Int) (w : World) (h : metrolabref07_Less.f a0_0 a0_1 a0_2 a1_0 a1_1 a1_2 = some (r1, r2, r3)) :
    Calls Try.prog 101 #[.agg #[.int .i64 a0_0, .int .i64 a0_1, .int .i64 a0_2], .agg #[.int .i64 a1_0, .int .i64 a1_1, .int .i64 a1_2]] w fun e w' => e = .returned (.agg #[.int .i64 r1, .int .i64 r2, .int .i64 r3]) ∧ Below w.heap.size w w' := by
  have hu30 := Try.underlying30
  have HB := Aside0.mk (Below.refl w.heap.size w)
  have H : (some (wrap64 (a0_0 - a1_0), wrap64 (a0_1 - a1_1), wrap64 (a0_2 - a1_2))) = some (r1, r2, r3) := h
  clear h
  simp only [Option.some.injEq, Prod.mk.injEq] at H
  obtain ⟨rfl, rfl, rfl⟩ := H
  go_enter Try.func101, Try.ntmps101
  go_wp2_with (first | ((with_reducible refine gate_dst (N := 2) rfl ?_); refine box_event ?hg (N := 2) ?hd (cs := #[.int .i64 a0_0, .int .i64 a0_1, .int .i64 a0_2]) (t := 30) ?hr ?_; (case hd => rfl); (case hg => rfl); (case hr => first | (go_simp; done) | (go_simp; rfl)); intro gb429 hg w3 hbox hb; have n0_ := Aside0.mk (below_step (by repeat (first | (with_reducible first | exact HB.out | apply below_alloc | apply pw_below_drewN | apply below_drew1) | exact HB.out)) hb); have n1_ := Aside0.mk (hbox); have n2_ := Aside0.mk ((by rw [hg]; exact (below_size (by repeat (first | (with_reducible first | exact HB.out | apply below_alloc | apply pw_below_drewN | apply below_drew1) | exact HB.out))) : w.heap.size ≤ gb429)); have n3_ := Aside0.mk ((by rw [hg]; exact (below_size (by repeat (first | (with_reducible first | exact HB.out | apply below_alloc | apply pw_below_drewN | apply below_drew1) | exact HB.out))) : w.heap.size ≤ gb429)); clear HB; have HB := n0_; have BK429 := n1_; have GW429 := n2_; have GE429 := n3_; clear n0_ n1_ n2_ n3_; clear hb hbox hg) | ((with_reducible refine gate_dst (N := 3) rfl ?_); refine box_event ?hg (N := 3) ?hd (cs := #[.int .i64 a1_0, .int .i64 a1_1, .int .i64 a1_2]) (t := 30) ?hr ?_; (case hd => rfl); (case hg => rfl); (case hr => first | (go_simp; done) | (go_simp; rfl)); intro gb430 hg w4 hbox hb; have n0_ := Aside0.mk (blk_below (g := gb429) (o := .cells #[.int .i64 a0_0, .int .i64 a0_1, .int .i64 a0_2] 30 (0, 0)) (by (with_reducible repeat (first | refine blk_drewN ?_ _ | refine blk_drew ?_ | refine blk_alloc ?_ _)); exact BK429.out) hb); have n1_ := Aside0.mk (below_step (by repeat (first | (with_reducible first | exact HB.out | apply below_alloc | apply pw_below_drewN | apply below_drew1 | refine below_set ?_ GE429.out) | exact HB.out)) hb); have n2_ := Aside0.mk (hbox); have n3_ := Aside0.mk ((by rw [hg]; exact (below_size (by repeat (first | (with_reducible first | exact HB.out | apply below_alloc | apply pw_below_drewN | apply below_drew1 | refine below_set ?_ GE429.out) | exact HB.out))) : w.heap.size ≤ gb430)); have n4_ := Aside0.mk ((by rw [hg]; exact (below_size (by repeat (first | (with_reducible first | exact HB.out | apply below_alloc | apply pw_below_drewN | apply below_drew1 | refine below_set ?_ GE429.out) | exact HB.out))) : w.heap.size ≤ gb430)); have n5_ := Aside0.mk ((by rw [hg]; exact Nat.ne_of_lt (blk_lt (g := gb429) (o := .cells #[.int .i64 a0_0, .int .i64 a0_1, .int .i64 a0_2] 30 (0, 0)) (by (with_reducible repeat (first | refine blk_drewN ?_ _ | refine blk_drew ?_ | refine blk_alloc ?_ _)); exact BK429.out)) : gb429 ≠ gb430)); have n6_ := Aside0.mk ((by rw [hg]; exact Nat.ne_of_gt (blk_lt (g := gb429) (o := .cells #[.int .i64 a0_0, .int .i64 a0_1, .int .i64 a0_2] 30 (0, 0)) (by (with_reducible repeat (first | refine blk_drewN ?_ _ | refine blk_drew ?_ | refine blk_alloc ?_ _)); exact BK429.out)) : gb430 ≠ gb429)); clear BK429; clear HB; have BK429 := n0_; have HB := n1_; have BK430 := n2_; have GW430 := n3_; have GE430 := n4_; have NB429_430 := n5_; have NB430_429 := n6_; clear n0_ n1_ n2_ n3_ n4_ n5_ n6_; clear hb hbox hg) | ((with_reducible refine gate_dst (N := 4) rfl ?_); refine box_event ?hg (N := 4) ?hd (cs := #[.int .i64 0, .int .i64 0, .int .i64 0]) (t := 30) ?hr ?_; (case hd => rfl); (case hg => rfl); (case hr => first | (go_simp; done) | (go_simp; rfl)); intro gb431 hg w5 hbox hb; have n0_ := Aside0.mk (blk_below (g := gb429) (o := .cells #[.int .i64 a0_0, .int .i64 a0_1, .int .i64 a0_2] 30 (0, 0)) (by (with_reducible repeat (first | refine blk_drewN ?_ _ | refine blk_drew ?_ | refine blk_alloc ?_ _)); exact BK429.out) hb); have n1_ := Aside0.mk (blk_below (g := gb430) (o := .cells #[.int .i64 a1_0, .int .i64 a1_1, .int .i64 a1_2] 30 (0, 0)) (by (with_reducible repeat (first | refine blk_drewN ?_ _ | refine blk_drew ?_ | refine blk_alloc ?_ _)); exact BK430.out) hb); have n2_ := Aside0.mk (below_step (by repeat (first | (with_reducible first | exact HB.out | apply below_alloc | apply pw_below_drewN | apply below_drew1 | refine below_set ?_ GE429.out | refine below_set ?_ GE430.out) | exact HB.out)) hb); have n3_ := Aside0.mk (hbox); have n4_ := Aside0.mk ((by rw [hg]; exact (below_size (by repeat (first | (with_reducible first | exact HB.out | apply below_alloc | apply pw_below_drewN | apply below_drew1 | refine below_set ?_ GE429.out | refine below_set ?_ GE430.out) | exact HB.out))) : w.heap.size ≤ gb431)); have n5_ := Aside0.mk ((by rw [hg]; exact (below_size (by repeat (first | (with_reducible first | exact HB.out | apply below_alloc | apply pw_below_drewN | apply below_drew1 | refine below_set ?_ GE429.out | refine below_set ?_ GE430.out) | exact HB.out))) : w.heap.size ≤ gb431)); have n6_ := Aside0.mk ((by rw [hg]; exact Nat.ne_of_lt (blk_lt (g := gb429) (o := .cells #[.int .i64 a0_0, .int .i64 a0_1, .int .i64 a0_2] 30 (0, 0)) (by (with_reducible repeat (first | refine blk_drewN ?_ _ | refine blk_drew ?_ | refine blk_alloc ?_ _)); exact BK429.out)) : gb429 ≠ gb431)); have n7_ := Aside0.mk ((by rw [hg]; exact Nat.ne_of_gt (blk_lt (g := gb429) (o := .cells #[.int .i64 a0_0, .int .i64 a0_1, .int .i64 a0_2] 30 (0, 0)) (by (with_reducible repeat (first | refine blk_drewN ?_ _ | refine blk_drew ?_ | refine blk_alloc ?_ _)); exact BK429.out)) : gb431 ≠ gb429)); have n8_ := Aside0.mk ((by rw [hg]; exact Nat.ne_of_lt (blk_lt (g := gb430) (o := .cells #[.int .i64 a1_0, .int .i64 a1_1, .int .i64 a1_2] 30 (0, 0)) (by (with_reducible repeat (first | refine blk_drewN ?_ _ | refine blk_drew ?_ | refine blk_alloc ?_ _)); exact BK430.out)) : gb430 ≠ gb431)); have n9_ := Aside0.mk ((by rw [hg]; exact Nat.ne_of_gt (blk_lt (g := gb430) (o := .cells #[.int .i64 a1_0, .int .i64 a1_1, .int .i64 a1_2] 30 (0, 0)) (by (with_reducible repeat (first | refine blk_drewN ?_ _ | refine blk_drew ?_ | refine blk_alloc ?_ _)); exact BK430.out)) : gb431 ≠ gb430)); clear BK429; clear BK430; clear HB; have BK429 := n0_; have BK430 := n1_; have HB := n2_; have BK431 := n3_; have GW431 := n4_; have GE431 := n5_; have NB429_431 := n6_; have NB431_429 := n7_; have NB430_431 := n8_; have NB431_430 := n9_; clear n0_ n1_ n2_ n3_ n4_ n5_ n6_ n7_ n8_ n9_; clear hb hbox hg; have hnb6 := NB429_430.out; have hnc6 := NB430_429.out; have hnb7 := NB429_431.out; have hnc7 := NB431_429.out; have hcz8_0 : w5.cell? ⟨gb429, 0, none⟩ = some (.int .i64 a0_0) := (blk_cell BK429.out 0).trans rfl; have hcz8_1 : w5.cell? ⟨gb429, 1, none⟩ = some (.int .i64 a0_1) := (blk_cell BK429.out 1).trans rfl; have hcz8_2 : w5.cell? ⟨gb429, 2, none⟩ = some (.int .i64 a0_2) := (blk_cell BK429.out 2).trans rfl; have hfz8_0 := blk_frozen BK429.out 0; have hfz8_1 := blk_frozen BK429.out 1; have hfz8_2 := blk_frozen BK429.out 2; have hnb9 := NB430_431.out; have hnc9 := NB431_430.out; have hcz10_0 : w5.cell? ⟨gb430, 0, none⟩ = some (.int .i64 a1_0) := (blk_cell BK430.out 0).trans rfl; have hcz10_1 : w5.cell? ⟨gb430, 1, none⟩ = some (.int .i64 a1_1) := (blk_cell BK430.out 1).trans rfl; have hcz10_2 : w5.cell? ⟨gb430, 2, none⟩ = some (.int .i64 a1_2) := (blk_cell BK430.out 2).trans rfl; have hfz10_0 := blk_frozen BK430.out 0; have hfz10_1 := blk_frozen BK430.out 1; have hfz10_2 := blk_frozen BK430.out 2; have hcz11_0 : w5.cell? ⟨gb431, 0, none⟩ = some (.int .i64 0) := (blk_cell BK431.out 0).trans rfl; have hcz11_1 : w5.cell? ⟨gb431, 1, none⟩ = some (.int .i64 0) := (blk_cell BK431.out 1).trans rfl; have hcz11_2 : w5.cell? ⟨gb431, 2, none⟩ = some (.int .i64 0) := (blk_cell BK431.out 2).trans rfl; have hfz11_0 := blk_frozen BK431.out 0; have hfz11_1 := blk_frozen BK431.out 1; have hfz11_2 := blk_frozen BK431.out 2))
  refine bodyPost_ret (results_cell_row rfl _ _ gb431 30 #[.int .i64 (wrap64 (a0_0 - a1_0)), .int .i64 (wrap64 (a0_1 - a1_1)), .int .i64 (wrap64 (a0_2 - a1_2))] (0, 0) _ rfl (by (with_reducible repeat (first | refine blk_drewN ?_ _ | refine blk_drew ?_ | refine blk_alloc ?_ _)); refine blk_put (cs := #[.int .i64 (wrap64 (a0_0 - a1_0)), .int .i64 (wrap64 (a0_1 - a1_1)), .int .i64 0]) ?_ 2 _ rfl; (with_reducible repeat (first | refine blk_drewN ?_ _ | refine blk_drew ?_ | refine blk_alloc ?_ _)); refine blk_put (cs := #[.int .i64 (wrap64 (a0_0 - a1_0)), .int .i64 0, .int .i64 0]) ?_ 1 _ rfl; (with_reducible repeat (first | refine blk_drewN ?_ _ | refine blk_drew ?_ | refine blk_alloc ?_ _)); refine blk_put (cs := #[.int .i64 0, .int .i64 0, .int .i64 0]) ?_ 0 _ rfl; (with_reducible repeat (first | refine blk_drewN ?_ _ | refine blk_drew ?_ | refine blk_alloc ?_ _)); exact BK431.out) Try.underlying30 rfl (by kernel_rfl)) rfl ?_
  exact ⟨by first | rfl | (simp [errW_none, errW_some] <;> rfl) | (simp [*, errW_none, errW_some] <;> rfl), by repeat (first | (with_reducible first | exact HB.out | apply below_alloc | apply pw_below_drewN | apply below_drew1 | refine below_set ?_ GE429.out | refine below_set ?_ GE430.out | refine below_set ?_ GE431.out) | exact HB.out)⟩

end Go.Proofs.Ytgfkodanekfekaa.X

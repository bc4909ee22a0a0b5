-- Made by wip/xprint.py for this claim: the kit's printer over the translation, with hand-proved functions in their places. Lean checks it.
import Derived.Test.YtgfkodanekfekaaX0
import Derived.Test.YtgfkodanekfekaaX4
import Derived.Test.YtgfkodanekfekaaX5
import Derived.Test.YtgfkodanekfekaaX6
import Derived.Test.YtgfkodanekfekaaX8
import Derived.Test.YtgfkodanekfekaaX10
namespace Go.Proofs.Ytgfkodanekfekaa.X
open Go.RowKit Go.Proofs.YtgfkodanekfekaaW.PrintWords Go.Proofs.YtgfkodanekfekaaW.PrintLast Go.Proofs.YtgfkodanekfekaaW.PrintMore
attribute [local go_sem] max2_int min2_int max_two min_two max_three min_three max_four min_four   -- for this text's walks alone
set_option linter.unusedVariables false
set_option linter.unusedSimpArgs false

/-! ### metrolabref31_Moved: function 62 -/
def metrolabref31_Moved.f (a0_0 : Int) (a0_1 : Int) (a0_2 : Int) (a1_0 : Int) (a1_1 : Int) (a1_2 : Int) : Option (Int × Int × Int) := some (wrap64 (a0_0 + a1_0), wrap64 (a0_1 + a1_1), wrap64 (a0_2 + a1_2))
set_option maxHeartbeats 8000000 in
set_option maxRecDepth 100000 in
theorem metrolabref31_Moved.calls (a0_0 : Int) (a0_1 : Int) (a0_2 : Int) (a1_0 : Int) (a1_1 : Int) (a1_2 : Int) (r1 : Int) (r2 : Int) (r3 : Int) (w : World) (h : metrolabref31_Moved.f a0_0 a0_1 a0_2 a1_0 a1_1 a1_2 = some (r1, r2, r3)) :
    Calls Try.prog 62 #[.agg #[.int .i64 a0_0, .int .i64 a0_1, .int .i64 a0_2], .agg #[.int .i64 a1_0, .int .i64 a1_1, .int .i64 a1_2]] w fun e w' => e = .returned (.agg #[.int .i64 r1, .int .i64 r2, .int .i64 r3]) ∧ Below w.heap.size w w' := by
  have hu30 := Try.underlying30
  have HB := Aside0.mk (Below.refl w.heap.size w)
  have H : (some (wrap64 (a0_0 + a1_0), wrap64 (a0_1 + a1_1), wrap64 (a0_2 + a1_2))) = some (r1, r2, r3) := h
  clear h
  simp only [Option.some.injEq, Prod.mk.injEq] at H
  obtain ⟨rfl, rfl, rfl⟩ := H
  go_enter Try.func62, Try.ntmps62
  go_wp2_with (first | ((with_reducible refine gate_dst (N := 2) rfl ?_); refine box_event ?hg (N := 2) ?hd (cs := #[.int .i64 a0_0, .int .i64 a0_1, .int .i64 a0_2]) (t := 30) ?hr ?_; (case hd => rfl); (case hg => rfl); (case hr => first | (go_simp; done) | (go_simp; rfl)); intro gb271 hg w3 hbox hb; have n0_ := Aside0.mk (below_step (by repeat (first | (with_reducible first | exact HB.out | apply below_alloc | apply pw_below_drewN | apply below_drew1) | exact HB.out)) hb); have n1_ := Aside0.mk (hbox); have n2_ := Aside0.mk ((by rw [hg]; exact (below_size (by repeat (first | (with_reducible first | exact HB.out | apply below_alloc | apply pw_below_drewN | apply below_drew1) | exact HB.out))) : w.heap.size ≤ gb271)); have n3_ := Aside0.mk ((by rw [hg]; exact (below_size (by repeat (first | (with_reducible first | exact HB.out | apply below_alloc | apply pw_below_drewN | apply below_drew1) | exact HB.out))) : w.heap.size ≤ gb271)); clear HB; have HB := n0_; have BK271 := n1_; have GW271 := n2_; have GE271 := n3_; clear n0_ n1_ n2_ n3_; clear hb hbox hg) | ((with_reducible refine gate_dst (N := 3) rfl ?_); refine box_event ?hg (N := 3) ?hd (cs := #[.int .i64 a1_0, .int .i64 a1_1, .int .i64 a1_2]) (t := 30) ?hr ?_; (case hd => rfl); (case hg => rfl); (case hr => first | (go_simp; done) | (go_simp; rfl)); intro gb272 hg w4 hbox hb; have n0_ := Aside0.mk (blk_below (g := gb271) (o := .cells #[.int .i64 a0_0, .int .i64 a0_1, .int .i64 a0_2] 30 (0, 0)) (by (with_reducible repeat (first | refine blk_drewN ?_ _ | refine blk_drew ?_ | refine blk_alloc ?_ _)); exact BK271.out) hb); have n1_ := Aside0.mk (below_step (by repeat (first | (with_reducible first | exact HB.out | apply below_alloc | apply pw_below_drewN | apply below_drew1 | refine below_set ?_ GE271.out) | exact HB.out)) hb); have n2_ := Aside0.mk (hbox); have n3_ := Aside0.mk ((by rw [hg]; exact (below_size (by repeat (first | (with_reducible first | exact HB.out | apply below_alloc | apply pw_below_drewN | apply below_drew1 | refine below_set ?_ GE271.out) | exact HB.out))) : w.heap.size ≤ gb272)); have n4_ := Aside0.mk ((by rw [hg]; exact (below_size (by repeat (first | (with_reducible first | exact HB.out | apply below_alloc | apply pw_below_drewN | apply below_drew1 | refine below_set ?_ GE271.out) | exact HB.out))) : w.heap.size ≤ gb272)); have n5_ := Aside0.mk ((by rw [hg]; exact Nat.ne_of_lt (blk_lt (g := gb271) (o := .cells #[.int .i64 a0_0, .int .i64 a0_1, .int .i64 a0_2] 30 (0, 0)) (by (with_reducible repeat (first | refine blk_drewN ?_ _ | refine blk_drew ?_ | refine blk_alloc ?_ _)); exact BK271.out)) : gb271 ≠ gb272)); have n6_ := Aside0.mk ((by rw [hg]; exact Nat.ne_of_gt (blk_lt (g := gb271) (o := .cells #[.int .i64 a0_0, .int .i64 a0_1, .int .i64 a0_2] 30 (0, 0)) (by (with_reducible repeat (first | refine blk_drewN ?_ _ | refine blk_drew ?_ | refine blk_alloc ?_ _)); exact BK271.out)) : gb272 ≠ gb271)); clear BK271; clear HB; have BK271 := n0_; have HB := n1_; have BK272 := n2_; have GW272 := n3_; have GE272 := n4_; have NB271_272 := n5_; have NB272_271 := n6_; clear n0_ n1_ n2_ n3_ n4_ n5_ n6_; clear hb hbox hg) | ((with_reducible refine gate_dst (N := 4) rfl ?_); refine box_event ?hg (N := 4) ?hd (cs := #[.int .i64 0, .int .i64 0, .int .i64 0]) (t := 30) ?hr ?_; (case hd => rfl); (case hg => rfl); (case hr => first | (go_simp; done) | (go_simp; rfl)); intro gb273 hg w5 hbox hb; have n0_ := Aside0.mk (blk_below (g := gb271) (o := .cells #[.int .i64 a0_0, .int .i64 a0_1, .int .i64 a0_2] 30 (0, 0)) (by (with_reducible repeat (first | refine blk_drewN ?_ _ | refine blk_drew ?_ | refine blk_alloc ?_ _)); exact BK271.out) hb); have n1_ := Aside0.mk (blk_below (g := gb272) (o := .cells #[.int .i64 a1_0, .int .i64 a1_1, .int .i64 a1_2] 30 (0, 0)) (by (with_reducible repeat (first | refine blk_drewN ?_ _ | refine blk_drew ?_ | refine blk_alloc ?_ _)); exact BK272.out) hb); have n2_ := Aside0.mk (below_step (by repeat (first | (with_reducible first | exact HB.out | apply below_alloc | apply pw_below_drewN | apply below_drew1 | refine below_set ?_ GE271.out | refine below_set ?_ GE272.out) | exact HB.out)) hb); have n3_ := Aside0.mk (hbox); have n4_ := Aside0.mk ((by rw [hg]; exact (below_size (by repeat (first | (with_reducible first | exact HB.out | apply below_alloc | apply pw_below_drewN | apply below_drew1 | refine below_set ?_ GE271.out | refine below_set ?_ GE272.out) | exact HB.out))) : w.heap.size ≤ gb273)); have n5_ := Aside0.mk ((by rw [hg]; exact (below_size (by repeat (first | (with_reducible first | exact HB.out | apply below_alloc | apply pw_below_drewN | apply below_drew1 | refine below_set ?_ GE271.out | refine below_set ?_ GE272.out) | exact HB.out))) : w.heap.size ≤ gb273)); have n6_ := Aside0.mk ((by rw [hg]; exact Nat.ne_of_lt (blk_lt (g := gb271) (o := .cells #[.int .i64 a0_0, .int .i64 a0_1, .int .i64 a0_2] 30 (0, 0)) (by (with_reducible repeat (first | refine blk_drewN ?_ _ | refine blk_drew ?_ | refine blk_alloc ?_ _)); exact BK271.out)) : gb271 ≠ gb273)); have n7_ := Aside0.mk ((by rw [hg]; exact Nat.ne_of_gt (blk_lt (g := gb271) (o := .cells #[.int .i64 a0_0, .int .i64 a0_1, .int .i64 a0_2] 30 (0, 0)) (by (with_reducible repeat (first | refine blk_drewN ?_ _ | refine blk_drew ?_ | refine blk_alloc ?_ _)); exact BK271.out)) : gb273 ≠ gb271)); have n8_ := Aside0.mk ((by rw [hg]; exact Nat.ne_of_lt (blk_lt (g := gb272) (o := .cells #[.int .i64 a1_0, .int .i64 a1_1, .int .i64 a1_2] 30 (0, 0)) (by (with_reducible repeat (first | refine blk_drewN ?_ _ | refine blk_drew ?_ | refine blk_alloc ?_ _)); exact BK272.out)) : gb272 ≠ gb273)); have n9_ := Aside0.mk ((by rw [hg]; exact Nat.ne_of_gt (blk_lt (g := gb272) (o := .cells #[.int .i64 a1_0, .int .i64 a1_1, .int .i64 a1_2] 30 (0, 0)) (by (with_reducible repeat (first | refine blk_drewN ?_ _ | refine blk_drew ?_ | refine blk_alloc ?_ _)); exact BK272.out)) : gb273 ≠ gb272)); clear BK271; clear BK272; clear HB; have BK271 := n0_; have BK272 := n1_; have HB := n2_; have BK273 := n3_; have GW273 := n4_; have GE273 := n5_; have NB271_273 := n6_; have NB273_271 := n7_; have NB272_273 := n8_; have NB273_272 := n9_; clear n0_ n1_ n2_ n3_ n4_ n5_ n6_ n7_ n8_ n9_; clear hb hbox hg; have hnb6 := NB271_272.out; have hnc6 := NB272_271.out; have hnb7 := NB271_273.out; have hnc7 := NB273_271.out; have hcz8_0 : w5.cell? ⟨gb271, 0, none⟩ = some (.int .i64 a0_0) := (blk_cell BK271.out 0).trans rfl; have hcz8_1 : w5.cell? ⟨gb271, 1, none⟩ = some (.int .i64 a0_1) := (blk_cell BK271.out 1).trans rfl; have hcz8_2 : w5.cell? ⟨gb271, 2, none⟩ = some (.int .i64 a0_2) := (blk_cell BK271.out 2).trans rfl; have hfz8_0 := blk_frozen BK271.out 0; have hfz8_1 := blk_frozen BK271.out 1; have hfz8_2 := blk_frozen BK271.out 2; have hnb9 := NB272_273.out; have hnc9 := NB273_272.out; have hcz10_0 : w5.cell? ⟨gb272, 0, none⟩ = some (.int .i64 a1_0) := (blk_cell BK272.out 0).trans rfl; have hcz10_1 : w5.cell? ⟨gb272, 1, none⟩ = some (.int .i64 a1_1) := (blk_cell BK272.out 1).trans rfl; have hcz10_2 : w5.cell? ⟨gb272, 2, none⟩ = some (.int .i64 a1_2) := (blk_cell BK272.out 2).trans rfl; have hfz10_0 := blk_frozen BK272.out 0; have hfz10_1 := blk_frozen BK272.out 1; have hfz10_2 := blk_frozen BK272.out 2; have hcz11_0 : w5.cell? ⟨gb273, 0, none⟩ = some (.int .i64 0) := (blk_cell BK273.out 0).trans rfl; have hcz11_1 : w5.cell? ⟨gb273, 1, none⟩ = some (.int .i64 0) := (blk_cell BK273.out 1).trans rfl; have hcz11_2 : w5.cell? ⟨gb273, 2, none⟩ = some (.int .i64 0) := (blk_cell BK273.out 2).trans rfl; have hfz11_0 := blk_frozen BK273.out 0; have hfz11_1 := blk_frozen BK273.out 1; have hfz11_2 := blk_frozen BK273.out 2))
  refine bodyPost_ret (results_cell_row rfl _ _ gb273 30 #[.int .i64 (wrap64 (a0_0 + a1_0)), .int .i64 (wrap64 (a0_1 + a1_1)), .int .i64 (wrap64 (a0_2 + a1_2))] (0, 0) _ rfl (by (with_reducible repeat (first | refine blk_drewN ?_ _ | refine blk_drew ?_ | refine blk_alloc ?_ _)); refine blk_put (cs := #[.int .i64 (wrap64 (a0_0 + a1_0)), .int .i64 (wrap64 (a0_1 + a1_1)), .int .i64 0]) ?_ 2 _ rfl; (with_reducible repeat (first | refine blk_drewN ?_ _ | refine blk_drew ?_ | refine blk_alloc ?_ _)); refine blk_put (cs := #[.int .i64 (wrap64 (a0_0 + a1_0)), .int .i64 0, .int .i64 0]) ?_ 1 _ rfl; (with_reducible repeat (first | refine blk_drewN ?_ _ | refine blk_drew ?_ | refine blk_alloc ?_ _)); refine blk_put (cs := #[.int .i64 0, .int .i64 0, .int .i64 0]) ?_ 0 _ rfl; (with_reducible repeat (first | refine blk_drewN ?_ _ | refine blk_drew ?_ | refine blk_alloc ?_ _)); exact BK273.out) Try.underlying30 rfl (by kernel_rfl)) rfl ?_
  exact ⟨by first | rfl | (simp [errW_none, errW_some] <;> rfl) | (simp [*, errW_none, errW_some] <;> rfl), by repeat (first | (with_reducible first | exact HB.out | apply below_alloc | apply pw_below_drewN | apply below_drew1 | refine below_set ?_ GE271.out | refine below_set ?_ GE272.out | refine below_set ?_ GE273.out) | exact HB.out)⟩

/-! ### metrolabref31_Shift: function 26 -/
def metrolabref31_Shift.l0 : Nat → List (S30) → List (S30) → Int → Int → Int → Int → Option ((List (S30)) × Int)
  | 0, _, _, _, _, _, _ => none
  | k + 1, x0, x7, x8, x275000, x275001, x275002 => if x8 < (x0.length : Int) then (if 0 ≤ x8 then ((metrolabref31_Moved.f ((rd_T30 x0 x8).f0) ((rd_T30 x0 x8).f1) ((rd_T30 x0 x8).f2) x275000 x275001 x275002).bind fun bt278 => ((metrolabref07_RightSpot.f bt278.1 bt278.2.1 bt278.2.2).bind fun t282 => (if t282 = true then (if x7.length < 5864062014805 then (metrolabref31_Shift.l0 k x0 (x7 ++ [(⟨bt278.1, bt278.2.1, bt278.2.2⟩ : S30)]) (wrap64 (x8 + 1)) x275000 x275001 x275002) else (none)) else (some (([] : List (S30)), 11))))) else (none)) else (some (x7, 0))
def metrolabref31_Shift.f (k : Nat) (l0 : List (S30)) (a1_0 : Int) (a1_1 : Int) (a1_2 : Int) : Option ((List (S30)) × Int) := (metrolabref07_CheckSpots.f k l0).bind fun t275 => (if t275 = 0 then ((metrolabref07_RightSpot.f a1_0 a1_1 a1_2).bind fun t276 => (if t276 = true then (metrolabref31_Shift.l0 k l0 ([] : List (S30)) 0 a1_0 a1_1 a1_2) else (some (([] : List (S30)), 2)))) else (some (([] : List (S30)), t275)))
theorem metrolabref31_Shift.mono_l : ∀ k, (∀ y0 y1 y2 y3 y4 y5, LeO (metrolabref31_Shift.l0 k y0 y1 y2 y3 y4 y5) (metrolabref31_Shift.l0 (k + 1) y0 y1 y2 y3 y4 y5))
  | 0 => fun _ _ _ _ _ _ r h => by simp [metrolabref31_Shift.l0] at h
  | k + 1 => by
    have ih0 := metrolabref31_Shift.mono_l k
    · intro y0 y1 y2 y3 y4 y5
      unfold metrolabref31_Shift.l0
      repeat' first
      | (with_reducible exact ih0 _ _ _ _ _ _)
      | (with_reducible exact metrolabref07_CheckSpots.mono _ _)
      | (with_reducible exact LeO.refl _)
      | (with_reducible exact LeO.none _)
      | (with_reducible refine LeO.ite ?_ ?_)
      | (with_reducible refine LeO.bind ?_ (fun _ => ?_))
      | exact ih0 _ _ _ _ _ _
      | exact metrolabref07_CheckSpots.mono _ _
      | exact LeO.none _
      | refine LeO.ite ?_ ?_
      | refine LeO.bind ?_ (fun _ => ?_)
theorem metrolabref31_Shift.mono : ∀ a0 a1 a2 a3 k, LeO (metrolabref31_Shift.f k a0 a1 a2 a3) (metrolabref31_Shift.f (k + 1) a0 a1 a2 a3) := by
  intro a0 a1 a2 a3 k
  have ih0 := metrolabref31_Shift.mono_l k
  unfold metrolabref31_Shift.f
  repeat' first
      | (with_reducible exact ih0 _ _ _ _ _ _)
      | (with_reducible exact metrolabref07_CheckSpots.mono _ _)
      | (with_reducible exact LeO.refl _)
      | (with_reducible exact LeO.none _)
      | (with_reducible refine LeO.ite ?_ ?_)
      | (with_reducible refine LeO.bind ?_ (fun _ => ?_))
      | exact ih0 _ _ _ _ _ _
      | exact metrolabref07_CheckSpots.mono _ _
      | exact LeO.none _
      | refine LeO.ite ?_ ?_
      | refine LeO.bind ?_ (fun _ => ?_)
def metrolabref31_Shift.T10 : Bool × List (List Nat × List Nat) := (true, [([], []), ([], []), ([0, 1], [0, 1]), ([2], [2]), ([], []), ([3, 4], [3, 4]), ([], []), ([6, 5, 5, 0, 1, 2, 3, 4, 5, 6], [5, 6])])
def metrolabref31_Shift.B10 : List Nat := [0, 0, 3, 7, 0, 31, 0, 127]
theorem metrolabref31_Shift.tab10 : rtab .any (opsOf Try.f26 10) = metrolabref31_Shift.T10 := by kernel_rfl
theorem metrolabref31_Shift.bits10 : waitsOk metrolabref31_Shift.T10.2 metrolabref31_Shift.B10 = true := by kernel_rfl
set_option maxHeartbeats 8000000 in
set_option maxRecDepth 100000 in
theorem metrolabref31_Shift.calls (k : Nat) (A0 : Option Addr) (c0 : Nat) (l0 : List (S30)) (a1_0 : Int) (a1_1 : Int) (a1_2 : Int) (r1 : List (S30)) (r2 : Int) (w : World) (hr0 : Kd.C k30 w A0 l0.length l0) (hc0 : l0.length ≤ c0) (h : metrolabref31_Shift.f k l0 a1_0 a1_1 a1_2 = some (r1, r2)) :
    Calls Try.prog 26 #[.slice A0 l0.length c0, .agg #[.int .i64 a1_0, .int .i64 a1_1, .int .i64 a1_2]] w fun e w' => ∃ v0_ : Value, e = .returned (.tuple #[v0_, .int .i64 r2]) ∧ Kd.R k30 30 w' w.heap.size (fun _ => True) v0_ r1 ∧ Below w.heap.size w w' := by
  have hu30 := Try.underlying30
  have HR0 := Aside0.mk hr0
  have HC0 := Aside0.mk hc0
  clear hr0 hc0
  have HB := Aside0.mk (Below.refl w.heap.size w)
  have H : ((metrolabref07_CheckSpots.f k l0).bind fun t275 => (if t275 = 0 then ((metrolabref07_RightSpot.f a1_0 a1_1 a1_2).bind fun t276 => (if t276 = true then (metrolabref31_Shift.l0 k l0 ([] : List (S30)) 0 a1_0 a1_1 a1_2) else (some (([] : List (S30)), 2)))) else (some (([] : List (S30)), t275)))) = some (r1, r2) := h
  clear h
  replace H := Option.bind_eq_some_iff.mp H
  obtain ⟨t275, A30, H⟩ := H
  replace H : (if t275 = 0 then ((metrolabref07_RightSpot.f a1_0 a1_1 a1_2).bind fun t276 => (if t276 = true then (metrolabref31_Shift.l0 k l0 ([] : List (S30)) 0 a1_0 a1_1 a1_2) else (some (([] : List (S30)), 2)))) else (some (([] : List (S30)), t275))) = some (r1, r2) := H
  have A3 := Aside0.mk A30
  clear A30
  by_cases c4 : t275 = 0
  · rw [if_pos c4] at H
    have c4b0 : (t275 == 0) = true := beq_iff_eq.mpr c4
    have c4b1 : (t275 != 0) = false := bne_eq_false_iff_eq.mpr c4
    clear c4
    replace H := Option.bind_eq_some_iff.mp H
    obtain ⟨t276, A50, H⟩ := H
    replace H : (if t276 = true then (metrolabref31_Shift.l0 k l0 ([] : List (S30)) 0 a1_0 a1_1 a1_2) else (some (([] : List (S30)), 2))) = some (r1, r2) := H
    have A5 := Aside0.mk A50
    clear A50
    by_cases c6 : t276 = true
    · subst c6
      have H1 : (metrolabref31_Shift.l0 k l0 ([] : List (S30)) 0 a1_0 a1_1 a1_2) = some (r1, r2) := by rw [if_pos rfl] at H; exact H
      clear H
      have H := H1
      clear H1
      have H' := Aside0.mk H
      clear H
      go_enter Try.func26, Try.ntmps26
      go_wp2_with (first | ((with_reducible refine gate_dst (N := 3) rfl ?_); refine box_event ?hg (N := 3) ?hd (cs := #[.int .i64 a1_0, .int .i64 a1_1, .int .i64 a1_2]) (t := 30) ?hr ?_; (case hd => rfl); (case hg => rfl); (case hr => first | (go_simp; done) | (go_simp; rfl)); intro gb274 hg w7 hbox hb; have n0_ := Aside0.mk (below_step (by repeat (first | (with_reducible first | exact HB.out | apply below_alloc | apply pw_below_drewN | apply below_drew1) | exact HB.out)) hb); have n1_ := Aside0.mk (hbox); have n2_ := Aside0.mk ((by rw [hg]; exact (below_size (by repeat (first | (with_reducible first | exact HB.out | apply below_alloc | apply pw_below_drewN | apply below_drew1) | exact HB.out))) : w.heap.size ≤ gb274)); have n3_ := Aside0.mk ((by rw [hg]; exact (below_size (by repeat (first | (with_reducible first | exact HB.out | apply below_alloc | apply pw_below_drewN | apply below_drew1) | exact HB.out))) : w.heap.size ≤ gb274)); clear HB; have HB := n0_; have BK274 := n1_; have GW274 := n2_; have GE274 := n3_; clear n0_ n1_ n2_ n3_; clear hb hbox hg) | ((with_reducible refine gate_callee (f := 39) rfl ?_); refine goesL_ (some 11) rfl rfl Try.func39 (by kernel_rfl) rfl #[.slice A0 l0.length c0] rfl (by (try simp only [List.map_toArray, List.map_cons, List.map_nil]); first | done | rfl | (simp only [List.length_drop, List.length_take]; rfl)) ?_; (with_reducible refine (metrolabref07_CheckSpots.calls k _ _ l0 t275 _ ?side1 ?side2 A3.out).mono ?_); (case side1 => repeat (first | exact (Kd.C_below HR0.out HB.out) | (with_reducible refine Kd.C_alloc ?_ _) | (with_reducible refine Kd.C_drewN ?_ _) | (with_reducible refine Kd.C_drew ?_))); (case side2 => exact HC0.out); rintro e w8 ⟨rfl, hb⟩; refine ⟨_, rfl, ?_⟩; have n0_ := Aside0.mk (blk_below (g := gb274) (o := .cells #[.int .i64 a1_0, .int .i64 a1_1, .int .i64 a1_2] 30 (0, 0)) (by (with_reducible repeat (first | refine blk_drewN ?_ _ | refine blk_drew ?_ | refine blk_alloc ?_ _)); exact BK274.out) hb); have n1_ := Aside0.mk (below_step (by repeat (first | (with_reducible first | exact HB.out | apply below_alloc | apply pw_below_drewN | apply below_drew1 | refine below_set ?_ GE274.out) | exact HB.out)) hb); clear BK274; clear HB; have BK274 := n0_; have HB := n1_; clear n0_ n1_; (try clear hb); (try clear hb2); (try clear hk); (try clear hi); have hcz9_0 : w8.cell? ⟨gb274, 0, none⟩ = some (.int .i64 a1_0) := (blk_cell BK274.out 0).trans rfl; have hcz9_1 : w8.cell? ⟨gb274, 1, none⟩ = some (.int .i64 a1_1) := (blk_cell BK274.out 1).trans rfl; have hcz9_2 : w8.cell? ⟨gb274, 2, none⟩ = some (.int .i64 a1_2) := (blk_cell BK274.out 2).trans rfl; have hfz9_0 := blk_frozen BK274.out 0; have hfz9_1 := blk_frozen BK274.out 1; have hfz9_2 := blk_frozen BK274.out 2) | ((with_reducible refine gate_callee (f := 61) rfl ?_); refine goesL_ (some 16) rfl rfl Try.func61 (by kernel_rfl) rfl #[.agg #[.int .i64 a1_0, .int .i64 a1_1, .int .i64 a1_2]] rfl (by (try simp only [List.map_toArray, List.map_cons, List.map_nil]); first | done | rfl | (simp only [List.length_drop, List.length_take]; rfl)) ?_; (with_reducible refine (metrolabref07_RightSpot.calls a1_0 a1_1 a1_2 true _ A5.out).mono ?_); rintro e w10 ⟨rfl, hb⟩; refine ⟨_, rfl, ?_⟩; have n0_ := Aside0.mk (blk_below (g := gb274) (o := .cells #[.int .i64 a1_0, .int .i64 a1_1, .int .i64 a1_2] 30 (0, 0)) (by (with_reducible repeat (first | refine blk_drewN ?_ _ | refine blk_drew ?_ | refine blk_alloc ?_ _)); exact BK274.out) hb); have n1_ := Aside0.mk (below_step (by repeat (first | (with_reducible first | exact HB.out | apply below_alloc | apply pw_below_drewN | apply below_drew1 | refine below_set ?_ GE274.out) | exact HB.out)) hb); clear BK274; clear HB; have BK274 := n0_; have HB := n1_; clear n0_ n1_; (try clear hb); (try clear hb2); (try clear hk); (try clear hi)))
      go_loopg [7, 8] k (fun kq v7 v8 w' => ∃ (x7_1 : List (S30)) (x8_1 : Int), v8 = .int .i64 x8_1 ∧ Aside0 (metrolabref31_Shift.l0 kq l0 x7_1 x8_1 a1_0 a1_1 a1_2 = some (r1, r2)) ∧ Aside0 (kq ≤ k) ∧ Aside0 (Kd.R k30 30 w' w.heap.size (fun k_ => k_ ≠ gb274) v7 x7_1) ∧ Aside0 (w'.heap[gb274]? = some (.cells #[.int .i64 a1_0, .int .i64 a1_1, .int .i64 a1_2] 30 (0, 0))) ∧ Aside0 (Below w.heap.size w w'))
      case atStart => exact ⟨(([] : List (S30))), (0), (by first | rfl | (simp; done) | (simp [*]; done)), H', ⟨Nat.le_refl _⟩, ⟨by first | exact Kd.R_nil _ _ _ _ _ | exact Kd.N_nil _ _ _ _ _ | exact Kd.V_nil _ _ _ _ _ | exact Kd.Q_nil _ _ _ _ _ | exact Kd.S_nil _ _ _ _ _⟩, ⟨by (with_reducible repeat (first | refine blk_drewN ?_ _ | refine blk_drew ?_ | refine blk_alloc ?_ _)); exact BK274.out⟩, ⟨by repeat (first | (with_reducible first | exact HB.out | apply below_alloc | apply pw_below_drewN | apply below_drew1 | refine below_set ?_ GE274.out) | exact HB.out)⟩⟩
      case round =>
        clear H'
        try clear c2
        try clear p2
        try clear c3
        try clear c4
        try clear c4b0
        try clear c4b1
        try clear c6
        try clear hcz9_0
        try clear hcz9_1
        try clear hcz9_2
        try clear hfz9_0
        try clear hfz9_1
        try clear hfz9_2
        obtain ⟨x7_1, x8_1, rfl, HA, HK1, HO_7, BK274, HB⟩ := hrel
        cases gk with
        | zero => exact absurd HA.out (by simp [metrolabref31_Shift.l0])
        | succ k1 =>
          have H := HA.out
          clear HA
          simp only [metrolabref31_Shift.l0] at H
          by_cases c11 : x8_1 < (l0.length : Int)
          · rw [if_pos c11] at H
            have c11b0 : decide (x8_1 < (l0.length : Int)) = true := decide_eq_true c11
            clear c11
            by_cases c12 : 0 ≤ x8_1
            · rw [if_pos c12] at H
              have c12b0 : decide (0 ≤ x8_1) = true := decide_eq_true c12
              clear c12
              replace H := Option.bind_eq_some_iff.mp H
              obtain ⟨⟨t278, t279, t280⟩, A130, H⟩ := H
              replace H : ((metrolabref07_RightSpot.f t278 t279 t280).bind fun t282 => (if t282 = true then (if x7_1.length < 5864062014805 then (metrolabref31_Shift.l0 k1 l0 (x7_1 ++ [(⟨t278, t279, t280⟩ : S30)]) (wrap64 (x8_1 + 1)) a1_0 a1_1 a1_2) else (none)) else (some (([] : List (S30)), 11)))) = some (r1, r2) := H
              have A13 := Aside0.mk A130
              clear A130
              replace H := Option.bind_eq_some_iff.mp H
              obtain ⟨t282, A140, H⟩ := H
              replace H : (if t282 = true then (if x7_1.length < 5864062014805 then (metrolabref31_Shift.l0 k1 l0 (x7_1 ++ [(⟨t278, t279, t280⟩ : S30)]) (wrap64 (x8_1 + 1)) a1_0 a1_1 a1_2) else (none)) else (some (([] : List (S30)), 11))) = some (r1, r2) := H
              have A14 := Aside0.mk A140
              clear A140
              by_cases c15 : t282 = true
              · subst c15
                have H1 : (if x7_1.length < 5864062014805 then (metrolabref31_Shift.l0 k1 l0 (x7_1 ++ [(⟨t278, t279, t280⟩ : S30)]) (wrap64 (x8_1 + 1)) a1_0 a1_1 a1_2) else (none)) = some (r1, r2) := by rw [if_pos rfl] at H; exact H
                clear H
                have H := H1
                clear H1
                by_cases c16 : x7_1.length < 5864062014805
                · rw [if_pos c16] at H
                  have LMc16 := Aside0.mk c16
                  clear c16
                  obtain ⟨y283, hy283⟩ : ∃ y_ : List (S30), y_ = (x7_1 ++ [(⟨t278, t279, t280⟩ : S30)]) := ⟨_, rfl⟩
                  replace H : (metrolabref31_Shift.l0 k1 l0 y283 (wrap64 (x8_1 + 1)) a1_0 a1_1 a1_2) = some (r1, r2) := by first | (rw [hy283]; with_reducible exact H) | (have H2_ := (Option.bind_some _ _).symm.trans H; rw [hy283]; with_reducible exact H2_) | (have H2_ := (Option.bind_some _ _).symm.trans H; with_reducible exact H2_) | with_reducible exact H | (rw [hy283]; exact H) | exact H
                  have Ny283 := Aside0.mk hy283
                  clear hy283
                  have H' := Aside0.mk H
                  clear H
                  try go_wp2
                  have n0_ := Aside0.mk (Kd.R_drew HO_7.out)
                  have n1_ := Aside0.mk (blk_drew BK274.out)
                  have n2_ := Aside0.mk (below_drew1 HB.out)
                  clear HO_7
                  clear BK274
                  clear HB
                  have HO_7 := n0_
                  have BK274 := n1_
                  have HB := n2_
                  clear n0_ n1_ n2_
                  have p277 : 0 ≤ (x8_1 : Int) := of_decide_eq_true (by first | (with_reducible assumption) | assumption)
                  have q277 : x8_1 < (l0.length : Int) := of_decide_eq_true (by first | (with_reducible assumption) | assumption)
                  obtain ⟨ad277, e277, hx277_0, hx277_1, hx277_2⟩ := at_T30 HR0.out x8_1 p277 q277
                  have hw277_2 := hx277_2
                  have hw277_1 := hx277_1
                  have hw277_0 := hx277_0
                  cases e277
                  replace hx277_0 := (HB.out.cell (World.block_lt_of_cell? w _ hx277_0)).trans hx277_0
                  replace hx277_1 := (HB.out.cell (World.block_lt_of_cell? w _ hx277_1)).trans hx277_1
                  replace hx277_2 := (HB.out.cell (World.block_lt_of_cell? w _ hx277_2)).trans hx277_2
                  replace p277 := eq_true p277
                  replace q277 := eq_true q277
                  refine start_ (n := 8) (S := fun w' => w'.cell? ⟨gb274, 0, none⟩ = some (.int .i64 a1_0) ∧ w'.cell? ⟨gb274, 1, none⟩ = some (.int .i64 a1_1) ∧ w'.cell? ⟨gb274, 2, none⟩ = some (.int .i64 a1_2) ∧ w'.cell? (ad277.add ((x8_1).toNat * 3)) = some (.int .i64 ((rd_T30 l0 x8_1).f0)) ∧ w'.cell? ⟨(ad277.add ((x8_1).toNat * 3)).block, (ad277.add ((x8_1).toNat * 3)).off + 1, none⟩ = some (.int .i64 ((rd_T30 l0 x8_1).f1)) ∧ w'.cell? ⟨(ad277.add ((x8_1).toNat * 3)).block, (ad277.add ((x8_1).toNat * 3)).off + 2, none⟩ = some (.int .i64 ((rd_T30 l0 x8_1).f2))) (ds := []) #[false, false, false, false, false, false, false, false] (by kernel_rfl) rfl rfl ⟨(blk_cell BK274.out 0).trans rfl, (blk_cell BK274.out 1).trans rfl, (blk_cell BK274.out 2).trans rfl, ((HB.out.cell (World.block_lt_of_cell? w _ hw277_0)).trans hw277_0), ((HB.out.cell (World.block_lt_of_cell? w _ hw277_1)).trans hw277_1), ((HB.out.cell (World.block_lt_of_cell? w _ hw277_2)).trans hw277_2)⟩ (fun hHeld => ?_); refine with_tabW metrolabref31_Shift.tab10 metrolabref31_Shift.bits10 (fun HT_ HW_ => ?_)
                  generalize wr.drew = w17 at HO_7 BK274 HB hx277_0 hx277_1 hx277_2 hHeld ⊢
                  refine pure_ (i := 0) (N := some 24) (v := ?_) (a' := ?_) #[true, false, false, false, false, false, false, false] rfl rfl (any_of HT_.out (by kernel_rfl)) (fun _ _ _ h => h) (Or.inl ⟨by rfl, ?_⟩) ?_ ?_
                  rotate_left
                  · intro w'
                    go_simp
                    with_reducible rfl
                  rotate_left
                  · simp only [Act.put, List.setIfInBounds_toArray, List.set_cons_zero, List.set_cons_succ, i64_w, i32_w]
                    rfl
                  refine pure_ (i := 1) (N := some 25) (v := ?_) (a' := ?_) #[true, true, false, false, false, false, false, false] rfl rfl (any_of HT_.out (by kernel_rfl)) (fun _ _ _ h => h) (Or.inl ⟨by rfl, ?_⟩) ?_ ?_
                  rotate_left
                  · intro w'
                    go_simp
                    with_reducible rfl
                  rotate_left
                  · simp only [Act.put, List.setIfInBounds_toArray, List.set_cons_zero, List.set_cons_succ, i64_w, i32_w]
                    rfl
                  refine pure_ (i := 2) (N := some 26) (v := ?_) (a' := ?_) #[true, true, true, false, false, false, false, false] rfl rfl (any_of HT_.out (by kernel_rfl)) (fun _ _ _ h => h) (Or.inl ⟨by rfl, ?_⟩) ?_ ?_
                  rotate_left
                  · intro w'
                    go_simp
                    with_reducible rfl
                  rotate_left
                  · simp only [Act.put, List.setIfInBounds_toArray, List.set_cons_zero, List.set_cons_succ, i64_w, i32_w]
                    rfl
                  refine take_ (i := 3) (N := some 27) (v := ?_) (a' := ?_) #[true, true, true, true, false, false, false, false] rfl rfl (take_ofW HT_.out HW_.out (by kernel_rfl)) (fun _ _ _ h => h) (Or.inl ⟨by rfl, ?_⟩) hHeld ?_ ?_
                  rotate_left
                  · rintro w' ⟨s0, s1, s2, s3, s4, s5⟩
                    go_simp
                    with_reducible rfl
                  rotate_left
                  · simp only [Act.put, List.setIfInBounds_toArray, List.set_cons_zero, List.set_cons_succ, i64_w, i32_w]
                    rfl
                  refine take_ (i := 4) (N := some 28) (v := ?_) (a' := ?_) #[true, true, true, true, true, false, false, false] rfl rfl (take_ofW HT_.out HW_.out (by kernel_rfl)) (fun _ _ _ h => h) (Or.inl ⟨by rfl, ?_⟩) hHeld ?_ ?_
                  rotate_left
                  · rintro w' ⟨s0, s1, s2, s3, s4, s5⟩
                    go_simp
                    with_reducible rfl
                  rotate_left
                  · simp only [Act.put, List.setIfInBounds_toArray, List.set_cons_zero, List.set_cons_succ, i64_w, i32_w]
                    rfl
                  refine join_ (σ := Nat) 1 #[true, true, true, true, true, true, true, false] (fun s_ => [(29, .agg #[.int .i64 t278, .int .i64 t279, .int .i64 t280]), (9, .pointer (some ⟨s_, 0, none⟩))]) (fun s_ w' => (w'.cell? ⟨gb274, 0, none⟩ = some (.int .i64 a1_0) ∧ w'.cell? ⟨gb274, 1, none⟩ = some (.int .i64 a1_1) ∧ w'.cell? ⟨gb274, 2, none⟩ = some (.int .i64 a1_2) ∧ w'.cell? (ad277.add ((x8_1).toNat * 3)) = some (.int .i64 ((rd_T30 l0 x8_1).f0)) ∧ w'.cell? ⟨(ad277.add ((x8_1).toNat * 3)).block, (ad277.add ((x8_1).toNat * 3)).off + 1, none⟩ = some (.int .i64 ((rd_T30 l0 x8_1).f1)) ∧ w'.cell? ⟨(ad277.add ((x8_1).toNat * 3)).block, (ad277.add ((x8_1).toNat * 3)).off + 2, none⟩ = some (.int .i64 ((rd_T30 l0 x8_1).f2))) ∧ (Kd.R k30 30 w' w.heap.size (fun k_ => k_ ≠ gb274 ∧ k_ ≠ s_) u7 x7_1) ∧ (w'.heap[gb274]? = some (.cells #[.int .i64 a1_0, .int .i64 a1_1, .int .i64 a1_2] 30 (0, 0))) ∧ (w'.heap[s_]? = some (.cells #[.int .i64 0, .int .i64 0, .int .i64 0] 30 (0, 0))) ∧ (w.heap.size ≤ s_) ∧ (w.heap.size ≤ s_) ∧ (gb274 ≠ s_) ∧ (s_ ≠ gb274) ∧ (Below w.heap.size w w')) ?_ ?_
                  rotate_left
                  · intro hCont
                    refine two_ (i := 5) (j := 6) (Ni := some 29) (Nj := some 9) #[true, true, true, true, true, true, false, false] #[true, true, true, true, true, false, true, false] rfl rfl rfl rfl (two_of HT_.out (by kernel_rfl)) (by decide) (by decide) (fun K hK => ?_) (fun K hK => ?_)
                    · skip
                      refine goes_ Try.func62 (by kernel_rfl) rfl #[.agg #[.int .i64 ((rd_T30 l0 x8_1).f0), .int .i64 ((rd_T30 l0 x8_1).f1), .int .i64 ((rd_T30 l0 x8_1).f2)], .agg #[.int .i64 a1_0, .int .i64 a1_1, .int .i64 a1_2]] (by rfl) rfl rfl (by (try simp only [List.map_toArray, List.map_cons, List.map_nil]); first | done | rfl | (simp only [List.length_drop, List.length_take]; rfl)) ?_
                      with_reducible refine (metrolabref31_Moved.calls ((rd_T30 l0 x8_1).f0) ((rd_T30 l0 x8_1).f1) ((rd_T30 l0 x8_1).f2) a1_0 a1_1 a1_2 t278 t279 t280 _ A13.out).mono ?_
                      rintro e w18 ⟨rfl, hb⟩
                      refine ⟨_, rfl, ?_⟩
                      have n0_ := Aside0.mk (Kd.R_below (by (with_reducible repeat (first | apply Kd.R_alloc | apply Kd.R_drewN | apply Kd.R_drew)); exact HO_7.out) hb)
                      have n1_ := Aside0.mk (blk_below (g := gb274) (o := .cells #[.int .i64 a1_0, .int .i64 a1_1, .int .i64 a1_2] 30 (0, 0)) (by (with_reducible repeat (first | refine blk_drewN ?_ _ | refine blk_drew ?_ | refine blk_alloc ?_ _)); exact BK274.out) hb)
                      have n2_ := Aside0.mk (below_step (by repeat (first | (with_reducible first | exact HB.out | apply below_alloc | apply pw_below_drewN | apply below_drew1 | refine below_set ?_ GE274.out) | exact HB.out)) hb)
                      clear HO_7
                      clear BK274
                      clear HB
                      have HO_7 := n0_
                      have BK274 := n1_
                      have HB := n2_
                      clear n0_ n1_ n2_
                      (try clear hb)
                      (try clear hb2)
                      (try clear hk)
                      (try clear hi)
                      refine hK.out _ _ ⟨(blk_cell BK274.out 0).trans rfl, (blk_cell BK274.out 1).trans rfl, (blk_cell BK274.out 2).trans rfl, ((HB.out.cell (World.block_lt_of_cell? w _ hw277_0)).trans hw277_0), ((HB.out.cell (World.block_lt_of_cell? w _ hw277_1)).trans hw277_1), ((HB.out.cell (World.block_lt_of_cell? w _ hw277_2)).trans hw277_2)⟩ (fun hHeld => ?_)
                      clear hK K
                      refine norm_ (a' := ?_) ?_ ?_
                      rotate_left
                      · show Act.put _ (some 29) _ = _
                        simp only [Act.put, List.setIfInBounds_toArray, List.set_cons_zero, List.set_cons_succ, i64_w, i32_w]
                        rfl
                      refine one_ (i := 6) (N := some 9) #[true, true, true, true, true, true, true, false] rfl rfl (one_of HT_.out (by kernel_rfl)) (by decide) (fun K hK => ?_)
                      refine box_step ?hg (N := 9) ?hd (cs := #[.int .i64 0, .int .i64 0, .int .i64 0]) (t := 30) ?hr ?_; (case hd => rfl); (case hg => rfl); (case hr => first | (go_simp; done) | (go_simp; rfl))
                      intro gb281 hg w19 hbox hb
                      have n0_ := Aside0.mk (Kd.R_below (Kd.R_elderB (by (with_reducible repeat (first | apply Kd.R_alloc | apply Kd.R_drewN | apply Kd.R_drew)); exact HO_7.out) gb281 (Nat.le_of_eq hg.symm)) hb)
                      have n1_ := Aside0.mk (blk_below (g := gb274) (o := .cells #[.int .i64 a1_0, .int .i64 a1_1, .int .i64 a1_2] 30 (0, 0)) (by (with_reducible repeat (first | refine blk_drewN ?_ _ | refine blk_drew ?_ | refine blk_alloc ?_ _)); exact BK274.out) hb)
                      have n2_ := Aside0.mk (below_step (by repeat (first | (with_reducible first | exact HB.out | apply below_alloc | apply pw_below_drewN | apply below_drew1 | refine below_set ?_ GE274.out) | exact HB.out)) hb)
                      have n3_ := Aside0.mk (hbox)
                      have n4_ := Aside0.mk ((by rw [hg]; exact (below_size (by repeat (first | (with_reducible first | exact HB.out | apply below_alloc | apply pw_below_drewN | apply below_drew1 | refine below_set ?_ GE274.out) | exact HB.out))) : w.heap.size ≤ gb281))
                      have n5_ := Aside0.mk ((by rw [hg]; exact (below_size (by repeat (first | (with_reducible first | exact HB.out | apply below_alloc | apply pw_below_drewN | apply below_drew1 | refine below_set ?_ GE274.out) | exact HB.out))) : w.heap.size ≤ gb281))
                      have n6_ := Aside0.mk ((by rw [hg]; exact Nat.ne_of_lt (blk_lt (g := gb274) (o := .cells #[.int .i64 a1_0, .int .i64 a1_1, .int .i64 a1_2] 30 (0, 0)) (by (with_reducible repeat (first | refine blk_drewN ?_ _ | refine blk_drew ?_ | refine blk_alloc ?_ _)); exact BK274.out)) : gb274 ≠ gb281))
                      have n7_ := Aside0.mk ((by rw [hg]; exact Nat.ne_of_gt (blk_lt (g := gb274) (o := .cells #[.int .i64 a1_0, .int .i64 a1_1, .int .i64 a1_2] 30 (0, 0)) (by (with_reducible repeat (first | refine blk_drewN ?_ _ | refine blk_drew ?_ | refine blk_alloc ?_ _)); exact BK274.out)) : gb281 ≠ gb274))
                      clear HO_7
                      clear BK274
                      clear HB
                      have HO_7 := n0_
                      have BK274 := n1_
                      have HB := n2_
                      have BK281 := n3_
                      have GW281 := n4_
                      have GE281 := n5_
                      have NB274_281 := n6_
                      have NB281_274 := n7_
                      clear n0_ n1_ n2_ n3_ n4_ n5_ n6_ n7_
                      clear hb hbox hg
                      refine hK.out _ _ ⟨(blk_cell BK274.out 0).trans rfl, (blk_cell BK274.out 1).trans rfl, (blk_cell BK274.out 2).trans rfl, ((HB.out.cell (World.block_lt_of_cell? w _ hw277_0)).trans hw277_0), ((HB.out.cell (World.block_lt_of_cell? w _ hw277_1)).trans hw277_1), ((HB.out.cell (World.block_lt_of_cell? w _ hw277_2)).trans hw277_2)⟩ (fun hHeld => ?_)
                      clear hK K
                      refine norm_ (a' := ?_) ?_ ?_
                      rotate_left
                      · show Act.put _ (some 9) _ = _
                        simp only [Act.put, List.setIfInBounds_toArray, List.set_cons_zero, List.set_cons_succ, i64_w, i32_w]
                        rfl
                      exact norm_ (by simp only [putAll, Act.put, List.setIfInBounds_toArray, List.set_cons_zero, List.set_cons_succ]) (hCont (gb281) _ ⟨hHeld, (by (with_reducible repeat (first | apply Kd.R_alloc | apply Kd.R_drewN | apply Kd.R_drew)); exact HO_7.out), (by (with_reducible repeat (first | refine blk_drewN ?_ _ | refine blk_drew ?_ | refine blk_alloc ?_ _)); exact BK274.out), (by (with_reducible repeat (first | refine blk_drewN ?_ _ | refine blk_drew ?_ | refine blk_alloc ?_ _)); exact BK281.out), GW281.out, GE281.out, NB274_281.out, NB281_274.out, (by repeat (first | (with_reducible first | exact HB.out | apply below_alloc | apply pw_below_drewN | apply below_drew1 | refine below_set ?_ GE274.out | refine below_set ?_ GE281.out) | exact HB.out))⟩)
                    · skip
                      refine box_step ?hg (N := 9) ?hd (cs := #[.int .i64 0, .int .i64 0, .int .i64 0]) (t := 30) ?hr ?_; (case hd => rfl); (case hg => rfl); (case hr => first | (go_simp; done) | (go_simp; rfl))
                      intro gb281 hg w18 hbox hb
                      have n0_ := Aside0.mk (Kd.R_below (Kd.R_elderB (by (with_reducible repeat (first | apply Kd.R_alloc | apply Kd.R_drewN | apply Kd.R_drew)); exact HO_7.out) gb281 (Nat.le_of_eq hg.symm)) hb)
                      have n1_ := Aside0.mk (blk_below (g := gb274) (o := .cells #[.int .i64 a1_0, .int .i64 a1_1, .int .i64 a1_2] 30 (0, 0)) (by (with_reducible repeat (first | refine blk_drewN ?_ _ | refine blk_drew ?_ | refine blk_alloc ?_ _)); exact BK274.out) hb)
                      have n2_ := Aside0.mk (below_step (by repeat (first | (with_reducible first | exact HB.out | apply below_alloc | apply pw_below_drewN | apply below_drew1 | refine below_set ?_ GE274.out) | exact HB.out)) hb)
                      have n3_ := Aside0.mk (hbox)
                      have n4_ := Aside0.mk ((by rw [hg]; exact (below_size (by repeat (first | (with_reducible first | exact HB.out | apply below_alloc | apply pw_below_drewN | apply below_drew1 | refine below_set ?_ GE274.out) | exact HB.out))) : w.heap.size ≤ gb281))
                      have n5_ := Aside0.mk ((by rw [hg]; exact (below_size (by repeat (first | (with_reducible first | exact HB.out | apply below_alloc | apply pw_below_drewN | apply below_drew1 | refine below_set ?_ GE274.out) | exact HB.out))) : w.heap.size ≤ gb281))
                      have n6_ := Aside0.mk ((by rw [hg]; exact Nat.ne_of_lt (blk_lt (g := gb274) (o := .cells #[.int .i64 a1_0, .int .i64 a1_1, .int .i64 a1_2] 30 (0, 0)) (by (with_reducible repeat (first | refine blk_drewN ?_ _ | refine blk_drew ?_ | refine blk_alloc ?_ _)); exact BK274.out)) : gb274 ≠ gb281))
                      have n7_ := Aside0.mk ((by rw [hg]; exact Nat.ne_of_gt (blk_lt (g := gb274) (o := .cells #[.int .i64 a1_0, .int .i64 a1_1, .int .i64 a1_2] 30 (0, 0)) (by (with_reducible repeat (first | refine blk_drewN ?_ _ | refine blk_drew ?_ | refine blk_alloc ?_ _)); exact BK274.out)) : gb281 ≠ gb274))
                      clear HO_7
                      clear BK274
                      clear HB
                      have HO_7 := n0_
                      have BK274 := n1_
                      have HB := n2_
                      have BK281 := n3_
                      have GW281 := n4_
                      have GE281 := n5_
                      have NB274_281 := n6_
                      have NB281_274 := n7_
                      clear n0_ n1_ n2_ n3_ n4_ n5_ n6_ n7_
                      clear hb hbox hg
                      refine hK.out _ _ ⟨(blk_cell BK274.out 0).trans rfl, (blk_cell BK274.out 1).trans rfl, (blk_cell BK274.out 2).trans rfl, ((HB.out.cell (World.block_lt_of_cell? w _ hw277_0)).trans hw277_0), ((HB.out.cell (World.block_lt_of_cell? w _ hw277_1)).trans hw277_1), ((HB.out.cell (World.block_lt_of_cell? w _ hw277_2)).trans hw277_2)⟩ (fun hHeld => ?_)
                      clear hK K
                      refine norm_ (a' := ?_) ?_ ?_
                      rotate_left
                      · show Act.put _ (some 9) _ = _
                        simp only [Act.put, List.setIfInBounds_toArray, List.set_cons_zero, List.set_cons_succ, i64_w, i32_w]
                        rfl
                      refine one_ (i := 5) (N := some 29) #[true, true, true, true, true, true, true, false] rfl rfl (one_of HT_.out (by kernel_rfl)) (by decide) (fun K hK => ?_)
                      refine goes_ Try.func62 (by kernel_rfl) rfl #[.agg #[.int .i64 ((rd_T30 l0 x8_1).f0), .int .i64 ((rd_T30 l0 x8_1).f1), .int .i64 ((rd_T30 l0 x8_1).f2)], .agg #[.int .i64 a1_0, .int .i64 a1_1, .int .i64 a1_2]] (by rfl) rfl rfl (by (try simp only [List.map_toArray, List.map_cons, List.map_nil]); first | done | rfl | (simp only [List.length_drop, List.length_take]; rfl)) ?_
                      with_reducible refine (metrolabref31_Moved.calls ((rd_T30 l0 x8_1).f0) ((rd_T30 l0 x8_1).f1) ((rd_T30 l0 x8_1).f2) a1_0 a1_1 a1_2 t278 t279 t280 _ A13.out).mono ?_
                      rintro e w19 ⟨rfl, hb⟩
                      refine ⟨_, rfl, ?_⟩
                      have n0_ := Aside0.mk (Kd.R_below (by (with_reducible repeat (first | apply Kd.R_alloc | apply Kd.R_drewN | apply Kd.R_drew)); exact HO_7.out) hb)
                      have n1_ := Aside0.mk (blk_below (g := gb274) (o := .cells #[.int .i64 a1_0, .int .i64 a1_1, .int .i64 a1_2] 30 (0, 0)) (by (with_reducible repeat (first | refine blk_drewN ?_ _ | refine blk_drew ?_ | refine blk_alloc ?_ _)); exact BK274.out) hb)
                      have n2_ := Aside0.mk (blk_below (g := gb281) (o := .cells #[.int .i64 0, .int .i64 0, .int .i64 0] 30 (0, 0)) (by (with_reducible repeat (first | refine blk_drewN ?_ _ | refine blk_drew ?_ | refine blk_alloc ?_ _)); exact BK281.out) hb)
                      have n3_ := Aside0.mk (below_step (by repeat (first | (with_reducible first | exact HB.out | apply below_alloc | apply pw_below_drewN | apply below_drew1 | refine below_set ?_ GE274.out | refine below_set ?_ GE281.out) | exact HB.out)) hb)
                      clear HO_7
                      clear BK274
                      clear BK281
                      clear HB
                      have HO_7 := n0_
                      have BK274 := n1_
                      have BK281 := n2_
                      have HB := n3_
                      clear n0_ n1_ n2_ n3_
                      (try clear hb)
                      (try clear hb2)
                      (try clear hk)
                      (try clear hi)
                      refine hK.out _ _ ⟨(blk_cell BK274.out 0).trans rfl, (blk_cell BK274.out 1).trans rfl, (blk_cell BK274.out 2).trans rfl, ((HB.out.cell (World.block_lt_of_cell? w _ hw277_0)).trans hw277_0), ((HB.out.cell (World.block_lt_of_cell? w _ hw277_1)).trans hw277_1), ((HB.out.cell (World.block_lt_of_cell? w _ hw277_2)).trans hw277_2)⟩ (fun hHeld => ?_)
                      clear hK K
                      refine norm_ (a' := ?_) ?_ ?_
                      rotate_left
                      · show Act.put _ (some 29) _ = _
                        simp only [Act.put, List.setIfInBounds_toArray, List.set_cons_zero, List.set_cons_succ, i64_w, i32_w]
                        rfl
                      exact norm_ (by simp only [putAll, Act.put, List.setIfInBounds_toArray, List.set_cons_zero, List.set_cons_succ]) (hCont (gb281) _ ⟨hHeld, (by (with_reducible repeat (first | apply Kd.R_alloc | apply Kd.R_drewN | apply Kd.R_drew)); exact HO_7.out), (by (with_reducible repeat (first | refine blk_drewN ?_ _ | refine blk_drew ?_ | refine blk_alloc ?_ _)); exact BK274.out), (by (with_reducible repeat (first | refine blk_drewN ?_ _ | refine blk_drew ?_ | refine blk_alloc ?_ _)); exact BK281.out), GW281.out, GE281.out, NB274_281.out, NB281_274.out, (by repeat (first | (with_reducible first | exact HB.out | apply below_alloc | apply pw_below_drewN | apply below_drew1 | refine below_set ?_ GE274.out | refine below_set ?_ GE281.out) | exact HB.out))⟩)
                  rintro gb281 w20 ⟨hS_, h0_, h1_, h2_, h3_, h4_, h5_, h6_, h7_⟩
                  have n0_ : Aside0 (Kd.R k30 30 w20 w.heap.size (fun k_ => k_ ≠ gb274 ∧ k_ ≠ gb281) u7 x7_1) := ⟨h0_⟩
                  have n1_ : Aside0 (w20.heap[gb274]? = some (.cells #[.int .i64 a1_0, .int .i64 a1_1, .int .i64 a1_2] 30 (0, 0))) := ⟨h1_⟩
                  have n2_ : Aside0 (w20.heap[gb281]? = some (.cells #[.int .i64 0, .int .i64 0, .int .i64 0] 30 (0, 0))) := ⟨h2_⟩
                  have n3_ : Aside0 (w.heap.size ≤ gb281) := ⟨h3_⟩
                  have n4_ : Aside0 (w.heap.size ≤ gb281) := ⟨h4_⟩
                  have n5_ : Aside0 (gb274 ≠ gb281) := ⟨h5_⟩
                  have n6_ : Aside0 (gb281 ≠ gb274) := ⟨h6_⟩
                  have n7_ : Aside0 (Below w.heap.size w w20) := ⟨h7_⟩
                  clear HO_7
                  clear BK274
                  clear HB
                  clear h0_ h1_ h2_ h3_ h4_ h5_ h6_ h7_
                  have HO_7 := n0_
                  have BK274 := n1_
                  have BK281 := n2_
                  have GW281 := n3_
                  have GE281 := n4_
                  have NB274_281 := n5_
                  have NB281_274 := n6_
                  have HB := n7_
                  clear n0_ n1_ n2_ n3_ n4_ n5_ n6_ n7_
                  have hHeld : w20.cell? ⟨gb274, 0, none⟩ = some (.int .i64 a1_0) ∧ w20.cell? ⟨gb274, 1, none⟩ = some (.int .i64 a1_1) ∧ w20.cell? ⟨gb274, 2, none⟩ = some (.int .i64 a1_2) ∧ w20.cell? (ad277.add ((x8_1).toNat * 3)) = some (.int .i64 ((rd_T30 l0 x8_1).f0)) ∧ w20.cell? ⟨(ad277.add ((x8_1).toNat * 3)).block, (ad277.add ((x8_1).toNat * 3)).off + 1, none⟩ = some (.int .i64 ((rd_T30 l0 x8_1).f1)) ∧ w20.cell? ⟨(ad277.add ((x8_1).toNat * 3)).block, (ad277.add ((x8_1).toNat * 3)).off + 2, none⟩ = some (.int .i64 ((rd_T30 l0 x8_1).f2)) := hS_
                  refine norm_ (a' := ?_) ?_ ?_
                  rotate_left
                  · simp only [putAll, Act.put, List.setIfInBounds_toArray, List.set_cons_zero, List.set_cons_succ]
                    rfl
                  refine one_ (i := 7) (N := none) #[true, true, true, true, true, true, true, true] rfl rfl (one_of HT_.out (by kernel_rfl)) (by decide) (fun K hK => ?_)
                  have hs21 : w20.cell? ⟨gb281, 0, none⟩ = some (.int .i64 0) := (blk_cell BK281.out 0).trans rfl
                  have hfs21 := blk_frozen BK281.out 0
                  have hns21_0 := NB274_281.out
                  have hms21_0 := NB281_274.out
                  have hs22 : w20.cell? ⟨gb281, 1, none⟩ = some (.int .i64 0) := (blk_cell BK281.out 1).trans rfl
                  have hfs22 := blk_frozen BK281.out 1
                  have hns22_0 := NB274_281.out
                  have hms22_0 := NB281_274.out
                  have hs23 : w20.cell? ⟨gb281, 2, none⟩ = some (.int .i64 0) := (blk_cell BK281.out 2).trans rfl
                  have hfs23 := blk_frozen BK281.out 2
                  have hns23_0 := NB274_281.out
                  have hms23_0 := NB281_274.out
                  refine skip_ (w1 := ?_) (by rfl) rfl ?_ ?_
                  rotate_left
                  · go_simp
                    rfl
                  refine hK.out _ _ ⟨((cell_far (p := ⟨gb281, _, none⟩) NB274_281.out _).trans (((cell_far (p := ⟨gb281, _, none⟩) NB274_281.out _).trans (((cell_far (p := ⟨gb281, _, none⟩) NB274_281.out _).trans (hHeld.1)))))), ((cell_far (p := ⟨gb281, _, none⟩) NB274_281.out _).trans (((cell_far (p := ⟨gb281, _, none⟩) NB274_281.out _).trans (((cell_far (p := ⟨gb281, _, none⟩) NB274_281.out _).trans (hHeld.2.1)))))), ((cell_far (p := ⟨gb281, _, none⟩) NB274_281.out _).trans (((cell_far (p := ⟨gb281, _, none⟩) NB274_281.out _).trans (((cell_far (p := ⟨gb281, _, none⟩) NB274_281.out _).trans (hHeld.2.2.1)))))), ((cell_far (p := ⟨gb281, _, none⟩) (by first | exact Nat.ne_of_lt (Nat.lt_of_lt_of_le (by have := World.block_lt_of_cell? _ _ hw277_0; first | rwa [add_block] at this | exact this) GW281.out) | (rw [add_block]; exact Nat.ne_of_lt (Nat.lt_of_lt_of_le (by have := World.block_lt_of_cell? _ _ hw277_0; first | rwa [add_block] at this | exact this) GW281.out)) | (show (Addr.add _ _).block ≠ _; rw [add_block]; exact Nat.ne_of_lt (Nat.lt_of_lt_of_le (by have := World.block_lt_of_cell? _ _ hw277_0; first | rwa [add_block] at this | exact this) GW281.out)) | (dsimp only; exact Nat.ne_of_lt (Nat.lt_of_lt_of_le (by have := World.block_lt_of_cell? _ _ hw277_0; first | rwa [add_block] at this | exact this) GW281.out))) _).trans (((cell_far (p := ⟨gb281, _, none⟩) (by first | exact Nat.ne_of_lt (Nat.lt_of_lt_of_le (by have := World.block_lt_of_cell? _ _ hw277_0; first | rwa [add_block] at this | exact this) GW281.out) | (rw [add_block]; exact Nat.ne_of_lt (Nat.lt_of_lt_of_le (by have := World.block_lt_of_cell? _ _ hw277_0; first | rwa [add_block] at this | exact this) GW281.out)) | (show (Addr.add _ _).block ≠ _; rw [add_block]; exact Nat.ne_of_lt (Nat.lt_of_lt_of_le (by have := World.block_lt_of_cell? _ _ hw277_0; first | rwa [add_block] at this | exact this) GW281.out)) | (dsimp only; exact Nat.ne_of_lt (Nat.lt_of_lt_of_le (by have := World.block_lt_of_cell? _ _ hw277_0; first | rwa [add_block] at this | exact this) GW281.out))) _).trans (((cell_far (p := ⟨gb281, _, none⟩) (by first | exact Nat.ne_of_lt (Nat.lt_of_lt_of_le (by have := World.block_lt_of_cell? _ _ hw277_0; first | rwa [add_block] at this | exact this) GW281.out) | (rw [add_block]; exact Nat.ne_of_lt (Nat.lt_of_lt_of_le (by have := World.block_lt_of_cell? _ _ hw277_0; first | rwa [add_block] at this | exact this) GW281.out)) | (show (Addr.add _ _).block ≠ _; rw [add_block]; exact Nat.ne_of_lt (Nat.lt_of_lt_of_le (by have := World.block_lt_of_cell? _ _ hw277_0; first | rwa [add_block] at this | exact this) GW281.out)) | (dsimp only; exact Nat.ne_of_lt (Nat.lt_of_lt_of_le (by have := World.block_lt_of_cell? _ _ hw277_0; first | rwa [add_block] at this | exact this) GW281.out))) _).trans (hHeld.2.2.2.1)))))), ((cell_far (p := ⟨gb281, _, none⟩) (by first | exact Nat.ne_of_lt (Nat.lt_of_lt_of_le (by have := World.block_lt_of_cell? _ _ hw277_1; first | rwa [add_block] at this | exact this) GW281.out) | (rw [add_block]; exact Nat.ne_of_lt (Nat.lt_of_lt_of_le (by have := World.block_lt_of_cell? _ _ hw277_1; first | rwa [add_block] at this | exact this) GW281.out)) | (show (Addr.add _ _).block ≠ _; rw [add_block]; exact Nat.ne_of_lt (Nat.lt_of_lt_of_le (by have := World.block_lt_of_cell? _ _ hw277_1; first | rwa [add_block] at this | exact this) GW281.out)) | (dsimp only; exact Nat.ne_of_lt (Nat.lt_of_lt_of_le (by have := World.block_lt_of_cell? _ _ hw277_1; first | rwa [add_block] at this | exact this) GW281.out))) _).trans (((cell_far (p := ⟨gb281, _, none⟩) (by first | exact Nat.ne_of_lt (Nat.lt_of_lt_of_le (by have := World.block_lt_of_cell? _ _ hw277_1; first | rwa [add_block] at this | exact this) GW281.out) | (rw [add_block]; exact Nat.ne_of_lt (Nat.lt_of_lt_of_le (by have := World.block_lt_of_cell? _ _ hw277_1; first | rwa [add_block] at this | exact this) GW281.out)) | (show (Addr.add _ _).block ≠ _; rw [add_block]; exact Nat.ne_of_lt (Nat.lt_of_lt_of_le (by have := World.block_lt_of_cell? _ _ hw277_1; first | rwa [add_block] at this | exact this) GW281.out)) | (dsimp only; exact Nat.ne_of_lt (Nat.lt_of_lt_of_le (by have := World.block_lt_of_cell? _ _ hw277_1; first | rwa [add_block] at this | exact this) GW281.out))) _).trans (((cell_far (p := ⟨gb281, _, none⟩) (by first | exact Nat.ne_of_lt (Nat.lt_of_lt_of_le (by have := World.block_lt_of_cell? _ _ hw277_1; first | rwa [add_block] at this | exact this) GW281.out) | (rw [add_block]; exact Nat.ne_of_lt (Nat.lt_of_lt_of_le (by have := World.block_lt_of_cell? _ _ hw277_1; first | rwa [add_block] at this | exact this) GW281.out)) | (show (Addr.add _ _).block ≠ _; rw [add_block]; exact Nat.ne_of_lt (Nat.lt_of_lt_of_le (by have := World.block_lt_of_cell? _ _ hw277_1; first | rwa [add_block] at this | exact this) GW281.out)) | (dsimp only; exact Nat.ne_of_lt (Nat.lt_of_lt_of_le (by have := World.block_lt_of_cell? _ _ hw277_1; first | rwa [add_block] at this | exact this) GW281.out))) _).trans (hHeld.2.2.2.2.1)))))), ((cell_far (p := ⟨gb281, _, none⟩) (by first | exact Nat.ne_of_lt (Nat.lt_of_lt_of_le (by have := World.block_lt_of_cell? _ _ hw277_2; first | rwa [add_block] at this | exact this) GW281.out) | (rw [add_block]; exact Nat.ne_of_lt (Nat.lt_of_lt_of_le (by have := World.block_lt_of_cell? _ _ hw277_2; first | rwa [add_block] at this | exact this) GW281.out)) | (show (Addr.add _ _).block ≠ _; rw [add_block]; exact Nat.ne_of_lt (Nat.lt_of_lt_of_le (by have := World.block_lt_of_cell? _ _ hw277_2; first | rwa [add_block] at this | exact this) GW281.out)) | (dsimp only; exact Nat.ne_of_lt (Nat.lt_of_lt_of_le (by have := World.block_lt_of_cell? _ _ hw277_2; first | rwa [add_block] at this | exact this) GW281.out))) _).trans (((cell_far (p := ⟨gb281, _, none⟩) (by first | exact Nat.ne_of_lt (Nat.lt_of_lt_of_le (by have := World.block_lt_of_cell? _ _ hw277_2; first | rwa [add_block] at this | exact this) GW281.out) | (rw [add_block]; exact Nat.ne_of_lt (Nat.lt_of_lt_of_le (by have := World.block_lt_of_cell? _ _ hw277_2; first | rwa [add_block] at this | exact this) GW281.out)) | (show (Addr.add _ _).block ≠ _; rw [add_block]; exact Nat.ne_of_lt (Nat.lt_of_lt_of_le (by have := World.block_lt_of_cell? _ _ hw277_2; first | rwa [add_block] at this | exact this) GW281.out)) | (dsimp only; exact Nat.ne_of_lt (Nat.lt_of_lt_of_le (by have := World.block_lt_of_cell? _ _ hw277_2; first | rwa [add_block] at this | exact this) GW281.out))) _).trans (((cell_far (p := ⟨gb281, _, none⟩) (by first | exact Nat.ne_of_lt (Nat.lt_of_lt_of_le (by have := World.block_lt_of_cell? _ _ hw277_2; first | rwa [add_block] at this | exact this) GW281.out) | (rw [add_block]; exact Nat.ne_of_lt (Nat.lt_of_lt_of_le (by have := World.block_lt_of_cell? _ _ hw277_2; first | rwa [add_block] at this | exact this) GW281.out)) | (show (Addr.add _ _).block ≠ _; rw [add_block]; exact Nat.ne_of_lt (Nat.lt_of_lt_of_le (by have := World.block_lt_of_cell? _ _ hw277_2; first | rwa [add_block] at this | exact this) GW281.out)) | (dsimp only; exact Nat.ne_of_lt (Nat.lt_of_lt_of_le (by have := World.block_lt_of_cell? _ _ hw277_2; first | rwa [add_block] at this | exact this) GW281.out))) _).trans (hHeld.2.2.2.2.2))))))⟩ (fun hHeld => ?_)
                  clear hK K
                  refine done_ (done_of HT_.out (by kernel_rfl)) ?_
                  have hnb24 := NB281_274.out
                  have hnc24 := NB274_281.out
                  have hcz25_0 : w20.cell? ⟨gb281, 0, none⟩ = some (.int .i64 0) := (blk_cell BK281.out 0).trans rfl
                  have hcz25_1 : w20.cell? ⟨gb281, 1, none⟩ = some (.int .i64 0) := (blk_cell BK281.out 1).trans rfl
                  have hcz25_2 : w20.cell? ⟨gb281, 2, none⟩ = some (.int .i64 0) := (blk_cell BK281.out 2).trans rfl
                  have hfz25_0 := blk_frozen BK281.out 0
                  have hfz25_1 := blk_frozen BK281.out 1
                  have hfz25_2 := blk_frozen BK281.out 2
                  try go_wp2_with (first | ((with_reducible refine gate_callee (f := 61) rfl ?_); refine goesL_ (some 31) rfl rfl Try.func61 (by kernel_rfl) rfl #[.agg #[.int .i64 t278, .int .i64 t279, .int .i64 t280]] rfl (by (try simp only [List.map_toArray, List.map_cons, List.map_nil]); first | done | rfl | (simp only [List.length_drop, List.length_take]; rfl)) ?_; (with_reducible refine (metrolabref07_RightSpot.calls t278 t279 t280 true _ A14.out).mono ?_); rintro e w26 ⟨rfl, hb⟩; refine ⟨_, rfl, ?_⟩; have n0_ := Aside0.mk (Kd.R_below (by (with_reducible repeat (first | apply Kd.R_alloc | apply Kd.R_drewN | apply Kd.R_drew)); exact (Kd.R_mono (Kd.R_far (p := ⟨gb281, 2, none⟩) (Kd.R_far (p := ⟨gb281, 1, none⟩) (Kd.R_far (p := ⟨gb281, 0, none⟩) (Kd.R_mono HO_7.out (fun k_ hk => (⟨hk, hk.2⟩ : _ ∧ k_ ≠ gb281))) (fun _ hk => hk.2) (.int .i64 t278)) (fun _ hk => hk.2) (.int .i64 t279)) (fun _ hk => hk.2) (.int .i64 t280)) (fun _ h_ => h_.1))) hb); have n1_ := Aside0.mk (blk_below (g := gb274) (o := .cells #[.int .i64 a1_0, .int .i64 a1_1, .int .i64 a1_2] 30 (0, 0)) (by (with_reducible repeat (first | refine blk_drewN ?_ _ | refine blk_drew ?_ | refine blk_alloc ?_ _)); refine blk_far ?_ NB274_281.out _; (with_reducible repeat (first | refine blk_drewN ?_ _ | refine blk_drew ?_ | refine blk_alloc ?_ _)); refine blk_far ?_ NB274_281.out _; (with_reducible repeat (first | refine blk_drewN ?_ _ | refine blk_drew ?_ | refine blk_alloc ?_ _)); refine blk_far ?_ NB274_281.out _; (with_reducible repeat (first | refine blk_drewN ?_ _ | refine blk_drew ?_ | refine blk_alloc ?_ _)); exact BK274.out) hb); have n2_ := Aside0.mk (blk_below (g := gb281) (o := .cells #[.int .i64 t278, .int .i64 t279, .int .i64 t280] 30 (0, 0)) (by (with_reducible repeat (first | refine blk_drewN ?_ _ | refine blk_drew ?_ | refine blk_alloc ?_ _)); refine blk_put (cs := #[.int .i64 t278, .int .i64 t279, .int .i64 0]) ?_ 2 _ rfl; (with_reducible repeat (first | refine blk_drewN ?_ _ | refine blk_drew ?_ | refine blk_alloc ?_ _)); refine blk_put (cs := #[.int .i64 t278, .int .i64 0, .int .i64 0]) ?_ 1 _ rfl; (with_reducible repeat (first | refine blk_drewN ?_ _ | refine blk_drew ?_ | refine blk_alloc ?_ _)); refine blk_put (cs := #[.int .i64 0, .int .i64 0, .int .i64 0]) ?_ 0 _ rfl; (with_reducible repeat (first | refine blk_drewN ?_ _ | refine blk_drew ?_ | refine blk_alloc ?_ _)); exact BK281.out) hb); have n3_ := Aside0.mk (below_step (by repeat (first | (with_reducible first | exact HB.out | apply below_alloc | apply pw_below_drewN | apply below_drew1 | refine below_set ?_ GE274.out | refine below_set ?_ GE281.out) | exact HB.out)) hb); clear HO_7; clear BK274; clear BK281; clear HB; have HO_7 := n0_; have BK274 := n1_; have BK281 := n2_; have HB := n3_; clear n0_ n1_ n2_ n3_; (try clear hb); (try clear hb2); (try clear hk); (try clear hi); have hcz27_0 : w26.cell? ⟨gb281, 0, none⟩ = some (.int .i64 t278) := (blk_cell BK281.out 0).trans rfl; have hcz27_1 : w26.cell? ⟨gb281, 1, none⟩ = some (.int .i64 t279) := (blk_cell BK281.out 1).trans rfl; have hcz27_2 : w26.cell? ⟨gb281, 2, none⟩ = some (.int .i64 t280) := (blk_cell BK281.out 2).trans rfl; have hfz27_0 := blk_frozen BK281.out 0; have hfz27_1 := blk_frozen BK281.out 1; have hfz27_2 := blk_frozen BK281.out 2) | ((with_reducible refine gate_builtin (b := .append) (xs := #[.tmp 33, .tmp 35]) rfl ?_); at_builtin; refine Kd.R_append k30 (w0 := w) w.heap.size rfl (.tmp 33) (.tmp 35) 22 30 (.agg #[(.int .i64 0), (.int .i64 0), (.int .i64 0)]) 24 rfl Try.underlying22 info30 rfl (by decide) (by omega) u7 x7_1 (⟨t278, t279, t280⟩ : S30) [.int .i64 t278, .int .i64 t279, .int .i64 t280] (fun k_ => k_ ≠ gb274 ∧ k_ ≠ gb281) (fun _ => False) rfl rfl ?aP (fun _ hk => hk.elim) ?aF ?aO ?aB ?aS ?aL ?_; (case aP => exact k30_mkM _ _ _ (⟨t278, t279, t280⟩ : S30)); (case aB => exact (by repeat (first | (with_reducible first | exact HB.out | apply below_alloc | apply pw_below_drewN | apply below_drew1 | refine below_set ?_ GE274.out | refine below_set ?_ GE281.out) | exact HB.out))); (case aF => exact (fun k_ hk => ⟨Kd.freshB (g := gb274) (o := .cells #[.int .i64 a1_0, .int .i64 a1_1, .int .i64 a1_2] 30 (0, 0)) (by (with_reducible repeat (first | refine blk_drewN ?_ _ | refine blk_drew ?_ | refine blk_alloc ?_ _)); exact BK274.out) k_ hk, Kd.freshB (g := gb281) (o := .cells #[.int .i64 t278, .int .i64 t279, .int .i64 t280] 30 (0, 0)) (by (with_reducible repeat (first | refine blk_drewN ?_ _ | refine blk_drew ?_ | refine blk_alloc ?_ _)); exact BK281.out) k_ hk⟩)); (case aO => exact (by (with_reducible repeat (first | apply Kd.R_alloc | apply Kd.R_drewN | apply Kd.R_drew)); exact HO_7.out)); (case aS => exact (below_size (by repeat (first | (with_reducible first | exact HB.out | apply below_alloc | apply pw_below_drewN | apply below_drew1 | refine below_set ?_ GE274.out | refine below_set ?_ GE281.out) | exact HB.out)))); (case aL => have := LMc16.out; omega); intro v284 w28 ho hb hg hat; rw [← Ny283.out] at ho; have n0_ := Aside0.mk (blk_grown (g := gb274) (o := .cells #[.int .i64 a1_0, .int .i64 a1_1, .int .i64 a1_2] 30 (0, 0)) (by (with_reducible repeat (first | refine blk_drewN ?_ _ | refine blk_drew ?_ | refine blk_alloc ?_ _)); exact BK274.out) hg (Kd.R_away HO_7.out (fun _ hk => hk.1))); have n1_ := Aside0.mk (blk_grown (g := gb281) (o := .cells #[.int .i64 t278, .int .i64 t279, .int .i64 t280] 30 (0, 0)) (by (with_reducible repeat (first | refine blk_drewN ?_ _ | refine blk_drew ?_ | refine blk_alloc ?_ _)); exact BK281.out) hg (Kd.R_away HO_7.out (fun _ hk => hk.2))); have n2_ := Aside0.mk (hb); have n3_ := Aside0.mk (ho); clear BK274; clear BK281; clear HB; clear HO_7; have BK274 := n0_; have BK281 := n1_; have HB := n2_; have HO285 := n3_; clear n0_ n1_ n2_ n3_; clear ho hb hg hat))
                  go_roundg k1
                  case measure => have := HK1.out; omega
                  case rel => exact ⟨(y283), (wrap64 (x8_1 + 1)), (by first | rfl | (simp; done) | (simp [*]; done)), H', ⟨by have := HK1.out; omega⟩, ⟨by (with_reducible repeat (first | apply Kd.R_alloc | apply Kd.R_drewN | apply Kd.R_drew)); exact Kd.R_mono HO285.out (fun _ hk => hk.1)⟩, ⟨by (with_reducible repeat (first | refine blk_drewN ?_ _ | refine blk_drew ?_ | refine blk_alloc ?_ _)); exact BK274.out⟩, ⟨by repeat (first | (with_reducible first | exact HB.out | apply below_alloc | apply pw_below_drewN | apply below_drew1 | refine below_set ?_ GE274.out | refine below_set ?_ GE281.out) | exact HB.out)⟩⟩
                · rw [if_neg c16] at H
                  exact absurd H (by simp)
              · replace c15 := Bool.eq_false_iff.mpr c15
                subst c15
                have H1 : (some (([] : List (S30)), 11)) = some (r1, r2) := by rw [if_neg (show ¬ (false = true) by decide)] at H; exact H
                clear H
                have H := H1
                clear H1
                simp only [Option.some.injEq, Prod.mk.injEq] at H
                obtain ⟨rfl, rfl⟩ := H
                try go_wp2
                have n0_ := Aside0.mk (Kd.R_drew HO_7.out)
                have n1_ := Aside0.mk (blk_drew BK274.out)
                have n2_ := Aside0.mk (below_drew1 HB.out)
                clear HO_7
                clear BK274
                clear HB
                have HO_7 := n0_
                have BK274 := n1_
                have HB := n2_
                clear n0_ n1_ n2_
                have p277 : 0 ≤ (x8_1 : Int) := of_decide_eq_true (by first | (with_reducible assumption) | assumption)
                have q277 : x8_1 < (l0.length : Int) := of_decide_eq_true (by first | (with_reducible assumption) | assumption)
                obtain ⟨ad277, e277, hx277_0, hx277_1, hx277_2⟩ := at_T30 HR0.out x8_1 p277 q277
                have hw277_2 := hx277_2
                have hw277_1 := hx277_1
                have hw277_0 := hx277_0
                cases e277
                replace hx277_0 := (HB.out.cell (World.block_lt_of_cell? w _ hx277_0)).trans hx277_0
                replace hx277_1 := (HB.out.cell (World.block_lt_of_cell? w _ hx277_1)).trans hx277_1
                replace hx277_2 := (HB.out.cell (World.block_lt_of_cell? w _ hx277_2)).trans hx277_2
                replace p277 := eq_true p277
                replace q277 := eq_true q277
                refine start_ (n := 8) (S := fun w' => w'.cell? ⟨gb274, 0, none⟩ = some (.int .i64 a1_0) ∧ w'.cell? ⟨gb274, 1, none⟩ = some (.int .i64 a1_1) ∧ w'.cell? ⟨gb274, 2, none⟩ = some (.int .i64 a1_2) ∧ w'.cell? (ad277.add ((x8_1).toNat * 3)) = some (.int .i64 ((rd_T30 l0 x8_1).f0)) ∧ w'.cell? ⟨(ad277.add ((x8_1).toNat * 3)).block, (ad277.add ((x8_1).toNat * 3)).off + 1, none⟩ = some (.int .i64 ((rd_T30 l0 x8_1).f1)) ∧ w'.cell? ⟨(ad277.add ((x8_1).toNat * 3)).block, (ad277.add ((x8_1).toNat * 3)).off + 2, none⟩ = some (.int .i64 ((rd_T30 l0 x8_1).f2))) (ds := []) #[false, false, false, false, false, false, false, false] (by kernel_rfl) rfl rfl ⟨(blk_cell BK274.out 0).trans rfl, (blk_cell BK274.out 1).trans rfl, (blk_cell BK274.out 2).trans rfl, ((HB.out.cell (World.block_lt_of_cell? w _ hw277_0)).trans hw277_0), ((HB.out.cell (World.block_lt_of_cell? w _ hw277_1)).trans hw277_1), ((HB.out.cell (World.block_lt_of_cell? w _ hw277_2)).trans hw277_2)⟩ (fun hHeld => ?_); refine with_tabW metrolabref31_Shift.tab10 metrolabref31_Shift.bits10 (fun HT_ HW_ => ?_)
                generalize wr.drew = w29 at HO_7 BK274 HB hx277_0 hx277_1 hx277_2 hHeld ⊢
                refine pure_ (i := 0) (N := some 24) (v := ?_) (a' := ?_) #[true, false, false, false, false, false, false, false] rfl rfl (any_of HT_.out (by kernel_rfl)) (fun _ _ _ h => h) (Or.inl ⟨by rfl, ?_⟩) ?_ ?_
                rotate_left
                · intro w'
                  go_simp
                  with_reducible rfl
                rotate_left
                · simp only [Act.put, List.setIfInBounds_toArray, List.set_cons_zero, List.set_cons_succ, i64_w, i32_w]
                  rfl
                refine pure_ (i := 1) (N := some 25) (v := ?_) (a' := ?_) #[true, true, false, false, false, false, false, false] rfl rfl (any_of HT_.out (by kernel_rfl)) (fun _ _ _ h => h) (Or.inl ⟨by rfl, ?_⟩) ?_ ?_
                rotate_left
                · intro w'
                  go_simp
                  with_reducible rfl
                rotate_left
                · simp only [Act.put, List.setIfInBounds_toArray, List.set_cons_zero, List.set_cons_succ, i64_w, i32_w]
                  rfl
                refine pure_ (i := 2) (N := some 26) (v := ?_) (a' := ?_) #[true, true, true, false, false, false, false, false] rfl rfl (any_of HT_.out (by kernel_rfl)) (fun _ _ _ h => h) (Or.inl ⟨by rfl, ?_⟩) ?_ ?_
                rotate_left
                · intro w'
                  go_simp
                  with_reducible rfl
                rotate_left
                · simp only [Act.put, List.setIfInBounds_toArray, List.set_cons_zero, List.set_cons_succ, i64_w, i32_w]
                  rfl
                refine take_ (i := 3) (N := some 27) (v := ?_) (a' := ?_) #[true, true, true, true, false, false, false, false] rfl rfl (take_ofW HT_.out HW_.out (by kernel_rfl)) (fun _ _ _ h => h) (Or.inl ⟨by rfl, ?_⟩) hHeld ?_ ?_
                rotate_left
                · rintro w' ⟨s0, s1, s2, s3, s4, s5⟩
                  go_simp
                  with_reducible rfl
                rotate_left
                · simp only [Act.put, List.setIfInBounds_toArray, List.set_cons_zero, List.set_cons_succ, i64_w, i32_w]
                  rfl
                refine take_ (i := 4) (N := some 28) (v := ?_) (a' := ?_) #[true, true, true, true, true, false, false, false] rfl rfl (take_ofW HT_.out HW_.out (by kernel_rfl)) (fun _ _ _ h => h) (Or.inl ⟨by rfl, ?_⟩) hHeld ?_ ?_
                rotate_left
                · rintro w' ⟨s0, s1, s2, s3, s4, s5⟩
                  go_simp
                  with_reducible rfl
                rotate_left
                · simp only [Act.put, List.setIfInBounds_toArray, List.set_cons_zero, List.set_cons_succ, i64_w, i32_w]
                  rfl
                refine join_ (σ := Nat) 1 #[true, true, true, true, true, true, true, false] (fun s_ => [(29, .agg #[.int .i64 t278, .int .i64 t279, .int .i64 t280]), (9, .pointer (some ⟨s_, 0, none⟩))]) (fun s_ w' => (w'.cell? ⟨gb274, 0, none⟩ = some (.int .i64 a1_0) ∧ w'.cell? ⟨gb274, 1, none⟩ = some (.int .i64 a1_1) ∧ w'.cell? ⟨gb274, 2, none⟩ = some (.int .i64 a1_2) ∧ w'.cell? (ad277.add ((x8_1).toNat * 3)) = some (.int .i64 ((rd_T30 l0 x8_1).f0)) ∧ w'.cell? ⟨(ad277.add ((x8_1).toNat * 3)).block, (ad277.add ((x8_1).toNat * 3)).off + 1, none⟩ = some (.int .i64 ((rd_T30 l0 x8_1).f1)) ∧ w'.cell? ⟨(ad277.add ((x8_1).toNat * 3)).block, (ad277.add ((x8_1).toNat * 3)).off + 2, none⟩ = some (.int .i64 ((rd_T30 l0 x8_1).f2))) ∧ (Kd.R k30 30 w' w.heap.size (fun k_ => k_ ≠ gb274 ∧ k_ ≠ s_) u7 x7_1) ∧ (w'.heap[gb274]? = some (.cells #[.int .i64 a1_0, .int .i64 a1_1, .int .i64 a1_2] 30 (0, 0))) ∧ (w'.heap[s_]? = some (.cells #[.int .i64 0, .int .i64 0, .int .i64 0] 30 (0, 0))) ∧ (w.heap.size ≤ s_) ∧ (w.heap.size ≤ s_) ∧ (gb274 ≠ s_) ∧ (s_ ≠ gb274) ∧ (Below w.heap.size w w')) ?_ ?_
                rotate_left
                · intro hCont
                  refine two_ (i := 5) (j := 6) (Ni := some 29) (Nj := some 9) #[true, true, true, true, true, true, false, false] #[true, true, true, true, true, false, true, false] rfl rfl rfl rfl (two_of HT_.out (by kernel_rfl)) (by decide) (by decide) (fun K hK => ?_) (fun K hK => ?_)
                  · skip
                    refine goes_ Try.func62 (by kernel_rfl) rfl #[.agg #[.int .i64 ((rd_T30 l0 x8_1).f0), .int .i64 ((rd_T30 l0 x8_1).f1), .int .i64 ((rd_T30 l0 x8_1).f2)], .agg #[.int .i64 a1_0, .int .i64 a1_1, .int .i64 a1_2]] (by rfl) rfl rfl (by (try simp only [List.map_toArray, List.map_cons, List.map_nil]); first | done | rfl | (simp only [List.length_drop, List.length_take]; rfl)) ?_
                    with_reducible refine (metrolabref31_Moved.calls ((rd_T30 l0 x8_1).f0) ((rd_T30 l0 x8_1).f1) ((rd_T30 l0 x8_1).f2) a1_0 a1_1 a1_2 t278 t279 t280 _ A13.out).mono ?_
                    rintro e w30 ⟨rfl, hb⟩
                    refine ⟨_, rfl, ?_⟩
                    have n0_ := Aside0.mk (Kd.R_below (by (with_reducible repeat (first | apply Kd.R_alloc | apply Kd.R_drewN | apply Kd.R_drew)); exact HO_7.out) hb)
                    have n1_ := Aside0.mk (blk_below (g := gb274) (o := .cells #[.int .i64 a1_0, .int .i64 a1_1, .int .i64 a1_2] 30 (0, 0)) (by (with_reducible repeat (first | refine blk_drewN ?_ _ | refine blk_drew ?_ | refine blk_alloc ?_ _)); exact BK274.out) hb)
                    have n2_ := Aside0.mk (below_step (by repeat (first | (with_reducible first | exact HB.out | apply below_alloc | apply pw_below_drewN | apply below_drew1 | refine below_set ?_ GE274.out) | exact HB.out)) hb)
                    clear HO_7
                    clear BK274
                    clear HB
                    have HO_7 := n0_
                    have BK274 := n1_
                    have HB := n2_
                    clear n0_ n1_ n2_
                    (try clear hb)
                    (try clear hb2)
                    (try clear hk)
                    (try clear hi)
                    refine hK.out _ _ ⟨(blk_cell BK274.out 0).trans rfl, (blk_cell BK274.out 1).trans rfl, (blk_cell BK274.out 2).trans rfl, ((HB.out.cell (World.block_lt_of_cell? w _ hw277_0)).trans hw277_0), ((HB.out.cell (World.block_lt_of_cell? w _ hw277_1)).trans hw277_1), ((HB.out.cell (World.block_lt_of_cell? w _ hw277_2)).trans hw277_2)⟩ (fun hHeld => ?_)
                    clear hK K
                    refine norm_ (a' := ?_) ?_ ?_
                    rotate_left
                    · show Act.put _ (some 29) _ = _
                      simp only [Act.put, List.setIfInBounds_toArray, List.set_cons_zero, List.set_cons_succ, i64_w, i32_w]
                      rfl
                    refine one_ (i := 6) (N := some 9) #[true, true, true, true, true, true, true, false] rfl rfl (one_of HT_.out (by kernel_rfl)) (by decide) (fun K hK => ?_)
                    refine box_step ?hg (N := 9) ?hd (cs := #[.int .i64 0, .int .i64 0, .int .i64 0]) (t := 30) ?hr ?_; (case hd => rfl); (case hg => rfl); (case hr => first | (go_simp; done) | (go_simp; rfl))
                    intro gb281 hg w31 hbox hb
                    have n0_ := Aside0.mk (Kd.R_below (Kd.R_elderB (by (with_reducible repeat (first | apply Kd.R_alloc | apply Kd.R_drewN | apply Kd.R_drew)); exact HO_7.out) gb281 (Nat.le_of_eq hg.symm)) hb)
                    have n1_ := Aside0.mk (blk_below (g := gb274) (o := .cells #[.int .i64 a1_0, .int .i64 a1_1, .int .i64 a1_2] 30 (0, 0)) (by (with_reducible repeat (first | refine blk_drewN ?_ _ | refine blk_drew ?_ | refine blk_alloc ?_ _)); exact BK274.out) hb)
                    have n2_ := Aside0.mk (below_step (by repeat (first | (with_reducible first | exact HB.out | apply below_alloc | apply pw_below_drewN | apply below_drew1 | refine below_set ?_ GE274.out) | exact HB.out)) hb)
                    have n3_ := Aside0.mk (hbox)
                    have n4_ := Aside0.mk ((by rw [hg]; exact (below_size (by repeat (first | (with_reducible first | exact HB.out | apply below_alloc | apply pw_below_drewN | apply below_drew1 | refine below_set ?_ GE274.out) | exact HB.out))) : w.heap.size ≤ gb281))
                    have n5_ := Aside0.mk ((by rw [hg]; exact (below_size (by repeat (first | (with_reducible first | exact HB.out | apply below_alloc | apply pw_below_drewN | apply below_drew1 | refine below_set ?_ GE274.out) | exact HB.out))) : w.heap.size ≤ gb281))
                    have n6_ := Aside0.mk ((by rw [hg]; exact Nat.ne_of_lt (blk_lt (g := gb274) (o := .cells #[.int .i64 a1_0, .int .i64 a1_1, .int .i64 a1_2] 30 (0, 0)) (by (with_reducible repeat (first | refine blk_drewN ?_ _ | refine blk_drew ?_ | refine blk_alloc ?_ _)); exact BK274.out)) : gb274 ≠ gb281))
                    have n7_ := Aside0.mk ((by rw [hg]; exact Nat.ne_of_gt (blk_lt (g := gb274) (o := .cells #[.int .i64 a1_0, .int .i64 a1_1, .int .i64 a1_2] 30 (0, 0)) (by (with_reducible repeat (first | refine blk_drewN ?_ _ | refine blk_drew ?_ | refine blk_alloc ?_ _)); exact BK274.out)) : gb281 ≠ gb274))
                    clear HO_7
                    clear BK274
                    clear HB
                    have HO_7 := n0_
                    have BK274 := n1_
                    have HB := n2_
                    have BK281 := n3_
                    have GW281 := n4_
                    have GE281 := n5_
                    have NB274_281 := n6_
                    have NB281_274 := n7_
                    clear n0_ n1_ n2_ n3_ n4_ n5_ n6_ n7_
                    clear hb hbox hg
                    refine hK.out _ _ ⟨(blk_cell BK274.out 0).trans rfl, (blk_cell BK274.out 1).trans rfl, (blk_cell BK274.out 2).trans rfl, ((HB.out.cell (World.block_lt_of_cell? w _ hw277_0)).trans hw277_0), ((HB.out.cell (World.block_lt_of_cell? w _ hw277_1)).trans hw277_1), ((HB.out.cell (World.block_lt_of_cell? w _ hw277_2)).trans hw277_2)⟩ (fun hHeld => ?_)
                    clear hK K
                    refine norm_ (a' := ?_) ?_ ?_
                    rotate_left
                    · show Act.put _ (some 9) _ = _
                      simp only [Act.put, List.setIfInBounds_toArray, List.set_cons_zero, List.set_cons_succ, i64_w, i32_w]
                      rfl
                    exact norm_ (by simp only [putAll, Act.put, List.setIfInBounds_toArray, List.set_cons_zero, List.set_cons_succ]) (hCont (gb281) _ ⟨hHeld, (by (with_reducible repeat (first | apply Kd.R_alloc | apply Kd.R_drewN | apply Kd.R_drew)); exact HO_7.out), (by (with_reducible repeat (first | refine blk_drewN ?_ _ | refine blk_drew ?_ | refine blk_alloc ?_ _)); exact BK274.out), (by (with_reducible repeat (first | refine blk_drewN ?_ _ | refine blk_drew ?_ | refine blk_alloc ?_ _)); exact BK281.out), GW281.out, GE281.out, NB274_281.out, NB281_274.out, (by repeat (first | (with_reducible first | exact HB.out | apply below_alloc | apply pw_below_drewN | apply below_drew1 | refine below_set ?_ GE274.out | refine below_set ?_ GE281.out) | exact HB.out))⟩)
                  · skip
                    refine box_step ?hg (N := 9) ?hd (cs := #[.int .i64 0, .int .i64 0, .int .i64 0]) (t := 30) ?hr ?_; (case hd => rfl); (case hg => rfl); (case hr => first | (go_simp; done) | (go_simp; rfl))
                    intro gb281 hg w30 hbox hb
                    have n0_ := Aside0.mk (Kd.R_below (Kd.R_elderB (by (with_reducible repeat (first | apply Kd.R_alloc | apply Kd.R_drewN | apply Kd.R_drew)); exact HO_7.out) gb281 (Nat.le_of_eq hg.symm)) hb)
                    have n1_ := Aside0.mk (blk_below (g := gb274) (o := .cells #[.int .i64 a1_0, .int .i64 a1_1, .int .i64 a1_2] 30 (0, 0)) (by (with_reducible repeat (first | refine blk_drewN ?_ _ | refine blk_drew ?_ | refine blk_alloc ?_ _)); exact BK274.out) hb)
                    have n2_ := Aside0.mk (below_step (by repeat (first | (with_reducible first | exact HB.out | apply below_alloc | apply pw_below_drewN | apply below_drew1 | refine below_set ?_ GE274.out) | exact HB.out)) hb)
                    have n3_ := Aside0.mk (hbox)
                    have n4_ := Aside0.mk ((by rw [hg]; exact (below_size (by repeat (first | (with_reducible first | exact HB.out | apply below_alloc | apply pw_below_drewN | apply below_drew1 | refine below_set ?_ GE274.out) | exact HB.out))) : w.heap.size ≤ gb281))
                    have n5_ := Aside0.mk ((by rw [hg]; exact (below_size (by repeat (first | (with_reducible first | exact HB.out | apply below_alloc | apply pw_below_drewN | apply below_drew1 | refine below_set ?_ GE274.out) | exact HB.out))) : w.heap.size ≤ gb281))
                    have n6_ := Aside0.mk ((by rw [hg]; exact Nat.ne_of_lt (blk_lt (g := gb274) (o := .cells #[.int .i64 a1_0, .int .i64 a1_1, .int .i64 a1_2] 30 (0, 0)) (by (with_reducible repeat (first | refine blk_drewN ?_ _ | refine blk_drew ?_ | refine blk_alloc ?_ _)); exact BK274.out)) : gb274 ≠ gb281))
                    have n7_ := Aside0.mk ((by rw [hg]; exact Nat.ne_of_gt (blk_lt (g := gb274) (o := .cells #[.int .i64 a1_0, .int .i64 a1_1, .int .i64 a1_2] 30 (0, 0)) (by (with_reducible repeat (first | refine blk_drewN ?_ _ | refine blk_drew ?_ | refine blk_alloc ?_ _)); exact BK274.out)) : gb281 ≠ gb274))
                    clear HO_7
                    clear BK274
                    clear HB
                    have HO_7 := n0_
                    have BK274 := n1_
                    have HB := n2_
                    have BK281 := n3_
                    have GW281 := n4_
                    have GE281 := n5_
                    have NB274_281 := n6_
                    have NB281_274 := n7_
                    clear n0_ n1_ n2_ n3_ n4_ n5_ n6_ n7_
                    clear hb hbox hg
                    refine hK.out _ _ ⟨(blk_cell BK274.out 0).trans rfl, (blk_cell BK274.out 1).trans rfl, (blk_cell BK274.out 2).trans rfl, ((HB.out.cell (World.block_lt_of_cell? w _ hw277_0)).trans hw277_0), ((HB.out.cell (World.block_lt_of_cell? w _ hw277_1)).trans hw277_1), ((HB.out.cell (World.block_lt_of_cell? w _ hw277_2)).trans hw277_2)⟩ (fun hHeld => ?_)
                    clear hK K
                    refine norm_ (a' := ?_) ?_ ?_
                    rotate_left
                    · show Act.put _ (some 9) _ = _
                      simp only [Act.put, List.setIfInBounds_toArray, List.set_cons_zero, List.set_cons_succ, i64_w, i32_w]
                      rfl
                    refine one_ (i := 5) (N := some 29) #[true, true, true, true, true, true, true, false] rfl rfl (one_of HT_.out (by kernel_rfl)) (by decide) (fun K hK => ?_)
                    refine goes_ Try.func62 (by kernel_rfl) rfl #[.agg #[.int .i64 ((rd_T30 l0 x8_1).f0), .int .i64 ((rd_T30 l0 x8_1).f1), .int .i64 ((rd_T30 l0 x8_1).f2)], .agg #[.int .i64 a1_0, .int .i64 a1_1, .int .i64 a1_2]] (by rfl) rfl rfl (by (try simp only [List.map_toArray, List.map_cons, List.map_nil]); first | done | rfl | (simp only [List.length_drop, List.length_take]; rfl)) ?_
                    with_reducible refine (metrolabref31_Moved.calls ((rd_T30 l0 x8_1).f0) ((rd_T30 l0 x8_1).f1) ((rd_T30 l0 x8_1).f2) a1_0 a1_1 a1_2 t278 t279 t280 _ A13.out).mono ?_
                    rintro e w31 ⟨rfl, hb⟩
                    refine ⟨_, rfl, ?_⟩
                    have n0_ := Aside0.mk (Kd.R_below (by (with_reducible repeat (first | apply Kd.R_alloc | apply Kd.R_drewN | apply Kd.R_drew)); exact HO_7.out) hb)
                    have n1_ := Aside0.mk (blk_below (g := gb274) (o := .cells #[.int .i64 a1_0, .int .i64 a1_1, .int .i64 a1_2] 30 (0, 0)) (by (with_reducible repeat (first | refine blk_drewN ?_ _ | refine blk_drew ?_ | refine blk_alloc ?_ _)); exact BK274.out) hb)
                    have n2_ := Aside0.mk (blk_below (g := gb281) (o := .cells #[.int .i64 0, .int .i64 0, .int .i64 0] 30 (0, 0)) (by (with_reducible repeat (first | refine blk_drewN ?_ _ | refine blk_drew ?_ | refine blk_alloc ?_ _)); exact BK281.out) hb)
                    have n3_ := Aside0.mk (below_step (by repeat (first | (with_reducible first | exact HB.out | apply below_alloc | apply pw_below_drewN | apply below_drew1 | refine below_set ?_ GE274.out | refine below_set ?_ GE281.out) | exact HB.out)) hb)
                    clear HO_7
                    clear BK274
                    clear BK281
                    clear HB
                    have HO_7 := n0_
                    have BK274 := n1_
                    have BK281 := n2_
                    have HB := n3_
                    clear n0_ n1_ n2_ n3_
                    (try clear hb)
                    (try clear hb2)
                    (try clear hk)
                    (try clear hi)
                    refine hK.out _ _ ⟨(blk_cell BK274.out 0).trans rfl, (blk_cell BK274.out 1).trans rfl, (blk_cell BK274.out 2).trans rfl, ((HB.out.cell (World.block_lt_of_cell? w _ hw277_0)).trans hw277_0), ((HB.out.cell (World.block_lt_of_cell? w _ hw277_1)).trans hw277_1), ((HB.out.cell (World.block_lt_of_cell? w _ hw277_2)).trans hw277_2)⟩ (fun hHeld => ?_)
                    clear hK K
                    refine norm_ (a' := ?_) ?_ ?_
                    rotate_left
                    · show Act.put _ (some 29) _ = _
                      simp only [Act.put, List.setIfInBounds_toArray, List.set_cons_zero, List.set_cons_succ, i64_w, i32_w]
                      rfl
                    exact norm_ (by simp only [putAll, Act.put, List.setIfInBounds_toArray, List.set_cons_zero, List.set_cons_succ]) (hCont (gb281) _ ⟨hHeld, (by (with_reducible repeat (first | apply Kd.R_alloc | apply Kd.R_drewN | apply Kd.R_drew)); exact HO_7.out), (by (with_reducible repeat (first | refine blk_drewN ?_ _ | refine blk_drew ?_ | refine blk_alloc ?_ _)); exact BK274.out), (by (with_reducible repeat (first | refine blk_drewN ?_ _ | refine blk_drew ?_ | refine blk_alloc ?_ _)); exact BK281.out), GW281.out, GE281.out, NB274_281.out, NB281_274.out, (by repeat (first | (with_reducible first | exact HB.out | apply below_alloc | apply pw_below_drewN | apply below_drew1 | refine below_set ?_ GE274.out | refine below_set ?_ GE281.out) | exact HB.out))⟩)
                rintro gb281 w32 ⟨hS_, h0_, h1_, h2_, h3_, h4_, h5_, h6_, h7_⟩
                have n0_ : Aside0 (Kd.R k30 30 w32 w.heap.size (fun k_ => k_ ≠ gb274 ∧ k_ ≠ gb281) u7 x7_1) := ⟨h0_⟩
                have n1_ : Aside0 (w32.heap[gb274]? = some (.cells #[.int .i64 a1_0, .int .i64 a1_1, .int .i64 a1_2] 30 (0, 0))) := ⟨h1_⟩
                have n2_ : Aside0 (w32.heap[gb281]? = some (.cells #[.int .i64 0, .int .i64 0, .int .i64 0] 30 (0, 0))) := ⟨h2_⟩
                have n3_ : Aside0 (w.heap.size ≤ gb281) := ⟨h3_⟩
                have n4_ : Aside0 (w.heap.size ≤ gb281) := ⟨h4_⟩
                have n5_ : Aside0 (gb274 ≠ gb281) := ⟨h5_⟩
                have n6_ : Aside0 (gb281 ≠ gb274) := ⟨h6_⟩
                have n7_ : Aside0 (Below w.heap.size w w32) := ⟨h7_⟩
                clear HO_7
                clear BK274
                clear HB
                clear h0_ h1_ h2_ h3_ h4_ h5_ h6_ h7_
                have HO_7 := n0_
                have BK274 := n1_
                have BK281 := n2_
                have GW281 := n3_
                have GE281 := n4_
                have NB274_281 := n5_
                have NB281_274 := n6_
                have HB := n7_
                clear n0_ n1_ n2_ n3_ n4_ n5_ n6_ n7_
                have hHeld : w32.cell? ⟨gb274, 0, none⟩ = some (.int .i64 a1_0) ∧ w32.cell? ⟨gb274, 1, none⟩ = some (.int .i64 a1_1) ∧ w32.cell? ⟨gb274, 2, none⟩ = some (.int .i64 a1_2) ∧ w32.cell? (ad277.add ((x8_1).toNat * 3)) = some (.int .i64 ((rd_T30 l0 x8_1).f0)) ∧ w32.cell? ⟨(ad277.add ((x8_1).toNat * 3)).block, (ad277.add ((x8_1).toNat * 3)).off + 1, none⟩ = some (.int .i64 ((rd_T30 l0 x8_1).f1)) ∧ w32.cell? ⟨(ad277.add ((x8_1).toNat * 3)).block, (ad277.add ((x8_1).toNat * 3)).off + 2, none⟩ = some (.int .i64 ((rd_T30 l0 x8_1).f2)) := hS_
                refine norm_ (a' := ?_) ?_ ?_
                rotate_left
                · simp only [putAll, Act.put, List.setIfInBounds_toArray, List.set_cons_zero, List.set_cons_succ]
                  rfl
                refine one_ (i := 7) (N := none) #[true, true, true, true, true, true, true, true] rfl rfl (one_of HT_.out (by kernel_rfl)) (by decide) (fun K hK => ?_)
                have hs33 : w32.cell? ⟨gb281, 0, none⟩ = some (.int .i64 0) := (blk_cell BK281.out 0).trans rfl
                have hfs33 := blk_frozen BK281.out 0
                have hns33_0 := NB274_281.out
                have hms33_0 := NB281_274.out
                have hs34 : w32.cell? ⟨gb281, 1, none⟩ = some (.int .i64 0) := (blk_cell BK281.out 1).trans rfl
                have hfs34 := blk_frozen BK281.out 1
                have hns34_0 := NB274_281.out
                have hms34_0 := NB281_274.out
                have hs35 : w32.cell? ⟨gb281, 2, none⟩ = some (.int .i64 0) := (blk_cell BK281.out 2).trans rfl
                have hfs35 := blk_frozen BK281.out 2
                have hns35_0 := NB274_281.out
                have hms35_0 := NB281_274.out
                refine skip_ (w1 := ?_) (by rfl) rfl ?_ ?_
                rotate_left
                · go_simp
                  rfl
                refine hK.out _ _ ⟨((cell_far (p := ⟨gb281, _, none⟩) NB274_281.out _).trans (((cell_far (p := ⟨gb281, _, none⟩) NB274_281.out _).trans (((cell_far (p := ⟨gb281, _, none⟩) NB274_281.out _).trans (hHeld.1)))))), ((cell_far (p := ⟨gb281, _, none⟩) NB274_281.out _).trans (((cell_far (p := ⟨gb281, _, none⟩) NB274_281.out _).trans (((cell_far (p := ⟨gb281, _, none⟩) NB274_281.out _).trans (hHeld.2.1)))))), ((cell_far (p := ⟨gb281, _, none⟩) NB274_281.out _).trans (((cell_far (p := ⟨gb281, _, none⟩) NB274_281.out _).trans (((cell_far (p := ⟨gb281, _, none⟩) NB274_281.out _).trans (hHeld.2.2.1)))))), ((cell_far (p := ⟨gb281, _, none⟩) (by first | exact Nat.ne_of_lt (Nat.lt_of_lt_of_le (by have := World.block_lt_of_cell? _ _ hw277_0; first | rwa [add_block] at this | exact this) GW281.out) | (rw [add_block]; exact Nat.ne_of_lt (Nat.lt_of_lt_of_le (by have := World.block_lt_of_cell? _ _ hw277_0; first | rwa [add_block] at this | exact this) GW281.out)) | (show (Addr.add _ _).block ≠ _; rw [add_block]; exact Nat.ne_of_lt (Nat.lt_of_lt_of_le (by have := World.block_lt_of_cell? _ _ hw277_0; first | rwa [add_block] at this | exact this) GW281.out)) | (dsimp only; exact Nat.ne_of_lt (Nat.lt_of_lt_of_le (by have := World.block_lt_of_cell? _ _ hw277_0; first | rwa [add_block] at this | exact this) GW281.out))) _).trans (((cell_far (p := ⟨gb281, _, none⟩) (by first | exact Nat.ne_of_lt (Nat.lt_of_lt_of_le (by have := World.block_lt_of_cell? _ _ hw277_0; first | rwa [add_block] at this | exact this) GW281.out) | (rw [add_block]; exact Nat.ne_of_lt (Nat.lt_of_lt_of_le (by have := World.block_lt_of_cell? _ _ hw277_0; first | rwa [add_block] at this | exact this) GW281.out)) | (show (Addr.add _ _).block ≠ _; rw [add_block]; exact Nat.ne_of_lt (Nat.lt_of_lt_of_le (by have := World.block_lt_of_cell? _ _ hw277_0; first | rwa [add_block] at this | exact this) GW281.out)) | (dsimp only; exact Nat.ne_of_lt (Nat.lt_of_lt_of_le (by have := World.block_lt_of_cell? _ _ hw277_0; first | rwa [add_block] at this | exact this) GW281.out))) _).trans (((cell_far (p := ⟨gb281, _, none⟩) (by first | exact Nat.ne_of_lt (Nat.lt_of_lt_of_le (by have := World.block_lt_of_cell? _ _ hw277_0; first | rwa [add_block] at this | exact this) GW281.out) | (rw [add_block]; exact Nat.ne_of_lt (Nat.lt_of_lt_of_le (by have := World.block_lt_of_cell? _ _ hw277_0; first | rwa [add_block] at this | exact this) GW281.out)) | (show (Addr.add _ _).block ≠ _; rw [add_block]; exact Nat.ne_of_lt (Nat.lt_of_lt_of_le (by have := World.block_lt_of_cell? _ _ hw277_0; first | rwa [add_block] at this | exact this) GW281.out)) | (dsimp only; exact Nat.ne_of_lt (Nat.lt_of_lt_of_le (by have := World.block_lt_of_cell? _ _ hw277_0; first | rwa [add_block] at this | exact this) GW281.out))) _).trans (hHeld.2.2.2.1)))))), ((cell_far (p := ⟨gb281, _, none⟩) (by first | exact Nat.ne_of_lt (Nat.lt_of_lt_of_le (by have := World.block_lt_of_cell? _ _ hw277_1; first | rwa [add_block] at this | exact this) GW281.out) | (rw [add_block]; exact Nat.ne_of_lt (Nat.lt_of_lt_of_le (by have := World.block_lt_of_cell? _ _ hw277_1; first | rwa [add_block] at this | exact this) GW281.out)) | (show (Addr.add _ _).block ≠ _; rw [add_block]; exact Nat.ne_of_lt (Nat.lt_of_lt_of_le (by have := World.block_lt_of_cell? _ _ hw277_1; first | rwa [add_block] at this | exact this) GW281.out)) | (dsimp only; exact Nat.ne_of_lt (Nat.lt_of_lt_of_le (by have := World.block_lt_of_cell? _ _ hw277_1; first | rwa [add_block] at this | exact this) GW281.out))) _).trans (((cell_far (p := ⟨gb281, _, none⟩) (by first | exact Nat.ne_of_lt (Nat.lt_of_lt_of_le (by have := World.block_lt_of_cell? _ _ hw277_1; first | rwa [add_block] at this | exact this) GW281.out) | (rw [add_block]; exact Nat.ne_of_lt (Nat.lt_of_lt_of_le (by have := World.block_lt_of_cell? _ _ hw277_1; first | rwa [add_block] at this | exact this) GW281.out)) | (show (Addr.add _ _).block ≠ _; rw [add_block]; exact Nat.ne_of_lt (Nat.lt_of_lt_of_le (by have := World.block_lt_of_cell? _ _ hw277_1; first | rwa [add_block] at this | exact this) GW281.out)) | (dsimp only; exact Nat.ne_of_lt (Nat.lt_of_lt_of_le (by have := World.block_lt_of_cell? _ _ hw277_1; first | rwa [add_block] at this | exact this) GW281.out))) _).trans (((cell_far (p := ⟨gb281, _, none⟩) (by first | exact Nat.ne_of_lt (Nat.lt_of_lt_of_le (by have := World.block_lt_of_cell? _ _ hw277_1; first | rwa [add_block] at this | exact this) GW281.out) | (rw [add_block]; exact Nat.ne_of_lt (Nat.lt_of_lt_of_le (by have := World.block_lt_of_cell? _ _ hw277_1; first | rwa [add_block] at this | exact this) GW281.out)) | (show (Addr.add _ _).block ≠ _; rw [add_block]; exact Nat.ne_of_lt (Nat.lt_of_lt_of_le (by have := World.block_lt_of_cell? _ _ hw277_1; first | rwa [add_block] at this | exact this) GW281.out)) | (dsimp only; exact Nat.ne_of_lt (Nat.lt_of_lt_of_le (by have := World.block_lt_of_cell? _ _ hw277_1; first | rwa [add_block] at this | exact this) GW281.out))) _).trans (hHeld.2.2.2.2.1)))))), ((cell_far (p := ⟨gb281, _, none⟩) (by first | exact Nat.ne_of_lt (Nat.lt_of_lt_of_le (by have := World.block_lt_of_cell? _ _ hw277_2; first | rwa [add_block] at this | exact this) GW281.out) | (rw [add_block]; exact Nat.ne_of_lt (Nat.lt_of_lt_of_le (by have := World.block_lt_of_cell? _ _ hw277_2; first | rwa [add_block] at this | exact this) GW281.out)) | (show (Addr.add _ _).block ≠ _; rw [add_block]; exact Nat.ne_of_lt (Nat.lt_of_lt_of_le (by have := World.block_lt_of_cell? _ _ hw277_2; first | rwa [add_block] at this | exact this) GW281.out)) | (dsimp only; exact Nat.ne_of_lt (Nat.lt_of_lt_of_le (by have := World.block_lt_of_cell? _ _ hw277_2; first | rwa [add_block] at this | exact this) GW281.out))) _).trans (((cell_far (p := ⟨gb281, _, none⟩) (by first | exact Nat.ne_of_lt (Nat.lt_of_lt_of_le (by have := World.block_lt_of_cell? _ _ hw277_2; first | rwa [add_block] at this | exact this) GW281.out) | (rw [add_block]; exact Nat.ne_of_lt (Nat.lt_of_lt_of_le (by have := World.block_lt_of_cell? _ _ hw277_2; first | rwa [add_block] at this | exact this) GW281.out)) | (show (Addr.add _ _).block ≠ _; rw [add_block]; exact Nat.ne_of_lt (Nat.lt_of_lt_of_le (by have := World.block_lt_of_cell? _ _ hw277_2; first | rwa [add_block] at this | exact this) GW281.out)) | (dsimp only; exact Nat.ne_of_lt (Nat.lt_of_lt_of_le (by have := World.block_lt_of_cell? _ _ hw277_2; first | rwa [add_block] at this | exact this) GW281.out))) _).trans (((cell_far (p := ⟨gb281, _, none⟩) (by first | exact Nat.ne_of_lt (Nat.lt_of_lt_of_le (by have := World.block_lt_of_cell? _ _ hw277_2; first | rwa [add_block] at this | exact this) GW281.out) | (rw [add_block]; exact Nat.ne_of_lt (Nat.lt_of_lt_of_le (by have := World.block_lt_of_cell? _ _ hw277_2; first | rwa [add_block] at this | exact this) GW281.out)) | (show (Addr.add _ _).block ≠ _; rw [add_block]; exact Nat.ne_of_lt (Nat.lt_of_lt_of_le (by have := World.block_lt_of_cell? _ _ hw277_2; first | rwa [add_block] at this | exact this) GW281.out)) | (dsimp only; exact Nat.ne_of_lt (Nat.lt_of_lt_of_le (by have := World.block_lt_of_cell? _ _ hw277_2; first | rwa [add_block] at this | exact this) GW281.out))) _).trans (hHeld.2.2.2.2.2))))))⟩ (fun hHeld => ?_)
                clear hK K
                refine done_ (done_of HT_.out (by kernel_rfl)) ?_
                have hnb36 := NB281_274.out
                have hnc36 := NB274_281.out
                have hcz37_0 : w32.cell? ⟨gb281, 0, none⟩ = some (.int .i64 0) := (blk_cell BK281.out 0).trans rfl
                have hcz37_1 : w32.cell? ⟨gb281, 1, none⟩ = some (.int .i64 0) := (blk_cell BK281.out 1).trans rfl
                have hcz37_2 : w32.cell? ⟨gb281, 2, none⟩ = some (.int .i64 0) := (blk_cell BK281.out 2).trans rfl
                have hfz37_0 := blk_frozen BK281.out 0
                have hfz37_1 := blk_frozen BK281.out 1
                have hfz37_2 := blk_frozen BK281.out 2
                try go_wp2_with (first | ((with_reducible refine gate_callee (f := 61) rfl ?_); refine goesL_ (some 31) rfl rfl Try.func61 (by kernel_rfl) rfl #[.agg #[.int .i64 t278, .int .i64 t279, .int .i64 t280]] rfl (by (try simp only [List.map_toArray, List.map_cons, List.map_nil]); first | done | rfl | (simp only [List.length_drop, List.length_take]; rfl)) ?_; (with_reducible refine (metrolabref07_RightSpot.calls t278 t279 t280 false _ A14.out).mono ?_); rintro e w38 ⟨rfl, hb⟩; refine ⟨_, rfl, ?_⟩; have n0_ := Aside0.mk (Kd.R_below (by (with_reducible repeat (first | apply Kd.R_alloc | apply Kd.R_drewN | apply Kd.R_drew)); exact (Kd.R_mono (Kd.R_far (p := ⟨gb281, 2, none⟩) (Kd.R_far (p := ⟨gb281, 1, none⟩) (Kd.R_far (p := ⟨gb281, 0, none⟩) (Kd.R_mono HO_7.out (fun k_ hk => (⟨hk, hk.2⟩ : _ ∧ k_ ≠ gb281))) (fun _ hk => hk.2) (.int .i64 t278)) (fun _ hk => hk.2) (.int .i64 t279)) (fun _ hk => hk.2) (.int .i64 t280)) (fun _ h_ => h_.1))) hb); have n1_ := Aside0.mk (blk_below (g := gb274) (o := .cells #[.int .i64 a1_0, .int .i64 a1_1, .int .i64 a1_2] 30 (0, 0)) (by (with_reducible repeat (first | refine blk_drewN ?_ _ | refine blk_drew ?_ | refine blk_alloc ?_ _)); refine blk_far ?_ NB274_281.out _; (with_reducible repeat (first | refine blk_drewN ?_ _ | refine blk_drew ?_ | refine blk_alloc ?_ _)); refine blk_far ?_ NB274_281.out _; (with_reducible repeat (first | refine blk_drewN ?_ _ | refine blk_drew ?_ | refine blk_alloc ?_ _)); refine blk_far ?_ NB274_281.out _; (with_reducible repeat (first | refine blk_drewN ?_ _ | refine blk_drew ?_ | refine blk_alloc ?_ _)); exact BK274.out) hb); have n2_ := Aside0.mk (blk_below (g := gb281) (o := .cells #[.int .i64 t278, .int .i64 t279, .int .i64 t280] 30 (0, 0)) (by (with_reducible repeat (first | refine blk_drewN ?_ _ | refine blk_drew ?_ | refine blk_alloc ?_ _)); refine blk_put (cs := #[.int .i64 t278, .int .i64 t279, .int .i64 0]) ?_ 2 _ rfl; (with_reducible repeat (first | refine blk_drewN ?_ _ | refine blk_drew ?_ | refine blk_alloc ?_ _)); refine blk_put (cs := #[.int .i64 t278, .int .i64 0, .int .i64 0]) ?_ 1 _ rfl; (with_reducible repeat (first | refine blk_drewN ?_ _ | refine blk_drew ?_ | refine blk_alloc ?_ _)); refine blk_put (cs := #[.int .i64 0, .int .i64 0, .int .i64 0]) ?_ 0 _ rfl; (with_reducible repeat (first | refine blk_drewN ?_ _ | refine blk_drew ?_ | refine blk_alloc ?_ _)); exact BK281.out) hb); have n3_ := Aside0.mk (below_step (by repeat (first | (with_reducible first | exact HB.out | apply below_alloc | apply pw_below_drewN | apply below_drew1 | refine below_set ?_ GE274.out | refine below_set ?_ GE281.out) | exact HB.out)) hb); clear HO_7; clear BK274; clear BK281; clear HB; have HO_7 := n0_; have BK274 := n1_; have BK281 := n2_; have HB := n3_; clear n0_ n1_ n2_ n3_; (try clear hb); (try clear hb2); (try clear hk); (try clear hi)))
                go_ret2
                exact ⟨_, by first | rfl | (simp [errW_none, errW_some] <;> rfl) | (simp [*, errW_none, errW_some] <;> rfl), by first | exact Kd.R_nil _ _ _ _ _ | exact Kd.N_nil _ _ _ _ _ | exact Kd.V_nil _ _ _ _ _ | exact Kd.Q_nil _ _ _ _ _ | exact Kd.S_nil _ _ _ _ _, by repeat (first | (with_reducible first | exact HB.out | apply below_alloc | apply pw_below_drewN | apply below_drew1 | refine below_set ?_ GE274.out | refine below_set ?_ GE281.out) | exact HB.out)⟩
            · rw [if_neg c12] at H
              exact absurd H (by simp)
          · rw [if_neg c11] at H
            have c11b0 : decide (x8_1 < (l0.length : Int)) = false := decide_eq_false c11
            clear c11
            simp only [Option.some.injEq, Prod.mk.injEq] at H
            obtain ⟨rfl, rfl⟩ := H
            go_wp2
            go_ret2
            exact ⟨_, by first | rfl | (simp [errW_none, errW_some] <;> rfl) | (simp [*, errW_none, errW_some] <;> rfl), by (with_reducible repeat (first | apply Kd.R_alloc | apply Kd.R_drewN | apply Kd.R_drew)); exact Kd.R_mono HO_7.out (fun _ hk => trivial), by repeat (first | (with_reducible first | exact HB.out | apply below_alloc | apply pw_below_drewN | apply below_drew1 | refine below_set ?_ GE274.out) | exact HB.out)⟩
    · replace c6 := Bool.eq_false_iff.mpr c6
      subst c6
      have H1 : (some (([] : List (S30)), 2)) = some (r1, r2) := by rw [if_neg (show ¬ (false = true) by decide)] at H; exact H
      clear H
      have H := H1
      clear H1
      simp only [Option.some.injEq, Prod.mk.injEq] at H
      obtain ⟨rfl, rfl⟩ := H
      go_enter Try.func26, Try.ntmps26
      go_wp2_with (first | ((with_reducible refine gate_dst (N := 3) rfl ?_); refine box_event ?hg (N := 3) ?hd (cs := #[.int .i64 a1_0, .int .i64 a1_1, .int .i64 a1_2]) (t := 30) ?hr ?_; (case hd => rfl); (case hg => rfl); (case hr => first | (go_simp; done) | (go_simp; rfl)); intro gb274 hg w39 hbox hb; have n0_ := Aside0.mk (below_step (by repeat (first | (with_reducible first | exact HB.out | apply below_alloc | apply pw_below_drewN | apply below_drew1) | exact HB.out)) hb); have n1_ := Aside0.mk (hbox); have n2_ := Aside0.mk ((by rw [hg]; exact (below_size (by repeat (first | (with_reducible first | exact HB.out | apply below_alloc | apply pw_below_drewN | apply below_drew1) | exact HB.out))) : w.heap.size ≤ gb274)); have n3_ := Aside0.mk ((by rw [hg]; exact (below_size (by repeat (first | (with_reducible first | exact HB.out | apply below_alloc | apply pw_below_drewN | apply below_drew1) | exact HB.out))) : w.heap.size ≤ gb274)); clear HB; have HB := n0_; have BK274 := n1_; have GW274 := n2_; have GE274 := n3_; clear n0_ n1_ n2_ n3_; clear hb hbox hg) | ((with_reducible refine gate_callee (f := 39) rfl ?_); refine goesL_ (some 11) rfl rfl Try.func39 (by kernel_rfl) rfl #[.slice A0 l0.length c0] rfl (by (try simp only [List.map_toArray, List.map_cons, List.map_nil]); first | done | rfl | (simp only [List.length_drop, List.length_take]; rfl)) ?_; (with_reducible refine (metrolabref07_CheckSpots.calls k _ _ l0 t275 _ ?side1 ?side2 A3.out).mono ?_); (case side1 => repeat (first | exact (Kd.C_below HR0.out HB.out) | (with_reducible refine Kd.C_alloc ?_ _) | (with_reducible refine Kd.C_drewN ?_ _) | (with_reducible refine Kd.C_drew ?_))); (case side2 => exact HC0.out); rintro e w40 ⟨rfl, hb⟩; refine ⟨_, rfl, ?_⟩; have n0_ := Aside0.mk (blk_below (g := gb274) (o := .cells #[.int .i64 a1_0, .int .i64 a1_1, .int .i64 a1_2] 30 (0, 0)) (by (with_reducible repeat (first | refine blk_drewN ?_ _ | refine blk_drew ?_ | refine blk_alloc ?_ _)); exact BK274.out) hb); have n1_ := Aside0.mk (below_step (by repeat (first | (with_reducible first | exact HB.out | apply below_alloc | apply pw_below_drewN | apply below_drew1 | refine below_set ?_ GE274.out) | exact HB.out)) hb); clear BK274; clear HB; have BK274 := n0_; have HB := n1_; clear n0_ n1_; (try clear hb); (try clear hb2); (try clear hk); (try clear hi); have hcz41_0 : w40.cell? ⟨gb274, 0, none⟩ = some (.int .i64 a1_0) := (blk_cell BK274.out 0).trans rfl; have hcz41_1 : w40.cell? ⟨gb274, 1, none⟩ = some (.int .i64 a1_1) := (blk_cell BK274.out 1).trans rfl; have hcz41_2 : w40.cell? ⟨gb274, 2, none⟩ = some (.int .i64 a1_2) := (blk_cell BK274.out 2).trans rfl; have hfz41_0 := blk_frozen BK274.out 0; have hfz41_1 := blk_frozen BK274.out 1; have hfz41_2 := blk_frozen BK274.out 2) | ((with_reducible refine gate_callee (f := 61) rfl ?_); refine goesL_ (some 16) rfl rfl Try.func61 (by kernel_rfl) rfl #[.agg #[.int .i64 a1_0, .int .i64 a1_1, .int .i64 a1_2]] rfl (by (try simp only [List.map_toArray, List.map_cons, List.map_nil]); first | done | rfl | (simp only [List.length_drop, List.length_take]; rfl)) ?_; (with_reducible refine (metrolabref07_RightSpot.calls a1_0 a1_1 a1_2 false _ A5.out).mono ?_); rintro e w42 ⟨rfl, hb⟩; refine ⟨_, rfl, ?_⟩; have n0_ := Aside0.mk (blk_below (g := gb274) (o := .cells #[.int .i64 a1_0, .int .i64 a1_1, .int .i64 a1_2] 30 (0, 0)) (by (with_reducible repeat (first | refine blk_drewN ?_ _ | refine blk_drew ?_ | refine blk_alloc ?_ _)); exact BK274.out) hb); have n1_ := Aside0.mk (below_step (by repeat (first | (with_reducible first | exact HB.out | apply below_alloc | apply pw_below_drewN | apply below_drew1 | refine below_set ?_ GE274.out) | exact HB.out)) hb); clear BK274; clear HB; have BK274 := n0_; have HB := n1_; clear n0_ n1_; (try clear hb); (try clear hb2); (try clear hk); (try clear hi)))
      go_ret2
      exact ⟨_, by first | rfl | (simp [errW_none, errW_some] <;> rfl) | (simp [*, errW_none, errW_some] <;> rfl), by first | exact Kd.R_nil _ _ _ _ _ | exact Kd.N_nil _ _ _ _ _ | exact Kd.V_nil _ _ _ _ _ | exact Kd.Q_nil _ _ _ _ _ | exact Kd.S_nil _ _ _ _ _, by repeat (first | (with_reducible first | exact HB.out | apply below_alloc | apply pw_below_drewN | apply below_drew1 | refine below_set ?_ GE274.out) | exact HB.out)⟩
  · rw [if_neg c4] at H
    have c4b0 : (t275 == 0) = false := beq_eq_false_iff_ne.mpr c4
    have c4b1 : (t275 != 0) = true := bne_iff_ne.mpr c4
    simp only [Option.some.injEq, Prod.mk.injEq] at H
    obtain ⟨rfl, rfl⟩ := H
    go_enter Try.func26, Try.ntmps26
    go_wp2_with (first | ((with_reducible refine gate_dst (N := 3) rfl ?_); refine box_event ?hg (N := 3) ?hd (cs := #[.int .i64 a1_0, .int .i64 a1_1, .int .i64 a1_2]) (t := 30) ?hr ?_; (case hd => rfl); (case hg => rfl); (case hr => first | (go_simp; done) | (go_simp; rfl)); intro gb274 hg w43 hbox hb; have n0_ := Aside0.mk (below_step (by repeat (first | (with_reducible first | exact HB.out | apply below_alloc | apply pw_below_drewN | apply below_drew1) | exact HB.out)) hb); have n1_ := Aside0.mk (hbox); have n2_ := Aside0.mk ((by rw [hg]; exact (below_size (by repeat (first | (with_reducible first | exact HB.out | apply below_alloc | apply pw_below_drewN | apply below_drew1) | exact HB.out))) : w.heap.size ≤ gb274)); have n3_ := Aside0.mk ((by rw [hg]; exact (below_size (by repeat (first | (with_reducible first | exact HB.out | apply below_alloc | apply pw_below_drewN | apply below_drew1) | exact HB.out))) : w.heap.size ≤ gb274)); clear HB; have HB := n0_; have BK274 := n1_; have GW274 := n2_; have GE274 := n3_; clear n0_ n1_ n2_ n3_; clear hb hbox hg) | ((with_reducible refine gate_callee (f := 39) rfl ?_); refine goesL_ (some 11) rfl rfl Try.func39 (by kernel_rfl) rfl #[.slice A0 l0.length c0] rfl (by (try simp only [List.map_toArray, List.map_cons, List.map_nil]); first | done | rfl | (simp only [List.length_drop, List.length_take]; rfl)) ?_; (with_reducible refine (metrolabref07_CheckSpots.calls k _ _ l0 t275 _ ?side1 ?side2 A3.out).mono ?_); (case side1 => repeat (first | exact (Kd.C_below HR0.out HB.out) | (with_reducible refine Kd.C_alloc ?_ _) | (with_reducible refine Kd.C_drewN ?_ _) | (with_reducible refine Kd.C_drew ?_))); (case side2 => exact HC0.out); rintro e w44 ⟨rfl, hb⟩; refine ⟨_, rfl, ?_⟩; have n0_ := Aside0.mk (blk_below (g := gb274) (o := .cells #[.int .i64 a1_0, .int .i64 a1_1, .int .i64 a1_2] 30 (0, 0)) (by (with_reducible repeat (first | refine blk_drewN ?_ _ | refine blk_drew ?_ | refine blk_alloc ?_ _)); exact BK274.out) hb); have n1_ := Aside0.mk (below_step (by repeat (first | (with_reducible first | exact HB.out | apply below_alloc | apply pw_below_drewN | apply below_drew1 | refine below_set ?_ GE274.out) | exact HB.out)) hb); clear BK274; clear HB; have BK274 := n0_; have HB := n1_; clear n0_ n1_; (try clear hb); (try clear hb2); (try clear hk); (try clear hi)))
    go_ret2
    exact ⟨_, by first | rfl | (simp [errW_none, errW_some] <;> rfl) | (simp [*, errW_none, errW_some] <;> rfl), by first | exact Kd.R_nil _ _ _ _ _ | exact Kd.N_nil _ _ _ _ _ | exact Kd.V_nil _ _ _ _ _ | exact Kd.Q_nil _ _ _ _ _ | exact Kd.S_nil _ _ _ _ _, by repeat (first | (with_reducible first | exact HB.out | apply below_alloc | apply pw_below_drewN | apply below_drew1 | refine below_set ?_ GE274.out) | exact HB.out)⟩

/-! ### metrolablaw31_PointsShifts: function 5 -/
def metrolablaw31_PointsShifts.f (k : Nat) (l0 : List (S30)) (a1_0 : Int) (a1_1 : Int) (a1_2 : Int) : Option (Bool) := (metrolabref31_Few.f l0).bind fun t287 => (if t287 = true then ((points_Shift.f l0 a1_0 a1_1 a1_2).bind fun bt289 => ((metrolabref31_Shift.f k l0 a1_0 a1_1 a1_2).bind fun bt293 => ((api_Spot_21.f k bt289.1 bt293.1).bind fun t297 => (if t297 = true then (if bt289.2 = bt293.2 then ((metrolablaw31_awake.f k).bind fun t298 => (some t298)) else (some false)) else (some false))))) else ((metrolablaw31_awake.f k).bind fun t288 => (some t288)))
theorem metrolablaw31_PointsShifts.mono : ∀ a0 a1 a2 a3 k, LeO (metrolablaw31_PointsShifts.f k a0 a1 a2 a3) (metrolablaw31_PointsShifts.f (k + 1) a0 a1 a2 a3) := by
  intro a0 a1 a2 a3 k
  unfold metrolablaw31_PointsShifts.f
  repeat' first
      | (with_reducible exact api_Spot_21.mono _ _ _)
      | (with_reducible exact metrolablaw31_awake.mono _)
      | (with_reducible exact metrolabref31_Shift.mono _ _ _ _ _)
      | (with_reducible exact LeO.refl _)
      | (with_reducible exact LeO.none _)
      | (with_reducible refine LeO.ite ?_ ?_)
      | (with_reducible refine LeO.bind ?_ (fun _ => ?_))
      | exact api_Spot_21.mono _ _ _
      | exact metrolablaw31_awake.mono _
      | exact metrolabref31_Shift.mono _ _ _ _ _
      | exact LeO.none _
      | refine LeO.ite ?_ ?_
      | refine LeO.bind ?_ (fun _ => ?_)
set_option maxHeartbeats 8000000 in
set_option maxRecDepth 100000 in
theorem metrolablaw31_PointsShifts.calls (k : Nat) (A0 : Option Addr) (c0 : Nat) (l0 : List (S30)) (a1_0 : Int) (a1_1 : Int) (a1_2 : Int) (r : Bool) (w : World) (hr0 : Kd.C k30 w A0 l0.length l0) (hc0 : l0.length ≤ c0) (h : metrolablaw31_PointsShifts.f k l0 a1_0 a1_1 a1_2 = some r) :
    Calls Try.prog 5 #[.slice A0 l0.length c0, .agg #[.int .i64 a1_0, .int .i64 a1_1, .int .i64 a1_2]] w fun e w' => e = .returned (.bool r) ∧ Below w.heap.size w w' := by
  have hu30 := Try.underlying30
  have HR0 := Aside0.mk hr0
  have HC0 := Aside0.mk hc0
  clear hr0 hc0
  have HB := Aside0.mk (Below.refl w.heap.size w)
  have H : ((metrolabref31_Few.f l0).bind fun t287 => (if t287 = true then ((points_Shift.f l0 a1_0 a1_1 a1_2).bind fun bt289 => ((metrolabref31_Shift.f k l0 a1_0 a1_1 a1_2).bind fun bt293 => ((api_Spot_21.f k bt289.1 bt293.1).bind fun t297 => (if t297 = true then (if bt289.2 = bt293.2 then ((metrolablaw31_awake.f k).bind fun t298 => (some t298)) else (some false)) else (some false))))) else ((metrolablaw31_awake.f k).bind fun t288 => (some t288)))) = some r := h
  clear h
  replace H := Option.bind_eq_some_iff.mp H
  obtain ⟨t287, A30, H⟩ := H
  replace H : (if t287 = true then ((points_Shift.f l0 a1_0 a1_1 a1_2).bind fun bt289 => ((metrolabref31_Shift.f k l0 a1_0 a1_1 a1_2).bind fun bt293 => ((api_Spot_21.f k bt289.1 bt293.1).bind fun t297 => (if t297 = true then (if bt289.2 = bt293.2 then ((metrolablaw31_awake.f k).bind fun t298 => (some t298)) else (some false)) else (some false))))) else ((metrolablaw31_awake.f k).bind fun t288 => (some t288))) = some r := H
  have A3 := Aside0.mk A30
  clear A30
  by_cases c4 : t287 = true
  · subst c4
    have H1 : ((points_Shift.f l0 a1_0 a1_1 a1_2).bind fun bt289 => ((metrolabref31_Shift.f k l0 a1_0 a1_1 a1_2).bind fun bt293 => ((api_Spot_21.f k bt289.1 bt293.1).bind fun t297 => (if t297 = true then (if bt289.2 = bt293.2 then ((metrolablaw31_awake.f k).bind fun t298 => (some t298)) else (some false)) else (some false))))) = some r := by rw [if_pos rfl] at H; exact H
    clear H
    have H := H1
    clear H1
    replace H := Option.bind_eq_some_iff.mp H
    obtain ⟨⟨t289, t292⟩, A50, H⟩ := H
    replace H : ((metrolabref31_Shift.f k l0 a1_0 a1_1 a1_2).bind fun bt293 => ((api_Spot_21.f k t289 bt293.1).bind fun t297 => (if t297 = true then (if t292 = bt293.2 then ((metrolablaw31_awake.f k).bind fun t298 => (some t298)) else (some false)) else (some false)))) = some r := H
    have A5 := Aside0.mk A50
    clear A50
    replace H := Option.bind_eq_some_iff.mp H
    obtain ⟨⟨t293, t296⟩, A60, H⟩ := H
    replace H : ((api_Spot_21.f k t289 t293).bind fun t297 => (if t297 = true then (if t292 = t296 then ((metrolablaw31_awake.f k).bind fun t298 => (some t298)) else (some false)) else (some false))) = some r := H
    have A6 := Aside0.mk A60
    clear A60
    replace H := Option.bind_eq_some_iff.mp H
    obtain ⟨t297, A70, H⟩ := H
    replace H : (if t297 = true then (if t292 = t296 then ((metrolablaw31_awake.f k).bind fun t298 => (some t298)) else (some false)) else (some false)) = some r := H
    have A7 := Aside0.mk A70
    clear A70
    by_cases c8 : t297 = true
    · subst c8
      have H1 : (if t292 = t296 then ((metrolablaw31_awake.f k).bind fun t298 => (some t298)) else (some false)) = some r := by rw [if_pos rfl] at H; exact H
      clear H
      have H := H1
      clear H1
      by_cases c9 : t292 = t296
      · rw [if_pos c9] at H
        have c9b0 : (t292 == t296) = true := beq_iff_eq.mpr c9
        have c9b1 : (t292 != t296) = false := bne_eq_false_iff_eq.mpr c9
        clear c9
        replace H := Option.bind_eq_some_iff.mp H
        obtain ⟨t298, A100, H⟩ := H
        replace H : (some t298) = some r := H
        have A10 := Aside0.mk A100
        clear A100
        obtain rfl := Option.some.inj H
        go_enter Try.func5, Try.ntmps5
        go_wp2_with (first | ((with_reducible refine gate_dst (N := 3) rfl ?_); refine box_event ?hg (N := 3) ?hd (cs := #[.int .i64 a1_0, .int .i64 a1_1, .int .i64 a1_2]) (t := 30) ?hr ?_; (case hd => rfl); (case hg => rfl); (case hr => first | (go_simp; done) | (go_simp; rfl)); intro gb286 hg w11 hbox hb; have n0_ := Aside0.mk (below_step (by repeat (first | (with_reducible first | exact HB.out | apply below_alloc | apply pw_below_drewN | apply below_drew1) | exact HB.out)) hb); have n1_ := Aside0.mk (hbox); have n2_ := Aside0.mk ((by rw [hg]; exact (below_size (by repeat (first | (with_reducible first | exact HB.out | apply below_alloc | apply pw_below_drewN | apply below_drew1) | exact HB.out))) : w.heap.size ≤ gb286)); have n3_ := Aside0.mk ((by rw [hg]; exact (below_size (by repeat (first | (with_reducible first | exact HB.out | apply below_alloc | apply pw_below_drewN | apply below_drew1) | exact HB.out))) : w.heap.size ≤ gb286)); clear HB; have HB := n0_; have BK286 := n1_; have GW286 := n2_; have GE286 := n3_; clear n0_ n1_ n2_ n3_; clear hb hbox hg) | ((with_reducible refine gate_callee (f := 16) rfl ?_); refine goesL_ (some 10) rfl rfl Try.func16 (by kernel_rfl) rfl #[.slice A0 l0.length c0] rfl (by (try simp only [List.map_toArray, List.map_cons, List.map_nil]); first | done | rfl | (simp only [List.length_drop, List.length_take]; rfl)) ?_; (with_reducible refine (metrolabref31_Few.calls _ _ l0 true _ ?side1 ?side2 A3.out).mono ?_); (case side1 => repeat (first | exact (Kd.C_below HR0.out HB.out) | (with_reducible refine Kd.C_alloc ?_ _) | (with_reducible refine Kd.C_drewN ?_ _) | (with_reducible refine Kd.C_drew ?_))); (case side2 => exact HC0.out); rintro e w' ⟨rfl, ⟨nd, rfl⟩⟩; refine ⟨_, rfl, ?_⟩; have hcz12_0 : w11.cell? ⟨gb286, 0, none⟩ = some (.int .i64 a1_0) := (blk_cell BK286.out 0).trans rfl; have hcz12_1 : w11.cell? ⟨gb286, 1, none⟩ = some (.int .i64 a1_1) := (blk_cell BK286.out 1).trans rfl; have hcz12_2 : w11.cell? ⟨gb286, 2, none⟩ = some (.int .i64 a1_2) := (blk_cell BK286.out 2).trans rfl; have hfz12_0 := blk_frozen BK286.out 0; have hfz12_1 := blk_frozen BK286.out 1; have hfz12_2 := blk_frozen BK286.out 2) | ((with_reducible refine gate_callee (f := 25) rfl ?_); refine goesL_ (some 16) rfl rfl Try.func25 (by kernel_rfl) rfl #[.slice A0 l0.length c0, .agg #[.int .i64 a1_0, .int .i64 a1_1, .int .i64 a1_2]] rfl (by (try simp only [List.map_toArray, List.map_cons, List.map_nil]); first | done | rfl | (simp only [List.length_drop, List.length_take]; rfl)) ?_; (with_reducible refine (points_Shift.calls _ _ l0 a1_0 a1_1 a1_2 t289 t292 _ ?side1 ?side2 A5.out).mono ?_); (case side1 => repeat (first | exact (Kd.C_below HR0.out (by repeat (first | (with_reducible first | exact HB.out | apply below_alloc | apply pw_below_drewN | apply below_drew1 | refine below_set ?_ GE286.out) | exact HB.out))) | (with_reducible refine Kd.C_alloc ?_ _) | (with_reducible refine Kd.C_drewN ?_ _) | (with_reducible refine Kd.C_drew ?_))); (case side2 => exact HC0.out); rintro e w13 ⟨v290, rfl, ho0, hb⟩; refine ⟨_, rfl, ?_⟩; have n0_ := Aside0.mk (Kd.R_lower (Kd.R_newB ho0 (g := gb286) (o := .cells #[.int .i64 a1_0, .int .i64 a1_1, .int .i64 a1_2] 30 (0, 0)) (by (with_reducible repeat (first | refine blk_drewN ?_ _ | refine blk_drew ?_ | refine blk_alloc ?_ _)); exact BK286.out)) (below_size (by repeat (first | (with_reducible first | exact HB.out | apply below_alloc | apply pw_below_drewN | apply below_drew1 | refine below_set ?_ GE286.out) | exact HB.out)))); have n1_ := Aside0.mk (blk_below (g := gb286) (o := .cells #[.int .i64 a1_0, .int .i64 a1_1, .int .i64 a1_2] 30 (0, 0)) (by (with_reducible repeat (first | refine blk_drewN ?_ _ | refine blk_drew ?_ | refine blk_alloc ?_ _)); exact BK286.out) hb); have n2_ := Aside0.mk (below_step (by repeat (first | (with_reducible first | exact HB.out | apply below_alloc | apply pw_below_drewN | apply below_drew1 | refine below_set ?_ GE286.out) | exact HB.out)) hb); clear BK286; clear HB; have HO291 := n0_; have BK286 := n1_; have HB := n2_; clear n0_ n1_ n2_; (try clear hb); (try clear hb2); (try clear hk); (try clear hi); (try clear ho0); have hcz14_0 : w13.cell? ⟨gb286, 0, none⟩ = some (.int .i64 a1_0) := (blk_cell BK286.out 0).trans rfl; have hcz14_1 : w13.cell? ⟨gb286, 1, none⟩ = some (.int .i64 a1_1) := (blk_cell BK286.out 1).trans rfl; have hcz14_2 : w13.cell? ⟨gb286, 2, none⟩ = some (.int .i64 a1_2) := (blk_cell BK286.out 2).trans rfl; have hfz14_0 := blk_frozen BK286.out 0; have hfz14_1 := blk_frozen BK286.out 1; have hfz14_2 := blk_frozen BK286.out 2) | ((with_reducible refine gate_callee (f := 26) rfl ?_); refine goesL_ (some 22) rfl rfl Try.func26 (by kernel_rfl) rfl #[.slice A0 l0.length c0, .agg #[.int .i64 a1_0, .int .i64 a1_1, .int .i64 a1_2]] rfl (by (try simp only [List.map_toArray, List.map_cons, List.map_nil]); first | done | rfl | (simp only [List.length_drop, List.length_take]; rfl)) ?_; (with_reducible refine (metrolabref31_Shift.calls k _ _ l0 a1_0 a1_1 a1_2 t293 t296 _ ?side1 ?side2 A6.out).mono ?_); (case side1 => repeat (first | exact (Kd.C_below HR0.out HB.out) | (with_reducible refine Kd.C_alloc ?_ _) | (with_reducible refine Kd.C_drewN ?_ _) | (with_reducible refine Kd.C_drew ?_))); (case side2 => exact HC0.out); rintro e w15 ⟨v294, rfl, ho0, hb⟩; refine ⟨_, rfl, ?_⟩; have n0_ := Aside0.mk (Kd.R_elder' (by (with_reducible repeat (first | apply Kd.R_alloc | apply Kd.R_drewN | apply Kd.R_drew)); exact HO291.out) (Kd.R_base ho0) hb); have n1_ := Aside0.mk (Kd.R_lower (Kd.R_newB (Kd.R_new' ho0 (Kd.R_lt (by (with_reducible repeat (first | apply Kd.R_alloc | apply Kd.R_drewN | apply Kd.R_drew)); exact HO291.out))) (g := gb286) (o := .cells #[.int .i64 a1_0, .int .i64 a1_1, .int .i64 a1_2] 30 (0, 0)) (by (with_reducible repeat (first | refine blk_drewN ?_ _ | refine blk_drew ?_ | refine blk_alloc ?_ _)); exact BK286.out)) (below_size (by repeat (first | (with_reducible first | exact HB.out | apply below_alloc | apply pw_below_drewN | apply below_drew1 | refine below_set ?_ GE286.out) | exact HB.out)))); have n2_ := Aside0.mk (blk_below (g := gb286) (o := .cells #[.int .i64 a1_0, .int .i64 a1_1, .int .i64 a1_2] 30 (0, 0)) (by (with_reducible repeat (first | refine blk_drewN ?_ _ | refine blk_drew ?_ | refine blk_alloc ?_ _)); exact BK286.out) hb); have n3_ := Aside0.mk (below_step (by repeat (first | (with_reducible first | exact HB.out | apply below_alloc | apply pw_below_drewN | apply below_drew1 | refine below_set ?_ GE286.out) | exact HB.out)) hb); clear HO291; clear BK286; clear HB; have HO291 := n0_; have HO295 := n1_; have BK286 := n2_; have HB := n3_; clear n0_ n1_ n2_ n3_; (try clear hb); (try clear hb2); (try clear hk); (try clear hi); (try clear ho0); obtain ⟨Ao16, co16, eo16⟩ := Kd.R_slice HO291.out; subst eo16; obtain ⟨Ao17, co17, eo17⟩ := Kd.R_slice HO295.out; subst eo17) | ((with_reducible refine gate_callee (f := 21) rfl ?_); refine goesL_ (some 27) rfl rfl Try.func21 (by kernel_rfl) rfl #[.slice Ao16 t289.length co16, .slice Ao17 t293.length co17] rfl (by (try simp only [List.map_toArray, List.map_cons, List.map_nil]); first | done | rfl | (simp only [List.length_drop, List.length_take]; rfl)) ?_; (with_reducible refine (api_Spot_21.calls k _ _ t289 _ _ t293 true _ ?side1 ?side2 ?side3 ?side4 A7.out).mono ?_); (case side1 => repeat (first | exact (Kd.R_reads' HO291.out).2.2 | (with_reducible refine Kd.C_alloc ?_ _) | (with_reducible refine Kd.C_drewN ?_ _) | (with_reducible refine Kd.C_drew ?_))); (case side2 => exact (Kd.R_reads' HO291.out).2.1); (case side3 => repeat (first | exact (Kd.R_reads' HO295.out).2.2 | (with_reducible refine Kd.C_alloc ?_ _) | (with_reducible refine Kd.C_drewN ?_ _) | (with_reducible refine Kd.C_drew ?_))); (case side4 => exact (Kd.R_reads' HO295.out).2.1); rintro e w' ⟨rfl, ⟨nd, rfl⟩⟩; refine ⟨_, rfl, ?_⟩) | (go_at_call 13; (with_reducible refine (metrolablaw31_awake.calls k  t298 _ A10.out).mono ?_); rintro e w18 ⟨rfl, hb⟩; have n0_ := Aside0.mk (Kd.R_below (by (with_reducible repeat (first | apply Kd.R_alloc | apply Kd.R_drewN | apply Kd.R_drew)); exact HO291.out) hb); have n1_ := Aside0.mk (Kd.R_below (by (with_reducible repeat (first | apply Kd.R_alloc | apply Kd.R_drewN | apply Kd.R_drew)); exact HO295.out) hb); have n2_ := Aside0.mk (blk_below (g := gb286) (o := .cells #[.int .i64 a1_0, .int .i64 a1_1, .int .i64 a1_2] 30 (0, 0)) (by (with_reducible repeat (first | refine blk_drewN ?_ _ | refine blk_drew ?_ | refine blk_alloc ?_ _)); exact BK286.out) hb); have n3_ := Aside0.mk (below_step (by repeat (first | (with_reducible first | exact HB.out | apply below_alloc | apply pw_below_drewN | apply below_drew1 | refine below_set ?_ GE286.out) | exact HB.out)) hb); clear HO291; clear HO295; clear BK286; clear HB; have HO291 := n0_; have HO295 := n1_; have BK286 := n2_; have HB := n3_; clear n0_ n1_ n2_ n3_; (try clear hb); (try clear hb2); (try clear hk); (try clear hi)))
        go_ret
        exact ⟨by first | rfl | (simp [errW_none, errW_some] <;> rfl) | (simp [*, errW_none, errW_some] <;> rfl), by repeat (first | (with_reducible first | exact HB.out | apply below_alloc | apply pw_below_drewN | apply below_drew1 | refine below_set ?_ GE286.out) | exact HB.out)⟩
      · rw [if_neg c9] at H
        have c9b0 : (t292 == t296) = false := beq_eq_false_iff_ne.mpr c9
        have c9b1 : (t292 != t296) = true := bne_iff_ne.mpr c9
        obtain rfl := Option.some.inj H
        go_enter Try.func5, Try.ntmps5
        go_wp2_with (first | ((with_reducible refine gate_dst (N := 3) rfl ?_); refine box_event ?hg (N := 3) ?hd (cs := #[.int .i64 a1_0, .int .i64 a1_1, .int .i64 a1_2]) (t := 30) ?hr ?_; (case hd => rfl); (case hg => rfl); (case hr => first | (go_simp; done) | (go_simp; rfl)); intro gb286 hg w19 hbox hb; have n0_ := Aside0.mk (below_step (by repeat (first | (with_reducible first | exact HB.out | apply below_alloc | apply pw_below_drewN | apply below_drew1) | exact HB.out)) hb); have n1_ := Aside0.mk (hbox); have n2_ := Aside0.mk ((by rw [hg]; exact (below_size (by repeat (first | (with_reducible first | exact HB.out | apply below_alloc | apply pw_below_drewN | apply below_drew1) | exact HB.out))) : w.heap.size ≤ gb286)); have n3_ := Aside0.mk ((by rw [hg]; exact (below_size (by repeat (first | (with_reducible first | exact HB.out | apply below_alloc | apply pw_below_drewN | apply below_drew1) | exact HB.out))) : w.heap.size ≤ gb286)); clear HB; have HB := n0_; have BK286 := n1_; have GW286 := n2_; have GE286 := n3_; clear n0_ n1_ n2_ n3_; clear hb hbox hg) | ((with_reducible refine gate_callee (f := 16) rfl ?_); refine goesL_ (some 10) rfl rfl Try.func16 (by kernel_rfl) rfl #[.slice A0 l0.length c0] rfl (by (try simp only [List.map_toArray, List.map_cons, List.map_nil]); first | done | rfl | (simp only [List.length_drop, List.length_take]; rfl)) ?_; (with_reducible refine (metrolabref31_Few.calls _ _ l0 true _ ?side1 ?side2 A3.out).mono ?_); (case side1 => repeat (first | exact (Kd.C_below HR0.out HB.out) | (with_reducible refine Kd.C_alloc ?_ _) | (with_reducible refine Kd.C_drewN ?_ _) | (with_reducible refine Kd.C_drew ?_))); (case side2 => exact HC0.out); rintro e w' ⟨rfl, ⟨nd, rfl⟩⟩; refine ⟨_, rfl, ?_⟩; have hcz20_0 : w19.cell? ⟨gb286, 0, none⟩ = some (.int .i64 a1_0) := (blk_cell BK286.out 0).trans rfl; have hcz20_1 : w19.cell? ⟨gb286, 1, none⟩ = some (.int .i64 a1_1) := (blk_cell BK286.out 1).trans rfl; have hcz20_2 : w19.cell? ⟨gb286, 2, none⟩ = some (.int .i64 a1_2) := (blk_cell BK286.out 2).trans rfl; have hfz20_0 := blk_frozen BK286.out 0; have hfz20_1 := blk_frozen BK286.out 1; have hfz20_2 := blk_frozen BK286.out 2) | ((with_reducible refine gate_callee (f := 25) rfl ?_); refine goesL_ (some 16) rfl rfl Try.func25 (by kernel_rfl) rfl #[.slice A0 l0.length c0, .agg #[.int .i64 a1_0, .int .i64 a1_1, .int .i64 a1_2]] rfl (by (try simp only [List.map_toArray, List.map_cons, List.map_nil]); first | done | rfl | (simp only [List.length_drop, List.length_take]; rfl)) ?_; (with_reducible refine (points_Shift.calls _ _ l0 a1_0 a1_1 a1_2 t289 t292 _ ?side1 ?side2 A5.out).mono ?_); (case side1 => repeat (first | exact (Kd.C_below HR0.out (by repeat (first | (with_reducible first | exact HB.out | apply below_alloc | apply pw_below_drewN | apply below_drew1 | refine below_set ?_ GE286.out) | exact HB.out))) | (with_reducible refine Kd.C_alloc ?_ _) | (with_reducible refine Kd.C_drewN ?_ _) | (with_reducible refine Kd.C_drew ?_))); (case side2 => exact HC0.out); rintro e w21 ⟨v290, rfl, ho0, hb⟩; refine ⟨_, rfl, ?_⟩; have n0_ := Aside0.mk (Kd.R_lower (Kd.R_newB ho0 (g := gb286) (o := .cells #[.int .i64 a1_0, .int .i64 a1_1, .int .i64 a1_2] 30 (0, 0)) (by (with_reducible repeat (first | refine blk_drewN ?_ _ | refine blk_drew ?_ | refine blk_alloc ?_ _)); exact BK286.out)) (below_size (by repeat (first | (with_reducible first | exact HB.out | apply below_alloc | apply pw_below_drewN | apply below_drew1 | refine below_set ?_ GE286.out) | exact HB.out)))); have n1_ := Aside0.mk (blk_below (g := gb286) (o := .cells #[.int .i64 a1_0, .int .i64 a1_1, .int .i64 a1_2] 30 (0, 0)) (by (with_reducible repeat (first | refine blk_drewN ?_ _ | refine blk_drew ?_ | refine blk_alloc ?_ _)); exact BK286.out) hb); have n2_ := Aside0.mk (below_step (by repeat (first | (with_reducible first | exact HB.out | apply below_alloc | apply pw_below_drewN | apply below_drew1 | refine below_set ?_ GE286.out) | exact HB.out)) hb); clear BK286; clear HB; have HO291 := n0_; have BK286 := n1_; have HB := n2_; clear n0_ n1_ n2_; (try clear hb); (try clear hb2); (try clear hk); (try clear hi); (try clear ho0); have hcz22_0 : w21.cell? ⟨gb286, 0, none⟩ = some (.int .i64 a1_0) := (blk_cell BK286.out 0).trans rfl; have hcz22_1 : w21.cell? ⟨gb286, 1, none⟩ = some (.int .i64 a1_1) := (blk_cell BK286.out 1).trans rfl; have hcz22_2 : w21.cell? ⟨gb286, 2, none⟩ = some (.int .i64 a1_2) := (blk_cell BK286.out 2).trans rfl; have hfz22_0 := blk_frozen BK286.out 0; have hfz22_1 := blk_frozen BK286.out 1; have hfz22_2 := blk_frozen BK286.out 2) | ((with_reducible refine gate_callee (f := 26) rfl ?_); refine goesL_ (some 22) rfl rfl Try.func26 (by kernel_rfl) rfl #[.slice A0 l0.length c0, .agg #[.int .i64 a1_0, .int .i64 a1_1, .int .i64 a1_2]] rfl (by (try simp only [List.map_toArray, List.map_cons, List.map_nil]); first | done | rfl | (simp only [List.length_drop, List.length_take]; rfl)) ?_; (with_reducible refine (metrolabref31_Shift.calls k _ _ l0 a1_0 a1_1 a1_2 t293 t296 _ ?side1 ?side2 A6.out).mono ?_); (case side1 => repeat (first | exact (Kd.C_below HR0.out HB.out) | (with_reducible refine Kd.C_alloc ?_ _) | (with_reducible refine Kd.C_drewN ?_ _) | (with_reducible refine Kd.C_drew ?_))); (case side2 => exact HC0.out); rintro e w23 ⟨v294, rfl, ho0, hb⟩; refine ⟨_, rfl, ?_⟩; have n0_ := Aside0.mk (Kd.R_elder' (by (with_reducible repeat (first | apply Kd.R_alloc | apply Kd.R_drewN | apply Kd.R_drew)); exact HO291.out) (Kd.R_base ho0) hb); have n1_ := Aside0.mk (Kd.R_lower (Kd.R_newB (Kd.R_new' ho0 (Kd.R_lt (by (with_reducible repeat (first | apply Kd.R_alloc | apply Kd.R_drewN | apply Kd.R_drew)); exact HO291.out))) (g := gb286) (o := .cells #[.int .i64 a1_0, .int .i64 a1_1, .int .i64 a1_2] 30 (0, 0)) (by (with_reducible repeat (first | refine blk_drewN ?_ _ | refine blk_drew ?_ | refine blk_alloc ?_ _)); exact BK286.out)) (below_size (by repeat (first | (with_reducible first | exact HB.out | apply below_alloc | apply pw_below_drewN | apply below_drew1 | refine below_set ?_ GE286.out) | exact HB.out)))); have n2_ := Aside0.mk (blk_below (g := gb286) (o := .cells #[.int .i64 a1_0, .int .i64 a1_1, .int .i64 a1_2] 30 (0, 0)) (by (with_reducible repeat (first | refine blk_drewN ?_ _ | refine blk_drew ?_ | refine blk_alloc ?_ _)); exact BK286.out) hb); have n3_ := Aside0.mk (below_step (by repeat (first | (with_reducible first | exact HB.out | apply below_alloc | apply pw_below_drewN | apply below_drew1 | refine below_set ?_ GE286.out) | exact HB.out)) hb); clear HO291; clear BK286; clear HB; have HO291 := n0_; have HO295 := n1_; have BK286 := n2_; have HB := n3_; clear n0_ n1_ n2_ n3_; (try clear hb); (try clear hb2); (try clear hk); (try clear hi); (try clear ho0); obtain ⟨Ao24, co24, eo24⟩ := Kd.R_slice HO291.out; subst eo24; obtain ⟨Ao25, co25, eo25⟩ := Kd.R_slice HO295.out; subst eo25) | ((with_reducible refine gate_callee (f := 21) rfl ?_); refine goesL_ (some 27) rfl rfl Try.func21 (by kernel_rfl) rfl #[.slice Ao24 t289.length co24, .slice Ao25 t293.length co25] rfl (by (try simp only [List.map_toArray, List.map_cons, List.map_nil]); first | done | rfl | (simp only [List.length_drop, List.length_take]; rfl)) ?_; (with_reducible refine (api_Spot_21.calls k _ _ t289 _ _ t293 true _ ?side1 ?side2 ?side3 ?side4 A7.out).mono ?_); (case side1 => repeat (first | exact (Kd.R_reads' HO291.out).2.2 | (with_reducible refine Kd.C_alloc ?_ _) | (with_reducible refine Kd.C_drewN ?_ _) | (with_reducible refine Kd.C_drew ?_))); (case side2 => exact (Kd.R_reads' HO291.out).2.1); (case side3 => repeat (first | exact (Kd.R_reads' HO295.out).2.2 | (with_reducible refine Kd.C_alloc ?_ _) | (with_reducible refine Kd.C_drewN ?_ _) | (with_reducible refine Kd.C_drew ?_))); (case side4 => exact (Kd.R_reads' HO295.out).2.1); rintro e w' ⟨rfl, ⟨nd, rfl⟩⟩; refine ⟨_, rfl, ?_⟩))
        go_ret
        exact ⟨by first | rfl | (simp [errW_none, errW_some] <;> rfl) | (simp [*, errW_none, errW_some] <;> rfl), by repeat (first | (with_reducible first | exact HB.out | apply below_alloc | apply pw_below_drewN | apply below_drew1 | refine below_set ?_ GE286.out) | exact HB.out)⟩
    · replace c8 := Bool.eq_false_iff.mpr c8
      subst c8
      have H1 : (some false) = some r := by rw [if_neg (show ¬ (false = true) by decide)] at H; exact H
      clear H
      have H := H1
      clear H1
      obtain rfl := Option.some.inj H
      go_enter Try.func5, Try.ntmps5
      go_wp2_with (first | ((with_reducible refine gate_dst (N := 3) rfl ?_); refine box_event ?hg (N := 3) ?hd (cs := #[.int .i64 a1_0, .int .i64 a1_1, .int .i64 a1_2]) (t := 30) ?hr ?_; (case hd => rfl); (case hg => rfl); (case hr => first | (go_simp; done) | (go_simp; rfl)); intro gb286 hg w26 hbox hb; have n0_ := Aside0.mk (below_step (by repeat (first | (with_reducible first | exact HB.out | apply below_alloc | apply pw_below_drewN | apply below_drew1) | exact HB.out)) hb); have n1_ := Aside0.mk (hbox); have n2_ := Aside0.mk ((by rw [hg]; exact (below_size (by repeat (first | (with_reducible first | exact HB.out | apply below_alloc | apply pw_below_drewN | apply below_drew1) | exact HB.out))) : w.heap.size ≤ gb286)); have n3_ := Aside0.mk ((by rw [hg]; exact (below_size (by repeat (first | (with_reducible first | exact HB.out | apply below_alloc | apply pw_below_drewN | apply below_drew1) | exact HB.out))) : w.heap.size ≤ gb286)); clear HB; have HB := n0_; have BK286 := n1_; have GW286 := n2_; have GE286 := n3_; clear n0_ n1_ n2_ n3_; clear hb hbox hg) | ((with_reducible refine gate_callee (f := 16) rfl ?_); refine goesL_ (some 10) rfl rfl Try.func16 (by kernel_rfl) rfl #[.slice A0 l0.length c0] rfl (by (try simp only [List.map_toArray, List.map_cons, List.map_nil]); first | done | rfl | (simp only [List.length_drop, List.length_take]; rfl)) ?_; (with_reducible refine (metrolabref31_Few.calls _ _ l0 true _ ?side1 ?side2 A3.out).mono ?_); (case side1 => repeat (first | exact (Kd.C_below HR0.out HB.out) | (with_reducible refine Kd.C_alloc ?_ _) | (with_reducible refine Kd.C_drewN ?_ _) | (with_reducible refine Kd.C_drew ?_))); (case side2 => exact HC0.out); rintro e w' ⟨rfl, ⟨nd, rfl⟩⟩; refine ⟨_, rfl, ?_⟩; have hcz27_0 : w26.cell? ⟨gb286, 0, none⟩ = some (.int .i64 a1_0) := (blk_cell BK286.out 0).trans rfl; have hcz27_1 : w26.cell? ⟨gb286, 1, none⟩ = some (.int .i64 a1_1) := (blk_cell BK286.out 1).trans rfl; have hcz27_2 : w26.cell? ⟨gb286, 2, none⟩ = some (.int .i64 a1_2) := (blk_cell BK286.out 2).trans rfl; have hfz27_0 := blk_frozen BK286.out 0; have hfz27_1 := blk_frozen BK286.out 1; have hfz27_2 := blk_frozen BK286.out 2) | ((with_reducible refine gate_callee (f := 25) rfl ?_); refine goesL_ (some 16) rfl rfl Try.func25 (by kernel_rfl) rfl #[.slice A0 l0.length c0, .agg #[.int .i64 a1_0, .int .i64 a1_1, .int .i64 a1_2]] rfl (by (try simp only [List.map_toArray, List.map_cons, List.map_nil]); first | done | rfl | (simp only [List.length_drop, List.length_take]; rfl)) ?_; (with_reducible refine (points_Shift.calls _ _ l0 a1_0 a1_1 a1_2 t289 t292 _ ?side1 ?side2 A5.out).mono ?_); (case side1 => repeat (first | exact (Kd.C_below HR0.out (by repeat (first | (with_reducible first | exact HB.out | apply below_alloc | apply pw_below_drewN | apply below_drew1 | refine below_set ?_ GE286.out) | exact HB.out))) | (with_reducible refine Kd.C_alloc ?_ _) | (with_reducible refine Kd.C_drewN ?_ _) | (with_reducible refine Kd.C_drew ?_))); (case side2 => exact HC0.out); rintro e w28 ⟨v290, rfl, ho0, hb⟩; refine ⟨_, rfl, ?_⟩; have n0_ := Aside0.mk (Kd.R_lower (Kd.R_newB ho0 (g := gb286) (o := .cells #[.int .i64 a1_0, .int .i64 a1_1, .int .i64 a1_2] 30 (0, 0)) (by (with_reducible repeat (first | refine blk_drewN ?_ _ | refine blk_drew ?_ | refine blk_alloc ?_ _)); exact BK286.out)) (below_size (by repeat (first | (with_reducible first | exact HB.out | apply below_alloc | apply pw_below_drewN | apply below_drew1 | refine below_set ?_ GE286.out) | exact HB.out)))); have n1_ := Aside0.mk (blk_below (g := gb286) (o := .cells #[.int .i64 a1_0, .int .i64 a1_1, .int .i64 a1_2] 30 (0, 0)) (by (with_reducible repeat (first | refine blk_drewN ?_ _ | refine blk_drew ?_ | refine blk_alloc ?_ _)); exact BK286.out) hb); have n2_ := Aside0.mk (below_step (by repeat (first | (with_reducible first | exact HB.out | apply below_alloc | apply pw_below_drewN | apply below_drew1 | refine below_set ?_ GE286.out) | exact HB.out)) hb); clear BK286; clear HB; have HO291 := n0_; have BK286 := n1_; have HB := n2_; clear n0_ n1_ n2_; (try clear hb); (try clear hb2); (try clear hk); (try clear hi); (try clear ho0); have hcz29_0 : w28.cell? ⟨gb286, 0, none⟩ = some (.int .i64 a1_0) := (blk_cell BK286.out 0).trans rfl; have hcz29_1 : w28.cell? ⟨gb286, 1, none⟩ = some (.int .i64 a1_1) := (blk_cell BK286.out 1).trans rfl; have hcz29_2 : w28.cell? ⟨gb286, 2, none⟩ = some (.int .i64 a1_2) := (blk_cell BK286.out 2).trans rfl; have hfz29_0 := blk_frozen BK286.out 0; have hfz29_1 := blk_frozen BK286.out 1; have hfz29_2 := blk_frozen BK286.out 2) | ((with_reducible refine gate_callee (f := 26) rfl ?_); refine goesL_ (some 22) rfl rfl Try.func26 (by kernel_rfl) rfl #[.slice A0 l0.length c0, .agg #[.int .i64 a1_0, .int .i64 a1_1, .int .i64 a1_2]] rfl (by (try simp only [List.map_toArray, List.map_cons, List.map_nil]); first | done | rfl | (simp only [List.length_drop, List.length_take]; rfl)) ?_; (with_reducible refine (metrolabref31_Shift.calls k _ _ l0 a1_0 a1_1 a1_2 t293 t296 _ ?side1 ?side2 A6.out).mono ?_); (case side1 => repeat (first | exact (Kd.C_below HR0.out HB.out) | (with_reducible refine Kd.C_alloc ?_ _) | (with_reducible refine Kd.C_drewN ?_ _) | (with_reducible refine Kd.C_drew ?_))); (case side2 => exact HC0.out); rintro e w30 ⟨v294, rfl, ho0, hb⟩; refine ⟨_, rfl, ?_⟩; have n0_ := Aside0.mk (Kd.R_elder' (by (with_reducible repeat (first | apply Kd.R_alloc | apply Kd.R_drewN | apply Kd.R_drew)); exact HO291.out) (Kd.R_base ho0) hb); have n1_ := Aside0.mk (Kd.R_lower (Kd.R_newB (Kd.R_new' ho0 (Kd.R_lt (by (with_reducible repeat (first | apply Kd.R_alloc | apply Kd.R_drewN | apply Kd.R_drew)); exact HO291.out))) (g := gb286) (o := .cells #[.int .i64 a1_0, .int .i64 a1_1, .int .i64 a1_2] 30 (0, 0)) (by (with_reducible repeat (first | refine blk_drewN ?_ _ | refine blk_drew ?_ | refine blk_alloc ?_ _)); exact BK286.out)) (below_size (by repeat (first | (with_reducible first | exact HB.out | apply below_alloc | apply pw_below_drewN | apply below_drew1 | refine below_set ?_ GE286.out) | exact HB.out)))); have n2_ := Aside0.mk (blk_below (g := gb286) (o := .cells #[.int .i64 a1_0, .int .i64 a1_1, .int .i64 a1_2] 30 (0, 0)) (by (with_reducible repeat (first | refine blk_drewN ?_ _ | refine blk_drew ?_ | refine blk_alloc ?_ _)); exact BK286.out) hb); have n3_ := Aside0.mk (below_step (by repeat (first | (with_reducible first | exact HB.out | apply below_alloc | apply pw_below_drewN | apply below_drew1 | refine below_set ?_ GE286.out) | exact HB.out)) hb); clear HO291; clear BK286; clear HB; have HO291 := n0_; have HO295 := n1_; have BK286 := n2_; have HB := n3_; clear n0_ n1_ n2_ n3_; (try clear hb); (try clear hb2); (try clear hk); (try clear hi); (try clear ho0); obtain ⟨Ao31, co31, eo31⟩ := Kd.R_slice HO291.out; subst eo31; obtain ⟨Ao32, co32, eo32⟩ := Kd.R_slice HO295.out; subst eo32) | ((with_reducible refine gate_callee (f := 21) rfl ?_); refine goesL_ (some 27) rfl rfl Try.func21 (by kernel_rfl) rfl #[.slice Ao31 t289.length co31, .slice Ao32 t293.length co32] rfl (by (try simp only [List.map_toArray, List.map_cons, List.map_nil]); first | done | rfl | (simp only [List.length_drop, List.length_take]; rfl)) ?_; (with_reducible refine (api_Spot_21.calls k _ _ t289 _ _ t293 false _ ?side1 ?side2 ?side3 ?side4 A7.out).mono ?_); (case side1 => repeat (first | exact (Kd.R_reads' HO291.out).2.2 | (with_reducible refine Kd.C_alloc ?_ _) | (with_reducible refine Kd.C_drewN ?_ _) | (with_reducible refine Kd.C_drew ?_))); (case side2 => exact (Kd.R_reads' HO291.out).2.1); (case side3 => repeat (first | exact (Kd.R_reads' HO295.out).2.2 | (with_reducible refine Kd.C_alloc ?_ _) | (with_reducible refine Kd.C_drewN ?_ _) | (with_reducible refine Kd.C_drew ?_))); (case side4 => exact (Kd.R_reads' HO295.out).2.1); rintro e w' ⟨rfl, ⟨nd, rfl⟩⟩; refine ⟨_, rfl, ?_⟩))
      go_ret
      exact ⟨by first | rfl | (simp [errW_none, errW_some] <;> rfl) | (simp [*, errW_none, errW_some] <;> rfl), by repeat (first | (with_reducible first | exact HB.out | apply below_alloc | apply pw_below_drewN | apply below_drew1 | refine below_set ?_ GE286.out) | exact HB.out)⟩
  · replace c4 := Bool.eq_false_iff.mpr c4
    subst c4
    have H1 : ((metrolablaw31_awake.f k).bind fun t288 => (some t288)) = some r := by rw [if_neg (show ¬ (false = true) by decide)] at H; exact H
    clear H
    have H := H1
    clear H1
    replace H := Option.bind_eq_some_iff.mp H
    obtain ⟨t288, A330, H⟩ := H
    replace H : (some t288) = some r := H
    have A33 := Aside0.mk A330
    clear A330
    obtain rfl := Option.some.inj H
    go_enter Try.func5, Try.ntmps5
    go_wp2_with (first | ((with_reducible refine gate_dst (N := 3) rfl ?_); refine box_event ?hg (N := 3) ?hd (cs := #[.int .i64 a1_0, .int .i64 a1_1, .int .i64 a1_2]) (t := 30) ?hr ?_; (case hd => rfl); (case hg => rfl); (case hr => first | (go_simp; done) | (go_simp; rfl)); intro gb286 hg w34 hbox hb; have n0_ := Aside0.mk (below_step (by repeat (first | (with_reducible first | exact HB.out | apply below_alloc | apply pw_below_drewN | apply below_drew1) | exact HB.out)) hb); have n1_ := Aside0.mk (hbox); have n2_ := Aside0.mk ((by rw [hg]; exact (below_size (by repeat (first | (with_reducible first | exact HB.out | apply below_alloc | apply pw_below_drewN | apply below_drew1) | exact HB.out))) : w.heap.size ≤ gb286)); have n3_ := Aside0.mk ((by rw [hg]; exact (below_size (by repeat (first | (with_reducible first | exact HB.out | apply below_alloc | apply pw_below_drewN | apply below_drew1) | exact HB.out))) : w.heap.size ≤ gb286)); clear HB; have HB := n0_; have BK286 := n1_; have GW286 := n2_; have GE286 := n3_; clear n0_ n1_ n2_ n3_; clear hb hbox hg) | ((with_reducible refine gate_callee (f := 16) rfl ?_); refine goesL_ (some 10) rfl rfl Try.func16 (by kernel_rfl) rfl #[.slice A0 l0.length c0] rfl (by (try simp only [List.map_toArray, List.map_cons, List.map_nil]); first | done | rfl | (simp only [List.length_drop, List.length_take]; rfl)) ?_; (with_reducible refine (metrolabref31_Few.calls _ _ l0 false _ ?side1 ?side2 A3.out).mono ?_); (case side1 => repeat (first | exact (Kd.C_below HR0.out HB.out) | (with_reducible refine Kd.C_alloc ?_ _) | (with_reducible refine Kd.C_drewN ?_ _) | (with_reducible refine Kd.C_drew ?_))); (case side2 => exact HC0.out); rintro e w' ⟨rfl, ⟨nd, rfl⟩⟩; refine ⟨_, rfl, ?_⟩) | ((with_reducible refine gate_callee (f := 13) rfl ?_); refine goesL_ (some 12) rfl rfl Try.func13 (by kernel_rfl) rfl #[] rfl (by (try simp only [List.map_toArray, List.map_cons, List.map_nil]); first | done | rfl | (simp only [List.length_drop, List.length_take]; rfl)) ?_; (with_reducible refine (metrolablaw31_awake.calls k  t288 _ A33.out).mono ?_); rintro e w35 ⟨rfl, hb⟩; refine ⟨_, rfl, ?_⟩; have n0_ := Aside0.mk (blk_below (g := gb286) (o := .cells #[.int .i64 a1_0, .int .i64 a1_1, .int .i64 a1_2] 30 (0, 0)) (by (with_reducible repeat (first | refine blk_drewN ?_ _ | refine blk_drew ?_ | refine blk_alloc ?_ _)); exact BK286.out) hb); have n1_ := Aside0.mk (below_step (by repeat (first | (with_reducible first | exact HB.out | apply below_alloc | apply pw_below_drewN | apply below_drew1 | refine below_set ?_ GE286.out) | exact HB.out)) hb); clear BK286; clear HB; have BK286 := n0_; have HB := n1_; clear n0_ n1_; (try clear hb); (try clear hb2); (try clear hk); (try clear hi)))
    go_ret
    exact ⟨by first | rfl | (simp [errW_none, errW_some] <;> rfl) | (simp [*, errW_none, errW_some] <;> rfl), by repeat (first | (with_reducible first | exact HB.out | apply below_alloc | apply pw_below_drewN | apply below_drew1 | refine below_set ?_ GE286.out) | exact HB.out)⟩

end Go.Proofs.Ytgfkodanekfekaa.X
